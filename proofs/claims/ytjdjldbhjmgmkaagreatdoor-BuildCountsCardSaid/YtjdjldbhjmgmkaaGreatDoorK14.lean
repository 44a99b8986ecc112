/- The document's writer. -/
import Derived.Test.YtjdjldbhjmgmkaaGreatDoorK13
import Derived.Test.YtjdjldbhjmgmkaaGreatDoorK09
import Derived.Shelf.SlSortCmp.InsertionK
import Derived.Sort.OwnSorted
namespace Cad
open Go Go.Proofs
open List renaming length→Io,map→Qi
open IntKind renaming wrap→Γ,i64→Δ
open AV renaming ptr→Qf,tup→Qe,agg→Qd,nils→Qb
open Tr renaming chk→Qc,«to»→Q9
open AO renaming box→Qa
open Sh renaming bool→Q7,str→Q6,expr→Q5
open Bool renaming false→Q4,true→Q3
open Option renaming none→Q2,some→Q1
open Decidable renaming decide→Q0
open Int (toNat)
open List (getD)
set_option maxHeartbeats 4000000
open Tr (chk br re)
open AV (nils agg tup ptr kb str sl)
noncomputable section
abbrev zpE:List CP:=[.d .str,.d .str,.d .str,.nil,.nil,.d .str,.nil,.nil,.d .str,.d zj,.d zj,.d .str,.d .str,.nil,.d (.sl zf),.nil,.d .str,.d zj,.d zj,.d .str,.d .str,.nil,.d .str]
abbrev zjH:List CP:=[.d .str,.d .str,.d .str,.nil,.nil,.d .str,.nil,.nil,.d .str,.d zj,.d zj,.d .str,.d .str,.nil,.nil,.d (.sl io),.d .expr,.d .str]
abbrev zrE:=kl [(15,[1,3,5,12,13]),(27,[1,3,5,8,9,14,15])]
inductive BS where
 |h15 (s12:List UInt8) (i13:Int) (z0:zn pG) (z1:zn jg) (z2:zn zpE)
 |h27 (s8:TS) (b9:Sem Q7) (s14:List UInt8) (i15:Int) (z0:zn pG) (z1:zn jg) (z2:zn zjH)
abbrev zup:BS->Nat×St
 |.h15 s i z a b=>(15,⟨tm 430 [(1,Qf 0 0),(3,Qf 1 0),(5,Qf 2 0),(12,str s),(13,ai i)],[Qa (bI [] pG z),Qa (bI [] jg a),Qa (bI [] zpE b)]⟩)
 |.h27 d c x h z a b=>(27,⟨tm 430 [(1,Qf 0 0),(3,Qf 1 0),(5,Qf 2 0),(8,str d),(9,AV.bool c),(14,str x),(15,ai h)],[Qa (bI [] pG z),Qa (bI [] jg a),Qa (bI [] zjH b)]⟩)
def oE(x:zJ):Tr (BS⊕aw):=
 let a0:=zr x.t.t.1
 let a1:=zr x.t.t.q.2.1
 let a2:=(x.1,x.2.1,x.2.2.1,x.2.2.2.1,x.t.1,x.t.2.1,x.t.q.1,x.t.q.2.1,a0,x.t.t.2.1,x.t.t.q.1,a1,x.t.t.t)
 let a3:=qB a2
 let k:=uk a1 ma
 let a5:=zb8++x.2.1
 let a6:=zch++x.2.1
 let a7:=VP++x.2.1
 let a8:=a7++ln
 let a9:=a8++x.2.2.1
 let p:=a9++AG
 let m:=JL x.2.2.2.1
 let u:=p++m.1
 let g:=u++iB
 let a:=uk a0 []
 let n:=ea x.2.2.1
 let o:=bN x.2.2.1
 let y:=zjy++x.2.1
 let z:=y++ln
 let A:=z++x.2.2.1
 let B:=A++fh
 let C:=B++x.t.t.t
 let D:=C++AH
 let h:=D++x.t.2.1
 let b:=ea x.t.t.t
 let c:=bN x.t.t.t
 let E:=zjx++x.2.1
 let F:=E++ln
 let H:=F++x.2.2.1
 let I:=zK 0 (Io x.2.2.2.1)
 let J:=H++Td
 let i:=getD x.2.2.2.1 (toNat 0) (zi Q6)
 let L:=J++i
 let M:=zK 1 (Io x.2.2.2.1)
 let N:=L++Te
 let j:=getD x.2.2.2.1 (toNat 1) (zi Q6)
 let d:=N++j
 let O:=zpv++x.2.1
 let P:=O++Oh
 let S:=zpw++x.2.1
 let T:=S++Oh
 let W:=zpy++x.2.1
 let X:=W++ln
 let Y:=zpz++x.2.1
 let Z:=Y++ln
 Qc (o7 a0 [])
 (Qc (o7 a1 ma)
  (br (x.1==Oi) (Qc (rY a2) (re (Qe [str a3.1,Qd [str x.1,str x.2.1,str [],Qb,sl zl x.t.1,str x.t.2.1,sl Q6 x.t.q.1,sl (Sh.str.pr Q6) x.t.q.2.1,str (za.op x.t.t.1),ai (za.v x.t.t.1).1,
  ai (za.v x.t.t.1).2.1,str (za.v x.t.t.1).2.2,str (za.s x.t.t.1),sl Q5 (za.l x.t.t.1),Qb,Qb,str [],ai 0,ai 0,str [],str [],Qb,str []],AV.bool a3.2]) [])) (br (x.1==bl1)
  (Qc (Q0 (Io zca+Io x.2.1<=1099511627776)) (re (Qe [str (zca++x.2.1),Qd [str x.1,str x.2.1,str [],Qb,Qb,str [],Qb,Qb,str [],ai 0,
  ai 0,str [],str [],Qb,Qb,Qb,str [],ai 0,ai 0,str [],str [],Qb,str []],kb Q3]) [])) (br (x.1==bl3) (Q9 (BS.h15 [] 0 (x,()) ([],[],[],[],[],0,0,[],[],[],0,0,[],[],[],())
  (x.1,x.2.1,[],[],[],0,0,[],[],x.t.t.2.1,[],0,0,[],[],[],()))) (br (x.1==K8) (Q9 (BS.h27 k.1 k.2 [] 0 (x,()) ([],[],[],[],[],0,0,[],[],[],0,0,[],[],[],()) (x.1,x.2.1,[],[],[],0,0,[],[],x.t.t.q.1,x.t.t.q.2.1,[],()))) (br (x.1==bl0)
  (Qc (Q0 (Io zb8+Io x.2.1<=1099511627776)) (Qc (Q0 (Io a5+Io k.1<=1099511627776)) (re (Qe [str (a5++k.1),Qd [str x.1,str x.2.1,str [],Qb,Qb,str [],Qb,Qb,str [],ai 0,
  ai 0,str [],str [],Qb,Qb,Qb,str (za.op x.t.t.q.2.1),ai (za.v x.t.t.q.2.1).1,ai (za.v x.t.t.q.2.1).2.1,str (za.v x.t.t.q.2.1).2.2,str (za.s x.t.t.q.2.1),sl Q5 (za.l x.t.t.q.2.1),str []],AV.bool k.2]) [])))
  (br (x.1==Ii) (Qc (Q0 (Io zch+Io x.2.1<=1099511627776)) (Qc (Q0 (Io a6+Io k.1<=1099511627776)) (re (Qe [str (a6++k.1),Qd [str x.1,str x.2.1,str [],Qb,Qb,str [],Qb,Qb,str [],ai 0,
  ai 0,str [],str [],Qb,Qb,Qb,str (za.op x.t.t.q.2.1),ai (za.v x.t.t.q.2.1).1,ai (za.v x.t.t.q.2.1).2.1,str (za.v x.t.t.q.2.1).2.2,str (za.s x.t.t.q.2.1),sl Q5 (za.l x.t.t.q.2.1),str []],AV.bool k.2]) [])))
  (br (x.1==dj) (Qc (Er x.2.2.2.1) (Qc (Q0 (Io VP+Io x.2.1<=1099511627776)) (Qc (Q0 (Io a7+Io ln<=1099511627776)) (Qc (Q0 (Io a8+Io x.2.2.1<=1099511627776))
  (Qc (Q0 (Io a9+Io AG<=1099511627776)) (Qc (Q0 (Io p+Io m.1<=1099511627776)) (Qc (Q0 (Io u+Io iB<=1099511627776)) (Qc (Q0 (Io g+Io a.1<=1099511627776)) (br m.2 (br a.2 (Qc n (re (Qe [str (g++a.1),Qd
  [str x.1,str x.2.1,str x.2.2.1,sl Q6 x.2.2.2.1,Qb,str [],Qb,Qb,str (za.op x.t.t.1),ai (za.v x.t.t.1).1,ai (za.v x.t.t.1).2.1,str (za.v x.t.t.1).2.2,str (za.s x.t.t.1),
  sl Q5 (za.l x.t.t.1),Qb,Qb,str [],ai 0,ai 0,str [],str [],Qb,str []],AV.bool o]) [])) (re (Qe [str (g++a.1),Qd [str x.1,str x.2.1,str x.2.2.1,sl Q6 x.2.2.2.1,Qb,str [],Qb,Qb,str (za.op x.t.t.1),
  ai (za.v x.t.t.1).1,ai (za.v x.t.t.1).2.1,str (za.v x.t.t.1).2.2,str (za.s x.t.t.1),sl Q5 (za.l x.t.t.1),Qb,Qb,str [],ai 0,ai 0,str [],str [],Qb,str []],kb Q4]) [])) (re (Qe [str (g++a.1),Qd
  [str x.1,str x.2.1,str x.2.2.1,sl Q6 x.2.2.2.1,Qb,str [],Qb,Qb,str (za.op x.t.t.1),ai (za.v x.t.t.1).1,ai (za.v x.t.t.1).2.1,str (za.v x.t.t.1).2.2,str (za.s x.t.t.1),
  sl Q5 (za.l x.t.t.1),Qb,Qb,str [],ai 0,ai 0,str [],str [],Qb,str []],kb Q4]) [])))))))))) (br (x.1==gj) (Qc (Q0 (Io zjy+Io x.2.1<=1099511627776))
  (Qc (Q0 (Io y+Io ln<=1099511627776)) (Qc (Q0 (Io z+Io x.2.2.1<=1099511627776)) (Qc (Q0 (Io A+Io fh<=1099511627776)) (Qc (Q0 (Io B+Io x.t.t.t<=1099511627776))
  (Qc (Q0 (Io C+Io AH<=1099511627776)) (Qc (Q0 (Io D+Io x.t.2.1<=1099511627776)) (Qc (Q0 (Io h+Io a.1<=1099511627776)) (br a.2 (Qc n (br o (Qc b (br c (Qc (ea x.t.2.1) (re (Qe [str (h++a.1),Qd
  [str x.1,str x.2.1,str x.2.2.1,Qb,Qb,str x.t.2.1,Qb,Qb,str (za.op x.t.t.1),ai (za.v x.t.t.1).1,ai (za.v x.t.t.1).2.1,str (za.v x.t.t.1).2.2,str (za.s x.t.t.1),sl Q5 (za.l x.t.t.1),Qb,Qb,str [],
  ai 0,ai 0,str [],str [],Qb,str x.t.t.t],AV.bool (bN x.t.2.1)]) [])) (re (Qe [str (h++a.1),Qd [str x.1,str x.2.1,str x.2.2.1,Qb,Qb,str x.t.2.1,Qb,Qb,str (za.op x.t.t.1),ai (za.v x.t.t.1).1,
  ai (za.v x.t.t.1).2.1,str (za.v x.t.t.1).2.2,str (za.s x.t.t.1),sl Q5 (za.l x.t.t.1),Qb,Qb,str [],ai 0,ai 0,str [],str [],Qb,str x.t.t.t],kb Q4]) []))) (re (Qe [str (h++a.1),Qd
  [str x.1,str x.2.1,str x.2.2.1,Qb,Qb,str x.t.2.1,Qb,Qb,str (za.op x.t.t.1),ai (za.v x.t.t.1).1,ai (za.v x.t.t.1).2.1,str (za.v x.t.t.1).2.2,str (za.s x.t.t.1),sl Q5 (za.l x.t.t.1),Qb,Qb,str [],
  ai 0,ai 0,str [],str [],Qb,str x.t.t.t],kb Q4]) []))) (re (Qe [str (h++a.1),Qd [str x.1,str x.2.1,str x.2.2.1,Qb,Qb,str x.t.2.1,Qb,Qb,str (za.op x.t.t.1),ai (za.v x.t.t.1).1,
  ai (za.v x.t.t.1).2.1,str (za.v x.t.t.1).2.2,str (za.s x.t.t.1),sl Q5 (za.l x.t.t.1),Qb,Qb,str [],ai 0,ai 0,str [],str [],Qb,str x.t.t.t],kb Q4]) [])))))))))) (br (x.1==lm)
  (br ((↑(Io x.2.2.2.1):Int)!=2) (re (Qe [str [],Qd [str x.1,str x.2.1,str x.2.2.1,sl Q6 x.2.2.2.1,Qb,str [],Qb,Qb,str (za.op x.t.t.1),ai (za.v x.t.t.1).1,ai (za.v x.t.t.1).2.1,
  str (za.v x.t.t.1).2.2,str (za.s x.t.t.1),sl Q5 (za.l x.t.t.1),Qb,Qb,str [],ai 0,ai 0,str [],str [],Qb,str []],kb Q4]) []) (Qc (Q0 (Io zjx+Io x.2.1<=1099511627776))
  (Qc (Q0 (Io E+Io ln<=1099511627776)) (Qc (Q0 (Io F+Io x.2.2.1<=1099511627776)) (Qc (Q0 (Io H+Io Td<=1099511627776)) (Qc I (Qc (Q0 (Io J+Io i<=1099511627776))
  (Qc (Q0 (Io L+Io Te<=1099511627776)) (Qc M (Qc (Q0 (Io N+Io j<=1099511627776)) (Qc (Q0 (Io d+Io a.1<=1099511627776)) (br a.2 (Qc n (br o (Qc I (Qc (ea i) (br (bN i) (Qc M (Qc (ea j) (re (Qe [str (d++a.1),
  Qd [str x.1,str x.2.1,str x.2.2.1,sl Q6 x.2.2.2.1,Qb,str [],Qb,Qb,str (za.op x.t.t.1),ai (za.v x.t.t.1).1,ai (za.v x.t.t.1).2.1,str (za.v x.t.t.1).2.2,str (za.s x.t.t.1),sl Q5 (za.l x.t.t.1),Qb,Qb,
  str [],ai 0,ai 0,str [],str [],Qb,str []],AV.bool (bN j)]) []))) (re (Qe [str (d++a.1),Qd [str x.1,str x.2.1,str x.2.2.1,sl Q6 x.2.2.2.1,Qb,str [],Qb,Qb,str (za.op x.t.t.1),ai (za.v x.t.t.1).1,
  ai (za.v x.t.t.1).2.1,str (za.v x.t.t.1).2.2,str (za.s x.t.t.1),sl Q5 (za.l x.t.t.1),Qb,Qb,str [],ai 0,ai 0,str [],str [],Qb,str []],kb Q4]) [])))) (re (Qe [str (d++a.1),Qd
  [str x.1,str x.2.1,str x.2.2.1,sl Q6 x.2.2.2.1,Qb,str [],Qb,Qb,str (za.op x.t.t.1),ai (za.v x.t.t.1).1,ai (za.v x.t.t.1).2.1,str (za.v x.t.t.1).2.2,str (za.s x.t.t.1),
  sl Q5 (za.l x.t.t.1),Qb,Qb,str [],ai 0,ai 0,str [],str [],Qb,str []],kb Q4]) []))) (re (Qe [str (d++a.1),Qd [str x.1,str x.2.1,str x.2.2.1,sl Q6 x.2.2.2.1,Qb,str [],Qb,Qb,str (za.op x.t.t.1),
  ai (za.v x.t.t.1).1,ai (za.v x.t.t.1).2.1,str (za.v x.t.t.1).2.2,str (za.s x.t.t.1),sl Q5 (za.l x.t.t.1),Qb,Qb,str [],ai 0,ai 0,str [],str [],Qb,str []],kb Q4]) []))))))))))))) (br (x.1==bl9)
  (Qc (Q0 (Io zpv+Io x.2.1<=1099511627776)) (Qc (Q0 (Io O+Io Oh<=1099511627776)) (Qc (Q0 (Io P+Io x.t.t.t<=1099511627776)) (Qc b (re (Qe [str (P++x.t.t.t),Qd
  [str x.1,str x.2.1,str [],Qb,Qb,str [],Qb,Qb,str [],ai 0,ai 0,str [],str [],Qb,Qb,Qb,str [],ai 0,ai 0,str [],str [],Qb,str x.t.t.t],AV.bool c]) []))))) (br (x.1==Oe)
  (Qc (Q0 (Io zpw+Io x.2.1<=1099511627776)) (Qc (Q0 (Io S+Io Oh<=1099511627776)) (Qc (Q0 (Io T+Io x.t.t.t<=1099511627776)) (Qc b (re (Qe [str (T++x.t.t.t),Qd
  [str x.1,str x.2.1,str [],Qb,Qb,str [],Qb,Qb,str [],ai 0,ai 0,str [],str [],Qb,Qb,Qb,str [],ai 0,ai 0,str [],str [],Qb,str x.t.t.t],AV.bool c]) []))))) (br (x.1==Oc)
  (Qc (Q0 (Io zpy+Io x.2.1<=1099511627776)) (Qc (Q0 (Io W+Io ln<=1099511627776)) (Qc (Q0 (Io X+Io x.t.t.t<=1099511627776)) (Qc b (re (Qe [str (X++x.t.t.t),Qd
  [str x.1,str x.2.1,str [],Qb,Qb,str [],Qb,Qb,str [],ai 0,ai 0,str [],str [],Qb,Qb,Qb,str [],ai 0,ai 0,str [],str [],Qb,str x.t.t.t],AV.bool c]) []))))) (br (x.1==Od) (Qc
  (Q0 (Io zpz+Io x.2.1<=1099511627776)) (Qc (Q0 (Io Y+Io ln<=1099511627776)) (Qc (Q0 (Io Z+Io x.t.t.t<=1099511627776)) (Qc b (re (Qe [str (Z++x.t.t.t),Qd
  [str x.1,str x.2.1,str [],Qb,Qb,str [],Qb,Qb,str [],ai 0,ai 0,str [],str [],Qb,Qb,Qb,str [],ai 0,ai 0,str [],str [],Qb,str x.t.t.t],AV.bool c]) []))))) (re (Qe [str [],Qd
  [str x.1,str x.2.1,str [],Qb,Qb,str [],Qb,Qb,str [],ai 0,ai 0,str [],str [],Qb,Qb,Qb,str [],ai 0,ai 0,str [],str [],Qb,str []],kb Q4]) [])))))))))))))))
def mP:BS->Tr (BS⊕aw)
 | .h15 x i h H z=>
  let k:=(↑(Io h.1.t.t.2.1):Int)
  let c:=zK i (Io h.1.t.t.2.1)
  let d:=getD h.1.t.t.2.1 i.toNat (zi zf)
  let C:=kK d
  let m:=x++fh
  let n:=oQ d
  let D:=Γ Δ (i+1)
  let E:=VO++h.1.2.1
  let F:=E++zb4
  let o:=F++x
  br (Q0 (i<k))
  (Qc c
   (Qc (mI d) (br (!tc d) (re (Qe [str [],Qd [str z.1,str z.2.1,str z.2.2.1,Qb,Qb,str z.2.2.2.1,Qb,Qb,str z.t.1,ai z.t.2.1,ai z.t.q.1,str z.t.q.2.1,str z.t.t.1,Qb,sl zf z.t.t.2.1,Qb,
   str z.t.t.q.1,ai z.t.t.q.2.1,ai z.t.t.t.1,str z.t.t.t.2.1,str z.t.t.t.q.1,Qb,str z.t.t.t.q.2.1],kb Q4]) []) (br (Q0 (i>0)) (Qc (Q0 (Io x+Io fh<=1099511627776))
   (Qc c (Qc C (Qc (Q0 (Io m+Io n<=1099511627776)) (Q9 (BS.h15 (m++n) D h H z)))))) (Qc c (Qc C (Qc (Q0 (Io x+Io n<=1099511627776)) (Q9 (BS.h15 (x++n) D h H z)))))))))
  (Qc (Q0 (Io VO+Io h.1.2.1<=1099511627776))
   (Qc (Q0 (Io E+Io zb4<=1099511627776)) (Qc (Q0 (Io F+Io x<=1099511627776)) (Qc (Q0 (Io o+Io iB<=1099511627776)) (br (Q0 (1<=k)) (re (Qe [str (o++iB),Qd
   [str z.1,str z.2.1,str z.2.2.1,Qb,Qb,str z.2.2.2.1,Qb,Qb,str z.t.1,ai z.t.2.1,ai z.t.q.1,str z.t.q.2.1,str z.t.t.1,Qb,sl zf z.t.t.2.1,Qb,str z.t.t.q.1,ai z.t.t.q.2.1,
   ai z.t.t.t.1,str z.t.t.t.2.1,str z.t.t.t.q.1,Qb,str z.t.t.t.q.2.1],AV.bool (Q0 (k<=12))]) []) (re (Qe [str (o++iB),Qd [str z.1,str z.2.1,str z.2.2.1,Qb,Qb,str z.2.2.2.1,Qb,Qb,
   str z.t.1,ai z.t.2.1,ai z.t.q.1,str z.t.q.2.1,str z.t.t.1,Qb,sl zf z.t.t.2.1,Qb,str z.t.t.q.1,ai z.t.t.q.2.1,ai z.t.t.t.1,str z.t.t.t.2.1,str z.t.t.t.q.1,
   Qb,str z.t.t.t.q.2.1],kb Q4]) []))))))
 | .h27 p I a b h H z=>
  let k:=(↑(Io h.1.t.t.q.1):Int)
  let c:=zK b (Io h.1.t.t.q.1)
  let d:=getD h.1.t.t.q.1 b.toNat (zi io)
  let C:=!bN d.1
  let m:=zr d.2
  let n:=Q0 (Io d.1+Io zjs<=1099511627776)
  let D:=rV m
  let E:=d.1++zjs
  let F:=qA m
  let o:=Q0 (Io E+Io F<=1099511627776)
  let u:=a++fh
  let g:=E++F
  let y:=Γ Δ (b+1)
  let A:=VR++h.1.2.1
  let B:=A++zb3
  let j:=B++a
  br (Q0 (b<k))
  (Qc (c&&(ea d.1&&bif C then Q3 else c&&uf m))
   (br (cond C Q3 (!D4 m)) (re (Qe [str [],Qd [str z.1,str z.2.1,str z.2.2.1,Qb,Qb,str z.2.2.2.1,Qb,Qb,str z.t.1,ai z.t.2.1,ai z.t.q.1,str z.t.q.2.1,str z.t.t.1,Qb,Qb,
   sl (Sh.str.pr Q5) z.t.t.2.1,str (za.op z.t.t.q.1),ai (za.v z.t.t.q.1).1,ai (za.v z.t.t.q.1).2.1,str (za.v z.t.t.q.1).2.2,str (za.s z.t.t.q.1),sl Q5 (za.l z.t.t.q.1),str z.t.t.q.2.1],kb Q4]) [])
   (br (Q0 (b>0)) (Qc (Q0 (Io a+Io fh<=1099511627776)) (Qc c (Qc n (Qc c (Qc D (Qc o (Qc (Q0 (Io u+Io g<=1099511627776)) (Q9 (BS.h27 p I (u++g) y h H z))))))))) (Qc c (Qc n (Qc c
   (Qc D (Qc o (Qc (Q0 (Io a+Io g<=1099511627776)) (Q9 (BS.h27 p I (a++g) y h H z)))))))))))
  (Qc (Q0 (Io VR+Io h.1.2.1<=1099511627776))
   (Qc (Q0 (Io A+Io zb3<=1099511627776)) (Qc (Q0 (Io B+Io a<=1099511627776)) (Qc (Q0 (Io j+Io p<=1099511627776)) (br I (br (Q0 (1<=k)) (re (Qe [str (j++p),Qd [str z.1,str z.2.1,str z.2.2.1,Qb,Qb,str z.2.2.2.1,Qb,Qb,
   str z.t.1,ai z.t.2.1,ai z.t.q.1,str z.t.q.2.1,str z.t.t.1,Qb,Qb,sl (Sh.str.pr Q5) z.t.t.2.1,str (za.op z.t.t.q.1),ai (za.v z.t.t.q.1).1,ai (za.v z.t.t.q.1).2.1,str (za.v z.t.t.q.1).2.2,
   str (za.s z.t.t.q.1),sl Q5 (za.l z.t.t.q.1),str z.t.t.q.2.1],AV.bool (Q0 (k<=8))]) []) (re (Qe [str (j++p),Qd [str z.1,str z.2.1,str z.2.2.1,Qb,Qb,str z.2.2.2.1,Qb,Qb,str z.t.1,ai z.t.2.1,ai z.t.q.1,
   str z.t.q.2.1,str z.t.t.1,Qb,Qb,sl (Sh.str.pr Q5) z.t.t.2.1,str (za.op z.t.t.q.1),ai (za.v z.t.t.q.1).1,ai (za.v z.t.t.q.1).2.1,str (za.v z.t.t.q.1).2.2,
   str (za.s z.t.t.q.1),sl Q5 (za.l z.t.t.q.1),str z.t.t.q.2.1],kb Q4]) [])) (re (Qe [str (j++p),Qd [str z.1,str z.2.1,str z.2.2.1,Qb,Qb,str z.2.2.2.1,Qb,Qb,str z.t.1,ai z.t.2.1,ai z.t.q.1,
   str z.t.q.2.1,str z.t.t.1,Qb,Qb,sl (Sh.str.pr Q5) z.t.t.2.1,str (za.op z.t.t.q.1),ai (za.v z.t.t.q.1).1,ai (za.v z.t.t.q.1).2.1,str (za.v z.t.t.q.1).2.2,str (za.s z.t.t.q.1),
   sl Q5 (za.l z.t.t.q.1),str z.t.t.q.2.1],kb Q4]) []))))))
def eQ(x:zJ):=ao [Q6,ar,Q7] mP 100000000 (oE x)
def wa(x:zJ):=(eQ x).isSome
def Bw(x:zJ):=o3 (eQ x)
def znP:=FT [ar] [Q6,ar,Q7] λx=>eQ x.1
theorem ziF:FK 123 znP:=CE.T1 (f:=Tryz.f123) (keep:=zrE) (e:=zup)
def zfP:=Wt.add 123 znP
theorem GJ:zu zfP:=CE.add ziF
def zkq(x:zJ):Tr (Empty⊕aw):=
 let h:=(x.1,x.2.1,x.2.2.1,x.2.2.2.1,x.t.1,x.t.2.1,x.t.q.1,x.t.q.2.1,zr x.t.t.1,x.t.t.2.1,x.t.t.q.1,zr x.t.t.q.2.1,x.t.t.t)
 let a:=Bw h
 let b:=!a.2.2
 let c:=!bN x.2.1
 let d:=(a.2.1.1,a.2.1.2.1,a.2.1.2.2.1,a.2.1.2.2.2.1,a.2.1.t.1,a.2.1.t.2.1,a.2.1.t.q.1,a.2.1.t.q.2.1,zr a.2.1.t.t.1,a.2.1.t.t.2.1,a.2.1.t.t.q.1,zr a.2.1.t.t.q.2.1,a.2.1.t.t.t)
 let g:=As a.1
 Qc (wa h)
 (Qc (cond b Q3 (ea x.2.1&&bif c then Q3 else Bu d h))
  (br (cond b Q3 (cond c Q3 (!fA d h))) (re (Qe [str [],kb Q4]) []) (Qc (JE a.1) (br (!g.2) (re (Qe [str [],kb Q4]) []) (re (Qe [str a.1,kb Q3]) [])))))
def o6(x:zJ):=ao [Q6,Q7] t0 100000000 (zkq x)
def iP(x:zJ):=(o6 x).isSome
def lL(x:zJ):=o2 (o6 x)
def zng:=FT [ar] [Q6,Q7] λx=>o6 x.1
theorem zh3:FK 58 zng:=GJ.T1 (f:=Tryz.f58) (keep:=k0) (e:=e0)
def LN:=zfP.add 58 zng
theorem GK:zu LN:=GJ.add zh3
abbrev nh:List CP:=[.d .str,.d .str,.d .str,.vec .str,.nil,.d .str,.nil,.nil,.d .expr,.nil,.nil,.d .str,.d zj,.d zj,.d .str,.d .str,.nil,.d .str]
abbrev zcq:List CP:=[.d .str,.d .str,.d .str,.vec .str,.nil,.d .str,.nil,.nil,.d .str,.d zj,.d zj,.d .str,.d .str,.nil,.nil,.nil,.d .str,.d zj,.d zj,.d .str,.d .str,.nil,.d .str]
abbrev Pd:Nat->aT:=λj=>if j=14 then{slots:=[0,1,4],prom:=[(1,Q1 3,.str)]}else if j=1000000 then{prom:=[(1,Q1 3,.str)]}else{ }
inductive sJ where
 |h14 (z0:zn aI) (z1:zn zcq)
 |h14b (b4:Sem Q7) (z0:zn aI) (z1:zn zcq)
abbrev Li:sJ->Nat×St
 |.h14 h z=>(14,⟨tm 117 [(0,Qf 0 0),(1,Qf 1 0),(4,kb Q3)],[Qa (bI [] aI h),Qa (bI [2] zcq z),AO.vec Q6 z.2.2.2.1]⟩)
 |.h14b b h z=>(14,⟨tm 117 [(0,Qf 0 0),(1,Qf 1 0),(4,AV.bool b)],[Qa (bI [] aI h),Qa (bI [2] zcq z),AO.vec Q6 z.2.2.2.1]⟩)
theorem zle:zM LN.P 77 Tryz.f77 2:=bL kw
def Xm(y:zn aI)(z:zn jg):Tr (sJ⊕aw):=
 let a0:=(y.1,y.2.1,y.2.2.1,())
 let a1:=fB a0 Tf
 let a2:=(a1.2.1,a1.2.2.1,a1.2.2.2.1,())
 let a3:=ct a2
 let a4:=(a3.2.1,a3.2.2.1,a3.2.2.2.1,())
 let a5:=bP a4 uF
 let a6:=(a5.1,a5.2.1,a5.2.2.1,())
 let a7:=ct a6
 let a8:=(a7.2.1,a7.2.2.1,a7.2.2.2.1,())
 let a9:=([],z.2.2.2)
 let h4:=bP a8 [44]
 let i3:=(h4.1,h4.2.1,h4.2.2.1,())
 let v:=ct i3
 let i4:=(v.2.1,v.2.2.1,v.2.2.2.1,())
 let h5:=bP i4 Fu
 let i5:=(h5.1,h5.2.1,h5.2.2.1,())
 let A:=ct i5
 let i6:=(A.2.1,A.2.2.1,A.2.2.2.1,())
 let i7:=fb i6 iq
 let h6:=bP a8 Fs
 let i8:=(h6.1,h6.2.1,h6.2.2.1,())
 let B:=ct i8
 let h7:=[B.1]
 let i9:=(B.2.1,B.2.2.1,B.2.2.2.1,())
 let h8:=bP i9 Fv
 let j0:=(h8.1,h8.2.1,h8.2.2.1,())
 let C:=ct j0
 let j1:=[C.1]
 let j2:=(C.2.1,C.2.2.1,C.2.2.2.1,())
 let j3:=fb j2 iq
 let j4:=fb a8 iq
 let D:=fB a2 Th
 let E:=(D.2.1,D.2.2.1,D.2.2.2.1,())
 let b:=ct E
 let j5:=(b.2.1,b.2.2.1,b.2.2.2.1,())
 let h9:=bP j5 uF
 let j6:=(h9.1,h9.2.1,h9.2.2.1,())
 let c:=ct j6
 let a:=(c.2.1,c.2.2.1,c.2.2.2.1,())
 let x0:=bP a [44]
 let j7:=(x0.1,x0.2.1,x0.2.2.1,())
 let F:=ct j7
 let j8:=(F.2.1,F.2.2.1,F.2.2.2.1,())
 let x1:=bP j8 Fu
 let j9:=(x1.1,x1.2.1,x1.2.2.1,())
 let H:=ct j9
 let k1:=(H.2.1,H.2.2.1,H.2.2.2.1,())
 let k2:=fb k1 iq
 let x2:=bP a Fs
 let k3:=(x2.1,x2.2.1,x2.2.2.1,())
 let I:=ct k3
 let x3:=[I.1]
 let k4:=(I.2.1,I.2.2.1,I.2.2.2.1,())
 let x4:=bP k4 Fv
 let k5:=(x4.1,x4.2.1,x4.2.2.1,())
 let J:=ct k5
 let k6:=[J.1]
 let k7:=(J.2.1,J.2.2.1,J.2.2.2.1,())
 let k8:=fb k7 iq
 let k9:=fb a iq
 let n:=fB E Tg
 let l0:=(n.2.1,n.2.2.1,n.2.2.2.1,())
 let d:=ct l0
 let l1:=(d.2.1,d.2.2.1,d.2.2.2.1,())
 let x5:=bP l1 uF
 let l2:=(x5.1,x5.2.1,x5.2.2.1,())
 let g:=ct l2
 let h:=(g.2.1,g.2.2.1,g.2.2.2.1,())
 let x6:=bP h [44]
 let l3:=(x6.1,x6.2.1,x6.2.2.1,())
 let L:=ct l3
 let l4:=(L.2.1,L.2.2.1,L.2.2.2.1,())
 let x7:=bP l4 Fu
 let l5:=(x7.1,x7.2.1,x7.2.2.1,())
 let M:=ct l5
 let l6:=(M.2.1,M.2.2.1,M.2.2.2.1,())
 let l7:=fb l6 iq
 let x8:=bP h Fs
 let l8:=(x8.1,x8.2.1,x8.2.2.1,())
 let N:=ct l8
 let x9:=[N.1]
 let l9:=(N.2.1,N.2.2.1,N.2.2.2.1,())
 let i0:=bP l9 Fv
 let m1:=(i0.1,i0.2.1,i0.2.2.1,())
 let O:=ct m1
 let m2:=[O.1]
 let m3:=(O.2.1,O.2.2.1,O.2.2.2.1,())
 let m4:=fb m3 iq
 let m6:=fb h iq
 let m7:=(n.2.1,n.2.2.1,Q4,())
 let i:=ct m7
 let m8:=(i.2.1,i.2.2.1,i.2.2.2.1,())
 let i1:=bP m8 uF
 let m9:=(i1.1,i1.2.1,i1.2.2.1,())
 let j:=ct m9
 let x:=(j.2.1,j.2.2.1,j.2.2.2.1,())
 let i2:=bP x [44]
 let n1:=(i2.1,i2.2.1,i2.2.2.1,())
 let P:=ct n1
 let n2:=(P.2.1,P.2.2.1,P.2.2.2.1,())
 let o:=bP n2 Fu
 let S:=(o.1,o.2.1,o.2.2.1,())
 let k:=ct S
 let T:=(k.2.1,k.2.2.1,k.2.2.2.1,())
 let W:=fb T iq
 let p:=bP x Fs
 let X:=(p.1,p.2.1,p.2.2.1,())
 let l:=ct X
 let s:=[l.1]
 let Y:=(l.2.1,l.2.2.1,l.2.2.2.1,())
 let u:=bP Y Fv
 let Z:=(u.1,u.2.1,u.2.2.1,())
 let m:=ct Z
 let h0:=[m.1]
 let h1:=(m.2.1,m.2.2.1,m.2.2.2.1,())
 let h2:=fb h1 iq
 let h3:=fb x iq
 Qc (eh a0 Tf)
 (br a1.1
  (Qc (bH a2) (Qc (be a4 uF) (Qc (bH a6) (br Q3 (Qc (be a8 [40]) (Q9 (sJ.h14 (bP a8 [40]) (dj,a3.1,a7.1,a9)))) (br Q4 (Qc (be a8 [44]) (Qc (bH i3) (Qc (be i4 Fu) (Qc (bH i5) (Qc (eb i6 iq) (re (Qe []) (cE aI nh i7.2
  (dj,a3.1,a7.1,[],A.1,i7.1,z.t.t.2.1,z.t.t.q.1,z.t.t.q.2.1,z.t.t.t.1,z.t.t.t.2.1,v.1,())))))))) (br Q4 (Qc (be a8 Fs) (Qc (bH i8) (Qc (Q0 (Io h7<=1073741824)) (Qc (be i9 Fv) (Qc (bH j0)
  (Qc (Q0 (Io h7+Io j1<=1073741824)) (Qc (eb j2 iq) (re (Qe []) (cE aI nh j3.2 (dj,a3.1,a7.1,h7++j1,z.2.2.2.1,j3.1,z.t.t.2)))))))))) (Qc (eb a8 iq) (re (Qe []) (cE aI nh j4.2
  (dj,a3.1,a7.1,[],z.2.2.2.1,j4.1,z.t.t.2))))))))))
  (Qc (eh a2 Th) (br D.1 (Qc (bH E) (Qc (be j5 uF) (Qc (bH j6) (br Q4 (Qc (be a [40]) (Q9 (sJ.h14 (bP a [40]) (gj,b.1,c.1,a9)))) (br Q3 (Qc (be a [44]) (Qc (bH j7) (Qc (be j8 Fu) (Qc (bH j9)
  (Qc (eb k1 iq) (re (Qe []) (cE aI nh k2.2 (gj,b.1,c.1,[],H.1,k2.1,z.t.t.2.1,z.t.t.q.1,z.t.t.q.2.1,z.t.t.t.1,z.t.t.t.2.1,F.1,())))))))) (br Q4 (Qc (be a Fs) (Qc (bH k3)
  (Qc (Q0 (Io x3<=1073741824)) (Qc (be k4 Fv) (Qc (bH k5) (Qc (Q0 (Io x3+Io k6<=1073741824)) (Qc (eb k7 iq) (re (Qe []) (cE aI nh k8.2 (gj,b.1,c.1,x3++k6,z.2.2.2.1,k8.1,z.t.t.2)))))))))) (Qc (eb a iq)
  (re (Qe []) (cE aI nh k9.2 (gj,b.1,c.1,[],z.2.2.2.1,k9.1,z.t.t.2)))))))))) (Qc (eh E Tg) (br n.1 (Qc (bH l0) (Qc (be l1 uF) (Qc (bH l2) (br Q4 (Qc (be h [40]) (Q9 (sJ.h14 (bP h [40]) (lm,d.1,g.1,a9))))
  (br Q4 (Qc (be h [44]) (Qc (bH l3) (Qc (be l4 Fu) (Qc (bH l5) (Qc (eb l6 iq) (re (Qe []) (cE aI nh l7.2 (lm,d.1,g.1,[],M.1,l7.1,z.t.t.2.1,z.t.t.q.1,z.t.t.q.2.1,
  z.t.t.t.1,z.t.t.t.2.1,L.1,())))))))) (br Q3 (Qc (be h Fs) (Qc (bH l8) (Qc (Q0 (Io x9<=1073741824)) (Qc (be l9 Fv) (Qc (bH m1) (Qc (Q0 (Io x9+Io m2<=1073741824)) (Qc (eb m3 iq) (re (Qe []) (cE aI nh m4.2
  (lm,d.1,g.1,x9++m2,z.2.2.2.1,m4.1,z.t.t.2)))))))))) (Qc (eb h iq) (re (Qe []) (cE aI nh m6.2 (lm,d.1,g.1,[],z.2.2.2.1,m6.1,z.t.t.2)))))))))) (Qc (bH m7) (Qc (be m8 uF) (Qc (bH m9)
  (br (z.1==dj) (Qc (be x [40]) (Q9 (sJ.h14 (bP x [40]) (z.1,i.1,j.1,a9)))) (br (z.1==gj) (Qc (be x [44]) (Qc (bH n1) (Qc (be n2 Fu) (Qc (bH S) (Qc (eb T iq) (re (Qe []) (cE aI nh W.2
  (z.1,i.1,j.1,[],k.1,W.1,z.t.t.2.1,z.t.t.q.1,z.t.t.q.2.1,z.t.t.t.1,z.t.t.t.2.1,P.1,())))))))) (br (z.1==lm) (Qc (be x Fs) (Qc (bH X) (Qc (Q0 (Io s<=1073741824)) (Qc (be Y Fv) (Qc (bH Z)
  (Qc (Q0 (Io s+Io h0<=1073741824)) (Qc (eb h1 iq) (re (Qe []) (cE aI nh h2.2 (z.1,i.1,j.1,s++h0,z.2.2.2.1,h2.1,z.t.t.2)))))))))) (Qc (eb x iq) (re (Qe []) (cE aI nh h3.2 (z.1,i.1,j.1,[],z.2.2.2.1,h3.1,z.t.t.2)))))))))))))))
theorem zjT(y:zn aI)(z:zn jg):rn LN 2 Pd Tryz.f77 [Qf 0 0,Qf 1 0] (cE aI jg y z)=(Xm y z).map (lf Tryz.f77 Li):=kw
def ZZ:sJ->Tr (sJ⊕aw)
 | .h14 x z=>
  let a:=(x.1,x.2.1,x.2.2.1,())
  let h:=ct a
  let c:=[h.1]
  let d:=(h.2.1,h.2.2.1,h.2.2.2.1,())
  let g:=fB d [44]
  let b:=bP a [41]
  let i:=(b.1,b.2.1,b.2.2.1,())
  let j:=fb i iq
  br x.2.2.1
  (Qc (bH a)
   (Qc (Q0 (Io z.2.2.2.1+Io c<=1073741824)) (Qc (eh d [44]) (Q9 (sJ.h14b g.1 g.2 (z.1,z.2.1,z.2.2.1,z.2.2.2.1++c,z.t))))))
  (Qc (be a [41])
   (Qc (eb i iq) (re (Qe []) (cE aI nh j.2 (z.1,z.2.1,z.2.2.1,z.2.2.2.1,z.t.1,j.1,z.t.t.q)))))
 | .h14b k x z=>
  let a:=(x.1,x.2.1,x.2.2.1,())
  let h:=ct a
  let c:=[h.1]
  let d:=(h.2.1,h.2.2.1,h.2.2.2.1,())
  let g:=fB d [44]
  let b:=bP a [41]
  let i:=(b.1,b.2.1,b.2.2.1,())
  let j:=fb i iq
  br (cond k x.2.2.1 Q4)
  (Qc (bH a)
   (Qc (Q0 (Io z.2.2.2.1+Io c<=1073741824)) (Qc (eh d [44]) (Q9 (sJ.h14b g.1 g.2 (z.1,z.2.1,z.2.2.1,z.2.2.2.1++c,z.t))))))
  (Qc (be a [41])
   (Qc (eb i iq) (re (Qe []) (cE aI nh j.2 (z.1,z.2.1,z.2.2.1,z.2.2.2.1,z.t.1,j.1,z.t.t.q)))))
theorem zls:∀s,run LN 2 Pd (Func.results Tryz.f77).toList 400 (aa Tryz.f77 (Li s).1) (Li s).2=(ZZ s).map (lf Tryz.f77 Li)
 |.h14 z h=>by kernel_rfl
 |.h14b b z h=>by kernel_rfl
def ZG(y:zn aI)(z:zn jg):Option (zD (Qi Q1 [])×zn aI×zn nh):=R4 [] aI nh ZZ 100000000 (Xm y z)
def ZF(y:zn aI)(z:zn jg):Bool:=(ZG y z).isSome
def zgS(y:zn aI)(z:zn jg):zn aI×zn nh:=(λr:zD (Qi Q1 [])×zn aI×zn nh=>r.2) ((ZG y z).getD (cA [],fR aI,fR nh))
def zeo:z8:=VS aI jg [] [] aI nh (λy z _=>ZF y z) λy z _=>((),zgS y z)
theorem zaG:FK 77 zeo:=zi1 (ps:=aI) (qs:=jg) (ks:=[]) (outs:=[]) (keep:=Pd) (gas:=400) (n:=100000000) (e:=Li) (t:=ZZ) (i:=λy z x=>Xm y z) GK zle (λy z x=>zjT y z) zls (λ_ _ _=>by kernel_rfl) (λ_ _ _=>by kernel_rfl)
def zfQ:=LN.add 77 zeo
theorem GL:zu zfQ:=GK.add zaG
abbrev zrw:=kl [(17,[2,4,6,7,8]),(25,[2,4,6,7,9])]
inductive SZ where
 |h17 (l4:LF) (z0:zn jg) (z1:zn aI) (z2:zn jg)
 |h25 (l4:LF) (z0:zn jg) (z1:zn aI) (z2:zn jg)
abbrev zuk:SZ->Nat×St
 |.h17 l z h x=>(17,⟨tm 172 [(2,Qf 0 0),(4,sl zA l),(6,Qf 1 0),(7,Qf 2 0),(8,kb Q3)],[Qa (bI [] jg z),Qa (bI [] aI h),Qa (bI [] jg x)]⟩)
 |.h25 l z h x=>(25,⟨tm 172 [(2,Qf 0 0),(4,sl zA l),(6,Qf 1 0),(7,Qf 2 0),(9,kb Q3)],[Qa (bI [] jg z),Qa (bI [] aI h),Qa (bI [] jg x)]⟩)
def zvA(J:TS):Tr (SZ⊕aw):=
 let a0:=((As J).1,0,Q3,())
 let a1:=fB a0 zb7
 let a2:=(a1.2.1,a1.2.2.1,a1.2.2.2.1,())
 let a3:=fB a2 zcb
 let a4:=(a3.2.1,a3.2.2.1,a3.2.2.2.1,())
 let a5:=bP a4 zcj
 let a6:=(a5.1,a5.2.1,a5.2.2.1,())
 let a7:=ct a6
 let a8:=(↑(Io (As J).1):Int)
 let a9:=(bl1,a7.1,[],[],[],[],[],[],za.mk [] (0,0,[]) [] [],[],[],za.mk [] (0,0,[]) [] [],[])
 let h2:=lL a9
 let g:=fB a4 zcd
 let i:=(g.2.1,g.2.2.1,g.2.2.2.1,())
 let D:=bP i zce
 let L:=(D.1,D.2.1,D.2.2.1,())
 let j:=ct L
 let M:=(j.2.1,j.2.2.1,j.2.2.2.1,())
 let E:=bP M zcl
 let N:=(E.1,E.2.1,E.2.2.1,())
 let k:=fB i zck
 let m:=(k.2.1,k.2.2.1,k.2.2.2.1,())
 let n:=ct m
 let O:=(n.2.1,n.2.2.1,n.2.2.2.1,())
 let o:=fB m zb9
 let p:=(o.2.1,o.2.2.1,o.2.2.2.1,())
 let F:=bP p uF
 let P:=(F.1,F.2.1,F.2.2.1,())
 let c:=ct P
 let S:=(c.2.1,c.2.2.1,c.2.2.2.1,())
 let h:=fb S ma
 let T:=(bl0,c.1,[],[],[],[],[],[],za.mk [] (0,0,[]) [] [],[],[],zr h.1,[])
 let h3:=lL T
 let u:=fB p zci
 let y:=(u.2.1,u.2.2.1,u.2.2.2.1,())
 let H:=bP y [42]
 let W:=(H.1,H.2.1,H.2.2.1,())
 let I:=bP W uF
 let X:=(I.1,I.2.1,I.2.2.1,())
 let d:=ct X
 let Y:=(d.2.1,d.2.2.1,d.2.2.2.1,())
 let x:=fb Y ma
 let Z:=(Ii,d.1,[],[],[],[],[],[],za.mk [] (0,0,[]) [] [],[],[],zr x.1,[])
 let h4:=lL Z
 let z:=fB y zcc
 let A:=(z.2.1,z.2.2.1,z.2.2.2.1,())
 let h5:=Nm A Ti
 let B:=fB A zcg
 let C:=(B.2.1,B.2.2.1,B.2.2.2.1,())
 let h6:=Nm C Ti
 let b:=fB C zcf
 let h0:=(b.2.1,b.2.2.1,b.2.2.2.1,())
 let a:=zgS h0 ([],[],[],[],[],0,0,[],[],[],0,0,[],[],[],())
 let h1:=(a.2.1,a.2.2.1,a.2.2.2.1,a.t.1,[],a.t.2.1,[],[],zr a.t.q.1,[],[],za.mk a.t.q.2.1 (a.t.t.1,a.t.t.2.1,a.t.t.q.1) a.t.t.q.2.1 [],a.t.t.t.1)
 let h7:=lL h1
 Qc (JE J)
 (br (!(As J).2)
  (re (Qe [Qd [str [],str [],str [],Qb,Qb,str [],Qb,Qb,str [],ai 0,ai 0,str [],str [],Qb,Qb,Qb,str [],ai 0,ai 0,str [],str [],Qb,str []],kb Q4]) [])
  (Qc (eh a0 zb7) (br a1.1 Tr.err (Qc (eh a2 zcb) (br a3.1 (Qc (be a4 zcj) (Qc (bH a6) (br (cond (!a7.2.2.2.1) Q3 (a7.2.2.1!=a8)) (re (Qe [Qd [str [],str [],str [],Qb,Qb,str [],Qb,Qb,str [],ai 0,
  ai 0,str [],str [],Qb,Qb,Qb,str [],ai 0,ai 0,str [],str [],Qb,str []],kb Q4]) []) (Qc (iP a9) (br (!h2.2) (re (Qe [Qd [str [],str [],str [],Qb,Qb,str [],Qb,Qb,str [],ai 0,
  ai 0,str [],str [],Qb,Qb,Qb,str [],ai 0,ai 0,str [],str [],Qb,str []],kb Q4]) []) (re (Qe [Qd [str bl1,str a7.1,str [],Qb,Qb,str [],Qb,Qb,str [],
  ai 0,ai 0,str [],str [],Qb,Qb,Qb,str [],ai 0,ai 0,str [],str [],Qb,str []],kb Q3]) [])))))) (Qc (eh a4 zcd) (br g.1 (Qc (be i zce) (Qc (bH L) (Qc (be M zcl) (Qc (be N [40]) (Q9
  (SZ.h17 (As J).1 ([],[],[],[],[],0,0,[],[],[],0,0,[],[],[],()) (bP N [40]) (bl3,j.1,[],[],[],0,0,[],[],[],0,0,[],[],[],()))))))) (Qc (eh i zck) (br k.1 (Qc (bH m) (Qc (be O [83,69,84]) (Q9
  (SZ.h25 (As J).1 ([],[],[],[],[],0,0,[],[],[],0,0,[],[],[],()) (bP O [83,69,84]) (K8,n.1,[],[],[],0,0,[],[],[],0,0,[],[],[],()))))) (Qc (eh m zb9) (br o.1 (Qc (be p uF) (Qc (bH P) (Qc (eb S ma)
  (br (cond (!h.2.2.2.1) Q3 (h.2.2.1!=a8)) (re (Qe [Qd [str [],str [],str [],Qb,Qb,str [],Qb,Qb,str [],ai 0,ai 0,str [],str [],Qb,Qb,Qb,str [],ai 0,ai 0,str [],str [],Qb,str []],kb Q4]) []) (Qc (iP T) (br (!h3.2)
  (re (Qe [Qd [str [],str [],str [],Qb,Qb,str [],Qb,Qb,str [],ai 0,ai 0,str [],str [],Qb,Qb,Qb,str [],ai 0,ai 0,str [],str [],Qb,str []],kb Q4]) []) (re (Qe [Qd
  [str bl0,str c.1,str [],Qb,Qb,str [],Qb,Qb,str [],ai 0,ai 0,str [],str [],Qb,Qb,Qb,str (za.op h.1),ai (za.v h.1).1,ai (za.v h.1).2.1,str (za.v h.1).2.2,str (za.s h.1),sl Q5 (za.l h.1),str []],
  kb Q3]) []))))))) (Qc (eh p zci) (br u.1 (Qc (be y [42]) (Qc (be W uF) (Qc (bH X) (Qc (eb Y ma) (br (cond (!x.2.2.2.1) Q3 (x.2.2.1!=a8)) (re (Qe [Qd
  [str [],str [],str [],Qb,Qb,str [],Qb,Qb,str [],ai 0,ai 0,str [],str [],Qb,Qb,Qb,str [],ai 0,ai 0,str [],str [],Qb,str []],kb Q4]) []) (Qc (iP Z) (br (!h4.2) (re (Qe [Qd
  [str [],str [],str [],Qb,Qb,str [],Qb,Qb,str [],ai 0,ai 0,str [],str [],Qb,Qb,Qb,str [],ai 0,ai 0,str [],str [],Qb,str []],kb Q4]) []) (re (Qe [Qd
  [str Ii,str d.1,str [],Qb,Qb,str [],Qb,Qb,str [],ai 0,ai 0,str [],str [],Qb,Qb,Qb,str (za.op x.1),ai (za.v x.1).1,ai (za.v x.1).2.1,str (za.v x.1).2.2,str (za.s x.1),sl Q5 (za.l x.1),str []],
  kb Q3]) [])))))))) (Qc (eh y zcc) (br z.1 (Qc (JS A Ti) (br h5.1 Tr.err Tr.err)) (Qc (eh A zcg) (br B.1 (Qc (JS C Ti) (br h6.1 Tr.err Tr.err)) (Qc (eh C zcf) (br b.1
  (Qc (ZF h0 ([],[],[],[],[],0,0,[],[],[],0,0,[],[],[],())) (br (cond (!a.1.2.2.1) Q3 (a.1.2.1!=a8)) (re (Qe [Qd [str [],str [],str [],Qb,Qb,str [],Qb,Qb,str [],ai 0,ai 0,str [],str [],Qb,Qb,Qb,str [],
  ai 0,ai 0,str [],str [],Qb,str []],kb Q4]) []) (Qc (iP h1) (br (!h7.2) (re (Qe [Qd [str [],str [],str [],Qb,Qb,str [],Qb,Qb,str [],ai 0,ai 0,str [],str [],Qb,Qb,Qb,
  str [],ai 0,ai 0,str [],str [],Qb,str []],kb Q4]) []) (re (Qe [Qd [str a.2.1,str a.2.2.1,str a.2.2.2.1,AV.vec 0,Qb,str a.t.2.1,Qb,Qb,str (za.op a.t.q.1),ai (za.v a.t.q.1).1,ai (za.v a.t.q.1).2.1,
  str (za.v a.t.q.1).2.2,str (za.s a.t.q.1),sl Q5 (za.l a.t.q.1),Qb,Qb,str a.t.q.2.1,ai a.t.t.1,ai a.t.t.2.1,str a.t.t.q.1,str a.t.t.q.2.1,Qb,str a.t.t.t.1],kb Q3])
  [AO.vec Q6 a.t.1]))))) (br (cond (!b.2.2.2.1) Q3 (b.2.2.1!=a8)) (re (Qe [Qd [str [],str [],str [],Qb,Qb,str [],Qb,Qb,str [],ai 0,ai 0,str [],str [],Qb,Qb,Qb,str [],ai 0,ai 0,str [],str [],Qb,str []],kb Q4]) [])
  (Qc Q3 (br Q3 (re (Qe [Qd [str [],str [],str [],Qb,Qb,str [],Qb,Qb,str [],ai 0,ai 0,str [],str [],Qb,Qb,Qb,str [],ai 0,ai 0,str [],str [],Qb,str []],kb Q4]) []) (re (Qe [Qd
  [str [],str [],str [],Qb,Qb,str [],Qb,Qb,str [],ai 0,ai 0,str [],str [],Qb,Qb,Qb,str [],ai 0,ai 0,str [],str [],Qb,str []],kb Q3]) [])))))))))))))))))))))))
def zwb:SZ->Tr (SZ⊕aw)
 | .h17 d _ h z=>
  let x:=(h.1,h.2.1,h.2.2.1,())
  let b:=bP x [41]
  let a:=(z.1,z.2.1,z.2.2.1,[],[],z.2.2.2.1,[],[],za.mk z.t.1 (z.t.2.1,z.t.q.1,z.t.q.2.1) z.t.t.1 [],[],[],za.mk z.t.t.2.1 (z.t.t.q.1,z.t.t.q.2.1,z.t.t.t.1) z.t.t.t.2.1 [],z.t.t.t.q.1)
  let c:=lL a
  br h.2.2.1 Tr.err
  (Qc (be x [41])
   (br (cond (!b.2.2.1) Q3 (b.2.1!=(↑d.length:Int))) (re (Qe [Qd [str [],str [],str [],Qb,Qb,str [],Qb,Qb,str [],ai 0,ai 0,str [],str [],Qb,Qb,Qb,str [],ai 0,ai 0,str [],str [],Qb,str []],kb Q4]) []) (Qc (iP a)
   (br (!c.2) (re (Qe [Qd [str [],str [],str [],Qb,Qb,str [],Qb,Qb,str [],ai 0,ai 0,str [],str [],Qb,Qb,Qb,str [],ai 0,ai 0,str [],str [],Qb,str []],kb Q4]) []) (re (Qe [Qd
   [str z.1,str z.2.1,str z.2.2.1,Qb,Qb,str z.2.2.2.1,Qb,Qb,str z.t.1,ai z.t.2.1,ai z.t.q.1,str z.t.q.2.1,str z.t.t.1,Qb,Qb,Qb,str z.t.t.2.1,ai z.t.t.q.1,
   ai z.t.t.q.2.1,str z.t.t.t.1,str z.t.t.t.2.1,Qb,str z.t.t.t.q.1],kb Q3]) [])))))
 | .h25 d _ h z=>
  let x:=(h.1,h.2.1,h.2.2.1,())
  let b:=ct x
  let a:=fb x ma
  let c:=(z.1,z.2.1,z.2.2.1,[],[],z.2.2.2.1,[],[],za.mk z.t.1 (z.t.2.1,z.t.q.1,z.t.q.2.1) z.t.t.1 [],[],[],zr a.1,z.t.t.t.q.1)
  let g:=lL c
  br h.2.2.1 (Qc (bH x) (Qc (be (b.2.1,b.2.2.1,b.2.2.2.1,()) [61]) Tr.err))
  (Qc (eb x ma)
   (br (cond (!a.2.2.2.1) Q3 (a.2.2.1!=(↑d.length:Int))) (re (Qe [Qd [str [],str [],str [],Qb,Qb,str [],Qb,Qb,str [],ai 0,ai 0,str [],str [],Qb,Qb,Qb,str [],ai 0,ai 0,str [],str [],Qb,str []],kb Q4]) []) (Qc (iP c)
   (br (!g.2) (re (Qe [Qd [str [],str [],str [],Qb,Qb,str [],Qb,Qb,str [],ai 0,ai 0,str [],str [],Qb,Qb,Qb,str [],ai 0,ai 0,str [],str [],Qb,str []],kb Q4]) []) (re (Qe [Qd
   [str z.1,str z.2.1,str z.2.2.1,Qb,Qb,str z.2.2.2.1,Qb,Qb,str z.t.1,ai z.t.2.1,ai z.t.q.1,str z.t.q.2.1,str z.t.t.1,Qb,Qb,Qb,str (za.op a.1),ai (za.v a.1).1,ai (za.v a.1).2.1,
   str (za.v a.1).2.2,str (za.s a.1),sl Q5 (za.l a.1),str z.t.t.t.q.1],kb Q3]) [])))))
def Eo(x:TS):=ao [ar,Q7] zwb 100000000 (zvA x)
def ZB(x:TS):=(Eo x).isSome
def cU(x:TS):=o2 (Eo x)
def znB:=FT [Q6] [ar,Q7] λx=>Eo x.1
theorem zis:FK 29 znB:=GL.T1 (f:=Tryz.f29) (keep:=zrw) (e:=zuk)
def zfR:=zfQ.add 29 znB
theorem GM:zu zfR:=GL.add zis
def zvw(x:TS):Tr (Empty⊕aw):=
 Qc (ZB x)
 (re
  (Qd [str (cU x).1.1,str (cU x).1.2.1,str (cU x).1.2.2.1,sl Q6 (cU x).1.2.2.2.1,sl zl (cU x).1.t.1,str (cU x).1.t.2.1,sl Q6 (cU x).1.t.q.1,sl (Sh.str.pr Q6) (cU x).1.t.q.2.1,str (za.op (cU x).1.t.t.1),
  ai (za.v (cU x).1.t.t.1).1,ai (za.v (cU x).1.t.t.1).2.1,str (za.v (cU x).1.t.t.1).2.2,str (za.s (cU x).1.t.t.1),sl Q5 (za.l (cU x).1.t.t.1),sl zf (cU x).1.t.t.2.1,sl (Sh.str.pr Q5) (cU x).1.t.t.q.1,
  str (za.op (cU x).1.t.t.q.2.1),ai (za.v (cU x).1.t.t.q.2.1).1,ai (za.v (cU x).1.t.t.q.2.1).2.1,str (za.v (cU x).1.t.t.q.2.1).2.2,str (za.s (cU x).1.t.t.q.2.1),sl Q5 (za.l (cU x).1.t.t.q.2.1),
  str (cU x).1.t.t.t])
  [])
def zrN(x:TS):=ao [ar] t0 100000000 (zvw x)
def zm2:=FT [Q6] [ar] λx=>zrN x.1
theorem zhN:FK 9 zm2:=GM.T1 (f:=Tryz.f9) (keep:=k0) (e:=e0)
def zfS:=zfR.add 9 zm2
theorem kU:zu zfS:=GM.add zhN
def zgm(x h:zo):Tr (Empty⊕aw):=
 let b:=x.1==h.1&&(x.2.1==h.2.1&&(x.2.2==h.2.2&&Q3))
 let a:=bn b
 Qc (nH x h)
 (br (rM x h) (re (Qd [ai 0,ai 0,str []]) [])
  (Qc (lI b) (re (Qd [ai a.1,ai a.2.1,str a.2.2]) [])))
def qv(x h:zo):=ao [zf] t0 100000000 (zgm x h)
def vG(x h:zo):=(qv x h).isSome
def rK(x h:zo):=o1 (qv x h)
def zeQ:=FT [zf,zf] [zf] λx=>qv x.1 x.2.1
theorem za8:FK 170 zeQ:=kU.T1 (f:=Tryz.f170) (keep:=k0) (e:=e0)
def zgn(x h:zo):Tr (Empty⊕aw):=
 let b:=Op.bytesLess x.2.2 h.2.2
 let a:=bn b
 Qc (nH x h)
 (br (rM x h) (re (Qd [ai 0,ai 0,str []]) [])
  (br (Q0 (x.2.1<h.2.1)) (Qc Q3 (re (Qd [ai (bn Q3).1,ai (bn Q3).2.1,str (bn Q3).2.2]) [])) (Qc (lI b) (re (Qd [ai a.1,ai a.2.1,str a.2.2]) []))))
def vH(x h:zo):=ao [zf] t0 100000000 (zgn x h)
def Bf(x h:zo):=(vH x h).isSome
def xX(x h:zo):=o1 (vH x h)
def zeS:=FT [zf,zf] [zf] λx=>vH x.1 x.2.1
theorem zba:FK 171 zeS:=kU.T1 (f:=Tryz.f171) (keep:=k0) (e:=e0)
def zgo(h x:zo):Tr (Empty⊕aw):=
 let b:=Γ Δ (9223372036854775807-x.2.1)
 let c:=Γ Δ (-9223372036854775808-x.2.1)
 let a:=bif Q0 (x.2.1<0)then Q0 (h.2.1<c)else Q4
 Qc (nH h x)
 (br (cond (rM h x) Q3 (h.1!=1)) (re (Qd [ai 0,ai 0,str []]) [])
  (br (cond (Q0 (x.2.1>0)) (cond (Q0 (h.2.1>b)) Q3 a) a) (re (Qd [ai 0,ai 0,str []]) []) (re (Qd [ai 1,ai (Γ Δ (h.2.1+x.2.1)),str []]) [])))
def vK(x h:zo):=ao [zf] t0 100000000 (zgo x h)
def Bg(x h:zo):=(vK x h).isSome
def xY(x h:zo):=o1 (vK x h)
def zeT:=FT [zf,zf] [zf] λx=>vK x.1 x.2.1
theorem zbb:FK 102 zeT:=kU.T1 (f:=Tryz.f102) (keep:=k0) (e:=e0)
def zgp(h x:zo):Tr (Empty⊕aw):=
 let b:=Γ Δ (-9223372036854775808+x.2.1)
 let c:=Γ Δ (9223372036854775807+x.2.1)
 let a:=bif Q0 (x.2.1<0)then Q0 (h.2.1>c)else Q4
 Qc (nH h x)
 (br (cond (rM h x) Q3 (h.1!=1)) (re (Qd [ai 0,ai 0,str []]) [])
  (br (cond (Q0 (x.2.1>0)) (cond (Q0 (h.2.1<b)) Q3 a) a) (re (Qd [ai 0,ai 0,str []]) []) (re (Qd [ai 1,ai (Γ Δ (h.2.1-x.2.1)),str []]) [])))
def qx(x h:zo):=ao [zf] t0 100000000 (zgp x h)
def vI(x h:zo):=(qx x h).isSome
def rL(x h:zo):=o1 (qx x h)
def zeU:=FT [zf,zf] [zf] λx=>qx x.1 x.2.1
theorem zbc:FK 172 zeU:=kU.T1 (f:=Tryz.f172) (keep:=k0) (e:=e0)
def zgb(x:Sem Q5)(h:Sem zl.sl):Tr (Empty⊕aw):=
 br (za.op x==[])
 (Qc (g9 (zr x) (za.mk [] (0,0,[]) [] []))
  (br (!fz (zr x) (za.mk [] (0,0,[]) [] [])) (re (ai 1) []) (re (ai 0) [])))
 (Qc (uf (zr x))
  (br (!D4 (zr x)) (re (ai 1) []) (Qc (oT (zr x) h) (br ((iN (zr x) h).2!=0) (re (ai (iN (zr x) h).2) []) (br (cond ((iN (zr x) h).1!=0) ((iN (zr x) h).1!=3) Q4) (re (ai 5) []) (re (ai 0) []))))))
def qC(x:Sem Q5)(h:Sem zl.sl):=ao [zj] t0 100000000 (zgb x h)
def Ea(x:Sem Q5)(h:Sem zl.sl):=(qC x h).isSome
def Ju(x:Sem Q5)(h:Sem zl.sl):=o1 (qC x h)
def zed:=FT [Q5,zl.sl] [zj] λx=>qC x.1 x.2.1
theorem zau:FK 163 zed:=kU.T1 (f:=Tryz.f163) (keep:=k0) (e:=e0)
def Ix:=zfS.addL [(170,zeQ),(171,zeS),(102,zeT),(172,zeU),(163,zed)]
theorem tI:zu Ix:=kU.addL<|fc za8<|fc zba<|fc zbb<|fc zbc<|fc zau iw
def Cr(g:Sem Q5->bY->eU->zo)(c:Sem Q5->bY->eU->Bool):cd:=Ix.add 106 (zY [Q5,Sh.sl zl,Sh.sl zf] [zf] (λx=>c x.1 x.2.1 x.2.2.1) λx=>(g x.1 x.2.1 x.2.2.1,()))
theorem Ox{g:Sem Q5->bY->eU->zo}{c:Sem Q5->bY->eU->Bool}(h:FK 106 (zY [Q5,Sh.sl zl,Sh.sl zf] [zf] (λx=>c x.1 x.2.1 x.2.2.1) λx=>(g x.1 x.2.1 x.2.2.1,()))):zu (Cr g c):=tI.add h
abbrev Pc:Nat->aT:=λj=>if j=6 then{slots:=[1,2,3,6,7]}else{ }
inductive FR where
 |h6 (l1:LC) (l2:LV) (i7:Int) (z0:zn [CP.d Q5]) (z1:zn [CP.d zf])
abbrev Lh:FR->Nat×St
 |.h6 l h i z x=>(6,⟨tm 103 [(1,sl zl l),(2,sl zf h),(3,Qf 0 0),(6,Qf 1 0),(7,ai i)],[Qa (bI [] [CP.d Q5] z),Qa (bI [] [CP.d zf] x)]⟩)
theorem zk8(g:Sem Q5->Sem zl.sl->Sem zf.sl->zo)(c:Sem Q5->Sem zl.sl->Sem zf.sl->Bool):zM (Cr g c).P 106 Tryz.f106 3:=bL kw
def qh(g:Sem Q5->Sem zl.sl->Sem zf.sl->zo)(c:Sem Q5->Sem zl.sl->Sem zf.sl->Bool)(x:Sem Q5)(j:Sem zl.sl)(k:Sem zf.sl):Tr (FR⊕aw):=
 let s:=zr ((za.l x).getD (toNat 0) (zi Q5))
 let a:=g s j k
 let m:=Hu a
 let t:=a.1==0
 let n:=bn t
 let u:=zr ((za.l x).getD (toNat 1) (zi Q5))
 let h:=g u j k
 let o:=Hs a h
 let p:=Ux a h
 let q:=rK a h
 let b:=xX a h
 let d:=xY a h
 let i:=rL a h
 br (za.op x==ot)
 (re (Qd [ai (za.v x).1,ai (za.v x).2.1,str (za.v x).2.2]) [])
 (br (za.op x==eK) (Q9 (FR.h6 j k 0 (x,()) ((0,0,[]),())))
  (Qc (zK 0 (za.l x).length) (Qc (c s j k) (br (za.op x==ng) (Qc (Jj a) (re (Qd [ai m.1,ai m.2.1,str m.2.2]) [])) (br (za.op x==pk) (Qc (mI a) (br (!tc a) (Qc Q3
  (re (Qd [ai (bn Q3).1,ai (bn Q3).2.1,str (bn Q3).2.2]) [])) (Qc (lI t) (re (Qd [ai n.1,ai n.2.1,str n.2.2]) [])))) (Qc (zK 1 (za.l x).length) (Qc (c u j k) (br (za.op x==ir)
  (Qc (Jg a h) (re (Qd [ai o.1,ai o.2.1,str o.2.2]) [])) (br (za.op x==uG) (Qc (Sf a h) (re (Qd [ai p.1,ai p.2.1,str p.2.2]) [])) (br (za.op x==[61]) (Qc (vG a h) (re (Qd [ai q.1,ai q.2.1,str q.2.2]) [])) (br (za.op x==[60])
  (Qc (Bf a h) (re (Qd [ai b.1,ai b.2.1,str b.2.2]) [])) (br (za.op x==[43]) (Qc (Bg a h) (re (Qd [ai d.1,ai d.2.1,str d.2.2]) [])) (Qc (vI a h) (re (Qd [ai i.1,ai i.2.1,str i.2.2]) []))))))))))))))
theorem zjN(g:Sem Q5->Sem zl.sl->Sem zf.sl->zo)(c:Sem Q5->Sem zl.sl->Sem zf.sl->Bool)(x:Sem Q5)(h:Sem zl.sl)(a:Sem zf.sl):rn (Cr g c) 0 Pc Tryz.f106 [zI Q5 x,zI zl.sl h,zI zf.sl a] []=(qh g c x h a).map (lf Tryz.f106 Lh):=kw
def Az(_:Sem Q5->Sem zl.sl->Sem zf.sl->zo)(_:Sem Q5->Sem zl.sl->Sem zf.sl->Bool):FR->Tr (FR⊕aw)
 | .h6 l h i z b=>
  let x:=l.getD i.toNat (zi zl)
  let a:=h.getD i.toNat (zi zf)
  br (Q0 (i<(↑l.length:Int)))
  (Qc (zK i (Io l))
   (br (x.1==za.s z.1) (br (Q0 (i<(↑h.length:Int))) (Qc (zK i (Io h)) (re (Qd [ai a.1,ai a.2.1,str a.2.2]) [])) (re (Qd [ai 0,ai 0,str []]) [])) (Q9 (FR.h6 l h (Γ Δ (i+1)) z b))))
  (re (Qd [ai 0,ai 0,str []]) [])
theorem zlr(g:Sem Q5->Sem zl.sl->Sem zf.sl->zo)(c:Sem Q5->Sem zl.sl->Sem zf.sl->Bool):∀s,run (Cr g c) 0 Pc (Func.results Tryz.f106).toList 400 (aa Tryz.f106 (Lh s).1) (Lh s).2=(Az g c s).map (lf Tryz.f106 Lh)
 |.h6 l h i z x=>by kernel_rfl
def g8(o:Option (zD (Qi Q1 [zf]))):zo:=(λr:zD (Qi Q1 [zf])=>r.1) (o.getD (cA [zf]))
def Si(g:Sem Q5->Sem zl.sl->Sem zf.sl->zo)(c:Sem Q5->Sem zl.sl->Sem zf.sl->Bool)(x:Sem Q5)(h:Sem zl.sl)(a:Sem zf.sl):Option (zD (Qi Q1 [zf])):=ao [zf] (Az g c) 100000000 (qh g c x h a)
def cF:Nat->Sem Q5->Sem zl.sl->Sem zf.sl->Option (zD (Qi Q1 [zf]))
 |0=>λ_ _ _=>Q2
 |n+1=>Si (λx h a=>g8 (cF n x h a)) λx h a=>(cF n x h a).isSome
theorem XI:zM Ix.P 106 Tryz.f106 3:=bL kw
theorem KE:∀n,FK 106 (zY [Q5,zl.sl,zf.sl] [zf] (λx=>(cF n x.1 x.2.1 x.2.2.1).isSome) λx=>(g8 (cF n x.1 x.2.1 x.2.2.1),()))
 |0=>eH ⟨Tryz.f106,XI.1,XI.2.1,XI.2.2.1⟩ (λ_=>rfl)
 |n+1=>lg (E:=Cr (λh a b=>g8 (cF n h a b)) (λh a b=>(cF n h a b).isSome)) (ks:=[Q5,zl.sl,zf.sl]) (outs:=[zf]) (keep:=Pc) (gas:=400) (n:=100000000) (e:=Lh) (t:=Az (λh a b=>g8 (cF n h a b)) (λh a b=>(cF n h a b).isSome)) (i:=λx=>qh (λh a b=>g8 (cF n h a b)) (λh a b=>(cF n h a b).isSome) x.1 x.2.1 x.2.2.1) (Ox (KE n)) (zk8 _ _) (λx=>zjN _ _ x.1 x.2.1 x.2.2.1) (zlr _ _) (λ_=>by kernel_rfl) (λ_=>by kernel_rfl)
def Bj(x:Sem Q5)(h:Sem zl.sl)(a:Sem zf.sl):Option (zD (Qi Q1 [zf])):=cF 16 x h a
def Bi(x:Sem Q5)(h:Sem zl.sl)(a:Sem zf.sl):Bool:=(Bj x h a).isSome
def Jl(x:Sem Q5)(h:Sem zl.sl)(a:Sem zf.sl):zo:=g8 (Bj x h a)
def zeg:z8:=zY [Q5,zl.sl,zf.sl] [zf] (λx=>Bi x.1 x.2.1 x.2.2.1) λx=>(Jl x.1 x.2.1 x.2.2.1,())
theorem zax:FK 106 zeg:=KE 16
abbrev zrr:=kl [(5,[1,3,4]),(11,[1,3,6]),(16,[1,3,7])]
inductive Fo where
 |h5 (i3:Int) (i4:Int) (z0:zn [CP.d ak])
 |h11 (i3:Int) (i6:Int) (z0:zn [CP.d ak])
 |h16 (i3:Int) (i7:Int) (z0:zn [CP.d ak])
abbrev zuf:Fo->Nat×St
 |.h5 i h z=>(5,⟨tm 139 [(1,Qf 0 0),(3,ai i),(4,ai h)],[Qa (bI [] [CP.d ak] z)]⟩)
 |.h11 i x z=>(11,⟨tm 139 [(1,Qf 0 0),(3,ai i),(6,ai x)],[Qa (bI [] [CP.d ak] z)]⟩)
 |.h16 i a z=>(16,⟨tm 139 [(1,Qf 0 0),(3,ai i),(7,ai a)],[Qa (bI [] [CP.d ak] z)]⟩)
def zks(x:aq):Tr (Fo⊕aw):=
 let a:=(↑(Io x.2.1):Int)
 let h:=Q0 (a<1)
 let b:=Q0 (a>8)
 let c:=Q0 (x.2.2.1<0)
 let d:=Q0 (x.2.2.1>=a)
 let g:=getD x.2.1 (toNat x.2.2.1) (zi zl)
 Qc
 (ea x.1&&
  bif !bN x.1 then Q3
  else bif h then Q3 else bif b then Q3 else bif c then Q3 else bif d then Q3 else zK x.2.2.1 (Io x.2.1))
 (br (cond (!bN x.1) Q3 (cond h Q3 (cond b Q3 (cond c Q3 (cond d Q3 (!g.2.2))))))
  (re (kb Q4) []) (Q9 (Fo.h5 a 0 (x,()))))
def sG:Fo->Tr (Fo⊕aw)
 | .h5 i c z=>
  let a:=getD z.1.2.1 c.toNat (zi zl)
  let x:=!bN a.1
  let h:=Q0 (a.2.1<1)
  let b:=Q0 (a.2.1>3)
  br (Q0 (c<i))
  (Qc (zK c (Io z.1.2.1))
   (Qc (ea a.1&&bif x then Q3 else bif h then Q3 else bif b then Q3 else eP z.1.2.1 a.1) (br (cond x Q3 (cond h Q3 (cond b Q3 (gw z.1.2.1 a.1!=c)))) (re (kb Q4) []) (Q9 (Fo.h5 i (Γ Δ (c+1)) z)))))
  (Q9 (Fo.h11 i 0 z))
 | .h11 i d z=>
  let a:=(↑(Io z.1.2.2.2.1):Int)
  let x:=zK d (Io z.1.2.2.2.1)
  let h:=getD z.1.2.2.2.1 d.toNat (zi zj)
  let b:=Q0 (h<0)
  br (Q0 (d<a))
  (Qc (x&&bif b then Q3 else x)
   (br (cond b Q3 (Q0 (h>=i))) (re (kb Q4) []) (Q9 (Fo.h11 i (Γ Δ (d+1)) z))))
  (Q9 (Fo.h16 i 0 z))
 | .h16 i g z=>
  let a:=(↑(Io z.1.t.1):Int)
  let x:=zK g (Io z.1.t.1)
  let h:=getD z.1.t.1 g.toNat (zi zA)
  let b:=Q0 (h.1<0)
  let j:=Q0 (h.1>=i)
  let k:=zr z.1.t.2
  br (Q0 (g<a))
  (Qc (x&&bif b then Q3 else x&&bif j then Q3 else x&&ea h.2)
   (br (cond b Q3 (cond j Q3 (!bN h.2))) (re (kb Q4) []) (Q9 (Fo.h16 i (Γ Δ (g+1)) z))))
  (Qc (Ea k z.1.2.1) (re (AV.bool (Ju k z.1.2.1==0)) []))
def Jt(x:aq):=ao [Q7] sG 100000000 (zks x)
def xZ(x:aq):=(Jt x).isSome
def HB(x:aq):=o1 (Jt x)
def znu:=FT [ak] [Q7] λx=>Jt x.1
theorem zij:FK 97 znu:=tI.T1 (f:=Tryz.f97) (keep:=zrr) (e:=zuf)
def Wo:=Ix.addL [(106,zeg),(97,znu)]
theorem lv:zu Wo:=tI.addL<|fc zax<|fc zij iw
abbrev zrt:=kl [(4,[1,2,5]),(9,[1,2,6])]
inductive H5 where
 |h4 (l1:LV) (i5:Int) (z0:zn [CP.d ak])
 |h9 (l1:LV) (i6:Int) (z0:zn [CP.d ak])
abbrev zuh:H5->Nat×St
 |.h4 l i z=>(4,⟨tm 83 [(1,sl zf l),(2,Qf 0 0),(5,ai i)],[Qa (bI [] [CP.d ak] z)]⟩)
 |.h9 l h z=>(9,⟨tm 83 [(1,sl zf l),(2,Qf 0 0),(6,ai h)],[Qa (bI [] [CP.d ak] z)]⟩)
def zkt(x:aq)(h:Sem zf.sl):Tr (H5⊕aw):=
 let a:=(x.1,x.2.1,x.2.2.1,x.2.2.2.1,x.t.1,zr x.t.2)
 Qc (xZ a)
 (br (cond (!HB a) Q3 ((↑(Io h):Int)!=(↑(Io x.2.1):Int))) (re (ai 1) [])
  (Q9 (H5.h4 h 0 (x,()))))
def E3:H5->Tr (H5⊕aw)
 | .h4 l h z=>
  let a:=l.getD h.toNat (zi zf)
  br (Q0 (h<(↑l.length:Int)))
  (Qc (zK h (Io l)) (Qc (mI a) (br (!tc a) (re (ai 1) []) (Q9 (H5.h4 l (Γ Δ (h+1)) z)))))
  (Q9 (H5.h9 l 0 z))
 | .h9 l i z=>
  let a:=l.getD i.toNat (zi zf)
  let x:=a.1==0
  let b:=zK i (Io z.1.2.1)
  let c:=getD z.1.2.1 i.toNat (zi zl)
  let d:=a.1!=0
  let g:=!za.op z.1.t.2==[]
  let j:=zr z.1.t.2
  let k:=Jl j z.1.2.1 l
  br (Q0 (i<(↑l.length:Int)))
  (Qc (zK i (Io l)&&bif x then b else Q3)
   (br (cond x c.2.2 Q4) (re (ai 8) []) (Qc (zK i (Io l)&&bif d then zK i (Io l)&&b else Q3) (br (cond d (a.1!=c.2.1) Q4) (re (ai 5) []) (Q9 (H5.h9 l (Γ Δ (i+1)) z))))))
  (Qc (cond g (Bi j z.1.2.1 l&&nG k Q4) Q3)
   (br (cond g (qw k Q4) Q4) (re (ai 9) []) (re (ai 0) [])))
def Bo(x:aq)(h:Sem zf.sl):=ao [zj] E3 100000000 (zkt x h)
def Js(x:aq)(h:Sem zf.sl):=(Bo x h).isSome
def PH(x:aq)(h:Sem zf.sl):=o1 (Bo x h)
def znw:=FT [ak,zf.sl] [zj] λx=>Bo x.1 x.2.1
theorem zil:FK 45 znw:=lv.T1 (f:=Tryz.f45) (keep:=zrt) (e:=zuh)
abbrev zru:=kl [(2,[0,1,5]),(5,[0,1,5,6])]
inductive KO where
 |h2 (l0:List (Sem zf.sl)) (i1:zq) (i5:Int)
 |h5 (l0:List (Sem zf.sl)) (i1:zq) (i5:Int) (i6:Int)
abbrev zui:KO->Nat×St
 |.h2 l i h=>(2,⟨tm 44 [(0,sl zf.sl l),(1,ai i),(5,ai h)],[]⟩)
 |.h5 l i h x=>(5,⟨tm 44 [(0,sl zf.sl l),(1,ai i),(5,ai h),(6,ai x)],[]⟩)
def zqQ(x:Sem zf.sl.sl)(h:zq):Tr (KO⊕aw):=
 Q9 (KO.h2 x h 0)
def FH:KO->Tr (KO⊕aw)
 | .h2 l h i=>
  br (Q0 (i<(↑l.length:Int))) (Q9 (KO.h5 l h i 0)) (re (kb Q4) [])
 | .h5 l h i x=>
  let c:=l.getD i.toNat (zi zf.sl)
  let d:=zK h (Io c)
  let a:=getD c (toNat h) (zi zf)
  let g:=a.1!=0
  let j:=l.getD x.toNat (zi zf.sl)
  let b:=getD j (toNat h) (zi zf)
  br (Q0 (x<i))
  (Qc (zK i (Io l)&&(d&&bif g then zK i (Io l)&&(d&&(zK x (Io l)&&zK h (Io j)))else Q3))
   (br (cond g (a.1==b.1&&(a.2.1==b.2.1&&(a.2.2==b.2.2&&Q3))) Q4) (re (kb Q3) []) (Q9 (KO.h5 l h i (Γ Δ (x+1))))))
  (Q9 (KO.h2 l h (Γ Δ (i+1))))
def vP(x:Sem zf.sl.sl)(h:zq):=ao [Q7] FH 100000000 (zqQ x h)
def nM(x:Sem zf.sl.sl)(h:zq):=(vP x h).isSome
def r8(x:Sem zf.sl.sl)(h:zq):=o1 (vP x h)
def znx:=FT [zf.sl.sl,zj] [Q7] λx=>vP x.1 x.2.1
theorem zim:FK 192 znx:=lv.T1 (f:=Tryz.f192) (keep:=zru) (e:=zui)
def zqS(x:aq)(h:Sem zf.sl):Tr (Empty⊕aw):=
 let b:=(x.1,x.2.1,x.2.2.1,x.2.2.2.1,x.t.1,zr x.t.2)
 let a:=getD h (toNat x.2.2.1) (zi zf)
 Qc (xZ b)
 (br (cond (HB b) (Q0 (x.2.2.1<(↑(Io h):Int))) Q4)
  (Qc (zK x.2.2.1 (Io h)) (re (Qd [ai a.1,ai a.2.1,str a.2.2]) []))
  (re (Qd [ai 0,ai 0,str []]) []))
def Ed(x:aq)(h:Sem zf.sl):=ao [zf] t0 100000000 (zqS x h)
def Jz(x:aq)(h:Sem zf.sl):=(Ed x h).isSome
def Sm(x:aq)(h:Sem zf.sl):=o1 (Ed x h)
def znz:=FT [ak,zf.sl] [zf] λx=>Ed x.1 x.2.1
theorem ziq:FK 38 znz:=lv.T1 (f:=Tryz.f38) (keep:=k0) (e:=e0)
abbrev zrv:=kl [(2,[2,3,5])]
inductive SY where
 |h2 (i5:Int) (z0:zn [CP.d zk]) (z1:zn [CP.d zf])
abbrev zuj:SY->Nat×St
 |.h2 i z h=>(2,⟨tm 43 [(2,Qf 0 0),(3,Qf 1 0),(5,ai i)],[Qa (bI [] [CP.d zk] z),Qa (bI [] [CP.d zf] h)]⟩)
def zqT(x:ah)(h:zo):Tr (SY⊕aw):=
 Q9 (SY.h2 0 (x,()) (h,()))
def Z1:SY->Tr (SY⊕aw)
 | .h2 i z h=>
  let j:=(↑(Io z.1.2):Int)
  let b:=Q0 (i<j)
  let c:=(z.1.1.1,z.1.1.2.1,z.1.1.2.2.1,z.1.1.2.2.2.1,z.1.1.t.1,zr z.1.1.t.2)
  let d:=zK i (Io z.1.2)
  let a:=getD z.1.2 i.toNat (zi zf.sl)
  let k:=(↑(Io a):Int)
  let g:=Q0 (z.1.1.2.2.1<k)
  let x:=getD a (toNat z.1.1.2.2.1) (zi zf)
  Qc (cond b (xZ c) Q3)
  (br (cond b (HB c) Q4)
   (Qc (d&&bif g then d&&zK z.1.1.2.2.1 (Io a)else Q3) (br (cond g (x.1==h.1.1&&(x.2.1==h.1.2.1&&(x.2.2==h.1.2.2&&Q3))) Q4) (re (ai i) []) (Q9 (SY.h2 (Γ Δ (i+1)) z h))))
   (re (ai (-1)) []))
def Bq(x:ah)(h:zo):=ao [zj] Z1 100000000 (zqT x h)
def Jy(x:ah)(h:zo):=(Bq x h).isSome
def PI(x:ah)(h:zo):=o1 (Bq x h)
def znA:=FT [zk,zf] [zj] λx=>Bq x.1 x.2.1
theorem zir:FK 103 znA:=lv.T1 (f:=Tryz.f103) (keep:=zrv) (e:=zuj)
def Wp:=Wo.addL [(45,znw),(192,znx),(38,znz),(103,znA)]
theorem tK:zu Wp:=lv.addL<|fc zil<|fc zim<|fc ziq<|fc zir iw
abbrev zra:=kl [(6,[1,3]),(14,[1,5]),(19,[1,6])]
inductive Fk where
 |h6 (i3:Int) (z0:zn [CP.d zk])
 |h14 (i5:Int) (z0:zn [CP.d zk])
 |h19 (i6:Int) (z0:zn [CP.d zk])
abbrev zt4:Fk->Nat×St
 |.h6 i z=>(6,⟨tm 82 [(1,Qf 0 0),(3,ai i)],[Qa (bI [] [CP.d zk] z)]⟩)
 |.h14 h z=>(14,⟨tm 82 [(1,Qf 0 0),(5,ai h)],[Qa (bI [] [CP.d zk] z)]⟩)
 |.h19 x z=>(19,⟨tm 82 [(1,Qf 0 0),(6,ai x)],[Qa (bI [] [CP.d zk] z)]⟩)
def Xu(x:ah):Tr (Fk⊕aw):=
 let a:=(x.1.1,x.1.2.1,x.1.2.2.1,x.1.2.2.2.1,x.1.t.1,zr x.1.t.2)
 Qc (xZ a)
 (br (!HB a) (re (ai 1) [])
  (br (Q0 ((↑(Io x.2):Int)>200)) (re (ai 13) []) (Q9 (Fk.h6 0 (x,())))))
def qL:Fk->Tr (Fk⊕aw)
 | .h6 c z=>
  let x:=(↑(Io z.1.2):Int)
  let a:=(z.1.1.1,z.1.1.2.1,z.1.1.2.2.1,z.1.1.2.2.2.1,z.1.1.t.1,zr z.1.1.t.2)
  let h:=getD z.1.2 c.toNat (zi zf.sl)
  let b:=PH a h
  br (Q0 (c<x))
  (Qc (zK c (Io z.1.2))
   (Qc (Js a h) (br (b !=0) (re (ai b) []) (Q9 (Fk.h6 (Γ Δ (c+1)) z)))))
  (Qc (nM z.1.2 z.1.1.2.2.1)
   (br (r8 z.1.2 z.1.1.2.2.1) (re (ai 7) []) (Q9 (Fk.h14 0 z))))
 | .h14 d z=>
  let x:=(↑(Io z.1.1.2.2.2.1):Int)
  let a:=getD z.1.1.2.2.2.1 d.toNat (zi zj)
  br (Q0 (d<x))
  (Qc (zK d (Io z.1.1.2.2.2.1))
   (Qc (nM z.1.2 a) (br (r8 z.1.2 a) (re (ai 7) []) (Q9 (Fk.h14 (Γ Δ (d+1)) z)))))
  (Q9 (Fk.h19 1 z))
 | .h19 i z=>
  let x:=(↑(Io z.1.2):Int)
  let a:=Γ Δ (i-1)
  let h:=(z.1.1.1,z.1.1.2.1,z.1.1.2.2.1,z.1.1.2.2.2.1,z.1.1.t.1,zr z.1.1.t.2)
  let b:=getD z.1.2 a.toNat (zi zf.sl)
  let g:=getD z.1.2 i.toNat (zi zf.sl)
  let j:=Sm h b
  let k:=Sm h g
  let l:=Jk j k
  br (Q0 (i<x))
  (Qc (zK a (Io z.1.2))
   (Qc (Jz h b) (Qc (zK i (Io z.1.2)) (Qc (Jz h g) (Qc (DZ j k) (br (Q0 (l>0)) (re (ai 15) []) (Q9 (Fk.h19 (Γ Δ (i+1)) z))))))))
  (re (ai 0) [])
def nL(x:ah):=ao [zj] qL 100000000 (Xu x)
def Ec(x:ah):=(nL x).isSome
def Jv(x:ah):=o1 (nL x)
def zmZ:=FT [zk] [zj] λx=>nL x.1
theorem zhK:FK 126 zmZ:=tK.T1 (f:=Tryz.f126) (keep:=zra) (e:=zt4)
abbrev zrc:=kl [(2,[0,3]),(5,[0,3,4]),(12,[0,3,4,5,6,7])]
inductive Fl where
 |h2 (l0:zP) (i3:Int)
 |h5 (l0:zP) (i3:Int) (i4:Int)
 |h12 (l0:zP) (i3:Int) (i4:Int) (i6:zq) (i7:Int) (z0:zn [CP.d zA])
abbrev zt6:Fl->Nat×St
 |.h2 l i=>(2,⟨tm 75 [(0,sl zk l),(3,ai i)],[]⟩)
 |.h5 l i h=>(5,⟨tm 75 [(0,sl zk l),(3,ai i),(4,ai h)],[]⟩)
 |.h12 l i h x a z=>(12,⟨tm 75 [(0,sl zk l),(3,ai i),(4,ai h),(5,Qf 0 0),(6,ai x),(7,ai a)],[Qa (bI [] [CP.d zA] z)]⟩)
def zqK(x:Sem zk.sl):Tr (Fl⊕aw):=
 Q9 (Fl.h2 x 0)
def sF:Fl->Tr (Fl⊕aw)
 | .h2 l i=>
  br (Q0 (i<(↑l.length:Int))) (Q9 (Fl.h5 l i 0)) (re (kb Q3) [])
 | .h5 l i x=>
  let a:=l.getD i.toNat (zi zk)
  let g:=(↑(Io a.1.t.1):Int)
  let c:=getD a.1.t.1 x.toNat (zi zA)
  let b:=lM l c.2
  Qc (zK i (Io l))
  (br (Q0 (x<g))
   (Qc (zK i (Io l)) (Qc (zK x (Io a.1.t.1)) (br (Q0 (b<0)) (re (kb Q4) []) (Q9 (Fl.h12 l i x b 0 (c,()))))))
   (Q9 (Fl.h2 l (Γ Δ (i+1)))))
 | .h12 l i x j d z=>
  let a:=l.getD i.toNat (zi zk)
  let g:=(↑(Io a.2):Int)
  let c:=getD a.2 d.toNat (zi zf.sl)
  let b:=getD c (toNat z.1.1) (zi zf)
  let k:=b.1!=0
  let h:=l.getD (toNat j) (zi zk)
  let m:=((h.1.1,h.1.2.1,h.1.2.2.1,h.1.2.2.2.1,h.1.t.1,zr h.1.t.2),h.2)
  let n:=PI m b
  Qc (zK i (Io l))
  (br (Q0 (d<g))
   (Qc (zK i (Io l)) (Qc (zK d (Io a.2)) (Qc (zK z.1.1 (Io c)) (Qc (cond k (zK j (Io l)&&Jy m b) Q3) (br (cond k (Q0 (n<0)) Q4) (re (kb Q4) []) (Q9 (Fl.h12 l i x j (Γ Δ (d+1)) z)))))))
   (Q9 (Fl.h5 l i (Γ Δ (x+1)))))
def vR(x:Sem zk.sl):=ao [Q7] sF 100000000 (zqK x)
def Ee(x:Sem zk.sl):=(vR x).isSome
def JA(x:Sem zk.sl):=o1 (vR x)
def zm1:=FT [zk.sl] [Q7] λx=>vR x.1
theorem zhM:FK 127 zm1:=tK.T1 (f:=Tryz.f127) (keep:=zrc) (e:=zt6)
def Wq:=Wp.addL [(126,zmZ),(127,zm1)]
theorem CC:zu Wq:=tK.addL<|fc zhK<|fc zhM iw
abbrev zvV:=kl [(4,[0,3]),(9,[0,4])]
inductive H9p where
 |h4 (l0:zP) (i3:Int)
 |h9 (l0:zP) (i4:Int)
abbrev e9p:H9p->Nat×St
 |.h4 l i=>(4,⟨tm 46 [(0,sl zk l),(3,ai i)],[]⟩)
 |.h9 l h=>(9,⟨tm 46 [(0,sl zk l),(4,ai h)],[]⟩)
def i9p(x:Sem zk.sl):Tr (H9p⊕aw):=
 br (Q0 ((↑(Io x):Int)>12)) (re (ai 13) []) (Q9 (H9p.h4 x 1))
def Z2:H9p->Tr (H9p⊕aw)
 | .h4 l i=>
  let a:=Γ Δ (i-1)
  let h:=l.getD a.toNat (zi zk)
  let x:=l.getD i.toNat (zi zk)
  br (Q0 (i<(↑l.length:Int)))
  (Qc (zK a (Io l))
   (Qc (zK i (Io l)) (br (!Op.bytesLess h.1.1 x.1.1) (re (ai 15) []) (Q9 (H9p.h4 l (Γ Δ (i+1)))))))
  (Q9 (H9p.h9 l 0))
 | .h9 l b=>
  let a:=l.getD b.toNat (zi zk)
  let h:=((a.1.1,a.1.2.1,a.1.2.2.1,a.1.2.2.2.1,a.1.t.1,zr a.1.t.2),a.2)
  let x:=Jv h
  br (Q0 (b<(↑l.length:Int)))
  (Qc (zK b (Io l)) (Qc (Ec h) (br (x !=0) (re (ai x) []) (Q9 (H9p.h9 l (Γ Δ (b+1)))))))
  (Qc (Ee l) (br (!JA l) (re (ai 10) []) (re (ai 0) [])))
def qE(x:Sem zk.sl):=ao [zj] Z2 100000000 (i9p x)
def Eg(x:Sem zk.sl):=(qE x).isSome
def JC(x:Sem zk.sl):=o1 (qE x)
def F9p:=FT [zk.sl] [zj] λx=>qE x.1
theorem zpi:FK 59 F9p:=CC.T1 (f:=Tryz.f59) (keep:=zvV) (e:=e9p)
def Wr:=Wq.add 59 F9p
theorem ox:zu Wr:=CC.add zpi
abbrev zrl:=kl [(4,[0,1,12,13])]
inductive SW where
 |h4 (l0:dI) (l1:dI) (i12:Int) (i13:Int)
abbrev zud:SW->Nat×St
 |.h4 l x i h=>(4,⟨tm 26 [(0,sl zj l),(1,sl zj x),(12,ai i),(13,ai h)],[]⟩)
def zc0(x h:Sem zj.sl):Tr (SW⊕aw):=
 br ((↑(Io x):Int)!=(↑(Io h):Int)) (re (kb Q4) []) (Q9 (SW.h4 x h (↑(Io x):Int) 0))
def ztq:SW->Tr (SW⊕aw)
 | .h4 l x h i=>
  br (Q0 (i<h))
  (Qc (zK i (Io l))
   (Qc (zK i (Io x)) (br (l.getD i.toNat (zi zj)!=x.getD i.toNat (zi zj)) (re (kb Q4) []) (Q9 (SW.h4 l x h (Γ Δ (i+1)))))))
  (re (kb Q3) [])
def J7(x h:Sem zj.sl):=ao [Q7] ztq 100000000 (zc0 x h)
def J6(x h:Sem zj.sl):=(J7 x h).isSome
def pu(x h:Sem zj.sl):=o1 (J7 x h)
def znn:=FT [zj.sl,zj.sl] [Q7] λx=>J7 x.1 x.2.1
theorem zh9:FK 150 znn:=ox.T1 (f:=Tryz.f150) (keep:=zrl) (e:=zud)
abbrev zrH:=kl [(4,[0,1,12,13])]
inductive S2 where
 |h4 (l0:aM) (l1:aM) (i12:Int) (i13:Int)
abbrev zus:S2->Nat×St
 |.h4 l x i h=>(4,⟨tm 26 [(0,sl zl l),(1,sl zl x),(12,ai i),(13,ai h)],[]⟩)
def zc5(x h:Sem zl.sl):Tr (S2⊕aw):=
 br ((↑(Io x):Int)!=(↑(Io h):Int)) (re (kb Q4) []) (Q9 (S2.h4 x h (↑(Io x):Int) 0))
def ztt:S2->Tr (S2⊕aw)
 | .h4 l b h i=>
  let a:=l.getD i.toNat (zi zl)
  let x:=b.getD i.toNat (zi zl)
  br (Q0 (i<h))
  (Qc (zK i (Io l))
   (Qc (zK i (Io b)) (br (!(a.1==x.1&&(a.2.1==x.2.1&&(a.2.2==x.2.2&&Q3)))) (re (kb Q4) []) (Q9 (S2.h4 l b h (Γ Δ (i+1)))))))
  (re (kb Q3) [])
def J4(x h:Sem zl.sl):=ao [Q7] ztt 100000000 (zc5 x h)
def PW(x h:Sem zl.sl):=(J4 x h).isSome
def Ax(x h:Sem zl.sl):=o1 (J4 x h)
def znW:=FT [zl.sl,zl.sl] [Q7] λx=>J4 x.1 x.2.1
theorem ziM:FK 209 znW:=ox.T1 (f:=Tryz.f209) (keep:=zrH) (e:=zus)
abbrev zrI:=kl [(4,[0,1,12,13])]
inductive S3 where
 |h4 (l0:dp) (l1:dp) (i12:Int) (i13:Int)
abbrev zut:S3->Nat×St
 |.h4 l x i h=>(4,⟨tm 26 [(0,sl zA l),(1,sl zA x),(12,ai i),(13,ai h)],[]⟩)
def zc6(x h:Sem zA.sl):Tr (S3⊕aw):=
 br ((↑(Io x):Int)!=(↑(Io h):Int)) (re (kb Q4) []) (Q9 (S3.h4 x h (↑(Io x):Int) 0))
def ztu:S3->Tr (S3⊕aw)
 | .h4 l x h i=>
  let a:=l.getD i.toNat (zi zA)
  let b:=x.getD i.toNat (zi zA)
  br (Q0 (i<h))
  (Qc (zK i (Io l))
   (Qc (zK i (Io x)) (br (!(a.1==b.1&&(a.2==b.2&&Q3))) (re (kb Q4) []) (Q9 (S3.h4 l x h (Γ Δ (i+1)))))))
  (re (kb Q3) [])
def J5(x h:Sem zA.sl):=ao [Q7] ztu 100000000 (zc6 x h)
def PX(x h:Sem zA.sl):=(J5 x h).isSome
def Ay(x h:Sem zA.sl):=o1 (J5 x h)
def znX:=FT [zA.sl,zA.sl] [Q7] λx=>J5 x.1 x.2.1
theorem ziN:FK 210 znX:=ox.T1 (f:=Tryz.f210) (keep:=zrI) (e:=zut)
def Wu:=Wr.addL [(150,znn),(209,znW),(210,znX)]
theorem CF:zu Wu:=ox.addL<|fc zh9<|fc ziM<|fc ziN iw
def zqP(x h:aq):Tr (Empty⊕aw):=
 let a:=x.1==h.1
 let b:=x.2.2.1==h.2.2.1
 let c:=Ax x.2.1 h.2.1
 let d:=pu x.2.2.2.1 h.2.2.2.1
 let g:=Ay x.t.1 h.t.1
 let i:=zr x.t.2
 let j:=zr h.t.2
 Qc
 (bif a then
  bif b then PW x.2.1 h.2.1&&bif c then J6 x.2.2.2.1 h.2.2.2.1&&bif d then PX x.t.1 h.t.1&&bif g then jz 16 i j else Q3 else Q3 else Q3
  else Q3
 else Q3)
 (re (AV.bool (cond a (cond b (cond c (cond d (cond g (fJ 16 i j) Q4) Q4) Q4) Q4) Q4)) [])
def Ks(x h:aq):=ao [Q7] t0 100000000 (zqP x h)
def Kr(x h:aq):=(Ks x h).isSome
def tg(x h:aq):=o1 (Ks x h)
def znm:=FT [ak,ak] [Q7] λx=>Ks x.1 x.2.1
theorem zh8:FK 149 znm:=CF.T1 (f:=Tryz.f149) (keep:=k0) (e:=e0)
def Wv:=Wu.add 149 znm
theorem OD:zu Wv:=CF.add zh8
def zjI:cd:={zcw with own:=Q3}
theorem OG:zu zjI:=⟨⟨uS.sh⟩,uS.fs,uS.mix⟩
def zkk(x:ap):Tr (Empty⊕aw):=
 let a:=[x.2.1]
 let h:=[x.2.2.1]
 br (!x.2.2.1==[]) (Qc (Q0 (Io a+Io h<=1073741824)) (re (AV.vec 0) [AO.vec Q6 (a++h)]))
 (re (AV.vec 0) [AO.vec Q6 a])
def mv(x:ap):=ao [Sh.str.sl] t0 100000000 (zkk x)
def jU(x:ap):=(mv x).isSome
def lG(x:ap):=o1 (mv x)
def zg3:=FT [am] [Sh.str.sl] λx=>mv x.1
theorem zhA:FK 60 zg3:=OG.T1 (f:=Tryz.f60) (keep:=k0) (e:=e0)
theorem zhB:FK 60 zg3:=zhA
def Ww:=Wv.add 60 zg3
theorem tL:zu Ww:=OD.add zhB
abbrev kh:List CP:=[.d .str,.d .str,.d .str,.d .str,.nil,.d zj,.nil,.nil,.d .str,.d zj,.d zj,.d .str,.d .str,.nil,.nil,.d zj]
abbrev Le:List CP:=[.d .str,.d .str,.d .str,.d .str,.nil,.d zj,.nil,.nil,.d .expr,.nil,.d zj]
abbrev Ts:List CP:=[.d .str,.d .str,.d .str,.d .str,.vec zl,.d zj,.nil,.nil,.d .expr,.d (.sl zj),.d zj]
abbrev zjF:List CP:=[.d .str,.d .str,.d .str,.d .str,.d (.sl zl),.d zj,.nil,.nil,.d .expr,.d (.sl zj),.d zj]
abbrev VZ:List CP:=[.d .str,.d .str,.d .str,.d .str,.vec zl,.d zj,.nil,.nil,.d .expr,.vec zj,.d zj]
def zqE(x h:ap):Tr (Empty⊕aw):=
 let a:=x.1==h.1
 let b:=x.2.1==h.2.1
 let c:=x.2.2.1==h.2.2.1
 let d:=x.t.2==h.t.2
 let g:=(x.2.2.2.1.1,x.2.2.2.1.2.1,x.2.2.2.1.2.2.1,x.2.2.2.1.2.2.2.1,x.2.2.2.1.t.1,zr x.2.2.2.1.t.2)
 let i:=(h.2.2.2.1.1,h.2.2.2.1.2.1,h.2.2.2.1.2.2.1,h.2.2.2.1.2.2.2.1,h.2.2.2.1.t.1,zr h.2.2.2.1.t.2)
 let j:=tg g i
 Qc
 (bif a then
  bif b then bif c then bif d then Kr g i&&bif j then J6 x.t.1 h.t.1 else Q3 else Q3 else Q3 else Q3
 else Q3)
 (re
  (AV.bool (cond a (cond b (cond c (cond d (cond j (pu x.t.1 h.t.1) Q4) Q4) Q4) Q4) Q4))
  [])
def I8(x h:ap):=ao [Q7] t0 100000000 (zqE x h)
def I7(x h:ap):=(I8 x h).isSome
def ML(x h:ap):=o1 (I8 x h)
def zmQ:=FT [am,am] [Q7] λx=>I8 x.1 x.2.1
theorem zhx:FK 86 zmQ:=tL.T1 (f:=Tryz.f86) (keep:=k0) (e:=e0)
abbrev zPl:AV:=.agg [str [],str [],str [],str [],Qb,ai 0,Qb,Qb,str [],ai 0,ai 0,str [],str [],Qb,Qb,ai 0]
abbrev rE{h:Type}(e:Int):Tr (h⊕aw):=.re (.tup [zPl,.int .i64 e]) []
abbrev zq4:Nat->aT:=λj=>if j=7 then{slots:=[0,3,4,8,9,10]}else if j=24 then{slots:=[3,4,8,11,13],prom:=[(8,Q1 4,zl)]}else if j=38 then{slots:=[3,4,8,11,14,15,16]}else if j=48 then{slots:=[3,4,8,14,17],prom:=[(8,Q1 14,.int .i64)]}else if j=64 then{slots:=[3,4,8,20]}else{ }
inductive lh where
 |h7 (l0:zP) (l9:List (Sem Q6)) (i10:Int) (z0:zn [CP.d ar]) (z1:zn kh) (z2:zn Le)
 |h24 (i13:Int) (z0:zn [CP.d ar]) (z1:zn kh) (z2:zn Ts) (z3:zn [CP.d ak])
 |h38 (i16:Int) (z0:zn [CP.d ar]) (z1:zn kh) (z2:zn Le) (z3:zn [CP.d ak]) (z4:zn [CP.d ak])
 |h64 (i20:Int) (z0:zn [CP.d ar]) (z1:zn kh) (z2:zn zjF)
 |h64b (i20:Int) (z0:zn [CP.d ar]) (z1:zn kh) (z2:zn Le)
 |h64bb (i20:Int) (z0:zn [CP.d ar]) (z1:zn kh) (z2:zn Ts)
 |h38b (b15:Bool) (i16:Int) (z0:zn [CP.d ar]) (z1:zn kh) (z2:zn Le) (z3:zn [CP.d ak]) (z4:zn [CP.d ak])
 |h48 (i17:Int) (z0:zn [CP.d ar]) (z1:zn kh) (z2:zn VZ) (z3:zn [CP.d ak])
 |h64bbb (i20:Int) (z0:zn [CP.d ar]) (z1:zn kh) (z2:zn VZ)
abbrev zt0:lh->Nat×St
 |.h7 m n g h x z=>(7,⟨tm 339 [(0,sl zk m),(3,Qf 0 0),(4,Qf 1 0),(8,Qf 2 0),(9,sl Q6 n),(10,ai g)],[Qa (bI [] [CP.d ar] h),Qa (bI [] kh x),Qa (bI [] Le z)]⟩)
 |.h24 j h x z b=>(24,⟨tm 339 [(3,Qf 0 0),(4,Qf 1 0),(8,Qf 2 0),(11,Qf 3 0),(13,ai j)],[Qa (bI [] [CP.d ar] h),Qa (bI [] kh x),Qa (bI [4] Ts z),Qa (bI [] [CP.d ak] b),AO.vec zl z.t.1]⟩)
 |.h38 a h x z b l=>(38,⟨tm 339 [(3,Qf 0 0),(4,Qf 1 0),(8,Qf 2 0),(11,Qf 3 0),(14,Qf 4 0),(15,kb Q4),(16,ai a)],[Qa (bI [] [CP.d ar] h),Qa (bI [] kh x),Qa (bI [] Le z),Qa (bI [] [CP.d ak] b),Qa (bI [] [CP.d ak] l)]⟩)
 |.h64 i h x z=>(64,⟨tm 339 [(3,Qf 0 0),(4,Qf 1 0),(8,Qf 2 0),(20,ai i)],[Qa (bI [] [CP.d ar] h),Qa (bI [] kh x),Qa (bI [] zjF z)]⟩)
 |.h64b i h x z=>(64,⟨tm 339 [(3,Qf 0 0),(4,Qf 1 0),(8,Qf 2 0),(20,ai i)],[Qa (bI [] [CP.d ar] h),Qa (bI [] kh x),Qa (bI [] Le z)]⟩)
 |.h64bb i h x z=>(64,⟨tm 339 [(3,Qf 0 0),(4,Qf 1 0),(8,Qf 2 0),(20,ai i)],[Qa (bI [] [CP.d ar] h),Qa (bI [] kh x),Qa (bI [3] Ts z),AO.vec zl z.t.1]⟩)
 |.h38b c a h x z b l=>(38,⟨tm 339 [(3,Qf 0 0),(4,Qf 1 0),(8,Qf 2 0),(11,Qf 3 0),(14,Qf 4 0),(15,AV.bool c),(16,ai a)],[Qa (bI [] [CP.d ar] h),Qa (bI [] kh x),Qa (bI [] Le z),Qa (bI [] [CP.d ak] b),Qa (bI [] [CP.d ak] l)]⟩)
 |.h48 k h x z b=>(48,⟨tm 339 [(3,Qf 0 0),(4,Qf 1 0),(8,Qf 2 0),(14,Qf 3 0),(17,ai k)],[Qa (bI [] [CP.d ar] h),Qa (bI [] kh x),Qa (bI [4,5] VZ z),Qa (bI [] [CP.d ak] b),AO.vec zl z.t.1,AO.vec zj z.t.q.2.1]⟩)
 |.h64bbb i h x z=>(64,⟨tm 339 [(3,Qf 0 0),(4,Qf 1 0),(8,Qf 2 0),(20,ai i)],[Qa (bI [] [CP.d ar] h),Qa (bI [] kh x),Qa (bI [3,4] VZ z),AO.vec zl z.t.1,AO.vec zj z.t.q.2.1]⟩)
def T3(h:Sem zk.sl)(x:zJ):Tr (lh⊕aw):=
 let a:=zr x.t.t.1
 let b:=(x.1,x.2.1,x.2.2.1,x.2.2.2.1,x.t.1,x.t.2.1,x.t.q.1,x.t.q.2.1,a,x.t.t.2.1,x.t.t.q.1,zr x.t.t.q.2.1,x.t.t.t)
 let g:=lL b
 let c:=!g.2
 let d:=(x.1,x.2.2.1,x.t.t.t,(x.2.1,[],0,[],[],a),[],0)
 Qc (iP b)
 (Qc (cond c Q3 (Eg h))
  (br (cond c Q3 (cond (JC h !=0) Q3 (cond (!x.1==dj) (cond (!x.1==gj) (!x.1==lm) Q4) Q4))) (rE 1) (Qc (jU d) (Q9 (lh.h7 h (lG d) 0 (x,()) ([],[],[],[],0,[],0,0,[],[],0,()) (x.1,x.2.2.1,x.t.t.t,x.2.1,0,x.t.t.1,0,()))))))
def dW:lh->Tr (lh⊕aw)
 | .h7 o B p h c z=>
  let j:=lM o (B.getD p.toNat (zi Q6))
  let x:=lM o h.1.2.1
  let d:=lM o h.1.2.2.1
  let a:=o.getD (toNat d) (zi zk)
  let y:=oM a.1.2.1 h.1.2.2.2.1
  let m:=rJ a.1.2.1 h.1.2.2.2.1
  let H:=m.2!=0
  let I:=(z.t.2.1,m.1,z.t.q)
  let M:=(a.1,())
  let N:=lM o h.1.t.t.t
  let C:=gw a.1.2.1 h.1.t.2.1
  let L:=o.getD (toNat N) (zi zk)
  let D:=getD m.1 (toNat 0) (zi zj)
  let E:=getD m.1 (toNat 1) (zi zj)
  let u:=getD a.1.2.1 (toNat E) (zi zl)
  let F:=getD a.1.2.1 (toNat D) (zi zl)
  br (Q0 (p<(↑B.length:Int)))
  (Qc (zK p (Io B)) (br (Q0 (j<0)) (rE 6) (Q9 (lh.h7 o B (Γ Δ (p+1)) h c z))))
  (br (cond (Q0 (x>=0)) Q3 (h.1.2.2.1==h.1.t.t.t)) (rE 7) (Qc (ue o B) (br (xW o B) (rE 10) (Qc (zK d (Io o)) (br (h.1.1==dj) (Qc y (br H (rE m.2) (Q9 (lh.h24 0 h c (z.1,z.2.1,z.2.2.1,z.2.2.2.1,[],-1,I) M)))) (br (h.1.1==gj) (Qc (zK N (Io o))
  (Qc (eP a.1.2.1 h.1.t.2.1) (br (Q0 (C<0)) (rE 4) (Q9
  (lh.h38 0 h c (z.1,z.2.1,z.2.2.1,z.2.2.2.1,z.t.1,z.t.2.1,C,()) M (L.1,())))))) (br (h.1.1==lm) (Qc y (br H (rE m.2) (Qc (zK 0 (Io m.1)) (Qc (zK D (Io a.1.2.1)) (Qc (zK 1 (Io m.1)) (Qc (zK E (Io a.1.2.1)) (br (u.2.1!=1) (rE 5) (Q9 (lh.h64 0 h c (z.1,z.2.1,z.2.2.1,z.2.2.2.1,[(F.1,F.2.1,Q3),(u.1,u.2.1,Q4)],z.t.1,I)))))))))) (Q9 (lh.h64b 0 h c z)))))))))
 | .h24 n h c z b=>
  let j:=(↑(Io z.t.q.2.1):Int)
  let x:=zK n (Io z.t.q.2.1)
  let d:=getD z.t.q.2.1 n.toNat (zi zj)
  let a:=zK d (Io b.1.2.1)
  let y:=[getD b.1.2.1 (toNat d) (zi zl)]
  let m:=Q0 (Io z.t.1+Io y<=1073741824)
  let H:=Γ Δ (n+1)
  let I:=z.t.1++y
  br (Q0 (n<j))
  (Qc x (br (d==b.1.2.2.1) (Qc x (Qc a (Qc m (Q9 (lh.h24 H h c (z.1,z.2.1,z.2.2.1,z.2.2.2.1,I,n,z.t.q) b))))) (Qc x (Qc a (Qc m (Q9 (lh.h24 H h c (z.1,z.2.1,z.2.2.1,z.2.2.2.1,I,z.t.2) b)))))))
  (br (Q0 (z.t.2.1<0)) (rE 1) (Q9 (lh.h64bb 0 h c z)))
 | .h38 g h c z b J=>
  let j:=(↑(Io b.1.t.1):Int)
  let x:=zK g (Io b.1.t.1)
  let d:=getD b.1.t.1 g.toNat (zi zA)
  let a:=d.1==z.t.q.1
  br (Q0 (g<j))
  (Qc (x&&bif a then x else Q3) (Q9 (lh.h38b (cond a (d.2==h.1.t.t.t) Q4) (Γ Δ (g+1)) h c z b J)))
  (rE 10)
 | .h64 i h c z=>
  let j:=(↑(Io z.t.1):Int)
  let x:=getD z.t.1 i.toNat (zi zl)
  let d:=zr h.1.t.t.1
  let a:=qD d z.t.1
  br (Q0 (i<j))
  (Qc (zK i (Io z.t.1)) (Qc (eP z.t.1 x.1) (br (gw z.t.1 x.1!=i) (rE 7)
  (Q9 (lh.h64 (Γ Δ (i+1)) h c z)))))
  (Qc (oX d z.t.1) (br (a !=0) (rE a) (re (Qe [Qd [str z.1,str z.2.1,str z.2.2.1,str z.2.2.2.1,
  sl zl z.t.1,ai z.t.2.1,Qb,Qb,str (za.op z.t.q.1),ai (za.v z.t.q.1).1,ai (za.v z.t.q.1).2.1,str (za.v z.t.q.1).2.2,str (za.s z.t.q.1),sl Q5 (za.l z.t.q.1),sl zj z.t.q.2.1,ai z.t.t.1],ai 0])
  [])))
 | .h64b i h _ z=>
  let j:=zr h.1.t.t.1
  let x:=qD j []
  br (Q0 (i<0)) Tr.err
  (Qc (oX j []) (br (x !=0) (rE x) (re (Qe [Qd
  [str z.1,str z.2.1,str z.2.2.1,str z.2.2.2.1,Qb,ai z.t.1,Qb,Qb,str (za.op z.t.2.1),ai (za.v z.t.2.1).1,ai (za.v z.t.2.1).2.1,str (za.v z.t.2.1).2.2,str (za.s z.t.2.1),sl Q5 (za.l z.t.2.1),Qb,ai z.t.q.1],
  ai 0]) [])))
 | .h64bb i h c z=>
  let j:=(↑z.t.1.length:Int)
  let x:=z.t.1.getD i.toNat (zi zl)
  let d:=zr h.1.t.t.1
  let a:=qD d z.t.1
  br (Q0 (i<j))
  (Qc (zK i (Io z.t.1)) (Qc (Q0 (i.toNat<Io z.t.1)) (Qc (eP z.t.1 x.1) (br (gw z.t.1 x.1!=i) (rE 7)
  (Q9 (lh.h64bb (Γ Δ (i+1)) h c z))))))
  (Qc (oX d z.t.1) (br (a !=0) (rE a) (re (Qe [Qd
  [str z.1,str z.2.1,str z.2.2.1,str z.2.2.2.1,AV.vec 0,ai z.t.2.1,Qb,Qb,str (za.op z.t.q.1),ai (za.v z.t.q.1).1,ai (za.v z.t.q.1).2.1,str (za.v z.t.q.1).2.2,str (za.s z.t.q.1),sl Q5 (za.l z.t.q.1),
  sl zj z.t.q.2.1,ai z.t.t.1],ai 0]) [AO.vec zl z.t.1])))
 | .h38b A g h c z b J=>
  let j:=(↑(Io b.1.t.1):Int)
  let x:=zK g (Io b.1.t.1)
  let d:=getD b.1.t.1 g.toNat (zi zA)
  let a:=d.1==z.t.q.1
  let y:=Γ Δ ((↑(Io b.1.2.1):Int)+(↑(Io J.1.2.1):Int))
  br (Q0 (g<j))
  (Qc (cond A Q3 (x&&bif a then x else Q3)) (Q9 (lh.h38b (cond A Q3 (cond a (d.2==h.1.t.t.t) Q4)) (Γ Δ (g+1)) h c z b J)))
  (br (!A) (rE 10) (br (Q0 (y>9)) (rE 13) (Qc (Q0 (Io b.1.2.1<=1073741824)) (Q9 (lh.h48 0 h c (z.1,z.2.1,z.2.2.1,z.2.2.2.1,b.1.2.1,b.1.2.2.1,z.t.2.1,[],z.t.q) J)))))
 | .h48 k h c z b=>
  let j:=(↑(Io b.1.2.1):Int)
  let x:=[getD b.1.2.1 k.toNat (zi zl)]
  let d:=Γ Δ (k+1)
  br (Q0 (k<j))
  (br (k !=b.1.2.2.1) (Qc (Q0 (Io z.t.q.2.1+[k].length<=1073741824)) (Qc (zK k (Io b.1.2.1)) (Qc (Q0 (Io z.t.1+Io x<=1073741824)) (Q9 (lh.h48 d h c (z.1,z.2.1,z.2.2.1,z.2.2.2.1,z.t.1++x,z.t.2.1,z.t.q.1,z.t.q.2.1++[k],z.t.t) b)))))
  (Q9 (lh.h48 d h c z b)))
  (Q9 (lh.h64bbb 0 h c z))
 | .h64bbb i h c z=>
  let j:=(↑z.t.1.length:Int)
  let x:=z.t.1.getD i.toNat (zi zl)
  let d:=zr h.1.t.t.1
  let a:=qD d z.t.1
  br (Q0 (i<j))
  (Qc (zK i (Io z.t.1)) (Qc (Q0 (i.toNat<Io z.t.1)) (Qc (eP z.t.1 x.1) (br (gw z.t.1 x.1!=i) (rE 7)
  (Q9 (lh.h64bbb (Γ Δ (i+1)) h c z))))))
  (Qc (oX d z.t.1) (br (a !=0) (rE a) (re (Qe [Qd
  [str z.1,str z.2.1,str z.2.2.1,str z.2.2.2.1,AV.vec 0,ai z.t.2.1,Qb,Qb,str (za.op z.t.q.1),ai (za.v z.t.q.1).1,ai (za.v z.t.q.1).2.1,str (za.v z.t.q.1).2.2,str (za.s z.t.q.1),sl Q5 (za.l z.t.q.1),AV.vec 1,
  ai z.t.t.1],ai 0]) [AO.vec zl z.t.1,AO.vec zj z.t.q.2.1])))
def DT(x:Sem zk.sl)(h:zJ):=ao [am,zj] dW 100000000 (T3 x h)
def Jd(x:Sem zk.sl)(h:zJ):=(DT x h).isSome
def Sd(x:Sem zk.sl)(h:zJ):=o2 (DT x h)
def zmN:=FT [zk.sl,ar] [am,zj] λx=>DT x.1 x.2.1
theorem zhv:FK 27 zmN:=tL.T1 (f:=Tryz.f27) (keep:=zq4) (e:=zt0)
def Iy:=Ww.addL [(86,zmQ),(27,zmN)]
theorem OE:zu Iy:=tL.addL<|fc zhx<|fc zhv<|iw
open Go.RowKit Go.Lib in
theorem zby:FK 83 (zY [.str,.str] [zj] (λ_=>Q3) λx=>(Lib.compareBytes x.1 x.2.1,())):=by
 refine fq (E:=Iy) ⟨Tryz.f83,kw,kw,kw⟩ λx A o d=>?_
 unfold fH at d;split at d
 .simp only[Tr.val,zh,bj]at d;subst d;obtain⟨s,t,u⟩:=x;intro C w U ρ v _ c k h j l;have m:=c.len
  match v,m,c with
  | [p,z],_,c=>
   have g:=c.rv 0 (.str s) p rfl rfl;have i:=c.rv 1 (.str t) z rfl rfl;cases g with
   |str _ B=>
   cases i with
   |str _ D=>
   refine(Tryz.strings_Compare ⟨s.toArray⟩ ⟨t.toArray⟩ w).mono ?_;rintro e F ⟨rfl,rfl⟩;refine fa k h j l (Below.refl _ _) (.int _ _ ?_);have:∀a b:List UInt8,-1<=Lib.compareBytes a b/\Lib.compareBytes a b<=1:=by
    intro a
    induction a with
    |nil=>intro b;cases b<;>simp[Lib.compareBytes]
    | cons x r n=>
     intro b;cases b with
     |nil=>simp[Lib.compareBytes]
     | cons y q=>
      unfold Lib.compareBytes;split
      .simp
      .split
       .simp
       .exact n q
   obtain⟨g,i⟩:=this s t;exact⟨Int.le_trans (by decide:(-9223372036854775808:Int)<=-1) g,Int.le_trans i (by decide:(1:Int)<=9223372036854775807)⟩
 .simp at d
def znt:z8:=aN [.str,.str] [zj] λx=>(Lib.compareBytes x.1 x.2.1,())
theorem zii:FK 83 znt:=Qy zby
theorem uD:∀(f x:Nat),Lib.bitLenAux f x<=f
 |0,_=>aj _
 | f+1,x=>by
  unfold Lib.bitLenAux;split
  .omega
  .have:=uD f (x/2);omega
open Go.RowKit Go.Lib in
theorem zaA:FK 152 (zY [.int .u64] [zj] (λx=>Q0 (0<=x.1/\x.1<=1000000)) λx=>((Lib.bitLen x.1.toNat:Nat),())):=by
 refine fq (E:=Iy) ⟨Tryz.f152,kw,kw,kw⟩ λx o l h=>?_
 unfold fH at h;split at h
 .simp only[Tr.val]at h;split at h
  .rename_i c;simp only[bj]at h;subst h;obtain⟨n,u⟩:=x;simp only[aR]at c;intro C w U ρ v _ b i a d j;have k:=b.len
   match v,k,b with
   | [m],_,b=>
    have g:=b.rv 0 (.int .u64 n) m rfl rfl;cases g with
    |int _ _ p=>
    refine(Tryz.bits_Len n w c.1 (Int.le_trans c.2 (by decide))).mono ?_;rintro e q ⟨rfl,rfl⟩;refine fa i a d j (Below.refl _ _) (.int _ _ ?_);have:=uD 64 n.toNat;exact⟨Int.le_trans (by decide:(-9223372036854775808:Int)<=0) (Int.natCast_nonneg _),Int.le_trans (Int.ofNat_le.2 this) (by decide:((64:Nat):Int)<=9223372036854775807)⟩
  .simp at h
 .simp at h
def zej:z8:=zY [.int .u64] [zj] (λx=>Q0 (0<=x.1/\x.1<=1000000)) λx=>((Lib.bitLen x.1.toNat:Nat),())
theorem zaB:FK 152 zej:=zaA
def zf1:=Iy.addL [(137,F91),(83,znt),(152,zej)]
theorem rm:zu zf1:=OE.addL<|fc zpc<|fc zii<|fc zaB iw
end
end Cad
namespace Go.Proofs
open Go.RowKit Go.Shelf Go.Sort
open List renaming map→Qi
open Bool renaming false→Q4,true→Q3
open Option renaming none→Q2,some→Q1
open Decidable renaming decide→Q0
open Int (toNat)
open List (getD length)
set_option maxHeartbeats 1000000 in
theorem Tryz.name52(s:ByteArray)(v1 v2 v3 v4 v5 v6 v7 v8 v9 v10 v11:Value)(W:World):Calls Tryz.prog 78 #[.agg #[.string s,v1,v2,v3,v4,v5,v6,v7,v8,v9,v10,v11]] W λe w'=>e=.returned (.string s)/\w'=W.alloc (.cells #[.string s,v1,v2,v3,v4,v5,v6,v7,v8,v9,v10,v11] 38):=by
 go_enter Tryz.func78,Tryz.ntmps78
 go_wp2
 go_ret
 exact⟨rfl,rfl⟩
set_option maxHeartbeats 4000000 in
theorem Tryz.cmp56(s t:ByteArray)(v1 v2 v3 v4 v5 v6 v7 v8 v9 v10 v11 u1 u2 u3 u4 u5 u6 u7 u8 u9 u10 u11:Value)(nb:Nat)(W:World)(hn:W.cell? ⟨nb,0,Q2⟩=Q1 (.func (.func 78) #[] #[]))(hnb:nb<W.heap.size):
  Calls Tryz.prog 82 #[.agg #[.string s,v1,v2,v3,v4,v5,v6,v7,v8,v9,v10,v11],.agg #[.string t,u1,u2,u3,u4,u5,u6,u7,u8,u9,u10,u11],.pointer (Q1 ⟨nb,0,Q2⟩)] W λe w'=>e=.returned (.int .i64 (Lib.compareBytes s.data.toList t.data.toList))/\∃q os',w'=grow (W.drewN q) os':=by
 have h52:∀(s:ByteArray)(v1 v2 v3 v4 v5 v6 v7 v8 v9 v10 v11:Value)(W':World),Calls Tryz.prog 78 #[.agg #[.string s,v1,v2,v3,v4,v5,v6,v7,v8,v9,v10,v11]] W' λe w'=>e=.returned (.string s)/\∃q os',w'=grow (W'.drewN q) os':=λs v1 v2 v3 v4 v5 v6 v7 v8 v9 v10 v11 W'=>(Tryz.name52 s v1 v2 v3 v4 v5 v6 v7 v8 v9 v10 v11 W').mono λe w' h=>⟨h.1,0,_,h.2.trans (alloc_eq_grow _ _)⟩
 have h57:∀W',Calls Tryz.prog 83 #[.string s,.string t] W' λe w'=>e=.returned (.int .i64 (Lib.compareBytes s.data.toList t.data.toList))/\∃q os',w'=grow (W'.drewN q) os':=λW'=>(Tryz.strings_Compare s t W').mono λe w' h=>⟨h.1,0,#[],by rw[h.2,grow_empty];rfl⟩
 have mixed:Tryz.prog.follows .mixedOrders=Q3:=by kernel_rfl
 generalize Lib.compareBytes s.data.toList t.data.toList=r at h57|-
 go_enter Tryz.func82,Tryz.ntmps82
 go_wp2
 obtain⟨W2,hW2⟩:∃W2,(W.alloc (.cells #[.string s,v1,v2,v3,v4,v5,v6,v7,v8,v9,v10,v11] 38)).alloc (.cells #[.string t,u1,u2,u3,u4,u5,u6,u7,u8,u9,u10,u11] 38)=W2:=⟨_,rfl⟩;rw[hW2];have hnn:∀n os,(grow (W2.drewN n) os).cell? ⟨nb,0,Q2⟩=Q1 (.func (.func 78) #[] #[]):=cell_grown (by rw[<-hW2];simp;omega) (by rw[<-hW2,World.cell?_alloc_past _ _ _ (by simp;omega),World.cell?_alloc_past _ _ _ hnb];exact hn);have x0:∀n os,(grow (W2.drewN n) os).cell? ⟨W.heap.size,0,Q2⟩=Q1 (.string s):=cell_grown (by rw[<-hW2];simp<;>omega) (by rw[<-hW2];simp);have y0:∀n os,(grow (W2.drewN n) os).cell? ⟨W.heap.size+1,0,Q2⟩=Q1 (.string t):=cell_grown (by rw[<-hW2];simp<;>omega) (by rw[<-hW2];simp);have x1:∀n os,(grow (W2.drewN n) os).cell? ⟨W.heap.size,1,Q2⟩=Q1 v1:=cell_grown (by rw[<-hW2];simp<;>omega) (by rw[<-hW2];simp);have y1:∀n os,(grow (W2.drewN n) os).cell? ⟨W.heap.size+1,1,Q2⟩=Q1 u1:=cell_grown (by rw[<-hW2];simp<;>omega) (by rw[<-hW2];simp);have x2:∀n os,(grow (W2.drewN n) os).cell? ⟨W.heap.size,2,Q2⟩=Q1 v2:=cell_grown (by rw[<-hW2];simp<;>omega) (by rw[<-hW2];simp);have y2:∀n os,(grow (W2.drewN n) os).cell? ⟨W.heap.size+1,2,Q2⟩=Q1 u2:=cell_grown (by rw[<-hW2];simp<;>omega) (by rw[<-hW2];simp);have x3:∀n os,(grow (W2.drewN n) os).cell? ⟨W.heap.size,3,Q2⟩=Q1 v3:=cell_grown (by rw[<-hW2];simp<;>omega) (by rw[<-hW2];simp);have y3:∀n os,(grow (W2.drewN n) os).cell? ⟨W.heap.size+1,3,Q2⟩=Q1 u3:=cell_grown (by rw[<-hW2];simp<;>omega) (by rw[<-hW2];simp);have x4:∀n os,(grow (W2.drewN n) os).cell? ⟨W.heap.size,4,Q2⟩=Q1 v4:=cell_grown (by rw[<-hW2];simp<;>omega) (by rw[<-hW2];simp);have y4:∀n os,(grow (W2.drewN n) os).cell? ⟨W.heap.size+1,4,Q2⟩=Q1 u4:=cell_grown (by rw[<-hW2];simp<;>omega) (by rw[<-hW2];simp);have x5:∀n os,(grow (W2.drewN n) os).cell? ⟨W.heap.size,5,Q2⟩=Q1 v5:=cell_grown (by rw[<-hW2];simp<;>omega) (by rw[<-hW2];simp);have y5:∀n os,(grow (W2.drewN n) os).cell? ⟨W.heap.size+1,5,Q2⟩=Q1 u5:=cell_grown (by rw[<-hW2];simp<;>omega) (by rw[<-hW2];simp);have x6:∀n os,(grow (W2.drewN n) os).cell? ⟨W.heap.size,6,Q2⟩=Q1 v6:=cell_grown (by rw[<-hW2];simp<;>omega) (by rw[<-hW2];simp);have y6:∀n os,(grow (W2.drewN n) os).cell? ⟨W.heap.size+1,6,Q2⟩=Q1 u6:=cell_grown (by rw[<-hW2];simp<;>omega) (by rw[<-hW2];simp);have x7:∀n os,(grow (W2.drewN n) os).cell? ⟨W.heap.size,7,Q2⟩=Q1 v7:=cell_grown (by rw[<-hW2];simp<;>omega) (by rw[<-hW2];simp);have y7:∀n os,(grow (W2.drewN n) os).cell? ⟨W.heap.size+1,7,Q2⟩=Q1 u7:=cell_grown (by rw[<-hW2];simp<;>omega) (by rw[<-hW2];simp);have x8:∀n os,(grow (W2.drewN n) os).cell? ⟨W.heap.size,8,Q2⟩=Q1 v8:=cell_grown (by rw[<-hW2];simp<;>omega) (by rw[<-hW2];simp);have y8:∀n os,(grow (W2.drewN n) os).cell? ⟨W.heap.size+1,8,Q2⟩=Q1 u8:=cell_grown (by rw[<-hW2];simp<;>omega) (by rw[<-hW2];simp);have x9:∀n os,(grow (W2.drewN n) os).cell? ⟨W.heap.size,9,Q2⟩=Q1 v9:=cell_grown (by rw[<-hW2];simp<;>omega) (by rw[<-hW2];simp);have y9:∀n os,(grow (W2.drewN n) os).cell? ⟨W.heap.size+1,9,Q2⟩=Q1 u9:=cell_grown (by rw[<-hW2];simp<;>omega) (by rw[<-hW2];simp);have x10:∀n os,(grow (W2.drewN n) os).cell? ⟨W.heap.size,10,Q2⟩=Q1 v10:=cell_grown (by rw[<-hW2];simp<;>omega) (by rw[<-hW2];simp);have y10:∀n os,(grow (W2.drewN n) os).cell? ⟨W.heap.size+1,10,Q2⟩=Q1 u10:=cell_grown (by rw[<-hW2];simp<;>omega) (by rw[<-hW2];simp);have x11:∀n os,(grow (W2.drewN n) os).cell? ⟨W.heap.size,11,Q2⟩=Q1 v11:=cell_grown (by rw[<-hW2];simp<;>omega) (by rw[<-hW2];simp);have y11:∀n os,(grow (W2.drewN n) os).cell? ⟨W.heap.size+1,11,Q2⟩=Q1 u11:=cell_grown (by rw[<-hW2];simp<;>omega) (by rw[<-hW2];simp);have hgr:∃os0,W2=grow W os0:=⟨_,by rw[<-hW2,alloc_eq_grow,alloc_eq_grow,grow_grow]⟩;clear hW2 hn
 go_quiet_grown (first|(go_at_call 78;refine Calls.grown_of (h52 _ _ _ _ _ _ _ _ _ _ _ _ _))|(go_at_call 83;refine Calls.grown_of (h57 _)))
 obtain⟨os0,rfl⟩:=hgr
 go_wp2
 go_ret
 exact⟨rfl,nq,os0++osq,by show grow (grow (W.drewN nq) os0) osq=_;rw[grow_grow]⟩
end Go.Proofs
namespace Cad
open Go Go.Proofs Go.Sort
open List renaming length→Io,map→Qi
open IntKind renaming wrap→Γ,i64→Δ
open AV renaming ptr→Qf,tup→Qe,agg→Qd,nils→Qb
open Tr renaming chk→Qc,«to»→Q9
open AO renaming box→Qa
open Sh renaming bool→Q7,str→Q6,expr→Q5
open Bool renaming false→Q4,true→Q3
open Option renaming none→Q2,some→Q1
open Decidable renaming decide→Q0
open Int (toNat)
open List (getD)
set_option maxHeartbeats 4000000
open Tr (chk br)
open AV (nils agg tup ptr kb str sl)
abbrev Pl(w:World)(U:Nat->Prop)(ρ:Nat->Option Value)(e:Sh)(G:Sem e->Prop):={p:List Value×Sem e//Io p.1=e.size/\(∀v∈p.1,v.oneCell'=Q3)/\(∀(j:Nat)(c:AV),(zx e p.2)[j]?=Q1 c->∃v,p.1[j]?=Q1 v/\Rv w U ρ c v)/\G p.2}
section
variable {w:World} {U:Nat->Prop} {ρ:Nat->Option Value} {e:Sh} {G:Sem e->Prop}
variable {α:Type}{n:Nat}{os:Array Obj}
theorem vj[Inhabited α]{enc:α->List Value}{k g:Nat}{c:Array Value}{T:TypeId}(d:Array α)(h:w.heap[g]?=Q1 (.cells c T (0,0))):
  (sortWorldK enc k w g 0 n d os).heap[g]?=Q1 (.cells (putCells id 0 (flatK enc k d) c) T (0,0)):=by have x:g<w.heap.size:=(lZ.1 h).1;unfold sortWorldK;rw[heap_grow_old _ _ (by simpa[putRowK]using x)];simp[putRowK,putRow,mapBlock,Sort.ahead,pO,h,onCells]
theorem ic[Inhabited α]{h:α->List Value}{k g:Nat}(d:Array α){b:Nat}(a:b<w.heap.size)(x:b≠g):(sortWorldK h k w g 0 n d os).heap[b]?=w.heap[b]?:=by
 unfold sortWorldK;rw[heap_grow_old _ _ (by simpa[putRowK]using a)];have:g≠b:=λe=>x e.symm
 simp[putRowK,putRow,mapBlock,Sort.ahead,pO,this]
variable {l:List (Sem e)}{v:Value}
theorem UV{id:Nat}(_:0<e.size)(S:bm w U ρ id (.vec e l))(X:ρ id=Q1 v)(O:l≠[])(M:∀x∈l,G x):
  ∃(B m:Nat)(T:TypeId)(b:Array Value)(d:Array (Pl w U ρ e G)),v=.slice (Q1 ⟨B,0,Q2⟩) (Io l) m/\U B/\w.heap[B]?=Q1 (.cells b T (0,0))/\b.size=m*e.size/\Io l<=m/\Io l<=aJ/\0<m/\
   d.size=Io l/\d.toList.map (λp=>p.1.2)=l/\∀i(u:i<d.size)(j:Nat),j<e.size->b[i*e.size+j]?=d[i].1.1[j]?:=by
 obtain⟨a,c,n,P,z⟩:=S;rw[X]at n;cases n;rcases z with⟨h,_⟩|⟨B,T,b,rfl,N,C,L,F,E,W⟩
 .exact zC h O
 have q:∀i(u:i<Io l) j,j<e.size->∃s x,(zx e l[i])[j]?=Q1 s/\b[i*e.size+j]?=Q1 x/\Rv w U ρ s x/\x.oneCell'=Q3:=by
  intro i u j o;have g:(zx e l[i])[j]?=Q1 ((zx e l[i])[j]'(by rw[ag];exact o)):=zZ _;obtain⟨x,n,k⟩:=W i u j _ g;exact⟨_,x,g,n,k,fT e l[i] j _ x g k⟩
 refine⟨B,c,T,b,Array.ofFn λi:Fin (Io l)=>⟨((List.range e.size).map λj=>(b[i.1*e.size+j]?).getD undef,l[i.1]),sw,λx Y=>?_,λj s t=>?_,M _ (bp _)⟩,rfl,C,L,F,E,P,N,sw,?_,λi u j o=>?_⟩
 .obtain⟨j,o,rfl⟩:=aE.1 Y;obtain⟨s,y,_,k,_,J⟩:=q i.1 i.2 j (by simpa using o);rw[k];exact J
 .have o:j<e.size:=by have:=(cR.1 t).1;rwa [ag]at this
  obtain⟨I,y,n,k,z,_⟩:=q i.1 i.2 j o;have A:(zx e l[i.1])[j]?=Q1 s:=t;rw[A]at n;cases n;refine⟨y,?_,z⟩;rw[dt,yI o];simp[k]
 .apply List.ext_getElem
  .simp
  .intro i n k;simp
 .have D:i<Io l:=by simpa using u
  obtain⟨I,y,n,k,z,_⟩:=q i D j o;rw[k];simp only[Array.getElem_ofFn];rw[dt,yI o];simp[k]
theorem zag{hp:Nat->AO}{id f:Nat}{fv:Value}(h4:Sem e->Sem e->Int)(z:0<e.size)(x5:∀b,U b->b<w.heap.size)(ho:hp id=.vec e l)(a7:bm w U ρ id (.vec e l))(hv:ρ id=Q1 v)(hl:l≠[])(hG:∀x∈l,G x)
  (X:∀(_:Inhabited (Pl w U ρ e G))(B A:Nat)(d:Array (Pl w U ρ e G)),d.size=Io l->HoldsK (λp=>p.1.1) e.size w B 0 d->B<w.heap.size->af ρ id (.vec e l) B->
   Calls Tryz.prog f #[.slice (Q1 ⟨B,0,Q2⟩) d.size A,fv] w λe' w'=>e'=.returned (.tuple #[])/\∃(g:Array (Pl w U ρ e G))(m:Nat)(os:Array Obj),PermIn 0 d.size d g/\SortedIn (ltOf λp q=>h4 p.1.2 q.1.2) 0 d.size g/\w'=sortWorldK (λp=>p.1.1) e.size w B 0 m g os):
  Calls Tryz.prog f #[v,fv] w λe' w'=>∃l',List.Perm l' l/\l'.Pairwise (λx y=>¬h4 y x<0)/\∃v' U' ρ',e'=.returned v'/\Ef n hp {val:=.tup [],wr:=[(id,.vec e l')]} w U ρ v' w' U' ρ':=by
 obtain⟨B,A,T,x6,d,rfl,S,hB,x4,x0,hm,a0,E,a2,a1⟩:=UV (G:=G) z a7 hv hl hG;have i1:0<d.size:=by rw[E];exact List.length_pos_iff.2 hl
 have h5:=x5 B S;have H:af ρ id (.vec e l) B:=⟨rfl,_,hv,by simp[bJ];omega⟩
 letI O:Inhabited (Pl w U ρ e G):=⟨d[0]⟩
 have hH:HoldsK (λp:Pl w U ρ e G=>p.1.1) e.size w B 0 d:=by
  intro t ht;rw[size_flatK]at ht;have hq:t/e.size<d.size:=(Nat.div_lt_iff_lt_mul z).2 ht;have hr:t%e.size<e.size:=Nat.mod_lt _ z;have hk:=a1 _ hq _ hr;have h8:t/e.size*e.size+t%e.size=t:=by have:=Nat.div_add_mod t e.size;rw[Nat.mul_comm]at this;exact this
  rw[h8]at hk;have N:d[t/e.size].1.1.length=e.size:=d[t/e.size].2.1;rw[zZ (by rw[N];exact hr)]at hk;refine⟨?_,by simp[World.frozen?,hB]⟩;rw[get_flatK _ _ _ _ ht,getElem!_pos d _ hq,getElem!_pos _ _ (by rw[N];exact hr)];simp[World.cell?,hB,hk]
 have h7:=X O B A d E hH h5 H;rw[E]at h7;refine h7.mono ?_;rintro e' w' ⟨rfl,g,m,os,x2,x3,rfl⟩;rw[<-E]at x2 x3;obtain⟨h3,_,h0⟩:=x2;have F:g.size=Io l:=by rw[h3,E]
 have a8:g.toList.Perm d.toList:=by
  have e1:g.extract 0 d.size=g:=by rw[<-h3];simp
  have e2:d.extract 0 d.size=d:=by simp
  rwa [e1,e2]at h0
 have P:=vj (enc:=λp:Pl w U ρ e G=>p.1.1) (k:=e.size) (n:=m) (os:=os) g hB;have u:∀b,b<w.heap.size->b≠B->(sortWorldK (λp:Pl w U ρ e G=>p.1.1) e.size w B 0 m g os).heap[b]?=w.heap[b]?:=λb W a5=>ic g W a5
 have s:w.heap.size<=(sortWorldK (λp:Pl w U ρ e G=>p.1.1) e.size w B 0 m g os).heap.size:=by
  unfold sortWorldK grow putRowK;simp[Sort.ahead]
 have M:kA w (sortWorldK (λp:Pl w U ρ e G=>p.1.1) e.size w B 0 m g os):=⟨s,rfl,rfl,rfl,λa ha=>by
  by_cases h6:a.block=B
  .unfold World.frozen?;rw[h6,P,hB]
  .exact yH (u a.block ha h6)⟩
 generalize sortWorldK (λp:Pl w U ρ e G=>p.1.1) e.size w B 0 m g os=w' at P u s M;have Y:∀{c:AV}{x:Value},Rv w U ρ c x->Rv w' U ρ c x:=λh=>h.mono s (λb W hU=>u b W λhe=>hU (he▸S)) (λ_ _ h=>h) (λ_ _ h=>h)
 have L:(g.toList.map λp=>p.1.2).length=Io l:=by simp[F]
 refine⟨g.toList.map λp=>p.1.2,by rw[<-a2];exact a8.map _,?_,_,U,ρ,rfl,?_⟩
 .rw[List.pairwise_map];refine List.pairwise_iff_getElem.2 λi j hi hj a3=>?_
  have J:i<g.size:=by simpa using hi
  have h9:j<g.size:=by simpa using hj
  have:=x3 i j (aL _) a3 (by rw[<-h3];exact h9);rw[getElem!_pos g _ h9,getElem!_pos g _ J]at this;simp only[ltOf,dY]at this;simpa using this
 .have x1:bm w' U ρ id (.vec e (g.toList.map λp=>p.1.2)):=by
   refine⟨Q1 ⟨B,0,Q2⟩,A,by rw[L];exact hv,by rw[L];exact hm,.inr ⟨B,T,_,rfl,a0,S,P,by simp[putCells,x4],by rw[L];exact x0,?_⟩⟩;intro i hi j c hc;have J:i<g.size:=by rw[F,<-L];exact hi
   have hj:j<e.size:=by have:=(cR.1 hc).1;rwa [ag]at this
   have x9:(zx e g[i].1.2)[j]?=Q1 c:=by simpa using hc
   obtain⟨x,C,D⟩:=g[i].2.2.2.1 j c x9;refine⟨x,?_,Y D⟩;have ht:i*e.size+j<g.size*e.size:=by
    have:=gC e.size (yK J);rw[hI]at this;omega
   have a9:i*e.size+j<x6.size:=by
    rw[x4];have:=gC e.size (show g.size<=A by rw[F];exact x0);omega
   have x7:(i*e.size+j)/e.size=i:=by
    rw[kd,Nat.add_mul_div_right _ _ z,Nat.div_eq_of_lt hj];omega
   have x8:(i*e.size+j)%e.size=j:=by
    rw[kd,Nat.add_mul_mod_self_right,Nat.mod_eq_of_lt hj]
   have I:=get_flatK (λp:Pl w U ρ e G=>p.1.1) e.size g _ ht;rw[x7,x8,getElem!_pos g _ J]at I;have hx:g[i].1.1[j]! =x:=by
    obtain⟨a4,he⟩:=cR.1 C;rw[getElem!_pos g[i].1.1 j a4];exact he
   rw[hx]at I;rw[getElem!_pos _ _ (by simpa using ht)]at I;simp[putCells,a9,ht,I]
  have Z:∀b,af ρ id (.vec e (g.toList.map λp=>p.1.2)) b->b=B:=by
   rintro b ⟨_,v,C,D⟩;rw[hv]at C;cases C;simp[bJ]at D;exact D.2.symm
  refine⟨M,.tup [] [] rfl sw,λi0 o h=>?_,sw,λ_ _=>rfl,λ_ _ h=>h,λb W a6=>u b W λhe=>a6 id (.vec e (g.toList.map λp=>p.1.2)) sw (by rw[ho,he];exact H),λb h=>gE (x5 b h) s,λ_ _ h=>h,λ_ _ h _=>h,?_,?_⟩
  .simp at h;obtain⟨rfl,rfl⟩:=h;exact x1
  .intro i0 o b h W;refine .inr ⟨id,.vec e (g.toList.map λp=>p.1.2),sw,?_⟩;rcases h with h|⟨_,h⟩
   .simp at h;obtain⟨rfl,rfl⟩:=h;rw[Z b W,ho];exact H
   .simp at h
  .intro i2 o1 i3 o2 b C D _ _;rcases C with C|⟨_,C⟩
   .rcases D with D|⟨_,D⟩
    .simp at C D;rw[C.1,D.1]
    .simp at D
   .simp at C
end
end Cad
