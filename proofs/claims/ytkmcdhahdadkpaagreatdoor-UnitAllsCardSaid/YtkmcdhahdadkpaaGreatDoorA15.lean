/- The document's values of expressions are the program's. The document's expressions that may be are the program's, and no others. -/
import Derived.Test.YtkmcdhahdadkpaaGreatDoorA14
import Derived.Test.YtkmcdhahdadkpaaGreatDoorA13
import Derived.Test.YtkmcdhahdadkpaaGreatDoorA11
import Derived.Test.YtkmcdhahdadkpaaGreatDoorA12
namespace Cad
open Go Go.Proofs
open Tr renaming val→Q8
open Sh renaming bool→Q7,str→Q6,expr→Q5
open Bool renaming false→Q4,true→Q3
open Option renaming none→Q2,some→Q1
open Decidable renaming decide→Q0
open Int (toNat)
open List (getD length)
open Tr (chk br re)
open AV (nils agg tup ptr kb str sl)
set_option maxHeartbeats 4000000
theorem im:l7 (0,0,[]):=⟨by decide,by decide,sw⟩
theorem mn(b:Bool):l7 (w8 b):=by cases b<;>exact⟨by decide,by decide,by simp[w8]⟩
theorem QM:l7 (3,0,[]):=mn Q4
theorem QN:l7 (3,1,[]):=mn Q3
theorem Wa(a b:Sem ze):l7 (DW a b):=by
 unfold DW;rw[m4,lq,lr];split;exact QM;split;exact QN;exact im
theorem zcd(a b:Sem ze):l7 (Vb a b):=by
 unfold Vb;rw[m4,lq,lr];split;exact QN;split;exact QM;exact im
theorem Wc(a:Sem ze):l7 (yv a):=by
 unfold yv;rw[m4,lq,lr];split;exact QM;split;exact QN;exact im
theorem zcc(a b:Sem ze):l7 (mh a b):=by
 unfold mh;split;exact im;rw[jk];exact mn _
theorem QO(a b:Sem ze):l7 (rY a b):=by
 unfold rY;split;exact im;rw[jk];exact mn _
theorem KQ(a:Sem ze):l7 (ju a):=by
 unfold ju;rw[jk];exact mn _
theorem Ii(n:Int):l7 (1,IntKind.i64.wrap n,[]):=by
 refine⟨?_,?_,sw⟩
 ·show(-9223372036854775808:Int)<=IntKind.i64.wrap n;rw[fX];omega
 ·show IntKind.i64.wrap n<=(9223372036854775807:Int);rw[fX];omega
theorem QP(a b:Sem ze):l7 (rZ a b):=by
 unfold rZ;split;exact im;split;exact im;exact Ii _
theorem OH(a b:Sem ze):l7 (mi a b):=by
 unfold mi;split;exact im;split;exact im;exact Ii _
def te(cols:List (Sem zj))(row:List (Sem ze))(s:zD):Sem ze:=if(bif Q0 (ah cols s<0)then Q3 else Q0 (ah cols s>=(↑row.length:Int)))=Q3 then(0,0,[])else row.getD (toNat (ah cols s)) (zi ze)
theorem L6{g c}{cols:List (Sem zj)}{row:List (Sem ze)}{e:zf}(hl:cols.length<=1000000):∃r k,zU (xZ g c) k (.h6 cols row ((0:Nat):Int) (e,()) ((0,0,[]),())) r/\k<=100000000/\aL r.2 [ze] r.1=Q1 (te cols row (zf.s e),()):=by
 have hf:=ly (t:=xZ g c) (Φ:=λr=>aL r.2 [ze] r.1=Q1 (te cols row (zf.s e),())) 1 (λi=>.h6 cols row (i:Int) (e,()) ((0,0,[]),())) (λi=>((getD cols i (zi zj)).1==zf.s e)=Q4) cols.length (by
  intro i hi hj;have hv:(xZ g c (.h6 cols row (i:Int) (e,()) ((0,0,[]),()))).val=if((getD cols i (zi zj)).1==zf.s e)=Q3 then(if Q0 ((i:Int)<(row.length:Int))=Q3 then(if zK (i:Int) row.length=Q3 then Q1 (.inr (.agg [.int .i64 (getD row i (zi ze)).1,.int .i64 (getD row i (zi ze)).2.1,.str (getD row i (zi ze)).2.2],[]))else Q2)else Q1 (.inr (.agg [.int .i64 0,.int .i64 0,.str []],[])))else Q1 (.inl (.h6 cols row ((i+1:Nat):Int) (e,()) ((0,0,[]),()))):=by
   simp only[xZ,Q8,zC hi,zt hi,aG,if_true];rw[zp i um]
  rcases zI ((getD cols i (zi zj)).1==zf.s e)with h|h
  ·have hp:=mD (p:=λc:Sem zj=>c.1==zf.s e) (d:=zi zj) cols 0 i hi h hj;have hp:ah cols (zf.s e)=(i:Int):=by unfold ah;rw[hp];simp
   by_cases hr:i<row.length
   ·refine .inr ⟨by rw[h];simp,_,zU.of (by rw[hv,if_pos h,if_pos (zC hr),if_pos (zt hr)]),?_⟩;unfold te;rw[hp,if_neg (by rw[aj (by omega:¬(i:Int)<0),aj (by omega:¬(i:Int)>=(row.length:Int))];simp),aG];rfl
   ·refine .inr ⟨by rw[h];simp,_,zU.of (by rw[hv,if_pos h,if_neg (by rw[aP];omega)]),?_⟩;unfold te;rw[hp,if_pos (by rw[aj (by omega:¬(i:Int)<0),zx (by omega:(i:Int)>=(row.length:Int))];rfl)];rfl
  ·exact .inl ⟨h,zQ.of (by rw[hv,if_neg (by rw[h];simp)])⟩)
 rcases hf with⟨h1,h2⟩|⟨h1,r,h2,h3⟩
 ·have hp:=mE (p:=λc:Sem zj=>c.1==zf.s e) (d:=zi zj) cols 0 h1;refine⟨(.agg [.int .i64 0,.int .i64 0,.str []],[]),_,h2.ends (zU.of ?_),ow,?_⟩
  ·simp only[xZ,Q8,zA];rfl
  ·unfold te;rw[show ah cols (zf.s e)=(-1:Int)from hp];rfl
 ·exact⟨r,_,h2,ow,h3⟩
theorem Wb{cols:List (Sem zj)}{row:List (Sem ze)}{s:zD}(hr:∀v∈row,l7 v):l7 (te cols row s):=by
 unfold te;split
 ·exact im
 ·by_cases h:toNat (ah cols s)<row.length
  ·exact hr _ (bL h)
  ·rw[bc,eE ow];exact im
theorem qG{cols:List (Sem zj)}{row:List (Sem ze)}(hl:cols.length<=1000000)(hr:∀v∈row,l7 v):∀(N d M:Nat)(e:zf),d<=N->d<=M->cq d e=Q3->sb e->cn N e cols row=Q1 (dp M cols row e,())/\l7 (dp M cols row e)
 |_,0,_,_,_,_,h,_=>by cases h
 |0,d+1,_,_,h,_,_,_=>absurd h ow
 |_,d+1,0,_,_,h,_,_=>absurd h ow
 | N+1,d+1,M+1,e,h1,h2,h,hw=>by
  rw[cn,dp];unfold NT;cases fE h with
  | lit v hv=>
   rw[sb]at hw;exact⟨rfl,hw.1⟩
  | col s hw2 hr2=>
   obtain⟨r,k,k1,k2,k3⟩:=L6 (g:=λx0 x1 x2=>gJ (cn N x0 x1 x2)) (c:=λx0 x1 x2=>(cn N x0 x1 x2).isSome) (cols:=cols) (row:=row) (e:=.mk [99,111,108] (0,0,[]) s []) hl;exact⟨zw H3 k1 k2 k3,Wb hr⟩
  | one op a ho ha=>
   rw[sb,j0]at hw;obtain⟨ka,va⟩:=qG hl hr N d M a ow ow ha hw.2.2.1;unfold al cT;generalize hg:(λx0 x1 x2=>gJ (cn N x0 x1 x2))=g;generalize hc:(λx0 x1 x2=>(cn N x0 x1 x2).isSome)=c;have g1:g a cols row=dp M cols row a:=by rw[<-hg];show gJ (cn N a cols row)=_;rw[ka];rfl
   have c1:c a cols row=Q3:=by rw[<-hc];show(cn N a cols row).isSome=_;rw[ka];rfl
   rcases ho with rfl|rfl
   ·have e1:rA (dp M) cols row (.mk [110,111,116] (0,0,[]) [] [a])=yv (dp M cols row a):=rfl;have e2:(pe g c (.mk [110,111,116] (0,0,[]) [] [a]) cols row).val=if c (zn a) cols row=Q3 then(if GZ (g (zn a) cols row)=Q3 then Q1 (.inr (.agg [.int .i64 (Fm (g (zn a) cols row)).1,.int .i64 (Fm (g (zn a) cols row)).2.1,.str (Fm (g (zn a) cols row)).2.2],[]))else Q2)else Q2:=rfl
    rw[e1,e2,zk,c1,g1];generalize dp M cols row a=x at*;rw[Uf,Xu];exact⟨rfl,Wc _⟩
   ·have e1:rA (dp M) cols row (.mk [110,117,108,108] (0,0,[]) [] [a])=ju (dp M cols row a):=rfl;have e2:(pe g c (.mk [110,117,108,108] (0,0,[]) [] [a]) cols row).val=if c (zn a) cols row=Q3 then(if kW (g (zn a) cols row)=Q3 then(if(!py (g (zn a) cols row))=Q3 then Q1 (.inr (.agg [.int .i64 (aX Q3).1,.int .i64 (aX Q3).2.1,.str (aX Q3).2.2],[]))else if kX ((g (zn a) cols row).1==0)=Q3 then Q1 (.inr (.agg [.int .i64 (aX ((g (zn a) cols row).1==0)).1,.int .i64 (aX ((g (zn a) cols row).1==0)).2.1,.str (aX ((g (zn a) cols row).1==0)).2.2],[]))else Q2)else Q2)else Q2:=rfl
    rw[e1,e2,zk,c1,g1];generalize dp M cols row a=x at*;refine⟨?_,KQ _⟩;rw[jH va.2.2,lR va.2.2,nM,ia,ia];unfold ju ao;rw[jk];cases aR x
    ·rfl
    ·rfl
  | two op a b ho ha hb=>
   rw[sb,j0,j0]at hw;obtain⟨ka,va⟩:=qG hl hr N d M a ow ow ha hw.2.2.1;obtain⟨kb,vb⟩:=qG hl hr N d M b ow ow hb hw.2.2.2.1;unfold al cT;generalize hg:(λx0 x1 x2=>gJ (cn N x0 x1 x2))=g;generalize hc:(λx0 x1 x2=>(cn N x0 x1 x2).isSome)=c;have g1:g a cols row=dp M cols row a:=by rw[<-hg];show gJ (cn N a cols row)=_;rw[ka];rfl
   have c1:c a cols row=Q3:=by rw[<-hc];show(cn N a cols row).isSome=_;rw[ka];rfl
   have g2:g b cols row=dp M cols row b:=by rw[<-hg];show gJ (cn N b cols row)=_;rw[kb];rfl
   have c2:c b cols row=Q3:=by rw[<-hc];show(cn N b cols row).isSome=_;rw[kb];rfl
   rcases ho with rfl|rfl|rfl|rfl|rfl|rfl
   ·have e1:rA (dp M) cols row (.mk [97,110,100] (0,0,[]) [] [a,b])=DW (dp M cols row a) (dp M cols row b):=rfl;have e2:(pe g c (.mk [97,110,100] (0,0,[]) [] [a,b]) cols row).val=if c (zn a) cols row=Q3 then(if c (zn b) cols row=Q3 then(if GW (g (zn a) cols row) (g (zn b) cols row)=Q3 then Q1 (.inr (.agg [.int .i64 (Fk (g (zn a) cols row) (g (zn b) cols row)).1,.int .i64 (Fk (g (zn a) cols row) (g (zn b) cols row)).2.1,.str (Fk (g (zn a) cols row) (g (zn b) cols row)).2.2],[]))else Q2)else Q2)else Q2:=rfl
    rw[e1,e2,zk,zk,c1,c2,g1,g2];generalize dp M cols row a=x at*;generalize dp M cols row b=y at*;rw[Ud,Xt];exact⟨rfl,Wa _ _⟩
   ·have e1:rA (dp M) cols row (.mk [111,114] (0,0,[]) [] [a,b])=Vb (dp M cols row a) (dp M cols row b):=rfl;have e2:(pe g c (.mk [111,114] (0,0,[]) [] [a,b]) cols row).val=if c (zn a) cols row=Q3 then(if c (zn b) cols row=Q3 then(if NR (g (zn a) cols row) (g (zn b) cols row)=Q3 then Q1 (.inr (.agg [.int .i64 (PL (g (zn a) cols row) (g (zn b) cols row)).1,.int .i64 (PL (g (zn a) cols row) (g (zn b) cols row)).2.1,.str (PL (g (zn a) cols row) (g (zn b) cols row)).2.2],[]))else Q2)else Q2)else Q2:=rfl
    rw[e1,e2,zk,zk,c1,c2,g1,g2];generalize dp M cols row a=x at*;generalize dp M cols row b=y at*;rw[Xv,zdX];exact⟨rfl,zcd _ _⟩
   ·have e1:rA (dp M) cols row (.mk [61] (0,0,[]) [] [a,b])=mh (dp M cols row a) (dp M cols row b):=rfl;have e2:(pe g c (.mk [61] (0,0,[]) [] [a,b]) cols row).val=if c (zn a) cols row=Q3 then(if c (zn b) cols row=Q3 then(if uo (g (zn a) cols row) (g (zn b) cols row)=Q3 then Q1 (.inr (.agg [.int .i64 (qy (g (zn a) cols row) (g (zn b) cols row)).1,.int .i64 (qy (g (zn a) cols row) (g (zn b) cols row)).2.1,.str (qy (g (zn a) cols row) (g (zn b) cols row)).2.2],[]))else Q2)else Q2)else Q2:=rfl
    rw[e1,e2,zk,zk,c1,c2,g1,g2];generalize dp M cols row a=x at*;generalize dp M cols row b=y at*;rw[L4 va.2.2 vb.2.2,PI va.2.2 vb.2.2];exact⟨rfl,zcc _ _⟩
   ·have e1:rA (dp M) cols row (.mk [60] (0,0,[]) [] [a,b])=rY (dp M cols row a) (dp M cols row b):=rfl;have e2:(pe g c (.mk [60] (0,0,[]) [] [a,b]) cols row).val=if c (zn a) cols row=Q3 then(if c (zn b) cols row=Q3 then(if yV (g (zn a) cols row) (g (zn b) cols row)=Q3 then Q1 (.inr (.agg [.int .i64 (wK (g (zn a) cols row) (g (zn b) cols row)).1,.int .i64 (wK (g (zn a) cols row) (g (zn b) cols row)).2.1,.str (wK (g (zn a) cols row) (g (zn b) cols row)).2.2],[]))else Q2)else Q2)else Q2:=rfl
    rw[e1,e2,zk,zk,c1,c2,g1,g2];generalize dp M cols row a=x at*;generalize dp M cols row b=y at*;rw[PJ va.2.2 vb.2.2,Ue va.2.2 vb.2.2];exact⟨rfl,QO _ _⟩
   ·have e1:rA (dp M) cols row (.mk [43] (0,0,[]) [] [a,b])=rZ (dp M cols row a) (dp M cols row b):=rfl;have e2:(pe g c (.mk [43] (0,0,[]) [] [a,b]) cols row).val=if c (zn a) cols row=Q3 then(if c (zn b) cols row=Q3 then(if yW (g (zn a) cols row) (g (zn b) cols row)=Q3 then Q1 (.inr (.agg [.int .i64 (wM (g (zn a) cols row) (g (zn b) cols row)).1,.int .i64 (wM (g (zn a) cols row) (g (zn b) cols row)).2.1,.str (wM (g (zn a) cols row) (g (zn b) cols row)).2.2],[]))else Q2)else Q2)else Q2:=rfl
    rw[e1,e2,zk,zk,c1,c2,g1,g2];generalize dp M cols row a=x at*;generalize dp M cols row b=y at*;rw[PM va vb,Ug va vb];exact⟨rfl,QP _ _⟩
   ·have e1:rA (dp M) cols row (.mk [45] (0,0,[]) [] [a,b])=mi (dp M cols row a) (dp M cols row b):=rfl;have e2:(pe g c (.mk [45] (0,0,[]) [] [a,b]) cols row).val=if c (zn a) cols row=Q3 then(if c (zn b) cols row=Q3 then(if ur (g (zn a) cols row) (g (zn b) cols row)=Q3 then Q1 (.inr (.agg [.int .i64 (qz (g (zn a) cols row) (g (zn b) cols row)).1,.int .i64 (qz (g (zn a) cols row) (g (zn b) cols row)).2.1,.str (qz (g (zn a) cols row) (g (zn b) cols row)).2.2],[]))else Q2)else Q2)else Q2:=rfl
    rw[e1,e2,zk,zk,c1,c2,g1,g2];generalize dp M cols row a=x at*;generalize dp M cols row b=y at*;rw[L5 va vb,PK va vb];exact⟨rfl,OH _ _⟩
theorem qq:∀(N k:Nat)(e:zf)(n:Nat),k<=12->n<=60->(ii N e ((13:Int)-k) n).1=Q3->cq k e=Q3/\(ii N e ((13:Int)-k) n).2=((n+nE k e:Nat):Int)/\n+nE k e<=60
 |0,_,_,_,_,_,h=>by cases h
 | N+1,0,e,n,_,_,h=>by
  rw[ii]at h;unfold yp at h;rw[if_pos H3]at h;cases h
 | N + 1,k+1,.mk op v s l,n,h1,h2,h=>by
  have w1:IntKind.i64.wrap ((n:Int)+1)=((n+1:Nat):Int):=zp n um;have w2:IntKind.i64.wrap ((13:Int)-((k+1:Nat):Int)+1)=(13:Int)-(k:Int):=by rw[fX];omega
  have d1:Q0 ((13:Int)-((k+1:Nat):Int)>12)=Q4:=aj ow;rw[ii]at h⊢
  have e0:∀m:Int,yp (ii N) (.mk op v s l) m n=if(bif Q0 (m>12)then Q3 else bif Q0 (((n+1:Nat):Int)>60)then Q3 else(↑l.length:Int)!=cO op)=Q3 then(Q4,((n+1:Nat):Int))else
    if(op==[108,105,116])=Q3 then(bif s==[]then aR v else Q4,((n+1:Nat):Int))else
    if(op==[99,111,108])=Q3 then(bif ba v then bif dU s then !jg s else Q4 else Q4,((n+1:Nat):Int))else
    if(bif !ba v then Q3 else !s==[])=Q3 then(Q4,((n+1:Nat):Int))else oH (ii N) m l ((n+1:Nat):Int):=by
   intro m;unfold yp;rw[w1];rfl
  rw[e0,d1]at h⊢;rcases zI (Q0 (((n+1:Nat):Int)>60))with c0|c0
  ·rw[c0,if_pos H3]at h;cases h
  rcases zI ((↑l.length:Int)!=cO op)with c1|c1
  ·rw[c0,c1,if_pos H3]at h;cases h
  have hn:n+1<=60:=by simp at c0;omega
  have hp:(l.length:Int)=cO op:=by simpa using c1
  rw[c0,c1,if_neg sw]at h⊢;rcases lP op with⟨p,ho⟩|⟨p,ho⟩|⟨p,ho⟩|p
  ·have hl:l=[]:=yk ow;subst hl;rcases ho with rfl|rfl
   ·rw[if_pos H3]at h⊢;obtain⟨a,b⟩:=cv h;refine⟨?_,by simp[nE],by simp[nE];omega⟩;simp[cq,b,bC a]
   ·rw[if_neg (by decide),if_pos H3]at h⊢;obtain⟨a,b⟩:=cv h;obtain⟨b,c⟩:=cv b;refine⟨?_,by simp[nE],by simp[nE];omega⟩;have c':jg s=Q4:=by simpa using c
    simp[cq,a,b,c']
  ·obtain⟨a,rfl⟩:∃a,l=[a]:=List.length_eq_one_iff.1 ow;have o1:(op==[108,105,116])=Q4:=by rcases ho with rfl|rfl<;>rfl
   have o2:(op==[99,111,108])=Q4:=by rcases ho with rfl|rfl<;>rfl
   have o3:(bif op==[110,111,116]then Q3 else op==[110,117,108,108])=Q3:=by rcases ho with rfl|rfl<;>rfl
   rw[if_neg (by rw[o1];simp),if_neg (by rw[o2];simp)]at h⊢;rcases zI (ba v)with c2|c2
   ·rcases zI (s==[])with c3|c3
    ·rw[c2,c3,if_neg sw]at h⊢;rw[oH,w2]at h⊢;rcases zI (ii N a ((13:Int)-(k:Int)) ((n+1:Nat):Int)).1 with c4|c4
     ·obtain⟨i1,i2,i3⟩:=qq N k a (n+1) ow hn c4;rw[c4,if_neg sw];refine⟨by simp[cq,o1,o2,o3,c2,c3,i1],?_,by simp[nE];omega⟩;rw[oH];show(ii N a ((13:Int)-(k:Int)) ((n+1:Nat):Int)).2=_;rw[i2];simp[nE];omega
     ·rw[c4,if_pos H3]at h;cases h
    ·rw[c2,c3,if_pos H3]at h;cases h
   ·rw[c2,if_pos H3]at h;cases h
  ·obtain⟨a,b,rfl⟩:∃a b,l=[a,b]:=by
    match l,hp with
    |[a,b],_=>exact⟨a,b,rfl⟩
    |[],hp=>exact absurd hp (by rw[p];simp)
    |[_],hp=>exact absurd hp (by rw[p];simp)
    |_::_::_::_,hp=>exact absurd hp (by rw[p];simp;omega)
   have o1:(op==[108,105,116])=Q4:=by rcases ho with rfl|rfl|rfl|rfl|rfl|rfl<;>rfl
   have o2:(op==[99,111,108])=Q4:=by rcases ho with rfl|rfl|rfl|rfl|rfl|rfl<;>rfl
   have o3:(bif op==[110,111,116]then Q3 else op==[110,117,108,108])=Q4:=by rcases ho with rfl|rfl|rfl|rfl|rfl|rfl<;>rfl
   have o4:DV op=Q3:=by rcases ho with rfl|rfl|rfl|rfl|rfl|rfl<;>rfl
   rw[if_neg (by rw[o1];simp),if_neg (by rw[o2];simp)]at h⊢;rcases zI (ba v)with c2|c2
   ·rcases zI (s==[])with c3|c3
    ·rw[c2,c3,if_neg sw]at h⊢;rw[oH,w2]at h⊢;rcases zI (ii N a ((13:Int)-(k:Int)) ((n+1:Nat):Int)).1 with c4|c4
     ·obtain⟨i1,i2,i3⟩:=qq N k a (n+1) ow hn c4;rw[c4,if_neg sw]at h⊢;rw[i2,oH,w2]at h⊢;rcases zI (ii N b ((13:Int)-(k:Int)) ((n+1+nE k a:Nat):Int)).1 with c5|c5
      ·obtain⟨j1,j2,j3⟩:=qq N k b (n+1+nE k a) ow i3 c5;rw[c5,if_neg sw];refine⟨by simp[cq,o1,o2,o3,o4,c2,c3,i1,j1],?_,by simp[nE];omega⟩;rw[oH];show(ii N b ((13:Int)-(k:Int)) ((n+1+nE k a:Nat):Int)).2=_;rw[j2];simp[nE];omega
      ·rw[c5,if_pos H3]at h;cases h
     ·rw[c4,if_pos H3]at h;cases h
    ·rw[c2,c3,if_pos H3]at h;cases h
   ·rw[c2,if_pos H3]at h;cases h
  ·omega
theorem vO(e:zf):de e=(bif cq 12 e then Q0 (nE 12 e<=60)else Q4):=by
 unfold de;rcases zI (ii 16 e 1 0).1 with c|c
 ·obtain⟨h1,_,h3⟩:=qq 16 12 e 0 ow ow c;rw[c,h1,zx ow];rfl
 ·rw[c];rcases zI (cq 12 e)with g|g
  ·rw[g];by_cases h:nE 12 e<=60
   ·have:=qr 16 12 e 0 ow ow g ow;have h2:(ii 16 e 1 0).1=Q3:=by
     have e1:ii 16 e 1 0=(Q3,((0+nE 12 e:Nat):Int)):=this;rw[e1]
    rw[h2]at c;cases c
   ·rw[aj h];rfl
  ·rw[g];rfl
theorem JT{e:zf}(hw:sb e):Ct e=Q1 (de e,()):=by
 have hf:G5 e 12=Q1 (cq 12 e,()):=Fu 16 12 e ow ow hw;have hfc:Ae e 12=Q3:=by unfold Ae;rw[hf];rfl
 have hfv:G4 e 12=cq 12 e:=by unfold G4;rw[hf];rfl
 unfold Ct al cT;simp only[ziz,Q8,zk,hfc,hfv];rw[vO];rcases zI (cq 12 e)with g|g
 ·have hn:Cv e=Q1 ((nE 12 e:Int),()):=nQ 16 12 e ow ow g;have hnc:ux e=Q3:=by unfold ux;rw[hn];rfl
  have hnv:Af e=(nE 12 e:Int):=by unfold Af;rw[hn];rfl
  rw[g,hnc,hnv];have:Q0 (((nE 12 e:Nat):Int)<=60)=Q0 (nE 12 e<=60):=by
   by_cases h:nE 12 e<=60
   ·rw[zx h,zx ow]
   ·rw[aj h,aj ow]
  rw[this];rfl
 ·rw[g];rfl
theorem mM{e:zf}(hw:sb e):wN e=Q3:=by unfold wN;rw[JT hw];rfl
theorem qH{e:zf}(hw:sb e):Ft e=de e:=by unfold Ft;rw[JT hw];rfl
theorem kG{e:zf}(h:de e=Q3):cq 12 e=Q3:=by
 rw[vO]at h;exact(cv h).1
theorem JV{e:zf}{cols:List (Sem zj)}(hl:cols.length<=1000000)(h:de e=Q3):Ad e cols=Q1 ((bK e cols).1,(bK e cols).2,()):=by
 have:=qL hl 16 12 16 e ow ow (kG h);unfold Ad bK;rw[this,h];rfl
theorem Uh{e:zf}{cols:List (Sem zj)}{row:List (Sem ze)}(hl:cols.length<=1000000)(hr:∀v∈row,l7 v)(hw:sb e)(h:de e=Q3):Ab e cols row=Q1 (jY e cols row,()):=by
 have:=(qG hl hr 16 12 16 e ow ow (kG h) hw).1;unfold Ab jY;rw[this,h];rfl
theorem C5(e:zf):fw 16 e wD=(e.op==[]&&(ba e.v&&(e.s==[]&&e.l.length==0))):=by
 show Kl (fw 15) e wD=_;unfold Kl Lb U8 ba;obtain⟨op,v,s,l⟩:=e;simp only[zf.op,zf.v,zf.s,zf.l];cases l with
 | nil=>
  simp only[om,WC];cases(op==[])<;>cases(v.1==0&&(v.2.1==0&&(v.2.2==[]&&Q3)))<;>cases(s==[])<;>rfl
 | cons x r=>
  have:(((x::r).length:Int)!=(([]:List zf).length:Int))=Q3:=by simp;omega
  simp only[this];cases(op==[])<;>cases(v.1==0&&(v.2.1==0&&(v.2.2==[]&&Q3)))<;>cases(s==[])<;>rfl
theorem L7(e:zf):Ac e wD=Q1 (fw 16 e wD,()):=by
 rw[C5];show bP 16 e wD=_;rw[bP];unfold G2;rcases zI (e.op==[])with c1|c1
 ·rcases zI (ba e.v)with c2|c2
  ·rcases zI (e.s==[])with c3|c3
   ·by_cases c4:e.l.length=0
    ·refine zw (s:=.h4 0 (e,()) (wD,())) (k:=1) (r:=(.kb Q3,[])) ?_ (zU.of ?_) ow ?_
     ·unfold ba at c2;simp only[BK,Q8];have c4':(((zf.l e).length:Int)!=(([]:List zf).length:Int))=Q4:=by simp[c4]
      show(if(bif !(e.op==[])then Q3 else bif !(e.v.1==0&&(e.v.2.1==0&&(e.v.2.2==[]&&Q3)))then Q3 else bif !(e.s==[])then Q3 else((zf.l e).length:Int)!=(([]:List zf).length:Int))=Q3 then _ else _)=_;rw[c1,c2,c3,c4'];rfl
     ·have c5:Q0 ((0:Int)<((zf.l e).length:Int))=Q4:=aj (by rw[c4];omega);simp only[HS,HT,AB,Q8];rw[c5];rfl
     ·rw[c1,c2,c3,c4];rfl
    ·have c4':(((zf.l e).length:Int)!=(([]:List zf).length:Int))=Q3:=bne_iff_ne.2 (by show((zf.l e).length:Int)≠0;omega);have c5:((zf.l e).length==0)=Q4:=bX.2 c4;refine zJ (r:=(.kb Q4,[])) ?_ ?_
     ·unfold ba at c2;simp only[BK,Q8];show(if(bif !(e.op==[])then Q3 else bif !(e.v.1==0&&(e.v.2.1==0&&(e.v.2.2==[]&&Q3)))then Q3 else bif !(e.s==[])then Q3 else((zf.l e).length:Int)!=(([]:List zf).length:Int))=Q3 then _ else _)=_;rw[c1,c2,c3,c4'];rfl
     ·rw[c1,c2,c3,c5];rfl
   ·refine zJ (r:=(.kb Q4,[])) ?_ ?_
    ·unfold ba at c2;simp only[BK,Q8];show(if(bif !(e.op==[])then Q3 else bif !(e.v.1==0&&(e.v.2.1==0&&(e.v.2.2==[]&&Q3)))then Q3 else bif !(e.s==[])then Q3 else((zf.l e).length:Int)!=(([]:List zf).length:Int))=Q3 then _ else _)=_;rw[c1,c2,c3];rfl
    ·rw[c1,c2,c3];rfl
  ·refine zJ (r:=(.kb Q4,[])) ?_ ?_
   ·unfold ba at c2;simp only[BK,Q8];show(if(bif !(e.op==[])then Q3 else bif !(e.v.1==0&&(e.v.2.1==0&&(e.v.2.2==[]&&Q3)))then Q3 else bif !(e.s==[])then Q3 else((zf.l e).length:Int)!=(([]:List zf).length:Int))=Q3 then _ else _)=_;rw[c1,c2];rfl
   ·rw[c1,c2];rfl
 ·refine zJ (r:=(.kb Q4,[])) ?_ ?_
  ·simp only[BK,Q8];show(if(bif !(e.op==[])then Q3 else bif !(e.v.1==0&&(e.v.2.1==0&&(e.v.2.2==[]&&Q3)))then Q3 else bif !(e.s==[])then Q3 else((zf.l e).length:Int)!=(([]:List zf).length:Int))=Q3 then _ else _)=_;rw[c1];rfl
  ·rw[c1];rfl
theorem M2{e:zf}(h:de e=Q3):(e.op==[])=Q4:=by
 have hg:=kG h;cases fE hg with
 |lit v hv=>rfl
 |col s hw hr=>rfl
 |one op a ho ha=>rcases ho with rfl|rfl<;>rfl
 |two op a b ho ha hb=>rcases ho with rfl|rfl|rfl|rfl|rfl|rfl<;>rfl
theorem Cz{e:zf}{cols:List (Sem zj)}(hw:sb e)(hl:cols.length<=1000000):pE e cols=Q1 (iI e cols,()):=by
 have hs:=L7 e;have hsc:gK e wD=Q3:=by unfold gK;rw[hs];rfl
 have hsv:fe e wD=fw 16 e wD:=by unfold fe;rw[hs];rfl
 unfold pE al cT;simp only[Zs,Q8,zk,mM hw,qH hw];unfold iI;rcases zI (e.op==[])with c|c
 ·have hm:de e=Q4:=by
   rcases zI (de e)with h|h
   ·rw[M2 h]at c;cases c
   ·exact h
  have ht:bK e cols=(0,1):=by unfold bK;rw[hm];rfl
  rw[c,hsc,hsv,ht];rcases zI (fw 16 e wD)with h|h<;>rw[h]<;>rfl
 ·have hn:fw 16 e wD=Q4:=by rw[C5,c];rfl
  rw[c,hn];rcases zI (de e)with h|h
  ·have ht:=JV (cols:=cols) hl h;have htc:nO e cols=Q3:=by unfold nO;rw[ht];rfl
   have htv:iD e cols=bK e cols:=by unfold iD;rw[ht];rfl
   rw[h,htc,htv];generalize bK e cols=t;obtain⟨t,r⟩:=t;rcases zI (r==0)with k1|k1
   ·have e0:r=0:=bC k1;subst e0;rcases zI (t==0)with k2|k2<;>rcases zI (t==3)with k3|k3<;>(simp only[bne,k2,k3];rfl)
   ·simp only[bne,k1];rfl
  ·have ht:bK e cols=(0,1):=by unfold bK;rw[h];rfl
   rw[h,ht];rfl
structure oh (t:Sem zo):Prop where
 name:zO t.1=Q3
 n1:1<=t.2.1.length
 n8:t.2.1.length<=8
 cols:∀i,i<t.2.1.length->zO (getD t.2.1 i (zi zj)).1=Q3/\LE.le (α:=Int) 1 (getD t.2.1 i (zi zj)).2.1/\LE.le (α:=Int) (getD t.2.1 i (zi zj)).2.1 3/\ah t.2.1 (getD t.2.1 i (zi zj)).1=(i:Int)
 uniq:∀u∈t.2.2.2.1,Dx u t.2.1.length
 refs:∀f∈t.t.1,Dx f.1 t.2.1.length/\zO f.2=Q3
 key:Dx t.2.2.1 t.2.1.length
 nn:(getD t.2.1 (toNat t.2.2.1) (zi zj)).2.2=Q3
 chk:iI t.t.2 t.2.1=(0:Int)
theorem Iy{t:Sem zo}{i:Nat}:KV t i=Q3↔(zO (getD t.2.1 i (zi zj)).1=Q3/\LE.le (α:=Int) 1 (getD t.2.1 i (zi zj)).2.1/\LE.le (α:=Int) (getD t.2.1 i (zi zj)).2.1 3/\ah t.2.1 (getD t.2.1 i (zi zj)).1=(i:Int)):=by
 unfold KV;have ep:zT t (getD t.2.1 i (zi zj)).1=ah t.2.1 (getD t.2.1 i (zi zj)).1:=rfl;rw[ep];generalize getD t.2.1 i (zi zj)=c;cases zO c.1
 ·simp
 ·by_cases h1:LT.lt (α:=Int) c.2.1 1
  ·rw[zx h1];simp;intro h;omega
  ·rw[aj h1];by_cases h2:GT.gt (α:=Int) c.2.1 3
   ·rw[zx h2];simp;intro _ h;omega
   ·rw[aj h2];exact⟨λh=>⟨rfl,ow,ow,by simpa using h⟩,λh=>by simpa using h.2.2.2⟩
theorem lm(t:Sem zo):eD t=Q3↔oh t:=by
 have h2:=wT (l:=t.2.2.2.1) (d:=zi zg) (p:=λu=>wt u (length t.2.1));simp only[pf]at h2;have h0:(!(bif !zO t.1 then Q3 else bif Q0 ((↑(length t.2.1):Int)<1)then Q3 else Q0 ((↑(length t.2.1):Int)>8)))=Q3↔(zO t.1=Q3/\1<=length t.2.1/\length t.2.1<=8):=by
  cases zO t.1
  ·simp
  ·by_cases h1:(↑(length t.2.1):Int)<1
   ·rw[zx h1];simp;omega
   ·rw[aj h1];simp;omega
 have h1:(List.range (length t.2.1)).all (KV t)=Q3↔∀i,i<length t.2.1->KV t i=Q3:=by
  rw[dX];simp only[oR]
 unfold eD;rw[aC,h0,aC,h1,aC,h2,aC,Ke,aC,pf,aC,bf];exact⟨λ⟨⟨a,b,c⟩,d,e,f,g,i,j⟩=>⟨a,b,c,λk hk=>Iy.1 (d k hk),e,f,g,i,j⟩,λh=>⟨⟨h.name,h.n1,h.n8⟩,λk hk=>Iy.2 (h.cols k hk),h.uniq,h.refs,h.key,h.nn,h.chk⟩⟩
structure KE (t:Sem zo):Prop where
 name:t.1.length<=1000000
 cols:∀c∈t.2.1,length c.1<=1000000
 ncols:t.2.1.length<=1000
 nuq:t.2.2.2.1.length<=1000
 nrf:t.t.1.length<=1000
 refs:∀f∈t.t.1,length f.2<=1000000
 chk:sb t.t.2
theorem M0{b:Bool}{x p i:Int}:(bif !b then Q3 else bif Q0 (x<1)then Q3 else bif Q0 (x>3)then Q3 else p !=i)=Q4↔(b=Q3/\1<=x/\x<=3/\p=i):=by
 cases b
 ·simp
 ·by_cases h1:x<1
  ·rw[zx h1];simp;omega
  ·rw[aj h1];by_cases h2:x>3
   ·rw[zx h2];simp;omega
   ·rw[aj h2];exact⟨λh=>⟨rfl,ow,ow,by simpa using h⟩,λh=>by simpa using h.2.2.2⟩
theorem NI{x:Int}{n:Nat}:(bif Q0 (x<0)then Q3 else Q0 (x>=(n:Int)))=Q3↔¬Dx x n:=by
 unfold Dx;by_cases h:x<0
 ·rw[zx h];simp;omega
 ·rw[aj h];simp;omega
theorem JZ{t:Sem zo}(hw:KE t):G9 t=Q1 (eD t,()):=by
 have hiff:=lm t;have hn1:=hw.ncols;have hn2:=hw.nuq;have hn3:=hw.nrf;have no:∀r:aw,r=(.kb Q4,[])->¬oh t->aL r.2 [Q7] r.1=Q1 (eD t,()):=by
  intro r hr h;have:eD t=Q4:=by
   rcases zI (eD t)with c|c
   ·exact absurd (hiff.1 c) h
   ·exact c
  rw[hr,this];rfl
 have hi:(zc5 t).val=if(bif !zO t.1 then true else bif decide ((t.2.1.length:Int)<1)then true else bif decide ((t.2.1.length:Int)>8)then true else bif decide (LT.lt (α:=Int) t.2.2.1 0)then true else bif decide (GE.ge (α:=Int) t.2.2.1 (t.2.1.length:Int))then true else !(getD t.2.1 (toNat t.2.2.1) (zi zj)).2.2)=true then some (.inr (.kb false,[]))else some (.inl (.h5 (t.2.1.length:Int) ((0:Nat):Int) (t,()))):=by
  simp only[zc5,Q8,bA hw.name,eT hw.name];rw[if_pos]
  ·rfl
  ·rcases zI (zO t.1)with c|c
   ·rw[c];by_cases k1:LT.lt (α:=Int) t.2.2.1 0
    ·rw[zx k1];cases Q0 ((t.2.1.length:Int)<1)<;>cases Q0 ((t.2.1.length:Int)>8)<;>rfl
    ·by_cases k2:GE.ge (α:=Int) t.2.2.1 (t.2.1.length:Int)
     ·rw[zx k2];cases Q0 ((t.2.1.length:Int)<1)<;>cases Q0 ((t.2.1.length:Int)>8)<;>cases Q0 (LT.lt (α:=Int) t.2.2.1 0)<;>rfl
     ·have:zK t.2.2.1 t.2.1.length=Q3:=tX ⟨ow,ow⟩;rw[this];cases Q0 ((t.2.1.length:Int)<1)<;>cases Q0 ((t.2.1.length:Int)>8)<;>cases Q0 (LT.lt (α:=Int) t.2.2.1 0)<;>cases Q0 (GE.ge (α:=Int) t.2.2.1 (t.2.1.length:Int))<;>rfl
   ·rw[c];rfl
 rcases zI (bif !zO t.1 then Q3 else bif Q0 ((t.2.1.length:Int)<1)then Q3 else bif Q0 ((t.2.1.length:Int)>8)then Q3 else bif Q0 (LT.lt (α:=Int) t.2.2.1 0)then Q3 else bif Q0 (GE.ge (α:=Int) t.2.2.1 (t.2.1.length:Int))then Q3 else !(getD t.2.1 (toNat t.2.2.1) (zi zj)).2.2)with c|c
 ·rw[if_pos c]at hi;refine zJ hi (no _ rfl λh=>?_);obtain⟨k1,k2⟩:=h.key;have e1:=h.n1;have e2:=h.n8;rw[h.name,aj ow,aj ow,aj ow,aj ow,h.nn]at c;cases c
 rw[if_neg (by rw[c];simp)]at hi;have hname:zO t.1=Q3:=by
  rcases zI (zO t.1)with k|k
  ·exact k
  ·rw[k]at c;cases c
 rw[hname]at c;have h1:1<=t.2.1.length:=by
  by_cases k:(t.2.1.length:Int)<1
  ·rw[zx k]at c;cases c
  ·omega
 rw[aj (by omega:¬(t.2.1.length:Int)<1)]at c;have h8:t.2.1.length<=8:=by
  by_cases k:(t.2.1.length:Int)>8
  ·rw[zx k]at c;cases c
  ·omega
 rw[aj (by omega:¬(t.2.1.length:Int)>8)]at c;have hk0:LE.le (α:=Int) 0 t.2.2.1:=by
  by_cases k:LT.lt (α:=Int) t.2.2.1 0
  ·rw[zx k]at c;cases c
  ·omega
 rw[aj (by omega:¬LT.lt (α:=Int) t.2.2.1 0)]at c;have hkn:LT.lt (α:=Int) t.2.2.1 (t.2.1.length:Int):=by
  by_cases k:GE.ge (α:=Int) t.2.2.1 (t.2.1.length:Int)
  ·rw[zx k]at c;cases c
  ·omega
 rw[aj (by omega:¬GE.ge (α:=Int) t.2.2.1 (t.2.1.length:Int))]at c;have hnn:(getD t.2.1 (toNat t.2.2.1) (zi zj)).2.2=Q3:=by simpa using c
 have f5:=ly (t:=rz) (Φ:=λr=>r=(.kb Q4,[])) 1 (λi=>.h5 (t.2.1.length:Int) (i:Int) (t,())) (λi=>zO (getD t.2.1 i (zi zj)).1=Q3/\LE.le (α:=Int) 1 (getD t.2.1 i (zi zj)).2.1/\LE.le (α:=Int) (getD t.2.1 i (zi zj)).2.1 3/\ah t.2.1 (getD t.2.1 i (zi zj)).1=(i:Int)) t.2.1.length (by
  intro i hi _;have hcl:=hw.cols _ (bL (d:=zi zj) hi);have hv:(rz (.h5 (t.2.1.length:Int) (i:Int) (t,()))).val=if(bif !zO (getD t.2.1 i (zi zj)).1 then Q3 else bif Q0 (LT.lt (α:=Int) (getD t.2.1 i (zi zj)).2.1 1)then Q3 else bif Q0 (GT.gt (α:=Int) (getD t.2.1 i (zi zj)).2.1 3)then Q3 else ah t.2.1 (getD t.2.1 i (zi zj)).1!=(i:Int))=Q3 then Q1 (.inr (.kb Q4,[]))else Q1 (.inl (.h5 (t.2.1.length:Int) ((i+1:Nat):Int) (t,()))):=by
   simp only[rz,Q8,zC hi,zt hi,aG,bA hcl,eT hcl,je (show t.2.1.length<=1000000 by omega),kq (show t.2.1.length<=1000000 by omega),if_true];rw[if_pos,zp i um];cases zO (getD t.2.1 i (zi zj)).1<;>cases Q0 (LT.lt (α:=Int) (getD t.2.1 i (zi zj)).2.1 1)<;>cases Q0 (GT.gt (α:=Int) (getD t.2.1 i (zi zj)).2.1 3)<;>rfl
  rcases zI (bif !zO (getD t.2.1 i (zi zj)).1 then Q3 else bif Q0 (LT.lt (α:=Int) (getD t.2.1 i (zi zj)).2.1 1)then Q3 else bif Q0 (GT.gt (α:=Int) (getD t.2.1 i (zi zj)).2.1 3)then Q3 else ah t.2.1 (getD t.2.1 i (zi zj)).1!=(i:Int))with c|c
  ·refine .inr ⟨λh=>?_,_,zU.of (by rw[hv,if_pos c]),rfl⟩;rw[M0.2 h]at c;cases c
  ·exact .inl ⟨M0.1 c,zQ.of (by rw[hv,if_neg (by rw[c];simp)])⟩)
 rcases f5 with⟨p5,f5⟩|⟨p5,r,f5,hr⟩
 case inr=>exact zw hi f5 ow (no _ hr λh=>p5 h.cols)
 have v5:(rz (.h5 (t.2.1.length:Int) (t.2.1.length:Int) (t,()))).val=Q1 (.inl (.h11 (t.2.1.length:Int) ((0:Nat):Int) (t,()))):=by
  simp only[rz,Q8,zA];rfl
 have g11:=f5.trans (zQ.of v5);have f11:=ly (t:=rz) (Φ:=λr=>r=(.kb Q4,[])) 1 (λi=>.h11 (t.2.1.length:Int) (i:Int) (t,())) (λi=>Dx (getD t.2.2.2.1 i (zi zg)) t.2.1.length) t.2.2.2.1.length (by
  intro i hi _;have hv:(rz (.h11 (t.2.1.length:Int) (i:Int) (t,()))).val=if(bif Q0 (LT.lt (α:=Int) (getD t.2.2.2.1 i (zi zg)) 0)then Q3 else Q0 (GE.ge (α:=Int) (getD t.2.2.2.1 i (zi zg)) (t.2.1.length:Int)))=Q3 then Q1 (.inr (.kb Q4,[]))else Q1 (.inl (.h11 (t.2.1.length:Int) ((i+1:Nat):Int) (t,()))):=by
   simp only[rz,Q8,zC hi,zt hi,aG,if_true];rw[if_pos,zp i um];cases Q0 (LT.lt (α:=Int) (getD t.2.2.2.1 i (zi zg)) 0)<;>rfl
  by_cases h:Dx (getD t.2.2.2.1 i (zi zg)) t.2.1.length
  ·exact .inl ⟨h,zQ.of (by rw[hv,if_neg (by rw[aj (by have:=h.1;omega),aj (by have:=h.2;omega)];simp)])⟩
  ·refine .inr ⟨h,_,zU.of (by rw[hv,if_pos (NI.2 h)]),rfl⟩)
 rcases f11 with⟨p11,f11⟩|⟨p11,r,f11,hr⟩
 case inr=>exact zw hi (g11.ends f11) ow (no _ hr λh=>p11 ((au (Q:=λu=>Dx u t.2.1.length)).2 h.uniq))
 have v11:(rz (.h11 (t.2.1.length:Int) (t.2.2.2.1.length:Int) (t,()))).val=Q1 (.inl (.h16 (t.2.1.length:Int) ((0:Nat):Int) (t,()))):=by
  simp only[rz,Q8,zA];rfl
 have g16:=(g11.trans f11).trans (zQ.of v11);have f16:=ly (t:=rz) (Φ:=λr=>r=(.kb Q4,[])) 1 (λi=>.h16 (t.2.1.length:Int) (i:Int) (t,())) (λi=>Dx (getD t.t.1 i (zi zu)).1 t.2.1.length/\zO (getD t.t.1 i (zi zu)).2=Q3) t.t.1.length (by
  intro i hi _;have hcl:=hw.refs _ (bL (d:=zi zu) hi);have hv:(rz (.h16 (t.2.1.length:Int) (i:Int) (t,()))).val=if(bif Q0 (LT.lt (α:=Int) (getD t.t.1 i (zi zu)).1 0)then Q3 else bif Q0 (GE.ge (α:=Int) (getD t.t.1 i (zi zu)).1 (t.2.1.length:Int))then Q3 else !zO (getD t.t.1 i (zi zu)).2)=Q3 then Q1 (.inr (.kb Q4,[]))else Q1 (.inl (.h16 (t.2.1.length:Int) ((i+1:Nat):Int) (t,()))):=by
   simp only[rz,Q8,zC hi,zt hi,aG,bA hcl,eT hcl,if_true];rw[if_pos,zp i um];cases Q0 (LT.lt (α:=Int) (getD t.t.1 i (zi zu)).1 0)<;>cases Q0 (GE.ge (α:=Int) (getD t.t.1 i (zi zu)).1 (t.2.1.length:Int))<;>rfl
  by_cases h:Dx (getD t.t.1 i (zi zu)).1 t.2.1.length
  ·rcases zI (zO (getD t.t.1 i (zi zu)).2)with c|c
   ·exact .inl ⟨⟨h,c⟩,zQ.of (by rw[hv,c,if_neg (by rw[aj (by have:=h.1;omega),aj (by have:=h.2;omega)];simp)])⟩
   ·exact .inr ⟨λh2=>(by rw[h2.2]at c;cases c),_,zU.of (by rw[hv,c,if_pos (by rw[aj (by have:=h.1;omega),aj (by have:=h.2;omega)];rfl)]),rfl⟩
  ·have hb:(bif Q0 (LT.lt (α:=Int) (getD t.t.1 i (zi zu)).1 0)then Q3 else bif Q0 (GE.ge (α:=Int) (getD t.t.1 i (zi zu)).1 (t.2.1.length:Int))then Q3 else !zO (getD t.t.1 i (zi zu)).2)=Q3:=by
    have:=NI.2 h;rcases zI (Q0 (LT.lt (α:=Int) (getD t.t.1 i (zi zu)).1 0))with k|k
    ·rw[k];rfl
    ·rw[k]at this⊢;rw[show Q0 (GE.ge (α:=Int) (getD t.t.1 i (zi zu)).1 (t.2.1.length:Int))=Q3 from this];rfl
   exact .inr ⟨λh2=>h h2.1,_,zU.of (by rw[hv,if_pos hb]),rfl⟩)
 rcases f16 with⟨p16,f16⟩|⟨p16,r,f16,hr⟩
 case inr=>exact zw hi (g16.ends f16) ow (no _ hr λh=>p16 ((au (Q:=λf:Sem zu=>Dx f.1 t.2.1.length/\zO f.2=Q3)).2 h.refs))
 have hch:Cy t.t.2 t.2.1=Q3:=by unfold Cy;rw[Cz hw.chk ow];rfl
 have hcv:Ha t.t.2 t.2.1=iI t.t.2 t.2.1:=by unfold Ha;rw[Cz hw.chk ow];rfl
 have v16:(rz (.h16 (t.2.1.length:Int) (t.t.1.length:Int) (t,()))).val=Q1 (.inr (.bool (iI t.t.2 t.2.1==(0:Int)),[])):=by
  simp only[rz,Q8,zA,zk,hch,hcv];rfl
 refine zw hi (g16.ends (f16.ends (zU.of v16))) ow ?_;have:eD t=(iI t.t.2 t.2.1==(0:Int)):=by
  apply ip.2;rw[hiff];constructor
  ·intro h;rw[h.chk];rfl
  ·intro h;exact⟨hname,h1,h8,p5,(au (Q:=λu=>Dx u t.2.1.length)).1 p11,(au (Q:=λf:Sem zu=>Dx f.1 t.2.1.length/\zO f.2=Q3)).1 p16,⟨hk0,hkn⟩,hnn,bC h⟩
 rw[this];rfl
theorem mO{t:Sem zo}(hw:KE t):wO t=Q3:=by unfold wO;rw[JZ hw];rfl
theorem qN{t:Sem zo}(hw:KE t):Fw t=eD t:=by unfold Fw;rw[JZ hw];rfl
section
variable {σ:Type} {t:σ->Tr (σ⊕aw)}
abbrev FC:aw:=(.kb Q4,[])
theorem La{α:Type}{la lb:List α}(st:Nat->σ)(hlen:la.length=lb.length)(hs:∀i(ha:i<la.length)(hb:i<lb.length),(la[i]=lb[i]->(t (st i)).val=Q1 (.inl (st (i+1))))/\(la[i]≠lb[i]->(t (st i)).val=Q1 (.inr FC))):
  (la=lb/\zQ t la.length (st 0) (st la.length))\/(la≠lb/\zU t la.length (st 0) FC):=by
 rcases ly (t:=t) (Φ:=λr=>r=FC) 1 st (λi=>la[i]?=lb[i]?) la.length (λi hi _=>by
  have hb:i<lb.length:=by omega
  obtain⟨h1,h2⟩:=hs i hi hb;rw[zS hi,zS hb];by_cases h:la[i]=lb[i]
  ·exact .inl ⟨by rw[h],zQ.of (h1 h)⟩
  ·exact .inr ⟨λh3=>h (Option.some.inj h3),FC,zU.of (h2 h),rfl⟩)with⟨h1,h2⟩|⟨h1,r,h2,rfl⟩
 ·rw[Nat.mul_one]at h2;refine .inl ⟨AQ λi=>?_,h2⟩;by_cases hi:i<la.length
  ·exact h1 i hi
  ·rw[eE ow,eE ow]
 ·rw[Nat.mul_one]at h2;exact .inr ⟨λh=>h1 λi _=>by rw[h],h2⟩
end
theorem jm{α:Type}{a b:List α}:((a.length:Int)!=(b.length:Int))=Q3↔a.length≠b.length:=by
 simp[bne];omega
theorem Cu:∀(N:Nat)(a b:zf),rt N a=Q3->∃r,bP N a b=Q1 (r,())/\(r=Q3↔a=b)
 |0,_,_,h=>by cases h
 | N + 1,.mk op v s l,.mk op' v' s' l',h=>by
  rw[rt]at h;simp only[aC,aP,dX]at h;obtain⟨hl,ha⟩:=h;rw[bP];unfold G2
  have no:(BK (λx0 x1=>gL (bP N x0 x1)) (λx0 x1=>(bP N x0 x1).isSome) (.mk op v s l) (.mk op' v' s' l')).val=Q1 (.inr FC)->¬(zf.mk op v s l=zf.mk op' v' s' l')->
    ∃r,al [Q7] (HS (λx0 x1=>gL (bP N x0 x1)) (λx0 x1=>(bP N x0 x1).isSome)) 3000000000 (BK (λx0 x1=>gL (bP N x0 x1)) (λx0 x1=>(bP N x0 x1).isSome) (.mk op v s l) (.mk op' v' s' l'))=Q1 (r,())/\(r=Q3↔zf.mk op v s l=zf.mk op' v' s' l'):=by
   intro hv hne;exact⟨Q4,zJ hv rfl,by simp[hne]⟩
  have hd:∀c:Bool,(bif !op==op' then Q3 else bif !(v.1==v'.1&&(v.2.1==v'.2.1&&(v.2.2==v'.2.2&&Q3)))then Q3 else bif !s==s' then Q3 else(↑l.length:Int)!=(↑l'.length:Int))=c->
    (BK (λx0 x1=>gL (bP N x0 x1)) (λx0 x1=>(bP N x0 x1).isSome) (.mk op v s l) (.mk op' v' s' l')).val=if c=Q3 then Q1 (.inr FC)else Q1 (.inl (.h4 ((0:Nat):Int) (.mk op v s l,()) (.mk op' v' s' l',()))):=by
   rintro c rfl;rfl
  by_cases e1:op=op';rotate_left
  ·exact no (by rw[hd Q3 (by rw[bX.2 e1];rfl)];rfl) (λh=>e1 (by injection h))
  by_cases e2:v=v';rotate_left
  ·refine no ?_ (λh=>e2 (by injection h));rw[hd Q3 ?_]
   ·rfl
   ·have:(v.1==v'.1&&(v.2.1==v'.2.1&&(v.2.2==v'.2.2&&Q3)))=Q4:=by
     rw[<-gy];intro h;simp at h;exact e2 (Prod.ext h.1 (Prod.ext h.2.1 h.2.2))
    rw[this];cases(op==op')<;>rfl
  by_cases e3:s=s';rotate_left
  ·refine no ?_ (λh=>e3 (by injection h));rw[hd Q3 ?_]
   ·rfl
   ·rw[bX.2 e3];cases(op==op')<;>cases(v.1==v'.1&&(v.2.1==v'.2.1&&(v.2.2==v'.2.2&&Q3)))<;>rfl
  by_cases e4:l.length=l'.length;rotate_left
  ·refine no ?_ (λh=>e4 (by injection h with _ _ _ h;rw[h]));rw[hd Q3 ?_]
   ·rfl
   ·rw[jm.2 e4];cases(op==op')<;>cases(v.1==v'.1&&(v.2.1==v'.2.1&&(v.2.2==v'.2.2&&Q3)))<;>cases(s==s')<;>rfl
  subst e1;subst e2;subst e3;have hv:=hd Q4 (by
   have:((↑l.length:Int)!=(↑l'.length:Int))=Q4:=by rw[<-gy,jm];exact λh=>h e4
   rw[this];simp)
  rw[if_neg sw]at hv
  rcases La (t:=HS (λx0 x1=>gL (bP N x0 x1)) (λx0 x1=>(bP N x0 x1).isSome)) (la:=l) (lb:=l') (λi=>.h4 (i:Int) (.mk op v s l,()) (.mk op v s l',())) e4 (by
   intro i hi hi';obtain⟨r,hr,hiff⟩:=Cu N l[i] l'[i] (ha _ (bd hi));have g1:getD l (i:Int).toNat (zi Q5)=l[i]:=zM _ _ hi;have g2:getD l' (i:Int).toNat (zi Q5)=l'[i]:=zM _ _ hi';have hval:(HS (λx0 x1=>gL (bP N x0 x1)) (λx0 x1=>(bP N x0 x1).isSome) (.h4 (i:Int) (.mk op v s l,()) (.mk op v s l',()))).val=if(!r)=Q3 then Q1 (.inr FC)else Q1 (.inl (.h4 ((i+1:Nat):Int) (.mk op v s l,()) (.mk op v s l',()))):=by
    simp only[HS,HT,AB,Q8,zf.l,zk,g1,g2,zt hi,zt hi',hr,Ea,if_true];rw[zp i um];show(if Q0 ((i:Int)<(l.length:Int))=Q3 then _ else _)=_;rw[if_pos (zx ow)];rfl
   rw[hval];refine⟨λh=>?_,λh=>?_⟩
   ·rw[if_neg (by rw[hiff.2 h];simp)]
   ·rw[if_pos];cases r
    ·rfl
    ·exact absurd (hiff.1 rfl) h)with⟨h1,h2⟩|⟨h1,h2⟩
  ·subst h1;refine⟨Q3,zw hv (h2.ends (zU.of (r:=(.kb Q3,[])) ?_)) ow rfl,sw⟩;simp only[HS,HT,AB,Q8,zf.l];exact if_neg sw
  ·exact⟨Q4,zw hv h2 ow rfl,by simp[h1]⟩
theorem qI{a b:zf}(h:rt 16 a=Q3):gK a b=Q3/\(fe a b=Q3↔a=b):=by
 obtain⟨r,h1,h2⟩:=Cu 16 a b h;have h1:Ac a b=Q1 (r,()):=h1;refine⟨by unfold gK;rw[h1];rfl,?_⟩;have:fe a b=r:=by unfold fe;rw[h1];rfl
 rw[this];exact h2
section
variable {σ:Type} {t:σ->Tr (σ⊕aw)}
def Qv(t:σ->Tr (σ⊕aw))(K:Nat)(nx:σ⊕aw)(r:aw):Prop:=match nx with
 |.inl h=>zU t K h r
 |.inr r'=>r'=r
theorem lI{α:Type}{la lb:List α}(st:Int->σ)(nx:σ⊕aw)(e:Nat->Bool)(hval:∀i:Nat,i<=la.length->(t (st i)).val=if Q0 (LT.lt (α:=Int) (i:Int) (la.length:Int))=Q3 then(if zK (i:Int) la.length=Q3 then(if zK (i:Int) lb.length=Q3 then(if(!e i)=Q3 then Q1 (.inr FC)else Q1 (.inl (st (IntKind.i64.wrap ((i:Int)+1)))))else Q2)else Q2)else Q1 nx)
  (he:∀i(_:i<la.length)(ha:i<la.length)(hb:i<lb.length),e i=Q3↔la[i]=lb[i]) (hlen:la.length=lb.length) (hm:la.length<=1000000):
  (la=lb/\∀K r,Qv t K nx r->zU t (K+la.length+1) (st 0) r)\/(la≠lb/\zU t la.length (st 0) FC):=by
 rcases La (t:=t) (la:=la) (lb:=lb) (λi=>st (i:Int)) hlen (λi ha hb=>by
  have hv:=hval i ow;rw[if_pos (zx ow),if_pos (zt ha),if_pos (zt hb),zp i um]at hv;have:=he i ha ha hb;refine⟨λh=>?_,λh=>?_⟩
  ·rw[hv,if_neg (by rw[this.2 h];simp)]
  ·rw[hv,if_pos];cases hh:e i
   ·rfl
   ·exact absurd (this.1 hh) h)with⟨h1,h2⟩|⟨h1,h2⟩
 ·refine .inl ⟨h1,λK r hr=>?_⟩;have hv:=hval la.length (aA _);rw[if_neg sw]at hv;unfold Qv at hr;cases nx with
  |inl h=>exact(h2.ends ((zQ.of hv).ends hr)).mono ow
  |inr r'=>cases hr;exact(h2.ends (zU.of hv)).mono ow
 ·exact .inr ⟨h1,h2⟩
end
theorem Re(a b:Sem zj):(a.1==b.1&&(a.2.1==b.2.1&&(a.2.2==b.2.2&&Q3)))=Q3↔a=b:=by
 simp[Prod.ext_iff]
theorem zkL(a b:Sem iS):(a.1==b.1&&(a.2==b.2&&Q3))=Q3↔a=b:=by
 simp[Prod.ext_iff]
theorem zcx(a b:Sem zu):(a.1==b.1&&(a.2==b.2&&Q3))=Q3↔a=b:=by
 simp[Prod.ext_iff]
theorem zeb(a b:Sem ze):(a.1==b.1&&(a.2.1==b.2.1&&(a.2.2==b.2.2&&Q3)))=Q3↔a=b:=by
 simp[Prod.ext_iff]
theorem TQ{x y:Bool}(h:(bif x then Q3 else y)=Q4):x=Q4/\y=Q4:=by
 cases x
 ·exact⟨rfl,h⟩
 ·cases h
theorem Tm{α:Type}[BEq α][LawfulBEq α]{a b:α}(h:(!a==b)=Q4):a=b:=by
 cases hh:(a==b)
 ·rw[hh]at h;cases h
 ·simpa using hh
theorem Pz{α:Type}{a b:List α}(h:((↑(length a):Int)!=(↑(length b):Int))=Q4):a.length=b.length:=by
 simp[bne]at h;omega
structure AF (a:Sem zl):Prop where
 names:a.2.2.2.1.length<=1000
 cols:a.t.1.length<=1000
 uniques:a.t.q.1.length<=1000
 refs:a.t.q.2.1.length<=1000
 row:a.t.t.2.1.length<=1000
 sets:a.t.t.q.1.length<=1000
 chk:rt 16 a.t.t.1=Q3
 whr:rt 16 a.t.t.q.2.1=Q3
 ex:∀x∈a.t.t.q.1,rt 16 (x:Sem ic).2=Q3
theorem Me{a b:Sem zl}(h:AF a):∃r,qS a b=Q1 (r,())/\(r=Q3↔a=b):=by
 obtain⟨a1,a2,a3,a4,a5,a6,a7,a8,a9,a10,a11,a12,a13⟩:=a;obtain⟨b1,b2,b3,b4,b5,b6,b7,b8,b9,b10,b11,b12,b13⟩:=b;obtain⟨h4,h5,h7,h8,h10,h11,h9,h12,hx⟩:=h;have h4:a4.length<=1000:=h4;have h5:a5.length<=1000:=h5;have h7:a7.length<=1000:=h7;have h8:a8.length<=1000:=h8;have h10:a10.length<=1000:=h10;have h11:a11.length<=1000:=h11;have hx:∀x∈a11,rt 16 (x:Sem ic).2=Q3:=hx;obtain⟨s1,s2⟩:=qI (b:=b9) (show rt 16 a9=Q3 from h9);obtain⟨u1,u2⟩:=qI (b:=b12) (show rt 16 a12=Q3 from h12);generalize hA:((a1,a2,a3,a4,a5,a6,a7,a8,a9,a10,a11,a12,a13):Sem zl)=A;generalize hB:((b1,b2,b3,b4,b5,b6,b7,b8,b9,b10,b11,b12,b13):Sem zl)=B;have hne:∀r:aw,∀{k s},(WX A B).val=Q1 (.inl s)->A≠B->zU td k s FC->k<=100000000->∃r,qS A B=Q1 (r,())/\(r=Q3↔A=B):=by
  intro _ k s h1 h h2 h3;exact⟨Q4,zw h1 h2 h3 rfl,by simp[h]⟩
 have hv:∀c d:Bool,(bif !a1==b1 then Q3 else bif !a2==b2 then Q3 else bif !a3==b3 then Q3 else bif !a6==b6 then Q3 else bif !a13==b13 then Q3 else bif !fe a9 b9 then Q3 else !fe a12 b12)=c->
   (bif (↑(length a4):Int)!=(↑(length b4):Int)then Q3 else bif (↑(length a5):Int)!=(↑(length b5):Int)then Q3 else bif (↑(length a7):Int)!=(↑(length b7):Int)then Q3 else bif (↑(length a8):Int)!=(↑(length b8):Int)then Q3 else bif (↑(length a10):Int)!=(↑(length b10):Int)then Q3 else(↑(length a11):Int)!=(↑(length b11):Int))=d->
   (WX A B).val=if c=Q3 then Q1 (.inr FC)else if d=Q3 then Q1 (.inr FC)else Q1 (.inl (.h6 0 (A,()) (B,()))):=by
  rintro c d rfl rfl;subst hA;subst hB;have hg:∀x:Bool,(bif !a1==b1 then Q3 else bif !a2==b2 then Q3 else bif !a3==b3 then Q3 else bif !a6==b6 then Q3 else bif !a13==b13 then Q3 else gK a9 b9&&bif x then Q3 else gK a12 b12)=Q3:=by
   intro x;rw[s1,u1];cases(!a1==b1)<;>cases(!a2==b2)<;>cases(!a3==b3)<;>cases(!a6==b6)<;>cases(!a13==b13)<;>cases x<;>rfl
  simp only[WX,Q8,zk];rw[if_pos (hg _)]
 cases hc:(bif !a1==b1 then Q3 else bif !a2==b2 then Q3 else bif !a3==b3 then Q3 else bif !a6==b6 then Q3 else bif !a13==b13 then Q3 else bif !fe a9 b9 then Q3 else !fe a12 b12);rotate_left
 ·refine⟨Q4,zJ (r:=FC) (by rw[hv Q3 _ hc rfl];rfl) rfl,?_⟩;constructor
  ·intro h;cases h
  ·intro h;rw[<-hA,<-hB]at h;simp only[cA]at h;obtain⟨rfl,rfl,rfl,rfl,rfl,rfl,rfl,rfl,rfl,rfl,rfl,rfl,rfl⟩:=h;have k1:=s2.2 rfl;have k2:=u2.2 rfl;rw[k1,k2]at hc;simp at hc
 cases hd:(bif (↑(length a4):Int)!=(↑(length b4):Int)then Q3 else bif (↑(length a5):Int)!=(↑(length b5):Int)then Q3 else bif (↑(length a7):Int)!=(↑(length b7):Int)then Q3 else bif (↑(length a8):Int)!=(↑(length b8):Int)then Q3 else bif (↑(length a10):Int)!=(↑(length b10):Int)then Q3 else(↑(length a11):Int)!=(↑(length b11):Int));rotate_left
 ·refine⟨Q4,zJ (r:=FC) (by rw[hv Q4 Q3 hc hd];rfl) rfl,?_⟩;constructor
  ·intro h;cases h
  ·intro h;rw[<-hA,<-hB]at h;simp only[cA]at h;obtain⟨rfl,rfl,rfl,rfl,rfl,rfl,rfl,rfl,rfl,rfl,rfl,rfl,rfl⟩:=h;simp at hd
 have hi:=hv Q4 Q4 hc hd;rw[if_neg sw,if_neg sw]at hi;obtain⟨m1,hc⟩:=TQ hc;obtain⟨m2,hc⟩:=TQ hc;obtain⟨m3,hc⟩:=TQ hc;obtain⟨m6,hc⟩:=TQ hc;obtain⟨m13,hc⟩:=TQ hc;obtain⟨m9,m12⟩:=TQ hc;obtain⟨n4,hd⟩:=TQ hd;obtain⟨n5,hd⟩:=TQ hd;obtain⟨n7,hd⟩:=TQ hd;obtain⟨n8,hd⟩:=TQ hd;obtain⟨n10,n11⟩:=TQ hd;have e1:=Tm m1;have e2:=Tm m2;have e3:=Tm m3;have e6:=Tm m6;have e13:=Tm m13;have e9:=s2.1 (by simpa using m9);have e12:=u2.1 (by simpa using m12);subst e1;subst e2;subst e3;subst e6;subst e13;subst e9;subst e12;have no:∀{k},A≠B->zU td k (.h6 0 (A,()) (B,())) FC->k<=100000000->∃r,qS A B=Q1 (r,())/\(r=Q3↔A=B):=λh1 h2 h3=>hne FC hi h1 h2 h3
 rcases lI (t:=td) (la:=a4) (lb:=b4) (λi=>.h6 i (A,()) (B,())) (.inl (.h11 0 (A,()) (B,()))) (λi=>getD a4 (i:Int).toNat (zi Q6)==getD b4 (i:Int).toNat (zi Q6)) (λ_ _=>by subst hA;subst hB;rfl) (λi _ ha hb=>by rw[bf,zM _ _ ha,zM _ _ hb]) (Pz n4) ow with⟨q4,k4⟩|⟨q4,k4⟩;rotate_left
 ·exact no (λh=>q4 (by rw[<-hA,<-hB]at h;simp only[cA]at h;exact h.2.2.2.1)) k4 ow
 rcases lI (t:=td) (la:=a5) (lb:=b5) (λi=>.h11 i (A,()) (B,())) (.inl (.h16 0 (A,()) (B,()))) (λi=>((getD a5 (i:Int).toNat (zi zj)).1==(getD b5 (i:Int).toNat (zi zj)).1&&((getD a5 (i:Int).toNat (zi zj)).2.1==(getD b5 (i:Int).toNat (zi zj)).2.1&&((getD a5 (i:Int).toNat (zi zj)).2.2==(getD b5 (i:Int).toNat (zi zj)).2.2&&Q3)))) (λ_ _=>by subst hA;subst hB;rfl) (λi _ ha hb=>by rw[Re,zM _ _ ha,zM _ _ hb]) (Pz n5) ow with⟨q5,k5⟩|⟨q5,k5⟩;rotate_left
 ·exact no (λh=>q5 (by rw[<-hA,<-hB]at h;simp only[cA]at h;exact h.t.1)) (k4 _ _ k5) ow
 rcases lI (t:=td) (la:=a7) (lb:=b7) (λi=>.h16 i (A,()) (B,())) (.inl (.h21 0 (A,()) (B,()))) (λi=>getD a7 (i:Int).toNat (zi Q6)==getD b7 (i:Int).toNat (zi Q6)) (λ_ _=>by subst hA;subst hB;rfl) (λi _ ha hb=>by rw[bf,zM _ _ ha,zM _ _ hb]) (Pz n7) ow with⟨q7,k7⟩|⟨q7,k7⟩;rotate_left
 ·exact no (λh=>q7 (by rw[<-hA,<-hB]at h;simp only[cA]at h;exact h.t.q.1)) (k4 _ _ (k5 _ _ k7)) ow
 rcases lI (t:=td) (la:=a8) (lb:=b8) (λi=>.h21 i (A,()) (B,())) (.inl (.h26 0 (A,()) (B,()))) (λi=>((getD a8 (i:Int).toNat (zi iS)).1==(getD b8 (i:Int).toNat (zi iS)).1&&((getD a8 (i:Int).toNat (zi iS)).2==(getD b8 (i:Int).toNat (zi iS)).2&&Q3))) (λ_ _=>by subst hA;subst hB;rfl) (λi _ ha hb=>by rw[zkL,zM _ _ ha,zM _ _ hb]) (Pz n8) ow with⟨q8,k8⟩|⟨q8,k8⟩;rotate_left
 ·exact no (λh=>q8 (by rw[<-hA,<-hB]at h;simp only[cA]at h;exact h.t.q.2.1)) (k4 _ _ (k5 _ _ (k7 _ _ k8))) ow
 rcases lI (t:=td) (la:=a10) (lb:=b10) (λi=>.h26 i (A,()) (B,())) (.inl (.h31 0 (A,()) (B,()))) (λi=>((getD a10 (i:Int).toNat (zi ze)).1==(getD b10 (i:Int).toNat (zi ze)).1&&((getD a10 (i:Int).toNat (zi ze)).2.1==(getD b10 (i:Int).toNat (zi ze)).2.1&&((getD a10 (i:Int).toNat (zi ze)).2.2==(getD b10 (i:Int).toNat (zi ze)).2.2&&Q3)))) (λ_ _=>by subst hA;subst hB;rfl) (λi _ ha hb=>by rw[zeb,zM _ _ ha,zM _ _ hb]) (Pz n10) ow with⟨q10,k10⟩|⟨q10,k10⟩;rotate_left
 ·exact no (λh=>q10 (by rw[<-hA,<-hB]at h;simp only[cA]at h;exact h.t.t.2.1)) (k4 _ _ (k5 _ _ (k7 _ _ (k8 _ _ k10)))) ow
 have l11:=Pz n11
 rcases La (t:=td) (la:=a11) (lb:=b11) (λi=>.h31 (i:Int) (A,()) (B,())) l11 (λi ha hb=>by
  obtain⟨w1,w2⟩:=qI (a:=a11[i].2) (b:=b11[i].2) (hx _ (bd ha));have hval:(td (.h31 (i:Int) (A,()) (B,()))).val=if(bif !a11[i].1==b11[i].1 then Q3 else !fe a11[i].2 b11[i].2)=Q3 then Q1 (.inr FC)else Q1 (.inl (.h31 ((i+1:Nat):Int) (A,()) (B,()))):=by
   subst hA;subst hB;show(td (.h31 _ _ _)).val=_;simp only[td,Q8,zk,zM _ _ ha,zM _ _ hb,zC ha,zt ha,zt hb,w1,if_true,dz];rw[zp i um];cases(!a11[i].1==b11[i].1)<;>rfl
  refine⟨λh=>?_,λh=>?_⟩
  ·have k:=w2.2 (by rw[h]);rw[hval,if_neg (by rw[k,h];simp)]
  ·rw[hval,if_pos];cases hh:(a11[i].1==b11[i].1)
   ·rfl
   ·cases hw:fe a11[i].2 b11[i].2
    ·rfl
    ·exact absurd (Prod.ext (by simpa using hh) (w2.1 hw)) h)with⟨q11,k11⟩|⟨q11,k11⟩
 rotate_left
 ·exact no (λh=>q11 (by rw[<-hA,<-hB]at h;simp only[cA]at h;exact h.t.t.q.1)) (k4 _ _ (k5 _ _ (k7 _ _ (k8 _ _ (k10 _ _ k11))))) ow
 have hend:(td (.h31 (a11.length:Int) (A,()) (B,()))).val=Q1 (.inr (.kb Q3,[])):=by
  subst hA;subst hB;show(td (.h31 _ _ _)).val=_;simp only[td,Q8,zA];rfl
 refine⟨Q3,zw hi (k4 _ _ (k5 _ _ (k7 _ _ (k8 _ _ (k10 _ _ (k11.ends (zU.of hend))))))) ow rfl,?_⟩;subst q4;subst q5;subst q7;subst q8;subst q10;subst q11;rw[<-hA,<-hB];simp
theorem qT{a b:Sem zl}(h:AF a):Am a b=Q3/\(ff a b=Q3↔a=b):=by
 obtain⟨r,h1,h2⟩:=Me (b:=b) h;refine⟨by unfold Am;rw[h1];rfl,?_⟩;have:ff a b=r:=by unfold ff;rw[h1];rfl
 rw[this];exact h2
theorem kg{e:zf}:gX e=Q3↔e=.mk [] (0,0,[]) [] []:=by
 obtain⟨op,⟨k,i,t⟩,s,l⟩:=e;unfold gX;show(bif op==[]then bif k==0&&(i==0&&(t==[]&&Q3))then bif s==[]then(↑l.length:Int)==0 else Q4 else Q4 else Q4)=Q3↔_;simp only[zf.mk.injEq,cA];constructor
 ·intro h;obtain⟨h1,h⟩:=cv h;obtain⟨h2,h⟩:=cv h;obtain⟨h3,h⟩:=cv h;simp at h1 h2 h3 h;exact⟨h1,h2,h3,h⟩
 ·rintro⟨rfl,⟨rfl,rfl,rfl⟩,rfl,rfl⟩;rfl
theorem Rx{e:zf}(h:de e=Q3):(e.op==[])=Q4:=by
 have f:=fE (kG h);clear h;cases f with
 |lit v hv=>rfl
 |col s hs hr=>rfl
 |one op a ho ha=>rcases ho with rfl|rfl<;>rfl
 |two op a b ho ha hb=>rcases ho with rfl|rfl|rfl|rfl|rfl|rfl<;>rfl
theorem Ry{e:zf}(h:de e=Q3):nE 12 e<=60:=by
 rw[vO]at h;by_cases k:nE 12 e<=60
 ·exact k
 ·exfalso;rw[aj k]at h;cases cq 12 e<;>simp at h
theorem JU{e:zf}(hw:sb e)(h:de e=Q3):qJ e=Q3/\pC e=aQ 16 e/\(aQ 16 e).length<=24000:=by
 obtain⟨h1,h2⟩:=qK 16 12 16 e ow ow ow (kG h) hw;have h1:G3 e=Q1 (aQ 16 e,()):=h1;have h3:=Ry h;refine⟨by unfold qJ;rw[h1];rfl,by unfold pC;rw[h1];rfl,ow⟩
def oV(w:zD)(e:zf):zD:=if(e.op==[])=Q3 then[]else if de e=Q3 then(if(w==[87,72,69,82,69])=Q3 then[32,87,72,69,82,69,32]++aQ 16 e else w++[32,67,72,69,67,75,32,40,32]++aQ 16 e++[32,41])else[]
theorem PQ{e:zf}(hw:sb e)(hc:rt 16 e=Q3){w:zD}(hl:w.length<=1000):An e w=Q1 (oV w e,bT e,())/\(oV w e).length<=30000:=by
 unfold oV;by_cases h0:(e.op==[])=Q3
 ·rw[if_pos h0];obtain⟨s1,s2⟩:=qI (b:=.mk [] (0,0,[]) [] []) hc;have hm:de e=Q4:=by
   cases h:de e
   ·rfl
   ·rw[Rx h]at h0;cases h0
  have he:fe e (.mk [] (0,0,[]) [] [])=bT e:=by
   unfold bT;rw[hm];apply ip.2;rw[s2,<-kg];cases gX e<;>simp
  refine⟨zJ (r:=(.tup [.str [],.bool (bT e)],[])) ?_ rfl,sw⟩;simp only[Je,Q8,zk,h0,s1,he,if_true]
 ·rw[if_neg h0];have hn:gX e=Q4:=by
   cases h:gX e
   ·rfl
   ·rw[kg.1 h]at h0;exact absurd rfl h0
  have hmb:bT e=de e:=by unfold bT;rw[hn];rfl
  have h0:(e.op==[])=Q4:=by simpa using h0
  rw[hmb];by_cases hm:de e=Q3
  ·obtain⟨t1,t2,t3⟩:=JU hw hm;rw[if_pos hm,hm];by_cases hwh:(w==[87,72,69,82,69])=Q3
   ·rw[if_pos hwh];refine⟨zJ (r:=(.tup [.str ([32,87,72,69,82,69,32]++aQ 16 e),.kb Q3],[])) ?_ rfl,sg⟩;simp only[Je,Q8,zk,h0,mM hw,qH hw,hm,hwh,t1,t2,if_true];rw[if_neg sw,if_neg sw,if_pos (zx sg)]
   ·rw[if_neg hwh];have hwh:(w==[87,72,69,82,69])=Q4:=by simpa using hwh
    refine⟨zJ (r:=(.tup [.str (w++[32,67,72,69,67,75,32,40,32]++aQ 16 e++[32,41]),.kb Q3],[])) ?_ rfl,sg⟩;simp only[Je,Q8,zk,h0,mM hw,qH hw,hm,hwh,t1,t2,if_true];rw[if_neg sw,if_neg sw,if_neg sw,if_pos (zx sg),if_pos (zx sg),if_pos (zx sg)]
  ·rw[if_neg hm];have hm:de e=Q4:=by simpa using hm
   rw[hm];refine⟨zJ (r:=(.tup [.str [],.kb Q4],[])) ?_ rfl,sw⟩;simp only[Je,Q8,zk,h0,mM hw,qH hw,hm,if_true];rfl
theorem bn{e:zf}(hw:sb e)(hc:rt 16 e=Q3){w:zD}(hl:w.length<=1000):uH e w=Q3/\CK e w=(oV w e,bT e)/\(oV w e).length<=30000:=by
 obtain⟨h1,h2⟩:=PQ hw hc hl;exact⟨by unfold uH;rw[h1];rfl,by unfold CK;rw[h1];rfl,h2⟩
theorem A1{e:zf}(h:bT e=Q3):kD [32] e=oV [] e:=by
 unfold kD oV;unfold bT at h;cases hn:gX e
 ·rw[hn]at h;have hm:de e=Q3:=h;rw[if_neg sw,if_neg (by rw[Rx hm];simp),if_pos hm];unfold iL nA;rw[hm];rfl
 ·rw[if_pos rfl];rw[kg.1 hn];rfl
theorem E5(sep x:zD):∀l:List zD,Lib.join (l++[x]) sep=if l=[]then x else Lib.join l sep++sep++x
 |[]=>by rw[if_pos rfl];exact Lib.join_one x sep
 |[a]=>by simp[Lib.join,List.intercalate,List.intersperse]
 | a::b::r=>by
  have ih:=E5 sep x (b::r);rw[if_neg sw]at ih⊢;have e1:∀(c:zD)(q:List zD),Lib.join (a::c::q) sep=a++sep++Lib.join (c::q) sep:=λc q=>by simp[Lib.join,List.intercalate,List.intersperse]
  show Lib.join (a::b::(r++[x])) sep=_;rw[e1,e1];rw[show b::(r++[x])=(b::r)++[x]from rfl,ih];simp
theorem Mh{l:List zD}(hl:l.length<=100)(hs:∀x∈l,length x<=1000):∃t,uI l=Q1 (t,(Q0 (∀x∈l,zO x=Q3)&&(Q0 (1<=l.length)&&Q0 (l.length<=8))),())/\t.length<=200000/\((∀x∈l,zO x=Q3)->t=Lib.join l [32,44,32]):=by
 have hjl:∀i,i<=l.length->(Lib.join (l.take i) [32,44,32]).length<=110000:=by
  intro i hi;have:=ua [32,44,32] 1000 (l.take i) (λx hx=>hs x (List.mem_of_mem_take hx));have h2:(l.take i).length<=100:=by simp;omega
  have h3:=gW (1000+([32,44,32]:zD).length) h2;simp at this h3⊢;omega
 have hstep:∀i(hi:i<l.length),(Da (.h3 l (Lib.join (l.take i) [32,44,32]) (i:Int))).val=if zO l[i]=Q3 then Q1 (.inl (.h3 l (Lib.join (l.take (i+1)) [32,44,32]) ((i+1:Nat):Int)))else Q1 (.inr (.tup [.str [],.kb Q4],[])):=by
  intro i hi;have hx:=hs _ (bd hi);have hj:=hjl i ow;show(Da (.h3 _ _ _)).val=_;simp only[Da,Q8,zM _ _ hi,zC hi,zt hi,bA (s:=l[i]) ow,eT (s:=l[i]) ow,if_true];rw[zp i um,zab hi,E5];by_cases hn:zO l[i]=Q3
  ·rw[if_neg (by rw[hn];simp),if_pos hn];by_cases h0:i=0
   ·subst h0;rw[if_neg sw,if_pos (zx (by simp[Lib.join_nil];omega)),if_pos sw];rfl
   ·rw[if_pos (zx ow),if_pos (zx sg),if_pos (zx sg),if_neg (by
     intro h;have:=congrArg length h;simp at this;rcases this with h|h
     ·exact h0 h
     ·rw[h]at hi;simp at hi)]
  ·rw[if_pos (by simpa using hn),if_neg hn]
 rcases ly (t:=Da) (Φ:=λr=>r=(.tup [.str [],.kb Q4],[])) 1 (λi=>.h3 l (Lib.join (l.take i) [32,44,32]) (i:Int)) (λi=>∀h:i<l.length,zO l[i]=Q3) l.length (λi hi _=>by
  by_cases hn:zO l[i]=Q3
  ·exact .inl ⟨λ_=>hn,zQ.of (by rw[hstep i hi,if_pos hn])⟩
  ·exact .inr ⟨λh=>hn (h hi),_,zU.of (by rw[hstep i hi,if_neg hn]),rfl⟩)with⟨h1,h2⟩|⟨h1,r,h2,rfl⟩
 ·have hall:∀x∈l,zO x=Q3:=by
   intro x hx;obtain⟨j,hj,rfl⟩:=fW hx;exact h1 j hj hj
  rw[jx]at h2;have hj:=hjl l.length (aA _);rw[jx]at hj;refine⟨Lib.join l [32,44,32],zw (s:=.h3 l [] 0) rfl (h2.ends (zU.of (r:=(.tup [.str (Lib.join l [32,44,32]),.bool (bif Q0 (1<=(↑l.length:Int))then Q0 ((↑l.length:Int)<=8)else Q4)],[])) ?_)) ow ?_,ow,λ_=>rfl⟩
  ·show(Da (.h3 _ _ _)).val=_;simp only[Da,Q8,zA];cases Q0 (1<=(↑l.length:Int))<;>rfl
  ·rw[zx hall];have e1:Q0 (1<=(↑l.length:Int))=Q0 (1<=l.length):=by
    by_cases h:1<=l.length
    ·rw[zx h];exact zx ow
    ·rw[aj h];exact aj ow
   have e2:Q0 ((↑l.length:Int)<=8)=Q0 (l.length<=8):=by
    by_cases h:l.length<=8
    ·rw[zx h];exact zx ow
    ·rw[aj h];exact aj ow
   rw[e1,e2];cases Q0 (1<=l.length)<;>cases Q0 (l.length<=8)<;>rfl
 ·have hne:¬∀x∈l,zO x=Q3:=λh=>h1 λi _ hi=>h _ (bd hi)
  refine⟨[],zw (s:=.h3 l [] 0) rfl h2 ow ?_,sw,λh=>absurd h hne⟩;rw[aj hne];rfl
structure oI (s:Sem zl):Prop where
 sh:l5 s
 chk:sb s.t.t.1
 whr:sb s.t.t.q.2.1
 cchk:rt 16 s.t.t.1=Q3
 cwhr:rt 16 s.t.t.q.2.1=Q3
 row:∀v∈s.t.t.2.1,l7 v
 sets:∀x∈s.t.t.q.1,sb (x:Sem ic).2/\rt 16 (x:Sem ic).2=Q3
def zca(B:Nat)(r:aw):Prop:=∃(tx:zD)(b:Bool),aL r.2 [Q6,Q7] r.1=Q1 (tx,b,())/\tx.length<=B
theorem zlo{s:Sem zl}(h:oI s)(b4:Bool)(s5:zD)(hs:s5.length<=60000)(n:Nat)(hn:30<=n):∃r,cY fx n (.h20 b4 s5 0 (s,()))=Q1 r/\zca 200000 r:=by
 have hl:=h.sh.refs.1;refine dl (t:=fx) (β:=Bool×zD) s.t.q.2.1.length (λb i=>.h20 b.1 b.2 (i:Int) (s,())) (λb i=>b.2.length<=60000+2100*i) _ 1 ?_ ?_ s.t.q.2.1.length 0 (b4,s5) n rfl (be _) (by simpa using hs) ow
 ·rintro⟨b,x⟩ i hi hI;have hI:x.length<=60000+2100*i:=hI;obtain⟨r1,r2⟩:=h.sh.refs.2 _ (bd hi);have g:getD s.t.q.2.1 (i:Int).toNat (zi iS)=s.t.q.2.1[i]:=zM _ _ hi;generalize s.t.q.2.1[i]=f at g r1 r2;refine .inl ⟨(bif b then bif bu f.1 then bu f.2 else Q4 else Q4,x++([32,44,32,82,69,70,69,82,69,78,67,69,83,32,40,32]++f.1++[32,41,32]++f.2)),sg,?_⟩;show(fx (.h20 _ _ _ _)).val=_;simp only[fx,Q8,g,zC hi,zt hi,bA (s:=f.1) ow,bA (s:=f.2) ow,if_true];rw[zp i um,if_pos (by cases b<;>cases bu f.1<;>rfl),if_pos (zx sg),if_pos (zx sg),if_pos (zx sg),if_pos (zx sg)]
 ·rintro⟨b,x⟩ n hI hn;have hI:x.length<=60000+2100*s.t.q.2.1.length:=hI;obtain⟨n,rfl⟩:∃k,n=k+1:=⟨n-1,ow⟩;obtain⟨c1,c2,c3⟩:=bn h.chk h.cchk (w:=[32,44]) sw;have hv:(fx (.h20 b x (s.t.q.2.1.length:Int) (s,()))).val=Q1 (.inr (.tup [.str (x++oV [32,44] s.t.t.1++[32,41]),.bool (bif b then bT s.t.t.1 else Q4)],[])):=by
   show(fx (.h20 _ _ _ _)).val=_;simp only[fx,Q8,zk,zA,c1,c2,if_true]
   rw[if_neg sw,if_pos (by
    have:x.length+(oV [32,44] s.t.t.1).length<=200000:=by omega
    simp;omega)]
   cases b<;>rfl
  rw[cI,hv];exact⟨_,rfl,_,_,rfl,sg⟩
theorem zln{s:Sem zl}(h:oI s)(b4:Bool)(s5:zD)(hs:s5.length<=30000)(n:Nat)(hn:60<=n):∃r,cY fx n (.h15 b4 s5 0 (s,()))=Q1 r/\zca 200000 r:=by
 have hl:=h.sh.uniques.1;refine dl (t:=fx) (β:=Bool×zD) s.t.q.1.length (λb i=>.h15 b.1 b.2 (i:Int) (s,())) (λb i=>b.2.length<=30000+1100*i) _ 31 ?_ ?_ s.t.q.1.length 0 (b4,s5) n rfl (be _) (by simpa using hs) ow
 ·rintro⟨b,x⟩ i hi hI;have hI:x.length<=30000+1100*i:=hI;have r1:=h.sh.uniques.2 _ (bd hi);have g:getD s.t.q.1 (i:Int).toNat (zi Q6)=s.t.q.1[i]:=zM _ _ hi;generalize s.t.q.1[i]=f at g r1;refine .inl ⟨(bif b then bu f else Q4,x++([32,44,32,85,78,73,81,85,69,32,40,32]++f++[32,41])),sg,?_⟩;show(fx (.h15 _ _ _ _)).val=_;simp only[fx,Q8,g,zC hi,zt hi,bA (s:=f) ow,if_true];rw[zp i um,if_pos (by cases b<;>rfl),if_pos (zx sg),if_pos (zx sg),if_pos (zx sg)]
 ·rintro⟨b,x⟩ n hI hn;have hI:x.length<=30000+1100*s.t.q.1.length:=hI;obtain⟨n,rfl⟩:∃k,n=k+1:=⟨n-1,ow⟩;have hv:(fx (.h15 b x (s.t.q.1.length:Int) (s,()))).val=Q1 (.inl (.h20 b x 0 (s,()))):=by
   show(fx (.h15 _ _ _ _)).val=_;simp only[fx,Q8,zA];rfl
  rw[cI,hv];exact zlo h b x ow n ow
theorem cr4{s:Sem zl}(h:oI s)(b4:Bool)(s5:zD)(hs:s5.length<=2000)(n:Nat)(hn:100<=n):∃r,cY fx n (.h4 b4 s5 0 (s,()))=Q1 r/\zca 200000 r:=by
 have hl:=h.sh.cols.1;have hk:=h.sh.key;refine dl (t:=fx) (β:=zD) s.t.1.length (λb i=>.h4 b4 b (i:Int) (s,())) (λb i=>b.length<=2000+1100*i) _ 61 ?_ ?_ s.t.1.length 0 s5 n rfl (be _) (by simpa using hs) ow
 ·intro x i hi hI;have r1:=h.sh.cols.2 _ (bd hi);have g:getD s.t.1 (i:Int).toNat (zi zj)=s.t.1[i]:=zM _ _ hi;generalize s.t.1[i]=f at g r1
  have hv:((fx (.h4 b4 x (i:Int) (s,()))).val=if(bif !bu f.1 then Q3 else bif Q0 (LT.lt (α:=Int) f.2.1 1)then Q3 else Q0 (GT.gt (α:=Int) f.2.1 3))=Q3 then Q1 (.inr (.tup [.str [],.kb Q4],[]))else
    Q1 (.inl (.h4 b4 ((if f.2.2=Q3 then x++(f.1++[32]++[[],[73,78,84],[84,69,88,84],[66,79,79,76]].getD (toNat f.2.1) (zi Q6))++[32,78,79,84,32,78,85,76,76]else x++(f.1++[32]++[[],[73,78,84],[84,69,88,84],[66,79,79,76]].getD (toNat f.2.1) (zi Q6)))++[32,44,32]) ((i+1:Nat):Int) (s,()))))/\
    (¬(bif !bu f.1 then Q3 else bif Q0 (LT.lt (α:=Int) f.2.1 1)then Q3 else Q0 (GT.gt (α:=Int) f.2.1 3))=Q3->([[],[73,78,84],[84,69,88,84],[66,79,79,76]].getD (toNat f.2.1) (zi Q6)).length<=4):=by
   have hgt:¬(bif !bu f.1 then Q3 else bif Q0 (LT.lt (α:=Int) f.2.1 1)then Q3 else Q0 (GT.gt (α:=Int) f.2.1 3))=Q3->zK f.2.1 4=Q3/\([[],[73,78,84],[84,69,88,84],[66,79,79,76]].getD (toNat f.2.1) (zi Q6)).length<=4:=by
    intro hc;have h1:¬LT.lt (α:=Int) f.2.1 1:=by
     intro h1;rw[zx h1]at hc;cases h2:(!bu f.1)<;>rw[h2]at hc<;>exact hc rfl
    have h3:¬GT.gt (α:=Int) f.2.1 3:=by
     intro h1;rw[zx h1]at hc;cases h2:(!bu f.1)<;>rw[h2]at hc<;>cases h4:Q0 (LT.lt (α:=Int) f.2.1 1)<;>rw[h4]at hc<;>exact hc rfl
    have h4:@Eq Int f.2.1 1\/@Eq Int f.2.1 2\/@Eq Int f.2.1 3:=by omega
    rcases h4 with h4|h4|h4<;>rw[h4]<;>exact⟨rfl,by decide⟩
   refine⟨?_,λhc=>(hgt hc).2⟩;show(fx (.h4 _ _ _ _)).val=_;simp only[fx,Q8,g,zC hi,zt hi,bA (s:=f.1) ow,if_true];by_cases hc:(bif !bu f.1 then Q3 else bif Q0 (LT.lt (α:=Int) f.2.1 1)then Q3 else Q0 (GT.gt (α:=Int) f.2.1 3))=Q3
   ·rw[if_pos hc,if_pos hc]
   ·obtain⟨k1,k2⟩:=hgt hc;rw[if_neg hc,if_neg hc,if_pos (zx sg)];refine(if_pos k1).trans ?_;generalize[[],[73,78,84],[84,69,88,84],[66,79,79,76]].getD (toNat f.2.1) (zi Q6)=ty at k2;rw[if_pos (zx sg),if_pos (zx sg),zp i um];by_cases hn:f.2.2=Q3
    ·rw[if_pos hn,if_pos hn,if_pos (zx sg),if_pos (zx sg)]
    ·rw[if_neg hn,if_neg hn,if_pos (zx sg)]
  obtain⟨hv,hty⟩:=hv;by_cases hc:(bif !bu f.1 then Q3 else bif Q0 (LT.lt (α:=Int) f.2.1 1)then Q3 else Q0 (GT.gt (α:=Int) f.2.1 3))=Q3
  ·rw[if_pos hc]at hv;exact .inr ⟨_,hv,[],Q4,rfl,sw⟩
  ·rw[if_neg hc]at hv;have:=hty hc;generalize[[],[73,78,84],[84,69,88,84],[66,79,79,76]].getD (toNat f.2.1) (zi Q6)=ty at hv this;refine .inl ⟨_,?_,hv⟩;split<;>simp<;>omega
 ·intro x n hI hn;obtain⟨n,rfl⟩:∃k,n=k+1:=⟨n-1,ow⟩;have hv:(fx (.h4 b4 x (s.t.1.length:Int) (s,()))).val=Q1 (.inl (.h15 b4 (x++([75,69,89,32,40,32]++s.t.2.1++[32,41])) 0 (s,()))):=by
   show(fx (.h4 _ _ _ _)).val=_;simp only[fx,Q8,zA];rw[if_neg sw,if_pos (zx sg),if_pos (zx sg),if_pos (zx sg)]
  rw[cI,hv];exact zln h b4 _ sg n ow
theorem JY{s:Sem zl}(h:oI s):∃(tx:zD)(b:Bool),mN s=Q1 (tx,b,())/\tx.length<=200000:=by
 have ht:=h.sh.table;have hk:=h.sh.key;have hv:∃b4,(Sr s).val=Q1 (.inl (.h4 b4 ([67,82,69,65,84,69,32,84,65,66,76,69,32]++s.2.1++[32,40,32]) 0 (s,()))):=by
  refine⟨(bif bu s.t.2.1 then bif Q0 (1<=(↑(length s.t.1):Int))then bif Q0 ((↑(length s.t.1):Int)<=8)then bif Q0 ((↑(length s.t.q.1):Int)<=8)then Q0 ((↑(length s.t.q.2.1):Int)<=8)else Q4 else Q4 else Q4 else Q4),?_⟩;simp only[Sr,Q8,bA (s:=s.t.2.1) ow,if_true];rw[if_pos (zx sg),if_pos (zx sg)]
 obtain⟨b4,hv⟩:=hv;obtain⟨r,h1,tx,b,h2,h3⟩:=cr4 h b4 ([67,82,69,65,84,69,32,84,65,66,76,69,32]++s.2.1++[32,40,32]) sg 100000000 ow;refine⟨tx,b,?_,h3⟩;unfold mN al cT;rw[hv];show(cY fx 100000000 _).bind _=_;rw[h1];exact h2
theorem Ma{s:Sem zl}(h:oI s):qM s=Q3/\(pD s).1.length<=200000:=by
 obtain⟨tx,b,h1,h2⟩:=JY h;exact⟨by unfold qM;rw[h1];rfl,by unfold pD;rw[h1];exact h2⟩
def OI(o:Option (zz (List.map Q1 [Q6,zl,Q7]))):Prop:=∃(t:zD)(own:Sem zl)(ok:Bool),o=Q1 (t,own,ok,())/\t.length<=900000/\AF own
theorem zkZ{s:Sem zl}{r:aw}{t:zD}{own:Sem zl}{ok:Bool}(hv:(gS s).val=Q1 (.inr r))(hr:aL r.2 [Q6,zl,Q7] r.1=Q1 (t,own,ok,()))(hl:t.length<=900000)(hc:AF own):OI (dD s):=
 ⟨t,own,ok,zJ hv hr,hl,hc⟩
abbrev dn:zf:=.mk [] (0,0,[]) [] []
theorem Tn:rt 16 dn=Q3:=by decide+kernel
theorem ej{a:Sem zl}{s:Sem zl}(h:oI s)(h4:a.2.2.2.1=s.2.2.2.1\/a.2.2.2.1=[])(h5:a.t.1=s.t.1\/a.t.1=[])(h7:a.t.q.1=s.t.q.1\/a.t.q.1=[])
  (h8:a.t.q.2.1=s.t.q.2.1\/a.t.q.2.1=[]) (h9:a.t.t.1=s.t.t.1\/a.t.t.1=dn) (h10:a.t.t.2.1=s.t.t.2.1\/a.t.t.2.1=[])
  (h11:a.t.t.q.1=s.t.t.q.1\/a.t.t.q.1=[]) (h12:a.t.t.q.2.1=s.t.t.q.2.1\/a.t.t.q.2.1=dn):AF a where
 names:=by have:=h.sh.names.1;rcases h4 with h|h<;>rw[h]<;>first|omega|simp
 cols:=by have:=h.sh.cols.1;rcases h5 with h|h<;>rw[h]<;>first|omega|simp
 uniques:=by have:=h.sh.uniques.1;rcases h7 with h|h<;>rw[h]<;>first|omega|simp
 refs:=by have:=h.sh.refs.1;rcases h8 with h|h<;>rw[h]<;>first|omega|simp
 row:=by have:=h.sh.row;rcases h10 with h|h<;>rw[h]<;>first|omega|simp
 sets:=by have:=h.sh.sets.1;rcases h11 with h|h<;>rw[h]<;>first|omega|simp
 chk:=by rcases h9 with k|k<;>rw[k];exact h.cchk;exact Tn
 whr:=by rcases h12 with k|k<;>rw[k];exact h.cwhr;exact Tn
 ex:=by
  rcases h11 with k|k<;>rw[k]
  ·exact λx hx=>(h.sets x hx).2
  ·intro x hx;cases hx
def r8(r:aw):Prop:=∃(t:zD)(own:Sem zl)(ok:Bool),aL r.2 [Q6,zl,Q7] r.1=Q1 (t,own,ok,())/\t.length<=900000/\AF own
theorem tZ{r:aw}(t:zD)(own:Sem zl)(ok:Bool)(h1:aL r.2 [Q6,zl,Q7] r.1=Q1 (t,own,ok,()))(h2:t.length<=900000)(h3:AF own):r8 r:=⟨t,own,ok,h1,h2,h3⟩
theorem znH{s:Sem zl}(h:oI s):∃r,cY mg 100000000 (.h15 [] 0 (s,()) ([],[],[],[],[],0,0,[],[],[],0,0,[],[],[],()) (s.1,s.2.1,[],[],[],0,0,[],[],s.t.t.2.1,[],0,0,[],[],[],()))=Q1 r/\r8 r:=by
 have hl:=h.sh.row;have ht:=h.sh.table;have hcmp:AF (s.1,s.2.1,[],[],[],[],[],[],dn,s.t.t.2.1,[],dn,[]):=ej h (.inr rfl) (.inr rfl) (.inr rfl) (.inr rfl) (.inr rfl) (.inl rfl) (.inr rfl) (.inr rfl);refine dl (t:=mg) (β:=zD) s.t.t.2.1.length (λb i=>.h15 b (i:Int) (s,()) ([],[],[],[],[],0,0,[],[],[],0,0,[],[],[],()) (s.1,s.2.1,[],[],[],0,0,[],[],s.t.t.2.1,[],0,0,[],[],[],())) (λb i=>b.length<=400*i) _ 1 ?_ ?_ s.t.t.2.1.length 0 [] 100000000 rfl (be _) sw ow
 ·intro x i hi hI;have hv:=h.row _ (bd hi);have hx:=xg s.t.t.2.1[i];have g:getD s.t.t.2.1 (i:Int).toNat (zi ze)=s.t.t.2.1[i]:=zM _ _ hi;generalize s.t.t.2.1[i]=v at g hv hx
  have e:(mg (.h15 x (i:Int) (s,()) ([],[],[],[],[],0,0,[],[],[],0,0,[],[],[],()) (s.1,s.2.1,[],[],[],0,0,[],[],s.t.t.2.1,[],0,0,[],[],[],()))).val=if aR v=Q3 then Q1 (.inl (.h15 ((if(i:Int)>0 then x++[32,44,32]else x)++ig v) ((i+1:Nat):Int) (s,()) ([],[],[],[],[],0,0,[],[],[],0,0,[],[],[],()) (s.1,s.2.1,[],[],[],0,0,[],[],s.t.t.2.1,[],0,0,[],[],[],())))else
    Q1 (.inr (.tup [.str [],.agg [.str s.1,.str s.2.1,.str [],.nils,.nils,.str [],.nils,.nils,.str [],.int .i64 0,.int .i64 0,.str [],.str [],.nils,.sl ze s.t.t.2.1,.nils,.str [],.int .i64 0,.int .i64 0,.str [],.str [],.nils,.str []],.kb Q4],[])):=by
   show(mg (.h15 _ _ _ _ _)).val=_;simp only[mg,Q8,g,zC hi,zt hi,jH hv.2.2,lR hv.2.2,Fp hv,JS hv,if_true];rw[zp i um];by_cases m:aR v=Q3
   ·rw[if_neg (by rw[m];simp),if_pos m];by_cases h0:(i:Int)>0
    ·rw[if_pos (zx h0),if_pos h0,if_pos (zx sg),if_pos (zx sg)]
    ·rw[if_neg (by simpa using h0),if_neg h0,if_pos (zx ow)]
   ·rw[if_pos (by simpa using m),if_neg m]
  by_cases m:aR v=Q3
  ·rw[if_pos m]at e;refine .inl ⟨_,?_,e⟩;split<;>simp<;>omega
  ·rw[if_neg m]at e;exact .inr ⟨_,e,tZ [] _ Q4 rfl sw hcmp⟩
 ·intro x n hI hn;obtain⟨n,rfl⟩:∃k,n=k+1:=⟨n-1,ow⟩
  have e:∃b,(mg (.h15 x (s.t.t.2.1.length:Int) (s,()) ([],[],[],[],[],0,0,[],[],[],0,0,[],[],[],()) (s.1,s.2.1,[],[],[],0,0,[],[],s.t.t.2.1,[],0,0,[],[],[],()))).val=
    Q1 (.inr (.tup [.str ([73,78,83,69,82,84,32,73,78,84,79,32]++s.2.1++[32,86,65,76,85,69,83,32,40,32]++x++[32,41]),.agg [.str s.1,.str s.2.1,.str [],.nils,.nils,.str [],.nils,.nils,.str [],.int .i64 0,.int .i64 0,.str [],.str [],.nils,.sl ze s.t.t.2.1,.nils,.str [],.int .i64 0,.int .i64 0,.str [],.str [],.nils,.str []],b],[]))/\(b=.kb Q4\/∃c,b=.bool c):=by
   show∃b,(mg (.h15 _ _ _ _ _)).val=_/\_;simp only[mg,Q8,zA];rw[if_neg sw,if_pos (zx sg),if_pos (zx sg),if_pos (zx sg),if_pos (zx sg)];split
   ·exact⟨_,rfl,.inr ⟨_,rfl⟩⟩
   ·exact⟨_,rfl,.inl rfl⟩
  obtain⟨b,e,hb⟩:=e;rw[cI,e];rcases hb with rfl|⟨c,rfl⟩
  ·exact⟨_,rfl,tZ _ _ Q4 rfl sg hcmp⟩
  ·exact⟨_,rfl,tZ _ _ c rfl sg hcmp⟩
theorem znI{s:Sem zl}(h:oI s)(s8:zD)(b9:Bool)(h8:s8.length<=30000):∃r,cY mg 100000000 (.h27 s8 b9 [] 0 (s,()) ([],[],[],[],[],0,0,[],[],[],0,0,[],[],[],()) (s.1,s.2.1,[],[],[],0,0,[],[],s.t.t.q.1,s.t.t.q.2.1,[],()))=Q1 r/\r8 r:=by
 have hl:=h.sh.sets.1;have ht:=h.sh.table;have hcmp:AF (s.1,s.2.1,[],[],[],[],[],[],dn,[],s.t.t.q.1,s.t.t.q.2.1,[]):=ej h (.inr rfl) (.inr rfl) (.inr rfl) (.inr rfl) (.inr rfl) (.inr rfl) (.inl rfl) (.inl rfl);generalize hZ:(([],[],[],[],[],0,0,[],[],[],0,0,[],[],[],()):zm iW)=Z;generalize hU:((s.1,s.2.1,[],[],[],0,0,[],[],s.t.t.q.1,s.t.t.q.2.1,[],()):zm zcs)=V
 have own:∀(t:zD)(ok:Bool)(b:AV),(b=.bool ok\/(b=.kb Q4/\ok=Q4))->aL [] [Q6,zl,Q7] (.tup [.str t,.agg [.str V.1,.str V.2.1,.str V.2.2.1,.nils,.nils,.str V.2.2.2.1,.nils,.nils,.str V.t.1,.int .i64 V.t.2.1,.int .i64 V.t.q.1,.str V.t.q.2.1,.str V.t.t.1,.nils,.nils,
   .sl (Sh.str.pr Q5) V.t.t.2.1,.str (zf.op V.t.t.q.1),.int .i64 (zf.v V.t.t.q.1).1,.int .i64 (zf.v V.t.t.q.1).2.1,.str (zf.v V.t.t.q.1).2.2,.str (zf.s V.t.t.q.1),.sl Q5 (zf.l V.t.t.q.1),.str V.t.t.q.2.1],b])=
   Q1 (t,(s.1,s.2.1,[],[],[],[],[],[],dn,[],s.t.t.q.1,s.t.t.q.2.1,[]),ok,()):=by
  intro t ok b hb;subst hU;obtain⟨s1,s2,s3,s4,s5,s6,s7,s8,s9,s10,uP,⟨d1,d2,d3,d4⟩,s13⟩:=s;rcases hb with rfl|⟨rfl,rfl⟩<;>rfl
 refine dl (t:=mg) (β:=zD) s.t.t.q.1.length (λb i=>.h27 s8 b9 b (i:Int) (s,()) Z V) (λb i=>b.length<=26000*i) _ 1 ?_ ?_ s.t.t.q.1.length 0 [] 100000000 rfl (be _) sw ow
 ·intro x i hi hI;obtain⟨hw,hcp⟩:=h.sets _ (bd hi);have hnm:=h.sh.sets.2 _ (bd hi);have g:getD s.t.t.q.1 (i:Int).toNat (zi ic)=s.t.t.q.1[i]:=zM _ _ hi;generalize s.t.t.q.1[i]=v at g hw hcp hnm;have e:(¬(bu v.1=Q3/\de v.2=Q3)/\∃r,(mg (.h27 s8 b9 x (i:Int) (s,()) Z V)).val=Q1 (.inr r)/\r8 r)\/∃x':zD,x'.length<=x.length+26000/\(mg (.h27 s8 b9 x (i:Int) (s,()) Z V)).val=Q1 (.inl (.h27 s8 b9 x' ((i+1:Nat):Int) (s,()) Z V)):=by
   show(_/\∃r,(mg (.h27 _ _ _ _ _ _ _)).val=_/\_)\/∃x':zD,_/\(mg (.h27 _ _ _ _ _ _ _)).val=_;simp only[mg,Q8,g,zk,zC hi,zt hi,bA (s:=v.1) ow,mM hw,qH hw,if_true,dz];have hg:(bif !bu v.1 then Q3 else Q3)=Q3:=by cases bu v.1<;>rfl
   rw[hg];by_cases m:bu v.1=Q3/\de v.2=Q3
   ·obtain⟨m1,m2⟩:=m;obtain⟨t1,t2,t3⟩:=JU hw m2;refine .inr ⟨(if(i:Int)>0 then x++[32,44,32]else x)++(v.1++[32,61,32]++aQ 16 v.2),by split<;>simp<;>omega,?_⟩;simp only[m1,m2,t1,t2,if_true,bG,ar,zB,if_false];rw[zp i um];by_cases h0:(i:Int)>0
    ·rw[if_pos (zx h0),if_pos h0,if_pos (zx sg),if_pos (zx sg),if_pos (zx sg),if_pos (zx sg)]
    ·rw[if_neg (by simpa using h0),if_neg h0,if_pos (zx sg),if_pos (zx sg),if_pos (zx sg)]
   ·refine .inl ⟨m,?_⟩;have hc:(bif !bu v.1 then Q3 else !de v.2)=Q3:=by
     cases h1:bu v.1
     ·rfl
     ·cases h2:de v.2
      ·rfl
      ·exact absurd ⟨h1,h2⟩ m
    rw[if_pos rfl,if_pos hc];exact⟨_,rfl,tZ [] _ Q4 (own [] Q4 _ (.inr ⟨rfl,rfl⟩)) sw hcmp⟩
  rcases e with⟨_,r,e1,e2⟩|⟨x',e1,e2⟩
  ·exact .inr ⟨r,e1,e2⟩
  ·exact .inl ⟨x',ow,e2⟩
 ·intro x n hI hn;obtain⟨n,rfl⟩:∃k,n=k+1:=⟨n-1,ow⟩
  have e:∃b ok,(mg (.h27 s8 b9 x (s.t.t.q.1.length:Int) (s,()) Z V)).val=
    Q1 (.inr (.tup [.str ([85,80,68,65,84,69,32]++s.2.1++[32,83,69,84,32]++x++s8),.agg [.str V.1,.str V.2.1,.str V.2.2.1,.nils,.nils,.str V.2.2.2.1,.nils,.nils,.str V.t.1,.int .i64 V.t.2.1,.int .i64 V.t.q.1,.str V.t.q.2.1,.str V.t.t.1,.nils,.nils,
   .sl (Sh.str.pr Q5) V.t.t.2.1,.str (zf.op V.t.t.q.1),.int .i64 (zf.v V.t.t.q.1).1,.int .i64 (zf.v V.t.t.q.1).2.1,.str (zf.v V.t.t.q.1).2.2,.str (zf.s V.t.t.q.1),.sl Q5 (zf.l V.t.t.q.1),.str V.t.t.q.2.1],b],[]))/\(b=.bool ok\/(b=.kb Q4/\ok=Q4)):=by
   show∃b ok,(mg (.h27 _ _ _ _ _ _ _)).val=_/\_;simp only[mg,Q8,zA];rw[if_neg sw,if_pos (zx sg),if_pos (zx sg),if_pos (zx sg),if_pos (zx sg)];split
   ·split
    ·exact⟨_,_,rfl,.inl rfl⟩
    ·exact⟨_,Q4,rfl,.inr ⟨rfl,rfl⟩⟩
   ·exact⟨_,Q4,rfl,.inr ⟨rfl,rfl⟩⟩
  obtain⟨b,ok,e,hb⟩:=e;rw[cI,e];exact⟨_,rfl,tZ _ _ ok (own _ ok b hb) sg hcmp⟩
end Cad
