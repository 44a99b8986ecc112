/- The document's values of expressions are the program's. The document's expressions that may be are the program's, and no others. -/
import Derived.Test.YtkmcdhahdadkpaaGreatDoorK14
import Derived.Test.YtkmcdhahdadkpaaGreatDoorK13
import Derived.Test.YtkmcdhahdadkpaaGreatDoorK11
import Derived.Test.YtkmcdhahdadkpaaGreatDoorK12
namespace Cad
open Go Go.Proofs
open Tr renaming val→Q8
open Sh renaming bool→Q7,str→Q6,expr→Q5
open Bool renaming false→Q4,true→Q3
open Option renaming none→Q2,some→Q1
open Decidable renaming decide→Q0
open Int (toNat)
open List (getD length)
open Tr (chk br re)
open AV (nils agg tup ptr kb str sl)
set_option maxHeartbeats 4000000
theorem ie:lL (0,0,[]):=⟨by decide,by decide,sw⟩
theorem lY(b:Bool):lL (wF b):=by cases b<;>exact⟨by decide,by decide,by simp[wF]⟩
theorem P6:lL (3,0,[]):=lY Q4
theorem P7:lL (3,1,[]):=lY Q3
theorem VA(a b:Sem ze):lL (Dq a b):=by
 unfold Dq;rw[mI,kV,kW];split;exact P6;split;exact P7;exact ie
theorem zbv(a b:Sem ze):lL (Uz a b):=by
 unfold Uz;rw[mI,kV,kW];split;exact P7;split;exact P6;exact ie
theorem VC(a:Sem ze):lL (xQ a):=by
 unfold xQ;rw[mI,kV,kW];split;exact P6;split;exact P7;exact ie
theorem zbu(a b:Sem ze):lL (lT a b):=by
 unfold lT;split;exact ie;rw[jd];exact lY _
theorem P8(a b:Sem ze):lL (rG a b):=by
 unfold rG;split;exact ie;rw[jd];exact lY _
theorem Kk(a:Sem ze):lL (jm a):=by
 unfold jm;rw[jd];exact lY _
theorem HM(n:Int):lL (1,IntKind.i64.wrap n,[]):=by
 refine⟨?_,?_,sw⟩
 ·show(-9223372036854775808:Int)<=IntKind.i64.wrap n;rw[fR];omega
 ·show IntKind.i64.wrap n<=(9223372036854775807:Int);rw[fR];omega
theorem P9(a b:Sem ze):lL (rH a b):=by
 unfold rH;split;exact ie;split;exact ie;exact HM _
theorem N6(a b:Sem ze):lL (lU a b):=by
 unfold lU;split;exact ie;split;exact ie;exact HM _
def sJ(cols:List (Sem zj))(row:List (Sem ze))(s:zB):Sem ze:=if(bif Q0 (af cols s<0)then Q3 else Q0 (af cols s>=(↑row.length:Int)))=Q3 then(0,0,[])else row.getD (toNat (af cols s)) (zi ze)
theorem Lr{g c}{cols:List (Sem zj)}{row:List (Sem ze)}{e:zf}(hl:cols.length<=1000000):∃r k,zT (xC g c) k (.h6 cols row ((0:Nat):Int) (e,()) ((0,0,[]),())) r/\k<=100000000/\aM r.2 [ze] r.1=Q1 (sJ cols row (zf.s e),()):=by
 have hf:=lI (t:=xC g c) (Φ:=λr=>aM r.2 [ze] r.1=Q1 (sJ cols row (zf.s e),())) 1 (λi=>.h6 cols row (i:Int) (e,()) ((0,0,[]),())) (λi=>((getD cols i (zi zj)).1==zf.s e)=Q4) cols.length (by
  intro i hi hj;have hv:(xC g c (.h6 cols row (i:Int) (e,()) ((0,0,[]),()))).val=if((getD cols i (zi zj)).1==zf.s e)=Q3 then(if Q0 ((i:Int)<(row.length:Int))=Q3 then(if zN (i:Int) row.length=Q3 then Q1 (.inr (.agg [.int .i64 (getD row i (zi ze)).1,.int .i64 (getD row i (zi ze)).2.1,.str (getD row i (zi ze)).2.2],[]))else Q2)else Q1 (.inr (.agg [.int .i64 0,.int .i64 0,.str []],[])))else Q1 (.inl (.h6 cols row ((i+1:Nat):Int) (e,()) ((0,0,[]),()))):=by
   simp only[xC,Q8,zH hi,zt hi,aK,if_true];rw[zp i um]
  rcases zG ((getD cols i (zi zj)).1==zf.s e)with h|h
  ·have hp:=mh (p:=λc:Sem zj=>c.1==zf.s e) (d:=zi zj) cols 0 i hi h hj;have hp:af cols (zf.s e)=(i:Int):=by unfold af;rw[hp];simp
   by_cases hr:i<row.length
   ·refine .inr ⟨by rw[h];simp,_,zT.of (by rw[hv,if_pos h,if_pos (zH hr),if_pos (zt hr)]),?_⟩;unfold sJ;rw[hp,if_neg (by rw[aj (by omega:¬(i:Int)<0),aj (by omega:¬(i:Int)>=(row.length:Int))];simp),aK];rfl
   ·refine .inr ⟨by rw[h];simp,_,zT.of (by rw[hv,if_pos h,if_neg (by rw[aO];omega)]),?_⟩;unfold sJ;rw[hp,if_pos (by rw[aj (by omega:¬(i:Int)<0),zu (by omega:(i:Int)>=(row.length:Int))];rfl)];rfl
  ·exact .inl ⟨h,zP.of (by rw[hv,if_neg (by rw[h];simp)])⟩)
 rcases hf with⟨h1,h2⟩|⟨h1,r,h2,h3⟩
 ·have hp:=mi (p:=λc:Sem zj=>c.1==zf.s e) (d:=zi zj) cols 0 h1;refine⟨(.agg [.int .i64 0,.int .i64 0,.str []],[]),_,h2.ends (zT.of ?_),ow,?_⟩
  ·simp only[xC,Q8,zA];rfl
  ·unfold sJ;rw[show af cols (zf.s e)=(-1:Int)from hp];rfl
 ·exact⟨r,_,h2,ow,h3⟩
theorem VB{cols:List (Sem zj)}{row:List (Sem ze)}{s:zB}(hr:∀v∈row,lL v):lL (sJ cols row s):=by
 unfold sJ;split
 ·exact ie
 ·by_cases h:toNat (af cols s)<row.length
  ·exact hr _ (bH h)
  ·rw[bd,eC ow];exact ie
theorem qn{cols:List (Sem zj)}{row:List (Sem ze)}(hl:cols.length<=1000000)(hr:∀v∈row,lL v):∀(N d M:Nat)(e:zf),d<=N->d<=M->ch d e=Q3->rL e->cg N e cols row=Q1 (dm M cols row e,())/\lL (dm M cols row e)
 |_,0,_,_,_,_,h,_=>by cases h
 |0,d+1,_,_,h,_,_,_=>absurd h ow
 |_,d+1,0,_,_,h,_,_=>absurd h ow
 | N+1,d+1,M+1,e,h1,h2,h,hw=>by
  rw[cg,dm];unfold Nl;cases fA h with
  | lit v hv=>
   rw[rL]at hw;exact⟨rfl,hw.1⟩
  | col s hw2 hr2=>
   obtain⟨r,k,k1,k2,k3⟩:=Lr (g:=λx0 x1 x2=>gD (cg N x0 x1 x2)) (c:=λx0 x1 x2=>(cg N x0 x1 x2).isSome) (cols:=cols) (row:=row) (e:=.mk [99,111,108] (0,0,[]) s []) hl;exact⟨zw Hw k1 k2 k3,VB hr⟩
  | one op a ho ha=>
   rw[rL,jQ]at hw;obtain⟨ka,va⟩:=qn hl hr N d M a ow ow ha hw.2.2.1;unfold ao cX;generalize hg:(λx0 x1 x2=>gD (cg N x0 x1 x2))=g;generalize hc:(λx0 x1 x2=>(cg N x0 x1 x2).isSome)=c;have g1:g a cols row=dm M cols row a:=by rw[<-hg];show gD (cg N a cols row)=_;rw[ka];rfl
   have c1:c a cols row=Q3:=by rw[<-hc];show(cg N a cols row).isSome=_;rw[ka];rfl
   rcases ho with rfl|rfl
   ·have e1:qZ (dm M) cols row (.mk [110,111,116] (0,0,[]) [] [a])=xQ (dm M cols row a):=rfl;have e2:(oU g c (.mk [110,111,116] (0,0,[]) [] [a]) cols row).val=if c (zm a) cols row=Q3 then(if Gn (g (zm a) cols row)=Q3 then Q1 (.inr (.agg [.int .i64 (EP (g (zm a) cols row)).1,.int .i64 (EP (g (zm a) cols row)).2.1,.str (EP (g (zm a) cols row)).2.2],[]))else Q2)else Q2:=rfl
    rw[e1,e2,zk,c1,g1];generalize dm M cols row a=x at*;rw[TE,WR];exact⟨rfl,VC _⟩
   ·have e1:qZ (dm M) cols row (.mk [110,117,108,108] (0,0,[]) [] [a])=jm (dm M cols row a):=rfl;have e2:(oU g c (.mk [110,117,108,108] (0,0,[]) [] [a]) cols row).val=if c (zm a) cols row=Q3 then(if lP (g (zm a) cols row)=Q3 then(if(!rB (g (zm a) cols row))=Q3 then Q1 (.inr (.agg [.int .i64 (aU Q3).1,.int .i64 (aU Q3).2.1,.str (aU Q3).2.2],[]))else if kM ((g (zm a) cols row).1==0)=Q3 then Q1 (.inr (.agg [.int .i64 (aU ((g (zm a) cols row).1==0)).1,.int .i64 (aU ((g (zm a) cols row).1==0)).2.1,.str (aU ((g (zm a) cols row).1==0)).2.2],[]))else Q2)else Q2)else Q2:=rfl
    rw[e1,e2,zk,c1,g1];generalize dm M cols row a=x at*;refine⟨?_,Kk _⟩;rw[kL va.2.2,nl va.2.2,np,gY,gY];unfold jm ap;rw[jd];cases aW x
    ·rfl
    ·rfl
  | two op a b ho ha hb=>
   rw[rL,jQ,jQ]at hw;obtain⟨ka,va⟩:=qn hl hr N d M a ow ow ha hw.2.2.1;obtain⟨kb,vb⟩:=qn hl hr N d M b ow ow hb hw.2.2.2.1;unfold ao cX;generalize hg:(λx0 x1 x2=>gD (cg N x0 x1 x2))=g;generalize hc:(λx0 x1 x2=>(cg N x0 x1 x2).isSome)=c;have g1:g a cols row=dm M cols row a:=by rw[<-hg];show gD (cg N a cols row)=_;rw[ka];rfl
   have c1:c a cols row=Q3:=by rw[<-hc];show(cg N a cols row).isSome=_;rw[ka];rfl
   have g2:g b cols row=dm M cols row b:=by rw[<-hg];show gD (cg N b cols row)=_;rw[kb];rfl
   have c2:c b cols row=Q3:=by rw[<-hc];show(cg N b cols row).isSome=_;rw[kb];rfl
   rcases ho with rfl|rfl|rfl|rfl|rfl|rfl
   ·have e1:qZ (dm M) cols row (.mk [97,110,100] (0,0,[]) [] [a,b])=Dq (dm M cols row a) (dm M cols row b):=rfl;have e2:(oU g c (.mk [97,110,100] (0,0,[]) [] [a,b]) cols row).val=if c (zm a) cols row=Q3 then(if c (zm b) cols row=Q3 then(if Gk (g (zm a) cols row) (g (zm b) cols row)=Q3 then Q1 (.inr (.agg [.int .i64 (EN (g (zm a) cols row) (g (zm b) cols row)).1,.int .i64 (EN (g (zm a) cols row) (g (zm b) cols row)).2.1,.str (EN (g (zm a) cols row) (g (zm b) cols row)).2.2],[]))else Q2)else Q2)else Q2:=rfl
    rw[e1,e2,zk,zk,c1,c2,g1,g2];generalize dm M cols row a=x at*;generalize dm M cols row b=y at*;rw[TC,WQ];exact⟨rfl,VA _ _⟩
   ·have e1:qZ (dm M) cols row (.mk [111,114] (0,0,[]) [] [a,b])=Uz (dm M cols row a) (dm M cols row b):=rfl;have e2:(oU g c (.mk [111,114] (0,0,[]) [] [a,b]) cols row).val=if c (zm a) cols row=Q3 then(if c (zm b) cols row=Q3 then(if Nj (g (zm a) cols row) (g (zm b) cols row)=Q3 then Q1 (.inr (.agg [.int .i64 (Pc (g (zm a) cols row) (g (zm b) cols row)).1,.int .i64 (Pc (g (zm a) cols row) (g (zm b) cols row)).2.1,.str (Pc (g (zm a) cols row) (g (zm b) cols row)).2.2],[]))else Q2)else Q2)else Q2:=rfl
    rw[e1,e2,zk,zk,c1,c2,g1,g2];generalize dm M cols row a=x at*;generalize dm M cols row b=y at*;rw[WS,zdd];exact⟨rfl,zbv _ _⟩
   ·have e1:qZ (dm M) cols row (.mk [61] (0,0,[]) [] [a,b])=lT (dm M cols row a) (dm M cols row b):=rfl;have e2:(oU g c (.mk [61] (0,0,[]) [] [a,b]) cols row).val=if c (zm a) cols row=Q3 then(if c (zm b) cols row=Q3 then(if tU (g (zm a) cols row) (g (zm b) cols row)=Q3 then Q1 (.inr (.agg [.int .i64 (qf (g (zm a) cols row) (g (zm b) cols row)).1,.int .i64 (qf (g (zm a) cols row) (g (zm b) cols row)).2.1,.str (qf (g (zm a) cols row) (g (zm b) cols row)).2.2],[]))else Q2)else Q2)else Q2:=rfl
    rw[e1,e2,zk,zk,c1,c2,g1,g2];generalize dm M cols row a=x at*;generalize dm M cols row b=y at*;rw[Lo va.2.2 vb.2.2,O9 va.2.2 vb.2.2];exact⟨rfl,zbu _ _⟩
   ·have e1:qZ (dm M) cols row (.mk [60] (0,0,[]) [] [a,b])=rG (dm M cols row a) (dm M cols row b):=rfl;have e2:(oU g c (.mk [60] (0,0,[]) [] [a,b]) cols row).val=if c (zm a) cols row=Q3 then(if c (zm b) cols row=Q3 then(if yq (g (zm a) cols row) (g (zm b) cols row)=Q3 then Q1 (.inr (.agg [.int .i64 (wm (g (zm a) cols row) (g (zm b) cols row)).1,.int .i64 (wm (g (zm a) cols row) (g (zm b) cols row)).2.1,.str (wm (g (zm a) cols row) (g (zm b) cols row)).2.2],[]))else Q2)else Q2)else Q2:=rfl
    rw[e1,e2,zk,zk,c1,c2,g1,g2];generalize dm M cols row a=x at*;generalize dm M cols row b=y at*;rw[Pa va.2.2 vb.2.2,TD va.2.2 vb.2.2];exact⟨rfl,P8 _ _⟩
   ·have e1:qZ (dm M) cols row (.mk [43] (0,0,[]) [] [a,b])=rH (dm M cols row a) (dm M cols row b):=rfl;have e2:(oU g c (.mk [43] (0,0,[]) [] [a,b]) cols row).val=if c (zm a) cols row=Q3 then(if c (zm b) cols row=Q3 then(if yr (g (zm a) cols row) (g (zm b) cols row)=Q3 then Q1 (.inr (.agg [.int .i64 (wn (g (zm a) cols row) (g (zm b) cols row)).1,.int .i64 (wn (g (zm a) cols row) (g (zm b) cols row)).2.1,.str (wn (g (zm a) cols row) (g (zm b) cols row)).2.2],[]))else Q2)else Q2)else Q2:=rfl
    rw[e1,e2,zk,zk,c1,c2,g1,g2];generalize dm M cols row a=x at*;generalize dm M cols row b=y at*;rw[Pe va vb,TF va vb];exact⟨rfl,P9 _ _⟩
   ·have e1:qZ (dm M) cols row (.mk [45] (0,0,[]) [] [a,b])=lU (dm M cols row a) (dm M cols row b):=rfl;have e2:(oU g c (.mk [45] (0,0,[]) [] [a,b]) cols row).val=if c (zm a) cols row=Q3 then(if c (zm b) cols row=Q3 then(if tW (g (zm a) cols row) (g (zm b) cols row)=Q3 then Q1 (.inr (.agg [.int .i64 (qh (g (zm a) cols row) (g (zm b) cols row)).1,.int .i64 (qh (g (zm a) cols row) (g (zm b) cols row)).2.1,.str (qh (g (zm a) cols row) (g (zm b) cols row)).2.2],[]))else Q2)else Q2)else Q2:=rfl
    rw[e1,e2,zk,zk,c1,c2,g1,g2];generalize dm M cols row a=x at*;generalize dm M cols row b=y at*;rw[Lp va vb,Pb va vb];exact⟨rfl,N6 _ _⟩
theorem pZ:∀(N k:Nat)(e:zf)(n:Nat),k<=12->n<=60->(ia N e ((13:Int)-k) n).1=Q3->ch k e=Q3/\(ia N e ((13:Int)-k) n).2=((n+nE k e:Nat):Int)/\n+nE k e<=60
 |0,_,_,_,_,_,h=>by cases h
 | N+1,0,e,n,_,_,h=>by
  rw[ia]at h;unfold xN at h;rw[if_pos Hw]at h;cases h
 | N + 1,k+1,.mk op v s l,n,h1,h2,h=>by
  have w1:IntKind.i64.wrap ((n:Int)+1)=((n+1:Nat):Int):=zp n um;have w2:IntKind.i64.wrap ((13:Int)-((k+1:Nat):Int)+1)=(13:Int)-(k:Int):=by rw[fR];omega
  have d1:Q0 ((13:Int)-((k+1:Nat):Int)>12)=Q4:=aj ow;rw[ia]at h⊢
  have e0:∀m:Int,xN (ia N) (.mk op v s l) m n=if(bif Q0 (m>12)then Q3 else bif Q0 (((n+1:Nat):Int)>60)then Q3 else(↑l.length:Int)!=cK op)=Q3 then(Q4,((n+1:Nat):Int))else
    if(op==[108,105,116])=Q3 then(bif s==[]then aW v else Q4,((n+1:Nat):Int))else
    if(op==[99,111,108])=Q3 then(bif aY v then bif dT s then !iZ s else Q4 else Q4,((n+1:Nat):Int))else
    if(bif !aY v then Q3 else !s==[])=Q3 then(Q4,((n+1:Nat):Int))else om (ia N) m l ((n+1:Nat):Int):=by
   intro m;unfold xN;rw[w1];rfl
  rw[e0,d1]at h⊢;rcases zG (Q0 (((n+1:Nat):Int)>60))with c0|c0
  ·rw[c0,if_pos Hw]at h;cases h
  rcases zG ((↑l.length:Int)!=cK op)with c1|c1
  ·rw[c0,c1,if_pos Hw]at h;cases h
  have hn:n+1<=60:=by simp at c0;omega
  have hp:(l.length:Int)=cK op:=by simpa using c1
  rw[c0,c1,if_neg sw]at h⊢;rcases lz op with⟨p,ho⟩|⟨p,ho⟩|⟨p,ho⟩|p
  ·have hl:l=[]:=xI ow;subst hl;rcases ho with rfl|rfl
   ·rw[if_pos Hw]at h⊢;obtain⟨a,b⟩:=cn h;refine⟨?_,by simp[nE],by simp[nE];omega⟩;simp[ch,b,bE a]
   ·rw[if_neg (by decide),if_pos Hw]at h⊢;obtain⟨a,b⟩:=cn h;obtain⟨b,c⟩:=cn b;refine⟨?_,by simp[nE],by simp[nE];omega⟩;have c':iZ s=Q4:=by simpa using c
    simp[ch,a,b,c']
  ·obtain⟨a,rfl⟩:∃a,l=[a]:=List.length_eq_one_iff.1 ow;have o1:(op==[108,105,116])=Q4:=by rcases ho with rfl|rfl<;>rfl
   have o2:(op==[99,111,108])=Q4:=by rcases ho with rfl|rfl<;>rfl
   have o3:(bif op==[110,111,116]then Q3 else op==[110,117,108,108])=Q3:=by rcases ho with rfl|rfl<;>rfl
   rw[if_neg (by rw[o1];simp),if_neg (by rw[o2];simp)]at h⊢;rcases zG (aY v)with c2|c2
   ·rcases zG (s==[])with c3|c3
    ·rw[c2,c3,if_neg sw]at h⊢;rw[om,w2]at h⊢;rcases zG (ia N a ((13:Int)-(k:Int)) ((n+1:Nat):Int)).1 with c4|c4
     ·obtain⟨i1,i2,i3⟩:=pZ N k a (n+1) ow hn c4;rw[c4,if_neg sw];refine⟨by simp[ch,o1,o2,o3,c2,c3,i1],?_,by simp[nE];omega⟩;rw[om];show(ia N a ((13:Int)-(k:Int)) ((n+1:Nat):Int)).2=_;rw[i2];simp[nE];omega
     ·rw[c4,if_pos Hw]at h;cases h
    ·rw[c2,c3,if_pos Hw]at h;cases h
   ·rw[c2,if_pos Hw]at h;cases h
  ·obtain⟨a,b,rfl⟩:∃a b,l=[a,b]:=by
    match l,hp with
    |[a,b],_=>exact⟨a,b,rfl⟩
    |[],hp=>exact absurd hp (by rw[p];simp)
    |[_],hp=>exact absurd hp (by rw[p];simp)
    |_::_::_::_,hp=>exact absurd hp (by rw[p];simp;omega)
   have o1:(op==[108,105,116])=Q4:=by rcases ho with rfl|rfl|rfl|rfl|rfl|rfl<;>rfl
   have o2:(op==[99,111,108])=Q4:=by rcases ho with rfl|rfl|rfl|rfl|rfl|rfl<;>rfl
   have o3:(bif op==[110,111,116]then Q3 else op==[110,117,108,108])=Q4:=by rcases ho with rfl|rfl|rfl|rfl|rfl|rfl<;>rfl
   have o4:Do op=Q3:=by rcases ho with rfl|rfl|rfl|rfl|rfl|rfl<;>rfl
   rw[if_neg (by rw[o1];simp),if_neg (by rw[o2];simp)]at h⊢;rcases zG (aY v)with c2|c2
   ·rcases zG (s==[])with c3|c3
    ·rw[c2,c3,if_neg sw]at h⊢;rw[om,w2]at h⊢;rcases zG (ia N a ((13:Int)-(k:Int)) ((n+1:Nat):Int)).1 with c4|c4
     ·obtain⟨i1,i2,i3⟩:=pZ N k a (n+1) ow hn c4;rw[c4,if_neg sw]at h⊢;rw[i2,om,w2]at h⊢;rcases zG (ia N b ((13:Int)-(k:Int)) ((n+1+nE k a:Nat):Int)).1 with c5|c5
      ·obtain⟨j1,j2,j3⟩:=pZ N k b (n+1+nE k a) ow i3 c5;rw[c5,if_neg sw];refine⟨by simp[ch,o1,o2,o3,o4,c2,c3,i1,j1],?_,by simp[nE];omega⟩;rw[om];show(ia N b ((13:Int)-(k:Int)) ((n+1+nE k a:Nat):Int)).2=_;rw[j2];simp[nE];omega
      ·rw[c5,if_pos Hw]at h;cases h
     ·rw[c4,if_pos Hw]at h;cases h
    ·rw[c2,c3,if_pos Hw]at h;cases h
   ·rw[c2,if_pos Hw]at h;cases h
  ·omega
theorem vo(e:zf):dc e=(bif ch 12 e then Q0 (nE 12 e<=60)else Q4):=by
 unfold dc;rcases zG (ia 16 e 1 0).1 with c|c
 ·obtain⟨h1,_,h3⟩:=pZ 16 12 e 0 ow ow c;rw[c,h1,zu ow];rfl
 ·rw[c];rcases zG (ch 12 e)with g|g
  ·rw[g];by_cases h:nE 12 e<=60
   ·have:=qa 16 12 e 0 ow ow g ow;have h2:(ia 16 e 1 0).1=Q3:=by
     have e1:ia 16 e 1 0=(Q3,((0+nE 12 e:Nat):Int)):=this;rw[e1]
    rw[h2]at c;cases c
   ·rw[aj h];rfl
  ·rw[g];rfl
theorem Jm{e:zf}(hw:rL e):BW e=Q1 (dc e,()):=by
 have hf:Gw e 12=Q1 (ch 12 e,()):=EV 16 12 e ow ow hw;have hfc:yC e 12=Q3:=by unfold yC;rw[hf];rfl
 have hfv:Gv e 12=ch 12 e:=by unfold Gv;rw[hf];rfl
 unfold BW ao cX;simp only[zhE,Q8,zk,hfc,hfv];rw[vo];rcases zG (ch 12 e)with g|g
 ·have hn:BY e=Q1 ((nE 12 e:Int),()):=nv 16 12 e ow ow g;have hnc:uc e=Q3:=by unfold uc;rw[hn];rfl
  have hnv:yD e=(nE 12 e:Int):=by unfold yD;rw[hn];rfl
  rw[g,hnc,hnv];have:Q0 (((nE 12 e:Nat):Int)<=60)=Q0 (nE 12 e<=60):=by
   by_cases h:nE 12 e<=60
   ·rw[zu h,zu ow]
   ·rw[aj h,aj ow]
  rw[this];rfl
 ·rw[g];rfl
theorem ms{e:zf}(hw:rL e):wo e=Q3:=by unfold wo;rw[Jm hw];rfl
theorem qo{e:zf}(hw:rL e):EU e=dc e:=by unfold EU;rw[Jm hw];rfl
theorem kx{e:zf}(h:dc e=Q3):ch 12 e=Q3:=by
 rw[vo]at h;exact(cn h).1
theorem Jo{e:zf}{cols:List (Sem zj)}(hl:cols.length<=1000000)(h:dc e=Q3):yB e cols=Q1 ((bG e cols).1,(bG e cols).2,()):=by
 have:=qu hl 16 12 16 e ow ow (kx h);unfold yB bG;rw[this,h];rfl
theorem TG{e:zf}{cols:List (Sem zj)}{row:List (Sem ze)}(hl:cols.length<=1000000)(hr:∀v∈row,lL v)(hw:rL e)(h:dc e=Q3):yz e cols row=Q1 (jO e cols row,()):=by
 have:=(qn hl hr 16 12 16 e ow ow (kx h) hw).1;unfold yz jO;rw[this,h];rfl
theorem CA(e:zf):fj 16 e we=(e.op==[]&&(aY e.v&&(e.s==[]&&e.l.length==0))):=by
 show JO (fj 15) e we=_;unfold JO KF Ux aY;obtain⟨op,v,s,l⟩:=e;simp only[zf.op,zf.v,zf.s,zf.l];cases l with
 | nil=>
  simp only[nM,V0];cases(op==[])<;>cases(v.1==0&&(v.2.1==0&&(v.2.2==[]&&Q3)))<;>cases(s==[])<;>rfl
 | cons x r=>
  have:(((x::r).length:Int)!=(([]:List zf).length:Int))=Q3:=by simp;omega
  simp only[this];cases(op==[])<;>cases(v.1==0&&(v.2.1==0&&(v.2.2==[]&&Q3)))<;>cases(s==[])<;>rfl
theorem Ls(e:zf):yA e we=Q1 (fj 16 e we,()):=by
 rw[CA];show bM 16 e we=_;rw[bM];unfold Gt;rcases zG (e.op==[])with c1|c1
 ·rcases zG (aY e.v)with c2|c2
  ·rcases zG (e.s==[])with c3|c3
   ·by_cases c4:e.l.length=0
    ·refine zw (s:=.h4 0 (e,()) (we,())) (k:=1) (r:=(.kb Q3,[])) ?_ (zT.of ?_) ow ?_
     ·unfold aY at c2;simp only[Bh,Q8];have c4':(((zf.l e).length:Int)!=(([]:List zf).length:Int))=Q4:=by simp[c4]
      show(if(bif !(e.op==[])then Q3 else bif !(e.v.1==0&&(e.v.2.1==0&&(e.v.2.2==[]&&Q3)))then Q3 else bif !(e.s==[])then Q3 else((zf.l e).length:Int)!=(([]:List zf).length:Int))=Q3 then _ else _)=_;rw[c1,c2,c3,c4'];rfl
     ·have c5:Q0 ((0:Int)<((zf.l e).length:Int))=Q4:=aj (by rw[c4];omega);simp only[Hk,Hl,yY,Q8];rw[c5];rfl
     ·rw[c1,c2,c3,c4];rfl
    ·have c4':(((zf.l e).length:Int)!=(([]:List zf).length:Int))=Q3:=bne_iff_ne.2 (by show((zf.l e).length:Int)≠0;omega);have c5:((zf.l e).length==0)=Q4:=bU.2 c4;refine zI (r:=(.kb Q4,[])) ?_ ?_
     ·unfold aY at c2;simp only[Bh,Q8];show(if(bif !(e.op==[])then Q3 else bif !(e.v.1==0&&(e.v.2.1==0&&(e.v.2.2==[]&&Q3)))then Q3 else bif !(e.s==[])then Q3 else((zf.l e).length:Int)!=(([]:List zf).length:Int))=Q3 then _ else _)=_;rw[c1,c2,c3,c4'];rfl
     ·rw[c1,c2,c3,c5];rfl
   ·refine zI (r:=(.kb Q4,[])) ?_ ?_
    ·unfold aY at c2;simp only[Bh,Q8];show(if(bif !(e.op==[])then Q3 else bif !(e.v.1==0&&(e.v.2.1==0&&(e.v.2.2==[]&&Q3)))then Q3 else bif !(e.s==[])then Q3 else((zf.l e).length:Int)!=(([]:List zf).length:Int))=Q3 then _ else _)=_;rw[c1,c2,c3];rfl
    ·rw[c1,c2,c3];rfl
  ·refine zI (r:=(.kb Q4,[])) ?_ ?_
   ·unfold aY at c2;simp only[Bh,Q8];show(if(bif !(e.op==[])then Q3 else bif !(e.v.1==0&&(e.v.2.1==0&&(e.v.2.2==[]&&Q3)))then Q3 else bif !(e.s==[])then Q3 else((zf.l e).length:Int)!=(([]:List zf).length:Int))=Q3 then _ else _)=_;rw[c1,c2];rfl
   ·rw[c1,c2];rfl
 ·refine zI (r:=(.kb Q4,[])) ?_ ?_
  ·simp only[Bh,Q8];show(if(bif !(e.op==[])then Q3 else bif !(e.v.1==0&&(e.v.2.1==0&&(e.v.2.2==[]&&Q3)))then Q3 else bif !(e.s==[])then Q3 else((zf.l e).length:Int)!=(([]:List zf).length:Int))=Q3 then _ else _)=_;rw[c1];rfl
  ·rw[c1];rfl
theorem Mu{e:zf}(h:dc e=Q3):(e.op==[])=Q4:=by
 have hg:=kx h;cases fA hg with
 |lit v hv=>rfl
 |col s hw hr=>rfl
 |one op a ho ha=>rcases ho with rfl|rfl<;>rfl
 |two op a b ho ha hb=>rcases ho with rfl|rfl|rfl|rfl|rfl|rfl<;>rfl
theorem B3{e:zf}{cols:List (Sem zj)}(hw:rL e)(hl:cols.length<=1000000):pk e cols=Q1 (iA e cols,()):=by
 have hs:=Ls e;have hsc:gE e we=Q3:=by unfold gE;rw[hs];rfl
 have hsv:eW e we=fj 16 e we:=by unfold eW;rw[hs];rfl
 unfold pk ao cX;simp only[YQ,Q8,zk,ms hw,qo hw];unfold iA;rcases zG (e.op==[])with c|c
 ·have hm:dc e=Q4:=by
   rcases zG (dc e)with h|h
   ·rw[Mu h]at c;cases c
   ·exact h
  have ht:bG e cols=(0,1):=by unfold bG;rw[hm];rfl
  rw[c,hsc,hsv,ht];rcases zG (fj 16 e we)with h|h<;>rw[h]<;>rfl
 ·have hn:fj 16 e we=Q4:=by rw[CA,c];rfl
  rw[c,hn];rcases zG (dc e)with h|h
  ·have ht:=Jo (cols:=cols) hl h;have htc:nt e cols=Q3:=by unfold nt;rw[ht];rfl
   have htv:iv e cols=bG e cols:=by unfold iv;rw[ht];rfl
   rw[h,htc,htv];generalize bG e cols=t;obtain⟨t,r⟩:=t;rcases zG (r==0)with k1|k1
   ·have e0:r=0:=bE k1;subst e0;rcases zG (t==0)with k2|k2<;>rcases zG (t==3)with k3|k3<;>(simp only[bne,k2,k3];rfl)
   ·simp only[bne,k1];rfl
  ·have ht:bG e cols=(0,1):=by unfold bG;rw[h];rfl
   rw[h,ht];rfl
structure nL (t:Sem zo):Prop where
 name:zL t.1=Q3
 n1:1<=t.2.1.length
 n8:t.2.1.length<=8
 cols:∀i,i<t.2.1.length->zL (getD t.2.1 i (zi zj)).1=Q3/\LE.le (α:=Int) 1 (getD t.2.1 i (zi zj)).2.1/\LE.le (α:=Int) (getD t.2.1 i (zi zj)).2.1 3/\af t.2.1 (getD t.2.1 i (zi zj)).1=(i:Int)
 uniq:∀u∈t.2.2.2.1,C2 u t.2.1.length
 refs:∀f∈t.t.1,C2 f.1 t.2.1.length/\zL f.2=Q3
 key:C2 t.2.2.1 t.2.1.length
 nn:(getD t.2.1 (toNat t.2.2.1) (zi zj)).2.2=Q3
 chk:iA t.t.2 t.2.1=(0:Int)
theorem H0{t:Sem zo}{i:Nat}:Kp t i=Q3↔(zL (getD t.2.1 i (zi zj)).1=Q3/\LE.le (α:=Int) 1 (getD t.2.1 i (zi zj)).2.1/\LE.le (α:=Int) (getD t.2.1 i (zi zj)).2.1 3/\af t.2.1 (getD t.2.1 i (zi zj)).1=(i:Int)):=by
 unfold Kp;have ep:zQ t (getD t.2.1 i (zi zj)).1=af t.2.1 (getD t.2.1 i (zi zj)).1:=rfl;rw[ep];generalize getD t.2.1 i (zi zj)=c;cases zL c.1
 ·simp
 ·by_cases h1:LT.lt (α:=Int) c.2.1 1
  ·rw[zu h1];simp;intro h;omega
  ·rw[aj h1];by_cases h2:GT.gt (α:=Int) c.2.1 3
   ·rw[zu h2];simp;intro _ h;omega
   ·rw[aj h2];exact⟨λh=>⟨rfl,ow,ow,by simpa using h⟩,λh=>by simpa using h.2.2.2⟩
theorem kU(t:Sem zo):eB t=Q3↔nL t:=by
 have h2:=ww (l:=t.2.2.2.1) (d:=zi zg) (p:=λu=>vU u (length t.2.1));simp only[oV]at h2;have h0:(!(bif !zL t.1 then Q3 else bif Q0 ((↑(length t.2.1):Int)<1)then Q3 else Q0 ((↑(length t.2.1):Int)>8)))=Q3↔(zL t.1=Q3/\1<=length t.2.1/\length t.2.1<=8):=by
  cases zL t.1
  ·simp
  ·by_cases h1:(↑(length t.2.1):Int)<1
   ·rw[zu h1];simp;omega
   ·rw[aj h1];simp;omega
 have h1:(List.range (length t.2.1)).all (Kp t)=Q3↔∀i,i<length t.2.1->Kp t i=Q3:=by
  rw[dW];simp only[oB]
 unfold eB;rw[aD,h0,aD,h1,aD,h2,aD,JH,aD,oV,aD,ba];exact⟨λ⟨⟨a,b,c⟩,d,e,f,g,i,j⟩=>⟨a,b,c,λk hk=>H0.1 (d k hk),e,f,g,i,j⟩,λh=>⟨⟨h.name,h.n1,h.n8⟩,λk hk=>H0.2 (h.cols k hk),h.uniq,h.refs,h.key,h.nn,h.chk⟩⟩
structure J8 (t:Sem zo):Prop where
 name:t.1.length<=1000000
 cols:∀c∈t.2.1,length c.1<=1000000
 ncols:t.2.1.length<=1000
 nuq:t.2.2.2.1.length<=1000
 nrf:t.t.1.length<=1000
 refs:∀f∈t.t.1,length f.2<=1000000
 chk:rL t.t.2
theorem Ms{b:Bool}{x p i:Int}:(bif !b then Q3 else bif Q0 (x<1)then Q3 else bif Q0 (x>3)then Q3 else p !=i)=Q4↔(b=Q3/\1<=x/\x<=3/\p=i):=by
 cases b
 ·simp
 ·by_cases h1:x<1
  ·rw[zu h1];simp;omega
  ·rw[aj h1];by_cases h2:x>3
   ·rw[zu h2];simp;omega
   ·rw[aj h2];exact⟨λh=>⟨rfl,ow,ow,by simpa using h⟩,λh=>by simpa using h.2.2.2⟩
theorem M9{x:Int}{n:Nat}:(bif Q0 (x<0)then Q3 else Q0 (x>=(n:Int)))=Q3↔¬C2 x n:=by
 unfold C2;by_cases h:x<0
 ·rw[zu h];simp;omega
 ·rw[aj h];simp;omega
theorem Js{t:Sem zo}(hw:J8 t):GA t=Q1 (eB t,()):=by
 have hiff:=kU t;have hn1:=hw.ncols;have hn2:=hw.nuq;have hn3:=hw.nrf;have no:∀r:ar,r=(.kb Q4,[])->¬nL t->aM r.2 [Q7] r.1=Q1 (eB t,()):=by
  intro r hr h;have:eB t=Q4:=by
   rcases zG (eB t)with c|c
   ·exact absurd (hiff.1 c) h
   ·exact c
  rw[hr,this];rfl
 have hi:(zcm t).val=if(bif !zL t.1 then true else bif decide ((t.2.1.length:Int)<1)then true else bif decide ((t.2.1.length:Int)>8)then true else bif decide (LT.lt (α:=Int) t.2.2.1 0)then true else bif decide (GE.ge (α:=Int) t.2.2.1 (t.2.1.length:Int))then true else !(getD t.2.1 (toNat t.2.2.1) (zi zj)).2.2)=true then some (.inr (.kb false,[]))else some (.inl (.h5 (t.2.1.length:Int) ((0:Nat):Int) (t,()))):=by
  simp only[zcm,Q8,bv hw.name,eQ hw.name];rw[if_pos]
  ·rfl
  ·rcases zG (zL t.1)with c|c
   ·rw[c];by_cases k1:LT.lt (α:=Int) t.2.2.1 0
    ·rw[zu k1];cases Q0 ((t.2.1.length:Int)<1)<;>cases Q0 ((t.2.1.length:Int)>8)<;>rfl
    ·by_cases k2:GE.ge (α:=Int) t.2.2.1 (t.2.1.length:Int)
     ·rw[zu k2];cases Q0 ((t.2.1.length:Int)<1)<;>cases Q0 ((t.2.1.length:Int)>8)<;>cases Q0 (LT.lt (α:=Int) t.2.2.1 0)<;>rfl
     ·have:zN t.2.2.1 t.2.1.length=Q3:=tD ⟨ow,ow⟩;rw[this];cases Q0 ((t.2.1.length:Int)<1)<;>cases Q0 ((t.2.1.length:Int)>8)<;>cases Q0 (LT.lt (α:=Int) t.2.2.1 0)<;>cases Q0 (GE.ge (α:=Int) t.2.2.1 (t.2.1.length:Int))<;>rfl
   ·rw[c];rfl
 rcases zG (bif !zL t.1 then Q3 else bif Q0 ((t.2.1.length:Int)<1)then Q3 else bif Q0 ((t.2.1.length:Int)>8)then Q3 else bif Q0 (LT.lt (α:=Int) t.2.2.1 0)then Q3 else bif Q0 (GE.ge (α:=Int) t.2.2.1 (t.2.1.length:Int))then Q3 else !(getD t.2.1 (toNat t.2.2.1) (zi zj)).2.2)with c|c
 ·rw[if_pos c]at hi;refine zI hi (no _ rfl λh=>?_);obtain⟨k1,k2⟩:=h.key;have e1:=h.n1;have e2:=h.n8;rw[h.name,aj ow,aj ow,aj ow,aj ow,h.nn]at c;cases c
 rw[if_neg (by rw[c];simp)]at hi;have hname:zL t.1=Q3:=by
  rcases zG (zL t.1)with k|k
  ·exact k
  ·rw[k]at c;cases c
 rw[hname]at c;have h1:1<=t.2.1.length:=by
  by_cases k:(t.2.1.length:Int)<1
  ·rw[zu k]at c;cases c
  ·omega
 rw[aj (by omega:¬(t.2.1.length:Int)<1)]at c;have h8:t.2.1.length<=8:=by
  by_cases k:(t.2.1.length:Int)>8
  ·rw[zu k]at c;cases c
  ·omega
 rw[aj (by omega:¬(t.2.1.length:Int)>8)]at c;have hk0:LE.le (α:=Int) 0 t.2.2.1:=by
  by_cases k:LT.lt (α:=Int) t.2.2.1 0
  ·rw[zu k]at c;cases c
  ·omega
 rw[aj (by omega:¬LT.lt (α:=Int) t.2.2.1 0)]at c;have hkn:LT.lt (α:=Int) t.2.2.1 (t.2.1.length:Int):=by
  by_cases k:GE.ge (α:=Int) t.2.2.1 (t.2.1.length:Int)
  ·rw[zu k]at c;cases c
  ·omega
 rw[aj (by omega:¬GE.ge (α:=Int) t.2.2.1 (t.2.1.length:Int))]at c;have hnn:(getD t.2.1 (toNat t.2.2.1) (zi zj)).2.2=Q3:=by simpa using c
 have f5:=lI (t:=qY) (Φ:=λr=>r=(.kb Q4,[])) 1 (λi=>.h5 (t.2.1.length:Int) (i:Int) (t,())) (λi=>zL (getD t.2.1 i (zi zj)).1=Q3/\LE.le (α:=Int) 1 (getD t.2.1 i (zi zj)).2.1/\LE.le (α:=Int) (getD t.2.1 i (zi zj)).2.1 3/\af t.2.1 (getD t.2.1 i (zi zj)).1=(i:Int)) t.2.1.length (by
  intro i hi _;have hcl:=hw.cols _ (bH (d:=zi zj) hi);have hv:(qY (.h5 (t.2.1.length:Int) (i:Int) (t,()))).val=if(bif !zL (getD t.2.1 i (zi zj)).1 then Q3 else bif Q0 (LT.lt (α:=Int) (getD t.2.1 i (zi zj)).2.1 1)then Q3 else bif Q0 (GT.gt (α:=Int) (getD t.2.1 i (zi zj)).2.1 3)then Q3 else af t.2.1 (getD t.2.1 i (zi zj)).1!=(i:Int))=Q3 then Q1 (.inr (.kb Q4,[]))else Q1 (.inl (.h5 (t.2.1.length:Int) ((i+1:Nat):Int) (t,()))):=by
   simp only[qY,Q8,zH hi,zt hi,aK,bv hcl,eQ hcl,iX (show t.2.1.length<=1000000 by omega),ke (show t.2.1.length<=1000000 by omega),if_true];rw[if_pos,zp i um];cases zL (getD t.2.1 i (zi zj)).1<;>cases Q0 (LT.lt (α:=Int) (getD t.2.1 i (zi zj)).2.1 1)<;>cases Q0 (GT.gt (α:=Int) (getD t.2.1 i (zi zj)).2.1 3)<;>rfl
  rcases zG (bif !zL (getD t.2.1 i (zi zj)).1 then Q3 else bif Q0 (LT.lt (α:=Int) (getD t.2.1 i (zi zj)).2.1 1)then Q3 else bif Q0 (GT.gt (α:=Int) (getD t.2.1 i (zi zj)).2.1 3)then Q3 else af t.2.1 (getD t.2.1 i (zi zj)).1!=(i:Int))with c|c
  ·refine .inr ⟨λh=>?_,_,zT.of (by rw[hv,if_pos c]),rfl⟩;rw[Ms.2 h]at c;cases c
  ·exact .inl ⟨Ms.1 c,zP.of (by rw[hv,if_neg (by rw[c];simp)])⟩)
 rcases f5 with⟨p5,f5⟩|⟨p5,r,f5,hr⟩
 case inr=>exact zw hi f5 ow (no _ hr λh=>p5 h.cols)
 have v5:(qY (.h5 (t.2.1.length:Int) (t.2.1.length:Int) (t,()))).val=Q1 (.inl (.h11 (t.2.1.length:Int) ((0:Nat):Int) (t,()))):=by
  simp only[qY,Q8,zA];rfl
 have g11:=f5.trans (zP.of v5);have f11:=lI (t:=qY) (Φ:=λr=>r=(.kb Q4,[])) 1 (λi=>.h11 (t.2.1.length:Int) (i:Int) (t,())) (λi=>C2 (getD t.2.2.2.1 i (zi zg)) t.2.1.length) t.2.2.2.1.length (by
  intro i hi _;have hv:(qY (.h11 (t.2.1.length:Int) (i:Int) (t,()))).val=if(bif Q0 (LT.lt (α:=Int) (getD t.2.2.2.1 i (zi zg)) 0)then Q3 else Q0 (GE.ge (α:=Int) (getD t.2.2.2.1 i (zi zg)) (t.2.1.length:Int)))=Q3 then Q1 (.inr (.kb Q4,[]))else Q1 (.inl (.h11 (t.2.1.length:Int) ((i+1:Nat):Int) (t,()))):=by
   simp only[qY,Q8,zH hi,zt hi,aK,if_true];rw[if_pos,zp i um];cases Q0 (LT.lt (α:=Int) (getD t.2.2.2.1 i (zi zg)) 0)<;>rfl
  by_cases h:C2 (getD t.2.2.2.1 i (zi zg)) t.2.1.length
  ·exact .inl ⟨h,zP.of (by rw[hv,if_neg (by rw[aj (by have:=h.1;omega),aj (by have:=h.2;omega)];simp)])⟩
  ·refine .inr ⟨h,_,zT.of (by rw[hv,if_pos (M9.2 h)]),rfl⟩)
 rcases f11 with⟨p11,f11⟩|⟨p11,r,f11,hr⟩
 case inr=>exact zw hi (g11.ends f11) ow (no _ hr λh=>p11 ((aq (Q:=λu=>C2 u t.2.1.length)).2 h.uniq))
 have v11:(qY (.h11 (t.2.1.length:Int) (t.2.2.2.1.length:Int) (t,()))).val=Q1 (.inl (.h16 (t.2.1.length:Int) ((0:Nat):Int) (t,()))):=by
  simp only[qY,Q8,zA];rfl
 have g16:=(g11.trans f11).trans (zP.of v11);have f16:=lI (t:=qY) (Φ:=λr=>r=(.kb Q4,[])) 1 (λi=>.h16 (t.2.1.length:Int) (i:Int) (t,())) (λi=>C2 (getD t.t.1 i (zi zr)).1 t.2.1.length/\zL (getD t.t.1 i (zi zr)).2=Q3) t.t.1.length (by
  intro i hi _;have hcl:=hw.refs _ (bH (d:=zi zr) hi);have hv:(qY (.h16 (t.2.1.length:Int) (i:Int) (t,()))).val=if(bif Q0 (LT.lt (α:=Int) (getD t.t.1 i (zi zr)).1 0)then Q3 else bif Q0 (GE.ge (α:=Int) (getD t.t.1 i (zi zr)).1 (t.2.1.length:Int))then Q3 else !zL (getD t.t.1 i (zi zr)).2)=Q3 then Q1 (.inr (.kb Q4,[]))else Q1 (.inl (.h16 (t.2.1.length:Int) ((i+1:Nat):Int) (t,()))):=by
   simp only[qY,Q8,zH hi,zt hi,aK,bv hcl,eQ hcl,if_true];rw[if_pos,zp i um];cases Q0 (LT.lt (α:=Int) (getD t.t.1 i (zi zr)).1 0)<;>cases Q0 (GE.ge (α:=Int) (getD t.t.1 i (zi zr)).1 (t.2.1.length:Int))<;>rfl
  by_cases h:C2 (getD t.t.1 i (zi zr)).1 t.2.1.length
  ·rcases zG (zL (getD t.t.1 i (zi zr)).2)with c|c
   ·exact .inl ⟨⟨h,c⟩,zP.of (by rw[hv,c,if_neg (by rw[aj (by have:=h.1;omega),aj (by have:=h.2;omega)];simp)])⟩
   ·exact .inr ⟨λh2=>(by rw[h2.2]at c;cases c),_,zT.of (by rw[hv,c,if_pos (by rw[aj (by have:=h.1;omega),aj (by have:=h.2;omega)];rfl)]),rfl⟩
  ·have hb:(bif Q0 (LT.lt (α:=Int) (getD t.t.1 i (zi zr)).1 0)then Q3 else bif Q0 (GE.ge (α:=Int) (getD t.t.1 i (zi zr)).1 (t.2.1.length:Int))then Q3 else !zL (getD t.t.1 i (zi zr)).2)=Q3:=by
    have:=M9.2 h;rcases zG (Q0 (LT.lt (α:=Int) (getD t.t.1 i (zi zr)).1 0))with k|k
    ·rw[k];rfl
    ·rw[k]at this⊢;rw[show Q0 (GE.ge (α:=Int) (getD t.t.1 i (zi zr)).1 (t.2.1.length:Int))=Q3 from this];rfl
   exact .inr ⟨λh2=>h h2.1,_,zT.of (by rw[hv,if_pos hb]),rfl⟩)
 rcases f16 with⟨p16,f16⟩|⟨p16,r,f16,hr⟩
 case inr=>exact zw hi (g16.ends f16) ow (no _ hr λh=>p16 ((aq (Q:=λf:Sem zr=>C2 f.1 t.2.1.length/\zL f.2=Q3)).2 h.refs))
 have hch:B2 t.t.2 t.2.1=Q3:=by unfold B2;rw[B3 hw.chk ow];rfl
 have hcv:GB t.t.2 t.2.1=iA t.t.2 t.2.1:=by unfold GB;rw[B3 hw.chk ow];rfl
 have v16:(qY (.h16 (t.2.1.length:Int) (t.t.1.length:Int) (t,()))).val=Q1 (.inr (.bool (iA t.t.2 t.2.1==(0:Int)),[])):=by
  simp only[qY,Q8,zA,zk,hch,hcv];rfl
 refine zw hi (g16.ends (f16.ends (zT.of v16))) ow ?_;have:eB t=(iA t.t.2 t.2.1==(0:Int)):=by
  apply ig.2;rw[hiff];constructor
  ·intro h;rw[h.chk];rfl
  ·intro h;exact⟨hname,h1,h8,p5,(aq (Q:=λu=>C2 u t.2.1.length)).1 p11,(aq (Q:=λf:Sem zr=>C2 f.1 t.2.1.length/\zL f.2=Q3)).1 p16,⟨hk0,hkn⟩,hnn,bE h⟩
 rw[this];rfl
theorem mv{t:Sem zo}(hw:J8 t):wq t=Q3:=by unfold wq;rw[Js hw];rfl
theorem qw{t:Sem zo}(hw:J8 t):EX t=eB t:=by unfold EX;rw[Js hw];rfl
section
variable {σ:Type} {t:σ->Tr (σ⊕ar)}
abbrev E4:ar:=(.kb Q4,[])
theorem KE{α:Type}{la lb:List α}(st:Nat->σ)(hlen:la.length=lb.length)(hs:∀i(ha:i<la.length)(hb:i<lb.length),(la[i]=lb[i]->(t (st i)).val=Q1 (.inl (st (i+1))))/\(la[i]≠lb[i]->(t (st i)).val=Q1 (.inr E4))):
  (la=lb/\zP t la.length (st 0) (st la.length))\/(la≠lb/\zT t la.length (st 0) E4):=by
 rcases lI (t:=t) (Φ:=λr=>r=E4) 1 st (λi=>la[i]?=lb[i]?) la.length (λi hi _=>by
  have hb:i<lb.length:=by omega
  obtain⟨h1,h2⟩:=hs i hi hb;rw[zS hi,zS hb];by_cases h:la[i]=lb[i]
  ·exact .inl ⟨by rw[h],zP.of (h1 h)⟩
  ·exact .inr ⟨λh3=>h (Option.some.inj h3),E4,zT.of (h2 h),rfl⟩)with⟨h1,h2⟩|⟨h1,r,h2,rfl⟩
 ·rw[Nat.mul_one]at h2;refine .inl ⟨Ao λi=>?_,h2⟩;by_cases hi:i<la.length
  ·exact h1 i hi
  ·rw[eC ow,eC ow]
 ·rw[Nat.mul_one]at h2;exact .inr ⟨λh=>h1 λi _=>by rw[h],h2⟩
end
theorem jf{α:Type}{a b:List α}:((a.length:Int)!=(b.length:Int))=Q3↔a.length≠b.length:=by
 simp[bne];omega
theorem BX:∀(N:Nat)(a b:zf),qU N a=Q3->∃r,bM N a b=Q1 (r,())/\(r=Q3↔a=b)
 |0,_,_,h=>by cases h
 | N + 1,.mk op v s l,.mk op' v' s' l',h=>by
  rw[qU]at h;simp only[aD,aO,dW]at h;obtain⟨hl,ha⟩:=h;rw[bM];unfold Gt
  have no:(Bh (λx0 x1=>gF (bM N x0 x1)) (λx0 x1=>(bM N x0 x1).isSome) (.mk op v s l) (.mk op' v' s' l')).val=Q1 (.inr E4)->¬(zf.mk op v s l=zf.mk op' v' s' l')->
    ∃r,ao [Q7] (Hk (λx0 x1=>gF (bM N x0 x1)) (λx0 x1=>(bM N x0 x1).isSome)) 3000000000 (Bh (λx0 x1=>gF (bM N x0 x1)) (λx0 x1=>(bM N x0 x1).isSome) (.mk op v s l) (.mk op' v' s' l'))=Q1 (r,())/\(r=Q3↔zf.mk op v s l=zf.mk op' v' s' l'):=by
   intro hv hne;exact⟨Q4,zI hv rfl,by simp[hne]⟩
  have hd:∀c:Bool,(bif !op==op' then Q3 else bif !(v.1==v'.1&&(v.2.1==v'.2.1&&(v.2.2==v'.2.2&&Q3)))then Q3 else bif !s==s' then Q3 else(↑l.length:Int)!=(↑l'.length:Int))=c->
    (Bh (λx0 x1=>gF (bM N x0 x1)) (λx0 x1=>(bM N x0 x1).isSome) (.mk op v s l) (.mk op' v' s' l')).val=if c=Q3 then Q1 (.inr E4)else Q1 (.inl (.h4 ((0:Nat):Int) (.mk op v s l,()) (.mk op' v' s' l',()))):=by
   rintro c rfl;rfl
  by_cases e1:op=op';rotate_left
  ·exact no (by rw[hd Q3 (by rw[bU.2 e1];rfl)];rfl) (λh=>e1 (by injection h))
  by_cases e2:v=v';rotate_left
  ·refine no ?_ (λh=>e2 (by injection h));rw[hd Q3 ?_]
   ·rfl
   ·have:(v.1==v'.1&&(v.2.1==v'.2.1&&(v.2.2==v'.2.2&&Q3)))=Q4:=by
     rw[<-gq];intro h;simp at h;exact e2 (Prod.ext h.1 (Prod.ext h.2.1 h.2.2))
    rw[this];cases(op==op')<;>rfl
  by_cases e3:s=s';rotate_left
  ·refine no ?_ (λh=>e3 (by injection h));rw[hd Q3 ?_]
   ·rfl
   ·rw[bU.2 e3];cases(op==op')<;>cases(v.1==v'.1&&(v.2.1==v'.2.1&&(v.2.2==v'.2.2&&Q3)))<;>rfl
  by_cases e4:l.length=l'.length;rotate_left
  ·refine no ?_ (λh=>e4 (by injection h with _ _ _ h;rw[h]));rw[hd Q3 ?_]
   ·rfl
   ·rw[jf.2 e4];cases(op==op')<;>cases(v.1==v'.1&&(v.2.1==v'.2.1&&(v.2.2==v'.2.2&&Q3)))<;>cases(s==s')<;>rfl
  subst e1;subst e2;subst e3;have hv:=hd Q4 (by
   have:((↑l.length:Int)!=(↑l'.length:Int))=Q4:=by rw[<-gq,jf];exact λh=>h e4
   rw[this];simp)
  rw[if_neg sw]at hv
  rcases KE (t:=Hk (λx0 x1=>gF (bM N x0 x1)) (λx0 x1=>(bM N x0 x1).isSome)) (la:=l) (lb:=l') (λi=>.h4 (i:Int) (.mk op v s l,()) (.mk op v s l',())) e4 (by
   intro i hi hi';obtain⟨r,hr,hiff⟩:=BX N l[i] l'[i] (ha _ (bu hi));have g1:getD l (i:Int).toNat (zi Q5)=l[i]:=zO _ _ hi;have g2:getD l' (i:Int).toNat (zi Q5)=l'[i]:=zO _ _ hi';have hval:(Hk (λx0 x1=>gF (bM N x0 x1)) (λx0 x1=>(bM N x0 x1).isSome) (.h4 (i:Int) (.mk op v s l,()) (.mk op v s l',()))).val=if(!r)=Q3 then Q1 (.inr E4)else Q1 (.inl (.h4 ((i+1:Nat):Int) (.mk op v s l,()) (.mk op v s l',()))):=by
    simp only[Hk,Hl,yY,Q8,zf.l,zk,g1,g2,zt hi,zt hi',hr,DF,if_true];rw[zp i um];show(if Q0 ((i:Int)<(l.length:Int))=Q3 then _ else _)=_;rw[if_pos (zu ow)];rfl
   rw[hval];refine⟨λh=>?_,λh=>?_⟩
   ·rw[if_neg (by rw[hiff.2 h];simp)]
   ·rw[if_pos];cases r
    ·rfl
    ·exact absurd (hiff.1 rfl) h)with⟨h1,h2⟩|⟨h1,h2⟩
  ·subst h1;refine⟨Q3,zw hv (h2.ends (zT.of (r:=(.kb Q3,[])) ?_)) ow rfl,sw⟩;simp only[Hk,Hl,yY,Q8,zf.l];exact if_neg sw
  ·exact⟨Q4,zw hv h2 ow rfl,by simp[h1]⟩
theorem qq{a b:zf}(h:qU 16 a=Q3):gE a b=Q3/\(eW a b=Q3↔a=b):=by
 obtain⟨r,h1,h2⟩:=BX 16 a b h;have h1:yA a b=Q1 (r,()):=h1;refine⟨by unfold gE;rw[h1];rfl,?_⟩;have:eW a b=r:=by unfold eW;rw[h1];rfl
 rw[this];exact h2
section
variable {σ:Type} {t:σ->Tr (σ⊕ar)}
def PP(t:σ->Tr (σ⊕ar))(K:Nat)(nx:σ⊕ar)(r:ar):Prop:=match nx with
 |.inl h=>zT t K h r
 |.inr r'=>r'=r
theorem lq{α:Type}{la lb:List α}(st:Int->σ)(nx:σ⊕ar)(e:Nat->Bool)(hval:∀i:Nat,i<=la.length->(t (st i)).val=if Q0 (LT.lt (α:=Int) (i:Int) (la.length:Int))=Q3 then(if zN (i:Int) la.length=Q3 then(if zN (i:Int) lb.length=Q3 then(if(!e i)=Q3 then Q1 (.inr E4)else Q1 (.inl (st (IntKind.i64.wrap ((i:Int)+1)))))else Q2)else Q2)else Q1 nx)
  (he:∀i(_:i<la.length)(ha:i<la.length)(hb:i<lb.length),e i=Q3↔la[i]=lb[i]) (hlen:la.length=lb.length) (hm:la.length<=1000000):
  (la=lb/\∀K r,PP t K nx r->zT t (K+la.length+1) (st 0) r)\/(la≠lb/\zT t la.length (st 0) E4):=by
 rcases KE (t:=t) (la:=la) (lb:=lb) (λi=>st (i:Int)) hlen (λi ha hb=>by
  have hv:=hval i ow;rw[if_pos (zu ow),if_pos (zt ha),if_pos (zt hb),zp i um]at hv;have:=he i ha ha hb;refine⟨λh=>?_,λh=>?_⟩
  ·rw[hv,if_neg (by rw[this.2 h];simp)]
  ·rw[hv,if_pos];cases hh:e i
   ·rfl
   ·exact absurd (this.1 hh) h)with⟨h1,h2⟩|⟨h1,h2⟩
 ·refine .inl ⟨h1,λK r hr=>?_⟩;have hv:=hval la.length (az _);rw[if_neg sw]at hv;unfold PP at hr;cases nx with
  |inl h=>exact(h2.ends ((zP.of hv).ends hr)).mono ow
  |inr r'=>cases hr;exact(h2.ends (zT.of hv)).mono ow
 ·exact .inr ⟨h1,h2⟩
end
theorem Qx(a b:Sem zj):(a.1==b.1&&(a.2.1==b.2.1&&(a.2.2==b.2.2&&Q3)))=Q3↔a=b:=by
 simp[Prod.ext_iff]
theorem zjN(a b:Sem iK):(a.1==b.1&&(a.2==b.2&&Q3))=Q3↔a=b:=by
 simp[Prod.ext_iff]
theorem zbP(a b:Sem zr):(a.1==b.1&&(a.2==b.2&&Q3))=Q3↔a=b:=by
 simp[Prod.ext_iff]
theorem zdr(a b:Sem ze):(a.1==b.1&&(a.2.1==b.2.1&&(a.2.2==b.2.2&&Q3)))=Q3↔a=b:=by
 simp[Prod.ext_iff]
theorem Th{x y:Bool}(h:(bif x then Q3 else y)=Q4):x=Q4/\y=Q4:=by
 cases x
 ·exact⟨rfl,h⟩
 ·cases h
theorem SO{α:Type}[BEq α][LawfulBEq α]{a b:α}(h:(!a==b)=Q4):a=b:=by
 cases hh:(a==b)
 ·rw[hh]at h;cases h
 ·simpa using hh
theorem O0{α:Type}{a b:List α}(h:((↑(length a):Int)!=(↑(length b):Int))=Q4):a.length=b.length:=by
 simp[bne]at h;omega
structure Ac (a:Sem zl):Prop where
 names:a.2.2.2.1.length<=1000
 cols:a.t.1.length<=1000
 uniques:a.t.q.1.length<=1000
 refs:a.t.q.2.1.length<=1000
 row:a.t.t.2.1.length<=1000
 sets:a.t.t.q.1.length<=1000
 chk:qU 16 a.t.t.1=Q3
 whr:qU 16 a.t.t.q.2.1=Q3
 ex:∀x∈a.t.t.q.1,qU 16 (x:Sem g6).2=Q3
theorem Lz{a b:Sem zl}(h:Ac a):∃r,qC a b=Q1 (r,())/\(r=Q3↔a=b):=by
 obtain⟨a1,a2,a3,a4,a5,a6,a7,a8,a9,a10,a11,a12,a13⟩:=a;obtain⟨b1,b2,b3,b4,b5,b6,b7,b8,b9,b10,b11,b12,b13⟩:=b;obtain⟨h4,h5,h7,h8,h10,h11,h9,h12,hx⟩:=h;have h4:a4.length<=1000:=h4;have h5:a5.length<=1000:=h5;have h7:a7.length<=1000:=h7;have h8:a8.length<=1000:=h8;have h10:a10.length<=1000:=h10;have h11:a11.length<=1000:=h11;have hx:∀x∈a11,qU 16 (x:Sem g6).2=Q3:=hx;obtain⟨s1,s2⟩:=qq (b:=b9) (show qU 16 a9=Q3 from h9);obtain⟨u1,u2⟩:=qq (b:=b12) (show qU 16 a12=Q3 from h12);generalize hA:((a1,a2,a3,a4,a5,a6,a7,a8,a9,a10,a11,a12,a13):Sem zl)=A;generalize hB:((b1,b2,b3,b4,b5,b6,b7,b8,b9,b10,b11,b12,b13):Sem zl)=B;have hne:∀r:ar,∀{k s},(Wn A B).val=Q1 (.inl s)->A≠B->zT sI k s E4->k<=100000000->∃r,qC A B=Q1 (r,())/\(r=Q3↔A=B):=by
  intro _ k s h1 h h2 h3;exact⟨Q4,zw h1 h2 h3 rfl,by simp[h]⟩
 have hv:∀c d:Bool,(bif !a1==b1 then Q3 else bif !a2==b2 then Q3 else bif !a3==b3 then Q3 else bif !a6==b6 then Q3 else bif !a13==b13 then Q3 else bif !eW a9 b9 then Q3 else !eW a12 b12)=c->
   (bif (↑(length a4):Int)!=(↑(length b4):Int)then Q3 else bif (↑(length a5):Int)!=(↑(length b5):Int)then Q3 else bif (↑(length a7):Int)!=(↑(length b7):Int)then Q3 else bif (↑(length a8):Int)!=(↑(length b8):Int)then Q3 else bif (↑(length a10):Int)!=(↑(length b10):Int)then Q3 else(↑(length a11):Int)!=(↑(length b11):Int))=d->
   (Wn A B).val=if c=Q3 then Q1 (.inr E4)else if d=Q3 then Q1 (.inr E4)else Q1 (.inl (.h6 0 (A,()) (B,()))):=by
  rintro c d rfl rfl;subst hA;subst hB;have hg:∀x:Bool,(bif !a1==b1 then Q3 else bif !a2==b2 then Q3 else bif !a3==b3 then Q3 else bif !a6==b6 then Q3 else bif !a13==b13 then Q3 else gE a9 b9&&bif x then Q3 else gE a12 b12)=Q3:=by
   intro x;rw[s1,u1];cases(!a1==b1)<;>cases(!a2==b2)<;>cases(!a3==b3)<;>cases(!a6==b6)<;>cases(!a13==b13)<;>cases x<;>rfl
  simp only[Wn,Q8,zk];rw[if_pos (hg _)]
 cases hc:(bif !a1==b1 then Q3 else bif !a2==b2 then Q3 else bif !a3==b3 then Q3 else bif !a6==b6 then Q3 else bif !a13==b13 then Q3 else bif !eW a9 b9 then Q3 else !eW a12 b12);rotate_left
 ·refine⟨Q4,zI (r:=E4) (by rw[hv Q3 _ hc rfl];rfl) rfl,?_⟩;constructor
  ·intro h;cases h
  ·intro h;rw[<-hA,<-hB]at h;simp only[cv]at h;obtain⟨rfl,rfl,rfl,rfl,rfl,rfl,rfl,rfl,rfl,rfl,rfl,rfl,rfl⟩:=h;have k1:=s2.2 rfl;have k2:=u2.2 rfl;rw[k1,k2]at hc;simp at hc
 cases hd:(bif (↑(length a4):Int)!=(↑(length b4):Int)then Q3 else bif (↑(length a5):Int)!=(↑(length b5):Int)then Q3 else bif (↑(length a7):Int)!=(↑(length b7):Int)then Q3 else bif (↑(length a8):Int)!=(↑(length b8):Int)then Q3 else bif (↑(length a10):Int)!=(↑(length b10):Int)then Q3 else(↑(length a11):Int)!=(↑(length b11):Int));rotate_left
 ·refine⟨Q4,zI (r:=E4) (by rw[hv Q4 Q3 hc hd];rfl) rfl,?_⟩;constructor
  ·intro h;cases h
  ·intro h;rw[<-hA,<-hB]at h;simp only[cv]at h;obtain⟨rfl,rfl,rfl,rfl,rfl,rfl,rfl,rfl,rfl,rfl,rfl,rfl,rfl⟩:=h;simp at hd
 have hi:=hv Q4 Q4 hc hd;rw[if_neg sw,if_neg sw]at hi;obtain⟨m1,hc⟩:=Th hc;obtain⟨m2,hc⟩:=Th hc;obtain⟨m3,hc⟩:=Th hc;obtain⟨m6,hc⟩:=Th hc;obtain⟨m13,hc⟩:=Th hc;obtain⟨m9,m12⟩:=Th hc;obtain⟨n4,hd⟩:=Th hd;obtain⟨n5,hd⟩:=Th hd;obtain⟨n7,hd⟩:=Th hd;obtain⟨n8,hd⟩:=Th hd;obtain⟨n10,n11⟩:=Th hd;have e1:=SO m1;have e2:=SO m2;have e3:=SO m3;have e6:=SO m6;have e13:=SO m13;have e9:=s2.1 (by simpa using m9);have e12:=u2.1 (by simpa using m12);subst e1;subst e2;subst e3;subst e6;subst e13;subst e9;subst e12;have no:∀{k},A≠B->zT sI k (.h6 0 (A,()) (B,())) E4->k<=100000000->∃r,qC A B=Q1 (r,())/\(r=Q3↔A=B):=λh1 h2 h3=>hne E4 hi h1 h2 h3
 rcases lq (t:=sI) (la:=a4) (lb:=b4) (λi=>.h6 i (A,()) (B,())) (.inl (.h11 0 (A,()) (B,()))) (λi=>getD a4 (i:Int).toNat (zi Q6)==getD b4 (i:Int).toNat (zi Q6)) (λ_ _=>by subst hA;subst hB;rfl) (λi _ ha hb=>by rw[ba,zO _ _ ha,zO _ _ hb]) (O0 n4) ow with⟨q4,k4⟩|⟨q4,k4⟩;rotate_left
 ·exact no (λh=>q4 (by rw[<-hA,<-hB]at h;simp only[cv]at h;exact h.2.2.2.1)) k4 ow
 rcases lq (t:=sI) (la:=a5) (lb:=b5) (λi=>.h11 i (A,()) (B,())) (.inl (.h16 0 (A,()) (B,()))) (λi=>((getD a5 (i:Int).toNat (zi zj)).1==(getD b5 (i:Int).toNat (zi zj)).1&&((getD a5 (i:Int).toNat (zi zj)).2.1==(getD b5 (i:Int).toNat (zi zj)).2.1&&((getD a5 (i:Int).toNat (zi zj)).2.2==(getD b5 (i:Int).toNat (zi zj)).2.2&&Q3)))) (λ_ _=>by subst hA;subst hB;rfl) (λi _ ha hb=>by rw[Qx,zO _ _ ha,zO _ _ hb]) (O0 n5) ow with⟨q5,k5⟩|⟨q5,k5⟩;rotate_left
 ·exact no (λh=>q5 (by rw[<-hA,<-hB]at h;simp only[cv]at h;exact h.t.1)) (k4 _ _ k5) ow
 rcases lq (t:=sI) (la:=a7) (lb:=b7) (λi=>.h16 i (A,()) (B,())) (.inl (.h21 0 (A,()) (B,()))) (λi=>getD a7 (i:Int).toNat (zi Q6)==getD b7 (i:Int).toNat (zi Q6)) (λ_ _=>by subst hA;subst hB;rfl) (λi _ ha hb=>by rw[ba,zO _ _ ha,zO _ _ hb]) (O0 n7) ow with⟨q7,k7⟩|⟨q7,k7⟩;rotate_left
 ·exact no (λh=>q7 (by rw[<-hA,<-hB]at h;simp only[cv]at h;exact h.t.q.1)) (k4 _ _ (k5 _ _ k7)) ow
 rcases lq (t:=sI) (la:=a8) (lb:=b8) (λi=>.h21 i (A,()) (B,())) (.inl (.h26 0 (A,()) (B,()))) (λi=>((getD a8 (i:Int).toNat (zi iK)).1==(getD b8 (i:Int).toNat (zi iK)).1&&((getD a8 (i:Int).toNat (zi iK)).2==(getD b8 (i:Int).toNat (zi iK)).2&&Q3))) (λ_ _=>by subst hA;subst hB;rfl) (λi _ ha hb=>by rw[zjN,zO _ _ ha,zO _ _ hb]) (O0 n8) ow with⟨q8,k8⟩|⟨q8,k8⟩;rotate_left
 ·exact no (λh=>q8 (by rw[<-hA,<-hB]at h;simp only[cv]at h;exact h.t.q.2.1)) (k4 _ _ (k5 _ _ (k7 _ _ k8))) ow
 rcases lq (t:=sI) (la:=a10) (lb:=b10) (λi=>.h26 i (A,()) (B,())) (.inl (.h31 0 (A,()) (B,()))) (λi=>((getD a10 (i:Int).toNat (zi ze)).1==(getD b10 (i:Int).toNat (zi ze)).1&&((getD a10 (i:Int).toNat (zi ze)).2.1==(getD b10 (i:Int).toNat (zi ze)).2.1&&((getD a10 (i:Int).toNat (zi ze)).2.2==(getD b10 (i:Int).toNat (zi ze)).2.2&&Q3)))) (λ_ _=>by subst hA;subst hB;rfl) (λi _ ha hb=>by rw[zdr,zO _ _ ha,zO _ _ hb]) (O0 n10) ow with⟨q10,k10⟩|⟨q10,k10⟩;rotate_left
 ·exact no (λh=>q10 (by rw[<-hA,<-hB]at h;simp only[cv]at h;exact h.t.t.2.1)) (k4 _ _ (k5 _ _ (k7 _ _ (k8 _ _ k10)))) ow
 have l11:=O0 n11
 rcases KE (t:=sI) (la:=a11) (lb:=b11) (λi=>.h31 (i:Int) (A,()) (B,())) l11 (λi ha hb=>by
  obtain⟨w1,w2⟩:=qq (a:=a11[i].2) (b:=b11[i].2) (hx _ (bu ha));have hval:(sI (.h31 (i:Int) (A,()) (B,()))).val=if(bif !a11[i].1==b11[i].1 then Q3 else !eW a11[i].2 b11[i].2)=Q3 then Q1 (.inr E4)else Q1 (.inl (.h31 ((i+1:Nat):Int) (A,()) (B,()))):=by
   subst hA;subst hB;show(sI (.h31 _ _ _)).val=_;simp only[sI,Q8,zk,zO _ _ ha,zO _ _ hb,zH ha,zt ha,zt hb,w1,if_true,dH];rw[zp i um];cases(!a11[i].1==b11[i].1)<;>rfl
  refine⟨λh=>?_,λh=>?_⟩
  ·have k:=w2.2 (by rw[h]);rw[hval,if_neg (by rw[k,h];simp)]
  ·rw[hval,if_pos];cases hh:(a11[i].1==b11[i].1)
   ·rfl
   ·cases hw:eW a11[i].2 b11[i].2
    ·rfl
    ·exact absurd (Prod.ext (by simpa using hh) (w2.1 hw)) h)with⟨q11,k11⟩|⟨q11,k11⟩
 rotate_left
 ·exact no (λh=>q11 (by rw[<-hA,<-hB]at h;simp only[cv]at h;exact h.t.t.q.1)) (k4 _ _ (k5 _ _ (k7 _ _ (k8 _ _ (k10 _ _ k11))))) ow
 have hend:(sI (.h31 (a11.length:Int) (A,()) (B,()))).val=Q1 (.inr (.kb Q3,[])):=by
  subst hA;subst hB;show(sI (.h31 _ _ _)).val=_;simp only[sI,Q8,zA];rfl
 refine⟨Q3,zw hi (k4 _ _ (k5 _ _ (k7 _ _ (k8 _ _ (k10 _ _ (k11.ends (zT.of hend))))))) ow rfl,?_⟩;subst q4;subst q5;subst q7;subst q8;subst q10;subst q11;rw[<-hA,<-hB];simp
theorem qD{a b:Sem zl}(h:Ac a):yJ a b=Q3/\(eX a b=Q3↔a=b):=by
 obtain⟨r,h1,h2⟩:=Lz (b:=b) h;refine⟨by unfold yJ;rw[h1];rfl,?_⟩;have:eX a b=r:=by unfold eX;rw[h1];rfl
 rw[this];exact h2
theorem j4{e:zf}:gR e=Q3↔e=.mk [] (0,0,[]) [] []:=by
 obtain⟨op,⟨k,i,t⟩,s,l⟩:=e;unfold gR;show(bif op==[]then bif k==0&&(i==0&&(t==[]&&Q3))then bif s==[]then(↑l.length:Int)==0 else Q4 else Q4 else Q4)=Q3↔_;simp only[zf.mk.injEq,cv];constructor
 ·intro h;obtain⟨h1,h⟩:=cn h;obtain⟨h2,h⟩:=cn h;obtain⟨h3,h⟩:=cn h;simp at h1 h2 h3 h;exact⟨h1,h2,h3,h⟩
 ·rintro⟨rfl,⟨rfl,rfl,rfl⟩,rfl,rfl⟩;rfl
theorem QP{e:zf}(h:dc e=Q3):(e.op==[])=Q4:=by
 have f:=fA (kx h);clear h;cases f with
 |lit v hv=>rfl
 |col s hs hr=>rfl
 |one op a ho ha=>rcases ho with rfl|rfl<;>rfl
 |two op a b ho ha hb=>rcases ho with rfl|rfl|rfl|rfl|rfl|rfl<;>rfl
theorem QQ{e:zf}(h:dc e=Q3):nE 12 e<=60:=by
 rw[vo]at h;by_cases k:nE 12 e<=60
 ·exact k
 ·exfalso;rw[aj k]at h;cases ch 12 e<;>simp at h
theorem Jn{e:zf}(hw:rL e)(h:dc e=Q3):qr e=Q3/\pi e=aP 16 e/\(aP 16 e).length<=24000:=by
 obtain⟨h1,h2⟩:=qt 16 12 16 e ow ow ow (kx h) hw;have h1:Gu e=Q1 (aP 16 e,()):=h1;have h3:=QQ h;refine⟨by unfold qr;rw[h1];rfl,by unfold pi;rw[h1];rfl,ow⟩
def oH(w:zB)(e:zf):zB:=if(e.op==[])=Q3 then[]else if dc e=Q3 then(if(w==[87,72,69,82,69])=Q3 then[32,87,72,69,82,69,32]++aP 16 e else w++[32,67,72,69,67,75,32,40,32]++aP 16 e++[32,41])else[]
theorem Pj{e:zf}(hw:rL e)(hc:qU 16 e=Q3){w:zB}(hl:w.length<=1000):yK e w=Q1 (oH w e,bR e,())/\(oH w e).length<=30000:=by
 unfold oH;by_cases h0:(e.op==[])=Q3
 ·rw[if_pos h0];obtain⟨s1,s2⟩:=qq (b:=.mk [] (0,0,[]) [] []) hc;have hm:dc e=Q4:=by
   cases h:dc e
   ·rfl
   ·rw[QP h]at h0;cases h0
  have he:eW e (.mk [] (0,0,[]) [] [])=bR e:=by
   unfold bR;rw[hm];apply ig.2;rw[s2,<-j4];cases gR e<;>simp
  refine⟨zI (r:=(.tup [.str [],.bool (bR e)],[])) ?_ rfl,sw⟩;simp only[IF,Q8,zk,h0,s1,he,if_true]
 ·rw[if_neg h0];have hn:gR e=Q4:=by
   cases h:gR e
   ·rfl
   ·rw[j4.1 h]at h0;exact absurd rfl h0
  have hmb:bR e=dc e:=by unfold bR;rw[hn];rfl
  have h0:(e.op==[])=Q4:=by simpa using h0
  rw[hmb];by_cases hm:dc e=Q3
  ·obtain⟨t1,t2,t3⟩:=Jn hw hm;rw[if_pos hm,hm];by_cases hwh:(w==[87,72,69,82,69])=Q3
   ·rw[if_pos hwh];refine⟨zI (r:=(.tup [.str ([32,87,72,69,82,69,32]++aP 16 e),.kb Q3],[])) ?_ rfl,sg⟩;simp only[IF,Q8,zk,h0,ms hw,qo hw,hm,hwh,t1,t2,if_true];rw[if_neg sw,if_neg sw,if_pos (zu sg)]
   ·rw[if_neg hwh];have hwh:(w==[87,72,69,82,69])=Q4:=by simpa using hwh
    refine⟨zI (r:=(.tup [.str (w++[32,67,72,69,67,75,32,40,32]++aP 16 e++[32,41]),.kb Q3],[])) ?_ rfl,sg⟩;simp only[IF,Q8,zk,h0,ms hw,qo hw,hm,hwh,t1,t2,if_true];rw[if_neg sw,if_neg sw,if_neg sw,if_pos (zu sg),if_pos (zu sg),if_pos (zu sg)]
  ·rw[if_neg hm];have hm:dc e=Q4:=by simpa using hm
   rw[hm];refine⟨zI (r:=(.tup [.str [],.kb Q4],[])) ?_ rfl,sw⟩;simp only[IF,Q8,zk,h0,ms hw,qo hw,hm,if_true];rfl
theorem bh{e:zf}(hw:rL e)(hc:qU 16 e=Q3){w:zB}(hl:w.length<=1000):un e w=Q3/\Ce e w=(oH w e,bR e)/\(oH w e).length<=30000:=by
 obtain⟨h1,h2⟩:=Pj hw hc hl;exact⟨by unfold un;rw[h1];rfl,by unfold Ce;rw[h1];rfl,h2⟩
theorem Ay{e:zf}(h:bR e=Q3):ko [32] e=oH [] e:=by
 unfold ko oH;unfold bR at h;cases hn:gR e
 ·rw[hn]at h;have hm:dc e=Q3:=h;rw[if_neg sw,if_neg (by rw[QP hm];simp),if_pos hm];unfold iD mZ;rw[hm];rfl
 ·rw[if_pos rfl];rw[j4.1 hn];rfl
theorem EA(sep x:zB):∀l:List zB,Lib.join (l++[x]) sep=if l=[]then x else Lib.join l sep++sep++x
 |[]=>by rw[if_pos rfl];exact Lib.join_one x sep
 |[a]=>by simp[Lib.join,List.intercalate,List.intersperse]
 | a::b::r=>by
  have ih:=EA sep x (b::r);rw[if_neg sw]at ih⊢;have e1:∀(c:zB)(q:List zB),Lib.join (a::c::q) sep=a++sep++Lib.join (c::q) sep:=λc q=>by simp[Lib.join,List.intercalate,List.intersperse]
  show Lib.join (a::b::(r++[x])) sep=_;rw[e1,e1];rw[show b::(r++[x])=(b::r)++[x]from rfl,ih];simp
theorem LD{l:List zB}(hl:l.length<=100)(hs:∀x∈l,length x<=1000):∃t,uo l=Q1 (t,(Q0 (∀x∈l,zL x=Q3)&&(Q0 (1<=l.length)&&Q0 (l.length<=8))),())/\t.length<=200000/\((∀x∈l,zL x=Q3)->t=Lib.join l [32,44,32]):=by
 have hjl:∀i,i<=l.length->(Lib.join (l.take i) [32,44,32]).length<=110000:=by
  intro i hi;have:=tI [32,44,32] 1000 (l.take i) (λx hx=>hs x (List.mem_of_mem_take hx));have h2:(l.take i).length<=100:=by simp;omega
  have h3:=gQ (1000+([32,44,32]:zB).length) h2;simp at this h3⊢;omega
 have hstep:∀i(hi:i<l.length),(CF (.h3 l (Lib.join (l.take i) [32,44,32]) (i:Int))).val=if zL l[i]=Q3 then Q1 (.inl (.h3 l (Lib.join (l.take (i+1)) [32,44,32]) ((i+1:Nat):Int)))else Q1 (.inr (.tup [.str [],.kb Q4],[])):=by
  intro i hi;have hx:=hs _ (bu hi);have hj:=hjl i ow;show(CF (.h3 _ _ _)).val=_;simp only[CF,Q8,zO _ _ hi,zH hi,zt hi,bv (s:=l[i]) ow,eQ (s:=l[i]) ow,if_true];rw[zp i um,Zz hi,EA];by_cases hn:zL l[i]=Q3
  ·rw[if_neg (by rw[hn];simp),if_pos hn];by_cases h0:i=0
   ·subst h0;rw[if_neg sw,if_pos (zu (by simp[Lib.join_nil];omega)),if_pos sw];rfl
   ·rw[if_pos (zu ow),if_pos (zu sg),if_pos (zu sg),if_neg (by
     intro h;have:=congrArg length h;simp at this;rcases this with h|h
     ·exact h0 h
     ·rw[h]at hi;simp at hi)]
  ·rw[if_pos (by simpa using hn),if_neg hn]
 rcases lI (t:=CF) (Φ:=λr=>r=(.tup [.str [],.kb Q4],[])) 1 (λi=>.h3 l (Lib.join (l.take i) [32,44,32]) (i:Int)) (λi=>∀h:i<l.length,zL l[i]=Q3) l.length (λi hi _=>by
  by_cases hn:zL l[i]=Q3
  ·exact .inl ⟨λ_=>hn,zP.of (by rw[hstep i hi,if_pos hn])⟩
  ·exact .inr ⟨λh=>hn (h hi),_,zT.of (by rw[hstep i hi,if_neg hn]),rfl⟩)with⟨h1,h2⟩|⟨h1,r,h2,rfl⟩
 ·have hall:∀x∈l,zL x=Q3:=by
   intro x hx;obtain⟨j,hj,rfl⟩:=gn hx;exact h1 j hj hj
  rw[jN]at h2;have hj:=hjl l.length (az _);rw[jN]at hj;refine⟨Lib.join l [32,44,32],zw (s:=.h3 l [] 0) rfl (h2.ends (zT.of (r:=(.tup [.str (Lib.join l [32,44,32]),.bool (bif Q0 (1<=(↑l.length:Int))then Q0 ((↑l.length:Int)<=8)else Q4)],[])) ?_)) ow ?_,ow,λ_=>rfl⟩
  ·show(CF (.h3 _ _ _)).val=_;simp only[CF,Q8,zA];cases Q0 (1<=(↑l.length:Int))<;>rfl
  ·rw[zu hall];have e1:Q0 (1<=(↑l.length:Int))=Q0 (1<=l.length):=by
    by_cases h:1<=l.length
    ·rw[zu h];exact zu ow
    ·rw[aj h];exact aj ow
   have e2:Q0 ((↑l.length:Int)<=8)=Q0 (l.length<=8):=by
    by_cases h:l.length<=8
    ·rw[zu h];exact zu ow
    ·rw[aj h];exact aj ow
   rw[e1,e2];cases Q0 (1<=l.length)<;>cases Q0 (l.length<=8)<;>rfl
 ·have hne:¬∀x∈l,zL x=Q3:=λh=>h1 λi _ hi=>h _ (bu hi)
  refine⟨[],zw (s:=.h3 l [] 0) rfl h2 ow ?_,sw,λh=>absurd h hne⟩;rw[aj hne];rfl
structure oo (s:Sem zl):Prop where
 sh:lK s
 chk:rL s.t.t.1
 whr:rL s.t.t.q.2.1
 cchk:qU 16 s.t.t.1=Q3
 cwhr:qU 16 s.t.t.q.2.1=Q3
 row:∀v∈s.t.t.2.1,lL v
 sets:∀x∈s.t.t.q.1,rL (x:Sem g6).2/\qU 16 (x:Sem g6).2=Q3
def zbt(B:Nat)(r:ar):Prop:=∃(tx:zB)(b:Bool),aM r.2 [Q6,Q7] r.1=Q1 (tx,b,())/\tx.length<=B
theorem zkp{s:Sem zl}(h:oo s)(b4:Bool)(s5:zB)(hs:s5.length<=60000)(n:Nat)(hn:30<=n):∃r,cU fk n (.h20 b4 s5 0 (s,()))=Q1 r/\zbt 200000 r:=by
 have hl:=h.sh.refs.1;refine di (t:=fk) (β:=Bool×zB) s.t.q.2.1.length (λb i=>.h20 b.1 b.2 (i:Int) (s,())) (λb i=>b.2.length<=60000+2100*i) _ 1 ?_ ?_ s.t.q.2.1.length 0 (b4,s5) n rfl (aZ _) (by simpa using hs) ow
 ·rintro⟨b,x⟩ i hi hI;have hI:x.length<=60000+2100*i:=hI;obtain⟨r1,r2⟩:=h.sh.refs.2 _ (bu hi);have g:getD s.t.q.2.1 (i:Int).toNat (zi iK)=s.t.q.2.1[i]:=zO _ _ hi;generalize s.t.q.2.1[i]=f at g r1 r2;refine .inl ⟨(bif b then bif bp f.1 then bp f.2 else Q4 else Q4,x++([32,44,32,82,69,70,69,82,69,78,67,69,83,32,40,32]++f.1++[32,41,32]++f.2)),sg,?_⟩;show(fk (.h20 _ _ _ _)).val=_;simp only[fk,Q8,g,zH hi,zt hi,bv (s:=f.1) ow,bv (s:=f.2) ow,if_true];rw[zp i um,if_pos (by cases b<;>cases bp f.1<;>rfl),if_pos (zu sg),if_pos (zu sg),if_pos (zu sg),if_pos (zu sg)]
 ·rintro⟨b,x⟩ n hI hn;have hI:x.length<=60000+2100*s.t.q.2.1.length:=hI;obtain⟨n,rfl⟩:∃k,n=k+1:=⟨n-1,ow⟩;obtain⟨c1,c2,c3⟩:=bh h.chk h.cchk (w:=[32,44]) sw;have hv:(fk (.h20 b x (s.t.q.2.1.length:Int) (s,()))).val=Q1 (.inr (.tup [.str (x++oH [32,44] s.t.t.1++[32,41]),.bool (bif b then bR s.t.t.1 else Q4)],[])):=by
   show(fk (.h20 _ _ _ _)).val=_;simp only[fk,Q8,zk,zA,c1,c2,if_true]
   rw[if_neg sw,if_pos (by
    have:x.length+(oH [32,44] s.t.t.1).length<=200000:=by omega
    simp;omega)]
   cases b<;>rfl
  rw[cD,hv];exact⟨_,rfl,_,_,rfl,sg⟩
theorem zko{s:Sem zl}(h:oo s)(b4:Bool)(s5:zB)(hs:s5.length<=30000)(n:Nat)(hn:60<=n):∃r,cU fk n (.h15 b4 s5 0 (s,()))=Q1 r/\zbt 200000 r:=by
 have hl:=h.sh.uniques.1;refine di (t:=fk) (β:=Bool×zB) s.t.q.1.length (λb i=>.h15 b.1 b.2 (i:Int) (s,())) (λb i=>b.2.length<=30000+1100*i) _ 31 ?_ ?_ s.t.q.1.length 0 (b4,s5) n rfl (aZ _) (by simpa using hs) ow
 ·rintro⟨b,x⟩ i hi hI;have hI:x.length<=30000+1100*i:=hI;have r1:=h.sh.uniques.2 _ (bu hi);have g:getD s.t.q.1 (i:Int).toNat (zi Q6)=s.t.q.1[i]:=zO _ _ hi;generalize s.t.q.1[i]=f at g r1;refine .inl ⟨(bif b then bp f else Q4,x++([32,44,32,85,78,73,81,85,69,32,40,32]++f++[32,41])),sg,?_⟩;show(fk (.h15 _ _ _ _)).val=_;simp only[fk,Q8,g,zH hi,zt hi,bv (s:=f) ow,if_true];rw[zp i um,if_pos (by cases b<;>rfl),if_pos (zu sg),if_pos (zu sg),if_pos (zu sg)]
 ·rintro⟨b,x⟩ n hI hn;have hI:x.length<=30000+1100*s.t.q.1.length:=hI;obtain⟨n,rfl⟩:∃k,n=k+1:=⟨n-1,ow⟩;have hv:(fk (.h15 b x (s.t.q.1.length:Int) (s,()))).val=Q1 (.inl (.h20 b x 0 (s,()))):=by
   show(fk (.h15 _ _ _ _)).val=_;simp only[fk,Q8,zA];rfl
  rw[cD,hv];exact zkp h b x ow n ow
theorem cr4{s:Sem zl}(h:oo s)(b4:Bool)(s5:zB)(hs:s5.length<=2000)(n:Nat)(hn:100<=n):∃r,cU fk n (.h4 b4 s5 0 (s,()))=Q1 r/\zbt 200000 r:=by
 have hl:=h.sh.cols.1;have hk:=h.sh.key;refine di (t:=fk) (β:=zB) s.t.1.length (λb i=>.h4 b4 b (i:Int) (s,())) (λb i=>b.length<=2000+1100*i) _ 61 ?_ ?_ s.t.1.length 0 s5 n rfl (aZ _) (by simpa using hs) ow
 ·intro x i hi hI;have r1:=h.sh.cols.2 _ (bu hi);have g:getD s.t.1 (i:Int).toNat (zi zj)=s.t.1[i]:=zO _ _ hi;generalize s.t.1[i]=f at g r1
  have hv:((fk (.h4 b4 x (i:Int) (s,()))).val=if(bif !bp f.1 then Q3 else bif Q0 (LT.lt (α:=Int) f.2.1 1)then Q3 else Q0 (GT.gt (α:=Int) f.2.1 3))=Q3 then Q1 (.inr (.tup [.str [],.kb Q4],[]))else
    Q1 (.inl (.h4 b4 ((if f.2.2=Q3 then x++(f.1++[32]++[[],[73,78,84],[84,69,88,84],[66,79,79,76]].getD (toNat f.2.1) (zi Q6))++[32,78,79,84,32,78,85,76,76]else x++(f.1++[32]++[[],[73,78,84],[84,69,88,84],[66,79,79,76]].getD (toNat f.2.1) (zi Q6)))++[32,44,32]) ((i+1:Nat):Int) (s,()))))/\
    (¬(bif !bp f.1 then Q3 else bif Q0 (LT.lt (α:=Int) f.2.1 1)then Q3 else Q0 (GT.gt (α:=Int) f.2.1 3))=Q3->([[],[73,78,84],[84,69,88,84],[66,79,79,76]].getD (toNat f.2.1) (zi Q6)).length<=4):=by
   have hgt:¬(bif !bp f.1 then Q3 else bif Q0 (LT.lt (α:=Int) f.2.1 1)then Q3 else Q0 (GT.gt (α:=Int) f.2.1 3))=Q3->zN f.2.1 4=Q3/\([[],[73,78,84],[84,69,88,84],[66,79,79,76]].getD (toNat f.2.1) (zi Q6)).length<=4:=by
    intro hc;have h1:¬LT.lt (α:=Int) f.2.1 1:=by
     intro h1;rw[zu h1]at hc;cases h2:(!bp f.1)<;>rw[h2]at hc<;>exact hc rfl
    have h3:¬GT.gt (α:=Int) f.2.1 3:=by
     intro h1;rw[zu h1]at hc;cases h2:(!bp f.1)<;>rw[h2]at hc<;>cases h4:Q0 (LT.lt (α:=Int) f.2.1 1)<;>rw[h4]at hc<;>exact hc rfl
    have h4:@Eq Int f.2.1 1\/@Eq Int f.2.1 2\/@Eq Int f.2.1 3:=by omega
    rcases h4 with h4|h4|h4<;>rw[h4]<;>exact⟨rfl,by decide⟩
   refine⟨?_,λhc=>(hgt hc).2⟩;show(fk (.h4 _ _ _ _)).val=_;simp only[fk,Q8,g,zH hi,zt hi,bv (s:=f.1) ow,if_true];by_cases hc:(bif !bp f.1 then Q3 else bif Q0 (LT.lt (α:=Int) f.2.1 1)then Q3 else Q0 (GT.gt (α:=Int) f.2.1 3))=Q3
   ·rw[if_pos hc,if_pos hc]
   ·obtain⟨k1,k2⟩:=hgt hc;rw[if_neg hc,if_neg hc,if_pos (zu sg)];refine(if_pos k1).trans ?_;generalize[[],[73,78,84],[84,69,88,84],[66,79,79,76]].getD (toNat f.2.1) (zi Q6)=ty at k2;rw[if_pos (zu sg),if_pos (zu sg),zp i um];by_cases hn:f.2.2=Q3
    ·rw[if_pos hn,if_pos hn,if_pos (zu sg),if_pos (zu sg)]
    ·rw[if_neg hn,if_neg hn,if_pos (zu sg)]
  obtain⟨hv,hty⟩:=hv;by_cases hc:(bif !bp f.1 then Q3 else bif Q0 (LT.lt (α:=Int) f.2.1 1)then Q3 else Q0 (GT.gt (α:=Int) f.2.1 3))=Q3
  ·rw[if_pos hc]at hv;exact .inr ⟨_,hv,[],Q4,rfl,sw⟩
  ·rw[if_neg hc]at hv;have:=hty hc;generalize[[],[73,78,84],[84,69,88,84],[66,79,79,76]].getD (toNat f.2.1) (zi Q6)=ty at hv this;refine .inl ⟨_,?_,hv⟩;split<;>simp<;>omega
 ·intro x n hI hn;obtain⟨n,rfl⟩:∃k,n=k+1:=⟨n-1,ow⟩;have hv:(fk (.h4 b4 x (s.t.1.length:Int) (s,()))).val=Q1 (.inl (.h15 b4 (x++([75,69,89,32,40,32]++s.t.2.1++[32,41])) 0 (s,()))):=by
   show(fk (.h4 _ _ _ _)).val=_;simp only[fk,Q8,zA];rw[if_neg sw,if_pos (zu sg),if_pos (zu sg),if_pos (zu sg)]
  rw[cD,hv];exact zko h b4 _ sg n ow
theorem Jr{s:Sem zl}(h:oo s):∃(tx:zB)(b:Bool),mu s=Q1 (tx,b,())/\tx.length<=200000:=by
 have ht:=h.sh.table;have hk:=h.sh.key;have hv:∃b4,(RQ s).val=Q1 (.inl (.h4 b4 ([67,82,69,65,84,69,32,84,65,66,76,69,32]++s.2.1++[32,40,32]) 0 (s,()))):=by
  refine⟨(bif bp s.t.2.1 then bif Q0 (1<=(↑(length s.t.1):Int))then bif Q0 ((↑(length s.t.1):Int)<=8)then bif Q0 ((↑(length s.t.q.1):Int)<=8)then Q0 ((↑(length s.t.q.2.1):Int)<=8)else Q4 else Q4 else Q4 else Q4),?_⟩;simp only[RQ,Q8,bv (s:=s.t.2.1) ow,if_true];rw[if_pos (zu sg),if_pos (zu sg)]
 obtain⟨b4,hv⟩:=hv;obtain⟨r,h1,tx,b,h2,h3⟩:=cr4 h b4 ([67,82,69,65,84,69,32,84,65,66,76,69,32]++s.2.1++[32,40,32]) sg 100000000 ow;refine⟨tx,b,?_,h3⟩;unfold mu ao cX;rw[hv];show(cU fk 100000000 _).bind _=_;rw[h1];exact h2
theorem Lv{s:Sem zl}(h:oo s):qv s=Q3/\(pj s).1.length<=200000:=by
 obtain⟨tx,b,h1,h2⟩:=Jr h;exact⟨by unfold qv;rw[h1];rfl,by unfold pj;rw[h1];exact h2⟩
def N7(o:Option (zy (List.map Q1 [Q6,zl,Q7]))):Prop:=∃(t:zB)(own:Sem zl)(ok:Bool),o=Q1 (t,own,ok,())/\t.length<=900000/\Ac own
theorem zj0{s:Sem zl}{r:ar}{t:zB}{own:Sem zl}{ok:Bool}(hv:(gM s).val=Q1 (.inr r))(hr:aM r.2 [Q6,zl,Q7] r.1=Q1 (t,own,ok,()))(hl:t.length<=900000)(hc:Ac own):N7 (dA s):=
 ⟨t,own,ok,zI hv hr,hl,hc⟩
abbrev dl:zf:=.mk [] (0,0,[]) [] []
theorem SP:qU 16 dl=Q3:=by decide+kernel
theorem eh{a:Sem zl}{s:Sem zl}(h:oo s)(h4:a.2.2.2.1=s.2.2.2.1\/a.2.2.2.1=[])(h5:a.t.1=s.t.1\/a.t.1=[])(h7:a.t.q.1=s.t.q.1\/a.t.q.1=[])
  (h8:a.t.q.2.1=s.t.q.2.1\/a.t.q.2.1=[]) (h9:a.t.t.1=s.t.t.1\/a.t.t.1=dl) (h10:a.t.t.2.1=s.t.t.2.1\/a.t.t.2.1=[])
  (h11:a.t.t.q.1=s.t.t.q.1\/a.t.t.q.1=[]) (h12:a.t.t.q.2.1=s.t.t.q.2.1\/a.t.t.q.2.1=dl):Ac a where
 names:=by have:=h.sh.names.1;rcases h4 with h|h<;>rw[h]<;>first|omega|simp
 cols:=by have:=h.sh.cols.1;rcases h5 with h|h<;>rw[h]<;>first|omega|simp
 uniques:=by have:=h.sh.uniques.1;rcases h7 with h|h<;>rw[h]<;>first|omega|simp
 refs:=by have:=h.sh.refs.1;rcases h8 with h|h<;>rw[h]<;>first|omega|simp
 row:=by have:=h.sh.row;rcases h10 with h|h<;>rw[h]<;>first|omega|simp
 sets:=by have:=h.sh.sets.1;rcases h11 with h|h<;>rw[h]<;>first|omega|simp
 chk:=by rcases h9 with k|k<;>rw[k];exact h.cchk;exact SP
 whr:=by rcases h12 with k|k<;>rw[k];exact h.cwhr;exact SP
 ex:=by
  rcases h11 with k|k<;>rw[k]
  ·exact λx hx=>(h.sets x hx).2
  ·intro x hx;cases hx
def rJ(r:ar):Prop:=∃(t:zB)(own:Sem zl)(ok:Bool),aM r.2 [Q6,zl,Q7] r.1=Q1 (t,own,ok,())/\t.length<=900000/\Ac own
theorem tF{r:ar}(t:zB)(own:Sem zl)(ok:Bool)(h1:aM r.2 [Q6,zl,Q7] r.1=Q1 (t,own,ok,()))(h2:t.length<=900000)(h3:Ac own):rJ r:=⟨t,own,ok,h1,h2,h3⟩
theorem zmF{s:Sem zl}(h:oo s):∃r,cU lS 100000000 (.h15 [] 0 (s,()) ([],[],[],[],[],0,0,[],[],[],0,0,[],[],[],()) (s.1,s.2.1,[],[],[],0,0,[],[],s.t.t.2.1,[],0,0,[],[],[],()))=Q1 r/\rJ r:=by
 have hl:=h.sh.row;have ht:=h.sh.table;have hcmp:Ac (s.1,s.2.1,[],[],[],[],[],[],dl,s.t.t.2.1,[],dl,[]):=eh h (.inr rfl) (.inr rfl) (.inr rfl) (.inr rfl) (.inr rfl) (.inl rfl) (.inr rfl) (.inr rfl);refine di (t:=lS) (β:=zB) s.t.t.2.1.length (λb i=>.h15 b (i:Int) (s,()) ([],[],[],[],[],0,0,[],[],[],0,0,[],[],[],()) (s.1,s.2.1,[],[],[],0,0,[],[],s.t.t.2.1,[],0,0,[],[],[],())) (λb i=>b.length<=400*i) _ 1 ?_ ?_ s.t.t.2.1.length 0 [] 100000000 rfl (aZ _) sw ow
 ·intro x i hi hI;have hv:=h.row _ (bu hi);have hx:=wI s.t.t.2.1[i];have g:getD s.t.t.2.1 (i:Int).toNat (zi ze)=s.t.t.2.1[i]:=zO _ _ hi;generalize s.t.t.2.1[i]=v at g hv hx
  have e:(lS (.h15 x (i:Int) (s,()) ([],[],[],[],[],0,0,[],[],[],0,0,[],[],[],()) (s.1,s.2.1,[],[],[],0,0,[],[],s.t.t.2.1,[],0,0,[],[],[],()))).val=if aW v=Q3 then Q1 (.inl (.h15 ((if(i:Int)>0 then x++[32,44,32]else x)++g8 v) ((i+1:Nat):Int) (s,()) ([],[],[],[],[],0,0,[],[],[],0,0,[],[],[],()) (s.1,s.2.1,[],[],[],0,0,[],[],s.t.t.2.1,[],0,0,[],[],[],())))else
    Q1 (.inr (.tup [.str [],.agg [.str s.1,.str s.2.1,.str [],.nils,.nils,.str [],.nils,.nils,.str [],.int .i64 0,.int .i64 0,.str [],.str [],.nils,.sl ze s.t.t.2.1,.nils,.str [],.int .i64 0,.int .i64 0,.str [],.str [],.nils,.str []],.kb Q4],[])):=by
   show(lS (.h15 _ _ _ _ _)).val=_;simp only[lS,Q8,g,zH hi,zt hi,kL hv.2.2,nl hv.2.2,ER hv,Jl hv,if_true];rw[zp i um];by_cases m:aW v=Q3
   ·rw[if_neg (by rw[m];simp),if_pos m];by_cases h0:(i:Int)>0
    ·rw[if_pos (zu h0),if_pos h0,if_pos (zu sg),if_pos (zu sg)]
    ·rw[if_neg (by simpa using h0),if_neg h0,if_pos (zu ow)]
   ·rw[if_pos (by simpa using m),if_neg m]
  by_cases m:aW v=Q3
  ·rw[if_pos m]at e;refine .inl ⟨_,?_,e⟩;split<;>simp<;>omega
  ·rw[if_neg m]at e;exact .inr ⟨_,e,tF [] _ Q4 rfl sw hcmp⟩
 ·intro x n hI hn;obtain⟨n,rfl⟩:∃k,n=k+1:=⟨n-1,ow⟩
  have e:∃b,(lS (.h15 x (s.t.t.2.1.length:Int) (s,()) ([],[],[],[],[],0,0,[],[],[],0,0,[],[],[],()) (s.1,s.2.1,[],[],[],0,0,[],[],s.t.t.2.1,[],0,0,[],[],[],()))).val=
    Q1 (.inr (.tup [.str ([73,78,83,69,82,84,32,73,78,84,79,32]++s.2.1++[32,86,65,76,85,69,83,32,40,32]++x++[32,41]),.agg [.str s.1,.str s.2.1,.str [],.nils,.nils,.str [],.nils,.nils,.str [],.int .i64 0,.int .i64 0,.str [],.str [],.nils,.sl ze s.t.t.2.1,.nils,.str [],.int .i64 0,.int .i64 0,.str [],.str [],.nils,.str []],b],[]))/\(b=.kb Q4\/∃c,b=.bool c):=by
   show∃b,(lS (.h15 _ _ _ _ _)).val=_/\_;simp only[lS,Q8,zA];rw[if_neg sw,if_pos (zu sg),if_pos (zu sg),if_pos (zu sg),if_pos (zu sg)];split
   ·exact⟨_,rfl,.inr ⟨_,rfl⟩⟩
   ·exact⟨_,rfl,.inl rfl⟩
  obtain⟨b,e,hb⟩:=e;rw[cD,e];rcases hb with rfl|⟨c,rfl⟩
  ·exact⟨_,rfl,tF _ _ Q4 rfl sg hcmp⟩
  ·exact⟨_,rfl,tF _ _ c rfl sg hcmp⟩
theorem zmG{s:Sem zl}(h:oo s)(s8:zB)(b9:Bool)(h8:s8.length<=30000):∃r,cU lS 100000000 (.h27 s8 b9 [] 0 (s,()) ([],[],[],[],[],0,0,[],[],[],0,0,[],[],[],()) (s.1,s.2.1,[],[],[],0,0,[],[],s.t.t.q.1,s.t.t.q.2.1,[],()))=Q1 r/\rJ r:=by
 have hl:=h.sh.sets.1;have ht:=h.sh.table;have hcmp:Ac (s.1,s.2.1,[],[],[],[],[],[],dl,[],s.t.t.q.1,s.t.t.q.2.1,[]):=eh h (.inr rfl) (.inr rfl) (.inr rfl) (.inr rfl) (.inr rfl) (.inr rfl) (.inl rfl) (.inl rfl);generalize hZ:(([],[],[],[],[],0,0,[],[],[],0,0,[],[],[],()):zn iO)=Z;generalize hU:((s.1,s.2.1,[],[],[],0,0,[],[],s.t.t.q.1,s.t.t.q.2.1,[],()):zn zbK)=V
 have own:∀(t:zB)(ok:Bool)(b:AV),(b=.bool ok\/(b=.kb Q4/\ok=Q4))->aM [] [Q6,zl,Q7] (.tup [.str t,.agg [.str V.1,.str V.2.1,.str V.2.2.1,.nils,.nils,.str V.2.2.2.1,.nils,.nils,.str V.t.1,.int .i64 V.t.2.1,.int .i64 V.t.q.1,.str V.t.q.2.1,.str V.t.t.1,.nils,.nils,
   .sl (Sh.str.pr Q5) V.t.t.2.1,.str (zf.op V.t.t.q.1),.int .i64 (zf.v V.t.t.q.1).1,.int .i64 (zf.v V.t.t.q.1).2.1,.str (zf.v V.t.t.q.1).2.2,.str (zf.s V.t.t.q.1),.sl Q5 (zf.l V.t.t.q.1),.str V.t.t.q.2.1],b])=
   Q1 (t,(s.1,s.2.1,[],[],[],[],[],[],dl,[],s.t.t.q.1,s.t.t.q.2.1,[]),ok,()):=by
  intro t ok b hb;subst hU;obtain⟨s1,s2,s3,s4,s5,s6,s7,s8,s9,s10,uw,⟨d1,d2,d3,d4⟩,s13⟩:=s;rcases hb with rfl|⟨rfl,rfl⟩<;>rfl
 refine di (t:=lS) (β:=zB) s.t.t.q.1.length (λb i=>.h27 s8 b9 b (i:Int) (s,()) Z V) (λb i=>b.length<=26000*i) _ 1 ?_ ?_ s.t.t.q.1.length 0 [] 100000000 rfl (aZ _) sw ow
 ·intro x i hi hI;obtain⟨hw,hcp⟩:=h.sets _ (bu hi);have hnm:=h.sh.sets.2 _ (bu hi);have g:getD s.t.t.q.1 (i:Int).toNat (zi g6)=s.t.t.q.1[i]:=zO _ _ hi;generalize s.t.t.q.1[i]=v at g hw hcp hnm;have e:(¬(bp v.1=Q3/\dc v.2=Q3)/\∃r,(lS (.h27 s8 b9 x (i:Int) (s,()) Z V)).val=Q1 (.inr r)/\rJ r)\/∃x':zB,x'.length<=x.length+26000/\(lS (.h27 s8 b9 x (i:Int) (s,()) Z V)).val=Q1 (.inl (.h27 s8 b9 x' ((i+1:Nat):Int) (s,()) Z V)):=by
   show(_/\∃r,(lS (.h27 _ _ _ _ _ _ _)).val=_/\_)\/∃x':zB,_/\(lS (.h27 _ _ _ _ _ _ _)).val=_;simp only[lS,Q8,g,zk,zH hi,zt hi,bv (s:=v.1) ow,ms hw,qo hw,if_true,dH];have hg:(bif !bp v.1 then Q3 else Q3)=Q3:=by cases bp v.1<;>rfl
   rw[hg];by_cases m:bp v.1=Q3/\dc v.2=Q3
   ·obtain⟨m1,m2⟩:=m;obtain⟨t1,t2,t3⟩:=Jn hw m2;refine .inr ⟨(if(i:Int)>0 then x++[32,44,32]else x)++(v.1++[32,61,32]++aP 16 v.2),by split<;>simp<;>omega,?_⟩;simp only[m1,m2,t1,t2,if_true,bK,ay,zE,if_false];rw[zp i um];by_cases h0:(i:Int)>0
    ·rw[if_pos (zu h0),if_pos h0,if_pos (zu sg),if_pos (zu sg),if_pos (zu sg),if_pos (zu sg)]
    ·rw[if_neg (by simpa using h0),if_neg h0,if_pos (zu sg),if_pos (zu sg),if_pos (zu sg)]
   ·refine .inl ⟨m,?_⟩;have hc:(bif !bp v.1 then Q3 else !dc v.2)=Q3:=by
     cases h1:bp v.1
     ·rfl
     ·cases h2:dc v.2
      ·rfl
      ·exact absurd ⟨h1,h2⟩ m
    rw[if_pos rfl,if_pos hc];exact⟨_,rfl,tF [] _ Q4 (own [] Q4 _ (.inr ⟨rfl,rfl⟩)) sw hcmp⟩
  rcases e with⟨_,r,e1,e2⟩|⟨x',e1,e2⟩
  ·exact .inr ⟨r,e1,e2⟩
  ·exact .inl ⟨x',ow,e2⟩
 ·intro x n hI hn;obtain⟨n,rfl⟩:∃k,n=k+1:=⟨n-1,ow⟩
  have e:∃b ok,(lS (.h27 s8 b9 x (s.t.t.q.1.length:Int) (s,()) Z V)).val=
    Q1 (.inr (.tup [.str ([85,80,68,65,84,69,32]++s.2.1++[32,83,69,84,32]++x++s8),.agg [.str V.1,.str V.2.1,.str V.2.2.1,.nils,.nils,.str V.2.2.2.1,.nils,.nils,.str V.t.1,.int .i64 V.t.2.1,.int .i64 V.t.q.1,.str V.t.q.2.1,.str V.t.t.1,.nils,.nils,
   .sl (Sh.str.pr Q5) V.t.t.2.1,.str (zf.op V.t.t.q.1),.int .i64 (zf.v V.t.t.q.1).1,.int .i64 (zf.v V.t.t.q.1).2.1,.str (zf.v V.t.t.q.1).2.2,.str (zf.s V.t.t.q.1),.sl Q5 (zf.l V.t.t.q.1),.str V.t.t.q.2.1],b],[]))/\(b=.bool ok\/(b=.kb Q4/\ok=Q4)):=by
   show∃b ok,(lS (.h27 _ _ _ _ _ _ _)).val=_/\_;simp only[lS,Q8,zA];rw[if_neg sw,if_pos (zu sg),if_pos (zu sg),if_pos (zu sg),if_pos (zu sg)];split
   ·split
    ·exact⟨_,_,rfl,.inl rfl⟩
    ·exact⟨_,Q4,rfl,.inr ⟨rfl,rfl⟩⟩
   ·exact⟨_,Q4,rfl,.inr ⟨rfl,rfl⟩⟩
  obtain⟨b,ok,e,hb⟩:=e;rw[cD,e];exact⟨_,rfl,tF _ _ ok (own _ ok b hb) sg hcmp⟩
end Cad
