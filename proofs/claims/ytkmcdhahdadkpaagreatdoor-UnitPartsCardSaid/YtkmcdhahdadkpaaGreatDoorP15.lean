/- The document's values of expressions are the program's. The document's expressions that may be are the program's, and no others. -/
import Derived.Test.YtkmcdhahdadkpaaGreatDoorP14
import Derived.Test.YtkmcdhahdadkpaaGreatDoorP13
import Derived.Test.YtkmcdhahdadkpaaGreatDoorP11
import Derived.Test.YtkmcdhahdadkpaaGreatDoorP12
namespace Cad
open Go Go.Proofs
open Tr renaming val→Q8
open Sh renaming bool→Q7,str→Q6,expr→Q5
open Bool renaming false→Q4,true→Q3
open Option renaming none→Q2,some→Q1
open Decidable renaming decide→Q0
open Int (toNat)
open List (getD length)
open Tr (chk br re)
open AV (nils agg tup ptr kb str sl)
set_option maxHeartbeats 4000000
theorem gY:lK (0,0,[]):=⟨by decide,by decide,sw⟩
theorem lX(b:Bool):lK (wB b):=by cases b<;>exact⟨by decide,by decide,by simp[wB]⟩
theorem PG:lK (3,0,[]):=lX Q4
theorem PH:lK (3,1,[]):=lX Q3
theorem U4(a b:Sem zf):lK (Dk a b):=by
 unfold Dk;rw[mI,kS,kT];split;exact PG;split;exact PH;exact gY
theorem zaT(a b:Sem zf):lK (T3 a b):=by
 unfold T3;rw[mI,kS,kT];split;exact PH;split;exact PG;exact gY
theorem U6(a:Sem zf):lK (xL a):=by
 unfold xL;rw[mI,kS,kT];split;exact PG;split;exact PH;exact gY
theorem zaS(a b:Sem zf):lK (lT a b):=by
 unfold lT;split;exact gY;rw[iV];exact lX _
theorem PI(a b:Sem zf):lK (rB a b):=by
 unfold rB;split;exact gY;rw[iV];exact lX _
theorem J9(a:Sem zf):lK (je a):=by
 unfold je;rw[iV];exact lX _
theorem HB(n:Int):lK (1,IntKind.i64.wrap n,[]):=by
 refine⟨?_,?_,sw⟩
 ·show(-9223372036854775808:Int)<=IntKind.i64.wrap n;rw[fM];omega
 ·show IntKind.i64.wrap n<=(9223372036854775807:Int);rw[fM];omega
theorem PJ(a b:Sem zf):lK (rC a b):=by
 unfold rC;split;exact gY;split;exact gY;exact HB _
theorem NM(a b:Sem zf):lK (lU a b):=by
 unfold lU;split;exact gY;split;exact gY;exact HB _
def sH(cols:List (Sem zj))(row:List (Sem zf))(s:zB):Sem zf:=if(bif Q0 (zZ cols s<0)then Q3 else Q0 (zZ cols s>=(↑row.length:Int)))=Q3 then(0,0,[])else row.getD (toNat (zZ cols s)) (zi zf)
theorem Lc{g c}{cols:List (Sem zj)}{row:List (Sem zf)}{e:ze}(hl:cols.length<=1000000):∃r k,zT (xy g c) k (.h6 cols row ((0:Nat):Int) (e,()) ((0,0,[]),())) r/\k<=100000000/\aL r.2 [zf] r.1=Q1 (sH cols row (ze.s e),()):=by
 have hf:=lH (t:=xy g c) (Φ:=λr=>aL r.2 [zf] r.1=Q1 (sH cols row (ze.s e),())) 1 (λi=>.h6 cols row (i:Int) (e,()) ((0,0,[]),())) (λi=>((getD cols i (zi zj)).1==ze.s e)=Q4) cols.length (by
  intro i hi hj;have hv:(xy g c (.h6 cols row (i:Int) (e,()) ((0,0,[]),()))).val=if((getD cols i (zi zj)).1==ze.s e)=Q3 then(if Q0 ((i:Int)<(row.length:Int))=Q3 then(if zM (i:Int) row.length=Q3 then Q1 (.inr (.agg [.int .i64 (getD row i (zi zf)).1,.int .i64 (getD row i (zi zf)).2.1,.str (getD row i (zi zf)).2.2],[]))else Q2)else Q1 (.inr (.agg [.int .i64 0,.int .i64 0,.str []],[])))else Q1 (.inl (.h6 cols row ((i+1:Nat):Int) (e,()) ((0,0,[]),()))):=by
   simp only[xy,Q8,zH hi,zu hi,aJ,if_true];rw[zp i um]
  rcases zF ((getD cols i (zi zj)).1==ze.s e)with h|h
  ·have hp:=mg (p:=λc:Sem zj=>c.1==ze.s e) (d:=zi zj) cols 0 i hi h hj;have hp:zZ cols (ze.s e)=(i:Int):=by unfold zZ;rw[hp];simp
   by_cases hr:i<row.length
   ·refine .inr ⟨by rw[h];simp,_,zT.of (by rw[hv,if_pos h,if_pos (zH hr),if_pos (zu hr)]),?_⟩;unfold sH;rw[hp,if_neg (by rw[af (by omega:¬(i:Int)<0),af (by omega:¬(i:Int)>=(row.length:Int))];simp),aJ];rfl
   ·refine .inr ⟨by rw[h];simp,_,zT.of (by rw[hv,if_pos h,if_neg (by rw[aP];omega)]),?_⟩;unfold sH;rw[hp,if_pos (by rw[af (by omega:¬(i:Int)<0),zt (by omega:(i:Int)>=(row.length:Int))];rfl)];rfl
  ·exact .inl ⟨h,zQ.of (by rw[hv,if_neg (by rw[h];simp)])⟩)
 rcases hf with⟨h1,h2⟩|⟨h1,r,h2,h3⟩
 ·have hp:=mh (p:=λc:Sem zj=>c.1==ze.s e) (d:=zi zj) cols 0 h1;refine⟨(.agg [.int .i64 0,.int .i64 0,.str []],[]),_,h2.ends (zT.of ?_),ow,?_⟩
  ·simp only[xy,Q8,zA];rfl
  ·unfold sH;rw[show zZ cols (ze.s e)=(-1:Int)from hp];rfl
 ·exact⟨r,_,h2,ow,h3⟩
theorem U5{cols:List (Sem zj)}{row:List (Sem zf)}{s:zB}(hr:∀v∈row,lK v):lK (sH cols row s):=by
 unfold sH;split
 ·exact gY
 ·by_cases h:toNat (zZ cols s)<row.length
  ·exact hr _ (bI h)
  ·rw[ba,eX ow];exact gY
theorem qk{cols:List (Sem zj)}{row:List (Sem zf)}(hl:cols.length<=1000000)(hr:∀v∈row,lK v):∀(N d M:Nat)(e:ze),d<=N->d<=M->cg d e=Q3->rH e->ce N e cols row=Q1 (di M cols row e,())/\lK (di M cols row e)
 |_,0,_,_,_,_,h,_=>by cases h
 |0,d+1,_,_,h,_,_,_=>absurd h ow
 |_,d+1,0,_,_,h,_,_=>absurd h ow
 | N+1,d+1,M+1,e,h1,h2,h,hw=>by
  rw[ce,di];unfold M4;cases fu h with
  | lit v hv=>
   rw[rH]at hw;exact⟨rfl,hw.1⟩
  | col s hw2 hr2=>
   obtain⟨r,k,k1,k2,k3⟩:=Lc (g:=λx0 x1 x2=>gw (ce N x0 x1 x2)) (c:=λx0 x1 x2=>(ce N x0 x1 x2).isSome) (cols:=cols) (row:=row) (e:=.mk [99,111,108] (0,0,[]) s []) hl;exact⟨zx GM k1 k2 k3,U5 hr⟩
  | one op a ho ha=>
   rw[rH,jL]at hw;obtain⟨ka,va⟩:=qk hl hr N d M a ow ow ha hw.2.2.1;unfold al cU;generalize hg:(λx0 x1 x2=>gw (ce N x0 x1 x2))=g;generalize hc:(λx0 x1 x2=>(ce N x0 x1 x2).isSome)=c;have g1:g a cols row=di M cols row a:=by rw[<-hg];show gw (ce N a cols row)=_;rw[ka];rfl
   have c1:c a cols row=Q3:=by rw[<-hc];show(ce N a cols row).isSome=_;rw[ka];rfl
   rcases ho with rfl|rfl
   ·have e1:qW (di M) cols row (.mk [110,111,116] (0,0,[]) [] [a])=xL (di M cols row a):=rfl;have e2:(oQ g c (.mk [110,111,116] (0,0,[]) [] [a]) cols row).val=if c (zm a) cols row=Q3 then(if Gf (g (zm a) cols row)=Q3 then Q1 (.inr (.agg [.int .i64 (EJ (g (zm a) cols row)).1,.int .i64 (EJ (g (zm a) cols row)).2.1,.str (EJ (g (zm a) cols row)).2.2],[]))else Q2)else Q2:=rfl
    rw[e1,e2,zl,c1,g1];generalize di M cols row a=x at*;rw[Tc,Wl];exact⟨rfl,U6 _⟩
   ·have e1:qW (di M) cols row (.mk [110,117,108,108] (0,0,[]) [] [a])=je (di M cols row a):=rfl;have e2:(oQ g c (.mk [110,117,108,108] (0,0,[]) [] [a]) cols row).val=if c (zm a) cols row=Q3 then(if lO (g (zm a) cols row)=Q3 then(if(!ry (g (zm a) cols row))=Q3 then Q1 (.inr (.agg [.int .i64 (aU Q3).1,.int .i64 (aU Q3).2.1,.str (aU Q3).2.2],[]))else if kI ((g (zm a) cols row).1==0)=Q3 then Q1 (.inr (.agg [.int .i64 (aU ((g (zm a) cols row).1==0)).1,.int .i64 (aU ((g (zm a) cols row).1==0)).2.1,.str (aU ((g (zm a) cols row).1==0)).2.2],[]))else Q2)else Q2)else Q2:=rfl
    rw[e1,e2,zl,c1,g1];generalize di M cols row a=x at*;refine⟨?_,J9 _⟩;rw[kH va.2.2,nj va.2.2,nl,gS,gS];unfold je ap;rw[iV];cases aW x
    ·rfl
    ·rfl
  | two op a b ho ha hb=>
   rw[rH,jL,jL]at hw;obtain⟨ka,va⟩:=qk hl hr N d M a ow ow ha hw.2.2.1;obtain⟨kb,vb⟩:=qk hl hr N d M b ow ow hb hw.2.2.2.1;unfold al cU;generalize hg:(λx0 x1 x2=>gw (ce N x0 x1 x2))=g;generalize hc:(λx0 x1 x2=>(ce N x0 x1 x2).isSome)=c;have g1:g a cols row=di M cols row a:=by rw[<-hg];show gw (ce N a cols row)=_;rw[ka];rfl
   have c1:c a cols row=Q3:=by rw[<-hc];show(ce N a cols row).isSome=_;rw[ka];rfl
   have g2:g b cols row=di M cols row b:=by rw[<-hg];show gw (ce N b cols row)=_;rw[kb];rfl
   have c2:c b cols row=Q3:=by rw[<-hc];show(ce N b cols row).isSome=_;rw[kb];rfl
   rcases ho with rfl|rfl|rfl|rfl|rfl|rfl
   ·have e1:qW (di M) cols row (.mk [97,110,100] (0,0,[]) [] [a,b])=Dk (di M cols row a) (di M cols row b):=rfl;have e2:(oQ g c (.mk [97,110,100] (0,0,[]) [] [a,b]) cols row).val=if c (zm a) cols row=Q3 then(if c (zm b) cols row=Q3 then(if Gc (g (zm a) cols row) (g (zm b) cols row)=Q3 then Q1 (.inr (.agg [.int .i64 (EH (g (zm a) cols row) (g (zm b) cols row)).1,.int .i64 (EH (g (zm a) cols row) (g (zm b) cols row)).2.1,.str (EH (g (zm a) cols row) (g (zm b) cols row)).2.2],[]))else Q2)else Q2)else Q2:=rfl
    rw[e1,e2,zl,zl,c1,c2,g1,g2];generalize di M cols row a=x at*;generalize di M cols row b=y at*;rw[Ta,Wk];exact⟨rfl,U4 _ _⟩
   ·have e1:qW (di M) cols row (.mk [111,114] (0,0,[]) [] [a,b])=T3 (di M cols row a) (di M cols row b):=rfl;have e2:(oQ g c (.mk [111,114] (0,0,[]) [] [a,b]) cols row).val=if c (zm a) cols row=Q3 then(if c (zm b) cols row=Q3 then(if M2 (g (zm a) cols row) (g (zm b) cols row)=Q3 then Q1 (.inr (.agg [.int .i64 (OQ (g (zm a) cols row) (g (zm b) cols row)).1,.int .i64 (OQ (g (zm a) cols row) (g (zm b) cols row)).2.1,.str (OQ (g (zm a) cols row) (g (zm b) cols row)).2.2],[]))else Q2)else Q2)else Q2:=rfl
    rw[e1,e2,zl,zl,c1,c2,g1,g2];generalize di M cols row a=x at*;generalize di M cols row b=y at*;rw[Wm,zcA];exact⟨rfl,zaT _ _⟩
   ·have e1:qW (di M) cols row (.mk [61] (0,0,[]) [] [a,b])=lT (di M cols row a) (di M cols row b):=rfl;have e2:(oQ g c (.mk [61] (0,0,[]) [] [a,b]) cols row).val=if c (zm a) cols row=Q3 then(if c (zm b) cols row=Q3 then(if tR (g (zm a) cols row) (g (zm b) cols row)=Q3 then Q1 (.inr (.agg [.int .i64 (qc (g (zm a) cols row) (g (zm b) cols row)).1,.int .i64 (qc (g (zm a) cols row) (g (zm b) cols row)).2.1,.str (qc (g (zm a) cols row) (g (zm b) cols row)).2.2],[]))else Q2)else Q2)else Q2:=rfl
    rw[e1,e2,zl,zl,c1,c2,g1,g2];generalize di M cols row a=x at*;generalize di M cols row b=y at*;rw[La va.2.2 vb.2.2,ON va.2.2 vb.2.2];exact⟨rfl,zaS _ _⟩
   ·have e1:qW (di M) cols row (.mk [60] (0,0,[]) [] [a,b])=rB (di M cols row a) (di M cols row b):=rfl;have e2:(oQ g c (.mk [60] (0,0,[]) [] [a,b]) cols row).val=if c (zm a) cols row=Q3 then(if c (zm b) cols row=Q3 then(if yk (g (zm a) cols row) (g (zm b) cols row)=Q3 then Q1 (.inr (.agg [.int .i64 (wh (g (zm a) cols row) (g (zm b) cols row)).1,.int .i64 (wh (g (zm a) cols row) (g (zm b) cols row)).2.1,.str (wh (g (zm a) cols row) (g (zm b) cols row)).2.2],[]))else Q2)else Q2)else Q2:=rfl
    rw[e1,e2,zl,zl,c1,c2,g1,g2];generalize di M cols row a=x at*;generalize di M cols row b=y at*;rw[OO va.2.2 vb.2.2,Tb va.2.2 vb.2.2];exact⟨rfl,PI _ _⟩
   ·have e1:qW (di M) cols row (.mk [43] (0,0,[]) [] [a,b])=rC (di M cols row a) (di M cols row b):=rfl;have e2:(oQ g c (.mk [43] (0,0,[]) [] [a,b]) cols row).val=if c (zm a) cols row=Q3 then(if c (zm b) cols row=Q3 then(if yl (g (zm a) cols row) (g (zm b) cols row)=Q3 then Q1 (.inr (.agg [.int .i64 (wi (g (zm a) cols row) (g (zm b) cols row)).1,.int .i64 (wi (g (zm a) cols row) (g (zm b) cols row)).2.1,.str (wi (g (zm a) cols row) (g (zm b) cols row)).2.2],[]))else Q2)else Q2)else Q2:=rfl
    rw[e1,e2,zl,zl,c1,c2,g1,g2];generalize di M cols row a=x at*;generalize di M cols row b=y at*;rw[OR va vb,Td va vb];exact⟨rfl,PJ _ _⟩
   ·have e1:qW (di M) cols row (.mk [45] (0,0,[]) [] [a,b])=lU (di M cols row a) (di M cols row b):=rfl;have e2:(oQ g c (.mk [45] (0,0,[]) [] [a,b]) cols row).val=if c (zm a) cols row=Q3 then(if c (zm b) cols row=Q3 then(if tT (g (zm a) cols row) (g (zm b) cols row)=Q3 then Q1 (.inr (.agg [.int .i64 (qd (g (zm a) cols row) (g (zm b) cols row)).1,.int .i64 (qd (g (zm a) cols row) (g (zm b) cols row)).2.1,.str (qd (g (zm a) cols row) (g (zm b) cols row)).2.2],[]))else Q2)else Q2)else Q2:=rfl
    rw[e1,e2,zl,zl,c1,c2,g1,g2];generalize di M cols row a=x at*;generalize di M cols row b=y at*;rw[Lb va vb,OP va vb];exact⟨rfl,NM _ _⟩
theorem pW:∀(N k:Nat)(e:ze)(n:Nat),k<=12->n<=60->(gX N e ((13:Int)-k) n).1=Q3->cg k e=Q3/\(gX N e ((13:Int)-k) n).2=((n+nE k e:Nat):Int)/\n+nE k e<=60
 |0,_,_,_,_,_,h=>by cases h
 | N+1,0,e,n,_,_,h=>by
  rw[gX]at h;unfold xH at h;rw[if_pos GM]at h;cases h
 | N + 1,k+1,.mk op v s l,n,h1,h2,h=>by
  have w1:IntKind.i64.wrap ((n:Int)+1)=((n+1:Nat):Int):=zp n um;have w2:IntKind.i64.wrap ((13:Int)-((k+1:Nat):Int)+1)=(13:Int)-(k:Int):=by rw[fM];omega
  have d1:Q0 ((13:Int)-((k+1:Nat):Int)>12)=Q4:=af ow;rw[gX]at h⊢
  have e0:∀m:Int,xH (gX N) (.mk op v s l) m n=if(bif Q0 (m>12)then Q3 else bif Q0 (((n+1:Nat):Int)>60)then Q3 else(↑l.length:Int)!=cK op)=Q3 then(Q4,((n+1:Nat):Int))else
    if(op==[108,105,116])=Q3 then(bif s==[]then aW v else Q4,((n+1:Nat):Int))else
    if(op==[99,111,108])=Q3 then(bif aY v then bif dP s then !iR s else Q4 else Q4,((n+1:Nat):Int))else
    if(bif !aY v then Q3 else !s==[])=Q3 then(Q4,((n+1:Nat):Int))else oh (gX N) m l ((n+1:Nat):Int):=by
   intro m;unfold xH;rw[w1];rfl
  rw[e0,d1]at h⊢;rcases zF (Q0 (((n+1:Nat):Int)>60))with c0|c0
  ·rw[c0,if_pos GM]at h;cases h
  rcases zF ((↑l.length:Int)!=cK op)with c1|c1
  ·rw[c0,c1,if_pos GM]at h;cases h
  have hn:n+1<=60:=by simp at c0;omega
  have hp:(l.length:Int)=cK op:=by simpa using c1
  rw[c0,c1,if_neg sw]at h⊢;rcases ly op with⟨p,ho⟩|⟨p,ho⟩|⟨p,ho⟩|p
  ·have hl:l=[]:=xD ow;subst hl;rcases ho with rfl|rfl
   ·rw[if_pos GM]at h⊢;obtain⟨a,b⟩:=ck h;refine⟨?_,by simp[nE],by simp[nE];omega⟩;simp[cg,b,bF a]
   ·rw[if_neg (by decide),if_pos GM]at h⊢;obtain⟨a,b⟩:=ck h;obtain⟨b,c⟩:=ck b;refine⟨?_,by simp[nE],by simp[nE];omega⟩;have c':iR s=Q4:=by simpa using c
    simp[cg,a,b,c']
  ·obtain⟨a,rfl⟩:∃a,l=[a]:=List.length_eq_one_iff.1 ow;have o1:(op==[108,105,116])=Q4:=by rcases ho with rfl|rfl<;>rfl
   have o2:(op==[99,111,108])=Q4:=by rcases ho with rfl|rfl<;>rfl
   have o3:(bif op==[110,111,116]then Q3 else op==[110,117,108,108])=Q3:=by rcases ho with rfl|rfl<;>rfl
   rw[if_neg (by rw[o1];simp),if_neg (by rw[o2];simp)]at h⊢;rcases zF (aY v)with c2|c2
   ·rcases zF (s==[])with c3|c3
    ·rw[c2,c3,if_neg sw]at h⊢;rw[oh,w2]at h⊢;rcases zF (gX N a ((13:Int)-(k:Int)) ((n+1:Nat):Int)).1 with c4|c4
     ·obtain⟨i1,i2,i3⟩:=pW N k a (n+1) ow hn c4;rw[c4,if_neg sw];refine⟨by simp[cg,o1,o2,o3,c2,c3,i1],?_,by simp[nE];omega⟩;rw[oh];show(gX N a ((13:Int)-(k:Int)) ((n+1:Nat):Int)).2=_;rw[i2];simp[nE];omega
     ·rw[c4,if_pos GM]at h;cases h
    ·rw[c2,c3,if_pos GM]at h;cases h
   ·rw[c2,if_pos GM]at h;cases h
  ·obtain⟨a,b,rfl⟩:∃a b,l=[a,b]:=by
    match l,hp with
    |[a,b],_=>exact⟨a,b,rfl⟩
    |[],hp=>exact absurd hp (by rw[p];simp)
    |[_],hp=>exact absurd hp (by rw[p];simp)
    |_::_::_::_,hp=>exact absurd hp (by rw[p];simp;omega)
   have o1:(op==[108,105,116])=Q4:=by rcases ho with rfl|rfl|rfl|rfl|rfl|rfl<;>rfl
   have o2:(op==[99,111,108])=Q4:=by rcases ho with rfl|rfl|rfl|rfl|rfl|rfl<;>rfl
   have o3:(bif op==[110,111,116]then Q3 else op==[110,117,108,108])=Q4:=by rcases ho with rfl|rfl|rfl|rfl|rfl|rfl<;>rfl
   have o4:Di op=Q3:=by rcases ho with rfl|rfl|rfl|rfl|rfl|rfl<;>rfl
   rw[if_neg (by rw[o1];simp),if_neg (by rw[o2];simp)]at h⊢;rcases zF (aY v)with c2|c2
   ·rcases zF (s==[])with c3|c3
    ·rw[c2,c3,if_neg sw]at h⊢;rw[oh,w2]at h⊢;rcases zF (gX N a ((13:Int)-(k:Int)) ((n+1:Nat):Int)).1 with c4|c4
     ·obtain⟨i1,i2,i3⟩:=pW N k a (n+1) ow hn c4;rw[c4,if_neg sw]at h⊢;rw[i2,oh,w2]at h⊢;rcases zF (gX N b ((13:Int)-(k:Int)) ((n+1+nE k a:Nat):Int)).1 with c5|c5
      ·obtain⟨j1,j2,j3⟩:=pW N k b (n+1+nE k a) ow i3 c5;rw[c5,if_neg sw];refine⟨by simp[cg,o1,o2,o3,o4,c2,c3,i1,j1],?_,by simp[nE];omega⟩;rw[oh];show(gX N b ((13:Int)-(k:Int)) ((n+1+nE k a:Nat):Int)).2=_;rw[j2];simp[nE];omega
      ·rw[c5,if_pos GM]at h;cases h
     ·rw[c4,if_pos GM]at h;cases h
    ·rw[c2,c3,if_pos GM]at h;cases h
   ·rw[c2,if_pos GM]at h;cases h
  ·omega
theorem vg(e:ze):cY e=(bif cg 12 e then Q0 (nE 12 e<=60)else Q4):=by
 unfold cY;rcases zF (gX 16 e 1 0).1 with c|c
 ·obtain⟨h1,_,h3⟩:=pW 16 12 e 0 ow ow c;rw[c,h1,zt ow];rfl
 ·rw[c];rcases zF (cg 12 e)with g|g
  ·rw[g];by_cases h:nE 12 e<=60
   ·have:=pX 16 12 e 0 ow ow g ow;have h2:(gX 16 e 1 0).1=Q3:=by
     have e1:gX 16 e 1 0=(Q3,((0+nE 12 e:Nat):Int)):=this;rw[e1]
    rw[h2]at c;cases c
   ·rw[af h];rfl
  ·rw[g];rfl
theorem Jc{e:ze}(hw:rH e):BK e=Q1 (cY e,()):=by
 have hf:Gk e 12=Q1 (cg 12 e,()):=EQ 16 12 e ow ow hw;have hfc:yr e 12=Q3:=by unfold yr;rw[hf];rfl
 have hfv:Gj e 12=cg 12 e:=by unfold Gj;rw[hf];rfl
 unfold BK al cU;simp only[zgM,Q8,zl,hfc,hfv];rw[vg];rcases zF (cg 12 e)with g|g
 ·have hn:BM e=Q1 ((nE 12 e:Int),()):=nu 16 12 e ow ow g;have hnc:t7 e=Q3:=by unfold t7;rw[hn];rfl
  have hnv:yu e=(nE 12 e:Int):=by unfold yu;rw[hn];rfl
  rw[g,hnc,hnv];have:Q0 (((nE 12 e:Nat):Int)<=60)=Q0 (nE 12 e<=60):=by
   by_cases h:nE 12 e<=60
   ·rw[zt h,zt ow]
   ·rw[af h,af ow]
  rw[this];rfl
 ·rw[g];rfl
theorem mr{e:ze}(hw:rH e):wj e=Q3:=by unfold wj;rw[Jc hw];rfl
theorem ql{e:ze}(hw:rH e):EP e=cY e:=by unfold EP;rw[Jc hw];rfl
theorem ko{e:ze}(h:cY e=Q3):cg 12 e=Q3:=by
 rw[vg]at h;exact(ck h).1
theorem Je{e:ze}{cols:List (Sem zj)}(hl:cols.length<=1000000)(h:cY e=Q3):yq e cols=Q1 ((bH e cols).1,(bH e cols).2,()):=by
 have:=qq hl 16 12 16 e ow ow (ko h);unfold yq bH;rw[this,h];rfl
theorem Te{e:ze}{cols:List (Sem zj)}{row:List (Sem zf)}(hl:cols.length<=1000000)(hr:∀v∈row,lK v)(hw:rH e)(h:cY e=Q3):yo e cols row=Q1 (jJ e cols row,()):=by
 have:=(qk hl hr 16 12 16 e ow ow (ko h) hw).1;unfold yo jJ;rw[this,h];rfl
theorem Cm(e:ze):fh 16 e vY=(e.op==[]&&(aY e.v&&(e.s==[]&&e.l.length==0))):=by
 show JE (fh 15) e vY=_;unfold JE Kt TZ aY;obtain⟨op,v,s,l⟩:=e;simp only[ze.op,ze.v,ze.s,ze.l];cases l with
 | nil=>
  simp only[nJ,Vv];cases(op==[])<;>cases(v.1==0&&(v.2.1==0&&(v.2.2==[]&&Q3)))<;>cases(s==[])<;>rfl
 | cons x r=>
  have:(((x::r).length:Int)!=(([]:List ze).length:Int))=Q3:=by simp;omega
  simp only[this];cases(op==[])<;>cases(v.1==0&&(v.2.1==0&&(v.2.2==[]&&Q3)))<;>cases(s==[])<;>rfl
theorem Ld(e:ze):yp e vY=Q1 (fh 16 e vY,()):=by
 rw[Cm];show bL 16 e vY=_;rw[bL];unfold Gh;rcases zF (e.op==[])with c1|c1
 ·rcases zF (aY e.v)with c2|c2
  ·rcases zF (e.s==[])with c3|c3
   ·by_cases c4:e.l.length=0
    ·refine zx (s:=.h4 0 (e,()) (vY,())) (k:=1) (r:=(.kb Q3,[])) ?_ (zT.of ?_) ow ?_
     ·unfold aY at c2;simp only[A5,Q8];have c4':(((ze.l e).length:Int)!=(([]:List ze).length:Int))=Q4:=by simp[c4]
      show(if(bif !(e.op==[])then Q3 else bif !(e.v.1==0&&(e.v.2.1==0&&(e.v.2.2==[]&&Q3)))then Q3 else bif !(e.s==[])then Q3 else((ze.l e).length:Int)!=(([]:List ze).length:Int))=Q3 then _ else _)=_;rw[c1,c2,c3,c4'];rfl
     ·have c5:Q0 ((0:Int)<((ze.l e).length:Int))=Q4:=af (by rw[c4];omega);simp only[Ha,Hb,yP,Q8];rw[c5];rfl
     ·rw[c1,c2,c3,c4];rfl
    ·have c4':(((ze.l e).length:Int)!=(([]:List ze).length:Int))=Q3:=bne_iff_ne.2 (by show((ze.l e).length:Int)≠0;omega);have c5:((ze.l e).length==0)=Q4:=bN.2 c4;refine zN (r:=(.kb Q4,[])) ?_ ?_
     ·unfold aY at c2;simp only[A5,Q8];show(if(bif !(e.op==[])then Q3 else bif !(e.v.1==0&&(e.v.2.1==0&&(e.v.2.2==[]&&Q3)))then Q3 else bif !(e.s==[])then Q3 else((ze.l e).length:Int)!=(([]:List ze).length:Int))=Q3 then _ else _)=_;rw[c1,c2,c3,c4'];rfl
     ·rw[c1,c2,c3,c5];rfl
   ·refine zN (r:=(.kb Q4,[])) ?_ ?_
    ·unfold aY at c2;simp only[A5,Q8];show(if(bif !(e.op==[])then Q3 else bif !(e.v.1==0&&(e.v.2.1==0&&(e.v.2.2==[]&&Q3)))then Q3 else bif !(e.s==[])then Q3 else((ze.l e).length:Int)!=(([]:List ze).length:Int))=Q3 then _ else _)=_;rw[c1,c2,c3];rfl
    ·rw[c1,c2,c3];rfl
  ·refine zN (r:=(.kb Q4,[])) ?_ ?_
   ·unfold aY at c2;simp only[A5,Q8];show(if(bif !(e.op==[])then Q3 else bif !(e.v.1==0&&(e.v.2.1==0&&(e.v.2.2==[]&&Q3)))then Q3 else bif !(e.s==[])then Q3 else((ze.l e).length:Int)!=(([]:List ze).length:Int))=Q3 then _ else _)=_;rw[c1,c2];rfl
   ·rw[c1,c2];rfl
 ·refine zN (r:=(.kb Q4,[])) ?_ ?_
  ·simp only[A5,Q8];show(if(bif !(e.op==[])then Q3 else bif !(e.v.1==0&&(e.v.2.1==0&&(e.v.2.2==[]&&Q3)))then Q3 else bif !(e.s==[])then Q3 else((ze.l e).length:Int)!=(([]:List ze).length:Int))=Q3 then _ else _)=_;rw[c1];rfl
  ·rw[c1];rfl
theorem Mf{e:ze}(h:cY e=Q3):(e.op==[])=Q4:=by
 have hg:=ko h;cases fu hg with
 |lit v hv=>rfl
 |col s hw hr=>rfl
 |one op a ho ha=>rcases ho with rfl|rfl<;>rfl
 |two op a b ho ha hb=>rcases ho with rfl|rfl|rfl|rfl|rfl|rfl<;>rfl
theorem BQ{e:ze}{cols:List (Sem zj)}(hw:rH e)(hl:cols.length<=1000000):pi e cols=Q1 (iq e cols,()):=by
 have hs:=Ld e;have hsc:gy e vY=Q3:=by unfold gy;rw[hs];rfl
 have hsv:eT e vY=fh 16 e vY:=by unfold eT;rw[hs];rfl
 unfold pi al cU;simp only[Ym,Q8,zl,mr hw,ql hw];unfold iq;rcases zF (e.op==[])with c|c
 ·have hm:cY e=Q4:=by
   rcases zF (cY e)with h|h
   ·rw[Mf h]at c;cases c
   ·exact h
  have ht:bH e cols=(0,1):=by unfold bH;rw[hm];rfl
  rw[c,hsc,hsv,ht];rcases zF (fh 16 e vY)with h|h<;>rw[h]<;>rfl
 ·have hn:fh 16 e vY=Q4:=by rw[Cm,c];rfl
  rw[c,hn];rcases zF (cY e)with h|h
  ·have ht:=Je (cols:=cols) hl h;have htc:nr e cols=Q3:=by unfold nr;rw[ht];rfl
   have htv:il e cols=bH e cols:=by unfold il;rw[ht];rfl
   rw[h,htc,htv];generalize bH e cols=t;obtain⟨t,r⟩:=t;rcases zF (r==0)with k1|k1
   ·have e0:r=0:=bF k1;subst e0;rcases zF (t==0)with k2|k2<;>rcases zF (t==3)with k3|k3<;>(simp only[bne,k2,k3];rfl)
   ·simp only[bne,k1];rfl
  ·have ht:bH e cols=(0,1):=by unfold bH;rw[h];rfl
   rw[h,ht];rfl
structure nH (t:Sem zo):Prop where
 name:zK t.1=Q3
 n1:1<=t.2.1.length
 n8:t.2.1.length<=8
 cols:∀i,i<t.2.1.length->zK (getD t.2.1 i (zi zj)).1=Q3/\LE.le (α:=Int) 1 (getD t.2.1 i (zi zj)).2.1/\LE.le (α:=Int) (getD t.2.1 i (zi zj)).2.1 3/\zZ t.2.1 (getD t.2.1 i (zi zj)).1=(i:Int)
 uniq:∀u∈t.2.2.2.1,CV u t.2.1.length
 refs:∀f∈t.t.1,CV f.1 t.2.1.length/\zK f.2=Q3
 key:CV t.2.2.1 t.2.1.length
 nn:(getD t.2.1 (toNat t.2.2.1) (zi zj)).2.2=Q3
 chk:iq t.t.2 t.2.1=(0:Int)
theorem HO{t:Sem zo}{i:Nat}:Ke t i=Q3↔(zK (getD t.2.1 i (zi zj)).1=Q3/\LE.le (α:=Int) 1 (getD t.2.1 i (zi zj)).2.1/\LE.le (α:=Int) (getD t.2.1 i (zi zj)).2.1 3/\zZ t.2.1 (getD t.2.1 i (zi zj)).1=(i:Int)):=by
 unfold Ke;have ep:zO t (getD t.2.1 i (zi zj)).1=zZ t.2.1 (getD t.2.1 i (zi zj)).1:=rfl;rw[ep];generalize getD t.2.1 i (zi zj)=c;cases zK c.1
 ·simp
 ·by_cases h1:LT.lt (α:=Int) c.2.1 1
  ·rw[zt h1];simp;intro h;omega
  ·rw[af h1];by_cases h2:GT.gt (α:=Int) c.2.1 3
   ·rw[zt h2];simp;intro _ h;omega
   ·rw[af h2];exact⟨λh=>⟨rfl,ow,ow,by simpa using h⟩,λh=>by simpa using h.2.2.2⟩
theorem kR(t:Sem zo):eF t=Q3↔nH t:=by
 have h2:=wq (l:=t.2.2.2.1) (d:=zi zg) (p:=λu=>vQ u (length t.2.1));simp only[oR]at h2;have h0:(!(bif !zK t.1 then Q3 else bif Q0 ((↑(length t.2.1):Int)<1)then Q3 else Q0 ((↑(length t.2.1):Int)>8)))=Q3↔(zK t.1=Q3/\1<=length t.2.1/\length t.2.1<=8):=by
  cases zK t.1
  ·simp
  ·by_cases h1:(↑(length t.2.1):Int)<1
   ·rw[zt h1];simp;omega
   ·rw[af h1];simp;omega
 have h1:(List.range (length t.2.1)).all (Ke t)=Q3↔∀i,i<length t.2.1->Ke t i=Q3:=by
  rw[dT];simp only[oy]
 unfold eF;rw[aD,h0,aD,h1,aD,h2,aD,Jw,aD,oR,aD,aZ];exact⟨λ⟨⟨a,b,c⟩,d,e,f,g,i,j⟩=>⟨a,b,c,λk hk=>HO.1 (d k hk),e,f,g,i,j⟩,λh=>⟨⟨h.name,h.n1,h.n8⟩,λk hk=>HO.2 (h.cols k hk),h.uniq,h.refs,h.key,h.nn,h.chk⟩⟩
structure JX (t:Sem zo):Prop where
 name:t.1.length<=1000000
 cols:∀c∈t.2.1,length c.1<=1000000
 ncols:t.2.1.length<=1000
 nuq:t.2.2.2.1.length<=1000
 nrf:t.t.1.length<=1000
 refs:∀f∈t.t.1,length f.2<=1000000
 chk:rH t.t.2
theorem Md{b:Bool}{x p i:Int}:(bif !b then Q3 else bif Q0 (x<1)then Q3 else bif Q0 (x>3)then Q3 else p !=i)=Q4↔(b=Q3/\1<=x/\x<=3/\p=i):=by
 cases b
 ·simp
 ·by_cases h1:x<1
  ·rw[zt h1];simp;omega
  ·rw[af h1];by_cases h2:x>3
   ·rw[zt h2];simp;omega
   ·rw[af h2];exact⟨λh=>⟨rfl,ow,ow,by simpa using h⟩,λh=>by simpa using h.2.2.2⟩
theorem MT{x:Int}{n:Nat}:(bif Q0 (x<0)then Q3 else Q0 (x>=(n:Int)))=Q3↔¬CV x n:=by
 unfold CV;by_cases h:x<0
 ·rw[zt h];simp;omega
 ·rw[af h];simp;omega
theorem Ji{t:Sem zo}(hw:JX t):Gp t=Q1 (eF t,()):=by
 have hiff:=kR t;have hn1:=hw.ncols;have hn2:=hw.nuq;have hn3:=hw.nrf;have no:∀r:aw,r=(.kb Q4,[])->¬nH t->aL r.2 [Q7] r.1=Q1 (eF t,()):=by
  intro r hr h;have:eF t=Q4:=by
   rcases zF (eF t)with c|c
   ·exact absurd (hiff.1 c) h
   ·exact c
  rw[hr,this];rfl
 have hi:(zbJ t).val=if(bif !zK t.1 then true else bif decide ((t.2.1.length:Int)<1)then true else bif decide ((t.2.1.length:Int)>8)then true else bif decide (LT.lt (α:=Int) t.2.2.1 0)then true else bif decide (GE.ge (α:=Int) t.2.2.1 (t.2.1.length:Int))then true else !(getD t.2.1 (toNat t.2.2.1) (zi zj)).2.2)=true then some (.inr (.kb false,[]))else some (.inl (.h5 (t.2.1.length:Int) ((0:Nat):Int) (t,()))):=by
  simp only[zbJ,Q8,bv hw.name,eM hw.name];rw[if_pos]
  ·rfl
  ·rcases zF (zK t.1)with c|c
   ·rw[c];by_cases k1:LT.lt (α:=Int) t.2.2.1 0
    ·rw[zt k1];cases Q0 ((t.2.1.length:Int)<1)<;>cases Q0 ((t.2.1.length:Int)>8)<;>rfl
    ·by_cases k2:GE.ge (α:=Int) t.2.2.1 (t.2.1.length:Int)
     ·rw[zt k2];cases Q0 ((t.2.1.length:Int)<1)<;>cases Q0 ((t.2.1.length:Int)>8)<;>cases Q0 (LT.lt (α:=Int) t.2.2.1 0)<;>rfl
     ·have:zM t.2.2.1 t.2.1.length=Q3:=tz ⟨ow,ow⟩;rw[this];cases Q0 ((t.2.1.length:Int)<1)<;>cases Q0 ((t.2.1.length:Int)>8)<;>cases Q0 (LT.lt (α:=Int) t.2.2.1 0)<;>cases Q0 (GE.ge (α:=Int) t.2.2.1 (t.2.1.length:Int))<;>rfl
   ·rw[c];rfl
 rcases zF (bif !zK t.1 then Q3 else bif Q0 ((t.2.1.length:Int)<1)then Q3 else bif Q0 ((t.2.1.length:Int)>8)then Q3 else bif Q0 (LT.lt (α:=Int) t.2.2.1 0)then Q3 else bif Q0 (GE.ge (α:=Int) t.2.2.1 (t.2.1.length:Int))then Q3 else !(getD t.2.1 (toNat t.2.2.1) (zi zj)).2.2)with c|c
 ·rw[if_pos c]at hi;refine zN hi (no _ rfl λh=>?_);obtain⟨k1,k2⟩:=h.key;have e1:=h.n1;have e2:=h.n8;rw[h.name,af ow,af ow,af ow,af ow,h.nn]at c;cases c
 rw[if_neg (by rw[c];simp)]at hi;have hname:zK t.1=Q3:=by
  rcases zF (zK t.1)with k|k
  ·exact k
  ·rw[k]at c;cases c
 rw[hname]at c;have h1:1<=t.2.1.length:=by
  by_cases k:(t.2.1.length:Int)<1
  ·rw[zt k]at c;cases c
  ·omega
 rw[af (by omega:¬(t.2.1.length:Int)<1)]at c;have h8:t.2.1.length<=8:=by
  by_cases k:(t.2.1.length:Int)>8
  ·rw[zt k]at c;cases c
  ·omega
 rw[af (by omega:¬(t.2.1.length:Int)>8)]at c;have hk0:LE.le (α:=Int) 0 t.2.2.1:=by
  by_cases k:LT.lt (α:=Int) t.2.2.1 0
  ·rw[zt k]at c;cases c
  ·omega
 rw[af (by omega:¬LT.lt (α:=Int) t.2.2.1 0)]at c;have hkn:LT.lt (α:=Int) t.2.2.1 (t.2.1.length:Int):=by
  by_cases k:GE.ge (α:=Int) t.2.2.1 (t.2.1.length:Int)
  ·rw[zt k]at c;cases c
  ·omega
 rw[af (by omega:¬GE.ge (α:=Int) t.2.2.1 (t.2.1.length:Int))]at c;have hnn:(getD t.2.1 (toNat t.2.2.1) (zi zj)).2.2=Q3:=by simpa using c
 have f5:=lH (t:=qV) (Φ:=λr=>r=(.kb Q4,[])) 1 (λi=>.h5 (t.2.1.length:Int) (i:Int) (t,())) (λi=>zK (getD t.2.1 i (zi zj)).1=Q3/\LE.le (α:=Int) 1 (getD t.2.1 i (zi zj)).2.1/\LE.le (α:=Int) (getD t.2.1 i (zi zj)).2.1 3/\zZ t.2.1 (getD t.2.1 i (zi zj)).1=(i:Int)) t.2.1.length (by
  intro i hi _;have hcl:=hw.cols _ (bI (d:=zi zj) hi);have hv:(qV (.h5 (t.2.1.length:Int) (i:Int) (t,()))).val=if(bif !zK (getD t.2.1 i (zi zj)).1 then Q3 else bif Q0 (LT.lt (α:=Int) (getD t.2.1 i (zi zj)).2.1 1)then Q3 else bif Q0 (GT.gt (α:=Int) (getD t.2.1 i (zi zj)).2.1 3)then Q3 else zZ t.2.1 (getD t.2.1 i (zi zj)).1!=(i:Int))=Q3 then Q1 (.inr (.kb Q4,[]))else Q1 (.inl (.h5 (t.2.1.length:Int) ((i+1:Nat):Int) (t,()))):=by
   simp only[qV,Q8,zH hi,zu hi,aJ,bv hcl,eM hcl,iP (show t.2.1.length<=1000000 by omega),j8 (show t.2.1.length<=1000000 by omega),if_true];rw[if_pos,zp i um];cases zK (getD t.2.1 i (zi zj)).1<;>cases Q0 (LT.lt (α:=Int) (getD t.2.1 i (zi zj)).2.1 1)<;>cases Q0 (GT.gt (α:=Int) (getD t.2.1 i (zi zj)).2.1 3)<;>rfl
  rcases zF (bif !zK (getD t.2.1 i (zi zj)).1 then Q3 else bif Q0 (LT.lt (α:=Int) (getD t.2.1 i (zi zj)).2.1 1)then Q3 else bif Q0 (GT.gt (α:=Int) (getD t.2.1 i (zi zj)).2.1 3)then Q3 else zZ t.2.1 (getD t.2.1 i (zi zj)).1!=(i:Int))with c|c
  ·refine .inr ⟨λh=>?_,_,zT.of (by rw[hv,if_pos c]),rfl⟩;rw[Md.2 h]at c;cases c
  ·exact .inl ⟨Md.1 c,zQ.of (by rw[hv,if_neg (by rw[c];simp)])⟩)
 rcases f5 with⟨p5,f5⟩|⟨p5,r,f5,hr⟩
 case inr=>exact zx hi f5 ow (no _ hr λh=>p5 h.cols)
 have v5:(qV (.h5 (t.2.1.length:Int) (t.2.1.length:Int) (t,()))).val=Q1 (.inl (.h11 (t.2.1.length:Int) ((0:Nat):Int) (t,()))):=by
  simp only[qV,Q8,zA];rfl
 have g11:=f5.trans (zQ.of v5);have f11:=lH (t:=qV) (Φ:=λr=>r=(.kb Q4,[])) 1 (λi=>.h11 (t.2.1.length:Int) (i:Int) (t,())) (λi=>CV (getD t.2.2.2.1 i (zi zg)) t.2.1.length) t.2.2.2.1.length (by
  intro i hi _;have hv:(qV (.h11 (t.2.1.length:Int) (i:Int) (t,()))).val=if(bif Q0 (LT.lt (α:=Int) (getD t.2.2.2.1 i (zi zg)) 0)then Q3 else Q0 (GE.ge (α:=Int) (getD t.2.2.2.1 i (zi zg)) (t.2.1.length:Int)))=Q3 then Q1 (.inr (.kb Q4,[]))else Q1 (.inl (.h11 (t.2.1.length:Int) ((i+1:Nat):Int) (t,()))):=by
   simp only[qV,Q8,zH hi,zu hi,aJ,if_true];rw[if_pos,zp i um];cases Q0 (LT.lt (α:=Int) (getD t.2.2.2.1 i (zi zg)) 0)<;>rfl
  by_cases h:CV (getD t.2.2.2.1 i (zi zg)) t.2.1.length
  ·exact .inl ⟨h,zQ.of (by rw[hv,if_neg (by rw[af (by have:=h.1;omega),af (by have:=h.2;omega)];simp)])⟩
  ·refine .inr ⟨h,_,zT.of (by rw[hv,if_pos (MT.2 h)]),rfl⟩)
 rcases f11 with⟨p11,f11⟩|⟨p11,r,f11,hr⟩
 case inr=>exact zx hi (g11.ends f11) ow (no _ hr λh=>p11 ((aq (Q:=λu=>CV u t.2.1.length)).2 h.uniq))
 have v11:(qV (.h11 (t.2.1.length:Int) (t.2.2.2.1.length:Int) (t,()))).val=Q1 (.inl (.h16 (t.2.1.length:Int) ((0:Nat):Int) (t,()))):=by
  simp only[qV,Q8,zA];rfl
 have g16:=(g11.trans f11).trans (zQ.of v11);have f16:=lH (t:=qV) (Φ:=λr=>r=(.kb Q4,[])) 1 (λi=>.h16 (t.2.1.length:Int) (i:Int) (t,())) (λi=>CV (getD t.t.1 i (zi zr)).1 t.2.1.length/\zK (getD t.t.1 i (zi zr)).2=Q3) t.t.1.length (by
  intro i hi _;have hcl:=hw.refs _ (bI (d:=zi zr) hi);have hv:(qV (.h16 (t.2.1.length:Int) (i:Int) (t,()))).val=if(bif Q0 (LT.lt (α:=Int) (getD t.t.1 i (zi zr)).1 0)then Q3 else bif Q0 (GE.ge (α:=Int) (getD t.t.1 i (zi zr)).1 (t.2.1.length:Int))then Q3 else !zK (getD t.t.1 i (zi zr)).2)=Q3 then Q1 (.inr (.kb Q4,[]))else Q1 (.inl (.h16 (t.2.1.length:Int) ((i+1:Nat):Int) (t,()))):=by
   simp only[qV,Q8,zH hi,zu hi,aJ,bv hcl,eM hcl,if_true];rw[if_pos,zp i um];cases Q0 (LT.lt (α:=Int) (getD t.t.1 i (zi zr)).1 0)<;>cases Q0 (GE.ge (α:=Int) (getD t.t.1 i (zi zr)).1 (t.2.1.length:Int))<;>rfl
  by_cases h:CV (getD t.t.1 i (zi zr)).1 t.2.1.length
  ·rcases zF (zK (getD t.t.1 i (zi zr)).2)with c|c
   ·exact .inl ⟨⟨h,c⟩,zQ.of (by rw[hv,c,if_neg (by rw[af (by have:=h.1;omega),af (by have:=h.2;omega)];simp)])⟩
   ·exact .inr ⟨λh2=>(by rw[h2.2]at c;cases c),_,zT.of (by rw[hv,c,if_pos (by rw[af (by have:=h.1;omega),af (by have:=h.2;omega)];rfl)]),rfl⟩
  ·have hb:(bif Q0 (LT.lt (α:=Int) (getD t.t.1 i (zi zr)).1 0)then Q3 else bif Q0 (GE.ge (α:=Int) (getD t.t.1 i (zi zr)).1 (t.2.1.length:Int))then Q3 else !zK (getD t.t.1 i (zi zr)).2)=Q3:=by
    have:=MT.2 h;rcases zF (Q0 (LT.lt (α:=Int) (getD t.t.1 i (zi zr)).1 0))with k|k
    ·rw[k];rfl
    ·rw[k]at this⊢;rw[show Q0 (GE.ge (α:=Int) (getD t.t.1 i (zi zr)).1 (t.2.1.length:Int))=Q3 from this];rfl
   exact .inr ⟨λh2=>h h2.1,_,zT.of (by rw[hv,if_pos hb]),rfl⟩)
 rcases f16 with⟨p16,f16⟩|⟨p16,r,f16,hr⟩
 case inr=>exact zx hi (g16.ends f16) ow (no _ hr λh=>p16 ((aq (Q:=λf:Sem zr=>CV f.1 t.2.1.length/\zK f.2=Q3)).2 h.refs))
 have hch:BP t.t.2 t.2.1=Q3:=by unfold BP;rw[BQ hw.chk ow];rfl
 have hcv:Gq t.t.2 t.2.1=iq t.t.2 t.2.1:=by unfold Gq;rw[BQ hw.chk ow];rfl
 have v16:(qV (.h16 (t.2.1.length:Int) (t.t.1.length:Int) (t,()))).val=Q1 (.inr (.bool (iq t.t.2 t.2.1==(0:Int)),[])):=by
  simp only[qV,Q8,zA,zl,hch,hcv];rfl
 refine zx hi (g16.ends (f16.ends (zT.of v16))) ow ?_;have:eF t=(iq t.t.2 t.2.1==(0:Int)):=by
  apply iB.2;rw[hiff];constructor
  ·intro h;rw[h.chk];rfl
  ·intro h;exact⟨hname,h1,h8,p5,(aq (Q:=λu=>CV u t.2.1.length)).1 p11,(aq (Q:=λf:Sem zr=>CV f.1 t.2.1.length/\zK f.2=Q3)).1 p16,⟨hk0,hkn⟩,hnn,bF h⟩
 rw[this];rfl
theorem mu{t:Sem zo}(hw:JX t):wk t=Q3:=by unfold wk;rw[Ji hw];rfl
theorem qt{t:Sem zo}(hw:JX t):ES t=eF t:=by unfold ES;rw[Ji hw];rfl
section
variable {σ:Type} {t:σ->Tr (σ⊕aw)}
abbrev EY:aw:=(.kb Q4,[])
theorem Ks{α:Type}{la lb:List α}(st:Nat->σ)(hlen:la.length=lb.length)(hs:∀i(ha:i<la.length)(hb:i<lb.length),(la[i]=lb[i]->(t (st i)).val=Q1 (.inl (st (i+1))))/\(la[i]≠lb[i]->(t (st i)).val=Q1 (.inr EY))):
  (la=lb/\zQ t la.length (st 0) (st la.length))\/(la≠lb/\zT t la.length (st 0) EY):=by
 rcases lH (t:=t) (Φ:=λr=>r=EY) 1 st (λi=>la[i]?=lb[i]?) la.length (λi hi _=>by
  have hb:i<lb.length:=by omega
  obtain⟨h1,h2⟩:=hs i hi hb;rw[zR hi,zR hb];by_cases h:la[i]=lb[i]
  ·exact .inl ⟨by rw[h],zQ.of (h1 h)⟩
  ·exact .inr ⟨λh3=>h (Option.some.inj h3),EY,zT.of (h2 h),rfl⟩)with⟨h1,h2⟩|⟨h1,r,h2,rfl⟩
 ·rw[Nat.mul_one]at h2;refine .inl ⟨DA λi=>?_,h2⟩;by_cases hi:i<la.length
  ·exact h1 i hi
  ·rw[eX ow,eX ow]
 ·rw[Nat.mul_one]at h2;exact .inr ⟨λh=>h1 λi _=>by rw[h],h2⟩
end
theorem iX{α:Type}{a b:List α}:((a.length:Int)!=(b.length:Int))=Q3↔a.length≠b.length:=by
 simp[bne];omega
theorem BL:∀(N:Nat)(a b:ze),qR N a=Q3->∃r,bL N a b=Q1 (r,())/\(r=Q3↔a=b)
 |0,_,_,h=>by cases h
 | N + 1,.mk op v s l,.mk op' v' s' l',h=>by
  rw[qR]at h;simp only[aD,aP,dT]at h;obtain⟨hl,ha⟩:=h;rw[bL];unfold Gh
  have no:(A5 (λx0 x1=>gz (bL N x0 x1)) (λx0 x1=>(bL N x0 x1).isSome) (.mk op v s l) (.mk op' v' s' l')).val=Q1 (.inr EY)->¬(ze.mk op v s l=ze.mk op' v' s' l')->
    ∃r,al [Q7] (Ha (λx0 x1=>gz (bL N x0 x1)) (λx0 x1=>(bL N x0 x1).isSome)) 3000000000 (A5 (λx0 x1=>gz (bL N x0 x1)) (λx0 x1=>(bL N x0 x1).isSome) (.mk op v s l) (.mk op' v' s' l'))=Q1 (r,())/\(r=Q3↔ze.mk op v s l=ze.mk op' v' s' l'):=by
   intro hv hne;exact⟨Q4,zN hv rfl,by simp[hne]⟩
  have hd:∀c:Bool,(bif !op==op' then Q3 else bif !(v.1==v'.1&&(v.2.1==v'.2.1&&(v.2.2==v'.2.2&&Q3)))then Q3 else bif !s==s' then Q3 else(↑l.length:Int)!=(↑l'.length:Int))=c->
    (A5 (λx0 x1=>gz (bL N x0 x1)) (λx0 x1=>(bL N x0 x1).isSome) (.mk op v s l) (.mk op' v' s' l')).val=if c=Q3 then Q1 (.inr EY)else Q1 (.inl (.h4 ((0:Nat):Int) (.mk op v s l,()) (.mk op' v' s' l',()))):=by
   rintro c rfl;rfl
  by_cases e1:op=op';rotate_left
  ·exact no (by rw[hd Q3 (by rw[bN.2 e1];rfl)];rfl) (λh=>e1 (by injection h))
  by_cases e2:v=v';rotate_left
  ·refine no ?_ (λh=>e2 (by injection h));rw[hd Q3 ?_]
   ·rfl
   ·have:(v.1==v'.1&&(v.2.1==v'.2.1&&(v.2.2==v'.2.2&&Q3)))=Q4:=by
     rw[<-gg];intro h;simp at h;exact e2 (Prod.ext h.1 (Prod.ext h.2.1 h.2.2))
    rw[this];cases(op==op')<;>rfl
  by_cases e3:s=s';rotate_left
  ·refine no ?_ (λh=>e3 (by injection h));rw[hd Q3 ?_]
   ·rfl
   ·rw[bN.2 e3];cases(op==op')<;>cases(v.1==v'.1&&(v.2.1==v'.2.1&&(v.2.2==v'.2.2&&Q3)))<;>rfl
  by_cases e4:l.length=l'.length;rotate_left
  ·refine no ?_ (λh=>e4 (by injection h with _ _ _ h;rw[h]));rw[hd Q3 ?_]
   ·rfl
   ·rw[iX.2 e4];cases(op==op')<;>cases(v.1==v'.1&&(v.2.1==v'.2.1&&(v.2.2==v'.2.2&&Q3)))<;>cases(s==s')<;>rfl
  subst e1;subst e2;subst e3;have hv:=hd Q4 (by
   have:((↑l.length:Int)!=(↑l'.length:Int))=Q4:=by rw[<-gg,iX];exact λh=>h e4
   rw[this];simp)
  rw[if_neg sw]at hv
  rcases Ks (t:=Ha (λx0 x1=>gz (bL N x0 x1)) (λx0 x1=>(bL N x0 x1).isSome)) (la:=l) (lb:=l') (λi=>.h4 (i:Int) (.mk op v s l,()) (.mk op v s l',())) e4 (by
   intro i hi hi';obtain⟨r,hr,hiff⟩:=BL N l[i] l'[i] (ha _ (bq hi));have g1:getD l (i:Int).toNat (zi Q5)=l[i]:=zY _ _ hi;have g2:getD l' (i:Int).toNat (zi Q5)=l'[i]:=zY _ _ hi';have hval:(Ha (λx0 x1=>gz (bL N x0 x1)) (λx0 x1=>(bL N x0 x1).isSome) (.h4 (i:Int) (.mk op v s l,()) (.mk op v s l',()))).val=if(!r)=Q3 then Q1 (.inr EY)else Q1 (.inl (.h4 ((i+1:Nat):Int) (.mk op v s l,()) (.mk op v s l',()))):=by
    simp only[Ha,Hb,yP,Q8,ze.l,zl,g1,g2,zu hi,zu hi',hr,Dz,if_true];rw[zp i um];show(if Q0 ((i:Int)<(l.length:Int))=Q3 then _ else _)=_;rw[if_pos (zt ow)];rfl
   rw[hval];refine⟨λh=>?_,λh=>?_⟩
   ·rw[if_neg (by rw[hiff.2 h];simp)]
   ·rw[if_pos];cases r
    ·rfl
    ·exact absurd (hiff.1 rfl) h)with⟨h1,h2⟩|⟨h1,h2⟩
  ·subst h1;refine⟨Q3,zx hv (h2.ends (zT.of (r:=(.kb Q3,[])) ?_)) ow rfl,sw⟩;simp only[Ha,Hb,yP,Q8,ze.l];exact if_neg sw
  ·exact⟨Q4,zx hv h2 ow rfl,by simp[h1]⟩
theorem qm{a b:ze}(h:qR 16 a=Q3):gy a b=Q3/\(eT a b=Q3↔a=b):=by
 obtain⟨r,h1,h2⟩:=BL 16 a b h;have h1:yp a b=Q1 (r,()):=h1;refine⟨by unfold gy;rw[h1];rfl,?_⟩;have:eT a b=r:=by unfold eT;rw[h1];rfl
 rw[this];exact h2
section
variable {σ:Type} {t:σ->Tr (σ⊕aw)}
def Po(t:σ->Tr (σ⊕aw))(K:Nat)(nx:σ⊕aw)(r:aw):Prop:=match nx with
 |.inl h=>zT t K h r
 |.inr r'=>r'=r
theorem lp{α:Type}{la lb:List α}(st:Int->σ)(nx:σ⊕aw)(e:Nat->Bool)(hval:∀i:Nat,i<=la.length->(t (st i)).val=if Q0 (LT.lt (α:=Int) (i:Int) (la.length:Int))=Q3 then(if zM (i:Int) la.length=Q3 then(if zM (i:Int) lb.length=Q3 then(if(!e i)=Q3 then Q1 (.inr EY)else Q1 (.inl (st (IntKind.i64.wrap ((i:Int)+1)))))else Q2)else Q2)else Q1 nx)
  (he:∀i(_:i<la.length)(ha:i<la.length)(hb:i<lb.length),e i=Q3↔la[i]=lb[i]) (hlen:la.length=lb.length) (hm:la.length<=1000000):
  (la=lb/\∀K r,Po t K nx r->zT t (K+la.length+1) (st 0) r)\/(la≠lb/\zT t la.length (st 0) EY):=by
 rcases Ks (t:=t) (la:=la) (lb:=lb) (λi=>st (i:Int)) hlen (λi ha hb=>by
  have hv:=hval i ow;rw[if_pos (zt ow),if_pos (zu ha),if_pos (zu hb),zp i um]at hv;have:=he i ha ha hb;refine⟨λh=>?_,λh=>?_⟩
  ·rw[hv,if_neg (by rw[this.2 h];simp)]
  ·rw[hv,if_pos];cases hh:e i
   ·rfl
   ·exact absurd (this.1 hh) h)with⟨h1,h2⟩|⟨h1,h2⟩
 ·refine .inl ⟨h1,λK r hr=>?_⟩;have hv:=hval la.length (aB _);rw[if_neg sw]at hv;unfold Po at hr;cases nx with
  |inl h=>exact(h2.ends ((zQ.of hv).ends hr)).mono ow
  |inr r'=>cases hr;exact(h2.ends (zT.of hv)).mono ow
 ·exact .inr ⟨h1,h2⟩
end
theorem PZ(a b:Sem zj):(a.1==b.1&&(a.2.1==b.2.1&&(a.2.2==b.2.2&&Q3)))=Q3↔a=b:=by
 simp[Prod.ext_iff]
theorem ziT(a b:Sem iD):(a.1==b.1&&(a.2==b.2&&Q3))=Q3↔a=b:=by
 simp[Prod.ext_iff]
theorem zbc(a b:Sem zr):(a.1==b.1&&(a.2==b.2&&Q3))=Q3↔a=b:=by
 simp[Prod.ext_iff]
theorem zcK(a b:Sem zf):(a.1==b.1&&(a.2.1==b.2.1&&(a.2.2==b.2.2&&Q3)))=Q3↔a=b:=by
 simp[Prod.ext_iff]
theorem SO{x y:Bool}(h:(bif x then Q3 else y)=Q4):x=Q4/\y=Q4:=by
 cases x
 ·exact⟨rfl,h⟩
 ·cases h
theorem Sm{α:Type}[BEq α][LawfulBEq α]{a b:α}(h:(!a==b)=Q4):a=b:=by
 cases hh:(a==b)
 ·rw[hh]at h;cases h
 ·simpa using hh
theorem OE{α:Type}{a b:List α}(h:((↑(length a):Int)!=(↑(length b):Int))=Q4):a.length=b.length:=by
 simp[bne]at h;omega
structure yT (a:Sem zk):Prop where
 names:a.2.2.2.1.length<=1000
 cols:a.t.1.length<=1000
 uniques:a.t.q.1.length<=1000
 refs:a.t.q.2.1.length<=1000
 row:a.t.t.2.1.length<=1000
 sets:a.t.t.q.1.length<=1000
 chk:qR 16 a.t.t.1=Q3
 whr:qR 16 a.t.t.q.2.1=Q3
 ex:∀x∈a.t.t.q.1,qR 16 (x:Sem gU).2=Q3
theorem Lj{a b:Sem zk}(h:yT a):∃r,qz a b=Q1 (r,())/\(r=Q3↔a=b):=by
 obtain⟨a1,a2,a3,a4,a5,a6,a7,a8,a9,a10,a11,a12,a13⟩:=a;obtain⟨b1,b2,b3,b4,b5,b6,b7,b8,b9,b10,b11,b12,b13⟩:=b;obtain⟨h4,h5,h7,h8,h10,h11,h9,h12,hx⟩:=h;have h4:a4.length<=1000:=h4;have h5:a5.length<=1000:=h5;have h7:a7.length<=1000:=h7;have h8:a8.length<=1000:=h8;have h10:a10.length<=1000:=h10;have h11:a11.length<=1000:=h11;have hx:∀x∈a11,qR 16 (x:Sem gU).2=Q3:=hx;obtain⟨s1,s2⟩:=qm (b:=b9) (show qR 16 a9=Q3 from h9);obtain⟨u1,u2⟩:=qm (b:=b12) (show qR 16 a12=Q3 from h12);generalize hA:((a1,a2,a3,a4,a5,a6,a7,a8,a9,a10,a11,a12,a13):Sem zk)=A;generalize hB:((b1,b2,b3,b4,b5,b6,b7,b8,b9,b10,b11,b12,b13):Sem zk)=B;have hne:∀r:aw,∀{k s},(VP A B).val=Q1 (.inl s)->A≠B->zT sG k s EY->k<=100000000->∃r,qz A B=Q1 (r,())/\(r=Q3↔A=B):=by
  intro _ k s h1 h h2 h3;exact⟨Q4,zx h1 h2 h3 rfl,by simp[h]⟩
 have hv:∀c d:Bool,(bif !a1==b1 then Q3 else bif !a2==b2 then Q3 else bif !a3==b3 then Q3 else bif !a6==b6 then Q3 else bif !a13==b13 then Q3 else bif !eT a9 b9 then Q3 else !eT a12 b12)=c->
   (bif (↑(length a4):Int)!=(↑(length b4):Int)then Q3 else bif (↑(length a5):Int)!=(↑(length b5):Int)then Q3 else bif (↑(length a7):Int)!=(↑(length b7):Int)then Q3 else bif (↑(length a8):Int)!=(↑(length b8):Int)then Q3 else bif (↑(length a10):Int)!=(↑(length b10):Int)then Q3 else(↑(length a11):Int)!=(↑(length b11):Int))=d->
   (VP A B).val=if c=Q3 then Q1 (.inr EY)else if d=Q3 then Q1 (.inr EY)else Q1 (.inl (.h6 0 (A,()) (B,()))):=by
  rintro c d rfl rfl;subst hA;subst hB;have hg:∀x:Bool,(bif !a1==b1 then Q3 else bif !a2==b2 then Q3 else bif !a3==b3 then Q3 else bif !a6==b6 then Q3 else bif !a13==b13 then Q3 else gy a9 b9&&bif x then Q3 else gy a12 b12)=Q3:=by
   intro x;rw[s1,u1];cases(!a1==b1)<;>cases(!a2==b2)<;>cases(!a3==b3)<;>cases(!a6==b6)<;>cases(!a13==b13)<;>cases x<;>rfl
  simp only[VP,Q8,zl];rw[if_pos (hg _)]
 cases hc:(bif !a1==b1 then Q3 else bif !a2==b2 then Q3 else bif !a3==b3 then Q3 else bif !a6==b6 then Q3 else bif !a13==b13 then Q3 else bif !eT a9 b9 then Q3 else !eT a12 b12);rotate_left
 ·refine⟨Q4,zN (r:=EY) (by rw[hv Q3 _ hc rfl];rfl) rfl,?_⟩;constructor
  ·intro h;cases h
  ·intro h;rw[<-hA,<-hB]at h;simp only[cr]at h;obtain⟨rfl,rfl,rfl,rfl,rfl,rfl,rfl,rfl,rfl,rfl,rfl,rfl,rfl⟩:=h;have k1:=s2.2 rfl;have k2:=u2.2 rfl;rw[k1,k2]at hc;simp at hc
 cases hd:(bif (↑(length a4):Int)!=(↑(length b4):Int)then Q3 else bif (↑(length a5):Int)!=(↑(length b5):Int)then Q3 else bif (↑(length a7):Int)!=(↑(length b7):Int)then Q3 else bif (↑(length a8):Int)!=(↑(length b8):Int)then Q3 else bif (↑(length a10):Int)!=(↑(length b10):Int)then Q3 else(↑(length a11):Int)!=(↑(length b11):Int));rotate_left
 ·refine⟨Q4,zN (r:=EY) (by rw[hv Q4 Q3 hc hd];rfl) rfl,?_⟩;constructor
  ·intro h;cases h
  ·intro h;rw[<-hA,<-hB]at h;simp only[cr]at h;obtain⟨rfl,rfl,rfl,rfl,rfl,rfl,rfl,rfl,rfl,rfl,rfl,rfl,rfl⟩:=h;simp at hd
 have hi:=hv Q4 Q4 hc hd;rw[if_neg sw,if_neg sw]at hi;obtain⟨m1,hc⟩:=SO hc;obtain⟨m2,hc⟩:=SO hc;obtain⟨m3,hc⟩:=SO hc;obtain⟨m6,hc⟩:=SO hc;obtain⟨m13,hc⟩:=SO hc;obtain⟨m9,m12⟩:=SO hc;obtain⟨n4,hd⟩:=SO hd;obtain⟨n5,hd⟩:=SO hd;obtain⟨n7,hd⟩:=SO hd;obtain⟨n8,hd⟩:=SO hd;obtain⟨n10,n11⟩:=SO hd;have e1:=Sm m1;have e2:=Sm m2;have e3:=Sm m3;have e6:=Sm m6;have e13:=Sm m13;have e9:=s2.1 (by simpa using m9);have e12:=u2.1 (by simpa using m12);subst e1;subst e2;subst e3;subst e6;subst e13;subst e9;subst e12;have no:∀{k},A≠B->zT sG k (.h6 0 (A,()) (B,())) EY->k<=100000000->∃r,qz A B=Q1 (r,())/\(r=Q3↔A=B):=λh1 h2 h3=>hne EY hi h1 h2 h3
 rcases lp (t:=sG) (la:=a4) (lb:=b4) (λi=>.h6 i (A,()) (B,())) (.inl (.h11 0 (A,()) (B,()))) (λi=>getD a4 (i:Int).toNat (zi Q6)==getD b4 (i:Int).toNat (zi Q6)) (λ_ _=>by subst hA;subst hB;rfl) (λi _ ha hb=>by rw[aZ,zY _ _ ha,zY _ _ hb]) (OE n4) ow with⟨q4,k4⟩|⟨q4,k4⟩;rotate_left
 ·exact no (λh=>q4 (by rw[<-hA,<-hB]at h;simp only[cr]at h;exact h.2.2.2.1)) k4 ow
 rcases lp (t:=sG) (la:=a5) (lb:=b5) (λi=>.h11 i (A,()) (B,())) (.inl (.h16 0 (A,()) (B,()))) (λi=>((getD a5 (i:Int).toNat (zi zj)).1==(getD b5 (i:Int).toNat (zi zj)).1&&((getD a5 (i:Int).toNat (zi zj)).2.1==(getD b5 (i:Int).toNat (zi zj)).2.1&&((getD a5 (i:Int).toNat (zi zj)).2.2==(getD b5 (i:Int).toNat (zi zj)).2.2&&Q3)))) (λ_ _=>by subst hA;subst hB;rfl) (λi _ ha hb=>by rw[PZ,zY _ _ ha,zY _ _ hb]) (OE n5) ow with⟨q5,k5⟩|⟨q5,k5⟩;rotate_left
 ·exact no (λh=>q5 (by rw[<-hA,<-hB]at h;simp only[cr]at h;exact h.t.1)) (k4 _ _ k5) ow
 rcases lp (t:=sG) (la:=a7) (lb:=b7) (λi=>.h16 i (A,()) (B,())) (.inl (.h21 0 (A,()) (B,()))) (λi=>getD a7 (i:Int).toNat (zi Q6)==getD b7 (i:Int).toNat (zi Q6)) (λ_ _=>by subst hA;subst hB;rfl) (λi _ ha hb=>by rw[aZ,zY _ _ ha,zY _ _ hb]) (OE n7) ow with⟨q7,k7⟩|⟨q7,k7⟩;rotate_left
 ·exact no (λh=>q7 (by rw[<-hA,<-hB]at h;simp only[cr]at h;exact h.t.q.1)) (k4 _ _ (k5 _ _ k7)) ow
 rcases lp (t:=sG) (la:=a8) (lb:=b8) (λi=>.h21 i (A,()) (B,())) (.inl (.h26 0 (A,()) (B,()))) (λi=>((getD a8 (i:Int).toNat (zi iD)).1==(getD b8 (i:Int).toNat (zi iD)).1&&((getD a8 (i:Int).toNat (zi iD)).2==(getD b8 (i:Int).toNat (zi iD)).2&&Q3))) (λ_ _=>by subst hA;subst hB;rfl) (λi _ ha hb=>by rw[ziT,zY _ _ ha,zY _ _ hb]) (OE n8) ow with⟨q8,k8⟩|⟨q8,k8⟩;rotate_left
 ·exact no (λh=>q8 (by rw[<-hA,<-hB]at h;simp only[cr]at h;exact h.t.q.2.1)) (k4 _ _ (k5 _ _ (k7 _ _ k8))) ow
 rcases lp (t:=sG) (la:=a10) (lb:=b10) (λi=>.h26 i (A,()) (B,())) (.inl (.h31 0 (A,()) (B,()))) (λi=>((getD a10 (i:Int).toNat (zi zf)).1==(getD b10 (i:Int).toNat (zi zf)).1&&((getD a10 (i:Int).toNat (zi zf)).2.1==(getD b10 (i:Int).toNat (zi zf)).2.1&&((getD a10 (i:Int).toNat (zi zf)).2.2==(getD b10 (i:Int).toNat (zi zf)).2.2&&Q3)))) (λ_ _=>by subst hA;subst hB;rfl) (λi _ ha hb=>by rw[zcK,zY _ _ ha,zY _ _ hb]) (OE n10) ow with⟨q10,k10⟩|⟨q10,k10⟩;rotate_left
 ·exact no (λh=>q10 (by rw[<-hA,<-hB]at h;simp only[cr]at h;exact h.t.t.2.1)) (k4 _ _ (k5 _ _ (k7 _ _ (k8 _ _ k10)))) ow
 have l11:=OE n11
 rcases Ks (t:=sG) (la:=a11) (lb:=b11) (λi=>.h31 (i:Int) (A,()) (B,())) l11 (λi ha hb=>by
  obtain⟨w1,w2⟩:=qm (a:=a11[i].2) (b:=b11[i].2) (hx _ (bq ha));have hval:(sG (.h31 (i:Int) (A,()) (B,()))).val=if(bif !a11[i].1==b11[i].1 then Q3 else !eT a11[i].2 b11[i].2)=Q3 then Q1 (.inr EY)else Q1 (.inl (.h31 ((i+1:Nat):Int) (A,()) (B,()))):=by
   subst hA;subst hB;show(sG (.h31 _ _ _)).val=_;simp only[sG,Q8,zl,zY _ _ ha,zY _ _ hb,zH ha,zu ha,zu hb,w1,if_true,dl];rw[zp i um];cases(!a11[i].1==b11[i].1)<;>rfl
  refine⟨λh=>?_,λh=>?_⟩
  ·have k:=w2.2 (by rw[h]);rw[hval,if_neg (by rw[k,h];simp)]
  ·rw[hval,if_pos];cases hh:(a11[i].1==b11[i].1)
   ·rfl
   ·cases hw:eT a11[i].2 b11[i].2
    ·rfl
    ·exact absurd (Prod.ext (by simpa using hh) (w2.1 hw)) h)with⟨q11,k11⟩|⟨q11,k11⟩
 rotate_left
 ·exact no (λh=>q11 (by rw[<-hA,<-hB]at h;simp only[cr]at h;exact h.t.t.q.1)) (k4 _ _ (k5 _ _ (k7 _ _ (k8 _ _ (k10 _ _ k11))))) ow
 have hend:(sG (.h31 (a11.length:Int) (A,()) (B,()))).val=Q1 (.inr (.kb Q3,[])):=by
  subst hA;subst hB;show(sG (.h31 _ _ _)).val=_;simp only[sG,Q8,zA];rfl
 refine⟨Q3,zx hi (k4 _ _ (k5 _ _ (k7 _ _ (k8 _ _ (k10 _ _ (k11.ends (zT.of hend))))))) ow rfl,?_⟩;subst q4;subst q5;subst q7;subst q8;subst q10;subst q11;rw[<-hA,<-hB];simp
theorem qA{a b:Sem zk}(h:yT a):yB a b=Q3/\(eU a b=Q3↔a=b):=by
 obtain⟨r,h1,h2⟩:=Lj (b:=b) h;refine⟨by unfold yB;rw[h1];rfl,?_⟩;have:eU a b=r:=by unfold eU;rw[h1];rfl
 rw[this];exact h2
theorem jX{e:ze}:gM e=Q3↔e=.mk [] (0,0,[]) [] []:=by
 obtain⟨op,⟨k,i,t⟩,s,l⟩:=e;unfold gM;show(bif op==[]then bif k==0&&(i==0&&(t==[]&&Q3))then bif s==[]then(↑l.length:Int)==0 else Q4 else Q4 else Q4)=Q3↔_;simp only[ze.mk.injEq,cr];constructor
 ·intro h;obtain⟨h1,h⟩:=ck h;obtain⟨h2,h⟩:=ck h;obtain⟨h3,h⟩:=ck h;simp at h1 h2 h3 h;exact⟨h1,h2,h3,h⟩
 ·rintro⟨rfl,⟨rfl,rfl,rfl⟩,rfl,rfl⟩;rfl
theorem Qq{e:ze}(h:cY e=Q3):(e.op==[])=Q4:=by
 have f:=fu (ko h);clear h;cases f with
 |lit v hv=>rfl
 |col s hs hr=>rfl
 |one op a ho ha=>rcases ho with rfl|rfl<;>rfl
 |two op a b ho ha hb=>rcases ho with rfl|rfl|rfl|rfl|rfl|rfl<;>rfl
theorem Qr{e:ze}(h:cY e=Q3):nE 12 e<=60:=by
 rw[vg]at h;by_cases k:nE 12 e<=60
 ·exact k
 ·exfalso;rw[af k]at h;cases cg 12 e<;>simp at h
theorem Jd{e:ze}(hw:rH e)(h:cY e=Q3):qn e=Q3/\pg e=aO 16 e/\(aO 16 e).length<=24000:=by
 obtain⟨h1,h2⟩:=qo 16 12 16 e ow ow ow (ko h) hw;have h1:Gi e=Q1 (aO 16 e,()):=h1;have h3:=Qr h;refine⟨by unfold qn;rw[h1];rfl,by unfold pg;rw[h1];rfl,ow⟩
def oD(w:zB)(e:ze):zB:=if(e.op==[])=Q3 then[]else if cY e=Q3 then(if(w==[87,72,69,82,69])=Q3 then[32,87,72,69,82,69,32]++aO 16 e else w++[32,67,72,69,67,75,32,40,32]++aO 16 e++[32,41])else[]
theorem OV{e:ze}(hw:rH e)(hc:qR 16 e=Q3){w:zB}(hl:w.length<=1000):yC e w=Q1 (oD w e,bQ e,())/\(oD w e).length<=30000:=by
 unfold oD;by_cases h0:(e.op==[])=Q3
 ·rw[if_pos h0];obtain⟨s1,s2⟩:=qm (b:=.mk [] (0,0,[]) [] []) hc;have hm:cY e=Q4:=by
   cases h:cY e
   ·rfl
   ·rw[Qq h]at h0;cases h0
  have he:eT e (.mk [] (0,0,[]) [] [])=bQ e:=by
   unfold bQ;rw[hm];apply iB.2;rw[s2,<-jX];cases gM e<;>simp
  refine⟨zN (r:=(.tup [.str [],.bool (bQ e)],[])) ?_ rfl,sw⟩;simp only[Iu,Q8,zl,h0,s1,he,if_true]
 ·rw[if_neg h0];have hn:gM e=Q4:=by
   cases h:gM e
   ·rfl
   ·rw[jX.1 h]at h0;exact absurd rfl h0
  have hmb:bQ e=cY e:=by unfold bQ;rw[hn];rfl
  have h0:(e.op==[])=Q4:=by simpa using h0
  rw[hmb];by_cases hm:cY e=Q3
  ·obtain⟨t1,t2,t3⟩:=Jd hw hm;rw[if_pos hm,hm];by_cases hwh:(w==[87,72,69,82,69])=Q3
   ·rw[if_pos hwh];refine⟨zN (r:=(.tup [.str ([32,87,72,69,82,69,32]++aO 16 e),.kb Q3],[])) ?_ rfl,sg⟩;simp only[Iu,Q8,zl,h0,mr hw,ql hw,hm,hwh,t1,t2,if_true];rw[if_neg sw,if_neg sw,if_pos (zt sg)]
   ·rw[if_neg hwh];have hwh:(w==[87,72,69,82,69])=Q4:=by simpa using hwh
    refine⟨zN (r:=(.tup [.str (w++[32,67,72,69,67,75,32,40,32]++aO 16 e++[32,41]),.kb Q3],[])) ?_ rfl,sg⟩;simp only[Iu,Q8,zl,h0,mr hw,ql hw,hm,hwh,t1,t2,if_true];rw[if_neg sw,if_neg sw,if_neg sw,if_pos (zt sg),if_pos (zt sg),if_pos (zt sg)]
  ·rw[if_neg hm];have hm:cY e=Q4:=by simpa using hm
   rw[hm];refine⟨zN (r:=(.tup [.str [],.kb Q4],[])) ?_ rfl,sw⟩;simp only[Iu,Q8,zl,h0,mr hw,ql hw,hm,if_true];rfl
theorem bg{e:ze}(hw:rH e)(hc:qR 16 e=Q3){w:zB}(hl:w.length<=1000):uk e w=Q3/\B2 e w=(oD w e,bQ e)/\(oD w e).length<=30000:=by
 obtain⟨h1,h2⟩:=OV hw hc hl;exact⟨by unfold uk;rw[h1];rfl,by unfold B2;rw[h1];rfl,h2⟩
theorem Ap{e:ze}(h:bQ e=Q3):kj [32] e=oD [] e:=by
 unfold kj oD;unfold bQ at h;cases hn:gM e
 ·rw[hn]at h;have hm:cY e=Q3:=h;rw[if_neg sw,if_neg (by rw[Qq hm];simp),if_pos hm];unfold iv mY;rw[hm];rfl
 ·rw[if_pos rfl];rw[jX.1 hn];rfl
theorem Ev(sep x:zB):∀l:List zB,Lib.join (l++[x]) sep=if l=[]then x else Lib.join l sep++sep++x
 |[]=>by rw[if_pos rfl];exact Lib.join_one x sep
 |[a]=>by simp[Lib.join,List.intercalate,List.intersperse]
 | a::b::r=>by
  have ih:=Ev sep x (b::r);rw[if_neg sw]at ih⊢;have e1:∀(c:zB)(q:List zB),Lib.join (a::c::q) sep=a++sep++Lib.join (c::q) sep:=λc q=>by simp[Lib.join,List.intercalate,List.intersperse]
  show Lib.join (a::b::(r++[x])) sep=_;rw[e1,e1];rw[show b::(r++[x])=(b::r)++[x]from rfl,ih];simp
theorem Lm{l:List zB}(hl:l.length<=100)(hs:∀x∈l,length x<=1000):∃t,ul l=Q1 (t,(Q0 (∀x∈l,zK x=Q3)&&(Q0 (1<=l.length)&&Q0 (l.length<=8))),())/\t.length<=200000/\((∀x∈l,zK x=Q3)->t=Lib.join l [32,44,32]):=by
 have hjl:∀i,i<=l.length->(Lib.join (l.take i) [32,44,32]).length<=110000:=by
  intro i hi;have:=tE [32,44,32] 1000 (l.take i) (λx hx=>hs x (List.mem_of_mem_take hx));have h2:(l.take i).length<=100:=by simp;omega
  have h3:=gK (1000+([32,44,32]:zB).length) h2;simp at this h3⊢;omega
 have hstep:∀i(hi:i<l.length),(Cu (.h3 l (Lib.join (l.take i) [32,44,32]) (i:Int))).val=if zK l[i]=Q3 then Q1 (.inl (.h3 l (Lib.join (l.take (i+1)) [32,44,32]) ((i+1:Nat):Int)))else Q1 (.inr (.tup [.str [],.kb Q4],[])):=by
  intro i hi;have hx:=hs _ (bq hi);have hj:=hjl i ow;show(Cu (.h3 _ _ _)).val=_;simp only[Cu,Q8,zY _ _ hi,zH hi,zu hi,bv (s:=l[i]) ow,eM (s:=l[i]) ow,if_true];rw[zp i um,Y5 hi,Ev];by_cases hn:zK l[i]=Q3
  ·rw[if_neg (by rw[hn];simp),if_pos hn];by_cases h0:i=0
   ·subst h0;rw[if_neg sw,if_pos (zt (by simp[Lib.join_nil];omega)),if_pos sw];rfl
   ·rw[if_pos (zt ow),if_pos (zt sg),if_pos (zt sg),if_neg (by
     intro h;have:=congrArg length h;simp at this;rcases this with h|h
     ·exact h0 h
     ·rw[h]at hi;simp at hi)]
  ·rw[if_pos (by simpa using hn),if_neg hn]
 rcases lH (t:=Cu) (Φ:=λr=>r=(.tup [.str [],.kb Q4],[])) 1 (λi=>.h3 l (Lib.join (l.take i) [32,44,32]) (i:Int)) (λi=>∀h:i<l.length,zK l[i]=Q3) l.length (λi hi _=>by
  by_cases hn:zK l[i]=Q3
  ·exact .inl ⟨λ_=>hn,zQ.of (by rw[hstep i hi,if_pos hn])⟩
  ·exact .inr ⟨λh=>hn (h hi),_,zT.of (by rw[hstep i hi,if_neg hn]),rfl⟩)with⟨h1,h2⟩|⟨h1,r,h2,rfl⟩
 ·have hall:∀x∈l,zK x=Q3:=by
   intro x hx;obtain⟨j,hj,rfl⟩:=gL hx;exact h1 j hj hj
  rw[ji]at h2;have hj:=hjl l.length (aB _);rw[ji]at hj;refine⟨Lib.join l [32,44,32],zx (s:=.h3 l [] 0) rfl (h2.ends (zT.of (r:=(.tup [.str (Lib.join l [32,44,32]),.bool (bif Q0 (1<=(↑l.length:Int))then Q0 ((↑l.length:Int)<=8)else Q4)],[])) ?_)) ow ?_,ow,λ_=>rfl⟩
  ·show(Cu (.h3 _ _ _)).val=_;simp only[Cu,Q8,zA];cases Q0 (1<=(↑l.length:Int))<;>rfl
  ·rw[zt hall];have e1:Q0 (1<=(↑l.length:Int))=Q0 (1<=l.length):=by
    by_cases h:1<=l.length
    ·rw[zt h];exact zt ow
    ·rw[af h];exact af ow
   have e2:Q0 ((↑l.length:Int)<=8)=Q0 (l.length<=8):=by
    by_cases h:l.length<=8
    ·rw[zt h];exact zt ow
    ·rw[af h];exact af ow
   rw[e1,e2];cases Q0 (1<=l.length)<;>cases Q0 (l.length<=8)<;>rfl
 ·have hne:¬∀x∈l,zK x=Q3:=λh=>h1 λi _ hi=>h _ (bq hi)
  refine⟨[],zx (s:=.h3 l [] 0) rfl h2 ow ?_,sw,λh=>absurd h hne⟩;rw[af hne];rfl
structure ol (s:Sem zk):Prop where
 sh:lJ s
 chk:rH s.t.t.1
 whr:rH s.t.t.q.2.1
 cchk:qR 16 s.t.t.1=Q3
 cwhr:qR 16 s.t.t.q.2.1=Q3
 row:∀v∈s.t.t.2.1,lK v
 sets:∀x∈s.t.t.q.1,rH (x:Sem gU).2/\qR 16 (x:Sem gU).2=Q3
def zaR(B:Nat)(r:aw):Prop:=∃(tx:zB)(b:Bool),aL r.2 [Q6,Q7] r.1=Q1 (tx,b,())/\tx.length<=B
theorem zjx{s:Sem zk}(h:ol s)(b4:Bool)(s5:zB)(hs:s5.length<=60000)(n:Nat)(hn:30<=n):∃r,cQ fi n (.h20 b4 s5 0 (s,()))=Q1 r/\zaR 200000 r:=by
 have hl:=h.sh.refs.1;refine de (t:=fi) (β:=Bool×zB) s.t.q.2.1.length (λb i=>.h20 b.1 b.2 (i:Int) (s,())) (λb i=>b.2.length<=60000+2100*i) _ 1 ?_ ?_ s.t.q.2.1.length 0 (b4,s5) n rfl (bd _) (by simpa using hs) ow
 ·rintro⟨b,x⟩ i hi hI;have hI:x.length<=60000+2100*i:=hI;obtain⟨r1,r2⟩:=h.sh.refs.2 _ (bq hi);have g:getD s.t.q.2.1 (i:Int).toNat (zi iD)=s.t.q.2.1[i]:=zY _ _ hi;generalize s.t.q.2.1[i]=f at g r1 r2;refine .inl ⟨(bif b then bif bp f.1 then bp f.2 else Q4 else Q4,x++([32,44,32,82,69,70,69,82,69,78,67,69,83,32,40,32]++f.1++[32,41,32]++f.2)),sg,?_⟩;show(fi (.h20 _ _ _ _)).val=_;simp only[fi,Q8,g,zH hi,zu hi,bv (s:=f.1) ow,bv (s:=f.2) ow,if_true];rw[zp i um,if_pos (by cases b<;>cases bp f.1<;>rfl),if_pos (zt sg),if_pos (zt sg),if_pos (zt sg),if_pos (zt sg)]
 ·rintro⟨b,x⟩ n hI hn;have hI:x.length<=60000+2100*s.t.q.2.1.length:=hI;obtain⟨n,rfl⟩:∃k,n=k+1:=⟨n-1,ow⟩;obtain⟨c1,c2,c3⟩:=bg h.chk h.cchk (w:=[32,44]) sw;have hv:(fi (.h20 b x (s.t.q.2.1.length:Int) (s,()))).val=Q1 (.inr (.tup [.str (x++oD [32,44] s.t.t.1++[32,41]),.bool (bif b then bQ s.t.t.1 else Q4)],[])):=by
   show(fi (.h20 _ _ _ _)).val=_;simp only[fi,Q8,zl,zA,c1,c2,if_true]
   rw[if_neg sw,if_pos (by
    have:x.length+(oD [32,44] s.t.t.1).length<=200000:=by omega
    simp;omega)]
   cases b<;>rfl
  rw[cE,hv];exact⟨_,rfl,_,_,rfl,sg⟩
theorem zjw{s:Sem zk}(h:ol s)(b4:Bool)(s5:zB)(hs:s5.length<=30000)(n:Nat)(hn:60<=n):∃r,cQ fi n (.h15 b4 s5 0 (s,()))=Q1 r/\zaR 200000 r:=by
 have hl:=h.sh.uniques.1;refine de (t:=fi) (β:=Bool×zB) s.t.q.1.length (λb i=>.h15 b.1 b.2 (i:Int) (s,())) (λb i=>b.2.length<=30000+1100*i) _ 31 ?_ ?_ s.t.q.1.length 0 (b4,s5) n rfl (bd _) (by simpa using hs) ow
 ·rintro⟨b,x⟩ i hi hI;have hI:x.length<=30000+1100*i:=hI;have r1:=h.sh.uniques.2 _ (bq hi);have g:getD s.t.q.1 (i:Int).toNat (zi Q6)=s.t.q.1[i]:=zY _ _ hi;generalize s.t.q.1[i]=f at g r1;refine .inl ⟨(bif b then bp f else Q4,x++([32,44,32,85,78,73,81,85,69,32,40,32]++f++[32,41])),sg,?_⟩;show(fi (.h15 _ _ _ _)).val=_;simp only[fi,Q8,g,zH hi,zu hi,bv (s:=f) ow,if_true];rw[zp i um,if_pos (by cases b<;>rfl),if_pos (zt sg),if_pos (zt sg),if_pos (zt sg)]
 ·rintro⟨b,x⟩ n hI hn;have hI:x.length<=30000+1100*s.t.q.1.length:=hI;obtain⟨n,rfl⟩:∃k,n=k+1:=⟨n-1,ow⟩;have hv:(fi (.h15 b x (s.t.q.1.length:Int) (s,()))).val=Q1 (.inl (.h20 b x 0 (s,()))):=by
   show(fi (.h15 _ _ _ _)).val=_;simp only[fi,Q8,zA];rfl
  rw[cE,hv];exact zjx h b x ow n ow
theorem cr4{s:Sem zk}(h:ol s)(b4:Bool)(s5:zB)(hs:s5.length<=2000)(n:Nat)(hn:100<=n):∃r,cQ fi n (.h4 b4 s5 0 (s,()))=Q1 r/\zaR 200000 r:=by
 have hl:=h.sh.cols.1;have hk:=h.sh.key;refine de (t:=fi) (β:=zB) s.t.1.length (λb i=>.h4 b4 b (i:Int) (s,())) (λb i=>b.length<=2000+1100*i) _ 61 ?_ ?_ s.t.1.length 0 s5 n rfl (bd _) (by simpa using hs) ow
 ·intro x i hi hI;have r1:=h.sh.cols.2 _ (bq hi);have g:getD s.t.1 (i:Int).toNat (zi zj)=s.t.1[i]:=zY _ _ hi;generalize s.t.1[i]=f at g r1
  have hv:((fi (.h4 b4 x (i:Int) (s,()))).val=if(bif !bp f.1 then Q3 else bif Q0 (LT.lt (α:=Int) f.2.1 1)then Q3 else Q0 (GT.gt (α:=Int) f.2.1 3))=Q3 then Q1 (.inr (.tup [.str [],.kb Q4],[]))else
    Q1 (.inl (.h4 b4 ((if f.2.2=Q3 then x++(f.1++[32]++[[],[73,78,84],[84,69,88,84],[66,79,79,76]].getD (toNat f.2.1) (zi Q6))++[32,78,79,84,32,78,85,76,76]else x++(f.1++[32]++[[],[73,78,84],[84,69,88,84],[66,79,79,76]].getD (toNat f.2.1) (zi Q6)))++[32,44,32]) ((i+1:Nat):Int) (s,()))))/\
    (¬(bif !bp f.1 then Q3 else bif Q0 (LT.lt (α:=Int) f.2.1 1)then Q3 else Q0 (GT.gt (α:=Int) f.2.1 3))=Q3->([[],[73,78,84],[84,69,88,84],[66,79,79,76]].getD (toNat f.2.1) (zi Q6)).length<=4):=by
   have hgt:¬(bif !bp f.1 then Q3 else bif Q0 (LT.lt (α:=Int) f.2.1 1)then Q3 else Q0 (GT.gt (α:=Int) f.2.1 3))=Q3->zM f.2.1 4=Q3/\([[],[73,78,84],[84,69,88,84],[66,79,79,76]].getD (toNat f.2.1) (zi Q6)).length<=4:=by
    intro hc;have h1:¬LT.lt (α:=Int) f.2.1 1:=by
     intro h1;rw[zt h1]at hc;cases h2:(!bp f.1)<;>rw[h2]at hc<;>exact hc rfl
    have h3:¬GT.gt (α:=Int) f.2.1 3:=by
     intro h1;rw[zt h1]at hc;cases h2:(!bp f.1)<;>rw[h2]at hc<;>cases h4:Q0 (LT.lt (α:=Int) f.2.1 1)<;>rw[h4]at hc<;>exact hc rfl
    have h4:@Eq Int f.2.1 1\/@Eq Int f.2.1 2\/@Eq Int f.2.1 3:=by omega
    rcases h4 with h4|h4|h4<;>rw[h4]<;>exact⟨rfl,by decide⟩
   refine⟨?_,λhc=>(hgt hc).2⟩;show(fi (.h4 _ _ _ _)).val=_;simp only[fi,Q8,g,zH hi,zu hi,bv (s:=f.1) ow,if_true];by_cases hc:(bif !bp f.1 then Q3 else bif Q0 (LT.lt (α:=Int) f.2.1 1)then Q3 else Q0 (GT.gt (α:=Int) f.2.1 3))=Q3
   ·rw[if_pos hc,if_pos hc]
   ·obtain⟨k1,k2⟩:=hgt hc;rw[if_neg hc,if_neg hc,if_pos (zt sg)];refine(if_pos k1).trans ?_;generalize[[],[73,78,84],[84,69,88,84],[66,79,79,76]].getD (toNat f.2.1) (zi Q6)=ty at k2;rw[if_pos (zt sg),if_pos (zt sg),zp i um];by_cases hn:f.2.2=Q3
    ·rw[if_pos hn,if_pos hn,if_pos (zt sg),if_pos (zt sg)]
    ·rw[if_neg hn,if_neg hn,if_pos (zt sg)]
  obtain⟨hv,hty⟩:=hv;by_cases hc:(bif !bp f.1 then Q3 else bif Q0 (LT.lt (α:=Int) f.2.1 1)then Q3 else Q0 (GT.gt (α:=Int) f.2.1 3))=Q3
  ·rw[if_pos hc]at hv;exact .inr ⟨_,hv,[],Q4,rfl,sw⟩
  ·rw[if_neg hc]at hv;have:=hty hc;generalize[[],[73,78,84],[84,69,88,84],[66,79,79,76]].getD (toNat f.2.1) (zi Q6)=ty at hv this;refine .inl ⟨_,?_,hv⟩;split<;>simp<;>omega
 ·intro x n hI hn;obtain⟨n,rfl⟩:∃k,n=k+1:=⟨n-1,ow⟩;have hv:(fi (.h4 b4 x (s.t.1.length:Int) (s,()))).val=Q1 (.inl (.h15 b4 (x++([75,69,89,32,40,32]++s.t.2.1++[32,41])) 0 (s,()))):=by
   show(fi (.h4 _ _ _ _)).val=_;simp only[fi,Q8,zA];rw[if_neg sw,if_pos (zt sg),if_pos (zt sg),if_pos (zt sg)]
  rw[cE,hv];exact zjw h b4 _ sg n ow
theorem Jh{s:Sem zk}(h:ol s):∃(tx:zB)(b:Bool),ms s=Q1 (tx,b,())/\tx.length<=200000:=by
 have ht:=h.sh.table;have hk:=h.sh.key;have hv:∃b4,(Ro s).val=Q1 (.inl (.h4 b4 ([67,82,69,65,84,69,32,84,65,66,76,69,32]++s.2.1++[32,40,32]) 0 (s,()))):=by
  refine⟨(bif bp s.t.2.1 then bif Q0 (1<=(↑(length s.t.1):Int))then bif Q0 ((↑(length s.t.1):Int)<=8)then bif Q0 ((↑(length s.t.q.1):Int)<=8)then Q0 ((↑(length s.t.q.2.1):Int)<=8)else Q4 else Q4 else Q4 else Q4),?_⟩;simp only[Ro,Q8,bv (s:=s.t.2.1) ow,if_true];rw[if_pos (zt sg),if_pos (zt sg)]
 obtain⟨b4,hv⟩:=hv;obtain⟨r,h1,tx,b,h2,h3⟩:=cr4 h b4 ([67,82,69,65,84,69,32,84,65,66,76,69,32]++s.2.1++[32,40,32]) sg 100000000 ow;refine⟨tx,b,?_,h3⟩;unfold ms al cU;rw[hv];show(cQ fi 100000000 _).bind _=_;rw[h1];exact h2
theorem Lg{s:Sem zk}(h:ol s):qr s=Q3/\(ph s).1.length<=200000:=by
 obtain⟨tx,b,h1,h2⟩:=Jh h;exact⟨by unfold qr;rw[h1];rfl,by unfold ph;rw[h1];exact h2⟩
def NN(o:Option (zy (List.map Q1 [Q6,zk,Q7]))):Prop:=∃(t:zB)(own:Sem zk)(ok:Bool),o=Q1 (t,own,ok,())/\t.length<=900000/\yT own
theorem zi6{s:Sem zk}{r:aw}{t:zB}{own:Sem zk}{ok:Bool}(hv:(gG s).val=Q1 (.inr r))(hr:aL r.2 [Q6,zk,Q7] r.1=Q1 (t,own,ok,()))(hl:t.length<=900000)(hc:yT own):NN (dv s):=
 ⟨t,own,ok,zN hv hr,hl,hc⟩
abbrev dh:ze:=.mk [] (0,0,[]) [] []
theorem Sn:qR 16 dh=Q3:=by decide+kernel
theorem ea{a:Sem zk}{s:Sem zk}(h:ol s)(h4:a.2.2.2.1=s.2.2.2.1\/a.2.2.2.1=[])(h5:a.t.1=s.t.1\/a.t.1=[])(h7:a.t.q.1=s.t.q.1\/a.t.q.1=[])
  (h8:a.t.q.2.1=s.t.q.2.1\/a.t.q.2.1=[]) (h9:a.t.t.1=s.t.t.1\/a.t.t.1=dh) (h10:a.t.t.2.1=s.t.t.2.1\/a.t.t.2.1=[])
  (h11:a.t.t.q.1=s.t.t.q.1\/a.t.t.q.1=[]) (h12:a.t.t.q.2.1=s.t.t.q.2.1\/a.t.t.q.2.1=dh):yT a where
 names:=by have:=h.sh.names.1;rcases h4 with h|h<;>rw[h]<;>first|omega|simp
 cols:=by have:=h.sh.cols.1;rcases h5 with h|h<;>rw[h]<;>first|omega|simp
 uniques:=by have:=h.sh.uniques.1;rcases h7 with h|h<;>rw[h]<;>first|omega|simp
 refs:=by have:=h.sh.refs.1;rcases h8 with h|h<;>rw[h]<;>first|omega|simp
 row:=by have:=h.sh.row;rcases h10 with h|h<;>rw[h]<;>first|omega|simp
 sets:=by have:=h.sh.sets.1;rcases h11 with h|h<;>rw[h]<;>first|omega|simp
 chk:=by rcases h9 with k|k<;>rw[k];exact h.cchk;exact Sn
 whr:=by rcases h12 with k|k<;>rw[k];exact h.cwhr;exact Sn
 ex:=by
  rcases h11 with k|k<;>rw[k]
  ·exact λx hx=>(h.sets x hx).2
  ·intro x hx;cases hx
def rF(r:aw):Prop:=∃(t:zB)(own:Sem zk)(ok:Bool),aL r.2 [Q6,zk,Q7] r.1=Q1 (t,own,ok,())/\t.length<=900000/\yT own
theorem tB{r:aw}(t:zB)(own:Sem zk)(ok:Bool)(h1:aL r.2 [Q6,zk,Q7] r.1=Q1 (t,own,ok,()))(h2:t.length<=900000)(h3:yT own):rF r:=⟨t,own,ok,h1,h2,h3⟩
theorem zlJ{s:Sem zk}(h:ol s):∃r,cQ lS 100000000 (.h15 [] 0 (s,()) ([],[],[],[],[],0,0,[],[],[],0,0,[],[],[],()) (s.1,s.2.1,[],[],[],0,0,[],[],s.t.t.2.1,[],0,0,[],[],[],()))=Q1 r/\rF r:=by
 have hl:=h.sh.row;have ht:=h.sh.table;have hcmp:yT (s.1,s.2.1,[],[],[],[],[],[],dh,s.t.t.2.1,[],dh,[]):=ea h (.inr rfl) (.inr rfl) (.inr rfl) (.inr rfl) (.inr rfl) (.inl rfl) (.inr rfl) (.inr rfl);refine de (t:=lS) (β:=zB) s.t.t.2.1.length (λb i=>.h15 b (i:Int) (s,()) ([],[],[],[],[],0,0,[],[],[],0,0,[],[],[],()) (s.1,s.2.1,[],[],[],0,0,[],[],s.t.t.2.1,[],0,0,[],[],[],())) (λb i=>b.length<=400*i) _ 1 ?_ ?_ s.t.t.2.1.length 0 [] 100000000 rfl (bd _) sw ow
 ·intro x i hi hI;have hv:=h.row _ (bq hi);have hx:=wE s.t.t.2.1[i];have g:getD s.t.t.2.1 (i:Int).toNat (zi zf)=s.t.t.2.1[i]:=zY _ _ hi;generalize s.t.t.2.1[i]=v at g hv hx
  have e:(lS (.h15 x (i:Int) (s,()) ([],[],[],[],[],0,0,[],[],[],0,0,[],[],[],()) (s.1,s.2.1,[],[],[],0,0,[],[],s.t.t.2.1,[],0,0,[],[],[],()))).val=if aW v=Q3 then Q1 (.inl (.h15 ((if(i:Int)>0 then x++[32,44,32]else x)++gW v) ((i+1:Nat):Int) (s,()) ([],[],[],[],[],0,0,[],[],[],0,0,[],[],[],()) (s.1,s.2.1,[],[],[],0,0,[],[],s.t.t.2.1,[],0,0,[],[],[],())))else
    Q1 (.inr (.tup [.str [],.agg [.str s.1,.str s.2.1,.str [],.nils,.nils,.str [],.nils,.nils,.str [],.int .i64 0,.int .i64 0,.str [],.str [],.nils,.sl zf s.t.t.2.1,.nils,.str [],.int .i64 0,.int .i64 0,.str [],.str [],.nils,.str []],.kb Q4],[])):=by
   show(lS (.h15 _ _ _ _ _)).val=_;simp only[lS,Q8,g,zH hi,zu hi,kH hv.2.2,nj hv.2.2,EM hv,Jb hv,if_true];rw[zp i um];by_cases m:aW v=Q3
   ·rw[if_neg (by rw[m];simp),if_pos m];by_cases h0:(i:Int)>0
    ·rw[if_pos (zt h0),if_pos h0,if_pos (zt sg),if_pos (zt sg)]
    ·rw[if_neg (by simpa using h0),if_neg h0,if_pos (zt ow)]
   ·rw[if_pos (by simpa using m),if_neg m]
  by_cases m:aW v=Q3
  ·rw[if_pos m]at e;refine .inl ⟨_,?_,e⟩;split<;>simp<;>omega
  ·rw[if_neg m]at e;exact .inr ⟨_,e,tB [] _ Q4 rfl sw hcmp⟩
 ·intro x n hI hn;obtain⟨n,rfl⟩:∃k,n=k+1:=⟨n-1,ow⟩
  have e:∃b,(lS (.h15 x (s.t.t.2.1.length:Int) (s,()) ([],[],[],[],[],0,0,[],[],[],0,0,[],[],[],()) (s.1,s.2.1,[],[],[],0,0,[],[],s.t.t.2.1,[],0,0,[],[],[],()))).val=
    Q1 (.inr (.tup [.str ([73,78,83,69,82,84,32,73,78,84,79,32]++s.2.1++[32,86,65,76,85,69,83,32,40,32]++x++[32,41]),.agg [.str s.1,.str s.2.1,.str [],.nils,.nils,.str [],.nils,.nils,.str [],.int .i64 0,.int .i64 0,.str [],.str [],.nils,.sl zf s.t.t.2.1,.nils,.str [],.int .i64 0,.int .i64 0,.str [],.str [],.nils,.str []],b],[]))/\(b=.kb Q4\/∃c,b=.bool c):=by
   show∃b,(lS (.h15 _ _ _ _ _)).val=_/\_;simp only[lS,Q8,zA];rw[if_neg sw,if_pos (zt sg),if_pos (zt sg),if_pos (zt sg),if_pos (zt sg)];split
   ·exact⟨_,rfl,.inr ⟨_,rfl⟩⟩
   ·exact⟨_,rfl,.inl rfl⟩
  obtain⟨b,e,hb⟩:=e;rw[cE,e];rcases hb with rfl|⟨c,rfl⟩
  ·exact⟨_,rfl,tB _ _ Q4 rfl sg hcmp⟩
  ·exact⟨_,rfl,tB _ _ c rfl sg hcmp⟩
theorem zlK{s:Sem zk}(h:ol s)(s8:zB)(b9:Bool)(h8:s8.length<=30000):∃r,cQ lS 100000000 (.h27 s8 b9 [] 0 (s,()) ([],[],[],[],[],0,0,[],[],[],0,0,[],[],[],()) (s.1,s.2.1,[],[],[],0,0,[],[],s.t.t.q.1,s.t.t.q.2.1,[],()))=Q1 r/\rF r:=by
 have hl:=h.sh.sets.1;have ht:=h.sh.table;have hcmp:yT (s.1,s.2.1,[],[],[],[],[],[],dh,[],s.t.t.q.1,s.t.t.q.2.1,[]):=ea h (.inr rfl) (.inr rfl) (.inr rfl) (.inr rfl) (.inr rfl) (.inr rfl) (.inl rfl) (.inl rfl);generalize hZ:(([],[],[],[],[],0,0,[],[],[],0,0,[],[],[],()):zn iH)=Z;generalize hU:((s.1,s.2.1,[],[],[],0,0,[],[],s.t.t.q.1,s.t.t.q.2.1,[],()):zn za8)=V
 have own:∀(t:zB)(ok:Bool)(b:AV),(b=.bool ok\/(b=.kb Q4/\ok=Q4))->aL [] [Q6,zk,Q7] (.tup [.str t,.agg [.str V.1,.str V.2.1,.str V.2.2.1,.nils,.nils,.str V.2.2.2.1,.nils,.nils,.str V.t.1,.int .i64 V.t.2.1,.int .i64 V.t.q.1,.str V.t.q.2.1,.str V.t.t.1,.nils,.nils,
   .sl (Sh.str.pr Q5) V.t.t.2.1,.str (ze.op V.t.t.q.1),.int .i64 (ze.v V.t.t.q.1).1,.int .i64 (ze.v V.t.t.q.1).2.1,.str (ze.v V.t.t.q.1).2.2,.str (ze.s V.t.t.q.1),.sl Q5 (ze.l V.t.t.q.1),.str V.t.t.q.2.1],b])=
   Q1 (t,(s.1,s.2.1,[],[],[],[],[],[],dh,[],s.t.t.q.1,s.t.t.q.2.1,[]),ok,()):=by
  intro t ok b hb;subst hU;obtain⟨s1,s2,s3,s4,s5,s6,s7,s8,s9,s10,uu,⟨d1,d2,d3,d4⟩,s13⟩:=s;rcases hb with rfl|⟨rfl,rfl⟩<;>rfl
 refine de (t:=lS) (β:=zB) s.t.t.q.1.length (λb i=>.h27 s8 b9 b (i:Int) (s,()) Z V) (λb i=>b.length<=26000*i) _ 1 ?_ ?_ s.t.t.q.1.length 0 [] 100000000 rfl (bd _) sw ow
 ·intro x i hi hI;obtain⟨hw,hcp⟩:=h.sets _ (bq hi);have hnm:=h.sh.sets.2 _ (bq hi);have g:getD s.t.t.q.1 (i:Int).toNat (zi gU)=s.t.t.q.1[i]:=zY _ _ hi;generalize s.t.t.q.1[i]=v at g hw hcp hnm;have e:(¬(bp v.1=Q3/\cY v.2=Q3)/\∃r,(lS (.h27 s8 b9 x (i:Int) (s,()) Z V)).val=Q1 (.inr r)/\rF r)\/∃x':zB,x'.length<=x.length+26000/\(lS (.h27 s8 b9 x (i:Int) (s,()) Z V)).val=Q1 (.inl (.h27 s8 b9 x' ((i+1:Nat):Int) (s,()) Z V)):=by
   show(_/\∃r,(lS (.h27 _ _ _ _ _ _ _)).val=_/\_)\/∃x':zB,_/\(lS (.h27 _ _ _ _ _ _ _)).val=_;simp only[lS,Q8,g,zl,zH hi,zu hi,bv (s:=v.1) ow,mr hw,ql hw,if_true,dl];have hg:(bif !bp v.1 then Q3 else Q3)=Q3:=by cases bp v.1<;>rfl
   rw[hg];by_cases m:bp v.1=Q3/\cY v.2=Q3
   ·obtain⟨m1,m2⟩:=m;obtain⟨t1,t2,t3⟩:=Jd hw m2;refine .inr ⟨(if(i:Int)>0 then x++[32,44,32]else x)++(v.1++[32,61,32]++aO 16 v.2),by split<;>simp<;>omega,?_⟩;simp only[m1,m2,t1,t2,if_true,fa,aN,zG,if_false];rw[zp i um];by_cases h0:(i:Int)>0
    ·rw[if_pos (zt h0),if_pos h0,if_pos (zt sg),if_pos (zt sg),if_pos (zt sg),if_pos (zt sg)]
    ·rw[if_neg (by simpa using h0),if_neg h0,if_pos (zt sg),if_pos (zt sg),if_pos (zt sg)]
   ·refine .inl ⟨m,?_⟩;have hc:(bif !bp v.1 then Q3 else !cY v.2)=Q3:=by
     cases h1:bp v.1
     ·rfl
     ·cases h2:cY v.2
      ·rfl
      ·exact absurd ⟨h1,h2⟩ m
    rw[if_pos rfl,if_pos hc];exact⟨_,rfl,tB [] _ Q4 (own [] Q4 _ (.inr ⟨rfl,rfl⟩)) sw hcmp⟩
  rcases e with⟨_,r,e1,e2⟩|⟨x',e1,e2⟩
  ·exact .inr ⟨r,e1,e2⟩
  ·exact .inl ⟨x',ow,e2⟩
 ·intro x n hI hn;obtain⟨n,rfl⟩:∃k,n=k+1:=⟨n-1,ow⟩
  have e:∃b ok,(lS (.h27 s8 b9 x (s.t.t.q.1.length:Int) (s,()) Z V)).val=
    Q1 (.inr (.tup [.str ([85,80,68,65,84,69,32]++s.2.1++[32,83,69,84,32]++x++s8),.agg [.str V.1,.str V.2.1,.str V.2.2.1,.nils,.nils,.str V.2.2.2.1,.nils,.nils,.str V.t.1,.int .i64 V.t.2.1,.int .i64 V.t.q.1,.str V.t.q.2.1,.str V.t.t.1,.nils,.nils,
   .sl (Sh.str.pr Q5) V.t.t.2.1,.str (ze.op V.t.t.q.1),.int .i64 (ze.v V.t.t.q.1).1,.int .i64 (ze.v V.t.t.q.1).2.1,.str (ze.v V.t.t.q.1).2.2,.str (ze.s V.t.t.q.1),.sl Q5 (ze.l V.t.t.q.1),.str V.t.t.q.2.1],b],[]))/\(b=.bool ok\/(b=.kb Q4/\ok=Q4)):=by
   show∃b ok,(lS (.h27 _ _ _ _ _ _ _)).val=_/\_;simp only[lS,Q8,zA];rw[if_neg sw,if_pos (zt sg),if_pos (zt sg),if_pos (zt sg),if_pos (zt sg)];split
   ·split
    ·exact⟨_,_,rfl,.inl rfl⟩
    ·exact⟨_,Q4,rfl,.inr ⟨rfl,rfl⟩⟩
   ·exact⟨_,Q4,rfl,.inr ⟨rfl,rfl⟩⟩
  obtain⟨b,ok,e,hb⟩:=e;rw[cE,e];exact⟨_,rfl,tB _ _ ok (own _ ok b hb) sg hcmp⟩
end Cad
