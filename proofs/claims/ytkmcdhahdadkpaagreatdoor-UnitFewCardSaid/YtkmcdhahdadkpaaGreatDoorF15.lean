/- The document's values of expressions are the program's. The document's expressions that may be are the program's, and no others. -/
import Derived.Test.YtkmcdhahdadkpaaGreatDoorF14
import Derived.Test.YtkmcdhahdadkpaaGreatDoorF13
import Derived.Test.YtkmcdhahdadkpaaGreatDoorF11
import Derived.Test.YtkmcdhahdadkpaaGreatDoorF12
namespace Cad
open Go Go.Proofs
open Tr renaming val→Q8
open Sh renaming bool→Q7,str→Q6,expr→Q5
open Bool renaming false→Q4,true→Q3
open Option renaming none→Q2,some→Q1
open Decidable renaming decide→Q0
open Int (toNat)
open List (getD length)
open Tr (chk br re)
open AV (nils agg tup ptr kb str sl)
set_option maxHeartbeats 4000000
theorem gX:lD (0,0,[]):=⟨by decide,by decide,sw⟩
theorem lQ(b:Bool):lD (wB b):=by cases b<;>exact⟨by decide,by decide,by simp[wB]⟩
theorem PB:lD (3,0,[]):=lQ Q4
theorem PC:lD (3,1,[]):=lQ Q3
theorem US(a b:Sem zf):lD (Df a b):=by
 unfold Df;rw[mC,kN,kO];split;exact PB;split;exact PC;exact gX
theorem zaF(a b:Sem zf):lD (TR a b):=by
 unfold TR;rw[mC,kN,kO];split;exact PC;split;exact PB;exact gX
theorem UU(a:Sem zf):lD (xM a):=by
 unfold xM;rw[mC,kN,kO];split;exact PB;split;exact PC;exact gX
theorem zaE(a b:Sem zf):lD (lL a b):=by
 unfold lL;split;exact gX;rw[iW];exact lQ _
theorem PD(a b:Sem zf):lD (ry a b):=by
 unfold ry;split;exact gX;rw[iW];exact lQ _
theorem J0(a:Sem zf):lD (je a):=by
 unfold je;rw[iW];exact lQ _
theorem Hu(n:Int):lD (1,IntKind.i64.wrap n,[]):=by
 refine⟨?_,?_,sw⟩
 ·show(-9223372036854775808:Int)<=IntKind.i64.wrap n;rw[fK];omega
 ·show IntKind.i64.wrap n<=(9223372036854775807:Int);rw[fK];omega
theorem PE(a b:Sem zf):lD (rz a b):=by
 unfold rz;split;exact gX;split;exact gX;exact Hu _
theorem NG(a b:Sem zf):lD (lM a b):=by
 unfold lM;split;exact gX;split;exact gX;exact Hu _
def sD(cols:List (Sem zj))(row:List (Sem zf))(s:zA):Sem zf:=if(bif Q0 (zY cols s<0)then Q3 else Q0 (zY cols s>=(↑row.length:Int)))=Q3 then(0,0,[])else row.getD (toNat (zY cols s)) (zi zf)
theorem K5{g c}{cols:List (Sem zj)}{row:List (Sem zf)}{e:ze}(hl:cols.length<=1000000):∃r k,zV (xy g c) k (.h6 cols row ((0:Nat):Int) (e,()) ((0,0,[]),())) r/\k<=100000000/\aL r.2 [zf] r.1=Q1 (sD cols row (ze.s e),()):=by
 have hf:=lN (t:=xy g c) (Φ:=λr=>aL r.2 [zf] r.1=Q1 (sD cols row (ze.s e),())) 1 (λi=>.h6 cols row (i:Int) (e,()) ((0,0,[]),())) (λi=>((getD cols i (zi zj)).1==ze.s e)=Q4) cols.length (by
  intro i hi hj;have hv:(xy g c (.h6 cols row (i:Int) (e,()) ((0,0,[]),()))).val=if((getD cols i (zi zj)).1==ze.s e)=Q3 then(if Q0 ((i:Int)<(row.length:Int))=Q3 then(if zP (i:Int) row.length=Q3 then Q1 (.inr (.agg [.int .i64 (getD row i (zi zf)).1,.int .i64 (getD row i (zi zf)).2.1,.str (getD row i (zi zf)).2.2],[]))else Q2)else Q1 (.inr (.agg [.int .i64 0,.int .i64 0,.str []],[])))else Q1 (.inl (.h6 cols row ((i+1:Nat):Int) (e,()) ((0,0,[]),()))):=by
   simp only[xy,Q8,zH hi,zu hi,aJ,if_true];rw[zq i um]
  rcases zF ((getD cols i (zi zj)).1==ze.s e)with h|h
  ·have hp:=l7 (p:=λc:Sem zj=>c.1==ze.s e) (d:=zi zj) cols 0 i hi h hj;have hp:zY cols (ze.s e)=(i:Int):=by unfold zY;rw[hp];simp
   by_cases hr:i<row.length
   ·refine .inr ⟨by rw[h];simp,_,zV.of (by rw[hv,if_pos h,if_pos (zH hr),if_pos (zu hr)]),?_⟩;unfold sD;rw[hp,if_neg (by rw[ah (by omega:¬(i:Int)<0),ah (by omega:¬(i:Int)>=(row.length:Int))];simp),aJ];rfl
   ·refine .inr ⟨by rw[h];simp,_,zV.of (by rw[hv,if_pos h,if_neg (by rw[aN];omega)]),?_⟩;unfold sD;rw[hp,if_pos (by rw[ah (by omega:¬(i:Int)<0),zt (by omega:(i:Int)>=(row.length:Int))];rfl)];rfl
  ·exact .inl ⟨h,zR.of (by rw[hv,if_neg (by rw[h];simp)])⟩)
 rcases hf with⟨h1,h2⟩|⟨h1,r,h2,h3⟩
 ·have hp:=ma (p:=λc:Sem zj=>c.1==ze.s e) (d:=zi zj) cols 0 h1;refine⟨(.agg [.int .i64 0,.int .i64 0,.str []],[]),_,h2.ends (zV.of ?_),ow,?_⟩
  ·simp only[xy,Q8,zz];rfl
  ·unfold sD;rw[show zY cols (ze.s e)=(-1:Int)from hp];rfl
 ·exact⟨r,_,h2,ow,h3⟩
theorem UT{cols:List (Sem zj)}{row:List (Sem zf)}{s:zA}(hr:∀v∈row,lD v):lD (sD cols row s):=by
 unfold sD;split
 ·exact gX
 ·by_cases h:toNat (zY cols s)<row.length
  ·exact hr _ (bE h)
  ·rw[aY,eX ow];exact gX
theorem qf{cols:List (Sem zj)}{row:List (Sem zf)}(hl:cols.length<=1000000)(hr:∀v∈row,lD v):∀(N d M:Nat)(e:ze),d<=N->d<=M->bY d e=Q3->rD e->bX N e cols row=Q1 (dh M cols row e,())/\lD (dh M cols row e)
 |_,0,_,_,_,_,h,_=>by cases h
 |0,d+1,_,_,h,_,_,_=>absurd h ow
 |_,d+1,0,_,_,h,_,_=>absurd h ow
 | N+1,d+1,M+1,e,h1,h2,h,hw=>by
  rw[bX,dh];unfold M1;cases fq h with
  | lit v hv=>
   rw[rD]at hw;exact⟨rfl,hw.1⟩
  | col s hw2 hr2=>
   obtain⟨r,k,k1,k2,k3⟩:=K5 (g:=λx0 x1 x2=>gu (bX N x0 x1 x2)) (c:=λx0 x1 x2=>(bX N x0 x1 x2).isSome) (cols:=cols) (row:=row) (e:=.mk [99,111,108] (0,0,[]) s []) hl;exact⟨zx Hg k1 k2 k3,UT hr⟩
  | one op a ho ha=>
   rw[rD,jI]at hw;obtain⟨ka,va⟩:=qf hl hr N d M a ow ow ha hw.2.2.1;unfold al cT;generalize hg:(λx0 x1 x2=>gu (bX N x0 x1 x2))=g;generalize hc:(λx0 x1 x2=>(bX N x0 x1 x2).isSome)=c;have g1:g a cols row=dh M cols row a:=by rw[<-hg];show gu (bX N a cols row)=_;rw[ka];rfl
   have c1:c a cols row=Q3:=by rw[<-hc];show(bX N a cols row).isSome=_;rw[ka];rfl
   rcases ho with rfl|rfl
   ·have e1:qR (dh M) cols row (.mk [110,111,116] (0,0,[]) [] [a])=xM (dh M cols row a):=rfl;have e2:(oM g c (.mk [110,111,116] (0,0,[]) [] [a]) cols row).val=if c (zm a) cols row=Q3 then(if F9 (g (zm a) cols row)=Q3 then Q1 (.inr (.agg [.int .i64 (EE (g (zm a) cols row)).1,.int .i64 (EE (g (zm a) cols row)).2.1,.str (EE (g (zm a) cols row)).2.2],[]))else Q2)else Q2:=rfl
    rw[e1,e2,zl,c1,g1];generalize dh M cols row a=x at*;rw[S2,Wc];exact⟨rfl,UU _⟩
   ·have e1:qR (dh M) cols row (.mk [110,117,108,108] (0,0,[]) [] [a])=je (dh M cols row a):=rfl;have e2:(oM g c (.mk [110,117,108,108] (0,0,[]) [] [a]) cols row).val=if c (zm a) cols row=Q3 then(if lH (g (zm a) cols row)=Q3 then(if(!rr (g (zm a) cols row))=Q3 then Q1 (.inr (.agg [.int .i64 (aT Q3).1,.int .i64 (aT Q3).2.1,.str (aT Q3).2.2],[]))else if kE ((g (zm a) cols row).1==0)=Q3 then Q1 (.inr (.agg [.int .i64 (aT ((g (zm a) cols row).1==0)).1,.int .i64 (aT ((g (zm a) cols row).1==0)).2.1,.str (aT ((g (zm a) cols row).1==0)).2.2],[]))else Q2)else Q2)else Q2:=rfl
    rw[e1,e2,zl,c1,g1];generalize dh M cols row a=x at*;refine⟨?_,J0 _⟩;rw[kD va.2.2,m7 va.2.2,m8,gQ,gQ];unfold je ap;rw[iW];cases bd x
    ·rfl
    ·rfl
  | two op a b ho ha hb=>
   rw[rD,jI,jI]at hw;obtain⟨ka,va⟩:=qf hl hr N d M a ow ow ha hw.2.2.1;obtain⟨kb,vb⟩:=qf hl hr N d M b ow ow hb hw.2.2.2.1;unfold al cT;generalize hg:(λx0 x1 x2=>gu (bX N x0 x1 x2))=g;generalize hc:(λx0 x1 x2=>(bX N x0 x1 x2).isSome)=c;have g1:g a cols row=dh M cols row a:=by rw[<-hg];show gu (bX N a cols row)=_;rw[ka];rfl
   have c1:c a cols row=Q3:=by rw[<-hc];show(bX N a cols row).isSome=_;rw[ka];rfl
   have g2:g b cols row=dh M cols row b:=by rw[<-hg];show gu (bX N b cols row)=_;rw[kb];rfl
   have c2:c b cols row=Q3:=by rw[<-hc];show(bX N b cols row).isSome=_;rw[kb];rfl
   rcases ho with rfl|rfl|rfl|rfl|rfl|rfl
   ·have e1:qR (dh M) cols row (.mk [97,110,100] (0,0,[]) [] [a,b])=Df (dh M cols row a) (dh M cols row b):=rfl;have e2:(oM g c (.mk [97,110,100] (0,0,[]) [] [a,b]) cols row).val=if c (zm a) cols row=Q3 then(if c (zm b) cols row=Q3 then(if F5 (g (zm a) cols row) (g (zm b) cols row)=Q3 then Q1 (.inr (.agg [.int .i64 (EC (g (zm a) cols row) (g (zm b) cols row)).1,.int .i64 (EC (g (zm a) cols row) (g (zm b) cols row)).2.1,.str (EC (g (zm a) cols row) (g (zm b) cols row)).2.2],[]))else Q2)else Q2)else Q2:=rfl
    rw[e1,e2,zl,zl,c1,c2,g1,g2];generalize dh M cols row a=x at*;generalize dh M cols row b=y at*;rw[S0,Wb];exact⟨rfl,US _ _⟩
   ·have e1:qR (dh M) cols row (.mk [111,114] (0,0,[]) [] [a,b])=TR (dh M cols row a) (dh M cols row b):=rfl;have e2:(oM g c (.mk [111,114] (0,0,[]) [] [a,b]) cols row).val=if c (zm a) cols row=Q3 then(if c (zm b) cols row=Q3 then(if MZ (g (zm a) cols row) (g (zm b) cols row)=Q3 then Q1 (.inr (.agg [.int .i64 (OK (g (zm a) cols row) (g (zm b) cols row)).1,.int .i64 (OK (g (zm a) cols row) (g (zm b) cols row)).2.1,.str (OK (g (zm a) cols row) (g (zm b) cols row)).2.2],[]))else Q2)else Q2)else Q2:=rfl
    rw[e1,e2,zl,zl,c1,c2,g1,g2];generalize dh M cols row a=x at*;generalize dh M cols row b=y at*;rw[We,zcm];exact⟨rfl,zaF _ _⟩
   ·have e1:qR (dh M) cols row (.mk [61] (0,0,[]) [] [a,b])=lL (dh M cols row a) (dh M cols row b):=rfl;have e2:(oM g c (.mk [61] (0,0,[]) [] [a,b]) cols row).val=if c (zm a) cols row=Q3 then(if c (zm b) cols row=Q3 then(if tQ (g (zm a) cols row) (g (zm b) cols row)=Q3 then Q1 (.inr (.agg [.int .i64 (pY (g (zm a) cols row) (g (zm b) cols row)).1,.int .i64 (pY (g (zm a) cols row) (g (zm b) cols row)).2.1,.str (pY (g (zm a) cols row) (g (zm b) cols row)).2.2],[]))else Q2)else Q2)else Q2:=rfl
    rw[e1,e2,zl,zl,c1,c2,g1,g2];generalize dh M cols row a=x at*;generalize dh M cols row b=y at*;rw[K2 va.2.2 vb.2.2,OH va.2.2 vb.2.2];exact⟨rfl,zaE _ _⟩
   ·have e1:qR (dh M) cols row (.mk [60] (0,0,[]) [] [a,b])=ry (dh M cols row a) (dh M cols row b):=rfl;have e2:(oM g c (.mk [60] (0,0,[]) [] [a,b]) cols row).val=if c (zm a) cols row=Q3 then(if c (zm b) cols row=Q3 then(if yk (g (zm a) cols row) (g (zm b) cols row)=Q3 then Q1 (.inr (.agg [.int .i64 (wi (g (zm a) cols row) (g (zm b) cols row)).1,.int .i64 (wi (g (zm a) cols row) (g (zm b) cols row)).2.1,.str (wi (g (zm a) cols row) (g (zm b) cols row)).2.2],[]))else Q2)else Q2)else Q2:=rfl
    rw[e1,e2,zl,zl,c1,c2,g1,g2];generalize dh M cols row a=x at*;generalize dh M cols row b=y at*;rw[OI va.2.2 vb.2.2,S1 va.2.2 vb.2.2];exact⟨rfl,PD _ _⟩
   ·have e1:qR (dh M) cols row (.mk [43] (0,0,[]) [] [a,b])=rz (dh M cols row a) (dh M cols row b):=rfl;have e2:(oM g c (.mk [43] (0,0,[]) [] [a,b]) cols row).val=if c (zm a) cols row=Q3 then(if c (zm b) cols row=Q3 then(if yl (g (zm a) cols row) (g (zm b) cols row)=Q3 then Q1 (.inr (.agg [.int .i64 (wj (g (zm a) cols row) (g (zm b) cols row)).1,.int .i64 (wj (g (zm a) cols row) (g (zm b) cols row)).2.1,.str (wj (g (zm a) cols row) (g (zm b) cols row)).2.2],[]))else Q2)else Q2)else Q2:=rfl
    rw[e1,e2,zl,zl,c1,c2,g1,g2];generalize dh M cols row a=x at*;generalize dh M cols row b=y at*;rw[OM va vb,S3 va vb];exact⟨rfl,PE _ _⟩
   ·have e1:qR (dh M) cols row (.mk [45] (0,0,[]) [] [a,b])=lM (dh M cols row a) (dh M cols row b):=rfl;have e2:(oM g c (.mk [45] (0,0,[]) [] [a,b]) cols row).val=if c (zm a) cols row=Q3 then(if c (zm b) cols row=Q3 then(if tS (g (zm a) cols row) (g (zm b) cols row)=Q3 then Q1 (.inr (.agg [.int .i64 (pZ (g (zm a) cols row) (g (zm b) cols row)).1,.int .i64 (pZ (g (zm a) cols row) (g (zm b) cols row)).2.1,.str (pZ (g (zm a) cols row) (g (zm b) cols row)).2.2],[]))else Q2)else Q2)else Q2:=rfl
    rw[e1,e2,zl,zl,c1,c2,g1,g2];generalize dh M cols row a=x at*;generalize dh M cols row b=y at*;rw[K3 va vb,OJ va vb];exact⟨rfl,NG _ _⟩
theorem pS:∀(N k:Nat)(e:ze)(n:Nat),k<=12->n<=60->(gV N e ((13:Int)-k) n).1=Q3->bY k e=Q3/\(gV N e ((13:Int)-k) n).2=((n+nE k e:Nat):Int)/\n+nE k e<=60
 |0,_,_,_,_,_,h=>by cases h
 | N+1,0,e,n,_,_,h=>by
  rw[gV]at h;unfold xI at h;rw[if_pos Hg]at h;cases h
 | N + 1,k+1,.mk op v s l,n,h1,h2,h=>by
  have w1:IntKind.i64.wrap ((n:Int)+1)=((n+1:Nat):Int):=zq n um;have w2:IntKind.i64.wrap ((13:Int)-((k+1:Nat):Int)+1)=(13:Int)-(k:Int):=by rw[fK];omega
  have d1:Q0 ((13:Int)-((k+1:Nat):Int)>12)=Q4:=ah ow;rw[gV]at h⊢
  have e0:∀m:Int,xI (gV N) (.mk op v s l) m n=if(bif Q0 (m>12)then Q3 else bif Q0 (((n+1:Nat):Int)>60)then Q3 else(↑l.length:Int)!=cG op)=Q3 then(Q4,((n+1:Nat):Int))else
    if(op==[108,105,116])=Q3 then(bif s==[]then bd v else Q4,((n+1:Nat):Int))else
    if(op==[99,111,108])=Q3 then(bif aW v then bif dQ s then !iR s else Q4 else Q4,((n+1:Nat):Int))else
    if(bif !aW v then Q3 else !s==[])=Q3 then(Q4,((n+1:Nat):Int))else nW (gV N) m l ((n+1:Nat):Int):=by
   intro m;unfold xI;rw[w1];rfl
  rw[e0,d1]at h⊢;rcases zF (Q0 (((n+1:Nat):Int)>60))with c0|c0
  ·rw[c0,if_pos Hg]at h;cases h
  rcases zF ((↑l.length:Int)!=cG op)with c1|c1
  ·rw[c0,c1,if_pos Hg]at h;cases h
  have hn:n+1<=60:=by simp at c0;omega
  have hp:(l.length:Int)=cG op:=by simpa using c1
  rw[c0,c1,if_neg sw]at h⊢;rcases lq op with⟨p,ho⟩|⟨p,ho⟩|⟨p,ho⟩|p
  ·have hl:l=[]:=xE ow;subst hl;rcases ho with rfl|rfl
   ·rw[if_pos Hg]at h⊢;obtain⟨a,b⟩:=cg h;refine⟨?_,by simp[nE],by simp[nE];omega⟩;simp[bY,b,bA a]
   ·rw[if_neg (by decide),if_pos Hg]at h⊢;obtain⟨a,b⟩:=cg h;obtain⟨b,c⟩:=cg b;refine⟨?_,by simp[nE],by simp[nE];omega⟩;have c':iR s=Q4:=by simpa using c
    simp[bY,a,b,c']
  ·obtain⟨a,rfl⟩:∃a,l=[a]:=List.length_eq_one_iff.1 ow;have o1:(op==[108,105,116])=Q4:=by rcases ho with rfl|rfl<;>rfl
   have o2:(op==[99,111,108])=Q4:=by rcases ho with rfl|rfl<;>rfl
   have o3:(bif op==[110,111,116]then Q3 else op==[110,117,108,108])=Q3:=by rcases ho with rfl|rfl<;>rfl
   rw[if_neg (by rw[o1];simp),if_neg (by rw[o2];simp)]at h⊢;rcases zF (aW v)with c2|c2
   ·rcases zF (s==[])with c3|c3
    ·rw[c2,c3,if_neg sw]at h⊢;rw[nW,w2]at h⊢;rcases zF (gV N a ((13:Int)-(k:Int)) ((n+1:Nat):Int)).1 with c4|c4
     ·obtain⟨i1,i2,i3⟩:=pS N k a (n+1) ow hn c4;rw[c4,if_neg sw];refine⟨by simp[bY,o1,o2,o3,c2,c3,i1],?_,by simp[nE];omega⟩;rw[nW];show(gV N a ((13:Int)-(k:Int)) ((n+1:Nat):Int)).2=_;rw[i2];simp[nE];omega
     ·rw[c4,if_pos Hg]at h;cases h
    ·rw[c2,c3,if_pos Hg]at h;cases h
   ·rw[c2,if_pos Hg]at h;cases h
  ·obtain⟨a,b,rfl⟩:∃a b,l=[a,b]:=by
    match l,hp with
    |[a,b],_=>exact⟨a,b,rfl⟩
    |[],hp=>exact absurd hp (by rw[p];simp)
    |[_],hp=>exact absurd hp (by rw[p];simp)
    |_::_::_::_,hp=>exact absurd hp (by rw[p];simp;omega)
   have o1:(op==[108,105,116])=Q4:=by rcases ho with rfl|rfl|rfl|rfl|rfl|rfl<;>rfl
   have o2:(op==[99,111,108])=Q4:=by rcases ho with rfl|rfl|rfl|rfl|rfl|rfl<;>rfl
   have o3:(bif op==[110,111,116]then Q3 else op==[110,117,108,108])=Q4:=by rcases ho with rfl|rfl|rfl|rfl|rfl|rfl<;>rfl
   have o4:De op=Q3:=by rcases ho with rfl|rfl|rfl|rfl|rfl|rfl<;>rfl
   rw[if_neg (by rw[o1];simp),if_neg (by rw[o2];simp)]at h⊢;rcases zF (aW v)with c2|c2
   ·rcases zF (s==[])with c3|c3
    ·rw[c2,c3,if_neg sw]at h⊢;rw[nW,w2]at h⊢;rcases zF (gV N a ((13:Int)-(k:Int)) ((n+1:Nat):Int)).1 with c4|c4
     ·obtain⟨i1,i2,i3⟩:=pS N k a (n+1) ow hn c4;rw[c4,if_neg sw]at h⊢;rw[i2,nW,w2]at h⊢;rcases zF (gV N b ((13:Int)-(k:Int)) ((n+1+nE k a:Nat):Int)).1 with c5|c5
      ·obtain⟨j1,j2,j3⟩:=pS N k b (n+1+nE k a) ow i3 c5;rw[c5,if_neg sw];refine⟨by simp[bY,o1,o2,o3,o4,c2,c3,i1,j1],?_,by simp[nE];omega⟩;rw[nW];show(gV N b ((13:Int)-(k:Int)) ((n+1+nE k a:Nat):Int)).2=_;rw[j2];simp[nE];omega
      ·rw[c5,if_pos Hg]at h;cases h
     ·rw[c4,if_pos Hg]at h;cases h
    ·rw[c2,c3,if_pos Hg]at h;cases h
   ·rw[c2,if_pos Hg]at h;cases h
  ·omega
theorem vg(e:ze):cW e=(bif bY 12 e then Q0 (nE 12 e<=60)else Q4):=by
 unfold cW;rcases zF (gV 16 e 1 0).1 with c|c
 ·obtain⟨h1,_,h3⟩:=pS 16 12 e 0 ow ow c;rw[c,h1,zt ow];rfl
 ·rw[c];rcases zF (bY 12 e)with g|g
  ·rw[g];by_cases h:nE 12 e<=60
   ·have:=pT 16 12 e 0 ow ow g ow;have h2:(gV 16 e 1 0).1=Q3:=by
     have e1:gV 16 e 1 0=(Q3,((0+nE 12 e:Nat):Int)):=this;rw[e1]
    rw[h2]at c;cases c
   ·rw[ah h];rfl
  ·rw[g];rfl
theorem I3{e:ze}(hw:rD e):BJ e=Q1 (cW e,()):=by
 have hf:Gf e 12=Q1 (bY 12 e,()):=EK 16 12 e ow ow hw;have hfc:yr e 12=Q3:=by unfold yr;rw[hf];rfl
 have hfv:Ge e 12=bY 12 e:=by unfold Ge;rw[hf];rfl
 unfold BJ al cT;simp only[zgx,Q8,zl,hfc,hfv];rw[vg];rcases zF (bY 12 e)with g|g
 ·have hn:BL e=Q1 ((nE 12 e:Int),()):=ng 16 12 e ow ow g;have hnc:tY e=Q3:=by unfold tY;rw[hn];rfl
  have hnv:yu e=(nE 12 e:Int):=by unfold yu;rw[hn];rfl
  rw[g,hnc,hnv];have:Q0 (((nE 12 e:Nat):Int)<=60)=Q0 (nE 12 e<=60):=by
   by_cases h:nE 12 e<=60
   ·rw[zt h,zt ow]
   ·rw[ah h,ah ow]
  rw[this];rfl
 ·rw[g];rfl
theorem mh{e:ze}(hw:rD e):wk e=Q3:=by unfold wk;rw[I3 hw];rfl
theorem qh{e:ze}(hw:rD e):EJ e=cW e:=by unfold EJ;rw[I3 hw];rfl
theorem kj{e:ze}(h:cW e=Q3):bY 12 e=Q3:=by
 rw[vg]at h;exact(cg h).1
theorem I5{e:ze}{cols:List (Sem zj)}(hl:cols.length<=1000000)(h:cW e=Q3):yq e cols=Q1 ((bD e cols).1,(bD e cols).2,()):=by
 have:=ql hl 16 12 16 e ow ow (kj h);unfold yq bD;rw[this,h];rfl
theorem S4{e:ze}{cols:List (Sem zj)}{row:List (Sem zf)}(hl:cols.length<=1000000)(hr:∀v∈row,lD v)(hw:rD e)(h:cW e=Q3):yo e cols row=Q1 (jG e cols row,()):=by
 have:=(qf hl hr 16 12 16 e ow ow (kj h) hw).1;unfold yo jG;rw[this,h];rfl
theorem Cl(e:ze):ff 16 e vZ=(e.op==[]&&(aW e.v&&(e.s==[]&&e.l.length==0))):=by
 show Ju (ff 15) e vZ=_;unfold Ju Kk TP aW;obtain⟨op,v,s,l⟩:=e;simp only[ze.op,ze.v,ze.s,ze.l];cases l with
 | nil=>
  simp only[nC,Vl];cases(op==[])<;>cases(v.1==0&&(v.2.1==0&&(v.2.2==[]&&Q3)))<;>cases(s==[])<;>rfl
 | cons x r=>
  have:(((x::r).length:Int)!=(([]:List ze).length:Int))=Q3:=by simp;omega
  simp only[this];cases(op==[])<;>cases(v.1==0&&(v.2.1==0&&(v.2.2==[]&&Q3)))<;>cases(s==[])<;>rfl
theorem K6(e:ze):yp e vZ=Q1 (ff 16 e vZ,()):=by
 rw[Cl];show bI 16 e vZ=_;rw[bI];unfold Gc;rcases zF (e.op==[])with c1|c1
 ·rcases zF (aW e.v)with c2|c2
  ·rcases zF (e.s==[])with c3|c3
   ·by_cases c4:e.l.length=0
    ·refine zx (s:=.h4 0 (e,()) (vZ,())) (k:=1) (r:=(.kb Q3,[])) ?_ (zV.of ?_) ow ?_
     ·unfold aW at c2;simp only[A4,Q8];have c4':(((ze.l e).length:Int)!=(([]:List ze).length:Int))=Q4:=by simp[c4]
      show(if(bif !(e.op==[])then Q3 else bif !(e.v.1==0&&(e.v.2.1==0&&(e.v.2.2==[]&&Q3)))then Q3 else bif !(e.s==[])then Q3 else((ze.l e).length:Int)!=(([]:List ze).length:Int))=Q3 then _ else _)=_;rw[c1,c2,c3,c4'];rfl
     ·have c5:Q0 ((0:Int)<((ze.l e).length:Int))=Q4:=ah (by rw[c4];omega);simp only[G4,G5,yP,Q8];rw[c5];rfl
     ·rw[c1,c2,c3,c4];rfl
    ·have c4':(((ze.l e).length:Int)!=(([]:List ze).length:Int))=Q3:=bne_iff_ne.2 (by show((ze.l e).length:Int)≠0;omega);have c5:((ze.l e).length==0)=Q4:=bP.2 c4;refine zM (r:=(.kb Q4,[])) ?_ ?_
     ·unfold aW at c2;simp only[A4,Q8];show(if(bif !(e.op==[])then Q3 else bif !(e.v.1==0&&(e.v.2.1==0&&(e.v.2.2==[]&&Q3)))then Q3 else bif !(e.s==[])then Q3 else((ze.l e).length:Int)!=(([]:List ze).length:Int))=Q3 then _ else _)=_;rw[c1,c2,c3,c4'];rfl
     ·rw[c1,c2,c3,c5];rfl
   ·refine zM (r:=(.kb Q4,[])) ?_ ?_
    ·unfold aW at c2;simp only[A4,Q8];show(if(bif !(e.op==[])then Q3 else bif !(e.v.1==0&&(e.v.2.1==0&&(e.v.2.2==[]&&Q3)))then Q3 else bif !(e.s==[])then Q3 else((ze.l e).length:Int)!=(([]:List ze).length:Int))=Q3 then _ else _)=_;rw[c1,c2,c3];rfl
    ·rw[c1,c2,c3];rfl
  ·refine zM (r:=(.kb Q4,[])) ?_ ?_
   ·unfold aW at c2;simp only[A4,Q8];show(if(bif !(e.op==[])then Q3 else bif !(e.v.1==0&&(e.v.2.1==0&&(e.v.2.2==[]&&Q3)))then Q3 else bif !(e.s==[])then Q3 else((ze.l e).length:Int)!=(([]:List ze).length:Int))=Q3 then _ else _)=_;rw[c1,c2];rfl
   ·rw[c1,c2];rfl
 ·refine zM (r:=(.kb Q4,[])) ?_ ?_
  ·simp only[A4,Q8];show(if(bif !(e.op==[])then Q3 else bif !(e.v.1==0&&(e.v.2.1==0&&(e.v.2.2==[]&&Q3)))then Q3 else bif !(e.s==[])then Q3 else((ze.l e).length:Int)!=(([]:List ze).length:Int))=Q3 then _ else _)=_;rw[c1];rfl
  ·rw[c1];rfl
theorem L9{e:ze}(h:cW e=Q3):(e.op==[])=Q4:=by
 have hg:=kj h;cases fq hg with
 |lit v hv=>rfl
 |col s hw hr=>rfl
 |one op a ho ha=>rcases ho with rfl|rfl<;>rfl
 |two op a b ho ha hb=>rcases ho with rfl|rfl|rfl|rfl|rfl|rfl<;>rfl
theorem BP{e:ze}{cols:List (Sem zj)}(hw:rD e)(hl:cols.length<=1000000):pd e cols=Q1 (ip e cols,()):=by
 have hs:=K6 e;have hsc:gv e vZ=Q3:=by unfold gv;rw[hs];rfl
 have hsv:eT e vZ=ff 16 e vZ:=by unfold eT;rw[hs];rfl
 unfold pd al cT;simp only[Ya,Q8,zl,mh hw,qh hw];unfold ip;rcases zF (e.op==[])with c|c
 ·have hm:cW e=Q4:=by
   rcases zF (cW e)with h|h
   ·rw[L9 h]at c;cases c
   ·exact h
  have ht:bD e cols=(0,1):=by unfold bD;rw[hm];rfl
  rw[c,hsc,hsv,ht];rcases zF (ff 16 e vZ)with h|h<;>rw[h]<;>rfl
 ·have hn:ff 16 e vZ=Q4:=by rw[Cl,c];rfl
  rw[c,hn];rcases zF (cW e)with h|h
  ·have ht:=I5 (cols:=cols) hl h;have htc:nc e cols=Q3:=by unfold nc;rw[ht];rfl
   have htv:ij e cols=bD e cols:=by unfold ij;rw[ht];rfl
   rw[h,htc,htv];generalize bD e cols=t;obtain⟨t,r⟩:=t;rcases zF (r==0)with k1|k1
   ·have e0:r=0:=bA k1;subst e0;rcases zF (t==0)with k2|k2<;>rcases zF (t==3)with k3|k3<;>(simp only[bne,k2,k3];rfl)
   ·simp only[bne,k1];rfl
  ·have ht:bD e cols=(0,1):=by unfold bD;rw[h];rfl
   rw[h,ht];rfl
structure nB (t:Sem zo):Prop where
 name:zK t.1=Q3
 n1:1<=t.2.1.length
 n8:t.2.1.length<=8
 cols:∀i,i<t.2.1.length->zK (getD t.2.1 i (zi zj)).1=Q3/\LE.le (α:=Int) 1 (getD t.2.1 i (zi zj)).2.1/\LE.le (α:=Int) (getD t.2.1 i (zi zj)).2.1 3/\zY t.2.1 (getD t.2.1 i (zi zj)).1=(i:Int)
 uniq:∀u∈t.2.2.2.1,CR u t.2.1.length
 refs:∀f∈t.t.1,CR f.1 t.2.1.length/\zK f.2=Q3
 key:CR t.2.2.1 t.2.1.length
 nn:(getD t.2.1 (toNat t.2.2.1) (zi zj)).2.2=Q3
 chk:ip t.t.2 t.2.1=(0:Int)
theorem HI{t:Sem zo}{i:Nat}:J5 t i=Q3↔(zK (getD t.2.1 i (zi zj)).1=Q3/\LE.le (α:=Int) 1 (getD t.2.1 i (zi zj)).2.1/\LE.le (α:=Int) (getD t.2.1 i (zi zj)).2.1 3/\zY t.2.1 (getD t.2.1 i (zi zj)).1=(i:Int)):=by
 unfold J5;have ep:zN t (getD t.2.1 i (zi zj)).1=zY t.2.1 (getD t.2.1 i (zi zj)).1:=rfl;rw[ep];generalize getD t.2.1 i (zi zj)=c;cases zK c.1
 ·simp
 ·by_cases h1:LT.lt (α:=Int) c.2.1 1
  ·rw[zt h1];simp;intro h;omega
  ·rw[ah h1];by_cases h2:GT.gt (α:=Int) c.2.1 3
   ·rw[zt h2];simp;intro _ h;omega
   ·rw[ah h2];exact⟨λh=>⟨rfl,ow,ow,by simpa using h⟩,λh=>by simpa using h.2.2.2⟩
theorem kM(t:Sem zo):eG t=Q3↔nB t:=by
 have h2:=ws (l:=t.2.2.2.1) (d:=zi zg) (p:=λu=>vR u (length t.2.1));simp only[oN]at h2;have h0:(!(bif !zK t.1 then Q3 else bif Q0 ((↑(length t.2.1):Int)<1)then Q3 else Q0 ((↑(length t.2.1):Int)>8)))=Q3↔(zK t.1=Q3/\1<=length t.2.1/\length t.2.1<=8):=by
  cases zK t.1
  ·simp
  ·by_cases h1:(↑(length t.2.1):Int)<1
   ·rw[zt h1];simp;omega
   ·rw[ah h1];simp;omega
 have h1:(List.range (length t.2.1)).all (J5 t)=Q3↔∀i,i<length t.2.1->J5 t i=Q3:=by
  rw[dU];simp only[ou]
 unfold eG;rw[aD,h0,aD,h1,aD,h2,aD,Jn,aD,oN,aD,aX];exact⟨λ⟨⟨a,b,c⟩,d,e,f,g,i,j⟩=>⟨a,b,c,λk hk=>HI.1 (d k hk),e,f,g,i,j⟩,λh=>⟨⟨h.name,h.n1,h.n8⟩,λk hk=>HI.2 (h.cols k hk),h.uniq,h.refs,h.key,h.nn,h.chk⟩⟩
structure JO (t:Sem zo):Prop where
 name:t.1.length<=1000000
 cols:∀c∈t.2.1,length c.1<=1000000
 ncols:t.2.1.length<=1000
 nuq:t.2.2.2.1.length<=1000
 nrf:t.t.1.length<=1000
 refs:∀f∈t.t.1,length f.2<=1000000
 chk:rD t.t.2
theorem L7{b:Bool}{x p i:Int}:(bif !b then Q3 else bif Q0 (x<1)then Q3 else bif Q0 (x>3)then Q3 else p !=i)=Q4↔(b=Q3/\1<=x/\x<=3/\p=i):=by
 cases b
 ·simp
 ·by_cases h1:x<1
  ·rw[zt h1];simp;omega
  ·rw[ah h1];by_cases h2:x>3
   ·rw[zt h2];simp;omega
   ·rw[ah h2];exact⟨λh=>⟨rfl,ow,ow,by simpa using h⟩,λh=>by simpa using h.2.2.2⟩
theorem MO{x:Int}{n:Nat}:(bif Q0 (x<0)then Q3 else Q0 (x>=(n:Int)))=Q3↔¬CR x n:=by
 unfold CR;by_cases h:x<0
 ·rw[zt h];simp;omega
 ·rw[ah h];simp;omega
theorem I9{t:Sem zo}(hw:JO t):Gj t=Q1 (eG t,()):=by
 have hiff:=kM t;have hn1:=hw.ncols;have hn2:=hw.nuq;have hn3:=hw.nrf;have no:∀r:aw,r=(.kb Q4,[])->¬nB t->aL r.2 [Q7] r.1=Q1 (eG t,()):=by
  intro r hr h;have:eG t=Q4:=by
   rcases zF (eG t)with c|c
   ·exact absurd (hiff.1 c) h
   ·exact c
  rw[hr,this];rfl
 have hi:(zbv t).val=if(bif !zK t.1 then true else bif decide ((t.2.1.length:Int)<1)then true else bif decide ((t.2.1.length:Int)>8)then true else bif decide (LT.lt (α:=Int) t.2.2.1 0)then true else bif decide (GE.ge (α:=Int) t.2.2.1 (t.2.1.length:Int))then true else !(getD t.2.1 (toNat t.2.2.1) (zi zj)).2.2)=true then some (.inr (.kb false,[]))else some (.inl (.h5 (t.2.1.length:Int) ((0:Nat):Int) (t,()))):=by
  simp only[zbv,Q8,bp hw.name,eM hw.name];rw[if_pos]
  ·rfl
  ·rcases zF (zK t.1)with c|c
   ·rw[c];by_cases k1:LT.lt (α:=Int) t.2.2.1 0
    ·rw[zt k1];cases Q0 ((t.2.1.length:Int)<1)<;>cases Q0 ((t.2.1.length:Int)>8)<;>rfl
    ·by_cases k2:GE.ge (α:=Int) t.2.2.1 (t.2.1.length:Int)
     ·rw[zt k2];cases Q0 ((t.2.1.length:Int)<1)<;>cases Q0 ((t.2.1.length:Int)>8)<;>cases Q0 (LT.lt (α:=Int) t.2.2.1 0)<;>rfl
     ·have:zP t.2.2.1 t.2.1.length=Q3:=tw ⟨ow,ow⟩;rw[this];cases Q0 ((t.2.1.length:Int)<1)<;>cases Q0 ((t.2.1.length:Int)>8)<;>cases Q0 (LT.lt (α:=Int) t.2.2.1 0)<;>cases Q0 (GE.ge (α:=Int) t.2.2.1 (t.2.1.length:Int))<;>rfl
   ·rw[c];rfl
 rcases zF (bif !zK t.1 then Q3 else bif Q0 ((t.2.1.length:Int)<1)then Q3 else bif Q0 ((t.2.1.length:Int)>8)then Q3 else bif Q0 (LT.lt (α:=Int) t.2.2.1 0)then Q3 else bif Q0 (GE.ge (α:=Int) t.2.2.1 (t.2.1.length:Int))then Q3 else !(getD t.2.1 (toNat t.2.2.1) (zi zj)).2.2)with c|c
 ·rw[if_pos c]at hi;refine zM hi (no _ rfl λh=>?_);obtain⟨k1,k2⟩:=h.key;have e1:=h.n1;have e2:=h.n8;rw[h.name,ah ow,ah ow,ah ow,ah ow,h.nn]at c;cases c
 rw[if_neg (by rw[c];simp)]at hi;have hname:zK t.1=Q3:=by
  rcases zF (zK t.1)with k|k
  ·exact k
  ·rw[k]at c;cases c
 rw[hname]at c;have h1:1<=t.2.1.length:=by
  by_cases k:(t.2.1.length:Int)<1
  ·rw[zt k]at c;cases c
  ·omega
 rw[ah (by omega:¬(t.2.1.length:Int)<1)]at c;have h8:t.2.1.length<=8:=by
  by_cases k:(t.2.1.length:Int)>8
  ·rw[zt k]at c;cases c
  ·omega
 rw[ah (by omega:¬(t.2.1.length:Int)>8)]at c;have hk0:LE.le (α:=Int) 0 t.2.2.1:=by
  by_cases k:LT.lt (α:=Int) t.2.2.1 0
  ·rw[zt k]at c;cases c
  ·omega
 rw[ah (by omega:¬LT.lt (α:=Int) t.2.2.1 0)]at c;have hkn:LT.lt (α:=Int) t.2.2.1 (t.2.1.length:Int):=by
  by_cases k:GE.ge (α:=Int) t.2.2.1 (t.2.1.length:Int)
  ·rw[zt k]at c;cases c
  ·omega
 rw[ah (by omega:¬GE.ge (α:=Int) t.2.2.1 (t.2.1.length:Int))]at c;have hnn:(getD t.2.1 (toNat t.2.2.1) (zi zj)).2.2=Q3:=by simpa using c
 have f5:=lN (t:=qQ) (Φ:=λr=>r=(.kb Q4,[])) 1 (λi=>.h5 (t.2.1.length:Int) (i:Int) (t,())) (λi=>zK (getD t.2.1 i (zi zj)).1=Q3/\LE.le (α:=Int) 1 (getD t.2.1 i (zi zj)).2.1/\LE.le (α:=Int) (getD t.2.1 i (zi zj)).2.1 3/\zY t.2.1 (getD t.2.1 i (zi zj)).1=(i:Int)) t.2.1.length (by
  intro i hi _;have hcl:=hw.cols _ (bE (d:=zi zj) hi);have hv:(qQ (.h5 (t.2.1.length:Int) (i:Int) (t,()))).val=if(bif !zK (getD t.2.1 i (zi zj)).1 then Q3 else bif Q0 (LT.lt (α:=Int) (getD t.2.1 i (zi zj)).2.1 1)then Q3 else bif Q0 (GT.gt (α:=Int) (getD t.2.1 i (zi zj)).2.1 3)then Q3 else zY t.2.1 (getD t.2.1 i (zi zj)).1!=(i:Int))=Q3 then Q1 (.inr (.kb Q4,[]))else Q1 (.inl (.h5 (t.2.1.length:Int) ((i+1:Nat):Int) (t,()))):=by
   simp only[qQ,Q8,zH hi,zu hi,aJ,bp hcl,eM hcl,iP (show t.2.1.length<=1000000 by omega),j4 (show t.2.1.length<=1000000 by omega),if_true];rw[if_pos,zq i um];cases zK (getD t.2.1 i (zi zj)).1<;>cases Q0 (LT.lt (α:=Int) (getD t.2.1 i (zi zj)).2.1 1)<;>cases Q0 (GT.gt (α:=Int) (getD t.2.1 i (zi zj)).2.1 3)<;>rfl
  rcases zF (bif !zK (getD t.2.1 i (zi zj)).1 then Q3 else bif Q0 (LT.lt (α:=Int) (getD t.2.1 i (zi zj)).2.1 1)then Q3 else bif Q0 (GT.gt (α:=Int) (getD t.2.1 i (zi zj)).2.1 3)then Q3 else zY t.2.1 (getD t.2.1 i (zi zj)).1!=(i:Int))with c|c
  ·refine .inr ⟨λh=>?_,_,zV.of (by rw[hv,if_pos c]),rfl⟩;rw[L7.2 h]at c;cases c
  ·exact .inl ⟨L7.1 c,zR.of (by rw[hv,if_neg (by rw[c];simp)])⟩)
 rcases f5 with⟨p5,f5⟩|⟨p5,r,f5,hr⟩
 case inr=>exact zx hi f5 ow (no _ hr λh=>p5 h.cols)
 have v5:(qQ (.h5 (t.2.1.length:Int) (t.2.1.length:Int) (t,()))).val=Q1 (.inl (.h11 (t.2.1.length:Int) ((0:Nat):Int) (t,()))):=by
  simp only[qQ,Q8,zz];rfl
 have g11:=f5.trans (zR.of v5);have f11:=lN (t:=qQ) (Φ:=λr=>r=(.kb Q4,[])) 1 (λi=>.h11 (t.2.1.length:Int) (i:Int) (t,())) (λi=>CR (getD t.2.2.2.1 i (zi zg)) t.2.1.length) t.2.2.2.1.length (by
  intro i hi _;have hv:(qQ (.h11 (t.2.1.length:Int) (i:Int) (t,()))).val=if(bif Q0 (LT.lt (α:=Int) (getD t.2.2.2.1 i (zi zg)) 0)then Q3 else Q0 (GE.ge (α:=Int) (getD t.2.2.2.1 i (zi zg)) (t.2.1.length:Int)))=Q3 then Q1 (.inr (.kb Q4,[]))else Q1 (.inl (.h11 (t.2.1.length:Int) ((i+1:Nat):Int) (t,()))):=by
   simp only[qQ,Q8,zH hi,zu hi,aJ,if_true];rw[if_pos,zq i um];cases Q0 (LT.lt (α:=Int) (getD t.2.2.2.1 i (zi zg)) 0)<;>rfl
  by_cases h:CR (getD t.2.2.2.1 i (zi zg)) t.2.1.length
  ·exact .inl ⟨h,zR.of (by rw[hv,if_neg (by rw[ah (by have:=h.1;omega),ah (by have:=h.2;omega)];simp)])⟩
  ·refine .inr ⟨h,_,zV.of (by rw[hv,if_pos (MO.2 h)]),rfl⟩)
 rcases f11 with⟨p11,f11⟩|⟨p11,r,f11,hr⟩
 case inr=>exact zx hi (g11.ends f11) ow (no _ hr λh=>p11 ((aq (Q:=λu=>CR u t.2.1.length)).2 h.uniq))
 have v11:(qQ (.h11 (t.2.1.length:Int) (t.2.2.2.1.length:Int) (t,()))).val=Q1 (.inl (.h16 (t.2.1.length:Int) ((0:Nat):Int) (t,()))):=by
  simp only[qQ,Q8,zz];rfl
 have g16:=(g11.trans f11).trans (zR.of v11);have f16:=lN (t:=qQ) (Φ:=λr=>r=(.kb Q4,[])) 1 (λi=>.h16 (t.2.1.length:Int) (i:Int) (t,())) (λi=>CR (getD t.t.1 i (zi zr)).1 t.2.1.length/\zK (getD t.t.1 i (zi zr)).2=Q3) t.t.1.length (by
  intro i hi _;have hcl:=hw.refs _ (bE (d:=zi zr) hi);have hv:(qQ (.h16 (t.2.1.length:Int) (i:Int) (t,()))).val=if(bif Q0 (LT.lt (α:=Int) (getD t.t.1 i (zi zr)).1 0)then Q3 else bif Q0 (GE.ge (α:=Int) (getD t.t.1 i (zi zr)).1 (t.2.1.length:Int))then Q3 else !zK (getD t.t.1 i (zi zr)).2)=Q3 then Q1 (.inr (.kb Q4,[]))else Q1 (.inl (.h16 (t.2.1.length:Int) ((i+1:Nat):Int) (t,()))):=by
   simp only[qQ,Q8,zH hi,zu hi,aJ,bp hcl,eM hcl,if_true];rw[if_pos,zq i um];cases Q0 (LT.lt (α:=Int) (getD t.t.1 i (zi zr)).1 0)<;>cases Q0 (GE.ge (α:=Int) (getD t.t.1 i (zi zr)).1 (t.2.1.length:Int))<;>rfl
  by_cases h:CR (getD t.t.1 i (zi zr)).1 t.2.1.length
  ·rcases zF (zK (getD t.t.1 i (zi zr)).2)with c|c
   ·exact .inl ⟨⟨h,c⟩,zR.of (by rw[hv,c,if_neg (by rw[ah (by have:=h.1;omega),ah (by have:=h.2;omega)];simp)])⟩
   ·exact .inr ⟨λh2=>(by rw[h2.2]at c;cases c),_,zV.of (by rw[hv,c,if_pos (by rw[ah (by have:=h.1;omega),ah (by have:=h.2;omega)];rfl)]),rfl⟩
  ·have hb:(bif Q0 (LT.lt (α:=Int) (getD t.t.1 i (zi zr)).1 0)then Q3 else bif Q0 (GE.ge (α:=Int) (getD t.t.1 i (zi zr)).1 (t.2.1.length:Int))then Q3 else !zK (getD t.t.1 i (zi zr)).2)=Q3:=by
    have:=MO.2 h;rcases zF (Q0 (LT.lt (α:=Int) (getD t.t.1 i (zi zr)).1 0))with k|k
    ·rw[k];rfl
    ·rw[k]at this⊢;rw[show Q0 (GE.ge (α:=Int) (getD t.t.1 i (zi zr)).1 (t.2.1.length:Int))=Q3 from this];rfl
   exact .inr ⟨λh2=>h h2.1,_,zV.of (by rw[hv,if_pos hb]),rfl⟩)
 rcases f16 with⟨p16,f16⟩|⟨p16,r,f16,hr⟩
 case inr=>exact zx hi (g16.ends f16) ow (no _ hr λh=>p16 ((aq (Q:=λf:Sem zr=>CR f.1 t.2.1.length/\zK f.2=Q3)).2 h.refs))
 have hch:BO t.t.2 t.2.1=Q3:=by unfold BO;rw[BP hw.chk ow];rfl
 have hcv:Gk t.t.2 t.2.1=ip t.t.2 t.2.1:=by unfold Gk;rw[BP hw.chk ow];rfl
 have v16:(qQ (.h16 (t.2.1.length:Int) (t.t.1.length:Int) (t,()))).val=Q1 (.inr (.bool (ip t.t.2 t.2.1==(0:Int)),[])):=by
  simp only[qQ,Q8,zz,zl,hch,hcv];rfl
 refine zx hi (g16.ends (f16.ends (zV.of v16))) ow ?_;have:eG t=(ip t.t.2 t.2.1==(0:Int)):=by
  apply iA.2;rw[hiff];constructor
  ·intro h;rw[h.chk];rfl
  ·intro h;exact⟨hname,h1,h8,p5,(aq (Q:=λu=>CR u t.2.1.length)).1 p11,(aq (Q:=λf:Sem zr=>CR f.1 t.2.1.length/\zK f.2=Q3)).1 p16,⟨hk0,hkn⟩,hnn,bA h⟩
 rw[this];rfl
theorem mj{t:Sem zo}(hw:JO t):wl t=Q3:=by unfold wl;rw[I9 hw];rfl
theorem qn{t:Sem zo}(hw:JO t):EM t=eG t:=by unfold EM;rw[I9 hw];rfl
section
variable {σ:Type} {t:σ->Tr (σ⊕aw)}
abbrev ES:aw:=(.kb Q4,[])
theorem Kj{α:Type}{la lb:List α}(st:Nat->σ)(hlen:la.length=lb.length)(hs:∀i(ha:i<la.length)(hb:i<lb.length),(la[i]=lb[i]->(t (st i)).val=Q1 (.inl (st (i+1))))/\(la[i]≠lb[i]->(t (st i)).val=Q1 (.inr ES))):
  (la=lb/\zR t la.length (st 0) (st la.length))\/(la≠lb/\zV t la.length (st 0) ES):=by
 rcases lN (t:=t) (Φ:=λr=>r=ES) 1 st (λi=>la[i]?=lb[i]?) la.length (λi hi _=>by
  have hb:i<lb.length:=by omega
  obtain⟨h1,h2⟩:=hs i hi hb;rw[zQ hi,zQ hb];by_cases h:la[i]=lb[i]
  ·exact .inl ⟨by rw[h],zR.of (h1 h)⟩
  ·exact .inr ⟨λh3=>h (Option.some.inj h3),ES,zV.of (h2 h),rfl⟩)with⟨h1,h2⟩|⟨h1,r,h2,rfl⟩
 ·rw[Nat.mul_one]at h2;refine .inl ⟨Du λi=>?_,h2⟩;by_cases hi:i<la.length
  ·exact h1 i hi
  ·rw[eX ow,eX ow]
 ·rw[Nat.mul_one]at h2;exact .inr ⟨λh=>h1 λi _=>by rw[h],h2⟩
end
theorem iY{α:Type}{a b:List α}:((a.length:Int)!=(b.length:Int))=Q3↔a.length≠b.length:=by
 simp[bne];omega
theorem BK:∀(N:Nat)(a b:ze),qM N a=Q3->∃r,bI N a b=Q1 (r,())/\(r=Q3↔a=b)
 |0,_,_,h=>by cases h
 | N + 1,.mk op v s l,.mk op' v' s' l',h=>by
  rw[qM]at h;simp only[aD,aN,dU]at h;obtain⟨hl,ha⟩:=h;rw[bI];unfold Gc
  have no:(A4 (λx0 x1=>gw (bI N x0 x1)) (λx0 x1=>(bI N x0 x1).isSome) (.mk op v s l) (.mk op' v' s' l')).val=Q1 (.inr ES)->¬(ze.mk op v s l=ze.mk op' v' s' l')->
    ∃r,al [Q7] (G4 (λx0 x1=>gw (bI N x0 x1)) (λx0 x1=>(bI N x0 x1).isSome)) 3000000000 (A4 (λx0 x1=>gw (bI N x0 x1)) (λx0 x1=>(bI N x0 x1).isSome) (.mk op v s l) (.mk op' v' s' l'))=Q1 (r,())/\(r=Q3↔ze.mk op v s l=ze.mk op' v' s' l'):=by
   intro hv hne;exact⟨Q4,zM hv rfl,by simp[hne]⟩
  have hd:∀c:Bool,(bif !op==op' then Q3 else bif !(v.1==v'.1&&(v.2.1==v'.2.1&&(v.2.2==v'.2.2&&Q3)))then Q3 else bif !s==s' then Q3 else(↑l.length:Int)!=(↑l'.length:Int))=c->
    (A4 (λx0 x1=>gw (bI N x0 x1)) (λx0 x1=>(bI N x0 x1).isSome) (.mk op v s l) (.mk op' v' s' l')).val=if c=Q3 then Q1 (.inr ES)else Q1 (.inl (.h4 ((0:Nat):Int) (.mk op v s l,()) (.mk op' v' s' l',()))):=by
   rintro c rfl;rfl
  by_cases e1:op=op';rotate_left
  ·exact no (by rw[hd Q3 (by rw[bP.2 e1];rfl)];rfl) (λh=>e1 (by injection h))
  by_cases e2:v=v';rotate_left
  ·refine no ?_ (λh=>e2 (by injection h));rw[hd Q3 ?_]
   ·rfl
   ·have:(v.1==v'.1&&(v.2.1==v'.2.1&&(v.2.2==v'.2.2&&Q3)))=Q4:=by
     rw[<-gJ];intro h;simp at h;exact e2 (Prod.ext h.1 (Prod.ext h.2.1 h.2.2))
    rw[this];cases(op==op')<;>rfl
  by_cases e3:s=s';rotate_left
  ·refine no ?_ (λh=>e3 (by injection h));rw[hd Q3 ?_]
   ·rfl
   ·rw[bP.2 e3];cases(op==op')<;>cases(v.1==v'.1&&(v.2.1==v'.2.1&&(v.2.2==v'.2.2&&Q3)))<;>rfl
  by_cases e4:l.length=l'.length;rotate_left
  ·refine no ?_ (λh=>e4 (by injection h with _ _ _ h;rw[h]));rw[hd Q3 ?_]
   ·rfl
   ·rw[iY.2 e4];cases(op==op')<;>cases(v.1==v'.1&&(v.2.1==v'.2.1&&(v.2.2==v'.2.2&&Q3)))<;>cases(s==s')<;>rfl
  subst e1;subst e2;subst e3;have hv:=hd Q4 (by
   have:((↑l.length:Int)!=(↑l'.length:Int))=Q4:=by rw[<-gJ,iY];exact λh=>h e4
   rw[this];simp)
  rw[if_neg sw]at hv
  rcases Kj (t:=G4 (λx0 x1=>gw (bI N x0 x1)) (λx0 x1=>(bI N x0 x1).isSome)) (la:=l) (lb:=l') (λi=>.h4 (i:Int) (.mk op v s l,()) (.mk op v s l',())) e4 (by
   intro i hi hi';obtain⟨r,hr,hiff⟩:=BK N l[i] l'[i] (ha _ (bC hi));have g1:getD l (i:Int).toNat (zi Q5)=l[i]:=ac _ _ hi;have g2:getD l' (i:Int).toNat (zi Q5)=l'[i]:=ac _ _ hi';have hval:(G4 (λx0 x1=>gw (bI N x0 x1)) (λx0 x1=>(bI N x0 x1).isSome) (.h4 (i:Int) (.mk op v s l,()) (.mk op v s l',()))).val=if(!r)=Q3 then Q1 (.inr ES)else Q1 (.inl (.h4 ((i+1:Nat):Int) (.mk op v s l,()) (.mk op v s l',()))):=by
    simp only[G4,G5,yP,Q8,ze.l,zl,g1,g2,zu hi,zu hi',hr,Dt,if_true];rw[zq i um];show(if Q0 ((i:Int)<(l.length:Int))=Q3 then _ else _)=_;rw[if_pos (zt ow)];rfl
   rw[hval];refine⟨λh=>?_,λh=>?_⟩
   ·rw[if_neg (by rw[hiff.2 h];simp)]
   ·rw[if_pos];cases r
    ·rfl
    ·exact absurd (hiff.1 rfl) h)with⟨h1,h2⟩|⟨h1,h2⟩
  ·subst h1;refine⟨Q3,zx hv (h2.ends (zV.of (r:=(.kb Q3,[])) ?_)) ow rfl,sw⟩;simp only[G4,G5,yP,Q8,ze.l];exact if_neg sw
  ·exact⟨Q4,zx hv h2 ow rfl,by simp[h1]⟩
theorem qi{a b:ze}(h:qM 16 a=Q3):gv a b=Q3/\(eT a b=Q3↔a=b):=by
 obtain⟨r,h1,h2⟩:=BK 16 a b h;have h1:yp a b=Q1 (r,()):=h1;refine⟨by unfold gv;rw[h1];rfl,?_⟩;have:eT a b=r:=by unfold eT;rw[h1];rfl
 rw[this];exact h2
section
variable {σ:Type} {t:σ->Tr (σ⊕aw)}
def Pj(t:σ->Tr (σ⊕aw))(K:Nat)(nx:σ⊕aw)(r:aw):Prop:=match nx with
 |.inl h=>zV t K h r
 |.inr r'=>r'=r
theorem lc{α:Type}{la lb:List α}(st:Int->σ)(nx:σ⊕aw)(e:Nat->Bool)(hval:∀i:Nat,i<=la.length->(t (st i)).val=if Q0 (LT.lt (α:=Int) (i:Int) (la.length:Int))=Q3 then(if zP (i:Int) la.length=Q3 then(if zP (i:Int) lb.length=Q3 then(if(!e i)=Q3 then Q1 (.inr ES)else Q1 (.inl (st (IntKind.i64.wrap ((i:Int)+1)))))else Q2)else Q2)else Q1 nx)
  (he:∀i(_:i<la.length)(ha:i<la.length)(hb:i<lb.length),e i=Q3↔la[i]=lb[i]) (hlen:la.length=lb.length) (hm:la.length<=1000000):
  (la=lb/\∀K r,Pj t K nx r->zV t (K+la.length+1) (st 0) r)\/(la≠lb/\zV t la.length (st 0) ES):=by
 rcases Kj (t:=t) (la:=la) (lb:=lb) (λi=>st (i:Int)) hlen (λi ha hb=>by
  have hv:=hval i ow;rw[if_pos (zt ow),if_pos (zu ha),if_pos (zu hb),zq i um]at hv;have:=he i ha ha hb;refine⟨λh=>?_,λh=>?_⟩
  ·rw[hv,if_neg (by rw[this.2 h];simp)]
  ·rw[hv,if_pos];cases hh:e i
   ·rfl
   ·exact absurd (this.1 hh) h)with⟨h1,h2⟩|⟨h1,h2⟩
 ·refine .inl ⟨h1,λK r hr=>?_⟩;have hv:=hval la.length (aB _);rw[if_neg sw]at hv;unfold Pj at hr;cases nx with
  |inl h=>exact(h2.ends ((zR.of hv).ends hr)).mono ow
  |inr r'=>cases hr;exact(h2.ends (zV.of hv)).mono ow
 ·exact .inr ⟨h1,h2⟩
end
theorem PS(a b:Sem zj):(a.1==b.1&&(a.2.1==b.2.1&&(a.2.2==b.2.2&&Q3)))=Q3↔a=b:=by
 simp[Prod.ext_iff]
theorem ziD(a b:Sem iD):(a.1==b.1&&(a.2==b.2&&Q3))=Q3↔a=b:=by
 simp[Prod.ext_iff]
theorem zaY(a b:Sem zr):(a.1==b.1&&(a.2==b.2&&Q3))=Q3↔a=b:=by
 simp[Prod.ext_iff]
theorem zcv(a b:Sem zf):(a.1==b.1&&(a.2.1==b.2.1&&(a.2.2==b.2.2&&Q3)))=Q3↔a=b:=by
 simp[Prod.ext_iff]
theorem SG{x y:Bool}(h:(bif x then Q3 else y)=Q4):x=Q4/\y=Q4:=by
 cases x
 ·exact⟨rfl,h⟩
 ·cases h
theorem Sd{α:Type}[BEq α][LawfulBEq α]{a b:α}(h:(!a==b)=Q4):a=b:=by
 cases hh:(a==b)
 ·rw[hh]at h;cases h
 ·simpa using hh
theorem Oz{α:Type}{a b:List α}(h:((↑(length a):Int)!=(↑(length b):Int))=Q4):a.length=b.length:=by
 simp[bne]at h;omega
structure yU (a:Sem zk):Prop where
 names:a.2.2.2.1.length<=1000
 cols:a.t.1.length<=1000
 uniques:a.t.q.1.length<=1000
 refs:a.t.q.2.1.length<=1000
 row:a.t.t.2.1.length<=1000
 sets:a.t.t.q.1.length<=1000
 chk:qM 16 a.t.t.1=Q3
 whr:qM 16 a.t.t.q.2.1=Q3
 ex:∀x∈a.t.t.q.1,qM 16 (x:Sem gS).2=Q3
theorem Lc{a b:Sem zk}(h:yU a):∃r,qu a b=Q1 (r,())/\(r=Q3↔a=b):=by
 obtain⟨a1,a2,a3,a4,a5,a6,a7,a8,a9,a10,a11,a12,a13⟩:=a;obtain⟨b1,b2,b3,b4,b5,b6,b7,b8,b9,b10,b11,b12,b13⟩:=b;obtain⟨h4,h5,h7,h8,h10,h11,h9,h12,hx⟩:=h;have h4:a4.length<=1000:=h4;have h5:a5.length<=1000:=h5;have h7:a7.length<=1000:=h7;have h8:a8.length<=1000:=h8;have h10:a10.length<=1000:=h10;have h11:a11.length<=1000:=h11;have hx:∀x∈a11,qM 16 (x:Sem gS).2=Q3:=hx;obtain⟨s1,s2⟩:=qi (b:=b9) (show qM 16 a9=Q3 from h9);obtain⟨u1,u2⟩:=qi (b:=b12) (show qM 16 a12=Q3 from h12);generalize hA:((a1,a2,a3,a4,a5,a6,a7,a8,a9,a10,a11,a12,a13):Sem zk)=A;generalize hB:((b1,b2,b3,b4,b5,b6,b7,b8,b9,b10,b11,b12,b13):Sem zk)=B;have hne:∀r:aw,∀{k s},(VG A B).val=Q1 (.inl s)->A≠B->zV sC k s ES->k<=100000000->∃r,qu A B=Q1 (r,())/\(r=Q3↔A=B):=by
  intro _ k s h1 h h2 h3;exact⟨Q4,zx h1 h2 h3 rfl,by simp[h]⟩
 have hv:∀c d:Bool,(bif !a1==b1 then Q3 else bif !a2==b2 then Q3 else bif !a3==b3 then Q3 else bif !a6==b6 then Q3 else bif !a13==b13 then Q3 else bif !eT a9 b9 then Q3 else !eT a12 b12)=c->
   (bif (↑(length a4):Int)!=(↑(length b4):Int)then Q3 else bif (↑(length a5):Int)!=(↑(length b5):Int)then Q3 else bif (↑(length a7):Int)!=(↑(length b7):Int)then Q3 else bif (↑(length a8):Int)!=(↑(length b8):Int)then Q3 else bif (↑(length a10):Int)!=(↑(length b10):Int)then Q3 else(↑(length a11):Int)!=(↑(length b11):Int))=d->
   (VG A B).val=if c=Q3 then Q1 (.inr ES)else if d=Q3 then Q1 (.inr ES)else Q1 (.inl (.h6 0 (A,()) (B,()))):=by
  rintro c d rfl rfl;subst hA;subst hB;have hg:∀x:Bool,(bif !a1==b1 then Q3 else bif !a2==b2 then Q3 else bif !a3==b3 then Q3 else bif !a6==b6 then Q3 else bif !a13==b13 then Q3 else gv a9 b9&&bif x then Q3 else gv a12 b12)=Q3:=by
   intro x;rw[s1,u1];cases(!a1==b1)<;>cases(!a2==b2)<;>cases(!a3==b3)<;>cases(!a6==b6)<;>cases(!a13==b13)<;>cases x<;>rfl
  simp only[VG,Q8,zl];rw[if_pos (hg _)]
 cases hc:(bif !a1==b1 then Q3 else bif !a2==b2 then Q3 else bif !a3==b3 then Q3 else bif !a6==b6 then Q3 else bif !a13==b13 then Q3 else bif !eT a9 b9 then Q3 else !eT a12 b12);rotate_left
 ·refine⟨Q4,zM (r:=ES) (by rw[hv Q3 _ hc rfl];rfl) rfl,?_⟩;constructor
  ·intro h;cases h
  ·intro h;rw[<-hA,<-hB]at h;simp only[cm]at h;obtain⟨rfl,rfl,rfl,rfl,rfl,rfl,rfl,rfl,rfl,rfl,rfl,rfl,rfl⟩:=h;have k1:=s2.2 rfl;have k2:=u2.2 rfl;rw[k1,k2]at hc;simp at hc
 cases hd:(bif (↑(length a4):Int)!=(↑(length b4):Int)then Q3 else bif (↑(length a5):Int)!=(↑(length b5):Int)then Q3 else bif (↑(length a7):Int)!=(↑(length b7):Int)then Q3 else bif (↑(length a8):Int)!=(↑(length b8):Int)then Q3 else bif (↑(length a10):Int)!=(↑(length b10):Int)then Q3 else(↑(length a11):Int)!=(↑(length b11):Int));rotate_left
 ·refine⟨Q4,zM (r:=ES) (by rw[hv Q4 Q3 hc hd];rfl) rfl,?_⟩;constructor
  ·intro h;cases h
  ·intro h;rw[<-hA,<-hB]at h;simp only[cm]at h;obtain⟨rfl,rfl,rfl,rfl,rfl,rfl,rfl,rfl,rfl,rfl,rfl,rfl,rfl⟩:=h;simp at hd
 have hi:=hv Q4 Q4 hc hd;rw[if_neg sw,if_neg sw]at hi;obtain⟨m1,hc⟩:=SG hc;obtain⟨m2,hc⟩:=SG hc;obtain⟨m3,hc⟩:=SG hc;obtain⟨m6,hc⟩:=SG hc;obtain⟨m13,hc⟩:=SG hc;obtain⟨m9,m12⟩:=SG hc;obtain⟨n4,hd⟩:=SG hd;obtain⟨n5,hd⟩:=SG hd;obtain⟨n7,hd⟩:=SG hd;obtain⟨n8,hd⟩:=SG hd;obtain⟨n10,n11⟩:=SG hd;have e1:=Sd m1;have e2:=Sd m2;have e3:=Sd m3;have e6:=Sd m6;have e13:=Sd m13;have e9:=s2.1 (by simpa using m9);have e12:=u2.1 (by simpa using m12);subst e1;subst e2;subst e3;subst e6;subst e13;subst e9;subst e12;have no:∀{k},A≠B->zV sC k (.h6 0 (A,()) (B,())) ES->k<=100000000->∃r,qu A B=Q1 (r,())/\(r=Q3↔A=B):=λh1 h2 h3=>hne ES hi h1 h2 h3
 rcases lc (t:=sC) (la:=a4) (lb:=b4) (λi=>.h6 i (A,()) (B,())) (.inl (.h11 0 (A,()) (B,()))) (λi=>getD a4 (i:Int).toNat (zi Q6)==getD b4 (i:Int).toNat (zi Q6)) (λ_ _=>by subst hA;subst hB;rfl) (λi _ ha hb=>by rw[aX,ac _ _ ha,ac _ _ hb]) (Oz n4) ow with⟨q4,k4⟩|⟨q4,k4⟩;rotate_left
 ·exact no (λh=>q4 (by rw[<-hA,<-hB]at h;simp only[cm]at h;exact h.2.2.2.1)) k4 ow
 rcases lc (t:=sC) (la:=a5) (lb:=b5) (λi=>.h11 i (A,()) (B,())) (.inl (.h16 0 (A,()) (B,()))) (λi=>((getD a5 (i:Int).toNat (zi zj)).1==(getD b5 (i:Int).toNat (zi zj)).1&&((getD a5 (i:Int).toNat (zi zj)).2.1==(getD b5 (i:Int).toNat (zi zj)).2.1&&((getD a5 (i:Int).toNat (zi zj)).2.2==(getD b5 (i:Int).toNat (zi zj)).2.2&&Q3)))) (λ_ _=>by subst hA;subst hB;rfl) (λi _ ha hb=>by rw[PS,ac _ _ ha,ac _ _ hb]) (Oz n5) ow with⟨q5,k5⟩|⟨q5,k5⟩;rotate_left
 ·exact no (λh=>q5 (by rw[<-hA,<-hB]at h;simp only[cm]at h;exact h.t.1)) (k4 _ _ k5) ow
 rcases lc (t:=sC) (la:=a7) (lb:=b7) (λi=>.h16 i (A,()) (B,())) (.inl (.h21 0 (A,()) (B,()))) (λi=>getD a7 (i:Int).toNat (zi Q6)==getD b7 (i:Int).toNat (zi Q6)) (λ_ _=>by subst hA;subst hB;rfl) (λi _ ha hb=>by rw[aX,ac _ _ ha,ac _ _ hb]) (Oz n7) ow with⟨q7,k7⟩|⟨q7,k7⟩;rotate_left
 ·exact no (λh=>q7 (by rw[<-hA,<-hB]at h;simp only[cm]at h;exact h.t.q.1)) (k4 _ _ (k5 _ _ k7)) ow
 rcases lc (t:=sC) (la:=a8) (lb:=b8) (λi=>.h21 i (A,()) (B,())) (.inl (.h26 0 (A,()) (B,()))) (λi=>((getD a8 (i:Int).toNat (zi iD)).1==(getD b8 (i:Int).toNat (zi iD)).1&&((getD a8 (i:Int).toNat (zi iD)).2==(getD b8 (i:Int).toNat (zi iD)).2&&Q3))) (λ_ _=>by subst hA;subst hB;rfl) (λi _ ha hb=>by rw[ziD,ac _ _ ha,ac _ _ hb]) (Oz n8) ow with⟨q8,k8⟩|⟨q8,k8⟩;rotate_left
 ·exact no (λh=>q8 (by rw[<-hA,<-hB]at h;simp only[cm]at h;exact h.t.q.2.1)) (k4 _ _ (k5 _ _ (k7 _ _ k8))) ow
 rcases lc (t:=sC) (la:=a10) (lb:=b10) (λi=>.h26 i (A,()) (B,())) (.inl (.h31 0 (A,()) (B,()))) (λi=>((getD a10 (i:Int).toNat (zi zf)).1==(getD b10 (i:Int).toNat (zi zf)).1&&((getD a10 (i:Int).toNat (zi zf)).2.1==(getD b10 (i:Int).toNat (zi zf)).2.1&&((getD a10 (i:Int).toNat (zi zf)).2.2==(getD b10 (i:Int).toNat (zi zf)).2.2&&Q3)))) (λ_ _=>by subst hA;subst hB;rfl) (λi _ ha hb=>by rw[zcv,ac _ _ ha,ac _ _ hb]) (Oz n10) ow with⟨q10,k10⟩|⟨q10,k10⟩;rotate_left
 ·exact no (λh=>q10 (by rw[<-hA,<-hB]at h;simp only[cm]at h;exact h.t.t.2.1)) (k4 _ _ (k5 _ _ (k7 _ _ (k8 _ _ k10)))) ow
 have l11:=Oz n11
 rcases Kj (t:=sC) (la:=a11) (lb:=b11) (λi=>.h31 (i:Int) (A,()) (B,())) l11 (λi ha hb=>by
  obtain⟨w1,w2⟩:=qi (a:=a11[i].2) (b:=b11[i].2) (hx _ (bC ha));have hval:(sC (.h31 (i:Int) (A,()) (B,()))).val=if(bif !a11[i].1==b11[i].1 then Q3 else !eT a11[i].2 b11[i].2)=Q3 then Q1 (.inr ES)else Q1 (.inl (.h31 ((i+1:Nat):Int) (A,()) (B,()))):=by
   subst hA;subst hB;show(sC (.h31 _ _ _)).val=_;simp only[sC,Q8,zl,ac _ _ ha,ac _ _ hb,zH ha,zu ha,zu hb,w1,if_true,dF];rw[zq i um];cases(!a11[i].1==b11[i].1)<;>rfl
  refine⟨λh=>?_,λh=>?_⟩
  ·have k:=w2.2 (by rw[h]);rw[hval,if_neg (by rw[k,h];simp)]
  ·rw[hval,if_pos];cases hh:(a11[i].1==b11[i].1)
   ·rfl
   ·cases hw:eT a11[i].2 b11[i].2
    ·rfl
    ·exact absurd (Prod.ext (by simpa using hh) (w2.1 hw)) h)with⟨q11,k11⟩|⟨q11,k11⟩
 rotate_left
 ·exact no (λh=>q11 (by rw[<-hA,<-hB]at h;simp only[cm]at h;exact h.t.t.q.1)) (k4 _ _ (k5 _ _ (k7 _ _ (k8 _ _ (k10 _ _ k11))))) ow
 have hend:(sC (.h31 (a11.length:Int) (A,()) (B,()))).val=Q1 (.inr (.kb Q3,[])):=by
  subst hA;subst hB;show(sC (.h31 _ _ _)).val=_;simp only[sC,Q8,zz];rfl
 refine⟨Q3,zx hi (k4 _ _ (k5 _ _ (k7 _ _ (k8 _ _ (k10 _ _ (k11.ends (zV.of hend))))))) ow rfl,?_⟩;subst q4;subst q5;subst q7;subst q8;subst q10;subst q11;rw[<-hA,<-hB];simp
theorem qv{a b:Sem zk}(h:yU a):yB a b=Q3/\(eU a b=Q3↔a=b):=by
 obtain⟨r,h1,h2⟩:=Lc (b:=b) h;refine⟨by unfold yB;rw[h1];rfl,?_⟩;have:eU a b=r:=by unfold eU;rw[h1];rfl
 rw[this];exact h2
theorem jT{e:ze}:gK e=Q3↔e=.mk [] (0,0,[]) [] []:=by
 obtain⟨op,⟨k,i,t⟩,s,l⟩:=e;unfold gK;show(bif op==[]then bif k==0&&(i==0&&(t==[]&&Q3))then bif s==[]then(↑l.length:Int)==0 else Q4 else Q4 else Q4)=Q3↔_;simp only[ze.mk.injEq,cm];constructor
 ·intro h;obtain⟨h1,h⟩:=cg h;obtain⟨h2,h⟩:=cg h;obtain⟨h3,h⟩:=cg h;simp at h1 h2 h3 h;exact⟨h1,h2,h3,h⟩
 ·rintro⟨rfl,⟨rfl,rfl,rfl⟩,rfl,rfl⟩;rfl
theorem Qj{e:ze}(h:cW e=Q3):(e.op==[])=Q4:=by
 have f:=fq (kj h);clear h;cases f with
 |lit v hv=>rfl
 |col s hs hr=>rfl
 |one op a ho ha=>rcases ho with rfl|rfl<;>rfl
 |two op a b ho ha hb=>rcases ho with rfl|rfl|rfl|rfl|rfl|rfl<;>rfl
theorem Qk{e:ze}(h:cW e=Q3):nE 12 e<=60:=by
 rw[vg]at h;by_cases k:nE 12 e<=60
 ·exact k
 ·exfalso;rw[ah k]at h;cases bY 12 e<;>simp at h
theorem I4{e:ze}(hw:rD e)(h:cW e=Q3):qj e=Q3/\o9 e=aO 16 e/\(aO 16 e).length<=24000:=by
 obtain⟨h1,h2⟩:=qk 16 12 16 e ow ow ow (kj h) hw;have h1:Gd e=Q1 (aO 16 e,()):=h1;have h3:=Qk h;refine⟨by unfold qj;rw[h1];rfl,by unfold o9;rw[h1];rfl,ow⟩
def oz(w:zA)(e:ze):zA:=if(e.op==[])=Q3 then[]else if cW e=Q3 then(if(w==[87,72,69,82,69])=Q3 then[32,87,72,69,82,69,32]++aO 16 e else w++[32,67,72,69,67,75,32,40,32]++aO 16 e++[32,41])else[]
theorem OQ{e:ze}(hw:rD e)(hc:qM 16 e=Q3){w:zA}(hl:w.length<=1000):yC e w=Q1 (oz w e,bM e,())/\(oz w e).length<=30000:=by
 unfold oz;by_cases h0:(e.op==[])=Q3
 ·rw[if_pos h0];obtain⟨s1,s2⟩:=qi (b:=.mk [] (0,0,[]) [] []) hc;have hm:cW e=Q4:=by
   cases h:cW e
   ·rfl
   ·rw[Qj h]at h0;cases h0
  have he:eT e (.mk [] (0,0,[]) [] [])=bM e:=by
   unfold bM;rw[hm];apply iA.2;rw[s2,<-jT];cases gK e<;>simp
  refine⟨zM (r:=(.tup [.str [],.bool (bM e)],[])) ?_ rfl,sw⟩;simp only[Im,Q8,zl,h0,s1,he,if_true]
 ·rw[if_neg h0];have hn:gK e=Q4:=by
   cases h:gK e
   ·rfl
   ·rw[jT.1 h]at h0;exact absurd rfl h0
  have hmb:bM e=cW e:=by unfold bM;rw[hn];rfl
  have h0:(e.op==[])=Q4:=by simpa using h0
  rw[hmb];by_cases hm:cW e=Q3
  ·obtain⟨t1,t2,t3⟩:=I4 hw hm;rw[if_pos hm,hm];by_cases hwh:(w==[87,72,69,82,69])=Q3
   ·rw[if_pos hwh];refine⟨zM (r:=(.tup [.str ([32,87,72,69,82,69,32]++aO 16 e),.kb Q3],[])) ?_ rfl,sg⟩;simp only[Im,Q8,zl,h0,mh hw,qh hw,hm,hwh,t1,t2,if_true];rw[if_neg sw,if_neg sw,if_pos (zt sg)]
   ·rw[if_neg hwh];have hwh:(w==[87,72,69,82,69])=Q4:=by simpa using hwh
    refine⟨zM (r:=(.tup [.str (w++[32,67,72,69,67,75,32,40,32]++aO 16 e++[32,41]),.kb Q3],[])) ?_ rfl,sg⟩;simp only[Im,Q8,zl,h0,mh hw,qh hw,hm,hwh,t1,t2,if_true];rw[if_neg sw,if_neg sw,if_neg sw,if_pos (zt sg),if_pos (zt sg),if_pos (zt sg)]
  ·rw[if_neg hm];have hm:cW e=Q4:=by simpa using hm
   rw[hm];refine⟨zM (r:=(.tup [.str [],.kb Q4],[])) ?_ rfl,sw⟩;simp only[Im,Q8,zl,h0,mh hw,qh hw,hm,if_true];rfl
theorem bf{e:ze}(hw:rD e)(hc:qM 16 e=Q3){w:zA}(hl:w.length<=1000):ui e w=Q3/\B1 e w=(oz w e,bM e)/\(oz w e).length<=30000:=by
 obtain⟨h1,h2⟩:=OQ hw hc hl;exact⟨by unfold ui;rw[h1];rfl,by unfold B1;rw[h1];rfl,h2⟩
theorem Ao{e:ze}(h:bM e=Q3):kf [32] e=oz [] e:=by
 unfold kf oz;unfold bM at h;cases hn:gK e
 ·rw[hn]at h;have hm:cW e=Q3:=h;rw[if_neg sw,if_neg (by rw[Qj hm];simp),if_pos hm];unfold iu mQ;rw[hm];rfl
 ·rw[if_pos rfl];rw[jT.1 hn];rfl
theorem Eo(sep x:zA):∀l:List zA,Lib.join (l++[x]) sep=if l=[]then x else Lib.join l sep++sep++x
 |[]=>by rw[if_pos rfl];exact Lib.join_one x sep
 |[a]=>by simp[Lib.join,List.intercalate,List.intersperse]
 | a::b::r=>by
  have ih:=Eo sep x (b::r);rw[if_neg sw]at ih⊢;have e1:∀(c:zA)(q:List zA),Lib.join (a::c::q) sep=a++sep++Lib.join (c::q) sep:=λc q=>by simp[Lib.join,List.intercalate,List.intersperse]
  show Lib.join (a::b::(r++[x])) sep=_;rw[e1,e1];rw[show b::(r++[x])=(b::r)++[x]from rfl,ih];simp
theorem Lf{l:List zA}(hl:l.length<=100)(hs:∀x∈l,length x<=1000):∃t,uj l=Q1 (t,(Q0 (∀x∈l,zK x=Q3)&&(Q0 (1<=l.length)&&Q0 (l.length<=8))),())/\t.length<=200000/\((∀x∈l,zK x=Q3)->t=Lib.join l [32,44,32]):=by
 have hjl:∀i,i<=l.length->(Lib.join (l.take i) [32,44,32]).length<=110000:=by
  intro i hi;have:=tD [32,44,32] 1000 (l.take i) (λx hx=>hs x (List.mem_of_mem_take hx));have h2:(l.take i).length<=100:=by simp;omega
  have h3:=gI (1000+([32,44,32]:zA).length) h2;simp at this h3⊢;omega
 have hstep:∀i(hi:i<l.length),(Cr (.h3 l (Lib.join (l.take i) [32,44,32]) (i:Int))).val=if zK l[i]=Q3 then Q1 (.inl (.h3 l (Lib.join (l.take (i+1)) [32,44,32]) ((i+1:Nat):Int)))else Q1 (.inr (.tup [.str [],.kb Q4],[])):=by
  intro i hi;have hx:=hs _ (bC hi);have hj:=hjl i ow;show(Cr (.h3 _ _ _)).val=_;simp only[Cr,Q8,ac _ _ hi,zH hi,zu hi,bp (s:=l[i]) ow,eM (s:=l[i]) ow,if_true];rw[zq i um,YS hi,Eo];by_cases hn:zK l[i]=Q3
  ·rw[if_neg (by rw[hn];simp),if_pos hn];by_cases h0:i=0
   ·subst h0;rw[if_neg sw,if_pos (zt (by simp[Lib.join_nil];omega)),if_pos sw];rfl
   ·rw[if_pos (zt ow),if_pos (zt sg),if_pos (zt sg),if_neg (by
     intro h;have:=congrArg length h;simp at this;rcases this with h|h
     ·exact h0 h
     ·rw[h]at hi;simp at hi)]
  ·rw[if_pos (by simpa using hn),if_neg hn]
 rcases lN (t:=Cr) (Φ:=λr=>r=(.tup [.str [],.kb Q4],[])) 1 (λi=>.h3 l (Lib.join (l.take i) [32,44,32]) (i:Int)) (λi=>∀h:i<l.length,zK l[i]=Q3) l.length (λi hi _=>by
  by_cases hn:zK l[i]=Q3
  ·exact .inl ⟨λ_=>hn,zR.of (by rw[hstep i hi,if_pos hn])⟩
  ·exact .inr ⟨λh=>hn (h hi),_,zV.of (by rw[hstep i hi,if_neg hn]),rfl⟩)with⟨h1,h2⟩|⟨h1,r,h2,rfl⟩
 ·have hall:∀x∈l,zK x=Q3:=by
   intro x hx;obtain⟨j,hj,rfl⟩:=gY hx;exact h1 j hj hj
  rw[jE]at h2;have hj:=hjl l.length (aB _);rw[jE]at hj;refine⟨Lib.join l [32,44,32],zx (s:=.h3 l [] 0) rfl (h2.ends (zV.of (r:=(.tup [.str (Lib.join l [32,44,32]),.bool (bif Q0 (1<=(↑l.length:Int))then Q0 ((↑l.length:Int)<=8)else Q4)],[])) ?_)) ow ?_,ow,λ_=>rfl⟩
  ·show(Cr (.h3 _ _ _)).val=_;simp only[Cr,Q8,zz];cases Q0 (1<=(↑l.length:Int))<;>rfl
  ·rw[zt hall];have e1:Q0 (1<=(↑l.length:Int))=Q0 (1<=l.length):=by
    by_cases h:1<=l.length
    ·rw[zt h];exact zt ow
    ·rw[ah h];exact ah ow
   have e2:Q0 ((↑l.length:Int)<=8)=Q0 (l.length<=8):=by
    by_cases h:l.length<=8
    ·rw[zt h];exact zt ow
    ·rw[ah h];exact ah ow
   rw[e1,e2];cases Q0 (1<=l.length)<;>cases Q0 (l.length<=8)<;>rfl
 ·have hne:¬∀x∈l,zK x=Q3:=λh=>h1 λi _ hi=>h _ (bC hi)
  refine⟨[],zx (s:=.h3 l [] 0) rfl h2 ow ?_,sw,λh=>absurd h hne⟩;rw[ah hne];rfl
structure nY (s:Sem zk):Prop where
 sh:lC s
 chk:rD s.t.t.1
 whr:rD s.t.t.q.2.1
 cchk:qM 16 s.t.t.1=Q3
 cwhr:qM 16 s.t.t.q.2.1=Q3
 row:∀v∈s.t.t.2.1,lD v
 sets:∀x∈s.t.t.q.1,rD (x:Sem gS).2/\qM 16 (x:Sem gS).2=Q3
def zaD(B:Nat)(r:aw):Prop:=∃(tx:zA)(b:Bool),aL r.2 [Q6,Q7] r.1=Q1 (tx,b,())/\tx.length<=B
theorem zjf{s:Sem zk}(h:nY s)(b4:Bool)(s5:zA)(hs:s5.length<=60000)(n:Nat)(hn:30<=n):∃r,cP fg n (.h20 b4 s5 0 (s,()))=Q1 r/\zaD 200000 r:=by
 have hl:=h.sh.refs.1;refine dc (t:=fg) (β:=Bool×zA) s.t.q.2.1.length (λb i=>.h20 b.1 b.2 (i:Int) (s,())) (λb i=>b.2.length<=60000+2100*i) _ 1 ?_ ?_ s.t.q.2.1.length 0 (b4,s5) n rfl (ba _) (by simpa using hs) ow
 ·rintro⟨b,x⟩ i hi hI;have hI:x.length<=60000+2100*i:=hI;obtain⟨r1,r2⟩:=h.sh.refs.2 _ (bC hi);have g:getD s.t.q.2.1 (i:Int).toNat (zi iD)=s.t.q.2.1[i]:=ac _ _ hi;generalize s.t.q.2.1[i]=f at g r1 r2;refine .inl ⟨(bif b then bif bl f.1 then bl f.2 else Q4 else Q4,x++([32,44,32,82,69,70,69,82,69,78,67,69,83,32,40,32]++f.1++[32,41,32]++f.2)),sg,?_⟩;show(fg (.h20 _ _ _ _)).val=_;simp only[fg,Q8,g,zH hi,zu hi,bp (s:=f.1) ow,bp (s:=f.2) ow,if_true];rw[zq i um,if_pos (by cases b<;>cases bl f.1<;>rfl),if_pos (zt sg),if_pos (zt sg),if_pos (zt sg),if_pos (zt sg)]
 ·rintro⟨b,x⟩ n hI hn;have hI:x.length<=60000+2100*s.t.q.2.1.length:=hI;obtain⟨n,rfl⟩:∃k,n=k+1:=⟨n-1,ow⟩;obtain⟨c1,c2,c3⟩:=bf h.chk h.cchk (w:=[32,44]) sw;have hv:(fg (.h20 b x (s.t.q.2.1.length:Int) (s,()))).val=Q1 (.inr (.tup [.str (x++oz [32,44] s.t.t.1++[32,41]),.bool (bif b then bM s.t.t.1 else Q4)],[])):=by
   show(fg (.h20 _ _ _ _)).val=_;simp only[fg,Q8,zl,zz,c1,c2,if_true]
   rw[if_neg sw,if_pos (by
    have:x.length+(oz [32,44] s.t.t.1).length<=200000:=by omega
    simp;omega)]
   cases b<;>rfl
  rw[cA,hv];exact⟨_,rfl,_,_,rfl,sg⟩
theorem zje{s:Sem zk}(h:nY s)(b4:Bool)(s5:zA)(hs:s5.length<=30000)(n:Nat)(hn:60<=n):∃r,cP fg n (.h15 b4 s5 0 (s,()))=Q1 r/\zaD 200000 r:=by
 have hl:=h.sh.uniques.1;refine dc (t:=fg) (β:=Bool×zA) s.t.q.1.length (λb i=>.h15 b.1 b.2 (i:Int) (s,())) (λb i=>b.2.length<=30000+1100*i) _ 31 ?_ ?_ s.t.q.1.length 0 (b4,s5) n rfl (ba _) (by simpa using hs) ow
 ·rintro⟨b,x⟩ i hi hI;have hI:x.length<=30000+1100*i:=hI;have r1:=h.sh.uniques.2 _ (bC hi);have g:getD s.t.q.1 (i:Int).toNat (zi Q6)=s.t.q.1[i]:=ac _ _ hi;generalize s.t.q.1[i]=f at g r1;refine .inl ⟨(bif b then bl f else Q4,x++([32,44,32,85,78,73,81,85,69,32,40,32]++f++[32,41])),sg,?_⟩;show(fg (.h15 _ _ _ _)).val=_;simp only[fg,Q8,g,zH hi,zu hi,bp (s:=f) ow,if_true];rw[zq i um,if_pos (by cases b<;>rfl),if_pos (zt sg),if_pos (zt sg),if_pos (zt sg)]
 ·rintro⟨b,x⟩ n hI hn;have hI:x.length<=30000+1100*s.t.q.1.length:=hI;obtain⟨n,rfl⟩:∃k,n=k+1:=⟨n-1,ow⟩;have hv:(fg (.h15 b x (s.t.q.1.length:Int) (s,()))).val=Q1 (.inl (.h20 b x 0 (s,()))):=by
   show(fg (.h15 _ _ _ _)).val=_;simp only[fg,Q8,zz];rfl
  rw[cA,hv];exact zjf h b x ow n ow
theorem cr4{s:Sem zk}(h:nY s)(b4:Bool)(s5:zA)(hs:s5.length<=2000)(n:Nat)(hn:100<=n):∃r,cP fg n (.h4 b4 s5 0 (s,()))=Q1 r/\zaD 200000 r:=by
 have hl:=h.sh.cols.1;have hk:=h.sh.key;refine dc (t:=fg) (β:=zA) s.t.1.length (λb i=>.h4 b4 b (i:Int) (s,())) (λb i=>b.length<=2000+1100*i) _ 61 ?_ ?_ s.t.1.length 0 s5 n rfl (ba _) (by simpa using hs) ow
 ·intro x i hi hI;have r1:=h.sh.cols.2 _ (bC hi);have g:getD s.t.1 (i:Int).toNat (zi zj)=s.t.1[i]:=ac _ _ hi;generalize s.t.1[i]=f at g r1
  have hv:((fg (.h4 b4 x (i:Int) (s,()))).val=if(bif !bl f.1 then Q3 else bif Q0 (LT.lt (α:=Int) f.2.1 1)then Q3 else Q0 (GT.gt (α:=Int) f.2.1 3))=Q3 then Q1 (.inr (.tup [.str [],.kb Q4],[]))else
    Q1 (.inl (.h4 b4 ((if f.2.2=Q3 then x++(f.1++[32]++[[],[73,78,84],[84,69,88,84],[66,79,79,76]].getD (toNat f.2.1) (zi Q6))++[32,78,79,84,32,78,85,76,76]else x++(f.1++[32]++[[],[73,78,84],[84,69,88,84],[66,79,79,76]].getD (toNat f.2.1) (zi Q6)))++[32,44,32]) ((i+1:Nat):Int) (s,()))))/\
    (¬(bif !bl f.1 then Q3 else bif Q0 (LT.lt (α:=Int) f.2.1 1)then Q3 else Q0 (GT.gt (α:=Int) f.2.1 3))=Q3->([[],[73,78,84],[84,69,88,84],[66,79,79,76]].getD (toNat f.2.1) (zi Q6)).length<=4):=by
   have hgt:¬(bif !bl f.1 then Q3 else bif Q0 (LT.lt (α:=Int) f.2.1 1)then Q3 else Q0 (GT.gt (α:=Int) f.2.1 3))=Q3->zP f.2.1 4=Q3/\([[],[73,78,84],[84,69,88,84],[66,79,79,76]].getD (toNat f.2.1) (zi Q6)).length<=4:=by
    intro hc;have h1:¬LT.lt (α:=Int) f.2.1 1:=by
     intro h1;rw[zt h1]at hc;cases h2:(!bl f.1)<;>rw[h2]at hc<;>exact hc rfl
    have h3:¬GT.gt (α:=Int) f.2.1 3:=by
     intro h1;rw[zt h1]at hc;cases h2:(!bl f.1)<;>rw[h2]at hc<;>cases h4:Q0 (LT.lt (α:=Int) f.2.1 1)<;>rw[h4]at hc<;>exact hc rfl
    have h4:@Eq Int f.2.1 1\/@Eq Int f.2.1 2\/@Eq Int f.2.1 3:=by omega
    rcases h4 with h4|h4|h4<;>rw[h4]<;>exact⟨rfl,by decide⟩
   refine⟨?_,λhc=>(hgt hc).2⟩;show(fg (.h4 _ _ _ _)).val=_;simp only[fg,Q8,g,zH hi,zu hi,bp (s:=f.1) ow,if_true];by_cases hc:(bif !bl f.1 then Q3 else bif Q0 (LT.lt (α:=Int) f.2.1 1)then Q3 else Q0 (GT.gt (α:=Int) f.2.1 3))=Q3
   ·rw[if_pos hc,if_pos hc]
   ·obtain⟨k1,k2⟩:=hgt hc;rw[if_neg hc,if_neg hc,if_pos (zt sg)];refine(if_pos k1).trans ?_;generalize[[],[73,78,84],[84,69,88,84],[66,79,79,76]].getD (toNat f.2.1) (zi Q6)=ty at k2;rw[if_pos (zt sg),if_pos (zt sg),zq i um];by_cases hn:f.2.2=Q3
    ·rw[if_pos hn,if_pos hn,if_pos (zt sg),if_pos (zt sg)]
    ·rw[if_neg hn,if_neg hn,if_pos (zt sg)]
  obtain⟨hv,hty⟩:=hv;by_cases hc:(bif !bl f.1 then Q3 else bif Q0 (LT.lt (α:=Int) f.2.1 1)then Q3 else Q0 (GT.gt (α:=Int) f.2.1 3))=Q3
  ·rw[if_pos hc]at hv;exact .inr ⟨_,hv,[],Q4,rfl,sw⟩
  ·rw[if_neg hc]at hv;have:=hty hc;generalize[[],[73,78,84],[84,69,88,84],[66,79,79,76]].getD (toNat f.2.1) (zi Q6)=ty at hv this;refine .inl ⟨_,?_,hv⟩;split<;>simp<;>omega
 ·intro x n hI hn;obtain⟨n,rfl⟩:∃k,n=k+1:=⟨n-1,ow⟩;have hv:(fg (.h4 b4 x (s.t.1.length:Int) (s,()))).val=Q1 (.inl (.h15 b4 (x++([75,69,89,32,40,32]++s.t.2.1++[32,41])) 0 (s,()))):=by
   show(fg (.h4 _ _ _ _)).val=_;simp only[fg,Q8,zz];rw[if_neg sw,if_pos (zt sg),if_pos (zt sg),if_pos (zt sg)]
  rw[cA,hv];exact zje h b4 _ sg n ow
theorem I8{s:Sem zk}(h:nY s):∃(tx:zA)(b:Bool),mi s=Q1 (tx,b,())/\tx.length<=200000:=by
 have ht:=h.sh.table;have hk:=h.sh.key;have hv:∃b4,(Rg s).val=Q1 (.inl (.h4 b4 ([67,82,69,65,84,69,32,84,65,66,76,69,32]++s.2.1++[32,40,32]) 0 (s,()))):=by
  refine⟨(bif bl s.t.2.1 then bif Q0 (1<=(↑(length s.t.1):Int))then bif Q0 ((↑(length s.t.1):Int)<=8)then bif Q0 ((↑(length s.t.q.1):Int)<=8)then Q0 ((↑(length s.t.q.2.1):Int)<=8)else Q4 else Q4 else Q4 else Q4),?_⟩;simp only[Rg,Q8,bp (s:=s.t.2.1) ow,if_true];rw[if_pos (zt sg),if_pos (zt sg)]
 obtain⟨b4,hv⟩:=hv;obtain⟨r,h1,tx,b,h2,h3⟩:=cr4 h b4 ([67,82,69,65,84,69,32,84,65,66,76,69,32]++s.2.1++[32,40,32]) sg 100000000 ow;refine⟨tx,b,?_,h3⟩;unfold mi al cT;rw[hv];show(cP fg 100000000 _).bind _=_;rw[h1];exact h2
theorem K9{s:Sem zk}(h:nY s):qm s=Q3/\(pb s).1.length<=200000:=by
 obtain⟨tx,b,h1,h2⟩:=I8 h;exact⟨by unfold qm;rw[h1];rfl,by unfold pb;rw[h1];exact h2⟩
def NH(o:Option (zy (List.map Q1 [Q6,zk,Q7]))):Prop:=∃(t:zA)(own:Sem zk)(ok:Bool),o=Q1 (t,own,ok,())/\t.length<=900000/\yU own
theorem ziQ{s:Sem zk}{r:aw}{t:zA}{own:Sem zk}{ok:Bool}(hv:(gF s).val=Q1 (.inr r))(hr:aL r.2 [Q6,zk,Q7] r.1=Q1 (t,own,ok,()))(hl:t.length<=900000)(hc:yU own):NH (du s):=
 ⟨t,own,ok,zM hv hr,hl,hc⟩
abbrev dg:ze:=.mk [] (0,0,[]) [] []
theorem Se:qM 16 dg=Q3:=by decide+kernel
theorem eb{a:Sem zk}{s:Sem zk}(h:nY s)(h4:a.2.2.2.1=s.2.2.2.1\/a.2.2.2.1=[])(h5:a.t.1=s.t.1\/a.t.1=[])(h7:a.t.q.1=s.t.q.1\/a.t.q.1=[])
  (h8:a.t.q.2.1=s.t.q.2.1\/a.t.q.2.1=[]) (h9:a.t.t.1=s.t.t.1\/a.t.t.1=dg) (h10:a.t.t.2.1=s.t.t.2.1\/a.t.t.2.1=[])
  (h11:a.t.t.q.1=s.t.t.q.1\/a.t.t.q.1=[]) (h12:a.t.t.q.2.1=s.t.t.q.2.1\/a.t.t.q.2.1=dg):yU a where
 names:=by have:=h.sh.names.1;rcases h4 with h|h<;>rw[h]<;>first|omega|simp
 cols:=by have:=h.sh.cols.1;rcases h5 with h|h<;>rw[h]<;>first|omega|simp
 uniques:=by have:=h.sh.uniques.1;rcases h7 with h|h<;>rw[h]<;>first|omega|simp
 refs:=by have:=h.sh.refs.1;rcases h8 with h|h<;>rw[h]<;>first|omega|simp
 row:=by have:=h.sh.row;rcases h10 with h|h<;>rw[h]<;>first|omega|simp
 sets:=by have:=h.sh.sets.1;rcases h11 with h|h<;>rw[h]<;>first|omega|simp
 chk:=by rcases h9 with k|k<;>rw[k];exact h.cchk;exact Se
 whr:=by rcases h12 with k|k<;>rw[k];exact h.cwhr;exact Se
 ex:=by
  rcases h11 with k|k<;>rw[k]
  ·exact λx hx=>(h.sets x hx).2
  ·intro x hx;cases hx
def rB(r:aw):Prop:=∃(t:zA)(own:Sem zk)(ok:Bool),aL r.2 [Q6,zk,Q7] r.1=Q1 (t,own,ok,())/\t.length<=900000/\yU own
theorem tA{r:aw}(t:zA)(own:Sem zk)(ok:Bool)(h1:aL r.2 [Q6,zk,Q7] r.1=Q1 (t,own,ok,()))(h2:t.length<=900000)(h3:yU own):rB r:=⟨t,own,ok,h1,h2,h3⟩
theorem zlq{s:Sem zk}(h:nY s):∃r,cP lK 100000000 (.h15 [] 0 (s,()) ([],[],[],[],[],0,0,[],[],[],0,0,[],[],[],()) (s.1,s.2.1,[],[],[],0,0,[],[],s.t.t.2.1,[],0,0,[],[],[],()))=Q1 r/\rB r:=by
 have hl:=h.sh.row;have ht:=h.sh.table;have hcmp:yU (s.1,s.2.1,[],[],[],[],[],[],dg,s.t.t.2.1,[],dg,[]):=eb h (.inr rfl) (.inr rfl) (.inr rfl) (.inr rfl) (.inr rfl) (.inl rfl) (.inr rfl) (.inr rfl);refine dc (t:=lK) (β:=zA) s.t.t.2.1.length (λb i=>.h15 b (i:Int) (s,()) ([],[],[],[],[],0,0,[],[],[],0,0,[],[],[],()) (s.1,s.2.1,[],[],[],0,0,[],[],s.t.t.2.1,[],0,0,[],[],[],())) (λb i=>b.length<=400*i) _ 1 ?_ ?_ s.t.t.2.1.length 0 [] 100000000 rfl (ba _) sw ow
 ·intro x i hi hI;have hv:=h.row _ (bC hi);have hx:=wE s.t.t.2.1[i];have g:getD s.t.t.2.1 (i:Int).toNat (zi zf)=s.t.t.2.1[i]:=ac _ _ hi;generalize s.t.t.2.1[i]=v at g hv hx
  have e:(lK (.h15 x (i:Int) (s,()) ([],[],[],[],[],0,0,[],[],[],0,0,[],[],[],()) (s.1,s.2.1,[],[],[],0,0,[],[],s.t.t.2.1,[],0,0,[],[],[],()))).val=if bd v=Q3 then Q1 (.inl (.h15 ((if(i:Int)>0 then x++[32,44,32]else x)++gU v) ((i+1:Nat):Int) (s,()) ([],[],[],[],[],0,0,[],[],[],0,0,[],[],[],()) (s.1,s.2.1,[],[],[],0,0,[],[],s.t.t.2.1,[],0,0,[],[],[],())))else
    Q1 (.inr (.tup [.str [],.agg [.str s.1,.str s.2.1,.str [],.nils,.nils,.str [],.nils,.nils,.str [],.int .i64 0,.int .i64 0,.str [],.str [],.nils,.sl zf s.t.t.2.1,.nils,.str [],.int .i64 0,.int .i64 0,.str [],.str [],.nils,.str []],.kb Q4],[])):=by
   show(lK (.h15 _ _ _ _ _)).val=_;simp only[lK,Q8,g,zH hi,zu hi,kD hv.2.2,m7 hv.2.2,EG hv,I2 hv,if_true];rw[zq i um];by_cases m:bd v=Q3
   ·rw[if_neg (by rw[m];simp),if_pos m];by_cases h0:(i:Int)>0
    ·rw[if_pos (zt h0),if_pos h0,if_pos (zt sg),if_pos (zt sg)]
    ·rw[if_neg (by simpa using h0),if_neg h0,if_pos (zt ow)]
   ·rw[if_pos (by simpa using m),if_neg m]
  by_cases m:bd v=Q3
  ·rw[if_pos m]at e;refine .inl ⟨_,?_,e⟩;split<;>simp<;>omega
  ·rw[if_neg m]at e;exact .inr ⟨_,e,tA [] _ Q4 rfl sw hcmp⟩
 ·intro x n hI hn;obtain⟨n,rfl⟩:∃k,n=k+1:=⟨n-1,ow⟩
  have e:∃b,(lK (.h15 x (s.t.t.2.1.length:Int) (s,()) ([],[],[],[],[],0,0,[],[],[],0,0,[],[],[],()) (s.1,s.2.1,[],[],[],0,0,[],[],s.t.t.2.1,[],0,0,[],[],[],()))).val=
    Q1 (.inr (.tup [.str ([73,78,83,69,82,84,32,73,78,84,79,32]++s.2.1++[32,86,65,76,85,69,83,32,40,32]++x++[32,41]),.agg [.str s.1,.str s.2.1,.str [],.nils,.nils,.str [],.nils,.nils,.str [],.int .i64 0,.int .i64 0,.str [],.str [],.nils,.sl zf s.t.t.2.1,.nils,.str [],.int .i64 0,.int .i64 0,.str [],.str [],.nils,.str []],b],[]))/\(b=.kb Q4\/∃c,b=.bool c):=by
   show∃b,(lK (.h15 _ _ _ _ _)).val=_/\_;simp only[lK,Q8,zz];rw[if_neg sw,if_pos (zt sg),if_pos (zt sg),if_pos (zt sg),if_pos (zt sg)];split
   ·exact⟨_,rfl,.inr ⟨_,rfl⟩⟩
   ·exact⟨_,rfl,.inl rfl⟩
  obtain⟨b,e,hb⟩:=e;rw[cA,e];rcases hb with rfl|⟨c,rfl⟩
  ·exact⟨_,rfl,tA _ _ Q4 rfl sg hcmp⟩
  ·exact⟨_,rfl,tA _ _ c rfl sg hcmp⟩
theorem zlr{s:Sem zk}(h:nY s)(s8:zA)(b9:Bool)(h8:s8.length<=30000):∃r,cP lK 100000000 (.h27 s8 b9 [] 0 (s,()) ([],[],[],[],[],0,0,[],[],[],0,0,[],[],[],()) (s.1,s.2.1,[],[],[],0,0,[],[],s.t.t.q.1,s.t.t.q.2.1,[],()))=Q1 r/\rB r:=by
 have hl:=h.sh.sets.1;have ht:=h.sh.table;have hcmp:yU (s.1,s.2.1,[],[],[],[],[],[],dg,[],s.t.t.q.1,s.t.t.q.2.1,[]):=eb h (.inr rfl) (.inr rfl) (.inr rfl) (.inr rfl) (.inr rfl) (.inr rfl) (.inl rfl) (.inl rfl);generalize hZ:(([],[],[],[],[],0,0,[],[],[],0,0,[],[],[],()):zn iH)=Z;generalize hU:((s.1,s.2.1,[],[],[],0,0,[],[],s.t.t.q.1,s.t.t.q.2.1,[],()):zn zaU)=V
 have own:∀(t:zA)(ok:Bool)(b:AV),(b=.bool ok\/(b=.kb Q4/\ok=Q4))->aL [] [Q6,zk,Q7] (.tup [.str t,.agg [.str V.1,.str V.2.1,.str V.2.2.1,.nils,.nils,.str V.2.2.2.1,.nils,.nils,.str V.t.1,.int .i64 V.t.2.1,.int .i64 V.t.q.1,.str V.t.q.2.1,.str V.t.t.1,.nils,.nils,
   .sl (Sh.str.pr Q5) V.t.t.2.1,.str (ze.op V.t.t.q.1),.int .i64 (ze.v V.t.t.q.1).1,.int .i64 (ze.v V.t.t.q.1).2.1,.str (ze.v V.t.t.q.1).2.2,.str (ze.s V.t.t.q.1),.sl Q5 (ze.l V.t.t.q.1),.str V.t.t.q.2.1],b])=
   Q1 (t,(s.1,s.2.1,[],[],[],[],[],[],dg,[],s.t.t.q.1,s.t.t.q.2.1,[]),ok,()):=by
  intro t ok b hb;subst hU;obtain⟨s1,s2,s3,s4,s5,s6,s7,s8,s9,s10,us,⟨d1,d2,d3,d4⟩,s13⟩:=s;rcases hb with rfl|⟨rfl,rfl⟩<;>rfl
 refine dc (t:=lK) (β:=zA) s.t.t.q.1.length (λb i=>.h27 s8 b9 b (i:Int) (s,()) Z V) (λb i=>b.length<=26000*i) _ 1 ?_ ?_ s.t.t.q.1.length 0 [] 100000000 rfl (ba _) sw ow
 ·intro x i hi hI;obtain⟨hw,hcp⟩:=h.sets _ (bC hi);have hnm:=h.sh.sets.2 _ (bC hi);have g:getD s.t.t.q.1 (i:Int).toNat (zi gS)=s.t.t.q.1[i]:=ac _ _ hi;generalize s.t.t.q.1[i]=v at g hw hcp hnm;have e:(¬(bl v.1=Q3/\cW v.2=Q3)/\∃r,(lK (.h27 s8 b9 x (i:Int) (s,()) Z V)).val=Q1 (.inr r)/\rB r)\/∃x':zA,x'.length<=x.length+26000/\(lK (.h27 s8 b9 x (i:Int) (s,()) Z V)).val=Q1 (.inl (.h27 s8 b9 x' ((i+1:Nat):Int) (s,()) Z V)):=by
   show(_/\∃r,(lK (.h27 _ _ _ _ _ _ _)).val=_/\_)\/∃x':zA,_/\(lK (.h27 _ _ _ _ _ _ _)).val=_;simp only[lK,Q8,g,zl,zH hi,zu hi,bp (s:=v.1) ow,mh hw,qh hw,if_true,dF];have hg:(bif !bl v.1 then Q3 else Q3)=Q3:=by cases bl v.1<;>rfl
   rw[hg];by_cases m:bl v.1=Q3/\cW v.2=Q3
   ·obtain⟨m1,m2⟩:=m;obtain⟨t1,t2,t3⟩:=I4 hw m2;refine .inr ⟨(if(i:Int)>0 then x++[32,44,32]else x)++(v.1++[32,61,32]++aO 16 v.2),by split<;>simp<;>omega,?_⟩;simp only[m1,m2,t1,t2,if_true,cu,ay,zG,if_false];rw[zq i um];by_cases h0:(i:Int)>0
    ·rw[if_pos (zt h0),if_pos h0,if_pos (zt sg),if_pos (zt sg),if_pos (zt sg),if_pos (zt sg)]
    ·rw[if_neg (by simpa using h0),if_neg h0,if_pos (zt sg),if_pos (zt sg),if_pos (zt sg)]
   ·refine .inl ⟨m,?_⟩;have hc:(bif !bl v.1 then Q3 else !cW v.2)=Q3:=by
     cases h1:bl v.1
     ·rfl
     ·cases h2:cW v.2
      ·rfl
      ·exact absurd ⟨h1,h2⟩ m
    rw[if_pos rfl,if_pos hc];exact⟨_,rfl,tA [] _ Q4 (own [] Q4 _ (.inr ⟨rfl,rfl⟩)) sw hcmp⟩
  rcases e with⟨_,r,e1,e2⟩|⟨x',e1,e2⟩
  ·exact .inr ⟨r,e1,e2⟩
  ·exact .inl ⟨x',ow,e2⟩
 ·intro x n hI hn;obtain⟨n,rfl⟩:∃k,n=k+1:=⟨n-1,ow⟩
  have e:∃b ok,(lK (.h27 s8 b9 x (s.t.t.q.1.length:Int) (s,()) Z V)).val=
    Q1 (.inr (.tup [.str ([85,80,68,65,84,69,32]++s.2.1++[32,83,69,84,32]++x++s8),.agg [.str V.1,.str V.2.1,.str V.2.2.1,.nils,.nils,.str V.2.2.2.1,.nils,.nils,.str V.t.1,.int .i64 V.t.2.1,.int .i64 V.t.q.1,.str V.t.q.2.1,.str V.t.t.1,.nils,.nils,
   .sl (Sh.str.pr Q5) V.t.t.2.1,.str (ze.op V.t.t.q.1),.int .i64 (ze.v V.t.t.q.1).1,.int .i64 (ze.v V.t.t.q.1).2.1,.str (ze.v V.t.t.q.1).2.2,.str (ze.s V.t.t.q.1),.sl Q5 (ze.l V.t.t.q.1),.str V.t.t.q.2.1],b],[]))/\(b=.bool ok\/(b=.kb Q4/\ok=Q4)):=by
   show∃b ok,(lK (.h27 _ _ _ _ _ _ _)).val=_/\_;simp only[lK,Q8,zz];rw[if_neg sw,if_pos (zt sg),if_pos (zt sg),if_pos (zt sg),if_pos (zt sg)];split
   ·split
    ·exact⟨_,_,rfl,.inl rfl⟩
    ·exact⟨_,Q4,rfl,.inr ⟨rfl,rfl⟩⟩
   ·exact⟨_,Q4,rfl,.inr ⟨rfl,rfl⟩⟩
  obtain⟨b,ok,e,hb⟩:=e;rw[cA,e];exact⟨_,rfl,tA _ _ ok (own _ ok b hb) sg hcmp⟩
end Cad
