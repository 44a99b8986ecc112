/- The document's types and values of expressions are the program's. The document's values of expressions are the program's. -/
import Derived.Test.YtjfdpfapcmcncaaGreatDoorL18
import Derived.Test.YtjfdpfapcmcncaaGreatDoorL16
import Derived.Test.YtjfdpfapcmcncaaGreatDoorL13
import Derived.Test.YtjfdpfapcmcncaaGreatDoorL17
import Derived.Test.YtjfdpfapcmcncaaGreatDoorL12
namespace Cad
open Go Go.Proofs
open Tr renaming val→Q8
open Bool renaming false→Q4,true→Q3
open Option renaming none→Q2,some→Q1
open Decidable renaming decide→Q0
open Int (toNat)
open List (getD length)
open Tr (chk br re)
open AV (nils agg tup ptr kb str sl)
set_option maxHeartbeats 4000000
theorem mR{α:Type}{p:α->Bool}{d:α}:∀(l:List α)(k i:Nat),i<l.length->p (l.getD i d)=Q3->(∀j,j<i->p (l.getD j d)=Q4)->zR p l k=((k+i:Nat):Int)
 |[],_,_,h,_,_=>by simp at h
 | x::r,k,0,_,hp,_=>by
  rw[zR,if_pos (by simpa using hp)];rfl
 | x::r,k,i+1,h,hp,hj=>by
  have h0:=hj 0 ow;rw[zR,if_neg (by rw[show p x=Q4 by simpa using h0];simp),mR r (k+1) i (by simpa using h) (by simpa using hp) (λj hj2=>by simpa using hj (j+1) ow)];congr 1;omega
theorem mS{α:Type}{p:α->Bool}{d:α}:∀(l:List α)(k:Nat),(∀j,j<l.length->p (l.getD j d)=Q4)->zR p l k=-1
 |[],_,_=>rfl
 | x::r,k,hj=>by
  have h0:=hj 0 sw;rw[zR,if_neg (by rw[show p x=Q4 by simpa using h0];simp)];exact mS (d:=d) r (k+1) (λj h=>by simpa using hj (j+1) (by simpa using h))
theorem Du{cols:List (Sem zi)}{s:zB}(hl:cols.length<=1000000):Dt cols s=Q1 (ag cols s,()):=by
 have hf:=my (t:=NV) (Φ:=λr=>r=(.int .i64 (ag cols s),[])) 1 (λi=>.h2 cols s (i:Int)) (λi=>((getD cols i (zj zi)).1==s)=Q4) cols.length (by
  intro i hi hj;have hv:(NV (.h2 cols s (i:Int))).val=if((getD cols i (zj zi)).1==s)=Q3 then Q1 (.inr (.int .i64 i,[]))else Q1 (.inl (.h2 cols s ((i+1:Nat):Int))):=by
   simp only[NV,NW,I1,Q8,zJ hi,zw hi,aK,if_true];rw[zr i um]
  rcases zG ((getD cols i (zj zi)).1==s)with h|h
  ·refine .inr ⟨by rw[h];simp,_,zX.of (by rw[hv,if_pos h]),?_⟩;have:=mR (p:=λc:Sem zi=>c.1==s) (d:=zj zi) cols 0 i hi h hj;rw[show ag cols s=(i:Int) by unfold ag;rw[this];simp]
  ·exact .inl ⟨h,zT.of (by rw[hv,if_neg (by rw[h];simp)])⟩)
 have hi:(Zn cols s).val=Q1 (.inl (.h2 cols s ((0:Nat):Int))):=rfl;rcases hf with⟨h1,h2⟩|⟨h1,r,h2,rfl⟩
 ·have:=mS (p:=λc:Sem zi=>c.1==s) (d:=zj zi) cols 0 h1;rw[show ag cols s=(-1:Int)from this];refine zy hi (h2.ends (zX.of (r:=(.int .i64 (-1),[])) ?_)) ow rfl;simp only[NV,NW,I1,Q8,zC];rfl
 ·exact zy hi h2 ow rfl
theorem jp{cols:List (Sem zi)}{s:zB}(hl:cols.length<=1000000):dH cols s=Q3:=by unfold dH;rw[Du hl];rfl
theorem kG{cols:List (Sem zi)}{s:zB}(hl:cols.length<=1000000):eS cols s=ag cols s:=by unfold eS;rw[Du hl];rfl
theorem SL(t u:Int):mn [t] u=!(bif t !=u then t !=0 else Q4):=by
 unfold mn;simp only[zR];rcases zG (bif t !=u then t !=0 else Q4)with h|h<;>simp[h]
theorem un(t t' u:Int):mn [t,t'] u=!(bif (bif t !=u then t !=0 else Q4)then Q3 else(bif t' !=u then t' !=0 else Q4)):=by
 unfold mn;simp only[zR];rcases zG (bif t !=u then t !=0 else Q4)with h|h<;>rcases zG (bif t' !=u then t' !=0 else Q4)with h'|h'<;>simp[h,h']
theorem Nw{g c}{cols:List (Sem zi)}{e:ze}(hl:cols.length<=1000000):∃r k,zX (LR g c) k (.h5 cols ((0:Nat):Int) (e,())) r/\k<=100000000/\aM r.2 [zg,zg] r.1=Q1 (if Q0 (LT.lt (α:=Int) (ag cols (ze.s e)) 0)=Q3 then((0:Int),(4:Int),())else((getD cols (toNat (ag cols (ze.s e))) (zj zi)).2.1,(0:Int),())):=by
 have hf:=my (t:=LR g c) (Φ:=λr=>aM r.2 [zg,zg] r.1=Q1 (if Q0 (LT.lt (α:=Int) (ag cols (ze.s e)) 0)=Q3 then((0:Int),(4:Int),())else((getD cols (toNat (ag cols (ze.s e))) (zj zi)).2.1,(0:Int),()))) 1 (λi=>.h5 cols (i:Int) (e,())) (λi=>((getD cols i (zj zi)).1==ze.s e)=Q4) cols.length (by
  intro i hi hj;have hv:(LR g c (.h5 cols (i:Int) (e,()))).val=if((getD cols i (zj zi)).1==ze.s e)=Q3 then Q1 (.inr (.tup [.int .i64 (getD cols i (zj zi)).2.1,.int .i64 0],[]))else Q1 (.inl (.h5 cols ((i+1:Nat):Int) (e,()))):=by
   simp only[LR,Q8,zJ hi,zw hi,aK,if_true];rw[zr i um]
  rcases zG ((getD cols i (zj zi)).1==ze.s e)with h|h
  ·refine .inr ⟨by rw[h];simp,_,zX.of (by rw[hv,if_pos h]),?_⟩;have:=mR (p:=λc:Sem zi=>c.1==ze.s e) (d:=zj zi) cols 0 i hi h hj;rw[show ag cols (ze.s e)=(i:Int) by unfold ag;rw[this];simp,if_neg (by rw[aO];omega),aK];rfl
  ·exact .inl ⟨h,zT.of (by rw[hv,if_neg (by rw[h];simp)])⟩)
 rcases hf with⟨h1,h2⟩|⟨h1,r,h2,h3⟩
 ·have:=mS (p:=λc:Sem zi=>c.1==ze.s e) (d:=zj zi) cols 0 h1;refine⟨(.tup [.int .i64 0,.int .i64 4],[]),_,h2.ends (zX.of ?_),ow,?_⟩
  ·simp only[LR,Q8,zC];rfl
  ·rw[show ag cols (ze.s e)=(-1:Int)from this];rfl
 ·exact⟨r,_,h2,ow,h3⟩
theorem rF{cols:List (Sem zi)}(hl:cols.length<=1000000):∀(N d M:Nat)(e:ze),d<=N->d<=M->bq d e=Q3->bY N e cols=Q1 ((zM M e cols).1,(zM M e cols).2,())
 |_,0,_,_,_,_,h=>by cases h
 |0,d+1,_,_,h,_,_=>absurd h ow
 |_,d+1,0,_,_,h,_=>absurd h ow
 | N+1,d+1,M+1,e,h1,h2,h=>by
  rw[bY,zM];unfold Pq yf;cases fN h with
  |lit v hv=>rfl
  | col s hw hr=>
   obtain⟨r,k,k1,k2,k3⟩:=Nw (g:=λx0 x1=>fW (bY N x0 x1)) (c:=λx0 x1=>(bY N x0 x1).isSome) (cols:=cols) (e:=.mk ee (0,0,[]) s []) hl;refine zy Jj k1 k2 (k3.trans ?_);have e1:aH (zM M) (bc M) cols ee (0:Int) (0:Int) [] s [] [] 0 []=if Q0 (LT.lt (α:=Int) (ag cols s) 0)=Q3 then((0:Int),(4:Int))else((getD cols (toNat (ag cols s)) (zj zi)).2.1,(0:Int)):=rfl
   show _=Q1 ((aH (zM M) (bc M) cols ee (0:Int) (0:Int) [] s [] [] 0 []).1,(aH (zM M) (bc M) cols ee (0:Int) (0:Int) [] s [] [] 0 []).2,());rw[e1];show Q1 (if Q0 (LT.lt (α:=Int) (ag cols s) 0)=Q3 then((0:Int),(4:Int),())else((getD cols (toNat (ag cols s)) (zj zi)).2.1,(0:Int),()))=_;rcases zG (Q0 (LT.lt (α:=Int) (ag cols s) 0))with c|c
   ·rw[if_pos c,if_pos c]
   ·rw[if_neg (by rw[c];simp),if_neg (by rw[c];simp)]
  | one op a ho ha=>
   have ka:=rF hl N d M a ow ow ha;unfold ah de;generalize hg:(λx0 x1=>fW (bY N x0 x1))=g;generalize hc:(λx0 x1=>(bY N x0 x1).isSome)=c;have g1:g a cols=zM M a cols:=by rw[<-hg];show fW (bY N a cols)=_;rw[ka];rfl
   have c1:c a cols=Q3:=by rw[<-hc];show(bY N a cols).isSome=_;rw[ka];rfl
   rcases ho with rfl|rfl
   ·have e1:aH (zM M) (bc M) cols mI (0:Int) (0:Int) [] [] [a] [a] 0 []=if((zM M a cols).2!=0)=Q3 then((0:Int),(zM M a cols).2)else if(!mn [(zM M a cols).1] 3)=Q3 then((0:Int),(5:Int))else((3:Int),(0:Int)):=rfl
    show _=Q1 ((aH (zM M) (bc M) cols mI (0:Int) (0:Int) [] [] [a] [a] 0 []).1,(aH (zM M) (bc M) cols mI (0:Int) (0:Int) [] [] [a] [a] 0 []).2,());rw[e1,SL];have e2:(CK g c (.mk mI (0,0,[]) [] [a]) cols).val=if c (zm a) cols=Q3 then(if((g (zm a) cols).2!=0)=Q3 then Q1 (.inr (.tup [.int .i64 0,.int .i64 (g (zm a) cols).2],[]))else if(bif (g (zm a) cols).1!=0 then bif (g (zm a) cols).1!=3 then Q3 else(bif (g (zm a) cols).1!=0 then(g (zm a) cols).1!=3 else Q4)else(bif (g (zm a) cols).1!=0 then(g (zm a) cols).1!=3 else Q4))=Q3 then Q1 (.inr (.tup [.int .i64 0,.int .i64 5],[]))else Q1 (.inr (.tup [.int .i64 3,.int .i64 0],[])))else Q2:=rfl
    rw[e2,zk,c1,g1];generalize zM M a cols=t;rcases zG (t.2!=0)with k1|k1<;>rcases zG (t.1!=0)with k2|k2<;>rcases zG (t.1!=3)with k3|k3<;>(simp only[k1,k2,k3,zZ,aq,if_true,if_false,zF,bS,cX];rfl)
   ·have e1:aH (zM M) (bc M) cols oP (0:Int) (0:Int) [] [] [a] [a] 0 []=if((zM M a cols).2!=0)=Q3 then((0:Int),(zM M a cols).2)else((3:Int),(0:Int)):=rfl
    show _=Q1 ((aH (zM M) (bc M) cols oP (0:Int) (0:Int) [] [] [a] [a] 0 []).1,(aH (zM M) (bc M) cols oP (0:Int) (0:Int) [] [] [a] [a] 0 []).2,());rw[e1];have e2:(CK g c (.mk oP (0,0,[]) [] [a]) cols).val=if c (zm a) cols=Q3 then(if((g (zm a) cols).2!=0)=Q3 then Q1 (.inr (.tup [.int .i64 0,.int .i64 (g (zm a) cols).2],[]))else Q1 (.inr (.tup [.int .i64 3,.int .i64 0],[])))else Q2:=rfl
    rw[e2,zk,c1,g1];generalize zM M a cols=t;rcases zG (t.2!=0)with k1|k1<;>(simp only[k1,if_true,if_false,zF];rfl)
  | two op a b ho ha hb=>
   have ka:=rF hl N d M a ow ow ha;have kb:=rF hl N d M b ow ow hb;unfold ah de;generalize hg:(λx0 x1=>fW (bY N x0 x1))=g;generalize hc:(λx0 x1=>(bY N x0 x1).isSome)=c;have g1:g a cols=zM M a cols:=by rw[<-hg];show fW (bY N a cols)=_;rw[ka];rfl
   have c1:c a cols=Q3:=by rw[<-hc];show(bY N a cols).isSome=_;rw[ka];rfl
   have g2:g b cols=zM M b cols:=by rw[<-hg];show fW (bY N b cols)=_;rw[kb];rfl
   have c2:c b cols=Q3:=by rw[<-hc];show(bY N b cols).isSome=_;rw[kb];rfl
   rcases ho with rfl|rfl|rfl|rfl|rfl|rfl
   ·have e1:aH (zM M) (bc M) cols cY (0:Int) (0:Int) [] [] [a,b] [a,b] 0 []=if((zM M a cols).2!=0)=Q3 then((0:Int),(zM M a cols).2)else if((zM M b cols).2!=0)=Q3 then((0:Int),(zM M b cols).2)else if(!mn [(zM M a cols).1,(zM M b cols).1] 3)=Q3 then((0:Int),(5:Int))else((3:Int),(0:Int)):=rfl
    show _=Q1 ((aH (zM M) (bc M) cols cY (0:Int) (0:Int) [] [] [a,b] [a,b] 0 []).1,(aH (zM M) (bc M) cols cY (0:Int) (0:Int) [] [] [a,b] [a,b] 0 []).2,());rw[e1,un];have e2:(CK g c (.mk cY (0,0,[]) [] [a,b]) cols).val=if c (zm a) cols=Q3 then(if((g (zm a) cols).2!=0)=Q3 then Q1 (.inr (.tup [.int .i64 0,.int .i64 (g (zm a) cols).2],[]))else if c (zm b) cols=Q3 then(if((g (zm b) cols).2!=0)=Q3 then Q1 (.inr (.tup [.int .i64 0,.int .i64 (g (zm b) cols).2],[]))else if(bif (g (zm a) cols).1!=0 then bif (g (zm a) cols).1!=3 then Q3 else(bif (g (zm b) cols).1!=0 then(g (zm b) cols).1!=3 else Q4)else(bif (g (zm b) cols).1!=0 then(g (zm b) cols).1!=3 else Q4))=Q3 then Q1 (.inr (.tup [.int .i64 0,.int .i64 5],[]))else Q1 (.inr (.tup [.int .i64 3,.int .i64 0],[])))else Q2)else Q2:=rfl
    rw[e2,zk,zk,c1,c2,g1,g2];generalize zM M a cols=t;generalize zM M b cols=u;rcases zG (t.2!=0)with k1|k1<;>rcases zG (u.2!=0)with k2|k2<;>rcases zG (t.1!=0)with k3|k3<;>rcases zG (u.1!=0)with k4|k4<;>rcases zG (t.1!=3)with k5|k5<;>rcases zG (u.1!=3)with k6|k6<;>(simp only[k1,k2,k3,k4,k5,k6,zZ,aq,if_true,if_false,zF,bS,cX];rfl)
   ·have e1:aH (zM M) (bc M) cols uw (0:Int) (0:Int) [] [] [a,b] [a,b] 0 []=if((zM M a cols).2!=0)=Q3 then((0:Int),(zM M a cols).2)else if((zM M b cols).2!=0)=Q3 then((0:Int),(zM M b cols).2)else if(!mn [(zM M a cols).1,(zM M b cols).1] 3)=Q3 then((0:Int),(5:Int))else((3:Int),(0:Int)):=rfl
    show _=Q1 ((aH (zM M) (bc M) cols uw (0:Int) (0:Int) [] [] [a,b] [a,b] 0 []).1,(aH (zM M) (bc M) cols uw (0:Int) (0:Int) [] [] [a,b] [a,b] 0 []).2,());rw[e1,un];have e2:(CK g c (.mk uw (0,0,[]) [] [a,b]) cols).val=if c (zm a) cols=Q3 then(if((g (zm a) cols).2!=0)=Q3 then Q1 (.inr (.tup [.int .i64 0,.int .i64 (g (zm a) cols).2],[]))else if c (zm b) cols=Q3 then(if((g (zm b) cols).2!=0)=Q3 then Q1 (.inr (.tup [.int .i64 0,.int .i64 (g (zm b) cols).2],[]))else if(bif (g (zm a) cols).1!=0 then bif (g (zm a) cols).1!=3 then Q3 else(bif (g (zm b) cols).1!=0 then(g (zm b) cols).1!=3 else Q4)else(bif (g (zm b) cols).1!=0 then(g (zm b) cols).1!=3 else Q4))=Q3 then Q1 (.inr (.tup [.int .i64 0,.int .i64 5],[]))else Q1 (.inr (.tup [.int .i64 3,.int .i64 0],[])))else Q2)else Q2:=rfl
    rw[e2,zk,zk,c1,c2,g1,g2];generalize zM M a cols=t;generalize zM M b cols=u;rcases zG (t.2!=0)with k1|k1<;>rcases zG (u.2!=0)with k2|k2<;>rcases zG (t.1!=0)with k3|k3<;>rcases zG (u.1!=0)with k4|k4<;>rcases zG (t.1!=3)with k5|k5<;>rcases zG (u.1!=3)with k6|k6<;>(simp only[k1,k2,k3,k4,k5,k6,zZ,aq,if_true,if_false,zF,bS,cX];rfl)
   ·have e1:aH (zM M) (bc M) cols [61] (0:Int) (0:Int) [] [] [a,b] [a,b] 0 []=if((zM M a cols).2!=0)=Q3 then((0:Int),(zM M a cols).2)else if((zM M b cols).2!=0)=Q3 then((0:Int),(zM M b cols).2)else if(!bif (zM M a cols).1==(zM M b cols).1 then Q3 else bif (zM M a cols).1==0 then Q3 else(zM M b cols).1==0)=Q3 then((0:Int),(5:Int))else((3:Int),(0:Int)):=rfl
    show _=Q1 ((aH (zM M) (bc M) cols [61] (0:Int) (0:Int) [] [] [a,b] [a,b] 0 []).1,(aH (zM M) (bc M) cols [61] (0:Int) (0:Int) [] [] [a,b] [a,b] 0 []).2,());rw[e1];have e2:(CK g c (.mk [61] (0,0,[]) [] [a,b]) cols).val=if c (zm a) cols=Q3 then(if((g (zm a) cols).2!=0)=Q3 then Q1 (.inr (.tup [.int .i64 0,.int .i64 (g (zm a) cols).2],[]))else if c (zm b) cols=Q3 then(if((g (zm b) cols).2!=0)=Q3 then Q1 (.inr (.tup [.int .i64 0,.int .i64 (g (zm b) cols).2],[]))else if(bif (g (zm a) cols).1!=0 then bif (g (zm b) cols).1!=0 then(g (zm a) cols).1!=(g (zm b) cols).1 else Q4 else Q4)=Q3 then Q1 (.inr (.tup [.int .i64 0,.int .i64 5],[]))else Q1 (.inr (.tup [.int .i64 3,.int .i64 0],[])))else Q2)else Q2:=rfl
    rw[e2,zk,zk,c1,c2,g1,g2];generalize zM M a cols=t;generalize zM M b cols=u;simp only[bne];rcases zG (t.2==0)with k1|k1<;>rcases zG (u.2==0)with k2|k2<;>rcases zG (t.1==0)with k3|k3<;>rcases zG (u.1==0)with k4|k4<;>rcases zG (t.1==u.1)with k5|k5<;>(simp only[k1,k2,k3,k4,k5,zZ,aq,if_true,if_false,zF,bS,cX];rfl)
   ·have e1:aH (zM M) (bc M) cols [60] (0:Int) (0:Int) [] [] [a,b] [a,b] 0 []=if((zM M a cols).2!=0)=Q3 then((0:Int),(zM M a cols).2)else if((zM M b cols).2!=0)=Q3 then((0:Int),(zM M b cols).2)else if(!bif (zM M a cols).1==(zM M b cols).1 then Q3 else bif (zM M a cols).1==0 then Q3 else(zM M b cols).1==0)=Q3 then((0:Int),(5:Int))else((3:Int),(0:Int)):=rfl
    show _=Q1 ((aH (zM M) (bc M) cols [60] (0:Int) (0:Int) [] [] [a,b] [a,b] 0 []).1,(aH (zM M) (bc M) cols [60] (0:Int) (0:Int) [] [] [a,b] [a,b] 0 []).2,());rw[e1];have e2:(CK g c (.mk [60] (0,0,[]) [] [a,b]) cols).val=if c (zm a) cols=Q3 then(if((g (zm a) cols).2!=0)=Q3 then Q1 (.inr (.tup [.int .i64 0,.int .i64 (g (zm a) cols).2],[]))else if c (zm b) cols=Q3 then(if((g (zm b) cols).2!=0)=Q3 then Q1 (.inr (.tup [.int .i64 0,.int .i64 (g (zm b) cols).2],[]))else if(bif (g (zm a) cols).1!=0 then bif (g (zm b) cols).1!=0 then(g (zm a) cols).1!=(g (zm b) cols).1 else Q4 else Q4)=Q3 then Q1 (.inr (.tup [.int .i64 0,.int .i64 5],[]))else Q1 (.inr (.tup [.int .i64 3,.int .i64 0],[])))else Q2)else Q2:=rfl
    rw[e2,zk,zk,c1,c2,g1,g2];generalize zM M a cols=t;generalize zM M b cols=u;simp only[bne];rcases zG (t.2==0)with k1|k1<;>rcases zG (u.2==0)with k2|k2<;>rcases zG (t.1==0)with k3|k3<;>rcases zG (u.1==0)with k4|k4<;>rcases zG (t.1==u.1)with k5|k5<;>(simp only[k1,k2,k3,k4,k5,zZ,aq,if_true,if_false,zF,bS,cX];rfl)
   ·have e1:aH (zM M) (bc M) cols [43] (0:Int) (0:Int) [] [] [a,b] [a,b] 0 []=if((zM M a cols).2!=0)=Q3 then((0:Int),(zM M a cols).2)else if((zM M b cols).2!=0)=Q3 then((0:Int),(zM M b cols).2)else if(!mn [(zM M a cols).1,(zM M b cols).1] 1)=Q3 then((0:Int),(5:Int))else((1:Int),(0:Int)):=rfl
    show _=Q1 ((aH (zM M) (bc M) cols [43] (0:Int) (0:Int) [] [] [a,b] [a,b] 0 []).1,(aH (zM M) (bc M) cols [43] (0:Int) (0:Int) [] [] [a,b] [a,b] 0 []).2,());rw[e1,un];have e2:(CK g c (.mk [43] (0,0,[]) [] [a,b]) cols).val=if c (zm a) cols=Q3 then(if((g (zm a) cols).2!=0)=Q3 then Q1 (.inr (.tup [.int .i64 0,.int .i64 (g (zm a) cols).2],[]))else if c (zm b) cols=Q3 then(if((g (zm b) cols).2!=0)=Q3 then Q1 (.inr (.tup [.int .i64 0,.int .i64 (g (zm b) cols).2],[]))else if(bif (g (zm a) cols).1!=0 then bif (g (zm a) cols).1!=1 then Q3 else(bif (g (zm b) cols).1!=0 then(g (zm b) cols).1!=1 else Q4)else(bif (g (zm b) cols).1!=0 then(g (zm b) cols).1!=1 else Q4))=Q3 then Q1 (.inr (.tup [.int .i64 0,.int .i64 5],[]))else Q1 (.inr (.tup [.int .i64 1,.int .i64 0],[])))else Q2)else Q2:=rfl
    rw[e2,zk,zk,c1,c2,g1,g2];generalize zM M a cols=t;generalize zM M b cols=u;rcases zG (t.2!=0)with k1|k1<;>rcases zG (u.2!=0)with k2|k2<;>rcases zG (t.1!=0)with k3|k3<;>rcases zG (u.1!=0)with k4|k4<;>rcases zG (t.1!=1)with k5|k5<;>rcases zG (u.1!=1)with k6|k6<;>(simp only[k1,k2,k3,k4,k5,k6,zZ,aq,if_true,if_false,zF,bS,cX];rfl)
   ·have e1:aH (zM M) (bc M) cols [45] (0:Int) (0:Int) [] [] [a,b] [a,b] 0 []=if((zM M a cols).2!=0)=Q3 then((0:Int),(zM M a cols).2)else if((zM M b cols).2!=0)=Q3 then((0:Int),(zM M b cols).2)else if(!mn [(zM M a cols).1,(zM M b cols).1] 1)=Q3 then((0:Int),(5:Int))else((1:Int),(0:Int)):=rfl
    show _=Q1 ((aH (zM M) (bc M) cols [45] (0:Int) (0:Int) [] [] [a,b] [a,b] 0 []).1,(aH (zM M) (bc M) cols [45] (0:Int) (0:Int) [] [] [a,b] [a,b] 0 []).2,());rw[e1,un];have e2:(CK g c (.mk [45] (0,0,[]) [] [a,b]) cols).val=if c (zm a) cols=Q3 then(if((g (zm a) cols).2!=0)=Q3 then Q1 (.inr (.tup [.int .i64 0,.int .i64 (g (zm a) cols).2],[]))else if c (zm b) cols=Q3 then(if((g (zm b) cols).2!=0)=Q3 then Q1 (.inr (.tup [.int .i64 0,.int .i64 (g (zm b) cols).2],[]))else if(bif (g (zm a) cols).1!=0 then bif (g (zm a) cols).1!=1 then Q3 else(bif (g (zm b) cols).1!=0 then(g (zm b) cols).1!=1 else Q4)else(bif (g (zm b) cols).1!=0 then(g (zm b) cols).1!=1 else Q4))=Q3 then Q1 (.inr (.tup [.int .i64 0,.int .i64 5],[]))else Q1 (.inr (.tup [.int .i64 1,.int .i64 0],[])))else Q2)else Q2:=rfl
    rw[e2,zk,zk,c1,c2,g1,g2];generalize zM M a cols=t;generalize zM M b cols=u;rcases zG (t.2!=0)with k1|k1<;>rcases zG (u.2!=0)with k2|k2<;>rcases zG (t.1!=0)with k3|k3<;>rcases zG (u.1!=0)with k4|k4<;>rcases zG (t.1!=1)with k5|k5<;>rcases zG (u.1!=1)with k6|k6<;>(simp only[k1,k2,k3,k4,k5,k6,zZ,aq,if_true,if_false,zF,bS,cX];rfl)
theorem iz:mj (0,0,[]):=⟨by decide,by decide,sw⟩
theorem mD(b:Bool):mj (ye b):=by cases b<;>exact⟨by decide,by decide,by simp[ye]⟩
theorem SF:mj (3,0,[]):=mD Q4
theorem SG:mj (3,1,[]):=mD Q3
theorem Yl(a b:Sem zf):mj (ET a b):=by
 unfold ET;rw[nu,lE,lF];split;exact SF;split;exact SG;exact iz
theorem zeN(a b:Sem zf):mj (Xf a b):=by
 unfold Xf;rw[nu,lE,lF];split;exact SG;split;exact SF;exact iz
theorem Yn(a:Sem zf):mj (At a):=by
 unfold At;rw[nu,lE,lF];split;exact SF;split;exact SG;exact iz
theorem zeM(a b:Sem zf):mj (mv a b):=by
 unfold mv;split;exact iz;rw[jw];exact mD _
theorem SH(a b:Sem zf):mj (sV a b):=by
 unfold sV;split;exact iz;rw[jw];exact mD _
theorem Mh(a:Sem zf):mj (jE a):=by
 unfold jE;rw[jw];exact mD _
theorem Jz(n:Int):mj (1,IntKind.i64.wrap n,[]):=by
 refine⟨?_,?_,sw⟩
 ·show(-9223372036854775808:Int)<=IntKind.i64.wrap n;rw[gp];omega
 ·show IntKind.i64.wrap n<=(9223372036854775807:Int);rw[gp];omega
theorem SI(a b:Sem zf):mj (sW a b):=by
 unfold sW;split;exact iz;split;exact iz;exact Jz _
theorem Qk(a b:Sem zf):mj (mw a b):=by
 unfold mw;split;exact iz;split;exact iz;exact Jz _
def ug(cols:List (Sem zi))(row:List (Sem zf))(s:zB):Sem zf:=if(bif Q0 (ag cols s<0)then Q3 else Q0 (ag cols s>=(↑row.length:Int)))=Q3 then(0,0,[])else row.getD (toNat (ag cols s)) (zj zf)
theorem Nu{g c}{cols:List (Sem zi)}{row:List (Sem zf)}{e:ze}(hl:cols.length<=1000000):∃r k,zX (Ab g c) k (.h6 cols row ((0:Nat):Int) (e,()) ((0,0,[]),())) r/\k<=100000000/\aM r.2 [zf] r.1=Q1 (ug cols row (ze.s e),()):=by
 have hf:=my (t:=Ab g c) (Φ:=λr=>aM r.2 [zf] r.1=Q1 (ug cols row (ze.s e),())) 1 (λi=>.h6 cols row (i:Int) (e,()) ((0,0,[]),())) (λi=>((getD cols i (zj zi)).1==ze.s e)=Q4) cols.length (by
  intro i hi hj;have hv:(Ab g c (.h6 cols row (i:Int) (e,()) ((0,0,[]),()))).val=if((getD cols i (zj zi)).1==ze.s e)=Q3 then(if Q0 ((i:Int)<(row.length:Int))=Q3 then(if zO (i:Int) row.length=Q3 then Q1 (.inr (.agg [.int .i64 (getD row i (zj zf)).1,.int .i64 (getD row i (zj zf)).2.1,.str (getD row i (zj zf)).2.2],[]))else Q2)else Q1 (.inr (.agg [.int .i64 0,.int .i64 0,.str []],[])))else Q1 (.inl (.h6 cols row ((i+1:Nat):Int) (e,()) ((0,0,[]),()))):=by
   simp only[Ab,Q8,zJ hi,zw hi,aK,if_true];rw[zr i um]
  rcases zG ((getD cols i (zj zi)).1==ze.s e)with h|h
  ·have hp:=mR (p:=λc:Sem zi=>c.1==ze.s e) (d:=zj zi) cols 0 i hi h hj;have hp:ag cols (ze.s e)=(i:Int):=by unfold ag;rw[hp];simp
   by_cases hr:i<row.length
   ·refine .inr ⟨by rw[h];simp,_,zX.of (by rw[hv,if_pos h,if_pos (zJ hr),if_pos (zw hr)]),?_⟩;unfold ug;rw[hp,if_neg (by rw[ao (by omega:¬(i:Int)<0),ao (by omega:¬(i:Int)>=(row.length:Int))];simp),aK];rfl
   ·refine .inr ⟨by rw[h];simp,_,zX.of (by rw[hv,if_pos h,if_neg (by rw[aO];omega)]),?_⟩;unfold ug;rw[hp,if_pos (by rw[ao (by omega:¬(i:Int)<0),zu (by omega:(i:Int)>=(row.length:Int))];rfl)];rfl
  ·exact .inl ⟨h,zT.of (by rw[hv,if_neg (by rw[h];simp)])⟩)
 rcases hf with⟨h1,h2⟩|⟨h1,r,h2,h3⟩
 ·have hp:=mS (p:=λc:Sem zi=>c.1==ze.s e) (d:=zj zi) cols 0 h1;refine⟨(.agg [.int .i64 0,.int .i64 0,.str []],[]),_,h2.ends (zX.of ?_),ow,?_⟩
  ·simp only[Ab,Q8,zC];rfl
  ·unfold ug;rw[show ag cols (ze.s e)=(-1:Int)from hp];rfl
 ·exact⟨r,_,h2,ow,h3⟩
theorem Ym{cols:List (Sem zi)}{row:List (Sem zf)}{s:zB}(hr:∀v∈row,mj v):mj (ug cols row s):=by
 unfold ug;split
 ·exact iz
 ·by_cases h:toNat (ag cols s)<row.length
  ·exact hr _ (bK h)
  ·rw[ba,fy ow];exact iz
theorem rz{cols:List (Sem zi)}{row:List (Sem zf)}(hl:cols.length<=1000000)(hr:∀v∈row,mj v):∀(N d M:Nat)(e:ze),d<=N->d<=M->bq d e=Q3->tc e->cj N e cols row=Q1 (dz M cols row e,())/\mj (dz M cols row e)
 |_,0,_,_,_,_,h,_=>by cases h
 |0,d+1,_,_,h,_,_,_=>absurd h ow
 |_,d+1,0,_,_,h,_,_=>absurd h ow
 | N+1,d+1,M+1,e,h1,h2,h,hw=>by
  rw[cj,dz];unfold Po;cases fN h with
  | lit v hv=>
   rw[tc]at hw;exact⟨rfl,hw.1⟩
  | col s hw2 hr2=>
   obtain⟨r,k,k1,k2,k3⟩:=Nu (g:=λx0 x1 x2=>gO (cj N x0 x1 x2)) (c:=λx0 x1 x2=>(cj N x0 x1 x2).isSome) (cols:=cols) (row:=row) (e:=.mk ee (0,0,[]) s []) hl;exact⟨zy Jj k1 k2 k3,Ym hr⟩
  | one op a ho ha=>
   rw[tc,kg]at hw;obtain⟨ka,va⟩:=rz hl hr N d M a ow ow ha hw.2.2.1;unfold ah de;generalize hg:(λx0 x1 x2=>gO (cj N x0 x1 x2))=g;generalize hc:(λx0 x1 x2=>(cj N x0 x1 x2).isSome)=c;have g1:g a cols row=dz M cols row a:=by rw[<-hg];show gO (cj N a cols row)=_;rw[ka];rfl
   have c1:c a cols row=Q3:=by rw[<-hc];show(cj N a cols row).isSome=_;rw[ka];rfl
   rcases ho with rfl|rfl
   ·have e1:sr (dz M) cols row (.mk mI (0,0,[]) [] [a])=At (dz M cols row a):=rfl;have e2:(pO g c (.mk mI (0,0,[]) [] [a]) cols row).val=if c (zm a) cols row=Q3 then(if H5 (g (zm a) cols row)=Q3 then Q1 (.inr (.agg [.int .i64 (Gu (g (zm a) cols row)).1,.int .i64 (Gu (g (zm a) cols row)).2.1,.str (Gu (g (zm a) cols row)).2.2],[]))else Q2)else Q2:=rfl
    rw[e1,e2,zk,c1,g1];generalize dz M cols row a=x at*;rw[Wf,ZY];exact⟨rfl,Yn _⟩
   ·have e1:sr (dz M) cols row (.mk oP (0,0,[]) [] [a])=jE (dz M cols row a):=rfl;have e2:(pO g c (.mk oP (0,0,[]) [] [a]) cols row).val=if c (zm a) cols row=Q3 then(if mq (g (zm a) cols row)=Q3 then(if(!sQ (g (zm a) cols row))=Q3 then Q1 (.inr (.agg [.int .i64 (aW Q3).1,.int .i64 (aW Q3).2.1,.str (aW Q3).2.2],[]))else if lr ((g (zm a) cols row).1==0)=Q3 then Q1 (.inr (.agg [.int .i64 (aW ((g (zm a) cols row).1==0)).1,.int .i64 (aW ((g (zm a) cols row).1==0)).2.1,.str (aW ((g (zm a) cols row).1==0)).2.2],[]))else Q2)else Q2)else Q2:=rfl
    rw[e1,e2,zk,c1,g1];generalize dz M cols row a=x at*;refine⟨?_,Mh _⟩;rw[lq va.2.2,oo va.2.2,ot,io,io];unfold jE au;rw[jw];cases bg x
    ·rfl
    ·rfl
  | two op a b ho ha hb=>
   rw[tc,kg,kg]at hw;obtain⟨ka,va⟩:=rz hl hr N d M a ow ow ha hw.2.2.1;obtain⟨kb,vb⟩:=rz hl hr N d M b ow ow hb hw.2.2.2.1;unfold ah de;generalize hg:(λx0 x1 x2=>gO (cj N x0 x1 x2))=g;generalize hc:(λx0 x1 x2=>(cj N x0 x1 x2).isSome)=c;have g1:g a cols row=dz M cols row a:=by rw[<-hg];show gO (cj N a cols row)=_;rw[ka];rfl
   have c1:c a cols row=Q3:=by rw[<-hc];show(cj N a cols row).isSome=_;rw[ka];rfl
   have g2:g b cols row=dz M cols row b:=by rw[<-hg];show gO (cj N b cols row)=_;rw[kb];rfl
   have c2:c b cols row=Q3:=by rw[<-hc];show(cj N b cols row).isSome=_;rw[kb];rfl
   rcases ho with rfl|rfl|rfl|rfl|rfl|rfl
   ·have e1:sr (dz M) cols row (.mk cY (0,0,[]) [] [a,b])=ET (dz M cols row a) (dz M cols row b):=rfl;have e2:(pO g c (.mk cY (0,0,[]) [] [a,b]) cols row).val=if c (zm a) cols row=Q3 then(if c (zm b) cols row=Q3 then(if H2 (g (zm a) cols row) (g (zm b) cols row)=Q3 then Q1 (.inr (.agg [.int .i64 (Gr (g (zm a) cols row) (g (zm b) cols row)).1,.int .i64 (Gr (g (zm a) cols row) (g (zm b) cols row)).2.1,.str (Gr (g (zm a) cols row) (g (zm b) cols row)).2.2],[]))else Q2)else Q2)else Q2:=rfl
    rw[e1,e2,zk,zk,c1,c2,g1,g2];generalize dz M cols row a=x at*;generalize dz M cols row b=y at*;rw[Wc,ZX];exact⟨rfl,Yl _ _⟩
   ·have e1:sr (dz M) cols row (.mk uw (0,0,[]) [] [a,b])=Xf (dz M cols row a) (dz M cols row b):=rfl;have e2:(pO g c (.mk uw (0,0,[]) [] [a,b]) cols row).val=if c (zm a) cols row=Q3 then(if c (zm b) cols row=Q3 then(if Pm (g (zm a) cols row) (g (zm b) cols row)=Q3 then Q1 (.inr (.agg [.int .i64 (RI (g (zm a) cols row) (g (zm b) cols row)).1,.int .i64 (RI (g (zm a) cols row) (g (zm b) cols row)).2.1,.str (RI (g (zm a) cols row) (g (zm b) cols row)).2.2],[]))else Q2)else Q2)else Q2:=rfl
    rw[e1,e2,zk,zk,c1,c2,g1,g2];generalize dz M cols row a=x at*;generalize dz M cols row b=y at*;rw[ZZ,zgK];exact⟨rfl,zeN _ _⟩
   ·have e1:sr (dz M) cols row (.mk [61] (0,0,[]) [] [a,b])=mv (dz M cols row a) (dz M cols row b):=rfl;have e2:(pO g c (.mk [61] (0,0,[]) [] [a,b]) cols row).val=if c (zm a) cols row=Q3 then(if c (zm b) cols row=Q3 then(if vw (g (zm a) cols row) (g (zm b) cols row)=Q3 then Q1 (.inr (.agg [.int .i64 (rm (g (zm a) cols row) (g (zm b) cols row)).1,.int .i64 (rm (g (zm a) cols row) (g (zm b) cols row)).2.1,.str (rm (g (zm a) cols row) (g (zm b) cols row)).2.2],[]))else Q2)else Q2)else Q2:=rfl
    rw[e1,e2,zk,zk,c1,c2,g1,g2];generalize dz M cols row a=x at*;generalize dz M cols row b=y at*;rw[Nr va.2.2 vb.2.2,RF va.2.2 vb.2.2];exact⟨rfl,zeM _ _⟩
   ·have e1:sr (dz M) cols row (.mk [60] (0,0,[]) [] [a,b])=sV (dz M cols row a) (dz M cols row b):=rfl;have e2:(pO g c (.mk [60] (0,0,[]) [] [a,b]) cols row).val=if c (zm a) cols row=Q3 then(if c (zm b) cols row=Q3 then(if AW (g (zm a) cols row) (g (zm b) cols row)=Q3 then Q1 (.inr (.agg [.int .i64 (xK (g (zm a) cols row) (g (zm b) cols row)).1,.int .i64 (xK (g (zm a) cols row) (g (zm b) cols row)).2.1,.str (xK (g (zm a) cols row) (g (zm b) cols row)).2.2],[]))else Q2)else Q2)else Q2:=rfl
    rw[e1,e2,zk,zk,c1,c2,g1,g2];generalize dz M cols row a=x at*;generalize dz M cols row b=y at*;rw[RG va.2.2 vb.2.2,We va.2.2 vb.2.2];exact⟨rfl,SH _ _⟩
   ·have e1:sr (dz M) cols row (.mk [43] (0,0,[]) [] [a,b])=sW (dz M cols row a) (dz M cols row b):=rfl;have e2:(pO g c (.mk [43] (0,0,[]) [] [a,b]) cols row).val=if c (zm a) cols row=Q3 then(if c (zm b) cols row=Q3 then(if AX (g (zm a) cols row) (g (zm b) cols row)=Q3 then Q1 (.inr (.agg [.int .i64 (xL (g (zm a) cols row) (g (zm b) cols row)).1,.int .i64 (xL (g (zm a) cols row) (g (zm b) cols row)).2.1,.str (xL (g (zm a) cols row) (g (zm b) cols row)).2.2],[]))else Q2)else Q2)else Q2:=rfl
    rw[e1,e2,zk,zk,c1,c2,g1,g2];generalize dz M cols row a=x at*;generalize dz M cols row b=y at*;rw[RK va vb,Wg va vb];exact⟨rfl,SI _ _⟩
   ·have e1:sr (dz M) cols row (.mk [45] (0,0,[]) [] [a,b])=mw (dz M cols row a) (dz M cols row b):=rfl;have e2:(pO g c (.mk [45] (0,0,[]) [] [a,b]) cols row).val=if c (zm a) cols row=Q3 then(if c (zm b) cols row=Q3 then(if vB (g (zm a) cols row) (g (zm b) cols row)=Q3 then Q1 (.inr (.agg [.int .i64 (ro (g (zm a) cols row) (g (zm b) cols row)).1,.int .i64 (ro (g (zm a) cols row) (g (zm b) cols row)).2.1,.str (ro (g (zm a) cols row) (g (zm b) cols row)).2.2],[]))else Q2)else Q2)else Q2:=rfl
    rw[e1,e2,zk,zk,c1,c2,g1,g2];generalize dz M cols row a=x at*;generalize dz M cols row b=y at*;rw[Ns va vb,RH va vb];exact⟨rfl,Qk _ _⟩
theorem qZ:∀(N k:Nat)(e:ze)(n:Nat),k<=12->n<=60->(iw N e ((13:Int)-k) n).1=Q3->bq k e=Q3/\(iw N e ((13:Int)-k) n).2=((n+nE k e:Nat):Int)/\n+nE k e<=60
 |0,_,_,_,_,_,h=>by cases h
 | N+1,0,e,n,_,_,h=>by
  rw[iw]at h;unfold Aq at h;rw[if_pos Jj]at h;cases h
 | N + 1,k+1,.mk op v s l,n,h1,h2,h=>by
  have w1:IntKind.i64.wrap ((n:Int)+1)=((n+1:Nat):Int):=zr n um;have w2:IntKind.i64.wrap ((13:Int)-((k+1:Nat):Int)+1)=(13:Int)-(k:Int):=by rw[gp];omega
  have d1:Q0 ((13:Int)-((k+1:Nat):Int)>12)=Q4:=ao ow;rw[iw]at h⊢
  have e0:∀m:Int,Aq (iw N) (.mk op v s l) m n=if(bif Q0 (m>12)then Q3 else bif Q0 (((n+1:Nat):Int)>60)then Q3 else(↑l.length:Int)!=cR op)=Q3 then(Q4,((n+1:Nat):Int))else
    if(op==mH)=Q3 then(bif s==[]then bg v else Q4,((n+1:Nat):Int))else
    if(op==ee)=Q3 then(bif aQ v then bif eb s then !jr s else Q4 else Q4,((n+1:Nat):Int))else
    if(bif !aQ v then Q3 else !s==[])=Q3 then(Q4,((n+1:Nat):Int))else pd (iw N) m l ((n+1:Nat):Int):=by
   intro m;unfold Aq;rw[w1];rfl
  rw[e0,d1]at h⊢;rcases zG (Q0 (((n+1:Nat):Int)>60))with c0|c0
  ·rw[c0,if_pos Jj]at h;cases h
  rcases zG ((↑l.length:Int)!=cR op)with c1|c1
  ·rw[c0,c1,if_pos Jj]at h;cases h
  have hn:n+1<=60:=by simp at c0;omega
  have hp:(l.length:Int)=cR op:=by simpa using c1
  rw[c0,c1,if_neg sw]at h⊢;rcases l5 op with⟨p,ho⟩|⟨p,ho⟩|⟨p,ho⟩|p
  ·have hl:l=[]:=Ah ow;subst hl;rcases ho with rfl|rfl
   ·rw[if_pos Jj]at h⊢;obtain⟨a,b⟩:=cu h;refine⟨?_,by simp[nE],by simp[nE];omega⟩;simp[bq,b,bI a]
   ·rw[if_neg (by decide),if_pos Jj]at h⊢;obtain⟨a,b⟩:=cu h;obtain⟨b,c⟩:=cu b;refine⟨?_,by simp[nE],by simp[nE];omega⟩;have c':jr s=Q4:=by simpa using c
    simp[bq,a,b,c']
  ·obtain⟨a,rfl⟩:∃a,l=[a]:=List.length_eq_one_iff.1 ow;have o1:(op==mH)=Q4:=by rcases ho with rfl|rfl<;>rfl
   have o2:(op==ee)=Q4:=by rcases ho with rfl|rfl<;>rfl
   have o3:(bif op==mI then Q3 else op==oP)=Q3:=by rcases ho with rfl|rfl<;>rfl
   rw[if_neg (by rw[o1];simp),if_neg (by rw[o2];simp)]at h⊢;rcases zG (aQ v)with c2|c2
   ·rcases zG (s==[])with c3|c3
    ·rw[c2,c3,if_neg sw]at h⊢;rw[pd,w2]at h⊢;rcases zG (iw N a ((13:Int)-(k:Int)) ((n+1:Nat):Int)).1 with c4|c4
     ·obtain⟨i1,i2,i3⟩:=qZ N k a (n+1) ow hn c4;rw[c4,if_neg sw];refine⟨by simp[bq,o1,o2,o3,c2,c3,i1],?_,by simp[nE];omega⟩;rw[pd];show(iw N a ((13:Int)-(k:Int)) ((n+1:Nat):Int)).2=_;rw[i2];simp[nE];omega
     ·rw[c4,if_pos Jj]at h;cases h
    ·rw[c2,c3,if_pos Jj]at h;cases h
   ·rw[c2,if_pos Jj]at h;cases h
  ·obtain⟨a,b,rfl⟩:∃a b,l=[a,b]:=by
    match l,hp with
    |[a,b],_=>exact⟨a,b,rfl⟩
    |[],hp=>exact absurd hp (by rw[p];simp)
    |[_],hp=>exact absurd hp (by rw[p];simp)
    |_::_::_::_,hp=>exact absurd hp (by rw[p];simp;omega)
   have o1:(op==mH)=Q4:=by rcases ho with rfl|rfl|rfl|rfl|rfl|rfl<;>rfl
   have o2:(op==ee)=Q4:=by rcases ho with rfl|rfl|rfl|rfl|rfl|rfl<;>rfl
   have o3:(bif op==mI then Q3 else op==oP)=Q4:=by rcases ho with rfl|rfl|rfl|rfl|rfl|rfl<;>rfl
   have o4:ES op=Q3:=by rcases ho with rfl|rfl|rfl|rfl|rfl|rfl<;>rfl
   rw[if_neg (by rw[o1];simp),if_neg (by rw[o2];simp)]at h⊢;rcases zG (aQ v)with c2|c2
   ·rcases zG (s==[])with c3|c3
    ·rw[c2,c3,if_neg sw]at h⊢;rw[pd,w2]at h⊢;rcases zG (iw N a ((13:Int)-(k:Int)) ((n+1:Nat):Int)).1 with c4|c4
     ·obtain⟨i1,i2,i3⟩:=qZ N k a (n+1) ow hn c4;rw[c4,if_neg sw]at h⊢;rw[i2,pd,w2]at h⊢;rcases zG (iw N b ((13:Int)-(k:Int)) ((n+1+nE k a:Nat):Int)).1 with c5|c5
      ·obtain⟨j1,j2,j3⟩:=qZ N k b (n+1+nE k a) ow i3 c5;rw[c5,if_neg sw];refine⟨by simp[bq,o1,o2,o3,o4,c2,c3,i1,j1],?_,by simp[nE];omega⟩;rw[pd];show(iw N b ((13:Int)-(k:Int)) ((n+1+nE k a:Nat):Int)).2=_;rw[j2];simp[nE];omega
      ·rw[c5,if_pos Jj]at h;cases h
     ·rw[c4,if_pos Jj]at h;cases h
    ·rw[c2,c3,if_pos Jj]at h;cases h
   ·rw[c2,if_pos Jj]at h;cases h
  ·omega
theorem wP(e:ze):cA e=(bif bq 12 e then Q0 (nE 12 e<=60)else Q4):=by
 unfold cA;rcases zG (iw 16 e 1 0).1 with c|c
 ·obtain⟨h1,_,h3⟩:=qZ 16 12 e 0 ow ow c;rw[c,h1,zu ow];rfl
 ·rw[c];rcases zG (bq 12 e)with g|g
  ·rw[g];by_cases h:nE 12 e<=60
   ·have:=ra 16 12 e 0 ow ow g ow;have h2:(iw 16 e 1 0).1=Q3:=by
     have e1:iw 16 e 1 0=(Q3,((0+nE 12 e:Nat):Int)):=this;rw[e1]
    rw[h2]at c;cases c
   ·rw[ao h];rfl
  ·rw[g];rfl
theorem K9{e:ze}(hw:tc e):Dq e=Q1 (cA e,()):=by
 have hf:Ib e 12=Q1 (bq 12 e,()):=Gz 16 12 e ow ow hw;have hfc:A3 e 12=Q3:=by unfold A3;rw[hf];rfl
 have hfv:Ia e 12=bq 12 e:=by unfold Ia;rw[hf];rfl
 unfold Dq ah de;simp only[zlo,Q8,zk,hfc,hfv];rw[wP];rcases zG (bq 12 e)with g|g
 ·have hn:Ds e=Q1 ((nE 12 e:Int),()):=oy 16 12 e ow ow g;have hnc:vH e=Q3:=by unfold vH;rw[hn];rfl
  have hnv:A4 e=(nE 12 e:Int):=by unfold A4;rw[hn];rfl
  rw[g,hnc,hnv];have:Q0 (((nE 12 e:Nat):Int)<=60)=Q0 (nE 12 e<=60):=by
   by_cases h:nE 12 e<=60
   ·rw[zu h,zu ow]
   ·rw[ao h,ao ow]
  rw[this];rfl
 ·rw[g];rfl
theorem mZ{e:ze}(hw:tc e):tX e=Q3:=by unfold tX;rw[K9 hw];rfl
theorem rA{e:ze}(hw:tc e):Dp e=cA e:=by unfold Dp;rw[K9 hw];rfl
theorem gU{e:ze}(h:cA e=Q3):bq 12 e=Q3:=by
 rw[wP]at h;exact(cu h).1
theorem Lb{e:ze}{cols:List (Sem zi)}(hl:cols.length<=1000000)(h:cA e=Q3):A2 e cols=Q1 ((bJ e cols).1,(bJ e cols).2,()):=by
 have:=rF hl 16 12 16 e ow ow (gU h);unfold A2 bJ;rw[this,h];rfl
theorem Wh{e:ze}{cols:List (Sem zi)}{row:List (Sem zf)}(hl:cols.length<=1000000)(hr:∀v∈row,mj v)(hw:tc e)(h:cA e=Q3):A0 e cols row=Q1 (kd e cols row,()):=by
 have:=(rz hl hr 16 12 16 e ow ow (gU h) hw).1;unfold A0 kd;rw[this,h];rfl
theorem D0(e:ze):fF 16 e xD=(e.op==[]&&(aQ e.v&&(e.s==[]&&e.l.length==0))):=by
 show LG (fF 15) e xD=_;unfold LG MH Xe aQ;obtain⟨op,v,s,l⟩:=e;simp only[ze.op,ze.v,ze.s,ze.l];cases l with
 | nil=>
  simp only[jI,Y6];cases(op==[])<;>cases(v.1==0&&(v.2.1==0&&(v.2.2==[]&&Q3)))<;>cases(s==[])<;>rfl
 | cons x r=>
  have:(((x::r).length:Int)!=(([]:List ze).length:Int))=Q3:=by simp;omega
  simp only[this];cases(op==[])<;>cases(v.1==0&&(v.2.1==0&&(v.2.2==[]&&Q3)))<;>cases(s==[])<;>rfl
theorem Nv(e:ze):A1 e xD=Q1 (fF 16 e xD,()):=by
 rw[D0];show bP 16 e xD=_;rw[bP];unfold H8;rcases zG (e.op==[])with c1|c1
 ·rcases zG (aQ e.v)with c2|c2
  ·rcases zG (e.s==[])with c3|c3
   ·by_cases c4:e.l.length=0
    ·refine zy (s:=.h4 0 (e,()) (xD,())) (k:=1) (r:=(.kb Q3,[])) ?_ (zX.of ?_) ow ?_
     ·unfold aQ at c2;simp only[CJ,Q8];have c4':(((ze.l e).length:Int)!=(([]:List ze).length:Int))=Q4:=by simp[c4]
      show(if(bif !(e.op==[])then Q3 else bif !(e.v.1==0&&(e.v.2.1==0&&(e.v.2.2==[]&&Q3)))then Q3 else bif !(e.s==[])then Q3 else((ze.l e).length:Int)!=(([]:List ze).length:Int))=Q3 then _ else _)=_;rw[c1,c2,c3,c4'];rfl
     ·have c5:Q0 ((0:Int)<((ze.l e).length:Int))=Q4:=ao (by rw[c4];omega);simp only[I5,I6,Bo,Q8];rw[c5];rfl
     ·rw[c1,c2,c3,c4];rfl
    ·have c4':(((ze.l e).length:Int)!=(([]:List ze).length:Int))=Q3:=bne_iff_ne.2 (by show((ze.l e).length:Int)≠0;omega);have c5:((ze.l e).length==0)=Q4:=bX.2 c4;refine zH (r:=(.kb Q4,[])) ?_ ?_
     ·unfold aQ at c2;simp only[CJ,Q8];show(if(bif !(e.op==[])then Q3 else bif !(e.v.1==0&&(e.v.2.1==0&&(e.v.2.2==[]&&Q3)))then Q3 else bif !(e.s==[])then Q3 else((ze.l e).length:Int)!=(([]:List ze).length:Int))=Q3 then _ else _)=_;rw[c1,c2,c3,c4'];rfl
     ·rw[c1,c2,c3,c5];rfl
   ·refine zH (r:=(.kb Q4,[])) ?_ ?_
    ·unfold aQ at c2;simp only[CJ,Q8];show(if(bif !(e.op==[])then Q3 else bif !(e.v.1==0&&(e.v.2.1==0&&(e.v.2.2==[]&&Q3)))then Q3 else bif !(e.s==[])then Q3 else((ze.l e).length:Int)!=(([]:List ze).length:Int))=Q3 then _ else _)=_;rw[c1,c2,c3];rfl
    ·rw[c1,c2,c3];rfl
  ·refine zH (r:=(.kb Q4,[])) ?_ ?_
   ·unfold aQ at c2;simp only[CJ,Q8];show(if(bif !(e.op==[])then Q3 else bif !(e.v.1==0&&(e.v.2.1==0&&(e.v.2.2==[]&&Q3)))then Q3 else bif !(e.s==[])then Q3 else((ze.l e).length:Int)!=(([]:List ze).length:Int))=Q3 then _ else _)=_;rw[c1,c2];rfl
   ·rw[c1,c2];rfl
 ·refine zH (r:=(.kb Q4,[])) ?_ ?_
  ·simp only[CJ,Q8];show(if(bif !(e.op==[])then Q3 else bif !(e.v.1==0&&(e.v.2.1==0&&(e.v.2.2==[]&&Q3)))then Q3 else bif !(e.s==[])then Q3 else((ze.l e).length:Int)!=(([]:List ze).length:Int))=Q3 then _ else _)=_;rw[c1];rfl
  ·rw[c1];rfl
theorem Ov{e:ze}(h:cA e=Q3):(e.op==[])=Q4:=by
 have hg:=gU h;cases fN hg with
 |lit v hv=>rfl
 |col s hw hr=>rfl
 |one op a ho ha=>rcases ho with rfl|rfl<;>rfl
 |two op a b ho ha hb=>rcases ho with rfl|rfl|rfl|rfl|rfl|rfl<;>rfl
theorem Dw{e:ze}{cols:List (Sem zi)}(hw:tc e)(hl:cols.length<=1000000):qj e cols=Q1 (iR e cols,()):=by
 have hs:=Nv e;have hsc:gP e xD=Q3:=by unfold gP;rw[hs];rfl
 have hsv:fq e xD=fF 16 e xD:=by unfold fq;rw[hs];rfl
 unfold qj ah de;simp only[zb7,Q8,zk,mZ hw,rA hw];unfold iR;rcases zG (e.op==[])with c|c
 ·have hm:cA e=Q4:=by
   rcases zG (cA e)with h|h
   ·rw[Ov h]at c;cases c
   ·exact h
  have ht:bJ e cols=(0,1):=by unfold bJ;rw[hm];rfl
  rw[c,hsc,hsv,ht];rcases zG (fF 16 e xD)with h|h<;>rw[h]<;>rfl
 ·have hn:fF 16 e xD=Q4:=by rw[D0,c];rfl
  rw[c,hn];rcases zG (cA e)with h|h
  ·have ht:=Lb (cols:=cols) hl h;have htc:ov e cols=Q3:=by unfold ov;rw[ht];rfl
   have htv:iM e cols=bJ e cols:=by unfold iM;rw[ht];rfl
   rw[h,htc,htv];generalize bJ e cols=t;obtain⟨t,r⟩:=t;rcases zG (r==0)with k1|k1
   ·have e0:r=0:=bI k1;subst e0;rcases zG (t==0)with k2|k2<;>rcases zG (t==3)with k3|k3<;>(simp only[bne,k2,k3];rfl)
   ·simp only[bne,k1];rfl
  ·have ht:bJ e cols=(0,1):=by unfold bJ;rw[h];rfl
   rw[h,ht];rfl
theorem nT:∀(k:Nat)(e:ze)(n:Nat),k<=n->bq k e=Q3->lZ n e=Q3
 |0,_,_,_,h=>by simp[bq]at h
 |d+1,.mk op v s l,0,hn,_=>by omega
 | d + 1,.mk op v s l,n+1,hn,h=>by
  unfold lZ;by_cases ho:op=cY
  ·rw[if_pos (show(ze.mk op v s l).op=cY from ho)];subst ho;have Q2:(bif aQ v then bif s==[]then Q4 else Q4 else Q4)=Q3->False:=by cases aQ v<;>cases s==[]<;>simp
   match l,h with
   |[],h=>exact(Q2 h).elim
   |[_],h=>exact(Q2 h).elim
   |_::_::_::_,h=>exact(Q2 h).elim
   | [a,b],h=>
    have h':(bif aQ v then bif s==[]then(bif bq d a then bq d b else Q4)else Q4 else Q4)=Q3:=h;show(lZ n a&&lZ n b)=Q3;have hab:bq d a=Q3/\bq d b=Q3:=by
     revert h';cases aQ v<;>cases s==[]<;>cases bq d a<;>simp
    rw[nT d a n ow hab.1,nT d b n ow hab.2];rfl
  ·rw[if_neg (show¬(ze.mk op v s l).op=cY from ho)]
theorem AA(p:Sem zA)(e:ze):uo p e=Q3:=by
 unfold uo;by_cases h:up p e=Q3
 ·rw[h];rfl
 ·rw[Bool.eq_false_iff.2 h,aq];rw[qI]at h;simp only[not_or,Bool.not_eq_false]at h;exact nT 12 e 20 ow (gU h.2.2)
theorem Cy(c:ze->zB->Sem zf×Bool)(name:zB):∀(l m:List ze),fM c name (l++m)=if(fM c name l).2=Q3 then fM c name l else fM c name m
 | [],m=>by
  show fM c name m=if Q4=Q3 then _ else _
  simp
 | x::r,m=>by
  show(bif (c x name).2 then((c x name).1,Q3)else fM c name (r++m))=if(bif (c x name).2 then((c x name).1,Q3)else fM c name r).2=Q3 then(bif (c x name).2 then((c x name).1,Q3)else fM c name r)else _
  cases h:(c x name).2
  ·simp only[aq];exact Cy c name r m
  ·simp
theorem pY:∀(n m:Nat)(e:ze),n<=m->lZ n e=Q3->jn n e=jn m e
 |0,0,_,_,_=>rfl
 | 0,m+1,e,_,h=>by
  have ho:¬e.op=cY:=by simpa[lZ]using h
  unfold jn;rw[if_neg ho]
 |n+1,0,_,h,_=>by omega
 | n+1,m+1,e,hn,h=>by
  unfold lZ at h;unfold jn;split at h
  ·rename_i ho;rw[if_pos ho,if_pos ho];split at h
   ·rename_i a b hl;simp only[aE]at h;rw[pY n m a ow h.1,pY n m b ow h.2]
   ·cases h
  ·rename_i ho;rw[if_neg ho,if_neg ho]
theorem SZ{e g:ze}(h:cA (.mk cY (0,0,[]) [] [e,g])=Q3):bq 11 e=Q3/\bq 11 g=Q3:=by
 have h:=gU h;have h':(bif bq 11 e then bq 11 g else Q4)=Q3:=h;cases he:bq 11 e
 ·rw[he]at h';cases h'
 ·rw[he,zZ]at h';exact⟨rfl,h'⟩
theorem tP(c:UInt8)(s old:zB):Lib.index (c::s) old=if old.isPrefixOf (c::s)=Q3 then 0 else if Lib.index s old=-1 then -1 else Lib.index s old+1:=by
 rw[Lib.index];simp only[aZ]
theorem xU{s old new:zB}(hne:(old==new)=Q4)(h:Lib.index s old=-1):Lib.replaceAll s old new=s:=by
 unfold Lib.replaceAll Lib.replace Lib.replaceNum;rw[hne,if_pos (Or.inl (by decide)),Lib.count_miss h];rfl
theorem DN{s old new:zB}{i:Nat}(h0:old≠[])(hne:(old==new)=Q4)(h:Lib.index s old=i):Lib.replaceAll s old new=s.take i++new++Lib.replaceAll (s.drop (i+old.length)) old new:=by
 unfold Lib.replaceAll Lib.replace Lib.replaceNum;rw[hne,if_pos (Or.inl (by decide)),if_pos (Or.inl (by decide)),Lib.count_hit h0 h,oO 1];exact Lib.replaceK_hit old new _ s i h
theorem DO{old new:zB}(h0:old≠[])(hne:(old==new)=Q4):Lib.replaceAll [] old new=[]:=by
 refine xU hne ?_;cases old with
 |nil=>exact absurd rfl h0
 |cons a l=>rfl
theorem Ly{c:UInt8}{s old new:zB}(h0:old≠[])(hne:(old==new)=Q4)(hp:old.isPrefixOf (c::s)=Q3):Lib.replaceAll (c::s) old new=new++Lib.replaceAll ((c::s).drop old.length) old new:=by
 have:=DN (i:=0) h0 hne (s:=c::s) (by rw[tP,if_pos hp];rfl);simpa using this
theorem GK{c:UInt8}{s old new:zB}(h0:old≠[])(hne:(old==new)=Q4)(hp:old.isPrefixOf (c::s)=Q4):Lib.replaceAll (c::s) old new=c::Lib.replaceAll s old new:=by
 by_cases h:Lib.index s old=-1
 ·rw[xU hne h,xU hne (by rw[tP,if_neg (by simp[hp]),if_pos h])]
 ·obtain⟨i,hi⟩:∃i:Nat,Lib.index s old=i:=⟨(Lib.index s old).toNat,by have:=Lib.index_ge s old;omega⟩;rw[DN h0 hne hi,DN (i:=i+1) h0 hne (by rw[tP,if_neg (by simp[hp]),if_neg h,hi];simp)];simp[Nat.add_right_comm]
theorem V2{c a:UInt8}{r l:zB}(h:c≠a):(a::l).isPrefixOf (c::r)=Q4:=by
 rw[List.isPrefixOf,bX.2 (Ne.symm h)];rfl
def kT:zB->zB
 |[]=>[]
 |c::r=>if c=39 then 39::39::kT r else c::kT r
theorem DM:∀s:zB,Lib.replaceAll s [39] nI=kT s
 |[]=>DO sw rfl
 | c::r=>by
  rw[kT];split
  ·rename_i h;subst h;rw[Ly sw rfl sw];simp[DM r]
  ·rename_i h;rw[GK sw rfl (V2 h),DM r]
def fg:zB->Option (zB×Nat)
 |[]=>Q2
 |[c]=>if c=39 then Q1 ([],1)else Q2
 |c::d::r=>if c=39 then(if d=39 then(fg r).map λx=>(39::x.1,x.2+2)else Q1 ([],1))else(fg (d::r)).map λx=>(c::x.1,x.2+1)
theorem rU:∀(n:Nat)(s t:zB)(k:Nat),s.length<=n->fg s=Q1 (t,k)->1<=k/\k<=s.length/\Lib.replaceAll (s.take (k-1)) nI [39]=t
 |_,[],_,_,_,h=>by simp[fg]at h
 | _,[c],t,k,_,h=>by
  rw[fg]at h;split at h
  ·simp at h;obtain⟨rfl,rfl⟩:=h;exact⟨sw,sw,by simpa using DO sw rfl⟩
  ·simp at h
 |0,_::_::_,_,_,hn,_=>by simp at hn
 | n+1,c::d::r,t,k,hn,h=>by
  rw[fg]at h;split at h
  ·rename_i hc;split at h
   ·rename_i hd;simp only[eD]at h;obtain⟨⟨t',k'⟩,h1,h2⟩:=h;simp only[cB]at h2;obtain⟨rfl,rfl⟩:=h2;obtain⟨a1,a2,a3⟩:=rU n r t' k' (by simp at hn;omega) h1;refine⟨ow,sg,?_⟩;subst hc;subst hd;rw[show k'+2-1=(k'-1)+2 by omega,List.take_succ_cons,List.take_succ_cons,Ly sw rfl sw];simp[a3]
   ·simp at h;obtain⟨rfl,rfl⟩:=h;exact⟨sw,sw,by simpa using DO sw rfl⟩
  ·rename_i hc;simp only[eD]at h;obtain⟨⟨t',k'⟩,h1,h2⟩:=h;simp only[cB]at h2;obtain⟨rfl,rfl⟩:=h2;obtain⟨a1,a2,a3⟩:=rU n (d::r) t' k' (by simp at hn⊢;omega) h1;refine⟨ow,by simp at a2⊢;omega,?_⟩;rw[show k'+1-1=(k'-1)+1 by omega,List.take_succ_cons,GK sw rfl (V2 hc),a3]
theorem GO{c:UInt8}(hc:c≠39):∀r:zB,fg (c::r)=(fg r).map λx=>(c::x.1,x.2+1)
 |[]=>by simp[fg,hc]
 |d::r=>by rw[fg,if_neg hc]
theorem LJ(r:zB):fg (39::39::r)=(fg r).map λx=>(39::x.1,x.2+2):=by
 rw[fg,if_pos rfl,if_pos rfl]
theorem D1:∀r:zB,r.head?≠Q1 39->fg (39::r)=Q1 ([],1)
 |[],_=>by rw[fg,if_pos rfl]
 |d::r,h=>by rw[fg,if_pos rfl,if_neg (by simpa using h)]
theorem ce(s:zB){i:Nat}(h:i<s.length):s.getD ((i:Int).toNat) 0=s[i]:=by
 rw[aK,ba,zQ h,dp]
theorem sk{c:UInt8}:((c.toNat:Int)==39)=Q3↔c=39:=by
 rw[aZ];constructor
 ·intro h;exact UInt8.toNat_inj.1 (by show c.toNat=39;omega)
 ·rintro rfl;rfl
theorem ql:∀(n:Nat)(s:zB)(i:Nat)(a:Int)(b:zB),1<=i->i<=s.length->s.length+2<=n+i->s.length<=1000000000->
  fb n s (i:Int) a b=(match fg (s.drop i)with
   |none=>((0,[]),0)
   |some x=>((3,Lib.replaceAll (List.take (i+x.2-2) (List.drop 1 s)) nI [39]),((i+x.2:Nat):Int)))
 |0,s,i,a,b,h1,h2,h3,h4=>by omega
 | n + 1,s,i,a,b,h1,h2,h3,h4=>by
  rw[fb];by_cases hi:i<s.length
  ·rw[if_pos (zu (show(i:Int)<(s.length:Int) by omega)),ce s hi,qD i ow,fH hi];by_cases hq:s[i]=39
   ·rw[if_neg (by simp[bne,sk.2 hq]),hq];by_cases hj:i+1<s.length
    ·rw[fH hj,ce s hj,zu (show((i+1:Nat):Int)<(s.length:Int) by omega)];by_cases hq2:s[i+1]=39
     ·rw[if_pos (by simpa using sk.2 hq2),qD (i+1) ow,ql n s (i+1+1) a b ow ow ow h4,hq2,LJ];cases fg (s.drop (i+1+1))with
      |none=>rfl
      | some x=>
       simp only[yu];rw[show i+1+1+x.2=i+(x.2+2) by omega]
     ·rw[if_neg (by simpa using λh=>hq2 (sk.1 (by simpa using h))),D1 _ (by rw[List.head?_cons];exact λh=>hq2 (Option.some.inj h))];simp
    ·rw[BC (by omega:s.length<=i+1),ao (show¬((i+1:Nat):Int)<(s.length:Int) by omega),D1 _ sw];simp
   ·rw[if_pos (by simpa[bne]using λh=>hq (sk.1 (by simpa using h))),GO hq,ql n s (i+1) a b ow ow ow h4];cases fg (s.drop (i+1))with
    |none=>rfl
    | some x=>
     simp only[yu];rw[show i+1+x.2=i+(x.2+1) by omega]
  ·rw[if_neg sg,BC ow];rfl
def pL(c:UInt8)(r:zB):Sem bZ×Nat:=
 if aI c.toNat=Q3 then((1,(c::r).take (cN bt r+1)),cN bt r+1)
 else if zU c.toNat=Q3 then((2,(c::r).take (cN zU r+1)),cN zU r+1)
 else if c=39 then(match fg r with|none=>((0,[]),0)|some x=>((3,x.1),x.2+1))
 else((4,[c]),1)
theorem xr(c:UInt8)(r:zB)(hl:(c::r).length<=1000000000):bD (c::r)=((pL c r).1,((pL c r).2:Int)):=by
 have e1:aL aI bt (c::r)=if aI c.toNat=Q3 then cN bt r+1 else 0:=rfl
 have e2:aL zU zU (c::r)=if zU c.toNat=Q3 then cN zU r+1 else 0:=rfl
 unfold bD pL;by_cases h1:aI c.toNat=Q3
 ·rw[if_pos h1]at e1;simp[e1,h1]
 ·rw[if_neg h1]at e1;by_cases h2:zU c.toNat=Q3
  ·rw[if_pos h2]at e2;simp[e1,e2,h1,h2]
  ·rw[if_neg h2]at e2;by_cases h3:c=39
   ·have hq:=ql ((c::r).length+1) (c::r) 1 0 [] ow sw ow hl;have hqq:eh (c::r)=_:=hq;subst h3;have l39:aI 39=Q4:=rfl;have d39:zU 39=Q4:=rfl;cases hs:fg r with
    | none=>
     simp only[List.drop_succ_cons,List.drop_zero,hs]at hqq;simp[e1,e2,l39,d39,hqq]
    | some x=>
     obtain⟨k1,k2,k3⟩:=rU r.length r x.1 x.2 (ae _) hs;simp only[List.drop_succ_cons,List.drop_zero,hs]at hqq;rw[show 1+x.2-2=x.2-1 by omega,k3,oO 1]at hqq;simp[e1,e2,l39,d39,hqq]
   ·have h4:¬(c.toNat:Int)=39:=λh=>h3 (sk.1 (by simpa using h))
    simp[e1,e2,h1,h2,h3,h4]
def wM:Nat->zB->Nat->Bool
 |0,_,_=>Q4
 |_+1,[],k=>Q0 (k<=400)
 | n+1,c::r,k=>
  if(bif (c.toNat:Int)==32 then Q3 else(c.toNat:Int)==10)=Q3 then wM n r k
  else if cg (pL c r).1=Q3 then wM n ((c::r).drop (pL c r).2) (k+1)else Q4
theorem wN:∀(n:Nat)(s:zB)(k:Nat),400<k->wM n s k=Q4
 |0,_,_,_=>rfl
 |_+1,[],k,h=>by rw[wM];exact ao ow
 | n+1,c::r,k,h=>by
  rw[wM];split
  ·exact wN n r k h
  ·split
   ·exact wN n _ (k+1) ow
   ·rfl
theorem BY:∀(n:Nat)(s:zB)(i:Nat)(l:List (Sem zo)),i<=s.length->s.length+1<=n+i->s.length<=1000000000->l.length<=400->((uD n s (i:Int) l).2==(0:Int))=wM n (s.drop i) l.length
 |0,s,i,l,h1,h2,h3,h4=>by omega
 | n + 1,s,i,l,h1,h2,h3,h4=>by
  rw[uD];by_cases hlt:i<s.length
  ·have e1:List.take ((s.length:Int).toNat-(i:Int).toNat) (List.drop (i:Int).toNat s)=s.drop i:=by
    simp only[aK];exact Of sw
   have hdl:(s.drop i).length<=1000000000:=by simp;omega
   rw[if_pos (zu (show(i:Int)<(s.length:Int) by omega)),e1,ce s hlt,qD i ow];rw[fH hlt]at hdl⊢;rw[wM];split
   ·exact BY n s (i+1) l ow ow h3 h4
   ·rw[xr _ _ hdl];simp only;by_cases hm:cg (pL s[i] (s.drop (i+1))).1=Q3
    ·rw[if_pos hm];by_cases h5:l.length=400
     ·rw[if_pos (by rw[hm,h5];rfl),h5,wN n _ _ ow];rfl
     ·rw[if_neg (by rw[hm];simp;omega)];have hm':cg (bD (s[i]::s.drop (i+1))).1=Q3:=by rw[xr _ _ hdl];exact hm
      obtain⟨k,hk,hk1,hk2⟩:=wv _ (List.cons_ne_nil _ _) hdl hm';rw[xr _ _ hdl]at hk;have hk:(pL s[i] (s.drop (i+1))).2=k:=Int.ofNat.inj hk;have hk3:k<=s.length-i:=by rw[<-fH hlt]at hk2;simpa using hk2
      rw[hk,show((i:Int)+(k:Int))=((i+k:Nat):Int) by omega,W7 (i+k) ow,BY n s (i+k) _ ow ow h3 sg,<-fH hlt,Fe];simp
    ·rw[if_neg hm,if_pos (by simp[hm])];rfl
  ·rw[if_neg sg,BC ow];rw[wM];exact(zu h4).symm
theorem Tc(m:Nat):je [IntKind.u8.wrap (IntKind.i64.wrap (48-IntKind.i64.wrap (Int.tmod (-(m:Int)) 10)))]=[UInt8.ofNat (48+m%10)]:=by
 have e1:Int.tmod (-(m:Int)) 10=-((m%10:Nat):Int):=by rw[Int.neg_tmod];rfl
 have hlt:m%10<10:=Nat.mod_lt _ ow;have e2:IntKind.i64.wrap (-((m%10:Nat):Int))=-((m%10:Nat):Int):=by rw[gp];omega
 have e3:IntKind.i64.wrap (48- -((m%10:Nat):Int))=((48+m%10:Nat):Int):=by rw[gp];omega
 have e4:IntKind.u8.wrap ((48+m%10:Nat):Int)=((48+m%10:Nat):Int):=by rw[IntKind.wrap_u8];omega
 rw[e1,e2,e3,e4];rfl
theorem Y2(m:Nat)(h:m<=9223372036854775808):IntKind.i64.wrap (Int.tdiv (-(m:Int)) 10)=-((m/10:Nat):Int):=by
 have e1:Int.tdiv (-(m:Int)) 10=-((m/10:Nat):Int):=by rw[Int.neg_tdiv];rfl
 have:m/10<=m:=Nat.div_le_self _ _;rw[e1,gp];omega
theorem Tb:∀(f m:Nat)(s:zB),m<10^f->0<f->m<=9223372036854775808->(0<m\/s=[])->s.length+f<=1000->zX D9 (f+1) (.h2 (-(m:Int)) s) (.str (nL f m++s),[])
 |0,_,_,_,h,_,_,_=>by omega
 | f+1,m,s,hm,_,hb,h0,hs=>by
  have hv:(D9 (.h2 (-(m:Int)) s)).val=Q1 (.inl (.h2 (-((m/10:Nat):Int)) ([UInt8.ofNat (48+m%10)]++s))):=by
   show(D9 (.h2 _ _)).val=_;have c:(bif Q0 (LT.lt (α:=Int) (-(m:Int)) 0)then Q3 else s==[])=Q3:=by
    rcases h0 with h|h
    ·rw[zu ow];rfl
    ·subst h;cases Q0 (LT.lt (α:=Int) (-(m:Int)) 0)<;>rfl
   simp only[D9,Q8,Tc m,Y2 m hb,if_true];rw[if_pos c,if_pos (zu sg)]
  by_cases h10:m<10
  ·have e0:m/10=0:=by omega
   have e1:m%10=m:=by omega
   rw[e0,e1]at hv;have hd:nL (f+1) m=[UInt8.ofNat (48+m)]:=by rw[nL,if_pos h10]
   rw[hd];refine((zT.of hv).ends (k:=1) (zX.of ?_)).mono ow;show(D9 (.h2 _ _)).val=_;simp[D9,Q8]
  ·have hf:0<f:=by
    cases f with
    |zero=>simp at hm;omega
    |succ f=>omega
   have:=Tb f (m/10) ([UInt8.ofNat (48+m%10)]++s) (by rw[BI]at hm;omega) hf ow (.inl ow) sg;have hd:nL (f+1) m=nL f (m/10)++[UInt8.ofNat (48+m%10)]:=by rw[nL,if_neg h10]
   rw[hd,BG];exact(zT.of hv).ends this
theorem yV{m:Nat}(h:m<=9223372036854775808):rr (-(m:Int))=Q1 (nL 20 m,()):=by
 refine zy (s:=.h2 (-(m:Int)) []) rfl (Tb 20 m [] ow ow h (.inr rfl) sw) ow ?_;rw[yr];rfl
theorem B4:∀s:zB,(kT s).length<=2*s.length
 |[]=>by simp[kT]
 | c::r=>by
  have:=B4 r;rw[kT];split<;>simp<;>omega
theorem Fk(c:UInt8):∀s:zB,kT (s++[c])=kT s++(if c=39 then nI else[c])
 | []=>by
  show kT [c]=_;rw[kT,kT,kT];split<;>rfl
 | d::r=>by
  have:=Fk c r;show kT (d::(r++[c]))=_;rw[kT,kT,this];split<;>rfl
theorem zcR{α:Type}{l:List α}{i:Nat}(h:i<l.length):l.take (i+1)=l.take i++[l[i]]:=by
 rw[List.take_add_one,zQ h];rfl
theorem zgL{v:Sem zf}(hl:v.2.2.length<=1000000):zX wl (v.2.2.length*1+1) (.h13 [39] 0 (v,())) (.str ([39]++kT v.2.2++[39]),[]):=by
 have hg:=zT.all (t:=wl) 1 (λi=>.h13 ([39]++kT (v.2.2.take i)) (i:Int) (v,())) v.2.2.length (by
  intro i hi;refine zT.of ?_;have hd:=B4 (v.2.2.take i);have hd2:(kT (v.2.2.take i)).length<=2000000:=by simp at hd;omega
  have w1:IntKind.i64.wrap ((i:Int)+1)=((i+1:Nat):Int):=zr i um;have g1:(Q0 (0<=(i:Int))&&Q0 ((i:Int)<=((i+1:Nat):Int))&&Q0 (((i+1:Nat):Int)<=(↑(length v.2.2):Int)))=Q3:=by simp;omega
  have ht:List.take (((i+1:Nat):Int).toNat-(i:Int).toNat) (List.drop (i:Int).toNat v.2.2)=[v.2.2[i]]:=by
   rw[aK,aK,show i+1-i=1 by omega,fH hi];rfl
  show(wl (.h13 _ _ _)).val=_;simp only[wl,Q8,w1,g1,ht,zJ hi,zw hi,if_true,ce v.2.2 hi];rw[zcR hi,Fk,if_pos (zu sg)];by_cases h:v.2.2[i]=39
  ·rw[if_pos (sk.2 h),if_pos h,if_pos (zu sg),h];simp
  ·rw[if_neg (λh2=>h (sk.1 h2)),if_neg h];simp)
 have hd:=B4 v.2.2;have hv:(wl (.h13 ([39]++kT (v.2.2.take v.2.2.length)) (v.2.2.length:Int) (v,()))).val=Q1 (.inr (.str ([39]++kT v.2.2++[39]),[])):=by
  show(wl (.h13 _ _ _)).val=_;simp only[wl,Q8,zC,lN];simp;omega
 have:=hg.ends (zX.of hv);rw[oO]at this;exact this
theorem zad{v:Sem zf}(hm:bg v=Q3)(h0:v.1≠(0:Int))(h1:v.1≠(1:Int))(h2:v.1≠(2:Int)):(v.1==3)=Q3/\((ea v==2)=(v.2.1==1)):=by
 have b0:(v.1==0)=Q4:=bX.2 h0;have b1:(v.1==1)=Q4:=bX.2 h1;have b2:(v.1==2)=Q4:=bX.2 h2;have hm2:=hm;unfold bg at hm;rw[b0,b1,b2]at hm;simp only[zF,if_false]at hm;cases b3:(v.1==3)
 ·rw[b3]at hm;simp at hm
 ·rw[b3]at hm;refine⟨rfl,?_⟩;have h01:v.2.1=(0:Int)\/v.2.1=(1:Int):=by
   simp at hm;by_cases k:v.2.1=(0:Int)
   ·exact .inl k
   ·by_cases k2:v.2.1=(1:Int)
    ·exact .inr k2
    ·simp[k,k2]at hm
  unfold ea;rw[show(v.1!=3)=Q4 by simp[bne,b3],hm2];rcases h01 with h|h<;>rw[h]<;>rfl
theorem Gx{v:Sem zf}(hv:mj v):AY v=Q1 (iu v,()):=by
 obtain⟨hlo,hhi,hlen⟩:=hv;have hMC:=lq (v:=v) hlen;have hM:=oo (v:=v) hlen;by_cases hm:bg v=Q3
 ·have hn:(!bg v)=Q4:=by rw[hm];rfl
  by_cases h0:v.1=(0:Int)
  ·have b0:(v.1==0)=Q3:=aZ.2 h0;refine zH (r:=(.str ED,[])) ?_ ?_
   ·simp only[yM,Q8,hMC,hM,hn,b0,if_true];rfl
   ·unfold iu;rw[h0,hm];rfl
  have b0:(v.1==0)=Q4:=bX.2 h0;by_cases h1:v.1=(1:Int)
  ·have b1:(v.1==1)=Q3:=aZ.2 h1;have ht:iu v=sI v.2.1:=by
    unfold iu;rw[hn,if_neg sw,if_pos b1]
   rw[ht];unfold sI;by_cases hneg:LT.lt (α:=Int) v.2.1 0
   ·have hd:=yV (m:=v.2.1.natAbs) ow;rw[show -((v.2.1.natAbs:Nat):Int)=v.2.1 by omega]at hd;have c1:kF v.2.1=Q3:=by unfold kF;rw[hd];rfl
    have c2:ls v.2.1=nL 20 v.2.1.natAbs:=by unfold ls;rw[hd];rfl
    have hdl:=B3 20 v.2.1.natAbs;rw[if_pos hneg];refine zH (r:=(.str ([45]++nL 20 v.2.1.natAbs),[])) ?_ rfl;simp only[yM,Q8,hMC,hM,hn,b0,b1,zu hneg,c1,c2,if_true];rw[if_neg sw,if_neg sw,if_pos (zu sg)]
   ·have hd:=yV (m:=v.2.1.natAbs) ow;have hw:IntKind.i64.wrap (0-v.2.1)=-((v.2.1.natAbs:Nat):Int):=by rw[gp];omega
    have c1:kF (-((v.2.1.natAbs:Nat):Int))=Q3:=by unfold kF;rw[hd];rfl
    have c2:ls (-((v.2.1.natAbs:Nat):Int))=nL 20 v.2.1.natAbs:=by unfold ls;rw[hd];rfl
    rw[if_neg hneg];refine zH (r:=(.str (nL 20 v.2.1.natAbs),[])) ?_ rfl;simp only[yM,Q8,hMC,hM,hn,b0,b1,ao hneg,hw,c1,c2,if_true];rw[if_neg sw,if_neg sw,if_neg sw]
  have b1:(v.1==1)=Q4:=bX.2 h1;by_cases h2:v.1=(2:Int)
  ·have b2:(v.1==2)=Q3:=aZ.2 h2;have ht:iu v=[39]++kT v.2.2++[39]:=by
    unfold iu;rw[hn,if_neg sw,if_neg (by rw[b1];simp),if_pos b2,DM]
   rw[ht];have hg:zX wl (v.2.2.length*1+1) (.h13 [39] 0 (v,())) (.str ([39]++kT v.2.2++[39]),[]):=zgL (v:=v) hlen;refine zy (s:=.h13 [39] 0 (v,())) ?_ hg ow rfl;simp only[yM,Q8,hMC,hM,hn,b0,b1,b2,if_true];rfl
  ·have b2:(v.1==2)=Q4:=bX.2 h2;obtain⟨b3,hs⟩:=zad hm h0 h1 h2;have ht:iu v=if(v.2.1==1)=Q3 then G9 else G8:=by
    unfold iu;rw[hn,if_neg sw,if_neg (by rw[b1];simp),if_neg (by rw[b2];simp),if_pos b3,hs]
   rw[ht];by_cases h3:(v.2.1==1)=Q3
   ·rw[if_pos h3];refine zH (r:=(.str G9,[])) ?_ rfl;simp only[yM,Q8,hMC,hM,hn,b0,b1,b2,h3,if_true];rfl
   ·rw[if_neg h3];refine zH (r:=(.str G8,[])) ?_ rfl;have h3:(v.2.1==1)=Q4:=by simpa using h3
    simp only[yM,Q8,hMC,hM,hn,b0,b1,b2,h3,if_true];rfl
 ·have hm:bg v=Q4:=by simpa using hm
  refine zH (r:=(.str [],[])) ?_ ?_
  ·simp only[yM,Q8,hMC,hM,hm,if_true];rfl
  ·unfold iu;rw[hm];rfl
theorem Gw{v:Sem zf}(hv:mj v):ko v=Q3:=by unfold ko;rw[Gx hv];rfl
theorem K8{v:Sem zf}(hv:mj v):oq v=iu v:=by unfold oq;rw[Gx hv];rfl
theorem rD:∀(N d M:Nat)(e:ze),d<=12->d<=N->d<=M->bq d e=Q3->tc e->cJ N e=Q1 (aP M e,())/\(aP M e).length<=400*nE d e
 |_,0,_,_,_,_,_,h,_=>by cases h
 |0,d+1,_,_,_,h,_,_,_=>absurd h ow
 |_,d+1,0,_,_,_,h,_,_=>absurd h ow
 | N+1,d+1,M+1,e,h0,h1,h2,h,hw=>by
  rw[cJ];unfold Pp;cases fN h with
  | lit v hv=>
   rw[tc]at hw;have ht:aP (M+1) (.mk mH v [] [])=iu v:=rfl;have hl:=yh v;rw[ht];refine⟨zH (r:=(.str (iu v),[])) ?_ rfl,by simp[nE];omega⟩;have e2:(oS (λx0=>iL (cJ N x0)) (λx0=>(cJ N x0).isSome) (.mk mH v [] [])).val=if ko v=Q3 then Q1 (.inr (.str (oq v),[]))else Q2:=rfl
   rw[e2,Gw hw.1,K8 hw.1];rfl
  | col s hs hr=>
   have hl:=GX hs;have ht:aP (M+1) (.mk ee (0,0,[]) s [])=s:=rfl;rw[ht];exact⟨zH (r:=(.str s,[])) rfl rfl,by simp[nE];omega⟩
  | one op a ho ha=>
   rw[tc,kg]at hw;obtain⟨ka,la⟩:=rD N d M a ow ow ow ha hw.2.2.1;have hb:=sL d a ha;have p1:2^d<=2^12:=E8 ow ow;have hn:nE (d+1) (.mk op (0,0,[]) [] [a])=1+nE d a:=by simp[nE]
   rw[hn];generalize hg:(λx0=>iL (cJ N x0))=g;generalize hc:(λx0=>(cJ N x0).isSome)=c;have g1:g a=aP M a:=by rw[<-hg];show iL (cJ N a)=_;rw[ka];rfl
   have c1:c a=Q3:=by rw[<-hc];show(cJ N a).isSome=_;rw[ka];rfl
   rcases ho with rfl|rfl
   ·have ht:aP (M+1) (.mk mI (0,0,[]) [] [a])=uu++aP M a++[41]:=rfl;rw[ht];refine⟨zH (r:=(.str (uu++aP M a++[41]),[])) ?_ rfl,sg⟩;have e2:(oS g c (.mk mI (0,0,[]) [] [a])).val=if c (zm a)=Q3 then(if Q0 (uu.length+length (g (zm a))<=1099511627776)=Q3 then(if Q0 ((uu++g (zm a)).length+[41].length<=1099511627776)=Q3 then Q1 (.inr (.str (uu++g (zm a)++[41]),[]))else Q2)else Q2)else Q2:=rfl
    rw[e2,zk,c1,g1,if_pos rfl,if_pos (zu sg),if_pos (zu sg)]
   ·have ht:aP (M+1) (.mk oP (0,0,[]) [] [a])=[40]++aP M a++BO:=rfl;rw[ht];refine⟨zH (r:=(.str ([40]++aP M a++BO),[])) ?_ rfl,sg⟩;have e2:(oS g c (.mk oP (0,0,[]) [] [a])).val=if c (zm a)=Q3 then(if Q0 ([40].length+length (g (zm a))<=1099511627776)=Q3 then(if Q0 (([40]++g (zm a)).length+BO.length<=1099511627776)=Q3 then Q1 (.inr (.str ([40]++g (zm a)++BO),[]))else Q2)else Q2)else Q2:=rfl
    rw[e2,zk,c1,g1,if_pos rfl,if_pos (zu sg),if_pos (zu sg)]
  | two op a b ho ha hb=>
   rw[tc,kg,kg]at hw;obtain⟨ka,la⟩:=rD N d M a ow ow ow ha hw.2.2.1;obtain⟨kb,lb⟩:=rD N d M b ow ow ow hb hw.2.2.2.1;have ha2:=sL d a ha;have hb2:=sL d b hb;have p1:2^d<=2^12:=E8 ow ow;have hn:nE (d+1) (.mk op (0,0,[]) [] [a,b])=1+(nE d a+nE d b):=by simp[nE]
   rw[hn];generalize hg:(λx0=>iL (cJ N x0))=g;generalize hc:(λx0=>(cJ N x0).isSome)=c;have g1:g a=aP M a:=by rw[<-hg];show iL (cJ N a)=_;rw[ka];rfl
   have c1:c a=Q3:=by rw[<-hc];show(cJ N a).isSome=_;rw[ka];rfl
   have g2:g b=aP M b:=by rw[<-hg];show iL (cJ N b)=_;rw[kb];rfl
   have c2:c b=Q3:=by rw[<-hc];show(cJ N b).isSome=_;rw[kb];rfl
   have ht:∀w:zB,Lib.toUpperA op=w->tt (aP M) (gM M) (.mk op (0,0,[]) [] [a,b])=[40]++aP M a++[32]++w++[32]++aP M b++[41]:=by
    rintro w rfl;rcases ho with rfl|rfl|rfl|rfl|rfl|rfl<;>rfl
   have hx:aP (M+1) (.mk op (0,0,[]) [] [a,b])=tt (aP M) (gM M) (.mk op (0,0,[]) [] [a,b]):=rfl;rw[hx];rcases ho with rfl|rfl|rfl|rfl|rfl|rfl
   ·rw[ht SU rfl];refine⟨zH (r:=(.str ([40]++aP M a++Mk++aP M b++[41]),[])) ?_ (by simp[aM];rfl),sg⟩;have e2:(oS g c (.mk cY (0,0,[]) [] [a,b])).val=if c (zm a)=Q3 then(if Q0 ([40].length+length (g (zm a))<=1099511627776)=Q3 then(if Q0 (([40]++g (zm a)).length+Mk.length<=1099511627776)=Q3 then(if c (zm b)=Q3 then(if Q0 (([40]++g (zm a)++Mk).length+length (g (zm b))<=1099511627776)=Q3 then(if Q0 (([40]++g (zm a)++Mk++g (zm b)).length+[41].length<=1099511627776)=Q3 then Q1 (.inr (.str ([40]++g (zm a)++Mk++g (zm b)++[41]),[]))else Q2)else Q2)else Q2)else Q2)else Q2)else Q2:=rfl
    rw[e2,zk,zk,c1,c2,g1,g2,if_pos rfl,if_pos (zu sg),if_pos (zu sg),if_pos rfl,if_pos (zu sg),if_pos (zu sg)]
   ·rw[ht [79,82] rfl];refine⟨zH (r:=(.str ([40]++aP M a++Ml++aP M b++[41]),[])) ?_ (by simp[aM];rfl),sg⟩;have e2:(oS g c (.mk uw (0,0,[]) [] [a,b])).val=if c (zm a)=Q3 then(if Q0 ([40].length+length (g (zm a))<=1099511627776)=Q3 then(if Q0 (([40]++g (zm a)).length+Ml.length<=1099511627776)=Q3 then(if c (zm b)=Q3 then(if Q0 (([40]++g (zm a)++Ml).length+length (g (zm b))<=1099511627776)=Q3 then(if Q0 (([40]++g (zm a)++Ml++g (zm b)).length+[41].length<=1099511627776)=Q3 then Q1 (.inr (.str ([40]++g (zm a)++Ml++g (zm b)++[41]),[]))else Q2)else Q2)else Q2)else Q2)else Q2)else Q2:=rfl
    rw[e2,zk,zk,c1,c2,g1,g2,if_pos rfl,if_pos (zu sg),if_pos (zu sg),if_pos rfl,if_pos (zu sg),if_pos (zu sg)]
   ·rw[ht [61] rfl];refine⟨zH (r:=(.str ([40]++aP M a++[32]++[61]++[32]++aP M b++[41]),[])) ?_ rfl,sg⟩;have e2:(oS g c (.mk [61] (0,0,[]) [] [a,b])).val=if c (zm a)=Q3 then(if Q0 ([40].length+length (g (zm a))<=1099511627776)=Q3 then(if Q0 (([40]++g (zm a)).length+[32].length<=1099511627776)=Q3 then(if Q0 (([40]++g (zm a)++[32]).length+length [61]<=1099511627776)=Q3 then(if Q0 (([40]++g (zm a)++[32]++[61]).length+[32].length<=1099511627776)=Q3 then(if c (zm b)=Q3 then(if Q0 (([40]++g (zm a)++[32]++[61]++[32]).length+length (g (zm b))<=1099511627776)=Q3 then(if Q0 (([40]++g (zm a)++[32]++[61]++[32]++g (zm b)).length+[41].length<=1099511627776)=Q3 then Q1 (.inr (.str ([40]++g (zm a)++[32]++[61]++[32]++g (zm b)++[41]),[]))else Q2)else Q2)else Q2)else Q2)else Q2)else Q2)else Q2)else Q2:=rfl
    rw[e2,zk,zk,c1,c2,g1,g2,if_pos rfl,if_pos (zu sg),if_pos (zu sg),if_pos (zu sg),if_pos (zu sg),if_pos rfl,if_pos (zu sg),if_pos (zu sg)]
   ·rw[ht [60] rfl];refine⟨zH (r:=(.str ([40]++aP M a++[32]++[60]++[32]++aP M b++[41]),[])) ?_ rfl,sg⟩;have e2:(oS g c (.mk [60] (0,0,[]) [] [a,b])).val=if c (zm a)=Q3 then(if Q0 ([40].length+length (g (zm a))<=1099511627776)=Q3 then(if Q0 (([40]++g (zm a)).length+[32].length<=1099511627776)=Q3 then(if Q0 (([40]++g (zm a)++[32]).length+length [60]<=1099511627776)=Q3 then(if Q0 (([40]++g (zm a)++[32]++[60]).length+[32].length<=1099511627776)=Q3 then(if c (zm b)=Q3 then(if Q0 (([40]++g (zm a)++[32]++[60]++[32]).length+length (g (zm b))<=1099511627776)=Q3 then(if Q0 (([40]++g (zm a)++[32]++[60]++[32]++g (zm b)).length+[41].length<=1099511627776)=Q3 then Q1 (.inr (.str ([40]++g (zm a)++[32]++[60]++[32]++g (zm b)++[41]),[]))else Q2)else Q2)else Q2)else Q2)else Q2)else Q2)else Q2)else Q2:=rfl
    rw[e2,zk,zk,c1,c2,g1,g2,if_pos rfl,if_pos (zu sg),if_pos (zu sg),if_pos (zu sg),if_pos (zu sg),if_pos rfl,if_pos (zu sg),if_pos (zu sg)]
   ·rw[ht [43] rfl];refine⟨zH (r:=(.str ([40]++aP M a++[32]++[43]++[32]++aP M b++[41]),[])) ?_ rfl,sg⟩;have e2:(oS g c (.mk [43] (0,0,[]) [] [a,b])).val=if c (zm a)=Q3 then(if Q0 ([40].length+length (g (zm a))<=1099511627776)=Q3 then(if Q0 (([40]++g (zm a)).length+[32].length<=1099511627776)=Q3 then(if Q0 (([40]++g (zm a)++[32]).length+length [43]<=1099511627776)=Q3 then(if Q0 (([40]++g (zm a)++[32]++[43]).length+[32].length<=1099511627776)=Q3 then(if c (zm b)=Q3 then(if Q0 (([40]++g (zm a)++[32]++[43]++[32]).length+length (g (zm b))<=1099511627776)=Q3 then(if Q0 (([40]++g (zm a)++[32]++[43]++[32]++g (zm b)).length+[41].length<=1099511627776)=Q3 then Q1 (.inr (.str ([40]++g (zm a)++[32]++[43]++[32]++g (zm b)++[41]),[]))else Q2)else Q2)else Q2)else Q2)else Q2)else Q2)else Q2)else Q2:=rfl
    rw[e2,zk,zk,c1,c2,g1,g2,if_pos rfl,if_pos (zu sg),if_pos (zu sg),if_pos (zu sg),if_pos (zu sg),if_pos rfl,if_pos (zu sg),if_pos (zu sg)]
   ·rw[ht [45] rfl];refine⟨zH (r:=(.str ([40]++aP M a++[32]++[45]++[32]++aP M b++[41]),[])) ?_ rfl,sg⟩;have e2:(oS g c (.mk [45] (0,0,[]) [] [a,b])).val=if c (zm a)=Q3 then(if Q0 ([40].length+length (g (zm a))<=1099511627776)=Q3 then(if Q0 (([40]++g (zm a)).length+[32].length<=1099511627776)=Q3 then(if Q0 (([40]++g (zm a)++[32]).length+length [45]<=1099511627776)=Q3 then(if Q0 (([40]++g (zm a)++[32]++[45]).length+[32].length<=1099511627776)=Q3 then(if c (zm b)=Q3 then(if Q0 (([40]++g (zm a)++[32]++[45]++[32]).length+length (g (zm b))<=1099511627776)=Q3 then(if Q0 (([40]++g (zm a)++[32]++[45]++[32]++g (zm b)).length+[41].length<=1099511627776)=Q3 then Q1 (.inr (.str ([40]++g (zm a)++[32]++[45]++[32]++g (zm b)++[41]),[]))else Q2)else Q2)else Q2)else Q2)else Q2)else Q2)else Q2)else Q2:=rfl
    rw[e2,zk,zk,c1,c2,g1,g2,if_pos rfl,if_pos (zu sg),if_pos (zu sg),if_pos (zu sg),if_pos (zu sg),if_pos rfl,if_pos (zu sg),if_pos (zu sg)]
structure oN (t:Sem zp):Prop where
 name:zL t.1=Q3
 n1:1<=t.2.1.length
 n8:t.2.1.length<=8
 cols:∀i,i<t.2.1.length->zL (getD t.2.1 i (zj zi)).1=Q3/\LE.le (α:=Int) 1 (getD t.2.1 i (zj zi)).2.1/\LE.le (α:=Int) (getD t.2.1 i (zj zi)).2.1 3/\ag t.2.1 (getD t.2.1 i (zj zi)).1=(i:Int)
 uniq:∀u∈t.2.2.2.1,Es u t.2.1.length
 refs:∀f∈t.t.1,Es f.1 t.2.1.length/\zL f.2=Q3
 key:Es t.2.2.1 t.2.1.length
 nn:(getD t.2.1 (toNat t.2.2.1) (zj zi)).2.2=Q3
 chk:iR t.t.2 t.2.1=(0:Int)
theorem JO{t:Sem zp}{i:Nat}:Mp t i=Q3↔(zL (getD t.2.1 i (zj zi)).1=Q3/\LE.le (α:=Int) 1 (getD t.2.1 i (zj zi)).2.1/\LE.le (α:=Int) (getD t.2.1 i (zj zi)).2.1 3/\ag t.2.1 (getD t.2.1 i (zj zi)).1=(i:Int)):=by
 unfold Mp;have ep:zP t (getD t.2.1 i (zj zi)).1=ag t.2.1 (getD t.2.1 i (zj zi)).1:=rfl;rw[ep];generalize getD t.2.1 i (zj zi)=c;cases zL c.1
 ·simp
 ·by_cases h1:LT.lt (α:=Int) c.2.1 1
  ·rw[zu h1];simp;intro h;omega
  ·rw[ao h1];by_cases h2:GT.gt (α:=Int) c.2.1 3
   ·rw[zu h2];simp;intro _ h;omega
   ·rw[ao h2];exact⟨λh=>⟨rfl,ow,ow,by simpa using h⟩,λh=>by simpa using h.2.2.2⟩
theorem lD(t:Sem zp):eM t=Q3↔oN t:=by
 have h2:=xR (l:=t.2.2.2.1) (d:=zj zg) (p:=λu=>xu u (length t.2.1));simp only[pP]at h2;have h0:(!(bif !zL t.1 then Q3 else bif Q0 ((↑(length t.2.1):Int)<1)then Q3 else Q0 ((↑(length t.2.1):Int)>8)))=Q3↔(zL t.1=Q3/\1<=length t.2.1/\length t.2.1<=8):=by
  cases zL t.1
  ·simp
  ·by_cases h1:(↑(length t.2.1):Int)<1
   ·rw[zu h1];simp;omega
   ·rw[ao h1];simp;omega
 have h1:(List.range (length t.2.1)).all (Mp t)=Q3↔∀i,i<length t.2.1->Mp t i=Q3:=by
  rw[ei];simp only[pp]
 unfold eM;rw[aE,h0,aE,h1,aE,h2,aE,Lv,aE,pP,aE,aZ];exact⟨λ⟨⟨a,b,c⟩,d,e,f,g,i,j⟩=>⟨a,b,c,λk hk=>JO.1 (d k hk),e,f,g,i,j⟩,λh=>⟨⟨h.name,h.n1,h.n8⟩,λk hk=>JO.2 (h.cols k hk),h.uniq,h.refs,h.key,h.nn,h.chk⟩⟩
structure L5 (t:Sem zp):Prop where
 name:t.1.length<=1000000
 cols:∀c∈t.2.1,length c.1<=1000000
 ncols:t.2.1.length<=1000
 nuq:t.2.2.2.1.length<=1000
 nrf:t.t.1.length<=1000
 refs:∀f∈t.t.1,length f.2<=1000000
 chk:tc t.t.2
theorem Ot{b:Bool}{x p i:Int}:(bif !b then Q3 else bif Q0 (x<1)then Q3 else bif Q0 (x>3)then Q3 else p !=i)=Q4↔(b=Q3/\1<=x/\x<=3/\p=i):=by
 cases b
 ·simp
 ·by_cases h1:x<1
  ·rw[zu h1];simp;omega
  ·rw[ao h1];by_cases h2:x>3
   ·rw[zu h2];simp;omega
   ·rw[ao h2];exact⟨λh=>⟨rfl,ow,ow,by simpa using h⟩,λh=>by simpa using h.2.2.2⟩
theorem Pc{x:Int}{n:Nat}:(bif Q0 (x<0)then Q3 else Q0 (x>=(n:Int)))=Q3↔¬Es x n:=by
 unfold Es;by_cases h:x<0
 ·rw[zu h];simp;omega
 ·rw[ao h];simp;omega
theorem Lf{t:Sem zp}(hw:L5 t):If t=Q1 (eM t,()):=by
 have hiff:=lD t;have hn1:=hw.ncols;have hn2:=hw.nuq;have hn3:=hw.nrf;have no:∀r:az,r=(.kb Q4,[])->¬oN t->aM r.2 [Sh.bool] r.1=Q1 (eM t,()):=by
  intro r hr h;have:eM t=Q4:=by
   rcases zG (eM t)with c|c
   ·exact absurd (hiff.1 c) h
   ·exact c
  rw[hr,this];rfl
 have hi:(zfO t).val=if(bif !zL t.1 then true else bif decide ((t.2.1.length:Int)<1)then true else bif decide ((t.2.1.length:Int)>8)then true else bif decide (LT.lt (α:=Int) t.2.2.1 0)then true else bif decide (GE.ge (α:=Int) t.2.2.1 (t.2.1.length:Int))then true else !(getD t.2.1 (toNat t.2.2.1) (zj zi)).2.2)=true then some (.inr (.kb false,[]))else some (.inl (.h5 (t.2.1.length:Int) ((0:Nat):Int) (t,()))):=by
  simp only[zfO,Q8,bu hw.name,ff hw.name];rw[if_pos]
  ·rfl
  ·rcases zG (zL t.1)with c|c
   ·rw[c];by_cases k1:LT.lt (α:=Int) t.2.2.1 0
    ·rw[zu k1];cases Q0 ((t.2.1.length:Int)<1)<;>cases Q0 ((t.2.1.length:Int)>8)<;>rfl
    ·by_cases k2:GE.ge (α:=Int) t.2.2.1 (t.2.1.length:Int)
     ·rw[zu k2];cases Q0 ((t.2.1.length:Int)<1)<;>cases Q0 ((t.2.1.length:Int)>8)<;>cases Q0 (LT.lt (α:=Int) t.2.2.1 0)<;>rfl
     ·have:zO t.2.2.1 t.2.1.length=Q3:=uT ⟨ow,ow⟩;rw[this];cases Q0 ((t.2.1.length:Int)<1)<;>cases Q0 ((t.2.1.length:Int)>8)<;>cases Q0 (LT.lt (α:=Int) t.2.2.1 0)<;>cases Q0 (GE.ge (α:=Int) t.2.2.1 (t.2.1.length:Int))<;>rfl
   ·rw[c];rfl
 rcases zG (bif !zL t.1 then Q3 else bif Q0 ((t.2.1.length:Int)<1)then Q3 else bif Q0 ((t.2.1.length:Int)>8)then Q3 else bif Q0 (LT.lt (α:=Int) t.2.2.1 0)then Q3 else bif Q0 (GE.ge (α:=Int) t.2.2.1 (t.2.1.length:Int))then Q3 else !(getD t.2.1 (toNat t.2.2.1) (zj zi)).2.2)with c|c
 ·rw[if_pos c]at hi;refine zH hi (no _ rfl λh=>?_);obtain⟨k1,k2⟩:=h.key;have e1:=h.n1;have e2:=h.n8;rw[h.name,ao ow,ao ow,ao ow,ao ow,h.nn]at c;cases c
 rw[if_neg (by rw[c];simp)]at hi;have hname:zL t.1=Q3:=by
  rcases zG (zL t.1)with k|k
  ·exact k
  ·rw[k]at c;cases c
 rw[hname]at c;have h1:1<=t.2.1.length:=by
  by_cases k:(t.2.1.length:Int)<1
  ·rw[zu k]at c;cases c
  ·omega
 rw[ao (by omega:¬(t.2.1.length:Int)<1)]at c;have h8:t.2.1.length<=8:=by
  by_cases k:(t.2.1.length:Int)>8
  ·rw[zu k]at c;cases c
  ·omega
 rw[ao (by omega:¬(t.2.1.length:Int)>8)]at c;have hk0:LE.le (α:=Int) 0 t.2.2.1:=by
  by_cases k:LT.lt (α:=Int) t.2.2.1 0
  ·rw[zu k]at c;cases c
  ·omega
 rw[ao (by omega:¬LT.lt (α:=Int) t.2.2.1 0)]at c;have hkn:LT.lt (α:=Int) t.2.2.1 (t.2.1.length:Int):=by
  by_cases k:GE.ge (α:=Int) t.2.2.1 (t.2.1.length:Int)
  ·rw[zu k]at c;cases c
  ·omega
 rw[ao (by omega:¬GE.ge (α:=Int) t.2.2.1 (t.2.1.length:Int))]at c;have hnn:(getD t.2.1 (toNat t.2.2.1) (zj zi)).2.2=Q3:=by simpa using c
 have f5:=my (t:=sq) (Φ:=λr=>r=(.kb Q4,[])) 1 (λi=>.h5 (t.2.1.length:Int) (i:Int) (t,())) (λi=>zL (getD t.2.1 i (zj zi)).1=Q3/\LE.le (α:=Int) 1 (getD t.2.1 i (zj zi)).2.1/\LE.le (α:=Int) (getD t.2.1 i (zj zi)).2.1 3/\ag t.2.1 (getD t.2.1 i (zj zi)).1=(i:Int)) t.2.1.length (by
  intro i hi _;have hcl:=hw.cols _ (bK (d:=zj zi) hi);have hv:(sq (.h5 (t.2.1.length:Int) (i:Int) (t,()))).val=if(bif !zL (getD t.2.1 i (zj zi)).1 then Q3 else bif Q0 (LT.lt (α:=Int) (getD t.2.1 i (zj zi)).2.1 1)then Q3 else bif Q0 (GT.gt (α:=Int) (getD t.2.1 i (zj zi)).2.1 3)then Q3 else ag t.2.1 (getD t.2.1 i (zj zi)).1!=(i:Int))=Q3 then Q1 (.inr (.kb Q4,[]))else Q1 (.inl (.h5 (t.2.1.length:Int) ((i+1:Nat):Int) (t,()))):=by
   simp only[sq,Q8,zJ hi,zw hi,aK,bu hcl,ff hcl,jp (show t.2.1.length<=1000000 by omega),kG (show t.2.1.length<=1000000 by omega),if_true];rw[if_pos,zr i um];cases zL (getD t.2.1 i (zj zi)).1<;>cases Q0 (LT.lt (α:=Int) (getD t.2.1 i (zj zi)).2.1 1)<;>cases Q0 (GT.gt (α:=Int) (getD t.2.1 i (zj zi)).2.1 3)<;>rfl
  rcases zG (bif !zL (getD t.2.1 i (zj zi)).1 then Q3 else bif Q0 (LT.lt (α:=Int) (getD t.2.1 i (zj zi)).2.1 1)then Q3 else bif Q0 (GT.gt (α:=Int) (getD t.2.1 i (zj zi)).2.1 3)then Q3 else ag t.2.1 (getD t.2.1 i (zj zi)).1!=(i:Int))with c|c
  ·refine .inr ⟨λh=>?_,_,zX.of (by rw[hv,if_pos c]),rfl⟩;rw[Ot.2 h]at c;cases c
  ·exact .inl ⟨Ot.1 c,zT.of (by rw[hv,if_neg (by rw[c];simp)])⟩)
 rcases f5 with⟨p5,f5⟩|⟨p5,r,f5,hr⟩
 case inr=>exact zy hi f5 ow (no _ hr λh=>p5 h.cols)
 have v5:(sq (.h5 (t.2.1.length:Int) (t.2.1.length:Int) (t,()))).val=Q1 (.inl (.h11 (t.2.1.length:Int) ((0:Nat):Int) (t,()))):=by
  simp only[sq,Q8,zC];rfl
 have g11:=f5.trans (zT.of v5);have f11:=my (t:=sq) (Φ:=λr=>r=(.kb Q4,[])) 1 (λi=>.h11 (t.2.1.length:Int) (i:Int) (t,())) (λi=>Es (getD t.2.2.2.1 i (zj zg)) t.2.1.length) t.2.2.2.1.length (by
  intro i hi _;have hv:(sq (.h11 (t.2.1.length:Int) (i:Int) (t,()))).val=if(bif Q0 (LT.lt (α:=Int) (getD t.2.2.2.1 i (zj zg)) 0)then Q3 else Q0 (GE.ge (α:=Int) (getD t.2.2.2.1 i (zj zg)) (t.2.1.length:Int)))=Q3 then Q1 (.inr (.kb Q4,[]))else Q1 (.inl (.h11 (t.2.1.length:Int) ((i+1:Nat):Int) (t,()))):=by
   simp only[sq,Q8,zJ hi,zw hi,aK,if_true];rw[if_pos,zr i um];cases Q0 (LT.lt (α:=Int) (getD t.2.2.2.1 i (zj zg)) 0)<;>rfl
  by_cases h:Es (getD t.2.2.2.1 i (zj zg)) t.2.1.length
  ·exact .inl ⟨h,zT.of (by rw[hv,if_neg (by rw[ao (by have:=h.1;omega),ao (by have:=h.2;omega)];simp)])⟩
  ·refine .inr ⟨h,_,zX.of (by rw[hv,if_pos (Pc.2 h)]),rfl⟩)
 rcases f11 with⟨p11,f11⟩|⟨p11,r,f11,hr⟩
 case inr=>exact zy hi (g11.ends f11) ow (no _ hr λh=>p11 ((aw (Q:=λu=>Es u t.2.1.length)).2 h.uniq))
 have v11:(sq (.h11 (t.2.1.length:Int) (t.2.2.2.1.length:Int) (t,()))).val=Q1 (.inl (.h16 (t.2.1.length:Int) ((0:Nat):Int) (t,()))):=by
  simp only[sq,Q8,zC];rfl
 have g16:=(g11.trans f11).trans (zT.of v11);have f16:=my (t:=sq) (Φ:=λr=>r=(.kb Q4,[])) 1 (λi=>.h16 (t.2.1.length:Int) (i:Int) (t,())) (λi=>Es (getD t.t.1 i (zj zo)).1 t.2.1.length/\zL (getD t.t.1 i (zj zo)).2=Q3) t.t.1.length (by
  intro i hi _;have hcl:=hw.refs _ (bK (d:=zj zo) hi);have hv:(sq (.h16 (t.2.1.length:Int) (i:Int) (t,()))).val=if(bif Q0 (LT.lt (α:=Int) (getD t.t.1 i (zj zo)).1 0)then Q3 else bif Q0 (GE.ge (α:=Int) (getD t.t.1 i (zj zo)).1 (t.2.1.length:Int))then Q3 else !zL (getD t.t.1 i (zj zo)).2)=Q3 then Q1 (.inr (.kb Q4,[]))else Q1 (.inl (.h16 (t.2.1.length:Int) ((i+1:Nat):Int) (t,()))):=by
   simp only[sq,Q8,zJ hi,zw hi,aK,bu hcl,ff hcl,if_true];rw[if_pos,zr i um];cases Q0 (LT.lt (α:=Int) (getD t.t.1 i (zj zo)).1 0)<;>cases Q0 (GE.ge (α:=Int) (getD t.t.1 i (zj zo)).1 (t.2.1.length:Int))<;>rfl
  by_cases h:Es (getD t.t.1 i (zj zo)).1 t.2.1.length
  ·rcases zG (zL (getD t.t.1 i (zj zo)).2)with c|c
   ·exact .inl ⟨⟨h,c⟩,zT.of (by rw[hv,c,if_neg (by rw[ao (by have:=h.1;omega),ao (by have:=h.2;omega)];simp)])⟩
   ·exact .inr ⟨λh2=>(by rw[h2.2]at c;cases c),_,zX.of (by rw[hv,c,if_pos (by rw[ao (by have:=h.1;omega),ao (by have:=h.2;omega)];rfl)]),rfl⟩
  ·have hb:(bif Q0 (LT.lt (α:=Int) (getD t.t.1 i (zj zo)).1 0)then Q3 else bif Q0 (GE.ge (α:=Int) (getD t.t.1 i (zj zo)).1 (t.2.1.length:Int))then Q3 else !zL (getD t.t.1 i (zj zo)).2)=Q3:=by
    have:=Pc.2 h;rcases zG (Q0 (LT.lt (α:=Int) (getD t.t.1 i (zj zo)).1 0))with k|k
    ·rw[k];rfl
    ·rw[k]at this⊢;rw[show Q0 (GE.ge (α:=Int) (getD t.t.1 i (zj zo)).1 (t.2.1.length:Int))=Q3 from this];rfl
   exact .inr ⟨λh2=>h h2.1,_,zX.of (by rw[hv,if_pos hb]),rfl⟩)
 rcases f16 with⟨p16,f16⟩|⟨p16,r,f16,hr⟩
 case inr=>exact zy hi (g16.ends f16) ow (no _ hr λh=>p16 ((aw (Q:=λf:Sem zo=>Es f.1 t.2.1.length/\zL f.2=Q3)).2 h.refs))
 have hch:Dv t.t.2 t.2.1=Q3:=by unfold Dv;rw[Dw hw.chk ow];rfl
 have hcv:Ig t.t.2 t.2.1=iR t.t.2 t.2.1:=by unfold Ig;rw[Dw hw.chk ow];rfl
 have v16:(sq (.h16 (t.2.1.length:Int) (t.t.1.length:Int) (t,()))).val=Q1 (.inr (.bool (iR t.t.2 t.2.1==(0:Int)),[])):=by
  simp only[sq,Q8,zC,zk,hch,hcv];rfl
 refine zy hi (g16.ends (f16.ends (zX.of v16))) ow ?_;have:eM t=(iR t.t.2 t.2.1==(0:Int)):=by
  apply iY.2;rw[hiff];constructor
  ·intro h;rw[h.chk];rfl
  ·intro h;exact⟨hname,h1,h8,p5,(aw (Q:=λu=>Es u t.2.1.length)).1 p11,(aw (Q:=λf:Sem zo=>Es f.1 t.2.1.length/\zL f.2=Q3)).1 p16,⟨hk0,hkn⟩,hnn,bI h⟩
 rw[this];rfl
theorem m7{t:Sem zp}(hw:L5 t):xM t=Q3:=by unfold xM;rw[Lf hw];rfl
theorem rH{t:Sem zp}(hw:L5 t):GB t=eM t:=by unfold GB;rw[Lf hw];rfl
section
variable {σ:Type} {t:σ->Tr (σ⊕az)}
abbrev GI:az:=(.kb Q4,[])
theorem MG{α:Type}{la lb:List α}(st:Nat->σ)(hlen:la.length=lb.length)(hs:∀i(ha:i<la.length)(hb:i<lb.length),(la[i]=lb[i]->(t (st i)).val=Q1 (.inl (st (i+1))))/\(la[i]≠lb[i]->(t (st i)).val=Q1 (.inr GI))):
  (la=lb/\zT t la.length (st 0) (st la.length))\/(la≠lb/\zX t la.length (st 0) GI):=by
 rcases my (t:=t) (Φ:=λr=>r=GI) 1 st (λi=>la[i]?=lb[i]?) la.length (λi hi _=>by
  have hb:i<lb.length:=by omega
  obtain⟨h1,h2⟩:=hs i hi hb;rw[zQ hi,zQ hb];by_cases h:la[i]=lb[i]
  ·exact .inl ⟨by rw[h],zT.of (h1 h)⟩
  ·exact .inr ⟨λh3=>h (Option.some.inj h3),GI,zX.of (h2 h),rfl⟩)with⟨h1,h2⟩|⟨h1,r,h2,rfl⟩
 ·rw[Nat.mul_one]at h2;refine .inl ⟨Fb λi=>?_,h2⟩;by_cases hi:i<la.length
  ·exact h1 i hi
  ·rw[fy ow,fy ow]
 ·rw[Nat.mul_one]at h2;exact .inr ⟨λh=>h1 λi _=>by rw[h],h2⟩
end
theorem jy{α:Type}{a b:List α}:((a.length:Int)!=(b.length:Int))=Q3↔a.length≠b.length:=by
 simp[bne];omega
theorem Dr:∀(N:Nat)(a b:ze),si N a=Q3->∃r,bP N a b=Q1 (r,())/\(r=Q3↔a=b)
 |0,_,_,h=>by cases h
 | N + 1,.mk op v s l,.mk op' v' s' l',h=>by
  rw[si]at h;simp only[aE,aO,ei]at h;obtain⟨hl,ha⟩:=h;rw[bP];unfold H8
  have no:(CJ (λx0 x1=>gQ (bP N x0 x1)) (λx0 x1=>(bP N x0 x1).isSome) (.mk op v s l) (.mk op' v' s' l')).val=Q1 (.inr GI)->¬(ze.mk op v s l=ze.mk op' v' s' l')->
    ∃r,ah [Sh.bool] (I5 (λx0 x1=>gQ (bP N x0 x1)) (λx0 x1=>(bP N x0 x1).isSome)) 3000000000 (CJ (λx0 x1=>gQ (bP N x0 x1)) (λx0 x1=>(bP N x0 x1).isSome) (.mk op v s l) (.mk op' v' s' l'))=Q1 (r,())/\(r=Q3↔ze.mk op v s l=ze.mk op' v' s' l'):=by
   intro hv hne;exact⟨Q4,zH hv rfl,by simp[hne]⟩
  have hd:∀c:Bool,(bif !op==op' then Q3 else bif !(v.1==v'.1&&(v.2.1==v'.2.1&&(v.2.2==v'.2.2&&Q3)))then Q3 else bif !s==s' then Q3 else(↑l.length:Int)!=(↑l'.length:Int))=c->
    (CJ (λx0 x1=>gQ (bP N x0 x1)) (λx0 x1=>(bP N x0 x1).isSome) (.mk op v s l) (.mk op' v' s' l')).val=if c=Q3 then Q1 (.inr GI)else Q1 (.inl (.h4 ((0:Nat):Int) (.mk op v s l,()) (.mk op' v' s' l',()))):=by
   rintro c rfl;rfl
  by_cases e1:op=op';rotate_left
  ·exact no (by rw[hd Q3 (by rw[bX.2 e1];rfl)];rfl) (λh=>e1 (by injection h))
  by_cases e2:v=v';rotate_left
  ·refine no ?_ (λh=>e2 (by injection h));rw[hd Q3 ?_]
   ·rfl
   ·have:(v.1==v'.1&&(v.2.1==v'.2.1&&(v.2.2==v'.2.2&&Q3)))=Q4:=by
     rw[<-ib];intro h;simp at h;exact e2 (Prod.ext h.1 (Prod.ext h.2.1 h.2.2))
    rw[this];cases(op==op')<;>rfl
  by_cases e3:s=s';rotate_left
  ·refine no ?_ (λh=>e3 (by injection h));rw[hd Q3 ?_]
   ·rfl
   ·rw[bX.2 e3];cases(op==op')<;>cases(v.1==v'.1&&(v.2.1==v'.2.1&&(v.2.2==v'.2.2&&Q3)))<;>rfl
  by_cases e4:l.length=l'.length;rotate_left
  ·refine no ?_ (λh=>e4 (by injection h with _ _ _ h;rw[h]));rw[hd Q3 ?_]
   ·rfl
   ·rw[jy.2 e4];cases(op==op')<;>cases(v.1==v'.1&&(v.2.1==v'.2.1&&(v.2.2==v'.2.2&&Q3)))<;>cases(s==s')<;>rfl
  subst e1;subst e2;subst e3;have hv:=hd Q4 (by
   have:((↑l.length:Int)!=(↑l'.length:Int))=Q4:=by rw[<-ib,jy];exact λh=>h e4
   rw[this];simp)
  rw[if_neg sw]at hv
  rcases MG (t:=I5 (λx0 x1=>gQ (bP N x0 x1)) (λx0 x1=>(bP N x0 x1).isSome)) (la:=l) (lb:=l') (λi=>.h4 (i:Int) (.mk op v s l,()) (.mk op v s l',())) e4 (by
   intro i hi hi';obtain⟨r,hr,hiff⟩:=Dr N l[i] l'[i] (ha _ (bG hi));have g1:getD l (i:Int).toNat (zj Sh.expr)=l[i]:=af _ _ hi;have g2:getD l' (i:Int).toNat (zj Sh.expr)=l'[i]:=af _ _ hi';have hval:(I5 (λx0 x1=>gQ (bP N x0 x1)) (λx0 x1=>(bP N x0 x1).isSome) (.h4 (i:Int) (.mk op v s l,()) (.mk op v s l',()))).val=if(!r)=Q3 then Q1 (.inr GI)else Q1 (.inl (.h4 ((i+1:Nat):Int) (.mk op v s l,()) (.mk op v s l',()))):=by
    simp only[I5,I6,Bo,Q8,ze.l,zk,g1,g2,zw hi,zw hi',hr,Fa,if_true];rw[zr i um];show(if Q0 ((i:Int)<(l.length:Int))=Q3 then _ else _)=_;rw[if_pos (zu ow)];rfl
   rw[hval];refine⟨λh=>?_,λh=>?_⟩
   ·rw[if_neg (by rw[hiff.2 h];simp)]
   ·rw[if_pos];cases r
    ·rfl
    ·exact absurd (hiff.1 rfl) h)with⟨h1,h2⟩|⟨h1,h2⟩
  ·subst h1;refine⟨Q3,zy hv (h2.ends (zX.of (r:=(.kb Q3,[])) ?_)) ow rfl,sw⟩;simp only[I5,I6,Bo,Q8,ze.l];exact if_neg sw
  ·exact⟨Q4,zy hv h2 ow rfl,by simp[h1]⟩
theorem rB{a b:ze}(h:si 16 a=Q3):gP a b=Q3/\(fq a b=Q3↔a=b):=by
 obtain⟨r,h1,h2⟩:=Dr 16 a b h;have h1:A1 a b=Q1 (r,()):=h1;refine⟨by unfold gP;rw[h1];rfl,?_⟩;have:fq a b=r:=by unfold fq;rw[h1];rfl
 rw[this];exact h2
section
variable {σ:Type} {t:σ->Tr (σ⊕az)}
def Sk(t:σ->Tr (σ⊕az))(K:Nat)(nx:σ⊕az)(r:az):Prop:=match nx with
 |.inl h=>zX t K h r
 |.inr r'=>r'=r
theorem lR{α:Type}{la lb:List α}(st:Int->σ)(nx:σ⊕az)(e:Nat->Bool)(hval:∀i:Nat,i<=la.length->(t (st i)).val=if Q0 (LT.lt (α:=Int) (i:Int) (la.length:Int))=Q3 then(if zO (i:Int) la.length=Q3 then(if zO (i:Int) lb.length=Q3 then(if(!e i)=Q3 then Q1 (.inr GI)else Q1 (.inl (st (IntKind.i64.wrap ((i:Int)+1)))))else Q2)else Q2)else Q1 nx)
  (he:∀i(_:i<la.length)(ha:i<la.length)(hb:i<lb.length),e i=Q3↔la[i]=lb[i]) (hlen:la.length=lb.length) (hm:la.length<=1000000):
  (la=lb/\∀K r,Sk t K nx r->zX t (K+la.length+1) (st 0) r)\/(la≠lb/\zX t la.length (st 0) GI):=by
 rcases MG (t:=t) (la:=la) (lb:=lb) (λi=>st (i:Int)) hlen (λi ha hb=>by
  have hv:=hval i ow;rw[if_pos (zu ow),if_pos (zw ha),if_pos (zw hb),zr i um]at hv;have:=he i ha ha hb;refine⟨λh=>?_,λh=>?_⟩
  ·rw[hv,if_neg (by rw[this.2 h];simp)]
  ·rw[hv,if_pos];cases hh:e i
   ·rfl
   ·exact absurd (this.1 hh) h)with⟨h1,h2⟩|⟨h1,h2⟩
 ·refine .inl ⟨h1,λK r hr=>?_⟩;have hv:=hval la.length (ae _);rw[if_neg sw]at hv;unfold Sk at hr;cases nx with
  |inl h=>exact(h2.ends ((zT.of hv).ends hr)).mono ow
  |inr r'=>cases hr;exact(h2.ends (zX.of hv)).mono ow
 ·exact .inr ⟨h1,h2⟩
end
theorem S4(a b:Sem zi):(a.1==b.1&&(a.2.1==b.2.1&&(a.2.2==b.2.2&&Q3)))=Q3↔a=b:=by
 simp[Prod.ext_iff]
theorem znw(a b:Sem jb):(a.1==b.1&&(a.2==b.2&&Q3))=Q3↔a=b:=by
 simp[Prod.ext_iff]
theorem zfh(a b:Sem zo):(a.1==b.1&&(a.2==b.2&&Q3))=Q3↔a=b:=by
 simp[Prod.ext_iff]
theorem zgW(a b:Sem zf):(a.1==b.1&&(a.2.1==b.2.1&&(a.2.2==b.2.2&&Q3)))=Q3↔a=b:=by
 simp[Prod.ext_iff]
end Cad
