/- The document's writer: each Op. The document's tokens: the program's. The document's cutting of a text: it goes just if the program's does. -/
import Derived.Test.YtkmcdhahdadkpaaGreatDoorP15
import Derived.Test.YtkmcdhahdadkpaaGreatDoorP14
import Derived.Test.YtkmcdhahdadkpaaGreatDoorP11
import Derived.Test.YtkmcdhahdadkpaaGreatDoorP12
import Derived.Test.YtkmcdhahdadkpaaGreatDoorP13
namespace Cad
open Go Go.Proofs
open List renaming drop→Qh,take→Qg
open Tr renaming chk→Qc,«to»→Q9,val→Q8
open AO renaming box→Qa
open Sh renaming bool→Q7,str→Q6
open Bool renaming false→Q4,true→Q3
open Option renaming some→Q1
open Decidable renaming decide→Q0
open Int (toNat)
open List (getD length)
open Tr (chk br re)
open AV (nils agg tup ptr kb str sl)
noncomputable section
set_option maxHeartbeats 4000000
theorem Pd{s:Sem zk}(h:ol s)(o:s.1=[99,114,101,97,116,101]):∃r,(gG s).val=Q1 (.inr r)/\rF r:=by
 obtain⟨c1,c2,c3⟩:=bg h.chk h.cchk (w:=[]) sw;obtain⟨d1,d2,d3⟩:=bg h.whr h.cwhr (w:=[87,72,69,82,69]) sw;have ht:=h.sh.table;have hr:=h.sh.role;have ho:=h.sh.other;have hk:=h.sh.key;have q0:(s.1==[99,114,101,97,116,101])=Q3:=by rw[o];rfl
 simp only[gG,Q8,zl,c1,d1,q0,if_true];obtain⟨e1,e2⟩:=Lg h;have es:qr (s.1,s.2.1,s.2.2.1,s.2.2.2.1,s.t.1,s.t.2.1,s.t.q.1,s.t.q.2.1,s.t.t.1,s.t.t.2.1,s.t.t.q.1,s.t.t.q.2.1,s.t.t.t)=Q3:=e1;rw[if_pos es];refine⟨_,rfl,tB (ph s).1 (s.1,s.2.1,[],[],s.t.1,s.t.2.1,s.t.q.1,s.t.q.2.1,s.t.t.1,[],[],dh,[]) (ph s).2 ?_ ow (ea h (.inr rfl) (.inl rfl) (.inl rfl) (.inl rfl) (.inl rfl) (.inr rfl) (.inr rfl) (.inr rfl))⟩;obtain⟨s1,s2,s3,s4,s5,s6,s7,s8,⟨f1,f2,f3,f4⟩,s10,uu,⟨g1,g2,g3,g4⟩,s13⟩:=s;rfl
theorem WP{s:Sem zk}(h:ol s)(o:s.1=[100,114,111,112]):∃r,(gG s).val=Q1 (.inr r)/\rF r:=by
 obtain⟨c1,c2,c3⟩:=bg h.chk h.cchk (w:=[]) sw;obtain⟨d1,d2,d3⟩:=bg h.whr h.cwhr (w:=[87,72,69,82,69]) sw;have ht:=h.sh.table;have hr:=h.sh.role;have ho:=h.sh.other;have hk:=h.sh.key;have q0:(s.1==[99,114,101,97,116,101])=Q4:=by rw[o];rfl
 have q1:(s.1==[100,114,111,112])=Q3:=by rw[o];rfl
 simp only[gG,Q8,zl,c1,d1,q0,q1,if_true,zG,if_false];rw[if_pos (zt sg)];exact⟨_,rfl,tB _ (s.1,s.2.1,[],[],[],[],[],[],dh,[],[],dh,[]) Q3 rfl sg (ea h (.inr rfl) (.inr rfl) (.inr rfl) (.inr rfl) (.inr rfl) (.inr rfl) (.inr rfl) (.inr rfl))⟩
theorem Pe{s:Sem zk}(h:ol s)(o:s.1=[100,101,108,101,116,101]):∃r,(gG s).val=Q1 (.inr r)/\rF r:=by
 obtain⟨c1,c2,c3⟩:=bg h.chk h.cchk (w:=[]) sw;obtain⟨d1,d2,d3⟩:=bg h.whr h.cwhr (w:=[87,72,69,82,69]) sw;have ht:=h.sh.table;have hr:=h.sh.role;have ho:=h.sh.other;have hk:=h.sh.key;have q0:(s.1==[99,114,101,97,116,101])=Q4:=by rw[o];rfl
 have q1:(s.1==[100,114,111,112])=Q4:=by rw[o];rfl
 have q2:(s.1==[105,110,115,101,114,116])=Q4:=by rw[o];rfl
 have q3:(s.1==[117,112,100,97,116,101])=Q4:=by rw[o];rfl
 have q4:(s.1==[100,101,108,101,116,101])=Q3:=by rw[o];rfl
 simp only[gG,Q8,zl,c1,d1,q0,q1,q2,q3,q4,if_true,zG,if_false];rw[d2,if_pos (zt sg),if_pos (zt sg)];refine⟨_,rfl,tB ([68,69,76,69,84,69,32,70,82,79,77,32]++s.2.1++oD [87,72,69,82,69] s.t.t.q.2.1) (s.1,s.2.1,[],[],[],[],[],[],dh,[],[],s.t.t.q.2.1,[]) (bQ s.t.t.q.2.1) ?_ ?_ (ea h (.inr rfl) (.inr rfl) (.inr rfl) (.inr rfl) (.inr rfl) (.inr rfl) (.inr rfl) (.inl rfl))⟩;rotate_left 2
 ·obtain⟨s1,s2,s3,s4,s5,s6,s7,s8,⟨f1,f2,f3,f4⟩,s10,uu,⟨g1,g2,g3,g4⟩,s13⟩:=s;rfl
 ·simp;omega
theorem Pg{s:Sem zk}(h:ol s)(o:s.1=[115,101,108,101,99,116]):∃r,(gG s).val=Q1 (.inr r)/\rF r:=by
 obtain⟨c1,c2,c3⟩:=bg h.chk h.cchk (w:=[]) sw;obtain⟨d1,d2,d3⟩:=bg h.whr h.cwhr (w:=[87,72,69,82,69]) sw;have ht:=h.sh.table;have hr:=h.sh.role;have ho:=h.sh.other;have hk:=h.sh.key;have q0:(s.1==[99,114,101,97,116,101])=Q4:=by rw[o];rfl
 have q1:(s.1==[100,114,111,112])=Q4:=by rw[o];rfl
 have q2:(s.1==[105,110,115,101,114,116])=Q4:=by rw[o];rfl
 have q3:(s.1==[117,112,100,97,116,101])=Q4:=by rw[o];rfl
 have q4:(s.1==[100,101,108,101,116,101])=Q4:=by rw[o];rfl
 have q5:(s.1==[115,101,108,101,99,116])=Q3:=by rw[o];rfl
 simp only[gG,Q8,zl,c1,d1,q0,q1,q2,q3,q4,q5,if_true,zG,if_false];rw[d2,if_pos (zt sg),if_pos (zt sg)];refine⟨_,rfl,tB ([83,69,76,69,67,84,32,42,32,70,82,79,77,32]++s.2.1++oD [87,72,69,82,69] s.t.t.q.2.1) (s.1,s.2.1,[],[],[],[],[],[],dh,[],[],s.t.t.q.2.1,[]) (bQ s.t.t.q.2.1) ?_ ?_ (ea h (.inr rfl) (.inr rfl) (.inr rfl) (.inr rfl) (.inr rfl) (.inr rfl) (.inr rfl) (.inl rfl))⟩;rotate_left 2
 ·obtain⟨s1,s2,s3,s4,s5,s6,s7,s8,⟨f1,f2,f3,f4⟩,s10,uu,⟨g1,g2,g3,g4⟩,s13⟩:=s;rfl
 ·simp;omega
theorem WR{s:Sem zk}(h:ol s)(o:s.1=[114,101,97,100]):∃r,(gG s).val=Q1 (.inr r)/\rF r:=by
 obtain⟨c1,c2,c3⟩:=bg h.chk h.cchk (w:=[]) sw;obtain⟨d1,d2,d3⟩:=bg h.whr h.cwhr (w:=[87,72,69,82,69]) sw;have ht:=h.sh.table;have hr:=h.sh.role;have ho:=h.sh.other;have hk:=h.sh.key;have q0:(s.1==[99,114,101,97,116,101])=Q4:=by rw[o];rfl
 have q1:(s.1==[100,114,111,112])=Q4:=by rw[o];rfl
 have q2:(s.1==[105,110,115,101,114,116])=Q4:=by rw[o];rfl
 have q3:(s.1==[117,112,100,97,116,101])=Q4:=by rw[o];rfl
 have q4:(s.1==[100,101,108,101,116,101])=Q4:=by rw[o];rfl
 have q5:(s.1==[115,101,108,101,99,116])=Q4:=by rw[o];rfl
 have q6:(s.1==[99,111,112,121])=Q4:=by rw[o];rfl
 have q7:(s.1==[106,111,105,110])=Q4:=by rw[o];rfl
 have q8:(s.1==[103,114,111,117,112])=Q4:=by rw[o];rfl
 have q9:(s.1==[114,101,97,100])=Q3:=by rw[o];rfl
 simp only[gG,Q8,zl,c1,d1,q0,q1,q2,q3,q4,q5,q6,q7,q8,q9,if_true,zG,if_false];rw[if_pos (zt sg),if_pos (zt sg),if_pos (zt sg),if_pos (bv (s:=s.t.t.t) ow)];exact⟨_,rfl,tB _ (s.1,s.2.1,[],[],[],[],[],[],dh,[],[],dh,s.t.t.t) (bp s.t.t.t) rfl sg (ea h (.inr rfl) (.inr rfl) (.inr rfl) (.inr rfl) (.inr rfl) (.inr rfl) (.inr rfl) (.inr rfl))⟩
theorem TT{s:Sem zk}(h:ol s)(o:s.1=[119,114,105,116,101]):∃r,(gG s).val=Q1 (.inr r)/\rF r:=by
 obtain⟨c1,c2,c3⟩:=bg h.chk h.cchk (w:=[]) sw;obtain⟨d1,d2,d3⟩:=bg h.whr h.cwhr (w:=[87,72,69,82,69]) sw;have ht:=h.sh.table;have hr:=h.sh.role;have ho:=h.sh.other;have hk:=h.sh.key;have q0:(s.1==[99,114,101,97,116,101])=Q4:=by rw[o];rfl
 have q1:(s.1==[100,114,111,112])=Q4:=by rw[o];rfl
 have q2:(s.1==[105,110,115,101,114,116])=Q4:=by rw[o];rfl
 have q3:(s.1==[117,112,100,97,116,101])=Q4:=by rw[o];rfl
 have q4:(s.1==[100,101,108,101,116,101])=Q4:=by rw[o];rfl
 have q5:(s.1==[115,101,108,101,99,116])=Q4:=by rw[o];rfl
 have q6:(s.1==[99,111,112,121])=Q4:=by rw[o];rfl
 have q7:(s.1==[106,111,105,110])=Q4:=by rw[o];rfl
 have q8:(s.1==[103,114,111,117,112])=Q4:=by rw[o];rfl
 have q9:(s.1==[114,101,97,100])=Q4:=by rw[o];rfl
 have q10:(s.1==[119,114,105,116,101])=Q3:=by rw[o];rfl
 simp only[gG,Q8,zl,c1,d1,q0,q1,q2,q3,q4,q5,q6,q7,q8,q9,q10,if_true,zG,if_false];rw[if_pos (zt sg),if_pos (zt sg),if_pos (zt sg),if_pos (bv (s:=s.t.t.t) ow)];exact⟨_,rfl,tB _ (s.1,s.2.1,[],[],[],[],[],[],dh,[],[],dh,s.t.t.t) (bp s.t.t.t) rfl sg (ea h (.inr rfl) (.inr rfl) (.inr rfl) (.inr rfl) (.inr rfl) (.inr rfl) (.inr rfl) (.inr rfl))⟩
theorem Ph{s:Sem zk}(h:ol s)(o:s.1=[117,110,114,101,97,100]):∃r,(gG s).val=Q1 (.inr r)/\rF r:=by
 obtain⟨c1,c2,c3⟩:=bg h.chk h.cchk (w:=[]) sw;obtain⟨d1,d2,d3⟩:=bg h.whr h.cwhr (w:=[87,72,69,82,69]) sw;have ht:=h.sh.table;have hr:=h.sh.role;have ho:=h.sh.other;have hk:=h.sh.key;have q0:(s.1==[99,114,101,97,116,101])=Q4:=by rw[o];rfl
 have q1:(s.1==[100,114,111,112])=Q4:=by rw[o];rfl
 have q2:(s.1==[105,110,115,101,114,116])=Q4:=by rw[o];rfl
 have q3:(s.1==[117,112,100,97,116,101])=Q4:=by rw[o];rfl
 have q4:(s.1==[100,101,108,101,116,101])=Q4:=by rw[o];rfl
 have q5:(s.1==[115,101,108,101,99,116])=Q4:=by rw[o];rfl
 have q6:(s.1==[99,111,112,121])=Q4:=by rw[o];rfl
 have q7:(s.1==[106,111,105,110])=Q4:=by rw[o];rfl
 have q8:(s.1==[103,114,111,117,112])=Q4:=by rw[o];rfl
 have q9:(s.1==[114,101,97,100])=Q4:=by rw[o];rfl
 have q10:(s.1==[119,114,105,116,101])=Q4:=by rw[o];rfl
 have q11:(s.1==[117,110,114,101,97,100])=Q3:=by rw[o];rfl
 simp only[gG,Q8,zl,c1,d1,q0,q1,q2,q3,q4,q5,q6,q7,q8,q9,q10,q11,if_true,zG,if_false];rw[if_pos (zt sg),if_pos (zt sg),if_pos (zt sg),if_pos (bv (s:=s.t.t.t) ow)];exact⟨_,rfl,tB _ (s.1,s.2.1,[],[],[],[],[],[],dh,[],[],dh,s.t.t.t) (bp s.t.t.t) rfl sg (ea h (.inr rfl) (.inr rfl) (.inr rfl) (.inr rfl) (.inr rfl) (.inr rfl) (.inr rfl) (.inr rfl))⟩
theorem LP{s:Sem zk}(h:ol s)(o:s.1=[117,110,119,114,105,116,101]):∃r,(gG s).val=Q1 (.inr r)/\rF r:=by
 obtain⟨c1,c2,c3⟩:=bg h.chk h.cchk (w:=[]) sw;obtain⟨d1,d2,d3⟩:=bg h.whr h.cwhr (w:=[87,72,69,82,69]) sw;have ht:=h.sh.table;have hr:=h.sh.role;have ho:=h.sh.other;have hk:=h.sh.key;have q0:(s.1==[99,114,101,97,116,101])=Q4:=by rw[o];rfl
 have q1:(s.1==[100,114,111,112])=Q4:=by rw[o];rfl
 have q2:(s.1==[105,110,115,101,114,116])=Q4:=by rw[o];rfl
 have q3:(s.1==[117,112,100,97,116,101])=Q4:=by rw[o];rfl
 have q4:(s.1==[100,101,108,101,116,101])=Q4:=by rw[o];rfl
 have q5:(s.1==[115,101,108,101,99,116])=Q4:=by rw[o];rfl
 have q6:(s.1==[99,111,112,121])=Q4:=by rw[o];rfl
 have q7:(s.1==[106,111,105,110])=Q4:=by rw[o];rfl
 have q8:(s.1==[103,114,111,117,112])=Q4:=by rw[o];rfl
 have q9:(s.1==[114,101,97,100])=Q4:=by rw[o];rfl
 have q10:(s.1==[119,114,105,116,101])=Q4:=by rw[o];rfl
 have q11:(s.1==[117,110,114,101,97,100])=Q4:=by rw[o];rfl
 have q12:(s.1==[117,110,119,114,105,116,101])=Q3:=by rw[o];rfl
 simp only[gG,Q8,zl,c1,d1,q0,q1,q2,q3,q4,q5,q6,q7,q8,q9,q10,q11,q12,if_true,zG,if_false];rw[if_pos (zt sg),if_pos (zt sg),if_pos (zt sg),if_pos (bv (s:=s.t.t.t) ow)];exact⟨_,rfl,tB _ (s.1,s.2.1,[],[],[],[],[],[],dh,[],[],dh,s.t.t.t) (bp s.t.t.t) rfl sg (ea h (.inr rfl) (.inr rfl) (.inr rfl) (.inr rfl) (.inr rfl) (.inr rfl) (.inr rfl) (.inr rfl))⟩
theorem WQ{s:Sem zk}(h:ol s)(n0:s.1≠[99,114,101,97,116,101])(n1:s.1≠[100,114,111,112])(n2:s.1≠[105,110,115,101,114,116])(n3:s.1≠[117,112,100,97,116,101])(n4:s.1≠[100,101,108,101,116,101])(n5:s.1≠[115,101,108,101,99,116])(n6:s.1≠[99,111,112,121])(n7:s.1≠[106,111,105,110])(n8:s.1≠[103,114,111,117,112])(n9:s.1≠[114,101,97,100])(n10:s.1≠[119,114,105,116,101])(n11:s.1≠[117,110,114,101,97,100])(n12:s.1≠[117,110,119,114,105,116,101]):∃r,(gG s).val=Q1 (.inr r)/\rF r:=by
 obtain⟨c1,c2,c3⟩:=bg h.chk h.cchk (w:=[]) sw;obtain⟨d1,d2,d3⟩:=bg h.whr h.cwhr (w:=[87,72,69,82,69]) sw;have ht:=h.sh.table;have hr:=h.sh.role;have ho:=h.sh.other;have hk:=h.sh.key;have q0:(s.1==[99,114,101,97,116,101])=Q4:=bN.2 n0;have q1:(s.1==[100,114,111,112])=Q4:=bN.2 n1;have q2:(s.1==[105,110,115,101,114,116])=Q4:=bN.2 n2;have q3:(s.1==[117,112,100,97,116,101])=Q4:=bN.2 n3;have q4:(s.1==[100,101,108,101,116,101])=Q4:=bN.2 n4;have q5:(s.1==[115,101,108,101,99,116])=Q4:=bN.2 n5;have q6:(s.1==[99,111,112,121])=Q4:=bN.2 n6;have q7:(s.1==[106,111,105,110])=Q4:=bN.2 n7;have q8:(s.1==[103,114,111,117,112])=Q4:=bN.2 n8;have q9:(s.1==[114,101,97,100])=Q4:=bN.2 n9;have q10:(s.1==[119,114,105,116,101])=Q4:=bN.2 n10;have q11:(s.1==[117,110,114,101,97,100])=Q4:=bN.2 n11;have q12:(s.1==[117,110,119,114,105,116,101])=Q4:=bN.2 n12;simp only[gG,Q8,zl,c1,d1,q0,q1,q2,q3,q4,q5,q6,q7,q8,q9,q10,q11,q12,if_true,zG,if_false];exact⟨_,rfl,tB _ (s.1,s.2.1,[],[],[],[],[],[],dh,[],[],dh,[]) Q4 rfl sw (ea h (.inr rfl) (.inr rfl) (.inr rfl) (.inr rfl) (.inr rfl) (.inr rfl) (.inr rfl) (.inr rfl))⟩
def LK(s:Sem zk):zB:=[77,73,71,82,65,84,69,32,67,79,80,89,32]++s.2.1++[32,70,82,79,77,32]++s.2.2.1++[32,40,32]++Lib.join s.2.2.2.1 [32,44,32]++[32,41]++oD [] s.t.t.1
def kD(s:Sem zk):Bool:=(Q0 (∀x∈s.2.2.2.1,zK x=Q3)&&(Q0 (1<=s.2.2.2.1.length)&&Q0 (s.2.2.2.1.length<=8)))&&(bQ s.t.t.1&&zK s.2.2.1)
theorem Ny{s:Sem zk}(h:ol s)(o:s.1=[99,111,112,121]):∃t,dv s=Q1 (t,(s.1,s.2.1,s.2.2.1,s.2.2.2.1,[],[],[],[],s.t.t.1,[],[],dh,[]),kD s,())/\t.length<=900000/\(kD s=Q3->t=LK s):=by
 obtain⟨c1,c2,c3⟩:=bg h.chk h.cchk (w:=[]) sw;obtain⟨d1,d2,d3⟩:=bg h.whr h.cwhr (w:=[87,72,69,82,69]) sw;have ht:=h.sh.table;have hr:=h.sh.role;have ho:=h.sh.other;have hk:=h.sh.key;obtain⟨q0,q1,q2,q3,q4,q5,_,_,_,_,q6⟩:=We o;obtain⟨t,n1,n2,n3⟩:=Lm (l:=s.2.2.2.1) (by have:=h.sh.names.1;omega) h.sh.names.2;have n4:B3 s.2.2.2.1=Q3:=by unfold B3;rw[n1];rfl
 have n5:GG s.2.2.2.1=(t,(Q0 (∀x∈s.2.2.2.1,zK x=Q3)&&(Q0 (1<=s.2.2.2.1.length)&&Q0 (s.2.2.2.1.length<=8)))):=by unfold GG;rw[n1];rfl
 have w1:=bv (s:=s.2.2.1) ow;have w2:=eM (s:=s.2.2.1) ow;refine⟨[77,73,71,82,65,84,69,32,67,79,80,89,32]++s.2.1++[32,70,82,79,77,32]++s.2.2.1++[32,40,32]++t++[32,41]++oD [] s.t.t.1,?_,sg,?_⟩
 ·have hv:∃b,(gG s).val=Q1 (.inr (.tup [.str ([77,73,71,82,65,84,69,32,67,79,80,89,32]++s.2.1++[32,70,82,79,77,32]++s.2.2.1++[32,40,32]++t++[32,41]++oD [] s.t.t.1),.agg [.str s.1,.str s.2.1,.str s.2.2.1,.sl Q6 s.2.2.2.1,.nils,.str [],.nils,.nils,.str (ze.op s.t.t.1),.int .i64 (ze.v s.t.t.1).1,.int .i64 (ze.v s.t.t.1).2.1,.str (ze.v s.t.t.1).2.2,.str (ze.s s.t.t.1),
    .sl Sh.expr (ze.l s.t.t.1),.nils,.nils,.str [],.int .i64 0,.int .i64 0,.str [],.str [],.nils,.str []],b],[]))/\(b=.bool (kD s)\/(b=.kb Q4/\kD s=Q4)):=by
   unfold kD;simp only[gG,Q8,zl,c1,d1,q0,q1,q2,q3,q4,q5,q6,n4,n5,c2,w1,w2,if_true,zG,if_false]
   iterate 7 rw[if_pos (zt sg)]
   generalize(Q0 (∀x∈s.2.2.2.1,zK x=Q3)&&(Q0 (1<=s.2.2.2.1.length)&&Q0 (s.2.2.2.1.length<=8)))=b1;generalize bQ s.t.t.1=b2;cases b1
   ·exact⟨_,rfl,.inr ⟨rfl,rfl⟩⟩
   ·cases b2
    ·exact⟨_,rfl,.inr ⟨rfl,rfl⟩⟩
    ·exact⟨_,rfl,.inl rfl⟩
  obtain⟨b,hv,hb⟩:=hv;refine zN hv ?_;clear hv;obtain⟨s1,s2,s3,s4,s5,s6,s7,s8,⟨f1,f2,f3,f4⟩,s10,uu,⟨g1,g2,g3,g4⟩,s13⟩:=s;rcases hb with rfl|⟨rfl,hb⟩
  ·rfl
  ·rw[hb];rfl
 ·intro hk;have hall:∀x∈s.2.2.2.1,zK x=Q3:=by
   unfold kD at hk;simp only[aD,aP]at hk;exact hk.1.1
  rw[n3 hall];rfl
def py(s:Sem zk):zB:=[77,73,71,82,65,84,69,32,74,79,73,78,32]++s.2.1++[32,70,82,79,77,32]++s.2.2.1++[32,44,32]++s.t.t.t++[32,79,78,32]++s.t.2.1++oD [] s.t.t.1
def nf(s:Sem zk):Bool:=bQ s.t.t.1&&(zK s.2.2.1&&(zK s.t.t.t&&zK s.t.2.1))
theorem Nz{s:Sem zk}(h:ol s)(o:s.1=[106,111,105,110]):dv s=Q1 (py s,(s.1,s.2.1,s.2.2.1,[],[],s.t.2.1,[],[],s.t.t.1,[],[],dh,s.t.t.t),nf s,())/\(py s).length<=900000:=by
 obtain⟨c1,c2,c3⟩:=bg h.chk h.cchk (w:=[]) sw;obtain⟨d1,d2,d3⟩:=bg h.whr h.cwhr (w:=[87,72,69,82,69]) sw;have ht:=h.sh.table;have hr:=h.sh.role;have ho:=h.sh.other;have hk:=h.sh.key;obtain⟨q0,q1,q2,q3,q4,q5,_,_,_,_,q6,q7⟩:=Wf o;have w1:=bv (s:=s.2.2.1) ow;have w2:=eM (s:=s.2.2.1) ow;have w3:=bv (s:=s.t.t.t) ow;have w4:=eM (s:=s.t.t.t) ow;have w5:=bv (s:=s.t.2.1) ow;have w6:=eM (s:=s.t.2.1) ow;refine⟨?_,by unfold py;simp;omega⟩
 have hv:∃b,(gG s).val=Q1 (.inr (.tup [.str (py s),.agg [.str s.1,.str s.2.1,.str s.2.2.1,.nils,.nils,.str s.t.2.1,.nils,.nils,.str (ze.op s.t.t.1),.int .i64 (ze.v s.t.t.1).1,.int .i64 (ze.v s.t.t.1).2.1,.str (ze.v s.t.t.1).2.2,.str (ze.s s.t.t.1),
    .sl Sh.expr (ze.l s.t.t.1),.nils,.nils,.str [],.int .i64 0,.int .i64 0,.str [],.str [],.nils,.str s.t.t.t],b],[]))/\(b=.bool (nf s)\/(b=.kb Q4/\nf s=Q4)):=by
  unfold nf py;simp only[gG,Q8,zl,c1,d1,q0,q1,q2,q3,q4,q5,q6,q7,c2,w1,w2,w3,w4,w5,w6,if_true,zG,if_false]
  iterate 8 rw[if_pos (zt sg)]
  generalize bQ s.t.t.1=b1;generalize zK s.2.2.1=b2;generalize zK s.t.t.t=b3;cases b1
  ·exact⟨_,rfl,.inr ⟨rfl,rfl⟩⟩
  ·cases b2
   ·exact⟨_,rfl,.inr ⟨rfl,rfl⟩⟩
   ·cases b3
    ·exact⟨_,rfl,.inr ⟨rfl,rfl⟩⟩
    ·exact⟨_,rfl,.inl rfl⟩
 obtain⟨b,hv,hb⟩:=hv;refine zN hv ?_;clear hv;generalize py s=tx;obtain⟨s1,s2,s3,s4,s5,s6,s7,s8,⟨f1,f2,f3,f4⟩,s10,uu,⟨g1,g2,g3,g4⟩,s13⟩:=s;rcases hb with rfl|⟨rfl,hb⟩
 ·rfl
 ·rw[hb];rfl
def lE(s:Sem zk):zB:=[77,73,71,82,65,84,69,32,71,82,79,85,80,32]++s.2.1++[32,70,82,79,77,32]++s.2.2.1++[32,66,89,32]++s.2.2.2.1.getD 0 []++[32,83,85,77,32]++s.2.2.2.1.getD 1 []++oD [] s.t.t.1
def gv(s:Sem zk):Bool:=Q0 (s.2.2.2.1.length=2)&&(bQ s.t.t.1&&(zK s.2.2.1&&(zK (s.2.2.2.1.getD 0 [])&&zK (s.2.2.2.1.getD 1 []))))
theorem JW{s:Sem zk}(h:ol s)(o:s.1=[103,114,111,117,112]):∃t,dv s=Q1 (t,(s.1,s.2.1,s.2.2.1,s.2.2.2.1,[],[],[],[],s.t.t.1,[],[],dh,[]),gv s,())/\t.length<=900000/\(gv s=Q3->t=lE s):=by
 obtain⟨c1,c2,c3⟩:=bg h.chk h.cchk (w:=[]) sw;obtain⟨d1,d2,d3⟩:=bg h.whr h.cwhr (w:=[87,72,69,82,69]) sw;have ht:=h.sh.table;have hr:=h.sh.role;have ho:=h.sh.other;have hk:=h.sh.key;obtain⟨q0,q1,q2,q3,q4,q5,_,_,_,_,q6,q7,q8⟩:=SN o;have w1:=bv (s:=s.2.2.1) ow;have w2:=eM (s:=s.2.2.1) ow;by_cases hlen:s.2.2.2.1.length=2
 ·have l0:((↑(length s.2.2.2.1):Int)!=2)=Q4:=by rw[hlen];rfl
  have n0:(s.2.2.2.1.getD 0 []).length<=1000:=by
   rw[ba,zR ow,dq];exact h.sh.names.2 _ (bq _)
  have n1:(s.2.2.2.1.getD 1 []).length<=1000:=by
   rw[ba,zR ow,dq];exact h.sh.names.2 _ (bq _)
  have i0:zM 0 (length s.2.2.2.1)=Q3:=by rw[hlen];rfl
  have i1:zM 1 (length s.2.2.2.1)=Q3:=by rw[hlen];rfl
  have g0:getD s.2.2.2.1 (toNat 0) (zi Q6)=s.2.2.2.1.getD 0 []:=rfl;have g1:getD s.2.2.2.1 (toNat 1) (zi Q6)=s.2.2.2.1.getD 1 []:=rfl;have w3:=bv (s:=s.2.2.2.1.getD 0 []) ow;have w4:=eM (s:=s.2.2.2.1.getD 0 []) ow;have w5:=bv (s:=s.2.2.2.1.getD 1 []) ow;have w6:=eM (s:=s.2.2.2.1.getD 1 []) ow;refine⟨lE s,?_,by unfold lE;simp at n0 n1⊢;omega,λ_=>rfl⟩
  have hv:∃b,(gG s).val=Q1 (.inr (.tup [.str (lE s),.agg [.str s.1,.str s.2.1,.str s.2.2.1,.sl Q6 s.2.2.2.1,.nils,.str [],.nils,.nils,.str (ze.op s.t.t.1),.int .i64 (ze.v s.t.t.1).1,.int .i64 (ze.v s.t.t.1).2.1,.str (ze.v s.t.t.1).2.2,.str (ze.s s.t.t.1),
    .sl Sh.expr (ze.l s.t.t.1),.nils,.nils,.str [],.int .i64 0,.int .i64 0,.str [],.str [],.nils,.str []],b],[]))/\(b=.bool (gv s)\/(b=.kb Q4/\gv s=Q4)):=by
   unfold gv lE;rw[zt hlen];simp only[gG,Q8,zl,c1,d1,q0,q1,q2,q3,q4,q5,q6,q7,q8,c2,w1,w2,g0,g1,w3,w4,w5,w6,l0,i0,i1,if_true,zG,if_false];generalize s.2.2.2.1.getD 0 []=a0 at n0;generalize s.2.2.2.1.getD 1 []=a1 at n1
   iterate 8 rw[if_pos (zt sg)]
   generalize bQ s.t.t.1=b1;generalize zK s.2.2.1=b2;generalize zK a0=b3;cases b1
   ·exact⟨_,rfl,.inr ⟨rfl,rfl⟩⟩
   ·cases b2
    ·exact⟨_,rfl,.inr ⟨rfl,rfl⟩⟩
    ·cases b3
     ·exact⟨_,rfl,.inr ⟨rfl,rfl⟩⟩
     ·exact⟨_,rfl,.inl rfl⟩
  obtain⟨b,hv,hb⟩:=hv;refine zN hv ?_;clear hv;generalize lE s=tx;clear n0 n1 i0 i1 g0 g1 w3 w4 w5 w6;obtain⟨s1,s2,s3,s4,s5,s6,s7,s8,⟨f1,f2,f3,f4⟩,s10,uu,⟨g1,g2,g3,g4⟩,s13⟩:=s;rcases hb with rfl|⟨rfl,hb⟩
  ·rfl
  ·rw[hb];rfl
 ·have l0:((↑(length s.2.2.2.1):Int)!=2)=Q3:=by
   simp only[bne_iff_ne];omega
  have hok:gv s=Q4:=by unfold gv;rw[af hlen];rfl
  refine⟨[],?_,sw,λhh=>by rw[hok]at hh;cases hh⟩;rw[hok]
  refine zN (r:=(.tup [.str [],.agg [.str s.1,.str s.2.1,.str s.2.2.1,.sl Q6 s.2.2.2.1,.nils,.str [],.nils,.nils,.str (ze.op s.t.t.1),.int .i64 (ze.v s.t.t.1).1,.int .i64 (ze.v s.t.t.1).2.1,.str (ze.v s.t.t.1).2.2,.str (ze.s s.t.t.1),
    .sl Sh.expr (ze.l s.t.t.1),.nils,.nils,.str [],.int .i64 0,.int .i64 0,.str [],.str [],.nils,.str []],.kb Q4],[])) ?_ ?_
  ·simp only[gG,Q8,zl,c1,d1,q0,q1,q2,q3,q4,q5,q6,q7,q8,l0,if_true,zG,if_false]
  ·obtain⟨s1,s2,s3,s4,s5,s6,s7,s8,⟨f1,f2,f3,f4⟩,s10,uu,⟨g1,g2,g3,g4⟩,s13⟩:=s;rfl
theorem fJ{s:Sem zk}(h:∃r,(gG s).val=Q1 (.inr r)/\rF r):NN (dv s):=by
 obtain⟨r,h1,t,own,ok,h2,h3,h4⟩:=h;exact zi6 h1 h2 h3 h4
theorem CS{s:Sem zk}{st:yX}(h1:(gG s).val=Q1 (.inl st))(h2:∃r,cQ lS 100000000 st=Q1 r/\rF r):NN (dv s):=by
 obtain⟨r,h2,t,own,ok,h3,h4,h5⟩:=h2;refine⟨t,own,ok,?_,h4,h5⟩;unfold dv al cU;rw[h1];show(cQ lS 100000000 st).bind _=_;rw[h2];exact h3
theorem Pf{s:Sem zk}(h:ol s)(o:s.1=[105,110,115,101,114,116]):NN (dv s):=by
 obtain⟨c1,c2,c3⟩:=bg h.chk h.cchk (w:=[]) sw;obtain⟨d1,d2,d3⟩:=bg h.whr h.cwhr (w:=[87,72,69,82,69]) sw;have ht:=h.sh.table;have hr:=h.sh.role;have ho:=h.sh.other;have hk:=h.sh.key;have q0:(s.1==[99,114,101,97,116,101])=Q4:=by rw[o];rfl
 have q1:(s.1==[100,114,111,112])=Q4:=by rw[o];rfl
 have q2:(s.1==[105,110,115,101,114,116])=Q3:=by rw[o];rfl
 refine CS ?_ (zlJ h);simp only[gG,Q8,zl,c1,d1,q0,q1,q2,if_true,zG,if_false]
theorem Pi{s:Sem zk}(h:ol s)(o:s.1=[117,112,100,97,116,101]):NN (dv s):=by
 obtain⟨c1,c2,c3⟩:=bg h.chk h.cchk (w:=[]) sw;obtain⟨d1,d2,d3⟩:=bg h.whr h.cwhr (w:=[87,72,69,82,69]) sw;have ht:=h.sh.table;have hr:=h.sh.role;have ho:=h.sh.other;have hk:=h.sh.key;have q0:(s.1==[99,114,101,97,116,101])=Q4:=by rw[o];rfl
 have q1:(s.1==[100,114,111,112])=Q4:=by rw[o];rfl
 have q2:(s.1==[105,110,115,101,114,116])=Q4:=by rw[o];rfl
 have q3:(s.1==[117,112,100,97,116,101])=Q3:=by rw[o];rfl
 refine CS ?_ (zlK h (oD [87,72,69,82,69] s.t.t.q.2.1) (bQ s.t.t.q.2.1) d3);simp only[gG,Q8,zl,c1,d1,d2,q0,q1,q2,q3,if_true,zG,if_false]
theorem Ln{s:Sem zk}(h:ol s):NN (dv s):=by
 by_cases n0:s.1=[99,114,101,97,116,101]
 ·exact fJ (Pd h n0)
 by_cases n1:s.1=[100,114,111,112]
 ·exact fJ (WP h n1)
 by_cases n2:s.1=[105,110,115,101,114,116]
 ·exact Pf h n2
 by_cases n3:s.1=[117,112,100,97,116,101]
 ·exact Pi h n3
 by_cases n4:s.1=[100,101,108,101,116,101]
 ·exact fJ (Pe h n4)
 by_cases n5:s.1=[115,101,108,101,99,116]
 ·exact fJ (Pg h n5)
 by_cases n6:s.1=[99,111,112,121]
 ·obtain⟨t,h1,h2,_⟩:=Ny h n6;exact⟨t,_,_,h1,h2,ea h (.inl rfl) (.inr rfl) (.inr rfl) (.inr rfl) (.inl rfl) (.inr rfl) (.inr rfl) (.inr rfl)⟩
 by_cases n7:s.1=[106,111,105,110]
 ·obtain⟨h1,h2⟩:=Nz h n7;exact⟨_,_,_,h1,h2,ea h (.inr rfl) (.inr rfl) (.inr rfl) (.inr rfl) (.inl rfl) (.inr rfl) (.inr rfl) (.inr rfl)⟩
 by_cases n8:s.1=[103,114,111,117,112]
 ·obtain⟨t,h1,h2,_⟩:=JW h n8;exact⟨t,_,_,h1,h2,ea h (.inl rfl) (.inr rfl) (.inr rfl) (.inr rfl) (.inl rfl) (.inr rfl) (.inr rfl) (.inr rfl)⟩
 by_cases n9:s.1=[114,101,97,100]
 ·exact fJ (WR h n9)
 by_cases n10:s.1=[119,114,105,116,101]
 ·exact fJ (TT h n10)
 by_cases n11:s.1=[117,110,114,101,97,100]
 ·exact fJ (Ph h n11)
 by_cases n12:s.1=[117,110,119,114,105,116,101]
 ·exact fJ (LP h n12)
 exact fJ (WQ h n0 n1 n2 n3 n4 n5 n6 n7 n8 n9 n10 n11 n12)
theorem YO(p:Int->Bool):∀s:zB,cG p s=s.length↔∀c∈s,p c.toNat=Q3
 |[]=>by simp[cG]
 | c::r=>by
  have h1:=ye p r;have h2:=YO p r;rw[cG];by_cases h:p c.toNat=Q3
  ·rw[if_pos h];simp[h,h2]
  ·rw[if_neg h];simp[h]
theorem zlA(p:Int->Bool)(s:zB):aK p p s=s.length↔∀c∈s,p c.toNat=Q3:=by
 cases s with
 |nil=>simp[aK]
 | cons c r=>
  have h1:=ye p r;have h2:=YO p r;rw[aK];by_cases h:p c.toNat=Q3
  ·rw[if_pos h];simp[h,h2]
  ·rw[if_neg h];simp[h]
theorem Wz:∀s:zB,(bif (↑(length s):Int)==1 then Q0 (0<=Lib.indexByte [40,41,44,61,60,43,45,42] (List.headD s 0))else Q4)=
  (bif s==[40]then Q3 else bif s==[41]then Q3 else bif s==[44]then Q3 else bif s==[61]then Q3 else bif s==[60]then Q3 else bif s==[43]then Q3 else bif s==[45]then Q3 else s==[42])
 |[]=>rfl
 | a::b::r=>by
  have e:((((a::b::r).length:Nat):Int)==1)=Q4:=bN.2 sg;rw[e];simp
 | [c]=>by
  by_cases h1:c=40
  ·subst h1;rfl
  by_cases h2:c=41
  ·subst h2;rfl
  by_cases h3:c=44
  ·subst h3;rfl
  by_cases h4:c=61
  ·subst h4;rfl
  by_cases h5:c=60
  ·subst h5;rfl
  by_cases h6:c=43
  ·subst h6;rfl
  by_cases h7:c=45
  ·subst h7;rfl
  by_cases h8:c=42
  ·subst h8;rfl
  simp[Lib.indexByte,h1,h2,h3,h4,h5,h6,h7,h8,Ne.symm h1,Ne.symm h2,Ne.symm h3,Ne.symm h4,Ne.symm h5,Ne.symm h6,Ne.symm h7,Ne.symm h8]
theorem Jn{t:Sem bW}(hl:t.2.length<=1000000):GC t=Q1 (bZ t,()):=by
 obtain⟨k,s⟩:=t;have hl:s.length<=1000000:=hl;by_cases k1:k=(1:Int)
 ·subst k1;refine zN (r:=(.bool (dP s),[])) ?_ ?_
  ·simp only[Iv,Q8,wm hl,BX hl];rfl
  ·rfl
 by_cases k2:k=(2:Int)
 ·subst k2;have hi:(Iv ((2,s):Sem bW)).val=Q1 (.inl (.h6 ((0:Nat):Int) ((2,s),()))):=rfl;have hf:=lH (t:=Cx) (Φ:=λr=>r=(.kb Q4,[])) 1 (λi=>.h6 (i:Int) ((2,s),())) (λi=>zU (getD s i 0).toNat=Q3) s.length (by
   intro i hi _;have hv:(Cx (.h6 (i:Int) ((2,s),()))).val=if(!zU (getD s i 0).toNat)=Q3 then Q1 (.inr (.kb Q4,[]))else Q1 (.inl (.h6 ((i+1:Nat):Int) ((2,s),()))):=by
    show(Cx (.h6 _ _)).val=_;unfold Cx;simp only[Q8,zH hi,zu hi,aJ,eC,fG,if_true];rw[zp i um]
   by_cases h:zU (getD s i 0).toNat=Q3
   ·exact .inl ⟨h,zQ.of (by rw[hv,if_neg (by rw[h];simp)])⟩
   ·exact .inr ⟨h,_,zT.of (by rw[hv,if_pos (by simpa using h)]),rfl⟩)
  have hq:=aq (l:=s) (d:=0) (Q:=λc=>zU c.toNat=Q3);have hr:=zlA zU s;have ht:bZ ((2,s):Sem bW)=(bif Q0 ((↑(length s):Int)>=1)then bif Q0 ((↑(length s):Int)<=19)then(↑(aK zU zU s):Int)==(↑(length s):Int)else Q4 else Q4):=rfl;rw[ht];rcases hf with⟨h1,h2⟩|⟨h1,r,h2,rfl⟩
  ·have e:((↑(aK zU zU s):Int)==(↑(length s):Int))=Q3:=by rw[hr.2 (hq.1 h1)];simp
   rw[e];refine zx hi (h2.ends (zT.of (r:=(.bool (bif Q0 (1<=(s.length:Int))then Q0 ((s.length:Int)<=19)else Q4),[])) ?_)) ow ?_
   ·show(Cx (.h6 _ _)).val=_;unfold Cx;simp only[Q8,zA];rfl
   ·show Q1 _=Q1 _;rw[show Q0 ((↑(length s):Int)>=1)=Q0 (1<=(s.length:Int))from rfl];cases Q0 ((s.length:Int)<=19)<;>rfl
  ·have e:((↑(aK zU zU s):Int)==(↑(length s):Int))=Q4:=by
    rw[bN];intro h;exact h1 (hq.2 (hr.1 ow))
   rw[e];refine zx hi h2 ow ?_;show Q1 _=Q1 _;cases Q0 ((↑(length s):Int)>=1)<;>cases Q0 ((↑(length s):Int)<=19)<;>rfl
 by_cases k3:k=(3:Int)
 ·subst k3;refine zN (r:=(.bool (aW (2,0,s)),[])) ?_ ?_
  ·simp only[Iv,Q8,kH (v:=(2,0,s)) hl,nj (v:=(2,0,s)) hl];rfl
  ·rfl
 by_cases k4:k=(4:Int)
 ·subst k4;have hs:=Wz s;refine zN (r:=(.bool _,[])) rfl ?_;show Q1 _=Q1 _;rw[show bZ ((4,s):Sem bW)=_ from hs]
 have b1:(k==1)=Q4:=bN.2 k1;have b2:(k==2)=Q4:=bN.2 k2;have b3:(k==3)=Q4:=bN.2 k3;have b4:(k==4)=Q4:=bN.2 k4;have c1:((1:Int)==k)=Q4:=bN.2 (Ne.symm k1);have c2:((2:Int)==k)=Q4:=bN.2 (Ne.symm k2);have ht:bZ ((k,s):Sem bW)=Q4:=by
  unfold bZ;simp[b3,b4,c1,c2]
 rw[ht];refine zN (r:=(.kb Q4,[])) ?_ rfl;simp only[Iv,Q8,b1,b2,b3,b4];rfl
theorem ue{t:Sem bW}(hl:t.2.length<=1000000):io t=Q3:=by unfold io;rw[Jn hl];rfl
theorem yz{t:Sem bW}(hl:t.2.length<=1000000):lA t=bZ t:=by unfold lA;rw[Jn hl];rfl
abbrev rG:=Option (List (Sem zr))
abbrev oL(o:rG):List (Sem zr):=o.getD []
abbrev VD(s:zB)(i:Int):rG->dY
 |none=>.h3 s i
 |some l=>.h3b s i l
abbrev Rf(s:zB)(i c f:Int)(z:zn [CP.d zr]):rG->dY
 |none=>.h11 s i c f z
 |some l=>.h11b s i c f z l
abbrev Rg(s:zB)(i c f:Int)(z:zn [CP.d zr]):rG->dY
 |none=>.h15 s i c f z
 |some l=>.h15b s i c f z l
abbrev KG(s:zB)(i:Int)(z:zn [CP.d zr]):rG->dY
 |none=>.h20 s i z
 |some l=>.h20b s i z l
abbrev rNo:aw:=(.tup [.nils,.kb Q4],[])
def PD(r:aw)(b:Bool):Prop:=∃l,aL r.2 [Sh.sl zr,Q7] r.1=Q1 (l,b,())
theorem Tk:PD rNo Q4:=⟨[],rfl⟩
def Ka(s:zB)(j:Nat)(t:Sem bW)(o:rG):dY⊕aw:=if bZ t=Q3 then .inl (VD s (j:Int) (Q1 (oL o++[t])))else .inr rNo
theorem jw(s:zB){j:Nat}(h:j<s.length):Qg (((j+1:Nat):Int).toNat-(j:Int).toNat) (Qh (j:Int).toNat s)=[s[j]]:=by
 rw[aJ,aJ,show j+1-j=1 by omega,fk h];rfl
theorem v20{s:zB}{j:Nat}{acc:zB}(hl:s.length<=1000000)(hj:j<s.length)(ha:acc.length<=1000000):∀{o:rG},(oL o).length<=1000000->(cL (KG s (j:Int) ((3,acc),()) o)).val=Q1 (
  if s[j]≠39 then .inl (KG s ((j+1:Nat):Int) ((3,acc++[s[j]]),()) o)
  else if s[j+1]?=Q1 39 then .inl (KG s ((j+2:Nat):Int) ((3,acc++[39]),()) o)
  else Ka s (j+1) (3,acc) o):=by
 intro o ho;have w1:IntKind.i64.wrap ((j:Int)+1)=((j+1:Nat):Int):=zp j um;have w2:IntKind.i64.wrap (((j+1:Nat):Int)+1)=((j+2:Nat):Int):=zp (j+1) um;have g1:(Q0 (0<=(j:Int))&&Q0 ((j:Int)<=((j+1:Nat):Int))&&Q0 (((j+1:Nat):Int)<=(↑(length s):Int)))=Q3:=by simp;omega
 have g2:Q0 ((↑(length s):Int)<=(j:Int))=Q4:=af ow;have g3:Q0 ((j:Int)>=(↑(length s):Int))=Q4:=af ow;have hM:lA ((3,acc):Sem zr)=bZ ((3,acc):Sem bW):=yz (t:=((3,acc):Sem bW)) ha;have hMC:io ((3,acc):Sem zr)=Q3:=ue (t:=((3,acc):Sem bW)) ha;have hS:(acc.length+[s[j]].length<=1099511627776):=by simp;omega
 by_cases c1:s[j]=39
 ·have b1:((↑s[j].toNat:Int)!=39)=Q4:=by simp[bne,qT.2 c1]
  have b2:((↑s[j].toNat:Int)==39)=Q3:=qT.2 c1;by_cases c2:s[j+1]?=Q1 39
  ·obtain⟨hj1,c3⟩:=cW.1 c2;have b3:((↑s[j+1].toNat:Int)==39)=Q3:=qT.2 c3;have d1:Q0 (((j+1:Nat):Int)<(↑(length s):Int))=Q3:=zt ow;rw[if_neg (by simpa using c1),if_pos c2];cases o with
   | none=>
    show(cL (.h20 _ _ _)).val=_;simp only[cL,w1,w2,bY s hj,jw s hj,zH hj,zu hj,zu hj1,d1,b1,b2,b3,bY s hj1,Q8,ay,aN,dl,if_true,g1,zt hS];rw[c1]
   | some l=>
    show(cL (.h20b _ _ _ _)).val=_;simp only[cL,w1,w2,bY s hj,jw s hj,zH hj,zu hj,zu hj1,d1,b1,b2,b3,bY s hj1,Q8,ay,aN,dl,if_true,g1,zt hS];rw[c1]
  ·rw[if_neg (by simpa using c1),if_neg c2];have e:(bif Q0 (((j+1:Nat):Int)<(↑(length s):Int))then(↑(getD s ((j+1:Nat):Int).toNat 0).toNat:Int)==39 else Q4)=Q4:=by
    by_cases hj1:j+1<s.length
    ·rw[zt ow,bY s hj1];simp only[ay];rw[<-gg,qT];intro h;exact c2 (cW.2 ⟨hj1,h⟩)
    ·rw[af ow];rfl
   have e2:(bif Q0 (((j+1:Nat):Int)<(↑(length s):Int))then zM ((j+1:Nat):Int) (length s)else Q3)=Q3:=by
    by_cases hj1:j+1<s.length
    ·rw[zu hj1];cases Q0 (((j+1:Nat):Int)<(↑(length s):Int))<;>rfl
    ·rw[af ow];rfl
   unfold Ka;cases o with
   | none=>
    show(cL (.h20 _ _ _)).val=_;simp only[cL,w1,w2,bY s hj,jw s hj,zH hj,zu hj,b1,b2,e,e2,Q8,ay,aN,dl,if_true,zG,if_false,g3,hMC,hM];by_cases m:bZ ((3,acc):Sem bW)=Q3
    ·simp[m]
    ·simp[m]
   | some l=>
    have hl2:(l.length+[((3,acc):Sem zr)].length<=1073741824):=by have:l.length<=1000000:=ho;simp;omega
    show(cL (.h20b _ _ _ _)).val=_;simp only[cL,w1,w2,bY s hj,jw s hj,zH hj,zu hj,b1,b2,e,e2,Q8,ay,aN,dl,if_true,zG,if_false,g3,hMC,hM,zt hl2];by_cases m:bZ ((3,acc):Sem bW)=Q3
    ·simp[m]
    ·simp[m]
 ·have b1:((↑s[j].toNat:Int)!=39)=Q3:=by simp only[bne,wK];rw[<-gg,qT];exact c1
  have b2:((↑s[j].toNat:Int)==39)=Q4:=by rw[<-gg,qT];exact c1
  rw[if_pos c1];cases o with
  | none=>
   show(cL (.h20 _ _ _)).val=_;simp only[cL,w1,w2,bY s hj,jw s hj,zH hj,zu hj,b1,b2,Q8,ay,dl,if_true,zG,if_false,g1,zt hS]
  | some l=>
   show(cL (.h20b _ _ _ _)).val=_;simp only[cL,w1,w2,bY s hj,jw s hj,zH hj,zu hj,b1,b2,Q8,ay,dl,if_true,zG,if_false,g1,zt hS]
theorem zlI{s:zB}{acc:zB}:∀{o:rG},(cL (KG s (s.length:Int) ((3,acc),()) o)).val=Q1 (.inr rNo):=by
 intro o;have g3:Q0 ((↑(length s):Int)>=(↑(length s):Int))=Q3:=zt (Int.le_refl _);cases o with
 | none=>
  show(cL (.h20 _ _ _)).val=_;simp only[cL,zA,Q8,aN,if_true,zG,if_false,g3]
 | some l=>
  show(cL (.h20b _ _ _ _)).val=_;simp only[cL,zA,Q8,aN,if_true,zG,if_false,g3]
theorem l20{s:zB}{o:rG}(hl:s.length<=1000000)(ho:(oL o).length<=1000000):∀(n j:Nat)(acc:zB),s.length-j<=n->j<=s.length->acc.length<=j->
  (eO (s.drop j)=none->zT cL (n+1) (KG s (j:Int) ((3,acc),()) o) rNo)/\
  (∀t k,eO (s.drop j)=Q1 (t,k)->∀K r,(match Ka s (j+k) (3,acc++t) o with|.inl h=>zT cL K h r|.inr r'=>r'=r)->zT cL (K+k) (KG s (j:Int) ((3,acc),()) o) r)
 | n, j,acc,hn,hj,ha=>by
  by_cases hlt:j<s.length
  ·have hv:=v20 (o:=o) (acc:=acc) hl hlt ow ho;rw[fk hlt];by_cases c1:s[j]=39
   ·rw[if_neg (by simpa using c1)]at hv;by_cases c2:s[j+1]?=Q1 39
    ·rw[if_pos c2]at hv;obtain⟨hj1,c3⟩:=cW.1 c2;obtain⟨n,rfl⟩:∃m,n=m+1:=⟨n-1,ow⟩;obtain⟨i1,i2⟩:=l20 hl ho n (j+2) (acc++[39]) ow ow sg;rw[fk hj1,c1,c3,JG,show j+1+1=j+2 from rfl];refine⟨λh=>?_,λt k h K r hr=>?_⟩
     ·rw[Option.map_eq_none_iff]at h;exact((zQ.of hv).ends (i1 h))
     ·rw[dZ]at h;obtain⟨⟨t',k'⟩,h1,h2⟩:=h;simp only[cr]at h2;obtain⟨rfl,rfl⟩:=h2;have:=i2 t' k' h1 K r (by rw[Af];rw[show j+2+k'=j+(k'+2) by omega];exact hr);exact((zQ.of hv).ends this).mono ow
    ·rw[if_neg c2]at hv;rw[c1,Co _ (by rw[List.head?_drop];exact c2)];refine⟨λh=>(by cases h),λt k h K r hr=>?_⟩;simp only[bB,cr]at h;obtain⟨rfl,rfl⟩:=h;rw[wN]at hr;revert hv hr;cases Ka s (j+1) (3,acc) o with
     |inl h=>intro hv hr;exact(zQ.of hv).ends hr
     |inr r'=>intro hv hr;cases hr;exact(zT.of hv).mono ow
   ·rw[if_pos c1]at hv;obtain⟨n,rfl⟩:∃m,n=m+1:=⟨n-1,ow⟩;obtain⟨i1,i2⟩:=l20 hl ho n (j+1) (acc++[s[j]]) ow ow sg;rw[E5 c1];refine⟨λh=>?_,λt k h K r hr=>?_⟩
    ·rw[Option.map_eq_none_iff]at h;exact((zQ.of hv).ends (i1 h))
    ·rw[dZ]at h;obtain⟨⟨t',k'⟩,h1,h2⟩:=h;simp only[cr]at h2;obtain⟨rfl,rfl⟩:=h2;have:=i2 t' k' h1 K r (by rw[Af];rw[show j+1+k'=j+(k'+1) by omega];exact hr);exact((zQ.of hv).ends this).mono ow
  ·obtain rfl:j=s.length:=by omega
   rw[jh];exact⟨λ_=>(zT.of zlI).mono ow,λt k h=>(by simp[eO]at h)⟩
theorem zlF{s:zB}{j:Nat}{c f:Int}{z:zn [CP.d zr]}(hl:s.length<=1000000)(hj:j<s.length)(hp:bt s[j].toNat=Q3):∀{o:rG},(cL (Rf s (j:Int) c f z o)).val=Q1 (.inl (Rf s ((j+1:Nat):Int) c f z o)):=by
 intro o;have w1:IntKind.i64.wrap ((j:Int)+1)=((j+1:Nat):Int):=zp j um;cases o with
 | none=>
  show(cL (.h11 _ _ _ _ _)).val=_;simp only[cL,bY s hj,zH hj,zu hj,qy,ui,hp,w1,Q8,ay,nK,if_true]
 | some l=>
  show(cL (.h11b _ _ _ _ _ _)).val=_;simp only[cL,bY s hj,zH hj,zu hj,qy,ui,hp,w1,Q8,ay,nK,if_true]
theorem zlE{s:zB}{j f:Nat}{c:UInt8}{z:zn [CP.d zr]}(hl:s.length<=1000000)(hj:j<=s.length)(hf:f<=j)(hp:∀h:j<s.length,bt s[j].toNat=Q4)(h1:zU c.toNat=Q4)(h2:c≠39):
  ∀{o:rG},(oL o).length<=1000000->(cL (Rf s (j:Int) (c.toNat:Int) (f:Int) z o)).val=Q1 (Ka s j (1,Qg (j-f) (Qh f s)) o):=by
 intro o ho;have e1:(bif Q0 ((j:Int)<(↑(length s):Int))then zM (j:Int) (length s)&&qw (↑(getD s (j:Int).toNat 0).toNat:Int)else Q3)=Q3:=by
  by_cases h:j<s.length
  ·rw[zu h,qy];cases Q0 ((j:Int)<(↑(length s):Int))<;>rfl
  ·rw[af ow];rfl
 have e2:(bif Q0 ((j:Int)<(↑(length s):Int))then wn (↑(getD s (j:Int).toNat 0).toNat:Int)else Q4)=Q4:=by
  by_cases h:j<s.length
  ·rw[bY s h,ui,hp h];cases Q0 ((j:Int)<(↑(length s):Int))<;>rfl
  ·rw[af ow];rfl
 have g1:(Q0 (0<=(f:Int))&&Q0 ((f:Int)<=(j:Int))&&Q0 ((j:Int)<=(↑(length s):Int)))=Q3:=by simp;omega
 have b2:((c.toNat:Int)==39)=Q4:=by rw[<-gg,qT];exact h2
 have hlen:(Qg (j-f) (Qh f s)).length<=1000000:=by simp;omega
 have hM:lA ((1,Qg (j-f) (Qh f s)):Sem zr)=bZ (1,Qg (j-f) (Qh f s)):=yz (t:=((1,Qg (j-f) (Qh f s)):Sem bW)) hlen;have hMC:io ((1,Qg (j-f) (Qh f s)):Sem zr)=Q3:=ue (t:=((1,Qg (j-f) (Qh f s)):Sem bW)) hlen;unfold Ka;cases o with
 | none=>
  show(cL (.h11 _ _ _ _ _)).val=_;simp only[cL,e1,e2,g1,eC,fG,h1,b2,Q8,if_true,zG,if_false];simp only[aJ,hMC,hM,if_true];generalize Qg (j-f) (Qh f s)=T;by_cases m:bZ (1,T)=Q3
  ·simp[m]
  ·simp[m]
 | some l=>
  have hl2:(l.length+[((1,Qg (j-f) (Qh f s)):Sem zr)].length<=1073741824):=by have:l.length<=1000000:=ho;simp;omega
  show(cL (.h11b _ _ _ _ _ _)).val=_;simp only[cL,e1,e2,g1,eC,fG,h1,b2,Q8,if_true,zG,if_false];simp only[aJ,hMC,hM,zt hl2,if_true];generalize Qg (j-f) (Qh f s)=T;by_cases m:bZ (1,T)=Q3
  ·simp[m]
  ·simp[m]
theorem zlH{s:zB}{j:Nat}{c f:Int}{z:zn [CP.d zr]}(hl:s.length<=1000000)(hj:j<s.length)(hp:zU s[j].toNat=Q3):∀{o:rG},(cL (Rg s (j:Int) c f z o)).val=Q1 (.inl (Rg s ((j+1:Nat):Int) c f z o)):=by
 intro o;have w1:IntKind.i64.wrap ((j:Int)+1)=((j+1:Nat):Int):=zp j um;cases o with
 | none=>
  show(cL (.h15 _ _ _ _ _)).val=_;simp only[cL,bY s hj,zH hj,zu hj,eC,fG,hp,w1,Q8,ay,nK,if_true]
 | some l=>
  show(cL (.h15b _ _ _ _ _ _)).val=_;simp only[cL,bY s hj,zH hj,zu hj,eC,fG,hp,w1,Q8,ay,nK,if_true]
theorem zlG{s:zB}{j f:Nat}{c:UInt8}{z:zn [CP.d zr]}(hl:s.length<=1000000)(hj:j<=s.length)(hf:f<=j)(hp:∀h:j<s.length,zU s[j].toNat=Q4)(h2:c≠39):
  ∀{o:rG},(oL o).length<=1000000->(cL (Rg s (j:Int) (c.toNat:Int) (f:Int) z o)).val=Q1 (Ka s j (2,Qg (j-f) (Qh f s)) o):=by
 intro o ho;have e1:(bif Q0 ((j:Int)<(↑(length s):Int))then zM (j:Int) (length s)&&fx (↑(getD s (j:Int).toNat 0).toNat:Int)else Q3)=Q3:=by
  by_cases h:j<s.length
  ·rw[zu h,eC];cases Q0 ((j:Int)<(↑(length s):Int))<;>rfl
  ·rw[af ow];rfl
 have e2:(bif Q0 ((j:Int)<(↑(length s):Int))then gA (↑(getD s (j:Int).toNat 0).toNat:Int)else Q4)=Q4:=by
  by_cases h:j<s.length
  ·rw[bY s h,fG,hp h];cases Q0 ((j:Int)<(↑(length s):Int))<;>rfl
  ·rw[af ow];rfl
 have g1:(Q0 (0<=(f:Int))&&Q0 ((f:Int)<=(j:Int))&&Q0 ((j:Int)<=(↑(length s):Int)))=Q3:=by simp;omega
 have b2:((c.toNat:Int)==39)=Q4:=by rw[<-gg,qT];exact h2
 have hlen:(Qg (j-f) (Qh f s)).length<=1000000:=by simp;omega
 have hM:lA ((2,Qg (j-f) (Qh f s)):Sem zr)=bZ (2,Qg (j-f) (Qh f s)):=yz (t:=((2,Qg (j-f) (Qh f s)):Sem bW)) hlen;have hMC:io ((2,Qg (j-f) (Qh f s)):Sem zr)=Q3:=ue (t:=((2,Qg (j-f) (Qh f s)):Sem bW)) hlen;unfold Ka;cases o with
 | none=>
  show(cL (.h15 _ _ _ _ _)).val=_;simp only[cL,e1,e2,g1,b2,Q8,if_true,zG,if_false];simp only[aJ,hMC,hM,if_true];generalize Qg (j-f) (Qh f s)=T;by_cases m:bZ (2,T)=Q3
  ·simp[m]
  ·simp[m]
 | some l=>
  have hl2:(l.length+[((2,Qg (j-f) (Qh f s)):Sem zr)].length<=1073741824):=by have:l.length<=1000000:=ho;simp;omega
  show(cL (.h15b _ _ _ _ _ _)).val=_;simp only[cL,e1,e2,g1,b2,Q8,if_true,zG,if_false];simp only[aJ,hMC,hM,zt hl2,if_true];generalize Qg (j-f) (Qh f s)=T;by_cases m:bZ (2,T)=Q3
  ·simp[m]
  ·simp[m]
theorem FU{p:Int->Bool}{s:zB}(st:Nat->dY)(hs:∀j(hj:j<s.length),p s[j].toNat=Q3->(cL (st j)).val=Q1 (.inl (st (j+1)))):∀(n j:Nat),s.length-j<=n->j<=s.length->
  zQ cL (cG p (s.drop j)) (st j) (st (j+cG p (s.drop j)))/\j+cG p (s.drop j)<=s.length/\∀h:j+cG p (s.drop j)<s.length,p s[j+cG p (s.drop j)].toNat=Q4
 | n,j,hn,hj=>by
  by_cases hlt:j<s.length
  ·by_cases hp:p s[j].toNat=Q3
   ·obtain⟨n,rfl⟩:∃m,n=m+1:=⟨n-1,ow⟩;have e:cG p (s.drop j)=cG p (s.drop (j+1))+1:=by rw[fk hlt,cG,if_pos hp]
    obtain⟨i1,i2,i3⟩:=FU st hs n (j+1) ow ow;have e2:j+cG p (s.drop j)=j+1+cG p (s.drop (j+1)):=by omega
    refine⟨?_,ow,?_⟩
    ·rw[e2,e];exact((zQ.of (hs j hlt hp)).trans i1).mono ow
    ·intro h;simp only[e2]at h⊢;exact i3 h
   ·have e:cG p (s.drop j)=0:=by rw[fk hlt,cG,if_neg hp]
    rw[e];exact⟨zQ.refl _,ow,λ_=>by simpa using hp⟩
  ·have e:cG p (s.drop j)=0:=by rw[Aa ow];rfl
   rw[e];exact⟨zQ.refl _,ow,λh=>absurd h ow⟩
theorem v3{s:zB}{i:Nat}(hl:s.length<=1000000)(hi:i<s.length):∀{o:rG},(oL o).length<=1000000->∃z,(cL (VD s (i:Int) o)).val=Q1 (
  if(bif (s[i].toNat:Int)==32 then Q3 else(s[i].toNat:Int)==10)=Q3 then .inl (VD s ((i+1:Nat):Int) o)
  else if aH s[i].toNat=Q3 then .inl (Rf s ((i+1:Nat):Int) s[i].toNat i z o)
  else if zU s[i].toNat=Q3 then .inl (Rg s ((i+1:Nat):Int) s[i].toNat i z o)
  else if s[i]=39 then .inl (KG s ((i+1:Nat):Int) ((3,[]),()) o)
  else Ka s (i+1) (4,[s[i]]) o):=by
 intro o ho;refine⟨((4,[s[i]]),()),?_⟩;have w1:IntKind.i64.wrap ((i:Int)+1)=((i+1:Nat):Int):=zp i um;have g1:(Q0 (0<=(i:Int))&&Q0 ((i:Int)<=((i+1:Nat):Int))&&Q0 (((i+1:Nat):Int)<=(↑(length s):Int)))=Q3:=by simp;omega
 have hM:lA ((4,[s[i]]):Sem zr)=bZ (4,[s[i]]):=yz (t:=((4,[s[i]]):Sem bW)) sw;have hMC:io ((4,[s[i]]):Sem zr)=Q3:=ue (t:=((4,[s[i]]):Sem bW)) sw;have h39:s[i]=39↔((s[i].toNat:Int)==39)=Q3:=qT.symm;unfold Ka;simp only[h39];cases o with
 | none=>
  show(cL (.h3 _ _)).val=_;simp only[cL,w1,bY s hi,jw s hi,zH hi,zu hi,g1,lB,nz,eC,fG,Q8,if_true,hMC,hM];repeat' split
  all_goals first|rfl|simp_all
 | some l=>
  have hl2:(l.length+[((4,[s[i]]):Sem zr)].length<=1073741824):=by have:l.length<=1000000:=ho;simp;omega
  show(cL (.h3b _ _ _)).val=_;simp only[cL,w1,bY s hi,jw s hi,zH hi,zu hi,g1,lB,nz,eC,fG,Q8,if_true,hMC,hM,zt hl2];repeat' split
  all_goals first|rfl|simp_all
theorem Oy{c:UInt8}(h:aH c.toNat=Q3):zU c.toNat=Q4/\c≠39:=by
 have h39:aH ((39:UInt8).toNat:Int)=Q4:=rfl;constructor
 ·have h65:(65:Int)<=(c.toNat:Int):=by
   by_cases k:(65:Int)<=(c.toNat:Int)
   ·exact k
   ·exfalso;have k1:Q0 ((c.toNat:Int)>=97)=Q4:=af ow;have k2:Q0 ((c.toNat:Int)>=65)=Q4:=af ow;unfold aH at h;rw[k1,k2]at h;cases h
  have k3:Q0 ((c.toNat:Int)<=57)=Q4:=af ow;unfold zU;rw[k3];cases Q0 ((c.toNat:Int)>=48)<;>rfl
 ·rintro rfl;rw[h39]at h;cases h
theorem P8{c:UInt8}(h:zU c.toNat=Q3):c≠39:=by
 have h39:zU ((39:UInt8).toNat:Int)=Q4:=rfl;rintro rfl;rw[h39]at h;cases h
theorem BW{s:zB}(hl:s.length<=1000000):∀(n i:Nat)(o:rG),s.length+1<=n+i->i<=s.length->(oL o).length<=i->∃r,zT cL (3*(s.length-i)+3) (VD s (i:Int) o) r/\PD r (uZ n (s.drop i) (oL o).length)
 |0,i,o,h1,h2,h3=>by omega
 | n + 1,i,o,h1,h2,h3=>by
  by_cases hi:i<s.length
  ·obtain⟨z,hv⟩:=v3 (o:=o) hl hi ow;rw[fk hi,uZ];have hdrop:Qh i s=s[i]::Qh (i+1) s:=fk hi;have next:∀(j:Nat)(t:Sem bW),i<j->j<=s.length->∃r,(match Ka s j t o with|.inl h=>zT cL (3*(s.length-j)+3) h r|.inr r'=>r'=r)/\PD r (if bZ t=Q3 then uZ n (s.drop j) ((oL o).length+1)else Q4):=by
    intro j t hj1 hj2;unfold Ka;by_cases m:bZ t=Q3
    ·rw[if_pos m,if_pos m];obtain⟨r,a1,a2⟩:=BW hl n j (Q1 (oL o++[t])) ow hj2 sg;refine⟨r,a1,?_⟩;have:(oL (Q1 (oL o++[t]))).length=(oL o).length+1:=by simp
     rw[this]at a2;exact a2
    ·rw[if_neg m,if_neg m];exact⟨rNo,rfl,Tk⟩
   by_cases c0:(bif (s[i].toNat:Int)==32 then Q3 else(s[i].toNat:Int)==10)=Q3
   ·rw[if_pos c0]at hv⊢;obtain⟨r,a1,a2⟩:=BW hl n (i+1) o ow ow ow;exact⟨r,((zQ.of hv).ends a1).mono ow,a2⟩
   ·rw[if_neg c0]at hv⊢;unfold oN;by_cases c1:aH s[i].toNat=Q3
    ·rw[if_pos c1]at hv⊢;obtain⟨b1,b2⟩:=Oy c1;obtain⟨p1,p2,p3⟩:=FU (p:=bt) (s:=s) (λj=>Rf s (j:Int) (s[i].toNat:Int) (i:Int) z o) (λj hj hp=>zlF hl hj hp) s.length (i+1) ow ow;have hx:=zlE (z:=z) (c:=s[i]) (f:=i) hl p2 ow p3 b1 b2 (o:=o) ow;rw[show i+1+cG bt (Qh (i+1) s)-i=cG bt (Qh (i+1) s)+1 by omega,hdrop]at hx;obtain⟨r,a1,a2⟩:=next (i+1+cG bt (Qh (i+1) s)) (1,(s[i]::Qh (i+1) s).take (cG bt (Qh (i+1) s)+1)) ow p2
     refine⟨r,?_,?_⟩
     ·revert hx a1;cases Ka s (i+1+cG bt (Qh (i+1) s)) (1,(s[i]::Qh (i+1) s).take (cG bt (Qh (i+1) s)+1)) o with
      |inl h=>intro hx a1;exact(((zQ.of hv).trans p1).ends ((zQ.of hx).ends a1)).mono ow
      |inr r'=>intro hx a1;cases a1;exact(((zQ.of hv).trans p1).ends (zT.of hx)).mono ow
     ·rw[<-hdrop,DF];rw[show i+(cG bt (Qh (i+1) s)+1)=i+1+cG bt (Qh (i+1) s) by omega];rw[hdrop];exact a2
    ·rw[if_neg c1]at hv⊢;by_cases c2:zU s[i].toNat=Q3
     ·rw[if_pos c2]at hv⊢;have b2:=P8 c2;obtain⟨p1,p2,p3⟩:=FU (p:=zU) (s:=s) (λj=>Rg s (j:Int) (s[i].toNat:Int) (i:Int) z o) (λj hj hp=>zlH hl hj hp) s.length (i+1) ow ow;have hx:=zlG (z:=z) (c:=s[i]) (f:=i) hl p2 ow p3 b2 (o:=o) ow;rw[show i+1+cG zU (Qh (i+1) s)-i=cG zU (Qh (i+1) s)+1 by omega,hdrop]at hx;obtain⟨r,a1,a2⟩:=next (i+1+cG zU (Qh (i+1) s)) (2,(s[i]::Qh (i+1) s).take (cG zU (Qh (i+1) s)+1)) ow p2
      refine⟨r,?_,?_⟩
      ·revert hx a1;cases Ka s (i+1+cG zU (Qh (i+1) s)) (2,(s[i]::Qh (i+1) s).take (cG zU (Qh (i+1) s)+1)) o with
       |inl h=>intro hx a1;exact(((zQ.of hv).trans p1).ends ((zQ.of hx).ends a1)).mono ow
       |inr r'=>intro hx a1;cases a1;exact(((zQ.of hv).trans p1).ends (zT.of hx)).mono ow
      ·rw[<-hdrop,DF];rw[show i+(cG zU (Qh (i+1) s)+1)=i+1+cG zU (Qh (i+1) s) by omega];rw[hdrop];exact a2
     ·rw[if_neg c2]at hv⊢;by_cases c3:s[i]=39
      ·rw[if_pos c3]at hv⊢;obtain⟨q1,q2⟩:=l20 (o:=o) hl ow (s.length-(i+1)) (i+1) [] (aB _) ow sw;cases hs:eO (Qh (i+1) s)with
       | none=>
        have hm:bZ ((0,[]):Sem bW)=Q4:=rfl;simp only[hm,zG,if_false];exact⟨rNo,((zQ.of hv).ends (q1 hs)).mono ow,Tk⟩
       | some x=>
        obtain⟨t,k⟩:=x;obtain⟨k1,k2,_⟩:=qG _ _ _ _ (aB _) hs;have k2:k<=s.length-(i+1):=by simpa using k2
        obtain⟨r,a1,a2⟩:=next (i+1+k) (3,t) ow ow
        refine⟨r,((zQ.of hv).ends (q2 t k hs _ r a1)).mono ow,?_⟩;simp only;rw[<-hdrop,DF,show i+(k+1)=i+1+k by omega];exact a2
      ·rw[if_neg c3]at hv⊢;obtain⟨r,a1,a2⟩:=next (i+1) (4,[s[i]]) ow ow
       refine⟨r,?_,a2⟩;revert hv a1;cases Ka s (i+1) (4,[s[i]]) o with
       |inl h=>intro hv a1;exact((zQ.of hv).ends a1).mono ow
       |inr r'=>intro hv a1;cases a1;exact(zT.of hv).mono ow
  ·obtain rfl:i=s.length:=by omega
   rw[jh,uZ];cases o with
   | none=>
    refine⟨(.tup [.nils,.bool Q3],[]),(zT.of ?_).mono ow,[],rfl⟩;show(cL (.h3 _ _)).val=_;simp only[cL,zA,Q8];rfl
   | some l=>
    refine⟨(.tup [.vec 0,.bool (Q0 ((↑l.length:Int)<=400))],[.vec zr l]),(zT.of ?_).mono ow,l,?_⟩
    ·show(cL (.h3b _ _ _)).val=_;simp only[cL,zA,Q8];rfl
    ·have e:Q0 ((↑l.length:Int)<=400)=Q0 (l.length<=400):=by
      by_cases h:l.length<=400
      ·rw[zt h];exact zt ow
      ·rw[af h];exact af ow
     rw[e];rfl
theorem Jm{s:zB}(hl:s.length<=1000000):∃l,GB s=Q1 (l,(cut s).2==(0:Int),()):=by
 obtain⟨r,h1,l,h2⟩:=BW hl (s.length+1) 0 none ow ow sw;have h3:=Aq (s.length+1) s 0 [] ow ow ow sw;have hc:((cut s).2==(0:Int))=uZ (s.length+1) (s.drop 0) ([]:List (Sem zr)).length:=h3;refine⟨l,?_⟩;rw[hc];exact zx (s:=VD s ((0:Nat):Int) none) rfl h1 ow h2
theorem Ti{s:zB}(hl:s.length<=1000000):GA s=Q3:=by
 obtain⟨l,h⟩:=Jm hl;unfold GA;rw[h];rfl
theorem Wo{s:zB}(hl:s.length<=1000000):(xq s).2=((cut s).2==(0:Int)):=by
 obtain⟨l,h⟩:=Jm hl;unfold xq;rw[h];rfl
theorem sr{α:Type}(p:α->Bool):∀(l:List α)(i:Nat),(!Q0 (ae p l i>=0))=Q3↔∀x∈l,p x=Q4
 | [],i=>by
  refine⟨λ_ x hx=>(by cases hx),λ_=>?_⟩;rw[ae];rfl
 | y::r,i=>by
  refine⟨λh=>oU p _ i h,λh=>?_⟩;rw[ae,h y sw];exact(sr p r (i+1)).2 λx hx=>h x (by simp[hx])
theorem iS{x:Sem zk}(h4:x.2.2.2.1.length<=1000)(h5:x.2.2.2.2.1.length<=1000)(h7:x.2.2.2.2.2.2.1.length<=1000)(h8:x.2.2.2.2.2.2.2.1.length<=1000)(h10:x.2.2.2.2.2.2.2.2.2.1.length<=1000)(h11:x.2.2.2.2.2.2.2.2.2.2.1.length<=1000):
  ei x=Q3↔x.2.1=[]/\x.2.2.1=[]/\x.2.2.2.2.2.1=[]/\x.2.2.2.2.2.2.2.2.2.2.2.2=[]/\x.2.2.2.1=[]/\x.2.2.2.2.1=[]/\x.2.2.2.2.2.2.1=[]/\x.2.2.2.2.2.2.2.1=[]/\x.2.2.2.2.2.2.2.2.2.1=[]/\x.2.2.2.2.2.2.2.2.2.2.1=[]/\x.2.2.2.2.2.2.2.2.1=dh/\x.2.2.2.2.2.2.2.2.2.2.2.1=dh:=by
 unfold ei
 have hw:(IntKind.i64.wrap (IntKind.i64.wrap (IntKind.i64.wrap (IntKind.i64.wrap (IntKind.i64.wrap ((↑(length x.2.2.2.1):Int)+(↑(length x.2.2.2.2.1):Int))+(↑(length x.2.2.2.2.2.2.1):Int))+(↑(length x.2.2.2.2.2.2.2.1):Int))+(↑(length x.2.2.2.2.2.2.2.2.2.1):Int))+(↑(length x.2.2.2.2.2.2.2.2.2.2.1):Int)))=
   ((x.2.2.2.1.length+x.2.2.2.2.1.length+x.2.2.2.2.2.2.1.length+x.2.2.2.2.2.2.2.1.length+x.2.2.2.2.2.2.2.2.2.1.length+x.2.2.2.2.2.2.2.2.2.2.1.length:Nat):Int):=by
  have g:∀n:Nat,n<=10000->IntKind.i64.wrap (n:Int)=(n:Int):=λn hn=>TU n (by omega)
  rw[<-sP,g _ (by omega),<-sP,g _ (by omega),<-sP,g _ (by omega),<-sP,g _ (by omega),<-sP,g _ (by omega)]
 rw[hw];constructor
 ·intro h;obtain⟨k1,h⟩:=ck h;obtain⟨k2,h⟩:=ck h;obtain⟨k3,k4⟩:=ck h;simp only[aZ,List.append_eq_nil_iff]at k1;obtain⟨⟨⟨a1,a2⟩,a3⟩,a4⟩:=k1;have k2:x.2.2.2.1.length+x.2.2.2.2.1.length+x.2.2.2.2.2.2.1.length+x.2.2.2.2.2.2.2.1.length+x.2.2.2.2.2.2.2.2.2.1.length+x.2.2.2.2.2.2.2.2.2.2.1.length=0:=by
   have:=bF k2;exact Int.ofNat.inj this
  refine⟨a1,a2,a3,a4,?_,?_,?_,?_,?_,?_,jX.1 k3,jX.1 k4⟩<;>exact xD (by omega)
 ·rintro⟨a1,a2,a3,a4,a5,a6,a7,a8,a9,a10,a11,a12⟩;rw[a1,a2,a3,a4,a5,a6,a7,a8,a9,a10,a11,a12,show gM dh=Q3 from rfl];rfl
theorem TA(s:Sem zk):dV s=(eW s&&((cut (ir s)).2==0)):=by
 unfold dV pl;cases eW s
 ·rfl
 ·show((if((cut (ir s)).2!=0)=Q3 then(([],1):Sem Q6×Sem zg)else(ir s,0)).2==0)=_;cases h:((cut (ir s)).2==0)
  ·have:((cut (ir s)).2!=0)=Q3:=by simp only[bne,h];rfl
   rw[if_pos this];rfl
  ·have:((cut (ir s)).2!=0)=Q4:=by simp only[bne,h];rfl
   rw[this];rfl
theorem So(s:zB):bP s=zK s:=rfl
theorem EX{s:Sem zk}(h:ol s){t:zB}{own:Sem zk}{ok:Bool}(hw:dv s=Q1 (t,own,ok,()))(hl:t.length<=900000)(hc:yT own):
  ∃t',nA s=Q1 (t',(ok&&(zK s.2.1&&(eU own s&&((cut t).2==(0:Int))))),()):=by
 have hn:=h.sh.table;have e1:un s=Q3:=by unfold un;rw[hw];rfl
 have e2:yD s=(t,own,ok):=by unfold yD;rw[hw];rfl
 obtain⟨s1,_⟩:=qA (b:=s) hc;have n1:=bv (s:=s.2.1) ow;have n2:=eM (s:=s.2.1) ow;have k1:=Ti (s:=t) ow;have k2:=Wo (s:=t) ow;have es:un (s.1,s.2.1,s.2.2.1,s.2.2.2.1,s.t.1,s.t.2.1,s.t.q.1,s.t.q.2.1,s.t.t.1,s.t.t.2.1,s.t.t.q.1,s.t.t.q.2.1,s.t.t.t)=Q3:=e1;have ew:yD (s.1,s.2.1,s.2.2.1,s.2.2.2.1,s.t.1,s.t.2.1,s.t.q.1,s.t.q.2.1,s.t.t.1,s.t.t.2.1,s.t.t.q.1,s.t.t.q.2.1,s.t.t.t)=(t,own,ok):=e2;have ss:yB (own.1,own.2.1,own.2.2.1,own.2.2.2.1,own.t.1,own.t.2.1,own.t.q.1,own.t.q.2.1,own.t.t.1,own.t.t.2.1,own.t.t.q.1,own.t.t.q.2.1,own.t.t.t) (s.1,s.2.1,s.2.2.1,s.2.2.2.1,s.t.1,s.t.2.1,s.t.q.1,s.t.q.2.1,s.t.t.1,s.t.t.2.1,s.t.t.q.1,s.t.t.q.2.1,s.t.t.t)=Q3:=s1;have sv:eU (own.1,own.2.1,own.2.2.1,own.2.2.2.1,own.t.1,own.t.2.1,own.t.q.1,own.t.q.2.1,own.t.t.1,own.t.t.2.1,own.t.t.q.1,own.t.t.q.2.1,own.t.t.t) (s.1,s.2.1,s.2.2.1,s.2.2.2.1,s.t.1,s.t.2.1,s.t.q.1,s.t.q.2.1,s.t.t.1,s.t.t.2.1,s.t.t.q.1,s.t.t.q.2.1,s.t.t.t)=eU own s:=rfl;have hv:∃t' b,(zbH s).val=Q1 (.inr (.tup [.str t',b],[]))/\(b=.kb Q3/\(ok&&(zK s.2.1&&(eU own s&&((cut t).2==(0:Int)))))=Q3\/(b=.kb Q4/\(ok&&(zK s.2.1&&(eU own s&&((cut t).2==(0:Int)))))=Q4)):=by
  simp only[zbH,Q8,zl,es,ew,ss,sv,n1,n2,k1,k2,if_true];generalize eU own s=b1;generalize zK s.2.1=b2;generalize((cut t).2==(0:Int))=b3;cases ok<;>cases b2<;>cases b1<;>cases b3<;>first|exact⟨_,_,rfl,.inl ⟨rfl,rfl⟩⟩|exact⟨_,_,rfl,.inr ⟨rfl,rfl⟩⟩
 obtain⟨t',b,hv,hb⟩:=hv;refine⟨t',zN hv ?_⟩;rcases hb with⟨rfl,hb⟩|⟨rfl,hb⟩<;>rw[hb]<;>rfl
theorem Lk{s:Sem zk}(h:ol s):∃t b,nA s=Q1 (t,b,()):=by
 obtain⟨t,own,ok,h1,h2,h3⟩:=Ln h;obtain⟨t',h4⟩:=EX h h1 h2 h3;exact⟨t',_,h4⟩
theorem MZ{s:Sem zk}(h:ol s)(o:s.1=[99,111,112,121]):eW s=(kD s&&(zK s.2.1&&eU (s.1,s.2.1,s.2.2.1,s.2.2.2.1,[],[],[],[],s.2.2.2.2.2.2.2.2.1,[],[],dh,[]) s)):=by
 have hn:=h.sh.names.1;have hc:=h.sh.cols.1;have hq:=h.sh.uniques.1;have hr:=h.sh.refs.1;have hw:=h.sh.row;have hs:=h.sh.sets.1;obtain⟨p0,p1,p2,p3,p4,p5,p6,p7,p8,p9,p10⟩:=We o;obtain⟨_,hp⟩:=ej (s:=s) (g:=_) (b:=_) (by simp only[tv,Q8,p0,p1,p2,p3,p4,p5,p6,p7,p8,p9,p10,if_true,if_false,zG,zl];exact rfl);obtain⟨_,hsame⟩:=qA (a:=(s.1,s.2.1,s.2.2.1,s.2.2.2.1,[],[],[],[],s.2.2.2.2.2.2.2.2.1,[],[],dh,[])) (b:=s) (ea h (.inl rfl) (.inr rfl) (.inr rfl) (.inr rfl) (.inl rfl) (.inr rfl) (.inr rfl) (.inr rfl));have hem:=iS (x:=(s.1,[],[],[],s.2.2.2.2.1,s.2.2.2.2.2.1,s.2.2.2.2.2.2.1,s.2.2.2.2.2.2.2.1,dh,s.2.2.2.2.2.2.2.2.2.1,s.2.2.2.2.2.2.2.2.2.2.1,s.2.2.2.2.2.2.2.2.2.2.2.1,s.2.2.2.2.2.2.2.2.2.2.2.2)) (by simp) (by simpa using cy hc (by omega)) (by simpa using cy hq (by omega)) (by simpa using cy hr (by omega)) (by simpa using cy hw (by omega)) (by simpa using cy hs (by omega));have hec:dX (s.1,[],[],[],s.2.2.2.2.1,s.2.2.2.2.2.1,s.2.2.2.2.2.2.1,s.2.2.2.2.2.2.2.1,dh,s.2.2.2.2.2.2.2.2.2.1,s.2.2.2.2.2.2.2.2.2.2.1,s.2.2.2.2.2.2.2.2.2.2.2.1,s.2.2.2.2.2.2.2.2.2.2.2.2)=Q3:=fH (by simp) (by simp) (by have:=h.sh.key;simpa using this) (by have:=h.sh.role;simpa using this);rw[hp];apply iB.2;have hown:eU (s.1,s.2.1,s.2.2.1,s.2.2.2.1,[],[],[],[],s.2.2.2.2.2.2.2.2.1,[],[],dh,[]) s=Q3↔ei (s.1,[],[],[],s.2.2.2.2.1,s.2.2.2.2.2.1,s.2.2.2.2.2.2.1,s.2.2.2.2.2.2.2.1,dh,s.2.2.2.2.2.2.2.2.2.1,s.2.2.2.2.2.2.2.2.2.2.1,s.2.2.2.2.2.2.2.2.2.2.2.1,s.2.2.2.2.2.2.2.2.2.2.2.2)=Q3:=by
  rw[hsame,hem];obtain⟨s1,s2,s3,s4,s5,s6,s7,s8,s9,s10,uu,s12,s13⟩:=s;simp only[cr,true_and];constructor
  ·intro k;simp_all
  ·intro k;simp_all
 have hix:=sr (λx=>!bP x) s.2.2.2.1 0;have hnm:(!Q0 (ae (λx=>!bP x) s.2.2.2.1 0>=0))=Q0 (∀x∈s.2.2.2.1,zK x=Q3):=by
  apply iB.2;rw[hix,decide_eq_true_iff];exact⟨λk x hx=>by have:=k x hx;simpa[So]using this,λk x hx=>by have:=k x hx;simpa[So]using this⟩
 have hlb:(bif Q0 ((↑(length s.2.2.2.1):Int)<1)then Q3 else Q0 ((↑(length s.2.2.2.1):Int)>8))=!(Q0 (1<=s.2.2.2.1.length)&&Q0 (s.2.2.2.1.length<=8)):=by
  by_cases a:1<=s.2.2.2.1.length
  ·rw[af (show¬(↑(length s.2.2.2.1):Int)<1 by omega),zt a];by_cases b:s.2.2.2.1.length<=8
   ·rw[af (show¬(↑(length s.2.2.2.1):Int)>8 by omega),zt b];rfl
   ·rw[zt (show(↑(length s.2.2.2.1):Int)>8 by omega),af b];rfl
  ·rw[zt (show(↑(length s.2.2.2.1):Int)<1 by omega),af a];rfl
 rw[hnm,hlb,hec];unfold kD;rw[show bP s.2.1=zK s.2.1 from rfl,show bP s.2.2.1=zK s.2.2.1 from rfl];rw[iB.2 hown];generalize ei _=b1;generalize bQ s.2.2.2.2.2.2.2.2.1=b2;generalize zK s.2.1=b3;generalize zK s.2.2.1=b4;generalize Q0 (∀x∈s.2.2.2.1,zK x=Q3)=b5;generalize(Q0 (1<=s.2.2.2.1.length)&&Q0 (s.2.2.2.1.length<=8))=b6;cases b1<;>cases b2<;>cases b3<;>cases b4<;>cases b5<;>cases b6<;>simp
theorem M0{s:Sem zk}(h:ol s)(o:s.1=[106,111,105,110]):eW s=(nf s&&(zK s.2.1&&eU (s.1,s.2.1,s.2.2.1,[],[],s.t.2.1,[],[],s.t.t.1,[],[],dh,s.t.t.t) s)):=by
 have hn:=h.sh.names.1;have hc:=h.sh.cols.1;have hq:=h.sh.uniques.1;have hr:=h.sh.refs.1;have hw:=h.sh.row;have hs:=h.sh.sets.1;obtain⟨p0,p1,p2,p3,p4,p5,p6,p7,p8,p9,p10,p11⟩:=Wf o;obtain⟨_,hp⟩:=ej (s:=s) (g:=_) (b:=_) (by simp only[tv,Q8,p0,p1,p2,p3,p4,p5,p6,p7,p8,p9,p10,p11,if_true,if_false,zG,zl];exact rfl);obtain⟨_,hsame⟩:=qA (a:=(s.1,s.2.1,s.2.2.1,[],[],s.t.2.1,[],[],s.t.t.1,[],[],dh,s.t.t.t)) (b:=s) (ea h (.inr rfl) (.inr rfl) (.inr rfl) (.inr rfl) (.inl rfl) (.inr rfl) (.inr rfl) (.inr rfl));have hem:=iS (x:=(s.1,[],[],s.2.2.2.1,s.t.1,[],s.t.q.1,s.t.q.2.1,dh,s.t.t.2.1,s.t.t.q.1,s.t.t.q.2.1,[])) (by simpa using cy hn ow) (by simpa using cy hc ow) (by simpa using cy hq ow) (by simpa using cy hr ow) (by simpa using cy hw ow) (by simpa using cy hs ow);have hec:dX (s.1,[],[],s.2.2.2.1,s.t.1,[],s.t.q.1,s.t.q.2.1,dh,s.t.t.2.1,s.t.t.q.1,s.t.t.q.2.1,[])=Q3:=fH sw sw sw sw;rw[hp];apply iB.2;have hown:eU (s.1,s.2.1,s.2.2.1,[],[],s.t.2.1,[],[],s.t.t.1,[],[],dh,s.t.t.t) s=Q3↔ei (s.1,[],[],s.2.2.2.1,s.t.1,[],s.t.q.1,s.t.q.2.1,dh,s.t.t.2.1,s.t.t.q.1,s.t.t.q.2.1,[])=Q3:=by
  rw[hsame,hem];obtain⟨s1,s2,s3,s4,s5,s6,s7,s8,s9,s10,uu,s12,s13⟩:=s;simp only[cr,true_and];constructor
  ·intro k;simp_all
  ·intro k;simp_all
 rw[hec];unfold nf;rw[show bP s.2.1=zK s.2.1 from rfl,show bP s.2.2.1=zK s.2.2.1 from rfl,show bP s.t.2.1=zK s.t.2.1 from rfl,show bP s.t.t.t=zK s.t.t.t from rfl];rw[iB.2 hown];generalize ei _=b1;generalize bQ s.t.t.1=b2;generalize zK s.2.1=b3;generalize zK s.2.2.1=b4;generalize zK s.t.2.1=b5;generalize zK s.t.t.t=b6;cases b1<;>cases b2<;>cases b3<;>cases b4<;>cases b5<;>cases b6<;>simp
theorem I2{s:Sem zk}(h:ol s)(o:s.1=[103,114,111,117,112]):eW s=(gv s&&(zK s.2.1&&eU (s.1,s.2.1,s.2.2.1,s.2.2.2.1,[],[],[],[],s.2.2.2.2.2.2.2.2.1,[],[],dh,[]) s)):=by
 have hn:=h.sh.names.1;have hc:=h.sh.cols.1;have hq:=h.sh.uniques.1;have hr:=h.sh.refs.1;have hw:=h.sh.row;have hs:=h.sh.sets.1;obtain⟨p0,p1,p2,p3,p4,p5,p6,p7,p8,p9,p10,p11,p12⟩:=SN o;obtain⟨_,hp⟩:=ej (s:=s) (g:=_) (b:=_) (by simp only[tv,Q8,p0,p1,p2,p3,p4,p5,p6,p7,p8,p9,p10,p11,p12,if_true,if_false,zG,zl];exact rfl);obtain⟨_,hsame⟩:=qA (a:=(s.1,s.2.1,s.2.2.1,s.2.2.2.1,[],[],[],[],s.2.2.2.2.2.2.2.2.1,[],[],dh,[])) (b:=s) (ea h (.inl rfl) (.inr rfl) (.inr rfl) (.inr rfl) (.inl rfl) (.inr rfl) (.inr rfl) (.inr rfl));have hem:=iS (x:=(s.1,[],[],[],s.2.2.2.2.1,s.2.2.2.2.2.1,s.2.2.2.2.2.2.1,s.2.2.2.2.2.2.2.1,dh,s.2.2.2.2.2.2.2.2.2.1,s.2.2.2.2.2.2.2.2.2.2.1,s.2.2.2.2.2.2.2.2.2.2.2.1,s.2.2.2.2.2.2.2.2.2.2.2.2)) (by simp) (by simpa using cy hc (by omega)) (by simpa using cy hq (by omega)) (by simpa using cy hr (by omega)) (by simpa using cy hw (by omega)) (by simpa using cy hs (by omega));have hec:dX (s.1,[],[],[],s.2.2.2.2.1,s.2.2.2.2.2.1,s.2.2.2.2.2.2.1,s.2.2.2.2.2.2.2.1,dh,s.2.2.2.2.2.2.2.2.2.1,s.2.2.2.2.2.2.2.2.2.2.1,s.2.2.2.2.2.2.2.2.2.2.2.1,s.2.2.2.2.2.2.2.2.2.2.2.2)=Q3:=fH (by simp) (by simp) (by have:=h.sh.key;simpa using this) (by have:=h.sh.role;simpa using this);rw[hp];apply iB.2;have hown:eU (s.1,s.2.1,s.2.2.1,s.2.2.2.1,[],[],[],[],s.2.2.2.2.2.2.2.2.1,[],[],dh,[]) s=Q3↔ei (s.1,[],[],[],s.2.2.2.2.1,s.2.2.2.2.2.1,s.2.2.2.2.2.2.1,s.2.2.2.2.2.2.2.1,dh,s.2.2.2.2.2.2.2.2.2.1,s.2.2.2.2.2.2.2.2.2.2.1,s.2.2.2.2.2.2.2.2.2.2.2.1,s.2.2.2.2.2.2.2.2.2.2.2.2)=Q3:=by
  rw[hsame,hem];obtain⟨s1,s2,s3,s4,s5,s6,s7,s8,s9,s10,uu,s12,s13⟩:=s;simp only[cr,true_and];constructor
  ·intro k;simp_all
  ·intro k;simp_all
 have hix:=sr (λx=>!bP x) s.2.2.2.1 0;have hlb:(bif bif Q0 ((↑(length s.2.2.2.1):Int)<2)then Q3 else Q0 ((↑(length s.2.2.2.1):Int)>2)then Q4 else bif !Q0 (ae (λx=>!bP x) s.2.2.2.1 0>=0)then bQ s.2.2.2.2.2.2.2.2.1 else Q4)=(Q0 (s.2.2.2.1.length=2)&&(bQ s.2.2.2.2.2.2.2.2.1&&(zK (s.2.2.2.1.getD 0 [])&&zK (s.2.2.2.1.getD 1 [])))):=by
  by_cases a:s.2.2.2.1.length=2
  ·rw[af (show¬(↑(length s.2.2.2.1):Int)<2 by omega),af (show¬(↑(length s.2.2.2.1):Int)>2 by omega),zt a];have hnm:(!Q0 (ae (λx=>!bP x) s.2.2.2.1 0>=0))=(zK (s.2.2.2.1.getD 0 [])&&zK (s.2.2.2.1.getD 1 [])):=by
    apply iB.2;rw[hix,aD];obtain⟨s1,s2,s3,s4,s5⟩:=s
    match s4,a with
    |[x,y],_=>simp[So]
   rw[hnm];cases bQ s.2.2.2.2.2.2.2.2.1<;>cases zK (s.2.2.2.1.getD 0 [])<;>cases zK (s.2.2.2.1.getD 1 [])<;>rfl
  ·rw[af a];by_cases b:(↑(length s.2.2.2.1):Int)<2
   ·rw[zt b];rfl
   ·rw[af b,zt (show(↑(length s.2.2.2.1):Int)>2 by omega)];rfl
 rw[hlb,hec];unfold gv;rw[show bP s.2.1=zK s.2.1 from rfl,show bP s.2.2.1=zK s.2.2.1 from rfl];rw[iB.2 hown];generalize ei _=b1;generalize bQ s.2.2.2.2.2.2.2.2.1=b2;generalize zK s.2.1=b3;generalize zK s.2.2.1=b4;generalize zK (s.2.2.2.1.getD 0 [])=b5;generalize zK (s.2.2.2.1.getD 1 [])=b6;generalize Q0 (s.2.2.2.1.length=2)=b7;cases b1<;>cases b2<;>cases b3<;>cases b4<;>cases b5<;>cases b6<;>cases b7<;>simp
abbrev zhg:=mM [(4,[1,2,5]),(9,[1,2,6])]
inductive Ff where
 |h4 (l1:LV) (i5:Int) (z0:zn [CP.d zo])
 |h9 (l1:LV) (i6:Int) (z0:zn [CP.d zo])
abbrev zjP:Ff->Nat×St
 |.h4 l1 i5 z0=>(4,⟨tm 83 [(1,sl zf l1),(2,ptr 0 0),(5,ai i5)],[Qa (bC [] [CP.d zo] z0)]⟩)
 |.h9 l1 i6 z0=>(9,⟨tm 83 [(1,sl zf l1),(2,ptr 0 0),(6,ai i6)],[Qa (bC [] [CP.d zo] z0)]⟩)
def zbK(x0:Sem zo)(x1:Sem zf.sl):Tr (Ff⊕aw):=
 let a0:=(x0.1,x0.2.1,x0.2.2.1,x0.2.2.2.1,x0.t.1,zm x0.t.2)
 Qc (wk a0)
 (br (bif !ES a0 then Q3 else(↑(length x1):Int)!=(↑(length x0.2.1):Int)) (re (ai 1) [])
  (Q9 (Ff.h4 x1 0 (x0,()))))
def CE:Ff->Tr (Ff⊕aw)
 | .h4 l1 i5 z0=>
  let a0:=l1.getD i5.toNat (zi zf)
  br (Q0 (i5<(↑l1.length:Int)))
  (Qc (zM i5 l1.length) (Qc (lO a0) (br (!ry a0) (re (ai 1) []) (Q9 (Ff.h4 l1 (IntKind.i64.wrap (i5+1)) z0)))))
  (Q9 (Ff.h9 l1 0 z0))
 | .h9 l1 i6 z0=>
  let a0:=l1.getD i6.toNat (zi zf)
  let a1:=a0.1==0
  let a2:=zM i6 (length z0.1.2.1)
  let a3:=getD z0.1.2.1 i6.toNat (zi zj)
  let a4:=a0.1!=0
  let a5:=!ze.op z0.1.t.2==[]
  let a6:=zm z0.1.t.2
  let a7:=Gg a6 z0.1.2.1 l1
  br (Q0 (i6<(↑l1.length:Int)))
  (Qc (zM i6 l1.length&&bif a1 then a2 else Q3)
   (br (bif a1 then a3.2.2 else Q4) (re (ai 8) []) (Qc (zM i6 l1.length&&bif a4 then zM i6 l1.length&&a2 else Q3) (br (bif a4 then a0.1!=a3.2.1 else Q4) (re (ai 5) []) (Q9 (Ff.h9 l1 (IntKind.i64.wrap (i6+1)) z0))))))
  (Qc (bif a5 then yn a6 z0.1.2.1 l1&&mo a7 Q4 else Q3)
   (br (bif a5 then o9 a7 Q4 else Q4) (re (ai 9) []) (re (ai 0) [])))
def yv(x0:Sem zo)(x1:Sem zf.sl):=al [zg] CE 100000000 (zbK x0 x1)
def Gn(x0:Sem zo)(x1:Sem zf.sl):=(yv x0 x1).isSome
def Lh(x0:Sem zo)(x1:Sem zf.sl):=o1 (yv x0 x1)
def zd0:=FT [zo,zf.sl] [zg] λx=>yv x.1 x.2.1
theorem zaj:FK 128 zd0:=kr.T1 (f:=Tryz.f128) (keep:=zhg) (e:=zjP)
abbrev zhh:=mM [(2,[0,1,5]),(5,[0,1,5,6])]
inductive Hx where
 |h2 (l0:List (Sem zf.sl)) (i1:Sem zg) (i5:Int)
 |h5 (l0:List (Sem zf.sl)) (i1:Sem zg) (i5:Int) (i6:Int)
abbrev zjQ:Hx->Nat×St
 |.h2 l0 i1 i5=>(2,⟨tm 44 [(0,sl zf.sl l0),(1,ai i1),(5,ai i5)],[]⟩)
 |.h5 l0 i1 i5 i6=>(5,⟨tm 44 [(0,sl zf.sl l0),(1,ai i1),(5,ai i5),(6,ai i6)],[]⟩)
def zgF(x0:Sem zf.sl.sl)(x1:Sem zg):Tr (Hx⊕aw):=
 Q9 (Hx.h2 x0 x1 0)
def Dh:Hx->Tr (Hx⊕aw)
 | .h2 l0 i1 i5=>
  br (Q0 (i5<(↑l0.length:Int))) (Q9 (Hx.h5 l0 i1 i5 0)) (re (kb Q4) [])
 | .h5 l0 i1 i5 i6=>
  let a0:=l0.getD i5.toNat (zi zf.sl)
  let a1:=zM i1 (length a0)
  let a2:=getD a0 (toNat i1) (zi zf)
  let a3:=a2.1!=0
  let a4:=l0.getD i6.toNat (zi zf.sl)
  let a5:=getD a4 (toNat i1) (zi zf)
  br (Q0 (i6<i5))
  (Qc (zM i5 l0.length&&(a1&&bif a3 then zM i5 l0.length&&(a1&&(zM i6 l0.length&&zM i1 (length a4)))else Q3))
   (br (bif a3 then a2.1==a5.1&&(a2.2.1==a5.2.1&&(a2.2.2==a5.2.2&&Q3))else Q4) (re (kb Q3) []) (Q9 (Hx.h5 l0 i1 i5 (IntKind.i64.wrap (i6+1))))))
  (Q9 (Hx.h2 l0 i1 (IntKind.i64.wrap (i5+1))))
def ua(x0:Sem zf.sl.sl)(x1:Sem zg):=al [Q7] Dh 100000000 (zgF x0 x1)
def mw(x0:Sem zf.sl.sl)(x1:Sem zg):=(ua x0 x1).isSome
def qv(x0:Sem zf.sl.sl)(x1:Sem zg):=o1 (ua x0 x1)
def zd1:=FT [zf.sl.sl,zg] [Q7] λx=>ua x.1 x.2.1
theorem zak:FK 129 zd1:=kr.T1 (f:=Tryz.f129) (keep:=zhh) (e:=zjQ)
def zgH(x0:Sem zo)(x1:Sem zf.sl):Tr (Empty⊕aw):=
 let a0:=(x0.1,x0.2.1,x0.2.2.1,x0.2.2.2.1,x0.t.1,zm x0.t.2)
 let a1:=getD x1 (toNat x0.2.2.1) (zi zf)
 Qc (wk a0)
 (br (bif ES a0 then Q0 (x0.2.2.1<(↑(length x1):Int))else Q4)
  (Qc (zM x0.2.2.1 (length x1)) (re (agg [ai a1.1,ai a1.2.1,str a1.2.2]) []))
  (re (agg [ai 0,ai 0,str []]) []))
def BT(x0:Sem zo)(x1:Sem zf.sl):=al [zf] t0 100000000 (zgH x0 x1)
def Gv(x0:Sem zo)(x1:Sem zf.sl):=(BT x0 x1).isSome
def M8(x0:Sem zo)(x1:Sem zf.sl):=o1 (BT x0 x1)
def zd3:=FT [zo,zf.sl] [zf] λx=>BT x.1 x.2.1
theorem zan:FK 130 zd3:=kr.T1 (f:=Tryz.f130) (keep:=k0) (e:=e0)
abbrev zhi:=mM [(2,[2,3,5])]
inductive NG where
 |h2 (i5:Int) (z0:zn [CP.d zh]) (z1:zn [CP.d zf])
abbrev zjR:NG->Nat×St
 |.h2 i5 z0 z1=>(2,⟨tm 43 [(2,ptr 0 0),(3,ptr 1 0),(5,ai i5)],[Qa (bC [] [CP.d zh] z0),Qa (bC [] [CP.d zf] z1)]⟩)
def zgI(x0:Sem zh)(x1:Sem zf):Tr (NG⊕aw):=
 Q9 (NG.h2 0 (x0,()) (x1,()))
def TC:NG->Tr (NG⊕aw)
 | .h2 i5 z0 z1=>
  let a0:=(↑(length z0.1.2):Int)
  let a1:=Q0 (i5<a0)
  let a2:=(z0.1.1.1,z0.1.1.2.1,z0.1.1.2.2.1,z0.1.1.2.2.2.1,z0.1.1.t.1,zm z0.1.1.t.2)
  let a3:=zM i5 (length z0.1.2)
  let a4:=getD z0.1.2 i5.toNat (zi zf.sl)
  let a5:=(↑(length a4):Int)
  let a6:=Q0 (z0.1.1.2.2.1<a5)
  let a7:=getD a4 (toNat z0.1.1.2.2.1) (zi zf)
  Qc (bif a1 then wk a2 else Q3)
  (br (bif a1 then ES a2 else Q4)
   (Qc (a3&&bif a6 then a3&&zM z0.1.1.2.2.1 (length a4)else Q3) (br (bif a6 then a7.1==z1.1.1&&(a7.2.1==z1.1.2.1&&(a7.2.2==z1.1.2.2&&Q3))else Q4) (re (ai i5) []) (Q9 (NG.h2 (IntKind.i64.wrap (i5+1)) z0 z1))))
   (re (ai (-1)) []))
def yx(x0:Sem zh)(x1:Sem zf):=al [zg] TC 100000000 (zgI x0 x1)
def Gu(x0:Sem zh)(x1:Sem zf):=(yx x0 x1).isSome
def Li(x0:Sem zh)(x1:Sem zf):=o1 (yx x0 x1)
def zd4:=FT [zh,zf] [zg] λx=>yx x.1 x.2.1
theorem zao:FK 131 zd4:=kr.T1 (f:=Tryz.f131) (keep:=zhi) (e:=zjR)
def Qx:=Qw.addL [(128,zd0),(129,zd1),(130,zd3),(131,zd4)]
theorem rV:zw Qx:=kr.addL<|fc zaj<|fc zak<|fc zan<|fc zao jm
abbrev zgY:=mM [(6,[1,3]),(14,[1,5]),(19,[1,6])]
inductive CZ where
 |h6 (i3:Int) (z0:zn [CP.d zh])
 |h14 (i5:Int) (z0:zn [CP.d zh])
 |h19 (i6:Int) (z0:zn [CP.d zh])
abbrev zjD:CZ->Nat×St
 |.h6 i3 z0=>(6,⟨tm 82 [(1,ptr 0 0),(3,ai i3)],[Qa (bC [] [CP.d zh] z0)]⟩)
 |.h14 i5 z0=>(14,⟨tm 82 [(1,ptr 0 0),(5,ai i5)],[Qa (bC [] [CP.d zh] z0)]⟩)
 |.h19 i6 z0=>(19,⟨tm 82 [(1,ptr 0 0),(6,ai i6)],[Qa (bC [] [CP.d zh] z0)]⟩)
def Rt(x0:Sem zh):Tr (CZ⊕aw):=
 let a0:=(x0.1.1,x0.1.2.1,x0.1.2.2.1,x0.1.2.2.2.1,x0.1.t.1,zm x0.1.t.2)
 Qc (wk a0)
 (br (!ES a0) (re (ai 1) [])
  (br (Q0 ((↑(length x0.2):Int)>200)) (re (ai 13) []) (Q9 (CZ.h6 0 (x0,())))))
def po:CZ->Tr (CZ⊕aw)
 | .h6 i3 z0=>
  let a0:=(↑(length z0.1.2):Int)
  let a1:=(z0.1.1.1,z0.1.1.2.1,z0.1.1.2.2.1,z0.1.1.2.2.2.1,z0.1.1.t.1,zm z0.1.1.t.2)
  let a2:=getD z0.1.2 i3.toNat (zi zf.sl)
  let a3:=Lh a1 a2
  br (Q0 (i3<a0))
  (Qc (zM i3 (length z0.1.2))
   (Qc (Gn a1 a2) (br (a3 !=0) (re (ai a3) []) (Q9 (CZ.h6 (IntKind.i64.wrap (i3+1)) z0)))))
  (Qc (mw z0.1.2 z0.1.1.2.2.1)
   (br (qv z0.1.2 z0.1.1.2.2.1) (re (ai 7) []) (Q9 (CZ.h14 0 z0))))
 | .h14 i5 z0=>
  let a0:=(↑(length z0.1.1.2.2.2.1):Int)
  let a1:=getD z0.1.1.2.2.2.1 i5.toNat (zi zg)
  br (Q0 (i5<a0))
  (Qc (zM i5 (length z0.1.1.2.2.2.1))
   (Qc (mw z0.1.2 a1) (br (qv z0.1.2 a1) (re (ai 7) []) (Q9 (CZ.h14 (IntKind.i64.wrap (i5+1)) z0)))))
  (Q9 (CZ.h19 1 z0))
 | .h19 i6 z0=>
  let a0:=(↑(length z0.1.2):Int)
  let a1:=IntKind.i64.wrap (i6-1)
  let a2:=(z0.1.1.1,z0.1.1.2.1,z0.1.1.2.2.1,z0.1.1.2.2.2.1,z0.1.1.t.1,zm z0.1.1.t.2)
  let a3:=getD z0.1.2 a1.toNat (zi zf.sl)
  let a4:=getD z0.1.2 i6.toNat (zi zf.sl)
  let a5:=M8 a2 a3
  let a6:=M8 a2 a4
  let a7:=tU a5 a6
  br (Q0 (i6<a0))
  (Qc (zM a1 (length z0.1.2))
   (Qc (Gv a2 a3) (Qc (zM i6 (length z0.1.2)) (Qc (Gv a2 a4) (Qc (pd a5 a6) (br (Q0 (a7>0)) (re (ai 15) []) (Q9 (CZ.h19 (IntKind.i64.wrap (i6+1)) z0))))))))
  (re (ai 0) [])
def mv(x0:Sem zh):=al [zg] po 100000000 (Rt x0)
def BR(x0:Sem zh):=(mv x0).isSome
def Gr(x0:Sem zh):=o1 (mv x0)
def zdw:=FT [zh] [zg] λx=>mv x.1
theorem ZL:FK 76 zdw:=rV.T1 (f:=Tryz.f76) (keep:=zgY) (e:=zjD)
abbrev zg0:=mM [(2,[0,3]),(5,[0,3,4]),(12,[0,3,4,5,6,7])]
inductive C0 where
 |h2 (l0:List (Sem zh)) (i3:Int)
 |h5 (l0:List (Sem zh)) (i3:Int) (i4:Int)
 |h12 (l0:List (Sem zh)) (i3:Int) (i4:Int) (i6:Sem zg) (i7:Int) (z0:zn [CP.d zr])
abbrev zjF:C0->Nat×St
 |.h2 l0 i3=>(2,⟨tm 75 [(0,sl zh l0),(3,ai i3)],[]⟩)
 |.h5 l0 i3 i4=>(5,⟨tm 75 [(0,sl zh l0),(3,ai i3),(4,ai i4)],[]⟩)
 |.h12 l0 i3 i4 i6 i7 z0=>(12,⟨tm 75 [(0,sl zh l0),(3,ai i3),(4,ai i4),(5,ptr 0 0),(6,ai i6),(7,ai i7)],[Qa (bC [] [CP.d zr] z0)]⟩)
def zgB(x0:Sem zh.sl):Tr (C0⊕aw):=
 Q9 (C0.h2 x0 0)
def qU:C0->Tr (C0⊕aw)
 | .h2 l0 i3=>
  br (Q0 (i3<(↑l0.length:Int))) (Q9 (C0.h5 l0 i3 0)) (re (kb Q3) [])
 | .h5 l0 i3 i4=>
  let a0:=l0.getD i3.toNat (zi zh)
  let a1:=(↑(length a0.1.t.1):Int)
  let a2:=getD a0.1.t.1 i4.toNat (zi zr)
  let a3:=kL l0 a2.2
  Qc (zM i3 l0.length)
  (br (Q0 (i4<a1))
   (Qc (zM i3 l0.length) (Qc (zM i4 (length a0.1.t.1)) (br (Q0 (a3<0)) (re (kb Q4) []) (Q9 (C0.h12 l0 i3 i4 a3 0 (a2,()))))))
   (Q9 (C0.h2 l0 (IntKind.i64.wrap (i3+1)))))
 | .h12 l0 i3 i4 i6 i7 z0=>
  let a0:=l0.getD i3.toNat (zi zh)
  let a1:=(↑(length a0.2):Int)
  let a2:=getD a0.2 i7.toNat (zi zf.sl)
  let a3:=getD a2 (toNat z0.1.1) (zi zf)
  let a4:=a3.1!=0
  let a5:=l0.getD (toNat i6) (zi zh)
  let a6:=((a5.1.1,a5.1.2.1,a5.1.2.2.1,a5.1.2.2.2.1,a5.1.t.1,zm a5.1.t.2),a5.2)
  let a7:=Li a6 a3
  Qc (zM i3 l0.length)
  (br (Q0 (i7<a1))
   (Qc (zM i3 l0.length) (Qc (zM i7 (length a0.2)) (Qc (zM z0.1.1 (length a2)) (Qc (bif a4 then zM i6 l0.length&&Gu a6 a3 else Q3) (br (bif a4 then Q0 (a7<0)else Q4) (re (kb Q4) []) (Q9 (C0.h12 l0 i3 i4 i6 (IntKind.i64.wrap (i7+1)) z0)))))))
   (Q9 (C0.h5 l0 i3 (IntKind.i64.wrap (i4+1)))))
def ud(x0:Sem zh.sl):=al [Q7] qU 100000000 (zgB x0)
def BU(x0:Sem zh.sl):=(ud x0).isSome
def Gw(x0:Sem zh.sl):=o1 (ud x0)
def zdy:=FT [zh.sl] [Q7] λx=>ud x.1
theorem ZN:FK 77 zdy:=rV.T1 (f:=Tryz.f77) (keep:=zg0) (e:=zjF)
def Qy:=Qx.addL [(76,zdw),(77,zdy)]
theorem AG:zw Qy:=rV.addL<|fc ZL<|fc ZN jm
abbrev zlq:=mM [(4,[0,3]),(9,[0,4])]
inductive XS where
 |h4 (l0:List (Sem zh)) (i3:Int)
 |h9 (l0:List (Sem zh)) (i4:Int)
abbrev e9p:XS->Nat×St
 |.h4 l0 i3=>(4,⟨tm 46 [(0,sl zh l0),(3,ai i3)],[]⟩)
 |.h9 l0 i4=>(9,⟨tm 46 [(0,sl zh l0),(4,ai i4)],[]⟩)
def i9p(x0:Sem zh.sl):Tr (XS⊕aw):=
 br (Q0 ((↑(length x0):Int)>12)) (re (ai 13) []) (Q9 (XS.h4 x0 1))
def TD:XS->Tr (XS⊕aw)
 | .h4 l0 i3=>
  let a0:=IntKind.i64.wrap (i3-1)
  let a1:=l0.getD a0.toNat (zi zh)
  let a2:=l0.getD i3.toNat (zi zh)
  br (Q0 (i3<(↑l0.length:Int)))
  (Qc (zM a0 l0.length)
   (Qc (zM i3 l0.length) (br (!Op.bytesLess a1.1.1 a2.1.1) (re (ai 15) []) (Q9 (XS.h4 l0 (IntKind.i64.wrap (i3+1)))))))
  (Q9 (XS.h9 l0 0))
 | .h9 l0 i4=>
  let a0:=l0.getD i4.toNat (zi zh)
  let a1:=((a0.1.1,a0.1.2.1,a0.1.2.2.1,a0.1.2.2.2.1,a0.1.t.1,zm a0.1.t.2),a0.2)
  let a2:=Gr a1
  br (Q0 (i4<(↑l0.length:Int)))
  (Qc (zM i4 l0.length) (Qc (BR a1) (br (a2 !=0) (re (ai a2) []) (Q9 (XS.h9 l0 (IntKind.i64.wrap (i4+1)))))))
  (Qc (BU l0) (br (!Gw l0) (re (ai 10) []) (re (ai 0) [])))
def pj(x0:Sem zh.sl):=al [zg] TD 100000000 (i9p x0)
def BV(x0:Sem zh.sl):=(pj x0).isSome
def Gy(x0:Sem zh.sl):=o1 (pj x0)
def F9p:=FT [zh.sl] [zg] λx=>pj x.1
theorem zfA:FK 43 F9p:=AG.T1 (f:=Tryz.f43) (keep:=zlq) (e:=e9p)
def Qz:=Qy.add 43 F9p
theorem mU:zw Qz:=AG.add zfA
abbrev zg8:=mM [(4,[0,1,12,13])]
inductive NF where
 |h4 (l0:List (Sem zg)) (l1:List (Sem zg)) (i12:Int) (i13:Int)
abbrev zjL:NF->Nat×St
 |.h4 l0 l1 i12 i13=>(4,⟨tm 26 [(0,sl zg l0),(1,sl zg l1),(12,ai i12),(13,ai i13)],[]⟩)
def VM(x0:Sem zg.sl)(x1:Sem zg.sl):Tr (NF⊕aw):=
 br ((↑(length x0):Int)!=(↑(length x1):Int)) (re (kb Q4) []) (Q9 (NF.h4 x0 x1 (↑(length x0):Int) 0))
def zi1:NF->Tr (NF⊕aw)
 | .h4 l0 l1 i12 i13=>
  br (Q0 (i13<i12))
  (Qc (zM i13 l0.length)
   (Qc (zM i13 l1.length) (br (l0.getD i13.toNat (zi zg)!=l1.getD i13.toNat (zi zg)) (re (kb Q4) []) (Q9 (NF.h4 l0 l1 i12 (IntKind.i64.wrap (i13+1)))))))
  (re (kb Q3) [])
def GV(x0:Sem zg.sl)(x1:Sem zg.sl):=al [Q7] zi1 100000000 (VM x0 x1)
def GU(x0:Sem zg.sl)(x1:Sem zg.sl):=(GV x0 x1).isSome
def nT(x0:Sem zg.sl)(x1:Sem zg.sl):=o1 (GV x0 x1)
def zdS:=FT [zg.sl,zg.sl] [Q7] λx=>GV x.1 x.2.1
theorem Z8:FK 104 zdS:=mU.T1 (f:=Tryz.f104) (keep:=zg8) (e:=zjL)
abbrev zhu:=mM [(4,[0,1,12,13])]
inductive NK where
 |h4 (l0:List (Sem zj)) (l1:List (Sem zj)) (i12:Int) (i13:Int)
abbrev zj0:NK->Nat×St
 |.h4 l0 l1 i12 i13=>(4,⟨tm 26 [(0,sl zj l0),(1,sl zj l1),(12,ai i12),(13,ai i13)],[]⟩)
def VQ(x0:Sem zj.sl)(x1:Sem zj.sl):Tr (NK⊕aw):=
 br ((↑(length x0):Int)!=(↑(length x1):Int)) (re (kb Q4) []) (Q9 (NK.h4 x0 x1 (↑(length x0):Int) 0))
def zi3:NK->Tr (NK⊕aw)
 | .h4 l0 l1 i12 i13=>
  let a0:=l0.getD i13.toNat (zi zj)
  let a1:=l1.getD i13.toNat (zi zj)
  br (Q0 (i13<i12))
  (Qc (zM i13 l0.length)
   (Qc (zM i13 l1.length) (br (!(a0.1==a1.1&&(a0.2.1==a1.2.1&&(a0.2.2==a1.2.2&&Q3)))) (re (kb Q4) []) (Q9 (NK.h4 l0 l1 i12 (IntKind.i64.wrap (i13+1)))))))
  (re (kb Q3) [])
def GR(x0:Sem zj.sl)(x1:Sem zj.sl):=al [Q7] zi3 100000000 (VQ x0 x1)
def Lu(x0:Sem zj.sl)(x1:Sem zj.sl):=(GR x0 x1).isSome
def xv(x0:Sem zj.sl)(x1:Sem zj.sl):=o1 (GR x0 x1)
def zem:=FT [zj.sl,zj.sl] [Q7] λx=>GR x.1 x.2.1
theorem zaF:FK 152 zem:=mU.T1 (f:=Tryz.f152) (keep:=zhu) (e:=zj0)
abbrev zhv:=mM [(4,[0,1,12,13])]
inductive NL where
 |h4 (l0:List (Sem zr)) (l1:List (Sem zr)) (i12:Int) (i13:Int)
abbrev zj1:NL->Nat×St
 |.h4 l0 l1 i12 i13=>(4,⟨tm 26 [(0,sl zr l0),(1,sl zr l1),(12,ai i12),(13,ai i13)],[]⟩)
def VR(x0:Sem zr.sl)(x1:Sem zr.sl):Tr (NL⊕aw):=
 br ((↑(length x0):Int)!=(↑(length x1):Int)) (re (kb Q4) []) (Q9 (NL.h4 x0 x1 (↑(length x0):Int) 0))
def zi4:NL->Tr (NL⊕aw)
 | .h4 l0 l1 i12 i13=>
  let a0:=l0.getD i13.toNat (zi zr)
  let a1:=l1.getD i13.toNat (zi zr)
  br (Q0 (i13<i12))
  (Qc (zM i13 l0.length)
   (Qc (zM i13 l1.length) (br (!(a0.1==a1.1&&(a0.2==a1.2&&Q3))) (re (kb Q4) []) (Q9 (NL.h4 l0 l1 i12 (IntKind.i64.wrap (i13+1)))))))
  (re (kb Q3) [])
def GS(x0:Sem zr.sl)(x1:Sem zr.sl):=al [Q7] zi4 100000000 (VR x0 x1)
def Lv(x0:Sem zr.sl)(x1:Sem zr.sl):=(GS x0 x1).isSome
def xw(x0:Sem zr.sl)(x1:Sem zr.sl):=o1 (GS x0 x1)
def zen:=FT [zr.sl,zr.sl] [Q7] λx=>GS x.1 x.2.1
theorem zaG:FK 153 zen:=mU.T1 (f:=Tryz.f153) (keep:=zhv) (e:=zj1)
def QC:=Qz.addL [(104,zdS),(152,zem),(153,zen)]
theorem AJ:zw QC:=mU.addL<|fc Z8<|fc zaF<|fc zaG jm
def zgE(x0:Sem zo)(x1:Sem zo):Tr (Empty⊕aw):=
 let a0:=x0.1==x1.1
 let a1:=x0.2.2.1==x1.2.2.1
 let a2:=xv x0.2.1 x1.2.1
 let a3:=nT x0.2.2.2.1 x1.2.2.2.1
 let a4:=xw x0.t.1 x1.t.1
 let a5:=zm x0.t.2
 let a6:=zm x1.t.2
 Qc
 (bif a0 then
  bif a1 then Lu x0.2.1 x1.2.1&&bif a2 then GU x0.2.2.2.1 x1.2.2.2.1&&bif a3 then Lv x0.t.1 x1.t.1&&bif a4 then iU 16 a5 a6 else Q3 else Q3 else Q3
  else Q3
 else Q3)
 (re (AV.bool (bif a0 then bif a1 then bif a2 then bif a3 then bif a4 then fh 16 a5 a6 else Q4 else Q4 else Q4 else Q4 else Q4)) [])
def Hd(x0:Sem zo)(x1:Sem zo):=al [Q7] t0 100000000 (zgE x0 x1)
def Hc(x0:Sem zo)(x1:Sem zo):=(Hd x0 x1).isSome
def rA(x0:Sem zo)(x1:Sem zo):=o1 (Hd x0 x1)
def zdR:=FT [zo,zo] [Q7] λx=>Hd x.1 x.2.1
theorem Z7:FK 103 zdR:=AJ.T1 (f:=Tryz.f103) (keep:=k0) (e:=e0)
def QD:=QC.add 103 zdR
theorem Kn:zw QD:=AJ.add Z7
def za9:bX:={Vs with own:=Q3}
theorem Kp:zw za9:=⟨⟨td.sh⟩,td.fs,td.mix⟩
def zbB(x0:Sem zz):Tr (Empty⊕aw):=
 let a0:=[x0.2.1]
 let a1:=[x0.2.2.1]
 br (!x0.2.2.1==[]) (Qc (Q0 (a0.length+a1.length<=1073741824)) (re (AV.vec 0) [AO.vec Q6 (a0++a1)]))
 (re (AV.vec 0) [AO.vec Q6 a0])
def lz(x0:Sem zz):=al [Sh.str.sl] t0 100000000 (zbB x0)
def jr(x0:Sem zz):=(lz x0).isSome
def kG(x0:Sem zz):=o1 (lz x0)
def Y9:=FT [zz] [Sh.str.sl] λx=>lz x.1
theorem ZC:FK 44 Y9:=Kp.T1 (f:=Tryz.f44) (keep:=k0) (e:=e0)
theorem ZD:FK 44 Y9:=ZC
def QE:=QD.add 44 Y9
theorem rW:zw QE:=Kn.add ZD
theorem rx(p:Sem zz):lz p=Q1 (bD p.2.1 p.2.2.1,()):=by
 unfold bD;by_cases h:(p.2.2.1==[])=Q3
 ·rw[if_pos h];refine zN (r:=(.vec 0,[.vec Q6 [p.2.1]])) ?_ rfl;simp only[zbB,Q8,h];rfl
 ·rw[if_neg h];have h:(p.2.2.1==[])=Q4:=by simpa using h
  refine zN (r:=(.vec 0,[.vec Q6 ([p.2.1]++[p.2.2.1])])) ?_ rfl;simp only[zbB,Q8,h];rfl
theorem ru(p:Sem zz):jr p=Q3:=by unfold jr;rw[rx];rfl
theorem tQ(p:Sem zz):kG p=bD p.2.1 p.2.2.1:=by unfold kG;rw[rx];rfl
theorem xj(x:zB):∀(l:List zB)(i:Nat),GE.ge (α:=Int) (ib x l (i:Int)) 0↔x∈l
 | [],i=>by
  rw[ib];exact⟨λh=>absurd h (by decide),λh=>by cases h⟩
 | a::r,i=>by
  rw[ib];split
  ·rename_i h;have:x=a:=by simpa using h
   subst this;exact⟨λ_=>wJ,λ_=>Int.natCast_nonneg i⟩
  ·rename_i h;have:=xj x r (i+1);rw[sP]at this;rw[cj];refine⟨λh2=>.inr (this.1 h2),λh2=>this.2 (h2.resolve_left ?_)⟩;rintro rfl;simp at h
theorem kA(l:List zB)(x:zB):aA l x=Q3↔x∈l:=by
 unfold aA;rw[decide_eq_true_iff];exact xj x l 0
theorem GF{l:List zB}{s:zB}(hl:l.length<=1000000):xt l s=Q3/\Jr l s=aA l s:=by
 have key:Nb l s=Q1 (aA l s,()):=by
  rcases lH (t:=LJ) (Φ:=λr=>r=(.kb Q3,[])) 1 (λi=>.h2 l s (i:Int)) (λi=>∀h:i<l.length,l[i]≠s) l.length (λi hi _=>by
   have hv:(LJ (.h2 l s (i:Int))).val=if(l[i]==s)=Q3 then Q1 (.inr (.kb Q3,[]))else Q1 (.inl (.h2 l s ((i+1:Nat):Int))):=by
    show(LJ (.h2 _ _ _)).val=_;simp only[LJ,Q8,zY _ _ hi,zH hi,zu hi,if_true];rw[zp i um]
   by_cases h:l[i]=s
   ·exact .inr ⟨λk=>k hi h,_,zT.of (by rw[hv,if_pos (by simpa using h)]),rfl⟩
   ·exact .inl ⟨λ_=>h,zQ.of (by rw[hv,if_neg (by simpa using h)])⟩)with⟨h1,h2⟩|⟨h1,r,h2,rfl⟩
  ·have hn:aA l s=Q4:=by
    rw[<-gg,kA];intro hm;obtain⟨j,hj,e⟩:=gL hm;exact h1 j hj hj e
   rw[hn];refine zx (s:=.h2 l s 0) rfl (h2.ends (zT.of (r:=(.kb Q4,[])) ?_)) ow rfl;show(LJ (.h2 _ _ _)).val=_;simp only[LJ,Q8,zA];rfl
  ·have hn:aA l s=Q3:=by
    rw[kA];apply rI;intro hm;exact h1 λi _ hi e=>hm (e▸bq hi)
   rw[hn];exact zx (s:=.h2 l s 0) rfl h2 ow rfl
 exact⟨by unfold xt;rw[key];rfl,by unfold Jr;rw[key];rfl⟩
theorem xh{α:Type}(p:α->Bool):∀(l:List α)(i:Nat),(!Q0 (ae p l i>=0))=Q3↔∀x∈l,p x=Q4
 | [],i=>by
  refine⟨λ_ x hx=>(by cases hx),λ_=>?_⟩;rw[ae];rfl
 | y::r,i=>by
  refine⟨λh=>oU p _ i h,λh=>?_⟩;rw[ae,h y sw];exact(xh p r (i+1)).2 λx hx=>h x (by simp[hx])
theorem Eu{α:Type}(p:α->Bool)(l:List α):Q0 (GE.ge (α:=Int) (ae p l 0) 0)=Q3↔∃x∈l,p x=Q3:=by
 have h:=xh p l 0;constructor
 ·intro h1;apply rI;intro h2;have:=h.2 λx hx=>by
   cases hp:p x
   ·rfl
   ·exact absurd ⟨x,hx,hp⟩ h2
  rw[h1]at this;cases this
 ·rintro⟨x,hx,hp⟩;cases h1:Q0 (GE.ge (α:=Int) (ae p l 0) 0)
  ·have:=h.1 (by rw[h1];rfl) x hx;rw[hp]at this;cases this
  ·rfl
theorem Gb{db:List (Sem zh)}{ns:List zB}(hl:db.length<=1000)(hr:∀x∈db,(x:Sem zh).1.t.1.length<=1000)(hn:ns.length<=1000000):ni db ns=Q1 (dK db ns,()):=by
 have hin:∀i(hi:i<db.length),(¬(!aA ns db[i].1.1&&Q0 (GE.ge (α:=Int) (ae (λf:Sem zr=>aA ns f.2) db[i].1.t.1 0) 0))=Q3/\zQ pp 1002 (.h2 db ns (i:Int)) (.h2 db ns ((i+1:Nat):Int)))\/
   ((!aA ns db[i].1.1&&Q0 (GE.ge (α:=Int) (ae (λf:Sem zr=>aA ns f.2) db[i].1.t.1 0) 0))=Q3/\zT pp 1002 (.h2 db ns (i:Int)) (.kb Q3,[])):=by
  intro i hi;have hx:=hr _ (bq hi);have g:db.getD (i:Int).toNat (zi zh)=db[i]:=zY _ _ hi;have h0:zQ pp 1 (.h2 db ns (i:Int)) (.h5 db ns (i:Int) ((0:Nat):Int)):=zQ.of (by
   show(pp (.h2 _ _ _)).val=_;simp only[pp,Q8,zH hi,if_true];rfl)
  obtain⟨c1,c2⟩:=GF (l:=ns) (s:=db[i].1.1) hn;have hN:(pp (.h5 db ns (i:Int) (db[i].1.t.1.length:Int))).val=Q1 (.inl (.h2 db ns ((i+1:Nat):Int))):=by
   show(pp (.h5 _ _ _ _)).val=_;simp only[pp,Q8,g,zA,zu hi,if_true];rw[zp i um];rfl
  rcases lH (t:=pp) (Φ:=λr=>r=(.kb Q3,[])) 1 (λj=>.h5 db ns (i:Int) (j:Int)) (λj=>∀h:j<db[i].1.t.1.length,¬(!aA ns db[i].1.1&&aA ns (db[i].1.t.1[j]).2)=Q3) db[i].1.t.1.length (λj hj _=>by
   have gj:getD db[i].1.t.1 (j:Int).toNat (zi zr)=db[i].1.t.1[j]:=zY _ _ hj;obtain⟨d1,d2⟩:=GF (l:=ns) (s:=(db[i].1.t.1[j]).2) hn;have hv:(pp (.h5 db ns (i:Int) (j:Int))).val=if(!aA ns db[i].1.1&&aA ns (db[i].1.t.1[j]).2)=Q3 then Q1 (.inr (.kb Q3,[]))else Q1 (.inl (.h5 db ns (i:Int) ((j+1:Nat):Int))):=by
    show(pp (.h5 _ _ _ _)).val=_;simp only[pp,Q8,g,gj,zH hj,zu hi,zu hj,c1,c2,d1,d2,if_true,dl];rw[zp j um];cases aA ns db[i].1.1<;>cases aA ns (db[i].1.t.1[j]).2<;>rfl
   by_cases h:(!aA ns db[i].1.1&&aA ns (db[i].1.t.1[j]).2)=Q3
   ·exact .inr ⟨λk=>k hj h,_,zT.of (by rw[hv,if_pos h]),rfl⟩
   ·exact .inl ⟨λ_=>h,zQ.of (by rw[hv,if_neg h])⟩)with⟨h1,h2⟩|⟨h1,r,h2,rfl⟩
  ·refine .inl ⟨?_,((h0.trans h2).trans (zQ.of hN)).mono ow⟩;intro h;simp only[aD,Eu]at h;obtain⟨a1,f,hf,a2⟩:=h;obtain⟨j,hj,rfl⟩:=gL hf;exact h1 j hj hj (by rw[a1,a2];rfl)
  ·refine .inr ⟨?_,(h0.ends h2).mono ow⟩;apply rI;intro h;refine h1 λj _ hj hc=>h ?_
   simp only[aD]at hc;simp only[aD,Eu];exact⟨hc.1,_,bq hj,hc.2⟩
 rcases lH (t:=pp) (Φ:=λr=>r=(.kb Q3,[])) 1002 (λi=>.h2 db ns (i:Int)) (λi=>∀h:i<db.length,¬(!aA ns db[i].1.1&&Q0 (GE.ge (α:=Int) (ae (λf:Sem zr=>aA ns f.2) db[i].1.t.1 0) 0))=Q3) db.length (λi hi _=>by
  rcases hin i hi with⟨h1,h2⟩|⟨h1,h2⟩
  ·exact .inl ⟨λ_=>h1,h2⟩
  ·exact .inr ⟨λk=>k hi h1,_,h2,rfl⟩)with⟨h1,h2⟩|⟨h1,r,h2,rfl⟩
 ·have hb:dK db ns=Q4:=by
   unfold dK;rw[List.any_eq_false];intro x hx;obtain⟨j,hj,rfl⟩:=gL hx;exact h1 j hj hj
  rw[hb];have hv:(pp (.h2 db ns (db.length:Int))).val=Q1 (.inr (.kb Q4,[])):=by
   show(pp (.h2 _ _ _)).val=_;simp only[pp,Q8,zA];rfl
  exact zx (s:=.h2 db ns 0) rfl (h2.ends (zT.of hv)) ow rfl
 ·have hb:dK db ns=Q3:=by
   unfold dK;apply rI;intro h;rw[gg,List.any_eq_false]at h;exact h1 λi _ hi=>h _ (bq hi)
  rw[hb];exact zx (s:=.h2 db ns 0) rfl h2 ow rfl
theorem I5{db:List (Sem zh)}{ns:List zB}(hl:db.length<=1000)(hr:∀x∈db,(x:Sem zh).1.t.1.length<=1000)(hn:ns.length<=1000000):sA db ns=Q3/\wg db ns=dK db ns:=by
 have h:=Gb hl hr hn;exact⟨by unfold sA;rw[h];rfl,by unfold wg;rw[h];rfl⟩
end
end Cad
