/- The document's writer: each Op. The document's tokens: the program's. The document's cutting of a text: it goes just if the program's does. -/
import Derived.Test.YtkmcdhahdadkpaaGreatDoorK15
import Derived.Test.YtkmcdhahdadkpaaGreatDoorK14
import Derived.Test.YtkmcdhahdadkpaaGreatDoorK11
import Derived.Test.YtkmcdhahdadkpaaGreatDoorK12
import Derived.Test.YtkmcdhahdadkpaaGreatDoorK13
namespace Cad
open Go Go.Proofs
open List renaming drop→Qh,take→Qg
open Tr renaming chk→Qc,«to»→Q9,val→Q8
open AO renaming box→Qa
open Sh renaming bool→Q7,str→Q6
open Bool renaming false→Q4,true→Q3
open Option renaming some→Q1
open Decidable renaming decide→Q0
open Int (toNat)
open List (getD length)
open Tr (chk br re)
open AV (nils agg tup ptr kb str sl)
noncomputable section
set_option maxHeartbeats 4000000
theorem PE{s:Sem zl}(h:oo s)(o:s.1=[99,114,101,97,116,101]):∃r,(gM s).val=Q1 (.inr r)/\rJ r:=by
 obtain⟨c1,c2,c3⟩:=bh h.chk h.cchk (w:=[]) sw;obtain⟨d1,d2,d3⟩:=bh h.whr h.cwhr (w:=[87,72,69,82,69]) sw;have ht:=h.sh.table;have hr:=h.sh.role;have ho:=h.sh.other;have hk:=h.sh.key;have q0:(s.1==[99,114,101,97,116,101])=Q3:=by rw[o];rfl
 simp only[gM,Q8,zk,c1,d1,q0,if_true];obtain⟨e1,e2⟩:=Lv h;have es:qv (s.1,s.2.1,s.2.2.1,s.2.2.2.1,s.t.1,s.t.2.1,s.t.q.1,s.t.q.2.1,s.t.t.1,s.t.t.2.1,s.t.t.q.1,s.t.t.q.2.1,s.t.t.t)=Q3:=e1;rw[if_pos es];refine⟨_,rfl,tF (pj s).1 (s.1,s.2.1,[],[],s.t.1,s.t.2.1,s.t.q.1,s.t.q.2.1,s.t.t.1,[],[],dl,[]) (pj s).2 ?_ ow (eh h (.inr rfl) (.inl rfl) (.inl rfl) (.inl rfl) (.inl rfl) (.inr rfl) (.inr rfl) (.inr rfl))⟩;obtain⟨s1,s2,s3,s4,s5,s6,s7,s8,⟨f1,f2,f3,f4⟩,s10,uw,⟨g1,g2,g3,g4⟩,s13⟩:=s;rfl
theorem Xm{s:Sem zl}(h:oo s)(o:s.1=[100,114,111,112]):∃r,(gM s).val=Q1 (.inr r)/\rJ r:=by
 obtain⟨c1,c2,c3⟩:=bh h.chk h.cchk (w:=[]) sw;obtain⟨d1,d2,d3⟩:=bh h.whr h.cwhr (w:=[87,72,69,82,69]) sw;have ht:=h.sh.table;have hr:=h.sh.role;have ho:=h.sh.other;have hk:=h.sh.key;have q0:(s.1==[99,114,101,97,116,101])=Q4:=by rw[o];rfl
 have q1:(s.1==[100,114,111,112])=Q3:=by rw[o];rfl
 simp only[gM,Q8,zk,c1,d1,q0,q1,if_true,zE,if_false];rw[if_pos (zu sg)];exact⟨_,rfl,tF _ (s.1,s.2.1,[],[],[],[],[],[],dl,[],[],dl,[]) Q3 rfl sg (eh h (.inr rfl) (.inr rfl) (.inr rfl) (.inr rfl) (.inr rfl) (.inr rfl) (.inr rfl) (.inr rfl))⟩
theorem PF{s:Sem zl}(h:oo s)(o:s.1=[100,101,108,101,116,101]):∃r,(gM s).val=Q1 (.inr r)/\rJ r:=by
 obtain⟨c1,c2,c3⟩:=bh h.chk h.cchk (w:=[]) sw;obtain⟨d1,d2,d3⟩:=bh h.whr h.cwhr (w:=[87,72,69,82,69]) sw;have ht:=h.sh.table;have hr:=h.sh.role;have ho:=h.sh.other;have hk:=h.sh.key;have q0:(s.1==[99,114,101,97,116,101])=Q4:=by rw[o];rfl
 have q1:(s.1==[100,114,111,112])=Q4:=by rw[o];rfl
 have q2:(s.1==[105,110,115,101,114,116])=Q4:=by rw[o];rfl
 have q3:(s.1==[117,112,100,97,116,101])=Q4:=by rw[o];rfl
 have q4:(s.1==[100,101,108,101,116,101])=Q3:=by rw[o];rfl
 simp only[gM,Q8,zk,c1,d1,q0,q1,q2,q3,q4,if_true,zE,if_false];rw[d2,if_pos (zu sg),if_pos (zu sg)];refine⟨_,rfl,tF ([68,69,76,69,84,69,32,70,82,79,77,32]++s.2.1++oH [87,72,69,82,69] s.t.t.q.2.1) (s.1,s.2.1,[],[],[],[],[],[],dl,[],[],s.t.t.q.2.1,[]) (bR s.t.t.q.2.1) ?_ ?_ (eh h (.inr rfl) (.inr rfl) (.inr rfl) (.inr rfl) (.inr rfl) (.inr rfl) (.inr rfl) (.inl rfl))⟩;rotate_left 2
 ·obtain⟨s1,s2,s3,s4,s5,s6,s7,s8,⟨f1,f2,f3,f4⟩,s10,uw,⟨g1,g2,g3,g4⟩,s13⟩:=s;rfl
 ·simp;omega
theorem PH{s:Sem zl}(h:oo s)(o:s.1=[115,101,108,101,99,116]):∃r,(gM s).val=Q1 (.inr r)/\rJ r:=by
 obtain⟨c1,c2,c3⟩:=bh h.chk h.cchk (w:=[]) sw;obtain⟨d1,d2,d3⟩:=bh h.whr h.cwhr (w:=[87,72,69,82,69]) sw;have ht:=h.sh.table;have hr:=h.sh.role;have ho:=h.sh.other;have hk:=h.sh.key;have q0:(s.1==[99,114,101,97,116,101])=Q4:=by rw[o];rfl
 have q1:(s.1==[100,114,111,112])=Q4:=by rw[o];rfl
 have q2:(s.1==[105,110,115,101,114,116])=Q4:=by rw[o];rfl
 have q3:(s.1==[117,112,100,97,116,101])=Q4:=by rw[o];rfl
 have q4:(s.1==[100,101,108,101,116,101])=Q4:=by rw[o];rfl
 have q5:(s.1==[115,101,108,101,99,116])=Q3:=by rw[o];rfl
 simp only[gM,Q8,zk,c1,d1,q0,q1,q2,q3,q4,q5,if_true,zE,if_false];rw[d2,if_pos (zu sg),if_pos (zu sg)];refine⟨_,rfl,tF ([83,69,76,69,67,84,32,42,32,70,82,79,77,32]++s.2.1++oH [87,72,69,82,69] s.t.t.q.2.1) (s.1,s.2.1,[],[],[],[],[],[],dl,[],[],s.t.t.q.2.1,[]) (bR s.t.t.q.2.1) ?_ ?_ (eh h (.inr rfl) (.inr rfl) (.inr rfl) (.inr rfl) (.inr rfl) (.inr rfl) (.inr rfl) (.inl rfl))⟩;rotate_left 2
 ·obtain⟨s1,s2,s3,s4,s5,s6,s7,s8,⟨f1,f2,f3,f4⟩,s10,uw,⟨g1,g2,g3,g4⟩,s13⟩:=s;rfl
 ·simp;omega
theorem Xo{s:Sem zl}(h:oo s)(o:s.1=[114,101,97,100]):∃r,(gM s).val=Q1 (.inr r)/\rJ r:=by
 obtain⟨c1,c2,c3⟩:=bh h.chk h.cchk (w:=[]) sw;obtain⟨d1,d2,d3⟩:=bh h.whr h.cwhr (w:=[87,72,69,82,69]) sw;have ht:=h.sh.table;have hr:=h.sh.role;have ho:=h.sh.other;have hk:=h.sh.key;have q0:(s.1==[99,114,101,97,116,101])=Q4:=by rw[o];rfl
 have q1:(s.1==[100,114,111,112])=Q4:=by rw[o];rfl
 have q2:(s.1==[105,110,115,101,114,116])=Q4:=by rw[o];rfl
 have q3:(s.1==[117,112,100,97,116,101])=Q4:=by rw[o];rfl
 have q4:(s.1==[100,101,108,101,116,101])=Q4:=by rw[o];rfl
 have q5:(s.1==[115,101,108,101,99,116])=Q4:=by rw[o];rfl
 have q6:(s.1==[99,111,112,121])=Q4:=by rw[o];rfl
 have q7:(s.1==[106,111,105,110])=Q4:=by rw[o];rfl
 have q8:(s.1==[103,114,111,117,112])=Q4:=by rw[o];rfl
 have q9:(s.1==[114,101,97,100])=Q3:=by rw[o];rfl
 simp only[gM,Q8,zk,c1,d1,q0,q1,q2,q3,q4,q5,q6,q7,q8,q9,if_true,zE,if_false];rw[if_pos (zu sg),if_pos (zu sg),if_pos (zu sg),if_pos (bv (s:=s.t.t.t) ow)];exact⟨_,rfl,tF _ (s.1,s.2.1,[],[],[],[],[],[],dl,[],[],dl,s.t.t.t) (bp s.t.t.t) rfl sg (eh h (.inr rfl) (.inr rfl) (.inr rfl) (.inr rfl) (.inr rfl) (.inr rfl) (.inr rfl) (.inr rfl))⟩
theorem Up{s:Sem zl}(h:oo s)(o:s.1=[119,114,105,116,101]):∃r,(gM s).val=Q1 (.inr r)/\rJ r:=by
 obtain⟨c1,c2,c3⟩:=bh h.chk h.cchk (w:=[]) sw;obtain⟨d1,d2,d3⟩:=bh h.whr h.cwhr (w:=[87,72,69,82,69]) sw;have ht:=h.sh.table;have hr:=h.sh.role;have ho:=h.sh.other;have hk:=h.sh.key;have q0:(s.1==[99,114,101,97,116,101])=Q4:=by rw[o];rfl
 have q1:(s.1==[100,114,111,112])=Q4:=by rw[o];rfl
 have q2:(s.1==[105,110,115,101,114,116])=Q4:=by rw[o];rfl
 have q3:(s.1==[117,112,100,97,116,101])=Q4:=by rw[o];rfl
 have q4:(s.1==[100,101,108,101,116,101])=Q4:=by rw[o];rfl
 have q5:(s.1==[115,101,108,101,99,116])=Q4:=by rw[o];rfl
 have q6:(s.1==[99,111,112,121])=Q4:=by rw[o];rfl
 have q7:(s.1==[106,111,105,110])=Q4:=by rw[o];rfl
 have q8:(s.1==[103,114,111,117,112])=Q4:=by rw[o];rfl
 have q9:(s.1==[114,101,97,100])=Q4:=by rw[o];rfl
 have q10:(s.1==[119,114,105,116,101])=Q3:=by rw[o];rfl
 simp only[gM,Q8,zk,c1,d1,q0,q1,q2,q3,q4,q5,q6,q7,q8,q9,q10,if_true,zE,if_false];rw[if_pos (zu sg),if_pos (zu sg),if_pos (zu sg),if_pos (bv (s:=s.t.t.t) ow)];exact⟨_,rfl,tF _ (s.1,s.2.1,[],[],[],[],[],[],dl,[],[],dl,s.t.t.t) (bp s.t.t.t) rfl sg (eh h (.inr rfl) (.inr rfl) (.inr rfl) (.inr rfl) (.inr rfl) (.inr rfl) (.inr rfl) (.inr rfl))⟩
theorem PI{s:Sem zl}(h:oo s)(o:s.1=[117,110,114,101,97,100]):∃r,(gM s).val=Q1 (.inr r)/\rJ r:=by
 obtain⟨c1,c2,c3⟩:=bh h.chk h.cchk (w:=[]) sw;obtain⟨d1,d2,d3⟩:=bh h.whr h.cwhr (w:=[87,72,69,82,69]) sw;have ht:=h.sh.table;have hr:=h.sh.role;have ho:=h.sh.other;have hk:=h.sh.key;have q0:(s.1==[99,114,101,97,116,101])=Q4:=by rw[o];rfl
 have q1:(s.1==[100,114,111,112])=Q4:=by rw[o];rfl
 have q2:(s.1==[105,110,115,101,114,116])=Q4:=by rw[o];rfl
 have q3:(s.1==[117,112,100,97,116,101])=Q4:=by rw[o];rfl
 have q4:(s.1==[100,101,108,101,116,101])=Q4:=by rw[o];rfl
 have q5:(s.1==[115,101,108,101,99,116])=Q4:=by rw[o];rfl
 have q6:(s.1==[99,111,112,121])=Q4:=by rw[o];rfl
 have q7:(s.1==[106,111,105,110])=Q4:=by rw[o];rfl
 have q8:(s.1==[103,114,111,117,112])=Q4:=by rw[o];rfl
 have q9:(s.1==[114,101,97,100])=Q4:=by rw[o];rfl
 have q10:(s.1==[119,114,105,116,101])=Q4:=by rw[o];rfl
 have q11:(s.1==[117,110,114,101,97,100])=Q3:=by rw[o];rfl
 simp only[gM,Q8,zk,c1,d1,q0,q1,q2,q3,q4,q5,q6,q7,q8,q9,q10,q11,if_true,zE,if_false];rw[if_pos (zu sg),if_pos (zu sg),if_pos (zu sg),if_pos (bv (s:=s.t.t.t) ow)];exact⟨_,rfl,tF _ (s.1,s.2.1,[],[],[],[],[],[],dl,[],[],dl,s.t.t.t) (bp s.t.t.t) rfl sg (eh h (.inr rfl) (.inr rfl) (.inr rfl) (.inr rfl) (.inr rfl) (.inr rfl) (.inr rfl) (.inr rfl))⟩
theorem L8{s:Sem zl}(h:oo s)(o:s.1=[117,110,119,114,105,116,101]):∃r,(gM s).val=Q1 (.inr r)/\rJ r:=by
 obtain⟨c1,c2,c3⟩:=bh h.chk h.cchk (w:=[]) sw;obtain⟨d1,d2,d3⟩:=bh h.whr h.cwhr (w:=[87,72,69,82,69]) sw;have ht:=h.sh.table;have hr:=h.sh.role;have ho:=h.sh.other;have hk:=h.sh.key;have q0:(s.1==[99,114,101,97,116,101])=Q4:=by rw[o];rfl
 have q1:(s.1==[100,114,111,112])=Q4:=by rw[o];rfl
 have q2:(s.1==[105,110,115,101,114,116])=Q4:=by rw[o];rfl
 have q3:(s.1==[117,112,100,97,116,101])=Q4:=by rw[o];rfl
 have q4:(s.1==[100,101,108,101,116,101])=Q4:=by rw[o];rfl
 have q5:(s.1==[115,101,108,101,99,116])=Q4:=by rw[o];rfl
 have q6:(s.1==[99,111,112,121])=Q4:=by rw[o];rfl
 have q7:(s.1==[106,111,105,110])=Q4:=by rw[o];rfl
 have q8:(s.1==[103,114,111,117,112])=Q4:=by rw[o];rfl
 have q9:(s.1==[114,101,97,100])=Q4:=by rw[o];rfl
 have q10:(s.1==[119,114,105,116,101])=Q4:=by rw[o];rfl
 have q11:(s.1==[117,110,114,101,97,100])=Q4:=by rw[o];rfl
 have q12:(s.1==[117,110,119,114,105,116,101])=Q3:=by rw[o];rfl
 simp only[gM,Q8,zk,c1,d1,q0,q1,q2,q3,q4,q5,q6,q7,q8,q9,q10,q11,q12,if_true,zE,if_false];rw[if_pos (zu sg),if_pos (zu sg),if_pos (zu sg),if_pos (bv (s:=s.t.t.t) ow)];exact⟨_,rfl,tF _ (s.1,s.2.1,[],[],[],[],[],[],dl,[],[],dl,s.t.t.t) (bp s.t.t.t) rfl sg (eh h (.inr rfl) (.inr rfl) (.inr rfl) (.inr rfl) (.inr rfl) (.inr rfl) (.inr rfl) (.inr rfl))⟩
theorem Xn{s:Sem zl}(h:oo s)(n0:s.1≠[99,114,101,97,116,101])(n1:s.1≠[100,114,111,112])(n2:s.1≠[105,110,115,101,114,116])(n3:s.1≠[117,112,100,97,116,101])(n4:s.1≠[100,101,108,101,116,101])(n5:s.1≠[115,101,108,101,99,116])(n6:s.1≠[99,111,112,121])(n7:s.1≠[106,111,105,110])(n8:s.1≠[103,114,111,117,112])(n9:s.1≠[114,101,97,100])(n10:s.1≠[119,114,105,116,101])(n11:s.1≠[117,110,114,101,97,100])(n12:s.1≠[117,110,119,114,105,116,101]):∃r,(gM s).val=Q1 (.inr r)/\rJ r:=by
 obtain⟨c1,c2,c3⟩:=bh h.chk h.cchk (w:=[]) sw;obtain⟨d1,d2,d3⟩:=bh h.whr h.cwhr (w:=[87,72,69,82,69]) sw;have ht:=h.sh.table;have hr:=h.sh.role;have ho:=h.sh.other;have hk:=h.sh.key;have q0:(s.1==[99,114,101,97,116,101])=Q4:=bU.2 n0;have q1:(s.1==[100,114,111,112])=Q4:=bU.2 n1;have q2:(s.1==[105,110,115,101,114,116])=Q4:=bU.2 n2;have q3:(s.1==[117,112,100,97,116,101])=Q4:=bU.2 n3;have q4:(s.1==[100,101,108,101,116,101])=Q4:=bU.2 n4;have q5:(s.1==[115,101,108,101,99,116])=Q4:=bU.2 n5;have q6:(s.1==[99,111,112,121])=Q4:=bU.2 n6;have q7:(s.1==[106,111,105,110])=Q4:=bU.2 n7;have q8:(s.1==[103,114,111,117,112])=Q4:=bU.2 n8;have q9:(s.1==[114,101,97,100])=Q4:=bU.2 n9;have q10:(s.1==[119,114,105,116,101])=Q4:=bU.2 n10;have q11:(s.1==[117,110,114,101,97,100])=Q4:=bU.2 n11;have q12:(s.1==[117,110,119,114,105,116,101])=Q4:=bU.2 n12;simp only[gM,Q8,zk,c1,d1,q0,q1,q2,q3,q4,q5,q6,q7,q8,q9,q10,q11,q12,if_true,zE,if_false];exact⟨_,rfl,tF _ (s.1,s.2.1,[],[],[],[],[],[],dl,[],[],dl,[]) Q4 rfl sw (eh h (.inr rfl) (.inr rfl) (.inr rfl) (.inr rfl) (.inr rfl) (.inr rfl) (.inr rfl) (.inr rfl))⟩
def L4(s:Sem zl):zB:=[77,73,71,82,65,84,69,32,67,79,80,89,32]++s.2.1++[32,70,82,79,77,32]++s.2.2.1++[32,40,32]++Lib.join s.2.2.2.1 [32,44,32]++[32,41]++oH [] s.t.t.1
def kH(s:Sem zl):Bool:=(Q0 (∀x∈s.2.2.2.1,zL x=Q3)&&(Q0 (1<=s.2.2.2.1.length)&&Q0 (s.2.2.2.1.length<=8)))&&(bR s.t.t.1&&zL s.2.2.1)
theorem NQ{s:Sem zl}(h:oo s)(o:s.1=[99,111,112,121]):∃t,dA s=Q1 (t,(s.1,s.2.1,s.2.2.1,s.2.2.2.1,[],[],[],[],s.t.t.1,[],[],dl,[]),kH s,())/\t.length<=900000/\(kH s=Q3->t=L4 s):=by
 obtain⟨c1,c2,c3⟩:=bh h.chk h.cchk (w:=[]) sw;obtain⟨d1,d2,d3⟩:=bh h.whr h.cwhr (w:=[87,72,69,82,69]) sw;have ht:=h.sh.table;have hr:=h.sh.role;have ho:=h.sh.other;have hk:=h.sh.key;obtain⟨q0,q1,q2,q3,q4,q5,_,_,_,_,q6⟩:=WK o;obtain⟨t,n1,n2,n3⟩:=LD (l:=s.2.2.2.1) (by have:=h.sh.names.1;omega) h.sh.names.2;have n4:Cf s.2.2.2.1=Q3:=by unfold Cf;rw[n1];rfl
 have n5:GQ s.2.2.2.1=(t,(Q0 (∀x∈s.2.2.2.1,zL x=Q3)&&(Q0 (1<=s.2.2.2.1.length)&&Q0 (s.2.2.2.1.length<=8)))):=by unfold GQ;rw[n1];rfl
 have w1:=bv (s:=s.2.2.1) ow;have w2:=eQ (s:=s.2.2.1) ow;refine⟨[77,73,71,82,65,84,69,32,67,79,80,89,32]++s.2.1++[32,70,82,79,77,32]++s.2.2.1++[32,40,32]++t++[32,41]++oH [] s.t.t.1,?_,sg,?_⟩
 ·have hv:∃b,(gM s).val=Q1 (.inr (.tup [.str ([77,73,71,82,65,84,69,32,67,79,80,89,32]++s.2.1++[32,70,82,79,77,32]++s.2.2.1++[32,40,32]++t++[32,41]++oH [] s.t.t.1),.agg [.str s.1,.str s.2.1,.str s.2.2.1,.sl Q6 s.2.2.2.1,.nils,.str [],.nils,.nils,.str (zf.op s.t.t.1),.int .i64 (zf.v s.t.t.1).1,.int .i64 (zf.v s.t.t.1).2.1,.str (zf.v s.t.t.1).2.2,.str (zf.s s.t.t.1),
    .sl Sh.expr (zf.l s.t.t.1),.nils,.nils,.str [],.int .i64 0,.int .i64 0,.str [],.str [],.nils,.str []],b],[]))/\(b=.bool (kH s)\/(b=.kb Q4/\kH s=Q4)):=by
   unfold kH;simp only[gM,Q8,zk,c1,d1,q0,q1,q2,q3,q4,q5,q6,n4,n5,c2,w1,w2,if_true,zE,if_false]
   iterate 7 rw[if_pos (zu sg)]
   generalize(Q0 (∀x∈s.2.2.2.1,zL x=Q3)&&(Q0 (1<=s.2.2.2.1.length)&&Q0 (s.2.2.2.1.length<=8)))=b1;generalize bR s.t.t.1=b2;cases b1
   ·exact⟨_,rfl,.inr ⟨rfl,rfl⟩⟩
   ·cases b2
    ·exact⟨_,rfl,.inr ⟨rfl,rfl⟩⟩
    ·exact⟨_,rfl,.inl rfl⟩
  obtain⟨b,hv,hb⟩:=hv;refine zI hv ?_;clear hv;obtain⟨s1,s2,s3,s4,s5,s6,s7,s8,⟨f1,f2,f3,f4⟩,s10,uw,⟨g1,g2,g3,g4⟩,s13⟩:=s;rcases hb with rfl|⟨rfl,hb⟩
  ·rfl
  ·rw[hb];rfl
 ·intro hk;have hall:∀x∈s.2.2.2.1,zL x=Q3:=by
   unfold kH at hk;simp only[aD,aO]at hk;exact hk.1.1
  rw[n3 hall];rfl
def pA(s:Sem zl):zB:=[77,73,71,82,65,84,69,32,74,79,73,78,32]++s.2.1++[32,70,82,79,77,32]++s.2.2.1++[32,44,32]++s.t.t.t++[32,79,78,32]++s.t.2.1++oH [] s.t.t.1
def ng(s:Sem zl):Bool:=bR s.t.t.1&&(zL s.2.2.1&&(zL s.t.t.t&&zL s.t.2.1))
theorem NR{s:Sem zl}(h:oo s)(o:s.1=[106,111,105,110]):dA s=Q1 (pA s,(s.1,s.2.1,s.2.2.1,[],[],s.t.2.1,[],[],s.t.t.1,[],[],dl,s.t.t.t),ng s,())/\(pA s).length<=900000:=by
 obtain⟨c1,c2,c3⟩:=bh h.chk h.cchk (w:=[]) sw;obtain⟨d1,d2,d3⟩:=bh h.whr h.cwhr (w:=[87,72,69,82,69]) sw;have ht:=h.sh.table;have hr:=h.sh.role;have ho:=h.sh.other;have hk:=h.sh.key;obtain⟨q0,q1,q2,q3,q4,q5,_,_,_,_,q6,q7⟩:=WL o;have w1:=bv (s:=s.2.2.1) ow;have w2:=eQ (s:=s.2.2.1) ow;have w3:=bv (s:=s.t.t.t) ow;have w4:=eQ (s:=s.t.t.t) ow;have w5:=bv (s:=s.t.2.1) ow;have w6:=eQ (s:=s.t.2.1) ow;refine⟨?_,by unfold pA;simp;omega⟩
 have hv:∃b,(gM s).val=Q1 (.inr (.tup [.str (pA s),.agg [.str s.1,.str s.2.1,.str s.2.2.1,.nils,.nils,.str s.t.2.1,.nils,.nils,.str (zf.op s.t.t.1),.int .i64 (zf.v s.t.t.1).1,.int .i64 (zf.v s.t.t.1).2.1,.str (zf.v s.t.t.1).2.2,.str (zf.s s.t.t.1),
    .sl Sh.expr (zf.l s.t.t.1),.nils,.nils,.str [],.int .i64 0,.int .i64 0,.str [],.str [],.nils,.str s.t.t.t],b],[]))/\(b=.bool (ng s)\/(b=.kb Q4/\ng s=Q4)):=by
  unfold ng pA;simp only[gM,Q8,zk,c1,d1,q0,q1,q2,q3,q4,q5,q6,q7,c2,w1,w2,w3,w4,w5,w6,if_true,zE,if_false]
  iterate 8 rw[if_pos (zu sg)]
  generalize bR s.t.t.1=b1;generalize zL s.2.2.1=b2;generalize zL s.t.t.t=b3;cases b1
  ·exact⟨_,rfl,.inr ⟨rfl,rfl⟩⟩
  ·cases b2
   ·exact⟨_,rfl,.inr ⟨rfl,rfl⟩⟩
   ·cases b3
    ·exact⟨_,rfl,.inr ⟨rfl,rfl⟩⟩
    ·exact⟨_,rfl,.inl rfl⟩
 obtain⟨b,hv,hb⟩:=hv;refine zI hv ?_;clear hv;generalize pA s=tx;obtain⟨s1,s2,s3,s4,s5,s6,s7,s8,⟨f1,f2,f3,f4⟩,s10,uw,⟨g1,g2,g3,g4⟩,s13⟩:=s;rcases hb with rfl|⟨rfl,hb⟩
 ·rfl
 ·rw[hb];rfl
def lF(s:Sem zl):zB:=[77,73,71,82,65,84,69,32,71,82,79,85,80,32]++s.2.1++[32,70,82,79,77,32]++s.2.2.1++[32,66,89,32]++s.2.2.2.1.getD 0 []++[32,83,85,77,32]++s.2.2.2.1.getD 1 []++oH [] s.t.t.1
def gC(s:Sem zl):Bool:=Q0 (s.2.2.2.1.length=2)&&(bR s.t.t.1&&(zL s.2.2.1&&(zL (s.2.2.2.1.getD 0 [])&&zL (s.2.2.2.1.getD 1 []))))
theorem J7{s:Sem zl}(h:oo s)(o:s.1=[103,114,111,117,112]):∃t,dA s=Q1 (t,(s.1,s.2.1,s.2.2.1,s.2.2.2.1,[],[],[],[],s.t.t.1,[],[],dl,[]),gC s,())/\t.length<=900000/\(gC s=Q3->t=lF s):=by
 obtain⟨c1,c2,c3⟩:=bh h.chk h.cchk (w:=[]) sw;obtain⟨d1,d2,d3⟩:=bh h.whr h.cwhr (w:=[87,72,69,82,69]) sw;have ht:=h.sh.table;have hr:=h.sh.role;have ho:=h.sh.other;have hk:=h.sh.key;obtain⟨q0,q1,q2,q3,q4,q5,_,_,_,_,q6,q7,q8⟩:=Tg o;have w1:=bv (s:=s.2.2.1) ow;have w2:=eQ (s:=s.2.2.1) ow;by_cases hlen:s.2.2.2.1.length=2
 ·have l0:((↑(length s.2.2.2.1):Int)!=2)=Q4:=by rw[hlen];rfl
  have n0:(s.2.2.2.1.getD 0 []).length<=1000:=by
   rw[bd,zS ow,du];exact h.sh.names.2 _ (bu _)
  have n1:(s.2.2.2.1.getD 1 []).length<=1000:=by
   rw[bd,zS ow,du];exact h.sh.names.2 _ (bu _)
  have i0:zN 0 (length s.2.2.2.1)=Q3:=by rw[hlen];rfl
  have i1:zN 1 (length s.2.2.2.1)=Q3:=by rw[hlen];rfl
  have g0:getD s.2.2.2.1 (toNat 0) (zi Q6)=s.2.2.2.1.getD 0 []:=rfl;have g1:getD s.2.2.2.1 (toNat 1) (zi Q6)=s.2.2.2.1.getD 1 []:=rfl;have w3:=bv (s:=s.2.2.2.1.getD 0 []) ow;have w4:=eQ (s:=s.2.2.2.1.getD 0 []) ow;have w5:=bv (s:=s.2.2.2.1.getD 1 []) ow;have w6:=eQ (s:=s.2.2.2.1.getD 1 []) ow;refine⟨lF s,?_,by unfold lF;simp at n0 n1⊢;omega,λ_=>rfl⟩
  have hv:∃b,(gM s).val=Q1 (.inr (.tup [.str (lF s),.agg [.str s.1,.str s.2.1,.str s.2.2.1,.sl Q6 s.2.2.2.1,.nils,.str [],.nils,.nils,.str (zf.op s.t.t.1),.int .i64 (zf.v s.t.t.1).1,.int .i64 (zf.v s.t.t.1).2.1,.str (zf.v s.t.t.1).2.2,.str (zf.s s.t.t.1),
    .sl Sh.expr (zf.l s.t.t.1),.nils,.nils,.str [],.int .i64 0,.int .i64 0,.str [],.str [],.nils,.str []],b],[]))/\(b=.bool (gC s)\/(b=.kb Q4/\gC s=Q4)):=by
   unfold gC lF;rw[zu hlen];simp only[gM,Q8,zk,c1,d1,q0,q1,q2,q3,q4,q5,q6,q7,q8,c2,w1,w2,g0,g1,w3,w4,w5,w6,l0,i0,i1,if_true,zE,if_false];generalize s.2.2.2.1.getD 0 []=a0 at n0;generalize s.2.2.2.1.getD 1 []=a1 at n1
   iterate 8 rw[if_pos (zu sg)]
   generalize bR s.t.t.1=b1;generalize zL s.2.2.1=b2;generalize zL a0=b3;cases b1
   ·exact⟨_,rfl,.inr ⟨rfl,rfl⟩⟩
   ·cases b2
    ·exact⟨_,rfl,.inr ⟨rfl,rfl⟩⟩
    ·cases b3
     ·exact⟨_,rfl,.inr ⟨rfl,rfl⟩⟩
     ·exact⟨_,rfl,.inl rfl⟩
  obtain⟨b,hv,hb⟩:=hv;refine zI hv ?_;clear hv;generalize lF s=tx;clear n0 n1 i0 i1 g0 g1 w3 w4 w5 w6;obtain⟨s1,s2,s3,s4,s5,s6,s7,s8,⟨f1,f2,f3,f4⟩,s10,uw,⟨g1,g2,g3,g4⟩,s13⟩:=s;rcases hb with rfl|⟨rfl,hb⟩
  ·rfl
  ·rw[hb];rfl
 ·have l0:((↑(length s.2.2.2.1):Int)!=2)=Q3:=by
   simp only[bne_iff_ne];omega
  have hok:gC s=Q4:=by unfold gC;rw[aj hlen];rfl
  refine⟨[],?_,sw,λhh=>by rw[hok]at hh;cases hh⟩;rw[hok]
  refine zI (r:=(.tup [.str [],.agg [.str s.1,.str s.2.1,.str s.2.2.1,.sl Q6 s.2.2.2.1,.nils,.str [],.nils,.nils,.str (zf.op s.t.t.1),.int .i64 (zf.v s.t.t.1).1,.int .i64 (zf.v s.t.t.1).2.1,.str (zf.v s.t.t.1).2.2,.str (zf.s s.t.t.1),
    .sl Sh.expr (zf.l s.t.t.1),.nils,.nils,.str [],.int .i64 0,.int .i64 0,.str [],.str [],.nils,.str []],.kb Q4],[])) ?_ ?_
  ·simp only[gM,Q8,zk,c1,d1,q0,q1,q2,q3,q4,q5,q6,q7,q8,l0,if_true,zE,if_false]
  ·obtain⟨s1,s2,s3,s4,s5,s6,s7,s8,⟨f1,f2,f3,f4⟩,s10,uw,⟨g1,g2,g3,g4⟩,s13⟩:=s;rfl
theorem fO{s:Sem zl}(h:∃r,(gM s).val=Q1 (.inr r)/\rJ r):N7 (dA s):=by
 obtain⟨r,h1,t,own,ok,h2,h3,h4⟩:=h;exact zj0 h1 h2 h3 h4
theorem C0{s:Sem zl}{st:Ag}(h1:(gM s).val=Q1 (.inl st))(h2:∃r,cU lS 100000000 st=Q1 r/\rJ r):N7 (dA s):=by
 obtain⟨r,h2,t,own,ok,h3,h4,h5⟩:=h2;refine⟨t,own,ok,?_,h4,h5⟩;unfold dA ao cX;rw[h1];show(cU lS 100000000 st).bind _=_;rw[h2];exact h3
theorem PG{s:Sem zl}(h:oo s)(o:s.1=[105,110,115,101,114,116]):N7 (dA s):=by
 obtain⟨c1,c2,c3⟩:=bh h.chk h.cchk (w:=[]) sw;obtain⟨d1,d2,d3⟩:=bh h.whr h.cwhr (w:=[87,72,69,82,69]) sw;have ht:=h.sh.table;have hr:=h.sh.role;have ho:=h.sh.other;have hk:=h.sh.key;have q0:(s.1==[99,114,101,97,116,101])=Q4:=by rw[o];rfl
 have q1:(s.1==[100,114,111,112])=Q4:=by rw[o];rfl
 have q2:(s.1==[105,110,115,101,114,116])=Q3:=by rw[o];rfl
 refine C0 ?_ (zmF h);simp only[gM,Q8,zk,c1,d1,q0,q1,q2,if_true,zE,if_false]
theorem PJ{s:Sem zl}(h:oo s)(o:s.1=[117,112,100,97,116,101]):N7 (dA s):=by
 obtain⟨c1,c2,c3⟩:=bh h.chk h.cchk (w:=[]) sw;obtain⟨d1,d2,d3⟩:=bh h.whr h.cwhr (w:=[87,72,69,82,69]) sw;have ht:=h.sh.table;have hr:=h.sh.role;have ho:=h.sh.other;have hk:=h.sh.key;have q0:(s.1==[99,114,101,97,116,101])=Q4:=by rw[o];rfl
 have q1:(s.1==[100,114,111,112])=Q4:=by rw[o];rfl
 have q2:(s.1==[105,110,115,101,114,116])=Q4:=by rw[o];rfl
 have q3:(s.1==[117,112,100,97,116,101])=Q3:=by rw[o];rfl
 refine C0 ?_ (zmG h (oH [87,72,69,82,69] s.t.t.q.2.1) (bR s.t.t.q.2.1) d3);simp only[gM,Q8,zk,c1,d1,d2,q0,q1,q2,q3,if_true,zE,if_false]
theorem LG{s:Sem zl}(h:oo s):N7 (dA s):=by
 by_cases n0:s.1=[99,114,101,97,116,101]
 ·exact fO (PE h n0)
 by_cases n1:s.1=[100,114,111,112]
 ·exact fO (Xm h n1)
 by_cases n2:s.1=[105,110,115,101,114,116]
 ·exact PG h n2
 by_cases n3:s.1=[117,112,100,97,116,101]
 ·exact PJ h n3
 by_cases n4:s.1=[100,101,108,101,116,101]
 ·exact fO (PF h n4)
 by_cases n5:s.1=[115,101,108,101,99,116]
 ·exact fO (PH h n5)
 by_cases n6:s.1=[99,111,112,121]
 ·obtain⟨t,h1,h2,_⟩:=NQ h n6;exact⟨t,_,_,h1,h2,eh h (.inl rfl) (.inr rfl) (.inr rfl) (.inr rfl) (.inl rfl) (.inr rfl) (.inr rfl) (.inr rfl)⟩
 by_cases n7:s.1=[106,111,105,110]
 ·obtain⟨h1,h2⟩:=NR h n7;exact⟨_,_,_,h1,h2,eh h (.inr rfl) (.inr rfl) (.inr rfl) (.inr rfl) (.inl rfl) (.inr rfl) (.inr rfl) (.inr rfl)⟩
 by_cases n8:s.1=[103,114,111,117,112]
 ·obtain⟨t,h1,h2,_⟩:=J7 h n8;exact⟨t,_,_,h1,h2,eh h (.inl rfl) (.inr rfl) (.inr rfl) (.inr rfl) (.inl rfl) (.inr rfl) (.inr rfl) (.inr rfl)⟩
 by_cases n9:s.1=[114,101,97,100]
 ·exact fO (Xo h n9)
 by_cases n10:s.1=[119,114,105,116,101]
 ·exact fO (Up h n10)
 by_cases n11:s.1=[117,110,114,101,97,100]
 ·exact fO (PI h n11)
 by_cases n12:s.1=[117,110,119,114,105,116,101]
 ·exact fO (L8 h n12)
 exact fO (Xn h n0 n1 n2 n3 n4 n5 n6 n7 n8 n9 n10 n11 n12)
theorem Zi(p:Int->Bool):∀s:zB,cF p s=s.length↔∀c∈s,p c.toNat=Q3
 |[]=>by simp[cF]
 | c::r=>by
  have h1:=yk p r;have h2:=Zi p r;rw[cF];by_cases h:p c.toNat=Q3
  ·rw[if_pos h];simp[h,h2]
  ·rw[if_neg h];simp[h]
theorem zmv(p:Int->Bool)(s:zB):aL p p s=s.length↔∀c∈s,p c.toNat=Q3:=by
 cases s with
 |nil=>simp[aL]
 | cons c r=>
  have h1:=yk p r;have h2:=Zi p r;rw[aL];by_cases h:p c.toNat=Q3
  ·rw[if_pos h];simp[h,h2]
  ·rw[if_neg h];simp[h]
theorem W8:∀s:zB,(bif (↑(length s):Int)==1 then Q0 (0<=Lib.indexByte [40,41,44,61,60,43,45,42] (List.headD s 0))else Q4)=
  (bif s==[40]then Q3 else bif s==[41]then Q3 else bif s==[44]then Q3 else bif s==[61]then Q3 else bif s==[60]then Q3 else bif s==[43]then Q3 else bif s==[45]then Q3 else s==[42])
 |[]=>rfl
 | a::b::r=>by
  have e:((((a::b::r).length:Nat):Int)==1)=Q4:=bU.2 sg;rw[e];simp
 | [c]=>by
  by_cases h1:c=40
  ·subst h1;rfl
  by_cases h2:c=41
  ·subst h2;rfl
  by_cases h3:c=44
  ·subst h3;rfl
  by_cases h4:c=61
  ·subst h4;rfl
  by_cases h5:c=60
  ·subst h5;rfl
  by_cases h6:c=43
  ·subst h6;rfl
  by_cases h7:c=45
  ·subst h7;rfl
  by_cases h8:c=42
  ·subst h8;rfl
  simp[Lib.indexByte,h1,h2,h3,h4,h5,h6,h7,h8,Ne.symm h1,Ne.symm h2,Ne.symm h3,Ne.symm h4,Ne.symm h5,Ne.symm h6,Ne.symm h7,Ne.symm h8]
theorem Jy{t:Sem bW}(hl:t.2.length<=1000000):GN t=Q1 (cd t,()):=by
 obtain⟨k,s⟩:=t;have hl:s.length<=1000000:=hl;by_cases k1:k=(1:Int)
 ·subst k1;refine zI (r:=(.bool (dT s),[])) ?_ ?_
  ·simp only[IG,Q8,wt hl,Ca hl];rfl
  ·rfl
 by_cases k2:k=(2:Int)
 ·subst k2;have hi:(IG ((2,s):Sem bW)).val=Q1 (.inl (.h6 ((0:Nat):Int) ((2,s),()))):=rfl;have hf:=lI (t:=uH) (Φ:=λr=>r=(.kb Q4,[])) 1 (λi=>.h6 (i:Int) ((2,s),())) (λi=>zW (getD s i 0).toNat=Q3) s.length (by
   intro i hi _;have hv:(uH (.h6 (i:Int) ((2,s),()))).val=if(!zW (getD s i 0).toNat)=Q3 then Q1 (.inr (.kb Q4,[]))else Q1 (.inl (.h6 ((i+1:Nat):Int) ((2,s),()))):=by
    show(uH (.h6 _ _)).val=_;unfold uH;simp only[Q8,zH hi,zt hi,aK,eI,fL,if_true];rw[zp i um]
   by_cases h:zW (getD s i 0).toNat=Q3
   ·exact .inl ⟨h,zP.of (by rw[hv,if_neg (by rw[h];simp)])⟩
   ·exact .inr ⟨h,_,zT.of (by rw[hv,if_pos (by simpa using h)]),rfl⟩)
  have hq:=aq (l:=s) (d:=0) (Q:=λc=>zW c.toNat=Q3);have hr:=zmv zW s;have ht:cd ((2,s):Sem bW)=(bif Q0 ((↑(length s):Int)>=1)then bif Q0 ((↑(length s):Int)<=19)then(↑(aL zW zW s):Int)==(↑(length s):Int)else Q4 else Q4):=rfl;rw[ht];rcases hf with⟨h1,h2⟩|⟨h1,r,h2,rfl⟩
  ·have e:((↑(aL zW zW s):Int)==(↑(length s):Int))=Q3:=by rw[hr.2 (hq.1 h1)];simp
   rw[e];refine zw hi (h2.ends (zT.of (r:=(.bool (bif Q0 (1<=(s.length:Int))then Q0 ((s.length:Int)<=19)else Q4),[])) ?_)) ow ?_
   ·show(uH (.h6 _ _)).val=_;unfold uH;simp only[Q8,zA];rfl
   ·show Q1 _=Q1 _;rw[show Q0 ((↑(length s):Int)>=1)=Q0 (1<=(s.length:Int))from rfl];cases Q0 ((s.length:Int)<=19)<;>rfl
  ·have e:((↑(aL zW zW s):Int)==(↑(length s):Int))=Q4:=by
    rw[bU];intro h;exact h1 (hq.2 (hr.1 ow))
   rw[e];refine zw hi h2 ow ?_;show Q1 _=Q1 _;cases Q0 ((↑(length s):Int)>=1)<;>cases Q0 ((↑(length s):Int)<=19)<;>rfl
 by_cases k3:k=(3:Int)
 ·subst k3;refine zI (r:=(.bool (aW (2,0,s)),[])) ?_ ?_
  ·simp only[IG,Q8,kL (v:=(2,0,s)) hl,nl (v:=(2,0,s)) hl];rfl
  ·rfl
 by_cases k4:k=(4:Int)
 ·subst k4;have hs:=W8 s;refine zI (r:=(.bool _,[])) rfl ?_;show Q1 _=Q1 _;rw[show cd ((4,s):Sem bW)=_ from hs]
 have b1:(k==1)=Q4:=bU.2 k1;have b2:(k==2)=Q4:=bU.2 k2;have b3:(k==3)=Q4:=bU.2 k3;have b4:(k==4)=Q4:=bU.2 k4;have c1:((1:Int)==k)=Q4:=bU.2 (Ne.symm k1);have c2:((2:Int)==k)=Q4:=bU.2 (Ne.symm k2);have ht:cd ((k,s):Sem bW)=Q4:=by
  unfold cd;simp[b3,b4,c1,c2]
 rw[ht];refine zI (r:=(.kb Q4,[])) ?_ rfl;simp only[IG,Q8,b1,b2,b3,b4];rfl
theorem ug{t:Sem bW}(hl:t.2.length<=1000000):iy t=Q3:=by unfold iy;rw[Jy hl];rfl
theorem yH{t:Sem bW}(hl:t.2.length<=1000000):lB t=cd t:=by unfold lB;rw[Jy hl];rfl
abbrev rK:=Option (List (Sem zr))
abbrev oL(o:rK):List (Sem zr):=o.getD []
abbrev V9(s:zB)(i:Int):rK->eb
 |none=>.h3 s i
 |some l=>.h3b s i l
abbrev RH(s:zB)(i c f:Int)(z:zn [CP.d zr]):rK->eb
 |none=>.h11 s i c f z
 |some l=>.h11b s i c f z l
abbrev RI(s:zB)(i c f:Int)(z:zn [CP.d zr]):rK->eb
 |none=>.h15 s i c f z
 |some l=>.h15b s i c f z l
abbrev KT(s:zB)(i:Int)(z:zn [CP.d zr]):rK->eb
 |none=>.h20 s i z
 |some l=>.h20b s i z l
abbrev rNo:ar:=(.tup [.nils,.kb Q4],[])
def P3(r:ar)(b:Bool):Prop:=∃l,aM r.2 [Sh.sl zr,Q7] r.1=Q1 (l,b,())
theorem TO:P3 rNo Q4:=⟨[],rfl⟩
def Kl(s:zB)(j:Nat)(t:Sem bW)(o:rK):eb⊕ar:=if cd t=Q3 then .inl (V9 s (j:Int) (Q1 (oL o++[t])))else .inr rNo
theorem jB(s:zB){j:Nat}(h:j<s.length):Qg (((j+1:Nat):Int).toNat-(j:Int).toNat) (Qh (j:Int).toNat s)=[s[j]]:=by
 rw[aK,aK,show j+1-j=1 by omega,fu h];rfl
theorem v20{s:zB}{j:Nat}{acc:zB}(hl:s.length<=1000000)(hj:j<s.length)(ha:acc.length<=1000000):∀{o:rK},(oL o).length<=1000000->(cM (KT s (j:Int) ((3,acc),()) o)).val=Q1 (
  if s[j]≠39 then .inl (KT s ((j+1:Nat):Int) ((3,acc++[s[j]]),()) o)
  else if s[j+1]?=Q1 39 then .inl (KT s ((j+2:Nat):Int) ((3,acc++[39]),()) o)
  else Kl s (j+1) (3,acc) o):=by
 intro o ho;have w1:IntKind.i64.wrap ((j:Int)+1)=((j+1:Nat):Int):=zp j um;have w2:IntKind.i64.wrap (((j+1:Nat):Int)+1)=((j+2:Nat):Int):=zp (j+1) um;have g1:(Q0 (0<=(j:Int))&&Q0 ((j:Int)<=((j+1:Nat):Int))&&Q0 (((j+1:Nat):Int)<=(↑(length s):Int)))=Q3:=by simp;omega
 have g2:Q0 ((↑(length s):Int)<=(j:Int))=Q4:=aj ow;have g3:Q0 ((j:Int)>=(↑(length s):Int))=Q4:=aj ow;have hM:lB ((3,acc):Sem zr)=cd ((3,acc):Sem bW):=yH (t:=((3,acc):Sem bW)) ha;have hMC:iy ((3,acc):Sem zr)=Q3:=ug (t:=((3,acc):Sem bW)) ha;have hS:(acc.length+[s[j]].length<=1099511627776):=by simp;omega
 by_cases c1:s[j]=39
 ·have b1:((↑s[j].toNat:Int)!=39)=Q4:=by simp[bne,qW.2 c1]
  have b2:((↑s[j].toNat:Int)==39)=Q3:=qW.2 c1;by_cases c2:s[j+1]?=Q1 39
  ·obtain⟨hj1,c3⟩:=cZ.1 c2;have b3:((↑s[j+1].toNat:Int)==39)=Q3:=qW.2 c3;have d1:Q0 (((j+1:Nat):Int)<(↑(length s):Int))=Q3:=zu ow;rw[if_neg (by simpa using c1),if_pos c2];cases o with
   | none=>
    show(cM (.h20 _ _ _)).val=_;simp only[cM,w1,w2,bZ s hj,jB s hj,zH hj,zt hj,zt hj1,d1,b1,b2,b3,bZ s hj1,Q8,ah,ay,dH,if_true,g1,zu hS];rw[c1]
   | some l=>
    show(cM (.h20b _ _ _ _)).val=_;simp only[cM,w1,w2,bZ s hj,jB s hj,zH hj,zt hj,zt hj1,d1,b1,b2,b3,bZ s hj1,Q8,ah,ay,dH,if_true,g1,zu hS];rw[c1]
  ·rw[if_neg (by simpa using c1),if_neg c2];have e:(bif Q0 (((j+1:Nat):Int)<(↑(length s):Int))then(↑(getD s ((j+1:Nat):Int).toNat 0).toNat:Int)==39 else Q4)=Q4:=by
    by_cases hj1:j+1<s.length
    ·rw[zu ow,bZ s hj1];simp only[ah];rw[<-gq,qW];intro h;exact c2 (cZ.2 ⟨hj1,h⟩)
    ·rw[aj ow];rfl
   have e2:(bif Q0 (((j+1:Nat):Int)<(↑(length s):Int))then zN ((j+1:Nat):Int) (length s)else Q3)=Q3:=by
    by_cases hj1:j+1<s.length
    ·rw[zt hj1];cases Q0 (((j+1:Nat):Int)<(↑(length s):Int))<;>rfl
    ·rw[aj ow];rfl
   unfold Kl;cases o with
   | none=>
    show(cM (.h20 _ _ _)).val=_;simp only[cM,w1,w2,bZ s hj,jB s hj,zH hj,zt hj,b1,b2,e,e2,Q8,ah,ay,dH,if_true,zE,if_false,g3,hMC,hM];by_cases m:cd ((3,acc):Sem bW)=Q3
    ·simp[m]
    ·simp[m]
   | some l=>
    have hl2:(l.length+[((3,acc):Sem zr)].length<=1073741824):=by have:l.length<=1000000:=ho;simp;omega
    show(cM (.h20b _ _ _ _)).val=_;simp only[cM,w1,w2,bZ s hj,jB s hj,zH hj,zt hj,b1,b2,e,e2,Q8,ah,ay,dH,if_true,zE,if_false,g3,hMC,hM,zu hl2];by_cases m:cd ((3,acc):Sem bW)=Q3
    ·simp[m]
    ·simp[m]
 ·have b1:((↑s[j].toNat:Int)!=39)=Q3:=by simp only[bne,wP];rw[<-gq,qW];exact c1
  have b2:((↑s[j].toNat:Int)==39)=Q4:=by rw[<-gq,qW];exact c1
  rw[if_pos c1];cases o with
  | none=>
   show(cM (.h20 _ _ _)).val=_;simp only[cM,w1,w2,bZ s hj,jB s hj,zH hj,zt hj,b1,b2,Q8,ah,dH,if_true,zE,if_false,g1,zu hS]
  | some l=>
   show(cM (.h20b _ _ _ _)).val=_;simp only[cM,w1,w2,bZ s hj,jB s hj,zH hj,zt hj,b1,b2,Q8,ah,dH,if_true,zE,if_false,g1,zu hS]
theorem zmE{s:zB}{acc:zB}:∀{o:rK},(cM (KT s (s.length:Int) ((3,acc),()) o)).val=Q1 (.inr rNo):=by
 intro o;have g3:Q0 ((↑(length s):Int)>=(↑(length s):Int))=Q3:=zu (Int.le_refl _);cases o with
 | none=>
  show(cM (.h20 _ _ _)).val=_;simp only[cM,zA,Q8,ay,if_true,zE,if_false,g3]
 | some l=>
  show(cM (.h20b _ _ _ _)).val=_;simp only[cM,zA,Q8,ay,if_true,zE,if_false,g3]
theorem l20{s:zB}{o:rK}(hl:s.length<=1000000)(ho:(oL o).length<=1000000):∀(n j:Nat)(acc:zB),s.length-j<=n->j<=s.length->acc.length<=j->
  (eR (s.drop j)=none->zT cM (n+1) (KT s (j:Int) ((3,acc),()) o) rNo)/\
  (∀t k,eR (s.drop j)=Q1 (t,k)->∀K r,(match Kl s (j+k) (3,acc++t) o with|.inl h=>zT cM K h r|.inr r'=>r'=r)->zT cM (K+k) (KT s (j:Int) ((3,acc),()) o) r)
 | n, j,acc,hn,hj,ha=>by
  by_cases hlt:j<s.length
  ·have hv:=v20 (o:=o) (acc:=acc) hl hlt ow ho;rw[fu hlt];by_cases c1:s[j]=39
   ·rw[if_neg (by simpa using c1)]at hv;by_cases c2:s[j+1]?=Q1 39
    ·rw[if_pos c2]at hv;obtain⟨hj1,c3⟩:=cZ.1 c2;obtain⟨n,rfl⟩:∃m,n=m+1:=⟨n-1,ow⟩;obtain⟨i1,i2⟩:=l20 hl ho n (j+2) (acc++[39]) ow ow sg;rw[fu hj1,c1,c3,JQ,show j+1+1=j+2 from rfl];refine⟨λh=>?_,λt k h K r hr=>?_⟩
     ·rw[Option.map_eq_none_iff]at h;exact((zP.of hv).ends (i1 h))
     ·rw[ef]at h;obtain⟨⟨t',k'⟩,h1,h2⟩:=h;simp only[cv]at h2;obtain⟨rfl,rfl⟩:=h2;have:=i2 t' k' h1 K r (by rw[An];rw[show j+2+k'=j+(k'+2) by omega];exact hr);exact((zP.of hv).ends this).mono ow
    ·rw[if_neg c2]at hv;rw[c1,CB _ (by rw[List.head?_drop];exact c2)];refine⟨λh=>(by cases h),λt k h K r hr=>?_⟩;simp only[bz,cv]at h;obtain⟨rfl,rfl⟩:=h;rw[wS]at hr;revert hv hr;cases Kl s (j+1) (3,acc) o with
     |inl h=>intro hv hr;exact(zP.of hv).ends hr
     |inr r'=>intro hv hr;cases hr;exact(zT.of hv).mono ow
   ·rw[if_pos c1]at hv;obtain⟨n,rfl⟩:∃m,n=m+1:=⟨n-1,ow⟩;obtain⟨i1,i2⟩:=l20 hl ho n (j+1) (acc++[s[j]]) ow ow sg;rw[Fa c1];refine⟨λh=>?_,λt k h K r hr=>?_⟩
    ·rw[Option.map_eq_none_iff]at h;exact((zP.of hv).ends (i1 h))
    ·rw[ef]at h;obtain⟨⟨t',k'⟩,h1,h2⟩:=h;simp only[cv]at h2;obtain⟨rfl,rfl⟩:=h2;have:=i2 t' k' h1 K r (by rw[An];rw[show j+1+k'=j+(k'+1) by omega];exact hr);exact((zP.of hv).ends this).mono ow
  ·obtain rfl:j=s.length:=by omega
   rw[jo];exact⟨λ_=>(zT.of zmE).mono ow,λt k h=>(by simp[eR]at h)⟩
theorem zmB{s:zB}{j:Nat}{c f:Int}{z:zn [CP.d zr]}(hl:s.length<=1000000)(hj:j<s.length)(hp:bq s[j].toNat=Q3):∀{o:rK},(cM (RH s (j:Int) c f z o)).val=Q1 (.inl (RH s ((j+1:Nat):Int) c f z o)):=by
 intro o;have w1:IntKind.i64.wrap ((j:Int)+1)=((j+1:Nat):Int):=zp j um;cases o with
 | none=>
  show(cM (.h11 _ _ _ _ _)).val=_;simp only[cM,bZ s hj,zH hj,zt hj,qB,uk,hp,w1,Q8,ah,oC,if_true]
 | some l=>
  show(cM (.h11b _ _ _ _ _ _)).val=_;simp only[cM,bZ s hj,zH hj,zt hj,qB,uk,hp,w1,Q8,ah,oC,if_true]
theorem zmA{s:zB}{j f:Nat}{c:UInt8}{z:zn [CP.d zr]}(hl:s.length<=1000000)(hj:j<=s.length)(hf:f<=j)(hp:∀h:j<s.length,bq s[j].toNat=Q4)(h1:zW c.toNat=Q4)(h2:c≠39):
  ∀{o:rK},(oL o).length<=1000000->(cM (RH s (j:Int) (c.toNat:Int) (f:Int) z o)).val=Q1 (Kl s j (1,Qg (j-f) (Qh f s)) o):=by
 intro o ho;have e1:(bif Q0 ((j:Int)<(↑(length s):Int))then zN (j:Int) (length s)&&qA (↑(getD s (j:Int).toNat 0).toNat:Int)else Q3)=Q3:=by
  by_cases h:j<s.length
  ·rw[zt h,qB];cases Q0 ((j:Int)<(↑(length s):Int))<;>rfl
  ·rw[aj ow];rfl
 have e2:(bif Q0 ((j:Int)<(↑(length s):Int))then wu (↑(getD s (j:Int).toNat 0).toNat:Int)else Q4)=Q4:=by
  by_cases h:j<s.length
  ·rw[bZ s h,uk,hp h];cases Q0 ((j:Int)<(↑(length s):Int))<;>rfl
  ·rw[aj ow];rfl
 have g1:(Q0 (0<=(f:Int))&&Q0 ((f:Int)<=(j:Int))&&Q0 ((j:Int)<=(↑(length s):Int)))=Q3:=by simp;omega
 have b2:((c.toNat:Int)==39)=Q4:=by rw[<-gq,qW];exact h2
 have hlen:(Qg (j-f) (Qh f s)).length<=1000000:=by simp;omega
 have hM:lB ((1,Qg (j-f) (Qh f s)):Sem zr)=cd (1,Qg (j-f) (Qh f s)):=yH (t:=((1,Qg (j-f) (Qh f s)):Sem bW)) hlen;have hMC:iy ((1,Qg (j-f) (Qh f s)):Sem zr)=Q3:=ug (t:=((1,Qg (j-f) (Qh f s)):Sem bW)) hlen;unfold Kl;cases o with
 | none=>
  show(cM (.h11 _ _ _ _ _)).val=_;simp only[cM,e1,e2,g1,eI,fL,h1,b2,Q8,if_true,zE,if_false];simp only[aK,hMC,hM,if_true];generalize Qg (j-f) (Qh f s)=T;by_cases m:cd (1,T)=Q3
  ·simp[m]
  ·simp[m]
 | some l=>
  have hl2:(l.length+[((1,Qg (j-f) (Qh f s)):Sem zr)].length<=1073741824):=by have:l.length<=1000000:=ho;simp;omega
  show(cM (.h11b _ _ _ _ _ _)).val=_;simp only[cM,e1,e2,g1,eI,fL,h1,b2,Q8,if_true,zE,if_false];simp only[aK,hMC,hM,zu hl2,if_true];generalize Qg (j-f) (Qh f s)=T;by_cases m:cd (1,T)=Q3
  ·simp[m]
  ·simp[m]
theorem zmD{s:zB}{j:Nat}{c f:Int}{z:zn [CP.d zr]}(hl:s.length<=1000000)(hj:j<s.length)(hp:zW s[j].toNat=Q3):∀{o:rK},(cM (RI s (j:Int) c f z o)).val=Q1 (.inl (RI s ((j+1:Nat):Int) c f z o)):=by
 intro o;have w1:IntKind.i64.wrap ((j:Int)+1)=((j+1:Nat):Int):=zp j um;cases o with
 | none=>
  show(cM (.h15 _ _ _ _ _)).val=_;simp only[cM,bZ s hj,zH hj,zt hj,eI,fL,hp,w1,Q8,ah,oC,if_true]
 | some l=>
  show(cM (.h15b _ _ _ _ _ _)).val=_;simp only[cM,bZ s hj,zH hj,zt hj,eI,fL,hp,w1,Q8,ah,oC,if_true]
theorem zmC{s:zB}{j f:Nat}{c:UInt8}{z:zn [CP.d zr]}(hl:s.length<=1000000)(hj:j<=s.length)(hf:f<=j)(hp:∀h:j<s.length,zW s[j].toNat=Q4)(h2:c≠39):
  ∀{o:rK},(oL o).length<=1000000->(cM (RI s (j:Int) (c.toNat:Int) (f:Int) z o)).val=Q1 (Kl s j (2,Qg (j-f) (Qh f s)) o):=by
 intro o ho;have e1:(bif Q0 ((j:Int)<(↑(length s):Int))then zN (j:Int) (length s)&&fC (↑(getD s (j:Int).toNat 0).toNat:Int)else Q3)=Q3:=by
  by_cases h:j<s.length
  ·rw[zt h,eI];cases Q0 ((j:Int)<(↑(length s):Int))<;>rfl
  ·rw[aj ow];rfl
 have e2:(bif Q0 ((j:Int)<(↑(length s):Int))then gG (↑(getD s (j:Int).toNat 0).toNat:Int)else Q4)=Q4:=by
  by_cases h:j<s.length
  ·rw[bZ s h,fL,hp h];cases Q0 ((j:Int)<(↑(length s):Int))<;>rfl
  ·rw[aj ow];rfl
 have g1:(Q0 (0<=(f:Int))&&Q0 ((f:Int)<=(j:Int))&&Q0 ((j:Int)<=(↑(length s):Int)))=Q3:=by simp;omega
 have b2:((c.toNat:Int)==39)=Q4:=by rw[<-gq,qW];exact h2
 have hlen:(Qg (j-f) (Qh f s)).length<=1000000:=by simp;omega
 have hM:lB ((2,Qg (j-f) (Qh f s)):Sem zr)=cd (2,Qg (j-f) (Qh f s)):=yH (t:=((2,Qg (j-f) (Qh f s)):Sem bW)) hlen;have hMC:iy ((2,Qg (j-f) (Qh f s)):Sem zr)=Q3:=ug (t:=((2,Qg (j-f) (Qh f s)):Sem bW)) hlen;unfold Kl;cases o with
 | none=>
  show(cM (.h15 _ _ _ _ _)).val=_;simp only[cM,e1,e2,g1,b2,Q8,if_true,zE,if_false];simp only[aK,hMC,hM,if_true];generalize Qg (j-f) (Qh f s)=T;by_cases m:cd (2,T)=Q3
  ·simp[m]
  ·simp[m]
 | some l=>
  have hl2:(l.length+[((2,Qg (j-f) (Qh f s)):Sem zr)].length<=1073741824):=by have:l.length<=1000000:=ho;simp;omega
  show(cM (.h15b _ _ _ _ _ _)).val=_;simp only[cM,e1,e2,g1,b2,Q8,if_true,zE,if_false];simp only[aK,hMC,hM,zu hl2,if_true];generalize Qg (j-f) (Qh f s)=T;by_cases m:cd (2,T)=Q3
  ·simp[m]
  ·simp[m]
theorem F2{p:Int->Bool}{s:zB}(st:Nat->eb)(hs:∀j(hj:j<s.length),p s[j].toNat=Q3->(cM (st j)).val=Q1 (.inl (st (j+1)))):∀(n j:Nat),s.length-j<=n->j<=s.length->
  zP cM (cF p (s.drop j)) (st j) (st (j+cF p (s.drop j)))/\j+cF p (s.drop j)<=s.length/\∀h:j+cF p (s.drop j)<s.length,p s[j+cF p (s.drop j)].toNat=Q4
 | n,j,hn,hj=>by
  by_cases hlt:j<s.length
  ·by_cases hp:p s[j].toNat=Q3
   ·obtain⟨n,rfl⟩:∃m,n=m+1:=⟨n-1,ow⟩;have e:cF p (s.drop j)=cF p (s.drop (j+1))+1:=by rw[fu hlt,cF,if_pos hp]
    obtain⟨i1,i2,i3⟩:=F2 st hs n (j+1) ow ow;have e2:j+cF p (s.drop j)=j+1+cF p (s.drop (j+1)):=by omega
    refine⟨?_,ow,?_⟩
    ·rw[e2,e];exact((zP.of (hs j hlt hp)).trans i1).mono ow
    ·intro h;simp only[e2]at h⊢;exact i3 h
   ·have e:cF p (s.drop j)=0:=by rw[fu hlt,cF,if_neg hp]
    rw[e];exact⟨zP.refl _,ow,λ_=>by simpa using hp⟩
  ·have e:cF p (s.drop j)=0:=by rw[Aj ow];rfl
   rw[e];exact⟨zP.refl _,ow,λh=>absurd h ow⟩
theorem v3{s:zB}{i:Nat}(hl:s.length<=1000000)(hi:i<s.length):∀{o:rK},(oL o).length<=1000000->∃z,(cM (V9 s (i:Int) o)).val=Q1 (
  if(bif (s[i].toNat:Int)==32 then Q3 else(s[i].toNat:Int)==10)=Q3 then .inl (V9 s ((i+1:Nat):Int) o)
  else if aI s[i].toNat=Q3 then .inl (RH s ((i+1:Nat):Int) s[i].toNat i z o)
  else if zW s[i].toNat=Q3 then .inl (RI s ((i+1:Nat):Int) s[i].toNat i z o)
  else if s[i]=39 then .inl (KT s ((i+1:Nat):Int) ((3,[]),()) o)
  else Kl s (i+1) (4,[s[i]]) o):=by
 intro o ho;refine⟨((4,[s[i]]),()),?_⟩;have w1:IntKind.i64.wrap ((i:Int)+1)=((i+1:Nat):Int):=zp i um;have g1:(Q0 (0<=(i:Int))&&Q0 ((i:Int)<=((i+1:Nat):Int))&&Q0 (((i+1:Nat):Int)<=(↑(length s):Int)))=Q3:=by simp;omega
 have hM:lB ((4,[s[i]]):Sem zr)=cd (4,[s[i]]):=yH (t:=((4,[s[i]]):Sem bW)) sw;have hMC:iy ((4,[s[i]]):Sem zr)=Q3:=ug (t:=((4,[s[i]]):Sem bW)) sw;have h39:s[i]=39↔((s[i].toNat:Int)==39)=Q3:=qW.symm;unfold Kl;simp only[h39];cases o with
 | none=>
  show(cM (.h3 _ _)).val=_;simp only[cM,w1,bZ s hi,jB s hi,zH hi,zt hi,g1,lC,nA,eI,fL,Q8,if_true,hMC,hM];repeat' split
  all_goals first|rfl|simp_all
 | some l=>
  have hl2:(l.length+[((4,[s[i]]):Sem zr)].length<=1073741824):=by have:l.length<=1000000:=ho;simp;omega
  show(cM (.h3b _ _ _)).val=_;simp only[cM,w1,bZ s hi,jB s hi,zH hi,zt hi,g1,lC,nA,eI,fL,Q8,if_true,hMC,hM,zu hl2];repeat' split
  all_goals first|rfl|simp_all
theorem OU{c:UInt8}(h:aI c.toNat=Q3):zW c.toNat=Q4/\c≠39:=by
 have h39:aI ((39:UInt8).toNat:Int)=Q4:=rfl;constructor
 ·have h65:(65:Int)<=(c.toNat:Int):=by
   by_cases k:(65:Int)<=(c.toNat:Int)
   ·exact k
   ·exfalso;have k1:Q0 ((c.toNat:Int)>=97)=Q4:=aj ow;have k2:Q0 ((c.toNat:Int)>=65)=Q4:=aj ow;unfold aI at h;rw[k1,k2]at h;cases h
  have k3:Q0 ((c.toNat:Int)<=57)=Q4:=aj ow;unfold zW;rw[k3];cases Q0 ((c.toNat:Int)>=48)<;>rfl
 ·rintro rfl;rw[h39]at h;cases h
theorem QG{c:UInt8}(h:zW c.toNat=Q3):c≠39:=by
 have h39:zW ((39:UInt8).toNat:Int)=Q4:=rfl;rintro rfl;rw[h39]at h;cases h
theorem B9{s:zB}(hl:s.length<=1000000):∀(n i:Nat)(o:rK),s.length+1<=n+i->i<=s.length->(oL o).length<=i->∃r,zT cM (3*(s.length-i)+3) (V9 s (i:Int) o) r/\P3 r (vj n (s.drop i) (oL o).length)
 |0,i,o,h1,h2,h3=>by omega
 | n + 1,i,o,h1,h2,h3=>by
  by_cases hi:i<s.length
  ·obtain⟨z,hv⟩:=v3 (o:=o) hl hi ow;rw[fu hi,vj];have hdrop:Qh i s=s[i]::Qh (i+1) s:=fu hi;have next:∀(j:Nat)(t:Sem bW),i<j->j<=s.length->∃r,(match Kl s j t o with|.inl h=>zT cM (3*(s.length-j)+3) h r|.inr r'=>r'=r)/\P3 r (if cd t=Q3 then vj n (s.drop j) ((oL o).length+1)else Q4):=by
    intro j t hj1 hj2;unfold Kl;by_cases m:cd t=Q3
    ·rw[if_pos m,if_pos m];obtain⟨r,a1,a2⟩:=B9 hl n j (Q1 (oL o++[t])) ow hj2 sg;refine⟨r,a1,?_⟩;have:(oL (Q1 (oL o++[t]))).length=(oL o).length+1:=by simp
     rw[this]at a2;exact a2
    ·rw[if_neg m,if_neg m];exact⟨rNo,rfl,TO⟩
   by_cases c0:(bif (s[i].toNat:Int)==32 then Q3 else(s[i].toNat:Int)==10)=Q3
   ·rw[if_pos c0]at hv⊢;obtain⟨r,a1,a2⟩:=B9 hl n (i+1) o ow ow ow;exact⟨r,((zP.of hv).ends a1).mono ow,a2⟩
   ·rw[if_neg c0]at hv⊢;unfold oR;by_cases c1:aI s[i].toNat=Q3
    ·rw[if_pos c1]at hv⊢;obtain⟨b1,b2⟩:=OU c1;obtain⟨p1,p2,p3⟩:=F2 (p:=bq) (s:=s) (λj=>RH s (j:Int) (s[i].toNat:Int) (i:Int) z o) (λj hj hp=>zmB hl hj hp) s.length (i+1) ow ow;have hx:=zmA (z:=z) (c:=s[i]) (f:=i) hl p2 ow p3 b1 b2 (o:=o) ow;rw[show i+1+cF bq (Qh (i+1) s)-i=cF bq (Qh (i+1) s)+1 by omega,hdrop]at hx;obtain⟨r,a1,a2⟩:=next (i+1+cF bq (Qh (i+1) s)) (1,(s[i]::Qh (i+1) s).take (cF bq (Qh (i+1) s)+1)) ow p2
     refine⟨r,?_,?_⟩
     ·revert hx a1;cases Kl s (i+1+cF bq (Qh (i+1) s)) (1,(s[i]::Qh (i+1) s).take (cF bq (Qh (i+1) s)+1)) o with
      |inl h=>intro hx a1;exact(((zP.of hv).trans p1).ends ((zP.of hx).ends a1)).mono ow
      |inr r'=>intro hx a1;cases a1;exact(((zP.of hv).trans p1).ends (zT.of hx)).mono ow
     ·rw[<-hdrop,DK];rw[show i+(cF bq (Qh (i+1) s)+1)=i+1+cF bq (Qh (i+1) s) by omega];rw[hdrop];exact a2
    ·rw[if_neg c1]at hv⊢;by_cases c2:zW s[i].toNat=Q3
     ·rw[if_pos c2]at hv⊢;have b2:=QG c2;obtain⟨p1,p2,p3⟩:=F2 (p:=zW) (s:=s) (λj=>RI s (j:Int) (s[i].toNat:Int) (i:Int) z o) (λj hj hp=>zmD hl hj hp) s.length (i+1) ow ow;have hx:=zmC (z:=z) (c:=s[i]) (f:=i) hl p2 ow p3 b2 (o:=o) ow;rw[show i+1+cF zW (Qh (i+1) s)-i=cF zW (Qh (i+1) s)+1 by omega,hdrop]at hx;obtain⟨r,a1,a2⟩:=next (i+1+cF zW (Qh (i+1) s)) (2,(s[i]::Qh (i+1) s).take (cF zW (Qh (i+1) s)+1)) ow p2
      refine⟨r,?_,?_⟩
      ·revert hx a1;cases Kl s (i+1+cF zW (Qh (i+1) s)) (2,(s[i]::Qh (i+1) s).take (cF zW (Qh (i+1) s)+1)) o with
       |inl h=>intro hx a1;exact(((zP.of hv).trans p1).ends ((zP.of hx).ends a1)).mono ow
       |inr r'=>intro hx a1;cases a1;exact(((zP.of hv).trans p1).ends (zT.of hx)).mono ow
      ·rw[<-hdrop,DK];rw[show i+(cF zW (Qh (i+1) s)+1)=i+1+cF zW (Qh (i+1) s) by omega];rw[hdrop];exact a2
     ·rw[if_neg c2]at hv⊢;by_cases c3:s[i]=39
      ·rw[if_pos c3]at hv⊢;obtain⟨q1,q2⟩:=l20 (o:=o) hl ow (s.length-(i+1)) (i+1) [] (az _) ow sw;cases hs:eR (Qh (i+1) s)with
       | none=>
        have hm:cd ((0,[]):Sem bW)=Q4:=rfl;simp only[hm,zE,if_false];exact⟨rNo,((zP.of hv).ends (q1 hs)).mono ow,TO⟩
       | some x=>
        obtain⟨t,k⟩:=x;obtain⟨k1,k2,_⟩:=qJ _ _ _ _ (az _) hs;have k2:k<=s.length-(i+1):=by simpa using k2
        obtain⟨r,a1,a2⟩:=next (i+1+k) (3,t) ow ow
        refine⟨r,((zP.of hv).ends (q2 t k hs _ r a1)).mono ow,?_⟩;simp only;rw[<-hdrop,DK,show i+(k+1)=i+1+k by omega];exact a2
      ·rw[if_neg c3]at hv⊢;obtain⟨r,a1,a2⟩:=next (i+1) (4,[s[i]]) ow ow
       refine⟨r,?_,a2⟩;revert hv a1;cases Kl s (i+1) (4,[s[i]]) o with
       |inl h=>intro hv a1;exact((zP.of hv).ends a1).mono ow
       |inr r'=>intro hv a1;cases a1;exact(zT.of hv).mono ow
  ·obtain rfl:i=s.length:=by omega
   rw[jo,vj];cases o with
   | none=>
    refine⟨(.tup [.nils,.bool Q3],[]),(zT.of ?_).mono ow,[],rfl⟩;show(cM (.h3 _ _)).val=_;simp only[cM,zA,Q8];rfl
   | some l=>
    refine⟨(.tup [.vec 0,.bool (Q0 ((↑l.length:Int)<=400))],[.vec zr l]),(zT.of ?_).mono ow,l,?_⟩
    ·show(cM (.h3b _ _ _)).val=_;simp only[cM,zA,Q8];rfl
    ·have e:Q0 ((↑l.length:Int)<=400)=Q0 (l.length<=400):=by
      by_cases h:l.length<=400
      ·rw[zu h];exact zu ow
      ·rw[aj h];exact aj ow
     rw[e];rfl
theorem Jw{s:zB}(hl:s.length<=1000000):∃l,GM s=Q1 (l,(cut s).2==(0:Int),()):=by
 obtain⟨r,h1,l,h2⟩:=B9 hl (s.length+1) 0 none ow ow sw;have h3:=Az (s.length+1) s 0 [] ow ow ow sw;have hc:((cut s).2==(0:Int))=vj (s.length+1) (s.drop 0) ([]:List (Sem zr)).length:=h3;refine⟨l,?_⟩;rw[hc];exact zw (s:=V9 s ((0:Nat):Int) none) rfl h1 ow h2
theorem TK{s:zB}(hl:s.length<=1000000):GL s=Q3:=by
 obtain⟨l,h⟩:=Jw hl;unfold GL;rw[h];rfl
theorem WU{s:zB}(hl:s.length<=1000000):(xw s).2=((cut s).2==(0:Int)):=by
 obtain⟨l,h⟩:=Jw hl;unfold xw;rw[h];rfl
theorem sy{α:Type}(p:α->Bool):∀(l:List α)(i:Nat),(!Q0 (zU p l i>=0))=Q3↔∀x∈l,p x=Q4
 | [],i=>by
  refine⟨λ_ x hx=>(by cases hx),λ_=>?_⟩;rw[zU];rfl
 | y::r,i=>by
  refine⟨λh=>oY p _ i h,λh=>?_⟩;rw[zU,h y sw];exact(sy p r (i+1)).2 λx hx=>h x (by simp[hx])
theorem ja{x:Sem zl}(h4:x.2.2.2.1.length<=1000)(h5:x.2.2.2.2.1.length<=1000)(h7:x.2.2.2.2.2.2.1.length<=1000)(h8:x.2.2.2.2.2.2.2.1.length<=1000)(h10:x.2.2.2.2.2.2.2.2.2.1.length<=1000)(h11:x.2.2.2.2.2.2.2.2.2.2.1.length<=1000):
  ez x=Q3↔x.2.1=[]/\x.2.2.1=[]/\x.2.2.2.2.2.1=[]/\x.2.2.2.2.2.2.2.2.2.2.2.2=[]/\x.2.2.2.1=[]/\x.2.2.2.2.1=[]/\x.2.2.2.2.2.2.1=[]/\x.2.2.2.2.2.2.2.1=[]/\x.2.2.2.2.2.2.2.2.2.1=[]/\x.2.2.2.2.2.2.2.2.2.2.1=[]/\x.2.2.2.2.2.2.2.2.1=dl/\x.2.2.2.2.2.2.2.2.2.2.2.1=dl:=by
 unfold ez
 have hw:(IntKind.i64.wrap (IntKind.i64.wrap (IntKind.i64.wrap (IntKind.i64.wrap (IntKind.i64.wrap ((↑(length x.2.2.2.1):Int)+(↑(length x.2.2.2.2.1):Int))+(↑(length x.2.2.2.2.2.2.1):Int))+(↑(length x.2.2.2.2.2.2.2.1):Int))+(↑(length x.2.2.2.2.2.2.2.2.2.1):Int))+(↑(length x.2.2.2.2.2.2.2.2.2.2.1):Int)))=
   ((x.2.2.2.1.length+x.2.2.2.2.1.length+x.2.2.2.2.2.2.1.length+x.2.2.2.2.2.2.2.1.length+x.2.2.2.2.2.2.2.2.2.1.length+x.2.2.2.2.2.2.2.2.2.2.1.length:Nat):Int):=by
  have g:∀n:Nat,n<=10000->IntKind.i64.wrap (n:Int)=(n:Int):=λn hn=>Uq n (by omega)
  rw[<-sT,g _ (by omega),<-sT,g _ (by omega),<-sT,g _ (by omega),<-sT,g _ (by omega),<-sT,g _ (by omega)]
 rw[hw];constructor
 ·intro h;obtain⟨k1,h⟩:=cn h;obtain⟨k2,h⟩:=cn h;obtain⟨k3,k4⟩:=cn h;simp only[ba,List.append_eq_nil_iff]at k1;obtain⟨⟨⟨a1,a2⟩,a3⟩,a4⟩:=k1;have k2:x.2.2.2.1.length+x.2.2.2.2.1.length+x.2.2.2.2.2.2.1.length+x.2.2.2.2.2.2.2.1.length+x.2.2.2.2.2.2.2.2.2.1.length+x.2.2.2.2.2.2.2.2.2.2.1.length=0:=by
   have:=bE k2;exact Int.ofNat.inj this
  refine⟨a1,a2,a3,a4,?_,?_,?_,?_,?_,?_,j4.1 k3,j4.1 k4⟩<;>exact xI (by omega)
 ·rintro⟨a1,a2,a3,a4,a5,a6,a7,a8,a9,a10,a11,a12⟩;rw[a1,a2,a3,a4,a5,a6,a7,a8,a9,a10,a11,a12,show gR dl=Q3 from rfl];rfl
theorem T6(s:Sem zl):dY s=(eZ s&&((cut (iB s)).2==0)):=by
 unfold dY pn;cases eZ s
 ·rfl
 ·show((if((cut (iB s)).2!=0)=Q3 then(([],1):Sem Q6×Sem zg)else(iB s,0)).2==0)=_;cases h:((cut (iB s)).2==0)
  ·have:((cut (iB s)).2!=0)=Q3:=by simp only[bne,h];rfl
   rw[if_pos this];rfl
  ·have:((cut (iB s)).2!=0)=Q4:=by simp only[bne,h];rfl
   rw[this];rfl
theorem SQ(s:zB):bP s=zL s:=rfl
theorem E3{s:Sem zl}(h:oo s){t:zB}{own:Sem zl}{ok:Bool}(hw:dA s=Q1 (t,own,ok,()))(hl:t.length<=900000)(hc:Ac own):
  ∃t',nB s=Q1 (t',(ok&&(zL s.2.1&&(eX own s&&((cut t).2==(0:Int))))),()):=by
 have hn:=h.sh.table;have e1:up s=Q3:=by unfold up;rw[hw];rfl
 have e2:yL s=(t,own,ok):=by unfold yL;rw[hw];rfl
 obtain⟨s1,_⟩:=qD (b:=s) hc;have n1:=bv (s:=s.2.1) ow;have n2:=eQ (s:=s.2.1) ow;have k1:=TK (s:=t) ow;have k2:=WU (s:=t) ow;have es:up (s.1,s.2.1,s.2.2.1,s.2.2.2.1,s.t.1,s.t.2.1,s.t.q.1,s.t.q.2.1,s.t.t.1,s.t.t.2.1,s.t.t.q.1,s.t.t.q.2.1,s.t.t.t)=Q3:=e1;have ew:yL (s.1,s.2.1,s.2.2.1,s.2.2.2.1,s.t.1,s.t.2.1,s.t.q.1,s.t.q.2.1,s.t.t.1,s.t.t.2.1,s.t.t.q.1,s.t.t.q.2.1,s.t.t.t)=(t,own,ok):=e2;have ss:yJ (own.1,own.2.1,own.2.2.1,own.2.2.2.1,own.t.1,own.t.2.1,own.t.q.1,own.t.q.2.1,own.t.t.1,own.t.t.2.1,own.t.t.q.1,own.t.t.q.2.1,own.t.t.t) (s.1,s.2.1,s.2.2.1,s.2.2.2.1,s.t.1,s.t.2.1,s.t.q.1,s.t.q.2.1,s.t.t.1,s.t.t.2.1,s.t.t.q.1,s.t.t.q.2.1,s.t.t.t)=Q3:=s1;have sv:eX (own.1,own.2.1,own.2.2.1,own.2.2.2.1,own.t.1,own.t.2.1,own.t.q.1,own.t.q.2.1,own.t.t.1,own.t.t.2.1,own.t.t.q.1,own.t.t.q.2.1,own.t.t.t) (s.1,s.2.1,s.2.2.1,s.2.2.2.1,s.t.1,s.t.2.1,s.t.q.1,s.t.q.2.1,s.t.t.1,s.t.t.2.1,s.t.t.q.1,s.t.t.q.2.1,s.t.t.t)=eX own s:=rfl;have hv:∃t' b,(zck s).val=Q1 (.inr (.tup [.str t',b],[]))/\(b=.kb Q3/\(ok&&(zL s.2.1&&(eX own s&&((cut t).2==(0:Int)))))=Q3\/(b=.kb Q4/\(ok&&(zL s.2.1&&(eX own s&&((cut t).2==(0:Int)))))=Q4)):=by
  simp only[zck,Q8,zk,es,ew,ss,sv,n1,n2,k1,k2,if_true];generalize eX own s=b1;generalize zL s.2.1=b2;generalize((cut t).2==(0:Int))=b3;cases ok<;>cases b2<;>cases b1<;>cases b3<;>first|exact⟨_,_,rfl,.inl ⟨rfl,rfl⟩⟩|exact⟨_,_,rfl,.inr ⟨rfl,rfl⟩⟩
 obtain⟨t',b,hv,hb⟩:=hv;refine⟨t',zI hv ?_⟩;rcases hb with⟨rfl,hb⟩|⟨rfl,hb⟩<;>rw[hb]<;>rfl
theorem LA{s:Sem zl}(h:oo s):∃t b,nB s=Q1 (t,b,()):=by
 obtain⟨t,own,ok,h1,h2,h3⟩:=LG h;obtain⟨t',h4⟩:=E3 h h1 h2 h3;exact⟨t',_,h4⟩
theorem Ng{s:Sem zl}(h:oo s)(o:s.1=[99,111,112,121]):eZ s=(kH s&&(zL s.2.1&&eX (s.1,s.2.1,s.2.2.1,s.2.2.2.1,[],[],[],[],s.2.2.2.2.2.2.2.2.1,[],[],dl,[]) s)):=by
 have hn:=h.sh.names.1;have hc:=h.sh.cols.1;have hq:=h.sh.uniques.1;have hr:=h.sh.refs.1;have hw:=h.sh.row;have hs:=h.sh.sets.1;obtain⟨p0,p1,p2,p3,p4,p5,p6,p7,p8,p9,p10⟩:=WK o;obtain⟨_,hp⟩:=eA (s:=s) (g:=_) (b:=_) (by simp only[tA,Q8,p0,p1,p2,p3,p4,p5,p6,p7,p8,p9,p10,if_true,if_false,zE,zk];exact rfl);obtain⟨_,hsame⟩:=qD (a:=(s.1,s.2.1,s.2.2.1,s.2.2.2.1,[],[],[],[],s.2.2.2.2.2.2.2.2.1,[],[],dl,[])) (b:=s) (eh h (.inl rfl) (.inr rfl) (.inr rfl) (.inr rfl) (.inl rfl) (.inr rfl) (.inr rfl) (.inr rfl));have hem:=ja (x:=(s.1,[],[],[],s.2.2.2.2.1,s.2.2.2.2.2.1,s.2.2.2.2.2.2.1,s.2.2.2.2.2.2.2.1,dl,s.2.2.2.2.2.2.2.2.2.1,s.2.2.2.2.2.2.2.2.2.2.1,s.2.2.2.2.2.2.2.2.2.2.2.1,s.2.2.2.2.2.2.2.2.2.2.2.2)) (by simp) (by simpa using cG hc (by omega)) (by simpa using cG hq (by omega)) (by simpa using cG hr (by omega)) (by simpa using cG hw (by omega)) (by simpa using cG hs (by omega));have hec:ea (s.1,[],[],[],s.2.2.2.2.1,s.2.2.2.2.2.1,s.2.2.2.2.2.2.1,s.2.2.2.2.2.2.2.1,dl,s.2.2.2.2.2.2.2.2.2.1,s.2.2.2.2.2.2.2.2.2.2.1,s.2.2.2.2.2.2.2.2.2.2.2.1,s.2.2.2.2.2.2.2.2.2.2.2.2)=Q3:=fM (by simp) (by simp) (by have:=h.sh.key;simpa using this) (by have:=h.sh.role;simpa using this);rw[hp];apply ig.2;have hown:eX (s.1,s.2.1,s.2.2.1,s.2.2.2.1,[],[],[],[],s.2.2.2.2.2.2.2.2.1,[],[],dl,[]) s=Q3↔ez (s.1,[],[],[],s.2.2.2.2.1,s.2.2.2.2.2.1,s.2.2.2.2.2.2.1,s.2.2.2.2.2.2.2.1,dl,s.2.2.2.2.2.2.2.2.2.1,s.2.2.2.2.2.2.2.2.2.2.1,s.2.2.2.2.2.2.2.2.2.2.2.1,s.2.2.2.2.2.2.2.2.2.2.2.2)=Q3:=by
  rw[hsame,hem];obtain⟨s1,s2,s3,s4,s5,s6,s7,s8,s9,s10,uw,s12,s13⟩:=s;simp only[cv,true_and];constructor
  ·intro k;simp_all
  ·intro k;simp_all
 have hix:=sy (λx=>!bP x) s.2.2.2.1 0;have hnm:(!Q0 (zU (λx=>!bP x) s.2.2.2.1 0>=0))=Q0 (∀x∈s.2.2.2.1,zL x=Q3):=by
  apply ig.2;rw[hix,HS];exact⟨λk x hx=>by have:=k x hx;simpa[SQ]using this,λk x hx=>by have:=k x hx;simpa[SQ]using this⟩
 have hlb:(bif Q0 ((↑(length s.2.2.2.1):Int)<1)then Q3 else Q0 ((↑(length s.2.2.2.1):Int)>8))=!(Q0 (1<=s.2.2.2.1.length)&&Q0 (s.2.2.2.1.length<=8)):=by
  by_cases a:1<=s.2.2.2.1.length
  ·rw[aj (show¬(↑(length s.2.2.2.1):Int)<1 by omega),zu a];by_cases b:s.2.2.2.1.length<=8
   ·rw[aj (show¬(↑(length s.2.2.2.1):Int)>8 by omega),zu b];rfl
   ·rw[zu (show(↑(length s.2.2.2.1):Int)>8 by omega),aj b];rfl
  ·rw[zu (show(↑(length s.2.2.2.1):Int)<1 by omega),aj a];rfl
 rw[hnm,hlb,hec];unfold kH;rw[show bP s.2.1=zL s.2.1 from rfl,show bP s.2.2.1=zL s.2.2.1 from rfl];rw[ig.2 hown];generalize ez _=b1;generalize bR s.2.2.2.2.2.2.2.2.1=b2;generalize zL s.2.1=b3;generalize zL s.2.2.1=b4;generalize Q0 (∀x∈s.2.2.2.1,zL x=Q3)=b5;generalize(Q0 (1<=s.2.2.2.1.length)&&Q0 (s.2.2.2.1.length<=8))=b6;cases b1<;>cases b2<;>cases b3<;>cases b4<;>cases b5<;>cases b6<;>simp
theorem Nh{s:Sem zl}(h:oo s)(o:s.1=[106,111,105,110]):eZ s=(ng s&&(zL s.2.1&&eX (s.1,s.2.1,s.2.2.1,[],[],s.t.2.1,[],[],s.t.t.1,[],[],dl,s.t.t.t) s)):=by
 have hn:=h.sh.names.1;have hc:=h.sh.cols.1;have hq:=h.sh.uniques.1;have hr:=h.sh.refs.1;have hw:=h.sh.row;have hs:=h.sh.sets.1;obtain⟨p0,p1,p2,p3,p4,p5,p6,p7,p8,p9,p10,p11⟩:=WL o;obtain⟨_,hp⟩:=eA (s:=s) (g:=_) (b:=_) (by simp only[tA,Q8,p0,p1,p2,p3,p4,p5,p6,p7,p8,p9,p10,p11,if_true,if_false,zE,zk];exact rfl);obtain⟨_,hsame⟩:=qD (a:=(s.1,s.2.1,s.2.2.1,[],[],s.t.2.1,[],[],s.t.t.1,[],[],dl,s.t.t.t)) (b:=s) (eh h (.inr rfl) (.inr rfl) (.inr rfl) (.inr rfl) (.inl rfl) (.inr rfl) (.inr rfl) (.inr rfl));have hem:=ja (x:=(s.1,[],[],s.2.2.2.1,s.t.1,[],s.t.q.1,s.t.q.2.1,dl,s.t.t.2.1,s.t.t.q.1,s.t.t.q.2.1,[])) (by simpa using cG hn ow) (by simpa using cG hc ow) (by simpa using cG hq ow) (by simpa using cG hr ow) (by simpa using cG hw ow) (by simpa using cG hs ow);have hec:ea (s.1,[],[],s.2.2.2.1,s.t.1,[],s.t.q.1,s.t.q.2.1,dl,s.t.t.2.1,s.t.t.q.1,s.t.t.q.2.1,[])=Q3:=fM sw sw sw sw;rw[hp];apply ig.2;have hown:eX (s.1,s.2.1,s.2.2.1,[],[],s.t.2.1,[],[],s.t.t.1,[],[],dl,s.t.t.t) s=Q3↔ez (s.1,[],[],s.2.2.2.1,s.t.1,[],s.t.q.1,s.t.q.2.1,dl,s.t.t.2.1,s.t.t.q.1,s.t.t.q.2.1,[])=Q3:=by
  rw[hsame,hem];obtain⟨s1,s2,s3,s4,s5,s6,s7,s8,s9,s10,uw,s12,s13⟩:=s;simp only[cv,true_and];constructor
  ·intro k;simp_all
  ·intro k;simp_all
 rw[hec];unfold ng;rw[show bP s.2.1=zL s.2.1 from rfl,show bP s.2.2.1=zL s.2.2.1 from rfl,show bP s.t.2.1=zL s.t.2.1 from rfl,show bP s.t.t.t=zL s.t.t.t from rfl];rw[ig.2 hown];generalize ez _=b1;generalize bR s.t.t.1=b2;generalize zL s.2.1=b3;generalize zL s.2.2.1=b4;generalize zL s.t.2.1=b5;generalize zL s.t.t.t=b6;cases b1<;>cases b2<;>cases b3<;>cases b4<;>cases b5<;>cases b6<;>simp
theorem Jc{s:Sem zl}(h:oo s)(o:s.1=[103,114,111,117,112]):eZ s=(gC s&&(zL s.2.1&&eX (s.1,s.2.1,s.2.2.1,s.2.2.2.1,[],[],[],[],s.2.2.2.2.2.2.2.2.1,[],[],dl,[]) s)):=by
 have hn:=h.sh.names.1;have hc:=h.sh.cols.1;have hq:=h.sh.uniques.1;have hr:=h.sh.refs.1;have hw:=h.sh.row;have hs:=h.sh.sets.1;obtain⟨p0,p1,p2,p3,p4,p5,p6,p7,p8,p9,p10,p11,p12⟩:=Tg o;obtain⟨_,hp⟩:=eA (s:=s) (g:=_) (b:=_) (by simp only[tA,Q8,p0,p1,p2,p3,p4,p5,p6,p7,p8,p9,p10,p11,p12,if_true,if_false,zE,zk];exact rfl);obtain⟨_,hsame⟩:=qD (a:=(s.1,s.2.1,s.2.2.1,s.2.2.2.1,[],[],[],[],s.2.2.2.2.2.2.2.2.1,[],[],dl,[])) (b:=s) (eh h (.inl rfl) (.inr rfl) (.inr rfl) (.inr rfl) (.inl rfl) (.inr rfl) (.inr rfl) (.inr rfl));have hem:=ja (x:=(s.1,[],[],[],s.2.2.2.2.1,s.2.2.2.2.2.1,s.2.2.2.2.2.2.1,s.2.2.2.2.2.2.2.1,dl,s.2.2.2.2.2.2.2.2.2.1,s.2.2.2.2.2.2.2.2.2.2.1,s.2.2.2.2.2.2.2.2.2.2.2.1,s.2.2.2.2.2.2.2.2.2.2.2.2)) (by simp) (by simpa using cG hc (by omega)) (by simpa using cG hq (by omega)) (by simpa using cG hr (by omega)) (by simpa using cG hw (by omega)) (by simpa using cG hs (by omega));have hec:ea (s.1,[],[],[],s.2.2.2.2.1,s.2.2.2.2.2.1,s.2.2.2.2.2.2.1,s.2.2.2.2.2.2.2.1,dl,s.2.2.2.2.2.2.2.2.2.1,s.2.2.2.2.2.2.2.2.2.2.1,s.2.2.2.2.2.2.2.2.2.2.2.1,s.2.2.2.2.2.2.2.2.2.2.2.2)=Q3:=fM (by simp) (by simp) (by have:=h.sh.key;simpa using this) (by have:=h.sh.role;simpa using this);rw[hp];apply ig.2;have hown:eX (s.1,s.2.1,s.2.2.1,s.2.2.2.1,[],[],[],[],s.2.2.2.2.2.2.2.2.1,[],[],dl,[]) s=Q3↔ez (s.1,[],[],[],s.2.2.2.2.1,s.2.2.2.2.2.1,s.2.2.2.2.2.2.1,s.2.2.2.2.2.2.2.1,dl,s.2.2.2.2.2.2.2.2.2.1,s.2.2.2.2.2.2.2.2.2.2.1,s.2.2.2.2.2.2.2.2.2.2.2.1,s.2.2.2.2.2.2.2.2.2.2.2.2)=Q3:=by
  rw[hsame,hem];obtain⟨s1,s2,s3,s4,s5,s6,s7,s8,s9,s10,uw,s12,s13⟩:=s;simp only[cv,true_and];constructor
  ·intro k;simp_all
  ·intro k;simp_all
 have hix:=sy (λx=>!bP x) s.2.2.2.1 0;have hlb:(bif bif Q0 ((↑(length s.2.2.2.1):Int)<2)then Q3 else Q0 ((↑(length s.2.2.2.1):Int)>2)then Q4 else bif !Q0 (zU (λx=>!bP x) s.2.2.2.1 0>=0)then bR s.2.2.2.2.2.2.2.2.1 else Q4)=(Q0 (s.2.2.2.1.length=2)&&(bR s.2.2.2.2.2.2.2.2.1&&(zL (s.2.2.2.1.getD 0 [])&&zL (s.2.2.2.1.getD 1 [])))):=by
  by_cases a:s.2.2.2.1.length=2
  ·rw[aj (show¬(↑(length s.2.2.2.1):Int)<2 by omega),aj (show¬(↑(length s.2.2.2.1):Int)>2 by omega),zu a];have hnm:(!Q0 (zU (λx=>!bP x) s.2.2.2.1 0>=0))=(zL (s.2.2.2.1.getD 0 [])&&zL (s.2.2.2.1.getD 1 [])):=by
    apply ig.2;rw[hix,aD];obtain⟨s1,s2,s3,s4,s5⟩:=s
    match s4,a with
    |[x,y],_=>simp[SQ]
   rw[hnm];cases bR s.2.2.2.2.2.2.2.2.1<;>cases zL (s.2.2.2.1.getD 0 [])<;>cases zL (s.2.2.2.1.getD 1 [])<;>rfl
  ·rw[aj a];by_cases b:(↑(length s.2.2.2.1):Int)<2
   ·rw[zu b];rfl
   ·rw[aj b,zu (show(↑(length s.2.2.2.1):Int)>2 by omega)];rfl
 rw[hlb,hec];unfold gC;rw[show bP s.2.1=zL s.2.1 from rfl,show bP s.2.2.1=zL s.2.2.1 from rfl];rw[ig.2 hown];generalize ez _=b1;generalize bR s.2.2.2.2.2.2.2.2.1=b2;generalize zL s.2.1=b3;generalize zL s.2.2.1=b4;generalize zL (s.2.2.2.1.getD 0 [])=b5;generalize zL (s.2.2.2.1.getD 1 [])=b6;generalize Q0 (s.2.2.2.1.length=2)=b7;cases b1<;>cases b2<;>cases b3<;>cases b4<;>cases b5<;>cases b6<;>cases b7<;>simp
abbrev zh9:=lV [(4,[1,2,5]),(9,[1,2,6])]
inductive Fm where
 |h4 (l1:LV) (i5:Int) (z0:zn [CP.d zo])
 |h9 (l1:LV) (i6:Int) (z0:zn [CP.d zo])
abbrev zkI:Fm->Nat×St
 |.h4 l1 i5 z0=>(4,⟨tm 83 [(1,sl ze l1),(2,ptr 0 0),(5,ai i5)],[Qa (bC [] [CP.d zo] z0)]⟩)
 |.h9 l1 i6 z0=>(9,⟨tm 83 [(1,sl ze l1),(2,ptr 0 0),(6,ai i6)],[Qa (bC [] [CP.d zo] z0)]⟩)
def zcn(x0:Sem zo)(x1:Sem ze.sl):Tr (Fm⊕ar):=
 let a0:=(x0.1,x0.2.1,x0.2.2.1,x0.2.2.2.1,x0.t.1,zm x0.t.2)
 Qc (wq a0)
 (br (bif !EX a0 then Q3 else(↑(length x1):Int)!=(↑(length x0.2.1):Int)) (re (ai 1) [])
  (Q9 (Fm.h4 x1 0 (x0,()))))
def CN:Fm->Tr (Fm⊕ar)
 | .h4 l1 i5 z0=>
  let a0:=l1.getD i5.toNat (zi ze)
  br (Q0 (i5<(↑l1.length:Int)))
  (Qc (zN i5 l1.length) (Qc (lP a0) (br (!rB a0) (re (ai 1) []) (Q9 (Fm.h4 l1 (IntKind.i64.wrap (i5+1)) z0)))))
  (Q9 (Fm.h9 l1 0 z0))
 | .h9 l1 i6 z0=>
  let a0:=l1.getD i6.toNat (zi ze)
  let a1:=a0.1==0
  let a2:=zN i6 (length z0.1.2.1)
  let a3:=getD z0.1.2.1 i6.toNat (zi zj)
  let a4:=a0.1!=0
  let a5:=!zf.op z0.1.t.2==[]
  let a6:=zm z0.1.t.2
  let a7:=Gr a6 z0.1.2.1 l1
  br (Q0 (i6<(↑l1.length:Int)))
  (Qc (zN i6 l1.length&&bif a1 then a2 else Q3)
   (br (bif a1 then a3.2.2 else Q4) (re (ai 8) []) (Qc (zN i6 l1.length&&bif a4 then zN i6 l1.length&&a2 else Q3) (br (bif a4 then a0.1!=a3.2.1 else Q4) (re (ai 5) []) (Q9 (Fm.h9 l1 (IntKind.i64.wrap (i6+1)) z0))))))
  (Qc (bif a5 then yx a6 z0.1.2.1 l1&&mq a7 Q4 else Q3)
   (br (bif a5 then pe a7 Q4 else Q4) (re (ai 9) []) (re (ai 0) [])))
def yE(x0:Sem zo)(x1:Sem ze.sl):=ao [zg] CN 100000000 (zcn x0 x1)
def Gz(x0:Sem zo)(x1:Sem ze.sl):=(yE x0 x1).isSome
def Lw(x0:Sem zo)(x1:Sem ze.sl):=o1 (yE x0 x1)
def zeL:=FT [zo,ze.sl] [zg] λx=>yE x.1 x.2.1
theorem zaR:FK 128 zeL:=kz.T1 (f:=Tryz.f128) (keep:=zh9) (e:=zkI)
abbrev zia:=lV [(2,[0,1,5]),(5,[0,1,5,6])]
inductive HI where
 |h2 (l0:List (Sem ze.sl)) (i1:Sem zg) (i5:Int)
 |h5 (l0:List (Sem ze.sl)) (i1:Sem zg) (i5:Int) (i6:Int)
abbrev zkJ:HI->Nat×St
 |.h2 l0 i1 i5=>(2,⟨tm 44 [(0,sl ze.sl l0),(1,ai i1),(5,ai i5)],[]⟩)
 |.h5 l0 i1 i5 i6=>(5,⟨tm 44 [(0,sl ze.sl l0),(1,ai i1),(5,ai i5),(6,ai i6)],[]⟩)
def zhw(x0:Sem ze.sl.sl)(x1:Sem zg):Tr (HI⊕ar):=
 Q9 (HI.h2 x0 x1 0)
def Dn:HI->Tr (HI⊕ar)
 | .h2 l0 i1 i5=>
  br (Q0 (i5<(↑l0.length:Int))) (Q9 (HI.h5 l0 i1 i5 0)) (re (kb Q4) [])
 | .h5 l0 i1 i5 i6=>
  let a0:=l0.getD i5.toNat (zi ze.sl)
  let a1:=zN i1 (length a0)
  let a2:=getD a0 (toNat i1) (zi ze)
  let a3:=a2.1!=0
  let a4:=l0.getD i6.toNat (zi ze.sl)
  let a5:=getD a4 (toNat i1) (zi ze)
  br (Q0 (i6<i5))
  (Qc (zN i5 l0.length&&(a1&&bif a3 then zN i5 l0.length&&(a1&&(zN i6 l0.length&&zN i1 (length a4)))else Q3))
   (br (bif a3 then a2.1==a5.1&&(a2.2.1==a5.2.1&&(a2.2.2==a5.2.2&&Q3))else Q4) (re (kb Q3) []) (Q9 (HI.h5 l0 i1 i5 (IntKind.i64.wrap (i6+1))))))
  (Q9 (HI.h2 l0 i1 (IntKind.i64.wrap (i5+1))))
def ud(x0:Sem ze.sl.sl)(x1:Sem zg):=ao [Q7] Dn 100000000 (zhw x0 x1)
def my(x0:Sem ze.sl.sl)(x1:Sem zg):=(ud x0 x1).isSome
def qz(x0:Sem ze.sl.sl)(x1:Sem zg):=o1 (ud x0 x1)
def zeM:=FT [ze.sl.sl,zg] [Q7] λx=>ud x.1 x.2.1
theorem zaS:FK 129 zeM:=kz.T1 (f:=Tryz.f129) (keep:=zia) (e:=zkJ)
def zhy(x0:Sem zo)(x1:Sem ze.sl):Tr (Empty⊕ar):=
 let a0:=(x0.1,x0.2.1,x0.2.2.1,x0.2.2.2.1,x0.t.1,zm x0.t.2)
 let a1:=getD x1 (toNat x0.2.2.1) (zi ze)
 Qc (wq a0)
 (br (bif EX a0 then Q0 (x0.2.2.1<(↑(length x1):Int))else Q4)
  (Qc (zN x0.2.2.1 (length x1)) (re (agg [ai a1.1,ai a1.2.1,str a1.2.2]) []))
  (re (agg [ai 0,ai 0,str []]) []))
def B6(x0:Sem zo)(x1:Sem ze.sl):=ao [ze] t0 100000000 (zhy x0 x1)
def GG(x0:Sem zo)(x1:Sem ze.sl):=(B6 x0 x1).isSome
def Np(x0:Sem zo)(x1:Sem ze.sl):=o1 (B6 x0 x1)
def zeO:=FT [zo,ze.sl] [ze] λx=>B6 x.1 x.2.1
theorem zaV:FK 130 zeO:=kz.T1 (f:=Tryz.f130) (keep:=k0) (e:=e0)
abbrev zib:=lV [(2,[2,3,5])]
inductive NZ where
 |h2 (i5:Int) (z0:zn [CP.d zh]) (z1:zn [CP.d ze])
abbrev zkK:NZ->Nat×St
 |.h2 i5 z0 z1=>(2,⟨tm 43 [(2,ptr 0 0),(3,ptr 1 0),(5,ai i5)],[Qa (bC [] [CP.d zh] z0),Qa (bC [] [CP.d ze] z1)]⟩)
def zhz(x0:Sem zh)(x1:Sem ze):Tr (NZ⊕ar):=
 Q9 (NZ.h2 0 (x0,()) (x1,()))
def T8:NZ->Tr (NZ⊕ar)
 | .h2 i5 z0 z1=>
  let a0:=(↑(length z0.1.2):Int)
  let a1:=Q0 (i5<a0)
  let a2:=(z0.1.1.1,z0.1.1.2.1,z0.1.1.2.2.1,z0.1.1.2.2.2.1,z0.1.1.t.1,zm z0.1.1.t.2)
  let a3:=zN i5 (length z0.1.2)
  let a4:=getD z0.1.2 i5.toNat (zi ze.sl)
  let a5:=(↑(length a4):Int)
  let a6:=Q0 (z0.1.1.2.2.1<a5)
  let a7:=getD a4 (toNat z0.1.1.2.2.1) (zi ze)
  Qc (bif a1 then wq a2 else Q3)
  (br (bif a1 then EX a2 else Q4)
   (Qc (a3&&bif a6 then a3&&zN z0.1.1.2.2.1 (length a4)else Q3) (br (bif a6 then a7.1==z1.1.1&&(a7.2.1==z1.1.2.1&&(a7.2.2==z1.1.2.2&&Q3))else Q4) (re (ai i5) []) (Q9 (NZ.h2 (IntKind.i64.wrap (i5+1)) z0 z1))))
   (re (ai (-1)) []))
def yG(x0:Sem zh)(x1:Sem ze):=ao [zg] T8 100000000 (zhz x0 x1)
def GF(x0:Sem zh)(x1:Sem ze):=(yG x0 x1).isSome
def Ly(x0:Sem zh)(x1:Sem ze):=o1 (yG x0 x1)
def zeP:=FT [zh,ze] [zg] λx=>yG x.1 x.2.1
theorem zaW:FK 131 zeP:=kz.T1 (f:=Tryz.f131) (keep:=zib) (e:=zkK)
def QW:=QV.addL [(128,zeL),(129,zeM),(130,zeO),(131,zeP)]
theorem rY:zx QW:=kz.addL<|fc zaR<|fc zaS<|fc zaV<|fc zaW iV
abbrev zhR:=lV [(6,[1,3]),(14,[1,5]),(19,[1,6])]
inductive C6 where
 |h6 (i3:Int) (z0:zn [CP.d zh])
 |h14 (i5:Int) (z0:zn [CP.d zh])
 |h19 (i6:Int) (z0:zn [CP.d zh])
abbrev zkw:C6->Nat×St
 |.h6 i3 z0=>(6,⟨tm 82 [(1,ptr 0 0),(3,ai i3)],[Qa (bC [] [CP.d zh] z0)]⟩)
 |.h14 i5 z0=>(14,⟨tm 82 [(1,ptr 0 0),(5,ai i5)],[Qa (bC [] [CP.d zh] z0)]⟩)
 |.h19 i6 z0=>(19,⟨tm 82 [(1,ptr 0 0),(6,ai i6)],[Qa (bC [] [CP.d zh] z0)]⟩)
def RW(x0:Sem zh):Tr (C6⊕ar):=
 let a0:=(x0.1.1,x0.1.2.1,x0.1.2.2.1,x0.1.2.2.2.1,x0.1.t.1,zm x0.1.t.2)
 Qc (wq a0)
 (br (!EX a0) (re (ai 1) [])
  (br (Q0 ((↑(length x0.2):Int)>200)) (re (ai 13) []) (Q9 (C6.h6 0 (x0,())))))
def pq:C6->Tr (C6⊕ar)
 | .h6 i3 z0=>
  let a0:=(↑(length z0.1.2):Int)
  let a1:=(z0.1.1.1,z0.1.1.2.1,z0.1.1.2.2.1,z0.1.1.2.2.2.1,z0.1.1.t.1,zm z0.1.1.t.2)
  let a2:=getD z0.1.2 i3.toNat (zi ze.sl)
  let a3:=Lw a1 a2
  br (Q0 (i3<a0))
  (Qc (zN i3 (length z0.1.2))
   (Qc (Gz a1 a2) (br (a3 !=0) (re (ai a3) []) (Q9 (C6.h6 (IntKind.i64.wrap (i3+1)) z0)))))
  (Qc (my z0.1.2 z0.1.1.2.2.1)
   (br (qz z0.1.2 z0.1.1.2.2.1) (re (ai 7) []) (Q9 (C6.h14 0 z0))))
 | .h14 i5 z0=>
  let a0:=(↑(length z0.1.1.2.2.2.1):Int)
  let a1:=getD z0.1.1.2.2.2.1 i5.toNat (zi zg)
  br (Q0 (i5<a0))
  (Qc (zN i5 (length z0.1.1.2.2.2.1))
   (Qc (my z0.1.2 a1) (br (qz z0.1.2 a1) (re (ai 7) []) (Q9 (C6.h14 (IntKind.i64.wrap (i5+1)) z0)))))
  (Q9 (C6.h19 1 z0))
 | .h19 i6 z0=>
  let a0:=(↑(length z0.1.2):Int)
  let a1:=IntKind.i64.wrap (i6-1)
  let a2:=(z0.1.1.1,z0.1.1.2.1,z0.1.1.2.2.1,z0.1.1.2.2.2.1,z0.1.1.t.1,zm z0.1.1.t.2)
  let a3:=getD z0.1.2 a1.toNat (zi ze.sl)
  let a4:=getD z0.1.2 i6.toNat (zi ze.sl)
  let a5:=Np a2 a3
  let a6:=Np a2 a4
  let a7:=Gp a5 a6
  br (Q0 (i6<a0))
  (Qc (zN a1 (length z0.1.2))
   (Qc (GG a2 a3) (Qc (zN i6 (length z0.1.2)) (Qc (GG a2 a4) (Qc (BR a5 a6) (br (Q0 (a7>0)) (re (ai 15) []) (Q9 (C6.h19 (IntKind.i64.wrap (i6+1)) z0))))))))
  (re (ai 0) [])
def mw(x0:Sem zh):=ao [zg] pq 100000000 (RW x0)
def B4(x0:Sem zh):=(mw x0).isSome
def GC(x0:Sem zh):=o1 (mw x0)
def zef:=FT [zh] [zg] λx=>mw x.1
theorem zah:FK 76 zef:=rY.T1 (f:=Tryz.f76) (keep:=zhR) (e:=zkw)
abbrev zhT:=lV [(2,[0,3]),(5,[0,3,4]),(12,[0,3,4,5,6,7])]
inductive C7 where
 |h2 (l0:List (Sem zh)) (i3:Int)
 |h5 (l0:List (Sem zh)) (i3:Int) (i4:Int)
 |h12 (l0:List (Sem zh)) (i3:Int) (i4:Int) (i6:Sem zg) (i7:Int) (z0:zn [CP.d zr])
abbrev zky:C7->Nat×St
 |.h2 l0 i3=>(2,⟨tm 75 [(0,sl zh l0),(3,ai i3)],[]⟩)
 |.h5 l0 i3 i4=>(5,⟨tm 75 [(0,sl zh l0),(3,ai i3),(4,ai i4)],[]⟩)
 |.h12 l0 i3 i4 i6 i7 z0=>(12,⟨tm 75 [(0,sl zh l0),(3,ai i3),(4,ai i4),(5,ptr 0 0),(6,ai i6),(7,ai i7)],[Qa (bC [] [CP.d zr] z0)]⟩)
def zhq(x0:Sem zh.sl):Tr (C7⊕ar):=
 Q9 (C7.h2 x0 0)
def qX:C7->Tr (C7⊕ar)
 | .h2 l0 i3=>
  br (Q0 (i3<(↑l0.length:Int))) (Q9 (C7.h5 l0 i3 0)) (re (kb Q3) [])
 | .h5 l0 i3 i4=>
  let a0:=l0.getD i3.toNat (zi zh)
  let a1:=(↑(length a0.1.t.1):Int)
  let a2:=getD a0.1.t.1 i4.toNat (zi zr)
  let a3:=kP l0 a2.2
  Qc (zN i3 l0.length)
  (br (Q0 (i4<a1))
   (Qc (zN i3 l0.length) (Qc (zN i4 (length a0.1.t.1)) (br (Q0 (a3<0)) (re (kb Q4) []) (Q9 (C7.h12 l0 i3 i4 a3 0 (a2,()))))))
   (Q9 (C7.h2 l0 (IntKind.i64.wrap (i3+1)))))
 | .h12 l0 i3 i4 i6 i7 z0=>
  let a0:=l0.getD i3.toNat (zi zh)
  let a1:=(↑(length a0.2):Int)
  let a2:=getD a0.2 i7.toNat (zi ze.sl)
  let a3:=getD a2 (toNat z0.1.1) (zi ze)
  let a4:=a3.1!=0
  let a5:=l0.getD (toNat i6) (zi zh)
  let a6:=((a5.1.1,a5.1.2.1,a5.1.2.2.1,a5.1.2.2.2.1,a5.1.t.1,zm a5.1.t.2),a5.2)
  let a7:=Ly a6 a3
  Qc (zN i3 l0.length)
  (br (Q0 (i7<a1))
   (Qc (zN i3 l0.length) (Qc (zN i7 (length a0.2)) (Qc (zN z0.1.1 (length a2)) (Qc (bif a4 then zN i6 l0.length&&GF a6 a3 else Q3) (br (bif a4 then Q0 (a7<0)else Q4) (re (kb Q4) []) (Q9 (C7.h12 l0 i3 i4 i6 (IntKind.i64.wrap (i7+1)) z0)))))))
   (Q9 (C7.h5 l0 i3 (IntKind.i64.wrap (i4+1)))))
def uf(x0:Sem zh.sl):=ao [Q7] qX 100000000 (zhq x0)
def B7(x0:Sem zh.sl):=(uf x0).isSome
def GH(x0:Sem zh.sl):=o1 (uf x0)
def zeh:=FT [zh.sl] [Q7] λx=>uf x.1
theorem zaj:FK 77 zeh:=rY.T1 (f:=Tryz.f77) (keep:=zhT) (e:=zky)
def QX:=QW.addL [(76,zef),(77,zeh)]
theorem AQ:zx QX:=rY.addL<|fc zah<|fc zaj iV
abbrev zml:=lV [(4,[0,3]),(9,[0,4])]
inductive Ym where
 |h4 (l0:List (Sem zh)) (i3:Int)
 |h9 (l0:List (Sem zh)) (i4:Int)
abbrev e9p:Ym->Nat×St
 |.h4 l0 i3=>(4,⟨tm 46 [(0,sl zh l0),(3,ai i3)],[]⟩)
 |.h9 l0 i4=>(9,⟨tm 46 [(0,sl zh l0),(4,ai i4)],[]⟩)
def i9p(x0:Sem zh.sl):Tr (Ym⊕ar):=
 br (Q0 ((↑(length x0):Int)>12)) (re (ai 13) []) (Q9 (Ym.h4 x0 1))
def T9:Ym->Tr (Ym⊕ar)
 | .h4 l0 i3=>
  let a0:=IntKind.i64.wrap (i3-1)
  let a1:=l0.getD a0.toNat (zi zh)
  let a2:=l0.getD i3.toNat (zi zh)
  br (Q0 (i3<(↑l0.length:Int)))
  (Qc (zN a0 l0.length)
   (Qc (zN i3 l0.length) (br (!Op.bytesLess a1.1.1 a2.1.1) (re (ai 15) []) (Q9 (Ym.h4 l0 (IntKind.i64.wrap (i3+1)))))))
  (Q9 (Ym.h9 l0 0))
 | .h9 l0 i4=>
  let a0:=l0.getD i4.toNat (zi zh)
  let a1:=((a0.1.1,a0.1.2.1,a0.1.2.2.1,a0.1.2.2.2.1,a0.1.t.1,zm a0.1.t.2),a0.2)
  let a2:=GC a1
  br (Q0 (i4<(↑l0.length:Int)))
  (Qc (zN i4 l0.length) (Qc (B4 a1) (br (a2 !=0) (re (ai a2) []) (Q9 (Ym.h9 l0 (IntKind.i64.wrap (i4+1)))))))
  (Qc (B7 l0) (br (!GH l0) (re (ai 10) []) (re (ai 0) [])))
def pl(x0:Sem zh.sl):=ao [zg] T9 100000000 (i9p x0)
def B8(x0:Sem zh.sl):=(pl x0).isSome
def GJ(x0:Sem zh.sl):=o1 (pl x0)
def F9p:=FT [zh.sl] [zg] λx=>pl x.1
theorem zgp:FK 43 F9p:=AQ.T1 (f:=Tryz.f43) (keep:=zml) (e:=e9p)
def QY:=QX.add 43 F9p
theorem mU:zx QY:=AQ.add zgp
abbrev zh1:=lV [(4,[0,1,12,13])]
inductive NY where
 |h4 (l0:List (Sem zg)) (l1:List (Sem zg)) (i12:Int) (i13:Int)
abbrev zkE:NY->Nat×St
 |.h4 l0 l1 i12 i13=>(4,⟨tm 26 [(0,sl zg l0),(1,sl zg l1),(12,ai i12),(13,ai i13)],[]⟩)
def Wk(x0:Sem zg.sl)(x1:Sem zg.sl):Tr (NY⊕ar):=
 br ((↑(length x0):Int)!=(↑(length x1):Int)) (re (kb Q4) []) (Q9 (NY.h4 x0 x1 (↑(length x0):Int) 0))
def zjV:NY->Tr (NY⊕ar)
 | .h4 l0 l1 i12 i13=>
  br (Q0 (i13<i12))
  (Qc (zN i13 l0.length)
   (Qc (zN i13 l1.length) (br (l0.getD i13.toNat (zi zg)!=l1.getD i13.toNat (zi zg)) (re (kb Q4) []) (Q9 (NY.h4 l0 l1 i12 (IntKind.i64.wrap (i13+1)))))))
  (re (kb Q3) [])
def G5(x0:Sem zg.sl)(x1:Sem zg.sl):=ao [Q7] zjV 100000000 (Wk x0 x1)
def G4(x0:Sem zg.sl)(x1:Sem zg.sl):=(G5 x0 x1).isSome
def nV(x0:Sem zg.sl)(x1:Sem zg.sl):=o1 (G5 x0 x1)
def zeD:=FT [zg.sl,zg.sl] [Q7] λx=>G5 x.1 x.2.1
theorem zaG:FK 104 zeD:=mU.T1 (f:=Tryz.f104) (keep:=zh1) (e:=zkE)
abbrev zio:=lV [(4,[0,1,12,13])]
inductive N4 where
 |h4 (l0:List (Sem zj)) (l1:List (Sem zj)) (i12:Int) (i13:Int)
abbrev zkU:N4->Nat×St
 |.h4 l0 l1 i12 i13=>(4,⟨tm 26 [(0,sl zj l0),(1,sl zj l1),(12,ai i12),(13,ai i13)],[]⟩)
def Wo(x0:Sem zj.sl)(x1:Sem zj.sl):Tr (N4⊕ar):=
 br ((↑(length x0):Int)!=(↑(length x1):Int)) (re (kb Q4) []) (Q9 (N4.h4 x0 x1 (↑(length x0):Int) 0))
def zjX:N4->Tr (N4⊕ar)
 | .h4 l0 l1 i12 i13=>
  let a0:=l0.getD i13.toNat (zi zj)
  let a1:=l1.getD i13.toNat (zi zj)
  br (Q0 (i13<i12))
  (Qc (zN i13 l0.length)
   (Qc (zN i13 l1.length) (br (!(a0.1==a1.1&&(a0.2.1==a1.2.1&&(a0.2.2==a1.2.2&&Q3)))) (re (kb Q4) []) (Q9 (N4.h4 l0 l1 i12 (IntKind.i64.wrap (i13+1)))))))
  (re (kb Q3) [])
def G2(x0:Sem zj.sl)(x1:Sem zj.sl):=ao [Q7] zjX 100000000 (Wo x0 x1)
def LP(x0:Sem zj.sl)(x1:Sem zj.sl):=(G2 x0 x1).isSome
def xA(x0:Sem zj.sl)(x1:Sem zj.sl):=o1 (G2 x0 x1)
def zfb:=FT [zj.sl,zj.sl] [Q7] λx=>G2 x.1 x.2.1
theorem zbh:FK 152 zfb:=mU.T1 (f:=Tryz.f152) (keep:=zio) (e:=zkU)
abbrev ziq:=lV [(4,[0,1,12,13])]
inductive N5 where
 |h4 (l0:List (Sem zr)) (l1:List (Sem zr)) (i12:Int) (i13:Int)
abbrev zkV:N5->Nat×St
 |.h4 l0 l1 i12 i13=>(4,⟨tm 26 [(0,sl zr l0),(1,sl zr l1),(12,ai i12),(13,ai i13)],[]⟩)
def Wp(x0:Sem zr.sl)(x1:Sem zr.sl):Tr (N5⊕ar):=
 br ((↑(length x0):Int)!=(↑(length x1):Int)) (re (kb Q4) []) (Q9 (N5.h4 x0 x1 (↑(length x0):Int) 0))
def zjY:N5->Tr (N5⊕ar)
 | .h4 l0 l1 i12 i13=>
  let a0:=l0.getD i13.toNat (zi zr)
  let a1:=l1.getD i13.toNat (zi zr)
  br (Q0 (i13<i12))
  (Qc (zN i13 l0.length)
   (Qc (zN i13 l1.length) (br (!(a0.1==a1.1&&(a0.2==a1.2&&Q3))) (re (kb Q4) []) (Q9 (N5.h4 l0 l1 i12 (IntKind.i64.wrap (i13+1)))))))
  (re (kb Q3) [])
def G3(x0:Sem zr.sl)(x1:Sem zr.sl):=ao [Q7] zjY 100000000 (Wp x0 x1)
def LQ(x0:Sem zr.sl)(x1:Sem zr.sl):=(G3 x0 x1).isSome
def xB(x0:Sem zr.sl)(x1:Sem zr.sl):=o1 (G3 x0 x1)
def zfc:=FT [zr.sl,zr.sl] [Q7] λx=>G3 x.1 x.2.1
theorem zbi:FK 153 zfc:=mU.T1 (f:=Tryz.f153) (keep:=ziq) (e:=zkV)
def Rb:=QY.addL [(104,zeD),(152,zfb),(153,zfc)]
theorem AT:zx Rb:=mU.addL<|fc zaG<|fc zbh<|fc zbi iV
def zhv(x0:Sem zo)(x1:Sem zo):Tr (Empty⊕ar):=
 let a0:=x0.1==x1.1
 let a1:=x0.2.2.1==x1.2.2.1
 let a2:=xA x0.2.1 x1.2.1
 let a3:=nV x0.2.2.2.1 x1.2.2.2.1
 let a4:=xB x0.t.1 x1.t.1
 let a5:=zm x0.t.2
 let a6:=zm x1.t.2
 Qc
 (bif a0 then
  bif a1 then LP x0.2.1 x1.2.1&&bif a2 then G4 x0.2.2.2.1 x1.2.2.2.1&&bif a3 then LQ x0.t.1 x1.t.1&&bif a4 then jc 16 a5 a6 else Q3 else Q3 else Q3
  else Q3
 else Q3)
 (re (AV.bool (bif a0 then bif a1 then bif a2 then bif a3 then bif a4 then fj 16 a5 a6 else Q4 else Q4 else Q4 else Q4 else Q4)) [])
def Hn(x0:Sem zo)(x1:Sem zo):=ao [Q7] t0 100000000 (zhv x0 x1)
def Hm(x0:Sem zo)(x1:Sem zo):=(Hn x0 x1).isSome
def rF(x0:Sem zo)(x1:Sem zo):=o1 (Hn x0 x1)
def zeC:=FT [zo,zo] [Q7] λx=>Hn x.1 x.2.1
theorem zaF:FK 103 zeC:=AT.T1 (f:=Tryz.f103) (keep:=k0) (e:=e0)
def Rc:=Rb.add 103 zeC
theorem Ky:zx Rc:=AT.add zaF
def zbL:bX:={VY with own:=Q3}
theorem KA:zx zbL:=⟨⟨tg.sh⟩,tg.fs,tg.mix⟩
def zce(x0:Sem zz):Tr (Empty⊕ar):=
 let a0:=[x0.2.1]
 let a1:=[x0.2.2.1]
 br (!x0.2.2.1==[]) (Qc (Q0 (a0.length+a1.length<=1073741824)) (re (AV.vec 0) [AO.vec Q6 (a0++a1)]))
 (re (AV.vec 0) [AO.vec Q6 a0])
def lA(x0:Sem zz):=ao [Sh.str.sl] t0 100000000 (zce x0)
def jx(x0:Sem zz):=(lA x0).isSome
def kK(x0:Sem zz):=o1 (lA x0)
def ZD:=FT [zz] [Sh.str.sl] λx=>lA x.1
theorem Z7:FK 44 ZD:=KA.T1 (f:=Tryz.f44) (keep:=k0) (e:=e0)
theorem Z8:FK 44 ZD:=Z7
def Rd:=Rc.add 44 ZD
theorem rZ:zx Rd:=Ky.add Z8
theorem rA(p:Sem zz):lA p=Q1 (bJ p.2.1 p.2.2.1,()):=by
 unfold bJ;by_cases h:(p.2.2.1==[])=Q3
 ·rw[if_pos h];refine zI (r:=(.vec 0,[.vec Q6 [p.2.1]])) ?_ rfl;simp only[zce,Q8,h];rfl
 ·rw[if_neg h];have h:(p.2.2.1==[])=Q4:=by simpa using h
  refine zI (r:=(.vec 0,[.vec Q6 ([p.2.1]++[p.2.2.1])])) ?_ rfl;simp only[zce,Q8,h];rfl
theorem rz(p:Sem zz):jx p=Q3:=by unfold jx;rw[rA];rfl
theorem tT(p:Sem zz):kK p=bJ p.2.1 p.2.2.1:=by unfold kK;rw[rA];rfl
theorem xq(x:zB):∀(l:List zB)(i:Nat),GE.ge (α:=Int) (im x l (i:Int)) 0↔x∈l
 | [],i=>by
  rw[im];exact⟨λh=>absurd h (by decide),λh=>by cases h⟩
 | a::r,i=>by
  rw[im];split
  ·rename_i h;have:x=a:=by simpa using h
   subst this;exact⟨λ_=>wO,λ_=>Int.natCast_nonneg i⟩
  ·rename_i h;have:=xq x r (i+1);rw[sT]at this;rw[cm];refine⟨λh2=>.inr (this.1 h2),λh2=>this.2 (h2.resolve_left ?_)⟩;rintro rfl;simp at h
theorem kE(l:List zB)(x:zB):aA l x=Q3↔x∈l:=by
 unfold aA;rw[HS];exact xq x l 0
theorem GP{l:List zB}{s:zB}(hl:l.length<=1000000):xy l s=Q3/\JC l s=aA l s:=by
 have key:Ns l s=Q1 (aA l s,()):=by
  rcases lI (t:=L3) (Φ:=λr=>r=(.kb Q3,[])) 1 (λi=>.h2 l s (i:Int)) (λi=>∀h:i<l.length,l[i]≠s) l.length (λi hi _=>by
   have hv:(L3 (.h2 l s (i:Int))).val=if(l[i]==s)=Q3 then Q1 (.inr (.kb Q3,[]))else Q1 (.inl (.h2 l s ((i+1:Nat):Int))):=by
    show(L3 (.h2 _ _ _)).val=_;simp only[L3,Q8,zO _ _ hi,zH hi,zt hi,if_true];rw[zp i um]
   by_cases h:l[i]=s
   ·exact .inr ⟨λk=>k hi h,_,zT.of (by rw[hv,if_pos (by simpa using h)]),rfl⟩
   ·exact .inl ⟨λ_=>h,zP.of (by rw[hv,if_neg (by simpa using h)])⟩)with⟨h1,h2⟩|⟨h1,r,h2,rfl⟩
  ·have hn:aA l s=Q4:=by
    rw[<-gq,kE];intro hm;obtain⟨j,hj,e⟩:=gn hm;exact h1 j hj hj e
   rw[hn];refine zw (s:=.h2 l s 0) rfl (h2.ends (zT.of (r:=(.kb Q4,[])) ?_)) ow rfl;show(L3 (.h2 _ _ _)).val=_;simp only[L3,Q8,zA];rfl
  ·have hn:aA l s=Q3:=by
    rw[kE];apply mO;intro hm;exact h1 λi _ hi e=>hm (e▸bu hi)
   rw[hn];exact zw (s:=.h2 l s 0) rfl h2 ow rfl
 exact⟨by unfold xy;rw[key];rfl,by unfold JC;rw[key];rfl⟩
theorem xn{α:Type}(p:α->Bool):∀(l:List α)(i:Nat),(!Q0 (zU p l i>=0))=Q3↔∀x∈l,p x=Q4
 | [],i=>by
  refine⟨λ_ x hx=>(by cases hx),λ_=>?_⟩;rw[zU];rfl
 | y::r,i=>by
  refine⟨λh=>oY p _ i h,λh=>?_⟩;rw[zU,h y sw];exact(xn p r (i+1)).2 λx hx=>h x (by simp[hx])
theorem vW{α:Type}(p:α->Bool)(l:List α):Q0 (GE.ge (α:=Int) (zU p l 0) 0)=Q3↔∃x∈l,p x=Q3:=by
 have h:=xn p l 0;constructor
 ·intro h1;apply mO;intro h2;have:=h.2 λx hx=>by
   cases hp:p x
   ·rfl
   ·exact absurd ⟨x,hx,hp⟩ h2
  rw[h1]at this;cases this
 ·rintro⟨x,hx,hp⟩;cases h1:Q0 (GE.ge (α:=Int) (zU p l 0) 0)
  ·have:=h.1 (by rw[h1];rfl) x hx;rw[hp]at this;cases this
  ·rfl
theorem Gj{db:List (Sem zh)}{ns:List zB}(hl:db.length<=1000)(hr:∀x∈db,(x:Sem zh).1.t.1.length<=1000)(hn:ns.length<=1000000):nj db ns=Q1 (dN db ns,()):=by
 have hin:∀i(hi:i<db.length),(¬(!aA ns db[i].1.1&&Q0 (GE.ge (α:=Int) (zU (λf:Sem zr=>aA ns f.2) db[i].1.t.1 0) 0))=Q3/\zP pt 1002 (.h2 db ns (i:Int)) (.h2 db ns ((i+1:Nat):Int)))\/
   ((!aA ns db[i].1.1&&Q0 (GE.ge (α:=Int) (zU (λf:Sem zr=>aA ns f.2) db[i].1.t.1 0) 0))=Q3/\zT pt 1002 (.h2 db ns (i:Int)) (.kb Q3,[])):=by
  intro i hi;have hx:=hr _ (bu hi);have g:db.getD (i:Int).toNat (zi zh)=db[i]:=zO _ _ hi;have h0:zP pt 1 (.h2 db ns (i:Int)) (.h5 db ns (i:Int) ((0:Nat):Int)):=zP.of (by
   show(pt (.h2 _ _ _)).val=_;simp only[pt,Q8,zH hi,if_true];rfl)
  obtain⟨c1,c2⟩:=GP (l:=ns) (s:=db[i].1.1) hn;have hN:(pt (.h5 db ns (i:Int) (db[i].1.t.1.length:Int))).val=Q1 (.inl (.h2 db ns ((i+1:Nat):Int))):=by
   show(pt (.h5 _ _ _ _)).val=_;simp only[pt,Q8,g,zA,zt hi,if_true];rw[zp i um];rfl
  rcases lI (t:=pt) (Φ:=λr=>r=(.kb Q3,[])) 1 (λj=>.h5 db ns (i:Int) (j:Int)) (λj=>∀h:j<db[i].1.t.1.length,¬(!aA ns db[i].1.1&&aA ns (db[i].1.t.1[j]).2)=Q3) db[i].1.t.1.length (λj hj _=>by
   have gj:getD db[i].1.t.1 (j:Int).toNat (zi zr)=db[i].1.t.1[j]:=zO _ _ hj;obtain⟨d1,d2⟩:=GP (l:=ns) (s:=(db[i].1.t.1[j]).2) hn;have hv:(pt (.h5 db ns (i:Int) (j:Int))).val=if(!aA ns db[i].1.1&&aA ns (db[i].1.t.1[j]).2)=Q3 then Q1 (.inr (.kb Q3,[]))else Q1 (.inl (.h5 db ns (i:Int) ((j+1:Nat):Int))):=by
    show(pt (.h5 _ _ _ _)).val=_;simp only[pt,Q8,g,gj,zH hj,zt hi,zt hj,c1,c2,d1,d2,if_true,dH];rw[zp j um];cases aA ns db[i].1.1<;>cases aA ns (db[i].1.t.1[j]).2<;>rfl
   by_cases h:(!aA ns db[i].1.1&&aA ns (db[i].1.t.1[j]).2)=Q3
   ·exact .inr ⟨λk=>k hj h,_,zT.of (by rw[hv,if_pos h]),rfl⟩
   ·exact .inl ⟨λ_=>h,zP.of (by rw[hv,if_neg h])⟩)with⟨h1,h2⟩|⟨h1,r,h2,rfl⟩
  ·refine .inl ⟨?_,((h0.trans h2).trans (zP.of hN)).mono ow⟩;intro h;simp only[aD,vW]at h;obtain⟨a1,f,hf,a2⟩:=h;obtain⟨j,hj,rfl⟩:=gn hf;exact h1 j hj hj (by rw[a1,a2];rfl)
  ·refine .inr ⟨?_,(h0.ends h2).mono ow⟩;apply mO;intro h;refine h1 λj _ hj hc=>h ?_
   simp only[aD]at hc;simp only[aD,vW];exact⟨hc.1,_,bu hj,hc.2⟩
 rcases lI (t:=pt) (Φ:=λr=>r=(.kb Q3,[])) 1002 (λi=>.h2 db ns (i:Int)) (λi=>∀h:i<db.length,¬(!aA ns db[i].1.1&&Q0 (GE.ge (α:=Int) (zU (λf:Sem zr=>aA ns f.2) db[i].1.t.1 0) 0))=Q3) db.length (λi hi _=>by
  rcases hin i hi with⟨h1,h2⟩|⟨h1,h2⟩
  ·exact .inl ⟨λ_=>h1,h2⟩
  ·exact .inr ⟨λk=>k hi h1,_,h2,rfl⟩)with⟨h1,h2⟩|⟨h1,r,h2,rfl⟩
 ·have hb:dN db ns=Q4:=by
   unfold dN;rw[List.any_eq_false];intro x hx;obtain⟨j,hj,rfl⟩:=gn hx;exact h1 j hj hj
  rw[hb];have hv:(pt (.h2 db ns (db.length:Int))).val=Q1 (.inr (.kb Q4,[])):=by
   show(pt (.h2 _ _ _)).val=_;simp only[pt,Q8,zA];rfl
  exact zw (s:=.h2 db ns 0) rfl (h2.ends (zT.of hv)) ow rfl
 ·have hb:dN db ns=Q3:=by
   unfold dN;apply mO;intro h;rw[gq,List.any_eq_false]at h;exact h1 λi _ hi=>h _ (bu hi)
  rw[hb];exact zw (s:=.h2 db ns 0) rfl h2 ow rfl
theorem Jf{db:List (Sem zh)}{ns:List zB}(hl:db.length<=1000)(hr:∀x∈db,(x:Sem zh).1.t.1.length<=1000)(hn:ns.length<=1000000):sD db ns=Q3/\wl db ns=dN db ns:=by
 have h:=Gj hl hr hn;exact⟨by unfold sD;rw[h];rfl,by unfold wl;rw[h];rfl⟩
end
end Cad
