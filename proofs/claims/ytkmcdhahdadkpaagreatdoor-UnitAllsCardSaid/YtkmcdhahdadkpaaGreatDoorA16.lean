/- The document's writer: each Op. The document's tokens: the program's. The document's cutting of a text: it goes just if the program's does. -/
import Derived.Test.YtkmcdhahdadkpaaGreatDoorA15
import Derived.Test.YtkmcdhahdadkpaaGreatDoorA14
import Derived.Test.YtkmcdhahdadkpaaGreatDoorA11
import Derived.Test.YtkmcdhahdadkpaaGreatDoorA12
import Derived.Test.YtkmcdhahdadkpaaGreatDoorA13
namespace Cad
open Go Go.Proofs
open List renaming drop→Qh,take→Qg
open Tr renaming chk→Qc,«to»→Q9,val→Q8
open AO renaming box→Qa
open Sh renaming bool→Q7,str→Q6
open Bool renaming false→Q4,true→Q3
open Option renaming some→Q1
open Decidable renaming decide→Q0
open Int (toNat)
open List (getD length)
open Tr (chk br re)
open AV (nils agg tup ptr kb str sl)
noncomputable section
set_option maxHeartbeats 4000000
theorem Qk{s:Sem zl}(h:oI s)(o:s.1=[99,114,101,97,116,101]):∃r,(gS s).val=Q1 (.inr r)/\r8 r:=by
 obtain⟨c1,c2,c3⟩:=bn h.chk h.cchk (w:=[]) sw;obtain⟨d1,d2,d3⟩:=bn h.whr h.cwhr (w:=[87,72,69,82,69]) sw;have ht:=h.sh.table;have hr:=h.sh.role;have ho:=h.sh.other;have hk:=h.sh.key;have q0:(s.1==[99,114,101,97,116,101])=Q3:=by rw[o];rfl
 simp only[gS,Q8,zk,c1,d1,q0,if_true];obtain⟨e1,e2⟩:=Ma h;have es:qM (s.1,s.2.1,s.2.2.1,s.2.2.2.1,s.t.1,s.t.2.1,s.t.q.1,s.t.q.2.1,s.t.t.1,s.t.t.2.1,s.t.t.q.1,s.t.t.q.2.1,s.t.t.t)=Q3:=e1;rw[if_pos es];refine⟨_,rfl,tZ (pD s).1 (s.1,s.2.1,[],[],s.t.1,s.t.2.1,s.t.q.1,s.t.q.2.1,s.t.t.1,[],[],dn,[]) (pD s).2 ?_ ow (ej h (.inr rfl) (.inl rfl) (.inl rfl) (.inl rfl) (.inl rfl) (.inr rfl) (.inr rfl) (.inr rfl))⟩;obtain⟨s1,s2,s3,s4,s5,s6,s7,s8,⟨f1,f2,f3,f4⟩,s10,uP,⟨g1,g2,g3,g4⟩,s13⟩:=s;rfl
theorem XY{s:Sem zl}(h:oI s)(o:s.1=[100,114,111,112]):∃r,(gS s).val=Q1 (.inr r)/\r8 r:=by
 obtain⟨c1,c2,c3⟩:=bn h.chk h.cchk (w:=[]) sw;obtain⟨d1,d2,d3⟩:=bn h.whr h.cwhr (w:=[87,72,69,82,69]) sw;have ht:=h.sh.table;have hr:=h.sh.role;have ho:=h.sh.other;have hk:=h.sh.key;have q0:(s.1==[99,114,101,97,116,101])=Q4:=by rw[o];rfl
 have q1:(s.1==[100,114,111,112])=Q3:=by rw[o];rfl
 simp only[gS,Q8,zk,c1,d1,q0,q1,if_true,zB,if_false];rw[if_pos (zx sg)];exact⟨_,rfl,tZ _ (s.1,s.2.1,[],[],[],[],[],[],dn,[],[],dn,[]) Q3 rfl sg (ej h (.inr rfl) (.inr rfl) (.inr rfl) (.inr rfl) (.inr rfl) (.inr rfl) (.inr rfl) (.inr rfl))⟩
theorem Ql{s:Sem zl}(h:oI s)(o:s.1=[100,101,108,101,116,101]):∃r,(gS s).val=Q1 (.inr r)/\r8 r:=by
 obtain⟨c1,c2,c3⟩:=bn h.chk h.cchk (w:=[]) sw;obtain⟨d1,d2,d3⟩:=bn h.whr h.cwhr (w:=[87,72,69,82,69]) sw;have ht:=h.sh.table;have hr:=h.sh.role;have ho:=h.sh.other;have hk:=h.sh.key;have q0:(s.1==[99,114,101,97,116,101])=Q4:=by rw[o];rfl
 have q1:(s.1==[100,114,111,112])=Q4:=by rw[o];rfl
 have q2:(s.1==[105,110,115,101,114,116])=Q4:=by rw[o];rfl
 have q3:(s.1==[117,112,100,97,116,101])=Q4:=by rw[o];rfl
 have q4:(s.1==[100,101,108,101,116,101])=Q3:=by rw[o];rfl
 simp only[gS,Q8,zk,c1,d1,q0,q1,q2,q3,q4,if_true,zB,if_false];rw[d2,if_pos (zx sg),if_pos (zx sg)];refine⟨_,rfl,tZ ([68,69,76,69,84,69,32,70,82,79,77,32]++s.2.1++oV [87,72,69,82,69] s.t.t.q.2.1) (s.1,s.2.1,[],[],[],[],[],[],dn,[],[],s.t.t.q.2.1,[]) (bT s.t.t.q.2.1) ?_ ?_ (ej h (.inr rfl) (.inr rfl) (.inr rfl) (.inr rfl) (.inr rfl) (.inr rfl) (.inr rfl) (.inl rfl))⟩;rotate_left 2
 ·obtain⟨s1,s2,s3,s4,s5,s6,s7,s8,⟨f1,f2,f3,f4⟩,s10,uP,⟨g1,g2,g3,g4⟩,s13⟩:=s;rfl
 ·simp;omega
theorem Qn{s:Sem zl}(h:oI s)(o:s.1=[115,101,108,101,99,116]):∃r,(gS s).val=Q1 (.inr r)/\r8 r:=by
 obtain⟨c1,c2,c3⟩:=bn h.chk h.cchk (w:=[]) sw;obtain⟨d1,d2,d3⟩:=bn h.whr h.cwhr (w:=[87,72,69,82,69]) sw;have ht:=h.sh.table;have hr:=h.sh.role;have ho:=h.sh.other;have hk:=h.sh.key;have q0:(s.1==[99,114,101,97,116,101])=Q4:=by rw[o];rfl
 have q1:(s.1==[100,114,111,112])=Q4:=by rw[o];rfl
 have q2:(s.1==[105,110,115,101,114,116])=Q4:=by rw[o];rfl
 have q3:(s.1==[117,112,100,97,116,101])=Q4:=by rw[o];rfl
 have q4:(s.1==[100,101,108,101,116,101])=Q4:=by rw[o];rfl
 have q5:(s.1==[115,101,108,101,99,116])=Q3:=by rw[o];rfl
 simp only[gS,Q8,zk,c1,d1,q0,q1,q2,q3,q4,q5,if_true,zB,if_false];rw[d2,if_pos (zx sg),if_pos (zx sg)];refine⟨_,rfl,tZ ([83,69,76,69,67,84,32,42,32,70,82,79,77,32]++s.2.1++oV [87,72,69,82,69] s.t.t.q.2.1) (s.1,s.2.1,[],[],[],[],[],[],dn,[],[],s.t.t.q.2.1,[]) (bT s.t.t.q.2.1) ?_ ?_ (ej h (.inr rfl) (.inr rfl) (.inr rfl) (.inr rfl) (.inr rfl) (.inr rfl) (.inr rfl) (.inl rfl))⟩;rotate_left 2
 ·obtain⟨s1,s2,s3,s4,s5,s6,s7,s8,⟨f1,f2,f3,f4⟩,s10,uP,⟨g1,g2,g3,g4⟩,s13⟩:=s;rfl
 ·simp;omega
theorem X0{s:Sem zl}(h:oI s)(o:s.1=[114,101,97,100]):∃r,(gS s).val=Q1 (.inr r)/\r8 r:=by
 obtain⟨c1,c2,c3⟩:=bn h.chk h.cchk (w:=[]) sw;obtain⟨d1,d2,d3⟩:=bn h.whr h.cwhr (w:=[87,72,69,82,69]) sw;have ht:=h.sh.table;have hr:=h.sh.role;have ho:=h.sh.other;have hk:=h.sh.key;have q0:(s.1==[99,114,101,97,116,101])=Q4:=by rw[o];rfl
 have q1:(s.1==[100,114,111,112])=Q4:=by rw[o];rfl
 have q2:(s.1==[105,110,115,101,114,116])=Q4:=by rw[o];rfl
 have q3:(s.1==[117,112,100,97,116,101])=Q4:=by rw[o];rfl
 have q4:(s.1==[100,101,108,101,116,101])=Q4:=by rw[o];rfl
 have q5:(s.1==[115,101,108,101,99,116])=Q4:=by rw[o];rfl
 have q6:(s.1==[99,111,112,121])=Q4:=by rw[o];rfl
 have q7:(s.1==[106,111,105,110])=Q4:=by rw[o];rfl
 have q8:(s.1==[103,114,111,117,112])=Q4:=by rw[o];rfl
 have q9:(s.1==[114,101,97,100])=Q3:=by rw[o];rfl
 simp only[gS,Q8,zk,c1,d1,q0,q1,q2,q3,q4,q5,q6,q7,q8,q9,if_true,zB,if_false];rw[if_pos (zx sg),if_pos (zx sg),if_pos (zx sg),if_pos (bA (s:=s.t.t.t) ow)];exact⟨_,rfl,tZ _ (s.1,s.2.1,[],[],[],[],[],[],dn,[],[],dn,s.t.t.t) (bu s.t.t.t) rfl sg (ej h (.inr rfl) (.inr rfl) (.inr rfl) (.inr rfl) (.inr rfl) (.inr rfl) (.inr rfl) (.inr rfl))⟩
theorem UY{s:Sem zl}(h:oI s)(o:s.1=[119,114,105,116,101]):∃r,(gS s).val=Q1 (.inr r)/\r8 r:=by
 obtain⟨c1,c2,c3⟩:=bn h.chk h.cchk (w:=[]) sw;obtain⟨d1,d2,d3⟩:=bn h.whr h.cwhr (w:=[87,72,69,82,69]) sw;have ht:=h.sh.table;have hr:=h.sh.role;have ho:=h.sh.other;have hk:=h.sh.key;have q0:(s.1==[99,114,101,97,116,101])=Q4:=by rw[o];rfl
 have q1:(s.1==[100,114,111,112])=Q4:=by rw[o];rfl
 have q2:(s.1==[105,110,115,101,114,116])=Q4:=by rw[o];rfl
 have q3:(s.1==[117,112,100,97,116,101])=Q4:=by rw[o];rfl
 have q4:(s.1==[100,101,108,101,116,101])=Q4:=by rw[o];rfl
 have q5:(s.1==[115,101,108,101,99,116])=Q4:=by rw[o];rfl
 have q6:(s.1==[99,111,112,121])=Q4:=by rw[o];rfl
 have q7:(s.1==[106,111,105,110])=Q4:=by rw[o];rfl
 have q8:(s.1==[103,114,111,117,112])=Q4:=by rw[o];rfl
 have q9:(s.1==[114,101,97,100])=Q4:=by rw[o];rfl
 have q10:(s.1==[119,114,105,116,101])=Q3:=by rw[o];rfl
 simp only[gS,Q8,zk,c1,d1,q0,q1,q2,q3,q4,q5,q6,q7,q8,q9,q10,if_true,zB,if_false];rw[if_pos (zx sg),if_pos (zx sg),if_pos (zx sg),if_pos (bA (s:=s.t.t.t) ow)];exact⟨_,rfl,tZ _ (s.1,s.2.1,[],[],[],[],[],[],dn,[],[],dn,s.t.t.t) (bu s.t.t.t) rfl sg (ej h (.inr rfl) (.inr rfl) (.inr rfl) (.inr rfl) (.inr rfl) (.inr rfl) (.inr rfl) (.inr rfl))⟩
theorem Qo{s:Sem zl}(h:oI s)(o:s.1=[117,110,114,101,97,100]):∃r,(gS s).val=Q1 (.inr r)/\r8 r:=by
 obtain⟨c1,c2,c3⟩:=bn h.chk h.cchk (w:=[]) sw;obtain⟨d1,d2,d3⟩:=bn h.whr h.cwhr (w:=[87,72,69,82,69]) sw;have ht:=h.sh.table;have hr:=h.sh.role;have ho:=h.sh.other;have hk:=h.sh.key;have q0:(s.1==[99,114,101,97,116,101])=Q4:=by rw[o];rfl
 have q1:(s.1==[100,114,111,112])=Q4:=by rw[o];rfl
 have q2:(s.1==[105,110,115,101,114,116])=Q4:=by rw[o];rfl
 have q3:(s.1==[117,112,100,97,116,101])=Q4:=by rw[o];rfl
 have q4:(s.1==[100,101,108,101,116,101])=Q4:=by rw[o];rfl
 have q5:(s.1==[115,101,108,101,99,116])=Q4:=by rw[o];rfl
 have q6:(s.1==[99,111,112,121])=Q4:=by rw[o];rfl
 have q7:(s.1==[106,111,105,110])=Q4:=by rw[o];rfl
 have q8:(s.1==[103,114,111,117,112])=Q4:=by rw[o];rfl
 have q9:(s.1==[114,101,97,100])=Q4:=by rw[o];rfl
 have q10:(s.1==[119,114,105,116,101])=Q4:=by rw[o];rfl
 have q11:(s.1==[117,110,114,101,97,100])=Q3:=by rw[o];rfl
 simp only[gS,Q8,zk,c1,d1,q0,q1,q2,q3,q4,q5,q6,q7,q8,q9,q10,q11,if_true,zB,if_false];rw[if_pos (zx sg),if_pos (zx sg),if_pos (zx sg),if_pos (bA (s:=s.t.t.t) ow)];exact⟨_,rfl,tZ _ (s.1,s.2.1,[],[],[],[],[],[],dn,[],[],dn,s.t.t.t) (bu s.t.t.t) rfl sg (ej h (.inr rfl) (.inr rfl) (.inr rfl) (.inr rfl) (.inr rfl) (.inr rfl) (.inr rfl) (.inr rfl))⟩
theorem MG{s:Sem zl}(h:oI s)(o:s.1=[117,110,119,114,105,116,101]):∃r,(gS s).val=Q1 (.inr r)/\r8 r:=by
 obtain⟨c1,c2,c3⟩:=bn h.chk h.cchk (w:=[]) sw;obtain⟨d1,d2,d3⟩:=bn h.whr h.cwhr (w:=[87,72,69,82,69]) sw;have ht:=h.sh.table;have hr:=h.sh.role;have ho:=h.sh.other;have hk:=h.sh.key;have q0:(s.1==[99,114,101,97,116,101])=Q4:=by rw[o];rfl
 have q1:(s.1==[100,114,111,112])=Q4:=by rw[o];rfl
 have q2:(s.1==[105,110,115,101,114,116])=Q4:=by rw[o];rfl
 have q3:(s.1==[117,112,100,97,116,101])=Q4:=by rw[o];rfl
 have q4:(s.1==[100,101,108,101,116,101])=Q4:=by rw[o];rfl
 have q5:(s.1==[115,101,108,101,99,116])=Q4:=by rw[o];rfl
 have q6:(s.1==[99,111,112,121])=Q4:=by rw[o];rfl
 have q7:(s.1==[106,111,105,110])=Q4:=by rw[o];rfl
 have q8:(s.1==[103,114,111,117,112])=Q4:=by rw[o];rfl
 have q9:(s.1==[114,101,97,100])=Q4:=by rw[o];rfl
 have q10:(s.1==[119,114,105,116,101])=Q4:=by rw[o];rfl
 have q11:(s.1==[117,110,114,101,97,100])=Q4:=by rw[o];rfl
 have q12:(s.1==[117,110,119,114,105,116,101])=Q3:=by rw[o];rfl
 simp only[gS,Q8,zk,c1,d1,q0,q1,q2,q3,q4,q5,q6,q7,q8,q9,q10,q11,q12,if_true,zB,if_false];rw[if_pos (zx sg),if_pos (zx sg),if_pos (zx sg),if_pos (bA (s:=s.t.t.t) ow)];exact⟨_,rfl,tZ _ (s.1,s.2.1,[],[],[],[],[],[],dn,[],[],dn,s.t.t.t) (bu s.t.t.t) rfl sg (ej h (.inr rfl) (.inr rfl) (.inr rfl) (.inr rfl) (.inr rfl) (.inr rfl) (.inr rfl) (.inr rfl))⟩
theorem XZ{s:Sem zl}(h:oI s)(n0:s.1≠[99,114,101,97,116,101])(n1:s.1≠[100,114,111,112])(n2:s.1≠[105,110,115,101,114,116])(n3:s.1≠[117,112,100,97,116,101])(n4:s.1≠[100,101,108,101,116,101])(n5:s.1≠[115,101,108,101,99,116])(n6:s.1≠[99,111,112,121])(n7:s.1≠[106,111,105,110])(n8:s.1≠[103,114,111,117,112])(n9:s.1≠[114,101,97,100])(n10:s.1≠[119,114,105,116,101])(n11:s.1≠[117,110,114,101,97,100])(n12:s.1≠[117,110,119,114,105,116,101]):∃r,(gS s).val=Q1 (.inr r)/\r8 r:=by
 obtain⟨c1,c2,c3⟩:=bn h.chk h.cchk (w:=[]) sw;obtain⟨d1,d2,d3⟩:=bn h.whr h.cwhr (w:=[87,72,69,82,69]) sw;have ht:=h.sh.table;have hr:=h.sh.role;have ho:=h.sh.other;have hk:=h.sh.key;have q0:(s.1==[99,114,101,97,116,101])=Q4:=bX.2 n0;have q1:(s.1==[100,114,111,112])=Q4:=bX.2 n1;have q2:(s.1==[105,110,115,101,114,116])=Q4:=bX.2 n2;have q3:(s.1==[117,112,100,97,116,101])=Q4:=bX.2 n3;have q4:(s.1==[100,101,108,101,116,101])=Q4:=bX.2 n4;have q5:(s.1==[115,101,108,101,99,116])=Q4:=bX.2 n5;have q6:(s.1==[99,111,112,121])=Q4:=bX.2 n6;have q7:(s.1==[106,111,105,110])=Q4:=bX.2 n7;have q8:(s.1==[103,114,111,117,112])=Q4:=bX.2 n8;have q9:(s.1==[114,101,97,100])=Q4:=bX.2 n9;have q10:(s.1==[119,114,105,116,101])=Q4:=bX.2 n10;have q11:(s.1==[117,110,114,101,97,100])=Q4:=bX.2 n11;have q12:(s.1==[117,110,119,114,105,116,101])=Q4:=bX.2 n12;simp only[gS,Q8,zk,c1,d1,q0,q1,q2,q3,q4,q5,q6,q7,q8,q9,q10,q11,q12,if_true,zB,if_false];exact⟨_,rfl,tZ _ (s.1,s.2.1,[],[],[],[],[],[],dn,[],[],dn,[]) Q4 rfl sw (ej h (.inr rfl) (.inr rfl) (.inr rfl) (.inr rfl) (.inr rfl) (.inr rfl) (.inr rfl) (.inr rfl))⟩
def MB(s:Sem zl):zD:=[77,73,71,82,65,84,69,32,67,79,80,89,32]++s.2.1++[32,70,82,79,77,32]++s.2.2.1++[32,40,32]++Lib.join s.2.2.2.1 [32,44,32]++[32,41]++oV [] s.t.t.1
def kR(s:Sem zl):Bool:=(Q0 (∀x∈s.2.2.2.1,zO x=Q3)&&(Q0 (1<=s.2.2.2.1.length)&&Q0 (s.2.2.2.1.length<=8)))&&(bT s.t.t.1&&zO s.2.2.1)
theorem On{s:Sem zl}(h:oI s)(o:s.1=[99,111,112,121]):∃t,dD s=Q1 (t,(s.1,s.2.1,s.2.2.1,s.2.2.2.1,[],[],[],[],s.t.t.1,[],[],dn,[]),kR s,())/\t.length<=900000/\(kR s=Q3->t=MB s):=by
 obtain⟨c1,c2,c3⟩:=bn h.chk h.cchk (w:=[]) sw;obtain⟨d1,d2,d3⟩:=bn h.whr h.cwhr (w:=[87,72,69,82,69]) sw;have ht:=h.sh.table;have hr:=h.sh.role;have ho:=h.sh.other;have hk:=h.sh.key;obtain⟨q0,q1,q2,q3,q4,q5,_,_,_,_,q6⟩:=Xn o;obtain⟨t,n1,n2,n3⟩:=Mh (l:=s.2.2.2.1) (by have:=h.sh.names.1;omega) h.sh.names.2;have n4:CL s.2.2.2.1=Q3:=by unfold CL;rw[n1];rfl
 have n5:Hp s.2.2.2.1=(t,(Q0 (∀x∈s.2.2.2.1,zO x=Q3)&&(Q0 (1<=s.2.2.2.1.length)&&Q0 (s.2.2.2.1.length<=8)))):=by unfold Hp;rw[n1];rfl
 have w1:=bA (s:=s.2.2.1) ow;have w2:=eT (s:=s.2.2.1) ow;refine⟨[77,73,71,82,65,84,69,32,67,79,80,89,32]++s.2.1++[32,70,82,79,77,32]++s.2.2.1++[32,40,32]++t++[32,41]++oV [] s.t.t.1,?_,sg,?_⟩
 ·have hv:∃b,(gS s).val=Q1 (.inr (.tup [.str ([77,73,71,82,65,84,69,32,67,79,80,89,32]++s.2.1++[32,70,82,79,77,32]++s.2.2.1++[32,40,32]++t++[32,41]++oV [] s.t.t.1),.agg [.str s.1,.str s.2.1,.str s.2.2.1,.sl Q6 s.2.2.2.1,.nils,.str [],.nils,.nils,.str (zf.op s.t.t.1),.int .i64 (zf.v s.t.t.1).1,.int .i64 (zf.v s.t.t.1).2.1,.str (zf.v s.t.t.1).2.2,.str (zf.s s.t.t.1),
    .sl Sh.expr (zf.l s.t.t.1),.nils,.nils,.str [],.int .i64 0,.int .i64 0,.str [],.str [],.nils,.str []],b],[]))/\(b=.bool (kR s)\/(b=.kb Q4/\kR s=Q4)):=by
   unfold kR;simp only[gS,Q8,zk,c1,d1,q0,q1,q2,q3,q4,q5,q6,n4,n5,c2,w1,w2,if_true,zB,if_false]
   iterate 7 rw[if_pos (zx sg)]
   generalize(Q0 (∀x∈s.2.2.2.1,zO x=Q3)&&(Q0 (1<=s.2.2.2.1.length)&&Q0 (s.2.2.2.1.length<=8)))=b1;generalize bT s.t.t.1=b2;cases b1
   ·exact⟨_,rfl,.inr ⟨rfl,rfl⟩⟩
   ·cases b2
    ·exact⟨_,rfl,.inr ⟨rfl,rfl⟩⟩
    ·exact⟨_,rfl,.inl rfl⟩
  obtain⟨b,hv,hb⟩:=hv;refine zJ hv ?_;clear hv;obtain⟨s1,s2,s3,s4,s5,s6,s7,s8,⟨f1,f2,f3,f4⟩,s10,uP,⟨g1,g2,g3,g4⟩,s13⟩:=s;rcases hb with rfl|⟨rfl,hb⟩
  ·rfl
  ·rw[hb];rfl
 ·intro hk;have hall:∀x∈s.2.2.2.1,zO x=Q3:=by
   unfold kR at hk;simp only[aC,aP]at hk;exact hk.1.1
  rw[n3 hall];rfl
def pP(s:Sem zl):zD:=[77,73,71,82,65,84,69,32,74,79,73,78,32]++s.2.1++[32,70,82,79,77,32]++s.2.2.1++[32,44,32]++s.t.t.t++[32,79,78,32]++s.t.2.1++oV [] s.t.t.1
def nI(s:Sem zl):Bool:=bT s.t.t.1&&(zO s.2.2.1&&(zO s.t.t.t&&zO s.t.2.1))
theorem Oo{s:Sem zl}(h:oI s)(o:s.1=[106,111,105,110]):dD s=Q1 (pP s,(s.1,s.2.1,s.2.2.1,[],[],s.t.2.1,[],[],s.t.t.1,[],[],dn,s.t.t.t),nI s,())/\(pP s).length<=900000:=by
 obtain⟨c1,c2,c3⟩:=bn h.chk h.cchk (w:=[]) sw;obtain⟨d1,d2,d3⟩:=bn h.whr h.cwhr (w:=[87,72,69,82,69]) sw;have ht:=h.sh.table;have hr:=h.sh.role;have ho:=h.sh.other;have hk:=h.sh.key;obtain⟨q0,q1,q2,q3,q4,q5,_,_,_,_,q6,q7⟩:=Xo o;have w1:=bA (s:=s.2.2.1) ow;have w2:=eT (s:=s.2.2.1) ow;have w3:=bA (s:=s.t.t.t) ow;have w4:=eT (s:=s.t.t.t) ow;have w5:=bA (s:=s.t.2.1) ow;have w6:=eT (s:=s.t.2.1) ow;refine⟨?_,by unfold pP;simp;omega⟩
 have hv:∃b,(gS s).val=Q1 (.inr (.tup [.str (pP s),.agg [.str s.1,.str s.2.1,.str s.2.2.1,.nils,.nils,.str s.t.2.1,.nils,.nils,.str (zf.op s.t.t.1),.int .i64 (zf.v s.t.t.1).1,.int .i64 (zf.v s.t.t.1).2.1,.str (zf.v s.t.t.1).2.2,.str (zf.s s.t.t.1),
    .sl Sh.expr (zf.l s.t.t.1),.nils,.nils,.str [],.int .i64 0,.int .i64 0,.str [],.str [],.nils,.str s.t.t.t],b],[]))/\(b=.bool (nI s)\/(b=.kb Q4/\nI s=Q4)):=by
  unfold nI pP;simp only[gS,Q8,zk,c1,d1,q0,q1,q2,q3,q4,q5,q6,q7,c2,w1,w2,w3,w4,w5,w6,if_true,zB,if_false]
  iterate 8 rw[if_pos (zx sg)]
  generalize bT s.t.t.1=b1;generalize zO s.2.2.1=b2;generalize zO s.t.t.t=b3;cases b1
  ·exact⟨_,rfl,.inr ⟨rfl,rfl⟩⟩
  ·cases b2
   ·exact⟨_,rfl,.inr ⟨rfl,rfl⟩⟩
   ·cases b3
    ·exact⟨_,rfl,.inr ⟨rfl,rfl⟩⟩
    ·exact⟨_,rfl,.inl rfl⟩
 obtain⟨b,hv,hb⟩:=hv;refine zJ hv ?_;clear hv;generalize pP s=tx;obtain⟨s1,s2,s3,s4,s5,s6,s7,s8,⟨f1,f2,f3,f4⟩,s10,uP,⟨g1,g2,g3,g4⟩,s13⟩:=s;rcases hb with rfl|⟨rfl,hb⟩
 ·rfl
 ·rw[hb];rfl
def lW(s:Sem zl):zD:=[77,73,71,82,65,84,69,32,71,82,79,85,80,32]++s.2.1++[32,70,82,79,77,32]++s.2.2.1++[32,66,89,32]++s.2.2.2.1.getD 0 []++[32,83,85,77,32]++s.2.2.2.1.getD 1 []++oV [] s.t.t.1
def gI(s:Sem zl):Bool:=Q0 (s.2.2.2.1.length=2)&&(bT s.t.t.1&&(zO s.2.2.1&&(zO (s.2.2.2.1.getD 0 [])&&zO (s.2.2.2.1.getD 1 []))))
theorem KD{s:Sem zl}(h:oI s)(o:s.1=[103,114,111,117,112]):∃t,dD s=Q1 (t,(s.1,s.2.1,s.2.2.1,s.2.2.2.1,[],[],[],[],s.t.t.1,[],[],dn,[]),gI s,())/\t.length<=900000/\(gI s=Q3->t=lW s):=by
 obtain⟨c1,c2,c3⟩:=bn h.chk h.cchk (w:=[]) sw;obtain⟨d1,d2,d3⟩:=bn h.whr h.cwhr (w:=[87,72,69,82,69]) sw;have ht:=h.sh.table;have hr:=h.sh.role;have ho:=h.sh.other;have hk:=h.sh.key;obtain⟨q0,q1,q2,q3,q4,q5,_,_,_,_,q6,q7,q8⟩:=TP o;have w1:=bA (s:=s.2.2.1) ow;have w2:=eT (s:=s.2.2.1) ow;by_cases hlen:s.2.2.2.1.length=2
 ·have l0:((↑(length s.2.2.2.1):Int)!=2)=Q4:=by rw[hlen];rfl
  have n0:(s.2.2.2.1.getD 0 []).length<=1000:=by
   rw[bc,zS ow,dw];exact h.sh.names.2 _ (bd _)
  have n1:(s.2.2.2.1.getD 1 []).length<=1000:=by
   rw[bc,zS ow,dw];exact h.sh.names.2 _ (bd _)
  have i0:zK 0 (length s.2.2.2.1)=Q3:=by rw[hlen];rfl
  have i1:zK 1 (length s.2.2.2.1)=Q3:=by rw[hlen];rfl
  have g0:getD s.2.2.2.1 (toNat 0) (zi Q6)=s.2.2.2.1.getD 0 []:=rfl;have g1:getD s.2.2.2.1 (toNat 1) (zi Q6)=s.2.2.2.1.getD 1 []:=rfl;have w3:=bA (s:=s.2.2.2.1.getD 0 []) ow;have w4:=eT (s:=s.2.2.2.1.getD 0 []) ow;have w5:=bA (s:=s.2.2.2.1.getD 1 []) ow;have w6:=eT (s:=s.2.2.2.1.getD 1 []) ow;refine⟨lW s,?_,by unfold lW;simp at n0 n1⊢;omega,λ_=>rfl⟩
  have hv:∃b,(gS s).val=Q1 (.inr (.tup [.str (lW s),.agg [.str s.1,.str s.2.1,.str s.2.2.1,.sl Q6 s.2.2.2.1,.nils,.str [],.nils,.nils,.str (zf.op s.t.t.1),.int .i64 (zf.v s.t.t.1).1,.int .i64 (zf.v s.t.t.1).2.1,.str (zf.v s.t.t.1).2.2,.str (zf.s s.t.t.1),
    .sl Sh.expr (zf.l s.t.t.1),.nils,.nils,.str [],.int .i64 0,.int .i64 0,.str [],.str [],.nils,.str []],b],[]))/\(b=.bool (gI s)\/(b=.kb Q4/\gI s=Q4)):=by
   unfold gI lW;rw[zx hlen];simp only[gS,Q8,zk,c1,d1,q0,q1,q2,q3,q4,q5,q6,q7,q8,c2,w1,w2,g0,g1,w3,w4,w5,w6,l0,i0,i1,if_true,zB,if_false];generalize s.2.2.2.1.getD 0 []=a0 at n0;generalize s.2.2.2.1.getD 1 []=a1 at n1
   iterate 8 rw[if_pos (zx sg)]
   generalize bT s.t.t.1=b1;generalize zO s.2.2.1=b2;generalize zO a0=b3;cases b1
   ·exact⟨_,rfl,.inr ⟨rfl,rfl⟩⟩
   ·cases b2
    ·exact⟨_,rfl,.inr ⟨rfl,rfl⟩⟩
    ·cases b3
     ·exact⟨_,rfl,.inr ⟨rfl,rfl⟩⟩
     ·exact⟨_,rfl,.inl rfl⟩
  obtain⟨b,hv,hb⟩:=hv;refine zJ hv ?_;clear hv;generalize lW s=tx;clear n0 n1 i0 i1 g0 g1 w3 w4 w5 w6;obtain⟨s1,s2,s3,s4,s5,s6,s7,s8,⟨f1,f2,f3,f4⟩,s10,uP,⟨g1,g2,g3,g4⟩,s13⟩:=s;rcases hb with rfl|⟨rfl,hb⟩
  ·rfl
  ·rw[hb];rfl
 ·have l0:((↑(length s.2.2.2.1):Int)!=2)=Q3:=by
   simp only[bne_iff_ne];omega
  have hok:gI s=Q4:=by unfold gI;rw[aj hlen];rfl
  refine⟨[],?_,sw,λhh=>by rw[hok]at hh;cases hh⟩;rw[hok]
  refine zJ (r:=(.tup [.str [],.agg [.str s.1,.str s.2.1,.str s.2.2.1,.sl Q6 s.2.2.2.1,.nils,.str [],.nils,.nils,.str (zf.op s.t.t.1),.int .i64 (zf.v s.t.t.1).1,.int .i64 (zf.v s.t.t.1).2.1,.str (zf.v s.t.t.1).2.2,.str (zf.s s.t.t.1),
    .sl Sh.expr (zf.l s.t.t.1),.nils,.nils,.str [],.int .i64 0,.int .i64 0,.str [],.str [],.nils,.str []],.kb Q4],[])) ?_ ?_
  ·simp only[gS,Q8,zk,c1,d1,q0,q1,q2,q3,q4,q5,q6,q7,q8,l0,if_true,zB,if_false]
  ·obtain⟨s1,s2,s3,s4,s5,s6,s7,s8,⟨f1,f2,f3,f4⟩,s10,uP,⟨g1,g2,g3,g4⟩,s13⟩:=s;rfl
theorem fT{s:Sem zl}(h:∃r,(gS s).val=Q1 (.inr r)/\r8 r):OI (dD s):=by
 obtain⟨r,h1,t,own,ok,h2,h3,h4⟩:=h;exact zkZ h1 h2 h3 h4
theorem Dv{s:Sem zl}{st:AJ}(h1:(gS s).val=Q1 (.inl st))(h2:∃r,cY mg 100000000 st=Q1 r/\r8 r):OI (dD s):=by
 obtain⟨r,h2,t,own,ok,h3,h4,h5⟩:=h2;refine⟨t,own,ok,?_,h4,h5⟩;unfold dD al cT;rw[h1];show(cY mg 100000000 st).bind _=_;rw[h2];exact h3
theorem Qm{s:Sem zl}(h:oI s)(o:s.1=[105,110,115,101,114,116]):OI (dD s):=by
 obtain⟨c1,c2,c3⟩:=bn h.chk h.cchk (w:=[]) sw;obtain⟨d1,d2,d3⟩:=bn h.whr h.cwhr (w:=[87,72,69,82,69]) sw;have ht:=h.sh.table;have hr:=h.sh.role;have ho:=h.sh.other;have hk:=h.sh.key;have q0:(s.1==[99,114,101,97,116,101])=Q4:=by rw[o];rfl
 have q1:(s.1==[100,114,111,112])=Q4:=by rw[o];rfl
 have q2:(s.1==[105,110,115,101,114,116])=Q3:=by rw[o];rfl
 refine Dv ?_ (znH h);simp only[gS,Q8,zk,c1,d1,q0,q1,q2,if_true,zB,if_false]
theorem Qp{s:Sem zl}(h:oI s)(o:s.1=[117,112,100,97,116,101]):OI (dD s):=by
 obtain⟨c1,c2,c3⟩:=bn h.chk h.cchk (w:=[]) sw;obtain⟨d1,d2,d3⟩:=bn h.whr h.cwhr (w:=[87,72,69,82,69]) sw;have ht:=h.sh.table;have hr:=h.sh.role;have ho:=h.sh.other;have hk:=h.sh.key;have q0:(s.1==[99,114,101,97,116,101])=Q4:=by rw[o];rfl
 have q1:(s.1==[100,114,111,112])=Q4:=by rw[o];rfl
 have q2:(s.1==[105,110,115,101,114,116])=Q4:=by rw[o];rfl
 have q3:(s.1==[117,112,100,97,116,101])=Q3:=by rw[o];rfl
 refine Dv ?_ (znI h (oV [87,72,69,82,69] s.t.t.q.2.1) (bT s.t.t.q.2.1) d3);simp only[gS,Q8,zk,c1,d1,d2,q0,q1,q2,q3,if_true,zB,if_false]
theorem Mi{s:Sem zl}(h:oI s):OI (dD s):=by
 by_cases n0:s.1=[99,114,101,97,116,101]
 ·exact fT (Qk h n0)
 by_cases n1:s.1=[100,114,111,112]
 ·exact fT (XY h n1)
 by_cases n2:s.1=[105,110,115,101,114,116]
 ·exact Qm h n2
 by_cases n3:s.1=[117,112,100,97,116,101]
 ·exact Qp h n3
 by_cases n4:s.1=[100,101,108,101,116,101]
 ·exact fT (Ql h n4)
 by_cases n5:s.1=[115,101,108,101,99,116]
 ·exact fT (Qn h n5)
 by_cases n6:s.1=[99,111,112,121]
 ·obtain⟨t,h1,h2,_⟩:=On h n6;exact⟨t,_,_,h1,h2,ej h (.inl rfl) (.inr rfl) (.inr rfl) (.inr rfl) (.inl rfl) (.inr rfl) (.inr rfl) (.inr rfl)⟩
 by_cases n7:s.1=[106,111,105,110]
 ·obtain⟨h1,h2⟩:=Oo h n7;exact⟨_,_,_,h1,h2,ej h (.inr rfl) (.inr rfl) (.inr rfl) (.inr rfl) (.inl rfl) (.inr rfl) (.inr rfl) (.inr rfl)⟩
 by_cases n8:s.1=[103,114,111,117,112]
 ·obtain⟨t,h1,h2,_⟩:=KD h n8;exact⟨t,_,_,h1,h2,ej h (.inl rfl) (.inr rfl) (.inr rfl) (.inr rfl) (.inl rfl) (.inr rfl) (.inr rfl) (.inr rfl)⟩
 by_cases n9:s.1=[114,101,97,100]
 ·exact fT (X0 h n9)
 by_cases n10:s.1=[119,114,105,116,101]
 ·exact fT (UY h n10)
 by_cases n11:s.1=[117,110,114,101,97,100]
 ·exact fT (Qo h n11)
 by_cases n12:s.1=[117,110,119,114,105,116,101]
 ·exact fT (MG h n12)
 exact fT (XZ h n0 n1 n2 n3 n4 n5 n6 n7 n8 n9 n10 n11 n12)
theorem ZV(p:Int->Bool):∀s:zD,cK p s=s.length↔∀c∈s,p c.toNat=Q3
 |[]=>by simp[cK]
 | c::r=>by
  have h1:=yL p r;have h2:=ZV p r;rw[cK];by_cases h:p c.toNat=Q3
  ·rw[if_pos h];simp[h,h2]
  ·rw[if_neg h];simp[h]
theorem znx(p:Int->Bool)(s:zD):aN p p s=s.length↔∀c∈s,p c.toNat=Q3:=by
 cases s with
 |nil=>simp[aN]
 | cons c r=>
  have h1:=yL p r;have h2:=ZV p r;rw[aN];by_cases h:p c.toNat=Q3
  ·rw[if_pos h];simp[h,h2]
  ·rw[if_neg h];simp[h]
theorem XJ:∀s:zD,(bif (↑(length s):Int)==1 then Q0 (0<=Lib.indexByte [40,41,44,61,60,43,45,42] (List.headD s 0))else Q4)=
  (bif s==[40]then Q3 else bif s==[41]then Q3 else bif s==[44]then Q3 else bif s==[61]then Q3 else bif s==[60]then Q3 else bif s==[43]then Q3 else bif s==[45]then Q3 else s==[42])
 |[]=>rfl
 | a::b::r=>by
  have e:((((a::b::r).length:Nat):Int)==1)=Q4:=bX.2 sg;rw[e];simp
 | [c]=>by
  by_cases h1:c=40
  ·subst h1;rfl
  by_cases h2:c=41
  ·subst h2;rfl
  by_cases h3:c=44
  ·subst h3;rfl
  by_cases h4:c=61
  ·subst h4;rfl
  by_cases h5:c=60
  ·subst h5;rfl
  by_cases h6:c=43
  ·subst h6;rfl
  by_cases h7:c=45
  ·subst h7;rfl
  by_cases h8:c=42
  ·subst h8;rfl
  simp[Lib.indexByte,h1,h2,h3,h4,h5,h6,h7,h8,Ne.symm h1,Ne.symm h2,Ne.symm h3,Ne.symm h4,Ne.symm h5,Ne.symm h6,Ne.symm h7,Ne.symm h8]
theorem J5{t:Sem bZ}(hl:t.2.length<=1000000):Hm t=Q1 (ck t,()):=by
 obtain⟨k,s⟩:=t;have hl:s.length<=1000000:=hl;by_cases k1:k=(1:Int)
 ·subst k1;refine zJ (r:=(.bool (dU s),[])) ?_ ?_
  ·simp only[Jf,Q8,wQ hl,CG hl];rfl
  ·rfl
 by_cases k2:k=(2:Int)
 ·subst k2;have hi:(Jf ((2,s):Sem bZ)).val=Q1 (.inl (.h6 ((0:Nat):Int) ((2,s),()))):=rfl;have hf:=ly (t:=ve) (Φ:=λr=>r=(.kb Q4,[])) 1 (λi=>.h6 (i:Int) ((2,s),())) (λi=>zY (getD s i 0).toNat=Q3) s.length (by
   intro i hi _;have hv:(ve (.h6 (i:Int) ((2,s),()))).val=if(!zY (getD s i 0).toNat)=Q3 then Q1 (.inr (.kb Q4,[]))else Q1 (.inl (.h6 ((i+1:Nat):Int) ((2,s),()))):=by
    show(ve (.h6 _ _)).val=_;unfold ve;simp only[Q8,zC hi,zt hi,aG,eL,fP,if_true];rw[zp i um]
   by_cases h:zY (getD s i 0).toNat=Q3
   ·exact .inl ⟨h,zQ.of (by rw[hv,if_neg (by rw[h];simp)])⟩
   ·exact .inr ⟨h,_,zU.of (by rw[hv,if_pos (by simpa using h)]),rfl⟩)
  have hq:=au (l:=s) (d:=0) (Q:=λc=>zY c.toNat=Q3);have hr:=znx zY s;have ht:ck ((2,s):Sem bZ)=(bif Q0 ((↑(length s):Int)>=1)then bif Q0 ((↑(length s):Int)<=19)then(↑(aN zY zY s):Int)==(↑(length s):Int)else Q4 else Q4):=rfl;rw[ht];rcases hf with⟨h1,h2⟩|⟨h1,r,h2,rfl⟩
  ·have e:((↑(aN zY zY s):Int)==(↑(length s):Int))=Q3:=by rw[hr.2 (hq.1 h1)];simp
   rw[e];refine zw hi (h2.ends (zU.of (r:=(.bool (bif Q0 (1<=(s.length:Int))then Q0 ((s.length:Int)<=19)else Q4),[])) ?_)) ow ?_
   ·show(ve (.h6 _ _)).val=_;unfold ve;simp only[Q8,zA];rfl
   ·show Q1 _=Q1 _;rw[show Q0 ((↑(length s):Int)>=1)=Q0 (1<=(s.length:Int))from rfl];cases Q0 ((s.length:Int)<=19)<;>rfl
  ·have e:((↑(aN zY zY s):Int)==(↑(length s):Int))=Q4:=by
    rw[bX];intro h;exact h1 (hq.2 (hr.1 ow))
   rw[e];refine zw hi h2 ow ?_;show Q1 _=Q1 _;cases Q0 ((↑(length s):Int)>=1)<;>cases Q0 ((↑(length s):Int)<=19)<;>rfl
 by_cases k3:k=(3:Int)
 ·subst k3;refine zJ (r:=(.bool (aR (2,0,s)),[])) ?_ ?_
  ·simp only[Jf,Q8,jH (v:=(2,0,s)) hl,lR (v:=(2,0,s)) hl];rfl
  ·rfl
 by_cases k4:k=(4:Int)
 ·subst k4;have hs:=XJ s;refine zJ (r:=(.bool _,[])) rfl ?_;show Q1 _=Q1 _;rw[show ck ((4,s):Sem bZ)=_ from hs]
 have b1:(k==1)=Q4:=bX.2 k1;have b2:(k==2)=Q4:=bX.2 k2;have b3:(k==3)=Q4:=bX.2 k3;have b4:(k==4)=Q4:=bX.2 k4;have c1:((1:Int)==k)=Q4:=bX.2 (Ne.symm k1);have c2:((2:Int)==k)=Q4:=bX.2 (Ne.symm k2);have ht:ck ((k,s):Sem bZ)=Q4:=by
  unfold ck;simp[b3,b4,c1,c2]
 rw[ht];refine zJ (r:=(.kb Q4,[])) ?_ rfl;simp only[Jf,Q8,b1,b2,b3,b4];rfl
theorem uB{t:Sem bZ}(hl:t.2.length<=1000000):iF t=Q3:=by unfold iF;rw[J5 hl];rfl
theorem Ak{t:Sem bZ}(hl:t.2.length<=1000000):lS t=ck t:=by unfold lS;rw[J5 hl];rfl
abbrev r9:=Option (List (Sem zu))
abbrev oL(o:r9):List (Sem zu):=o.getD []
abbrev WK(s:zD)(i:Int):r9->ef
 |none=>.h3 s i
 |some l=>.h3b s i l
abbrev Sj(s:zD)(i c f:Int)(z:zm [CP.d zu]):r9->ef
 |none=>.h11 s i c f z
 |some l=>.h11b s i c f z l
abbrev Sk(s:zD)(i c f:Int)(z:zm [CP.d zu]):r9->ef
 |none=>.h15 s i c f z
 |some l=>.h15b s i c f z l
abbrev Lo(s:zD)(i:Int)(z:zm [CP.d zu]):r9->ef
 |none=>.h20 s i z
 |some l=>.h20b s i z l
abbrev rNo:aw:=(.tup [.nils,.kb Q4],[])
def QJ(r:aw)(b:Bool):Prop:=∃l,aL r.2 [Sh.sl zu,Q7] r.1=Q1 (l,b,())
theorem Up:QJ rNo Q4:=⟨[],rfl⟩
def KR(s:zD)(j:Nat)(t:Sem bZ)(o:r9):ef⊕aw:=if ck t=Q3 then .inl (WK s (j:Int) (Q1 (oL o++[t])))else .inr rNo
theorem jL(s:zD){j:Nat}(h:j<s.length):Qg (((j+1:Nat):Int).toNat-(j:Int).toNat) (Qh (j:Int).toNat s)=[s[j]]:=by
 rw[aG,aG,show j+1-j=1 by omega,eY h];rfl
theorem v20{s:zD}{j:Nat}{acc:zD}(hl:s.length<=1000000)(hj:j<s.length)(ha:acc.length<=1000000):∀{o:r9},(oL o).length<=1000000->(cP (Lo s (j:Int) ((3,acc),()) o)).val=Q1 (
  if s[j]≠39 then .inl (Lo s ((j+1:Nat):Int) ((3,acc++[s[j]]),()) o)
  else if s[j+1]?=Q1 39 then .inl (Lo s ((j+2:Nat):Int) ((3,acc++[39]),()) o)
  else KR s (j+1) (3,acc) o):=by
 intro o ho;have w1:IntKind.i64.wrap ((j:Int)+1)=((j+1:Nat):Int):=zp j um;have w2:IntKind.i64.wrap (((j+1:Nat):Int)+1)=((j+2:Nat):Int):=zp (j+1) um;have g1:(Q0 (0<=(j:Int))&&Q0 ((j:Int)<=((j+1:Nat):Int))&&Q0 (((j+1:Nat):Int)<=(↑(length s):Int)))=Q3:=by simp;omega
 have g2:Q0 ((↑(length s):Int)<=(j:Int))=Q4:=aj ow;have g3:Q0 ((j:Int)>=(↑(length s):Int))=Q4:=aj ow;have hM:lS ((3,acc):Sem zu)=ck ((3,acc):Sem bZ):=Ak (t:=((3,acc):Sem bZ)) ha;have hMC:iF ((3,acc):Sem zu)=Q3:=uB (t:=((3,acc):Sem bZ)) ha;have hS:(acc.length+[s[j]].length<=1099511627776):=by simp;omega
 by_cases c1:s[j]=39
 ·have b1:((↑s[j].toNat:Int)!=39)=Q4:=by simp[bne,rx.2 c1]
  have b2:((↑s[j].toNat:Int)==39)=Q3:=rx.2 c1;by_cases c2:s[j+1]?=Q1 39
  ·obtain⟨hj1,c3⟩:=cW.1 c2;have b3:((↑s[j+1].toNat:Int)==39)=Q3:=rx.2 c3;have d1:Q0 (((j+1:Nat):Int)<(↑(length s):Int))=Q3:=zx ow;rw[if_neg (by simpa using c1),if_pos c2];cases o with
   | none=>
    show(cP (.h20 _ _ _)).val=_;simp only[cP,w1,w2,cj s hj,jL s hj,zC hj,zt hj,zt hj1,d1,b1,b2,b3,cj s hj1,Q8,ae,ar,dz,if_true,g1,zx hS];rw[c1]
   | some l=>
    show(cP (.h20b _ _ _ _)).val=_;simp only[cP,w1,w2,cj s hj,jL s hj,zC hj,zt hj,zt hj1,d1,b1,b2,b3,cj s hj1,Q8,ae,ar,dz,if_true,g1,zx hS];rw[c1]
  ·rw[if_neg (by simpa using c1),if_neg c2];have e:(bif Q0 (((j+1:Nat):Int)<(↑(length s):Int))then(↑(getD s ((j+1:Nat):Int).toNat 0).toNat:Int)==39 else Q4)=Q4:=by
    by_cases hj1:j+1<s.length
    ·rw[zx ow,cj s hj1];simp only[ae];rw[<-gy,rx];intro h;exact c2 (cW.2 ⟨hj1,h⟩)
    ·rw[aj ow];rfl
   have e2:(bif Q0 (((j+1:Nat):Int)<(↑(length s):Int))then zK ((j+1:Nat):Int) (length s)else Q3)=Q3:=by
    by_cases hj1:j+1<s.length
    ·rw[zt hj1];cases Q0 (((j+1:Nat):Int)<(↑(length s):Int))<;>rfl
    ·rw[aj ow];rfl
   unfold KR;cases o with
   | none=>
    show(cP (.h20 _ _ _)).val=_;simp only[cP,w1,w2,cj s hj,jL s hj,zC hj,zt hj,b1,b2,e,e2,Q8,ae,ar,dz,if_true,zB,if_false,g3,hMC,hM];by_cases m:ck ((3,acc):Sem bZ)=Q3
    ·simp[m]
    ·simp[m]
   | some l=>
    have hl2:(l.length+[((3,acc):Sem zu)].length<=1073741824):=by have:l.length<=1000000:=ho;simp;omega
    show(cP (.h20b _ _ _ _)).val=_;simp only[cP,w1,w2,cj s hj,jL s hj,zC hj,zt hj,b1,b2,e,e2,Q8,ae,ar,dz,if_true,zB,if_false,g3,hMC,hM,zx hl2];by_cases m:ck ((3,acc):Sem bZ)=Q3
    ·simp[m]
    ·simp[m]
 ·have b1:((↑s[j].toNat:Int)!=39)=Q3:=by simp only[bne,xp];rw[<-gy,rx];exact c1
  have b2:((↑s[j].toNat:Int)==39)=Q4:=by rw[<-gy,rx];exact c1
  rw[if_pos c1];cases o with
  | none=>
   show(cP (.h20 _ _ _)).val=_;simp only[cP,w1,w2,cj s hj,jL s hj,zC hj,zt hj,b1,b2,Q8,ae,dz,if_true,zB,if_false,g1,zx hS]
  | some l=>
   show(cP (.h20b _ _ _ _)).val=_;simp only[cP,w1,w2,cj s hj,jL s hj,zC hj,zt hj,b1,b2,Q8,ae,dz,if_true,zB,if_false,g1,zx hS]
theorem znG{s:zD}{acc:zD}:∀{o:r9},(cP (Lo s (s.length:Int) ((3,acc),()) o)).val=Q1 (.inr rNo):=by
 intro o;have g3:Q0 ((↑(length s):Int)>=(↑(length s):Int))=Q3:=zx (Int.le_refl _);cases o with
 | none=>
  show(cP (.h20 _ _ _)).val=_;simp only[cP,zA,Q8,ar,if_true,zB,if_false,g3]
 | some l=>
  show(cP (.h20b _ _ _ _)).val=_;simp only[cP,zA,Q8,ar,if_true,zB,if_false,g3]
theorem l20{s:zD}{o:r9}(hl:s.length<=1000000)(ho:(oL o).length<=1000000):∀(n j:Nat)(acc:zD),s.length-j<=n->j<=s.length->acc.length<=j->
  (eU (s.drop j)=none->zU cP (n+1) (Lo s (j:Int) ((3,acc),()) o) rNo)/\
  (∀t k,eU (s.drop j)=Q1 (t,k)->∀K r,(match KR s (j+k) (3,acc++t) o with|.inl h=>zU cP K h r|.inr r'=>r'=r)->zU cP (K+k) (Lo s (j:Int) ((3,acc),()) o) r)
 | n, j,acc,hn,hj,ha=>by
  by_cases hlt:j<s.length
  ·have hv:=v20 (o:=o) (acc:=acc) hl hlt ow ho;rw[eY hlt];by_cases c1:s[j]=39
   ·rw[if_neg (by simpa using c1)]at hv;by_cases c2:s[j+1]?=Q1 39
    ·rw[if_pos c2]at hv;obtain⟨hj1,c3⟩:=cW.1 c2;obtain⟨n,rfl⟩:∃m,n=m+1:=⟨n-1,ow⟩;obtain⟨i1,i2⟩:=l20 hl ho n (j+2) (acc++[39]) ow ow sg;rw[eY hj1,c1,c3,Kn,show j+1+1=j+2 from rfl];refine⟨λh=>?_,λt k h K r hr=>?_⟩
     ·rw[Option.map_eq_none_iff]at h;exact((zQ.of hv).ends (i1 h))
     ·rw[ei]at h;obtain⟨⟨t',k'⟩,h1,h2⟩:=h;simp only[cA]at h2;obtain⟨rfl,rfl⟩:=h2;have:=i2 t' k' h1 K r (by rw[xq];rw[show j+2+k'=j+(k'+2) by omega];exact hr);exact((zQ.of hv).ends this).mono ow
    ·rw[if_neg c2]at hv;rw[c1,C6 _ (by rw[List.head?_drop];exact c2)];refine⟨λh=>(by cases h),λt k h K r hr=>?_⟩;simp only[bD,cA]at h;obtain⟨rfl,rfl⟩:=h;rw[rF]at hr;revert hv hr;cases KR s (j+1) (3,acc) o with
     |inl h=>intro hv hr;exact(zQ.of hv).ends hr
     |inr r'=>intro hv hr;cases hr;exact(zU.of hv).mono ow
   ·rw[if_pos c1]at hv;obtain⟨n,rfl⟩:∃m,n=m+1:=⟨n-1,ow⟩;obtain⟨i1,i2⟩:=l20 hl ho n (j+1) (acc++[s[j]]) ow ow sg;rw[FI c1];refine⟨λh=>?_,λt k h K r hr=>?_⟩
    ·rw[Option.map_eq_none_iff]at h;exact((zQ.of hv).ends (i1 h))
    ·rw[ei]at h;obtain⟨⟨t',k'⟩,h1,h2⟩:=h;simp only[cA]at h2;obtain⟨rfl,rfl⟩:=h2;have:=i2 t' k' h1 K r (by rw[xq];rw[show j+1+k'=j+(k'+1) by omega];exact hr);exact((zQ.of hv).ends this).mono ow
  ·obtain rfl:j=s.length:=by omega
   rw[jw];exact⟨λ_=>(zU.of znG).mono ow,λt k h=>(by simp[eU]at h)⟩
theorem znD{s:zD}{j:Nat}{c f:Int}{z:zm [CP.d zu]}(hl:s.length<=1000000)(hj:j<s.length)(hp:bw s[j].toNat=Q3):∀{o:r9},(cP (Sj s (j:Int) c f z o)).val=Q1 (.inl (Sj s ((j+1:Nat):Int) c f z o)):=by
 intro o;have w1:IntKind.i64.wrap ((j:Int)+1)=((j+1:Nat):Int):=zp j um;cases o with
 | none=>
  show(cP (.h11 _ _ _ _ _)).val=_;simp only[cP,cj s hj,zC hj,zt hj,qR,uF,hp,w1,Q8,ae,lD,if_true]
 | some l=>
  show(cP (.h11b _ _ _ _ _ _)).val=_;simp only[cP,cj s hj,zC hj,zt hj,qR,uF,hp,w1,Q8,ae,lD,if_true]
theorem znC{s:zD}{j f:Nat}{c:UInt8}{z:zm [CP.d zu]}(hl:s.length<=1000000)(hj:j<=s.length)(hf:f<=j)(hp:∀h:j<s.length,bw s[j].toNat=Q4)(h1:zY c.toNat=Q4)(h2:c≠39):
  ∀{o:r9},(oL o).length<=1000000->(cP (Sj s (j:Int) (c.toNat:Int) (f:Int) z o)).val=Q1 (KR s j (1,Qg (j-f) (Qh f s)) o):=by
 intro o ho;have e1:(bif Q0 ((j:Int)<(↑(length s):Int))then zK (j:Int) (length s)&&qQ (↑(getD s (j:Int).toNat 0).toNat:Int)else Q3)=Q3:=by
  by_cases h:j<s.length
  ·rw[zt h,qR];cases Q0 ((j:Int)<(↑(length s):Int))<;>rfl
  ·rw[aj ow];rfl
 have e2:(bif Q0 ((j:Int)<(↑(length s):Int))then wR (↑(getD s (j:Int).toNat 0).toNat:Int)else Q4)=Q4:=by
  by_cases h:j<s.length
  ·rw[cj s h,uF,hp h];cases Q0 ((j:Int)<(↑(length s):Int))<;>rfl
  ·rw[aj ow];rfl
 have g1:(Q0 (0<=(f:Int))&&Q0 ((f:Int)<=(j:Int))&&Q0 ((j:Int)<=(↑(length s):Int)))=Q3:=by simp;omega
 have b2:((c.toNat:Int)==39)=Q4:=by rw[<-gy,rx];exact h2
 have hlen:(Qg (j-f) (Qh f s)).length<=1000000:=by simp;omega
 have hM:lS ((1,Qg (j-f) (Qh f s)):Sem zu)=ck (1,Qg (j-f) (Qh f s)):=Ak (t:=((1,Qg (j-f) (Qh f s)):Sem bZ)) hlen;have hMC:iF ((1,Qg (j-f) (Qh f s)):Sem zu)=Q3:=uB (t:=((1,Qg (j-f) (Qh f s)):Sem bZ)) hlen;unfold KR;cases o with
 | none=>
  show(cP (.h11 _ _ _ _ _)).val=_;simp only[cP,e1,e2,g1,eL,fP,h1,b2,Q8,if_true,zB,if_false];simp only[aG,hMC,hM,if_true];generalize Qg (j-f) (Qh f s)=T;by_cases m:ck (1,T)=Q3
  ·simp[m]
  ·simp[m]
 | some l=>
  have hl2:(l.length+[((1,Qg (j-f) (Qh f s)):Sem zu)].length<=1073741824):=by have:l.length<=1000000:=ho;simp;omega
  show(cP (.h11b _ _ _ _ _ _)).val=_;simp only[cP,e1,e2,g1,eL,fP,h1,b2,Q8,if_true,zB,if_false];simp only[aG,hMC,hM,zx hl2,if_true];generalize Qg (j-f) (Qh f s)=T;by_cases m:ck (1,T)=Q3
  ·simp[m]
  ·simp[m]
theorem znF{s:zD}{j:Nat}{c f:Int}{z:zm [CP.d zu]}(hl:s.length<=1000000)(hj:j<s.length)(hp:zY s[j].toNat=Q3):∀{o:r9},(cP (Sk s (j:Int) c f z o)).val=Q1 (.inl (Sk s ((j+1:Nat):Int) c f z o)):=by
 intro o;have w1:IntKind.i64.wrap ((j:Int)+1)=((j+1:Nat):Int):=zp j um;cases o with
 | none=>
  show(cP (.h15 _ _ _ _ _)).val=_;simp only[cP,cj s hj,zC hj,zt hj,eL,fP,hp,w1,Q8,ae,lD,if_true]
 | some l=>
  show(cP (.h15b _ _ _ _ _ _)).val=_;simp only[cP,cj s hj,zC hj,zt hj,eL,fP,hp,w1,Q8,ae,lD,if_true]
theorem znE{s:zD}{j f:Nat}{c:UInt8}{z:zm [CP.d zu]}(hl:s.length<=1000000)(hj:j<=s.length)(hf:f<=j)(hp:∀h:j<s.length,zY s[j].toNat=Q4)(h2:c≠39):
  ∀{o:r9},(oL o).length<=1000000->(cP (Sk s (j:Int) (c.toNat:Int) (f:Int) z o)).val=Q1 (KR s j (2,Qg (j-f) (Qh f s)) o):=by
 intro o ho;have e1:(bif Q0 ((j:Int)<(↑(length s):Int))then zK (j:Int) (length s)&&fG (↑(getD s (j:Int).toNat 0).toNat:Int)else Q3)=Q3:=by
  by_cases h:j<s.length
  ·rw[zt h,eL];cases Q0 ((j:Int)<(↑(length s):Int))<;>rfl
  ·rw[aj ow];rfl
 have e2:(bif Q0 ((j:Int)<(↑(length s):Int))then gM (↑(getD s (j:Int).toNat 0).toNat:Int)else Q4)=Q4:=by
  by_cases h:j<s.length
  ·rw[cj s h,fP,hp h];cases Q0 ((j:Int)<(↑(length s):Int))<;>rfl
  ·rw[aj ow];rfl
 have g1:(Q0 (0<=(f:Int))&&Q0 ((f:Int)<=(j:Int))&&Q0 ((j:Int)<=(↑(length s):Int)))=Q3:=by simp;omega
 have b2:((c.toNat:Int)==39)=Q4:=by rw[<-gy,rx];exact h2
 have hlen:(Qg (j-f) (Qh f s)).length<=1000000:=by simp;omega
 have hM:lS ((2,Qg (j-f) (Qh f s)):Sem zu)=ck (2,Qg (j-f) (Qh f s)):=Ak (t:=((2,Qg (j-f) (Qh f s)):Sem bZ)) hlen;have hMC:iF ((2,Qg (j-f) (Qh f s)):Sem zu)=Q3:=uB (t:=((2,Qg (j-f) (Qh f s)):Sem bZ)) hlen;unfold KR;cases o with
 | none=>
  show(cP (.h15 _ _ _ _ _)).val=_;simp only[cP,e1,e2,g1,b2,Q8,if_true,zB,if_false];simp only[aG,hMC,hM,if_true];generalize Qg (j-f) (Qh f s)=T;by_cases m:ck (2,T)=Q3
  ·simp[m]
  ·simp[m]
 | some l=>
  have hl2:(l.length+[((2,Qg (j-f) (Qh f s)):Sem zu)].length<=1073741824):=by have:l.length<=1000000:=ho;simp;omega
  show(cP (.h15b _ _ _ _ _ _)).val=_;simp only[cP,e1,e2,g1,b2,Q8,if_true,zB,if_false];simp only[aG,hMC,hM,zx hl2,if_true];generalize Qg (j-f) (Qh f s)=T;by_cases m:ck (2,T)=Q3
  ·simp[m]
  ·simp[m]
theorem GC{p:Int->Bool}{s:zD}(st:Nat->ef)(hs:∀j(hj:j<s.length),p s[j].toNat=Q3->(cP (st j)).val=Q1 (.inl (st (j+1)))):∀(n j:Nat),s.length-j<=n->j<=s.length->
  zQ cP (cK p (s.drop j)) (st j) (st (j+cK p (s.drop j)))/\j+cK p (s.drop j)<=s.length/\∀h:j+cK p (s.drop j)<s.length,p s[j+cK p (s.drop j)].toNat=Q4
 | n,j,hn,hj=>by
  by_cases hlt:j<s.length
  ·by_cases hp:p s[j].toNat=Q3
   ·obtain⟨n,rfl⟩:∃m,n=m+1:=⟨n-1,ow⟩;have e:cK p (s.drop j)=cK p (s.drop (j+1))+1:=by rw[eY hlt,cK,if_pos hp]
    obtain⟨i1,i2,i3⟩:=GC st hs n (j+1) ow ow;have e2:j+cK p (s.drop j)=j+1+cK p (s.drop (j+1)):=by omega
    refine⟨?_,ow,?_⟩
    ·rw[e2,e];exact((zQ.of (hs j hlt hp)).trans i1).mono ow
    ·intro h;simp only[e2]at h⊢;exact i3 h
   ·have e:cK p (s.drop j)=0:=by rw[eY hlt,cK,if_neg hp]
    rw[e];exact⟨zQ.refl _,ow,λ_=>by simpa using hp⟩
  ·have e:cK p (s.drop j)=0:=by rw[AL ow];rfl
   rw[e];exact⟨zQ.refl _,ow,λh=>absurd h ow⟩
theorem v3{s:zD}{i:Nat}(hl:s.length<=1000000)(hi:i<s.length):∀{o:r9},(oL o).length<=1000000->∃z,(cP (WK s (i:Int) o)).val=Q1 (
  if(bif (s[i].toNat:Int)==32 then Q3 else(s[i].toNat:Int)==10)=Q3 then .inl (WK s ((i+1:Nat):Int) o)
  else if aK s[i].toNat=Q3 then .inl (Sj s ((i+1:Nat):Int) s[i].toNat i z o)
  else if zY s[i].toNat=Q3 then .inl (Sk s ((i+1:Nat):Int) s[i].toNat i z o)
  else if s[i]=39 then .inl (Lo s ((i+1:Nat):Int) ((3,[]),()) o)
  else KR s (i+1) (4,[s[i]]) o):=by
 intro o ho;refine⟨((4,[s[i]]),()),?_⟩;have w1:IntKind.i64.wrap ((i:Int)+1)=((i+1:Nat):Int):=zp i um;have g1:(Q0 (0<=(i:Int))&&Q0 ((i:Int)<=((i+1:Nat):Int))&&Q0 (((i+1:Nat):Int)<=(↑(length s):Int)))=Q3:=by simp;omega
 have hM:lS ((4,[s[i]]):Sem zu)=ck (4,[s[i]]):=Ak (t:=((4,[s[i]]):Sem bZ)) sw;have hMC:iF ((4,[s[i]]):Sem zu)=Q3:=uB (t:=((4,[s[i]]):Sem bZ)) sw;have h39:s[i]=39↔((s[i].toNat:Int)==39)=Q3:=rx.symm;unfold KR;simp only[h39];cases o with
 | none=>
  show(cP (.h3 _ _)).val=_;simp only[cP,w1,cj s hi,jL s hi,zC hi,zt hi,g1,lT,nS,eL,fP,Q8,if_true,hMC,hM];repeat' split
  all_goals first|rfl|simp_all
 | some l=>
  have hl2:(l.length+[((4,[s[i]]):Sem zu)].length<=1073741824):=by have:l.length<=1000000:=ho;simp;omega
  show(cP (.h3b _ _ _)).val=_;simp only[cP,w1,cj s hi,jL s hi,zC hi,zt hi,g1,lT,nS,eL,fP,Q8,if_true,hMC,hM,zx hl2];repeat' split
  all_goals first|rfl|simp_all
theorem Pt{c:UInt8}(h:aK c.toNat=Q3):zY c.toNat=Q4/\c≠39:=by
 have h39:aK ((39:UInt8).toNat:Int)=Q4:=rfl;constructor
 ·have h65:(65:Int)<=(c.toNat:Int):=by
   by_cases k:(65:Int)<=(c.toNat:Int)
   ·exact k
   ·exfalso;have k1:Q0 ((c.toNat:Int)>=97)=Q4:=aj ow;have k2:Q0 ((c.toNat:Int)>=65)=Q4:=aj ow;unfold aK at h;rw[k1,k2]at h;cases h
  have k3:Q0 ((c.toNat:Int)<=57)=Q4:=aj ow;unfold zY;rw[k3];cases Q0 ((c.toNat:Int)>=48)<;>rfl
 ·rintro rfl;rw[h39]at h;cases h
theorem Rn{c:UInt8}(h:zY c.toNat=Q3):c≠39:=by
 have h39:zY ((39:UInt8).toNat:Int)=Q4:=rfl;rintro rfl;rw[h39]at h;cases h
theorem CF{s:zD}(hl:s.length<=1000000):∀(n i:Nat)(o:r9),s.length+1<=n+i->i<=s.length->(oL o).length<=i->∃r,zU cP (3*(s.length-i)+3) (WK s (i:Int) o) r/\QJ r (vL n (s.drop i) (oL o).length)
 |0,i,o,h1,h2,h3=>by omega
 | n + 1,i,o,h1,h2,h3=>by
  by_cases hi:i<s.length
  ·obtain⟨z,hv⟩:=v3 (o:=o) hl hi ow;rw[eY hi,vL];have hdrop:Qh i s=s[i]::Qh (i+1) s:=eY hi;have next:∀(j:Nat)(t:Sem bZ),i<j->j<=s.length->∃r,(match KR s j t o with|.inl h=>zU cP (3*(s.length-j)+3) h r|.inr r'=>r'=r)/\QJ r (if ck t=Q3 then vL n (s.drop j) ((oL o).length+1)else Q4):=by
    intro j t hj1 hj2;unfold KR;by_cases m:ck t=Q3
    ·rw[if_pos m,if_pos m];obtain⟨r,a1,a2⟩:=CF hl n j (Q1 (oL o++[t])) ow hj2 sg;refine⟨r,a1,?_⟩;have:(oL (Q1 (oL o++[t]))).length=(oL o).length+1:=by simp
     rw[this]at a2;exact a2
    ·rw[if_neg m,if_neg m];exact⟨rNo,rfl,Up⟩
   by_cases c0:(bif (s[i].toNat:Int)==32 then Q3 else(s[i].toNat:Int)==10)=Q3
   ·rw[if_pos c0]at hv⊢;obtain⟨r,a1,a2⟩:=CF hl n (i+1) o ow ow ow;exact⟨r,((zQ.of hv).ends a1).mono ow,a2⟩
   ·rw[if_neg c0]at hv⊢;unfold o9;by_cases c1:aK s[i].toNat=Q3
    ·rw[if_pos c1]at hv⊢;obtain⟨b1,b2⟩:=Pt c1;obtain⟨p1,p2,p3⟩:=GC (p:=bw) (s:=s) (λj=>Sj s (j:Int) (s[i].toNat:Int) (i:Int) z o) (λj hj hp=>znD hl hj hp) s.length (i+1) ow ow;have hx:=znC (z:=z) (c:=s[i]) (f:=i) hl p2 ow p3 b1 b2 (o:=o) ow;rw[show i+1+cK bw (Qh (i+1) s)-i=cK bw (Qh (i+1) s)+1 by omega,hdrop]at hx;obtain⟨r,a1,a2⟩:=next (i+1+cK bw (Qh (i+1) s)) (1,(s[i]::Qh (i+1) s).take (cK bw (Qh (i+1) s)+1)) ow p2
     refine⟨r,?_,?_⟩
     ·revert hx a1;cases KR s (i+1+cK bw (Qh (i+1) s)) (1,(s[i]::Qh (i+1) s).take (cK bw (Qh (i+1) s)+1)) o with
      |inl h=>intro hx a1;exact(((zQ.of hv).trans p1).ends ((zQ.of hx).ends a1)).mono ow
      |inr r'=>intro hx a1;cases a1;exact(((zQ.of hv).trans p1).ends (zU.of hx)).mono ow
     ·rw[<-hdrop,Eg];rw[show i+(cK bw (Qh (i+1) s)+1)=i+1+cK bw (Qh (i+1) s) by omega];rw[hdrop];exact a2
    ·rw[if_neg c1]at hv⊢;by_cases c2:zY s[i].toNat=Q3
     ·rw[if_pos c2]at hv⊢;have b2:=Rn c2;obtain⟨p1,p2,p3⟩:=GC (p:=zY) (s:=s) (λj=>Sk s (j:Int) (s[i].toNat:Int) (i:Int) z o) (λj hj hp=>znF hl hj hp) s.length (i+1) ow ow;have hx:=znE (z:=z) (c:=s[i]) (f:=i) hl p2 ow p3 b2 (o:=o) ow;rw[show i+1+cK zY (Qh (i+1) s)-i=cK zY (Qh (i+1) s)+1 by omega,hdrop]at hx;obtain⟨r,a1,a2⟩:=next (i+1+cK zY (Qh (i+1) s)) (2,(s[i]::Qh (i+1) s).take (cK zY (Qh (i+1) s)+1)) ow p2
      refine⟨r,?_,?_⟩
      ·revert hx a1;cases KR s (i+1+cK zY (Qh (i+1) s)) (2,(s[i]::Qh (i+1) s).take (cK zY (Qh (i+1) s)+1)) o with
       |inl h=>intro hx a1;exact(((zQ.of hv).trans p1).ends ((zQ.of hx).ends a1)).mono ow
       |inr r'=>intro hx a1;cases a1;exact(((zQ.of hv).trans p1).ends (zU.of hx)).mono ow
      ·rw[<-hdrop,Eg];rw[show i+(cK zY (Qh (i+1) s)+1)=i+1+cK zY (Qh (i+1) s) by omega];rw[hdrop];exact a2
     ·rw[if_neg c2]at hv⊢;by_cases c3:s[i]=39
      ·rw[if_pos c3]at hv⊢;obtain⟨q1,q2⟩:=l20 (o:=o) hl ow (s.length-(i+1)) (i+1) [] (aA _) ow sw;cases hs:eU (Qh (i+1) s)with
       | none=>
        have hm:ck ((0,[]):Sem bZ)=Q4:=rfl;simp only[hm,zB,if_false];exact⟨rNo,((zQ.of hv).ends (q1 hs)).mono ow,Up⟩
       | some x=>
        obtain⟨t,k⟩:=x;obtain⟨k1,k2,_⟩:=qZ _ _ _ _ (aA _) hs;have k2:k<=s.length-(i+1):=by simpa using k2
        obtain⟨r,a1,a2⟩:=next (i+1+k) (3,t) ow ow
        refine⟨r,((zQ.of hv).ends (q2 t k hs _ r a1)).mono ow,?_⟩;simp only;rw[<-hdrop,Eg,show i+(k+1)=i+1+k by omega];exact a2
      ·rw[if_neg c3]at hv⊢;obtain⟨r,a1,a2⟩:=next (i+1) (4,[s[i]]) ow ow
       refine⟨r,?_,a2⟩;revert hv a1;cases KR s (i+1) (4,[s[i]]) o with
       |inl h=>intro hv a1;exact((zQ.of hv).ends a1).mono ow
       |inr r'=>intro hv a1;cases a1;exact(zU.of hv).mono ow
  ·obtain rfl:i=s.length:=by omega
   rw[jw,vL];cases o with
   | none=>
    refine⟨(.tup [.nils,.bool Q3],[]),(zU.of ?_).mono ow,[],rfl⟩;show(cP (.h3 _ _)).val=_;simp only[cP,zA,Q8];rfl
   | some l=>
    refine⟨(.tup [.vec 0,.bool (Q0 ((↑l.length:Int)<=400))],[.vec zu l]),(zU.of ?_).mono ow,l,?_⟩
    ·show(cP (.h3b _ _ _)).val=_;simp only[cP,zA,Q8];rfl
    ·have e:Q0 ((↑l.length:Int)<=400)=Q0 (l.length<=400):=by
      by_cases h:l.length<=400
      ·rw[zx h];exact zx ow
      ·rw[aj h];exact aj ow
     rw[e];rfl
theorem J4{s:zD}(hl:s.length<=1000000):∃l,Hl s=Q1 (l,(cut s).2==(0:Int),()):=by
 obtain⟨r,h1,l,h2⟩:=CF hl (s.length+1) 0 none ow ow sw;have h3:=A2 (s.length+1) s 0 [] ow ow ow sw;have hc:((cut s).2==(0:Int))=vL (s.length+1) (s.drop 0) ([]:List (Sem zu)).length:=h3;refine⟨l,?_⟩;rw[hc];exact zw (s:=WK s ((0:Nat):Int) none) rfl h1 ow h2
theorem Ul{s:zD}(hl:s.length<=1000000):Hk s=Q3:=by
 obtain⟨l,h⟩:=J4 hl;unfold Hk;rw[h];rfl
theorem Xx{s:zD}(hl:s.length<=1000000):(xT s).2=((cut s).2==(0:Int)):=by
 obtain⟨l,h⟩:=J4 hl;unfold xT;rw[h];rfl
theorem sQ{α:Type}(p:α->Bool):∀(l:List α)(i:Nat),(!Q0 (zW p l i>=0))=Q3↔∀x∈l,p x=Q4
 | [],i=>by
  refine⟨λ_ x hx=>(by cases hx),λ_=>?_⟩;rw[zW];rfl
 | y::r,i=>by
  refine⟨λh=>pj p _ i h,λh=>?_⟩;rw[zW,h y sw];exact(sQ p r (i+1)).2 λx hx=>h x (by simp[hx])
theorem jh{x:Sem zl}(h4:x.2.2.2.1.length<=1000)(h5:x.2.2.2.2.1.length<=1000)(h7:x.2.2.2.2.2.2.1.length<=1000)(h8:x.2.2.2.2.2.2.2.1.length<=1000)(h10:x.2.2.2.2.2.2.2.2.2.1.length<=1000)(h11:x.2.2.2.2.2.2.2.2.2.2.1.length<=1000):
  eB x=Q3↔x.2.1=[]/\x.2.2.1=[]/\x.2.2.2.2.2.1=[]/\x.2.2.2.2.2.2.2.2.2.2.2.2=[]/\x.2.2.2.1=[]/\x.2.2.2.2.1=[]/\x.2.2.2.2.2.2.1=[]/\x.2.2.2.2.2.2.2.1=[]/\x.2.2.2.2.2.2.2.2.2.1=[]/\x.2.2.2.2.2.2.2.2.2.2.1=[]/\x.2.2.2.2.2.2.2.2.1=dn/\x.2.2.2.2.2.2.2.2.2.2.2.1=dn:=by
 unfold eB
 have hw:(IntKind.i64.wrap (IntKind.i64.wrap (IntKind.i64.wrap (IntKind.i64.wrap (IntKind.i64.wrap ((↑(length x.2.2.2.1):Int)+(↑(length x.2.2.2.2.1):Int))+(↑(length x.2.2.2.2.2.2.1):Int))+(↑(length x.2.2.2.2.2.2.2.1):Int))+(↑(length x.2.2.2.2.2.2.2.2.2.1):Int))+(↑(length x.2.2.2.2.2.2.2.2.2.2.1):Int)))=
   ((x.2.2.2.1.length+x.2.2.2.2.1.length+x.2.2.2.2.2.2.1.length+x.2.2.2.2.2.2.2.1.length+x.2.2.2.2.2.2.2.2.2.1.length+x.2.2.2.2.2.2.2.2.2.2.1.length:Nat):Int):=by
  have g:∀n:Nat,n<=10000->IntKind.i64.wrap (n:Int)=(n:Int):=λn hn=>UZ n (by omega)
  rw[<-tq,g _ (by omega),<-tq,g _ (by omega),<-tq,g _ (by omega),<-tq,g _ (by omega),<-tq,g _ (by omega)]
 rw[hw];constructor
 ·intro h;obtain⟨k1,h⟩:=cv h;obtain⟨k2,h⟩:=cv h;obtain⟨k3,k4⟩:=cv h;simp only[bf,List.append_eq_nil_iff]at k1;obtain⟨⟨⟨a1,a2⟩,a3⟩,a4⟩:=k1;have k2:x.2.2.2.1.length+x.2.2.2.2.1.length+x.2.2.2.2.2.2.1.length+x.2.2.2.2.2.2.2.1.length+x.2.2.2.2.2.2.2.2.2.1.length+x.2.2.2.2.2.2.2.2.2.2.1.length=0:=by
   have:=bC k2;exact Int.ofNat.inj this
  refine⟨a1,a2,a3,a4,?_,?_,?_,?_,?_,?_,kg.1 k3,kg.1 k4⟩<;>exact yk (by omega)
 ·rintro⟨a1,a2,a3,a4,a5,a6,a7,a8,a9,a10,a11,a12⟩;rw[a1,a2,a3,a4,a5,a6,a7,a8,a9,a10,a11,a12,show gX dn=Q3 from rfl];rfl
theorem UE(s:Sem zl):dZ s=(fh s&&((cut (iJ s)).2==0)):=by
 unfold dZ pH;cases fh s
 ·rfl
 ·show((if((cut (iJ s)).2!=0)=Q3 then(([],1):Sem Q6×Sem zg)else(iJ s,0)).2==0)=_;cases h:((cut (iJ s)).2==0)
  ·have:((cut (iJ s)).2!=0)=Q3:=by simp only[bne,h];rfl
   rw[if_pos this];rfl
  ·have:((cut (iJ s)).2!=0)=Q4:=by simp only[bne,h];rfl
   rw[this];rfl
theorem To(s:zD):bR s=zO s:=rfl
theorem FB{s:Sem zl}(h:oI s){t:zD}{own:Sem zl}{ok:Bool}(hw:dD s=Q1 (t,own,ok,()))(hl:t.length<=900000)(hc:AF own):
  ∃t',nT s=Q1 (t',(ok&&(zO s.2.1&&(ff own s&&((cut t).2==(0:Int))))),()):=by
 have hn:=h.sh.table;have e1:uJ s=Q3:=by unfold uJ;rw[hw];rfl
 have e2:Ao s=(t,own,ok):=by unfold Ao;rw[hw];rfl
 obtain⟨s1,_⟩:=qT (b:=s) hc;have n1:=bA (s:=s.2.1) ow;have n2:=eT (s:=s.2.1) ow;have k1:=Ul (s:=t) ow;have k2:=Xx (s:=t) ow;have es:uJ (s.1,s.2.1,s.2.2.1,s.2.2.2.1,s.t.1,s.t.2.1,s.t.q.1,s.t.q.2.1,s.t.t.1,s.t.t.2.1,s.t.t.q.1,s.t.t.q.2.1,s.t.t.t)=Q3:=e1;have ew:Ao (s.1,s.2.1,s.2.2.1,s.2.2.2.1,s.t.1,s.t.2.1,s.t.q.1,s.t.q.2.1,s.t.t.1,s.t.t.2.1,s.t.t.q.1,s.t.t.q.2.1,s.t.t.t)=(t,own,ok):=e2;have ss:Am (own.1,own.2.1,own.2.2.1,own.2.2.2.1,own.t.1,own.t.2.1,own.t.q.1,own.t.q.2.1,own.t.t.1,own.t.t.2.1,own.t.t.q.1,own.t.t.q.2.1,own.t.t.t) (s.1,s.2.1,s.2.2.1,s.2.2.2.1,s.t.1,s.t.2.1,s.t.q.1,s.t.q.2.1,s.t.t.1,s.t.t.2.1,s.t.t.q.1,s.t.t.q.2.1,s.t.t.t)=Q3:=s1;have sv:ff (own.1,own.2.1,own.2.2.1,own.2.2.2.1,own.t.1,own.t.2.1,own.t.q.1,own.t.q.2.1,own.t.t.1,own.t.t.2.1,own.t.t.q.1,own.t.t.q.2.1,own.t.t.t) (s.1,s.2.1,s.2.2.1,s.2.2.2.1,s.t.1,s.t.2.1,s.t.q.1,s.t.q.2.1,s.t.t.1,s.t.t.2.1,s.t.t.q.1,s.t.t.q.2.1,s.t.t.t)=ff own s:=rfl;have hv:∃t' b,(zc3 s).val=Q1 (.inr (.tup [.str t',b],[]))/\(b=.kb Q3/\(ok&&(zO s.2.1&&(ff own s&&((cut t).2==(0:Int)))))=Q3\/(b=.kb Q4/\(ok&&(zO s.2.1&&(ff own s&&((cut t).2==(0:Int)))))=Q4)):=by
  simp only[zc3,Q8,zk,es,ew,ss,sv,n1,n2,k1,k2,if_true];generalize ff own s=b1;generalize zO s.2.1=b2;generalize((cut t).2==(0:Int))=b3;cases ok<;>cases b2<;>cases b1<;>cases b3<;>first|exact⟨_,_,rfl,.inl ⟨rfl,rfl⟩⟩|exact⟨_,_,rfl,.inr ⟨rfl,rfl⟩⟩
 obtain⟨t',b,hv,hb⟩:=hv;refine⟨t',zJ hv ?_⟩;rcases hb with⟨rfl,hb⟩|⟨rfl,hb⟩<;>rw[hb]<;>rfl
theorem Mf{s:Sem zl}(h:oI s):∃t b,nT s=Q1 (t,b,()):=by
 obtain⟨t,own,ok,h1,h2,h3⟩:=Mi h;obtain⟨t',h4⟩:=FB h h1 h2 h3;exact⟨t',_,h4⟩
theorem NO{s:Sem zl}(h:oI s)(o:s.1=[99,111,112,121]):fh s=(kR s&&(zO s.2.1&&ff (s.1,s.2.1,s.2.2.1,s.2.2.2.1,[],[],[],[],s.2.2.2.2.2.2.2.2.1,[],[],dn,[]) s)):=by
 have hn:=h.sh.names.1;have hc:=h.sh.cols.1;have hq:=h.sh.uniques.1;have hr:=h.sh.refs.1;have hw:=h.sh.row;have hs:=h.sh.sets.1;obtain⟨p0,p1,p2,p3,p4,p5,p6,p7,p8,p9,p10⟩:=Xn o;obtain⟨_,hp⟩:=eC (s:=s) (g:=_) (b:=_) (by simp only[tV,Q8,p0,p1,p2,p3,p4,p5,p6,p7,p8,p9,p10,if_true,if_false,zB,zk];exact rfl);obtain⟨_,hsame⟩:=qT (a:=(s.1,s.2.1,s.2.2.1,s.2.2.2.1,[],[],[],[],s.2.2.2.2.2.2.2.2.1,[],[],dn,[])) (b:=s) (ej h (.inl rfl) (.inr rfl) (.inr rfl) (.inr rfl) (.inl rfl) (.inr rfl) (.inr rfl) (.inr rfl));have hem:=jh (x:=(s.1,[],[],[],s.2.2.2.2.1,s.2.2.2.2.2.1,s.2.2.2.2.2.2.1,s.2.2.2.2.2.2.2.1,dn,s.2.2.2.2.2.2.2.2.2.1,s.2.2.2.2.2.2.2.2.2.2.1,s.2.2.2.2.2.2.2.2.2.2.2.1,s.2.2.2.2.2.2.2.2.2.2.2.2)) (by simp) (by simpa using cD hc (by omega)) (by simpa using cD hq (by omega)) (by simpa using cD hr (by omega)) (by simpa using cD hw (by omega)) (by simpa using cD hs (by omega));have hec:ee (s.1,[],[],[],s.2.2.2.2.1,s.2.2.2.2.2.1,s.2.2.2.2.2.2.1,s.2.2.2.2.2.2.2.1,dn,s.2.2.2.2.2.2.2.2.2.1,s.2.2.2.2.2.2.2.2.2.2.1,s.2.2.2.2.2.2.2.2.2.2.2.1,s.2.2.2.2.2.2.2.2.2.2.2.2)=Q3:=fQ (by simp) (by simp) (by have:=h.sh.key;simpa using this) (by have:=h.sh.role;simpa using this);rw[hp];apply ip.2;have hown:ff (s.1,s.2.1,s.2.2.1,s.2.2.2.1,[],[],[],[],s.2.2.2.2.2.2.2.2.1,[],[],dn,[]) s=Q3↔eB (s.1,[],[],[],s.2.2.2.2.1,s.2.2.2.2.2.1,s.2.2.2.2.2.2.1,s.2.2.2.2.2.2.2.1,dn,s.2.2.2.2.2.2.2.2.2.1,s.2.2.2.2.2.2.2.2.2.2.1,s.2.2.2.2.2.2.2.2.2.2.2.1,s.2.2.2.2.2.2.2.2.2.2.2.2)=Q3:=by
  rw[hsame,hem];obtain⟨s1,s2,s3,s4,s5,s6,s7,s8,s9,s10,uP,s12,s13⟩:=s;simp only[cA,true_and];constructor
  ·intro k;simp_all
  ·intro k;simp_all
 have hix:=sQ (λx=>!bR x) s.2.2.2.1 0;have hnm:(!Q0 (zW (λx=>!bR x) s.2.2.2.1 0>=0))=Q0 (∀x∈s.2.2.2.1,zO x=Q3):=by
  apply ip.2;rw[hix,Ip];exact⟨λk x hx=>by have:=k x hx;simpa[To]using this,λk x hx=>by have:=k x hx;simpa[To]using this⟩
 have hlb:(bif Q0 ((↑(length s.2.2.2.1):Int)<1)then Q3 else Q0 ((↑(length s.2.2.2.1):Int)>8))=!(Q0 (1<=s.2.2.2.1.length)&&Q0 (s.2.2.2.1.length<=8)):=by
  by_cases a:1<=s.2.2.2.1.length
  ·rw[aj (show¬(↑(length s.2.2.2.1):Int)<1 by omega),zx a];by_cases b:s.2.2.2.1.length<=8
   ·rw[aj (show¬(↑(length s.2.2.2.1):Int)>8 by omega),zx b];rfl
   ·rw[zx (show(↑(length s.2.2.2.1):Int)>8 by omega),aj b];rfl
  ·rw[zx (show(↑(length s.2.2.2.1):Int)<1 by omega),aj a];rfl
 rw[hnm,hlb,hec];unfold kR;rw[show bR s.2.1=zO s.2.1 from rfl,show bR s.2.2.1=zO s.2.2.1 from rfl];rw[ip.2 hown];generalize eB _=b1;generalize bT s.2.2.2.2.2.2.2.2.1=b2;generalize zO s.2.1=b3;generalize zO s.2.2.1=b4;generalize Q0 (∀x∈s.2.2.2.1,zO x=Q3)=b5;generalize(Q0 (1<=s.2.2.2.1.length)&&Q0 (s.2.2.2.1.length<=8))=b6;cases b1<;>cases b2<;>cases b3<;>cases b4<;>cases b5<;>cases b6<;>simp
theorem NP{s:Sem zl}(h:oI s)(o:s.1=[106,111,105,110]):fh s=(nI s&&(zO s.2.1&&ff (s.1,s.2.1,s.2.2.1,[],[],s.t.2.1,[],[],s.t.t.1,[],[],dn,s.t.t.t) s)):=by
 have hn:=h.sh.names.1;have hc:=h.sh.cols.1;have hq:=h.sh.uniques.1;have hr:=h.sh.refs.1;have hw:=h.sh.row;have hs:=h.sh.sets.1;obtain⟨p0,p1,p2,p3,p4,p5,p6,p7,p8,p9,p10,p11⟩:=Xo o;obtain⟨_,hp⟩:=eC (s:=s) (g:=_) (b:=_) (by simp only[tV,Q8,p0,p1,p2,p3,p4,p5,p6,p7,p8,p9,p10,p11,if_true,if_false,zB,zk];exact rfl);obtain⟨_,hsame⟩:=qT (a:=(s.1,s.2.1,s.2.2.1,[],[],s.t.2.1,[],[],s.t.t.1,[],[],dn,s.t.t.t)) (b:=s) (ej h (.inr rfl) (.inr rfl) (.inr rfl) (.inr rfl) (.inl rfl) (.inr rfl) (.inr rfl) (.inr rfl));have hem:=jh (x:=(s.1,[],[],s.2.2.2.1,s.t.1,[],s.t.q.1,s.t.q.2.1,dn,s.t.t.2.1,s.t.t.q.1,s.t.t.q.2.1,[])) (by simpa using cD hn ow) (by simpa using cD hc ow) (by simpa using cD hq ow) (by simpa using cD hr ow) (by simpa using cD hw ow) (by simpa using cD hs ow);have hec:ee (s.1,[],[],s.2.2.2.1,s.t.1,[],s.t.q.1,s.t.q.2.1,dn,s.t.t.2.1,s.t.t.q.1,s.t.t.q.2.1,[])=Q3:=fQ sw sw sw sw;rw[hp];apply ip.2;have hown:ff (s.1,s.2.1,s.2.2.1,[],[],s.t.2.1,[],[],s.t.t.1,[],[],dn,s.t.t.t) s=Q3↔eB (s.1,[],[],s.2.2.2.1,s.t.1,[],s.t.q.1,s.t.q.2.1,dn,s.t.t.2.1,s.t.t.q.1,s.t.t.q.2.1,[])=Q3:=by
  rw[hsame,hem];obtain⟨s1,s2,s3,s4,s5,s6,s7,s8,s9,s10,uP,s12,s13⟩:=s;simp only[cA,true_and];constructor
  ·intro k;simp_all
  ·intro k;simp_all
 rw[hec];unfold nI;rw[show bR s.2.1=zO s.2.1 from rfl,show bR s.2.2.1=zO s.2.2.1 from rfl,show bR s.t.2.1=zO s.t.2.1 from rfl,show bR s.t.t.t=zO s.t.t.t from rfl];rw[ip.2 hown];generalize eB _=b1;generalize bT s.t.t.1=b2;generalize zO s.2.1=b3;generalize zO s.2.2.1=b4;generalize zO s.t.2.1=b5;generalize zO s.t.t.t=b6;cases b1<;>cases b2<;>cases b3<;>cases b4<;>cases b5<;>cases b6<;>simp
theorem JJ{s:Sem zl}(h:oI s)(o:s.1=[103,114,111,117,112]):fh s=(gI s&&(zO s.2.1&&ff (s.1,s.2.1,s.2.2.1,s.2.2.2.1,[],[],[],[],s.2.2.2.2.2.2.2.2.1,[],[],dn,[]) s)):=by
 have hn:=h.sh.names.1;have hc:=h.sh.cols.1;have hq:=h.sh.uniques.1;have hr:=h.sh.refs.1;have hw:=h.sh.row;have hs:=h.sh.sets.1;obtain⟨p0,p1,p2,p3,p4,p5,p6,p7,p8,p9,p10,p11,p12⟩:=TP o;obtain⟨_,hp⟩:=eC (s:=s) (g:=_) (b:=_) (by simp only[tV,Q8,p0,p1,p2,p3,p4,p5,p6,p7,p8,p9,p10,p11,p12,if_true,if_false,zB,zk];exact rfl);obtain⟨_,hsame⟩:=qT (a:=(s.1,s.2.1,s.2.2.1,s.2.2.2.1,[],[],[],[],s.2.2.2.2.2.2.2.2.1,[],[],dn,[])) (b:=s) (ej h (.inl rfl) (.inr rfl) (.inr rfl) (.inr rfl) (.inl rfl) (.inr rfl) (.inr rfl) (.inr rfl));have hem:=jh (x:=(s.1,[],[],[],s.2.2.2.2.1,s.2.2.2.2.2.1,s.2.2.2.2.2.2.1,s.2.2.2.2.2.2.2.1,dn,s.2.2.2.2.2.2.2.2.2.1,s.2.2.2.2.2.2.2.2.2.2.1,s.2.2.2.2.2.2.2.2.2.2.2.1,s.2.2.2.2.2.2.2.2.2.2.2.2)) (by simp) (by simpa using cD hc (by omega)) (by simpa using cD hq (by omega)) (by simpa using cD hr (by omega)) (by simpa using cD hw (by omega)) (by simpa using cD hs (by omega));have hec:ee (s.1,[],[],[],s.2.2.2.2.1,s.2.2.2.2.2.1,s.2.2.2.2.2.2.1,s.2.2.2.2.2.2.2.1,dn,s.2.2.2.2.2.2.2.2.2.1,s.2.2.2.2.2.2.2.2.2.2.1,s.2.2.2.2.2.2.2.2.2.2.2.1,s.2.2.2.2.2.2.2.2.2.2.2.2)=Q3:=fQ (by simp) (by simp) (by have:=h.sh.key;simpa using this) (by have:=h.sh.role;simpa using this);rw[hp];apply ip.2;have hown:ff (s.1,s.2.1,s.2.2.1,s.2.2.2.1,[],[],[],[],s.2.2.2.2.2.2.2.2.1,[],[],dn,[]) s=Q3↔eB (s.1,[],[],[],s.2.2.2.2.1,s.2.2.2.2.2.1,s.2.2.2.2.2.2.1,s.2.2.2.2.2.2.2.1,dn,s.2.2.2.2.2.2.2.2.2.1,s.2.2.2.2.2.2.2.2.2.2.1,s.2.2.2.2.2.2.2.2.2.2.2.1,s.2.2.2.2.2.2.2.2.2.2.2.2)=Q3:=by
  rw[hsame,hem];obtain⟨s1,s2,s3,s4,s5,s6,s7,s8,s9,s10,uP,s12,s13⟩:=s;simp only[cA,true_and];constructor
  ·intro k;simp_all
  ·intro k;simp_all
 have hix:=sQ (λx=>!bR x) s.2.2.2.1 0;have hlb:(bif bif Q0 ((↑(length s.2.2.2.1):Int)<2)then Q3 else Q0 ((↑(length s.2.2.2.1):Int)>2)then Q4 else bif !Q0 (zW (λx=>!bR x) s.2.2.2.1 0>=0)then bT s.2.2.2.2.2.2.2.2.1 else Q4)=(Q0 (s.2.2.2.1.length=2)&&(bT s.2.2.2.2.2.2.2.2.1&&(zO (s.2.2.2.1.getD 0 [])&&zO (s.2.2.2.1.getD 1 [])))):=by
  by_cases a:s.2.2.2.1.length=2
  ·rw[aj (show¬(↑(length s.2.2.2.1):Int)<2 by omega),aj (show¬(↑(length s.2.2.2.1):Int)>2 by omega),zx a];have hnm:(!Q0 (zW (λx=>!bR x) s.2.2.2.1 0>=0))=(zO (s.2.2.2.1.getD 0 [])&&zO (s.2.2.2.1.getD 1 [])):=by
    apply ip.2;rw[hix,aC];obtain⟨s1,s2,s3,s4,s5⟩:=s
    match s4,a with
    |[x,y],_=>simp[To]
   rw[hnm];cases bT s.2.2.2.2.2.2.2.2.1<;>cases zO (s.2.2.2.1.getD 0 [])<;>cases zO (s.2.2.2.1.getD 1 [])<;>rfl
  ·rw[aj a];by_cases b:(↑(length s.2.2.2.1):Int)<2
   ·rw[zx b];rfl
   ·rw[aj b,zx (show(↑(length s.2.2.2.1):Int)>2 by omega)];rfl
 rw[hlb,hec];unfold gI;rw[show bR s.2.1=zO s.2.1 from rfl,show bR s.2.2.1=zO s.2.2.1 from rfl];rw[ip.2 hown];generalize eB _=b1;generalize bT s.2.2.2.2.2.2.2.2.1=b2;generalize zO s.2.1=b3;generalize zO s.2.2.1=b4;generalize zO (s.2.2.2.1.getD 0 [])=b5;generalize zO (s.2.2.2.1.getD 1 [])=b6;generalize Q0 (s.2.2.2.1.length=2)=b7;cases b1<;>cases b2<;>cases b3<;>cases b4<;>cases b5<;>cases b6<;>cases b7<;>simp
abbrev zi8:=lx [(4,[1,2,5]),(9,[1,2,6])]
inductive FV where
 |h4 (l1:LV) (i5:Int) (z0:zm [CP.d zo])
 |h9 (l1:LV) (i6:Int) (z0:zm [CP.d zo])
abbrev zlL:FV->Nat×St
 |.h4 l1 i5 z0=>(4,⟨tm 83 [(1,sl ze l1),(2,ptr 0 0),(5,ai i5)],[Qa (bv [] [CP.d zo] z0)]⟩)
 |.h9 l1 i6 z0=>(9,⟨tm 83 [(1,sl ze l1),(2,ptr 0 0),(6,ai i6)],[Qa (bv [] [CP.d zo] z0)]⟩)
def zc6(x0:Sem zo)(x1:Sem ze.sl):Tr (FV⊕aw):=
 let a0:=(x0.1,x0.2.1,x0.2.2.1,x0.2.2.2.1,x0.t.1,zn x0.t.2)
 Qc (wO a0)
 (br (bif !Fw a0 then Q3 else(↑(length x1):Int)!=(↑(length x0.2.1):Int)) (re (ai 1) [])
  (Q9 (FV.h4 x1 0 (x0,()))))
def Di:FV->Tr (FV⊕aw)
 | .h4 l1 i5 z0=>
  let a0:=l1.getD i5.toNat (zi ze)
  br (Q0 (i5<(↑l1.length:Int)))
  (Qc (zK i5 l1.length) (Qc (kW a0) (br (!py a0) (re (ai 1) []) (Q9 (FV.h4 l1 (IntKind.i64.wrap (i5+1)) z0)))))
  (Q9 (FV.h9 l1 0 z0))
 | .h9 l1 i6 z0=>
  let a0:=l1.getD i6.toNat (zi ze)
  let a1:=a0.1==0
  let a2:=zK i6 (length z0.1.2.1)
  let a3:=getD z0.1.2.1 i6.toNat (zi zj)
  let a4:=a0.1!=0
  let a5:=!zf.op z0.1.t.2==[]
  let a6:=zn z0.1.t.2
  let a7:=G1 a6 z0.1.2.1 l1
  br (Q0 (i6<(↑l1.length:Int)))
  (Qc (zK i6 l1.length&&bif a1 then a2 else Q3)
   (br (bif a1 then a3.2.2 else Q4) (re (ai 8) []) (Qc (zK i6 l1.length&&bif a4 then zK i6 l1.length&&a2 else Q3) (br (bif a4 then a0.1!=a3.2.1 else Q4) (re (ai 5) []) (Q9 (FV.h9 l1 (IntKind.i64.wrap (i6+1)) z0))))))
  (Qc (bif a5 then Aa a6 z0.1.2.1 l1&&mJ a7 Q4 else Q3)
   (br (bif a5 then pu a7 Q4 else Q4) (re (ai 9) []) (re (ai 0) [])))
def Ag(x0:Sem zo)(x1:Sem ze.sl):=al [zg] Di 100000000 (zc6 x0 x1)
def G8(x0:Sem zo)(x1:Sem ze.sl):=(Ag x0 x1).isSome
def Mb(x0:Sem zo)(x1:Sem ze.sl):=o1 (Ag x0 x1)
def zfB:=FT [zo,ze.sl] [zg] λx=>Ag x.1 x.2.1
theorem zby:FK 128 zfB:=kI.T1 (f:=Tryz.f128) (keep:=zi8) (e:=zlL)
abbrev zi9:=lx [(2,[0,1,5]),(5,[0,1,5,6])]
inductive Ie where
 |h2 (l0:List (Sem ze.sl)) (i1:Sem zg) (i5:Int)
 |h5 (l0:List (Sem ze.sl)) (i1:Sem zg) (i5:Int) (i6:Int)
abbrev zlM:Ie->Nat×St
 |.h2 l0 i1 i5=>(2,⟨tm 44 [(0,sl ze.sl l0),(1,ai i1),(5,ai i5)],[]⟩)
 |.h5 l0 i1 i5 i6=>(5,⟨tm 44 [(0,sl ze.sl l0),(1,ai i1),(5,ai i5),(6,ai i6)],[]⟩)
def zir(x0:Sem ze.sl.sl)(x1:Sem zg):Tr (Ie⊕aw):=
 Q9 (Ie.h2 x0 x1 0)
def DU:Ie->Tr (Ie⊕aw)
 | .h2 l0 i1 i5=>
  br (Q0 (i5<(↑l0.length:Int))) (Q9 (Ie.h5 l0 i1 i5 0)) (re (kb Q4) [])
 | .h5 l0 i1 i5 i6=>
  let a0:=l0.getD i5.toNat (zi ze.sl)
  let a1:=zK i1 (length a0)
  let a2:=getD a0 (toNat i1) (zi ze)
  let a3:=a2.1!=0
  let a4:=l0.getD i6.toNat (zi ze.sl)
  let a5:=getD a4 (toNat i1) (zi ze)
  br (Q0 (i6<i5))
  (Qc (zK i5 l0.length&&(a1&&bif a3 then zK i5 l0.length&&(a1&&(zK i6 l0.length&&zK i1 (length a4)))else Q3))
   (br (bif a3 then a2.1==a5.1&&(a2.2.1==a5.2.1&&(a2.2.2==a5.2.2&&Q3))else Q4) (re (kb Q3) []) (Q9 (Ie.h5 l0 i1 i5 (IntKind.i64.wrap (i6+1))))))
  (Q9 (Ie.h2 l0 i1 (IntKind.i64.wrap (i5+1))))
def uy(x0:Sem ze.sl.sl)(x1:Sem zg):=al [Q7] DU 100000000 (zir x0 x1)
def mQ(x0:Sem ze.sl.sl)(x1:Sem zg):=(uy x0 x1).isSome
def qP(x0:Sem ze.sl.sl)(x1:Sem zg):=o1 (uy x0 x1)
def zfC:=FT [ze.sl.sl,zg] [Q7] λx=>uy x.1 x.2.1
theorem zbz:FK 129 zfC:=kI.T1 (f:=Tryz.f129) (keep:=zi9) (e:=zlM)
def zit(x0:Sem zo)(x1:Sem ze.sl):Tr (Empty⊕aw):=
 let a0:=(x0.1,x0.2.1,x0.2.2.1,x0.2.2.2.1,x0.t.1,zn x0.t.2)
 let a1:=getD x1 (toNat x0.2.2.1) (zi ze)
 Qc (wO a0)
 (br (bif Fw a0 then Q0 (x0.2.2.1<(↑(length x1):Int))else Q4)
  (Qc (zK x0.2.2.1 (length x1)) (re (agg [ai a1.1,ai a1.2.1,str a1.2.2]) []))
  (re (agg [ai 0,ai 0,str []]) []))
def CC(x0:Sem zo)(x1:Sem ze.sl):=al [ze] t0 100000000 (zit x0 x1)
def Hf(x0:Sem zo)(x1:Sem ze.sl):=(CC x0 x1).isSome
def NX(x0:Sem zo)(x1:Sem ze.sl):=o1 (CC x0 x1)
def zfE:=FT [zo,ze.sl] [ze] λx=>CC x.1 x.2.1
theorem zbC:FK 130 zfE:=kI.T1 (f:=Tryz.f130) (keep:=k0) (e:=e0)
abbrev zja:=lx [(2,[2,3,5])]
inductive OA where
 |h2 (i5:Int) (z0:zm [CP.d zh]) (z1:zm [CP.d ze])
abbrev zlN:OA->Nat×St
 |.h2 i5 z0 z1=>(2,⟨tm 43 [(2,ptr 0 0),(3,ptr 1 0),(5,ai i5)],[Qa (bv [] [CP.d zh] z0),Qa (bv [] [CP.d ze] z1)]⟩)
def ziu(x0:Sem zh)(x1:Sem ze):Tr (OA⊕aw):=
 Q9 (OA.h2 0 (x0,()) (x1,()))
def UG:OA->Tr (OA⊕aw)
 | .h2 i5 z0 z1=>
  let a0:=(↑(length z0.1.2):Int)
  let a1:=Q0 (i5<a0)
  let a2:=(z0.1.1.1,z0.1.1.2.1,z0.1.1.2.2.1,z0.1.1.2.2.2.1,z0.1.1.t.1,zn z0.1.1.t.2)
  let a3:=zK i5 (length z0.1.2)
  let a4:=getD z0.1.2 i5.toNat (zi ze.sl)
  let a5:=(↑(length a4):Int)
  let a6:=Q0 (z0.1.1.2.2.1<a5)
  let a7:=getD a4 (toNat z0.1.1.2.2.1) (zi ze)
  Qc (bif a1 then wO a2 else Q3)
  (br (bif a1 then Fw a2 else Q4)
   (Qc (a3&&bif a6 then a3&&zK z0.1.1.2.2.1 (length a4)else Q3) (br (bif a6 then a7.1==z1.1.1&&(a7.2.1==z1.1.2.1&&(a7.2.2==z1.1.2.2&&Q3))else Q4) (re (ai i5) []) (Q9 (OA.h2 (IntKind.i64.wrap (i5+1)) z0 z1))))
   (re (ai (-1)) []))
def Ai(x0:Sem zh)(x1:Sem ze):=al [zg] UG 100000000 (ziu x0 x1)
def Hd(x0:Sem zh)(x1:Sem ze):=(Ai x0 x1).isSome
def Mc(x0:Sem zh)(x1:Sem ze):=o1 (Ai x0 x1)
def zfF:=FT [zh,ze] [zg] λx=>Ai x.1 x.2.1
theorem zbD:FK 131 zfF:=kI.T1 (f:=Tryz.f131) (keep:=zja) (e:=zlN)
def RE:=RD.addL [(128,zfB),(129,zfC),(130,zfE),(131,zfF)]
theorem sy:zy RE:=kI.addL<|fc zby<|fc zbz<|fc zbC<|fc zbD iM
abbrev ziQ:=lx [(6,[1,3]),(14,[1,5]),(19,[1,6])]
inductive DC where
 |h6 (i3:Int) (z0:zm [CP.d zh])
 |h14 (i5:Int) (z0:zm [CP.d zh])
 |h19 (i6:Int) (z0:zm [CP.d zh])
abbrev zlz:DC->Nat×St
 |.h6 i3 z0=>(6,⟨tm 82 [(1,ptr 0 0),(3,ai i3)],[Qa (bv [] [CP.d zh] z0)]⟩)
 |.h14 i5 z0=>(14,⟨tm 82 [(1,ptr 0 0),(5,ai i5)],[Qa (bv [] [CP.d zh] z0)]⟩)
 |.h19 i6 z0=>(19,⟨tm 82 [(1,ptr 0 0),(6,ai i6)],[Qa (bv [] [CP.d zh] z0)]⟩)
def Sx(x0:Sem zh):Tr (DC⊕aw):=
 let a0:=(x0.1.1,x0.1.2.1,x0.1.2.2.1,x0.1.2.2.2.1,x0.1.t.1,zn x0.1.t.2)
 Qc (wO a0)
 (br (!Fw a0) (re (ai 1) [])
  (br (Q0 ((↑(length x0.2):Int)>200)) (re (ai 13) []) (Q9 (DC.h6 0 (x0,())))))
def pK:DC->Tr (DC⊕aw)
 | .h6 i3 z0=>
  let a0:=(↑(length z0.1.2):Int)
  let a1:=(z0.1.1.1,z0.1.1.2.1,z0.1.1.2.2.1,z0.1.1.2.2.2.1,z0.1.1.t.1,zn z0.1.1.t.2)
  let a2:=getD z0.1.2 i3.toNat (zi ze.sl)
  let a3:=Mb a1 a2
  br (Q0 (i3<a0))
  (Qc (zK i3 (length z0.1.2))
   (Qc (G8 a1 a2) (br (a3 !=0) (re (ai a3) []) (Q9 (DC.h6 (IntKind.i64.wrap (i3+1)) z0)))))
  (Qc (mQ z0.1.2 z0.1.1.2.2.1)
   (br (qP z0.1.2 z0.1.1.2.2.1) (re (ai 7) []) (Q9 (DC.h14 0 z0))))
 | .h14 i5 z0=>
  let a0:=(↑(length z0.1.1.2.2.2.1):Int)
  let a1:=getD z0.1.1.2.2.2.1 i5.toNat (zi zg)
  br (Q0 (i5<a0))
  (Qc (zK i5 (length z0.1.1.2.2.2.1))
   (Qc (mQ z0.1.2 a1) (br (qP z0.1.2 a1) (re (ai 7) []) (Q9 (DC.h14 (IntKind.i64.wrap (i5+1)) z0)))))
  (Q9 (DC.h19 1 z0))
 | .h19 i6 z0=>
  let a0:=(↑(length z0.1.2):Int)
  let a1:=IntKind.i64.wrap (i6-1)
  let a2:=(z0.1.1.1,z0.1.1.2.1,z0.1.1.2.2.1,z0.1.1.2.2.2.1,z0.1.1.t.1,zn z0.1.1.t.2)
  let a3:=getD z0.1.2 a1.toNat (zi ze.sl)
  let a4:=getD z0.1.2 i6.toNat (zi ze.sl)
  let a5:=NX a2 a3
  let a6:=NX a2 a4
  let a7:=qA a5 a6
  br (Q0 (i6<a0))
  (Qc (zK a1 (length z0.1.2))
   (Qc (Hf a2 a3) (Qc (zK i6 (length z0.1.2)) (Qc (Hf a2 a4) (Qc (mK a5 a6) (br (Q0 (a7>0)) (re (ai 15) []) (Q9 (DC.h19 (IntKind.i64.wrap (i6+1)) z0))))))))
  (re (ai 0) [])
def mP(x0:Sem zh):=al [zg] pK 100000000 (Sx x0)
def CA(x0:Sem zh):=(mP x0).isSome
def Hb(x0:Sem zh):=o1 (mP x0)
def ze5:=FT [zh] [zg] λx=>mP x.1
theorem zaY:FK 76 ze5:=sy.T1 (f:=Tryz.f76) (keep:=ziQ) (e:=zlz)
abbrev ziS:=lx [(2,[0,3]),(5,[0,3,4]),(12,[0,3,4,5,6,7])]
inductive DD where
 |h2 (l0:List (Sem zh)) (i3:Int)
 |h5 (l0:List (Sem zh)) (i3:Int) (i4:Int)
 |h12 (l0:List (Sem zh)) (i3:Int) (i4:Int) (i6:Sem zg) (i7:Int) (z0:zm [CP.d zu])
abbrev zlB:DD->Nat×St
 |.h2 l0 i3=>(2,⟨tm 75 [(0,sl zh l0),(3,ai i3)],[]⟩)
 |.h5 l0 i3 i4=>(5,⟨tm 75 [(0,sl zh l0),(3,ai i3),(4,ai i4)],[]⟩)
 |.h12 l0 i3 i4 i6 i7 z0=>(12,⟨tm 75 [(0,sl zh l0),(3,ai i3),(4,ai i4),(5,ptr 0 0),(6,ai i6),(7,ai i7)],[Qa (bv [] [CP.d zu] z0)]⟩)
def zik(x0:Sem zh.sl):Tr (DD⊕aw):=
 Q9 (DD.h2 x0 0)
def ry:DD->Tr (DD⊕aw)
 | .h2 l0 i3=>
  br (Q0 (i3<(↑l0.length:Int))) (Q9 (DD.h5 l0 i3 0)) (re (kb Q3) [])
 | .h5 l0 i3 i4=>
  let a0:=l0.getD i3.toNat (zi zh)
  let a1:=(↑(length a0.1.t.1):Int)
  let a2:=getD a0.1.t.1 i4.toNat (zi zu)
  let a3:=lc l0 a2.2
  Qc (zK i3 l0.length)
  (br (Q0 (i4<a1))
   (Qc (zK i3 l0.length) (Qc (zK i4 (length a0.1.t.1)) (br (Q0 (a3<0)) (re (kb Q4) []) (Q9 (DD.h12 l0 i3 i4 a3 0 (a2,()))))))
   (Q9 (DD.h2 l0 (IntKind.i64.wrap (i3+1)))))
 | .h12 l0 i3 i4 i6 i7 z0=>
  let a0:=l0.getD i3.toNat (zi zh)
  let a1:=(↑(length a0.2):Int)
  let a2:=getD a0.2 i7.toNat (zi ze.sl)
  let a3:=getD a2 (toNat z0.1.1) (zi ze)
  let a4:=a3.1!=0
  let a5:=l0.getD (toNat i6) (zi zh)
  let a6:=((a5.1.1,a5.1.2.1,a5.1.2.2.1,a5.1.2.2.2.1,a5.1.t.1,zn a5.1.t.2),a5.2)
  let a7:=Mc a6 a3
  Qc (zK i3 l0.length)
  (br (Q0 (i7<a1))
   (Qc (zK i3 l0.length) (Qc (zK i7 (length a0.2)) (Qc (zK z0.1.1 (length a2)) (Qc (bif a4 then zK i6 l0.length&&Hd a6 a3 else Q3) (br (bif a4 then Q0 (a7<0)else Q4) (re (kb Q4) []) (Q9 (DD.h12 l0 i3 i4 i6 (IntKind.i64.wrap (i7+1)) z0)))))))
   (Q9 (DD.h5 l0 i3 (IntKind.i64.wrap (i4+1)))))
def uA(x0:Sem zh.sl):=al [Q7] ry 100000000 (zik x0)
def CD(x0:Sem zh.sl):=(uA x0).isSome
def Hg(x0:Sem zh.sl):=o1 (uA x0)
def ze7:=FT [zh.sl] [Q7] λx=>uA x.1
theorem za0:FK 77 ze7:=sy.T1 (f:=Tryz.f77) (keep:=ziS) (e:=zlB)
def RF:=RE.addL [(76,ze5),(77,ze7)]
theorem Bi:zy RF:=sy.addL<|fc zaY<|fc za0 iM
abbrev znn:=lx [(4,[0,3]),(9,[0,4])]
inductive YY where
 |h4 (l0:List (Sem zh)) (i3:Int)
 |h9 (l0:List (Sem zh)) (i4:Int)
abbrev e9p:YY->Nat×St
 |.h4 l0 i3=>(4,⟨tm 46 [(0,sl zh l0),(3,ai i3)],[]⟩)
 |.h9 l0 i4=>(9,⟨tm 46 [(0,sl zh l0),(4,ai i4)],[]⟩)
def i9p(x0:Sem zh.sl):Tr (YY⊕aw):=
 br (Q0 ((↑(length x0):Int)>12)) (re (ai 13) []) (Q9 (YY.h4 x0 1))
def UH:YY->Tr (YY⊕aw)
 | .h4 l0 i3=>
  let a0:=IntKind.i64.wrap (i3-1)
  let a1:=l0.getD a0.toNat (zi zh)
  let a2:=l0.getD i3.toNat (zi zh)
  br (Q0 (i3<(↑l0.length:Int)))
  (Qc (zK a0 l0.length)
   (Qc (zK i3 l0.length) (br (!Op.bytesLess a1.1.1 a2.1.1) (re (ai 15) []) (Q9 (YY.h4 l0 (IntKind.i64.wrap (i3+1)))))))
  (Q9 (YY.h9 l0 0))
 | .h9 l0 i4=>
  let a0:=l0.getD i4.toNat (zi zh)
  let a1:=((a0.1.1,a0.1.2.1,a0.1.2.2.1,a0.1.2.2.2.1,a0.1.t.1,zn a0.1.t.2),a0.2)
  let a2:=Hb a1
  br (Q0 (i4<(↑l0.length:Int)))
  (Qc (zK i4 l0.length) (Qc (CA a1) (br (a2 !=0) (re (ai a2) []) (Q9 (YY.h9 l0 (IntKind.i64.wrap (i4+1)))))))
  (Qc (CD l0) (br (!Hg l0) (re (ai 10) []) (re (ai 0) [])))
def pF(x0:Sem zh.sl):=al [zg] UH 100000000 (i9p x0)
def CE(x0:Sem zh.sl):=(pF x0).isSome
def Hi(x0:Sem zh.sl):=o1 (pF x0)
def F9p:=FT [zh.sl] [zg] λx=>pF x.1
theorem zhf:FK 43 F9p:=Bi.T1 (f:=Tryz.f43) (keep:=znn) (e:=e9p)
def RG:=RF.add 43 F9p
theorem np:zy RG:=Bi.add zhf
abbrev zi0:=lx [(4,[0,1,12,13])]
inductive Oz where
 |h4 (l0:List (Sem zg)) (l1:List (Sem zg)) (i12:Int) (i13:Int)
abbrev zlH:Oz->Nat×St
 |.h4 l0 l1 i12 i13=>(4,⟨tm 26 [(0,sl zg l0),(1,sl zg l1),(12,ai i12),(13,ai i13)],[]⟩)
def WU(x0:Sem zg.sl)(x1:Sem zg.sl):Tr (Oz⊕aw):=
 br ((↑(length x0):Int)!=(↑(length x1):Int)) (re (kb Q4) []) (Q9 (Oz.h4 x0 x1 (↑(length x0):Int) 0))
def zkU:Oz->Tr (Oz⊕aw)
 | .h4 l0 l1 i12 i13=>
  br (Q0 (i13<i12))
  (Qc (zK i13 l0.length)
   (Qc (zK i13 l1.length) (br (l0.getD i13.toNat (zi zg)!=l1.getD i13.toNat (zi zg)) (re (kb Q4) []) (Q9 (Oz.h4 l0 l1 i12 (IntKind.i64.wrap (i13+1)))))))
  (re (kb Q3) [])
def HD(x0:Sem zg.sl)(x1:Sem zg.sl):=al [Q7] zkU 100000000 (WU x0 x1)
def HC(x0:Sem zg.sl)(x1:Sem zg.sl):=(HD x0 x1).isSome
def oA(x0:Sem zg.sl)(x1:Sem zg.sl):=o1 (HD x0 x1)
def zft:=FT [zg.sl,zg.sl] [Q7] λx=>HD x.1 x.2.1
theorem zbn:FK 104 zft:=np.T1 (f:=Tryz.f104) (keep:=zi0) (e:=zlH)
abbrev zjn:=lx [(4,[0,1,12,13])]
inductive OF where
 |h4 (l0:List (Sem zj)) (l1:List (Sem zj)) (i12:Int) (i13:Int)
abbrev zlX:OF->Nat×St
 |.h4 l0 l1 i12 i13=>(4,⟨tm 26 [(0,sl zj l0),(1,sl zj l1),(12,ai i12),(13,ai i13)],[]⟩)
def WY(x0:Sem zj.sl)(x1:Sem zj.sl):Tr (OF⊕aw):=
 br ((↑(length x0):Int)!=(↑(length x1):Int)) (re (kb Q4) []) (Q9 (OF.h4 x0 x1 (↑(length x0):Int) 0))
def zkW:OF->Tr (OF⊕aw)
 | .h4 l0 l1 i12 i13=>
  let a0:=l0.getD i13.toNat (zi zj)
  let a1:=l1.getD i13.toNat (zi zj)
  br (Q0 (i13<i12))
  (Qc (zK i13 l0.length)
   (Qc (zK i13 l1.length) (br (!(a0.1==a1.1&&(a0.2.1==a1.2.1&&(a0.2.2==a1.2.2&&Q3)))) (re (kb Q4) []) (Q9 (OF.h4 l0 l1 i12 (IntKind.i64.wrap (i13+1)))))))
  (re (kb Q3) [])
def HA(x0:Sem zj.sl)(x1:Sem zj.sl):=al [Q7] zkW 100000000 (WY x0 x1)
def Mq(x0:Sem zj.sl)(x1:Sem zj.sl):=(HA x0 x1).isSome
def xX(x0:Sem zj.sl)(x1:Sem zj.sl):=o1 (HA x0 x1)
def zf1:=FT [zj.sl,zj.sl] [Q7] λx=>HA x.1 x.2.1
theorem zbY:FK 152 zf1:=np.T1 (f:=Tryz.f152) (keep:=zjn) (e:=zlX)
abbrev zjo:=lx [(4,[0,1,12,13])]
inductive OG where
 |h4 (l0:List (Sem zu)) (l1:List (Sem zu)) (i12:Int) (i13:Int)
abbrev zlY:OG->Nat×St
 |.h4 l0 l1 i12 i13=>(4,⟨tm 26 [(0,sl zu l0),(1,sl zu l1),(12,ai i12),(13,ai i13)],[]⟩)
def WZ(x0:Sem zu.sl)(x1:Sem zu.sl):Tr (OG⊕aw):=
 br ((↑(length x0):Int)!=(↑(length x1):Int)) (re (kb Q4) []) (Q9 (OG.h4 x0 x1 (↑(length x0):Int) 0))
def zkX:OG->Tr (OG⊕aw)
 | .h4 l0 l1 i12 i13=>
  let a0:=l0.getD i13.toNat (zi zu)
  let a1:=l1.getD i13.toNat (zi zu)
  br (Q0 (i13<i12))
  (Qc (zK i13 l0.length)
   (Qc (zK i13 l1.length) (br (!(a0.1==a1.1&&(a0.2==a1.2&&Q3))) (re (kb Q4) []) (Q9 (OG.h4 l0 l1 i12 (IntKind.i64.wrap (i13+1)))))))
  (re (kb Q3) [])
def HB(x0:Sem zu.sl)(x1:Sem zu.sl):=al [Q7] zkX 100000000 (WZ x0 x1)
def Mr(x0:Sem zu.sl)(x1:Sem zu.sl):=(HB x0 x1).isSome
def xY(x0:Sem zu.sl)(x1:Sem zu.sl):=o1 (HB x0 x1)
def zf2:=FT [zu.sl,zu.sl] [Q7] λx=>HB x.1 x.2.1
theorem zbZ:FK 153 zf2:=np.T1 (f:=Tryz.f153) (keep:=zjo) (e:=zlY)
def RJ:=RG.addL [(104,zft),(152,zf1),(153,zf2)]
theorem Bl:zy RJ:=np.addL<|fc zbn<|fc zbY<|fc zbZ iM
def ziq(x0:Sem zo)(x1:Sem zo):Tr (Empty⊕aw):=
 let a0:=x0.1==x1.1
 let a1:=x0.2.2.1==x1.2.2.1
 let a2:=xX x0.2.1 x1.2.1
 let a3:=oA x0.2.2.2.1 x1.2.2.2.1
 let a4:=xY x0.t.1 x1.t.1
 let a5:=zn x0.t.2
 let a6:=zn x1.t.2
 Qc
 (bif a0 then
  bif a1 then Mq x0.2.1 x1.2.1&&bif a2 then HC x0.2.2.2.1 x1.2.2.2.1&&bif a3 then Mr x0.t.1 x1.t.1&&bif a4 then jj 16 a5 a6 else Q3 else Q3 else Q3
  else Q3
 else Q3)
 (re (AV.bool (bif a0 then bif a1 then bif a2 then bif a3 then bif a4 then fw 16 a5 a6 else Q4 else Q4 else Q4 else Q4 else Q4)) [])
def HV(x0:Sem zo)(x1:Sem zo):=al [Q7] t0 100000000 (ziq x0 x1)
def HU(x0:Sem zo)(x1:Sem zo):=(HV x0 x1).isSome
def rX(x0:Sem zo)(x1:Sem zo):=o1 (HV x0 x1)
def zfs:=FT [zo,zo] [Q7] λx=>HV x.1 x.2.1
theorem zbm:FK 103 zfs:=Bl.T1 (f:=Tryz.f103) (keep:=k0) (e:=e0)
def RK:=RJ.add 103 zfs
theorem K4:zy RK:=Bl.add zbm
def zct:cd:={WA with own:=Q3}
theorem K6:zy zct:=⟨⟨tH.sh⟩,tH.fs,tH.mix⟩
def zcW(x0:Sem zr):Tr (Empty⊕aw):=
 let a0:=[x0.2.1]
 let a1:=[x0.2.2.1]
 br (!x0.2.2.1==[]) (Qc (Q0 (a0.length+a1.length<=1073741824)) (re (AV.vec 0) [AO.vec Q6 (a0++a1)]))
 (re (AV.vec 0) [AO.vec Q6 a0])
def lQ(x0:Sem zr):=al [Sh.str.sl] t0 100000000 (zcW x0)
def jG(x0:Sem zr):=(lQ x0).isSome
def kU(x0:Sem zr):=o1 (lQ x0)
def zaf:=FT [zr] [Sh.str.sl] λx=>lQ x.1
theorem zaK:FK 44 zaf:=K6.T1 (f:=Tryz.f44) (keep:=k0) (e:=e0)
theorem zaL:FK 44 zaf:=zaK
def RL:=RK.add 44 zaf
theorem sA:zy RL:=K4.add zaL
theorem rT(p:Sem zr):lQ p=Q1 (bH p.2.1 p.2.2.1,()):=by
 unfold bH;by_cases h:(p.2.2.1==[])=Q3
 ·rw[if_pos h];refine zJ (r:=(.vec 0,[.vec Q6 [p.2.1]])) ?_ rfl;simp only[zcW,Q8,h];rfl
 ·rw[if_neg h];have h:(p.2.2.1==[])=Q4:=by simpa using h
  refine zJ (r:=(.vec 0,[.vec Q6 ([p.2.1]++[p.2.2.1])])) ?_ rfl;simp only[zcW,Q8,h];rfl
theorem rS(p:Sem zr):jG p=Q3:=by unfold jG;rw[rT];rfl
theorem ul(p:Sem zr):kU p=bH p.2.1 p.2.2.1:=by unfold kU;rw[rT];rfl
theorem xO(x:zD):∀(l:List zD)(i:Nat),GE.ge (α:=Int) (iw x l (i:Int)) 0↔x∈l
 | [],i=>by
  rw[iw];exact⟨λh=>absurd h (by decide),λh=>by cases h⟩
 | a::r,i=>by
  rw[iw];split
  ·rename_i h;have:x=a:=by simpa using h
   subst this;exact⟨λ_=>xn,λ_=>Int.natCast_nonneg i⟩
  ·rename_i h;have:=xO x r (i+1);rw[tq]at this;rw[cu];refine⟨λh2=>.inr (this.1 h2),λh2=>this.2 (h2.resolve_left ?_)⟩;rintro rfl;simp at h
theorem kN(l:List zD)(x:zD):aD l x=Q3↔x∈l:=by
 unfold aD;rw[Ip];exact xO x l 0
theorem Ho{l:List zD}{s:zD}(hl:l.length<=1000000):xV l s=Q3/\J9 l s=aD l s:=by
 have key:N0 l s=Q1 (aD l s,()):=by
  rcases ly (t:=MA) (Φ:=λr=>r=(.kb Q3,[])) 1 (λi=>.h2 l s (i:Int)) (λi=>∀h:i<l.length,l[i]≠s) l.length (λi hi _=>by
   have hv:(MA (.h2 l s (i:Int))).val=if(l[i]==s)=Q3 then Q1 (.inr (.kb Q3,[]))else Q1 (.inl (.h2 l s ((i+1:Nat):Int))):=by
    show(MA (.h2 _ _ _)).val=_;simp only[MA,Q8,zM _ _ hi,zC hi,zt hi,if_true];rw[zp i um]
   by_cases h:l[i]=s
   ·exact .inr ⟨λk=>k hi h,_,zU.of (by rw[hv,if_pos (by simpa using h)]),rfl⟩
   ·exact .inl ⟨λ_=>h,zQ.of (by rw[hv,if_neg (by simpa using h)])⟩)with⟨h1,h2⟩|⟨h1,r,h2,rfl⟩
  ·have hn:aD l s=Q4:=by
    rw[<-gy,kN];intro hm;obtain⟨j,hj,e⟩:=fW hm;exact h1 j hj hj e
   rw[hn];refine zw (s:=.h2 l s 0) rfl (h2.ends (zU.of (r:=(.kb Q4,[])) ?_)) ow rfl;show(MA (.h2 _ _ _)).val=_;simp only[MA,Q8,zA];rfl
  ·have hn:aD l s=Q3:=by
    rw[kN];apply mq;intro hm;exact h1 λi _ hi e=>hm (e▸bd hi)
   rw[hn];exact zw (s:=.h2 l s 0) rfl h2 ow rfl
 exact⟨by unfold xV;rw[key];rfl,by unfold J9;rw[key];rfl⟩
theorem xM{α:Type}(p:α->Bool):∀(l:List α)(i:Nat),(!Q0 (zW p l i>=0))=Q3↔∀x∈l,p x=Q4
 | [],i=>by
  refine⟨λ_ x hx=>(by cases hx),λ_=>?_⟩;rw[zW];rfl
 | y::r,i=>by
  refine⟨λh=>pj p _ i h,λh=>?_⟩;rw[zW,h y sw];exact(xM p r (i+1)).2 λx hx=>h x (by simp[hx])
theorem wv{α:Type}(p:α->Bool)(l:List α):Q0 (GE.ge (α:=Int) (zW p l 0) 0)=Q3↔∃x∈l,p x=Q3:=by
 have h:=xM p l 0;constructor
 ·intro h1;apply mq;intro h2;have:=h.2 λx hx=>by
   cases hp:p x
   ·rfl
   ·exact absurd ⟨x,hx,hp⟩ h2
  rw[h1]at this;cases this
 ·rintro⟨x,hx,hp⟩;cases h1:Q0 (GE.ge (α:=Int) (zW p l 0) 0)
  ·have:=h.1 (by rw[h1];rfl) x hx;rw[hp]at this;cases this
  ·rfl
theorem GR{db:List (Sem zh)}{ns:List zD}(hl:db.length<=1000)(hr:∀x∈db,(x:Sem zh).1.t.1.length<=1000)(hn:ns.length<=1000000):nL db ns=Q1 (dO db ns,()):=by
 have hin:∀i(hi:i<db.length),(¬(!aD ns db[i].1.1&&Q0 (GE.ge (α:=Int) (zW (λf:Sem zu=>aD ns f.2) db[i].1.t.1 0) 0))=Q3/\zQ pL 1002 (.h2 db ns (i:Int)) (.h2 db ns ((i+1:Nat):Int)))\/
   ((!aD ns db[i].1.1&&Q0 (GE.ge (α:=Int) (zW (λf:Sem zu=>aD ns f.2) db[i].1.t.1 0) 0))=Q3/\zU pL 1002 (.h2 db ns (i:Int)) (.kb Q3,[])):=by
  intro i hi;have hx:=hr _ (bd hi);have g:db.getD (i:Int).toNat (zi zh)=db[i]:=zM _ _ hi;have h0:zQ pL 1 (.h2 db ns (i:Int)) (.h5 db ns (i:Int) ((0:Nat):Int)):=zQ.of (by
   show(pL (.h2 _ _ _)).val=_;simp only[pL,Q8,zC hi,if_true];rfl)
  obtain⟨c1,c2⟩:=Ho (l:=ns) (s:=db[i].1.1) hn;have hN:(pL (.h5 db ns (i:Int) (db[i].1.t.1.length:Int))).val=Q1 (.inl (.h2 db ns ((i+1:Nat):Int))):=by
   show(pL (.h5 _ _ _ _)).val=_;simp only[pL,Q8,g,zA,zt hi,if_true];rw[zp i um];rfl
  rcases ly (t:=pL) (Φ:=λr=>r=(.kb Q3,[])) 1 (λj=>.h5 db ns (i:Int) (j:Int)) (λj=>∀h:j<db[i].1.t.1.length,¬(!aD ns db[i].1.1&&aD ns (db[i].1.t.1[j]).2)=Q3) db[i].1.t.1.length (λj hj _=>by
   have gj:getD db[i].1.t.1 (j:Int).toNat (zi zu)=db[i].1.t.1[j]:=zM _ _ hj;obtain⟨d1,d2⟩:=Ho (l:=ns) (s:=(db[i].1.t.1[j]).2) hn;have hv:(pL (.h5 db ns (i:Int) (j:Int))).val=if(!aD ns db[i].1.1&&aD ns (db[i].1.t.1[j]).2)=Q3 then Q1 (.inr (.kb Q3,[]))else Q1 (.inl (.h5 db ns (i:Int) ((j+1:Nat):Int))):=by
    show(pL (.h5 _ _ _ _)).val=_;simp only[pL,Q8,g,gj,zC hj,zt hi,zt hj,c1,c2,d1,d2,if_true,dz];rw[zp j um];cases aD ns db[i].1.1<;>cases aD ns (db[i].1.t.1[j]).2<;>rfl
   by_cases h:(!aD ns db[i].1.1&&aD ns (db[i].1.t.1[j]).2)=Q3
   ·exact .inr ⟨λk=>k hj h,_,zU.of (by rw[hv,if_pos h]),rfl⟩
   ·exact .inl ⟨λ_=>h,zQ.of (by rw[hv,if_neg h])⟩)with⟨h1,h2⟩|⟨h1,r,h2,rfl⟩
  ·refine .inl ⟨?_,((h0.trans h2).trans (zQ.of hN)).mono ow⟩;intro h;simp only[aC,wv]at h;obtain⟨a1,f,hf,a2⟩:=h;obtain⟨j,hj,rfl⟩:=fW hf;exact h1 j hj hj (by rw[a1,a2];rfl)
  ·refine .inr ⟨?_,(h0.ends h2).mono ow⟩;apply mq;intro h;refine h1 λj _ hj hc=>h ?_
   simp only[aC]at hc;simp only[aC,wv];exact⟨hc.1,_,bd hj,hc.2⟩
 rcases ly (t:=pL) (Φ:=λr=>r=(.kb Q3,[])) 1002 (λi=>.h2 db ns (i:Int)) (λi=>∀h:i<db.length,¬(!aD ns db[i].1.1&&Q0 (GE.ge (α:=Int) (zW (λf:Sem zu=>aD ns f.2) db[i].1.t.1 0) 0))=Q3) db.length (λi hi _=>by
  rcases hin i hi with⟨h1,h2⟩|⟨h1,h2⟩
  ·exact .inl ⟨λ_=>h1,h2⟩
  ·exact .inr ⟨λk=>k hi h1,_,h2,rfl⟩)with⟨h1,h2⟩|⟨h1,r,h2,rfl⟩
 ·have hb:dO db ns=Q4:=by
   unfold dO;rw[List.any_eq_false];intro x hx;obtain⟨j,hj,rfl⟩:=fW hx;exact h1 j hj hj
  rw[hb];have hv:(pL (.h2 db ns (db.length:Int))).val=Q1 (.inr (.kb Q4,[])):=by
   show(pL (.h2 _ _ _)).val=_;simp only[pL,Q8,zA];rfl
  exact zw (s:=.h2 db ns 0) rfl (h2.ends (zU.of hv)) ow rfl
 ·have hb:dO db ns=Q3:=by
   unfold dO;apply mq;intro h;rw[gy,List.any_eq_false]at h;exact h1 λi _ hi=>h _ (bd hi)
  rw[hb];exact zw (s:=.h2 db ns 0) rfl h2 ow rfl
theorem JM{db:List (Sem zh)}{ns:List zD}(hl:db.length<=1000)(hr:∀x∈db,(x:Sem zh).1.t.1.length<=1000)(hn:ns.length<=1000000):sV db ns=Q3/\wJ db ns=dO db ns:=by
 have h:=GR hl hr hn;exact⟨by unfold sV;rw[h];rfl,by unfold wJ;rw[h];rfl⟩
end
end Cad
