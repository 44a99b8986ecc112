/- The document's writer: each Op. The document's tokens: the program's. The document's cutting of a text: it goes just if the program's does. -/
import Derived.Test.YtkmcdhahdadkpaaGreatDoorF15
import Derived.Test.YtkmcdhahdadkpaaGreatDoorF14
import Derived.Test.YtkmcdhahdadkpaaGreatDoorF11
import Derived.Test.YtkmcdhahdadkpaaGreatDoorF12
import Derived.Test.YtkmcdhahdadkpaaGreatDoorF13
namespace Cad
open Go Go.Proofs
open List renaming drop→Qh,take→Qg
open Tr renaming chk→Qc,«to»→Q9,val→Q8
open AO renaming box→Qa
open Sh renaming bool→Q7,str→Q6
open Bool renaming false→Q4,true→Q3
open Option renaming some→Q1
open Decidable renaming decide→Q0
open Int (toNat)
open List (getD length)
open Tr (chk br re)
open AV (nils agg tup ptr kb str sl)
noncomputable section
set_option maxHeartbeats 4000000
theorem O8{s:Sem zk}(h:nY s)(o:s.1=[99,114,101,97,116,101]):∃r,(gF s).val=Q1 (.inr r)/\rB r:=by
 obtain⟨c1,c2,c3⟩:=bf h.chk h.cchk (w:=[]) sw;obtain⟨d1,d2,d3⟩:=bf h.whr h.cwhr (w:=[87,72,69,82,69]) sw;have ht:=h.sh.table;have hr:=h.sh.role;have ho:=h.sh.other;have hk:=h.sh.key;have q0:(s.1==[99,114,101,97,116,101])=Q3:=by rw[o];rfl
 simp only[gF,Q8,zl,c1,d1,q0,if_true];obtain⟨e1,e2⟩:=K9 h;have es:qm (s.1,s.2.1,s.2.2.1,s.2.2.2.1,s.t.1,s.t.2.1,s.t.q.1,s.t.q.2.1,s.t.t.1,s.t.t.2.1,s.t.t.q.1,s.t.t.q.2.1,s.t.t.t)=Q3:=e1;rw[if_pos es];refine⟨_,rfl,tA (pb s).1 (s.1,s.2.1,[],[],s.t.1,s.t.2.1,s.t.q.1,s.t.q.2.1,s.t.t.1,[],[],dg,[]) (pb s).2 ?_ ow (eb h (.inr rfl) (.inl rfl) (.inl rfl) (.inl rfl) (.inl rfl) (.inr rfl) (.inr rfl) (.inr rfl))⟩;obtain⟨s1,s2,s3,s4,s5,s6,s7,s8,⟨f1,f2,f3,f4⟩,s10,us,⟨g1,g2,g3,g4⟩,s13⟩:=s;rfl
theorem WD{s:Sem zk}(h:nY s)(o:s.1=[100,114,111,112]):∃r,(gF s).val=Q1 (.inr r)/\rB r:=by
 obtain⟨c1,c2,c3⟩:=bf h.chk h.cchk (w:=[]) sw;obtain⟨d1,d2,d3⟩:=bf h.whr h.cwhr (w:=[87,72,69,82,69]) sw;have ht:=h.sh.table;have hr:=h.sh.role;have ho:=h.sh.other;have hk:=h.sh.key;have q0:(s.1==[99,114,101,97,116,101])=Q4:=by rw[o];rfl
 have q1:(s.1==[100,114,111,112])=Q3:=by rw[o];rfl
 simp only[gF,Q8,zl,c1,d1,q0,q1,if_true,zG,if_false];rw[if_pos (zt sg)];exact⟨_,rfl,tA _ (s.1,s.2.1,[],[],[],[],[],[],dg,[],[],dg,[]) Q3 rfl sg (eb h (.inr rfl) (.inr rfl) (.inr rfl) (.inr rfl) (.inr rfl) (.inr rfl) (.inr rfl) (.inr rfl))⟩
theorem O9{s:Sem zk}(h:nY s)(o:s.1=[100,101,108,101,116,101]):∃r,(gF s).val=Q1 (.inr r)/\rB r:=by
 obtain⟨c1,c2,c3⟩:=bf h.chk h.cchk (w:=[]) sw;obtain⟨d1,d2,d3⟩:=bf h.whr h.cwhr (w:=[87,72,69,82,69]) sw;have ht:=h.sh.table;have hr:=h.sh.role;have ho:=h.sh.other;have hk:=h.sh.key;have q0:(s.1==[99,114,101,97,116,101])=Q4:=by rw[o];rfl
 have q1:(s.1==[100,114,111,112])=Q4:=by rw[o];rfl
 have q2:(s.1==[105,110,115,101,114,116])=Q4:=by rw[o];rfl
 have q3:(s.1==[117,112,100,97,116,101])=Q4:=by rw[o];rfl
 have q4:(s.1==[100,101,108,101,116,101])=Q3:=by rw[o];rfl
 simp only[gF,Q8,zl,c1,d1,q0,q1,q2,q3,q4,if_true,zG,if_false];rw[d2,if_pos (zt sg),if_pos (zt sg)];refine⟨_,rfl,tA ([68,69,76,69,84,69,32,70,82,79,77,32]++s.2.1++oz [87,72,69,82,69] s.t.t.q.2.1) (s.1,s.2.1,[],[],[],[],[],[],dg,[],[],s.t.t.q.2.1,[]) (bM s.t.t.q.2.1) ?_ ?_ (eb h (.inr rfl) (.inr rfl) (.inr rfl) (.inr rfl) (.inr rfl) (.inr rfl) (.inr rfl) (.inl rfl))⟩;rotate_left 2
 ·obtain⟨s1,s2,s3,s4,s5,s6,s7,s8,⟨f1,f2,f3,f4⟩,s10,us,⟨g1,g2,g3,g4⟩,s13⟩:=s;rfl
 ·simp;omega
theorem Pb{s:Sem zk}(h:nY s)(o:s.1=[115,101,108,101,99,116]):∃r,(gF s).val=Q1 (.inr r)/\rB r:=by
 obtain⟨c1,c2,c3⟩:=bf h.chk h.cchk (w:=[]) sw;obtain⟨d1,d2,d3⟩:=bf h.whr h.cwhr (w:=[87,72,69,82,69]) sw;have ht:=h.sh.table;have hr:=h.sh.role;have ho:=h.sh.other;have hk:=h.sh.key;have q0:(s.1==[99,114,101,97,116,101])=Q4:=by rw[o];rfl
 have q1:(s.1==[100,114,111,112])=Q4:=by rw[o];rfl
 have q2:(s.1==[105,110,115,101,114,116])=Q4:=by rw[o];rfl
 have q3:(s.1==[117,112,100,97,116,101])=Q4:=by rw[o];rfl
 have q4:(s.1==[100,101,108,101,116,101])=Q4:=by rw[o];rfl
 have q5:(s.1==[115,101,108,101,99,116])=Q3:=by rw[o];rfl
 simp only[gF,Q8,zl,c1,d1,q0,q1,q2,q3,q4,q5,if_true,zG,if_false];rw[d2,if_pos (zt sg),if_pos (zt sg)];refine⟨_,rfl,tA ([83,69,76,69,67,84,32,42,32,70,82,79,77,32]++s.2.1++oz [87,72,69,82,69] s.t.t.q.2.1) (s.1,s.2.1,[],[],[],[],[],[],dg,[],[],s.t.t.q.2.1,[]) (bM s.t.t.q.2.1) ?_ ?_ (eb h (.inr rfl) (.inr rfl) (.inr rfl) (.inr rfl) (.inr rfl) (.inr rfl) (.inr rfl) (.inl rfl))⟩;rotate_left 2
 ·obtain⟨s1,s2,s3,s4,s5,s6,s7,s8,⟨f1,f2,f3,f4⟩,s10,us,⟨g1,g2,g3,g4⟩,s13⟩:=s;rfl
 ·simp;omega
theorem WF{s:Sem zk}(h:nY s)(o:s.1=[114,101,97,100]):∃r,(gF s).val=Q1 (.inr r)/\rB r:=by
 obtain⟨c1,c2,c3⟩:=bf h.chk h.cchk (w:=[]) sw;obtain⟨d1,d2,d3⟩:=bf h.whr h.cwhr (w:=[87,72,69,82,69]) sw;have ht:=h.sh.table;have hr:=h.sh.role;have ho:=h.sh.other;have hk:=h.sh.key;have q0:(s.1==[99,114,101,97,116,101])=Q4:=by rw[o];rfl
 have q1:(s.1==[100,114,111,112])=Q4:=by rw[o];rfl
 have q2:(s.1==[105,110,115,101,114,116])=Q4:=by rw[o];rfl
 have q3:(s.1==[117,112,100,97,116,101])=Q4:=by rw[o];rfl
 have q4:(s.1==[100,101,108,101,116,101])=Q4:=by rw[o];rfl
 have q5:(s.1==[115,101,108,101,99,116])=Q4:=by rw[o];rfl
 have q6:(s.1==[99,111,112,121])=Q4:=by rw[o];rfl
 have q7:(s.1==[106,111,105,110])=Q4:=by rw[o];rfl
 have q8:(s.1==[103,114,111,117,112])=Q4:=by rw[o];rfl
 have q9:(s.1==[114,101,97,100])=Q3:=by rw[o];rfl
 simp only[gF,Q8,zl,c1,d1,q0,q1,q2,q3,q4,q5,q6,q7,q8,q9,if_true,zG,if_false];rw[if_pos (zt sg),if_pos (zt sg),if_pos (zt sg),if_pos (bp (s:=s.t.t.t) ow)];exact⟨_,rfl,tA _ (s.1,s.2.1,[],[],[],[],[],[],dg,[],[],dg,s.t.t.t) (bl s.t.t.t) rfl sg (eb h (.inr rfl) (.inr rfl) (.inr rfl) (.inr rfl) (.inr rfl) (.inr rfl) (.inr rfl) (.inr rfl))⟩
theorem TH{s:Sem zk}(h:nY s)(o:s.1=[119,114,105,116,101]):∃r,(gF s).val=Q1 (.inr r)/\rB r:=by
 obtain⟨c1,c2,c3⟩:=bf h.chk h.cchk (w:=[]) sw;obtain⟨d1,d2,d3⟩:=bf h.whr h.cwhr (w:=[87,72,69,82,69]) sw;have ht:=h.sh.table;have hr:=h.sh.role;have ho:=h.sh.other;have hk:=h.sh.key;have q0:(s.1==[99,114,101,97,116,101])=Q4:=by rw[o];rfl
 have q1:(s.1==[100,114,111,112])=Q4:=by rw[o];rfl
 have q2:(s.1==[105,110,115,101,114,116])=Q4:=by rw[o];rfl
 have q3:(s.1==[117,112,100,97,116,101])=Q4:=by rw[o];rfl
 have q4:(s.1==[100,101,108,101,116,101])=Q4:=by rw[o];rfl
 have q5:(s.1==[115,101,108,101,99,116])=Q4:=by rw[o];rfl
 have q6:(s.1==[99,111,112,121])=Q4:=by rw[o];rfl
 have q7:(s.1==[106,111,105,110])=Q4:=by rw[o];rfl
 have q8:(s.1==[103,114,111,117,112])=Q4:=by rw[o];rfl
 have q9:(s.1==[114,101,97,100])=Q4:=by rw[o];rfl
 have q10:(s.1==[119,114,105,116,101])=Q3:=by rw[o];rfl
 simp only[gF,Q8,zl,c1,d1,q0,q1,q2,q3,q4,q5,q6,q7,q8,q9,q10,if_true,zG,if_false];rw[if_pos (zt sg),if_pos (zt sg),if_pos (zt sg),if_pos (bp (s:=s.t.t.t) ow)];exact⟨_,rfl,tA _ (s.1,s.2.1,[],[],[],[],[],[],dg,[],[],dg,s.t.t.t) (bl s.t.t.t) rfl sg (eb h (.inr rfl) (.inr rfl) (.inr rfl) (.inr rfl) (.inr rfl) (.inr rfl) (.inr rfl) (.inr rfl))⟩
theorem Pc{s:Sem zk}(h:nY s)(o:s.1=[117,110,114,101,97,100]):∃r,(gF s).val=Q1 (.inr r)/\rB r:=by
 obtain⟨c1,c2,c3⟩:=bf h.chk h.cchk (w:=[]) sw;obtain⟨d1,d2,d3⟩:=bf h.whr h.cwhr (w:=[87,72,69,82,69]) sw;have ht:=h.sh.table;have hr:=h.sh.role;have ho:=h.sh.other;have hk:=h.sh.key;have q0:(s.1==[99,114,101,97,116,101])=Q4:=by rw[o];rfl
 have q1:(s.1==[100,114,111,112])=Q4:=by rw[o];rfl
 have q2:(s.1==[105,110,115,101,114,116])=Q4:=by rw[o];rfl
 have q3:(s.1==[117,112,100,97,116,101])=Q4:=by rw[o];rfl
 have q4:(s.1==[100,101,108,101,116,101])=Q4:=by rw[o];rfl
 have q5:(s.1==[115,101,108,101,99,116])=Q4:=by rw[o];rfl
 have q6:(s.1==[99,111,112,121])=Q4:=by rw[o];rfl
 have q7:(s.1==[106,111,105,110])=Q4:=by rw[o];rfl
 have q8:(s.1==[103,114,111,117,112])=Q4:=by rw[o];rfl
 have q9:(s.1==[114,101,97,100])=Q4:=by rw[o];rfl
 have q10:(s.1==[119,114,105,116,101])=Q4:=by rw[o];rfl
 have q11:(s.1==[117,110,114,101,97,100])=Q3:=by rw[o];rfl
 simp only[gF,Q8,zl,c1,d1,q0,q1,q2,q3,q4,q5,q6,q7,q8,q9,q10,q11,if_true,zG,if_false];rw[if_pos (zt sg),if_pos (zt sg),if_pos (zt sg),if_pos (bp (s:=s.t.t.t) ow)];exact⟨_,rfl,tA _ (s.1,s.2.1,[],[],[],[],[],[],dg,[],[],dg,s.t.t.t) (bl s.t.t.t) rfl sg (eb h (.inr rfl) (.inr rfl) (.inr rfl) (.inr rfl) (.inr rfl) (.inr rfl) (.inr rfl) (.inr rfl))⟩
theorem LH{s:Sem zk}(h:nY s)(o:s.1=[117,110,119,114,105,116,101]):∃r,(gF s).val=Q1 (.inr r)/\rB r:=by
 obtain⟨c1,c2,c3⟩:=bf h.chk h.cchk (w:=[]) sw;obtain⟨d1,d2,d3⟩:=bf h.whr h.cwhr (w:=[87,72,69,82,69]) sw;have ht:=h.sh.table;have hr:=h.sh.role;have ho:=h.sh.other;have hk:=h.sh.key;have q0:(s.1==[99,114,101,97,116,101])=Q4:=by rw[o];rfl
 have q1:(s.1==[100,114,111,112])=Q4:=by rw[o];rfl
 have q2:(s.1==[105,110,115,101,114,116])=Q4:=by rw[o];rfl
 have q3:(s.1==[117,112,100,97,116,101])=Q4:=by rw[o];rfl
 have q4:(s.1==[100,101,108,101,116,101])=Q4:=by rw[o];rfl
 have q5:(s.1==[115,101,108,101,99,116])=Q4:=by rw[o];rfl
 have q6:(s.1==[99,111,112,121])=Q4:=by rw[o];rfl
 have q7:(s.1==[106,111,105,110])=Q4:=by rw[o];rfl
 have q8:(s.1==[103,114,111,117,112])=Q4:=by rw[o];rfl
 have q9:(s.1==[114,101,97,100])=Q4:=by rw[o];rfl
 have q10:(s.1==[119,114,105,116,101])=Q4:=by rw[o];rfl
 have q11:(s.1==[117,110,114,101,97,100])=Q4:=by rw[o];rfl
 have q12:(s.1==[117,110,119,114,105,116,101])=Q3:=by rw[o];rfl
 simp only[gF,Q8,zl,c1,d1,q0,q1,q2,q3,q4,q5,q6,q7,q8,q9,q10,q11,q12,if_true,zG,if_false];rw[if_pos (zt sg),if_pos (zt sg),if_pos (zt sg),if_pos (bp (s:=s.t.t.t) ow)];exact⟨_,rfl,tA _ (s.1,s.2.1,[],[],[],[],[],[],dg,[],[],dg,s.t.t.t) (bl s.t.t.t) rfl sg (eb h (.inr rfl) (.inr rfl) (.inr rfl) (.inr rfl) (.inr rfl) (.inr rfl) (.inr rfl) (.inr rfl))⟩
theorem WE{s:Sem zk}(h:nY s)(n0:s.1≠[99,114,101,97,116,101])(n1:s.1≠[100,114,111,112])(n2:s.1≠[105,110,115,101,114,116])(n3:s.1≠[117,112,100,97,116,101])(n4:s.1≠[100,101,108,101,116,101])(n5:s.1≠[115,101,108,101,99,116])(n6:s.1≠[99,111,112,121])(n7:s.1≠[106,111,105,110])(n8:s.1≠[103,114,111,117,112])(n9:s.1≠[114,101,97,100])(n10:s.1≠[119,114,105,116,101])(n11:s.1≠[117,110,114,101,97,100])(n12:s.1≠[117,110,119,114,105,116,101]):∃r,(gF s).val=Q1 (.inr r)/\rB r:=by
 obtain⟨c1,c2,c3⟩:=bf h.chk h.cchk (w:=[]) sw;obtain⟨d1,d2,d3⟩:=bf h.whr h.cwhr (w:=[87,72,69,82,69]) sw;have ht:=h.sh.table;have hr:=h.sh.role;have ho:=h.sh.other;have hk:=h.sh.key;have q0:(s.1==[99,114,101,97,116,101])=Q4:=bP.2 n0;have q1:(s.1==[100,114,111,112])=Q4:=bP.2 n1;have q2:(s.1==[105,110,115,101,114,116])=Q4:=bP.2 n2;have q3:(s.1==[117,112,100,97,116,101])=Q4:=bP.2 n3;have q4:(s.1==[100,101,108,101,116,101])=Q4:=bP.2 n4;have q5:(s.1==[115,101,108,101,99,116])=Q4:=bP.2 n5;have q6:(s.1==[99,111,112,121])=Q4:=bP.2 n6;have q7:(s.1==[106,111,105,110])=Q4:=bP.2 n7;have q8:(s.1==[103,114,111,117,112])=Q4:=bP.2 n8;have q9:(s.1==[114,101,97,100])=Q4:=bP.2 n9;have q10:(s.1==[119,114,105,116,101])=Q4:=bP.2 n10;have q11:(s.1==[117,110,114,101,97,100])=Q4:=bP.2 n11;have q12:(s.1==[117,110,119,114,105,116,101])=Q4:=bP.2 n12;simp only[gF,Q8,zl,c1,d1,q0,q1,q2,q3,q4,q5,q6,q7,q8,q9,q10,q11,q12,if_true,zG,if_false];exact⟨_,rfl,tA _ (s.1,s.2.1,[],[],[],[],[],[],dg,[],[],dg,[]) Q4 rfl sw (eb h (.inr rfl) (.inr rfl) (.inr rfl) (.inr rfl) (.inr rfl) (.inr rfl) (.inr rfl) (.inr rfl))⟩
def Lz(s:Sem zk):zA:=[77,73,71,82,65,84,69,32,67,79,80,89,32]++s.2.1++[32,70,82,79,77,32]++s.2.2.1++[32,40,32]++Lib.join s.2.2.2.1 [32,44,32]++[32,41]++oz [] s.t.t.1
def kz(s:Sem zk):Bool:=(Q0 (∀x∈s.2.2.2.1,zK x=Q3)&&(Q0 (1<=s.2.2.2.1.length)&&Q0 (s.2.2.2.1.length<=8)))&&(bM s.t.t.1&&zK s.2.2.1)
theorem Nt{s:Sem zk}(h:nY s)(o:s.1=[99,111,112,121]):∃t,du s=Q1 (t,(s.1,s.2.1,s.2.2.1,s.2.2.2.1,[],[],[],[],s.t.t.1,[],[],dg,[]),kz s,())/\t.length<=900000/\(kz s=Q3->t=Lz s):=by
 obtain⟨c1,c2,c3⟩:=bf h.chk h.cchk (w:=[]) sw;obtain⟨d1,d2,d3⟩:=bf h.whr h.cwhr (w:=[87,72,69,82,69]) sw;have ht:=h.sh.table;have hr:=h.sh.role;have ho:=h.sh.other;have hk:=h.sh.key;obtain⟨q0,q1,q2,q3,q4,q5,_,_,_,_,q6⟩:=V4 o;obtain⟨t,n1,n2,n3⟩:=Lf (l:=s.2.2.2.1) (by have:=h.sh.names.1;omega) h.sh.names.2;have n4:B2 s.2.2.2.1=Q3:=by unfold B2;rw[n1];rfl
 have n5:GA s.2.2.2.1=(t,(Q0 (∀x∈s.2.2.2.1,zK x=Q3)&&(Q0 (1<=s.2.2.2.1.length)&&Q0 (s.2.2.2.1.length<=8)))):=by unfold GA;rw[n1];rfl
 have w1:=bp (s:=s.2.2.1) ow;have w2:=eM (s:=s.2.2.1) ow;refine⟨[77,73,71,82,65,84,69,32,67,79,80,89,32]++s.2.1++[32,70,82,79,77,32]++s.2.2.1++[32,40,32]++t++[32,41]++oz [] s.t.t.1,?_,sg,?_⟩
 ·have hv:∃b,(gF s).val=Q1 (.inr (.tup [.str ([77,73,71,82,65,84,69,32,67,79,80,89,32]++s.2.1++[32,70,82,79,77,32]++s.2.2.1++[32,40,32]++t++[32,41]++oz [] s.t.t.1),.agg [.str s.1,.str s.2.1,.str s.2.2.1,.sl Q6 s.2.2.2.1,.nils,.str [],.nils,.nils,.str (ze.op s.t.t.1),.int .i64 (ze.v s.t.t.1).1,.int .i64 (ze.v s.t.t.1).2.1,.str (ze.v s.t.t.1).2.2,.str (ze.s s.t.t.1),
    .sl Sh.expr (ze.l s.t.t.1),.nils,.nils,.str [],.int .i64 0,.int .i64 0,.str [],.str [],.nils,.str []],b],[]))/\(b=.bool (kz s)\/(b=.kb Q4/\kz s=Q4)):=by
   unfold kz;simp only[gF,Q8,zl,c1,d1,q0,q1,q2,q3,q4,q5,q6,n4,n5,c2,w1,w2,if_true,zG,if_false]
   iterate 7 rw[if_pos (zt sg)]
   generalize(Q0 (∀x∈s.2.2.2.1,zK x=Q3)&&(Q0 (1<=s.2.2.2.1.length)&&Q0 (s.2.2.2.1.length<=8)))=b1;generalize bM s.t.t.1=b2;cases b1
   ·exact⟨_,rfl,.inr ⟨rfl,rfl⟩⟩
   ·cases b2
    ·exact⟨_,rfl,.inr ⟨rfl,rfl⟩⟩
    ·exact⟨_,rfl,.inl rfl⟩
  obtain⟨b,hv,hb⟩:=hv;refine zM hv ?_;clear hv;obtain⟨s1,s2,s3,s4,s5,s6,s7,s8,⟨f1,f2,f3,f4⟩,s10,us,⟨g1,g2,g3,g4⟩,s13⟩:=s;rcases hb with rfl|⟨rfl,hb⟩
  ·rfl
  ·rw[hb];rfl
 ·intro hk;have hall:∀x∈s.2.2.2.1,zK x=Q3:=by
   unfold kz at hk;simp only[aD,aN]at hk;exact hk.1.1
  rw[n3 hall];rfl
def po(s:Sem zk):zA:=[77,73,71,82,65,84,69,32,74,79,73,78,32]++s.2.1++[32,70,82,79,77,32]++s.2.2.1++[32,44,32]++s.t.t.t++[32,79,78,32]++s.t.2.1++oz [] s.t.t.1
def mX(s:Sem zk):Bool:=bM s.t.t.1&&(zK s.2.2.1&&(zK s.t.t.t&&zK s.t.2.1))
theorem Nu{s:Sem zk}(h:nY s)(o:s.1=[106,111,105,110]):du s=Q1 (po s,(s.1,s.2.1,s.2.2.1,[],[],s.t.2.1,[],[],s.t.t.1,[],[],dg,s.t.t.t),mX s,())/\(po s).length<=900000:=by
 obtain⟨c1,c2,c3⟩:=bf h.chk h.cchk (w:=[]) sw;obtain⟨d1,d2,d3⟩:=bf h.whr h.cwhr (w:=[87,72,69,82,69]) sw;have ht:=h.sh.table;have hr:=h.sh.role;have ho:=h.sh.other;have hk:=h.sh.key;obtain⟨q0,q1,q2,q3,q4,q5,_,_,_,_,q6,q7⟩:=V5 o;have w1:=bp (s:=s.2.2.1) ow;have w2:=eM (s:=s.2.2.1) ow;have w3:=bp (s:=s.t.t.t) ow;have w4:=eM (s:=s.t.t.t) ow;have w5:=bp (s:=s.t.2.1) ow;have w6:=eM (s:=s.t.2.1) ow;refine⟨?_,by unfold po;simp;omega⟩
 have hv:∃b,(gF s).val=Q1 (.inr (.tup [.str (po s),.agg [.str s.1,.str s.2.1,.str s.2.2.1,.nils,.nils,.str s.t.2.1,.nils,.nils,.str (ze.op s.t.t.1),.int .i64 (ze.v s.t.t.1).1,.int .i64 (ze.v s.t.t.1).2.1,.str (ze.v s.t.t.1).2.2,.str (ze.s s.t.t.1),
    .sl Sh.expr (ze.l s.t.t.1),.nils,.nils,.str [],.int .i64 0,.int .i64 0,.str [],.str [],.nils,.str s.t.t.t],b],[]))/\(b=.bool (mX s)\/(b=.kb Q4/\mX s=Q4)):=by
  unfold mX po;simp only[gF,Q8,zl,c1,d1,q0,q1,q2,q3,q4,q5,q6,q7,c2,w1,w2,w3,w4,w5,w6,if_true,zG,if_false]
  iterate 8 rw[if_pos (zt sg)]
  generalize bM s.t.t.1=b1;generalize zK s.2.2.1=b2;generalize zK s.t.t.t=b3;cases b1
  ·exact⟨_,rfl,.inr ⟨rfl,rfl⟩⟩
  ·cases b2
   ·exact⟨_,rfl,.inr ⟨rfl,rfl⟩⟩
   ·cases b3
    ·exact⟨_,rfl,.inr ⟨rfl,rfl⟩⟩
    ·exact⟨_,rfl,.inl rfl⟩
 obtain⟨b,hv,hb⟩:=hv;refine zM hv ?_;clear hv;generalize po s=tx;obtain⟨s1,s2,s3,s4,s5,s6,s7,s8,⟨f1,f2,f3,f4⟩,s10,us,⟨g1,g2,g3,g4⟩,s13⟩:=s;rcases hb with rfl|⟨rfl,hb⟩
 ·rfl
 ·rw[hb];rfl
def lx(s:Sem zk):zA:=[77,73,71,82,65,84,69,32,71,82,79,85,80,32]++s.2.1++[32,70,82,79,77,32]++s.2.2.1++[32,66,89,32]++s.2.2.2.1.getD 0 []++[32,83,85,77,32]++s.2.2.2.1.getD 1 []++oz [] s.t.t.1
def gr(s:Sem zk):Bool:=Q0 (s.2.2.2.1.length=2)&&(bM s.t.t.1&&(zK s.2.2.1&&(zK (s.2.2.2.1.getD 0 [])&&zK (s.2.2.2.1.getD 1 []))))
theorem JN{s:Sem zk}(h:nY s)(o:s.1=[103,114,111,117,112]):∃t,du s=Q1 (t,(s.1,s.2.1,s.2.2.1,s.2.2.2.1,[],[],[],[],s.t.t.1,[],[],dg,[]),gr s,())/\t.length<=900000/\(gr s=Q3->t=lx s):=by
 obtain⟨c1,c2,c3⟩:=bf h.chk h.cchk (w:=[]) sw;obtain⟨d1,d2,d3⟩:=bf h.whr h.cwhr (w:=[87,72,69,82,69]) sw;have ht:=h.sh.table;have hr:=h.sh.role;have ho:=h.sh.other;have hk:=h.sh.key;obtain⟨q0,q1,q2,q3,q4,q5,_,_,_,_,q6,q7,q8⟩:=SF o;have w1:=bp (s:=s.2.2.1) ow;have w2:=eM (s:=s.2.2.1) ow;by_cases hlen:s.2.2.2.1.length=2
 ·have l0:((↑(length s.2.2.2.1):Int)!=2)=Q4:=by rw[hlen];rfl
  have n0:(s.2.2.2.1.getD 0 []).length<=1000:=by
   rw[aY,zQ ow,dn];exact h.sh.names.2 _ (bC _)
  have n1:(s.2.2.2.1.getD 1 []).length<=1000:=by
   rw[aY,zQ ow,dn];exact h.sh.names.2 _ (bC _)
  have i0:zP 0 (length s.2.2.2.1)=Q3:=by rw[hlen];rfl
  have i1:zP 1 (length s.2.2.2.1)=Q3:=by rw[hlen];rfl
  have g0:getD s.2.2.2.1 (toNat 0) (zi Q6)=s.2.2.2.1.getD 0 []:=rfl;have g1:getD s.2.2.2.1 (toNat 1) (zi Q6)=s.2.2.2.1.getD 1 []:=rfl;have w3:=bp (s:=s.2.2.2.1.getD 0 []) ow;have w4:=eM (s:=s.2.2.2.1.getD 0 []) ow;have w5:=bp (s:=s.2.2.2.1.getD 1 []) ow;have w6:=eM (s:=s.2.2.2.1.getD 1 []) ow;refine⟨lx s,?_,by unfold lx;simp at n0 n1⊢;omega,λ_=>rfl⟩
  have hv:∃b,(gF s).val=Q1 (.inr (.tup [.str (lx s),.agg [.str s.1,.str s.2.1,.str s.2.2.1,.sl Q6 s.2.2.2.1,.nils,.str [],.nils,.nils,.str (ze.op s.t.t.1),.int .i64 (ze.v s.t.t.1).1,.int .i64 (ze.v s.t.t.1).2.1,.str (ze.v s.t.t.1).2.2,.str (ze.s s.t.t.1),
    .sl Sh.expr (ze.l s.t.t.1),.nils,.nils,.str [],.int .i64 0,.int .i64 0,.str [],.str [],.nils,.str []],b],[]))/\(b=.bool (gr s)\/(b=.kb Q4/\gr s=Q4)):=by
   unfold gr lx;rw[zt hlen];simp only[gF,Q8,zl,c1,d1,q0,q1,q2,q3,q4,q5,q6,q7,q8,c2,w1,w2,g0,g1,w3,w4,w5,w6,l0,i0,i1,if_true,zG,if_false];generalize s.2.2.2.1.getD 0 []=a0 at n0;generalize s.2.2.2.1.getD 1 []=a1 at n1
   iterate 8 rw[if_pos (zt sg)]
   generalize bM s.t.t.1=b1;generalize zK s.2.2.1=b2;generalize zK a0=b3;cases b1
   ·exact⟨_,rfl,.inr ⟨rfl,rfl⟩⟩
   ·cases b2
    ·exact⟨_,rfl,.inr ⟨rfl,rfl⟩⟩
    ·cases b3
     ·exact⟨_,rfl,.inr ⟨rfl,rfl⟩⟩
     ·exact⟨_,rfl,.inl rfl⟩
  obtain⟨b,hv,hb⟩:=hv;refine zM hv ?_;clear hv;generalize lx s=tx;clear n0 n1 i0 i1 g0 g1 w3 w4 w5 w6;obtain⟨s1,s2,s3,s4,s5,s6,s7,s8,⟨f1,f2,f3,f4⟩,s10,us,⟨g1,g2,g3,g4⟩,s13⟩:=s;rcases hb with rfl|⟨rfl,hb⟩
  ·rfl
  ·rw[hb];rfl
 ·have l0:((↑(length s.2.2.2.1):Int)!=2)=Q3:=by
   simp only[bne_iff_ne];omega
  have hok:gr s=Q4:=by unfold gr;rw[ah hlen];rfl
  refine⟨[],?_,sw,λhh=>by rw[hok]at hh;cases hh⟩;rw[hok]
  refine zM (r:=(.tup [.str [],.agg [.str s.1,.str s.2.1,.str s.2.2.1,.sl Q6 s.2.2.2.1,.nils,.str [],.nils,.nils,.str (ze.op s.t.t.1),.int .i64 (ze.v s.t.t.1).1,.int .i64 (ze.v s.t.t.1).2.1,.str (ze.v s.t.t.1).2.2,.str (ze.s s.t.t.1),
    .sl Sh.expr (ze.l s.t.t.1),.nils,.nils,.str [],.int .i64 0,.int .i64 0,.str [],.str [],.nils,.str []],.kb Q4],[])) ?_ ?_
  ·simp only[gF,Q8,zl,c1,d1,q0,q1,q2,q3,q4,q5,q6,q7,q8,l0,if_true,zG,if_false]
  ·obtain⟨s1,s2,s3,s4,s5,s6,s7,s8,⟨f1,f2,f3,f4⟩,s10,us,⟨g1,g2,g3,g4⟩,s13⟩:=s;rfl
theorem fH{s:Sem zk}(h:∃r,(gF s).val=Q1 (.inr r)/\rB r):NH (du s):=by
 obtain⟨r,h1,t,own,ok,h2,h3,h4⟩:=h;exact ziQ h1 h2 h3 h4
theorem CO{s:Sem zk}{st:yY}(h1:(gF s).val=Q1 (.inl st))(h2:∃r,cP lK 100000000 st=Q1 r/\rB r):NH (du s):=by
 obtain⟨r,h2,t,own,ok,h3,h4,h5⟩:=h2;refine⟨t,own,ok,?_,h4,h5⟩;unfold du al cT;rw[h1];show(cP lK 100000000 st).bind _=_;rw[h2];exact h3
theorem Pa{s:Sem zk}(h:nY s)(o:s.1=[105,110,115,101,114,116]):NH (du s):=by
 obtain⟨c1,c2,c3⟩:=bf h.chk h.cchk (w:=[]) sw;obtain⟨d1,d2,d3⟩:=bf h.whr h.cwhr (w:=[87,72,69,82,69]) sw;have ht:=h.sh.table;have hr:=h.sh.role;have ho:=h.sh.other;have hk:=h.sh.key;have q0:(s.1==[99,114,101,97,116,101])=Q4:=by rw[o];rfl
 have q1:(s.1==[100,114,111,112])=Q4:=by rw[o];rfl
 have q2:(s.1==[105,110,115,101,114,116])=Q3:=by rw[o];rfl
 refine CO ?_ (zlq h);simp only[gF,Q8,zl,c1,d1,q0,q1,q2,if_true,zG,if_false]
theorem Pd{s:Sem zk}(h:nY s)(o:s.1=[117,112,100,97,116,101]):NH (du s):=by
 obtain⟨c1,c2,c3⟩:=bf h.chk h.cchk (w:=[]) sw;obtain⟨d1,d2,d3⟩:=bf h.whr h.cwhr (w:=[87,72,69,82,69]) sw;have ht:=h.sh.table;have hr:=h.sh.role;have ho:=h.sh.other;have hk:=h.sh.key;have q0:(s.1==[99,114,101,97,116,101])=Q4:=by rw[o];rfl
 have q1:(s.1==[100,114,111,112])=Q4:=by rw[o];rfl
 have q2:(s.1==[105,110,115,101,114,116])=Q4:=by rw[o];rfl
 have q3:(s.1==[117,112,100,97,116,101])=Q3:=by rw[o];rfl
 refine CO ?_ (zlr h (oz [87,72,69,82,69] s.t.t.q.2.1) (bM s.t.t.q.2.1) d3);simp only[gF,Q8,zl,c1,d1,d2,q0,q1,q2,q3,if_true,zG,if_false]
theorem Lg{s:Sem zk}(h:nY s):NH (du s):=by
 by_cases n0:s.1=[99,114,101,97,116,101]
 ·exact fH (O8 h n0)
 by_cases n1:s.1=[100,114,111,112]
 ·exact fH (WD h n1)
 by_cases n2:s.1=[105,110,115,101,114,116]
 ·exact Pa h n2
 by_cases n3:s.1=[117,112,100,97,116,101]
 ·exact Pd h n3
 by_cases n4:s.1=[100,101,108,101,116,101]
 ·exact fH (O9 h n4)
 by_cases n5:s.1=[115,101,108,101,99,116]
 ·exact fH (Pb h n5)
 by_cases n6:s.1=[99,111,112,121]
 ·obtain⟨t,h1,h2,_⟩:=Nt h n6;exact⟨t,_,_,h1,h2,eb h (.inl rfl) (.inr rfl) (.inr rfl) (.inr rfl) (.inl rfl) (.inr rfl) (.inr rfl) (.inr rfl)⟩
 by_cases n7:s.1=[106,111,105,110]
 ·obtain⟨h1,h2⟩:=Nu h n7;exact⟨_,_,_,h1,h2,eb h (.inr rfl) (.inr rfl) (.inr rfl) (.inr rfl) (.inl rfl) (.inr rfl) (.inr rfl) (.inr rfl)⟩
 by_cases n8:s.1=[103,114,111,117,112]
 ·obtain⟨t,h1,h2,_⟩:=JN h n8;exact⟨t,_,_,h1,h2,eb h (.inl rfl) (.inr rfl) (.inr rfl) (.inr rfl) (.inl rfl) (.inr rfl) (.inr rfl) (.inr rfl)⟩
 by_cases n9:s.1=[114,101,97,100]
 ·exact fH (WF h n9)
 by_cases n10:s.1=[119,114,105,116,101]
 ·exact fH (TH h n10)
 by_cases n11:s.1=[117,110,114,101,97,100]
 ·exact fH (Pc h n11)
 by_cases n12:s.1=[117,110,119,114,105,116,101]
 ·exact fH (LH h n12)
 exact fH (WE h n0 n1 n2 n3 n4 n5 n6 n7 n8 n9 n10 n11 n12)
theorem YC(p:Int->Bool):∀s:zA,cC p s=s.length↔∀c∈s,p c.toNat=Q3
 |[]=>by simp[cC]
 | c::r=>by
  have h1:=ye p r;have h2:=YC p r;rw[cC];by_cases h:p c.toNat=Q3
  ·rw[if_pos h];simp[h,h2]
  ·rw[if_neg h];simp[h]
theorem zlh(p:Int->Bool)(s:zA):aK p p s=s.length↔∀c∈s,p c.toNat=Q3:=by
 cases s with
 |nil=>simp[aK]
 | cons c r=>
  have h1:=ye p r;have h2:=YC p r;rw[aK];by_cases h:p c.toNat=Q3
  ·rw[if_pos h];simp[h,h2]
  ·rw[if_neg h];simp[h]
theorem Wr:∀s:zA,(bif (↑(length s):Int)==1 then Q0 (0<=Lib.indexByte [40,41,44,61,60,43,45,42] (List.headD s 0))else Q4)=
  (bif s==[40]then Q3 else bif s==[41]then Q3 else bif s==[44]then Q3 else bif s==[61]then Q3 else bif s==[60]then Q3 else bif s==[43]then Q3 else bif s==[45]then Q3 else s==[42])
 |[]=>rfl
 | a::b::r=>by
  have e:((((a::b::r).length:Nat):Int)==1)=Q4:=bP.2 sg;rw[e];simp
 | [c]=>by
  by_cases h1:c=40
  ·subst h1;rfl
  by_cases h2:c=41
  ·subst h2;rfl
  by_cases h3:c=44
  ·subst h3;rfl
  by_cases h4:c=61
  ·subst h4;rfl
  by_cases h5:c=60
  ·subst h5;rfl
  by_cases h6:c=43
  ·subst h6;rfl
  by_cases h7:c=45
  ·subst h7;rfl
  by_cases h8:c=42
  ·subst h8;rfl
  simp[Lib.indexByte,h1,h2,h3,h4,h5,h6,h7,h8,Ne.symm h1,Ne.symm h2,Ne.symm h3,Ne.symm h4,Ne.symm h5,Ne.symm h6,Ne.symm h7,Ne.symm h8]
theorem Je{t:Sem bS}(hl:t.2.length<=1000000):Gx t=Q1 (bV t,()):=by
 obtain⟨k,s⟩:=t;have hl:s.length<=1000000:=hl;by_cases k1:k=(1:Int)
 ·subst k1;refine zM (r:=(.bool (dQ s),[])) ?_ ?_
  ·simp only[In,Q8,wn hl,BW hl];rfl
  ·rfl
 by_cases k2:k=(2:Int)
 ·subst k2;have hi:(In ((2,s):Sem bS)).val=Q1 (.inl (.h6 ((0:Nat):Int) ((2,s),()))):=rfl;have hf:=lN (t:=uD) (Φ:=λr=>r=(.kb Q4,[])) 1 (λi=>.h6 (i:Int) ((2,s),())) (λi=>zT (getD s i 0).toNat=Q3) s.length (by
   intro i hi _;have hv:(uD (.h6 (i:Int) ((2,s),()))).val=if(!zT (getD s i 0).toNat)=Q3 then Q1 (.inr (.kb Q4,[]))else Q1 (.inl (.h6 ((i+1:Nat):Int) ((2,s),()))):=by
    show(uD (.h6 _ _)).val=_;unfold uD;simp only[Q8,zH hi,zu hi,aJ,eD,fE,if_true];rw[zq i um]
   by_cases h:zT (getD s i 0).toNat=Q3
   ·exact .inl ⟨h,zR.of (by rw[hv,if_neg (by rw[h];simp)])⟩
   ·exact .inr ⟨h,_,zV.of (by rw[hv,if_pos (by simpa using h)]),rfl⟩)
  have hq:=aq (l:=s) (d:=0) (Q:=λc=>zT c.toNat=Q3);have hr:=zlh zT s;have ht:bV ((2,s):Sem bS)=(bif Q0 ((↑(length s):Int)>=1)then bif Q0 ((↑(length s):Int)<=19)then(↑(aK zT zT s):Int)==(↑(length s):Int)else Q4 else Q4):=rfl;rw[ht];rcases hf with⟨h1,h2⟩|⟨h1,r,h2,rfl⟩
  ·have e:((↑(aK zT zT s):Int)==(↑(length s):Int))=Q3:=by rw[hr.2 (hq.1 h1)];simp
   rw[e];refine zx hi (h2.ends (zV.of (r:=(.bool (bif Q0 (1<=(s.length:Int))then Q0 ((s.length:Int)<=19)else Q4),[])) ?_)) ow ?_
   ·show(uD (.h6 _ _)).val=_;unfold uD;simp only[Q8,zz];rfl
   ·show Q1 _=Q1 _;rw[show Q0 ((↑(length s):Int)>=1)=Q0 (1<=(s.length:Int))from rfl];cases Q0 ((s.length:Int)<=19)<;>rfl
  ·have e:((↑(aK zT zT s):Int)==(↑(length s):Int))=Q4:=by
    rw[bP];intro h;exact h1 (hq.2 (hr.1 ow))
   rw[e];refine zx hi h2 ow ?_;show Q1 _=Q1 _;cases Q0 ((↑(length s):Int)>=1)<;>cases Q0 ((↑(length s):Int)<=19)<;>rfl
 by_cases k3:k=(3:Int)
 ·subst k3;refine zM (r:=(.bool (bd (2,0,s)),[])) ?_ ?_
  ·simp only[In,Q8,kD (v:=(2,0,s)) hl,m7 (v:=(2,0,s)) hl];rfl
  ·rfl
 by_cases k4:k=(4:Int)
 ·subst k4;have hs:=Wr s;refine zM (r:=(.bool _,[])) rfl ?_;show Q1 _=Q1 _;rw[show bV ((4,s):Sem bS)=_ from hs]
 have b1:(k==1)=Q4:=bP.2 k1;have b2:(k==2)=Q4:=bP.2 k2;have b3:(k==3)=Q4:=bP.2 k3;have b4:(k==4)=Q4:=bP.2 k4;have c1:((1:Int)==k)=Q4:=bP.2 (Ne.symm k1);have c2:((2:Int)==k)=Q4:=bP.2 (Ne.symm k2);have ht:bV ((k,s):Sem bS)=Q4:=by
  unfold bV;simp[b3,b4,c1,c2]
 rw[ht];refine zM (r:=(.kb Q4,[])) ?_ rfl;simp only[In,Q8,b1,b2,b3,b4];rfl
theorem uc{t:Sem bS}(hl:t.2.length<=1000000):im t=Q3:=by unfold im;rw[Je hl];rfl
theorem yz{t:Sem bS}(hl:t.2.length<=1000000):ls t=bV t:=by unfold ls;rw[Je hl];rfl
abbrev rC:=Option (List (Sem zr))
abbrev oL(o:rC):List (Sem zr):=o.getD []
abbrev Vv(s:zA)(i:Int):rC->dZ
 |none=>.h3 s i
 |some l=>.h3b s i l
abbrev QX(s:zA)(i c f:Int)(z:zn [CP.d zr]):rC->dZ
 |none=>.h11 s i c f z
 |some l=>.h11b s i c f z l
abbrev QY(s:zA)(i c f:Int)(z:zn [CP.d zr]):rC->dZ
 |none=>.h15 s i c f z
 |some l=>.h15b s i c f z l
abbrev Kx(s:zA)(i:Int)(z:zn [CP.d zr]):rC->dZ
 |none=>.h20 s i z
 |some l=>.h20b s i z l
abbrev rNo:aw:=(.tup [.nils,.kb Q4],[])
def Py(r:aw)(b:Bool):Prop:=∃l,aL r.2 [Sh.sl zr,Q7] r.1=Q1 (l,b,())
theorem Ta:Py rNo Q4:=⟨[],rfl⟩
def J1(s:zA)(j:Nat)(t:Sem bS)(o:rC):dZ⊕aw:=if bV t=Q3 then .inl (Vv s (j:Int) (Q1 (oL o++[t])))else .inr rNo
theorem js(s:zA){j:Nat}(h:j<s.length):Qg (((j+1:Nat):Int).toNat-(j:Int).toNat) (Qh (j:Int).toNat s)=[s[j]]:=by
 rw[aJ,aJ,show j+1-j=1 by omega,fj h];rfl
theorem v20{s:zA}{j:Nat}{acc:zA}(hl:s.length<=1000000)(hj:j<s.length)(ha:acc.length<=1000000):∀{o:rC},(oL o).length<=1000000->(cH (Kx s (j:Int) ((3,acc),()) o)).val=Q1 (
  if s[j]≠39 then .inl (Kx s ((j+1:Nat):Int) ((3,acc++[s[j]]),()) o)
  else if s[j+1]?=Q1 39 then .inl (Kx s ((j+2:Nat):Int) ((3,acc++[39]),()) o)
  else J1 s (j+1) (3,acc) o):=by
 intro o ho;have w1:IntKind.i64.wrap ((j:Int)+1)=((j+1:Nat):Int):=zq j um;have w2:IntKind.i64.wrap (((j+1:Nat):Int)+1)=((j+2:Nat):Int):=zq (j+1) um;have g1:(Q0 (0<=(j:Int))&&Q0 ((j:Int)<=((j+1:Nat):Int))&&Q0 (((j+1:Nat):Int)<=(↑(length s):Int)))=Q3:=by simp;omega
 have g2:Q0 ((↑(length s):Int)<=(j:Int))=Q4:=ah ow;have g3:Q0 ((j:Int)>=(↑(length s):Int))=Q4:=ah ow;have hM:ls ((3,acc):Sem zr)=bV ((3,acc):Sem bS):=yz (t:=((3,acc):Sem bS)) ha;have hMC:im ((3,acc):Sem zr)=Q3:=uc (t:=((3,acc):Sem bS)) ha;have hS:(acc.length+[s[j]].length<=1099511627776):=by simp;omega
 by_cases c1:s[j]=39
 ·have b1:((↑s[j].toNat:Int)!=39)=Q4:=by simp[bne,qO.2 c1]
  have b2:((↑s[j].toNat:Int)==39)=Q3:=qO.2 c1;by_cases c2:s[j+1]?=Q1 39
  ·obtain⟨hj1,c3⟩:=cV.1 c2;have b3:((↑s[j+1].toNat:Int)==39)=Q3:=qO.2 c3;have d1:Q0 (((j+1:Nat):Int)<(↑(length s):Int))=Q3:=zt ow;rw[if_neg (by simpa using c1),if_pos c2];cases o with
   | none=>
    show(cH (.h20 _ _ _)).val=_;simp only[cH,w1,w2,bU s hj,js s hj,zH hj,zu hj,zu hj1,d1,b1,b2,b3,bU s hj1,Q8,ag,ay,dF,if_true,g1,zt hS];rw[c1]
   | some l=>
    show(cH (.h20b _ _ _ _)).val=_;simp only[cH,w1,w2,bU s hj,js s hj,zH hj,zu hj,zu hj1,d1,b1,b2,b3,bU s hj1,Q8,ag,ay,dF,if_true,g1,zt hS];rw[c1]
  ·rw[if_neg (by simpa using c1),if_neg c2];have e:(bif Q0 (((j+1:Nat):Int)<(↑(length s):Int))then(↑(getD s ((j+1:Nat):Int).toNat 0).toNat:Int)==39 else Q4)=Q4:=by
    by_cases hj1:j+1<s.length
    ·rw[zt ow,bU s hj1];simp only[ag];rw[<-gJ,qO];intro h;exact c2 (cV.2 ⟨hj1,h⟩)
    ·rw[ah ow];rfl
   have e2:(bif Q0 (((j+1:Nat):Int)<(↑(length s):Int))then zP ((j+1:Nat):Int) (length s)else Q3)=Q3:=by
    by_cases hj1:j+1<s.length
    ·rw[zu hj1];cases Q0 (((j+1:Nat):Int)<(↑(length s):Int))<;>rfl
    ·rw[ah ow];rfl
   unfold J1;cases o with
   | none=>
    show(cH (.h20 _ _ _)).val=_;simp only[cH,w1,w2,bU s hj,js s hj,zH hj,zu hj,b1,b2,e,e2,Q8,ag,ay,dF,if_true,zG,if_false,g3,hMC,hM];by_cases m:bV ((3,acc):Sem bS)=Q3
    ·simp[m]
    ·simp[m]
   | some l=>
    have hl2:(l.length+[((3,acc):Sem zr)].length<=1073741824):=by have:l.length<=1000000:=ho;simp;omega
    show(cH (.h20b _ _ _ _)).val=_;simp only[cH,w1,w2,bU s hj,js s hj,zH hj,zu hj,b1,b2,e,e2,Q8,ag,ay,dF,if_true,zG,if_false,g3,hMC,hM,zt hl2];by_cases m:bV ((3,acc):Sem bS)=Q3
    ·simp[m]
    ·simp[m]
 ·have b1:((↑s[j].toNat:Int)!=39)=Q3:=by simp only[bne,wK];rw[<-gJ,qO];exact c1
  have b2:((↑s[j].toNat:Int)==39)=Q4:=by rw[<-gJ,qO];exact c1
  rw[if_pos c1];cases o with
  | none=>
   show(cH (.h20 _ _ _)).val=_;simp only[cH,w1,w2,bU s hj,js s hj,zH hj,zu hj,b1,b2,Q8,ag,dF,if_true,zG,if_false,g1,zt hS]
  | some l=>
   show(cH (.h20b _ _ _ _)).val=_;simp only[cH,w1,w2,bU s hj,js s hj,zH hj,zu hj,b1,b2,Q8,ag,dF,if_true,zG,if_false,g1,zt hS]
theorem zlp{s:zA}{acc:zA}:∀{o:rC},(cH (Kx s (s.length:Int) ((3,acc),()) o)).val=Q1 (.inr rNo):=by
 intro o;have g3:Q0 ((↑(length s):Int)>=(↑(length s):Int))=Q3:=zt (Int.le_refl _);cases o with
 | none=>
  show(cH (.h20 _ _ _)).val=_;simp only[cH,zz,Q8,ay,if_true,zG,if_false,g3]
 | some l=>
  show(cH (.h20b _ _ _ _)).val=_;simp only[cH,zz,Q8,ay,if_true,zG,if_false,g3]
theorem l20{s:zA}{o:rC}(hl:s.length<=1000000)(ho:(oL o).length<=1000000):∀(n j:Nat)(acc:zA),s.length-j<=n->j<=s.length->acc.length<=j->
  (eO (s.drop j)=none->zV cH (n+1) (Kx s (j:Int) ((3,acc),()) o) rNo)/\
  (∀t k,eO (s.drop j)=Q1 (t,k)->∀K r,(match J1 s (j+k) (3,acc++t) o with|.inl h=>zV cH K h r|.inr r'=>r'=r)->zV cH (K+k) (Kx s (j:Int) ((3,acc),()) o) r)
 | n, j,acc,hn,hj,ha=>by
  by_cases hlt:j<s.length
  ·have hv:=v20 (o:=o) (acc:=acc) hl hlt ow ho;rw[fj hlt];by_cases c1:s[j]=39
   ·rw[if_neg (by simpa using c1)]at hv;by_cases c2:s[j+1]?=Q1 39
    ·rw[if_pos c2]at hv;obtain⟨hj1,c3⟩:=cV.1 c2;obtain⟨n,rfl⟩:∃m,n=m+1:=⟨n-1,ow⟩;obtain⟨i1,i2⟩:=l20 hl ho n (j+2) (acc++[39]) ow ow sg;rw[fj hj1,c1,c3,Jw,show j+1+1=j+2 from rfl];refine⟨λh=>?_,λt k h K r hr=>?_⟩
     ·rw[Option.map_eq_none_iff]at h;exact((zR.of hv).ends (i1 h))
     ·rw[ea]at h;obtain⟨⟨t',k'⟩,h1,h2⟩:=h;simp only[cm]at h2;obtain⟨rfl,rfl⟩:=h2;have:=i2 t' k' h1 K r (by rw[Ae];rw[show j+2+k'=j+(k'+2) by omega];exact hr);exact((zR.of hv).ends this).mono ow
    ·rw[if_neg c2]at hv;rw[c1,Cm _ (by rw[List.head?_drop];exact c2)];refine⟨λh=>(by cases h),λt k h K r hr=>?_⟩;simp only[bw,cm]at h;obtain⟨rfl,rfl⟩:=h;rw[wN]at hr;revert hv hr;cases J1 s (j+1) (3,acc) o with
     |inl h=>intro hv hr;exact(zR.of hv).ends hr
     |inr r'=>intro hv hr;cases hr;exact(zV.of hv).mono ow
   ·rw[if_pos c1]at hv;obtain⟨n,rfl⟩:∃m,n=m+1:=⟨n-1,ow⟩;obtain⟨i1,i2⟩:=l20 hl ho n (j+1) (acc++[s[j]]) ow ow sg;rw[EY c1];refine⟨λh=>?_,λt k h K r hr=>?_⟩
    ·rw[Option.map_eq_none_iff]at h;exact((zR.of hv).ends (i1 h))
    ·rw[ea]at h;obtain⟨⟨t',k'⟩,h1,h2⟩:=h;simp only[cm]at h2;obtain⟨rfl,rfl⟩:=h2;have:=i2 t' k' h1 K r (by rw[Ae];rw[show j+1+k'=j+(k'+1) by omega];exact hr);exact((zR.of hv).ends this).mono ow
  ·obtain rfl:j=s.length:=by omega
   rw[jg];exact⟨λ_=>(zV.of zlp).mono ow,λt k h=>(by simp[eO]at h)⟩
theorem zlm{s:zA}{j:Nat}{c f:Int}{z:zn [CP.d zr]}(hl:s.length<=1000000)(hj:j<s.length)(hp:bn s[j].toNat=Q3):∀{o:rC},(cH (QX s (j:Int) c f z o)).val=Q1 (.inl (QX s ((j+1:Nat):Int) c f z o)):=by
 intro o;have w1:IntKind.i64.wrap ((j:Int)+1)=((j+1:Nat):Int):=zq j um;cases o with
 | none=>
  show(cH (.h11 _ _ _ _ _)).val=_;simp only[cH,bU s hj,zH hj,zu hj,qt,ug,hp,w1,Q8,ag,qV,if_true]
 | some l=>
  show(cH (.h11b _ _ _ _ _ _)).val=_;simp only[cH,bU s hj,zH hj,zu hj,qt,ug,hp,w1,Q8,ag,qV,if_true]
theorem zll{s:zA}{j f:Nat}{c:UInt8}{z:zn [CP.d zr]}(hl:s.length<=1000000)(hj:j<=s.length)(hf:f<=j)(hp:∀h:j<s.length,bn s[j].toNat=Q4)(h1:zT c.toNat=Q4)(h2:c≠39):
  ∀{o:rC},(oL o).length<=1000000->(cH (QX s (j:Int) (c.toNat:Int) (f:Int) z o)).val=Q1 (J1 s j (1,Qg (j-f) (Qh f s)) o):=by
 intro o ho;have e1:(bif Q0 ((j:Int)<(↑(length s):Int))then zP (j:Int) (length s)&&qr (↑(getD s (j:Int).toNat 0).toNat:Int)else Q3)=Q3:=by
  by_cases h:j<s.length
  ·rw[zu h,qt];cases Q0 ((j:Int)<(↑(length s):Int))<;>rfl
  ·rw[ah ow];rfl
 have e2:(bif Q0 ((j:Int)<(↑(length s):Int))then wo (↑(getD s (j:Int).toNat 0).toNat:Int)else Q4)=Q4:=by
  by_cases h:j<s.length
  ·rw[bU s h,ug,hp h];cases Q0 ((j:Int)<(↑(length s):Int))<;>rfl
  ·rw[ah ow];rfl
 have g1:(Q0 (0<=(f:Int))&&Q0 ((f:Int)<=(j:Int))&&Q0 ((j:Int)<=(↑(length s):Int)))=Q3:=by simp;omega
 have b2:((c.toNat:Int)==39)=Q4:=by rw[<-gJ,qO];exact h2
 have hlen:(Qg (j-f) (Qh f s)).length<=1000000:=by simp;omega
 have hM:ls ((1,Qg (j-f) (Qh f s)):Sem zr)=bV (1,Qg (j-f) (Qh f s)):=yz (t:=((1,Qg (j-f) (Qh f s)):Sem bS)) hlen;have hMC:im ((1,Qg (j-f) (Qh f s)):Sem zr)=Q3:=uc (t:=((1,Qg (j-f) (Qh f s)):Sem bS)) hlen;unfold J1;cases o with
 | none=>
  show(cH (.h11 _ _ _ _ _)).val=_;simp only[cH,e1,e2,g1,eD,fE,h1,b2,Q8,if_true,zG,if_false];simp only[aJ,hMC,hM,if_true];generalize Qg (j-f) (Qh f s)=T;by_cases m:bV (1,T)=Q3
  ·simp[m]
  ·simp[m]
 | some l=>
  have hl2:(l.length+[((1,Qg (j-f) (Qh f s)):Sem zr)].length<=1073741824):=by have:l.length<=1000000:=ho;simp;omega
  show(cH (.h11b _ _ _ _ _ _)).val=_;simp only[cH,e1,e2,g1,eD,fE,h1,b2,Q8,if_true,zG,if_false];simp only[aJ,hMC,hM,zt hl2,if_true];generalize Qg (j-f) (Qh f s)=T;by_cases m:bV (1,T)=Q3
  ·simp[m]
  ·simp[m]
theorem zlo{s:zA}{j:Nat}{c f:Int}{z:zn [CP.d zr]}(hl:s.length<=1000000)(hj:j<s.length)(hp:zT s[j].toNat=Q3):∀{o:rC},(cH (QY s (j:Int) c f z o)).val=Q1 (.inl (QY s ((j+1:Nat):Int) c f z o)):=by
 intro o;have w1:IntKind.i64.wrap ((j:Int)+1)=((j+1:Nat):Int):=zq j um;cases o with
 | none=>
  show(cH (.h15 _ _ _ _ _)).val=_;simp only[cH,bU s hj,zH hj,zu hj,eD,fE,hp,w1,Q8,ag,qV,if_true]
 | some l=>
  show(cH (.h15b _ _ _ _ _ _)).val=_;simp only[cH,bU s hj,zH hj,zu hj,eD,fE,hp,w1,Q8,ag,qV,if_true]
theorem zln{s:zA}{j f:Nat}{c:UInt8}{z:zn [CP.d zr]}(hl:s.length<=1000000)(hj:j<=s.length)(hf:f<=j)(hp:∀h:j<s.length,zT s[j].toNat=Q4)(h2:c≠39):
  ∀{o:rC},(oL o).length<=1000000->(cH (QY s (j:Int) (c.toNat:Int) (f:Int) z o)).val=Q1 (J1 s j (2,Qg (j-f) (Qh f s)) o):=by
 intro o ho;have e1:(bif Q0 ((j:Int)<(↑(length s):Int))then zP (j:Int) (length s)&&fu (↑(getD s (j:Int).toNat 0).toNat:Int)else Q3)=Q3:=by
  by_cases h:j<s.length
  ·rw[zu h,eD];cases Q0 ((j:Int)<(↑(length s):Int))<;>rfl
  ·rw[ah ow];rfl
 have e2:(bif Q0 ((j:Int)<(↑(length s):Int))then gy (↑(getD s (j:Int).toNat 0).toNat:Int)else Q4)=Q4:=by
  by_cases h:j<s.length
  ·rw[bU s h,fE,hp h];cases Q0 ((j:Int)<(↑(length s):Int))<;>rfl
  ·rw[ah ow];rfl
 have g1:(Q0 (0<=(f:Int))&&Q0 ((f:Int)<=(j:Int))&&Q0 ((j:Int)<=(↑(length s):Int)))=Q3:=by simp;omega
 have b2:((c.toNat:Int)==39)=Q4:=by rw[<-gJ,qO];exact h2
 have hlen:(Qg (j-f) (Qh f s)).length<=1000000:=by simp;omega
 have hM:ls ((2,Qg (j-f) (Qh f s)):Sem zr)=bV (2,Qg (j-f) (Qh f s)):=yz (t:=((2,Qg (j-f) (Qh f s)):Sem bS)) hlen;have hMC:im ((2,Qg (j-f) (Qh f s)):Sem zr)=Q3:=uc (t:=((2,Qg (j-f) (Qh f s)):Sem bS)) hlen;unfold J1;cases o with
 | none=>
  show(cH (.h15 _ _ _ _ _)).val=_;simp only[cH,e1,e2,g1,b2,Q8,if_true,zG,if_false];simp only[aJ,hMC,hM,if_true];generalize Qg (j-f) (Qh f s)=T;by_cases m:bV (2,T)=Q3
  ·simp[m]
  ·simp[m]
 | some l=>
  have hl2:(l.length+[((2,Qg (j-f) (Qh f s)):Sem zr)].length<=1073741824):=by have:l.length<=1000000:=ho;simp;omega
  show(cH (.h15b _ _ _ _ _ _)).val=_;simp only[cH,e1,e2,g1,b2,Q8,if_true,zG,if_false];simp only[aJ,hMC,hM,zt hl2,if_true];generalize Qg (j-f) (Qh f s)=T;by_cases m:bV (2,T)=Q3
  ·simp[m]
  ·simp[m]
theorem FO{p:Int->Bool}{s:zA}(st:Nat->dZ)(hs:∀j(hj:j<s.length),p s[j].toNat=Q3->(cH (st j)).val=Q1 (.inl (st (j+1)))):∀(n j:Nat),s.length-j<=n->j<=s.length->
  zR cH (cC p (s.drop j)) (st j) (st (j+cC p (s.drop j)))/\j+cC p (s.drop j)<=s.length/\∀h:j+cC p (s.drop j)<s.length,p s[j+cC p (s.drop j)].toNat=Q4
 | n,j,hn,hj=>by
  by_cases hlt:j<s.length
  ·by_cases hp:p s[j].toNat=Q3
   ·obtain⟨n,rfl⟩:∃m,n=m+1:=⟨n-1,ow⟩;have e:cC p (s.drop j)=cC p (s.drop (j+1))+1:=by rw[fj hlt,cC,if_pos hp]
    obtain⟨i1,i2,i3⟩:=FO st hs n (j+1) ow ow;have e2:j+cC p (s.drop j)=j+1+cC p (s.drop (j+1)):=by omega
    refine⟨?_,ow,?_⟩
    ·rw[e2,e];exact((zR.of (hs j hlt hp)).trans i1).mono ow
    ·intro h;simp only[e2]at h⊢;exact i3 h
   ·have e:cC p (s.drop j)=0:=by rw[fj hlt,cC,if_neg hp]
    rw[e];exact⟨zR.refl _,ow,λ_=>by simpa using hp⟩
  ·have e:cC p (s.drop j)=0:=by rw[Aa ow];rfl
   rw[e];exact⟨zR.refl _,ow,λh=>absurd h ow⟩
theorem v3{s:zA}{i:Nat}(hl:s.length<=1000000)(hi:i<s.length):∀{o:rC},(oL o).length<=1000000->∃z,(cH (Vv s (i:Int) o)).val=Q1 (
  if(bif (s[i].toNat:Int)==32 then Q3 else(s[i].toNat:Int)==10)=Q3 then .inl (Vv s ((i+1:Nat):Int) o)
  else if aH s[i].toNat=Q3 then .inl (QX s ((i+1:Nat):Int) s[i].toNat i z o)
  else if zT s[i].toNat=Q3 then .inl (QY s ((i+1:Nat):Int) s[i].toNat i z o)
  else if s[i]=39 then .inl (Kx s ((i+1:Nat):Int) ((3,[]),()) o)
  else J1 s (i+1) (4,[s[i]]) o):=by
 intro o ho;refine⟨((4,[s[i]]),()),?_⟩;have w1:IntKind.i64.wrap ((i:Int)+1)=((i+1:Nat):Int):=zq i um;have g1:(Q0 (0<=(i:Int))&&Q0 ((i:Int)<=((i+1:Nat):Int))&&Q0 (((i+1:Nat):Int)<=(↑(length s):Int)))=Q3:=by simp;omega
 have hM:ls ((4,[s[i]]):Sem zr)=bV (4,[s[i]]):=yz (t:=((4,[s[i]]):Sem bS)) sw;have hMC:im ((4,[s[i]]):Sem zr)=Q3:=uc (t:=((4,[s[i]]):Sem bS)) sw;have h39:s[i]=39↔((s[i].toNat:Int)==39)=Q3:=qO.symm;unfold J1;simp only[h39];cases o with
 | none=>
  show(cH (.h3 _ _)).val=_;simp only[cH,w1,bU s hi,js s hi,zH hi,zu hi,g1,lu,ni,eD,fE,Q8,if_true,hMC,hM];repeat' split
  all_goals first|rfl|simp_all
 | some l=>
  have hl2:(l.length+[((4,[s[i]]):Sem zr)].length<=1073741824):=by have:l.length<=1000000:=ho;simp;omega
  show(cH (.h3b _ _ _)).val=_;simp only[cH,w1,bU s hi,js s hi,zH hi,zu hi,g1,lu,ni,eD,fE,Q8,if_true,hMC,hM,zt hl2];repeat' split
  all_goals first|rfl|simp_all
theorem Ot{c:UInt8}(h:aH c.toNat=Q3):zT c.toNat=Q4/\c≠39:=by
 have h39:aH ((39:UInt8).toNat:Int)=Q4:=rfl;constructor
 ·have h65:(65:Int)<=(c.toNat:Int):=by
   by_cases k:(65:Int)<=(c.toNat:Int)
   ·exact k
   ·exfalso;have k1:Q0 ((c.toNat:Int)>=97)=Q4:=ah ow;have k2:Q0 ((c.toNat:Int)>=65)=Q4:=ah ow;unfold aH at h;rw[k1,k2]at h;cases h
  have k3:Q0 ((c.toNat:Int)<=57)=Q4:=ah ow;unfold zT;rw[k3];cases Q0 ((c.toNat:Int)>=48)<;>rfl
 ·rintro rfl;rw[h39]at h;cases h
theorem P1{c:UInt8}(h:zT c.toNat=Q3):c≠39:=by
 have h39:zT ((39:UInt8).toNat:Int)=Q4:=rfl;rintro rfl;rw[h39]at h;cases h
theorem BV{s:zA}(hl:s.length<=1000000):∀(n i:Nat)(o:rC),s.length+1<=n+i->i<=s.length->(oL o).length<=i->∃r,zV cH (3*(s.length-i)+3) (Vv s (i:Int) o) r/\Py r (uZ n (s.drop i) (oL o).length)
 |0,i,o,h1,h2,h3=>by omega
 | n + 1,i,o,h1,h2,h3=>by
  by_cases hi:i<s.length
  ·obtain⟨z,hv⟩:=v3 (o:=o) hl hi ow;rw[fj hi,uZ];have hdrop:Qh i s=s[i]::Qh (i+1) s:=fj hi;have next:∀(j:Nat)(t:Sem bS),i<j->j<=s.length->∃r,(match J1 s j t o with|.inl h=>zV cH (3*(s.length-j)+3) h r|.inr r'=>r'=r)/\Py r (if bV t=Q3 then uZ n (s.drop j) ((oL o).length+1)else Q4):=by
    intro j t hj1 hj2;unfold J1;by_cases m:bV t=Q3
    ·rw[if_pos m,if_pos m];obtain⟨r,a1,a2⟩:=BV hl n j (Q1 (oL o++[t])) ow hj2 sg;refine⟨r,a1,?_⟩;have:(oL (Q1 (oL o++[t]))).length=(oL o).length+1:=by simp
     rw[this]at a2;exact a2
    ·rw[if_neg m,if_neg m];exact⟨rNo,rfl,Ta⟩
   by_cases c0:(bif (s[i].toNat:Int)==32 then Q3 else(s[i].toNat:Int)==10)=Q3
   ·rw[if_pos c0]at hv⊢;obtain⟨r,a1,a2⟩:=BV hl n (i+1) o ow ow ow;exact⟨r,((zR.of hv).ends a1).mono ow,a2⟩
   ·rw[if_neg c0]at hv⊢;unfold oI;by_cases c1:aH s[i].toNat=Q3
    ·rw[if_pos c1]at hv⊢;obtain⟨b1,b2⟩:=Ot c1;obtain⟨p1,p2,p3⟩:=FO (p:=bn) (s:=s) (λj=>QX s (j:Int) (s[i].toNat:Int) (i:Int) z o) (λj hj hp=>zlm hl hj hp) s.length (i+1) ow ow;have hx:=zll (z:=z) (c:=s[i]) (f:=i) hl p2 ow p3 b1 b2 (o:=o) ow;rw[show i+1+cC bn (Qh (i+1) s)-i=cC bn (Qh (i+1) s)+1 by omega,hdrop]at hx;obtain⟨r,a1,a2⟩:=next (i+1+cC bn (Qh (i+1) s)) (1,(s[i]::Qh (i+1) s).take (cC bn (Qh (i+1) s)+1)) ow p2
     refine⟨r,?_,?_⟩
     ·revert hx a1;cases J1 s (i+1+cC bn (Qh (i+1) s)) (1,(s[i]::Qh (i+1) s).take (cC bn (Qh (i+1) s)+1)) o with
      |inl h=>intro hx a1;exact(((zR.of hv).trans p1).ends ((zR.of hx).ends a1)).mono ow
      |inr r'=>intro hx a1;cases a1;exact(((zR.of hv).trans p1).ends (zV.of hx)).mono ow
     ·rw[<-hdrop,Dz];rw[show i+(cC bn (Qh (i+1) s)+1)=i+1+cC bn (Qh (i+1) s) by omega];rw[hdrop];exact a2
    ·rw[if_neg c1]at hv⊢;by_cases c2:zT s[i].toNat=Q3
     ·rw[if_pos c2]at hv⊢;have b2:=P1 c2;obtain⟨p1,p2,p3⟩:=FO (p:=zT) (s:=s) (λj=>QY s (j:Int) (s[i].toNat:Int) (i:Int) z o) (λj hj hp=>zlo hl hj hp) s.length (i+1) ow ow;have hx:=zln (z:=z) (c:=s[i]) (f:=i) hl p2 ow p3 b2 (o:=o) ow;rw[show i+1+cC zT (Qh (i+1) s)-i=cC zT (Qh (i+1) s)+1 by omega,hdrop]at hx;obtain⟨r,a1,a2⟩:=next (i+1+cC zT (Qh (i+1) s)) (2,(s[i]::Qh (i+1) s).take (cC zT (Qh (i+1) s)+1)) ow p2
      refine⟨r,?_,?_⟩
      ·revert hx a1;cases J1 s (i+1+cC zT (Qh (i+1) s)) (2,(s[i]::Qh (i+1) s).take (cC zT (Qh (i+1) s)+1)) o with
       |inl h=>intro hx a1;exact(((zR.of hv).trans p1).ends ((zR.of hx).ends a1)).mono ow
       |inr r'=>intro hx a1;cases a1;exact(((zR.of hv).trans p1).ends (zV.of hx)).mono ow
      ·rw[<-hdrop,Dz];rw[show i+(cC zT (Qh (i+1) s)+1)=i+1+cC zT (Qh (i+1) s) by omega];rw[hdrop];exact a2
     ·rw[if_neg c2]at hv⊢;by_cases c3:s[i]=39
      ·rw[if_pos c3]at hv⊢;obtain⟨q1,q2⟩:=l20 (o:=o) hl ow (s.length-(i+1)) (i+1) [] (aB _) ow sw;cases hs:eO (Qh (i+1) s)with
       | none=>
        have hm:bV ((0,[]):Sem bS)=Q4:=rfl;simp only[hm,zG,if_false];exact⟨rNo,((zR.of hv).ends (q1 hs)).mono ow,Ta⟩
       | some x=>
        obtain⟨t,k⟩:=x;obtain⟨k1,k2,_⟩:=qC _ _ _ _ (aB _) hs;have k2:k<=s.length-(i+1):=by simpa using k2
        obtain⟨r,a1,a2⟩:=next (i+1+k) (3,t) ow ow
        refine⟨r,((zR.of hv).ends (q2 t k hs _ r a1)).mono ow,?_⟩;simp only;rw[<-hdrop,Dz,show i+(k+1)=i+1+k by omega];exact a2
      ·rw[if_neg c3]at hv⊢;obtain⟨r,a1,a2⟩:=next (i+1) (4,[s[i]]) ow ow
       refine⟨r,?_,a2⟩;revert hv a1;cases J1 s (i+1) (4,[s[i]]) o with
       |inl h=>intro hv a1;exact((zR.of hv).ends a1).mono ow
       |inr r'=>intro hv a1;cases a1;exact(zV.of hv).mono ow
  ·obtain rfl:i=s.length:=by omega
   rw[jg,uZ];cases o with
   | none=>
    refine⟨(.tup [.nils,.bool Q3],[]),(zV.of ?_).mono ow,[],rfl⟩;show(cH (.h3 _ _)).val=_;simp only[cH,zz,Q8];rfl
   | some l=>
    refine⟨(.tup [.vec 0,.bool (Q0 ((↑l.length:Int)<=400))],[.vec zr l]),(zV.of ?_).mono ow,l,?_⟩
    ·show(cH (.h3b _ _ _)).val=_;simp only[cH,zz,Q8];rfl
    ·have e:Q0 ((↑l.length:Int)<=400)=Q0 (l.length<=400):=by
      by_cases h:l.length<=400
      ·rw[zt h];exact zt ow
      ·rw[ah h];exact ah ow
     rw[e];rfl
theorem Jd{s:zA}(hl:s.length<=1000000):∃l,Gw s=Q1 (l,(cut s).2==(0:Int),()):=by
 obtain⟨r,h1,l,h2⟩:=BV hl (s.length+1) 0 none ow ow sw;have h3:=Ap (s.length+1) s 0 [] ow ow ow sw;have hc:((cut s).2==(0:Int))=uZ (s.length+1) (s.drop 0) ([]:List (Sem zr)).length:=h3;refine⟨l,?_⟩;rw[hc];exact zx (s:=Vv s ((0:Nat):Int) none) rfl h1 ow h2
theorem S8{s:zA}(hl:s.length<=1000000):Gv s=Q3:=by
 obtain⟨l,h⟩:=Jd hl;unfold Gv;rw[h];rfl
theorem Wg{s:zA}(hl:s.length<=1000000):(xr s).2=((cut s).2==(0:Int)):=by
 obtain⟨l,h⟩:=Jd hl;unfold xr;rw[h];rfl
theorem sk{α:Type}(p:α->Bool):∀(l:List α)(i:Nat),(!Q0 (ae p l i>=0))=Q3↔∀x∈l,p x=Q4
 | [],i=>by
  refine⟨λ_ x hx=>(by cases hx),λ_=>?_⟩;rw[ae];rfl
 | y::r,i=>by
  refine⟨λh=>oQ p _ i h,λh=>?_⟩;rw[ae,h y sw];exact(sk p r (i+1)).2 λx hx=>h x (by simp[hx])
theorem iS{x:Sem zk}(h4:x.2.2.2.1.length<=1000)(h5:x.2.2.2.2.1.length<=1000)(h7:x.2.2.2.2.2.2.1.length<=1000)(h8:x.2.2.2.2.2.2.2.1.length<=1000)(h10:x.2.2.2.2.2.2.2.2.2.1.length<=1000)(h11:x.2.2.2.2.2.2.2.2.2.2.1.length<=1000):
  ej x=Q3↔x.2.1=[]/\x.2.2.1=[]/\x.2.2.2.2.2.1=[]/\x.2.2.2.2.2.2.2.2.2.2.2.2=[]/\x.2.2.2.1=[]/\x.2.2.2.2.1=[]/\x.2.2.2.2.2.2.1=[]/\x.2.2.2.2.2.2.2.1=[]/\x.2.2.2.2.2.2.2.2.2.1=[]/\x.2.2.2.2.2.2.2.2.2.2.1=[]/\x.2.2.2.2.2.2.2.2.1=dg/\x.2.2.2.2.2.2.2.2.2.2.2.1=dg:=by
 unfold ej
 have hw:(IntKind.i64.wrap (IntKind.i64.wrap (IntKind.i64.wrap (IntKind.i64.wrap (IntKind.i64.wrap ((↑(length x.2.2.2.1):Int)+(↑(length x.2.2.2.2.1):Int))+(↑(length x.2.2.2.2.2.2.1):Int))+(↑(length x.2.2.2.2.2.2.2.1):Int))+(↑(length x.2.2.2.2.2.2.2.2.2.1):Int))+(↑(length x.2.2.2.2.2.2.2.2.2.2.1):Int)))=
   ((x.2.2.2.1.length+x.2.2.2.2.1.length+x.2.2.2.2.2.2.1.length+x.2.2.2.2.2.2.2.1.length+x.2.2.2.2.2.2.2.2.2.1.length+x.2.2.2.2.2.2.2.2.2.2.1.length:Nat):Int):=by
  have g:∀n:Nat,n<=10000->IntKind.i64.wrap (n:Int)=(n:Int):=λn hn=>TI n (by omega)
  rw[<-sM,g _ (by omega),<-sM,g _ (by omega),<-sM,g _ (by omega),<-sM,g _ (by omega),<-sM,g _ (by omega)]
 rw[hw];constructor
 ·intro h;obtain⟨k1,h⟩:=cg h;obtain⟨k2,h⟩:=cg h;obtain⟨k3,k4⟩:=cg h;simp only[aX,List.append_eq_nil_iff]at k1;obtain⟨⟨⟨a1,a2⟩,a3⟩,a4⟩:=k1;have k2:x.2.2.2.1.length+x.2.2.2.2.1.length+x.2.2.2.2.2.2.1.length+x.2.2.2.2.2.2.2.1.length+x.2.2.2.2.2.2.2.2.2.1.length+x.2.2.2.2.2.2.2.2.2.2.1.length=0:=by
   have:=bA k2;exact Int.ofNat.inj this
  refine⟨a1,a2,a3,a4,?_,?_,?_,?_,?_,?_,jT.1 k3,jT.1 k4⟩<;>exact xE (by omega)
 ·rintro⟨a1,a2,a3,a4,a5,a6,a7,a8,a9,a10,a11,a12⟩;rw[a1,a2,a3,a4,a5,a6,a7,a8,a9,a10,a11,a12,show gK dg=Q3 from rfl];rfl
theorem Tp(s:Sem zk):dW s=(eW s&&((cut (iq s)).2==0)):=by
 unfold dW pg;cases eW s
 ·rfl
 ·show((if((cut (iq s)).2!=0)=Q3 then(([],1):Sem Q6×Sem zg)else(iq s,0)).2==0)=_;cases h:((cut (iq s)).2==0)
  ·have:((cut (iq s)).2!=0)=Q3:=by simp only[bne,h];rfl
   rw[if_pos this];rfl
  ·have:((cut (iq s)).2!=0)=Q4:=by simp only[bne,h];rfl
   rw[this];rfl
theorem Sf(s:zA):bL s=zK s:=rfl
theorem ER{s:Sem zk}(h:nY s){t:zA}{own:Sem zk}{ok:Bool}(hw:du s=Q1 (t,own,ok,()))(hl:t.length<=900000)(hc:yU own):
  ∃t',nj s=Q1 (t',(ok&&(zK s.2.1&&(eU own s&&((cut t).2==(0:Int))))),()):=by
 have hn:=h.sh.table;have e1:uk s=Q3:=by unfold uk;rw[hw];rfl
 have e2:yD s=(t,own,ok):=by unfold yD;rw[hw];rfl
 obtain⟨s1,_⟩:=qv (b:=s) hc;have n1:=bp (s:=s.2.1) ow;have n2:=eM (s:=s.2.1) ow;have k1:=S8 (s:=t) ow;have k2:=Wg (s:=t) ow;have es:uk (s.1,s.2.1,s.2.2.1,s.2.2.2.1,s.t.1,s.t.2.1,s.t.q.1,s.t.q.2.1,s.t.t.1,s.t.t.2.1,s.t.t.q.1,s.t.t.q.2.1,s.t.t.t)=Q3:=e1;have ew:yD (s.1,s.2.1,s.2.2.1,s.2.2.2.1,s.t.1,s.t.2.1,s.t.q.1,s.t.q.2.1,s.t.t.1,s.t.t.2.1,s.t.t.q.1,s.t.t.q.2.1,s.t.t.t)=(t,own,ok):=e2;have ss:yB (own.1,own.2.1,own.2.2.1,own.2.2.2.1,own.t.1,own.t.2.1,own.t.q.1,own.t.q.2.1,own.t.t.1,own.t.t.2.1,own.t.t.q.1,own.t.t.q.2.1,own.t.t.t) (s.1,s.2.1,s.2.2.1,s.2.2.2.1,s.t.1,s.t.2.1,s.t.q.1,s.t.q.2.1,s.t.t.1,s.t.t.2.1,s.t.t.q.1,s.t.t.q.2.1,s.t.t.t)=Q3:=s1;have sv:eU (own.1,own.2.1,own.2.2.1,own.2.2.2.1,own.t.1,own.t.2.1,own.t.q.1,own.t.q.2.1,own.t.t.1,own.t.t.2.1,own.t.t.q.1,own.t.t.q.2.1,own.t.t.t) (s.1,s.2.1,s.2.2.1,s.2.2.2.1,s.t.1,s.t.2.1,s.t.q.1,s.t.q.2.1,s.t.t.1,s.t.t.2.1,s.t.t.q.1,s.t.t.q.2.1,s.t.t.t)=eU own s:=rfl;have hv:∃t' b,(zbt s).val=Q1 (.inr (.tup [.str t',b],[]))/\(b=.kb Q3/\(ok&&(zK s.2.1&&(eU own s&&((cut t).2==(0:Int)))))=Q3\/(b=.kb Q4/\(ok&&(zK s.2.1&&(eU own s&&((cut t).2==(0:Int)))))=Q4)):=by
  simp only[zbt,Q8,zl,es,ew,ss,sv,n1,n2,k1,k2,if_true];generalize eU own s=b1;generalize zK s.2.1=b2;generalize((cut t).2==(0:Int))=b3;cases ok<;>cases b2<;>cases b1<;>cases b3<;>first|exact⟨_,_,rfl,.inl ⟨rfl,rfl⟩⟩|exact⟨_,_,rfl,.inr ⟨rfl,rfl⟩⟩
 obtain⟨t',b,hv,hb⟩:=hv;refine⟨t',zM hv ?_⟩;rcases hb with⟨rfl,hb⟩|⟨rfl,hb⟩<;>rw[hb]<;>rfl
theorem Ld{s:Sem zk}(h:nY s):∃t b,nj s=Q1 (t,b,()):=by
 obtain⟨t,own,ok,h1,h2,h3⟩:=Lg h;obtain⟨t',h4⟩:=ER h h1 h2 h3;exact⟨t',_,h4⟩
theorem MW{s:Sem zk}(h:nY s)(o:s.1=[99,111,112,121]):eW s=(kz s&&(zK s.2.1&&eU (s.1,s.2.1,s.2.2.1,s.2.2.2.1,[],[],[],[],s.2.2.2.2.2.2.2.2.1,[],[],dg,[]) s)):=by
 have hn:=h.sh.names.1;have hc:=h.sh.cols.1;have hq:=h.sh.uniques.1;have hr:=h.sh.refs.1;have hw:=h.sh.row;have hs:=h.sh.sets.1;obtain⟨p0,p1,p2,p3,p4,p5,p6,p7,p8,p9,p10⟩:=V4 o;obtain⟨_,hp⟩:=eo (s:=s) (g:=_) (b:=_) (by simp only[tu,Q8,p0,p1,p2,p3,p4,p5,p6,p7,p8,p9,p10,if_true,if_false,zG,zl];exact rfl);obtain⟨_,hsame⟩:=qv (a:=(s.1,s.2.1,s.2.2.1,s.2.2.2.1,[],[],[],[],s.2.2.2.2.2.2.2.2.1,[],[],dg,[])) (b:=s) (eb h (.inl rfl) (.inr rfl) (.inr rfl) (.inr rfl) (.inl rfl) (.inr rfl) (.inr rfl) (.inr rfl));have hem:=iS (x:=(s.1,[],[],[],s.2.2.2.2.1,s.2.2.2.2.2.1,s.2.2.2.2.2.2.1,s.2.2.2.2.2.2.2.1,dg,s.2.2.2.2.2.2.2.2.2.1,s.2.2.2.2.2.2.2.2.2.2.1,s.2.2.2.2.2.2.2.2.2.2.2.1,s.2.2.2.2.2.2.2.2.2.2.2.2)) (by simp) (by simpa using cL hc (by omega)) (by simpa using cL hq (by omega)) (by simpa using cL hr (by omega)) (by simpa using cL hw (by omega)) (by simpa using cL hs (by omega));have hec:dY (s.1,[],[],[],s.2.2.2.2.1,s.2.2.2.2.2.1,s.2.2.2.2.2.2.1,s.2.2.2.2.2.2.2.1,dg,s.2.2.2.2.2.2.2.2.2.1,s.2.2.2.2.2.2.2.2.2.2.1,s.2.2.2.2.2.2.2.2.2.2.2.1,s.2.2.2.2.2.2.2.2.2.2.2.2)=Q3:=fF (by simp) (by simp) (by have:=h.sh.key;simpa using this) (by have:=h.sh.role;simpa using this);rw[hp];apply iA.2;have hown:eU (s.1,s.2.1,s.2.2.1,s.2.2.2.1,[],[],[],[],s.2.2.2.2.2.2.2.2.1,[],[],dg,[]) s=Q3↔ej (s.1,[],[],[],s.2.2.2.2.1,s.2.2.2.2.2.1,s.2.2.2.2.2.2.1,s.2.2.2.2.2.2.2.1,dg,s.2.2.2.2.2.2.2.2.2.1,s.2.2.2.2.2.2.2.2.2.2.1,s.2.2.2.2.2.2.2.2.2.2.2.1,s.2.2.2.2.2.2.2.2.2.2.2.2)=Q3:=by
  rw[hsame,hem];obtain⟨s1,s2,s3,s4,s5,s6,s7,s8,s9,s10,us,s12,s13⟩:=s;simp only[cm,true_and];constructor
  ·intro k;simp_all
  ·intro k;simp_all
 have hix:=sk (λx=>!bL x) s.2.2.2.1 0;have hnm:(!Q0 (ae (λx=>!bL x) s.2.2.2.1 0>=0))=Q0 (∀x∈s.2.2.2.1,zK x=Q3):=by
  apply iA.2;rw[hix,decide_eq_true_iff];exact⟨λk x hx=>by have:=k x hx;simpa[Sf]using this,λk x hx=>by have:=k x hx;simpa[Sf]using this⟩
 have hlb:(bif Q0 ((↑(length s.2.2.2.1):Int)<1)then Q3 else Q0 ((↑(length s.2.2.2.1):Int)>8))=!(Q0 (1<=s.2.2.2.1.length)&&Q0 (s.2.2.2.1.length<=8)):=by
  by_cases a:1<=s.2.2.2.1.length
  ·rw[ah (show¬(↑(length s.2.2.2.1):Int)<1 by omega),zt a];by_cases b:s.2.2.2.1.length<=8
   ·rw[ah (show¬(↑(length s.2.2.2.1):Int)>8 by omega),zt b];rfl
   ·rw[zt (show(↑(length s.2.2.2.1):Int)>8 by omega),ah b];rfl
  ·rw[zt (show(↑(length s.2.2.2.1):Int)<1 by omega),ah a];rfl
 rw[hnm,hlb,hec];unfold kz;rw[show bL s.2.1=zK s.2.1 from rfl,show bL s.2.2.1=zK s.2.2.1 from rfl];rw[iA.2 hown];generalize ej _=b1;generalize bM s.2.2.2.2.2.2.2.2.1=b2;generalize zK s.2.1=b3;generalize zK s.2.2.1=b4;generalize Q0 (∀x∈s.2.2.2.1,zK x=Q3)=b5;generalize(Q0 (1<=s.2.2.2.1.length)&&Q0 (s.2.2.2.1.length<=8))=b6;cases b1<;>cases b2<;>cases b3<;>cases b4<;>cases b5<;>cases b6<;>simp
theorem MX{s:Sem zk}(h:nY s)(o:s.1=[106,111,105,110]):eW s=(mX s&&(zK s.2.1&&eU (s.1,s.2.1,s.2.2.1,[],[],s.t.2.1,[],[],s.t.t.1,[],[],dg,s.t.t.t) s)):=by
 have hn:=h.sh.names.1;have hc:=h.sh.cols.1;have hq:=h.sh.uniques.1;have hr:=h.sh.refs.1;have hw:=h.sh.row;have hs:=h.sh.sets.1;obtain⟨p0,p1,p2,p3,p4,p5,p6,p7,p8,p9,p10,p11⟩:=V5 o;obtain⟨_,hp⟩:=eo (s:=s) (g:=_) (b:=_) (by simp only[tu,Q8,p0,p1,p2,p3,p4,p5,p6,p7,p8,p9,p10,p11,if_true,if_false,zG,zl];exact rfl);obtain⟨_,hsame⟩:=qv (a:=(s.1,s.2.1,s.2.2.1,[],[],s.t.2.1,[],[],s.t.t.1,[],[],dg,s.t.t.t)) (b:=s) (eb h (.inr rfl) (.inr rfl) (.inr rfl) (.inr rfl) (.inl rfl) (.inr rfl) (.inr rfl) (.inr rfl));have hem:=iS (x:=(s.1,[],[],s.2.2.2.1,s.t.1,[],s.t.q.1,s.t.q.2.1,dg,s.t.t.2.1,s.t.t.q.1,s.t.t.q.2.1,[])) (by simpa using cL hn ow) (by simpa using cL hc ow) (by simpa using cL hq ow) (by simpa using cL hr ow) (by simpa using cL hw ow) (by simpa using cL hs ow);have hec:dY (s.1,[],[],s.2.2.2.1,s.t.1,[],s.t.q.1,s.t.q.2.1,dg,s.t.t.2.1,s.t.t.q.1,s.t.t.q.2.1,[])=Q3:=fF sw sw sw sw;rw[hp];apply iA.2;have hown:eU (s.1,s.2.1,s.2.2.1,[],[],s.t.2.1,[],[],s.t.t.1,[],[],dg,s.t.t.t) s=Q3↔ej (s.1,[],[],s.2.2.2.1,s.t.1,[],s.t.q.1,s.t.q.2.1,dg,s.t.t.2.1,s.t.t.q.1,s.t.t.q.2.1,[])=Q3:=by
  rw[hsame,hem];obtain⟨s1,s2,s3,s4,s5,s6,s7,s8,s9,s10,us,s12,s13⟩:=s;simp only[cm,true_and];constructor
  ·intro k;simp_all
  ·intro k;simp_all
 rw[hec];unfold mX;rw[show bL s.2.1=zK s.2.1 from rfl,show bL s.2.2.1=zK s.2.2.1 from rfl,show bL s.t.2.1=zK s.t.2.1 from rfl,show bL s.t.t.t=zK s.t.t.t from rfl];rw[iA.2 hown];generalize ej _=b1;generalize bM s.t.t.1=b2;generalize zK s.2.1=b3;generalize zK s.2.2.1=b4;generalize zK s.t.2.1=b5;generalize zK s.t.t.t=b6;cases b1<;>cases b2<;>cases b3<;>cases b4<;>cases b5<;>cases b6<;>simp
theorem IT{s:Sem zk}(h:nY s)(o:s.1=[103,114,111,117,112]):eW s=(gr s&&(zK s.2.1&&eU (s.1,s.2.1,s.2.2.1,s.2.2.2.1,[],[],[],[],s.2.2.2.2.2.2.2.2.1,[],[],dg,[]) s)):=by
 have hn:=h.sh.names.1;have hc:=h.sh.cols.1;have hq:=h.sh.uniques.1;have hr:=h.sh.refs.1;have hw:=h.sh.row;have hs:=h.sh.sets.1;obtain⟨p0,p1,p2,p3,p4,p5,p6,p7,p8,p9,p10,p11,p12⟩:=SF o;obtain⟨_,hp⟩:=eo (s:=s) (g:=_) (b:=_) (by simp only[tu,Q8,p0,p1,p2,p3,p4,p5,p6,p7,p8,p9,p10,p11,p12,if_true,if_false,zG,zl];exact rfl);obtain⟨_,hsame⟩:=qv (a:=(s.1,s.2.1,s.2.2.1,s.2.2.2.1,[],[],[],[],s.2.2.2.2.2.2.2.2.1,[],[],dg,[])) (b:=s) (eb h (.inl rfl) (.inr rfl) (.inr rfl) (.inr rfl) (.inl rfl) (.inr rfl) (.inr rfl) (.inr rfl));have hem:=iS (x:=(s.1,[],[],[],s.2.2.2.2.1,s.2.2.2.2.2.1,s.2.2.2.2.2.2.1,s.2.2.2.2.2.2.2.1,dg,s.2.2.2.2.2.2.2.2.2.1,s.2.2.2.2.2.2.2.2.2.2.1,s.2.2.2.2.2.2.2.2.2.2.2.1,s.2.2.2.2.2.2.2.2.2.2.2.2)) (by simp) (by simpa using cL hc (by omega)) (by simpa using cL hq (by omega)) (by simpa using cL hr (by omega)) (by simpa using cL hw (by omega)) (by simpa using cL hs (by omega));have hec:dY (s.1,[],[],[],s.2.2.2.2.1,s.2.2.2.2.2.1,s.2.2.2.2.2.2.1,s.2.2.2.2.2.2.2.1,dg,s.2.2.2.2.2.2.2.2.2.1,s.2.2.2.2.2.2.2.2.2.2.1,s.2.2.2.2.2.2.2.2.2.2.2.1,s.2.2.2.2.2.2.2.2.2.2.2.2)=Q3:=fF (by simp) (by simp) (by have:=h.sh.key;simpa using this) (by have:=h.sh.role;simpa using this);rw[hp];apply iA.2;have hown:eU (s.1,s.2.1,s.2.2.1,s.2.2.2.1,[],[],[],[],s.2.2.2.2.2.2.2.2.1,[],[],dg,[]) s=Q3↔ej (s.1,[],[],[],s.2.2.2.2.1,s.2.2.2.2.2.1,s.2.2.2.2.2.2.1,s.2.2.2.2.2.2.2.1,dg,s.2.2.2.2.2.2.2.2.2.1,s.2.2.2.2.2.2.2.2.2.2.1,s.2.2.2.2.2.2.2.2.2.2.2.1,s.2.2.2.2.2.2.2.2.2.2.2.2)=Q3:=by
  rw[hsame,hem];obtain⟨s1,s2,s3,s4,s5,s6,s7,s8,s9,s10,us,s12,s13⟩:=s;simp only[cm,true_and];constructor
  ·intro k;simp_all
  ·intro k;simp_all
 have hix:=sk (λx=>!bL x) s.2.2.2.1 0;have hlb:(bif bif Q0 ((↑(length s.2.2.2.1):Int)<2)then Q3 else Q0 ((↑(length s.2.2.2.1):Int)>2)then Q4 else bif !Q0 (ae (λx=>!bL x) s.2.2.2.1 0>=0)then bM s.2.2.2.2.2.2.2.2.1 else Q4)=(Q0 (s.2.2.2.1.length=2)&&(bM s.2.2.2.2.2.2.2.2.1&&(zK (s.2.2.2.1.getD 0 [])&&zK (s.2.2.2.1.getD 1 [])))):=by
  by_cases a:s.2.2.2.1.length=2
  ·rw[ah (show¬(↑(length s.2.2.2.1):Int)<2 by omega),ah (show¬(↑(length s.2.2.2.1):Int)>2 by omega),zt a];have hnm:(!Q0 (ae (λx=>!bL x) s.2.2.2.1 0>=0))=(zK (s.2.2.2.1.getD 0 [])&&zK (s.2.2.2.1.getD 1 [])):=by
    apply iA.2;rw[hix,aD];obtain⟨s1,s2,s3,s4,s5⟩:=s
    match s4,a with
    |[x,y],_=>simp[Sf]
   rw[hnm];cases bM s.2.2.2.2.2.2.2.2.1<;>cases zK (s.2.2.2.1.getD 0 [])<;>cases zK (s.2.2.2.1.getD 1 [])<;>rfl
  ·rw[ah a];by_cases b:(↑(length s.2.2.2.1):Int)<2
   ·rw[zt b];rfl
   ·rw[ah b,zt (show(↑(length s.2.2.2.1):Int)>2 by omega)];rfl
 rw[hlb,hec];unfold gr;rw[show bL s.2.1=zK s.2.1 from rfl,show bL s.2.2.1=zK s.2.2.1 from rfl];rw[iA.2 hown];generalize ej _=b1;generalize bM s.2.2.2.2.2.2.2.2.1=b2;generalize zK s.2.1=b3;generalize zK s.2.2.1=b4;generalize zK (s.2.2.2.1.getD 0 [])=b5;generalize zK (s.2.2.2.1.getD 1 [])=b6;generalize Q0 (s.2.2.2.1.length=2)=b7;cases b1<;>cases b2<;>cases b3<;>cases b4<;>cases b5<;>cases b6<;>cases b7<;>simp
abbrev zg0:=mV [(4,[1,2,5]),(9,[1,2,6])]
inductive E9 where
 |h4 (l1:LV) (i5:Int) (z0:zn [CP.d zo])
 |h9 (l1:LV) (i6:Int) (z0:zn [CP.d zo])
abbrev zjw:E9->Nat×St
 |.h4 l1 i5 z0=>(4,⟨tm 83 [(1,sl zf l1),(2,ptr 0 0),(5,ai i5)],[Qa (bx [] [CP.d zo] z0)]⟩)
 |.h9 l1 i6 z0=>(9,⟨tm 83 [(1,sl zf l1),(2,ptr 0 0),(6,ai i6)],[Qa (bx [] [CP.d zo] z0)]⟩)
def zbw(x0:Sem zo)(x1:Sem zf.sl):Tr (E9⊕aw):=
 let a0:=(x0.1,x0.2.1,x0.2.2.1,x0.2.2.2.1,x0.t.1,zm x0.t.2)
 Qc (wl a0)
 (br (bif !EM a0 then Q3 else(↑(length x1):Int)!=(↑(length x0.2.1):Int)) (re (ai 1) [])
  (Q9 (E9.h4 x1 0 (x0,()))))
def CA:E9->Tr (E9⊕aw)
 | .h4 l1 i5 z0=>
  let a0:=l1.getD i5.toNat (zi zf)
  br (Q0 (i5<(↑l1.length:Int)))
  (Qc (zP i5 l1.length) (Qc (lH a0) (br (!rr a0) (re (ai 1) []) (Q9 (E9.h4 l1 (IntKind.i64.wrap (i5+1)) z0)))))
  (Q9 (E9.h9 l1 0 z0))
 | .h9 l1 i6 z0=>
  let a0:=l1.getD i6.toNat (zi zf)
  let a1:=a0.1==0
  let a2:=zP i6 (length z0.1.2.1)
  let a3:=getD z0.1.2.1 i6.toNat (zi zj)
  let a4:=a0.1!=0
  let a5:=!ze.op z0.1.t.2==[]
  let a6:=zm z0.1.t.2
  let a7:=Gb a6 z0.1.2.1 l1
  br (Q0 (i6<(↑l1.length:Int)))
  (Qc (zP i6 l1.length&&bif a1 then a2 else Q3)
   (br (bif a1 then a3.2.2 else Q4) (re (ai 8) []) (Qc (zP i6 l1.length&&bif a4 then zP i6 l1.length&&a2 else Q3) (br (bif a4 then a0.1!=a3.2.1 else Q4) (re (ai 5) []) (Q9 (E9.h9 l1 (IntKind.i64.wrap (i6+1)) z0))))))
  (Qc (bif a5 then yn a6 z0.1.2.1 l1&&mf a7 Q4 else Q3)
   (br (bif a5 then o5 a7 Q4 else Q4) (re (ai 9) []) (re (ai 0) [])))
def yv(x0:Sem zo)(x1:Sem zf.sl):=al [zg] CA 100000000 (zbw x0 x1)
def Gi(x0:Sem zo)(x1:Sem zf.sl):=(yv x0 x1).isSome
def La(x0:Sem zo)(x1:Sem zf.sl):=o1 (yv x0 x1)
def zdK:=FT [zo,zf.sl] [zg] λx=>yv x.1 x.2.1
theorem Z5:FK 128 zdK:=kl.T1 (f:=Tryz.f128) (keep:=zg0) (e:=zjw)
abbrev zg1:=mV [(2,[0,1,5]),(5,[0,1,5,6])]
inductive Hq where
 |h2 (l0:List (Sem zf.sl)) (i1:Sem zg) (i5:Int)
 |h5 (l0:List (Sem zf.sl)) (i1:Sem zg) (i5:Int) (i6:Int)
abbrev zjx:Hq->Nat×St
 |.h2 l0 i1 i5=>(2,⟨tm 44 [(0,sl zf.sl l0),(1,ai i1),(5,ai i5)],[]⟩)
 |.h5 l0 i1 i5 i6=>(5,⟨tm 44 [(0,sl zf.sl l0),(1,ai i1),(5,ai i5),(6,ai i6)],[]⟩)
def zgq(x0:Sem zf.sl.sl)(x1:Sem zg):Tr (Hq⊕aw):=
 Q9 (Hq.h2 x0 x1 0)
def Dd:Hq->Tr (Hq⊕aw)
 | .h2 l0 i1 i5=>
  br (Q0 (i5<(↑l0.length:Int))) (Q9 (Hq.h5 l0 i1 i5 0)) (re (kb Q4) [])
 | .h5 l0 i1 i5 i6=>
  let a0:=l0.getD i5.toNat (zi zf.sl)
  let a1:=zP i1 (length a0)
  let a2:=getD a0 (toNat i1) (zi zf)
  let a3:=a2.1!=0
  let a4:=l0.getD i6.toNat (zi zf.sl)
  let a5:=getD a4 (toNat i1) (zi zf)
  br (Q0 (i6<i5))
  (Qc (zP i5 l0.length&&(a1&&bif a3 then zP i5 l0.length&&(a1&&(zP i6 l0.length&&zP i1 (length a4)))else Q3))
   (br (bif a3 then a2.1==a5.1&&(a2.2.1==a5.2.1&&(a2.2.2==a5.2.2&&Q3))else Q4) (re (kb Q3) []) (Q9 (Hq.h5 l0 i1 i5 (IntKind.i64.wrap (i6+1))))))
  (Q9 (Hq.h2 l0 i1 (IntKind.i64.wrap (i5+1))))
def tZ(x0:Sem zf.sl.sl)(x1:Sem zg):=al [Q7] Dd 100000000 (zgq x0 x1)
def mn(x0:Sem zf.sl.sl)(x1:Sem zg):=(tZ x0 x1).isSome
def qq(x0:Sem zf.sl.sl)(x1:Sem zg):=o1 (tZ x0 x1)
def zdL:=FT [zf.sl.sl,zg] [Q7] λx=>tZ x.1 x.2.1
theorem Z6:FK 129 zdL:=kl.T1 (f:=Tryz.f129) (keep:=zg1) (e:=zjx)
def zgs(x0:Sem zo)(x1:Sem zf.sl):Tr (Empty⊕aw):=
 let a0:=(x0.1,x0.2.1,x0.2.2.1,x0.2.2.2.1,x0.t.1,zm x0.t.2)
 let a1:=getD x1 (toNat x0.2.2.1) (zi zf)
 Qc (wl a0)
 (br (bif EM a0 then Q0 (x0.2.2.1<(↑(length x1):Int))else Q4)
  (Qc (zP x0.2.2.1 (length x1)) (re (agg [ai a1.1,ai a1.2.1,str a1.2.2]) []))
  (re (agg [ai 0,ai 0,str []]) []))
def BS(x0:Sem zo)(x1:Sem zf.sl):=al [zf] t0 100000000 (zgs x0 x1)
def Gp(x0:Sem zo)(x1:Sem zf.sl):=(BS x0 x1).isSome
def M5(x0:Sem zo)(x1:Sem zf.sl):=o1 (BS x0 x1)
def zdN:=FT [zo,zf.sl] [zf] λx=>BS x.1 x.2.1
theorem Z9:FK 130 zdN:=kl.T1 (f:=Tryz.f130) (keep:=k0) (e:=e0)
abbrev zg2:=mV [(2,[2,3,5])]
inductive NA where
 |h2 (i5:Int) (z0:zn [CP.d zh]) (z1:zn [CP.d zf])
abbrev zjy:NA->Nat×St
 |.h2 i5 z0 z1=>(2,⟨tm 43 [(2,ptr 0 0),(3,ptr 1 0),(5,ai i5)],[Qa (bx [] [CP.d zh] z0),Qa (bx [] [CP.d zf] z1)]⟩)
def zgt(x0:Sem zh)(x1:Sem zf):Tr (NA⊕aw):=
 Q9 (NA.h2 0 (x0,()) (x1,()))
def Ts:NA->Tr (NA⊕aw)
 | .h2 i5 z0 z1=>
  let a0:=(↑(length z0.1.2):Int)
  let a1:=Q0 (i5<a0)
  let a2:=(z0.1.1.1,z0.1.1.2.1,z0.1.1.2.2.1,z0.1.1.2.2.2.1,z0.1.1.t.1,zm z0.1.1.t.2)
  let a3:=zP i5 (length z0.1.2)
  let a4:=getD z0.1.2 i5.toNat (zi zf.sl)
  let a5:=(↑(length a4):Int)
  let a6:=Q0 (z0.1.1.2.2.1<a5)
  let a7:=getD a4 (toNat z0.1.1.2.2.1) (zi zf)
  Qc (bif a1 then wl a2 else Q3)
  (br (bif a1 then EM a2 else Q4)
   (Qc (a3&&bif a6 then a3&&zP z0.1.1.2.2.1 (length a4)else Q3) (br (bif a6 then a7.1==z1.1.1&&(a7.2.1==z1.1.2.1&&(a7.2.2==z1.1.2.2&&Q3))else Q4) (re (ai i5) []) (Q9 (NA.h2 (IntKind.i64.wrap (i5+1)) z0 z1))))
   (re (ai (-1)) []))
def yx(x0:Sem zh)(x1:Sem zf):=al [zg] Ts 100000000 (zgt x0 x1)
def Gn(x0:Sem zh)(x1:Sem zf):=(yx x0 x1).isSome
def Lb(x0:Sem zh)(x1:Sem zf):=o1 (yx x0 x1)
def zdO:=FT [zh,zf] [zg] λx=>yx x.1 x.2.1
theorem zaa:FK 131 zdO:=kl.T1 (f:=Tryz.f131) (keep:=zg2) (e:=zjy)
def Qq:=Qp.addL [(128,zdK),(129,zdL),(130,zdN),(131,zdO)]
theorem rS:zw Qq:=kl.addL<|fc Z5<|fc Z6<|fc Z9<|fc zaa jj
abbrev zgI:=mV [(6,[1,3]),(14,[1,5]),(19,[1,6])]
inductive CV where
 |h6 (i3:Int) (z0:zn [CP.d zh])
 |h14 (i5:Int) (z0:zn [CP.d zh])
 |h19 (i6:Int) (z0:zn [CP.d zh])
abbrev zjk:CV->Nat×St
 |.h6 i3 z0=>(6,⟨tm 82 [(1,ptr 0 0),(3,ai i3)],[Qa (bx [] [CP.d zh] z0)]⟩)
 |.h14 i5 z0=>(14,⟨tm 82 [(1,ptr 0 0),(5,ai i5)],[Qa (bx [] [CP.d zh] z0)]⟩)
 |.h19 i6 z0=>(19,⟨tm 82 [(1,ptr 0 0),(6,ai i6)],[Qa (bx [] [CP.d zh] z0)]⟩)
def Rl(x0:Sem zh):Tr (CV⊕aw):=
 let a0:=(x0.1.1,x0.1.2.1,x0.1.2.2.1,x0.1.2.2.2.1,x0.1.t.1,zm x0.1.t.2)
 Qc (wl a0)
 (br (!EM a0) (re (ai 1) [])
  (br (Q0 ((↑(length x0.2):Int)>200)) (re (ai 13) []) (Q9 (CV.h6 0 (x0,())))))
def pj:CV->Tr (CV⊕aw)
 | .h6 i3 z0=>
  let a0:=(↑(length z0.1.2):Int)
  let a1:=(z0.1.1.1,z0.1.1.2.1,z0.1.1.2.2.1,z0.1.1.2.2.2.1,z0.1.1.t.1,zm z0.1.1.t.2)
  let a2:=getD z0.1.2 i3.toNat (zi zf.sl)
  let a3:=La a1 a2
  br (Q0 (i3<a0))
  (Qc (zP i3 (length z0.1.2))
   (Qc (Gi a1 a2) (br (a3 !=0) (re (ai a3) []) (Q9 (CV.h6 (IntKind.i64.wrap (i3+1)) z0)))))
  (Qc (mn z0.1.2 z0.1.1.2.2.1)
   (br (qq z0.1.2 z0.1.1.2.2.1) (re (ai 7) []) (Q9 (CV.h14 0 z0))))
 | .h14 i5 z0=>
  let a0:=(↑(length z0.1.1.2.2.2.1):Int)
  let a1:=getD z0.1.1.2.2.2.1 i5.toNat (zi zg)
  br (Q0 (i5<a0))
  (Qc (zP i5 (length z0.1.1.2.2.2.1))
   (Qc (mn z0.1.2 a1) (br (qq z0.1.2 a1) (re (ai 7) []) (Q9 (CV.h14 (IntKind.i64.wrap (i5+1)) z0)))))
  (Q9 (CV.h19 1 z0))
 | .h19 i6 z0=>
  let a0:=(↑(length z0.1.2):Int)
  let a1:=IntKind.i64.wrap (i6-1)
  let a2:=(z0.1.1.1,z0.1.1.2.1,z0.1.1.2.2.1,z0.1.1.2.2.2.1,z0.1.1.t.1,zm z0.1.1.t.2)
  let a3:=getD z0.1.2 a1.toNat (zi zf.sl)
  let a4:=getD z0.1.2 i6.toNat (zi zf.sl)
  let a5:=M5 a2 a3
  let a6:=M5 a2 a4
  let a7:=Ga a5 a6
  br (Q0 (i6<a0))
  (Qc (zP a1 (length z0.1.2))
   (Qc (Gp a2 a3) (Qc (zP i6 (length z0.1.2)) (Qc (Gp a2 a4) (Qc (BE a5 a6) (br (Q0 (a7>0)) (re (ai 15) []) (Q9 (CV.h19 (IntKind.i64.wrap (i6+1)) z0))))))))
  (re (ai 0) [])
def ml(x0:Sem zh):=al [zg] pj 100000000 (Rl x0)
def BQ(x0:Sem zh):=(ml x0).isSome
def Gl(x0:Sem zh):=o1 (ml x0)
def zdg:=FT [zh] [zg] λx=>ml x.1
theorem Zx:FK 76 zdg:=rS.T1 (f:=Tryz.f76) (keep:=zgI) (e:=zjk)
abbrev zgK:=mV [(2,[0,3]),(5,[0,3,4]),(12,[0,3,4,5,6,7])]
inductive CW where
 |h2 (l0:List (Sem zh)) (i3:Int)
 |h5 (l0:List (Sem zh)) (i3:Int) (i4:Int)
 |h12 (l0:List (Sem zh)) (i3:Int) (i4:Int) (i6:Sem zg) (i7:Int) (z0:zn [CP.d zr])
abbrev zjm:CW->Nat×St
 |.h2 l0 i3=>(2,⟨tm 75 [(0,sl zh l0),(3,ai i3)],[]⟩)
 |.h5 l0 i3 i4=>(5,⟨tm 75 [(0,sl zh l0),(3,ai i3),(4,ai i4)],[]⟩)
 |.h12 l0 i3 i4 i6 i7 z0=>(12,⟨tm 75 [(0,sl zh l0),(3,ai i3),(4,ai i4),(5,ptr 0 0),(6,ai i6),(7,ai i7)],[Qa (bx [] [CP.d zr] z0)]⟩)
def zgm(x0:Sem zh.sl):Tr (CW⊕aw):=
 Q9 (CW.h2 x0 0)
def qP:CW->Tr (CW⊕aw)
 | .h2 l0 i3=>
  br (Q0 (i3<(↑l0.length:Int))) (Q9 (CW.h5 l0 i3 0)) (re (kb Q3) [])
 | .h5 l0 i3 i4=>
  let a0:=l0.getD i3.toNat (zi zh)
  let a1:=(↑(length a0.1.t.1):Int)
  let a2:=getD a0.1.t.1 i4.toNat (zi zr)
  let a3:=kH l0 a2.2
  Qc (zP i3 l0.length)
  (br (Q0 (i4<a1))
   (Qc (zP i3 l0.length) (Qc (zP i4 (length a0.1.t.1)) (br (Q0 (a3<0)) (re (kb Q4) []) (Q9 (CW.h12 l0 i3 i4 a3 0 (a2,()))))))
   (Q9 (CW.h2 l0 (IntKind.i64.wrap (i3+1)))))
 | .h12 l0 i3 i4 i6 i7 z0=>
  let a0:=l0.getD i3.toNat (zi zh)
  let a1:=(↑(length a0.2):Int)
  let a2:=getD a0.2 i7.toNat (zi zf.sl)
  let a3:=getD a2 (toNat z0.1.1) (zi zf)
  let a4:=a3.1!=0
  let a5:=l0.getD (toNat i6) (zi zh)
  let a6:=((a5.1.1,a5.1.2.1,a5.1.2.2.1,a5.1.2.2.2.1,a5.1.t.1,zm a5.1.t.2),a5.2)
  let a7:=Lb a6 a3
  Qc (zP i3 l0.length)
  (br (Q0 (i7<a1))
   (Qc (zP i3 l0.length) (Qc (zP i7 (length a0.2)) (Qc (zP z0.1.1 (length a2)) (Qc (bif a4 then zP i6 l0.length&&Gn a6 a3 else Q3) (br (bif a4 then Q0 (a7<0)else Q4) (re (kb Q4) []) (Q9 (CW.h12 l0 i3 i4 i6 (IntKind.i64.wrap (i7+1)) z0)))))))
   (Q9 (CW.h5 l0 i3 (IntKind.i64.wrap (i4+1)))))
def ua(x0:Sem zh.sl):=al [Q7] qP 100000000 (zgm x0)
def BT(x0:Sem zh.sl):=(ua x0).isSome
def Gq(x0:Sem zh.sl):=o1 (ua x0)
def zdi:=FT [zh.sl] [Q7] λx=>ua x.1
theorem Zz:FK 77 zdi:=rS.T1 (f:=Tryz.f77) (keep:=zgK) (e:=zjm)
def Qr:=Qq.addL [(76,zdg),(77,zdi)]
theorem AF:zw Qr:=rS.addL<|fc Zx<|fc Zz jj
abbrev zk7:=mV [(4,[0,3]),(9,[0,4])]
inductive XH where
 |h4 (l0:List (Sem zh)) (i3:Int)
 |h9 (l0:List (Sem zh)) (i4:Int)
abbrev e9p:XH->Nat×St
 |.h4 l0 i3=>(4,⟨tm 46 [(0,sl zh l0),(3,ai i3)],[]⟩)
 |.h9 l0 i4=>(9,⟨tm 46 [(0,sl zh l0),(4,ai i4)],[]⟩)
def i9p(x0:Sem zh.sl):Tr (XH⊕aw):=
 br (Q0 ((↑(length x0):Int)>12)) (re (ai 13) []) (Q9 (XH.h4 x0 1))
def Tt:XH->Tr (XH⊕aw)
 | .h4 l0 i3=>
  let a0:=IntKind.i64.wrap (i3-1)
  let a1:=l0.getD a0.toNat (zi zh)
  let a2:=l0.getD i3.toNat (zi zh)
  br (Q0 (i3<(↑l0.length:Int)))
  (Qc (zP a0 l0.length)
   (Qc (zP i3 l0.length) (br (!Op.bytesLess a1.1.1 a2.1.1) (re (ai 15) []) (Q9 (XH.h4 l0 (IntKind.i64.wrap (i3+1)))))))
  (Q9 (XH.h9 l0 0))
 | .h9 l0 i4=>
  let a0:=l0.getD i4.toNat (zi zh)
  let a1:=((a0.1.1,a0.1.2.1,a0.1.2.2.1,a0.1.2.2.2.1,a0.1.t.1,zm a0.1.t.2),a0.2)
  let a2:=Gl a1
  br (Q0 (i4<(↑l0.length:Int)))
  (Qc (zP i4 l0.length) (Qc (BQ a1) (br (a2 !=0) (re (ai a2) []) (Q9 (XH.h9 l0 (IntKind.i64.wrap (i4+1)))))))
  (Qc (BT l0) (br (!Gq l0) (re (ai 10) []) (re (ai 0) [])))
def pe(x0:Sem zh.sl):=al [zg] Tt 100000000 (i9p x0)
def BU(x0:Sem zh.sl):=(pe x0).isSome
def Gt(x0:Sem zh.sl):=o1 (pe x0)
def F9p:=FT [zh.sl] [zg] λx=>pe x.1
theorem zfk:FK 43 F9p:=AF.T1 (f:=Tryz.f43) (keep:=zk7) (e:=e9p)
def Qs:=Qr.add 43 F9p
theorem mM:zw Qs:=AF.add zfk
abbrev zgS:=mV [(4,[0,1,12,13])]
inductive Nz where
 |h4 (l0:List (Sem zg)) (l1:List (Sem zg)) (i12:Int) (i13:Int)
abbrev zjs:Nz->Nat×St
 |.h4 l0 l1 i12 i13=>(4,⟨tm 26 [(0,sl zg l0),(1,sl zg l1),(12,ai i12),(13,ai i13)],[]⟩)
def VD(x0:Sem zg.sl)(x1:Sem zg.sl):Tr (Nz⊕aw):=
 br ((↑(length x0):Int)!=(↑(length x1):Int)) (re (kb Q4) []) (Q9 (Nz.h4 x0 x1 (↑(length x0):Int) 0))
def ziL:Nz->Tr (Nz⊕aw)
 | .h4 l0 l1 i12 i13=>
  br (Q0 (i13<i12))
  (Qc (zP i13 l0.length)
   (Qc (zP i13 l1.length) (br (l0.getD i13.toNat (zi zg)!=l1.getD i13.toNat (zi zg)) (re (kb Q4) []) (Q9 (Nz.h4 l0 l1 i12 (IntKind.i64.wrap (i13+1)))))))
  (re (kb Q3) [])
def GO(x0:Sem zg.sl)(x1:Sem zg.sl):=al [Q7] ziL 100000000 (VD x0 x1)
def GN(x0:Sem zg.sl)(x1:Sem zg.sl):=(GO x0 x1).isSome
def nM(x0:Sem zg.sl)(x1:Sem zg.sl):=o1 (GO x0 x1)
def zdC:=FT [zg.sl,zg.sl] [Q7] λx=>GO x.1 x.2.1
theorem ZU:FK 104 zdC:=mM.T1 (f:=Tryz.f104) (keep:=zgS) (e:=zjs)
abbrev zhe:=mV [(4,[0,1,12,13])]
inductive NE where
 |h4 (l0:List (Sem zj)) (l1:List (Sem zj)) (i12:Int) (i13:Int)
abbrev zjH:NE->Nat×St
 |.h4 l0 l1 i12 i13=>(4,⟨tm 26 [(0,sl zj l0),(1,sl zj l1),(12,ai i12),(13,ai i13)],[]⟩)
def VH(x0:Sem zj.sl)(x1:Sem zj.sl):Tr (NE⊕aw):=
 br ((↑(length x0):Int)!=(↑(length x1):Int)) (re (kb Q4) []) (Q9 (NE.h4 x0 x1 (↑(length x0):Int) 0))
def ziN:NE->Tr (NE⊕aw)
 | .h4 l0 l1 i12 i13=>
  let a0:=l0.getD i13.toNat (zi zj)
  let a1:=l1.getD i13.toNat (zi zj)
  br (Q0 (i13<i12))
  (Qc (zP i13 l0.length)
   (Qc (zP i13 l1.length) (br (!(a0.1==a1.1&&(a0.2.1==a1.2.1&&(a0.2.2==a1.2.2&&Q3)))) (re (kb Q4) []) (Q9 (NE.h4 l0 l1 i12 (IntKind.i64.wrap (i13+1)))))))
  (re (kb Q3) [])
def GL(x0:Sem zj.sl)(x1:Sem zj.sl):=al [Q7] ziN 100000000 (VH x0 x1)
def Ln(x0:Sem zj.sl)(x1:Sem zj.sl):=(GL x0 x1).isSome
def xw(x0:Sem zj.sl)(x1:Sem zj.sl):=o1 (GL x0 x1)
def zd6:=FT [zj.sl,zj.sl] [Q7] λx=>GL x.1 x.2.1
theorem zar:FK 152 zd6:=mM.T1 (f:=Tryz.f152) (keep:=zhe) (e:=zjH)
abbrev zhf:=mV [(4,[0,1,12,13])]
inductive NF where
 |h4 (l0:List (Sem zr)) (l1:List (Sem zr)) (i12:Int) (i13:Int)
abbrev zjI:NF->Nat×St
 |.h4 l0 l1 i12 i13=>(4,⟨tm 26 [(0,sl zr l0),(1,sl zr l1),(12,ai i12),(13,ai i13)],[]⟩)
def VI(x0:Sem zr.sl)(x1:Sem zr.sl):Tr (NF⊕aw):=
 br ((↑(length x0):Int)!=(↑(length x1):Int)) (re (kb Q4) []) (Q9 (NF.h4 x0 x1 (↑(length x0):Int) 0))
def ziO:NF->Tr (NF⊕aw)
 | .h4 l0 l1 i12 i13=>
  let a0:=l0.getD i13.toNat (zi zr)
  let a1:=l1.getD i13.toNat (zi zr)
  br (Q0 (i13<i12))
  (Qc (zP i13 l0.length)
   (Qc (zP i13 l1.length) (br (!(a0.1==a1.1&&(a0.2==a1.2&&Q3))) (re (kb Q4) []) (Q9 (NF.h4 l0 l1 i12 (IntKind.i64.wrap (i13+1)))))))
  (re (kb Q3) [])
def GM(x0:Sem zr.sl)(x1:Sem zr.sl):=al [Q7] ziO 100000000 (VI x0 x1)
def Lo(x0:Sem zr.sl)(x1:Sem zr.sl):=(GM x0 x1).isSome
def xx(x0:Sem zr.sl)(x1:Sem zr.sl):=o1 (GM x0 x1)
def zd7:=FT [zr.sl,zr.sl] [Q7] λx=>GM x.1 x.2.1
theorem zas:FK 153 zd7:=mM.T1 (f:=Tryz.f153) (keep:=zhf) (e:=zjI)
def Qv:=Qs.addL [(104,zdC),(152,zd6),(153,zd7)]
theorem AI:zw Qv:=mM.addL<|fc ZU<|fc zar<|fc zas jj
def zgp(x0:Sem zo)(x1:Sem zo):Tr (Empty⊕aw):=
 let a0:=x0.1==x1.1
 let a1:=x0.2.2.1==x1.2.2.1
 let a2:=xw x0.2.1 x1.2.1
 let a3:=nM x0.2.2.2.1 x1.2.2.2.1
 let a4:=xx x0.t.1 x1.t.1
 let a5:=zm x0.t.2
 let a6:=zm x1.t.2
 Qc
 (bif a0 then
  bif a1 then Ln x0.2.1 x1.2.1&&bif a2 then GN x0.2.2.2.1 x1.2.2.2.1&&bif a3 then Lo x0.t.1 x1.t.1&&bif a4 then iU 16 a5 a6 else Q3 else Q3 else Q3
  else Q3
 else Q3)
 (re (AV.bool (bif a0 then bif a1 then bif a2 then bif a3 then bif a4 then ff 16 a5 a6 else Q4 else Q4 else Q4 else Q4 else Q4)) [])
def G7(x0:Sem zo)(x1:Sem zo):=al [Q7] t0 100000000 (zgp x0 x1)
def G6(x0:Sem zo)(x1:Sem zo):=(G7 x0 x1).isSome
def rx(x0:Sem zo)(x1:Sem zo):=o1 (G7 x0 x1)
def zdB:=FT [zo,zo] [Q7] λx=>G7 x.1 x.2.1
theorem ZT:FK 103 zdB:=AI.T1 (f:=Tryz.f103) (keep:=k0) (e:=e0)
def Qw:=Qv.add 103 zdB
theorem Ke:zw Qw:=AI.add ZT
def zaV:bT:={Vj with own:=Q3}
theorem Kg:zw zaV:=⟨⟨tc.sh⟩,tc.fs,tc.mix⟩
def zbn(x0:Sem zE):Tr (Empty⊕aw):=
 let a0:=[x0.2.1]
 let a1:=[x0.2.2.1]
 br (!x0.2.2.1==[]) (Qc (Q0 (a0.length+a1.length<=1073741824)) (re (AV.vec 0) [AO.vec Q6 (a0++a1)]))
 (re (AV.vec 0) [AO.vec Q6 a0])
def lr(x0:Sem zE):=al [Sh.str.sl] t0 100000000 (zbn x0)
def jo(x0:Sem zE):=(lr x0).isSome
def kC(x0:Sem zE):=o1 (lr x0)
def YW:=FT [zE] [Sh.str.sl] λx=>lr x.1
theorem Zo:FK 44 YW:=Kg.T1 (f:=Tryz.f44) (keep:=k0) (e:=e0)
theorem Zp:FK 44 YW:=Zo
def Qx:=Qw.add 44 YW
theorem rT:zw Qx:=Ke.add Zp
theorem rq(p:Sem zE):lr p=Q1 (bG p.2.1 p.2.2.1,()):=by
 unfold bG;by_cases h:(p.2.2.1==[])=Q3
 ·rw[if_pos h];refine zM (r:=(.vec 0,[.vec Q6 [p.2.1]])) ?_ rfl;simp only[zbn,Q8,h];rfl
 ·rw[if_neg h];have h:(p.2.2.1==[])=Q4:=by simpa using h
  refine zM (r:=(.vec 0,[.vec Q6 ([p.2.1]++[p.2.2.1])])) ?_ rfl;simp only[zbn,Q8,h];rfl
theorem rp(p:Sem zE):jo p=Q3:=by unfold jo;rw[rq];rfl
theorem tP(p:Sem zE):kC p=bG p.2.1 p.2.2.1:=by unfold kC;rw[rq];rfl
theorem xk(x:zA):∀(l:List zA)(i:Nat),GE.ge (α:=Int) (ia x l (i:Int)) 0↔x∈l
 | [],i=>by
  rw[ia];exact⟨λh=>absurd h (by decide),λh=>by cases h⟩
 | a::r,i=>by
  rw[ia];split
  ·rename_i h;have:x=a:=by simpa using h
   subst this;exact⟨λ_=>sJ,λ_=>Int.natCast_nonneg i⟩
  ·rename_i h;have:=xk x r (i+1);rw[sM]at this;rw[ce];refine⟨λh2=>.inr (this.1 h2),λh2=>this.2 (h2.resolve_left ?_)⟩;rintro rfl;simp at h
theorem kv(l:List zA)(x:zA):az l x=Q3↔x∈l:=by
 unfold az;rw[decide_eq_true_iff];exact xk x l 0
theorem Gz{l:List zA}{s:zA}(hl:l.length<=1000000):xu l s=Q3/\Ji l s=az l s:=by
 have key:M8 l s=Q1 (az l s,()):=by
  rcases lN (t:=Ly) (Φ:=λr=>r=(.kb Q3,[])) 1 (λi=>.h2 l s (i:Int)) (λi=>∀h:i<l.length,l[i]≠s) l.length (λi hi _=>by
   have hv:(Ly (.h2 l s (i:Int))).val=if(l[i]==s)=Q3 then Q1 (.inr (.kb Q3,[]))else Q1 (.inl (.h2 l s ((i+1:Nat):Int))):=by
    show(Ly (.h2 _ _ _)).val=_;simp only[Ly,Q8,ac _ _ hi,zH hi,zu hi,if_true];rw[zq i um]
   by_cases h:l[i]=s
   ·exact .inr ⟨λk=>k hi h,_,zV.of (by rw[hv,if_pos (by simpa using h)]),rfl⟩
   ·exact .inl ⟨λ_=>h,zR.of (by rw[hv,if_neg (by simpa using h)])⟩)with⟨h1,h2⟩|⟨h1,r,h2,rfl⟩
  ·have hn:az l s=Q4:=by
    rw[<-gJ,kv];intro hm;obtain⟨j,hj,e⟩:=gY hm;exact h1 j hj hj e
   rw[hn];refine zx (s:=.h2 l s 0) rfl (h2.ends (zV.of (r:=(.kb Q4,[])) ?_)) ow rfl;show(Ly (.h2 _ _ _)).val=_;simp only[Ly,Q8,zz];rfl
  ·have hn:az l s=Q3:=by
    rw[kv];apply rF;intro hm;exact h1 λi _ hi e=>hm (e▸bC hi)
   rw[hn];exact zx (s:=.h2 l s 0) rfl h2 ow rfl
 exact⟨by unfold xu;rw[key];rfl,by unfold Ji;rw[key];rfl⟩
theorem xi{α:Type}(p:α->Bool):∀(l:List α)(i:Nat),(!Q0 (ae p l i>=0))=Q3↔∀x∈l,p x=Q4
 | [],i=>by
  refine⟨λ_ x hx=>(by cases hx),λ_=>?_⟩;rw[ae];rfl
 | y::r,i=>by
  refine⟨λh=>oQ p _ i h,λh=>?_⟩;rw[ae,h y sw];exact(xi p r (i+1)).2 λx hx=>h x (by simp[hx])
theorem En{α:Type}(p:α->Bool)(l:List α):Q0 (GE.ge (α:=Int) (ae p l 0) 0)=Q3↔∃x∈l,p x=Q3:=by
 have h:=xi p l 0;constructor
 ·intro h1;apply rF;intro h2;have:=h.2 λx hx=>by
   cases hp:p x
   ·rfl
   ·exact absurd ⟨x,hx,hp⟩ h2
  rw[h1]at this;cases this
 ·rintro⟨x,hx,hp⟩;cases h1:Q0 (GE.ge (α:=Int) (ae p l 0) 0)
  ·have:=h.1 (by rw[h1];rfl) x hx;rw[hp]at this;cases this
  ·rfl
theorem F4{db:List (Sem zh)}{ns:List zA}(hl:db.length<=1000)(hr:∀x∈db,(x:Sem zh).1.t.1.length<=1000)(hn:ns.length<=1000000):m4 db ns=Q1 (dL db ns,()):=by
 have hin:∀i(hi:i<db.length),(¬(!az ns db[i].1.1&&Q0 (GE.ge (α:=Int) (ae (λf:Sem zr=>az ns f.2) db[i].1.t.1 0) 0))=Q3/\zR pk 1002 (.h2 db ns (i:Int)) (.h2 db ns ((i+1:Nat):Int)))\/
   ((!az ns db[i].1.1&&Q0 (GE.ge (α:=Int) (ae (λf:Sem zr=>az ns f.2) db[i].1.t.1 0) 0))=Q3/\zV pk 1002 (.h2 db ns (i:Int)) (.kb Q3,[])):=by
  intro i hi;have hx:=hr _ (bC hi);have g:db.getD (i:Int).toNat (zi zh)=db[i]:=ac _ _ hi;have h0:zR pk 1 (.h2 db ns (i:Int)) (.h5 db ns (i:Int) ((0:Nat):Int)):=zR.of (by
   show(pk (.h2 _ _ _)).val=_;simp only[pk,Q8,zH hi,if_true];rfl)
  obtain⟨c1,c2⟩:=Gz (l:=ns) (s:=db[i].1.1) hn;have hN:(pk (.h5 db ns (i:Int) (db[i].1.t.1.length:Int))).val=Q1 (.inl (.h2 db ns ((i+1:Nat):Int))):=by
   show(pk (.h5 _ _ _ _)).val=_;simp only[pk,Q8,g,zz,zu hi,if_true];rw[zq i um];rfl
  rcases lN (t:=pk) (Φ:=λr=>r=(.kb Q3,[])) 1 (λj=>.h5 db ns (i:Int) (j:Int)) (λj=>∀h:j<db[i].1.t.1.length,¬(!az ns db[i].1.1&&az ns (db[i].1.t.1[j]).2)=Q3) db[i].1.t.1.length (λj hj _=>by
   have gj:getD db[i].1.t.1 (j:Int).toNat (zi zr)=db[i].1.t.1[j]:=ac _ _ hj;obtain⟨d1,d2⟩:=Gz (l:=ns) (s:=(db[i].1.t.1[j]).2) hn;have hv:(pk (.h5 db ns (i:Int) (j:Int))).val=if(!az ns db[i].1.1&&az ns (db[i].1.t.1[j]).2)=Q3 then Q1 (.inr (.kb Q3,[]))else Q1 (.inl (.h5 db ns (i:Int) ((j+1:Nat):Int))):=by
    show(pk (.h5 _ _ _ _)).val=_;simp only[pk,Q8,g,gj,zH hj,zu hi,zu hj,c1,c2,d1,d2,if_true,dF];rw[zq j um];cases az ns db[i].1.1<;>cases az ns (db[i].1.t.1[j]).2<;>rfl
   by_cases h:(!az ns db[i].1.1&&az ns (db[i].1.t.1[j]).2)=Q3
   ·exact .inr ⟨λk=>k hj h,_,zV.of (by rw[hv,if_pos h]),rfl⟩
   ·exact .inl ⟨λ_=>h,zR.of (by rw[hv,if_neg h])⟩)with⟨h1,h2⟩|⟨h1,r,h2,rfl⟩
  ·refine .inl ⟨?_,((h0.trans h2).trans (zR.of hN)).mono ow⟩;intro h;simp only[aD,En]at h;obtain⟨a1,f,hf,a2⟩:=h;obtain⟨j,hj,rfl⟩:=gY hf;exact h1 j hj hj (by rw[a1,a2];rfl)
  ·refine .inr ⟨?_,(h0.ends h2).mono ow⟩;apply rF;intro h;refine h1 λj _ hj hc=>h ?_
   simp only[aD]at hc;simp only[aD,En];exact⟨hc.1,_,bC hj,hc.2⟩
 rcases lN (t:=pk) (Φ:=λr=>r=(.kb Q3,[])) 1002 (λi=>.h2 db ns (i:Int)) (λi=>∀h:i<db.length,¬(!az ns db[i].1.1&&Q0 (GE.ge (α:=Int) (ae (λf:Sem zr=>az ns f.2) db[i].1.t.1 0) 0))=Q3) db.length (λi hi _=>by
  rcases hin i hi with⟨h1,h2⟩|⟨h1,h2⟩
  ·exact .inl ⟨λ_=>h1,h2⟩
  ·exact .inr ⟨λk=>k hi h1,_,h2,rfl⟩)with⟨h1,h2⟩|⟨h1,r,h2,rfl⟩
 ·have hb:dL db ns=Q4:=by
   unfold dL;rw[List.any_eq_false];intro x hx;obtain⟨j,hj,rfl⟩:=gY hx;exact h1 j hj hj
  rw[hb];have hv:(pk (.h2 db ns (db.length:Int))).val=Q1 (.inr (.kb Q4,[])):=by
   show(pk (.h2 _ _ _)).val=_;simp only[pk,Q8,zz];rfl
  exact zx (s:=.h2 db ns 0) rfl (h2.ends (zV.of hv)) ow rfl
 ·have hb:dL db ns=Q3:=by
   unfold dL;apply rF;intro h;rw[gJ,List.any_eq_false]at h;exact h1 λi _ hi=>h _ (bC hi)
  rw[hb];exact zx (s:=.h2 db ns 0) rfl h2 ow rfl
theorem IW{db:List (Sem zh)}{ns:List zA}(hl:db.length<=1000)(hr:∀x∈db,(x:Sem zh).1.t.1.length<=1000)(hn:ns.length<=1000000):su db ns=Q3/\wh db ns=dL db ns:=by
 have h:=F4 hl hr hn;exact⟨by unfold su;rw[h];rfl,by unfold wh;rw[h];rfl⟩
end
end Cad
