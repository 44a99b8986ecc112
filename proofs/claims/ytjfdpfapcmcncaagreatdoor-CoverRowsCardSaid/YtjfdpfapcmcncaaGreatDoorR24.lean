/- Cover. -/
import Derived.Test.YtjfdpfapcmcncaaGreatDoorR23
namespace Cad
open Go Go.Proofs
open List renaming length→Io
open Tr (chk br re)
open AV (nils agg tup ptr kb str sl)
set_option maxHeartbeats 4000000
set_option maxRecDepth 100000
section
variable {p:Sem zq} {A S:List (List (Sem ze))} {key:Sem ze} {f:Int} {b:Bool}
theorem zpP(W:AP p.2.2.2.1)(T:dp p.2.2.2.1=true)(z:∀r∈A,pG p.2.2.2.1.2.2.1 r/\Io r<=1000)(O:Io A<=1000)(C:oZ p.2.2.2.1.2.2.1 A)(L:∀r∈S,r∈A)(U:Io S<=1000){i:Nat}(B:i<Io S)(n:Nat)(Y:n<=1000):
  zL t5v 1 (.h11 f b (n:Int) (i:Int) (p,()) ((p.2.2.2.1,A),()) ((p.2.2.2.1,S),()) (key,())) (.h11 f b ((ite (pB (zE p.2.2.2.1.2.2.1 S[i]) key=true) (n+1) n:Nat):Int) ((i+1:Nat):Int) (p,()) ((p.2.2.2.1,A),()) ((p.2.2.2.1,S),()) (key,())):=zL.of (by
 have h:=L _ (aK B);obtain⟨j,G,I,J⟩:=Nq C (λr h=>(z r h).1.1) h;have o:=rZ (x:=(p.2.2.2.1,A)) (v:=zE p.2.2.2.1.2.2.1 S[i]) W T (λr h=>(z r h).1.1) O;have E:kD (p.2.2.2.1,A) (zE p.2.2.2.1.2.2.1 S[i])=true:=by unfold kD;rw[o];rfl
 have F:oO (p.2.2.2.1,A) (zE p.2.2.2.1.2.2.1 S[i])=(j:Int):=by unfold oO;rw[o];exact I
 obtain⟨X,H⟩:=S6 S[i] S[i] (by have:=(z _ h).2;omega);rw[Bi.2 rfl]at H;have u:decide (LT.lt (α:=Int) (j:Int) 0)=false:=aq ow;have D:List.getD S[i] (Int.toNat p.2.2.2.1.2.2.1) (zi ze)=zE p.2.2.2.1.2.2.1 S[i]:=rfl;have M:((zE p.2.2.2.1.2.2.1 S[i]).1==key.1&&((zE p.2.2.2.1.2.2.1 S[i]).2.1==key.2.1&&((zE p.2.2.2.1.2.2.1 S[i]).2.2==key.2.2&&true)))=pB (zE p.2.2.2.1.2.2.1 S[i]) key:=rfl;simp only[t5v,Tr.val,zk,Prod.eta,zF B,zt B,zH _ _ B,(z _ h).1.1,D,E,F,u,zt G,zH _ _ G,J,X,H,M,ao,sU,bA,zA,if_true,if_false];rw[zr i um,zr n um];split<;>rfl)
theorem zpK(G:AP p.2.2.2.1)(F:S≠[]->dp p.2.2.2.1=true)(B:∀r∈A,pG p.2.2.2.1.2.2.1 r/\Io r<=1000)(E:Io A<=1000)(h:oZ p.2.2.2.1.2.2.1 A)(C:∀r∈S,r∈A)(o:Io S<=1000):
  zL t5v (Io S*1) (.h11 f b 0 0 (p,()) ((p.2.2.2.1,A),()) ((p.2.2.2.1,S),()) (key,())) (.h11 f b ((S.filter λr=>pB (zE p.2.2.2.1.2.2.1 r) key).length:Int) (Io S:Int) (p,()) ((p.2.2.2.1,A),()) ((p.2.2.2.1,S),()) (key,())):=by
 have u:=zL.all (t:=t5v) 1 (λi=>.h11 f b (((S.take i).filter λr=>pB (zE p.2.2.2.1.2.2.1 r) key).length:Int) (i:Int) (p,()) ((p.2.2.2.1,A),()) ((p.2.2.2.1,S),()) (key,())) (Io S) λi z=>by
  have D:((S.take (i+1)).filter λr=>pB (zE p.2.2.2.1.2.2.1 r) key).length=if pB (zE p.2.2.2.1.2.2.1 S[i]) key=true then((S.take i).filter λr=>pB (zE p.2.2.2.1.2.2.1 r) key).length+1 else((S.take i).filter λr=>pB (zE p.2.2.2.1.2.2.1 r) key).length:=by
   rw[bg z,List.filter_append,ip,List.filter_cons];split<;>simp
  rw[D];exact zpP G (F (List.ne_nil_of_length_pos ow)) B E h C o z _ (bt (List.length_filter_le _ _) sg)
 simp only[fI,List.take_zero,List.filter_nil,iq]at u;exact u
end
theorem Uv{O:List (Sem zh)}{T:Sem zn}{B:zf}(hx:∀r∈O,RgR r)(h1:RgS T):Bm O T B=some (true,()):=by
 obtain⟨p,h0,ok,h,Y⟩:=Xx hx h1;have hc:yg O T=true:=by unfold yg;rw[h];rfl
 have hp:DB O T=(p,h0,ok):=by unfold DB;rw[h];rfl
 cases ok with
 | false=>
  refine zM (r:=(.bool true,[])) ?_ rfl;simp only[i5v,zk,Prod.eta,Tr.val,hc,hp,cA,if_true,CE.2]
 | true=>
  obtain⟨o,C,rfl,W,J⟩:=Y rfl;have h2:=C.rel.few;obtain⟨a1,a2⟩:=C.qAll W;have M:(cv p (zI o p)).length<=1000:=by have:=C.few;omega
  have D:∀u∈cv p (zI o p),u.1≠0:=λu z=>C.ne0 z
  have E:(Fb o p (dw B)).Nodup/\∀u∈Fb o p (dw B),u∈cv p (zI o p):=by
   unfold Fb;split
   ·split
    ·exact⟨List.nodup_nil,λu z=>by cases z⟩
    ·rename_i hz;refine⟨sw,λu z=>?_⟩;rw[eD]at z;subst z;exact P1 C _ (by simpa using hz)
   ·exact⟨C.nodup,λu z=>z⟩
  obtain⟨s1,s2⟩:=Ya C J C.nodup D M;obtain⟨t1,t2⟩:=Ya C J E.1 (λu z=>D u (E.2 u z)) (bt (zbQ C (dw B)) M);obtain⟨u1,u2⟩:=Yr C (dw B);have U:=A9 p (dw B);have F:∀I:List (Sem ze),I.Nodup->(∀u∈I,u∈cv p (zI o p))->(jP (zE p.2.2.2.1.2.2.1) (I.flatMap (dJ o p))).length<=1000/\(∀r∈jP (zE p.2.2.2.1.2.2.1) (I.flatMap (dJ o p)),(pG p.2.2.2.1.2.2.1 r/\Io r<=1000)/\dp p.2.2.2.1=true)/\oZ p.2.2.2.1.2.2.1 (jP (zE p.2.2.2.1.2.2.1) (I.flatMap (dJ o p))):=λI hn z=>by
   refine⟨?_,λr G=>?_,Nr (jr _).symm (AJ C J hn z)⟩
   ·rw[(jr _).length_eq];have:=Pt (db:=o) (p:=p) I hn λu q=>D u (z u q)
    omega
   ·obtain⟨u,z,L⟩:=uJ.1 ((jr _).mem_iff.1 G);obtain⟨g1,g2,g3⟩:=Ls C J r L;refine⟨⟨g2,?_⟩,g3⟩;have:=(cL g1).1;have:=J.wf.ncols;omega
  have H:∀r∈jP (zE p.2.2.2.1.2.2.1) ((Fb o p (dw B)).flatMap (dJ o p)),r∈jP (zE p.2.2.2.1.2.2.1) ((cv p (zI o p)).flatMap (dJ o p)):=λr G=>by
   obtain⟨u,z,L⟩:=uJ.1 ((jr _).mem_iff.1 G);exact(jr _).mem_iff.2 (uJ.2 ⟨u,E.2 u z,L⟩)
  obtain⟨r1,r2,r3⟩:=F _ C.nodup λu z=>z
  obtain⟨q1,q2,q3⟩:=F _ E.1 E.2;have Z:(i5v O T B).val=some (.inl (.h11 0 (dI p (dw B)).2 0 0 (p,()) ((p.2.2.2.1,jP (zE p.2.2.2.1.2.2.1) ((cv p (zI o p)).flatMap (dJ o p))),()) ((p.2.2.2.1,jP (zE p.2.2.2.1.2.2.1) ((Fb o p (dw B)).flatMap (dJ o p))),()) ((dI p (dw B)).1,()))):=by
   simp only[i5v,zk,Prod.eta,Tr.val,hc,hp,a1,a2,s1,s2,u1,u2,t1,t2,U,bA,zA,if_true,if_false]
  generalize jP (zE p.2.2.2.1.2.2.1) ((cv p (zI o p)).flatMap (dJ o p))=A at Z r1 r2 r3 H;generalize jP (zE p.2.2.2.1.2.2.1) ((Fb o p (dw B)).flatMap (dJ o p))=S at Z q1 q2 q3 H;have L:=zpK (f:=0) (b:=(dI p (dw B)).2) (key:=(dI p (dw B)).1) J.wf (λX=>by
   obtain⟨r,G⟩:=List.exists_mem_of_ne_nil _ X;exact(q2 r G).2) (λr G=>(r2 r G).1) r1 r3 H q1
  have h3:=RM q3 (dI p (dw B)).1;refine zy Z (L.ends (zV.of (r:=(AV.bool true,[])) ?_)) ow rfl;have hd:decide (LE.le (α:=Int) ((S.filter λr=>pB (zE p.2.2.2.1.2.2.1 r) (dI p (dw B)).1).length:Int) 1)=true:=zx ow;simp only[t5v,Tr.val,zB,hd,CE.1,CE.2,beq_self_eq_true,af,zA,if_false];cases(dI p (dw B)).2<;>rfl
theorem R8(x:zz ([.sl zh,zn,.expr].map some)){W:World}{vs:List Value}(B:dA W U0 iV (jB ([.sl zh,zn,.expr].map some) x) vs):(F5v (jB ([.sl zh,zn,.expr].map some) x) (λ_=>.dead) 0).val=some {val:=.bool true}:=by
 obtain⟨o,s,g,u⟩:=x;have B:dA W U0 iV [.sl zh o,zC zn s,zC .expr g] vs:=B;have G:=B.len;have z:∀j c,([.sl zh o,zC zn s,zC .expr g]:List AV)[j]?=some c->∃v,Rv W U0 iV c v:=λj c D=>by
  have C:j<Io vs:=by rw[<-G];exact(dn.1 D).1
  exact⟨vs[j],B.rv j c _ D (zU C)⟩
 obtain⟨H,E⟩:=z 0 _ rfl;obtain⟨I,F⟩:=z 1 _ rfl;have e:s=(s.1,s.2.1,s.2.2.1,s.2.2.2.1,s.t.1,s.t.2.1,s.t.q.1,s.t.q.2.1,zm s.t.t.1,s.t.t.2.1,s.t.t.q.1,zm s.t.t.q.2.1,s.t.t.t):=by rw[zk,zk]
 have h:(F5v [.sl zh o,zC zn s,zC .expr g] (λ_=>.dead) 0).val=(chk (Bm o (s.1,s.2.1,s.2.2.1,s.2.2.2.1,s.t.1,s.t.2.1,s.t.q.1,s.t.q.2.1,zm s.t.t.1,s.t.t.2.1,s.t.t.q.1,zm s.t.t.q.2.1,s.t.t.t) (zm g)).isSome (Tr.ok ({val:=.bool ((Bm o (s.1,s.2.1,s.2.2.1,s.2.2.2.1,s.t.1,s.t.2.1,s.t.q.1,s.t.q.2.1,zm s.t.t.1,s.t.t.2.1,s.t.t.q.1,zm s.t.t.q.2.1,s.t.t.t) (zm g)).getD (bQ [.bool])).1}:fT))).val:=by kernel_rfl
 show(F5v [.sl zh o,zC zn s,zC .expr g] (λ_=>.dead) 0).val=_;rw[h,<-e,zk,Uv (sm E · · |>zho) (zhp (T8 F))];rfl
end Cad
