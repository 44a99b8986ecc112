/- Rows. -/
import Derived.Test.YtjdjldbhjmgmkaaGreatDoorN24
import Derived.Test.YtjdjldbhjmgmkaaGreatDoorRows
import Derived.OpenShut
import Derived.ProofKit
namespace Cad
open Go Go.Proofs Tryz
open List renaming length->Io,length->N
open IntKind renaming wrap->Γ,i64->Δ
open Tr renaming val->Q8,chk->I
open Sh renaming bool->Q7
open Bool renaming false->Q4,true->Q3,false->M,true->Z
open Option renaming some->Q1,some->Y
open Decidable renaming decide->Q0
open Int renaming toNat->W
open List renaming getD->T
open Tr (chk br re)
open AV (nils agg tup ptr kb sl)
open AV renaming str->X,sl->O
open Cad renaming ow->S,Sem->L,ze->R,zj->Q,ai->J
set_option maxHeartbeats 4000000
noncomputable section
def DV(k:Int)(a b:Nat)(l h:List zr):Prop:=h.Perm l/\BC (dm l) (dm h) a b/\Up (rc k) (dm h) a b
section
variable (o:SM) (k:Int)
theorem U7{D:Nat}(hO:∀(l:List zr)(a m b:Nat),N l<=1000->a<m->m<b->b<=N l->b-a<=D->Up (rc k) (dm l) a m->Up (rc k) (dm l) m b->∃l',o l a m b k=Y l'/\DV k a b l l')
  (l:List zr) (a m b x n s e:Nat) (p:Int) (hn:N l<=1000) (hb:b<=N l) (he:n=s+e) (x4:n<=2000) (x5:n=x+m)
  (h1:a<=s) (h2:e<=b) (h3:x-a<=D) (h4:b-x<=D) (h9:x<=b) (hs:s<=m) (hm:m<=e) (h8:a<=x)
  (u1:Up (rc k) (dm l) a m) (u2:Up (rc k) (dm l) m b) (d1:s=a\/e=b\/rc k (dm l (s-1)) (dm l e)) (d2:s=m\/e=m\/rc k (dm l (e-1)) (dm l s)):
  ∃l',DV k a b l l'/\(cv o (.h33 (a:Int) (m:Int) (b:Int) k (x:Int) (n:Int) (s:Int) (s:Int) p l)).val=Y (.inr (.tup [],[.vec ze.sl l'])):=by
 have e0:Γ Δ ((n:Int)-(s:Int))=(e:Int):=by rw[wI _ S S];omega
 have e1:Q0 ((s:Int)<(s:Int))=M:=by simp
 obtain⟨g,p1,f1,F⟩:∃g,g.Perm l/\dm g=uG (dm l) m (m-s) (e-m)/\(ite (s<m/\m<e) (Mu l s m e k=Y g) (g=l)):=by
  by_cases h:s<m/\m<e
  .have⟨g,z,A,q3⟩:=zwA l s m e k hn h.1 h.2 S;exact⟨g,A,q3,by rw[zf h];exact z⟩
  .refine⟨l,.refl l,?_,by rw[zh h]⟩;funext t;unfold uG;split
   .congr 1;omega
   .split
    .congr 1;omega
    .rfl
 have x0:=p1.length_eq;have g1:∀i,i<s->dm g i=dm l i:=λi hi=>by
  rw[f1];unfold uG;rw[zh S,zh S]
 have g2:∀i,s<=i->i<x->dm g i=dm l (i+(m-s)):=λi z A=>by
  rw[f1];unfold uG;rw[zf S]
 have g3:∀i,x<=i->i<e->dm g i=dm l (i-(e-m)):=λi z A=>by
  rw[f1];unfold uG;rw[zh S,zf S]
 have g4:∀i,e<=i->dm g i=dm l i:=λi hi=>by
  rw[f1];unfold uG;rw[zh S,zh S]
 have h7:BC (dm l) (dm g) a b:=by
  refine⟨λi hi=>?_,λi z A=>?_⟩
  .by_cases c:i<s
   .exact g1 i c
   .exact g4 i S
  .by_cases c:i<s
   .exact⟨i,z,A,g1 i c⟩
   .by_cases c':i<x
    .exact⟨_,S,S,g2 i S c'⟩
    .by_cases h6:i<e
     .exact⟨_,S,S,g3 i S h6⟩
     .exact⟨i,z,A,g4 i S⟩
 have⟨w1,w2,w3,w4,w5⟩:=WU (oW k) u1 u2 (by omega:s+e=x+m) h1 hs hm h2 d1 d2 g1 g2 g3 g4;obtain⟨v,G,C⟩:∃v,DV k a x g v/\(ite (a<s/\s<x) (o g a s x k=Y v) (v=g)):=by
  by_cases h:a<s/\s<x
  .have⟨v,z,A⟩:=hO g a s x S h.1 h.2 S h3 w1 w2;exact⟨v,A,by rw[zf h];exact z⟩
  .refine⟨g,⟨.refl g,BC.refl,?_⟩,by rw[zh h]⟩;by_cases c:a<s
   .have:x<=s:=by omega
    exact w1.part (zR _) S
   .exact w2.part S (zR _)
 have x3:=G.1.length_eq;have h0:Up (rc k) (dm v) x e:=w3.same λi z A=>G.2.1.1 i S
 have h5:Up (rc k) (dm v) e b:=w4.same λi z A=>G.2.1.1 i S
 obtain⟨E,p5,j⟩:∃E,DV k x b v E/\(ite (x<e/\e<b) (o v x e b k=Y E) (E=v)):=by
  by_cases h:x<e/\e<b
  .have⟨E,z,A⟩:=hO v x e b S h.1 h.2 S h4 h0 h5;exact⟨E,A,by rw[zf h];exact z⟩
  .refine⟨v,⟨.refl v,BC.refl,?_⟩,by rw[zh h]⟩;by_cases c:x<e
   .exact h0.part (zR _) S
   .exact h5.part S (zR _)
 have⟨x1,x2⟩:=RZ w5 h8 h9 G.2.1 G.q p5.2.1 p5.q;refine⟨E,⟨(p5.1.trans G.1).trans p1,h7.trans x2,x1⟩,?_⟩;simp only[cv,Q8,e0,e1,Ts,zA,zm];by_cases B:s<m/\m<e
 .rw[zf B]at F;by_cases y:a<s/\s<x
  .rw[zf y]at C;by_cases d:x<e/\e<b
   .rw[zf d]at j;simp only[zC B,zC y,zC d,F,C,j,dz,bK,zi]
   .rw[zh d]at j;subst j;simp only[zC B,zC y,aC d,F,C,dz,bK,zi,zA,zm]
  .rw[zh y]at C;subst C;by_cases d:x<e/\e<b
   .rw[zf d]at j;simp only[zC B,aC y,zC d,F,j,dz,bK,zi,zA,zm]
   .rw[zh d]at j;subst j;simp only[zC B,aC y,aC d,F,dz,bK,zi,zA,zm]
 .rw[zh B]at F;subst F;by_cases y:a<s/\s<x
  .rw[zf y]at C;by_cases d:x<e/\e<b
   .rw[zf d]at j;simp only[aC B,zC y,zC d,C,j,dz,bK,zi,zA,zm]
   .rw[zh d]at j;subst j;simp only[aC B,zC y,aC d,C,dz,bK,zi,zA,zm]
  .rw[zh y]at C;subst C;by_cases d:x<e/\e<b
   .rw[zf d]at j;simp only[aC B,aC y,zC d,j,dz,bK,zi,zA,zm]
   .rw[zh d]at j;subst j;simp only[aC B,aC y,aC d,zA,zm]
end
theorem zo1(k:Int):∀(h:Nat)(l:List zr)(a m b:Nat),N l<=1000->a<m->m<b->b<=N l->b-a<=2^h->Up (rc k) (dm l) a m->Up (rc k) (dm l) m b->∃n,vp h l a m b k=Y n/\DV k a b l n
 |0,_,a,m,b,_,h1,h2,_,h4,_,_=>by simp at h4;omega
 | h + 1,l,a,m,b,A,h1,h2,h3,h4,u1,u2=>by
  have hO:=zo1 k h;have e0:Γ Δ ((m:Int)-(a:Int))=((m-a:Nat):Int):=by rw[wI _ S S];omega
  have e1:Γ Δ ((b:Int)-(m:Int))=((b-m:Nat):Int):=by rw[wI _ S S];omega
  by_cases c1:m-a=1
  .obtain rfl:m=a+1:=by omega
   have⟨i',q1,C,E,F,G⟩:=zoZ (vp h) k l a (a+1) b A h1 h3 u2 (b-(a+1)) (a+1) b (zR _) (zR _) S (zR _) (λc d g=>by omega) (λc d g=>by omega);have⟨n,r1,t,r3⟩:=zo0 (vp h) (dm l) a i' (N l) A S S (i'-a) a l rfl (zR _) (zR _) S zgK.symm;refine⟨n,sF ?_,r1,by rw[t];exact zpb S C,by rw[t];exact zwT u2 S C (λc d g=>FC (E c d g)) λc d g=>p6.2 (F c d g)⟩;have j:(((a+1-a:Nat):Int)==1)=Z:=by rw[c1];rfl
   unfold bT;simp only[qP,Q8,e0,j,zi];exact(G.ends r3) 100000000 S
  have j:(((m-a:Nat):Int)==1)=M:=by simp;omega
  by_cases c2:b-m=1
  .obtain rfl:b=m+1:=by omega
   have⟨i',q1,C,E,F,G⟩:=zgn (vp h) k l a m A S u1 (m-a) a m (zR _) (zR _) S (zR _) (λc d g=>by omega) (λc d g=>by omega);have⟨n,r1,t,r3⟩:=zgo (vp h) (dm l) i' m (N l) A S (m-i') m l rfl (zR _) C (zR _) zeR.symm;refine⟨n,sF ?_,r1,by rw[t];exact zmO q1 C S,by rw[t];exact zsW u1 q1 C (λc d g=>p6.2 (E c d g)) λc d g=>FC (F c d g)⟩;have q:(((m+1-m:Nat):Int)==1)=Z:=by rw[c2];rfl
   unfold bT;simp only[qP,Q8,e0,e1,j,q,zi,zA,zm];exact(G.ends r3) 100000000 S
  have q:(((b-m:Nat):Int)==1)=M:=by simp;omega
  have e2:=nD a b S;have z:a<=(a+b)/2/\(a+b)/2<=b/\2*((a+b)/2)<=a+b/\a+b<=2*((a+b)/2)+1:=by omega
  generalize(a+b)/2=x at e2 z;have⟨g1,g2,g3,g4⟩:=z;have hD:x-a<=2^h/\b-x<=2^h:=by rw[pD]at h4;omega
  have e3:Γ Δ ((x:Int)+(m:Int))=((x+m:Nat):Int):=by rw[wI _ S S];omega
  have e4:Γ Δ (((x+m:Nat):Int)-1)=((x+m-1:Nat):Int):=by rw[wI _ S S];omega
  have B:∀lo r0,a<=lo->r0<=m->r0<=x->x+m<=lo+b->∀c v,lo<=v->v<=c->c<r0->¬ma k (dm l (x+m-1-c)) (dm l c)->¬ma k (dm l (x+m-1-v)) (dm l v):=λlo r0 y1 y2 y3 y4 c v d g x3 x4=>by
   by_cases e:v=c
   .subst e;exact x4
   .have z1:=u1 v c S S S;have z2:=u2 (x+m-1-c) (x+m-1-v) S S S;exact p6.1 (oW k _ _ _ z1 (oW k _ _ _ (p6.2 x4) z2))
  by_cases c3:x<m
  .have e5:Γ Δ (((x+m:Nat):Int)-(b:Int))=((x+m-b:Nat):Int):=by rw[wI _ S S];omega
   have D:Q0 ((m:Int)>(x:Int))=Z:=AN c3;have⟨s,q1,C,E,F,G⟩:=U8 (vp h) k l a m b x (x+m) (x+m-1) (x+m-b) x A S S (λc u1 u2=>by omega) (B _ _ S S S S) (x-(x+m-b)) (x+m-b) x (zR _) (zR _) S (zR _) (λc d g=>by omega) (λc d g=>by omega);have⟨n,r1,t⟩:=U7 (vp h) k hO l a m b x (x+m) s (x+m-s) ((x+m-1:Nat):Int) A h3 S S rfl S S hD.1 hD.2 g2 S S g1 u1 u2 (by
    by_cases y:s=x+m-b
    .exact .inr (.inl S)
    .have:=E (s-1) S S;rw[show x+m-1-(s-1)=x+m-s by omega]at this;exact .inr (.inr (p6.2 this))) (by
    by_cases y:s=x
    .exact .inr (.inl S)
    .have:=F s (zR _) S;rw[show x+m-1-s=x+m-s-1 by omega]at this;exact .inr (.inr (FC this)))
   refine⟨n,sF ?_,r1⟩;unfold bT;simp only[qP,Q8,e0,e1,e2,e3,e4,e5,j,q,D,zi,zA,zm];exact(G.ends (zV.of t)) 100000000 S
  .have D:Q0 ((m:Int)>(x:Int))=M:=by simp;omega
   have⟨s,q1,C,E,F,G⟩:=U8 (vp h) k l a m b x (x+m) (x+m-1) a m A S S (λc u1 u2=>by omega) (B _ _ S S S S) (m-a) a m (zR _) (zR _) S (zR _) (λc d g=>by omega) (λc d g=>by omega);have⟨n,r1,t⟩:=U7 (vp h) k hO l a m b x (x+m) s (x+m-s) ((x+m-1:Nat):Int) A h3 S S rfl S S hD.1 hD.2 g2 S S g1 u1 u2 (by
    by_cases y:s=a
    .exact .inl y
    .have:=E (s-1) S S;rw[show x+m-1-(s-1)=x+m-s by omega]at this;exact .inr (.inr (p6.2 this))) (by
    by_cases y:s=m
    .exact .inl y
    .have:=F s (zR _) S;rw[show x+m-1-s=x+m-s-1 by omega]at this;exact .inr (.inr (FC this)))
   refine⟨n,sF ?_,r1⟩;unfold bT;simp only[qP,Q8,e0,e1,e2,e3,e4,j,q,D,zi,zA,zm];exact(G.ends (zV.of t)) 100000000 S
theorem FY(a:zo):an a a=(0:Int):=by unfold an;show HW [rF (ah a).1 (ah a).1,kH (ah a).2.1 (ah a).2.1,oI (ah a).q (ah a).q]=(0:Int);rw[<-Lk,zf sw]
def s16(l:zT)(i:Int)(p:zY):zr->gC
 |[]=>.h3 l i (p,())
 |a::r=>.h3b l i (p,()) (a::r)
section
variable {l:List (L zl)} {p:L zZ} {u:L R} {acc:List (L R)} {i:Nat}
theorem zjt (hl:Io acc≤1000) (hi:i≤1000) (hu:Io u.q≤1000000) (hm:∀ o∈acc,Io o.q≤1000000∧(an o u=(0:Int)→o=u)):
    ∀ (j:zr) (k:Nat),acc.drop k=j→k≤Io acc→∀ (d:Bool) (n:zr),Io n≤2 * k→∀ s,(s=gC.h9bb l (i:Int) (k:Int) (p,()) (u,()) acc n∧d=Q3∨s=gC.h9bbb l (i:Int) d (k:Int) (p,()) (u,()) acc n)→
      zG ia (N j+1) s (.h3b l ((i+1:Nat):Int) (p,()) (n++if d=Z then j else fZ u j))
  | [],k,F,hk,d,n,hn,s,G=>by
    have h:k=N acc:=by
      have:=congrArg N F;simp at this;omega
    have hc:Q0 (N n+[u].length<=1073741824)=Z:=by simp;omega
    subst h;rcases G with⟨rfl,rfl⟩|rfl
    · grind[zG.of,ia,Q8,zt,aF]
    · refine zG.of ?_
      simp only[ia,Q8,zJ,zA,zm,hc,zi];rw[zt i um];cases d
      · rfl
      · rw[zf rfl,rx];rfl
  | o :: r, k,F,hk,d,n,hn,s,G=>by
    have h:k<N acc:=by
      have:=congrArg N F;simp at this;omega
    have ho:acc[k]=o:=by
      have:=gF h;rw[F]at this;exact(List.cons.inj this).1.symm
    have h4:acc.drop (k+1)=r:=by
      have:=gF h;rw[F]at this;exact(List.cons.inj this).2.symm
    have⟨m1,m2⟩:=hm o (ho▸bh h);have h1:Q0 (N n+[u].length<=1073741824)=Z:=by simp;omega
    have B:Q0 (N n+[o].length<=1073741824)=Z:=by simp;omega
    have h2:Q0 ((n++[u]).length+[o].length<=1073741824)=Z:=by simp;omega
    have y:Q0 (k<N acc)=Z:=zC h;have z:acc.getD k (Q R)=o:=by rw[<-ho];exact zP acc (Q R) h
    have h5:Q0 (GT.gt (α:=Int) 0 0)=M:=rfl;have ih:=zjt hl hi hu hm r (k+1) h4 h
    have C:∀(D:Bool)(t:zr)(s':gC),N t<=2*(k+1)->(s'=gC.h9bb l (i:Int) ((k+1:Nat):Int) (p,()) (u,()) acc t/\D=Z\/s'=gC.h9bbb l (i:Int) D ((k+1:Nat):Int) (p,()) (u,()) acc t)->
        (t++if D=Z then r else fZ u r)=(n++if d=Z then o::r else fZ u (o::r))->(ia s).val=Y (.inl s')->zG ia ((o::r).length+1) s (.h3b l ((i+1:Nat):Int) (p,()) (n++if d=Z then o::r else fZ u (o::r))):=λD t s' a b c e=>by
      rw[<-c];exact((zG.of e).trans (ih D t a s' b)).mono sw
    have E:∀x:zr,(n++[o])++x=n++o::x:=λx=>by rw[D4];rfl
    have q1:=mJ m1 hu;have q2:=o9 m1 hu;have hw:=zt k um;have g:fZ u (o::r)=if LT.lt (α:=Int) (an o u) 0 then o::fZ u r else if(o==u)=Z then o::r else u::o::r:=rfl
    by_cases A:an o u=(0:Int)
    · have e:=m2 A
      have g:fZ u (o::r)=o::r:=by rw[g,zh (by rw[A];omega),zf (by rw[e];exact BEq.rfl)]
      rw[A]at q2;refine C Z (n++[o]) _ sg (.inl ⟨rfl,rfl⟩) (by rw[zf rfl,E,g];cases d<;>rfl) ?_;rcases G with⟨rfl,rfl⟩|rfl
      · simp_all[ia,Q8,zu]
      simp_all[ia,Q8,zu]
    · have hz:((an o u:Int)==0)=false:=by simpa using A
      by_cases hg:GT.gt (α:=Int) (an o u) 0
      · have v:Q0 (GT.gt (α:=Int) (an o u) 0)=Q3:=zC hg
        have g:fZ u (o::r)=u::o::r:=by
          rw[g,zh S,zh];intro e;rw[bV e]at A;exact A (FY u)
        rcases G with⟨rfl,rfl⟩|rfl
        · refine C Q3 (n++[o]) _ sg (.inl ⟨rfl,rfl⟩) (by rw[zf rfl,zf rfl,E]) ?_
          simp only[ia,Q8,zM h,zu h,aI,y,z,q1,q2,B,hw,hz,v,bW,aG,zA,zi,zm]
        · cases d with
          | true=>
            refine C Z (n++[o]) _ sg (.inr rfl) (by rw[zf rfl,zf rfl,E]) ?_;simp only[ia,Q8,zM h,zu h,aI,y,z,q1,q2,B,hw,hz,v,bW,aG,zA,zi,zm]
          | false=>
            refine C Z ((n++[u])++[o]) _ sg (.inl ⟨rfl,rfl⟩) (by rw[zf rfl,zh sw,g];simp) ?_;simp only[ia,Q8,zM h,zu h,aI,y,z,q1,q2,h1,h2,hw,hz,v,dd,aG,zA,zi,zm]
      · have v:Q0 (GT.gt (α:=Int) (an o u) 0)=Q4:=aC hg
        have h3:LT.lt (α:=Int) (an o u) 0:=
           Int.lt_iff_le_and_ne.2 ⟨Int.not_lt.1 hg,A⟩
        have g:fZ u (o::r)=o::fZ u r:=by rw[g,zf h3]
        rcases G with⟨rfl,rfl⟩|rfl
        · refine C Q3 (n++[o]) _ sg (.inl ⟨rfl,rfl⟩) (by rw[zf rfl,zf rfl,E]) ?_
          simp_all[ia,Q8,zu]
        · refine C d (n++[o]) _ sg (.inr rfl) (by rw[g,E];cases d<;>rfl) ?_
          simp only[ia,Q8,zM h,zu h,aI,y,z,q1,q2,B,hw,hz,v,aJ,zA,zi,zm]
end
section
variable {db:List (L zl)} {p:L zZ}
theorem aw.vlen(h:aw db p)(j:∀c∈db,Ii c){x:zr}(e:x∈(cN db p).2){u:zo}(g:u∈x):N u.q<=1000000:=by
 rw[ZE]at e;have d:p.2.1∈bY p.2.1 p.q.1:=by unfold bY;split<;>simp
 exact((j _ (jz (h.fnd _ d)).1).vals x e u g).q
theorem VK(l:zr)(u:zo):jk (l++[u])=if(u.1==0)=Z then jk l else fZ u (jk l):=by unfold jk;rw[List.foldl_append];rfl
theorem aw.qAll(h:aw db p)(hw:∀x∈db,Ii x):LH p (zD db p)=Z/\Sd p (zD db p)=cD p (zD db p):=by
 have x4:=h.rel.few;have D:=h.len0;have h2:T (zD db p) (W 0) (Q zl)=cN db p:=rfl;have h8:(nh p (zD db p)).length=(cN db p).2.length:=cY _;have x0:∀v∈nh p (zD db p),bg v=Z/\N v.q<=1000000:=λv hv=>by
  refine⟨h.may hv,?_⟩;obtain⟨x6,hr,rfl⟩:=bt.1 hv;rw[h.pc.2];exact h.vlen hw hr (h.at_mem hr)
 have:C9 p (zD db p)=Y (cD p (zD db p),()):=by
  have hs:(ztQ p (zD db p)).val=Q1 (.inl (s16 (zD db p) ((0:Nat):Int) p (jk ((nh p (zD db p)).take 0)))):=rfl;have z:=zG.all (t:=ia) 1000 (λi=>s16 (zD db p) (i:Int) p (jk ((nh p (zD db p)).take i))) (cN db p).2.length λi hi=>by
   have hm:=bh hi;have h4:i<(nh p (zD db p)).length:=by omega
   have hx:(nh p (zD db p))[i]=zO (bI p (zD db p)) (cN db p).2[i]:=by
    rw[<-h.pc.2];exact List.getElem_map _
   have hu:=x0 _ (bh h4);have⟨o1,o2⟩:=h.qOf' hm;have o3:=h.qOf (h.inn _ hm).1;have o4:(wq p (zD db p) (cN db p).2[i]).getD (ct [R])=(zO (bI p (zD db p)) (cN db p).2[i],()):=by rw[o3];rfl
   rw[aQ h4,VK];rw[hx]at hu|-;have h7:=Ny ((nh p (zD db p)).take i);have h5:(jk ((nh p (zD db p)).take i)).length<=200:=by
    rw[oC]at h7;omega
   have j:∀o∈jk ((nh p (zD db p)).take i),N o.q<=1000000/\(an o (zO (bI p (zD db p)) (cN db p).2[i])=(0:Int)->o=zO (bI p (zD db p)) (cN db p).2[i])/\o.1≠0:=λo ho=>by
    grind[ta,wk]
   generalize zO (bI p (zD db p)) (cN db p).2[i]=u at hu o2 o4 j|-;generalize jk ((nh p (zD db p)).take i)=acc at h5 j|-;have x2:=zt i um;cases acc with
   | nil=>
    have f1:zG ia 1 (s16 (zD db p) (i:Int) p []) (.h9 (zD db p) (i:Int) (u.1==0) 0 (p,()) (u,())):=zG.of (by
     show(ia (.h3 _ _ _)).val=_;grind[ia,Q8,zn,zu])
    have f2:zG ia 1 (.h9 (zD db p) (i:Int) (u.1==0) 0 (p,()) (u,())) (s16 (zD db p) ((i+1:Nat):Int) p (ite ((u.1==0)=Z) [] (fZ u []))):=zG.of (by
     simp only[ia,Q8,show Q0 ((0:Int)<0)=M from rfl,show Q0 ([u].length<=1073741824)=Z from rfl,zA,zi,zm,x2];cases u.1==0<;>rfl)
    exact(f1.trans f2).mono S
   | cons o r=>
    have f1:zG ia 1 (s16 (zD db p) (i:Int) p (o::r)) (.h9b (zD db p) (i:Int) (u.1==0) 0 (p,()) (u,()) (o::r)):=zG.of (by
     show(ia (.h3b _ _ _ _)).val=_;grind[ia,Q8,zn,zu,zP])
    have⟨m1,m2,m3⟩:=j o sw;have q1:=mJ m1 hu.2;have q2:=o9 m1 hu.2;have x5:=zt 0 um;have B:Q0 ((0:Int)<((o::r).length:Int))=Z:=by simp
    have s:zK 0 (o::r).length=Z:=zu (i:=0) sw;have C:Q0 (W 0<(o::r).length)=Z:=by simp
    have x3:=zjt (l:=zD db p) (p:=p) (u:=u) (acc:=o::r) (i:=i) S S hu.2 (λx hx=>⟨(j x hx).1,(j x hx).2.1⟩) r 1 rfl sw;have d:fZ u (o::r)=if LT.lt (α:=Int) (an o u) 0 then o::fZ u r else if(o==u)=Z then o::r else u::o::r:=rfl
    have go:∀(F:Bool)(n:zr)(s':gC),N n<=2->(s'=gC.h9bb (zD db p) (i:Int) ((1:Nat):Int) (p,()) (u,()) (o::r) n/\F=Z\/s'=gC.h9bbb (zD db p) (i:Int) F ((1:Nat):Int) (p,()) (u,()) (o::r) n)->
      (n++if F=Z then r else fZ u r)=(ite ((u.1==0)=Z) (o::r) (fZ u (o::r)))->(ia (.h9b (zD db p) (i:Int) (u.1==0) 0 (p,()) (u,()) (o::r))).val=Y (.inl s')->
      zG ia 1000 (s16 (zD db p) (i:Int) p (o::r)) (s16 (zD db p) ((i+1:Nat):Int) p (ite ((u.1==0)=Z) (o::r) (fZ u (o::r)))):=λF n s' a b c e=>by
     have f3:=x3 F n a s' b;rw[c]at f3;have:∃x y,(ite ((u.1==0)=Z) (o::r) (fZ u (o::r)))=x::y:=by
      rw[d];split
      .exact⟨_,_,rfl⟩
      .grind
     have⟨x,y,e3⟩:=this;rw[e3]at f3|-;exact((f1.trans (zG.of e)).trans f3).mono (by simp at h5;omega)
    by_cases E:an o u=(0:Int)
    .have e:=m2 E;have g:(u.1==0)=M:=by rw[<-e];simpa using m3
     have d:fZ u (o::r)=o::r:=by rw[d,zh (by rw[E];omega),zf (by rw[e];exact BEq.rfl)]
     rw[E]at q2;refine go Z [o] _ sw (.inl ⟨rfl,rfl⟩) (by rw[zf rfl,g,zh sw,d];rfl) ?_;simp only[ia,Q8,B,s,C,show(o::r).getD (W 0) (Q R)=o from rfl,q1,q2,show Q0 (GT.gt (α:=Int) 0 0)=M from rfl,show Q0 ([o].length<=1073741824)=Z from rfl,BEq.rfl,aJ,zA,zi,zm];rfl
    .have hz:((an o u:Int)==0)=M:=by simpa using E
     by_cases z:GT.gt (α:=Int) (an o u) 0
     .have A:Q0 (GT.gt (α:=Int) (an o u) 0)=Z:=zC z;have d:fZ u (o::r)=u::o::r:=by
       rw[d,zh S,zh];intro e;rw[bV e]at E;exact E (FY u)
      by_cases g:(u.1==0)=Z
      .refine go Z [o] _ sw (.inr rfl) (by rw[zf rfl,zf g];rfl) ?_;simp only[ia,Q8,B,s,C,show(o::r).getD (W 0) (Q R)=o from rfl,q1,q2,hz,A,g,show Q0 ([o].length<=1073741824)=Z from rfl,bW,aG,zA,zi,zm];rfl
      .have h6:=Bool.eq_false_iff.2 g;refine go Z [u,o] _ sw (.inl ⟨rfl,rfl⟩) (by rw[zf rfl,zh g,d];rfl) ?_;simp only[ia,Q8,B,s,C,show(o::r).getD (W 0) (Q R)=o from rfl,q1,q2,hz,A,h6,show Q0 ([u].length<=1073741824)=Z from rfl,show Q0 ([u].length+[o].length<=1073741824)=Z from rfl,dd,aG,zA,zi,zm];rfl
     .have A:Q0 (GT.gt (α:=Int) (an o u) 0)=M:=aC z;have x1:LT.lt (α:=Int) (an o u) 0:=Int.lt_iff_le_and_ne.2 ⟨Int.not_lt.1 z,E⟩;have d:fZ u (o::r)=o::fZ u r:=by rw[d,zf x1]
      refine go (u.1==0) [o] _ sw (.inr rfl) (by rw[d];cases u.1==0<;>rfl) ?_;simp only[ia,Q8,B,s,C,show(o::r).getD (W 0) (Q R)=o from rfl,q1,q2,hz,A,show Q0 ([o].length<=1073741824)=Z from rfl,aJ,zA,zi,zm];rfl
  have z:zG ia ((cN db p).2.length*1000) (s16 (zD db p) ((0:Nat):Int) p (jk ((nh p (zD db p)).take 0))) (s16 (zD db p) ((cN db p).2.length:Int) p (jk ((nh p (zD db p)).take (cN db p).2.length))):=z;have h1:jk ((nh p (zD db p)).take (cN db p).2.length)=cD p (zD db p):=by rw[<-h8,eF];rfl
  rw[h1]at z;generalize cD p (zD db p)=acc at z|-;have G:∃r,zV ia 1 (s16 (zD db p) ((cN db p).2.length:Int) p acc) r/\aX r.2 [ze.sl] r.1=Q1 (acc,()):=by
   cases acc with
   | nil=>
    refine⟨_,zV.of (by
     show(ia (.h3 _ _ _)).val=_;simp only[ia,Q8,h2,D,zJ,zA,zi,zm];rfl),rfl⟩
   | cons a r=>
    refine⟨_,zV.of (by
     show(ia (.h3b _ _ _ _)).val=_;simp only[ia,Q8,h2,D,zJ,zA,zi,zm];rfl),rfl⟩
  have⟨r,r1,r2⟩:=G;exact zz hs (z.ends r1) S r2
 exact⟨by unfold LH;rw[this];rfl,by unfold Sd;rw[this];rfl⟩
end
set_option maxRecDepth 100000
section
variable {α:Type} {k:α->L R}
theorem WF{l:List α}(d:∀x∈l,bg (k x)=Z):qI k (mA k l):=by
 have e:∀(l acc:List α),(∀x∈l++acc,bg (k x)=Z)->qI k acc->qI k (l.foldl (λacc g=>CE k g acc) acc):=by
  intro l
  induction l with
  |nil=>intro acc _ h;exact h
  | cons a r j=>
   intro acc d h;refine j _ (λx c=>?_) (Jy (λx c=>d x (by simp at c|-;rcases c with h|h<;>simp[h])) h);rcases dl.1 c with c|c
   .exact d x (by simp[c])
   .have:=(Jw a acc).mem_iff.1 c;refine d x ?_;simp at this|-;rcases this with h|h<;>simp[h]
 exact e l [] (by simpa using d) .nil
theorem PV:∀{l m:List α},l.Perm m->qI k l->qI k m->(∀a∈l,∀b∈l,FD (k a) (k b)=Z->FD (k b) (k a)=Z->a=b)->l=m
 |[],m,c,_,_,_=>(List.nil_perm.1 c).symm
 | a::r,m,c,hl,hm,he=>by
  match m,c,hm with
  |[],c,_=>exact zB c sw
  | b::s,c,hm=>
   have⟨t,v⟩:=List.pairwise_cons.1 hl;have⟨z,A⟩:=List.pairwise_cons.1 hm;have d:a=b:=by
    have j:a∈b::s:=c.mem_iff.1 sw;have e:b∈a::r:=c.mem_iff.2 sw;rcases ce.1 j with h|h
    .exact h
    rcases ce.1 e with g|g
    .exact g.symm
    exact he a sw b e (t b g) (z a h)
   subst d;rw[PV ((List.perm_cons a).1 c) v A λx n y q=>he x (by simp[n]) y (by simp[q])]
end
section
variable {K:Int} {l m:List (List (L R))}
end
section
variable {db:List (L zl)} {p:L zZ} {us:List (L R)}
end
def Blk(k:Int)(h n:Nat)(l:List zr):Prop:=∀x,h∣x->Up (rc k) (dm l) x (min (x+h) n)
theorem zwI(k:Int)(d e:Nat)(hn:d<=1000)(hb:1<=e)(h0:e<=1000):∀(s a:Nat)(l:List zr),N l=d->d-a<=s->a<=d->2*e∣a->
  (∀x,x<a->2*e∣x->Up (rc k) (dm l) x (min (x+2*e) d))->(∀x,a<=x->e∣x->Up (rc k) (dm l) x (min (x+e) d))->
  ∃z,z.Perm l/\Blk k (2*e) d z/\zG eQ (s+1) (.h9 (d:Int) k (e:Int) (a:Int) ((a+2*e:Nat):Int) l) (.h7 (d:Int) k ((2*e:Nat):Int) z):=by
 have n:∀x a,2*e∣x->2*e∣a->a<x->a+2*e<=x:=λx a q t h3=>by
  have:=Nat.le_of_dvd S (Nat.dvd_sub q t);omega
 have g:∀(l:List zr)(a:Nat),2*e∣a->d<=a+2*e->(∀x,x<a->2*e∣x->Up (rc k) (dm l) x (min (x+2*e) d))->Up (rc k) (dm l) a d->Blk k (2*e) d l:=λl a G hN q t x hx=>by
  rcases Nat.lt_trichotomy x a with c|c|c
  .exact q x c hx
  .subst c;exact t.part (zR _) S
  .have:=n x a hx G c;exact Up.one S
 have F:∀a,2*e∣a->e∣a:=λa h=>Nat.dvd_trans (Nat.dvd_mul_left e 2) h
 intro s
 induction s with
 | zero=>
  intro a l hl hs G j q t;refine⟨l,.refl l,g l a j S q ((t a (zR _) (F a j)).part (zR _) S),zG.of ?_⟩;have e0:Γ Δ ((a:Int)+(e:Int))=((a+e:Nat):Int):=by rw[wI _ S S];omega
  have A:Γ Δ ((e:Int)*2)=((2*e:Nat):Int):=by rw[wI _ S S];omega
  have y:Q0 (((a+2*e:Nat):Int)<=(d:Int))=M:=by simp;omega
  simp only[eQ,Q8,e0,A,y,eK (show¬a+e<d by omega),zA,zm]
 | succ s IH=>
  intro a l hl hs G j q t;have e0:Γ Δ ((a:Int)+(e:Int))=((a+e:Nat):Int):=by rw[wI _ S S];omega
  have A:Γ Δ ((e:Int)*2)=((2*e:Nat):Int):=by rw[wI _ S S];omega
  have e3:Γ Δ (((a+2*e:Nat):Int)+Γ Δ (2*(e:Int)))=((a+2*e+2*e:Nat):Int):=by rw[wI (2*(e:Int)) S S,wI _ S S];omega
  have ua:=t a (zR _) (F a j);have ub:=t (a+e) S (Nat.dvd_add (F a j) (Nat.dvd_refl e));by_cases c1:a+2*e<=d
  .have⟨C,q1,D,B,m1⟩:=zo1 k 16 l a (a+e) (a+2*e) S S S S sg (ua.part (zR _) S) (ub.part (zR _) S);have h4:=D.length_eq;have⟨z,p2,q3,q4⟩:=IH (a+2*e) C S S c1 (Nat.dvd_add j (Nat.dvd_refl _)) (λx x1 v=>by
    by_cases c:x<a
    .have:=n a x j v c;exact(q x c v).same λi y1 y2=>B.1 i S
    .obtain rfl:x=a:=by
      rcases Nat.lt_or_ge a x with c'|c'
      .have:=n x a v j c';omega
      .omega
     exact m1.part (zR _) S) (λx x1 v=>(t x S v).same λi y1 y2=>B.1 i S)
   refine⟨z,p2.trans D,q3,((zG.of ?_).trans q4).mono S⟩;have y:Q0 (((a+2*e:Nat):Int)<=(d:Int))=Z:=by simp;omega
   simp only[eQ,Q8,e0,y,e3,q1,dz,bK,zi]
  .have y:Q0 (((a+2*e:Nat):Int)<=(d:Int))=M:=by simp;omega
   by_cases E:a+e<d
   .have⟨C,q1,D,B,m1⟩:=zo1 k 16 l a (a+e) d S S E S sg (ua.part (zR _) S) (ub.part (zR _) S);refine⟨C,D,g C a j S (λx c v=>?_) m1,(zG.of ?_).mono S⟩
    .have:=n a x j v c;exact(q x c v).same λi y1 y2=>B.1 i S
    simp only[eQ,Q8,e0,A,y,zM E,q1,dz,bK,zi,zA,zm]
   .refine⟨l,.refl l,g l a j S q (ua.part (zR _) S),(zG.of ?_).mono S⟩;simp only[eQ,Q8,e0,A,y,eK E,zA,zm]
theorem zwH(k:Int)(d:Nat)(A:d<=1000):∀(s e:Nat)(l:List zr),N l=d->d-e<=s->1<=e->Blk k e d l->
  ∃g,g.Perm l/\Up (rc k) (dm g) 0 d/\zV eQ (s*1002+1) (.h7 (d:Int) k (e:Int) l) (.tup [],[.vec ze.sl g]):=by
 intro s
 induction s with
 | zero=>
  intro e l q B n j;refine⟨l,.refl l,(j 0 (Nat.dvd_zero _)).part (zR _) S,(zV.of ?_).mono S⟩;simp only[eQ,Q8,eK (show¬e<d by omega),zA,zm]
 | succ s v=>
  intro e l q B n j;by_cases c:e<d
  case neg=>
   refine⟨l,.refl l,(j 0 (Nat.dvd_zero _)).part (zR _) S,(zV.of ?_).mono S⟩;simp only[eQ,Q8,eK c,zA,zm]
  have⟨C,t,E,F⟩:=zwI k d e A n S d 0 l q S S (Nat.dvd_zero _) (λx h=>by omega) (λx _ h=>j x h);have z:=t.length_eq;have⟨g,D,G,q4⟩:=v (2*e) C S S S E;refine⟨g,D.trans t,G,(((zG.of ?_).trans F).ends q4).mono S⟩;have y:Γ Δ (2*(e:Int))=((0+2*e:Nat):Int):=by rw[wI _ S S];omega
  simp only[eQ,Q8,zM c,y,zi];rfl
theorem zwG(k:Int)(h:Nat)(hn:h<=1000):∀(s a:Nat)(l:List zr),N l=h->h-a<=s->a<=h->20∣a->(∀x,x<a->20∣x->Up (rc k) (dm l) x (min (x+20) h))->
  ∃v,v.Perm l/\Blk k 20 h v/\zG eQ (s+1) (.h2 (h:Int) k 20 (a:Int) ((a+20:Nat):Int) l) (.h7 (h:Int) k 20 v):=by
 have e:∀(a:Nat)(l d:List zr),20∣a->h<a+20->(∀x,x<a->20∣x->Up (rc k) (dm l) x (min (x+20) h))->BC (dm l) (dm d) a h->Up (rc k) (dm d) a h->Blk k 20 h d:=λa l d A hN n g j x hx=>by
  rcases Nat.lt_trichotomy x a with c|c|c
  .have:x+20<=a:=by omega
   exact(n x c hx).same λi y1 y2=>g.1 i S
  .subst c;exact j.part (zR _) S
  .exact Up.one S
 intro s
 induction s with
 | zero=>
  intro a l E G A z n;have⟨d,y,q,g,j⟩:=Ld l a h k S S S;refine⟨d,q,e a l d z S n g j,zG.of ?_⟩;have t:Q0 (((a+20:Nat):Int)<=(h:Int))=M:=by simp;omega
  simp only[eQ,Q8,t,y,dz,bK,zi,zA,zm]
 | succ s B=>
  intro a l E G A z n;by_cases c:a+20<=h
  .have⟨d,y,q,g,j⟩:=Ld l a (a+20) k S S S;have F:=q.length_eq;have⟨v,p2,q3,q4⟩:=B (a+20) d S S c S (λx x1 x2=>by
    by_cases C:x<a
    .exact(n x C x2).same λi y1 y2=>g.1 i S
    .obtain rfl:x=a:=by omega
     exact j.part (zR _) S)
   refine⟨v,p2.trans q,q3,((zG.of ?_).trans q4).mono S⟩;have t:Q0 (((a+20:Nat):Int)<=(h:Int))=Z:=by simp;omega
   have D:Γ Δ (((a+20:Nat):Int)+20)=((a+20+20:Nat):Int):=by rw[wI _ S S];omega
   simp only[eQ,Q8,t,D,y,dz,bK,zi]
  .have⟨d,y,q,g,j⟩:=Ld l a h k S S S;refine⟨d,q,e a l d z S n g j,(zG.of ?_).mono S⟩;have t:Q0 (((a+20:Nat):Int)<=(h:Int))=M:=by simp;omega
   simp only[eQ,Q8,t,y,dz,bK,zi,zA,zm]
theorem zo3(k:Int)(l:List zr)(d:N l<=1000):∃c,Ha l (N l:Int) k=Y c/\c.Perm l/\Up (rc k) (dm c) 0 (N l):=by
 have⟨j,e,q,s⟩:=zwG k (N l) d (N l) 0 l rfl S S (Nat.dvd_zero _) λx h=>by omega
 have⟨c,n,t,v⟩:=zwH k (N l) d (N l) 20 j e.length_eq S S q;refine⟨c,?_,n.trans e,t⟩;have:zce l (N l:Int) k=Y (.tup [],[.vec ze.sl c]):=by
  have g:=fM 1002 d;exact(s.ends v) 100000000 (by
   refine aV (Nat.add_le_add (Nat.succ_le_succ g) (Nat.succ_le_succ d)) (by decide))
 unfold Ha;rw[this];rfl
theorem zgp(k:Int)(l:List zr)(x:N l<=1000):∃h,sG l k=Y h/\h.Perm l/\Up (rc k) (dm h) 0 (N l):=by
 have⟨h,q,c,d⟩:=zo3 k l x;refine⟨h,?_,c,d⟩;have:G9 l k=Y (.tup [],[.vec ze.sl h]):=by
  unfold G9 bT;simp only[Oy,Q8,q,dz,bK,zi]
 unfold sG;rw[this];rfl
theorem SJ{K:Int}{l x:List zr}(d:x.Perm l)(F:Up (rc K) (dm x) 0 (N l))(y:∀r∈l,rr K r)(E:DM K l):x=mA (zO K) l:=by
 have c:∀r∈l,bg (zO K r)=Z:=λr e=>(y r e).q
 have z:∀r∈x,ah (eY K r)=zO K r:=λr e=>by
  have h:=y r (d.mem_iff.1 e);rw[zgm h.1];unfold ah;rw[h.q];rfl
 have e:qI (zO K) x:=by
  refine List.pairwise_iff_getElem.2 λi j v t s=>?_
  have h:=F i j (aK _) s (by rw[<-d.length_eq];exact t);have A:dm x i=x[i]:=wa _ _ v;have B:dm x j=x[j]:=wa _ _ t;rw[A,B]at h;unfold rc leO at h;rw[z _ (bh v),z _ (bh t)]at h;exact h
 refine PV (d.trans (oS l).symm) e (WF c) λa q b n C D=>?_
 have q:=d.mem_iff.1 q;have n:=d.mem_iff.1 n;refine VL E q n ?_;rcases(ku (c a q) (c b n)).1 C with h|h
 .rcases(ku (c b n) (c a q)).1 D with g|g
  .exact zB (em h g) (by unfold qE;rw[JO];omega)
  .exact g.symm
 .exact h
theorem zf5{z:ag}(y:NL z=Z)(A:N z.2<=1000)(D:z.2≠[]->dI z.1=Z)(C:∀r∈z.2,rr z.1.q.1 r)(B:DM z.1.q.1 z.2):Bi z=Y ((z.1,mA (zO z.1.q.1) z.2),()):=by
 by_cases j:z.2=[]
 .have⟨h,n,x,_⟩:=zbO y A;rw[j]at x;rw[n,List.perm_nil.1 x,j];rfl
 have⟨h,n,x,E⟩:=zgp z.1.q.1 z.2 A;have e:=SJ x E C B;subst e;have g:∀h:List zr,aX [AO.vec zp z.1.2.1,AO.vec zk z.1.r.1,AO.vec zI z.1.t.1,AO.vec ze.sl h] [zl] (agg [X z.1.1,AV.vec 0,J z.1.q.1,AV.vec 1,AV.vec 2,X (zg.op z.1.u),J (zg.v z.1.u).1,J (zg.v z.1.u).2.1,X (zg.v z.1.u).q,X (zg.s z.1.u),O Sh.expr (zg.l z.1.u),AV.vec 3])=Y (((z.1,h):ag),()):=by
  intro h;have⟨⟨a,b,c,d,e,f⟩,r⟩:=z;cases f;rfl
 refine zQ (r:=(_,_)) ?_ (g _);simp only[zfs,Q8,zn,aN,y,D j,n,dz,bK,bW,zA,zi,zm]
def ztJ:Tr (Empty⊕ay):=
 I Z
 (I Z
  (I Z (I Z (I Z (br M (re (kb M) []) (I Z (I Z (I Z (re (AV.bool Z) [])))))))))
def CR:=am [Q7] t0 100000000 (ztJ)
def CQ:=(CR).isSome
def D9:=o1 (CR)
def zpD:=FT [] [Q7] λ_=>CR
theorem zki:FK 11 zpD:=I9.T1 (f:=f11) (keep:=k0) (e:=e0)
def ziP:=ziO.add 11 zpD
theorem Ja:zx ziP:=I9.add zki
abbrev zuG:=kr [(4,[2,3,5]),(9,[2,3,6]),(14,[2,3,7])]
inductive HC where
 |h4 (i5:Int) (z0:zq [CP.d ae]) (z1:zq [CP.d ae])
 |h9 (i6:Int) (z0:zq [CP.d ae]) (z1:zq [CP.d ae])
 |h14 (i7:Int) (z0:zq [CP.d ae]) (z1:zq [CP.d ae])
abbrev zxH:HC->Nat×St
 |.h4 x z h=>(4,⟨tm 106 [(2,ptr 0 0),(3,ptr 1 0),(5,J x)],[AO.box (bm [] [CP.d ae] z),AO.box (bm [] [CP.d ae] h)]⟩)
 |.h9 c z h=>(9,⟨tm 106 [(2,ptr 0 0),(3,ptr 1 0),(6,J c)],[AO.box (bm [] [CP.d ae] z),AO.box (bm [] [CP.d ae] h)]⟩)
 |.h14 e z h=>(14,⟨tm 106 [(2,ptr 0 0),(3,ptr 1 0),(7,J e)],[AO.box (bm [] [CP.d ae] z),AO.box (bm [] [CP.d ae] h)]⟩)
def znn(x h:ap):Tr (HC⊕ay):=
 br
 (bif !x.1==h.1 then Z
 else
  bif x.q.1!=h.q.1 then Z
  else bif (N x.2.1:Int)!=(N h.2.1:Int)then Z else bif (N x.r.1:Int)!=(N h.r.1:Int)then Z else(N x.t.1:Int)!=(N h.t.1:Int))
 (re (kb M) []) (Tr.to (HC.h4 0 (x,()) (h,())))
def CJ:HC->Tr (HC⊕ay)
 | .h4 d z h=>
  let j:=(N z.1.2.1:Int)
  let x:=T z.1.2.1 d.toNat (Q zp)
  let c:=T h.1.2.1 d.toNat (Q zp)
  br (Q0 (d<j))
  (I (zK d (N z.1.2.1)) (I (zK d (N h.1.2.1)) (br (!(x.1==c.1&&(x.2.1==c.2.1&&(x.q==c.q&&Z)))) (re (kb M) []) (Tr.to (HC.h4 (Γ Δ (d+1)) z h)))))
  (Tr.to (HC.h9 0 z h))
 | .h9 e z h=>
  let j:=(N z.1.r.1:Int)
  br (Q0 (e<j))
  (I (zK e (N z.1.r.1)) (I (zK e (N h.1.r.1)) (br (T z.1.r.1 e.toNat (Q zk)!=T h.1.r.1 e.toNat (Q zk)) (re (kb M) []) (Tr.to (HC.h9 (Γ Δ (e+1)) z h)))))
  (Tr.to (HC.h14 0 z h))
 | .h14 g z h=>
  let j:=(N z.1.t.1:Int)
  let x:=T z.1.t.1 g.toNat (Q zI)
  let c:=T h.1.t.1 g.toNat (Q zI)
  let n:=zw z.1.u
  let s:=zw h.1.u
  br (Q0 (g<j))
  (I (zK g (N z.1.t.1)) (I (zK g (N h.1.t.1)) (br (!(x.1==c.1&&(x.2==c.2&&Z))) (re (kb M) []) (Tr.to (HC.h14 (Γ Δ (g+1)) z h)))))
  (I (gW n s) (re (AV.bool (fH n s)) []))
def Dm(x h:ap):=am [Q7] CJ 100000000 (znn x h)
def L2(x h:ap):=(Dm x h).isSome
def So(x h:ap):=o1 (Dm x h)
def zqr:=FT [ae,ae] [Q7] λx=>Dm x.1 x.2.1
theorem zk9:FK 36 zqr:=Ja.T1 (f:=f36) (keep:=zuG) (e:=zxH)
def Zk:=ziP.add 36 zqr
theorem EL:zx Zk:=Ja.add zk9
def ztO(x h:ag):Tr (Empty⊕ay):=
 let c:=(x.1.1,x.1.2.1,x.1.q.1,x.1.r.1,x.1.t.1,zw x.1.u)
 let d:=(h.1.1,h.1.2.1,h.1.q.1,h.1.r.1,h.1.t.1,zw h.1.u)
 let e:=So c d
 I (L2 c d&&bif e then Dp x.2 h.2 else Z) (re (AV.bool (cond e (L6 x.2 h.2) M)) [])
def Dr(x h:ag):=am [Q7] t0 100000000 (ztO x h)
def xX(x h:ag):=(Dr x h).isSome
def Gv(x h:ag):=o1 (Dr x h)
def zpU:=FT [zl,zl] [Q7] λx=>Dr x.1 x.2.1
theorem zkx:FK 14 zpU:=EL.T1 (f:=f14) (keep:=k0) (e:=e0)
def ztj:=Zk.add 14 zpU
theorem Wp:zx ztj:=EL.add zkx
theorem PA{a:ap}(A:N a.2.1<=1000000)(C:N a.r.1<=1000000)(B:N a.t.1<=1000000)(q:ot 16 a.u=Z):L2 a a=Z/\So a a=Z:=by
 have⟨z,s⟩:=pe (b:=a.u) q;have s:=s.2 rfl;have v:(znn a a).val=Y (.inl (.h4 ((0:Nat):Int) (a,()) (a,()))):=by
  simp only[znn,Q8,BEq.rfl,bW,gj,aJ,zA,zm];rfl
 have g:=zG.all (t:=CJ) 1 (λi=>.h4 (i:Int) (a,()) (a,())) (N a.2.1) λi x=>zG.of (by
  simp only[CJ,Q8,zM x,zu x,BEq.rfl,nu,bW,zA,zi,zm];rw[zt i um])
 have c:zG CJ 1 (.h4 (N a.2.1:Int) (a,()) (a,())) (.h9 ((0:Nat):Int) (a,()) (a,())):=zG.of (by
  simp only[CJ,Q8,zJ,zA,zm];rfl)
 have d:=zG.all (t:=CJ) 1 (λi=>.h9 (i:Int) (a,()) (a,())) (N a.r.1) λi x=>zG.of (by
  simp only[CJ,Q8,zM x,zu x,gj,zA,zi,zm];rw[zt i um])
 have e:zG CJ 1 (.h9 (N a.r.1:Int) (a,()) (a,())) (.h14 ((0:Nat):Int) (a,()) (a,())):=zG.of (by
  simp only[CJ,Q8,zJ,zA,zm];rfl)
 have j:=zG.all (t:=CJ) 1 (λi=>.h14 (i:Int) (a,()) (a,())) (N a.t.1) λi x=>zG.of (by
  simp only[CJ,Q8,zM x,zu x,BEq.rfl,nu,bW,zA,zi,zm];rw[zt i um])
 have h:=zz (outs:=[Q7]) (n:=100000000) (y:=(Z,())) v (((((g.trans c).trans d).trans e).trans j).ends (zV.of (r:=(.bool Z,[])) (by
  simp only[CJ,Q8,zn,zJ,z,s,zA,zi,zm]))) S rfl
 have h:Dm a a=Y (Z,()):=h;exact⟨by unfold L2;rw[h];rfl,by unfold So;rw[h];rfl⟩
theorem PB{x:ag}(c:N x.1.2.1<=1000000)(j:N x.1.r.1<=1000000)(g:N x.1.t.1<=1000000)(d:ot 16 x.1.u=Z)(e:N x.2<=1000000)(n:∀r∈x.2,N r<=1000000):xX x x=Z/\Gv x x=Z:=by
 have⟨s,q⟩:=PA c j g d;have⟨v,y⟩:=Cf e n;have h:Dr x x=Y (Z,()):=by
  refine zQ (r:=(.bool Z,[])) ?_ rfl;simp only[ztO,Q8,zn,aN,s,q,v,y,aG,nu,zi]
 exact⟨by unfold xX;rw[h];rfl,by unfold Gv;rw[h];rfl⟩
section
variable {db:List (L zl)} {p:L zZ} {us:List (L R)}
theorem B2(h:aw db p):∀l:zr,l.flatMap (cA db p)=(l.filter λu=>@decide (u∈cD p (zD db p)) (Classical.propDecidable _)).flatMap (cA db p)
 |[]=>rfl
 | a::r=>by
  rw[List.flatMap_cons,B2 h r,List.filter_cons];by_cases x:a∈cD p (zD db p)
  .rw[zf (@zC _ (Classical.propDecidable _) x),List.flatMap_cons]
  .rw[zh (λq=>x (@lq _ (Classical.propDecidable _) q))];have c:sQ db p a=[]:=kF λq=>x ((h.is a).2 q)
   have:cA db p a=[]:=by
    unfold cA;rw[c];unfold qb;split<;>rfl
   rw[this];rfl
theorem Ot(h:aw db p)(m:jG db p)(us:zr):DM p.r.1.q.1 ((bZ us).flatMap (cA db p)):=by rw[B2 h];exact Cq h m ((iR us).filter _) λu x=>@lq _ (Classical.propDecidable _) (List.mem_filter.1 x).2
theorem mw(h:aw db p)(m:jG db p){l:zr}:∀r∈l.flatMap (cA db p),rr p.r.1.q.1 r/\dI p.r.1=Z/\N r<=1000:=λr c=>by
 have⟨u,_,x⟩:=BI.1 c;have⟨d,e,g⟩:=Fm h m r x;have:=(cq d).1;have:=m.wf.ncols;exact⟨e,g,S⟩
theorem Ww(h:aw db p)(m:jG db p){l:zr}(x:l.flatMap (cA db p)≠[]):dI p.r.1=Z:=by have⟨r,c⟩:=List.exists_mem_of_ne_nil _ x;exact(mw h m r c).2.1
theorem zca(h:aw db p)(m:jG db p)(x:N us<=1000):iL p (zD db p) us=Y ((p.r.1,mA (zO p.r.1.q.1) ((bZ us).flatMap (cA db p))),((fg db p (bZ us):Nat):Int),0,()):=by have c:=(ka h (bZ us) (iR us)).1;exact zb9 h m x (zf5 (zfB h m us) (aV c S) (Ww h m) (λr d=>(mw h m r d).1) (Ot h m us))
theorem zsJ(h:aw db p)(m:jG db p):Iv p (zD db p)=Y ((p.r.1,mA (zO p.r.1.q.1) ((cD p (zD db p)).flatMap (cA db p))),((fg db p (cD p (zD db p)):Nat):Int),0,()):=by have x:=h.few;have c:=h.rel.few;have:=zca (us:=cD p (zD db p)) h m S;rw[JN h.nodup]at this;exact zmn h this
theorem JJ(h:aw db p)(m:jG db p){rows:List zr}(c:N rows<=1000)(d:∀r∈rows,N r<=1000):xX (p.r.1,rows) (p.r.1,rows)=Z/\Gv (p.r.1,rows) (p.r.1,rows)=Z:=
 PB (x:=(p.r.1,rows)) (aV m.wf.ncols S) (aV m.wf.nuq S) (aV m.wf.nrf S) h.go.few.cp (aV c S) λr q=>aV (d r q) S
end
variable {g:zS}
theorem zcq{db:zT}{p:zY}(D:∀x∈db,il x)(B:aw db p){h:zT}{s:zS}(c:Fz h=db)(d:Lg h=Z)(z:T2 g=s)(v:Lf g=Z)(C:UD db s=(p,0))(j:LB db s=Z):
  oV h g=Y (p,zD db p,Z,()):=by
 have A:=zcp (zbu D B.fnd);have E:Lh p db=Z:=by unfold Lh;rw[A];rfl
 have F:RX p db=(p,zD db p,Z):=by unfold RX;rw[A];rfl
 have e:p=(p.1,p.2.1,p.q.1,(p.r.1.1,p.r.1.2.1,p.r.1.q.1,p.r.1.r.1,p.r.1.t.1,zw p.r.1.u),p.t):=by rw[zn]
 refine(zQ (i:=i7u h g) (t:=t0) (n:=100000000) (outs:=[zZ,zl.sl,Q7]) (by
  simp only[i7u,zn,aN,Q8,c,d,z,v,C,j,E,F,gj,zA,zi,zm];rfl) (y:=((p.1,p.2.1,p.q.1,(p.r.1.1,p.r.1.2.1,p.r.1.q.1,p.r.1.r.1,p.r.1.t.1,zw p.r.1.u),p.t),zD db p,Z,())) rfl).trans ?_
 rw[<-e]
theorem zbm{s:zT}(hx:∀x∈s,RgR x)(h1:RgS g):
  ∃(p:zY)(C:zT)(ok:Bool),oV s g=Y (p,C,ok,())/\(ok=Z->∃db c,p=(bu db c).2/\(bu db c).1=0/\aw db p/\C=zD db p/\(∀x∈db,Ii x)/\jG db p/\yX c):=by
 have⟨db,F,d2,d3⟩:=zao s;have⟨c,s1,s2,E⟩:=zam h1;have q:Fz s=db:=by unfold Fz;rw[F];rfl
 have v:Lg s=Z:=by unfold Lg;rw[F];rfl
 have hs:T2 g=c:=by unfold T2;rw[s1];rfl
 have A:Lf g=Z:=by unfold Lf;rw[s1];rfl
 have d:∀x∈db,Ii x:=by
  intro x e;obtain⟨y,hy,rfl⟩:=d3 x e;exact zan (hx y hy)
 have B:∀x∈db,il x:=λx e=>(d x e).short
 have q1:=zbs d E;have z:LB db c=Z:=by unfold LB;rw[q1];rfl
 have D:UD db c=((bu db c).2,(bu db c).1):=by unfold UD;rw[q1];rfl
 by_cases j:(bu db c).1=0
 .have G:=zbk B j s2;have hM:=zoe d j E;rw[j]at D;exact⟨(bu db c).2,zD db (bu db c).2,Z,zcq B G q v hs A D z,λ_=>⟨db,c,rfl,j,G,rfl,d,hM,E⟩⟩
 .have hb:((bu db c).1!=0)=Z:=by simpa using j
  refine⟨lx,[],M,?_,λh=>by cases h⟩;refine zQ (i:=i7u s g) (t:=t0) (n:=100000000) (outs:=[zZ,zl.sl,Q7]) (r:=(tup [zPl,nils,kb M],[])) ?_ rfl;simp only[i7u,zn,aN,Q8,q,v,hs,A,D,z,hb,zi]
def i6q(x0:L zl.sl)(e:zS)(s:L ze.sl):Tr (Empty⊕ay):=
 let G:=(e.1,e.2.1,e.2.2.1,e.2.2.2.1,e.t.1,e.t.2.1,e.t.q.1,e.t.q.2.1,zw e.t.t.1,e.t.t.2.1,e.t.t.q.1,zw e.t.t.q.2.1,e.t.t.t)
 let h:=FB x0 G
 let a2:=wO ([],[],[],([],[],0,[],[],zg.mk [] (0,0,[]) [] []),[],0) [] (eH s)
 let a3:=a2.2.1==0
 let a4:=a2.2.2==1
 let d:=(h.1.1,h.1.2.1,h.1.2.2.1,(h.1.2.2.2.1.1,h.1.2.2.2.1.2.1,h.1.2.2.2.1.2.2.1,h.1.2.2.2.1.2.2.2.1,h.1.2.2.2.1.t.1,zw h.1.2.2.2.1.t.2),h.1.t)
 let n:=wO d h.2.1 (eH s)
 let a7:=((n.1.1.1,n.1.1.2.1,n.1.1.2.2.1,n.1.1.2.2.2.1,n.1.1.t.1,zw n.1.1.t.2),n.1.2)
 let v:=tL d h.2.1 (eH s)
 let a9:=((v.1.1.1,v.1.1.2.1,v.1.1.2.2.1,v.1.1.2.2.2.1,v.1.1.t.1,zw v.1.1.t.2),v.1.2)
 let z:=Sd d h.2.1
 let x:=Cx d h.2.1
 let A:=((x.1.1.1,x.1.1.2.1,x.1.1.2.2.1,x.1.1.2.2.2.1,x.1.1.t.1,zw x.1.1.t.2),x.1.2)
 let c:=tL d h.2.1 z
 let B:=((c.1.1.1,c.1.1.2.1,c.1.1.2.2.1,c.1.1.2.2.2.1,c.1.1.t.1,zw c.1.1.t.2),c.1.2)
 let C:=zK 0 (N (eH s))
 let g:=T (eH s) (W 0) (Q R)
 let j:=Yn d h.2.1 g
 let y:=qh d h.2.1 g
 let D:=L6 j.1 y.1
 let E:=j.2.1==y.2
 let F:=j.2.2==0
 I (AX x0 G)
 (br (!h.2.2)
  (I (pG ([],[],[],([],[],0,[],[],zg.mk [] (0,0,[]) [] []),[],0) [] (eH s)) (I Z (I (cond a3 (cond a4 (cond ((Cx ([],[],[],([],[],0,[],[],zg.mk [] (0,0,[]) [] []),[],0) []).2.1==0) (cond ((Cx ([],[],[],([],[],0,[],[],zg.mk [] (0,0,[]) [] []),[],0) []).2.2==1) CQ Z) Z) Z) Z)
  (re (AV.bool (cond a3 (cond a4 (cond ((Cx ([],[],[],([],[],0,[],[],zg.mk [] (0,0,[]) [] []),[],0) []).2.1==0) (cond ((Cx ([],[],[],([],[],0,[],[],zg.mk [] (0,0,[]) [] []),[],0) []).2.2==1) D9 M) M) M) M)) []))))
  (I (pG d h.2.1 (eH s)) (I (o7 d h.2.1 (eH s)) (I (xX a7 a9) (br (cond (!Gv a7 a9) Z (cond (n.2.1!=v.2) Z (n.2.2!=0))) (re (kb M) []) (I (Yj d h.2.1) (I (LH d h.2.1) (I (o7 d h.2.1 z) (I (xX A B)
  (br (cond (!Gv A B) Z (cond (x.2.1!=c.2) Z (x.2.2!=0))) (re (kb M) []) (br ((↑(N (eH s)):Int)==0) (I Z (re (AV.bool D9) [])) (I C (I (QP d h.2.1 g) (I C (I (mG d h.2.1 g)
  (I (Dp j.1 y.1&&bif D then bif E then bif F then CQ else Z else Z else Z) (re (AV.bool (cond D (cond E (cond F D9 M) M) M)) [])))))))))))))))))
def xz(x:L zl.sl)(h:zS)(c:L ze.sl):=am [Q7] t0 100000000 (i6q x h c)
def F6q:=FT [zl.sl,aB,ze.sl] [Q7] λx=>xz x.1 x.2.1 x.q.1
theorem zr7:FK 6 F6q:=Wp.T1 (f:=f6) (keep:=k0) (e:=e0)
section
variable {db:List (L zl)} {p:L zZ} {us a b:List (L R)}
end
def ofV(_:zY)(s:zT)(h:Int)(row:zr):zo×Int:=
 if N row≠N (T s 0 (Q zl)).1.2.1\/¬∀v∈row,bg v=Z then((0,0,[]),1)else if(T row h.toNat (Q R)).1=0 then((0,0,[]),6)else(T row h.toNat (Q R),0)
theorem zpa{p:zY}{s:zT}{row:zr}(h:Td p s)(E:lM p s=Z)(hl:N row<=1000)(B:N row=N (T s 0 (Q zl)).1.2.1->zK (dt p s) (N row)=Z):
  zwS p s row=Y ((ofV p s (dt p s) row).1,(ofV p s (dt p s) row).2,()):=by
 have⟨C,D⟩:=xH h;have G:=(lL h.two).1;have g:zK 0 (N s)=Z:=zu (i:=0) G;unfold ofV;by_cases c:N row=N (T s 0 (Q zl)).1.2.1
 .have F:=B c;have e:((N row:Int)!=((N (T s 0 (Q zl)).1.2.1:Nat):Int))=M:=by rw[c];simp
  have x:(zff p s row).val=Y (.inl (.h4 s row row (N row:Int) ((0:Nat):Int) (p,()) ((0,0,[]),()))):=by
   simp only[zff,zn,aN,Q8,C,D,g,gj,aJ,nu,zi];rw[zh (by rw[iW];exact e)];rfl
  have z:∀i(x:i<N row),(Xs (.h4 s row row (N row:Int) (i:Int) (p,()) ((0,0,[]),()))).val=if bg row[i]=Z then Y (.inl (.h4 s row row (N row:Int) ((i+1:Nat):Int) (p,()) ((0,0,[]),())))else Y (.inr (.tup [.agg [J 0,J 0,.str []],J 1],[])):=λi x=>by
   simp only[Xs,Q8,zM x,zu x,zi,zP _ _ x];rw[zt i um];cases bg row[i]<;>simp
  rcases nP (t:=Xs) (Φ:=λr=>r=(.tup [.agg [J 0,J 0,.str []],J 1],[])) 1 (λi=>.h4 s row row (N row:Int) (i:Int) (p,()) ((0,0,[]),())) (λi=>∀h:i<N row,bg row[i]=Z) (N row) (λi x _=>by
   by_cases y:bg row[i]=Z
   .exact .inl ⟨λ_=>y,zG.of (by rw[z i x,zf y])⟩
   .exact .inr ⟨λq=>y (q x),_,zV.of (by rw[z i x,zh y]),rfl⟩)with⟨A,n⟩|⟨A,r,n,rfl⟩
  .have d:∀v∈row,bg v=Z:=λv z=>by
    obtain⟨i,x,rfl⟩:=fN z;exact A i x x
   rw[zh (by rintro(q|q);exact q c;exact q d)];by_cases j:(T row (W (dt p s)) (Q R)).1=0
   .rw[zf j];have e0:((T row (W (dt p s)) (Q R)).1==0)=Z:=by simpa using j
    refine zz x (n.ends (zV.of (r:=(.tup [.agg [J 0,J 0,.str []],J 6],[])) ?_)) S rfl;simp only[Xs,Q8,zJ,zn,aN,E,F,e0,zA,zi,zm]
   .rw[zh j];have e0:((T row (W (dt p s)) (Q R)).1==0)=M:=by simpa using j
    refine zz x (n.ends (zV.of (r:=(.tup [.agg [J (T row (W (dt p s)) (Q R)).1,J (T row (W (dt p s)) (Q R)).2.1,.str (T row (W (dt p s)) (Q R)).q],J 0],[])) ?_)) S rfl;simp only[Xs,Q8,zJ,zn,aN,E,F,e0,zA,zi,zm]
  .rw[zf (.inr λq=>A λi x _=>q _ (bh x))];exact zz x n S rfl
 .rw[zf (.inl c)];have e:((N row:Int)!=((N (T s 0 (Q zl)).1.2.1:Nat):Int))=Z:=by
   rw[bne_iff_ne];exact λq=>c (by exact_mod_cast q)
  refine zQ (r:=(.tup [.agg [J 0,J 0,.str []],J 1],[])) ?_ rfl;simp only[zff,zn,aN,Q8,C,D,g,gj,aJ,nu,zi];exact zf e
section
variable {db:List (L zl)} {p:L zZ}
theorem aw.of(h:aw db p){row:zr}(c:N row<=1000):zwS p (zD db p) row=Y ((ofV p (zD db p) (bI p (zD db p)) row).1,(ofV p (zD db p) (bI p (zD db p)) row).2,()):=by
 have:=zpa (row:=row) h.go h.pc.1 c (λe=>by
  rw[h.pc.2];unfold zK;rw[aO];have x:=h.col.1;have g:=h.col.2;have d:N row=N (cN db p).1.2.1:=e;exact⟨zC x,zC S⟩)
 rwa [h.pc.2]at this
theorem aw.row(h:aw db p){row:zr}(x:row∈(cN db p).2):ofV p (zD db p) (bI p (zD db p)) row=if(T row (W (bI p (zD db p))) (Q R)).1=0 then((0,0,[]),6)else(T row (W (bI p (zD db p))) (Q R),0):=by
 unfold ofV;rw[zh];rintro(q|q)
 .exact q (h.inn row x).2
 .exact q (cq (h.rel.fits row x)).2.1
end
inductive H5q where
 |h10 (l6:zT) (i9:zy) (l11:zr) (i13:Int) (i14:Int) (z0:zq [CP.d zZ]) (z1:zq [CP.d zl])
theorem NB:CR=Y (Z,()):=zQ (i:=ztJ) (r:=(.bool Z,[])) rfl rfl
theorem rB:CQ=Z/\D9=Z:=⟨by unfold CQ;rw[NB];rfl,by unfold D9;rw[NB];rfl⟩
def plN:zY:=([],[],[],([],[],0,[],[],zg.mk [] (0,0,[]) [] []),[],0)
theorem Xo(us:zr):iL plN [] us=Y ((([],[],0,[],[],zg.mk [] (0,0,[]) [] []),[]),0,1,()):=
 zQ (i:=Fq plN [] us) (r:=(tup [agg [X [],nils,J 0,nils,nils,X [],J 0,J 0,X [],X [],nils,nils],J 0,J 1],[])) kw rfl
theorem Nz:(Cx plN []).2.1=0/\(Cx plN []).q=1:=by
 have h:Iv plN []=Y ((([],[],0,[],[],zg.mk [] (0,0,[]) [] []),[]),0,1,()):=
  zQ (i:=zfd plN []) (r:=(tup [agg [X [],nils,J 0,nils,nils,X [],J 0,J 0,X [],X [],nils,nils],J 0,J 1],[])) kw rfl
 unfold Cx;rw[h];exact⟨rfl,rfl⟩
theorem WT{s:zT}(n:zr)(hx:∀x∈s,RgR x)(h1:RgS g):xz s g n=Y (Z,()):=by
 have⟨p,h2,ok,h,F⟩:=zbm hx h1;have E:AX s g=Z:=by unfold AX;rw[h];rfl
 have G:FB s g=(p,h2,ok):=by unfold FB;rw[h];rfl
 have hl:(eH n).length<=14:=by unfold eH;rw[cY,oC];omega
 cases ok with
 | false=>
  have hs:=Xo (eH n);have s1:pG ([],[],[],([],[],0,[],[],zg.mk [] (0,0,[]) [] []),[],0) [] (eH n)=Z:=by unfold pG;show(iL plN [] (eH n)).isSome=Z;rw[hs];rfl
  have s2:wO ([],[],[],([],[],0,[],[],zg.mk [] (0,0,[]) [] []),[],0) [] (eH n)=((([],[],0,[],[],zg.mk [] (0,0,[]) [] []),[]),0,1):=by unfold wO;show o3 (iL plN [] (eH n))=_;rw[hs];rfl
  have t1:(Cx ([],[],[],([],[],0,[],[],zg.mk [] (0,0,[]) [] []),[],0) []).2.1=0:=Nz.1;have t2:(Cx ([],[],[],([],[],0,[],[],zg.mk [] (0,0,[]) [] []),[],0) []).q=1:=Nz.2;refine zQ (r:=(.bool Z,[])) ?_ rfl;simp only[i6q,zn,aN,Q8,E,G,s1,s2,t1,t2,BEq.rfl,aG,rB.1,rB.2,dd,zi]
 | true=>
  obtain⟨db,_,_,_,d,rfl,hw,e,_⟩:=F rfl;have hL:=d.few;have h3:=d.rel.few;obtain⟨us,t⟩:∃us:zr,eH n=us:=⟨_,rfl⟩;rw[t]at hl;have sA:=zca (us:=us) d e S;have qA:=P9 (us:=us) d e S;have sU:=zsJ d e;have B:=P9 (us:=cD p (zD db p)) d e S;rw[JN d.nodup]at B;have⟨w1,w2⟩:=d.qAll hw;have⟨gA,bA⟩:=ka d (bZ us) (iR us);have⟨gU,bU⟩:=ka d (cD p (zD db p)) d.nodup;have pA:=oS (k:=zO p.r.1.q.1) ((bZ us).flatMap (cA db p));have pU:=oS (k:=zO p.r.1.q.1) ((cD p (zD db p)).flatMap (cA db p));have kA:=λr j=>mw d e (l:=bZ us) r (pA.mem_iff.1 j)
  have kU:=λr j=>mw d e (l:=cD p (zD db p)) r (pU.mem_iff.1 j)
  have lA:=pA.length_eq;have lU:=pU.length_eq;generalize mA (zO p.r.1.q.1) ((bZ us).flatMap (cA db p))=a at sA qA kA lA;generalize mA (zO p.r.1.q.1) ((cD p (zD db p)).flatMap (cA db p))=u at sU B kU lU;have v:pG p (zD db p) us=Z/\wO p (zD db p) us=((p.r.1,a),((fg db p (bZ us):Nat):Int),0):=⟨by unfold pG;rw[sA];rfl,by unfold wO;rw[sA];rfl⟩;have z:o7 p (zD db p) us=Z/\tL p (zD db p) us=((p.r.1,a),((fg db p (bZ us):Nat):Int)):=⟨by unfold o7;rw[qA];rfl,by unfold tL;rw[qA];rfl⟩;have y:Yj p (zD db p)=Z/\Cx p (zD db p)=((p.r.1,u),((fg db p (cD p (zD db p)):Nat):Int),0):=⟨by unfold Yj;rw[sU];rfl,by unfold Cx;rw[sU];rfl⟩;have A:o7 p (zD db p) (cD p (zD db p))=Z/\tL p (zD db p) (cD p (zD db p))=((p.r.1,u),((fg db p (cD p (zD db p)):Nat):Int)):=⟨by unfold o7;rw[B];rfl,by unfold tL;rw[B];rfl⟩;have⟨m1,m2⟩:=JJ d e (rows:=a) S λr j=>(kA r j).q
  have⟨m3,m4⟩:=JJ d e (rows:=u) S λr j=>(kU r j).q
  refine zQ (r:=(.bool Z,[])) ?_ rfl;by_cases h0:N us=0
  .have z1:((N us:Int)==0)=Z:=by rw[h0];rfl
   simp only[i6q,zn,aN,Q8,E,G,t,v.1,v.2,z.1,z.2,y.1,y.2,A.1,A.2,w1,w2,m1,m2,m3,m4,z1,gj,aJ,bW,rB.2,zA,zi,zm]
  .have z1:((N us:Int)==0)=M:=by rw[dM];omega
   have z2:zK 0 (N us)=Z:=zu (i:=0) S;have C:=Yo d e (T us (W 0) (Q R));have D:=Qo d e (T us (W 0) (Q R));have hg:∀r∈cA db p (T us (W 0) (Q R)),N r<=1000000:=λr j=>by
    have:=(mw d e (l:=[T us (W 0) (Q R)]) r (by simpa using j)).q;omega
   have h4:(cA db p (T us (W 0) (Q R))).length<=200:=aV Fo (aV (List.length_filter_le _ _) d.rel.few);have⟨r1,r2⟩:=Cf S hg;generalize cA db p (T us (W 0) (Q R))=c at C D r1 r2;have c5:QP p (zD db p) (T us (W 0) (Q R))=Z/\Yn p (zD db p) (T us (W 0) (Q R))=(c,((lC db p (T us (W 0) (Q R)):Nat):Int),0):=⟨by unfold QP;rw[C];rfl,by unfold Yn;rw[C];rfl⟩;have c6:mG p (zD db p) (T us (W 0) (Q R))=Z/\qh p (zD db p) (T us (W 0) (Q R))=(c,((lC db p (T us (W 0) (Q R)):Nat):Int)):=⟨by unfold mG;rw[D];rfl,by unfold qh;rw[D];rfl⟩;simp only[i6q,zn,aN,Q8,E,G,t,v.1,v.2,z.1,z.2,y.1,y.2,A.1,A.2,w1,w2,m1,m2,m3,m4,z1,z2,c5.1,c5.2,c6.1,c6.2,r1,r2,BEq.rfl,nu,aG,gj,aJ,bW,rB.1,rB.2,zA,zi,zm]
open Go Go.RowKit Go.ChangeShapes
variable {x A:World}
theorem Le(g:A.os=x.os)(d:A.output=x.output)(h:∀b,b<x.heap.size->A.heap[b]?=x.heap[b]?)(j:MemPlace->Prop):x.keptBut A j:=by
 refine⟨g,d,λi n=>?_⟩;rw[h i n];cases x.heap[i]? with
 |none=>rfl
 | some o=>
  cases o with
  |cells c t s=>exact⟨rfl,rfl,rfl,λ_ _=>rfl⟩
  |map q e=>exact .inr ⟨rfl,rfl⟩
  |_=>rfl
section
variable {H:Type} {enc:TypeId×Value->H} {P:Program}
variable {v:Value}
theorem Pf{f:Func}{y:ChangeSpec}{B d z:Bool}{h A:World}{c:Array Value}{F G:List (DataW H)}{x pa pv:List MemPlace}
  (hW:DataW.Whole enc P f.params.toList y.vars M h c.toList F G x)
  (s:∀(b:Nat)(E:Nat->Bool)(hd:Bool),DataW.TrodAll enc P A b E hd f.resultTypes.toList (v.resultList f.resultTypes.size) (y.fn H (F++G)).results [])
  (e:∀E:Nat->Bool,(∀p∈x,E p.block=Z)->DataW.TrodAll enc P A 0 E Z f.params.toList c.toList (y.fn H (F++G)).args pa)
  (g:∀E:Nat->Bool,(∀p∈x,E p.block=Z)->DataW.TrodVars enc P A E y.vars (y.fn H (F++G)).vars pv)
  (C:x=pa++pv) (hk:h.keptBut A (·∈x)) (h1:∀a:Addr,a.block<h.heap.size->A.frozen? a=h.frozen? a)
  (h3:∀(j:Nat)(t:TypeId)(r:Value),f.resultTypes[j]?=Y t->(v.resultList f.resultTypes.size)[j]?=Y r->Value.okWide P A .any 0 t r):
  y.post enc P f M B d z h c v A:=by
 have q:∀p∈x,(λb=>Q0 (b<h.heap.size)) p.block=Z:=λp n=>by simpa using hW.lt p n
 have h2:=hW.lt;refine⟨F,G,x,[],pa,pv,hW,s _ _ _,e _ q,g _ q,World.keptBut_mono (λp n=>⟨n,?_⟩) hk,λ_=>?_⟩
 .rw[C,dl]at n;exact Or.inr n
 .have⟨_,_,_,_,_,hz,hn⟩:=hW;refine⟨h3,_,_,([]++pa)++pv,⟨[]++pa,pv,trodAll_append (e _ (λ_ _=>rfl)) (s _ _ _),g _ (λ_ _=>rfl),rfl,?_,?_⟩,?_⟩
  .intro b D n;have h0:MemPlace.cell b D∈x:=by rw[C];simpa using n
   rw[h1 ⟨b,D,none⟩ (h2 _ h0)];exact hz b D h0
  .intro ha;cases ha
  .intro p n _;rw[C];simpa using n
variable {x:World}{r:Go.Reach}{b:Nat}{t:TypeId}
theorem W6{d:Array Field}(e:P.underlying t=Y (.struct d))(h:Value.okWide P x r b t v):∃c,v=.agg c:=by unfold Value.okWide at h;rw[e]at h;obtain⟨c,rfl,_⟩:=h;exact⟨c,rfl⟩
variable {e:TypeId}
theorem za0(d:P.underlying t=Y (.slice e))(h:Value.okWide P x r b t v):∃a n c,v=.slice a n c:=by
 unfold Value.okWide at h;rw[d]at h;simp only at h;unfold Cell.okWide at h;rw[d]at h;unfold Cell.ok at h;rw[d]at h;cases v<;>simp at h
 exact⟨_,_,_,rfl⟩
variable {k:IntKind}
theorem zor(c:P.underlying t=Y (.int k))(h:Value.okWide P x r b t v):∃n,v=.int k n:=by
 unfold Value.okWide at h;rw[c]at h;simp only at h;unfold Cell.okWide at h;rw[c]at h;unfold Cell.ok at h;rw[c]at h;cases v<;>simp at h
 exact⟨_,by rw[h.1]⟩
variable {c:World}{n:Nat}{j:DataW H}{A:List MemPlace}
theorem RM{y:Array Field}{s:Sh}(e:SX P n t s=Z)(q:s.isAgg=Z)(z:P.underlying t=Y (.struct y))(d:Value.okWide P c r b t v)
  (h:DataW.Trod enc P c 0 (λ_=>Z) Z t v j A):∃x:L s,Rv c U0 jH (zX s x) v:=by refine CO e h ⟨λ_=>q,λ_=>W6 z d⟩ (λg=>?_);rw[q]at g;cases g
theorem Wx{d:World}{s:Sh}(y:SX P n t (.sl s)=Z)(z:P.underlying t=Y (.slice e))(q:Value.okWide P d r b t v)
  (h:DataW.Trod enc P d 0 (λ_=>Z) Z t v j A):∃x:List (L s),Rv d U0 jH (.sl s x) v:=by obtain⟨a,m,c,rfl⟩:=za0 z q;exact CO (s:=.sl s) y h ⟨(λ⟨_,g⟩=>(by cases g)),(λg=>(by cases g))⟩ (λ_=>rfl)
theorem ze7{y:List MemPlace}(g:SX P n t (.int k)=Z)(q:P.underlying t=Y (.int k))(e:Value.okWide P c r b t v)
  (h:DataW.Trod enc P c 0 (λ_=>Z) Z t v j y):∃x:Int,Rv c U0 jH (.int k x) v:=by obtain⟨m,rfl⟩:=zor q e;exact CO (s:=.int k) g h ⟨(λ⟨_,d⟩=>(by cases d)),(λd=>(by cases d))⟩ (λ_=>rfl)
theorem QZ{q:Nat->AV}{k:FuncId}{F:ak}(s:ou P q k F){jj:List AV}{args:Array Value}(d:DP q x U0)(y:dn x U0 jH jj args.toList)(z:(F jj (λ_=>.dead) 0).val=Y {val:=.bool Z})(g:AV.idsL jj=[]):
  Calls P k args x λe n=>e=.returned (.bool Z)/\lz x n/\∀b,b<x.heap.size->n.heap[b]?=x.heap[b]?:=by have:=(s.calls x U0 jH (λ_=>.dead) 0 jj args.toList _ [] z y (λ_ h=>h.elim) d ⟨sw,sw⟩ (by rw[g];simp) sw sw).1;rw[show args.toList.toArray=args by simp]at this;refine this.mono ?_;rintro e B ⟨v,A,C,rfl,c⟩;have j:=c.val;cases j;exact⟨rfl,c.ext,λb t=>c.same b t sw⟩
end
open Go Go.Proofs Go.RowKit Go.ChangeShapes Go.WideShapes Go.ChangeAt Go.Proofs.YtjdjldbhjmgmkaaGreatDoor
theorem OQ{P:Program}{w:World}:∀{l:List (String×DataW Unit)}{s:List MemPlace},DataW.LaidVars P w l s->∀n d,(n,d)∈l->
  ∃g t c x p,P.globalNamed n=Y g/\(P.globals[g]?).map (·.type)=Y t/\w.var? P n=Y c/\DataW.trod (λ_=>()) P w 0 (λ_=>Z) M x t c.toList=Y (d,p)
 |[],_,_,_,_,h=>by simp at h
 | (n0,C)::r,s,h,n,d,j=>by
  have⟨g,t,c,x,p,q,v,y,z,A,B,_⟩:=h;rcases ce.1 j with e|j
  .cases e;exact⟨g,t,c,x,p,v,y,z,A⟩
  .exact OQ B n d j
variable {P:Program}{l:List (String×DataW Unit)}{w:World}
theorem Li(d:(l.filter λx=>x.2.handleName?.isSome).isEmpty=Z)(h:laidMetH P l w):laidMet P l w:=by
 unfold laidMetH at h;split at h
 .exact h
 next a b c=>rw[c]at d;simp at d
variable {H:Type}{n:Nat}{t:TypeId}{c:List Value}{p:List MemPlace}
theorem sO{enc:TypeId×Value->H}{x:Nat}{g:Nat->Bool}{B:Bool}(e:P.underlying t=Y .string){b:List UInt8}
  (h:DataW.trod enc P w x g B n t c=Y (.lit (.string b),p)):c=[.string ⟨b.toArray⟩]:=by
 cases n with
 |zero=>simp[DataW.trod]at h
 | succ n=>
  unfold DataW.trod at h;rw[e]at h;split at h
  all_goals first
   |(rename_i d;cases d;done)
   |(rename_i d _;cases d;done)
   |(simp at h;done)
   |skip
  rename_i s d;split at h
  .simp only[bH,cQ,DataW.lit.injEq,Lit.string.injEq]at h;rw[<-h.1]
  .cases h
variable {s:Nat->Bool}
theorem zcr{enc:TypeId×Value->H}{x:Nat}{B:Bool}(e:P.underlying t=Y (.int .u64)){E:Int}
  (h:DataW.trod enc P w x s B n t c=Y (.lit (.int .u64 E),p)):c=[.int .u64 E]:=by
 cases n with
 |zero=>simp[DataW.trod]at h
 | succ n=>
  unfold DataW.trod at h;rw[e]at h;split at h
  all_goals first
   |(rename_i d;cases d;done)
   |(rename_i d _;cases d;done)
   |(simp at h;done)
   |skip
  all_goals(try split at h)
  all_goals first
   |(cases h;done)
   |(simp at h;done)
   |skip
  all_goals simp_all
variable {e:TypeId}
theorem It{n:World}(h:laidMet prog l n){s:String}{g:Nat}{len:Nat}{ds:List (DataW Unit)}(hm:(s,DataW.agg ds)∈l)
  (hg:prog.globalNamed s=Y g) (ht:(prog.globals[g]?).map (·.type)=Y t) (hu:prog.underlying t=Y (.array len e)) (hc:prog.cellsOf e=1):
  ∃A x y,n.heap[g]?=Y (.cells A x y)/\∀(j:Nat) d,ds[j]?=Y d->∃q p,DataW.trod (λ_=>()) prog n 0 (λ_=>Z) M q e ((A.toList.drop j).take 1)=Y (d,p):=by
 have⟨ps,hL,_,_⟩:=h;have⟨g',t',A,q,p,h1,h2,z,v⟩:=OQ hL s _ hm;rw[hg]at h1;cases h1;rw[ht]at h2;cases h2;have E:∃x y,n.heap[g]?=Y (.cells A x y):=by
  unfold World.var? at z;rw[hg]at z;simp only[Option.bind_some]at z;split at z
  next c x y hh=>cases z;exact⟨x,y,hh⟩
  .cases z
 have⟨x,y,B⟩:=E;refine⟨A,x,y,B,?_⟩;cases q with
 |zero=>simp[DataW.trod]at v
 | succ q=>
  unfold DataW.trod at v;rw[hu]at v;simp only at v;split at v
  .rw[dV]at v;have⟨xs,G,hx⟩:=v;simp only[cQ,DataW.agg.injEq]at hx;have⟨hl,F⟩:=FI G;intro j d C;rw[<-hx.1,dN,dV]at C;obtain⟨⟨d',p'⟩,C,rfl⟩:=C;have D:j<N xs:=(dF.1 C).1;have hr:(List.range len)[j]?=Y j:=by
    rw[BG];rw[hl,List.length_range]at D;exact D
   have:=F j j hr;rw[C,hc,Nat.mul_one]at this;exact⟨q,p',this⟩
  .cases v
variable {v:Value}
theorem Ve{c:Array Value}{j:Nat}(h:(c.toList.drop j).take 1=[v]):c[j]?=Y v:=by have:=congrArg (·[0]?) h;simp only[List.getElem?_take,D2]at this;simpa using this
theorem gl0{d:World}(h:laidMet prog l d)(F:("caddis/stmt.types",Rows.laid_caddis_stmt_types)∈l):Rv d U0 jH (.eptr [.str [73,78,84],.str [84,69,88,84],.str [66,79,79,76]] 0) (.pointer (Q1 ⟨1,0,none⟩)):=by
 have⟨A,x,fr,E,v⟩:=It h (g:=1) (t:=347) (e:=9) (len:=3) F kw kw kw kw;have s:prog.underlying 9=Y .string:=by kernel_rfl
 have n:∀j,d.cell? ⟨1,j,none⟩=A[j]?:=by
  intro j;unfold World.cell?;rw[E];rfl
 have⟨_,_,B⟩:=v 0 _ rfl;have⟨_,_,C⟩:=v 1 _ rfl;have⟨_,_,D⟩:=v 2 _ rfl;have z:=Ve (sO s B);have G:=Ve (sO s C);have w2:=Ve (sO s D);refine .eptr [.str [73,78,84],.str [84,69,88,84],.str [66,79,79,76]] 0 1 0 (λj=>match j with
  |0=>.string ⟨#[73,78,84]⟩
  |1=>.string ⟨#[84,69,88,84]⟩
  |_=>.string ⟨#[66,79,79,76]⟩) (wT (by rw[n];exact z)) (λh=>h) ?_ ?_ ?_
 .intro j y
  match j,y with
  |0,_=>rw[n];exact z
  |1,_=>rw[n];exact G
  |2,_=>rw[n];exact w2
 .intro j y
  match j,y with
  |0,_=>rfl
  |1,_=>rfl
  |2,_=>rfl
 .intro j c q
  match j,q with
  |0,q=>simp at q;subst q;exact .str [73,78,84] (by simp[aF])
  |1,q=>simp at q;subst q;exact .str [84,69,88,84] (by simp[aF])
  |2,q=>simp at q;subst q;exact .str [66,79,79,76] (by simp[aF])
  |j+3,q=>simp at q
set_option maxRecDepth 100000 in
theorem gl2(h:x.ShapedOpen prog):Rv x U0 jH .gint (.pointer (Y ⟨0,0,none⟩)):=by
 have s:((begin prog (λ_ _=>0) default).world.heap[0]?).bind Obj.row?=Y (#[.int .i64 0],3):=by kernel_rfl
 have⟨d,y,C,B⟩:=h.1 0 _ _ (lq kw) s;have⟨G,g,_,e⟩:=B kw;have v:prog.cellTypes prog.depth 3=Y [3]:=by kernel_rfl
 rw[v]at g;cases g;have t:d.size=1:=C;have⟨u,D,c⟩:=e 0 d[0] sw;have:u=3:=by simpa using D.symm
 subst this;have z:prog.underlying 3=Y (.int .i64):=by kernel_rfl
 unfold Cell.ok at c;rw[z]at c;have j:d=#[d[0]]:=by
  apply Array.ext
  .simp[t]
  .intro i E F;have:i=0:=by omega
   subst this;rfl
 cases q:d[0]<;>rw[q]at c<;>simp at c
 rename_i k n;obtain⟨rfl,A⟩:=c;refine .gint n 0 3 (0,0) A ?_ (λh=>h);rw[y,j,q]
theorem gl5{c:World}(h:laidMet prog l c)(hs:c.ShapedOpen prog)(hm:("internal/strconv.uint64pow10",Rows.laid_internal_strconv_uint64pow10)∈l):Rv c U0 jH (.tab .u64 nY) (.pointer (Q1 ⟨5,0,none⟩)):=by
 have⟨n,x,E,C,hd⟩:=It h (g:=5) (t:=391) (e:=268) (len:=20) hm kw kw kw kw;have hu:prog.underlying 268=Y (.int .u64):=by kernel_rfl
 have F:((begin prog (λ_ _=>0) default).world.heap[5]?).bind Obj.row?=Y (Array.replicate 20 (.int .u64 0),391):=by kernel_rfl
 have⟨q,y,A,_⟩:=hs.1 5 _ _ (lq kw) F;rw[C]at y;have s:n=q:=by simp only[bH,Obj.cells.injEq]at y;exact y.1
 have d:n.size=20:=by rw[s,A];simp
 have B:n=(nY.map λz=>Value.int .u64 z).toArray:=by
  apply Array.ext
  .rw[d];rfl
  .intro i G h2;have v:∀(j:Nat) z,nY[j]?=Y z->n[j]?=Y (.int .u64 z):=by
    intro j z hz;have⟨_,_,g⟩:=hd j (.lit (.int .u64 z)) (by
     have:(match(Rows.laid_internal_strconv_uint64pow10:DataW Unit)with|.agg l=>l|_=>[])=nY.map λz=>DataW.lit (.int .u64 z):=by kernel_rfl
     have D:(match(Rows.laid_internal_strconv_uint64pow10:DataW Unit)with|.agg l=>l|_=>[])[j]?=Y (.lit (.int .u64 z)):=by
      rw[this,dN,hz];rfl
     exact D)
    exact Ve (zcr hu g)
   have hi:i<N nY:=by simpa using h2
   have:=v i nY[i] (aj hi);rw[uD G,bH]at this;rw[this,List.getElem_toArray,List.getElem_map]
 exact .tab .u64 nY 5 x E (by rw[C,B]) (λh=>h)
theorem zaq:laidOutB prog=Z:=kw
def AQ(P:Program)(t:TypeId):Bool:=match P.underlying t with
 |some (.struct _)=>Z
 |_=>M
theorem Lc(h:AQ P t=Z):∃x,P.underlying t=Y (.struct x):=by
 unfold AQ at h;split at h
 .exact⟨_,‹_›⟩
 .cases h
theorem un4:prog.underlying 4=Y .bool:=kw
theorem zwJ{enc:TypeId×Value->H}(c:∀b,b<x.heap.size->A.heap[b]?=x.heap[b]?){d:DataW H}{g:List MemPlace}(y:prog.readableRec t=Z)(e:t<prog.types.size)
  (h:DataW.Trod enc prog x 0 (λ_=>Z) Z t v d g) (j:∀p∈g,p.block<x.heap.size)  (z:∀p∈g,s p.block=Z):DataW.Trod enc prog A 0 s Z t v d g:=
 WideElems.Trod_stays zaq y e h (λp q=>by
  have n:=c p.block (j p q);cases p with
  |cell b B=>exact World.cell?_of_block n
  |map b=>exact n) z
theorem ze3{h:World}(x:laidMet prog l h)(c:h.ShapedOpen prog)(d:("caddis/stmt.types",Rows.laid_caddis_stmt_types)∈l)(e:("internal/strconv.uint64pow10",Rows.laid_internal_strconv_uint64pow10)∈l):DP Wu h U0:=by
 intro g
 match g with
 |0=>exact gl2 c
 |1=>exact gl0 x d
 |2=>exact .any _
 |3=>exact .any _
 |4=>exact .any _
 |5=>exact gl5 x c e
 |g+6=>exact .any _
theorem W0{r:Go.Reach}{b:Nat}(c:P.underlying t=Y .string)(h:Value.okWide P x r b t v):∃n,v=.string n:=by
 unfold Value.okWide at h;rw[c]at h;simp only at h;unfold Cell.okWide at h;rw[c]at h;unfold Cell.ok at h;rw[c]at h;cases v<;>simp at h
 exact⟨_,rfl⟩
structure Cv (t:TypeId) (s:Sh):Prop where
 got:∀{H:Type}{enc:TypeId×Value->H}{W:World}{r:Go.Reach}{b:Nat}{v:Value}{d:DataW H}{ps:List MemPlace},Value.okWide prog W r b t v->DataW.Trod enc prog W 0 (λ_=>Z) Z t v d ps->∃x:L s,Rv W U0 jH (zX s x) v
 rd:prog.readableRec t=Z
 row:t<prog.types.size
set_option maxRecDepth 100000 in
theorem Cv.struct{s:Sh}(c:SX prog n t s=Z)(e:s.isAgg=Z)(g:AQ prog t=Z)(q:prog.readableRec t=Z)(d:t<prog.types.size):Cv t s where
 got:=λx h=>by
  have⟨v,j⟩:=Lc g;exact RM c e j x h
 rd:=q
 row:=d
set_option maxRecDepth 100000 in
theorem Cv.slice{s:Sh}(c:SX prog n t (.sl s)=Z)(g:prog.underlying t=Y (.slice e))(j:prog.readableRec t=Z)(d:t<prog.types.size):Cv t (.sl s) where
 got:=λx h=>Wx c g x h
 rd:=j
 row:=d
set_option maxRecDepth 100000 in
theorem Cv.int{k:IntKind}(c:SX prog n t (.int k)=Z)(e:prog.underlying t=Y (.int k))(g:prog.readableRec t=Z)(d:t<prog.types.size):Cv t (.int k) where
 got:=λx h=>ze7 c e x h
 rd:=g
 row:=d
set_option maxRecDepth 100000 in
theorem Cv.str(d:SX prog n t .str=Z)(e:prog.underlying t=Y .string)(g:prog.readableRec t=Z)(row:t<prog.types.size):Cv t .str where
 got:=λc h=>by
  obtain⟨m,rfl⟩:=W0 e c;exact CO (s:=.str) d h ⟨(λ⟨_,x⟩=>(by cases x)),(λx=>(by cases x))⟩ (λ_=>rfl)
 rd:=g
 row:=row
inductive QI:List TypeId->List Sh->Prop
 |nil:QI [] []
 |cons {t:TypeId} {s:Sh} {ts:List TypeId} {ss:List Sh} (h:Cv t s) (r:QI ts ss):QI (t::ts) (s::ss)
variable {q:List TypeId}{D:List Sh}
set_option maxRecDepth 100000 in
theorem QI.got(h:QI q D):∀{H:Type}{enc:TypeId×Value->H}{g:World}{base:Nat}{C:List Value}{E:List (DataW H)}{F:List MemPlace},
  (∀(j:Nat) t v,q[j]?=Y t->C[j]?=Y v->Value.okWide prog g .any base t v)->DataW.TrodAll enc prog g 0 (λ_=>Z) Z q C E F->
  E.length=N q/\(∃x:zH (D.map Y),dn g U0 jH (jj (D.map Y) x) C)/\
  ∀W',(∀b,b<g.heap.size->W'.heap[b]?=g.heap[b]?)->(∀p∈F,p.block<g.heap.size)->∀sp:Nat->Bool,(∀p∈F,sp p.block=Z)->DataW.TrodAll enc prog W' 0 sp Z q C E F:=by
 induction h with
 | nil=>
  intro H enc g base C E F _ hT;obtain⟨rfl,rfl,rfl⟩:=trodAll_nil hT;exact⟨rfl,⟨(),rfl,λj c v z=>by
   have h0:([]:List AV)[j]?=Y c:=z;simp at h0⟩,λ_ _ _ _ _=>trodAll_mk0⟩
 | @cons t s q D h r IH=>
  intro H enc g base C E F h1 hT;obtain⟨v,C,d,E,p,e,rfl,rfl,rfl,hd,B⟩:=trodAll_cons hT;have⟨x,hx⟩:=h.got (h1 0 t v rfl rfl) hd;have⟨hl,⟨y,hy⟩,hk⟩:=IH (λj t v ht hv=>h1 (j+1) t v ht hv) B;refine⟨by simp[hl],⟨(x,y),by show(zX s x::jj (D.map Y) y).length=_;simp[hy.len],λj c v' z hv=>?_⟩,λW' n G sp h2=>?_⟩
  .have z:(zX s x::jj (D.map Y) y)[j]?=Y c:=z;cases j with
   | zero=>
    simp only[List.getElem?_cons_zero,bH]at z hv;subst z;subst hv;exact hx
   |succ j=>exact hy.rv j c v' z hv
  .exact trodAll_cons_mk (zwJ n h.rd h.row hd (λp A=>G p (by simp[A])) (λp A=>h2 p (by simp[A]))) (hk W' n (λp A=>G p (by simp[A])) sp (λp A=>h2 p (by simp[A])))
theorem Tn:∀(d:List Sh)(x:zH (d.map Y)),AV.idsL (jj (d.map Y) x)=[]
 |[],_=>rfl
 | s::d,x=>by
  show(zX s x.1).ids++AV.idsL (jj (d.map Y) x.2)=[];rw[Tn d x.2,rx];unfold zX;have n:∀l:List AV,(∀c∈l,c.ids=[])->AV.idsL l=[]:=by
   intro l
   induction l with
   |nil=>intro _;rfl
   |cons c l v=>intro h;simp only[AV.idsL,h c sw,v λc e=>h c (by simp[e]),rx]
  have g:∀c∈zF s x.1,c.ids=[]:=λc e=>by
   obtain⟨j,t,rfl⟩:=fN e;exact nC s x.1 j _ (aj t)
  cases s.isAgg with
  |true=>exact n _ g
  | false=>
   cases q:zF s x.1 with
   |nil=>rfl
   |cons c l=>exact g c (by rw[q];simp)
set_option maxRecDepth 100000 in
theorem V0{k:FuncId}{f:Func}{s:ChangeSpec}{F:ak}(hF:ou prog Wu k F)(g:f.params=q.toArray)(G:QI q D)(h0:f.resultTypes=#[4])(y:s.vars=[])
  (h3:∀(H:Type)(A:List (DataW H)),N A=N q->s.fn H A={results:=[.lit (.bool Z)],args:=A})
   {enc:TypeId×Value->H} {c:World} {B:Nat} {args:Array Value} {A gs:List (DataW H)} {z:List MemPlace}
  (hv:∀x:zH (D.map Y),dn c U0 jH (jj (D.map Y) x) args.toList->(F (jj (D.map Y) x) (λ_=>.dead) 0).val=Y {val:=.bool Z})
  (h1:∀(j:Nat) t v,f.params[j]?=Y t->args[j]?=Y v->Value.okWide prog c .any B t v)
  (hW:DataW.Whole enc prog f.params.toList s.vars M c args.toList A gs z) (h4:DP Wu c U0):
  Calls prog k args c λe W'=>∃v,e=.returned v/\s.post enc prog f M Z M M c args v W':=by
 have E:=hW;obtain⟨p,h,h2,hV,rfl,h7,h8⟩:=hW;have hA:DataW.TrodAll enc prog c 0 (λ_=>Z) Z f.params.toList args.toList A p:=h2;rw[g]at hA;rw[y]at hV;obtain⟨rfl,rfl⟩:=trodVars_none hV;have h5:=E.lt;have⟨hl,⟨x,hx⟩,hk⟩:=G.got (base:=B) (λj t v ht hv=>h1 j t v (by rw[g];simpa using ht) (by simpa using hv)) hA;have hc:=QZ hF (args:=args) h4 hx (hv x hx) (Tn D x);refine hc.mono λe' W' ⟨he,d,n⟩=>?_
 subst he;have C:s.fn H (A++[])={results:=[.lit (.bool Z)],args:=A}:=by rw[rx];exact h3 H A hl
 refine⟨_,rfl,Pf (pa:=p) (pv:=[]) E (λ_ _ _=>?_) (λsp h6=>?_) (λ_ _=>?_) sw (Le d.os d.out n _) d.fr (ok_one h0 rfl (okWide_bool_mk un4 _))⟩
 .rw[C,h0];exact trodAll_cons_mk (shut_bool un4 _) trodAll_mk0
 .rw[C,g];exact hk W' n (λp G=>h5 p (by simpa using G)) sp (λp G=>h6 p (by simpa using G))
 .rw[C,y];rfl
open Go Go.Proofs Go.RowKit Go.ChangeShapes Go.WideShapes Go.ChangeAt
section
variable {w:World} {U:Nat->Prop} {ρ:Nat->Option Value}
def QG(w:World)(U:Nat->Prop)(ρ:Nat->Option Value)(l:List AV):Prop:=∀(j:Nat)(c:AV),l[j]?=Y c->∃v,Rv w U ρ c v
variable {v:Value}
theorem OF{E:Int}(h:Rv w U ρ (J E) v):-9223372036854775808<=E/\E<=9223372036854775807:=by
 cases h with
 |int _ _ h=>simpa[dw,IntKind.min,IntKind.max,IntKind.signed,IntKind.bits]using h
theorem up{e:Sh}{l:List (L e)}(h:Rv w U ρ (.sl e l) v):∀x∈l,QG w U ρ (zF e x):=by
 intro x g;cases h with
 |sl0=>simp at g
 | sl _ _ _ _ _ n z A y t d s=>
  obtain⟨i,q,rfl⟩:=fN g;exact λj c h=>⟨_,s i q j c h⟩
theorem ZO{G:zo}(h:QG w U ρ (zF R G)):RgV G:=by have⟨_,h⟩:=h 1 _ rfl;exact OF h
mutual
theorem Fp:∀(e:zg),QG w U ρ (zF .expr e)->XD e
 | .mk j v s l,h=>by
  rw[XD];have⟨_,c⟩:=h 2 _ rfl;have⟨_,d⟩:=h 5 _ rfl;exact⟨OF c,TU l λx g=>up d x g⟩
theorem TU:∀(l:List zg),(∀x∈l,QG w U ρ (zF .expr x))->Kx l
 |[],_=>by rw[Kx];trivial
 |x::r,h=>by rw[Kx];exact⟨Fp x (h x sw),TU r λy c=>h y (by simp[c])⟩
end
theorem zna{z:ag}(h:QG w U ρ (zF zl z)):RgR z where
 chk:=Fp _ λj c x=>match j,x with
  |0,x=>h 5 c x
  |1,x=>h 6 c x
  |2,x=>h 7 c x
  |3,x=>h 8 c x
  |4,x=>h 9 c x
  |5,x=>h 10 c x
  |j+6,x=>by simp[zF]at x
 vals:=by
  have⟨_,h⟩:=h 11 _ rfl;intro r d v e;have⟨_,h⟩:=up h r d 0 _ rfl;exact ZO (up h v e)
end
variable {U:Nat->Prop}{ρ:Nat->Option Value}
theorem X9{C:List AV}(h:Rv w U ρ (.agg C) v):QG w U ρ C:=by
 intro j c x;cases h with
 | agg _ d q n g=>
  have e:j<N d:=by have:=(dF.1 x).1;omega
  exact⟨d[j],g j c _ x (aj e)⟩
theorem znb(h:QG w U ρ (zF aB g)):RgS g where
 chk:=Fp _ λj c d=>match j,d with
  |0,d=>h 8 c d
  |1,d=>h 9 c d
  |2,d=>h 10 c d
  |3,d=>h 11 c d
  |4,d=>h 12 c d
  |5,d=>h 13 c d
  |j+6,d=>by simp[zF]at d
 whr:=Fp _ λj c d=>match j,d with
  |0,d=>h 16 c d
  |1,d=>h 17 c d
  |2,d=>h 18 c d
  |3,d=>h 19 c d
  |4,d=>h 20 c d
  |5,d=>h 21 c d
  |j+6,d=>by simp[zF]at d
 row:=by
  have⟨_,h⟩:=h 14 _ rfl;exact λv e=>ZO (up h v e)
 sets:=by
  have⟨_,h⟩:=h 15 _ rfl;intro x n;have h:=up h x n;exact Fp _ λj c d=>match j,d with
   |0,d=>h 1 c d
   |1,d=>h 2 c d
   |2,d=>h 3 c d
   |3,d=>h 4 c d
   |4,d=>h 5 c d
   |5,d=>h 6 c d
   |j+6,d=>by simp[zF]at d
theorem QX(x:zH ([.sl zl,aB,(.sl R)].map Y)){g:World}(A:dn g U0 jH (jj ([.sl zl,aB,(.sl R)].map Y) x) c):(F6q (jj ([.sl zl,aB,(.sl R)].map Y) x) (λ_=>.dead) 0).val=Y {val:=.bool Z}:=by
 have⟨db,s,l,u⟩:=x;have A:dn g U0 jH [.sl zl db,zX aB s,.sl R l] c:=A;have F:=A.len;have n:∀j d,([.sl zl db,zX aB s,.sl R l]:List AV)[j]?=Y d->∃v,Rv g U0 jH d v:=λj d C=>by
  have B:j<N c:=by rw[<-F];exact(dF.1 C).1
  exact⟨c[j],A.rv j d _ C (aj B)⟩
 have⟨G,D⟩:=n 0 _ rfl;have⟨v1,E⟩:=n 1 _ rfl;have e:s=(s.1,s.2.1,s.q.1,s.r.1,s.t.1,s.u.1,s.v.1,s.w.1,zw s.x.1,s.y.1,s.z.1,zw s.s.1,s.p):=by rw[zn,zn]
 have h:(F6q [.sl zl db,zX aB s,.sl R l] (λ_=>.dead) 0).val=(I (xz db (s.1,s.2.1,s.q.1,s.r.1,s.t.1,s.u.1,s.v.1,s.w.1,zw s.x.1,s.y.1,s.z.1,zw s.s.1,s.p) l).isSome (Tr.ok ({val:=.bool ((xz db (s.1,s.2.1,s.q.1,s.r.1,s.t.1,s.u.1,s.v.1,s.w.1,zw s.x.1,s.y.1,s.z.1,zw s.s.1,s.p) l).getD (ct [.bool])).1}:gB))).val:=by kernel_rfl
 show(F6q [.sl zl db,zX aB s,.sl R l] (λ_=>.dead) 0).val=_;rw[h,<-e,WT l (up D · · |>zna) (znb (X9 E))];rfl
end
end Cad
