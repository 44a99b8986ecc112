/- Rows. -/
import Derived.Test.YtjdjldbhjmgmkaaGreatDoorP23
namespace Cad
open Go Go.Proofs
open List renaming length->X
open IntKind renaming wrap->Γ,i64->Δ
open Tr renaming chk->Qc,val->Q8
open Sh renaming bool->Q7
open Bool renaming true->O,false->S
open Option renaming some->M
open Decidable renaming decide->T
open Int renaming toNat->Z
open List renaming getD->Y
open Tr (chk br re)
open AV (nils agg tup ptr kb)
open AV renaming str->I,sl->N
open Cad renaming ow->W,zi->Q,ai->L,Sem->J,ze->R
set_option maxHeartbeats 4000000
noncomputable section
section
variable (o:SM) (k:Int)
theorem zbA(l:List zr)(a m b mid n p z d:Nat)(hn:X l<=1000)(h0:d<=1000)(hp:p<=2000)(hB:∀c,z<=c->c<d->c+c<p/\p<X l+c):∀(s i j:Nat),j-i<=s->z<=i->i<=j->j<=d->(j=d\/¬l.Pairwise (lY k))->
  ∃x,z<=x/\x<=d/\(x=d\/¬l.Pairwise (lY k))/\zH (cr o) s (.h33 (a:Int) (m:Int) (b:Int) k (mid:Int) (n:Int) (i:Int) (j:Int) (p:Int) l) (.h33 (a:Int) (m:Int) (b:Int) k (mid:Int) (n:Int) (x:Int) (x:Int) (p:Int) l):=by
 intro s
 induction s with
 | zero=>
  intro i j h1 q h3 t v;obtain rfl:i=j:=by omega
  exact⟨i,q,t,v,zH.refl _⟩
 | succ s E=>
  intro i j h1 q h3 t v;by_cases e:i<j
  case neg=>
   obtain rfl:i=j:=by omega
   exact⟨i,q,t,v,(zH.refl _).mono W⟩
  have e0:=nr i j W;have hh:i<=(i+j)/2/\(i+j)/2<j:=by omega
  generalize(i+j)/2=h at e0 hh;have⟨b1,b2⟩:=hB h W W;have U:Γ Δ ((p:Int)-(h:Int))=((p-h:Nat):Int):=by rw[wI _ W W];omega
  have F:zL ((h:Nat):Int) (X l)=O:=zx W;have G:T (h<X l)=O:=by simp;omega
  have H:zL ((p-h:Nat):Int) (X l)=O:=zx W;have P:T (p-h<X l)=O:=by simp;omega
  by_cases y:lY k (l.getD (p-h) (Q ze.sl)) (l.getD h (Q ze.sl))
  .have⟨x,A,B,C,D⟩:=E i h W q W W (.inr (CL (i:=h) (j:=p-h) W W _ y));refine⟨x,A,B,C,((zH.of ?_).trans D).mono W⟩;have w:T (LT.lt (α:=Int) (aF (fb k (l.getD (p-h) (Q ze.sl))) (fb k (l.getD h (Q ze.sl)))) 0)=O:=zB y;simp only[cr,Q8,e0,U,aH];rw[fe,iq];simp only[zN e,F,G,H,P,w,zj,cj,zD,zm]
  .have⟨x,A,B,C,D⟩:=E (h+1) j W W W t v;refine⟨x,A,B,C,((zH.of ?_).trans D).mono W⟩;have w:T (LT.lt (α:=Int) (aF (fb k (l.getD (p-h) (Q ze.sl))) (fb k (l.getD h (Q ze.sl)))) 0)=S:=aB y;simp only[cr,Q8,e0,U,aH];rw[fe,iq];simp only[zN e,F,G,H,P,w,zj,dp,zu h um]
theorem SZ{a b c d:Nat}:(cond (T ((a:Int)<(b:Int))) (T ((c:Int)<(d:Int))) S)=T (a<b/\c<d):=by
 by_cases h:a<b
 .have:T ((a:Int)<(b:Int))=O:=by simpa using h
  rw[this];simp[h]
 .have:T ((a:Int)<(b:Int))=S:=by simpa using h
  rw[this];simp[h]
theorem zbz{D:Nat}(E:∀(l:List zr)(a m b:Nat),X l<=1000->a<m->m<b->b<=X l->b-a<=D->∃w,o l a m b k=M w/\Kp k l w)(l:List zr)(a m b mid n st en:Nat)(p:Int)(B:X l<=1000)(hb:b<=X l)(he:n=st+en)(_:n<=2000)
  (_:a<=st) (h2:en<=b) (G:mid-a<=D) (H:b-mid<=D) (P:mid<=b) (hr:st<m->m<en->¬l.Pairwise (lY k)):
  ∃w,Kp k l w/\(cr o (.h33 (a:Int) (m:Int) (b:Int) k (mid:Int) (n:Int) (st:Int) (st:Int) p l)).val=M (.inr (.tup [],[.vec ze.sl w])):=by
 have e0:Γ Δ ((n:Int)-(st:Int))=(en:Int):=by rw[wI _ W W];omega
 have F:T ((st:Int)<(st:Int))=S:=by simp
 obtain⟨e,y,v⟩:∃e,Kp k l e/\(ite (st<m/\m<en) (LU l st m en k=M e) (e=l)):=by
  by_cases h:st<m/\m<en
  .have⟨e,z,A⟩:=zoa l st m en k B h.1 h.2 W;exact⟨e,Kp.perm A (hr h.1 h.2),by rw[zf h];exact z⟩
  .exact⟨l,Kp.refl,by rw[zh h]⟩
 obtain⟨j,C,s⟩:∃j,Kp k e j/\(ite (a<st/\st<mid) (o e a st mid k=M j) (j=e)):=by
  by_cases h:a<st/\st<mid
  .have⟨j,z,A⟩:=E e a st mid (by rw[y.len];exact B) h.1 h.2 (by rw[y.len];omega) G;exact⟨j,A,by rw[zf h];exact z⟩
  .exact⟨e,Kp.refl,by rw[zh h]⟩
 obtain⟨t,p5,x⟩:∃t,Kp k j t/\(ite (mid<en/\en<b) (o j mid en b k=M t) (t=j)):=by
  by_cases h:mid<en/\en<b
  .have⟨t,z,A⟩:=E j mid en b (by rw[C.len,y.len];exact B) h.1 h.2 (by rw[C.len,y.len];omega) H;exact⟨t,A,by rw[zf h];exact z⟩
  .exact⟨j,Kp.refl,by rw[zh h]⟩
 refine⟨t,(y.trans C).trans p5,?_⟩;simp only[cr,Q8,e0,F,SZ,zD,zm];by_cases q:st<m/\m<en
 .rw[zf q]at v;by_cases d:a<st/\st<mid
  .rw[zf d]at s;by_cases c:mid<en/\en<b
   .rw[zf c]at x;simp only[zB q,zB d,zB c,v,s,x,dw,bI,zj]
   .rw[zh c]at x;subst x;simp only[zB q,zB d,aB c,v,s,dw,bI,zj,zD,zm]
  .rw[zh d]at s;subst s;by_cases c:mid<en/\en<b
   .rw[zf c]at x;simp only[zB q,aB d,zB c,v,x,dw,bI,zj,zD,zm]
   .rw[zh c]at x;subst x;simp only[zB q,aB d,aB c,v,dw,bI,zj,zD,zm]
 .rw[zh q]at v;subst v;by_cases d:a<st/\st<mid
  .rw[zf d]at s;by_cases c:mid<en/\en<b
   .rw[zf c]at x;simp only[aB q,zB d,zB c,s,x,dw,bI,zj,zD,zm]
   .rw[zh c]at x;subst x;simp only[aB q,zB d,aB c,s,dw,bI,zj,zD,zm]
  .rw[zh d]at s;subst s;by_cases c:mid<en/\en<b
   .rw[zf c]at x;simp only[aB q,aB d,zB c,x,dw,bI,zj,zD,zm]
   .rw[zh c]at x;subst x;simp only[aB q,aB d,aB c,zD,zm]
end
variable {l c:List zr}{k:Int}
theorem sk{o:SM}{a m b:Int}(h:bV (cr o) 100000000 (qH o l a m b k)=M (.tup [],[.vec ze.sl c])):smS o l a m b k=M c:=by unfold smS;rw[h];rfl
theorem zbB(k:Int):∀(x:Nat)(l:List zr)(a m b:Nat),X l<=1000->a<m->m<b->b<=X l->b-a<=2^x->∃e,uU x l a m b k=M e/\Kp k l e
 |0,_,a,m,b,_,h1,h2,_,E=>by simp at E;omega
 | x+1,l,a,m,b,s,h1,h2,D,E=>by
  have hO:=zbB k x;have e0:Γ Δ ((m:Int)-(a:Int))=((m-a:Nat):Int):=by rw[wI _ W W];omega
  have B:Γ Δ ((b:Int)-(m:Int))=((b-m:Nat):Int):=by rw[wI _ W W];omega
  by_cases c1:m-a=1
  .have⟨z,F,G,q,v⟩:=zvB (uU x) k l a m b s h1 D (b-m) m b (zM _) (zM _) W (zM _) (.inl rfl);have⟨e,w,y,H⟩:=zvC (uU x) l z s W (z-a) a l (zM _) (.refl l);refine⟨e,sk ?_,?_⟩
   .have d:(((m-a:Nat):Int)==1)=O:=by rw[c1];rfl
    unfold bV;simp only[qH,Q8,e0,d,zj];exact(v.ends H) 100000000 W
   .rcases q with rfl|q
    .rw[y W];exact Kp.refl
    .exact Kp.perm w q
  have d:(((m-a:Nat):Int)==1)=S:=by simp;omega
  by_cases c2:b-m=1
  .have⟨z,F,G,q,v⟩:=zoe (uU x) k l a m s W (m-a) a m (zM _) (zM _) W (zM _) (.inl rfl);have⟨e,w,y,H⟩:=zof (uU x) l z s (m-z) m l (zM _) W (.refl l);refine⟨e,sk ?_,?_⟩
   .have j:(((b-m:Nat):Int)==1)=O:=by rw[c2];rfl
    unfold bV;simp only[qH,Q8,e0,B,d,j,zj,zD,zm];exact(v.ends H) 100000000 W
   .rcases q with rfl|q
    .rw[y (zM _)];exact Kp.refl
    .exact Kp.perm w q
  have j:(((b-m:Nat):Int)==1)=S:=by simp;omega
  have C:=nr a b W;have n:a<=(a+b)/2/\(a+b)/2<=b/\2*((a+b)/2)<=a+b/\a+b<=2*((a+b)/2)+1:=by omega
  generalize(a+b)/2=mid at C n;have⟨g1,g2,g3,g4⟩:=n;have A:mid-a<=2^x/\b-mid<=2^x:=by rw[pt]at E;omega
  have e3:Γ Δ ((mid:Int)+(m:Int))=((mid+m:Nat):Int):=by rw[wI _ W W];omega
  have e4:Γ Δ (((mid+m:Nat):Int)-1)=((mid+m-1:Nat):Int):=by rw[wI _ W W];omega
  by_cases c3:mid<m
  ·
   have e5:Γ Δ (((mid+m:Nat):Int)-(b:Int))=((mid+m-b:Nat):Int):=by rw[wI _ W W];omega
   have t:T ((m:Int)>(mid:Int))=O:=As c3;have⟨st,F,G,q,v⟩:=zbA (uU x) k l a m b mid (mid+m) (mid+m-1) (mid+m-b) mid s W W (λc P U=>by omega) (mid-(mid+m-b)) (mid+m-b) mid (zM _) (zM _) W (zM _) (.inl rfl);have⟨e,w,y⟩:=zbz (uU x) k hO l a m b mid (mid+m) st (mid+m-st) ((mid+m-1:Nat):Int) s D W W W W A.1 A.2 g2 (λP U=>by
    rcases q with rfl|q
    .omega
    .exact q)
   refine⟨e,sk ?_,w⟩;unfold bV;simp only[qH,Q8,e0,B,C,e3,e4,e5,d,j,t,zj,zD,zm];exact(v.ends (zU.of y)) 100000000 W
  .have t:T ((m:Int)>(mid:Int))=S:=by simp;omega
   have⟨st,F,G,q,v⟩:=zbA (uU x) k l a m b mid (mid+m) (mid+m-1) a m s W W (λc P U=>by omega) (m-a) a m (zM _) (zM _) W (zM _) (.inl rfl);have⟨e,w,y⟩:=zbz (uU x) k hO l a m b mid (mid+m) st (mid+m-st) ((mid+m-1:Nat):Int) s D W W W W A.1 A.2 g2 (λP U=>by
    rcases q with rfl|q
    .omega
    .exact q)
   refine⟨e,sk ?_,w⟩;unfold bV;simp only[qH,Q8,e0,B,C,e3,e4,d,j,t,zj,zD,zm];exact(v.ends (zU.of y)) 100000000 W
theorem zyJ(k:Int)(c:List zr)(x:Nat)(P:X c<=1000)(H:1<=x)(D:x<=1000):∀(s a:Nat)(l:List zr),X c-a<=s->a<=X c->Kp k c l->
  ∃n,Kp k c n/\zH eS (s+1) (.h9 (X c:Int) k (x:Int) (a:Int) ((a+2*x:Nat):Int) l) (.h7 (X c:Int) k ((2*x:Nat):Int) n):=by
 intro s
 induction s with
 | zero=>
  intro a l E C d;refine⟨l,d,zH.of ?_⟩;have e0:Γ Δ ((a:Int)+(x:Int))=((a+x:Nat):Int):=by rw[wI _ W W];omega
  have j:Γ Δ ((x:Int)*2)=((2*x:Nat):Int):=by rw[wI _ W W];omega
  have e:T (((a+2*x:Nat):Int)<=(X c:Int))=S:=by simp;omega
  simp only[eS,Q8,e0,j,e,eM (show¬a+x<X c by omega),zD,zm]
 | succ s z=>
  intro a l E C d;have y:=d.len;have e0:Γ Δ ((a:Int)+(x:Int))=((a+x:Nat):Int):=by rw[wI _ W W];omega
  have j:Γ Δ ((x:Int)*2)=((2*x:Nat):Int):=by rw[wI _ W W];omega
  have B:Γ Δ (((a+2*x:Nat):Int)+Γ Δ (2*(x:Int)))=((a+2*x+2*x:Nat):Int):=by rw[wI (2*(x:Int)) W W,wI _ W W];omega
  by_cases A:a+2*x<=X c
  .have⟨t,v,w⟩:=zbB k 16 l a (a+x) (a+2*x) W W W W sg;have⟨n,F,G⟩:=z (a+2*x) t W A (d.trans w);refine⟨n,F,((zH.of ?_).trans G).mono W⟩;have e:T (((a+2*x:Nat):Int)<=(X c:Int))=O:=by simp;omega
   simp only[eS,Q8,e0,e,B,v,dw,bI,zj]
  .have e:T (((a+2*x:Nat):Int)<=(X c:Int))=S:=by simp;omega
   by_cases q:a+x<X c
   .have⟨t,v,w⟩:=zbB k 16 l a (a+x) (X c) W W q W sg;refine⟨t,d.trans w,(zH.of ?_).mono W⟩;simp only[eS,Q8,e0,j,e,zN q,v,dw,bI,zj,zD,zm]
   .refine⟨l,d,(zH.of ?_).mono W⟩;simp only[eS,Q8,e0,j,e,eM q,zD,zm]
theorem zyI(k:Int)(d:List zr)(v:X d<=1000):∀(s x:Nat)(l:List zr),X d-x<=s->1<=x->Kp k d l->
  ∃j,Kp k d j/\zU eS (s*1002+1) (.h7 (X d:Int) k (x:Int) l) (.tup [],[.vec ze.sl j]):=by
 intro s
 induction s with
 | zero=>
  intro x l w n e;refine⟨l,e,(zU.of ?_).mono W⟩;simp only[eS,Q8,eM (show¬x<X d by omega),zD,zm]
 | succ s q=>
  intro x l w n e;by_cases c:x<X d
  case neg=>
   refine⟨l,e,(zU.of ?_).mono W⟩;simp only[eS,Q8,eM c,zD,zm]
  have⟨y,z,A⟩:=zyJ k d x v n W (X d) 0 l W W e;have⟨j,B,C⟩:=q (2*x) y W W z;refine⟨j,B,(((zH.of ?_).trans A).ends C).mono W⟩;have t:Γ Δ (2*(x:Int))=((0+2*x:Nat):Int):=by rw[wI _ W W];omega
  simp only[eS,Q8,zN c,t,zj];rfl
theorem zyH(k:Int)(x:List zr)(D:X x<=1000):∀(s a:Nat)(l:List zr),X x-a<=s->a<=X x->Kp k x l->
  ∃v,Kp k x v/\zH eS (s+1) (.h2 (X x:Int) k 20 (a:Int) ((a+20:Nat):Int) l) (.h7 (X x:Int) k 20 v):=by
 intro s
 induction s with
 | zero=>
  intro a l A z d;have j:=d.len;have⟨n,q,t⟩:=E3 l a (X x) k W W W;refine⟨n,d.trans t,zH.of ?_⟩;have e:T (((a+20:Nat):Int)<=(X x:Int))=S:=by simp;omega
  simp only[eS,Q8,e,q,dw,bI,zj,zD,zm]
 | succ s w=>
  intro a l A z d;have j:=d.len;by_cases c:a+20<=X x
  .have⟨n,q,t⟩:=E3 l a (a+20) k W W W;have⟨v,B,C⟩:=w (a+20) n W c (d.trans t);refine⟨v,B,((zH.of ?_).trans C).mono W⟩;have e:T (((a+20:Nat):Int)<=(X x:Int))=O:=by simp;omega
   have y:Γ Δ (((a+20:Nat):Int)+20)=((a+20+20:Nat):Int):=by rw[wI _ W W];omega
   simp only[eS,Q8,e,y,q,dw,bI,zj]
  .have⟨n,q,t⟩:=E3 l a (X x) k W W W;refine⟨n,d.trans t,(zH.of ?_).mono W⟩;have e:T (((a+20:Nat):Int)<=(X x:Int))=S:=by simp;omega
   simp only[eS,Q8,e,q,dw,bI,zj,zD,zm]
theorem zfO(k:Int)(l:List zr)(c:X l<=1000):∃x,GC l (X l:Int) k=M x/\Kp k l x:=by
 have⟨e,q,j⟩:=zyH k l c (X l) 0 l W W Kp.refl;have⟨x,n,s⟩:=zyI k l c (X l) 20 e W W q;refine⟨x,?_,n⟩;have:zbH l (X l:Int) k=M (.tup [],[.vec ze.sl x]):=by
  have d:=gD 1002 c;exact(j.ends s) 100000000 (by
   refine bc (Nat.add_le_add (Nat.succ_le_succ d) (Nat.succ_le_succ c)) (by decide))
 unfold GC;rw[this];rfl
theorem PD(k:Int)(l:List zr)(c:X l<=1000):∃x,sm l k=M x/\Kp k l x:=by
 have⟨x,q,d⟩:=zfO k l c;refine⟨x,?_,d⟩;have:GB l k=M (.tup [],[.vec ze.sl x]):=by
  unfold GB bV;simp only[N1,Q8,q,dw,bI,zj]
 unfold sm;rw[this];rfl
variable {x:ae}
theorem zbi(z:Nh x=O)(B:X x.2<=1000):∃j,AY x=M ((x.1,j),())/\j.Perm x.2/\(dM x.1=O->Kp x.1.q.1 x.2 j):=by
 have n:∀j:List zr,aZ [AO.vec zn x.1.2.1,AO.vec zk x.1.r.1,AO.vec zG x.1.t.1,AO.vec ze.sl j] [zl] (agg [I x.1.1,AV.vec 0,L x.1.q.1,AV.vec 1,AV.vec 2,I (zg.op x.1.u),L (zg.v x.1.u).1,L (zg.v x.1.u).2.1,I (zg.v x.1.u).q,I (zg.s x.1.u),N Sh.expr (zg.l x.1.u),AV.vec 3])=M (((x.1,j):ae),()):=by
  intro j;have⟨⟨a,b,c,d,e,f⟩,r⟩:=x;cases f;rfl
 cases A:dM x.1 with
 | true=>
  have⟨j,y,w⟩:=PD x.1.q.1 x.2 B;refine⟨j,zQ (r:=(_,_)) ?_ (n j),w.1,λ_=>w⟩;simp only[zeQ,Q8,zo,bh,z,A,y,dw,bI,cj,zD,zj,zm]
 | false=>
  have⟨j,y,w⟩:=PD (-1) x.2 B;refine⟨j,zQ (r:=(_,_)) ?_ (n j),w.1,λh=>(by cases h)⟩;simp only[zeQ,Q8,zo,bh,z,A,y,dw,bI,dp,zj]
set_option maxRecDepth 100000
section
variable {db:List (J zl)} {p:J ar} {us:List (J R)}
theorem zeZ(h:aP db p)(m:lz db p)(us:zr):Nh (p.r.1,(dY us).flatMap (de db p))=O:=by have d:=(lS h (dY us) (pX us)).1;unfold Nh;simp only[aN,aY,eu];refine⟨⟨⟨⟨⟨bc m.wf.ncols W,bc m.wf.nuq W⟩,bc m.wf.nrf W⟩,h.go.few.cp⟩,W⟩,λr c=>?_⟩;have⟨u,_,x⟩:=Bo.1 c;have:=(cL (EW h m r x).1).1;have:=m.wf.ncols;omega
theorem zlB(h:aP db p){x:ae}{n:Int}(e:kY p (zT db p) (bQ p (zT db p))=M (x,n,0,())):M4 p (zT db p)=M (x,n,0,()):=by
 have d:=h.uall;have j:Ba p (zT db p)=O:=by unfold Ba;rw[d];rfl
 have s:JM p (zT db p)=(bQ p (zT db p),0):=by unfold JM;rw[d];rfl
 have v:py p (zT db p) (bQ p (zT db p))=O:=by unfold py;rw[e];rfl
 have w:wv p (zT db p) (bQ p (zT db p))=(x,n,0):=by unfold wv;rw[e];rfl
 have⟨t,c⟩:=x;refine(zQ (i:=zmu p (zT db p)) (t:=t0) (n:=100000000) (outs:=[zl,zk,zk]) (by
  simp only[zmu,Q8,zo,bh,j,s,v,w,ib,zD,zj,zm];rfl) (y:=(((t.1,t.2.1,t.q.1,t.r.1,t.t.1,zt t.u),c),n,0,())) rfl).trans ?_
 rw[zo]
end
section
variable {α:Type} {le:α->α->Prop} {f g h:Nat->α} {a b m mid st en:Nat}
def Up(le:α->α->Prop)(f:Nat->α)(a b:Nat):Prop:=∀i j,a<=i->i<j->j<b->le (f i) (f j)
def Bi(f g:Nat->α)(a b:Nat):Prop:=(∀i,i<a\/b<=i->g i=f i)/\∀i,a<=i->i<b->∃j,a<=j/\j<b/\g i=f j
theorem Bi.refl:Bi f f a b:=⟨λ_ _=>rfl,λi x c=>⟨i,x,c,rfl⟩⟩
theorem Bi.trans(u:Bi f g a b)(v:Bi g h a b):Bi f h a b:=⟨λi x=>(v.1 i x).trans (u.1 i x),λi c d=>by
 have⟨j,q,e,n⟩:=v.2 i c d;have⟨l,s,t,w⟩:=u.2 j q e;exact⟨l,s,t,n.trans w⟩⟩
variable {c j:Nat}
theorem Bi.wide(u:Bi f g a b)(s:c<=a)(t:b<=j):Bi f g c j:=⟨λi v=>u.1 i W,λi q e=>by
 by_cases d:a<=i/\i<b
 .have⟨x,w,y,n⟩:=u.2 i d.1 d.2;exact⟨x,W,W,n⟩
 .exact⟨i,q,e,u.1 i W⟩⟩
theorem Up.same(u:Up le f a b)(v:∀i,a<=i->i<b->g i=f i):Up le g a b:=λi j x d c=>by
 rw[v i x W,v j W c];exact u i j x d c
theorem Up.part(u:Up le f a b)(d:a<=c)(e:j<=b):Up le f c j:=λi x n q s=>u i x W q W
theorem Up.one(x:b<=a+1):Up le f a b:=λi j q c d=>by omega
theorem Wl(t:∀x y z,le x y->le y z->le x z)(w:Up le f a m)(A:Up le f m b)(e:st+en=mid+m)(ha:a<=st)(hs:st<=m)(hm:m<=en)(hb:en<=b)
  (c1:st=a\/en=b\/le (f (st-1)) (f en)) (c2:st=m\/en=m\/le (f (en-1)) (f st))
  (g1:∀i,i<st->g i=f i) (D:∀i,st<=i->i<mid->g i=f (i+(m-st))) (B:∀i,mid<=i->i<en->g i=f (i-(en-m))) (E:∀i,en<=i->g i=f i):
  Up le g a st/\Up le g st mid/\Up le g mid en/\Up le g en b/\∀i j,a<=i->i<mid->mid<=j->j<b->le (g i) (g j):=by
 refine⟨w.part (zM _) hs |>.same λi _ q=>g1 i q,λi j s P v=>?_,λi j s P v=>?_,A.part hm (zM _) |>.same λi q _=>E i q,λi j s P v q4=>?_⟩
 .rw[D i s W,D j W v];exact A _ _ W W W
 .rw[B i s W,B j W v];exact w _ _ W W W
 .have H:∀x,a<=x->x<st->∀y,en<=y->y<b->le (f x) (f y):=λx x1 x2 y y1 y2=>by
   rcases c1 with c|c|c
   .omega
   .omega
   .have n:x=st-1\/le (f x) (f (st-1)):=by
     by_cases F:x=st-1
     .exact .inl F
     .exact .inr (w _ _ x1 W W)
    have d:y=en\/le (f en) (f y):=by
     by_cases G:y=en
     .exact .inl G
     .exact .inr (A _ _ W W y2)
    rcases n with rfl|n
    .rcases d with rfl|d
     .exact c
     .exact t _ _ _ c d
    .rcases d with rfl|d
     .exact t _ _ _ n c
     .exact t _ _ _ n (t _ _ _ c d)
  have U:∀x,m<=x->x<en->∀y,st<=y->y<m->le (f x) (f y):=λx x1 x2 y y1 y2=>by
   rcases c2 with c|c|c
   .omega
   .omega
   .have n:x=en-1\/le (f x) (f (en-1)):=by
     by_cases F:x=en-1
     .exact .inl F
     .exact .inr (A _ _ x1 W W)
    have d:y=st\/le (f st) (f y):=by
     by_cases G:y=st
     .exact .inl G
     .exact .inr (w _ _ ha W y2)
    rcases n with rfl|n
    .rcases d with rfl|d
     .exact c
     .exact t _ _ _ c d
    .rcases d with rfl|d
     .exact t _ _ _ n c
     .exact t _ _ _ n (t _ _ _ c d)
  by_cases ci:i<st
  .rw[g1 i ci];by_cases C:j<en
   .rw[B j v C];exact w _ _ s W W
   .rw[E j W];exact H i s ci j W q4
  .rw[D i W P];by_cases C:j<en
   .rw[B j v C];exact U _ W W _ W W
   .rw[E j W];exact A _ _ W W q4
theorem Ru{d c:Nat->α}(A:∀i j,a<=i->i<mid->mid<=j->j<b->le (g i) (g j))(y:a<=mid)(z:mid<=b)(e:Bi g d a mid)(P:Up le d a mid)(x:Bi d c mid b)(U:Up le c mid b):Up le c a b/\Bi g c a b:=by
 refine⟨λi j q s t=>?_,(e.wide (zM _) z).trans (x.wide y (zM _))⟩;by_cases w:j<mid
 .rw[x.1 i W,x.1 j W];exact P i j q s w
 .by_cases v:i<mid
  .have⟨B,C,D,E⟩:=e.2 i q v;have⟨n,F,G,H⟩:=x.2 j W t;rw[x.1 i W,E,H,e.1 n W];exact A B n C D F G
  .exact U i j W s t
theorem sj{P:Nat->Prop}{lo r0 i:Nat}(d:∀c e,lo<=e->e<=c->c<r0->P c->P e)(_:∀x,lo<=x->x<i->P x)(_:∀x,j<=x->x<r0->¬P x)(z:lo<=i)(y:i<=c)(A:c<j)(B:j<=r0):
  (P c->∀x,lo<=x->x<c+1->P x)/\(¬P c->∀x,c<=x->x<r0->¬P x):=
 ⟨λn x q s=>d c x q W W n,λn x q s t=>n (d x c W q s t)⟩
end
section
variable {α:Type} {le:α->α->Prop} {f g:Nat->α} {a b m:Nat}
def MC(f:Nat->α)(i j:Nat):Nat->α:=λt=>if t=i then f j else if t=j then f i else f t
variable {i j:Nat}
theorem zfQ(x:a<=i)(c:i<b)(d:a<=j)(e:j<b):Bi f (MC f i j) a b:=by
 refine⟨λt s=>?_,λt q n=>?_⟩
 .unfold MC;rw[zh W,zh W]
 .unfold MC;split
  .exact⟨j,d,e,rfl⟩
  .split
   .exact⟨i,x,c,rfl⟩
   .exact⟨t,q,n,rfl⟩
structure Ins (le:α->α->Prop) (f:Nat->α) (a i j:Nat):Prop where
 oth:∀p q,a<=p->p<q->q<=i->p≠j->q≠j->le (f p) (f q)
 one:∀q,j<q->q<=i->le (f j) (f q)
theorem Ins.start(h:Up le f a i):Ins le f a i i:=⟨λp q x c d e j=>h p q x c W,λq x c=>by omega⟩
theorem Ins.down(h:Ins le f a i (j+1))(B:a<=j)(C:j+1<=i)(A:le (f (j+1)) (f j)):Ins le (MC f j (j+1)) a i j:=by
 have y:MC f j (j+1) j=f (j+1):=by unfold MC;rw[zf rfl]
 have s:MC f j (j+1) (j+1)=f j:=by unfold MC;rw[zh W,zf rfl]
 have e:∀t,t≠j->t≠j+1->MC f j (j+1) t=f t:=λt c d=>by unfold MC;rw[zh c,zh d]
 refine⟨λp q c d v z w=>?_,λq c d=>?_⟩
 .by_cases n:p=j+1
  .subst n;rw[s,e q w W];exact h.oth j q B W v W W
  .rw[e p z n];by_cases x:q=j+1
   .subst x;rw[s];exact h.oth p j c W W n W
   .rw[e q w x];exact h.oth p q c d v n x
 .rw[y];by_cases x:q=j+1
  .subst x;rw[s];exact A
  .rw[e q W x];exact h.one q W d
theorem Ins.done(A:∀x y z,le x y->le y z->le x z)(h:Ins le f a i j)(D:j<=i)(w:j=a\/(a<j/\le (f (j-1)) (f j))):Up le f a (i+1):=λp q s t C=>by
 by_cases d:p=j
 .subst d;exact h.one q t W
 .by_cases v:q=j
  .subst v;rcases w with c|⟨B,n⟩
   .omega
   .by_cases e:p=q-1
    .subst e;exact n
    .exact A _ _ _ (h.oth p (q-1) s W W d W) n
  .exact h.oth p q s t W d v
def UM(f:Nat->α)(a b n:Nat):Nat->α:=λt=>if a<=t/\t<a+n then f (t+(b-a))else if b<=t/\t<b+n then f (t-(b-a))else f t
theorem zb5:UM f a b 0=f:=by funext t;unfold UM;rw[zh W,zh W]
theorem zb4{n:Nat}(h:a+j<=b)(q:n<j):MC (UM f a b n) (b+n) (a+n)=UM f a b (n+1):=by
 funext t;unfold MC UM;by_cases x:t=b+n
 .subst x;rw[zf rfl,zh W,zh W,zh W,zf W];congr 1;omega
 .rw[zh x];by_cases c:t=a+n
  .subst c;rw[zf rfl,zh W,zh W,zf W];congr 1;omega
  .rw[zh c];by_cases d:a<=t/\t<a+n
   .rw[zf d,zf W]
   .rw[zh d];by_cases e:b<=t/\t<b+n
    .rw[zf e,zh W,zf W]
    .rw[zh e,zh W,zh W]
def uo(f:Nat->α)(m i j:Nat):Nat->α:=λt=>if m-i<=t/\t<m-i+j then f (t+i)else if m-i+j<=t/\t<m+j then f (t-j)else f t
theorem zbt(d:i<=m):UM f (m-i) m i=uo f m i i:=by
 funext t;unfold UM uo;by_cases x:m-i<=t/\t<m-i+i
 .rw[zf x,zf x];congr 1;omega
 .rw[zh x,zh x];by_cases c:m<=t/\t<m+i
  .rw[zf c,zf W];congr 1;omega
  .rw[zh c,zh W]
theorem zbs(x:i<=m)(h:j<i)(c:1<=j):uo (UM f (m-i) m j) m (i-j) j=uo f m i j:=by
 funext t;unfold uo UM;repeat' split
 all_goals first|rfl|(exfalso;omega)|(congr 1;omega)
theorem zbr(c:i<=m)(h:i<j)(x:1<=i):uo (UM f (m-i) (m+j-i) i) m i (j-i)=uo f m i j:=by
 funext t;unfold uo UM;repeat' split
 all_goals first|rfl|(exfalso;omega)|(congr 1;omega)
def Xd(f:Nat->α)(a i:Nat):Nat->α:=λt=>if a<=t/\t+1<i then f (t+1)else if t+1=i/\a<=t then f a else f t
def W9(f:Nat->α)(i m:Nat):Nat->α:=λt=>if t=i/\i<=m then f m else if i<t/\t<=m then f (t-1)else f t
theorem zf6:Xd f a (a+1)=f:=by
 funext t;unfold Xd;repeat' split
 all_goals first|rfl|(exfalso;omega)|(congr 1;omega)
theorem zf5{c:Nat}(h:a<=c):MC (Xd f a (c+1)) (c+1) c=Xd f a (c+2):=by
 funext t;unfold MC Xd;repeat' split
 all_goals first|rfl|(exfalso;omega)|(congr 1;omega)
theorem zeg:W9 f m m=f:=by
 funext t;unfold W9;repeat' split
 all_goals first|rfl|(exfalso;omega)|(congr 1;omega)
theorem zef{c:Nat}(h:c+1<=m):MC (W9 f (c+1) m) c (c+1)=W9 f c m:=by
 funext t;unfold MC W9;repeat' split
 all_goals first|rfl|(exfalso;omega)|(congr 1;omega)
theorem zos(c:a<i)(d:i<=b):Bi f (Xd f a i) a b:=by
 refine⟨λt e=>?_,λt q x=>?_⟩
 .unfold Xd;rw[zh W,zh W]
 .unfold Xd;split
  .exact⟨t+1,W,W,rfl⟩
  .split
   .exact⟨a,W,W,rfl⟩
   .exact⟨t,q,x,rfl⟩
theorem zl4(c:a<=i)(d:i<=m)(e:m<b):Bi f (W9 f i m) a b:=by
 refine⟨λt j=>?_,λt q x=>?_⟩
 .unfold W9;rw[zh W,zh W]
 .unfold W9;split
  .exact⟨m,W,W,rfl⟩
  .split
   .exact⟨t-1,W,W,rfl⟩
   .exact⟨t,q,x,rfl⟩
theorem zvR(h:Up le f (a+1) b)(e:a<i)(j:i<=b)(d:∀c,a+1<=c->c<i->le (f c) (f a))(x:∀c,i<=c->c<b->le (f a) (f c)):Up le (Xd f a i) a b:=λp q n s t=>by
 unfold Xd;repeat' split
 all_goals first|(exfalso;omega)|exact h _ _ W W W|exact d _ W W|exact x _ W W
theorem zr5(h:Up le f a m)(e:a<=i)(j:i<=m)(d:∀c,a<=c->c<i->le (f c) (f m))(x:∀c,i<=c->c<m->le (f m) (f c)):Up le (W9 f i m) a (m+1):=λp q n s t=>by
 unfold W9;repeat' split
 all_goals first|(exfalso;omega)|exact h _ _ W W W|exact d _ W W|exact x _ W W
end
theorem eK(v:zq):be (aj v)=O:=by
 unfold aj;split
 .rfl
 next h=>simpa using h
theorem I5(v:zq):aj (aj v)=aj v:=by show(ite ((!be (aj v))=O) (0,0,[]) (aj v))=aj v;rw[eK];rfl
theorem OE(a b:zq):aF (aj a) (aj b)=aF a b:=by unfold aF;rw[I5,I5]
variable {a b:zq}
theorem Fe:po (aj a) (aj b)↔po a b:=by unfold po;rw[OE]
def leO(a b:zq):Prop:=Fb (aj a) (aj b)=O
variable {d:zq}
theorem AC(h:leO a b)(g:leO b d):leO a d:=AE (eK _) (eK _) (eK _) h g
theorem tg:leO a b↔¬po b a:=by
 constructor
 .intro h g;rcases(iI (eK _) (eK _)).1 h with q|q
  .exact eD (dZ (Fe.1 q) g)
  .have x:=Fe.2 g;rw[q]at x;exact eD x
 .intro h;refine kX λc=>?_
  rcases(iI (eK _) (eK _)).1 (AD (eK _) (eK _) c)with q|q
  .exact h (Fe.1 q)
  .exact c ((iI (eK _) (eK _)).2 (.inr q.symm))
theorem znr(h:po a b):leO a b:=tg.2 λg=>eD (dZ h g)
theorem ZZ(h:leO a b)(g:po b d):po a d:=kX λx=>tg.1 (AC (tg.2 x) h) g
theorem zuq(h:po a b)(g:leO b d):po a d:=kX λx=>tg.1 (AC g (tg.2 x)) h
abbrev dm(l:List zr):Nat->zr:=λt=>l.getD t (Q ze.sl)
def qT(k:Int)(x y:zr):Prop:=leO (fb k x) (fb k y)
theorem oQ(k:Int)(x y z:zr)(h:qT k x y)(g:qT k y z):qT k x z:=AC h g
theorem pT{x y:zr}:qT k x y↔¬lY k y x:=tg
theorem Fa{x y:zr}(h:lY k x y):qT k x y:=znr h
theorem CE{i j:Nat}(d:i<X l)(q:j<X l)(n:i≠j):dm ((l.set j (l.getD i (Q ze.sl))).set i (l.getD j (Q ze.sl)))=MC (dm l) i j:=by
 funext t;unfold MC;show((l.set j _).set i _).getD t _=_;rw[bz,nf];by_cases x:t=i
 .subst x;rw[zf rfl,zf rfl,zf (by rw[ng];exact d)];rfl
 .rw[zh (λe=>x e.symm),zh x,nf];by_cases c:t=j
  .subst c;rw[zf rfl,zf rfl,zf q];rfl
  .rw[zh (λe=>c e.symm),zh c,<-bz]
theorem V7(a b i:Nat)(k:Int)(hi:i<1000):∀(m j:Nat)(l:List zr),X l<=1000->j=a+m->j<X l->j<=i->Ins (qT k) (dm l) a i j->
  ∃c,c.Perm l/\Bi (dm l) (dm c) a (i+1)/\Up (qT k) (dm c) a (i+1)/\zH kP (m+1) (.h4 (a:Int) (b:Int) k (i:Int) (j:Int) l) (.h1 (a:Int) (b:Int) k ((i+1:Nat):Int) c):=by
 intro m
 induction m with
 | zero=>
  intro j l F U e x n;obtain rfl:j=a:=by omega
  refine⟨l,.refl l,Bi.refl,n.done (oQ k) x (.inl rfl),zH.of ?_⟩;simp only[kP,Q8,To,aJ,zD,zm,zj,zu i um]
 | succ m G=>
  intro j l F U e x n;obtain⟨j,rfl⟩:∃j',j=j'+1:=⟨j-1,W⟩;have y:T (((j+1:Nat):Int)>(a:Int))=O:=As W;have z:zL ((j+1:Nat):Int) (X l)=O:=zx e;have A:T (j+1<X l)=O:=by simpa using e
  have B:Γ Δ (((j+1:Nat):Int)-1)=(j:Int):=gQ j um;have s:zL (j:Int) (X l)=O:=zx W;have t:T (j<X l)=O:=by simp;omega
  have C:zL (j:Int) (l.set (j+1) (l.getD j (Q ze.sl))).length=O:=by rw[ng];exact s
  have D:T (j<(l.set (j+1) (l.getD j (Q ze.sl))).length)=O:=by rw[ng];exact t
  by_cases q:lY k (l.getD (j+1) (Q ze.sl)) (l.getD j (Q ze.sl))
  .have d:=CE (l:=l) (i:=j) (j:=j+1) W e W;have w:Ins (qT k) (dm ((l.set (j+1) (l.getD j (Q ze.sl))).set j (l.getD (j+1) (Q ze.sl)))) a i j:=by
    rw[d];exact n.down W x (Fa q)
   have⟨c,p,E,H,P⟩:=G j _ (by simpa using F) W sg W w;refine⟨c,p.trans (jc W e _),?_,H,((zH.of ?_).trans P).mono W⟩
   .rw[d]at E;exact(zfQ W W W W).trans E
   have v:T (LT.lt (α:=Int) (aF (fb k (l.getD (j+1) (Q ze.sl))) (fb k (l.getD j (Q ze.sl)))) 0)=O:=zB q;simp only[kP,Q8,B,aH];rw[fe,iq];simp only[y,z,A,s,t,v,C,D,aI,qB,zj]
  .refine⟨l,.refl l,Bi.refl,n.done (oQ k) x (.inr ⟨W,pT.2 q⟩),(zH.of ?_).mono W⟩;have v:T (LT.lt (α:=Int) (aF (fb k (l.getD (j+1) (Q ze.sl))) (fb k (l.getD j (Q ze.sl)))) 0)=S:=aB q;simp only[kP,Q8,B,aH];rw[fe,iq];simp only[y,z,A,s,t,v,C,D,aI,qB,zj,zD,zm,zu i um]
theorem V6(a b:Nat)(k:Int):∀(m i:Nat)(l:List zr),X l<=1000->b<=X l->b-i=m->a<=i->Up (qT k) (dm l) a i->
  ∃x,x.Perm l/\Bi (dm l) (dm x) a b/\Up (qT k) (dm x) a b/\zU kP (m*1002+1) (.h1 (a:Int) (b:Int) k (i:Int) l) (.tup [],[.vec ze.sl x]):=by
 intro m
 induction m with
 | zero=>
  intro i l d v z w c;refine⟨l,.refl l,Bi.refl,c.part (zM _) W,(zU.of ?_).mono W⟩;simp only[kP,Q8,eM (show¬i<b by omega),zD,zm]
 | succ m j=>
  intro i l d v z w c;have⟨A,e,n,C,s⟩:=V7 a b i k W (i-a) i l d W W (zM _) (Ins.start c);have y:=e.length_eq;have⟨x,B,q,D,t⟩:=j (i+1) A W W W W C;refine⟨x,B.trans e,(n.wide (zM _) W).trans q,D,((zH.of ?_).trans s |>.ends t).mono W⟩;simp only[kP,Q8,zN (show i<b by omega),zj]
theorem KF(l:List zr)(a b:Nat)(k:Int)(j:X l<=1000)(n:a<=X l)(e:b<=X l):∃x,rL l a b k=M x/\x.Perm l/\Bi (dm l) (dm x) a b/\Up (qT k) (dm x) a b:=by
 have⟨x,p,f,u,c⟩:=V6 a b k (b-(a+1)) (a+1) l j e rfl W (Up.one (zM _));refine⟨x,?_,p,f,u⟩;have:E2 l a b k=M (.tup [],[.vec ze.sl x]):=by
  unfold E2 bV N3;rw[zu a um];have d:b-(a+1)<=1000:=by omega
  exact c 100000000 (bc (Nat.succ_le_succ (gD 1002 d)) (by decide))
 unfold rL;rw[this];rfl
theorem zfR(f:Nat->zr)(a b n x:Nat)(F:x<=1000)(d:a+n<=b)(G:b+n<=x):∀(m i:Nat)(l:List zr),X l=x->n-i=m->i<=n->dm l=UM f a b i->
  ∃c,c.Perm l/\dm c=UM f a b n/\zU yl (m+1) (.h1 (a:Int) (b:Int) (n:Int) (i:Int) l) (.tup [],[.vec ze.sl c]):=by
 intro m
 induction m with
 | zero=>
  intro i l s E D e;obtain rfl:i=n:=by omega
  refine⟨l,.refl l,e,zU.of ?_⟩;simp only[yl,Q8,zK,zD,zm]
 | succ m t=>
  intro i l s E D e;have e0:Γ Δ ((b:Int)+(i:Int))=((b+i:Nat):Int):=by rw[wI _ W W];omega
  have v:Γ Δ ((a:Int)+(i:Int))=((a+i:Nat):Int):=by rw[wI _ W W];omega
  have w:zL ((a+i:Nat):Int) (X l)=O:=zx W;have y:zL ((b+i:Nat):Int) (X l)=O:=zx W;have z:T (a+i<X l)=O:=by simp;omega
  have A:T (b+i<X l)=O:=by simp;omega
  have q:=CE (l:=l) (i:=b+i) (j:=a+i) W W W;have⟨c,p,B,C⟩:=t (i+1) ((l.set (a+i) (l.getD (b+i) (Q ze.sl))).set (b+i) (l.getD (a+i) (Q ze.sl))) (by simpa using s) W W (by rw[q,e];exact zb4 d W);refine⟨c,p.trans (jc (i:=b+i) (j:=a+i) W W _),B,((zH.of ?_).ends C).mono W⟩;simp only[yl,Q8,zN (show i<n by omega),e0,v,w,y,z,A,aH,ng,zj,zu i um]
theorem zbI(l:List zr)(a b n:Nat)(k:Int)(q:X l<=1000)(c:a+n<=b)(j:b+n<=X l):∃x,Md l a b n k=M x/\x.Perm l/\dm x=UM (dm l) a b n:=by have⟨x,p,d,e⟩:=zfR (dm l) a b n (X l) q c j n 0 l rfl rfl W zb5.symm;refine⟨x,?_,p,d⟩;have:zon l a b n k=M (.tup [],[.vec ze.sl x]):=e 100000000 W;unfold Md;rw[this];rfl
theorem zfy(m:Nat)(k:Int)(x:Nat)(P:x<=1000):∀(s i j:Nat)(l:List zr),X l=x->i+j<=s->1<=i->1<=j->i<=m->m+j<=x->
  ∃c,c.Perm l/\dm c=uo (dm l) m i j/\zU sv (s+1) (.h2 (m:Int) k (i:Int) (j:Int) l) (.tup [],[.vec ze.sl c]):=by
 intro s
 induction s with
 |zero=>intro i j l _ h z;omega
 | succ s E=>
  intro i j l U hs z F t H;have e0:Γ Δ ((m:Int)-(i:Int))=((m-i:Nat):Int):=by rw[wI _ W W];omega
  rcases Nat.lt_trichotomy i j with h|h|h
  .have⟨e,q,d,n⟩:=zbI l (m-i) (m+j-i) i k W W W;have A:=d.length_eq;have⟨c,B,C,D⟩:=E i (j-i) e W W z W t W;refine⟨c,B.trans d,by rw[C,n];exact zbr t h z,((zH.of ?_).ends D).mono W⟩;have v:((i:Int)!=(j:Int))=O:=by simp;omega
   have w:T ((i:Int)>(j:Int))=S:=by simp;omega
   have G:Γ Δ (Γ Δ ((m:Int)+(j:Int))-(i:Int))=((m+j-i:Nat):Int):=by rw[wI ((m:Int)+(j:Int)) W W,wI _ W W];omega
   have y:Γ Δ ((j:Int)-(i:Int))=((j-i:Nat):Int):=by rw[wI _ W W];omega
   simp only[sv,Q8,e0,v,w,G,y,q,dw,bI,zj,zD,zm]
  .subst h;have⟨e,q,d,n⟩:=zbI l (m-i) m i k W W W;refine⟨e,d,by rw[n];exact zbt t,(zU.of ?_).mono W⟩;simp only[sv,Q8,e0,ib,q,dw,bI,zj,zD,zm]
  .have⟨e,q,d,n⟩:=zbI l (m-i) m j k W W W;have A:=d.length_eq;have⟨c,B,C,D⟩:=E (i-j) j e W W W F W H;refine⟨c,B.trans d,by rw[C,n];exact zbs t h F,((zH.of ?_).ends D).mono W⟩;have v:((i:Int)!=(j:Int))=O:=by simp;omega
   have w:T ((i:Int)>(j:Int))=O:=by simp;omega
   have y:Γ Δ ((i:Int)-(j:Int))=((i-j:Nat):Int):=by rw[wI _ W W];omega
   simp only[sv,Q8,e0,v,w,y,q,dw,bI,zj]
theorem zvz(l:List zr)(a m b:Nat)(k:Int)(d:X l<=1000)(e:a<m)(n:m<b)(j:b<=X l):∃x,LU l a m b k=M x/\x.Perm l/\dm x=uo (dm l) m (m-a) (b-m):=by
 have⟨x,p,q,c⟩:=zfy m k (X l) d ((m-a)+(b-m)) (m-a) (b-m) l rfl (zM _) W W W W;refine⟨x,?_,p,q⟩;have:zbq l a m b k=M (.tup [],[.vec ze.sl x]):=by
  unfold zbq bV N4;rw[show Γ Δ ((m:Int)-(a:Int))=((m-a:Nat):Int) by rw[wI _ W W];omega,show Γ Δ ((b:Int)-(m:Int))=((b-m:Nat):Int) by rw[wI _ W W];omega];exact c 100000000 W
 unfold LU;rw[this];rfl
section
variable (o:SM) (k:Int)
theorem zog(l:List zr)(a m b:Nat)(hn:X l<=1000)(ha:a<m)(hb:b<=X l)(hu:Up (qT k) (dm l) m b):∀(s i j:Nat),j-i<=s->m<=i->i<=j->j<=b->(∀c,m<=c->c<i->lY k (dm l c) (dm l a))->(∀c,j<=c->c<b->¬lY k (dm l c) (dm l a))->
  ∃x,m<=x/\x<=b/\(∀c,m<=c->c<x->lY k (dm l c) (dm l a))/\(∀c,x<=c->c<b->¬lY k (dm l c) (dm l a))/\zH (cr o) (s+1) (.h3 (a:Int) k (i:Int) (j:Int) l) (.h9 (x:Int) (a:Int) l):=by
 have y:∀c q,m<=q->q<=c->c<b->lY k (dm l c) (dm l a)->lY k (dm l q) (dm l a):=λc q B t C d=>by
  by_cases e:q=c
  .subst e;exact d
  .exact ZZ (hu q c B W C) d
 intro s
 induction s with
 | zero=>
  intro i j B t C d v w;obtain rfl:i=j:=by omega
  refine⟨i,t,d,v,w,zH.of ?_⟩;simp only[cr,Q8,eM (show¬i<i by omega),zD,zm]
 | succ s IH=>
  intro i j B t C d v w;by_cases n:i<j
  case neg=>
   obtain rfl:i=j:=by omega
   refine⟨i,t,d,v,w,(zH.of ?_).mono W⟩;simp only[cr,Q8,eM n,zD,zm]
  have e0:=nr i j W;have D:i<=(i+j)/2/\(i+j)/2<j:=by omega
  generalize(i+j)/2=h at e0 D;have e1:zL ((h:Nat):Int) (X l)=O:=zx W;have e2:T (h<X l)=O:=by simp;omega
  have e3:zL ((a:Nat):Int) (X l)=O:=zx W;have e4:T (a<X l)=O:=by simp;omega
  have⟨w1,w2⟩:=sj (P:=λc=>lY k (dm l c) (dm l a)) (lo:=m) (r0:=b) y v w t D.1 D.2 d;by_cases z:lY k (l.getD h (Q ze.sl)) (l.getD a (Q ze.sl))
  .have⟨x,E,F,G,H,U⟩:=IH (h+1) j W W W d (w1 z) w;refine⟨x,E,F,G,H,((zH.of ?_).trans U).mono W⟩;have A:T (LT.lt (α:=Int) (aF (fb k (l.getD h (Q ze.sl))) (fb k (l.getD a (Q ze.sl)))) 0)=O:=zB z;simp only[cr,Q8,e0,aH];rw[fe,iq];simp only[zN n,e1,e2,e3,e4,A,zj,zu h um]
  .have⟨x,E,F,G,H,U⟩:=IH i h W t W W v (w2 z);refine⟨x,E,F,G,H,((zH.of ?_).trans U).mono W⟩;have A:T (LT.lt (α:=Int) (aF (fb k (l.getD h (Q ze.sl))) (fb k (l.getD a (Q ze.sl)))) 0)=S:=aB z;simp only[cr,Q8,e0,aH];rw[fe,iq];simp only[zN n,e1,e2,e3,e4,A,zj,zD,zm]
theorem zoh(f:Nat->zr)(a i x:Nat)(H:x<=1000)(U:i<=x)(P:a<i):∀(s c:Nat)(l:List zr),X l=x->i-c<=s->a<=c->c<i->dm l=Xd f a (c+1)->
  ∃d,d.Perm l/\dm d=Xd f a i/\zU (cr o) (s+1) (.h9 (i:Int) (c:Int) l) (.tup [],[.vec ze.sl d]):=by
 intro s
 induction s with
 |zero=>intro c l _ A _ G;omega
 | succ s t=>
  intro c l D A e C q;by_cases B:c+1<i
  case neg=>
   obtain rfl:i=c+1:=by omega
   refine⟨l,.refl l,q,(zU.of ?_).mono W⟩;have e0:T ((c:Int)<Γ Δ (((c+1:Nat):Int)-1))=S:=by
    rw[wI _ W W];simp only[ei];omega
   simp only[cr,Q8,e0,zD,zm]
  have e0:T ((c:Int)<Γ Δ ((i:Int)-1))=O:=by
   rw[wI _ W W];simp only[aY];omega
  have v:zL ((c+1:Nat):Int) (X l)=O:=zx W;have w:zL ((c:Nat):Int) (X l)=O:=zx W;have y:T (c+1<X l)=O:=by simp;omega
  have z:T (c<X l)=O:=by simp;omega
  have n:=CE (l:=l) (i:=c+1) (j:=c) W W W;have⟨d,p,E,F⟩:=t (c+1) ((l.set c (l.getD (c+1) (Q ze.sl))).set (c+1) (l.getD c (Q ze.sl))) (by simpa using D) W W B (by rw[n,q];exact zf5 e);refine⟨d,p.trans (jc (i:=c+1) (j:=c) W W _),E,((zH.of ?_).ends F).mono W⟩;simp only[cr,Q8,e0,zu c um,v,w,y,z,aH,ng,zj]
theorem zfL(l:List zr)(a m:Nat)(hn:X l<=1000)(hm:m<X l)(hu:Up (qT k) (dm l) a m):∀(s i j:Nat),j-i<=s->a<=i->i<=j->j<=m->(∀c,a<=c->c<i->¬lY k (dm l m) (dm l c))->(∀c,j<=c->c<m->lY k (dm l m) (dm l c))->
  ∃x,a<=x/\x<=m/\(∀c,a<=c->c<x->¬lY k (dm l m) (dm l c))/\(∀c,x<=c->c<m->lY k (dm l m) (dm l c))/\zH (cr o) (s+1) (.h15 (m:Int) k (i:Int) (j:Int) l) (.h21 (x:Int) (m:Int) l):=by
 have y:∀c t,a<=t->t<=c->c<m->¬lY k (dm l m) (dm l c)->¬lY k (dm l m) (dm l t):=λc t B v C d n=>by
  by_cases e:t=c
  .subst e;exact d n
  .exact d (zuq n (hu t c B W C))
 intro s
 induction s with
 | zero=>
  intro i j B v C d n w;obtain rfl:i=j:=by omega
  refine⟨i,v,d,n,w,zH.of ?_⟩;simp only[cr,Q8,eM (show¬i<i by omega),zD,zm]
 | succ s IH=>
  intro i j B v C d n w;by_cases q:i<j
  case neg=>
   obtain rfl:i=j:=by omega
   refine⟨i,v,d,n,w,(zH.of ?_).mono W⟩;simp only[cr,Q8,eM q,zD,zm]
  have e0:=nr i j W;have D:i<=(i+j)/2/\(i+j)/2<j:=by omega
  generalize(i+j)/2=h at e0 D;have e1:zL ((h:Nat):Int) (X l)=O:=zx W;have e2:T (h<X l)=O:=by simp;omega
  have e3:zL ((m:Nat):Int) (X l)=O:=zx W;have e4:T (m<X l)=O:=by simp;omega
  have⟨w1,w2⟩:=sj (P:=λc=>¬lY k (dm l m) (dm l c)) (lo:=a) (r0:=m) y n (λc x1 x2 x3=>x3 (w c x1 x2)) v D.1 D.2 d;by_cases z:lY k (l.getD m (Q ze.sl)) (l.getD h (Q ze.sl))
  .have⟨x,E,F,G,H,U⟩:=IH i h W v W W n (λc x1 x2=>kX λx3=>w2 (λx4=>x4 z) c x1 x2 x3);refine⟨x,E,F,G,H,((zH.of ?_).trans U).mono W⟩;have A:T (LT.lt (α:=Int) (aF (fb k (l.getD m (Q ze.sl))) (fb k (l.getD h (Q ze.sl)))) 0)=O:=zB z;simp only[cr,Q8,e0,aH];rw[fe,iq];simp only[zN q,e1,e2,e3,e4,A,zj,cj,zD,zm]
  .have⟨x,E,F,G,H,U⟩:=IH (h+1) j W W W d (w1 z) w;refine⟨x,E,F,G,H,((zH.of ?_).trans U).mono W⟩;have A:T (LT.lt (α:=Int) (aF (fb k (l.getD m (Q ze.sl))) (fb k (l.getD h (Q ze.sl)))) 0)=S:=aB z;simp only[cr,Q8,e0,aH];rw[fe,iq];simp only[zN q,e1,e2,e3,e4,A,zj,dp,zu h um]
theorem zfM(f:Nat->zr)(i m x:Nat)(P:x<=1000)(U:m<x):∀(s c:Nat)(l:List zr),X l=x->c-i<=s->i<=c->c<=m->dm l=W9 f c m->
  ∃e,e.Perm l/\dm e=W9 f i m/\zU (cr o) (s+1) (.h21 (i:Int) (c:Int) l) (.tup [],[.vec ze.sl e]):=by
 intro s
 induction s with
 | zero=>
  intro c l v E t d n;obtain rfl:c=i:=by omega
  refine⟨l,.refl l,n,zU.of ?_⟩;have e0:T ((c:Int)>(c:Int))=S:=by simp
  simp only[cr,Q8,e0,zD,zm]
 | succ s w=>
  intro c l v E t d n;by_cases F:i<c
  case neg=>
   obtain rfl:c=i:=by omega
   refine⟨l,.refl l,n,(zU.of ?_).mono W⟩;have e0:T ((c:Int)>(c:Int))=S:=by simp
   simp only[cr,Q8,e0,zD,zm]
  obtain⟨c,rfl⟩:∃y,c=y+1:=⟨c-1,W⟩;have e0:T (((c+1:Nat):Int)>(i:Int))=O:=As F;have z:zL ((c+1:Nat):Int) (X l)=O:=zx W;have A:zL ((c:Nat):Int) (X l)=O:=zx W;have B:T (c+1<X l)=O:=by simp;omega
  have C:T (c<X l)=O:=by simp;omega
  have D:Γ Δ (((c+1:Nat):Int)-1)=(c:Int):=gQ c um;have q:=CE (l:=l) (i:=c) (j:=c+1) W W W;have⟨e,p,G,H⟩:=w c ((l.set (c+1) (l.getD c (Q ze.sl))).set c (l.getD (c+1) (Q ze.sl))) (by simpa using v) W W W (by rw[q,n];exact zef d);refine⟨e,p.trans (jc (i:=c) (j:=c+1) W W _),G,((zH.of ?_).ends H).mono W⟩;simp only[cr,Q8,e0,D,z,A,B,C,aH,ng,zj]
theorem Uy(l:List zr)(a m b mid n p e d:Nat)(hn:X l<=1000)(h0:d<=1000)(hp:p<=2000)(hB:∀c,e<=c->c<d->c+c<p/\p<X l+c)
  (z:∀c A,e<=A->A<=c->c<d->¬lY k (dm l (p-c)) (dm l c)->¬lY k (dm l (p-A)) (dm l A)):∀(s i j:Nat),j-i<=s->e<=i->i<=j->j<=d->
  (∀c,e<=c->c<i->¬lY k (dm l (p-c)) (dm l c))->(∀c,j<=c->c<d->lY k (dm l (p-c)) (dm l c))->
  ∃x,e<=x/\x<=d/\(∀c,e<=c->c<x->¬lY k (dm l (p-c)) (dm l c))/\(∀c,x<=c->c<d->lY k (dm l (p-c)) (dm l c))/\zH (cr o) s (.h33 (a:Int) (m:Int) (b:Int) k (mid:Int) (n:Int) (i:Int) (j:Int) (p:Int) l) (.h33 (a:Int) (m:Int) (b:Int) k (mid:Int) (n:Int) (x:Int) (x:Int) (p:Int) l):=by
 intro s
 induction s with
 | zero=>
  intro i j h1 q h3 t v w;obtain rfl:i=j:=by omega
  exact⟨i,q,t,v,w,zH.refl _⟩
 | succ s IH=>
  intro i j h1 q h3 t v w;by_cases y:i<j
  case neg=>
   obtain rfl:i=j:=by omega
   exact⟨i,q,t,v,w,(zH.refl _).mono W⟩
  have e0:=nr i j W;have D:i<=(i+j)/2/\(i+j)/2<j:=by omega
  generalize(i+j)/2=h at e0 D;have⟨b1,b2⟩:=hB h W W;have e5:Γ Δ ((p:Int)-(h:Int))=((p-h:Nat):Int):=by rw[wI _ W W];omega
  have e1:zL ((h:Nat):Int) (X l)=O:=zx W;have e2:T (h<X l)=O:=by simp;omega
  have e3:zL ((p-h:Nat):Int) (X l)=O:=zx W;have e4:T (p-h<X l)=O:=by simp;omega
  have⟨w1,w2⟩:=sj (P:=λc=>¬lY k (dm l (p-c)) (dm l c)) (lo:=e) (r0:=d) z v (λc x1 x2 x3=>x3 (w c x1 x2)) q D.1 D.2 t;by_cases B:lY k (l.getD (p-h) (Q ze.sl)) (l.getD h (Q ze.sl))
  .have⟨x,E,F,G,H,U⟩:=IH i h W q W W v (λc x1 x2=>kX λx3=>w2 (λx4=>x4 B) c x1 x2 x3);refine⟨x,E,F,G,H,((zH.of ?_).trans U).mono W⟩;have C:T (LT.lt (α:=Int) (aF (fb k (l.getD (p-h) (Q ze.sl))) (fb k (l.getD h (Q ze.sl)))) 0)=O:=zB B;simp only[cr,Q8,e0,e5,aH];rw[fe,iq];simp only[zN y,e1,e2,e3,e4,C,zj,cj,zD,zm]
  .have⟨x,E,F,G,H,U⟩:=IH (h+1) j W W W t (w1 B) w;refine⟨x,E,F,G,H,((zH.of ?_).trans U).mono W⟩;have C:T (LT.lt (α:=Int) (aF (fb k (l.getD (p-h) (Q ze.sl))) (fb k (l.getD h (Q ze.sl)))) 0)=S:=aB B;simp only[cr,Q8,e0,e5,aH];rw[fe,iq];simp only[zN y,e1,e2,e3,e4,C,zj,dp,zu h um]
end
def Dz(k:Int)(a b:Nat)(l x:List zr):Prop:=x.Perm l/\Bi (dm l) (dm x) a b/\Up (qT k) (dm x) a b
section
variable (o:SM) (k:Int)
theorem Ux{D:Nat}(hO:∀(l:List zr)(a m b:Nat),X l<=1000->a<m->m<b->b<=X l->b-a<=D->Up (qT k) (dm l) a m->Up (qT k) (dm l) m b->∃E,o l a m b k=M E/\Dz k a b l E)
  (l:List zr) (a m b mid n st en:Nat) (p:Int) (hn:X l<=1000) (hb:b<=X l) (he:n=st+en) (h8:n<=2000) (h9:n=mid+m)
  (h1:a<=st) (h2:en<=b) (h3:mid-a<=D) (h4:b-mid<=D) (h5:mid<=b) (hs:st<=m) (hm:m<=en) (h0:a<=mid)
  (u1:Up (qT k) (dm l) a m) (u2:Up (qT k) (dm l) m b) (d1:st=a\/en=b\/qT k (dm l (st-1)) (dm l en)) (d2:st=m\/en=m\/qT k (dm l (en-1)) (dm l st)):
  ∃E,Dz k a b l E/\(cr o (.h33 (a:Int) (m:Int) (b:Int) k (mid:Int) (n:Int) (st:Int) (st:Int) p l)).val=M (.inr (.tup [],[.vec ze.sl E])):=by
 have e0:Γ Δ ((n:Int)-(st:Int))=(en:Int):=by rw[wI _ W W];omega
 have e1:T ((st:Int)<(st:Int))=S:=by simp
 obtain⟨d,p1,H,B⟩:∃d,d.Perm l/\dm d=uo (dm l) m (m-st) (en-m)/\(ite (st<m/\m<en) (LU l st m en k=M d) (d=l)):=by
  by_cases h:st<m/\m<en
  .have⟨d,v,w,q3⟩:=zvz l st m en k hn h.1 h.2 W;exact⟨d,w,q3,by rw[zf h];exact v⟩
  .refine⟨l,.refl l,?_,by rw[zh h]⟩;funext t;unfold uo;split
   .congr 1;omega
   .split
    .congr 1;omega
    .rfl
 have h6:=p1.length_eq;have g1:∀i,i<st->dm d i=dm l i:=λi hi=>by
  rw[H];unfold uo;rw[zh W,zh W]
 have g2:∀i,st<=i->i<mid->dm d i=dm l (i+(m-st)):=λi v w=>by
  rw[H];unfold uo;rw[zf W]
 have g3:∀i,mid<=i->i<en->dm d i=dm l (i-(en-m)):=λi v w=>by
  rw[H];unfold uo;rw[zh W,zf W]
 have g4:∀i,en<=i->dm d i=dm l i:=λi hi=>by
  rw[H];unfold uo;rw[zh W,zh W]
 have U:Bi (dm l) (dm d) a b:=by
  refine⟨λi hi=>?_,λi v w=>?_⟩
  .by_cases c:i<st
   .exact g1 i c
   .exact g4 i W
  .by_cases c:i<st
   .exact⟨i,v,w,g1 i c⟩
   .by_cases c':i<mid
    .exact⟨_,W,W,g2 i W c'⟩
    .by_cases P:i<en
     .exact⟨_,W,W,g3 i W P⟩
     .exact⟨i,v,w,g4 i W⟩
 have⟨w1,w2,w3,w4,w5⟩:=Wl (oQ k) u1 u2 (by omega:st+en=mid+m) h1 hs hm h2 d1 d2 g1 g2 g3 g4;obtain⟨j,C,z⟩:∃j,Dz k a mid d j/\(ite (a<st/\st<mid) (o d a st mid k=M j) (j=d)):=by
  by_cases h:a<st/\st<mid
  .have⟨j,v,w⟩:=hO d a st mid W h.1 h.2 W h3 w1 w2;exact⟨j,w,by rw[zf h];exact v⟩
  .refine⟨d,⟨.refl d,Bi.refl,?_⟩,by rw[zh h]⟩;by_cases c:a<st
   .have:mid<=st:=by omega
    exact w1.part (zM _) W
   .exact w2.part W (zM _)
 have h7:=C.1.length_eq;have F:Up (qT k) (dm j) mid en:=w3.same λi v w=>C.2.1.1 i W
 have G:Up (qT k) (dm j) en b:=w4.same λi v w=>C.2.1.1 i W
 obtain⟨A,p5,e⟩:∃A,Dz k mid b j A/\(ite (mid<en/\en<b) (o j mid en b k=M A) (A=j)):=by
  by_cases h:mid<en/\en<b
  .have⟨A,v,w⟩:=hO j mid en b W h.1 h.2 W h4 F G;exact⟨A,w,by rw[zf h];exact v⟩
  .refine⟨j,⟨.refl j,Bi.refl,?_⟩,by rw[zh h]⟩;by_cases c:mid<en
   .exact F.part (zM _) W
   .exact G.part W (zM _)
 have⟨x1,x2⟩:=Ru w5 h0 h5 C.2.1 C.q p5.2.1 p5.q;refine⟨A,⟨(p5.1.trans C.1).trans p1,U.trans x2,x1⟩,?_⟩;simp only[cr,Q8,e0,e1,SZ,zD,zm];by_cases y:st<m/\m<en
 .rw[zf y]at B;by_cases s:a<st/\st<mid
  .rw[zf s]at z;by_cases x:mid<en/\en<b
   .rw[zf x]at e;simp only[zB y,zB s,zB x,B,z,e,dw,bI,zj]
   .rw[zh x]at e;subst e;simp only[zB y,zB s,aB x,B,z,dw,bI,zj,zD,zm]
  .rw[zh s]at z;subst z;by_cases x:mid<en/\en<b
   .rw[zf x]at e;simp only[zB y,aB s,zB x,B,e,dw,bI,zj,zD,zm]
   .rw[zh x]at e;subst e;simp only[zB y,aB s,aB x,B,dw,bI,zj,zD,zm]
 .rw[zh y]at B;subst B;by_cases s:a<st/\st<mid
  .rw[zf s]at z;by_cases x:mid<en/\en<b
   .rw[zf x]at e;simp only[aB y,zB s,zB x,z,e,dw,bI,zj,zD,zm]
   .rw[zh x]at e;subst e;simp only[aB y,zB s,aB x,z,dw,bI,zj,zD,zm]
  .rw[zh s]at z;subst z;by_cases x:mid<en/\en<b
   .rw[zf x]at e;simp only[aB y,aB s,zB x,e,dw,bI,zj,zD,zm]
   .rw[zh x]at e;subst e;simp only[aB y,aB s,aB x,zD,zm]
end
theorem zoi(k:Int):∀(x:Nat)(l:List zr)(a m b:Nat),X l<=1000->a<m->m<b->b<=X l->b-a<=2^x->Up (qT k) (dm l) a m->Up (qT k) (dm l) m b->∃q,uU x l a m b k=M q/\Dz k a b l q
 |0,_,a,m,b,_,h1,h2,_,h4,_,_=>by simp at h4;omega
 | x + 1,l,a,m,b,z,h1,h2,h3,h4,H,P=>by
  have hO:=zoi k x;have e0:Γ Δ ((m:Int)-(a:Int))=((m-a:Nat):Int):=by rw[wI _ W W];omega
  have e1:Γ Δ ((b:Int)-(m:Int))=((b-m:Nat):Int):=by rw[wI _ W W];omega
  by_cases c1:m-a=1
  .obtain rfl:m=a+1:=by omega
   have⟨U,q1,B,D,E,F⟩:=zog (uU x) k l a (a+1) b z h1 h3 P (b-(a+1)) (a+1) b (zM _) (zM _) W (zM _) (λc d j=>by omega) (λc d j=>by omega);have⟨q,G,t,r3⟩:=zoh (uU x) (dm l) a U (X l) z W W (U-a) a l rfl (zM _) (zM _) W zf6.symm;refine⟨q,sk ?_,G,by rw[t];exact zos W B,by rw[t];exact zvR P W B (λc d j=>Fa (D c d j)) λc d j=>pT.2 (E c d j)⟩;have n:(((a+1-a:Nat):Int)==1)=O:=by rw[c1];rfl
   unfold bV;simp only[qH,Q8,e0,n,zj];exact(F.ends r3) 100000000 W
  have n:(((m-a:Nat):Int)==1)=S:=by simp;omega
  by_cases c2:b-m=1
  .obtain rfl:b=m+1:=by omega
   have⟨U,q1,B,D,E,F⟩:=zfL (uU x) k l a m z W H (m-a) a m (zM _) (zM _) W (zM _) (λc d j=>by omega) (λc d j=>by omega);have⟨q,G,t,r3⟩:=zfM (uU x) (dm l) U m (X l) z W (m-U) m l rfl (zM _) B (zM _) zeg.symm;refine⟨q,sk ?_,G,by rw[t];exact zl4 q1 B W,by rw[t];exact zr5 H q1 B (λc d j=>pT.2 (D c d j)) λc d j=>Fa (E c d j)⟩;have s:(((m+1-m:Nat):Int)==1)=O:=by rw[c2];rfl
   unfold bV;simp only[qH,Q8,e0,e1,n,s,zj,zD,zm];exact(F.ends r3) 100000000 W
  have s:(((b-m:Nat):Int)==1)=S:=by simp;omega
  have e2:=nr a b W;have w:a<=(a+b)/2/\(a+b)/2<=b/\2*((a+b)/2)<=a+b/\a+b<=2*((a+b)/2)+1:=by omega
  generalize(a+b)/2=mid at e2 w;have⟨g1,g2,g3,g4⟩:=w;have hD:mid-a<=2^x/\b-mid<=2^x:=by rw[pt]at h4;omega
  have e3:Γ Δ ((mid:Int)+(m:Int))=((mid+m:Nat):Int):=by rw[wI _ W W];omega
  have e4:Γ Δ (((mid+m:Nat):Int)-1)=((mid+m-1:Nat):Int):=by rw[wI _ W W];omega
  have A:∀lo r0,a<=lo->r0<=m->r0<=mid->mid+m<=lo+b->∀c v,lo<=v->v<=c->c<r0->¬lY k (dm l (mid+m-1-c)) (dm l c)->¬lY k (dm l (mid+m-1-v)) (dm l v):=λlo r0 y1 y2 y3 y4 c v d j x3 x4=>by
   by_cases e:v=c
   .subst e;exact x4
   .have z1:=H v c W W W;have z2:=P (mid+m-1-c) (mid+m-1-v) W W W;exact pT.1 (oQ k _ _ _ z1 (oQ k _ _ _ (pT.2 x4) z2))
  by_cases c3:mid<m
  .have e5:Γ Δ (((mid+m:Nat):Int)-(b:Int))=((mid+m-b:Nat):Int):=by rw[wI _ W W];omega
   have C:T ((m:Int)>(mid:Int))=O:=As c3;have⟨st,q1,B,D,E,F⟩:=Uy (uU x) k l a m b mid (mid+m) (mid+m-1) (mid+m-b) mid z W W (λc H P=>by omega) (A _ _ W W W W) (mid-(mid+m-b)) (mid+m-b) mid (zM _) (zM _) W (zM _) (λc d j=>by omega) (λc d j=>by omega);have⟨q,G,t⟩:=Ux (uU x) k hO l a m b mid (mid+m) st (mid+m-st) ((mid+m-1:Nat):Int) z h3 W W rfl W W hD.1 hD.2 g2 W W g1 H P (by
    by_cases y:st=mid+m-b
    .exact .inr (.inl W)
    .have:=D (st-1) W W;rw[show mid+m-1-(st-1)=mid+m-st by omega]at this;exact .inr (.inr (pT.2 this))) (by
    by_cases y:st=mid
    .exact .inr (.inl W)
    .have:=E st (zM _) W;rw[show mid+m-1-st=mid+m-st-1 by omega]at this;exact .inr (.inr (Fa this)))
   refine⟨q,sk ?_,G⟩;unfold bV;simp only[qH,Q8,e0,e1,e2,e3,e4,e5,n,s,C,zj,zD,zm];exact(F.ends (zU.of t)) 100000000 W
  .have C:T ((m:Int)>(mid:Int))=S:=by simp;omega
   have⟨st,q1,B,D,E,F⟩:=Uy (uU x) k l a m b mid (mid+m) (mid+m-1) a m z W W (λc H P=>by omega) (A _ _ W W W W) (m-a) a m (zM _) (zM _) W (zM _) (λc d j=>by omega) (λc d j=>by omega);have⟨q,G,t⟩:=Ux (uU x) k hO l a m b mid (mid+m) st (mid+m-st) ((mid+m-1:Nat):Int) z h3 W W rfl W W hD.1 hD.2 g2 W W g1 H P (by
    by_cases y:st=a
    .exact .inl y
    .have:=D (st-1) W W;rw[show mid+m-1-(st-1)=mid+m-st by omega]at this;exact .inr (.inr (pT.2 this))) (by
    by_cases y:st=m
    .exact .inl y
    .have:=E st (zM _) W;rw[show mid+m-1-st=mid+m-st-1 by omega]at this;exact .inr (.inr (Fa this)))
   refine⟨q,sk ?_,G⟩;unfold bV;simp only[qH,Q8,e0,e1,e2,e3,e4,n,s,C,zj,zD,zm];exact(F.ends (zU.of t)) 100000000 W
section
variable {l:List (J zl)} {p:J ar} {u:J R} {acc:List (J R)} {i:Nat}
end
section
variable {db:List (J zl)} {p:J ar}
end
section
variable {α:Type} {k:α->J R}
theorem Av{l:List α}(d:∀x∈l,be (k x)=O):qy k (jp k l):=by
 have e:∀(l acc:List α),(∀x∈l++acc,be (k x)=O)->qy k acc->qy k (l.foldl (λacc j=>Ch k j acc) acc):=by
  intro l
  induction l with
  |nil=>intro acc _ h;exact h
  | cons a r n=>
   intro acc d h;refine n _ (λx c=>?_) (I0 (λx c=>d x (by simp at c|-;rcases c with h|h<;>simp[h])) h);rcases cX.1 c with c|c
   .exact d x (by simp[c])
   .have:=(IZ a acc).mem_iff.1 c;refine d x ?_;simp at this|-;rcases this with h|h<;>simp[h]
 exact e l [] (by simpa using d) .nil
theorem Gm:∀{l m:List α},l.Perm m->qy k l->qy k m->(∀a∈l,∀b∈l,Fb (k a) (k b)=O->Fb (k b) (k a)=O->a=b)->l=m
 |[],m,c,_,_,_=>(List.nil_perm.1 c).symm
 | a::r,m,c,hl,hm,he=>by
  match m,c,hm with
  |[],c,_=>exact zA c sw
  | b::s,c,hm=>
   have⟨t,v⟩:=List.pairwise_cons.1 hl;have⟨w,z⟩:=List.pairwise_cons.1 hm;have d:a=b:=by
    have j:a∈b::s:=c.mem_iff.1 sw;have e:b∈a::r:=c.mem_iff.2 sw;rcases bZ.1 j with h|h
    .exact h
    rcases bZ.1 e with g|g
    .exact g.symm
    exact he a sw b e (t b g) (w a h)
   subst d;rw[Gm ((List.perm_cons a).1 c) v z λx n y q=>he x (by simp[n]) y (by simp[q])]
end
section
variable {K:Int} {l m:List (List (J R))}
theorem Zz(x:∀r∈l,be (zP K r)=O)(n:Bf K l)(d:l.Perm m):jp (zP K) l=jp (zP K) m:=by
 refine Gm ((eJ l).trans (d.trans (eJ m).symm)) (Av x) (Av λr s=>x r (d.mem_iff.2 s)) λa q b c e j=>?_
 have q:=(eJ l).mem_iff.1 q;have c:=(eJ l).mem_iff.1 c;refine HY n q c ?_;rcases(iI (x a q) (x b c)).1 e with h|h
 .rcases(iI (x b c) (x a q)).1 j with g|g
  .exact zA (dZ h g) (by unfold po;rw[AL];omega)
  .exact g.symm
 .exact h
end
section
variable {db:List (J zl)} {p:J ar} {us:List (J R)}
end
def Blk(k:Int)(c n:Nat)(l:List zr):Prop:=∀x,c∣x->Up (qT k) (dm l) x (min (x+c) n)
theorem zvG(k:Int)(d e:Nat)(hn:d<=1000)(hb:1<=e)(h0:e<=1000):∀(s a:Nat)(l:List zr),X l=d->d-a<=s->a<=d->2*e∣a->
  (∀x,x<a->2*e∣x->Up (qT k) (dm l) x (min (x+2*e) d))->(∀x,a<=x->e∣x->Up (qT k) (dm l) x (min (x+e) d))->
  ∃z,z.Perm l/\Blk k (2*e) d z/\zH eS (s+1) (.h9 (d:Int) k (e:Int) (a:Int) ((a+2*e:Nat):Int) l) (.h7 (d:Int) k ((2*e:Nat):Int) z):=by
 have q:∀x a,2*e∣x->2*e∣a->a<x->a+2*e<=x:=λx a t v h3=>by
  have:=Nat.le_of_dvd W (Nat.dvd_sub t v);omega
 have j:∀(l:List zr)(a:Nat),2*e∣a->d<=a+2*e->(∀x,x<a->2*e∣x->Up (qT k) (dm l) x (min (x+2*e) d))->Up (qT k) (dm l) a d->Blk k (2*e) d l:=λl a G hN t v x hx=>by
  rcases Nat.lt_trichotomy x a with c|c|c
  .exact t x c hx
  .subst c;exact v.part (zM _) W
  .have:=q x a hx G c;exact Up.one W
 have F:∀a,2*e∣a->e∣a:=λa h=>Nat.dvd_trans (Nat.dvd_mul_left e 2) h
 intro s
 induction s with
 | zero=>
  intro a l hl hs G n t v;refine⟨l,.refl l,j l a n W t ((v a (zM _) (F a n)).part (zM _) W),zH.of ?_⟩;have e0:Γ Δ ((a:Int)+(e:Int))=((a+e:Nat):Int):=by rw[wI _ W W];omega
  have A:Γ Δ ((e:Int)*2)=((2*e:Nat):Int):=by rw[wI _ W W];omega
  have y:T (((a+2*e:Nat):Int)<=(d:Int))=S:=by simp;omega
  simp only[eS,Q8,e0,A,y,eM (show¬a+e<d by omega),zD,zm]
 | succ s IH=>
  intro a l hl hs G n t v;have e0:Γ Δ ((a:Int)+(e:Int))=((a+e:Nat):Int):=by rw[wI _ W W];omega
  have A:Γ Δ ((e:Int)*2)=((2*e:Nat):Int):=by rw[wI _ W W];omega
  have e3:Γ Δ (((a+2*e:Nat):Int)+Γ Δ (2*(e:Int)))=((a+2*e+2*e:Nat):Int):=by rw[wI (2*(e:Int)) W W,wI _ W W];omega
  have U:=v a (zM _) (F a n);have ub:=v (a+e) W (Nat.dvd_add (F a n) (Nat.dvd_refl e));by_cases c1:a+2*e<=d
  .have⟨C,P,D,B,H⟩:=zoi k 16 l a (a+e) (a+2*e) W W W W sg (U.part (zM _) W) (ub.part (zM _) W);have h4:=D.length_eq;have⟨z,p2,q3,q4⟩:=IH (a+2*e) C W W c1 (Nat.dvd_add n (Nat.dvd_refl _)) (λx x1 w=>by
    by_cases c:x<a
    .have:=q a x n w c;exact(t x c w).same λi y1 y2=>B.1 i W
    .obtain rfl:x=a:=by
      rcases Nat.lt_or_ge a x with c'|c'
      .have:=q x a w n c';omega
      .omega
     exact H.part (zM _) W) (λx x1 w=>(v x W w).same λi y1 y2=>B.1 i W)
   refine⟨z,p2.trans D,q3,((zH.of ?_).trans q4).mono W⟩;have y:T (((a+2*e:Nat):Int)<=(d:Int))=O:=by simp;omega
   simp only[eS,Q8,e0,y,e3,P,dw,bI,zj]
  .have y:T (((a+2*e:Nat):Int)<=(d:Int))=S:=by simp;omega
   by_cases E:a+e<d
   .have⟨C,P,D,B,H⟩:=zoi k 16 l a (a+e) d W W E W sg (U.part (zM _) W) (ub.part (zM _) W);refine⟨C,D,j C a n W (λx c w=>?_) H,(zH.of ?_).mono W⟩
    .have:=q a x n w c;exact(t x c w).same λi y1 y2=>B.1 i W
    simp only[eS,Q8,e0,A,y,zN E,P,dw,bI,zj,zD,zm]
   .refine⟨l,.refl l,j l a n W t (U.part (zM _) W),(zH.of ?_).mono W⟩;simp only[eS,Q8,e0,A,y,eM E,zD,zm]
theorem zvF(k:Int)(d:Nat)(A:d<=1000):∀(s e:Nat)(l:List zr),X l=d->d-e<=s->1<=e->Blk k e d l->
  ∃j,j.Perm l/\Up (qT k) (dm j) 0 d/\zU eS (s*1002+1) (.h7 (d:Int) k (e:Int) l) (.tup [],[.vec ze.sl j]):=by
 intro s
 induction s with
 | zero=>
  intro e l t B q n;refine⟨l,.refl l,(n 0 (Nat.dvd_zero _)).part (zM _) W,(zU.of ?_).mono W⟩;simp only[eS,Q8,eM (show¬e<d by omega),zD,zm]
 | succ s w=>
  intro e l t B q n;by_cases c:e<d
  case neg=>
   refine⟨l,.refl l,(n 0 (Nat.dvd_zero _)).part (zM _) W,(zU.of ?_).mono W⟩;simp only[eS,Q8,eM c,zD,zm]
  have⟨C,v,E,F⟩:=zvG k d e A q W d 0 l t W W (Nat.dvd_zero _) (λx h=>by omega) (λx _ h=>n x h);have z:=v.length_eq;have⟨j,D,G,H⟩:=w (2*e) C W W W E;refine⟨j,D.trans v,G,(((zH.of ?_).trans F).ends H).mono W⟩;have y:Γ Δ (2*(e:Int))=((0+2*e:Nat):Int):=by rw[wI _ W W];omega
  simp only[eS,Q8,zN c,y,zj];rfl
theorem zvE(k:Int)(d:Nat)(hn:d<=1000):∀(s a:Nat)(l:List zr),X l=d->d-a<=s->a<=d->20∣a->(∀x,x<a->20∣x->Up (qT k) (dm l) x (min (x+20) d))->
  ∃y,y.Perm l/\Blk k 20 d y/\zH eS (s+1) (.h2 (d:Int) k 20 (a:Int) ((a+20:Nat):Int) l) (.h7 (d:Int) k 20 y):=by
 have j:∀(a:Nat)(l e:List zr),20∣a->d<a+20->(∀x,x<a->20∣x->Up (qT k) (dm l) x (min (x+20) d))->Bi (dm l) (dm e) a d->Up (qT k) (dm e) a d->Blk k 20 d e:=λa l e B hN t n q x P=>by
  rcases Nat.lt_trichotomy x a with c|c|c
  .have:x+20<=a:=by omega
   exact(t x c P).same λi y1 y2=>n.1 i W
  .subst c;exact q.part (zM _) W
  .exact Up.one W
 intro s
 induction s with
 | zero=>
  intro a l F H B A t;have⟨e,z,v,n,q⟩:=KF l a d k W W W;refine⟨e,v,j a l e A W t n q,zH.of ?_⟩;have w:T (((a+20:Nat):Int)<=(d:Int))=S:=by simp;omega
  simp only[eS,Q8,w,z,dw,bI,zj,zD,zm]
 | succ s C=>
  intro a l F H B A t;by_cases c:a+20<=d
  .have⟨e,z,v,n,q⟩:=KF l a (a+20) k W W W;have G:=v.length_eq;have⟨y,U,q3,q4⟩:=C (a+20) e W W c W (λx x1 x2=>by
    by_cases D:x<a
    .exact(t x D x2).same λi y1 y2=>n.1 i W
    .obtain rfl:x=a:=by omega
     exact q.part (zM _) W)
   refine⟨y,U.trans v,q3,((zH.of ?_).trans q4).mono W⟩;have w:T (((a+20:Nat):Int)<=(d:Int))=O:=by simp;omega
   have E:Γ Δ (((a+20:Nat):Int)+20)=((a+20+20:Nat):Int):=by rw[wI _ W W];omega
   simp only[eS,Q8,w,E,z,dw,bI,zj]
  .have⟨e,z,v,n,q⟩:=KF l a d k W W W;refine⟨e,v,j a l e A W t n q,(zH.of ?_).mono W⟩;have w:T (((a+20:Nat):Int)<=(d:Int))=S:=by simp;omega
   simp only[eS,Q8,w,z,dw,bI,zj,zD,zm]
theorem zok(k:Int)(l:List zr)(d:X l<=1000):∃c,GC l (X l:Int) k=M c/\c.Perm l/\Up (qT k) (dm c) 0 (X l):=by
 have⟨n,e,s,t⟩:=zvE k (X l) d (X l) 0 l rfl W W (Nat.dvd_zero _) λx h=>by omega
 have⟨c,q,v,w⟩:=zvF k (X l) d (X l) 20 n e.length_eq W W s;refine⟨c,?_,q.trans e,v⟩;have:zbH l (X l:Int) k=M (.tup [],[.vec ze.sl c]):=by
  have j:=gD 1002 d;exact(t.ends w) 100000000 (by
   refine bc (Nat.add_le_add (Nat.succ_le_succ j) (Nat.succ_le_succ d)) (by decide))
 unfold GC;rw[this];rfl
theorem zfN(k:Int)(l:List zr)(c:X l<=1000):∃x,sm l k=M x/\x.Perm l/\Up (qT k) (dm x) 0 (X l):=by
 have⟨x,q,d,e⟩:=zok k l c;refine⟨x,?_,d,e⟩;have:GB l k=M (.tup [],[.vec ze.sl x]):=by
  unfold GB bV;simp only[N1,Q8,q,dw,bI,zj]
 unfold sm;rw[this];rfl
theorem Sg{K:Int}(d:c.Perm l)(E:Up (qT K) (dm c) 0 (X l))(w:∀r∈l,uy K r)(D:Bf K l):c=jp (zP K) l:=by
 have x:∀r∈l,be (zP K r)=O:=λr e=>(w r e).q
 have y:∀r∈c,aj (fb K r)=zP K r:=λr e=>by
  have h:=w r (d.mem_iff.1 e);rw[zfK h.1];unfold aj;rw[h.q];rfl
 have e:qy (zP K) c:=by
  refine List.pairwise_iff_getElem.2 λi j v t s=>?_
  have h:=E i j (aG _) s (by rw[<-d.length_eq];exact t);have z:dm c i=c[i]:=vJ _ _ v;have A:dm c j=c[j]:=vJ _ _ t;rw[z,A]at h;unfold qT leO at h;rw[y _ (bC v),y _ (bC t)]at h;exact h
 refine Gm (d.trans (eJ l).symm) e (Av x) λa q b n B C=>?_
 have q:=d.mem_iff.1 q;have n:=d.mem_iff.1 n;refine HY D q n ?_;rcases(iI (x a q) (x b n)).1 B with h|h
 .rcases(iI (x b n) (x a q)).1 C with g|g
  .exact zA (dZ h g) (by unfold po;rw[AL];omega)
  .exact g.symm
 .exact h
theorem zft(A:Nh x=O)(B:X x.2<=1000)(E:x.2≠[]->dM x.1=O)(D:∀r∈x.2,uy x.1.q.1 r)(C:Bf x.1.q.1 x.2):AY x=M ((x.1,jp (zP x.1.q.1) x.2),()):=by
 by_cases y:x.2=[]
 .have⟨j,z,n,_⟩:=zbi A B;rw[y]at n;rw[z,List.perm_nil.1 n,y];rfl
 have⟨j,z,n,F⟩:=zfN x.1.q.1 x.2 B;have e:=Sg n F D C;subst e;have w:∀j:List zr,aZ [AO.vec zn x.1.2.1,AO.vec zk x.1.r.1,AO.vec zG x.1.t.1,AO.vec ze.sl j] [zl] (agg [I x.1.1,AV.vec 0,L x.1.q.1,AV.vec 1,AV.vec 2,I (zg.op x.1.u),L (zg.v x.1.u).1,L (zg.v x.1.u).2.1,I (zg.v x.1.u).q,I (zg.s x.1.u),N Sh.expr (zg.l x.1.u),AV.vec 3])=M (((x.1,j):ae),()):=by
  intro j;have⟨⟨a,b,c,d,e,f⟩,r⟩:=x;cases f;rfl
 refine zQ (r:=(_,_)) ?_ (w _);simp only[zeQ,Q8,zo,bh,A,E y,z,dw,bI,cj,zD,zj,zm]
def zsR:Tr (Empty⊕aw):=
 Qc O
 (Qc O
  (Qc O (Qc O (Qc O (br S (re (kb S) []) (Qc O (Qc O (Qc O (re (AV.bool O) [])))))))))
def Cu:=ap [Q7] t0 100000000 (zsR)
def SV:=(Cu).isSome
def J3:=o1 (Cu)
def zoU:=FT [] [Q7] λ_=>Cu
theorem zjC:FK 11 zoU:=IC.T1 (f:=Tryz.f11) (keep:=k0) (e:=e0)
def zia:=zh9.add 11 zoU
theorem ID:zw zia:=IC.add zjC
abbrev ztI:=kS [(4,[2,3,5]),(9,[2,3,6]),(14,[2,3,7])]
inductive G8 where
 |h4 (i5:Int) (z0:zp [CP.d ab]) (z1:zp [CP.d ab])
 |h9 (i6:Int) (z0:zp [CP.d ab]) (z1:zp [CP.d ab])
 |h14 (i7:Int) (z0:zp [CP.d ab]) (z1:zp [CP.d ab])
abbrev zwD:G8->Nat×St
 |.h4 c z x=>(4,⟨tm 106 [(2,ptr 0 0),(3,ptr 1 0),(5,L c)],[AO.box (bL [] [CP.d ab] z),AO.box (bL [] [CP.d ab] x)]⟩)
 |.h9 e z x=>(9,⟨tm 106 [(2,ptr 0 0),(3,ptr 1 0),(6,L e)],[AO.box (bL [] [CP.d ab] z),AO.box (bL [] [CP.d ab] x)]⟩)
 |.h14 j z x=>(14,⟨tm 106 [(2,ptr 0 0),(3,ptr 1 0),(7,L j)],[AO.box (bL [] [CP.d ab] z),AO.box (bL [] [CP.d ab] x)]⟩)
def zmE(x c:al):Tr (G8⊕aw):=
 br
 (bif !x.1==c.1 then O
 else
  bif x.q.1!=c.q.1 then O
  else bif (X x.2.1:Int)!=(X c.2.1:Int)then O else bif (X x.r.1:Int)!=(X c.r.1:Int)then O else(X x.t.1:Int)!=(X c.t.1:Int))
 (re (kb S) []) (Tr.to (G8.h4 0 (x,()) (c,())))
def Cl:G8->Tr (G8⊕aw)
 | .h4 e z x=>
  let s:=(X z.1.2.1:Int)
  let c:=Y z.1.2.1 e.toNat (Q zn)
  let d:=Y x.1.2.1 e.toNat (Q zn)
  br (T (e<s))
  (Qc (zL e (X z.1.2.1)) (Qc (zL e (X x.1.2.1)) (br (!(c.1==d.1&&(c.2.1==d.2.1&&(c.q==d.q&&O)))) (re (kb S) []) (Tr.to (G8.h4 (Γ Δ (e+1)) z x)))))
  (Tr.to (G8.h9 0 z x))
 | .h9 j z x=>
  let s:=(X z.1.r.1:Int)
  br (T (j<s))
  (Qc (zL j (X z.1.r.1)) (Qc (zL j (X x.1.r.1)) (br (Y z.1.r.1 j.toNat (Q zk)!=Y x.1.r.1 j.toNat (Q zk)) (re (kb S) []) (Tr.to (G8.h9 (Γ Δ (j+1)) z x)))))
  (Tr.to (G8.h14 0 z x))
 | .h14 n z x=>
  let s:=(X z.1.t.1:Int)
  let c:=Y z.1.t.1 n.toNat (Q zG)
  let d:=Y x.1.t.1 n.toNat (Q zG)
  let v:=zt z.1.u
  let w:=zt x.1.u
  br (T (n<s))
  (Qc (zL n (X z.1.t.1)) (Qc (zL n (X x.1.t.1)) (br (!(c.1==d.1&&(c.2==d.2&&O))) (re (kb S) []) (Tr.to (G8.h14 (Γ Δ (n+1)) z x)))))
  (Qc (gV v w) (re (AV.bool (fJ v w)) []))
def C1(x c:al):=ap [Q7] Cl 100000000 (zmE x c)
def Lj(x c:al):=(C1 x c).isSome
def RT(x c:al):=o1 (C1 x c)
def zpD:=FT [ab,ab] [Q7] λx=>C1 x.1 x.2.1
theorem zko:FK 36 zpD:=ID.T1 (f:=Tryz.f36) (keep:=ztI) (e:=zwD)
def YP:=zia.add 36 zpD
theorem El:zw YP:=ID.add zko
def zsW(x c:ae):Tr (Empty⊕aw):=
 let d:=(x.1.1,x.1.2.1,x.1.q.1,x.1.r.1,x.1.t.1,zt x.1.u)
 let e:=(c.1.1,c.1.2.1,c.1.q.1,c.1.r.1,c.1.t.1,zt c.1.u)
 let j:=RT d e
 Qc (Lj d e&&bif j then Lo x.2 c.2 else O) (re (AV.bool (cond j (RV x.2 c.2) S)) [])
def C6(x c:ae):=ap [Q7] t0 100000000 (zsW x c)
def C5(x c:ae):=(C6 x c).isSome
def Lp(x c:ae):=o1 (C6 x c)
def zpb:=FT [zl,zl] [Q7] λx=>C6 x.1 x.2.1
theorem zjR:FK 14 zpb:=El.T1 (f:=Tryz.f14) (keep:=k0) (e:=e0)
def zss:=YP.add 14 zpb
theorem VO:zw zss:=El.add zjR
theorem O3{a:al}(A:X a.2.1<=1000000)(C:X a.r.1<=1000000)(B:X a.t.1<=1000000)(v:ol 16 a.u=O):Lj a a=O/\RT a a=O:=by
 have⟨z,s⟩:=oY (b:=a.u) v;have s:=s.2 rfl;have w:(zmE a a).val=M (.inl (.h4 ((0:Nat):Int) (a,()) (a,()))):=by
  simp only[zmE,Q8,BEq.rfl,cj,ib,aJ,zD,zm];rfl
 have c:=zH.all (t:=Cl) 1 (λi=>.h4 (i:Int) (a,()) (a,())) (X a.2.1) λi x=>zH.of (by
  simp only[Cl,Q8,zN x,zx x,BEq.rfl,qB,cj,zD,zj,zm];rw[zu i um])
 have d:zH Cl 1 (.h4 (X a.2.1:Int) (a,()) (a,())) (.h9 ((0:Nat):Int) (a,()) (a,())):=zH.of (by
  simp only[Cl,Q8,zK,zD,zm];rfl)
 have e:=zH.all (t:=Cl) 1 (λi=>.h9 (i:Int) (a,()) (a,())) (X a.r.1) λi x=>zH.of (by
  simp only[Cl,Q8,zN x,zx x,ib,zD,zj,zm];rw[zu i um])
 have j:zH Cl 1 (.h9 (X a.r.1:Int) (a,()) (a,())) (.h14 ((0:Nat):Int) (a,()) (a,())):=zH.of (by
  simp only[Cl,Q8,zK,zD,zm];rfl)
 have q:=zH.all (t:=Cl) 1 (λi=>.h14 (i:Int) (a,()) (a,())) (X a.t.1) λi x=>zH.of (by
  simp only[Cl,Q8,zN x,zx x,BEq.rfl,qB,cj,zD,zj,zm];rw[zu i um])
 have h:=zz (outs:=[Q7]) (n:=100000000) (y:=(O,())) w (((((c.trans d).trans e).trans j).trans q).ends (zU.of (r:=(.bool O,[])) (by
  simp only[Cl,Q8,zo,zK,z,s,zD,zj,zm]))) W rfl
 have h:C1 a a=M (O,()):=h;exact⟨by unfold Lj;rw[h];rfl,by unfold RT;rw[h];rfl⟩
theorem O5(c:X x.1.2.1<=1000000)(n:X x.1.r.1<=1000000)(j:X x.1.t.1<=1000000)(d:ol 16 x.1.u=O)(e:X x.2<=1000000)(q:∀r∈x.2,X r<=1000000):C5 x x=O/\Lp x x=O:=by
 have⟨s,v⟩:=O3 c n j d;have⟨w,y⟩:=O4 e q;have h:C6 x x=M (O,()):=by
  refine zQ (r:=(.bool O,[])) ?_ rfl;simp only[zsW,Q8,zo,bh,s,v,w,y,aI,qB,zj]
 exact⟨by unfold C5;rw[h];rfl,by unfold Lp;rw[h];rfl⟩
section
variable {db:List (J zl)} {p:J ar} {us:List (J R)}
theorem BI(h:aP db p):∀l:zr,l.flatMap (de db p)=(l.filter λu=>@decide (u∈bQ p (zT db p)) (Classical.propDecidable _)).flatMap (de db p)
 |[]=>rfl
 | a::r=>by
  rw[List.flatMap_cons,BI h r,List.filter_cons];by_cases x:a∈bQ p (zT db p)
  .rw[zf (@zB _ (Classical.propDecidable _) x),List.flatMap_cons]
  .rw[zh (λq=>x (@lp _ (Classical.propDecidable _) q))];have c:B6 db p a=[]:=kX λq=>x ((h.is a).2 q)
   have:de db p a=[]:=by
    unfold de;rw[c];unfold un;split<;>rfl
   rw[this];rfl
theorem NW(h:aP db p)(m:lz db p)(us:zr):Bf p.r.1.q.1 ((dY us).flatMap (de db p)):=by rw[BI h];exact sD h m ((pX us).filter _) λu x=>@lp _ (Classical.propDecidable _) (List.mem_filter.1 x).2
theorem mv(h:aP db p)(m:lz db p){l:zr}:∀r∈l.flatMap (de db p),uy p.r.1.q.1 r/\dM p.r.1=O/\X r<=1000:=λr c=>by
 have⟨u,_,x⟩:=Bo.1 c;have⟨d,e,j⟩:=EW h m r x;have:=(cL d).1;have:=m.wf.ncols;exact⟨e,j,W⟩
theorem VX(h:aP db p)(m:lz db p){l:zr}(x:l.flatMap (de db p)≠[]):dM p.r.1=O:=by have⟨r,c⟩:=List.exists_mem_of_ne_nil _ x;exact(mv h m r c).2.1
theorem Sd(h:aP db p)(m:lz db p)(x:X us<=1000):kY p (zT db p) us=M ((p.r.1,jp (zP p.r.1.q.1) ((dY us).flatMap (de db p))),((eZ db p (dY us):Nat):Int),0,()):=by have c:=(lS h (dY us) (pX us)).1;exact zbD h m x (zft (zeZ h m us) (bc c W) (VX h m) (λr d=>(mv h m r d).1) (NW h m us))
theorem zrS(h:aP db p)(m:lz db p):M4 p (zT db p)=M ((p.r.1,jp (zP p.r.1.q.1) ((bQ p (zT db p)).flatMap (de db p))),((eZ db p (bQ p (zT db p)):Nat):Int),0,()):=by have x:=h.few;have c:=h.rel.few;have:=Sd (us:=bQ p (zT db p)) h m W;rw[AJ h.nodup]at this;exact zlB h this
theorem Wk(h:aP db p)(m:lz db p){rows:List zr}(c:X rows<=1000)(d:∀r∈rows,X r<=1000):C5 (p.r.1,rows) (p.r.1,rows)=O/\Lp (p.r.1,rows) (p.r.1,rows)=O:=
 O5 (x:=(p.r.1,rows)) (bc m.wf.ncols W) (bc m.wf.nuq W) (bc m.wf.nrf W) h.go.few.cp (bc c W) λr q=>bc (d r q) W
end
theorem zbT{db:zS}{p:aA}(E:∀x∈db,ij x)(C:aP db p){d:zS}{e s:zO}(j:E7 d=db)(v:KI d=O)(A:Tx e=s)(z:KH e=O)(D:T9 db s=(p,0))(w:K1 db s=O):
  oP d e=M (p,zT db p,O,()):=by
 have B:=zbS (zaY E C.fnd);have F:KJ p db=O:=by unfold KJ;rw[B];rfl
 have G:Rr p db=(p,zT db p,O):=by unfold Rr;rw[B];rfl
 have c:p=(p.1,p.2.1,p.q.1,(p.r.1.1,p.r.1.2.1,p.r.1.q.1,p.r.1.r.1,p.r.1.t.1,zt p.r.1.u),p.t):=by rw[zo]
 refine(zQ (i:=i7u d e) (t:=t0) (n:=100000000) (outs:=[ar,zl.sl,Q7]) (by
  simp only[i7u,zo,bh,Q8,j,v,A,z,D,w,F,G,ib,zD,zj,zm];rfl) (y:=((p.1,p.2.1,p.q.1,(p.r.1.1,p.r.1.2.1,p.r.1.q.1,p.r.1.r.1,p.r.1.t.1,zt p.r.1.u),p.t),zT db p,O,())) rfl).trans ?_
 rw[<-c]
theorem zaQ{s:zS}{e:zO}(hx:∀x∈s,RgR x)(h1:RgS e):
  ∃(p:aA)(C:zS)(P:Bool),oP s e=M (p,C,P,())/\(P=O->∃db c,p=(bp db c).2/\(bp db c).1=0/\aP db p/\C=zT db p/\(∀x∈db,My x)/\lz db p/\yD c):=by
 have⟨db,F,d2,d3⟩:=ZS s;have⟨c,s1,s2,E⟩:=ZQ h1;have v:E7 s=db:=by unfold E7;rw[F];rfl
 have w:KI s=O:=by unfold KI;rw[F];rfl
 have H:Tx e=c:=by unfold Tx;rw[s1];rfl
 have A:KH e=O:=by unfold KH;rw[s1];rfl
 have d:∀x∈db,My x:=by
  intro x j;obtain⟨y,hy,rfl⟩:=d3 x j;exact ZR (hx y hy)
 have B:∀x∈db,ij x:=λx j=>(d x j).short
 have U:=zaW d E;have z:K1 db c=O:=by unfold K1;rw[U];rfl
 have D:T9 db c=((bp db c).2,(bp db c).1):=by unfold T9;rw[U];rfl
 by_cases q:(bp db c).1=0
 .have G:=zaO B q s2;have hM:=znu d q E;rw[q]at D;exact⟨(bp db c).2,zT db (bp db c).2,O,zbT B G v w H A D z,λ_=>⟨db,c,rfl,q,G,rfl,d,hM,E⟩⟩
 .have hb:((bp db c).1!=0)=O:=by simpa using q
  refine⟨lw,[],S,?_,λh=>by cases h⟩;refine zQ (i:=i7u s e) (t:=t0) (n:=100000000) (outs:=[ar,zl.sl,Q7]) (r:=(tup [zPl,nils,kb S],[])) ?_ rfl;simp only[i7u,zo,bh,Q8,v,w,H,A,D,z,hb,zj]
section
variable {db:List (J zl)} {p:J ar} {us a b:List (J R)}
theorem XT:eZ db p (a++b)=eZ db p a+eZ db p b:=by unfold eZ;rw[gh,List.sum_append]
theorem Vf(x:a.Perm b):eZ db p a=eZ db p b:=(x.map _).sum_nat
theorem Rf(x:a.Perm b):(a.flatMap (de db p)).Perm (b.flatMap (de db p)):=List.Perm.flatMap_right _ x
theorem Wv(h:aP db p)(m:lz db p)(d:(a++b).Perm (bQ p (zT db p))):
  jp (zP p.r.1.q.1) (jp (zP p.r.1.q.1) (a.flatMap (de db p))++jp (zP p.r.1.q.1) (b.flatMap (de db p)))=jp (zP p.r.1.q.1) ((bQ p (zT db p)).flatMap (de db p))/\
  eZ db p a+eZ db p b=eZ db p (bQ p (zT db p)):=by
 refine⟨?_,by rw[<-XT];exact Vf d⟩;have x:=sD h m h.nodup λu n=>n
 have c:((bQ p (zT db p)).flatMap (de db p)).Perm (jp (zP p.r.1.q.1) (a.flatMap (de db p))++jp (zP p.r.1.q.1) (b.flatMap (de db p))):=by
  refine(Rf d).symm.trans ?_;rw[List.flatMap_append];exact((eJ _).symm.append (eJ _).symm)
 refine(Zz (λr j=>?_) x c).symm;have⟨u,_,e⟩:=Bo.1 j;exact(EW h m r e).2.1.q
end
section
variable {α:Type}
def iO(f:Nat->Bool)(l:List α)(i:Nat):List α:=((l.take i).zipIdx.filter λx=>f x.2).map (·.1)
theorem DV(f:Nat->Bool)(l:List α){i:Nat}(h:i<X l):iO f l (i+1)=if f i=O then iO f l i++[l[i]]else iO f l i:=by
 unfold iO;have e:(l.take (i+1)).zipIdx=(l.take i).zipIdx++[(l[i],i)]:=by
  rw[bF h,List.zipIdx_append];have:(l.take i).length=i:=by rw[oy];omega
  rw[this,eI];rfl
 rw[e,List.filter_append,gh,List.filter_cons];split<;>simp
theorem Qq(f:Nat->Bool)(l:List α):(iO f l (X l)++iO (λi=>!f i) l (X l)).Perm l:=by unfold iO;rw[<-gh];have h:=(List.filter_append_perm (λx:α×Nat=>f x.2) l.zipIdx).map Prod.fst;rw[List.zipIdx_map_fst]at h;rw[gE];exact h
end
abbrev zyj:Nat->aX:=λj=>if j=7 then{slots:=[2,7,8,10,11,12,13,14],prom:=[(12,none,R),(13,none,R)]}else{ }
inductive H4q where
 |h7 (i2:J (Sh.int IntKind.u32)) (l8:zS) (l10:zr) (i11:zy) (i14:Int) (z0:zp [CP.d ar]) (lh_1:zr) (lh_2:zr)
abbrev e4q:H4q->Nat×St
 |.h7 q s n e j z x c=>(7,⟨tm 128 [(2,AV.int IntKind.u32 q),(7,ptr 0 0),(8,N zl s),(10,N R n),(11,L e),(12,AV.vec 1),(13,AV.vec 2),(14,L j)],[AO.box (bL [] [CP.d ar] z),AO.vec R x,AO.vec R c]⟩)
def i4q(n:J zl.sl)(c:zO)(s:J (Sh.int IntKind.u32)):Tr (H4q⊕aw):=
 let d:=(c.1,c.2.1,c.2.2.1,c.2.2.2.1,c.t.1,c.t.2.1,c.t.q.1,c.t.q.2.1,zt c.t.t.1,c.t.t.2.1,c.t.t.q.1,zt c.t.t.q.2.1,c.t.t.t)
 let x:=E9 n d
 let e:=(x.1.1,x.1.2.1,x.1.2.2.1,(x.1.2.2.2.1.1,x.1.2.2.2.1.2.1,x.1.2.2.2.1.2.2.1,x.1.2.2.2.1.2.2.2.1,x.1.2.2.2.1.t.1,zt x.1.2.2.2.1.t.2),x.1.t)
 let j:=JM e x.2.1
 Qc (AB n d)
 (br (!x.2.2) (Qc O (re (AV.bool J3) []))
  (Qc (Ba e x.2.1) (Tr.to (H4q.h7 s x.2.1 j.1 j.2 0 (x.1,()) [] []))))
def t4q:H4q->Tr (H4q⊕aw)
 | .h7 D s e w d z x c=>
  let E:=Γ Δ (d.tmod 32)
  let B:=[e.getD d.toNat (Q R)]
  let F:=Γ Δ (d+1)
  let y:=(z.1.1,z.1.2.1,z.1.q.1,(z.1.r.1.1,z.1.r.1.2.1,z.1.r.1.q.1,z.1.r.1.r.1,z.1.r.1.t.1,zt z.1.r.1.u),z.1.t)
  let j:=wv y s x
  let C:=wv y s c
  let n:=zlE y s
  let G:=((j.1.1.1,j.1.1.2.1,j.1.1.q.1,j.1.1.r.1,j.1.1.t.1,zt j.1.1.u),j.1.2++C.1.2)
  let v:=RW G
  let H:=((v.1.1,v.1.2.1,v.1.q.1,v.1.r.1,v.1.t.1,zt v.1.u),v.2)
  let A:=((n.1.1.1,n.1.1.2.1,n.1.1.q.1,n.1.1.r.1,n.1.1.t.1,zt n.1.1.u),n.1.2)
  br (T (d<(X e:Int)))
  (Qc O (Qc (T (0<=E)) (br (IntKind.u32.wrap (↑(BitVec.ofInt IntKind.u32.bits (Int.fdiv D (2^min E.toNat IntKind.u32.bits)) &&& BitVec.ofInt IntKind.u32.bits 1).toNat:Int)==1) (Qc (zL d (X e)) (Qc (T (X x+X B<=1073741824)) (Tr.to (H4q.h7 D s e w F z (x++B) c))))
  (Qc (zL d (X e)) (Qc (T (X c+X B<=1073741824)) (Tr.to (H4q.h7 D s e w F z x (c++B))))))))
  (Qc (py y s x) (Qc (py y s c) (Qc (XO y s) (br (cond (w !=0) O (cond (j.q !=0) O (cond (C.q !=0) O (cond (n.q !=0) O (Γ Δ (j.2.1+C.2.1)!=n.2.1))))) (re (kb S) []) (Qc (T (X j.1.2<=1073741824))
  (Qc (T (X j.1.2+X C.1.2<=1073741824)) (Qc (Lq G) (Qc (C5 H A) (br (Lp H A) (Qc O (re (AV.bool J3) [])) (re (kb S) []))))))))))
def xf(x:J zl.sl)(c:zO)(d:J (Sh.int IntKind.u32)):=ap [Q7] t4q 100000000 (i4q x c d)
def F4q:=FT [zl.sl,ay,Sh.int IntKind.u32] [Q7] λx=>xf x.1 x.2.1 x.q.1
theorem zq1:FK 4 F4q:=VO.T1 (f:=Tryz.f4) (keep:=zyj) (e:=e4q)
def ofV(_:aA)(s:zS)(x:Int)(row:zr):zq×Int:=
 if X row≠X (Y s 0 (Q zl)).1.2.1\/¬∀v∈row,be v=O then((0,0,[]),1)else if(Y row x.toNat (Q R)).1=0 then((0,0,[]),6)else(Y row x.toNat (Q R),0)
theorem zor{p:aA}{s:zS}{row:zr}(h:SJ p s)(E:nJ p s=O)(H:X row<=1000)(B:X row=X (Y s 0 (Q zl)).1.2.1->zL (dC p s) (X row)=O):
  zvQ p s row=M ((ofV p s (dC p s) row).1,(ofV p s (dC p s) row).2,()):=by
 have⟨C,D⟩:=CM h;have G:=(qu h.two).1;have j:zL 0 (X s)=O:=zx (i:=0) G;unfold ofV;by_cases c:X row=X (Y s 0 (Q zl)).1.2.1
 .have F:=B c;have e:((X row:Int)!=((X (Y s 0 (Q zl)).1.2.1:Nat):Int))=S:=by rw[c];simp
  have x:(zeD p s row).val=M (.inl (.h4 s row row (X row:Int) ((0:Nat):Int) (p,()) ((0,0,[]),()))):=by
   simp only[zeD,zo,bh,Q8,C,D,j,ib,aJ,qB,zj];rw[zh (by rw[iW];exact e)];rfl
  have z:∀i(x:i<X row),(WS (.h4 s row row (X row:Int) (i:Int) (p,()) ((0,0,[]),()))).val=if be row[i]=O then M (.inl (.h4 s row row (X row:Int) ((i+1:Nat):Int) (p,()) ((0,0,[]),())))else M (.inr (.tup [.agg [L 0,L 0,.str []],L 1],[])):=λi x=>by
   simp only[WS,Q8,zN x,zx x,zj,zX _ _ x];rw[zu i um];cases be row[i]<;>simp
  rcases nL (t:=WS) (Φ:=λr=>r=(.tup [.agg [L 0,L 0,.str []],L 1],[])) 1 (λi=>.h4 s row row (X row:Int) (i:Int) (p,()) ((0,0,[]),())) (λi=>∀h:i<X row,be row[i]=O) (X row) (λi x _=>by
   by_cases y:be row[i]=O
   .exact .inl ⟨λ_=>y,zH.of (by rw[z i x,zf y])⟩
   .exact .inr ⟨λq=>y (q x),_,zU.of (by rw[z i x,zh y]),rfl⟩)with⟨A,w⟩|⟨A,r,w,rfl⟩
  .have d:∀v∈row,be v=O:=λv z=>by
    obtain⟨i,x,rfl⟩:=fO z;exact A i x x
   rw[zh (by rintro(q|q);exact q c;exact q d)];by_cases n:(Y row (Z (dC p s)) (Q R)).1=0
   .rw[zf n];have e0:((Y row (Z (dC p s)) (Q R)).1==0)=O:=by simpa using n
    refine zz x (w.ends (zU.of (r:=(.tup [.agg [L 0,L 0,.str []],L 6],[])) ?_)) W rfl;simp only[WS,Q8,zK,zo,bh,E,F,e0,zD,zj,zm]
   .rw[zh n];have e0:((Y row (Z (dC p s)) (Q R)).1==0)=S:=by simpa using n
    refine zz x (w.ends (zU.of (r:=(.tup [.agg [L (Y row (Z (dC p s)) (Q R)).1,L (Y row (Z (dC p s)) (Q R)).2.1,.str (Y row (Z (dC p s)) (Q R)).q],L 0],[])) ?_)) W rfl;simp only[WS,Q8,zK,zo,bh,E,F,e0,zD,zj,zm]
  .rw[zf (.inr λq=>A λi x _=>q _ (bC x))];exact zz x w W rfl
 .rw[zf (.inl c)];have e:((X row:Int)!=((X (Y s 0 (Q zl)).1.2.1:Nat):Int))=O:=by
   rw[bne_iff_ne];exact λq=>c (by exact_mod_cast q)
  refine zQ (r:=(.tup [.agg [L 0,L 0,.str []],L 1],[])) ?_ rfl;simp only[zeD,zo,bh,Q8,C,D,j,ib,aJ,qB,zj];exact zf e
section
variable {db:List (J zl)} {p:J ar}
theorem aP.of(h:aP db p){row:zr}(c:X row<=1000):zvQ p (zT db p) row=M ((ofV p (zT db p) (dV p (zT db p)) row).1,(ofV p (zT db p) (dV p (zT db p)) row).2,()):=by
 have:=zor (row:=row) h.go h.pc.1 c (λe=>by
  rw[h.pc.2];unfold zL;rw[aN];have x:=h.col.1;have j:=h.col.2;have d:X row=X (fa db p).1.2.1:=e;exact⟨zB x,zB W⟩)
 rwa [h.pc.2]at this
theorem aP.row(h:aP db p){row:zr}(x:row∈(fa db p).2):ofV p (zT db p) (dV p (zT db p)) row=if(Y row (Z (dV p (zT db p))) (Q R)).1=0 then((0,0,[]),6)else(Y row (Z (dV p (zT db p))) (Q R),0):=by
 unfold ofV;rw[zh];rintro(q|q)
 .exact q (h.inn row x).2
 .exact q (cL (h.rel.fits row x)).2.1
end
inductive H5q where
 |h10 (l6:zS) (i9:zy) (l11:zr) (i13:Int) (i14:Int) (z0:zp [CP.d ar]) (z1:zp [CP.d zl])
theorem M5:Cu=M (O,()):=zQ (i:=zsR) (r:=(.bool O,[])) rfl rfl
theorem M6:SV=O/\J3=O:=⟨by unfold SV;rw[M5];rfl,by unfold J3;rw[M5];rfl⟩
end
end Cad
