/- Rows. -/
import Derived.Test.YtgcekmmgphhofaaGreatDoorR37
namespace Cad
open Go Go.Proofs
open List renaming length->M
open IntKind renaming wrap->Γ,i64->Δ
open Tr renaming val->Q9
open Bool renaming true->Z,false->J
open Option renaming some->Y
open Decidable renaming decide->L
open Int renaming toNat->T
open List renaming getD->W
open Tr (chk br re)
open AV (nils agg tup ptr kb)
open AV renaming str->X,sl->O
open Cad renaming ze->Q,ow->S,ai->I,Sem->N
set_option maxHeartbeats 2000000
theorem wI(x:Int)(h:-4000000000<=x)(a:x<=4000000000):Γ Δ x=x:=by rw[lz];omega
theorem wU(x:Int)(h:0<=x)(a:x<=4000000000):IntKind.u64.wrap x=x:=by simp only[IntKind.wrap,IntKind.bits,IntKind.signed];simp;omega
def ma(k:Int)(r:zo):zw:=bif (cond (L (k<0)) Z (L (k>=(M r:Int))))then(0,0,[])else W r k.toNat (zk Q)
def HM(k:Int)(a b:zo):Prop:=Aj (ma k a) (ma k b)
variable {k:Int}
theorem S1{a b:zo}(h:HM k a b):¬HM k b a:=λg=>gP (fT h g)
def Kp(k:Int)(h l:List zo):Prop:=l.Perm h/\(h.Pairwise (HM k)->l=h)
variable {l:List zo}
theorem Kp.refl:Kp k l l:=⟨.refl l,λ_=>rfl⟩
theorem Kp.len{x:List zo}(h:Kp k x l):M l=M x:=h.1.length_eq
variable {b a:List zo}
theorem Kp.trans(h:Kp k b l)(g:Kp k l a):Kp k b a:=⟨g.1.trans h.1,λx=>by
 have e:=h.2 x;subst e;exact g.2 x⟩
theorem Kp.perm(x:b.Perm l)(h:¬l.Pairwise (HM k)):Kp k l b:=⟨x,λa=>zp a h⟩
variable {i j:Nat}
theorem qG{α:Type}{l:List α}(h:i<M l)(x:j<M l)(d:α):((l.set j (l.getD i d)).set i (l.getD j d)).Perm l:=by grind[List.set_set_perm]
theorem XG(h:l.Pairwise (HM k))(x:i<j)(a:j<M l)(d:zo):HM k (l.getD i d) (l.getD j d):=by grind[List.pairwise_iff_getElem]
theorem yK(h:i<j)(a:j<M l)(d:zo)(x:HM k (l.getD j d) (l.getD i d)):¬l.Pairwise (HM k):=λb=>S1 x (XG b h a d)
theorem M0(h:j<i):L ((i:Int)>(j:Int))=Z:=by simpa using h
theorem zac(n:Nat):L ((n:Int)>(n:Int))=J:=by simp
theorem lK(h:¬i<j):L ((i:Int)<(j:Int))=J:=by simpa using h
theorem py(k:Int)(x y:zo):
  (bif (cond (L (k<0)) Z (L (k>=(M x:Int))))then bif (cond (L (k<0)) Z (L (k>=(M y:Int))))then aV (0,0,[]) (0,0,[])else aV (0,0,[]) (W y k.toNat (zk Q))
   else bif (cond (L (k<0)) Z (L (k>=(M y:Int))))then aV (W x k.toNat (zk Q)) (0,0,[])else aV (W x k.toNat (zk Q)) (W y k.toNat (zk Q)))=aV (ma k x) (ma k y):=by grind[ma]
theorem zhC(k:Int)(x:zo):(cond (cond (L (k<0)) Z (L (k>=(M x:Int)))) Z (zT k (M x)))=Z:=by grind[zT]
theorem lI(k:Int)(x y:zo):(bif (cond (L (k<0)) Z (L (k>=(M x:Int))))then(cond (cond (L (k<0)) Z (L (k>=(M y:Int)))) Z (zT k (M y)))
  else zT k (M x)&&(cond (cond (L (k<0)) Z (L (k>=(M y:Int)))) Z (zT k (M y))))=Z:=by grind[zhC]
theorem Wc(g:List zo)(a b i:Nat)(k:Int)(P:M g<=1000)(H:i<1000):∀(m j:Nat)(l:List zo),j=a+m->j<M l->Kp k g l->
  ∃c,Kp k g c/\z8 rr (m+1) (.h4 (a:Int) (b:Int) k (i:Int) (j:Int) l) (.h1 (a:Int) (b:Int) k ((i+1:Nat):Int) c):=by
 intro m
 induction m with
 | zero=>
  intro j l F x h;refine⟨l,h,z8.of ?_⟩;obtain rfl:j=a:=by omega
  simp only[rr,Q9,zac,bT,zO,zr,zj,zz i um]
 | succ m v=>
  intro j l F x h;obtain⟨j,rfl⟩:∃G,j=G+1:=⟨j-1,S⟩;have u:=h.len;have w:L (((j+1:Nat):Int)>(a:Int))=Z:=M0 S;have y:zT ((j+1:Nat):Int) (M l)=Z:=zx x;have z:L (j+1<M l)=Z:=by simpa using x
  have n:Γ Δ (((j+1:Nat):Int)-1)=(j:Int):=uG j um;have q:zT (j:Int) (M l)=Z:=zx S;have s:L (j<M l)=Z:=by simp;omega
  have A:zT (j:Int) (l.set (j+1) (l.getD j (zk ze.sl))).length=Z:=by rw[wZ];exact q
  have C:L (j<(l.set (j+1) (l.getD j (zk ze.sl))).length)=Z:=by rw[wZ];exact s
  by_cases d:HM k (l.getD (j+1) (zk ze.sl)) (l.getD j (zk ze.sl))
  .have e:Kp k l ((l.set (j+1) (l.getD j (zk ze.sl))).set j (l.getD (j+1) (zk ze.sl))):=Kp.perm (qG S x _) (yK (i:=j) (j:=j+1) S x _ d);have⟨c,D,E⟩:=v j _ S sg (h.trans e);refine⟨c,D,((z8.of ?_).trans E).mono S⟩;have t:L (LT.lt (α:=Int) (aV (ma k (l.getD (j+1) (zk ze.sl))) (ma k (l.getD j (zk ze.sl)))) 0)=Z:=zL d;simp only[rr,Q9,n,bB];rw[lI,py];simp_all
  .refine⟨l,h,(z8.of ?_).mono S⟩;have t:L (LT.lt (α:=Int) (aV (ma k (l.getD (j+1) (zk ze.sl))) (ma k (l.getD j (zk ze.sl)))) 0)=J:=aQ d;simp only[rr,Q9,n,bB];rw[lI,py];simp only[w,y,z,q,s,t,A,C,bU,oS,zj,zO,zr,zz i um]
theorem Wb(h:List zo)(a b:Nat)(k:Int)(s:M h<=1000)(u:b<=M h):∀(m i:Nat)(l:List zo),b-i=m->a<=i->Kp k h l->
  ∃x,Kp k h x/\aF rr (m*1002+1) (.h1 (a:Int) (b:Int) k (i:Int) l) (.tup [],[.vec ze.sl x]):=by
 intro m
 induction m with
 | zero=>
  grind[aF.of,rr,Q9]
 | succ m e=>
  intro i l w v c;have d:=c.len;have⟨t,g,j⟩:=Wc h a b i k s S (i-a) i l S S c;have⟨x,n,q⟩:=e (i+1) t S S g;refine⟨x,n,((z8.of ?_).trans j |>.ends q).mono S⟩;grind[rr,Q9]
theorem BG(l:List zo)(a b:Nat)(k:Int)(g:M l<=1000)(i:a<=M l)(e:b<=M l):∃h,vX l a b k=Y h/\Kp k l h:=by
 have⟨h,x,c⟩:=Wb l a b k g e (b-(a+1)) (a+1) l rfl S Kp.refl;refine⟨h,?_,x⟩;have:M6 l a b k=Y (.tup [],[.vec ze.sl h]):=by
  unfold M6 b6 Pn;rw[zz a um];have d:b-(a+1)<=1000:=by omega
  exact c 100000000 (aB (Nat.succ_le_succ (gu 1002 d)) (by decide))
 unfold vX;rw[this];rfl
theorem ziT(h:List zo)(a b n:Nat)(D:M h<=1000)(y:a+n<=M h)(z:b+n<=M h):∀(m i:Nat)(l:List zo),n-i=m->i<=n->l.Perm h->
  ∃x,x.Perm h/\aF FG (m+1) (.h1 (a:Int) (b:Int) (n:Int) (i:Int) l) (.tup [],[.vec ze.sl x]):=by
 intro m
 induction m with
 | zero=>
  grind[aF.of,FG,Q9]
 | succ m e=>
  intro i l C A d;have c:=d.length_eq;have e0:Γ Δ ((b:Int)+(i:Int))=((b+i:Nat):Int):=by rw[wI _ S S];omega
  have g:Γ Δ ((a:Int)+(i:Int))=((a+i:Nat):Int):=by rw[wI _ S S];omega
  have q:zT ((a+i:Nat):Int) (M l)=Z:=zx S;have s:zT ((b+i:Nat):Int) (M l)=Z:=zx S;have t:L (a+i<M l)=Z:=by simp;omega
  have u:L (b+i<M l)=Z:=by simp;omega
  have⟨x,v,w⟩:=e (i+1) ((l.set (a+i) (l.getD (b+i) (zk ze.sl))).set (b+i) (l.getD (a+i) (zk ze.sl))) S S ((qG (i:=b+i) (j:=a+i) S S _).trans d);refine⟨x,v,((z8.of ?_).ends w).mono S⟩;simp only[FG,Q9,z6 (show i<n by omega),e0,g,q,s,t,u,bB,wZ,zj,zz i um]
theorem NN(l:List zo)(a b n:Nat)(k:Int)(g:M l<=1000)(d:a+n<=M l)(e:b+n<=M l):∃h,NM l a b n k=Y h/\h.Perm l:=by have⟨h,x,c⟩:=ziT l a b n g d e n 0 l rfl S (.refl l);refine⟨h,?_,x⟩;have:zqK l a b n k=Y (.tup [],[.vec ze.sl h]):=c 100000000 S;unfold NM;rw[this];rfl
theorem ziL(c:List zo)(m:Nat)(k:Int)(C:M c<=1000):∀(s i j:Nat)(l:List zo),i+j<=s->1<=i->1<=j->i<=m->m+j<=M c->l.Perm c->
  ∃x,x.Perm c/\aF CV (s+1) (.h2 (m:Int) k (i:Int) (j:Int) l) (.tup [],[.vec ze.sl x]):=by
 intro s
 induction s with
 |zero=>intro i j l h n;omega
 | succ s g=>
  intro i j l D n w y z b;have t:=b.length_eq;have e0:Γ Δ ((m:Int)-(i:Int))=((m-i:Nat):Int):=by rw[wI _ S S];omega
  rcases Nat.lt_trichotomy i j with h|h|h
  .have⟨a,u,q⟩:=NN l (m-i) (m+j-i) i k S S S;have⟨x,d,e⟩:=g i (j-i) a S n S y S (q.trans b);refine⟨x,d,((z8.of ?_).ends e).mono S⟩;have v:((i:Int)!=(j:Int))=Z:=by simp;omega
   have A:L ((i:Int)>(j:Int))=J:=by simp;omega
   grind[wI,CV,Q9]
  .subst h;have⟨a,u,q⟩:=NN l (m-i) m i k S S S;refine⟨a,q.trans b,(aF.of ?_).mono S⟩;grind[CV,Q9]
  .have⟨a,u,q⟩:=NN l (m-i) m j k S S S;have⟨x,d,e⟩:=g (i-j) j a S S w S z (q.trans b);refine⟨x,d,((z8.of ?_).ends e).mono S⟩;have v:((i:Int)!=(j:Int))=Z:=by simp;omega
   grind[wI,CV,Q9]
theorem ziM(l:List zo)(a m b:Nat)(k:Int)(d:M l<=1000)(e:a<m)(i:m<b)(g:b<=M l):∃h,SW l a m b k=Y h/\h.Perm l:=by
 have⟨h,x,c⟩:=ziL l m k d ((m-a)+(b-m)) (m-a) (b-m) l (zK _) S S S S (.refl l);refine⟨h,?_,x⟩;have:ziK l a m b k=Y (.tup [],[.vec ze.sl h]):=by
  unfold ziK b6 Po;rw[show Γ Δ ((m:Int)-(a:Int))=((m-a:Nat):Int) by rw[wI _ S S];omega,show Γ Δ ((b:Int)-(m:Int))=((b-m:Nat):Int) by rw[wI _ S S];omega];exact c 100000000 S
 unfold SW;rw[this];rfl
set_option maxHeartbeats 4000000
theorem yF(i j:Nat)(h:i+j<=4000000):Γ Δ (IntKind.u64.wrap (Γ Δ ((i:Int)+(j:Int)))/2)=(((i+j)/2:Nat):Int):=by rw[wI ((i:Int)+(j:Int)) S S,wU _ S S,wI _ S S];omega
section
variable (o:SM) (k:Int)
theorem zqF(l:List zo)(a m b:Nat)(P:M l<=1000)(G:a<m)(H:b<=M l):∀(s i j:Nat),j-i<=s->m<=i->i<=j->j<=b->(i=m\/¬l.Pairwise (HM k))->
  ∃i',m<=i'/\i'<=b/\(i'=m\/¬l.Pairwise (HM k))/\z8 (eP o) (s+1) (.h3 (a:Int) k (i:Int) (j:Int) l) (.h9 (i':Int) (a:Int) l):=by
 intro s
 induction s with
 | zero=>
  intro i j D c E C d;refine⟨i,c,S,d,z8.of ?_⟩;simp only[eP,Q9,lK (show¬i<j by omega),zO,zr]
 | succ s v=>
  intro i j D c E C d;by_cases x:i<j
  case neg=>
   refine⟨i,c,S,d,(z8.of ?_).mono S⟩;simp only[eP,Q9,lK x,zO,zr]
  have e0:=yF i j S;have F:i<=(i+j)/2/\(i+j)/2<j:=by omega
  generalize(i+j)/2=h at e0 F;have w:zT ((h:Nat):Int) (M l)=Z:=zx S;have y:L (h<M l)=Z:=by simp;omega
  have z:zT ((a:Nat):Int) (M l)=Z:=zx S;have A:L (a<M l)=Z:=by simp;omega
  by_cases g:HM k (l.getD h (zk ze.sl)) (l.getD a (zk ze.sl))
  .have⟨i',q,n,t,u⟩:=v (h+1) j S S S C (.inr (yK (i:=a) (j:=h) S S _ g));refine⟨i',q,n,t,((z8.of ?_).trans u).mono S⟩;have e:L (LT.lt (α:=Int) (aV (ma k (l.getD h (zk ze.sl))) (ma k (l.getD a (zk ze.sl)))) 0)=Z:=zL g;simp only[eP,Q9,e0,bB];rw[lI,py];simp only[z6 x,w,y,z,A,e,zj,zz h um]
  .have⟨i',q,n,t,u⟩:=v i h S c S S d;refine⟨i',q,n,t,((z8.of ?_).trans u).mono S⟩;have e:L (LT.lt (α:=Int) (aV (ma k (l.getD h (zk ze.sl))) (ma k (l.getD a (zk ze.sl)))) 0)=J:=aQ g;simp only[eP,Q9,e0,bB];rw[lI,py];simp only[z6 x,w,y,z,A,e,zj,zO,zr]
theorem zqG(b:List zo)(i:Nat)(A:M b<=1000)(z:i<=M b):∀(s c:Nat)(l:List zo),i-c<=s->l.Perm b->
  ∃a,a.Perm b/\((i<=c+1)->a=l)/\aF (eP o) (s+1) (.h9 (i:Int) (c:Int) l) (.tup [],[.vec ze.sl a]):=by
 intro s
 induction s with
 | zero=>
  intro c l u x;refine⟨l,x,λ_=>rfl,aF.of ?_⟩;have e0:L ((c:Int)<Γ Δ ((i:Int)-1))=J:=by
   by_cases t:i=0
   .subst t;rw[wI _ S S];simp only[ef];omega
   .rw[wI _ S S];simp only[ef];omega
  simp only[eP,Q9,e0,zO,zr]
 | succ s e=>
  intro c l u x;have d:=x.length_eq;by_cases y:c+1<i
  case neg=>
   refine⟨l,x,λ_=>rfl,(aF.of ?_).mono S⟩;have e0:L ((c:Int)<Γ Δ ((i:Int)-1))=J:=by
    rw[wI _ S S];simp only[ef];omega
   simp only[eP,Q9,e0,zO,zr]
  have e0:L ((c:Int)<Γ Δ ((i:Int)-1))=Z:=by
   rw[wI _ S S];simp only[aT];omega
  have g:zT ((c+1:Nat):Int) (M l)=Z:=zx S;have m:zT ((c:Nat):Int) (M l)=Z:=zx S;have n:L (c+1<M l)=Z:=by simp;omega
  have q:L (c<M l)=Z:=by simp;omega
  have⟨a,v,_,w⟩:=e (c+1) ((l.set c (l.getD (c+1) (zk ze.sl))).set (c+1) (l.getD c (zk ze.sl))) S ((qG (i:=c+1) (j:=c) S S _).trans x);refine⟨a,v,λh=>by omega,((z8.of ?_).ends w).mono S⟩;simp only[eP,Q9,e0,zz c um,g,m,n,q,bB,wZ,zj]
theorem ziP(l:List zo)(a m:Nat)(G:M l<=1000)(F:m<M l):∀(s i j:Nat),j-i<=s->a<=i->i<=j->j<=m->(j=m\/¬l.Pairwise (HM k))->
  ∃i',a<=i'/\i'<=m/\(i'=m\/¬l.Pairwise (HM k))/\z8 (eP o) (s+1) (.h15 (m:Int) k (i:Int) (j:Int) l) (.h21 (i':Int) (m:Int) l):=by
 intro s
 induction s with
 | zero=>
  intro i j C b D A c;refine⟨i,b,S,c.imp (λh=>by omega) id,z8.of ?_⟩;simp only[eP,Q9,lK (show¬i<j by omega),zO,zr]
 | succ s u=>
  intro i j C b D A c;by_cases x:i<j
  case neg=>
   refine⟨i,b,S,c.imp (λh=>by omega) id,(z8.of ?_).mono S⟩;simp only[eP,Q9,lK x,zO,zr]
  have e0:=yF i j S;have E:i<=(i+j)/2/\(i+j)/2<j:=by omega
  generalize(i+j)/2=h at e0 E;have v:zT ((h:Nat):Int) (M l)=Z:=zx S;have w:L (h<M l)=Z:=by simp;omega
  have y:zT ((m:Nat):Int) (M l)=Z:=zx S;have z:L (m<M l)=Z:=by simp;omega
  by_cases d:HM k (l.getD m (zk ze.sl)) (l.getD h (zk ze.sl))
  .have⟨i',q,g,n,t⟩:=u i h S b S S (.inr (yK (i:=h) (j:=m) S S _ d));refine⟨i',q,g,n,((z8.of ?_).trans t).mono S⟩;have e:L (LT.lt (α:=Int) (aV (ma k (l.getD m (zk ze.sl))) (ma k (l.getD h (zk ze.sl)))) 0)=Z:=zL d;simp only[eP,Q9,e0,bB];rw[lI,py];simp only[z6 x,v,w,y,z,e,zj,gv,zO,zr]
  .have⟨i',q,g,n,t⟩:=u (h+1) j S S S A c;refine⟨i',q,g,n,((z8.of ?_).trans t).mono S⟩;have e:L (LT.lt (α:=Int) (aV (ma k (l.getD m (zk ze.sl))) (ma k (l.getD h (zk ze.sl)))) 0)=J:=aQ d;simp only[eP,Q9,e0,bB];rw[lI,py];simp only[z6 x,v,w,y,z,e,zj,oR,zz h um]
theorem ziQ(b:List zo)(i:Nat)(C:M b<=1000):∀(s c:Nat)(l:List zo),c-i<=s->c<M b->l.Perm b->
  ∃a,a.Perm b/\(c<=i->a=l)/\aF (eP o) (s+1) (.h21 (i:Int) (c:Int) l) (.tup [],[.vec ze.sl a]):=by
 intro s
 induction s with
 | zero=>
  intro c l w d x;refine⟨l,x,λ_=>rfl,aF.of ?_⟩;have e0:L ((c:Int)>(i:Int))=J:=by simp;omega
  simp only[eP,Q9,e0,zO,zr]
 | succ s g=>
  intro c l w d x;have e:=x.length_eq;by_cases y:i<c
  case neg=>
   refine⟨l,x,λ_=>rfl,(aF.of ?_).mono S⟩;have e0:L ((c:Int)>(i:Int))=J:=by simp;omega
   simp only[eP,Q9,e0,zO,zr]
  obtain⟨c,rfl⟩:∃m,c=m+1:=⟨c-1,S⟩;have e0:L (((c+1:Nat):Int)>(i:Int))=Z:=M0 y;have n:zT ((c+1:Nat):Int) (M l)=Z:=zx S;have q:zT ((c:Nat):Int) (M l)=Z:=zx S;have t:L (c+1<M l)=Z:=by simp;omega
  have u:L (c<M l)=Z:=by simp;omega
  have v:Γ Δ (((c+1:Nat):Int)-1)=(c:Int):=uG c um;have⟨a,z,_,A⟩:=g c ((l.set (c+1) (l.getD c (zk ze.sl))).set c (l.getD (c+1) (zk ze.sl))) S S ((qG (i:=c) (j:=c+1) S S _).trans x);refine⟨a,z,λh=>by omega,((z8.of ?_).ends A).mono S⟩;simp only[eP,Q9,e0,v,n,q,t,u,bB,wZ,zj]
end
section
variable (o:SM) (k:Int)
theorem XZ(l:List zo)(a m b e n p w x:Nat)(hn:M l<=1000)(h0:x<=1000)(hp:p<=2000)(hB:∀c,w<=c->c<x->c+c<p/\p<M l+c):∀(s i j:Nat),j-i<=s->w<=i->i<=j->j<=x->(j=x\/¬l.Pairwise (HM k))->
  ∃i',w<=i'/\i'<=x/\(i'=x\/¬l.Pairwise (HM k))/\z8 (eP o) s (.h33 (a:Int) (m:Int) (b:Int) k (e:Int) (n:Int) (i:Int) (j:Int) (p:Int) l) (.h33 (a:Int) (m:Int) (b:Int) k (e:Int) (n:Int) (i':Int) (i':Int) (p:Int) l):=by
 intro s
 induction s with
 | zero=>
  intro i j U g h3 q t;obtain rfl:i=j:=by omega
  exact⟨i,g,q,t,z8.refl _⟩
 | succ s D=>
  intro i j U g h3 q t;by_cases d:i<j
  case neg=>
   obtain rfl:i=j:=by omega
   exact⟨i,g,q,t,(z8.refl _).mono S⟩
  have e0:=yF i j S;have hh:i<=(i+j)/2/\(i+j)/2<j:=by omega
  generalize(i+j)/2=h at e0 hh;have⟨b1,b2⟩:=hB h S S;have P:Γ Δ ((p:Int)-(h:Int))=((p-h:Nat):Int):=by rw[wI _ S S];omega
  have E:zT ((h:Nat):Int) (M l)=Z:=zx S;have F:L (h<M l)=Z:=by simp;omega
  have G:zT ((p-h:Nat):Int) (M l)=Z:=zx S;have H:L (p-h<M l)=Z:=by simp;omega
  by_cases v:HM k (l.getD (p-h) (zk ze.sl)) (l.getD h (zk ze.sl))
  .have⟨i',y,z,A,C⟩:=D i h S g S S (.inr (yK (i:=h) (j:=p-h) S S _ v));refine⟨i',y,z,A,((z8.of ?_).trans C).mono S⟩;have u:L (LT.lt (α:=Int) (aV (ma k (l.getD (p-h) (zk ze.sl))) (ma k (l.getD h (zk ze.sl)))) 0)=Z:=zL v;simp only[eP,Q9,e0,P,bB];rw[lI,py];simp only[z6 d,E,F,G,H,u,zj,gv,zO,zr]
  .have⟨i',y,z,A,C⟩:=D (h+1) j S S S q t;refine⟨i',y,z,A,((z8.of ?_).trans C).mono S⟩;have u:L (LT.lt (α:=Int) (aV (ma k (l.getD (p-h) (zk ze.sl))) (ma k (l.getD h (zk ze.sl)))) 0)=J:=aQ v;simp only[eP,Q9,e0,P,bB];rw[lI,py];simp only[z6 d,E,F,G,H,u,zj,oR,zz h um]
theorem ZB{i j c d:Nat}:(cond (L ((i:Int)<(j:Int))) (L ((c:Int)<(d:Int))) J)=L (i<j/\c<d):=by
 by_cases h:i<j
 .have:L ((i:Int)<(j:Int))=Z:=by simpa using h
  rw[this];simp[h]
 .have:L ((i:Int)<(j:Int))=J:=by simpa using h
  rw[this];simp[h]
theorem XY{i:Nat}(F:∀(l:List zo)(a m b:Nat),M l<=1000->a<m->m<b->b<=M l->b-a<=i->∃y,o l a m b k=Y y/\Kp k l y)(l:List zo)(a m b x n s e:Nat)(p:Int)(D:M l<=1000)(hb:b<=M l)(he:n=s+e)(_:n<=2000)
  (_:a<=s) (h2:e<=b) (H:x-a<=i) (P:b-x<=i) (U:x<=b) (hr:s<m->m<e->¬l.Pairwise (HM k)):
  ∃y,Kp k l y/\(eP o (.h33 (a:Int) (m:Int) (b:Int) k (x:Int) (n:Int) (s:Int) (s:Int) p l)).val=Y (.inr (.tup [],[.vec ze.sl y])):=by
 have e0:Γ Δ ((n:Int)-(s:Int))=(e:Int):=by rw[wI _ S S];omega
 have G:L ((s:Int)<(s:Int))=J:=by simp
 obtain⟨j,z,w⟩:∃j,Kp k l j/\(ite (s<m/\m<e) (SW l s m e k=Y j) (j=l)):=by
  by_cases h:s<m/\m<e
  .have⟨j,A,C⟩:=ziM l s m e k D h.1 h.2 S;exact⟨j,Kp.perm C (hr h.1 h.2),by rw[zf h];exact A⟩
  .exact⟨l,Kp.refl,by rw[zh h]⟩
 obtain⟨q,E,u⟩:∃q,Kp k j q/\(ite (a<s/\s<x) (o j a s x k=Y q) (q=j)):=by
  by_cases h:a<s/\s<x
  .have⟨q,A,C⟩:=F j a s x (by rw[z.len];exact D) h.1 h.2 (by rw[z.len];omega) H;exact⟨q,C,by rw[zf h];exact A⟩
  .exact⟨j,Kp.refl,by rw[zh h]⟩
 obtain⟨v,p5,d⟩:∃v,Kp k q v/\(ite (x<e/\e<b) (o q x e b k=Y v) (v=q)):=by
  by_cases h:x<e/\e<b
  .have⟨v,A,C⟩:=F q x e b (by rw[E.len,z.len];exact D) h.1 h.2 (by rw[E.len,z.len];omega) P;exact⟨v,C,by rw[zf h];exact A⟩
  .exact⟨q,Kp.refl,by rw[zh h]⟩
 refine⟨v,(z.trans E).trans p5,?_⟩;simp only[eP,Q9,e0,G,ZB,zO,zr];by_cases t:s<m/\m<e
 .rw[zf t]at w;by_cases g:a<s/\s<x
  .rw[zf g]at u;by_cases c:x<e/\e<b
   .rw[zf c]at d;simp only[zL t,zL g,zL c,w,u,d,iH,cD,zj]
   .rw[zh c]at d;subst d;simp only[zL t,zL g,aQ c,w,u,iH,cD,zj,zO,zr]
  .rw[zh g]at u;subst u;by_cases c:x<e/\e<b
   .rw[zf c]at d;simp only[zL t,aQ g,zL c,w,d,iH,cD,zj,zO,zr]
   .rw[zh c]at d;subst d;simp only[zL t,aQ g,aQ c,w,iH,cD,zj,zO,zr]
 .rw[zh t]at w;subst w;by_cases g:a<s/\s<x
  .rw[zf g]at u;by_cases c:x<e/\e<b
   .rw[zf c]at d;simp only[aQ t,zL g,zL c,u,d,iH,cD,zj,zO,zr]
   .rw[zh c]at d;subst d;simp only[aQ t,zL g,aQ c,u,iH,cD,zj,zO,zr]
  .rw[zh g]at u;subst u;by_cases c:x<e/\e<b
   .rw[zf c]at d;simp only[aQ t,aQ g,zL c,d,iH,cD,zj,zO,zr]
   .rw[zh c]at d;subst d;simp only[aQ t,aQ g,aQ c,zO,zr]
end
theorem HX{o:SM}{a m x:Int}(h:b6 (eP o) 100000000 (xv o l a m x k)=Y (.tup [],[.vec ze.sl b])):smS o l a m x k=Y b:=by unfold smS;rw[h];rfl
theorem X0(k:Int):∀(h:Nat)(l:List zo)(a m b:Nat),M l<=1000->a<m->m<b->b<=M l->b-a<=2^h->∃e,CO h l a m b k=Y e/\Kp k l e
 |0,_,a,m,b,_,h1,h2,_,C=>by simp at C;omega
 | h+1,l,a,m,b,j,h1,h2,A,C=>by
  have hO:=X0 k h;have e0:Γ Δ ((m:Int)-(a:Int))=((m-a:Nat):Int):=by rw[wI _ S S];omega
  have y:Γ Δ ((b:Int)-(m:Int))=((b-m:Nat):Int):=by rw[wI _ S S];omega
  by_cases c1:m-a=1
  .have⟨i',D,E,q,s⟩:=zqF (CO h) k l a m b j h1 A (b-m) m b (zK _) (zK _) S (zK _) (.inl rfl);have⟨e,t,u,F⟩:=zqG (CO h) l i' j S (i'-a) a l (zK _) (.refl l);refine⟨e,HX ?_,?_⟩
   .have d:(((m-a:Nat):Int)==1)=Z:=by rw[c1];rfl
    unfold b6;simp only[xv,Q9,e0,d,zj];exact(s.ends F) 100000000 S
   .rcases q with rfl|q
    .rw[u S];exact Kp.refl
    .exact Kp.perm t q
  have d:(((m-a:Nat):Int)==1)=J:=by simp;omega
  by_cases c2:b-m=1
  .have⟨i',D,E,q,s⟩:=ziP (CO h) k l a m j S (m-a) a m (zK _) (zK _) S (zK _) (.inl rfl);have⟨e,t,u,F⟩:=ziQ (CO h) l i' j (m-i') m l (zK _) S (.refl l);refine⟨e,HX ?_,?_⟩
   .have g:(((b-m:Nat):Int)==1)=Z:=by rw[c2];rfl
    unfold b6;simp only[xv,Q9,e0,y,d,g,zj,zO,zr];exact(s.ends F) 100000000 S
   .rcases q with rfl|q
    .rw[u (zK _)];exact Kp.refl
    .exact Kp.perm t q
  have g:(((b-m:Nat):Int)==1)=J:=by simp;omega
  have z:=yF a b S;have i:a<=(a+b)/2/\(a+b)/2<=b/\2*((a+b)/2)<=a+b/\a+b<=2*((a+b)/2)+1:=by omega
  generalize(a+b)/2=x at z i;have⟨g1,g2,g3,g4⟩:=i;have w:x-a<=2^h/\b-x<=2^h:=by rw[sD]at C;omega
  have P:Γ Δ ((x:Int)+(m:Int))=((x+m:Nat):Int):=by rw[wI _ S S];omega
  have U:Γ Δ (((x+m:Nat):Int)-1)=((x+m-1:Nat):Int):=by rw[wI _ S S];omega
  by_cases c3:x<m
  ·
   have e5:Γ Δ (((x+m:Nat):Int)-(b:Int))=((x+m-b:Nat):Int):=by rw[wI _ S S];omega
   have n:L ((m:Int)>(x:Int))=Z:=M0 c3;have⟨v,D,E,q,s⟩:=XZ (CO h) k l a m b x (x+m) (x+m-1) (x+m-b) x j S S (λc G H=>by omega) (x-(x+m-b)) (x+m-b) x (zK _) (zK _) S (zK _) (.inl rfl);have⟨e,t,u⟩:=XY (CO h) k hO l a m b x (x+m) v (x+m-v) ((x+m-1:Nat):Int) j A S S S S w.1 w.2 g2 (λG H=>by
    rcases q with rfl|q
    .omega
    .exact q)
   refine⟨e,HX ?_,t⟩;unfold b6;simp only[xv,Q9,e0,y,z,P,U,e5,d,g,n,zj,zO,zr];exact(s.ends (aF.of u)) 100000000 S
  .have n:L ((m:Int)>(x:Int))=J:=by simp;omega
   have⟨v,D,E,q,s⟩:=XZ (CO h) k l a m b x (x+m) (x+m-1) a m j S S (λc G H=>by omega) (m-a) a m (zK _) (zK _) S (zK _) (.inl rfl);have⟨e,t,u⟩:=XY (CO h) k hO l a m b x (x+m) v (x+m-v) ((x+m-1:Nat):Int) j A S S S S w.1 w.2 g2 (λG H=>by
    rcases q with rfl|q
    .omega
    .exact q)
   refine⟨e,HX ?_,t⟩;unfold b6;simp only[xv,Q9,e0,y,z,P,U,d,g,n,zj,zO,zr];exact(s.ends (aF.of u)) 100000000 S
theorem zuf(k:Int)(h:List zo)(b:Nat)(D:M h<=1000)(C:1<=b)(w:b<=1000):∀(s a:Nat)(l:List zo),M h-a<=s->a<=M h->Kp k h l->
  ∃d,Kp k h d/\z8 jQ (s+1) (.h9 (M h:Int) k (b:Int) (a:Int) ((a+2*b:Nat):Int) l) (.h7 (M h:Int) k ((2*b:Nat):Int) d):=by
 intro s
 induction s with
 | zero=>
  intro a l y v x;refine⟨l,x,z8.of ?_⟩;have e0:Γ Δ ((a:Int)+(b:Int))=((a+b:Nat):Int):=by rw[wI _ S S];omega
  have c:Γ Δ ((b:Int)*2)=((2*b:Nat):Int):=by rw[wI _ S S];omega
  have e:L (((a+2*b:Nat):Int)<=(M h:Int))=J:=by simp;omega
  simp only[jQ,Q9,e0,c,e,lK (show¬a+b<M h by omega),zO,zr]
 | succ s n=>
  intro a l y v x;have m:=x.len;have e0:Γ Δ ((a:Int)+(b:Int))=((a+b:Nat):Int):=by rw[wI _ S S];omega
  have c:Γ Δ ((b:Int)*2)=((2*b:Nat):Int):=by rw[wI _ S S];omega
  have u:Γ Δ (((a+2*b:Nat):Int)+Γ Δ (2*(b:Int)))=((a+2*b+2*b:Nat):Int):=by rw[wI (2*(b:Int)) S S,wI _ S S];omega
  by_cases t:a+2*b<=M h
  .have⟨i,q,j⟩:=X0 k 16 l a (a+b) (a+2*b) S S S S sg;have⟨d,z,A⟩:=n (a+2*b) i S t (x.trans j);refine⟨d,z,((z8.of ?_).trans A).mono S⟩;have e:L (((a+2*b:Nat):Int)<=(M h:Int))=Z:=by simp;omega
   simp only[jQ,Q9,e0,e,u,q,iH,cD,zj]
  .have e:L (((a+2*b:Nat):Int)<=(M h:Int))=J:=by simp;omega
   by_cases g:a+b<M h
   .have⟨i,q,j⟩:=X0 k 16 l a (a+b) (M h) S S g S sg;refine⟨i,x.trans j,(z8.of ?_).mono S⟩;simp only[jQ,Q9,e0,c,e,z6 g,q,iH,cD,zj,zO,zr]
   .refine⟨l,x,(z8.of ?_).mono S⟩;simp only[jQ,Q9,e0,c,e,lK g,zO,zr]
theorem zue(k:Int)(h:List zo)(i:M h<=1000):∀(s b:Nat)(l:List zo),M h-b<=s->1<=b->Kp k h l->
  ∃a,Kp k h a/\aF jQ (s*1002+1) (.h7 (M h:Int) k (b:Int) l) (.tup [],[.vec ze.sl a]):=by
 intro s
 induction s with
 | zero=>
  intro b l j d x;refine⟨l,x,(aF.of ?_).mono S⟩;simp only[jQ,Q9,lK (show¬b<M h by omega),zO,zr]
 | succ s e=>
  intro b l j d x;by_cases c:b<M h
  case neg=>
   refine⟨l,x,(aF.of ?_).mono S⟩;simp only[jQ,Q9,lK c,zO,zr]
  have⟨m,q,n⟩:=zuf k h b i d S (M h) 0 l S S x;have⟨a,t,u⟩:=e (2*b) m S S q;refine⟨a,t,(((z8.of ?_).trans n).ends u).mono S⟩;have g:Γ Δ (2*(b:Int))=((0+2*b:Nat):Int):=by rw[wI _ S S];omega
  simp only[jQ,Q9,z6 c,g,zj];rfl
theorem zud(k:Int)(h:List zo)(w:M h<=1000):∀(s a:Nat)(l:List zo),M h-a<=s->a<=M h->Kp k h l->
  ∃i,Kp k h i/\z8 jQ (s+1) (.h2 (M h:Int) k 20 (a:Int) ((a+20:Nat):Int) l) (.h7 (M h:Int) k 20 i):=by
 intro s
 induction s with
 | zero=>
  intro a l t n x;have b:=x.len;have⟨d,q,g⟩:=BG l a (M h) k S S S;refine⟨d,x.trans g,z8.of ?_⟩;have e:L (((a+20:Nat):Int)<=(M h:Int))=J:=by simp;omega
  simp only[jQ,Q9,e,q,iH,cD,zj,zO,zr]
 | succ s j=>
  intro a l t n x;have b:=x.len;by_cases c:a+20<=M h
  .have⟨d,q,g⟩:=BG l a (a+20) k S S S;have⟨i,u,v⟩:=j (a+20) d S c (x.trans g);refine⟨i,u,((z8.of ?_).trans v).mono S⟩;have e:L (((a+20:Nat):Int)<=(M h:Int))=Z:=by simp;omega
   have m:Γ Δ (((a+20:Nat):Int)+20)=((a+20+20:Nat):Int):=by rw[wI _ S S];omega
   simp only[jQ,Q9,e,m,q,iH,cD,zj]
  .have⟨d,q,g⟩:=BG l a (M h) k S S S;refine⟨d,x.trans g,(z8.of ?_).mono S⟩;have e:L (((a+20:Nat):Int)<=(M h:Int))=J:=by simp;omega
   simp only[jQ,Q9,e,q,iH,cD,zj,zO,zr]
theorem zbg(k:Int)(l:List zo)(x:M l<=1000):∃h,Lj l (M l:Int) k=Y h/\Kp k l h:=by
 have⟨b,q,c⟩:=zud k l x (M l) 0 l S S Kp.refl;have⟨h,d,e⟩:=zue k l x (M l) 20 b S S q;refine⟨h,?_,d⟩;have:zd4 l (M l:Int) k=Y (.tup [],[.vec ze.sl h]):=by
  have a:=gu 1002 x;exact(c.ends e) 100000000 (by
   refine aB (Nat.add_le_add (Nat.succ_le_succ a) (Nat.succ_le_succ x)) (by decide))
 unfold Lj;rw[this];rfl
theorem Li(k:Int)(l:List zo)(x:M l<=1000):∃h,wy l k=Y h/\Kp k l h:=by
 have⟨h,q,a⟩:=zbg k l x;refine⟨h,?_,a⟩;have:NI l k=Y (.tup [],[.vec ze.sl h]):=by
  unfold NI b6;simp only[Pk,Q9,q,iH,cD,zj]
 unfold wy;rw[this];rfl
theorem KY{x:zX}(n:Je x=Z)(y:M x.2<=1000):∃g,Cw x=Y ((x.1,g),())/\g.Perm x.2/\(gO x.1=Z->Kp x.1.q.1 x.2 g):=by
 have i:∀g:List zo,bc [AO.vec zu x.1.2.1,AO.vec zi x.1.r.1,AO.vec zW x.1.t.1,AO.vec ze.sl g] [zl] (agg [X x.1.1,AV.vec 0,I x.1.q.1,AV.vec 1,AV.vec 2,X (zg.op x.1.u),I (zg.v x.1.u).1,I (zg.v x.1.u).2.1,X (zg.v x.1.u).q,X (zg.s x.1.u),O Sh.expr (zg.l x.1.u),AV.vec 3])=Y (((x.1,g):zX),()):=by
  intro g;have⟨⟨a,b,c,d,e,f⟩,r⟩:=x;cases f;rfl
 cases w:gO x.1 with
 | true=>
  have⟨g,m,j⟩:=Li x.1.q.1 x.2 y;refine⟨g,zG (r:=(_,_)) ?_ (i g),j.1,λ_=>j⟩;simp only[zht,Q9,zt,aJ,n,w,m,iH,cD,gv,zO,zj,zr]
 | false=>
  have⟨g,m,j⟩:=Li (-1) x.2 y;refine⟨g,zG (r:=(_,_)) ?_ (i g),j.1,λh=>(by cases h)⟩;simp only[zht,Q9,zt,aJ,n,w,m,iH,cD,oR,zj]
set_option maxRecDepth 100000
section
variable {db:List (N zl)} {p:N ao} {us:List (N Q)}
theorem zaG(h:bj db p)(m:su db p)(us:zo):Je (p.r.1,(dt us).flatMap (jk db p))=Z:=by have b:=(qf h (dt us) (nL us)).1;unfold Je;simp only[ar,aT,dg];refine⟨⟨⟨⟨⟨aB m.wf.ncols S,aB m.wf.nuq S⟩,aB m.wf.nrf S⟩,h.go.few.cp⟩,S⟩,λr a=>?_⟩;have⟨u,_,x⟩:=D2.1 a;have:=(dB (J1 h m r x).1).1;have:=m.wf.ncols;omega
theorem S3(h:bj db p)(m:su db p)(x:M us<=1000):∃l,l.Perm ((dt us).flatMap (jk db p))/\kI p (ak db p) us=Y ((p.r.1,l),((jh db p (dt us):Nat):Int),0,()):=by have a:=(qf h (dt us) (nL us)).1;have⟨l,q,b,_⟩:=KY (zaG h m us) (aB a S);exact⟨l,b,X2 h m x q⟩
end
theorem Uu(h:M a+M b<=1000000):Gg [a,b]=Y (a++b,()):=by
 have w:Γ Δ (0+(M a:Int))=(M a:Int):=by rw[Int.zero_add,oC _ S]
 have j:Γ Δ ((M a:Int)+(M b:Int))=((M a+M b:Nat):Int):=by rw[<-sA,oC _ S]
 have x:(zdE [a,b]).val=Y (.inl (.h3 [a,b] 0 [a,b] 2 0)):=rfl;have s:(CU (.h3 [a,b] 0 [a,b] 2 0)).val=Y (.inl (.h3 [a,b] (M a:Int) [a,b] 2 1)):=by
  show(ite (L ((0:Int)<2)=Z) (ite (zT 0 2=Z) (ite (L (Γ Δ (0+(M a:Int))<0)=Z) none (Y (Sum.inl (qX.h3 [a,b] (Γ Δ (0+(M a:Int))) [a,b] 2 (Γ Δ (0+1)))))) none) _)=_;rw[w,zf (by decide),zf (by decide),zh sw];rfl
 have c:(CU (.h3 [a,b] (M a:Int) [a,b] 2 1)).val=Y (.inl (.h3 [a,b] ((M a+M b:Nat):Int) [a,b] 2 2)):=by
  show(ite (L ((1:Int)<2)=Z) (ite (zT 1 2=Z) (ite (L (Γ Δ ((M a:Int)+(M b:Int))<0)=Z) none (Y (Sum.inl (qX.h3 [a,b] (Γ Δ ((M a:Int)+(M b:Int))) [a,b] 2 (Γ Δ (1+1)))))) none) _)=_;rw[j,zf (by decide),zf (by decide),zh sg];rfl
 have d:(CU (.h3 [a,b] ((M a+M b:Nat):Int) [a,b] 2 2)).val=Y (.inl (.h11 [a,b] 2 0 [])):=by
  show(ite (L ((2:Int)<2)=Z) _ (ite (L (0<=((M a+M b:Nat):Int))=Z) (ite (L (((M a+M b:Nat):Int)<=1000000)=Z) _ none) none))=_;rw[zh (by decide),zf (zL S),zf (zL S)];rfl
 have e:(CU (.h11 [a,b] 2 0 [])).val=Y (.inl (.h11 [a,b] 2 1 a)):=by
  show(ite (L ((0:Int)<2)=Z) (ite (zT 0 2=Z) (ite (L (0+M a<=1073741824)=Z) _ none) none) _)=_;rw[zf (by decide),zf (by decide),zf (zL S)];rfl
 have g:(CU (.h11 [a,b] 2 1 a)).val=Y (.inl (.h11 [a,b] 2 2 (a++b))):=by
  show(ite (L ((1:Int)<2)=Z) (ite (zT 1 2=Z) (ite (L (M a+M b<=1073741824)=Z) _ none) none) _)=_;rw[zf (by decide),zf (by decide),zf (zL S)];rfl
 have i:(CU (.h11 [a,b] 2 2 (a++b))).val=Y (.inr (.vec 0,[.vec ze.sl (a++b)])):=rfl;exact zF x (((((z8.of s).trans (z8.of c)).trans (z8.of d)).trans (z8.of e)).trans (z8.of g) |>.ends (aF.of i)) S rfl
structure oM (db:zH) (n:Nat) (x:zH):Prop where
 tab:x.map (λr:zX=>r.1)=db.map λr:zX=>r.1
 rows:∀r∈x,M r.2<=n/\∀w∈r.2,M w<=1000
theorem oM.find{db x:zH}(h:oM db i x)(s:zD):ab x s=ab db s:=by rw[Ay,Ay,h.tab]
theorem oM.relAt{db x:zH}{i:Nat}(h:oM db i x)(s:zD):(relAt x s).1=(relAt db s).1:=by
 have e:∀l:zH,∀a,(W l a (zk zl)).1=(l.map λr:zX=>r.1).getD a (zk zl).1:=λl a=>by
  rw[bf,bf,b8];cases l[a]?<;>rfl
 show(W x (T (ab x s)) (zk zl)).1=(W db (T (ab db s)) (zk zl)).1;rw[e,e,h.tab,h.find]
theorem Yw{db:zH}{y:zn eL}{m:cU}{us:zo}(v:TR m.1 m.2.1)(h0:M us<=1000)(D:oM db i y.1)(hn:i<=800)(hD:dO db)(hw:∀x∈db,wV x)
  (hf:LE.le (α:=Int) 0 (ab db m.1.r.1.1)):∃(k:Int)(x:zH),N7 y m us=Y ((k,()),(x,y.2))/\oM db (i+200) x:=by
 have⟨l,q1,q2⟩:=S3 (us:=us) v.ok v.mok h0;rw[v.sself]at q2;have hg:=(qf v.ok (dt us) (nL us)).1;have h2:M l<=200:=by rw[q1.length_eq];exact hg
 have A:∀r∈l,M r<=1000:=λr z=>by
  have⟨u,_,hg⟩:=D2.1 (q1.mem_iff.1 z);have:=(dB (J1 v.ok v.mok r hg).1).1;have:=v.mok.wf.ncols;omega
 have bC:L3 m.1 m.2.1 us=Z:=by unfold L3;rw[q2];rfl
 have bv:Ub m.1 m.2.1 us=((m.1.r.1,l),((jh (bI m.2.1) m.1 (dt us):Nat):Int),0):=by unfold Ub;rw[q2];rfl
 have j:LE.le (α:=Int) 0 (ab y.1 m.1.r.1.1):=by rw[D.find];exact hf
 have⟨r1,r2⟩:=eY j;have⟨d1,d2⟩:=eY hf;have e:zT (ab y.1 m.1.r.1.1) (M y.1)=Z:=my j;have ht:=D.relAt m.1.r.1.1;have g:=(hw _ d1).t;have F:=(C2 (hD.rels _ d1).may g.chk).2;have⟨w1,H⟩:=D.rows _ r1;generalize hx:relAt y.1 m.1.r.1.1=x at r1 r2 ht w1 H;have C:W y.1 (T (ab y.1 m.1.r.1.1)) (zk zl)=x:=hx;rw[<-ht]at g F;have⟨t,d⟩:=x;have w1:M d<=i:=w1;have H:∀r∈d,M r<=1000:=H;have E:=Uu (a:=d) (b:=l) S;have cC:Mb [d,l]=Z:=by unfold Mb;rw[E];rfl
 have cv:Ut [d,l]=d++l:=by unfold Ut;rw[E];rfl
 have q:∀r∈d++l,M r<=1000:=λr z=>(bX.1 z).elim (H r) (A r)
 have⟨s,p1,p2,_⟩:=KY (x:=(t,d++l)) (by
  unfold Je;simp only[ar,aT,dg];exact⟨⟨⟨⟨⟨aB g.ncols S,aB g.nuq S⟩,aB g.nrf S⟩,F⟩,by rw[cL];omega⟩,λr z=>aB (q r z) S⟩) (by rw[cL];omega)
 have rC:wo (t,d++l)=Z:=by unfold wo;rw[p1];rfl
 have rv:Fx (t,d++l)=(t,s):=by unfold Fx;rw[p1];rfl
 have U:ab y.1 t.1=ab y.1 m.1.r.1.1:=by rw[show t.1=m.1.r.1.1 from r2]
 have h1:M y.1<=12:=by
  have:=congrArg M D.tab;rw[bR,bR]at this;have:=hD.few;omega
 have n:T (ab y.1 m.1.r.1.1)<M y.1:=by
  unfold zT at e;simp only[ar,aT]at e;have i1:LE.le (α:=Int) 0 (ab y.1 m.1.r.1.1):=e.1;have i2:LT.lt (α:=Int) (ab y.1 m.1.r.1.1) (M y.1:Int):=e.2;omega
 have G:Gi y.1 (t,s)=Y (y.1.set (T (ab y.1 m.1.r.1.1)) (t,s),()):=by
  refine zG (r:=(.vec 0,[.vec zl (y.1.set (T (ab y.1 m.1.r.1.1)) (t,s))])) ?_ rfl;have P:L (ab y.1 m.1.r.1.1>=0)=Z:=zL j;simp only[zdv,Q9,zt,aJ,U,P,e,zL n,zj];rw[zf (zL S)]
 have dC:Mf y.1 (t,s)=Z:=by unfold Mf;rw[G];rfl
 have dv:UA y.1 (t,s)=y.1.set (T (ab y.1 m.1.r.1.1)) (t,s):=by unfold UA;rw[G];rfl
 refine⟨_,_,tV (r:=(I ((jh (bI m.2.1) m.1 (dt us):Nat):Int),aE eL (y.1.set (T (ab y.1 m.1.r.1.1)) (t,s),y.2))) ?_ (b7 _ rfl),?_,?_⟩
 .have P:L (ab y.1 m.1.r.1.1<0)=J:=aQ (Int.not_lt.2 j);simp only[Pj,Q9,zt,aJ,bC,bv,C,P,cC,cv,rC,rv,dC,dv,e,kF,bT,zO,zj,zr]
 .rw[List.map_set];rw[<-D.tab];refine kE λc=>?_
  by_cases hi:c=T (ab y.1 m.1.r.1.1)
  .subst hi;rw[Oq (by rw[bR];exact n),b8];rw[bf,zQ n,cD]at C;rw[zQ n,C];rfl
  .rw[wW (Ne.symm hi)]
 .intro r z;rcases IS z with h|rfl
  .have⟨k1,k2⟩:=D.rows r h;exact⟨S,k2⟩
  .refine⟨?_,λw hw=>q w (p2.mem_iff.1 hw)⟩;show M s<=_;rw[p2.length_eq,cL];omega
theorem LB{l:bu}(a:dO l.1)(u:∀x∈l.1,wV x)(H:∀m∈l.q,oL m/\nZ l.1 m)(h4:M l.q<=4):∃x:zH,mY l=Y ((x,l.2.1),())/\oM l.1 1000 x:=by
 have F:oM l.1 200 l.1:=⟨rfl,λr e=>⟨(a.rels r e).few,λw g=>by
  have:=(dB ((a.rels r e).fits w g)).1;have:=(u r e).t.ncols;omega⟩⟩
 obtain⟨r,j,x,r2,s⟩:∃r,cg NT 100000000 (.h3 l.q (M l.q:Int) ((0:Nat):Int) () (l.1,l.2.1,l.q,()))=Y r/\∃x:zH,bc r.2 [eG] r.1=Y ((x,l.2.1),())/\oM l.1 (200+200*M l.q) x:=by
  refine di (t:=NT) (β:=zH) (M l.q) (λx i=>.h3 l.q (M l.q:Int) (i:Int) () (x,l.2.1,l.q,())) (λx i=>oM l.1 (200+200*i) x)
   (λr=>∃x:zH,bc r.2 [eG] r.1=Y ((x,l.2.1),())/\oM l.1 (200+200*M l.q) x) 1 ?_ ?_ (M l.q) 0 l.1 100000000 rfl (zU _) (by simpa using F) S
  .intro x i h c;refine .inl ?_;have⟨G,b⟩:=H _ (bN h);have P:=Hd G.trk;have d:(tW l.q[i].q.1).length<=1000:=by
    unfold tW;split
    .unfold KL;rw[bR];refine aB (List.length_filter_le _ _) ?_;rw[List.length_zip,bR,List.length_range];have:=b.n200;omega
    .simp
   have⟨k,C,A,U⟩:=Yw (y:=(x,l.2.1,l.q,())) (us:=tW l.q[i].q.1) b.plan d c S a u b.find;have D:Iq (x,l.2.1,l.q,()) l.q[i] (tW l.q[i].q.1)=Z:=by unfold Iq;rw[A];rfl
   have E:LA (x,l.2.1,l.q,()) l.q[i] (tW l.q[i].q.1)=(k,(C,l.2.1,l.q,())):=by unfold LA;rw[A];rfl
   refine⟨C,by rw[show 200+200*(i+1)=200+200*i+200 by omega];exact U,?_⟩;simp only[NT,Q9,z6 h,zx h,bt _ _ h,zt,aJ,P,D,E,zj];rw[zz i um]
  .intro x n c hn;obtain⟨n,rfl⟩:∃k,n=k+1:=⟨n-1,S⟩;refine⟨(.agg [O zl x,O (Sh.str.pr (Sh.str.pr Sh.bool)) l.2.1],[]),?_,x,rfl,c⟩;rw[cq];have z:Ak (x,l.2.1,l.q,())=Y (((x,l.2.1),()),(x,l.2.1,l.q,())):=tV (r:=(.agg [O zl x,O (Sh.str.pr (Sh.str.pr Sh.bool)) l.2.1],aE eL (x,l.2.1,l.q,()))) rfl (b7 _ rfl);have zC:nX (x,l.2.1,l.q,())=Z:=by unfold nX;rw[z];rfl
   have zv:(pU (x,l.2.1,l.q,())).1=(x,l.2.1):=by unfold pU;rw[z];rfl
   simp only[NT,Q9,aw,zC,zv,zO,zj,zr]
 refine⟨x,?_,s.tab,λy v=>⟨by have:=(s.rows y v).1;omega,(s.rows y v).2⟩⟩;unfold mY aA b6;have j:cg NT 100000000 (.h3 l.q (M l.q:Int) 0 () (l.1,l.2.1,l.q,()))=Y r:=j;show(cg NT 100000000 _).bind _=_;rw[j];exact r2
end Cad
