/- Rows. -/
import Derived.Test.YtjdjldbhjmgmkaaGreatDoorM23
namespace Cad
open Go Go.Proofs
open List renaming length->X
open IntKind renaming wrap->Γ,i64->Δ
open Tr renaming val->Q8
open Sh renaming bool->Q7
open Bool renaming true->O,false->S
open Option renaming some->M
open Decidable renaming decide->N
open List renaming getD->Y
open Tr (chk br re)
open AV (nils agg tup ptr kb)
open AV renaming str->I,sl->T
open Cad renaming zi->Q,ow->W,ai->L,Sem->J
set_option maxHeartbeats 2000000
noncomputable section
theorem wI(x:Int)(c:-4000000000<=x)(d:x<=4000000000):Γ Δ x=x:=by rw[eK];omega
theorem wU(x:Int)(c:0<=x)(d:x<=4000000000):IntKind.u64.wrap x=x:=by simp only[IntKind.wrap,IntKind.bits,IntKind.signed];simp;omega
def e7(k:Int)(r:zr):zp:=bif (cond (N (k<0)) O (N (k>=(X r:Int))))then(0,0,[])else Y r k.toNat (Q ze)
def lV(k:Int)(a b:zr):Prop:=ph (e7 k a) (e7 k b)
variable {k:Int}
theorem WU{a b:zr}(h:lV k a b):¬lV k b a:=λg=>eB (dZ h g)
theorem zfZ{r:zr}(h:zL k (X r)=O):e7 k r=zN k r:=by grind[zL,e7]
def Kp(k:Int)(x l:List zr):Prop:=l.Perm x/\(x.Pairwise (lV k)->l=x)
variable {l:List zr}
theorem Kp.refl:Kp k l l:=⟨.refl l,λ_=>rfl⟩
variable {x:List zr}
theorem Kp.len(h:Kp k x l):X l=X x:=h.1.length_eq
theorem Kp.trans{d c:List zr}(h:Kp k d l)(g:Kp k l c):Kp k d c:=⟨g.1.trans h.1,λx=>by
 have e:=h.2 x;subst e;exact g.2 x⟩
theorem Kp.perm(d:x.Perm l)(c:¬l.Pairwise (lV k)):Kp k l x:=⟨d,λe=>zz e c⟩
variable {i j:Nat}
theorem jf{α:Type}{l:List α}(x:i<X l)(c:j<X l)(d:α):((l.set j (l.getD i d)).set i (l.getD j d)).Perm l:=by grind[List.set_set_perm]
theorem za6(h:l.Pairwise (lV k))(x:i<j)(c:j<X l)(d:zr):lV k (l.getD i d) (l.getD j d):=by grind[List.pairwise_iff_getElem]
theorem CK(x:i<j)(e:j<X l)(d:zr)(c:lV k (l.getD j d) (l.getD i d)):¬l.Pairwise (lV k):=λn=>WU c (za6 n x e d)
theorem As(h:j<i):N ((i:Int)>(j:Int))=O:=by simpa using h
theorem Tq(n:Nat):N ((n:Int)>(n:Int))=S:=by simp
theorem eM(h:¬i<j):N ((i:Int)<(j:Int))=S:=by simpa using h
theorem ip(k:Int)(x y:zr):
  (bif (cond (N (k<0)) O (N (k>=(X x:Int))))then bif (cond (N (k<0)) O (N (k>=(X y:Int))))then aG (0,0,[]) (0,0,[])else aG (0,0,[]) (Y y k.toNat (Q ze))
   else bif (cond (N (k<0)) O (N (k>=(X y:Int))))then aG (Y x k.toNat (Q ze)) (0,0,[])else aG (Y x k.toNat (Q ze)) (Y y k.toNat (Q ze)))=aG (e7 k x) (e7 k y):=by grind[e7]
theorem znf(k:Int)(x:zr):(cond (cond (N (k<0)) O (N (k>=(X x:Int)))) O (zL k (X x)))=O:=by grind[zL]
theorem fa(k:Int)(x y:zr):(bif (cond (N (k<0)) O (N (k>=(X x:Int))))then(cond (cond (N (k<0)) O (N (k>=(X y:Int)))) O (zL k (X y)))
  else zL k (X x)&&(cond (cond (N (k<0)) O (N (k>=(X y:Int)))) O (zL k (X y))))=O:=by grind[znf]
theorem ZL(q:List zr)(a b i:Nat)(k:Int)(hn:X q<=1000)(U:i<1000):∀(m j:Nat)(l:List zr),j=a+m->j<X l->Kp k q l->
  ∃d,Kp k q d/\zH kO (m+1) (.h4 (a:Int) (b:Int) k (i:Int) (j:Int) l) (.h1 (a:Int) (b:Int) k ((i+1:Nat):Int) d):=by
 intro m
 induction m with
 | zero=>
  intro j l H c x;refine⟨l,x,zH.of ?_⟩;obtain rfl:j=a:=by omega
  simp only[kO,Q8,Tq,aL,zC,zm,zj,zu i um]
 | succ m z=>
  intro j l H c x;obtain⟨j,rfl⟩:∃P,j=P+1:=⟨j-1,W⟩;have y:=x.len;have A:N (((j+1:Nat):Int)>(a:Int))=O:=As W;have B:zL ((j+1:Nat):Int) (X l)=O:=zx c;have C:N (j+1<X l)=O:=by simpa using c
  have s:Γ Δ (((j+1:Nat):Int)-1)=(j:Int):=gN j um;have t:zL (j:Int) (X l)=O:=zx W;have v:N (j<X l)=O:=by simp;omega
  have D:zL (j:Int) (l.set (j+1) (l.getD j (Q ze.sl))).length=O:=by rw[mZ];exact t
  have E:N (j<(l.set (j+1) (l.getD j (Q ze.sl))).length)=O:=by rw[mZ];exact v
  by_cases e:lV k (l.getD (j+1) (Q ze.sl)) (l.getD j (Q ze.sl))
  .have n:Kp k l ((l.set (j+1) (l.getD j (Q ze.sl))).set j (l.getD (j+1) (Q ze.sl))):=Kp.perm (jf W c _) (CK (i:=j) (j:=j+1) W c _ e);have⟨d,F,G⟩:=z j _ W sg (x.trans n);refine⟨d,F,((zH.of ?_).trans G).mono W⟩;have w:N (LT.lt (α:=Int) (aG (e7 k (l.getD (j+1) (Q ze.sl))) (e7 k (l.getD j (Q ze.sl)))) 0)=O:=zB e;simp only[kO,Q8,s,aJ];rw[fa,ip];simp_all
  .refine⟨l,x,(zH.of ?_).mono W⟩;have w:N (LT.lt (α:=Int) (aG (e7 k (l.getD (j+1) (Q ze.sl))) (e7 k (l.getD j (Q ze.sl)))) 0)=S:=aC e;simp only[kO,Q8,s,aJ];rw[fa,ip];simp only[A,B,C,t,v,w,D,E,aN,ov,zj,zC,zm,zu i um]
theorem ZK(x:List zr)(a b:Nat)(k:Int)(v:X x<=1000)(y:b<=X x):∀(m i:Nat)(l:List zr),b-i=m->a<=i->Kp k x l->
  ∃c,Kp k x c/\zU kO (m*1002+1) (.h1 (a:Int) (b:Int) k (i:Int) l) (.tup [],[.vec ze.sl c]):=by
 intro m
 induction m with
 | zero=>
  grind[zU.of,kO,Q8]
 | succ m j=>
  intro i l A z d;have e:=d.len;have⟨w,n,q⟩:=ZL x a b i k v W (i-a) i l W W d;have⟨c,s,t⟩:=j (i+1) w W W n;refine⟨c,s,((zH.of ?_).trans q |>.ends t).mono W⟩;grind[kO,Q8]
theorem EZ(l:List zr)(a b:Nat)(k:Int)(n:X l<=1000)(q:a<=X l)(j:b<=X l):∃x,rI l a b k=M x/\Kp k l x:=by
 have⟨x,c,d⟩:=ZK l a b k n j (b-(a+1)) (a+1) l rfl W Kp.refl;refine⟨x,?_,c⟩;have:EY l a b k=M (.tup [],[.vec ze.sl x]):=by
  unfold EY bT N4;rw[zu a um];have e:b-(a+1)<=1000:=by omega
  exact d 100000000 (be (Nat.succ_le_succ (f5 1002 e)) (by decide))
 unfold rI;rw[this];rfl
theorem zoK(x:List zr)(a b n:Nat)(F:X x<=1000)(B:a+n<=X x)(C:b+n<=X x):∀(m i:Nat)(l:List zr),n-i=m->i<=n->l.Perm x->
  ∃c,c.Perm x/\zU ym (m+1) (.h1 (a:Int) (b:Int) (n:Int) (i:Int) l) (.tup [],[.vec ze.sl c]):=by
 intro m
 induction m with
 | zero=>
  grind[zU.of,ym,Q8]
 | succ m q=>
  intro i l E D e;have d:=e.length_eq;have e0:Γ Δ ((b:Int)+(i:Int))=((b+i:Nat):Int):=by rw[wI _ W W];omega
  have s:Γ Δ ((a:Int)+(i:Int))=((a+i:Nat):Int):=by rw[wI _ W W];omega
  have t:zL ((a+i:Nat):Int) (X l)=O:=zx W;have v:zL ((b+i:Nat):Int) (X l)=O:=zx W;have w:N (a+i<X l)=O:=by simp;omega
  have y:N (b+i<X l)=O:=by simp;omega
  have⟨c,z,A⟩:=q (i+1) ((l.set (a+i) (l.getD (b+i) (Q ze.sl))).set (b+i) (l.getD (a+i) (Q ze.sl))) W W ((jf (i:=b+i) (j:=a+i) W W _).trans e);refine⟨c,z,((zH.of ?_).ends A).mono W⟩;simp only[ym,Q8,zO (show i<n by omega),e0,s,t,v,w,y,aJ,mZ,zj,zu i um]
theorem Si(l:List zr)(a b n:Nat)(k:Int)(q:X l<=1000)(e:a+n<=X l)(j:b+n<=X l):∃x,Md l a b n k=M x/\x.Perm l:=by have⟨x,c,d⟩:=zoK l a b n q e j n 0 l rfl W (.refl l);refine⟨x,?_,c⟩;have:zoJ l a b n k=M (.tup [],[.vec ze.sl x]):=d 100000000 W;unfold Md;rw[this];rfl
theorem zou(e:List zr)(m:Nat)(k:Int)(F:X e<=1000):∀(s i j:Nat)(l:List zr),i+j<=s->1<=i->1<=j->i<=m->m+j<=X e->l.Perm e->
  ∃x,x.Perm e/\zU sq (s+1) (.h2 (m:Int) k (i:Int) (j:Int) l) (.tup [],[.vec ze.sl x]):=by
 intro s
 induction s with
 |zero=>intro i j l h w;omega
 | succ s v=>
  intro i j l G w B C D d;have y:=d.length_eq;have e0:Γ Δ ((m:Int)-(i:Int))=((m-i:Nat):Int):=by rw[wI _ W W];omega
  rcases Nat.lt_trichotomy i j with h|h|h
  .have⟨c,z,q⟩:=Si l (m-i) (m+j-i) i k W W W;have⟨x,n,t⟩:=v i (j-i) c W w W C W (q.trans d);refine⟨x,n,((zH.of ?_).ends t).mono W⟩;have A:((i:Int)!=(j:Int))=O:=by simp;omega
   have E:N ((i:Int)>(j:Int))=S:=by simp;omega
   grind[wI,sq,Q8]
  .subst h;have⟨c,z,q⟩:=Si l (m-i) m i k W W W;refine⟨c,q.trans d,(zU.of ?_).mono W⟩;grind[sq,Q8]
  .have⟨c,z,q⟩:=Si l (m-i) m j k W W W;have⟨x,n,t⟩:=v (i-j) j c W W B W D (q.trans d);refine⟨x,n,((zH.of ?_).ends t).mono W⟩;have A:((i:Int)!=(j:Int))=O:=by simp;omega
   grind[wI,sq,Q8]
theorem zov(l:List zr)(a m b:Nat)(k:Int)(e:X l<=1000)(j:a<m)(q:m<b)(n:b<=X l):∃x,LU l a m b k=M x/\x.Perm l:=by
 have⟨x,c,d⟩:=zou l m k e ((m-a)+(b-m)) (m-a) (b-m) l (zQ _) W W W W (.refl l);refine⟨x,?_,c⟩;have:zbB l a m b k=M (.tup [],[.vec ze.sl x]):=by
  unfold zbB bT N5;rw[show Γ Δ ((m:Int)-(a:Int))=((m-a:Nat):Int) by rw[wI _ W W];omega,show Γ Δ ((b:Int)-(m:Int))=((b-m:Nat):Int) by rw[wI _ W W];omega];exact d 100000000 W
 unfold LU;rw[this];rfl
set_option maxHeartbeats 4000000
theorem ni(i j:Nat)(h:i+j<=4000000):Γ Δ (IntKind.u64.wrap (Γ Δ ((i:Int)+(j:Int)))/2)=(((i+j)/2:Nat):Int):=by rw[wI ((i:Int)+(j:Int)) W W,wU _ W W,wI _ W W];omega
section
variable (o:SM) (k:Int)
theorem zv8(l:List zr)(a m b:Nat)(hn:X l<=1000)(P:a<m)(U:b<=X l):∀(s i j:Nat),j-i<=s->m<=i->i<=j->j<=b->(i=m\/¬l.Pairwise (lV k))->
  ∃x,m<=x/\x<=b/\(x=m\/¬l.Pairwise (lV k))/\zH (cq o) (s+1) (.h3 (a:Int) k (i:Int) (j:Int) l) (.h9 (x:Int) (a:Int) l):=by
 intro s
 induction s with
 | zero=>
  intro i j F d G E e;refine⟨i,d,W,e,zH.of ?_⟩;simp only[cq,Q8,eM (show¬i<j by omega),zC,zm]
 | succ s z=>
  intro i j F d G E e;by_cases c:i<j
  case neg=>
   refine⟨i,d,W,e,(zH.of ?_).mono W⟩;simp only[cq,Q8,eM c,zC,zm]
  have e0:=ni i j W;have H:i<=(i+j)/2/\(i+j)/2<j:=by omega
  generalize(i+j)/2=h at e0 H;have A:zL ((h:Nat):Int) (X l)=O:=zx W;have B:N (h<X l)=O:=by simp;omega
  have C:zL ((a:Nat):Int) (X l)=O:=zx W;have D:N (a<X l)=O:=by simp;omega
  by_cases q:lV k (l.getD h (Q ze.sl)) (l.getD a (Q ze.sl))
  .have⟨x,t,v,w,y⟩:=z (h+1) j W W W E (.inr (CK (i:=a) (j:=h) W W _ q));refine⟨x,t,v,w,((zH.of ?_).trans y).mono W⟩;have n:N (LT.lt (α:=Int) (aG (e7 k (l.getD h (Q ze.sl))) (e7 k (l.getD a (Q ze.sl)))) 0)=O:=zB q;simp only[cq,Q8,e0,aJ];rw[fa,ip];simp only[zO c,A,B,C,D,n,zj,zu h um]
  .have⟨x,t,v,w,y⟩:=z i h W d W W e;refine⟨x,t,v,w,((zH.of ?_).trans y).mono W⟩;have n:N (LT.lt (α:=Int) (aG (e7 k (l.getD h (Q ze.sl))) (e7 k (l.getD a (Q ze.sl)))) 0)=S:=aC q;simp only[cq,Q8,e0,aJ];rw[fa,ip];simp only[zO c,A,B,C,D,n,zj,zC,zm]
theorem zv9(e:List zr)(i:Nat)(F:X e<=1000)(E:i<=X e):∀(s c:Nat)(l:List zr),i-c<=s->l.Perm e->
  ∃d,d.Perm e/\((i<=c+1)->d=l)/\zU (cq o) (s+1) (.h9 (i:Int) (c:Int) l) (.tup [],[.vec ze.sl d]):=by
 intro s
 induction s with
 | zero=>
  intro c l A x;refine⟨l,x,λ_=>rfl,zU.of ?_⟩;have e0:N ((c:Int)<Γ Δ ((i:Int)-1))=S:=by
   by_cases z:i=0
   .subst z;rw[wI _ W W];simp only[ef];omega
   .rw[wI _ W W];simp only[ef];omega
  simp only[cq,Q8,e0,zC,zm]
 | succ s q=>
  intro c l A x;have n:=x.length_eq;by_cases D:c+1<i
  case neg=>
   refine⟨l,x,λ_=>rfl,(zU.of ?_).mono W⟩;have e0:N ((c:Int)<Γ Δ ((i:Int)-1))=S:=by
    rw[wI _ W W];simp only[ef];omega
   simp only[cq,Q8,e0,zC,zm]
  have e0:N ((c:Int)<Γ Δ ((i:Int)-1))=O:=by
   rw[wI _ W W];simp only[ba];omega
  have t:zL ((c+1:Nat):Int) (X l)=O:=zx W;have v:zL ((c:Nat):Int) (X l)=O:=zx W;have w:N (c+1<X l)=O:=by simp;omega
  have y:N (c<X l)=O:=by simp;omega
  have⟨d,B,_,C⟩:=q (c+1) ((l.set c (l.getD (c+1) (Q ze.sl))).set (c+1) (l.getD c (Q ze.sl))) W ((jf (i:=c+1) (j:=c) W W _).trans x);refine⟨d,B,λh=>by omega,((zH.of ?_).ends C).mono W⟩;simp only[cq,Q8,e0,zu c um,t,v,w,y,aJ,mZ,zj]
theorem zoz(l:List zr)(a m:Nat)(U:X l<=1000)(P:m<X l):∀(s i j:Nat),j-i<=s->a<=i->i<=j->j<=m->(j=m\/¬l.Pairwise (lV k))->
  ∃x,a<=x/\x<=m/\(x=m\/¬l.Pairwise (lV k))/\zH (cq o) (s+1) (.h15 (m:Int) k (i:Int) (j:Int) l) (.h21 (x:Int) (m:Int) l):=by
 intro s
 induction s with
 | zero=>
  intro i j F d G E e;refine⟨i,d,W,e.imp (λh=>by omega) id,zH.of ?_⟩;simp only[cq,Q8,eM (show¬i<j by omega),zC,zm]
 | succ s z=>
  intro i j F d G E e;by_cases c:i<j
  case neg=>
   refine⟨i,d,W,e.imp (λh=>by omega) id,(zH.of ?_).mono W⟩;simp only[cq,Q8,eM c,zC,zm]
  have e0:=ni i j W;have H:i<=(i+j)/2/\(i+j)/2<j:=by omega
  generalize(i+j)/2=h at e0 H;have A:zL ((h:Nat):Int) (X l)=O:=zx W;have B:N (h<X l)=O:=by simp;omega
  have C:zL ((m:Nat):Int) (X l)=O:=zx W;have D:N (m<X l)=O:=by simp;omega
  by_cases q:lV k (l.getD m (Q ze.sl)) (l.getD h (Q ze.sl))
  .have⟨x,t,v,w,y⟩:=z i h W d W W (.inr (CK (i:=h) (j:=m) W W _ q));refine⟨x,t,v,w,((zH.of ?_).trans y).mono W⟩;have n:N (LT.lt (α:=Int) (aG (e7 k (l.getD m (Q ze.sl))) (e7 k (l.getD h (Q ze.sl)))) 0)=O:=zB q;simp only[cq,Q8,e0,aJ];rw[fa,ip];simp only[zO c,A,B,C,D,n,zj,ce,zC,zm]
  .have⟨x,t,v,w,y⟩:=z (h+1) j W W W E e;refine⟨x,t,v,w,((zH.of ?_).trans y).mono W⟩;have n:N (LT.lt (α:=Int) (aG (e7 k (l.getD m (Q ze.sl))) (e7 k (l.getD h (Q ze.sl)))) 0)=S:=aC q;simp only[cq,Q8,e0,aJ];rw[fa,ip];simp only[zO c,A,B,C,D,n,zj,dj,zu h um]
theorem zoA(e:List zr)(i:Nat)(G:X e<=1000):∀(s c:Nat)(l:List zr),c-i<=s->c<X e->l.Perm e->
  ∃d,d.Perm e/\(c<=i->d=l)/\zU (cq o) (s+1) (.h21 (i:Int) (c:Int) l) (.tup [],[.vec ze.sl d]):=by
 intro s
 induction s with
 | zero=>
  intro c l C n x;refine⟨l,x,λ_=>rfl,zU.of ?_⟩;have e0:N ((c:Int)>(i:Int))=S:=by simp;omega
  simp only[cq,Q8,e0,zC,zm]
 | succ s t=>
  intro c l C n x;have q:=x.length_eq;by_cases D:i<c
  case neg=>
   refine⟨l,x,λ_=>rfl,(zU.of ?_).mono W⟩;have e0:N ((c:Int)>(i:Int))=S:=by simp;omega
   simp only[cq,Q8,e0,zC,zm]
  obtain⟨c,rfl⟩:∃v,c=v+1:=⟨c-1,W⟩;have e0:N (((c+1:Nat):Int)>(i:Int))=O:=As D;have w:zL ((c+1:Nat):Int) (X l)=O:=zx W;have y:zL ((c:Nat):Int) (X l)=O:=zx W;have z:N (c+1<X l)=O:=by simp;omega
  have A:N (c<X l)=O:=by simp;omega
  have B:Γ Δ (((c+1:Nat):Int)-1)=(c:Int):=gN c um;have⟨d,E,_,F⟩:=t c ((l.set (c+1) (l.getD c (Q ze.sl))).set c (l.getD (c+1) (Q ze.sl))) W W ((jf (i:=c) (j:=c+1) W W _).trans x);refine⟨d,E,λh=>by omega,((zH.of ?_).ends F).mono W⟩;simp only[cq,Q8,e0,B,w,y,z,A,aJ,mZ,zj]
end
section
variable (o:SM) (k:Int)
theorem zbL(l:List zr)(a m b mid n p z d:Nat)(hn:X l<=1000)(h0:d<=1000)(hp:p<=2000)(hB:∀c,z<=c->c<d->c+c<p/\p<X l+c):∀(s i j:Nat),j-i<=s->z<=i->i<=j->j<=d->(j=d\/¬l.Pairwise (lV k))->
  ∃x,z<=x/\x<=d/\(x=d\/¬l.Pairwise (lV k))/\zH (cq o) s (.h33 (a:Int) (m:Int) (b:Int) k (mid:Int) (n:Int) (i:Int) (j:Int) (p:Int) l) (.h33 (a:Int) (m:Int) (b:Int) k (mid:Int) (n:Int) (x:Int) (x:Int) (p:Int) l):=by
 intro s
 induction s with
 | zero=>
  intro i j h1 q h3 t v;obtain rfl:i=j:=by omega
  exact⟨i,q,t,v,zH.refl _⟩
 | succ s E=>
  intro i j h1 q h3 t v;by_cases e:i<j
  case neg=>
   obtain rfl:i=j:=by omega
   exact⟨i,q,t,v,(zH.refl _).mono W⟩
  have e0:=ni i j W;have hh:i<=(i+j)/2/\(i+j)/2<j:=by omega
  generalize(i+j)/2=h at e0 hh;have⟨b1,b2⟩:=hB h W W;have U:Γ Δ ((p:Int)-(h:Int))=((p-h:Nat):Int):=by rw[wI _ W W];omega
  have F:zL ((h:Nat):Int) (X l)=O:=zx W;have G:N (h<X l)=O:=by simp;omega
  have H:zL ((p-h:Nat):Int) (X l)=O:=zx W;have P:N (p-h<X l)=O:=by simp;omega
  by_cases y:lV k (l.getD (p-h) (Q ze.sl)) (l.getD h (Q ze.sl))
  .have⟨x,A,B,C,D⟩:=E i h W q W W (.inr (CK (i:=h) (j:=p-h) W W _ y));refine⟨x,A,B,C,((zH.of ?_).trans D).mono W⟩;have w:N (LT.lt (α:=Int) (aG (e7 k (l.getD (p-h) (Q ze.sl))) (e7 k (l.getD h (Q ze.sl)))) 0)=O:=zB y;simp only[cq,Q8,e0,U,aJ];rw[fa,ip];simp only[zO e,F,G,H,P,w,zj,ce,zC,zm]
  .have⟨x,A,B,C,D⟩:=E (h+1) j W W W t v;refine⟨x,A,B,C,((zH.of ?_).trans D).mono W⟩;have w:N (LT.lt (α:=Int) (aG (e7 k (l.getD (p-h) (Q ze.sl))) (e7 k (l.getD h (Q ze.sl)))) 0)=S:=aC y;simp only[cq,Q8,e0,U,aJ];rw[fa,ip];simp only[zO e,F,G,H,P,w,zj,dj,zu h um]
theorem S1{a b e d:Nat}:(cond (N ((a:Int)<(b:Int))) (N ((e:Int)<(d:Int))) S)=N (a<b/\e<d):=by
 by_cases h:a<b
 .have:N ((a:Int)<(b:Int))=O:=by simpa using h
  rw[this];simp[h]
 .have:N ((a:Int)<(b:Int))=S:=by simpa using h
  rw[this];simp[h]
theorem zbK{D:Nat}(E:∀(l:List zr)(a m b:Nat),X l<=1000->a<m->m<b->b<=X l->b-a<=D->∃w,o l a m b k=M w/\Kp k l w)(l:List zr)(a m b mid n st en:Nat)(p:Int)(B:X l<=1000)(hb:b<=X l)(he:n=st+en)(_:n<=2000)
  (_:a<=st) (h2:en<=b) (G:mid-a<=D) (H:b-mid<=D) (P:mid<=b) (hr:st<m->m<en->¬l.Pairwise (lV k)):
  ∃w,Kp k l w/\(cq o (.h33 (a:Int) (m:Int) (b:Int) k (mid:Int) (n:Int) (st:Int) (st:Int) p l)).val=M (.inr (.tup [],[.vec ze.sl w])):=by
 have e0:Γ Δ ((n:Int)-(st:Int))=(en:Int):=by rw[wI _ W W];omega
 have F:N ((st:Int)<(st:Int))=S:=by simp
 obtain⟨e,y,v⟩:∃e,Kp k l e/\(ite (st<m/\m<en) (LU l st m en k=M e) (e=l)):=by
  by_cases h:st<m/\m<en
  .have⟨e,z,A⟩:=zov l st m en k B h.1 h.2 W;exact⟨e,Kp.perm A (hr h.1 h.2),by rw[zf h];exact z⟩
  .exact⟨l,Kp.refl,by rw[zh h]⟩
 obtain⟨j,C,s⟩:∃j,Kp k e j/\(ite (a<st/\st<mid) (o e a st mid k=M j) (j=e)):=by
  by_cases h:a<st/\st<mid
  .have⟨j,z,A⟩:=E e a st mid (by rw[y.len];exact B) h.1 h.2 (by rw[y.len];omega) G;exact⟨j,A,by rw[zf h];exact z⟩
  .exact⟨e,Kp.refl,by rw[zh h]⟩
 obtain⟨t,p5,x⟩:∃t,Kp k j t/\(ite (mid<en/\en<b) (o j mid en b k=M t) (t=j)):=by
  by_cases h:mid<en/\en<b
  .have⟨t,z,A⟩:=E j mid en b (by rw[C.len,y.len];exact B) h.1 h.2 (by rw[C.len,y.len];omega) H;exact⟨t,A,by rw[zf h];exact z⟩
  .exact⟨j,Kp.refl,by rw[zh h]⟩
 refine⟨t,(y.trans C).trans p5,?_⟩;simp only[cq,Q8,e0,F,S1,zC,zm];by_cases q:st<m/\m<en
 .rw[zf q]at v;by_cases d:a<st/\st<mid
  .rw[zf d]at s;by_cases c:mid<en/\en<b
   .rw[zf c]at x;simp only[zB q,zB d,zB c,v,s,x,dv,bI,zj]
   .rw[zh c]at x;subst x;simp only[zB q,zB d,aC c,v,s,dv,bI,zj,zC,zm]
  .rw[zh d]at s;subst s;by_cases c:mid<en/\en<b
   .rw[zf c]at x;simp only[zB q,aC d,zB c,v,x,dv,bI,zj,zC,zm]
   .rw[zh c]at x;subst x;simp only[zB q,aC d,aC c,v,dv,bI,zj,zC,zm]
 .rw[zh q]at v;subst v;by_cases d:a<st/\st<mid
  .rw[zf d]at s;by_cases c:mid<en/\en<b
   .rw[zf c]at x;simp only[aC q,zB d,zB c,s,x,dv,bI,zj,zC,zm]
   .rw[zh c]at x;subst x;simp only[aC q,zB d,aC c,s,dv,bI,zj,zC,zm]
  .rw[zh d]at s;subst s;by_cases c:mid<en/\en<b
   .rw[zf c]at x;simp only[aC q,aC d,zB c,x,dv,bI,zj,zC,zm]
   .rw[zh c]at x;subst x;simp only[aC q,aC d,aC c,zC,zm]
end
theorem sf{o:SM}{a m b:Int}(h:bT (cq o) 100000000 (qB o l a m b k)=M (.tup [],[.vec ze.sl x])):smS o l a m b k=M x:=by unfold smS;rw[h];rfl
theorem zbM(k:Int):∀(x:Nat)(l:List zr)(a m b:Nat),X l<=1000->a<m->m<b->b<=X l->b-a<=2^x->∃e,uT x l a m b k=M e/\Kp k l e
 |0,_,a,m,b,_,h1,h2,_,E=>by simp at E;omega
 | x+1,l,a,m,b,s,h1,h2,D,E=>by
  have hO:=zbM k x;have e0:Γ Δ ((m:Int)-(a:Int))=((m-a:Nat):Int):=by rw[wI _ W W];omega
  have B:Γ Δ ((b:Int)-(m:Int))=((b-m:Nat):Int):=by rw[wI _ W W];omega
  by_cases c1:m-a=1
  .have⟨z,F,G,q,v⟩:=zv8 (uT x) k l a m b s h1 D (b-m) m b (zQ _) (zQ _) W (zQ _) (.inl rfl);have⟨e,w,y,H⟩:=zv9 (uT x) l z s W (z-a) a l (zQ _) (.refl l);refine⟨e,sf ?_,?_⟩
   .have d:(((m-a:Nat):Int)==1)=O:=by rw[c1];rfl
    unfold bT;simp only[qB,Q8,e0,d,zj];exact(v.ends H) 100000000 W
   .rcases q with rfl|q
    .rw[y W];exact Kp.refl
    .exact Kp.perm w q
  have d:(((m-a:Nat):Int)==1)=S:=by simp;omega
  by_cases c2:b-m=1
  .have⟨z,F,G,q,v⟩:=zoz (uT x) k l a m s W (m-a) a m (zQ _) (zQ _) W (zQ _) (.inl rfl);have⟨e,w,y,H⟩:=zoA (uT x) l z s (m-z) m l (zQ _) W (.refl l);refine⟨e,sf ?_,?_⟩
   .have j:(((b-m:Nat):Int)==1)=O:=by rw[c2];rfl
    unfold bT;simp only[qB,Q8,e0,B,d,j,zj,zC,zm];exact(v.ends H) 100000000 W
   .rcases q with rfl|q
    .rw[y (zQ _)];exact Kp.refl
    .exact Kp.perm w q
  have j:(((b-m:Nat):Int)==1)=S:=by simp;omega
  have C:=ni a b W;have n:a<=(a+b)/2/\(a+b)/2<=b/\2*((a+b)/2)<=a+b/\a+b<=2*((a+b)/2)+1:=by omega
  generalize(a+b)/2=mid at C n;have⟨g1,g2,g3,g4⟩:=n;have A:mid-a<=2^x/\b-mid<=2^x:=by rw[pm]at E;omega
  have e3:Γ Δ ((mid:Int)+(m:Int))=((mid+m:Nat):Int):=by rw[wI _ W W];omega
  have e4:Γ Δ (((mid+m:Nat):Int)-1)=((mid+m-1:Nat):Int):=by rw[wI _ W W];omega
  by_cases c3:mid<m
  ·
   have e5:Γ Δ (((mid+m:Nat):Int)-(b:Int))=((mid+m-b:Nat):Int):=by rw[wI _ W W];omega
   have t:N ((m:Int)>(mid:Int))=O:=As c3;have⟨st,F,G,q,v⟩:=zbL (uT x) k l a m b mid (mid+m) (mid+m-1) (mid+m-b) mid s W W (λc P U=>by omega) (mid-(mid+m-b)) (mid+m-b) mid (zQ _) (zQ _) W (zQ _) (.inl rfl);have⟨e,w,y⟩:=zbK (uT x) k hO l a m b mid (mid+m) st (mid+m-st) ((mid+m-1:Nat):Int) s D W W W W A.1 A.2 g2 (λP U=>by
    rcases q with rfl|q
    .omega
    .exact q)
   refine⟨e,sf ?_,w⟩;unfold bT;simp only[qB,Q8,e0,B,C,e3,e4,e5,d,j,t,zj,zC,zm];exact(v.ends (zU.of y)) 100000000 W
  .have t:N ((m:Int)>(mid:Int))=S:=by simp;omega
   have⟨st,F,G,q,v⟩:=zbL (uT x) k l a m b mid (mid+m) (mid+m-1) a m s W W (λc P U=>by omega) (m-a) a m (zQ _) (zQ _) W (zQ _) (.inl rfl);have⟨e,w,y⟩:=zbK (uT x) k hO l a m b mid (mid+m) st (mid+m-st) ((mid+m-1:Nat):Int) s D W W W W A.1 A.2 g2 (λP U=>by
    rcases q with rfl|q
    .omega
    .exact q)
   refine⟨e,sf ?_,w⟩;unfold bT;simp only[qB,Q8,e0,B,C,e3,e4,d,j,t,zj,zC,zm];exact(v.ends (zU.of y)) 100000000 W
theorem zze(k:Int)(c:List zr)(x:Nat)(P:X c<=1000)(H:1<=x)(D:x<=1000):∀(s a:Nat)(l:List zr),X c-a<=s->a<=X c->Kp k c l->
  ∃n,Kp k c n/\zH eS (s+1) (.h9 (X c:Int) k (x:Int) (a:Int) ((a+2*x:Nat):Int) l) (.h7 (X c:Int) k ((2*x:Nat):Int) n):=by
 intro s
 induction s with
 | zero=>
  intro a l E C d;refine⟨l,d,zH.of ?_⟩;have e0:Γ Δ ((a:Int)+(x:Int))=((a+x:Nat):Int):=by rw[wI _ W W];omega
  have j:Γ Δ ((x:Int)*2)=((2*x:Nat):Int):=by rw[wI _ W W];omega
  have e:N (((a+2*x:Nat):Int)<=(X c:Int))=S:=by simp;omega
  simp only[eS,Q8,e0,j,e,eM (show¬a+x<X c by omega),zC,zm]
 | succ s z=>
  intro a l E C d;have y:=d.len;have e0:Γ Δ ((a:Int)+(x:Int))=((a+x:Nat):Int):=by rw[wI _ W W];omega
  have j:Γ Δ ((x:Int)*2)=((2*x:Nat):Int):=by rw[wI _ W W];omega
  have B:Γ Δ (((a+2*x:Nat):Int)+Γ Δ (2*(x:Int)))=((a+2*x+2*x:Nat):Int):=by rw[wI (2*(x:Int)) W W,wI _ W W];omega
  by_cases A:a+2*x<=X c
  .have⟨t,v,w⟩:=zbM k 16 l a (a+x) (a+2*x) W W W W sg;have⟨n,F,G⟩:=z (a+2*x) t W A (d.trans w);refine⟨n,F,((zH.of ?_).trans G).mono W⟩;have e:N (((a+2*x:Nat):Int)<=(X c:Int))=O:=by simp;omega
   simp only[eS,Q8,e0,e,B,v,dv,bI,zj]
  .have e:N (((a+2*x:Nat):Int)<=(X c:Int))=S:=by simp;omega
   by_cases q:a+x<X c
   .have⟨t,v,w⟩:=zbM k 16 l a (a+x) (X c) W W q W sg;refine⟨t,d.trans w,(zH.of ?_).mono W⟩;simp only[eS,Q8,e0,j,e,zO q,v,dv,bI,zj,zC,zm]
   .refine⟨l,d,(zH.of ?_).mono W⟩;simp only[eS,Q8,e0,j,e,eM q,zC,zm]
theorem zzd(k:Int)(d:List zr)(v:X d<=1000):∀(s x:Nat)(l:List zr),X d-x<=s->1<=x->Kp k d l->
  ∃j,Kp k d j/\zU eS (s*1002+1) (.h7 (X d:Int) k (x:Int) l) (.tup [],[.vec ze.sl j]):=by
 intro s
 induction s with
 | zero=>
  intro x l w n e;refine⟨l,e,(zU.of ?_).mono W⟩;simp only[eS,Q8,eM (show¬x<X d by omega),zC,zm]
 | succ s q=>
  intro x l w n e;by_cases c:x<X d
  case neg=>
   refine⟨l,e,(zU.of ?_).mono W⟩;simp only[eS,Q8,eM c,zC,zm]
  have⟨y,z,A⟩:=zze k d x v n W (X d) 0 l W W e;have⟨j,B,C⟩:=q (2*x) y W W z;refine⟨j,B,(((zH.of ?_).trans A).ends C).mono W⟩;have t:Γ Δ (2*(x:Int))=((0+2*x:Nat):Int):=by rw[wI _ W W];omega
  simp only[eS,Q8,zO c,t,zj];rfl
theorem zzc(k:Int)(x:List zr)(D:X x<=1000):∀(s a:Nat)(l:List zr),X x-a<=s->a<=X x->Kp k x l->
  ∃v,Kp k x v/\zH eS (s+1) (.h2 (X x:Int) k 20 (a:Int) ((a+20:Nat):Int) l) (.h7 (X x:Int) k 20 v):=by
 intro s
 induction s with
 | zero=>
  intro a l A z d;have j:=d.len;have⟨n,q,t⟩:=EZ l a (X x) k W W W;refine⟨n,d.trans t,zH.of ?_⟩;have e:N (((a+20:Nat):Int)<=(X x:Int))=S:=by simp;omega
  simp only[eS,Q8,e,q,dv,bI,zj,zC,zm]
 | succ s w=>
  intro a l A z d;have j:=d.len;by_cases c:a+20<=X x
  .have⟨n,q,t⟩:=EZ l a (a+20) k W W W;have⟨v,B,C⟩:=w (a+20) n W c (d.trans t);refine⟨v,B,((zH.of ?_).trans C).mono W⟩;have e:N (((a+20:Nat):Int)<=(X x:Int))=O:=by simp;omega
   have y:Γ Δ (((a+20:Nat):Int)+20)=((a+20+20:Nat):Int):=by rw[wI _ W W];omega
   simp only[eS,Q8,e,y,q,dv,bI,zj]
  .have⟨n,q,t⟩:=EZ l a (X x) k W W W;refine⟨n,d.trans t,(zH.of ?_).mono W⟩;have e:N (((a+20:Nat):Int)<=(X x:Int))=S:=by simp;omega
   simp only[eS,Q8,e,q,dv,bI,zj,zC,zm]
theorem zf3(k:Int)(l:List zr)(c:X l<=1000):∃x,GC l (X l:Int) k=M x/\Kp k l x:=by
 have⟨e,q,j⟩:=zzc k l c (X l) 0 l W W Kp.refl;have⟨x,n,s⟩:=zzd k l c (X l) 20 e W W q;refine⟨x,?_,n⟩;have:zbS l (X l:Int) k=M (.tup [],[.vec ze.sl x]):=by
  have d:=f5 1002 c;exact(j.ends s) 100000000 (by
   refine be (Nat.add_le_add (Nat.succ_le_succ d) (Nat.succ_le_succ c)) (by decide))
 unfold GC;rw[this];rfl
theorem PB(k:Int)(l:List zr)(c:X l<=1000):∃x,si l k=M x/\Kp k l x:=by
 have⟨x,q,d⟩:=zf3 k l c;refine⟨x,?_,d⟩;have:GB l k=M (.tup [],[.vec ze.sl x]):=by
  unfold GB bT;simp only[N2,Q8,q,dv,bI,zj]
 unfold si;rw[this];rfl
theorem zbt{c:ae}(z:Ni c=O)(B:X c.2<=1000):∃j,AY c=M ((c.1,j),())/\j.Perm c.2/\(dt c.1=O->Kp c.1.q.1 c.2 j):=by
 have n:∀j:List zr,bb [AO.vec zn c.1.2.1,AO.vec zk c.1.r.1,AO.vec zG c.1.t.1,AO.vec ze.sl j] [zl] (agg [I c.1.1,AV.vec 0,L c.1.q.1,AV.vec 1,AV.vec 2,I (zg.op c.1.u),L (zg.v c.1.u).1,L (zg.v c.1.u).2.1,I (zg.v c.1.u).q,I (zg.s c.1.u),T Sh.expr (zg.l c.1.u),AV.vec 3])=M (((c.1,j):ae),()):=by
  intro j;have⟨⟨a,b,x,d,e,f⟩,r⟩:=c;cases f;rfl
 cases A:dt c.1 with
 | true=>
  have⟨j,y,w⟩:=PB c.1.q.1 c.2 B;refine⟨j,zR (r:=(_,_)) ?_ (n j),w.1,λ_=>w⟩;simp only[ze2,Q8,zo,bh,z,A,y,dv,bI,ce,zC,zj,zm]
 | false=>
  have⟨j,y,w⟩:=PB (-1) c.2 B;refine⟨j,zR (r:=(_,_)) ?_ (n j),w.1,λh=>(by cases h)⟩;simp only[ze2,Q8,zo,bh,z,A,y,dv,bI,dj,zj]
set_option maxRecDepth 100000
section
variable {db:List (J zl)} {p:J an} {us:List (J ze)}
theorem zfb(h:aH db p)(m:jH db p)(us:zr):Ni (p.r.1,(dY us).flatMap (bV db p))=O:=by have d:=(lO h (dY us) (pR us)).1;unfold Ni;simp only[aP,ba,ep];refine⟨⟨⟨⟨⟨be m.wf.ncols W,be m.wf.nuq W⟩,be m.wf.nrf W⟩,h.go.few.cp⟩,W⟩,λr c=>?_⟩;have⟨u,_,x⟩:=wl.1 c;have:=(cK (oH h m r x).1).1;have:=m.wf.ncols;omega
theorem zlX(h:aH db p){x:ae}{n:Int}(e:kW p (zI db p) (ay p (zI db p))=M (x,n,0,())):M5 p (zI db p)=M (x,n,0,()):=by
 have d:=h.uall;have j:Ba p (zI db p)=O:=by unfold Ba;rw[d];rfl
 have s:JL p (zI db p)=(ay p (zI db p),0):=by unfold JL;rw[d];rfl
 have v:P7 p (zI db p) (ay p (zI db p))=O:=by unfold P7;rw[e];rfl
 have w:X0 p (zI db p) (ay p (zI db p))=(x,n,0):=by unfold X0;rw[e];rfl
 have⟨t,c⟩:=x;refine(zR (i:=zmO p (zI db p)) (t:=t0) (n:=100000000) (outs:=[zl,zk,zk]) (by
  simp only[zmO,Q8,zo,bh,j,s,v,w,fL,zC,zj,zm];rfl) (y:=(((t.1,t.2.1,t.q.1,t.r.1,t.t.1,zt t.u),c),n,0,())) rfl).trans ?_
 rw[zo]
end
section
variable {α:Type} {le:α->α->Prop} {f g h:Nat->α} {a b m mid st en:Nat}
def Up(le:α->α->Prop)(f:Nat->α)(a b:Nat):Prop:=∀i j,a<=i->i<j->j<b->le (f i) (f j)
def Bh(f g:Nat->α)(a b:Nat):Prop:=(∀i,i<a\/b<=i->g i=f i)/\∀i,a<=i->i<b->∃j,a<=j/\j<b/\g i=f j
theorem Bh.refl:Bh f f a b:=⟨λ_ _=>rfl,λi x c=>⟨i,x,c,rfl⟩⟩
theorem Bh.trans(u:Bh f g a b)(v:Bh g h a b):Bh f h a b:=⟨λi x=>(v.1 i x).trans (u.1 i x),λi c d=>by
 have⟨j,q,e,n⟩:=v.2 i c d;have⟨l,s,t,w⟩:=u.2 j q e;exact⟨l,s,t,n.trans w⟩⟩
variable {c j:Nat}
theorem Bh.wide(u:Bh f g a b)(s:c<=a)(t:b<=j):Bh f g c j:=⟨λi v=>u.1 i W,λi q e=>by
 by_cases d:a<=i/\i<b
 .have⟨x,w,y,n⟩:=u.2 i d.1 d.2;exact⟨x,W,W,n⟩
 .exact⟨i,q,e,u.1 i W⟩⟩
theorem Up.same(u:Up le f a b)(v:∀i,a<=i->i<b->g i=f i):Up le g a b:=λi j x d c=>by
 rw[v i x W,v j W c];exact u i j x d c
theorem Up.part(u:Up le f a b)(d:a<=c)(e:j<=b):Up le f c j:=λi x n q s=>u i x W q W
theorem Up.one(x:b<=a+1):Up le f a b:=λi j q c d=>by omega
theorem Wu(t:∀x y z,le x y->le y z->le x z)(w:Up le f a m)(A:Up le f m b)(e:st+en=mid+m)(ha:a<=st)(hs:st<=m)(hm:m<=en)(hb:en<=b)
  (c1:st=a\/en=b\/le (f (st-1)) (f en)) (c2:st=m\/en=m\/le (f (en-1)) (f st))
  (g1:∀i,i<st->g i=f i) (D:∀i,st<=i->i<mid->g i=f (i+(m-st))) (B:∀i,mid<=i->i<en->g i=f (i-(en-m))) (E:∀i,en<=i->g i=f i):
  Up le g a st/\Up le g st mid/\Up le g mid en/\Up le g en b/\∀i j,a<=i->i<mid->mid<=j->j<b->le (g i) (g j):=by
 refine⟨w.part (zQ _) hs |>.same λi _ q=>g1 i q,λi j s P v=>?_,λi j s P v=>?_,A.part hm (zQ _) |>.same λi q _=>E i q,λi j s P v q4=>?_⟩
 .rw[D i s W,D j W v];exact A _ _ W W W
 .rw[B i s W,B j W v];exact w _ _ W W W
 .have H:∀x,a<=x->x<st->∀y,en<=y->y<b->le (f x) (f y):=λx x1 x2 y y1 y2=>by
   rcases c1 with c|c|c
   .omega
   .omega
   .have n:x=st-1\/le (f x) (f (st-1)):=by
     by_cases F:x=st-1
     .exact .inl F
     .exact .inr (w _ _ x1 W W)
    have d:y=en\/le (f en) (f y):=by
     by_cases G:y=en
     .exact .inl G
     .exact .inr (A _ _ W W y2)
    rcases n with rfl|n
    .rcases d with rfl|d
     .exact c
     .exact t _ _ _ c d
    .rcases d with rfl|d
     .exact t _ _ _ n c
     .exact t _ _ _ n (t _ _ _ c d)
  have U:∀x,m<=x->x<en->∀y,st<=y->y<m->le (f x) (f y):=λx x1 x2 y y1 y2=>by
   rcases c2 with c|c|c
   .omega
   .omega
   .have n:x=en-1\/le (f x) (f (en-1)):=by
     by_cases F:x=en-1
     .exact .inl F
     .exact .inr (A _ _ x1 W W)
    have d:y=st\/le (f st) (f y):=by
     by_cases G:y=st
     .exact .inl G
     .exact .inr (w _ _ ha W y2)
    rcases n with rfl|n
    .rcases d with rfl|d
     .exact c
     .exact t _ _ _ c d
    .rcases d with rfl|d
     .exact t _ _ _ n c
     .exact t _ _ _ n (t _ _ _ c d)
  by_cases ci:i<st
  .rw[g1 i ci];by_cases C:j<en
   .rw[B j v C];exact w _ _ s W W
   .rw[E j W];exact H i s ci j W q4
  .rw[D i W P];by_cases C:j<en
   .rw[B j v C];exact U _ W W _ W W
   .rw[E j W];exact A _ _ W W q4
theorem Rs{d c:Nat->α}(A:∀i j,a<=i->i<mid->mid<=j->j<b->le (g i) (g j))(y:a<=mid)(z:mid<=b)(e:Bh g d a mid)(P:Up le d a mid)(x:Bh d c mid b)(U:Up le c mid b):Up le c a b/\Bh g c a b:=by
 refine⟨λi j q s t=>?_,(e.wide (zQ _) z).trans (x.wide y (zQ _))⟩;by_cases w:j<mid
 .rw[x.1 i W,x.1 j W];exact P i j q s w
 .by_cases v:i<mid
  .have⟨B,C,D,E⟩:=e.2 i q v;have⟨n,F,G,H⟩:=x.2 j W t;rw[x.1 i W,E,H,e.1 n W];exact A B n C D F G
  .exact U i j W s t
theorem se{P:Nat->Prop}{lo r0 i:Nat}(d:∀c e,lo<=e->e<=c->c<r0->P c->P e)(_:∀x,lo<=x->x<i->P x)(_:∀x,j<=x->x<r0->¬P x)(z:lo<=i)(y:i<=c)(A:c<j)(B:j<=r0):
  (P c->∀x,lo<=x->x<c+1->P x)/\(¬P c->∀x,c<=x->x<r0->¬P x):=
 ⟨λn x q s=>d c x q W W n,λn x q s t=>n (d x c W q s t)⟩
end
section
variable {α:Type} {le:α->α->Prop} {f g:Nat->α} {a b m:Nat}
def MD(f:Nat->α)(i j:Nat):Nat->α:=λt=>if t=i then f j else if t=j then f i else f t
variable {i j:Nat}
theorem zf5(x:a<=i)(c:i<b)(d:a<=j)(e:j<b):Bh f (MD f i j) a b:=by
 refine⟨λt s=>?_,λt q n=>?_⟩
 .unfold MD;rw[zh W,zh W]
 .unfold MD;split
  .exact⟨j,d,e,rfl⟩
  .split
   .exact⟨i,x,c,rfl⟩
   .exact⟨t,q,n,rfl⟩
structure Ins (le:α->α->Prop) (f:Nat->α) (a i j:Nat):Prop where
 oth:∀p q,a<=p->p<q->q<=i->p≠j->q≠j->le (f p) (f q)
 one:∀q,j<q->q<=i->le (f j) (f q)
theorem Ins.start(h:Up le f a i):Ins le f a i i:=⟨λp q x c d e j=>h p q x c W,λq x c=>by omega⟩
theorem Ins.down(h:Ins le f a i (j+1))(B:a<=j)(C:j+1<=i)(A:le (f (j+1)) (f j)):Ins le (MD f j (j+1)) a i j:=by
 have y:MD f j (j+1) j=f (j+1):=by unfold MD;rw[zf rfl]
 have s:MD f j (j+1) (j+1)=f j:=by unfold MD;rw[zh W,zf rfl]
 have e:∀t,t≠j->t≠j+1->MD f j (j+1) t=f t:=λt c d=>by unfold MD;rw[zh c,zh d]
 refine⟨λp q c d v z w=>?_,λq c d=>?_⟩
 .by_cases n:p=j+1
  .subst n;rw[s,e q w W];exact h.oth j q B W v W W
  .rw[e p z n];by_cases x:q=j+1
   .subst x;rw[s];exact h.oth p j c W W n W
   .rw[e q w x];exact h.oth p q c d v n x
 .rw[y];by_cases x:q=j+1
  .subst x;rw[s];exact A
  .rw[e q W x];exact h.one q W d
theorem Ins.done(A:∀x y z,le x y->le y z->le x z)(h:Ins le f a i j)(D:j<=i)(w:j=a\/(a<j/\le (f (j-1)) (f j))):Up le f a (i+1):=λp q s t C=>by
 by_cases d:p=j
 .subst d;exact h.one q t W
 .by_cases v:q=j
  .subst v;rcases w with c|⟨B,n⟩
   .omega
   .by_cases e:p=q-1
    .subst e;exact n
    .exact A _ _ _ (h.oth p (q-1) s W W d W) n
  .exact h.oth p q s t W d v
def US(f:Nat->α)(a b n:Nat):Nat->α:=λt=>if a<=t/\t<a+n then f (t+(b-a))else if b<=t/\t<b+n then f (t-(b-a))else f t
theorem zci:US f a b 0=f:=by funext t;unfold US;rw[zh W,zh W]
theorem zch{n:Nat}(h:a+j<=b)(q:n<j):MD (US f a b n) (b+n) (a+n)=US f a b (n+1):=by
 funext t;unfold MD US;by_cases x:t=b+n
 .subst x;rw[zf rfl,zh W,zh W,zh W,zf W];congr 1;omega
 .rw[zh x];by_cases c:t=a+n
  .subst c;rw[zf rfl,zh W,zh W,zf W];congr 1;omega
  .rw[zh c];by_cases d:a<=t/\t<a+n
   .rw[zf d,zf W]
   .rw[zh d];by_cases e:b<=t/\t<b+n
    .rw[zf e,zh W,zf W]
    .rw[zh e,zh W,zh W]
def uo(f:Nat->α)(m i j:Nat):Nat->α:=λt=>if m-i<=t/\t<m-i+j then f (t+i)else if m-i+j<=t/\t<m+j then f (t-j)else f t
theorem zbE(d:i<=m):US f (m-i) m i=uo f m i i:=by
 funext t;unfold US uo;by_cases x:m-i<=t/\t<m-i+i
 .rw[zf x,zf x];congr 1;omega
 .rw[zh x,zh x];by_cases c:m<=t/\t<m+i
  .rw[zf c,zf W];congr 1;omega
  .rw[zh c,zh W]
theorem zbD(x:i<=m)(h:j<i)(c:1<=j):uo (US f (m-i) m j) m (i-j) j=uo f m i j:=by
 funext t;unfold uo US;repeat' split
 all_goals first|rfl|(exfalso;omega)|(congr 1;omega)
theorem zbC(c:i<=m)(h:i<j)(x:1<=i):uo (US f (m-i) (m+j-i) i) m i (j-i)=uo f m i j:=by
 funext t;unfold uo US;repeat' split
 all_goals first|rfl|(exfalso;omega)|(congr 1;omega)
def Xm(f:Nat->α)(a i:Nat):Nat->α:=λt=>if a<=t/\t+1<i then f (t+1)else if t+1=i/\a<=t then f a else f t
def Xi(f:Nat->α)(i m:Nat):Nat->α:=λt=>if t=i/\i<=m then f m else if i<t/\t<=m then f (t-1)else f t
theorem zgo:Xm f a (a+1)=f:=by
 funext t;unfold Xm;repeat' split
 all_goals first|rfl|(exfalso;omega)|(congr 1;omega)
theorem zgn{c:Nat}(h:a<=c):MD (Xm f a (c+1)) (c+1) c=Xm f a (c+2):=by
 funext t;unfold MD Xm;repeat' split
 all_goals first|rfl|(exfalso;omega)|(congr 1;omega)
theorem zes:Xi f m m=f:=by
 funext t;unfold Xi;repeat' split
 all_goals first|rfl|(exfalso;omega)|(congr 1;omega)
theorem zer{c:Nat}(h:c+1<=m):MD (Xi f (c+1) m) c (c+1)=Xi f c m:=by
 funext t;unfold MD Xi;repeat' split
 all_goals first|rfl|(exfalso;omega)|(congr 1;omega)
theorem zoP(c:a<i)(d:i<=b):Bh f (Xm f a i) a b:=by
 refine⟨λt e=>?_,λt q x=>?_⟩
 .unfold Xm;rw[zh W,zh W]
 .unfold Xm;split
  .exact⟨t+1,W,W,rfl⟩
  .split
   .exact⟨a,W,W,rfl⟩
   .exact⟨t,q,x,rfl⟩
theorem zmp(c:a<=i)(d:i<=m)(e:m<b):Bh f (Xi f i m) a b:=by
 refine⟨λt j=>?_,λt q x=>?_⟩
 .unfold Xi;rw[zh W,zh W]
 .unfold Xi;split
  .exact⟨m,W,W,rfl⟩
  .split
   .exact⟨t-1,W,W,rfl⟩
   .exact⟨t,q,x,rfl⟩
theorem zwn(h:Up le f (a+1) b)(e:a<i)(j:i<=b)(d:∀c,a+1<=c->c<i->le (f c) (f a))(x:∀c,i<=c->c<b->le (f a) (f c)):Up le (Xm f a i) a b:=λp q n s t=>by
 unfold Xm;repeat' split
 all_goals first|(exfalso;omega)|exact h _ _ W W W|exact d _ W W|exact x _ W W
theorem zsz(h:Up le f a m)(e:a<=i)(j:i<=m)(d:∀c,a<=c->c<i->le (f c) (f m))(x:∀c,i<=c->c<m->le (f m) (f c)):Up le (Xi f i m) a (m+1):=λp q n s t=>by
 unfold Xi;repeat' split
 all_goals first|(exfalso;omega)|exact h _ _ W W W|exact d _ W W|exact x _ W W
end
theorem eJ(v:zp):bf (ak v)=O:=by
 unfold ak;split
 .rfl
 next h=>simpa using h
theorem I6(v:zp):ak (ak v)=ak v:=by show(ite ((!bf (ak v))=O) (0,0,[]) (ak v))=ak v;rw[eJ];rfl
theorem OE(a b:zp):aG (ak a) (ak b)=aG a b:=by unfold aG;rw[I6,I6]
variable {a b:zp}
theorem Fd:ph (ak a) (ak b)↔ph a b:=by unfold ph;rw[OE]
def leO(a b:zp):Prop:=Fa (ak a) (ak b)=O
variable {d:zp}
theorem AB(h:leO a b)(g:leO b d):leO a d:=AD (eJ _) (eJ _) (eJ _) h g
theorem td:leO a b↔¬ph b a:=by
 constructor
 .intro h g;rcases(gQ (eJ _) (eJ _)).1 h with q|q
  .exact eB (dZ (Fd.1 q) g)
  .have x:=Fd.2 g;rw[q]at x;exact eB x
 .intro h;refine kz λc=>?_
  rcases(gQ (eJ _) (eJ _)).1 (AC (eJ _) (eJ _) c)with q|q
  .exact h (Fd.1 q)
  .exact c ((gQ (eJ _) (eJ _)).2 (.inr q.symm))
theorem znM(h:ph a b):leO a b:=td.2 λg=>eB (dZ h g)
theorem Z8(h:leO a b)(g:ph b d):ph a d:=kz λx=>td.1 (AB (td.2 x) h) g
theorem zuX(h:ph a b)(g:leO b d):ph a d:=kz λx=>td.1 (AB g (td.2 x)) h
abbrev dh(l:List zr):Nat->zr:=λt=>l.getD t (Q ze.sl)
def qQ(k:Int)(x y:zr):Prop:=leO (e7 k x) (e7 k y)
theorem oL(k:Int)(x y z:zr)(h:qQ k x y)(g:qQ k y z):qQ k x z:=AB h g
theorem pO{x y:zr}:qQ k x y↔¬lV k y x:=td
theorem E9{x y:zr}(h:lV k x y):qQ k x y:=znM h
theorem CD(d:i<X l)(q:j<X l)(n:i≠j):dh ((l.set j (l.getD i (Q ze.sl))).set i (l.getD j (Q ze.sl)))=MD (dh l) i j:=by
 funext t;unfold MD;show((l.set j _).set i _).getD t _=_;rw[bx,mY];by_cases x:t=i
 .subst x;rw[zf rfl,zf rfl,zf (by rw[mZ];exact d)];rfl
 .rw[zh (λe=>x e.symm),zh x,mY];by_cases c:t=j
  .subst c;rw[zf rfl,zf rfl,zf q];rfl
  .rw[zh (λe=>c e.symm),zh c,<-bx]
theorem Wh(a b i:Nat)(k:Int)(hi:i<1000):∀(m j:Nat)(l:List zr),X l<=1000->j=a+m->j<X l->j<=i->Ins (qQ k) (dh l) a i j->
  ∃c,c.Perm l/\Bh (dh l) (dh c) a (i+1)/\Up (qQ k) (dh c) a (i+1)/\zH kO (m+1) (.h4 (a:Int) (b:Int) k (i:Int) (j:Int) l) (.h1 (a:Int) (b:Int) k ((i+1:Nat):Int) c):=by
 intro m
 induction m with
 | zero=>
  intro j l F U e x n;obtain rfl:j=a:=by omega
  refine⟨l,.refl l,Bh.refl,n.done (oL k) x (.inl rfl),zH.of ?_⟩;simp only[kO,Q8,Tq,aL,zC,zm,zj,zu i um]
 | succ m G=>
  intro j l F U e x n;obtain⟨j,rfl⟩:∃j',j=j'+1:=⟨j-1,W⟩;have y:N (((j+1:Nat):Int)>(a:Int))=O:=As W;have z:zL ((j+1:Nat):Int) (X l)=O:=zx e;have A:N (j+1<X l)=O:=by simpa using e
  have B:Γ Δ (((j+1:Nat):Int)-1)=(j:Int):=gN j um;have s:zL (j:Int) (X l)=O:=zx W;have t:N (j<X l)=O:=by simp;omega
  have C:zL (j:Int) (l.set (j+1) (l.getD j (Q ze.sl))).length=O:=by rw[mZ];exact s
  have D:N (j<(l.set (j+1) (l.getD j (Q ze.sl))).length)=O:=by rw[mZ];exact t
  by_cases q:lV k (l.getD (j+1) (Q ze.sl)) (l.getD j (Q ze.sl))
  .have d:=CD (l:=l) (i:=j) (j:=j+1) W e W;have w:Ins (qQ k) (dh ((l.set (j+1) (l.getD j (Q ze.sl))).set j (l.getD (j+1) (Q ze.sl)))) a i j:=by
    rw[d];exact n.down W x (E9 q)
   have⟨c,p,E,H,P⟩:=G j _ (by simpa using F) W sg W w;refine⟨c,p.trans (jf W e _),?_,H,((zH.of ?_).trans P).mono W⟩
   .rw[d]at E;exact(zf5 W W W W).trans E
   have v:N (LT.lt (α:=Int) (aG (e7 k (l.getD (j+1) (Q ze.sl))) (e7 k (l.getD j (Q ze.sl)))) 0)=O:=zB q;simp only[kO,Q8,B,aJ];rw[fa,ip];simp only[y,z,A,s,t,v,C,D,aN,ov,zj]
  .refine⟨l,.refl l,Bh.refl,n.done (oL k) x (.inr ⟨W,pO.2 q⟩),(zH.of ?_).mono W⟩;have v:N (LT.lt (α:=Int) (aG (e7 k (l.getD (j+1) (Q ze.sl))) (e7 k (l.getD j (Q ze.sl)))) 0)=S:=aC q;simp only[kO,Q8,B,aJ];rw[fa,ip];simp only[y,z,A,s,t,v,C,D,aN,ov,zj,zC,zm,zu i um]
theorem Wg(a b:Nat)(k:Int):∀(m i:Nat)(l:List zr),X l<=1000->b<=X l->b-i=m->a<=i->Up (qQ k) (dh l) a i->
  ∃x,x.Perm l/\Bh (dh l) (dh x) a b/\Up (qQ k) (dh x) a b/\zU kO (m*1002+1) (.h1 (a:Int) (b:Int) k (i:Int) l) (.tup [],[.vec ze.sl x]):=by
 intro m
 induction m with
 | zero=>
  intro i l d v z w c;refine⟨l,.refl l,Bh.refl,c.part (zQ _) W,(zU.of ?_).mono W⟩;simp only[kO,Q8,eM (show¬i<b by omega),zC,zm]
 | succ m j=>
  intro i l d v z w c;have⟨A,e,n,C,s⟩:=Wh a b i k W (i-a) i l d W W (zQ _) (Ins.start c);have y:=e.length_eq;have⟨x,B,q,D,t⟩:=j (i+1) A W W W W C;refine⟨x,B.trans e,(n.wide (zQ _) W).trans q,D,((zH.of ?_).trans s |>.ends t).mono W⟩;simp only[kO,Q8,zO (show i<b by omega),zj]
theorem KF(l:List zr)(a b:Nat)(k:Int)(j:X l<=1000)(n:a<=X l)(e:b<=X l):∃x,rI l a b k=M x/\x.Perm l/\Bh (dh l) (dh x) a b/\Up (qQ k) (dh x) a b:=by
 have⟨x,p,f,u,c⟩:=Wg a b k (b-(a+1)) (a+1) l j e rfl W (Up.one (zQ _));refine⟨x,?_,p,f,u⟩;have:EY l a b k=M (.tup [],[.vec ze.sl x]):=by
  unfold EY bT N4;rw[zu a um];have d:b-(a+1)<=1000:=by omega
  exact c 100000000 (be (Nat.succ_le_succ (f5 1002 d)) (by decide))
 unfold rI;rw[this];rfl
theorem zf6(f:Nat->zr)(a b n x:Nat)(F:x<=1000)(d:a+n<=b)(G:b+n<=x):∀(m i:Nat)(l:List zr),X l=x->n-i=m->i<=n->dh l=US f a b i->
  ∃c,c.Perm l/\dh c=US f a b n/\zU ym (m+1) (.h1 (a:Int) (b:Int) (n:Int) (i:Int) l) (.tup [],[.vec ze.sl c]):=by
 intro m
 induction m with
 | zero=>
  intro i l s E D e;obtain rfl:i=n:=by omega
  refine⟨l,.refl l,e,zU.of ?_⟩;simp only[ym,Q8,zM,zC,zm]
 | succ m t=>
  intro i l s E D e;have e0:Γ Δ ((b:Int)+(i:Int))=((b+i:Nat):Int):=by rw[wI _ W W];omega
  have v:Γ Δ ((a:Int)+(i:Int))=((a+i:Nat):Int):=by rw[wI _ W W];omega
  have w:zL ((a+i:Nat):Int) (X l)=O:=zx W;have y:zL ((b+i:Nat):Int) (X l)=O:=zx W;have z:N (a+i<X l)=O:=by simp;omega
  have A:N (b+i<X l)=O:=by simp;omega
  have q:=CD (l:=l) (i:=b+i) (j:=a+i) W W W;have⟨c,p,B,C⟩:=t (i+1) ((l.set (a+i) (l.getD (b+i) (Q ze.sl))).set (b+i) (l.getD (a+i) (Q ze.sl))) (by simpa using s) W W (by rw[q,e];exact zch d W);refine⟨c,p.trans (jf (i:=b+i) (j:=a+i) W W _),B,((zH.of ?_).ends C).mono W⟩;simp only[ym,Q8,zO (show i<n by omega),e0,v,w,y,z,A,aJ,mZ,zj,zu i um]
theorem zbT(l:List zr)(a b n:Nat)(k:Int)(q:X l<=1000)(c:a+n<=b)(j:b+n<=X l):∃x,Md l a b n k=M x/\x.Perm l/\dh x=US (dh l) a b n:=by have⟨x,p,d,e⟩:=zf6 (dh l) a b n (X l) q c j n 0 l rfl rfl W zci.symm;refine⟨x,?_,p,d⟩;have:zoJ l a b n k=M (.tup [],[.vec ze.sl x]):=e 100000000 W;unfold Md;rw[this];rfl
theorem zfO(m:Nat)(k:Int)(x:Nat)(P:x<=1000):∀(s i j:Nat)(l:List zr),X l=x->i+j<=s->1<=i->1<=j->i<=m->m+j<=x->
  ∃c,c.Perm l/\dh c=uo (dh l) m i j/\zU sq (s+1) (.h2 (m:Int) k (i:Int) (j:Int) l) (.tup [],[.vec ze.sl c]):=by
 intro s
 induction s with
 |zero=>intro i j l _ h z;omega
 | succ s E=>
  intro i j l U hs z F t H;have e0:Γ Δ ((m:Int)-(i:Int))=((m-i:Nat):Int):=by rw[wI _ W W];omega
  rcases Nat.lt_trichotomy i j with h|h|h
  .have⟨e,q,d,n⟩:=zbT l (m-i) (m+j-i) i k W W W;have A:=d.length_eq;have⟨c,B,C,D⟩:=E i (j-i) e W W z W t W;refine⟨c,B.trans d,by rw[C,n];exact zbC t h z,((zH.of ?_).ends D).mono W⟩;have v:((i:Int)!=(j:Int))=O:=by simp;omega
   have w:N ((i:Int)>(j:Int))=S:=by simp;omega
   have G:Γ Δ (Γ Δ ((m:Int)+(j:Int))-(i:Int))=((m+j-i:Nat):Int):=by rw[wI ((m:Int)+(j:Int)) W W,wI _ W W];omega
   have y:Γ Δ ((j:Int)-(i:Int))=((j-i:Nat):Int):=by rw[wI _ W W];omega
   simp only[sq,Q8,e0,v,w,G,y,q,dv,bI,zj,zC,zm]
  .subst h;have⟨e,q,d,n⟩:=zbT l (m-i) m i k W W W;refine⟨e,d,by rw[n];exact zbE t,(zU.of ?_).mono W⟩;simp only[sq,Q8,e0,fL,q,dv,bI,zj,zC,zm]
  .have⟨e,q,d,n⟩:=zbT l (m-i) m j k W W W;have A:=d.length_eq;have⟨c,B,C,D⟩:=E (i-j) j e W W W F W H;refine⟨c,B.trans d,by rw[C,n];exact zbD t h F,((zH.of ?_).ends D).mono W⟩;have v:((i:Int)!=(j:Int))=O:=by simp;omega
   have w:N ((i:Int)>(j:Int))=O:=by simp;omega
   have y:Γ Δ ((i:Int)-(j:Int))=((i-j:Nat):Int):=by rw[wI _ W W];omega
   simp only[sq,Q8,e0,v,w,y,q,dv,bI,zj]
theorem zv6(l:List zr)(a m b:Nat)(k:Int)(d:X l<=1000)(e:a<m)(n:m<b)(j:b<=X l):∃x,LU l a m b k=M x/\x.Perm l/\dh x=uo (dh l) m (m-a) (b-m):=by
 have⟨x,p,q,c⟩:=zfO m k (X l) d ((m-a)+(b-m)) (m-a) (b-m) l rfl (zQ _) W W W W;refine⟨x,?_,p,q⟩;have:zbB l a m b k=M (.tup [],[.vec ze.sl x]):=by
  unfold zbB bT N5;rw[show Γ Δ ((m:Int)-(a:Int))=((m-a:Nat):Int) by rw[wI _ W W];omega,show Γ Δ ((b:Int)-(m:Int))=((b-m:Nat):Int) by rw[wI _ W W];omega];exact c 100000000 W
 unfold LU;rw[this];rfl
section
variable (o:SM) (k:Int)
theorem zoB(l:List zr)(a m b:Nat)(hn:X l<=1000)(ha:a<m)(hb:b<=X l)(hu:Up (qQ k) (dh l) m b):∀(s i j:Nat),j-i<=s->m<=i->i<=j->j<=b->(∀c,m<=c->c<i->lV k (dh l c) (dh l a))->(∀c,j<=c->c<b->¬lV k (dh l c) (dh l a))->
  ∃x,m<=x/\x<=b/\(∀c,m<=c->c<x->lV k (dh l c) (dh l a))/\(∀c,x<=c->c<b->¬lV k (dh l c) (dh l a))/\zH (cq o) (s+1) (.h3 (a:Int) k (i:Int) (j:Int) l) (.h9 (x:Int) (a:Int) l):=by
 have y:∀c q,m<=q->q<=c->c<b->lV k (dh l c) (dh l a)->lV k (dh l q) (dh l a):=λc q B t C d=>by
  by_cases e:q=c
  .subst e;exact d
  .exact Z8 (hu q c B W C) d
 intro s
 induction s with
 | zero=>
  intro i j B t C d v w;obtain rfl:i=j:=by omega
  refine⟨i,t,d,v,w,zH.of ?_⟩;simp only[cq,Q8,eM (show¬i<i by omega),zC,zm]
 | succ s IH=>
  intro i j B t C d v w;by_cases n:i<j
  case neg=>
   obtain rfl:i=j:=by omega
   refine⟨i,t,d,v,w,(zH.of ?_).mono W⟩;simp only[cq,Q8,eM n,zC,zm]
  have e0:=ni i j W;have D:i<=(i+j)/2/\(i+j)/2<j:=by omega
  generalize(i+j)/2=h at e0 D;have e1:zL ((h:Nat):Int) (X l)=O:=zx W;have e2:N (h<X l)=O:=by simp;omega
  have e3:zL ((a:Nat):Int) (X l)=O:=zx W;have e4:N (a<X l)=O:=by simp;omega
  have⟨w1,w2⟩:=se (P:=λc=>lV k (dh l c) (dh l a)) (lo:=m) (r0:=b) y v w t D.1 D.2 d;by_cases z:lV k (l.getD h (Q ze.sl)) (l.getD a (Q ze.sl))
  .have⟨x,E,F,G,H,U⟩:=IH (h+1) j W W W d (w1 z) w;refine⟨x,E,F,G,H,((zH.of ?_).trans U).mono W⟩;have A:N (LT.lt (α:=Int) (aG (e7 k (l.getD h (Q ze.sl))) (e7 k (l.getD a (Q ze.sl)))) 0)=O:=zB z;simp only[cq,Q8,e0,aJ];rw[fa,ip];simp only[zO n,e1,e2,e3,e4,A,zj,zu h um]
  .have⟨x,E,F,G,H,U⟩:=IH i h W t W W v (w2 z);refine⟨x,E,F,G,H,((zH.of ?_).trans U).mono W⟩;have A:N (LT.lt (α:=Int) (aG (e7 k (l.getD h (Q ze.sl))) (e7 k (l.getD a (Q ze.sl)))) 0)=S:=aC z;simp only[cq,Q8,e0,aJ];rw[fa,ip];simp only[zO n,e1,e2,e3,e4,A,zj,zC,zm]
theorem zoC(f:Nat->zr)(a i x:Nat)(H:x<=1000)(U:i<=x)(P:a<i):∀(s c:Nat)(l:List zr),X l=x->i-c<=s->a<=c->c<i->dh l=Xm f a (c+1)->
  ∃d,d.Perm l/\dh d=Xm f a i/\zU (cq o) (s+1) (.h9 (i:Int) (c:Int) l) (.tup [],[.vec ze.sl d]):=by
 intro s
 induction s with
 |zero=>intro c l _ A _ G;omega
 | succ s t=>
  intro c l D A e C q;by_cases B:c+1<i
  case neg=>
   obtain rfl:i=c+1:=by omega
   refine⟨l,.refl l,q,(zU.of ?_).mono W⟩;have e0:N ((c:Int)<Γ Δ (((c+1:Nat):Int)-1))=S:=by
    rw[wI _ W W];simp only[ef];omega
   simp only[cq,Q8,e0,zC,zm]
  have e0:N ((c:Int)<Γ Δ ((i:Int)-1))=O:=by
   rw[wI _ W W];simp only[ba];omega
  have v:zL ((c+1:Nat):Int) (X l)=O:=zx W;have w:zL ((c:Nat):Int) (X l)=O:=zx W;have y:N (c+1<X l)=O:=by simp;omega
  have z:N (c<X l)=O:=by simp;omega
  have n:=CD (l:=l) (i:=c+1) (j:=c) W W W;have⟨d,p,E,F⟩:=t (c+1) ((l.set c (l.getD (c+1) (Q ze.sl))).set (c+1) (l.getD c (Q ze.sl))) (by simpa using D) W W B (by rw[n,q];exact zgn e);refine⟨d,p.trans (jf (i:=c+1) (j:=c) W W _),E,((zH.of ?_).ends F).mono W⟩;simp only[cq,Q8,e0,zu c um,v,w,y,z,aJ,mZ,zj]
theorem zf0(l:List zr)(a m:Nat)(hn:X l<=1000)(hm:m<X l)(hu:Up (qQ k) (dh l) a m):∀(s i j:Nat),j-i<=s->a<=i->i<=j->j<=m->(∀c,a<=c->c<i->¬lV k (dh l m) (dh l c))->(∀c,j<=c->c<m->lV k (dh l m) (dh l c))->
  ∃x,a<=x/\x<=m/\(∀c,a<=c->c<x->¬lV k (dh l m) (dh l c))/\(∀c,x<=c->c<m->lV k (dh l m) (dh l c))/\zH (cq o) (s+1) (.h15 (m:Int) k (i:Int) (j:Int) l) (.h21 (x:Int) (m:Int) l):=by
 have y:∀c t,a<=t->t<=c->c<m->¬lV k (dh l m) (dh l c)->¬lV k (dh l m) (dh l t):=λc t B v C d n=>by
  by_cases e:t=c
  .subst e;exact d n
  .exact d (zuX n (hu t c B W C))
 intro s
 induction s with
 | zero=>
  intro i j B v C d n w;obtain rfl:i=j:=by omega
  refine⟨i,v,d,n,w,zH.of ?_⟩;simp only[cq,Q8,eM (show¬i<i by omega),zC,zm]
 | succ s IH=>
  intro i j B v C d n w;by_cases q:i<j
  case neg=>
   obtain rfl:i=j:=by omega
   refine⟨i,v,d,n,w,(zH.of ?_).mono W⟩;simp only[cq,Q8,eM q,zC,zm]
  have e0:=ni i j W;have D:i<=(i+j)/2/\(i+j)/2<j:=by omega
  generalize(i+j)/2=h at e0 D;have e1:zL ((h:Nat):Int) (X l)=O:=zx W;have e2:N (h<X l)=O:=by simp;omega
  have e3:zL ((m:Nat):Int) (X l)=O:=zx W;have e4:N (m<X l)=O:=by simp;omega
  have⟨w1,w2⟩:=se (P:=λc=>¬lV k (dh l m) (dh l c)) (lo:=a) (r0:=m) y n (λc x1 x2 x3=>x3 (w c x1 x2)) v D.1 D.2 d;by_cases z:lV k (l.getD m (Q ze.sl)) (l.getD h (Q ze.sl))
  .have⟨x,E,F,G,H,U⟩:=IH i h W v W W n (λc x1 x2=>kz λx3=>w2 (λx4=>x4 z) c x1 x2 x3);refine⟨x,E,F,G,H,((zH.of ?_).trans U).mono W⟩;have A:N (LT.lt (α:=Int) (aG (e7 k (l.getD m (Q ze.sl))) (e7 k (l.getD h (Q ze.sl)))) 0)=O:=zB z;simp only[cq,Q8,e0,aJ];rw[fa,ip];simp only[zO q,e1,e2,e3,e4,A,zj,ce,zC,zm]
  .have⟨x,E,F,G,H,U⟩:=IH (h+1) j W W W d (w1 z) w;refine⟨x,E,F,G,H,((zH.of ?_).trans U).mono W⟩;have A:N (LT.lt (α:=Int) (aG (e7 k (l.getD m (Q ze.sl))) (e7 k (l.getD h (Q ze.sl)))) 0)=S:=aC z;simp only[cq,Q8,e0,aJ];rw[fa,ip];simp only[zO q,e1,e2,e3,e4,A,zj,dj,zu h um]
theorem zf1(f:Nat->zr)(i m x:Nat)(P:x<=1000)(U:m<x):∀(s c:Nat)(l:List zr),X l=x->c-i<=s->i<=c->c<=m->dh l=Xi f c m->
  ∃e,e.Perm l/\dh e=Xi f i m/\zU (cq o) (s+1) (.h21 (i:Int) (c:Int) l) (.tup [],[.vec ze.sl e]):=by
 intro s
 induction s with
 | zero=>
  intro c l v E t d n;obtain rfl:c=i:=by omega
  refine⟨l,.refl l,n,zU.of ?_⟩;have e0:N ((c:Int)>(c:Int))=S:=by simp
  simp only[cq,Q8,e0,zC,zm]
 | succ s w=>
  intro c l v E t d n;by_cases F:i<c
  case neg=>
   obtain rfl:c=i:=by omega
   refine⟨l,.refl l,n,(zU.of ?_).mono W⟩;have e0:N ((c:Int)>(c:Int))=S:=by simp
   simp only[cq,Q8,e0,zC,zm]
  obtain⟨c,rfl⟩:∃y,c=y+1:=⟨c-1,W⟩;have e0:N (((c+1:Nat):Int)>(i:Int))=O:=As F;have z:zL ((c+1:Nat):Int) (X l)=O:=zx W;have A:zL ((c:Nat):Int) (X l)=O:=zx W;have B:N (c+1<X l)=O:=by simp;omega
  have C:N (c<X l)=O:=by simp;omega
  have D:Γ Δ (((c+1:Nat):Int)-1)=(c:Int):=gN c um;have q:=CD (l:=l) (i:=c) (j:=c+1) W W W;have⟨e,p,G,H⟩:=w c ((l.set (c+1) (l.getD c (Q ze.sl))).set c (l.getD (c+1) (Q ze.sl))) (by simpa using v) W W W (by rw[q,n];exact zer d);refine⟨e,p.trans (jf (i:=c) (j:=c+1) W W _),G,((zH.of ?_).ends H).mono W⟩;simp only[cq,Q8,e0,D,z,A,B,C,aJ,mZ,zj]
theorem UB(l:List zr)(a m b mid n p e d:Nat)(hn:X l<=1000)(h0:d<=1000)(hp:p<=2000)(hB:∀c,e<=c->c<d->c+c<p/\p<X l+c)
  (z:∀c A,e<=A->A<=c->c<d->¬lV k (dh l (p-c)) (dh l c)->¬lV k (dh l (p-A)) (dh l A)):∀(s i j:Nat),j-i<=s->e<=i->i<=j->j<=d->
  (∀c,e<=c->c<i->¬lV k (dh l (p-c)) (dh l c))->(∀c,j<=c->c<d->lV k (dh l (p-c)) (dh l c))->
  ∃x,e<=x/\x<=d/\(∀c,e<=c->c<x->¬lV k (dh l (p-c)) (dh l c))/\(∀c,x<=c->c<d->lV k (dh l (p-c)) (dh l c))/\zH (cq o) s (.h33 (a:Int) (m:Int) (b:Int) k (mid:Int) (n:Int) (i:Int) (j:Int) (p:Int) l) (.h33 (a:Int) (m:Int) (b:Int) k (mid:Int) (n:Int) (x:Int) (x:Int) (p:Int) l):=by
 intro s
 induction s with
 | zero=>
  intro i j h1 q h3 t v w;obtain rfl:i=j:=by omega
  exact⟨i,q,t,v,w,zH.refl _⟩
 | succ s IH=>
  intro i j h1 q h3 t v w;by_cases y:i<j
  case neg=>
   obtain rfl:i=j:=by omega
   exact⟨i,q,t,v,w,(zH.refl _).mono W⟩
  have e0:=ni i j W;have D:i<=(i+j)/2/\(i+j)/2<j:=by omega
  generalize(i+j)/2=h at e0 D;have⟨b1,b2⟩:=hB h W W;have e5:Γ Δ ((p:Int)-(h:Int))=((p-h:Nat):Int):=by rw[wI _ W W];omega
  have e1:zL ((h:Nat):Int) (X l)=O:=zx W;have e2:N (h<X l)=O:=by simp;omega
  have e3:zL ((p-h:Nat):Int) (X l)=O:=zx W;have e4:N (p-h<X l)=O:=by simp;omega
  have⟨w1,w2⟩:=se (P:=λc=>¬lV k (dh l (p-c)) (dh l c)) (lo:=e) (r0:=d) z v (λc x1 x2 x3=>x3 (w c x1 x2)) q D.1 D.2 t;by_cases B:lV k (l.getD (p-h) (Q ze.sl)) (l.getD h (Q ze.sl))
  .have⟨x,E,F,G,H,U⟩:=IH i h W q W W v (λc x1 x2=>kz λx3=>w2 (λx4=>x4 B) c x1 x2 x3);refine⟨x,E,F,G,H,((zH.of ?_).trans U).mono W⟩;have C:N (LT.lt (α:=Int) (aG (e7 k (l.getD (p-h) (Q ze.sl))) (e7 k (l.getD h (Q ze.sl)))) 0)=O:=zB B;simp only[cq,Q8,e0,e5,aJ];rw[fa,ip];simp only[zO y,e1,e2,e3,e4,C,zj,ce,zC,zm]
  .have⟨x,E,F,G,H,U⟩:=IH (h+1) j W W W t (w1 B) w;refine⟨x,E,F,G,H,((zH.of ?_).trans U).mono W⟩;have C:N (LT.lt (α:=Int) (aG (e7 k (l.getD (p-h) (Q ze.sl))) (e7 k (l.getD h (Q ze.sl)))) 0)=S:=aC B;simp only[cq,Q8,e0,e5,aJ];rw[fa,ip];simp only[zO y,e1,e2,e3,e4,C,zj,dj,zu h um]
end
def Dx(k:Int)(a b:Nat)(l x:List zr):Prop:=x.Perm l/\Bh (dh l) (dh x) a b/\Up (qQ k) (dh x) a b
section
variable (o:SM) (k:Int)
theorem UA{D:Nat}(hO:∀(l:List zr)(a m b:Nat),X l<=1000->a<m->m<b->b<=X l->b-a<=D->Up (qQ k) (dh l) a m->Up (qQ k) (dh l) m b->∃E,o l a m b k=M E/\Dx k a b l E)
  (l:List zr) (a m b mid n st en:Nat) (p:Int) (hn:X l<=1000) (hb:b<=X l) (he:n=st+en) (h8:n<=2000) (h9:n=mid+m)
  (h1:a<=st) (h2:en<=b) (h3:mid-a<=D) (h4:b-mid<=D) (h5:mid<=b) (hs:st<=m) (hm:m<=en) (h0:a<=mid)
  (u1:Up (qQ k) (dh l) a m) (u2:Up (qQ k) (dh l) m b) (d1:st=a\/en=b\/qQ k (dh l (st-1)) (dh l en)) (d2:st=m\/en=m\/qQ k (dh l (en-1)) (dh l st)):
  ∃E,Dx k a b l E/\(cq o (.h33 (a:Int) (m:Int) (b:Int) k (mid:Int) (n:Int) (st:Int) (st:Int) p l)).val=M (.inr (.tup [],[.vec ze.sl E])):=by
 have e0:Γ Δ ((n:Int)-(st:Int))=(en:Int):=by rw[wI _ W W];omega
 have e1:N ((st:Int)<(st:Int))=S:=by simp
 obtain⟨d,p1,H,B⟩:∃d,d.Perm l/\dh d=uo (dh l) m (m-st) (en-m)/\(ite (st<m/\m<en) (LU l st m en k=M d) (d=l)):=by
  by_cases h:st<m/\m<en
  .have⟨d,v,w,q3⟩:=zv6 l st m en k hn h.1 h.2 W;exact⟨d,w,q3,by rw[zf h];exact v⟩
  .refine⟨l,.refl l,?_,by rw[zh h]⟩;funext t;unfold uo;split
   .congr 1;omega
   .split
    .congr 1;omega
    .rfl
 have h6:=p1.length_eq;have g1:∀i,i<st->dh d i=dh l i:=λi hi=>by
  rw[H];unfold uo;rw[zh W,zh W]
 have g2:∀i,st<=i->i<mid->dh d i=dh l (i+(m-st)):=λi v w=>by
  rw[H];unfold uo;rw[zf W]
 have g3:∀i,mid<=i->i<en->dh d i=dh l (i-(en-m)):=λi v w=>by
  rw[H];unfold uo;rw[zh W,zf W]
 have g4:∀i,en<=i->dh d i=dh l i:=λi hi=>by
  rw[H];unfold uo;rw[zh W,zh W]
 have U:Bh (dh l) (dh d) a b:=by
  refine⟨λi hi=>?_,λi v w=>?_⟩
  .by_cases c:i<st
   .exact g1 i c
   .exact g4 i W
  .by_cases c:i<st
   .exact⟨i,v,w,g1 i c⟩
   .by_cases c':i<mid
    .exact⟨_,W,W,g2 i W c'⟩
    .by_cases P:i<en
     .exact⟨_,W,W,g3 i W P⟩
     .exact⟨i,v,w,g4 i W⟩
 have⟨w1,w2,w3,w4,w5⟩:=Wu (oL k) u1 u2 (by omega:st+en=mid+m) h1 hs hm h2 d1 d2 g1 g2 g3 g4;obtain⟨j,C,z⟩:∃j,Dx k a mid d j/\(ite (a<st/\st<mid) (o d a st mid k=M j) (j=d)):=by
  by_cases h:a<st/\st<mid
  .have⟨j,v,w⟩:=hO d a st mid W h.1 h.2 W h3 w1 w2;exact⟨j,w,by rw[zf h];exact v⟩
  .refine⟨d,⟨.refl d,Bh.refl,?_⟩,by rw[zh h]⟩;by_cases c:a<st
   .have:mid<=st:=by omega
    exact w1.part (zQ _) W
   .exact w2.part W (zQ _)
 have h7:=C.1.length_eq;have F:Up (qQ k) (dh j) mid en:=w3.same λi v w=>C.2.1.1 i W
 have G:Up (qQ k) (dh j) en b:=w4.same λi v w=>C.2.1.1 i W
 obtain⟨A,p5,e⟩:∃A,Dx k mid b j A/\(ite (mid<en/\en<b) (o j mid en b k=M A) (A=j)):=by
  by_cases h:mid<en/\en<b
  .have⟨A,v,w⟩:=hO j mid en b W h.1 h.2 W h4 F G;exact⟨A,w,by rw[zf h];exact v⟩
  .refine⟨j,⟨.refl j,Bh.refl,?_⟩,by rw[zh h]⟩;by_cases c:mid<en
   .exact F.part (zQ _) W
   .exact G.part W (zQ _)
 have⟨x1,x2⟩:=Rs w5 h0 h5 C.2.1 C.q p5.2.1 p5.q;refine⟨A,⟨(p5.1.trans C.1).trans p1,U.trans x2,x1⟩,?_⟩;simp only[cq,Q8,e0,e1,S1,zC,zm];by_cases y:st<m/\m<en
 .rw[zf y]at B;by_cases s:a<st/\st<mid
  .rw[zf s]at z;by_cases x:mid<en/\en<b
   .rw[zf x]at e;simp only[zB y,zB s,zB x,B,z,e,dv,bI,zj]
   .rw[zh x]at e;subst e;simp only[zB y,zB s,aC x,B,z,dv,bI,zj,zC,zm]
  .rw[zh s]at z;subst z;by_cases x:mid<en/\en<b
   .rw[zf x]at e;simp only[zB y,aC s,zB x,B,e,dv,bI,zj,zC,zm]
   .rw[zh x]at e;subst e;simp only[zB y,aC s,aC x,B,dv,bI,zj,zC,zm]
 .rw[zh y]at B;subst B;by_cases s:a<st/\st<mid
  .rw[zf s]at z;by_cases x:mid<en/\en<b
   .rw[zf x]at e;simp only[aC y,zB s,zB x,z,e,dv,bI,zj,zC,zm]
   .rw[zh x]at e;subst e;simp only[aC y,zB s,aC x,z,dv,bI,zj,zC,zm]
  .rw[zh s]at z;subst z;by_cases x:mid<en/\en<b
   .rw[zf x]at e;simp only[aC y,aC s,zB x,e,dv,bI,zj,zC,zm]
   .rw[zh x]at e;subst e;simp only[aC y,aC s,aC x,zC,zm]
end
theorem zoD(k:Int):∀(x:Nat)(l:List zr)(a m b:Nat),X l<=1000->a<m->m<b->b<=X l->b-a<=2^x->Up (qQ k) (dh l) a m->Up (qQ k) (dh l) m b->∃q,uT x l a m b k=M q/\Dx k a b l q
 |0,_,a,m,b,_,h1,h2,_,h4,_,_=>by simp at h4;omega
 | x + 1,l,a,m,b,z,h1,h2,h3,h4,H,P=>by
  have hO:=zoD k x;have e0:Γ Δ ((m:Int)-(a:Int))=((m-a:Nat):Int):=by rw[wI _ W W];omega
  have e1:Γ Δ ((b:Int)-(m:Int))=((b-m:Nat):Int):=by rw[wI _ W W];omega
  by_cases c1:m-a=1
  .obtain rfl:m=a+1:=by omega
   have⟨U,q1,B,D,E,F⟩:=zoB (uT x) k l a (a+1) b z h1 h3 P (b-(a+1)) (a+1) b (zQ _) (zQ _) W (zQ _) (λc d j=>by omega) (λc d j=>by omega);have⟨q,G,t,r3⟩:=zoC (uT x) (dh l) a U (X l) z W W (U-a) a l rfl (zQ _) (zQ _) W zgo.symm;refine⟨q,sf ?_,G,by rw[t];exact zoP W B,by rw[t];exact zwn P W B (λc d j=>E9 (D c d j)) λc d j=>pO.2 (E c d j)⟩;have n:(((a+1-a:Nat):Int)==1)=O:=by rw[c1];rfl
   unfold bT;simp only[qB,Q8,e0,n,zj];exact(F.ends r3) 100000000 W
  have n:(((m-a:Nat):Int)==1)=S:=by simp;omega
  by_cases c2:b-m=1
  .obtain rfl:b=m+1:=by omega
   have⟨U,q1,B,D,E,F⟩:=zf0 (uT x) k l a m z W H (m-a) a m (zQ _) (zQ _) W (zQ _) (λc d j=>by omega) (λc d j=>by omega);have⟨q,G,t,r3⟩:=zf1 (uT x) (dh l) U m (X l) z W (m-U) m l rfl (zQ _) B (zQ _) zes.symm;refine⟨q,sf ?_,G,by rw[t];exact zmp q1 B W,by rw[t];exact zsz H q1 B (λc d j=>pO.2 (D c d j)) λc d j=>E9 (E c d j)⟩;have s:(((m+1-m:Nat):Int)==1)=O:=by rw[c2];rfl
   unfold bT;simp only[qB,Q8,e0,e1,n,s,zj,zC,zm];exact(F.ends r3) 100000000 W
  have s:(((b-m:Nat):Int)==1)=S:=by simp;omega
  have e2:=ni a b W;have w:a<=(a+b)/2/\(a+b)/2<=b/\2*((a+b)/2)<=a+b/\a+b<=2*((a+b)/2)+1:=by omega
  generalize(a+b)/2=mid at e2 w;have⟨g1,g2,g3,g4⟩:=w;have hD:mid-a<=2^x/\b-mid<=2^x:=by rw[pm]at h4;omega
  have e3:Γ Δ ((mid:Int)+(m:Int))=((mid+m:Nat):Int):=by rw[wI _ W W];omega
  have e4:Γ Δ (((mid+m:Nat):Int)-1)=((mid+m-1:Nat):Int):=by rw[wI _ W W];omega
  have A:∀lo r0,a<=lo->r0<=m->r0<=mid->mid+m<=lo+b->∀c v,lo<=v->v<=c->c<r0->¬lV k (dh l (mid+m-1-c)) (dh l c)->¬lV k (dh l (mid+m-1-v)) (dh l v):=λlo r0 y1 y2 y3 y4 c v d j x3 x4=>by
   by_cases e:v=c
   .subst e;exact x4
   .have z1:=H v c W W W;have z2:=P (mid+m-1-c) (mid+m-1-v) W W W;exact pO.1 (oL k _ _ _ z1 (oL k _ _ _ (pO.2 x4) z2))
  by_cases c3:mid<m
  .have e5:Γ Δ (((mid+m:Nat):Int)-(b:Int))=((mid+m-b:Nat):Int):=by rw[wI _ W W];omega
   have C:N ((m:Int)>(mid:Int))=O:=As c3;have⟨st,q1,B,D,E,F⟩:=UB (uT x) k l a m b mid (mid+m) (mid+m-1) (mid+m-b) mid z W W (λc H P=>by omega) (A _ _ W W W W) (mid-(mid+m-b)) (mid+m-b) mid (zQ _) (zQ _) W (zQ _) (λc d j=>by omega) (λc d j=>by omega);have⟨q,G,t⟩:=UA (uT x) k hO l a m b mid (mid+m) st (mid+m-st) ((mid+m-1:Nat):Int) z h3 W W rfl W W hD.1 hD.2 g2 W W g1 H P (by
    by_cases y:st=mid+m-b
    .exact .inr (.inl W)
    .have:=D (st-1) W W;rw[show mid+m-1-(st-1)=mid+m-st by omega]at this;exact .inr (.inr (pO.2 this))) (by
    by_cases y:st=mid
    .exact .inr (.inl W)
    .have:=E st (zQ _) W;rw[show mid+m-1-st=mid+m-st-1 by omega]at this;exact .inr (.inr (E9 this)))
   refine⟨q,sf ?_,G⟩;unfold bT;simp only[qB,Q8,e0,e1,e2,e3,e4,e5,n,s,C,zj,zC,zm];exact(F.ends (zU.of t)) 100000000 W
  .have C:N ((m:Int)>(mid:Int))=S:=by simp;omega
   have⟨st,q1,B,D,E,F⟩:=UB (uT x) k l a m b mid (mid+m) (mid+m-1) a m z W W (λc H P=>by omega) (A _ _ W W W W) (m-a) a m (zQ _) (zQ _) W (zQ _) (λc d j=>by omega) (λc d j=>by omega);have⟨q,G,t⟩:=UA (uT x) k hO l a m b mid (mid+m) st (mid+m-st) ((mid+m-1:Nat):Int) z h3 W W rfl W W hD.1 hD.2 g2 W W g1 H P (by
    by_cases y:st=a
    .exact .inl y
    .have:=D (st-1) W W;rw[show mid+m-1-(st-1)=mid+m-st by omega]at this;exact .inr (.inr (pO.2 this))) (by
    by_cases y:st=m
    .exact .inl y
    .have:=E st (zQ _) W;rw[show mid+m-1-st=mid+m-st-1 by omega]at this;exact .inr (.inr (E9 this)))
   refine⟨q,sf ?_,G⟩;unfold bT;simp only[qB,Q8,e0,e1,e2,e3,e4,n,s,C,zj,zC,zm];exact(F.ends (zU.of t)) 100000000 W
section
variable {l:List (J zl)} {p:J an} {u:J ze} {acc:List (J ze)} {i:Nat}
end
section
variable {db:List (J zl)} {p:J an}
end
section
variable {α:Type} {k:α->J ze}
theorem sZ{l:List α}(d:∀x∈l,bf (k x)=O):qu k (jj k l):=by
 have e:∀(l acc:List α),(∀x∈l++acc,bf (k x)=O)->qu k acc->qu k (l.foldl (λacc j=>Cg k j acc) acc):=by
  intro l
  induction l with
  |nil=>intro acc _ h;exact h
  | cons a r n=>
   intro acc d h;refine n _ (λx c=>?_) (I1 (λx c=>d x (by simp at c|-;rcases c with h|h<;>simp[h])) h);rcases cZ.1 c with c|c
   .exact d x (by simp[c])
   .have:=(I0 a acc).mem_iff.1 c;refine d x ?_;simp at this|-;rcases this with h|h<;>simp[h]
 exact e l [] (by simpa using d) .nil
theorem Gl:∀{l m:List α},l.Perm m->qu k l->qu k m->(∀a∈l,∀b∈l,Fa (k a) (k b)=O->Fa (k b) (k a)=O->a=b)->l=m
 |[],m,c,_,_,_=>(List.nil_perm.1 c).symm
 | a::r,m,c,hl,hm,he=>by
  match m,c,hm with
  |[],c,_=>exact zz c sw
  | b::s,c,hm=>
   have⟨t,v⟩:=List.pairwise_cons.1 hl;have⟨w,z⟩:=List.pairwise_cons.1 hm;have d:a=b:=by
    have j:a∈b::s:=c.mem_iff.1 sw;have e:b∈a::r:=c.mem_iff.2 sw;rcases bX.1 j with h|h
    .exact h
    rcases bX.1 e with g|g
    .exact g.symm
    exact he a sw b e (t b g) (w a h)
   subst d;rw[Gl ((List.perm_cons a).1 c) v z λx n y q=>he x (by simp[n]) y (by simp[q])]
end
section
variable {K:Int} {l m:List (List (J ze))}
theorem ZJ(x:∀r∈l,bf (zN K r)=O)(n:qT K l)(d:l.Perm m):jj (zN K) l=jj (zN K) m:=by
 refine Gl ((eI l).trans (d.trans (eI m).symm)) (sZ x) (sZ λr s=>x r (d.mem_iff.2 s)) λa q b c e j=>?_
 have q:=(eI l).mem_iff.1 q;have c:=(eI l).mem_iff.1 c;refine HZ n q c ?_;rcases(gQ (x a q) (x b c)).1 e with h|h
 .rcases(gQ (x b c) (x a q)).1 j with g|g
  .exact zz (dZ h g) (by unfold ph;rw[AJ];omega)
  .exact g.symm
 .exact h
end
section
variable {db:List (J zl)} {p:J an} {us:List (J ze)}
theorem zfc(h:aH db p)(m:jH db p)(C:dt p.r.1=O)(D:p.r.1.r.1=[])(A:us.Nodup)(B:∀u∈us,u∈ay p (zI db p)):dV (p.r.1,jj (zN p.r.1.q.1) (us.flatMap (bV db p))):=by
 have z:∀r∈us.flatMap (bV db p),cR p.r.1 r=(0:Int)/\qt p.r.1.q.1 r:=λr j=>by
  have⟨u,_,w⟩:=wl.1 j;exact⟨(oH h m r w).1,(oH h m r w).2.1⟩
 have n:qT p.r.1.q.1 (jj (zN p.r.1.q.1) (us.flatMap (bV db p))):=P2 (eI _).symm (nD h m A B);have e:∀r∈us.flatMap (bV db p),bf (zN p.r.1.q.1 r)=O:=λr j=>(z r j).r
 have s:=sZ e;have d:(jj (zN p.r.1.q.1) (us.flatMap (bV db p))).length<=200:=by rw[(eI _).length_eq];exact(lO h us A).1
 have c:∀r∈jj (zN p.r.1.q.1) (us.flatMap (bV db p)),cR p.r.1 r=(0:Int)/\bf (zN p.r.1.q.1 r)=O:=λr j=>⟨(z r ((eI _).mem_iff.1 j)).1,e r ((eI _).mem_iff.1 j)⟩
 generalize jj (zN p.r.1.q.1) (us.flatMap (bV db p))=x at n s d c|-;refine⟨C,d,λr j=>(c r j).1,(by unfold qY;refine List.Pairwise.imp ?_ n;intro a b q _;exact q),λu q=>(by rw[D]at q;cases q),λi y=>?_⟩;have t:i<X x:=by have:i<X x-1:=y;omega
 have v:i+1<X x:=by have:i<X x-1:=y;omega
 show ph (zN p.r.1.q.1 (x.getD i (Q ze.sl))) (zN p.r.1.q.1 (x.getD (i+1) (Q ze.sl)));rw[pG _ _ t,pG _ _ v];rcases(gQ (c _ (bp t)).2 (c _ (bp v)).2).1 (List.pairwise_iff_getElem.1 s i (i+1) t v W)with q|q
 .exact q
 .exact zz q (List.pairwise_iff_getElem.1 n i (i+1) t v W)
theorem RE{s:zP}(e:(bm db s).1=0):(bm db s).t.1.r.1=[]/\(bm db s).t.1.t.1=[]:=by
 have⟨j,_,_,_,_,c⟩:=xq e;have x:(cJ db s).1=0:=by rw[<-c];exact e
 rw[c];unfold cJ at x|-;rcases j with d|d|d
 .rw[zf (by simp[d])]at x|-;rw[(gh x).2];exact⟨rfl,rfl⟩
 .rw[zh (by simp[d]),zf (by simp[d])]at x|-;rw[(gh x).2];exact⟨rfl,rfl⟩
 .rw[zh (by simp[d]),zh (by simp[d]),zf (by simp[d])]at x|-;rw[(gh x).2];exact⟨rfl,rfl⟩
end
def Blk(k:Int)(c n:Nat)(l:List zr):Prop:=∀x,c∣x->Up (qQ k) (dh l) x (min (x+c) n)
theorem zwd(k:Int)(d e:Nat)(hn:d<=1000)(hb:1<=e)(h0:e<=1000):∀(s a:Nat)(l:List zr),X l=d->d-a<=s->a<=d->2*e∣a->
  (∀x,x<a->2*e∣x->Up (qQ k) (dh l) x (min (x+2*e) d))->(∀x,a<=x->e∣x->Up (qQ k) (dh l) x (min (x+e) d))->
  ∃z,z.Perm l/\Blk k (2*e) d z/\zH eS (s+1) (.h9 (d:Int) k (e:Int) (a:Int) ((a+2*e:Nat):Int) l) (.h7 (d:Int) k ((2*e:Nat):Int) z):=by
 have q:∀x a,2*e∣x->2*e∣a->a<x->a+2*e<=x:=λx a t v h3=>by
  have:=Nat.le_of_dvd W (Nat.dvd_sub t v);omega
 have j:∀(l:List zr)(a:Nat),2*e∣a->d<=a+2*e->(∀x,x<a->2*e∣x->Up (qQ k) (dh l) x (min (x+2*e) d))->Up (qQ k) (dh l) a d->Blk k (2*e) d l:=λl a G hN t v x hx=>by
  rcases Nat.lt_trichotomy x a with c|c|c
  .exact t x c hx
  .subst c;exact v.part (zQ _) W
  .have:=q x a hx G c;exact Up.one W
 have F:∀a,2*e∣a->e∣a:=λa h=>Nat.dvd_trans (Nat.dvd_mul_left e 2) h
 intro s
 induction s with
 | zero=>
  intro a l hl hs G n t v;refine⟨l,.refl l,j l a n W t ((v a (zQ _) (F a n)).part (zQ _) W),zH.of ?_⟩;have e0:Γ Δ ((a:Int)+(e:Int))=((a+e:Nat):Int):=by rw[wI _ W W];omega
  have A:Γ Δ ((e:Int)*2)=((2*e:Nat):Int):=by rw[wI _ W W];omega
  have y:N (((a+2*e:Nat):Int)<=(d:Int))=S:=by simp;omega
  simp only[eS,Q8,e0,A,y,eM (show¬a+e<d by omega),zC,zm]
 | succ s IH=>
  intro a l hl hs G n t v;have e0:Γ Δ ((a:Int)+(e:Int))=((a+e:Nat):Int):=by rw[wI _ W W];omega
  have A:Γ Δ ((e:Int)*2)=((2*e:Nat):Int):=by rw[wI _ W W];omega
  have e3:Γ Δ (((a+2*e:Nat):Int)+Γ Δ (2*(e:Int)))=((a+2*e+2*e:Nat):Int):=by rw[wI (2*(e:Int)) W W,wI _ W W];omega
  have U:=v a (zQ _) (F a n);have ub:=v (a+e) W (Nat.dvd_add (F a n) (Nat.dvd_refl e));by_cases c1:a+2*e<=d
  .have⟨C,P,D,B,H⟩:=zoD k 16 l a (a+e) (a+2*e) W W W W sg (U.part (zQ _) W) (ub.part (zQ _) W);have h4:=D.length_eq;have⟨z,p2,q3,q4⟩:=IH (a+2*e) C W W c1 (Nat.dvd_add n (Nat.dvd_refl _)) (λx x1 w=>by
    by_cases c:x<a
    .have:=q a x n w c;exact(t x c w).same λi y1 y2=>B.1 i W
    .obtain rfl:x=a:=by
      rcases Nat.lt_or_ge a x with c'|c'
      .have:=q x a w n c';omega
      .omega
     exact H.part (zQ _) W) (λx x1 w=>(v x W w).same λi y1 y2=>B.1 i W)
   refine⟨z,p2.trans D,q3,((zH.of ?_).trans q4).mono W⟩;have y:N (((a+2*e:Nat):Int)<=(d:Int))=O:=by simp;omega
   simp only[eS,Q8,e0,y,e3,P,dv,bI,zj]
  .have y:N (((a+2*e:Nat):Int)<=(d:Int))=S:=by simp;omega
   by_cases E:a+e<d
   .have⟨C,P,D,B,H⟩:=zoD k 16 l a (a+e) d W W E W sg (U.part (zQ _) W) (ub.part (zQ _) W);refine⟨C,D,j C a n W (λx c w=>?_) H,(zH.of ?_).mono W⟩
    .have:=q a x n w c;exact(t x c w).same λi y1 y2=>B.1 i W
    simp only[eS,Q8,e0,A,y,zO E,P,dv,bI,zj,zC,zm]
   .refine⟨l,.refl l,j l a n W t (U.part (zQ _) W),(zH.of ?_).mono W⟩;simp only[eS,Q8,e0,A,y,eM E,zC,zm]
theorem zwc(k:Int)(d:Nat)(A:d<=1000):∀(s e:Nat)(l:List zr),X l=d->d-e<=s->1<=e->Blk k e d l->
  ∃j,j.Perm l/\Up (qQ k) (dh j) 0 d/\zU eS (s*1002+1) (.h7 (d:Int) k (e:Int) l) (.tup [],[.vec ze.sl j]):=by
 intro s
 induction s with
 | zero=>
  intro e l t B q n;refine⟨l,.refl l,(n 0 (Nat.dvd_zero _)).part (zQ _) W,(zU.of ?_).mono W⟩;simp only[eS,Q8,eM (show¬e<d by omega),zC,zm]
 | succ s w=>
  intro e l t B q n;by_cases c:e<d
  case neg=>
   refine⟨l,.refl l,(n 0 (Nat.dvd_zero _)).part (zQ _) W,(zU.of ?_).mono W⟩;simp only[eS,Q8,eM c,zC,zm]
  have⟨C,v,E,F⟩:=zwd k d e A q W d 0 l t W W (Nat.dvd_zero _) (λx h=>by omega) (λx _ h=>n x h);have z:=v.length_eq;have⟨j,D,G,H⟩:=w (2*e) C W W W E;refine⟨j,D.trans v,G,(((zH.of ?_).trans F).ends H).mono W⟩;have y:Γ Δ (2*(e:Int))=((0+2*e:Nat):Int):=by rw[wI _ W W];omega
  simp only[eS,Q8,zO c,y,zj];rfl
theorem zwb(k:Int)(d:Nat)(hn:d<=1000):∀(s a:Nat)(l:List zr),X l=d->d-a<=s->a<=d->20∣a->(∀x,x<a->20∣x->Up (qQ k) (dh l) x (min (x+20) d))->
  ∃y,y.Perm l/\Blk k 20 d y/\zH eS (s+1) (.h2 (d:Int) k 20 (a:Int) ((a+20:Nat):Int) l) (.h7 (d:Int) k 20 y):=by
 have j:∀(a:Nat)(l e:List zr),20∣a->d<a+20->(∀x,x<a->20∣x->Up (qQ k) (dh l) x (min (x+20) d))->Bh (dh l) (dh e) a d->Up (qQ k) (dh e) a d->Blk k 20 d e:=λa l e B hN t n q x P=>by
  rcases Nat.lt_trichotomy x a with c|c|c
  .have:x+20<=a:=by omega
   exact(t x c P).same λi y1 y2=>n.1 i W
  .subst c;exact q.part (zQ _) W
  .exact Up.one W
 intro s
 induction s with
 | zero=>
  intro a l F H B A t;have⟨e,z,v,n,q⟩:=KF l a d k W W W;refine⟨e,v,j a l e A W t n q,zH.of ?_⟩;have w:N (((a+20:Nat):Int)<=(d:Int))=S:=by simp;omega
  simp only[eS,Q8,w,z,dv,bI,zj,zC,zm]
 | succ s C=>
  intro a l F H B A t;by_cases c:a+20<=d
  .have⟨e,z,v,n,q⟩:=KF l a (a+20) k W W W;have G:=v.length_eq;have⟨y,U,q3,q4⟩:=C (a+20) e W W c W (λx x1 x2=>by
    by_cases D:x<a
    .exact(t x D x2).same λi y1 y2=>n.1 i W
    .obtain rfl:x=a:=by omega
     exact q.part (zQ _) W)
   refine⟨y,U.trans v,q3,((zH.of ?_).trans q4).mono W⟩;have w:N (((a+20:Nat):Int)<=(d:Int))=O:=by simp;omega
   have E:Γ Δ (((a+20:Nat):Int)+20)=((a+20+20:Nat):Int):=by rw[wI _ W W];omega
   simp only[eS,Q8,w,E,z,dv,bI,zj]
  .have⟨e,z,v,n,q⟩:=KF l a d k W W W;refine⟨e,v,j a l e A W t n q,(zH.of ?_).mono W⟩;have w:N (((a+20:Nat):Int)<=(d:Int))=S:=by simp;omega
   simp only[eS,Q8,w,z,dv,bI,zj,zC,zm]
theorem zoG(k:Int)(l:List zr)(d:X l<=1000):∃c,GC l (X l:Int) k=M c/\c.Perm l/\Up (qQ k) (dh c) 0 (X l):=by
 have⟨n,e,s,t⟩:=zwb k (X l) d (X l) 0 l rfl W W (Nat.dvd_zero _) λx h=>by omega
 have⟨c,q,v,w⟩:=zwc k (X l) d (X l) 20 n e.length_eq W W s;refine⟨c,?_,q.trans e,v⟩;have:zbS l (X l:Int) k=M (.tup [],[.vec ze.sl c]):=by
  have j:=f5 1002 d;exact(t.ends w) 100000000 (by
   refine be (Nat.add_le_add (Nat.succ_le_succ j) (Nat.succ_le_succ d)) (by decide))
 unfold GC;rw[this];rfl
theorem zf2(k:Int)(l:List zr)(c:X l<=1000):∃x,si l k=M x/\x.Perm l/\Up (qQ k) (dh x) 0 (X l):=by
 have⟨x,q,d,e⟩:=zoG k l c;refine⟨x,?_,d,e⟩;have:GB l k=M (.tup [],[.vec ze.sl x]):=by
  unfold GB bT;simp only[N2,Q8,q,dv,bI,zj]
 unfold si;rw[this];rfl
theorem Se{K:Int}(d:x.Perm l)(E:Up (qQ K) (dh x) 0 (X l))(w:∀r∈l,qt K r)(D:qT K l):x=jj (zN K) l:=by
 have c:∀r∈l,bf (zN K r)=O:=λr e=>(w r e).q
 have y:∀r∈x,ak (e7 K r)=zN K r:=λr e=>by
  have h:=w r (d.mem_iff.1 e);rw[zfZ h.1];unfold ak;rw[h.q];rfl
 have e:qu (zN K) x:=by
  refine List.pairwise_iff_getElem.2 λi j v t s=>?_
  have h:=E i j (aK _) s (by rw[<-d.length_eq];exact t);have z:dh x i=x[i]:=pG _ _ v;have A:dh x j=x[j]:=pG _ _ t;rw[z,A]at h;unfold qQ leO at h;rw[y _ (bp v),y _ (bp t)]at h;exact h
 refine Gl (d.trans (eI l).symm) e (sZ c) λa q b n B C=>?_
 have q:=d.mem_iff.1 q;have n:=d.mem_iff.1 n;refine HZ D q n ?_;rcases(gQ (c a q) (c b n)).1 B with h|h
 .rcases(gQ (c b n) (c a q)).1 C with g|g
  .exact zz (dZ h g) (by unfold ph;rw[AJ];omega)
  .exact g.symm
 .exact h
theorem zfJ{c:ae}(A:Ni c=O)(B:X c.2<=1000)(E:c.2≠[]->dt c.1=O)(D:∀r∈c.2,qt c.1.q.1 r)(C:qT c.1.q.1 c.2):AY c=M ((c.1,jj (zN c.1.q.1) c.2),()):=by
 by_cases y:c.2=[]
 .have⟨j,z,n,_⟩:=zbt A B;rw[y]at n;rw[z,List.perm_nil.1 n,y];rfl
 have⟨j,z,n,F⟩:=zf2 c.1.q.1 c.2 B;have e:=Se n F D C;subst e;have w:∀j:List zr,bb [AO.vec zn c.1.2.1,AO.vec zk c.1.r.1,AO.vec zG c.1.t.1,AO.vec ze.sl j] [zl] (agg [I c.1.1,AV.vec 0,L c.1.q.1,AV.vec 1,AV.vec 2,I (zg.op c.1.u),L (zg.v c.1.u).1,L (zg.v c.1.u).2.1,I (zg.v c.1.u).q,I (zg.s c.1.u),T Sh.expr (zg.l c.1.u),AV.vec 3])=M (((c.1,j):ae),()):=by
  intro j;have⟨⟨a,b,x,d,e,f⟩,r⟩:=c;cases f;rfl
 refine zR (r:=(_,_)) ?_ (w _);simp only[ze2,Q8,zo,bh,A,E y,z,dv,bI,ce,zC,zj,zm]
def ztl:Tr (Empty⊕az):=
 chk O
 (chk O
  (chk O (chk O (chk O (br S (re (kb S) []) (chk O (chk O (chk O (re (AV.bool O) [])))))))))
def Ct:=ar [Q7] t0 100000000 (ztl)
def SX:=(Ct).isSome
def J3:=o1 (Ct)
def zph:=FT [] [Q7] λ_=>Ct
theorem zjU:FK 11 zph:=IE.T1 (f:=Tryz.f11) (keep:=k0) (e:=e0)
def zit:=zis.add 11 zph
theorem IF:zw zit:=IE.add zjU
abbrev zud:=kG [(4,[2,3,5]),(9,[2,3,6]),(14,[2,3,7])]
inductive G8 where
 |h4 (i5:Int) (z0:zq [CP.d ab]) (z1:zq [CP.d ab])
 |h9 (i6:Int) (z0:zq [CP.d ab]) (z1:zq [CP.d ab])
 |h14 (i7:Int) (z0:zq [CP.d ab]) (z1:zq [CP.d ab])
abbrev zw6:G8->Nat×St
 |.h4 c z x=>(4,⟨tm 106 [(2,ptr 0 0),(3,ptr 1 0),(5,L c)],[AO.box (bF [] [CP.d ab] z),AO.box (bF [] [CP.d ab] x)]⟩)
 |.h9 e z x=>(9,⟨tm 106 [(2,ptr 0 0),(3,ptr 1 0),(6,L e)],[AO.box (bF [] [CP.d ab] z),AO.box (bF [] [CP.d ab] x)]⟩)
 |.h14 j z x=>(14,⟨tm 106 [(2,ptr 0 0),(3,ptr 1 0),(7,L j)],[AO.box (bF [] [CP.d ab] z),AO.box (bF [] [CP.d ab] x)]⟩)
def zmY(x c:am):Tr (G8⊕az):=
 br
 (bif !x.1==c.1 then O
 else
  bif x.q.1!=c.q.1 then O
  else bif (X x.2.1:Int)!=(X c.2.1:Int)then O else bif (X x.r.1:Int)!=(X c.r.1:Int)then O else(X x.t.1:Int)!=(X c.t.1:Int))
 (re (kb S) []) (Tr.to (G8.h4 0 (x,()) (c,())))
def Ck:G8->Tr (G8⊕az)
 | .h4 e z x=>
  let s:=(X z.1.2.1:Int)
  let c:=Y z.1.2.1 e.toNat (Q zn)
  let d:=Y x.1.2.1 e.toNat (Q zn)
  br (N (e<s))
  (chk (zL e (X z.1.2.1)) (chk (zL e (X x.1.2.1)) (br (!(c.1==d.1&&(c.2.1==d.2.1&&(c.q==d.q&&O)))) (re (kb S) []) (Tr.to (G8.h4 (Γ Δ (e+1)) z x)))))
  (Tr.to (G8.h9 0 z x))
 | .h9 j z x=>
  let s:=(X z.1.r.1:Int)
  br (N (j<s))
  (chk (zL j (X z.1.r.1)) (chk (zL j (X x.1.r.1)) (br (Y z.1.r.1 j.toNat (Q zk)!=Y x.1.r.1 j.toNat (Q zk)) (re (kb S) []) (Tr.to (G8.h9 (Γ Δ (j+1)) z x)))))
  (Tr.to (G8.h14 0 z x))
 | .h14 n z x=>
  let s:=(X z.1.t.1:Int)
  let c:=Y z.1.t.1 n.toNat (Q zG)
  let d:=Y x.1.t.1 n.toNat (Q zG)
  let v:=zt z.1.u
  let w:=zt x.1.u
  br (N (n<s))
  (chk (zL n (X z.1.t.1)) (chk (zL n (X x.1.t.1)) (br (!(c.1==d.1&&(c.2==d.2&&O))) (re (kb S) []) (Tr.to (G8.h14 (Γ Δ (n+1)) z x)))))
  (chk (gT v w) (re (AV.bool (fF v w)) []))
def CZ(x c:am):=ar [Q7] Ck 100000000 (zmY x c)
def Lk(x c:am):=(CZ x c).isSome
def RR(x c:am):=o1 (CZ x c)
def zp3:=FT [ab,ab] [Q7] λx=>CZ x.1 x.2.1
theorem zkJ:FK 36 zp3:=IF.T1 (f:=Tryz.f36) (keep:=zud) (e:=zw6)
def YZ:=zit.add 36 zp3
theorem Eh:zw YZ:=IF.add zkJ
def ztq(x c:ae):Tr (Empty⊕az):=
 let d:=(x.1.1,x.1.2.1,x.1.q.1,x.1.r.1,x.1.t.1,zt x.1.u)
 let e:=(c.1.1,c.1.2.1,c.1.q.1,c.1.r.1,c.1.t.1,zt c.1.u)
 let j:=RR d e
 chk (Lk d e&&bif j then Lp x.2 c.2 else O) (re (AV.bool (cond j (RU x.2 c.2) S)) [])
def C4(x c:ae):=ar [Q7] t0 100000000 (ztq x c)
def C3(x c:ae):=(C4 x c).isSome
def Lq(x c:ae):=o1 (C4 x c)
def zpy:=FT [zl,zl] [Q7] λx=>C4 x.1 x.2.1
theorem zj9:FK 14 zpy:=Eh.T1 (f:=Tryz.f14) (keep:=k0) (e:=e0)
def zsW:=YZ.add 14 zpy
theorem VX:zw zsW:=Eh.add zj9
theorem O3{a:am}(A:X a.2.1<=1000000)(C:X a.r.1<=1000000)(B:X a.t.1<=1000000)(v:mR 16 a.u=O):Lk a a=O/\RR a a=O:=by
 have⟨z,s⟩:=oT (b:=a.u) v;have s:=s.2 rfl;have w:(zmY a a).val=M (.inl (.h4 ((0:Nat):Int) (a,()) (a,()))):=by
  simp only[zmY,Q8,BEq.rfl,ce,fL,aL,zC,zm];rfl
 have c:=zH.all (t:=Ck) 1 (λi=>.h4 (i:Int) (a,()) (a,())) (X a.2.1) λi x=>zH.of (by
  simp only[Ck,Q8,zO x,zx x,BEq.rfl,ov,ce,zC,zj,zm];rw[zu i um])
 have d:zH Ck 1 (.h4 (X a.2.1:Int) (a,()) (a,())) (.h9 ((0:Nat):Int) (a,()) (a,())):=zH.of (by
  simp only[Ck,Q8,zM,zC,zm];rfl)
 have e:=zH.all (t:=Ck) 1 (λi=>.h9 (i:Int) (a,()) (a,())) (X a.r.1) λi x=>zH.of (by
  simp only[Ck,Q8,zO x,zx x,fL,zC,zj,zm];rw[zu i um])
 have j:zH Ck 1 (.h9 (X a.r.1:Int) (a,()) (a,())) (.h14 ((0:Nat):Int) (a,()) (a,())):=zH.of (by
  simp only[Ck,Q8,zM,zC,zm];rfl)
 have q:=zH.all (t:=Ck) 1 (λi=>.h14 (i:Int) (a,()) (a,())) (X a.t.1) λi x=>zH.of (by
  simp only[Ck,Q8,zO x,zx x,BEq.rfl,ov,ce,zC,zj,zm];rw[zu i um])
 have h:=zA (outs:=[Q7]) (n:=100000000) (y:=(O,())) w (((((c.trans d).trans e).trans j).trans q).ends (zU.of (r:=(.bool O,[])) (by
  simp only[Ck,Q8,zo,zM,z,s,zC,zj,zm]))) W rfl
 have h:CZ a a=M (O,()):=h;exact⟨by unfold Lk;rw[h];rfl,by unfold RR;rw[h];rfl⟩
theorem O5{x:ae}(c:X x.1.2.1<=1000000)(n:X x.1.r.1<=1000000)(j:X x.1.t.1<=1000000)(d:mR 16 x.1.u=O)(e:X x.2<=1000000)(q:∀r∈x.2,X r<=1000000):C3 x x=O/\Lq x x=O:=by
 have⟨s,v⟩:=O3 c n j d;have⟨w,y⟩:=O4 e q;have h:C4 x x=M (O,()):=by
  refine zR (r:=(.bool O,[])) ?_ rfl;simp only[ztq,Q8,zo,bh,s,v,w,y,aN,ov,zj]
 exact⟨by unfold C3;rw[h];rfl,by unfold Lq;rw[h];rfl⟩
end
end Cad
