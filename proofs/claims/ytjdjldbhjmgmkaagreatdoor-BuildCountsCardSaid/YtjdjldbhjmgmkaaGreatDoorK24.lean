/- Rows. -/
import Derived.Test.YtjdjldbhjmgmkaaGreatDoorK23
import Derived.RowKit3
import Derived.WideKeyArgs
import Derived.Test.YtjdjldbhjmgmkaaGreatDoorRows
import Derived.OpenShut
import Derived.ProofKit
namespace Cad
open Go Go.Proofs
open List renaming length→Io
open IntKind renaming wrap→Γ,i64→Δ
open Tr renaming val→Q8
open Sh renaming bool→Q7
open Bool renaming false→Q4,true→Q3
open Option renaming some→Q1
open Decidable renaming decide→Q0
open Int (toNat)
open List (getD)
open Tr (chk br re)
open AV (nils agg tup ptr kb str sl)
set_option maxHeartbeats 2000000
noncomputable section
theorem wI(x:Int)(h:-4000000000<=x)(c:x<=4000000000):Γ Δ x=x:=by rw[ee];omega
theorem wU(x:Int)(h:0<=x)(c:x<=4000000000):IntKind.u64.wrap x=x:=by simp only[IntKind.wrap,IntKind.bits,IntKind.signed];simp;omega
def mM(k:Int)(r:zw):zo:=bif (cond (Q0 (k<0)) Q3 (Q0 (k>=(↑(Io r):Int))))then(0,0,[])else getD r k.toNat (zi zf)
def J0(k:Int)(a b:zw):Prop:=yz (mM k a) (mM k b)
variable {k:Int}
theorem UJ{a b:zw}(h:J0 k a b):¬J0 k b a:=λg=>gh (gA h g)
def Kp(k:Int)(h l:List zw):Prop:=l.Perm h/\(h.Pairwise (J0 k)->l=h)
theorem Kp.refl{l:List zw}:Kp k l l:=⟨.refl l,λ_=>rfl⟩
variable {h:List zw}
theorem Kp.len{l:List zw}(x:Kp k h l):Io l=Io h:=x.1.length_eq
theorem Kp.trans{l d:List zw}(x:Kp k h l)(g:Kp k l d):Kp k h d:=⟨g.1.trans x.1,λc=>by
 have e:=x.2 c;subst e;exact g.2 c⟩
variable {c:List zw}
theorem Kp.perm{l:List zw}(x:c.Perm l)(h:¬l.Pairwise (J0 k)):Kp k l c:=⟨x,λd=>zC d h⟩
variable {i j:Nat}
theorem sm{α:Type}{l:List α}(h:i<Io l)(x:j<Io l)(d:α):((l.set j (l.getD i d)).set i (l.getD j d)).Perm l:=by
 have e:((l.set j l[i]).set i l[j]).Perm l:=List.set_set_perm x h
 rwa [aZ,aZ,zZ x,zZ h]
theorem Zj{l:List zw}(h:l.Pairwise (J0 k))(x:i<j)(c:j<Io l)(d:zw):J0 k (l.getD i d) (l.getD j d):=by
 have:=List.pairwise_iff_getElem.1 h i j ow c x
 rwa [aZ,aZ,zZ ow,zZ c]
theorem Bc{l:List zw}(h:i<j)(c:j<Io l)(d:zw)(x:J0 k (l.getD j d) (l.getD i d)):¬l.Pairwise (J0 k):=λe=>UJ x (Zj e h c d)
theorem O5(h:j<i):Q0 ((i:Int)>(j:Int))=Q3:=by simpa using h
theorem zcN(n:Nat):Q0 ((n:Int)>(n:Int))=Q4:=by simp
theorem kH(h:¬i<j):Q0 ((i:Int)<(j:Int))=Q4:=by simpa using h
theorem qo(k:Int)(x y:zw):
  (bif (cond (Q0 (k<0)) Q3 (Q0 (k>=(↑(Io x):Int))))then bif (cond (Q0 (k<0)) Q3 (Q0 (k>=(↑(Io y):Int))))then aV (0,0,[]) (0,0,[])else aV (0,0,[]) (getD y k.toNat (zi zf))
   else bif (cond (Q0 (k<0)) Q3 (Q0 (k>=(↑(Io y):Int))))then aV (getD x k.toNat (zi zf)) (0,0,[])else aV (getD x k.toNat (zi zf)) (getD y k.toNat (zi zf)))=aV (mM k x) (mM k y):=by unfold mM;cases(cond (Q0 (k<0)) Q3 (Q0 (k>=(↑(Io x):Int))))<;>cases(cond (Q0 (k<0)) Q3 (Q0 (k>=(↑(Io y):Int))))<;>rfl
theorem XN(k:Int)(x:zw):(cond (cond (Q0 (k<0)) Q3 (Q0 (k>=(↑(Io x):Int)))) Q3 (zK k (Io x)))=Q3:=by
 cases h:(cond (Q0 (k<0)) Q3 (Q0 (k>=(↑(Io x):Int))))with
 |true=>rfl
 | false=>
  cases c:Q0 (k<0)with
  |true=>rw[c]at h;cases h
  | false=>
   rw[c]at h;simp only[aA,dY]at h c;simp only[aA,zK,aF,aR];omega
theorem mn(k:Int)(x y:zw):(bif (cond (Q0 (k<0)) Q3 (Q0 (k>=(↑(Io x):Int))))then(cond (cond (Q0 (k<0)) Q3 (Q0 (k>=(↑(Io y):Int)))) Q3 (zK k (Io y)))
  else zK k (Io x)&&(cond (cond (Q0 (k<0)) Q3 (Q0 (k>=(↑(Io y):Int)))) Q3 (zK k (Io y))))=Q3:=by
 have c:=XN k x;rw[XN k y];cases h:(cond (Q0 (k<0)) Q3 (Q0 (k>=(↑(Io x):Int))))with
 |true=>rfl
 | false=>
  rw[h]at c;simp only[aA]at c|-;rw[c];rfl
theorem XG(s:List zw)(a b i:Nat)(k:Int)(L:Io s<=1000)(J:i<1000):∀(m j:Nat)(l:List zw),j=a+m->j<Io l->Kp k s l->
  ∃c,Kp k s c/\zN tf (m+1) (.h4 (a:Int) (b:Int) k (i:Int) (j:Int) l) (.h1 (a:Int) (b:Int) k ((i+1:Nat):Int) c):=by
 intro m
 induction m with
 | zero=>
  intro j l F x h;refine⟨l,h,zN.of ?_⟩;obtain rfl:j=a:=by omega
  simp only[tf,Q8,zcN,aA,zE,zp,zh,zt i um]
 | succ m I=>
  intro j l F x h;obtain⟨j,rfl⟩:∃G,j=G+1:=⟨j-1,ow⟩;have C:=h.len;have t:Q0 (((j+1:Nat):Int)>(a:Int))=Q3:=O5 ow;have v:zK ((j+1:Nat):Int) (Io l)=Q3:=zz x;have y:Q0 (j+1<Io l)=Q3:=by simpa using x
  have z:Γ Δ (((j+1:Nat):Int)-1)=(j:Int):=lY j um;have e:zK (j:Int) (Io l)=Q3:=zz ow;have d:Q0 (j<Io l)=Q3:=by simp;omega
  have A:zK (j:Int) (l.set (j+1) (l.getD j (zi zf.sl))).length=Q3:=by rw[yM];exact e
  have B:Q0 (j<(l.set (j+1) (l.getD j (zi zf.sl))).length)=Q3:=by rw[yM];exact d
  by_cases n:J0 k (l.getD (j+1) (zi zf.sl)) (l.getD j (zi zf.sl))
  .have q:Kp k l ((l.set (j+1) (l.getD j (zi zf.sl))).set j (l.getD (j+1) (zi zf.sl))):=Kp.perm (sm ow x _) (Bc (i:=j) (j:=j+1) ow x _ n);obtain⟨c,D,E⟩:=I j _ ow sg (h.trans q);refine⟨c,D,((zN.of ?_).trans E).mono ow⟩;have g:Q0 (LT.lt (α:=Int) (aV (mM k (l.getD (j+1) (zi zf.sl))) (mM k (l.getD j (zi zf.sl)))) 0)=Q3:=zy n;simp only[tf,Q8,z,aK];rw[mn,qo];simp only[t,v,y,e,d,g,A,B,ax,sM,zh]
  .refine⟨l,h,(zN.of ?_).mono ow⟩;have g:Q0 (LT.lt (α:=Int) (aV (mM k (l.getD (j+1) (zi zf.sl))) (mM k (l.getD j (zi zf.sl)))) 0)=Q4:=ae n;simp only[tf,Q8,z,aK];rw[mn,qo];simp only[t,v,y,e,d,g,A,B,ax,sM,zh,zE,zp,zt i um]
theorem XF(h:List zw)(a b:Nat)(k:Int)(t:Io h<=1000)(y:b<=Io h):∀(m i:Nat)(l:List zw),b-i=m->a<=i->Kp k h l->
  ∃c,Kp k h c/\z6 tf (m*1002+1) (.h1 (a:Int) (b:Int) k (i:Int) l) (.tup [],[.vec zf.sl c]):=by
 intro m
 induction m with
 | zero=>
  intro i l s q x;refine⟨l,x,(z6.of ?_).mono ow⟩;simp only[tf,Q8,kH (show¬i<b by omega),zE,zp]
 | succ m I=>
  intro i l s q x;have d:=x.len;obtain⟨v,e,g⟩:=XG h a b i k t ow (i-a) i l ow ow x;obtain⟨c,j,n⟩:=I (i+1) v ow ow e;refine⟨c,j,((zN.of ?_).trans g |>.ends n).mono ow⟩;simp only[tf,Q8,zL (show i<b by omega),zh]
theorem Dp(l:List zw)(a b:Nat)(k:Int)(g:Io l<=1000)(j:a<=Io l)(e:b<=Io l):∃h,xH l a b k=Q1 h/\Kp k l h:=by
 obtain⟨h,x,c⟩:=XF l a b k g e (b-(a+1)) (a+1) l rfl ow Kp.refl;refine⟨h,?_,x⟩;have:Pb l a b k=Q1 (.tup [],[.vec zf.sl h]):=by
  unfold Pb bR Rw;rw[zt a um];have d:b-(a+1)<=1000:=by omega
  exact c 100000000 (aX (Nat.succ_le_succ (gC 1002 d)) (by decide))
 unfold xH;rw[this];rfl
theorem zl4(h:List zw)(a b n:Nat)(D:Io h<=1000)(B:a+n<=Io h)(C:b+n<=Io h):∀(m i:Nat)(l:List zw),n-i=m->i<=n->l.Perm h->
  ∃c,c.Perm h/\z6 HS (m+1) (.h1 (a:Int) (b:Int) (n:Int) (i:Int) l) (.tup [],[.vec zf.sl c]):=by
 intro m
 induction m with
 | zero=>
  intro i l A z x;obtain rfl:i=n:=by omega
  refine⟨l,x,z6.of ?_⟩;simp only[HS,Q8,zG,zE,zp]
 | succ m I=>
  intro i l A z x;have d:=x.length_eq;have e0:Γ Δ ((b:Int)+(i:Int))=((b+i:Nat):Int):=by rw[wI _ ow ow];omega
  have e:Γ Δ ((a:Int)+(i:Int))=((a+i:Nat):Int):=by rw[wI _ ow ow];omega
  have g:zK ((a+i:Nat):Int) (Io l)=Q3:=zz ow;have q:zK ((b+i:Nat):Int) (Io l)=Q3:=zz ow;have s:Q0 (a+i<Io l)=Q3:=by simp;omega
  have t:Q0 (b+i<Io l)=Q3:=by simp;omega
  obtain⟨c,v,y⟩:=I (i+1) ((l.set (a+i) (l.getD (b+i) (zi zf.sl))).set (b+i) (l.getD (a+i) (zi zf.sl))) ow ow ((sm (i:=b+i) (j:=a+i) ow ow _).trans x);refine⟨c,v,((zN.of ?_).ends y).mono ow⟩;simp only[HS,Q8,zL (show i<n by omega),e0,e,g,q,s,t,aK,yM,zh,zt i um]
theorem P4(l:List zw)(a b n:Nat)(k:Int)(g:Io l<=1000)(d:a+n<=Io l)(e:b+n<=Io l):∃h,P3 l a b n k=Q1 h/\h.Perm l:=by obtain⟨h,x,c⟩:=zl4 l a b n g d e n 0 l rfl ow (.refl l);refine⟨h,?_,x⟩;have:ztm l a b n k=Q1 (.tup [],[.vec zf.sl h]):=c 100000000 ow;unfold P3;rw[this];rfl
theorem zlV(g:List zw)(m:Nat)(k:Int)(G:Io g<=1000):∀(s i j:Nat)(l:List zw),i+j<=s->1<=i->1<=j->i<=m->m+j<=Io g->l.Perm g->
  ∃x,x.Perm g/\z6 EY (s+1) (.h2 (m:Int) k (i:Int) (j:Int) l) (.tup [],[.vec zf.sl x]):=by
 intro s
 induction s with
 |zero=>intro i j l h A;omega
 | succ s I=>
  intro i j l J A D E F e;have B:=e.length_eq;have e0:Γ Δ ((m:Int)-(i:Int))=((m-i:Nat):Int):=by rw[wI _ ow ow];omega
  rcases Nat.lt_trichotomy i j with h|h|h
  .obtain⟨c,q,d⟩:=P4 l (m-i) (m+j-i) i k ow ow ow;obtain⟨x,y,z⟩:=I i (j-i) c ow A ow E ow (d.trans e);refine⟨x,y,((zN.of ?_).ends z).mono ow⟩;have n:((i:Int)!=(j:Int))=Q3:=by simp;omega
   have t:Q0 ((i:Int)>(j:Int))=Q4:=by simp;omega
   have C:Γ Δ (Γ Δ ((m:Int)+(j:Int))-(i:Int))=((m+j-i:Nat):Int):=by rw[wI ((m:Int)+(j:Int)) ow ow,wI _ ow ow];omega
   have v:Γ Δ ((j:Int)-(i:Int))=((j-i:Nat):Int):=by rw[wI _ ow ow];omega
   simp only[EY,Q8,e0,n,t,C,v,q,fE,bM,zh,zE,zp]
  .subst h;obtain⟨c,q,d⟩:=P4 l (m-i) m i k ow ow ow;refine⟨c,d.trans e,(z6.of ?_).mono ow⟩;simp only[EY,Q8,e0,iz,q,fE,bM,zh,zE,zp]
  .obtain⟨c,q,d⟩:=P4 l (m-i) m j k ow ow ow;obtain⟨x,y,z⟩:=I (i-j) j c ow ow D ow F (d.trans e);refine⟨x,y,((zN.of ?_).ends z).mono ow⟩;have n:((i:Int)!=(j:Int))=Q3:=by simp;omega
   have t:Q0 ((i:Int)>(j:Int))=Q3:=by simp;omega
   have v:Γ Δ ((i:Int)-(j:Int))=((i-j:Nat):Int):=by rw[wI _ ow ow];omega
   simp only[EY,Q8,e0,n,t,v,q,fE,bM,zh]
theorem zlW(l:List zw)(a m b:Nat)(k:Int)(d:Io l<=1000)(e:a<m)(j:m<b)(g:b<=Io l):∃h,UH l a m b k=Q1 h/\h.Perm l:=by
 obtain⟨h,x,c⟩:=zlV l m k d ((m-a)+(b-m)) (m-a) (b-m) l (aj _) ow ow ow ow (.refl l);refine⟨h,?_,x⟩;have:zlU l a m b k=Q1 (.tup [],[.vec zf.sl h]):=by
  unfold zlU bR Rx;rw[show Γ Δ ((m:Int)-(a:Int))=((m-a:Nat):Int) by rw[wI _ ow ow];omega,show Γ Δ ((b:Int)-(m:Int))=((b-m:Nat):Int) by rw[wI _ ow ow];omega];exact c 100000000 ow
 unfold UH;rw[this];rfl
set_option maxHeartbeats 4000000
theorem A6(i j:Nat)(h:i+j<=4000000):Γ Δ (IntKind.u64.wrap (Γ Δ ((i:Int)+(j:Int)))/2)=(((i+j)/2:Nat):Int):=by rw[wI ((i:Int)+(j:Int)) ow ow,wU _ ow ow,wI _ ow ow];omega
section
variable (o:SM) (k:Int)
theorem zth(l:List zw)(a m b:Nat)(M:Io l<=1000)(J:a<m)(L:b<=Io l):∀(s i j:Nat),j-i<=s->m<=i->i<=j->j<=b->(i=m\/¬l.Pairwise (J0 k))->
  ∃x,m<=x/\x<=b/\(x=m\/¬l.Pairwise (J0 k))/\zN (eT o) (s+1) (.h3 (a:Int) k (i:Int) (j:Int) l) (.h9 (x:Int) (a:Int) l):=by
 intro s
 induction s with
 | zero=>
  intro i j E d F D e;refine⟨i,d,ow,e,zN.of ?_⟩;simp only[eT,Q8,kH (show¬i<j by omega),zE,zp]
 | succ s I=>
  intro i j E d F D e;by_cases c:i<j
  case neg=>
   refine⟨i,d,ow,e,(zN.of ?_).mono ow⟩;simp only[eT,Q8,kH c,zE,zp]
  have e0:=A6 i j ow;have G:i<=(i+j)/2/\(i+j)/2<j:=by omega
  generalize(i+j)/2=h at e0 G;have z:zK ((h:Nat):Int) (Io l)=Q3:=zz ow;have A:Q0 (h<Io l)=Q3:=by simp;omega
  have B:zK ((a:Nat):Int) (Io l)=Q3:=zz ow;have C:Q0 (a<Io l)=Q3:=by simp;omega
  by_cases n:J0 k (l.getD h (zi zf.sl)) (l.getD a (zi zf.sl))
  .obtain⟨x,q,t,v,y⟩:=I (h+1) j ow ow ow D (.inr (Bc (i:=a) (j:=h) ow ow _ n));refine⟨x,q,t,v,((zN.of ?_).trans y).mono ow⟩;have g:Q0 (LT.lt (α:=Int) (aV (mM k (l.getD h (zi zf.sl))) (mM k (l.getD a (zi zf.sl)))) 0)=Q3:=zy n;simp only[eT,Q8,e0,aK];rw[mn,qo];simp only[zL c,z,A,B,C,g,zh,zt h um]
  .obtain⟨x,q,t,v,y⟩:=I i h ow d ow ow e;refine⟨x,q,t,v,((zN.of ?_).trans y).mono ow⟩;have g:Q0 (LT.lt (α:=Int) (aV (mM k (l.getD h (zi zf.sl))) (mM k (l.getD a (zi zf.sl)))) 0)=Q4:=ae n;simp only[eT,Q8,e0,aK];rw[mn,qo];simp only[zL c,z,A,B,C,g,zh,zE,zp]
theorem zti(e:List zw)(i:Nat)(E:Io e<=1000)(D:i<=Io e):∀(s c:Nat)(l:List zw),i-c<=s->l.Perm e->
  ∃d,d.Perm e/\((i<=c+1)->d=l)/\z6 (eT o) (s+1) (.h9 (i:Int) (c:Int) l) (.tup [],[.vec zf.sl d]):=by
 intro s
 induction s with
 | zero=>
  intro c l z x;refine⟨l,x,λ_=>rfl,z6.of ?_⟩;have e0:Q0 ((c:Int)<Γ Δ ((i:Int)-1))=Q4:=by
   by_cases y:i=0
   .subst y;rw[wI _ ow ow];simp only[dY];omega
   .rw[wI _ ow ow];simp only[dY];omega
  simp only[eT,Q8,e0,zE,zp]
 | succ s I=>
  intro c l z x;have g:=x.length_eq;by_cases C:c+1<i
  case neg=>
   refine⟨l,x,λ_=>rfl,(z6.of ?_).mono ow⟩;have e0:Q0 ((c:Int)<Γ Δ ((i:Int)-1))=Q4:=by
    rw[wI _ ow ow];simp only[dY];omega
   simp only[eT,Q8,e0,zE,zp]
  have e0:Q0 ((c:Int)<Γ Δ ((i:Int)-1))=Q3:=by
   rw[wI _ ow ow];simp only[aR];omega
  have n:zK ((c+1:Nat):Int) (Io l)=Q3:=zz ow;have q:zK ((c:Nat):Int) (Io l)=Q3:=zz ow;have t:Q0 (c+1<Io l)=Q3:=by simp;omega
  have v:Q0 (c<Io l)=Q3:=by simp;omega
  obtain⟨d,A,_,B⟩:=I (c+1) ((l.set c (l.getD (c+1) (zi zf.sl))).set (c+1) (l.getD c (zi zf.sl))) ow ((sm (i:=c+1) (j:=c) ow ow _).trans x);refine⟨d,A,λh=>by omega,((zN.of ?_).ends B).mono ow⟩;simp only[eT,Q8,e0,zt c um,n,q,t,v,aK,yM,zh]
theorem zl0(l:List zw)(a m:Nat)(L:Io l<=1000)(J:m<Io l):∀(s i j:Nat),j-i<=s->a<=i->i<=j->j<=m->(j=m\/¬l.Pairwise (J0 k))->
  ∃x,a<=x/\x<=m/\(x=m\/¬l.Pairwise (J0 k))/\zN (eT o) (s+1) (.h15 (m:Int) k (i:Int) (j:Int) l) (.h21 (x:Int) (m:Int) l):=by
 intro s
 induction s with
 | zero=>
  intro i j E d F D e;refine⟨i,d,ow,e.imp (λh=>by omega) id,zN.of ?_⟩;simp only[eT,Q8,kH (show¬i<j by omega),zE,zp]
 | succ s I=>
  intro i j E d F D e;by_cases c:i<j
  case neg=>
   refine⟨i,d,ow,e.imp (λh=>by omega) id,(zN.of ?_).mono ow⟩;simp only[eT,Q8,kH c,zE,zp]
  have e0:=A6 i j ow;have G:i<=(i+j)/2/\(i+j)/2<j:=by omega
  generalize(i+j)/2=h at e0 G;have z:zK ((h:Nat):Int) (Io l)=Q3:=zz ow;have A:Q0 (h<Io l)=Q3:=by simp;omega
  have B:zK ((m:Nat):Int) (Io l)=Q3:=zz ow;have C:Q0 (m<Io l)=Q3:=by simp;omega
  by_cases n:J0 k (l.getD m (zi zf.sl)) (l.getD h (zi zf.sl))
  .obtain⟨x,q,t,v,y⟩:=I i h ow d ow ow (.inr (Bc (i:=h) (j:=m) ow ow _ n));refine⟨x,q,t,v,((zN.of ?_).trans y).mono ow⟩;have g:Q0 (LT.lt (α:=Int) (aV (mM k (l.getD m (zi zf.sl))) (mM k (l.getD h (zi zf.sl)))) 0)=Q3:=zy n;simp only[eT,Q8,e0,aK];rw[mn,qo];simp only[zL c,z,A,B,C,g,zh,ci,zE,zp]
  .obtain⟨x,q,t,v,y⟩:=I (h+1) j ow ow ow D e;refine⟨x,q,t,v,((zN.of ?_).trans y).mono ow⟩;have g:Q0 (LT.lt (α:=Int) (aV (mM k (l.getD m (zi zf.sl))) (mM k (l.getD h (zi zf.sl)))) 0)=Q4:=ae n;simp only[eT,Q8,e0,aK];rw[mn,qo];simp only[zL c,z,A,B,C,g,zh,da,zt h um]
theorem zl1(e:List zw)(i:Nat)(F:Io e<=1000):∀(s c:Nat)(l:List zw),c-i<=s->c<Io e->l.Perm e->
  ∃d,d.Perm e/\(c<=i->d=l)/\z6 (eT o) (s+1) (.h21 (i:Int) (c:Int) l) (.tup [],[.vec zf.sl d]):=by
 intro s
 induction s with
 | zero=>
  intro c l B g x;refine⟨l,x,λ_=>rfl,z6.of ?_⟩;have e0:Q0 ((c:Int)>(i:Int))=Q4:=by simp;omega
  simp only[eT,Q8,e0,zE,zp]
 | succ s I=>
  intro c l B g x;have n:=x.length_eq;by_cases C:i<c
  case neg=>
   refine⟨l,x,λ_=>rfl,(z6.of ?_).mono ow⟩;have e0:Q0 ((c:Int)>(i:Int))=Q4:=by simp;omega
   simp only[eT,Q8,e0,zE,zp]
  obtain⟨c,rfl⟩:∃q,c=q+1:=⟨c-1,ow⟩;have e0:Q0 (((c+1:Nat):Int)>(i:Int))=Q3:=O5 C;have t:zK ((c+1:Nat):Int) (Io l)=Q3:=zz ow;have v:zK ((c:Nat):Int) (Io l)=Q3:=zz ow;have y:Q0 (c+1<Io l)=Q3:=by simp;omega
  have z:Q0 (c<Io l)=Q3:=by simp;omega
  have A:Γ Δ (((c+1:Nat):Int)-1)=(c:Int):=lY c um;obtain⟨d,D,_,E⟩:=I c ((l.set (c+1) (l.getD c (zi zf.sl))).set c (l.getD (c+1) (zi zf.sl))) ow ow ((sm (i:=c) (j:=c+1) ow ow _).trans x);refine⟨d,D,λh=>by omega,((zN.of ?_).ends E).mono ow⟩;simp only[eT,Q8,e0,A,t,v,y,z,aK,yM,zh]
end
section
variable (o:SM) (k:Int)
theorem ZS(l:List zw)(a m b g n p A d:Nat)(Z:Io l<=1000)(W:d<=1000)(hp:p<=2000)(S:∀c,A<=c->c<d->c+c<p/\p<Io l+c):∀(s i j:Nat),j-i<=s->A<=i->i<=j->j<=d->(j=d\/¬l.Pairwise (J0 k))->
  ∃x,A<=x/\x<=d/\(x=d\/¬l.Pairwise (J0 k))/\zN (eT o) s (.h33 (a:Int) (m:Int) (b:Int) k (g:Int) (n:Int) (i:Int) (j:Int) (p:Int) l) (.h33 (a:Int) (m:Int) (b:Int) k (g:Int) (n:Int) (x:Int) (x:Int) (p:Int) l):=by
 intro s
 induction s with
 | zero=>
  intro i j N q O t v;obtain rfl:i=j:=by omega
  exact⟨i,q,t,v,zN.refl _⟩
 | succ s I=>
  intro i j N q O t v;by_cases e:i<j
  case neg=>
   obtain rfl:i=j:=by omega
   exact⟨i,q,t,v,(zN.refl _).mono ow⟩
  have e0:=A6 i j ow;have T:i<=(i+j)/2/\(i+j)/2<j:=by omega
  generalize(i+j)/2=h at e0 T;obtain⟨X,Y⟩:=S h ow ow;have M:Γ Δ ((p:Int)-(h:Int))=((p-h:Nat):Int):=by rw[wI _ ow ow];omega
  have F:zK ((h:Nat):Int) (Io l)=Q3:=zz ow;have G:Q0 (h<Io l)=Q3:=by simp;omega
  have J:zK ((p-h:Nat):Int) (Io l)=Q3:=zz ow;have L:Q0 (p-h<Io l)=Q3:=by simp;omega
  by_cases z:J0 k (l.getD (p-h) (zi zf.sl)) (l.getD h (zi zf.sl))
  .obtain⟨x,B,C,D,E⟩:=I i h ow q ow ow (.inr (Bc (i:=h) (j:=p-h) ow ow _ z));refine⟨x,B,C,D,((zN.of ?_).trans E).mono ow⟩;have y:Q0 (LT.lt (α:=Int) (aV (mM k (l.getD (p-h) (zi zf.sl))) (mM k (l.getD h (zi zf.sl)))) 0)=Q3:=zy z;simp only[eT,Q8,e0,M,aK];rw[mn,qo];simp only[zL e,F,G,J,L,y,zh,ci,zE,zp]
  .obtain⟨x,B,C,D,E⟩:=I (h+1) j ow ow ow t v;refine⟨x,B,C,D,((zN.of ?_).trans E).mono ow⟩;have y:Q0 (LT.lt (α:=Int) (aV (mM k (l.getD (p-h) (zi zf.sl))) (mM k (l.getD h (zi zf.sl)))) 0)=Q4:=ae z;simp only[eT,Q8,e0,M,aK];rw[mn,qo];simp only[zL e,F,G,J,L,y,zh,da,zt h um]
theorem zbV{a b c d:Nat}:(cond (Q0 ((a:Int)<(b:Int))) (Q0 ((c:Int)<(d:Int))) Q4)=Q0 (a<b/\c<d):=by
 by_cases h:a<b
 .have:Q0 ((a:Int)<(b:Int))=Q3:=by simpa using h
  rw[this];simp[h]
 .have:Q0 ((a:Int)<(b:Int))=Q4:=by simpa using h
  rw[this];simp[h]
theorem ZR{D:Nat}(I:∀(l:List zw)(a m b:Nat),Io l<=1000->a<m->m<b->b<=Io l->b-a<=D->∃A,o l a m b k=Q1 A/\Kp k l A)(l:List zw)(a m b x n s e:Nat)(p:Int)(F:Io l<=1000)(Y:b<=Io l)(Z:n=s+e)(_:n<=2000)
  (_:a<=s) (X:e<=b) (L:x-a<=D) (M:b-x<=D) (N:x<=b) (S:s<m->m<e->¬l.Pairwise (J0 k)):
  ∃A,Kp k l A/\(eT o (.h33 (a:Int) (m:Int) (b:Int) k (x:Int) (n:Int) (s:Int) (s:Int) p l)).val=Q1 (.inr (.tup [],[.vec zf.sl A])):=by
 have e0:Γ Δ ((n:Int)-(s:Int))=(e:Int):=by rw[wI _ ow ow];omega
 have J:Q0 ((s:Int)<(s:Int))=Q4:=by simp
 obtain⟨j,B,z⟩:∃j,Kp k l j/\(ite (s<m/\m<e) (UH l s m e k=Q1 j) (j=l)):=by
  by_cases h:s<m/\m<e
  .obtain⟨j,C,E⟩:=zlW l s m e k F h.1 h.2 ow;exact⟨j,Kp.perm E (S h.1 h.2),by rw[ze h];exact C⟩
  .exact⟨l,Kp.refl,by rw[zg h]⟩
 obtain⟨q,G,v⟩:∃q,Kp k j q/\(ite (a<s/\s<x) (o j a s x k=Q1 q) (q=j)):=by
  by_cases h:a<s/\s<x
  .obtain⟨q,C,E⟩:=I j a s x (by rw[B.len];exact F) h.1 h.2 (by rw[B.len];omega) L;exact⟨q,E,by rw[ze h];exact C⟩
  .exact⟨j,Kp.refl,by rw[zg h]⟩
 obtain⟨y,T,d⟩:∃y,Kp k q y/\(ite (x<e/\e<b) (o q x e b k=Q1 y) (y=q)):=by
  by_cases h:x<e/\e<b
  .obtain⟨y,C,E⟩:=I q x e b (by rw[G.len,B.len];exact F) h.1 h.2 (by rw[G.len,B.len];omega) M;exact⟨y,E,by rw[ze h];exact C⟩
  .exact⟨q,Kp.refl,by rw[zg h]⟩
 refine⟨y,(B.trans G).trans T,?_⟩;simp only[eT,Q8,e0,J,zbV,zE,zp];by_cases t:s<m/\m<e
 .rw[ze t]at z;by_cases g:a<s/\s<x
  .rw[ze g]at v;by_cases c:x<e/\e<b
   .rw[ze c]at d;simp only[zy t,zy g,zy c,z,v,d,fE,bM,zh]
   .rw[zg c]at d;subst d;simp only[zy t,zy g,ae c,z,v,fE,bM,zh,zE,zp]
  .rw[zg g]at v;subst v;by_cases c:x<e/\e<b
   .rw[ze c]at d;simp only[zy t,ae g,zy c,z,d,fE,bM,zh,zE,zp]
   .rw[zg c]at d;subst d;simp only[zy t,ae g,ae c,z,fE,bM,zh,zE,zp]
 .rw[zg t]at z;subst z;by_cases g:a<s/\s<x
  .rw[ze g]at v;by_cases c:x<e/\e<b
   .rw[ze c]at d;simp only[ae t,zy g,zy c,v,d,fE,bM,zh,zE,zp]
   .rw[zg c]at d;subst d;simp only[ae t,zy g,ae c,v,fE,bM,zh,zE,zp]
  .rw[zg g]at v;subst v;by_cases c:x<e/\e<b
   .rw[ze c]at d;simp only[ae t,ae g,zy c,d,fE,bM,zh,zE,zp]
   .rw[zg c]at d;subst d;simp only[ae t,ae g,ae c,zE,zp]
end
theorem Ka{o:SM}{l:List zw}{a m b:Int}(h:bR (eT o) 100000000 (Ai o l a m b k)=Q1 (.tup [],[.vec zf.sl c])):smS o l a m b k=Q1 c:=by unfold smS;rw[h];rfl
theorem ZT(k:Int):∀(N:Nat)(l:List zw)(a m b:Nat),Io l<=1000->a<m->m<b->b<=Io l->b-a<=2^N->∃d,EQ N l a m b k=Q1 d/\Kp k l d
 |0,_,a,m,b,_,T,h2,_,E=>by simp at E;omega
 | N+1,l,a,m,b,j,T,h2,D,E=>by
  have W:=ZT k N;have e0:Γ Δ ((m:Int)-(a:Int))=((m-a:Nat):Int):=by rw[wI _ ow ow];omega
  have B:Γ Δ ((b:Int)-(m:Int))=((b-m:Nat):Int):=by rw[wI _ ow ow];omega
  by_cases X:m-a=1
  .obtain⟨y,F,G,q,s⟩:=zth (EQ N) k l a m b j T D (b-m) m b (aj _) (aj _) ow (aj _) (.inl rfl);obtain⟨d,t,v,I⟩:=zti (EQ N) l y j ow (y-a) a l (aj _) (.refl l);refine⟨d,Ka ?_,?_⟩
   .have x:(((m-a:Nat):Int)==1)=Q3:=by rw[X];rfl
    unfold bR;simp only[Ai,Q8,e0,x,zh];exact(s.ends I) 100000000 ow
   .rcases q with rfl|q
    .rw[v ow];exact Kp.refl
    .exact Kp.perm t q
  have x:(((m-a:Nat):Int)==1)=Q4:=by simp;omega
  by_cases Y:b-m=1
  .obtain⟨y,F,G,q,s⟩:=zl0 (EQ N) k l a m j ow (m-a) a m (aj _) (aj _) ow (aj _) (.inl rfl);obtain⟨d,t,v,I⟩:=zl1 (EQ N) l y j (m-y) m l (aj _) ow (.refl l);refine⟨d,Ka ?_,?_⟩
   .have e:(((b-m:Nat):Int)==1)=Q3:=by rw[Y];rfl
    unfold bR;simp only[Ai,Q8,e0,B,x,e,zh,zE,zp];exact(s.ends I) 100000000 ow
   .rcases q with rfl|q
    .rw[v (aj _)];exact Kp.refl
    .exact Kp.perm t q
  have e:(((b-m:Nat):Int)==1)=Q4:=by simp;omega
  have C:=A6 a b ow;have g:a<=(a+b)/2/\(a+b)/2<=b/\2*((a+b)/2)<=a+b/\a+b<=2*((a+b)/2)+1:=by omega
  generalize(a+b)/2=h at C g;obtain⟨g1,S,g3,g4⟩:=g;have A:h-a<=2^N/\b-h<=2^N:=by rw[pM]at E;omega
  have M:Γ Δ ((h:Int)+(m:Int))=((h+m:Nat):Int):=by rw[wI _ ow ow];omega
  have O:Γ Δ (((h+m:Nat):Int)-1)=((h+m-1:Nat):Int):=by rw[wI _ ow ow];omega
  by_cases Z:h<m
  ·
   have e5:Γ Δ (((h+m:Nat):Int)-(b:Int))=((h+m-b:Nat):Int):=by rw[wI _ ow ow];omega
   have n:Q0 ((m:Int)>(h:Int))=Q3:=O5 Z;obtain⟨z,F,G,q,s⟩:=ZS (EQ N) k l a m b h (h+m) (h+m-1) (h+m-b) h j ow ow (λc J L=>by omega) (h-(h+m-b)) (h+m-b) h (aj _) (aj _) ow (aj _) (.inl rfl);obtain⟨d,t,v⟩:=ZR (EQ N) k W l a m b h (h+m) z (h+m-z) ((h+m-1:Nat):Int) j D ow ow ow ow A.1 A.2 S (λJ L=>by
    rcases q with rfl|q
    .omega
    .exact q)
   refine⟨d,Ka ?_,t⟩;unfold bR;simp only[Ai,Q8,e0,B,C,M,O,e5,x,e,n,zh,zE,zp];exact(s.ends (z6.of v)) 100000000 ow
  .have n:Q0 ((m:Int)>(h:Int))=Q4:=by simp;omega
   obtain⟨z,F,G,q,s⟩:=ZS (EQ N) k l a m b h (h+m) (h+m-1) a m j ow ow (λc J L=>by omega) (m-a) a m (aj _) (aj _) ow (aj _) (.inl rfl);obtain⟨d,t,v⟩:=ZR (EQ N) k W l a m b h (h+m) z (h+m-z) ((h+m-1:Nat):Int) j D ow ow ow ow A.1 A.2 S (λJ L=>by
    rcases q with rfl|q
    .omega
    .exact q)
   refine⟨d,Ka ?_,t⟩;unfold bR;simp only[Ai,Q8,e0,B,C,M,O,x,e,n,zh,zE,zp];exact(s.ends (z6.of v)) 100000000 ow
theorem zv9(k:Int)(x:List zw)(h:Nat)(G:Io x<=1000)(F:1<=h)(B:h<=1000):∀(s a:Nat)(l:List zw),Io x-a<=s->a<=Io x->Kp k x l->
  ∃g,Kp k x g/\zN kz (s+1) (.h9 (Io x:Int) k (h:Int) (a:Int) ((a+2*h:Nat):Int) l) (.h7 (Io x:Int) k ((2*h:Nat):Int) g):=by
 intro s
 induction s with
 | zero=>
  intro a l C A c;refine⟨l,c,zN.of ?_⟩;have e0:Γ Δ ((a:Int)+(h:Int))=((a+h:Nat):Int):=by rw[wI _ ow ow];omega
  have d:Γ Δ ((h:Int)*2)=((2*h:Nat):Int):=by rw[wI _ ow ow];omega
  have e:Q0 (((a+2*h:Nat):Int)<=(Io x:Int))=Q4:=by simp;omega
  simp only[kz,Q8,e0,d,e,kH (show¬a+h<Io x by omega),zE,zp]
 | succ s I=>
  intro a l C A c;have v:=c.len;have e0:Γ Δ ((a:Int)+(h:Int))=((a+h:Nat):Int):=by rw[wI _ ow ow];omega
  have d:Γ Δ ((h:Int)*2)=((2*h:Nat):Int):=by rw[wI _ ow ow];omega
  have z:Γ Δ (((a+2*h:Nat):Int)+Γ Δ (2*(h:Int)))=((a+2*h+2*h:Nat):Int):=by rw[wI (2*(h:Int)) ow ow,wI _ ow ow];omega
  by_cases y:a+2*h<=Io x
  .obtain⟨n,q,t⟩:=ZT k 16 l a (a+h) (a+2*h) ow ow ow ow sg;obtain⟨g,D,E⟩:=I (a+2*h) n ow y (c.trans t);refine⟨g,D,((zN.of ?_).trans E).mono ow⟩;have e:Q0 (((a+2*h:Nat):Int)<=(Io x:Int))=Q3:=by simp;omega
   simp only[kz,Q8,e0,e,z,q,fE,bM,zh]
  .have e:Q0 (((a+2*h:Nat):Int)<=(Io x:Int))=Q4:=by simp;omega
   by_cases j:a+h<Io x
   .obtain⟨n,q,t⟩:=ZT k 16 l a (a+h) (Io x) ow ow j ow sg;refine⟨n,c.trans t,(zN.of ?_).mono ow⟩;simp only[kz,Q8,e0,d,e,zL j,q,fE,bM,zh,zE,zp]
   .refine⟨l,c,(zN.of ?_).mono ow⟩;simp only[kz,Q8,e0,d,e,kH j,zE,zp]
theorem zv8(k:Int)(x:List zw)(n:Io x<=1000):∀(s h:Nat)(l:List zw),Io x-h<=s->1<=h->Kp k x l->
  ∃e,Kp k x e/\z6 kz (s*1002+1) (.h7 (Io x:Int) k (h:Int) l) (.tup [],[.vec zf.sl e]):=by
 intro s
 induction s with
 | zero=>
  intro h l q g d;refine⟨l,d,(z6.of ?_).mono ow⟩;simp only[kz,Q8,kH (show¬h<Io x by omega),zE,zp]
 | succ s I=>
  intro h l q g d;by_cases c:h<Io x
  case neg=>
   refine⟨l,d,(z6.of ?_).mono ow⟩;simp only[kz,Q8,kH c,zE,zp]
  obtain⟨t,v,y⟩:=zv9 k x h n g ow (Io x) 0 l ow ow d;obtain⟨e,z,A⟩:=I (2*h) t ow ow v;refine⟨e,z,(((zN.of ?_).trans y).ends A).mono ow⟩;have j:Γ Δ (2*(h:Int))=((0+2*h:Nat):Int):=by rw[wI _ ow ow];omega
  simp only[kz,Q8,zL c,j,zh];rfl
theorem zv7(k:Int)(h:List zw)(B:Io h<=1000):∀(s a:Nat)(l:List zw),Io h-a<=s->a<=Io h->Kp k h l->
  ∃n,Kp k h n/\zN kz (s+1) (.h2 (Io h:Int) k 20 (a:Int) ((a+20:Nat):Int) l) (.h7 (Io h:Int) k 20 n):=by
 intro s
 induction s with
 | zero=>
  intro a l y v x;have d:=x.len;obtain⟨g,q,j⟩:=Dp l a (Io h) k ow ow ow;refine⟨g,x.trans j,zN.of ?_⟩;have e:Q0 (((a+20:Nat):Int)<=(Io h:Int))=Q4:=by simp;omega
  simp only[kz,Q8,e,q,fE,bM,zh,zE,zp]
 | succ s I=>
  intro a l y v x;have d:=x.len;by_cases c:a+20<=Io h
  .obtain⟨g,q,j⟩:=Dp l a (a+20) k ow ow ow;obtain⟨n,z,A⟩:=I (a+20) g ow c (x.trans j);refine⟨n,z,((zN.of ?_).trans A).mono ow⟩;have e:Q0 (((a+20:Nat):Int)<=(Io h:Int))=Q3:=by simp;omega
   have t:Γ Δ (((a+20:Nat):Int)+20)=((a+20+20:Nat):Int):=by rw[wI _ ow ow];omega
   simp only[kz,Q8,e,t,q,fE,bM,zh]
  .obtain⟨g,q,j⟩:=Dp l a (Io h) k ow ow ow;refine⟨g,x.trans j,(zN.of ?_).mono ow⟩;have e:Q0 (((a+20:Nat):Int)<=(Io h:Int))=Q4:=by simp;omega
   simp only[kz,Q8,e,q,fE,bM,zh,zE,zp]
theorem zdS(k:Int)(l:List zw)(x:Io l<=1000):∃h,NG l (Io l:Int) k=Q1 h/\Kp k l h:=by
 obtain⟨d,q,e⟩:=zv7 k l x (Io l) 0 l ow ow Kp.refl;obtain⟨h,g,j⟩:=zv8 k l x (Io l) 20 d ow ow q;refine⟨h,?_,g⟩;have:zgV l (Io l:Int) k=Q1 (.tup [],[.vec zf.sl h]):=by
  have c:=gC 1002 x;exact(e.ends j) 100000000 (by
   refine aX (Nat.add_le_add (Nat.succ_le_succ c) (Nat.succ_le_succ x)) (by decide))
 unfold NG;rw[this];rfl
theorem NE(k:Int)(l:List zw)(x:Io l<=1000):∃h,yn l k=Q1 h/\Kp k l h:=by
 obtain⟨h,q,c⟩:=zdS k l x;refine⟨h,?_,c⟩;have:P0 l k=Q1 (.tup [],[.vec zf.sl h]):=by
  unfold P0 bR;simp only[Rs,Q8,q,fE,bM,zh]
 unfold yn;rw[this];rfl
theorem ZE{A:ah}(n:Oq A=Q3)(z:Io A.2<=1000):∃x,Es A=Q1 ((A.1,x),())/\x.Perm A.2/\(dX A.1=Q3->Kp A.1.2.2.1 A.2 x):=by
 have g:∀x:List zw,aS [AO.vec zl A.1.2.1,AO.vec zj A.1.2.2.2.1,AO.vec zA A.1.t.1,AO.vec zf.sl x] [zk] (agg [str A.1.1,AV.vec 0,ai A.1.2.2.1,AV.vec 1,AV.vec 2,str (za.op A.1.t.2),ai (za.v A.1.t.2).1,ai (za.v A.1.t.2).2.1,str (za.v A.1.t.2).2.2,str (za.s A.1.t.2),sl Sh.expr (za.l A.1.t.2),AV.vec 3])=Q1 (((A.1,x):ah),()):=by
  intro x;obtain⟨⟨a,b,c,d,e,f⟩,r⟩:=A;cases f;rfl
 cases y:dX A.1 with
 | true=>
  obtain⟨x,j,q⟩:=NE A.1.2.2.1 A.2 z;refine⟨x,zO (r:=(_,_)) ?_ (g x),q.1,λ_=>q⟩;simp only[zkv,Q8,zm,aQ,n,y,j,fE,bM,ci,zE,zh,zp]
 | false=>
  obtain⟨x,j,q⟩:=NE (-1) A.2 z;refine⟨x,zO (r:=(_,_)) ?_ (g x),q.1,λh=>(by cases h)⟩;simp only[zkv,Q8,zm,aQ,n,y,j,fE,bM,da,zh]
set_option maxRecDepth 100000
section
variable {db:List (Sem zk)} {p:Sem am} {us:List (Sem zf)}
theorem zdc(h:aP db p)(m:tn db p)(us:zw):Oq (p.2.2.2.1,(dK us).flatMap (iE db p))=Q3:=by have d:=(xD h (dK us) (ua us)).1;unfold Oq;simp only[aF,aR,dJ];refine⟨⟨⟨⟨⟨aX m.wf.ncols ow,aX m.wf.nuq ow⟩,aX m.wf.nrf ow⟩,h.go.few.cp⟩,ow⟩,λr c=>?_⟩;obtain⟨u,_,x⟩:=K1.1 c;have:=(dl (Xa h m r x).1).1;have:=m.wf.ncols;omega
theorem UK(h:aP db p)(m:tn db p)(c:Io us<=1000):∃x,x.Perm ((dK us).flatMap (iE db p))/\kf p (zS db p) us=Q1 ((p.2.2.2.1,x),((gG db p (dK us):Nat):Int),0,()):=by have d:=(xD h (dK us) (ua us)).1;obtain⟨x,q,e,_⟩:=ZE (zdc h m us) (aX d ow);exact⟨x,e,ZV h m c q⟩
theorem zje(h:aP db p){A:ah}{n:Int}(d:kf p (zS db p) (cj p (zS db p))=Q1 (A,n,0,())):K5 p (zS db p)=Q1 (A,n,0,()):=by
 have c:=h.uall;have e:yv p (zS db p)=Q3:=by unfold yv;rw[c];rfl
 have g:HU p (zS db p)=(cj p (zS db p),0):=by unfold HU;rw[c];rfl
 have j:Ob p (zS db p) (cj p (zS db p))=Q3:=by unfold Ob;rw[d];rfl
 have q:VM p (zS db p) (cj p (zS db p))=(A,n,0):=by unfold VM;rw[d];rfl
 obtain⟨t,x⟩:=A;refine(zO (i:=zki p (zS db p)) (t:=t0) (n:=100000000) (outs:=[zk,zj,zj]) (by
  simp only[zki,Q8,zm,aQ,e,g,j,q,iz,zE,zh,zp];rfl) (y:=(((t.1,t.2.1,t.2.2.1,t.2.2.2.1,t.t.1,zr t.t.2),x),n,0,())) rfl).trans ?_
 rw[zm]
theorem Vz(h:aP db p)(m:tn db p):∃x,x.Perm ((cj p (zS db p)).flatMap (iE db p))/\K5 p (zS db p)=Q1 ((p.2.2.2.1,x),((gG db p (cj p (zS db p)):Nat):Int),0,()):=by have d:=h.few;have e:=h.rel.few;obtain⟨x,q,c⟩:=UK (us:=cj p (zS db p)) h m ow;rw[Ur h.nodup]at q c;exact⟨x,q,zje h c⟩
end
theorem Z8{db:zP}{p:ap}(C:∀x∈db,gL x)(A:aP db p){h:zP}{c s:zJ}(d:Ds h=db)(g:IU h=Q3)(v:RC c=s)(q:IT c=Q3)(B:Sd db s=(p,0))(j:Jd db s=Q3):
  nz h c=Q1 (p,zS db p,Q3,()):=by
 have z:=Z7 (Zm C A.fnd);have D:IV p db=Q3:=by unfold IV;rw[z];rfl
 have E:Pi p db=(p,zS db p,Q3):=by unfold Pi;rw[z];rfl
 have e:p=(p.1,p.2.1,p.2.2.1,(p.2.2.2.1.1,p.2.2.2.1.2.1,p.2.2.2.1.2.2.1,p.2.2.2.1.2.2.2.1,p.2.2.2.1.t.1,zr p.2.2.2.1.t.2),p.t):=by rw[zm]
 refine(zO (i:=i7u h c) (t:=t0) (n:=100000000) (outs:=[am,zk.sl,Q7]) (by
  simp only[i7u,zm,aQ,Q8,d,g,v,q,B,j,D,E,iz,zE,zh,zp];rfl) (y:=((p.1,p.2.1,p.2.2.1,(p.2.2.2.1.1,p.2.2.2.1.2.1,p.2.2.2.1.2.2.1,p.2.2.2.1.2.2.2.1,p.2.2.2.1.t.1,zr p.2.2.2.1.t.2),p.t),zS db p,Q3,())) rfl).trans ?_
 rw[<-e]
variable {s:zP}
theorem Ze{C:zJ}(W:∀x∈s,RgR x)(O:RgS C):
  ∃(p:ap)(B:zP)(J:Bool),nz s C=Q1 (p,B,J,())/\(J=Q3->∃db c,p=(ba db c).2/\(ba db c).1=0/\aP db p/\B=zS db p/\(∀x∈db,KB x)/\tn db p/\wK c):=by
 obtain⟨db,F,Z,N⟩:=Yd s;obtain⟨c,M,Y,E⟩:=Yb O;have j:Ds s=db:=by unfold Ds;rw[F];rfl
 have q:IU s=Q3:=by unfold IU;rw[F];rfl
 have I:RC C=c:=by unfold RC;rw[M];rfl
 have z:IT C=Q3:=by unfold IT;rw[M];rfl
 have d:∀x∈db,KB x:=by
  intro x e;obtain⟨y,X,rfl⟩:=N x e;exact Yc (W y X)
 have A:∀x∈db,gL x:=λx e=>(d x e).short
 have L:=Zk d E;have v:Jd db c=Q3:=by unfold Jd;rw[L];rfl
 have D:Sd db c=((ba db c).2,(ba db c).1):=by unfold Sd;rw[L];rfl
 by_cases g:(ba db c).1=0
 .have G:=Zc A g Y;have S:=zk1 d g E;rw[g]at D;exact⟨(ba db c).2,zS db (ba db c).2,Q3,Z8 A G j q I z D v,λ_=>⟨db,c,rfl,g,G,rfl,d,S,E⟩⟩
 .have T:((ba db c).1!=0)=Q3:=by simpa using g
  refine⟨jT,[],Q4,?_,λh=>by cases h⟩;refine zO (i:=i7u s C) (t:=t0) (n:=100000000) (outs:=[am,zk.sl,Q7]) (r:=(tup [agg [str [],str [],str [],str [],nils,ai 0,nils,nils,str [],ai 0,ai 0,str [],str [],nils,nils,ai 0],nils,kb Q4],[])) ?_ rfl;simp only[i7u,zm,aQ,Q8,j,q,I,z,D,v,T,zh]
section
variable {l:List (Sem zk)} {p:Sem am} {u:Sem zf} {acc:List (Sem zf)} {i:Nat}
end
section
variable {db:List (Sem zk)} {p:Sem am}
end
section
variable {α:Type} {k:α->Sem zf}
end
section
variable {K:Int} {l m:List (List (Sem zf))}
end
section
variable {db:List (Sem zk)} {p:Sem am} {us:List (Sem zf)}
end
section
variable {db:List (Sem zk)} {p:Sem am} {us a b:List (Sem zf)}
theorem Yr(h:¬p.1=lm)(v:zo):(rH p (zS db p) v (uu db p v)).length=(uu db p v).length:=by unfold rH;rw[zg h,cz]
theorem Ys(h:aP db p)(x:p.1=lm){I:zo}(c:I∈cj p (zS db p)):(rH p (zS db p) I (uu db p I)).length=1:=by unfold rH;rw[ze x,zg (show¬uu db p I=[]from(h.is I).1 c)];rfl
theorem NI(f:zo->Nat):∀(l:zw),(∀x∈l,f x=1)->(l.map f).sum=Io l
 |[],_=>rfl
 | x::r,h=>by
  rw[dC,List.sum_cons,NI f r (λy c=>h y (mX _ c)),h x pP,eA];omega
def Fe(db:zP)(p:ap):Nat:=((dR db p).2.filter λh=>(zX (cM p (zS db p)) h).1!=0).length
theorem zai(h:aP db p):((cj p (zS db p)).map λu=>(uu db p u).length).sum=Fe db p:=by
 have v:=DP (cM p (zS db p)) (dR db p).2 (cj p (zS db p)) h.nodup λu n=>h.ne0 n
 have t:((dR db p).2.filter λc:zw=>!(cj p (zS db p)).any λu:zo=>NT (cM p (zS db p)) u c)=(dR db p).2.filter λc=>!((zX (cM p (zS db p)) c).1!=0):=by
  refine List.filter_congr λc y=>?_
  congr 1;rw[gU,List.any_eq_true];constructor
  .rintro⟨u,n,e⟩;obtain⟨g,s⟩:=jE.1 e;have g:zX (cM p (zS db p)) c=u:=g;rw[g];simpa using s
  .intro j;have j:(zX (cM p (zS db p)) c).1≠0:=by simpa using j
   have e:NT (cM p (zS db p)) (zX (cM p (zS db p)) c) c=Q3:=jE.2 ⟨rfl,j⟩;exact⟨_,(h.is _).2 (List.ne_nil_of_mem (List.mem_filter.2 ⟨y,e⟩)),e⟩
 have d:∀(l:List zw)(q:zw->Bool),(l.filter q).length+(l.filter λr=>!q r).length=Io l:=by
  intro l q
  induction l with
  |nil=>rfl
  | cons x r z=>
   rw[List.filter_cons,List.filter_cons,eA];cases q x<;>simp<;>omega
 have:=d (dR db p).2 λc=>(zX (cM p (zS db p)) c).1!=0
 rw[t]at v;unfold Fe uu;omega
theorem Tp(h:aP db p):((cj p (zS db p)).flatMap (iE db p)).length+gG db p (cj p (zS db p))=if p.1=lm then(cj p (zS db p)).length else Fe db p:=by
 rw[Di];split
 next x=>exact NI _ _ λu c=>Ys h x c
 next x=>rw[<-zai h];congr 1;exact List.map_congr_left λu _=>Yr x u
end
def ofV(_:ap)(s:zP)(h:Int)(row:zw):zo×Int:=
 if Io row≠Io (getD s 0 (zi zk)).1.2.1\/¬∀v∈row,bh v=Q3 then((0,0,[]),1)else if(getD row h.toNat (zi zf)).1=0 then((0,0,[]),6)else(getD row h.toNat (zi zf),0)
theorem zl8{p:ap}{row:zw}(h:Qz p s)(E:mB p s=Q3)(I:Io row<=1000)(B:Io row=Io (getD s 0 (zi zk)).1.2.1->zK (de p s) (Io row)=Q3):
  zab p s row=Q1 ((ofV p s (de p s) row).1,(ofV p s (de p s) row).2,()):=by
 obtain⟨C,D⟩:=Bd h;have G:=(mz h.two).1;have g:zK 0 (Io s)=Q3:=zz (i:=0) G;unfold ofV;by_cases c:Io row=Io (getD s 0 (zi zk)).1.2.1
 .have F:=B c;have e:((Io row:Int)!=((Io (getD s 0 (zi zk)).1.2.1:Nat):Int))=Q4:=by rw[c];simp
  have x:(zcR p s row).val=Q1 (.inl (.h4 s row row (Io row:Int) ((0:Nat):Int) (p,()) ((0,0,[]),()))):=by
   simp only[zcR,zm,aQ,Q8,C,D,g,iz,aA,sM,zh];rw[zg (by rw[gT];exact e)];rfl
  have z:∀i(x:i<Io row),(UN (.h4 s row row (Io row:Int) (i:Int) (p,()) ((0,0,[]),()))).val=if bh row[i]=Q3 then Q1 (.inl (.h4 s row row (Io row:Int) ((i+1:Nat):Int) (p,()) ((0,0,[]),())))else Q1 (.inr (.tup [.agg [.int .i64 0,.int .i64 0,.str []],.int .i64 1],[])):=λi x=>by
   simp only[UN,Q8,zL x,zz x,zh,z7 _ _ x];rw[zt i um];cases bh row[i]<;>simp
  rcases mD (t:=UN) (Φ:=λr=>r=(.tup [.agg [.int .i64 0,.int .i64 0,.str []],.int .i64 1],[])) 1 (λi=>.h4 s row row (Io row:Int) (i:Int) (p,()) ((0,0,[]),())) (λi=>∀h:i<Io row,bh row[i]=Q3) (Io row) (λi x _=>by
   by_cases y:bh row[i]=Q3
   .exact .inl ⟨λ_=>y,zN.of (by rw[z i x,ze y])⟩
   .exact .inr ⟨λq=>y (q x),_,z6.of (by rw[z i x,zg y]),rfl⟩)with⟨A,n⟩|⟨A,r,n,rfl⟩
  .have d:∀v∈row,bh v=Q3:=λv z=>by
    obtain⟨i,x,rfl⟩:=gD z;exact A i x x
   rw[zg (by rintro(q|q);exact q c;exact q d)];by_cases j:(getD row (toNat (de p s)) (zi zf)).1=0
   .rw[ze j];have e0:((getD row (toNat (de p s)) (zi zf)).1==0)=Q3:=by simpa using j
    refine zB x (n.ends (z6.of (r:=(.tup [.agg [.int .i64 0,.int .i64 0,.str []],.int .i64 6],[])) ?_)) ow rfl;simp only[UN,Q8,zG,zm,aQ,E,F,e0,zE,zh,zp]
   .rw[zg j];have e0:((getD row (toNat (de p s)) (zi zf)).1==0)=Q4:=by simpa using j
    refine zB x (n.ends (z6.of (r:=(.tup [.agg [.int .i64 (getD row (toNat (de p s)) (zi zf)).1,.int .i64 (getD row (toNat (de p s)) (zi zf)).2.1,.str (getD row (toNat (de p s)) (zi zf)).2.2],.int .i64 0],[])) ?_)) ow rfl;simp only[UN,Q8,zG,zm,aQ,E,F,e0,zE,zh,zp]
  .rw[ze (.inr λq=>A λi x _=>q _ (bp x))];exact zB x n ow rfl
 .rw[ze (.inl c)];have e:((Io row:Int)!=((Io (getD s 0 (zi zk)).1.2.1:Nat):Int))=Q3:=by
   rw[bne_iff_ne];exact λq=>c (by exact_mod_cast q)
  refine zO (r:=(.tup [.agg [.int .i64 0,.int .i64 0,.str []],.int .i64 1],[])) ?_ rfl;simp only[zcR,zm,aQ,Q8,C,D,g,iz,aA,sM,zh];exact ze e
section
variable {db:List (Sem zk)} {p:Sem am}
theorem aP.of(h:aP db p){row:zw}(c:Io row<=1000):zab p (zS db p) row=Q1 ((ofV p (zS db p) (cM p (zS db p)) row).1,(ofV p (zS db p) (cM p (zS db p)) row).2,()):=by
 have:=zl8 (row:=row) h.go h.pc.1 c (λe=>by
  rw[h.pc.2];unfold zK;rw[aF];have x:=h.col.1;have g:=h.col.2;have d:Io row=Io (dR db p).1.2.1:=e;exact⟨zy x,zy ow⟩)
 rwa [h.pc.2]at this
theorem aP.row(h:aP db p){row:zw}(x:row∈(dR db p).2):ofV p (zS db p) (cM p (zS db p)) row=if(getD row (toNat (cM p (zS db p))) (zi zf)).1=0 then((0,0,[]),6)else(getD row (toNat (cM p (zS db p))) (zi zf),0):=by
 unfold ofV;rw[zg];rintro(q|q)
 .exact q (h.inn row x).2
 .exact q (dl (h.rel.fits row x)).2.1
end
def zqz:Tr (Empty⊕aw):=
 chk Q3
 (chk Q3
  (chk Q3 (chk Q3 (chk Q3 (br Q4 (re (kb Q4) []) (chk Q3 (chk Q3 (chk Q3 (re (AV.bool Q3) [])))))))))
def AW:=ao [Q7] t0 100000000 (zqz)
def AU:=(AW).isSome
def B6:=o1 (AW)
def zmz:=FT [] [Q7] λ_=>AW
theorem zhi:FK 11 zmz:=GQ.T1 (f:=Tryz.f11) (keep:=k0) (e:=e0)
def zp0:=zfY.add 11 zmz
theorem TO:zu zp0:=GQ.add zhi
abbrev zvK:=kl [(10,[5,6,8,9,11,13,14])]
inductive H5q where
 |h10 (l6:zP) (i9:zq) (l11:zw) (i13:Int) (i14:Int) (z0:zn [CP.d am]) (z1:zn [CP.d zk])
abbrev e5q:H5q->Nat×St
 |.h10 g e c h x z j=>(10,⟨tm 87 [(5,ptr 0 0),(6,sl zk g),(8,ptr 1 0),(9,ai e),(11,sl zf c),(13,ai h),(14,ai x)],[AO.box (bI [] [CP.d am] z),AO.box (bI [] [CP.d zk] j)]⟩)
def i5q(j:Sem zk.sl)(x:zJ):Tr (H5q⊕aw):=
 let e:=(x.1,x.2.1,x.2.2.1,x.2.2.2.1,x.t.1,x.t.2.1,x.t.q.1,x.t.q.2.1,zr x.t.t.1,x.t.t.2.1,x.t.t.q.1,zr x.t.t.q.2.1,x.t.t.t)
 let h:=Du j e
 let c:=(h.1.1,h.1.2.1,h.1.2.2.1,(h.1.2.2.2.1.1,h.1.2.2.2.1.2.1,h.1.2.2.2.1.2.2.1,h.1.2.2.2.1.2.2.2.1,h.1.2.2.2.1.t.1,zr h.1.2.2.2.1.t.2),h.1.t)
 let d:=zjh c h.2.1
 let g:=HU c h.2.1
 chk (xN j e)
 (br (!h.2.2) (chk Q3 (re (AV.bool B6) []))
  (chk (VH c h.2.1) (chk (yv c h.2.1) (br (cond (d.2.2!=0) Q3 (g.2!=0)) (re (kb Q4) []) (Tr.to (H5q.h10 h.2.1 d.2.1 g.1 0 0 (h.1,()) (d.1,())))))))
def t5q:H5q->Tr (H5q⊕aw)
 | .h10 d g c x h z j=>
  let n:=zK 0 (Io d)
  let e:=d.getD (toNat 0) (zi zk)
  let C:=(↑(Io e.2):Int)
  let q:=(z.1.1,z.1.2.1,z.1.2.2.1,(z.1.2.2.2.1.1,z.1.2.2.2.1.2.1,z.1.2.2.2.1.2.2.1,z.1.2.2.2.1.2.2.2.1,z.1.2.2.2.1.t.1,zr z.1.2.2.2.1.t.2),z.1.t)
  let s:=getD e.2 h.toNat (zi zf.sl)
  let D:=uOf q d s
  let v:=Γ Δ (h+1)
  let y:=Γ Δ ((↑(Io j.1.2):Int)+g)
  let A:=y==(↑c.length:Int)
  let B:=y==x
  chk n
  (br (Q0 (h<C)) (chk n (chk (zK h (Io e.2)) (chk (zl7 q d s) (br (D.2==0) (Tr.to (H5q.h10 d g c (Γ Δ (x+1)) v z j)) (Tr.to (H5q.h10 d g c x v z j)))))) (br (z.1.1==lm) (chk (cond A AU Q3) (re (AV.bool (cond A B6 Q4)) []))
  (chk (cond B AU Q3) (re (AV.bool (cond B B6 Q4)) []))))
def rA(x:Sem zk.sl)(h:zJ):=ao [Q7] t5q 100000000 (i5q x h)
def F5q:=FT [zk.sl,ar] [Q7] λx=>rA x.1 x.2.1
theorem zoL:FK 5 F5q:=TO.T1 (f:=Tryz.f5) (keep:=zvK) (e:=e5q)
theorem K6:AW=Q1 (Q3,()):=zO (i:=zqz) (r:=(.bool Q3,[])) rfl rfl
theorem pV:AU=Q3/\B6=Q3:=⟨by unfold AU;rw[K6];rfl,by unfold B6;rw[K6];rfl⟩
def tj(db:zP)(p:ap)(i:Nat):Nat:=(((dR db p).2.take i).filter λh=>(zX (cM p (zS db p)) h).1!=0).length
theorem Tq{y:zJ}(hx:∀x∈s,RgR x)(Y:RgS y):rA s y=Q1 (Q3,()):=by
 obtain⟨p,D,M,h,C⟩:=Ze hx Y;have F:xN s y=Q3:=by unfold xN;rw[h];rfl
 have J:Du s y=(p,D,M):=by unfold Du;rw[h];rfl
 cases M with
 | false=>
  refine zO (r:=(.bool Q3,[])) ?_ rfl;simp only[i5q,zm,aQ,Q8,F,J,pV.2,da,zh]
 | true=>
  obtain⟨db,_,_,_,g,rfl,_,Z,_⟩:=C rfl;obtain⟨v,q1,N⟩:=Vz g Z;have E:=g.uall;have O:yv p (zS db p)=Q3:=by unfold yv;rw[E];rfl
  have S:HU p (zS db p)=(cj p (zS db p),0):=by unfold HU;rw[E];rfl
  have T:VH p (zS db p)=Q3:=by unfold VH;rw[N];rfl
  have W:zjh p (zS db p)=((p.2.2.2.1,v),((gG db p (cj p (zS db p)):Nat):Int),0):=by unfold zjh;rw[N];rfl
  have G:=g.rel.few;have d:zK 0 (zS db p).length=Q3:=zz (i:=0) (mz g.go.two).1;have c:=Tp (db:=db) (p:=p) g;rw[<-q1.length_eq]at c;have hs:(i5q s y).val=Q1 (.inl (.h10 (zS db p) ((gG db p (cj p (zS db p)):Nat):Int) (cj p (zS db p)) ((tj db p 0:Nat):Int) ((0:Nat):Int) (p,()) ((p.2.2.2.1,v),()))):=by
   simp only[i5q,zm,aQ,Q8,F,J,O,S,T,W,ci,iz,aA,zE,zh,zp];rfl
  have I:=zN.all (t:=t5q) 1 (λi=>.h10 (zS db p) ((gG db p (cj p (zS db p)):Nat):Int) (cj p (zS db p)) ((tj db p i:Nat):Int) (i:Int) (p,()) ((p.2.2.2.1,v),())) (dR db p).2.length λi q=>zN.of (by
   have L:=bp q;have B:=g.of (row:=(dR db p).2[i]) (aX (g.len L) ow);rw[g.row L]at B;have o1:zl7 p (zS db p) (dR db p).2[i]=Q3:=by unfold zl7;rw[B];rfl
   have o2:(uOf p (zS db p) (dR db p).2[i]).2=if(zX (cM p (zS db p)) (dR db p).2[i]).1=0 then 6 else 0:=by
    unfold uOf;rw[B];show(ite _ _ _:zo×Int).2=_;split<;>rfl
   have e0:getD (zS db p) (toNat 0) (zi zk)=dR db p:=rfl;have hw:tj db p i<=i:=aX (List.length_filter_le _ _) sg;have X:tj db p (i+1)=if(zX (cM p (zS db p)) (dR db p).2[i]).1=0 then tj db p i else tj db p i+1:=by
    unfold tj;rw[bx q,List.filter_append,gS,List.filter_cons];by_cases e:(zX (cM p (zS db p)) (dR db p).2[i]).1=0
    .rw[ze e,zg (by simpa using e)];rfl
    .rw[zg e,ze (by simpa using e)];rfl
   simp only[t5q,Q8,zm,aQ,d,e0,zL q,zz q,z7 _ _ q,o1,o2,zh];rw[zt i um,zt (tj db p i) um,X];by_cases e:(zX (cM p (zS db p)) (dR db p).2[i]).1=0
   .rw[ze e,ze e];rfl
   .rw[zg e,zg e];rfl)
  have n:tj db p (dR db p).2.length=Fe db p:=by unfold tj Fe;rw[gF]
  have hL:=g.few;have hW:Fe db p<=(dR db p).2.length:=List.length_filter_le _ _;have e0:getD (zS db p) (toNat 0) (zi zk)=dR db p:=rfl;rw[n]at I;refine zB hs (I.ends (z6.of (r:=(.bool Q3,[])) ?_)) ow rfl;by_cases j:p.1=lm
  .rw[ze j]at c;have z:(p.1==lm)=Q3:=by rw[j];rfl
   have A:(Γ Δ ((Io v:Int)+((gG db p (cj p (zS db p)):Nat):Int))==((cj p (zS db p)).length:Int))=Q3:=by rw[bd,ee];omega
   simp only[t5q,Q8,zm,aQ,d,e0,zG,z,A,pV.1,pV.2,ax,zE,zh,zp]
  .rw[zg j]at c;have z:(p.1==lm)=Q4:=by simpa using j
   have A:(Γ Δ ((Io v:Int)+((gG db p (cj p (zS db p)):Nat):Int))==((Fe db p:Nat):Int))=Q3:=by rw[bd,ee];omega
   simp only[t5q,Q8,zm,aQ,d,e0,zG,z,A,pV.1,pV.2,ax,zE,zh,zp]
open Go Go.RowKit Go.ChangeShapes
variable {W B:World}
theorem IS(e:B.os=W.os)(x:B.output=W.output)(h:∀b,b<W.heap.size->B.heap[b]?=W.heap[b]?)(g:MemPlace->Prop):W.keptBut B g:=by
 refine⟨e,x,λi j=>?_⟩;rw[h i j];cases W.heap[i]? with
 |none=>rfl
 | some o=>
  cases o with
  |cells c t q=>exact⟨rfl,rfl,rfl,λ_ _=>rfl⟩
  |map n d=>exact .inr ⟨rfl,rfl⟩
  |_=>rfl
section
variable {H:Type} {enc:TypeId×Value->H} {P:Program}
variable {W:World}{v:Value}
theorem MO{f:Func}{z:ChangeSpec}{C c s:Bool}{B:World}{x:Array Value}{E F:List (DataW H)}{h pa pv:List MemPlace}
  (I:DataW.Whole enc P f.params.toList z.vars Q4 W x.toList E F h)
  (q:∀(b:Nat)(D:Nat->Bool)(O:Bool),DataW.TrodAll enc P B b D O f.resultTypes.toList (v.resultList f.resultTypes.size) (z.fn H (E++F)).results [])
  (d:∀D:Nat->Bool,(∀p∈h,D p.block=Q3)->DataW.TrodAll enc P B 0 D Q3 f.params.toList x.toList (z.fn H (E++F)).args pa)
  (e:∀D:Nat->Bool,(∀p∈h,D p.block=Q3)->DataW.TrodVars enc P B D z.vars (z.fn H (E++F)).vars pv)
  (y:h=pa++pv) (S:W.keptBut B (·∈h)) (J:∀a:Addr,a.block<W.heap.size->B.frozen? a=W.frozen? a)
  (M:∀(j:Nat)(t:TypeId)(r:Value),f.resultTypes[j]?=Q1 t->(v.resultList f.resultTypes.size)[j]?=Q1 r->Value.okWide P B .any 0 t r):
  z.post enc P f Q4 C c s W x v B:=by
 have n:∀p∈h,(λb=>Q0 (b<W.heap.size)) p.block=Q3:=λp g=>by simpa using I.lt p g
 have L:=I.lt;refine⟨E,F,h,[],pa,pv,I,q _ _ _,d _ n,e _ n,World.keptBut_mono (λp g=>⟨g,?_⟩) S,λ_=>?_⟩
 .rw[y,bZ]at g;exact Or.inr g
 .obtain⟨_,_,_,_,_,T,X⟩:=I;refine⟨M,_,_,([]++pa)++pv,⟨[]++pa,pv,trodAll_append (d _ (λ_ _=>rfl)) (q _ _ _),e _ (λ_ _=>rfl),rfl,?_,?_⟩,?_⟩
  .intro b A g;have G:MemPlace.cell b A∈h:=by rw[y];simpa using g
   rw[J ⟨b,A,none⟩ (L _ G)];exact T b A G
  .intro N;cases N
  .intro p g _;rw[y];simpa using g
variable {r:Go.Reach}{b:Nat}{t:TypeId}
theorem Up{x:Array Field}(d:P.underlying t=Q1 (.struct x))(h:Value.okWide P W r b t v):∃c,v=.agg c:=by unfold Value.okWide at h;rw[d]at h;obtain⟨c,rfl,_⟩:=h;exact⟨c,rfl⟩
variable {e:TypeId}
theorem YR(x:P.underlying t=Q1 (.slice e))(h:Value.okWide P W r b t v):∃a n c,v=.slice a n c:=by
 unfold Value.okWide at h;rw[x]at h;simp only at h;unfold Cell.okWide at h;rw[x]at h;unfold Cell.ok at h;rw[x]at h;cases v<;>simp at h
 exact⟨_,_,_,rfl⟩
variable {k:IntKind}
theorem zlq(x:P.underlying t=Q1 (.int k))(h:Value.okWide P W r b t v):∃n,v=.int k n:=by
 unfold Value.okWide at h;rw[x]at h;simp only at h;unfold Cell.okWide at h;rw[x]at h;unfold Cell.ok at h;rw[x]at h;cases v<;>simp at h
 exact⟨_,by rw[h.1]⟩
variable {j:Nat}{q:DataW H}{z:List MemPlace}
theorem O3{n:Array Field}{s:Sh}(d:Ql P j t s=Q3)(g:s.isAgg=Q3)(y:P.underlying t=Q1 (.struct n))(c:Value.okWide P W r b t v)
  (h:DataW.Trod enc P W 0 (λ_=>Q3) Q3 t v q z):∃x:Sem s,Rv W U0 iW (zI s x) v:=by refine AT d h ⟨λ_=>g,λ_=>Up y c⟩ (λe=>?_);rw[g]at e;cases e
theorem TZ{s:Sh}(n:Ql P j t (.sl s)=Q3)(y:P.underlying t=Q1 (.slice e))(g:Value.okWide P W r b t v)
  (h:DataW.Trod enc P W 0 (λ_=>Q3) Q3 t v q z):∃x:List (Sem s),Rv W U0 iW (.sl s x) v:=by obtain⟨a,m,c,rfl⟩:=YR y g;exact AT (s:=.sl s) n h ⟨(λ⟨_,d⟩=>(by cases d)),(λd=>(by cases d))⟩ (λ_=>rfl)
theorem zcK{n:List MemPlace}(e:Ql P j t (.int k)=Q3)(g:P.underlying t=Q1 (.int k))(d:Value.okWide P W r b t v)
  (h:DataW.Trod enc P W 0 (λ_=>Q3) Q3 t v q n):∃x:Int,Rv W U0 iW (.int k x) v:=by obtain⟨m,rfl⟩:=zlq g d;exact AT (s:=.int k) e h ⟨(λ⟨_,c⟩=>(by cases c)),(λc=>(by cases c))⟩ (λ_=>rfl)
theorem Ok{n:Nat->AV}{k:FuncId}{L:z8}(q:oh P n k L){iV:List AV}{args:Array Value}(c:BN n W U0)(t:dg W U0 iW iV args.toList)(y:(L iV (λ_=>.dead) 0).val=Q1 {val:=.bool Q3})(d:AV.idsL iV=[]):
  Calls P k args W λe j=>e=.returned (.bool Q3)/\kA W j/\∀b,b<W.heap.size->j.heap[b]?=W.heap[b]?:=by have:=(q.calls W U0 iW (λ_=>.dead) 0 iV args.toList _ [] y t (λ_ h=>h.elim) c ⟨sw,sw⟩ (by rw[d];simp) sw sw).1;rw[show args.toList.toArray=args by simp]at this;refine this.mono ?_;rintro e A ⟨v,z,B,rfl,x⟩;have g:=x.val;cases g;exact⟨rfl,x.ext,λb s=>x.same b s sw⟩
end
open Go Go.Proofs Go.RowKit Go.ChangeShapes Go.WideShapes Go.ChangeAt Go.Proofs.YtjdjldbhjmgmkaaGreatDoor
theorem Mt{P:Program}{w:World}:∀{l:List (String×DataW Unit)}{s:List MemPlace},DataW.LaidVars P w l s->∀n d,(n,d)∈l->
  ∃g t c x p,P.globalNamed n=Q1 g/\(P.globals[g]?).map (·.type)=Q1 t/\w.var? P n=Q1 c/\DataW.trod (λ_=>()) P w 0 (λ_=>Q3) Q4 x t c.toList=Q1 (d,p)
 |[],_,_,_,_,h=>by simp at h
 | (n0,C)::r,s,h,n,d,j=>by
  obtain⟨g,t,c,x,p,q,v,y,z,A,B,_⟩:=h;rcases cf.1 j with e|j
  .cases e;exact⟨g,t,c,x,p,v,y,z,A⟩
  .exact Mt B n d j
variable {l:List (String×DataW Unit)}{P:Program}{w:World}
theorem IW(d:(l.filter λx=>x.2.handleName?.isSome).isEmpty=Q3)(h:laidMetH P l w):laidMet P l w:=by
 unfold laidMetH at h;split at h
 .exact h
 next a b c=>rw[c]at d;simp at d
variable {H:Type}{n:Nat->Bool}{t:TypeId}{d:List Value}{p:List MemPlace}
theorem qP{enc:TypeId×Value->H}{x:Nat}{C:Bool}(e:P.underlying t=Q1 .string){b:List UInt8}
  (h:DataW.trod enc P w x n C j t d=Q1 (.lit (.string b),p)):d=[.string ⟨b.toArray⟩]:=by
 cases j with
 |zero=>simp[DataW.trod]at h
 | succ j=>
  unfold DataW.trod at h;rw[e]at h;split at h
  all_goals first
   |(rename_i c;cases c;done)
   |(rename_i c _;cases c;done)
   |(simp at h;done)
   |skip
  rename_i s c;split at h
  .simp only[bj,b5,DataW.lit.injEq,Lit.string.injEq]at h;rw[<-h.1]
  .cases h
theorem Z9{enc:TypeId×Value->H}{x:Nat}{C:Bool}(e:P.underlying t=Q1 (.int .u64)){z:Int}
  (h:DataW.trod enc P w x n C j t d=Q1 (.lit (.int .u64 z),p)):d=[.int .u64 z]:=by
 cases j with
 |zero=>simp[DataW.trod]at h
 | succ j=>
  unfold DataW.trod at h;rw[e]at h;split at h
  all_goals first
   |(rename_i c;cases c;done)
   |(rename_i c _;cases c;done)
   |(simp at h;done)
   |skip
  all_goals(try split at h)
  all_goals first
   |(cases h;done)
   |(simp at h;done)
   |skip
  all_goals simp_all
variable {e:TypeId}
theorem Ga(h:laidMet Tryz.prog l W){n:String}{g:Nat}{len:Nat}{F:List (DataW Unit)}(X:(n,DataW.agg F)∈l)
  (J:Tryz.prog.globalNamed n=Q1 g) (Z:(Tryz.prog.globals[g]?).map (·.type)=Q1 t) (hu:Tryz.prog.underlying t=Q1 (.array len e)) (N:Tryz.prog.cellsOf e=1):
  ∃y T s,W.heap[g]?=Q1 (.cells y T s)/\∀(j:Nat) d,F[j]?=Q1 d->∃x p,DataW.trod (λ_=>()) Tryz.prog W 0 (λ_=>Q3) Q4 x e ((y.toList.drop j).take 1)=Q1 (d,p):=by
 obtain⟨ps,M,_,_⟩:=h;obtain⟨g',t',y,x,p,G,I,v,q⟩:=Mt M n _ X;rw[J]at G;cases G;rw[Z]at I;cases I;have C:∃T s,W.heap[g]?=Q1 (.cells y T s):=by
  unfold World.var? at v;rw[J]at v;simp only[Option.bind_some]at v;split at v
  next c T s O=>cases v;exact⟨T,s,O⟩
  .cases v
 obtain⟨T,s,z⟩:=C;refine⟨y,T,s,z,?_⟩;cases x with
 |zero=>simp[DataW.trod]at q
 | succ x=>
  unfold DataW.trod at q;rw[hu]at q;simp only at q;split at q
  .rw[dq]at q;obtain⟨xs,E,L⟩:=q;simp only[b5,DataW.agg.injEq]at L;obtain⟨S,D⟩:=Dz E;intro j d A;rw[<-L.1,dt,dq]at A;obtain⟨⟨d',p'⟩,A,rfl⟩:=A;have B:j<Io xs:=(cR.1 A).1;have Y:(List.range len)[j]?=Q1 j:=by
    rw[yI];rw[S,List.length_range]at B;exact B
   have:=D j j Y;rw[A,N,Nat.mul_one]at this;exact⟨x,p',this⟩
  .cases q
variable {v:Value}
theorem SH{c:Array Value}(h:(c.toList.drop j).take 1=[v]):c[j]?=Q1 v:=by have:=congrArg (·[0]?) h;simp only[List.getElem?_take,BX]at this;simpa using this
theorem gl0(h:laidMet Tryz.prog l W)(D:("caddis/stmt.types",Rows.laid_caddis_stmt_types)∈l):Rv W U0 iW (.eptr [.str [73,78,84],.str [84,69,88,84],.str [66,79,79,76]] 0) (.pointer (Q1 ⟨1,0,none⟩)):=by
 obtain⟨y,T,G,C,q⟩:=Ga h (g:=1) (t:=347) (e:=9) (len:=3) D kw kw kw kw;have n:Tryz.prog.underlying 9=Q1 .string:=by kernel_rfl
 have x:∀j,W.cell? ⟨1,j,none⟩=y[j]?:=by
  intro j;unfold World.cell?;rw[C];rfl
 obtain⟨_,_,z⟩:=q 0 _ rfl;obtain⟨_,_,A⟩:=q 1 _ rfl;obtain⟨_,_,B⟩:=q 2 _ rfl;have v:=SH (qP n z);have E:=SH (qP n A);have F:=SH (qP n B);refine .eptr [.str [73,78,84],.str [84,69,88,84],.str [66,79,79,76]] 0 1 0 (λj=>match j with
  |0=>.string ⟨#[73,78,84]⟩
  |1=>.string ⟨#[84,69,88,84]⟩
  |_=>.string ⟨#[66,79,79,76]⟩) (uH (by rw[x];exact v)) (λh=>h) ?_ ?_ ?_
 .intro j s
  match j,s with
  |0,_=>rw[x];exact v
  |1,_=>rw[x];exact E
  |2,_=>rw[x];exact F
 .intro j s
  match j,s with
  |0,_=>rfl
  |1,_=>rfl
  |2,_=>rfl
 .intro j c d
  match j,d with
  |0,d=>simp at d;subst d;exact .str [73,78,84] (by simp[aJ])
  |1,d=>simp at d;subst d;exact .str [84,69,88,84] (by simp[aJ])
  |2,d=>simp at d;subst d;exact .str [66,79,79,76] (by simp[aJ])
  |j+3,d=>simp at d
set_option maxRecDepth 100000 in
theorem gl2(h:W.ShapedOpen Tryz.prog):Rv W U0 iW .gint (.pointer (Q1 ⟨0,0,none⟩)):=by
 have q:((begin Tryz.prog (λ_ _=>0) default).world.heap[0]?).bind Obj.row?=Q1 (#[.int .i64 0],3):=by kernel_rfl
 obtain⟨c,v,B,A⟩:=h.1 0 _ _ (mf kw) q;obtain⟨F,e,_,d⟩:=A kw;have t:Tryz.prog.cellTypes Tryz.prog.depth 3=Q1 [3]:=by kernel_rfl
 rw[t]at e;cases e;have s:c.size=1:=B;obtain⟨u,C,x⟩:=d 0 c[0] sw;have:u=3:=by simpa using C.symm
 subst this;have y:Tryz.prog.underlying 3=Q1 (.int .i64):=by kernel_rfl
 unfold Cell.ok at x;rw[y]at x;have g:c=#[c[0]]:=by
  apply Array.ext
  .simp[s]
  .intro i D E;have:i=0:=by omega
   subst this;rfl
 cases j:c[0]<;>rw[j]at x<;>simp at x
 rename_i k n;obtain⟨rfl,z⟩:=x;refine .gint n 0 3 (0,0) z ?_ (λh=>h);rw[v,g,j]
theorem gl5(h:laidMet Tryz.prog l W)(L:W.ShapedOpen Tryz.prog)(J:("internal/strconv.uint64pow10",Rows.laid_internal_strconv_uint64pow10)∈l):Rv W U0 iW (.tab .u64 mH) (.pointer (Q1 ⟨5,0,none⟩)):=by
 obtain⟨c,T,C,A,G⟩:=Ga h (g:=5) (t:=391) (e:=268) (len:=20) J kw kw kw kw;have M:Tryz.prog.underlying 268=Q1 (.int .u64):=by kernel_rfl
 have D:((begin Tryz.prog (λ_ _=>0) default).world.heap[5]?).bind Obj.row?=Q1 (Array.replicate 20 (.int .u64 0),391):=by kernel_rfl
 obtain⟨d,s,v,_⟩:=L.1 5 _ _ (mf kw) D;rw[A]at s;have n:c=d:=by simp only[bj,Obj.cells.injEq]at s;exact s.1
 have x:c.size=20:=by rw[n,v];simp
 have y:c=(mH.map λz=>Value.int .u64 z).toArray:=by
  apply Array.ext
  .rw[x];rfl
  .intro i E F;have q:∀(j:Nat) z,mH[j]?=Q1 z->c[j]?=Q1 (.int .u64 z):=by
    intro j z N;obtain⟨_,_,g⟩:=G j (.lit (.int .u64 z)) (by
     have:(match(Rows.laid_internal_strconv_uint64pow10:DataW Unit)with|.agg l=>l|_=>[])=mH.map λz=>DataW.lit (.int .u64 z):=by kernel_rfl
     have B:(match(Rows.laid_internal_strconv_uint64pow10:DataW Unit)with|.agg l=>l|_=>[])[j]?=Q1 (.lit (.int .u64 z)):=by
      rw[this,dt,N];rfl
     exact B)
    exact SH (Z9 M g)
   have I:i<Io mH:=by simpa using F
   have:=q i mH[i] (zZ I);rw[pA E,bj]at this;rw[this,List.getElem_toArray,List.getElem_map]
 exact .tab .u64 mH 5 T C (by rw[A,y]) (λh=>h)
theorem Yf:laidOutB Tryz.prog=Q3:=kw
def xG(P:Program)(t:TypeId):Bool:=match P.underlying t with
 |some (.struct _)=>Q3
 |_=>Q4
theorem IR(h:xG P t=Q3):∃x,P.underlying t=Q1 (.struct x):=by
 unfold xG at h;split at h
 .exact⟨_,‹_›⟩
 .cases h
theorem un4:Tryz.prog.underlying 4=Q1 .bool:=kw
theorem ztk{enc:TypeId×Value->H}(x:∀b,b<W.heap.size->B.heap[b]?=W.heap[b]?){d:DataW H}{e:List MemPlace}(s:Tryz.prog.readableRec t=Q3)(c:t<Tryz.prog.types.size)
  (h:DataW.Trod enc Tryz.prog W 0 (λ_=>Q3) Q3 t v d e) (g:∀p∈e,p.block<W.heap.size)  (y:∀p∈e,n p.block=Q3):DataW.Trod enc Tryz.prog B 0 n Q3 t v d e:=
 WideElems.Trod_stays Yf s c h (λp q=>by
  have j:=x p.block (g p q);cases p with
  |cell b z=>exact World.cell?_of_block j
  |map b=>exact j) y
theorem zcG(h:laidMet Tryz.prog l W)(x:W.ShapedOpen Tryz.prog)(c:("caddis/stmt.types",Rows.laid_caddis_stmt_types)∈l)(d:("internal/strconv.uint64pow10",Rows.laid_internal_strconv_uint64pow10)∈l):BN TX W U0:=by
 intro g
 match g with
 |0=>exact gl2 x
 |1=>exact gl0 h c
 |2=>exact .any _
 |3=>exact .any _
 |4=>exact .any _
 |5=>exact gl5 h x d
 |g+6=>exact .any _
theorem Uo{r:Go.Reach}{b:Nat}(x:P.underlying t=Q1 .string)(h:Value.okWide P W r b t v):∃n,v=.string n:=by
 unfold Value.okWide at h;rw[x]at h;simp only at h;unfold Cell.okWide at h;rw[x]at h;unfold Cell.ok at h;rw[x]at h;cases v<;>simp at h
 exact⟨_,rfl⟩
structure BT (t:TypeId) (s:Sh):Prop where
 got:∀{H:Type}{enc:TypeId×Value->H}{W:World}{r:Go.Reach}{b:Nat}{v:Value}{d:DataW H}{ps:List MemPlace},Value.okWide Tryz.prog W r b t v->DataW.Trod enc Tryz.prog W 0 (λ_=>Q3) Q3 t v d ps->∃x:Sem s,Rv W U0 iW (zI s x) v
 rd:Tryz.prog.readableRec t=Q3
 row:t<Tryz.prog.types.size
set_option maxRecDepth 100000 in
theorem BT.struct{s:Sh}{n:Nat}(c:Ql Tryz.prog n t s=Q3)(e:s.isAgg=Q3)(g:xG Tryz.prog t=Q3)(q:Tryz.prog.readableRec t=Q3)(d:t<Tryz.prog.types.size):BT t s where
 got:=λx h=>by
  obtain⟨v,j⟩:=IR g;exact O3 c e j x h
 rd:=q
 row:=d
set_option maxRecDepth 100000 in
theorem BT.slice{s:Sh}{n:Nat}(c:Ql Tryz.prog n t (.sl s)=Q3)(g:Tryz.prog.underlying t=Q1 (.slice e))(j:Tryz.prog.readableRec t=Q3)(d:t<Tryz.prog.types.size):BT t (.sl s) where
 got:=λx h=>TZ c g x h
 rd:=j
 row:=d
set_option maxRecDepth 100000 in
theorem BT.int{k:IntKind}{n:Nat}(c:Ql Tryz.prog n t (.int k)=Q3)(d:Tryz.prog.underlying t=Q1 (.int k))(e:Tryz.prog.readableRec t=Q3)(row:t<Tryz.prog.types.size):BT t (.int k) where
 got:=λx h=>zcK c d x h
 rd:=e
 row:=row
set_option maxRecDepth 100000 in
theorem BT.str{n:Nat}(d:Ql Tryz.prog n t .str=Q3)(e:Tryz.prog.underlying t=Q1 .string)(g:Tryz.prog.readableRec t=Q3)(row:t<Tryz.prog.types.size):BT t .str where
 got:=λc h=>by
  obtain⟨m,rfl⟩:=Uo e c;exact AT (s:=.str) d h ⟨(λ⟨_,x⟩=>(by cases x)),(λx=>(by cases x))⟩ (λ_=>rfl)
 rd:=g
 row:=row
inductive N4:List TypeId->List Sh->Prop
 |nil:N4 [] []
 |cons {t:TypeId} {s:Sh} {ts:List TypeId} {ss:List Sh} (h:BT t s) (r:N4 ts ss):N4 (t::ts) (s::ss)
variable {y:List TypeId}{E:List Sh}
set_option maxRecDepth 100000 in
theorem N4.got(h:N4 y E):∀{H:Type}{enc:TypeId×Value->H}{W:World}{base:Nat}{B:List Value}{C:List (DataW H)}{D:List MemPlace},
  (∀(j:Nat) t v,y[j]?=Q1 t->B[j]?=Q1 v->Value.okWide Tryz.prog W .any base t v)->DataW.TrodAll enc Tryz.prog W 0 (λ_=>Q3) Q3 y B C D->
  C.length=Io y/\(∃x:zD (E.map Q1),dg W U0 iW (iV (E.map Q1) x) B)/\
  ∀L,(∀b,b<W.heap.size->L.heap[b]?=W.heap[b]?)->(∀p∈D,p.block<W.heap.size)->∀M:Nat->Bool,(∀p∈D,M p.block=Q3)->DataW.TrodAll enc Tryz.prog L 0 M Q3 y B C D:=by
 induction h with
 | nil=>
  intro H enc W base B C D _ N;obtain⟨rfl,rfl,rfl⟩:=trodAll_nil N;exact⟨rfl,⟨(),rfl,λj c v n=>by
   have X:([]:List AV)[j]?=Q1 c:=n;simp at X⟩,λ_ _ _ _ _=>trodAll_mk0⟩
 | @cons t s y E h r T=>
  intro H enc W base B C D G N;obtain⟨v,B,d,C,p,q,rfl,rfl,rfl,O,A⟩:=trodAll_cons N;obtain⟨x,hx⟩:=h.got (G 0 t v rfl rfl) O;obtain⟨Z,⟨e,S⟩,Y⟩:=T (λj t v ht J=>G (j+1) t v ht J) A;refine⟨by simp[Z],⟨(x,e),by show(zI s x::iV (E.map Q1) e).length=_;simp[S.len],λj c v' n J=>?_⟩,λL g F M I=>?_⟩
  .have n:(zI s x::iV (E.map Q1) e)[j]?=Q1 c:=n;cases j with
   | zero=>
    simp only[List.getElem?_cons_zero,bj]at n J;subst n;subst J;exact hx
   |succ j=>exact S.rv j c v' n J
  .exact trodAll_cons_mk (ztk g h.rd h.row O (λp z=>F p (by simp[z])) (λp z=>I p (by simp[z]))) (Y L g (λp z=>F p (by simp[z])) M (λp z=>I p (by simp[z])))
theorem QK:∀(d:List Sh)(x:zD (d.map Q1)),AV.idsL (iV (d.map Q1) x)=[]
 |[],_=>rfl
 | s::d,x=>by
  show(zI s x.1).ids++AV.idsL (iV (d.map Q1) x.2)=[];rw[QK d x.2,sL];unfold zI;have n:∀l:List AV,(∀c∈l,c.ids=[])->AV.idsL l=[]:=by
   intro l
   induction l with
   |nil=>intro _;rfl
   |cons c l v=>intro h;simp only[AV.idsL,h c sw,v λc e=>h c (by simp[e]),sL]
  have g:∀c∈zx s x.1,c.ids=[]:=λc e=>by
   obtain⟨j,t,rfl⟩:=gD e;exact ml s x.1 j _ (zZ t)
  cases s.isAgg with
  |true=>exact n _ g
  | false=>
   cases q:zx s x.1 with
   |nil=>rfl
   |cons c l=>exact g c (by rw[q];simp)
set_option maxRecDepth 100000 in
theorem To{k:FuncId}{f:Func}{s:ChangeSpec}{L:z8}(hF:oh Tryz.prog TX k L)(c:f.params=y.toArray)(D:N4 y E)(F:f.resultTypes=#[4])(g:s.vars=[])
  (M:∀(H:Type)(z:List (DataW H)),Io z=Io y->s.fn H z={results:=[.lit (.bool Q3)],args:=z})
   {enc:TypeId×Value->H}  {A:Nat} {args:Array Value} {z gs:List (DataW H)} {n:List MemPlace}
  (T:∀x:zD (E.map Q1),dg W U0 iW (iV (E.map Q1) x) args.toList->(L (iV (E.map Q1) x) (λ_=>.dead) 0).val=Q1 {val:=.bool Q3})
  (G:∀(j:Nat) t v,f.params[j]?=Q1 t->args[j]?=Q1 v->Value.okWide Tryz.prog W .any A t v)
  (Z:DataW.Whole enc Tryz.prog f.params.toList s.vars Q4 W args.toList z gs n) (N:BN TX W U0):
  Calls Tryz.prog k args W λe I=>∃v,e=.returned v/\s.post enc Tryz.prog f Q4 Q3 Q4 Q4 W args v I:=by
 have C:=Z;obtain⟨p,q,J,Y,rfl,h0,h1⟩:=Z;have X:DataW.TrodAll enc Tryz.prog W 0 (λ_=>Q3) Q3 f.params.toList args.toList z p:=J;rw[c]at X;rw[g]at Y;obtain⟨rfl,rfl⟩:=trodVars_none Y;have O:=C.lt;obtain⟨hl,⟨x,hx⟩,hk⟩:=D.got (base:=A) (λj t v ht T=>G j t v (by rw[c];simpa using ht) (by simpa using T)) X;have hc:=Ok hF (args:=args) N hx (T x hx) (QK E x);refine hc.mono λe' I ⟨he,h,d⟩=>?_
 subst he;have B:s.fn H (z++[])={results:=[.lit (.bool Q3)],args:=z}:=by rw[sL];exact M H z hl
 refine⟨_,rfl,MO (pa:=p) (pv:=[]) C (λ_ _ _=>?_) (λsp S=>?_) (λ_ _=>?_) sw (IS h.os h.out d _) h.fr (ok_one F rfl (okWide_bool_mk un4 _))⟩
 .rw[B,F];exact trodAll_cons_mk (shut_bool un4 _) trodAll_mk0
 .rw[B,c];exact hk I d (λp D=>O p (by simpa using D)) sp (λp D=>S p (by simpa using D))
 .rw[B,g];rfl
open Go Go.Proofs Go.RowKit Go.ChangeShapes Go.WideShapes Go.ChangeAt
section
variable {w:World} {U:Nat->Prop} {ρ:Nat->Option Value}
def N2(w:World)(U:Nat->Prop)(ρ:Nat->Option Value)(l:List AV):Prop:=∀(j:Nat)(c:AV),l[j]?=Q1 c->∃v,Rv w U ρ c v
variable {v:Value}
theorem Mi{n:Int}(h:Rv w U ρ (.int .i64 n) v):-9223372036854775808<=n/\n<=9223372036854775807:=by
 cases h with
 |int _ _ h=>simpa[cZ,IntKind.min,IntKind.max,IntKind.signed,IntKind.bits]using h
theorem sj{e:Sh}{l:List (Sem e)}(h:Rv w U ρ (.sl e l) v):∀x∈l,N2 w U ρ (zx e x):=by
 intro x g;cases h with
 |sl0=>simp at g
 | sl _ _ _ _ _ n z A y t d s=>
  obtain⟨i,q,rfl⟩:=gD g;exact λj c h=>⟨_,s i q j c h⟩
theorem Xg{I:zo}(h:N2 w U ρ (zx zf I)):RgV I:=by obtain⟨_,h⟩:=h 1 _ rfl;exact Mi h
mutual
theorem Dj:∀(e:za),N2 w U ρ (zx .expr e)->UZ e
 | .mk j v s l,h=>by
  rw[UZ];obtain⟨_,c⟩:=h 2 _ rfl;obtain⟨_,d⟩:=h 5 _ rfl;exact⟨Mi c,Rp l λx g=>sj d x g⟩
theorem Rp:∀(l:List za),(∀x∈l,N2 w U ρ (zx .expr x))->H6 l
 |[],_=>by rw[H6];trivial
 |x::r,h=>by rw[H6];exact⟨Dj x (h x sw),Rp r λy c=>h y (by simp[c])⟩
end
theorem zkf{A:ah}(h:N2 w U ρ (zx zk A)):RgR A where
 chk:=Dj _ λj c x=>match j,x with
  |0,x=>h 5 c x
  |1,x=>h 6 c x
  |2,x=>h 7 c x
  |3,x=>h 8 c x
  |4,x=>h 9 c x
  |5,x=>h 10 c x
  |j+6,x=>by simp[zx]at x
 vals:=by
  obtain⟨_,h⟩:=h 11 _ rfl;intro r d v e;obtain⟨_,h⟩:=sj h r d 0 _ rfl;exact Xg (sj h v e)
end
variable {U:Nat->Prop}{ρ:Nat->Option Value}
theorem Vw{D:List AV}(h:Rv w U ρ (.agg D) v):N2 w U ρ D:=by
 intro j c x;cases h with
 | agg _ d q n g=>
  have e:j<Io d:=by have:=(cR.1 x).1;omega
  exact⟨d[j],g j c _ x (zZ e)⟩
theorem zkg{s:zJ}(h:N2 w U ρ (zx ar s)):RgS s where
 chk:=Dj _ λj c d=>match j,d with
  |0,d=>h 8 c d
  |1,d=>h 9 c d
  |2,d=>h 10 c d
  |3,d=>h 11 c d
  |4,d=>h 12 c d
  |5,d=>h 13 c d
  |j+6,d=>by simp[zx]at d
 whr:=Dj _ λj c d=>match j,d with
  |0,d=>h 16 c d
  |1,d=>h 17 c d
  |2,d=>h 18 c d
  |3,d=>h 19 c d
  |4,d=>h 20 c d
  |5,d=>h 21 c d
  |j+6,d=>by simp[zx]at d
 row:=by
  obtain⟨_,h⟩:=h 14 _ rfl;exact λv e=>Xg (sj h v e)
 sets:=by
  obtain⟨_,h⟩:=h 15 _ rfl;intro x g;have h:=sj h x g;exact Dj _ λj c d=>match j,d with
   |0,d=>h 1 c d
   |1,d=>h 2 c d
   |2,d=>h 3 c d
   |3,d=>h 4 c d
   |4,d=>h 5 c d
   |5,d=>h 6 c d
   |j+6,d=>by simp[zx]at d
theorem On(x:zD ([.sl zk,ar].map Q1))(n:dg W U0 iW (iV ([.sl zk,ar].map Q1) x) d):(F5q (iV ([.sl zk,ar].map Q1) x) (λ_=>.dead) 0).val=Q1 {val:=.bool Q3}:=by
 obtain⟨db,s,u⟩:=x;have n:dg W U0 iW [.sl zk db,zI ar s] d:=n;have C:=n.len;have g:∀j c,([.sl zk db,zI ar s]:List AV)[j]?=Q1 c->∃v,Rv W U0 iW c v:=λj c z=>by
  have y:j<Io d:=by rw[<-C];exact(cR.1 z).1
  exact⟨d[j],n.rv j c _ z (zZ y)⟩
 obtain⟨D,A⟩:=g 0 _ rfl;obtain⟨E,B⟩:=g 1 _ rfl;have e:s=(s.1,s.2.1,s.2.2.1,s.2.2.2.1,s.t.1,s.t.2.1,s.t.q.1,s.t.q.2.1,zr s.t.t.1,s.t.t.2.1,s.t.t.q.1,zr s.t.t.q.2.1,s.t.t.t):=by rw[zm,zm]
 have h:(F5q [.sl zk db,zI ar s] (λ_=>.dead) 0).val=(chk (rA db (s.1,s.2.1,s.2.2.1,s.2.2.2.1,s.t.1,s.t.2.1,s.t.q.1,s.t.q.2.1,zr s.t.t.1,s.t.t.2.1,s.t.t.q.1,zr s.t.t.q.2.1,s.t.t.t)).isSome (Tr.ok ({val:=.bool ((rA db (s.1,s.2.1,s.2.2.1,s.2.2.2.1,s.t.1,s.t.2.1,s.t.q.1,s.t.q.2.1,zr s.t.t.1,s.t.t.2.1,s.t.t.q.1,zr s.t.t.q.2.1,s.t.t.t)).getD (cA [.bool])).1}:fL))).val:=by kernel_rfl
 show(F5q [.sl zk db,zI ar s] (λ_=>.dead) 0).val=_;rw[h,<-e,Tq (sj A · · |>zkf) (zkg (Vw B))];rfl
end
end Cad
