/- The document's plans. -/
import Derived.Test.YtjdjldbhjmgmkaaGreatDoorS20
namespace Cad
open Go Go.Proofs
open List renaming length→Io
open IntKind renaming wrap→Γ,i64→Δ
open Tr renaming val→Q8
open Bool renaming false→Q4,true→Q3
open Option renaming some→Q1
open Decidable renaming decide→Q0
open Int (toNat)
open List (getD)
open Tr (chk br re)
open AV (nils agg tup ptr kb str sl)
set_option maxHeartbeats 4000000
noncomputable section
def pl3(t:ao)(n:List zH):Nat->pK
 |0=>.h3 t.2.1 n ((0:Nat):Int)
 |i+1=>.h3b t.2.1 n ((i+1:Nat):Int) (js t (n.take (i+1)))
variable {t:ao}{n:List zH}{i:Nat}
theorem zdJ(c:Io t.2.1<=1000000)(d:Io n<=1000)(x:i<Io n):(ka (pl3 t n i)).val=if LT.lt (α:=Int) (zV t n[i]) 0 then Q1 (.inr (.tup [.nils,.int .i64 4],[]))else Q1 (.inl (pl3 t n (i+1))):=by
 have e:gz t.2.1 n[i]=zV t n[i]:=rZ c;have b:eQ t.2.1 n[i]=Q3:=oZ c;have a:js t (n.take (i+1))=js t (n.take i)++[zV t n[i]]:=by
  unfold js;rw[bv x,eC];rfl
 cases i with
 | zero=>
  have a:js t (n.take 1)=[zV t n[0]]:=a;show(ka (.h3 _ _ _)).val=_;simp only[ka,Q8,zI x,zx x,zh,zX _ _ x,e,b];by_cases h:LT.lt (α:=Int) (zV t n[0]) 0
  .simp only[zy h,zh,ze h]
  .simp only[z7 h,zg h,zE,zm];rw[ze sw,zu 0 um];show _=Q1 (Sum.inl (pK.h3b _ _ _ (js t (n.take 1))));rw[a]
 | succ i=>
  show(ka (.h3b _ _ _ _)).val=_;simp only[ka,Q8,zI x,zx x,zh,zX _ _ x,e,b];by_cases h:LT.lt (α:=Int) (zV t n[i+1]) 0
  .simp only[zy h,zh,ze h]
  .simp only[z7 h,zg h,zE,zm];rw[ze (by unfold js;simp;omega),zu (i+1) um];show _=Q1 (Sum.inl (pK.h3b _ _ _ (js t (n.take (i+1+1)))));rw[a]
theorem zwe{l:List Int}(u:Io l<=1000):zY ka (Io l*1001+1) (.h10b ((0:Nat):Int) l) (ite l.Nodup (.tup [.vec 0,.int .i64 0],[.vec zj l]) (.tup [.nils,.int .i64 7],[])):=by
 have m:∀i(c:i<Io l),((∀k(x:k<i),l[k]≠l[i])/\zJ ka 1001 (.h10b (i:Int) l) (.h10b ((i+1:Nat):Int) l))\/((¬∀k(x:k<i),l[k]≠l[i])/\zY ka 1001 (.h10b (i:Int) l) (.tup [.nils,.int .i64 7],[])):=by
  intro i c;have n:zJ ka 1 (.h10b (i:Int) l) (.h13b (i:Int) ((0:Nat):Int) l):=zJ.of (by
   show(ka (.h10b _ _)).val=_;simp only[ka,Q8,zI c,zh];rfl)
  rcases mF (t:=ka) (Φ:=λr=>r=(.tup [.nils,.int .i64 7],[])) 1 (λk=>.h13b (i:Int) (k:Int) l) (λk=>∀h:k<i,l[k]≠l[i]) i (λk x _=>by
   have d:k<Io l:=by omega
   have s:Q0 ((k:Int)<(i:Int))=Q3:=zI x;have p:(ka (.h13b (i:Int) (k:Int) l)).val=if(l[i]==l[k])=Q3 then Q1 (.inr (.tup [.nils,.int .i64 7],[]))else Q1 (.inl (.h13b (i:Int) ((k+1:Nat):Int) l)):=by
    show(ka (.h13b _ _ _)).val=_;simp only[ka,Q8,s,zx c,zx d,yu c,yu d,zX _ _ c,zX _ _ d,zh];rw[zu k um]
   by_cases h:l[i]=l[k]
   .exact .inr ⟨λq=>q x h.symm,_,zY.of (by rw[p,ze (by simpa using h)]),rfl⟩
   .exact .inl ⟨λ_=>Ne.symm h,zJ.of (by rw[p,zg (by simpa using h)])⟩)with⟨a,b⟩|⟨a,r,b,rfl⟩
  .refine .inl ⟨λk x=>a k x x,((n.trans b).trans (zJ.of ?_)).mono ow⟩;show(ka (.h13b _ _ _)).val=_;simp only[ka,Q8,zG];rw[zu i um];rfl
  .exact .inr ⟨λh=>a λk x _=>h k x,(n.ends b).mono ow⟩
 have e:l.Nodup↔∀i,i<Io l->∀h:i<Io l,∀k(x:k<i),l[k]≠l[i]:=by
  unfold List.Nodup;rw[List.pairwise_iff_getElem];exact⟨λh i _ c k x=>h k i ow c x,λh i j c o g=>h j o o i g⟩
 rcases mF (t:=ka) (Φ:=λr=>r=(.tup [.nils,.int .i64 7],[])) 1001 (λi=>.h10b (i:Int) l) (λi=>∀h:i<Io l,∀k(x:k<i),l[k]≠l[i]) (Io l) (λi c _=>by
  rcases m i c with⟨a,b⟩|⟨a,b⟩
  .exact .inl ⟨λ_=>a,b⟩
  .exact .inr ⟨λh=>a (h c),_,b,rfl⟩)with⟨a,b⟩|⟨a,r,b,rfl⟩
 .rw[ze (e.2 a)];refine(b.ends (zY.of ?_)).mono ow;show(ka (.h10b _ _)).val=_;simp only[ka,Q8,zG];rfl
 .rw[zg (λh=>a (e.1 h))];exact b.mono ow
theorem I9(A:Io t.2.1<=1000000)(B:Io n<=1000):oQ t.2.1 n=Q1 (ite (gv t n=0) (js t n) [],gv t n,()):=by
 have a:(zq5 t.2.1 n).val=Q1 (.inl (pl3 t n 0)):=rfl
 rcases mF (t:=ka) (Φ:=λr=>r=(.tup [.nils,.int .i64 4],[])) 1 (pl3 t n) (λi=>∀h:i<Io n,¬LT.lt (α:=Int) (zV t n[i]) 0) (Io n) (λi a _=>by
  have u:=zdJ A B a;by_cases h:LT.lt (α:=Int) (zV t n[i]) 0
  .exact .inr ⟨λq=>q a h,_,zY.of (by rw[u,ze h]),rfl⟩
  .exact .inl ⟨λ_=>h,zJ.of (by rw[u,zg h])⟩)with⟨k,d⟩|⟨k,r,d,rfl⟩
 .have z:∀s∈n,¬LT.lt (α:=Int) (zV t s) 0:=by
   intro s C;obtain⟨j,p,rfl⟩:=fP C;exact k j p p
  have g:gv t n=if(js t n).Nodup then 0 else 7:=by unfold gv;rw[ze z];rfl
  have D:(js t n).length=Io n:=by unfold js;simp
  cases b:Io n with
  | zero=>
   have c:n=[]:=AG b;subst c;have m:zY ka 2 (pl3 t [] 0) (.tup [.nils,.int .i64 0],[]):=by
    refine(zJ.of (s':=.h10 0) ?_).ends (zY.of ?_)
    .rfl
    .rfl
   have w:gv t []=0:=by rw[g,ze (by unfold js;exact List.nodup_nil)]
   rw[w,ze rfl];exact zA a m ow rfl
  | succ x=>
   rw[b]at d;have v:js t (n.take (x+1))=js t n:=by rw[<-b,fQ]
   have m:zJ ka 1 (pl3 t n (x+1)) (.h10b ((0:Nat):Int) (js t n)):=zJ.of (by
    show(ka (.h3b _ _ _ _)).val=_;rw[v,<-b];simp only[ka,Q8,zG];rfl)
   have y:=zwe (l:=js t n) ow;have e:=d.ends (m.ends y);rw[g];by_cases o:(js t n).Nodup
   .rw[ze o]at e|-;exact zA a e ow rfl
   .rw[zg o]at e|-;exact zA a e ow rfl
 .have g:gv t n=4:=by
   unfold gv;rw[zg];intro h;exact k λi _ a=>h _ (bp a)
  rw[g];exact zA a d ow rfl
theorem MK{names:List zH}(x:Io t.2.1<=1000000)(a:Io names<=1000):oP t.2.1 names=Q3/\rI t.2.1 names=(ite (gv t names=0) (js t names) [],gv t names):=by have h:=I9 x a;exact⟨by unfold oP;rw[h];rfl,by unfold rI;rw[h];rfl⟩
def VX(e:za)(c:aN):Int:=
 if(e.op==[])=Q3 then 0 else if(cond ((ce e c).2==0) (cond ((ce e c).1!=3) ((ce e c).1!=0) Q4) Q4)=Q3 then 5 else(ce e c).2
theorem UC{o:za}{c:aN}(b:ut o)(i:Io c<=1000000)(j:(o.op==[])=Q4->dD o=Q3):Bq o c=Q1 (VX o c,()):=by
 unfold VX;cases x:(o.op==[])
 .have h:=j x;have d:=nK b;have e:=rS b;have a:=MV i h;have l:oW o c=Q3:=by unfold oW;rw[a];rfl
  have m:iQ o c=ce o c:=by unfold iQ;rw[a];rfl
  have g:(cond ((ce o c).2==0) (cond ((ce o c).1!=0) ((ce o c).1!=3) Q4) Q4)=(cond ((ce o c).2==0) (cond ((ce o c).1!=3) ((ce o c).1!=0) Q4) Q4):=by
   cases((ce o c).2==0)<;>cases((ce o c).1!=0)<;>cases((ce o c).1!=3)<;>rfl
  have k:(zc9 o c).val=Q1 (.inr (.int .i64 (ite ((cond ((ce o c).2==0) (cond ((ce o c).1!=3) ((ce o c).1!=0) Q4) Q4)=Q3) 5 ((ce o c).2)),[])):=by
   simp only[zc9,Q8,zn,x,d,e,h,l,m,g,zh,zE,zm,cm];split<;>rfl
  exact zP k rfl
 .refine zP (r:=(.int .i64 0,[])) ?_ rfl;simp only[zc9,Q8,x,zh]
theorem Zw{o:za}{cols:aN}(b:ut o)(x:Io cols<=1000000)(a:(o.op==[])=Q4->dD o=Q3):o6 o cols=Q3/\qE o cols=VX o cols:=by have h:=UC b x a;exact⟨by unfold o6;rw[h];rfl,by unfold qE;rw[h];rfl⟩
theorem FE(l:List zH):gY l=Lib.join l fi:=by
 have h:=qL l 0 [];unfold gY;rw[h];have e:l.map mA=l:=by
  rw[show(mA:zH->zH)=id from rfl];exact List.map_id l
 rw[F1,e]
variable {s:zN}
theorem zek(h:wN s)(o:s.1=dm)(x:lE s=Q3):iV s=Qn s:=by unfold lE at x;simp only[aE,aQ]at x;rw[(iW (zhc h.sh o)).2,tC,Cj x.2.1,FE];unfold Qn;simp
theorem zel(h:wN s)(o:s.1=gm)(x:oO s=Q3):iV s=qR s:=by unfold oO at x;simp only[aE]at x;rw[(iW (zhe h.sh o)).2,tJ,Cj x.1];unfold qR;simp
theorem zai(h:wN s)(o:s.1=mU)(x:g8 s=Q3):iV s=mB s:=by unfold g8 at x;simp only[aE,aQ]at x;rw[(iW (zhd h.sh o x.1)).2,tG,Cj x.2.1];unfold mB;simp
theorem PN(h:wN s)(n:jS s.1):∃t,o9 s=Q1 (t,eG s,()):=by
 have k:∀(x:zN)(c:Bool)(t e:zH),eR s=Q1 (t,x,c,())->Io t<=900000->BN x->(c=Q3->t=e)->(c=Q3->iV s=e)->fE s=(c&&(zU s.2.1&&fC x s))->∃t,o9 s=Q1 (t,eG s,()):=by
  intro x c t e a b d i j l;obtain⟨t',m⟩:=HE h a b d;refine⟨t',?_⟩;rw[m,Z1,l];cases g:c
  .rfl
  .rw[j g,i g];cases zU s.2.1<;>cases fC x s<;>rfl
 rcases n with o|o|o
 .obtain⟨t,a,b,d⟩:=SU h o;exact k _ _ _ _ a b (fS h (.inl rfl) (.inr rfl) (.inr rfl) (.inr rfl) (.inl rfl) (.inr rfl) (.inr rfl) (.inr rfl)) d (zek h o) (Se h o)
 .obtain⟨a,b⟩:=SV h o;exact k _ _ _ _ a b (fS h (.inr rfl) (.inr rfl) (.inr rfl) (.inr rfl) (.inl rfl) (.inr rfl) (.inr rfl) (.inr rfl)) (λ_=>rfl) (zel h o) (Sf h o)
 .obtain⟨t,a,b,d⟩:=NQ h o;exact k _ _ _ _ a b (fS h (.inl rfl) (.inr rfl) (.inr rfl) (.inr rfl) (.inl rfl) (.inr rfl) (.inr rfl) (.inr rfl)) d (zai h o) (MI h o)
theorem Rk{g c:za->za->Bool}:∀(l m:List za),Io l=Io m->(∀x∈l,∀y,c x y=Q3/\(g x y=Q3↔x=y))->TV g c l m=Q3/\(eqL g l m=Q3↔l=m)
 |[],[],_,_=>⟨rfl,by simp[eqL]⟩
 |[],_::_,h,_=>by simp at h
 |_::_,[],h,_=>by simp at h
 | x::r,y::q,h,hx=>by
  obtain⟨d,b⟩:=hx x sw y;obtain⟨i,j⟩:=Rk r q (by simpa using h) (λz n=>hx z (by simp[n]));rw[TV,eqL];rw[d];by_cases k:g x y=Q3
  .have:=b.1 k;subst this;simp[k,i,j]
  .have a:x≠y:=λe=>k (b.2 e)
   simp[k,a]
theorem Ns:∀(N:Nat)(a b:za),pZ N a=Q3->jB N a b=Q3/\(fK N a b=Q3↔a=b)
 |0,_,_,h=>by cases h
 | N + 1,.mk m v s l,.mk o i n d,h=>by
  rw[pZ]at h;simp only[aE,aQ,dQ]at h;obtain⟨_,C⟩:=h;have A:jB (N+1) (.mk m v s l) (.mk o i n d)=(cond (m==o) (cond (eqV v i) (cond (s==n) (Aa (fK N) (jB N) l d) Q3) Q3) Q3):=rfl;have B:fK (N+1) (.mk m v s l) (.mk o i n d)=(cond (m==o) (cond (eqV v i) (cond (s==n) (ON (fK N) l d) Q4) Q4) Q4):=rfl;rw[A,B];unfold Aa ON;have q:eqV v i=Q3↔v=i:=by unfold eqV;simp[Prod.ext_iff]
  by_cases k:m=o
  .by_cases j:v=i
   .by_cases u:s=n
    .by_cases p:Io l=Io d
     .obtain⟨E,F⟩:=Rk (g:=fK N) (c:=jB N) l d p (λx D y=>Ns N x y (C x D));have w:((↑l.length:Int)!=(↑d.length:Int))=Q4:=by rw[<-gT,jD];exact λh=>h p
      rw[w,q.2 j];simp[k,u,E,F,j]
     .have w:((↑l.length:Int)!=(↑d.length:Int))=Q3:=jD.2 p;have z:l≠d:=λe=>p (by rw[e])
      rw[w,q.2 j];simp[k,u,z]
    .rw[q.2 j];simp[k,u]
   .have:eqV v i=Q4:=by rw[<-gT,q];exact j
    rw[this];simp[k,j]
  .simp[k]
variable {a:List Int}
theorem Nx{b:List Int}(h:Io a<=1000000):J0 a b=Q3/\(pA a b=Q3↔a=b):=by
 have d:∃r,J1 a b=Q1 (r,())/\(r=Q3↔a=b):=by
  by_cases x:Io a=Io b
  .have c:((↑(Io a):Int)!=(↑(Io b):Int))=Q4:=by rw[<-gT,jD];exact λh=>h x
   have j:(zda a b).val=Q1 (.inl (.h4 a b (Io a:Int) 0)):=by
    simp only[zda,Q8,c];rfl
   rcases mn (t:=ztF) (la:=a) (lb:=b) (λi=>.h4 a b (Io a:Int) i) (.inr (.kb Q3,[])) (λi=>getD a (i:Int).toNat (zi zj)==getD b (i:Int).toNat (zi zj)) (λ_ _=>rfl) (λi _ m c=>by rw[bd,zX _ _ m,zX _ _ c]) x h with⟨q,k⟩|⟨q,k⟩
   .exact⟨Q3,zA j (k 0 _ rfl) ow rfl,by simp[q]⟩
   .exact⟨Q4,zA j k ow rfl,by simp[q]⟩
  .refine⟨Q4,zP (r:=HF) ?_ rfl,by simp;exact λe=>x (by rw[e])⟩;simp only[zda,Q8,jD.2 x,zh]
 obtain⟨r,g,l⟩:=d;refine⟨by unfold J0;rw[g];rfl,?_⟩;have:pA a b=r:=by unfold pA;rw[g];rfl
 rw[this];exact l
theorem ZS{c b:aN}(h:Io c<=1000000):PY c b=Q3/\(Ax c b=Q3↔c=b):=by
 have d:∃r,JY c b=Q1 (r,())/\(r=Q3↔c=b):=by
  by_cases x:Io c=Io b
  .have a:((↑(Io c):Int)!=(↑(Io b):Int))=Q4:=by rw[<-gT,jD];exact λh=>h x
   have j:(zdf c b).val=Q1 (.inl (.h4 c b (Io c:Int) 0)):=by
    simp only[zdf,Q8,a];rfl
   rcases mn (t:=ztG) (la:=c) (lb:=b) (λi=>.h4 c b (Io c:Int) i) (.inr (.kb Q3,[])) (λi=>((getD c (i:Int).toNat (zi zl)).1==(getD b (i:Int).toNat (zi zl)).1&&((getD c (i:Int).toNat (zi zl)).2.1==(getD b (i:Int).toNat (zi zl)).2.1&&((getD c (i:Int).toNat (zi zl)).2.2==(getD b (i:Int).toNat (zi zl)).2.2&&Q3)))) (λ_ _=>rfl) (λi _ m a=>by rw[VY,zX _ _ m,zX _ _ a]) x h with⟨q,k⟩|⟨q,k⟩
   .exact⟨Q3,zA j (k 0 _ rfl) ow rfl,by simp[q]⟩
   .exact⟨Q4,zA j k ow rfl,by simp[q]⟩
  .refine⟨Q4,zP (r:=HF) ?_ rfl,by simp;exact λe=>x (by rw[e])⟩;simp only[zdf,Q8,jD.2 x,zh]
 obtain⟨r,g,l⟩:=d;refine⟨by unfold PY;rw[g];rfl,?_⟩;have:Ax c b=r:=by unfold Ax;rw[g];rfl
 rw[this];exact l
variable {b:dr}
theorem ZT{a:dr}(h:Io a<=1000000):PZ a b=Q3/\(Ay a b=Q3↔a=b):=by
 have d:∃r,JZ a b=Q1 (r,())/\(r=Q3↔a=b):=by
  by_cases x:Io a=Io b
  .have c:((↑(Io a):Int)!=(↑(Io b):Int))=Q4:=by rw[<-gT,jD];exact λh=>h x
   have j:(zdg a b).val=Q1 (.inl (.h4 a b (Io a:Int) 0)):=by
    simp only[zdg,Q8,c];rfl
   rcases mn (t:=ztH) (la:=a) (lb:=b) (λi=>.h4 a b (Io a:Int) i) (.inr (.kb Q3,[])) (λi=>((getD a (i:Int).toNat (zi zB)).1==(getD b (i:Int).toNat (zi zB)).1&&((getD a (i:Int).toNat (zi zB)).2==(getD b (i:Int).toNat (zi zB)).2&&Q3))) (λ_ _=>rfl) (λi _ m c=>by rw[zj0,zX _ _ m,zX _ _ c]) x h with⟨q,k⟩|⟨q,k⟩
   .exact⟨Q3,zA j (k 0 _ rfl) ow rfl,by simp[q]⟩
   .exact⟨Q4,zA j k ow rfl,by simp[q]⟩
  .refine⟨Q4,zP (r:=HF) ?_ rfl,by simp;exact λe=>x (by rw[e])⟩;simp only[zdg,Q8,jD.2 x,zh]
 obtain⟨r,g,l⟩:=d;refine⟨by unfold PZ;rw[g];rfl,?_⟩;have:Ay a b=r:=by unfold Ay;rw[g];rfl
 rw[this];exact l
theorem zae{a b:ao}(A:Io a.2.1<=1000000)(D:Io a.2.2.2.1<=1000000)(C:Io a.t.1<=1000000)(B:pZ 16 a.t.2=Q3):Kl a b=Q3/\(tc a b=Q3↔a=b):=by
 obtain⟨h,e,x,g,i,m⟩:=a;obtain⟨c,j,d,k,l,n⟩:=b;obtain⟨p,v⟩:=ZS (b:=j) (show Io e<=1000000 from A);obtain⟨q,w⟩:=Nx (b:=k) (show Io g<=1000000 from D);obtain⟨s,y⟩:=ZT (b:=l) (show Io i<=1000000 from C);obtain⟨u,z⟩:=Ns 16 m n B;have o:Km (h,e,x,g,i,m) (c,j,d,k,l,n)=Q1 ((cond (h==c) (cond (x==d) (cond (Ax e j) (cond (pA g k) (cond (Ay i l) (fK 16 m n) Q4) Q4) Q4) Q4) Q4),()):=by
  refine zP (r:=(.bool _,[])) ?_ rfl;simp only[zq6,Q8,zn,p,q,s,u];rw[ze];cases(h==c)<;>cases(x==d)<;>cases Ax e j<;>cases pA g k<;>cases Ay i l<;>rfl
 refine⟨by unfold Kl;rw[o];rfl,?_⟩;have:tc (h,e,x,g,i,m) (c,j,d,k,l,n)=(cond (h==c) (cond (x==d) (cond (Ax e j) (cond (pA g k) (cond (Ay i l) (fK 16 m n) Q4) Q4) Q4) Q4) Q4):=by unfold tc;rw[o];rfl
 rw[this];simp only[cd];rw[<-v,<-w,<-y,<-z];have E:(h==c)=Q3↔h=c:=bd;have F:(x==d)=Q3↔x=d:=bd;rw[<-E,<-F];cases(h==c)<;>cases(x==d)<;>cases Ax e j<;>cases pA g k<;>cases Ay i l<;>cases fK 16 m n<;>simp
variable {p:ar}
theorem Y6{b:ar}(w:Io p.2.2.2.1.2.1<=1000000)(B:Io p.2.2.2.1.2.2.2.1<=1000000)(z:Io p.2.2.2.1.t.1<=1000000)(y:pZ 16 p.2.2.2.1.t.2=Q3)(C:Io p.t.1<=1000000):I3 p b=Q3/\(MD p b=Q3↔p=b):=by
 obtain⟨x,c,d,a,l,e⟩:=p;obtain⟨g,i,j,h,m,k⟩:=b;obtain⟨q,u⟩:=zae (b:=h) w B z y;obtain⟨s,v⟩:=Nx (b:=m) (show Io l<=1000000 from C);have n:Kl (a.1,a.2.1,a.2.2.1,a.2.2.2.1,a.t.1,a.t.2) (h.1,h.2.1,h.2.2.1,h.2.2.2.1,h.t.1,h.t.2)=Q3:=q;have A:tc (a.1,a.2.1,a.2.2.1,a.2.2.2.1,a.t.1,a.t.2) (h.1,h.2.1,h.2.2.1,h.2.2.2.1,h.t.1,h.t.2)=tc a h:=rfl;have o:I4 (x,c,d,a,l,e) (g,i,j,h,m,k)=Q1 ((cond (x==g) (cond (c==i) (cond (d==j) (cond (e==k) (cond (tc a h) (pA l m) Q4) Q4) Q4) Q4) Q4),()):=by
  refine zP (r:=(.bool _,[])) ?_ rfl;simp only[zqV,Q8,zn,n,A,s];rw[ze];cases(x==g)<;>cases(c==i)<;>cases(d==j)<;>cases(e==k)<;>cases tc a h<;>rfl
 refine⟨by unfold I3;rw[o];rfl,?_⟩;have:MD (x,c,d,a,l,e) (g,i,j,h,m,k)=(cond (x==g) (cond (c==i) (cond (d==j) (cond (e==k) (cond (tc a h) (pA l m) Q4) Q4) Q4) Q4) Q4):=by unfold MD;rw[o];rfl
 rw[this];simp only[cd];rw[<-u,<-v];have D:(x==g)=Q3↔x=g:=bd;have E:(c==i)=Q3↔c=i:=bd;have F:(d==j)=Q3↔d=j:=bd;have G:(e==k)=Q3↔e=k:=bd;rw[<-D,<-E,<-F,<-G];cases(x==g)<;>cases(c==i)<;>cases(d==j)<;>cases(e==k)<;>cases tc a h<;>cases pA l m<;>simp
theorem M2(s:zH):∀(l:zR)(i:Nat),gX s l (i:Int)=ac (λx:am=>x.1.1==s) l i
 |[],_=>rfl
 | x::r,i=>by
  rw[gX,ac];have h:=M2 s r (i+1);have e:(((i+1:Nat)):Int)=(i:Int)+1:=by omega
  rw[e]at h;by_cases a:(x.1.1==s)=Q3
  .rw[ze a,ze a]
  .rw[zg a,zg a,h]
theorem dS(l:zR)(s:zH):lN l s=ae l s:=M2 s l 0
variable {x:am}
theorem ed.keys(h:ed x):∀r∈x.2,zK x.1.2.2.1 (Io r)=Q3:=by intro r b;obtain⟨a,_⟩:=gq h.may;rw[(dn (h.fits r b)).1];exact oJ a
theorem WZ(x:am)(c:Int)(v:zp):Q0 (LT.lt (α:=Int) (ac (λr=>bC r c v) x.2 0) 0)=!f5 x c v:=by
 unfold f5;rcases gp (λr=>bC r c v) x.2 0 with h|⟨h,_⟩
 .rw[h];rfl
 .have:Q0 (ac (λr=>bC r c v) x.2 0>=0)=Q3:=zy ow;rw[this,z7 ow];rfl
theorem Jv{db:zR}(v:∀x∈db,ed x)(M:∀x∈db,KQ x)(W:Io db<=13):∃b,vQ db=Q1 (b,())/\(b=Q3↔FM db):=by
 have u:=mF (t:=sE) (Φ:=IsF) 1010000 (λi=>.h2 db (i:Int)) (λi=>∀f∈(getD db i (zi zk)).1.t.1,LE.le (α:=Int) 0 (ae db f.2)/\∀a∈(getD db i (zi zk)).2,(zS f.1 a).1≠0->f5 (aF db f.2) (aF db f.2).1.2.2.1 (zS f.1 a)=true) (Io db) (by
  intro i e _;have J:=ch (d:=zi zk) e;have X:=(M _ J).t.nrf;have Y:=(M _ J).rows;have F:=(v _ J).cols;generalize A:getD db i (zi zk)=x at*;have l:(sE (.h2 db (i:Int))).val=Q1 (.inl (.h5 db (i:Int) ((0:Nat):Int))):=by
   simp only[sE,Q8,zI e];rfl
  have T:=mF (t:=sE) (Φ:=IsF) 1002 (λk=>.h5 db (i:Int) (k:Int)) (λk=>LE.le (α:=Int) 0 (ae db (getD x.1.t.1 k (zi zB)).2)/\∀a∈x.2,(zS (getD x.1.t.1 k (zi zB)).1 a).1≠0->f5 (aF db (getD x.1.t.1 k (zi zB)).2) (aF db (getD x.1.t.1 k (zi zB)).2).1.2.2.1 (zS (getD x.1.t.1 k (zi zB)).1 a)=Q3) (Io x.1.t.1) (by
   intro k I _;have G:=ch (d:=zi zB) I;have E:=F _ G;generalize U:getD x.1.t.1 k (zi zB)=f at*;have l:(sE (.h5 db (i:Int) (k:Int))).val=if Q0 (LT.lt (α:=Int) (ae db f.2) 0)=Q3 then Q1 (.inr (.kb Q4,[]))else Q1 (.inl (.h12 db (i:Int) (k:Int) (ae db f.2) ((0:Nat):Int) (f,()))):=by
    simp only[sE,Q8,zx e,aJ,A,zI I,zx I,U,dS,zh];rfl
   by_cases q:LE.le (α:=Int) 0 (ae db f.2)
   .have O:=zJ.of (t:=sE) (s:=.h5 db (i:Int) (k:Int)) (by rw[l,zg (by rw[aQ];omega)]);have w:aF db f.2∈db:=ch (by
     rcases yR db f.2 with h|⟨_,h⟩
     .rw[h]at q;exact zC q (by decide)
     .omega)
    have g:=M _ w;have c:=v _ w;have C:=mF (t:=sE) (Φ:=IsF) 1 (λj=>.h12 db (i:Int) (k:Int) (ae db f.2) (j:Int) (f,())) (λj=>(zS f.1 (getD x.2 j (zi zf.sl))).1≠0->f5 (aF db f.2) (aF db f.2).1.2.2.1 (zS f.1 (getD x.2 j (zi zf.sl)))=Q3) (Io x.2) (by
     intro j H _;have l:(sE (.h12 db (i:Int) (k:Int) (ae db f.2) (j:Int) (f,()))).val=if(cond ((zS f.1 (getD x.2 j (zi zf.sl))).1!=0) (!f5 (aF db f.2) (aF db f.2).1.2.2.1 (zS f.1 (getD x.2 j (zi zf.sl)))) Q4)=Q3 then Q1 (.inr (.kb Q4,[]))else Q1 (.inl (.h12 db (i:Int) (k:Int) (ae db f.2) ((j+1:Nat):Int) (f,()))):=by
      simp only[sE,Q8,zn,aX,zx e,aJ,A,zI H,zx H,E _ (ch (d:=zi zf.sl) H),dV q,UD g.t c.may c.keys g.rows,zh,pT];rw[Zx g.t c.may c.keys g.rows,WZ];rw[ze (by cases((getD (getD x.2 j (zi zf.sl)) (toNat f.1) (zi zf)).1!=0)<;>rfl)];rw[zu j um]
     by_cases y:(zS f.1 (getD x.2 j (zi zf.sl))).1=0
     .exact .inl ⟨λh=>zC y h,zJ.of (by rw[l,zg (by rw[y];simp)])⟩
     .have o:((zS f.1 (getD x.2 j (zi zf.sl))).1!=0)=Q3:=by simpa using y
      by_cases z:f5 (aF db f.2) (aF db f.2).1.2.2.1 (zS f.1 (getD x.2 j (zi zf.sl)))=Q3
      .exact .inl ⟨λ_=>z,zJ.of (by rw[l,zg (by rw[z,o];simp)])⟩
      .exact .inr ⟨λh=>z (h y),_,zY.of (by rw[l,ze (by rw[o];simpa using z)]),rfl⟩)
    rcases C with⟨p,m⟩|⟨p,r,m,L⟩
    .have n:(sE (.h12 db (i:Int) (k:Int) (ae db f.2) (Io x.2:Int) (f,()))).val=Q1 (.inl (.h5 db (i:Int) ((k+1:Nat):Int))):=by
      simp only[sE,Q8,zx e,aJ,A,zG];rw[zu k um];rfl
     refine .inl ⟨⟨q,?_⟩,((O.trans m).trans (zJ.of n)).mono ow⟩;exact(aD (Q:=λa=>(zS f.1 a).1≠0->f5 (aF db f.2) (aF db f.2).1.2.2.1 (zS f.1 a)=Q3)).1 p
    .refine .inr ⟨λh=>p ?_,r,(O.ends m).mono ow,L⟩;exact(aD (Q:=λa=>(zS f.1 a).1≠0->f5 (aF db f.2) (aF db f.2).1.2.2.1 (zS f.1 a)=Q3)).2 h.2
   .exact .inr ⟨λh=>q h.1,_,(zY.of (by rw[l,ze (by rw[aQ];omega)])).mono ow,rfl⟩)
  rcases T with⟨N,B⟩|⟨N,r,B,L⟩
  .have n:(sE (.h5 db (i:Int) (Io x.1.t.1:Int))).val=Q1 (.inl (.h2 db ((i+1:Nat):Int))):=by
    simp only[sE,Q8,zx e,aJ,A,zG];rw[zu i um];rfl
   refine .inl ⟨?_,(((zJ.of l).trans B).trans (zJ.of n)).mono ow⟩;exact(aD (Q:=λf:bW=>LE.le (α:=Int) 0 (ae db f.2)/\∀a∈x.2,(zS f.1 a).1≠0->f5 (aF db f.2) (aF db f.2).1.2.2.1 (zS f.1 a)=Q3)).1 N
  .refine .inr ⟨λh=>N ?_,r,((zJ.of l).ends B).mono ow,L⟩;exact(aD (Q:=λf:bW=>LE.le (α:=Int) 0 (ae db f.2)/\∀a∈x.2,(zS f.1 a).1≠0->f5 (aF db f.2) (aF db f.2).1.2.2.1 (zS f.1 a)=Q3)).2 h)
 have S:(∀i,i<Io db->∀f∈(getD db i (zi zk)).1.t.1,LE.le (α:=Int) 0 (ae db f.2)/\∀a∈(getD db i (zi zk)).2,(zS f.1 a).1≠0->f5 (aF db f.2) (aF db f.2).1.2.2.1 (zS f.1 a)=Q3)↔FM db:=
  aD (Q:=λx:am=>∀f∈x.1.t.1,LE.le (α:=Int) 0 (ae db f.2)/\∀a∈x.2,(zS f.1 a).1≠0->f5 (aF db f.2) (aF db f.2).1.2.2.1 (zS f.1 a)=Q3)
 have e:(zq1 db).val=Q1 (.inl (.h2 db ((0:Nat):Int))):=rfl;rcases u with⟨u,D⟩|⟨u,r,D,P⟩
 .refine⟨Q3,zA e (D.ends (zY.of (r:=(.kb Q3,[])) ?_)) ow rfl,λ_=>S.1 u,λ_=>rfl⟩;simp only[sE,Q8,zG];rfl
 .unfold IsF at P;subst P;exact⟨Q4,zA e D ow rfl,λh=>(by cases h),λh=>zC (S.2 h) u⟩
variable {l:zR}
theorem Jy(D:∀x∈l,KQ x):∃e:Int,qF l=Q1 (e,())/\(e=0↔iA l):=by
 by_cases v:Io l<=12
 case neg=>
  refine⟨13,?_,λh=>(by cases h),λh=>zC h.few v⟩;unfold qF an bY;simp only[i9p,Q8];rw[ze sg];rfl
 have c:(i9p l).val=Q1 (.inl (.h4 l ((0+1:Nat):Int))):=by
  simp only[i9p,Q8];rw[zg sg];rfl
 have n:=mF (t:=Z9) (Φ:=Err) 1 (λi=>.h4 l ((i+1:Nat):Int)) (λi=>Op.bytesLess (getD l i (zi zk)).1.1 (getD l (i+1) (zi zk)).1.1=Q3) (Io l-1) (by
  intro i c _;have E:i<Io l:=by omega
  have B:i+1<Io l:=by omega
  have s:(Z9 (.h4 l ((i+1:Nat):Int))).val=if(!Op.bytesLess (getD l i (zi zk)).1.1 (getD l (i+1) (zi zk)).1.1)=Q3 then Q1 (.inr (.int .i64 15,[]))else Q1 (.inl (.h4 l ((i+1+1:Nat):Int))):=by
   simp only[Z9,ma i um];simp only[Q8,zI B,zx B,zx E,aJ,zh];rw[zu (i+1) um]
  by_cases h:Op.bytesLess (getD l i (zi zk)).1.1 (getD l (i+1) (zi zk)).1.1=Q3
  .exact .inl ⟨h,zJ.of (by rw[s,zg (by rw[h];simp)])⟩
  .exact .inr ⟨h,_,zY.of (by rw[s,ze (by simpa using h)]),15,rfl,by decide⟩)
 rcases n with⟨z,n⟩|⟨z,r,n,e,m,g⟩
 case inr=>
  subst m;exact⟨e,zA c n ow rfl,λh=>zC h g,λh=>zC h.names z⟩
 have A:(Z9 (.h4 l ((Io l-1+1:Nat):Int))).val=Q1 (.inl (.h9 l ((0:Nat):Int))):=by
  simp only[Z9,Q8];rw[zg sg];rfl
 have w:=n.trans (zJ.of A);have k:=mF (t:=Z9) (Φ:=Err) 1 (λi=>.h9 l (i:Int)) (λi=>ed (getD l i (zi zk))) (Io l) (by
  intro i c _;obtain⟨e,m,p⟩:=Jr (D _ (ch (d:=zi zk) c));have y:D9 (getD l i (zi zk))=Q3:=by unfold D9;rw[m];rfl
  have j:Jq (getD l i (zi zk))=e:=by unfold Jq;rw[m];rfl
  have s:(Z9 (.h9 l (i:Int))).val=if(e !=0)=Q3 then Q1 (.inr (.int .i64 e,[]))else Q1 (.inl (.h9 l ((i+1:Nat):Int))):=by
   simp only[Z9,Q8,zn,zI c,zx c,aJ,zh,aX,y,j];rw[zu i um]
  by_cases h:e=0
  .exact .inl ⟨p.1 h,zJ.of (by rw[s,zg (by rw[h];simp)])⟩
  .exact .inr ⟨λq=>h (p.2 q),_,zY.of (by rw[s,ze (by simpa using h)]),e,rfl,h⟩)
 rcases k with⟨q,k⟩|⟨q,r,k,e,m,g⟩
 case inr=>
  subst m;exact⟨e,zA c (w.ends k) ow rfl,λh=>zC h g,λh=>zC ((aD (Q:=ed)).2 h.rels) q⟩
 have a:=(aD (Q:=ed)).1 q;obtain⟨b,C,o⟩:=Jv (db:=l) a D ow;have y:Eb l=Q3:=by unfold Eb;rw[C];rfl
 have j:Ju l=b:=by unfold Ju;rw[C];rfl
 have u:(Z9 (.h9 l (Io l:Int))).val=if(!b)=Q3 then Q1 (.inr (.int .i64 10,[]))else Q1 (.inr (.int .i64 0,[])):=by
  simp only[Z9,Q8,zG,y,j];rfl
 by_cases h:b=Q3
 .exact⟨0,zA c (w.ends (k.ends (zY.of (by rw[u,zg (by rw[h];simp)])))) ow rfl,λ_=>⟨v,z,a,o.1 h⟩,λ_=>rfl⟩
 .exact⟨10,zA c (w.ends (k.ends (zY.of (by rw[u,ze (by simpa using h)])))) ow rfl,λh=>(by cases h),λF=>zC (o.2 F.bound) h⟩
theorem Dq(x:Int):∀(l:List Int)(i:Nat),(∃j,∃g:j<Io l,fa x l (i:Int)=((i+j:Nat):Int)/\l[j]=x/\∀k(d:k<j),l[k]≠x)\/(fa x l (i:Int)=(-1:Int)/\x∉l)
 |[],i=>.inr ⟨rfl,sw⟩
 | a::r,i=>by
  rw[fa];by_cases h:x=a
  .rw[ze (by simpa using h)];exact .inl ⟨0,sw,sw,h.symm,λk d=>zC d ow⟩
  .rw[zg (by simpa using h),show((i:Int)+1)=((i+1:Nat):Int) by omega];rcases Dq x r (i+1)with⟨j,g,b,c,m⟩|⟨b,c⟩
   .refine .inl ⟨j+1,by simpa using g,by rw[b];congr 1;omega,c,λk d=>?_⟩;cases k with
    |zero=>exact λe=>h e.symm
    |succ k=>exact m k ow
   .exact .inr ⟨b,by simp[c,h]⟩
theorem Mf(l:List Int)(x:Int):(∃j,∃a:j<Io l,gV l x=(j:Int)/\l[j]=x/\∀k(d:k<j),l[k]≠x)\/(gV l x=(-1:Int)/\x∉l):=by
 rcases Dq x l 0 with⟨j,a,b,c⟩|h
 .exact .inl ⟨j,a,by show fa x l ((0:Nat):Int)=_;rw[b,ew],c⟩
 .exact .inr h
def zes(c:bR):Prop:=zU c.1=Q3/\LE.le (α:=Int) 1 c.2.1/\LE.le (α:=Int) c.2.1 3
theorem pk.col(h:pk t):∀c∈t.2.1,zes c:=by intro c a;obtain⟨i,x,rfl⟩:=fP a;have:=h.cols i x;rw[aY,z6 x,bT]at this;exact⟨this.1,this.2.1,this.2.2.1⟩
variable {k:zH}
theorem Za(h:¬LT.lt (α:=Int) (zV t k) 0):toNat (zV t k)<Io t.2.1:=by
 rcases ww t k with x|⟨x,a⟩
 .rw[x]at h;simp at h
 .omega
theorem pk.at(h:pk t){s:zH}(x:¬LT.lt (α:=Int) (zV t s) 0):zes (getD t.2.1 (toNat (zV t s)) (zi zl)):=h.col _ (Dh _ _ (Za x))
theorem LY(x:iA l)(h:(0:Int)<=ae l k):pk (al l k):=(lT _).1 (x.rels _ (nv h)).may
theorem Hp(h:gv t n=0):(∀s∈n,¬LT.lt (α:=Int) (zV t s) 0)/\(js t n).Nodup:=by
 unfold gv at h;split at h
 .rename_i x;split at h
  .exact⟨x,by assumption⟩
  .cases h
 .cases h
theorem Uk(a:wN s)(x:eG s=Q3)(b:jS s.1):zU s.2.1=Q3/\ci s.t.t.1=Q3/\(s.1=dm->1<=Io s.2.2.2.1/\Io s.2.2.2.1<=8)/\(s.1=gm->zU s.t.t.t=Q3)/\(s.1=mU->Io s.2.2.2.1=2):=by
 have h:=jZ x;rcases b with o|o|o
 .rw[Se a o]at h;simp only[aE,lE,aQ]at h;exact⟨h.2.1,h.1.2.1,λ_=>h.1.1.2,λk=>(by rw[o]at k;cases k),λk=>(by rw[o]at k;cases k)⟩
 .rw[Sf a o]at h;simp only[aE,oO]at h;exact⟨h.2.1,h.1.1,λk=>(by rw[o]at k;cases k),λ_=>h.1.2.2.1,λk=>(by rw[o]at k;cases k)⟩
 .rw[MI a o]at h;simp only[aE,g8,aQ]at h;exact⟨h.2.1,h.1.2.1,λk=>(by rw[o]at k;cases k),λk=>(by rw[o]at k;cases k),λ_=>h.1.1⟩
abbrev rN(e:Int):au:=(.tup [zPl,.int .i64 e],[])
def wM(r:au)(x:Int×ar):Prop:=aU r.2 [aq,zj] r.1=Q1 (x.2,x.1,())
theorem en(e:Int):wM (rN e) (e,kB):=rfl
structure yF (s:zN):Prop where
 wf:ut s.t.t.1
 may:(s.t.t.1.op==[])=Q4->dD s.t.t.1=Q3
theorem zlk(k:yF s)(x:Nat->lk)(R:au)(l:wM R (0,p))(q:p.2.2.2.1.t.2=s.t.t.1)(z:Io p.2.2.2.1.2.1<=1000)
  (y:∀i,i<Io p.2.2.2.1.2.1->(dY (x i)).val=if eQ p.2.2.2.1.2.1 (getD p.2.2.2.1.2.1 i (zi zl)).1=Q3 then(ite ((gz p.2.2.2.1.2.1 (getD p.2.2.2.1.2.1 i (zi zl)).1!=(i:Int))=Q3) (Q1 (.inr (rN 7))) (Q1 (.inl (x (i+1)))))else none)
  (v:(dY (x (Io p.2.2.2.1.2.1))).val=if o6 s.t.t.1 p.2.2.2.1.2.1=Q3 then(ite ((qE s.t.t.1 p.2.2.2.1.2.1!=0)=Q3) (Q1 (.inr (rN (qE s.t.t.1 p.2.2.2.1.2.1)))) (Q1 (.inr R)))else none):
  ∃r,zY dY (Io p.2.2.2.1.2.1*1+1) (x 0) r/\wM r (iF 0 p):=by
 have j:∀i,i<Io p.2.2.2.1.2.1->(dY (x i)).val=if ay p.2.2.2.1.2.1 (getD p.2.2.2.1.2.1 i (zi zl)).1=(i:Int)then Q1 (.inl (x (i+1)))else Q1 (.inr (rN 7)):=by
  intro i h;rw[y i h,ze (oZ ow),rZ ow];by_cases c:ay p.2.2.2.1.2.1 (getD p.2.2.2.1.2.1 i (zi zl)).1=(i:Int)
  .rw[ze c,zg (by simpa using c)]
  .rw[zg c,ze (by simpa using c)]
 obtain⟨u,w⟩:=Zw (cols:=p.2.2.2.1.2.1) k.wf ow k.may;rw[w,ze u,<-q]at v;have m:wA p.2.2.2.1=if∃i,i<Io p.2.2.2.1.2.1/\zV p.2.2.2.1 (getD p.2.2.2.1.2.1 i (zi zl)).1≠(i:Int)then 7 else VX p.2.2.2.1.t.2 p.2.2.2.1.2.1:=rfl
 unfold iF;rw[ze rfl,m]
 rcases mF (t:=dY) (Φ:=λr=>r=rN 7) 1 x (λi=>ay p.2.2.2.1.2.1 (getD p.2.2.2.1.2.1 i (zi zl)).1=(i:Int)) (Io p.2.2.2.1.2.1) (λi a _=>by
  have h:=j i a;by_cases c:ay p.2.2.2.1.2.1 (getD p.2.2.2.1.2.1 i (zi zl)).1=(i:Int)
  .exact .inl ⟨c,zJ.of (by rw[h,ze c])⟩
  .exact .inr ⟨c,_,zY.of (by rw[h,zg c]),rfl⟩)with⟨d,b⟩|⟨d,r,b,rfl⟩
 .have e:¬∃i,i<Io p.2.2.2.1.2.1/\zV p.2.2.2.1 (getD p.2.2.2.1.2.1 i (zi zl)).1≠(i:Int):=by
   rintro⟨i,a,g⟩;exact g (d i a)
  rw[zg e];by_cases c:VX p.2.2.2.1.t.2 p.2.2.2.1.2.1=0
  .rw[zg (by simpa using c)]at v;rw[ze c];exact⟨_,(b.ends (zY.of v)).mono ow,l⟩
  .rw[ze (by simpa using c)]at v;rw[zg c];exact⟨_,(b.ends (zY.of v)).mono ow,en _⟩
 .have o:∃i,i<Io p.2.2.2.1.2.1/\zV p.2.2.2.1 (getD p.2.2.2.1.2.1 i (zi zl)).1≠(i:Int):=by
   apply th;intro e;refine d λi a=>?_
   apply th;exact λn=>e ⟨i,a,n⟩
  rw[ze o,zg (by decide)];exact⟨_,b.mono ow,en _⟩
abbrev plQ(z:zo Tu):ar:=(z.1,z.2.1,z.2.2.1,(z.2.2.2.1,z.t.1,z.t.2.1,[],[],z.t.q.1),z.t.q.2.1,z.t.t.1)
theorem zr9(c:yF s)(x:zo kk)(z:zo zjU)(a:z.t.q.1=s.t.t.1)(b:Io z.t.1<=1000):
  ∃r,zY dY (Io z.t.1*1+1) (.h64 ((0:Nat):Int) (s,()) x z) r/\wM r (iF 0 (plQ z)):=by
 refine zlk c (p:=plQ z) (λi=>.h64 (i:Int) (s,()) x z) ?R ?h a b (λi h=>?_) ?v
 case v=>
  simp only[dY,rE,Q8,zG,zn,zE,zm];rfl
 rotate_left
 .simp only[dY,rE,Q8,zI h,zx h,aJ,zh];rw[zu i (by have:i<Io z.t.1:=h;unfold aI;omega)]
 unfold wM;clear a;obtain⟨d,x,g,j,k,l,e,m,n,o⟩:=z;cases e;rfl
theorem zsa(c:yF s)(x:zo kk)(z:zo Tu)(a:z.t.q.1=s.t.t.1)(b:Io z.t.1<=1000):
  ∃r,zY dY (Io z.t.1*1+1) (.h64bb ((0:Nat):Int) (s,()) x z) r/\wM r (iF 0 (plQ z)):=by
 refine zlk c (p:=plQ z) (λi=>.h64bb (i:Int) (s,()) x z) ?R ?h a b (λi h=>?_) ?v
 case v=>
  simp only[dY,rE,Q8,zG,zn,zE,zm];rfl
 rotate_left
 .simp only[dY,rE,Q8,zI h,zx h,aJ,zy h,zh];rw[zu i (by have:i<Io z.t.1:=h;unfold aI;omega)]
 unfold wM;clear a;obtain⟨d,x,g,j,k,l,e,m,n,o⟩:=z;cases e;rfl
theorem zsb(c:yF s)(x:zo kk)(z:zo V1)(a:z.t.q.1=s.t.t.1)(b:Io z.t.1<=1000):
  ∃r,zY dY (Io z.t.1*1+1) (.h64bbb ((0:Nat):Int) (s,()) x z) r/\wM r (iF 0 (plQ z)):=by
 refine zlk c (p:=plQ z) (λi=>.h64bbb (i:Int) (s,()) x z) ?R ?h a b (λi h=>?_) ?v
 case v=>
  simp only[dY,rE,Q8,zG,zn,zE,zm];rfl
 rotate_left
 .simp only[dY,rE,Q8,zI h,zx h,aJ,zy h,zh];rw[zu i (by have:i<Io z.t.1:=h;unfold aI;omega)]
 unfold wM;clear a;obtain⟨d,x,g,j,k,l,e,m,n,o⟩:=z;cases e;rfl
def sS(k:Int)(l:List Int):Nat->Int
 |0=>-1
 |i+1=>if l.getD i 0=k then(i:Int)else sS k l i
theorem Mm{e:Int}{a:List Int}{i:Nat}(d:i<Io a)(b:a[i]=e)(g:a.Nodup):∀x,x<=Io a->sS e a x=if i<x then(i:Int)else -1
 |0,_=>rfl
 | x+1,j=>by
  rw[sS,Mm d b g x ow,aY,z6 (by omega:x<Io a),bT];by_cases h:a[x]=e
  .have:x=i:=by
    rcases Nat.lt_trichotomy x i with c|c|c
    .exact zC (h.trans b.symm) (List.pairwise_iff_getElem.1 g x i ow d c)
    .exact c
    .exact zC (b.trans h.symm) (List.pairwise_iff_getElem.1 g i x d ow c)
   rw[ze h,ze ow,this]
  .rw[zg h];by_cases c:i<x
   .rw[ze c,ze ow]
   .have:i≠x:=by rintro rfl;exact h b
    rw[zg c,zg ow]
theorem Mn{e:Int}{a:List Int}(h:e∉a):∀i,i<=Io a->sS e a i=-1
 |0,_=>rfl
 | i+1,x=>by
  rw[sS,Mn h i ow,aY,z6 (by omega:i<Io a),bT,zg];rintro rfl;exact h (bp _)
variable {e:Int}
theorem Yk(c:a.Nodup):sS e a (Io a)=gV a e:=by
 rcases Mf a e with⟨j,b,h,x,_⟩|⟨h,x⟩
 .rw[h,Mm b x c _ (ah _),ze b]
 .rw[h,Mn x _ (ah _)]
variable {c:zH}{on:Int}
theorem zwa(y:yF s)(z:zo kk){a b d:zH}{l:List Int}(v:Io l<=1000)(w:l.Nodup)(j:∀x∈l,zK x (Io t.2.1)=Q3):
  ∃r k,zY dY k (.h24 ((0:Nat):Int) (s,()) z (a,b,c,d,[],-1,s.t.t.1,l,on,()) (t,())) r/\k<=10000/\
   wM r (iF (if LT.lt (α:=Int) (gV l t.2.2.1) 0 then 1 else 0) (a,b,c,(d,l.map (λx=>getD t.2.1 (toNat x) (zi zl)),gV l t.2.2.1,[],[],s.t.t.1),l,on)):=by
 have g:=zJ.all (t:=dY) 1 (λi=>.h24 (i:Int) (s,()) z (a,b,c,d,(l.take i).map (λx=>getD t.2.1 (toNat x) (zi zl)),sS t.2.2.1 l i,s.t.t.1,l,on,()) (t,())) (Io l) (by
  intro i e;refine zJ.of ?_;have m:getD l ((i:Int).toNat) (zi zj)=l[i]:=zX l _ e;have n:zK l[i] (Io t.2.1)=Q3:=j _ (bp e);have o:sS t.2.2.1 l (i+1)=if l[i]=t.2.2.1 then(i:Int)else sS t.2.2.1 l i:=by
   rw[sS,aY,z6 e,bT]
  have p:Q0 (Io ((l.take i).map (λx=>getD t.2.1 (toNat x) (zi zl)))+Io [getD t.2.1 (toNat l[i]) (zi zl)]<=1073741824)=Q3:=zy sg;simp only[dY,rE,Q8,zI e,zx e,m,n,p,zh];rw[zu i um,bv e,eC,o];by_cases k:l[i]=t.2.2.1
  .rw[ze k,ze (by simpa using k)];rfl
  .rw[zg k,zg (by simpa using k)];rfl)
 rw[fQ,Yk w]at g;by_cases h:LT.lt (α:=Int) (gV l t.2.2.1) 0
 .rw[ze h];refine⟨rN 1,_,g.ends (zY.of ?_),ow,en 1⟩;simp only[dY,rE,Q8,zG,zy h,zh,zE,zm]
 .rw[zg h];obtain⟨r,q,u⟩:=zsa y z (a,b,c,d,l.map (λx=>getD t.2.1 (toNat x) (zi zl)),gV l t.2.2.1,s.t.t.1,l,on,()) rfl (by simpa using v);refine⟨r,_,g.ends ((zJ.of ?_).ends q),sg,u⟩;simp only[dY,rE,Q8,zG,z7 h,zE,zm];rfl
theorem Al(a:Int)(b:zH):∀(l:dr)(i:Nat),GE.ge (α:=Int) (iJ a b l (i:Int)) 0↔(a,b)∈l
 | [],i=>by
  rw[iJ];exact⟨λh=>zC h (by decide),λh=>by cases h⟩
 | x::r,i=>by
  rw[iJ];split
  .rename_i h;have:(a,b)=x:=by
    simp only[Bool.and_true,aE,bd]at h;exact Prod.ext h.1 h.2
   rw[<-this];exact⟨λ_=>ln,λ_=>Int.natCast_nonneg i⟩
  next h=>have:=Al a b r (i+1);rw[pQ]at this;rw[b8];refine⟨λc=>.inr (this.1 c),λc=>this.2 (c.resolve_left ?_)⟩;rintro rfl;simp at h
theorem oG(l:dr)(x:bW):jq l x=Q3↔x∈l:=by unfold jq;rw[decide_eq_true_iff];exact Al x.1 x.2 l 0
def lA(on:Int)(w:zH)(l:dr):Bool:=l.any λf=>f.1==on&&f.2==w
theorem OW(o:Int)(w:zH)(l:dr):lA o w l=jq l (o,w):=by
 apply gU.2;rw[oG];unfold lA;rw[List.any_eq_true];constructor
 .rintro⟨f,x,h⟩;simp only[aE,bd]at h;have:f=(o,w):=Prod.ext h.1 h.2
  rwa [this]at x
 .intro h;exact⟨_,h,sw⟩
theorem Af(o:Int)(w:zH)(l:dr)(f:bW):lA o w (l++[f])=bif lA o w l then Q3 else bif f.1==o then f.2==w else Q4:=by unfold lA;simp only[List.any_append,List.any_cons,List.any_nil,Bool.or_false];cases(l.any λf=>f.1==o&&f.2==w)<;>cases(f.1==o)<;>rfl
theorem zwc(p:yF s)(z:zo kk){u:ao}{a b d:zH}(v:Io t.2.1<=100)(w:Io u.2.1<=100):
  ∃r k,zY dY k (.h48 ((0:Nat):Int) (s,()) z (a,b,c,d,t.2.1,t.2.2.1,s.t.t.1,[],on,()) (u,())) r/\k<=10000/\
   wM r (iF 0 (a,b,c,(d,t.2.1++fZ u (Io u.2.1),t.2.2.1,[],[],s.t.t.1),ju u.2.2.1 (Io u.2.1),on)):=by
 have o:=zJ.all (t:=dY) 1 (λi=>.h48 (i:Int) (s,()) z (a,b,c,d,t.2.1++fZ u i,t.2.2.1,s.t.t.1,ju u.2.2.1 i,on,()) (u,())) (Io u.2.1) (by
  intro i x;refine zJ.of ?_;have g:=lF u.2.2.1 i;have h:=Hn u.2.2.1 i;have q:(ju u.2.2.1 i).length<=100:=by unfold ju;rw[cQ];omega
  have y:(fZ u i).length<=100:=by unfold fZ;rw[cQ];omega
  simp only[dY,Q8,zI x,zx x,zh,zX _ _ x];rw[zu i um];by_cases k:((i:Int)!=u.2.2.1)=Q3
  .rw[ze k]at h;rw[ze k,ze sg,ze sg,fZ,fZ,ju,ju,h,eC,eC,<-B1];simp[z6 x]
  .rw[zg k]at h;rw[zg k,fZ,fZ,ju,ju,h])
 have q:(fZ u (Io u.2.1)).length<=100:=by have:=lF u.2.2.1 (Io u.2.1);unfold fZ;rw[cQ];omega
 obtain⟨r,l,m⟩:=zsb p z (a,b,c,d,t.2.1++fZ u (Io u.2.1),t.2.2.1,s.t.t.1,ju u.2.2.1 (Io u.2.1),on,()) rfl sg;have n:zJ dY 1 (.h48 (Io u.2.1:Int) (s,()) z (a,b,c,d,t.2.1++fZ u (Io u.2.1),t.2.2.1,s.t.t.1,ju u.2.2.1 (Io u.2.1),on,()) (u,())) (.h64bbb ((0:Nat):Int) (s,()) z (a,b,c,d,t.2.1++fZ u (Io u.2.1),t.2.2.1,s.t.t.1,ju u.2.2.1 (Io u.2.1),on,())):=zJ.of (by
  simp only[dY,Q8,zG];rfl)
 have j:t.2.1++fZ u 0=t.2.1:=pR _;have e:=o.ends (n.ends l);rw[j]at e;exact⟨r,_,e,sg,m⟩
theorem zwb(w:yF s)(z:zo kk){u:ao}{a b d:zH}{k0:Int}(y:Io t.2.1<=100)(A:Io u.2.1<=100)(C:Io t.t.1<=1000):
  ∃r k,zY dY k (.h38 ((0:Nat):Int) (s,()) z (a,b,c,d,k0,s.t.t.1,on,()) (t,()) (u,())) r/\k<=20000/\
   wM r (iF (if jq t.t.1 (on,s.t.t.t)=Q3 then(if LT.lt (α:=Int) 9 ((Io t.2.1:Int)+(Io u.2.1:Int))then 13 else 0)else 10) (a,b,c,(d,t.2.1++fZ u (Io u.2.1),t.2.2.1,[],[],s.t.t.1),ju u.2.2.1 (Io u.2.1),on)):=by
 rw[<-OW];by_cases l:0<Io t.t.1
 .have g:zJ dY 1 (.h38 ((0:Nat):Int) (s,()) z (a,b,c,d,k0,s.t.t.1,on,()) (t,()) (u,())) (.h38b (lA on s.t.t.t (t.t.1.take (0+1))) ((0+1:Nat):Int) (s,()) z (a,b,c,d,k0,s.t.t.1,on,()) (t,()) (u,())):=zJ.of (by
   have e:t.t.1.take (0+1)=[]++[t.t.1[0]]:=bv l;rw[e,Af];simp only[dY,rE,Q8,zI l,zx l,zh,zX _ _ l];rw[zu 0 um];cases((t.t.1[0]).1==on)<;>rfl)
  have n:=zJ.all (t:=dY) 1 (λi=>.h38b (lA on s.t.t.t (t.t.1.take (i+1))) ((i+1:Nat):Int) (s,()) z (a,b,c,d,k0,s.t.t.1,on,()) (t,()) (u,())) (Io t.t.1-1) (by
   intro i j;have j:i+1<Io t.t.1:=by omega
   refine zJ.of ?_;rw[bv j,Af];simp only[dY,rE,Q8,zI j,zx j,zX _ _ j];rw[zu (i+1) um];cases lA on s.t.t.t (t.t.1.take (i+1))<;>cases((t.t.1[i+1]).1==on)<;>rfl)
  have v:Io t.t.1-1+1=Io t.t.1:=by omega
  rw[v,fQ]at n;have o:Γ Δ ((↑(Io t.2.1):Int)+(↑(Io u.2.1):Int))=(↑(Io t.2.1):Int)+(↑(Io u.2.1):Int):=lZ _ ow ow;by_cases x:lA on s.t.t.t t.t.1=Q3
  .rw[ze x];by_cases m:LT.lt (α:=Int) 9 ((Io t.2.1:Int)+(Io u.2.1:Int))
   .rw[ze m];refine⟨rN 13,_,(g.trans n).ends (zY.of ?_),ow,en 13⟩;simp only[dY,rE,Q8,zG,x,o,cm,zE,zm];rw[ze (by simpa using m)]
   .rw[zg m];obtain⟨r,k,p,B,q⟩:=zwc w z (a:=a) (b:=b) (c:=c) (d:=d) (on:=on) y A;refine⟨r,_,(g.trans n).ends ((zJ.of ?_).ends p),ow,q⟩;simp only[dY,rE,Q8,zG,x,o,cm,zE,zm];rw[zg (by simpa using m),ze sg];rfl
  .rw[zg x];have x:lA on s.t.t.t t.t.1=Q4:=by simpa using x
   refine⟨rN 10,_,(g.trans n).ends (zY.of ?_),ow,en 10⟩;simp only[dY,rE,Q8,zG,x,di,zh,zE,zm]
 .have h:t.t.1=[]:=AG ow;rw[h,zg (by unfold lA;simp)];refine⟨rN 10,1,zY.of ?_,ow,en 10⟩;simp only[dY,rE,Q8,h];rfl
theorem A4(h:e≠0):iF e p=(e,kB):=by unfold iF;rw[zg h]
theorem VZ(t:ao)(n:List zH):eD t n=(js t n).map λx=>getD t.2.1 (toNat x) (zi zl):=by unfold eD js;rw[nh];rfl
theorem of7{e:zR}(W:iA e)(hw:wN s)(N:eG s=Q3)(Z:jS s.1)(hb:kh e=(0:Int))(L:∀x∈e,KQ x)(G:zo kk):
  ∃r k,zY dY k (.h7 e (bK s.2.2.1 s.t.t.t) ((0:Nat):Int) (s,()) G (s.1,s.2.2.1,s.t.t.t,s.2.1,0,s.t.t.1,0,())) r/\k<=90000/\wM r (bm e s):=by
 obtain⟨h9,C,m1,m2,m3⟩:=Uk hw N Z;have hs:yF s:=⟨hw.chk,λh=>by
  unfold ci at C;rcases zQ (im s.t.t.1)with c|c
  .rw[kS.1 c]at h;cases h
  .rw[c]at C;exact C⟩
 have hP:bm e s=if pf e s.2.2.1 s.t.t.t s.2.1=0 then cJ e s else(pf e s.2.2.1 s.t.t.t s.2.1,kB):=by
  unfold bm;rw[ze ⟨Z,N,hb⟩]
 have h8:(bK s.2.2.1 s.t.t.t).length<=2:=by unfold bK;split<;>simp
 rw[hP];clear hP
 rcases mF (t:=dY) (Φ:=λr=>r=rN 6) 1 (λi=>.h7 e (bK s.2.2.1 s.t.t.t) (i:Int) (s,()) G (s.1,s.2.2.1,s.t.t.t,s.2.1,0,s.t.t.1,0,())) (λi=>∀h:i<(bK s.2.2.1 s.t.t.t).length,LE.le (α:=Int) 0 (ae e (bK s.2.2.1 s.t.t.t)[i])) (bK s.2.2.1 s.t.t.t).length (λi H _=>by
  have hv:(dY (.h7 e (bK s.2.2.1 s.t.t.t) (i:Int) (s,()) G (s.1,s.2.2.1,s.t.t.t,s.2.1,0,s.t.t.1,0,()))).val=if LT.lt (α:=Int) (ae e (bK s.2.2.1 s.t.t.t)[i]) 0 then Q1 (.inr (rN 6))else Q1 (.inl (.h7 e (bK s.2.2.1 s.t.t.t) ((i+1:Nat):Int) (s,()) G (s.1,s.2.2.1,s.t.t.t,s.2.1,0,s.t.t.1,0,()))):=by
   simp only[dY,rE,Q8,zI H,zx H,zh,zX _ _ H,dS];rw[zu i um];by_cases c:LT.lt (α:=Int) (ae e (bK s.2.2.1 s.t.t.t)[i]) 0
   .rw[ze c,ze (by simpa using c)]
   .rw[zg c,zg (by simpa using c)]
  by_cases c:LT.lt (α:=Int) (ae e (bK s.2.2.1 s.t.t.t)[i]) 0
  .exact .inr ⟨λh=>by have:=h H;omega,_,zY.of (by rw[hv,ze c]),rfl⟩
  .exact .inl ⟨λ_=>by omega,zJ.of (by rw[hv,zg c])⟩)with⟨h1,h2⟩|⟨h1,r,h2,rfl⟩
 rotate_left
 .have X:pf e s.2.2.1 s.t.t.t s.2.1=6:=by
   unfold pf;rw[zg];intro h;exact h1 λi _ H=>h _ (bp H)
  rw[X,zg (by decide)];exact⟨_,_,h2,ow,en 6⟩
 have U:∀n∈bK s.2.2.1 s.t.t.t,LE.le (α:=Int) 0 (ae e n):=by
  intro n v;obtain⟨j,hj,rfl⟩:=fP v;exact h1 j hj hj
 have m:LE.le (α:=Int) 0 (ae e s.2.2.1):=U _ (by unfold bK;split<;>simp);have X:pf e s.2.2.1 s.t.t.t s.2.1=if(Q0 (GE.ge (α:=Int) (ae e s.2.1) 0)||s.2.2.1==s.t.t.t)=Q3 then 7 else if ek e (bK s.2.2.1 s.t.t.t)=Q3 then 10 else 0:=by
  unfold pf;rw[ze U]
 have h6:=W.few;obtain⟨z,A⟩:=ML (db:=e) (ns:=bK s.2.2.1 s.t.t.t) ow (λx hx=>(L x hx).short.rf|>λh=>by omega) ow;have hT:pk (al e s.2.2.1):=LY W m;have t8:=hT.n8;have S:=hw.sh.names.1;have o:(bif Q0 (GE.ge (α:=Int) (ae e s.2.1) 0)then Q3 else s.2.2.1==s.t.t.t)=(Q0 (GE.ge (α:=Int) (ae e s.2.1) 0)||s.2.2.1==s.t.t.t):=by cases Q0 (GE.ge (α:=Int) (ae e s.2.1) 0)<;>rfl
 rw[X];by_cases q:(Q0 (GE.ge (α:=Int) (ae e s.2.1) 0)||s.2.2.1==s.t.t.t)=Q3
 .rw[ze q,zg (by decide)];refine⟨rN 7,_,h2.ends (zY.of ?_),ow,en 7⟩;simp only[dY,rE,Q8,zG,dS,o,q,zh,zE,zm]
 rw[zg q];have q:(Q0 (GE.ge (α:=Int) (ae e s.2.1) 0)||s.2.2.1==s.t.t.t)=Q4:=by simpa using q
 by_cases g:ek e (bK s.2.2.1 s.t.t.t)=Q3
 .rw[ze g,zg (by decide)];refine⟨rN 10,_,h2.ends (zY.of ?_),ow,en 10⟩;simp only[dY,rE,Q8,zG,dS,o,q,z,A,g,zh,zE,zm]
 rw[zg g,ze rfl];have g:ek e (bK s.2.2.1 s.t.t.t)=Q4:=by simpa using g
 obtain⟨F,y⟩:=MK (t:=al e s.2.2.1) (names:=s.2.2.2.1) ow ow;have F:oP (getD e (toNat (ae e s.2.2.1)) (zi zk)).1.2.1 s.2.2.2.1=Q3:=F;have y:rI (getD e (toNat (ae e s.2.2.1)) (zi zk)).1.2.1 s.2.2.2.1=(ite (gv (al e s.2.2.1) s.2.2.2.1=0) (js (al e s.2.2.1) s.2.2.2.1) [],gv (al e s.2.2.1) s.2.2.2.1):=y;unfold cJ;by_cases o1:(s.1==dm)=Q3
 .rw[ze o1];unfold tq;by_cases p:gv (al e s.2.2.1) s.2.2.2.1=0
  .rw[ze p];obtain⟨T,q2⟩:=Hp p;obtain⟨r,k,I,e2,J⟩:=zwa hs G (t:=al e s.2.2.1) (a:=s.1) (b:=s.2.2.1) (c:=s.t.t.t) (d:=s.2.1) (l:=js (al e s.2.2.1) s.2.2.2.1) (on:=0) (by unfold js;rw[cQ];omega) q2 (by
    intro x hx;obtain⟨n,v,rfl⟩:=bh.1 hx;exact rx (T n v))
   rw[VZ];refine⟨r,_,h2.ends ((zJ.of ?_).ends I),ow,J⟩;rw[ze p,p]at y;simp only[dY,rE,Q8,zG,dS,o,q,z,A,g,dV m,o1,F,y,zh,zE,zm,jc];rfl
  .rw[zg p,A4 p];refine⟨_,_,h2.ends (zY.of ?_),ow,en _⟩;rw[zg p]at y;have D:(gv (al e s.2.2.1) s.2.2.2.1!=0)=Q3:=by simpa using p
   simp only[dY,rE,Q8,zG,dS,o,q,z,A,g,dV m,o1,F,y,D,zh,zE,zm]
 rw[zg o1];by_cases o2:(s.1==gm)=Q3
 .rw[ze o2];have hr:=m2 (bF o2);have M:s.t.t.t≠[]:=by intro k;rw[k]at hr;cases hr
  have h3:eu e s.t.t.t=al e s.t.t.t:=by unfold eu;rw[zg M]
  have E:LE.le (α:=Int) 0 (ae e s.t.t.t):=U _ (by unfold bK;rw[zg (by simpa using M)];simp);have u8:=(LY W E).n8;have h0:(al e s.2.2.1).t.1.length<=1000:=by have:=(L _ (nv m)).short.rf;unfold al;omega
  have g1:eQ (getD e (toNat (ae e s.2.2.1)) (zi zk)).1.2.1 s.t.2.1=Q3:=oZ (by show(al e s.2.2.1).2.1.length<=_;omega);have g2:gz (getD e (toNat (ae e s.2.2.1)) (zi zk)).1.2.1 s.t.2.1=zV (al e s.2.2.1) s.t.2.1:=rZ (by show(al e s.2.2.1).2.1.length<=_;omega);rw[h3];unfold fY;by_cases O:LT.lt (α:=Int) (zV (al e s.2.2.1) s.t.2.1) 0
  .rw[ze O,A4 (by decide)];refine⟨rN 4,_,h2.ends (zY.of ?_),ow,en 4⟩;simp only[dY,rE,Q8,zG,dS,o,q,z,A,g,dV m,dV E,o1,o2,g1,g2,zy O,zh,zE,zm]
  .rw[zg O];obtain⟨r,k,I,e2,J⟩:=zwb hs G (t:=al e s.2.2.1) (u:=al e s.t.t.t) (a:=s.1) (b:=s.2.2.1) (c:=s.t.t.t) (d:=s.2.1) (k0:=0) (on:=zV (al e s.2.2.1) s.t.2.1) ow ow h0;refine⟨r,_,h2.ends ((zJ.of ?_).ends I),ow,J⟩;simp only[dY,rE,Q8,zG,dS,o,q,z,A,g,dV m,dV E,o1,o2,g1,g2,z7 O,zh,zE,zm];rfl
 rw[zg o2];have o3:(s.1==mU)=Q3:=by
  rcases Z with k|k|k
  .rw[k]at o1;exact zC rfl o1
  .rw[k]at o2;exact zC rfl o2
  .rw[k];rfl
 rw[ze o3];have Y:=m3 (bF o3);unfold qi;by_cases p:gv (al e s.2.2.1) s.2.2.2.1=0
 .rw[ze p];obtain⟨T,q2⟩:=Hp p;rw[ze p,p]at y;obtain⟨n0,w,v⟩:∃n0 w,s.2.2.2.1=[n0,w]:=by
   match s.2.2.2.1,Y with
   |[a,b],_=>exact⟨a,b,rfl⟩
  have i0:zK (zV (al e s.2.2.1) n0) (Io (getD e (toNat (ae e s.2.2.1)) (zi zk)).1.2.1)=Q3:=rx (T n0 (by rw[v];simp));have i1:zK (zV (al e s.2.2.1) w) (Io (getD e (toNat (ae e s.2.2.1)) (zi zk)).1.2.1)=Q3:=rx (T w (by rw[v];simp));have x0:(js (al e s.2.2.1) s.2.2.2.1).getD (toNat 0) (zi zj)=zV (al e s.2.2.1) n0:=by rw[v];rfl
  have x1:(js (al e s.2.2.1) s.2.2.2.1).getD (toNat 1) (zi zj)=zV (al e s.2.2.1) w:=by rw[v];rfl
  have xl:(js (al e s.2.2.1) s.2.2.2.1).length=2:=by rw[v];rfl
  have b0:zK 0 2=Q3:=rfl;have b1:zK 1 2=Q3:=rfl;have y1:(eD (al e s.2.2.1) s.2.2.2.1).getD 1 (zi zl)=getD (getD e (toNat (ae e s.2.2.1)) (zi zk)).1.2.1 (toNat (zV (al e s.2.2.1) w)) (zi zl):=by rw[v];rfl
  have y0:(eD (al e s.2.2.1) s.2.2.2.1).getD 0 (zi zl)=getD (getD e (toNat (ae e s.2.2.1)) (zi zk)).1.2.1 (toNat (zV (al e s.2.2.1) n0)) (zi zl):=by rw[v];rfl
  unfold xE;rw[y1,y0];by_cases P:(getD (getD e (toNat (ae e s.2.2.1)) (zi zk)).1.2.1 (toNat (zV (al e s.2.2.1) w)) (zi zl)).2.1=(1:Int)
  .rw[ze P];obtain⟨r,I,J⟩:=zr9 hs G (s.1,s.2.2.1,s.t.t.t,s.2.1,[((getD (getD e (toNat (ae e s.2.2.1)) (zi zk)).1.2.1 (toNat (zV (al e s.2.2.1) n0)) (zi zl)).1,(getD (getD e (toNat (ae e s.2.2.1)) (zi zk)).1.2.1 (toNat (zV (al e s.2.2.1) n0)) (zi zl)).2.1,Q3),((getD (getD e (toNat (ae e s.2.2.1)) (zi zk)).1.2.1 (toNat (zV (al e s.2.2.1) w)) (zi zl)).1,(getD (getD e (toNat (ae e s.2.2.1)) (zi zk)).1.2.1 (toNat (zV (al e s.2.2.1) w)) (zi zl)).2.1,Q4)],0,s.t.t.1,js (al e s.2.2.1) s.2.2.2.1,0,()) rfl sw;have B:((getD (getD e (toNat (ae e s.2.2.1)) (zi zk)).1.2.1 (toNat (zV (al e s.2.2.1) w)) (zi zl)).2.1!=1)=Q4:=by rw[P];rfl
   refine⟨r,_,h2.ends ((zJ.of ?_).ends I),sg,J⟩;simp only[dY,rE,Q8,zG,dS,o,q,z,A,g,dV m,o1,o2,o3,F,y,x0,x1,xl,b0,b1,i0,i1,B,zh,zE,zm,jc];rfl
  .rw[zg P,A4 (by decide)];have B:((getD (getD e (toNat (ae e s.2.2.1)) (zi zk)).1.2.1 (toNat (zV (al e s.2.2.1) w)) (zi zl)).2.1!=1)=Q3:=by simpa using P
   refine⟨rN 5,_,h2.ends (zY.of ?_),ow,en 5⟩;simp only[dY,rE,Q8,zG,dS,o,q,z,A,g,dV m,o1,o2,o3,F,y,x0,x1,xl,b0,b1,i0,i1,B,zh,zE,zm,jc]
 .rw[zg p,A4 p];refine⟨_,_,h2.ends (zY.of ?_),ow,en _⟩;rw[zg p]at y;have D:(gv (al e s.2.2.1) s.2.2.2.1!=0)=Q3:=by simpa using p
  simp only[dY,rE,Q8,zG,dS,o,q,z,A,g,dV m,o1,o2,o3,F,y,D,zh,zE,zm]
theorem Zm(c:∀x∈l,KQ x)(v:wN s):DQ l s=Q1 ((bm l s).2,(bm l s).1,()):=by
 have i:∀x∈l,gL x:=λx H=>(c x H).short
 obtain⟨e,z,A⟩:=Jy c;have w:Ec l=Q3:=by unfold Ec;rw[z];rfl
 have y:Jw l=e:=by unfold Jw;rw[z];rfl
 have o:(T5 l s).val=Q1 (.inr (rN 1))->bm l s=(1,kB)->DQ l s=Q1 ((bm l s).2,(bm l s).1,()):=by
  intro h E;rw[E];exact zP h (en 1)
 have F:∀p:ar,jU p=Q3/\lH p=bK p.2.1 p.2.2.1:=λp=>⟨sW p,vE p⟩
 by_cases d:jS s.1
 .obtain⟨t,h⟩:=PN v d;have m:iS s=Q3:=by unfold iS;rw[h];rfl
  have n:lM s=(t,eG s):=by unfold lM;rw[h];rfl
  have g:(cond (!s.1==dm) (cond (!s.1==gm) (!s.1==mU) Q4) Q4)=Q4:=by
   rcases d with k|k|k<;>rw[k]<;>rfl
  by_cases a:eG s=Q3
  .by_cases q:e=0
   .have B:=A.1 q;have G:=(il i).2 B;obtain⟨r,k,C,M,D⟩:=of7 B v a d G c ([],[],[],[],0,[],0,0,[],[],0,());refine zA ?_ C ow D;simp only[T5,rE,Q8,zn,aX,m,n,w,y,a,q,g,F,cm,ax,zh,jc,zE,zm];rfl
   .refine o ?_ ?_
    .have u:(e !=0)=Q3:=by simpa using q
     simp only[T5,rE,Q8,zn,aX,m,n,w,y,a,u,cm,ax,aw,zh]
    .unfold bm;rw[zg];rintro⟨_,_,h⟩;exact q (A.2 ((il i).1 h))
  .have j:eG s=Q4:=by simpa using a
   refine o ?_ ?_
   .simp only[T5,rE,Q8,zn,aX,m,n,j,di,aw,zh]
   .unfold bm;rw[zg];rintro⟨_,h,_⟩;exact a h
 .obtain⟨t,b,h⟩:=PM v;have m:iS s=Q3:=by unfold iS;rw[h];rfl
  have n:lM s=(t,b):=by unfold lM;rw[h];rfl
  have g:(cond (!s.1==dm) (cond (!s.1==gm) (!s.1==mU) Q4) Q4)=Q3:=by
   have I:(s.1==dm)=Q4:=by simpa using λk=>d (.inl k)
   have J:(s.1==gm)=Q4:=by simpa using λk=>d (.inr (.inl k))
   have L:(s.1==mU)=Q4:=by simpa using λk=>d (.inr (.inr k))
   rw[I,J,L];rfl
  refine o ?_ ?_
  .simp only[T5,rE,Q8,zn,aX,m,n,w,y,g,zh];cases b<;>cases(e !=0)<;>rfl
  .unfold bm;rw[zg λh=>d h.1]
theorem e7{α:Type}(p:α->Bool):∀(l:List α)(i:Nat),(ac p l i=-1/\∀x∈l,p x=Q4)\/∃(k:Nat)(h:k<Io l),ac p l i=((i+k:Nat):Int)/\p l[k]=Q3/\∀x∈l.take k,p x=Q4
 |[],_=>.inl ⟨rfl,sw⟩
 | x::r,i=>by
  unfold ac;split
  next h=>exact .inr ⟨0,sw,rfl,h,sw⟩
  .rename_i h;have d:p x=Q4:=by simpa using h
   rcases e7 p r (i+1)with⟨b,c⟩|⟨k,g,b,c,e⟩
   .refine .inl ⟨b,λy a=>?_⟩;rcases b8.1 a with rfl|a
    .exact d
    .exact c y a
   .refine .inr ⟨k+1,by simpa using g,by rw[b];congr 1;omega,by simpa using c,λy a=>?_⟩;rw[List.take_succ_cons]at a;rcases b8.1 a with rfl|a
    .exact d
    .exact e y a
theorem OX(h:ae l k=(i:Int))(c:l.getD i (zi zk)=x):x.1.1=k:=by
 rcases e7 (λy:am=>y.1.1==k) l 0 with⟨q,_⟩|⟨a,d,e,g,_⟩
 .exfalso;have b:ac (λy:am=>y.1.1==k) l 0=(i:Int):=h;rw[q]at b;omega
 .have b:ac (λy:am=>y.1.1==k) l 0=(i:Int):=h;rw[e]at b;obtain rfl:a=i:=by omega
  rw[aY,z6 d,bT]at c;subst c;simpa using g
def Om(p:zH->Bool)(t:ao):ao:=(t.1,t.2.1,t.2.2.1,t.2.2.2.1,t.t.1.filter (λf:bW=>p f.2),t.t.2)
def ji(p:zH->Bool)(x:am):am:=(Om p x.1,x.2)
variable {h:zH->Bool}
theorem RM(x:dM t=Q3):dM (Om h t)=Q3:=by have x:=(lT t).1 x;exact(lT _).2 ⟨x.name,x.n1,x.n8,x.cols,x.uniq,λf a=>x.refs f (List.mem_filter.1 a).1,x.key,x.nn,x.chk⟩
theorem G2{t:ao}{h:zH->Bool}{g:zt}:∀(r:zt)(i:Int),eO (Om h t) g r i=eO t g r i
 |[],_=>by rw[eO,eO];rfl
 |x::r,i=>by rw[eO,eO,G2 r];rfl
theorem LZ{t:ao}{h:zH->Bool}{g:zt}:∀(r:zt)(i:Int),gG (Om h t) g r i=gG t g r i
 |[],_=>by rw[gG,gG,G2]
 |x::r,i=>by rw[gG,gG,LZ r]
theorem W0(x:dM t=Q3)(r:zt):cf (Om h t) r=cf t r:=by unfold cf;rw[x,RM x,LZ];rfl
theorem ed.cut(a:ed x):ed (ji h x) where
 may:=RM a.may
 few:=a.few
 fits:=λr b=>by
  show cf (Om h x.1) r=0;rw[W0 a.may];exact a.fits r b
 key:=a.key
 uniq:=a.uniq
 rise:=a.rise
theorem Yv(d:iA l){y:am}(e:x∈l)(k:y∈l)(h:x.1.1=y.1.1):x=y:=by
 have a:l.Pairwise λx y:am=>Op.bytesLess x.1.1 y.1.1=Q3:=(wg (R:=λx y:am=>Op.bytesLess x.1.1 y.1.1=Q3) g0).1 d.names
 obtain⟨i,b,rfl⟩:=fP e;obtain⟨j,c,rfl⟩:=fP k;rcases Nat.lt_trichotomy i j with g|g|g
 .have:=List.pairwise_iff_getElem.1 a i j b c g;rw[h,cq]at this;cases this
 .subst g;rfl
 .have:=List.pairwise_iff_getElem.1 a j i c b g;rw[h,cq]at this;cases this
theorem jx(h:LE.le (α:=Int) 0 (ae l k)):aF l k∈l/\(aF l k).1.1=k:=
 ⟨nv h,OX (i:=toNat (ae l k)) (Int.toNat_of_nonneg h).symm rfl⟩
variable {d:zR}
theorem iA.src{p:zH->Bool}(a:iA l)(q:Io d<=12)(s:d.Pairwise λx y:am=>Op.bytesLess x.1.1 y.1.1=Q3)(h:∀y∈d,∃x∈l,y=ji p x)(u:∀n,p n=Q3->LE.le (α:=Int) 0 (ae d n)):iA d where
 few:=q
 names:=(wg (R:=λx y:am=>Op.bytesLess x.1.1 y.1.1=Q3) g0).2 s
 rels:=λy i=>by
  obtain⟨x,g,rfl⟩:=h y i;exact(a.rels x g).cut
 bound:=λy i f v=>by
  obtain⟨x,g,rfl⟩:=h y i;obtain⟨b,c⟩:=List.mem_filter.1 v;have m:=u f.2 c;refine⟨m,λk w A=>?_⟩;obtain⟨C,D⟩:=a.bound x g f b;have E:=D k w A;obtain⟨F,o⟩:=jx m;obtain⟨z,B,e⟩:=h _ F;obtain⟨G,H⟩:=jx C;have j:z=aF l f.2:=Yv a B G (by rw[H];rw[e]at o;exact o);rw[e,j];exact E
structure ja (ns:List zH) (t t':ao):Prop where
 cols:t'.2.1=t.2.1
 key:t'.2.2.1=t.2.2.1
 refs:∀f:bW,f.2∈ns->(f∈t'.t.1↔f∈t.t.1)
section
variable {ns:List zH} {t t':Sem aj}
theorem ja.place(h:ja ns t t'):zV t'=zV t:=funext λn=>by unfold zV;rw[h.cols]
theorem ja.plc(h:ja ns t t')(l:List zH):gv t' l=gv t l:=by unfold gv;rw[h.place]
theorem ja.ix(h:ja ns t t')(l:List zH):js t' l=js t l:=by unfold js;rw[h.place]
theorem ja.cs(h:ja ns t t')(l:List zH):eD t' l=eD t l:=by unfold eD;rw[h.place,h.cols]
theorem ja.cpy(h:ja ns t t')(l:List zH):tq t' l=tq t l:=by unfold tq;rw[h.plc,h.ix,h.key]
theorem ja.grp(h:ja ns t t')(l:List zH):qi t' l=qi t l/\xE t' l=xE t l:=by unfold qi xE;rw[h.plc,h.cs];exact⟨rfl,rfl⟩
theorem ja.join(h:ja ns t t'){x u:ao}(a:ja ns x u){k w:zH}(b:w∈ns):fY t' u k w=fY t x k w:=by
 have:jq t'.t.1 (zV t k,w)=jq t.t.1 (zV t k,w):=by
  rw[gU,oG,oG];exact h.refs (zV t k,w) b
 unfold fY;rw[h.place,this,h.cols,a.cols]
theorem ja.oth(h:ja ns t t')(n:Nat):fZ t' n=fZ t n:=by unfold fZ;rw[h.key,h.cols]
end
abbrev cD(s:zN):zH:=s.t.t.t
theorem Ro(a:x∈l):LE.le (α:=Int) 0 (ae l x.1.1):=by
 rcases e7 (λy:am=>y.1.1==x.1.1) l 0 with⟨_,h⟩|⟨k,_,h,_⟩
 .have:=h x a;simp at this
 .have h:ae l x.1.1=((0+k:Nat):Int):=h;rw[h];exact Int.natCast_nonneg _
theorem Ze(k:(bm l s).1=0)(D:kh d=(0:Int))(u:∀n∈bK s.2.2.1 (cD s),LE.le (α:=Int) 0 (ae d n)/\ja (bK s.2.2.1 (cD s)) (al l n) (al d n))
  (b:∀x∈d,x.1.1∈bK s.2.2.1 (cD s)/\∃y∈l,(y:am).1.1=x.1.1) (F:s.1=gm->cD s≠[]):bm d s=bm l s/\bm l s=cJ l s:=by
 unfold bm at k;split at k
 case isFalse=>cases k
 rename_i v;split at k
 case isFalse h=>exact zC k h
 rename_i j;have c:bm l s=cJ l s:=by unfold bm;rw[ze v,ze j]
 refine⟨?_,c⟩;rw[c];have m:pf d s.2.2.1 (cD s) s.2.1=0:=by
  unfold pf at j|-;split at j
  case isFalse=>cases j
  rw[ze λn E=>(u n E).1];split at j
  case isTrue=>cases j
  rename_i B;have C:¬(Q0 (GE.ge (α:=Int) (ae d s.2.1) 0)||s.2.2.1==cD s)=Q3:=by
   intro g;apply B;rcases(ng _ _).mp g with g|g
   .have p:LE.le (α:=Int) 0 (ae d s.2.1):=mi g;obtain⟨I,J⟩:=jx p;obtain⟨_,y,H,e⟩:=b _ I;have:=Ro H;rw[e,J]at this;rw[ng];exact .inl (zy this)
   .rw[ng];exact .inr g
  rw[zg C,zg];unfold ek;intro g;obtain⟨x,G,p⟩:=List.any_eq_true.1 g;rw[(lB _ _).2 (b x G).1]at p;simp at p
 have i:s.2.2.1∈bK s.2.2.1 (cD s):=by unfold bK;split<;>simp
 have a:=(u _ i).2;unfold bm;rw[ze ⟨v.1,v.2.1,D⟩,ze m];unfold cJ;by_cases o1:(s.1==dm)=Q3
 .rw[ze o1,ze o1,a.cpy,a.cs,a.ix,a.key]
 rw[zg o1,zg o1];by_cases o2:(s.1==gm)=Q3
 .have w:=F (bF o2);have o:cD s∈bK s.2.2.1 (cD s):=by
   unfold bK;rw[zg (by simpa using w)];simp
  have q:=(u _ o).2;have z:eu d (cD s)=al d (cD s):=by unfold eu;rw[zg w]
  have A:eu l (cD s)=al l (cD s):=by unfold eu;rw[zg w]
  rw[ze o2,ze o2,z,A,a.join q o,a.cols,a.key,a.place,q.cols,q.key,q.oth]
 rw[zg o2,zg o2,(a.grp _).1,(a.grp _).2,a.ix]
theorem H8{g c b:Bool}(h:(g&&(cond c b Q4))=Q3):b=Q3:=by cases g<;>cases c<;>simp_all
theorem zdr(h:fE s=Q3)(sh:mH s)(G:jS s.1):
  s.t.1=[]/\s.t.q.1=[]/\s.t.q.2.1=[]/\s.t.t.2.1=[]/\s.t.t.q.1=[]/\s.t.t.q.2.1=ez/\(ite (s.1=gm) (s.2.2.2.1=[]) (s.t.2.1=[]/\cD s=[])):=by
 obtain⟨o,y,z,A,B,C,D,E,F,a,c,d,e⟩:=s;have I:=sh.names.1;have J:=sh.cols.1;have L:=sh.uniques.1;have M:=sh.refs.1;have v:=sh.row;have w:=sh.sets.1;simp only at I J L M v w;rcases G with rfl|rfl|rfl
 .obtain⟨_,i⟩:=eT (s:=(dm,y,z,A,B,C,D,E,F,a,c,d,e)) (g:=_) (b:=_) rfl;rw[i]at h;have h:=H8 h;obtain⟨_,_,p,u,_,j,l,m,n,k,_,x⟩:=(jA sw sg sg sg sg sg).1 h;exact⟨j,l,m,n,k,(za.eta _).symm.trans x,by rw[zg (λh=>by simp at h)];exact⟨p,u⟩⟩
 .obtain⟨_,i⟩:=eT (s:=(gm,y,z,A,B,C,D,E,F,a,c,d,e)) (g:=_) (b:=_) rfl;rw[i]at h;have h:=H8 h;obtain⟨_,_,p,u,H,j,l,m,n,k,_,x⟩:=(jA sg sg sg sg sg sg).1 h;exact⟨j,l,m,n,k,(za.eta _).symm.trans x,by rw[ze rfl];exact H⟩
 .obtain⟨_,i⟩:=eT (s:=(mU,y,z,A,B,C,D,E,F,a,c,d,e)) (g:=_) (b:=_) rfl;rw[i]at h;have h:=H8 h;obtain⟨_,_,p,u,_,j,l,m,n,k,_,x⟩:=(jA sw sg sg sg sg sg).1 h;exact⟨j,l,m,n,k,(za.eta _).symm.trans x,by rw[zg (λh=>by simp at h)];exact⟨p,u⟩⟩
theorem ie(h:¬LT.lt (α:=Int) (zV t k) 0):(getD t.2.1 (toNat (zV t k)) (zi zl)).1=k/\LT.lt (α:=Int) (zV t k) (Io t.2.1):=by
 have e:zV t k=ac (λc:bR=>c.1==k) t.2.1 0:=rfl;rcases e7 (λc:bR=>c.1==k) t.2.1 0 with⟨a,_⟩|⟨x,b,a,d,_⟩
 .rw[e,a]at h;exact zC (by decide:(-1:Int)<0) h
 .rw[e,a,ew];refine⟨?_,Int.ofNat_lt.2 b⟩;rw[cO _ _ b];exact bF d
def jf(p:ar)(s:zR):zN:=
 (p.1,p.2.2.2.1.1,p.2.1,if p.1=gm then[]else p.2.2.2.1.2.1.map λc:bR=>c.1,[],
  if p.1=gm then(if LE.le (α:=Int) 0 p.t.2/\LT.lt (α:=Int) p.t.2 (Io (s.getD 0 (zi zk)).1.2.1)then(getD (s.getD 0 (zi zk)).1.2.1 (toNat p.t.2) (zi zl)).1 else[])else[],
  [],[],p.2.2.2.1.t.2,[],[],ez,p.2.2.1)
theorem qu(h:gv t n=0):∀s∈n,¬LT.lt (α:=Int) (zV t s) 0:=by
 unfold gv at h;split at h
 .assumption
 .cases h
theorem yW{t:ao}:∀{l:List zH},(∀s∈l,¬LT.lt (α:=Int) (zV t s) 0)->(eD t l).map (λc:bR=>c.1)=l
 |[],_=>rfl
 | s::r,h=>by
  show(getD t.2.1 (toNat (zV t s)) (zi zl)).1::(eD t r).map (λc:bR=>c.1)=s::r;rw[(ie (h s sw)).1,yW λx a=>h x (by simp[a])]
theorem iG(h:(iF e p).1=0):e=0/\iF e p=(0,p):=by
 unfold iF at h|-;split at h
 .rename_i x;split at h
  next a=>rw[ze x,ze a];exact⟨x,rfl⟩
  next a=>exact zC h a
 next x=>exact zC h x
theorem UO(x:(cJ l s).1=0)(u:jS s.1)(v:fE s=Q3)(sh:mH s)(p:(d.getD 0 (zi zk)).1.2.1=(al l s.2.2.1).2.1):jf (cJ l s).2 d=s:=by
 obtain⟨w,y,z,A,B,C,n⟩:=zdr v sh u;obtain⟨o,L,i,M,O,N,P,S,T,H,I,J,k⟩:=s;simp only at w y z A B C n p;subst w y z A B C;rcases u with rfl|rfl|rfl
 .rw[zg (λh=>by simp at h)]at n;obtain⟨rfl,g⟩:=n;have g:k=[]:=g;subst g;unfold cJ at x|-
  dsimp only at x|-
  rw[ze (show((dm:zH)==dm)=Q3 from rfl)]at x|-;obtain⟨c,j⟩:=iG x;rw[j];have e:=qu (by
   unfold tq at c;split at c
   .assumption
   next m=>exact zC c m)
  unfold jf;simp only;rw[zg (λh=>by simp at h),zg (λh=>by simp at h),yW e]
 .rw[ze rfl]at n;subst n;unfold cJ at x|-
  dsimp only at x|-
  rw[zg (show¬((gm:zH)==dm)=Q3 by decide),ze (show((gm:zH)==gm)=Q3 from rfl)]at x|-;obtain⟨c,j⟩:=iG x;rw[j];have e:¬LT.lt (α:=Int) (zV (al l i) N) 0:=by
   intro h;unfold fY at c;rw[ze h]at c;cases c
  obtain⟨F,G⟩:=ie e;unfold jf;simp only;rw[ze trivial,ze trivial,p,ze ⟨Int.not_lt.1 e,G⟩,F]
 .rw[zg (λh=>by simp at h)]at n;obtain⟨rfl,g⟩:=n;have g:k=[]:=g;subst g;have q:=jR v rfl;simp only at q;unfold cJ at x|-
  dsimp only at x|-
  rw[zg (show¬((mU:zH)==dm)=Q3 by decide),zg (show¬((mU:zH)==gm)=Q3 by decide),ze (show((mU:zH)==mU)=Q3 from rfl)]at x|-;obtain⟨c,j⟩:=iG x;rw[j];have e:=qu (by
   unfold qi at c;split at c
   .assumption
   next m=>exact zC c m)
  match M,q,e with
  |[a,b],_,e=>
  unfold jf;simp only;rw[zg (λh=>by simp at h),zg (λh=>by simp at h)];have D:=(ie (e a sw)).1;have E:=(ie (e b sw)).1;show(mU,L,i,[(getD (al l i).2.1 (toNat (zV (al l i) a)) (zi zl)).1,(getD (al l i).2.1 (toNat (zV (al l i) b)) (zi zl)).1],_)=_;rw[D,E]
def aa(db:zR)(p:ar):zR:=(bK p.2.1 p.2.2.1).map λn=>ji (aG (bK p.2.1 p.2.2.1)) (aF db n)
theorem Hl:x∈f7 l↔x∈l:=by
 match l with
 |[]=>rfl
 |[_]=>rfl
 | [a,b]=>
  rw[si];split
  .simp[or_comm]
  .exact Iff.rfl
 |_::_::_::_=>rfl
theorem Hf(l:zR):(f7 l).length=Io l:=by
 match l with
 |[]=>rfl
 |[_]=>rfl
 |[a,b]=>rw[si];split<;>rfl
 |_::_::_::_=>rfl
theorem B6(x:(cJ l s).1=0):(cJ l s).2.1=s.1/\(cJ l s).2.2.1=s.2.2.1/\(cJ l s).2.2.2.1=cD s:=by
 unfold cJ at x|-;split at x
 next h=>rw[ze h,(iG x).2];exact⟨rfl,rfl,rfl⟩
 .rename_i h;split at x
  next a=>rw[zg h,ze a,(iG x).2];exact⟨rfl,rfl,rfl⟩
  .rename_i a;split at x
   next b=>rw[zg h,zg a,ze b,(iG x).2];exact⟨rfl,rfl,rfl⟩
   .cases x
theorem G9(h:fE s=Q3)(a:s.1=gm):cD s≠[]:=by obtain⟨o,j,k,u,v,l,w,y,z,d,e,i,x⟩:=s;have a:o=gm:=a;subst a;obtain⟨_,q⟩:=eT (s:=(gm,j,k,u,v,l,w,y,z,d,e,i,x)) (g:=_) (b:=_) rfl;rw[q]at h;intro c;have c:x=[]:=c;subst c;rw[show cv []=Q4 from rfl]at h;cases m:cv j<;>cases n:cv k<;>cases p:cv l<;>simp[m,n,p]at h
theorem I8(a:(bm l s).1=0):jS s.1/\eG s=Q3/\kh l=(0:Int)/\(∀n∈bK s.2.2.1 (cD s),LE.le (α:=Int) 0 (ae l n))/\s.2.2.1≠cD s/\bm l s=cJ l s:=by
 unfold bm at a;split at a
 case isFalse=>cases a
 rename_i b;split at a
 case isFalse h=>exact zC a h
 rename_i x;refine⟨b.1,b.2.1,b.2.2,?_,?_,by unfold bm;rw[ze b,ze x]⟩
 .unfold pf at x;split at x
  .assumption
  .cases x
 .unfold pf at x;split at x
  case isFalse=>cases x
  split at x
  case isTrue=>cases x
  rename_i c;intro e;apply c;have e:s.2.2.1=s.t.t.t:=e;rw[<-e];simp
theorem UN(w:∀x∈l,gL x)(N:(bm l s).1=0)(sh:mH s):
  bm (f7 (aa l (bm l s).2)) (jf (bm l s).2 (aa l (bm l s).2))=(0,(bm l s).2)/\(aa l (bm l s).2).map (λx:am=>x.1.1)=bK (bm l s).2.2.1 (bm l s).2.2.2.1/\(f7 (aa l (bm l s).2)).Pairwise (λx y:am=>Op.bytesLess x.1.1 y.1.1=Q3)/\jf (bm l s).2 (aa l (bm l s).2)=s/\(∀x∈f7 (aa l (bm l s).2),gL x)/\two (aa l (bm l s).2)=Q3:=by
 obtain⟨T,B,hb,A,C,o⟩:=I8 N;have hB:=(il w).1 hb;have i:=jZ B;have D:(cJ l s).1=0:=by rw[<-o];exact N
 obtain⟨f1,Y,Z⟩:=B6 D;have E:bm l s=(0,(bm l s).2):=by rw[<-N]
 rw[o]at E|-;generalize u:bK (cJ l s).2.2.1 (cJ l s).2.2.2.1=ns;have b:bK s.2.2.1 (cD s)=ns:=by rw[<-u,Y,Z]
 rw[b]at A;have H:aa l (cJ l s).2=ns.map λn=>ji (aG ns) (aF l n):=by unfold aa;rw[u]
 rw[H];have a:∀n∈ns,(aF l n).1.1=n:=λn c=>(jx (A n c)).2
 have d:∀x∈f7 (ns.map λn=>ji (aG ns) (aF l n)),∃n∈ns,x=ji (aG ns) (aF l n):=λx L=>by
  obtain⟨n,c,rfl⟩:=bh.1 (Hl.1 L);exact⟨n,c,rfl⟩
 have j:∀n∈ns,ji (aG ns) (aF l n)∈f7 (ns.map λn=>ji (aG ns) (aF l n)):=λn c=>Hl.2 (bh.2 ⟨n,c,rfl⟩)
 have X:Io ns<=2:=by rw[<-u];unfold bK;split<;>simp
 have v:(f7 (ns.map λn=>ji (aG ns) (aF l n))).Pairwise λx y:am=>Op.bytesLess x.1.1 y.1.1=Q3:=by
  by_cases F:(cD s==[])=Q3
  .have e:ns=[s.2.2.1]:=by rw[<-b];unfold bK;rw[ze F]
   rw[e];simp[f7]
  .have e:ns=[s.2.2.1,cD s]:=by rw[<-b];unfold bK;rw[zg F]
   have U:=a s.2.2.1 (by rw[e];simp);have W:=a (cD s) (by rw[e];simp);rw[e];show(f7 [ji _ (aF l s.2.2.1),ji _ (aF l (cD s))]).Pairwise _;rw[si];split
   next h=>simp only[List.pairwise_cons,dU,forall_eq,List.not_mem_nil,false_implies,implies_true,List.Pairwise.nil,and_true];exact h
   next h=>simp only[List.pairwise_cons,dU,forall_eq,List.not_mem_nil,false_implies,implies_true,List.Pairwise.nil,and_true];refine kj (by simpa using h) ?_;show(aF l (cD s)).1.1≠(aF l s.2.2.1).1.1;rw[U,W];exact λe=>C e.symm
 generalize z:f7 (ns.map λn=>ji (aG ns) (aF l n))=k at d j v;have g:∀n∈ns,LE.le (α:=Int) 0 (ae k n):=λn c=>by
  have:=Ro (j n c)
  rwa [show(ji (aG ns) (aF l n)).1.1=n from a n c]at this
 have P:iA k:=hB.src (p:=aG ns) (by rw[<-z,Hf,cQ];omega) v (λy hy=>by
  obtain⟨n,c,rfl⟩:=d y hy;exact⟨_,(jx (A n c)).1,rfl⟩) (λn c=>g n ((lB _ _).1 c))
 have G:∀x∈k,gL x:=λx L=>by
  obtain⟨n,c,rfl⟩:=d x L;have:=w _ (jx (A n c)).1;exact⟨this.uq,aT (List.length_filter_le _ _) this.rf,this.rw⟩
 have I:∀n∈ns,al k n=Om (aG ns) (al l n):=λn c=>by
  obtain⟨O,M⟩:=jx (g n c);obtain⟨m,T,e⟩:=d _ O;have:m=n:=by
   rw[e]at M;rw[<-a m T];exact M
  subst this;show(aF k m).1=_;rw[e];rfl
 have q:jf (cJ l s).2 (ns.map λn=>ji (aG ns) (aF l n))=s:=by
  refine UO D T i sh ?_;have:∃r,ns=s.2.2.1::r:=by rw[<-b];unfold bK;split<;>exact⟨_,rfl⟩
  obtain⟨r,e⟩:=this;rw[e];rfl
 have J:two (ns.map λn=>ji (aG ns) (aF l n))=Q3:=by
  by_cases F:(cD s==[])=Q3
  .have e:ns=[s.2.2.1]:=by rw[<-b];unfold bK;rw[ze F]
   rw[e];rfl
  .have e:ns=[s.2.2.1,cD s]:=by rw[<-b];unfold bK;rw[zg F]
   have U:=a s.2.2.1 (by rw[e];simp);have W:=a (cD s) (by rw[e];simp);rw[e];show(!((aF l s.2.2.1).1.1:zH)==(aF l (cD s)).1.1)=Q3;rw[U,W];simpa using C
 refine⟨?_,?_,v,q,G,J⟩
 .rw[q];refine(Ze N ((il G).2 P) (λn c=>?_) (λx L=>?_) (λho=>G9 i ho)).1.trans (by rw[o];exact E)
  .rw[b]at c|-;refine⟨g n c,?_⟩;rw[I n c];refine⟨rfl,rfl,λf S=>?_⟩;show f∈(al l n).t.1.filter (λf:bW=>aG ns f.2)↔_;rw[List.mem_filter,(lB _ _).2 S];simp
  .rw[b];obtain⟨n,c,rfl⟩:=d x L;obtain⟨O,M⟩:=jx (A n c);exact⟨by show(aF l n).1.1∈ns;rw[M];exact c,_,O,rfl⟩
 .rw[nh]
  conv=>rhs;rw[<-List.map_id ns]
  exact List.map_congr_left λn c=>a n c
def dL(p:ar)(s:zR):Int:=if p.1=dm then(getD s 0 (zi zk)).1.2.2.1 else if p.1=gm then p.t.2 else getD p.t.1 0 (zi zj)
theorem UW(b:0<Io l)(c:p.1≠dm->p.1≠gm->0<Io p.t.1):wD p l=Q1 (dL p l,()):=by
 have d:zK 0 (Io l)=Q3:=zx (i:=0) b;unfold dL;by_cases h:p.1=dm
 .rw[ze h];have e:(p.1==dm)=Q3:=by simp[h]
  refine zP (r:=(.int .i64 (getD l 0 (zi zk)).1.2.2.1,[])) ?_ rfl;simp only[zc3,Q8,e,d,zh];rfl
 .rw[zg h];have e:(p.1==dm)=Q4:=by simpa using h
  by_cases x:p.1=gm
  .rw[ze x];have a:(p.1==gm)=Q3:=by simp[x]
   refine zP (r:=(.int .i64 p.t.2,[])) ?_ rfl;simp only[zc3,Q8,e,a,zh,zE,zm]
  .rw[zg x];have a:(p.1==gm)=Q4:=by simpa using x
   have g:zK 0 (Io p.t.1)=Q3:=zx (i:=0) (c h x);refine zP (r:=(.int .i64 (getD p.t.1 0 (zi zj)),[])) ?_ rfl;simp only[zc3,Q8,e,a,g,zh,zE,zm];rfl
def s59(p:ar)(n i:Int):List zH->KH
 |[]=>.h7 p.2.2.2.1.2.1 n i [] [] [] [] [] 0 0 [] [] [] 0 0 [] [] [] p.1 p.2.2.2.1.1 p.2.1 [] (za.op p.2.2.2.1.t.2) (za.v p.2.2.2.1.t.2).1 (za.v p.2.2.2.1.t.2).2.1 (za.v p.2.2.2.1.t.2).2.2 (za.s p.2.2.2.1.t.2) (za.l p.2.2.2.1.t.2) [] 0 0 [] [] p.2.2.1
 |a::r=>.h7b p.2.2.2.1.2.1 n i [] [] [] [] [] 0 0 [] [] [] 0 0 [] [] [] p.1 p.2.2.2.1.1 p.2.1 [] (za.op p.2.2.2.1.t.2) (za.v p.2.2.2.1.t.2).1 (za.v p.2.2.2.1.t.2).2.1 (za.v p.2.2.2.1.t.2).2.2 (za.s p.2.2.2.1.t.2) (za.l p.2.2.2.1.t.2) [] 0 0 [] [] p.2.2.1 (a::r)
theorem zd0(h:List zH)(x:i<Io p.2.2.2.1.2.1)(b:Io h<=1000)(c:i<=1000):(AR (s59 p (Io p.2.2.2.1.2.1:Int) (i:Int) h)).val=Q1 (.inl (s59 p (Io p.2.2.2.1.2.1:Int) ((i+1:Nat):Int) (h++[(getD p.2.2.2.1.2.1 i (zi zl)).1]))):=by
 cases h with
 | nil=>
  show(AR (.h7 _ _ _ _ _ _ _ _ _ _ _ _ _ _ _ _ _ _ _ _ _ _ _ _ _ _ _ _ _ _ _ _ _ _)).val=_;simp only[AR,Q8,zI x,zx x,zh,aJ];rw[ze sw,zu i um];rfl
 | cons a r=>
  show(AR (.h7b _ _ _ _ _ _ _ _ _ _ _ _ _ _ _ _ _ _ _ _ _ _ _ _ _ _ _ _ _ _ _ _ _ _ _)).val=_;simp only[AR,Q8,zI x,zx x,zh,aJ];rw[ze (by simp at b|-;omega),zu i um];rfl
theorem Y8{h:zR}(D:0<Io h)(H:Io p.2.2.2.1.2.1<=1000):I5 p h=Q1 (jf p h,()):=by
 have d:zK 0 (Io h)=Q3:=zx (i:=0) D;by_cases b:p.1=gm
 .have g:(p.1==gm)=Q3:=by simp[b]
  unfold jf;rw[ze b,ze b];by_cases x:LE.le (α:=Int) 0 p.t.2/\LT.lt (α:=Int) p.t.2 (Io (getD h 0 (zi zk)).1.2.1)
  .rw[ze x];have y:Q0 (GE.ge (α:=Int) p.t.2 0)=Q3:=zy x.1;have z:Q0 (LT.lt (α:=Int) p.t.2 (Io (getD h 0 (zi zk)).1.2.1))=Q3:=zy x.2;have A:zK p.t.2 (Io (getD h 0 (zi zk)).1.2.1)=Q3:=by
    unfold zK;rw[aE];exact⟨zy x.1,zy (by have:=x.1;have:=x.2;omega)⟩
   have u:(zdc p h).val=Q1 (.inr (agg [str p.1,str p.2.2.2.1.1,str p.2.1,nils,nils,str (getD (getD h 0 (zi zk)).1.2.1 (toNat p.t.2) (zi zl)).1,nils,nils,str (za.op p.2.2.2.1.t.2),ai (za.v p.2.2.2.1.t.2).1,
     ai (za.v p.2.2.2.1.t.2).2.1,str (za.v p.2.2.2.1.t.2).2.2,str (za.s p.2.2.2.1.t.2),sl Sh.expr (za.l p.2.2.2.1.t.2),nils,nils,str [],ai 0,ai 0,str [],str [],nils,str p.2.2.1],[])):=by
    show(br _ (chk _ (br _ (chk _ (chk _ (re _ _))) (re _ _))) (Tr.to _)).val=_;have k:Q0 (p.t.2>=0)=Q3:=y;simp only[Q8,g,k,d,aw,zh];have m:Q0 (p.t.2<(↑(Io (getD h (toNat 0) (zi zk)).1.2.1):Int))=Q3:=z;have o:zK p.t.2 (Io (getD h (toNat 0) (zi zk)).1.2.1)=Q3:=A;rw[ze m,ze o];rfl
   refine zP u ?_;rw[<-zn p.2.2.2.1.t.2];rfl
  .rw[zg x]
   have u:(zdc p h).val=Q1 (.inr (agg [str p.1,str p.2.2.2.1.1,str p.2.1,nils,nils,str [],nils,nils,str (za.op p.2.2.2.1.t.2),ai (za.v p.2.2.2.1.t.2).1,
     ai (za.v p.2.2.2.1.t.2).2.1,str (za.v p.2.2.2.1.t.2).2.2,str (za.s p.2.2.2.1.t.2),sl Sh.expr (za.l p.2.2.2.1.t.2),nils,nils,str [],ai 0,ai 0,str [],str [],nils,str p.2.2.1],[])):=by
    have B:(cond (Q0 (p.t.2>=0)) (Q0 (p.t.2<(↑(Io (getD h (toNat 0) (zi zk)).1.2.1):Int))) Q4)=Q4:=by
     by_cases j:LE.le (α:=Int) 0 p.t.2
     .have w:¬LT.lt (α:=Int) p.t.2 (Io (getD h 0 (zi zk)).1.2.1):=λc=>x ⟨j,c⟩
      rw[show Q0 (p.t.2>=0)=Q3 from zy j,aw];exact z7 w
     .rw[show Q0 (p.t.2>=0)=Q4 from z7 j,ax]
    have C:(cond (Q0 (p.t.2>=0)) (zK 0 (Io h)) Q3)=Q3:=by rw[d];cases Q0 (p.t.2>=0)<;>rfl
    show(br _ (chk _ (br _ (chk _ (chk _ (re _ _))) (re _ _))) (Tr.to _)).val=_;simp only[Q8,g,zh];rw[ze C];simp only[B,zE,zm]
   refine zP u ?_;rw[<-zn p.2.2.2.1.t.2];rfl
 .have g:(p.1==gm)=Q4:=by simpa using b
  have E:(zdc p h).val=Q1 (.inl (s59 p (Io p.2.2.2.1.2.1:Int) ((0:Nat):Int) [])):=by
   show(br _ (chk _ (br _ (chk _ (chk _ (re _ _))) (re _ _))) (Tr.to _)).val=_;simp only[Q8,g,zE,zm];rfl
  have q:=zJ.all (t:=AR) 1 (λi=>s59 p (Io p.2.2.2.1.2.1:Int) (i:Int) ((p.2.2.2.1.2.1.take i).map λc:bR=>c.1)) (Io p.2.2.2.1.2.1) λi d=>zJ.of (by
   rw[zd0 _ d sg ow];congr 3;rw[bv d,eC,aY,z6 d];rfl)
  simp only[List.take_zero,pU,fQ]at q;unfold jf;rw[zg b,zg b];generalize I:(p.2.2.2.1.2.1.map λc:bR=>c.1)=n at q;have e:∃r,zY AR 1 (s59 p (Io p.2.2.2.1.2.1:Int) (Io p.2.2.2.1.2.1:Int) n) r/\aU r.2 [aC] r.1=Q1 ((p.1,p.2.2.2.1.1,p.2.1,n,[],[],[],[],p.2.2.2.1.t.2,[],[],ez,p.2.2.1),()):=by
   cases n with
   | nil=>
    refine⟨_,zY.of (by
     show(AR (.h7 _ _ _ _ _ _ _ _ _ _ _ _ _ _ _ _ _ _ _ _ _ _ _ _ _ _ _ _ _ _ _ _ _ _)).val=_;simp only[AR,Q8,zG,zE,zm];rfl),?_⟩
    rw[<-zn p.2.2.2.1.t.2];rfl
   | cons a r=>
    refine⟨_,zY.of (by
     show(AR (.h7b _ _ _ _ _ _ _ _ _ _ _ _ _ _ _ _ _ _ _ _ _ _ _ _ _ _ _ _ _ _ _ _ _ _ _)).val=_;simp only[AR,Q8,zG,zE,zm];rfl),?_⟩
    rw[<-zn p.2.2.2.1.t.2];rfl
  obtain⟨r,F,G⟩:=e;exact zA E (q.ends F) ow G
structure QD (p:ar) (src:zR):Prop where
 names:src.map (λx:am=>x.1.1)=bK p.2.1 p.2.2.1
 two:two src=Q3
 plan:bm (f7 src) (jf p src)=(0,p)
 few:zbK (jf p src)
 short:∀x∈f7 src,gL x
 cols:Io p.2.2.2.1.2.1<=1000
 same:I3 p p=Q3/\MD p p=Q3
theorem pi(h:two l=Q3):0<Io l/\Io l<=2:=by
 match l,h with
 |[_],_=>simp
 |[_,_],_=>simp
theorem zdH(h:QD p l):R9 p l=Q1 (0,()):=by
 obtain⟨d,u⟩:=pi h.two;have x:(bK p.2.1 p.2.2.1).length=Io l:=by rw[<-h.names,cQ]
 have s:(zq2 p l).val=Q1 (.inl (.h6 l (bK p.2.1 p.2.2.1) l (Io l:Int) ((0:Nat):Int) (p,()))):=by
  have e:((Io l:Int)!=((bK p.2.1 p.2.2.1).length:Int))=Q4:=by rw[x];simp
  show(br ((Io l:Int)!=((bK p.2.1 p.2.2.1).length:Int)) _ _).val=_;rw[e];rfl
 have o:=zJ.all (t:=zec) 1 (λi=>.h6 l (bK p.2.1 p.2.2.1) l (Io l:Int) (i:Int) (p,())) (Io l) λi b=>zJ.of (by
  have q:(!((getD l i (zi zk)).1.1:zH)==(bK p.2.1 p.2.2.1).getD i (zi Sh.str))=Q4:=by
   rw[<-h.names,aY,aY,du,z6 b];simp
  simp only[zec,Q8,zI b,zx b,zx (show i<(bK p.2.1 p.2.2.1).length by omega),zh,aJ,q,zE,zm];rw[zu i um])
 have a:=Y8 (p:=p) d h.cols;have g:Pu p l=Q3:=by unfold Pu;rw[a];rfl
 have j:Y7 p l=jf p l:=by unfold Y7;rw[a];rfl
 have c:MC (f7 l) (jf p l)=Q1 ((bm (f7 l) (jf p l)).2,(bm (f7 l) (jf p l)).1,()):=zlZ h.short (by rw[Hf];omega) h.few;rw[h.plan]at c;have m:zlY (f7 l) (jf p l)=Q3:=by unfold zlY;rw[c];rfl
 have n:pOf (f7 l) (jf p l)=(p,0):=by unfold pOf;rw[c];rfl
 refine zA s (o.ends (k:=1) (r:=(.int .i64 0,[])) (zY.of ?_)) ow rfl;simp only[zec,Q8,zG,zn,aX,g,j,m,n,h.two,h.same.1,h.same.2,zE,zm];simp[d,show Io l<=1000 by omega]
theorem Be(h:QD p l):Ho p l=Q3/\Ut p l=0:=by have:=zdH h;exact⟨by unfold Ho;rw[this];rfl,by unfold Ut;rw[this];rfl⟩
def s50(d:zR)(ns:List zH)(j i:Int)(x:am):zR->dr->mG
 |[],[]=>.h12 d ns j i (x,())
 |[],b::r=>.h12b d ns j i (x,()) (b::r)
 |a::l,[]=>.h12bb d ns j i (x,()) (a::l)
 |a::l,b::r=>.h12bbb d ns j i (x,()) (a::l) (b::r)
def PT(d:zR)(ns:List zH)(j:Int):zR->mG
 |[]=>.h4 d ns j
 |a::l=>.h4b d ns j (a::l)
variable {ns:List zH}
theorem zdZ(g:i<Io x.1.t.1)(o:Io ns<=1000)(m:Io b<=1000)(n:i<=1000):
  (gQ (s50 l ns e (i:Int) x d b)).val=Q1 (.inl (s50 l ns e ((i+1:Nat):Int) x d (ite (aG ns (getD x.1.t.1 i (zi zB)).2=Q3) (b++[getD x.1.t.1 i (zi zB)]) b))):=by
 obtain⟨j,k⟩:=JE (l:=ns) (s:=(getD x.1.t.1 i (zi zB)).2) ow;cases d with
 | nil=>
  cases b with
  | nil=>
   show(gQ (.h12 _ _ _ _ _)).val=_;simp only[gQ,Q8,zI g,zx g,zh,aJ,j,k];rw[zu i um];split
   .rw[ze sw];rfl
   .rfl
  | cons c r=>
   show(gQ (.h12b _ _ _ _ _ _)).val=_;simp only[gQ,Q8,zI g,zx g,zh,aJ,j,k];rw[zu i um];split
   .rw[ze (by simp at m|-;omega)];rfl
   .rfl
 | cons a h=>
  cases b with
  | nil=>
   show(gQ (.h12bb _ _ _ _ _ _)).val=_;simp only[gQ,Q8,zI g,zx g,zh,aJ,j,k];rw[zu i um];split
   .rw[ze sw];rfl
   .rfl
  | cons c r=>
   show(gQ (.h12bbb _ _ _ _ _ _ _)).val=_;simp only[gQ,Q8,zI g,zx g,zh,aJ,j,k];rw[zu i um];split
   .rw[ze (by simp at m|-;omega)];rfl
   .rfl
theorem zdY(g:i<=1000)(e:Io d<=1000):
  (gQ (s50 l ns (i:Int) (Io x.1.t.1:Int) x d b)).val=Q1 (.inl (PT l ns ((i+1:Nat):Int) (d++[((x.1.1,x.1.2.1,x.1.2.2.1,x.1.2.2.2.1,b,x.1.t.2),x.2)]))):=by
 cases d with
 | nil=>
  cases b with
  | nil=>
   show(gQ (.h12 _ _ _ _ _)).val=_;simp only[gQ,Q8,zG,zE,zm,zn];rw[zu i um,ze sw];rfl
  | cons c r=>
   show(gQ (.h12b _ _ _ _ _ _)).val=_;simp only[gQ,Q8,zG,zE,zm,zn];rw[zu i um,ze sw];rfl
 | cons a h=>
  cases b with
  | nil=>
   show(gQ (.h12bb _ _ _ _ _ _)).val=_;simp only[gQ,Q8,zG,zE,zm,zn];rw[zu i um,ze (by simp at e|-;omega)];rfl
  | cons c r=>
   show(gQ (.h12bbb _ _ _ _ _ _ _)).val=_;simp only[gQ,Q8,zG,zE,zm,zn];rw[zu i um,ze (by simp at e|-;omega)];rfl
theorem zmb(j:Io ns<=1000)(g:i<=1000)(e:Io d<=1000)(k:Io x.1.t.1<=1000):
  zJ gQ 1002 (s50 l ns (i:Int) ((0:Nat):Int) x d []) (PT l ns ((i+1:Nat):Int) (d++[ji (aG ns) x])):=by
 have c:=zJ.all (t:=gQ) 1 (λa=>s50 l ns (i:Int) (a:Int) x d ((x.1.t.1.take a).filter λf:bW=>aG ns f.2)) (Io x.1.t.1) λa b=>zJ.of (by
  rw[zdZ b j (aT (List.length_filter_le _ _) sg) ow];congr 3;rw[bv b,List.filter_append,aY,z6 b];cases h:aG ns (x.1.t.1[a]:bW).2<;>simp[h])
 simp only[List.take_zero,List.filter_nil,fQ]at c;refine(c.trans (zJ.of (zdY g e))).mono ow
theorem Zo(w:∀x∈l,gL x)(o:∀n∈bK p.2.1 p.2.2.1,LE.le (α:=Int) 0 (ae l n)):DR p l=Q1 (aa l p,Q3,()):=by
 have q:(zkE p l).val=Q1 (.inl (PT l (bK p.2.1 p.2.2.1) ((0:Nat):Int) [])):=by
  simp only[zkE,zn,aX,Q8,sW,vE,zh];rfl
 have v:(bK p.2.1 p.2.2.1).length<=2:=by unfold bK;split<;>simp
 unfold aa;generalize bK p.2.1 p.2.2.1=ns at q v o|-;have m:=zJ.all (t:=gQ) 1003 (λj=>PT l ns (j:Int) ((ns.take j).map λn=>ji (aG ns) (aF l n))) (Io ns) λj d=>by
  have e:=o ns[j] (bp d);have k:Q0 (ae l ns[j]<0)=Q4:=by simpa using e
  have i:=dV e;have y:=w _ (nv e);have s:zJ gQ 1 (PT l ns (j:Int) ((ns.take j).map λn=>ji (aG ns) (aF l n))) (s50 l ns (j:Int) ((0:Nat):Int) (aF l ns[j]) ((ns.take j).map λn=>ji (aG ns) (aF l n)) []):=zJ.of (by
   generalize((ns.take j).map λn=>ji (aG ns) (aF l n))=c;cases c with
   | nil=>
    show(gQ (.h4 _ _ _)).val=_;simp only[gQ,Q8,zI d,zx d,zh,zX _ _ d,dS,k,i,zE,zm];rfl
   | cons a h=>
    show(gQ (.h4b _ _ _ _)).val=_;simp only[gQ,Q8,zI d,zx d,zh,zX _ _ d,dS,k,i,zE,zm];rfl)
  have u:=(s.trans (zmb (x:=aF l ns[j]) ow ow sg y.rf)).mono (b:=1003) ow;show zJ gQ 1003 _ (PT l ns ((j+1:Nat):Int) ((ns.take (j+1)).map λn=>ji (aG ns) (aF l n)));rw[bv d,eC];exact u
 simp only[List.take_zero,pU,fQ]at m;generalize B:(ns.map λn=>ji (aG ns) (aF l n))=c at m;have g:∃r,zY gQ 1 (PT l ns (Io ns:Int) c) r/\aU r.2 [zk.sl,Sh.bool] r.1=Q1 (c,Q3,()):=by
  cases c with
  | nil=>
   refine⟨_,zY.of (by
    show(gQ (.h4 _ _ _)).val=_;simp only[gQ,Q8,zG,zE,zm];rfl),rfl⟩
  | cons a h=>
   refine⟨_,zY.of (by
    show(gQ (.h4b _ _ _ _)).val=_;simp only[gQ,Q8,zG,zE,zm];rfl),rfl⟩
 obtain⟨r,z,A⟩:=g;exact zA q (m.ends z) ow A
def FH(a b:zp):Bool:=a.1==b.1&&(a.2.1==b.2.1&&(a.2.2==b.2.2&&Q3))
theorem kP{v b:zp}:FH v b=Q3↔v=b:=by obtain⟨a,h,x⟩:=v;obtain⟨c,d,e⟩:=b;unfold FH;simp
def Ak(a:Int)(v:zp)(h:zt):Bool:=bif FH (getD h a.toNat (zi zf)) v then v.1!=0 else Q4
theorem gn{v:zp}{g:zt}:Ak e v g=Q3↔getD g e.toNat (zi zf)=v/\v.1≠0:=by unfold Ak;rw[<-kP];cases FH (getD g e.toNat (zi zf)) v<;>simp
theorem Md(u:zp):∀l:zt,(tR u l).length<=Io l+1
 |[]=>by simp[tR]
 | o::r=>by
  unfold tR;split
  .have:=Md u r;simp only[eJ];omega
  .split<;>simp
theorem L2:∀(l a:zt),(l.foldl (λa u=>if((u:zp).1==0)=Q3 then a else tR u a) a).length<=Io a+Io l
 |[],a=>by simp
 | u::r,a=>by
  rw[List.foldl_cons];refine aT (L2 r _) ?_;split
  .simp
  .have:=Md u a;simp only[eJ];omega
theorem VA(l:zt):(pV l).length<=Io l:=by have:=L2 l [];simpa[pV]using this
end
end Cad
