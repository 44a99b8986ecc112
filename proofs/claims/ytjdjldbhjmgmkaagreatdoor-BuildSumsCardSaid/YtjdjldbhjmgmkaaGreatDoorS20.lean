/- The document's sameness of statements. -/
import Derived.Test.YtjdjldbhjmgmkaaGreatDoorS19
namespace Cad
open Go Go.Proofs
open List renaming length→Io,drop→Qh,take→Qg
open IntKind renaming wrap→Γ,i64→Δ
open Tr renaming val→Q8
open Sh renaming bool→Q7,str→Q6,expr→Q5
open Bool renaming false→Q4,true→Q3
open Option renaming some→Q1
open Decidable renaming decide→Q0
open Int (toNat)
open List (getD)
open Tr (chk br re)
open AV (nils agg tup ptr kb str sl)
set_option maxHeartbeats 4000000
variable {x:Bool}
theorem Y2{y:Bool}(h:(cond x Q3 y)=Q4):x=Q4/\y=Q4:=by
 cases x
 .exact⟨rfl,h⟩
 .cases h
variable {α:Type}
theorem Yz[BEq α][LawfulBEq α]{a b:α}(h:(!a==b)=Q4):a=b:=by
 cases x:(a==b)
 .rw[x]at h;cases h
 .simpa using x
theorem Ul{a b:List α}(h:((↑(Io a):Int)!=(↑(Io b):Int))=Q4):Io a=Io b:=by simp[bne]at h;omega
structure BN (a:zN):Prop where
 names:Io a.2.2.2.1<=1000
 cols:Io a.t.1<=1000
 uniques:Io a.t.q.1<=1000
 refs:Io a.t.q.2.1<=1000
 row:Io a.t.t.2.1<=1000
 sets:Io a.t.t.q.1<=1000
 chk:pZ 16 a.t.t.1=Q3
 whr:pZ 16 a.t.t.q.2.1=Q3
 ex:∀x∈a.t.t.q.1,pZ 16 (x:Sem jY).2=Q3
variable {s b:zN}
theorem PL(h:BN s):∃r,r8 s b=Q1 (r,())/\(r=Q3↔s=b):=by
 obtain⟨W,X,Y,O,E,Z,P,H,a9,j,e,w,y⟩:=s;obtain⟨b1,b2,b3,b4,I,b6,b7,S,b9,o,g,z,C⟩:=b;obtain⟨h4,h5,h7,h8,h0,x0,h9,x4,hx⟩:=h;have h4:Io O<=1000:=h4;have h5:Io E<=1000:=h5;have h7:Io P<=1000:=h7;have h8:Io H<=1000:=h8;have h0:Io j<=1000:=h0;have x0:Io e<=1000:=x0;have hx:∀x∈e,pZ 16 (x:Sem jY).2=Q3:=hx;obtain⟨s1,s2⟩:=rT (b:=b9) (show pZ 16 a9=Q3 from h9);obtain⟨u1,u2⟩:=rT (b:=z) (show pZ 16 w=Q3 from x4);generalize l:((W,X,Y,O,E,Z,P,H,a9,j,e,w,y):zN)=A;generalize m:((b1,b2,b3,b4,I,b6,b7,S,b9,o,g,z,C):zN)=B;have x5:∀r:au,∀{k a},(zde A B).val=Q1 (.inl a)->A≠B->zY uh k a HF->k<=100000000->∃r,r8 A B=Q1 (r,())/\(r=Q3↔A=B):=by
  intro _ k a h1 h h2 h3;exact⟨Q4,zA h1 h2 h3 rfl,by simp[h]⟩
 have hv:∀c d:Bool,(cond (!W==b1) Q3 (cond (!X==b2) Q3 (cond (!Y==b3) Q3 (cond (!Z==b6) Q3 (cond (!y==C) Q3 (cond (!fB a9 b9) Q3 (!fB w z)))))))=c->
   (cond ((↑(Io O):Int)!=(↑(Io b4):Int)) Q3 (cond ((↑(Io E):Int)!=(↑(Io I):Int)) Q3 (cond ((↑(Io P):Int)!=(↑(Io b7):Int)) Q3 (cond ((↑(Io H):Int)!=(↑(Io S):Int)) Q3 (cond ((↑(Io j):Int)!=(↑(Io o):Int)) Q3 ((↑(Io e):Int)!=(↑(Io g):Int)))))))=d->
   (zde A B).val=if c=Q3 then Q1 (.inr HF)else if d=Q3 then Q1 (.inr HF)else Q1 (.inl (.h6 0 (A,()) (B,()))):=by
  rintro c d rfl rfl;subst l;subst m;have hg:∀x:Bool,(cond (!W==b1) Q3 (cond (!X==b2) Q3 (cond (!Y==b3) Q3 (cond (!Z==b6) Q3 (cond (!y==C) Q3 (hA a9 b9&&bif x then Q3 else hA w z))))))=Q3:=by
   intro x;rw[s1,u1];cases(!W==b1)<;>cases(!X==b2)<;>cases(!Y==b3)<;>cases(!Z==b6)<;>cases(!y==C)<;>cases x<;>rfl
  simp only[zde,Q8,zn];rw[ze (hg _)]
 cases n:(cond (!W==b1) Q3 (cond (!X==b2) Q3 (cond (!Y==b3) Q3 (cond (!Z==b6) Q3 (cond (!y==C) Q3 (cond (!fB a9 b9) Q3 (!fB w z)))))));rotate_left
 .refine⟨Q4,zP (r:=HF) (by rw[hv Q3 _ n rfl];rfl) rfl,?_⟩;constructor
  .intro h;cases h
  .intro h;rw[<-l,<-m]at h;simp only[cd]at h;obtain⟨rfl,rfl,rfl,rfl,rfl,rfl,rfl,rfl,rfl,rfl,rfl,rfl,rfl⟩:=h;have k1:=s2.2 rfl;have k2:=u2.2 rfl;rw[k1,k2]at n;simp at n
 cases v:(cond ((↑(Io O):Int)!=(↑(Io b4):Int)) Q3 (cond ((↑(Io E):Int)!=(↑(Io I):Int)) Q3 (cond ((↑(Io P):Int)!=(↑(Io b7):Int)) Q3 (cond ((↑(Io H):Int)!=(↑(Io S):Int)) Q3 (cond ((↑(Io j):Int)!=(↑(Io o):Int)) Q3 ((↑(Io e):Int)!=(↑(Io g):Int)))))));rotate_left
 .refine⟨Q4,zP (r:=HF) (by rw[hv Q4 Q3 n v];rfl) rfl,?_⟩;constructor
  .intro h;cases h
  .intro h;rw[<-l,<-m]at h;simp only[cd]at h;obtain⟨rfl,rfl,rfl,rfl,rfl,rfl,rfl,rfl,rfl,rfl,rfl,rfl,rfl⟩:=h;simp at v
 have hi:=hv Q4 Q4 n v;rw[zg sw,zg sw]at hi;obtain⟨m1,n⟩:=Y2 n;obtain⟨m2,n⟩:=Y2 n;obtain⟨m3,n⟩:=Y2 n;obtain⟨m6,n⟩:=Y2 n;obtain⟨x8,n⟩:=Y2 n;obtain⟨m9,x7⟩:=Y2 n;obtain⟨n4,v⟩:=Y2 v;obtain⟨n5,v⟩:=Y2 v;obtain⟨n7,v⟩:=Y2 v;obtain⟨n8,v⟩:=Y2 v;obtain⟨x9,a0⟩:=Y2 v;have e1:=Yz m1;have e2:=Yz m2;have e3:=Yz m3;have e6:=Yz m6;have x3:=Yz x8;have e9:=s2.1 (by simpa using m9);have x2:=u2.1 (by simpa using x7);subst e1;subst e2;subst e3;subst e6;subst x3;subst e9;subst x2;have U:∀{k},A≠B->zY uh k (.h6 0 (A,()) (B,())) HF->k<=100000000->∃r,r8 A B=Q1 (r,())/\(r=Q3↔A=B):=λh1 h2 h3=>x5 HF hi h1 h2 h3
 rcases mn (t:=uh) (la:=O) (lb:=b4) (λi=>.h6 i (A,()) (B,())) (.inl (.h11 0 (A,()) (B,()))) (λi=>getD O (i:Int).toNat (zi Q6)==getD b4 (i:Int).toNat (zi Q6)) (λ_ _=>by subst l;subst m;rfl) (λi _ p u=>by rw[bd,zX _ _ p,zX _ _ u]) (Ul n4) ow with⟨q4,G⟩|⟨q4,G⟩;rotate_left
 .exact U (λh=>q4 (by rw[<-l,<-m]at h;simp only[cd]at h;exact h.2.2.2.1)) G ow
 rcases mn (t:=uh) (la:=E) (lb:=I) (λi=>.h11 i (A,()) (B,())) (.inl (.h16 0 (A,()) (B,()))) (λi=>((getD E (i:Int).toNat (zi zl)).1==(getD I (i:Int).toNat (zi zl)).1&&((getD E (i:Int).toNat (zi zl)).2.1==(getD I (i:Int).toNat (zi zl)).2.1&&((getD E (i:Int).toNat (zi zl)).2.2==(getD I (i:Int).toNat (zi zl)).2.2&&Q3)))) (λ_ _=>by subst l;subst m;rfl) (λi _ p u=>by rw[VY,zX _ _ p,zX _ _ u]) (Ul n5) ow with⟨q5,L⟩|⟨q5,L⟩;rotate_left
 .exact U (λh=>q5 (by rw[<-l,<-m]at h;simp only[cd]at h;exact h.t.1)) (G _ _ L) ow
 rcases mn (t:=uh) (la:=P) (lb:=b7) (λi=>.h16 i (A,()) (B,())) (.inl (.h21 0 (A,()) (B,()))) (λi=>getD P (i:Int).toNat (zi Q6)==getD b7 (i:Int).toNat (zi Q6)) (λ_ _=>by subst l;subst m;rfl) (λi _ p u=>by rw[bd,zX _ _ p,zX _ _ u]) (Ul n7) ow with⟨q7,T⟩|⟨q7,T⟩;rotate_left
 .exact U (λh=>q7 (by rw[<-l,<-m]at h;simp only[cd]at h;exact h.t.q.1)) (G _ _ (L _ _ T)) ow
 rcases mn (t:=uh) (la:=H) (lb:=S) (λi=>.h21 i (A,()) (B,())) (.inl (.h26 0 (A,()) (B,()))) (λi=>((getD H (i:Int).toNat (zi kC)).1==(getD S (i:Int).toNat (zi kC)).1&&((getD H (i:Int).toNat (zi kC)).2==(getD S (i:Int).toNat (zi kC)).2&&Q3))) (λ_ _=>by subst l;subst m;rfl) (λi _ p u=>by rw[ztr,zX _ _ p,zX _ _ u]) (Ul n8) ow with⟨q8,k8⟩|⟨q8,k8⟩;rotate_left
 .exact U (λh=>q8 (by rw[<-l,<-m]at h;simp only[cd]at h;exact h.t.q.2.1)) (G _ _ (L _ _ (T _ _ k8))) ow
 rcases mn (t:=uh) (la:=j) (lb:=o) (λi=>.h26 i (A,()) (B,())) (.inl (.h31 0 (A,()) (B,()))) (λi=>((getD j (i:Int).toNat (zi zf)).1==(getD o (i:Int).toNat (zi zf)).1&&((getD j (i:Int).toNat (zi zf)).2.1==(getD o (i:Int).toNat (zi zf)).2.1&&((getD j (i:Int).toNat (zi zf)).2.2==(getD o (i:Int).toNat (zi zf)).2.2&&Q3)))) (λ_ _=>by subst l;subst m;rfl) (λi _ p u=>by rw[zmp,zX _ _ p,zX _ _ u]) (Ul x9) ow with⟨M,D⟩|⟨M,D⟩;rotate_left
 .exact U (λh=>M (by rw[<-l,<-m]at h;simp only[cd]at h;exact h.t.t.2.1)) (G _ _ (L _ _ (T _ _ (k8 _ _ D)))) ow
 have x6:=Ul a0
 rcases OM (t:=uh) (la:=e) (lb:=g) (λi=>.h31 (i:Int) (A,()) (B,())) x6 (λi p u=>by
  obtain⟨w1,w2⟩:=rT (a:=e[i].2) (b:=g[i].2) (hx _ (bp p));have F:(uh (.h31 (i:Int) (A,()) (B,()))).val=if(cond (!e[i].1==g[i].1) Q3 (!fB e[i].2 g[i].2))=Q3 then Q1 (.inr HF)else Q1 (.inl (.h31 ((i+1:Nat):Int) (A,()) (B,()))):=by
   subst l;subst m;show(uh (.h31 _ _ _)).val=_;simp only[uh,Q8,zn,zX _ _ p,zX _ _ u,zI p,zx p,zx u,w1,zh,ee];rw[zu i um];cases(!e[i].1==g[i].1)<;>rfl
  refine⟨λh=>?_,λh=>?_⟩
  .have k:=w2.2 (by rw[h]);rw[F,zg (by rw[k,h];simp)]
  .rw[F,ze];cases hh:(e[i].1==g[i].1)
   .rfl
   .cases hw:fB e[i].2 g[i].2
    .rfl
    .exact zC (Prod.ext (by simpa using hh) (w2.1 hw)) h)with⟨N,J⟩|⟨N,J⟩
 rotate_left
 .exact U (λh=>N (by rw[<-l,<-m]at h;simp only[cd]at h;exact h.t.t.q.1)) (G _ _ (L _ _ (T _ _ (k8 _ _ (D _ _ J))))) ow
 have x1:(uh (.h31 (Io e:Int) (A,()) (B,()))).val=Q1 (.inr (.kb Q3,[])):=by
  subst l;subst m;show(uh (.h31 _ _ _)).val=_;simp only[uh,Q8,zG];rfl
 refine⟨Q3,zA hi (G _ _ (L _ _ (T _ _ (k8 _ _ (D _ _ (J.ends (zY.of x1))))))) ow rfl,?_⟩;subst q4;subst q5;subst q7;subst q8;subst M;subst N;rw[<-l,<-m];simp
theorem r9{a:zN}(h:BN a):Bv a b=Q3/\(fC a b=Q3↔a=b):=by
 obtain⟨r,x,c⟩:=PL (b:=b) h;refine⟨by unfold Bv;rw[x];rfl,?_⟩;have:fC a b=r:=by unfold fC;rw[x];rfl
 rw[this];exact c
variable {e:za}
theorem kS:im e=Q3↔e=.mk [] (0,0,[]) [] []:=by
 obtain⟨o,⟨k,i,t⟩,s,l⟩:=e;unfold im;show(cond (o==[]) (cond (k==0&&(i==0&&(t==[]&&Q3))) (cond (s==[]) ((↑l.length:Int)==0) Q4) Q4) Q4)=Q3↔_;simp only[za.mk.injEq,cd];constructor
 .intro h;obtain⟨x,h⟩:=cK h;obtain⟨a,h⟩:=cK h;obtain⟨b,h⟩:=cK h;simp at x a b h;exact⟨x,a,b,h⟩
 .rintro⟨rfl,⟨rfl,rfl,rfl⟩,rfl,rfl⟩;rfl
theorem Wi(h:dD e=Q3):(e.op==[])=Q4:=by
 have f:=fX (lu h);clear h;cases f with
 |lit v j=>rfl
 |col s i g=>rfl
 |one o a x c=>rcases x with rfl|rfl<;>rfl
 |two o a b x c d=>rcases x with rfl|rfl|rfl|rfl|rfl|rfl<;>rfl
theorem Wj(h:dD e=Q3):nE 12 e<=60:=by
 rw[wV]at h;by_cases k:nE 12 e<=60
 .exact k
 .exfalso;rw[z7 k]at h;cases cH 12 e<;>simp at h
theorem MU(a:ut e)(h:dD e=Q3):rU e=Q3/\qB e=aZ 16 e/\(aZ 16 e).length<=24000:=by obtain⟨x,b⟩:=rV 16 12 16 e ow ow ow (lu h) a;have x:Ji e=Q1 (aZ 16 e,()):=x;have c:=Wj h;refine⟨by unfold rU;rw[x];rfl,by unfold qB;rw[x];rfl,ow⟩
def mI(w:zH)(e:za):zH:=if(e.op==[])=Q3 then[]else if dD e=Q3 then(ite ((w==md)=Q3) (zce++aZ 16 e) (w++zcb++aZ 16 e++iE))else[]
variable {w:zH}
theorem UE(d:ut e)(j:pZ 16 e=Q3)(n:Io w<=1000):Bw e w=Q1 (mI w e,ci e,())/\(mI w e).length<=30000:=by
 unfold mI;by_cases a:(e.op==[])=Q3
 .rw[ze a];obtain⟨s,m⟩:=rT (b:=.mk [] (0,0,[]) [] []) j;have c:dD e=Q4:=by
   cases h:dD e
   .rfl
   .rw[Wi h]at a;cases a
  have k:fB e (.mk [] (0,0,[]) [] [])=ci e:=by
   unfold ci;rw[c];apply gU.2;rw[m,<-kS];cases im e<;>simp
  refine⟨zP (r:=(.tup [.str [],.bool (ci e)],[])) ?_ rfl,sw⟩;simp only[Ma,Q8,zn,a,s,k,zh]
 .rw[zg a];have l:im e=Q4:=by
   cases h:im e
   .rfl
   .rw[kS.1 h]at a;exact zC rfl a
  have g:ci e=dD e:=by unfold ci;rw[l];rfl
  have a:(e.op==[])=Q4:=by simpa using a
  rw[g];by_cases c:dD e=Q3
  .obtain⟨t,i,o⟩:=MU d c;rw[ze c,c];by_cases x:(w==md)=Q3
   .rw[ze x];refine⟨zP (r:=(.tup [.str (zce++aZ 16 e),.kb Q3],[])) ?_ rfl,sg⟩;simp only[Ma,Q8,zn,a,nK d,rS d,c,x,t,i,zh];rw[zg sw,zg sw,ze (zy sg)]
   .rw[zg x];have x:(w==md)=Q4:=by simpa using x
    refine⟨zP (r:=(.tup [.str (w++zcb++aZ 16 e++iE),.kb Q3],[])) ?_ rfl,sg⟩;simp only[Ma,Q8,zn,a,nK d,rS d,c,x,t,i,zh];rw[zg sw,zg sw,zg sw,ze (zy sg),ze (zy sg),ze (zy sg)]
  .rw[zg c];have c:dD e=Q4:=by simpa using c
   rw[c];refine⟨zP (r:=(.tup [.str [],.kb Q4],[])) ?_ rfl,sw⟩;simp only[Ma,Q8,zn,a,nK d,rS d,c,zh];rfl
theorem Em(c:ut e)(a:pZ 16 e=Q3)(b:Io w<=1000):pb e w=Q3/\ud e w=(mI w e,ci e)/\(mI w e).length<=30000:=by obtain⟨h,x⟩:=UE c a b;exact⟨by unfold pb;rw[h];rfl,by unfold ud;rw[h];rfl,x⟩
theorem Cj(h:ci e=Q3):lr [32] e=mI [] e:=by
 unfold lr mI;unfold ci at h;cases a:im e
 .rw[a]at h;have x:dD e=Q3:=h;rw[zg sw,zg (by rw[Wi x];simp),ze x];unfold iX oE;rw[x];rfl
 .rw[ze rfl];rw[kS.1 a];rfl
theorem Ha(s x:zH):∀l:List zH,Lib.join (l++[x]) s=if l=[]then x else Lib.join l s++s++x
 |[]=>by rw[ze rfl];exact Lib.join_one x s
 |[a]=>by simp[Lib.join,List.intercalate,List.intersperse]
 | a::b::r=>by
  have i:=Ha s x (b::r);rw[zg sw]at i|-;have e:∀(c:zH)(q:List zH),Lib.join (a::c::q) s=a++s++Lib.join (c::q) s:=λc q=>by simp[Lib.join,List.intercalate,List.intersperse]
  show Lib.join (a::b::(r++[x])) s=_;rw[e,e];rw[show b::(r++[x])=(b::r)++[x]from rfl,i];simp
variable {l:List zH}
theorem PO(y:Io l<=100)(q:∀x∈l,Io x<=1000):∃t,vY l=Q1 (t,(Q0 (∀x∈l,zU x=Q3)&&(Q0 (1<=Io l)&&Q0 (Io l<=8))),())/\Io t<=200000/\((∀x∈l,zU x=Q3)->t=Lib.join l fi):=by
 have k:∀i,i<=Io l->(Lib.join (l.take i) fi).length<=110000:=by
  intro i a;have:=vo fi 1000 (l.take i) (λx n=>q x (List.mem_of_mem_take n));have d:(l.take i).length<=100:=by simp;omega
  have w:=gE (1000+(fi:zH).length) d;simp at this w|-;omega
 have b:∀i(a:i<Io l),(EU (.h3 l (Lib.join (l.take i) fi) (i:Int))).val=if zU l[i]=Q3 then Q1 (.inl (.h3 l (Lib.join (l.take (i+1)) fi) ((i+1:Nat):Int)))else Q1 (.inr (.tup [.str [],.kb Q4],[])):=by
  intro i a;have n:=q _ (bp a);have g:=k i ow;show(EU (.h3 _ _ _)).val=_;simp only[EU,Q8,zX _ _ a,zI a,zx a,ct (s:=l[i]) ow,fq (s:=l[i]) ow,zh];rw[zu i um,zhf a,Ha];by_cases c:zU l[i]=Q3
  .rw[zg (by rw[c];simp),ze c];by_cases p:i=0
   .subst p;rw[zg sw,ze (zy (by simp[Lib.join_nil];omega)),ze sw];rfl
   .rw[ze (zy ow),ze (zy sg),ze (zy sg),zg (by
     intro h;have:=congrArg Io h;simp at this;rcases this with h|h
     .exact p h
     .rw[h]at a;simp at a)]
  .rw[ze (by simpa using c),zg c]
 rcases mF (t:=EU) (Φ:=λr=>r=(.tup [.str [],.kb Q4],[])) 1 (λi=>.h3 l (Lib.join (l.take i) fi) (i:Int)) (λi=>∀h:i<Io l,zU l[i]=Q3) (Io l) (λi a _=>by
  by_cases c:zU l[i]=Q3
  .exact .inl ⟨λ_=>c,zJ.of (by rw[b i a,ze c])⟩
  .exact .inr ⟨λh=>c (h a),_,zY.of (by rw[b i a,zg c]),rfl⟩)with⟨o,d⟩|⟨o,r,d,rfl⟩
 .have e:∀x∈l,zU x=Q3:=by
   intro x n;obtain⟨j,g,rfl⟩:=fP n;exact o j g g
  rw[fQ]at d;have g:=k (Io l) (ah _);rw[fQ]at g;refine⟨Lib.join l fi,zA (s:=.h3 l [] 0) rfl (d.ends (zY.of (r:=(.tup [.str (Lib.join l fi),.bool (cond (Q0 (1<=(↑l.length:Int))) (Q0 ((↑l.length:Int)<=8)) Q4)],[])) ?_)) ow ?_,ow,λ_=>rfl⟩
  .show(EU (.h3 _ _ _)).val=_;simp only[EU,Q8,zG];cases Q0 (1<=(↑l.length:Int))<;>rfl
  .rw[zy e];have u:Q0 (1<=(↑l.length:Int))=Q0 (1<=Io l):=by
    by_cases h:1<=Io l
    .rw[zy h];exact zy ow
    .rw[z7 h];exact z7 ow
   have v:Q0 ((↑l.length:Int)<=8)=Q0 (Io l<=8):=by
    by_cases h:Io l<=8
    .rw[zy h];exact zy ow
    .rw[z7 h];exact z7 ow
   rw[u,v];cases Q0 (1<=Io l)<;>cases Q0 (Io l<=8)<;>rfl
 .have m:¬∀x∈l,zU x=Q3:=λh=>o λi _ a=>h _ (bp a)
  refine⟨[],zA (s:=.h3 l [] 0) rfl d ow ?_,sw,λh=>zC h m⟩;rw[z7 m];rfl
structure wN (s:zN):Prop where
 sh:mH s
 chk:ut s.t.t.1
 whr:ut s.t.t.q.2.1
 cchk:pZ 16 s.t.t.1=Q3
 cwhr:pZ 16 s.t.t.q.2.1=Q3
 row:∀v∈s.t.t.2.1,mb v
 sets:∀x∈s.t.t.q.1,ut (x:Sem jY).2/\pZ 16 (x:Sem jY).2=Q3
def zjn(B:Nat)(r:au):Prop:=∃(t:zH)(b:Bool),aU r.2 [Q6,Q7] r.1=Q1 (t,b,())/\Io t<=B
theorem zub(h:wN s)(e:Bool)(d:zH)(o:Io d<=60000)(n:Nat)(m:30<=n):∃r,eh fL n (.h20 e d 0 (s,()))=Q1 r/\zjn 200000 r:=by
 have z:=h.sh.refs.1;refine eP (t:=fL) (β:=Bool×zH) (Io s.t.q.2.1) (λb i=>.h20 b.1 b.2 (i:Int) (s,())) (λb i=>Io b.2<=60000+2100*i) _ 1 ?_ ?_ (Io s.t.q.2.1) 0 (e,d) n rfl (aM _) (by simpa using o) ow
 .rintro⟨b,x⟩ i c a;have a:Io x<=60000+2100*i:=a;obtain⟨u,v⟩:=h.sh.refs.2 _ (bp c);have g:getD s.t.q.2.1 (i:Int).toNat (zi kC)=s.t.q.2.1[i]:=zX _ _ c;generalize s.t.q.2.1[i]=f at g u v;refine .inl ⟨(cond b (cond (bM f.1) (bM f.2) Q4) Q4,x++(zjF++f.1++zjE++f.2)),sg,?_⟩;show(fL (.h20 _ _ _ _)).val=_;simp only[fL,Q8,g,zI c,zx c,ct (s:=f.1) ow,ct (s:=f.2) ow,zh];rw[zu i um,ze (by cases b<;>cases bM f.1<;>rfl),ze (zy sg),ze (zy sg),ze (zy sg),ze (zy sg)]
 .rintro⟨b,x⟩ n a m;have a:Io x<=60000+2100*Io s.t.q.2.1:=a;obtain⟨n,rfl⟩:∃k,n=k+1:=⟨n-1,ow⟩;obtain⟨j,l,y⟩:=Em h.chk h.cchk (w:=[32,44]) sw;have p:(fL (.h20 b x (Io s.t.q.2.1:Int) (s,()))).val=Q1 (.inr (.tup [.str (x++mI [32,44] s.t.t.1++iE),.bool (cond b (ci s.t.t.1) Q4)],[])):=by
   show(fL (.h20 _ _ _ _)).val=_;simp only[fL,Q8,zn,zG,j,l,zh]
   rw[zg sw,ze (by
    have:Io x+(mI [32,44] s.t.t.1).length<=200000:=by omega
    simp;omega)]
   cases b<;>rfl
  rw[dR,p];exact⟨_,rfl,_,_,rfl,sg⟩
theorem zua(h:wN s)(e:Bool)(d:zH)(l:Io d<=30000)(n:Nat)(j:60<=n):∃r,eh fL n (.h15 e d 0 (s,()))=Q1 r/\zjn 200000 r:=by
 have p:=h.sh.uniques.1;refine eP (t:=fL) (β:=Bool×zH) (Io s.t.q.1) (λb i=>.h15 b.1 b.2 (i:Int) (s,())) (λb i=>Io b.2<=30000+1100*i) _ 31 ?_ ?_ (Io s.t.q.1) 0 (e,d) n rfl (aM _) (by simpa using l) ow
 .rintro⟨b,x⟩ i c a;have a:Io x<=30000+1100*i:=a;have o:=h.sh.uniques.2 _ (bp c);have g:getD s.t.q.1 (i:Int).toNat (zi Q6)=s.t.q.1[i]:=zX _ _ c;generalize s.t.q.1[i]=f at g o;refine .inl ⟨(cond b (bM f) Q4,x++(zjG++f++iE)),sg,?_⟩;show(fL (.h15 _ _ _ _)).val=_;simp only[fL,Q8,g,zI c,zx c,ct (s:=f) ow,zh];rw[zu i um,ze (by cases b<;>rfl),ze (zy sg),ze (zy sg),ze (zy sg)]
 .rintro⟨b,x⟩ n a j;have a:Io x<=30000+1100*Io s.t.q.1:=a;obtain⟨n,rfl⟩:∃k,n=k+1:=⟨n-1,ow⟩;have m:(fL (.h15 b x (Io s.t.q.1:Int) (s,()))).val=Q1 (.inl (.h20 b x 0 (s,()))):=by
   show(fL (.h15 _ _ _ _)).val=_;simp only[fL,Q8,zG];rfl
  rw[dR,m];exact zub h b x ow n ow
theorem cr4(h:wN s)(d:Bool)(u:zH)(w:Io u<=2000)(n:Nat)(j:100<=n):∃r,eh fL n (.h4 d u 0 (s,()))=Q1 r/\zjn 200000 r:=by
 have E:=h.sh.cols.1;have D:=h.sh.key;refine eP (t:=fL) (β:=zH) (Io s.t.1) (λb i=>.h4 d b (i:Int) (s,())) (λb i=>Io b<=2000+1100*i) _ 61 ?_ ?_ (Io s.t.1) 0 u n rfl (aM _) (by simpa using w) ow
 .intro x i o v;have A:=h.sh.cols.2 _ (bp o);have g:getD s.t.1 (i:Int).toNat (zi zl)=s.t.1[i]:=zX _ _ o;generalize s.t.1[i]=f at g A
  have c:((fL (.h4 d x (i:Int) (s,()))).val=if(bif !bM f.1 then Q3 else bif Q0 (LT.lt (α:=Int) f.2.1 1)then Q3 else Q0 (GT.gt (α:=Int) f.2.1 3))=Q3 then Q1 (.inr (.tup [.str [],.kb Q4],[]))else
    Q1 (.inl (.h4 d ((ite (f.2.2=Q3) (x++(f.1++[32]++[[],Ce,Cf,Cd].getD (toNat f.2.1) (zi Q6))++zjI) (x++(f.1++[32]++[[],Ce,Cf,Cd].getD (toNat f.2.1) (zi Q6))))++fi) ((i+1:Nat):Int) (s,()))))/\
    (¬(bif !bM f.1 then Q3 else bif Q0 (LT.lt (α:=Int) f.2.1 1)then Q3 else Q0 (GT.gt (α:=Int) f.2.1 3))=Q3->([[],Ce,Cf,Cd].getD (toNat f.2.1) (zi Q6)).length<=4):=by
   have l:¬(bif !bM f.1 then Q3 else bif Q0 (LT.lt (α:=Int) f.2.1 1)then Q3 else Q0 (GT.gt (α:=Int) f.2.1 3))=Q3->zK f.2.1 4=Q3/\([[],Ce,Cf,Cd].getD (toNat f.2.1) (zi Q6)).length<=4:=by
    intro a;have m:¬LT.lt (α:=Int) f.2.1 1:=by
     intro m;rw[zy m]at a;cases p:(!bM f.1)<;>rw[p]at a<;>exact a rfl
    have C:¬GT.gt (α:=Int) f.2.1 3:=by
     intro m;rw[zy m]at a;cases p:(!bM f.1)<;>rw[p]at a<;>cases e:Q0 (LT.lt (α:=Int) f.2.1 1)<;>rw[e]at a<;>exact a rfl
    have e:@Eq Int f.2.1 1\/@Eq Int f.2.1 2\/@Eq Int f.2.1 3:=by omega
    rcases e with e|e|e<;>rw[e]<;>exact⟨rfl,by decide⟩
   refine⟨?_,λa=>(l a).2⟩;show(fL (.h4 _ _ _ _)).val=_;simp only[fL,Q8,g,zI o,zx o,ct (s:=f.1) ow,zh];by_cases a:(bif !bM f.1 then Q3 else bif Q0 (LT.lt (α:=Int) f.2.1 1)then Q3 else Q0 (GT.gt (α:=Int) f.2.1 3))=Q3
   .rw[ze a,ze a]
   .obtain⟨y,z⟩:=l a;rw[zg a,zg a,ze (zy sg)];refine(ze y).trans ?_;generalize[[],Ce,Cf,Cd].getD (toNat f.2.1) (zi Q6)=B at z;rw[ze (zy sg),ze (zy sg),zu i um];by_cases j:f.2.2=Q3
    .rw[ze j,ze j,ze (zy sg),ze (zy sg)]
    .rw[zg j,zg j,ze (zy sg)]
  obtain⟨c,q⟩:=c;by_cases a:(bif !bM f.1 then Q3 else bif Q0 (LT.lt (α:=Int) f.2.1 1)then Q3 else Q0 (GT.gt (α:=Int) f.2.1 3))=Q3
  .rw[ze a]at c;exact .inr ⟨_,c,[],Q4,rfl,sw⟩
  .rw[zg a]at c;have:=q a;generalize[[],Ce,Cf,Cd].getD (toNat f.2.1) (zi Q6)=B at c this;refine .inl ⟨_,?_,c⟩;split<;>simp<;>omega
 .intro x n v j;obtain⟨n,rfl⟩:∃k,n=k+1:=⟨n-1,ow⟩;have c:(fL (.h4 d x (Io s.t.1:Int) (s,()))).val=Q1 (.inl (.h15 d (x++(zjL++s.t.2.1++iE)) 0 (s,()))):=by
   show(fL (.h4 _ _ _ _)).val=_;simp only[fL,Q8,zG];rw[zg sw,ze (zy sg),ze (zy sg),ze (zy sg)]
  rw[dR,c];exact zua h d _ sg n ow
theorem MY(h:wN s):∃(x:zH)(b:Bool),nL s=Q1 (x,b,())/\Io x<=200000:=by
 have j:=h.sh.table;have i:=h.sh.key;have c:∃a,(Xo s).val=Q1 (.inl (.h4 a (zcf++s.2.1++AH) 0 (s,()))):=by
  refine⟨(cond (bM s.t.2.1) (cond (Q0 (1<=(↑(Io s.t.1):Int))) (cond (Q0 ((↑(Io s.t.1):Int)<=8)) (cond (Q0 ((↑(Io s.t.q.1):Int)<=8)) (Q0 ((↑(Io s.t.q.2.1):Int)<=8)) Q4) Q4) Q4) Q4),?_⟩;simp only[Xo,Q8,ct (s:=s.t.2.1) ow,zh];rw[ze (zy sg),ze (zy sg)]
 obtain⟨a,c⟩:=c;obtain⟨r,d,x,b,e,g⟩:=cr4 h a (zcf++s.2.1++AH) sg 100000000 ow;refine⟨x,b,?_,g⟩;unfold nL an bY;rw[c];show(eh fL 100000000 _).bind _=_;rw[d];exact e
theorem PH(h:wN s):rX s=Q3/\(qC s).1.length<=200000:=by obtain⟨t,b,x,a⟩:=MY h;exact⟨by unfold rX;rw[x];rfl,by unfold qC;rw[x];exact a⟩
def zbS(o:Option (zD (List.map Q1 [Q6,aC,Q7]))):Prop:=∃(t:zH)(h:zN)(x:Bool),o=Q1 (t,h,x,())/\Io t<=900000/\BN h
theorem ztL{r:au}(d:(oH s).val=Q1 (.inr r))(c:aU r.2 [Q6,aC,Q7] r.1=Q1 (w,b,x,()))(a:Io w<=900000)(h:BN b):zbS (eR s):=
 ⟨w,b,x,zP d c,a,h⟩
abbrev ez:za:=.mk [] (0,0,[]) [] []
theorem YA:pZ 16 ez=Q3:=by decide+kernel
theorem fS{a:zN}(h:wN s)(g:a.2.2.2.1=s.2.2.2.1\/a.2.2.2.1=[])(i:a.t.1=s.t.1\/a.t.1=[])(j:a.t.q.1=s.t.q.1\/a.t.q.1=[])
  (l:a.t.q.2.1=s.t.q.2.1\/a.t.q.2.1=[]) (m:a.t.t.1=s.t.t.1\/a.t.t.1=ez) (c:a.t.t.2.1=s.t.t.2.1\/a.t.t.2.1=[])
  (b:a.t.t.q.1=s.t.t.q.1\/a.t.t.q.1=[]) (d:a.t.t.q.2.1=s.t.t.q.2.1\/a.t.t.q.2.1=ez):BN a where
 names:=by have:=h.sh.names.1;rcases g with h|h<;>rw[h]<;>first|omega|simp
 cols:=by have:=h.sh.cols.1;rcases i with h|h<;>rw[h]<;>first|omega|simp
 uniques:=by have:=h.sh.uniques.1;rcases j with h|h<;>rw[h]<;>first|omega|simp
 refs:=by have:=h.sh.refs.1;rcases l with h|h<;>rw[h]<;>first|omega|simp
 row:=by have:=h.sh.row;rcases c with h|h<;>rw[h]<;>first|omega|simp
 sets:=by have:=h.sh.sets.1;rcases b with h|h<;>rw[h]<;>first|omega|simp
 chk:=by rcases m with k|k<;>rw[k];exact h.cchk;exact YA
 whr:=by rcases d with k|k<;>rw[k];exact h.cwhr;exact YA
 ex:=by
  rcases b with k|k<;>rw[k]
  .exact λx e=>(h.sets x e).2
  .intro x e;cases e
def Ta(r:au):Prop:=∃(t:zH)(o:zN)(h:Bool),aU r.2 [Q6,aC,Q7] r.1=Q1 (t,o,h,())/\Io t<=900000/\BN o
theorem Do{r:au}(t:zH)(o:zN)(h:Bool)(x:aU r.2 [Q6,aC,Q7] r.1=Q1 (t,o,h,()))(a:Io t<=900000)(b:BN o):Ta r:=⟨t,o,h,x,a,b⟩
theorem zwt(h:wN s):∃r,eh mR 100000000 (.h15 [] 0 (s,()) ([],[],[],[],[],0,0,[],[],[],0,0,[],[],[],()) (s.1,s.2.1,[],[],[],0,0,[],[],s.t.t.2.1,[],0,0,[],[],[],()))=Q1 r/\Ta r:=by
 have u:=h.sh.row;have y:=h.sh.table;have a:BN (s.1,s.2.1,[],[],[],[],[],[],ez,s.t.t.2.1,[],ez,[]):=fS h (.inr rfl) (.inr rfl) (.inr rfl) (.inr rfl) (.inr rfl) (.inl rfl) (.inr rfl) (.inr rfl);refine eP (t:=mR) (β:=zH) (Io s.t.t.2.1) (λb i=>.h15 b (i:Int) (s,()) ([],[],[],[],[],0,0,[],[],[],0,0,[],[],[],()) (s.1,s.2.1,[],[],[],0,0,[],[],s.t.t.2.1,[],0,0,[],[],[],())) (λb i=>Io b<=400*i) _ 1 ?_ ?_ (Io s.t.t.2.1) 0 [] 100000000 rfl (aM _) sw ow
 .intro x i l o;have d:=h.row _ (bp l);have q:=yC s.t.t.2.1[i];have g:getD s.t.t.2.1 (i:Int).toNat (zi zf)=s.t.t.2.1[i]:=zX _ _ l;generalize s.t.t.2.1[i]=v at g d q
  have e:(mR (.h15 x (i:Int) (s,()) ([],[],[],[],[],0,0,[],[],[],0,0,[],[],[],()) (s.1,s.2.1,[],[],[],0,0,[],[],s.t.t.2.1,[],0,0,[],[],[],()))).val=if bf v=Q3 then Q1 (.inl (.h15 ((ite ((i:Int)>0) (x++fi) x)++iu v) ((i+1:Nat):Int) (s,()) ([],[],[],[],[],0,0,[],[],[],0,0,[],[],[],()) (s.1,s.2.1,[],[],[],0,0,[],[],s.t.t.2.1,[],0,0,[],[],[],())))else
    Q1 (.inr (.tup [.str [],.agg [.str s.1,.str s.2.1,.str [],.nils,.nils,.str [],.nils,.nils,.str [],.int .i64 0,.int .i64 0,.str [],.str [],.nils,.sl zf s.t.t.2.1,.nils,.str [],.int .i64 0,.int .i64 0,.str [],.str [],.nils,.str []],.kb Q4],[])):=by
   show(mR (.h15 _ _ _ _ _)).val=_;simp only[mR,Q8,g,zI l,zx l,lI d.2.2,oS d.2.2,Hu d,MS d,zh];rw[zu i um];by_cases m:bf v=Q3
   .rw[zg (by rw[m];simp),ze m];by_cases j:(i:Int)>0
    .rw[ze (zy j),ze j,ze (zy sg),ze (zy sg)]
    .rw[zg (by simpa using j),zg j,ze (zy ow)]
   .rw[ze (by simpa using m),zg m]
  by_cases m:bf v=Q3
  .rw[ze m]at e;refine .inl ⟨_,?_,e⟩;split<;>simp<;>omega
  .rw[zg m]at e;exact .inr ⟨_,e,Do [] _ Q4 rfl sw a⟩
 .intro x n o w;obtain⟨n,rfl⟩:∃k,n=k+1:=⟨n-1,ow⟩
  have e:∃b,(mR (.h15 x (Io s.t.t.2.1:Int) (s,()) ([],[],[],[],[],0,0,[],[],[],0,0,[],[],[],()) (s.1,s.2.1,[],[],[],0,0,[],[],s.t.t.2.1,[],0,0,[],[],[],()))).val=
    Q1 (.inr (.tup [.str (VQ++s.2.1++zcd++x++iE),.agg [.str s.1,.str s.2.1,.str [],.nils,.nils,.str [],.nils,.nils,.str [],.int .i64 0,.int .i64 0,.str [],.str [],.nils,.sl zf s.t.t.2.1,.nils,.str [],.int .i64 0,.int .i64 0,.str [],.str [],.nils,.str []],b],[]))/\(b=.kb Q4\/∃c,b=.bool c):=by
   show∃b,(mR (.h15 _ _ _ _ _)).val=_/\_;simp only[mR,Q8,zG];rw[zg sw,ze (zy sg),ze (zy sg),ze (zy sg),ze (zy sg)];split
   .exact⟨_,rfl,.inr ⟨_,rfl⟩⟩
   .exact⟨_,rfl,.inl rfl⟩
  obtain⟨b,e,p⟩:=e;rw[dR,e];rcases p with rfl|⟨c,rfl⟩
  .exact⟨_,rfl,Do _ _ Q4 rfl sg a⟩
  .exact⟨_,rfl,Do _ _ c rfl sg a⟩
theorem zwu(h:wN s)(a:zH)(d:Bool)(h8:Io a<=30000):∃r,eh mR 100000000 (.h27 a d [] 0 (s,()) ([],[],[],[],[],0,0,[],[],[],0,0,[],[],[],()) (s.1,s.2.1,[],[],[],0,0,[],[],s.t.t.q.1,s.t.t.q.2.1,[],()))=Q1 r/\Ta r:=by
 have hl:=h.sh.sets.1;have ht:=h.sh.table;have c:BN (s.1,s.2.1,[],[],[],[],[],[],ez,[],s.t.t.q.1,s.t.t.q.2.1,[]):=fS h (.inr rfl) (.inr rfl) (.inr rfl) (.inr rfl) (.inr rfl) (.inr rfl) (.inl rfl) (.inl rfl);generalize hZ:(([],[],[],[],[],0,0,[],[],[],0,0,[],[],[],()):zo kl)=Z;generalize I:((s.1,s.2.1,[],[],[],0,0,[],[],s.t.t.q.1,s.t.t.q.2.1,[],()):zo zjV)=V
 have p:∀(t:zH)(o:Bool)(b:AV),(b=.bool o\/(b=.kb Q4/\o=Q4))->aU [] [Q6,aC,Q7] (.tup [.str t,.agg [.str V.1,.str V.2.1,.str V.2.2.1,.nils,.nils,.str V.2.2.2.1,.nils,.nils,.str V.t.1,.int .i64 V.t.2.1,.int .i64 V.t.q.1,.str V.t.q.2.1,.str V.t.t.1,.nils,.nils,
   .sl (Sh.str.pr Q5) V.t.t.2.1,.str (za.op V.t.t.q.1),.int .i64 (za.v V.t.t.q.1).1,.int .i64 (za.v V.t.t.q.1).2.1,.str (za.v V.t.t.q.1).2.2,.str (za.s V.t.t.q.1),.sl Q5 (za.l V.t.t.q.1),.str V.t.t.q.2.1],b])=
   Q1 (t,(s.1,s.2.1,[],[],[],[],[],[],ez,[],s.t.t.q.1,s.t.t.q.2.1,[]),o,()):=by
  intro t o b A;subst I;obtain⟨s1,s2,s3,s4,s5,s6,s7,a,s9,N,O,⟨U,W,X,Y⟩,P⟩:=s;rcases A with rfl|⟨rfl,rfl⟩<;>rfl
 refine eP (t:=mR) (β:=zH) (Io s.t.t.q.1) (λb i=>.h27 a d b (i:Int) (s,()) Z V) (λb i=>Io b<=26000*i) _ 1 ?_ ?_ (Io s.t.t.q.1) 0 [] 100000000 rfl (aM _) sw ow
 .intro x i j H;obtain⟨y,B⟩:=h.sets _ (bp j);have C:=h.sh.sets.2 _ (bp j);have g:getD s.t.t.q.1 (i:Int).toNat (zi jY)=s.t.t.q.1[i]:=zX _ _ j;generalize s.t.t.q.1[i]=v at g y B C;have e:(¬(bM v.1=Q3/\dD v.2=Q3)/\∃r,(mR (.h27 a d x (i:Int) (s,()) Z V)).val=Q1 (.inr r)/\Ta r)\/∃u:zH,Io u<=Io x+26000/\(mR (.h27 a d x (i:Int) (s,()) Z V)).val=Q1 (.inl (.h27 a d u ((i+1:Nat):Int) (s,()) Z V)):=by
   show(_/\∃r,(mR (.h27 _ _ _ _ _ _ _)).val=_/\_)\/∃u:zH,_/\(mR (.h27 _ _ _ _ _ _ _)).val=_;simp only[mR,Q8,g,zn,zI j,zx j,ct (s:=v.1) ow,nK y,rS y,zh,ee];have L:(cond (!bM v.1) Q3 Q3)=Q3:=by cases bM v.1<;>rfl
   rw[L];by_cases m:bM v.1=Q3/\dD v.2=Q3
   .obtain⟨M,E⟩:=m;obtain⟨S,T,t3⟩:=MU y E;refine .inr ⟨(ite ((i:Int)>0) (x++fi) x)++(v.1++zjH++aZ 16 v.2),by split<;>simp<;>omega,?_⟩;simp only[M,E,S,T,zh,cm,ax,zE,zm];rw[zu i um];by_cases w:(i:Int)>0
    .rw[ze (zy w),ze w,ze (zy sg),ze (zy sg),ze (zy sg),ze (zy sg)]
    .rw[zg (by simpa using w),zg w,ze (zy sg),ze (zy sg),ze (zy sg)]
   .refine .inl ⟨m,?_⟩;have J:(cond (!bM v.1) Q3 (!dD v.2))=Q3:=by
     cases F:bM v.1
     .rfl
     .cases G:dD v.2
      .rfl
      .exact zC ⟨F,G⟩ m
    rw[ze rfl,ze J];exact⟨_,rfl,Do [] _ Q4 (p [] Q4 _ (.inr ⟨rfl,rfl⟩)) sw c⟩
  rcases e with⟨_,r,D,z⟩|⟨u,D,z⟩
  .exact .inr ⟨r,D,z⟩
  .exact .inl ⟨u,ow,z⟩
 .intro x n H hn;obtain⟨n,rfl⟩:∃k,n=k+1:=⟨n-1,ow⟩
  have e:∃b o,(mR (.h27 a d x (Io s.t.t.q.1:Int) (s,()) Z V)).val=
    Q1 (.inr (.tup [.str (VT++s.2.1++zcc++x++a),.agg [.str V.1,.str V.2.1,.str V.2.2.1,.nils,.nils,.str V.2.2.2.1,.nils,.nils,.str V.t.1,.int .i64 V.t.2.1,.int .i64 V.t.q.1,.str V.t.q.2.1,.str V.t.t.1,.nils,.nils,
   .sl (Sh.str.pr Q5) V.t.t.2.1,.str (za.op V.t.t.q.1),.int .i64 (za.v V.t.t.q.1).1,.int .i64 (za.v V.t.t.q.1).2.1,.str (za.v V.t.t.q.1).2.2,.str (za.s V.t.t.q.1),.sl Q5 (za.l V.t.t.q.1),.str V.t.t.q.2.1],b],[]))/\(b=.bool o\/(b=.kb Q4/\o=Q4)):=by
   show∃b o,(mR (.h27 _ _ _ _ _ _ _)).val=_/\_;simp only[mR,Q8,zG];rw[zg sw,ze (zy sg),ze (zy sg),ze (zy sg),ze (zy sg)];split
   .split
    .exact⟨_,_,rfl,.inl rfl⟩
    .exact⟨_,Q4,rfl,.inr ⟨rfl,rfl⟩⟩
   .exact⟨_,Q4,rfl,.inr ⟨rfl,rfl⟩⟩
  obtain⟨b,o,e,A⟩:=e;rw[dR,e];exact⟨_,rfl,Do _ _ o (p _ o b A) sg c⟩
theorem wrP(h:wN s):(pb s.t.t.1 []=Q3/\ud s.t.t.1 []=(mI [] s.t.t.1,ci s.t.t.1)/\(mI [] s.t.t.1).length<=30000)/\
  (pb s.t.t.q.2.1 md=Q3/\ud s.t.t.q.2.1 md=(mI md s.t.t.q.2.1,ci s.t.t.q.2.1)/\(mI md s.t.t.q.2.1).length<=30000)/\
  s.2.1.length<=1000/\Io s.t.t.t<=1000/\Io s.2.2.1<=1000/\Io s.t.2.1<=1000:=
 ⟨Em h.chk h.cchk sw,Em h.whr h.cwhr sw,h.sh.table,h.sh.role,h.sh.other,h.sh.key⟩
def Qn(s:zN):zH:=VR++s.2.1++lq++s.2.2.1++AH++Lib.join s.2.2.2.1 fi++iE++mI [] s.t.t.1
def lE(s:zN):Bool:=(Q0 (∀x∈s.2.2.2.1,zU x=Q3)&&(Q0 (1<=Io s.2.2.2.1)&&Q0 (Io s.2.2.2.1<=8)))&&(ci s.t.t.1&&zU s.2.2.1)
theorem SU(h:wN s)(o:s.1=dm):∃t,eR s=Q1 (t,(s.1,s.2.1,s.2.2.1,s.2.2.2.1,[],[],[],[],s.t.t.1,[],[],ez,[]),lE s,())/\Io t<=900000/\(lE s=Q3->t=Qn s):=by
 obtain⟨⟨j,k,J⟩,⟨m,L,M⟩,ht,Z,Y,c⟩:=wrP h;obtain⟨w,y,z,A,B,C,_,_,_,_,D⟩:=zdD o;obtain⟨t,n,n2,p⟩:=PO (l:=s.2.2.2.1) (by have:=h.sh.names.1;omega) h.sh.names.2;have q:En s.2.2.2.1=Q3:=by unfold En;rw[n];rfl
 have u:JG s.2.2.2.1=(t,(Q0 (∀x∈s.2.2.2.1,zU x=Q3)&&(Q0 (1<=Io s.2.2.2.1)&&Q0 (Io s.2.2.2.1<=8)))):=by unfold JG;rw[n];rfl
 have H:=ct (s:=s.2.2.1) ow;have I:=fq (s:=s.2.2.1) ow;refine⟨VR++s.2.1++lq++s.2.2.1++AH++t++iE++mI [] s.t.t.1,?_,sg,?_⟩
 .have d:∃b,(oH s).val=Q1 (.inr (.tup [.str (VR++s.2.1++lq++s.2.2.1++AH++t++iE++mI [] s.t.t.1),.agg [.str s.1,.str s.2.1,.str s.2.2.1,.sl Q6 s.2.2.2.1,.nils,.str [],.nils,.nils,.str (za.op s.t.t.1),.int .i64 (za.v s.t.t.1).1,.int .i64 (za.v s.t.t.1).2.1,.str (za.v s.t.t.1).2.2,.str (za.s s.t.t.1),
    .sl Q5 (za.l s.t.t.1),.nils,.nils,.str [],.int .i64 0,.int .i64 0,.str [],.str [],.nils,.str []],b],[]))/\(b=.bool (lE s)\/(b=.kb Q4/\lE s=Q4)):=by
   unfold lE;simp only[oH,Q8,zn,j,m,w,y,z,A,B,C,D,q,u,k,H,I,zh,zE,zm]
   iterate 7 rw[ze (zy sg)]
   generalize(Q0 (∀x∈s.2.2.2.1,zU x=Q3)&&(Q0 (1<=Io s.2.2.2.1)&&Q0 (Io s.2.2.2.1<=8)))=g;generalize ci s.t.t.1=i;cases g
   .exact⟨_,rfl,.inr ⟨rfl,rfl⟩⟩
   .cases i
    .exact⟨_,rfl,.inr ⟨rfl,rfl⟩⟩
    .exact⟨_,rfl,.inl rfl⟩
  obtain⟨b,d,e⟩:=d;refine zP d ?_;clear d;obtain⟨s1,s2,s3,s4,s5,s6,s7,s8,⟨N,O,P,S⟩,E,F,⟨T,U,W,X⟩,G⟩:=s;rcases e with rfl|⟨rfl,e⟩
  .rfl
  .rw[e];rfl
 .intro c;have a:∀x∈s.2.2.2.1,zU x=Q3:=by
   unfold lE at c;simp only[aE,aQ]at c;exact c.1.1
  rw[p a];rfl
def qR(s:zN):zH:=zjN++s.2.1++lq++s.2.2.1++fi++s.t.t.t++AI++s.t.2.1++mI [] s.t.t.1
def oO(s:zN):Bool:=ci s.t.t.1&&(zU s.2.2.1&&(zU s.t.t.t&&zU s.t.2.1))
theorem SV(h:wN s)(o:s.1=gm):eR s=Q1 (qR s,(s.1,s.2.1,s.2.2.1,[],[],s.t.2.1,[],[],s.t.t.1,[],[],ez,s.t.t.t),oO s,())/\(qR s).length<=900000:=by
 obtain⟨⟨g,i,I⟩,⟨j,J,L⟩,ht,Z,Y,X⟩:=wrP h;obtain⟨q,k,m,n,p,u,_,_,_,_,w,y⟩:=zdE o;have C:=ct (s:=s.2.2.1) ow;have D:=fq (s:=s.2.2.1) ow;have E:=ct (s:=s.t.t.t) ow;have F:=fq (s:=s.t.t.t) ow;have G:=ct (s:=s.t.2.1) ow;have H:=fq (s:=s.t.2.1) ow;refine⟨?_,by unfold qR;simp;omega⟩
 have x:∃b,(oH s).val=Q1 (.inr (.tup [.str (qR s),.agg [.str s.1,.str s.2.1,.str s.2.2.1,.nils,.nils,.str s.t.2.1,.nils,.nils,.str (za.op s.t.t.1),.int .i64 (za.v s.t.t.1).1,.int .i64 (za.v s.t.t.1).2.1,.str (za.v s.t.t.1).2.2,.str (za.s s.t.t.1),
    .sl Q5 (za.l s.t.t.1),.nils,.nils,.str [],.int .i64 0,.int .i64 0,.str [],.str [],.nils,.str s.t.t.t],b],[]))/\(b=.bool (oO s)\/(b=.kb Q4/\oO s=Q4)):=by
  unfold oO qR;simp only[oH,Q8,zn,g,j,q,k,m,n,p,u,w,y,i,C,D,E,F,G,H,zh,zE,zm]
  iterate 8 rw[ze (zy sg)]
  generalize ci s.t.t.1=c;generalize zU s.2.2.1=d;generalize zU s.t.t.t=e;cases c
  .exact⟨_,rfl,.inr ⟨rfl,rfl⟩⟩
  .cases d
   .exact⟨_,rfl,.inr ⟨rfl,rfl⟩⟩
   .cases e
    .exact⟨_,rfl,.inr ⟨rfl,rfl⟩⟩
    .exact⟨_,rfl,.inl rfl⟩
 obtain⟨b,x,a⟩:=x;refine zP x ?_;clear x;generalize qR s=tx;obtain⟨s1,s2,s3,s4,s5,s6,s7,s8,⟨M,N,O,P⟩,z,A,⟨S,T,U,W⟩,B⟩:=s;rcases a with rfl|⟨rfl,a⟩
 .rfl
 .rw[a];rfl
def mB(s:zN):zH:=zjM++s.2.1++lq++s.2.2.1++Th++s.2.2.2.1.getD 0 []++Ti++s.2.2.2.1.getD 1 []++mI [] s.t.t.1
def g8(s:zN):Bool:=Q0 (Io s.2.2.2.1=2)&&(ci s.t.t.1&&(zU s.2.2.1&&(zU (s.2.2.2.1.getD 0 [])&&zU (s.2.2.2.1.getD 1 []))))
theorem NQ(h:wN s)(o:s.1=mU):∃t,eR s=Q1 (t,(s.1,s.2.1,s.2.2.1,s.2.2.2.1,[],[],[],[],s.t.t.1,[],[],ez,[]),g8 s,())/\Io t<=900000/\(g8 s=Q3->t=mB s):=by
 obtain⟨⟨m,T,c3⟩,⟨p,d2,d3⟩,ht,hr,ho,hk⟩:=wrP h;obtain⟨z,A,B,C,D,E,_,_,_,_,F,G,H⟩:=Y1 o;have w1:=ct (s:=s.2.2.1) ow;have w2:=fq (s:=s.2.2.1) ow;by_cases x:Io s.2.2.2.1=2
 .have e:((↑(Io s.2.2.2.1):Int)!=2)=Q4:=by rw[x];rfl
  have n0:(s.2.2.2.1.getD 0 []).length<=1000:=by
   rw[aY,z6 ow,bT];exact h.sh.names.2 _ (bp _)
  have n:(s.2.2.2.1.getD 1 []).length<=1000:=by
   rw[aY,z6 ow,bT];exact h.sh.names.2 _ (bp _)
  have w:zK 0 (Io s.2.2.2.1)=Q3:=by rw[x];rfl
  have y:zK 1 (Io s.2.2.2.1)=Q3:=by rw[x];rfl
  have q:getD s.2.2.2.1 (toNat 0) (zi Q6)=s.2.2.2.1.getD 0 []:=rfl;have g:getD s.2.2.2.1 (toNat 1) (zi Q6)=s.2.2.2.1.getD 1 []:=rfl;have I:=ct (s:=s.2.2.2.1.getD 0 []) ow;have J:=fq (s:=s.2.2.2.1.getD 0 []) ow;have L:=ct (s:=s.2.2.2.1.getD 1 []) ow;have M:=fq (s:=s.2.2.2.1.getD 1 []) ow;refine⟨mB s,?_,by unfold mB;simp at n0 n|-;omega,λ_=>rfl⟩
  have c:∃b,(oH s).val=Q1 (.inr (.tup [.str (mB s),.agg [.str s.1,.str s.2.1,.str s.2.2.1,.sl Q6 s.2.2.2.1,.nils,.str [],.nils,.nils,.str (za.op s.t.t.1),.int .i64 (za.v s.t.t.1).1,.int .i64 (za.v s.t.t.1).2.1,.str (za.v s.t.t.1).2.2,.str (za.s s.t.t.1),
    .sl Q5 (za.l s.t.t.1),.nils,.nils,.str [],.int .i64 0,.int .i64 0,.str [],.str [],.nils,.str []],b],[]))/\(b=.bool (g8 s)\/(b=.kb Q4/\g8 s=Q4)):=by
   unfold g8 mB;rw[zy x];simp only[oH,Q8,zn,m,p,z,A,B,C,D,E,F,G,H,T,w1,w2,q,g,I,J,L,M,e,w,y,zh,zE,zm];generalize s.2.2.2.1.getD 0 []=N at n0;generalize s.2.2.2.1.getD 1 []=a1 at n
   iterate 8 rw[ze (zy sg)]
   generalize ci s.t.t.1=O;generalize zU s.2.2.1=P;generalize zU N=S;cases O
   .exact⟨_,rfl,.inr ⟨rfl,rfl⟩⟩
   .cases P
    .exact⟨_,rfl,.inr ⟨rfl,rfl⟩⟩
    .cases S
     .exact⟨_,rfl,.inr ⟨rfl,rfl⟩⟩
     .exact⟨_,rfl,.inl rfl⟩
  obtain⟨b,c,d⟩:=c;refine zP c ?_;clear c;generalize mB s=tx;clear n0 n w y q g I J L M;obtain⟨s1,s2,s3,s4,s5,s6,s7,s8,⟨U,W,X,Y⟩,i,j,⟨g,Z,g3,g4⟩,k⟩:=s;rcases d with rfl|⟨rfl,d⟩
  .rfl
  .rw[d];rfl
 .have e:((↑(Io s.2.2.2.1):Int)!=2)=Q3:=by
   simp only[bne_iff_ne];omega
  have a:g8 s=Q4:=by unfold g8;rw[z7 x];rfl
  refine⟨[],?_,sw,λu=>by rw[a]at u;cases u⟩;rw[a]
  refine zP (r:=(.tup [.str [],.agg [.str s.1,.str s.2.1,.str s.2.2.1,.sl Q6 s.2.2.2.1,.nils,.str [],.nils,.nils,.str (za.op s.t.t.1),.int .i64 (za.v s.t.t.1).1,.int .i64 (za.v s.t.t.1).2.1,.str (za.v s.t.t.1).2.2,.str (za.s s.t.t.1),
    .sl Q5 (za.l s.t.t.1),.nils,.nils,.str [],.int .i64 0,.int .i64 0,.str [],.str [],.nils,.str []],.kb Q4],[])) ?_ ?_
  .simp only[oH,Q8,zn,m,p,z,A,B,C,D,E,F,G,H,e,zh,zE,zm]
  .obtain⟨s1,s2,s3,s4,s5,s6,s7,s8,⟨U,W,X,Y⟩,i,j,⟨g,Z,g3,g4⟩,k⟩:=s;rfl
theorem li(h:∃r,(oH s).val=Q1 (.inr r)/\Ta r):zbS (eR s):=by obtain⟨r,x,t,o,d,a,b,c⟩:=h;exact ztL x a b c
theorem Ff{x:BT}(a:(oH s).val=Q1 (.inl x))(h:∃r,eh mR 100000000 x=Q1 r/\Ta r):zbS (eR s):=by obtain⟨r,h,t,o,e,b,c,d⟩:=h;refine⟨t,o,e,?_,c,d⟩;unfold eR an bY;rw[a];show(eh mR 100000000 x).bind _=_;rw[h];exact b
theorem PP(h:wN s):zbS (eR s):=by
 by_cases F:s.1=dm
 .obtain⟨t,b,g,_⟩:=SU h F;exact⟨t,_,_,b,g,fS h (.inl rfl) (.inr rfl) (.inr rfl) (.inr rfl) (.inl rfl) (.inr rfl) (.inr rfl) (.inr rfl)⟩
 by_cases G:s.1=gm
 .obtain⟨b,g⟩:=SV h G;exact⟨_,_,_,b,g,fS h (.inr rfl) (.inr rfl) (.inr rfl) (.inr rfl) (.inl rfl) (.inr rfl) (.inr rfl) (.inr rfl)⟩
 by_cases H:s.1=mU
 .obtain⟨t,b,g,_⟩:=NQ h H;exact⟨t,_,_,b,g,fS h (.inl rfl) (.inr rfl) (.inr rfl) (.inr rfl) (.inl rfl) (.inr rfl) (.inr rfl) (.inr rfl)⟩
 obtain⟨⟨c,c2,c3⟩,⟨d,n,U⟩,ht,hr,ho,hk⟩:=wrP h;have Y:¬(s.1==dm)=Q3:=λe=>F (bF e)
 have Z:¬(s.1==gm)=Q3:=λe=>G (bF e)
 have q8:¬(s.1==mU)=Q3:=λe=>H (bF e)
 by_cases x:(s.1==Oe)=Q3
 .refine li ?_;simp only[oH,Q8,zn,c,d,x,zh];obtain⟨W,e2⟩:=PH h;have X:rX (s.1,s.2.1,s.2.2.1,s.2.2.2.1,s.t.1,s.t.2.1,s.t.q.1,s.t.q.2.1,s.t.t.1,s.t.t.2.1,s.t.t.q.1,s.t.t.q.2.1,s.t.t.t)=Q3:=W;rw[ze X];refine⟨_,rfl,Do (qC s).1 (s.1,s.2.1,[],[],s.t.1,s.t.2.1,s.t.q.1,s.t.q.2.1,s.t.t.1,[],[],ez,[]) (qC s).2 ?_ ow (fS h (.inr rfl) (.inl rfl) (.inl rfl) (.inl rfl) (.inl rfl) (.inr rfl) (.inr rfl) (.inr rfl))⟩;obtain⟨J,L,M,N,O,P,S,T,⟨w,y,z,A⟩,j,k,⟨B,C,D,E⟩,l⟩:=s;rfl
 by_cases a:(s.1==bl1)=Q3
 .refine li ?_;simp only[oH,Q8,zn,c,d,x,a,zh,zE,zm];rw[ze (zy sg)];exact⟨_,rfl,Do _ (s.1,s.2.1,[],[],[],[],[],[],ez,[],[],ez,[]) Q3 rfl sg (fS h (.inr rfl) (.inr rfl) (.inr rfl) (.inr rfl) (.inr rfl) (.inr rfl) (.inr rfl) (.inr rfl))⟩
 by_cases i:(s.1==bl3)=Q3
 .refine Ff ?_ (zwt h);simp only[oH,Q8,zn,c,d,x,a,i,zh,zE,zm]
 by_cases m:(s.1==K2)=Q3
 .refine Ff ?_ (zwu h (mI md s.t.t.q.2.1) (ci s.t.t.q.2.1) U);simp only[oH,Q8,zn,c,d,n,x,a,i,m,zh,zE,zm]
 by_cases v:(s.1==bl0)=Q3
 .refine li ?_;simp only[oH,Q8,zn,c,d,x,a,i,m,v,zh,zE,zm];rw[n,ze (zy sg),ze (zy sg)];refine⟨_,rfl,Do (zch++s.2.1++mI md s.t.t.q.2.1) (s.1,s.2.1,[],[],[],[],[],[],ez,[],[],s.t.t.q.2.1,[]) (ci s.t.t.q.2.1) ?_ ?_ (fS h (.inr rfl) (.inr rfl) (.inr rfl) (.inr rfl) (.inr rfl) (.inr rfl) (.inr rfl) (.inl rfl))⟩;rotate_left 2
  .obtain⟨J,L,M,N,O,P,S,T,⟨w,y,z,A⟩,j,k,⟨B,C,D,E⟩,l⟩:=s;rfl
  .simp;omega
 by_cases I:(s.1==Ig)=Q3
 .refine li ?_;simp only[oH,Q8,zn,c,d,x,a,i,m,v,I,zh,zE,zm];rw[n,ze (zy sg),ze (zy sg)];refine⟨_,rfl,Do (zcq++s.2.1++mI md s.t.t.q.2.1) (s.1,s.2.1,[],[],[],[],[],[],ez,[],[],s.t.t.q.2.1,[]) (ci s.t.t.q.2.1) ?_ ?_ (fS h (.inr rfl) (.inr rfl) (.inr rfl) (.inr rfl) (.inr rfl) (.inr rfl) (.inr rfl) (.inl rfl))⟩;rotate_left 2
  .obtain⟨J,L,M,N,O,P,S,T,⟨w,y,z,A⟩,j,k,⟨B,C,D,E⟩,l⟩:=s;rfl
  .simp;omega
 by_cases q9:(s.1==bl9)=Q3;rotate_left;by_cases o:(s.1==Oa)=Q3;rotate_left;by_cases p:(s.1==N8)=Q3;rotate_left;by_cases u:(s.1==N9)=Q3;rotate_left
 .refine li ?_;simp only[oH,Q8,zn,c,d,x,a,i,m,v,I,Y,Z,q8,q9,o,p,u,zh,zE,zm];exact⟨_,rfl,Do _ (s.1,s.2.1,[],[],[],[],[],[],ez,[],[],ez,[]) Q4 rfl sw (fS h (.inr rfl) (.inr rfl) (.inr rfl) (.inr rfl) (.inr rfl) (.inr rfl) (.inr rfl) (.inr rfl))⟩
 all_goals
  refine li ?_;simp only[oH,Q8,zn, *,zh,zE,zm];rw[ze (zy sg),ze (zy sg),ze (zy sg),ze (ct (s:=s.t.t.t) ow)];exact⟨_,rfl,Do _ (s.1,s.2.1,[],[],[],[],[],[],ez,[],[],ez,s.t.t.t) (bM s.t.t.t) rfl sg (fS h (.inr rfl) (.inr rfl) (.inr rfl) (.inr rfl) (.inr rfl) (.inr rfl) (.inr rfl) (.inr rfl))⟩
theorem zgX(p:Int->Bool):∀s:zH,cY p s=Io s↔∀c∈s,p c.toNat=Q3
 |[]=>by simp[cY]
 | c::r=>by
  have a:=A9 p r;have x:=zgX p r;rw[cY];by_cases h:p c.toNat=Q3
  .rw[ze h];simp[h,x]
  .rw[zg h];simp[h]
theorem zwf(p:Int->Bool)(s:zH):bw p p s=Io s↔∀c∈s,p c.toNat=Q3:=by
 cases s with
 |nil=>simp[bw]
 | cons c r=>
  have a:=A9 p r;have x:=zgX p r;rw[bw];by_cases h:p c.toNat=Q3
  .rw[ze h];simp[h,x]
  .rw[zg h];simp[h]
theorem zd3:∀s:zH,(cond ((↑(Io s):Int)==1) (Q0 (0<=Lib.indexByte zjJ (List.headD s 0))) Q4)=
  (cond (s==[40]) Q3 (cond (s==[41]) Q3 (cond (s==[44]) Q3 (cond (s==[61]) Q3 (cond (s==[60]) Q3 (cond (s==[43]) Q3 (cond (s==[45]) Q3 (s==[42]))))))))
 |[]=>rfl
 | a::b::r=>by
  have e:((((a::b::r).length:Nat):Int)==1)=Q4:=dB.2 sg;rw[e];simp
 | [c]=>by
  by_cases h:c=40
  .subst h;rfl
  by_cases x:c=41
  .subst x;rfl
  by_cases d:c=44
  .subst d;rfl
  by_cases g:c=61
  .subst g;rfl
  by_cases i:c=60
  .subst i;rfl
  by_cases j:c=43
  .subst j;rfl
  by_cases k:c=45
  .subst k;rfl
  by_cases l:c=42
  .subst l;rfl
  simp[Lib.indexByte,h,x,d,g,i,j,k,l,Ne.symm h,Ne.symm x,Ne.symm d,Ne.symm g,Ne.symm i,Ne.symm j,Ne.symm k,Ne.symm l]
variable {t:dd}
theorem M4(x:Io t.2<=1000000):JB t=Q1 (cU t,()):=by
 obtain⟨k,s⟩:=t;have x:Io s<=1000000:=x;by_cases m:k=(1:Int)
 .subst m;refine zP (r:=(.bool (er s),[])) ?_ ?_
  .simp only[Mb,Q8,xZ x,Ee x];rfl
  .rfl
 by_cases n:k=(2:Int)
 .subst n;have a:(Mb ((2,s):dd)).val=Q1 (.inl (.h6 ((0:Nat):Int) ((2,s),()))):=rfl;have E:=mF (t:=wt) (Φ:=λr=>r=(.kb Q4,[])) 1 (λi=>.h6 (i:Int) ((2,s),())) (λi=>ap (getD s i 0).toNat=Q3) (Io s) (by
   intro i a _;have w:(wt (.h6 (i:Int) ((2,s),()))).val=if(!ap (getD s i 0).toNat)=Q3 then Q1 (.inr (.kb Q4,[]))else Q1 (.inl (.h6 ((i+1:Nat):Int) ((2,s),()))):=by
    show(wt (.h6 _ _)).val=_;unfold wt;simp only[Q8,zI a,zx a,aJ,jw,ld,zh];rw[zu i um]
   by_cases h:ap (getD s i 0).toNat=Q3
   .exact .inl ⟨h,zJ.of (by rw[w,zg (by rw[h];simp)])⟩
   .exact .inr ⟨h,_,zY.of (by rw[w,ze (by simpa using h)]),rfl⟩)
  have q:=aD (l:=s) (d:=0) (Q:=λc=>ap c.toNat=Q3);have u:=zwf ap s;have j:cU ((2,s):dd)=(cond (Q0 ((↑(Io s):Int)>=1)) (cond (Q0 ((↑(Io s):Int)<=19)) ((↑(bw ap ap s):Int)==(↑(Io s):Int)) Q4) Q4):=rfl;rw[j];rcases E with⟨b,g⟩|⟨b,r,g,rfl⟩
  .have e:((↑(bw ap ap s):Int)==(↑(Io s):Int))=Q3:=by rw[u.2 (q.1 b)];simp
   rw[e];refine zA a (g.ends (zY.of (r:=(.bool (cond (Q0 (1<=(Io s:Int))) (Q0 ((Io s:Int)<=19)) Q4),[])) ?_)) ow ?_
   .show(wt (.h6 _ _)).val=_;unfold wt;simp only[Q8,zG];rfl
   .show Q1 _=Q1 _;rw[show Q0 ((↑(Io s):Int)>=1)=Q0 (1<=(Io s:Int))from rfl];cases Q0 ((Io s:Int)<=19)<;>rfl
  .have e:((↑(bw ap ap s):Int)==(↑(Io s):Int))=Q4:=by
    rw[dB];intro h;exact b (q.2 (u.1 ow))
   rw[e];refine zA a g ow ?_;show Q1 _=Q1 _;cases Q0 ((↑(Io s):Int)>=1)<;>cases Q0 ((↑(Io s):Int)<=19)<;>rfl
 by_cases y:k=(3:Int)
 .subst y;refine zP (r:=(.bool (bf (2,0,s)),[])) ?_ ?_
  .simp only[Mb,Q8,lI (v:=(2,0,s)) x,oS (v:=(2,0,s)) x];rfl
  .rfl
 by_cases z:k=(4:Int)
 .subst z;have F:=zd3 s;refine zP (r:=(.bool _,[])) rfl ?_;show Q1 _=Q1 _;rw[show cU ((4,s):dd)=_ from F]
 have A:(k==1)=Q4:=dB.2 m;have B:(k==2)=Q4:=dB.2 n;have o:(k==3)=Q4:=dB.2 y;have p:(k==4)=Q4:=dB.2 z;have C:((1:Int)==k)=Q4:=dB.2 (Ne.symm m);have D:((2:Int)==k)=Q4:=dB.2 (Ne.symm n);have j:cU ((k,s):dd)=Q4:=by
  unfold cU;simp[o,p,C,D]
 rw[j];refine zP (r:=(.kb Q4,[])) ?_ rfl;simp only[Mb,Q8,A,B,o,p];rfl
theorem vR(h:Io t.2<=1000000):mL t=Q3:=by unfold mL;rw[M4 h];rfl
theorem Bt(h:Io t.2<=1000000):sZ t=cU t:=by unfold sZ;rw[M4 h];rfl
abbrev up:=dr
abbrev hd3(s:zH)(i:Int)(o:up):jL:=.h3 s i o
abbrev Xg(s:zH)(i c f:Int)(z:zo [CP.d zB])(o:up):jL:=.h11 s i c f z o
abbrev Xh(s:zH)(i c f:Int)(z:zo [CP.d zB])(o:up):jL:=.h15 s i c f z o
abbrev O3(s:zH)(i:Int)(z:zo [CP.d zB])(o:up):jL:=.h20 s i z o
abbrev rNo:au:=(.tup [.nils,.kb Q4],[])
def Vt(r:au)(b:Bool):Prop:=∃l,aU r.2 [Sh.sl zB,Q7] r.1=Q1 (l,b,())
theorem ZE:Vt rNo Q4:=⟨[],rfl⟩
def N1(s:zH)(j:Nat)(t:dd)(o:up):jL⊕au:=if cU t=Q3 then .inl (hd3 s (j:Int) (o++[t]))else .inr rNo
variable {j:Nat}
theorem wz(s:zH)(h:j<Io s):Qg (((j+1:Nat):Int).toNat-(j:Int).toNat) (Qh (j:Int).toNat s)=[s[j]]:=by rw[aJ,aJ,show j+1-j=1 by omega,fR h];rfl
theorem v20{acc:zH}(E:Io w<=1000000)(a:j<Io w)(s:Io acc<=1000000):∀{o:up},Io o<=1000000->(gg (O3 w (j:Int) ((3,acc),()) o)).val=Q1 (
  if w[j]≠39 then .inl (O3 w ((j+1:Nat):Int) ((3,acc++[w[j]]),()) o)
  else if w[j+1]?=Q1 39 then .inl (O3 w ((j+2:Nat):Int) ((3,acc++[39]),()) o)
  else N1 w (j+1) (3,acc) o):=by
 intro o C;have l:Γ Δ ((j:Int)+1)=((j+1:Nat):Int):=zu j um;have n:Γ Δ (((j+1:Nat):Int)+1)=((j+2:Nat):Int):=zu (j+1) um;have p:(Q0 (0<=(j:Int))&&Q0 ((j:Int)<=((j+1:Nat):Int))&&Q0 (((j+1:Nat):Int)<=(↑(Io w):Int)))=Q3:=by simp;omega
 have D:Q0 ((↑(Io w):Int)<=(j:Int))=Q4:=z7 ow;have A:Q0 ((j:Int)>=(↑(Io w):Int))=Q4:=z7 ow;have B:sZ ((3,acc):bW)=cU ((3,acc):dd):=Bt (t:=((3,acc):dd)) s;have i:mL ((3,acc):bW)=Q3:=vR (t:=((3,acc):dd)) s;have q:(Io acc+[w[j]].length<=1099511627776):=by simp;omega
 by_cases c:w[j]=39
 .have b:((↑w[j].toNat:Int)!=39)=Q4:=by simp[bne,sC.2 c]
  have d:((↑w[j].toNat:Int)==39)=Q3:=sC.2 c;by_cases g:w[j+1]?=Q1 39
  .obtain⟨x,v⟩:=dc.1 g;have u:((↑w[j+1].toNat:Int)==39)=Q3:=sC.2 v;have y:Q0 (((j+1:Nat):Int)<(↑(Io w):Int))=Q3:=zy ow;rw[zg (by simpa using c),ze g];show(gg (.h20 _ _ _ _)).val=_;simp only[gg,l,n,ei w a,wz w a,zI a,zx a,zx x,y,b,d,u,ei w x,Q8,aw,ax,ee,zh,p,zy q];rw[c]
  .rw[zg (by simpa using c),zg g];have e:(cond (Q0 (((j+1:Nat):Int)<(↑(Io w):Int))) ((↑(getD w ((j+1:Nat):Int).toNat 0).toNat:Int)==39) Q4)=Q4:=by
    by_cases x:j+1<Io w
    .rw[zy ow,ei w x];simp only[aw];rw[<-gT,sC];intro h;exact g (dc.2 ⟨x,h⟩)
    .rw[z7 ow];rfl
   have z:(cond (Q0 (((j+1:Nat):Int)<(↑(Io w):Int))) (zK ((j+1:Nat):Int) (Io w)) Q3)=Q3:=by
    by_cases x:j+1<Io w
    .rw[zx x];cases Q0 (((j+1:Nat):Int)<(↑(Io w):Int))<;>rfl
    .rw[z7 ow];rfl
   unfold N1;have k:(Io o+[((3,acc):bW)].length<=1073741824):=by have:Io o<=1000000:=C;simp;omega
   show(gg (.h20 _ _ _ _)).val=_;simp only[gg,l,n,ei w a,wz w a,zI a,zx a,b,d,e,z,Q8,aw,ax,ee,zh,zE,zm,A,i,B,zy k];by_cases m:cU ((3,acc):dd)=Q3
   .simp[m]
   .simp[m]
 .have b:((↑w[j].toNat:Int)!=39)=Q3:=by simp only[bne,yJ];rw[<-gT,sC];exact c
  have d:((↑w[j].toNat:Int)==39)=Q4:=by rw[<-gT,sC];exact c
  rw[ze c];show(gg (.h20 _ _ _ _)).val=_;simp only[gg,l,n,ei w a,wz w a,zI a,zx a,b,d,Q8,aw,ee,zh,zE,zm,p,zy q]
theorem zws{g:zH}:∀{o:up},(gg (O3 w (Io w:Int) ((3,g),()) o)).val=Q1 (.inr rNo):=by intro o;have h:Q0 ((↑(Io w):Int)>=(↑(Io w):Int))=Q3:=zy (Int.le_refl _);show(gg (.h20 _ _ _ _)).val=_;simp only[gg,zG,Q8,ax,zh,zE,zm,h]
theorem l20{w:zH}{o:up}(p:Io w<=1000000)(q:Io o<=1000000):∀(n j:Nat)(acc:zH),Io w-j<=n->j<=Io w->Io acc<=j->
  (ft (w.drop j)=none->zY gg (n+1) (O3 w (j:Int) ((3,acc),()) o) rNo)/\
  (∀t k,ft (w.drop j)=Q1 (t,k)->∀K r,(match N1 w (j+k) (3,acc++t) o with|.inl h=>zY gg K h r|.inr y=>y=r)->zY gg (K+k) (O3 w (j:Int) ((3,acc),()) o) r)
 | n, j,acc,C,B,A=>by
  by_cases e:j<Io w
  .have x:=v20 (o:=o) (acc:=acc) p e ow q;rw[fR e];by_cases c:w[j]=39
   .rw[zg (by simpa using c)]at x;by_cases g:w[j+1]?=Q1 39
    .rw[ze g]at x;obtain⟨l,z⟩:=dc.1 g;obtain⟨n,rfl⟩:∃m,n=m+1:=⟨n-1,ow⟩;obtain⟨s,u⟩:=l20 p q n (j+2) (acc++[39]) ow ow sg;rw[fR l,c,z,Nt,show j+1+1=j+2 from rfl];refine⟨λh=>?_,λt k h K r a=>?_⟩
     .rw[Option.map_eq_none_iff]at h;exact((zJ.of x).ends (s h))
     .rw[dt]at h;obtain⟨⟨v,b⟩,i,d⟩:=h;simp only[cd]at d;obtain⟨rfl,rfl⟩:=d;have:=u v b i K r (by rw[B1];rw[show j+2+b=j+(b+2) by omega];exact a);exact((zJ.of x).ends this).mono ow
    .rw[zg g]at x;rw[c,EK _ (by rw[List.head?_drop];exact g)];refine⟨λh=>(by cases h),λt k h K r a=>?_⟩;simp only[bg,cd]at h;obtain⟨rfl,rfl⟩:=h;rw[pR]at a;revert x a;cases N1 w (j+1) (3,acc) o with
     |inl h=>intro x a;exact(zJ.of x).ends a
     |inr y=>intro x a;cases a;exact(zY.of x).mono ow
   .rw[ze c]at x;obtain⟨n,rfl⟩:∃m,n=m+1:=⟨n-1,ow⟩;obtain⟨s,u⟩:=l20 p q n (j+1) (acc++[w[j]]) ow ow sg;rw[HL c];refine⟨λh=>?_,λt k h K r a=>?_⟩
    .rw[Option.map_eq_none_iff]at h;exact((zJ.of x).ends (s h))
    .rw[dt]at h;obtain⟨⟨v,b⟩,i,d⟩:=h;simp only[cd]at d;obtain⟨rfl,rfl⟩:=d;have:=u v b i K r (by rw[B1];rw[show j+1+b=j+(b+1) by omega];exact a);exact((zJ.of x).ends this).mono ow
  .obtain rfl:j=Io w:=by omega
   rw[jO];exact⟨λ_=>(zY.of zws).mono ow,λt k h=>(by simp[ft]at h)⟩
variable {z:zo [CP.d zB]}
theorem zwp{c f:Int}(b:Io w<=1000000)(h:j<Io w)(x:bQ w[j].toNat=Q3):∀{o:up},(gg (Xg w (j:Int) c f z o)).val=Q1 (.inl (Xg w ((j+1:Nat):Int) c f z o)):=by intro o;have a:Γ Δ ((j:Int)+1)=((j+1:Nat):Int):=zu j um;show(gg (.h11 _ _ _ _ _ _)).val=_;simp only[gg,ei w h,zI h,zx h,ye,Ei,x,a,Q8,aw,pT,zh]
variable {c:UInt8}
theorem zwo{f:Nat}(y:Io w<=1000000)(v:j<=Io w)(u:f<=j)(s:∀h:j<Io w,bQ w[j].toNat=Q4)(l:ap c.toNat=Q4)(n:c≠39):
  ∀{o:up},Io o<=1000000->(gg (Xg w (j:Int) (c.toNat:Int) (f:Int) z o)).val=Q1 (N1 w j (1,Qg (j-f) (Qh f w)) o):=by
 intro o q;have g:(cond (Q0 ((j:Int)<(↑(Io w):Int))) (zK (j:Int) (Io w)&&vU (↑(getD w (j:Int).toNat 0).toNat:Int)) Q3)=Q3:=by
  by_cases h:j<Io w
  .rw[zx h,ye];cases Q0 ((j:Int)<(↑(Io w):Int))<;>rfl
  .rw[z7 ow];rfl
 have i:(cond (Q0 ((j:Int)<(↑(Io w):Int))) (Eh (↑(getD w (j:Int).toNat 0).toNat:Int)) Q4)=Q4:=by
  by_cases h:j<Io w
  .rw[ei w h,Ei,s h];cases Q0 ((j:Int)<(↑(Io w):Int))<;>rfl
  .rw[z7 ow];rfl
 have k:(Q0 (0<=(f:Int))&&Q0 ((f:Int)<=(j:Int))&&Q0 ((j:Int)<=(↑(Io w):Int)))=Q3:=by simp;omega
 have e:((c.toNat:Int)==39)=Q4:=by rw[<-gT,sC];exact n
 have x:(Qg (j-f) (Qh f w)).length<=1000000:=by simp;omega
 have p:sZ ((1,Qg (j-f) (Qh f w)):bW)=cU (1,Qg (j-f) (Qh f w)):=Bt (t:=((1,Qg (j-f) (Qh f w)):dd)) x;have a:mL ((1,Qg (j-f) (Qh f w)):bW)=Q3:=vR (t:=((1,Qg (j-f) (Qh f w)):dd)) x;unfold N1;have b:(Io o+[((1,Qg (j-f) (Qh f w)):bW)].length<=1073741824):=by have:Io o<=1000000:=q;simp;omega
 show(gg (.h11 _ _ _ _ _ _)).val=_;simp only[gg,g,i,k,jw,ld,l,e,Q8,zh,zE,zm];simp only[aJ,a,p,zy b,zh];generalize Qg (j-f) (Qh f w)=T;by_cases m:cU (1,T)=Q3
 .simp[m]
 .simp[m]
theorem zwr{c f:Int}(b:Io w<=1000000)(h:j<Io w)(x:ap w[j].toNat=Q3):∀{o:up},(gg (Xh w (j:Int) c f z o)).val=Q1 (.inl (Xh w ((j+1:Nat):Int) c f z o)):=by intro o;have a:Γ Δ ((j:Int)+1)=((j+1:Nat):Int):=zu j um;show(gg (.h15 _ _ _ _ _ _)).val=_;simp only[gg,ei w h,zI h,zx h,jw,ld,x,a,Q8,aw,pT,zh]
theorem zwq{f:Nat}(v:Io w<=1000000)(u:j<=Io w)(s:f<=j)(q:∀h:j<Io w,ap w[j].toNat=Q4)(l:c≠39):
  ∀{o:up},Io o<=1000000->(gg (Xh w (j:Int) (c.toNat:Int) (f:Int) z o)).val=Q1 (N1 w j (2,Qg (j-f) (Qh f w)) o):=by
 intro o p;have g:(cond (Q0 ((j:Int)<(↑(Io w):Int))) (zK (j:Int) (Io w)&&jV (↑(getD w (j:Int).toNat 0).toNat:Int)) Q3)=Q3:=by
  by_cases h:j<Io w
  .rw[zx h,jw];cases Q0 ((j:Int)<(↑(Io w):Int))<;>rfl
  .rw[z7 ow];rfl
 have i:(cond (Q0 ((j:Int)<(↑(Io w):Int))) (kO (↑(getD w (j:Int).toNat 0).toNat:Int)) Q4)=Q4:=by
  by_cases h:j<Io w
  .rw[ei w h,ld,q h];cases Q0 ((j:Int)<(↑(Io w):Int))<;>rfl
  .rw[z7 ow];rfl
 have k:(Q0 (0<=(f:Int))&&Q0 ((f:Int)<=(j:Int))&&Q0 ((j:Int)<=(↑(Io w):Int)))=Q3:=by simp;omega
 have e:((c.toNat:Int)==39)=Q4:=by rw[<-gT,sC];exact l
 have x:(Qg (j-f) (Qh f w)).length<=1000000:=by simp;omega
 have n:sZ ((2,Qg (j-f) (Qh f w)):bW)=cU (2,Qg (j-f) (Qh f w)):=Bt (t:=((2,Qg (j-f) (Qh f w)):dd)) x;have a:mL ((2,Qg (j-f) (Qh f w)):bW)=Q3:=vR (t:=((2,Qg (j-f) (Qh f w)):dd)) x;unfold N1;have b:(Io o+[((2,Qg (j-f) (Qh f w)):bW)].length<=1073741824):=by have:Io o<=1000000:=p;simp;omega
 show(gg (.h15 _ _ _ _ _ _)).val=_;simp only[gg,g,i,k,e,Q8,zh,zE,zm];simp only[aJ,a,n,zy b,zh];generalize Qg (j-f) (Qh f w)=T;by_cases m:cU (2,T)=Q3
 .simp[m]
 .simp[m]
theorem IU{p:Int->Bool}{s:zH}(a:Nat->jL)(d:∀j(g:j<Io s),p s[j].toNat=Q3->(gg (a j)).val=Q1 (.inl (a (j+1)))):∀(n j:Nat),Io s-j<=n->j<=Io s->
  zJ gg (cY p (s.drop j)) (a j) (a (j+cY p (s.drop j)))/\j+cY p (s.drop j)<=Io s/\∀h:j+cY p (s.drop j)<Io s,p s[j+cY p (s.drop j)].toNat=Q4
 | n,j,l,g=>by
  by_cases x:j<Io s
  .by_cases b:p s[j].toNat=Q3
   .obtain⟨n,rfl⟩:∃m,n=m+1:=⟨n-1,ow⟩;have e:cY p (s.drop j)=cY p (s.drop (j+1))+1:=by rw[fR x,cY,ze b]
    obtain⟨i,o,k⟩:=IU a d n (j+1) ow ow;have c:j+cY p (s.drop j)=j+1+cY p (s.drop (j+1)):=by omega
    refine⟨?_,ow,?_⟩
    .rw[c,e];exact((zJ.of (d j x b)).trans i).mono ow
    .intro h;simp only[c]at h|-;exact k h
   .have e:cY p (s.drop j)=0:=by rw[fR x,cY,zg b]
    rw[e];exact⟨zJ.refl _,ow,λ_=>by simpa using b⟩
  .have e:cY p (s.drop j)=0:=by rw[BV ow];rfl
   rw[e];exact⟨zJ.refl _,ow,λh=>zC h ow⟩
theorem v3(i:Io w<=1000000)(h:j<Io w):∀{o:up},Io o<=1000000->∃z,(gg (hd3 w (j:Int) o)).val=Q1 (
  if(cond ((w[j].toNat:Int)==32) Q3 ((w[j].toNat:Int)==10))=Q3 then .inl (hd3 w ((j+1:Nat):Int) o)
  else if ba w[j].toNat=Q3 then .inl (Xg w ((j+1:Nat):Int) w[j].toNat j z o)
  else if ap w[j].toNat=Q3 then .inl (Xh w ((j+1:Nat):Int) w[j].toNat j z o)
  else if w[j]=39 then .inl (O3 w ((j+1:Nat):Int) ((3,[]),()) o)
  else N1 w (j+1) (4,[w[j]]) o):=by
 intro o d;refine⟨((4,[w[j]]),()),?_⟩;have e:Γ Δ ((j:Int)+1)=((j+1:Nat):Int):=zu j um;have g:(Q0 (0<=(j:Int))&&Q0 ((j:Int)<=((j+1:Nat):Int))&&Q0 (((j+1:Nat):Int)<=(↑(Io w):Int)))=Q3:=by simp;omega
 have c:sZ ((4,[w[j]]):bW)=cU (4,[w[j]]):=Bt (t:=((4,[w[j]]):dd)) sw;have a:mL ((4,[w[j]]):bW)=Q3:=vR (t:=((4,[w[j]]):dd)) sw;have x:w[j]=39↔((w[j].toNat:Int)==39)=Q3:=sC.symm;unfold N1;simp only[x];have b:(Io o+[((4,[w[j]]):bW)].length<=1073741824):=by have:Io o<=1000000:=d;simp;omega
 show(gg (.h3 _ _ _)).val=_;simp only[gg,e,ei w h,wz w h,zI h,zx h,g,qI,ua,jw,ld,Q8,zh,a,c,zy b];repeat' split
 all_goals first|rfl|simp_all
theorem Ue(h:ba c.toNat=Q3):ap c.toNat=Q4/\c≠39:=by
 have x:ba ((39:UInt8).toNat:Int)=Q4:=rfl;constructor
 .have a:(65:Int)<=(c.toNat:Int):=by
   by_cases k:(65:Int)<=(c.toNat:Int)
   .exact k
   .exfalso;have b:Q0 ((c.toNat:Int)>=97)=Q4:=z7 ow;have d:Q0 ((c.toNat:Int)>=65)=Q4:=z7 ow;unfold ba at h;rw[b,d]at h;cases h
  have e:Q0 ((c.toNat:Int)<=57)=Q4:=z7 ow;unfold ap;rw[e];cases Q0 ((c.toNat:Int)>=48)<;>rfl
 .rintro rfl;rw[x]at h;cases h
theorem V7(h:ap c.toNat=Q3):c≠39:=by have x:ap ((39:UInt8).toNat:Int)=Q4:=rfl;rintro rfl;rw[x]at h;cases h
theorem Ed{s:zH}(q:Io s<=1000000):∀(n i:Nat)(o:up),Io s+1<=n+i->i<=Io s->Io o<=i->∃r,zY gg (3*(Io s-i)+3) (hd3 s (i:Int) o) r/\Vt r (wR n (s.drop i) (Io o))
 |0,i,o,N,O,P=>by omega
 | n + 1,i,o,N,O,P=>by
  by_cases C:i<Io s
  .obtain⟨z,d⟩:=v3 (o:=o) q C ow;rw[fR C,wR];have a:Qh i s=s[i]::Qh (i+1) s:=fR C;have next:∀(j:Nat)(t:dd),i<j->j<=Io s->∃r,(match N1 s j t o with|.inl h=>zY gg (3*(Io s-j)+3) h r|.inr w=>w=r)/\Vt r (ite (cU t=Q3) (wR n (s.drop j) (Io o+1)) Q4):=by
    intro j t S E;unfold N1;by_cases m:cU t=Q3
    .rw[ze m,ze m];obtain⟨r,b,l⟩:=Ed q n j (o++[t]) ow E sg;refine⟨r,b,?_⟩;have:(o++[t]).length=Io o+1:=by simp
     rw[this]at l;exact l
    .rw[zg m,zg m];exact⟨rNo,rfl,ZE⟩
   by_cases I:(cond ((s[i].toNat:Int)==32) Q3 ((s[i].toNat:Int)==10))=Q3
   .rw[ze I]at d|-;obtain⟨r,b,l⟩:=Ed q n (i+1) o ow ow ow;exact⟨r,((zJ.of d).ends b).mono ow,l⟩
   .rw[zg I]at d|-;unfold qe;by_cases A:ba s[i].toNat=Q3
    .rw[ze A]at d|-;obtain⟨M,y⟩:=Ue A;obtain⟨u,v,H⟩:=IU (p:=bQ) (s:=s) (λj=>Xg s (j:Int) (s[i].toNat:Int) (i:Int) z o) (λj D F=>zwp q D F) (Io s) (i+1) ow ow;have g:=zwo (z:=z) (c:=s[i]) (f:=i) q v ow H M y (o:=o) ow;rw[show i+1+cY bQ (Qh (i+1) s)-i=cY bQ (Qh (i+1) s)+1 by omega,a]at g;obtain⟨r,b,l⟩:=next (i+1+cY bQ (Qh (i+1) s)) (1,(s[i]::Qh (i+1) s).take (cY bQ (Qh (i+1) s)+1)) ow v
     refine⟨r,?_,?_⟩
     .revert g b;cases N1 s (i+1+cY bQ (Qh (i+1) s)) (1,(s[i]::Qh (i+1) s).take (cY bQ (Qh (i+1) s)+1)) o with
      |inl h=>intro g b;exact(((zJ.of d).trans u).ends ((zJ.of g).ends b)).mono ow
      |inr w=>intro g b;cases b;exact(((zJ.of d).trans u).ends (zY.of g)).mono ow
     .rw[<-a,F2];rw[show i+(cY bQ (Qh (i+1) s)+1)=i+1+cY bQ (Qh (i+1) s) by omega];rw[a];exact l
    .rw[zg A]at d|-;by_cases B:ap s[i].toNat=Q3
     .rw[ze B]at d|-;have y:=V7 B;obtain⟨u,v,H⟩:=IU (p:=ap) (s:=s) (λj=>Xh s (j:Int) (s[i].toNat:Int) (i:Int) z o) (λj D F=>zwr q D F) (Io s) (i+1) ow ow;have g:=zwq (z:=z) (c:=s[i]) (f:=i) q v ow H y (o:=o) ow;rw[show i+1+cY ap (Qh (i+1) s)-i=cY ap (Qh (i+1) s)+1 by omega,a]at g;obtain⟨r,b,l⟩:=next (i+1+cY ap (Qh (i+1) s)) (2,(s[i]::Qh (i+1) s).take (cY ap (Qh (i+1) s)+1)) ow v
      refine⟨r,?_,?_⟩
      .revert g b;cases N1 s (i+1+cY ap (Qh (i+1) s)) (2,(s[i]::Qh (i+1) s).take (cY ap (Qh (i+1) s)+1)) o with
       |inl h=>intro g b;exact(((zJ.of d).trans u).ends ((zJ.of g).ends b)).mono ow
       |inr w=>intro g b;cases b;exact(((zJ.of d).trans u).ends (zY.of g)).mono ow
      .rw[<-a,F2];rw[show i+(cY ap (Qh (i+1) s)+1)=i+1+cY ap (Qh (i+1) s) by omega];rw[a];exact l
     .rw[zg B]at d|-;by_cases J:s[i]=39
      .rw[ze J]at d|-;obtain⟨U,W⟩:=l20 (o:=o) q ow (Io s-(i+1)) (i+1) [] (ah _) ow sw;cases G:ft (Qh (i+1) s)with
       | none=>
        have T:cU ((0,[]):dd)=Q4:=rfl;simp only[T,zE,zm];exact⟨rNo,((zJ.of d).ends (U G)).mono ow,ZE⟩
       | some x=>
        obtain⟨t,k⟩:=x;obtain⟨X,L,_⟩:=sf _ _ _ _ (ah _) G;have L:k<=Io s-(i+1):=by simpa using L
        obtain⟨r,b,l⟩:=next (i+1+k) (3,t) ow ow
        refine⟨r,((zJ.of d).ends (W t k G _ r b)).mono ow,?_⟩;simp only;rw[<-a,F2,show i+(k+1)=i+1+k by omega];exact l
      .rw[zg J]at d|-;obtain⟨r,b,l⟩:=next (i+1) (4,[s[i]]) ow ow
       refine⟨r,?_,l⟩;revert d b;cases N1 s (i+1) (4,[s[i]]) o with
       |inl h=>intro d b;exact((zJ.of d).ends b).mono ow
       |inr w=>intro d b;cases b;exact(zY.of d).mono ow
  .obtain rfl:i=Io s:=by omega
   rw[jO,wR];refine⟨(.tup [.vec 0,.bool (Q0 ((↑o.length:Int)<=400))],[.vec zB o]),(zY.of ?_).mono ow,o,?_⟩
   .show(gg (.h3 _ _ _)).val=_;simp only[gg,zG,Q8];rfl
   .have e:Q0 ((↑o.length:Int)<=400)=Q0 (Io o<=400):=by
     by_cases h:Io o<=400
     .rw[zy h];exact zy ow
     .rw[z7 h];exact z7 ow
    rw[e];rfl
theorem M3{s:zH}(c:Io s<=1000000):∃l,JA s=Q1 (l,(cut s).2==(0:Int),()):=by obtain⟨r,h,l,x⟩:=Ed c (Io s+1) 0 [] ow ow sw;have a:=Cl (Io s+1) s 0 [] ow ow ow sw;have b:((cut s).2==(0:Int))=wR (Io s+1) (s.drop 0) ([]:dr).length:=a;refine⟨l,?_⟩;rw[b];exact zA (s:=hd3 s ((0:Nat):Int) []) rfl h ow x
theorem Zy{s:zH}(x:Io s<=1000000):Jz s=Q3:=by obtain⟨l,h⟩:=M3 x;unfold Jz;rw[h];rfl
theorem zdO{s:zH}(x:Io s<=1000000):(As s).2=((cut s).2==(0:Int)):=by obtain⟨l,h⟩:=M3 x;unfold As;rw[h];rfl
theorem tS{α:Type}(p:α->Bool):∀(l:List α)(i:Nat),(!Q0 (ac p l i>=0))=Q3↔∀x∈l,p x=Q4
 | [],i=>by
  refine⟨λ_ x a=>(by cases a),λ_=>?_⟩;rw[ac];rfl
 | y::r,i=>by
  refine⟨λh=>qm p _ i h,λh=>?_⟩;rw[ac,h y sw];exact(tS p r (i+1)).2 λx a=>h x (by simp[a])
theorem jA{x:zN}(z:Io x.2.2.2.1<=1000)(A:Io x.2.2.2.2.1<=1000)(B:Io x.2.2.2.2.2.2.1<=1000)(C:Io x.2.2.2.2.2.2.2.1<=1000)(t:Io x.2.2.2.2.2.2.2.2.2.1<=1000)(u:Io x.2.2.2.2.2.2.2.2.2.2.1<=1000):
  eS x=Q3↔x.2.1=[]/\x.2.2.1=[]/\x.2.2.2.2.2.1=[]/\x.2.2.2.2.2.2.2.2.2.2.2.2=[]/\x.2.2.2.1=[]/\x.2.2.2.2.1=[]/\x.2.2.2.2.2.2.1=[]/\x.2.2.2.2.2.2.2.1=[]/\x.2.2.2.2.2.2.2.2.2.1=[]/\x.2.2.2.2.2.2.2.2.2.2.1=[]/\x.2.2.2.2.2.2.2.2.1=ez/\x.2.2.2.2.2.2.2.2.2.2.2.1=ez:=by
 unfold eS
 have v:(Γ Δ (Γ Δ (Γ Δ (Γ Δ (Γ Δ ((↑(Io x.2.2.2.1):Int)+(↑(Io x.2.2.2.2.1):Int))+(↑(Io x.2.2.2.2.2.2.1):Int))+(↑(Io x.2.2.2.2.2.2.2.1):Int))+(↑(Io x.2.2.2.2.2.2.2.2.2.1):Int))+(↑(Io x.2.2.2.2.2.2.2.2.2.2.1):Int)))=
   ((Io x.2.2.2.1+Io x.2.2.2.2.1+Io x.2.2.2.2.2.2.1+Io x.2.2.2.2.2.2.2.1+Io x.2.2.2.2.2.2.2.2.2.1+Io x.2.2.2.2.2.2.2.2.2.2.1:Nat):Int):=by
  have g:∀n:Nat,n<=10000->Γ Δ (n:Int)=(n:Int):=λn D=>zaq n (by omega)
  rw[<-pQ,g _ (by omega),<-pQ,g _ (by omega),<-pQ,g _ (by omega),<-pQ,g _ (by omega),<-pQ,g _ (by omega)]
 rw[v];constructor
 .intro h;obtain⟨k,h⟩:=cK h;obtain⟨l,h⟩:=cK h;obtain⟨w,y⟩:=cK h;simp only[bd,List.append_eq_nil_iff]at k;obtain⟨⟨⟨a,e⟩,i⟩,j⟩:=k;have l:Io x.2.2.2.1+Io x.2.2.2.2.1+Io x.2.2.2.2.2.2.1+Io x.2.2.2.2.2.2.2.1+Io x.2.2.2.2.2.2.2.2.2.1+Io x.2.2.2.2.2.2.2.2.2.2.1=0:=by
   have:=bF l;exact Int.ofNat.inj this
  refine⟨a,e,i,j,?_,?_,?_,?_,?_,?_,kS.1 w,kS.1 y⟩<;>exact AG (by omega)
 .rintro⟨a,e,i,j,m,o,p,q,s,b,c,d⟩;rw[a,e,i,j,m,o,p,q,s,b,c,d,show im ez=Q3 from rfl];rfl
theorem Z1(s:zN):eG s=(fE s&&((cut (iV s)).2==0)):=by
 unfold eG qJ;cases fE s
 .rfl
 .show((ite (((cut (iV s)).2!=0)=Q3) (([],1):Sem Q6×zq) (iV s,0)).2==0)=_;cases h:((cut (iV s)).2==0)
  .have:((cut (iV s)).2!=0)=Q3:=by simp only[bne,h];rfl
   rw[ze this];rfl
  .have:((cut (iV s)).2!=0)=Q4:=by simp only[bne,h];rfl
   rw[this];rfl
theorem YB(s:zH):cv s=zU s:=rfl
theorem HE(h:wN s)(e:eR s=Q1 (w,b,x,()))(C:Io w<=900000)(o:BN b):
  ∃t,o9 s=Q1 (t,(x&&(zU s.2.1&&(fC b s&&((cut w).2==(0:Int))))),()):=by
 have D:=h.sh.table;have k:vZ s=Q3:=by unfold vZ;rw[e];rfl
 have l:By s=(w,b,x):=by unfold By;rw[e];rfl
 obtain⟨z,_⟩:=r9 (b:=s) o;have v:=ct (s:=s.2.1) ow;have y:=fq (s:=s.2.1) ow;have p:=Zy (s:=w) ow;have u:=zdO (s:=w) ow;have m:vZ (s.1,s.2.1,s.2.2.1,s.2.2.2.1,s.t.1,s.t.2.1,s.t.q.1,s.t.q.2.1,s.t.t.1,s.t.t.2.1,s.t.t.q.1,s.t.t.q.2.1,s.t.t.t)=Q3:=k;have n:By (s.1,s.2.1,s.2.2.1,s.2.2.2.1,s.t.1,s.t.2.1,s.t.q.1,s.t.q.2.1,s.t.t.1,s.t.t.2.1,s.t.t.q.1,s.t.t.q.2.1,s.t.t.t)=(w,b,x):=l;have A:Bv (b.1,b.2.1,b.2.2.1,b.2.2.2.1,b.t.1,b.t.2.1,b.t.q.1,b.t.q.2.1,b.t.t.1,b.t.t.2.1,b.t.t.q.1,b.t.t.q.2.1,b.t.t.t) (s.1,s.2.1,s.2.2.1,s.2.2.2.1,s.t.1,s.t.2.1,s.t.q.1,s.t.q.2.1,s.t.t.1,s.t.t.2.1,s.t.t.q.1,s.t.t.q.2.1,s.t.t.t)=Q3:=z;have B:fC (b.1,b.2.1,b.2.2.1,b.2.2.2.1,b.t.1,b.t.2.1,b.t.q.1,b.t.q.2.1,b.t.t.1,b.t.t.2.1,b.t.t.q.1,b.t.t.q.2.1,b.t.t.t) (s.1,s.2.1,s.2.2.1,s.2.2.2.1,s.t.1,s.t.2.1,s.t.q.1,s.t.q.2.1,s.t.t.1,s.t.t.2.1,s.t.t.q.1,s.t.t.q.2.1,s.t.t.t)=fC b s:=rfl;have d:∃t a,(zkD s).val=Q1 (.inr (.tup [.str t,a],[]))/\(a=.kb Q3/\(x&&(zU s.2.1&&(fC b s&&((cut w).2==(0:Int)))))=Q3\/(a=.kb Q4/\(x&&(zU s.2.1&&(fC b s&&((cut w).2==(0:Int)))))=Q4)):=by
  simp only[zkD,Q8,zn,m,n,A,B,v,y,p,u,zh];generalize fC b s=g;generalize zU s.2.1=i;generalize((cut w).2==(0:Int))=j;cases x<;>cases i<;>cases g<;>cases j<;>first|exact⟨_,_,rfl,.inl ⟨rfl,rfl⟩⟩|exact⟨_,_,rfl,.inr ⟨rfl,rfl⟩⟩
 obtain⟨t,a,d,c⟩:=d;refine⟨t,zP d ?_⟩;rcases c with⟨rfl,c⟩|⟨rfl,c⟩<;>rw[c]<;>rfl
theorem PM(h:wN s):∃t b,o9 s=Q1 (t,b,()):=by obtain⟨t,o,g,x,a,c⟩:=PP h;obtain⟨e,d⟩:=HE h x a c;exact⟨e,_,d⟩
theorem Se(h:wN s)(o:s.1=[99,111,112,121]):fE s=(lE s&&(zU s.2.1&&fC (s.1,s.2.1,s.2.2.1,s.2.2.2.1,[],[],[],[],s.2.2.2.2.2.2.2.2.1,[],[],ez,[]) s)):=by
 have X:=h.sh.names.1;have z:=h.sh.cols.1;have B:=h.sh.uniques.1;have C:=h.sh.refs.1;have E:=h.sh.row;have D:=h.sh.sets.1;obtain⟨F,G,H,I,J,L,M,N,O,P,p⟩:=zdD o;obtain⟨_,A⟩:=eT (s:=s) (g:=_) (b:=_) (by simp only[vi,Q8,F,G,H,I,J,L,M,N,O,P,p,zh,zm,zE,zn];exact rfl);obtain⟨_,c⟩:=r9 (a:=(s.1,s.2.1,s.2.2.1,s.2.2.2.1,[],[],[],[],s.2.2.2.2.2.2.2.2.1,[],[],ez,[])) (b:=s) (fS h (.inl rfl) (.inr rfl) (.inr rfl) (.inr rfl) (.inl rfl) (.inr rfl) (.inr rfl) (.inr rfl));have i:=jA (x:=(s.1,[],[],[],s.2.2.2.2.1,s.2.2.2.2.2.1,s.2.2.2.2.2.2.1,s.2.2.2.2.2.2.2.1,ez,s.2.2.2.2.2.2.2.2.2.1,s.2.2.2.2.2.2.2.2.2.2.1,s.2.2.2.2.2.2.2.2.2.2.2.1,s.2.2.2.2.2.2.2.2.2.2.2.2)) (by simp) (by simpa using aT z (by omega)) (by simpa using aT B (by omega)) (by simpa using aT C (by omega)) (by simpa using aT E (by omega)) (by simpa using aT D (by omega));have e:eH (s.1,[],[],[],s.2.2.2.2.1,s.2.2.2.2.2.1,s.2.2.2.2.2.2.1,s.2.2.2.2.2.2.2.1,ez,s.2.2.2.2.2.2.2.2.2.1,s.2.2.2.2.2.2.2.2.2.2.1,s.2.2.2.2.2.2.2.2.2.2.2.1,s.2.2.2.2.2.2.2.2.2.2.2.2)=Q3:=gA (by simp) (by simp) (by have:=h.sh.key;simpa using this) (by have:=h.sh.role;simpa using this);rw[A];apply gU.2;have d:fC (s.1,s.2.1,s.2.2.1,s.2.2.2.1,[],[],[],[],s.2.2.2.2.2.2.2.2.1,[],[],ez,[]) s=Q3↔eS (s.1,[],[],[],s.2.2.2.2.1,s.2.2.2.2.2.1,s.2.2.2.2.2.2.1,s.2.2.2.2.2.2.2.1,ez,s.2.2.2.2.2.2.2.2.2.1,s.2.2.2.2.2.2.2.2.2.2.1,s.2.2.2.2.2.2.2.2.2.2.2.1,s.2.2.2.2.2.2.2.2.2.2.2.2)=Q3:=by
  rw[c,i];obtain⟨Y,Z,s3,s4,s5,s6,s7,s8,s9,S,T,U,W⟩:=s;simp only[cd,true_and];constructor
  .intro k;simp_all
  .intro k;simp_all
 have j:=tS (λx=>!cv x) s.2.2.2.1 0;have m:(!Q0 (ac (λx=>!cv x) s.2.2.2.1 0>=0))=Q0 (∀x∈s.2.2.2.1,zU x=Q3):=by
  apply gU.2;rw[j,decide_eq_true_iff];exact⟨λk x n=>by have:=k x n;simpa[YB]using this,λk x n=>by have:=k x n;simpa[YB]using this⟩
 have l:(cond (Q0 ((↑(Io s.2.2.2.1):Int)<1)) Q3 (Q0 ((↑(Io s.2.2.2.1):Int)>8)))=!(Q0 (1<=Io s.2.2.2.1)&&Q0 (Io s.2.2.2.1<=8)):=by
  by_cases a:1<=Io s.2.2.2.1
  .rw[z7 (show¬(↑(Io s.2.2.2.1):Int)<1 by omega),zy a];by_cases b:Io s.2.2.2.1<=8
   .rw[z7 (show¬(↑(Io s.2.2.2.1):Int)>8 by omega),zy b];rfl
   .rw[zy (show(↑(Io s.2.2.2.1):Int)>8 by omega),z7 b];rfl
  .rw[zy (show(↑(Io s.2.2.2.1):Int)<1 by omega),z7 a];rfl
 rw[m,l,e];unfold lE;rw[show cv s.2.1=zU s.2.1 from rfl,show cv s.2.2.1=zU s.2.2.1 from rfl];rw[gU.2 d];generalize eS _=q;generalize ci s.2.2.2.2.2.2.2.2.1=t;generalize zU s.2.1=u;generalize zU s.2.2.1=v;generalize Q0 (∀x∈s.2.2.2.1,zU x=Q3)=w;generalize(Q0 (1<=Io s.2.2.2.1)&&Q0 (Io s.2.2.2.1<=8))=y;cases q<;>cases t<;>cases u<;>cases v<;>cases w<;>cases y<;>simp
theorem Sf(h:wN s)(o:s.1=gm):fE s=(oO s&&(zU s.2.1&&fC (s.1,s.2.1,s.2.2.1,[],[],s.t.2.1,[],[],s.t.t.1,[],[],ez,s.t.t.t) s)):=by
 have z:=h.sh.names.1;have y:=h.sh.cols.1;have B:=h.sh.uniques.1;have C:=h.sh.refs.1;have E:=h.sh.row;have D:=h.sh.sets.1;obtain⟨F,G,H,I,J,L,M,N,O,P,p,j⟩:=zdE o;obtain⟨_,A⟩:=eT (s:=s) (g:=_) (b:=_) (by simp only[vi,Q8,F,G,H,I,J,L,M,N,O,P,p,j,zh,zm,zE,zn];exact rfl);obtain⟨_,c⟩:=r9 (a:=(s.1,s.2.1,s.2.2.1,[],[],s.t.2.1,[],[],s.t.t.1,[],[],ez,s.t.t.t)) (b:=s) (fS h (.inr rfl) (.inr rfl) (.inr rfl) (.inr rfl) (.inl rfl) (.inr rfl) (.inr rfl) (.inr rfl));have i:=jA (x:=(s.1,[],[],s.2.2.2.1,s.t.1,[],s.t.q.1,s.t.q.2.1,ez,s.t.t.2.1,s.t.t.q.1,s.t.t.q.2.1,[])) (by simpa using aT z ow) (by simpa using aT y ow) (by simpa using aT B ow) (by simpa using aT C ow) (by simpa using aT E ow) (by simpa using aT D ow);have e:eH (s.1,[],[],s.2.2.2.1,s.t.1,[],s.t.q.1,s.t.q.2.1,ez,s.t.t.2.1,s.t.t.q.1,s.t.t.q.2.1,[])=Q3:=gA sw sw sw sw;rw[A];apply gU.2;have d:fC (s.1,s.2.1,s.2.2.1,[],[],s.t.2.1,[],[],s.t.t.1,[],[],ez,s.t.t.t) s=Q3↔eS (s.1,[],[],s.2.2.2.1,s.t.1,[],s.t.q.1,s.t.q.2.1,ez,s.t.t.2.1,s.t.t.q.1,s.t.t.q.2.1,[])=Q3:=by
  rw[c,i];obtain⟨X,Y,Z,s4,s5,s6,s7,s8,s9,S,T,U,W⟩:=s;simp only[cd,true_and];constructor
  .intro k;simp_all
  .intro k;simp_all
 rw[e];unfold oO;rw[show cv s.2.1=zU s.2.1 from rfl,show cv s.2.2.1=zU s.2.2.1 from rfl,show cv s.t.2.1=zU s.t.2.1 from rfl,show cv s.t.t.t=zU s.t.t.t from rfl];rw[gU.2 d];generalize eS _=l;generalize ci s.t.t.1=m;generalize zU s.2.1=n;generalize zU s.2.2.1=u;generalize zU s.t.2.1=v;generalize zU s.t.t.t=w;cases l<;>cases m<;>cases n<;>cases u<;>cases v<;>cases w<;>simp
theorem MI(h:wN s)(o:s.1=[103,114,111,117,112]):fE s=(g8 s&&(zU s.2.1&&fC (s.1,s.2.1,s.2.2.1,s.2.2.2.1,[],[],[],[],s.2.2.2.2.2.2.2.2.1,[],[],ez,[]) s)):=by
 have hn:=h.sh.names.1;have D:=h.sh.cols.1;have F:=h.sh.uniques.1;have G:=h.sh.refs.1;have I:=h.sh.row;have H:=h.sh.sets.1;obtain⟨J,L,M,N,O,P,S,T,U,W,p,n,q⟩:=Y1 o;obtain⟨_,E⟩:=eT (s:=s) (g:=_) (b:=_) (by simp only[vi,Q8,J,L,M,N,O,P,S,T,U,W,p,n,q,zh,zm,zE,zn];exact rfl);obtain⟨_,c⟩:=r9 (a:=(s.1,s.2.1,s.2.2.1,s.2.2.2.1,[],[],[],[],s.2.2.2.2.2.2.2.2.1,[],[],ez,[])) (b:=s) (fS h (.inl rfl) (.inr rfl) (.inr rfl) (.inr rfl) (.inl rfl) (.inr rfl) (.inr rfl) (.inr rfl));have i:=jA (x:=(s.1,[],[],[],s.2.2.2.2.1,s.2.2.2.2.2.1,s.2.2.2.2.2.2.1,s.2.2.2.2.2.2.2.1,ez,s.2.2.2.2.2.2.2.2.2.1,s.2.2.2.2.2.2.2.2.2.2.1,s.2.2.2.2.2.2.2.2.2.2.2.1,s.2.2.2.2.2.2.2.2.2.2.2.2)) (by simp) (by simpa using aT D (by omega)) (by simpa using aT F (by omega)) (by simpa using aT G (by omega)) (by simpa using aT I (by omega)) (by simpa using aT H (by omega));have e:eH (s.1,[],[],[],s.2.2.2.2.1,s.2.2.2.2.2.1,s.2.2.2.2.2.2.1,s.2.2.2.2.2.2.2.1,ez,s.2.2.2.2.2.2.2.2.2.1,s.2.2.2.2.2.2.2.2.2.2.1,s.2.2.2.2.2.2.2.2.2.2.2.1,s.2.2.2.2.2.2.2.2.2.2.2.2)=Q3:=gA (by simp) (by simp) (by have:=h.sh.key;simpa using this) (by have:=h.sh.role;simpa using this);rw[E];apply gU.2;have d:fC (s.1,s.2.1,s.2.2.1,s.2.2.2.1,[],[],[],[],s.2.2.2.2.2.2.2.2.1,[],[],ez,[]) s=Q3↔eS (s.1,[],[],[],s.2.2.2.2.1,s.2.2.2.2.2.1,s.2.2.2.2.2.2.1,s.2.2.2.2.2.2.2.1,ez,s.2.2.2.2.2.2.2.2.2.1,s.2.2.2.2.2.2.2.2.2.2.1,s.2.2.2.2.2.2.2.2.2.2.2.1,s.2.2.2.2.2.2.2.2.2.2.2.2)=Q3:=by
  rw[c,i];obtain⟨X,s2,s3,t,s5,s6,s7,s8,s9,Y,Z,h0,h1⟩:=s;simp only[cd,true_and];constructor
  .intro k;simp_all
  .intro k;simp_all
 have j:=tS (λx=>!cv x) s.2.2.2.1 0;have l:(cond (cond (Q0 ((↑(Io s.2.2.2.1):Int)<2)) Q3 (Q0 ((↑(Io s.2.2.2.1):Int)>2))) Q4 (cond (!Q0 (ac (λx=>!cv x) s.2.2.2.1 0>=0)) (ci s.2.2.2.2.2.2.2.2.1) Q4))=(Q0 (Io s.2.2.2.1=2)&&(ci s.2.2.2.2.2.2.2.2.1&&(zU (s.2.2.2.1.getD 0 [])&&zU (s.2.2.2.1.getD 1 [])))):=by
  by_cases a:Io s.2.2.2.1=2
  .rw[z7 (show¬(↑(Io s.2.2.2.1):Int)<2 by omega),z7 (show¬(↑(Io s.2.2.2.1):Int)>2 by omega),zy a];have m:(!Q0 (ac (λx=>!cv x) s.2.2.2.1 0>=0))=(zU (s.2.2.2.1.getD 0 [])&&zU (s.2.2.2.1.getD 1 [])):=by
    apply gU.2;rw[j,aE];obtain⟨X,s2,s3,t,s5⟩:=s
    match t,a with
    |[x,y],_=>simp[YB]
   rw[m];cases ci s.2.2.2.2.2.2.2.2.1<;>cases zU (s.2.2.2.1.getD 0 [])<;>cases zU (s.2.2.2.1.getD 1 [])<;>rfl
  .rw[z7 a];by_cases b:(↑(Io s.2.2.2.1):Int)<2
   .rw[zy b];rfl
   .rw[z7 b,zy (show(↑(Io s.2.2.2.1):Int)>2 by omega)];rfl
 rw[l,e];unfold g8;rw[show cv s.2.1=zU s.2.1 from rfl,show cv s.2.2.1=zU s.2.2.1 from rfl];rw[gU.2 d];generalize eS _=u;generalize ci s.2.2.2.2.2.2.2.2.1=v;generalize zU s.2.1=w;generalize zU s.2.2.1=z;generalize zU (s.2.2.2.1.getD 0 [])=A;generalize zU (s.2.2.2.1.getD 1 [])=B;generalize Q0 (Io s.2.2.2.1=2)=C;cases u<;>cases v<;>cases w<;>cases z<;>cases A<;>cases B<;>cases C<;>simp
theorem sX(p:ar):my p=Q1 (bK p.2.1 p.2.2.1,()):=by
 unfold bK;by_cases h:(p.2.2.1==[])=Q3
 .rw[ze h];refine zP (r:=(.vec 0,[.vec Q6 [p.2.1]])) ?_ rfl;simp only[zkx,Q8,h];rfl
 .rw[zg h];have h:(p.2.2.1==[])=Q4:=by simpa using h
  refine zP (r:=(.vec 0,[.vec Q6 ([p.2.1]++[p.2.2.1])])) ?_ rfl;simp only[zkx,Q8,h];rfl
theorem sW(p:ar):jU p=Q3:=by unfold jU;rw[sX];rfl
theorem vE(p:ar):lH p=bK p.2.1 p.2.2.1:=by unfold lH;rw[sX];rfl
theorem Ao(x:zH):∀(l:List zH)(i:Nat),GE.ge (α:=Int) (iK x l (i:Int)) 0↔x∈l
 | [],i=>by
  rw[iK];exact⟨λh=>zC h (by decide),λh=>by cases h⟩
 | a::r,i=>by
  rw[iK];split
  .rename_i h;have:x=a:=by simpa using h
   subst this;exact⟨λ_=>ln,λ_=>Int.natCast_nonneg i⟩
  next h=>have:=Ao x r (i+1);rw[pQ]at this;rw[b8];refine⟨λb=>.inr (this.1 b),λb=>this.2 (b.resolve_left ?_)⟩;rintro rfl;simp at h
theorem lB(l:List zH)(x:zH):aG l x=Q3↔x∈l:=by unfold aG;rw[decide_eq_true_iff];exact Ao x l 0
theorem JE{s:zH}(o:Io l<=1000000):Au l s=Q3/\M8 l s=aG l s:=by
 have a:Sr l s=Q1 (aG l s,()):=by
  rcases mF (t:=Qm) (Φ:=λr=>r=(.kb Q3,[])) 1 (λi=>.h2 l s (i:Int)) (λi=>∀h:i<Io l,l[i]≠s) (Io l) (λi x _=>by
   have n:(Qm (.h2 l s (i:Int))).val=if(l[i]==s)=Q3 then Q1 (.inr (.kb Q3,[]))else Q1 (.inl (.h2 l s ((i+1:Nat):Int))):=by
    show(Qm (.h2 _ _ _)).val=_;simp only[Qm,Q8,zX _ _ x,zI x,zx x,zh];rw[zu i um]
   by_cases h:l[i]=s
   .exact .inr ⟨λk=>k x h,_,zY.of (by rw[n,ze (by simpa using h)]),rfl⟩
   .exact .inl ⟨λ_=>h,zJ.of (by rw[n,zg (by simpa using h)])⟩)with⟨b,c⟩|⟨b,r,c,rfl⟩
  .have g:aG l s=Q4:=by
    rw[<-gT,lB];intro d;obtain⟨j,m,e⟩:=fP d;exact b j m m e
   rw[g];refine zA (s:=.h2 l s 0) rfl (c.ends (zY.of (r:=(.kb Q4,[])) ?_)) ow rfl;show(Qm (.h2 _ _ _)).val=_;simp only[Qm,Q8,zG];rfl
  .have g:aG l s=Q3:=by
    rw[lB];apply th;intro d;exact b λi _ x e=>d (e▸bp x)
   rw[g];exact zA (s:=.h2 l s 0) rfl c ow rfl
 exact⟨by unfold Au;rw[a];rfl,by unfold M8;rw[a];rfl⟩
theorem Am{α:Type}(p:α->Bool):∀(l:List α)(i:Nat),(!Q0 (ac p l i>=0))=Q3↔∀x∈l,p x=Q4
 | [],i=>by
  refine⟨λ_ x a=>(by cases a),λ_=>?_⟩;rw[ac];rfl
 | y::r,i=>by
  refine⟨λh=>qm p _ i h,λh=>?_⟩;rw[ac,h y sw];exact(Am p r (i+1)).2 λx a=>h x (by simp[a])
theorem xI(p:α->Bool)(l:List α):Q0 (GE.ge (α:=Int) (ac p l 0) 0)=Q3↔∃x∈l,p x=Q3:=by
 have h:=Am p l 0;constructor
 .intro a;apply th;intro d;have:=h.2 λx c=>by
   cases b:p x
   .rfl
   .exact zC ⟨x,c,b⟩ d
  rw[a]at this;cases this
 .rintro⟨x,c,b⟩;cases a:Q0 (GE.ge (α:=Int) (ac p l 0) 0)
  .have:=h.1 (by rw[a];rfl) x c;rw[b]at this;cases this
  .rfl
theorem Ja{d:zR}{n:List zH}(I:Io d<=1000)(H:∀x∈d,(x:am).1.t.1.length<=1000)(v:Io n<=1000000):oR d n=Q1 (ek d n,()):=by
 have q:∀i(e:i<Io d),(¬(!aG n d[i].1.1&&Q0 (GE.ge (α:=Int) (ac (λf:bW=>aG n f.2) d[i].1.t.1 0) 0))=Q3/\zJ qN 1002 (.h2 d n (i:Int)) (.h2 d n ((i+1:Nat):Int)))\/
   ((!aG n d[i].1.1&&Q0 (GE.ge (α:=Int) (ac (λf:bW=>aG n f.2) d[i].1.t.1 0) 0))=Q3/\zY qN 1002 (.h2 d n (i:Int)) (.kb Q3,[])):=by
  intro i e;have w:=H _ (bp e);have g:d.getD (i:Int).toNat (zi zk)=d[i]:=zX _ _ e;have u:zJ qN 1 (.h2 d n (i:Int)) (.h5 d n (i:Int) ((0:Nat):Int)):=zJ.of (by
   show(qN (.h2 _ _ _)).val=_;simp only[qN,Q8,zI e,zh];rfl)
  obtain⟨A,B⟩:=JE (l:=n) (s:=d[i].1.1) v;have F:(qN (.h5 d n (i:Int) (d[i].1.t.1.length:Int))).val=Q1 (.inl (.h2 d n ((i+1:Nat):Int))):=by
   show(qN (.h5 _ _ _ _)).val=_;simp only[qN,Q8,g,zG,zx e,zh];rw[zu i um];rfl
  rcases mF (t:=qN) (Φ:=λr=>r=(.kb Q3,[])) 1 (λj=>.h5 d n (i:Int) (j:Int)) (λj=>∀h:j<d[i].1.t.1.length,¬(!aG n d[i].1.1&&aG n (d[i].1.t.1[j]).2)=Q3) d[i].1.t.1.length (λj a _=>by
   have E:getD d[i].1.t.1 (j:Int).toNat (zi zB)=d[i].1.t.1[j]:=zX _ _ a;obtain⟨C,D⟩:=JE (l:=n) (s:=(d[i].1.t.1[j]).2) v;have m:(qN (.h5 d n (i:Int) (j:Int))).val=if(!aG n d[i].1.1&&aG n (d[i].1.t.1[j]).2)=Q3 then Q1 (.inr (.kb Q3,[]))else Q1 (.inl (.h5 d n (i:Int) ((j+1:Nat):Int))):=by
    show(qN (.h5 _ _ _ _)).val=_;simp only[qN,Q8,g,E,zI a,zx e,zx a,A,B,C,D,zh,ee];rw[zu j um];cases aG n d[i].1.1<;>cases aG n (d[i].1.t.1[j]).2<;>rfl
   by_cases h:(!aG n d[i].1.1&&aG n (d[i].1.t.1[j]).2)=Q3
   .exact .inr ⟨λk=>k a h,_,zY.of (by rw[m,ze h]),rfl⟩
   .exact .inl ⟨λ_=>h,zJ.of (by rw[m,zg h])⟩)with⟨b,c⟩|⟨b,r,c,rfl⟩
  .refine .inl ⟨?_,((u.trans c).trans (zJ.of F)).mono ow⟩;intro h;simp only[aE,xI]at h;obtain⟨y,f,G,z⟩:=h;obtain⟨j,a,rfl⟩:=fP G;exact b j a a (by rw[y,z];rfl)
  .refine .inr ⟨?_,(u.ends c).mono ow⟩;apply th;intro h;refine b λj _ a p=>h ?_
   simp only[aE]at p;simp only[aE,xI];exact⟨p.1,_,bp a,p.2⟩
 rcases mF (t:=qN) (Φ:=λr=>r=(.kb Q3,[])) 1002 (λi=>.h2 d n (i:Int)) (λi=>∀h:i<Io d,¬(!aG n d[i].1.1&&Q0 (GE.ge (α:=Int) (ac (λf:bW=>aG n f.2) d[i].1.t.1 0) 0))=Q3) (Io d) (λi e _=>by
  rcases q i e with⟨b,c⟩|⟨b,c⟩
  .exact .inl ⟨λ_=>b,c⟩
  .exact .inr ⟨λk=>k e b,_,c,rfl⟩)with⟨b,c⟩|⟨b,r,c,rfl⟩
 .have o:ek d n=Q4:=by
   unfold ek;rw[List.any_eq_false];intro x w;obtain⟨j,a,rfl⟩:=fP w;exact b j a a
  rw[o];have m:(qN (.h2 d n (Io d:Int))).val=Q1 (.inr (.kb Q4,[])):=by
   show(qN (.h2 _ _ _)).val=_;simp only[qN,Q8,zG];rfl
  exact zA (s:=.h2 d n 0) rfl (c.ends (zY.of m)) ow rfl
 .have o:ek d n=Q3:=by
   unfold ek;apply th;intro h;rw[gT,List.any_eq_false]at h;exact b λi _ e=>h _ (bp e)
  rw[o];exact zA (s:=.h2 d n 0) rfl c ow rfl
theorem ML{db:zR}{ns:List zH}(a:Io db<=1000)(c:∀x∈db,(x:am).1.t.1.length<=1000)(b:Io ns<=1000000):tX db ns=Q3/\xV db ns=ek db ns:=by have h:=Ja a c b;exact⟨by unfold tX;rw[h];rfl,by unfold xV;rw[h];rfl⟩
end Cad
