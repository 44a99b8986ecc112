/- Bases that may be. -/
import Derived.Test.YtjdjldbhjmgmkaaGreatDoorS16
import Derived.Maps.RangeWalk
import Derived.LoopTactic
import Derived.Shelf.SlSortCmp.NoneTotal
namespace Cad
open Go Go.Proofs
open List renaming length→Io
open IntKind renaming wrap→Γ,i64→Δ
open Tr renaming chk→Qc,«to»→Q9,val→Q8
open AV renaming nils→Qb
open AO renaming box→Qa
open Sh renaming str→Q6,expr→Q5
open Bool renaming false→Q4,true→Q3
open Option renaming some→Q1
open Decidable renaming decide→Q0
open Int (toNat)
open List (getD)
open Tr (chk br re)
open AV (nils agg tup ptr kb str sl)
noncomputable section
set_option maxHeartbeats 4000000
abbrev aF(db:zR)(s:zH):am:=getD db (toNat (ae db s)) (zi zk)
def FM(d:zR):Prop:=∀x∈d,∀f∈x.1.t.1,LE.le (α:=Int) 0 (ae d f.2)/\∀h∈x.2,(zS f.1 h).1≠0->f5 (aF d f.2) (aF d f.2).1.2.2.1 (zS f.1 h)=Q3
def IsF(r:au):Prop:=r=(.kb Q4,[])
variable {db:zR}{i:Nat}
theorem zb1{x:am}{f:bW}{k:Nat}(m:LE.le (α:=Int) 0 (ae db f.2))(l:∀g∈x.2,zK f.1 (Io g)=Q3)(n:Io x.2<=1000):
  ((∀j,j<Io x.2->(zS f.1 (getD x.2 j (zi zf.sl))).1≠0->f5 (aF db f.2) (aF db f.2).1.2.2.1 (zS f.1 (getD x.2 j (zi zf.sl)))=Q3)/\
   zJ gZ (Io x.2*1) (.h11 db (ae db f.2) db (Io db:Int) (i:Int) x.1.t.1 (Io x.1.t.1:Int) (k:Int) x.2 (Io x.2:Int) ((0:Nat):Int) (x,()) (f,()))
    (.h11 db (ae db f.2) db (Io db:Int) (i:Int) x.1.t.1 (Io x.1.t.1:Int) (k:Int) x.2 (Io x.2:Int) (Io x.2:Int) (x,()) (f,())))\/
  ((¬∀j,j<Io x.2->(zS f.1 (getD x.2 j (zi zf.sl))).1≠0->f5 (aF db f.2) (aF db f.2).1.2.2.1 (zS f.1 (getD x.2 j (zi zf.sl)))=Q3)/\
   ∃r,zY gZ (Io x.2*1) (.h11 db (ae db f.2) db (Io db:Int) (i:Int) x.1.t.1 (Io x.1.t.1:Int) (k:Int) x.2 (Io x.2:Int) ((0:Nat):Int) (x,()) (f,())) r/\IsF r):=by
 refine mF (t:=gZ) (Φ:=IsF) 1 (λj=>.h11 db (ae db f.2) db (Io db:Int) (i:Int) x.1.t.1 (Io x.1.t.1:Int) (k:Int) x.2 (Io x.2:Int) (j:Int) (x,()) (f,())) (λj=>(zS f.1 (getD x.2 j (zi zf.sl))).1≠0->f5 (aF db f.2) (aF db f.2).1.2.2.1 (zS f.1 (getD x.2 j (zi zf.sl)))=Q3) (Io x.2) ?_;intro j d _
 have e:(gZ (.h11 db (ae db f.2) db (Io db:Int) (i:Int) x.1.t.1 (Io x.1.t.1:Int) (k:Int) x.2 (Io x.2:Int) (j:Int) (x,()) (f,()))).val=
   if(cond ((zS f.1 (getD x.2 j (zi zf.sl))).1!=0) (!f5 (aF db f.2) (aF db f.2).1.2.2.1 (zS f.1 (getD x.2 j (zi zf.sl)))) Q4)=Q3 then Q1 (.inr (.kb Q4,[]))else
   Q1 (.inl (.h11 db (ae db f.2) db (Io db:Int) (i:Int) x.1.t.1 (Io x.1.t.1:Int) (k:Int) x.2 (Io x.2:Int) ((j+1:Nat):Int) (x,()) (f,()))):=by
  show(gZ (.h11 _ _ _ _ _ _ _ _ _ _ _ _ _)).val=_;unfold gZ;simp only[zn,Q8,zI d,zx d,l _ (ch d),dV m,aJ,zh,pT];rw[ze (by cases((getD (getD x.2 j (zi zf.sl)) (toNat f.1) (zi zf)).1!=0)<;>rfl)];rw[zu j um]
 by_cases b:(zS f.1 (getD x.2 j (zi zf.sl))).1=0
 .exact .inl ⟨λh=>zC b h,zJ.of (by rw[e,zg (by rw[b];simp)])⟩
 .have a:((zS f.1 (getD x.2 j (zi zf.sl))).1!=0)=Q3:=by simpa using b
  by_cases c:f5 (aF db f.2) (aF db f.2).1.2.2.1 (zS f.1 (getD x.2 j (zi zf.sl)))=Q3
  .exact .inl ⟨λ_=>c,zJ.of (by rw[e,zg (by rw[c,a];simp)])⟩
  .exact .inr ⟨λh=>c (h b),_,zY.of (by rw[e,ze (by rw[a];simpa using c)]),rfl⟩
theorem zjx{db:zR}{x:am}{i:Nat}(n:∀f∈x.1.t.1,∀a∈x.2,zK f.1 (Io a)=Q3)(o:Io x.2<=1000)(p:Io x.1.t.1<=1000):
  let P:Nat->Prop:=λk=>LE.le (α:=Int) 0 (ae db (getD x.1.t.1 k (zi zB)).2)/\∀a∈x.2,(zS (getD x.1.t.1 k (zi zB)).1 a).1≠0->f5 (aF db (getD x.1.t.1 k (zi zB)).2) (aF db (getD x.1.t.1 k (zi zB)).2).1.2.2.1 (zS (getD x.1.t.1 k (zi zB)).1 a)=Q3
  ((∀k,k<Io x.1.t.1->P k)/\zJ gZ (Io x.1.t.1*1002) (.h5 db db (Io db:Int) (i:Int) x.1.t.1 (Io x.1.t.1:Int) ((0:Nat):Int) (x,())) (.h5 db db (Io db:Int) (i:Int) x.1.t.1 (Io x.1.t.1:Int) (Io x.1.t.1:Int) (x,())))\/
  ((¬∀k,k<Io x.1.t.1->P k)/\∃r,zY gZ (Io x.1.t.1*1002) (.h5 db db (Io db:Int) (i:Int) x.1.t.1 (Io x.1.t.1:Int) ((0:Nat):Int) (x,())) r/\IsF r):=by
 intro P;refine mF (t:=gZ) (Φ:=IsF) 1002 (λk=>.h5 db db (Io db:Int) (i:Int) x.1.t.1 (Io x.1.t.1:Int) (k:Int) (x,())) P (Io x.1.t.1) ?_;intro k e _
 have l:(gZ (.h5 db db (Io db:Int) (i:Int) x.1.t.1 (Io x.1.t.1:Int) (k:Int) (x,()))).val=
   if Q0 (LT.lt (α:=Int) (ae db (getD x.1.t.1 k (zi zB)).2) 0)=Q3 then Q1 (.inr (.kb Q4,[]))else
   Q1 (.inl (.h11 db (ae db (getD x.1.t.1 k (zi zB)).2) db (Io db:Int) (i:Int) x.1.t.1 (Io x.1.t.1:Int) (k:Int) x.2 (Io x.2:Int) ((0:Nat):Int) (x,()) (getD x.1.t.1 k (zi zB),()))):=by
  show(gZ (.h5 _ _ _ _ _ _ _ _)).val=_;unfold gZ;simp only[Q8,zI e,zx e,aJ,zh];rfl
 by_cases b:LE.le (α:=Int) 0 (ae db (getD x.1.t.1 k (zi zB)).2)
 .have j:=zJ.of (t:=gZ) (s:=.h5 db db (Io db:Int) (i:Int) x.1.t.1 (Io x.1.t.1:Int) (k:Int) (x,())) (by rw[l,zg (by rw[aQ];omega)]);rcases zb1 (db:=db) (x:=x) (f:=getD x.1.t.1 k (zi zB)) (i:=i) (k:=k) b (n _ (ch e)) o with⟨c,d⟩|⟨c,r,d,m⟩
  .have g:(gZ (.h11 db (ae db (getD x.1.t.1 k (zi zB)).2) db (Io db:Int) (i:Int) x.1.t.1 (Io x.1.t.1:Int) (k:Int) x.2 (Io x.2:Int) (Io x.2:Int) (x,()) (getD x.1.t.1 k (zi zB),()))).val=
     Q1 (.inl (.h5 db db (Io db:Int) (i:Int) x.1.t.1 (Io x.1.t.1:Int) ((k+1:Nat):Int) (x,()))):=by
    show(gZ (.h11 _ _ _ _ _ _ _ _ _ _ _ _ _)).val=_;unfold gZ;simp only[Q8,zG];rw[zu k um];rfl
   refine .inl ⟨⟨b,?_⟩,((j.trans d).trans (zJ.of g)).mono ow⟩;exact(aD (Q:=λa=>(zS (getD x.1.t.1 k (zi zB)).1 a).1≠0->f5 (aF db (getD x.1.t.1 k (zi zB)).2) (aF db (getD x.1.t.1 k (zi zB)).2).1.2.2.1 (zS (getD x.1.t.1 k (zi zB)).1 a)=Q3)).1 c
  .refine .inr ⟨λh=>c ?_,r,(j.ends d).mono ow,m⟩;exact(aD (Q:=λa=>(zS (getD x.1.t.1 k (zi zB)).1 a).1≠0->f5 (aF db (getD x.1.t.1 k (zi zB)).2) (aF db (getD x.1.t.1 k (zi zB)).2).1.2.2.1 (zS (getD x.1.t.1 k (zi zB)).1 a)=Q3)).2 h.2
 .exact .inr ⟨λh=>b h.1,_,(zY.of (by rw[l,ze (by rw[aQ];omega)])).mono ow,rfl⟩
theorem K1(p:∀x∈db,∀f∈x.1.t.1,∀a∈x.2,zK f.1 (Io a)=Q3)(q:∀x∈db,gL x)(w:Io db<=13):∃b,AY db=Q1 (b,())/\(b=Q3↔FM db):=by
 have c:=mF (t:=gZ) (Φ:=IsF) 1010000 (λi=>.h2 db db (Io db:Int) (i:Int)) (λi=>∀f∈(getD db i (zi zk)).1.t.1,LE.le (α:=Int) 0 (ae db f.2)/\∀a∈(getD db i (zi zk)).2,(zS f.1 a).1≠0->f5 (aF db f.2) (aF db f.2).1.2.2.1 (zS f.1 a)=Q3) (Io db) (by
  intro i g _;have o:=ch (d:=zi zk) g;have m:=q _ o;have u:=m.rf;have v:=m.rw;have s:(gZ (.h2 db db (Io db:Int) (i:Int))).val=Q1 (.inl (.h5 db db (Io db:Int) (i:Int) (getD db i (zi zk)).1.t.1 ((getD db i (zi zk)).1.t.1.length:Int) ((0:Nat):Int) (getD db i (zi zk),()))):=by
   show(gZ (.h2 _ _ _ _)).val=_;unfold gZ;simp only[Q8,zI g,zx g,aJ,zh];rfl
  have l:=zJ.of s;rcases zjx (db:=db) (x:=getD db i (zi zk)) (i:=i) (p _ o) v u with⟨c,e⟩|⟨c,r,e,j⟩
  .have k:(gZ (.h5 db db (Io db:Int) (i:Int) (getD db i (zi zk)).1.t.1 ((getD db i (zi zk)).1.t.1.length:Int) ((getD db i (zi zk)).1.t.1.length:Int) (getD db i (zi zk),()))).val=Q1 (.inl (.h2 db db (Io db:Int) ((i+1:Nat):Int))):=by
    show(gZ (.h5 _ _ _ _ _ _ _ _)).val=_;unfold gZ;simp only[Q8,zG];rw[zu i um];rfl
   refine .inl ⟨?_,((l.trans e).trans (zJ.of k)).mono ow⟩;exact(aD (Q:=λf:bW=>LE.le (α:=Int) 0 (ae db f.2)/\∀a∈(getD db i (zi zk)).2,(zS f.1 a).1≠0->f5 (aF db f.2) (aF db f.2).1.2.2.1 (zS f.1 a)=Q3)).1 c
  .refine .inr ⟨λh=>c ?_,r,(l.ends e).mono ow,j⟩;exact(aD (Q:=λf:bW=>LE.le (α:=Int) 0 (ae db f.2)/\∀a∈(getD db i (zi zk)).2,(zS f.1 a).1≠0->f5 (aF db f.2) (aF db f.2).1.2.2.1 (zS f.1 a)=Q3)).2 h)
 have n:(∀i,i<Io db->∀f∈(getD db i (zi zk)).1.t.1,LE.le (α:=Int) 0 (ae db f.2)/\∀a∈(getD db i (zi zk)).2,(zS f.1 a).1≠0->f5 (aF db f.2) (aF db f.2).1.2.2.1 (zS f.1 a)=Q3)↔FM db:=
  aD (Q:=λx:am=>∀f∈x.1.t.1,LE.le (α:=Int) 0 (ae db f.2)/\∀a∈x.2,(zS f.1 a).1≠0->f5 (aF db f.2) (aF db f.2).1.2.2.1 (zS f.1 a)=Q3)
 have g:(zrc db).val=Q1 (.inl (.h2 db db (Io db:Int) ((0:Nat):Int))):=rfl;rcases c with⟨c,e⟩|⟨c,r,e,j⟩
 .refine⟨Q3,zA g (e.ends (zY.of (r:=(.kb Q3,[])) ?_)) ow rfl,λ_=>n.1 c,λ_=>rfl⟩;show(gZ (.h2 _ _ _ _)).val=_;unfold gZ;simp only[Q8,zG];rfl
 .unfold IsF at j;subst j;exact⟨Q4,zA g e ow rfl,λh=>(by cases h),λh=>zC (n.2 h) c⟩
structure iA (db:zR):Prop where
 few:Io db<=12
 names:∀i,i<Io db-1->Op.bytesLess (getD db i (zi zk)).1.1 (getD db (i+1) (zi zk)).1.1=Q3
 rels:∀x∈db,ed x
 bound:FM db
theorem ed.cols{x:am}(h:ed x):∀f∈x.1.t.1,∀row∈x.2,zK f.1 (Io row)=Q3:=by intro f b row c;obtain⟨_,a,_,_,_⟩:=gq h.may;rw[Da (by simpa using h.fits row c)];exact oJ (a f b)
theorem yQ{a:zR}(C:∀x∈a,gL x):∃e:Int,uz a=Q1 (e,())/\(e=0↔iA a):=by
 by_cases D:Io a<=12
 case neg=>
  refine⟨13,?_,λh=>(by cases h),λh=>zC h.few D⟩;unfold uz an bY;simp only[zc5,Q8];rw[ze sg];rfl
 have g:(zc5 a).val=Q1 (.inl (.h4 a ((0+1:Nat):Int))):=by
  simp only[zc5,Q8];rw[zg sg];rfl
 have n:=mF (t:=ph) (Φ:=Err) 1 (λi=>.h4 a ((i+1:Nat):Int)) (λi=>Op.bytesLess (getD a i (zi zk)).1.1 (getD a (i+1) (zi zk)).1.1=Q3) (Io a-1) (by
  intro i g _;have E:i<Io a:=by omega
  have A:i+1<Io a:=by omega
  have s:(ph (.h4 a ((i+1:Nat):Int))).val=if(!Op.bytesLess (getD a i (zi zk)).1.1 (getD a (i+1) (zi zk)).1.1)=Q3 then Q1 (.inr (.int .i64 15,[]))else Q1 (.inl (.h4 a ((i+1+1:Nat):Int))):=by
   show(ph (.h4 _ _)).val=_;unfold ph;simp only[ma i um];simp only[Q8,zI A,zx A,zx E,aJ,zh];rw[zu (i+1) um]
  by_cases h:Op.bytesLess (getD a i (zi zk)).1.1 (getD a (i+1) (zi zk)).1.1=Q3
  .exact .inl ⟨h,zJ.of (by rw[s,zg (by rw[h];simp)])⟩
  .exact .inr ⟨h,_,zY.of (by rw[s,ze (by simpa using h)]),15,rfl,by decide⟩)
 rcases n with⟨y,n⟩|⟨y,r,n,e,m,j⟩
 case inr=>
  subst m;exact⟨e,zA g n ow rfl,λh=>zC h j,λh=>zC h.names y⟩
 have z:(ph (.h4 a ((Io a-1+1:Nat):Int))).val=Q1 (.inl (.h9 a a (Io a:Int) ((0:Nat):Int))):=by
  show(ph (.h4 _ _)).val=_;unfold ph;simp only[Q8];rw[zg sg];rfl
 have v:=n.trans (zJ.of z);have l:=mF (t:=ph) (Φ:=Err) 1 (λi=>.h9 a a (Io a:Int) (i:Int)) (λi=>ed (getD a i (zi zk))) (Io a) (by
  intro i g _;obtain⟨e,m,p⟩:=Nb (C _ (ch (d:=zi zk) g));have w:JH (getD a i (zi zk))=Q3:=by unfold JH;rw[m];rfl
  have k:PQ (getD a i (zi zk))=e:=by unfold PQ;rw[m];rfl
  have s:(ph (.h9 a a (Io a:Int) (i:Int))).val=if(e !=0)=Q3 then Q1 (.inr (.int .i64 e,[]))else Q1 (.inl (.h9 a a (Io a:Int) ((i+1:Nat):Int))):=by
   show(ph (.h9 _ _ _ _)).val=_;unfold ph;simp only[zn,Q8,zI g,zx g,aJ,zh,aX,w,k];rw[zu i um]
  by_cases h:e=0
  .exact .inl ⟨p.1 h,zJ.of (by rw[s,zg (by rw[h];simp)])⟩
  .exact .inr ⟨λq=>h (p.2 q),_,zY.of (by rw[s,ze (by simpa using h)]),e,rfl,h⟩)
 rcases l with⟨q,l⟩|⟨q,r,l,e,m,j⟩
 case inr=>
  subst m;exact⟨e,zA g (v.ends l) ow rfl,λh=>zC h j,λh=>zC ((aD (Q:=ed)).2 h.rels) q⟩
 have c:=(aD (Q:=ed)).1 q;obtain⟨b,B,o⟩:=K1 (db:=a) (λx G=>(c x G).cols) C ow;have w:Ia a=Q3:=by unfold Ia;rw[B];rfl
 have k:N3 a=b:=by unfold N3;rw[B];rfl
 have u:(ph (.h9 a a (Io a:Int) (Io a:Int))).val=if(!b)=Q3 then Q1 (.inr (.int .i64 10,[]))else Q1 (.inr (.int .i64 0,[])):=by
  show(ph (.h9 _ _ _ _)).val=_;unfold ph;simp only[Q8,zG,w,k,zh];rfl
 by_cases h:b=Q3
 .exact⟨0,zA g (v.ends (l.ends (zY.of (by rw[u,zg (by rw[h];simp)])))) ow rfl,λ_=>⟨D,y,c,o.1 h⟩,λ_=>rfl⟩
 .exact⟨10,zA g (v.ends (l.ends (zY.of (by rw[u,ze (by simpa using h)])))) ow rfl,λh=>(by cases h),λF=>zC (o.2 F.bound) h⟩
variable {d:zR}
theorem Ib(a:∀x∈d,gL x):oq d=Q3:=by obtain⟨e,h,_⟩:=yQ a;unfold oq;rw[h];rfl
theorem il(b:∀x∈d,gL x):kh d=(0:Int)↔iA d:=by obtain⟨e,h,a⟩:=yQ b;unfold kh;rw[h];exact a
abbrev y11(h:Sem zk.sl)(x:zN):zo bB:=(h,x,([],[],0,[],[],za.mk [] (0,0,[]) [] []),([],[],0,[],[],za.mk [] (0,0,[]) [] []),x.1,x.2.2.1,x.t.t.t,x.2.1,0,x.t.t.1,0,())
theorem O4(c:Sem zk.sl)(x:zN):zkw c x=(let d:=nC (y11 c x)
  let a:=Hg d.2
  let h:=Hh d.2
  let b:=xN d.2
  L9 c x x.t.t.1 x (!eG x) (pg x&&bif !eG x then Q3 else oq c) (cond (!eG x) Q3 (kh c !=0)) (pZ 16 x.t.t.1) (y11 c x) (nD (y11 c x)) d (d.1==0) d.2 a a.2 (fH a.2) h h.2 (fH h.2) b b.2 (fH b.2)):=by unfold zkw;simp only[TW,Rl,zn]
abbrev Y9(z:zo az):ar:=(z.t.1,z.t.2.1,z.t.q.1,(z.t.q.2.1,z.t.t.1,z.t.t.2.1,[],[],z.t.t.q.1),z.t.t.q.2.1,z.t.t.t.1)
abbrev kB:ar:=([],[],[],([],[],0,[],[],za.mk [] (0,0,[]) [] []),[],0)
def al(db:zR)(n:zH):ao:=(getD db (toNat (ae db n)) (zi zk)).1
abbrev zv8:ao:=([],[],0,[],[],za.mk [] (0,0,[]) [] [])
def eu(db:zR)(n:zH):ao:=if n=[]then zv8 else al db n
def iF(e:Int)(p:ar):Int×ar:=if e=0 then(ite (wA p.2.2.2.1=0) (0,p) (wA p.2.2.2.1,kB))else(e,kB)
def cJ(db:zR)(s:zN):Int×ar:=
 if(s.1==dm)=Q3 then
  iF (tq (al db s.2.2.1) s.2.2.2.1) (s.1,s.2.2.1,s.t.t.t,(s.2.1,eD (al db s.2.2.1) s.2.2.2.1,gV (js (al db s.2.2.1) s.2.2.2.1) (al db s.2.2.1).2.2.1,[],[],s.t.t.1),js (al db s.2.2.1) s.2.2.2.1,0)
 else if(s.1==gm)=Q3 then
  iF (fY (al db s.2.2.1) (eu db s.t.t.t) s.t.2.1 s.t.t.t)
   (s.1,s.2.2.1,s.t.t.t,(s.2.1,(al db s.2.2.1).2.1++fZ (eu db s.t.t.t) (Io (eu db s.t.t.t).2.1),(al db s.2.2.1).2.2.1,[],[],s.t.t.1),
    ju (eu db s.t.t.t).2.2.1 (Io (eu db s.t.t.t).2.1),zV (al db s.2.2.1) s.t.2.1)
 else if(s.1==mU)=Q3 then
  iF (qi (al db s.2.2.1) s.2.2.2.1) (s.1,s.2.2.1,s.t.t.t,(s.2.1,xE (al db s.2.2.1) s.2.2.2.1,0,[],[],s.t.t.1),js (al db s.2.2.1) s.2.2.2.1,0)
 else(1,kB)
def bm(db:zR)(s:zN):Int×ar:=
 if jS s.1/\eG s=Q3/\kh db=(0:Int)then(ite (pf db s.2.2.1 s.t.t.t s.2.1=0) (cJ db s) (pf db s.2.2.1 s.t.t.t s.2.1,kB))else(1,kB)
variable {s:zN}
theorem jZ(h:eG s=Q3):fE s=Q3:=by
 unfold eG qJ at h;by_cases x:fE s=Q3
 .exact x
 .exfalso;simp only[gT]at x;simp[x]at h
theorem nv{s:zH}(h:(0:Int)<=ae db s):db.getD (toNat (ae db s)) (zi zk)∈db:=by have:=dV h;simp only[zK,aE,aQ]at this;exact Dh _ _ ow
theorem Ew(e:Int):aU [] [aq,zj] (tup [agg [str [],str [],str [],str [],Qb,ai 0,Qb,Qb,str [],ai 0,ai 0,str [],str [],Qb,Qb,ai 0],ai e])=Q1 (kB,e,()):=rfl
theorem zl6(z:zo az):aU [AO.vec zl z.t.t.1] [aq,zj] (tup [agg [str z.t.1,str z.t.2.1,str z.t.q.1,str z.t.q.2.1,AV.vec 0,
  ai z.t.t.2.1,Qb,Qb,str (za.op z.t.t.q.1),ai (za.v z.t.t.q.1).1,ai (za.v z.t.t.q.1).2.1,str (za.v z.t.t.q.1).2.2,str (za.s z.t.t.q.1),sl Q5 (za.l z.t.t.q.1),
  sl zj z.t.t.q.2.1,ai z.t.t.t.1],ai 0])=Q1 (Y9 z,0,()):=by obtain⟨c,d,e,g,i,j,k,m,n,o,h,x,a,b⟩:=z;cases h;rfl
def PlS(x:Sem zk.sl)(h:zN):Prop:=MC x h=Q1 ((bm x h).2,(bm x h).1,())
variable {x:Sem zk.sl}
theorem xT{o:Option (zD (List.map Q1 [aq,zj]))}{e:Int}(h:o=Q1 (kB,e,()))(a:bm x s=(e,kB)):o=Q1 ((bm x s).2,(bm x s).1,()):=by rw[a];exact h
theorem zdI(e:pg s=Q3)(d:oq x=Q3)(h:(cond (!eG s) Q3 (kh x !=0))=Q3):PlS x s:=by
 have c:(pg s&&bif !eG s then Q3 else oq x)=Q3:=by rw[e,d];cases eG s<;>rfl
 have g:bm x s=(1,kB):=by
  unfold bm;rw[zg];rintro⟨_,a,b⟩;rw[a]at h;simp[b]at h
 refine xT ?_ g;unfold MC an bY;rw[O4];simp only[L9,Q8,c,h,zh];by_cases o1:(s.1==dm)=Q3
 .simp only[o1,zh];rfl
 .by_cases o2:(s.1==gm)=Q3
  .simp only[o1,o2,zh];rfl
  .by_cases o3:(s.1==mU)=Q3
   .simp only[o1,o2,o3,zh];rfl
   .simp only[o1,o2,o3];rfl
theorem zl0{y:zo bB}{z:zo az}{h:aN}{c:Int}{i:List Int}{o:Int}(k:y.t=(y11 x s).t)(v:oh y z)
  (b:z.t.t.q.1=y.t.t.2.1) (a:FL z h c i o):Y9 z=(s.1,s.2.2.1,s.t.t.t,(s.2.1,h,c,[],[],s.t.t.1),i,o):=by
 obtain⟨_,_,_,_,d,e,g,j⟩:=v;have l:z.t.1=s.1:=by rw[d,k]
 have m:z.t.2.1=s.2.2.1:=by rw[e,k]
 have n:z.t.q.1=s.t.t.t:=by rw[g,k]
 have p:z.t.q.2.1=s.2.1:=by rw[j,k]
 have u:z.t.t.q.1=s.t.t.1:=by rw[b,k]
 show(z.t.1,z.t.2.1,z.t.q.1,(z.t.q.2.1,z.t.t.1,z.t.t.2.1,[],[],z.t.t.q.1),z.t.t.q.2.1,z.t.t.t.1)=_;rw[l,m,n,p,u,a.cols,a.key,a.ix,a.on]
theorem zlZ{b:zN}(h0:∀a∈x,gL a)(hl:Io x<=13)(hs:zbK b):PlS x b:=by
 by_cases hg:jS b.1;rotate_left
 .have o1:(b.1==dm)=Q4:=by simpa using λk=>hg (.inl k)
  have o2:(b.1==gm)=Q4:=by simpa using λk=>hg (.inr (.inl k))
  have o3:(b.1==mU)=Q4:=by simpa using λk=>hg (.inr (.inr k))
  refine xT (e:=1) ?_ (by unfold bm;rw[zg λh=>hg h.1]);unfold MC an bY;rw[O4];simp only[L9,Q8,o1,o2,o3];rfl
 have hM:=Nz hs.sh hg;have hB:=Ib h0;by_cases o:(cond (!eG b) Q3 (kh x !=0))=Q3
 .exact zdI hM hB o
 have h3:(pg b&&bif !eG b then Q3 else oq x)=Q3:=by rw[hM,hB];cases eG b<;>rfl
 have W:eG b=Q3:=by
  cases h:eG b
  .rw[h]at o;simp at o
  .rfl
 have Z:kh x=(0:Int):=by
  rw[W]at o;simpa using o
 have N:=jZ W;have J:=((il h0).1 Z).rels;obtain⟨B,y,h8,k1,k2,X,k5,k4⟩:=Mq (y11 x b) (by show Io x<=_;omega);have s8:nC (y11 x b)=(B,y):=by unfold nC;rw[h8];rfl
 have c8:nD (y11 x b)=Q3:=by unfold nD;rw[h8];rfl
 have k5:B=pf x b.2.2.1 b.t.t.t b.2.1:=k5;have hS:jS b.1->bm x b=if B=0 then cJ x b else(B,kB):=by
  intro h;unfold bm;rw[ze ⟨h,W,Z⟩,k5]
 unfold PlS MC an bY;rw[O4];simp only[L9,Q8,h3,o,hs.cp,s8,c8,zh];by_cases p:B=0
 .have A:=k4 p;have T:y.2.1=b:=k2;have n1:y.1=x:=k1;have nk:y.t.t.1=(0:Int):=by rw[X]
  have h1:y.t.t.q.1=(0:Int):=by rw[X]
  have nw:y.t.q.1=b.t.t.t:=by rw[X]
  have i:y.2.2.1=al x b.2.2.1:=A.t.1;have v:y.2.2.2.1=eu x b.t.t.t:=A.t.2;have S:=gq (J _ (nv (db:=x) (s:=b.2.2.1) A.1)).may;rw[show(getD x (toNat (ae x b.2.2.1)) (zi zk)).1=y.2.2.1 from i.symm]at S;have h4:Io y.2.2.2.1.2.1<=100:=by
   rw[v];unfold eu;split
   .simp
   next hw=>have:=(gq (J _ (nv (db:=x) (s:=b.t.t.t) (A.2.1.resolve_left hw))).may).2.2.2.1;unfold al;omega
  have U:(B==0)=Q3:=by simpa using p
  simp only[U,zh];by_cases o1:(b.1==dm)=Q3
  .have I:jS b.1:=Or.inl (bF o1);obtain⟨z,j,hk,H,u,F⟩:=Yp y (by rw[T];have:=hs.sh.names.1;omega);rw[T,i,h1]at F;rw[T,i]at j;generalize G:tq (al x b.2.2.1) b.2.2.2.1=d at j F;have L:Hg y=(d,z):=by unfold Hg;rw[j];rfl
   have C:IW y=Q3:=by unfold IW;rw[j];rfl
   have c:=hS I;rw[ze p]at c;unfold cJ at c;rw[ze o1,G]at c;simp only[o1,L,C,zh];by_cases e0:d=0
   .have P:=zl0 X hk H (F e0);have l:=tT z u;have Y:SO z=(Y9 z).2.2.2.1:=rfl;rw[Y,P]at l;unfold iF at c;rw[ze e0]at c;generalize O:wA _=g at l c;have M:fH z=(g,z):=by unfold fH;rw[l];rfl
    have D:gW z=Q3:=by unfold gW;rw[l];rfl
    have m:(d==0)=Q3:=by simpa using e0
    simp only[m,M,D,zh];by_cases w:g=0
    .have n:(g !=0)=Q4:=by simp[w]
     simp only[n];rw[ze w]at c;rw[c];exact(zl6 z).trans (by rw[P])
    .have n:(g !=0)=Q3:=by simpa using w
     simp only[n,zh];rw[zg w]at c;exact xT (Ew g) c
   .have m:(d==0)=Q4:=by simpa using e0
    have E:(d !=0)=Q3:=by simpa using e0
    unfold iF at c;rw[zg e0]at c;simp only[m,E,zh];exact xT (Ew d) c
  .by_cases o2:(b.1==gm)=Q3
   .have I:jS b.1:=Or.inr (Or.inl (bF o2));obtain⟨z,j,hk,H,u,F⟩:=Yq y (by have:=S.2.2.2.1;omega) h4;rw[T,nw,i,v]at F;rw[T,nw,i,v]at j;generalize G:fY (al x b.2.2.1) (eu x b.t.t.t) b.t.2.1 b.t.t.t=d at j F;have L:Hh y=(d,z):=by unfold Hh;rw[j];rfl
    have C:IY y=Q3:=by unfold IY;rw[j];rfl
    have c:=hS I;rw[ze p]at c;unfold cJ at c;rw[zg o1,ze o2,G]at c;simp only[o1,o2,L,C,zh];by_cases e0:d=0
    .have P:=zl0 X hk H (F e0);have l:=tT z u;have Y:SO z=(Y9 z).2.2.2.1:=rfl;rw[Y,P]at l;unfold iF at c;rw[ze e0]at c;generalize O:wA _=g at l c;have M:fH z=(g,z):=by unfold fH;rw[l];rfl
     have D:gW z=Q3:=by unfold gW;rw[l];rfl
     have m:(d==0)=Q3:=by simpa using e0
     simp only[m,M,D,zh];by_cases w:g=0
     .have n:(g !=0)=Q4:=by simp[w]
      simp only[n];rw[ze w]at c;rw[c];exact(zl6 z).trans (by rw[P])
     .have n:(g !=0)=Q3:=by simpa using w
      simp only[n,zh];rw[zg w]at c;exact xT (Ew g) c
    .have m:(d==0)=Q4:=by simpa using e0
     have E:(d !=0)=Q3:=by simpa using e0
     unfold iF at c;rw[zg e0]at c;simp only[m,E,zh];exact xT (Ew d) c
   .by_cases o3:(b.1==mU)=Q3
    .have I:jS b.1:=Or.inr (Or.inr (bF o3));obtain⟨z,j,hk,H,u,F⟩:=Uj y (by rw[T];exact jR N (bF o3));rw[T,i,h1,nk]at F;rw[T,i]at j;generalize G:qi (al x b.2.2.1) b.2.2.2.1=d at j F;have L:xN y=(d,z):=by unfold xN;rw[j];rfl
     have C:Ba y=Q3:=by unfold Ba;rw[j];rfl
     have c:=hS I;rw[ze p]at c;unfold cJ at c;rw[zg o1,zg o2,ze o3,G]at c;simp only[o1,o2,o3,L,C,zh];by_cases e0:d=0
     .have P:=zl0 X hk H (F e0);have l:=tT z u;have Y:SO z=(Y9 z).2.2.2.1:=rfl;rw[Y,P]at l;unfold iF at c;rw[ze e0]at c;generalize O:wA _=g at l c;have M:fH z=(g,z):=by unfold fH;rw[l];rfl
      have D:gW z=Q3:=by unfold gW;rw[l];rfl
      have m:(d==0)=Q3:=by simpa using e0
      simp only[m,M,D,zh];by_cases w:g=0
      .have n:(g !=0)=Q4:=by simp[w]
       simp only[n];rw[ze w]at c;rw[c];exact(zl6 z).trans (by rw[P])
      .have n:(g !=0)=Q3:=by simpa using w
       simp only[n,zh];rw[zg w]at c;exact xT (Ew g) c
     .have m:(d==0)=Q4:=by simpa using e0
      have E:(d !=0)=Q3:=by simpa using e0
      unfold iF at c;rw[zg e0]at c;simp only[m,E,zh];exact xT (Ew d) c
    .simp only[o1,o2,o3];refine xT (Ew 1) ?_;unfold bm;rw[zg];rintro⟨h|h|h,_⟩
     .exact o1 (bd.2 h)
     .exact o2 (bd.2 h)
     .exact o3 (bd.2 h)
 .have U:(B==0)=Q4:=by simpa using p
  have h2:(B !=0)=Q3:=by simpa using p
  have c:jS b.1->bm x b=(B,kB):=λh=>by rw[hS h,zg p]
  simp only[U,h2,zh];by_cases o1:(b.1==dm)=Q3
  .simp only[o1,zh];exact xT (Ew B) (c (Or.inl (bF o1)))
  .by_cases o2:(b.1==gm)=Q3
   .simp only[o1,o2,zh];exact xT (Ew B) (c (Or.inr (Or.inl (bF o2))))
   .by_cases o3:(b.1==mU)=Q3
    .simp only[o1,o2,o3,zh];exact xT (Ew B) (c (Or.inr (Or.inr (bF o3))))
    .simp only[o1,o2,o3];refine xT (Ew 1) ?_;unfold bm;rw[zg];rintro⟨h|h|h,_⟩
     .exact o1 (bd.2 h)
     .exact o2 (bd.2 h)
     .exact o3 (bd.2 h)
set_option maxHeartbeats 1000000
theorem g0:∀{a b c:zH},Op.bytesLess a b=Q3->Op.bytesLess b c=Q3->Op.bytesLess a c=Q3
 |_,[],_,h,_=>by cases‹zH›<;>simp[Op.bytesLess]at h
 |_,_::_,[],_,h=>by simp[Op.bytesLess]at h
 |[],_::_,_::_,_,_=>rfl
 | a::x,b::y,c::z,h,g=>by
  simp only[Op.bytesLess,ng,aQ,aE,bd]at h g|-;rcases h with h|⟨rfl,h⟩
  .rcases g with g|⟨rfl,g⟩
   .exact .inl (UInt8.lt_trans h g)
   .exact .inl h
  .rcases g with g|⟨rfl,g⟩
   .exact .inl g
   .exact .inr ⟨rfl,g0 h g⟩
def Lx(p q:Int×Int×zH):Prop:=p.1<q.1\/(p.1=q.1/\(p.2.1<q.2.1\/(p.2.1=q.2.1/\Op.bytesLess p.2.2 q.2.2=Q3)))
variable {p q:Int×Int×zH}
theorem Lx.trans{r:Int×Int×zH}(h:Lx p q)(g:Lx q r):Lx p r:=by
 unfold Lx at*;rcases h with h|⟨b,h|⟨c,h⟩⟩<;>rcases g with g|⟨x,g|⟨a,g⟩⟩
 .exact .inl ow
 .exact .inl ow
 .exact .inl ow
 .exact .inl ow
 .exact .inr ⟨ow,.inl ow⟩
 .exact .inr ⟨ow,.inl ow⟩
 .exact .inl ow
 .exact .inr ⟨ow,.inl ow⟩
 .exact .inr ⟨ow,.inr ⟨ow,g0 h g⟩⟩
theorem Lx.irrefl:¬Lx p p:=by
 unfold Lx;rw[cq];rintro(h|⟨_,h|⟨_,h⟩⟩)
 .omega
 .omega
 .cases h
theorem QS(a b:Int):sB a b=if a<b then -1 else if b<a then 1 else 0:=by show(ite ((a !=a)=Q3) _ (ite ((b !=b)=Q3) (1:Int) (ite (Q0 (a<b)=Q3) (-1) (ite (Q0 (a>b)=Q3) 1 0))))=_;simp
theorem VV(a b:Int):jd a b=if a<b then -1 else if b<a then 1 else 0:=QS a b
theorem zcw(a b:zH):(ox a b=-1/\Op.bytesLess a b=Q3)\/(ox a b=0/\a=b)\/(ox a b=1/\Op.bytesLess a b=Q4):=by
 have:ox a b=if Op.bytesLess a b=Q3 then -1 else if(!(Op.bytesLess a b||a==b))=Q3 then 1 else 0:=by
  show(ite ((!a==a)=Q3) _ (ite ((!b==b)=Q3) (1:Int) (ite (Op.bytesLess a b=Q3) (-1) (ite ((!(Op.bytesLess a b||a==b))=Q3) 1 0))))=_;simp
 rw[this];cases h:Op.bytesLess a b with
 |true=>exact .inl ⟨rfl,rfl⟩
 | false=>
  by_cases e:a=b
  .exact .inr (.inl ⟨by simp[e],e⟩)
  .exact .inr (.inr ⟨by simp[e],rfl⟩)
theorem zlX(k n x a:Int)(s b:zH):(Hm [sB k x,jd n a,ox s b]<0)↔Lx (k,n,s) (x,a,b):=by
 show _↔(k<x\/(k=x/\(n<a\/(n=a/\Op.bytesLess s b=Q3))));rw[QS,VV];simp only[Hm];have i:=cq b;rcases BZ k x with h|h|h
 .simp[h]
 .subst h;rcases BZ n a with g|g|g
  .simp[g]
  .subst g;rcases zcw s b with⟨e,f⟩|⟨e,f⟩|⟨e,f⟩
   .simp[e,f]
   .subst f;simp[e,i]
   .simp[e,f]
  .have:¬n<a:=by omega
   have:n≠a:=by omega
   simp[*]
 .have:¬k<x:=by omega
  have:k≠x:=by omega
  simp[*]
variable {a:zp}
theorem wE{j:zp}:uk a j↔Lx (aA a) (aA j):=zlX (aA a).1 (aA a).2.1 (aA j).1 (aA j).2.1 (aA a).2.2 (aA j).2.2
theorem gC{b c:zp}(h:uk a b)(g:uk b c):uk a c:=wE.2 ((wE.1 h).trans (wE.1 g))
theorem gj:¬uk a a:=λh=>Lx.irrefl (wE.1 h)
theorem wg{α:Type}{R:α->α->Prop}(m:∀{a b c},R a b->R b c->R a c){d:α}:∀{l:List α},(∀i,i<Io l-1->R (l.getD i d) (l.getD (i+1) d))↔l.Pairwise R
 |[]=>by simp
 |[a]=>by simp
 | a::b::r=>by
  have I:=wg (R:=R) m (d:=d) (l:=b::r);constructor
  .intro h;have e:=h 0 sw;have g:(b::r).Pairwise R:=I.1 λi j=>h (i+1) (by simp only[eJ]at j|-;omega)
   refine List.pairwise_cons.2 ⟨λx k=>?_,g⟩;rcases b8.1 k with rfl|k
   .exact e
   .exact m e ((List.pairwise_cons.1 g).1 x k)
  .intro h i j;obtain⟨e,g⟩:=List.pairwise_cons.1 h;cases i with
   |zero=>exact e b sw
   |succ i=>exact I.2 g i (by simp only[eJ]at j|-;omega)
def kLt(k:Int)(a b:zt):Prop:=uk (zS k a) (zS k b)
variable {b:am}
theorem ed.pw(h:ed b):b.2.Pairwise (kLt b.1.2.2.1):=(wg (R:=kLt b.1.2.2.1) gC).1 h.rise
variable {g:List zt}
theorem ed.sub{t:ao}{l:List zt}(h:ed (t,g))(x:List.Sublist l g):ed (t,l) where
 may:=h.may
 few:=aT x.length_le h.few
 fits:=λr a=>h.fits r (x.subset a)
 key:=List.Pairwise.sublist x h.key
 uniq:=λu b=>List.Pairwise.sublist x (h.uniq u b)
 rise:=(wg (R:=kLt t.2.2.1) gC).2 (List.Pairwise.sublist x h.pw)
theorem Hj(d:zR)(i:Nat):(d.getD i (zi zk)).1=(d.map (·.1)).getD i (zi zk).1:=by rw[aY,aY,du];cases d[i]?<;>rfl
theorem Ys(h:(d.getD i (zi zk)).1=b.1):(d.set i b).map (·.1)=d.map (·.1):=by
 rw[List.map_set];refine pm λj=>?_
 rw[na];by_cases e:i=j
 .subst e;rw[ze rfl];by_cases x:i<(d.map (·.1)).length
  .rw[ze x,z6 x,<-h];congr 1;have a:i<Io d:=by simpa using x
   rw[aY,z6 a,List.getElem_map];rfl
  .rw[zg x,eZ ow]
 .rw[zg e]
theorem iA.put(h:iA d)(e:(d.getD i (zi zk)).1=b.1)(g:ed b)(c:FM (d.set i b)):iA (d.set i b) where
 few:=by rw[yM];exact h.few
 names:=λj a=>by
  rw[yM]at a;have:=h.names j a;rw[Hj,Hj]at this|-
  rwa [Ys e]
 rels:=λy x=>by
  rcases QF x with x|rfl
  .exact h.rels y x
  .exact g
 bound:=c
theorem RF{c:Int}(h:g.Pairwise (kLt c)):(g.map (zS c)).Pairwise (·≠·):=by rw[List.pairwise_map];exact h.imp λ{a b} x(e:zS c a=zS c b)=>gj (a:=zS c b) (by have:=x;unfold kLt at this;rwa [e]at this)
theorem kj:∀{a b:zH},Op.bytesLess a b=Q4->a≠b->Op.bytesLess b a=Q3
 |[],[],_,h=>zC rfl h
 |[],_::_,h,_=>by simp[Op.bytesLess]at h
 |_::_,[],_,_=>rfl
 | a::x,b::y,h,hn=>by
  simp only[Op.bytesLess,Bool.or_eq_false_iff,dZ,Bool.and_eq_false_iff,dB,ng,aQ,aE,bd]at h|-;by_cases e:a=b
  .subst e;refine .inr ⟨rfl,kj (h.2.resolve_left λg=>g rfl) λg=>hn (by rw[g])⟩
  .exact .inl (UInt8.lt_of_le_of_ne (UInt8.not_lt.1 h.1) (Ne.symm e))
def tR(u:zp):zt->zt
 |[]=>[u]
 |o::r=>if LT.lt (α:=Int) (aO o u) 0 then o::tR u r else if(o==u)=Q3 then o::r else u::o::r
def pV(l:zt):zt:=l.foldl (λa u=>if((u:zp).1==0)=Q3 then a else tR u a) []
theorem nY{b:zp}(j:bf a=Q3)(l:bf b=Q3)(h:¬uk a b):a=b\/uk b a:=by
 have p:aA a=a:=by unfold aA;rw[j];rfl
 have kb:aA b=b:=by unfold aA;rw[l];rfl
 rw[wE,p,kb]at h|-;obtain⟨k,n,s⟩:=a;obtain⟨o,q,c⟩:=b;unfold Lx at h|-;simp only at h|-;have d:¬k<o:=λe=>h (.inl e)
 rcases Int.lt_or_eq_of_le (Int.not_lt.1 d)with e|e
 .exact .inr (.inl e)
 have i:¬n<q:=λg=>h (.inr ⟨e.symm,.inl g⟩)
 rcases Int.lt_or_eq_of_le (Int.not_lt.1 i)with g|g
 .exact .inr (.inr ⟨e,.inl g⟩)
 by_cases x:s=c
 .exact .inl (by rw[e,g,x])
 .refine .inr (.inr ⟨e,.inr ⟨g,kj ?_ x⟩⟩);cases m:Op.bytesLess s c
  .rfl
  .exact zC (.inr ⟨e.symm,.inr ⟨g.symm,m⟩⟩) h
theorem vw{a:zp}:∀{l:zt}{x:zp},x∈tR a l↔x=a\/x∈l
 |[],x=>by simp[tR]
 | o::r,x=>by
  unfold tR;split
  .rw[b8,vw,b8];exact⟨λh=>by rcases h with h|h|h<;>simp[h],λh=>by rcases h with h|h|h<;>simp[h]⟩
  .split
   next h=>have h:=bF h;subst h;simp
   .simp
theorem HJ{a:zp}(j:bf a=Q3):∀{l:zt},(∀x∈l,bf x=Q3)->l.Pairwise uk->(tR a l).Pairwise uk
 |[],_,_=>by simp[tR]
 | o :: r,hl,h=>by
  obtain⟨g,k⟩:=List.pairwise_cons.1 h;unfold tR;split
  .rename_i c;refine List.pairwise_cons.2 ⟨λx b=>?_,HJ j (λx b=>hl x (by simp[b])) k⟩;rcases vw.1 b with rfl|b
   .exact c
   .exact g x b
  .rename_i m;split
   .exact h
   .rename_i d;have i:uk a o:=by
     rcases nY (hl o sw) j m with e|e
     .exact zC (by rw[e];simp) d
     .exact e
    refine List.pairwise_cons.2 ⟨λx b=>?_,h⟩;rcases b8.1 b with rfl|b
    .exact i
    .exact gC i (g x b)
theorem xB:∀(l a:zt),(∀x∈l,bf x=Q3)->(∀x∈a,bf x=Q3)->a.Pairwise uk->
  (l.foldl (λa u=>if((u:zp).1==0)=Q3 then a else tR u a) a).Pairwise uk/\∀x,x∈l.foldl (λa u=>if((u:zp).1==0)=Q3 then a else tR u a) a↔x∈a\/(x∈l/\x.1≠0)
 |[],a,_,_,h=>⟨h,λx=>by simp⟩
 | u::r,a,hl,ha,h=>by
  rw[List.foldl_cons];by_cases c:(u.1==0)=Q3
  .rw[ze c];obtain⟨g,i⟩:=xB r a (λx b=>hl x (by simp[b])) ha h;refine⟨g,λx=>(i x).trans ⟨λh=>h.imp id λh=>⟨by simp[h.1],h.2⟩,λh=>h.imp id λh=>⟨?_,h.2⟩⟩⟩;rcases b8.1 h.1 with rfl|d
   .exact zC (bF c) h.2
   .exact d
  .rw[zg c];have j:=hl u sw;obtain⟨g,i⟩:=xB r (tR u a) (λx b=>hl x (by simp[b])) (λx b=>by
    rcases vw.1 b with rfl|b
    .exact j
    .exact ha x b) (HJ j ha h)
   refine⟨g,λx=>(i x).trans ?_⟩;rw[vw,b8];refine⟨λh=>?_,λh=>?_⟩
   .rcases h with(rfl|h)|h
    .exact .inr ⟨.inl rfl,λe=>c (by rw[e];rfl)⟩
    .exact .inl h
    .exact .inr ⟨.inr h.1,h.2⟩
   .rcases h with h|⟨rfl|h,d⟩
    .exact .inl (.inr h)
    .exact .inl (.inl rfl)
    .exact .inr ⟨h,d⟩
variable {m:zt}
theorem ux(h:∀x∈m,bf x=Q3):(pV m).Pairwise uk/\∀x,x∈pV m↔x∈m/\x.1≠0:=by obtain⟨a,b⟩:=xB m [] h sw sw;exact⟨a,λx=>(b x).trans sw⟩
theorem JQ:∀{l m:zt},l.Pairwise uk->m.Pairwise uk->(∀x,x∈l↔x∈m)->l=m
 |[],[],_,_,_=>rfl
 |[],b::m,_,_,h=>by have:=(h b).2 sw;simp at this
 |a::l,[],_,_,h=>by have:=(h a).1 sw;simp at this
 | a::l,b::m,h1,h2,h=>by
  obtain⟨i,k⟩:=List.pairwise_cons.1 h1;obtain⟨j,n⟩:=List.pairwise_cons.1 h2;have e:a=b:=by
   rcases b8.1 ((h a).1 sw)with e|e
   .exact e
   .rcases b8.1 ((h b).2 sw)with g|g
    .exact g.symm
    .exact zC (gC (i _ g) (j _ e)) gj
  subst e;rw[JQ k n λx=>⟨λd=>?_,λd=>?_⟩]
  .rcases b8.1 ((h x).1 (by simp[d]))with rfl|c
   .exact zC (i _ d) gj
   .exact c
  .rcases b8.1 ((h x).2 (by simp[d]))with rfl|c
   .exact zC (j _ d) gj
   .exact c
open Go Go.Proofs Go.Sort
def ra(l:zt):Bool:=l.all (λv=>bf v&&(v.1!=0))&&decide l.Nodup&&!l.isEmpty
theorem Z0{o:zt}(h:ra m=Q3)(c:List.Perm o m)(k:o.Pairwise λx y:zp=>¬LT.lt (α:=Int) (aO y x) 0):o=pV m:=by
 simp only[ra,aE,dQ,aQ,bne_iff_ne,ne_eq]at h;obtain⟨⟨b,j⟩,_⟩:=h;obtain⟨g,i⟩:=ux λx a=>(b x a).1
 have d:o.Nodup:=c.nodup_iff.2 j;refine JQ ?_ g λx=>?_
 .refine(k.and d).imp_of_mem λ{x y} a l h=>?_
  rcases nY (b y (c.mem_iff.1 l)).1 (b x (c.mem_iff.1 a)).1 h.1 with e|e
  .exact zC e.symm h.2
  .exact e
 .rw[i x,c.mem_iff];exact⟨λa=>⟨a,(b x a).2⟩,λa=>a.1⟩
@[match_pattern] abbrev ME:Sh:=.pr (.int .i64) (.pr (.int .i64) .str)
def zxP:z8:=λa h _=>match a with
 | [.vec id,.clo (.func 50) [] []]=>match h id with
  |.vec ME l=>(.chk (Q0 (Io l<=1000000)) (.chk (ra l) (.ok {val:=.tup [],wr:=[(id,.vec zf (pV l))]})))
  |_=>.err
 |_=>.err
theorem zuK:Go.Proofs.Enters Tryz.prog 50:=by
  cases h:Tryz.f50.body with
  | none => have:Tryz.f50.body.isNone=false:=by kernel_rfl
            rw[h]at this;cases this
  |some c=>exact Go.Proofs.enters_of (fn:=Tryz.f50) kw kw h
def zc3(x:ar)(h:Sem zk.sl):Tr (Empty⊕au):=
 let a:=getD h (toNat 0) (zi zk)
 br (x.1==dm) (Qc (zK 0 (Io h)) (re (ai a.1.2.2.1) []))
 (br (x.1==gm) (re (ai x.t.2) [])
  (Qc (zK 0 (Io x.t.1)) (re (ai (getD x.t.1 (toNat 0) (zi zj))) [])))
def wD(x:ar)(h:Sem zk.sl):=an [zj] t0 100000000 (zc3 x h)
def mC(x:ar)(h:Sem zk.sl):=(wD x h).isSome
def de(x:ar)(h:Sem zk.sl):=o1 (wD x h)
def znl:=FT [aq,zk.sl] [zj] λx=>wD x.1 x.2.1
theorem zh9:FK 40 znl:=rm.T1 (f:=Tryz.f40) (keep:=k0) (e:=e0)
abbrev zrH:=kJ [(7,[4,5,52,53,54])]
inductive KH where
 |h7 (l52:aN) (i53:Int) (i54:Int) (ja0:List UInt8) (ja1:List UInt8) (ja2:List UInt8) (ja5:List UInt8) (ja8:List UInt8) (ja9:Int) (ja10:Int) (ja11:List UInt8) (ja12:List UInt8) (ja16:List UInt8) (ja17:Int) (ja18:Int) (ja19:List UInt8) (ja20:List UInt8) (ja22:List UInt8) (jb0:Sem Q6) (jb1:Sem Q6) (jb2:Sem Q6) (jb5:List UInt8) (jb8:zH) (jb9:Int) (jb10:Int) (jb11:zH) (jb12:zH) (jb13:List (Sem Q5)) (jb16:List UInt8) (jb17:Int) (jb18:Int) (jb19:List UInt8) (jb20:List UInt8) (jb22:Sem Q6)
 |h7b (l52:aN) (i53:Int) (i54:Int) (ja0:List UInt8) (ja1:List UInt8) (ja2:List UInt8) (ja5:List UInt8) (ja8:List UInt8) (ja9:Int) (ja10:Int) (ja11:List UInt8) (ja12:List UInt8) (ja16:List UInt8) (ja17:Int) (ja18:Int) (ja19:List UInt8) (ja20:List UInt8) (ja22:List UInt8) (jb0:Sem Q6) (jb1:Sem Q6) (jb2:Sem Q6) (jb5:List UInt8) (jb8:zH) (jb9:Int) (jb10:Int) (jb11:zH) (jb12:zH) (jb13:List (Sem Q5)) (jb16:List UInt8) (jb17:Int) (jb18:Int) (jb19:List UInt8) (jb20:List UInt8) (jb22:Sem Q6) (lh_2:List (Sem Q6))
abbrev zur:KH->Nat×St
 |.h7 J u v w y z A B C j h x a b c d e g D E F G H I i k l m n o p q s t=>(7,⟨tm 67 [(4,ptr 0 0),(5,ptr 1 0),(52,sl zl J),(53,ai u),(54,ai v)],[Qa [str w,str y,str z,Qb,Qb,str A,Qb,Qb,str B,ai C,ai j,str h,str x,Qb,Qb,Qb,str a,ai b,ai c,str d,str e,Qb,str g],Qa [str D,str E,str F,Qb,Qb,str G,Qb,Qb,str H,ai I,ai i,str k,str l,sl Q5 m,Qb,Qb,str n,ai o,ai p,str q,str s,Qb,str t]]⟩)
 |.h7b J u v w y z A B C j h x a b c d e g D E F G H I i k l m n o p q s t L=>(7,⟨tm 67 [(4,ptr 0 0),(5,ptr 1 0),(52,sl zl J),(53,ai u),(54,ai v)],[Qa [str w,str y,str z,Qb,Qb,str A,Qb,Qb,str B,ai C,ai j,str h,str x,Qb,Qb,Qb,str a,ai b,ai c,str d,str e,Qb,str g],Qa [str D,str E,str F,AV.vec 2,Qb,str G,Qb,Qb,str H,ai I,ai i,str k,str l,sl Q5 m,Qb,Qb,str n,ai o,ai p,str q,str s,Qb,str t],AO.vec Q6 L]⟩)
def zdc(x:ar)(c:Sem zk.sl):Tr (KH⊕au):=
 let h:=Q0 (x.t.2>=0)
 let b:=zK 0 (Io c)
 let a:=getD c (toNat 0) (zi zk)
 let d:=(↑(Io a.1.2.1):Int)
 let e:=getD a.1.2.1 (toNat x.t.2) (zi zl)
 br (x.1==gm)
 (Qc (cond h b Q3)
  (br (cond h (Q0 (x.t.2<d)) Q4) (Qc b (Qc (zK x.t.2 (Io a.1.2.1)) (re (agg [str x.1,str x.2.2.2.1.1,str x.2.1,Qb,Qb,str e.1,Qb,Qb,str (za.op x.2.2.2.1.t.2),ai (za.v x.2.2.2.1.t.2).1,
  ai (za.v x.2.2.2.1.t.2).2.1,str (za.v x.2.2.2.1.t.2).2.2,str (za.s x.2.2.2.1.t.2),sl Q5 (za.l x.2.2.2.1.t.2),Qb,Qb,str [],ai 0,ai 0,str [],str [],Qb,str x.2.2.1]) []))) (re (agg
  [str x.1,str x.2.2.2.1.1,str x.2.1,Qb,Qb,str [],Qb,Qb,str (za.op x.2.2.2.1.t.2),ai (za.v x.2.2.2.1.t.2).1,ai (za.v x.2.2.2.1.t.2).2.1,str (za.v x.2.2.2.1.t.2).2.2,str (za.s x.2.2.2.1.t.2),sl Q5 (za.l x.2.2.2.1.t.2),Qb,Qb,
  str [],ai 0,ai 0,str [],str [],Qb,str x.2.2.1]) [])))
 (Q9
  (KH.h7 x.2.2.2.1.2.1 (↑(Io x.2.2.2.1.2.1):Int) 0 [] [] [] [] [] 0 0 [] [] [] 0 0 [] [] [] x.1 x.2.2.2.1.1 x.2.1 [] (za.op x.2.2.2.1.t.2) (za.v x.2.2.2.1.t.2).1 (za.v x.2.2.2.1.t.2).2.1 (za.v x.2.2.2.1.t.2).2.2 (za.s x.2.2.2.1.t.2) (za.l x.2.2.2.1.t.2) [] 0 0 [] [] x.2.2.1))
def AR:KH->Tr (KH⊕au)
 | .h7 l m i F G H I J L n o p q s t u v w y z A B C D j h x a b c d e g k=>
  let N:=l.getD i.toNat (zi zl)
  let M:=[N.1]
  br (Q0 (i<m))
  (Qc (zK i (Io l)) (Qc (Q0 (Io M<=1073741824)) (Q9 (KH.h7b l m (Γ Δ (i+1)) F G H I J L n o p q s t u v w y z A B C D j h x a b c d e g k M))))
  (re (agg [str y,str z,str A,Qb,Qb,str B,Qb,Qb,str C,ai D,ai j,str h,str x,sl Q5 a,Qb,Qb,str b,ai c,ai d,str e,str g,Qb,str k]) [])
 | .h7b l m i F G H I J L n o p q s t u v w y z A B C D j h x a b c d e g k E=>
  let N:=l.getD i.toNat (zi zl)
  let M:=[N.1]
  br (Q0 (i<m))
  (Qc (zK i (Io l)) (Qc (Q0 (Io E+Io M<=1073741824)) (Q9 (KH.h7b l m (Γ Δ (i+1)) F G H I J L n o p q s t u v w y z A B C D j h x a b c d e g k (E++M)))))
  (re (agg [str y,str z,str A,AV.vec 0,Qb,str B,Qb,Qb,str C,ai D,ai j,str h,str x,sl Q5 a,Qb,Qb,str b,ai c,ai d,str e,str g,Qb,str k]) [AO.vec Q6 E])
def I5(x:ar)(h:Sem zk.sl):=an [aC] AR 100000000 (zdc x h)
def Pu(x:ar)(h:Sem zk.sl):=(I5 x h).isSome
def Y7(x:ar)(h:Sem zk.sl):=o1 (I5 x h)
def znI:=FT [aq,zk.sl] [aC] λx=>I5 x.1 x.2.1
theorem ziA:FK 85 znI:=rm.T1 (f:=Tryz.f85) (keep:=zrH) (e:=zur)
def WL:=zgh.addL [(40,znl),(85,znI)]
theorem OE:zw WL:=rm.addL<|fc zh9<|fc ziA<|iH
def zvJ(x:am):Tr (Empty⊕au):=
 re (str x.1.1) []
def ZK(x:am):=an [Q6] t0 100000000 (zvJ x)
def ztV:=FT [zk] [Q6] λx=>ZK x.1
theorem ziv:FK 78 ztV:=rm.T1 (f:=Tryz.f78) (keep:=k0) (e:=e0)
theorem zix:FK 78 (aK [zk] [.str] λx=>(x.1.1.1,())):=ij ziv λ_=>rfl
def zgj:=((((WL.add 78 (aK [zk] [.str] λx=>(x.1.1.1,()))).add 138 zhl).aut 80 Tryz.f80 2).aut 81 Tryz.f81 1)
theorem GM:zw zgj:=iC (iC ((OE.add zix).add zi8) (bL kw)) (bL kw)
abbrev zrs:=kJ [(6,[1,2,5,6,19,20,21])]
inductive SY where
 |h6 (l1:zR) (l6:List (Sem Q6)) (l19:zR) (i20:Int) (i21:Int) (z0:zo [CP.d aq])
abbrev zui:SY->Nat×St
 |.h6 x a l i h z=>(6,⟨tm 55 [(1,sl zk x),(2,ptr 0 0),(5,ptr 1 0),(6,sl Q6 a),(19,sl zk l),(20,ai i),(21,ai h)],[Qa (bI [] [CP.d aq] z),Qa [AV.clo (Fn.func 78) [] []]]⟩)
def zq2(x:ar)(h:Sem zk.sl):Tr (SY⊕au):=
 let a:=lG (x.1,x.2.1,x.2.2.1,(x.2.2.2.1.1,x.2.2.2.1.2.1,x.2.2.2.1.2.2.1,x.2.2.2.1.2.2.2.1,x.2.2.2.1.t.1,zr x.2.2.2.1.t.2),x.t)
 br ((↑(Io h):Int)!=(↑(Io a):Int)) (re (ai 1) []) (Q9 (SY.h6 h a h (↑(Io h):Int) 0 (x,())))
def zec:SY->Tr (SY⊕au)
 | .h6 l d x b i z=>
  let k:=x.getD i.toNat (zi zk)
  let c:=(z.1.1,z.1.2.1,z.1.2.2.1,(z.1.2.2.2.1.1,z.1.2.2.2.1.2.1,z.1.2.2.2.1.2.2.1,z.1.2.2.2.1.2.2.2.1,z.1.2.2.2.1.t.1,zr z.1.2.2.2.1.t.2),z.1.t)
  let a:=Y7 c l
  let e:=(a.1,a.2.1,a.2.2.1,a.2.2.2.1,a.t.1,a.t.2.1,a.t.q.1,a.t.q.2.1,zr a.t.t.1,a.t.t.2.1,a.t.t.q.1,zr a.t.t.q.2.1,a.t.t.t)
  let h:=pOf (f7 l) e
  let g:=h.2!=0
  let j:=(h.1.1,h.1.2.1,h.1.2.2.1,(h.1.2.2.2.1.1,h.1.2.2.2.1.2.1,h.1.2.2.2.1.2.2.1,h.1.2.2.2.1.2.2.2.1,h.1.2.2.2.1.t.1,zr h.1.2.2.2.1.t.2),h.1.t)
  br (Q0 (i<b))
  (Qc (zK i (Io x)) (Qc (zK i (Io d)) (br (!k.1.1==d.getD i.toNat (zi Q6)) (re (ai 1) []) (Q9 (SY.h6 l d x b (Γ Δ (i+1)) z)))))
  (Qc (Q0 (0<Io l)) (Qc (Q0 (Io l<=1000)) (Qc (two l) (Qc (Pu c l) (Qc (zlY (f7 l) e) (Qc (cond g Q3 (I3 c j)) (br (cond g Q3 (!MD c j)) (re (ai 1) []) (re (ai 0) []))))))))
def R9(x:ar)(h:Sem zk.sl):=an [zj] zec 100000000 (zq2 x h)
def Ho(x:ar)(h:Sem zk.sl):=(R9 x h).isSome
def Ut(x:ar)(h:Sem zk.sl):=o1 (R9 x h)
def zng:=FT [aq,zk.sl] [zj] λx=>R9 x.1 x.2.1
theorem zh4:FK 31 zng:=GM.T1 (f:=Tryz.f31) (keep:=zrs) (e:=zui)
def zgk:=zgj.add 31 zng
theorem GN:zw zgk:=GM.add zh4
abbrev zrE:=kJ [(4,[1,6,7,8]),(12,[1,6,7,8,10,11,12])]
inductive mG where
 |h4 (l1:zR) (l6:List (Sem Q6)) (i8:Int)
 |h12 (l1:zR) (l6:List (Sem Q6)) (i8:Int) (i12:Int) (z0:zo [CP.d zk])
 |h12b (l1:zR) (l6:List (Sem Q6)) (i8:Int) (i12:Int) (z0:zo [CP.d zk]) (lh_1:dr)
 |h4b (l1:zR) (l6:List (Sem Q6)) (i8:Int) (lh_0:zR)
 |h12bb (l1:zR) (l6:List (Sem Q6)) (i8:Int) (i12:Int) (z1:zo [CP.d zk]) (lh_0:zR)
 |h12bbb (l1:zR) (l6:List (Sem Q6)) (i8:Int) (i12:Int) (z1:zo [CP.d zk]) (lh_0:zR) (lh_2:dr)
abbrev zup:mG->Nat×St
 |.h4 x a h=>(4,⟨tm 67 [(1,sl zk x),(6,sl Q6 a),(7,Qb),(8,ai h)],[]⟩)
 |.h12 x a h i z=>(12,⟨tm 67 [(1,sl zk x),(6,sl Q6 a),(7,Qb),(8,ai h),(10,ptr 0 0),(11,Qb),(12,ai i)],[Qa (bI [] [CP.d zk] z)]⟩)
 |.h12b x a h i z b=>(12,⟨tm 67 [(1,sl zk x),(6,sl Q6 a),(7,Qb),(8,ai h),(10,ptr 0 0),(11,AV.vec 1),(12,ai i)],[Qa (bI [] [CP.d zk] z),AO.vec zB b]⟩)
 |.h4b x a h l=>(4,⟨tm 67 [(1,sl zk x),(6,sl Q6 a),(7,AV.vec 0),(8,ai h)],[AO.vec zk l]⟩)
 |.h12bb x a h i e l=>(12,⟨tm 67 [(1,sl zk x),(6,sl Q6 a),(7,AV.vec 0),(8,ai h),(10,ptr 1 0),(11,Qb),(12,ai i)],[AO.vec zk l,Qa (bI [] [CP.d zk] e)]⟩)
 |.h12bbb x a h i e l c=>(12,⟨tm 67 [(1,sl zk x),(6,sl Q6 a),(7,AV.vec 0),(8,ai h),(10,ptr 1 0),(11,AV.vec 2),(12,ai i)],[AO.vec zk l,Qa (bI [] [CP.d zk] e),AO.vec zB c]⟩)
def zkE(x:ar)(h:Sem zk.sl):Tr (mG⊕au):=
 let a:=(x.1,x.2.1,x.2.2.1,(x.2.2.2.1.1,x.2.2.2.1.2.1,x.2.2.2.1.2.2.1,x.2.2.2.1.2.2.2.1,x.2.2.2.1.t.1,zr x.2.2.2.1.t.2),x.t)
 Qc (jU a) (Q9 (mG.h4 h (lH a) 0))
def gQ:mG->Tr (mG⊕au)
 | .h4 a h x=>
  let c:=lN a (h.getD x.toNat (zi Q6))
  br (Q0 (x<(↑h.length:Int)))
  (Qc (zK x (Io h)) (br (Q0 (c<0)) (re (tup [Qb,kb Q4]) []) (Qc (zK c (Io a)) (Q9 (mG.h12 a h x 0 (a.getD (toNat c) (zi zk),()))))))
  (re (tup [Qb,kb Q3]) [])
 | .h12 a h x i z=>
  let c:=(↑(Io z.1.1.t.1):Int)
  let j:=zK i (Io z.1.1.t.1)
  let d:=getD z.1.1.t.1 i.toNat (zi zB)
  let k:=[d]
  let m:=Γ Δ (i+1)
  let n:=[((z.1.1.1,z.1.1.2.1,z.1.1.2.2.1,z.1.1.2.2.2.1,[],zr z.1.1.t.2),z.1.2)]
  br (Q0 (i<c))
  (Qc j (Qc (Au h d.2) (br (M8 h d.2) (Qc j (Qc (Q0 (Io k<=1073741824)) (Q9 (mG.h12b a h x m z k)))) (Q9 (mG.h12 a h x m z)))))
  (Qc (Q0 (Io n<=1073741824)) (Q9 (mG.h4b a h (Γ Δ (x+1)) n)))
 | .h12b a h x i z e=>
  let c:=(↑(Io z.1.1.t.1):Int)
  let j:=zK i (Io z.1.1.t.1)
  let d:=getD z.1.1.t.1 i.toNat (zi zB)
  let k:=[d]
  let m:=Γ Δ (i+1)
  let n:=[((z.1.1.1,z.1.1.2.1,z.1.1.2.2.1,z.1.1.2.2.2.1,e,zr z.1.1.t.2),z.1.2)]
  br (Q0 (i<c))
  (Qc j (Qc (Au h d.2) (br (M8 h d.2) (Qc j (Qc (Q0 (Io e+Io k<=1073741824)) (Q9 (mG.h12b a h x m z (e++k))))) (Q9 (mG.h12b a h x m z e)))))
  (Qc (Q0 (Io n<=1073741824)) (Q9 (mG.h4b a h (Γ Δ (x+1)) n)))
 | .h4b a h x l=>
  let c:=lN a (h.getD x.toNat (zi Q6))
  br (Q0 (x<(↑h.length:Int)))
  (Qc (zK x (Io h)) (br (Q0 (c<0)) (re (tup [Qb,kb Q4]) []) (Qc (zK c (Io a)) (Q9 (mG.h12bb a h x 0 (a.getD (toNat c) (zi zk),()) l)))))
  (re (tup [AV.vec 0,kb Q3]) [AO.vec zk l])
 | .h12bb a h x i b l=>
  let c:=(↑(Io b.1.1.t.1):Int)
  let j:=zK i (Io b.1.1.t.1)
  let d:=getD b.1.1.t.1 i.toNat (zi zB)
  let k:=[d]
  let m:=Γ Δ (i+1)
  let n:=[((b.1.1.1,b.1.1.2.1,b.1.1.2.2.1,b.1.1.2.2.2.1,[],zr b.1.1.t.2),b.1.2)]
  br (Q0 (i<c))
  (Qc j (Qc (Au h d.2) (br (M8 h d.2) (Qc j (Qc (Q0 (Io k<=1073741824)) (Q9 (mG.h12bbb a h x m b l k)))) (Q9 (mG.h12bb a h x m b l)))))
  (Qc (Q0 (Io l+Io n<=1073741824)) (Q9 (mG.h4b a h (Γ Δ (x+1)) (l++n))))
 | .h12bbb a h x i b l g=>
  let c:=(↑(Io b.1.1.t.1):Int)
  let j:=zK i (Io b.1.1.t.1)
  let d:=getD b.1.1.t.1 i.toNat (zi zB)
  let k:=[d]
  let m:=Γ Δ (i+1)
  let n:=[((b.1.1.1,b.1.1.2.1,b.1.1.2.2.1,b.1.1.2.2.2.1,g,zr b.1.1.t.2),b.1.2)]
  br (Q0 (i<c))
  (Qc j (Qc (Au h d.2) (br (M8 h d.2) (Qc j (Qc (Q0 (Io g+Io k<=1073741824)) (Q9 (mG.h12bbb a h x m b l (g++k))))) (Q9 (mG.h12bbb a h x m b l g)))))
  (Qc (Q0 (Io l+Io n<=1073741824)) (Q9 (mG.h4b a h (Γ Δ (x+1)) (l++n))))
def DR(x:ar)(h:Sem zk.sl):=an [zk.sl,Sh.bool] gQ 100000000 (zkE x h)
def Pz(x:ar)(h:Sem zk.sl):=(DR x h).isSome
def Zn(x:ar)(h:Sem zk.sl):=o2 (DR x h)
def znD:=FT [aq,zk.sl] [zk.sl,Sh.bool] λx=>DR x.1 x.2.1
theorem zis:FK 66 znD:=GN.T1 (f:=Tryz.f66) (keep:=zrE) (e:=zup)
def yZ:=zgk.add 66 znD
theorem xw:zw yZ:=GN.add zis
abbrev zgQ:=kJ [(4,[5,6,18,19,20]),(11,[9,34])]
inductive SZ where
 |h4 (i5:zq) (l18:List (Sem zf.sl)) (i19:Int) (i20:Int) (mh_0:List ((Int×Int×zH)×Int))
abbrev On:SZ->Nat×St
 |.h4 x l i h m=>(4,⟨tm 46 [(5,ai x),(6,AV.mp 0),(18,sl zf.sl l),(19,ai i),(20,ai h)],[AO.vmap Q3 m]⟩)
def zkB(x:ar)(h:Sem zk.sl):Tr (SZ⊕au):=
 let a:=(x.1,x.2.1,x.2.2.1,(x.2.2.2.1.1,x.2.2.2.1.2.1,x.2.2.2.1.2.2.1,x.2.2.2.1.2.2.2.1,x.2.2.2.1.t.1,zr x.2.2.2.1.t.2),x.t)
 let b:=getD h (toNat 0) (zi zk)
 Qc (mC a h) (Qc (zK 0 (Io h)) (Q9 (SZ.h4 (de a h) b.2 (↑(Io b.2):Int) 0 [])))
def ztE:SZ->Tr (SZ⊕au)
 | .h4 x l h i m=>
  let a:=l.getD i.toNat (zi zf.sl)
  br (Q0 (i<h))
  (Qc (zK i (Io l)) (Qc (zK x (Io a)) (Q9 (SZ.h4 x l h (Γ Δ (i+1)) (kQ m (getD a (toNat x) (zi zf)) 0)))))
  Tr.err
set_option maxRecDepth 100000
def wT(e:List ((Int×Int×zH)×Int))(k:Int×Int×zH):List ((Int×Int×zH)×Int):=match cI e k 0 with
 |some q=>e.eraseIdx q.1
 |none=>e
variable {w:World}{h:Array MapEntry}{e:List ((Int×Int×zH)×Int)}
theorem zcC{P:Program}{mt kt et:TypeId}(A:P.underlying mt=Q1 (.map kt et))(l:gJ P kt=Q3){r:Nat}{c:Nat}{k:Int×Int×zH}(v:eB k)
  (o:w.heap[r]?=Q1 (.map h c)) (u:(h.toList.map λa=>(a.key,a.val))=CC Q3 e) (C:∀p∈e,cZ .i64 p.2/\eB p.1) (y:mh h c):
  ∃b:Array MapEntry,(∀z,(Builtin.delete_ #[mt,kt] z #[.map (Q1 r),cB k]).run P w=.ok (.tuple #[]) {w with heap:=w.heap.setIfInBounds r (.map b c)})/\
   (b.toList.map λa=>(a.key,a.val))=CC Q3 (wT e k)/\(∀x∈b.toList,x.born<c)/\(b.toList.map (·.born)).Nodup:=by
 have j:=jG (P:=P) (w:=w) l v Q3 e h.toList u C;have d:∀x∈h.toList,x.born<c:=λx t=>by
  obtain⟨i,s,rfl⟩:=fP t;have:=y.2 i h.toList[i] (by rw[<-pl];exact z6 s);rw[this,y.1];simpa using s
 have n:(h.toList.map (·.born)).Nodup:=by
  have:h.toList.map (·.born)=List.range h.size:=by
   apply List.ext_getElem
   .simp
   .intro i B D;have s:i<h.size:=by simpa using B
    simp only[List.getElem_map,List.getElem_range];exact y.2 i _ (by rw[<-pl];exact z6 (by simpa using s))
  rw[this];exact List.nodup_range
 unfold wT;cases m:cI e k 0 with
 | none=>
  rw[m]at j;refine⟨h,λz=>?_,u,d,n⟩;simp[Builtin.delete_,bA A,gD o,bD l,j,mZ _ o,Result.andThen]
 | some q=>
  rw[m]at j;have g:((h.eraseIdxIfInBounds q.1).toList)=h.toList.eraseIdx q.1:=by simp
  refine⟨h.eraseIdxIfInBounds q.1,λz=>?_,?_,λx t=>?_,?_⟩
  .simp[Builtin.delete_,bA A,gD o,bD l,j,mZ _ o,Result.andThen]
  .rw[g,nF,u];exact(nF _ e q.1).symm
  .rw[g]at t;exact d x (List.mem_of_mem_eraseIdx t)
  .rw[g];exact n.sublist ((List.eraseIdx_sublist _ _).map _)
def Ey:Code:=match Tryz.f32.body with
 |some (.seq _ (.seq _ (.seq _ (.seq _ r))))=>r
 |_=>.skip
def Du:Code:=match Tryz.f32.body with
 |some (.seq _ (.seq _ (.seq _ (.seq (.seq _ (.block _ (.loop c))) _))))=>c
 |_=>.skip
theorem zks:ab Tryz.f32 4=[.code Du,.inLoop Du,.inBlock 0,.code Ey]:=kw
theorem zkL:(Tryz.prog.info? 30).map (λi=>(i.zero,i.size,i.bytes))=Q1 (Q1 (.agg #[.int .i64 0,.int .i64 0,.string ⟨#[]⟩]),3,32):=kw
def L0(l:List ((Int×Int×zH)×MapEntry)):List Value:=l.flatMap λp=>[.int .i64 p.1.1,.int .i64 p.1.2.1,.string ⟨p.1.2.2.toArray⟩]
structure zhi (w1:World) (r clock:Nat) (ents':Array MapEntry) (v:Value) (wr:World) (seen:Array Nat) (E:List ((Int×Int×zH)×MapEntry)):Prop where
 it:∃c0,wr.heap[w1.heap.size]?=Q1 (.mapIter (Q1 r) clock seen c0)/\clock<=c0
 mp:wr.heap[r]?=Q1 (.map ents' clock)
 sub:∀p∈E,p.2∈ents'.toList/\p.2.key=cB p.1
 sn:seen.toList=E.map λp=>p.2.born
 nd:(E.map λp=>p.2.born).Nodup
 row:wr.ownsRow w1.heap.size 30 3 v (Io E) (L0 E)
 bel:RowKit.Below w1.heap.size w1 wr
 cnt:Io E+(leftOf ents' seen).size<=ents'.size
theorem Tp(w:World)(l:List Value)(t:TypeId):∀j u,l[j]?=Q1 u->(w.alloc (.cells l.toArray t)).cell? ((⟨w.heap.size,0,none⟩:Addr).add j)=Q1 u:=by
 intro j u h;unfold Addr.add;split
 next e=>subst e;simp[h]
 .simp[h]
theorem zdU(Q:Exit->Act->World->Prop)(S:Value->World->Prop)(r:Nat)(d:Array MapEntry)(c:Nat)(w i:World)(l0:∀ty,(Builtin.delete_ #[158,30] ty #[.map (Q1 r),.agg #[.int .i64 0,.int .i64 0,.string ⟨#[]⟩]]).run Tryz.prog w=.ok (.tuple #[]) i)(hm:i.heap[r]?=Q1 (.map d c))(N:∀x∈d.toList,x.born<c)(x2:(d.toList.map (·.born)).Nodup) (X:∀x∈d.toList,∃k,x.key=cB k) (l5:d.size<=1000)
  (h0:∀v wr s E,zhi i r c d v wr s E->(leftOf d s).size=0->Calls Tryz.prog 87 #[v,.func (.func 50) #[] #[]] wr λe w'=>e=.returned (.tuple #[])/\S v w')
  (hQ:∀v w'(a:Act),S v w'->a.tmps[4]?=Q1 v->a.defers=[]->Q Exit.ret a w')
  (v0 v1 v2 v3 v4 v5 v7 v8 v9 x9 a0 a1 a2 a3 a4 a5 a6 a7 a8 v20 a9 i1 i2 i3 i4 i5 i6 i7 i8 i9 j0 j1 j2 j3 j4 j5 j6 j7 j8 j9 k4 k5 k6 k7 k8:Value):
  Ey.wp Tryz.prog Q {tmps:=#[v0,v1,v2,v3,v4,v5,(Value.map (Q1 r)),v7,v8,v9,x9,a0,a1,a2,a3,a4,a5,a6,a7,a8,v20,a9,i1,i2,i3,i4,i5,i6,i7,i8,i9,j0,j1,j2,j3,j4,j5,j6,j7,j8,j9,k4,k5,k6,k7,k8],defers:=[]} w:=by
 have l3:=run_range_map (P:=Tryz.prog) i 158 30 159 r d c Tryz.underlying158 hm;simp only[Ey,Tryz.f32]
 go_wp2
 obtain⟨i0,hi,x6,x7,x8⟩:=info_parts zkL
 go_loopw [9] (λv wr=>∃s E,zhi i r c d v wr s E)
  (λ_ wr=>(leftOf d (wr.iterSeen i.heap.size)).size)
 case atStart=>
  exact⟨#[],[],⟨⟨c,heap_alloc_new _ _,ah _⟩,by rw[heap_alloc_old _ _ (mc.1 hm).1];exact hm,sw,sw,sw,World.ownsRow_nil _ _ _ _,(RowKit.Below.refl _ _).alloc (ah _) _,by simpa[leftOf]using Array.size_filter_le⟩⟩
 case round=>
  obtain⟨s,E,m⟩:=hrel;obtain⟨c0,A,x4⟩:=m.it;have l1:r<i.heap.size:=(mc.1 hm).1;rcases run_next_at (P:=Tryz.prog) wr 0 i.heap.size r c c0 s d c A m.mp N x4 with⟨hz,C⟩|⟨e,O,wd,z,C⟩
  .have h7:=h0 _ _ _ _ m (by simpa using hz);clear m
   go_wp2_with (go_at_call 87;refine h7.mono ?_;rintro e w' ⟨rfl,hS⟩)
   exact hQ _ _ _ hS rfl rfl
  .have T:e∈d.toList:=by simp[leftOf]at O|-;exact O.1
   have h9:e.born∉E.map λp=>p.2.born:=by
    rw[<-m.sn];simp[leftOf]at O|-;exact O.2
   obtain⟨k,hk⟩:=X e T;have x1:0<(leftOf d s).size:=by
    have:=List.length_pos_of_mem O;simpa using this
   have k9:=m.cnt;have l2:Io E<1000:=by omega
   obtain⟨W,l⟩:∃W,ChangeMaps.setBlock wd i.heap.size (.mapIter (Q1 r) c (s.push e.born) c)=W:=⟨_,rfl⟩;rw[l]at C;have D:wd.heap=wr.heap:=by rcases z with rfl|rfl<;>rfl
   have h2:i.heap.size<wr.heap.size:=(mc.1 A).1;have n:W.heap[i.heap.size]?=Q1 (.mapIter (Q1 r) c (s.push e.born) c):=by
    rw[<-l];show(wd.heap.setIfInBounds _ _)[_]?=_;rw[D];simp[h2]
   have L:∀j,j≠i.heap.size->W.heap[j]?=wr.heap[j]?:=λj B=>by
    rw[<-l];show(wd.heap.setIfInBounds _ _)[_]?=_;rw[D,Array.getElem?_setIfInBounds_ne (λe=>B e.symm)]
   have M:W.heap.size=wr.heap.size:=by
    rw[<-l];show(wd.heap.setIfInBounds _ _).size=_;rw[D];simp
   have U:wr.grownBy W (Q1 i.heap.size):=⟨by rw[<-l];rcases z with rfl|rfl<;>rfl,by rw[<-l];rcases z with rfl|rfl<;>rfl,by rw[<-l];rcases z with rfl|rfl<;>rfl,by rw[M];exact ah _,λj _ B=>L j λe=>B (by rw[e])⟩;have H:W.heap[r]?=Q1 (.map d c):=(L r ow).trans m.mp;have h1:=run_entry_at (P:=Tryz.prog) W i.heap.size r c s d c e n H T x2;have y:=m.row.kept U (by
    rcases m.row.2 with⟨rfl,_⟩|⟨g,h5,h6,rfl,_,t,_⟩
    .exact .inl rfl
    .refine .inr λe'=>?_
     have:g=i.heap.size:=by simpa[Value.ownBlock]using e'
     subst this;rw[A]at t;cases t)
   have q:RowKit.Below i.heap.size i W:=m.bel.grown U m.bel.size (λj e=>by cases e;exact ah _);rw[hk]at C h1;obtain⟨k1,k2,k3⟩:=k;simp only[cB]at C h1;have h4:=m.sub;have x5:=m.sn;have h3:=m.nd;clear l z D M U m
   go_wp2_with (at_builtin;refine wpList_append_own _ rfl _ _ 39 rfl i.heap.size 30 i0 _ 3 32 Tryz.underlying39 hi x6 x7 x8 rfl (by decide) _ _ _ rfl ((y.alloc _).alloc _) ⟨W.heap.size+1,0,none⟩ 1 1 [.int .i64 k1,.int .i64 k2,.string ⟨k3.toArray⟩] rfl rfl (by have:=Tp (W.alloc (.cells #[.int .i64 k1,.int .i64 k2,.string ⟨k3.toArray⟩] 30)) [.int .i64 k1,.int .i64 k2,.string ⟨k3.toArray⟩] 30;simpa using this) (by simp[Value.oneCell']) (by unfold maxLen;omega) ow (by have:=q.size;simp;omega) ?_;intro v' w3 Z F Y;go_frame)
   obtain⟨o3,x3⟩:∃o:Obj,o=.cells #[.int .i64 k1,.int .i64 k2,.string ⟨k3.toArray⟩] 30:=⟨_,rfl⟩;have G:World.grownBy ((W.alloc o3).alloc o3) w3 u9.ownBlock:=by rw[x3];exact F
   clear F Y;have u:∀j,u9.ownBlock=Q1 j->i.heap.size<=j/\j≠i.heap.size:=by
    intro j B;rcases y.2 with⟨rfl,_⟩|⟨g,h5,h6,rfl,h8,t,_⟩
    .simp[Value.ownBlock]at B
    .have:g=j:=by simpa[Value.ownBlock]using B
     subst this;exact⟨h8,λe'=>by subst e';rw[n]at t;cases t⟩
   have l4:i.heap.size<W.heap.size:=(mc.1 n).1;have J:∀j,j<=i.heap.size->w3.heap[j]?=W.heap[j]?:=λj B=>by
    rw[G.block j sg (λe'=>by obtain⟨a,b⟩:=u j e'.symm;omega),heap_alloc_old _ _ sg,heap_alloc_old _ _ ow]
   have I:w3.heap[i.heap.size]?=Q1 (Obj.mapIter (Q1 r) c (s.push e.born) c):=(J _ (ah _)).trans n;have x0:L0 (E++[((k1,k2,k3),e)])=L0 E++[.int .i64 k1,.int .i64 k2,.string ⟨k3.toArray⟩]:=by simp[L0]
   refine⟨⟨s.push e.born,E++[((k1,k2,k3),e)],⟨⟨c,I,ah _⟩,(J r ow).trans H,?_,?_,?_,?_,?_,?_⟩⟩,?_⟩
   .intro p hp;rcases cz.1 hp with h|h
    .exact h4 p h
    .obtain rfl:=dU.1 h;exact⟨T,hk⟩
   .simp[x5]
   .rw[eC];refine List.nodup_append.2 ⟨h3,sw,λa ha b hb=>?_⟩;have:b=e.born:=by simpa using hb
    rintro rfl;exact h9 (this▸ha)
   .rw[x0,ik];exact Z
   .exact((q.alloc ow _).alloc sg _).grown G sg (λj B=>(u j B).1)
   .have:=left_shrinks _ _ _ O;rw[ik];simp only[eJ,pn];omega
   .have e1:wr.iterSeen i.heap.size=s:=by simp[World.iterSeen,A]
    have e2:w3.iterSeen i.heap.size=s.push e.born:=by simp[World.iterSeen,I]
    rw[e1,e2];exact left_shrinks _ _ _ O
abbrev V3:={x:zp//bf x=Q3}
def km(p:V3):List Value:=[.int .i64 p.1.1,.int .i64 p.1.2.1,.string ⟨(p.1.2.2:zH).toArray⟩]
def K5(p q:V3):Int:=aO p.1 q.1
theorem zmg[Inhabited V3](d:Array V3)(B j:Nat)(w:World)(s:HoldsK km 3 w B 0 d)(q:B<w.heap.size)(h:d.size<4611686018427387904):
  Calls Tryz.prog 87 #[.slice (Q1 ⟨B,0,none⟩) d.size j,.func (.func 50) #[] #[]] w λe l=>e=.returned (.tuple #[])/\∃n os,l=sortWorldK km 3 w B 0 n (d.toList.mergeSort λx y=>!(ltOf K5) y x).toArray os:=by
 refine AnyQ.slices_SortFunc_total Tryz.sortVal 3 Tryz.isAgg30 Tryz.sizeOf30 km (λ_=>rfl) ?_ K5 ?_ 50 #[] B 0 j d w zuK ?_ s q h ?_
 .intro x v k;simp only[km,b8,List.not_mem_nil,or_false]at k;rcases k with rfl|rfl|rfl<;>rfl
 .refine⟨λx=>?_,λx y z h g=>?_,λx y z h g=>?_⟩
  .exact z7 (gj (a:=x.1))
  .simp only[ltOf,aQ]at h g|-;exact gC (a:=x.1) (b:=y.1) (c:=z.1) h g
  .simp only[ltOf,dZ]at h g|-;intro i;rcases nY x.2 y.2 h with e|e
   .unfold K5 at i;rw[e]at i;exact g i
   .exact g (gC (a:=y.1) (b:=x.1) (c:=z.1) e i)
 .intro m os u t x y;show Calls Tryz.prog 50 (#[Value.agg (km x).toArray,Value.agg (km y).toArray]++#[]) _ _;refine(zdG x.1.1 x.1.2.1 x.1.2.2 y.1.1 y.1.2.1 y.1.2.2 _).mono ?_;rintro A l ⟨rfl,o,p⟩;exact⟨rfl,gd_of o p⟩
 .intro x y h g;simp only[ltOf,dZ]at h g;rcases nY x.2 y.2 h with e|e
  .exact Subtype.ext e
  .exact zC e g
theorem uX[Inhabited V3]:∀(l:List V3)(t:Nat),t<Io l*3->(l.flatMap km)[t]?=Q1 (km (l[t/3]!))[t%3]!
 |[],t,h=>by simp at h
 | a::l,t,h=>by
  rw[List.flatMap_cons];by_cases x:t<3
  .have e0:t/3=0:=by omega
   have e:t%3=t:=by omega
   rw[kG (by simpa[km]using x),e0,e];rw[List.getElem!_cons_zero,z6 (by simpa[km]using x),getElem!_pos]
  .obtain⟨s,rfl⟩:∃s,t=s+3:=⟨t-3,ow⟩;have e0:(s+3)/3=s/3+1:=by omega
   have e:(s+3)%3=s%3:=by omega
   rw[jg (by simp[km]),e0,e,List.getElem!_cons_succ];have:=uX l s (by simp at h;omega);simpa[km]using this
theorem Dc:∀l:List V3,(l.flatMap km).length=Io l*3
 |[]=>rfl
 | a::l=>by
  rw[List.flatMap_cons,ik,Dc l,eJ];simp[km];omega
variable {v:Value}{l:List V3}
theorem Y5[Inhabited V3](z:w.ownsRow i 30 3 v (Io l) (l.flatMap km))(p:Io l<4611686018427387904)(I:l≠[]):
  Calls Tryz.prog 87 #[v,.func (.func 50) #[] #[]] w λe M=>e=.returned (.tuple #[])/\M.ownsRow i 30 3 v (Io l) ((l.mergeSort λx y=>!(ltOf K5) y x).flatMap km)/\w.grownBy M v.ownBlock:=by
 rcases z.2 with⟨_,O⟩|⟨g,j,o,rfl,C,a,s,E,q,L⟩
 .exact zC (List.length_eq_zero_iff.1 O) I
 have P:HoldsK km 3 w g 0 l.toArray:=by
  intro t c;rw[size_flatK]at c;have A:t<Io l*3:=by simpa using c
  have T:o.toList[t]?=Q1 (km (l[t/3]!))[t%3]!:=by
   rw[<-uX l t A,<-L,List.getElem?_take_of_lt A]
  refine⟨?_,by simp[World.frozen?,a]⟩;rw[get_flatK _ _ _ _ c];simp[World.cell?,a];simpa using T
 have N:=zmg l.toArray g j w P (mc.1 a).1 (by simpa using p);have J:l.toArray.size=Io l:=by simp
 rw[J]at N;refine N.mono ?_;rintro e M ⟨rfl,m,os,rfl⟩;have h:(l.mergeSort λx y=>!(ltOf K5) y x).length=Io l:=List.length_mergeSort _;simp only[];generalize(l.mergeSort λx y=>!(ltOf K5) y x)=d at h;have B:=ve (enc:=km) (k:=3) (n:=m) (os:=os) d.toArray a;have u:∀b,b<w.heap.size->b≠g->(sortWorldK km 3 w g 0 m d.toArray os).heap[b]?=w.heap[b]?:=λb S H=>ic d.toArray S H
 refine⟨by first|trivial|rfl,⟨by rw[Dc,h],.inr ⟨g,j,_,rfl,C,B,s,E,by simp[putCells,q],?_⟩⟩,⟨rfl,rfl,rfl,?_,λk U H=>u k U λe=>H (by rw[e];rfl)⟩⟩
 .apply pm;intro t;by_cases c:t<Io l*3
  .rw[List.getElem?_take_of_lt c,uX d t (by rw[h];exact c),pl];have D:t<o.size:=by rw[q];exact gF c (gE 3 s)
   have F:=get_flatK km 3 d.toArray t (by simpa[h]using c);have G:(flatK km 3 d.toArray).size=Io l*3:=by simp[h]
   unfold putCells;rw[Array.getElem?_mapIdx,pD D];simp only[B3,aM,ew,G,c,and_self,zh,Nat.sub_zero,F,id_eq];simp
  .rw[eZ sg,eZ (by rw[Dc,h];omega)]
 .unfold sortWorldK grow putRowK;simp[Sort.ahead]
theorem Um(p:Option Addr)(c:Nat)(h:Value)(w:World):Calls Tryz.prog 87 #[.slice p 0 c,h] w λe x=>e=.returned (.tuple #[])/\x=w:=
 AnyF.slices_SortFunc_none {Tryz.sortVal with} p c h w
theorem zgY:∀E:List ((Int×Int×zH)×MapEntry),(∀p∈E,bf p.1=Q3)->∃l:List V3,l.map (·.1)=E.map (·.1)/\l.flatMap km=L0 E
 |[],_=>⟨[],rfl,rfl⟩
 | p::E,h=>by
  obtain⟨l,x,a⟩:=zgY E λq b=>h q (jN _ b)
  refine⟨⟨p.1,h p ln⟩::l,by simp[x],?_⟩;rw[List.flatMap_cons,a];rfl
def zbM(w:World)(e:Array MapEntry)(v:Value)(h:World):Prop:=
 ∃(E:List ((Int×Int×zH)×MapEntry))(l:List V3),(∀p∈E,p.2∈e.toList/\p.2.key=cB p.1)/\(∀x∈e.toList,x.born∈E.map λp=>p.2.born)/\(E.map λp=>p.2.born).Nodup/\l.map (·.1)=E.map (·.1)/\
  h.ownsRow w.heap.size 30 3 v (Io l) ((l.mergeSort λx y=>!(ltOf K5) y x).flatMap km)/\RowKit.Below w.heap.size w h
variable {E:List ((Int×Int×zH)×MapEntry)}
theorem Ts[Inhabited V3]{wr:World}{r k:Nat}{s:Array Nat}(d:zhi w r k h v wr s E)(A:(leftOf h s).size=0)(G:∀p∈E,bf p.1=Q3)(H:h.size<=1000):
  Calls Tryz.prog 87 #[v,.func (.func 50) #[] #[]] wr λe y=>e=.returned (.tuple #[])/\zbM w h v y:=by
 obtain⟨l,t,D⟩:=zgY E G;have j:Io l=Io E:=by simpa using congrArg Io t
 have i:∀x∈h.toList,x.born∈E.map λp=>p.2.born:=λx J=>by
  have:=all_seen h s A x J;rw[<-d.sn];simpa using this
 have b:=d.row;rw[<-D,<-j]at b;obtain⟨L,F,_⟩:=d.it;have u:w.heap.size<=wr.heap.size:=d.bel.size;by_cases m:l=[]
 .subst m;have I:∃p c,v=.slice p 0 c:=by
   rcases b.2 with⟨rfl,_⟩|⟨g,n,o,rfl,_⟩
   .exact⟨_,_,rfl⟩
   .exact⟨_,_,rfl⟩
  obtain⟨p,c,rfl⟩:=I;refine(Um p c _ wr).mono ?_;rintro e y ⟨rfl,rfl⟩;exact⟨rfl,E,[],d.sub,i,d.nd,t,by simpa using b,d.bel⟩
 .refine(Y5 b (by have:=d.cnt;omega) m).mono ?_;rintro e y ⟨rfl,B,C⟩;refine⟨rfl,E,l,d.sub,i,d.nd,t,B,d.bel.grown C u λa z=>?_⟩;rcases b.2 with⟨rfl,_⟩|⟨g,n,o,rfl,q,_⟩
  .simp[Value.ownBlock]at z
  .have:g=a:=by simpa[Value.ownBlock]using z
   exact this▸q
theorem Ui(x y z:V3)(h:ltOf K5 x y=Q4)(g:ltOf K5 y z=Q4):ltOf K5 x z=Q4:=by
 simp only[ltOf,dZ]at h g|-;intro d;rcases nY x.2 y.2 h with e|e
 .unfold K5 at d;rw[e]at d;exact g d
 .exact g (gC (a:=y.1) (b:=x.1) (c:=z.1) e d)
theorem Uh(x y:V3):(!(ltOf K5 y x)||!(ltOf K5 x y))=Q3:=by
 by_cases h:uk y.1 x.1
 .have:ltOf K5 x y=Q4:=by
   simp only[ltOf,dZ];exact λg=>gj (a:=y.1) (gC (a:=y.1) (b:=x.1) (c:=y.1) h g)
  simp[this]
 .have:ltOf K5 y x=Q4:=by
   simp only[ltOf,dZ];exact h
  simp[this]
theorem P1(l:List V3)(j:(l.map (·.1)).Nodup) (i:∀x∈l,x.1.1≠0):(l.mergeSort λx y=>!(ltOf K5) y x).map (·.1)=pV (l.map (·.1)):=by
 by_cases d:l=[]
 .subst d;simp[pV]
 .refine Z0 ?_ ((List.mergeSort_perm l _).map _) ?_
  .have e:l.map (·.1)≠[]:=by simpa using d
   simp only[ra,aE,dQ,aQ,bne_iff_ne,ne_eq];refine⟨⟨λx k=>?_,j⟩,by simpa using d⟩;obtain⟨y,m,rfl⟩:=bh.1 k;exact⟨y.2,i y m⟩
  .rw[List.pairwise_map];refine(List.pairwise_mergeSort (λa b c h g=>?_) (λa b=>Uh a b) l).imp λ{x y} h=>?_
   .simp only[yJ]at h g|-;exact Ui c b a g h
   .simp only[ltOf,yJ,dZ]at h;exact h
theorem Lb(e:List ((Int×Int×zH)×Int))(k:Int×Int×zH):List.Sublist (wT e k) e:=by
 unfold wT;split
 .exact List.eraseIdx_sublist _ _
 .exact List.Sublist.refl _
theorem yD(k:Int×Int×zH):∀(e:List ((Int×Int×zH)×Int))(i:Nat),(cI e k i).map (·.1)=(cI e k 0).map (λq=>q.1+i)
 |[],_=>rfl
 | p::r,i=>by
  unfold cI;cases k==p.1 with
  |true=>simp
  | false=>
   simp only[ax];have a:=yD k r (i+1);have x:=yD k r 1;rw[a];cases h:cI r k 0 with
   |none=>rw[h]at x;cases b:cI r k (0+1)<;>simp_all
   | some q=>
    rw[h]at x;cases b:cI r k (0+1)with
    |none=>simp_all
    |some c=>simp_all;omega
theorem Tv(p:(Int×Int×zH)×Int)(r:List ((Int×Int×zH)×Int))(k:Int×Int×zH):wT (p::r) k=if k=p.1 then r else p::wT r k:=by
 unfold wT;by_cases h:k=p.1
 .simp[cI,h]
 .have b:(k==p.1)=Q4:=by simpa using h
  rw[zg h];simp only[cI,b,ax];have:=yD k r 1;cases a:cI r k (0+1)with
  | none=>
   rw[a]at this;cases x:cI r k 0 with
   |none=>rfl
   |some q=>rw[x]at this;simp at this
  | some q=>
   rw[a]at this;cases x:cI r k 0 with
   |none=>rw[x]at this;simp at this
   | some c=>
    rw[x]at this;have e:q.1=c.1+1:=by simpa using this
    simp[e]
theorem Cp(k:Int×Int×zH):∀{c:List ((Int×Int×zH)×Int)},(c.map (·.1)).Nodup->∀x,x∈(wT c k).map (·.1)↔x∈c.map (·.1)/\x≠k
 |[],_,x=>by simp[wT,cI]
 | p::r,hn,x=>by
  rw[dC,List.nodup_cons]at hn;rw[Tv];split
  next h=>subst h;rw[dC,b8];refine⟨λa=>⟨.inr a,λe=>hn.1 (e▸a)⟩,λ⟨h,b⟩=>h.resolve_left b⟩
  .rename_i h;rw[dC,b8,dC,b8,Cp k hn.2 x];refine⟨λa=>?_,λ⟨a,b⟩=>a.imp id λa=>⟨a,b⟩⟩;rcases a with rfl|a
   .exact⟨.inl rfl,λe=>h e.symm⟩
   .exact⟨.inr a.1,a.2⟩
theorem xQ{α β:Type}{f:α->β}:∀{l:List α},(l.map f).Nodup->∀{a b:α},a∈l->b∈l->f a=f b->a=b
 |[],_,_,_,d,_,_=>by cases d
 | x::r,hn,a,b,d,hb,e=>by
  rw[dC,List.nodup_cons]at hn;rcases b8.1 d with c|c
  .rcases b8.1 hb with h|h
   .rw[c,h]
   .exact zC (show f x∈r.map f from bh.2 ⟨b,h,by rw[<-e,c]⟩) hn.1
  .rcases b8.1 hb with h|h
   .exact zC (show f x∈r.map f from bh.2 ⟨a,c,by rw[e,h]⟩) hn.1
   .exact xQ hn.2 c h e
theorem Mx:∀{l m:List Nat},l.Nodup->(∀x∈l,x∈m)->Io l<=Io m
 |[],m,_,_=>by simp
 | a::r,m,hn,h=>by
  rw[List.nodup_cons]at hn;have b:=h a ln;have d:=Mx (l:=r) (m:=m.erase a) hn.2 λx c=>(List.mem_erase_of_ne (λe:x=a=>hn.1 (e▸c))).2 (h x (jN _ c))
  have g:=List.length_erase_of_mem b;have i:=List.length_pos_of_mem b;rw[eJ];omega
theorem Mu(h:bf a=Q3)(x:a.1=0):a=(0,0,[]):=by obtain⟨k,n,s⟩:=a;subst x;unfold bf at h;simp at h;simp[h]
theorem p7(h:cB p=cB q):p=q:=by obtain⟨a,x,b⟩:=p;obtain⟨c,d,e⟩:=q;simpa[cB]using h
theorem MF(a:(h.toList.map λx=>(x.key,x.val))=CC Q3 e):h.toList.map (·.key)=(e.map (·.1)).map cB:=by have:=congrArg (List.map Prod.fst) a;simpa[CC,nh,uv]using this
theorem ti{a:zt}(c:∀x∈m,bf x=Q3)(d:∀x∈a,bf x=Q3)(h:∀x,x.1≠0->(x∈m↔x∈a)):pV m=pV a:=by
 obtain⟨l,e⟩:=ux c;obtain⟨g,i⟩:=ux d;refine JQ l g λx=>?_
 rw[e,i];exact⟨λb=>⟨(h x b.2).1 b.1,b.2⟩,λb=>⟨(h x b.2).2 b.1,b.2⟩⟩
theorem Ub(O:(h.toList.map λd=>(d.key,d.val))=CC Q3 e)(P:(e.map (·.1)).Nodup) (I:∀p∈e,bf p.1=Q3) (J:∀p∈e,p.1.1≠0)
   (s:∀p∈E,p.2∈h.toList/\p.2.key=cB p.1) (t:∀x∈h.toList,x.born∈E.map λp=>p.2.born) (G:(E.map λp=>p.2.born).Nodup) (v:(h.toList.map (·.born)).Nodup)  (D:l.map (·.1)=E.map (·.1)):
  (l.mergeSort λx y=>!(ltOf K5) y x).map (·.1)=pV (e.map (·.1)):=by
 have z:=MF O;have C:(h.toList.map (·.key)).Nodup:=by
  rw[z];exact List.Pairwise.map _ (λa b c d=>c (p7 d)) P
 have m:∀p∈E,p.1∈e.map (·.1):=λp g=>by
  obtain⟨L,M⟩:=s p g;have:p.2.key∈h.toList.map (·.key):=bh.2 ⟨_,L,rfl⟩;rw[z,M]at this;obtain⟨k,A,B⟩:=bh.1 this;exact p7 B▸A
 have F:(E.map (·.1)).Nodup:=by
  unfold List.Nodup at G|-;rw[List.pairwise_map]at G|-;refine G.imp_of_mem λ{p q} g n c d=>c ?_
  obtain⟨H,o⟩:=s p g;obtain⟨S,T⟩:=s q n;have:p.2.key=q.2.key:=by rw[o,T,d]
  rw[xQ C H S this]
 rw[P1 l (by rw[D];exact F) (λx i=>by
  have:x.1∈E.map (·.1):=by rw[<-D];exact bh.2 ⟨x,i,rfl⟩
  obtain⟨p,g,d⟩:=bh.1 this;obtain⟨q,n,u⟩:=bh.1 (m p g);rw[<-d,<-u];exact J q n),D]
 refine ti (λx i=>?_) (λx i=>?_) λx _=>⟨λi=>?_,λi=>?_⟩
 .obtain⟨p,g,rfl⟩:=bh.1 i;obtain⟨q,n,u⟩:=bh.1 (m p g);exact u▸I q n
 .obtain⟨p,g,rfl⟩:=bh.1 i;exact I p g
 .obtain⟨p,g,rfl⟩:=bh.1 i;exact m p g
 .have:cB x∈h.toList.map (·.key):=by rw[z];exact bh.2 ⟨x,i,rfl⟩
  obtain⟨d,j,w⟩:=bh.1 this;obtain⟨p,g,N⟩:=bh.1 (t d j);obtain⟨H,o⟩:=s p g;have:p.2=d:=xQ v H j N;rw[this,w]at o;exact bh.2 ⟨p,g,(p7 o).symm⟩
theorem Yn:∀l:List Value,Io l=46->∃O P S v3 T U W X Y Z v x a b c d e g i j v20 k m n o p q s t u w y z A B C D E F G H I J L M N,l=[O,P,S,v3,T,U,W,X,Y,Z,v,x,a,b,c,d,e,g,i,j,v20,k,m,n,o,p,q,s,t,u,w,y,z,A,B,C,D,E,F,G,H,I,J,L,M,N]:=by
 intro l h
 match l,h with
 |O::P::S::v3::T::U::W::X::Y::Z::v::x::a::b::c::d::e::g::i::j::v20::k::m::n::o::p::q::s::t::u::w::y::z::A::B::C::D::E::F::G::H::I::J::L::M::N::[],_=>exact⟨O,P,S,v3,T,U,W,X,Y,Z,v,x,a,b,c,d,e,g,i,j,v20,k,m,n,o,p,q,s,t,u,w,y,z,A,B,C,D,E,F,G,H,I,J,L,M,N,rfl⟩
theorem Ug(n:Int)(w:World)(T U W v3 X Y S Z v8 v9 v h x b c d g i j k l m o p q s u y z A B C D E F G H I J L M N O P:Value):
  Du.wp Tryz.prog (λe a w'=>e=.exit 0/\w'=w/\∃t:List Value,a=⟨t.toArray,[]⟩/\Io t=46/\t[6]?=Q1 S) {tmps:=#[T,U,W,v3,X,Y,S,Z,v8,v9,v,h,x,b,c,d,g,i,j,(Value.int .i64 n),(Value.int .i64 n),k,l,m,o,p,q,s,u,y,z,A,B,C,D,E,F,G,H,I,J,L,M,N,O,P],defers:=[]} w:=by
 simp only[Du,Tryz.f32]
 go_wp2
theorem ztt:Tryz.f32.results=#[.tmp 4]:=kw
theorem UH{tmps:Array Value}(h:tmps[4]?=Q1 v):(results Tryz.f32 tmps).run Tryz.prog w=.ok v w:=by
 have x:tmps.getD 4 undef=v:=by rw[pC,h];rfl
 rw[Ez,ztt];simp[Ex,x]
theorem YC:cB (0,0,[])=.agg #[.int .i64 0,.int .i64 0,.string ⟨#[]⟩]:=rfl
theorem zdk{U:Nat->Prop}{base:Nat}(I:∀b,U b->b<base)[Inhabited V3](B:∀x∈l,eB x.1)(F:Io l<=1000){m:List V3}(G:List.Perm m l)(q:w.ownsRow base 30 3 v (Io l) (m.flatMap km)):
  Rv w U (λ_=>none) (.sl zf (m.map (·.1))) v:=by
 have A:Io m=Io l:=G.length_eq;rcases q.2 with⟨rfl,N⟩|⟨g,u,e,rfl,J,o,M,L,y,C⟩
 .have:m=[]:=List.length_eq_zero_iff.1 ow;rw[this];exact .sl0 zf _ _
 .have H:(m.map (·.1)).length=Io l:=by simp[A]
  rw[<-H];refine .sl zf _ g 0 u (λi j=>(e[i*3+j]?).getD undef) ow um (mc.1 o).1 (λh=>by have:=I g h;omega) (λi j E t=>?_) (λi E j c a=>?_)
  .have t:j<3:=t;have z:i*3+j<e.size:=by rw[y];omega
   simp[World.cell?,o,pD z,show zf.size=3 from rfl]
  .have p:i<Io m:=by simpa using E
   have t:j<3:=by
    have:=(dc.1 a).1
    rwa [ag]at this
   have D:=uX m (i*3+j) ow;rw[show(i*3+j)/3=i by omega,show(i*3+j)%3=j by omega,<-C,List.getElem?_take_of_lt ow,pl,getElem!_pos m i p]at D;rw[D];simp only[bT];have d:=B m[i] (G.mem_iff.1 (bp p));simp only[List.getElem_map]at a;generalize m[i]=x at a d;obtain⟨⟨k,n,s⟩,O⟩:=x
   match j,t,a with
   |0,_,a=>cases a;exact .int _ _ d.1
   |1,_,a=>cases a;exact .int _ _ d.2.1
   |2,_,a=>cases a;exact .str _ d.2.2
theorem zdS{E:cg}(qp:E.P=Tryz.prog){C:eA}(hC:∀id,C.ρ0 id=none)(es:List ((Int×Int×zH)×Int))(h3:Io es<=1000)(hn:(es.map (·.1)).Nodup) (hm:∀p∈es,bf p.1=Q3) (x5:zq) (i2:List (Sem zf.sl)) (n:Int):
  Reach E C 32 (ab Tryz.f32 4) (On (.h4 x5 i2 n n es)).2 (λr h=>aU h [zf.sl] r=Q1 (pV (es.map (·.1)),())):=by
 intro b cs a w U ρ X x2 H D;rw[qp];rw[zks];have t:a.tmps.toList.length=46:=by rw[<-H.tm.len];rfl
 obtain⟨⟨ts⟩,df⟩:=a;have I:df=[]:=H.df;subst I;obtain⟨v0,v1,v2,v3,v4,v5,v6,v7,v8,v9,m7,m8,m9,n1,n2,n3,n4,n5,n6,n7,v20,n8,n9,v23,v24,v25,v26,v27,v28,v29,v30,v31,v32,v33,v34,v35,v36,v37,v38,v39,v40,v41,v42,v43,v44,v45,rfl⟩:=Yn ts t;have r6:=H.tm.rv 6 (.mp 0) v6 rfl rfl;have i3:=H.tm.rv 19 (.int .i64 n) n7 rfl rfl;have i4:=H.tm.rv 20 (.int .i64 n) v20 rfl rfl;have ho:bl w U ρ 0 (.vmap Q3 es):=H.hp.ob 0;have x3:=H.hp.blk 0;clear t;cases i3 with|int _ _ _=>
 cases i4 with|int _ _ _=>
 obtain⟨r,S,d,q1,q2,q3,q4,q5,q6⟩:=ho;cases r6 with|mp _ _ q7 _=>
 rw[q1]at q7;cases q7;have a3:C.B0 r\/C.w0.heap.size<=r:=x3 r ⟨rfl,_,q1,rfl⟩;obtain⟨c,u,Z,G,Y⟩:=zcC (P:=Tryz.prog) (mt:=158) (kt:=30) (et:=159) Tryz.underlying158 kw (k:=(0,0,[])) ⟨by unfold cZ;decide,by unfold cZ;decide,sw⟩ q3 q4 q5 q6;rw[YC]at u;have a4:r<w.heap.size:=(mc.1 q3).1;obtain⟨B,s⟩:∃B:World,({w with heap:=w.heap.setIfInBounds r (.map c d)}:World)=B:=⟨_,rfl⟩;rw[s]at u;have hs1:B.heap.size=w.heap.size:=by rw[<-s];simp
 have h5:B.heap[r]?=Q1 (.map c d):=by rw[<-s];simp[a4]
 have a0:∀j,j≠r->B.heap[j]?=w.heap[j]?:=λj A=>by rw[<-s];simp[Array.getElem?_setIfInBounds_ne (Ne.symm A)]
 have h6:=MF Z;have x4:((wT es (0,0,[])).map (·.1)).Nodup:=hn.sublist ((Lb _ _).map _);have x6:=Lb es (0,0,[]);have hk:∀x∈c.toList,∃k,x.key=cB k/\k∈(wT es (0,0,[])).map (·.1):=λx o=>by
  have:x.key∈c.toList.map (·.key):=bh.2 ⟨x,o,rfl⟩;rw[h6]at this;obtain⟨k,M,k2⟩:=bh.1 this;exact⟨k,k2.symm,M⟩
 have h9:c.size<=1000:=by
  have:=congrArg Io h6;simp only[cQ,Array.length_toList]at this;rw[this];exact aT x6.length_le h3
 have hinh:Inhabited V3:=⟨⟨(0,0,[]),kw⟩⟩;have m:∀x:zp,x∈(wT es (0,0,[])).map (·.1)->bf x=Q3/\eB x/\x.1≠0:=λx o=>by
  obtain⟨i0,i1⟩:=(Cp (0,0,[]) hn x).1 o;obtain⟨p,q,rfl⟩:=bh.1 i0;exact⟨hm p q,(q5 p q).2,λh0=>i1 (Mu (hm p q) h0)⟩
 obtain⟨e1,a1,wx,⟨rfl,rfl,ts,rfl,a7,a6⟩,W⟩:=Ug n w v0 v1 v2 v3 v4 v5 (.map (Q1 r)) v7 v8 v9 m7 m8 m9 n1 n2 n3 n4 n5 n6 n8 n9 v23 v24 v25 v26 v27 v28 v29 v30 v31 v32 v33 v34 v35 v36 v37 v38 v39 v40 v41 v42 v43 v44 v45 b [.inLoop Du,.inBlock 0,.code Ey] cs;have i5:=W [.code Ey] rfl;obtain⟨u0,u1,u2,u3,u4,u5,u6,u7,u8,u9,i6,i7,i8,i9,j0,j1,j2,j3,j4,j5,j6,j7,j8,j9,k3,k4,k5,k6,k7,k8,k9,l0,l1,l2,l3,l4,l5,l6,l7,l8,l9,m1,m2,m3,m4,m6,rfl⟩:=Yn ts a7;have a8:u6=.map (Q1 r):=by simpa using a6
 subst a8
 obtain⟨e2,a2,O,⟨rfl,v,a9,I,hK⟩,F⟩:=zdU (λe a O=>e=.ret/\∃v,a.tmps[4]?=Q1 v/\a.defers=[]/\zbM B c v O) (zbM B c) r c d wx B u h5 G Y (λx o=>(hk x o).imp λ_ h=>h.1) h9
  (λv wr seen E hC h0=>Ts hC h0 (λp q=>by
   obtain⟨s1,s2⟩:=hC.sub p q;obtain⟨k,M,k2⟩:=hk _ s1;rw[s2]at M;exact p7 M▸(m k k2).1) h9) (λv O a hS h4 hd=>⟨rfl,v,h4,hd,hS⟩) u0 u1 u2 u3 u4 u5 u7 u8 u9 i6 i7 i8 i9 j0 j1 j2 j3 j4 j5 j6 j7 j8 j9 k3 k4 k5 k6 k7 k8 k9 l0 l1 l2 l3 l4 l5 l6 l7 l8 l9 m1 m2 m3 m4 m6 b [] cs
 obtain⟨x0,a5⟩:=F;obtain⟨E,l,N,x1,nd,hl,h7,i⟩:=hK;have J:=Ub Z x4 (λp q=>(m _ (bh.2 ⟨p,q,rfl⟩)).1) (λp q=>(m _ (bh.2 ⟨p,q,rfl⟩)).2.2) N x1 nd Y hl;have T:pV ((wT es (0,0,[])).map (·.1))=pV (es.map (·.1)):=ti (λx o=>(m x o).1) (λx o=>by obtain⟨p,q,rfl⟩:=bh.1 o;exact hm p q) λx o=>by
  rw[Cp (0,0,[]) hn x];exact⟨λh=>h.1,λh=>⟨h,λe=>o (by rw[e])⟩⟩
 have x8:∀x∈l,eB x.1:=λx o=>by
  have:x.1∈E.map (·.1):=by rw[<-hl];exact bh.2 ⟨x,o,rfl⟩
  obtain⟨p,q,e⟩:=bh.1 this;obtain⟨s1,s2⟩:=N p q;obtain⟨k,M,k2⟩:=hk _ s1;rw[s2]at M;rw[<-e];exact p7 M▸(m k k2).2.1
 have x9:Io l<=1000:=by
  have h1:Io l=Io E:=by simpa using congrArg Io hl
  have h2:(E.map λp=>p.2.born).length<=(c.toList.map (·.born)).length:=Mx nd λx o=>by
   obtain⟨p,q,rfl⟩:=bh.1 o;exact bh.2 ⟨p.2,(N p q).1,rfl⟩
  simp only[cQ,Array.length_toList]at h2;omega
 have y:∀j,j<wx.heap.size->j≠r->O.heap[j]?=wx.heap[j]?:=λj A x7=>by rw[i.block j ow,a0 j x7]
 have z:wx.heap.size<=O.heap.size:=by have:=i.size;omega
 have h8:=zdk (U:=U) (base:=B.heap.size) (λb hb=>by have:=D.ub b hb;omega) x8 x9 (List.mergeSort_perm l _) h7;rw[J,T]at h8;refine⟨.returned v,O,{b.at a2 x0 with mode:=.returning},⟨v,.sl zf (pV (es.map (·.1))),[],U,λ_=>none,rfl,?_,h8,⟨λid=>by simp[bl],λ_ _ _ h=>by simp[af]at h,λ_ _ h=>by simp[af]at h⟩,λ_ _=>rfl,λid v h=>(by rw[hC id]at h;cases h),?_⟩,lp i5 a5,X,rfl,I,x2,Tryz.f32,?_,UH a9⟩
 .rfl
 .refine⟨D.ext.trans ⟨z,?_,?_,?_,λx o=>?_⟩,λj A hB=>?_,λj A=>gF (D.ub j A) z,D.u1,D.u2,λg=>(D.gl g).mono z (λj A hu=>y j A λe=>hu (e▸q2)) (λ_ _ h=>h) (λ_ _ h=>h)⟩
  .rw[i.os,<-s]
  .rw[i.output,<-s]
  .rw[i.tape,<-s]
  .by_cases L:x.block=r
   .have h1:O.heap[x.block]?=Q1 (.map c d):=by rw[L,i.block r ow,h5]
    have h2:wx.heap[x.block]?=Q1 (.map S d):=by rw[L,q3]
    simp[World.frozen?,h1,h2]
   .exact yI (y _ o L)
  .rw[y j (gF A D.ext.sz) λe=>a3.elim (λh=>hB (e▸h)) (λh=>by omega)];exact D.same j A hB
 .show Tryz.prog.funcs[b.fn]?=Q1 Tryz.f32;rw[X];kernel_rfl
theorem Es{n:Type}{t:cg}{C:eA}{k:FuncId}{f:Func}{Q:AV->List AO->Prop}{m n0:Nat}(c:zw t)(d:zM t.P k f m)(b:∀id,n0<=id->C.ρ0 id=none){keep:Nat->aP}{gas:Nat}{e:n->Nat×St}{K:List Item}{a:St}{i:Tr (n⊕au)}
  (x:run t n0 keep f.results.toList gas K a=i.map (lf f e)) {s:n} (g:i.val=Q1 (.inl s)) (h:Reach t C k (ab f (e s).1) (e s).2 Q):Reach t C k K a Q:=
 nR c d b (l:=lf f e (.inl s)) (by rw[x,Tr.val_map,g];rfl) h
def Ks(a:ar)(x:zR):zt:=(getD x 0 (zi zk)).2.map λh:zt=>getD h (toNat (de a x)) (zi zf)
def HS(a:ar)(x:zR):Bool:=mC a x&&(zK 0 (Io x)&&(Q0 (Io (getD x 0 (zi zk)).2<=1000)&&List.all (getD x 0 (zi zk)).2 λh:zt=>zK (de a x) (Io h)&&bf (getD h (toNat (de a x)) (zi zf))))
def cV(x:ar)(h:zR):zt:=pV (Ks x h)
def znh:=zZ [aq,zk.sl] [zf.sl] (λx=>HS x.1 x.2.1) λx=>(cV x.1 x.2.1,())
theorem HX{k:Int×Int×zH}{n:Int}:∀{es:List ((Int×Int×zH)×Int)},(kQ es k n).map (·.1)=if k∈es.map (·.1)then es.map (·.1)else es.map (·.1)++[k]
 |[]=>rfl
 | p::r=>by
  show(cond (k==p.1) ((k,n)::r) (p::kQ r k n)).map (·.1)=_;by_cases h:k=p.1
  .simp[h]
  .have a:(k==p.1)=Q4:=by simpa using h
   rw[a,ax,dC,HX (es:=r),dC];by_cases x:k∈r.map (·.1)
   .rw[ze x,ze (by simp only[b8];exact .inr x)]
   .rw[zg x,zg (by simp only[b8];exact λe=>e.elim h x)];rfl
theorem zc2{x:ar}(h:mC x d=Q3)(a:zK 0 (Io d)=Q3):(zkB x d).val=Q1 (.inl (.h4 (de x d) (getD d 0 (zi zk)).2 (Io (getD d 0 (zi zk)).2:Int) 0 [])):=by unfold zkB;simp only[zn];show(Qc (mC x d) (Qc (zK 0 (Io d)) _)).val=_;rw[h,a];rfl
theorem zh5:FK 32 znh:=by
 refine aL (E:=yZ) (f:=Tryz.f32) (bL kw) λx y C B=>?_
 obtain⟨l,g,u⟩:=x;have L:zM yZ.P 32 Tryz.f32 2:=bL kw;have F:∀x,run yZ 0 zgQ Tryz.f32.results.toList 400 (bq Tryz.f32) (aW Tryz.f32.ntmps (iY [Q1 aq,Q1 zk.sl] x) [])=(zkB x.1 x.2.1).map (lf Tryz.f32 On):=by intro x;kernel_rfl
 have H:∀s,run yZ 0 zgQ Tryz.f32.results.toList 400 (ab Tryz.f32 (On s).1) (On s).2=(ztE s).map (lf Tryz.f32 On):=by intro s;cases s<;>kernel_rfl
 simp only[HS,aE,aQ,dQ]at y;obtain⟨T,U,W,A⟩:=y;generalize q:(getD g 0 (zi zk)).2=c at W A;refine Es xw L (λid _=>B id) (F (l,g,u)) (zc2 T U) ?_;rw[q]
 have I:∀(m i:Nat)(j:List ((Int×Int×zH)×Int)),Io c-i=m->i<=Io c->(j.map (·.1)).Nodup->Io j<=i->(∀x,x∈j.map (·.1)↔x∈(c.take i).map λt:zt=>getD t (toNat (de l g)) (zi zf))->
   Reach yZ C 32 (ab Tryz.f32 (On (.h4 (de l g) c (Io c) i j)).1) (On (.h4 (de l g) c (Io c) i j)).2 λr h=>aU h [zf.sl] r=Q1 (cV l g,()):=by
  intro m
  induction m with
  | zero=>
   intro i j hm Y z Z d;obtain rfl:i=Io c:=by omega
   rw[fQ]at d;have o:∀x,x∈(c.map λt:zt=>getD t (toNat (de l g)) (zi zf))->bf x=Q3:=λx y=>by
    obtain⟨t,hr,rfl⟩:=bh.1 y;exact(A t hr).2
   have:=zdS (E:=yZ) rfl B j ow z (λp hp=>o _ ((d _).1 (bh.2 ⟨p,hp,rfl⟩))) (de l g) c (Io c);have e:cV l g=pV (j.map (·.1)):=by
    unfold cV Ks;rw[q];exact ti o (λx y=>o x ((d x).1 y)) λx _=>(d x).symm
   rw[e];exact this
  | succ m ih=>
   intro i j hm Y z Z d;have v:i<Io c:=by omega
   have D:=A c[i] (bp v);have G:=HX (k:=getD c[i] (toNat (de l g)) (zi zf)) (n:=0) (es:=j);refine Es xw L (λid _=>B id) (H (.h4 (de l g) c (Io c) i j)) (s:=.h4 (de l g) c (Io c) ((i+1:Nat):Int) (kQ j (getD c[i] (toNat (de l g)) (zi zf)) 0)) ?_ (ih (i+1) _ ow ow ?_ ?_ ?_)
   .have M:Q0 ((i:Int)<(Io c:Int))=Q3:=by simpa using v
    have N:zK (i:Int) (Io c)=Q3:=by simp[zK];omega
    have O:Γ Δ ((i:Int)+1)=((i+1:Nat):Int):=by
     exact zu i um
    have S:getD c (toNat (i:Int)) (zi zf.sl)=c[i]:=zX c _ v;simp only[ztE,M,N,O,S,D.1,Q8,zh]
   .rw[G];split
    .exact z
    next w=>exact List.nodup_append.2 ⟨z,sw,λa X b J e=>w (by rw[dU]at J;rw[<-J,<-e];exact X)⟩
   .have:=congrArg Io G;simp only[cQ]at this;rw[this];split
    .simp;omega
    .simp;omega
   .intro x;rw[G,List.take_succ_eq_append_getElem v,eC,cz,<-d x];simp only[dC,pU,dU];split
    next w=>exact⟨.inl,λh=>h.elim id λe=>e▸w⟩
    .rw[cz,dU]
 exact I (Io c) 0 [] ow ow sw sw sw
def zgi:=yZ.add 32 znh
theorem ro:zw zgi:=xw.add zh5
def zqP(x:ar)(h:Sem zk.sl):Tr (Empty⊕au):=
 let a:=(x.1,x.2.1,x.2.2.1,(x.2.2.2.1.1,x.2.2.2.1.2.1,x.2.2.2.1.2.2.1,x.2.2.2.1.2.2.2.1,x.2.2.2.1.t.1,zr x.2.2.2.1.t.2),x.t)
 Qc (Ho a h)
 (br (Ut a h !=0) (re (tup [Qb,ai 1]) [])
  (Qc (HS a h) (re (tup [sl zf (cV a h),ai 0]) [])))
def Kr(x:ar)(h:Sem zk.sl):=an [zf.sl,zj] t0 100000000 (zqP x h)
def Qp(x:ar)(h:Sem zk.sl):=(Kr x h).isSome
def zaj(x:ar)(h:Sem zk.sl):=o2 (Kr x h)
def zmI:=FT [aq,zk.sl] [zf.sl,zj] λx=>Kr x.1 x.2.1
theorem zht:FK 12 zmI:=ro.T1 (f:=Tryz.f12) (keep:=k0) (e:=e0)
def zkz(x:ar)(b:Sem zk.sl):Tr (Empty⊕au):=
 let a:=(x.1,x.2.1,x.2.2.1,(x.2.2.2.1.1,x.2.2.2.1.2.1,x.2.2.2.1.2.2.1,x.2.2.2.1.2.2.2.1,x.2.2.2.1.t.1,zr x.2.2.2.1.t.2),x.t)
 let h:=Zn a b
 Qc (Pz a b)
 (re
  (tup [agg [str x.1,str x.2.1,str x.2.2.1,str x.2.2.2.1.1,sl zl x.2.2.2.1.2.1,ai x.2.2.2.1.2.2.1,sl zj x.2.2.2.1.2.2.2.1,sl zB x.2.2.2.1.t.1,str (za.op x.2.2.2.1.t.2),ai (za.v x.2.2.2.1.t.2).1,ai (za.v x.2.2.2.1.t.2).2.1,str (za.v x.2.2.2.1.t.2).2.2,
  str (za.s x.2.2.2.1.t.2),sl Q5 (za.l x.2.2.2.1.t.2),sl zj x.t.1,ai x.t.2],sl zk h.1,AV.bool h.2])
  [])
def A8(x:ar)(h:Sem zk.sl):=an [aq,zk.sl,Sh.bool] t0 100000000 (zkz x h)
def IS(x:ar)(h:Sem zk.sl):=(A8 x h).isSome
def Ph(x:ar)(h:Sem zk.sl):=o3 (A8 x h)
def znb:=FT [aq,zk.sl] [aq,zk.sl,Sh.bool] λx=>A8 x.1 x.2.1
theorem zhY:FK 28 znb:=ro.T1 (f:=Tryz.f28) (keep:=k0) (e:=e0)
abbrev zrq:=kJ [(3,[0,3,4])]
inductive NW where
 |h3 (l0:dA) (i4:Int) (ja0:List UInt8) (ja1:aN) (ja2:Int) (ja5:List UInt8) (ja6:Int) (ja7:Int) (ja8:List UInt8) (ja9:List UInt8)
 |h3b (l0:dA) (i4:Int) (ja0:List UInt8) (ja1:aN) (ja2:Int) (ja5:List UInt8) (ja6:Int) (ja7:Int) (ja8:List UInt8) (ja9:List UInt8) (lh_1:List (Sem zf.sl))
abbrev zug:NW->Nat×St
 |.h3 g i j h x a b c d e=>(3,⟨tm 31 [(0,sl zj g),(3,ptr 0 0),(4,ai i)],[Qa [str j,sl zl h,ai x,Qb,Qb,str a,ai b,ai c,str d,str e,Qb,Qb]]⟩)
 |.h3b g i j h x a b c d e l=>(3,⟨tm 31 [(0,sl zj g),(3,ptr 0 0),(4,ai i)],[Qa [str j,sl zl h,ai x,Qb,Qb,str a,ai b,ai c,str d,str e,Qb,AV.vec 1],AO.vec zf.sl l]⟩)
def zvF(x:Sem zj.sl):Tr (NW⊕au):=
 Q9 (NW.h3 x 0 [118] [([110],1,Q3),([114],1,Q4)] 0 [] 0 0 [] [])
def zwl:NW->Tr (NW⊕au)
 | .h3 g i j h x a b c d e=>
  let k:=[[(1,i,[]),(1,g.getD i.toNat (zi zj),[])]]
  br (Q0 (i<(↑g.length:Int)))
  (Qc (zK i (Io g)) (Qc (Q0 (Io k<=1073741824)) (Q9 (NW.h3b g (Γ Δ (i+1)) j h x a b c d e k))))
  (re (sl zk [((j,h,x,[],[],za.mk a (b,c,d) e []),[])]) [])
 | .h3b g i j h x a b c d e l=>
  let k:=[[(1,i,[]),(1,g.getD i.toNat (zi zj),[])]]
  br (Q0 (i<(↑g.length:Int)))
  (Qc (zK i (Io g)) (Qc (Q0 (Io l+Io k<=1073741824)) (Q9 (NW.h3b g (Γ Δ (i+1)) j h x a b c d e (l++k)))))
  (re (sl zk [((j,h,x,[],[],za.mk a (b,c,d) e []),l)]) [])
def zlb(x:Sem zj.sl):=an [zk.sl] zwl 100000000 (zvF x)
def znd:=FT [zj.sl] [zk.sl] λx=>zlb x.1
theorem zh0:FK 30 znd:=ro.T1 (f:=Tryz.f30) (keep:=zrq) (e:=zug)
def zgl:=zgi.addL [(12,zmI),(28,znb),(30,znd)]
theorem GO:zw zgl:=ro.addL<|fc zht<|fc zhY<|fc zh0<|iH
end
end Cad
