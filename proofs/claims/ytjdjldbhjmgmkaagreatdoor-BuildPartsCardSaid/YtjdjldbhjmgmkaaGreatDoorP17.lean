/- Few of anything. -/
import Derived.Test.YtjdjldbhjmgmkaaGreatDoorP16
import Derived.Maps.RangeWalk
import Derived.Shelf.SlSortCmp.NoneTotal
namespace Cad
open Go Go.Proofs
open List renaming length->Io,length->X
open IntKind renaming wrap->Γ,i64->Δ
open Tr renaming «to»->Q9,val->Q8,chk->K
open AV renaming nils->Qb
open AO renaming box->Qa
open Sh renaming str->Q6,expr->Q5
open Bool renaming true->Q3,false->S,true->O
open Option renaming some->M
open Decidable renaming decide->T
open Int (toNat)
open Int renaming toNat->Z
open List (getD)
open List renaming getD->Y
open Tr (chk br re)
open AV (nils agg tup ptr kb)
open AV renaming str->I,sl->N
open Cad renaming ow->W,Sem->J,zi->Q,ai->L,ze->R
noncomputable section
set_option maxHeartbeats 4000000
def JU(l h:List fB):Prop:=X h<=201/\∀r∈h,∃x∈l,r=oO x
theorem zxa(n:Nat)(c:Int)(l:c<=201)(q:0<=c)(z:zp cpR)(e:zp zl3)(t:al)(m:300<=n):∃a:List fB,JU z.1.2 a/\∃r,em zbK n (.h6 c 0 z e (t,[],()))=M r/\aZ r.2 [zl] r.1=M (((t,a):ae),()):=by
 obtain⟨x,g⟩:∃x:Nat,c=(x:Int):=⟨Z c,W⟩;have h:=dP (t:=zbK) (β:=List fB) (min x (X z.1.2)) (λb i=>.h6 c (i:Int) z e (t,b,())) (λb i=>X b=i/\∀r∈b,∃o∈z.1.2,r=oO o) (λr=>∃a:List fB,JU z.1.2 a/\aZ r.2 [zl] r.1=M (((t,a):ae),())) 1 (by
   grind[zx,zbK,Q8,zu,aD]) (by
   intro b n d m;obtain⟨n,rfl⟩:∃k,n=k+1:=⟨n-1,W⟩;rw[dg];have j:(cond (T (((min x (X z.1.2):Nat):Int)<(X z.1.2:Int))) (T (((min x (X z.1.2):Nat):Int)<c)) S)=S:=by
    by_cases h:x<=X z.1.2
    .rw[HV h,g];simp
    .rw[HT W];simp
   simp only[zbK,Q8,j];refine⟨_,rfl,b,⟨by have:=d.1;omega,d.2⟩,?_⟩;have⟨t0,s,u,v,w,p⟩:=t;cases p;rfl) (min x (X z.1.2)) 0 [] n rfl (aG _) ⟨rfl,sw⟩ W
 grind
theorem Oh(x:ae):∃h:List fB,JU x.2 h/\E6 x=M (((GQ x.1,h):ae),()):=by
 have e:GQ (x.1.1,x.1.2.1,x.1.q.1,x.1.r.1,x.1.t.1,zt x.1.u)=GQ x.1:=by rw[zo]
 have a:∃k:Int,0<=k/\k<=201/\(zmy x).val=M (.inl (.h6 k 0 (x,()) ([],0,[],0,0,[],[],()) (GQ x.1,[],()))):=by
  simp only[zmy,Q8,e];split
  .exact⟨201,W,W,rfl⟩
  .exact⟨40,W,W,rfl⟩
 have⟨k,b,c,a⟩:=a;have⟨h,d,r,g,i⟩:=zxa 100000000 k c b (x,()) ([],0,[],0,0,[],[],()) (GQ x.1) W;grind[E6,ap,bV]
theorem Og(x:ae):Rq x=O:=by have⟨h,b,a⟩:=Oh x;unfold Rq;rw[a];rfl
theorem ZS(a:zS):∃d:zS,E8 a=M (d,())/\X d<=13/\∀x∈d,∃y∈a,x=E5 y:=by
 have h:=dP (t:=t7p) (β:=zS) (min 13 (X a)) (λb i=>.h3 a (i:Int) b) (λb i=>X b=i/\∀x∈b,∃y∈a,x=E5 y) (λr=>∃d:zS,aZ r.2 [zl.sl] r.1=M (d,())/\X d<=13/\∀x∈d,∃y∈a,x=E5 y) 1 (by
   grind[zx,t7p,Q8,zo,Og,zu,aD]) (by
   intro b n c g;obtain⟨n,rfl⟩:∃k,n=k+1:=⟨n-1,W⟩;rw[dg];have e:(cond (T (((min 13 (X a):Nat):Int)<(X a:Int))) (T (((min 13 (X a):Nat):Int)<13)) S)=S:=by
    by_cases h:13<=X a
    .rw[HV h];simp
    .rw[HT W];simp
   simp only[t7p,Q8,e];exact⟨_,rfl,b,rfl,W,c.2⟩) (min 13 (X a)) 0 [] 100000000 rfl (aG _) ⟨rfl,sw⟩ W
 grind[E8,ap,bV,i7p,Q8]
theorem lG(s:zJ):gm s=O:=by grind[gm]
theorem gM(s:zJ):(dQ s).length<=20:=by grind[dQ]
theorem qI:∀(l:List zJ)(i:Int)(a:List zJ),(X a:Int)<=i->gL l i a=O
 |[],_,_,_=>rfl
 | x::r,i,a,h=>by
  rw[gL];split
  next b=>simp only[aY]at b;rw[zf (lG x),zf sg];exact qI r (i+1) _ sg
  .rfl
theorem Hs(l:List zJ):rO l=O:=qI l 0 [] sw
theorem uL:∀(l:List zJ)(i:Int)(a:List zJ),(X a:Int)<=i->X a<=10->(∀x∈a,X x<=20)->X (fu l i a)<=10/\∀x∈fu l i a,X x<=20
 |[],_,a,_,h,b=>⟨h,b⟩
 | x::r,i,a,h,hl,b=>by
  rw[fu];split
  next c=>simp only[aY]at c;refine uL r (i+1) _ sg sg (λy d=>?_);grind[gM]
  .exact⟨hl,b⟩
theorem BR(l:List zJ):X (lF l)<=10/\∀x∈lF l,X x<=20:=uL l 0 [] sw sw sw
theorem zfG(s:zJ):(kj s).length<=20:=by grind[kj]
theorem Wa(l:aT):X (kI l)<=10/\∀x∈kI l,X x.1<=20:=by refine⟨by show((List.take 9 l).map _).length<=10;rw[dc,oy];omega,λc h=>?_⟩;obtain⟨x,_,rfl⟩:=bn.1 h;exact zfG x.1
theorem Wc(l:zr):X (oO l)<=14:=by show((List.take 14 l).map _).length<=14;rw[dc,oy];omega
theorem Ki(e:zg):ol 16 (iP e)=O:=by
 have⟨r,m,x,a⟩:=KB (P:=λh _ r=>ol h r=O) (λh e o t s l c b _ _=>by
  grind[ol]) 16 e 14 80 W W W
 unfold iP;rw[zg.eta,show uk 16 e 14 80=(r,m) by unfold uk;rw[x];rfl];exact a
structure PS (s:zO):Prop where
 sh:nN s
 cp:ol 16 s.x.1=O
def F3I(h:zp qW)(i:Nat)(z:zp X6):Prop:=X z.1<=20/\X z.2.1<=20/\X z.q.1<=20/\(X z.r.1<=10/\∀x∈z.r.1,X x<=20)/\(X z.t.1<=10/\∀x∈z.t.1,X x.1<=20)/\X z.u.1<=20/\
 (X z.v.1<=10/\∀x∈z.v.1,X x<=20)/\(X z.w.1=i/\∀x∈z.w.1,X x.1<=20/\X x.2<=20)/\ol 16 z.x.1=O/\X z.y.1<=14/\X z.s.1<=20/\
 z.x.1=iP h.1.x.1/\z.y.1=oO h.1.y.1/\z.z.1=iP h.1.s.1
def F7I(h:zp qW)(i:Nat)(z:zp X7):Prop:=X z.1<=20/\X z.2.1<=20/\X z.q.1<=20/\(X z.r.1<=10/\∀x∈z.r.1,X x<=20)/\(X z.t.1<=10/\∀x∈z.t.1,X x.1<=20)/\X z.u.1<=20/\
 (X z.v.1<=10/\∀x∈z.v.1,X x<=20)/\(X z.w.1<=10/\∀x∈z.w.1,X x.1<=20/\X x.2<=20)/\ol 16 z.x.1=O/\X z.y.1<=14/\
 (X z.z.1=i/\∀x∈z.z.1,X x.1<=20/\∃y∈h.1.z.1,x.2=iP y.2)/\X z.p.1<=20/\
 z.x.1=iP h.1.x.1/\z.y.1=oO h.1.y.1/\z.s.1=iP h.1.s.1
structure zho (s0 s:zO):Prop where
 chk:s.x.1=iP s0.x.1
 row:s.y.1=oO s0.y.1
 whr:s.s.1=iP s0.s.1
 sets:∀x∈s.z.1,∃y∈s0.z.1,(x:J jb).2=iP (y:J jb).2
def zdm(h:zO)(r:aw):Prop:=∃s:zO,aZ r.2 [ay] r.1=M (s,())/\PS s/\zho h s
theorem fs7(b:zp qW)(B:zp jR)(z:zp X7)(hz:F7I b 0 z)(n:Nat)(U:20<=n):∃r,em t8p n (.h7 0 b B z)=M r/\zdm b.1 r:=by
 refine dP (t:=t8p) (β:=zp X7) (min 10 (X b.1.z.1)) (λz i=>.h7 (i:Int) b B z) (λz i=>F7I b i z) (zdm b.1) 1 ?_ ?_ (min 10 (X b.1.z.1)) 0 z n rfl (aG _) hz W
 .intro z i hi A;have⟨D,E,F,g,j,G,l,m,o,H,c,e,d⟩:=A;have k1:(i:Int)<(X b.1.z.1:Int):=by omega
  have k2:(i:Int)<10:=by omega
  have k3:zL (i:Int) (X b.1.z.1)=O:=zx W;refine Or.inl ⟨(z.1,z.2.1,z.q.1,z.r.1,z.t.1,z.u.1,z.v.1,z.w.1,z.x.1,z.y.1,z.z.1++[(dQ (Y b.1.z.1 (i:Int).toNat (Q jb)).1,zt (iP (zt (Y b.1.z.1 (i:Int).toNat (Q jb)).2)))],z.s),⟨D,E,F,g,j,G,l,m,o,H,?_,e,d⟩,?_⟩;rotate_left 1
  .grind[t8p,Q8,lG,zu,aD]
  .refine⟨?_,λx a=>?_⟩
   .simp[c.1]
   .rcases cX.1 a with a|a
    .exact c.2 x a
    .rw[fh]at a;rw[a];exact⟨gM _,_,ET _ (Q jb) (by simpa using(show i<_ by omega)),by simp only[zo,aH]⟩
 .intro z n A U;obtain⟨n,rfl⟩:∃k,n=k+1:=⟨n-1,W⟩;have⟨D,E,F,g,j,G,l,m,o,H,c,e,d⟩:=A;rw[dg];have P:(cond (T (((min 10 (X b.1.z.1):Nat):Int)<(X b.1.z.1:Int))) (T (((min 10 (X b.1.z.1):Nat):Int)<10)) S)=S:=by
   by_cases h:10<=X b.1.z.1
   .rw[HV h];simp
   .rw[HT W];simp
  simp only[t8p,Q8,P];refine⟨_,rfl,(z.1,z.2.1,z.q.1,z.r.1,z.t.1,z.u.1,z.v.1,z.w.1,z.x.1,z.y.1,z.z.1,z.s.1,z.p.1),?_,⟨?_,o⟩,⟨d.1,d.2.1,d.q,λx a=>(c.2 x a).2⟩⟩
  .have⟨b,B,z2,z3,z4,z5,z6,z7,z8,z9,x0,C,x1,x2⟩:=z;cases z8;cases C;rfl
  .refine⟨by show X z.1<=_;omega,by show X z.2.1<=_;omega,by show X z.q.1<=_;omega,⟨by have:=g.1;show X z.r.1<=_;omega,λx a=>by have:=g.2 x a;omega⟩,⟨by have:=j.1;show X z.t.1<=_;omega,λx a=>by have:=j.2 x a;omega⟩,by show X z.u.1<=_;omega,⟨by have:=l.1;show X z.v.1<=_;omega,λx a=>by have:=l.2 x a;omega⟩,⟨by grind,λx a=>by have:=m.2 x a;omega⟩,by show X z.y.1<=_;omega,⟨by grind,λx a=>by have:=(c.2 x a).1;omega⟩,by show X z.p.1<=_;omega⟩
theorem fs3(a:zp qW)(y:zp jR)(z:zp X6)(E:F3I a 0 z)(n:Nat)(D:40<=n):∃r,em t8p n (.h3 0 a y z)=M r/\zdm a.1 r:=by
 refine dP (t:=t8p) (β:=zp X6) (min 10 (X a.1.w.1)) (λz i=>.h3 (i:Int) a y z) (λz i=>F3I a i z) (zdm a.1) 21 ?_ ?_ (min 10 (X a.1.w.1)) 0 z n rfl (aG _) E W
 .intro z i F s;have⟨b,c,g,j,l,m,o,A,p⟩:=s;have G:(i:Int)<(X a.1.w.1:Int):=by omega
  have H:(i:Int)<10:=by omega
  have P:zL (i:Int) (X a.1.w.1)=O:=zx W;refine Or.inl ⟨(z.1,z.2.1,z.q.1,z.r.1,z.t.1,z.u.1,z.v.1,z.w.1++[(dQ (Y a.1.w.1 (i:Int).toNat (Q jM)).1,dQ (Y a.1.w.1 (i:Int).toNat (Q jM)).2)],z.x),⟨b,c,g,j,l,m,o,?_,p⟩,?_⟩;rotate_left 1
  .grind[t8p,Q8,lG,zu,aD]
  grind[gM]
 .intro z n s D;obtain⟨n,rfl⟩:∃k,n=k+1:=⟨n-1,W⟩;have⟨b,c,g,j,l,m,o,A,p,B,d,e⟩:=s;rw[dg];have C:(cond (T (((min 10 (X a.1.w.1):Nat):Int)<(X a.1.w.1:Int))) (T (((min 10 (X a.1.w.1):Nat):Int)<10)) S)=S:=by
   by_cases h:10<=X a.1.w.1
   .rw[HV h];simp
   .rw[HT W];simp
  simp only[t8p,Q8,C];exact fs7 a y _ ⟨b,c,g,j,l,m,o,⟨by grind,A.2⟩,p,B,⟨rfl,sw⟩,d,e⟩ n W
theorem Rp(s:zO):∃h:zO,AA s=M (h,())/\PS h/\zho s h:=by
 unfold AA ap bV;simp only[i8p,Q8,lG,Hs,zj]
 have⟨r,a,h,b,c⟩:=fs3 (s,()) ([],[],[],[],[],0,0,[],[],[],0,0,[],[],[],()) (dQ s.1,dQ s.2.1,dQ s.q.1,lF s.r.1,kI s.t.1,
  dQ s.u.1,lF s.v.1,[],iP (zt s.x.1),oO s.y.1,iP (zt s.s.1),dQ s.p,())
  ⟨gM _,gM _,gM _,BR _,Wa _,gM _,BR _,⟨rfl,sw⟩,Ki _,Wc _,gM _,by simp only[zo],rfl,by simp only[zo]⟩ 100000000 W
 refine⟨h,?_,c⟩;rw[a];exact b
abbrev aQ(db:zS)(s:zJ):ae:=Y db (Z (ak db s)) (Q zl)
def HD(d:zS):Prop:=∀x∈d,∀f∈x.1.t.1,LE.le (α:=Int) 0 (ak d f.2)/\∀h∈x.2,(zP f.1 h).1≠0->iu (aQ d f.2) (aQ d f.2).1.q.1 (zP f.1 h)=O
def IsF(r:aw):Prop:=r=(.kb S,[])
variable {db:zS}{i:Nat}
theorem zdC{x:ae}{f:cy}{k:Nat}(l:LE.le (α:=Int) 0 (ak db f.2))(g:∀c∈x.2,zL f.1 (X c)=O)(n:X x.2<=1000):
  ((∀j,j<Io x.2->(zP f.1 (getD x.2 j (zi ze.sl))).1≠0->iu (aQ db f.2) (aQ db f.2).1.q.1 (zP f.1 (getD x.2 j (zi ze.sl)))=Q3)/\
   zH jj (X x.2*1) (.h11 db (ak db f.2) db (X db:Int) (i:Int) x.1.t.1 (X x.1.t.1:Int) (k:Int) x.2 (X x.2:Int) ((0:Nat):Int) (x,()) (f,()))
    (.h11 db (ak db f.2) db (X db:Int) (i:Int) x.1.t.1 (X x.1.t.1:Int) (k:Int) x.2 (X x.2:Int) (X x.2:Int) (x,()) (f,())))\/
  ((¬∀j,j<X x.2->(zP f.1 (Y x.2 j (Q ze.sl))).1≠0->iu (aQ db f.2) (aQ db f.2).1.q.1 (zP f.1 (Y x.2 j (Q ze.sl)))=O)/\
   ∃r,zU jj (X x.2*1) (.h11 db (ak db f.2) db (X db:Int) (i:Int) x.1.t.1 (X x.1.t.1:Int) (k:Int) x.2 (X x.2:Int) ((0:Nat):Int) (x,()) (f,())) r/\IsF r):=by
 refine nL (t:=jj) (Φ:=IsF) 1 (λj=>.h11 db (ak db f.2) db (X db:Int) (i:Int) x.1.t.1 (X x.1.t.1:Int) (k:Int) x.2 (X x.2:Int) (j:Int) (x,()) (f,())) (λj=>(zP f.1 (Y x.2 j (Q ze.sl))).1≠0->iu (aQ db f.2) (aQ db f.2).1.q.1 (zP f.1 (Y x.2 j (Q ze.sl)))=O) (X x.2) ?_;intro j b _
 have m:(jj (.h11 db (ak db f.2) db (X db:Int) (i:Int) x.1.t.1 (X x.1.t.1:Int) (k:Int) x.2 (X x.2:Int) (j:Int) (x,()) (f,()))).val=
   if(cond ((zP f.1 (Y x.2 j (Q ze.sl))).1!=0) (!iu (aQ db f.2) (aQ db f.2).1.q.1 (zP f.1 (Y x.2 j (Q ze.sl)))) S)=O then M (.inr (.kb S,[]))else
   M (.inl (.h11 db (ak db f.2) db (X db:Int) (i:Int) x.1.t.1 (X x.1.t.1:Int) (k:Int) x.2 (X x.2:Int) ((j+1:Nat):Int) (x,()) (f,()))):=by
  show(jj (.h11 _ _ _ _ _ _ _ _ _ _ _ _ _)).val=_;unfold jj;simp only[zo,Q8,zN b,zx b,g _ (cD b),ez l,aH,zj,qB];rw[zf (by simp_all)];rw[zu j um]
 by_cases d:(zP f.1 (Y x.2 j (Q ze.sl))).1=0
 .grind[zH.of]
 .have a:((zP f.1 (Y x.2 j (Q ze.sl))).1!=0)=O:=by simpa using d
  by_cases e:iu (aQ db f.2) (aQ db f.2).1.q.1 (zP f.1 (Y x.2 j (Q ze.sl)))=O
  .grind[zH.of]
  .exact .inr ⟨λh=>e (h d),_,zU.of (by rw[m,zf (by rw[a];simpa using e)]),rfl⟩
theorem zlF{db:zS}{x:ae}{i:Nat}(n:∀f∈x.1.t.1,∀a∈x.2,zL f.1 (X a)=O)(o:X x.2<=1000)(p:X x.1.t.1<=1000):
  let P:Nat->Prop:=λk=>LE.le (α:=Int) 0 (ak db (Y x.1.t.1 k (zi zG)).2)/\∀a∈x.2,(zP (Y x.1.t.1 k (zi zG)).1 a).1≠0->iu (aQ db (Y x.1.t.1 k (zi zG)).2) (aQ db (Y x.1.t.1 k (zi zG)).2).1.q.1 (zP (Y x.1.t.1 k (zi zG)).1 a)=O
  ((∀k,k<X x.1.t.1->P k)/\zH jj (X x.1.t.1*1002) (.h5 db db (X db:Int) (i:Int) x.1.t.1 (X x.1.t.1:Int) ((0:Nat):Int) (x,())) (.h5 db db (X db:Int) (i:Int) x.1.t.1 (X x.1.t.1:Int) (X x.1.t.1:Int) (x,())))\/
  ((¬∀k,k<X x.1.t.1->P k)/\∃r,zU jj (X x.1.t.1*1002) (.h5 db db (X db:Int) (i:Int) x.1.t.1 (X x.1.t.1:Int) ((0:Nat):Int) (x,())) r/\IsF r):=by
 intro P;refine nL (t:=jj) (Φ:=IsF) 1002 (λk=>.h5 db db (X db:Int) (i:Int) x.1.t.1 (X x.1.t.1:Int) (k:Int) (x,())) P (X x.1.t.1) ?_;intro k e _
 have l:(jj (.h5 db db (X db:Int) (i:Int) x.1.t.1 (X x.1.t.1:Int) (k:Int) (x,()))).val=
   if T (LT.lt (α:=Int) (ak db (Y x.1.t.1 k (zi zG)).2) 0)=O then M (.inr (.kb S,[]))else
   M (.inl (.h11 db (ak db (Y x.1.t.1 k (zi zG)).2) db (X db:Int) (i:Int) x.1.t.1 (X x.1.t.1:Int) (k:Int) x.2 (X x.2:Int) ((0:Nat):Int) (x,()) (Y x.1.t.1 k (zi zG),()))):=by
  show(jj (.h5 _ _ _ _ _ _ _ _)).val=_;unfold jj;simp only[Q8,zN e,zx e,aH,zj];rfl
 by_cases b:LE.le (α:=Int) 0 (ak db (Y x.1.t.1 k (zi zG)).2)
 .have j:=zH.of (t:=jj) (s:=.h5 db db (X db:Int) (i:Int) x.1.t.1 (X x.1.t.1:Int) (k:Int) (x,())) (by rw[l,zh (by rw[aY];omega)]);rcases zdC (db:=db) (x:=x) (f:=Y x.1.t.1 k (zi zG)) (i:=i) (k:=k) b (n _ (cD e)) o with⟨c,d⟩|⟨c,r,d,m⟩
  .have g:(jj (.h11 db (ak db (Y x.1.t.1 k (zi zG)).2) db (X db:Int) (i:Int) x.1.t.1 (X x.1.t.1:Int) (k:Int) x.2 (X x.2:Int) (X x.2:Int) (x,()) (Y x.1.t.1 k (zi zG),()))).val=
     M (.inl (.h5 db db (X db:Int) (i:Int) x.1.t.1 (X x.1.t.1:Int) ((k+1:Nat):Int) (x,()))):=by
    show(jj (.h11 _ _ _ _ _ _ _ _ _ _ _ _ _)).val=_;unfold jj;simp only[Q8,zK];rw[zu k um];rfl
   refine .inl ⟨⟨b,?_⟩,((j.trans d).trans (zH.of g)).mono W⟩;exact(aO (Q:=λa=>(zP (Y x.1.t.1 k (zi zG)).1 a).1≠0->iu (aQ db (Y x.1.t.1 k (zi zG)).2) (aQ db (Y x.1.t.1 k (zi zG)).2).1.q.1 (zP (Y x.1.t.1 k (zi zG)).1 a)=O)).1 c
  .refine .inr ⟨λh=>c ?_,r,(j.ends d).mono W,m⟩;grind
 .exact .inr ⟨λh=>b h.1,_,(zU.of (by rw[l,zf (by rw[aY];omega)])).mono W,rfl⟩
theorem M7(p:∀x∈db,∀f∈x.1.t.1,∀a∈x.2,zL f.1 (X a)=O)(s:∀x∈db,ij x)(y:X db<=13):∃b,Cv db=M (b,())/\(b=O↔HD db):=by
 have c:=nL (t:=jj) (Φ:=IsF) 1010000 (λi=>.h2 db db (X db:Int) (i:Int)) (λi=>∀f∈(Y db i (zi zl)).1.t.1,LE.le (α:=Int) 0 (ak db f.2)/\∀a∈(Y db i (zi zl)).2,(zP f.1 a).1≠0->iu (aQ db f.2) (aQ db f.2).1.q.1 (zP f.1 a)=O) (X db) (by
  intro i g _;have o:=cD (d:=zi zl) g;have m:=s _ o;have v:=m.rf;have w:=m.rw;have u:(jj (.h2 db db (X db:Int) (i:Int))).val=M (.inl (.h5 db db (X db:Int) (i:Int) (Y db i (zi zl)).1.t.1 ((Y db i (zi zl)).1.t.1.length:Int) ((0:Nat):Int) (Y db i (zi zl),()))):=by
   show(jj (.h2 _ _ _ _)).val=_;unfold jj;simp only[Q8,zN g,zx g,aH,zj];rfl
  have l:=zH.of u;rcases zlF (db:=db) (x:=Y db i (zi zl)) (i:=i) (p _ o) w v with⟨c,e⟩|⟨c,r,e,j⟩
  .have k:(jj (.h5 db db (X db:Int) (i:Int) (Y db i (zi zl)).1.t.1 ((Y db i (zi zl)).1.t.1.length:Int) ((Y db i (zi zl)).1.t.1.length:Int) (Y db i (zi zl),()))).val=M (.inl (.h2 db db (X db:Int) ((i+1:Nat):Int))):=by
    show(jj (.h5 _ _ _ _ _ _ _ _)).val=_;unfold jj;simp only[Q8,zK];rw[zu i um];rfl
   refine .inl ⟨?_,((l.trans e).trans (zH.of k)).mono W⟩;exact(aO (Q:=λf:cy=>LE.le (α:=Int) 0 (ak db f.2)/\∀a∈(Y db i (zi zl)).2,(zP f.1 a).1≠0->iu (aQ db f.2) (aQ db f.2).1.q.1 (zP f.1 a)=O)).1 c
  .refine .inr ⟨λh=>c ?_,r,(l.ends e).mono W,j⟩;grind)
 have n:(∀i,i<X db->∀f∈(Y db i (zi zl)).1.t.1,LE.le (α:=Int) 0 (ak db f.2)/\∀a∈(Y db i (zi zl)).2,(zP f.1 a).1≠0->iu (aQ db f.2) (aQ db f.2).1.q.1 (zP f.1 a)=O)↔HD db:=
  aO (Q:=λx:ae=>∀f∈x.1.t.1,LE.le (α:=Int) 0 (ak db f.2)/\∀a∈x.2,(zP f.1 a).1≠0->iu (aQ db f.2) (aQ db f.2).1.q.1 (zP f.1 a)=O)
 have g:(ztf db).val=M (.inl (.h2 db db (X db:Int) ((0:Nat):Int))):=rfl;rcases c with⟨c,e⟩|⟨c,r,e,j⟩
 .refine⟨O,zz g (e.ends (zU.of (r:=(.kb O,[])) ?_)) W rfl,λ_=>n.1 c,λ_=>rfl⟩;grind[Q8,jj]
 .unfold IsF at j;subst j;exact⟨S,zz g e W rfl,λh=>(by cases h),λh=>zA (n.2 h) c⟩
structure jO (db:zS):Prop where
 few:X db<=12
 names:∀i,i<X db-1->Op.bytesLess (Y db i (Q zl)).1.1 (Y db (i+1) (Q zl)).1.1=O
 rels:∀x∈db,ef x
 bound:HD db
theorem ef.cols{x:ae}(h:ef x):∀f∈x.1.t.1,∀row∈x.2,zL f.1 (X row)=O:=by grind[gS,may,EM,fits,td]
theorem Bt{a:zS}(C:∀x∈a,ij x):∃e:Int,wu a=M (e,())/\(e=0↔jO a):=by
 by_cases D:X a<=12
 case neg=>
  refine⟨13,?_,λh=>(by cases h),λh=>zA h.few D⟩;unfold wu ap bV;simp only[zeJ,Q8];rw[zf sg];rfl
 have g:(zeJ a).val=M (.inl (.h4 a ((0+1:Nat):Int))):=by
  simp only[zeJ,Q8];rw[zh sg];rfl
 have n:=nL (t:=qt) (Φ:=Err) 1 (λi=>.h4 a ((i+1:Nat):Int)) (λi=>Op.bytesLess (Y a i (zi zl)).1.1 (Y a (i+1) (zi zl)).1.1=O) (X a-1) (by
  intro i g _;have E:i<X a:=by omega
  have A:i+1<X a:=by omega
  have y:(qt (.h4 a ((i+1:Nat):Int))).val=if(!Op.bytesLess (Y a i (zi zl)).1.1 (Y a (i+1) (zi zl)).1.1)=O then M (.inr (L 15,[]))else M (.inl (.h4 a ((i+1+1:Nat):Int))):=by
   show(qt (.h4 _ _)).val=_;unfold qt;simp only[gQ i um];simp only[Q8,zN A,zx A,zx E,aH,zj];rw[zu (i+1) um]
  by_cases h:Op.bytesLess (Y a i (zi zl)).1.1 (Y a (i+1) (zi zl)).1.1=O
  .grind[zH.of]
  .exact .inr ⟨h,_,zU.of (by rw[y,zf (by simpa using h)]),15,rfl,by decide⟩)
 rcases n with⟨w,n⟩|⟨w,r,n,e,m,j⟩
 case inr=>
  subst m;exact⟨e,zz g n W rfl,λh=>zA h j,λh=>zA h.names w⟩
 have z:(qt (.h4 a ((X a-1+1:Nat):Int))).val=M (.inl (.h9 a a (X a:Int) ((0:Nat):Int))):=by
  show(qt (.h4 _ _)).val=_;unfold qt;simp only[Q8];rw[zh sg];rfl
 have s:=n.trans (zH.of z);have l:=nL (t:=qt) (Φ:=Err) 1 (λi=>.h9 a a (X a:Int) (i:Int)) (λi=>ef (Y a i (zi zl))) (X a) (by
  intro i g _;have⟨e,m,v⟩:=Pg (C _ (cD (d:=zi zl) g));have u:LH (Y a i (zi zl))=O:=by unfold LH;rw[m];rfl
  have k:R3 (Y a i (zi zl))=e:=by unfold R3;rw[m];rfl
  have y:(qt (.h9 a a (X a:Int) (i:Int))).val=if(e !=0)=O then M (.inr (L e,[]))else M (.inl (.h9 a a (X a:Int) ((i+1:Nat):Int))):=by
   show(qt (.h9 _ _ _ _)).val=_;unfold qt;simp only[zo,Q8,zN g,zx g,aH,zj,bh,u,k];rw[zu i um]
  by_cases h:e=0
  .grind[zH.of]
  .exact .inr ⟨λp=>h (v.2 p),_,zU.of (by rw[y,zf (by simpa using h)]),e,rfl,h⟩)
 rcases l with⟨p,l⟩|⟨p,r,l,e,m,j⟩
 case inr=>
  subst m;exact⟨e,zz g (s.ends l) W rfl,λh=>zA h j,λh=>zA ((aO (Q:=ef)).2 h.rels) p⟩
 have c:=(aO (Q:=ef)).1 p;have⟨b,B,o⟩:=M7 (db:=a) (λx G=>(c x G).cols) C W;have u:J4 a=O:=by unfold J4;rw[B];rfl
 have k:P3 a=b:=by unfold P3;rw[B];rfl
 have q:(qt (.h9 a a (X a:Int) (X a:Int))).val=if(!b)=O then M (.inr (L 10,[]))else M (.inr (L 0,[])):=by
  show(qt (.h9 _ _ _ _)).val=_;unfold qt;simp only[Q8,zK,u,k,zj];rfl
 by_cases h:b=O
 .exact⟨0,zz g (s.ends (l.ends (zU.of (by rw[q,zh (by rw[h];simp)])))) W rfl,λ_=>⟨D,w,c,o.1 h⟩,λ_=>rfl⟩
 .exact⟨10,zz g (s.ends (l.ends (zU.of (by rw[q,zf (by simpa using h)])))) W rfl,λh=>(by cases h),λF=>zA (o.2 F.bound) h⟩
variable {d:zS}
theorem J5(a:∀x∈d,ij x):px d=O:=by have⟨e,h,_⟩:=Bt a;unfold px;rw[h];rfl
theorem jQ(b:∀x∈d,ij x):mh d=(0:Int)↔jO d:=by have⟨e,h,a⟩:=Bt b;unfold mh;rw[h];exact a
abbrev y11(a:J zl.sl)(h:zO):zp bY:=(a,h,([],[],0,[],[],zg.mk [] (0,0,[]) [] []),([],[],0,[],[],zg.mk [] (0,0,[]) [] []),h.1,h.q.1,h.p,h.2.1,0,h.x.1,0,())
theorem Rj(d:J zl.sl)(h:zO):zmv d h=(let e:=oR (y11 d h)
  let a:=I8 e.2
  let b:=I9 e.2
  let c:=AF e.2
  NZ d h h.x.1 h (!fA h) (qr h&&bif !fA h then O else px d) (cond (!fA h) O (mh d !=0)) (ol 16 h.x.1) (y11 d h) (oS (y11 d h)) e (e.1==0) e.2 a a.2 (gn a.2) b b.2 (gn b.2) c c.2 (gn c.2)):=by unfold zmv;simp only[Y0,Tg,zo]
abbrev zaK(z:zp aE):aA:=(z.t.1,z.u.1,z.v.1,(z.w.1,z.x.1,z.y.1,[],[],z.z.1),z.s.1,z.p.1)
abbrev lw:aA:=([],[],[],([],[],0,[],[],zg.mk [] (0,0,[]) [] []),[],0)
def au(db:zS)(n:zJ):al:=(Y db (Z (ak db n)) (Q zl)).1
abbrev zyx:al:=([],[],0,[],[],zg.mk [] (0,0,[]) [] [])
def eV(db:zS)(n:zJ):al:=if n=[]then zyx else au db n
def jn(e:Int)(p:aA):Int×aA:=if e=0 then(ite (yq p.r.1=0) (0,p) (yq p.r.1,lw))else(e,lw)
def cT(db:zS)(s:zO):Int×aA:=
 if(s.1==dI)=O then
  jn (vp (au db s.q.1) s.r.1) (s.1,s.q.1,s.p,(s.2.1,e7 (au db s.q.1) s.r.1,iB (kd (au db s.q.1) s.r.1) (au db s.q.1).q.1,[],[],s.x.1),kd (au db s.q.1) s.r.1,0)
 else if(s.1==ic)=O then
  jn (gK (au db s.q.1) (eV db s.p) s.u.1 s.p)
   (s.1,s.q.1,s.p,(s.2.1,(au db s.q.1).2.1++jv (eV db s.p) (X (eV db s.p).2.1),(au db s.q.1).q.1,[],[],s.x.1),
    nR (eV db s.p).q.1 (X (eV db s.p).2.1),zZ (au db s.q.1) s.u.1)
 else if(s.1==qD)=O then
  jn (rH (au db s.q.1) s.r.1) (s.1,s.q.1,s.p,(s.2.1,Ar (au db s.q.1) s.r.1,0,[],[],s.x.1),kd (au db s.q.1) s.r.1,0)
 else(1,lw)
def bp(db:zS)(s:zO):Int×aA:=
 if lu s.1/\fA s=O/\mh db=(0:Int)then(ite (qV db s.q.1 s.p s.2.1=0) (cT db s) (qV db s.q.1 s.p s.2.1,lw))else(1,lw)
variable {s:zO}
theorem kO(h:fA s=O):iv s=O:=by grind[fA,sq]
theorem oL{s:zJ}(h:(0:Int)<=ak db s):db.getD (Z (ak db s)) (Q zl)∈db:=by grind[ez,zL]
theorem R5(e:Int):aZ [] [ar,zk] (tup [agg ([I [],I [],I [],I [],Qb,L 0,Qb,Qb]++zE++[Qb,L 0]),L e])=M (lw,e,()):=rfl
theorem zn7(z:zp aE):aZ [AO.vec zn z.x.1] [ar,zk] (tup [agg ([I z.t.1,I z.u.1,I z.v.1,I z.w.1,AV.vec 0,L z.y.1,Qb,Qb]++xE z.z.1++[N zk z.s.1,L z.p.1]),L 0])=M (zaK z,0,()):=by have⟨d,e,g,i,j,k,l,m,n,o,h,a,b,c⟩:=z;cases h;rfl
def PlS(x:J zl.sl)(h:zO):Prop:=OF x h=M ((bp x h).2,(bp x h).1,())
variable {x:J zl.sl}
theorem zvt{o:Option (zF (List.map M [ar,zk]))}{e:Int}(h:o=M (lw,e,()))(a:bp x s=(e,lw)):o=M ((bp x s).2,(bp x s).1,()):=by rw[a];exact h
theorem zfk(e:qr s=O)(d:px x=O)(h:(cond (!fA s) O (mh x !=0))=O):PlS x s:=by
 have c:(qr s&&bif !fA s then O else px x)=O:=by rw[e,d];cases fA s<;>rfl
 have g:bp x s=(1,lw):=by
  unfold bp;rw[zh];rintro⟨_,a,b⟩;rw[a]at h;simp[b]at h
 refine zvt ?_ g;unfold OF ap bV;rw[Rj];simp only[NZ,Q8,c,h,zj];by_cases o1:(s.1==dI)=O
 .simp only[o1,zj];rfl
 .by_cases o2:(s.1==ic)=O
  .simp only[o1,o2,zj];rfl
  .by_cases o3:(s.1==qD)=O
   .simp only[o1,o2,o3,zj];rfl
   .simp only[o1,o2,o3];rfl
theorem zn1{e:J zl.sl}{y:zp bY}{z:zp aE}{c:aT}{m:Int}{i:List Int}{o:Int}(k:y.t=(y11 e s).t)(d:pp y z)
  (b:z.z.1=y.y.1) (v:qw z c m i o):zaK z=(s.1,s.q.1,s.p,(s.2.1,c,m,[],[],s.x.1),i,o):=by have⟨_,_,_,_,a,h,g,j⟩:=d;have l:z.t.1=s.1:=a.trans (congrArg (·.1) k);have n:z.u.1=s.q.1:=h.trans (congrArg (·.2.1) k);grind[qw.cols,qw.key,qw.ix,qw.on]
theorem zn0{b:zO}(h9:∀a∈x,ij a)(hl:X x<=13)(hs:PS b):PlS x b:=by
 by_cases hg:lu b.1;rotate_left
 .have o1:(b.1==dI)=S:=by simpa using λk=>hg (.inl k)
  have o2:(b.1==ic)=S:=by simpa using λk=>hg (.inr (.inl k))
  have o3:(b.1==qD)=S:=by simpa using λk=>hg (.inr (.inr k))
  refine zvt (e:=1) ?_ (by unfold bp;rw[zh λh=>hg h.1]);unfold OF ap bV;rw[Rj];simp only[NZ,Q8,o1,o2,o3];rfl
 have hM:=PE hs.sh hg;have hB:=J5 h9;by_cases m:(cond (!fA b) O (mh x !=0))=O
 .exact zfk hM hB m
 have h3:(qr b&&bif !fA b then O else px x)=O:=by rw[hM,hB];cases fA b<;>rfl
 have h5:fA b=O:=by
  cases h:fA b
  .rw[h]at m;simp at m
  .rfl
 have h7:mh x=(0:Int):=by
  rw[h5]at m;simpa using m
 have h1:=kO h5;have h6:=((jQ h9).1 h7).rels;have⟨e8,y,h8,k1,k2,k3,k5,k4⟩:=Oo (y11 x b) (by show X x<=_;omega);have s8:oR (y11 x b)=(e8,y):=by unfold oR;rw[h8];rfl
 have c8:oS (y11 x b)=O:=by unfold oS;rw[h8];rfl
 have k5:e8=qV x b.q.1 b.p b.2.1:=k5;have hS:lu b.1->bp x b=if e8=0 then cT x b else(e8,lw):=by
  intro h;unfold bp;rw[zf ⟨h,h5,h7⟩,k5]
 unfold PlS OF ap bV;rw[Rj];simp only[NZ,Q8,h3,m,hs.cp,s8,c8,zj];by_cases C:e8=0
 .have P:=k4 C;have n2:y.2.1=b:=k2;have n1:y.1=x:=k1;have nk:y.x.1=(0:Int):=congrArg (·.2.r.1) k3;have x2:y.z.1=(0:Int):=congrArg (·.2.u.1) k3;have nw:y.v.1=b.p:=congrArg (·.2.2.1) k3;have c:y.q.1=au x b.q.1:=P.t.1;have o:y.r.1=eV x b.p:=P.u;have h4:=gS (h6 _ (oL (db:=x) (s:=b.q.1) P.1)).may;rw[show(getD x (toNat (ak x b.q.1)) (zi zl)).1=y.q.1 from c.symm]at h4;have x4:Io y.r.1.2.1<=100:=by
   rw[o];unfold eV;split
   .simp
   .grind[gS,ef.may,oL,au]
  have x3:(e8==0)=O:=by simpa using C
  simp only[x3,zj];by_cases o1:(b.1==dI)=O
  .have H:lu b.1:=Or.inl (bX o1);have⟨z,d,hk,G,n,E⟩:=Z0 y (by rw[n2];have:=hs.sh.names.1;omega);rw[n2,c,x2]at E;rw[n2,c]at d;generalize F:vp (au x b.q.1) b.r.1=j at d E;have U:I8 y=(j,z):=by unfold I8;rw[d];rfl
   have w:KN y=O:=by unfold KN;rw[d];rfl
   have i:=hS H;rw[zf C]at i;unfold cT at i;rw[zf o1,F]at i;simp only[o1,U,w,zj];by_cases e0:j=0
   .have hz:=zn1 k3 hk G (E e0);have g:=vR z n;have hT:UE z=(zaK z).r.1:=rfl;rw[hT,hz]at g;unfold jn at i;rw[zf e0]at i;generalize h2:yq _=l at g i;have h0:gn z=(l,z):=by unfold gn;rw[g];rfl
    have A:iC z=O:=by unfold iC;rw[g];rfl
    have B:(j==0)=O:=by simpa using e0
    simp only[B,h0,A,zj];by_cases f0:l=0
    .have D:(l !=0)=S:=by simp[f0]
     simp only[D];rw[zf f0]at i;rw[i];exact(zn7 z).trans (by rw[hz])
    grind[R5]
   grind[jn,R5]
  .by_cases o2:(b.1==ic)=O
   .have H:lu b.1:=Or.inr (Or.inl (bX o2));have⟨z,d,hk,G,n,E⟩:=Z1 y (by have:=h4.r.1;omega) x4;rw[n2,nw,c,o]at E;rw[n2,nw,c,o]at d;generalize F:gK (au x b.q.1) (eV x b.p) b.u.1 b.p=j at d E;have U:I9 y=(j,z):=by unfold I9;rw[d];rfl
    have w:KP y=O:=by unfold KP;rw[d];rfl
    have i:=hS H;rw[zf C]at i;unfold cT at i;rw[zh o1,zf o2,F]at i;simp only[o1,o2,U,w,zj];by_cases e0:j=0
    .have hz:=zn1 k3 hk G (E e0);have g:=vR z n;have hT:UE z=(zaK z).r.1:=rfl;rw[hT,hz]at g;unfold jn at i;rw[zf e0]at i;generalize h2:yq _=l at g i;have h0:gn z=(l,z):=by unfold gn;rw[g];rfl
     have A:iC z=O:=by unfold iC;rw[g];rfl
     have B:(j==0)=O:=by simpa using e0
     simp only[B,h0,A,zj];by_cases f0:l=0
     .have D:(l !=0)=S:=by simp[f0]
      simp only[D];rw[zf f0]at i;rw[i];exact(zn7 z).trans (by rw[hz])
     grind[R5]
    grind[jn,R5]
   .by_cases o3:(b.1==qD)=O
    .have H:lu b.1:=Or.inr (Or.inr (bX o3));have⟨z,d,hk,G,n,E⟩:=Wj y (by rw[n2];exact kG h1 (bX o3));rw[n2,c,x2,nk]at E;rw[n2,c]at d;generalize F:rH (au x b.q.1) b.r.1=j at d E;have U:AF y=(j,z):=by unfold AF;rw[d];rfl
     have w:CI y=O:=by unfold CI;rw[d];rfl
     have i:=hS H;rw[zf C]at i;unfold cT at i;rw[zh o1,zh o2,zf o3,F]at i;simp only[o1,o2,o3,U,w,zj];by_cases e0:j=0
     .have hz:=zn1 k3 hk G (E e0);have g:=vR z n;have hT:UE z=(zaK z).r.1:=rfl;rw[hT,hz]at g;unfold jn at i;rw[zf e0]at i;generalize h2:yq _=l at g i;have h0:gn z=(l,z):=by unfold gn;rw[g];rfl
      have A:iC z=O:=by unfold iC;rw[g];rfl
      have B:(j==0)=O:=by simpa using e0
      simp only[B,h0,A,zj];by_cases f0:l=0
      .have D:(l !=0)=S:=by simp[f0]
       simp only[D];rw[zf f0]at i;rw[i];exact(zn7 z).trans (by rw[hz])
      grind[R5]
     grind[jn,R5]
    grind
 grind[R5]
set_option maxHeartbeats 1000000
theorem iG:∀{a b c:zJ},Op.bytesLess a b=O->Op.bytesLess b c=O->Op.bytesLess a c=O
 |_,[],_,h,_=>by cases‹zJ›<;>simp[Op.bytesLess]at h
 |_,_::_,[],_,h=>by simp[Op.bytesLess]at h
 |[],_::_,_::_,_,_=>rfl
 | a::x,b::y,c::z,h,g=>by
  simp only[Op.bytesLess,oB,aY,aN,bW]at h g|-;rcases h with h|⟨rfl,h⟩
  .rcases g with g|⟨rfl,g⟩
   .exact .inl (UInt8.lt_trans h g)
   .exact .inl h
  .rcases g with g|⟨rfl,g⟩
   .exact .inl g
   .exact .inr ⟨rfl,iG h g⟩
def Lx(p q:Int×Int×zJ):Prop:=p.1<q.1\/(p.1=q.1/\(p.2.1<q.2.1\/(p.2.1=q.2.1/\Op.bytesLess p.q q.q=O)))
variable {p q:Int×Int×zJ}
theorem Lx.trans{r:Int×Int×zJ}(h:Lx p q)(g:Lx q r):Lx p r:=by
 unfold Lx at*;rcases h with h|⟨b,h|⟨c,h⟩⟩<;>rcases g with g|⟨x,g|⟨a,g⟩⟩
 .exact .inl W
 .exact .inl W
 .exact .inl W
 .exact .inl W
 .exact .inr ⟨W,.inl W⟩
 .exact .inr ⟨W,.inl W⟩
 .exact .inl W
 .exact .inr ⟨W,.inl W⟩
 .exact .inr ⟨W,.inr ⟨W,iG h g⟩⟩
theorem Lx.irrefl:¬Lx p p:=by
 unfold Lx;rw[cC];rintro(h|⟨_,h|⟨_,h⟩⟩)
 .omega
 .omega
 .cases h
theorem S0(a b:Int):ui a b=if a<b then -1 else if b<a then 1 else 0:=by show(ite ((a !=a)=O) _ (ite ((b !=b)=O) (1:Int) (ite (T (a<b)=O) (-1) (ite (T (a>b)=O) 1 0))))=_;simp
theorem X0(a b:Int):lq a b=if a<b then -1 else if b<a then 1 else 0:=S0 a b
theorem zd6(a b:zJ):(pE a b=-1/\Op.bytesLess a b=O)\/(pE a b=0/\a=b)\/(pE a b=1/\Op.bytesLess a b=S):=by
 have:pE a b=if Op.bytesLess a b=O then -1 else if(!(Op.bytesLess a b||a==b))=O then 1 else 0:=by
  show(ite ((!a==a)=O) _ (ite ((!b==b)=O) (1:Int) (ite (Op.bytesLess a b=O) (-1) (ite ((!(Op.bytesLess a b||a==b))=O) 1 0))))=_;simp
 rw[this];cases h:Op.bytesLess a b with
 |true=>exact .inl ⟨rfl,rfl⟩
 | false=>
  by_cases e:a=b
  .exact .inr (.inl ⟨by simp[e],e⟩)
  .exact .inr (.inr ⟨by simp[e],rfl⟩)
theorem znY(k n x a:Int)(s b:zJ):(Je [ui k x,lq n a,pE s b]<0)↔Lx (k,n,s) (x,a,b):=by
 show _↔(k<x\/(k=x/\(n<a\/(n=a/\Op.bytesLess s b=O))));rw[S0,X0];simp only[Je];have i:=cC b;rcases DF k x with h|h|h
 .simp[h]
 .subst h;rcases DF n a with g|g|g
  .simp[g]
  .subst g;rcases zd6 s b with⟨e,f⟩|⟨e,f⟩|⟨e,f⟩
   .simp[e,f]
   .subst f;simp[e,i]
   .simp[e,f]
  .have:¬n<a:=by omega
   have:n≠a:=by omega
   simp[*]
 .have:¬k<x:=by omega
  have:k≠x:=by omega
  simp[*]
variable {a:zq}
theorem yz{g:zq}:po a g↔Lx (aj a) (aj g):=znY (aj a).1 (aj a).2.1 (aj g).1 (aj g).2.1 (aj a).q (aj g).q
theorem dZ{b c:zq}(h:po a b)(g:po b c):po a c:=yz.2 ((yz.1 h).trans (yz.1 g))
theorem eD:¬po a a:=λh=>Lx.irrefl (yz.1 h)
theorem xU{α:Type}{R:α->α->Prop}(n:∀{a b c},R a b->R b c->R a c){d:α}:∀{l:List α},(∀i,i<X l-1->R (l.getD i d) (l.getD (i+1) d))↔l.Pairwise R
 |[]=>by simp
 |[a]=>by simp
 | a::b::r=>by
  have m:=xU (R:=R) n (d:=d) (l:=b::r);constructor
  .intro h;have e:=h 0 sw;have g:(b::r).Pairwise R:=m.1 λi j=>h (i+1) (by simp only[fE]at j|-;omega)
   refine List.pairwise_cons.2 ⟨λx k=>?_,g⟩;rcases bZ.1 k with rfl|k
   .exact e
   .exact n e ((List.pairwise_cons.1 g).1 x k)
  .intro h i j;have⟨e,g⟩:=List.pairwise_cons.1 h;cases i with
   |zero=>exact e b sw
   |succ i=>exact m.2 g i (by simp only[fE]at j|-;omega)
def kLt(k:Int)(a b:zr):Prop:=po (zP k a) (zP k b)
variable {b:ae}
theorem ef.pw(h:ef b):b.2.Pairwise (kLt b.1.q.1):=(xU (R:=kLt b.1.q.1) dZ).1 h.rise
variable {c:List zr}
theorem ef.sub{t:al}{l:List zr}(h:ef (t,c))(x:List.Sublist l c):ef (t,l) where
 may:=h.may
 few:=bc x.length_le h.few
 fits:=λr a=>h.fits r (x.subset a)
 key:=List.Pairwise.sublist x h.key
 uniq:=λu b=>List.Pairwise.sublist x (h.uniq u b)
 rise:=(xU (R:=kLt t.q.1) dZ).2 (List.Pairwise.sublist x h.pw)
theorem Jb(d:zS)(i:Nat):(d.getD i (Q zl)).1=(d.map (·.1)).getD i (Q zl).1:=by rw[bz,bz,dN];cases d[i]?<;>rfl
theorem Z3(h:(d.getD i (Q zl)).1=b.1):(d.set i b).map (·.1)=d.map (·.1):=by
 rw[List.map_set];refine ox λj=>?_
 rw[nf];by_cases e:i=j
 .subst e;rw[zf rfl];by_cases x:i<(d.map (·.1)).length
  .rw[zf x,af x,<-h];congr 1;have a:i<X d:=by simpa using x
   rw[bz,af a,List.getElem_map];rfl
  .rw[zh x,fg W]
 .rw[zh e]
theorem jO.put(h:jO d)(e:(d.getD i (Q zl)).1=b.1)(g:ef b)(c:HD (d.set i b)):jO (d.set i b) where
 few:=by rw[ng];exact h.few
 names:=λj a=>by
  rw[ng]at a;have:=h.names j a;rw[Jb,Jb]at this|-
  rwa [Z3 e]
 rels:=λy x=>by
  rcases SL x with x|rfl
  .exact h.rels y x
  .exact g
 bound:=c
theorem Tw{m:Int}(h:c.Pairwise (kLt m)):(c.map (zP m)).Pairwise (·≠·):=by rw[List.pairwise_map];exact h.imp λ{a b} x(e:zP m a=zP m b)=>eD (a:=zP m b) (by have:=x;unfold kLt at this;rwa [e]at this)
theorem kZ:∀{a b:zJ},Op.bytesLess a b=S->a≠b->Op.bytesLess b a=O
 |[],[],_,h=>zA rfl h
 |[],_::_,h,_=>by simp[Op.bytesLess]at h
 |_::_,[],_,_=>rfl
 | a::x,b::y,h,hn=>by
  simp only[Op.bytesLess,Bool.or_eq_false_iff,ei,Bool.and_eq_false_iff,dX,oB,aY,aN,bW]at h|-;by_cases e:a=b
  .subst e;refine .inr ⟨rfl,kZ (h.2.resolve_left λg=>g rfl) λg=>hn (by rw[g])⟩
  .exact .inl (UInt8.lt_of_le_of_ne (UInt8.not_lt.1 h.1) (Ne.symm e))
def vP(u:zq):zr->zr
 |[]=>[u]
 |o::r=>if LT.lt (α:=Int) (aF o u) 0 then o::vP u r else if(o==u)=O then o::r else u::o::r
def ro(l:zr):zr:=l.foldl (λa u=>if((u:zq).1==0)=O then a else vP u a) []
theorem ma{b:zq}(j:be a=O)(l:be b=O)(h:¬po a b):a=b\/po b a:=by
 have p:aj a=a:=by unfold aj;rw[j];rfl
 have kb:aj b=b:=by unfold aj;rw[l];rfl
 rw[yz,p,kb]at h|-;have⟨k,n,s⟩:=a;have⟨o,q,c⟩:=b;unfold Lx at h|-;simp only at h|-;have d:¬k<o:=λe=>h (.inl e)
 rcases Int.lt_or_eq_of_le (Int.not_lt.1 d)with e|e
 .exact .inr (.inl e)
 have i:¬n<q:=λg=>h (.inr ⟨e.symm,.inl g⟩)
 rcases Int.lt_or_eq_of_le (Int.not_lt.1 i)with g|g
 .exact .inr (.inr ⟨e,.inl g⟩)
 by_cases x:s=c
 .exact .inl (by rw[e,g,x])
 .refine .inr (.inr ⟨e,.inr ⟨g,kZ ?_ x⟩⟩);cases m:Op.bytesLess s c
  .rfl
  .exact zA (.inr ⟨e.symm,.inr ⟨g.symm,m⟩⟩) h
theorem xj{a:zq}:∀{l:zr}{x:zq},x∈vP a l↔x=a\/x∈l
 |[],x=>by simp[vP]
 | o::r,x=>by
  unfold vP;split
  .rw[bZ,xj,bZ];exact⟨λh=>by rcases h with h|h|h<;>simp[h],λh=>by rcases h with h|h|h<;>simp[h]⟩
  .split
   next h=>have h:=bX h;subst h;simp
   .simp
theorem JD{a:zq}(j:be a=O):∀{l:zr},(∀x∈l,be x=O)->l.Pairwise po->(vP a l).Pairwise po
 |[],_,_=>by simp[vP]
 | o :: r,hl,h=>by
  have⟨g,k⟩:=List.pairwise_cons.1 h;unfold vP;split
  .rename_i c;refine List.pairwise_cons.2 ⟨λx b=>?_,JD j (λx b=>hl x (by simp[b])) k⟩;rcases xj.1 b with rfl|b
   .exact c
   .exact g x b
  .rename_i m;split
   .exact h
   .rename_i d;have i:po a o:=by
     rcases ma (hl o sw) j m with e|e
     .exact zA (by rw[e];simp) d
     .exact e
    refine List.pairwise_cons.2 ⟨λx b=>?_,h⟩;rcases bZ.1 b with rfl|b
    .exact i
    .exact dZ i (g x b)
theorem Ap:∀(l a:zr),(∀x∈l,be x=O)->(∀x∈a,be x=O)->a.Pairwise po->
  (l.foldl (λa u=>if((u:zq).1==0)=O then a else vP u a) a).Pairwise po/\∀x,x∈l.foldl (λa u=>if((u:zq).1==0)=O then a else vP u a) a↔x∈a\/(x∈l/\x.1≠0)
 |[],a,_,_,h=>⟨h,λx=>by simp⟩
 | u::r,a,hl,ha,h=>by
  rw[List.foldl_cons];by_cases c:(u.1==0)=O
  .rw[zf c];have⟨g,i⟩:=Ap r a (λx b=>hl x (by simp[b])) ha h;refine⟨g,λx=>(i x).trans ⟨λh=>h.imp id λh=>⟨by simp[h.1],h.2⟩,λh=>h.imp id λh=>⟨?_,h.2⟩⟩⟩;rcases bZ.1 h.1 with rfl|d
   .exact zA (bX c) h.2
   .exact d
  .rw[zh c];have j:=hl u sw;have⟨g,i⟩:=Ap r (vP u a) (λx b=>hl x (by simp[b])) (λx b=>by
    rcases xj.1 b with rfl|b
    .exact j
    .exact ha x b) (JD j ha h)
   refine⟨g,λx=>(i x).trans ?_⟩;rw[xj,bZ];refine⟨λh=>?_,λh=>?_⟩
   .rcases h with(rfl|h)|h
    .exact .inr ⟨.inl rfl,λe=>c (by rw[e];rfl)⟩
    .exact .inl h
    .exact .inr ⟨.inr h.1,h.2⟩
   .rcases h with h|⟨rfl|h,d⟩
    .exact .inl (.inr h)
    .exact .inl (.inl rfl)
    .exact .inr ⟨h,d⟩
variable {j:zr}
theorem ws(h:∀x∈j,be x=O):(ro j).Pairwise po/\∀x,x∈ro j↔x∈j/\x.1≠0:=by have⟨a,b⟩:=Ap j [] h sw sw;exact⟨a,λx=>(b x).trans sw⟩
theorem LR:∀{l m:zr},l.Pairwise po->m.Pairwise po->(∀x,x∈l↔x∈m)->l=m
 |[],[],_,_,_=>rfl
 |[],b::m,_,_,h=>by have:=(h b).2 sw;simp at this
 |a::l,[],_,_,h=>by have:=(h a).1 sw;simp at this
 | a::l,b::m,h1,h2,h=>by
  have⟨i,k⟩:=List.pairwise_cons.1 h1;have⟨j,n⟩:=List.pairwise_cons.1 h2;have e:a=b:=by
   rcases bZ.1 ((h a).1 sw)with e|e
   .exact e
   .rcases bZ.1 ((h b).2 sw)with g|g
    .exact g.symm
    .exact zA (dZ (i _ g) (j _ e)) eD
  subst e;rw[LR k n λx=>⟨λd=>?_,λd=>?_⟩]
  .rcases bZ.1 ((h x).1 (by simp[d]))with rfl|c
   .exact zA (i _ d) eD
   .exact c
  .rcases bZ.1 ((h x).2 (by simp[d]))with rfl|c
   .exact zA (j _ d) eD
   .exact c
open Go Go.Proofs Go.Sort
def sM(l:zr):Bool:=l.all (λv=>be v&&(v.1!=0))&&decide l.Nodup&&!l.isEmpty
theorem zbF{n:zr}(h:sM j=O)(c:List.Perm n j)(l:n.Pairwise λx y:zq=>¬LT.lt (α:=Int) (aF y x) 0):n=ro j:=by
 simp only[sM,aN,eu,aY,bne_iff_ne,ne_eq]at h;have⟨⟨b,k⟩,_⟩:=h;have⟨g,i⟩:=ws λx a=>(b x a).1
 have d:n.Nodup:=c.nodup_iff.2 k;refine LR ?_ g λx=>?_
 .refine(l.and d).imp_of_mem λ{x y} a m h=>?_
  rcases ma (b y (c.mem_iff.1 m)).1 (b x (c.mem_iff.1 a)).1 h.1 with e|e
  .exact zA e.symm h.2
  .exact e
 .rw[i x,c.mem_iff];exact⟨λa=>⟨a,(b x a).2⟩,λa=>a.1⟩
@[match_pattern] abbrev OH:Sh:=.pr (.int .i64) (.pr (.int .i64) .str)
def zAb:ag:=λa h _=>match a with
 | [.vec id,.clo (.func 50) [] []]=>match h id with
  |.vec OH l=>(.chk (T (X l<=1000000)) (.chk (sM l) (.ok {val:=.tup [],wr:=[(id,.vec R (ro l))]})))
  |_=>.err
 |_=>.err
theorem zw9:Go.Proofs.Enters Tryz.prog 50:=by
  cases h:Tryz.f50.body with
  | none => have:Tryz.f50.body.isNone=false:=by kernel_rfl
            rw[h]at this;cases this
  |some c=>exact Go.Proofs.enters_of (fn:=Tryz.f50) kw kw h
def zeG(x:aA)(h:J zl.sl):Tr (Empty⊕aw):=
 let a:=Y h (Z 0) (Q zl)
 br (x.1==dI) (K (zL 0 (X h)) (re (L a.1.q.1) []))
 (br (x.1==ic) (re (L x.u) [])
  (K (zL 0 (X x.t.1)) (re (L (Y x.t.1 (Z 0) (Q zk))) [])))
def yx(x:aA)(h:J zl.sl):=ap [zk] t0 100000000 (zeG x h)
def nJ(x:aA)(h:J zl.sl):=(yx x h).isSome
def dC(x:aA)(h:J zl.sl):=o1 (yx x h)
def zpw:=FT [ar,zl.sl] [zk] λx=>yx x.1 x.2.1
theorem zkh:FK 40 zpw:=sR.T1 (f:=Tryz.f40) (keep:=k0) (e:=e0)
abbrev ztW:=kS [(7,[4,5,52,53,54])]
inductive MN where
 |h7 (l52:aT) (i53:Int) (i54:Int) (ja0:List UInt8) (ja1:List UInt8) (ja2:List UInt8) (ja5:List UInt8) (ja8:List UInt8) (ja9:Int) (ja10:Int) (ja11:List UInt8) (ja12:List UInt8) (ja16:List UInt8) (ja17:Int) (ja18:Int) (ja19:List UInt8) (ja20:List UInt8) (ja22:List UInt8) (jb0:J Q6) (jb1:J Q6) (jb2:J Q6) (jb5:List UInt8) (jb8:zJ) (jb9:Int) (jb10:Int) (jb11:zJ) (jb12:zJ) (jb13:List (J Q5)) (jb16:List UInt8) (jb17:Int) (jb18:Int) (jb19:List UInt8) (jb20:List UInt8) (jb22:J Q6)
 |h7b (l52:aT) (i53:Int) (i54:Int) (ja0:List UInt8) (ja1:List UInt8) (ja2:List UInt8) (ja5:List UInt8) (ja8:List UInt8) (ja9:Int) (ja10:Int) (ja11:List UInt8) (ja12:List UInt8) (ja16:List UInt8) (ja17:Int) (ja18:Int) (ja19:List UInt8) (ja20:List UInt8) (ja22:List UInt8) (jb0:J Q6) (jb1:J Q6) (jb2:J Q6) (jb5:List UInt8) (jb8:zJ) (jb9:Int) (jb10:Int) (jb11:zJ) (jb12:zJ) (jb13:List (J Q5)) (jb16:List UInt8) (jb17:Int) (jb18:Int) (jb19:List UInt8) (jb20:List UInt8) (jb22:J Q6) (lh_2:List (J Q6))
abbrev zwM:MN->Nat×St
 |.h7 U u v w y z A B C j h x a b c d e g D E F G H P i k l m n o p q s t=>(7,⟨tm 67 [(4,ptr 0 0),(5,ptr 1 0),(52,N zn U),(53,L u),(54,L v)],[Qa [I w,I y,I z,Qb,Qb,I A,Qb,Qb,I B,L C,L j,I h,I x,Qb,Qb,Qb,I a,L b,L c,I d,I e,Qb,I g],Qa [I D,I E,I F,Qb,Qb,I G,Qb,Qb,I H,L P,L i,I k,I l,N Q5 m,Qb,Qb,I n,L o,L p,I q,I s,Qb,I t]]⟩)
 |.h7b U u v w y z A B C j h x a b c d e g D E F G H P i k l m n o p q s t h0=>(7,⟨tm 67 [(4,ptr 0 0),(5,ptr 1 0),(52,N zn U),(53,L u),(54,L v)],[Qa [I w,I y,I z,Qb,Qb,I A,Qb,Qb,I B,L C,L j,I h,I x,Qb,Qb,Qb,I a,L b,L c,I d,I e,Qb,I g],Qa [I D,I E,I F,AV.vec 2,Qb,I G,Qb,Qb,I H,L P,L i,I k,I l,N Q5 m,Qb,Qb,I n,L o,L p,I q,I s,Qb,I t],AO.vec Q6 h0]⟩)
def zeN(x:aA)(c:J zl.sl):Tr (MN⊕aw):=
 let h:=T (x.u>=0)
 let b:=zL 0 (X c)
 let a:=Y c (Z 0) (Q zl)
 let d:=(X a.1.2.1:Int)
 let e:=Y a.1.2.1 (Z x.u) (Q zn)
 br (x.1==ic)
 (K (cond h b O)
  (br (cond h (T (x.u<d)) S) (K b (K (zL x.u (X a.1.2.1)) (re (aS x.1 x.r.1.1 x.2.1 Qb Qb e.1 Qb Qb (xE x.r.1.u) Qb Qb zE x.q.1) []))) (re (aS x.1 x.r.1.1 x.2.1 Qb Qb [] Qb Qb (xE x.r.1.u) Qb Qb zE x.q.1) [])))
 (Q9
  (MN.h7 x.r.1.2.1 (X x.r.1.2.1:Int) 0 [] [] [] [] [] 0 0 [] [] [] 0 0 [] [] [] x.1 x.r.1.1 x.2.1 [] (zg.op x.r.1.u) (zg.v x.r.1.u).1 (zg.v x.r.1.u).2.1 (zg.v x.r.1.u).q (zg.s x.r.1.u) (zg.l x.r.1.u) [] 0 0 [] [] x.q.1))
def Cm:MN->Tr (MN⊕aw)
 | .h7 l m i F G H P U h0 n o p q s t u v w y z A B C D j h x a b c d e g k=>
  let a0:=l.getD i.toNat (Q zn)
  let a1:=[a0.1]
  br (T (i<m))
  (K (zL i (X l)) (K (T (X a1<=1073741824)) (Q9 (MN.h7b l m (Γ Δ (i+1)) F G H P U h0 n o p q s t u v w y z A B C D j h x a b c d e g k a1))))
  (re (aS y z A Qb Qb B Qb Qb [I C,L D,L j,I h,I x,N Q5 a] Qb Qb [I b,L c,L d,I e,I g,Qb] k) [])
 | .h7b l m i F G H P U h0 n o p q s t u v w y z A B C D j h x a b c d e g k E=>
  let a0:=l.getD i.toNat (Q zn)
  let a1:=[a0.1]
  br (T (i<m))
  (K (zL i (X l)) (K (T (X E+X a1<=1073741824)) (Q9 (MN.h7b l m (Γ Δ (i+1)) F G H P U h0 n o p q s t u v w y z A B C D j h x a b c d e g k (E++a1)))))
  (re (aS y z A (AV.vec 0) Qb B Qb Qb [I C,L D,L j,I h,I x,N Q5 a] Qb Qb [I b,L c,L d,I e,I g,Qb] k) [AO.vec Q6 E])
def KX(x:aA)(h:J zl.sl):=ap [ay] Cm 100000000 (zeN x h)
def RE(x:aA)(h:J zl.sl):=(KX x h).isSome
def zaI(x:aA)(h:J zl.sl):=o1 (KX x h)
def zpU:=FT [ar,zl.sl] [ay] λx=>KX x.1 x.2.1
theorem zkI:FK 85 zpU:=sR.T1 (f:=Tryz.f85) (keep:=ztW) (e:=zwM)
def YR:=zid.addL [(40,zpw),(85,zpU)]
theorem QK:zw YR:=sR.addL<|fc zkh<|fc zkI<|jg
def zx9(x:ae):Tr (Empty⊕aw):=
 re (I x.1.1) []
def zbm(x:ae):=ap [Q6] t0 100000000 (zx9 x)
def zv8:=FT [zl] [Q6] λx=>zbm x.1
theorem zkD:FK 78 zv8:=sR.T1 (f:=Tryz.f78) (keep:=k0) (e:=e0)
theorem zkF:FK 78 (aU [zl] [.str] λx=>(x.1.1.1,())):=iV zkD λ_=>rfl
def zif:=((((YR.add 78 (aU [zl] [.str] λx=>(x.1.1.1,()))).add 138 zjp).aut 80 Tryz.f80 2).aut 81 Tryz.f81 1)
theorem IE:zw zif:=jl (jl ((QK.add zkF).add zlg) (cK kw)) (cK kw)
abbrev ztA:=kS [(6,[1,2,5,6,19,20,21])]
inductive UR where
 |h6 (l1:zS) (l6:List (J Q6)) (l19:zS) (i20:Int) (i21:Int) (z0:zp [CP.d ar])
abbrev zwy:UR->Nat×St
 |.h6 x a l i h z=>(6,⟨tm 55 [(1,N zl x),(2,ptr 0 0),(5,ptr 1 0),(6,N Q6 a),(19,N zl l),(20,L i),(21,L h)],[Qa (bL [] [CP.d ar] z),Qa [AV.clo (Fn.func 78) [] []]]⟩)
def zs5(x:aA)(h:J zl.sl):Tr (UR⊕aw):=
 let a:=mC (x.1,x.2.1,x.q.1,(x.r.1.1,x.r.1.2.1,x.r.1.q.1,x.r.1.r.1,x.r.1.t.1,zt x.r.1.u),x.t)
 br ((X h:Int)!=(X a:Int)) (re (L 1) []) (Q9 (UR.h6 h a h (X h:Int) 0 (x,())))
def zfU:UR->Tr (UR⊕aw)
 | .h6 l g c d i b=>
  let n:=c.getD i.toNat (Q zl)
  let e:=(b.1.1,b.1.2.1,b.1.q.1,(b.1.r.1.1,b.1.r.1.2.1,b.1.r.1.q.1,b.1.r.1.r.1,b.1.r.1.t.1,zt b.1.r.1.u),b.1.t)
  let a:=zaI e l
  let j:=(a.1,a.2.1,a.q.1,a.r.1,a.t.1,a.u.1,a.v.1,a.w.1,zt a.x.1,a.y.1,a.z.1,zt a.s.1,a.p)
  let h:=pOf (gO l) j
  let k:=h.2!=0
  let m:=(h.1.1,h.1.2.1,h.1.q.1,(h.1.r.1.1,h.1.r.1.2.1,h.1.r.1.q.1,h.1.r.1.r.1,h.1.r.1.t.1,zt h.1.r.1.u),h.1.t)
  br (T (i<d))
  (K (zL i (X c)) (K (zL i (X g)) (br (!n.1.1==g.getD i.toNat (Q Q6)) (re (L 1) []) (Q9 (UR.h6 l g c d (Γ Δ (i+1)) b)))))
  (K (T (0<X l)) (K (T (X l<=1000)) (K (two l) (K (RE e l) (K (znZ (gO l) j) (K (cond k O (KV e m)) (br (cond k O (!OG e m)) (re (L 1) []) (re (L 0) []))))))))
def T2(x:aA)(h:J zl.sl):=ap [zk] zfU 100000000 (zs5 x h)
def Jg(x:aA)(h:J zl.sl):=(T2 x h).isSome
def Wu(x:aA)(h:J zl.sl):=o1 (T2 x h)
def zpr:=FT [ar,zl.sl] [zk] λx=>T2 x.1 x.2.1
theorem zkc:FK 31 zpr:=IE.T1 (f:=Tryz.f31) (keep:=ztA) (e:=zwy)
def zig:=zif.add 31 zpr
theorem IF:zw zig:=IE.add zkc
abbrev ztT:=kS [(4,[1,6,7,8]),(12,[1,6,7,8,10,11,12])]
inductive nM where
 |h4 (l1:zS) (l6:List (J Q6)) (i8:Int)
 |h12 (l1:zS) (l6:List (J Q6)) (i8:Int) (i12:Int) (z0:zp [CP.d zl])
 |h12b (l1:zS) (l6:List (J Q6)) (i8:Int) (i12:Int) (z0:zp [CP.d zl]) (lh_1:dK)
 |h4b (l1:zS) (l6:List (J Q6)) (i8:Int) (lh_0:zS)
 |h12bb (l1:zS) (l6:List (J Q6)) (i8:Int) (i12:Int) (z1:zp [CP.d zl]) (lh_0:zS)
 |h12bbb (l1:zS) (l6:List (J Q6)) (i8:Int) (i12:Int) (z1:zp [CP.d zl]) (lh_0:zS) (lh_2:dK)
abbrev zwK:nM->Nat×St
 |.h4 x a h=>(4,⟨tm 67 [(1,N zl x),(6,N Q6 a),(7,Qb),(8,L h)],[]⟩)
 |.h12 x a h i z=>(12,⟨tm 67 [(1,N zl x),(6,N Q6 a),(7,Qb),(8,L h),(10,ptr 0 0),(11,Qb),(12,L i)],[Qa (bL [] [CP.d zl] z)]⟩)
 |.h12b x a h i z b=>(12,⟨tm 67 [(1,N zl x),(6,N Q6 a),(7,Qb),(8,L h),(10,ptr 0 0),(11,AV.vec 1),(12,L i)],[Qa (bL [] [CP.d zl] z),AO.vec zG b]⟩)
 |.h4b x a h l=>(4,⟨tm 67 [(1,N zl x),(6,N Q6 a),(7,AV.vec 0),(8,L h)],[AO.vec zl l]⟩)
 |.h12bb x a h i e l=>(12,⟨tm 67 [(1,N zl x),(6,N Q6 a),(7,AV.vec 0),(8,L h),(10,ptr 1 0),(11,Qb),(12,L i)],[AO.vec zl l,Qa (bL [] [CP.d zl] e)]⟩)
 |.h12bbb x a h i e l c=>(12,⟨tm 67 [(1,N zl x),(6,N Q6 a),(7,AV.vec 0),(8,L h),(10,ptr 1 0),(11,AV.vec 2),(12,L i)],[AO.vec zl l,Qa (bL [] [CP.d zl] e),AO.vec zG c]⟩)
def zmI(x:aA)(h:J zl.sl):Tr (nM⊕aw):=
 let a:=(x.1,x.2.1,x.q.1,(x.r.1.1,x.r.1.2.1,x.r.1.q.1,x.r.1.r.1,x.r.1.t.1,zt x.r.1.u),x.t)
 K (kL a) (Q9 (nM.h4 h (mD a) 0))
def iw:nM->Tr (nM⊕aw)
 | .h4 a h x=>
  let c:=mJ a (h.getD x.toNat (Q Q6))
  br (T (x<(X h:Int)))
  (K (zL x (X h)) (br (T (c<0)) (re (tup [Qb,kb S]) []) (K (zL c (X a)) (Q9 (nM.h12 a h x 0 (a.getD (Z c) (Q zl),()))))))
  (re (tup [Qb,kb O]) [])
 | .h12 a h x i z=>
  let c:=(X z.1.1.t.1:Int)
  let j:=zL i (X z.1.1.t.1)
  let d:=Y z.1.1.t.1 i.toNat (Q zG)
  let k:=[d]
  let m:=Γ Δ (i+1)
  let n:=[((z.1.1.1,z.1.1.2.1,z.1.1.q.1,z.1.1.r.1,[],zt z.1.1.u),z.1.2)]
  br (T (i<c))
  (K j (K (BX h d.2) (br (Pd h d.2) (K j (K (T (X k<=1073741824)) (Q9 (nM.h12b a h x m z k)))) (Q9 (nM.h12 a h x m z)))))
  (K (T (X n<=1073741824)) (Q9 (nM.h4b a h (Γ Δ (x+1)) n)))
 | .h12b a h x i z e=>
  let c:=(X z.1.1.t.1:Int)
  let j:=zL i (X z.1.1.t.1)
  let d:=Y z.1.1.t.1 i.toNat (Q zG)
  let k:=[d]
  let m:=Γ Δ (i+1)
  let n:=[((z.1.1.1,z.1.1.2.1,z.1.1.q.1,z.1.1.r.1,e,zt z.1.1.u),z.1.2)]
  br (T (i<c))
  (K j (K (BX h d.2) (br (Pd h d.2) (K j (K (T (X e+X k<=1073741824)) (Q9 (nM.h12b a h x m z (e++k))))) (Q9 (nM.h12b a h x m z e)))))
  (K (T (X n<=1073741824)) (Q9 (nM.h4b a h (Γ Δ (x+1)) n)))
 | .h4b a h x l=>
  let c:=mJ a (h.getD x.toNat (Q Q6))
  br (T (x<(X h:Int)))
  (K (zL x (X h)) (br (T (c<0)) (re (tup [Qb,kb S]) []) (K (zL c (X a)) (Q9 (nM.h12bb a h x 0 (a.getD (Z c) (Q zl),()) l)))))
  (re (tup [AV.vec 0,kb O]) [AO.vec zl l])
 | .h12bb a h x i b l=>
  let c:=(X b.1.1.t.1:Int)
  let j:=zL i (X b.1.1.t.1)
  let d:=Y b.1.1.t.1 i.toNat (Q zG)
  let k:=[d]
  let m:=Γ Δ (i+1)
  let n:=[((b.1.1.1,b.1.1.2.1,b.1.1.q.1,b.1.1.r.1,[],zt b.1.1.u),b.1.2)]
  br (T (i<c))
  (K j (K (BX h d.2) (br (Pd h d.2) (K j (K (T (X k<=1073741824)) (Q9 (nM.h12bbb a h x m b l k)))) (Q9 (nM.h12bb a h x m b l)))))
  (K (T (X l+X n<=1073741824)) (Q9 (nM.h4b a h (Γ Δ (x+1)) (l++n))))
 | .h12bbb a h x i b l g=>
  let c:=(X b.1.1.t.1:Int)
  let j:=zL i (X b.1.1.t.1)
  let d:=Y b.1.1.t.1 i.toNat (Q zG)
  let k:=[d]
  let m:=Γ Δ (i+1)
  let n:=[((b.1.1.1,b.1.1.2.1,b.1.1.q.1,b.1.1.r.1,g,zt b.1.1.u),b.1.2)]
  br (T (i<c))
  (K j (K (BX h d.2) (br (Pd h d.2) (K j (K (T (X g+X k<=1073741824)) (Q9 (nM.h12bbb a h x m b l (g++k))))) (Q9 (nM.h12bbb a h x m b l g)))))
  (K (T (X l+X n<=1073741824)) (Q9 (nM.h4b a h (Γ Δ (x+1)) (l++n))))
def FE(x:aA)(h:J zl.sl):=ap [zl.sl,Sh.bool] iw 100000000 (zmI x h)
def RI(x:aA)(h:J zl.sl):=(FE x h).isSome
def zaX(x:aA)(h:J zl.sl):=o2 (FE x h)
def zpP:=FT [ar,zl.sl] [zl.sl,Sh.bool] λx=>FE x.1 x.2.1
theorem zkA:FK 66 zpP:=IF.T1 (f:=Tryz.f66) (keep:=ztT) (e:=zwK)
def BD:=zig.add 66 zpP
theorem Ak:zw BD:=IF.add zkA
abbrev ziV:=kS [(4,[5,6,18,19,20]),(11,[9,34])]
inductive US where
 |h4 (i5:zy) (l18:List (J ze.sl)) (i19:Int) (i20:Int) (mh_0:List ((Int×Int×zJ)×Int))
abbrev Qw:US->Nat×St
 |.h4 x l i h m=>(4,⟨tm 46 [(5,L x),(6,AV.mp 0),(18,N ze.sl l),(19,L i),(20,L h)],[AO.vmap O m]⟩)
def zmB(x:aA)(h:J zl.sl):Tr (US⊕aw):=
 let a:=(x.1,x.2.1,x.q.1,(x.r.1.1,x.r.1.2.1,x.r.1.q.1,x.r.1.r.1,x.r.1.t.1,zt x.r.1.u),x.t)
 let b:=Y h (Z 0) (Q zl)
 K (nJ a h) (K (zL 0 (X h)) (Q9 (US.h4 (dC a h) b.2 (X b.2:Int) 0 [])))
def zvL:US->Tr (US⊕aw)
 | .h4 x l h i m=>
  let a:=l.getD i.toNat (Q ze.sl)
  br (T (i<h))
  (K (zL i (X l)) (K (zL x (X a)) (Q9 (US.h4 x l h (Γ Δ (i+1)) (lK m (Y a (Z x) (Q R)) 0)))))
  Tr.err
set_option maxRecDepth 100000
def yM(e:List ((Int×Int×zJ)×Int))(k:Int×Int×zJ):List ((Int×Int×zJ)×Int):=match da e k 0 with
 |some q=>e.eraseIdx q.1
 |none=>e
variable {w:World}{h:Array MapEntry}{e:List ((Int×Int×zJ)×Int)}
theorem zed{P:Program}{mt kt et:TypeId}(A:P.underlying mt=M (.map kt et))(l:ii P kt=O){r:Nat}{c:Nat}{k:Int×Int×zJ}(v:eX k)
  (o:w.heap[r]?=M (.map h c)) (u:(h.toList.map λa=>(a.key,a.val))=Hh O e) (C:∀p∈e,dv .i64 p.2/\eX p.1) (y:mZ h c):
  ∃b:Array MapEntry,(∀z,(Builtin.delete_ #[mt,kt] z #[.map (M r),cP k]).run P w=.ok (.tuple #[]) {w with heap:=w.heap.setIfInBounds r (.map b c)})/\
   (b.toList.map λa=>(a.key,a.val))=Hh O (yM e k)/\(∀x∈b.toList,x.born<c)/\(b.toList.map (·.born)).Nodup:=by
 have j:=kr (P:=P) (w:=w) l v O e h.toList u C;have d:∀x∈h.toList,x.born<c:=λx t=>by
  obtain⟨i,s,rfl⟩:=fO t;have:=y.2 i h.toList[i] (by rw[<-rg];exact af s);rw[this,y.1];simpa using s
 have n:(h.toList.map (·.born)).Nodup:=by
  have:h.toList.map (·.born)=List.range h.size:=by
   apply List.ext_getElem
   .simp
   .intro i B D;have s:i<h.size:=by simpa using B
    simp only[List.getElem_map,List.getElem_range];exact y.2 i _ (by rw[<-rg];exact af (by simpa using s))
  rw[this];exact List.nodup_range
 unfold yM;cases m:da e k 0 with
 | none=>
  rw[m]at j;refine⟨h,λz=>?_,u,d,n⟩;simp[Builtin.delete_,bN A,g9 o,bP l,j,ov _ o,Result.andThen]
 | some q=>
  rw[m]at j;have g:((h.eraseIdxIfInBounds q.1).toList)=h.toList.eraseIdx q.1:=by simp
  refine⟨h.eraseIdxIfInBounds q.1,λz=>?_,?_,λx t=>?_,?_⟩
  .simp[Builtin.delete_,bN A,g9 o,bP l,j,ov _ o,Result.andThen]
  .rw[g,ti,u];exact(ti _ e q.1).symm
  .rw[g]at t;exact d x (List.mem_of_mem_eraseIdx t)
  .rw[g];exact n.sublist ((List.eraseIdx_sublist _ _).map _)
def Gj:Code:=match Tryz.f32.body with
 |some (.seq _ (.seq _ (.seq _ (.seq _ r))))=>r
 |_=>.skip
def Fd:Code:=match Tryz.f32.body with
 |some (.seq _ (.seq _ (.seq _ (.seq (.seq _ (.block _ (.loop c))) _))))=>c
 |_=>.skip
theorem zmq:am Tryz.f32 4=[.code Fd,.inLoop Fd,.inBlock 0,.code Gj]:=kw
theorem zmO:(Tryz.prog.info? 30).map (λi=>(i.zero,i.size,i.bytes))=M (M (.agg #[.int .i64 0,.int .i64 0,.string ⟨#[]⟩]),3,32):=kw
def NP(l:List ((Int×Int×zJ)×MapEntry)):List Value:=l.flatMap λp=>[.int .i64 p.1.1,.int .i64 p.1.2.1,.string ⟨p.1.2.2.toArray⟩]
structure zjm (w1:World) (r clock:Nat) (ents':Array MapEntry) (v:Value) (wr:World) (seen:Array Nat) (E:List ((Int×Int×zJ)×MapEntry)):Prop where
 it:∃c0,wr.heap[w1.heap.size]?=M (.mapIter (M r) clock seen c0)/\clock<=c0
 mp:wr.heap[r]?=M (.map ents' clock)
 sub:∀p∈E,p.2∈ents'.toList/\p.2.key=cP p.1
 sn:seen.toList=E.map λp=>p.2.born
 nd:(E.map λp=>p.2.born).Nodup
 row:wr.ownsRow w1.heap.size 30 3 v (X E) (NP E)
 bel:RowKit.Below w1.heap.size w1 wr
 cnt:X E+(leftOf ents' seen).size<=ents'.size
theorem Vo(w:World)(l:List Value)(t:TypeId):∀j u,l[j]?=M u->(w.alloc (.cells l.toArray t)).cell? ((⟨w.heap.size,0,none⟩:Addr).add j)=M u:=by
 intro j u h;unfold Addr.add;split
 next e=>subst e;simp[h]
 .simp[h]
theorem zfx(Q:Exit->Act->World->Prop)(c:Value->World->Prop)(r:Nat)(i:Array MapEntry)(d:Nat)(w l:World)(m2:∀ty,(Builtin.delete_ #[158,30] ty #[.map (M r),.agg #[.int .i64 0,.int .i64 0,.string ⟨#[]⟩]]).run Tryz.prog w=.ok (.tuple #[]) l)(hm:l.heap[r]?=M (.map i d))(h5:∀x∈i.toList,x.born<d)(a3:(i.toList.map (·.born)).Nodup) (h8:∀x∈i.toList,∃k,x.key=cP k) (m8:i.size<=1000)
  (x1:∀v wr s E,zjm l r d i v wr s E->(leftOf i s).size=0->Calls Tryz.prog 87 #[v,.func (.func 50) #[] #[]] wr λe w'=>e=.returned (.tuple #[])/\c v w')
  (hQ:∀v w'(a:Act),c v w'->a.tmps[4]?=M v->a.defers=[]->Q Exit.ret a w')
  (v0 v1 v2 v3 v4 v5 v7 v8 v9 i1 i2 i3 i4 i5 i6 i7 i8 i9 j0 v20 j1 j2 j3 j4 j5 j6 j7 j8 j9 k4 k5 k6 k7 k8 k9 l0 l1 l2 l3 l4 l5 l6 l7 l8 l9:Value):
  Gj.wp Tryz.prog Q {tmps:=#[v0,v1,v2,v3,v4,v5,(Value.map (M r)),v7,v8,v9,i1,i2,i3,i4,i5,i6,i7,i8,i9,j0,v20,j1,j2,j3,j4,j5,j6,j7,j8,j9,k4,k5,k6,k7,k8,k9,l0,l1,l2,l3,l4,l5,l6,l7,l8,l9],defers:=[]} w:=by
 have m6:=run_range_map (P:=Tryz.prog) l 158 30 159 r i d Tryz.underlying158 hm;simp only[Gj,Tryz.f32]
 go_wp2
 obtain⟨i0,hi,a7,a8,a9⟩:=info_parts zmO
 go_loopw [9] (λv wr=>∃s E,zjm l r d i v wr s E)
  (λ_ wr=>(leftOf i (wr.iterSeen l.heap.size)).size)
 case atStart=>
  exact⟨#[],[],⟨⟨d,heap_alloc_new _ _,zM _⟩,by rw[heap_alloc_old _ _ (mU.1 hm).1];exact hm,sw,sw,sw,World.ownsRow_nil _ _ _ _,(RowKit.Below.refl _ _).alloc (zM _) _,by simpa[leftOf]using Array.size_filter_le⟩⟩
 case round=>
  obtain⟨s,E,n⟩:=hrel;obtain⟨c0,C,a5⟩:=n.it;have m3:r<l.heap.size:=(mU.1 hm).1;rcases run_next_at (P:=Tryz.prog) wr 0 l.heap.size r d c0 s i d C n.mp h5 a5 with⟨hz,F⟩|⟨e,he,wd,B,F⟩
  .have x8:=x1 _ _ _ _ n (by simpa using hz);clear n
   go_wp2_with (go_at_call 87;refine x8.mono ?_;rintro e w' ⟨rfl,hS⟩)
   exact hQ _ _ _ hS rfl rfl
  .have h6:e∈i.toList:=by simp[leftOf]at he|-;exact he.1
   have a0:e.born∉E.map λp=>p.2.born:=by
    rw[<-n.sn];simp[leftOf]at he|-;exact he.2
   obtain⟨k,hk⟩:=h8 e h6;have a2:0<(leftOf i s).size:=by
    have:=List.length_pos_of_mem he;simpa using this
   have m1:=n.cnt;have m4:X E<1000:=by omega
   obtain⟨q,m⟩:∃q,ChangeMaps.setBlock wd l.heap.size (.mapIter (M r) d (s.push e.born) d)=q:=⟨_,rfl⟩;rw[m]at F;have G:wd.heap=wr.heap:=by rcases B with rfl|rfl<;>rfl
   have x3:l.heap.size<wr.heap.size:=(mU.1 C).1;have t:q.heap[l.heap.size]?=M (.mapIter (M r) d (s.push e.born) d):=by
    rw[<-m];show(wd.heap.setIfInBounds _ _)[_]?=_;rw[G];simp[x3]
   have h3:∀j,j≠l.heap.size->q.heap[j]?=wr.heap[j]?:=λj D=>by
    rw[<-m];show(wd.heap.setIfInBounds _ _)[_]?=_;rw[G,Array.getElem?_setIfInBounds_ne (λe=>D e.symm)]
   have h4:q.heap.size=wr.heap.size:=by
    rw[<-m];show(wd.heap.setIfInBounds _ _).size=_;rw[G];simp
   have h7:wr.grownBy q (M l.heap.size):=⟨by rw[<-m];rcases B with rfl|rfl<;>rfl,by rw[<-m];rcases B with rfl|rfl<;>rfl,by rw[<-m];rcases B with rfl|rfl<;>rfl,by rw[h4];exact zM _,λj _ D=>h3 j λe=>D (by rw[e])⟩;have h0:q.heap[r]?=M (.map i d):=(h3 r W).trans n.mp;have x2:=run_entry_at (P:=Tryz.prog) q l.heap.size r d s i d e t h0 h6 a3;have A:=n.row.kept h7 (by
    rcases n.row.2 with⟨rfl,_⟩|⟨g,x6,x7,rfl,_,y,_⟩
    .exact .inl rfl
    .refine .inr λe'=>?_
     have:g=l.heap.size:=by simpa[Value.ownBlock]using e'
     subst this;rw[C]at y;cases y)
   have u:RowKit.Below l.heap.size l q:=n.bel.grown h7 n.bel.size (λj e=>by cases e;exact zM _);rw[hk]at F x2;obtain⟨k1,k2,k3⟩:=k;simp only[cP]at F x2;have x5:=n.sub;have a6:=n.sn;have x4:=n.nd;clear m B G h4 h7 n
   go_wp2_with (at_builtin;refine wpList_append_own _ rfl _ _ 39 rfl l.heap.size 30 i0 _ 3 32 Tryz.underlying39 hi a7 a8 a9 rfl (by decide) _ _ _ rfl ((A.alloc _).alloc _) ⟨q.heap.size+1,0,none⟩ 1 1 [.int .i64 k1,.int .i64 k2,.string ⟨k3.toArray⟩] rfl rfl (by have:=Vo (q.alloc (.cells #[.int .i64 k1,.int .i64 k2,.string ⟨k3.toArray⟩] 30)) [.int .i64 k1,.int .i64 k2,.string ⟨k3.toArray⟩] 30;simpa using this) (by simp[Value.oneCell']) (by unfold maxLen;omega) W (by have:=u.size;simp;omega) ?_;intro v' w3 x0 H h9;go_frame)
   obtain⟨o3,a4⟩:∃o:Obj,o=.cells #[.int .i64 k1,.int .i64 k2,.string ⟨k3.toArray⟩] 30:=⟨_,rfl⟩;have U:World.grownBy ((q.alloc o3).alloc o3) w3 u9.ownBlock:=by rw[a4];exact H
   clear H h9;have z:∀j,u9.ownBlock=M j->l.heap.size<=j/\j≠l.heap.size:=by
    intro j D;rcases A.2 with⟨rfl,_⟩|⟨g,x6,x7,rfl,x9,y,_⟩
    .simp[Value.ownBlock]at D
    .have:g=j:=by simpa[Value.ownBlock]using D
     subst this;exact⟨x9,λe'=>by subst e';rw[t]at y;cases y⟩
   have m7:l.heap.size<q.heap.size:=(mU.1 t).1;have h2:∀j,j<=l.heap.size->w3.heap[j]?=q.heap[j]?:=λj D=>by
    rw[U.block j sg (λe'=>by obtain⟨a,b⟩:=z j e'.symm;omega),heap_alloc_old _ _ sg,heap_alloc_old _ _ W]
   have h1:w3.heap[l.heap.size]?=M (Obj.mapIter (M r) d (s.push e.born) d):=(h2 _ (zM _)).trans t;have a1:NP (E++[((k1,k2,k3),e)])=NP E++[.int .i64 k1,.int .i64 k2,.string ⟨k3.toArray⟩]:=by simp[NP]
   refine⟨⟨s.push e.born,E++[((k1,k2,k3),e)],⟨⟨d,h1,zM _⟩,(h2 r W).trans h0,?_,?_,?_,?_,?_,?_⟩⟩,?_⟩
   .intro p hp;rcases cX.1 hp with h|h
    .exact x5 p h
    .obtain rfl:=fh.1 h;exact⟨h6,hk⟩
   .simp[a6]
   .rw[gh];refine List.nodup_append.2 ⟨x4,sw,λa ha b hb=>?_⟩;have:b=e.born:=by simpa using hb
    rintro rfl;exact a0 (this▸ha)
   .rw[a1,jK];exact x0
   .exact((u.alloc W _).alloc sg _).grown U sg (λj D=>(z j D).1)
   .have:=left_shrinks _ _ _ he;rw[jK];simp only[fE,qA];omega
   .have e1:wr.iterSeen l.heap.size=s:=by simp[World.iterSeen,C]
    have e2:w3.iterSeen l.heap.size=s.push e.born:=by simp[World.iterSeen,h1]
    rw[e1,e2];exact left_shrinks _ _ _ he
abbrev V3:={x:zq//be x=O}
def ld(p:V3):List Value:=[.int .i64 p.1.1,.int .i64 p.1.2.1,.string ⟨(p.1.2.2:zJ).toArray⟩]
def Na(p q:V3):Int:=aF p.1 q.1
theorem zoj[Inhabited V3](d:Array V3)(B j:Nat)(w:World)(s:HoldsK ld 3 w B 0 d)(q:B<w.heap.size)(h:d.size<4611686018427387904):
  Calls Tryz.prog 87 #[.slice (M ⟨B,0,none⟩) d.size j,.func (.func 50) #[] #[]] w λe l=>e=.returned (.tuple #[])/\∃n os,l=sortWorldK ld 3 w B 0 n (d.toList.mergeSort λx y=>!(ltOf Na) y x).toArray os:=by
 refine AnyQ.slices_SortFunc_total Tryz.sortVal 3 Tryz.isAgg30 Tryz.sizeOf30 ld (λ_=>rfl) ?_ Na ?_ 50 #[] B 0 j d w zw9 ?_ s q h ?_
 .intro x v k;simp only[ld,bZ,List.not_mem_nil,or_false]at k;rcases k with rfl|rfl|rfl<;>rfl
 .refine⟨λx=>?_,λx y z h g=>?_,λx y z h g=>?_⟩
  .exact aB (eD (a:=x.1))
  .simp only[ltOf,aY]at h g|-;exact dZ (a:=x.1) (b:=y.1) (c:=z.1) h g
  .simp only[ltOf,ei]at h g|-;intro i;rcases ma x.2 y.2 h with e|e
   .unfold Na at i;rw[e]at i;exact g i
   .exact g (dZ (a:=y.1) (b:=x.1) (c:=z.1) e i)
 .intro m os u t x y;show Calls Tryz.prog 50 (#[Value.agg (ld x).toArray,Value.agg (ld y).toArray]++#[]) _ _;refine(zfi x.1.1 x.1.2.1 x.1.2.2 y.1.1 y.1.2.1 y.1.2.2 _).mono ?_;rintro A l ⟨rfl,o,p⟩;exact⟨rfl,gd_of o p⟩
 .intro x y h g;simp only[ltOf,ei]at h g;rcases ma x.2 y.2 h with e|e
  .exact Subtype.ext e
  .exact zA e g
theorem wT[Inhabited V3]:∀(l:List V3)(t:Nat),t<X l*3->(l.flatMap ld)[t]?=M (ld (l[t/3]!))[t%3]!
 |[],t,h=>by simp at h
 | a::l,t,h=>by
  rw[List.flatMap_cons];by_cases x:t<3
  .have e0:t/3=0:=by omega
   have e:t%3=t:=by omega
   rw[rl (by simpa[ld]using x),e0,e];rw[List.getElem!_cons_zero,af (by simpa[ld]using x),getElem!_pos]
  .obtain⟨s,rfl⟩:∃s,t=s+3:=⟨t-3,W⟩;have e0:(s+3)/3=s/3+1:=by omega
   have e:(s+3)%3=s%3:=by omega
   rw[pu (by simp[ld]),e0,e,List.getElem!_cons_succ];have:=wT l s (by simp at h;omega);simpa[ld]using this
theorem EO:∀l:List V3,(l.flatMap ld).length=X l*3
 |[]=>rfl
 | a::l=>by
  rw[List.flatMap_cons,jK,EO l,fE];simp[ld];omega
variable {v:Value}{l:List V3}
theorem zaG[Inhabited V3](z:w.ownsRow i 30 3 v (X l) (l.flatMap ld))(p:X l<4611686018427387904)(P:l≠[]):
  Calls Tryz.prog 87 #[v,.func (.func 50) #[] #[]] w λe w'=>e=.returned (.tuple #[])/\w'.ownsRow i 30 3 v (X l) ((l.mergeSort λx y=>!(ltOf Na) y x).flatMap ld)/\w.grownBy w' v.ownBlock:=by
 rcases z.2 with⟨_,h0⟩|⟨g,j,o,rfl,C,a,s,E,q,h1⟩
 .exact zA (List.length_eq_zero_iff.1 h0) P
 have hH:HoldsK ld 3 w g 0 l.toArray:=by
  intro t c;rw[size_flatK]at c;have A:t<X l*3:=by simpa using c
  have hc:o.toList[t]?=M (ld (l[t/3]!))[t%3]!:=by
   rw[<-wT l t A,<-h1,List.getElem?_take_of_lt A]
  refine⟨?_,by simp[World.frozen?,a]⟩;rw[get_flatK _ _ _ _ c];simp[World.cell?,a];simpa using hc
 have hs:=zoj l.toArray g j w hH (mU.1 a).1 (by simpa using p);have U:l.toArray.size=X l:=by simp
 rw[U]at hs;refine hs.mono ?_;rintro e w' ⟨rfl,m,os,rfl⟩;have h:(l.mergeSort λx y=>!(ltOf Na) y x).length=X l:=List.length_mergeSort _;simp only[];generalize(l.mergeSort λx y=>!(ltOf Na) y x)=d at h;have B:=wY (enc:=ld) (k:=3) (n:=m) (os:=os) d.toArray a;have u:∀b,b<w.heap.size->b≠g->(sortWorldK ld 3 w g 0 m d.toArray os).heap[b]?=w.heap[b]?:=λb hb H=>iR d.toArray hb H
 refine⟨by first|trivial|rfl,⟨by rw[EO,h],.inr ⟨g,j,_,rfl,C,B,s,E,by simp[putCells,q],?_⟩⟩,⟨rfl,rfl,rfl,?_,λk hk H=>u k hk λe=>H (by rw[e];rfl)⟩⟩
 .apply ox;intro t;by_cases c:t<X l*3
  .rw[List.getElem?_take_of_lt c,wT d t (by rw[h];exact c),rg];have D:t<o.size:=by rw[q];exact ia c (gD 3 s)
   have F:=get_flatK ld 3 d.toArray t (by simpa[h]using c);have G:(flatK ld 3 d.toArray).size=X l*3:=by simp[h]
   unfold putCells;rw[Array.getElem?_mapIdx,uh D];simp only[HW,aG,eI,G,c,and_self,zj,Nat.sub_zero,F,id_eq];simp
  .rw[fg sg,fg (by rw[EO,h];omega)]
 .unfold sortWorldK grow putRowK;simp[Sort.ahead]
theorem Wo(p:Option Addr)(c:Nat)(h:Value)(w:World):Calls Tryz.prog 87 #[.slice p 0 c,h] w λe x=>e=.returned (.tuple #[])/\x=w:=
 AnyF.slices_SortFunc_none {Tryz.sortVal with} p c h w
theorem zi1:∀E:List ((Int×Int×zJ)×MapEntry),(∀p∈E,be p.1=O)->∃l:List V3,l.map (·.1)=E.map (·.1)/\l.flatMap ld=NP E
 |[],_=>⟨[],rfl,rfl⟩
 | p::E,h=>by
  have⟨l,x,a⟩:=zi1 E λq b=>h q (nc _ b)
  refine⟨⟨p.1,h p uA⟩::l,by simp[x],?_⟩;rw[List.flatMap_cons,a];rfl
def zdn(w:World)(e:Array MapEntry)(v:Value)(h:World):Prop:=
 ∃(E:List ((Int×Int×zJ)×MapEntry))(l:List V3),(∀p∈E,p.2∈e.toList/\p.2.key=cP p.1)/\(∀x∈e.toList,x.born∈E.map λp=>p.2.born)/\(E.map λp=>p.2.born).Nodup/\l.map (·.1)=E.map (·.1)/\
  h.ownsRow w.heap.size 30 3 v (X l) ((l.mergeSort λx y=>!(ltOf Na) y x).flatMap ld)/\RowKit.Below w.heap.size w h
variable {E:List ((Int×Int×zJ)×MapEntry)}
theorem Vq[Inhabited V3]{wr:World}{r k:Nat}{s:Array Nat}(d:zjm w r k h v wr s E)(A:(leftOf h s).size=0)(G:∀p∈E,be p.1=O)(H:h.size<=1000):
  Calls Tryz.prog 87 #[v,.func (.func 50) #[] #[]] wr λe y=>e=.returned (.tuple #[])/\zdn w h v y:=by
 have⟨l,t,D⟩:=zi1 E G;have j:X l=X E:=by simpa using congrArg X t
 have i:∀x∈h.toList,x.born∈E.map λp=>p.2.born:=λx U=>by
  have:=all_seen h s A x U;rw[<-d.sn];simpa using this
 have b:=d.row;rw[<-D,<-j]at b;have⟨c0,F,_⟩:=d.it;have u:w.heap.size<=wr.heap.size:=d.bel.size;by_cases m:l=[]
 .subst m;have P:∃p c,v=.slice p 0 c:=by
   rcases b.2 with⟨rfl,_⟩|⟨g,n,o,rfl,_⟩
   .exact⟨_,_,rfl⟩
   .exact⟨_,_,rfl⟩
  obtain⟨p,c,rfl⟩:=P;refine(Wo p c _ wr).mono ?_;rintro e y ⟨rfl,rfl⟩;exact⟨rfl,E,[],d.sub,i,d.nd,t,by simpa using b,d.bel⟩
 .refine(zaG b (by have:=d.cnt;omega) m).mono ?_;rintro e y ⟨rfl,B,C⟩;refine⟨rfl,E,l,d.sub,i,d.nd,t,B,d.bel.grown C u λa z=>?_⟩;rcases b.2 with⟨rfl,_⟩|⟨g,n,o,rfl,q,_⟩
  .simp[Value.ownBlock]at z
  .have:g=a:=by simpa[Value.ownBlock]using z
   exact this▸q
theorem Wi(x y z:V3)(h:ltOf Na x y=S)(g:ltOf Na y z=S):ltOf Na x z=S:=by
 simp only[ltOf,ei]at h g|-;intro d;rcases ma x.2 y.2 h with e|e
 .unfold Na at d;rw[e]at d;exact g d
 .exact g (dZ (a:=y.1) (b:=x.1) (c:=z.1) e d)
theorem Wh(x y:V3):(!(ltOf Na y x)||!(ltOf Na x y))=O:=by
 by_cases h:po y.1 x.1
 .have:ltOf Na x y=S:=by
   simp only[ltOf,ei];exact λg=>eD (a:=y.1) (dZ (a:=y.1) (b:=x.1) (c:=y.1) h g)
  simp[this]
 .have:ltOf Na y x=S:=by
   simp only[ltOf,ei];exact h
  simp[this]
theorem Sf(l:List V3)(j:(l.map (·.1)).Nodup) (i:∀x∈l,x.1.1≠0):(l.mergeSort λx y=>!(ltOf Na) y x).map (·.1)=ro (l.map (·.1)):=by
 by_cases d:l=[]
 .subst d;simp[ro]
 .refine zbF ?_ ((List.mergeSort_perm l _).map _) ?_
  .have e:l.map (·.1)≠[]:=by simpa using d
   simp only[sM,aN,eu,aY,bne_iff_ne,ne_eq];refine⟨⟨λx k=>?_,j⟩,by simpa using d⟩;obtain⟨y,m,rfl⟩:=bn.1 k;exact⟨y.2,i y m⟩
  .rw[List.pairwise_map];refine(List.pairwise_mergeSort (λa b c h g=>?_) (λa b=>Wh a b) l).imp λ{x y} h=>?_
   .simp only[uB]at h g|-;exact Wi c b a g h
   .simp only[ltOf,uB,ei]at h;exact h
theorem Nj(e:List ((Int×Int×zJ)×Int))(k:Int×Int×zJ):List.Sublist (yM e k) e:=by
 unfold yM;split
 .exact List.eraseIdx_sublist _ _
 .exact List.Sublist.refl _
theorem Bd(k:Int×Int×zJ):∀(e:List ((Int×Int×zJ)×Int))(i:Nat),(da e k i).map (·.1)=(da e k 0).map (λq=>q.1+i)
 |[],_=>rfl
 | p::r,i=>by
  unfold da;cases k==p.1 with
  |true=>simp
  | false=>
   simp only[aJ];have a:=Bd k r (i+1);have x:=Bd k r 1;rw[a];cases h:da r k 0 with
   |none=>rw[h]at x;cases b:da r k (0+1)<;>simp_all
   | some q=>
    rw[h]at x;cases b:da r k (0+1)with
    |none=>simp_all
    |some c=>simp_all;omega
theorem Vt(p:(Int×Int×zJ)×Int)(r:List ((Int×Int×zJ)×Int))(k:Int×Int×zJ):yM (p::r) k=if k=p.1 then r else p::yM r k:=by
 unfold yM;by_cases h:k=p.1
 .simp[da,h]
 .have b:(k==p.1)=S:=by simpa using h
  rw[zh h];simp only[da,b,aJ];have:=Bd k r 1;cases a:da r k (0+1)with
  | none=>
   rw[a]at this;cases x:da r k 0 with
   |none=>rfl
   |some q=>rw[x]at this;simp at this
  | some q=>
   rw[a]at this;cases x:da r k 0 with
   |none=>rw[x]at this;simp at this
   | some c=>
    rw[x]at this;have e:q.1=c.1+1:=by simpa using this
    simp[e]
theorem D0(k:Int×Int×zJ):∀{c:List ((Int×Int×zJ)×Int)},(c.map (·.1)).Nodup->∀x,x∈(yM c k).map (·.1)↔x∈c.map (·.1)/\x≠k
 |[],_,x=>by simp[yM,da]
 | p::r,hn,x=>by
  rw[ew,List.nodup_cons]at hn;rw[Vt];split
  next h=>subst h;rw[ew,bZ];refine⟨λa=>⟨.inr a,λe=>hn.1 (e▸a)⟩,λ⟨h,b⟩=>h.resolve_left b⟩
  .rename_i h;rw[ew,bZ,ew,bZ,D0 k hn.2 x];refine⟨λa=>?_,λ⟨a,b⟩=>a.imp id λa=>⟨a,b⟩⟩;rcases a with rfl|a
   .exact⟨.inl rfl,λe=>h e.symm⟩
   .exact⟨.inr a.1,a.2⟩
theorem AI{α β:Type}{f:α->β}:∀{l:List α},(l.map f).Nodup->∀{a b:α},a∈l->b∈l->f a=f b->a=b
 |[],_,_,_,d,_,_=>by cases d
 | x::r,hn,a,b,d,hb,e=>by
  rw[ew,List.nodup_cons]at hn;rcases bZ.1 d with c|c
  .rcases bZ.1 hb with h|h
   .rw[c,h]
   .exact zA (show f x∈r.map f from bn.2 ⟨b,h,by rw[<-e,c]⟩) hn.1
  .rcases bZ.1 hb with h|h
   .exact zA (show f x∈r.map f from bn.2 ⟨a,c,by rw[e,h]⟩) hn.1
   .exact AI hn.2 c h e
theorem Oz:∀{l m:List Nat},l.Nodup->(∀x∈l,x∈m)->X l<=X m
 |[],m,_,_=>by simp
 | a::r,m,hn,h=>by
  rw[List.nodup_cons]at hn;have b:=h a uA;have d:=Oz (l:=r) (m:=m.erase a) hn.2 λx c=>(List.mem_erase_of_ne (λe:x=a=>hn.1 (e▸c))).2 (h x (nc _ c))
  have g:=List.length_erase_of_mem b;have i:=List.length_pos_of_mem b;rw[fE];omega
theorem Ow(h:be a=O)(x:a.1=0):a=(0,0,[]):=by have⟨k,n,s⟩:=a;subst x;unfold be at h;simp at h;simp[h]
theorem rx(h:cP p=cP q):p=q:=by have⟨a,x,b⟩:=p;have⟨c,d,e⟩:=q;simpa[cP]using h
theorem OI(a:(h.toList.map λx=>(x.key,x.val))=Hh O e):h.toList.map (·.key)=(e.map (·.1)).map cP:=by have:=congrArg (List.map Prod.fst) a;simpa[Hh,qC,Bn]using this
theorem vg{n:zr}(b:∀x∈j,be x=O)(c:∀x∈n,be x=O)(h:∀x,x.1≠0->(x∈j↔x∈n)):ro j=ro n:=by
 have⟨l,d⟩:=ws b;have⟨m,e⟩:=ws c;refine LR l m λx=>?_
 rw[d,e];exact⟨λa=>⟨(h x a.2).1 a.1,a.2⟩,λa=>⟨(h x a.2).2 a.1,a.2⟩⟩
theorem V8(he:(h.toList.map λd=>(d.key,d.val))=Hh O e)(hn:(e.map (·.1)).Nodup) (P:∀p∈e,be p.1=O) (U:∀p∈e,p.1.1≠0)
   (s:∀p∈E,p.2∈h.toList/\p.2.key=cP p.1) (t:∀x∈h.toList,x.born∈E.map λp=>p.2.born) (G:(E.map λp=>p.2.born).Nodup) (v:(h.toList.map (·.born)).Nodup)  (D:l.map (·.1)=E.map (·.1)):
  (l.mergeSort λx y=>!(ltOf Na) y x).map (·.1)=ro (e.map (·.1)):=by
 have z:=OI he;have C:(h.toList.map (·.key)).Nodup:=by
  rw[z];exact List.Pairwise.map _ (λa b c d=>c (rx d)) hn
 have m:∀p∈E,p.1∈e.map (·.1):=λp g=>by
  have⟨h1,h2⟩:=s p g;have:p.2.key∈h.toList.map (·.key):=bn.2 ⟨_,h1,rfl⟩;rw[z,h2]at this;have⟨k,A,B⟩:=bn.1 this;exact rx B▸A
 have F:(E.map (·.1)).Nodup:=by
  unfold List.Nodup at G|-;rw[List.pairwise_map]at G|-;refine G.imp_of_mem λ{p q} g n c d=>c ?_
  have⟨H,o⟩:=s p g;have⟨q1,q2⟩:=s q n;have:p.2.key=q.2.key:=by rw[o,q2,d]
  rw[AI C H q1 this]
 rw[Sf l (by rw[D];exact F) (λx i=>by
  have:x.1∈E.map (·.1):=by rw[<-D];exact bn.2 ⟨x,i,rfl⟩
  have⟨p,g,d⟩:=bn.1 this;have⟨q,n,u⟩:=bn.1 (m p g);rw[<-d,<-u];exact U q n),D]
 refine vg (λx i=>?_) (λx i=>?_) λx _=>⟨λi=>?_,λi=>?_⟩
 .obtain⟨p,g,rfl⟩:=bn.1 i;have⟨q,n,u⟩:=bn.1 (m p g);exact u▸P q n
 .obtain⟨p,g,rfl⟩:=bn.1 i;exact P p g
 .obtain⟨p,g,rfl⟩:=bn.1 i;exact m p g
 .have:cP x∈h.toList.map (·.key):=by rw[z];exact bn.2 ⟨x,i,rfl⟩
  have⟨d,j,w⟩:=bn.1 this;have⟨p,g,hb⟩:=bn.1 (t d j);have⟨H,o⟩:=s p g;have:p.2=d:=AI v H j hb;rw[this,w]at o;exact bn.2 ⟨p,g,(rx o).symm⟩
theorem ZX:∀l:List Value,X l=46->∃v0 v1 v2 v3 v4 v5 v6 v7 v8 v9 v x a b c d e g i j v20 k m n o p q s t u w y z A B C D E F G H P U h0 h1 h2,l=[v0,v1,v2,v3,v4,v5,v6,v7,v8,v9,v,x,a,b,c,d,e,g,i,j,v20,k,m,n,o,p,q,s,t,u,w,y,z,A,B,C,D,E,F,G,H,P,U,h0,h1,h2]:=by
 intro l h
 match l,h with
 |v0::v1::v2::v3::v4::v5::v6::v7::v8::v9::v::x::a::b::c::d::e::g::i::j::v20::k::m::n::o::p::q::s::t::u::w::y::z::A::B::C::D::E::F::G::H::P::U::h0::h1::h2::[],_=>exact⟨v0,v1,v2,v3,v4,v5,v6,v7,v8,v9,v,x,a,b,c,d,e,g,i,j,v20,k,m,n,o,p,q,s,t,u,w,y,z,A,B,C,D,E,F,G,H,P,U,h0,h1,h2,rfl⟩
theorem Wg(n:Int)(w:World)(v0 v1 v2 v3 v4 v5 v6 v7 v8 v9 v h x b c d g i j k l m o p q s u y z A B C D E F G H P U h0 h1 h2 h3 h4:Value):
  Fd.wp Tryz.prog (λe a w'=>e=.exit 0/\w'=w/\∃t:List Value,a=⟨t.toArray,[]⟩/\X t=46/\t[6]?=M v6) {tmps:=#[v0,v1,v2,v3,v4,v5,v6,v7,v8,v9,v,h,x,b,c,d,g,i,j,(Value.int .i64 n),(Value.int .i64 n),k,l,m,o,p,q,s,u,y,z,A,B,C,D,E,F,G,H,P,U,h0,h1,h2,h3,h4],defers:=[]} w:=by
 simp only[Fd,Tryz.f32]
 go_wp2
theorem zvx:Tryz.f32.results=#[.tmp 4]:=kw
theorem WM{tmps:Array Value}(h:tmps[4]?=M v):(results Tryz.f32 tmps).run Tryz.prog w=.ok v w:=by
 have x:tmps.getD 4 undef=v:=by rw[qP,h];rfl
 rw[Gk,zvx];simp[Gi,x]
theorem zad:cP (0,0,[])=.agg #[.int .i64 0,.int .i64 0,.string ⟨#[]⟩]:=rfl
theorem zeV{U:Nat->Prop}{base:Nat}(hU:∀b,U b->b<base)[Inhabited V3](C:∀x∈l,eX x.1)(G:X l<=1000){m:List V3}(H:List.Perm m l)(t:w.ownsRow base 30 3 v (X l) (m.flatMap ld)):
  Rv w U (λ_=>none) (.sl R (m.map (·.1))) v:=by
 have B:X m=X l:=H.length_eq;rcases t.2 with⟨rfl,h0⟩|⟨g,y,e,rfl,h1,o,h3,h2,z,D⟩
 .have:m=[]:=List.length_eq_zero_iff.1 W;rw[this];exact .sl0 R _ _
 .have P:(m.map (·.1)).length=X l:=by simp[B]
  rw[<-P];refine .sl R _ g 0 y (λi j=>(e[i*3+j]?).getD undef) W um (mU.1 o).1 (λh=>by have:=hU g h;omega) (λi j F u=>?_) (λi F j c a=>?_)
  .have u:j<3:=u;have A:i*3+j<e.size:=by rw[z];omega
   simp[World.cell?,o,uh A,show ze.size=3 from rfl]
  .have p:i<X m:=by simpa using F
   have u:j<3:=by
    have:=(dF.1 a).1
    rwa [ao]at this
   have E:=wT m (i*3+j) W;rw[show(i*3+j)/3=i by omega,show(i*3+j)%3=j by omega,<-D,List.getElem?_take_of_lt W,rg,getElem!_pos m i p]at E;rw[E];simp only[bI];have d:=C m[i] (H.mem_iff.1 (bC p));simp only[List.getElem_map]at a;generalize m[i]=x at a d;have⟨⟨k,n,s⟩,hx⟩:=x
   match j,u,a with
   |0,_,a=>cases a;exact .int _ _ d.1
   |1,_,a=>cases a;exact .int _ _ d.2.1
   |2,_,a=>cases a;exact .str _ d.q
theorem zfv{E:cu}(qp:E.P=Tryz.prog){C:eW}(hC:∀id,C.ρ0 id=none)(es:List ((Int×Int×zJ)×Int))(x4:X es<=1000)(hn:(es.map (·.1)).Nodup) (hm:∀p∈es,be p.1=O) (x5:zy) (j2:List (J ze.sl)) (n:Int):
  Reach E C 32 (am Tryz.f32 4) (Qw (.h4 x5 j2 n n es)).2 (λr h=>aZ h [ze.sl] r=M (ro (es.map (·.1)),())):=by
 intro b cs a w U ρ x1 a5 hc F;rw[qp];rw[zmq];have u:a.tmps.toList.length=46:=by rw[<-hc.tm.len];rfl
 have⟨⟨ts⟩,df⟩:=a;have h3:df=[]:=hc.df;subst h3;obtain⟨v0,v1,v2,v3,v4,v5,v6,v7,v8,v9,n8,n9,v12,v13,v14,v15,v16,v17,v18,v19,v20,v21,v22,v23,v24,v25,v26,v27,v28,v29,v30,v31,v32,v33,v34,v35,v36,v37,v38,v39,v40,v41,v42,v43,v44,v45,rfl⟩:=ZX ts u;have r6:=hc.tm.rv 6 (.mp 0) v6 rfl rfl;have j3:=hc.tm.rv 19 (L n) v19 rfl rfl;have j4:=hc.tm.rv 20 (L n) v20 rfl rfl;have ho:bv w U ρ 0 (.vmap O es):=hc.hp.ob 0;have a6:=hc.hp.blk 0;clear u;cases j3 with|int _ _ _=>
 cases j4 with|int _ _ _=>
 have⟨r,h8,d,q1,q2,q3,q4,q5,q6⟩:=ho;cases r6 with|mp _ _ q7 _=>
 rw[q1]at q7;cases q7;have i3:C.B0 r\/C.w0.heap.size<=r:=a6 r ⟨rfl,_,q1,rfl⟩;have⟨c,y,x3,H,x2⟩:=zed (P:=Tryz.prog) (mt:=158) (kt:=30) (et:=159) Tryz.underlying158 kw (k:=(0,0,[])) ⟨by unfold dv;decide,by unfold dv;decide,aG _⟩ q3 q4 q5 q6;rw[zad]at y;have i4:r<w.heap.size:=(mU.1 q3).1;obtain⟨D,t⟩:∃D:World,({w with heap:=w.heap.setIfInBounds r (.map c d)}:World)=D:=⟨_,rfl⟩;rw[t]at y;have hs1:D.heap.size=w.heap.size:=by rw[<-t];simp
 have x6:D.heap[r]?=M (.map c d):=by rw[<-t];simp[i4]
 have i2:∀j,j≠r->D.heap[j]?=w.heap[j]?:=λj B=>by rw[<-t];simp[Array.getElem?_setIfInBounds_ne (Ne.symm B)]
 have x7:=OI x3;have a7:((yM es (0,0,[])).map (·.1)).Nodup:=hn.sublist ((Nj _ _).map _);have a8:=Nj es (0,0,[]);have hk:∀x∈c.toList,∃k,x.key=cP k/\k∈(yM es (0,0,[])).map (·.1):=λx o=>by
  have:x.key∈c.toList.map (·.key):=bn.2 ⟨x,o,rfl⟩;rw[x7]at this;have⟨k,k1,k2⟩:=bn.1 this;exact⟨k,k2.symm,k1⟩
 have a0:c.size<=1000:=by
  have:=congrArg X x7;simp only[dc,Array.length_toList]at this;rw[this];exact bc a8.length_le x4
 have hinh:Inhabited V3:=⟨⟨(0,0,[]),kw⟩⟩;have m:∀x:zq,x∈(yM es (0,0,[])).map (·.1)->be x=O/\eX x/\x.1≠0:=λx o=>by
  have⟨j0,j1⟩:=(D0 (0,0,[]) hn x).1 o;obtain⟨p,s,rfl⟩:=bn.1 j0;exact⟨hm p s,(q5 p s).2,λh0=>j1 (Ow (hm p s) h0)⟩
 obtain⟨e1,a1,wx,⟨rfl,rfl,ts,rfl,i7,i6⟩,x0⟩:=Wg n w v0 v1 v2 v3 v4 v5 (.map (M r)) v7 v8 v9 n8 n9 v12 v13 v14 v15 v16 v17 v18 v21 v22 v23 v24 v25 v26 v27 v28 v29 v30 v31 v32 v33 v34 v35 v36 v37 v38 v39 v40 v41 v42 v43 v44 v45 b [.inLoop Fd,.inBlock 0,.code Gj] cs;have j5:=x0 [.code Gj] rfl;obtain⟨u0,u1,u2,u3,u4,u5,u6,u7,u8,u9,j6,j7,j8,j9,k3,k4,k5,k6,k7,k8,k9,l0,l1,l2,l3,l4,l5,l6,l7,l8,l9,m1,m2,m3,m4,m6,m7,m8,m9,n1,n2,n3,n4,n5,n6,n7,rfl⟩:=ZX ts i7;have i8:u6=.map (M r):=by simpa using i6
 subst i8
 obtain⟨e2,a2,w',⟨rfl,v,i9,h3,hK⟩,G⟩:=zfx (λe a w'=>e=.ret/\∃v,a.tmps[4]?=M v/\a.defers=[]/\zdn D c v w') (zdn D c) r c d wx D y x6 H x2 (λx o=>(hk x o).imp λ_ h=>h.1) a0
  (λv wr seen E hC h0=>Vq hC h0 (λp s=>by
   have⟨s1,s2⟩:=hC.sub p s;have⟨k,k1,k2⟩:=hk _ s1;rw[s2]at k1;exact rx k1▸(m k k2).1) a0) (λv w' a hS h4 hd=>⟨rfl,v,h4,hd,hS⟩) u0 u1 u2 u3 u4 u5 u7 u8 u9 j6 j7 j8 j9 k3 k4 k5 k6 k7 k8 k9 l0 l1 l2 l3 l4 l5 l6 l7 l8 l9 m1 m2 m3 m4 m6 m7 m8 m9 n1 n2 n3 n4 n5 n6 n7 b [] cs
 have⟨a3,i5⟩:=G;have⟨E,l,h7,a4,nd,hl,x8,i⟩:=hK;have h5:=V8 x3 a7 (λp s=>(m _ (bn.2 ⟨p,s,rfl⟩)).1) (λp s=>(m _ (bn.2 ⟨p,s,rfl⟩)).q) h7 a4 nd x2 hl;have h9:ro ((yM es (0,0,[])).map (·.1))=ro (es.map (·.1)):=vg (λx o=>(m x o).1) (λx o=>by obtain⟨p,s,rfl⟩:=bn.1 o;exact hm p s) λx o=>by
  rw[D0 (0,0,[]) hn x];exact⟨λh=>h.1,λh=>⟨h,λe=>o (by rw[e])⟩⟩
 have i0:∀x∈l,eX x.1:=λx o=>by
  have:x.1∈E.map (·.1):=by rw[<-hl];exact bn.2 ⟨x,o,rfl⟩
  have⟨p,s,e⟩:=bn.1 this;have⟨s1,s2⟩:=h7 p s;have⟨k,k1,k2⟩:=hk _ s1;rw[s2]at k1;rw[<-e];exact rx k1▸(m k k2).2.1
 have i1:X l<=1000:=by
  have h1:X l=X E:=by simpa using congrArg X hl
  have h2:(E.map λp=>p.2.born).length<=(c.toList.map (·.born)).length:=Oz nd λx o=>by
   obtain⟨p,s,rfl⟩:=bn.1 o;exact bn.2 ⟨p.2,(h7 p s).1,rfl⟩
  simp only[dc,Array.length_toList]at h2;omega
 have z:∀j,j<wx.heap.size->j≠r->w'.heap[j]?=wx.heap[j]?:=λj B a9=>by rw[i.block j W,i2 j a9]
 have A:wx.heap.size<=w'.heap.size:=by have:=i.size;omega
 have x9:=zeV (U:=U) (base:=D.heap.size) (λb hb=>by have:=F.ub b hb;omega) i0 i1 (List.mergeSort_perm l _) x8;rw[h5,h9]at x9;refine⟨.returned v,w',{b.at a2 a3 with mode:=.returning},⟨v,.sl R (ro (es.map (·.1))),[],U,λ_=>none,rfl,?_,x9,⟨λid=>by simp[bv],λ_ _ _ h=>by simp[an]at h,λ_ _ h=>by simp[an]at h⟩,λ_ _=>rfl,λid v h=>(by rw[hC id]at h;cases h),?_⟩,mg j5 i5,x1,rfl,h3,a5,Tryz.f32,?_,WM i9⟩
 .rfl
 .refine⟨F.ext.trans ⟨A,?_,?_,?_,λx o=>?_⟩,λj B hB=>?_,λj B=>ia (F.ub j B) A,F.u1,F.u2,λg=>(F.gl g).mono A (λj B hu=>z j B λe=>hu (e▸q2)) (λ_ _ h=>h) (λ_ _ h=>h)⟩
  .rw[i.os,<-t]
  .rw[i.output,<-t]
  .rw[i.tape,<-t]
  .by_cases h6:x.block=r
   .have h1:w'.heap[x.block]?=M (.map c d):=by rw[h6,i.block r W,x6]
    have h2:wx.heap[x.block]?=M (.map h8 d):=by rw[h6,q3]
    simp[World.frozen?,h1,h2]
   .exact Bl (z _ o h6)
  .rw[z j (ia B F.ext.sz) λe=>i3.elim (λh=>hB (e▸h)) (λh=>by omega)];exact F.same j B hB
 .show Tryz.prog.funcs[b.fn]?=M Tryz.f32;rw[x1];kernel_rfl
end
end Cad
