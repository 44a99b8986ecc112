/- Few of anything. -/
import Derived.Test.YtjdjldbhjmgmkaaGreatDoorM16
import Derived.Maps.RangeWalk
import Derived.Shelf.SlSortCmp.NoneTotal
namespace Cad
open Go Go.Proofs
open List renaming length->Io,length->X
open IntKind renaming wrap->Γ,i64->Δ
open Tr renaming «to»->Q9,val->Q8,chk->R
open AV renaming nils->Qb
open AO renaming box->Qa
open Sh renaming str->Q6,expr->Q5
open Bool renaming true->Q3,false->S,true->O
open Option renaming some->M
open Decidable renaming decide->N
open Int (toNat)
open Int renaming toNat->Z
open List (getD)
open List renaming getD->Y
open Tr (chk br re)
open AV (nils agg tup ptr kb)
open AV renaming str->I,sl->T
open Cad renaming ow->W,Sem->J,zi->Q,ai->L,ze->K
noncomputable section
set_option maxHeartbeats 4000000
def JT(l h:List fx):Prop:=X h<=201/\∀r∈h,∃x∈l,r=oK x
theorem zxF(n:Nat)(c:Int)(l:c<=201)(q:0<=c)(z:zq cpR)(e:zq zmo)(t:am)(m:300<=n):∃a:List fx,JT z.1.2 a/\∃r,ej zbV n (.h6 c 0 z e (t,[],()))=M r/\bb r.2 [zl] r.1=M (((t,a):ae),()):=by
 obtain⟨x,g⟩:∃x:Nat,c=(x:Int):=⟨Z c,W⟩;have h:=dO (t:=zbV) (β:=List fx) (min x (X z.1.2)) (λb i=>.h6 c (i:Int) z e (t,b,())) (λb i=>X b=i/\∀r∈b,∃o∈z.1.2,r=oK o) (λr=>∃a:List fx,JT z.1.2 a/\bb r.2 [zl] r.1=M (((t,a):ae),())) 1 (by
   grind[zx,zbV,Q8,zu,aE]) (by
   intro b n d m;obtain⟨n,rfl⟩:∃k,n=k+1:=⟨n-1,W⟩;rw[dc];have j:(cond (N (((min x (X z.1.2):Nat):Int)<(X z.1.2:Int))) (N (((min x (X z.1.2):Nat):Int)<c)) S)=S:=by
    by_cases h:x<=X z.1.2
    .rw[HW h,g];simp
    .rw[HU W];simp
   simp only[zbV,Q8,j];refine⟨_,rfl,b,⟨by have:=d.1;omega,d.2⟩,?_⟩;have⟨t0,s,u,v,w,p⟩:=t;cases p;rfl) (min x (X z.1.2)) 0 [] n rfl (aK _) ⟨rfl,sw⟩ W
 grind
theorem Oh(x:ae):∃h:List fx,JT x.2 h/\E5 x=M (((GQ x.1,h):ae),()):=by
 have e:GQ (x.1.1,x.1.2.1,x.1.q.1,x.1.r.1,x.1.t.1,zt x.1.u)=GQ x.1:=by rw[zo]
 have a:∃k:Int,0<=k/\k<=201/\(zmS x).val=M (.inl (.h6 k 0 (x,()) ([],0,[],0,0,[],[],()) (GQ x.1,[],()))):=by
  simp only[zmS,Q8,e];split
  .exact⟨201,W,W,rfl⟩
  .exact⟨40,W,W,rfl⟩
 have⟨k,b,c,a⟩:=a;have⟨h,d,r,g,i⟩:=zxF 100000000 k c b (x,()) ([],0,[],0,0,[],[],()) (GQ x.1) W;grind[E5,ar,bT]
theorem Og(x:ae):Ro x=O:=by have⟨h,b,a⟩:=Oh x;unfold Ro;rw[a];rfl
theorem Z1(a:zS):∃d:zS,E7 a=M (d,())/\X d<=13/\∀x∈d,∃y∈a,x=E4 y:=by
 have h:=dO (t:=t7p) (β:=zS) (min 13 (X a)) (λb i=>.h3 a (i:Int) b) (λb i=>X b=i/\∀x∈b,∃y∈a,x=E4 y) (λr=>∃d:zS,bb r.2 [zl.sl] r.1=M (d,())/\X d<=13/\∀x∈d,∃y∈a,x=E4 y) 1 (by
   grind[zx,t7p,Q8,zo,Og,zu,aE]) (by
   intro b n c g;obtain⟨n,rfl⟩:∃k,n=k+1:=⟨n-1,W⟩;rw[dc];have e:(cond (N (((min 13 (X a):Nat):Int)<(X a:Int))) (N (((min 13 (X a):Nat):Int)<13)) S)=S:=by
    by_cases h:13<=X a
    .rw[HW h];simp
    .rw[HU W];simp
   simp only[t7p,Q8,e];exact⟨_,rfl,b,rfl,W,c.2⟩) (min 13 (X a)) 0 [] 100000000 rfl (aK _) ⟨rfl,sw⟩ W
 grind[E7,ar,bT,i7p,Q8]
theorem lA(s:zK):gm s=O:=by grind[gm]
theorem gI(s:zK):(dP s).length<=20:=by grind[dP]
theorem qC:∀(l:List zK)(i:Int)(a:List zK),(X a:Int)<=i->gH l i a=O
 |[],_,_,_=>rfl
 | x::r,i,a,h=>by
  rw[gH];split
  next b=>simp only[ba]at b;rw[zf (lA x),zf sg];exact qC r (i+1) _ sg
  .rfl
theorem Hs(l:List zK):rK l=O:=qC l 0 [] sw
theorem uK:∀(l:List zK)(i:Int)(a:List zK),(X a:Int)<=i->X a<=10->(∀x∈a,X x<=20)->X (fm l i a)<=10/\∀x∈fm l i a,X x<=20
 |[],_,a,_,h,b=>⟨h,b⟩
 | x::r,i,a,h,hl,b=>by
  rw[fm];split
  next c=>simp only[ba]at c;refine uK r (i+1) _ sg sg (λy d=>?_);grind[gI]
  .exact⟨hl,b⟩
theorem BQ(l:List zK):X (lz l)<=10/\∀x∈lz l,X x<=20:=uK l 0 [] sw sw sw
theorem zfV(s:zK):(kf s).length<=20:=by grind[kf]
theorem Wk(l:aV):X (kH l)<=10/\∀x∈kH l,X x.1<=20:=by refine⟨by show((List.take 9 l).map _).length<=10;rw[cW,rc];omega,λc h=>?_⟩;obtain⟨x,_,rfl⟩:=aI.1 h;exact zfV x.1
theorem Wm(l:zr):X (oK l)<=14:=by show((List.take 14 l).map _).length<=14;rw[cW,rc];omega
theorem Ki(e:zg):mR 16 (iP e)=O:=by
 have⟨r,m,x,a⟩:=KB (P:=λh _ r=>mR h r=O) (λh e o t s l c b _ _=>by
  grind[mR]) 16 e 14 80 W W W
 unfold iP;rw[zg.eta,show uj 16 e 14 80=(r,m) by unfold uj;rw[x];rfl];exact a
structure PQ (s:zP):Prop where
 sh:nI s
 cp:mR 16 s.x.1=O
def F3I(h:zq qS)(i:Nat)(z:zq Yh):Prop:=X z.1<=20/\X z.2.1<=20/\X z.q.1<=20/\(X z.r.1<=10/\∀x∈z.r.1,X x<=20)/\(X z.t.1<=10/\∀x∈z.t.1,X x.1<=20)/\X z.u.1<=20/\
 (X z.v.1<=10/\∀x∈z.v.1,X x<=20)/\(X z.w.1=i/\∀x∈z.w.1,X x.1<=20/\X x.2<=20)/\mR 16 z.x.1=O/\X z.y.1<=14/\X z.s.1<=20/\
 z.x.1=iP h.1.x.1/\z.y.1=oK h.1.y.1/\z.z.1=iP h.1.s.1
def F7I(h:zq qS)(i:Nat)(z:zq Yi):Prop:=X z.1<=20/\X z.2.1<=20/\X z.q.1<=20/\(X z.r.1<=10/\∀x∈z.r.1,X x<=20)/\(X z.t.1<=10/\∀x∈z.t.1,X x.1<=20)/\X z.u.1<=20/\
 (X z.v.1<=10/\∀x∈z.v.1,X x<=20)/\(X z.w.1<=10/\∀x∈z.w.1,X x.1<=20/\X x.2<=20)/\mR 16 z.x.1=O/\X z.y.1<=14/\
 (X z.z.1=i/\∀x∈z.z.1,X x.1<=20/\∃y∈h.1.z.1,x.2=iP y.2)/\X z.p.1<=20/\
 z.x.1=iP h.1.x.1/\z.y.1=oK h.1.y.1/\z.s.1=iP h.1.s.1
structure zhF (s0 s:zP):Prop where
 chk:s.x.1=iP s0.x.1
 row:s.y.1=oK s0.y.1
 whr:s.s.1=iP s0.s.1
 sets:∀x∈s.z.1,∃y∈s0.z.1,(x:J je).2=iP (y:J je).2
def zdz(h:zP)(r:az):Prop:=∃s:zP,bb r.2 [aB] r.1=M (s,())/\PQ s/\zhF h s
theorem fs7(b:zq qS)(B:zq jO)(z:zq Yi)(hz:F7I b 0 z)(n:Nat)(U:20<=n):∃r,ej t8p n (.h7 0 b B z)=M r/\zdz b.1 r:=by
 refine dO (t:=t8p) (β:=zq Yi) (min 10 (X b.1.z.1)) (λz i=>.h7 (i:Int) b B z) (λz i=>F7I b i z) (zdz b.1) 1 ?_ ?_ (min 10 (X b.1.z.1)) 0 z n rfl (aK _) hz W
 .intro z i hi A;have⟨D,E,F,g,j,G,l,m,o,H,c,e,d⟩:=A;have k1:(i:Int)<(X b.1.z.1:Int):=by omega
  have k2:(i:Int)<10:=by omega
  have k3:zL (i:Int) (X b.1.z.1)=O:=zx W;refine Or.inl ⟨(z.1,z.2.1,z.q.1,z.r.1,z.t.1,z.u.1,z.v.1,z.w.1,z.x.1,z.y.1,z.z.1++[(dP (Y b.1.z.1 (i:Int).toNat (Q je)).1,zt (iP (zt (Y b.1.z.1 (i:Int).toNat (Q je)).2)))],z.s),⟨D,E,F,g,j,G,l,m,o,H,?_,e,d⟩,?_⟩;rotate_left 1
  .grind[t8p,Q8,lA,zu,aE]
  .refine⟨?_,λx a=>?_⟩
   .simp[c.1]
   .rcases cZ.1 a with a|a
    .exact c.2 x a
    .rw[ff]at a;rw[a];exact⟨gI _,_,oG _ (Q je) (by simpa using(show i<_ by omega)),by simp only[zo,aJ]⟩
 .intro z n A U;obtain⟨n,rfl⟩:∃k,n=k+1:=⟨n-1,W⟩;have⟨D,E,F,g,j,G,l,m,o,H,c,e,d⟩:=A;rw[dc];have P:(cond (N (((min 10 (X b.1.z.1):Nat):Int)<(X b.1.z.1:Int))) (N (((min 10 (X b.1.z.1):Nat):Int)<10)) S)=S:=by
   by_cases h:10<=X b.1.z.1
   .rw[HW h];simp
   .rw[HU W];simp
  simp only[t8p,Q8,P];refine⟨_,rfl,(z.1,z.2.1,z.q.1,z.r.1,z.t.1,z.u.1,z.v.1,z.w.1,z.x.1,z.y.1,z.z.1,z.s.1,z.p.1),?_,⟨?_,o⟩,⟨d.1,d.2.1,d.q,λx a=>(c.2 x a).2⟩⟩
  .have⟨b,B,z2,z3,z4,z5,z6,z7,z8,z9,x0,C,x1,x2⟩:=z;cases z8;cases C;rfl
  .refine⟨by show X z.1<=_;omega,by show X z.2.1<=_;omega,by show X z.q.1<=_;omega,⟨by have:=g.1;show X z.r.1<=_;omega,λx a=>by have:=g.2 x a;omega⟩,⟨by have:=j.1;show X z.t.1<=_;omega,λx a=>by have:=j.2 x a;omega⟩,by show X z.u.1<=_;omega,⟨by have:=l.1;show X z.v.1<=_;omega,λx a=>by have:=l.2 x a;omega⟩,⟨by grind,λx a=>by have:=m.2 x a;omega⟩,by show X z.y.1<=_;omega,⟨by grind,λx a=>by have:=(c.2 x a).1;omega⟩,by show X z.p.1<=_;omega⟩
theorem fs3(a:zq qS)(y:zq jO)(z:zq Yh)(E:F3I a 0 z)(n:Nat)(D:40<=n):∃r,ej t8p n (.h3 0 a y z)=M r/\zdz a.1 r:=by
 refine dO (t:=t8p) (β:=zq Yh) (min 10 (X a.1.w.1)) (λz i=>.h3 (i:Int) a y z) (λz i=>F3I a i z) (zdz a.1) 21 ?_ ?_ (min 10 (X a.1.w.1)) 0 z n rfl (aK _) E W
 .intro z i F s;have⟨b,c,g,j,l,m,o,A,p⟩:=s;have G:(i:Int)<(X a.1.w.1:Int):=by omega
  have H:(i:Int)<10:=by omega
  have P:zL (i:Int) (X a.1.w.1)=O:=zx W;refine Or.inl ⟨(z.1,z.2.1,z.q.1,z.r.1,z.t.1,z.u.1,z.v.1,z.w.1++[(dP (Y a.1.w.1 (i:Int).toNat (Q jL)).1,dP (Y a.1.w.1 (i:Int).toNat (Q jL)).2)],z.x),⟨b,c,g,j,l,m,o,?_,p⟩,?_⟩;rotate_left 1
  .grind[t8p,Q8,lA,zu,aE]
  grind[gI]
 .intro z n s D;obtain⟨n,rfl⟩:∃k,n=k+1:=⟨n-1,W⟩;have⟨b,c,g,j,l,m,o,A,p,B,d,e⟩:=s;rw[dc];have C:(cond (N (((min 10 (X a.1.w.1):Nat):Int)<(X a.1.w.1:Int))) (N (((min 10 (X a.1.w.1):Nat):Int)<10)) S)=S:=by
   by_cases h:10<=X a.1.w.1
   .rw[HW h];simp
   .rw[HU W];simp
  simp only[t8p,Q8,C];exact fs7 a y _ ⟨b,c,g,j,l,m,o,⟨by grind,A.2⟩,p,B,⟨rfl,sw⟩,d,e⟩ n W
theorem Rn(s:zP):∃h:zP,Az s=M (h,())/\PQ h/\zhF s h:=by
 unfold Az ar bT;simp only[i8p,Q8,lA,Hs,zj]
 have⟨r,a,h,b,c⟩:=fs3 (s,()) ([],[],[],[],[],0,0,[],[],[],0,0,[],[],[],()) (dP s.1,dP s.2.1,dP s.q.1,lz s.r.1,kH s.t.1,
  dP s.u.1,lz s.v.1,[],iP (zt s.x.1),oK s.y.1,iP (zt s.s.1),dP s.p,())
  ⟨gI _,gI _,gI _,BQ _,Wk _,gI _,BQ _,⟨rfl,sw⟩,Ki _,Wm _,gI _,by simp only[zo],rfl,by simp only[zo]⟩ 100000000 W
 refine⟨h,?_,c⟩;rw[a];exact b
abbrev aU(db:zS)(s:zK):ae:=Y db (Z (al db s)) (Q zl)
def HD(d:zS):Prop:=∀x∈d,∀f∈x.1.t.1,LE.le (α:=Int) 0 (al d f.2)/\∀h∈x.2,(zN f.1 h).1≠0->ir (aU d f.2) (aU d f.2).1.q.1 (zN f.1 h)=O
def IsF(r:az):Prop:=r=(.kb S,[])
variable {db:zS}{i:Nat}
theorem zdP{x:ae}{f:cw}{k:Nat}(l:LE.le (α:=Int) 0 (al db f.2))(g:∀c∈x.2,zL f.1 (X c)=O)(n:X x.2<=1000):
  ((∀j,j<Io x.2->(zN f.1 (getD x.2 j (zi ze.sl))).1≠0->ir (aU db f.2) (aU db f.2).1.q.1 (zN f.1 (getD x.2 j (zi ze.sl)))=Q3)/\
   zH jm (X x.2*1) (.h11 db (al db f.2) db (X db:Int) (i:Int) x.1.t.1 (X x.1.t.1:Int) (k:Int) x.2 (X x.2:Int) ((0:Nat):Int) (x,()) (f,()))
    (.h11 db (al db f.2) db (X db:Int) (i:Int) x.1.t.1 (X x.1.t.1:Int) (k:Int) x.2 (X x.2:Int) (X x.2:Int) (x,()) (f,())))\/
  ((¬∀j,j<X x.2->(zN f.1 (Y x.2 j (Q ze.sl))).1≠0->ir (aU db f.2) (aU db f.2).1.q.1 (zN f.1 (Y x.2 j (Q ze.sl)))=O)/\
   ∃r,zU jm (X x.2*1) (.h11 db (al db f.2) db (X db:Int) (i:Int) x.1.t.1 (X x.1.t.1:Int) (k:Int) x.2 (X x.2:Int) ((0:Nat):Int) (x,()) (f,())) r/\IsF r):=by
 refine nG (t:=jm) (Φ:=IsF) 1 (λj=>.h11 db (al db f.2) db (X db:Int) (i:Int) x.1.t.1 (X x.1.t.1:Int) (k:Int) x.2 (X x.2:Int) (j:Int) (x,()) (f,())) (λj=>(zN f.1 (Y x.2 j (Q ze.sl))).1≠0->ir (aU db f.2) (aU db f.2).1.q.1 (zN f.1 (Y x.2 j (Q ze.sl)))=O) (X x.2) ?_;intro j b _
 have m:(jm (.h11 db (al db f.2) db (X db:Int) (i:Int) x.1.t.1 (X x.1.t.1:Int) (k:Int) x.2 (X x.2:Int) (j:Int) (x,()) (f,()))).val=
   if(cond ((zN f.1 (Y x.2 j (Q ze.sl))).1!=0) (!ir (aU db f.2) (aU db f.2).1.q.1 (zN f.1 (Y x.2 j (Q ze.sl)))) S)=O then M (.inr (.kb S,[]))else
   M (.inl (.h11 db (al db f.2) db (X db:Int) (i:Int) x.1.t.1 (X x.1.t.1:Int) (k:Int) x.2 (X x.2:Int) ((j+1:Nat):Int) (x,()) (f,()))):=by
  show(jm (.h11 _ _ _ _ _ _ _ _ _ _ _ _ _)).val=_;unfold jm;simp only[zo,Q8,zO b,zx b,g _ (cB b),eu l,aJ,zj,ov];rw[zf (by simp_all)];rw[zu j um]
 by_cases d:(zN f.1 (Y x.2 j (Q ze.sl))).1=0
 .grind[zH.of]
 .have a:((zN f.1 (Y x.2 j (Q ze.sl))).1!=0)=O:=by simpa using d
  by_cases e:ir (aU db f.2) (aU db f.2).1.q.1 (zN f.1 (Y x.2 j (Q ze.sl)))=O
  .grind[zH.of]
  .exact .inr ⟨λh=>e (h d),_,zU.of (by rw[m,zf (by rw[a];simpa using e)]),rfl⟩
theorem zl1{db:zS}{x:ae}{i:Nat}(n:∀f∈x.1.t.1,∀a∈x.2,zL f.1 (X a)=O)(o:X x.2<=1000)(p:X x.1.t.1<=1000):
  let P:Nat->Prop:=λk=>LE.le (α:=Int) 0 (al db (Y x.1.t.1 k (zi zG)).2)/\∀a∈x.2,(zN (Y x.1.t.1 k (zi zG)).1 a).1≠0->ir (aU db (Y x.1.t.1 k (zi zG)).2) (aU db (Y x.1.t.1 k (zi zG)).2).1.q.1 (zN (Y x.1.t.1 k (zi zG)).1 a)=O
  ((∀k,k<X x.1.t.1->P k)/\zH jm (X x.1.t.1*1002) (.h5 db db (X db:Int) (i:Int) x.1.t.1 (X x.1.t.1:Int) ((0:Nat):Int) (x,())) (.h5 db db (X db:Int) (i:Int) x.1.t.1 (X x.1.t.1:Int) (X x.1.t.1:Int) (x,())))\/
  ((¬∀k,k<X x.1.t.1->P k)/\∃r,zU jm (X x.1.t.1*1002) (.h5 db db (X db:Int) (i:Int) x.1.t.1 (X x.1.t.1:Int) ((0:Nat):Int) (x,())) r/\IsF r):=by
 intro P;refine nG (t:=jm) (Φ:=IsF) 1002 (λk=>.h5 db db (X db:Int) (i:Int) x.1.t.1 (X x.1.t.1:Int) (k:Int) (x,())) P (X x.1.t.1) ?_;intro k e _
 have l:(jm (.h5 db db (X db:Int) (i:Int) x.1.t.1 (X x.1.t.1:Int) (k:Int) (x,()))).val=
   if N (LT.lt (α:=Int) (al db (Y x.1.t.1 k (zi zG)).2) 0)=O then M (.inr (.kb S,[]))else
   M (.inl (.h11 db (al db (Y x.1.t.1 k (zi zG)).2) db (X db:Int) (i:Int) x.1.t.1 (X x.1.t.1:Int) (k:Int) x.2 (X x.2:Int) ((0:Nat):Int) (x,()) (Y x.1.t.1 k (zi zG),()))):=by
  show(jm (.h5 _ _ _ _ _ _ _ _)).val=_;unfold jm;simp only[Q8,zO e,zx e,aJ,zj];rfl
 by_cases b:LE.le (α:=Int) 0 (al db (Y x.1.t.1 k (zi zG)).2)
 .have j:=zH.of (t:=jm) (s:=.h5 db db (X db:Int) (i:Int) x.1.t.1 (X x.1.t.1:Int) (k:Int) (x,())) (by rw[l,zh (by rw[ba];omega)]);rcases zdP (db:=db) (x:=x) (f:=Y x.1.t.1 k (zi zG)) (i:=i) (k:=k) b (n _ (cB e)) o with⟨c,d⟩|⟨c,r,d,m⟩
  .have g:(jm (.h11 db (al db (Y x.1.t.1 k (zi zG)).2) db (X db:Int) (i:Int) x.1.t.1 (X x.1.t.1:Int) (k:Int) x.2 (X x.2:Int) (X x.2:Int) (x,()) (Y x.1.t.1 k (zi zG),()))).val=
     M (.inl (.h5 db db (X db:Int) (i:Int) x.1.t.1 (X x.1.t.1:Int) ((k+1:Nat):Int) (x,()))):=by
    show(jm (.h11 _ _ _ _ _ _ _ _ _ _ _ _ _)).val=_;unfold jm;simp only[Q8,zM];rw[zu k um];rfl
   refine .inl ⟨⟨b,?_⟩,((j.trans d).trans (zH.of g)).mono W⟩;exact(aT (Q:=λa=>(zN (Y x.1.t.1 k (zi zG)).1 a).1≠0->ir (aU db (Y x.1.t.1 k (zi zG)).2) (aU db (Y x.1.t.1 k (zi zG)).2).1.q.1 (zN (Y x.1.t.1 k (zi zG)).1 a)=O)).1 c
  .refine .inr ⟨λh=>c ?_,r,(j.ends d).mono W,m⟩;grind
 .exact .inr ⟨λh=>b h.1,_,(zU.of (by rw[l,zf (by rw[ba];omega)])).mono W,rfl⟩
theorem M8(p:∀x∈db,∀f∈x.1.t.1,∀a∈x.2,zL f.1 (X a)=O)(s:∀x∈db,ii x)(y:X db<=13):∃b,Cu db=M (b,())/\(b=O↔HD db):=by
 have c:=nG (t:=jm) (Φ:=IsF) 1010000 (λi=>.h2 db db (X db:Int) (i:Int)) (λi=>∀f∈(Y db i (zi zl)).1.t.1,LE.le (α:=Int) 0 (al db f.2)/\∀a∈(Y db i (zi zl)).2,(zN f.1 a).1≠0->ir (aU db f.2) (aU db f.2).1.q.1 (zN f.1 a)=O) (X db) (by
  intro i g _;have o:=cB (d:=zi zl) g;have m:=s _ o;have v:=m.rf;have w:=m.rw;have u:(jm (.h2 db db (X db:Int) (i:Int))).val=M (.inl (.h5 db db (X db:Int) (i:Int) (Y db i (zi zl)).1.t.1 ((Y db i (zi zl)).1.t.1.length:Int) ((0:Nat):Int) (Y db i (zi zl),()))):=by
   show(jm (.h2 _ _ _ _)).val=_;unfold jm;simp only[Q8,zO g,zx g,aJ,zj];rfl
  have l:=zH.of u;rcases zl1 (db:=db) (x:=Y db i (zi zl)) (i:=i) (p _ o) w v with⟨c,e⟩|⟨c,r,e,j⟩
  .have k:(jm (.h5 db db (X db:Int) (i:Int) (Y db i (zi zl)).1.t.1 ((Y db i (zi zl)).1.t.1.length:Int) ((Y db i (zi zl)).1.t.1.length:Int) (Y db i (zi zl),()))).val=M (.inl (.h2 db db (X db:Int) ((i+1:Nat):Int))):=by
    show(jm (.h5 _ _ _ _ _ _ _ _)).val=_;unfold jm;simp only[Q8,zM];rw[zu i um];rfl
   refine .inl ⟨?_,((l.trans e).trans (zH.of k)).mono W⟩;exact(aT (Q:=λf:cw=>LE.le (α:=Int) 0 (al db f.2)/\∀a∈(Y db i (zi zl)).2,(zN f.1 a).1≠0->ir (aU db f.2) (aU db f.2).1.q.1 (zN f.1 a)=O)).1 c
  .refine .inr ⟨λh=>c ?_,r,(l.ends e).mono W,j⟩;grind)
 have n:(∀i,i<X db->∀f∈(Y db i (zi zl)).1.t.1,LE.le (α:=Int) 0 (al db f.2)/\∀a∈(Y db i (zi zl)).2,(zN f.1 a).1≠0->ir (aU db f.2) (aU db f.2).1.q.1 (zN f.1 a)=O)↔HD db:=
  aT (Q:=λx:ae=>∀f∈x.1.t.1,LE.le (α:=Int) 0 (al db f.2)/\∀a∈x.2,(zN f.1 a).1≠0->ir (aU db f.2) (aU db f.2).1.q.1 (zN f.1 a)=O)
 have g:(ztK db).val=M (.inl (.h2 db db (X db:Int) ((0:Nat):Int))):=rfl;rcases c with⟨c,e⟩|⟨c,r,e,j⟩
 .refine⟨O,zA g (e.ends (zU.of (r:=(.kb O,[])) ?_)) W rfl,λ_=>n.1 c,λ_=>rfl⟩;grind[Q8,jm]
 .unfold IsF at j;subst j;exact⟨S,zA g e W rfl,λh=>(by cases h),λh=>zz (n.2 h) c⟩
structure jo (db:zS):Prop where
 few:X db<=12
 names:∀i,i<X db-1->Op.bytesLess (Y db i (Q zl)).1.1 (Y db (i+1) (Q zl)).1.1=O
 rels:∀x∈db,dV x
 bound:HD db
theorem dV.cols{x:ae}(h:dV x):∀f∈x.1.t.1,∀row∈x.2,zL f.1 (X row)=O:=by grind[gR,may,EL,fits,sX]
theorem Br{a:zS}(C:∀x∈a,ii x):∃e:Int,wt a=M (e,())/\(e=0↔jo a):=by
 by_cases D:X a<=12
 case neg=>
  refine⟨13,?_,λh=>(by cases h),λh=>zz h.few D⟩;unfold wt ar bT;simp only[zeV,Q8];rw[zf sg];rfl
 have g:(zeV a).val=M (.inl (.h4 a ((0+1:Nat):Int))):=by
  simp only[zeV,Q8];rw[zh sg];rfl
 have n:=nG (t:=qm) (Φ:=Err) 1 (λi=>.h4 a ((i+1:Nat):Int)) (λi=>Op.bytesLess (Y a i (zi zl)).1.1 (Y a (i+1) (zi zl)).1.1=O) (X a-1) (by
  intro i g _;have E:i<X a:=by omega
  have A:i+1<X a:=by omega
  have y:(qm (.h4 a ((i+1:Nat):Int))).val=if(!Op.bytesLess (Y a i (zi zl)).1.1 (Y a (i+1) (zi zl)).1.1)=O then M (.inr (L 15,[]))else M (.inl (.h4 a ((i+1+1:Nat):Int))):=by
   show(qm (.h4 _ _)).val=_;unfold qm;simp only[gN i um];simp only[Q8,zO A,zx A,zx E,aJ,zj];rw[zu (i+1) um]
  by_cases h:Op.bytesLess (Y a i (zi zl)).1.1 (Y a (i+1) (zi zl)).1.1=O
  .grind[zH.of]
  .exact .inr ⟨h,_,zU.of (by rw[y,zf (by simpa using h)]),15,rfl,by decide⟩)
 rcases n with⟨w,n⟩|⟨w,r,n,e,m,j⟩
 case inr=>
  subst m;exact⟨e,zA g n W rfl,λh=>zz h j,λh=>zz h.names w⟩
 have z:(qm (.h4 a ((X a-1+1:Nat):Int))).val=M (.inl (.h9 a a (X a:Int) ((0:Nat):Int))):=by
  show(qm (.h4 _ _)).val=_;unfold qm;simp only[Q8];rw[zh sg];rfl
 have s:=n.trans (zH.of z);have l:=nG (t:=qm) (Φ:=Err) 1 (λi=>.h9 a a (X a:Int) (i:Int)) (λi=>dV (Y a i (zi zl))) (X a) (by
  intro i g _;have⟨e,m,v⟩:=BX (C _ (cB (d:=zi zl) g));have u:tP (Y a i (zi zl))=O:=by unfold tP;rw[m];rfl
  have k:AX (Y a i (zi zl))=e:=by unfold AX;rw[m];rfl
  have y:(qm (.h9 a a (X a:Int) (i:Int))).val=if(e !=0)=O then M (.inr (L e,[]))else M (.inl (.h9 a a (X a:Int) ((i+1:Nat):Int))):=by
   show(qm (.h9 _ _ _ _)).val=_;unfold qm;simp only[zo,Q8,zO g,zx g,aJ,zj,bh,u,k];rw[zu i um]
  by_cases h:e=0
  .grind[zH.of]
  .exact .inr ⟨λp=>h (v.2 p),_,zU.of (by rw[y,zf (by simpa using h)]),e,rfl,h⟩)
 rcases l with⟨p,l⟩|⟨p,r,l,e,m,j⟩
 case inr=>
  subst m;exact⟨e,zA g (s.ends l) W rfl,λh=>zz h j,λh=>zz ((aT (Q:=dV)).2 h.rels) p⟩
 have c:=(aT (Q:=dV)).1 p;have⟨b,B,o⟩:=M8 (db:=a) (λx G=>(c x G).cols) C W;have u:J4 a=O:=by unfold J4;rw[B];rfl
 have k:P3 a=b:=by unfold P3;rw[B];rfl
 have q:(qm (.h9 a a (X a:Int) (X a:Int))).val=if(!b)=O then M (.inr (L 10,[]))else M (.inr (L 0,[])):=by
  show(qm (.h9 _ _ _ _)).val=_;unfold qm;simp only[Q8,zM,u,k,zj];rfl
 by_cases h:b=O
 .exact⟨0,zA g (s.ends (l.ends (zU.of (by rw[q,zh (by rw[h];simp)])))) W rfl,λ_=>⟨D,w,c,o.1 h⟩,λ_=>rfl⟩
 .exact⟨10,zA g (s.ends (l.ends (zU.of (by rw[q,zf (by simpa using h)])))) W rfl,λh=>(by cases h),λF=>zz (o.2 F.bound) h⟩
variable {d:zS}
theorem J5(a:∀x∈d,ii x):po d=O:=by have⟨e,h,_⟩:=Br a;unfold po;rw[h];rfl
theorem iZ(b:∀x∈d,ii x):kV d=(0:Int)↔jo d:=by have⟨e,h,a⟩:=Br b;unfold kV;rw[h];exact a
abbrev y11(a:J zl.sl)(h:zP):zq bZ:=(a,h,([],[],0,[],[],zg.mk [] (0,0,[]) [] []),([],[],0,[],[],zg.mk [] (0,0,[]) [] []),h.1,h.q.1,h.p,h.2.1,0,h.x.1,0,())
theorem Rh(d:J zl.sl)(h:zP):zmP d h=(let e:=oM (y11 d h)
  let a:=I9 e.2
  let b:=Ja e.2
  let c:=AE e.2
  N0 d h h.x.1 h (!eZ h) (ql h&&bif !eZ h then O else po d) (cond (!eZ h) O (kV d !=0)) (mR 16 h.x.1) (y11 d h) (oN (y11 d h)) e (e.1==0) e.2 a a.2 (gn a.2) b b.2 (gn b.2) c c.2 (gn c.2)):=by unfold zmP;simp only[Za,Ti,zo]
abbrev zaT(z:zq aF):ao:=(z.t.1,z.u.1,z.v.1,(z.w.1,z.x.1,z.y.1,[],[],z.z.1),z.s.1,z.p.1)
abbrev ls:ao:=([],[],[],([],[],0,[],[],zg.mk [] (0,0,[]) [] []),[],0)
def ag(db:zS)(n:zK):am:=(Y db (Z (al db n)) (Q zl)).1
abbrev zy2:am:=([],[],0,[],[],zg.mk [] (0,0,[]) [] [])
def eC(db:zS)(n:zK):am:=if n=[]then zy2 else ag db n
def iA(e:Int)(p:ao):Int×ao:=if e=0 then(ite (qn p.r.1=0) (0,p) (qn p.r.1,ls))else(e,ls)
def cJ(db:zS)(s:zP):Int×ao:=
 if(s.1==dD)=O then
  iA (ui (ag db s.q.1) s.r.1) (s.1,s.q.1,s.p,(s.2.1,dN (ag db s.q.1) s.r.1,iC (js (ag db s.q.1) s.r.1) (ag db s.q.1).q.1,[],[],s.x.1),js (ag db s.q.1) s.r.1,0)
 else if(s.1==gO)=O then
  iA (gj (ag db s.q.1) (eC db s.p) s.u.1 s.p)
   (s.1,s.q.1,s.p,(s.2.1,(ag db s.q.1).2.1++iS (eC db s.p) (X (eC db s.p).2.1),(ag db s.q.1).q.1,[],[],s.x.1),
    nN (eC db s.p).q.1 (X (eC db s.p).2.1),zY (ag db s.q.1) s.u.1)
 else if(s.1==pp)=O then
  iA (qP (ag db s.q.1) s.r.1) (s.1,s.q.1,s.p,(s.2.1,uk (ag db s.q.1) s.r.1,0,[],[],s.x.1),js (ag db s.q.1) s.r.1,0)
 else(1,ls)
def bm(db:zS)(s:zP):Int×ao:=
 if kF s.1/\eZ s=O/\kV db=(0:Int)then(ite (nW db s.q.1 s.p s.2.1=0) (cJ db s) (nW db s.q.1 s.p s.2.1,ls))else(1,ls)
variable {s:zP}
theorem kN(h:eZ s=O):iu s=O:=by grind[eZ,sj]
theorem oF{s:zK}(h:(0:Int)<=al db s):db.getD (Z (al db s)) (Q zl)∈db:=by grind[eu,zL]
theorem R3(e:Int):bb [] [an,zk] (tup [agg ([I [],I [],I [],I [],Qb,L 0,Qb,Qb]++zE++[Qb,L 0]),L e])=M (ls,e,()):=rfl
theorem zos(z:zq aF):bb [AO.vec zn z.x.1] [an,zk] (tup [agg ([I z.t.1,I z.u.1,I z.v.1,I z.w.1,AV.vec 0,L z.y.1,Qb,Qb]++xE z.z.1++[T zk z.s.1,L z.p.1]),L 0])=M (zaT z,0,()):=by have⟨d,e,g,i,j,k,l,m,n,o,h,a,b,c⟩:=z;cases h;rfl
def PlS(x:J zl.sl)(h:zP):Prop:=OF x h=M ((bm x h).2,(bm x h).1,())
variable {x:J zl.sl}
theorem zv0{o:Option (zF (List.map M [an,zk]))}{e:Int}(h:o=M (ls,e,()))(a:bm x s=(e,ls)):o=M ((bm x s).2,(bm x s).1,()):=by rw[a];exact h
theorem zfA(e:ql s=O)(d:po x=O)(h:(cond (!eZ s) O (kV x !=0))=O):PlS x s:=by
 have c:(ql s&&bif !eZ s then O else po x)=O:=by rw[e,d];cases eZ s<;>rfl
 have g:bm x s=(1,ls):=by
  unfold bm;rw[zh];rintro⟨_,a,b⟩;rw[a]at h;simp[b]at h
 refine zv0 ?_ g;unfold OF ar bT;rw[Rh];simp only[N0,Q8,c,h,zj];by_cases o1:(s.1==dD)=O
 .simp only[o1,zj];rfl
 .by_cases o2:(s.1==gO)=O
  .simp only[o1,o2,zj];rfl
  .by_cases o3:(s.1==pp)=O
   .simp only[o1,o2,o3,zj];rfl
   .simp only[o1,o2,o3];rfl
theorem zom{e:J zl.sl}{y:zq bZ}{z:zq aF}{c:aV}{m:Int}{i:List Int}{o:Int}(k:y.t=(y11 e s).t)(d:pk y z)
  (b:z.z.1=y.y.1) (v:qq z c m i o):zaT z=(s.1,s.q.1,s.p,(s.2.1,c,m,[],[],s.x.1),i,o):=by have⟨_,_,_,_,a,h,g,j⟩:=d;have l:z.t.1=s.1:=a.trans (congrArg (·.1) k);have n:z.u.1=s.q.1:=h.trans (congrArg (·.2.1) k);grind[qq.cols,qq.key,qq.ix,qq.on]
theorem zol{b:zP}(h9:∀a∈x,ii a)(hl:X x<=13)(hs:PQ b):PlS x b:=by
 by_cases hg:kF b.1;rotate_left
 .have o1:(b.1==dD)=S:=by simpa using λk=>hg (.inl k)
  have o2:(b.1==gO)=S:=by simpa using λk=>hg (.inr (.inl k))
  have o3:(b.1==pp)=S:=by simpa using λk=>hg (.inr (.inr k))
  refine zv0 (e:=1) ?_ (by unfold bm;rw[zh λh=>hg h.1]);unfold OF ar bT;rw[Rh];simp only[N0,Q8,o1,o2,o3];rfl
 have hM:=PC hs.sh hg;have hB:=J5 h9;by_cases m:(cond (!eZ b) O (kV x !=0))=O
 .exact zfA hM hB m
 have h3:(ql b&&bif !eZ b then O else po x)=O:=by rw[hM,hB];cases eZ b<;>rfl
 have h5:eZ b=O:=by
  cases h:eZ b
  .rw[h]at m;simp at m
  .rfl
 have h7:kV x=(0:Int):=by
  rw[h5]at m;simpa using m
 have h1:=kN h5;have h6:=((iZ h9).1 h7).rels;have⟨e8,y,h8,k1,k2,k3,k5,k4⟩:=Oo (y11 x b) (by show X x<=_;omega);have s8:oM (y11 x b)=(e8,y):=by unfold oM;rw[h8];rfl
 have c8:oN (y11 x b)=O:=by unfold oN;rw[h8];rfl
 have k5:e8=nW x b.q.1 b.p b.2.1:=k5;have hS:kF b.1->bm x b=if e8=0 then cJ x b else(e8,ls):=by
  intro h;unfold bm;rw[zf ⟨h,h5,h7⟩,k5]
 unfold PlS OF ar bT;rw[Rh];simp only[N0,Q8,h3,m,hs.cp,s8,c8,zj];by_cases C:e8=0
 .have P:=k4 C;have n2:y.2.1=b:=k2;have n1:y.1=x:=k1;have nk:y.x.1=(0:Int):=congrArg (·.2.r.1) k3;have x2:y.z.1=(0:Int):=congrArg (·.2.u.1) k3;have nw:y.v.1=b.p:=congrArg (·.2.2.1) k3;have c:y.q.1=ag x b.q.1:=P.t.1;have o:y.r.1=eC x b.p:=P.u;have h4:=gR (h6 _ (oF (db:=x) (s:=b.q.1) P.1)).may;rw[show(getD x (toNat (al x b.q.1)) (zi zl)).1=y.q.1 from c.symm]at h4;have x4:Io y.r.1.2.1<=100:=by
   rw[o];unfold eC;split
   .simp
   .grind[gR,dV.may,oF,ag]
  have x3:(e8==0)=O:=by simpa using C
  simp only[x3,zj];by_cases o1:(b.1==dD)=O
  .have H:kF b.1:=Or.inl (bQ o1);have⟨z,d,hk,G,n,E⟩:=Z9 y (by rw[n2];have:=hs.sh.names.1;omega);rw[n2,c,x2]at E;rw[n2,c]at d;generalize F:ui (ag x b.q.1) b.r.1=j at d E;have U:I9 y=(j,z):=by unfold I9;rw[d];rfl
   have w:KO y=O:=by unfold KO;rw[d];rfl
   have i:=hS H;rw[zf C]at i;unfold cJ at i;rw[zf o1,F]at i;simp only[o1,U,w,zj];by_cases e0:j=0
   .have hz:=zom k3 hk G (E e0);have g:=vO z n;have hT:UH z=(zaT z).r.1:=rfl;rw[hT,hz]at g;unfold iA at i;rw[zf e0]at i;generalize h2:qn _=l at g i;have h0:gn z=(l,z):=by unfold gn;rw[g];rfl
    have A:iD z=O:=by unfold iD;rw[g];rfl
    have B:(j==0)=O:=by simpa using e0
    simp only[B,h0,A,zj];by_cases f0:l=0
    .have D:(l !=0)=S:=by simp[f0]
     simp only[D];rw[zf f0]at i;rw[i];exact(zos z).trans (by rw[hz])
    grind[R3]
   grind[iA,R3]
  .by_cases o2:(b.1==gO)=O
   .have H:kF b.1:=Or.inr (Or.inl (bQ o2));have⟨z,d,hk,G,n,E⟩:=zaa y (by have:=h4.r.1;omega) x4;rw[n2,nw,c,o]at E;rw[n2,nw,c,o]at d;generalize F:gj (ag x b.q.1) (eC x b.p) b.u.1 b.p=j at d E;have U:Ja y=(j,z):=by unfold Ja;rw[d];rfl
    have w:KQ y=O:=by unfold KQ;rw[d];rfl
    have i:=hS H;rw[zf C]at i;unfold cJ at i;rw[zh o1,zf o2,F]at i;simp only[o1,o2,U,w,zj];by_cases e0:j=0
    .have hz:=zom k3 hk G (E e0);have g:=vO z n;have hT:UH z=(zaT z).r.1:=rfl;rw[hT,hz]at g;unfold iA at i;rw[zf e0]at i;generalize h2:qn _=l at g i;have h0:gn z=(l,z):=by unfold gn;rw[g];rfl
     have A:iD z=O:=by unfold iD;rw[g];rfl
     have B:(j==0)=O:=by simpa using e0
     simp only[B,h0,A,zj];by_cases f0:l=0
     .have D:(l !=0)=S:=by simp[f0]
      simp only[D];rw[zf f0]at i;rw[i];exact(zos z).trans (by rw[hz])
     grind[R3]
    grind[iA,R3]
   .by_cases o3:(b.1==pp)=O
    .have H:kF b.1:=Or.inr (Or.inr (bQ o3));have⟨z,d,hk,G,n,E⟩:=Ws y (by rw[n2];exact kD h1 (bQ o3));rw[n2,c,x2,nk]at E;rw[n2,c]at d;generalize F:qP (ag x b.q.1) b.r.1=j at d E;have U:AE y=(j,z):=by unfold AE;rw[d];rfl
     have w:CH y=O:=by unfold CH;rw[d];rfl
     have i:=hS H;rw[zf C]at i;unfold cJ at i;rw[zh o1,zh o2,zf o3,F]at i;simp only[o1,o2,o3,U,w,zj];by_cases e0:j=0
     .have hz:=zom k3 hk G (E e0);have g:=vO z n;have hT:UH z=(zaT z).r.1:=rfl;rw[hT,hz]at g;unfold iA at i;rw[zf e0]at i;generalize h2:qn _=l at g i;have h0:gn z=(l,z):=by unfold gn;rw[g];rfl
      have A:iD z=O:=by unfold iD;rw[g];rfl
      have B:(j==0)=O:=by simpa using e0
      simp only[B,h0,A,zj];by_cases f0:l=0
      .have D:(l !=0)=S:=by simp[f0]
       simp only[D];rw[zf f0]at i;rw[i];exact(zos z).trans (by rw[hz])
      grind[R3]
     grind[iA,R3]
    grind
 grind[R3]
set_option maxHeartbeats 1000000
theorem iI:∀{a b c:zK},Op.bytesLess a b=O->Op.bytesLess b c=O->Op.bytesLess a c=O
 |_,[],_,h,_=>by cases‹zK›<;>simp[Op.bytesLess]at h
 |_,_::_,[],_,h=>by simp[Op.bytesLess]at h
 |[],_::_,_::_,_,_=>rfl
 | a::x,b::y,c::z,h,g=>by
  simp only[Op.bytesLess,ou,ba,aP,bW]at h g|-;rcases h with h|⟨rfl,h⟩
  .rcases g with g|⟨rfl,g⟩
   .exact .inl (UInt8.lt_trans h g)
   .exact .inl h
  .rcases g with g|⟨rfl,g⟩
   .exact .inl g
   .exact .inr ⟨rfl,iI h g⟩
def Lx(p q:Int×Int×zK):Prop:=p.1<q.1\/(p.1=q.1/\(p.2.1<q.2.1\/(p.2.1=q.2.1/\Op.bytesLess p.q q.q=O)))
variable {p q:Int×Int×zK}
theorem Lx.trans{r:Int×Int×zK}(h:Lx p q)(g:Lx q r):Lx p r:=by
 unfold Lx at*;rcases h with h|⟨b,h|⟨c,h⟩⟩<;>rcases g with g|⟨x,g|⟨a,g⟩⟩
 .exact .inl W
 .exact .inl W
 .exact .inl W
 .exact .inl W
 .exact .inr ⟨W,.inl W⟩
 .exact .inr ⟨W,.inl W⟩
 .exact .inl W
 .exact .inr ⟨W,.inl W⟩
 .exact .inr ⟨W,.inr ⟨W,iI h g⟩⟩
theorem Lx.irrefl:¬Lx p p:=by
 unfold Lx;rw[cA];rintro(h|⟨_,h|⟨_,h⟩⟩)
 .omega
 .omega
 .cases h
theorem S2(a b:Int):ug a b=if a<b then -1 else if b<a then 1 else 0:=by show(ite ((a !=a)=O) _ (ite ((b !=b)=O) (1:Int) (ite (N (a<b)=O) (-1) (ite (N (a>b)=O) 1 0))))=_;simp
theorem Yb(a b:Int):ln a b=if a<b then -1 else if b<a then 1 else 0:=S2 a b
theorem zej(a b:zK):(px a b=-1/\Op.bytesLess a b=O)\/(px a b=0/\a=b)\/(px a b=1/\Op.bytesLess a b=S):=by
 have:px a b=if Op.bytesLess a b=O then -1 else if(!(Op.bytesLess a b||a==b))=O then 1 else 0:=by
  show(ite ((!a==a)=O) _ (ite ((!b==b)=O) (1:Int) (ite (Op.bytesLess a b=O) (-1) (ite ((!(Op.bytesLess a b||a==b))=O) 1 0))))=_;simp
 rw[this];cases h:Op.bytesLess a b with
 |true=>exact .inl ⟨rfl,rfl⟩
 | false=>
  by_cases e:a=b
  .exact .inr (.inl ⟨by simp[e],e⟩)
  .exact .inr (.inr ⟨by simp[e],rfl⟩)
theorem zoj(k n x a:Int)(s b:zK):(Jg [ug k x,ln n a,px s b]<0)↔Lx (k,n,s) (x,a,b):=by
 show _↔(k<x\/(k=x/\(n<a\/(n=a/\Op.bytesLess s b=O))));rw[S2,Yb];simp only[Jg];have i:=cA b;rcases DC k x with h|h|h
 .simp[h]
 .subst h;rcases DC n a with g|g|g
  .simp[g]
  .subst g;rcases zej s b with⟨e,f⟩|⟨e,f⟩|⟨e,f⟩
   .simp[e,f]
   .subst f;simp[e,i]
   .simp[e,f]
  .have:¬n<a:=by omega
   have:n≠a:=by omega
   simp[*]
 .have:¬k<x:=by omega
  have:k≠x:=by omega
  simp[*]
variable {a:zp}
theorem yz{g:zp}:ph a g↔Lx (ak a) (ak g):=zoj (ak a).1 (ak a).2.1 (ak g).1 (ak g).2.1 (ak a).q (ak g).q
theorem dZ{b c:zp}(h:ph a b)(g:ph b c):ph a c:=yz.2 ((yz.1 h).trans (yz.1 g))
theorem eB:¬ph a a:=λh=>Lx.irrefl (yz.1 h)
theorem xV{α:Type}{R:α->α->Prop}(n:∀{a b c},R a b->R b c->R a c){d:α}:∀{l:List α},(∀i,i<X l-1->R (l.getD i d) (l.getD (i+1) d))↔l.Pairwise R
 |[]=>by simp
 |[a]=>by simp
 | a::b::r=>by
  have m:=xV (R:=R) n (d:=d) (l:=b::r);constructor
  .intro h;have e:=h 0 sw;have g:(b::r).Pairwise R:=m.1 λi j=>h (i+1) (by simp only[fA]at j|-;omega)
   refine List.pairwise_cons.2 ⟨λx k=>?_,g⟩;rcases bX.1 k with rfl|k
   .exact e
   .exact n e ((List.pairwise_cons.1 g).1 x k)
  .intro h i j;have⟨e,g⟩:=List.pairwise_cons.1 h;cases i with
   |zero=>exact e b sw
   |succ i=>exact m.2 g i (by simp only[fA]at j|-;omega)
def kLt(k:Int)(a b:zr):Prop:=ph (zN k a) (zN k b)
variable {b:ae}
theorem dV.pw(h:dV b):b.2.Pairwise (kLt b.1.q.1):=(xV (R:=kLt b.1.q.1) dZ).1 h.rise
variable {c:List zr}
theorem dV.sub{t:am}{l:List zr}(h:dV (t,c))(x:List.Sublist l c):dV (t,l) where
 may:=h.may
 few:=be x.length_le h.few
 fits:=λr a=>h.fits r (x.subset a)
 key:=List.Pairwise.sublist x h.key
 uniq:=λu b=>List.Pairwise.sublist x (h.uniq u b)
 rise:=(xV (R:=kLt t.q.1) dZ).2 (List.Pairwise.sublist x h.pw)
theorem Jc(d:zS)(i:Nat):(d.getD i (Q zl)).1=(d.map (·.1)).getD i (Q zl).1:=by rw[bx,bx,dK];cases d[i]?<;>rfl
theorem zac(h:(d.getD i (Q zl)).1=b.1):(d.set i b).map (·.1)=d.map (·.1):=by
 rw[List.map_set];refine oo λj=>?_
 rw[mY];by_cases e:i=j
 .subst e;rw[zf rfl];by_cases x:i<(d.map (·.1)).length
  .rw[zf x,af x,<-h];congr 1;have a:i<X d:=by simpa using x
   rw[bx,af a,List.getElem_map];rfl
  .rw[zh x,fe W]
 .rw[zh e]
theorem jo.put(h:jo d)(e:(d.getD i (Q zl)).1=b.1)(g:dV b)(c:HD (d.set i b)):jo (d.set i b) where
 few:=by rw[mZ];exact h.few
 names:=λj a=>by
  rw[mZ]at a;have:=h.names j a;rw[Jc,Jc]at this|-
  rwa [zac e]
 rels:=λy x=>by
  rcases SO x with x|rfl
  .exact h.rels y x
  .exact g
 bound:=c
theorem Ty{m:Int}(h:c.Pairwise (kLt m)):(c.map (zN m)).Pairwise (·≠·):=by rw[List.pairwise_map];exact h.imp λ{a b} x(e:zN m a=zN m b)=>eB (a:=zN m b) (by have:=x;unfold kLt at this;rwa [e]at this)
theorem kX:∀{a b:zK},Op.bytesLess a b=S->a≠b->Op.bytesLess b a=O
 |[],[],_,h=>zz rfl h
 |[],_::_,h,_=>by simp[Op.bytesLess]at h
 |_::_,[],_,_=>rfl
 | a::x,b::y,h,hn=>by
  simp only[Op.bytesLess,Bool.or_eq_false_iff,ef,Bool.and_eq_false_iff,dX,ou,ba,aP,bW]at h|-;by_cases e:a=b
  .subst e;refine .inr ⟨rfl,kX (h.2.resolve_left λg=>g rfl) λg=>hn (by rw[g])⟩
  .exact .inl (UInt8.lt_of_le_of_ne (UInt8.not_lt.1 h.1) (Ne.symm e))
def vM(u:zp):zr->zr
 |[]=>[u]
 |o::r=>if LT.lt (α:=Int) (aG o u) 0 then o::vM u r else if(o==u)=O then o::r else u::o::r
def rl(l:zr):zr:=l.foldl (λa u=>if((u:zp).1==0)=O then a else vM u a) []
theorem lX{b:zp}(j:bf a=O)(l:bf b=O)(h:¬ph a b):a=b\/ph b a:=by
 have p:ak a=a:=by unfold ak;rw[j];rfl
 have kb:ak b=b:=by unfold ak;rw[l];rfl
 rw[yz,p,kb]at h|-;have⟨k,n,s⟩:=a;have⟨o,q,c⟩:=b;unfold Lx at h|-;simp only at h|-;have d:¬k<o:=λe=>h (.inl e)
 rcases Int.lt_or_eq_of_le (Int.not_lt.1 d)with e|e
 .exact .inr (.inl e)
 have i:¬n<q:=λg=>h (.inr ⟨e.symm,.inl g⟩)
 rcases Int.lt_or_eq_of_le (Int.not_lt.1 i)with g|g
 .exact .inr (.inr ⟨e,.inl g⟩)
 by_cases x:s=c
 .exact .inl (by rw[e,g,x])
 .refine .inr (.inr ⟨e,.inr ⟨g,kX ?_ x⟩⟩);cases m:Op.bytesLess s c
  .rfl
  .exact zz (.inr ⟨e.symm,.inr ⟨g.symm,m⟩⟩) h
theorem xh{a:zp}:∀{l:zr}{x:zp},x∈vM a l↔x=a\/x∈l
 |[],x=>by simp[vM]
 | o::r,x=>by
  unfold vM;split
  .rw[bX,xh,bX];exact⟨λh=>by rcases h with h|h|h<;>simp[h],λh=>by rcases h with h|h|h<;>simp[h]⟩
  .split
   next h=>have h:=bQ h;subst h;simp
   .simp
theorem JC{a:zp}(j:bf a=O):∀{l:zr},(∀x∈l,bf x=O)->l.Pairwise ph->(vM a l).Pairwise ph
 |[],_,_=>by simp[vM]
 | o :: r,hl,h=>by
  have⟨g,k⟩:=List.pairwise_cons.1 h;unfold vM;split
  .rename_i c;refine List.pairwise_cons.2 ⟨λx b=>?_,JC j (λx b=>hl x (by simp[b])) k⟩;rcases xh.1 b with rfl|b
   .exact c
   .exact g x b
  .rename_i m;split
   .exact h
   .rename_i d;have i:ph a o:=by
     rcases lX (hl o sw) j m with e|e
     .exact zz (by rw[e];simp) d
     .exact e
    refine List.pairwise_cons.2 ⟨λx b=>?_,h⟩;rcases bX.1 b with rfl|b
    .exact i
    .exact dZ i (g x b)
theorem Aq:∀(l a:zr),(∀x∈l,bf x=O)->(∀x∈a,bf x=O)->a.Pairwise ph->
  (l.foldl (λa u=>if((u:zp).1==0)=O then a else vM u a) a).Pairwise ph/\∀x,x∈l.foldl (λa u=>if((u:zp).1==0)=O then a else vM u a) a↔x∈a\/(x∈l/\x.1≠0)
 |[],a,_,_,h=>⟨h,λx=>by simp⟩
 | u::r,a,hl,ha,h=>by
  rw[List.foldl_cons];by_cases c:(u.1==0)=O
  .rw[zf c];have⟨g,i⟩:=Aq r a (λx b=>hl x (by simp[b])) ha h;refine⟨g,λx=>(i x).trans ⟨λh=>h.imp id λh=>⟨by simp[h.1],h.2⟩,λh=>h.imp id λh=>⟨?_,h.2⟩⟩⟩;rcases bX.1 h.1 with rfl|d
   .exact zz (bQ c) h.2
   .exact d
  .rw[zh c];have j:=hl u sw;have⟨g,i⟩:=Aq r (vM u a) (λx b=>hl x (by simp[b])) (λx b=>by
    rcases xh.1 b with rfl|b
    .exact j
    .exact ha x b) (JC j ha h)
   refine⟨g,λx=>(i x).trans ?_⟩;rw[xh,bX];refine⟨λh=>?_,λh=>?_⟩
   .rcases h with(rfl|h)|h
    .exact .inr ⟨.inl rfl,λe=>c (by rw[e];rfl)⟩
    .exact .inl h
    .exact .inr ⟨.inr h.1,h.2⟩
   .rcases h with h|⟨rfl|h,d⟩
    .exact .inl (.inr h)
    .exact .inl (.inl rfl)
    .exact .inr ⟨h,d⟩
variable {j:zr}
theorem wq(h:∀x∈j,bf x=O):(rl j).Pairwise ph/\∀x,x∈rl j↔x∈j/\x.1≠0:=by have⟨a,b⟩:=Aq j [] h sw sw;exact⟨a,λx=>(b x).trans sw⟩
theorem LR:∀{l m:zr},l.Pairwise ph->m.Pairwise ph->(∀x,x∈l↔x∈m)->l=m
 |[],[],_,_,_=>rfl
 |[],b::m,_,_,h=>by have:=(h b).2 sw;simp at this
 |a::l,[],_,_,h=>by have:=(h a).1 sw;simp at this
 | a::l,b::m,h1,h2,h=>by
  have⟨i,k⟩:=List.pairwise_cons.1 h1;have⟨j,n⟩:=List.pairwise_cons.1 h2;have e:a=b:=by
   rcases bX.1 ((h a).1 sw)with e|e
   .exact e
   .rcases bX.1 ((h b).2 sw)with g|g
    .exact g.symm
    .exact zz (dZ (i _ g) (j _ e)) eB
  subst e;rw[LR k n λx=>⟨λd=>?_,λd=>?_⟩]
  .rcases bX.1 ((h x).1 (by simp[d]))with rfl|c
   .exact zz (i _ d) eB
   .exact c
  .rcases bX.1 ((h x).2 (by simp[d]))with rfl|c
   .exact zz (j _ d) eB
   .exact c
open Go Go.Proofs Go.Sort
def sI(l:zr):Bool:=l.all (λv=>bf v&&(v.1!=0))&&decide l.Nodup&&!l.isEmpty
theorem zbQ{n:zr}(h:sI j=O)(c:List.Perm n j)(l:n.Pairwise λx y:zp=>¬LT.lt (α:=Int) (aG y x) 0):n=rl j:=by
 simp only[sI,aP,ep,ba,bne_iff_ne,ne_eq]at h;have⟨⟨b,k⟩,_⟩:=h;have⟨g,i⟩:=wq λx a=>(b x a).1
 have d:n.Nodup:=c.nodup_iff.2 k;refine LR ?_ g λx=>?_
 .refine(l.and d).imp_of_mem λ{x y} a m h=>?_
  rcases lX (b y (c.mem_iff.1 m)).1 (b x (c.mem_iff.1 a)).1 h.1 with e|e
  .exact zz e.symm h.2
  .exact e
 .rw[i x,c.mem_iff];exact⟨λa=>⟨a,(b x a).2⟩,λa=>a.1⟩
@[match_pattern] abbrev OH:Sh:=.pr (.int .i64) (.pr (.int .i64) .str)
def zAG:ah:=λa h _=>match a with
 | [.vec id,.clo (.func 50) [] []]=>match h id with
  |.vec OH l=>(.chk (N (X l<=1000000)) (.chk (sI l) (.ok {val:=.tup [],wr:=[(id,.vec K (rl l))]})))
  |_=>.err
 |_=>.err
theorem zxE:Go.Proofs.Enters Tryz.prog 50:=by
  cases h:Tryz.f50.body with
  | none => have:Tryz.f50.body.isNone=false:=by kernel_rfl
            rw[h]at this;cases this
  |some c=>exact Go.Proofs.enters_of (fn:=Tryz.f50) kw kw h
def zeS(x:ao)(h:J zl.sl):Tr (Empty⊕az):=
 let a:=Y h (Z 0) (Q zl)
 br (x.1==dD) (R (zL 0 (X h)) (re (L a.1.q.1) []))
 (br (x.1==gO) (re (L x.u) [])
  (R (zL 0 (X x.t.1)) (re (L (Y x.t.1 (Z 0) (Q zk))) [])))
def yx(x:ao)(h:J zl.sl):=ar [zk] t0 100000000 (zeS x h)
def lE(x:ao)(h:J zl.sl):=(yx x h).isSome
def dp(x:ao)(h:J zl.sl):=o1 (yx x h)
def zpV:=FT [an,zl.sl] [zk] λx=>yx x.1 x.2.1
theorem zkB:FK 40 zpV:=sN.T1 (f:=Tryz.f40) (keep:=k0) (e:=e0)
abbrev zus:=kG [(7,[4,5,52,53,54])]
inductive MO where
 |h7 (l52:aV) (i53:Int) (i54:Int) (ja0:List UInt8) (ja1:List UInt8) (ja2:List UInt8) (ja5:List UInt8) (ja8:List UInt8) (ja9:Int) (ja10:Int) (ja11:List UInt8) (ja12:List UInt8) (ja16:List UInt8) (ja17:Int) (ja18:Int) (ja19:List UInt8) (ja20:List UInt8) (ja22:List UInt8) (jb0:J Q6) (jb1:J Q6) (jb2:J Q6) (jb5:List UInt8) (jb8:zK) (jb9:Int) (jb10:Int) (jb11:zK) (jb12:zK) (jb13:List (J Q5)) (jb16:List UInt8) (jb17:Int) (jb18:Int) (jb19:List UInt8) (jb20:List UInt8) (jb22:J Q6)
 |h7b (l52:aV) (i53:Int) (i54:Int) (ja0:List UInt8) (ja1:List UInt8) (ja2:List UInt8) (ja5:List UInt8) (ja8:List UInt8) (ja9:Int) (ja10:Int) (ja11:List UInt8) (ja12:List UInt8) (ja16:List UInt8) (ja17:Int) (ja18:Int) (ja19:List UInt8) (ja20:List UInt8) (ja22:List UInt8) (jb0:J Q6) (jb1:J Q6) (jb2:J Q6) (jb5:List UInt8) (jb8:zK) (jb9:Int) (jb10:Int) (jb11:zK) (jb12:zK) (jb13:List (J Q5)) (jb16:List UInt8) (jb17:Int) (jb18:Int) (jb19:List UInt8) (jb20:List UInt8) (jb22:J Q6) (lh_2:List (J Q6))
abbrev zxg:MO->Nat×St
 |.h7 U u v w y z A B C j h x a b c d e g D E F G H P i k l m n o p q s t=>(7,⟨tm 67 [(4,ptr 0 0),(5,ptr 1 0),(52,T zn U),(53,L u),(54,L v)],[Qa [I w,I y,I z,Qb,Qb,I A,Qb,Qb,I B,L C,L j,I h,I x,Qb,Qb,Qb,I a,L b,L c,I d,I e,Qb,I g],Qa [I D,I E,I F,Qb,Qb,I G,Qb,Qb,I H,L P,L i,I k,I l,T Q5 m,Qb,Qb,I n,L o,L p,I q,I s,Qb,I t]]⟩)
 |.h7b U u v w y z A B C j h x a b c d e g D E F G H P i k l m n o p q s t h0=>(7,⟨tm 67 [(4,ptr 0 0),(5,ptr 1 0),(52,T zn U),(53,L u),(54,L v)],[Qa [I w,I y,I z,Qb,Qb,I A,Qb,Qb,I B,L C,L j,I h,I x,Qb,Qb,Qb,I a,L b,L c,I d,I e,Qb,I g],Qa [I D,I E,I F,AV.vec 2,Qb,I G,Qb,Qb,I H,L P,L i,I k,I l,T Q5 m,Qb,Qb,I n,L o,L p,I q,I s,Qb,I t],AO.vec Q6 h0]⟩)
def zeZ(x:ao)(c:J zl.sl):Tr (MO⊕az):=
 let h:=N (x.u>=0)
 let b:=zL 0 (X c)
 let a:=Y c (Z 0) (Q zl)
 let d:=(X a.1.2.1:Int)
 let e:=Y a.1.2.1 (Z x.u) (Q zn)
 br (x.1==gO)
 (R (cond h b O)
  (br (cond h (N (x.u<d)) S) (R b (R (zL x.u (X a.1.2.1)) (re (aS x.1 x.r.1.1 x.2.1 Qb Qb e.1 Qb Qb (xE x.r.1.u) Qb Qb zE x.q.1) []))) (re (aS x.1 x.r.1.1 x.2.1 Qb Qb [] Qb Qb (xE x.r.1.u) Qb Qb zE x.q.1) [])))
 (Q9
  (MO.h7 x.r.1.2.1 (X x.r.1.2.1:Int) 0 [] [] [] [] [] 0 0 [] [] [] 0 0 [] [] [] x.1 x.r.1.1 x.2.1 [] (zg.op x.r.1.u) (zg.v x.r.1.u).1 (zg.v x.r.1.u).2.1 (zg.v x.r.1.u).q (zg.s x.r.1.u) (zg.l x.r.1.u) [] 0 0 [] [] x.q.1))
def Cl:MO->Tr (MO⊕az)
 | .h7 l m i F G H P U h0 n o p q s t u v w y z A B C D j h x a b c d e g k=>
  let a0:=l.getD i.toNat (Q zn)
  let a1:=[a0.1]
  br (N (i<m))
  (R (zL i (X l)) (R (N (X a1<=1073741824)) (Q9 (MO.h7b l m (Γ Δ (i+1)) F G H P U h0 n o p q s t u v w y z A B C D j h x a b c d e g k a1))))
  (re (aS y z A Qb Qb B Qb Qb [I C,L D,L j,I h,I x,T Q5 a] Qb Qb [I b,L c,L d,I e,I g,Qb] k) [])
 | .h7b l m i F G H P U h0 n o p q s t u v w y z A B C D j h x a b c d e g k E=>
  let a0:=l.getD i.toNat (Q zn)
  let a1:=[a0.1]
  br (N (i<m))
  (R (zL i (X l)) (R (N (X E+X a1<=1073741824)) (Q9 (MO.h7b l m (Γ Δ (i+1)) F G H P U h0 n o p q s t u v w y z A B C D j h x a b c d e g k (E++a1)))))
  (re (aS y z A (AV.vec 0) Qb B Qb Qb [I C,L D,L j,I h,I x,T Q5 a] Qb Qb [I b,L c,L d,I e,I g,Qb] k) [AO.vec Q6 E])
def KZ(x:ao)(h:J zl.sl):=ar [aB] Cl 100000000 (zeZ x h)
def RC(x:ao)(h:J zl.sl):=(KZ x h).isSome
def zaR(x:ao)(h:J zl.sl):=o1 (KZ x h)
def zql:=FT [an,zl.sl] [aB] λx=>KZ x.1 x.2.1
theorem zk4:FK 85 zql:=sN.T1 (f:=Tryz.f85) (keep:=zus) (e:=zxg)
def Y1:=ziw.addL [(40,zpV),(85,zql)]
theorem QL:zw Y1:=sN.addL<|fc zkB<|fc zk4<|jb
def zyE(x:ae):Tr (Empty⊕az):=
 re (I x.1.1) []
def zbx(x:ae):=ar [Q6] t0 100000000 (zyE x)
def zwB:=FT [zl] [Q6] λx=>zbx x.1
theorem zkZ:FK 78 zwB:=sN.T1 (f:=Tryz.f78) (keep:=k0) (e:=e0)
theorem zk1:FK 78 (aX [zl] [.str] λx=>(x.1.1.1,())):=iX zkZ λ_=>rfl
def ziy:=((((Y1.add 78 (aX [zl] [.str] λx=>(x.1.1.1,()))).add 138 zjH).aut 80 Tryz.f80 2).aut 81 Tryz.f81 1)
theorem IG:zw ziy:=jp (jp ((QL.add zk1).add zlD) (cI kw)) (cI kw)
abbrev zt5:=kG [(6,[1,2,5,6,19,20,21])]
inductive UX where
 |h6 (l1:zS) (l6:List (J Q6)) (l19:zS) (i20:Int) (i21:Int) (z0:zq [CP.d an])
abbrev zw1:UX->Nat×St
 |.h6 x a l i h z=>(6,⟨tm 55 [(1,T zl x),(2,ptr 0 0),(5,ptr 1 0),(6,T Q6 a),(19,T zl l),(20,L i),(21,L h)],[Qa (bF [] [CP.d an] z),Qa [AV.clo (Fn.func 78) [] []]]⟩)
def ztA(x:ao)(h:J zl.sl):Tr (UX⊕az):=
 let a:=mw (x.1,x.2.1,x.q.1,(x.r.1.1,x.r.1.2.1,x.r.1.q.1,x.r.1.r.1,x.r.1.t.1,zt x.r.1.u),x.t)
 br ((X h:Int)!=(X a:Int)) (re (L 1) []) (Q9 (UX.h6 h a h (X h:Int) 0 (x,())))
def zf9:UX->Tr (UX⊕az)
 | .h6 l g c d i b=>
  let n:=c.getD i.toNat (Q zl)
  let e:=(b.1.1,b.1.2.1,b.1.q.1,(b.1.r.1.1,b.1.r.1.2.1,b.1.r.1.q.1,b.1.r.1.r.1,b.1.r.1.t.1,zt b.1.r.1.u),b.1.t)
  let a:=zaR e l
  let j:=(a.1,a.2.1,a.q.1,a.r.1,a.t.1,a.u.1,a.v.1,a.w.1,zt a.x.1,a.y.1,a.z.1,zt a.s.1,a.p)
  let h:=pOf (gL l) j
  let k:=h.2!=0
  let m:=(h.1.1,h.1.2.1,h.1.q.1,(h.1.r.1.1,h.1.r.1.2.1,h.1.r.1.q.1,h.1.r.1.r.1,h.1.r.1.t.1,zt h.1.r.1.u),h.1.t)
  br (N (i<d))
  (R (zL i (X c)) (R (zL i (X g)) (br (!n.1.1==g.getD i.toNat (Q Q6)) (re (L 1) []) (Q9 (UX.h6 l g c d (Γ Δ (i+1)) b)))))
  (R (N (0<X l)) (R (N (X l<=1000)) (R (two l) (R (RC e l) (R (zok (gL l) j) (R (cond k O (KX e m)) (br (cond k O (!OG e m)) (re (L 1) []) (re (L 0) []))))))))
def T4(x:ao)(h:J zl.sl):=ar [zk] zf9 100000000 (ztA x h)
def Fx(x:ao)(h:J zl.sl):=(T4 x h).isSome
def RB(x:ao)(h:J zl.sl):=o1 (T4 x h)
def zpQ:=FT [an,zl.sl] [zk] λx=>T4 x.1 x.2.1
theorem zkw:FK 31 zpQ:=IG.T1 (f:=Tryz.f31) (keep:=zt5) (e:=zw1)
def ziz:=ziy.add 31 zpQ
theorem II:zw ziz:=IG.add zkw
abbrev zup:=kG [(4,[1,6,7,8]),(12,[1,6,7,8,10,11,12])]
inductive nH where
 |h4 (l1:zS) (l6:List (J Q6)) (i8:Int)
 |h12 (l1:zS) (l6:List (J Q6)) (i8:Int) (i12:Int) (z0:zq [CP.d zl])
 |h12b (l1:zS) (l6:List (J Q6)) (i8:Int) (i12:Int) (z0:zq [CP.d zl]) (lh_1:dJ)
 |h4b (l1:zS) (l6:List (J Q6)) (i8:Int) (lh_0:zS)
 |h12bb (l1:zS) (l6:List (J Q6)) (i8:Int) (i12:Int) (z1:zq [CP.d zl]) (lh_0:zS)
 |h12bbb (l1:zS) (l6:List (J Q6)) (i8:Int) (i12:Int) (z1:zq [CP.d zl]) (lh_0:zS) (lh_2:dJ)
abbrev zxe:nH->Nat×St
 |.h4 x a h=>(4,⟨tm 67 [(1,T zl x),(6,T Q6 a),(7,Qb),(8,L h)],[]⟩)
 |.h12 x a h i z=>(12,⟨tm 67 [(1,T zl x),(6,T Q6 a),(7,Qb),(8,L h),(10,ptr 0 0),(11,Qb),(12,L i)],[Qa (bF [] [CP.d zl] z)]⟩)
 |.h12b x a h i z b=>(12,⟨tm 67 [(1,T zl x),(6,T Q6 a),(7,Qb),(8,L h),(10,ptr 0 0),(11,AV.vec 1),(12,L i)],[Qa (bF [] [CP.d zl] z),AO.vec zG b]⟩)
 |.h4b x a h l=>(4,⟨tm 67 [(1,T zl x),(6,T Q6 a),(7,AV.vec 0),(8,L h)],[AO.vec zl l]⟩)
 |.h12bb x a h i e l=>(12,⟨tm 67 [(1,T zl x),(6,T Q6 a),(7,AV.vec 0),(8,L h),(10,ptr 1 0),(11,Qb),(12,L i)],[AO.vec zl l,Qa (bF [] [CP.d zl] e)]⟩)
 |.h12bbb x a h i e l c=>(12,⟨tm 67 [(1,T zl x),(6,T Q6 a),(7,AV.vec 0),(8,L h),(10,ptr 1 0),(11,AV.vec 2),(12,L i)],[AO.vec zl l,Qa (bF [] [CP.d zl] e),AO.vec zG c]⟩)
def zm3(x:ao)(h:J zl.sl):Tr (nH⊕az):=
 let a:=(x.1,x.2.1,x.q.1,(x.r.1.1,x.r.1.2.1,x.r.1.q.1,x.r.1.r.1,x.r.1.t.1,zt x.r.1.u),x.t)
 R (kK a) (Q9 (nH.h4 h (my a) 0))
def iv:nH->Tr (nH⊕az)
 | .h4 a h x=>
  let c:=mE a (h.getD x.toNat (Q Q6))
  br (N (x<(X h:Int)))
  (R (zL x (X h)) (br (N (c<0)) (re (tup [Qb,kb S]) []) (R (zL c (X a)) (Q9 (nH.h12 a h x 0 (a.getD (Z c) (Q zl),()))))))
  (re (tup [Qb,kb O]) [])
 | .h12 a h x i z=>
  let c:=(X z.1.1.t.1:Int)
  let j:=zL i (X z.1.1.t.1)
  let d:=Y z.1.1.t.1 i.toNat (Q zG)
  let k:=[d]
  let m:=Γ Δ (i+1)
  let n:=[((z.1.1.1,z.1.1.2.1,z.1.1.q.1,z.1.1.r.1,[],zt z.1.1.u),z.1.2)]
  br (N (i<c))
  (R j (R (BW h d.2) (br (Pd h d.2) (R j (R (N (X k<=1073741824)) (Q9 (nH.h12b a h x m z k)))) (Q9 (nH.h12 a h x m z)))))
  (R (N (X n<=1073741824)) (Q9 (nH.h4b a h (Γ Δ (x+1)) n)))
 | .h12b a h x i z e=>
  let c:=(X z.1.1.t.1:Int)
  let j:=zL i (X z.1.1.t.1)
  let d:=Y z.1.1.t.1 i.toNat (Q zG)
  let k:=[d]
  let m:=Γ Δ (i+1)
  let n:=[((z.1.1.1,z.1.1.2.1,z.1.1.q.1,z.1.1.r.1,e,zt z.1.1.u),z.1.2)]
  br (N (i<c))
  (R j (R (BW h d.2) (br (Pd h d.2) (R j (R (N (X e+X k<=1073741824)) (Q9 (nH.h12b a h x m z (e++k))))) (Q9 (nH.h12b a h x m z e)))))
  (R (N (X n<=1073741824)) (Q9 (nH.h4b a h (Γ Δ (x+1)) n)))
 | .h4b a h x l=>
  let c:=mE a (h.getD x.toNat (Q Q6))
  br (N (x<(X h:Int)))
  (R (zL x (X h)) (br (N (c<0)) (re (tup [Qb,kb S]) []) (R (zL c (X a)) (Q9 (nH.h12bb a h x 0 (a.getD (Z c) (Q zl),()) l)))))
  (re (tup [AV.vec 0,kb O]) [AO.vec zl l])
 | .h12bb a h x i b l=>
  let c:=(X b.1.1.t.1:Int)
  let j:=zL i (X b.1.1.t.1)
  let d:=Y b.1.1.t.1 i.toNat (Q zG)
  let k:=[d]
  let m:=Γ Δ (i+1)
  let n:=[((b.1.1.1,b.1.1.2.1,b.1.1.q.1,b.1.1.r.1,[],zt b.1.1.u),b.1.2)]
  br (N (i<c))
  (R j (R (BW h d.2) (br (Pd h d.2) (R j (R (N (X k<=1073741824)) (Q9 (nH.h12bbb a h x m b l k)))) (Q9 (nH.h12bb a h x m b l)))))
  (R (N (X l+X n<=1073741824)) (Q9 (nH.h4b a h (Γ Δ (x+1)) (l++n))))
 | .h12bbb a h x i b l g=>
  let c:=(X b.1.1.t.1:Int)
  let j:=zL i (X b.1.1.t.1)
  let d:=Y b.1.1.t.1 i.toNat (Q zG)
  let k:=[d]
  let m:=Γ Δ (i+1)
  let n:=[((b.1.1.1,b.1.1.2.1,b.1.1.q.1,b.1.1.r.1,g,zt b.1.1.u),b.1.2)]
  br (N (i<c))
  (R j (R (BW h d.2) (br (Pd h d.2) (R j (R (N (X g+X k<=1073741824)) (Q9 (nH.h12bbb a h x m b l (g++k))))) (Q9 (nH.h12bbb a h x m b l g)))))
  (R (N (X l+X n<=1073741824)) (Q9 (nH.h4b a h (Γ Δ (x+1)) (l++n))))
def FD(x:ao)(h:J zl.sl):=ar [zl.sl,Sh.bool] iv 100000000 (zm3 x h)
def RH(x:ao)(h:J zl.sl):=(FD x h).isSome
def za8(x:ao)(h:J zl.sl):=o2 (FD x h)
def zqg:=FT [an,zl.sl] [zl.sl,Sh.bool] λx=>FD x.1 x.2.1
theorem zkW:FK 66 zqg:=II.T1 (f:=Tryz.f66) (keep:=zup) (e:=zxe)
def BC:=ziz.add 66 zqg
theorem Ak:zw BC:=II.add zkW
abbrev zjd:=kG [(4,[5,6,18,19,20]),(11,[9,34])]
inductive UY where
 |h4 (i5:zy) (l18:List (J ze.sl)) (i19:Int) (i20:Int) (mh_0:List ((Int×Int×zK)×Int))
abbrev Qw:UY->Nat×St
 |.h4 x l i h m=>(4,⟨tm 46 [(5,L x),(6,AV.mp 0),(18,T ze.sl l),(19,L i),(20,L h)],[AO.vmap O m]⟩)
def zmV(x:ao)(h:J zl.sl):Tr (UY⊕az):=
 let a:=(x.1,x.2.1,x.q.1,(x.r.1.1,x.r.1.2.1,x.r.1.q.1,x.r.1.r.1,x.r.1.t.1,zt x.r.1.u),x.t)
 let b:=Y h (Z 0) (Q zl)
 R (lE a h) (R (zL 0 (X h)) (Q9 (UY.h4 (dp a h) b.2 (X b.2:Int) 0 [])))
def zwi:UY->Tr (UY⊕az)
 | .h4 x l h i m=>
  let a:=l.getD i.toNat (Q ze.sl)
  br (N (i<h))
  (R (zL i (X l)) (R (zL x (X a)) (Q9 (UY.h4 x l h (Γ Δ (i+1)) (lF m (Y a (Z x) (Q K)) 0)))))
  Tr.err
set_option maxRecDepth 100000
def yM(e:List ((Int×Int×zK)×Int))(k:Int×Int×zK):List ((Int×Int×zK)×Int):=match cY e k 0 with
 |some q=>e.eraseIdx q.1
 |none=>e
variable {w:World}{h:Array MapEntry}{e:List ((Int×Int×zK)×Int)}
theorem zep{P:Program}{mt kt et:TypeId}(A:P.underlying mt=M (.map kt et))(l:ig P kt=O){r:Nat}{c:Nat}{k:Int×Int×zK}(v:eX k)
  (o:w.heap[r]?=M (.map h c)) (u:(h.toList.map λa=>(a.key,a.val))=Hg O e) (C:∀p∈e,du .i64 p.2/\eX p.1) (y:mV h c):
  ∃b:Array MapEntry,(∀z,(Builtin.delete_ #[mt,kt] z #[.map (M r),cO k]).run P w=.ok (.tuple #[]) {w with heap:=w.heap.setIfInBounds r (.map b c)})/\
   (b.toList.map λa=>(a.key,a.val))=Hg O (yM e k)/\(∀x∈b.toList,x.born<c)/\(b.toList.map (·.born)).Nodup:=by
 have j:=kk (P:=P) (w:=w) l v O e h.toList u C;have d:∀x∈h.toList,x.born<c:=λx t=>by
  obtain⟨i,s,rfl⟩:=fK t;have:=y.2 i h.toList[i] (by rw[<-ra];exact af s);rw[this,y.1];simpa using s
 have n:(h.toList.map (·.born)).Nodup:=by
  have:h.toList.map (·.born)=List.range h.size:=by
   apply List.ext_getElem
   .simp
   .intro i B D;have s:i<h.size:=by simpa using B
    simp only[List.getElem_map,List.getElem_range];exact y.2 i _ (by rw[<-ra];exact af (by simpa using s))
  rw[this];exact List.nodup_range
 unfold yM;cases m:cY e k 0 with
 | none=>
  rw[m]at j;refine⟨h,λz=>?_,u,d,n⟩;simp[Builtin.delete_,bM A,g8 o,bN l,j,om _ o,Result.andThen]
 | some q=>
  rw[m]at j;have g:((h.eraseIdxIfInBounds q.1).toList)=h.toList.eraseIdx q.1:=by simp
  refine⟨h.eraseIdxIfInBounds q.1,λz=>?_,?_,λx t=>?_,?_⟩
  .simp[Builtin.delete_,bM A,g8 o,bN l,j,om _ o,Result.andThen]
  .rw[g,tf,u];exact(tf _ e q.1).symm
  .rw[g]at t;exact d x (List.mem_of_mem_eraseIdx t)
  .rw[g];exact n.sublist ((List.eraseIdx_sublist _ _).map _)
def Gi:Code:=match Tryz.f32.body with
 |some (.seq _ (.seq _ (.seq _ (.seq _ r))))=>r
 |_=>.skip
def Fc:Code:=match Tryz.f32.body with
 |some (.seq _ (.seq _ (.seq _ (.seq (.seq _ (.block _ (.loop c))) _))))=>c
 |_=>.skip
theorem zmK:ap Tryz.f32 4=[.code Fc,.inLoop Fc,.inBlock 0,.code Gi]:=kw
theorem zm9:(Tryz.prog.info? 30).map (λi=>(i.zero,i.size,i.bytes))=M (M (.agg #[.int .i64 0,.int .i64 0,.string ⟨#[]⟩]),3,32):=kw
def NP(l:List ((Int×Int×zK)×MapEntry)):List Value:=l.flatMap λp=>[.int .i64 p.1.1,.int .i64 p.1.2.1,.string ⟨p.1.2.2.toArray⟩]
structure zjE (w1:World) (r clock:Nat) (ents':Array MapEntry) (v:Value) (wr:World) (seen:Array Nat) (E:List ((Int×Int×zK)×MapEntry)):Prop where
 it:∃c0,wr.heap[w1.heap.size]?=M (.mapIter (M r) clock seen c0)/\clock<=c0
 mp:wr.heap[r]?=M (.map ents' clock)
 sub:∀p∈E,p.2∈ents'.toList/\p.2.key=cO p.1
 sn:seen.toList=E.map λp=>p.2.born
 nd:(E.map λp=>p.2.born).Nodup
 row:wr.ownsRow w1.heap.size 30 3 v (X E) (NP E)
 bel:RowKit.Below w1.heap.size w1 wr
 cnt:X E+(leftOf ents' seen).size<=ents'.size
theorem Vw(w:World)(l:List Value)(t:TypeId):∀j u,l[j]?=M u->(w.alloc (.cells l.toArray t)).cell? ((⟨w.heap.size,0,none⟩:Addr).add j)=M u:=by
 intro j u h;unfold Addr.add;split
 next e=>subst e;simp[h]
 .simp[h]
theorem zfN(Q:Exit->Act->World->Prop)(c:Value->World->Prop)(r:Nat)(i:Array MapEntry)(d:Nat)(w l:World)(m2:∀ty,(Builtin.delete_ #[158,30] ty #[.map (M r),.agg #[.int .i64 0,.int .i64 0,.string ⟨#[]⟩]]).run Tryz.prog w=.ok (.tuple #[]) l)(hm:l.heap[r]?=M (.map i d))(h5:∀x∈i.toList,x.born<d)(a3:(i.toList.map (·.born)).Nodup) (h8:∀x∈i.toList,∃k,x.key=cO k) (m8:i.size<=1000)
  (x1:∀v wr s E,zjE l r d i v wr s E->(leftOf i s).size=0->Calls Tryz.prog 87 #[v,.func (.func 50) #[] #[]] wr λe w'=>e=.returned (.tuple #[])/\c v w')
  (hQ:∀v w'(a:Act),c v w'->a.tmps[4]?=M v->a.defers=[]->Q Exit.ret a w')
  (v0 v1 v2 v3 v4 v5 v7 v8 v9 i1 i2 i3 i4 i5 i6 i7 i8 i9 j0 v20 j1 j2 j3 j4 j5 j6 j7 j8 j9 k4 k5 k6 k7 k8 k9 l0 l1 l2 l3 l4 l5 l6 l7 l8 l9:Value):
  Gi.wp Tryz.prog Q {tmps:=#[v0,v1,v2,v3,v4,v5,(Value.map (M r)),v7,v8,v9,i1,i2,i3,i4,i5,i6,i7,i8,i9,j0,v20,j1,j2,j3,j4,j5,j6,j7,j8,j9,k4,k5,k6,k7,k8,k9,l0,l1,l2,l3,l4,l5,l6,l7,l8,l9],defers:=[]} w:=by
 have m6:=run_range_map (P:=Tryz.prog) l 158 30 159 r i d Tryz.underlying158 hm;simp only[Gi,Tryz.f32]
 go_wp2
 obtain⟨i0,hi,a7,a8,a9⟩:=info_parts zm9
 go_loopw [9] (λv wr=>∃s E,zjE l r d i v wr s E)
  (λ_ wr=>(leftOf i (wr.iterSeen l.heap.size)).size)
 case atStart=>
  exact⟨#[],[],⟨⟨d,heap_alloc_new _ _,zQ _⟩,by rw[heap_alloc_old _ _ (mP.1 hm).1];exact hm,sw,sw,sw,World.ownsRow_nil _ _ _ _,(RowKit.Below.refl _ _).alloc (zQ _) _,by simpa[leftOf]using Array.size_filter_le⟩⟩
 case round=>
  obtain⟨s,E,n⟩:=hrel;obtain⟨c0,C,a5⟩:=n.it;have m3:r<l.heap.size:=(mP.1 hm).1;rcases run_next_at (P:=Tryz.prog) wr 0 l.heap.size r d c0 s i d C n.mp h5 a5 with⟨hz,F⟩|⟨e,he,wd,B,F⟩
  .have x8:=x1 _ _ _ _ n (by simpa using hz);clear n
   go_wp2_with (go_at_call 87;refine x8.mono ?_;rintro e w' ⟨rfl,hS⟩)
   exact hQ _ _ _ hS rfl rfl
  .have h6:e∈i.toList:=by simp[leftOf]at he|-;exact he.1
   have a0:e.born∉E.map λp=>p.2.born:=by
    rw[<-n.sn];simp[leftOf]at he|-;exact he.2
   obtain⟨k,hk⟩:=h8 e h6;have a2:0<(leftOf i s).size:=by
    have:=List.length_pos_of_mem he;simpa using this
   have m1:=n.cnt;have m4:X E<1000:=by omega
   obtain⟨q,m⟩:∃q,ChangeMaps.setBlock wd l.heap.size (.mapIter (M r) d (s.push e.born) d)=q:=⟨_,rfl⟩;rw[m]at F;have G:wd.heap=wr.heap:=by rcases B with rfl|rfl<;>rfl
   have x3:l.heap.size<wr.heap.size:=(mP.1 C).1;have t:q.heap[l.heap.size]?=M (.mapIter (M r) d (s.push e.born) d):=by
    rw[<-m];show(wd.heap.setIfInBounds _ _)[_]?=_;rw[G];simp[x3]
   have h3:∀j,j≠l.heap.size->q.heap[j]?=wr.heap[j]?:=λj D=>by
    rw[<-m];show(wd.heap.setIfInBounds _ _)[_]?=_;rw[G,Array.getElem?_setIfInBounds_ne (λe=>D e.symm)]
   have h4:q.heap.size=wr.heap.size:=by
    rw[<-m];show(wd.heap.setIfInBounds _ _).size=_;rw[G];simp
   have h7:wr.grownBy q (M l.heap.size):=⟨by rw[<-m];rcases B with rfl|rfl<;>rfl,by rw[<-m];rcases B with rfl|rfl<;>rfl,by rw[<-m];rcases B with rfl|rfl<;>rfl,by rw[h4];exact zQ _,λj _ D=>h3 j λe=>D (by rw[e])⟩;have h0:q.heap[r]?=M (.map i d):=(h3 r W).trans n.mp;have x2:=run_entry_at (P:=Tryz.prog) q l.heap.size r d s i d e t h0 h6 a3;have A:=n.row.kept h7 (by
    rcases n.row.2 with⟨rfl,_⟩|⟨g,x6,x7,rfl,_,y,_⟩
    .exact .inl rfl
    .refine .inr λe'=>?_
     have:g=l.heap.size:=by simpa[Value.ownBlock]using e'
     subst this;rw[C]at y;cases y)
   have u:RowKit.Below l.heap.size l q:=n.bel.grown h7 n.bel.size (λj e=>by cases e;exact zQ _);rw[hk]at F x2;obtain⟨k1,k2,k3⟩:=k;simp only[cO]at F x2;have x5:=n.sub;have a6:=n.sn;have x4:=n.nd;clear m B G h4 h7 n
   go_wp2_with (at_builtin;refine wpList_append_own _ rfl _ _ 39 rfl l.heap.size 30 i0 _ 3 32 Tryz.underlying39 hi a7 a8 a9 rfl (by decide) _ _ _ rfl ((A.alloc _).alloc _) ⟨q.heap.size+1,0,none⟩ 1 1 [.int .i64 k1,.int .i64 k2,.string ⟨k3.toArray⟩] rfl rfl (by have:=Vw (q.alloc (.cells #[.int .i64 k1,.int .i64 k2,.string ⟨k3.toArray⟩] 30)) [.int .i64 k1,.int .i64 k2,.string ⟨k3.toArray⟩] 30;simpa using this) (by simp[Value.oneCell']) (by unfold maxLen;omega) W (by have:=u.size;simp;omega) ?_;intro v' w3 x0 H h9;go_frame)
   obtain⟨o3,a4⟩:∃o:Obj,o=.cells #[.int .i64 k1,.int .i64 k2,.string ⟨k3.toArray⟩] 30:=⟨_,rfl⟩;have U:World.grownBy ((q.alloc o3).alloc o3) w3 u9.ownBlock:=by rw[a4];exact H
   clear H h9;have z:∀j,u9.ownBlock=M j->l.heap.size<=j/\j≠l.heap.size:=by
    intro j D;rcases A.2 with⟨rfl,_⟩|⟨g,x6,x7,rfl,x9,y,_⟩
    .simp[Value.ownBlock]at D
    .have:g=j:=by simpa[Value.ownBlock]using D
     subst this;exact⟨x9,λe'=>by subst e';rw[t]at y;cases y⟩
   have m7:l.heap.size<q.heap.size:=(mP.1 t).1;have h2:∀j,j<=l.heap.size->w3.heap[j]?=q.heap[j]?:=λj D=>by
    rw[U.block j sg (λe'=>by obtain⟨a,b⟩:=z j e'.symm;omega),heap_alloc_old _ _ sg,heap_alloc_old _ _ W]
   have h1:w3.heap[l.heap.size]?=M (Obj.mapIter (M r) d (s.push e.born) d):=(h2 _ (zQ _)).trans t;have a1:NP (E++[((k1,k2,k3),e)])=NP E++[.int .i64 k1,.int .i64 k2,.string ⟨k3.toArray⟩]:=by simp[NP]
   refine⟨⟨s.push e.born,E++[((k1,k2,k3),e)],⟨⟨d,h1,zQ _⟩,(h2 r W).trans h0,?_,?_,?_,?_,?_,?_⟩⟩,?_⟩
   .intro p hp;rcases cZ.1 hp with h|h
    .exact x5 p h
    .obtain rfl:=ff.1 h;exact⟨h6,hk⟩
   .simp[a6]
   .rw[ib];refine List.nodup_append.2 ⟨x4,sw,λa ha b hb=>?_⟩;have:b=e.born:=by simpa using hb
    rintro rfl;exact a0 (this▸ha)
   .rw[a1,g9];exact x0
   .exact((u.alloc W _).alloc sg _).grown U sg (λj D=>(z j D).1)
   .have:=left_shrinks _ _ _ he;rw[g9];simp only[fA,qw];omega
   .have e1:wr.iterSeen l.heap.size=s:=by simp[World.iterSeen,C]
    have e2:w3.iterSeen l.heap.size=s.push e.born:=by simp[World.iterSeen,h1]
    rw[e1,e2];exact left_shrinks _ _ _ he
abbrev V3:={x:zp//bf x=O}
def kZ(p:V3):List Value:=[.int .i64 p.1.1,.int .i64 p.1.2.1,.string ⟨(p.1.2.2:zK).toArray⟩]
def Nb(p q:V3):Int:=aG p.1 q.1
theorem zoF[Inhabited V3](d:Array V3)(B j:Nat)(w:World)(s:HoldsK kZ 3 w B 0 d)(q:B<w.heap.size)(h:d.size<4611686018427387904):
  Calls Tryz.prog 87 #[.slice (M ⟨B,0,none⟩) d.size j,.func (.func 50) #[] #[]] w λe l=>e=.returned (.tuple #[])/\∃n os,l=sortWorldK kZ 3 w B 0 n (d.toList.mergeSort λx y=>!(ltOf Nb) y x).toArray os:=by
 refine AnyQ.slices_SortFunc_total Tryz.sortVal 3 Tryz.isAgg30 Tryz.sizeOf30 kZ (λ_=>rfl) ?_ Nb ?_ 50 #[] B 0 j d w zxE ?_ s q h ?_
 .intro x v k;simp only[kZ,bX,List.not_mem_nil,or_false]at k;rcases k with rfl|rfl|rfl<;>rfl
 .refine⟨λx=>?_,λx y z h g=>?_,λx y z h g=>?_⟩
  .exact aC (eB (a:=x.1))
  .simp only[ltOf,ba]at h g|-;exact dZ (a:=x.1) (b:=y.1) (c:=z.1) h g
  .simp only[ltOf,ef]at h g|-;intro i;rcases lX x.2 y.2 h with e|e
   .unfold Nb at i;rw[e]at i;exact g i
   .exact g (dZ (a:=y.1) (b:=x.1) (c:=z.1) e i)
 .intro m os u t x y;show Calls Tryz.prog 50 (#[Value.agg (kZ x).toArray,Value.agg (kZ y).toArray]++#[]) _ _;refine(zfw x.1.1 x.1.2.1 x.1.2.2 y.1.1 y.1.2.1 y.1.2.2 _).mono ?_;rintro A l ⟨rfl,o,p⟩;exact⟨rfl,gd_of o p⟩
 .intro x y h g;simp only[ltOf,ef]at h g;rcases lX x.2 y.2 h with e|e
  .exact Subtype.ext e
  .exact zz e g
theorem wS[Inhabited V3]:∀(l:List V3)(t:Nat),t<X l*3->(l.flatMap kZ)[t]?=M (kZ (l[t/3]!))[t%3]!
 |[],t,h=>by simp at h
 | a::l,t,h=>by
  rw[List.flatMap_cons];by_cases x:t<3
  .have e0:t/3=0:=by omega
   have e:t%3=t:=by omega
   rw[qK (by simpa[kZ]using x),e0,e];rw[List.getElem!_cons_zero,af (by simpa[kZ]using x),getElem!_pos]
  .obtain⟨s,rfl⟩:∃s,t=s+3:=⟨t-3,W⟩;have e0:(s+3)/3=s/3+1:=by omega
   have e:(s+3)%3=s%3:=by omega
   rw[pn (by simp[kZ]),e0,e,List.getElem!_cons_succ];have:=wS l s (by simp at h;omega);simpa[kZ]using this
theorem EN:∀l:List V3,(l.flatMap kZ).length=X l*3
 |[]=>rfl
 | a::l=>by
  rw[List.flatMap_cons,g9,EN l,fA];simp[kZ];omega
variable {v:Value}{l:List V3}
theorem zaP[Inhabited V3](z:w.ownsRow i 30 3 v (X l) (l.flatMap kZ))(p:X l<4611686018427387904)(P:l≠[]):
  Calls Tryz.prog 87 #[v,.func (.func 50) #[] #[]] w λe w'=>e=.returned (.tuple #[])/\w'.ownsRow i 30 3 v (X l) ((l.mergeSort λx y=>!(ltOf Nb) y x).flatMap kZ)/\w.grownBy w' v.ownBlock:=by
 rcases z.2 with⟨_,h0⟩|⟨g,j,o,rfl,C,a,s,E,q,h1⟩
 .exact zz (List.length_eq_zero_iff.1 h0) P
 have hH:HoldsK kZ 3 w g 0 l.toArray:=by
  intro t c;rw[size_flatK]at c;have A:t<X l*3:=by simpa using c
  have hc:o.toList[t]?=M (kZ (l[t/3]!))[t%3]!:=by
   rw[<-wS l t A,<-h1,List.getElem?_take_of_lt A]
  refine⟨?_,by simp[World.frozen?,a]⟩;rw[get_flatK _ _ _ _ c];simp[World.cell?,a];simpa using hc
 have hs:=zoF l.toArray g j w hH (mP.1 a).1 (by simpa using p);have U:l.toArray.size=X l:=by simp
 rw[U]at hs;refine hs.mono ?_;rintro e w' ⟨rfl,m,os,rfl⟩;have h:(l.mergeSort λx y=>!(ltOf Nb) y x).length=X l:=List.length_mergeSort _;simp only[];generalize(l.mergeSort λx y=>!(ltOf Nb) y x)=d at h;have B:=wX (enc:=kZ) (k:=3) (n:=m) (os:=os) d.toArray a;have u:∀b,b<w.heap.size->b≠g->(sortWorldK kZ 3 w g 0 m d.toArray os).heap[b]?=w.heap[b]?:=λb hb H=>iR d.toArray hb H
 refine⟨by first|trivial|rfl,⟨by rw[EN,h],.inr ⟨g,j,_,rfl,C,B,s,E,by simp[putCells,q],?_⟩⟩,⟨rfl,rfl,rfl,?_,λk hk H=>u k hk λe=>H (by rw[e];rfl)⟩⟩
 .apply oo;intro t;by_cases c:t<X l*3
  .rw[List.getElem?_take_of_lt c,wS d t (by rw[h];exact c),ra];have D:t<o.size:=by rw[q];exact ia c (f5 3 s)
   have F:=get_flatK kZ 3 d.toArray t (by simpa[h]using c);have G:(flatK kZ 3 d.toArray).size=X l*3:=by simp[h]
   unfold putCells;rw[Array.getElem?_mapIdx,uf D];simp only[HX,aK,eV,G,c,and_self,zj,Nat.sub_zero,F,id_eq];simp
  .rw[fe sg,fe (by rw[EN,h];omega)]
 .unfold sortWorldK grow putRowK;simp[Sort.ahead]
theorem Ww(p:Option Addr)(c:Nat)(h:Value)(w:World):Calls Tryz.prog 87 #[.slice p 0 c,h] w λe x=>e=.returned (.tuple #[])/\x=w:=
 AnyF.slices_SortFunc_none {Tryz.sortVal with} p c h w
theorem zjj:∀E:List ((Int×Int×zK)×MapEntry),(∀p∈E,bf p.1=O)->∃l:List V3,l.map (·.1)=E.map (·.1)/\l.flatMap kZ=NP E
 |[],_=>⟨[],rfl,rfl⟩
 | p::E,h=>by
  have⟨l,x,a⟩:=zjj E λq b=>h q (mX _ b)
  refine⟨⟨p.1,h p uz⟩::l,by simp[x],?_⟩;rw[List.flatMap_cons,a];rfl
def zdA(w:World)(e:Array MapEntry)(v:Value)(h:World):Prop:=
 ∃(E:List ((Int×Int×zK)×MapEntry))(l:List V3),(∀p∈E,p.2∈e.toList/\p.2.key=cO p.1)/\(∀x∈e.toList,x.born∈E.map λp=>p.2.born)/\(E.map λp=>p.2.born).Nodup/\l.map (·.1)=E.map (·.1)/\
  h.ownsRow w.heap.size 30 3 v (X l) ((l.mergeSort λx y=>!(ltOf Nb) y x).flatMap kZ)/\RowKit.Below w.heap.size w h
variable {E:List ((Int×Int×zK)×MapEntry)}
theorem Vz[Inhabited V3]{wr:World}{r k:Nat}{s:Array Nat}(d:zjE w r k h v wr s E)(A:(leftOf h s).size=0)(G:∀p∈E,bf p.1=O)(H:h.size<=1000):
  Calls Tryz.prog 87 #[v,.func (.func 50) #[] #[]] wr λe y=>e=.returned (.tuple #[])/\zdA w h v y:=by
 have⟨l,t,D⟩:=zjj E G;have j:X l=X E:=by simpa using congrArg X t
 have i:∀x∈h.toList,x.born∈E.map λp=>p.2.born:=λx U=>by
  have:=all_seen h s A x U;rw[<-d.sn];simpa using this
 have b:=d.row;rw[<-D,<-j]at b;have⟨c0,F,_⟩:=d.it;have u:w.heap.size<=wr.heap.size:=d.bel.size;by_cases m:l=[]
 .subst m;have P:∃p c,v=.slice p 0 c:=by
   rcases b.2 with⟨rfl,_⟩|⟨g,n,o,rfl,_⟩
   .exact⟨_,_,rfl⟩
   .exact⟨_,_,rfl⟩
  obtain⟨p,c,rfl⟩:=P;refine(Ww p c _ wr).mono ?_;rintro e y ⟨rfl,rfl⟩;exact⟨rfl,E,[],d.sub,i,d.nd,t,by simpa using b,d.bel⟩
 .refine(zaP b (by have:=d.cnt;omega) m).mono ?_;rintro e y ⟨rfl,B,C⟩;refine⟨rfl,E,l,d.sub,i,d.nd,t,B,d.bel.grown C u λa z=>?_⟩;rcases b.2 with⟨rfl,_⟩|⟨g,n,o,rfl,q,_⟩
  .simp[Value.ownBlock]at z
  .have:g=a:=by simpa[Value.ownBlock]using z
   exact this▸q
theorem Wr(x y z:V3)(h:ltOf Nb x y=S)(g:ltOf Nb y z=S):ltOf Nb x z=S:=by
 simp only[ltOf,ef]at h g|-;intro d;rcases lX x.2 y.2 h with e|e
 .unfold Nb at d;rw[e]at d;exact g d
 .exact g (dZ (a:=y.1) (b:=x.1) (c:=z.1) e d)
theorem Wq(x y:V3):(!(ltOf Nb y x)||!(ltOf Nb x y))=O:=by
 by_cases h:ph y.1 x.1
 .have:ltOf Nb x y=S:=by
   simp only[ltOf,ef];exact λg=>eB (a:=y.1) (dZ (a:=y.1) (b:=x.1) (c:=y.1) h g)
  simp[this]
 .have:ltOf Nb y x=S:=by
   simp only[ltOf,ef];exact h
  simp[this]
theorem Sd(l:List V3)(j:(l.map (·.1)).Nodup) (i:∀x∈l,x.1.1≠0):(l.mergeSort λx y=>!(ltOf Nb) y x).map (·.1)=rl (l.map (·.1)):=by
 by_cases d:l=[]
 .subst d;simp[rl]
 .refine zbQ ?_ ((List.mergeSort_perm l _).map _) ?_
  .have e:l.map (·.1)≠[]:=by simpa using d
   simp only[sI,aP,ep,ba,bne_iff_ne,ne_eq];refine⟨⟨λx k=>?_,j⟩,by simpa using d⟩;obtain⟨y,m,rfl⟩:=aI.1 k;exact⟨y.2,i y m⟩
  .rw[List.pairwise_map];refine(List.pairwise_mergeSort (λa b c h g=>?_) (λa b=>Wq a b) l).imp λ{x y} h=>?_
   .simp only[uA]at h g|-;exact Wr c b a g h
   .simp only[ltOf,uA,ef]at h;exact h
theorem Nk(e:List ((Int×Int×zK)×Int))(k:Int×Int×zK):List.Sublist (yM e k) e:=by
 unfold yM;split
 .exact List.eraseIdx_sublist _ _
 .exact List.Sublist.refl _
theorem Bd(k:Int×Int×zK):∀(e:List ((Int×Int×zK)×Int))(i:Nat),(cY e k i).map (·.1)=(cY e k 0).map (λq=>q.1+i)
 |[],_=>rfl
 | p::r,i=>by
  unfold cY;cases k==p.1 with
  |true=>simp
  | false=>
   simp only[aL];have a:=Bd k r (i+1);have x:=Bd k r 1;rw[a];cases h:cY r k 0 with
   |none=>rw[h]at x;cases b:cY r k (0+1)<;>simp_all
   | some q=>
    rw[h]at x;cases b:cY r k (0+1)with
    |none=>simp_all
    |some c=>simp_all;omega
theorem VC(p:(Int×Int×zK)×Int)(r:List ((Int×Int×zK)×Int))(k:Int×Int×zK):yM (p::r) k=if k=p.1 then r else p::yM r k:=by
 unfold yM;by_cases h:k=p.1
 .simp[cY,h]
 .have b:(k==p.1)=S:=by simpa using h
  rw[zh h];simp only[cY,b,aL];have:=Bd k r 1;cases a:cY r k (0+1)with
  | none=>
   rw[a]at this;cases x:cY r k 0 with
   |none=>rfl
   |some q=>rw[x]at this;simp at this
  | some q=>
   rw[a]at this;cases x:cY r k 0 with
   |none=>rw[x]at this;simp at this
   | some c=>
    rw[x]at this;have e:q.1=c.1+1:=by simpa using this
    simp[e]
theorem DW(k:Int×Int×zK):∀{c:List ((Int×Int×zK)×Int)},(c.map (·.1)).Nodup->∀x,x∈(yM c k).map (·.1)↔x∈c.map (·.1)/\x≠k
 |[],_,x=>by simp[yM,cY]
 | p::r,hn,x=>by
  rw[er,List.nodup_cons]at hn;rw[VC];split
  next h=>subst h;rw[er,bX];refine⟨λa=>⟨.inr a,λe=>hn.1 (e▸a)⟩,λ⟨h,b⟩=>h.resolve_left b⟩
  .rename_i h;rw[er,bX,er,bX,DW k hn.2 x];refine⟨λa=>?_,λ⟨a,b⟩=>a.imp id λa=>⟨a,b⟩⟩;rcases a with rfl|a
   .exact⟨.inl rfl,λe=>h e.symm⟩
   .exact⟨.inr a.1,a.2⟩
theorem AH{α β:Type}{f:α->β}:∀{l:List α},(l.map f).Nodup->∀{a b:α},a∈l->b∈l->f a=f b->a=b
 |[],_,_,_,d,_,_=>by cases d
 | x::r,hn,a,b,d,hb,e=>by
  rw[er,List.nodup_cons]at hn;rcases bX.1 d with c|c
  .rcases bX.1 hb with h|h
   .rw[c,h]
   .exact zz (show f x∈r.map f from aI.2 ⟨b,h,by rw[<-e,c]⟩) hn.1
  .rcases bX.1 hb with h|h
   .exact zz (show f x∈r.map f from aI.2 ⟨a,c,by rw[e,h]⟩) hn.1
   .exact AH hn.2 c h e
theorem Oz:∀{l m:List Nat},l.Nodup->(∀x∈l,x∈m)->X l<=X m
 |[],m,_,_=>by simp
 | a::r,m,hn,h=>by
  rw[List.nodup_cons]at hn;have b:=h a uz;have d:=Oz (l:=r) (m:=m.erase a) hn.2 λx c=>(List.mem_erase_of_ne (λe:x=a=>hn.1 (e▸c))).2 (h x (mX _ c))
  have g:=List.length_erase_of_mem b;have i:=List.length_pos_of_mem b;rw[fA];omega
theorem Ow(h:bf a=O)(x:a.1=0):a=(0,0,[]):=by have⟨k,n,s⟩:=a;subst x;unfold bf at h;simp at h;simp[h]
theorem rt(h:cO p=cO q):p=q:=by have⟨a,x,b⟩:=p;have⟨c,d,e⟩:=q;simpa[cO]using h
theorem OI(a:(h.toList.map λx=>(x.key,x.val))=Hg O e):h.toList.map (·.key)=(e.map (·.1)).map cO:=by have:=congrArg (List.map Prod.fst) a;simpa[Hg,qx,Bn]using this
theorem vg{n:zr}(b:∀x∈j,bf x=O)(c:∀x∈n,bf x=O)(h:∀x,x.1≠0->(x∈j↔x∈n)):rl j=rl n:=by
 have⟨l,d⟩:=wq b;have⟨m,e⟩:=wq c;refine LR l m λx=>?_
 rw[d,e];exact⟨λa=>⟨(h x a.2).1 a.1,a.2⟩,λa=>⟨(h x a.2).2 a.1,a.2⟩⟩
theorem Wi(he:(h.toList.map λd=>(d.key,d.val))=Hg O e)(hn:(e.map (·.1)).Nodup) (P:∀p∈e,bf p.1=O) (U:∀p∈e,p.1.1≠0)
   (s:∀p∈E,p.2∈h.toList/\p.2.key=cO p.1) (t:∀x∈h.toList,x.born∈E.map λp=>p.2.born) (G:(E.map λp=>p.2.born).Nodup) (v:(h.toList.map (·.born)).Nodup)  (D:l.map (·.1)=E.map (·.1)):
  (l.mergeSort λx y=>!(ltOf Nb) y x).map (·.1)=rl (e.map (·.1)):=by
 have z:=OI he;have C:(h.toList.map (·.key)).Nodup:=by
  rw[z];exact List.Pairwise.map _ (λa b c d=>c (rt d)) hn
 have m:∀p∈E,p.1∈e.map (·.1):=λp g=>by
  have⟨h1,h2⟩:=s p g;have:p.2.key∈h.toList.map (·.key):=aI.2 ⟨_,h1,rfl⟩;rw[z,h2]at this;have⟨k,A,B⟩:=aI.1 this;exact rt B▸A
 have F:(E.map (·.1)).Nodup:=by
  unfold List.Nodup at G|-;rw[List.pairwise_map]at G|-;refine G.imp_of_mem λ{p q} g n c d=>c ?_
  have⟨H,o⟩:=s p g;have⟨q1,q2⟩:=s q n;have:p.2.key=q.2.key:=by rw[o,q2,d]
  rw[AH C H q1 this]
 rw[Sd l (by rw[D];exact F) (λx i=>by
  have:x.1∈E.map (·.1):=by rw[<-D];exact aI.2 ⟨x,i,rfl⟩
  have⟨p,g,d⟩:=aI.1 this;have⟨q,n,u⟩:=aI.1 (m p g);rw[<-d,<-u];exact U q n),D]
 refine vg (λx i=>?_) (λx i=>?_) λx _=>⟨λi=>?_,λi=>?_⟩
 .obtain⟨p,g,rfl⟩:=aI.1 i;have⟨q,n,u⟩:=aI.1 (m p g);exact u▸P q n
 .obtain⟨p,g,rfl⟩:=aI.1 i;exact P p g
 .obtain⟨p,g,rfl⟩:=aI.1 i;exact m p g
 .have:cO x∈h.toList.map (·.key):=by rw[z];exact aI.2 ⟨x,i,rfl⟩
  have⟨d,j,w⟩:=aI.1 this;have⟨p,g,hb⟩:=aI.1 (t d j);have⟨H,o⟩:=s p g;have:p.2=d:=AH v H j hb;rw[this,w]at o;exact aI.2 ⟨p,g,(rt o).symm⟩
theorem Z6:∀l:List Value,X l=46->∃v0 v1 v2 v3 v4 v5 v6 v7 v8 v9 v x a b c d e g i j v20 k m n o p q s t u w y z A B C D E F G H P U h0 h1 h2,l=[v0,v1,v2,v3,v4,v5,v6,v7,v8,v9,v,x,a,b,c,d,e,g,i,j,v20,k,m,n,o,p,q,s,t,u,w,y,z,A,B,C,D,E,F,G,H,P,U,h0,h1,h2]:=by
 intro l h
 match l,h with
 |v0::v1::v2::v3::v4::v5::v6::v7::v8::v9::v::x::a::b::c::d::e::g::i::j::v20::k::m::n::o::p::q::s::t::u::w::y::z::A::B::C::D::E::F::G::H::P::U::h0::h1::h2::[],_=>exact⟨v0,v1,v2,v3,v4,v5,v6,v7,v8,v9,v,x,a,b,c,d,e,g,i,j,v20,k,m,n,o,p,q,s,t,u,w,y,z,A,B,C,D,E,F,G,H,P,U,h0,h1,h2,rfl⟩
theorem Wp(n:Int)(w:World)(v0 v1 v2 v3 v4 v5 v6 v7 v8 v9 v h x b c d g i j k l m o p q s u y z A B C D E F G H P U h0 h1 h2 h3 h4:Value):
  Fc.wp Tryz.prog (λe a w'=>e=.exit 0/\w'=w/\∃t:List Value,a=⟨t.toArray,[]⟩/\X t=46/\t[6]?=M v6) {tmps:=#[v0,v1,v2,v3,v4,v5,v6,v7,v8,v9,v,h,x,b,c,d,g,i,j,(Value.int .i64 n),(Value.int .i64 n),k,l,m,o,p,q,s,u,y,z,A,B,C,D,E,F,G,H,P,U,h0,h1,h2,h3,h4],defers:=[]} w:=by
 simp only[Fc,Tryz.f32]
 go_wp2
theorem zv4:Tryz.f32.results=#[.tmp 4]:=kw
theorem WS{tmps:Array Value}(h:tmps[4]?=M v):(results Tryz.f32 tmps).run Tryz.prog w=.ok v w:=by
 have x:tmps.getD 4 undef=v:=by rw[qJ,h];rfl
 rw[Gj,zv4];simp[Gh,x]
theorem zam:cO (0,0,[])=.agg #[.int .i64 0,.int .i64 0,.string ⟨#[]⟩]:=rfl
theorem ze7{U:Nat->Prop}{base:Nat}(hU:∀b,U b->b<base)[Inhabited V3](C:∀x∈l,eX x.1)(G:X l<=1000){m:List V3}(H:List.Perm m l)(t:w.ownsRow base 30 3 v (X l) (m.flatMap kZ)):
  Rv w U (λ_=>none) (.sl K (m.map (·.1))) v:=by
 have B:X m=X l:=H.length_eq;rcases t.2 with⟨rfl,h0⟩|⟨g,y,e,rfl,h1,o,h3,h2,z,D⟩
 .have:m=[]:=List.length_eq_zero_iff.1 W;rw[this];exact .sl0 K _ _
 .have P:(m.map (·.1)).length=X l:=by simp[B]
  rw[<-P];refine .sl K _ g 0 y (λi j=>(e[i*3+j]?).getD undef) W um (mP.1 o).1 (λh=>by have:=hU g h;omega) (λi j F u=>?_) (λi F j c a=>?_)
  .have u:j<3:=u;have A:i*3+j<e.size:=by rw[z];omega
   simp[World.cell?,o,uf A,show ze.size=3 from rfl]
  .have p:i<X m:=by simpa using F
   have u:j<3:=by
    have:=(dC.1 a).1
    rwa [au]at this
   have E:=wS m (i*3+j) W;rw[show(i*3+j)/3=i by omega,show(i*3+j)%3=j by omega,<-D,List.getElem?_take_of_lt W,ra,getElem!_pos m i p]at E;rw[E];simp only[bI];have d:=C m[i] (H.mem_iff.1 (bp p));simp only[List.getElem_map]at a;generalize m[i]=x at a d;have⟨⟨k,n,s⟩,hx⟩:=x
   match j,u,a with
   |0,_,a=>cases a;exact .int _ _ d.1
   |1,_,a=>cases a;exact .int _ _ d.2.1
   |2,_,a=>cases a;exact .str _ d.q
theorem zfL{E:ct}(qp:E.P=Tryz.prog){C:eW}(hC:∀id,C.ρ0 id=none)(es:List ((Int×Int×zK)×Int))(x4:X es<=1000)(hn:(es.map (·.1)).Nodup) (hm:∀p∈es,bf p.1=O) (x5:zy) (j2:List (J ze.sl)) (n:Int):
  Reach E C 32 (ap Tryz.f32 4) (Qw (.h4 x5 j2 n n es)).2 (λr h=>bb h [ze.sl] r=M (rl (es.map (·.1)),())):=by
 intro b cs a w U ρ x1 a5 hc F;rw[qp];rw[zmK];have u:a.tmps.toList.length=46:=by rw[<-hc.tm.len];rfl
 have⟨⟨ts⟩,df⟩:=a;have h3:df=[]:=hc.df;subst h3;obtain⟨v0,v1,v2,v3,v4,v5,v6,v7,v8,v9,n8,n9,v12,v13,v14,v15,v16,v17,v18,v19,v20,v21,v22,v23,v24,v25,v26,v27,v28,v29,v30,v31,v32,v33,v34,v35,v36,v37,v38,v39,v40,v41,v42,v43,v44,v45,rfl⟩:=Z6 ts u;have r6:=hc.tm.rv 6 (.mp 0) v6 rfl rfl;have j3:=hc.tm.rv 19 (L n) v19 rfl rfl;have j4:=hc.tm.rv 20 (L n) v20 rfl rfl;have ho:bz w U ρ 0 (.vmap O es):=hc.hp.ob 0;have a6:=hc.hp.blk 0;clear u;cases j3 with|int _ _ _=>
 cases j4 with|int _ _ _=>
 have⟨r,h8,d,q1,q2,q3,q4,q5,q6⟩:=ho;cases r6 with|mp _ _ q7 _=>
 rw[q1]at q7;cases q7;have i3:C.B0 r\/C.w0.heap.size<=r:=a6 r ⟨rfl,_,q1,rfl⟩;have⟨c,y,x3,H,x2⟩:=zep (P:=Tryz.prog) (mt:=158) (kt:=30) (et:=159) Tryz.underlying158 kw (k:=(0,0,[])) ⟨by unfold du;decide,by unfold du;decide,aK _⟩ q3 q4 q5 q6;rw[zam]at y;have i4:r<w.heap.size:=(mP.1 q3).1;obtain⟨D,t⟩:∃D:World,({w with heap:=w.heap.setIfInBounds r (.map c d)}:World)=D:=⟨_,rfl⟩;rw[t]at y;have hs1:D.heap.size=w.heap.size:=by rw[<-t];simp
 have x6:D.heap[r]?=M (.map c d):=by rw[<-t];simp[i4]
 have i2:∀j,j≠r->D.heap[j]?=w.heap[j]?:=λj B=>by rw[<-t];simp[Array.getElem?_setIfInBounds_ne (Ne.symm B)]
 have x7:=OI x3;have a7:((yM es (0,0,[])).map (·.1)).Nodup:=hn.sublist ((Nk _ _).map _);have a8:=Nk es (0,0,[]);have hk:∀x∈c.toList,∃k,x.key=cO k/\k∈(yM es (0,0,[])).map (·.1):=λx o=>by
  have:x.key∈c.toList.map (·.key):=aI.2 ⟨x,o,rfl⟩;rw[x7]at this;have⟨k,k1,k2⟩:=aI.1 this;exact⟨k,k2.symm,k1⟩
 have a0:c.size<=1000:=by
  have:=congrArg X x7;simp only[cW,Array.length_toList]at this;rw[this];exact be a8.length_le x4
 have hinh:Inhabited V3:=⟨⟨(0,0,[]),kw⟩⟩;have m:∀x:zp,x∈(yM es (0,0,[])).map (·.1)->bf x=O/\eX x/\x.1≠0:=λx o=>by
  have⟨j0,j1⟩:=(DW (0,0,[]) hn x).1 o;obtain⟨p,s,rfl⟩:=aI.1 j0;exact⟨hm p s,(q5 p s).2,λh0=>j1 (Ow (hm p s) h0)⟩
 obtain⟨e1,a1,wx,⟨rfl,rfl,ts,rfl,i7,i6⟩,x0⟩:=Wp n w v0 v1 v2 v3 v4 v5 (.map (M r)) v7 v8 v9 n8 n9 v12 v13 v14 v15 v16 v17 v18 v21 v22 v23 v24 v25 v26 v27 v28 v29 v30 v31 v32 v33 v34 v35 v36 v37 v38 v39 v40 v41 v42 v43 v44 v45 b [.inLoop Fc,.inBlock 0,.code Gi] cs;have j5:=x0 [.code Gi] rfl;obtain⟨u0,u1,u2,u3,u4,u5,u6,u7,u8,u9,j6,j7,j8,j9,k3,k4,k5,k6,k7,k8,k9,l0,l1,l2,l3,l4,l5,l6,l7,l8,l9,m1,m2,m3,m4,m6,m7,m8,m9,n1,n2,n3,n4,n5,n6,n7,rfl⟩:=Z6 ts i7;have i8:u6=.map (M r):=by simpa using i6
 subst i8
 obtain⟨e2,a2,w',⟨rfl,v,i9,h3,hK⟩,G⟩:=zfN (λe a w'=>e=.ret/\∃v,a.tmps[4]?=M v/\a.defers=[]/\zdA D c v w') (zdA D c) r c d wx D y x6 H x2 (λx o=>(hk x o).imp λ_ h=>h.1) a0
  (λv wr seen E hC h0=>Vz hC h0 (λp s=>by
   have⟨s1,s2⟩:=hC.sub p s;have⟨k,k1,k2⟩:=hk _ s1;rw[s2]at k1;exact rt k1▸(m k k2).1) a0) (λv w' a hS h4 hd=>⟨rfl,v,h4,hd,hS⟩) u0 u1 u2 u3 u4 u5 u7 u8 u9 j6 j7 j8 j9 k3 k4 k5 k6 k7 k8 k9 l0 l1 l2 l3 l4 l5 l6 l7 l8 l9 m1 m2 m3 m4 m6 m7 m8 m9 n1 n2 n3 n4 n5 n6 n7 b [] cs
 have⟨a3,i5⟩:=G;have⟨E,l,h7,a4,nd,hl,x8,i⟩:=hK;have h5:=Wi x3 a7 (λp s=>(m _ (aI.2 ⟨p,s,rfl⟩)).1) (λp s=>(m _ (aI.2 ⟨p,s,rfl⟩)).q) h7 a4 nd x2 hl;have h9:rl ((yM es (0,0,[])).map (·.1))=rl (es.map (·.1)):=vg (λx o=>(m x o).1) (λx o=>by obtain⟨p,s,rfl⟩:=aI.1 o;exact hm p s) λx o=>by
  rw[DW (0,0,[]) hn x];exact⟨λh=>h.1,λh=>⟨h,λe=>o (by rw[e])⟩⟩
 have i0:∀x∈l,eX x.1:=λx o=>by
  have:x.1∈E.map (·.1):=by rw[<-hl];exact aI.2 ⟨x,o,rfl⟩
  have⟨p,s,e⟩:=aI.1 this;have⟨s1,s2⟩:=h7 p s;have⟨k,k1,k2⟩:=hk _ s1;rw[s2]at k1;rw[<-e];exact rt k1▸(m k k2).2.1
 have i1:X l<=1000:=by
  have h1:X l=X E:=by simpa using congrArg X hl
  have h2:(E.map λp=>p.2.born).length<=(c.toList.map (·.born)).length:=Oz nd λx o=>by
   obtain⟨p,s,rfl⟩:=aI.1 o;exact aI.2 ⟨p.2,(h7 p s).1,rfl⟩
  simp only[cW,Array.length_toList]at h2;omega
 have z:∀j,j<wx.heap.size->j≠r->w'.heap[j]?=wx.heap[j]?:=λj B a9=>by rw[i.block j W,i2 j a9]
 have A:wx.heap.size<=w'.heap.size:=by have:=i.size;omega
 have x9:=ze7 (U:=U) (base:=D.heap.size) (λb hb=>by have:=F.ub b hb;omega) i0 i1 (List.mergeSort_perm l _) x8;rw[h5,h9]at x9;refine⟨.returned v,w',{b.at a2 a3 with mode:=.returning},⟨v,.sl K (rl (es.map (·.1))),[],U,λ_=>none,rfl,?_,x9,⟨λid=>by simp[bz],λ_ _ _ h=>by simp[aq]at h,λ_ _ h=>by simp[aq]at h⟩,λ_ _=>rfl,λid v h=>(by rw[hC id]at h;cases h),?_⟩,mc j5 i5,x1,rfl,h3,a5,Tryz.f32,?_,WS i9⟩
 .rfl
 .refine⟨F.ext.trans ⟨A,?_,?_,?_,λx o=>?_⟩,λj B hB=>?_,λj B=>ia (F.ub j B) A,F.u1,F.u2,λg=>(F.gl g).mono A (λj B hu=>z j B λe=>hu (e▸q2)) (λ_ _ h=>h) (λ_ _ h=>h)⟩
  .rw[i.os,<-t]
  .rw[i.output,<-t]
  .rw[i.tape,<-t]
  .by_cases h6:x.block=r
   .have h1:w'.heap[x.block]?=M (.map c d):=by rw[h6,i.block r W,x6]
    have h2:wx.heap[x.block]?=M (.map h8 d):=by rw[h6,q3]
    simp[World.frozen?,h1,h2]
   .exact Bk (z _ o h6)
  .rw[z j (ia B F.ext.sz) λe=>i3.elim (λh=>hB (e▸h)) (λh=>by omega)];exact F.same j B hB
 .show Tryz.prog.funcs[b.fn]?=M Tryz.f32;rw[x1];kernel_rfl
end
end Cad
