/- Bases that may be. -/
import Derived.Test.YtgcekmmgphhofaaGreatDoorR20
namespace Cad
open Go Go.Proofs
open List renaming length->Io,length->M
open IntKind renaming wrap->Γ,i64->Δ
open Tr renaming val->Q9
open Bool renaming true->Q4,true->Z,false->J
open Option renaming some->Y
open Decidable renaming decide->L
open List (getD)
open List renaming getD->W
open Tr (chk br re)
open AV (nils agg tup ptr kb)
open AV renaming str->X,sl->O
open Cad renaming ow->S,ai->I,Sem->N,ze->Q
set_option maxHeartbeats 4000000
noncomputable section
abbrev relAt(db:zH)(s:zD):zX:=W db (Int.toNat (ab db s)) (zk zl)
def Oa(d:zH):Prop:=∀x∈d,∀f∈x.1.t.1,LE.le (α:=Int) 0 (ab d f.2)/\∀h∈x.2,(az f.1 h).1≠0->mK (relAt d f.2) (relAt d f.2).1.q.1 (az f.1 h)=Z
def IsF(r:ac):Prop:=r=(.kb J,[])
variable {db:zH}{i:Nat}
theorem Zx{x:zX}{f:bV}{k:Nat}(l:LE.le (α:=Int) 0 (ab db f.2))(g:∀c∈x.2,zT f.1 (M c)=Z)(n:M x.2<=1000):
  ((∀j,j<Io x.2->(az f.1 (getD x.2 j (zk ze.sl))).1≠0->mK (relAt db f.2) (relAt db f.2).1.q.1 (az f.1 (getD x.2 j (zk ze.sl)))=Q4)/\
   z8 g7 (M x.2*1) (.h11 db (ab db f.2) db (M db:Int) (i:Int) x.1.t.1 (M x.1.t.1:Int) (k:Int) x.2 (M x.2:Int) ((0:Nat):Int) (x,()) (f,()))
    (.h11 db (ab db f.2) db (M db:Int) (i:Int) x.1.t.1 (M x.1.t.1:Int) (k:Int) x.2 (M x.2:Int) (M x.2:Int) (x,()) (f,())))\/
  ((¬∀j,j<M x.2->(az f.1 (W x.2 j (zk ze.sl))).1≠0->mK (relAt db f.2) (relAt db f.2).1.q.1 (az f.1 (W x.2 j (zk ze.sl)))=Z)/\
   ∃r,aF g7 (M x.2*1) (.h11 db (ab db f.2) db (M db:Int) (i:Int) x.1.t.1 (M x.1.t.1:Int) (k:Int) x.2 (M x.2:Int) ((0:Nat):Int) (x,()) (f,())) r/\IsF r):=by
 refine LN (t:=g7) (Φ:=IsF) 1 (λj=>.h11 db (ab db f.2) db (M db:Int) (i:Int) x.1.t.1 (M x.1.t.1:Int) (k:Int) x.2 (M x.2:Int) (j:Int) (x,()) (f,())) (λj=>(az f.1 (W x.2 j (zk ze.sl))).1≠0->mK (relAt db f.2) (relAt db f.2).1.q.1 (az f.1 (W x.2 j (zk ze.sl)))=Z) (M x.2) ?_;intro j b _
 have m:(g7 (.h11 db (ab db f.2) db (M db:Int) (i:Int) x.1.t.1 (M x.1.t.1:Int) (k:Int) x.2 (M x.2:Int) (j:Int) (x,()) (f,()))).val=
   if(cond ((az f.1 (W x.2 j (zk ze.sl))).1!=0) (!mK (relAt db f.2) (relAt db f.2).1.q.1 (az f.1 (W x.2 j (zk ze.sl)))) J)=Z then Y (.inr (.kb J,[]))else
   Y (.inl (.h11 db (ab db f.2) db (M db:Int) (i:Int) x.1.t.1 (M x.1.t.1:Int) (k:Int) x.2 (M x.2:Int) ((j+1:Nat):Int) (x,()) (f,()))):=by
  show(g7 (.h11 _ _ _ _ _ _ _ _ _ _ _ _ _)).val=_;unfold g7;simp only[zt,Q9,z6 b,zx b,g _ (nD b),my l,bB,zj,oS];rw[zf (by simp_all)];rw[zz j um]
 by_cases d:(az f.1 (W x.2 j (zk ze.sl))).1=0
 .grind[z8.of]
 .have a:((az f.1 (W x.2 j (zk ze.sl))).1!=0)=Z:=by simpa using d
  by_cases e:mK (relAt db f.2) (relAt db f.2).1.q.1 (az f.1 (W x.2 j (zk ze.sl)))=Z
  .grind[z8.of]
  .exact .inr ⟨λh=>e (h d),_,aF.of (by rw[m,zf (by rw[a];simpa using e)]),rfl⟩
theorem zgs{db:zH}{x:zX}{i:Nat}(n:∀f∈x.1.t.1,∀a∈x.2,zT f.1 (M a)=Z)(o:M x.2<=1000)(p:M x.1.t.1<=1000):
  let P:Nat->Prop:=λk=>LE.le (α:=Int) 0 (ab db (W x.1.t.1 k (zk zW)).2)/\∀a∈x.2,(az (W x.1.t.1 k (zk zW)).1 a).1≠0->mK (relAt db (W x.1.t.1 k (zk zW)).2) (relAt db (W x.1.t.1 k (zk zW)).2).1.q.1 (az (W x.1.t.1 k (zk zW)).1 a)=Z
  ((∀k,k<M x.1.t.1->P k)/\z8 g7 (M x.1.t.1*1002) (.h5 db db (M db:Int) (i:Int) x.1.t.1 (M x.1.t.1:Int) ((0:Nat):Int) (x,())) (.h5 db db (M db:Int) (i:Int) x.1.t.1 (M x.1.t.1:Int) (M x.1.t.1:Int) (x,())))\/
  ((¬∀k,k<M x.1.t.1->P k)/\∃r,aF g7 (M x.1.t.1*1002) (.h5 db db (M db:Int) (i:Int) x.1.t.1 (M x.1.t.1:Int) ((0:Nat):Int) (x,())) r/\IsF r):=by
 intro P;refine LN (t:=g7) (Φ:=IsF) 1002 (λk=>.h5 db db (M db:Int) (i:Int) x.1.t.1 (M x.1.t.1:Int) (k:Int) (x,())) P (M x.1.t.1) ?_;intro k e _
 have l:(g7 (.h5 db db (M db:Int) (i:Int) x.1.t.1 (M x.1.t.1:Int) (k:Int) (x,()))).val=
   if L (LT.lt (α:=Int) (ab db (W x.1.t.1 k (zk zW)).2) 0)=Z then Y (.inr (.kb J,[]))else
   Y (.inl (.h11 db (ab db (W x.1.t.1 k (zk zW)).2) db (M db:Int) (i:Int) x.1.t.1 (M x.1.t.1:Int) (k:Int) x.2 (M x.2:Int) ((0:Nat):Int) (x,()) (W x.1.t.1 k (zk zW),()))):=by
  show(g7 (.h5 _ _ _ _ _ _ _ _)).val=_;unfold g7;simp only[Q9,z6 e,zx e,bB,zj];rfl
 by_cases b:LE.le (α:=Int) 0 (ab db (W x.1.t.1 k (zk zW)).2)
 .have j:=z8.of (t:=g7) (s:=.h5 db db (M db:Int) (i:Int) x.1.t.1 (M x.1.t.1:Int) (k:Int) (x,())) (by rw[l,zh (by rw[aT];omega)]);rcases Zx (db:=db) (x:=x) (f:=W x.1.t.1 k (zk zW)) (i:=i) (k:=k) b (n _ (nD e)) o with⟨c,d⟩|⟨c,r,d,m⟩
  .have g:(g7 (.h11 db (ab db (W x.1.t.1 k (zk zW)).2) db (M db:Int) (i:Int) x.1.t.1 (M x.1.t.1:Int) (k:Int) x.2 (M x.2:Int) (M x.2:Int) (x,()) (W x.1.t.1 k (zk zW),()))).val=
     Y (.inl (.h5 db db (M db:Int) (i:Int) x.1.t.1 (M x.1.t.1:Int) ((k+1:Nat):Int) (x,()))):=by
    show(g7 (.h11 _ _ _ _ _ _ _ _ _ _ _ _ _)).val=_;unfold g7;simp only[Q9,aw];rw[zz k um];rfl
   refine .inl ⟨⟨b,?_⟩,((j.trans d).trans (z8.of g)).mono S⟩;exact(cO (Q:=λa=>(az (W x.1.t.1 k (zk zW)).1 a).1≠0->mK (relAt db (W x.1.t.1 k (zk zW)).2) (relAt db (W x.1.t.1 k (zk zW)).2).1.q.1 (az (W x.1.t.1 k (zk zW)).1 a)=Z)).1 c
  .refine .inr ⟨λh=>c ?_,r,(j.ends d).mono S,m⟩;grind
 .exact .inr ⟨λh=>b h.1,_,(aF.of (by rw[l,zf (by rw[aT];omega)])).mono S,rfl⟩
theorem IX(p:∀x∈db,∀f∈x.1.t.1,∀a∈x.2,zT f.1 (M a)=Z)(s:∀x∈db,gh x)(y:M db<=13):∃b,yp db=Y (b,())/\(b=Z↔Oa db):=by
 have c:=LN (t:=g7) (Φ:=IsF) 1010000 (λi=>.h2 db db (M db:Int) (i:Int)) (λi=>∀f∈(W db i (zk zl)).1.t.1,LE.le (α:=Int) 0 (ab db f.2)/\∀a∈(W db i (zk zl)).2,(az f.1 a).1≠0->mK (relAt db f.2) (relAt db f.2).1.q.1 (az f.1 a)=Z) (M db) (by
  intro i g _;have o:=nD (d:=zk zl) g;have m:=s _ o;have v:=m.rf;have w:=m.rw;have u:(g7 (.h2 db db (M db:Int) (i:Int))).val=Y (.inl (.h5 db db (M db:Int) (i:Int) (W db i (zk zl)).1.t.1 ((W db i (zk zl)).1.t.1.length:Int) ((0:Nat):Int) (W db i (zk zl),()))):=by
   show(g7 (.h2 _ _ _ _)).val=_;unfold g7;simp only[Q9,z6 g,zx g,bB,zj];rfl
  have l:=z8.of u;rcases zgs (db:=db) (x:=W db i (zk zl)) (i:=i) (p _ o) w v with⟨c,e⟩|⟨c,r,e,j⟩
  .have k:(g7 (.h5 db db (M db:Int) (i:Int) (W db i (zk zl)).1.t.1 ((W db i (zk zl)).1.t.1.length:Int) ((W db i (zk zl)).1.t.1.length:Int) (W db i (zk zl),()))).val=Y (.inl (.h2 db db (M db:Int) ((i+1:Nat):Int))):=by
    show(g7 (.h5 _ _ _ _ _ _ _ _)).val=_;unfold g7;simp only[Q9,aw];rw[zz i um];rfl
   refine .inl ⟨?_,((l.trans e).trans (z8.of k)).mono S⟩;exact(cO (Q:=λf:bV=>LE.le (α:=Int) 0 (ab db f.2)/\∀a∈(W db i (zk zl)).2,(az f.1 a).1≠0->mK (relAt db f.2) (relAt db f.2).1.q.1 (az f.1 a)=Z)).1 c
  .refine .inr ⟨λh=>c ?_,r,(l.ends e).mono S,j⟩;grind)
 have n:(∀i,i<M db->∀f∈(W db i (zk zl)).1.t.1,LE.le (α:=Int) 0 (ab db f.2)/\∀a∈(W db i (zk zl)).2,(az f.1 a).1≠0->mK (relAt db f.2) (relAt db f.2).1.q.1 (az f.1 a)=Z)↔Oa db:=
  cO (Q:=λx:zX=>∀f∈x.1.t.1,LE.le (α:=Int) 0 (ab db f.2)/\∀a∈x.2,(az f.1 a).1≠0->mK (relAt db f.2) (relAt db f.2).1.q.1 (az f.1 a)=Z)
 have g:(znP db).val=Y (.inl (.h2 db db (M db:Int) ((0:Nat):Int))):=rfl;rcases c with⟨c,e⟩|⟨c,r,e,j⟩
 .refine⟨Z,zF g (e.ends (aF.of (r:=(.kb Z,[])) ?_)) S rfl,λ_=>n.1 c,λ_=>rfl⟩;grind[Q9,g7]
 .unfold IsF at j;subst j;exact⟨J,zF g e S rfl,λh=>(by cases h),λh=>zp (n.2 h) c⟩
structure dO (db:zH):Prop where
 few:M db<=12
 names:∀i,i<M db-1->Op.bytesLess (W db i (zk zl)).1.1 (W db (i+1) (zk zl)).1.1=Z
 rels:∀x∈db,eI x
 bound:Oa db
variable {h:zX}
theorem eI.cols(x:eI h):∀f∈h.1.t.1,∀a∈h.2,zT f.1 (M a)=Z:=by grind[gS,may,Bt,fits,tB]
theorem w9{a:zH}(D:∀x∈a,gh x):∃e:Int,sG a=Y (e,())/\(e=0↔dO a):=by
 by_cases E:M a<=12
 case neg=>
  refine⟨13,?_,λh=>(by cases h),λh=>zp h.few E⟩;unfold sG aA b6;simp only[zas,Q9];rw[zf sg];rfl
 have g:(zas a).val=Y (.inl (.h4 a ((0+1:Nat):Int))):=by
  simp only[zas,Q9];rw[zh sg];rfl
 have n:=LN (t:=nT) (Φ:=Err) 1 (λi=>.h4 a ((i+1:Nat):Int)) (λi=>Op.bytesLess (W a i (zk zl)).1.1 (W a (i+1) (zk zl)).1.1=Z) (M a-1) (by
  intro i g _;have F:i<M a:=by omega
  have A:i+1<M a:=by omega
  have y:(nT (.h4 a ((i+1:Nat):Int))).val=if(!Op.bytesLess (W a i (zk zl)).1.1 (W a (i+1) (zk zl)).1.1)=Z then Y (.inr (I 15,[]))else Y (.inl (.h4 a ((i+1+1:Nat):Int))):=by
   show(nT (.h4 _ _)).val=_;unfold nT;simp only[uG i um];simp only[Q9,z6 A,zx A,zx F,bB,zj];rw[zz (i+1) um]
  by_cases h:Op.bytesLess (W a i (zk zl)).1.1 (W a (i+1) (zk zl)).1.1=Z
  .grind[z8.of]
  .exact .inr ⟨h,_,aF.of (by rw[y,zf (by simpa using h)]),15,rfl,by decide⟩)
 rcases n with⟨w,n⟩|⟨w,r,n,e,m,j⟩
 case inr=>
  subst m;exact⟨e,zF g n S rfl,λh=>zp h j,λh=>zp h.names w⟩
 have z:(nT (.h4 a ((M a-1+1:Nat):Int))).val=Y (.inl (.h9 a a (M a:Int) ((0:Nat):Int))):=by
  show(nT (.h4 _ _)).val=_;unfold nT;simp only[Q9];rw[zh sg];rfl
 have s:=n.trans (z8.of z);have l:=LN (t:=nT) (Φ:=Err) 1 (λi=>.h9 a a (M a:Int) (i:Int)) (λi=>eI (W a i (zk zl))) (M a) (by
  intro i g _;have⟨e,m,v⟩:=KW (D _ (nD (d:=zk zl) g));have u:HB (W a i (zk zl))=Z:=by unfold HB;rw[m];rfl
  have k:Nw (W a i (zk zl))=e:=by unfold Nw;rw[m];rfl
  have y:(nT (.h9 a a (M a:Int) (i:Int))).val=if(e !=0)=Z then Y (.inr (I e,[]))else Y (.inl (.h9 a a (M a:Int) ((i+1:Nat):Int))):=by
   show(nT (.h9 _ _ _ _)).val=_;unfold nT;simp only[zt,Q9,z6 g,zx g,bB,zj,aJ,u,k];rw[zz i um]
  by_cases h:e=0
  .grind[z8.of]
  .exact .inr ⟨λp=>h (v.2 p),_,aF.of (by rw[y,zf (by simpa using h)]),e,rfl,h⟩)
 rcases l with⟨p,l⟩|⟨p,r,l,e,m,j⟩
 case inr=>
  subst m;exact⟨e,zF g (s.ends l) S rfl,λh=>zp h j,λh=>zp ((cO (Q:=eI)).2 h.rels) p⟩
 have c:=(cO (Q:=eI)).1 p;have⟨b,C,o⟩:=IX (db:=a) (λx H=>(c x H).cols) D S;have u:F6 a=Z:=by unfold F6;rw[C];rfl
 have k:LZ a=b:=by unfold LZ;rw[C];rfl
 have q:(nT (.h9 a a (M a:Int) (M a:Int))).val=if(!b)=Z then Y (.inr (I 10,[]))else Y (.inr (I 0,[])):=by
  show(nT (.h9 _ _ _ _)).val=_;unfold nT;simp only[Q9,aw,u,k,zj];rfl
 by_cases h:b=Z
 .exact⟨0,zF g (s.ends (l.ends (aF.of (by rw[q,zh (by rw[h];simp)])))) S rfl,λ_=>⟨E,w,c,o.1 h⟩,λ_=>rfl⟩
 .exact⟨10,zF g (s.ends (l.ends (aF.of (by rw[q,zf (by simpa using h)])))) S rfl,λh=>(by cases h),λG=>zp (o.2 G.bound) h⟩
variable {d:zH}
theorem ng(a:∀x∈d,gh x):jS d=Z:=by have⟨e,h,_⟩:=w9 a;unfold jS;rw[h];rfl
theorem iN(b:∀x∈d,gh x):fI d=(0:Int)↔dO d:=by have⟨e,h,a⟩:=w9 b;unfold fI;rw[h];exact a
abbrev y11(a:N zl.sl)(h:aG):zn bF:=(a,h,([],[],0,[],[],zg.mk [] (0,0,[]) [] []),([],[],0,[],[],zg.mk [] (0,0,[]) [] []),h.1,h.q.1,h.p,h.2.1,0,h.x.1,0,())
theorem GJ(d:N zl.sl)(h:aG):zhg d h=(let e:=mC (y11 d h)
  let a:=Fk e.2
  let b:=Fl e.2
  let c:=we e.2
  Fd d h h.x.1 h (!gA h) (lh h&&bif !gA h then Z else jS d) (cond (!gA h) Z (fI d !=0)) (oI 16 h.x.1) (y11 d h) (mD (y11 d h)) e (e.1==0) e.2 a a.2 (fA a.2) b b.2 (fA b.2) c c.2 (fA c.2)):=by unfold zhg;simp only[Vz,O4,zt]
abbrev Xw(z:zn al):an:=(z.t.1,z.u.1,z.v.1,(z.w.1,z.x.1,z.y.1,[],[],z.z.1),z.s.1,z.p.1)
abbrev mI:an:=([],[],[],([],[],0,[],[],zg.mk [] (0,0,[]) [] []),[],0)
def aO(db:zH)(n:zD):am:=(W db (Int.toNat (ab db n)) (zk zl)).1
abbrev zt3:am:=([],[],0,[],[],zg.mk [] (0,0,[]) [] [])
def eQ(db:zH)(n:zD):am:=if n=[]then zt3 else aO db n
def nB(e:Int)(p:an):Int×an:=if e=0 then(ite (wC p.r.1=0) (0,p) (wC p.r.1,mI))else(e,mI)
def cm(db:zH)(s:aG):Int×an:=
 if(s.1==eR)=Z then
  nB (sT (aO db s.q.1) s.r.1) (s.1,s.q.1,s.p,(s.2.1,fy (aO db s.q.1) s.r.1,jM (xz (aO db s.q.1) s.r.1) (aO db s.q.1).q.1,[],[],s.x.1),xz (aO db s.q.1) s.r.1,0)
 else if(s.1==iK)=Z then
  nB (fY (aO db s.q.1) (eQ db s.p) s.u.1 s.p)
   (s.1,s.q.1,s.p,(s.2.1,(aO db s.q.1).2.1++nM (eQ db s.p) (M (eQ db s.p).2.1),(aO db s.q.1).q.1,[],[],s.x.1),
    tU (eQ db s.p).q.1 (M (eQ db s.p).2.1),ah (aO db s.q.1) s.u.1)
 else if(s.1==yu)=Z then
  nB (qT (aO db s.q.1) s.r.1) (s.1,s.q.1,s.p,(s.2.1,yh (aO db s.q.1) s.r.1,0,[],[],s.x.1),xz (aO db s.q.1) s.r.1,0)
 else(1,mI)
def bb(db:zH)(s:aG):Int×an:=
 if jL s.1/\gA s=Z/\fI db=(0:Int)then(ite (wz db s.q.1 s.p s.2.1=0) (cm db s) (wz db s.q.1 s.p s.2.1,mI))else(1,mI)
variable {a:aG}
theorem gW(h:gA a=Z):iW a=Z:=by grind[gA,si]
variable {s:zD}
theorem Br(h:(0:Int)<=ab db s):db.getD (Int.toNat (ab db s)) (zk zl)∈db:=by grind[my,zT]
theorem Ny(e:Int):bc [] [ao,zi] (tup [agg ([X [],X [],X [],X [],nils,I 0,nils,nils]++zE++[nils,I 0]),I e])=Y (mI,e,()):=rfl
theorem ziI(z:zn al):bc [AO.vec zu z.x.1] [ao,zi] (tup [agg ([X z.t.1,X z.u.1,X z.v.1,X z.w.1,AV.vec 0,I z.y.1,nils,nils]++xE z.z.1++[O zi z.s.1,I z.p.1]),I 0])=Y (Xw z,0,()):=by have⟨d,e,g,i,j,k,l,m,n,o,h,a,b,c⟩:=z;cases h;rfl
def PlS(x:N zl.sl)(h:aG):Prop:=G8 x h=Y ((bb x h).2,(bb x h).1,())
variable {x:N zl.sl}{e:Int}
theorem ziB{o:Option (zA (List.map Y [ao,zi]))}(h:o=Y (mI,e,()))(b:bb x a=(e,mI)):o=Y ((bb x a).2,(bb x a).1,()):=by rw[b];exact h
theorem PR(g:lh a=Z)(e:jS x=Z)(h:(cond (!gA a) Z (fI x !=0))=Z):PlS x a:=by
 have d:(lh a&&bif !gA a then Z else jS x)=Z:=by rw[g,e];cases gA a<;>rfl
 have i:bb x a=(1,mI):=by
  unfold bb;rw[zh];rintro⟨_,b,c⟩;rw[b]at h;simp[c]at h
 refine ziB ?_ i;unfold G8 aA b6;rw[GJ];simp only[Fd,Q9,d,h,zj];by_cases o1:(a.1==eR)=Z
 .simp only[o1,zj];rfl
 .by_cases o2:(a.1==iK)=Z
  .simp only[o1,o2,zj];rfl
  .by_cases o3:(a.1==yu)=Z
   .simp only[o1,o2,o3,zj];rfl
   .simp only[o1,o2,o3];rfl
theorem ziC{j:N zl.sl}{y:zn bF}{z:zn al}{c:aU}{i:List Int}{o:Int}(k:y.t=(y11 j a).t)(g:mZ y z)
  (d:z.z.1=y.y.1) (v:nY z c e i o):Xw z=(a.1,a.q.1,a.p,(a.2.1,c,e,[],[],a.x.1),i,o):=by have⟨_,_,_,_,h,b,l,m⟩:=g;have n:z.t.1=a.1:=h.trans (congrArg (·.1) k);have s:z.u.1=a.q.1:=b.trans (congrArg (·.2.1) k);grind[nY.cols,nY.key,nY.ix,nY.on]
theorem Xt(x2:∀b∈x,gh b)(hl:M x<=13)(hs:QD a):PlS x a:=by
 by_cases hg:jL a.1;rotate_left
 .have o1:(a.1==eR)=J:=by simpa using λk=>hg (.inl k)
  have o2:(a.1==iK)=J:=by simpa using λk=>hg (.inr (.inl k))
  have o3:(a.1==yu)=J:=by simpa using λk=>hg (.inr (.inr k))
  refine ziB (e:=1) ?_ (by unfold bb;rw[zh λh=>hg h.1]);unfold G8 aA b6;rw[GJ];simp only[Fd,Q9,o1,o2,o3];rfl
 have hM:=xN hs.sh hg;have hB:=ng x2;by_cases m:(cond (!gA a) Z (fI x !=0))=Z
 .exact PR hM hB m
 have h3:(lh a&&bif !gA a then Z else jS x)=Z:=by rw[hM,hB];cases gA a<;>rfl
 have h6:gA a=Z:=by
  cases h:gA a
  .rw[h]at m;simp at m
  .rfl
 have h9:fI x=(0:Int):=by
  rw[h6]at m;simpa using m
 have h2:=gW h6;have h7:=((iN x2).1 h9).rels;have⟨e8,y,h8,k1,k2,k3,k5,k4⟩:=Ko (y11 x a) (by show M x<=_;omega);have s8:mC (y11 x a)=(e8,y):=by unfold mC;rw[h8];rfl
 have c8:mD (y11 x a)=Z:=by unfold mD;rw[h8];rfl
 have k5:e8=wz x a.q.1 a.p a.2.1:=k5;have hS:jL a.1->bb x a=if e8=0 then cm x a else(e8,mI):=by
  intro h;unfold bb;rw[zf ⟨h,h6,h9⟩,k5]
 unfold PlS G8 aA b6;rw[GJ];simp only[Fd,Q9,h3,m,hs.cp,s8,c8,zj];by_cases D:e8=0
 .have U:=k4 D;have n2:y.2.1=a:=k2;have n1:y.1=x:=k1;have nk:y.x.1=(0:Int):=congrArg (·.2.r.1) k3;have x3:y.z.1=(0:Int):=congrArg (·.2.u.1) k3;have nw:y.v.1=a.p:=congrArg (·.2.2.1) k3;have c:y.q.1=aO x a.q.1:=U.t.1;have o:y.r.1=eQ x a.p:=U.u;have h5:=gS (h7 _ (Br (db:=x) (s:=a.q.1) U.1)).may;rw[show(getD x (Int.toNat (ab x a.q.1)) (zk zl)).1=y.q.1 from c.symm]at h5;have x5:Io y.r.1.2.1<=100:=by
   rw[o];unfold eQ;split
   .simp
   .grind[gS,eI.may,Br,aO]
  have x4:(e8==0)=Z:=by simpa using D
  simp only[x4,zj];by_cases o1:(a.1==eR)=Z
  .have P:jL a.1:=Or.inl (aY o1);have⟨z,d,hk,H,n,F⟩:=WB y (by rw[n2];have:=hs.sh.names.1;omega);rw[n2,c,x3]at F;rw[n2,c]at d;generalize G:sT (aO x a.q.1) a.r.1=j at d F;have h0:Fk y=(j,z):=by unfold Fk;rw[d];rfl
   have w:GU y=Z:=by unfold GU;rw[d];rfl
   have i:=hS P;rw[zf D]at i;unfold cm at i;rw[zf o1,G]at i;simp only[o1,h0,w,zj];by_cases e0:j=0
   .have hz:=ziC k3 hk H (F e0);have g:=rY z n;have hT:Qu z=(Xw z).r.1:=rfl;rw[hT,hz]at g;unfold nB at i;rw[zf e0]at i;generalize h4:wC _=l at g i;have h1:fA z=(l,z):=by unfold fA;rw[g];rfl
    have A:gw z=Z:=by unfold gw;rw[g];rfl
    have C:(j==0)=Z:=by simpa using e0
    simp only[C,h1,A,zj];by_cases f0:l=0
    .have E:(l !=0)=J:=by simp[f0]
     simp only[E];rw[zf f0]at i;rw[i];exact(ziI z).trans (by rw[hz])
    grind[Ny]
   grind[nB,Ny]
  .by_cases o2:(a.1==iK)=Z
   .have P:jL a.1:=Or.inr (Or.inl (aY o2));have⟨z,d,hk,H,n,F⟩:=WC y (by have:=h5.r.1;omega) x5;rw[n2,nw,c,o]at F;rw[n2,nw,c,o]at d;generalize G:fY (aO x a.q.1) (eQ x a.p) a.u.1 a.p=j at d F;have h0:Fl y=(j,z):=by unfold Fl;rw[d];rfl
    have w:GW y=Z:=by unfold GW;rw[d];rfl
    have i:=hS P;rw[zf D]at i;unfold cm at i;rw[zh o1,zf o2,G]at i;simp only[o1,o2,h0,w,zj];by_cases e0:j=0
    .have hz:=ziC k3 hk H (F e0);have g:=rY z n;have hT:Qu z=(Xw z).r.1:=rfl;rw[hT,hz]at g;unfold nB at i;rw[zf e0]at i;generalize h4:wC _=l at g i;have h1:fA z=(l,z):=by unfold fA;rw[g];rfl
     have A:gw z=Z:=by unfold gw;rw[g];rfl
     have C:(j==0)=Z:=by simpa using e0
     simp only[C,h1,A,zj];by_cases f0:l=0
     .have E:(l !=0)=J:=by simp[f0]
      simp only[E];rw[zf f0]at i;rw[i];exact(ziI z).trans (by rw[hz])
     grind[Ny]
    grind[nB,Ny]
   .by_cases o3:(a.1==yu)=Z
    .have P:jL a.1:=Or.inr (Or.inr (aY o3));have⟨z,d,hk,H,n,F⟩:=SA y (by rw[n2];exact jl h2 (aY o3));rw[n2,c,x3,nk]at F;rw[n2,c]at d;generalize G:qT (aO x a.q.1) a.r.1=j at d F;have h0:we y=(j,z):=by unfold we;rw[d];rfl
     have w:yH y=Z:=by unfold yH;rw[d];rfl
     have i:=hS P;rw[zf D]at i;unfold cm at i;rw[zh o1,zh o2,zf o3,G]at i;simp only[o1,o2,o3,h0,w,zj];by_cases e0:j=0
     .have hz:=ziC k3 hk H (F e0);have g:=rY z n;have hT:Qu z=(Xw z).r.1:=rfl;rw[hT,hz]at g;unfold nB at i;rw[zf e0]at i;generalize h4:wC _=l at g i;have h1:fA z=(l,z):=by unfold fA;rw[g];rfl
      have A:gw z=Z:=by unfold gw;rw[g];rfl
      have C:(j==0)=Z:=by simpa using e0
      simp only[C,h1,A,zj];by_cases f0:l=0
      .have E:(l !=0)=J:=by simp[f0]
       simp only[E];rw[zf f0]at i;rw[i];exact(ziI z).trans (by rw[hz])
      grind[Ny]
     grind[nB,Ny]
    grind
 grind[Ny]
theorem BI{α β:Type}(f:α->β)(p:β->Bool):∀(l:List α)(i:Nat),aj p (l.map f) i=aj (λx=>p (f x)) l i
 |[],_=>rfl
 |x::r,i=>by simp only[dc,aj,BI f p r]
set_option maxHeartbeats 1000000
theorem gD:∀{a b c:zD},Op.bytesLess a b=Z->Op.bytesLess b c=Z->Op.bytesLess a c=Z
 |_,[],_,h,_=>by cases‹zD›<;>simp[Op.bytesLess]at h
 |_,_::_,[],_,h=>by simp[Op.bytesLess]at h
 |[],_::_,_::_,_,_=>rfl
 | a::x,b::y,c::z,h,g=>by
  simp only[Op.bytesLess,iJ,aT,ar,be]at h g|-;rcases h with h|⟨rfl,h⟩
  .rcases g with g|⟨rfl,g⟩
   .exact .inl (UInt8.lt_trans h g)
   .exact .inl h
  .rcases g with g|⟨rfl,g⟩
   .exact .inl g
   .exact .inr ⟨rfl,gD h g⟩
def Lx(p q:Int×Int×zD):Prop:=p.1<q.1\/(p.1=q.1/\(p.2.1<q.2.1\/(p.2.1=q.2.1/\Op.bytesLess p.q q.q=Z)))
variable {p:Int×Int×zD}
theorem Lx.trans{q r:Int×Int×zD}(h:Lx p q)(g:Lx q r):Lx p r:=by
 unfold Lx at*;rcases h with h|⟨b,h|⟨c,h⟩⟩<;>rcases g with g|⟨x,g|⟨a,g⟩⟩
 .exact .inl S
 .exact .inl S
 .exact .inl S
 .exact .inl S
 .exact .inr ⟨S,.inl S⟩
 .exact .inr ⟨S,.inl S⟩
 .exact .inl S
 .exact .inr ⟨S,.inl S⟩
 .exact .inr ⟨S,.inr ⟨S,gD h g⟩⟩
theorem Lx.irrefl:¬Lx p p:=by
 unfold Lx;rw[eK];rintro(h|⟨_,h|⟨_,h⟩⟩)
 .omega
 .omega
 .cases h
theorem OH(a b:Int):Dq a b=if a<b then -1 else if b<a then 1 else 0:=by show(ite ((a !=a)=Z) _ (ite ((b !=b)=Z) (1:Int) (ite (L (a<b)=Z) (-1) (ite (L (a>b)=Z) 1 0))))=_;simp
theorem Uq(a b:Int):qY a b=if a<b then -1 else if b<a then 1 else 0:=OH a b
theorem ZJ(a b:zD):(uQ a b=-1/\Op.bytesLess a b=Z)\/(uQ a b=0/\a=b)\/(uQ a b=1/\Op.bytesLess a b=J):=by
 have:uQ a b=if Op.bytesLess a b=Z then -1 else if(!(Op.bytesLess a b||a==b))=Z then 1 else 0:=by
  show(ite ((!a==a)=Z) _ (ite ((!b==b)=Z) (1:Int) (ite (Op.bytesLess a b=Z) (-1) (ite ((!(Op.bytesLess a b||a==b))=Z) 1 0))))=_;simp
 rw[this];cases h:Op.bytesLess a b with
 |true=>exact .inl ⟨rfl,rfl⟩
 | false=>
  by_cases e:a=b
  .exact .inr (.inl ⟨by simp[e],e⟩)
  .exact .inr (.inr ⟨by simp[e],rfl⟩)
theorem ziz(k n x a:Int)(s b:zD):(Nk [Dq k x,qY n a,uQ s b]<0)↔Lx (k,n,s) (x,a,b):=by
 show _↔(k<x\/(k=x/\(n<a\/(n=a/\Op.bytesLess s b=Z))));rw[OH,Uq];simp only[Nk];have i:=eK b;rcases Int.lt_trichotomy k x with h|h|h
 .simp[h]
 .subst h;rcases Int.lt_trichotomy n a with g|g|g
  .simp[g]
  .subst g;rcases ZJ s b with⟨e,f⟩|⟨e,f⟩|⟨e,f⟩
   .simp[e,f]
   .subst f;simp[e,i]
   .simp[e,f]
  .have:¬n<a:=by omega
   have:n≠a:=by omega
   simp[*]
 .have:¬k<x:=by omega
  have:k≠x:=by omega
  simp[*]
theorem uC{g j:zw}:Aj g j↔Lx (bw g) (bw j):=ziz (bw g).1 (bw g).2.1 (bw j).1 (bw j).2.1 (bw g).q (bw j).q
theorem fT{a b c:zw}(h:Aj a b)(g:Aj b c):Aj a c:=uC.2 ((uC.1 h).trans (uC.1 g))
theorem gP{a:zw}:¬Aj a a:=λh=>Lx.irrefl (uC.1 h)
theorem ue{α:Type}{R:α->α->Prop}(n:∀{a b c},R a b->R b c->R a c){d:α}:∀{l:List α},(∀i,i<M l-1->R (l.getD i d) (l.getD (i+1) d))↔l.Pairwise R
 |[]=>by simp
 |[a]=>by simp
 | a::b::r=>by
  have m:=ue (R:=R) n (d:=d) (l:=b::r);constructor
  .intro h;have e:=h 0 sw;have g:(b::r).Pairwise R:=m.1 λi j=>h (i+1) (by simp only[bx]at j|-;omega)
   refine List.pairwise_cons.2 ⟨λx k=>?_,g⟩;rcases bD.1 k with rfl|k
   .exact e
   .exact n e ((List.pairwise_cons.1 g).1 x k)
  .intro h i j;have⟨e,g⟩:=List.pairwise_cons.1 h;cases i with
   |zero=>exact e b sw
   |succ i=>exact m.2 g i (by simp only[bx]at j|-;omega)
def kLt(k:Int)(a b:zo):Prop:=Aj (az k a) (az k b)
theorem eI.pw(x:eI h):h.2.Pairwise (kLt h.1.q.1):=(ue (R:=kLt h.1.q.1) fT).1 x.rise
variable {b:List zo}
theorem eI.sub{t:am}{l:List zo}(h:eI (t,b))(x:List.Sublist l b):eI (t,l) where
 may:=h.may
 few:=aB x.length_le h.few
 fits:=λr a=>h.fits r (x.subset a)
 key:=List.Pairwise.sublist x h.key
 uniq:=λu c=>List.Pairwise.sublist x (h.uniq u c)
 rise:=(ue (R:=kLt t.q.1) fT).2 (List.Pairwise.sublist x h.pw)
theorem Fo(d:zH)(i:Nat):(d.getD i (zk zl)).1=(d.map (·.1)).getD i (zk zl).1:=by rw[bf,bf,b8];cases d[i]?<;>rfl
theorem Ay(d:zH)(s:zD):ab d s=aj (λt:am=>t.1==s) (d.map (·.1)) 0:=(BI (λx:zX=>x.1) (λt:am=>t.1==s) d 0).symm
theorem WE(x:(d.getD i (zk zl)).1=h.1):(d.set i h).map (·.1)=d.map (·.1):=by
 rw[List.map_set];refine kE λj=>?_
 rw[oh];by_cases e:i=j
 .subst e;rw[zf rfl];by_cases a:i<(d.map (·.1)).length
  .rw[zf a,zQ a,<-x];congr 1;have b:i<M d:=by simpa using a
   rw[bf,zQ b,List.getElem_map];rfl
  .rw[zh a,eA S]
 .rw[zh e]
theorem dO.put(x:dO d)(e:(d.getD i (zk zl)).1=h.1)(g:eI h)(c:Oa (d.set i h)):dO (d.set i h) where
 few:=by rw[wZ];exact x.few
 names:=λj b=>by
  rw[wZ]at b;have:=x.names j b;rw[Fo,Fo]at this|-
  rwa [WE e]
 rels:=λy a=>by
  rcases IS a with a|rfl
  .exact x.rels y a
  .exact g
 bound:=c
theorem Pt(h:b.Pairwise (kLt e)):(b.map (az e)).Pairwise (·≠·):=by rw[List.pairwise_map];exact h.imp λ{a c} d(x:az e a=az e c)=>gP (a:=az e c) (by have:=d;unfold kLt at this;rwa [x]at this)
theorem jv:∀{a b:zD},Op.bytesLess a b=J->a≠b->Op.bytesLess b a=Z
 |[],[],_,h=>zp rfl h
 |[],_::_,h,_=>by simp[Op.bytesLess]at h
 |_::_,[],_,_=>rfl
 | a::x,b::y,h,hn=>by
  simp only[Op.bytesLess,Bool.or_eq_false_iff,ef,Bool.and_eq_false_iff,fH,iJ,aT,ar,be]at h|-;by_cases e:a=b
  .subst e;refine .inr ⟨rfl,jv (h.2.resolve_left λg=>g rfl) λg=>hn (by rw[g])⟩
  .exact .inl (UInt8.lt_of_le_of_ne (UInt8.not_lt.1 h.1) (Ne.symm e))
theorem xJ(c:Int):qw c=Y (bh c,()):=by
 unfold qw aA b6;simp only[zdy,Q9,bh];by_cases h:97<=c
 .have e:L (97<=c)=Z:=zL h;have x:L (c<=90)=J:=aQ S;have a:L (65<=c)=Z:=zL S;simp[e,x,a];rfl
 .have e:L (97<=c)=J:=aQ h;simp[e];rfl
theorem pK(c:Int):mJ c=Z:=by unfold mJ;rw[xJ];rfl
theorem se(c:Int):pJ c=bh c:=by unfold pJ;rw[xJ];rfl
theorem Cv(c:Int):Cu c=Y (aM c,()):=rfl
theorem sb(c:Int):kW c=Z:=by unfold kW;rw[Cv];rfl
theorem wn(c:Int):lP c=aM c:=by unfold lP;rw[Cv];rfl
theorem Fv(c:Int):yS c=Y (dd c,()):=by unfold yS aA b6;simp only[zdz,Q9,sb,wn,pK,se,dd];cases aM c<;>cases bh c<;>rfl
theorem SP(c:Int):yR c=Z:=by unfold yR;rw[Fv];rfl
theorem XL(c:Int):Hw c=dd c:=by unfold Hw;rw[Fv];rfl
theorem Km(p:Int->Bool):∀s:zD,kS p s=M s↔∀c∈s,p c.toNat=Z
 |[]=>by simp[kS]
 | c::r=>by
  have i:=Km p r;rw[kS];by_cases h:p c.toNat=Z
  .rw[zf h];simp only[bx,bD,forall_eq_or_imp];constructor
   .intro x;exact⟨h,i.1 S⟩
   .intro x;rw[i.2 x.2]
  .rw[zh h];simp only[bx,bD,forall_eq_or_imp];exact⟨λx=>zp x S,λx=>zp x.1 h⟩
theorem Kn(h:bh e=Z):dd e=Z:=by unfold dd;rw[h];rfl
theorem FU(s:zD):me s=Z↔(1<=M s/\M s<=16/\bh (W s 0 0).toNat=Z/\∀c∈s,dd c.toNat=Z):=by
 unfold me;cases s with
 |nil=>simp
 | cons c r=>
  have j:L (((c::r).length:Int)>=1)=Z:=zL sg;rw[j];by_cases h:(c::r).length<=16
  .have e:L (((c::r).length:Int)<=16)=Z:=zL S;rw[e];simp only[bU];have i:=Km dd r;by_cases b:bh c.toNat=Z
   .have g:bn bh dd (c::r)=kS dd r+1:=by rw[bn,zf b]
    rw[g];constructor
    .intro a;have:kS dd r=M r:=by simp at a;omega
     refine⟨sw,h,b,?_⟩;intro x d;rcases bD.1 d with rfl|d
     .exact Kn b
     .exact i.1 this x d
    .rintro⟨_,_,_,k⟩;have:=i.2 (λx d=>k x (og _ d));simp[this]
   .have g:bn bh dd (c::r)=0:=by rw[bn,zh b]
    rw[g];constructor
    .intro a;simp at a;omega
    .rintro⟨_,_,a,_⟩;exact zp a b
  .have e:L (((c::r).length:Int)<=16)=J:=aQ S;rw[e];simp only[bU,bT];exact⟨λh=>(by cases h),λa=>zp a.2.1 h⟩
theorem Fu(w:M s<=1000000):Hv s=Y (fg s,()):=by
 have u:=LN (t:=up) (Φ:=λr=>r=(.kb J,[])) 1 (λi=>.h2 s (i:Int)) (λi=>dd (W s i 0).toNat=Z) (M s) (by
  intro i a _;have n:(up (.h2 s (i:Int))).val=if(!dd (W s i 0).toNat)=Z then Y (.inr (.kb J,[]))else Y (.inl (.h2 s ((i+1:Nat):Int))):=by
   show(up (.h2 _ _)).val=_;unfold up;simp only[Q9,z6 a,zx a,bB,SP,XL,zj];rw[zz i um]
  by_cases h:dd (W s i 0).toNat=Z
  .exact .inl ⟨h,z8.of (by rw[n,zh (by rw[h];simp)])⟩
  .exact .inr ⟨h,_,aF.of (by rw[n,zf (by simpa using h)]),rfl⟩)
 have a:(zdx s).val=Y (.inl (.h2 s ((0:Nat):Int))):=rfl;have m:=cO (l:=s) (d:=0) (Q:=λc=>dd c.toNat=Z);have o:=FU s;rcases u with⟨g,j⟩|⟨g,r,j,rfl⟩
 .refine zF a (j.ends (aF.of (r:=(.bool (fg s),[])) ?_)) S rfl;show(up (.h2 _ _)).val=_;unfold up;simp only[Q9,aw,pK,se];have e:fg s=(cond (L (1<=(M s:Int))) (cond (L ((M s:Int)<=16)) (bh (W s (Int.toNat 0) 0).toNat) J) J):=by
   apply Ar.2;unfold fg;rw[o];by_cases k:1<=M s
   .have x:L (1<=(M s:Int))=Z:=zL S;rw[x];by_cases p:M s<=16
    .have b:L ((M s:Int)<=16)=Z:=zL S;rw[b];exact⟨λh=>h.q.1,λh=>⟨k,p,h,m.1 g⟩⟩
    .have b:L ((M s:Int)<=16)=J:=aQ S;rw[b];exact⟨λh=>zp h.2.1 p,λh=>(by cases h)⟩
   .have x:L (1<=(M s:Int))=J:=aQ S;rw[x];exact⟨λh=>zp h.1 k,λh=>(by cases h)⟩
  rw[e];by_cases k:1<=M s
  .have e0:zT 0 (M s)=Z:=zx (i:=0) S;rw[e0];cases L (1<=(M s:Int))<;>cases L ((M s:Int)<=16)<;>rfl
  .have x:L (1<=(M s:Int))=J:=aQ S;rw[x];rfl
 .have e:fg s=J:=by
   cases v:fg s with
   |false=>rfl
   |true=>exact zp (m.2 (o.1 v).r) g
  rw[e];exact zF a j S rfl
theorem SO(h:M s<=1000000):Hu s=Z:=by unfold Hu;rw[Fu h];rfl
theorem XK(h:M s<=1000000):Nv s=fg s:=by unfold Nv;rw[Fu h];rfl
inductive zvw where
 |h6 (l1:LC) (l2:LV) (i7:Int) (z0:zn [CP.d Sh.expr]) (z1:zn [CP.d Q])
inductive zv2 where
 |h5 (i3:Int) (i4:Int) (z0:zn [CP.d zN])
 |h11 (i3:Int) (i6:Int) (z0:zn [CP.d zN])
 |h16 (i3:Int) (i7:Int) (z0:zn [CP.d zN])
def UM:=UL
theorem Mp:zm UM:=Mo
mutual
def mh:zg->Prop
 |.mk _ v s l=>Ap v/\M s<=1000000/\g8 l
def g8:List zg->Prop
 |[]=>True
 |e::r=>mh e/\g8 r
end
theorem g8.mem:∀{l:List zg},g8 l->∀e∈l,mh e
 |[],_,e,h=>by simp at h
 | x::r,h,e,a=>by
  rw[g8]at h;rcases bD.1 a with rfl|a
  .exact h.1
  .exact g8.mem h.2 e a
def zbv(o:zD):Bool:=bif o==lq then Z else bif o==Dg then Z else bif o==[61]then Z else bif o==[60]then Z else bif o==[43]then Z else o==[45]
def cA:Nat->zg->Bool
 |0,_=>J
 | d+1,.mk o v s l=>
  if(o==sJ)=Z then(cond (aP v) (cond (s==[]) ((M l:Int)==0) J) J)else
  if(o==ic)=Z then(cond (ec v) (cond (fg s) (cond (!mM s) ((M l:Int)==0) J) J) J)else
  if(cond (o==sK) Z (o==xY))=Z then(cond (ec v) (cond (s==[]) (match l with|[a]=>cA d a|_=>J) J) J)else
  if zbv o=Z then(cond (ec v) (cond (s==[]) (match l with|[a,b]=>bif cA d a then cA d b else J|_=>J) J) J)else J
def nE:Nat->zg->Nat
 |0,_=>0
 |d+1,.mk _ _ _ l=>1+(l.map (nE d)).sum
theorem Tj(h:zbv s=Z):s=lq\/s=Dg\/s=[61]\/s=[60]\/s=[43]\/s=[45]:=by
 unfold zbv at h;rcases fU (s==lq)with c|c
 .exact .inl (aY c)
 rcases fU (s==Dg)with x|x
 .exact .inr (.inl (aY x))
 rcases fU (s==[61])with a|a
 .exact .inr (.inr (.inl (aY a)))
 rcases fU (s==[60])with b|b
 .exact .inr (.inr (.inr (.inl (aY b))))
 rcases fU (s==[43])with d|d
 .exact .inr (.inr (.inr (.inr (.inl (aY d)))))
 rcases fU (s==[45])with e|e
 .exact .inr (.inr (.inr (.inr (.inr (aY e)))))
 rw[c,x,a,b,d,e]at h;cases h
inductive TM (d:Nat):zg->Prop
 |lit (v:Int×Int×zD) (h:aP v=Z):TM d (.mk sJ v [] [])
 |col (s:zD) (h:fg s=Z) (h2:mM s=J):TM d (.mk ic (0,0,[]) s [])
 |one (op:zD) (a:zg) (h:op=sK\/op=xY) (ha:cA d a=Z):TM d (.mk op (0,0,[]) [] [a])
 |two (op:zD) (a b:zg) (h:op=lq\/op=Dg\/op=[61]\/op=[60]\/op=[43]\/op=[45]) (ha:cA d a=Z) (hb:cA d b=Z):TM d (.mk op (0,0,[]) [] [a,b])
theorem tE(h:ec p=Z):p=(0,0,[]):=by have⟨a,b,c⟩:=p;unfold ec at h;simp at h;obtain⟨rfl,rfl,rfl⟩:=h;rfl
theorem ap{a b:Bool}(h:(cond a b J)=Z):a=Z/\b=Z:=by cases a<;>cases b<;>simp_all
theorem SC(h:(cond (s==sK) Z (s==xY))=Z):s=sK\/s=xY:=by
 rcases fU (s==sK)with k|k
 .exact .inl (aY k)
 .rw[k]at h;exact .inr (aY h)
theorem gL:∀{e:zg},cA (i+1) e=Z->TM i e
 | .mk o v s [],h=>by
  simp only[cA]at h;split at h
  next c=>have⟨g,j⟩:=ap h;have⟨k,l⟩:=ap j;rw[aY c,aY k];exact .lit v g
  split at h
  next c=>have⟨g,j⟩:=ap h;have⟨k,l⟩:=ap j;have⟨n,t⟩:=ap l;rw[aY c,tE g];exact .col s k (by simpa using n)
  split at h
  .cases x:ec v<;>cases d:(s==[])<;>simp[x,d]at h
  split at h
  .cases x:ec v<;>cases d:(s==[])<;>simp[x,d]at h
  .cases h
 | .mk o v s [a],h=>by
  simp only[cA]at h;split at h
  .cases x:aP v<;>cases d:(s==[])<;>simp[x,d]at h
  split at h
  .cases x:ec v<;>cases d:fg s<;>cases m:mM s<;>simp[x,d,m]at h
  split at h
  next c=>have⟨g,j⟩:=ap h;have⟨k,l⟩:=ap j;rw[aY k,tE g];exact .one o a (SC c) l
  split at h
  .cases x:ec v<;>cases d:(s==[])<;>simp[x,d]at h
  .cases h
 | .mk o v s [a,b],h=>by
  simp only[cA]at h;split at h
  .cases x:aP v<;>cases d:(s==[])<;>simp[x,d]at h
  split at h
  .cases x:ec v<;>cases d:fg s<;>cases m:mM s<;>simp[x,d,m]at h
  split at h
  .cases x:ec v<;>cases d:(s==[])<;>simp[x,d]at h
  split at h
  next c=>have⟨g,j⟩:=ap h;have⟨k,l⟩:=ap j;have⟨p,q⟩:=ap l;rw[aY k,tE g];exact .two o a b (Tj c) p q
  .cases h
 | .mk o v s (a::b::c::r),h=>by
  have e0:((((a::b::c::r).length:Nat):Int)==0)=J:=fH.2 sg;simp only[cA,e0]at h;split at h
  .cases x:aP v<;>cases d:(s==[])<;>simp[x,d]at h
  split at h
  .cases x:ec v<;>cases d:fg s<;>cases m:mM s<;>simp[x,d,m]at h
  split at h
  .cases x:ec v<;>cases d:(s==[])<;>simp[x,d]at h
  split at h
  .cases x:ec v<;>cases d:(s==[])<;>simp[x,d]at h
  .cases h
theorem Fq:∀(d:Nat)(e:zg),cA d e=Z->nE d e+1<=2^d
 |0,_,h=>by cases h
 | d+1,e,h=>by
  have c:0<2^d:=Nat.two_pow_pos d;cases gL h with
  |lit v h=>simp[nE,sD];omega
  |col s h c=>simp[nE,sD];omega
  |one o a h x=>have:=Fq d a x;simp[nE,sD];omega
  |two o a b h x g=>have:=Fq d a x;have:=Fq d b g;simp[nE,sD];omega
theorem zh0{e:zg}(h:cA i e=Z):1<=nE i e:=by
 cases i with
 |zero=>cases h
 | succ i=>
  have⟨o,v,s,l⟩:=e;rw[nE];omega
theorem qq:∀(x k:Nat)(e:zg)(n:Nat),k<=12->k<=x->cA k e=Z->n+nE k e<=60->gZ x e ((13:Int)-k) n=(Z,((n+nE k e:Nat):Int))
 |_,0,_,_,_,_,h,_=>by cases h
 |0,k+1,_,_,_,h,_,_=>zp h S
 | x+1,k+1,e,n,D,m,h,p=>by
  rw[gZ];unfold yj;have C:Γ Δ ((n:Int)+1)=((n+1:Nat):Int):=zz n um;have w:Γ Δ ((13:Int)-((k+1:Nat):Int)+1)=(13:Int)-(k:Int):=by rw[lz];omega
  have t:L ((13:Int)-((k+1:Nat):Int)>12)=J:=aQ S;have q:=zh0 h;have u:L (((n+1:Nat):Int)>60)=J:=aQ S;rw[C,t,u];cases gL h with
  |lit v z=>simp[zg.op,zg.l,zg.s,zg.v,dl,xG,X6,z,nE]
  |col s A m=>simp[zg.op,zg.l,zg.s,zg.v,dl,xG,X6,A,m,nE,ec]
  | one o a g c=>
   have d:n+1+nE k a<=60:=by simp[nE]at p;omega
   have j:=qq x k a (n+1) S S c d;have i:((n+nE (k+1) (.mk o (0,0,[]) [] [a]):Nat):Int)=((n+1+nE k a:Nat):Int):=by simp[nE];omega
   rw[i]
   push_cast at*
   rcases g with rfl|rfl<;>simp[zg.op,zg.l,zg.s,zg.v,dl,xG,X6,ec,oH,w,j]
  | two o a b g c y=>
   have d:n+1+nE k a+nE k b<=60:=by simp[nE]at p;omega
   have j:=qq x k a (n+1) S S c S;have kb:=qq x k b (n+1+nE k a) S S y d;have i:((n+nE (k+1) (.mk o (0,0,[]) [] [a,b]):Nat):Int)=((n+1+nE k a+nE k b:Nat):Int):=by simp[nE];omega
   rw[i]
   push_cast at*
   rcases g with rfl|rfl|rfl|rfl|rfl|rfl<;>simp[zg.op,zg.l,zg.s,zg.v,dl,xG,X6,ec,oH,w,j,kb]
theorem rW(c:UInt8)(s o:zD):Lib.index (c::s) o=if o.isPrefixOf (c::s)=Z then 0 else if Lib.index s o=-1 then -1 else Lib.index s o+1:=by rw[Lib.index];simp only[be]
variable {l n:zD}
theorem wv(x:(l==n)=J)(h:Lib.index s l=-1):Lib.replaceAll s l n=s:=by unfold Lib.replaceAll Lib.replace Lib.replaceNum;rw[x,zf (Or.inl (by decide)),Lib.count_miss h];rfl
theorem CA(a:l≠[])(x:(l==n)=J)(h:Lib.index s l=i):Lib.replaceAll s l n=s.take i++n++Lib.replaceAll (s.drop (i+M l)) l n:=by unfold Lib.replaceAll Lib.replace Lib.replaceNum;rw[x,zf (Or.inl (by decide)),zf (Or.inl (by decide)),Lib.count_hit a h,oV 1];exact Lib.replaceK_hit l n _ s i h
theorem XO(b:s≠[])(x:(s==l)=J):Lib.replaceAll [] s l=[]:=by
 refine wv x ?_;cases s with
 |nil=>exact zp rfl b
 |cons a h=>rfl
variable {c:UInt8}
theorem XP(x:l≠[])(h:(l==n)=J)(a:l.isPrefixOf (c::s)=Z):Lib.replaceAll (c::s) l n=n++Lib.replaceAll ((c::s).drop (M l)) l n:=by have:=CA (i:=0) x h (s:=c::s) (by rw[rW,zf a];rfl);simpa using this
theorem ST(a:l≠[])(x:(l==n)=J)(d:l.isPrefixOf (c::s)=J):Lib.replaceAll (c::s) l n=c::Lib.replaceAll s l n:=by
 by_cases h:Lib.index s l=-1
 .rw[wv x h,wv x (by rw[rW,zh (by simp[d]),zf h])]
 .obtain⟨i,b⟩:∃i:Nat,Lib.index s l=i:=⟨(Lib.index s l).toNat,by have:=Lib.index_ge s l;omega⟩;rw[CA a x b,CA (i:=i+1) a x (by rw[rW,zh (by simp[d]),zh h,b];simp)];simp[Nat.add_right_comm]
theorem ziD{a:UInt8}{r:zD}(h:c≠a):(a::l).isPrefixOf (c::r)=J:=by rw[List.isPrefixOf,fH.2 (Ne.symm h)];rfl
def fP:zD->zD
 |[]=>[]
 |c::r=>if c=39 then 39::39::fP r else c::fP r
theorem t8:∀s:zD,Lib.replaceAll s [39] oY=fP s
 |[]=>XO sw rfl
 | c::r=>by
  rw[fP];split
  next h=>subst h;rw[XP sw rfl sw];simp[t8 r]
  next h=>rw[ST sw rfl (ziD h),t8 r]
theorem kO(s:zD)(h:i<M s):s.getD ((i:Int).toNat) 0=s[i]:=by rw[bB,bf,zQ h,cD]
theorem GK:((c.toNat:Int)==39)=Z↔c=39:=by
 rw[be];constructor
 .intro h;exact UInt8.toNat_inj.1 (by show c.toNat=39;omega)
 .rintro rfl;rfl
end
end Cad
