/- Few of anything. -/
import Derived.Test.YtjdjldbhjmgmkaaGreatDoorN16
import Derived.Maps.RangeWalk
import Derived.Shelf.SlSortCmp.NoneTotal
namespace Cad
open Go Go.Proofs Tryz
open List renaming length->Io,length->N
open IntKind renaming wrap->Γ,i64->Δ
open Tr renaming «to»->Q9,val->Q8,chk->I
open AV renaming nils->Qb
open AO renaming box->Qa
open Sh renaming str->Q6,expr->Q5
open Bool renaming true->Q3,false->M,true->Z
open Option renaming some->Y
open Decidable renaming decide->K
open Int (toNat)
open Int renaming toNat->W
open List (getD)
open List renaming getD->T
open Tr (chk br re)
open AV (nils agg tup ptr kb)
open AV renaming str->X,sl->O
open Cad renaming ow->S,Sem->L,zj->Q,ai->J,ze->R
noncomputable section
set_option maxHeartbeats 4000000
def Kt(l h:List fy):Prop:=N h<=201/\∀r∈h,∃x∈l,r=eH x
theorem zyg(n:Nat)(c:Int)(l:c<=201)(q:0<=c)(z:zq cpR)(e:zq zmN)(t:ap)(m:300<=n):∃a:List fy,Kt z.1.2 a/\∃r,eh zch n (.h6 c 0 z e (t,[],()))=Y r/\aX r.2 [zl] r.1=Y (((t,a):ag),()):=by
 obtain⟨x,g⟩:∃x:Nat,c=(x:Int):=⟨W c,S⟩;have h:=dP (t:=zch) (β:=List fy) (min x (N z.1.2)) (λb i=>.h6 c (i:Int) z e (t,b,())) (λb i=>N b=i/\∀r∈b,∃o∈z.1.2,r=eH o) (λr=>∃a:List fy,Kt z.1.2 a/\aX r.2 [zl] r.1=Y (((t,a):ag),())) 1 (by
   grind[zu,zch,Q8,zt,aF]) (by
   intro b n d m;obtain⟨n,rfl⟩:∃k,n=k+1:=⟨n-1,S⟩;rw[dg];have j:(cond (K (((min x (N z.1.2):Nat):Int)<(N z.1.2:Int))) (K (((min x (N z.1.2):Nat):Int)<c)) M)=M:=by
    by_cases h:x<=N z.1.2
    .rw[Iq h,g];simp
    .rw[In S];simp
   simp only[zch,Q8,j];refine⟨_,rfl,b,⟨by have:=d.1;omega,d.2⟩,?_⟩;have⟨t0,s,u,v,w,p⟩:=t;cases p;rfl) (min x (N z.1.2)) 0 [] n rfl (aK _) ⟨rfl,sw⟩ S
 grind
theorem OO(x:ag):∃h:List fy,Kt x.2 h/\Fy x=Y (((Hn x.1,h):ag),()):=by
 have e:Hn (x.1.1,x.1.2.1,x.1.q.1,x.1.r.1,x.1.t.1,zw x.1.u)=Hn x.1:=by rw[zn]
 have a:∃k:Int,0<=k/\k<=201/\(zng x).val=Y (.inl (.h6 k 0 (x,()) ([],0,[],0,0,[],[],()) (Hn x.1,[],()))):=by
  simp only[zng,Q8,e];split
  .exact⟨201,S,S,rfl⟩
  .exact⟨40,S,S,rfl⟩
 have⟨k,b,c,a⟩:=a;have⟨h,d,r,g,i⟩:=zyg 100000000 k c b (x,()) ([],0,[],0,0,[],[],()) (Hn x.1) S;grind[Fy,am,bT]
theorem ON(x:ag):RW x=Z:=by have⟨h,b,a⟩:=OO x;unfold RW;rw[a];rfl
theorem zao(a:zT):∃d:zT,FA a=Y (d,())/\N d<=13/\∀x∈d,∃y∈a,x=Fx y:=by
 have h:=dP (t:=t7p) (β:=zT) (min 13 (N a)) (λb i=>.h3 a (i:Int) b) (λb i=>N b=i/\∀x∈b,∃y∈a,x=Fx y) (λr=>∃d:zT,aX r.2 [zl.sl] r.1=Y (d,())/\N d<=13/\∀x∈d,∃y∈a,x=Fx y) 1 (by
   grind[zu,t7p,Q8,zn,ON,zt,aF]) (by
   intro b n c g;obtain⟨n,rfl⟩:∃k,n=k+1:=⟨n-1,S⟩;rw[dg];have e:(cond (K (((min 13 (N a):Nat):Int)<(N a:Int))) (K (((min 13 (N a):Nat):Int)<13)) M)=M:=by
    by_cases h:13<=N a
    .rw[Iq h];simp
    .rw[In S];simp
   simp only[t7p,Q8,e];exact⟨_,rfl,b,rfl,S,c.2⟩) (min 13 (N a)) 0 [] 100000000 rfl (aK _) ⟨rfl,sw⟩ S
 grind[FA,am,bT,i7p,Q8]
theorem lH(s:zN):gp s=Z:=by grind[gp]
theorem gN(s:zN):(dQ s).length<=20:=by grind[dQ]
theorem qQ:∀(l:List zN)(i:Int)(a:List zN),(N a:Int)<=i->gM l i a=Z
 |[],_,_,_=>rfl
 | x::r,i,a,h=>by
  rw[gM];split
  next b=>simp only[bc]at b;rw[zf (lH x),zf sg];exact qQ r (i+1) _ sg
  .rfl
theorem HU(l:List zN):rZ l=Z:=qQ l 0 [] sw
theorem uZ:∀(l:List zN)(i:Int)(a:List zN),(N a:Int)<=i->N a<=10->(∀x∈a,N x<=20)->N (fm l i a)<=10/\∀x∈fm l i a,N x<=20
 |[],_,a,_,h,b=>⟨h,b⟩
 | x::r,i,a,h,hl,b=>by
  rw[fm];split
  next c=>simp only[bc]at c;refine uZ r (i+1) _ sg sg (λy d=>?_);grind[gN]
  .exact⟨hl,b⟩
theorem Cb(l:List zN):N (lG l)<=10/\∀x∈lG l,N x<=20:=uZ l 0 [] sw sw sw
theorem zgi(s:zN):(kj s).length<=20:=by grind[kj]
theorem WK(l:aZ):N (kL l)<=10/\∀x∈kL l,N x.1<=20:=by refine⟨by show((List.take 9 l).map _).length<=10;rw[cY,oC];omega,λc h=>?_⟩;obtain⟨x,_,rfl⟩:=bt.1 h;exact zgi x.1
theorem WM(l:zr):N (eH l)<=14:=by show((List.take 14 l).map _).length<=14;rw[cY,oC];omega
theorem KQ(e:zg):ot 16 (iN e)=Z:=by
 have⟨r,m,x,a⟩:=K9 (P:=λh _ r=>ot h r=Z) (λh e o t s l c b _ _=>by
  grind[ot]) 16 e 14 80 S S S
 unfold iN;rw[zg.eta,show uE 16 e 14 80=(r,m) by unfold uE;rw[x];rfl];exact a
structure Qz (s:zS):Prop where
 sh:nR s
 cp:ot 16 s.x.1=Z
def F3I(h:zq rl)(i:Nat)(z:zq YB):Prop:=N z.1<=20/\N z.2.1<=20/\N z.q.1<=20/\(N z.r.1<=10/\∀x∈z.r.1,N x<=20)/\(N z.t.1<=10/\∀x∈z.t.1,N x.1<=20)/\N z.u.1<=20/\
 (N z.v.1<=10/\∀x∈z.v.1,N x<=20)/\(N z.w.1=i/\∀x∈z.w.1,N x.1<=20/\N x.2<=20)/\ot 16 z.x.1=Z/\N z.y.1<=14/\N z.s.1<=20/\
 z.x.1=iN h.1.x.1/\z.y.1=eH h.1.y.1/\z.z.1=iN h.1.s.1
def F7I(h:zq rl)(i:Nat)(z:zq YC):Prop:=N z.1<=20/\N z.2.1<=20/\N z.q.1<=20/\(N z.r.1<=10/\∀x∈z.r.1,N x<=20)/\(N z.t.1<=10/\∀x∈z.t.1,N x.1<=20)/\N z.u.1<=20/\
 (N z.v.1<=10/\∀x∈z.v.1,N x<=20)/\(N z.w.1<=10/\∀x∈z.w.1,N x.1<=20/\N x.2<=20)/\ot 16 z.x.1=Z/\N z.y.1<=14/\
 (N z.z.1=i/\∀x∈z.z.1,N x.1<=20/\∃y∈h.1.z.1,x.2=iN y.2)/\N z.p.1<=20/\
 z.x.1=iN h.1.x.1/\z.y.1=eH h.1.y.1/\z.s.1=iN h.1.s.1
structure zh2 (s0 s:zS):Prop where
 chk:s.x.1=iN s0.x.1
 row:s.y.1=eH s0.y.1
 whr:s.s.1=iN s0.s.1
 sets:∀x∈s.z.1,∃y∈s0.z.1,(x:L jb).2=iN (y:L jb).2
def zdX(h:zS)(r:ay):Prop:=∃s:zS,aX r.2 [aB] r.1=Y (s,())/\Qz s/\zh2 h s
theorem fs7(b:zq rl)(B:zq jR)(z:zq YC)(hz:F7I b 0 z)(n:Nat)(U:20<=n):∃r,eh t8p n (.h7 0 b B z)=Y r/\zdX b.1 r:=by
 refine dP (t:=t8p) (β:=zq YC) (min 10 (N b.1.z.1)) (λz i=>.h7 (i:Int) b B z) (λz i=>F7I b i z) (zdX b.1) 1 ?_ ?_ (min 10 (N b.1.z.1)) 0 z n rfl (aK _) hz S
 .intro z i hi A;have⟨D,E,F,g,j,G,l,m,o,H,c,e,d⟩:=A;have k1:(i:Int)<(N b.1.z.1:Int):=by omega
  have k2:(i:Int)<10:=by omega
  have k3:zK (i:Int) (N b.1.z.1)=Z:=zu S;refine Or.inl ⟨(z.1,z.2.1,z.q.1,z.r.1,z.t.1,z.u.1,z.v.1,z.w.1,z.x.1,z.y.1,z.z.1++[(dQ (T b.1.z.1 (i:Int).toNat (Q jb)).1,zw (iN (zw (T b.1.z.1 (i:Int).toNat (Q jb)).2)))],z.s),⟨D,E,F,g,j,G,l,m,o,H,?_,e,d⟩,?_⟩;rotate_left 1
  .grind[t8p,Q8,lH,zt,aF]
  .refine⟨?_,λx a=>?_⟩
   .simp[c.1]
   .rcases dl.1 a with a|a
    .exact c.2 x a
    .rw[fb]at a;rw[a];exact⟨gN _,_,Fj _ (Q jb) (by simpa using(show i<_ by omega)),by simp only[zn,aI]⟩
 .intro z n A U;obtain⟨n,rfl⟩:∃k,n=k+1:=⟨n-1,S⟩;have⟨D,E,F,g,j,G,l,m,o,H,c,e,d⟩:=A;rw[dg];have P:(cond (K (((min 10 (N b.1.z.1):Nat):Int)<(N b.1.z.1:Int))) (K (((min 10 (N b.1.z.1):Nat):Int)<10)) M)=M:=by
   by_cases h:10<=N b.1.z.1
   .rw[Iq h];simp
   .rw[In S];simp
  simp only[t8p,Q8,P];refine⟨_,rfl,(z.1,z.2.1,z.q.1,z.r.1,z.t.1,z.u.1,z.v.1,z.w.1,z.x.1,z.y.1,z.z.1,z.s.1,z.p.1),?_,⟨?_,o⟩,⟨d.1,d.2.1,d.q,λx a=>(c.2 x a).2⟩⟩
  .have⟨b,B,z2,z3,z4,z5,z6,z7,z8,z9,x0,C,x1,x2⟩:=z;cases z8;cases C;rfl
  .refine⟨by show N z.1<=_;omega,by show N z.2.1<=_;omega,by show N z.q.1<=_;omega,⟨by have:=g.1;show N z.r.1<=_;omega,λx a=>by have:=g.2 x a;omega⟩,⟨by have:=j.1;show N z.t.1<=_;omega,λx a=>by have:=j.2 x a;omega⟩,by show N z.u.1<=_;omega,⟨by have:=l.1;show N z.v.1<=_;omega,λx a=>by have:=l.2 x a;omega⟩,⟨by grind,λx a=>by have:=m.2 x a;omega⟩,by show N z.y.1<=_;omega,⟨by grind,λx a=>by have:=(c.2 x a).1;omega⟩,by show N z.p.1<=_;omega⟩
theorem fs3(a:zq rl)(y:zq jR)(z:zq YB)(E:F3I a 0 z)(n:Nat)(D:40<=n):∃r,eh t8p n (.h3 0 a y z)=Y r/\zdX a.1 r:=by
 refine dP (t:=t8p) (β:=zq YB) (min 10 (N a.1.w.1)) (λz i=>.h3 (i:Int) a y z) (λz i=>F3I a i z) (zdX a.1) 21 ?_ ?_ (min 10 (N a.1.w.1)) 0 z n rfl (aK _) E S
 .intro z i F s;have⟨b,c,g,j,l,m,o,A,p⟩:=s;have G:(i:Int)<(N a.1.w.1:Int):=by omega
  have H:(i:Int)<10:=by omega
  have P:zK (i:Int) (N a.1.w.1)=Z:=zu S;refine Or.inl ⟨(z.1,z.2.1,z.q.1,z.r.1,z.t.1,z.u.1,z.v.1,z.w.1++[(dQ (T a.1.w.1 (i:Int).toNat (Q jM)).1,dQ (T a.1.w.1 (i:Int).toNat (Q jM)).2)],z.x),⟨b,c,g,j,l,m,o,?_,p⟩,?_⟩;rotate_left 1
  .grind[t8p,Q8,lH,zt,aF]
  grind[gN]
 .intro z n s D;obtain⟨n,rfl⟩:∃k,n=k+1:=⟨n-1,S⟩;have⟨b,c,g,j,l,m,o,A,p,B,d,e⟩:=s;rw[dg];have C:(cond (K (((min 10 (N a.1.w.1):Nat):Int)<(N a.1.w.1:Int))) (K (((min 10 (N a.1.w.1):Nat):Int)<10)) M)=M:=by
   by_cases h:10<=N a.1.w.1
   .rw[Iq h];simp
   .rw[In S];simp
  simp only[t8p,Q8,C];exact fs7 a y _ ⟨b,c,g,j,l,m,o,⟨by grind,A.2⟩,p,B,⟨rfl,sw⟩,d,e⟩ n S
theorem RV(s:zS):∃h:zS,AW s=Y (h,())/\Qz h/\zh2 s h:=by
 unfold AW am bT;simp only[i8p,Q8,lH,HU,zi]
 have⟨r,a,h,b,c⟩:=fs3 (s,()) ([],[],[],[],[],0,0,[],[],[],0,0,[],[],[],()) (dQ s.1,dQ s.2.1,dQ s.q.1,lG s.r.1,kL s.t.1,
  dQ s.u.1,lG s.v.1,[],iN (zw s.x.1),eH s.y.1,iN (zw s.s.1),dQ s.p,())
  ⟨gN _,gN _,gN _,Cb _,WK _,gN _,Cb _,⟨rfl,sw⟩,KQ _,WM _,gN _,by simp only[zn],rfl,by simp only[zn]⟩ 100000000 S
 refine⟨h,?_,c⟩;rw[a];exact b
abbrev aU(db:zT)(s:zN):ag:=T db (W (ao db s)) (Q zl)
def H6(d:zT):Prop:=∀x∈d,∀f∈x.1.t.1,LE.le (α:=Int) 0 (ao d f.2)/\∀h∈x.2,(zO f.1 h).1≠0->g7 (aU d f.2) (aU d f.2).1.q.1 (zO f.1 h)=Z
def IsF(r:ay):Prop:=r=(.kb M,[])
variable {db:zT}{i:Nat}
theorem zed{x:ag}{f:cC}{k:Nat}(l:LE.le (α:=Int) 0 (ao db f.2))(g:∀c∈x.2,zK f.1 (N c)=Z)(n:N x.2<=1000):
  ((∀j,j<Io x.2->(zO f.1 (getD x.2 j (zj ze.sl))).1≠0->g7 (aU db f.2) (aU db f.2).1.q.1 (zO f.1 (getD x.2 j (zj ze.sl)))=Q3)/\
   zG ji (N x.2*1) (.h11 db (ao db f.2) db (N db:Int) (i:Int) x.1.t.1 (N x.1.t.1:Int) (k:Int) x.2 (N x.2:Int) ((0:Nat):Int) (x,()) (f,()))
    (.h11 db (ao db f.2) db (N db:Int) (i:Int) x.1.t.1 (N x.1.t.1:Int) (k:Int) x.2 (N x.2:Int) (N x.2:Int) (x,()) (f,())))\/
  ((¬∀j,j<N x.2->(zO f.1 (T x.2 j (Q ze.sl))).1≠0->g7 (aU db f.2) (aU db f.2).1.q.1 (zO f.1 (T x.2 j (Q ze.sl)))=Z)/\
   ∃r,zV ji (N x.2*1) (.h11 db (ao db f.2) db (N db:Int) (i:Int) x.1.t.1 (N x.1.t.1:Int) (k:Int) x.2 (N x.2:Int) ((0:Nat):Int) (x,()) (f,())) r/\IsF r):=by
 refine nP (t:=ji) (Φ:=IsF) 1 (λj=>.h11 db (ao db f.2) db (N db:Int) (i:Int) x.1.t.1 (N x.1.t.1:Int) (k:Int) x.2 (N x.2:Int) (j:Int) (x,()) (f,())) (λj=>(zO f.1 (T x.2 j (Q ze.sl))).1≠0->g7 (aU db f.2) (aU db f.2).1.q.1 (zO f.1 (T x.2 j (Q ze.sl)))=Z) (N x.2) ?_;intro j b _
 have m:(ji (.h11 db (ao db f.2) db (N db:Int) (i:Int) x.1.t.1 (N x.1.t.1:Int) (k:Int) x.2 (N x.2:Int) (j:Int) (x,()) (f,()))).val=
   if(cond ((zO f.1 (T x.2 j (Q ze.sl))).1!=0) (!g7 (aU db f.2) (aU db f.2).1.q.1 (zO f.1 (T x.2 j (Q ze.sl)))) M)=Z then Y (.inr (.kb M,[]))else
   Y (.inl (.h11 db (ao db f.2) db (N db:Int) (i:Int) x.1.t.1 (N x.1.t.1:Int) (k:Int) x.2 (N x.2:Int) ((j+1:Nat):Int) (x,()) (f,()))):=by
  show(ji (.h11 _ _ _ _ _ _ _ _ _ _ _ _ _)).val=_;unfold ji;simp only[zn,Q8,zM b,zu b,g _ (cG b),eu l,aI,zi,nu];rw[zf (by simp_all)];rw[zt j um]
 by_cases d:(zO f.1 (T x.2 j (Q ze.sl))).1=0
 .grind[zG.of]
 .have a:((zO f.1 (T x.2 j (Q ze.sl))).1!=0)=Z:=by simpa using d
  by_cases e:g7 (aU db f.2) (aU db f.2).1.q.1 (zO f.1 (T x.2 j (Q ze.sl)))=Z
  .grind[zG.of]
  .exact .inr ⟨λh=>e (h d),_,zV.of (by rw[m,zf (by rw[a];simpa using e)]),rfl⟩
theorem zmq{db:zT}{x:ag}{i:Nat}(n:∀f∈x.1.t.1,∀a∈x.2,zK f.1 (N a)=Z)(o:N x.2<=1000)(p:N x.1.t.1<=1000):
  let P:Nat->Prop:=λk=>LE.le (α:=Int) 0 (ao db (T x.1.t.1 k (zj zI)).2)/\∀a∈x.2,(zO (T x.1.t.1 k (zj zI)).1 a).1≠0->g7 (aU db (T x.1.t.1 k (zj zI)).2) (aU db (T x.1.t.1 k (zj zI)).2).1.q.1 (zO (T x.1.t.1 k (zj zI)).1 a)=Z
  ((∀k,k<N x.1.t.1->P k)/\zG ji (N x.1.t.1*1002) (.h5 db db (N db:Int) (i:Int) x.1.t.1 (N x.1.t.1:Int) ((0:Nat):Int) (x,())) (.h5 db db (N db:Int) (i:Int) x.1.t.1 (N x.1.t.1:Int) (N x.1.t.1:Int) (x,())))\/
  ((¬∀k,k<N x.1.t.1->P k)/\∃r,zV ji (N x.1.t.1*1002) (.h5 db db (N db:Int) (i:Int) x.1.t.1 (N x.1.t.1:Int) ((0:Nat):Int) (x,())) r/\IsF r):=by
 intro P;refine nP (t:=ji) (Φ:=IsF) 1002 (λk=>.h5 db db (N db:Int) (i:Int) x.1.t.1 (N x.1.t.1:Int) (k:Int) (x,())) P (N x.1.t.1) ?_;intro k e _
 have l:(ji (.h5 db db (N db:Int) (i:Int) x.1.t.1 (N x.1.t.1:Int) (k:Int) (x,()))).val=
   if K (LT.lt (α:=Int) (ao db (T x.1.t.1 k (zj zI)).2) 0)=Z then Y (.inr (.kb M,[]))else
   Y (.inl (.h11 db (ao db (T x.1.t.1 k (zj zI)).2) db (N db:Int) (i:Int) x.1.t.1 (N x.1.t.1:Int) (k:Int) x.2 (N x.2:Int) ((0:Nat):Int) (x,()) (T x.1.t.1 k (zj zI),()))):=by
  show(ji (.h5 _ _ _ _ _ _ _ _)).val=_;unfold ji;simp only[Q8,zM e,zu e,aI,zi];rfl
 by_cases b:LE.le (α:=Int) 0 (ao db (T x.1.t.1 k (zj zI)).2)
 .have j:=zG.of (t:=ji) (s:=.h5 db db (N db:Int) (i:Int) x.1.t.1 (N x.1.t.1:Int) (k:Int) (x,())) (by rw[l,zh (by rw[bc];omega)]);rcases zed (db:=db) (x:=x) (f:=T x.1.t.1 k (zj zI)) (i:=i) (k:=k) b (n _ (cG e)) o with⟨c,d⟩|⟨c,r,d,m⟩
  .have g:(ji (.h11 db (ao db (T x.1.t.1 k (zj zI)).2) db (N db:Int) (i:Int) x.1.t.1 (N x.1.t.1:Int) (k:Int) x.2 (N x.2:Int) (N x.2:Int) (x,()) (T x.1.t.1 k (zj zI),()))).val=
     Y (.inl (.h5 db db (N db:Int) (i:Int) x.1.t.1 (N x.1.t.1:Int) ((k+1:Nat):Int) (x,()))):=by
    show(ji (.h11 _ _ _ _ _ _ _ _ _ _ _ _ _)).val=_;unfold ji;simp only[Q8,zJ];rw[zt k um];rfl
   refine .inl ⟨⟨b,?_⟩,((j.trans d).trans (zG.of g)).mono S⟩;exact(aT (Q:=λa=>(zO (T x.1.t.1 k (zj zI)).1 a).1≠0->g7 (aU db (T x.1.t.1 k (zj zI)).2) (aU db (T x.1.t.1 k (zj zI)).2).1.q.1 (zO (T x.1.t.1 k (zj zI)).1 a)=Z)).1 c
  .refine .inr ⟨λh=>c ?_,r,(j.ends d).mono S,m⟩;grind
 .exact .inr ⟨λh=>b h.1,_,(zV.of (by rw[l,zf (by rw[bc];omega)])).mono S,rfl⟩
theorem NC(p:∀x∈db,∀f∈x.1.t.1,∀a∈x.2,zK f.1 (N a)=Z)(s:∀x∈db,il x)(y:N db<=13):∃b,CS db=Y (b,())/\(b=Z↔H6 db):=by
 have c:=nP (t:=ji) (Φ:=IsF) 1010000 (λi=>.h2 db db (N db:Int) (i:Int)) (λi=>∀f∈(T db i (zj zl)).1.t.1,LE.le (α:=Int) 0 (ao db f.2)/\∀a∈(T db i (zj zl)).2,(zO f.1 a).1≠0->g7 (aU db f.2) (aU db f.2).1.q.1 (zO f.1 a)=Z) (N db) (by
  intro i g _;have o:=cG (d:=zj zl) g;have m:=s _ o;have v:=m.rf;have w:=m.rw;have u:(ji (.h2 db db (N db:Int) (i:Int))).val=Y (.inl (.h5 db db (N db:Int) (i:Int) (T db i (zj zl)).1.t.1 ((T db i (zj zl)).1.t.1.length:Int) ((0:Nat):Int) (T db i (zj zl),()))):=by
   show(ji (.h2 _ _ _ _)).val=_;unfold ji;simp only[Q8,zM g,zu g,aI,zi];rfl
  have l:=zG.of u;rcases zmq (db:=db) (x:=T db i (zj zl)) (i:=i) (p _ o) w v with⟨c,e⟩|⟨c,r,e,j⟩
  .have k:(ji (.h5 db db (N db:Int) (i:Int) (T db i (zj zl)).1.t.1 ((T db i (zj zl)).1.t.1.length:Int) ((T db i (zj zl)).1.t.1.length:Int) (T db i (zj zl),()))).val=Y (.inl (.h2 db db (N db:Int) ((i+1:Nat):Int))):=by
    show(ji (.h5 _ _ _ _ _ _ _ _)).val=_;unfold ji;simp only[Q8,zJ];rw[zt i um];rfl
   refine .inl ⟨?_,((l.trans e).trans (zG.of k)).mono S⟩;exact(aT (Q:=λf:cC=>LE.le (α:=Int) 0 (ao db f.2)/\∀a∈(T db i (zj zl)).2,(zO f.1 a).1≠0->g7 (aU db f.2) (aU db f.2).1.q.1 (zO f.1 a)=Z)).1 c
  .refine .inr ⟨λh=>c ?_,r,(l.ends e).mono S,j⟩;grind)
 have n:(∀i,i<N db->∀f∈(T db i (zj zl)).1.t.1,LE.le (α:=Int) 0 (ao db f.2)/\∀a∈(T db i (zj zl)).2,(zO f.1 a).1≠0->g7 (aU db f.2) (aU db f.2).1.q.1 (zO f.1 a)=Z)↔H6 db:=
  aT (Q:=λx:ag=>∀f∈x.1.t.1,LE.le (α:=Int) 0 (ao db f.2)/\∀a∈x.2,(zO f.1 a).1≠0->g7 (aU db f.2) (aU db f.2).1.q.1 (zO f.1 a)=Z)
 have g:(zua db).val=Y (.inl (.h2 db db (N db:Int) ((0:Nat):Int))):=rfl;rcases c with⟨c,e⟩|⟨c,r,e,j⟩
 .refine⟨Z,zz g (e.ends (zV.of (r:=(.kb Z,[])) ?_)) S rfl,λ_=>n.1 c,λ_=>rfl⟩;grind[Q8,ji]
 .unfold IsF at j;subst j;exact⟨M,zz g e S rfl,λh=>(by cases h),λh=>zB (n.2 h) c⟩
structure jO (db:zT):Prop where
 few:N db<=12
 names:∀i,i<N db-1->Op.bytesLess (T db i (Q zl)).1.1 (T db (i+1) (Q zl)).1.1=Z
 rels:∀x∈db,eb x
 bound:H6 db
theorem eb.cols{x:ag}(h:eb x):∀f∈x.1.t.1,∀row∈x.2,zK f.1 (N row)=Z:=by grind[fX,may,Fc,fits,pW]
theorem BM{a:zT}(C:∀x∈a,il x):∃e:Int,wN a=Y (e,())/\(e=0↔jO a):=by
 by_cases D:N a<=12
 case neg=>
  refine⟨13,?_,λh=>(by cases h),λh=>zB h.few D⟩;unfold wN am bT;simp only[zfl,Q8];rw[zf sg];rfl
 have g:(zfl a).val=Y (.inl (.h4 a ((0+1:Nat):Int))):=by
  simp only[zfl,Q8];rw[zh sg];rfl
 have n:=nP (t:=qC) (Φ:=Err) 1 (λi=>.h4 a ((i+1:Nat):Int)) (λi=>Op.bytesLess (T a i (zj zl)).1.1 (T a (i+1) (zj zl)).1.1=Z) (N a-1) (by
  intro i g _;have E:i<N a:=by omega
  have A:i+1<N a:=by omega
  have y:(qC (.h4 a ((i+1:Nat):Int))).val=if(!Op.bytesLess (T a i (zj zl)).1.1 (T a (i+1) (zj zl)).1.1)=Z then Y (.inr (J 15,[]))else Y (.inl (.h4 a ((i+1+1:Nat):Int))):=by
   show(qC (.h4 _ _)).val=_;unfold qC;simp only[gS i um];simp only[Q8,zM A,zu A,zu E,aI,zi];rw[zt (i+1) um]
  by_cases h:Op.bytesLess (T a i (zj zl)).1.1 (T a (i+1) (zj zl)).1.1=Z
  .grind[zG.of]
  .exact .inr ⟨h,_,zV.of (by rw[y,zf (by simpa using h)]),15,rfl,by decide⟩)
 rcases n with⟨w,n⟩|⟨w,r,n,e,m,j⟩
 case inr=>
  subst m;exact⟨e,zz g n S rfl,λh=>zB h j,λh=>zB h.names w⟩
 have z:(qC (.h4 a ((N a-1+1:Nat):Int))).val=Y (.inl (.h9 a a (N a:Int) ((0:Nat):Int))):=by
  show(qC (.h4 _ _)).val=_;unfold qC;simp only[Q8];rw[zh sg];rfl
 have s:=n.trans (zG.of z);have l:=nP (t:=qC) (Φ:=Err) 1 (λi=>.h9 a a (N a:Int) (i:Int)) (λi=>eb (T a i (zj zl))) (N a) (by
  intro i g _;have⟨e,m,v⟩:=PM (C _ (cG (d:=zj zl) g));have u:Mk (T a i (zj zl))=Z:=by unfold Mk;rw[m];rfl
  have k:Sx (T a i (zj zl))=e:=by unfold Sx;rw[m];rfl
  have y:(qC (.h9 a a (N a:Int) (i:Int))).val=if(e !=0)=Z then Y (.inr (J e,[]))else Y (.inl (.h9 a a (N a:Int) ((i+1:Nat):Int))):=by
   show(qC (.h9 _ _ _ _)).val=_;unfold qC;simp only[zn,Q8,zM g,zu g,aI,zi,aN,u,k];rw[zt i um]
  by_cases h:e=0
  .grind[zG.of]
  .exact .inr ⟨λp=>h (v.2 p),_,zV.of (by rw[y,zf (by simpa using h)]),e,rfl,h⟩)
 rcases l with⟨p,l⟩|⟨p,r,l,e,m,j⟩
 case inr=>
  subst m;exact⟨e,zz g (s.ends l) S rfl,λh=>zB h j,λh=>zB ((aT (Q:=eb)).2 h.rels) p⟩
 have c:=(aT (Q:=eb)).1 p;have⟨b,B,o⟩:=NC (db:=a) (λx G=>(c x G).cols) C S;have u:KC a=Z:=by unfold KC;rw[B];rfl
 have k:QL a=b:=by unfold QL;rw[B];rfl
 have q:(qC (.h9 a a (N a:Int) (N a:Int))).val=if(!b)=Z then Y (.inr (J 10,[]))else Y (.inr (J 0,[])):=by
  show(qC (.h9 _ _ _ _)).val=_;unfold qC;simp only[Q8,zJ,u,k,zi];rfl
 by_cases h:b=Z
 .exact⟨0,zz g (s.ends (l.ends (zV.of (by rw[q,zh (by rw[h];simp)])))) S rfl,λ_=>⟨D,w,c,o.1 h⟩,λ_=>rfl⟩
 .exact⟨10,zz g (s.ends (l.ends (zV.of (by rw[q,zf (by simpa using h)])))) S rfl,λh=>(by cases h),λF=>zB (o.2 F.bound) h⟩
variable {d:zT}
theorem KD(a:∀x∈d,il x):pF d=Z:=by have⟨e,h,_⟩:=BM a;unfold pF;rw[h];rfl
theorem jQ(b:∀x∈d,il x):mi d=(0:Int)↔jO d:=by have⟨e,h,a⟩:=BM b;unfold mi;rw[h];exact a
abbrev y11(a:L zl.sl)(h:zS):zq cd:=(a,h,([],[],0,[],[],zg.mk [] (0,0,[]) [] []),([],[],0,[],[],zg.mk [] (0,0,[]) [] []),h.1,h.q.1,h.p,h.2.1,0,h.x.1,0,())
theorem RP(d:L zl.sl)(h:zS):znd d h=(let e:=oX (y11 d h)
  let a:=JG e.2
  let b:=JH e.2
  let c:=A1 e.2
  Ow d h h.x.1 h (!fx h) (qB h&&bif !fx h then Z else pF d) (cond (!fx h) Z (mi d !=0)) (ot 16 h.x.1) (y11 d h) (oY (y11 d h)) e (e.1==0) e.2 a a.2 (gq a.2) b b.2 (gq b.2) c c.2 (gq c.2)):=by unfold znd;simp only[Zv,TJ,zn]
abbrev zbg(z:zq aH):zY:=(z.t.1,z.u.1,z.v.1,(z.w.1,z.x.1,z.y.1,[],[],z.z.1),z.s.1,z.p.1)
abbrev lx:zY:=([],[],[],([],[],0,[],[],zg.mk [] (0,0,[]) [] []),[],0)
def aA(db:zT)(n:zN):ap:=(T db (W (ao db n)) (Q zl)).1
abbrev zzD:ap:=([],[],0,[],[],zg.mk [] (0,0,[]) [] [])
def eT(db:zT)(n:zN):ap:=if n=[]then zzD else aA db n
def jn(e:Int)(p:zY):Int×zY:=if e=0 then(ite (yQ p.r.1=0) (0,p) (yQ p.r.1,lx))else(e,lx)
def cV(db:zT)(s:zS):Int×zY:=
 if(s.1==dp)=Z then
  jn (vI (aA db s.q.1) s.r.1) (s.1,s.q.1,s.p,(s.2.1,eX (aA db s.q.1) s.r.1,iA (ke (aA db s.q.1) s.r.1) (aA db s.q.1).q.1,[],[],s.x.1),ke (aA db s.q.1) s.r.1,0)
 else if(s.1==fD)=Z then
  jn (gL (aA db s.q.1) (eT db s.p) s.u.1 s.p)
   (s.1,s.q.1,s.p,(s.2.1,(aA db s.q.1).2.1++ju (eT db s.p) (N (eT db s.p).2.1),(aA db s.q.1).q.1,[],[],s.x.1),
    nX (eT db s.p).q.1 (N (eT db s.p).2.1),ab (aA db s.q.1) s.u.1)
 else if(s.1==na)=Z then
  jn (rS (aA db s.q.1) s.r.1) (s.1,s.q.1,s.p,(s.2.1,AM (aA db s.q.1) s.r.1,0,[],[],s.x.1),ke (aA db s.q.1) s.r.1,0)
 else(1,lx)
def bu(db:zT)(s:zS):Int×zY:=
 if lu s.1/\fx s=Z/\mi db=(0:Int)then(ite (rk db s.q.1 s.p s.2.1=0) (cV db s) (rk db s.q.1 s.p s.2.1,lx))else(1,lx)
variable {s:zS}
theorem kR(h:fx s=Z):iu s=Z:=by grind[fx,sH]
theorem oR{s:zN}(h:(0:Int)<=ao db s):db.getD (W (ao db s)) (Q zl)∈db:=by grind[eu,zK]
theorem Sz(e:Int):aX [] [zZ,zk] (tup [agg ([X [],X [],X [],X [],Qb,J 0,Qb,Qb]++zE++[Qb,J 0]),J e])=Y (lx,e,()):=rfl
theorem zoQ(z:zq aH):aX [AO.vec zp z.x.1] [zZ,zk] (tup [agg ([X z.t.1,X z.u.1,X z.v.1,X z.w.1,AV.vec 0,J z.y.1,Qb,Qb]++xE z.z.1++[O zk z.s.1,J z.p.1]),J 0])=Y (zbg z,0,()):=by have⟨d,e,g,i,j,k,l,m,n,o,h,a,b,c⟩:=z;cases h;rfl
def PlS(x:L zl.sl)(h:zS):Prop:=Pa x h=Y ((bu x h).2,(bu x h).1,())
variable {x:L zl.sl}
theorem zwu{o:Option (zH (List.map Y [zZ,zk]))}{e:Int}(h:o=Y (lx,e,()))(a:bu x s=(e,lx)):o=Y ((bu x s).2,(bu x s).1,()):=by rw[a];exact h
theorem zfW(e:qB s=Z)(d:pF x=Z)(h:(cond (!fx s) Z (mi x !=0))=Z):PlS x s:=by
 have c:(qB s&&bif !fx s then Z else pF x)=Z:=by rw[e,d];cases fx s<;>rfl
 have g:bu x s=(1,lx):=by
  unfold bu;rw[zh];rintro⟨_,a,b⟩;rw[a]at h;simp[b]at h
 refine zwu ?_ g;unfold Pa am bT;rw[RP];simp only[Ow,Q8,c,h,zi];by_cases o1:(s.1==dp)=Z
 .simp only[o1,zi];rfl
 .by_cases o2:(s.1==fD)=Z
  .simp only[o1,o2,zi];rfl
  .by_cases o3:(s.1==na)=Z
   .simp only[o1,o2,o3,zi];rfl
   .simp only[o1,o2,o3];rfl
theorem zoK{e:L zl.sl}{y:zq cd}{z:zq aH}{c:aZ}{m:Int}{i:List Int}{o:Int}(k:y.t=(y11 e s).t)(d:pB y z)
  (b:z.z.1=y.y.1) (v:qG z c m i o):zbg z=(s.1,s.q.1,s.p,(s.2.1,c,m,[],[],s.x.1),i,o):=by have⟨_,_,_,_,a,h,g,j⟩:=d;have l:z.t.1=s.1:=a.trans (congrArg (·.1) k);have n:z.u.1=s.q.1:=h.trans (congrArg (·.2.1) k);grind[qG.cols,qG.key,qG.ix,qG.on]
theorem zoJ{b:zS}(h9:∀a∈x,il a)(hl:N x<=13)(hs:Qz b):PlS x b:=by
 by_cases hg:lu b.1;rotate_left
 .have o1:(b.1==dp)=M:=by simpa using λk=>hg (.inl k)
  have o2:(b.1==fD)=M:=by simpa using λk=>hg (.inr (.inl k))
  have o3:(b.1==na)=M:=by simpa using λk=>hg (.inr (.inr k))
  refine zwu (e:=1) ?_ (by unfold bu;rw[zh λh=>hg h.1]);unfold Pa am bT;rw[RP];simp only[Ow,Q8,o1,o2,o3];rfl
 have hM:=Qk hs.sh hg;have hB:=KD h9;by_cases m:(cond (!fx b) Z (mi x !=0))=Z
 .exact zfW hM hB m
 have h3:(qB b&&bif !fx b then Z else pF x)=Z:=by rw[hM,hB];cases fx b<;>rfl
 have h5:fx b=Z:=by
  cases h:fx b
  .rw[h]at m;simp at m
  .rfl
 have h7:mi x=(0:Int):=by
  rw[h5]at m;simpa using m
 have h1:=kR h5;have h6:=((jQ h9).1 h7).rels;have⟨e8,y,h8,k1,k2,k3,k5,k4⟩:=OV (y11 x b) (by show N x<=_;omega);have s8:oX (y11 x b)=(e8,y):=by unfold oX;rw[h8];rfl
 have c8:oY (y11 x b)=Z:=by unfold oY;rw[h8];rfl
 have k5:e8=rk x b.q.1 b.p b.2.1:=k5;have hS:lu b.1->bu x b=if e8=0 then cV x b else(e8,lx):=by
  intro h;unfold bu;rw[zf ⟨h,h5,h7⟩,k5]
 unfold PlS Pa am bT;rw[RP];simp only[Ow,Q8,h3,m,hs.cp,s8,c8,zi];by_cases C:e8=0
 .have P:=k4 C;have n2:y.2.1=b:=k2;have n1:y.1=x:=k1;have nk:y.x.1=(0:Int):=congrArg (·.2.r.1) k3;have x2:y.z.1=(0:Int):=congrArg (·.2.u.1) k3;have nw:y.v.1=b.p:=congrArg (·.2.2.1) k3;have c:y.q.1=aA x b.q.1:=P.t.1;have o:y.r.1=eT x b.p:=P.u;have h4:=fX (h6 _ (oR (db:=x) (s:=b.q.1) P.1)).may;rw[show(getD x (toNat (ao x b.q.1)) (zj zl)).1=y.q.1 from c.symm]at h4;have x4:Io y.r.1.2.1<=100:=by
   rw[o];unfold eT;split
   .simp
   .grind[fX,eb.may,oR,aA]
  have x3:(e8==0)=Z:=by simpa using C
  simp only[x3,zi];by_cases o1:(b.1==dp)=Z
  .have H:lu b.1:=Or.inl (bV o1);have⟨z,d,hk,G,n,E⟩:=zaw y (by rw[n2];have:=hs.sh.names.1;omega);rw[n2,c,x2]at E;rw[n2,c]at d;generalize F:vI (aA x b.q.1) b.r.1=j at d E;have U:JG y=(j,z):=by unfold JG;rw[d];rfl
   have w:Lm y=Z:=by unfold Lm;rw[d];rfl
   have i:=hS H;rw[zf C]at i;unfold cV at i;rw[zf o1,F]at i;simp only[o1,U,w,zi];by_cases e0:j=0
   .have hz:=zoK k3 hk G (E e0);have g:=wj z n;have hT:Vf z=(zbg z).r.1:=rfl;rw[hT,hz]at g;unfold jn at i;rw[zf e0]at i;generalize h2:yQ _=l at g i;have h0:gq z=(l,z):=by unfold gq;rw[g];rfl
    have A:iB z=Z:=by unfold iB;rw[g];rfl
    have B:(j==0)=Z:=by simpa using e0
    simp only[B,h0,A,zi];by_cases f0:l=0
    .have D:(l !=0)=M:=by simp[f0]
     simp only[D];rw[zf f0]at i;rw[i];exact(zoQ z).trans (by rw[hz])
    grind[Sz]
   grind[jn,Sz]
  .by_cases o2:(b.1==fD)=Z
   .have H:lu b.1:=Or.inr (Or.inl (bV o2));have⟨z,d,hk,G,n,E⟩:=zax y (by have:=h4.r.1;omega) x4;rw[n2,nw,c,o]at E;rw[n2,nw,c,o]at d;generalize F:gL (aA x b.q.1) (eT x b.p) b.u.1 b.p=j at d E;have U:JH y=(j,z):=by unfold JH;rw[d];rfl
    have w:Lo y=Z:=by unfold Lo;rw[d];rfl
    have i:=hS H;rw[zf C]at i;unfold cV at i;rw[zh o1,zf o2,F]at i;simp only[o1,o2,U,w,zi];by_cases e0:j=0
    .have hz:=zoK k3 hk G (E e0);have g:=wj z n;have hT:Vf z=(zbg z).r.1:=rfl;rw[hT,hz]at g;unfold jn at i;rw[zf e0]at i;generalize h2:yQ _=l at g i;have h0:gq z=(l,z):=by unfold gq;rw[g];rfl
     have A:iB z=Z:=by unfold iB;rw[g];rfl
     have B:(j==0)=Z:=by simpa using e0
     simp only[B,h0,A,zi];by_cases f0:l=0
     .have D:(l !=0)=M:=by simp[f0]
      simp only[D];rw[zf f0]at i;rw[i];exact(zoQ z).trans (by rw[hz])
     grind[Sz]
    grind[jn,Sz]
   .by_cases o3:(b.1==na)=Z
    .have H:lu b.1:=Or.inr (Or.inr (bV o3));have⟨z,d,hk,G,n,E⟩:=WS y (by rw[n2];exact kJ h1 (bV o3));rw[n2,c,x2,nk]at E;rw[n2,c]at d;generalize F:rS (aA x b.q.1) b.r.1=j at d E;have U:A1 y=(j,z):=by unfold A1;rw[d];rfl
     have w:C5 y=Z:=by unfold C5;rw[d];rfl
     have i:=hS H;rw[zf C]at i;unfold cV at i;rw[zh o1,zh o2,zf o3,F]at i;simp only[o1,o2,o3,U,w,zi];by_cases e0:j=0
     .have hz:=zoK k3 hk G (E e0);have g:=wj z n;have hT:Vf z=(zbg z).r.1:=rfl;rw[hT,hz]at g;unfold jn at i;rw[zf e0]at i;generalize h2:yQ _=l at g i;have h0:gq z=(l,z):=by unfold gq;rw[g];rfl
      have A:iB z=Z:=by unfold iB;rw[g];rfl
      have B:(j==0)=Z:=by simpa using e0
      simp only[B,h0,A,zi];by_cases f0:l=0
      .have D:(l !=0)=M:=by simp[f0]
       simp only[D];rw[zf f0]at i;rw[i];exact(zoQ z).trans (by rw[hz])
      grind[Sz]
     grind[jn,Sz]
    grind
 grind[Sz]
set_option maxHeartbeats 1000000
theorem iF:∀{a b c:zN},Op.bytesLess a b=Z->Op.bytesLess b c=Z->Op.bytesLess a c=Z
 |_,[],_,h,_=>by cases‹zN›<;>simp[Op.bytesLess]at h
 |_,_::_,[],_,h=>by simp[Op.bytesLess]at h
 |[],_::_,_::_,_,_=>rfl
 | a::x,b::y,c::z,h,g=>by
  simp only[Op.bytesLess,oF,bc,aO,bX]at h g|-;rcases h with h|⟨rfl,h⟩
  .rcases g with g|⟨rfl,g⟩
   .exact .inl (UInt8.lt_trans h g)
   .exact .inl h
  .rcases g with g|⟨rfl,g⟩
   .exact .inl g
   .exact .inr ⟨rfl,iF h g⟩
def Lx(p q:Int×Int×zN):Prop:=p.1<q.1\/(p.1=q.1/\(p.2.1<q.2.1\/(p.2.1=q.2.1/\Op.bytesLess p.q q.q=Z)))
variable {p q:Int×Int×zN}
theorem Lx.trans{r:Int×Int×zN}(h:Lx p q)(g:Lx q r):Lx p r:=by
 unfold Lx at*;rcases h with h|⟨b,h|⟨c,h⟩⟩<;>rcases g with g|⟨x,g|⟨a,g⟩⟩
 .exact .inl S
 .exact .inl S
 .exact .inl S
 .exact .inl S
 .exact .inr ⟨S,.inl S⟩
 .exact .inr ⟨S,.inl S⟩
 .exact .inl S
 .exact .inr ⟨S,.inl S⟩
 .exact .inr ⟨S,.inr ⟨S,iF h g⟩⟩
theorem Lx.irrefl:¬Lx p p:=by
 unfold Lx;rw[cF];rintro(h|⟨_,h|⟨_,h⟩⟩)
 .omega
 .omega
 .cases h
theorem Tt(a b:Int):rF a b=if a<b then -1 else if b<a then 1 else 0:=by show(ite ((a !=a)=Z) _ (ite ((b !=b)=Z) (1:Int) (ite (K (a<b)=Z) (-1) (ite (K (a>b)=Z) 1 0))))=_;simp
theorem Yv(a b:Int):kH a b=if a<b then -1 else if b<a then 1 else 0:=Tt a b
theorem zeH(a b:zN):(oI a b=-1/\Op.bytesLess a b=Z)\/(oI a b=0/\a=b)\/(oI a b=1/\Op.bytesLess a b=M):=by
 have:oI a b=if Op.bytesLess a b=Z then -1 else if(!(Op.bytesLess a b||a==b))=Z then 1 else 0:=by
  show(ite ((!a==a)=Z) _ (ite ((!b==b)=Z) (1:Int) (ite (Op.bytesLess a b=Z) (-1) (ite ((!(Op.bytesLess a b||a==b))=Z) 1 0))))=_;simp
 rw[this];cases h:Op.bytesLess a b with
 |true=>exact .inl ⟨rfl,rfl⟩
 | false=>
  by_cases e:a=b
  .exact .inr (.inl ⟨by simp[e],e⟩)
  .exact .inr (.inr ⟨by simp[e],rfl⟩)
theorem zoH(k n x a:Int)(s b:zN):(HW [rF k x,kH n a,oI s b]<0)↔Lx (k,n,s) (x,a,b):=by
 show _↔(k<x\/(k=x/\(n<a\/(n=a/\Op.bytesLess s b=Z))));rw[Tt,Yv];simp only[HW];have i:=cF b;rcases D3 k x with h|h|h
 .simp[h]
 .subst h;rcases D3 n a with g|g|g
  .simp[g]
  .subst g;rcases zeH s b with⟨e,f⟩|⟨e,f⟩|⟨e,f⟩
   .simp[e,f]
   .subst f;simp[e,i]
   .simp[e,f]
  .have:¬n<a:=by omega
   have:n≠a:=by omega
   simp[*]
 .have:¬k<x:=by omega
  have:k≠x:=by omega
  simp[*]
variable {a:zo}
theorem yT{g:zo}:qE a g↔Lx (ah a) (ah g):=zoH (ah a).1 (ah a).2.1 (ah g).1 (ah g).2.1 (ah a).q (ah g).q
theorem em{b c:zo}(h:qE a b)(g:qE b c):qE a c:=yT.2 ((yT.1 h).trans (yT.1 g))
theorem eB:¬qE a a:=λh=>Lx.irrefl (yT.1 h)
theorem yx{α:Type}{R:α->α->Prop}(n:∀{a b c},R a b->R b c->R a c){d:α}:∀{l:List α},(∀i,i<N l-1->R (l.getD i d) (l.getD (i+1) d))↔l.Pairwise R
 |[]=>by simp
 |[a]=>by simp
 | a::b::r=>by
  have m:=yx (R:=R) n (d:=d) (l:=b::r);constructor
  .intro h;have e:=h 0 sw;have g:(b::r).Pairwise R:=m.1 λi j=>h (i+1) (by simp only[fB]at j|-;omega)
   refine List.pairwise_cons.2 ⟨λx k=>?_,g⟩;rcases ce.1 k with rfl|k
   .exact e
   .exact n e ((List.pairwise_cons.1 g).1 x k)
  .intro h i j;have⟨e,g⟩:=List.pairwise_cons.1 h;cases i with
   |zero=>exact e b sw
   |succ i=>exact m.2 g i (by simp only[fB]at j|-;omega)
def kLt(k:Int)(a b:zr):Prop:=qE (zO k a) (zO k b)
variable {b:ag}
theorem eb.pw(h:eb b):b.2.Pairwise (kLt b.1.q.1):=(yx (R:=kLt b.1.q.1) em).1 h.rise
variable {c:List zr}
theorem eb.sub{t:ap}{l:List zr}(h:eb (t,c))(x:List.Sublist l c):eb (t,l) where
 may:=h.may
 few:=aV x.length_le h.few
 fits:=λr a=>h.fits r (x.subset a)
 key:=List.Pairwise.sublist x h.key
 uniq:=λu b=>List.Pairwise.sublist x (h.uniq u b)
 rise:=(yx (R:=kLt t.q.1) em).2 (List.Pairwise.sublist x h.pw)
theorem JK(d:zT)(i:Nat):(d.getD i (Q zl)).1=(d.map (·.1)).getD i (Q zl).1:=by rw[bD,bD,dN];cases d[i]?<;>rfl
theorem zaz(h:(d.getD i (Q zl)).1=b.1):(d.set i b).map (·.1)=d.map (·.1):=by
 rw[List.map_set];refine oB λj=>?_
 rw[nr];by_cases e:i=j
 .subst e;rw[zf rfl];by_cases x:i<(d.map (·.1)).length
  .rw[zf x,aj x,<-h];congr 1;have a:i<N d:=by simpa using x
   rw[bD,aj a,List.getElem_map];rfl
  .rw[zh x,fa S]
 .rw[zh e]
theorem jO.put(h:jO d)(e:(d.getD i (Q zl)).1=b.1)(g:eb b)(c:H6 (d.set i b)):jO (d.set i b) where
 few:=by rw[nt];exact h.few
 names:=λj a=>by
  rw[nt]at a;have:=h.names j a;rw[JK,JK]at this|-
  rwa [zaz e]
 rels:=λy x=>by
  rcases Tf x with x|rfl
  .exact h.rels y x
  .exact g
 bound:=c
theorem T0{m:Int}(h:c.Pairwise (kLt m)):(c.map (zO m)).Pairwise (·≠·):=by rw[List.pairwise_map];exact h.imp λ{a b} x(e:zO m a=zO m b)=>eB (a:=zO m b) (by have:=x;unfold kLt at this;rwa [e]at this)
theorem lc:∀{a b:zN},Op.bytesLess a b=M->a≠b->Op.bytesLess b a=Z
 |[],[],_,h=>zB rfl h
 |[],_::_,h,_=>by simp[Op.bytesLess]at h
 |_::_,[],_,_=>rfl
 | a::x,b::y,h,hn=>by
  simp only[Op.bytesLess,Bool.or_eq_false_iff,ed,Bool.and_eq_false_iff,dM,oF,bc,aO,bX]at h|-;by_cases e:a=b
  .subst e;refine .inr ⟨rfl,lc (h.2.resolve_left λg=>g rfl) λg=>hn (by rw[g])⟩
  .exact .inl (UInt8.lt_of_le_of_ne (UInt8.not_lt.1 h.1) (Ne.symm e))
def fZ(u:zo):zr->zr
 |[]=>[u]
 |o::r=>if LT.lt (α:=Int) (an o u) 0 then o::fZ u r else if(o==u)=Z then o::r else u::o::r
def jk(l:zr):zr:=l.foldl (λa u=>if((u:zo).1==0)=Z then a else fZ u a) []
theorem mc{b:zo}(j:bg a=Z)(l:bg b=Z)(h:¬qE a b):a=b\/qE b a:=by
 have p:ah a=a:=by unfold ah;rw[j];rfl
 have kb:ah b=b:=by unfold ah;rw[l];rfl
 rw[yT,p,kb]at h|-;have⟨k,n,s⟩:=a;have⟨o,q,c⟩:=b;unfold Lx at h|-;simp only at h|-;have d:¬k<o:=λe=>h (.inl e)
 rcases Int.lt_or_eq_of_le (Int.not_lt.1 d)with e|e
 .exact .inr (.inl e)
 have i:¬n<q:=λg=>h (.inr ⟨e.symm,.inl g⟩)
 rcases Int.lt_or_eq_of_le (Int.not_lt.1 i)with g|g
 .exact .inr (.inr ⟨e,.inl g⟩)
 by_cases x:s=c
 .exact .inl (by rw[e,g,x])
 .refine .inr (.inr ⟨e,.inr ⟨g,lc ?_ x⟩⟩);cases m:Op.bytesLess s c
  .rfl
  .exact zB (.inr ⟨e.symm,.inr ⟨g.symm,m⟩⟩) h
theorem xD{a:zo}:∀{l:zr}{x:zo},x∈fZ a l↔x=a\/x∈l
 |[],x=>by simp[fZ]
 | o::r,x=>by
  unfold fZ;split
  .rw[ce,xD,ce];exact⟨λh=>by rcases h with h|h|h<;>simp[h],λh=>by rcases h with h|h|h<;>simp[h]⟩
  .split
   next h=>have h:=bV h;subst h;simp
   .simp
theorem Kc{a:zo}(j:bg a=Z):∀{l:zr},(∀x∈l,bg x=Z)->l.Pairwise qE->(fZ a l).Pairwise qE
 |[],_,_=>by simp[fZ]
 | o :: r,hl,h=>by
  have⟨g,k⟩:=List.pairwise_cons.1 h;unfold fZ;split
  .rename_i c;refine List.pairwise_cons.2 ⟨λx b=>?_,Kc j (λx b=>hl x (by simp[b])) k⟩;rcases xD.1 b with rfl|b
   .exact c
   .exact g x b
  .rename_i m;split
   .exact h
   .rename_i d;have i:qE a o:=by
     rcases mc (hl o sw) j m with e|e
     .exact zB (by rw[e];simp) d
     .exact e
    refine List.pairwise_cons.2 ⟨λx b=>?_,h⟩;rcases ce.1 b with rfl|b
    .exact i
    .exact em i (g x b)
theorem AK:∀(l a:zr),(∀x∈l,bg x=Z)->(∀x∈a,bg x=Z)->a.Pairwise qE->
  (l.foldl (λa u=>if((u:zo).1==0)=Z then a else fZ u a) a).Pairwise qE/\∀x,x∈l.foldl (λa u=>if((u:zo).1==0)=Z then a else fZ u a) a↔x∈a\/(x∈l/\x.1≠0)
 |[],a,_,_,h=>⟨h,λx=>by simp⟩
 | u::r,a,hl,ha,h=>by
  rw[List.foldl_cons];by_cases c:(u.1==0)=Z
  .rw[zf c];have⟨g,i⟩:=AK r a (λx b=>hl x (by simp[b])) ha h;refine⟨g,λx=>(i x).trans ⟨λh=>h.imp id λh=>⟨by simp[h.1],h.2⟩,λh=>h.imp id λh=>⟨?_,h.2⟩⟩⟩;rcases ce.1 h.1 with rfl|d
   .exact zB (bV c) h.2
   .exact d
  .rw[zh c];have j:=hl u sw;have⟨g,i⟩:=AK r (fZ u a) (λx b=>hl x (by simp[b])) (λx b=>by
    rcases xD.1 b with rfl|b
    .exact j
    .exact ha x b) (Kc j ha h)
   refine⟨g,λx=>(i x).trans ?_⟩;rw[xD,ce];refine⟨λh=>?_,λh=>?_⟩
   .rcases h with(rfl|h)|h
    .exact .inr ⟨.inl rfl,λe=>c (by rw[e];rfl)⟩
    .exact .inl h
    .exact .inr ⟨.inr h.1,h.2⟩
   .rcases h with h|⟨rfl|h,d⟩
    .exact .inl (.inr h)
    .exact .inl (.inl rfl)
    .exact .inr ⟨h,d⟩
variable {j:zr}
theorem ta(h:∀x∈j,bg x=Z):(jk j).Pairwise qE/\∀x,x∈jk j↔x∈j/\x.1≠0:=by have⟨a,b⟩:=AK j [] h sw sw;exact⟨a,λx=>(b x).trans sw⟩
theorem Mt:∀{l m:zr},l.Pairwise qE->m.Pairwise qE->(∀x,x∈l↔x∈m)->l=m
 |[],[],_,_,_=>rfl
 |[],b::m,_,_,h=>by have:=(h b).2 sw;simp at this
 |a::l,[],_,_,h=>by have:=(h a).1 sw;simp at this
 | a::l,b::m,h1,h2,h=>by
  have⟨i,k⟩:=List.pairwise_cons.1 h1;have⟨j,n⟩:=List.pairwise_cons.1 h2;have e:a=b:=by
   rcases ce.1 ((h a).1 sw)with e|e
   .exact e
   .rcases ce.1 ((h b).2 sw)with g|g
    .exact g.symm
    .exact zB (em (i _ g) (j _ e)) eB
  subst e;rw[Mt k n λx=>⟨λd=>?_,λd=>?_⟩]
  .rcases ce.1 ((h x).1 (by simp[d]))with rfl|c
   .exact zB (i _ d) eB
   .exact c
  .rcases ce.1 ((h x).2 (by simp[d]))with rfl|c
   .exact zB (j _ d) eB
   .exact c
open Go Go.Proofs Go.Sort
def td(l:zr):Bool:=l.all (λv=>bg v&&(v.1!=0))&&decide l.Nodup&&!l.isEmpty
theorem zcc{n:zr}(h:td j=Z)(c:List.Perm n j)(l:n.Pairwise λx y:zo=>¬LT.lt (α:=Int) (an y x) 0):n=jk j:=by
 simp only[td,aO,ep,bc,bne_iff_ne,ne_eq]at h;have⟨⟨b,k⟩,_⟩:=h;have⟨g,i⟩:=ta λx a=>(b x a).1
 have d:n.Nodup:=c.nodup_iff.2 k;refine Mt ?_ g λx=>?_
 .refine(l.and d).imp_of_mem λ{x y} a m h=>?_
  rcases mc (b y (c.mem_iff.1 m)).1 (b x (c.mem_iff.1 a)).1 h.1 with e|e
  .exact zB e.symm h.2
  .exact e
 .rw[i x,c.mem_iff];exact⟨λa=>⟨a,(b x a).2⟩,λa=>a.1⟩
@[match_pattern] abbrev Pc:Sh:=.pr (.int .i64) (.pr (.int .i64) .str)
def zBk:ak:=λa h _=>match a with
 | [.vec id,.clo (.func 50) [] []]=>match h id with
  |.vec Pc l=>(.chk (K (N l<=1000000)) (.chk (td l) (.ok {val:=.tup [],wr:=[(id,.vec R (jk l))]})))
  |_=>.err
 |_=>.err
theorem zyf:Go.Proofs.Enters prog 50:=by
  cases h:f50.body with
  | none => have:f50.body.isNone=false:=by kernel_rfl
            rw[h]at this;cases this
  |some c=>exact Go.Proofs.enters_of (fn:=f50) kw kw h
def WC(x:zY)(h:L zl.sl):Tr (Empty⊕ay):=
 let a:=T h (W 0) (Q zl)
 br (x.1==dp) (I (zK 0 (N h)) (re (J a.1.q.1) []))
 (br (x.1==fD) (re (J x.u) [])
  (I (zK 0 (N x.t.1)) (re (J (T x.t.1 (W 0) (Q zk))) [])))
def uv(x:zY)(h:L zl.sl):=am [zk] t0 100000000 (WC x h)
def lM(x:zY)(h:L zl.sl):=(uv x h).isSome
def dt(x:zY)(h:L zl.sl):=o1 (uv x h)
def zqk:=FT [zZ,zl.sl] [zk] λx=>uv x.1 x.2.1
theorem zk2:FK 40 zqk:=ti.T1 (f:=f40) (keep:=k0) (e:=e0)
abbrev zuW:=kr [(7,[4,5,52,53,54])]
inductive Nl where
 |h7 (l52:aZ) (i53:Int) (i54:Int) (ja0:List UInt8) (ja1:List UInt8) (ja2:List UInt8) (ja5:List UInt8) (ja8:List UInt8) (ja9:Int) (ja10:Int) (ja11:List UInt8) (ja12:List UInt8) (ja16:List UInt8) (ja17:Int) (ja18:Int) (ja19:List UInt8) (ja20:List UInt8) (ja22:List UInt8) (jb0:L Q6) (jb1:L Q6) (jb2:L Q6) (jb5:List UInt8) (jb8:zN) (jb9:Int) (jb10:Int) (jb11:zN) (jb12:zN) (jb13:List (L Q5)) (jb16:List UInt8) (jb17:Int) (jb18:Int) (jb19:List UInt8) (jb20:List UInt8) (jb22:L Q6)
 |h7b (l52:aZ) (i53:Int) (i54:Int) (ja0:List UInt8) (ja1:List UInt8) (ja2:List UInt8) (ja5:List UInt8) (ja8:List UInt8) (ja9:Int) (ja10:Int) (ja11:List UInt8) (ja12:List UInt8) (ja16:List UInt8) (ja17:Int) (ja18:Int) (ja19:List UInt8) (ja20:List UInt8) (ja22:List UInt8) (jb0:L Q6) (jb1:L Q6) (jb2:L Q6) (jb5:List UInt8) (jb8:zN) (jb9:Int) (jb10:Int) (jb11:zN) (jb12:zN) (jb13:List (L Q5)) (jb16:List UInt8) (jb17:Int) (jb18:Int) (jb19:List UInt8) (jb20:List UInt8) (jb22:L Q6) (lh_2:List (L Q6))
abbrev zxS:Nl->Nat×St
 |.h7 U u v w y z A B C j h x a b c d e g D E F G H P i k l m n o p q s t=>(7,⟨tm 67 [(4,ptr 0 0),(5,ptr 1 0),(52,O zp U),(53,J u),(54,J v)],[Qa [X w,X y,X z,Qb,Qb,X A,Qb,Qb,X B,J C,J j,X h,X x,Qb,Qb,Qb,X a,J b,J c,X d,X e,Qb,X g],Qa [X D,X E,X F,Qb,Qb,X G,Qb,Qb,X H,J P,J i,X k,X l,O Q5 m,Qb,Qb,X n,J o,J p,X q,X s,Qb,X t]]⟩)
 |.h7b U u v w y z A B C j h x a b c d e g D E F G H P i k l m n o p q s t h0=>(7,⟨tm 67 [(4,ptr 0 0),(5,ptr 1 0),(52,O zp U),(53,J u),(54,J v)],[Qa [X w,X y,X z,Qb,Qb,X A,Qb,Qb,X B,J C,J j,X h,X x,Qb,Qb,Qb,X a,J b,J c,X d,X e,Qb,X g],Qa [X D,X E,X F,AV.vec 2,Qb,X G,Qb,Qb,X H,J P,J i,X k,X l,O Q5 m,Qb,Qb,X n,J o,J p,X q,X s,Qb,X t],AO.vec Q6 h0]⟩)
def zfp(x:zY)(c:L zl.sl):Tr (Nl⊕ay):=
 let h:=K (x.u>=0)
 let b:=zK 0 (N c)
 let a:=T c (W 0) (Q zl)
 let d:=(N a.1.2.1:Int)
 let e:=T a.1.2.1 (W x.u) (Q zp)
 br (x.1==fD)
 (I (cond h b Z)
  (br (cond h (K (x.u<d)) M) (I b (I (zK x.u (N a.1.2.1)) (re (aS x.1 x.r.1.1 x.2.1 Qb Qb e.1 Qb Qb (xE x.r.1.u) Qb Qb zE x.q.1) []))) (re (aS x.1 x.r.1.1 x.2.1 Qb Qb [] Qb Qb (xE x.r.1.u) Qb Qb zE x.q.1) [])))
 (Q9
  (Nl.h7 x.r.1.2.1 (N x.r.1.2.1:Int) 0 [] [] [] [] [] 0 0 [] [] [] 0 0 [] [] [] x.1 x.r.1.1 x.2.1 [] (zg.op x.r.1.u) (zg.v x.r.1.u).1 (zg.v x.r.1.u).2.1 (zg.v x.r.1.u).q (zg.s x.r.1.u) (zg.l x.r.1.u) [] 0 0 [] [] x.q.1))
def CK:Nl->Tr (Nl⊕ay)
 | .h7 l m i F G H P U h0 n o p q s t u v w y z A B C D j h x a b c d e g k=>
  let a0:=l.getD i.toNat (Q zp)
  let a1:=[a0.1]
  br (K (i<m))
  (I (zK i (N l)) (I (K (N a1<=1073741824)) (Q9 (Nl.h7b l m (Γ Δ (i+1)) F G H P U h0 n o p q s t u v w y z A B C D j h x a b c d e g k a1))))
  (re (aS y z A Qb Qb B Qb Qb [X C,J D,J j,X h,X x,O Q5 a] Qb Qb [X b,J c,J d,X e,X g,Qb] k) [])
 | .h7b l m i F G H P U h0 n o p q s t u v w y z A B C D j h x a b c d e g k E=>
  let a0:=l.getD i.toNat (Q zp)
  let a1:=[a0.1]
  br (K (i<m))
  (I (zK i (N l)) (I (K (N E+N a1<=1073741824)) (Q9 (Nl.h7b l m (Γ Δ (i+1)) F G H P U h0 n o p q s t u v w y z A B C D j h x a b c d e g k (E++a1)))))
  (re (aS y z A (AV.vec 0) Qb B Qb Qb [X C,J D,J j,X h,X x,O Q5 a] Qb Qb [X b,J c,J d,X e,X g,Qb] k) [AO.vec Q6 E])
def Lw(x:zY)(h:L zl.sl):=am [aB] CK 100000000 (zfp x h)
def R8(x:zY)(h:L zl.sl):=(Lw x h).isSome
def zbe(x:zY)(h:L zl.sl):=o1 (Lw x h)
def zqK:=FT [zZ,zl.sl] [aB] λx=>Lw x.1 x.2.1
theorem zlv:FK 85 zqK:=ti.T1 (f:=f85) (keep:=zuW) (e:=zxS)
def Zm:=ziS.addL [(40,zqk),(85,zqK)]
theorem Rt:zx Zm:=ti.addL<|fc zk2<|fc zlv<|iP
def zzf(x:ag):Tr (Empty⊕ay):=
 re (X x.1.1) []
def zbS(x:ag):=am [Q6] t0 100000000 (zzf x)
def zw9:=FT [zl] [Q6] λx=>zbS x.1
theorem zlp:FK 78 zw9:=ti.T1 (f:=f78) (keep:=k0) (e:=e0)
theorem zlr:FK 78 (ba [zl] [.str] λx=>(x.1.1.1,())):=iV zlp λ_=>rfl
def ziU:=((((Zm.add 78 (ba [zl] [.str] λx=>(x.1.1.1,()))).add 138 zj5).aut 80 f80 2).aut 81 f81 1)
theorem Jd:zx ziU:=jl (jl ((Rt.add zlr).add zl3) (cM kw)) (cM kw)
abbrev zuy:=kr [(6,[1,2,5,6,19,20,21])]
inductive Vs where
 |h6 (l1:zT) (l6:List (L Q6)) (l19:zT) (i20:Int) (i21:Int) (z0:zq [CP.d zZ])
abbrev zxC:Vs->Nat×St
 |.h6 x a l i h z=>(6,⟨tm 55 [(1,O zl x),(2,ptr 0 0),(5,ptr 1 0),(6,O Q6 a),(19,O zl l),(20,J i),(21,J h)],[Qa (bm [] [CP.d zZ] z),Qa [AV.clo (Fn.func 78) [] []]]⟩)
def zt0(x:zY)(h:L zl.sl):Tr (Vs⊕ay):=
 let a:=mE (x.1,x.2.1,x.q.1,(x.r.1.1,x.r.1.2.1,x.r.1.q.1,x.r.1.r.1,x.r.1.t.1,zw x.r.1.u),x.t)
 br ((N h:Int)!=(N a:Int)) (re (J 1) []) (Q9 (Vs.h6 h a h (N h:Int) 0 (x,())))
def zgx:Vs->Tr (Vs⊕ay)
 | .h6 l g c d i b=>
  let n:=c.getD i.toNat (Q zl)
  let e:=(b.1.1,b.1.2.1,b.1.q.1,(b.1.r.1.1,b.1.r.1.2.1,b.1.r.1.q.1,b.1.r.1.r.1,b.1.r.1.t.1,zw b.1.r.1.u),b.1.t)
  let a:=zbe e l
  let j:=(a.1,a.2.1,a.q.1,a.r.1,a.t.1,a.u.1,a.v.1,a.w.1,zw a.x.1,a.y.1,a.z.1,zw a.s.1,a.p)
  let h:=pOf (gQ l) j
  let k:=h.2!=0
  let m:=(h.1.1,h.1.2.1,h.1.q.1,(h.1.r.1.1,h.1.r.1.2.1,h.1.r.1.q.1,h.1.r.1.r.1,h.1.r.1.t.1,zw h.1.r.1.u),h.1.t)
  br (K (i<d))
  (I (zK i (N c)) (I (zK i (N g)) (br (!n.1.1==g.getD i.toNat (Q Q6)) (re (J 1) []) (Q9 (Vs.h6 l g c d (Γ Δ (i+1)) b)))))
  (I (K (0<N l)) (I (K (N l<=1000)) (I (two l) (I (R8 e l) (I (zoI (gQ l) j) (I (cond k Z (Lu e m)) (br (cond k Z (!Pb e m)) (re (J 1) []) (re (J 0) []))))))))
def Uv(x:zY)(h:L zl.sl):=am [zk] zgx 100000000 (zt0 x h)
def F2(x:zY)(h:L zl.sl):=(Uv x h).isSome
def R7(x:zY)(h:L zl.sl):=o1 (Uv x h)
def zqf:=FT [zZ,zl.sl] [zk] λx=>Uv x.1 x.2.1
theorem zkX:FK 31 zqf:=Jd.T1 (f:=f31) (keep:=zuy) (e:=zxC)
def ziV:=ziU.add 31 zqf
theorem Je:zx ziV:=Jd.add zkX
abbrev zuS:=kr [(4,[1,6,7,8]),(12,[1,6,7,8,10,11,12])]
inductive nQ where
 |h4 (l1:zT) (l6:List (L Q6)) (i8:Int)
 |h12 (l1:zT) (l6:List (L Q6)) (i8:Int) (i12:Int) (z0:zq [CP.d zl])
 |h12b (l1:zT) (l6:List (L Q6)) (i8:Int) (i12:Int) (z0:zq [CP.d zl]) (lh_1:dK)
 |h4b (l1:zT) (l6:List (L Q6)) (i8:Int) (lh_0:zT)
 |h12bb (l1:zT) (l6:List (L Q6)) (i8:Int) (i12:Int) (z1:zq [CP.d zl]) (lh_0:zT)
 |h12bbb (l1:zT) (l6:List (L Q6)) (i8:Int) (i12:Int) (z1:zq [CP.d zl]) (lh_0:zT) (lh_2:dK)
abbrev zxP:nQ->Nat×St
 |.h4 x a h=>(4,⟨tm 67 [(1,O zl x),(6,O Q6 a),(7,Qb),(8,J h)],[]⟩)
 |.h12 x a h i z=>(12,⟨tm 67 [(1,O zl x),(6,O Q6 a),(7,Qb),(8,J h),(10,ptr 0 0),(11,Qb),(12,J i)],[Qa (bm [] [CP.d zl] z)]⟩)
 |.h12b x a h i z b=>(12,⟨tm 67 [(1,O zl x),(6,O Q6 a),(7,Qb),(8,J h),(10,ptr 0 0),(11,AV.vec 1),(12,J i)],[Qa (bm [] [CP.d zl] z),AO.vec zI b]⟩)
 |.h4b x a h l=>(4,⟨tm 67 [(1,O zl x),(6,O Q6 a),(7,AV.vec 0),(8,J h)],[AO.vec zl l]⟩)
 |.h12bb x a h i e l=>(12,⟨tm 67 [(1,O zl x),(6,O Q6 a),(7,AV.vec 0),(8,J h),(10,ptr 1 0),(11,Qb),(12,J i)],[AO.vec zl l,Qa (bm [] [CP.d zl] e)]⟩)
 |.h12bbb x a h i e l c=>(12,⟨tm 67 [(1,O zl x),(6,O Q6 a),(7,AV.vec 0),(8,J h),(10,ptr 1 0),(11,AV.vec 2),(12,J i)],[AO.vec zl l,Qa (bm [] [CP.d zl] e),AO.vec zI c]⟩)
def zns(x:zY)(h:L zl.sl):Tr (nQ⊕ay):=
 let a:=(x.1,x.2.1,x.q.1,(x.r.1.1,x.r.1.2.1,x.r.1.q.1,x.r.1.r.1,x.r.1.t.1,zw x.r.1.u),x.t)
 I (kO a) (Q9 (nQ.h4 h (mF a) 0))
def iv:nQ->Tr (nQ⊕ay)
 | .h4 a h x=>
  let c:=mO a (h.getD x.toNat (Q Q6))
  br (K (x<(N h:Int)))
  (I (zK x (N h)) (br (K (c<0)) (re (tup [Qb,kb M]) []) (I (zK c (N a)) (Q9 (nQ.h12 a h x 0 (a.getD (W c) (Q zl),()))))))
  (re (tup [Qb,kb Z]) [])
 | .h12 a h x i z=>
  let c:=(N z.1.1.t.1:Int)
  let j:=zK i (N z.1.1.t.1)
  let d:=T z.1.1.t.1 i.toNat (Q zI)
  let k:=[d]
  let m:=Γ Δ (i+1)
  let n:=[((z.1.1.1,z.1.1.2.1,z.1.1.q.1,z.1.1.r.1,[],zw z.1.1.u),z.1.2)]
  br (K (i<c))
  (I j (I (Ci h d.2) (br (PJ h d.2) (I j (I (K (N k<=1073741824)) (Q9 (nQ.h12b a h x m z k)))) (Q9 (nQ.h12 a h x m z)))))
  (I (K (N n<=1073741824)) (Q9 (nQ.h4b a h (Γ Δ (x+1)) n)))
 | .h12b a h x i z e=>
  let c:=(N z.1.1.t.1:Int)
  let j:=zK i (N z.1.1.t.1)
  let d:=T z.1.1.t.1 i.toNat (Q zI)
  let k:=[d]
  let m:=Γ Δ (i+1)
  let n:=[((z.1.1.1,z.1.1.2.1,z.1.1.q.1,z.1.1.r.1,e,zw z.1.1.u),z.1.2)]
  br (K (i<c))
  (I j (I (Ci h d.2) (br (PJ h d.2) (I j (I (K (N e+N k<=1073741824)) (Q9 (nQ.h12b a h x m z (e++k))))) (Q9 (nQ.h12b a h x m z e)))))
  (I (K (N n<=1073741824)) (Q9 (nQ.h4b a h (Γ Δ (x+1)) n)))
 | .h4b a h x l=>
  let c:=mO a (h.getD x.toNat (Q Q6))
  br (K (x<(N h:Int)))
  (I (zK x (N h)) (br (K (c<0)) (re (tup [Qb,kb M]) []) (I (zK c (N a)) (Q9 (nQ.h12bb a h x 0 (a.getD (W c) (Q zl),()) l)))))
  (re (tup [AV.vec 0,kb Z]) [AO.vec zl l])
 | .h12bb a h x i b l=>
  let c:=(N b.1.1.t.1:Int)
  let j:=zK i (N b.1.1.t.1)
  let d:=T b.1.1.t.1 i.toNat (Q zI)
  let k:=[d]
  let m:=Γ Δ (i+1)
  let n:=[((b.1.1.1,b.1.1.2.1,b.1.1.q.1,b.1.1.r.1,[],zw b.1.1.u),b.1.2)]
  br (K (i<c))
  (I j (I (Ci h d.2) (br (PJ h d.2) (I j (I (K (N k<=1073741824)) (Q9 (nQ.h12bbb a h x m b l k)))) (Q9 (nQ.h12bb a h x m b l)))))
  (I (K (N l+N n<=1073741824)) (Q9 (nQ.h4b a h (Γ Δ (x+1)) (l++n))))
 | .h12bbb a h x i b l g=>
  let c:=(N b.1.1.t.1:Int)
  let j:=zK i (N b.1.1.t.1)
  let d:=T b.1.1.t.1 i.toNat (Q zI)
  let k:=[d]
  let m:=Γ Δ (i+1)
  let n:=[((b.1.1.1,b.1.1.2.1,b.1.1.q.1,b.1.1.r.1,g,zw b.1.1.u),b.1.2)]
  br (K (i<c))
  (I j (I (Ci h d.2) (br (PJ h d.2) (I j (I (K (N g+N k<=1073741824)) (Q9 (nQ.h12bbb a h x m b l (g++k))))) (Q9 (nQ.h12bbb a h x m b l g)))))
  (I (K (N l+N n<=1073741824)) (Q9 (nQ.h4b a h (Γ Δ (x+1)) (l++n))))
def F9(x:zY)(h:L zl.sl):=am [zl.sl,Sh.bool] iv 100000000 (zns x h)
def Sc(x:zY)(h:L zl.sl):=(F9 x h).isSome
def zbt(x:zY)(h:L zl.sl):=o2 (F9 x h)
def zqE:=FT [zZ,zl.sl] [zl.sl,Sh.bool] λx=>F9 x.1 x.2.1
theorem zlm:FK 66 zqE:=Je.T1 (f:=f66) (keep:=zuS) (e:=zxP)
def BV:=ziV.add 66 zqE
theorem AF:zx BV:=Je.add zlm
abbrev zjA:=kr [(4,[5,6,18,19,20]),(11,[9,34])]
inductive Vt where
 |h4 (i5:zy) (l18:List (L ze.sl)) (i19:Int) (i20:Int) (mh_0:List ((Int×Int×zN)×Int))
abbrev Rf:Vt->Nat×St
 |.h4 x l i h m=>(4,⟨tm 46 [(5,J x),(6,AV.mp 0),(18,O ze.sl l),(19,J i),(20,J h)],[AO.vmap Z m]⟩)
def znk(x:zY)(h:L zl.sl):Tr (Vt⊕ay):=
 let a:=(x.1,x.2.1,x.q.1,(x.r.1.1,x.r.1.2.1,x.r.1.q.1,x.r.1.r.1,x.r.1.t.1,zw x.r.1.u),x.t)
 let b:=T h (W 0) (Q zl)
 I (lM a h) (I (zK 0 (N h)) (Q9 (Vt.h4 (dt a h) b.2 (N b.2:Int) 0 [])))
def zwN:Vt->Tr (Vt⊕ay)
 | .h4 x l h i m=>
  let a:=l.getD i.toNat (Q ze.sl)
  br (K (i<h))
  (I (zK i (N l)) (I (zK x (N a)) (Q9 (Vt.h4 x l h (Γ Δ (i+1)) (lN m (T a (W x) (Q R)) 0)))))
  Tr.err
set_option maxRecDepth 100000
def Ah(e:List ((Int×Int×zN)×Int))(k:Int×Int×zN):List ((Int×Int×zN)×Int):=match dc e k 0 with
 |some q=>e.eraseIdx q.1
 |none=>e
variable {w:World}{h:Array MapEntry}{e:List ((Int×Int×zN)×Int)}
theorem zeO{P:Program}{mt kt et:TypeId}(A:P.underlying mt=Y (.map kt et))(l:ij P kt=Z){r:Nat}{c:Nat}{k:Int×Int×zN}(v:eV k)
  (o:w.heap[r]?=Y (.map h c)) (u:(h.toList.map λa=>(a.key,a.val))=HK Z e) (C:∀p∈e,dw .i64 p.2/\eV p.1) (y:nj h c):
  ∃b:Array MapEntry,(∀z,(Builtin.delete_ #[mt,kt] z #[.map (Y r),cR k]).run P w=.ok (.tuple #[]) {w with heap:=w.heap.setIfInBounds r (.map b c)})/\
   (b.toList.map λa=>(a.key,a.val))=HK Z (Ah e k)/\(∀x∈b.toList,x.born<c)/\(b.toList.map (·.born)).Nodup:=by
 have j:=kv (P:=P) (w:=w) l v Z e h.toList u C;have d:∀x∈h.toList,x.born<c:=λx t=>by
  obtain⟨i,s,rfl⟩:=fN t;have:=y.2 i h.toList[i] (by rw[<-ru];exact aj s);rw[this,y.1];simpa using s
 have n:(h.toList.map (·.born)).Nodup:=by
  have:h.toList.map (·.born)=List.range h.size:=by
   apply List.ext_getElem
   .simp
   .intro i B D;have s:i<h.size:=by simpa using B
    simp only[List.getElem_map,List.getElem_range];exact y.2 i _ (by rw[<-ru];exact aj (by simpa using s))
  rw[this];exact List.nodup_range
 unfold Ah;cases m:dc e k 0 with
 | none=>
  rw[m]at j;refine⟨h,λz=>?_,u,d,n⟩;simp[Builtin.delete_,bN A,ic o,bP l,j,oA _ o,Result.andThen]
 | some q=>
  rw[m]at j;have g:((h.eraseIdxIfInBounds q.1).toList)=h.toList.eraseIdx q.1:=by simp
  refine⟨h.eraseIdxIfInBounds q.1,λz=>?_,?_,λx t=>?_,?_⟩
  .simp[Builtin.delete_,bN A,ic o,bP l,j,oA _ o,Result.andThen]
  .rw[g,tB,u];exact(tB _ e q.1).symm
  .rw[g]at t;exact d x (List.mem_of_mem_eraseIdx t)
  .rw[g];exact n.sublist ((List.eraseIdx_sublist _ _).map _)
def GR:Code:=match f32.body with
 |some (.seq _ (.seq _ (.seq _ (.seq _ r))))=>r
 |_=>.skip
def FF:Code:=match f32.body with
 |some (.seq _ (.seq _ (.seq _ (.seq (.seq _ (.block _ (.loop c))) _))))=>c
 |_=>.skip
theorem zm9:aq f32 4=[.code FF,.inLoop FF,.inBlock 0,.code GR]:=kw
theorem zny:(prog.info? 30).map (λi=>(i.zero,i.size,i.bytes))=Y (Y (.agg #[.int .i64 0,.int .i64 0,.string ⟨#[]⟩]),3,32):=kw
def Oj(l:List ((Int×Int×zN)×MapEntry)):List Value:=l.flatMap λp=>[.int .i64 p.1.1,.int .i64 p.1.2.1,.string ⟨p.1.2.2.toArray⟩]
structure zj2 (w1:World) (r clock:Nat) (ents':Array MapEntry) (v:Value) (wr:World) (seen:Array Nat) (E:List ((Int×Int×zN)×MapEntry)):Prop where
 it:∃c0,wr.heap[w1.heap.size]?=Y (.mapIter (Y r) clock seen c0)/\clock<=c0
 mp:wr.heap[r]?=Y (.map ents' clock)
 sub:∀p∈E,p.2∈ents'.toList/\p.2.key=cR p.1
 sn:seen.toList=E.map λp=>p.2.born
 nd:(E.map λp=>p.2.born).Nodup
 row:wr.ownsRow w1.heap.size 30 3 v (N E) (Oj E)
 bel:RowKit.Below w1.heap.size w1 wr
 cnt:N E+(leftOf ents' seen).size<=ents'.size
theorem VX(w:World)(l:List Value)(t:TypeId):∀j u,l[j]?=Y u->(w.alloc (.cells l.toArray t)).cell? ((⟨w.heap.size,0,none⟩:Addr).add j)=Y u:=by
 intro j u h;unfold Addr.add;split
 next e=>subst e;simp[h]
 .simp[h]
theorem zf9(Q:Exit->Act->World->Prop)(c:Value->World->Prop)(r:Nat)(i:Array MapEntry)(d:Nat)(w l:World)(m2:∀ty,(Builtin.delete_ #[158,30] ty #[.map (Y r),.agg #[.int .i64 0,.int .i64 0,.string ⟨#[]⟩]]).run prog w=.ok (.tuple #[]) l)(hm:l.heap[r]?=Y (.map i d))(h5:∀x∈i.toList,x.born<d)(a3:(i.toList.map (·.born)).Nodup) (h8:∀x∈i.toList,∃k,x.key=cR k) (m8:i.size<=1000)
  (x1:∀v wr s E,zj2 l r d i v wr s E->(leftOf i s).size=0->Calls prog 87 #[v,.func (.func 50) #[] #[]] wr λe w'=>e=.returned (.tuple #[])/\c v w')
  (hQ:∀v w'(a:Act),c v w'->a.tmps[4]?=Y v->a.defers=[]->Q Exit.ret a w')
  (v0 v1 v2 v3 v4 v5 v7 v8 v9 i1 i2 i3 i4 i5 i6 i7 i8 i9 j0 v20 j1 j2 j3 j4 j5 j6 j7 j8 j9 k4 k5 k6 k7 k8 k9 l0 l1 l2 l3 l4 l5 l6 l7 l8 l9:Value):
  GR.wp prog Q {tmps:=#[v0,v1,v2,v3,v4,v5,(Value.map (Y r)),v7,v8,v9,i1,i2,i3,i4,i5,i6,i7,i8,i9,j0,v20,j1,j2,j3,j4,j5,j6,j7,j8,j9,k4,k5,k6,k7,k8,k9,l0,l1,l2,l3,l4,l5,l6,l7,l8,l9],defers:=[]} w:=by
 have m6:=run_range_map (P:=prog) l 158 30 159 r i d underlying158 hm;simp only[GR,f32]
 go_wp2
 obtain⟨i0,hi,a7,a8,a9⟩:=info_parts zny
 go_loopw [9] (λv wr=>∃s E,zj2 l r d i v wr s E)
  (λ_ wr=>(leftOf i (wr.iterSeen l.heap.size)).size)
 case atStart=>
  exact⟨#[],[],⟨⟨d,heap_alloc_new _ _,zR _⟩,by rw[heap_alloc_old _ _ (mZ.1 hm).1];exact hm,sw,sw,sw,World.ownsRow_nil _ _ _ _,(RowKit.Below.refl _ _).alloc (zR _) _,by simpa[leftOf]using Array.size_filter_le⟩⟩
 case round=>
  obtain⟨s,E,n⟩:=hrel;obtain⟨c0,C,a5⟩:=n.it;have m3:r<l.heap.size:=(mZ.1 hm).1;rcases run_next_at (P:=prog) wr 0 l.heap.size r d c0 s i d C n.mp h5 a5 with⟨hz,F⟩|⟨e,he,wd,B,F⟩
  .have x8:=x1 _ _ _ _ n (by simpa using hz);clear n
   go_wp2_with (go_at_call 87;refine x8.mono ?_;rintro e w' ⟨rfl,hS⟩)
   exact hQ _ _ _ hS rfl rfl
  .have h6:e∈i.toList:=by simp[leftOf]at he|-;exact he.1
   have a0:e.born∉E.map λp=>p.2.born:=by
    rw[<-n.sn];simp[leftOf]at he|-;exact he.2
   obtain⟨k,hk⟩:=h8 e h6;have a2:0<(leftOf i s).size:=by
    have:=List.length_pos_of_mem he;simpa using this
   have m1:=n.cnt;have m4:N E<1000:=by omega
   obtain⟨q,m⟩:∃q,ChangeMaps.setBlock wd l.heap.size (.mapIter (Y r) d (s.push e.born) d)=q:=⟨_,rfl⟩;rw[m]at F;have G:wd.heap=wr.heap:=by rcases B with rfl|rfl<;>rfl
   have x3:l.heap.size<wr.heap.size:=(mZ.1 C).1;have t:q.heap[l.heap.size]?=Y (.mapIter (Y r) d (s.push e.born) d):=by
    rw[<-m];show(wd.heap.setIfInBounds _ _)[_]?=_;rw[G];simp[x3]
   have h3:∀j,j≠l.heap.size->q.heap[j]?=wr.heap[j]?:=λj D=>by
    rw[<-m];show(wd.heap.setIfInBounds _ _)[_]?=_;rw[G,Array.getElem?_setIfInBounds_ne (λe=>D e.symm)]
   have h4:q.heap.size=wr.heap.size:=by
    rw[<-m];show(wd.heap.setIfInBounds _ _).size=_;rw[G];simp
   have h7:wr.grownBy q (Y l.heap.size):=⟨by rw[<-m];rcases B with rfl|rfl<;>rfl,by rw[<-m];rcases B with rfl|rfl<;>rfl,by rw[<-m];rcases B with rfl|rfl<;>rfl,by rw[h4];exact zR _,λj _ D=>h3 j λe=>D (by rw[e])⟩;have h0:q.heap[r]?=Y (.map i d):=(h3 r S).trans n.mp;have x2:=run_entry_at (P:=prog) q l.heap.size r d s i d e t h0 h6 a3;have A:=n.row.kept h7 (by
    rcases n.row.2 with⟨rfl,_⟩|⟨g,x6,x7,rfl,_,y,_⟩
    .exact .inl rfl
    .refine .inr λe'=>?_
     have:g=l.heap.size:=by simpa[Value.ownBlock]using e'
     subst this;rw[C]at y;cases y)
   have u:RowKit.Below l.heap.size l q:=n.bel.grown h7 n.bel.size (λj e=>by cases e;exact zR _);rw[hk]at F x2;obtain⟨k1,k2,k3⟩:=k;simp only[cR]at F x2;have x5:=n.sub;have a6:=n.sn;have x4:=n.nd;clear m B G h4 h7 n
   go_wp2_with (at_builtin;refine wpList_append_own _ rfl _ _ 39 rfl l.heap.size 30 i0 _ 3 32 underlying39 hi a7 a8 a9 rfl (by decide) _ _ _ rfl ((A.alloc _).alloc _) ⟨q.heap.size+1,0,none⟩ 1 1 [.int .i64 k1,.int .i64 k2,.string ⟨k3.toArray⟩] rfl rfl (by have:=VX (q.alloc (.cells #[.int .i64 k1,.int .i64 k2,.string ⟨k3.toArray⟩] 30)) [.int .i64 k1,.int .i64 k2,.string ⟨k3.toArray⟩] 30;simpa using this) (by simp[Value.oneCell']) (by unfold maxLen;omega) S (by have:=u.size;simp;omega) ?_;intro v' w3 x0 H h9;go_frame)
   obtain⟨o3,a4⟩:∃o:Obj,o=.cells #[.int .i64 k1,.int .i64 k2,.string ⟨k3.toArray⟩] 30:=⟨_,rfl⟩;have U:World.grownBy ((q.alloc o3).alloc o3) w3 u9.ownBlock:=by rw[a4];exact H
   clear H h9;have z:∀j,u9.ownBlock=Y j->l.heap.size<=j/\j≠l.heap.size:=by
    intro j D;rcases A.2 with⟨rfl,_⟩|⟨g,x6,x7,rfl,x9,y,_⟩
    .simp[Value.ownBlock]at D
    .have:g=j:=by simpa[Value.ownBlock]using D
     subst this;exact⟨x9,λe'=>by subst e';rw[t]at y;cases y⟩
   have m7:l.heap.size<q.heap.size:=(mZ.1 t).1;have h2:∀j,j<=l.heap.size->w3.heap[j]?=q.heap[j]?:=λj D=>by
    rw[U.block j sg (λe'=>by obtain⟨a,b⟩:=z j e'.symm;omega),heap_alloc_old _ _ sg,heap_alloc_old _ _ S]
   have h1:w3.heap[l.heap.size]?=Y (Obj.mapIter (Y r) d (s.push e.born) d):=(h2 _ (zR _)).trans t;have a1:Oj (E++[((k1,k2,k3),e)])=Oj E++[.int .i64 k1,.int .i64 k2,.string ⟨k3.toArray⟩]:=by simp[Oj]
   refine⟨⟨s.push e.born,E++[((k1,k2,k3),e)],⟨⟨d,h1,zR _⟩,(h2 r S).trans h0,?_,?_,?_,?_,?_,?_⟩⟩,?_⟩
   .intro p hp;rcases dl.1 hp with h|h
    .exact x5 p h
    .obtain rfl:=fb.1 h;exact⟨h6,hk⟩
   .simp[a6]
   .rw[gm];refine List.nodup_append.2 ⟨x4,sw,λa ha b hb=>?_⟩;have:b=e.born:=by simpa using hb
    rintro rfl;exact a0 (this▸ha)
   .rw[a1,jK];exact x0
   .exact((u.alloc S _).alloc sg _).grown U sg (λj D=>(z j D).1)
   .have:=left_shrinks _ _ _ he;rw[jK];simp only[fB,qK];omega
   .have e1:wr.iterSeen l.heap.size=s:=by simp[World.iterSeen,C]
    have e2:w3.iterSeen l.heap.size=s.push e.born:=by simp[World.iterSeen,h1]
    rw[e1,e2];exact left_shrinks _ _ _ he
abbrev V3:={x:zo//bg x=Z}
def lh(p:V3):List Value:=[.int .i64 p.1.1,.int .i64 p.1.2.1,.string ⟨(p.1.2.2:zN).toArray⟩]
def NF(p q:V3):Int:=an p.1 q.1
theorem zo2[Inhabited V3](d:Array V3)(B j:Nat)(w:World)(s:HoldsK lh 3 w B 0 d)(q:B<w.heap.size)(h:d.size<4611686018427387904):
  Calls prog 87 #[.slice (Y ⟨B,0,none⟩) d.size j,.func (.func 50) #[] #[]] w λe l=>e=.returned (.tuple #[])/\∃n os,l=sortWorldK lh 3 w B 0 n (d.toList.mergeSort λx y=>!(ltOf NF) y x).toArray os:=by
 refine AnyQ.slices_SortFunc_total Tryz.sortVal 3 isAgg30 sizeOf30 lh (λ_=>rfl) ?_ NF ?_ 50 #[] B 0 j d w zyf ?_ s q h ?_
 .intro x v k;simp only[lh,ce,List.not_mem_nil,or_false]at k;rcases k with rfl|rfl|rfl<;>rfl
 .refine⟨λx=>?_,λx y z h g=>?_,λx y z h g=>?_⟩
  .exact aC (eB (a:=x.1))
  .simp only[ltOf,bc]at h g|-;exact em (a:=x.1) (b:=y.1) (c:=z.1) h g
  .simp only[ltOf,ed]at h g|-;intro i;rcases mc x.2 y.2 h with e|e
   .unfold NF at i;rw[e]at i;exact g i
   .exact g (em (a:=y.1) (b:=x.1) (c:=z.1) e i)
 .intro m os u t x y;show Calls prog 50 (#[Value.agg (lh x).toArray,Value.agg (lh y).toArray]++#[]) _ _;refine(zfU x.1.1 x.1.2.1 x.1.2.2 y.1.1 y.1.2.1 y.1.2.2 _).mono ?_;rintro A l ⟨rfl,o,p⟩;exact⟨rfl,gd_of o p⟩
 .intro x y h g;simp only[ltOf,ed]at h g;rcases mc x.2 y.2 h with e|e
  .exact Subtype.ext e
  .exact zB e g
theorem xm[Inhabited V3]:∀(l:List V3)(t:Nat),t<N l*3->(l.flatMap lh)[t]?=Y (lh (l[t/3]!))[t%3]!
 |[],t,h=>by simp at h
 | a::l,t,h=>by
  rw[List.flatMap_cons];by_cases x:t<3
  .have e0:t/3=0:=by omega
   have e:t%3=t:=by omega
   rw[rz (by simpa[lh]using x),e0,e];rw[List.getElem!_cons_zero,aj (by simpa[lh]using x),getElem!_pos]
  .obtain⟨s,rfl⟩:∃s,t=s+3:=⟨t-3,S⟩;have e0:(s+3)/3=s/3+1:=by omega
   have e:(s+3)%3=s%3:=by omega
   rw[pE (by simp[lh]),e0,e,List.getElem!_cons_succ];have:=xm l s (by simp at h;omega);simpa[lh]using this
theorem Fe:∀l:List V3,(l.flatMap lh).length=N l*3
 |[]=>rfl
 | a::l=>by
  rw[List.flatMap_cons,jK,Fe l,fB];simp[lh];omega
variable {v:Value}{l:List V3}
theorem zbc[Inhabited V3](z:w.ownsRow i 30 3 v (N l) (l.flatMap lh))(p:N l<4611686018427387904)(P:l≠[]):
  Calls prog 87 #[v,.func (.func 50) #[] #[]] w λe w'=>e=.returned (.tuple #[])/\w'.ownsRow i 30 3 v (N l) ((l.mergeSort λx y=>!(ltOf NF) y x).flatMap lh)/\w.grownBy w' v.ownBlock:=by
 rcases z.2 with⟨_,h0⟩|⟨g,j,o,rfl,C,a,s,E,q,h1⟩
 .exact zB (List.length_eq_zero_iff.1 h0) P
 have hH:HoldsK lh 3 w g 0 l.toArray:=by
  intro t c;rw[size_flatK]at c;have A:t<N l*3:=by simpa using c
  have hc:o.toList[t]?=Y (lh (l[t/3]!))[t%3]!:=by
   rw[<-xm l t A,<-h1,List.getElem?_take_of_lt A]
  refine⟨?_,by simp[World.frozen?,a]⟩;rw[get_flatK _ _ _ _ c];simp[World.cell?,a];simpa using hc
 have hs:=zo2 l.toArray g j w hH (mZ.1 a).1 (by simpa using p);have U:l.toArray.size=N l:=by simp
 rw[U]at hs;refine hs.mono ?_;rintro e w' ⟨rfl,m,os,rfl⟩;have h:(l.mergeSort λx y=>!(ltOf NF) y x).length=N l:=List.length_mergeSort _;simp only[];generalize(l.mergeSort λx y=>!(ltOf NF) y x)=d at h;have B:=xr (enc:=lh) (k:=3) (n:=m) (os:=os) d.toArray a;have u:∀b,b<w.heap.size->b≠g->(sortWorldK lh 3 w g 0 m d.toArray os).heap[b]?=w.heap[b]?:=λb hb H=>iQ d.toArray hb H
 refine⟨by first|trivial|rfl,⟨by rw[Fe,h],.inr ⟨g,j,_,rfl,C,B,s,E,by simp[putCells,q],?_⟩⟩,⟨rfl,rfl,rfl,?_,λk hk H=>u k hk λe=>H (by rw[e];rfl)⟩⟩
 .apply oB;intro t;by_cases c:t<N l*3
  .rw[List.getElem?_take_of_lt c,xm d t (by rw[h];exact c),ru];have D:t<o.size:=by rw[q];exact ie c (fM 3 s)
   have F:=get_flatK lh 3 d.toArray t (by simpa[h]using c);have G:(flatK lh 3 d.toArray).size=N l*3:=by simp[h]
   unfold putCells;rw[Array.getElem?_mapIdx,uD D];simp only[Ir,aK,eI,G,c,and_self,zi,Nat.sub_zero,F,id_eq];simp
  .rw[fa sg,fa (by rw[Fe,h];omega)]
 .unfold sortWorldK grow putRowK;simp[Sort.ahead]
theorem WX(p:Option Addr)(c:Nat)(h:Value)(w:World):Calls prog 87 #[.slice p 0 c,h] w λe x=>e=.returned (.tuple #[])/\x=w:=
 AnyF.slices_SortFunc_none {Tryz.sortVal with} p c h w
theorem zjG:∀E:List ((Int×Int×zN)×MapEntry),(∀p∈E,bg p.1=Z)->∃l:List V3,l.map (·.1)=E.map (·.1)/\l.flatMap lh=Oj E
 |[],_=>⟨[],rfl,rfl⟩
 | p::E,h=>by
  have⟨l,x,a⟩:=zjG E λq b=>h q (np _ b)
  refine⟨⟨p.1,h p uO⟩::l,by simp[x],?_⟩;rw[List.flatMap_cons,a];rfl
def zdY(w:World)(e:Array MapEntry)(v:Value)(h:World):Prop:=
 ∃(E:List ((Int×Int×zN)×MapEntry))(l:List V3),(∀p∈E,p.2∈e.toList/\p.2.key=cR p.1)/\(∀x∈e.toList,x.born∈E.map λp=>p.2.born)/\(E.map λp=>p.2.born).Nodup/\l.map (·.1)=E.map (·.1)/\
  h.ownsRow w.heap.size 30 3 v (N l) ((l.mergeSort λx y=>!(ltOf NF) y x).flatMap lh)/\RowKit.Below w.heap.size w h
variable {E:List ((Int×Int×zN)×MapEntry)}
theorem VZ[Inhabited V3]{wr:World}{r k:Nat}{s:Array Nat}(d:zj2 w r k h v wr s E)(A:(leftOf h s).size=0)(G:∀p∈E,bg p.1=Z)(H:h.size<=1000):
  Calls prog 87 #[v,.func (.func 50) #[] #[]] wr λe y=>e=.returned (.tuple #[])/\zdY w h v y:=by
 have⟨l,t,D⟩:=zjG E G;have j:N l=N E:=by simpa using congrArg N t
 have i:∀x∈h.toList,x.born∈E.map λp=>p.2.born:=λx U=>by
  have:=all_seen h s A x U;rw[<-d.sn];simpa using this
 have b:=d.row;rw[<-D,<-j]at b;have⟨c0,F,_⟩:=d.it;have u:w.heap.size<=wr.heap.size:=d.bel.size;by_cases m:l=[]
 .subst m;have P:∃p c,v=.slice p 0 c:=by
   rcases b.2 with⟨rfl,_⟩|⟨g,n,o,rfl,_⟩
   .exact⟨_,_,rfl⟩
   .exact⟨_,_,rfl⟩
  obtain⟨p,c,rfl⟩:=P;refine(WX p c _ wr).mono ?_;rintro e y ⟨rfl,rfl⟩;exact⟨rfl,E,[],d.sub,i,d.nd,t,by simpa using b,d.bel⟩
 .refine(zbc b (by have:=d.cnt;omega) m).mono ?_;rintro e y ⟨rfl,B,C⟩;refine⟨rfl,E,l,d.sub,i,d.nd,t,B,d.bel.grown C u λa z=>?_⟩;rcases b.2 with⟨rfl,_⟩|⟨g,n,o,rfl,q,_⟩
  .simp[Value.ownBlock]at z
  .have:g=a:=by simpa[Value.ownBlock]using z
   exact this▸q
theorem WR(x y z:V3)(h:ltOf NF x y=M)(g:ltOf NF y z=M):ltOf NF x z=M:=by
 simp only[ltOf,ed]at h g|-;intro d;rcases mc x.2 y.2 h with e|e
 .unfold NF at d;rw[e]at d;exact g d
 .exact g (em (a:=y.1) (b:=x.1) (c:=z.1) e d)
theorem WQ(x y:V3):(!(ltOf NF y x)||!(ltOf NF x y))=Z:=by
 by_cases h:qE y.1 x.1
 .have:ltOf NF x y=M:=by
   simp only[ltOf,ed];exact λg=>eB (a:=y.1) (em (a:=y.1) (b:=x.1) (c:=y.1) h g)
  simp[this]
 .have:ltOf NF y x=M:=by
   simp only[ltOf,ed];exact h
  simp[this]
theorem SI(l:List V3)(j:(l.map (·.1)).Nodup) (i:∀x∈l,x.1.1≠0):(l.mergeSort λx y=>!(ltOf NF) y x).map (·.1)=jk (l.map (·.1)):=by
 by_cases d:l=[]
 .subst d;simp[jk]
 .refine zcc ?_ ((List.mergeSort_perm l _).map _) ?_
  .have e:l.map (·.1)≠[]:=by simpa using d
   simp only[td,aO,ep,bc,bne_iff_ne,ne_eq];refine⟨⟨λx k=>?_,j⟩,by simpa using d⟩;obtain⟨y,m,rfl⟩:=bt.1 k;exact⟨y.2,i y m⟩
  .rw[List.pairwise_map];refine(List.pairwise_mergeSort (λa b c h g=>?_) (λa b=>WQ a b) l).imp λ{x y} h=>?_
   .simp only[uP]at h g|-;exact WR c b a g h
   .simp only[ltOf,uP,ed]at h;exact h
theorem NN(e:List ((Int×Int×zN)×Int))(k:Int×Int×zN):List.Sublist (Ah e k) e:=by
 unfold Ah;split
 .exact List.eraseIdx_sublist _ _
 .exact List.Sublist.refl _
theorem By(k:Int×Int×zN):∀(e:List ((Int×Int×zN)×Int))(i:Nat),(dc e k i).map (·.1)=(dc e k 0).map (λq=>q.1+i)
 |[],_=>rfl
 | p::r,i=>by
  unfold dc;cases k==p.1 with
  |true=>simp
  | false=>
   simp only[aJ];have a:=By k r (i+1);have x:=By k r 1;rw[a];cases h:dc r k 0 with
   |none=>rw[h]at x;cases b:dc r k (0+1)<;>simp_all
   | some q=>
    rw[h]at x;cases b:dc r k (0+1)with
    |none=>simp_all
    |some c=>simp_all;omega
theorem V2(p:(Int×Int×zN)×Int)(r:List ((Int×Int×zN)×Int))(k:Int×Int×zN):Ah (p::r) k=if k=p.1 then r else p::Ah r k:=by
 unfold Ah;by_cases h:k=p.1
 .simp[dc,h]
 .have b:(k==p.1)=M:=by simpa using h
  rw[zh h];simp only[dc,b,aJ];have:=By k r 1;cases a:dc r k (0+1)with
  | none=>
   rw[a]at this;cases x:dc r k 0 with
   |none=>rfl
   |some q=>rw[x]at this;simp at this
  | some q=>
   rw[a]at this;cases x:dc r k 0 with
   |none=>rw[x]at this;simp at this
   | some c=>
    rw[x]at this;have e:q.1=c.1+1:=by simpa using this
    simp[e]
theorem Er(k:Int×Int×zN):∀{c:List ((Int×Int×zN)×Int)},(c.map (·.1)).Nodup->∀x,x∈(Ah c k).map (·.1)↔x∈c.map (·.1)/\x≠k
 |[],_,x=>by simp[Ah,dc]
 | p::r,hn,x=>by
  rw[er,List.nodup_cons]at hn;rw[V2];split
  next h=>subst h;rw[er,ce];refine⟨λa=>⟨.inr a,λe=>hn.1 (e▸a)⟩,λ⟨h,b⟩=>h.resolve_left b⟩
  .rename_i h;rw[er,ce,er,ce,Er k hn.2 x];refine⟨λa=>?_,λ⟨a,b⟩=>a.imp id λa=>⟨a,b⟩⟩;rcases a with rfl|a
   .exact⟨.inl rfl,λe=>h e.symm⟩
   .exact⟨.inr a.1,a.2⟩
theorem A4{α β:Type}{f:α->β}:∀{l:List α},(l.map f).Nodup->∀{a b:α},a∈l->b∈l->f a=f b->a=b
 |[],_,_,_,d,_,_=>by cases d
 | x::r,hn,a,b,d,hb,e=>by
  rw[er,List.nodup_cons]at hn;rcases ce.1 d with c|c
  .rcases ce.1 hb with h|h
   .rw[c,h]
   .exact zB (show f x∈r.map f from bt.2 ⟨b,h,by rw[<-e,c]⟩) hn.1
  .rcases ce.1 hb with h|h
   .exact zB (show f x∈r.map f from bt.2 ⟨a,c,by rw[e,h]⟩) hn.1
   .exact A4 hn.2 c h e
theorem O3:∀{l m:List Nat},l.Nodup->(∀x∈l,x∈m)->N l<=N m
 |[],m,_,_=>by simp
 | a::r,m,hn,h=>by
  rw[List.nodup_cons]at hn;have b:=h a uO;have d:=O3 (l:=r) (m:=m.erase a) hn.2 λx c=>(List.mem_erase_of_ne (λe:x=a=>hn.1 (e▸c))).2 (h x (np _ c))
  have g:=List.length_erase_of_mem b;have i:=List.length_pos_of_mem b;rw[fB];omega
theorem O0(h:bg a=Z)(x:a.1=0):a=(0,0,[]):=by have⟨k,n,s⟩:=a;subst x;unfold bg at h;simp at h;simp[h]
theorem rI(h:cR p=cR q):p=q:=by have⟨a,x,b⟩:=p;have⟨c,d,e⟩:=q;simpa[cR]using h
theorem Pd(a:(h.toList.map λx=>(x.key,x.val))=HK Z e):h.toList.map (·.key)=(e.map (·.1)).map cR:=by have:=congrArg (List.map Prod.fst) a;simpa[HK,qL,BH]using this
theorem vD{n:zr}(b:∀x∈j,bg x=Z)(c:∀x∈n,bg x=Z)(h:∀x,x.1≠0->(x∈j↔x∈n)):jk j=jk n:=by
 have⟨l,d⟩:=ta b;have⟨m,e⟩:=ta c;refine Mt l m λx=>?_
 rw[d,e];exact⟨λa=>⟨(h x a.2).1 a.1,a.2⟩,λa=>⟨(h x a.2).2 a.1,a.2⟩⟩
theorem WI(he:(h.toList.map λd=>(d.key,d.val))=HK Z e)(hn:(e.map (·.1)).Nodup) (P:∀p∈e,bg p.1=Z) (U:∀p∈e,p.1.1≠0)
   (s:∀p∈E,p.2∈h.toList/\p.2.key=cR p.1) (t:∀x∈h.toList,x.born∈E.map λp=>p.2.born) (G:(E.map λp=>p.2.born).Nodup) (v:(h.toList.map (·.born)).Nodup)  (D:l.map (·.1)=E.map (·.1)):
  (l.mergeSort λx y=>!(ltOf NF) y x).map (·.1)=jk (e.map (·.1)):=by
 have z:=Pd he;have C:(h.toList.map (·.key)).Nodup:=by
  rw[z];exact List.Pairwise.map _ (λa b c d=>c (rI d)) hn
 have m:∀p∈E,p.1∈e.map (·.1):=λp g=>by
  have⟨h1,h2⟩:=s p g;have:p.2.key∈h.toList.map (·.key):=bt.2 ⟨_,h1,rfl⟩;rw[z,h2]at this;have⟨k,A,B⟩:=bt.1 this;exact rI B▸A
 have F:(E.map (·.1)).Nodup:=by
  unfold List.Nodup at G|-;rw[List.pairwise_map]at G|-;refine G.imp_of_mem λ{p q} g n c d=>c ?_
  have⟨H,o⟩:=s p g;have⟨q1,q2⟩:=s q n;have:p.2.key=q.2.key:=by rw[o,q2,d]
  rw[A4 C H q1 this]
 rw[SI l (by rw[D];exact F) (λx i=>by
  have:x.1∈E.map (·.1):=by rw[<-D];exact bt.2 ⟨x,i,rfl⟩
  have⟨p,g,d⟩:=bt.1 this;have⟨q,n,u⟩:=bt.1 (m p g);rw[<-d,<-u];exact U q n),D]
 refine vD (λx i=>?_) (λx i=>?_) λx _=>⟨λi=>?_,λi=>?_⟩
 .obtain⟨p,g,rfl⟩:=bt.1 i;have⟨q,n,u⟩:=bt.1 (m p g);exact u▸P q n
 .obtain⟨p,g,rfl⟩:=bt.1 i;exact P p g
 .obtain⟨p,g,rfl⟩:=bt.1 i;exact m p g
 .have:cR x∈h.toList.map (·.key):=by rw[z];exact bt.2 ⟨x,i,rfl⟩
  have⟨d,j,w⟩:=bt.1 this;have⟨p,g,hb⟩:=bt.1 (t d j);have⟨H,o⟩:=s p g;have:p.2=d:=A4 v H j hb;rw[this,w]at o;exact bt.2 ⟨p,g,(rI o).symm⟩
theorem zat:∀l:List Value,N l=46->∃v0 v1 v2 v3 v4 v5 v6 v7 v8 v9 v x a b c d e g i j v20 k m n o p q s t u w y z A B C D E F G H P U h0 h1 h2,l=[v0,v1,v2,v3,v4,v5,v6,v7,v8,v9,v,x,a,b,c,d,e,g,i,j,v20,k,m,n,o,p,q,s,t,u,w,y,z,A,B,C,D,E,F,G,H,P,U,h0,h1,h2]:=by
 intro l h
 match l,h with
 |v0::v1::v2::v3::v4::v5::v6::v7::v8::v9::v::x::a::b::c::d::e::g::i::j::v20::k::m::n::o::p::q::s::t::u::w::y::z::A::B::C::D::E::F::G::H::P::U::h0::h1::h2::[],_=>exact⟨v0,v1,v2,v3,v4,v5,v6,v7,v8,v9,v,x,a,b,c,d,e,g,i,j,v20,k,m,n,o,p,q,s,t,u,w,y,z,A,B,C,D,E,F,G,H,P,U,h0,h1,h2,rfl⟩
theorem WP(n:Int)(w:World)(v0 v1 v2 v3 v4 v5 v6 v7 v8 v9 v h x b c d g i j k l m o p q s u y z A B C D E F G H P U h0 h1 h2 h3 h4:Value):
  FF.wp prog (λe a w'=>e=.exit 0/\w'=w/\∃t:List Value,a=⟨t.toArray,[]⟩/\N t=46/\t[6]?=Y v6) {tmps:=#[v0,v1,v2,v3,v4,v5,v6,v7,v8,v9,v,h,x,b,c,d,g,i,j,(Value.int .i64 n),(Value.int .i64 n),k,l,m,o,p,q,s,u,y,z,A,B,C,D,E,F,G,H,P,U,h0,h1,h2,h3,h4],defers:=[]} w:=by
 simp only[FF,f32]
 go_wp2
theorem zwy:f32.results=#[.tmp 4]:=kw
theorem Xl{tmps:Array Value}(h:tmps[4]?=Y v):(results f32 tmps).run prog w=.ok v w:=by
 have x:tmps.getD 4 undef=v:=by rw[qX,h];rfl
 rw[GS,zwy];simp[GQ,x]
theorem zaK:cR (0,0,[])=.agg #[.int .i64 0,.int .i64 0,.string ⟨#[]⟩]:=rfl
theorem zfx{U:Nat->Prop}{base:Nat}(hU:∀b,U b->b<base)[Inhabited V3](C:∀x∈l,eV x.1)(G:N l<=1000){m:List V3}(H:List.Perm m l)(t:w.ownsRow base 30 3 v (N l) (m.flatMap lh)):
  Rv w U (λ_=>none) (.sl R (m.map (·.1))) v:=by
 have B:N m=N l:=H.length_eq;rcases t.2 with⟨rfl,h0⟩|⟨g,y,e,rfl,h1,o,h3,h2,z,D⟩
 .have:m=[]:=List.length_eq_zero_iff.1 S;rw[this];exact .sl0 R _ _
 .have P:(m.map (·.1)).length=N l:=by simp[B]
  rw[<-P];refine .sl R _ g 0 y (λi j=>(e[i*3+j]?).getD undef) S um (mZ.1 o).1 (λh=>by have:=hU g h;omega) (λi j F u=>?_) (λi F j c a=>?_)
  .have u:j<3:=u;have A:i*3+j<e.size:=by rw[z];omega
   simp[World.cell?,o,uD A,show ze.size=3 from rfl]
  .have p:i<N m:=by simpa using F
   have u:j<3:=by
    have:=(dF.1 a).1
    rwa [au]at this
   have E:=xm m (i*3+j) S;rw[show(i*3+j)/3=i by omega,show(i*3+j)%3=j by omega,<-D,List.getElem?_take_of_lt S,ru,getElem!_pos m i p]at E;rw[E];simp only[bK];have d:=C m[i] (H.mem_iff.1 (bh p));simp only[List.getElem_map]at a;generalize m[i]=x at a d;have⟨⟨k,n,s⟩,hx⟩:=x
   match j,u,a with
   |0,_,a=>cases a;exact .int _ _ d.1
   |1,_,a=>cases a;exact .int _ _ d.2.1
   |2,_,a=>cases a;exact .str _ d.q
theorem zf7{E:cy}(qp:E.P=prog){C:eU}(hC:∀id,C.ρ0 id=none)(es:List ((Int×Int×zN)×Int))(x4:N es<=1000)(hn:(es.map (·.1)).Nodup) (hm:∀p∈es,bg p.1=Z) (x5:zy) (j2:List (L ze.sl)) (n:Int):
  Reach E C 32 (aq f32 4) (Rf (.h4 x5 j2 n n es)).2 (λr h=>aX h [ze.sl] r=Y (jk (es.map (·.1)),())):=by
 intro b cs a w U ρ x1 a5 hc F;rw[qp];rw[zm9];have u:a.tmps.toList.length=46:=by rw[<-hc.tm.len];rfl
 have⟨⟨ts⟩,df⟩:=a;have h3:df=[]:=hc.df;subst h3;obtain⟨v0,v1,v2,v3,v4,v5,v6,v7,v8,v9,n8,n9,v12,v13,v14,v15,v16,v17,v18,v19,v20,v21,v22,v23,v24,v25,v26,v27,v28,v29,v30,v31,v32,v33,v34,v35,v36,v37,v38,v39,v40,v41,v42,v43,v44,v45,rfl⟩:=zat ts u;have r6:=hc.tm.rv 6 (.mp 0) v6 rfl rfl;have j3:=hc.tm.rv 19 (J n) v19 rfl rfl;have j4:=hc.tm.rv 20 (J n) v20 rfl rfl;have ho:bz w U ρ 0 (.vmap Z es):=hc.hp.ob 0;have a6:=hc.hp.blk 0;clear u;cases j3 with|int _ _ _=>
 cases j4 with|int _ _ _=>
 have⟨r,h8,d,q1,q2,q3,q4,q5,q6⟩:=ho;cases r6 with|mp _ _ q7 _=>
 rw[q1]at q7;cases q7;have i3:C.B0 r\/C.w0.heap.size<=r:=a6 r ⟨rfl,_,q1,rfl⟩;have⟨c,y,x3,H,x2⟩:=zeO (P:=prog) (mt:=158) (kt:=30) (et:=159) underlying158 kw (k:=(0,0,[])) ⟨by unfold dw;decide,by unfold dw;decide,aK _⟩ q3 q4 q5 q6;rw[zaK]at y;have i4:r<w.heap.size:=(mZ.1 q3).1;obtain⟨D,t⟩:∃D:World,({w with heap:=w.heap.setIfInBounds r (.map c d)}:World)=D:=⟨_,rfl⟩;rw[t]at y;have hs1:D.heap.size=w.heap.size:=by rw[<-t];simp
 have x6:D.heap[r]?=Y (.map c d):=by rw[<-t];simp[i4]
 have i2:∀j,j≠r->D.heap[j]?=w.heap[j]?:=λj B=>by rw[<-t];simp[Array.getElem?_setIfInBounds_ne (Ne.symm B)]
 have x7:=Pd x3;have a7:((Ah es (0,0,[])).map (·.1)).Nodup:=hn.sublist ((NN _ _).map _);have a8:=NN es (0,0,[]);have hk:∀x∈c.toList,∃k,x.key=cR k/\k∈(Ah es (0,0,[])).map (·.1):=λx o=>by
  have:x.key∈c.toList.map (·.key):=bt.2 ⟨x,o,rfl⟩;rw[x7]at this;have⟨k,k1,k2⟩:=bt.1 this;exact⟨k,k2.symm,k1⟩
 have a0:c.size<=1000:=by
  have:=congrArg N x7;simp only[cY,Array.length_toList]at this;rw[this];exact aV a8.length_le x4
 have hinh:Inhabited V3:=⟨⟨(0,0,[]),kw⟩⟩;have m:∀x:zo,x∈(Ah es (0,0,[])).map (·.1)->bg x=Z/\eV x/\x.1≠0:=λx o=>by
  have⟨j0,j1⟩:=(Er (0,0,[]) hn x).1 o;obtain⟨p,s,rfl⟩:=bt.1 j0;exact⟨hm p s,(q5 p s).2,λh0=>j1 (O0 (hm p s) h0)⟩
 obtain⟨e1,a1,wx,⟨rfl,rfl,ts,rfl,i7,i6⟩,x0⟩:=WP n w v0 v1 v2 v3 v4 v5 (.map (Y r)) v7 v8 v9 n8 n9 v12 v13 v14 v15 v16 v17 v18 v21 v22 v23 v24 v25 v26 v27 v28 v29 v30 v31 v32 v33 v34 v35 v36 v37 v38 v39 v40 v41 v42 v43 v44 v45 b [.inLoop FF,.inBlock 0,.code GR] cs;have j5:=x0 [.code GR] rfl;obtain⟨u0,u1,u2,u3,u4,u5,u6,u7,u8,u9,j6,j7,j8,j9,k3,k4,k5,k6,k7,k8,k9,l0,l1,l2,l3,l4,l5,l6,l7,l8,l9,m1,m2,m3,m4,m6,m7,m8,m9,n1,n2,n3,n4,n5,n6,n7,rfl⟩:=zat ts i7;have i8:u6=.map (Y r):=by simpa using i6
 subst i8
 obtain⟨e2,a2,w',⟨rfl,v,i9,h3,hK⟩,G⟩:=zf9 (λe a w'=>e=.ret/\∃v,a.tmps[4]?=Y v/\a.defers=[]/\zdY D c v w') (zdY D c) r c d wx D y x6 H x2 (λx o=>(hk x o).imp λ_ h=>h.1) a0
  (λv wr seen E hC h0=>VZ hC h0 (λp s=>by
   have⟨s1,s2⟩:=hC.sub p s;have⟨k,k1,k2⟩:=hk _ s1;rw[s2]at k1;exact rI k1▸(m k k2).1) a0) (λv w' a hS h4 hd=>⟨rfl,v,h4,hd,hS⟩) u0 u1 u2 u3 u4 u5 u7 u8 u9 j6 j7 j8 j9 k3 k4 k5 k6 k7 k8 k9 l0 l1 l2 l3 l4 l5 l6 l7 l8 l9 m1 m2 m3 m4 m6 m7 m8 m9 n1 n2 n3 n4 n5 n6 n7 b [] cs
 have⟨a3,i5⟩:=G;have⟨E,l,h7,a4,nd,hl,x8,i⟩:=hK;have h5:=WI x3 a7 (λp s=>(m _ (bt.2 ⟨p,s,rfl⟩)).1) (λp s=>(m _ (bt.2 ⟨p,s,rfl⟩)).q) h7 a4 nd x2 hl;have h9:jk ((Ah es (0,0,[])).map (·.1))=jk (es.map (·.1)):=vD (λx o=>(m x o).1) (λx o=>by obtain⟨p,s,rfl⟩:=bt.1 o;exact hm p s) λx o=>by
  rw[Er (0,0,[]) hn x];exact⟨λh=>h.1,λh=>⟨h,λe=>o (by rw[e])⟩⟩
 have i0:∀x∈l,eV x.1:=λx o=>by
  have:x.1∈E.map (·.1):=by rw[<-hl];exact bt.2 ⟨x,o,rfl⟩
  have⟨p,s,e⟩:=bt.1 this;have⟨s1,s2⟩:=h7 p s;have⟨k,k1,k2⟩:=hk _ s1;rw[s2]at k1;rw[<-e];exact rI k1▸(m k k2).2.1
 have i1:N l<=1000:=by
  have h1:N l=N E:=by simpa using congrArg N hl
  have h2:(E.map λp=>p.2.born).length<=(c.toList.map (·.born)).length:=O3 nd λx o=>by
   obtain⟨p,s,rfl⟩:=bt.1 o;exact bt.2 ⟨p.2,(h7 p s).1,rfl⟩
  simp only[cY,Array.length_toList]at h2;omega
 have z:∀j,j<wx.heap.size->j≠r->w'.heap[j]?=wx.heap[j]?:=λj B a9=>by rw[i.block j S,i2 j a9]
 have A:wx.heap.size<=w'.heap.size:=by have:=i.size;omega
 have x9:=zfx (U:=U) (base:=D.heap.size) (λb hb=>by have:=F.ub b hb;omega) i0 i1 (List.mergeSort_perm l _) x8;rw[h5,h9]at x9;refine⟨.returned v,w',{b.at a2 a3 with mode:=.returning},⟨v,.sl R (jk (es.map (·.1))),[],U,λ_=>none,rfl,?_,x9,⟨λid=>by simp[bz],λ_ _ _ h=>by simp[ar]at h,λ_ _ h=>by simp[ar]at h⟩,λ_ _=>rfl,λid v h=>(by rw[hC id]at h;cases h),?_⟩,mh j5 i5,x1,rfl,h3,a5,f32,?_,Xl i9⟩
 .rfl
 .refine⟨F.ext.trans ⟨A,?_,?_,?_,λx o=>?_⟩,λj B hB=>?_,λj B=>ie (F.ub j B) A,F.u1,F.u2,λg=>(F.gl g).mono A (λj B hu=>z j B λe=>hu (e▸q2)) (λ_ _ h=>h) (λ_ _ h=>h)⟩
  .rw[i.os,<-t]
  .rw[i.output,<-t]
  .rw[i.tape,<-t]
  .by_cases h6:x.block=r
   .have h1:w'.heap[x.block]?=Y (.map c d):=by rw[h6,i.block r S,x6]
    have h2:wx.heap[x.block]?=Y (.map h8 d):=by rw[h6,q3]
    simp[World.frozen?,h1,h2]
   .exact BF (z _ o h6)
  .rw[z j (ie B F.ext.sz) λe=>i3.elim (λh=>hB (e▸h)) (λh=>by omega)];exact F.same j B hB
 .show prog.funcs[b.fn]?=Y f32;rw[x1];kernel_rfl
end
end Cad
