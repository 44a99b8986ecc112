/- Few of anything. -/
import Derived.Test.YtjdjldbhjmgmkaaGreatDoorK16
import Derived.Maps.RangeWalk
import Derived.LoopTactic
import Derived.Shelf.SlSortCmp.NoneTotal
namespace Cad
open Go Go.Proofs
open List renaming length→Io
open IntKind renaming wrap→Γ,i64→Δ
open Tr renaming chk→Qc,«to»→Q9,val→Q8
open AV renaming nils→Qb
open AO renaming box→Qa
open Sh renaming str→Q6,expr→Q5
open Bool renaming false→Q4,true→Q3
open Option renaming some→Q1
open Decidable renaming decide→Q0
open Int (toNat)
open List (getD)
open Tr (chk br re)
open AV (nils agg tup ptr kb str sl)
noncomputable section
set_option maxHeartbeats 4000000
def H2(l h:List eU):Prop:=Io h<=201/\∀r∈h,∃x∈l,r=mq x
theorem zuA(n:Nat)(a:Int)(p:a<=201)(v:0<=a)(z:zn cpR)(l:zn zjG)(t:aq)(q:300<=n):∃x:List eU,H2 z.1.2 x/\∃r,dv UO n (.h6 a 0 z l (t,[],()))=Q1 r/\aS r.2 [zk] r.1=Q1 (((t,x):ah),()):=by
 obtain⟨N,m⟩:∃N:Nat,a=(N:Int):=⟨toNat a,ow⟩;have h:=dw (t:=UO) (β:=List eU) (min N (Io z.1.2)) (λb i=>.h6 a (i:Int) z l (t,b,())) (λb i=>Io b=i/\∀r∈b,∃s∈z.1.2,r=mq s) (λr=>∃x:List eU,H2 z.1.2 x/\aS r.2 [zk] r.1=Q1 (((t,x):ah),())) 1 (by
   intro b i w d;have e:(i:Int)<(Io z.1.2:Int):=by omega
   have g:(i:Int)<a:=by omega
   have j:zK (i:Int) (Io z.1.2)=Q3:=zz ow;refine Or.inl ⟨b++[mq (getD z.1.2 (i:Int).toNat (zi zf.sl))],⟨by simp[d.1],λr c=>?_⟩,?_⟩
   .rcases bZ.1 c with c|c
    .exact d.2 r c
    .rw[dO]at c;refine⟨_,?_,c⟩;rw[aK,aZ,zZ ow,bM];exact bp _
   simp only[UO,Q8,zy e,zy g,ax,zh,j];rw[zt i um,ze sg]) (by
   intro b n d q;obtain⟨n,rfl⟩:∃k,n=k+1:=⟨n-1,ow⟩;rw[cK];have o:(cond (Q0 (((min N (Io z.1.2):Nat):Int)<(Io z.1.2:Int))) (Q0 (((min N (Io z.1.2):Nat):Int)<a)) Q4)=Q4:=by
    by_cases h:N<=Io z.1.2
    .rw[F6 h,m];simp
    .rw[F4 ow];simp
   simp only[UO,Q8,o];refine⟨_,rfl,b,⟨by have:=d.1;omega,d.2⟩,?_⟩;obtain⟨t0,y,A,B,C,u⟩:=t;cases u;rfl) (min N (Io z.1.2)) 0 [] n rfl (aL _) ⟨rfl,sw⟩ ow
 obtain⟨r,e,x,g,j⟩:=h;exact⟨x,g,r,e,j⟩
theorem Mr(x:ah):∃h:List eU,H2 x.2 h/\Dr x=Q1 (((E6 x.1,h):ah),()):=by
 have e:E6 (x.1.1,x.1.2.1,x.1.2.2.1,x.1.2.2.2.1,x.1.t.1,zr x.1.t.2)=E6 x.1:=by rw[zm]
 have a:∃k:Int,0<=k/\k<=201/\(zkl x).val=Q1 (.inl (.h6 k 0 (x,()) ([],0,[],0,0,[],[],()) (E6 x.1,[],()))):=by
  simp only[zkl,Q8,e];split
  .exact⟨201,ow,ow,rfl⟩
  .exact⟨40,ow,ow,rfl⟩
 obtain⟨k,g,i,a⟩:=a;obtain⟨h,b,r,c,d⟩:=zuA 100000000 k i g (x,()) ([],0,[],0,0,[],[],()) (E6 x.1) ow;refine⟨h,b,?_⟩;unfold Dr ao bR;rw[a];show(dv UO 100000000 _).bind _=_;rw[c];exact d
theorem Mq(x:ah):Ph x=Q3:=by obtain⟨h,b,a⟩:=Mr x;unfold Ph;rw[a];rfl
theorem Yd(a:zP):∃d:zP,Dt a=Q1 (d,())/\Io d<=13/\∀x∈d,∃y∈a,x=Ap y:=by
 have h:=dw (t:=t7p) (β:=zP) (min 13 (Io a)) (λb i=>.h3 a (i:Int) b) (λb i=>Io b=i/\∀x∈b,∃y∈a,x=Ap y) (λr=>∃d:zP,aS r.2 [zk.sl] r.1=Q1 (d,())/\Io d<=13/\∀x∈d,∃y∈a,x=Ap y) 1 (by
   intro b i q e;have g:(i:Int)<(Io a:Int):=by omega
   have l:(i:Int)<13:=by omega
   have m:zK (i:Int) (Io a)=Q3:=zz ow;refine Or.inl ⟨b++[Ap (a.getD (i:Int).toNat (zi zk))],⟨by simp[e.1],?_⟩,?_⟩
   .intro x c;rcases bZ.1 c with c|c
    .exact e.2 x c
    .rw[dO]at c;refine⟨_,?_,c⟩;rw[aK,aZ,zZ ow,bM];exact bp _
   .simp only[t7p,Q8,zy g,zy l,ax,zh,m,zm,aQ,Mq];rw[zt i um,ze sg]) (by
   intro b n e s;obtain⟨n,rfl⟩:∃k,n=k+1:=⟨n-1,ow⟩;rw[cK];have p:(cond (Q0 (((min 13 (Io a):Nat):Int)<(Io a:Int))) (Q0 (((min 13 (Io a):Nat):Int)<13)) Q4)=Q4:=by
    by_cases h:13<=Io a
    .rw[F6 h];simp
    .rw[F4 ow];simp
   simp only[t7p,Q8,p];exact⟨_,rfl,b,rfl,ow,e.2⟩) (min 13 (Io a)) 0 [] 100000000 rfl (aL _) ⟨rfl,sw⟩ ow
 obtain⟨r,g,d,l,m,o⟩:=h;refine⟨d,?_,m,o⟩;unfold Dt ao bR;simp only[i7p,Q8];have j:dv t7p 100000000 (.h3 a 0 [])=Q1 r:=g;rw[j];exact l
theorem kG(s:zH):fF s=Q3:=by
 unfold fF;split
 .rename_i h;have:20<Io s:=by simp at h;omega
  rw[ze sg]
 .rfl
theorem e8(s:zH):(dz s).length<=20:=by
 unfold dz;split
 .simp;omega
 .rename_i h;have:¬20<Io s:=by simp at h;omega
  omega
theorem po:∀(l:List zH)(i:Int)(a:List zH),(Io a:Int)<=i->fW l i a=Q3
 |[],_,_,_=>rfl
 | x::r,i,a,h=>by
  rw[fW];split
  next b=>simp only[aR]at b;rw[ze (kG x),ze sg];exact po r (i+1) _ sg
  .rfl
theorem FD(l:List zH):ql l=Q3:=po l 0 [] sw
theorem sV:∀(l:List zH)(i:Int)(a:List zH),(Io a:Int)<=i->Io a<=10->(∀x∈a,Io x<=20)->Io (eO l i a)<=10/\∀x∈eO l i a,Io x<=20
 |[],_,a,_,h,c=>⟨h,c⟩
 | x::r,i,a,h,hl,c=>by
  rw[eO];split
  .rename_i d;simp only[aR]at d;refine sV r (i+1) _ sg sg (λy b=>?_);rcases bZ.1 b with b|b
   .exact c y b
   .rw[dO]at b;rw[b];exact e8 x
  .exact⟨hl,c⟩
theorem Ao(l:List zH):Io (kF l)<=10/\∀x∈kF l,Io x<=20:=sV l 0 [] sw sw sw
theorem zdO(s:zH):(jy s).length<=20:=by
 unfold jy;split
 .simp;omega
 next h=>simp at h;omega
theorem Ua(l:aM):Io (jR l)<=10/\∀x∈jR l,Io x.1<=20:=by refine⟨by show((List.take 9 l).map _).length<=10;rw[cz,pQ];omega,λc h=>?_⟩;obtain⟨x,_,rfl⟩:=aE.1 h;exact zdO x.1
theorem Uc(l:zw):Io (mq l)<=14:=by show((List.take 14 l).map _).length<=14;rw[cz,pQ];omega
theorem Iq(e:za):oe 16 (ia e)=Q3:=by
 obtain⟨r,m,x,a⟩:=IM (P:=λN _ r=>oe N r=Q3) (λN e o t s l b d _ _=>by
  show(Q0 (Io l<=1073741824)&&l.all (oe N))=Q3;rw[dJ.2 λy c=>by obtain⟨_,_,h⟩:=b y c;exact h];simp;omega) 16 e 14 80 ow ow ow
 unfold ia;rw[za.eta,show sD 16 e 14 80=(r,m) by unfold sD;rw[x];rfl];exact a
structure NY (s:zJ):Prop where
 sh:mF s
 cp:oe 16 s.t.t.1=Q3
def F3I(h:zn pG)(i:Nat)(z:zn V0):Prop:=Io z.1<=20/\Io z.2.1<=20/\Io z.2.2.1<=20/\(Io z.2.2.2.1<=10/\∀x∈z.2.2.2.1,Io x<=20)/\(Io z.t.1<=10/\∀x∈z.t.1,Io x.1<=20)/\Io z.t.2.1<=20/\
 (Io z.t.q.1<=10/\∀x∈z.t.q.1,Io x<=20)/\(Io z.t.q.2.1=i/\∀x∈z.t.q.2.1,Io x.1<=20/\Io x.2<=20)/\oe 16 z.t.t.1=Q3/\Io z.t.t.2.1<=14/\Io z.t.t.q.2.1<=20/\
 z.t.t.1=ia h.1.t.t.1/\z.t.t.2.1=mq h.1.t.t.2.1/\z.t.t.q.1=ia h.1.t.t.q.2.1
def F7I(h:zn pG)(i:Nat)(z:zn V1):Prop:=Io z.1<=20/\Io z.2.1<=20/\Io z.2.2.1<=20/\(Io z.2.2.2.1<=10/\∀x∈z.2.2.2.1,Io x<=20)/\(Io z.t.1<=10/\∀x∈z.t.1,Io x.1<=20)/\Io z.t.2.1<=20/\
 (Io z.t.q.1<=10/\∀x∈z.t.q.1,Io x<=20)/\(Io z.t.q.2.1<=10/\∀x∈z.t.q.2.1,Io x.1<=20/\Io x.2<=20)/\oe 16 z.t.t.1=Q3/\Io z.t.t.2.1<=14/\
 (Io z.t.t.q.1=i/\∀x∈z.t.t.q.1,Io x.1<=20/\∃y∈h.1.t.t.q.1,x.2=ia y.2)/\Io z.t.t.t.1<=20/\
 z.t.t.1=ia h.1.t.t.1/\z.t.t.2.1=mq h.1.t.t.2.1/\z.t.t.q.2.1=ia h.1.t.t.q.2.1
structure zfn (s0 s:zJ):Prop where
 chk:s.t.t.1=ia s0.t.t.1
 row:s.t.t.2.1=mq s0.t.t.2.1
 whr:s.t.t.q.2.1=ia s0.t.t.q.2.1
 sets:∀x∈s.t.t.q.1,∃y∈s0.t.t.q.1,(x:Sem io).2=ia (y:Sem io).2
def zbC(h:zJ)(r:aw):Prop:=∃s:zJ,aS r.2 [ar] r.1=Q1 (s,())/\NY s/\zfn h s
theorem fs7(b:zn pG)(s:zn jg)(z:zn V1)(E:F7I b 0 z)(n:Nat)(D:20<=n):∃r,dv t8p n (.h7 0 b s z)=Q1 r/\zbC b.1 r:=by
 refine dw (t:=t8p) (β:=zn V1) (min 10 (Io b.1.t.t.q.1)) (λz i=>.h7 (i:Int) b s z) (λz i=>F7I b i z) (zbC b.1) 1 ?_ ?_ (min 10 (Io b.1.t.t.q.1)) 0 z n rfl (aL _) E ow
 .intro z i N p;obtain⟨v,w,y,g,j,A,l,m,o,B,c,e,d⟩:=p;have F:(i:Int)<(Io b.1.t.t.q.1:Int):=by omega
  have G:(i:Int)<10:=by omega
  have H:zK (i:Int) (Io b.1.t.t.q.1)=Q3:=zz ow;refine Or.inl ⟨(z.1,z.2.1,z.2.2.1,z.2.2.2.1,z.t.1,z.t.2.1,z.t.q.1,z.t.q.2.1,z.t.t.1,z.t.t.2.1,z.t.t.q.1++[(dz (getD b.1.t.t.q.1 (i:Int).toNat (zi io)).1,zr (ia (zr (getD b.1.t.t.q.1 (i:Int).toNat (zi io)).2)))],z.t.t.q.2),⟨v,w,y,g,j,A,l,m,o,B,?_,e,d⟩,?_⟩;rotate_left 1
  .simp only[t8p,Q8,zy F,zy G,ax,zh,H,kG];rw[zt i um,ze (by have:=c.1;simp;omega)]
  .refine⟨?_,λx a=>?_⟩
   .simp[c.1]
   .rcases bZ.1 a with a|a
    .exact c.2 x a
    .rw[dO]at a;rw[a];exact⟨e8 _,_,ve _ (zi io) (by simpa using(show i<_ by omega)),by simp only[zm,aK]⟩
 .intro z n p D;obtain⟨n,rfl⟩:∃k,n=k+1:=⟨n-1,ow⟩;obtain⟨v,w,y,g,j,A,l,m,o,B,c,e,d⟩:=p;rw[cK];have C:(cond (Q0 (((min 10 (Io b.1.t.t.q.1):Nat):Int)<(Io b.1.t.t.q.1:Int))) (Q0 (((min 10 (Io b.1.t.t.q.1):Nat):Int)<10)) Q4)=Q4:=by
   by_cases h:10<=Io b.1.t.t.q.1
   .rw[F6 h];simp
   .rw[F4 ow];simp
  simp only[t8p,Q8,C];refine⟨_,rfl,(z.1,z.2.1,z.2.2.1,z.2.2.2.1,z.t.1,z.t.2.1,z.t.q.1,z.t.q.2.1,z.t.t.1,z.t.t.2.1,z.t.t.q.1,z.t.t.q.2.1,z.t.t.t.1),?_,⟨?_,o⟩,⟨d.1,d.2.1,d.2.2,λx a=>(c.2 x a).2⟩⟩
  .obtain⟨b,s,O,P,S,T,U,W,M,X,I,u,J,L⟩:=z;cases M;cases u;rfl
  .refine⟨by show Io z.1<=_;omega,by show Io z.2.1<=_;omega,by show Io z.2.2.1<=_;omega,⟨by have:=g.1;show Io z.2.2.2.1<=_;omega,λx a=>by have:=g.2 x a;omega⟩,⟨by have:=j.1;show Io z.t.1<=_;omega,λx a=>by have:=j.2 x a;omega⟩,by show Io z.t.2.1<=_;omega,⟨by have:=l.1;show Io z.t.q.1<=_;omega,λx a=>by have:=l.2 x a;omega⟩,⟨by have:=m.1;show Io z.t.q.2.1<=_;omega,λx a=>by have:=m.2 x a;omega⟩,by show Io z.t.t.2.1<=_;omega,⟨by have:=c.1;show Io z.t.t.q.1<=_;omega,λx a=>by have:=(c.2 x a).1;omega⟩,by show Io z.t.t.t.1<=_;omega⟩
theorem fs3(a:zn pG)(w:zn jg)(z:zn V0)(C:F3I a 0 z)(n:Nat)(B:40<=n):∃r,dv t8p n (.h3 0 a w z)=Q1 r/\zbC a.1 r:=by
 refine dw (t:=t8p) (β:=zn V0) (min 10 (Io a.1.t.q.2.1)) (λz i=>.h3 (i:Int) a w z) (λz i=>F3I a i z) (zbC a.1) 21 ?_ ?_ (min 10 (Io a.1.t.q.2.1)) 0 z n rfl (aL _) C ow
 .intro z i G v;obtain⟨d,e,l,m,o,p,s,b,u⟩:=v;have D:(i:Int)<(Io a.1.t.q.2.1:Int):=by omega
  have E:(i:Int)<10:=by omega
  have F:zK (i:Int) (Io a.1.t.q.2.1)=Q3:=zz ow;refine Or.inl ⟨(z.1,z.2.1,z.2.2.1,z.2.2.2.1,z.t.1,z.t.2.1,z.t.q.1,z.t.q.2.1++[(dz (getD a.1.t.q.2.1 (i:Int).toNat (zi ja)).1,dz (getD a.1.t.q.2.1 (i:Int).toNat (zi ja)).2)],z.t.t),⟨d,e,l,m,o,p,s,?_,u⟩,?_⟩;rotate_left 1
  .simp only[t8p,Q8,zy D,zy E,ax,zh,F,kG];rw[zt i um,ze (by have:=b.1;simp;omega)]
  .refine⟨?_,λx c=>?_⟩
   .simp[b.1]
   .rcases bZ.1 c with c|c
    .exact b.2 x c
    .rw[dO]at c;rw[c];exact⟨e8 _,e8 _⟩
 .intro z n v B;obtain⟨n,rfl⟩:∃k,n=k+1:=⟨n-1,ow⟩;obtain⟨d,e,l,m,o,p,s,b,u,y,g,j⟩:=v;rw[cK];have A:(cond (Q0 (((min 10 (Io a.1.t.q.2.1):Nat):Int)<(Io a.1.t.q.2.1:Int))) (Q0 (((min 10 (Io a.1.t.q.2.1):Nat):Int)<10)) Q4)=Q4:=by
   by_cases h:10<=Io a.1.t.q.2.1
   .rw[F6 h];simp
   .rw[F4 ow];simp
  simp only[t8p,Q8,A];exact fs7 a w _ ⟨d,e,l,m,o,p,s,⟨by have:=b.1;show Io z.t.q.2.1<=_;omega,b.2⟩,u,y,⟨rfl,sw⟩,g,j⟩ n ow
theorem Pg(s:zJ):∃h:zJ,xM s=Q1 (h,())/\NY h/\zfn s h:=by
 unfold xM ao bR;simp only[i8p,Q8,kG,FD,zh]
 obtain⟨r,x,h,a,b⟩:=fs3 (s,()) ([],[],[],[],[],0,0,[],[],[],0,0,[],[],[],()) (dz s.1,dz s.2.1,dz s.2.2.1,kF s.2.2.2.1,jR s.t.1,
  dz s.t.2.1,kF s.t.q.1,[],ia (zr s.t.t.1),mq s.t.t.2.1,ia (zr s.t.t.q.2.1),dz s.t.t.t,())
  ⟨e8 _,e8 _,e8 _,Ao _,Ua _,e8 _,Ao _,⟨rfl,sw⟩,Iq _,Uc _,e8 _,by simp only[zm],rfl,by simp only[zm]⟩ 100000000 ow
 refine⟨h,?_,b⟩;rw[x];exact a
abbrev aG(db:zP)(s:zH):ah:=getD db (toNat (ac db s)) (zi zk)
def FP(d:zP):Prop:=∀x∈d,∀f∈x.1.t.1,LE.le (α:=Int) 0 (ac d f.2)/\∀h∈x.2,(zX f.1 h).1≠0->fY (aG d f.2) (aG d f.2).1.2.2.1 (zX f.1 h)=Q3
def IsF(r:aw):Prop:=r=(.kb Q4,[])
variable {db:zP}{i:Nat}
theorem zbS{x:ah}{f:bV}{k:Nat}(m:LE.le (α:=Int) 0 (ac db f.2))(l:∀g∈x.2,zK f.1 (Io g)=Q3)(n:Io x.2<=1000):
  ((∀j,j<Io x.2->(zX f.1 (getD x.2 j (zi zf.sl))).1≠0->fY (aG db f.2) (aG db f.2).1.2.2.1 (zX f.1 (getD x.2 j (zi zf.sl)))=Q3)/\
   zN gZ (Io x.2*1) (.h11 db (ac db f.2) db (Io db:Int) (i:Int) x.1.t.1 (Io x.1.t.1:Int) (k:Int) x.2 (Io x.2:Int) ((0:Nat):Int) (x,()) (f,()))
    (.h11 db (ac db f.2) db (Io db:Int) (i:Int) x.1.t.1 (Io x.1.t.1:Int) (k:Int) x.2 (Io x.2:Int) (Io x.2:Int) (x,()) (f,())))\/
  ((¬∀j,j<Io x.2->(zX f.1 (getD x.2 j (zi zf.sl))).1≠0->fY (aG db f.2) (aG db f.2).1.2.2.1 (zX f.1 (getD x.2 j (zi zf.sl)))=Q3)/\
   ∃r,z6 gZ (Io x.2*1) (.h11 db (ac db f.2) db (Io db:Int) (i:Int) x.1.t.1 (Io x.1.t.1:Int) (k:Int) x.2 (Io x.2:Int) ((0:Nat):Int) (x,()) (f,())) r/\IsF r):=by
 refine mD (t:=gZ) (Φ:=IsF) 1 (λj=>.h11 db (ac db f.2) db (Io db:Int) (i:Int) x.1.t.1 (Io x.1.t.1:Int) (k:Int) x.2 (Io x.2:Int) (j:Int) (x,()) (f,())) (λj=>(zX f.1 (getD x.2 j (zi zf.sl))).1≠0->fY (aG db f.2) (aG db f.2).1.2.2.1 (zX f.1 (getD x.2 j (zi zf.sl)))=Q3) (Io x.2) ?_;intro j d _
 have e:(gZ (.h11 db (ac db f.2) db (Io db:Int) (i:Int) x.1.t.1 (Io x.1.t.1:Int) (k:Int) x.2 (Io x.2:Int) (j:Int) (x,()) (f,()))).val=
   if(cond ((zX f.1 (getD x.2 j (zi zf.sl))).1!=0) (!fY (aG db f.2) (aG db f.2).1.2.2.1 (zX f.1 (getD x.2 j (zi zf.sl)))) Q4)=Q3 then Q1 (.inr (.kb Q4,[]))else
   Q1 (.inl (.h11 db (ac db f.2) db (Io db:Int) (i:Int) x.1.t.1 (Io x.1.t.1:Int) (k:Int) x.2 (Io x.2:Int) ((j+1:Nat):Int) (x,()) (f,()))):=by
  show(gZ (.h11 _ _ _ _ _ _ _ _ _ _ _ _ _)).val=_;unfold gZ;simp only[zm,Q8,zL d,zz d,l _ (ce d),dT m,aK,zh,sM];rw[ze (by cases((getD (getD x.2 j (zi zf.sl)) (toNat f.1) (zi zf)).1!=0)<;>rfl)];rw[zt j um]
 by_cases b:(zX f.1 (getD x.2 j (zi zf.sl))).1=0
 .exact .inl ⟨λh=>zC b h,zN.of (by rw[e,zg (by rw[b];simp)])⟩
 .have a:((zX f.1 (getD x.2 j (zi zf.sl))).1!=0)=Q3:=by simpa using b
  by_cases c:fY (aG db f.2) (aG db f.2).1.2.2.1 (zX f.1 (getD x.2 j (zi zf.sl)))=Q3
  .exact .inl ⟨λ_=>c,zN.of (by rw[e,zg (by rw[c,a];simp)])⟩
  .exact .inr ⟨λh=>c (h b),_,z6.of (by rw[e,ze (by rw[a];simpa using c)]),rfl⟩
theorem zji{db:zP}{x:ah}{i:Nat}(n:∀f∈x.1.t.1,∀a∈x.2,zK f.1 (Io a)=Q3)(o:Io x.2<=1000)(p:Io x.1.t.1<=1000):
  let P:Nat->Prop:=λk=>LE.le (α:=Int) 0 (ac db (getD x.1.t.1 k (zi zA)).2)/\∀a∈x.2,(zX (getD x.1.t.1 k (zi zA)).1 a).1≠0->fY (aG db (getD x.1.t.1 k (zi zA)).2) (aG db (getD x.1.t.1 k (zi zA)).2).1.2.2.1 (zX (getD x.1.t.1 k (zi zA)).1 a)=Q3
  ((∀k,k<Io x.1.t.1->P k)/\zN gZ (Io x.1.t.1*1002) (.h5 db db (Io db:Int) (i:Int) x.1.t.1 (Io x.1.t.1:Int) ((0:Nat):Int) (x,())) (.h5 db db (Io db:Int) (i:Int) x.1.t.1 (Io x.1.t.1:Int) (Io x.1.t.1:Int) (x,())))\/
  ((¬∀k,k<Io x.1.t.1->P k)/\∃r,z6 gZ (Io x.1.t.1*1002) (.h5 db db (Io db:Int) (i:Int) x.1.t.1 (Io x.1.t.1:Int) ((0:Nat):Int) (x,())) r/\IsF r):=by
 intro P;refine mD (t:=gZ) (Φ:=IsF) 1002 (λk=>.h5 db db (Io db:Int) (i:Int) x.1.t.1 (Io x.1.t.1:Int) (k:Int) (x,())) P (Io x.1.t.1) ?_;intro k e _
 have l:(gZ (.h5 db db (Io db:Int) (i:Int) x.1.t.1 (Io x.1.t.1:Int) (k:Int) (x,()))).val=
   if Q0 (LT.lt (α:=Int) (ac db (getD x.1.t.1 k (zi zA)).2) 0)=Q3 then Q1 (.inr (.kb Q4,[]))else
   Q1 (.inl (.h11 db (ac db (getD x.1.t.1 k (zi zA)).2) db (Io db:Int) (i:Int) x.1.t.1 (Io x.1.t.1:Int) (k:Int) x.2 (Io x.2:Int) ((0:Nat):Int) (x,()) (getD x.1.t.1 k (zi zA),()))):=by
  show(gZ (.h5 _ _ _ _ _ _ _ _)).val=_;unfold gZ;simp only[Q8,zL e,zz e,aK,zh];rfl
 by_cases b:LE.le (α:=Int) 0 (ac db (getD x.1.t.1 k (zi zA)).2)
 .have j:=zN.of (t:=gZ) (s:=.h5 db db (Io db:Int) (i:Int) x.1.t.1 (Io x.1.t.1:Int) (k:Int) (x,())) (by rw[l,zg (by rw[aR];omega)]);rcases zbS (db:=db) (x:=x) (f:=getD x.1.t.1 k (zi zA)) (i:=i) (k:=k) b (n _ (ce e)) o with⟨c,d⟩|⟨c,r,d,m⟩
  .have g:(gZ (.h11 db (ac db (getD x.1.t.1 k (zi zA)).2) db (Io db:Int) (i:Int) x.1.t.1 (Io x.1.t.1:Int) (k:Int) x.2 (Io x.2:Int) (Io x.2:Int) (x,()) (getD x.1.t.1 k (zi zA),()))).val=
     Q1 (.inl (.h5 db db (Io db:Int) (i:Int) x.1.t.1 (Io x.1.t.1:Int) ((k+1:Nat):Int) (x,()))):=by
    show(gZ (.h11 _ _ _ _ _ _ _ _ _ _ _ _ _)).val=_;unfold gZ;simp only[Q8,zG];rw[zt k um];rfl
   refine .inl ⟨⟨b,?_⟩,((j.trans d).trans (zN.of g)).mono ow⟩;exact(aD (Q:=λa=>(zX (getD x.1.t.1 k (zi zA)).1 a).1≠0->fY (aG db (getD x.1.t.1 k (zi zA)).2) (aG db (getD x.1.t.1 k (zi zA)).2).1.2.2.1 (zX (getD x.1.t.1 k (zi zA)).1 a)=Q3)).1 c
  .refine .inr ⟨λh=>c ?_,r,(j.ends d).mono ow,m⟩;exact(aD (Q:=λa=>(zX (getD x.1.t.1 k (zi zA)).1 a).1≠0->fY (aG db (getD x.1.t.1 k (zi zA)).2) (aG db (getD x.1.t.1 k (zi zA)).2).1.2.2.1 (zX (getD x.1.t.1 k (zi zA)).1 a)=Q3)).2 h.2
 .exact .inr ⟨λh=>b h.1,_,(z6.of (by rw[l,ze (by rw[aR];omega)])).mono ow,rfl⟩
theorem K7(p:∀x∈db,∀f∈x.1.t.1,∀a∈x.2,zK f.1 (Io a)=Q3)(q:∀x∈db,gL x)(w:Io db<=13):∃b,AX db=Q1 (b,())/\(b=Q3↔FP db):=by
 have c:=mD (t:=gZ) (Φ:=IsF) 1010000 (λi=>.h2 db db (Io db:Int) (i:Int)) (λi=>∀f∈(getD db i (zi zk)).1.t.1,LE.le (α:=Int) 0 (ac db f.2)/\∀a∈(getD db i (zi zk)).2,(zX f.1 a).1≠0->fY (aG db f.2) (aG db f.2).1.2.2.1 (zX f.1 a)=Q3) (Io db) (by
  intro i g _;have o:=ce (d:=zi zk) g;have m:=q _ o;have u:=m.rf;have v:=m.rw;have s:(gZ (.h2 db db (Io db:Int) (i:Int))).val=Q1 (.inl (.h5 db db (Io db:Int) (i:Int) (getD db i (zi zk)).1.t.1 ((getD db i (zi zk)).1.t.1.length:Int) ((0:Nat):Int) (getD db i (zi zk),()))):=by
   show(gZ (.h2 _ _ _ _)).val=_;unfold gZ;simp only[Q8,zL g,zz g,aK,zh];rfl
  have l:=zN.of s;rcases zji (db:=db) (x:=getD db i (zi zk)) (i:=i) (p _ o) v u with⟨c,e⟩|⟨c,r,e,j⟩
  .have k:(gZ (.h5 db db (Io db:Int) (i:Int) (getD db i (zi zk)).1.t.1 ((getD db i (zi zk)).1.t.1.length:Int) ((getD db i (zi zk)).1.t.1.length:Int) (getD db i (zi zk),()))).val=Q1 (.inl (.h2 db db (Io db:Int) ((i+1:Nat):Int))):=by
    show(gZ (.h5 _ _ _ _ _ _ _ _)).val=_;unfold gZ;simp only[Q8,zG];rw[zt i um];rfl
   refine .inl ⟨?_,((l.trans e).trans (zN.of k)).mono ow⟩;exact(aD (Q:=λf:bV=>LE.le (α:=Int) 0 (ac db f.2)/\∀a∈(getD db i (zi zk)).2,(zX f.1 a).1≠0->fY (aG db f.2) (aG db f.2).1.2.2.1 (zX f.1 a)=Q3)).1 c
  .refine .inr ⟨λh=>c ?_,r,(l.ends e).mono ow,j⟩;exact(aD (Q:=λf:bV=>LE.le (α:=Int) 0 (ac db f.2)/\∀a∈(getD db i (zi zk)).2,(zX f.1 a).1≠0->fY (aG db f.2) (aG db f.2).1.2.2.1 (zX f.1 a)=Q3)).2 h)
 have n:(∀i,i<Io db->∀f∈(getD db i (zi zk)).1.t.1,LE.le (α:=Int) 0 (ac db f.2)/\∀a∈(getD db i (zi zk)).2,(zX f.1 a).1≠0->fY (aG db f.2) (aG db f.2).1.2.2.1 (zX f.1 a)=Q3)↔FP db:=
  aD (Q:=λx:ah=>∀f∈x.1.t.1,LE.le (α:=Int) 0 (ac db f.2)/\∀a∈x.2,(zX f.1 a).1≠0->fY (aG db f.2) (aG db f.2).1.2.2.1 (zX f.1 a)=Q3)
 have g:(zqV db).val=Q1 (.inl (.h2 db db (Io db:Int) ((0:Nat):Int))):=rfl;rcases c with⟨c,e⟩|⟨c,r,e,j⟩
 .refine⟨Q3,zB g (e.ends (z6.of (r:=(.kb Q3,[])) ?_)) ow rfl,λ_=>n.1 c,λ_=>rfl⟩;show(gZ (.h2 _ _ _ _)).val=_;unfold gZ;simp only[Q8,zG];rfl
 .unfold IsF at j;subst j;exact⟨Q4,zB g e ow rfl,λh=>(by cases h),λh=>zC (n.2 h) c⟩
structure jc (db:zP):Prop where
 few:Io db<=12
 names:∀i,i<Io db-1->Op.bytesLess (getD db i (zi zk)).1.1 (getD db (i+1) (zi zk)).1.1=Q3
 rels:∀x∈db,ed x
 bound:FP db
theorem ed.cols{x:ah}(h:ed x):∀f∈x.1.t.1,∀row∈x.2,zK f.1 (Io row)=Q3:=by intro f b row c;obtain⟨_,a,_,_,_⟩:=gn h.may;rw[C9 (by simpa using h.fits row c)];exact oG (a f b)
theorem yP{a:zP}(C:∀x∈a,gL x):∃e:Int,uC a=Q1 (e,())/\(e=0↔jc a):=by
 by_cases D:Io a<=12
 case neg=>
  refine⟨13,?_,λh=>(by cases h),λh=>zC h.few D⟩;unfold uC ao bR;simp only[zcV,Q8];rw[ze sg];rfl
 have g:(zcV a).val=Q1 (.inl (.h4 a ((0+1:Nat):Int))):=by
  simp only[zcV,Q8];rw[zg sg];rfl
 have n:=mD (t:=pe) (Φ:=Err) 1 (λi=>.h4 a ((i+1:Nat):Int)) (λi=>Op.bytesLess (getD a i (zi zk)).1.1 (getD a (i+1) (zi zk)).1.1=Q3) (Io a-1) (by
  intro i g _;have E:i<Io a:=by omega
  have A:i+1<Io a:=by omega
  have s:(pe (.h4 a ((i+1:Nat):Int))).val=if(!Op.bytesLess (getD a i (zi zk)).1.1 (getD a (i+1) (zi zk)).1.1)=Q3 then Q1 (.inr (.int .i64 15,[]))else Q1 (.inl (.h4 a ((i+1+1:Nat):Int))):=by
   show(pe (.h4 _ _)).val=_;unfold pe;simp only[lY i um];simp only[Q8,zL A,zz A,zz E,aK,zh];rw[zt (i+1) um]
  by_cases h:Op.bytesLess (getD a i (zi zk)).1.1 (getD a (i+1) (zi zk)).1.1=Q3
  .exact .inl ⟨h,zN.of (by rw[s,zg (by rw[h];simp)])⟩
  .exact .inr ⟨h,_,z6.of (by rw[s,ze (by simpa using h)]),15,rfl,by decide⟩)
 rcases n with⟨y,n⟩|⟨y,r,n,e,m,j⟩
 case inr=>
  subst m;exact⟨e,zB g n ow rfl,λh=>zC h j,λh=>zC h.names y⟩
 have z:(pe (.h4 a ((Io a-1+1:Nat):Int))).val=Q1 (.inl (.h9 a a (Io a:Int) ((0:Nat):Int))):=by
  show(pe (.h4 _ _)).val=_;unfold pe;simp only[Q8];rw[zg sg];rfl
 have v:=n.trans (zN.of z);have l:=mD (t:=pe) (Φ:=Err) 1 (λi=>.h9 a a (Io a:Int) (i:Int)) (λi=>ed (getD a i (zi zk))) (Io a) (by
  intro i g _;obtain⟨e,m,p⟩:=Nj (C _ (ce (d:=zi zk) g));have w:JM (getD a i (zi zk))=Q3:=by unfold JM;rw[m];rfl
  have k:PP (getD a i (zi zk))=e:=by unfold PP;rw[m];rfl
  have s:(pe (.h9 a a (Io a:Int) (i:Int))).val=if(e !=0)=Q3 then Q1 (.inr (.int .i64 e,[]))else Q1 (.inl (.h9 a a (Io a:Int) ((i+1:Nat):Int))):=by
   show(pe (.h9 _ _ _ _)).val=_;unfold pe;simp only[zm,Q8,zL g,zz g,aK,zh,aQ,w,k];rw[zt i um]
  by_cases h:e=0
  .exact .inl ⟨p.1 h,zN.of (by rw[s,zg (by rw[h];simp)])⟩
  .exact .inr ⟨λq=>h (p.2 q),_,z6.of (by rw[s,ze (by simpa using h)]),e,rfl,h⟩)
 rcases l with⟨q,l⟩|⟨q,r,l,e,m,j⟩
 case inr=>
  subst m;exact⟨e,zB g (v.ends l) ow rfl,λh=>zC h j,λh=>zC ((aD (Q:=ed)).2 h.rels) q⟩
 have c:=(aD (Q:=ed)).1 q;obtain⟨b,B,o⟩:=K7 (db:=a) (λx G=>(c x G).cols) C ow;have w:Ic a=Q3:=by unfold Ic;rw[B];rfl
 have k:N7 a=b:=by unfold N7;rw[B];rfl
 have u:(pe (.h9 a a (Io a:Int) (Io a:Int))).val=if(!b)=Q3 then Q1 (.inr (.int .i64 10,[]))else Q1 (.inr (.int .i64 0,[])):=by
  show(pe (.h9 _ _ _ _)).val=_;unfold pe;simp only[Q8,zG,w,k,zh];rfl
 by_cases h:b=Q3
 .exact⟨0,zB g (v.ends (l.ends (z6.of (by rw[u,zg (by rw[h];simp)])))) ow rfl,λ_=>⟨D,y,c,o.1 h⟩,λ_=>rfl⟩
 .exact⟨10,zB g (v.ends (l.ends (z6.of (by rw[u,ze (by simpa using h)])))) ow rfl,λh=>(by cases h),λF=>zC (o.2 F.bound) h⟩
variable {d:zP}
theorem Id(a:∀x∈d,gL x):oo d=Q3:=by obtain⟨e,h,_⟩:=yP a;unfold oo;rw[h];rfl
theorem je(b:∀x∈d,gL x):ll d=(0:Int)↔jc d:=by obtain⟨e,h,a⟩:=yP b;unfold ll;rw[h];exact a
abbrev y11(h:Sem zk.sl)(x:zJ):zn bB:=(h,x,([],[],0,[],[],za.mk [] (0,0,[]) [] []),([],[],0,[],[],za.mk [] (0,0,[]) [] []),x.1,x.2.2.1,x.t.t.t,x.2.1,0,x.t.t.1,0,())
theorem O7(c:Sem zk.sl)(x:zJ):zkj c x=(let d:=nA (y11 c x)
  let a:=Hj d.2
  let h:=Hk d.2
  let b:=xO d.2
  Md c x x.t.t.1 x (!eF x) (pd x&&bif !eF x then Q3 else oo c) (cond (!eF x) Q3 (ll c !=0)) (oe 16 x.t.t.1) (y11 c x) (nB (y11 c x)) d (d.1==0) d.2 a a.2 (fG a.2) h h.2 (fG h.2) b b.2 (fG b.2)):=by unfold zkj;simp only[TU,Rh,zm]
abbrev Y8(z:zn az):ap:=(z.t.1,z.t.2.1,z.t.q.1,(z.t.q.2.1,z.t.t.1,z.t.t.2.1,[],[],z.t.t.q.1),z.t.t.q.2.1,z.t.t.t.1)
abbrev jT:ap:=([],[],[],([],[],0,[],[],za.mk [] (0,0,[]) [] []),[],0)
def an(db:zP)(n:zH):aq:=(getD db (toNat (ac db n)) (zi zk)).1
abbrev zvX:aq:=([],[],0,[],[],za.mk [] (0,0,[]) [] [])
def ep(db:zP)(n:zH):aq:=if n=[]then zvX else an db n
def iC(e:Int)(p:ap):Int×ap:=if e=0 then(ite (wB p.2.2.2.1=0) (0,p) (wB p.2.2.2.1,jT))else(e,jT)
def cI(db:zP)(s:zJ):Int×ap:=
 if(s.1==dj)=Q3 then
  iC (tA (an db s.2.2.1) s.2.2.2.1) (s.1,s.2.2.1,s.t.t.t,(s.2.1,eC (an db s.2.2.1) s.2.2.2.1,gV (jr (an db s.2.2.1) s.2.2.2.1) (an db s.2.2.1).2.2.1,[],[],s.t.t.1),jr (an db s.2.2.1) s.2.2.2.1,0)
 else if(s.1==gj)=Q3 then
  iC (fV (an db s.2.2.1) (ep db s.t.t.t) s.t.2.1 s.t.t.t)
   (s.1,s.2.2.1,s.t.t.t,(s.2.1,(an db s.2.2.1).2.1++fX (ep db s.t.t.t) (Io (ep db s.t.t.t).2.1),(an db s.2.2.1).2.2.1,[],[],s.t.t.1),
    js (ep db s.t.t.t).2.2.1 (Io (ep db s.t.t.t).2.1),zV (an db s.2.2.1) s.t.2.1)
 else if(s.1==lm)=Q3 then
  iC (qf (an db s.2.2.1) s.2.2.2.1) (s.1,s.2.2.1,s.t.t.t,(s.2.1,xE (an db s.2.2.1) s.2.2.2.1,0,[],[],s.t.t.1),jr (an db s.2.2.1) s.2.2.2.1,0)
 else(1,jT)
def ba(db:zP)(s:zJ):Int×ap:=
 if jQ s.1/\eF s=Q3/\ll db=(0:Int)then(ite (pb db s.2.2.1 s.t.t.t s.2.1=0) (cI db s) (pb db s.2.2.1 s.t.t.t s.2.1,jT))else(1,jT)
variable {s:zJ}
theorem jX(h:eF s=Q3):fC s=Q3:=by
 unfold eF qI at h;by_cases x:fC s=Q3
 .exact x
 .exfalso;simp only[gT]at x;simp[x]at h
theorem nt{s:zH}(h:(0:Int)<=ac db s):db.getD (toNat (ac db s)) (zi zk)∈db:=by have:=dT h;simp only[zK,aF,aR]at this;exact ve _ _ ow
theorem Ez(e:Int):aS [] [am,zj] (tup [agg [str [],str [],str [],str [],Qb,ai 0,Qb,Qb,str [],ai 0,ai 0,str [],str [],Qb,Qb,ai 0],ai e])=Q1 (jT,e,()):=rfl
theorem zlS(z:zn az):aS [AO.vec zl z.t.t.1] [am,zj] (tup [agg [str z.t.1,str z.t.2.1,str z.t.q.1,str z.t.q.2.1,AV.vec 0,
  ai z.t.t.2.1,Qb,Qb,str (za.op z.t.t.q.1),ai (za.v z.t.t.q.1).1,ai (za.v z.t.t.q.1).2.1,str (za.v z.t.t.q.1).2.2,str (za.s z.t.t.q.1),sl Q5 (za.l z.t.t.q.1),
  sl zj z.t.t.q.2.1,ai z.t.t.t.1],ai 0])=Q1 (Y8 z,0,()):=by obtain⟨c,d,e,g,i,j,k,m,n,o,h,x,a,b⟩:=z;cases h;rfl
def PlS(x:Sem zk.sl)(h:zJ):Prop:=MK x h=Q1 ((ba x h).2,(ba x h).1,())
variable {x:Sem zk.sl}
theorem xU{o:Option (zD (List.map Q1 [am,zj]))}{e:Int}(h:o=Q1 (jT,e,()))(a:ba x s=(e,jT)):o=Q1 ((ba x s).2,(ba x s).1,()):=by rw[a];exact h
theorem zdw(e:pd s=Q3)(d:oo x=Q3)(h:(cond (!eF s) Q3 (ll x !=0))=Q3):PlS x s:=by
 have c:(pd s&&bif !eF s then Q3 else oo x)=Q3:=by rw[e,d];cases eF s<;>rfl
 have g:ba x s=(1,jT):=by
  unfold ba;rw[zg];rintro⟨_,a,b⟩;rw[a]at h;simp[b]at h
 refine xU ?_ g;unfold MK ao bR;rw[O7];simp only[Md,Q8,c,h,zh];by_cases o1:(s.1==dj)=Q3
 .simp only[o1,zh];rfl
 .by_cases o2:(s.1==gj)=Q3
  .simp only[o1,o2,zh];rfl
  .by_cases o3:(s.1==lm)=Q3
   .simp only[o1,o2,o3,zh];rfl
   .simp only[o1,o2,o3];rfl
theorem zlM{y:zn bB}{z:zn az}{c:aM}{m:Int}{i:List Int}{o:Int}(k:y.t=(y11 x s).t)(v:og y z)
  (a:z.t.t.q.1=y.t.t.2.1) (h:FO z c m i o):Y8 z=(s.1,s.2.2.1,s.t.t.t,(s.2.1,c,m,[],[],s.t.t.1),i,o):=by
 obtain⟨_,_,_,_,b,d,e,g⟩:=v;have j:z.t.1=s.1:=by rw[b,k]
 have l:z.t.2.1=s.2.2.1:=by rw[d,k]
 have n:z.t.q.1=s.t.t.t:=by rw[e,k]
 have p:z.t.q.2.1=s.2.1:=by rw[g,k]
 have u:z.t.t.q.1=s.t.t.1:=by rw[a,k]
 show(z.t.1,z.t.2.1,z.t.q.1,(z.t.q.2.1,z.t.t.1,z.t.t.2.1,[],[],z.t.t.q.1),z.t.t.q.2.1,z.t.t.t.1)=_;rw[j,l,n,p,u,h.cols,h.key,h.ix,h.on]
theorem zlL{b:zJ}(h0:∀a∈x,gL a)(hl:Io x<=13)(hs:NY b):PlS x b:=by
 by_cases hg:jQ b.1;rotate_left
 .have o1:(b.1==dj)=Q4:=by simpa using λk=>hg (.inl k)
  have o2:(b.1==gj)=Q4:=by simpa using λk=>hg (.inr (.inl k))
  have o3:(b.1==lm)=Q4:=by simpa using λk=>hg (.inr (.inr k))
  refine xU (e:=1) ?_ (by unfold ba;rw[zg λh=>hg h.1]);unfold MK ao bR;rw[O7];simp only[Md,Q8,o1,o2,o3];rfl
 have hM:=NF hs.sh hg;have hB:=Id h0;by_cases o:(cond (!eF b) Q3 (ll x !=0))=Q3
 .exact zdw hM hB o
 have h3:(pd b&&bif !eF b then Q3 else oo x)=Q3:=by rw[hM,hB];cases eF b<;>rfl
 have W:eF b=Q3:=by
  cases h:eF b
  .rw[h]at o;simp at o
  .rfl
 have Z:ll x=(0:Int):=by
  rw[W]at o;simpa using o
 have N:=jX W;have J:=((je h0).1 Z).rels;obtain⟨B,y,h8,k1,k2,X,k5,k4⟩:=My (y11 x b) (by show Io x<=_;omega);have s8:nA (y11 x b)=(B,y):=by unfold nA;rw[h8];rfl
 have c8:nB (y11 x b)=Q3:=by unfold nB;rw[h8];rfl
 have k5:B=pb x b.2.2.1 b.t.t.t b.2.1:=k5;have hS:jQ b.1->ba x b=if B=0 then cI x b else(B,jT):=by
  intro h;unfold ba;rw[ze ⟨h,W,Z⟩,k5]
 unfold PlS MK ao bR;rw[O7];simp only[Md,Q8,h3,o,hs.cp,s8,c8,zh];by_cases p:B=0
 .have A:=k4 p;have T:y.2.1=b:=k2;have n1:y.1=x:=k1;have nk:y.t.t.1=(0:Int):=by rw[X]
  have h1:y.t.t.q.1=(0:Int):=by rw[X]
  have nw:y.t.q.1=b.t.t.t:=by rw[X]
  have i:y.2.2.1=an x b.2.2.1:=A.t.1;have v:y.2.2.2.1=ep x b.t.t.t:=A.t.2;have S:=gn (J _ (nt (db:=x) (s:=b.2.2.1) A.1)).may;rw[show(getD x (toNat (ac x b.2.2.1)) (zi zk)).1=y.2.2.1 from i.symm]at S;have h4:Io y.2.2.2.1.2.1<=100:=by
   rw[v];unfold ep;split
   .simp
   next hw=>have:=(gn (J _ (nt (db:=x) (s:=b.t.t.t) (A.2.1.resolve_left hw))).may).2.2.2.1;unfold an;omega
  have U:(B==0)=Q3:=by simpa using p
  simp only[U,zh];by_cases o1:(b.1==dj)=Q3
  .have I:jQ b.1:=Or.inl (bF o1);obtain⟨z,j,hk,H,u,F⟩:=Yl y (by rw[T];have:=hs.sh.names.1;omega);rw[T,i,h1]at F;rw[T,i]at j;generalize G:tA (an x b.2.2.1) b.2.2.2.1=d at j F;have L:Hj y=(d,z):=by unfold Hj;rw[j];rfl
   have C:IZ y=Q3:=by unfold IZ;rw[j];rfl
   have c:=hS I;rw[ze p]at c;unfold cI at c;rw[ze o1,G]at c;simp only[o1,L,C,zh];by_cases e0:d=0
   .have P:=zlM X hk H (F e0);have l:=t7 z u;have Y:SI z=(Y8 z).2.2.2.1:=rfl;rw[Y,P]at l;unfold iC at c;rw[ze e0]at c;generalize O:wB _=g at l c;have M:fG z=(g,z):=by unfold fG;rw[l];rfl
    have D:gW z=Q3:=by unfold gW;rw[l];rfl
    have m:(d==0)=Q3:=by simpa using e0
    simp only[m,M,D,zh];by_cases w:g=0
    .have n:(g !=0)=Q4:=by simp[w]
     simp only[n];rw[ze w]at c;rw[c];exact(zlS z).trans (by rw[P])
    .have n:(g !=0)=Q3:=by simpa using w
     simp only[n,zh];rw[zg w]at c;exact xU (Ez g) c
   .have m:(d==0)=Q4:=by simpa using e0
    have E:(d !=0)=Q3:=by simpa using e0
    unfold iC at c;rw[zg e0]at c;simp only[m,E,zh];exact xU (Ez d) c
  .by_cases o2:(b.1==gj)=Q3
   .have I:jQ b.1:=Or.inr (Or.inl (bF o2));obtain⟨z,j,hk,H,u,F⟩:=Ym y (by have:=S.2.2.2.1;omega) h4;rw[T,nw,i,v]at F;rw[T,nw,i,v]at j;generalize G:fV (an x b.2.2.1) (ep x b.t.t.t) b.t.2.1 b.t.t.t=d at j F;have L:Hk y=(d,z):=by unfold Hk;rw[j];rfl
    have C:I1 y=Q3:=by unfold I1;rw[j];rfl
    have c:=hS I;rw[ze p]at c;unfold cI at c;rw[zg o1,ze o2,G]at c;simp only[o1,o2,L,C,zh];by_cases e0:d=0
    .have P:=zlM X hk H (F e0);have l:=t7 z u;have Y:SI z=(Y8 z).2.2.2.1:=rfl;rw[Y,P]at l;unfold iC at c;rw[ze e0]at c;generalize O:wB _=g at l c;have M:fG z=(g,z):=by unfold fG;rw[l];rfl
     have D:gW z=Q3:=by unfold gW;rw[l];rfl
     have m:(d==0)=Q3:=by simpa using e0
     simp only[m,M,D,zh];by_cases w:g=0
     .have n:(g !=0)=Q4:=by simp[w]
      simp only[n];rw[ze w]at c;rw[c];exact(zlS z).trans (by rw[P])
     .have n:(g !=0)=Q3:=by simpa using w
      simp only[n,zh];rw[zg w]at c;exact xU (Ez g) c
    .have m:(d==0)=Q4:=by simpa using e0
     have E:(d !=0)=Q3:=by simpa using e0
     unfold iC at c;rw[zg e0]at c;simp only[m,E,zh];exact xU (Ez d) c
   .by_cases o3:(b.1==lm)=Q3
    .have I:jQ b.1:=Or.inr (Or.inr (bF o3));obtain⟨z,j,hk,H,u,F⟩:=Ui y (by rw[T];exact jP N (bF o3));rw[T,i,h1,nk]at F;rw[T,i]at j;generalize G:qf (an x b.2.2.1) b.2.2.2.1=d at j F;have L:xO y=(d,z):=by unfold xO;rw[j];rfl
     have C:A9 y=Q3:=by unfold A9;rw[j];rfl
     have c:=hS I;rw[ze p]at c;unfold cI at c;rw[zg o1,zg o2,ze o3,G]at c;simp only[o1,o2,o3,L,C,zh];by_cases e0:d=0
     .have P:=zlM X hk H (F e0);have l:=t7 z u;have Y:SI z=(Y8 z).2.2.2.1:=rfl;rw[Y,P]at l;unfold iC at c;rw[ze e0]at c;generalize O:wB _=g at l c;have M:fG z=(g,z):=by unfold fG;rw[l];rfl
      have D:gW z=Q3:=by unfold gW;rw[l];rfl
      have m:(d==0)=Q3:=by simpa using e0
      simp only[m,M,D,zh];by_cases w:g=0
      .have n:(g !=0)=Q4:=by simp[w]
       simp only[n];rw[ze w]at c;rw[c];exact(zlS z).trans (by rw[P])
      .have n:(g !=0)=Q3:=by simpa using w
       simp only[n,zh];rw[zg w]at c;exact xU (Ez g) c
     .have m:(d==0)=Q4:=by simpa using e0
      have E:(d !=0)=Q3:=by simpa using e0
      unfold iC at c;rw[zg e0]at c;simp only[m,E,zh];exact xU (Ez d) c
    .simp only[o1,o2,o3];refine xU (Ez 1) ?_;unfold ba;rw[zg];rintro⟨h|h|h,_⟩
     .exact o1 (bd.2 h)
     .exact o2 (bd.2 h)
     .exact o3 (bd.2 h)
 .have U:(B==0)=Q4:=by simpa using p
  have h2:(B !=0)=Q3:=by simpa using p
  have c:jQ b.1->ba x b=(B,jT):=λh=>by rw[hS h,zg p]
  simp only[U,h2,zh];by_cases o1:(b.1==dj)=Q3
  .simp only[o1,zh];exact xU (Ez B) (c (Or.inl (bF o1)))
  .by_cases o2:(b.1==gj)=Q3
   .simp only[o1,o2,zh];exact xU (Ez B) (c (Or.inr (Or.inl (bF o2))))
   .by_cases o3:(b.1==lm)=Q3
    .simp only[o1,o2,o3,zh];exact xU (Ez B) (c (Or.inr (Or.inr (bF o3))))
    .simp only[o1,o2,o3];refine xU (Ez 1) ?_;unfold ba;rw[zg];rintro⟨h|h|h,_⟩
     .exact o1 (bd.2 h)
     .exact o2 (bd.2 h)
     .exact o3 (bd.2 h)
set_option maxHeartbeats 1000000
theorem g0:∀{a b c:zH},Op.bytesLess a b=Q3->Op.bytesLess b c=Q3->Op.bytesLess a c=Q3
 |_,[],_,h,_=>by cases‹zH›<;>simp[Op.bytesLess]at h
 |_,_::_,[],_,h=>by simp[Op.bytesLess]at h
 |[],_::_,_::_,_,_=>rfl
 | a::x,b::y,c::z,h,g=>by
  simp only[Op.bytesLess,nc,aR,aF,bd]at h g|-;rcases h with h|⟨rfl,h⟩
  .rcases g with g|⟨rfl,g⟩
   .exact .inl (UInt8.lt_trans h g)
   .exact .inl h
  .rcases g with g|⟨rfl,g⟩
   .exact .inl g
   .exact .inr ⟨rfl,g0 h g⟩
def Lx(p q:Int×Int×zH):Prop:=p.1<q.1\/(p.1=q.1/\(p.2.1<q.2.1\/(p.2.1=q.2.1/\Op.bytesLess p.2.2 q.2.2=Q3)))
variable {p q:Int×Int×zH}
theorem Lx.trans{r:Int×Int×zH}(h:Lx p q)(g:Lx q r):Lx p r:=by
 unfold Lx at*;rcases h with h|⟨b,h|⟨c,h⟩⟩<;>rcases g with g|⟨x,g|⟨a,g⟩⟩
 .exact .inl ow
 .exact .inl ow
 .exact .inl ow
 .exact .inl ow
 .exact .inr ⟨ow,.inl ow⟩
 .exact .inr ⟨ow,.inl ow⟩
 .exact .inl ow
 .exact .inr ⟨ow,.inl ow⟩
 .exact .inr ⟨ow,.inr ⟨ow,g0 h g⟩⟩
theorem Lx.irrefl:¬Lx p p:=by
 unfold Lx;rw[cm];rintro(h|⟨_,h|⟨_,h⟩⟩)
 .omega
 .omega
 .cases h
theorem QO(a b:Int):tz a b=if a<b then -1 else if b<a then 1 else 0:=by show(ite ((a !=a)=Q3) _ (ite ((b !=b)=Q3) (1:Int) (ite (Q0 (a<b)=Q3) (-1) (ite (Q0 (a>b)=Q3) 1 0))))=_;simp
theorem VT(a b:Int):lq a b=if a<b then -1 else if b<a then 1 else 0:=QO a b
theorem zcn(a b:zH):(pC a b=-1/\Op.bytesLess a b=Q3)\/(pC a b=0/\a=b)\/(pC a b=1/\Op.bytesLess a b=Q4):=by
 have:pC a b=if Op.bytesLess a b=Q3 then -1 else if(!(Op.bytesLess a b||a==b))=Q3 then 1 else 0:=by
  show(ite ((!a==a)=Q3) _ (ite ((!b==b)=Q3) (1:Int) (ite (Op.bytesLess a b=Q3) (-1) (ite ((!(Op.bytesLess a b||a==b))=Q3) 1 0))))=_;simp
 rw[this];cases h:Op.bytesLess a b with
 |true=>exact .inl ⟨rfl,rfl⟩
 | false=>
  by_cases e:a=b
  .exact .inr (.inl ⟨by simp[e],e⟩)
  .exact .inr (.inr ⟨by simp[e],rfl⟩)
theorem zlJ(k n x a:Int)(s b:zH):(I6 [tz k x,lq n a,pC s b]<0)↔Lx (k,n,s) (x,a,b):=by
 show _↔(k<x\/(k=x/\(n<a\/(n=a/\Op.bytesLess s b=Q3))));rw[QO,VT];simp only[I6];have i:=cm b;rcases BY k x with h|h|h
 .simp[h]
 .subst h;rcases BY n a with g|g|g
  .simp[g]
  .subst g;rcases zcn s b with⟨e,f⟩|⟨e,f⟩|⟨e,f⟩
   .simp[e,f]
   .subst f;simp[e,i]
   .simp[e,f]
  .have:¬n<a:=by omega
   have:n≠a:=by omega
   simp[*]
 .have:¬k<x:=by omega
  have:k≠x:=by omega
  simp[*]
variable {a:zo}
theorem wF{c:zo}:yz a c↔Lx (aC a) (aC c):=zlJ (aC a).1 (aC a).2.1 (aC c).1 (aC c).2.1 (aC a).2.2 (aC c).2.2
theorem gA{b c:zo}(h:yz a b)(g:yz b c):yz a c:=wF.2 ((wF.1 h).trans (wF.1 g))
theorem gh:¬yz a a:=λh=>Lx.irrefl (wF.1 h)
theorem wh{α:Type}{R:α->α->Prop}(m:∀{a b c},R a b->R b c->R a c){d:α}:∀{l:List α},(∀i,i<Io l-1->R (l.getD i d) (l.getD (i+1) d))↔l.Pairwise R
 |[]=>by simp
 |[a]=>by simp
 | a::b::r=>by
  have I:=wh (R:=R) m (d:=d) (l:=b::r);constructor
  .intro h;have e:=h 0 sw;have g:(b::r).Pairwise R:=I.1 λi j=>h (i+1) (by simp only[eA]at j|-;omega)
   refine List.pairwise_cons.2 ⟨λx k=>?_,g⟩;rcases cf.1 k with rfl|k
   .exact e
   .exact m e ((List.pairwise_cons.1 g).1 x k)
  .intro h i j;obtain⟨e,g⟩:=List.pairwise_cons.1 h;cases i with
   |zero=>exact e b sw
   |succ i=>exact I.2 g i (by simp only[eA]at j|-;omega)
def kLt(k:Int)(a b:zw):Prop:=yz (zX k a) (zX k b)
variable {b:ah}
theorem ed.pw(h:ed b):b.2.Pairwise (kLt b.1.2.2.1):=(wh (R:=kLt b.1.2.2.1) gA).1 h.rise
variable {l:List zw}
theorem ed.sub{t:aq}{a:List zw}(h:ed (t,l))(x:List.Sublist a l):ed (t,a) where
 may:=h.may
 few:=aX x.length_le h.few
 fits:=λr b=>h.fits r (x.subset b)
 key:=List.Pairwise.sublist x h.key
 uniq:=λu c=>List.Pairwise.sublist x (h.uniq u c)
 rise:=(wh (R:=kLt t.2.2.1) gA).2 (List.Pairwise.sublist x h.pw)
theorem Hm(d:zP)(i:Nat):(d.getD i (zi zk)).1=(d.map (·.1)).getD i (zi zk).1:=by rw[aZ,aZ,dt];cases d[i]?<;>rfl
theorem Yo(h:(d.getD i (zi zk)).1=b.1):(d.set i b).map (·.1)=d.map (·.1):=by
 rw[List.map_set];refine pi λj=>?_
 rw[mY];by_cases e:i=j
 .subst e;rw[ze rfl];by_cases x:i<(d.map (·.1)).length
  .rw[ze x,zZ x,<-h];congr 1;have a:i<Io d:=by simpa using x
   rw[aZ,zZ a,List.getElem_map];rfl
  .rw[zg x,eX ow]
 .rw[zg e]
theorem jc.put(h:jc d)(e:(d.getD i (zi zk)).1=b.1)(g:ed b)(c:FP (d.set i b)):jc (d.set i b) where
 few:=by rw[yM];exact h.few
 names:=λj a=>by
  rw[yM]at a;have:=h.names j a;rw[Hm,Hm]at this|-
  rwa [Yo e]
 rels:=λy x=>by
  rcases QB x with x|rfl
  .exact h.rels y x
  .exact g
 bound:=c
theorem RB{m:Int}(h:l.Pairwise (kLt m)):(l.map (zX m)).Pairwise (·≠·):=by rw[List.pairwise_map];exact h.imp λ{a b} x(e:zX m a=zX m b)=>gh (a:=zX m b) (by have:=x;unfold kLt at this;rwa [e]at this)
theorem kg:∀{a b:zH},Op.bytesLess a b=Q4->a≠b->Op.bytesLess b a=Q3
 |[],[],_,h=>zC rfl h
 |[],_::_,h,_=>by simp[Op.bytesLess]at h
 |_::_,[],_,_=>rfl
 | a::x,b::y,h,hn=>by
  simp only[Op.bytesLess,Bool.or_eq_false_iff,dY,Bool.and_eq_false_iff,dB,nc,aR,aF,bd]at h|-;by_cases e:a=b
  .subst e;refine .inr ⟨rfl,kg (h.2.resolve_left λg=>g rfl) λg=>hn (by rw[g])⟩
  .exact .inl (UInt8.lt_of_le_of_ne (UInt8.not_lt.1 h.1) (Ne.symm e))
def tY(u:zo):zw->zw
 |[]=>[u]
 |o::r=>if LT.lt (α:=Int) (aV o u) 0 then o::tY u r else if(o==u)=Q3 then o::r else u::o::r
def pT(l:zw):zw:=l.foldl (λa u=>if((u:zo).1==0)=Q3 then a else tY u a) []
theorem nW{b:zo}(j:bh a=Q3)(l:bh b=Q3)(h:¬yz a b):a=b\/yz b a:=by
 have p:aC a=a:=by unfold aC;rw[j];rfl
 have kb:aC b=b:=by unfold aC;rw[l];rfl
 rw[wF,p,kb]at h|-;obtain⟨k,n,s⟩:=a;obtain⟨o,q,c⟩:=b;unfold Lx at h|-;simp only at h|-;have d:¬k<o:=λe=>h (.inl e)
 rcases Int.lt_or_eq_of_le (Int.not_lt.1 d)with e|e
 .exact .inr (.inl e)
 have i:¬n<q:=λg=>h (.inr ⟨e.symm,.inl g⟩)
 rcases Int.lt_or_eq_of_le (Int.not_lt.1 i)with g|g
 .exact .inr (.inr ⟨e,.inl g⟩)
 by_cases x:s=c
 .exact .inl (by rw[e,g,x])
 .refine .inr (.inr ⟨e,.inr ⟨g,kg ?_ x⟩⟩);cases m:Op.bytesLess s c
  .rfl
  .exact zC (.inr ⟨e.symm,.inr ⟨g.symm,m⟩⟩) h
theorem vy{a:zo}:∀{l:zw}{x:zo},x∈tY a l↔x=a\/x∈l
 |[],x=>by simp[tY]
 | o::r,x=>by
  unfold tY;split
  .rw[cf,vy,cf];exact⟨λh=>by rcases h with h|h|h<;>simp[h],λh=>by rcases h with h|h|h<;>simp[h]⟩
  .split
   next h=>have h:=bF h;subst h;simp
   .simp
theorem HL{a:zo}(j:bh a=Q3):∀{l:zw},(∀x∈l,bh x=Q3)->l.Pairwise yz->(tY a l).Pairwise yz
 |[],_,_=>by simp[tY]
 | o :: r,hl,h=>by
  obtain⟨g,k⟩:=List.pairwise_cons.1 h;unfold tY;split
  .rename_i c;refine List.pairwise_cons.2 ⟨λx b=>?_,HL j (λx b=>hl x (by simp[b])) k⟩;rcases vy.1 b with rfl|b
   .exact c
   .exact g x b
  .rename_i m;split
   .exact h
   .rename_i d;have i:yz a o:=by
     rcases nW (hl o sw) j m with e|e
     .exact zC (by rw[e];simp) d
     .exact e
    refine List.pairwise_cons.2 ⟨λx b=>?_,h⟩;rcases cf.1 b with rfl|b
    .exact i
    .exact gA i (g x b)
theorem xB:∀(l a:zw),(∀x∈l,bh x=Q3)->(∀x∈a,bh x=Q3)->a.Pairwise yz->
  (l.foldl (λa u=>if((u:zo).1==0)=Q3 then a else tY u a) a).Pairwise yz/\∀x,x∈l.foldl (λa u=>if((u:zo).1==0)=Q3 then a else tY u a) a↔x∈a\/(x∈l/\x.1≠0)
 |[],a,_,_,h=>⟨h,λx=>by simp⟩
 | u::r,a,hl,ha,h=>by
  rw[List.foldl_cons];by_cases c:(u.1==0)=Q3
  .rw[ze c];obtain⟨g,i⟩:=xB r a (λx b=>hl x (by simp[b])) ha h;refine⟨g,λx=>(i x).trans ⟨λh=>h.imp id λh=>⟨by simp[h.1],h.2⟩,λh=>h.imp id λh=>⟨?_,h.2⟩⟩⟩;rcases cf.1 h.1 with rfl|d
   .exact zC (bF c) h.2
   .exact d
  .rw[zg c];have j:=hl u sw;obtain⟨g,i⟩:=xB r (tY u a) (λx b=>hl x (by simp[b])) (λx b=>by
    rcases vy.1 b with rfl|b
    .exact j
    .exact ha x b) (HL j ha h)
   refine⟨g,λx=>(i x).trans ?_⟩;rw[vy,cf];refine⟨λh=>?_,λh=>?_⟩
   .rcases h with(rfl|h)|h
    .exact .inr ⟨.inl rfl,λe=>c (by rw[e];rfl)⟩
    .exact .inl h
    .exact .inr ⟨.inr h.1,h.2⟩
   .rcases h with h|⟨rfl|h,d⟩
    .exact .inl (.inr h)
    .exact .inl (.inl rfl)
    .exact .inr ⟨h,d⟩
variable {g:zw}
theorem qZ(h:∀x∈g,bh x=Q3):(pT g).Pairwise yz/\∀x,x∈pT g↔x∈g/\x.1≠0:=by obtain⟨a,b⟩:=xB g [] h sw sw;exact⟨a,λx=>(b x).trans sw⟩
theorem JV:∀{l m:zw},l.Pairwise yz->m.Pairwise yz->(∀x,x∈l↔x∈m)->l=m
 |[],[],_,_,_=>rfl
 |[],b::m,_,_,h=>by have:=(h b).2 sw;simp at this
 |a::l,[],_,_,h=>by have:=(h a).1 sw;simp at this
 | a::l,b::m,h1,h2,h=>by
  obtain⟨i,k⟩:=List.pairwise_cons.1 h1;obtain⟨j,n⟩:=List.pairwise_cons.1 h2;have e:a=b:=by
   rcases cf.1 ((h a).1 sw)with e|e
   .exact e
   .rcases cf.1 ((h b).2 sw)with g|g
    .exact g.symm
    .exact zC (gA (i _ g) (j _ e)) gh
  subst e;rw[JV k n λx=>⟨λd=>?_,λd=>?_⟩]
  .rcases cf.1 ((h x).1 (by simp[d]))with rfl|c
   .exact zC (i _ d) gh
   .exact c
  .rcases cf.1 ((h x).2 (by simp[d]))with rfl|c
   .exact zC (j _ d) gh
   .exact c
open Go Go.Proofs Go.Sort
def ra(l:zw):Bool:=l.all (λv=>bh v&&(v.1!=0))&&decide l.Nodup&&!l.isEmpty
theorem ZX{n:zw}(h:ra g=Q3)(c:List.Perm n g)(l:n.Pairwise λx y:zo=>¬LT.lt (α:=Int) (aV y x) 0):n=pT g:=by
 simp only[ra,aF,dJ,aR,bne_iff_ne,ne_eq]at h;obtain⟨⟨b,k⟩,_⟩:=h;obtain⟨i,j⟩:=qZ λx a=>(b x a).1
 have d:n.Nodup:=c.nodup_iff.2 k;refine JV ?_ i λx=>?_
 .refine(l.and d).imp_of_mem λ{x y} a m h=>?_
  rcases nW (b y (c.mem_iff.1 m)).1 (b x (c.mem_iff.1 a)).1 h.1 with e|e
  .exact zC e.symm h.2
  .exact e
 .rw[j x,c.mem_iff];exact⟨λa=>⟨a,(b x a).2⟩,λa=>a.1⟩
@[match_pattern] abbrev MM:Sh:=.pr (.int .i64) (.pr (.int .i64) .str)
def zxD:z8:=λa h _=>match a with
 | [.vec id,.clo (.func 50) [] []]=>match h id with
  |.vec MM l=>(.chk (Q0 (Io l<=1000000)) (.chk (ra l) (.ok {val:=.tup [],wr:=[(id,.vec zf (pT l))]})))
  |_=>.err
 |_=>.err
theorem zuz:Go.Proofs.Enters Tryz.prog 50:=by
  cases h:Tryz.f50.body with
  | none => have:Tryz.f50.body.isNone=false:=by kernel_rfl
            rw[h]at this;cases this
  |some c=>exact Go.Proofs.enters_of (fn:=Tryz.f50) kw kw h
def zcT(x:ap)(h:Sem zk.sl):Tr (Empty⊕aw):=
 let a:=getD h (toNat 0) (zi zk)
 br (x.1==dj) (Qc (zK 0 (Io h)) (re (ai a.1.2.2.1) []))
 (br (x.1==gj) (re (ai x.t.2) [])
  (Qc (zK 0 (Io x.t.1)) (re (ai (getD x.t.1 (toNat 0) (zi zj))) [])))
def wE(x:ap)(h:Sem zk.sl):=ao [zj] t0 100000000 (zcT x h)
def mB(x:ap)(h:Sem zk.sl):=(wE x h).isSome
def de(x:ap)(h:Sem zk.sl):=o1 (wE x h)
def zm8:=FT [am,zk.sl] [zj] λx=>wE x.1 x.2.1
theorem zhU:FK 40 zm8:=rm.T1 (f:=Tryz.f40) (keep:=k0) (e:=e0)
abbrev zrs:=kl [(7,[4,5,52,53,54])]
inductive KN where
 |h7 (l52:aM) (i53:Int) (i54:Int) (ja0:List UInt8) (ja1:List UInt8) (ja2:List UInt8) (ja5:List UInt8) (ja8:List UInt8) (ja9:Int) (ja10:Int) (ja11:List UInt8) (ja12:List UInt8) (ja16:List UInt8) (ja17:Int) (ja18:Int) (ja19:List UInt8) (ja20:List UInt8) (ja22:List UInt8) (jb0:Sem Q6) (jb1:Sem Q6) (jb2:Sem Q6) (jb5:List UInt8) (jb8:zH) (jb9:Int) (jb10:Int) (jb11:zH) (jb12:zH) (jb13:List (Sem Q5)) (jb16:List UInt8) (jb17:Int) (jb18:Int) (jb19:List UInt8) (jb20:List UInt8) (jb22:Sem Q6)
 |h7b (l52:aM) (i53:Int) (i54:Int) (ja0:List UInt8) (ja1:List UInt8) (ja2:List UInt8) (ja5:List UInt8) (ja8:List UInt8) (ja9:Int) (ja10:Int) (ja11:List UInt8) (ja12:List UInt8) (ja16:List UInt8) (ja17:Int) (ja18:Int) (ja19:List UInt8) (ja20:List UInt8) (ja22:List UInt8) (jb0:Sem Q6) (jb1:Sem Q6) (jb2:Sem Q6) (jb5:List UInt8) (jb8:zH) (jb9:Int) (jb10:Int) (jb11:zH) (jb12:zH) (jb13:List (Sem Q5)) (jb16:List UInt8) (jb17:Int) (jb18:Int) (jb19:List UInt8) (jb20:List UInt8) (jb22:Sem Q6) (lh_2:List (Sem Q6))
abbrev zug:KN->Nat×St
 |.h7 J u v w y z A B C j h x a b c d e g D E F G H I i k l m n o p q s t=>(7,⟨tm 67 [(4,ptr 0 0),(5,ptr 1 0),(52,sl zl J),(53,ai u),(54,ai v)],[Qa [str w,str y,str z,Qb,Qb,str A,Qb,Qb,str B,ai C,ai j,str h,str x,Qb,Qb,Qb,str a,ai b,ai c,str d,str e,Qb,str g],Qa [str D,str E,str F,Qb,Qb,str G,Qb,Qb,str H,ai I,ai i,str k,str l,sl Q5 m,Qb,Qb,str n,ai o,ai p,str q,str s,Qb,str t]]⟩)
 |.h7b J u v w y z A B C j h x a b c d e g D E F G H I i k l m n o p q s t L=>(7,⟨tm 67 [(4,ptr 0 0),(5,ptr 1 0),(52,sl zl J),(53,ai u),(54,ai v)],[Qa [str w,str y,str z,Qb,Qb,str A,Qb,Qb,str B,ai C,ai j,str h,str x,Qb,Qb,Qb,str a,ai b,ai c,str d,str e,Qb,str g],Qa [str D,str E,str F,AV.vec 2,Qb,str G,Qb,Qb,str H,ai I,ai i,str k,str l,sl Q5 m,Qb,Qb,str n,ai o,ai p,str q,str s,Qb,str t],AO.vec Q6 L]⟩)
def zc2(x:ap)(c:Sem zk.sl):Tr (KN⊕aw):=
 let h:=Q0 (x.t.2>=0)
 let b:=zK 0 (Io c)
 let a:=getD c (toNat 0) (zi zk)
 let d:=(↑(Io a.1.2.1):Int)
 let e:=getD a.1.2.1 (toNat x.t.2) (zi zl)
 br (x.1==gj)
 (Qc (cond h b Q3)
  (br (cond h (Q0 (x.t.2<d)) Q4) (Qc b (Qc (zK x.t.2 (Io a.1.2.1)) (re (agg [str x.1,str x.2.2.2.1.1,str x.2.1,Qb,Qb,str e.1,Qb,Qb,str (za.op x.2.2.2.1.t.2),ai (za.v x.2.2.2.1.t.2).1,
  ai (za.v x.2.2.2.1.t.2).2.1,str (za.v x.2.2.2.1.t.2).2.2,str (za.s x.2.2.2.1.t.2),sl Q5 (za.l x.2.2.2.1.t.2),Qb,Qb,str [],ai 0,ai 0,str [],str [],Qb,str x.2.2.1]) []))) (re (agg
  [str x.1,str x.2.2.2.1.1,str x.2.1,Qb,Qb,str [],Qb,Qb,str (za.op x.2.2.2.1.t.2),ai (za.v x.2.2.2.1.t.2).1,ai (za.v x.2.2.2.1.t.2).2.1,str (za.v x.2.2.2.1.t.2).2.2,str (za.s x.2.2.2.1.t.2),sl Q5 (za.l x.2.2.2.1.t.2),Qb,Qb,
  str [],ai 0,ai 0,str [],str [],Qb,str x.2.2.1]) [])))
 (Q9
  (KN.h7 x.2.2.2.1.2.1 (↑(Io x.2.2.2.1.2.1):Int) 0 [] [] [] [] [] 0 0 [] [] [] 0 0 [] [] [] x.1 x.2.2.2.1.1 x.2.1 [] (za.op x.2.2.2.1.t.2) (za.v x.2.2.2.1.t.2).1 (za.v x.2.2.2.1.t.2).2.1 (za.v x.2.2.2.1.t.2).2.2 (za.s x.2.2.2.1.t.2) (za.l x.2.2.2.1.t.2) [] 0 0 [] [] x.2.2.1))
def AP:KN->Tr (KN⊕aw)
 | .h7 l m i F G H I J L n o p q s t u v w y z A B C D j h x a b c d e g k=>
  let N:=l.getD i.toNat (zi zl)
  let M:=[N.1]
  br (Q0 (i<m))
  (Qc (zK i (Io l)) (Qc (Q0 (Io M<=1073741824)) (Q9 (KN.h7b l m (Γ Δ (i+1)) F G H I J L n o p q s t u v w y z A B C D j h x a b c d e g k M))))
  (re (agg [str y,str z,str A,Qb,Qb,str B,Qb,Qb,str C,ai D,ai j,str h,str x,sl Q5 a,Qb,Qb,str b,ai c,ai d,str e,str g,Qb,str k]) [])
 | .h7b l m i F G H I J L n o p q s t u v w y z A B C D j h x a b c d e g k E=>
  let N:=l.getD i.toNat (zi zl)
  let M:=[N.1]
  br (Q0 (i<m))
  (Qc (zK i (Io l)) (Qc (Q0 (Io E+Io M<=1073741824)) (Q9 (KN.h7b l m (Γ Δ (i+1)) F G H I J L n o p q s t u v w y z A B C D j h x a b c d e g k (E++M)))))
  (re (agg [str y,str z,str A,AV.vec 0,Qb,str B,Qb,Qb,str C,ai D,ai j,str h,str x,sl Q5 a,Qb,Qb,str b,ai c,ai d,str e,str g,Qb,str k]) [AO.vec Q6 E])
def I9(x:ap)(h:Sem zk.sl):=ao [ar] AP 100000000 (zc2 x h)
def Pu(x:ap)(h:Sem zk.sl):=(I9 x h).isSome
def Y6(x:ap)(h:Sem zk.sl):=o1 (I9 x h)
def znv:=FT [am,zk.sl] [ar] λx=>I9 x.1 x.2.1
theorem zik:FK 85 znv:=rm.T1 (f:=Tryz.f85) (keep:=zrs) (e:=zug)
def WL:=zf1.addL [(40,zm8),(85,znv)]
theorem OJ:zu WL:=rm.addL<|fc zhU<|fc zik<|iw
def zvz(x:ah):Tr (Empty⊕aw):=
 re (str x.1.1) []
def ZI(x:ah):=ao [Q6] t0 100000000 (zvz x)
def ztJ:=FT [zk] [Q6] λx=>ZI x.1
theorem zif:FK 78 ztJ:=rm.T1 (f:=Tryz.f78) (keep:=k0) (e:=e0)
theorem zih:FK 78 (aN [zk] [.str] λx=>(x.1.1.1,())):=ii zif λ_=>rfl
def zf3:=((((WL.add 78 (aN [zk] [.str] λx=>(x.1.1.1,()))).add 138 zg5).aut 80 Tryz.f80 2).aut 81 Tryz.f81 1)
theorem GR:zu zf3:=iA (iA ((OJ.add zih).add ziT) (bL kw)) (bL kw)
abbrev zrd:=kl [(6,[1,2,5,6,19,20,21])]
inductive SU where
 |h6 (l1:zP) (l6:List (Sem Q6)) (l19:zP) (i20:Int) (i21:Int) (z0:zn [CP.d am])
abbrev zt7:SU->Nat×St
 |.h6 x a l i h z=>(6,⟨tm 55 [(1,sl zk x),(2,ptr 0 0),(5,ptr 1 0),(6,sl Q6 a),(19,sl zk l),(20,ai i),(21,ai h)],[Qa (bI [] [CP.d am] z),Qa [AV.clo (Fn.func 78) [] []]]⟩)
def zqL(x:ap)(h:Sem zk.sl):Tr (SU⊕aw):=
 let a:=lF (x.1,x.2.1,x.2.2.1,(x.2.2.2.1.1,x.2.2.2.1.2.1,x.2.2.2.1.2.2.1,x.2.2.2.1.2.2.2.1,x.2.2.2.1.t.1,zr x.2.2.2.1.t.2),x.t)
 br ((↑(Io h):Int)!=(↑(Io a):Int)) (re (ai 1) []) (Q9 (SU.h6 h a h (↑(Io h):Int) 0 (x,())))
def zdV:SU->Tr (SU⊕aw)
 | .h6 l d x b i z=>
  let k:=x.getD i.toNat (zi zk)
  let c:=(z.1.1,z.1.2.1,z.1.2.2.1,(z.1.2.2.2.1.1,z.1.2.2.2.1.2.1,z.1.2.2.2.1.2.2.1,z.1.2.2.2.1.2.2.2.1,z.1.2.2.2.1.t.1,zr z.1.2.2.2.1.t.2),z.1.t)
  let a:=Y6 c l
  let e:=(a.1,a.2.1,a.2.2.1,a.2.2.2.1,a.t.1,a.t.2.1,a.t.q.1,a.t.q.2.1,zr a.t.t.1,a.t.t.2.1,a.t.t.q.1,zr a.t.t.q.2.1,a.t.t.t)
  let h:=pOf (fZ l) e
  let g:=h.2!=0
  let j:=(h.1.1,h.1.2.1,h.1.2.2.1,(h.1.2.2.2.1.1,h.1.2.2.2.1.2.1,h.1.2.2.2.1.2.2.1,h.1.2.2.2.1.2.2.2.1,h.1.2.2.2.1.t.1,zr h.1.2.2.2.1.t.2),h.1.t)
  br (Q0 (i<b))
  (Qc (zK i (Io x)) (Qc (zK i (Io d)) (br (!k.1.1==d.getD i.toNat (zi Q6)) (re (ai 1) []) (Q9 (SU.h6 l d x b (Γ Δ (i+1)) z)))))
  (Qc (Q0 (0<Io l)) (Qc (Q0 (Io l<=1000)) (Qc (two l) (Qc (Pu c l) (Qc (zlK (fZ l) e) (Qc (cond g Q3 (I7 c j)) (br (cond g Q3 (!ML c j)) (re (ai 1) []) (re (ai 0) []))))))))
def R6(x:ap)(h:Sem zk.sl):=ao [zj] zdV 100000000 (zqL x h)
def Hq(x:ap)(h:Sem zk.sl):=(R6 x h).isSome
def Us(x:ap)(h:Sem zk.sl):=o1 (R6 x h)
def zm3:=FT [am,zk.sl] [zj] λx=>R6 x.1 x.2.1
theorem zhP:FK 31 zm3:=GR.T1 (f:=Tryz.f31) (keep:=zrd) (e:=zt7)
def zf4:=zf3.add 31 zm3
theorem GS:zu zf4:=GR.add zhP
abbrev zrp:=kl [(4,[1,6,7,8]),(12,[1,6,7,8,10,11,12])]
inductive mE where
 |h4 (l1:zP) (l6:List (Sem Q6)) (i8:Int)
 |h12 (l1:zP) (l6:List (Sem Q6)) (i8:Int) (i12:Int) (z0:zn [CP.d zk])
 |h12b (l1:zP) (l6:List (Sem Q6)) (i8:Int) (i12:Int) (z0:zn [CP.d zk]) (lh_1:dp)
 |h4b (l1:zP) (l6:List (Sem Q6)) (i8:Int) (lh_0:zP)
 |h12bb (l1:zP) (l6:List (Sem Q6)) (i8:Int) (i12:Int) (z1:zn [CP.d zk]) (lh_0:zP)
 |h12bbb (l1:zP) (l6:List (Sem Q6)) (i8:Int) (i12:Int) (z1:zn [CP.d zk]) (lh_0:zP) (lh_2:dp)
abbrev zue:mE->Nat×St
 |.h4 x a h=>(4,⟨tm 67 [(1,sl zk x),(6,sl Q6 a),(7,Qb),(8,ai h)],[]⟩)
 |.h12 x a h i z=>(12,⟨tm 67 [(1,sl zk x),(6,sl Q6 a),(7,Qb),(8,ai h),(10,ptr 0 0),(11,Qb),(12,ai i)],[Qa (bI [] [CP.d zk] z)]⟩)
 |.h12b x a h i z b=>(12,⟨tm 67 [(1,sl zk x),(6,sl Q6 a),(7,Qb),(8,ai h),(10,ptr 0 0),(11,AV.vec 1),(12,ai i)],[Qa (bI [] [CP.d zk] z),AO.vec zA b]⟩)
 |.h4b x a h l=>(4,⟨tm 67 [(1,sl zk x),(6,sl Q6 a),(7,AV.vec 0),(8,ai h)],[AO.vec zk l]⟩)
 |.h12bb x a h i e l=>(12,⟨tm 67 [(1,sl zk x),(6,sl Q6 a),(7,AV.vec 0),(8,ai h),(10,ptr 1 0),(11,Qb),(12,ai i)],[AO.vec zk l,Qa (bI [] [CP.d zk] e)]⟩)
 |.h12bbb x a h i e l c=>(12,⟨tm 67 [(1,sl zk x),(6,sl Q6 a),(7,AV.vec 0),(8,ai h),(10,ptr 1 0),(11,AV.vec 2),(12,ai i)],[AO.vec zk l,Qa (bI [] [CP.d zk] e),AO.vec zA c]⟩)
def zkr(x:ap)(h:Sem zk.sl):Tr (mE⊕aw):=
 let a:=(x.1,x.2.1,x.2.2.1,(x.2.2.2.1.1,x.2.2.2.1.2.1,x.2.2.2.1.2.2.1,x.2.2.2.1.2.2.2.1,x.2.2.2.1.t.1,zr x.2.2.2.1.t.2),x.t)
 Qc (jU a) (Q9 (mE.h4 h (lG a) 0))
def gP:mE->Tr (mE⊕aw)
 | .h4 a h x=>
  let c:=lM a (h.getD x.toNat (zi Q6))
  br (Q0 (x<(↑h.length:Int)))
  (Qc (zK x (Io h)) (br (Q0 (c<0)) (re (tup [Qb,kb Q4]) []) (Qc (zK c (Io a)) (Q9 (mE.h12 a h x 0 (a.getD (toNat c) (zi zk),()))))))
  (re (tup [Qb,kb Q3]) [])
 | .h12 a h x i z=>
  let c:=(↑(Io z.1.1.t.1):Int)
  let j:=zK i (Io z.1.1.t.1)
  let d:=getD z.1.1.t.1 i.toNat (zi zA)
  let k:=[d]
  let m:=Γ Δ (i+1)
  let n:=[((z.1.1.1,z.1.1.2.1,z.1.1.2.2.1,z.1.1.2.2.2.1,[],zr z.1.1.t.2),z.1.2)]
  br (Q0 (i<c))
  (Qc j (Qc (Au h d.2) (br (Ng h d.2) (Qc j (Qc (Q0 (Io k<=1073741824)) (Q9 (mE.h12b a h x m z k)))) (Q9 (mE.h12 a h x m z)))))
  (Qc (Q0 (Io n<=1073741824)) (Q9 (mE.h4b a h (Γ Δ (x+1)) n)))
 | .h12b a h x i z e=>
  let c:=(↑(Io z.1.1.t.1):Int)
  let j:=zK i (Io z.1.1.t.1)
  let d:=getD z.1.1.t.1 i.toNat (zi zA)
  let k:=[d]
  let m:=Γ Δ (i+1)
  let n:=[((z.1.1.1,z.1.1.2.1,z.1.1.2.2.1,z.1.1.2.2.2.1,e,zr z.1.1.t.2),z.1.2)]
  br (Q0 (i<c))
  (Qc j (Qc (Au h d.2) (br (Ng h d.2) (Qc j (Qc (Q0 (Io e+Io k<=1073741824)) (Q9 (mE.h12b a h x m z (e++k))))) (Q9 (mE.h12b a h x m z e)))))
  (Qc (Q0 (Io n<=1073741824)) (Q9 (mE.h4b a h (Γ Δ (x+1)) n)))
 | .h4b a h x l=>
  let c:=lM a (h.getD x.toNat (zi Q6))
  br (Q0 (x<(↑h.length:Int)))
  (Qc (zK x (Io h)) (br (Q0 (c<0)) (re (tup [Qb,kb Q4]) []) (Qc (zK c (Io a)) (Q9 (mE.h12bb a h x 0 (a.getD (toNat c) (zi zk),()) l)))))
  (re (tup [AV.vec 0,kb Q3]) [AO.vec zk l])
 | .h12bb a h x i b l=>
  let c:=(↑(Io b.1.1.t.1):Int)
  let j:=zK i (Io b.1.1.t.1)
  let d:=getD b.1.1.t.1 i.toNat (zi zA)
  let k:=[d]
  let m:=Γ Δ (i+1)
  let n:=[((b.1.1.1,b.1.1.2.1,b.1.1.2.2.1,b.1.1.2.2.2.1,[],zr b.1.1.t.2),b.1.2)]
  br (Q0 (i<c))
  (Qc j (Qc (Au h d.2) (br (Ng h d.2) (Qc j (Qc (Q0 (Io k<=1073741824)) (Q9 (mE.h12bbb a h x m b l k)))) (Q9 (mE.h12bb a h x m b l)))))
  (Qc (Q0 (Io l+Io n<=1073741824)) (Q9 (mE.h4b a h (Γ Δ (x+1)) (l++n))))
 | .h12bbb a h x i b l g=>
  let c:=(↑(Io b.1.1.t.1):Int)
  let j:=zK i (Io b.1.1.t.1)
  let d:=getD b.1.1.t.1 i.toNat (zi zA)
  let k:=[d]
  let m:=Γ Δ (i+1)
  let n:=[((b.1.1.1,b.1.1.2.1,b.1.1.2.2.1,b.1.1.2.2.2.1,g,zr b.1.1.t.2),b.1.2)]
  br (Q0 (i<c))
  (Qc j (Qc (Au h d.2) (br (Ng h d.2) (Qc j (Qc (Q0 (Io g+Io k<=1073741824)) (Q9 (mE.h12bbb a h x m b l (g++k))))) (Q9 (mE.h12bbb a h x m b l g)))))
  (Qc (Q0 (Io l+Io n<=1073741824)) (Q9 (mE.h4b a h (Γ Δ (x+1)) (l++n))))
def DU(x:ap)(h:Sem zk.sl):=ao [zk.sl,Sh.bool] gP 100000000 (zkr x h)
def Py(x:ap)(h:Sem zk.sl):=(DU x h).isSome
def Zl(x:ap)(h:Sem zk.sl):=o2 (DU x h)
def znq:=FT [am,zk.sl] [zk.sl,Sh.bool] λx=>DU x.1 x.2.1
theorem zic:FK 66 znq:=GS.T1 (f:=Tryz.f66) (keep:=zrp) (e:=zue)
def yY:=zf4.add 66 znq
theorem xw:zu yY:=GS.add zic
abbrev zgA:=kl [(4,[5,6,18,19,20]),(11,[9,34])]
inductive SV where
 |h4 (i5:zq) (l18:List (Sem zf.sl)) (i19:Int) (i20:Int) (mh_0:List ((Int×Int×zH)×Int))
abbrev Ov:SV->Nat×St
 |.h4 x l i h m=>(4,⟨tm 46 [(5,ai x),(6,AV.mp 0),(18,sl zf.sl l),(19,ai i),(20,ai h)],[AO.vmap Q3 m]⟩)
def zko(x:ap)(h:Sem zk.sl):Tr (SV⊕aw):=
 let a:=(x.1,x.2.1,x.2.2.1,(x.2.2.2.1.1,x.2.2.2.1.2.1,x.2.2.2.1.2.2.1,x.2.2.2.1.2.2.2.1,x.2.2.2.1.t.1,zr x.2.2.2.1.t.2),x.t)
 let b:=getD h (toNat 0) (zi zk)
 Qc (mB a h) (Qc (zK 0 (Io h)) (Q9 (SV.h4 (de a h) b.2 (↑(Io b.2):Int) 0 [])))
def ztp:SV->Tr (SV⊕aw)
 | .h4 x l h i m=>
  let a:=l.getD i.toNat (zi zf.sl)
  br (Q0 (i<h))
  (Qc (zK i (Io l)) (Qc (zK x (Io a)) (Q9 (SV.h4 x l h (Γ Δ (i+1)) (kN m (getD a (toNat x) (zi zf)) 0)))))
  Tr.err
set_option maxRecDepth 100000
def wV(e:List ((Int×Int×zH)×Int))(k:Int×Int×zH):List ((Int×Int×zH)×Int):=match cH e k 0 with
 |some q=>e.eraseIdx q.1
 |none=>e
variable {w:World}{h:Array MapEntry}{e:List ((Int×Int×zH)×Int)}
theorem zct{P:Program}{mt kt et:TypeId}(A:P.underlying mt=Q1 (.map kt et))(l:gJ P kt=Q3){r:Nat}{c:Nat}{k:Int×Int×zH}(v:ez k)
  (o:w.heap[r]?=Q1 (.map h c)) (u:(h.toList.map λa=>(a.key,a.val))=CA Q3 e) (C:∀p∈e,cZ .i64 p.2/\ez p.1) (y:me h c):
  ∃b:Array MapEntry,(∀z,(Builtin.delete_ #[mt,kt] z #[.map (Q1 r),cB k]).run P w=.ok (.tuple #[]) {w with heap:=w.heap.setIfInBounds r (.map b c)})/\
   (b.toList.map λa=>(a.key,a.val))=CA Q3 (wV e k)/\(∀x∈b.toList,x.born<c)/\(b.toList.map (·.born)).Nodup:=by
 have j:=jF (P:=P) (w:=w) l v Q3 e h.toList u C;have d:∀x∈h.toList,x.born<c:=λx t=>by
  obtain⟨i,s,rfl⟩:=gD t;have:=y.2 i h.toList[i] (by rw[<-ph];exact zZ s);rw[this,y.1];simpa using s
 have n:(h.toList.map (·.born)).Nodup:=by
  have:h.toList.map (·.born)=List.range h.size:=by
   apply List.ext_getElem
   .simp
   .intro i B D;have s:i<h.size:=by simpa using B
    simp only[List.getElem_map,List.getElem_range];exact y.2 i _ (by rw[<-ph];exact zZ (by simpa using s))
  rw[this];exact List.nodup_range
 unfold wV;cases m:cH e k 0 with
 | none=>
  rw[m]at j;refine⟨h,λz=>?_,u,d,n⟩;simp[Builtin.delete_,bA A,gB o,bD l,j,mW _ o,Result.andThen]
 | some q=>
  rw[m]at j;have g:((h.eraseIdxIfInBounds q.1).toList)=h.toList.eraseIdx q.1:=by simp
  refine⟨h.eraseIdxIfInBounds q.1,λz=>?_,?_,λx t=>?_,?_⟩
  .simp[Builtin.delete_,bA A,gB o,bD l,j,mW _ o,Result.andThen]
  .rw[g,nC,u];exact(nC _ e q.1).symm
  .rw[g]at t;exact d x (List.mem_of_mem_eraseIdx t)
  .rw[g];exact n.sublist ((List.eraseIdx_sublist _ _).map _)
def EB:Code:=match Tryz.f32.body with
 |some (.seq _ (.seq _ (.seq _ (.seq _ r))))=>r
 |_=>.skip
def Dw:Code:=match Tryz.f32.body with
 |some (.seq _ (.seq _ (.seq _ (.seq (.seq _ (.block _ (.loop c))) _))))=>c
 |_=>.skip
theorem zke:aa Tryz.f32 4=[.code Dw,.inLoop Dw,.inBlock 0,.code EB]:=kw
theorem zky:(Tryz.prog.info? 30).map (λi=>(i.zero,i.size,i.bytes))=Q1 (Q1 (.agg #[.int .i64 0,.int .i64 0,.string ⟨#[]⟩]),3,32):=kw
def L5(l:List ((Int×Int×zH)×MapEntry)):List Value:=l.flatMap λp=>[.int .i64 p.1.1,.int .i64 p.1.2.1,.string ⟨p.1.2.2.toArray⟩]
structure zg2 (w1:World) (r clock:Nat) (ents':Array MapEntry) (v:Value) (wr:World) (seen:Array Nat) (E:List ((Int×Int×zH)×MapEntry)):Prop where
 it:∃c0,wr.heap[w1.heap.size]?=Q1 (.mapIter (Q1 r) clock seen c0)/\clock<=c0
 mp:wr.heap[r]?=Q1 (.map ents' clock)
 sub:∀p∈E,p.2∈ents'.toList/\p.2.key=cB p.1
 sn:seen.toList=E.map λp=>p.2.born
 nd:(E.map λp=>p.2.born).Nodup
 row:wr.ownsRow w1.heap.size 30 3 v (Io E) (L5 E)
 bel:RowKit.Below w1.heap.size w1 wr
 cnt:Io E+(leftOf ents' seen).size<=ents'.size
theorem Tl(w:World)(l:List Value)(t:TypeId):∀j u,l[j]?=Q1 u->(w.alloc (.cells l.toArray t)).cell? ((⟨w.heap.size,0,none⟩:Addr).add j)=Q1 u:=by
 intro j u h;unfold Addr.add;split
 next e=>subst e;simp[h]
 .simp[h]
theorem zdI(Q:Exit->Act->World->Prop)(S:Value->World->Prop)(r:Nat)(d:Array MapEntry)(c:Nat)(w i:World)(l0:∀ty,(Builtin.delete_ #[158,30] ty #[.map (Q1 r),.agg #[.int .i64 0,.int .i64 0,.string ⟨#[]⟩]]).run Tryz.prog w=.ok (.tuple #[]) i)(hm:i.heap[r]?=Q1 (.map d c))(N:∀x∈d.toList,x.born<c)(x2:(d.toList.map (·.born)).Nodup) (X:∀x∈d.toList,∃k,x.key=cB k) (l5:d.size<=1000)
  (h0:∀v wr s E,zg2 i r c d v wr s E->(leftOf d s).size=0->Calls Tryz.prog 87 #[v,.func (.func 50) #[] #[]] wr λe w'=>e=.returned (.tuple #[])/\S v w')
  (hQ:∀v w'(a:Act),S v w'->a.tmps[4]?=Q1 v->a.defers=[]->Q Exit.ret a w')
  (v0 v1 v2 v3 v4 v5 v7 v8 v9 x9 a0 a1 a2 a3 a4 a5 a6 a7 a8 v20 a9 i1 i2 i3 i4 i5 i6 i7 i8 i9 j0 j1 j2 j3 j4 j5 j6 j7 j8 j9 k4 k5 k6 k7 k8:Value):
  EB.wp Tryz.prog Q {tmps:=#[v0,v1,v2,v3,v4,v5,(Value.map (Q1 r)),v7,v8,v9,x9,a0,a1,a2,a3,a4,a5,a6,a7,a8,v20,a9,i1,i2,i3,i4,i5,i6,i7,i8,i9,j0,j1,j2,j3,j4,j5,j6,j7,j8,j9,k4,k5,k6,k7,k8],defers:=[]} w:=by
 have l3:=run_range_map (P:=Tryz.prog) i 158 30 159 r d c Tryz.underlying158 hm;simp only[EB,Tryz.f32]
 go_wp2
 obtain⟨i0,hi,x6,x7,x8⟩:=info_parts zky
 go_loopw [9] (λv wr=>∃s E,zg2 i r c d v wr s E)
  (λ_ wr=>(leftOf d (wr.iterSeen i.heap.size)).size)
 case atStart=>
  exact⟨#[],[],⟨⟨c,heap_alloc_new _ _,aj _⟩,by rw[heap_alloc_old _ _ (lZ.1 hm).1];exact hm,sw,sw,sw,World.ownsRow_nil _ _ _ _,(RowKit.Below.refl _ _).alloc (aj _) _,by simpa[leftOf]using Array.size_filter_le⟩⟩
 case round=>
  obtain⟨s,E,m⟩:=hrel;obtain⟨c0,A,x4⟩:=m.it;have l1:r<i.heap.size:=(lZ.1 hm).1;rcases run_next_at (P:=Tryz.prog) wr 0 i.heap.size r c c0 s d c A m.mp N x4 with⟨hz,C⟩|⟨e,O,wd,z,C⟩
  .have h7:=h0 _ _ _ _ m (by simpa using hz);clear m
   go_wp2_with (go_at_call 87;refine h7.mono ?_;rintro e w' ⟨rfl,hS⟩)
   exact hQ _ _ _ hS rfl rfl
  .have T:e∈d.toList:=by simp[leftOf]at O|-;exact O.1
   have h9:e.born∉E.map λp=>p.2.born:=by
    rw[<-m.sn];simp[leftOf]at O|-;exact O.2
   obtain⟨k,hk⟩:=X e T;have x1:0<(leftOf d s).size:=by
    have:=List.length_pos_of_mem O;simpa using this
   have k9:=m.cnt;have l2:Io E<1000:=by omega
   obtain⟨W,l⟩:∃W,ChangeMaps.setBlock wd i.heap.size (.mapIter (Q1 r) c (s.push e.born) c)=W:=⟨_,rfl⟩;rw[l]at C;have D:wd.heap=wr.heap:=by rcases z with rfl|rfl<;>rfl
   have h2:i.heap.size<wr.heap.size:=(lZ.1 A).1;have n:W.heap[i.heap.size]?=Q1 (.mapIter (Q1 r) c (s.push e.born) c):=by
    rw[<-l];show(wd.heap.setIfInBounds _ _)[_]?=_;rw[D];simp[h2]
   have L:∀j,j≠i.heap.size->W.heap[j]?=wr.heap[j]?:=λj B=>by
    rw[<-l];show(wd.heap.setIfInBounds _ _)[_]?=_;rw[D,Array.getElem?_setIfInBounds_ne (λe=>B e.symm)]
   have M:W.heap.size=wr.heap.size:=by
    rw[<-l];show(wd.heap.setIfInBounds _ _).size=_;rw[D];simp
   have U:wr.grownBy W (Q1 i.heap.size):=⟨by rw[<-l];rcases z with rfl|rfl<;>rfl,by rw[<-l];rcases z with rfl|rfl<;>rfl,by rw[<-l];rcases z with rfl|rfl<;>rfl,by rw[M];exact aj _,λj _ B=>L j λe=>B (by rw[e])⟩;have H:W.heap[r]?=Q1 (.map d c):=(L r ow).trans m.mp;have h1:=run_entry_at (P:=Tryz.prog) W i.heap.size r c s d c e n H T x2;have y:=m.row.kept U (by
    rcases m.row.2 with⟨rfl,_⟩|⟨g,h5,h6,rfl,_,t,_⟩
    .exact .inl rfl
    .refine .inr λe'=>?_
     have:g=i.heap.size:=by simpa[Value.ownBlock]using e'
     subst this;rw[A]at t;cases t)
   have q:RowKit.Below i.heap.size i W:=m.bel.grown U m.bel.size (λj e=>by cases e;exact aj _);rw[hk]at C h1;obtain⟨k1,k2,k3⟩:=k;simp only[cB]at C h1;have h4:=m.sub;have x5:=m.sn;have h3:=m.nd;clear l z D M U m
   go_wp2_with (at_builtin;refine wpList_append_own _ rfl _ _ 39 rfl i.heap.size 30 i0 _ 3 32 Tryz.underlying39 hi x6 x7 x8 rfl (by decide) _ _ _ rfl ((y.alloc _).alloc _) ⟨W.heap.size+1,0,none⟩ 1 1 [.int .i64 k1,.int .i64 k2,.string ⟨k3.toArray⟩] rfl rfl (by have:=Tl (W.alloc (.cells #[.int .i64 k1,.int .i64 k2,.string ⟨k3.toArray⟩] 30)) [.int .i64 k1,.int .i64 k2,.string ⟨k3.toArray⟩] 30;simpa using this) (by simp[Value.oneCell']) (by unfold maxLen;omega) ow (by have:=q.size;simp;omega) ?_;intro v' w3 Z F Y;go_frame)
   obtain⟨o3,x3⟩:∃o:Obj,o=.cells #[.int .i64 k1,.int .i64 k2,.string ⟨k3.toArray⟩] 30:=⟨_,rfl⟩;have G:World.grownBy ((W.alloc o3).alloc o3) w3 u9.ownBlock:=by rw[x3];exact F
   clear F Y;have u:∀j,u9.ownBlock=Q1 j->i.heap.size<=j/\j≠i.heap.size:=by
    intro j B;rcases y.2 with⟨rfl,_⟩|⟨g,h5,h6,rfl,h8,t,_⟩
    .simp[Value.ownBlock]at B
    .have:g=j:=by simpa[Value.ownBlock]using B
     subst this;exact⟨h8,λe'=>by subst e';rw[n]at t;cases t⟩
   have l4:i.heap.size<W.heap.size:=(lZ.1 n).1;have J:∀j,j<=i.heap.size->w3.heap[j]?=W.heap[j]?:=λj B=>by
    rw[G.block j sg (λe'=>by obtain⟨a,b⟩:=u j e'.symm;omega),heap_alloc_old _ _ sg,heap_alloc_old _ _ ow]
   have I:w3.heap[i.heap.size]?=Q1 (Obj.mapIter (Q1 r) c (s.push e.born) c):=(J _ (aj _)).trans n;have x0:L5 (E++[((k1,k2,k3),e)])=L5 E++[.int .i64 k1,.int .i64 k2,.string ⟨k3.toArray⟩]:=by simp[L5]
   refine⟨⟨s.push e.born,E++[((k1,k2,k3),e)],⟨⟨c,I,aj _⟩,(J r ow).trans H,?_,?_,?_,?_,?_,?_⟩⟩,?_⟩
   .intro p hp;rcases bZ.1 hp with h|h
    .exact h4 p h
    .obtain rfl:=dO.1 h;exact⟨T,hk⟩
   .simp[x5]
   .rw[eI];refine List.nodup_append.2 ⟨h3,sw,λa ha b hb=>?_⟩;have:b=e.born:=by simpa using hb
    rintro rfl;exact h9 (this▸ha)
   .rw[x0,gS];exact Z
   .exact((q.alloc ow _).alloc sg _).grown G sg (λj B=>(u j B).1)
   .have:=left_shrinks _ _ _ O;rw[gS];simp only[eA,pj];omega
   .have e1:wr.iterSeen i.heap.size=s:=by simp[World.iterSeen,A]
    have e2:w3.iterSeen i.heap.size=s.push e.born:=by simp[World.iterSeen,I]
    rw[e1,e2];exact left_shrinks _ _ _ O
abbrev V3:={x:zo//bh x=Q3}
def ki(p:V3):List Value:=[.int .i64 p.1.1,.int .i64 p.1.2.1,.string ⟨(p.1.2.2:zH).toArray⟩]
def La(p q:V3):Int:=aV p.1 q.1
theorem zl2[Inhabited V3](d:Array V3)(B j:Nat)(w:World)(s:HoldsK ki 3 w B 0 d)(q:B<w.heap.size)(h:d.size<4611686018427387904):
  Calls Tryz.prog 87 #[.slice (Q1 ⟨B,0,none⟩) d.size j,.func (.func 50) #[] #[]] w λe l=>e=.returned (.tuple #[])/\∃n os,l=sortWorldK ki 3 w B 0 n (d.toList.mergeSort λx y=>!(ltOf La) y x).toArray os:=by
 refine AnyQ.slices_SortFunc_total Tryz.sortVal 3 Tryz.isAgg30 Tryz.sizeOf30 ki (λ_=>rfl) ?_ La ?_ 50 #[] B 0 j d w zuz ?_ s q h ?_
 .intro x v k;simp only[ki,cf,List.not_mem_nil,or_false]at k;rcases k with rfl|rfl|rfl<;>rfl
 .refine⟨λx=>?_,λx y z h g=>?_,λx y z h g=>?_⟩
  .exact ae (gh (a:=x.1))
  .simp only[ltOf,aR]at h g|-;exact gA (a:=x.1) (b:=y.1) (c:=z.1) h g
  .simp only[ltOf,dY]at h g|-;intro i;rcases nW x.2 y.2 h with e|e
   .unfold La at i;rw[e]at i;exact g i
   .exact g (gA (a:=y.1) (b:=x.1) (c:=z.1) e i)
 .intro m os u t x y;show Calls Tryz.prog 50 (#[Value.agg (ki x).toArray,Value.agg (ki y).toArray]++#[]) _ _;refine(zdu x.1.1 x.1.2.1 x.1.2.2 y.1.1 y.1.2.1 y.1.2.2 _).mono ?_;rintro A l ⟨rfl,o,p⟩;exact⟨rfl,gd_of o p⟩
 .intro x y h g;simp only[ltOf,dY]at h g;rcases nW x.2 y.2 h with e|e
  .exact Subtype.ext e
  .exact zC e g
theorem uZ[Inhabited V3]:∀(l:List V3)(t:Nat),t<Io l*3->(l.flatMap ki)[t]?=Q1 (ki (l[t/3]!))[t%3]!
 |[],t,h=>by simp at h
 | a::l,t,h=>by
  rw[List.flatMap_cons];by_cases x:t<3
  .have e0:t/3=0:=by omega
   have e:t%3=t:=by omega
   rw[kC (by simpa[ki]using x),e0,e];rw[List.getElem!_cons_zero,zZ (by simpa[ki]using x),getElem!_pos]
  .obtain⟨s,rfl⟩:∃s,t=s+3:=⟨t-3,ow⟩;have e0:(s+3)/3=s/3+1:=by omega
   have e:(s+3)%3=s%3:=by omega
   rw[jd (by simp[ki]),e0,e,List.getElem!_cons_succ];have:=uZ l s (by simp at h;omega);simpa[ki]using this
theorem Db:∀l:List V3,(l.flatMap ki).length=Io l*3
 |[]=>rfl
 | a::l=>by
  rw[List.flatMap_cons,gS,Db l,eA];simp[ki];omega
variable {v:Value}{j:List V3}
theorem Y4[Inhabited V3](z:w.ownsRow i 30 3 v (Io j) (j.flatMap ki))(p:Io j<4611686018427387904)(I:j≠[]):
  Calls Tryz.prog 87 #[v,.func (.func 50) #[] #[]] w λe M=>e=.returned (.tuple #[])/\M.ownsRow i 30 3 v (Io j) ((j.mergeSort λx y=>!(ltOf La) y x).flatMap ki)/\w.grownBy M v.ownBlock:=by
 rcases z.2 with⟨_,O⟩|⟨g,d,o,rfl,C,a,s,E,q,L⟩
 .exact zC (List.length_eq_zero_iff.1 O) I
 have P:HoldsK ki 3 w g 0 j.toArray:=by
  intro t c;rw[size_flatK]at c;have A:t<Io j*3:=by simpa using c
  have T:o.toList[t]?=Q1 (ki (j[t/3]!))[t%3]!:=by
   rw[<-uZ j t A,<-L,List.getElem?_take_of_lt A]
  refine⟨?_,by simp[World.frozen?,a]⟩;rw[get_flatK _ _ _ _ c];simp[World.cell?,a];simpa using T
 have N:=zl2 j.toArray g d w P (lZ.1 a).1 (by simpa using p);have J:j.toArray.size=Io j:=by simp
 rw[J]at N;refine N.mono ?_;rintro e M ⟨rfl,m,os,rfl⟩;have h:(j.mergeSort λx y=>!(ltOf La) y x).length=Io j:=List.length_mergeSort _;simp only[];generalize(j.mergeSort λx y=>!(ltOf La) y x)=l at h;have B:=vj (enc:=ki) (k:=3) (n:=m) (os:=os) l.toArray a;have u:∀b,b<w.heap.size->b≠g->(sortWorldK ki 3 w g 0 m l.toArray os).heap[b]?=w.heap[b]?:=λb S H=>ic l.toArray S H
 refine⟨by first|trivial|rfl,⟨by rw[Db,h],.inr ⟨g,d,_,rfl,C,B,s,E,by simp[putCells,q],?_⟩⟩,⟨rfl,rfl,rfl,?_,λk U H=>u k U λe=>H (by rw[e];rfl)⟩⟩
 .apply pi;intro t;by_cases c:t<Io j*3
  .rw[List.getElem?_take_of_lt c,uZ l t (by rw[h];exact c),ph];have D:t<o.size:=by rw[q];exact gE c (gC 3 s)
   have F:=get_flatK ki 3 l.toArray t (by simpa[h]using c);have G:(flatK ki 3 l.toArray).size=Io j*3:=by simp[h]
   unfold putCells;rw[Array.getElem?_mapIdx,pA D];simp only[B1,aL,er,G,c,and_self,zh,Nat.sub_zero,F,id_eq];simp
  .rw[eX sg,eX (by rw[Db,h];omega)]
 .unfold sortWorldK grow putRowK;simp[Sort.ahead]
theorem Ul(p:Option Addr)(c:Nat)(h:Value)(w:World):Calls Tryz.prog 87 #[.slice p 0 c,h] w λe x=>e=.returned (.tuple #[])/\x=w:=
 AnyF.slices_SortFunc_none {Tryz.sortVal with} p c h w
theorem zgI:∀E:List ((Int×Int×zH)×MapEntry),(∀p∈E,bh p.1=Q3)->∃l:List V3,l.map (·.1)=E.map (·.1)/\l.flatMap ki=L5 E
 |[],_=>⟨[],rfl,rfl⟩
 | p::E,h=>by
  obtain⟨l,x,a⟩:=zgI E λq b=>h q (mX _ b)
  refine⟨⟨p.1,h p pP⟩::l,by simp[x],?_⟩;rw[List.flatMap_cons,a];rfl
def zbD(w:World)(e:Array MapEntry)(v:Value)(h:World):Prop:=
 ∃(E:List ((Int×Int×zH)×MapEntry))(l:List V3),(∀p∈E,p.2∈e.toList/\p.2.key=cB p.1)/\(∀x∈e.toList,x.born∈E.map λp=>p.2.born)/\(E.map λp=>p.2.born).Nodup/\l.map (·.1)=E.map (·.1)/\
  h.ownsRow w.heap.size 30 3 v (Io l) ((l.mergeSort λx y=>!(ltOf La) y x).flatMap ki)/\RowKit.Below w.heap.size w h
variable {E:List ((Int×Int×zH)×MapEntry)}
theorem Tn[Inhabited V3]{wr:World}{r k:Nat}{s:Array Nat}(d:zg2 w r k h v wr s E)(A:(leftOf h s).size=0)(G:∀p∈E,bh p.1=Q3)(H:h.size<=1000):
  Calls Tryz.prog 87 #[v,.func (.func 50) #[] #[]] wr λe y=>e=.returned (.tuple #[])/\zbD w h v y:=by
 obtain⟨l,t,D⟩:=zgI E G;have j:Io l=Io E:=by simpa using congrArg Io t
 have i:∀x∈h.toList,x.born∈E.map λp=>p.2.born:=λx J=>by
  have:=all_seen h s A x J;rw[<-d.sn];simpa using this
 have b:=d.row;rw[<-D,<-j]at b;obtain⟨L,F,_⟩:=d.it;have u:w.heap.size<=wr.heap.size:=d.bel.size;by_cases m:l=[]
 .subst m;have I:∃p c,v=.slice p 0 c:=by
   rcases b.2 with⟨rfl,_⟩|⟨g,n,o,rfl,_⟩
   .exact⟨_,_,rfl⟩
   .exact⟨_,_,rfl⟩
  obtain⟨p,c,rfl⟩:=I;refine(Ul p c _ wr).mono ?_;rintro e y ⟨rfl,rfl⟩;exact⟨rfl,E,[],d.sub,i,d.nd,t,by simpa using b,d.bel⟩
 .refine(Y4 b (by have:=d.cnt;omega) m).mono ?_;rintro e y ⟨rfl,B,C⟩;refine⟨rfl,E,l,d.sub,i,d.nd,t,B,d.bel.grown C u λa z=>?_⟩;rcases b.2 with⟨rfl,_⟩|⟨g,n,o,rfl,q,_⟩
  .simp[Value.ownBlock]at z
  .have:g=a:=by simpa[Value.ownBlock]using z
   exact this▸q
theorem Uh(x y z:V3)(h:ltOf La x y=Q4)(g:ltOf La y z=Q4):ltOf La x z=Q4:=by
 simp only[ltOf,dY]at h g|-;intro d;rcases nW x.2 y.2 h with e|e
 .unfold La at d;rw[e]at d;exact g d
 .exact g (gA (a:=y.1) (b:=x.1) (c:=z.1) e d)
theorem Ug(x y:V3):(!(ltOf La y x)||!(ltOf La x y))=Q3:=by
 by_cases h:yz y.1 x.1
 .have:ltOf La x y=Q4:=by
   simp only[ltOf,dY];exact λg=>gh (a:=y.1) (gA (a:=y.1) (b:=x.1) (c:=y.1) h g)
  simp[this]
 .have:ltOf La y x=Q4:=by
   simp only[ltOf,dY];exact h
  simp[this]
theorem PZ(l:List V3)(j:(l.map (·.1)).Nodup) (i:∀x∈l,x.1.1≠0):(l.mergeSort λx y=>!(ltOf La) y x).map (·.1)=pT (l.map (·.1)):=by
 by_cases d:l=[]
 .subst d;simp[pT]
 .refine ZX ?_ ((List.mergeSort_perm l _).map _) ?_
  .have e:l.map (·.1)≠[]:=by simpa using d
   simp only[ra,aF,dJ,aR,bne_iff_ne,ne_eq];refine⟨⟨λx k=>?_,j⟩,by simpa using d⟩;obtain⟨y,m,rfl⟩:=aE.1 k;exact⟨y.2,i y m⟩
  .rw[List.pairwise_map];refine(List.pairwise_mergeSort (λa b c h g=>?_) (λa b=>Ug a b) l).imp λ{x y} h=>?_
   .simp only[yJ]at h g|-;exact Uh c b a g h
   .simp only[ltOf,yJ,dY]at h;exact h
theorem Lg(e:List ((Int×Int×zH)×Int))(k:Int×Int×zH):List.Sublist (wV e k) e:=by
 unfold wV;split
 .exact List.eraseIdx_sublist _ _
 .exact List.Sublist.refl _
theorem yC(k:Int×Int×zH):∀(e:List ((Int×Int×zH)×Int))(i:Nat),(cH e k i).map (·.1)=(cH e k 0).map (λq=>q.1+i)
 |[],_=>rfl
 | p::r,i=>by
  unfold cH;cases k==p.1 with
  |true=>simp
  | false=>
   simp only[aA];have a:=yC k r (i+1);have x:=yC k r 1;rw[a];cases h:cH r k 0 with
   |none=>rw[h]at x;cases b:cH r k (0+1)<;>simp_all
   | some q=>
    rw[h]at x;cases b:cH r k (0+1)with
    |none=>simp_all
    |some c=>simp_all;omega
theorem Tt(p:(Int×Int×zH)×Int)(r:List ((Int×Int×zH)×Int))(k:Int×Int×zH):wV (p::r) k=if k=p.1 then r else p::wV r k:=by
 unfold wV;by_cases h:k=p.1
 .simp[cH,h]
 .have b:(k==p.1)=Q4:=by simpa using h
  rw[zg h];simp only[cH,b,aA];have:=yC k r 1;cases a:cH r k (0+1)with
  | none=>
   rw[a]at this;cases x:cH r k 0 with
   |none=>rfl
   |some q=>rw[x]at this;simp at this
  | some q=>
   rw[a]at this;cases x:cH r k 0 with
   |none=>rw[x]at this;simp at this
   | some c=>
    rw[x]at this;have e:q.1=c.1+1:=by simpa using this
    simp[e]
theorem Cm(k:Int×Int×zH):∀{c:List ((Int×Int×zH)×Int)},(c.map (·.1)).Nodup->∀x,x∈(wV c k).map (·.1)↔x∈c.map (·.1)/\x≠k
 |[],_,x=>by simp[wV,cH]
 | p::r,hn,x=>by
  rw[dC,List.nodup_cons]at hn;rw[Tt];split
  next h=>subst h;rw[dC,cf];refine⟨λa=>⟨.inr a,λe=>hn.1 (e▸a)⟩,λ⟨h,b⟩=>h.resolve_left b⟩
  .rename_i h;rw[dC,cf,dC,cf,Cm k hn.2 x];refine⟨λa=>?_,λ⟨a,b⟩=>a.imp id λa=>⟨a,b⟩⟩;rcases a with rfl|a
   .exact⟨.inl rfl,λe=>h e.symm⟩
   .exact⟨.inr a.1,a.2⟩
theorem xR{α β:Type}{f:α->β}:∀{l:List α},(l.map f).Nodup->∀{a b:α},a∈l->b∈l->f a=f b->a=b
 |[],_,_,_,d,_,_=>by cases d
 | x::r,hn,a,b,d,hb,e=>by
  rw[dC,List.nodup_cons]at hn;rcases cf.1 d with c|c
  .rcases cf.1 hb with h|h
   .rw[c,h]
   .exact zC (show f x∈r.map f from aE.2 ⟨b,h,by rw[<-e,c]⟩) hn.1
  .rcases cf.1 hb with h|h
   .exact zC (show f x∈r.map f from aE.2 ⟨a,c,by rw[e,h]⟩) hn.1
   .exact xR hn.2 c h e
theorem MF:∀{l m:List Nat},l.Nodup->(∀x∈l,x∈m)->Io l<=Io m
 |[],m,_,_=>by simp
 | a::r,m,hn,h=>by
  rw[List.nodup_cons]at hn;have b:=h a pP;have d:=MF (l:=r) (m:=m.erase a) hn.2 λx c=>(List.mem_erase_of_ne (λe:x=a=>hn.1 (e▸c))).2 (h x (mX _ c))
  have g:=List.length_erase_of_mem b;have i:=List.length_pos_of_mem b;rw[eA];omega
theorem MC(h:bh a=Q3)(x:a.1=0):a=(0,0,[]):=by obtain⟨k,n,s⟩:=a;subst x;unfold bh at h;simp at h;simp[h]
theorem pZ(h:cB p=cB q):p=q:=by obtain⟨a,x,b⟩:=p;obtain⟨c,d,e⟩:=q;simpa[cB]using h
theorem MN(a:(h.toList.map λx=>(x.key,x.val))=CA Q3 e):h.toList.map (·.key)=(e.map (·.1)).map cB:=by have:=congrArg (List.map Prod.fst) a;simpa[CA,nf,uz]using this
theorem tr{n:zw}(b:∀x∈g,bh x=Q3)(c:∀x∈n,bh x=Q3)(h:∀x,x.1≠0->(x∈g↔x∈n)):pT g=pT n:=by
 obtain⟨l,d⟩:=qZ b;obtain⟨m,e⟩:=qZ c;refine JV l m λx=>?_
 rw[d,e];exact⟨λa=>⟨(h x a.2).1 a.1,a.2⟩,λa=>⟨(h x a.2).2 a.1,a.2⟩⟩
theorem T8(O:(h.toList.map λd=>(d.key,d.val))=CA Q3 e)(P:(e.map (·.1)).Nodup) (I:∀p∈e,bh p.1=Q3) (J:∀p∈e,p.1.1≠0)
   (s:∀p∈E,p.2∈h.toList/\p.2.key=cB p.1) (t:∀x∈h.toList,x.born∈E.map λp=>p.2.born) (G:(E.map λp=>p.2.born).Nodup) (v:(h.toList.map (·.born)).Nodup)  (D:j.map (·.1)=E.map (·.1)):
  (j.mergeSort λx y=>!(ltOf La) y x).map (·.1)=pT (e.map (·.1)):=by
 have z:=MN O;have C:(h.toList.map (·.key)).Nodup:=by
  rw[z];exact List.Pairwise.map _ (λa b c d=>c (pZ d)) P
 have m:∀p∈E,p.1∈e.map (·.1):=λp g=>by
  obtain⟨L,M⟩:=s p g;have:p.2.key∈h.toList.map (·.key):=aE.2 ⟨_,L,rfl⟩;rw[z,M]at this;obtain⟨k,A,B⟩:=aE.1 this;exact pZ B▸A
 have F:(E.map (·.1)).Nodup:=by
  unfold List.Nodup at G|-;rw[List.pairwise_map]at G|-;refine G.imp_of_mem λ{p q} g n c d=>c ?_
  obtain⟨H,o⟩:=s p g;obtain⟨S,T⟩:=s q n;have:p.2.key=q.2.key:=by rw[o,T,d]
  rw[xR C H S this]
 rw[PZ j (by rw[D];exact F) (λx i=>by
  have:x.1∈E.map (·.1):=by rw[<-D];exact aE.2 ⟨x,i,rfl⟩
  obtain⟨p,g,d⟩:=aE.1 this;obtain⟨q,n,u⟩:=aE.1 (m p g);rw[<-d,<-u];exact J q n),D]
 refine tr (λx i=>?_) (λx i=>?_) λx _=>⟨λi=>?_,λi=>?_⟩
 .obtain⟨p,g,rfl⟩:=aE.1 i;obtain⟨q,n,u⟩:=aE.1 (m p g);exact u▸I q n
 .obtain⟨p,g,rfl⟩:=aE.1 i;exact I p g
 .obtain⟨p,g,rfl⟩:=aE.1 i;exact m p g
 .have:cB x∈h.toList.map (·.key):=by rw[z];exact aE.2 ⟨x,i,rfl⟩
  obtain⟨d,l,w⟩:=aE.1 this;obtain⟨p,g,N⟩:=aE.1 (t d l);obtain⟨H,o⟩:=s p g;have:p.2=d:=xR v H l N;rw[this,w]at o;exact aE.2 ⟨p,g,(pZ o).symm⟩
end
end Cad
