/- Few of anything. -/
import Derived.Test.YtjfdpfapcmcncaaGreatDoorR16
import Derived.Maps.RangeWalk
import Derived.LoopTactic
import Derived.Shelf.SlSortCmp.NoneTotal
namespace Cad
open Go Go.Proofs
open List renaming length→Io
open IntKind renaming wrap→Γ,i64→Δ
open Tr renaming chk→Qc,«to»→Q9,val→Q8
open AV renaming nils→Qb
open AO renaming box→Qa
open Sh renaming str→Q6,expr→Q5
open Bool renaming false→Q4,true→Q3
open Option renaming some→Q1
open Decidable renaming decide→Q0
open Int (toNat)
open List (getD)
open Tr (chk br re)
open AV (nils agg tup ptr kb str sl)
noncomputable section
set_option maxHeartbeats 4000000
def HX(l h:List (Sem (.sl ze))):Prop:=Io h<=201/\∀r∈h,∃o∈l,r=mh o
theorem zq5(n:Nat)(u:Int)(J:u<=201)(S:0<=u)(z:zl cpR)(G:zl zgX)(t:Sem zo)(L:300<=n):∃o:List (Sem (.sl ze)),HX z.1.2 o/\∃r,dh Tk n (.h6 u 0 z G (t,[],()))=Q1 r/\aI r.2 [zh] r.1=Q1 (((t,o):Sem zh),()):=by
 obtain⟨N,H⟩:∃N:Nat,u=(N:Int):=⟨toNat u,ow⟩;have h:=dz (t:=Tk) (β:=List (Sem (.sl ze))) (min N (Io z.1.2)) (λb i=>.h6 u (i:Int) z G (t,b,())) (λb i=>Io b=i/\∀r∈b,∃M∈z.1.2,r=mh M) (λr=>∃o:List (Sem (.sl ze)),HX z.1.2 o/\aI r.2 [zh] r.1=Q1 (((t,o):Sem zh),())) 1 (by
   intro b i T C;have D:(i:Int)<(Io z.1.2:Int):=by omega
   have E:(i:Int)<u:=by omega
   have F:zJ (i:Int) (Io z.1.2)=Q3:=zt ow;refine Or.inl ⟨b++[mh (getD z.1.2 (i:Int).toNat (zi ze.sl))],⟨by simp[C.1],λr B=>?_⟩,?_⟩
   ·rcases cJ.1 B with B|B
    ·exact C.2 r B
    ·rw[eD]at B;refine⟨_,?_,B⟩;rw[aD,aS,zU ow,dv];exact aK _
   simp only[Tk,Q8,zx D,zx E,af,if_true,F];rw[zr i um,if_pos sg]) (by
   intro b n C L;obtain⟨n,rfl⟩:∃k,n=k+1:=⟨n-1,ow⟩;rw[cP];have I:(cond (Q0 (((min N (Io z.1.2):Nat):Int)<(Io z.1.2:Int))) (Q0 (((min N (Io z.1.2):Nat):Int)<u)) Q4)=Q4:=by
    by_cases h:N<=Io z.1.2
    ·rw[F8 h,H];simp
    ·rw[F6 ow];simp
   simp only[Tk,Q8,I];refine⟨_,rfl,b,⟨by have:=C.1;omega,C.2⟩,?_⟩;obtain⟨t0,U,W,X,Y,O⟩:=t;cases O;rfl) (min N (Io z.1.2)) 0 [] n rfl (aO _) ⟨rfl,sw⟩ ow
 obtain⟨r,D,o,E,F⟩:=h;exact⟨o,E,r,D,F⟩
theorem LN(x:Sem zh):∃h:List (Sem (.sl ze)),HX x.2 h/\Dz x=Q1 (((E7 x.1,h):Sem zh),()):=by
 have e:E7 (x.1.1,x.1.2.1,x.1.2.2.1,x.1.2.2.2.1,x.1.t.1,zm x.1.t.2)=E7 x.1:=by rw[zk]
 have o:∃k:Int,0<=k/\k<=201/\(zhs x).val=Q1 (.inl (.h6 k 0 (x,()) ([],0,[],0,0,[],[],()) (E7 x.1,[],()))):=by
  simp only[zhs,Q8,e];split
  ·exact⟨201,ow,ow,rfl⟩
  ·exact⟨40,ow,ow,rfl⟩
 obtain⟨k,C,D,o⟩:=o;obtain⟨h,u,r,z,B⟩:=zq5 100000000 k D C (x,()) ([],0,[],0,0,[],[],()) (E7 x.1) ow;refine⟨h,u,?_⟩;unfold Dz al dd;rw[o];show(dh Tk 100000000 _).bind _=_;rw[z];exact B
theorem LM(x:Sem zh):Oj x=Q3:=by
 obtain⟨h,u,o⟩:=LN x;unfold Oj;rw[o];rfl
theorem Ws(u:List (Sem zh)):∃o:List (Sem zh),DA u=Q1 (o,())/\Io o<=13/\∀x∈o,∃y∈u,x=Aw y:=by
 have h:=dz (t:=t7p) (β:=List (Sem zh)) (min 13 (Io u)) (λb i=>.h3 u (i:Int) b) (λb i=>Io b=i/\∀x∈b,∃y∈u,x=Aw y) (λr=>∃o:List (Sem zh),aI r.2 [zh.sl] r.1=Q1 (o,())/\Io o<=13/\∀x∈o,∃y∈u,x=Aw y) 1 (by
   intro b i I B;have C:(i:Int)<(Io u:Int):=by omega
   have E:(i:Int)<13:=by omega
   have F:zJ (i:Int) (Io u)=Q3:=zt ow;refine Or.inl ⟨b++[Aw (u.getD (i:Int).toNat (zi zh))],⟨by simp[B.1],?_⟩,?_⟩
   ·intro x z;rcases cJ.1 z with z|z
    ·exact B.2 x z
    ·rw[eD]at z;refine⟨_,?_,z⟩;rw[aD,aS,zU ow,dv];exact aK _
   ·simp only[t7p,Q8,zx C,zx E,af,if_true,F,zk,Prod.eta,LM];rw[zr i um,if_pos sg]) (by
   intro b n B J;obtain⟨n,rfl⟩:∃k,n=k+1:=⟨n-1,ow⟩;rw[cP];have H:(cond (Q0 (((min 13 (Io u):Nat):Int)<(Io u:Int))) (Q0 (((min 13 (Io u):Nat):Int)<13)) Q4)=Q4:=by
    by_cases h:13<=Io u
    ·rw[F8 h];simp
    ·rw[F6 ow];simp
   simp only[t7p,Q8,H];exact⟨_,rfl,b,rfl,ow,B.2⟩) (min 13 (Io u)) 0 [] 100000000 rfl (aO _) ⟨rfl,sw⟩ ow
 obtain⟨r,C,o,E,F,G⟩:=h;refine⟨o,?_,F,G⟩;unfold DA al dd;simp only[i7p,Q8];have D:dh t7p 100000000 (.h3 u 0 [])=Q1 r:=C;rw[D];exact E
theorem kz(s:zD):fB s=Q3:=by
 unfold fB;split
 ·rename_i h;have:20<Io s:=by simp at h;omega
  rw[if_pos sg]
 ·rfl
theorem eP(s:zD):(di s).length<=20:=by
 unfold di;split
 ·simp;omega
 ·rename_i h;have:¬20<Io s:=by simp at h;omega
  omega
theorem ph:∀(l:List zD)(i:Int)(acc:List zD),(Io acc:Int)<=i->fN l i acc=Q3
 |[],_,_,_=>rfl
 | x::r,i,acc,h=>by
  rw[fN];split
  ·rename_i o;simp only[aQ]at o;rw[if_pos (kz x),if_pos sg];exact ph r (i+1) _ sg
  ·rfl
theorem FE(l:List zD):qo l=Q3:=ph l 0 [] sw
theorem td:∀(l:List zD)(i:Int)(acc:List zD),(Io acc:Int)<=i->Io acc<=10->(∀x∈acc,Io x<=20)->Io (eI l i acc)<=10/\∀x∈eI l i acc,Io x<=20
 |[],_,acc,_,h,u=>⟨h,u⟩
 | x::r,i,acc,h,hl,u=>by
  rw[eI];split
  ·rename_i z;simp only[aQ]at z;refine td r (i+1) _ sg sg (λy o=>?_);rcases cJ.1 o with o|o
   ·exact u y o
   ·rw[eD]at o;rw[o];exact eP x
  ·exact⟨hl,u⟩
theorem Av(l:List zD):Io (ky l)<=10/\∀x∈ky l,Io x<=20:=td l 0 [] sw sw sw
theorem zbC(s:zD):(jy s).length<=20:=by
 unfold jy;split
 ·simp;omega
 ·rename_i h;simp at h;omega
theorem SJ(l:List (Sem zj)):Io (jQ l)<=10/\∀x∈jQ l,Io x.1<=20:=by
 refine⟨by show((List.take 9 l).map _).length<=10;rw[cz,o7];omega,λc h=>?_⟩;obtain⟨x,_,rfl⟩:=bd.1 h;exact zbC x.1
theorem SL(l:List (Sem ze)):Io (mh l)<=14:=by
 show((List.take 14 l).map _).length<=14;rw[cz,o7];omega
theorem If(e:zf):sG 16 (dw e)=Q3:=by
 obtain⟨r,m,u,z⟩:=IA (P:=λN _ r=>sG N r=Q3) (λN e o t s l B D _ _=>by
  show(Q0 (Io l<=1073741824)&&l.all (sG N))=Q3;rw[ep.2 λy C=>by obtain⟨_,_,h⟩:=B y C;exact h];simp;omega) 16 e 14 80 ow ow ow
 unfold dw;rw[zf.eta,show sH 16 e 14 80=(r,m) by unfold sH;rw[u];rfl];exact z
structure Nd (s:Sem zn):Prop where
 sh:my s
 cp:sG 16 s.t.t.1=Q3
def F3I(h:zl pC)(i:Nat)(z:zl Ut):Prop:=Io z.1<=20/\Io z.2.1<=20/\Io z.2.2.1<=20/\(Io z.2.2.2.1<=10/\∀x∈z.2.2.2.1,Io x<=20)/\(Io z.t.1<=10/\∀x∈z.t.1,Io x.1<=20)/\Io z.t.2.1<=20/\
 (Io z.t.q.1<=10/\∀x∈z.t.q.1,Io x<=20)/\(Io z.t.q.2.1=i/\∀x∈z.t.q.2.1,Io x.1<=20/\Io x.2<=20)/\sG 16 z.t.t.1=Q3/\Io z.t.t.2.1<=14/\Io z.t.t.q.2.1<=20/\
 z.t.t.1=dw h.1.t.t.1/\z.t.t.2.1=mh h.1.t.t.2.1/\z.t.t.q.1=dw h.1.t.t.q.2.1
def F7I(h:zl pC)(i:Nat)(z:zl Uu):Prop:=Io z.1<=20/\Io z.2.1<=20/\Io z.2.2.1<=20/\(Io z.2.2.2.1<=10/\∀x∈z.2.2.2.1,Io x<=20)/\(Io z.t.1<=10/\∀x∈z.t.1,Io x.1<=20)/\Io z.t.2.1<=20/\
 (Io z.t.q.1<=10/\∀x∈z.t.q.1,Io x<=20)/\(Io z.t.q.2.1<=10/\∀x∈z.t.q.2.1,Io x.1<=20/\Io x.2<=20)/\sG 16 z.t.t.1=Q3/\Io z.t.t.2.1<=14/\
 (Io z.t.t.q.1=i/\∀x∈z.t.t.q.1,Io x.1<=20/\∃y∈h.1.t.t.q.1,x.2=dw y.2)/\Io z.t.t.t.1<=20/\
 z.t.t.1=dw h.1.t.t.1/\z.t.t.2.1=mh h.1.t.t.2.1/\z.t.t.q.2.1=dw h.1.t.t.q.2.1
structure zc1 (s0 s:Sem zn):Prop where
 chk:s.t.t.1=dw s0.t.t.1
 row:s.t.t.2.1=mh s0.t.t.2.1
 whr:s.t.t.q.2.1=dw s0.t.t.q.2.1
 sets:∀x∈s.t.t.q.1,∃y∈s0.t.t.q.1,(x:Sem ig).2=dw (y:Sem ig).2
def ZH(h:Sem zn)(r:aw):Prop:=∃s:Sem zn,aI r.2 [zn] r.1=Q1 (s,())/\Nd s/\zc1 h s
theorem fs7(u:zl pC)(L:zl jg)(z:zl Uu)(Z:F7I u 0 z)(n:Nat)(Y:20<=n):∃r,dh t8p n (.h7 0 u L z)=Q1 r/\ZH u.1 r:=by
 refine dz (t:=t8p) (β:=zl Uu) (min 10 (Io u.1.t.t.q.1)) (λz i=>.h7 (i:Int) u L z) (λz i=>F7I u i z) (ZH u.1) 1 ?_ ?_ (min 10 (Io u.1.t.t.q.1)) 0 z n rfl (aO _) Z ow
 ·intro z i hi J;obtain⟨O,S,T,E,F,U,G,H,I,W,B,D,C⟩:=J;have k1:(i:Int)<(Io u.1.t.t.q.1:Int):=by omega
  have k2:(i:Int)<10:=by omega
  have k3:zJ (i:Int) (Io u.1.t.t.q.1)=Q3:=zt ow;refine Or.inl ⟨(z.1,z.2.1,z.2.2.1,z.2.2.2.1,z.t.1,z.t.2.1,z.t.q.1,z.t.q.2.1,z.t.t.1,z.t.t.2.1,z.t.t.q.1++[(di (getD u.1.t.t.q.1 (i:Int).toNat (zi ig)).1,zm (dw (zm (getD u.1.t.t.q.1 (i:Int).toNat (zi ig)).2)))],z.t.t.q.2),⟨O,S,T,E,F,U,G,H,I,W,?_,D,C⟩,?_⟩;rotate_left 1
  ·simp only[t8p,Q8,zx k1,zx k2,af,if_true,k3,kz];rw[zr i um,if_pos (by have:=B.1;simp;omega)]
  ·refine⟨?_,λx o=>?_⟩
   ·simp[B.1]
   ·rcases cJ.1 o with o|o
    ·exact B.2 x o
    ·rw[eD]at o;rw[o];exact⟨eP _,_,vr _ (zi ig) (by simpa using(show i<_ by omega)),by simp only[zk,aD]⟩
 ·intro z n J Y;obtain⟨n,rfl⟩:∃k,n=k+1:=⟨n-1,ow⟩;obtain⟨O,S,T,E,F,U,G,H,I,W,B,D,C⟩:=J;rw[cP];have X:(cond (Q0 (((min 10 (Io u.1.t.t.q.1):Nat):Int)<(Io u.1.t.t.q.1:Int))) (Q0 (((min 10 (Io u.1.t.t.q.1):Nat):Int)<10)) Q4)=Q4:=by
   by_cases h:10<=Io u.1.t.t.q.1
   ·rw[F8 h];simp
   ·rw[F6 ow];simp
  simp only[t8p,Q8,X];refine⟨_,rfl,(z.1,z.2.1,z.2.2.1,z.2.2.2.1,z.t.1,z.t.2.1,z.t.q.1,z.t.q.2.1,z.t.t.1,z.t.t.2.1,z.t.t.q.1,z.t.t.q.2.1,z.t.t.t.1),?_,⟨?_,I⟩,⟨C.1,C.2.1,C.2.2,λx o=>(B.2 x o).2⟩⟩
  ·obtain⟨u,L,z2,z3,z4,z5,z6,z7,z8,z9,x0,M,x1,x2⟩:=z;cases z8;cases M;rfl
  ·refine⟨by show Io z.1<=_;omega,by show Io z.2.1<=_;omega,by show Io z.2.2.1<=_;omega,⟨by have:=E.1;show Io z.2.2.2.1<=_;omega,λx o=>by have:=E.2 x o;omega⟩,⟨by have:=F.1;show Io z.t.1<=_;omega,λx o=>by have:=F.2 x o;omega⟩,by show Io z.t.2.1<=_;omega,⟨by have:=G.1;show Io z.t.q.1<=_;omega,λx o=>by have:=G.2 x o;omega⟩,⟨by have:=H.1;show Io z.t.q.2.1<=_;omega,λx o=>by have:=H.2 x o;omega⟩,by show Io z.t.t.2.1<=_;omega,⟨by have:=B.1;show Io z.t.t.q.1<=_;omega,λx o=>by have:=(B.2 x o).1;omega⟩,by show Io z.t.t.t.1<=_;omega⟩
theorem fs3(o:zl pC)(S:zl jg)(z:zl Ut)(X:F3I o 0 z)(n:Nat)(W:40<=n):∃r,dh t8p n (.h3 0 o S z)=Q1 r/\ZH o.1 r:=by
 refine dz (t:=t8p) (β:=zl Ut) (min 10 (Io o.1.t.q.2.1)) (λz i=>.h3 (i:Int) o S z) (λz i=>F3I o i z) (ZH o.1) 21 ?_ ?_ (min 10 (Io o.1.t.q.2.1)) 0 z n rfl (aO _) X ow
 ·intro z i hi O;obtain⟨C,D,G,H,I,J,L,u,M⟩:=O;have Y:(i:Int)<(Io o.1.t.q.2.1:Int):=by omega
  have Z:(i:Int)<10:=by omega
  have k3:zJ (i:Int) (Io o.1.t.q.2.1)=Q3:=zt ow;refine Or.inl ⟨(z.1,z.2.1,z.2.2.1,z.2.2.2.1,z.t.1,z.t.2.1,z.t.q.1,z.t.q.2.1++[(di (getD o.1.t.q.2.1 (i:Int).toNat (zi jb)).1,di (getD o.1.t.q.2.1 (i:Int).toNat (zi jb)).2)],z.t.t),⟨C,D,G,H,I,J,L,?_,M⟩,?_⟩;rotate_left 1
  ·simp only[t8p,Q8,zx Y,zx Z,af,if_true,k3,kz];rw[zr i um,if_pos (by have:=u.1;simp;omega)]
  ·refine⟨?_,λx B=>?_⟩
   ·simp[u.1]
   ·rcases cJ.1 B with B|B
    ·exact u.2 x B
    ·rw[eD]at B;rw[B];exact⟨eP _,eP _⟩
 ·intro z n O W;obtain⟨n,rfl⟩:∃k,n=k+1:=⟨n-1,ow⟩;obtain⟨C,D,G,H,I,J,L,u,M,T,E,F⟩:=O;rw[cP];have U:(cond (Q0 (((min 10 (Io o.1.t.q.2.1):Nat):Int)<(Io o.1.t.q.2.1:Int))) (Q0 (((min 10 (Io o.1.t.q.2.1):Nat):Int)<10)) Q4)=Q4:=by
   by_cases h:10<=Io o.1.t.q.2.1
   ·rw[F8 h];simp
   ·rw[F6 ow];simp
  simp only[t8p,Q8,U];exact fs7 o S _ ⟨C,D,G,H,I,J,L,⟨by have:=u.1;show Io z.t.q.2.1<=_;omega,u.2⟩,M,T,⟨rfl,sw⟩,E,F⟩ n ow
theorem Oi(s:Sem zn):∃h:Sem zn,yf s=Q1 (h,())/\Nd h/\zc1 s h:=by
 unfold yf al dd;simp only[i8p,Q8,kz,FE,if_true]
 obtain⟨r,o,h,u,z⟩:=fs3 (s,()) ([],[],[],[],[],0,0,[],[],[],0,0,[],[],[],()) (di s.1,di s.2.1,di s.2.2.1,ky s.2.2.2.1,jQ s.t.1,
  di s.t.2.1,ky s.t.q.1,[],dw (zm s.t.t.1),mh s.t.t.2.1,dw (zm s.t.t.q.2.1),di s.t.t.t,())
  ⟨eP _,eP _,eP _,Av _,SJ _,eP _,Av _,⟨rfl,sw⟩,If _,SL _,eP _,by simp only[zk],rfl,by simp only[zk]⟩ 100000000 ow
 refine⟨h,?_,z⟩;rw[o];exact u
abbrev aA(db:List (Sem zh))(s:zD):Sem zh:=getD db (toNat (zX db s)) (zi zh)
def FQ(o:List (Sem zh)):Prop:=∀x∈o,∀f∈x.1.t.1,LE.le (α:=Int) 0 (zX o f.2)/\∀h∈x.2,(zE f.1 h).1≠0->gg (aA o f.2) (aA o f.2).1.2.2.1 (zE f.1 h)=Q3
def YB(r:aw):Prop:=r=(.kb Q4,[])
theorem ZW{db:List (Sem zh)}{x:Sem zh}{f:Sem zp}{i k:Nat}(F:LE.le (α:=Int) 0 (zX db f.2))(E:∀D∈x.2,zJ f.1 (Io D)=Q3)(G:Io x.2<=1000):
  ((∀j,j<Io x.2->(zE f.1 (getD x.2 j (zi ze.sl))).1≠0->gg (aA db f.2) (aA db f.2).1.2.2.1 (zE f.1 (getD x.2 j (zi ze.sl)))=Q3)/\
   zL gJ (Io x.2*1) (.h11 db (zX db f.2) db (Io db:Int) (i:Int) x.1.t.1 (Io x.1.t.1:Int) (k:Int) x.2 (Io x.2:Int) ((0:Nat):Int) (x,()) (f,()))
    (.h11 db (zX db f.2) db (Io db:Int) (i:Int) x.1.t.1 (Io x.1.t.1:Int) (k:Int) x.2 (Io x.2:Int) (Io x.2:Int) (x,()) (f,())))\/
  ((¬∀j,j<Io x.2->(zE f.1 (getD x.2 j (zi ze.sl))).1≠0->gg (aA db f.2) (aA db f.2).1.2.2.1 (zE f.1 (getD x.2 j (zi ze.sl)))=Q3)/\
   ∃r,zV gJ (Io x.2*1) (.h11 db (zX db f.2) db (Io db:Int) (i:Int) x.1.t.1 (Io x.1.t.1:Int) (k:Int) x.2 (Io x.2:Int) ((0:Nat):Int) (x,()) (f,())) r/\YB r):=by
 refine mI (t:=gJ) (Φ:=YB) 1 (λj=>.h11 db (zX db f.2) db (Io db:Int) (i:Int) x.1.t.1 (Io x.1.t.1:Int) (k:Int) x.2 (Io x.2:Int) (j:Int) (x,()) (f,())) (λj=>(zE f.1 (getD x.2 j (zi ze.sl))).1≠0->gg (aA db f.2) (aA db f.2).1.2.2.1 (zE f.1 (getD x.2 j (zi ze.sl)))=Q3) (Io x.2) ?_;intro j B _
 have C:(gJ (.h11 db (zX db f.2) db (Io db:Int) (i:Int) x.1.t.1 (Io x.1.t.1:Int) (k:Int) x.2 (Io x.2:Int) (j:Int) (x,()) (f,()))).val=
   if(cond ((zE f.1 (getD x.2 j (zi ze.sl))).1!=0) (!gg (aA db f.2) (aA db f.2).1.2.2.1 (zE f.1 (getD x.2 j (zi ze.sl)))) Q4)=Q3 then Q1 (.inr (.kb Q4,[]))else
   Q1 (.inl (.h11 db (zX db f.2) db (Io db:Int) (i:Int) x.1.t.1 (Io x.1.t.1:Int) (k:Int) x.2 (Io x.2:Int) ((j+1:Nat):Int) (x,()) (f,()))):=by
  show(gJ (.h11 _ _ _ _ _ _ _ _ _ _ _ _ _)).val=_;unfold gJ;simp only[zk,Q8,zF B,zt B,E _ (bN B),dK F,aD,if_true,sU];rw[if_pos (by cases((getD (getD x.2 j (zi ze.sl)) (toNat f.1) (zi ze)).1!=0)<;>rfl)];rw[zr j um]
 by_cases u:(zE f.1 (getD x.2 j (zi ze.sl))).1=0
 ·exact .inl ⟨λh=>absurd u h,zL.of (by rw[C,if_neg (by rw[u];simp)])⟩
 ·have o:((zE f.1 (getD x.2 j (zi ze.sl))).1!=0)=Q3:=by simpa using u
  by_cases z:gg (aA db f.2) (aA db f.2).1.2.2.1 (zE f.1 (getD x.2 j (zi ze.sl)))=Q3
  ·exact .inl ⟨λ_=>z,zL.of (by rw[C,if_neg (by rw[z,o];simp)])⟩
  ·exact .inr ⟨λh=>z (h u),_,zV.of (by rw[C,if_pos (by rw[o];simpa using z)]),rfl⟩
theorem zgD{db:List (Sem zh)}{x:Sem zh}{i:Nat}(H:∀f∈x.1.t.1,∀o∈x.2,zJ f.1 (Io o)=Q3)(I:Io x.2<=1000)(J:Io x.1.t.1<=1000):
  let P:Nat->Prop:=λk=>LE.le (α:=Int) 0 (zX db (getD x.1.t.1 k (zi zp)).2)/\∀o∈x.2,(zE (getD x.1.t.1 k (zi zp)).1 o).1≠0->gg (aA db (getD x.1.t.1 k (zi zp)).2) (aA db (getD x.1.t.1 k (zi zp)).2).1.2.2.1 (zE (getD x.1.t.1 k (zi zp)).1 o)=Q3
  ((∀k,k<Io x.1.t.1->P k)/\zL gJ (Io x.1.t.1*1002) (.h5 db db (Io db:Int) (i:Int) x.1.t.1 (Io x.1.t.1:Int) ((0:Nat):Int) (x,())) (.h5 db db (Io db:Int) (i:Int) x.1.t.1 (Io x.1.t.1:Int) (Io x.1.t.1:Int) (x,())))\/
  ((¬∀k,k<Io x.1.t.1->P k)/\∃r,zV gJ (Io x.1.t.1*1002) (.h5 db db (Io db:Int) (i:Int) x.1.t.1 (Io x.1.t.1:Int) ((0:Nat):Int) (x,())) r/\YB r):=by
 intro P;refine mI (t:=gJ) (Φ:=YB) 1002 (λk=>.h5 db db (Io db:Int) (i:Int) x.1.t.1 (Io x.1.t.1:Int) (k:Int) (x,())) P (Io x.1.t.1) ?_;intro k C _
 have F:(gJ (.h5 db db (Io db:Int) (i:Int) x.1.t.1 (Io x.1.t.1:Int) (k:Int) (x,()))).val=
   if Q0 (LT.lt (α:=Int) (zX db (getD x.1.t.1 k (zi zp)).2) 0)=Q3 then Q1 (.inr (.kb Q4,[]))else
   Q1 (.inl (.h11 db (zX db (getD x.1.t.1 k (zi zp)).2) db (Io db:Int) (i:Int) x.1.t.1 (Io x.1.t.1:Int) (k:Int) x.2 (Io x.2:Int) ((0:Nat):Int) (x,()) (getD x.1.t.1 k (zi zp),()))):=by
  show(gJ (.h5 _ _ _ _ _ _ _ _)).val=_;unfold gJ;simp only[Q8,zF C,zt C,aD,if_true];rfl
 by_cases u:LE.le (α:=Int) 0 (zX db (getD x.1.t.1 k (zi zp)).2)
 ·have E:=zL.of (t:=gJ) (s:=.h5 db db (Io db:Int) (i:Int) x.1.t.1 (Io x.1.t.1:Int) (k:Int) (x,())) (by rw[F,if_neg (by rw[aQ];omega)]);rcases ZW (db:=db) (x:=x) (f:=getD x.1.t.1 k (zi zp)) (i:=i) (k:=k) u (H _ (bN C)) I with⟨z,B⟩|⟨z,r,B,G⟩
  ·have D:(gJ (.h11 db (zX db (getD x.1.t.1 k (zi zp)).2) db (Io db:Int) (i:Int) x.1.t.1 (Io x.1.t.1:Int) (k:Int) x.2 (Io x.2:Int) (Io x.2:Int) (x,()) (getD x.1.t.1 k (zi zp),()))).val=
     Q1 (.inl (.h5 db db (Io db:Int) (i:Int) x.1.t.1 (Io x.1.t.1:Int) ((k+1:Nat):Int) (x,()))):=by
    show(gJ (.h11 _ _ _ _ _ _ _ _ _ _ _ _ _)).val=_;unfold gJ;simp only[Q8,zB];rw[zr k um];rfl
   refine .inl ⟨⟨u,?_⟩,((E.trans B).trans (zL.of D)).mono ow⟩;exact(az (Q:=λo=>(zE (getD x.1.t.1 k (zi zp)).1 o).1≠0->gg (aA db (getD x.1.t.1 k (zi zp)).2) (aA db (getD x.1.t.1 k (zi zp)).2).1.2.2.1 (zE (getD x.1.t.1 k (zi zp)).1 o)=Q3)).1 z
  ·refine .inr ⟨λh=>z ?_,r,(E.ends B).mono ow,G⟩;exact(az (Q:=λo=>(zE (getD x.1.t.1 k (zi zp)).1 o).1≠0->gg (aA db (getD x.1.t.1 k (zi zp)).2) (aA db (getD x.1.t.1 k (zi zp)).2).1.2.2.1 (zE (getD x.1.t.1 k (zi zp)).1 o)=Q3)).2 h.2
 ·exact .inr ⟨λh=>u h.1,_,(zV.of (by rw[F,if_pos (by rw[aQ];omega)])).mono ow,rfl⟩
theorem KH{db:List (Sem zh)}(I:∀x∈db,∀f∈x.1.t.1,∀o∈x.2,zJ f.1 (Io o)=Q3)(J:∀x∈db,gS x)(S:Io db<=13):∃b,Ba db=Q1 (b,())/\(b=Q3↔FQ db):=by
 have u:=mI (t:=gJ) (Φ:=YB) 1010000 (λi=>.h2 db db (Io db:Int) (i:Int)) (λi=>∀f∈(getD db i (zi zh)).1.t.1,LE.le (α:=Int) 0 (zX db f.2)/\∀o∈(getD db i (zi zh)).2,(zE f.1 o).1≠0->gg (aA db f.2) (aA db f.2).1.2.2.1 (zE f.1 o)=Q3) (Io db) (by
  intro i B _;have H:=bN (d:=zi zh) B;have F:=J _ H;have M:=F.rf;have O:=F.rw;have L:(gJ (.h2 db db (Io db:Int) (i:Int))).val=Q1 (.inl (.h5 db db (Io db:Int) (i:Int) (getD db i (zi zh)).1.t.1 ((getD db i (zi zh)).1.t.1.length:Int) ((0:Nat):Int) (getD db i (zi zh),()))):=by
   show(gJ (.h2 _ _ _ _)).val=_;unfold gJ;simp only[Q8,zF B,zt B,aD,if_true];rfl
  have E:=zL.of L;rcases zgD (db:=db) (x:=getD db i (zi zh)) (i:=i) (I _ H) O M with⟨u,z⟩|⟨u,r,z,C⟩
  ·have D:(gJ (.h5 db db (Io db:Int) (i:Int) (getD db i (zi zh)).1.t.1 ((getD db i (zi zh)).1.t.1.length:Int) ((getD db i (zi zh)).1.t.1.length:Int) (getD db i (zi zh),()))).val=Q1 (.inl (.h2 db db (Io db:Int) ((i+1:Nat):Int))):=by
    show(gJ (.h5 _ _ _ _ _ _ _ _)).val=_;unfold gJ;simp only[Q8,zB];rw[zr i um];rfl
   refine .inl ⟨?_,((E.trans z).trans (zL.of D)).mono ow⟩;exact(az (Q:=λf:Sem zp=>LE.le (α:=Int) 0 (zX db f.2)/\∀o∈(getD db i (zi zh)).2,(zE f.1 o).1≠0->gg (aA db f.2) (aA db f.2).1.2.2.1 (zE f.1 o)=Q3)).1 u
  ·refine .inr ⟨λh=>u ?_,r,(E.ends z).mono ow,C⟩;exact(az (Q:=λf:Sem zp=>LE.le (α:=Int) 0 (zX db f.2)/\∀o∈(getD db i (zi zh)).2,(zE f.1 o).1≠0->gg (aA db f.2) (aA db f.2).1.2.2.1 (zE f.1 o)=Q3)).2 h)
 have G:(∀i,i<Io db->∀f∈(getD db i (zi zh)).1.t.1,LE.le (α:=Int) 0 (zX db f.2)/\∀o∈(getD db i (zi zh)).2,(zE f.1 o).1≠0->gg (aA db f.2) (aA db f.2).1.2.2.1 (zE f.1 o)=Q3)↔FQ db:=
  az (Q:=λx:Sem zh=>∀f∈x.1.t.1,LE.le (α:=Int) 0 (zX db f.2)/\∀o∈x.2,(zE f.1 o).1≠0->gg (aA db f.2) (aA db f.2).1.2.2.1 (zE f.1 o)=Q3)
 have B:(zno db).val=Q1 (.inl (.h2 db db (Io db:Int) ((0:Nat):Int))):=rfl;rcases u with⟨u,z⟩|⟨u,r,z,C⟩
 ·refine⟨Q3,zy B (z.ends (zV.of (r:=(.kb Q3,[])) ?_)) ow rfl,λ_=>G.1 u,λ_=>rfl⟩;show(gJ (.h2 _ _ _ _)).val=_;unfold gJ;simp only[Q8,zB];rfl
 ·unfold YB at C;subst C;exact⟨Q4,zy B z ow rfl,λh=>(by cases h),λh=>absurd (G.2 h) u⟩
structure jd (db:List (Sem zh)):Prop where
 few:Io db<=12
 names:∀i,i<Io db-1->Op.bytesLess (getD db i (zi zh)).1.1 (getD db (i+1) (zi zh)).1.1=Q3
 rels:∀x∈db,dH x
 bound:FQ db
theorem dH.cols{x:Sem zh}(h:dH x):∀f∈x.1.t.1,∀row∈x.2,zJ f.1 (Io row)=Q3:=by
 intro f u row z;obtain⟨_,o,_,_,_⟩:=fi h.may;rw[Dj (by simpa using h.fits row z)];exact mg (o f u)
theorem Ae{o:List (Sem zh)}(X:∀x∈o,gS x):∃e:Int,uM o=Q1 (e,())/\(e=0↔jd o):=by
 by_cases Y:Io o<=12
 case neg=>
  refine⟨13,?_,λh=>(by cases h),λh=>absurd h.few Y⟩;unfold uM al dd;simp only[zaK,Q8];rw[if_pos sg];rfl
 have z:(zaK o).val=Q1 (.inl (.h4 o ((0+1:Nat):Int))):=by
  simp only[zaK,Q8];rw[if_neg sg];rfl
 have F:=mI (t:=oX) (Φ:=YA) 1 (λi=>.h4 o ((i+1:Nat):Int)) (λi=>Op.bytesLess (getD o i (zi zh)).1.1 (getD o (i+1) (zi zh)).1.1=Q3) (Io o-1) (by
  intro i z _;have Z:i<Io o:=by omega
  have U:i+1<Io o:=by omega
  have J:(oX (.h4 o ((i+1:Nat):Int))).val=if(!Op.bytesLess (getD o i (zi zh)).1.1 (getD o (i+1) (zi zh)).1.1)=Q3 then Q1 (.inr (.int .i64 15,[]))else Q1 (.inl (.h4 o ((i+1+1:Nat):Int))):=by
   show(oX (.h4 _ _)).val=_;unfold oX;simp only[lV i um];simp only[Q8,zF U,zt U,zt Z,aD,if_true];rw[zr (i+1) um]
  by_cases h:Op.bytesLess (getD o i (zi zh)).1.1 (getD o (i+1) (zi zh)).1.1=Q3
  ·exact .inl ⟨h,zL.of (by rw[J,if_neg (by rw[h];simp)])⟩
  ·exact .inr ⟨h,_,zV.of (by rw[J,if_pos (by simpa using h)]),15,rfl,by decide⟩)
 rcases F with⟨S,F⟩|⟨S,r,F,e,E,B⟩
 case inr=>
  subst E;exact⟨e,zy z F ow rfl,λh=>absurd h B,λh=>absurd h.names S⟩
 have T:(oX (.h4 o ((Io o-1+1:Nat):Int))).val=Q1 (.inl (.h9 o o (Io o:Int) ((0:Nat):Int))):=by
  show(oX (.h4 _ _)).val=_;unfold oX;simp only[Q8];rw[if_neg sg];rfl
 have M:=F.trans (zL.of T);have D:=mI (t:=oX) (Φ:=YA) 1 (λi=>.h9 o o (Io o:Int) (i:Int)) (λi=>dH (getD o i (zi zh))) (Io o) (by
  intro i z _;obtain⟨e,E,H⟩:=MG (X _ (bN (d:=zi zh) z));have O:JB (getD o i (zi zh))=Q3:=by unfold JB;rw[E];rfl
  have C:OT (getD o i (zi zh))=e:=by unfold OT;rw[E];rfl
  have J:(oX (.h9 o o (Io o:Int) (i:Int))).val=if(e !=0)=Q3 then Q1 (.inr (.int .i64 e,[]))else Q1 (.inl (.h9 o o (Io o:Int) ((i+1:Nat):Int))):=by
   show(oX (.h9 _ _ _ _)).val=_;unfold oX;simp only[zk,Q8,zF z,zt z,aD,if_true,Prod.eta,O,C];rw[zr i um]
  by_cases h:e=0
  ·exact .inl ⟨H.1 h,zL.of (by rw[J,if_neg (by rw[h];simp)])⟩
  ·exact .inr ⟨λI=>h (H.2 I),_,zV.of (by rw[J,if_pos (by simpa using h)]),e,rfl,h⟩)
 rcases D with⟨I,D⟩|⟨I,r,D,e,E,B⟩
 case inr=>
  subst E;exact⟨e,zy z (M.ends D) ow rfl,λh=>absurd h B,λh=>absurd ((az (Q:=dH)).2 h.rels) I⟩
 have u:=(az (Q:=dH)).1 I;obtain⟨b,W,G⟩:=KH (db:=o) (λx hx=>(u x hx).cols) X ow;have O:H4 o=Q3:=by unfold H4;rw[W];rfl
 have C:Ns o=b:=by unfold Ns;rw[W];rfl
 have L:(oX (.h9 o o (Io o:Int) (Io o:Int))).val=if(!b)=Q3 then Q1 (.inr (.int .i64 10,[]))else Q1 (.inr (.int .i64 0,[])):=by
  show(oX (.h9 _ _ _ _)).val=_;unfold oX;simp only[Q8,zB,O,C,if_true];rfl
 by_cases h:b=Q3
 ·exact⟨0,zy z (M.ends (D.ends (zV.of (by rw[L,if_neg (by rw[h];simp)])))) ow rfl,λ_=>⟨Y,S,u,G.1 h⟩,λ_=>rfl⟩
 ·exact⟨10,zy z (M.ends (D.ends (zV.of (by rw[L,if_pos (by simpa using h)])))) ow rfl,λh=>(by cases h),λhB=>absurd (G.2 hB.bound) h⟩
theorem H5{o:List (Sem zh)}(u:∀x∈o,gS x):nT o=Q3:=by
 obtain⟨e,h,_⟩:=Ae u;unfold nT;rw[h];rfl
theorem je{o:List (Sem zh)}(z:∀x∈o,gS x):ld o=(0:Int)↔jd o:=by
 obtain⟨e,h,u⟩:=Ae z;unfold ld;rw[h];exact u
abbrev y11(o:Sem zh.sl)(h:Sem zn):zl bm:=(o,h,([],[],0,[],[],zf.mk [] (0,0,[]) [] []),([],[],0,[],[],zf.mk [] (0,0,[]) [] []),h.1,h.2.2.1,h.t.t.t,h.2.1,0,h.t.t.1,0,())
theorem N8(B:Sem zh.sl)(h:Sem zn):zhq B h=(let C:=nh (y11 B h)
  let o:=Hi C.2
  let u:=Hj C.2
  let z:=yh C.2
  Lv B h h.t.t.1 h (!ew h) (oW h&&bif !ew h then Q3 else nT B) (cond (!ew h) Q3 (ld B !=0)) (sG 16 h.t.t.1) (y11 B h) (ni (y11 B h)) C (C.1==0) C.2 o o.2 (fC o.2) u u.2 (fC u.2) z z.2 (fC z.2)):=by
 unfold zhq;simp only[Sx,PT,zk]
abbrev Xr(z:zl au):Sem zq:=(z.t.1,z.t.2.1,z.t.q.1,(z.t.q.2.1,z.t.t.1,z.t.t.2.1,[],[],z.t.t.q.1),z.t.t.q.2.1,z.t.t.t.1)
abbrev jS:Sem zq:=([],[],[],([],[],0,[],[],zf.mk [] (0,0,[]) [] []),[],0)
def ah(db:List (Sem zh))(n:zD):Sem zo:=(getD db (toNat (zX db n)) (zi zh)).1
abbrev zsx:Sem zo:=([],[],0,[],[],zf.mk [] (0,0,[]) [] [])
def ej(db:List (Sem zh))(n:zD):Sem zo:=if n=[]then zsx else ah db n
def iw(e:Int)(p:Sem zq):Int×Sem zq:=if e=0 then(ite (wU p.2.2.2.1=0) (0,p) (wU p.2.2.2.1,jS))else(e,jS)
def cB(db:List (Sem zh))(s:Sem zn):Int×Sem zq:=
 if(s.1==cT)=Q3 then
  iw (tK (ah db s.2.2.1) s.2.2.2.1) (s.1,s.2.2.1,s.t.t.t,(s.2.1,er (ah db s.2.2.1) s.2.2.2.1,gF (js (ah db s.2.2.1) s.2.2.2.1) (ah db s.2.2.1).2.2.1,[],[],s.t.t.1),js (ah db s.2.2.1) s.2.2.2.1,0)
 else if(s.1==eX)=Q3 then
  iw (fM (ah db s.2.2.1) (ej db s.t.t.t) s.t.2.1 s.t.t.t)
   (s.1,s.2.2.1,s.t.t.t,(s.2.1,(ah db s.2.2.1).2.1++fO (ej db s.t.t.t) (Io (ej db s.t.t.t).2.1),(ah db s.2.2.1).2.2.1,[],[],s.t.t.1),
    jt (ej db s.t.t.t).2.2.1 (Io (ej db s.t.t.t).2.1),zR (ah db s.2.2.1) s.t.2.1)
 else if(s.1==kq)=Q3 then
  iw (qh (ah db s.2.2.1) s.2.2.2.1) (s.1,s.2.2.1,s.t.t.t,(s.2.1,xW (ah db s.2.2.1) s.2.2.2.1,0,[],[],s.t.t.1),js (ah db s.2.2.1) s.2.2.2.1,0)
 else(1,jS)
def aV(db:List (Sem zh))(s:Sem zn):Int×Sem zq:=
 if jO s.1/\ew s=Q3/\ld db=(0:Int)then(ite (oV db s.2.2.1 s.t.t.t s.2.1=0) (cB db s) (oV db s.2.2.1 s.t.t.t s.2.1,jS))else(1,jS)
theorem jW{s:Sem zn}(h:ew s=Q3):fx s=Q3:=by
 unfold ew qI at h;by_cases hp:fx s=Q3
 ·exact hp
 ·exfalso;simp only[g8]at hp;simp[hp]at h
theorem nc{db:List (Sem zh)}{s:zD}(h:(0:Int)<=zX db s):db.getD (toNat (zX db s)) (zi zh)∈db:=by
 have:=dK h;simp only[zJ,aE,aQ]at this;exact vr _ _ ow
theorem EF(e:Int):aI [] [zq,zg] (tup [agg [str [],str [],str [],str [],Qb,ai 0,Qb,Qb,str [],ai 0,ai 0,str [],str [],Qb,Qb,ai 0],ai e])=Q1 (jS,e,()):=rfl
theorem ziB(z:zl au):aI [AO.vec zj z.t.t.1] [zq,zg] (tup [agg [str z.t.1,str z.t.2.1,str z.t.q.1,str z.t.q.2.1,AV.vec 0,
  ai z.t.t.2.1,Qb,Qb,str (zf.op z.t.t.q.1),ai (zf.v z.t.t.q.1).1,ai (zf.v z.t.t.q.1).2.1,str (zf.v z.t.t.q.1).2.2,str (zf.s z.t.t.q.1),sl Q5 (zf.l z.t.t.q.1),
  sl zg z.t.t.q.2.1,ai z.t.t.t.1],ai 0])=Q1 (Xr z,0,()):=by
 obtain⟨C,D,E,F,G,H,I,J,L,M,h,o,u,B⟩:=z;cases h;rfl
def PlS(h:Sem zh.sl)(o:Sem zn):Prop:=L8 h o=Q1 ((aV h o).2,(aV h o).1,())
theorem yp{u:Sem zh.sl}{z:Sem zn}{o:Option (zz (List.map Q1 [zq,zg]))}{e:Int}(h:o=Q1 (jS,e,()))(hp:aV u z=(e,jS)):o=Q1 ((aV u z).2,(aV u z).1,()):=by rw[hp];exact h
theorem zbj{u:Sem zh.sl}{o:Sem zn}(E:oW o=Q3)(D:nT u=Q3)(h:(cond (!ew o) Q3 (ld u !=0))=Q3):PlS u o:=by
 have C:(oW o&&bif !ew o then Q3 else nT u)=Q3:=by rw[E,D];cases ew o<;>rfl
 have hp:aV u o=(1,jS):=by
  unfold aV;rw[if_neg];rintro⟨_,z,B⟩;rw[z]at h;simp[B]at h
 refine yp ?_ hp;unfold L8 al dd;rw[N8];simp only[Lv,Q8,C,h,if_true];by_cases o1:(o.1==cT)=Q3
 ·simp only[o1,if_true];rfl
 ·by_cases o2:(o.1==eX)=Q3
  ·simp only[o1,o2,if_true];rfl
  ·by_cases o3:(o.1==kq)=Q3
   ·simp only[o1,o2,o3,if_true];rfl
   ·simp only[o1,o2,o3];rfl
theorem ziv{W:Sem zh.sl}{h:Sem zn}{y:zl bm}{z:zl au}{o:List (Sem zj)}{B:Int}{E:List Int}{F:Int}(u:y.t=(y11 W h).t)(U:nO y z)
  (D:z.t.t.q.1=y.t.t.2.1) (C:FP z o B E F):Xr z=(h.1,h.2.2.1,h.t.t.t,(h.2.1,o,B,[],[],h.t.t.1),E,F):=by
 obtain⟨_,_,_,_,G,H,I,J⟩:=U;have L:z.t.1=h.1:=by rw[G,u]
 have M:z.t.2.1=h.2.2.1:=by rw[H,u]
 have O:z.t.q.1=h.t.t.t:=by rw[I,u]
 have S:z.t.q.2.1=h.2.1:=by rw[J,u]
 have T:z.t.t.q.1=h.t.t.1:=by rw[D,u]
 show(z.t.1,z.t.2.1,z.t.q.1,(z.t.q.2.1,z.t.t.1,z.t.t.2.1,[],[],z.t.t.q.1),z.t.t.q.2.1,z.t.t.t.1)=_;rw[L,M,O,S,T,C.cols,C.key,C.ix,C.on]
theorem ziu{G:Sem zh.sl}{o:Sem zn}(x6:∀x∈G,gS x)(hl:Io G<=13)(hs:Nd o):PlS G o:=by
 by_cases hg:jO o.1;rotate_left
 ·have o1:(o.1==cT)=Q4:=by simpa using λk=>hg (.inl k)
  have o2:(o.1==eX)=Q4:=by simpa using λk=>hg (.inr (.inl k))
  have o3:(o.1==kq)=Q4:=by simpa using λk=>hg (.inr (.inr k))
  refine yp (e:=1) ?_ (by unfold aV;rw[if_neg λh=>hg h.1]);unfold L8 al dd;rw[N8];simp only[Lv,Q8,o1,o2,o3];rfl
 have hM:=MX hs.sh hg;have hB:=H5 x6;by_cases J:(cond (!ew o) Q3 (ld G !=0))=Q3
 ·exact zbj hM hB J
 have h3:(oW o&&bif !ew o then Q3 else nT G)=Q3:=by rw[hM,hB];cases ew o<;>rfl
 have x4:ew o=Q3:=by
  cases h:ew o
  ·rw[h]at J;simp at J
  ·rfl
 have x5:ld G=(0:Int):=by
  rw[x4]at J;simpa using J
 have h7:=jW x4;have h4:=((je x6).1 x5).rels;obtain⟨W,L,h8,k1,k2,k3,k5,k4⟩:=LY (y11 G o) (by show Io G<=_;omega);have s8:nh (y11 G o)=(W,L):=by unfold nh;rw[h8];rfl
 have c8:ni (y11 G o)=Q3:=by unfold ni;rw[h8];rfl
 have k5:W=oV G o.2.2.1 o.t.t.t o.2.1:=k5;have hS:jO o.1->aV G o=if W=0 then cB G o else(W,jS):=by
  intro h;unfold aV;rw[if_pos ⟨h,x4,x5⟩,k5]
 unfold PlS L8 al dd;rw[N8];simp only[Lv,Q8,h3,J,hs.cp,s8,c8,if_true];by_cases M:W=0
 ·have U:=k4 M;have n2:L.2.1=o:=k2;have n1:L.1=G:=k1;have nk:L.t.t.1=(0:Int):=by rw[k3]
  have x7:L.t.t.q.1=(0:Int):=by rw[k3]
  have nw:L.t.q.1=o.t.t.t:=by rw[k3]
  have D:L.2.2.1=ah G o.2.2.1:=U.t.1;have S:L.2.2.2.1=ej G o.t.t.t:=U.t.2;have x2:=fi (h4 _ (nc (db:=G) (s:=o.2.2.1) U.1)).may;rw[show(getD G (toNat (zX G o.2.2.1)) (zi zh)).1=L.2.2.1 from D.symm]at x2;have x9:Io L.2.2.2.1.2.1<=100:=by
   rw[S];unfold ej;split
   ·simp
   ·rename_i hw;have:=(fi (h4 _ (nc (db:=G) (s:=o.t.t.t) (U.2.1.resolve_left hw))).may).2.2.2.1;unfold ah;omega
  have x3:(W==0)=Q3:=by simpa using M
  simp only[x3,if_true];by_cases o1:(o.1==cT)=Q3
  ·have h2:jO o.1:=Or.inl (bG o1);obtain⟨z,E,hk,h1,O,hA⟩:=Wz L (by rw[n2];have:=hs.sh.names.1;omega);rw[n2,D,x7]at hA;rw[n2,D]at E;generalize h0:tK (ah G o.2.2.1) o.2.2.2.1=B at E hA;have h5:Hi L=(B,z):=by unfold Hi;rw[E];rfl
   have X:IM L=Q3:=by unfold IM;rw[E];rfl
   have u:=hS h2;rw[if_pos M]at u;unfold cB at u;rw[if_pos o1,h0]at u;simp only[o1,h5,X,if_true];by_cases e0:B=0
   ·have hz:=ziv k3 hk h1 (hA e0);have F:=ui z O;have hT:Rf z=(Xr z).2.2.2.1:=rfl;rw[hT,hz]at F;unfold iw at u;rw[if_pos e0]at u;generalize h9:wU _=C at F u;have h6:fC z=(C,z):=by unfold fC;rw[F];rfl
    have Y:gG z=Q3:=by unfold gG;rw[F];rfl
    have H:(B==0)=Q3:=by simpa using e0
    simp only[H,h6,Y,if_true];by_cases T:C=0
    ·have I:(C !=0)=Q4:=by simp[T]
     simp only[I];rw[if_pos T]at u;rw[u];exact(ziB z).trans (by rw[hz])
    ·have I:(C !=0)=Q3:=by simpa using T
     simp only[I,if_true];rw[if_neg T]at u;exact yp (EF C) u
   ·have H:(B==0)=Q4:=by simpa using e0
    have Z:(B !=0)=Q3:=by simpa using e0
    unfold iw at u;rw[if_neg e0]at u;simp only[H,Z,if_true];exact yp (EF B) u
  ·by_cases o2:(o.1==eX)=Q3
   ·have h2:jO o.1:=Or.inr (Or.inl (bG o2));obtain⟨z,E,hk,h1,O,hA⟩:=WA L (by have:=x2.2.2.2.1;omega) x9;rw[n2,nw,D,S]at hA;rw[n2,nw,D,S]at E;generalize h0:fM (ah G o.2.2.1) (ej G o.t.t.t) o.t.2.1 o.t.t.t=B at E hA;have h5:Hj L=(B,z):=by unfold Hj;rw[E];rfl
    have X:IP L=Q3:=by unfold IP;rw[E];rfl
    have u:=hS h2;rw[if_pos M]at u;unfold cB at u;rw[if_neg o1,if_pos o2,h0]at u;simp only[o1,o2,h5,X,if_true];by_cases e0:B=0
    ·have hz:=ziv k3 hk h1 (hA e0);have F:=ui z O;have hT:Rf z=(Xr z).2.2.2.1:=rfl;rw[hT,hz]at F;unfold iw at u;rw[if_pos e0]at u;generalize h9:wU _=C at F u;have h6:fC z=(C,z):=by unfold fC;rw[F];rfl
     have Y:gG z=Q3:=by unfold gG;rw[F];rfl
     have H:(B==0)=Q3:=by simpa using e0
     simp only[H,h6,Y,if_true];by_cases T:C=0
     ·have I:(C !=0)=Q4:=by simp[T]
      simp only[I];rw[if_pos T]at u;rw[u];exact(ziB z).trans (by rw[hz])
     ·have I:(C !=0)=Q3:=by simpa using T
      simp only[I,if_true];rw[if_neg T]at u;exact yp (EF C) u
    ·have H:(B==0)=Q4:=by simpa using e0
     have Z:(B !=0)=Q3:=by simpa using e0
     unfold iw at u;rw[if_neg e0]at u;simp only[H,Z,if_true];exact yp (EF B) u
   ·by_cases o3:(o.1==kq)=Q3
    ·have h2:jO o.1:=Or.inr (Or.inr (bG o3));obtain⟨z,E,hk,h1,O,hA⟩:=SQ L (by rw[n2];exact jN h7 (bG o3));rw[n2,D,x7,nk]at hA;rw[n2,D]at E;generalize h0:qh (ah G o.2.2.1) o.2.2.2.1=B at E hA;have h5:yh L=(B,z):=by unfold yh;rw[E];rfl
     have X:Bp L=Q3:=by unfold Bp;rw[E];rfl
     have u:=hS h2;rw[if_pos M]at u;unfold cB at u;rw[if_neg o1,if_neg o2,if_pos o3,h0]at u;simp only[o1,o2,o3,h5,X,if_true];by_cases e0:B=0
     ·have hz:=ziv k3 hk h1 (hA e0);have F:=ui z O;have hT:Rf z=(Xr z).2.2.2.1:=rfl;rw[hT,hz]at F;unfold iw at u;rw[if_pos e0]at u;generalize h9:wU _=C at F u;have h6:fC z=(C,z):=by unfold fC;rw[F];rfl
      have Y:gG z=Q3:=by unfold gG;rw[F];rfl
      have H:(B==0)=Q3:=by simpa using e0
      simp only[H,h6,Y,if_true];by_cases T:C=0
      ·have I:(C !=0)=Q4:=by simp[T]
       simp only[I];rw[if_pos T]at u;rw[u];exact(ziB z).trans (by rw[hz])
      ·have I:(C !=0)=Q3:=by simpa using T
       simp only[I,if_true];rw[if_neg T]at u;exact yp (EF C) u
     ·have H:(B==0)=Q4:=by simpa using e0
      have Z:(B !=0)=Q3:=by simpa using e0
      unfold iw at u;rw[if_neg e0]at u;simp only[H,Z,if_true];exact yp (EF B) u
    ·simp only[o1,o2,o3];refine yp (EF 1) ?_;unfold aV;rw[if_neg];rintro⟨h|h|h,_⟩
     ·exact o1 (bh.2 h)
     ·exact o2 (bh.2 h)
     ·exact o3 (bh.2 h)
 ·have x3:(W==0)=Q4:=by simpa using M
  have x8:(W !=0)=Q3:=by simpa using M
  have u:jO o.1->aV G o=(W,jS):=λh=>by rw[hS h,if_neg M]
  simp only[x3,x8,if_true];by_cases o1:(o.1==cT)=Q3
  ·simp only[o1,if_true];exact yp (EF W) (u (Or.inl (bG o1)))
  ·by_cases o2:(o.1==eX)=Q3
   ·simp only[o1,o2,if_true];exact yp (EF W) (u (Or.inr (Or.inl (bG o2))))
   ·by_cases o3:(o.1==kq)=Q3
    ·simp only[o1,o2,o3,if_true];exact yp (EF W) (u (Or.inr (Or.inr (bG o3))))
    ·simp only[o1,o2,o3];refine yp (EF 1) ?_;unfold aV;rw[if_neg];rintro⟨h|h|h,_⟩
     ·exact o1 (bh.2 h)
     ·exact o2 (bh.2 h)
     ·exact o3 (bh.2 h)
set_option maxHeartbeats 1000000
theorem gK:∀{a b c:zD},Op.bytesLess a b=Q3->Op.bytesLess b c=Q3->Op.bytesLess a c=Q3
 |_,[],_,h,_=>by cases‹zD›<;>simp[Op.bytesLess]at h
 |_,_::_,[],_,h=>by simp[Op.bytesLess]at h
 |[],_::_,_::_,_,_=>rfl
 | a::x,b::y,c::z,h,g=>by
  simp only[Op.bytesLess,mP,aQ,aE,bh]at h g⊢;rcases h with h|⟨rfl,h⟩
  ·rcases g with g|⟨rfl,g⟩
   ·exact .inl (UInt8.lt_trans h g)
   ·exact .inl h
  ·rcases g with g|⟨rfl,g⟩
   ·exact .inl g
   ·exact .inr ⟨rfl,gK h g⟩
def Lx(p q:Int×Int×zD):Prop:=p.1<q.1\/(p.1=q.1/\(p.2.1<q.2.1\/(p.2.1=q.2.1/\Op.bytesLess p.2.2 q.2.2=Q3)))
theorem Lx.trans{p q r:Int×Int×zD}(h:Lx p q)(g:Lx q r):Lx p r:=by
 unfold Lx at*;rcases h with h|⟨z,h|⟨B,h⟩⟩<;>rcases g with g|⟨o,g|⟨u,g⟩⟩
 ·exact .inl ow
 ·exact .inl ow
 ·exact .inl ow
 ·exact .inl ow
 ·exact .inr ⟨ow,.inl ow⟩
 ·exact .inr ⟨ow,.inl ow⟩
 ·exact .inl ow
 ·exact .inr ⟨ow,.inl ow⟩
 ·exact .inr ⟨ow,.inr ⟨ow,gK h g⟩⟩
theorem Lx.irrefl{p:Int×Int×zD}:¬Lx p p:=by
 unfold Lx;rw[bR];rintro(h|⟨_,h|⟨_,h⟩⟩)
 ·omega
 ·omega
 ·cases h
theorem PC(a b:Int):pR a b=if a<b then -1 else if b<a then 1 else 0:=by
 show(ite ((a !=a)=Q3) _ (ite ((b !=b)=Q3) (1:Int) (ite (Q0 (a<b)=Q3) (-1) (ite (Q0 (a>b)=Q3) 1 0))))=_;simp
theorem Uo(a b:Int):jM a b=if a<b then -1 else if b<a then 1 else 0:=PC a b
theorem zao(a b:zD):(mU a b=-1/\Op.bytesLess a b=Q3)\/(mU a b=0/\a=b)\/(mU a b=1/\Op.bytesLess a b=Q4):=by
 have:mU a b=if Op.bytesLess a b=Q3 then -1 else if(!(Op.bytesLess a b||a==b))=Q3 then 1 else 0:=by
  show(ite ((!a==a)=Q3) _ (ite ((!b==b)=Q3) (1:Int) (ite (Op.bytesLess a b=Q3) (-1) (ite ((!(Op.bytesLess a b||a==b))=Q3) 1 0))))=_;simp
 rw[this];cases h:Op.bytesLess a b with
 |true=>exact .inl ⟨rfl,rfl⟩
 | false=>
  by_cases e:a=b
  ·exact .inr (.inl ⟨by simp[e],e⟩)
  ·exact .inr (.inr ⟨by simp[e],rfl⟩)
theorem zis(k n o u:Int)(s z:zD):(FG [pR k o,jM n u,mU s z]<0)↔Lx (k,n,s) (o,u,z):=by
 show _↔(k<o\/(k=o/\(n<u\/(n=u/\Op.bytesLess s z=Q3))));rw[PC,Uo];simp only[FG];have B:=bR z;rcases Ck k o with h|h|h
 ·simp[h]
 ·subst h;rcases Ck n u with g|g|g
  ·simp[g]
  ·subst g;rcases zao s z with⟨e,f⟩|⟨e,f⟩|⟨e,f⟩
   ·simp[e,f]
   ·subst f;simp[e,B]
   ·simp[e,f]
  ·have:¬n<u:=by omega
   have:n≠u:=by omega
   simp[*]
 ·have:¬k<o:=by omega
  have:k≠o:=by omega
  simp[*]
theorem wZ{a b:Sem ze}:xf a b↔Lx (an a) (an b):=zis (an a).1 (an a).2.1 (an b).1 (an b).2.1 (an a).2.2 (an b).2.2
theorem gn{a b c:Sem ze}(h:xf a b)(g:xf b c):xf a c:=wZ.2 ((wZ.1 h).trans (wZ.1 g))
theorem g5{a:Sem ze}:¬xf a a:=λh=>Lx.irrefl (wZ.1 h)
theorem wD{α:Type}{R:α->α->Prop}(C:∀{a b c},R a b->R b c->R a c){d:α}:∀{l:List α},(∀i,i<Io l-1->R (l.getD i d) (l.getD (i+1) d))↔l.Pairwise R
 |[]=>by simp
 |[a]=>by simp
 | a::b::r=>by
  have I:=wD (R:=R) C (d:=d) (l:=b::r);constructor
  ·intro h;have o:=h 0 sw;have u:(b::r).Pairwise R:=I.1 λi z=>h (i+1) (by simp only[dU]at z⊢;omega)
   refine List.pairwise_cons.2 ⟨λx B=>?_,u⟩;rcases bL.1 B with rfl|B
   ·exact o
   ·exact C o ((List.pairwise_cons.1 u).1 x B)
  ·intro h i z;obtain⟨o,u⟩:=List.pairwise_cons.1 h;cases i with
   |zero=>exact o b sw
   |succ i=>exact I.2 u i (by simp only[dU]at z⊢;omega)
def kLt(k:Int)(a b:List (Sem ze)):Prop:=xf (zE k a) (zE k b)
theorem dH.pw{x:Sem zh}(h:dH x):x.2.Pairwise (kLt x.1.2.2.1):=(wD (R:=kLt x.1.2.2.1) gn).1 h.rise
theorem dH.sub{t:Sem zo}{l z:List (List (Sem ze))}(h:dH (t,l))(o:List.Sublist z l):dH (t,z) where
 may:=h.may
 few:=bt o.length_le h.few
 fits:=λr B=>h.fits r (o.subset B)
 key:=List.Pairwise.sublist o h.key
 uniq:=λu C=>List.Pairwise.sublist o (h.uniq u C)
 rise:=(wD (R:=kLt t.2.2.1) gn).2 (List.Pairwise.sublist o h.pw)
theorem Hl(h:List (Sem zh))(i:Nat):(h.getD i (zi zh)).1=(h.map (·.1)).getD i (zi zh).1:=by
 rw[aS,aS,eL];cases h[i]?<;>rfl
theorem WB{o:List (Sem zh)}{i:Nat}{x:Sem zh}(h:(o.getD i (zi zh)).1=x.1):(o.set i x).map (·.1)=o.map (·.1):=by
 rw[List.map_set];refine Cl λj=>?_
 rw[yX];by_cases e:i=j
 ·subst e;rw[if_pos rfl];by_cases u:i<(o.map (·.1)).length
  ·rw[if_pos u,zU u,<-h];congr 1;have z:i<Io o:=by simpa using u
   rw[aS,zU z,List.getElem_map];rfl
  ·rw[if_neg u,eC ow]
 ·rw[if_neg e]
theorem jd.put{o:List (Sem zh)}{i:Nat}{x:Sem zh}(h:jd o)(C:(o.getD i (zi zh)).1=x.1)(D:dH x)(B:FQ (o.set i x)):jd (o.set i x) where
 few:=by rw[List.length_set];exact h.few
 names:=λj z=>by
  rw[List.length_set]at z;have:=h.names j z;rw[Hl,Hl]at this⊢
  rwa [WB C]
 rels:=λy u=>by
  rcases List.mem_or_eq_of_mem_set u with u|rfl
  ·exact h.rels y u
  ·exact D
 bound:=B
theorem P2{c:Int}{l:List (List (Sem ze))}(h:l.Pairwise (kLt c)):(l.map (zE c)).Pairwise (·≠·):=by
 rw[List.pairwise_map];exact h.imp λ{a b} o(e:zE c a=zE c b)=>g5 (a:=zE c b) (by have:=o;unfold kLt at this;rwa [e]at this)
theorem kg:∀{a b:zD},Op.bytesLess a b=Q4->a≠b->Op.bytesLess b a=Q3
 |[],[],_,h=>absurd rfl h
 |[],_::_,h,_=>by simp[Op.bytesLess]at h
 |_::_,[],_,_=>rfl
 | a::x,b::y,h,hn=>by
  simp only[Op.bytesLess,Bool.or_eq_false_iff,decide_eq_false_iff_not,Bool.and_eq_false_iff,cd,mP,aQ,aE,bh]at h⊢;by_cases e:a=b
  ·subst e;refine .inr ⟨rfl,kg (h.2.resolve_left λg=>g rfl) λg=>hn (by rw[g])⟩
  ·exact .inl (UInt8.lt_of_le_of_ne (UInt8.not_lt.1 h.1) (Ne.symm e))
def fk(u:Sem ze):List (Sem ze)->List (Sem ze)
 |[]=>[u]
 |o::r=>if LT.lt (α:=Int) (aX o u) 0 then o::fk u r else if(o==u)=Q3 then o::r else u::o::r
def ir(l:List (Sem ze)):List (Sem ze):=l.foldl (λacc u=>if((u:Sem ze).1==0)=Q3 then acc else fk u acc) []
theorem kX{a b:Sem ze}(C:aU a=Q3)(D:aU b=Q3)(h:¬xf a b):a=b\/xf b a:=by
 have G:an a=a:=by unfold an;rw[C];rfl
 have kb:an b=b:=by unfold an;rw[D];rfl
 rw[wZ,G,kb]at h⊢;obtain⟨k,n,s⟩:=a;obtain⟨F,H,u⟩:=b;unfold Lx at h⊢;simp only at h⊢;have z:¬k<F:=λe=>h (.inl e)
 rcases Int.lt_or_eq_of_le (Int.not_lt.1 z)with e|e
 ·exact .inr (.inl e)
 have B:¬n<H:=λg=>h (.inr ⟨e.symm,.inl g⟩)
 rcases Int.lt_or_eq_of_le (Int.not_lt.1 B)with g|g
 ·exact .inr (.inr ⟨e,.inl g⟩)
 by_cases o:s=u
 ·exact .inl (by rw[e,g,o])
 ·refine .inr (.inr ⟨e,.inr ⟨g,kg ?_ o⟩⟩);cases E:Op.bytesLess s u
  ·rfl
  ·exact absurd (.inr ⟨e.symm,.inr ⟨g.symm,E⟩⟩) h
theorem vI{u:Sem ze}:∀{l:List (Sem ze)}{x:Sem ze},x∈fk u l↔x=u\/x∈l
 |[],x=>by simp[fk]
 | o::r,x=>by
  unfold fk;split
  ·rw[bL,vI,bL];exact⟨λh=>by rcases h with h|h|h<;>simp[h],λh=>by rcases h with h|h|h<;>simp[h]⟩
  ·split
   ·rename_i h;have h:=bG h;subst h;simp
   ·simp
theorem HM{u:Sem ze}(F:aU u=Q3):∀{l:List (Sem ze)},(∀x∈l,aU x=Q3)->l.Pairwise xf->(fk u l).Pairwise xf
 |[],_,_=>by simp[fk]
 | o :: r,hl,h=>by
  obtain⟨D,G⟩:=List.pairwise_cons.1 h;unfold fk;split
  ·rename_i B;refine List.pairwise_cons.2 ⟨λx z=>?_,HM F (λx z=>hl x (by simp[z])) G⟩;rcases vI.1 z with rfl|z
   ·exact B
   ·exact D x z
  ·rename_i H;split
   ·exact h
   ·rename_i C;have E:xf u o:=by
     rcases kX (hl o sw) F H with e|e
     ·exact absurd (by rw[e];simp) C
     ·exact e
    refine List.pairwise_cons.2 ⟨λx z=>?_,h⟩;rcases bL.1 z with rfl|z
    ·exact E
    ·exact gn E (D x z)
theorem xV:∀(l acc:List (Sem ze)),(∀x∈l,aU x=Q3)->(∀x∈acc,aU x=Q3)->acc.Pairwise xf->
  (l.foldl (λacc u=>if((u:Sem ze).1==0)=Q3 then acc else fk u acc) acc).Pairwise xf/\∀x,x∈l.foldl (λacc u=>if((u:Sem ze).1==0)=Q3 then acc else fk u acc) acc↔x∈acc\/(x∈l/\x.1≠0)
 |[],acc,_,_,h=>⟨h,λx=>by simp⟩
 | u::r,acc,hl,ha,h=>by
  rw[List.foldl_cons];by_cases z:(u.1==0)=Q3
  ·rw[if_pos z];obtain⟨C,D⟩:=xV r acc (λx o=>hl x (by simp[o])) ha h;refine⟨C,λx=>(D x).trans ⟨λh=>h.imp id λh=>⟨by simp[h.1],h.2⟩,λh=>h.imp id λh=>⟨?_,h.2⟩⟩⟩;rcases bL.1 h.1 with rfl|B
   ·exact absurd (bG z) h.2
   ·exact B
  ·rw[if_neg z];have E:=hl u sw;obtain⟨C,D⟩:=xV r (fk u acc) (λx o=>hl x (by simp[o])) (λx o=>by
    rcases vI.1 o with rfl|o
    ·exact E
    ·exact ha x o) (HM E ha h)
   refine⟨C,λx=>(D x).trans ?_⟩;rw[vI,bL];refine⟨λh=>?_,λh=>?_⟩
   ·rcases h with(rfl|h)|h
    ·exact .inr ⟨.inl rfl,λe=>z (by rw[e];rfl)⟩
    ·exact .inl h
    ·exact .inr ⟨.inr h.1,h.2⟩
   ·rcases h with h|⟨rfl|h,B⟩
    ·exact .inl (.inr h)
    ·exact .inl (.inl rfl)
    ·exact .inr ⟨h,B⟩
theorem nS{l:List (Sem ze)}(h:∀x∈l,aU x=Q3):(ir l).Pairwise xf/\∀x,x∈ir l↔x∈l/\x.1≠0:=by
 obtain⟨o,u⟩:=xV l [] h sw sw;exact⟨o,λx=>(u x).trans sw⟩
theorem JJ:∀{l m:List (Sem ze)},l.Pairwise xf->m.Pairwise xf->(∀x,x∈l↔x∈m)->l=m
 |[],[],_,_,_=>rfl
 |[],b::m,_,_,h=>by have:=(h b).2 sw;simp at this
 |a::l,[],_,_,h=>by have:=(h a).1 sw;simp at this
 | a::l,b::m,h1,h2,h=>by
  obtain⟨z,C⟩:=List.pairwise_cons.1 h1;obtain⟨B,D⟩:=List.pairwise_cons.1 h2;have e:a=b:=by
   rcases bL.1 ((h a).1 sw)with e|e
   ·exact e
   ·rcases bL.1 ((h b).2 sw)with g|g
    ·exact g.symm
    ·exact absurd (gn (z _ g) (B _ e)) g5
  subst e;rw[JJ C D λx=>⟨λu=>?_,λu=>?_⟩]
  ·rcases bL.1 ((h x).1 (by simp[u]))with rfl|o
   ·exact absurd (z _ u) g5
   ·exact o
  ·rcases bL.1 ((h x).2 (by simp[u]))with rfl|o
   ·exact absurd (B _ u) g5
   ·exact o
open Go Go.Proofs Go.Sort
def qZ(l:List (Sem ze)):Bool:=l.all (λv=>aU v&&(v.1!=0))&&decide l.Nodup&&!l.isEmpty
theorem Yc{l z:List (Sem ze)}(h:qZ l=Q3)(hp:List.Perm z l)(F:z.Pairwise λx y:Sem ze=>¬LT.lt (α:=Int) (aX y x) 0):z=ir l:=by
 simp only[qZ,aE,ep,aQ,bne_iff_ne,ne_eq]at h;obtain⟨⟨u,E⟩,_⟩:=h;obtain⟨C,D⟩:=nS λx o=>(u x o).1
 have B:z.Nodup:=hp.nodup_iff.2 E;refine JJ ?_ C λx=>?_
 ·refine(F.and B).imp_of_mem λ{x y} o G h=>?_
  rcases kX (u y (hp.mem_iff.1 G)).1 (u x (hp.mem_iff.1 o)).1 h.1 with e|e
  ·exact absurd e.symm h.2
  ·exact e
 ·rw[D x,hp.mem_iff];exact⟨λo=>⟨o,(u x o).2⟩,λo=>o.1⟩
@[match_pattern] abbrev zsD:Sh:=.pr (.int .i64) (.pr (.int .i64) .str)
def zug:zZ:=λargs hp _=>match args with
 | [.vec id,.clo (.func 122) [] []]=>match hp id with
  |.vec zsD l=>(.chk (Q0 (Io l<=1000000)) (.chk (qZ l) (.ok {val:=.tup [],wr:=[(id,.vec ze (ir l))]})))
  |_=>.err
 |_=>.err
theorem zq4:Go.Proofs.Enters Tryz.prog 122:=by
  cases h:Tryz.f122.body with
  | none => have:Tryz.f122.body.isNone=false:=by kernel_rfl
            rw[h]at this;cases this
  |some c=>exact Go.Proofs.enters_of (fn:=Tryz.f122) kw kw h
def SC(h:Sem zq)(o:Sem zh.sl):Tr (Empty⊕aw):=
 let u:=getD o (toNat 0) (zi zh)
 br (h.1==cT) (Qc (zJ 0 (Io o)) (re (ai u.1.2.2.1) []))
 (br (h.1==eX) (re (ai h.t.2) [])
  (Qc (zJ 0 (Io h.t.1)) (re (ai (getD h.t.1 (toNat 0) (zi zg))) [])))
def sy(h:Sem zq)(o:Sem zh.sl):=al [zg] t0 100000000 (SC h o)
def sx(h:Sem zq)(o:Sem zh.sl):=(sy h o).isSome
def fy(h:Sem zq)(o:Sem zh.sl):=o1 (sy h o)
def zjS:=FT [zq,zh.sl] [zg] λx=>sy x.1 x.2.1
theorem zfs:FK 120 zjS:=rk.T1 (f:=Tryz.f120) (keep:=k0) (e:=e0)
abbrev zn0:=kR [(7,[4,5,52,53,54])]
inductive Ks where
 |h7 (l52:List (Sem zj)) (i53:Int) (i54:Int) (ja0:List UInt8) (ja1:List UInt8) (ja2:List UInt8) (ja5:List UInt8) (ja8:List UInt8) (ja9:Int) (ja10:Int) (ja11:List UInt8) (ja12:List UInt8) (ja16:List UInt8) (ja17:Int) (ja18:Int) (ja19:List UInt8) (ja20:List UInt8) (ja22:List UInt8) (jb0:Sem Q6) (jb1:Sem Q6) (jb2:Sem Q6) (jb5:List UInt8) (jb8:zD) (jb9:Int) (jb10:Int) (jb11:zD) (jb12:zD) (jb13:List (Sem Q5)) (jb16:List UInt8) (jb17:Int) (jb18:Int) (jb19:List UInt8) (jb20:List UInt8) (jb22:Sem Q6)
 |h7b (l52:List (Sem zj)) (i53:Int) (i54:Int) (ja0:List UInt8) (ja1:List UInt8) (ja2:List UInt8) (ja5:List UInt8) (ja8:List UInt8) (ja9:Int) (ja10:Int) (ja11:List UInt8) (ja12:List UInt8) (ja16:List UInt8) (ja17:Int) (ja18:Int) (ja19:List UInt8) (ja20:List UInt8) (ja22:List UInt8) (jb0:Sem Q6) (jb1:Sem Q6) (jb2:Sem Q6) (jb5:List UInt8) (jb8:zD) (jb9:Int) (jb10:Int) (jb11:zD) (jb12:zD) (jb13:List (Sem Q5)) (jb16:List UInt8) (jb17:Int) (jb18:Int) (jb19:List UInt8) (jb20:List UInt8) (jb22:Sem Q6) (lh_2:List (Sem Q6))
abbrev zqN:Ks->Nat×St
 |.h7 x1 W X Y Z h0 h1 h2 h3 h o u z B C D E F h4 h5 h6 h8 h9 x0 G H I J L M O S T U=>(7,⟨tm 67 [(4,ptr 0 0),(5,ptr 1 0),(52,sl zj x1),(53,ai W),(54,ai X)],[Qa [str Y,str Z,str h0,Qb,Qb,str h1,Qb,Qb,str h2,ai h3,ai h,str o,str u,Qb,Qb,Qb,str z,ai B,ai C,str D,str E,Qb,str F],Qa [str h4,str h5,str h6,Qb,Qb,str h8,Qb,Qb,str h9,ai x0,ai G,str H,str I,sl Q5 J,Qb,Qb,str L,ai M,ai O,str S,str T,Qb,str U]]⟩)
 |.h7b x1 W X Y Z h0 h1 h2 h3 h o u z B C D E F h4 h5 h6 h8 h9 x0 G H I J L M O S T U x2=>(7,⟨tm 67 [(4,ptr 0 0),(5,ptr 1 0),(52,sl zj x1),(53,ai W),(54,ai X)],[Qa [str Y,str Z,str h0,Qb,Qb,str h1,Qb,Qb,str h2,ai h3,ai h,str o,str u,Qb,Qb,Qb,str z,ai B,ai C,str D,str E,Qb,str F],Qa [str h4,str h5,str h6,AV.vec 2,Qb,str h8,Qb,Qb,str h9,ai x0,ai G,str H,str I,sl Q5 J,Qb,Qb,str L,ai M,ai O,str S,str T,Qb,str U],AO.vec Q6 x2]⟩)
def zaQ(h:Sem zq)(B:Sem zh.sl):Tr (Ks⊕aw):=
 let u:=Q0 (h.t.2>=0)
 let z:=zJ 0 (Io B)
 let o:=getD B (toNat 0) (zi zh)
 let C:=(↑(Io o.1.2.1):Int)
 let D:=getD o.1.2.1 (toNat h.t.2) (zi zj)
 br (h.1==eX)
 (Qc (cond u z Q3)
  (br (cond u (Q0 (h.t.2<C)) Q4) (Qc z (Qc (zJ h.t.2 (Io o.1.2.1)) (re (agg [str h.1,str h.2.2.2.1.1,str h.2.1,Qb,Qb,str D.1,Qb,Qb,str (zf.op h.2.2.2.1.t.2),ai (zf.v h.2.2.2.1.t.2).1,
  ai (zf.v h.2.2.2.1.t.2).2.1,str (zf.v h.2.2.2.1.t.2).2.2,str (zf.s h.2.2.2.1.t.2),sl Q5 (zf.l h.2.2.2.1.t.2),Qb,Qb,str [],ai 0,ai 0,str [],str [],Qb,str h.2.2.1]) []))) (re (agg
  [str h.1,str h.2.2.2.1.1,str h.2.1,Qb,Qb,str [],Qb,Qb,str (zf.op h.2.2.2.1.t.2),ai (zf.v h.2.2.2.1.t.2).1,ai (zf.v h.2.2.2.1.t.2).2.1,str (zf.v h.2.2.2.1.t.2).2.2,str (zf.s h.2.2.2.1.t.2),sl Q5 (zf.l h.2.2.2.1.t.2),Qb,Qb,
  str [],ai 0,ai 0,str [],str [],Qb,str h.2.2.1]) [])))
 (Q9
  (Ks.h7 h.2.2.2.1.2.1 (↑(Io h.2.2.2.1.2.1):Int) 0 [] [] [] [] [] 0 0 [] [] [] 0 0 [] [] [] h.1 h.2.2.2.1.1 h.2.1 [] (zf.op h.2.2.2.1.t.2) (zf.v h.2.2.2.1.t.2).1 (zf.v h.2.2.2.1.t.2).2.1 (zf.v h.2.2.2.1.t.2).2.2 (zf.s h.2.2.2.1.t.2) (zf.l h.2.2.2.1.t.2) [] 0 0 [] [] h.2.2.1))
def A2:Ks->Tr (Ks⊕aw)
 | .h7 I J h h6 h8 h9 x0 x1 x2 L M O S T U W X Y Z h0 h1 h2 h3 h4 o u z B C D E F G H=>
  let a0:=I.getD h.toNat (zi zj)
  let a1:=[a0.1]
  br (Q0 (h<J))
  (Qc (zJ h (Io I)) (Qc (Q0 (Io a1<=1073741824)) (Q9 (Ks.h7b I J (Γ Δ (h+1)) h6 h8 h9 x0 x1 x2 L M O S T U W X Y Z h0 h1 h2 h3 h4 o u z B C D E F G H a1))))
  (re (agg [str Z,str h0,str h1,Qb,Qb,str h2,Qb,Qb,str h3,ai h4,ai o,str u,str z,sl Q5 B,Qb,Qb,str C,ai D,ai E,str F,str G,Qb,str H]) [])
 | .h7b I J h h6 h8 h9 x0 x1 x2 L M O S T U W X Y Z h0 h1 h2 h3 h4 o u z B C D E F G H h5=>
  let a0:=I.getD h.toNat (zi zj)
  let a1:=[a0.1]
  br (Q0 (h<J))
  (Qc (zJ h (Io I)) (Qc (Q0 (Io h5+Io a1<=1073741824)) (Q9 (Ks.h7b I J (Γ Δ (h+1)) h6 h8 h9 x0 x1 x2 L M O S T U W X Y Z h0 h1 h2 h3 h4 o u z B C D E F G H (h5++a1)))))
  (re (agg [str Z,str h0,str h1,AV.vec 0,Qb,str h2,Qb,Qb,str h3,ai h4,ai o,str u,str z,sl Q5 B,Qb,Qb,str C,ai D,ai E,str F,str G,Qb,str H]) [AO.vec Q6 h5])
def IX(h:Sem zq)(o:Sem zh.sl):=al [zn] A2 100000000 (zaQ h o)
def Ox(h:Sem zq)(o:Sem zh.sl):=(IX h o).isSome
def Xp(h:Sem zq)(o:Sem zh.sl):=o1 (IX h o)
def zke:=FT [zq,zh.sl] [zn] λx=>IX x.1 x.2.1
theorem zfR:FK 75 zke:=rk.T1 (f:=Tryz.f75) (keep:=zn0) (e:=zqN)
def Vd:=zdx.addL [(120,zjS),(75,zke)]
theorem NO:zw Vd:=rk.addL<|fc zfs<|fc zfR<|iz
def zr7(h:Sem zh):Tr (Empty⊕aw):=
 re (str h.1.1) []
def X1(h:Sem zh):=al [Q6] t0 100000000 (zr7 h)
def zqa:=FT [zh] [Q6] λx=>X1 x.1
theorem zfM:FK 68 zqa:=rk.T1 (f:=Tryz.f68) (keep:=k0) (e:=e0)
theorem zfN:FK 68 (aH [zh] [.str] λx=>(x.1.1.1,())):=g6 zfM λ_=>rfl
def zdz:=((((Vd.add 68 (aH [zh] [.str] λx=>(x.1.1.1,()))).add 107 zey).aut 70 Tryz.f70 2).aut 71 Tryz.f71 1)
theorem GQ:zw zdz:=iu (iu ((NO.add zfN).add zgm) (bU kw)) (bU kw)
abbrev znL:=kR [(6,[1,2,5,6,19,20,21])]
inductive Rw where
 |h6 (l1:List (Sem zh)) (l6:List (Sem Q6)) (l19:List (Sem zh)) (i20:Int) (i21:Int) (z0:zl [CP.d zq])
abbrev zqE:Rw->Nat×St
 |.h6 z B u h o C=>(6,⟨tm 55 [(1,sl zh z),(2,ptr 0 0),(5,ptr 1 0),(6,sl Q6 B),(19,sl zh u),(20,ai h),(21,ai o)],[Qa (bb [] [CP.d zq] C),Qa [AV.clo (Fn.func 68) [] []]]⟩)
def zne(h:Sem zq)(o:Sem zh.sl):Tr (Rw⊕aw):=
 let u:=lB (h.1,h.2.1,h.2.2.1,(h.2.2.2.1.1,h.2.2.2.1.2.1,h.2.2.2.1.2.2.1,h.2.2.2.1.2.2.2.1,h.2.2.2.1.t.1,zm h.2.2.2.1.t.2),h.t)
 br ((↑(Io o):Int)!=(↑(Io u):Int)) (re (ai 1) []) (Q9 (Rw.h6 o u o (↑(Io o):Int) 0 (h,())))
def zbJ:Rw->Tr (Rw⊕aw)
 | .h6 B F C D o z=>
  let J:=C.getD o.toNat (zi zh)
  let E:=(z.1.1,z.1.2.1,z.1.2.2.1,(z.1.2.2.2.1.1,z.1.2.2.2.1.2.1,z.1.2.2.2.1.2.2.1,z.1.2.2.2.1.2.2.2.1,z.1.2.2.2.1.t.1,zm z.1.2.2.2.1.t.2),z.1.t)
  let h:=Xp E B
  let G:=(h.1,h.2.1,h.2.2.1,h.2.2.2.1,h.t.1,h.t.2.1,h.t.q.1,h.t.q.2.1,zm h.t.t.1,h.t.t.2.1,h.t.t.q.1,zm h.t.t.q.2.1,h.t.t.t)
  let u:=pOf (fQ B) G
  let H:=u.2!=0
  let I:=(u.1.1,u.1.2.1,u.1.2.2.1,(u.1.2.2.2.1.1,u.1.2.2.2.1.2.1,u.1.2.2.2.1.2.2.1,u.1.2.2.2.1.2.2.2.1,u.1.2.2.2.1.t.1,zm u.1.2.2.2.1.t.2),u.1.t)
  br (Q0 (o<D))
  (Qc (zJ o (Io C)) (Qc (zJ o (Io F)) (br (!J.1.1==F.getD o.toNat (zi Q6)) (re (ai 1) []) (Q9 (Rw.h6 B F C D (Γ Δ (o+1)) z)))))
  (Qc (Q0 (0<Io B)) (Qc (Q0 (Io B<=1000)) (Qc (two B) (Qc (Ox E B) (Qc (zit (fQ B) G) (Qc (cond H Q3 (IV E I)) (br (cond H Q3 (!L9 E I)) (re (ai 1) []) (re (ai 0) []))))))))
def Qz(h:Sem zq)(o:Sem zh.sl):=al [zg] zbJ 100000000 (zne h o)
def L7(h:Sem zq)(o:Sem zh.sl):=(Qz h o).isSome
def Xn(h:Sem zq)(o:Sem zh.sl):=o1 (Qz h o)
def zjN:=FT [zq,zh.sl] [zg] λx=>Qz x.1 x.2.1
theorem zfn:FK 32 zjN:=GQ.T1 (f:=Tryz.f32) (keep:=znL) (e:=zqE)
def zdA:=zdz.add 32 zjN
theorem GR:zw zdA:=GQ.add zfn
abbrev znW:=kR [(4,[1,6,7,8]),(12,[1,6,7,8,10,11,12])]
inductive mw where
 |h4 (l1:List (Sem zh)) (l6:List (Sem Q6)) (i8:Int)
 |h12 (l1:List (Sem zh)) (l6:List (Sem Q6)) (i8:Int) (i12:Int) (z0:zl [CP.d zh])
 |h12b (l1:List (Sem zh)) (l6:List (Sem Q6)) (i8:Int) (i12:Int) (z0:zl [CP.d zh]) (lh_1:List (Sem zp))
 |h4b (l1:List (Sem zh)) (l6:List (Sem Q6)) (i8:Int) (lh_0:List (Sem zh))
 |h12bb (l1:List (Sem zh)) (l6:List (Sem Q6)) (i8:Int) (i12:Int) (z1:zl [CP.d zh]) (lh_0:List (Sem zh))
 |h12bbb (l1:List (Sem zh)) (l6:List (Sem Q6)) (i8:Int) (i12:Int) (z1:zl [CP.d zh]) (lh_0:List (Sem zh)) (lh_2:List (Sem zp))
abbrev zqK:mw->Nat×St
 |.h4 z B u=>(4,⟨tm 67 [(1,sl zh z),(6,sl Q6 B),(7,Qb),(8,ai u)],[]⟩)
 |.h12 z B u o E=>(12,⟨tm 67 [(1,sl zh z),(6,sl Q6 B),(7,Qb),(8,ai u),(10,ptr 0 0),(11,Qb),(12,ai o)],[Qa (bb [] [CP.d zh] E)]⟩)
 |.h12b z B u o E C=>(12,⟨tm 67 [(1,sl zh z),(6,sl Q6 B),(7,Qb),(8,ai u),(10,ptr 0 0),(11,AV.vec 1),(12,ai o)],[Qa (bb [] [CP.d zh] E),AO.vec zp C]⟩)
 |.h4b z B u h=>(4,⟨tm 67 [(1,sl zh z),(6,sl Q6 B),(7,AV.vec 0),(8,ai u)],[AO.vec zh h]⟩)
 |.h12bb z B u o F h=>(12,⟨tm 67 [(1,sl zh z),(6,sl Q6 B),(7,AV.vec 0),(8,ai u),(10,ptr 1 0),(11,Qb),(12,ai o)],[AO.vec zh h,Qa (bb [] [CP.d zh] F)]⟩)
 |.h12bbb z B u o F h D=>(12,⟨tm 67 [(1,sl zh z),(6,sl Q6 B),(7,AV.vec 0),(8,ai u),(10,ptr 1 0),(11,AV.vec 2),(12,ai o)],[AO.vec zh h,Qa (bb [] [CP.d zh] F),AO.vec zp D]⟩)
def zhz(h:Sem zq)(u:Sem zh.sl):Tr (mw⊕aw):=
 let o:=(h.1,h.2.1,h.2.2.1,(h.2.2.2.1.1,h.2.2.2.1.2.1,h.2.2.2.1.2.2.1,h.2.2.2.1.2.2.2.1,h.2.2.2.1.t.1,zm h.2.2.2.1.t.2),h.t)
 Qc (jT o) (Q9 (mw.h4 u (lC o) 0))
def gA:mw->Tr (mw⊕aw)
 | .h4 B u z=>
  let E:=lK B (u.getD z.toNat (zi Q6))
  br (Q0 (z<(↑u.length:Int)))
  (Qc (zJ z (Io u)) (br (Q0 (E<0)) (re (tup [Qb,kb Q4]) []) (Qc (zJ E (Io B)) (Q9 (mw.h12 B u z 0 (B.getD (toNat E) (zi zh),()))))))
  (re (tup [Qb,kb Q3]) [])
 | .h12 B u z h C=>
  let E:=(↑(Io C.1.1.t.1):Int)
  let I:=zJ h (Io C.1.1.t.1)
  let F:=getD C.1.1.t.1 h.toNat (zi zp)
  let J:=[F]
  let L:=Γ Δ (h+1)
  let M:=[((C.1.1.1,C.1.1.2.1,C.1.1.2.2.1,C.1.1.2.2.2.1,[],zm C.1.1.t.2),C.1.2)]
  br (Q0 (h<E))
  (Qc I (Qc (AD u F.2) (br (MD u F.2) (Qc I (Qc (Q0 (Io J<=1073741824)) (Q9 (mw.h12b B u z L C J)))) (Q9 (mw.h12 B u z L C)))))
  (Qc (Q0 (Io M<=1073741824)) (Q9 (mw.h4b B u (Γ Δ (z+1)) M)))
 | .h12b B u z h C G=>
  let E:=(↑(Io C.1.1.t.1):Int)
  let I:=zJ h (Io C.1.1.t.1)
  let F:=getD C.1.1.t.1 h.toNat (zi zp)
  let J:=[F]
  let L:=Γ Δ (h+1)
  let M:=[((C.1.1.1,C.1.1.2.1,C.1.1.2.2.1,C.1.1.2.2.2.1,G,zm C.1.1.t.2),C.1.2)]
  br (Q0 (h<E))
  (Qc I (Qc (AD u F.2) (br (MD u F.2) (Qc I (Qc (Q0 (Io G+Io J<=1073741824)) (Q9 (mw.h12b B u z L C (G++J))))) (Q9 (mw.h12b B u z L C G)))))
  (Qc (Q0 (Io M<=1073741824)) (Q9 (mw.h4b B u (Γ Δ (z+1)) M)))
 | .h4b B u z o=>
  let E:=lK B (u.getD z.toNat (zi Q6))
  br (Q0 (z<(↑u.length:Int)))
  (Qc (zJ z (Io u)) (br (Q0 (E<0)) (re (tup [Qb,kb Q4]) []) (Qc (zJ E (Io B)) (Q9 (mw.h12bb B u z 0 (B.getD (toNat E) (zi zh),()) o)))))
  (re (tup [AV.vec 0,kb Q3]) [AO.vec zh o])
 | .h12bb B u z h D o=>
  let E:=(↑(Io D.1.1.t.1):Int)
  let I:=zJ h (Io D.1.1.t.1)
  let F:=getD D.1.1.t.1 h.toNat (zi zp)
  let J:=[F]
  let L:=Γ Δ (h+1)
  let M:=[((D.1.1.1,D.1.1.2.1,D.1.1.2.2.1,D.1.1.2.2.2.1,[],zm D.1.1.t.2),D.1.2)]
  br (Q0 (h<E))
  (Qc I (Qc (AD u F.2) (br (MD u F.2) (Qc I (Qc (Q0 (Io J<=1073741824)) (Q9 (mw.h12bbb B u z L D o J)))) (Q9 (mw.h12bb B u z L D o)))))
  (Qc (Q0 (Io o+Io M<=1073741824)) (Q9 (mw.h4b B u (Γ Δ (z+1)) (o++M))))
 | .h12bbb B u z h D o H=>
  let E:=(↑(Io D.1.1.t.1):Int)
  let I:=zJ h (Io D.1.1.t.1)
  let F:=getD D.1.1.t.1 h.toNat (zi zp)
  let J:=[F]
  let L:=Γ Δ (h+1)
  let M:=[((D.1.1.1,D.1.1.2.1,D.1.1.2.2.1,D.1.1.2.2.2.1,H,zm D.1.1.t.2),D.1.2)]
  br (Q0 (h<E))
  (Qc I (Qc (AD u F.2) (br (MD u F.2) (Qc I (Qc (Q0 (Io H+Io J<=1073741824)) (Q9 (mw.h12bbb B u z L D o (H++J))))) (Q9 (mw.h12bbb B u z L D o H)))))
  (Qc (Q0 (Io o+Io M<=1073741824)) (Q9 (mw.h4b B u (Γ Δ (z+1)) (o++M))))
def D1(h:Sem zq)(o:Sem zh.sl):=al [zh.sl,Sh.bool] gA 100000000 (zhz h o)
def OC(h:Sem zq)(o:Sem zh.sl):=(D1 h o).isSome
def XE(h:Sem zq)(o:Sem zh.sl):=o2 (D1 h o)
def zj9:=FT [zq,zh.sl] [zh.sl,Sh.bool] λx=>D1 x.1 x.2.1
theorem zfJ:FK 51 zj9:=GR.T1 (f:=Tryz.f51) (keep:=znW) (e:=zqK)
def Aj:=zdA.add 51 zj9
theorem xQ:zw Aj:=GR.add zfJ
abbrev zd5:=kR [(4,[5,6,18,19,20]),(11,[9,34])]
inductive Rx where
 |h4 (i5:Sem zg) (l18:List (Sem ze.sl)) (i19:Int) (i20:Int) (mh_0:List ((Int×Int×zD)×Int))
abbrev NC:Rx->Nat×St
 |.h4 B z o u h=>(4,⟨tm 46 [(5,ai B),(6,AV.mp 0),(18,sl ze.sl z),(19,ai o),(20,ai u)],[AO.vmap Q3 h]⟩)
def zhw(h:Sem zq)(o:Sem zh.sl):Tr (Rx⊕aw):=
 let u:=(h.1,h.2.1,h.2.2.1,(h.2.2.2.1.1,h.2.2.2.1.2.1,h.2.2.2.1.2.2.1,h.2.2.2.1.2.2.2.1,h.2.2.2.1.t.1,zm h.2.2.2.1.t.2),h.t)
 let z:=getD o (toNat 0) (zi zh)
 Qc (sx u o) (Qc (zJ 0 (Io o)) (Q9 (Rx.h4 (fy u o) z.2 (↑(Io z.2):Int) 0 [])))
def zpT:Rx->Tr (Rx⊕aw)
 | .h4 B o u h z=>
  let C:=o.getD h.toNat (zi ze.sl)
  br (Q0 (h<u))
  (Qc (zJ h (Io o)) (Qc (zJ B (Io C)) (Q9 (Rx.h4 B o u (Γ Δ (h+1)) (kG z (getD C (toNat B) (zi ze)) 0)))))
  Tr.err
set_option maxRecDepth 100000
def xt(es:List ((Int×Int×zD)×Int))(k:Int×Int×zD):List ((Int×Int×zD)×Int):=match cw es k 0 with
 |some q=>es.eraseIdx q.1
 |none=>es
theorem yi{α β:Type}(f:α->β):∀(l:List α)(i:Nat),(l.eraseIdx i).map f=(l.map f).eraseIdx i
 |[],_=>rfl
 |_::_,0=>rfl
 | x::r,i+1=>by
  show f x::(r.eraseIdx i).map f=f x::(r.map f).eraseIdx i;rw[yi f r i]
theorem zar{P:Program}{mt kt et:TypeId}(S:P.underlying mt=Q1 (.map kt et))(D:nL P kt=Q3){w:World}{r:Nat}{h:Array MapEntry}{o:Nat}{es:List ((Int×Int×zD)×Int)}{k:Int×Int×zD}(L:iX k)
  (G:w.heap[r]?=Q1 (.map h o)) (J:(h.toList.map λe=>(e.key,e.val))=CY Q3 es) (U:∀p∈es,cy .i64 p.2/\iX p.1) (M:lY h o):
  ∃u:Array MapEntry,(∀O,(Builtin.delete_ #[mt,kt] O #[.map (Q1 r),dT k]).run P w=.ok (.tuple #[]) {w with heap:=w.heap.setIfInBounds r (.map u o)})/\
   (u.toList.map λe=>(e.key,e.val))=CY Q3 (xt es k)/\(∀x∈u.toList,x.born<o)/\(u.toList.map (·.born)).Nodup:=by
 have C:=jF (P:=P) (w:=w) D L Q3 es h.toList J U;have z:∀x∈h.toList,x.born<o:=λx I=>by
  obtain⟨i,H,rfl⟩:=fz I;have:=M.2 i h.toList[i] (by rw[<-sS];exact zU H);rw[this,M.1];simpa using H
 have F:(h.toList.map (·.born)).Nodup:=by
  have:h.toList.map (·.born)=List.range h.size:=by
   apply List.ext_getElem
   ·simp
   ·intro i T W;have H:i<h.size:=by simpa using T
    simp only[List.getElem_map,List.getElem_range];exact M.2 i _ (by rw[<-sS];exact zU (by simpa using H))
  rw[this];exact List.nodup_range
 unfold xt;cases E:cw es k 0 with
 | none=>
  rw[E]at C;refine⟨h,λO=>?_,J,z,F⟩;simp[Builtin.delete_,bD S,lc G,dl D,C,yV _ G,Result.andThen]
 | some q=>
  rw[E]at C;have B:((h.eraseIdxIfInBounds q.1).toList)=h.toList.eraseIdx q.1:=by simp
  refine⟨h.eraseIdxIfInBounds q.1,λO=>?_,?_,λx I=>?_,?_⟩
  ·simp[Builtin.delete_,bD S,lc G,dl D,C,yV _ G,Result.andThen]
  ·rw[B,yi,J];exact(yi _ es q.1).symm
  ·rw[B]at I;exact z x (List.mem_of_mem_eraseIdx I)
  ·rw[B];exact F.sublist ((List.eraseIdx_sublist _ _).map _)
def EG:Code:=match Tryz.f77.body with
 |some (.seq _ (.seq _ (.seq _ (.seq _ r))))=>r
 |_=>.skip
def DC:Code:=match Tryz.f77.body with
 |some (.seq _ (.seq _ (.seq _ (.seq (.seq _ (.block _ (.loop c))) _))))=>c
 |_=>.skip
theorem zhn:aj Tryz.f77 4=[.code DC,.inLoop DC,.inBlock 0,.code EG]:=kw
theorem zhE:(Tryz.prog.info? 27).map (λi=>(i.zero,i.size,i.bytes))=Q1 (Q1 (.agg #[.int .i64 0,.int .i64 0,.string ⟨#[]⟩]),3,32):=kw
def Ln(l:List ((Int×Int×zD)×MapEntry)):List Value:=l.flatMap λp=>[.int .i64 p.1.1,.int .i64 p.1.2.1,.string ⟨p.1.2.2.toArray⟩]
structure zew (w1:World) (r clock:Nat) (ents':Array MapEntry) (v:Value) (wr:World) (seen:Array Nat) (E:List ((Int×Int×zD)×MapEntry)):Prop where
 it:∃c0,wr.heap[w1.heap.size]?=Q1 (.mapIter (Q1 r) clock seen c0)/\clock<=c0
 mp:wr.heap[r]?=Q1 (.map ents' clock)
 sub:∀p∈E,p.2∈ents'.toList/\p.2.key=dT p.1
 sn:seen.toList=E.map λp=>p.2.born
 nd:(E.map λp=>p.2.born).Nodup
 row:wr.ownsRow w1.heap.size 27 3 v (Io E) (Ln E)
 bel:RowKit.Below w1.heap.size w1 wr
 cnt:Io E+(leftOf ents' seen).size<=ents'.size
theorem R3(w:World)(l:List Value)(t:TypeId):∀j u,l[j]?=Q1 u->(w.alloc (.cells l.toArray t)).cell? ((⟨w.heap.size,0,none⟩:Addr).add j)=Q1 u:=by
 intro j u h;unfold Addr.add;split
 ·rename_i e;subst e;simp[h]
 ·simp[h]
theorem zbw(Q:Exit->Act->World->Prop)(S:Value->World->Prop)(r:Nat)(z:Array MapEntry)(u:Nat)(w w1:World)(l9:∀ty,(Builtin.delete_ #[181,27] ty #[.map (Q1 r),.agg #[.int .i64 0,.int .i64 0,.string ⟨#[]⟩]]).run Tryz.prog w=.ok (.tuple #[]) w1)(hm:w1.heap[r]?=Q1 (.map z u))(h3:∀x∈z.toList,x.born<u)(a1:(z.toList.map (·.born)).Nodup) (h6:∀x∈z.toList,∃k,x.key=dT k) (m6:z.size<=1000)
  (h9:∀v wr B E,zew w1 r u z v wr B E->(leftOf z B).size=0->Calls Tryz.prog 121 #[v,.func (.func 122) #[] #[]] wr λe w'=>e=.returned (.tuple #[])/\S v w')
  (hQ:∀v w'(a:Act),S v w'->a.tmps[4]?=Q1 v->a.defers=[]->Q Exit.ret a w')
  (v0 v1 v2 v3 v4 v5 v7 v8 v9 a8 a9 i1 i2 i3 i4 i5 i6 i7 i8 v20 i9 j0 j1 j2 j3 j4 j5 j6 j7 j8 j9 k4 k5 k6 k7 k8 k9 l0 l1 l2 l3 l4 l5 l6 l7:Value):
  EG.wp Tryz.prog Q {tmps:=#[v0,v1,v2,v3,v4,v5,(Value.map (Q1 r)),v7,v8,v9,a8,a9,i1,i2,i3,i4,i5,i6,i7,i8,v20,i9,j0,j1,j2,j3,j4,j5,j6,j7,j8,j9,k4,k5,k6,k7,k8,k9,l0,l1,l2,l3,l4,l5,l6,l7],defers:=[]} w:=by
 have m3:=run_range_map (P:=Tryz.prog) w1 181 27 182 r z u Tryz.underlying181 hm;simp only[EG,Tryz.f77]
 go_wp2
 obtain⟨i0,hi,a5,a6,a7⟩:=info_parts zhE
 go_loopw [9] (λv wr=>∃B E,zew w1 r u z v wr B E)
  (λ_ wr=>(leftOf z (wr.iterSeen w1.heap.size)).size)
 case atStart=>
  exact⟨#[],[],⟨⟨u,heap_alloc_new _ _,ae _⟩,by rw[heap_alloc_old _ _ (ea.1 hm).1];exact hm,sw,sw,sw,World.ownsRow_nil _ _ _ _,(RowKit.Below.refl _ _).alloc (ae _) _,by simpa[leftOf]using Array.size_filter_le⟩⟩
 case round=>
  obtain⟨B,E,D⟩:=hrel;obtain⟨c0,M,a3⟩:=D.it;have m1:r<w1.heap.size:=(ea.1 hm).1;rcases run_next_at (P:=Tryz.prog) wr 0 w1.heap.size r u c0 B z u M D.mp h3 a3 with⟨hz,T⟩|⟨e,he,wd,L,T⟩
  ·have x6:=h9 _ _ _ _ D (by simpa using hz);clear D
   go_wp2_with (go_at_call 121;refine x6.mono ?_;rintro e w' ⟨rfl,hS⟩)
   exact hQ _ _ _ hS rfl rfl
  ·have h4:e∈z.toList:=by simp[leftOf]at he⊢;exact he.1
   have x8:e.born∉E.map λp=>p.2.born:=by
    rw[<-D.sn];simp[leftOf]at he⊢;exact he.2
   obtain⟨k,hk⟩:=h6 e h4;have a0:0<(leftOf z B).size:=by
    have:=List.length_pos_of_mem he;simpa using this
   have l8:=D.cnt;have m2:Io E<1000:=by omega
   obtain⟨W3,C⟩:∃W3,ChangeMaps.setBlock wd w1.heap.size (.mapIter (Q1 r) u (B.push e.born) u)=W3:=⟨_,rfl⟩;rw[C]at T;have U:wd.heap=wr.heap:=by rcases L with rfl|rfl<;>rfl
   have x1:w1.heap.size<wr.heap.size:=(ea.1 M).1;have F:W3.heap[w1.heap.size]?=Q1 (.mapIter (Q1 r) u (B.push e.born) u):=by
    rw[<-C];show(wd.heap.setIfInBounds _ _)[_]?=_;rw[U];simp[x1]
   have h1:∀j,j≠w1.heap.size->W3.heap[j]?=wr.heap[j]?:=λj O=>by
    rw[<-C];show(wd.heap.setIfInBounds _ _)[_]?=_;rw[U,Array.getElem?_setIfInBounds_ne (λe=>O e.symm)]
   have h2:W3.heap.size=wr.heap.size:=by
    rw[<-C];show(wd.heap.setIfInBounds _ _).size=_;rw[U];simp
   have h5:wr.grownBy W3 (Q1 w1.heap.size):=⟨by rw[<-C];rcases L with rfl|rfl<;>rfl,by rw[<-C];rcases L with rfl|rfl<;>rfl,by rw[<-C];rcases L with rfl|rfl<;>rfl,by rw[h2];exact ae _,λj _ O=>h1 j λe=>O (by rw[e])⟩;have Y:W3.heap[r]?=Q1 (.map z u):=(h1 r ow).trans D.mp;have x0:=run_entry_at (P:=Tryz.prog) W3 w1.heap.size r u B z u e F Y h4 a1;have J:=D.row.kept h5 (by
    rcases D.row.2 with⟨rfl,_⟩|⟨g,x4,x5,rfl,_,H,_⟩
    ·exact .inl rfl
    ·refine .inr λe'=>?_
     have:g=w1.heap.size:=by simpa[Value.ownBlock]using e'
     subst this;rw[M]at H;cases H)
   have G:RowKit.Below w1.heap.size w1 W3:=D.bel.grown h5 D.bel.size (λj e=>by cases e;exact ae _);rw[hk]at T x0;obtain⟨k1,k2,k3⟩:=k;simp only[dT]at T x0;have x3:=D.sub;have a4:=D.sn;have x2:=D.nd;clear C L U h2 h5 D
   go_wp2_with (at_builtin;refine wpList_append_own _ rfl _ _ 31 rfl w1.heap.size 27 i0 _ 3 32 Tryz.underlying31 hi a5 a6 a7 rfl (by decide) _ _ _ rfl ((J.alloc _).alloc _) ⟨W3.heap.size+1,0,none⟩ 1 1 [.int .i64 k1,.int .i64 k2,.string ⟨k3.toArray⟩] rfl rfl (by have:=R3 (W3.alloc (.cells #[.int .i64 k1,.int .i64 k2,.string ⟨k3.toArray⟩] 27)) [.int .i64 k1,.int .i64 k2,.string ⟨k3.toArray⟩] 27;simpa using this) (by simp[Value.oneCell']) (by unfold maxLen;omega) ow (by have:=G.size;simp;omega) ?_;intro v' w3 h8 W h7;go_frame)
   obtain⟨o3,a2⟩:∃o:Obj,o=.cells #[.int .i64 k1,.int .i64 k2,.string ⟨k3.toArray⟩] 27:=⟨_,rfl⟩;have X:World.grownBy ((W3.alloc o3).alloc o3) w3 u9.ownBlock:=by rw[a2];exact W
   clear W h7;have I:∀j,u9.ownBlock=Q1 j->w1.heap.size<=j/\j≠w1.heap.size:=by
    intro j O;rcases J.2 with⟨rfl,_⟩|⟨g,x4,x5,rfl,x7,H,_⟩
    ·simp[Value.ownBlock]at O
    ·have:g=j:=by simpa[Value.ownBlock]using O
     subst this;exact⟨x7,λe'=>by subst e';rw[F]at H;cases H⟩
   have m4:w1.heap.size<W3.heap.size:=(ea.1 F).1;have h0:∀j,j<=w1.heap.size->w3.heap[j]?=W3.heap[j]?:=λj O=>by
    rw[X.block j sg (λe'=>by obtain⟨a,b⟩:=I j e'.symm;omega),heap_alloc_old _ _ sg,heap_alloc_old _ _ ow]
   have Z:w3.heap[w1.heap.size]?=Q1 (Obj.mapIter (Q1 r) u (B.push e.born) u):=(h0 _ (ae _)).trans F;have x9:Ln (E++[((k1,k2,k3),e)])=Ln E++[.int .i64 k1,.int .i64 k2,.string ⟨k3.toArray⟩]:=by simp[Ln]
   refine⟨⟨B.push e.born,E++[((k1,k2,k3),e)],⟨⟨u,Z,ae _⟩,(h0 r ow).trans Y,?_,?_,?_,?_,?_,?_⟩⟩,?_⟩
   ·intro p hp;rcases cJ.1 hp with h|h
    ·exact x3 p h
    ·obtain rfl:=eD.1 h;exact⟨h4,hk⟩
   ·simp[a4]
   ·rw[gD];refine List.nodup_append.2 ⟨x2,sw,λa ha b hb=>?_⟩;have:b=e.born:=by simpa using hb
    rintro rfl;exact x8 (this▸ha)
   ·rw[x9,ip];exact h8
   ·exact((G.alloc ow _).alloc sg _).grown X sg (λj O=>(I j O).1)
   ·have:=left_shrinks _ _ _ he;rw[ip];simp only[dU,iq];omega
   ·have e1:wr.iterSeen w1.heap.size=B:=by simp[World.iterSeen,M]
    have e2:w3.iterSeen w1.heap.size=B.push e.born:=by simp[World.iterSeen,Z]
    rw[e1,e2];exact left_shrinks _ _ _ he
abbrev V3:={x:Sem ze//aU x=Q3}
def ki(p:V3):List Value:=[.int .i64 p.1.1,.int .i64 p.1.2.1,.string ⟨(p.1.2.2:zD).toArray⟩]
def KK(p q:V3):Int:=aX p.1 q.1
theorem ziF[Inhabited V3](d:Array V3)(B u:Nat)(w:World)(H:HoldsK ki 3 w B 0 d)(G:B<w.heap.size)(h:d.size<4611686018427387904):
  Calls Tryz.prog 121 #[.slice (Q1 ⟨B,0,none⟩) d.size u,.func (.func 122) #[] #[]] w λe D=>e=.returned (.tuple #[])/\∃n os,D=sortWorldK ki 3 w B 0 n (d.toList.mergeSort λx y=>!(ltOf KK) y x).toArray os:=by
 refine AnyQ.slices_SortFunc_total Tryz.sortVal 3 Tryz.isAgg27 Tryz.sizeOf27 ki (λ_=>rfl) ?_ KK ?_ 122 #[] B 0 u d w zq4 ?_ H G h ?_
 ·intro x v C;simp only[ki,bL,List.not_mem_nil,or_false]at C;rcases C with rfl|rfl|rfl<;>rfl
 ·refine⟨λx=>?_,λx y z h g=>?_,λx y z h g=>?_⟩
  ·exact aq (g5 (a:=x.1))
  ·simp only[ltOf,aQ]at h g⊢;exact gn (a:=x.1) (b:=y.1) (c:=z.1) h g
  ·simp only[ltOf,decide_eq_false_iff_not]at h g⊢;intro o;rcases kX x.2 y.2 h with e|e
   ·unfold KK at o;rw[e]at o;exact g o
   ·exact g (gn (a:=y.1) (b:=x.1) (c:=z.1) e o)
 ·intro m os J I x y;show Calls Tryz.prog 122 (#[Value.agg (ki x).toArray,Value.agg (ki y).toArray]++#[]) _ _;refine(zbh x.1.1 x.1.2.1 x.1.2.2 y.1.1 y.1.2.1 y.1.2.2 _).mono ?_;rintro L D ⟨rfl,E,F⟩;exact⟨rfl,gd_of E F⟩
 ·intro x y h g;simp only[ltOf,decide_eq_false_iff_not]at h g;rcases kX x.2 y.2 h with e|e
  ·exact Subtype.ext e
  ·exact absurd e g
theorem vo[Inhabited V3]:∀(l:List V3)(t:Nat),t<Io l*3->(l.flatMap ki)[t]?=Q1 (ki (l[t/3]!))[t%3]!
 |[],t,h=>by simp at h
 | a::l,t,h=>by
  rw[List.flatMap_cons];by_cases u:t<3
  ·have e0:t/3=0:=by omega
   have o:t%3=t:=by omega
   rw[mR (by simpa[ki]using u),e0,o];rw[List.getElem!_cons_zero,zU (by simpa[ki]using u),getElem!_pos]
  ·obtain⟨s,rfl⟩:∃s,t=s+3:=⟨t-3,ow⟩;have e0:(s+3)/3=s/3+1:=by omega
   have o:(s+3)%3=s%3:=by omega
   rw[pq (by simp[ki]),e0,o,List.getElem!_cons_succ];have:=vo l s (by simp at h;omega);simpa[ki]using this
theorem Dl:∀l:List V3,(l.flatMap ki).length=Io l*3
 |[]=>rfl
 | a::l=>by
  rw[List.flatMap_cons,ip,Dl l,dU];simp[ki];omega
theorem Xm[Inhabited V3]{w:World}{z:Nat}{v:Value}{l:List V3}(I:w.ownsRow z 27 3 v (Io l) (l.flatMap ki))(E:Io l<4611686018427387904)(X:l≠[]):
  Calls Tryz.prog 121 #[v,.func (.func 122) #[] #[]] w λe w'=>e=.returned (.tuple #[])/\w'.ownsRow z 27 3 v (Io l) ((l.mergeSort λx y=>!(ltOf KK) y x).flatMap ki)/\w.grownBy w' v.ownBlock:=by
 rcases I.2 with⟨_,h0⟩|⟨g,C,D,rfl,M,o,G,S,F,Z⟩
 ·exact absurd (List.length_eq_zero_iff.1 h0) X
 have hH:HoldsK ki 3 w g 0 l.toArray:=by
  intro t u;rw[size_flatK]at u;have J:t<Io l*3:=by simpa using u
  have hc:D.toList[t]?=Q1 (ki (l[t/3]!))[t%3]!:=by
   rw[<-vo l t J,<-Z,List.getElem?_take_of_lt J]
  refine⟨?_,by simp[World.frozen?,o]⟩;rw[get_flatK _ _ _ _ u];simp[World.cell?,o];simpa using hc
 have hs:=ziF l.toArray g C w hH (ea.1 o).1 (by simpa using E);have Y:l.toArray.size=Io l:=by simp
 rw[Y]at hs;refine hs.mono ?_;rintro e w' ⟨rfl,m,os,rfl⟩;have h:(l.mergeSort λx y=>!(ltOf KK) y x).length=Io l:=List.length_mergeSort _;simp only[];generalize(l.mergeSort λx y=>!(ltOf KK) y x)=B at h;have L:=vu (enc:=ki) (k:=3) (n:=m) (os:=os) B.toArray o;have H:∀b,b<w.heap.size->b≠g->(sortWorldK ki 3 w g 0 m B.toArray os).heap[b]?=w.heap[b]?:=λb hb W=>gW B.toArray hb W
 refine⟨by first|trivial|rfl,⟨by rw[Dl,h],.inr ⟨g,C,_,rfl,M,L,G,S,by simp[putCells,F],?_⟩⟩,⟨rfl,rfl,rfl,?_,λk hk W=>H k hk λe=>W (by rw[e];rfl)⟩⟩
 ·apply Cl;intro t;by_cases u:t<Io l*3
  ·rw[List.getElem?_take_of_lt u,vo B t (by rw[h];exact u),sS];have O:t<D.size:=by rw[F];exact g7 u (fH 3 G)
   have T:=get_flatK ki 3 B.toArray t (by simpa[h]using u);have U:(flatK ki 3 B.toArray).size=Io l*3:=by simp[h]
   unfold putCells;rw[Array.getElem?_mapIdx,tB O];simp only[yZ,aO,ek,U,u,and_self,if_true,Nat.sub_zero,T,id_eq];simp
  ·rw[eC sg,eC (by rw[Dl,h];omega)]
 ·unfold sortWorldK grow putRowK;simp[Sort.ahead]
theorem ST(p:Option Addr)(c:Nat)(h:Value)(w:World):Calls Tryz.prog 121 #[.slice p 0 c,h] w λe o=>e=.returned (.tuple #[])/\o=w:=
 AnyF.slices_SortFunc_none {Tryz.sortVal with} p c h w
theorem zec:∀E:List ((Int×Int×zD)×MapEntry),(∀p∈E,aU p.1=Q3)->∃l:List V3,l.map (·.1)=E.map (·.1)/\l.flatMap ki=Ln E
 |[],_=>⟨[],rfl,rfl⟩
 | p::E,h=>by
  obtain⟨l,o,u⟩:=zec E λq z=>h q (mO _ z)
  refine⟨⟨p.1,h p uG⟩::l,by simp[o],?_⟩;rw[List.flatMap_cons,u];rfl
def ZI(w1:World)(h:Array MapEntry)(v:Value)(o:World):Prop:=
 ∃(E:List ((Int×Int×zD)×MapEntry))(l:List V3),(∀p∈E,p.2∈h.toList/\p.2.key=dT p.1)/\(∀x∈h.toList,x.born∈E.map λp=>p.2.born)/\(E.map λp=>p.2.born).Nodup/\l.map (·.1)=E.map (·.1)/\
  o.ownsRow w1.heap.size 27 3 v (Io l) ((l.mergeSort λx y=>!(ltOf KK) y x).flatMap ki)/\RowKit.Below w1.heap.size w1 o
theorem R5[Inhabited V3]{w1 wr:World}{r C:Nat}{h:Array MapEntry}{v:Value}{z:Array Nat}{E:List ((Int×Int×zD)×MapEntry)}(u:zew w1 r C h v wr z E)(S:(leftOf h z).size=0)(Y:∀p∈E,aU p.1=Q3)(Z:h.size<=1000):
  Calls Tryz.prog 121 #[v,.func (.func 122) #[] #[]] wr λe M=>e=.returned (.tuple #[])/\ZI w1 h v M:=by
 obtain⟨l,J,W⟩:=zec E Y;have D:Io l=Io E:=by simpa using congrArg Io J
 have B:∀x∈h.toList,x.born∈E.map λp=>p.2.born:=λx hx=>by
  have:=all_seen h z S x hx;rw[<-u.sn];simpa using this
 have o:=u.row;rw[<-W,<-D]at o;obtain⟨c0,X,_⟩:=u.it;have L:w1.heap.size<=wr.heap.size:=u.bel.size;by_cases F:l=[]
 ·subst F;have hv:∃p c,v=.slice p 0 c:=by
   rcases o.2 with⟨rfl,_⟩|⟨g,G,H,rfl,_⟩
   ·exact⟨_,_,rfl⟩
   ·exact⟨_,_,rfl⟩
  obtain⟨p,c,rfl⟩:=hv;refine(ST p c _ wr).mono ?_;rintro e M ⟨rfl,rfl⟩;exact⟨rfl,E,[],u.sub,B,u.nd,J,by simpa using o,u.bel⟩
 ·refine(Xm o (by have:=u.cnt;omega) F).mono ?_;rintro e M ⟨rfl,T,U⟩;refine⟨rfl,E,l,u.sub,B,u.nd,J,T,u.bel.grown U L λk O=>?_⟩;rcases o.2 with⟨rfl,_⟩|⟨g,G,H,rfl,I,_⟩
  ·simp[Value.ownBlock]at O
  ·have:g=k:=by simpa[Value.ownBlock]using O
   exact this▸I
theorem SP(x y z:V3)(h:ltOf KK x y=Q4)(g:ltOf KK y z=Q4):ltOf KK x z=Q4:=by
 simp only[ltOf,decide_eq_false_iff_not]at h g⊢;intro o;rcases kX x.2 y.2 h with e|e
 ·unfold KK at o;rw[e]at o;exact g o
 ·exact g (gn (a:=y.1) (b:=x.1) (c:=z.1) e o)
theorem SO(x y:V3):(!(ltOf KK y x)||!(ltOf KK x y))=Q3:=by
 by_cases h:xf y.1 x.1
 ·have:ltOf KK x y=Q4:=by
   simp only[ltOf,decide_eq_false_iff_not];exact λg=>g5 (a:=y.1) (gn (a:=y.1) (b:=x.1) (c:=y.1) h g)
  simp[this]
 ·have:ltOf KK y x=Q4:=by
   simp only[ltOf,decide_eq_false_iff_not];exact h
  simp[this]
theorem O2(l:List V3)(B:(l.map (·.1)).Nodup) (z:∀x∈l,x.1.1≠0):(l.mergeSort λx y=>!(ltOf KK) y x).map (·.1)=ir (l.map (·.1)):=by
 by_cases o:l=[]
 ·subst o;simp[ir]
 ·refine Yc ?_ ((List.mergeSort_perm l _).map _) ?_
  ·have u:l.map (·.1)≠[]:=by simpa using o
   simp only[qZ,aE,ep,aQ,bne_iff_ne,ne_eq];refine⟨⟨λx C=>?_,B⟩,by simpa using o⟩;obtain⟨y,D,rfl⟩:=bd.1 C;exact⟨y.2,z y D⟩
  ·rw[List.pairwise_map];refine(List.pairwise_mergeSort (λa b c h g=>?_) (λa b=>SO a b) l).imp λ{x y} h=>?_
   ·simp only[sT]at h g⊢;exact SP c b a g h
   ·simp only[ltOf,sT,decide_eq_false_iff_not]at h;exact h
theorem KR(es:List ((Int×Int×zD)×Int))(k:Int×Int×zD):List.Sublist (xt es k) es:=by
 unfold xt;split
 ·exact List.eraseIdx_sublist _ _
 ·exact List.Sublist.refl _
theorem yS(k:Int×Int×zD):∀(es:List ((Int×Int×zD)×Int))(i:Nat),(cw es k i).map (·.1)=(cw es k 0).map (λq=>q.1+i)
 |[],_=>rfl
 | p::r,i=>by
  unfold cw;cases k==p.1 with
  |true=>simp
  | false=>
   simp only[ao];have u:=yS k r (i+1);have o:=yS k r 1;rw[u];cases h:cw r k 0 with
   |none=>rw[h]at o;cases z:cw r k (0+1)<;>simp_all
   | some q=>
    rw[h]at o;cases z:cw r k (0+1)with
    |none=>simp_all
    |some B=>simp_all;omega
theorem R9(p:(Int×Int×zD)×Int)(r:List ((Int×Int×zD)×Int))(k:Int×Int×zD):xt (p::r) k=if k=p.1 then r else p::xt r k:=by
 unfold xt;by_cases h:k=p.1
 ·simp[cw,h]
 ·have z:(k==p.1)=Q4:=by simpa using h
  rw[if_neg h];simp only[cw,z,ao];have:=yS k r 1;cases u:cw r k (0+1)with
  | none=>
   rw[u]at this;cases o:cw r k 0 with
   |none=>rfl
   |some q=>rw[o]at this;simp at this
  | some q=>
   rw[u]at this;cases o:cw r k 0 with
   |none=>rw[o]at this;simp at this
   | some B=>
    rw[o]at this;have e:q.1=B.1+1:=by simpa using this
    simp[e]
theorem CL(k:Int×Int×zD):∀{es:List ((Int×Int×zD)×Int)},(es.map (·.1)).Nodup->∀x,x∈(xt es k).map (·.1)↔x∈es.map (·.1)/\x≠k
 |[],_,x=>by simp[xt,cw]
 | p::r,hn,x=>by
  rw[iZ,List.nodup_cons]at hn;rw[R9];split
  ·rename_i h;subst h;rw[iZ,bL];refine⟨λo=>⟨.inr o,λe=>hn.1 (e▸o)⟩,λ⟨h,u⟩=>h.resolve_left u⟩
  ·rename_i h;rw[iZ,bL,iZ,bL,CL k hn.2 x];refine⟨λo=>?_,λ⟨o,u⟩=>o.imp id λo=>⟨o,u⟩⟩;rcases o with rfl|o
   ·exact⟨.inl rfl,λe=>h e.symm⟩
   ·exact⟨.inr o.1,o.2⟩
theorem yl{α β:Type}{f:α->β}:∀{l:List α},(l.map f).Nodup->∀{a b:α},a∈l->b∈l->f a=f b->a=b
 |[],_,_,_,u,_,_=>by cases u
 | x::r,hn,a,b,u,hb,e=>by
  rw[iZ,List.nodup_cons]at hn;rcases bL.1 u with o|o
  ·rcases bL.1 hb with h|h
   ·rw[o,h]
   ·exact absurd (show f x∈r.map f from bd.2 ⟨b,h,by rw[<-e,o]⟩) hn.1
  ·rcases bL.1 hb with h|h
   ·exact absurd (show f x∈r.map f from bd.2 ⟨a,o,by rw[e,h]⟩) hn.1
   ·exact yl hn.2 o h e
theorem L4:∀{l m:List Nat},l.Nodup->(∀x∈l,x∈m)->Io l<=Io m
 |[],m,_,_=>by simp
 | a::r,m,hn,h=>by
  rw[List.nodup_cons]at hn;have o:=h a uG;have z:=L4 (l:=r) (m:=m.erase a) hn.2 λx u=>(List.mem_erase_of_ne (λe:x=a=>hn.1 (e▸u))).2 (h x (mO _ u))
  have B:=List.length_erase_of_mem o;have C:=List.length_pos_of_mem o;rw[dU];omega
theorem WE{v:Sem ze}(h:aU v=Q3)(o:v.1=0):v=(0,0,[]):=by
 obtain⟨k,n,s⟩:=v;subst o;unfold aU at h;simp at h;simp[h]
theorem pV{a b:Int×Int×zD}(h:dT a=dT b):a=b:=by
 obtain⟨o,u,z⟩:=a;obtain⟨B,C,D⟩:=b;simpa[dT]using h
theorem Ma{h:Array MapEntry}{o:List ((Int×Int×zD)×Int)}(u:(h.toList.map λe=>(e.key,e.val))=CY Q3 o):h.toList.map (·.key)=(o.map (·.1)).map dT:=by
 have:=congrArg (List.map Prod.fst) u;simpa[CY,pM,uH]using this
theorem tD{l m:List (Sem ze)}(u:∀x∈l,aU x=Q3)(z:∀x∈m,aU x=Q3)(h:∀x,x.1≠0->(x∈l↔x∈m)):ir l=ir m:=by
 obtain⟨B,C⟩:=nS u;obtain⟨D,E⟩:=nS z;refine JJ B D λx=>?_
 rw[C,E];exact⟨λo=>⟨(h x o.2).1 o.1,o.2⟩,λo=>⟨(h x o.2).2 o.1,o.2⟩⟩
theorem SH{o:Array MapEntry}{u:List ((Int×Int×zD)×Int)}(he:(o.toList.map λe=>(e.key,e.val))=CY Q3 u)(hn:(u.map (·.1)).Nodup) (Z:∀p∈u,aU p.1=Q3) (h0:∀p∈u,p.1.1≠0)
  {E:List ((Int×Int×zD)×MapEntry)} (B:∀p∈E,p.2∈o.toList/\p.2.key=dT p.1) (H:∀x∈o.toList,x.born∈E.map λp=>p.2.born) (X:(E.map λp=>p.2.born).Nodup) (J:(o.toList.map (·.born)).Nodup) {l:List V3} (U:l.map (·.1)=E.map (·.1)):
  (l.mergeSort λx y=>!(ltOf KK) y x).map (·.1)=ir (u.map (·.1)):=by
 have M:=Ma he;have T:(o.toList.map (·.key)).Nodup:=by
  rw[M];exact List.Pairwise.map _ (λa b h e=>h (pV e)) hn
 have C:∀p∈E,p.1∈u.map (·.1):=λp hp=>by
  obtain⟨h1,h2⟩:=B p hp;have:p.2.key∈o.toList.map (·.key):=bd.2 ⟨_,h1,rfl⟩;rw[M,h2]at this;obtain⟨k,O,S⟩:=bd.1 this;exact pV S▸O
 have W:(E.map (·.1)).Nodup:=by
  unfold List.Nodup at X⊢;rw[List.pairwise_map]at X⊢;refine X.imp_of_mem λ{p q} hp F h e=>h ?_
  obtain⟨Y,G⟩:=B p hp;obtain⟨q1,q2⟩:=B q F;have:p.2.key=q.2.key:=by rw[G,q2,e]
  rw[yl T Y q1 this]
 rw[O2 l (by rw[U];exact W) (λx z=>by
  have:x.1∈E.map (·.1):=by rw[<-U];exact bd.2 ⟨x,z,rfl⟩
  obtain⟨p,hp,e⟩:=bd.1 this;obtain⟨q,F,I⟩:=bd.1 (C p hp);rw[<-e,<-I];exact h0 q F),U]
 refine tD (λx z=>?_) (λx z=>?_) λx _=>⟨λz=>?_,λz=>?_⟩
 ·obtain⟨p,hp,rfl⟩:=bd.1 z;obtain⟨q,F,I⟩:=bd.1 (C p hp);exact I▸Z q F
 ·obtain⟨p,hp,rfl⟩:=bd.1 z;exact Z p hp
 ·obtain⟨p,hp,rfl⟩:=bd.1 z;exact C p hp
 ·have:dT x∈o.toList.map (·.key):=by rw[M];exact bd.2 ⟨x,z,rfl⟩
  obtain⟨e,D,L⟩:=bd.1 this;obtain⟨p,hp,hb⟩:=bd.1 (H e D);obtain⟨Y,G⟩:=B p hp;have:p.2=e:=yl J Y D hb;rw[this,L]at G;exact bd.2 ⟨p,hp,(pV G).symm⟩
end
end Cad
