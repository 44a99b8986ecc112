/- Few of anything. -/
import Derived.Test.YtjfdpfapcmcncaaGreatDoorH16
import Derived.Maps.RangeWalk
import Derived.LoopTactic
import Derived.Shelf.SlSortCmp.NoneTotal
namespace Cad
open Go Go.Proofs
open List renaming length→Io
open IntKind renaming wrap→Γ,i64→Δ
open Tr renaming chk→Qc,«to»→Q9,val→Q8
open AV renaming nils→Qb
open AO renaming box→Qa
open Sh renaming str→Q6,expr→Q5
open Bool renaming false→Q4,true→Q3
open Option renaming some→Q1
open Decidable renaming decide→Q0
open Int (toNat)
open List (getD)
open Tr (chk br re)
open AV (nils agg tup ptr kb str sl)
noncomputable section
set_option maxHeartbeats 4000000
def HX(l h:List (Sem (.sl ze))):Prop:=Io h<=201/\∀r∈h,∃o∈l,r=mi o
theorem zq6(n:Nat)(u:Int)(J:u<=201)(S:0<=u)(z:zm cpR)(G:zm zg1)(t:Sem zo)(L:300<=n):∃o:List (Sem (.sl ze)),HX z.1.2 o/\∃r,dh Tp n (.h6 u 0 z G (t,[],()))=Q1 r/\aI r.2 [zh] r.1=Q1 (((t,o):Sem zh),()):=by
 obtain⟨N,H⟩:∃N:Nat,u=(N:Int):=⟨toNat u,ow⟩;have h:=dz (t:=Tp) (β:=List (Sem (.sl ze))) (min N (Io z.1.2)) (λb i=>.h6 u (i:Int) z G (t,b,())) (λb i=>Io b=i/\∀r∈b,∃M∈z.1.2,r=mi M) (λr=>∃o:List (Sem (.sl ze)),HX z.1.2 o/\aI r.2 [zh] r.1=Q1 (((t,o):Sem zh),())) 1 (by
   intro b i T C;have D:(i:Int)<(Io z.1.2:Int):=by omega
   have E:(i:Int)<u:=by omega
   have F:zJ (i:Int) (Io z.1.2)=Q3:=zt ow;refine Or.inl ⟨b++[mi (getD z.1.2 (i:Int).toNat (zi ze.sl))],⟨by simp[C.1],λr B=>?_⟩,?_⟩
   ·rcases cG.1 B with B|B
    ·exact C.2 r B
    ·rw[eC]at B;refine⟨_,?_,B⟩;rw[aD,aU,zU ow,dv];exact aP _
   simp only[Tp,Q8,zx D,zx E,zY,if_true,F];rw[zr i um,if_pos sg]) (by
   intro b n C L;obtain⟨n,rfl⟩:∃k,n=k+1:=⟨n-1,ow⟩;rw[cO];have I:(cond (Q0 (((min N (Io z.1.2):Nat):Int)<(Io z.1.2:Int))) (Q0 (((min N (Io z.1.2):Nat):Int)<u)) Q4)=Q4:=by
    by_cases h:N<=Io z.1.2
    ·rw[F6 h,H];simp
    ·rw[F5 ow];simp
   simp only[Tp,Q8,I];refine⟨_,rfl,b,⟨by have:=C.1;omega,C.2⟩,?_⟩;obtain⟨t0,U,W,X,Y,O⟩:=t;cases O;rfl) (min N (Io z.1.2)) 0 [] n rfl (aQ _) ⟨rfl,sw⟩ ow
 obtain⟨r,D,o,E,F⟩:=h;exact⟨o,E,r,D,F⟩
theorem LY(x:Sem zh):∃h:List (Sem (.sl ze)),HX x.2 h/\Dz x=Q1 (((E6 x.1,h):Sem zh),()):=by
 have e:E6 (x.1.1,x.1.2.1,x.1.2.2.1,x.1.2.2.2.1,x.1.t.1,zl x.1.t.2)=E6 x.1:=by rw[zk]
 have o:∃k:Int,0<=k/\k<=201/\(zhx x).val=Q1 (.inl (.h6 k 0 (x,()) ([],0,[],0,0,[],[],()) (E6 x.1,[],()))):=by
  simp only[zhx,Q8,e];split
  ·exact⟨201,ow,ow,rfl⟩
  ·exact⟨40,ow,ow,rfl⟩
 obtain⟨k,C,D,o⟩:=o;obtain⟨h,u,r,z,B⟩:=zq6 100000000 k D C (x,()) ([],0,[],0,0,[],[],()) (E6 x.1) ow;refine⟨h,u,?_⟩;unfold Dz an dd;rw[o];show(dh Tp 100000000 _).bind _=_;rw[z];exact B
theorem LW(x:Sem zh):Oq x=Q3:=by
 obtain⟨h,u,o⟩:=LY x;unfold Oq;rw[o];rfl
theorem Ww(u:List (Sem zh)):∃o:List (Sem zh),DA u=Q1 (o,())/\Io o<=13/\∀x∈o,∃y∈u,x=AC y:=by
 have h:=dz (t:=t7p) (β:=List (Sem zh)) (min 13 (Io u)) (λb i=>.h3 u (i:Int) b) (λb i=>Io b=i/\∀x∈b,∃y∈u,x=AC y) (λr=>∃o:List (Sem zh),aI r.2 [zh.sl] r.1=Q1 (o,())/\Io o<=13/\∀x∈o,∃y∈u,x=AC y) 1 (by
   intro b i I B;have C:(i:Int)<(Io u:Int):=by omega
   have E:(i:Int)<13:=by omega
   have F:zJ (i:Int) (Io u)=Q3:=zt ow;refine Or.inl ⟨b++[AC (u.getD (i:Int).toNat (zi zh))],⟨by simp[B.1],?_⟩,?_⟩
   ·intro x z;rcases cG.1 z with z|z
    ·exact B.2 x z
    ·rw[eC]at z;refine⟨_,?_,z⟩;rw[aD,aU,zU ow,dv];exact aP _
   ·simp only[t7p,Q8,zx C,zx E,zY,if_true,F,zk,Prod.eta,LW];rw[zr i um,if_pos sg]) (by
   intro b n B J;obtain⟨n,rfl⟩:∃k,n=k+1:=⟨n-1,ow⟩;rw[cO];have H:(cond (Q0 (((min 13 (Io u):Nat):Int)<(Io u:Int))) (Q0 (((min 13 (Io u):Nat):Int)<13)) Q4)=Q4:=by
    by_cases h:13<=Io u
    ·rw[F6 h];simp
    ·rw[F5 ow];simp
   simp only[t7p,Q8,H];exact⟨_,rfl,b,rfl,ow,B.2⟩) (min 13 (Io u)) 0 [] 100000000 rfl (aQ _) ⟨rfl,sw⟩ ow
 obtain⟨r,C,o,E,F,G⟩:=h;refine⟨o,?_,F,G⟩;unfold DA an dd;simp only[i7p,Q8];have D:dh t7p 100000000 (.h3 u 0 [])=Q1 r:=C;rw[D];exact E
theorem ky(s:zD):fB s=Q3:=by
 unfold fB;split
 ·rename_i h;have:20<Io s:=by simp at h;omega
  rw[if_pos sg]
 ·rfl
theorem eM(s:zD):(di s).length<=20:=by
 unfold di;split
 ·simp;omega
 ·rename_i h;have:¬20<Io s:=by simp at h;omega
  omega
theorem pj:∀(l:List zD)(i:Int)(acc:List zD),(Io acc:Int)<=i->fN l i acc=Q3
 |[],_,_,_=>rfl
 | x::r,i,acc,h=>by
  rw[fN];split
  ·rename_i o;simp only[aN]at o;rw[if_pos (ky x),if_pos sg];exact pj r (i+1) _ sg
  ·rfl
theorem FC(l:List zD):qo l=Q3:=pj l 0 [] sw
theorem te:∀(l:List zD)(i:Int)(acc:List zD),(Io acc:Int)<=i->Io acc<=10->(∀x∈acc,Io x<=20)->Io (eH l i acc)<=10/\∀x∈eH l i acc,Io x<=20
 |[],_,acc,_,h,u=>⟨h,u⟩
 | x::r,i,acc,h,hl,u=>by
  rw[eH];split
  ·rename_i z;simp only[aN]at z;refine te r (i+1) _ sg sg (λy o=>?_);rcases cG.1 o with o|o
   ·exact u y o
   ·rw[eC]at o;rw[o];exact eM x
  ·exact⟨hl,u⟩
theorem AB(l:List zD):Io (kx l)<=10/\∀x∈kx l,Io x<=20:=te l 0 [] sw sw sw
theorem zbE(s:zD):(jA s).length<=20:=by
 unfold jA;split
 ·simp;omega
 ·rename_i h;simp at h;omega
theorem SO(l:List (Sem zj)):Io (jS l)<=10/\∀x∈jS l,Io x.1<=20:=by
 refine⟨by show((List.take 9 l).map _).length<=10;rw[cA,o9];omega,λc h=>?_⟩;obtain⟨x,_,rfl⟩:=bc.1 h;exact zbE x.1
theorem SQ(l:List (Sem ze)):Io (mi l)<=14:=by
 show((List.take 14 l).map _).length<=14;rw[cA,o9];omega
theorem Ih(e:zf):sG 16 (e8 e)=Q3:=by
 obtain⟨r,m,u,z⟩:=ID (P:=λN _ r=>sG N r=Q3) (λN e o t s l B D _ _=>by
  show(Q0 (Io l<=1073741824)&&l.all (sG N))=Q3;rw[en.2 λy C=>by obtain⟨_,_,h⟩:=B y C;exact h];simp;omega) 16 e 14 80 ow ow ow
 unfold e8;rw[zf.eta,show sH 16 e 14 80=(r,m) by unfold sH;rw[u];rfl];exact z
structure Nn (s:Sem zn):Prop where
 sh:mA s
 cp:sG 16 s.t.t.1=Q3
def F3I(h:zm pC)(i:Nat)(z:zm Uy):Prop:=Io z.1<=20/\Io z.2.1<=20/\Io z.2.2.1<=20/\(Io z.2.2.2.1<=10/\∀x∈z.2.2.2.1,Io x<=20)/\(Io z.t.1<=10/\∀x∈z.t.1,Io x.1<=20)/\Io z.t.2.1<=20/\
 (Io z.t.q.1<=10/\∀x∈z.t.q.1,Io x<=20)/\(Io z.t.q.2.1=i/\∀x∈z.t.q.2.1,Io x.1<=20/\Io x.2<=20)/\sG 16 z.t.t.1=Q3/\Io z.t.t.2.1<=14/\Io z.t.t.q.2.1<=20/\
 z.t.t.1=e8 h.1.t.t.1/\z.t.t.2.1=mi h.1.t.t.2.1/\z.t.t.q.1=e8 h.1.t.t.q.2.1
def F7I(h:zm pC)(i:Nat)(z:zm Uz):Prop:=Io z.1<=20/\Io z.2.1<=20/\Io z.2.2.1<=20/\(Io z.2.2.2.1<=10/\∀x∈z.2.2.2.1,Io x<=20)/\(Io z.t.1<=10/\∀x∈z.t.1,Io x.1<=20)/\Io z.t.2.1<=20/\
 (Io z.t.q.1<=10/\∀x∈z.t.q.1,Io x<=20)/\(Io z.t.q.2.1<=10/\∀x∈z.t.q.2.1,Io x.1<=20/\Io x.2<=20)/\sG 16 z.t.t.1=Q3/\Io z.t.t.2.1<=14/\
 (Io z.t.t.q.1=i/\∀x∈z.t.t.q.1,Io x.1<=20/\∃y∈h.1.t.t.q.1,x.2=e8 y.2)/\Io z.t.t.t.1<=20/\
 z.t.t.1=e8 h.1.t.t.1/\z.t.t.2.1=mi h.1.t.t.2.1/\z.t.t.q.2.1=e8 h.1.t.t.q.2.1
structure zc5 (s0 s:Sem zn):Prop where
 chk:s.t.t.1=e8 s0.t.t.1
 row:s.t.t.2.1=mi s0.t.t.2.1
 whr:s.t.t.q.2.1=e8 s0.t.t.q.2.1
 sets:∀x∈s.t.t.q.1,∃y∈s0.t.t.q.1,(x:Sem ij).2=e8 (y:Sem ij).2
def ZJ(h:Sem zn)(r:aw):Prop:=∃s:Sem zn,aI r.2 [zn] r.1=Q1 (s,())/\Nn s/\zc5 h s
theorem fs7(u:zm pC)(L:zm jk)(z:zm Uz)(Z:F7I u 0 z)(n:Nat)(Y:20<=n):∃r,dh t8p n (.h7 0 u L z)=Q1 r/\ZJ u.1 r:=by
 refine dz (t:=t8p) (β:=zm Uz) (min 10 (Io u.1.t.t.q.1)) (λz i=>.h7 (i:Int) u L z) (λz i=>F7I u i z) (ZJ u.1) 1 ?_ ?_ (min 10 (Io u.1.t.t.q.1)) 0 z n rfl (aQ _) Z ow
 ·intro z i hi J;obtain⟨O,S,T,E,F,U,G,H,I,W,B,D,C⟩:=J;have k1:(i:Int)<(Io u.1.t.t.q.1:Int):=by omega
  have k2:(i:Int)<10:=by omega
  have k3:zJ (i:Int) (Io u.1.t.t.q.1)=Q3:=zt ow;refine Or.inl ⟨(z.1,z.2.1,z.2.2.1,z.2.2.2.1,z.t.1,z.t.2.1,z.t.q.1,z.t.q.2.1,z.t.t.1,z.t.t.2.1,z.t.t.q.1++[(di (getD u.1.t.t.q.1 (i:Int).toNat (zi ij)).1,zl (e8 (zl (getD u.1.t.t.q.1 (i:Int).toNat (zi ij)).2)))],z.t.t.q.2),⟨O,S,T,E,F,U,G,H,I,W,?_,D,C⟩,?_⟩;rotate_left 1
  ·simp only[t8p,Q8,zx k1,zx k2,zY,if_true,k3,ky];rw[zr i um,if_pos (by have:=B.1;simp;omega)]
  ·refine⟨?_,λx o=>?_⟩
   ·simp[B.1]
   ·rcases cG.1 o with o|o
    ·exact B.2 x o
    ·rw[eC]at o;rw[o];exact⟨eM _,_,vo _ (zi ij) (by simpa using(show i<_ by omega)),by simp only[zk,aD]⟩
 ·intro z n J Y;obtain⟨n,rfl⟩:∃k,n=k+1:=⟨n-1,ow⟩;obtain⟨O,S,T,E,F,U,G,H,I,W,B,D,C⟩:=J;rw[cO];have X:(cond (Q0 (((min 10 (Io u.1.t.t.q.1):Nat):Int)<(Io u.1.t.t.q.1:Int))) (Q0 (((min 10 (Io u.1.t.t.q.1):Nat):Int)<10)) Q4)=Q4:=by
   by_cases h:10<=Io u.1.t.t.q.1
   ·rw[F6 h];simp
   ·rw[F5 ow];simp
  simp only[t8p,Q8,X];refine⟨_,rfl,(z.1,z.2.1,z.2.2.1,z.2.2.2.1,z.t.1,z.t.2.1,z.t.q.1,z.t.q.2.1,z.t.t.1,z.t.t.2.1,z.t.t.q.1,z.t.t.q.2.1,z.t.t.t.1),?_,⟨?_,I⟩,⟨C.1,C.2.1,C.2.2,λx o=>(B.2 x o).2⟩⟩
  ·obtain⟨u,L,z2,z3,z4,z5,z6,z7,z8,z9,x0,M,x1,x2⟩:=z;cases z8;cases M;rfl
  ·refine⟨by show Io z.1<=_;omega,by show Io z.2.1<=_;omega,by show Io z.2.2.1<=_;omega,⟨by have:=E.1;show Io z.2.2.2.1<=_;omega,λx o=>by have:=E.2 x o;omega⟩,⟨by have:=F.1;show Io z.t.1<=_;omega,λx o=>by have:=F.2 x o;omega⟩,by show Io z.t.2.1<=_;omega,⟨by have:=G.1;show Io z.t.q.1<=_;omega,λx o=>by have:=G.2 x o;omega⟩,⟨by have:=H.1;show Io z.t.q.2.1<=_;omega,λx o=>by have:=H.2 x o;omega⟩,by show Io z.t.t.2.1<=_;omega,⟨by have:=B.1;show Io z.t.t.q.1<=_;omega,λx o=>by have:=(B.2 x o).1;omega⟩,by show Io z.t.t.t.1<=_;omega⟩
theorem fs3(o:zm pC)(S:zm jk)(z:zm Uy)(X:F3I o 0 z)(n:Nat)(W:40<=n):∃r,dh t8p n (.h3 0 o S z)=Q1 r/\ZJ o.1 r:=by
 refine dz (t:=t8p) (β:=zm Uy) (min 10 (Io o.1.t.q.2.1)) (λz i=>.h3 (i:Int) o S z) (λz i=>F3I o i z) (ZJ o.1) 21 ?_ ?_ (min 10 (Io o.1.t.q.2.1)) 0 z n rfl (aQ _) X ow
 ·intro z i hi O;obtain⟨C,D,G,H,I,J,L,u,M⟩:=O;have Y:(i:Int)<(Io o.1.t.q.2.1:Int):=by omega
  have Z:(i:Int)<10:=by omega
  have k3:zJ (i:Int) (Io o.1.t.q.2.1)=Q3:=zt ow;refine Or.inl ⟨(z.1,z.2.1,z.2.2.1,z.2.2.2.1,z.t.1,z.t.2.1,z.t.q.1,z.t.q.2.1++[(di (getD o.1.t.q.2.1 (i:Int).toNat (zi jf)).1,di (getD o.1.t.q.2.1 (i:Int).toNat (zi jf)).2)],z.t.t),⟨C,D,G,H,I,J,L,?_,M⟩,?_⟩;rotate_left 1
  ·simp only[t8p,Q8,zx Y,zx Z,zY,if_true,k3,ky];rw[zr i um,if_pos (by have:=u.1;simp;omega)]
  ·refine⟨?_,λx B=>?_⟩
   ·simp[u.1]
   ·rcases cG.1 B with B|B
    ·exact u.2 x B
    ·rw[eC]at B;rw[B];exact⟨eM _,eM _⟩
 ·intro z n O W;obtain⟨n,rfl⟩:∃k,n=k+1:=⟨n-1,ow⟩;obtain⟨C,D,G,H,I,J,L,u,M,T,E,F⟩:=O;rw[cO];have U:(cond (Q0 (((min 10 (Io o.1.t.q.2.1):Nat):Int)<(Io o.1.t.q.2.1:Int))) (Q0 (((min 10 (Io o.1.t.q.2.1):Nat):Int)<10)) Q4)=Q4:=by
   by_cases h:10<=Io o.1.t.q.2.1
   ·rw[F6 h];simp
   ·rw[F5 ow];simp
  simp only[t8p,Q8,U];exact fs7 o S _ ⟨C,D,G,H,I,J,L,⟨by have:=u.1;show Io z.t.q.2.1<=_;omega,u.2⟩,M,T,⟨rfl,sw⟩,E,F⟩ n ow
theorem Oo(s:Sem zn):∃h:Sem zn,yf s=Q1 (h,())/\Nn h/\zc5 s h:=by
 unfold yf an dd;simp only[i8p,Q8,ky,FC,if_true]
 obtain⟨r,o,h,u,z⟩:=fs3 (s,()) ([],[],[],[],[],0,0,[],[],[],0,0,[],[],[],()) (di s.1,di s.2.1,di s.2.2.1,kx s.2.2.2.1,jS s.t.1,
  di s.t.2.1,kx s.t.q.1,[],e8 (zl s.t.t.1),mi s.t.t.2.1,e8 (zl s.t.t.q.2.1),di s.t.t.t,())
  ⟨eM _,eM _,eM _,AB _,SO _,eM _,AB _,⟨rfl,sw⟩,Ih _,SQ _,eM _,by simp only[zk],rfl,by simp only[zk]⟩ 100000000 ow
 refine⟨h,?_,z⟩;rw[o];exact u
abbrev aA(db:List (Sem zh))(s:zD):Sem zh:=getD db (toNat (zX db s)) (zi zh)
def FP(o:List (Sem zh)):Prop:=∀x∈o,∀f∈x.1.t.1,LE.le (α:=Int) 0 (zX o f.2)/\∀h∈x.2,(zN f.1 h).1≠0->f5 (aA o f.2) (aA o f.2).1.2.2.1 (zN f.1 h)=Q3
def YD(r:aw):Prop:=r=(.kb Q4,[])
theorem ZY{db:List (Sem zh)}{x:Sem zh}{f:Sem zp}{i k:Nat}(F:LE.le (α:=Int) 0 (zX db f.2))(E:∀D∈x.2,zJ f.1 (Io D)=Q3)(G:Io x.2<=1000):
  ((∀j,j<Io x.2->(zN f.1 (getD x.2 j (zi ze.sl))).1≠0->f5 (aA db f.2) (aA db f.2).1.2.2.1 (zN f.1 (getD x.2 j (zi ze.sl)))=Q3)/\
   zL gJ (Io x.2*1) (.h11 db (zX db f.2) db (Io db:Int) (i:Int) x.1.t.1 (Io x.1.t.1:Int) (k:Int) x.2 (Io x.2:Int) ((0:Nat):Int) (x,()) (f,()))
    (.h11 db (zX db f.2) db (Io db:Int) (i:Int) x.1.t.1 (Io x.1.t.1:Int) (k:Int) x.2 (Io x.2:Int) (Io x.2:Int) (x,()) (f,())))\/
  ((¬∀j,j<Io x.2->(zN f.1 (getD x.2 j (zi ze.sl))).1≠0->f5 (aA db f.2) (aA db f.2).1.2.2.1 (zN f.1 (getD x.2 j (zi ze.sl)))=Q3)/\
   ∃r,zV gJ (Io x.2*1) (.h11 db (zX db f.2) db (Io db:Int) (i:Int) x.1.t.1 (Io x.1.t.1:Int) (k:Int) x.2 (Io x.2:Int) ((0:Nat):Int) (x,()) (f,())) r/\YD r):=by
 refine mK (t:=gJ) (Φ:=YD) 1 (λj=>.h11 db (zX db f.2) db (Io db:Int) (i:Int) x.1.t.1 (Io x.1.t.1:Int) (k:Int) x.2 (Io x.2:Int) (j:Int) (x,()) (f,())) (λj=>(zN f.1 (getD x.2 j (zi ze.sl))).1≠0->f5 (aA db f.2) (aA db f.2).1.2.2.1 (zN f.1 (getD x.2 j (zi ze.sl)))=Q3) (Io x.2) ?_;intro j B _
 have C:(gJ (.h11 db (zX db f.2) db (Io db:Int) (i:Int) x.1.t.1 (Io x.1.t.1:Int) (k:Int) x.2 (Io x.2:Int) (j:Int) (x,()) (f,()))).val=
   if(cond ((zN f.1 (getD x.2 j (zi ze.sl))).1!=0) (!f5 (aA db f.2) (aA db f.2).1.2.2.1 (zN f.1 (getD x.2 j (zi ze.sl)))) Q4)=Q3 then Q1 (.inr (.kb Q4,[]))else
   Q1 (.inl (.h11 db (zX db f.2) db (Io db:Int) (i:Int) x.1.t.1 (Io x.1.t.1:Int) (k:Int) x.2 (Io x.2:Int) ((j+1:Nat):Int) (x,()) (f,()))):=by
  show(gJ (.h11 _ _ _ _ _ _ _ _ _ _ _ _ _)).val=_;unfold gJ;simp only[zk,Q8,zE B,zt B,E _ (bN B),dH F,aD,if_true,sU];rw[if_pos (by cases((getD (getD x.2 j (zi ze.sl)) (toNat f.1) (zi ze)).1!=0)<;>rfl)];rw[zr j um]
 by_cases u:(zN f.1 (getD x.2 j (zi ze.sl))).1=0
 ·exact .inl ⟨λh=>absurd u h,zL.of (by rw[C,if_neg (by rw[u];simp)])⟩
 ·have o:((zN f.1 (getD x.2 j (zi ze.sl))).1!=0)=Q3:=by simpa using u
  by_cases z:f5 (aA db f.2) (aA db f.2).1.2.2.1 (zN f.1 (getD x.2 j (zi ze.sl)))=Q3
  ·exact .inl ⟨λ_=>z,zL.of (by rw[C,if_neg (by rw[z,o];simp)])⟩
  ·exact .inr ⟨λh=>z (h u),_,zV.of (by rw[C,if_pos (by rw[o];simpa using z)]),rfl⟩
theorem zgG{db:List (Sem zh)}{x:Sem zh}{i:Nat}(H:∀f∈x.1.t.1,∀o∈x.2,zJ f.1 (Io o)=Q3)(I:Io x.2<=1000)(J:Io x.1.t.1<=1000):
  let P:Nat->Prop:=λk=>LE.le (α:=Int) 0 (zX db (getD x.1.t.1 k (zi zp)).2)/\∀o∈x.2,(zN (getD x.1.t.1 k (zi zp)).1 o).1≠0->f5 (aA db (getD x.1.t.1 k (zi zp)).2) (aA db (getD x.1.t.1 k (zi zp)).2).1.2.2.1 (zN (getD x.1.t.1 k (zi zp)).1 o)=Q3
  ((∀k,k<Io x.1.t.1->P k)/\zL gJ (Io x.1.t.1*1002) (.h5 db db (Io db:Int) (i:Int) x.1.t.1 (Io x.1.t.1:Int) ((0:Nat):Int) (x,())) (.h5 db db (Io db:Int) (i:Int) x.1.t.1 (Io x.1.t.1:Int) (Io x.1.t.1:Int) (x,())))\/
  ((¬∀k,k<Io x.1.t.1->P k)/\∃r,zV gJ (Io x.1.t.1*1002) (.h5 db db (Io db:Int) (i:Int) x.1.t.1 (Io x.1.t.1:Int) ((0:Nat):Int) (x,())) r/\YD r):=by
 intro P;refine mK (t:=gJ) (Φ:=YD) 1002 (λk=>.h5 db db (Io db:Int) (i:Int) x.1.t.1 (Io x.1.t.1:Int) (k:Int) (x,())) P (Io x.1.t.1) ?_;intro k C _
 have F:(gJ (.h5 db db (Io db:Int) (i:Int) x.1.t.1 (Io x.1.t.1:Int) (k:Int) (x,()))).val=
   if Q0 (LT.lt (α:=Int) (zX db (getD x.1.t.1 k (zi zp)).2) 0)=Q3 then Q1 (.inr (.kb Q4,[]))else
   Q1 (.inl (.h11 db (zX db (getD x.1.t.1 k (zi zp)).2) db (Io db:Int) (i:Int) x.1.t.1 (Io x.1.t.1:Int) (k:Int) x.2 (Io x.2:Int) ((0:Nat):Int) (x,()) (getD x.1.t.1 k (zi zp),()))):=by
  show(gJ (.h5 _ _ _ _ _ _ _ _)).val=_;unfold gJ;simp only[Q8,zE C,zt C,aD,if_true];rfl
 by_cases u:LE.le (α:=Int) 0 (zX db (getD x.1.t.1 k (zi zp)).2)
 ·have E:=zL.of (t:=gJ) (s:=.h5 db db (Io db:Int) (i:Int) x.1.t.1 (Io x.1.t.1:Int) (k:Int) (x,())) (by rw[F,if_neg (by rw[aN];omega)]);rcases ZY (db:=db) (x:=x) (f:=getD x.1.t.1 k (zi zp)) (i:=i) (k:=k) u (H _ (bN C)) I with⟨z,B⟩|⟨z,r,B,G⟩
  ·have D:(gJ (.h11 db (zX db (getD x.1.t.1 k (zi zp)).2) db (Io db:Int) (i:Int) x.1.t.1 (Io x.1.t.1:Int) (k:Int) x.2 (Io x.2:Int) (Io x.2:Int) (x,()) (getD x.1.t.1 k (zi zp),()))).val=
     Q1 (.inl (.h5 db db (Io db:Int) (i:Int) x.1.t.1 (Io x.1.t.1:Int) ((k+1:Nat):Int) (x,()))):=by
    show(gJ (.h11 _ _ _ _ _ _ _ _ _ _ _ _ _)).val=_;unfold gJ;simp only[Q8,zB];rw[zr k um];rfl
   refine .inl ⟨⟨u,?_⟩,((E.trans B).trans (zL.of D)).mono ow⟩;exact(az (Q:=λo=>(zN (getD x.1.t.1 k (zi zp)).1 o).1≠0->f5 (aA db (getD x.1.t.1 k (zi zp)).2) (aA db (getD x.1.t.1 k (zi zp)).2).1.2.2.1 (zN (getD x.1.t.1 k (zi zp)).1 o)=Q3)).1 z
  ·refine .inr ⟨λh=>z ?_,r,(E.ends B).mono ow,G⟩;exact(az (Q:=λo=>(zN (getD x.1.t.1 k (zi zp)).1 o).1≠0->f5 (aA db (getD x.1.t.1 k (zi zp)).2) (aA db (getD x.1.t.1 k (zi zp)).2).1.2.2.1 (zN (getD x.1.t.1 k (zi zp)).1 o)=Q3)).2 h.2
 ·exact .inr ⟨λh=>u h.1,_,(zV.of (by rw[F,if_pos (by rw[aN];omega)])).mono ow,rfl⟩
theorem KO{db:List (Sem zh)}(I:∀x∈db,∀f∈x.1.t.1,∀o∈x.2,zJ f.1 (Io o)=Q3)(J:∀x∈db,gS x)(S:Io db<=13):∃b,Be db=Q1 (b,())/\(b=Q3↔FP db):=by
 have u:=mK (t:=gJ) (Φ:=YD) 1010000 (λi=>.h2 db db (Io db:Int) (i:Int)) (λi=>∀f∈(getD db i (zi zh)).1.t.1,LE.le (α:=Int) 0 (zX db f.2)/\∀o∈(getD db i (zi zh)).2,(zN f.1 o).1≠0->f5 (aA db f.2) (aA db f.2).1.2.2.1 (zN f.1 o)=Q3) (Io db) (by
  intro i B _;have H:=bN (d:=zi zh) B;have F:=J _ H;have M:=F.rf;have O:=F.rw;have L:(gJ (.h2 db db (Io db:Int) (i:Int))).val=Q1 (.inl (.h5 db db (Io db:Int) (i:Int) (getD db i (zi zh)).1.t.1 ((getD db i (zi zh)).1.t.1.length:Int) ((0:Nat):Int) (getD db i (zi zh),()))):=by
   show(gJ (.h2 _ _ _ _)).val=_;unfold gJ;simp only[Q8,zE B,zt B,aD,if_true];rfl
  have E:=zL.of L;rcases zgG (db:=db) (x:=getD db i (zi zh)) (i:=i) (I _ H) O M with⟨u,z⟩|⟨u,r,z,C⟩
  ·have D:(gJ (.h5 db db (Io db:Int) (i:Int) (getD db i (zi zh)).1.t.1 ((getD db i (zi zh)).1.t.1.length:Int) ((getD db i (zi zh)).1.t.1.length:Int) (getD db i (zi zh),()))).val=Q1 (.inl (.h2 db db (Io db:Int) ((i+1:Nat):Int))):=by
    show(gJ (.h5 _ _ _ _ _ _ _ _)).val=_;unfold gJ;simp only[Q8,zB];rw[zr i um];rfl
   refine .inl ⟨?_,((E.trans z).trans (zL.of D)).mono ow⟩;exact(az (Q:=λf:Sem zp=>LE.le (α:=Int) 0 (zX db f.2)/\∀o∈(getD db i (zi zh)).2,(zN f.1 o).1≠0->f5 (aA db f.2) (aA db f.2).1.2.2.1 (zN f.1 o)=Q3)).1 u
  ·refine .inr ⟨λh=>u ?_,r,(E.ends z).mono ow,C⟩;exact(az (Q:=λf:Sem zp=>LE.le (α:=Int) 0 (zX db f.2)/\∀o∈(getD db i (zi zh)).2,(zN f.1 o).1≠0->f5 (aA db f.2) (aA db f.2).1.2.2.1 (zN f.1 o)=Q3)).2 h)
 have G:(∀i,i<Io db->∀f∈(getD db i (zi zh)).1.t.1,LE.le (α:=Int) 0 (zX db f.2)/\∀o∈(getD db i (zi zh)).2,(zN f.1 o).1≠0->f5 (aA db f.2) (aA db f.2).1.2.2.1 (zN f.1 o)=Q3)↔FP db:=
  az (Q:=λx:Sem zh=>∀f∈x.1.t.1,LE.le (α:=Int) 0 (zX db f.2)/\∀o∈x.2,(zN f.1 o).1≠0->f5 (aA db f.2) (aA db f.2).1.2.2.1 (zN f.1 o)=Q3)
 have B:(zns db).val=Q1 (.inl (.h2 db db (Io db:Int) ((0:Nat):Int))):=rfl;rcases u with⟨u,z⟩|⟨u,r,z,C⟩
 ·refine⟨Q3,zy B (z.ends (zV.of (r:=(.kb Q3,[])) ?_)) ow rfl,λ_=>G.1 u,λ_=>rfl⟩;show(gJ (.h2 _ _ _ _)).val=_;unfold gJ;simp only[Q8,zB];rfl
 ·unfold YD at C;subst C;exact⟨Q4,zy B z ow rfl,λh=>(by cases h),λh=>absurd (G.2 h) u⟩
structure jh (db:List (Sem zh)):Prop where
 few:Io db<=12
 names:∀i,i<Io db-1->Op.bytesLess (getD db i (zi zh)).1.1 (getD db (i+1) (zi zh)).1.1=Q3
 rels:∀x∈db,dQ x
 bound:FP db
theorem dQ.cols{x:Sem zh}(h:dQ x):∀f∈x.1.t.1,∀row∈x.2,zJ f.1 (Io row)=Q3:=by
 intro f u row z;obtain⟨_,o,_,_,_⟩:=fj h.may;rw[Dl (by simpa using h.fits row z)];exact mh (o f u)
theorem Ai{o:List (Sem zh)}(X:∀x∈o,gS x):∃e:Int,uI o=Q1 (e,())/\(e=0↔jh o):=by
 by_cases Y:Io o<=12
 case neg=>
  refine⟨13,?_,λh=>(by cases h),λh=>absurd h.few Y⟩;unfold uI an dd;simp only[zaO,Q8];rw[if_pos sg];rfl
 have z:(zaO o).val=Q1 (.inl (.h4 o ((0+1:Nat):Int))):=by
  simp only[zaO,Q8];rw[if_neg sg];rfl
 have F:=mK (t:=o5) (Φ:=YC) 1 (λi=>.h4 o ((i+1:Nat):Int)) (λi=>Op.bytesLess (getD o i (zi zh)).1.1 (getD o (i+1) (zi zh)).1.1=Q3) (Io o-1) (by
  intro i z _;have Z:i<Io o:=by omega
  have U:i+1<Io o:=by omega
  have J:(o5 (.h4 o ((i+1:Nat):Int))).val=if(!Op.bytesLess (getD o i (zi zh)).1.1 (getD o (i+1) (zi zh)).1.1)=Q3 then Q1 (.inr (.int .i64 15,[]))else Q1 (.inl (.h4 o ((i+1+1:Nat):Int))):=by
   show(o5 (.h4 _ _)).val=_;unfold o5;simp only[lW i um];simp only[Q8,zE U,zt U,zt Z,aD,if_true];rw[zr (i+1) um]
  by_cases h:Op.bytesLess (getD o i (zi zh)).1.1 (getD o (i+1) (zi zh)).1.1=Q3
  ·exact .inl ⟨h,zL.of (by rw[J,if_neg (by rw[h];simp)])⟩
  ·exact .inr ⟨h,_,zV.of (by rw[J,if_pos (by simpa using h)]),15,rfl,by decide⟩)
 rcases F with⟨S,F⟩|⟨S,r,F,e,E,B⟩
 case inr=>
  subst E;exact⟨e,zy z F ow rfl,λh=>absurd h B,λh=>absurd h.names S⟩
 have T:(o5 (.h4 o ((Io o-1+1:Nat):Int))).val=Q1 (.inl (.h9 o o (Io o:Int) ((0:Nat):Int))):=by
  show(o5 (.h4 _ _)).val=_;unfold o5;simp only[Q8];rw[if_neg sg];rfl
 have M:=F.trans (zL.of T);have D:=mK (t:=o5) (Φ:=YC) 1 (λi=>.h9 o o (Io o:Int) (i:Int)) (λi=>dQ (getD o i (zi zh))) (Io o) (by
  intro i z _;obtain⟨e,E,H⟩:=MO (X _ (bN (d:=zi zh) z));have O:JH (getD o i (zi zh))=Q3:=by unfold JH;rw[E];rfl
  have C:O2 (getD o i (zi zh))=e:=by unfold O2;rw[E];rfl
  have J:(o5 (.h9 o o (Io o:Int) (i:Int))).val=if(e !=0)=Q3 then Q1 (.inr (.int .i64 e,[]))else Q1 (.inl (.h9 o o (Io o:Int) ((i+1:Nat):Int))):=by
   show(o5 (.h9 _ _ _ _)).val=_;unfold o5;simp only[zk,Q8,zE z,zt z,aD,if_true,Prod.eta,O,C];rw[zr i um]
  by_cases h:e=0
  ·exact .inl ⟨H.1 h,zL.of (by rw[J,if_neg (by rw[h];simp)])⟩
  ·exact .inr ⟨λI=>h (H.2 I),_,zV.of (by rw[J,if_pos (by simpa using h)]),e,rfl,h⟩)
 rcases D with⟨I,D⟩|⟨I,r,D,e,E,B⟩
 case inr=>
  subst E;exact⟨e,zy z (M.ends D) ow rfl,λh=>absurd h B,λh=>absurd ((az (Q:=dQ)).2 h.rels) I⟩
 have u:=(az (Q:=dQ)).1 I;obtain⟨b,W,G⟩:=KO (db:=o) (λx hx=>(u x hx).cols) X ow;have O:H5 o=Q3:=by unfold H5;rw[W];rfl
 have C:Ny o=b:=by unfold Ny;rw[W];rfl
 have L:(o5 (.h9 o o (Io o:Int) (Io o:Int))).val=if(!b)=Q3 then Q1 (.inr (.int .i64 10,[]))else Q1 (.inr (.int .i64 0,[])):=by
  show(o5 (.h9 _ _ _ _)).val=_;unfold o5;simp only[Q8,zB,O,C,if_true];rfl
 by_cases h:b=Q3
 ·exact⟨0,zy z (M.ends (D.ends (zV.of (by rw[L,if_neg (by rw[h];simp)])))) ow rfl,λ_=>⟨Y,S,u,G.1 h⟩,λ_=>rfl⟩
 ·exact⟨10,zy z (M.ends (D.ends (zV.of (by rw[L,if_pos (by simpa using h)])))) ow rfl,λh=>(by cases h),λhB=>absurd (G.2 hB.bound) h⟩
theorem H6{o:List (Sem zh)}(u:∀x∈o,gS x):nV o=Q3:=by
 obtain⟨e,h,_⟩:=Ai u;unfold nV;rw[h];rfl
theorem ji{o:List (Sem zh)}(z:∀x∈o,gS x):kX o=(0:Int)↔jh o:=by
 obtain⟨e,h,u⟩:=Ai z;unfold kX;rw[h];exact u
abbrev y11(o:Sem zh.sl)(h:Sem zn):zm bm:=(o,h,([],[],0,[],[],zf.mk [] (0,0,[]) [] []),([],[],0,[],[],zf.mk [] (0,0,[]) [] []),h.1,h.2.2.1,h.t.t.t,h.2.1,0,h.t.t.1,0,())
theorem Oe(B:Sem zh.sl)(h:Sem zn):zhu B h=(let C:=nl (y11 B h)
  let o:=Hi C.2
  let u:=Hj C.2
  let z:=yh C.2
  LB B h h.t.t.1 h (!er h) (oZ h&&bif !er h then Q3 else nV B) (cond (!er h) Q3 (kX B !=0)) (sG 16 h.t.t.1) (y11 B h) (np (y11 B h)) C (C.1==0) C.2 o o.2 (fC o.2) u u.2 (fC u.2) z z.2 (fC z.2)):=by
 unfold zhu;simp only[SD,P1,zk]
abbrev Xu(z:zm au):Sem zq:=(z.t.1,z.t.2.1,z.t.q.1,(z.t.q.2.1,z.t.t.1,z.t.t.2.1,[],[],z.t.t.q.1),z.t.t.q.2.1,z.t.t.t.1)
abbrev jU:Sem zq:=([],[],[],([],[],0,[],[],zf.mk [] (0,0,[]) [] []),[],0)
def ah(db:List (Sem zh))(n:zD):Sem zo:=(getD db (toNat (zX db n)) (zi zh)).1
abbrev zsv:Sem zo:=([],[],0,[],[],zf.mk [] (0,0,[]) [] [])
def ei(db:List (Sem zh))(n:zD):Sem zo:=if n=[]then zsv else ah db n
def iy(e:Int)(p:Sem zq):Int×Sem zq:=if e=0 then(ite (wT p.2.2.2.1=0) (0,p) (wT p.2.2.2.1,jU))else(e,jU)
def cB(db:List (Sem zh))(s:Sem zn):Int×Sem zq:=
 if(s.1==cV)=Q3 then
  iy (tK (ah db s.2.2.1) s.2.2.2.1) (s.1,s.2.2.1,s.t.t.t,(s.2.1,eo (ah db s.2.2.1) s.2.2.2.1,gF (ju (ah db s.2.2.1) s.2.2.2.1) (ah db s.2.2.1).2.2.1,[],[],s.t.t.1),ju (ah db s.2.2.1) s.2.2.2.1,0)
 else if(s.1==eW)=Q3 then
  iy (fM (ah db s.2.2.1) (ei db s.t.t.t) s.t.2.1 s.t.t.t)
   (s.1,s.2.2.1,s.t.t.t,(s.2.1,(ah db s.2.2.1).2.1++fO (ei db s.t.t.t) (Io (ei db s.t.t.t).2.1),(ah db s.2.2.1).2.2.1,[],[],s.t.t.1),
    jv (ei db s.t.t.t).2.2.1 (Io (ei db s.t.t.t).2.1),zR (ah db s.2.2.1) s.t.2.1)
 else if(s.1==ku)=Q3 then
  iy (qh (ah db s.2.2.1) s.2.2.2.1) (s.1,s.2.2.1,s.t.t.t,(s.2.1,xV (ah db s.2.2.1) s.2.2.2.1,0,[],[],s.t.t.1),ju (ah db s.2.2.1) s.2.2.2.1,0)
 else(1,jU)
def aV(db:List (Sem zh))(s:Sem zn):Int×Sem zq:=
 if jQ s.1/\er s=Q3/\kX db=(0:Int)then(ite (oY db s.2.2.1 s.t.t.t s.2.1=0) (cB db s) (oY db s.2.2.1 s.t.t.t s.2.1,jU))else(1,jU)
theorem jY{s:Sem zn}(h:er s=Q3):fy s=Q3:=by
 unfold er qH at h;by_cases hp:fy s=Q3
 ·exact hp
 ·exfalso;simp only[g9]at hp;simp[hp]at h
theorem ng{db:List (Sem zh)}{s:zD}(h:(0:Int)<=zX db s):db.getD (toNat (zX db s)) (zi zh)∈db:=by
 have:=dH h;simp only[zJ,aE,aN]at this;exact vo _ _ ow
theorem EE(e:Int):aI [] [zq,zg] (tup [agg [str [],str [],str [],str [],Qb,ai 0,Qb,Qb,str [],ai 0,ai 0,str [],str [],Qb,Qb,ai 0],ai e])=Q1 (jU,e,()):=rfl
theorem ziG(z:zm au):aI [AO.vec zj z.t.t.1] [zq,zg] (tup [agg [str z.t.1,str z.t.2.1,str z.t.q.1,str z.t.q.2.1,AV.vec 0,
  ai z.t.t.2.1,Qb,Qb,str (zf.op z.t.t.q.1),ai (zf.v z.t.t.q.1).1,ai (zf.v z.t.t.q.1).2.1,str (zf.v z.t.t.q.1).2.2,str (zf.s z.t.t.q.1),sl Q5 (zf.l z.t.t.q.1),
  sl zg z.t.t.q.2.1,ai z.t.t.t.1],ai 0])=Q1 (Xu z,0,()):=by
 obtain⟨C,D,E,F,G,H,I,J,L,M,h,o,u,B⟩:=z;cases h;rfl
def PlS(h:Sem zh.sl)(o:Sem zn):Prop:=Me h o=Q1 ((aV h o).2,(aV h o).1,())
theorem yp{u:Sem zh.sl}{z:Sem zn}{o:Option (zz (List.map Q1 [zq,zg]))}{e:Int}(h:o=Q1 (jU,e,()))(hp:aV u z=(e,jU)):o=Q1 ((aV u z).2,(aV u z).1,()):=by rw[hp];exact h
theorem zbm{u:Sem zh.sl}{o:Sem zn}(E:oZ o=Q3)(D:nV u=Q3)(h:(cond (!er o) Q3 (kX u !=0))=Q3):PlS u o:=by
 have C:(oZ o&&bif !er o then Q3 else nV u)=Q3:=by rw[E,D];cases er o<;>rfl
 have hp:aV u o=(1,jU):=by
  unfold aV;rw[if_neg];rintro⟨_,z,B⟩;rw[z]at h;simp[B]at h
 refine yp ?_ hp;unfold Me an dd;rw[Oe];simp only[LB,Q8,C,h,if_true];by_cases o1:(o.1==cV)=Q3
 ·simp only[o1,if_true];rfl
 ·by_cases o2:(o.1==eW)=Q3
  ·simp only[o1,o2,if_true];rfl
  ·by_cases o3:(o.1==ku)=Q3
   ·simp only[o1,o2,o3,if_true];rfl
   ·simp only[o1,o2,o3];rfl
theorem ziB{W:Sem zh.sl}{h:Sem zn}{y:zm bm}{z:zm au}{o:List (Sem zj)}{B:Int}{E:List Int}{F:Int}(u:y.t=(y11 W h).t)(U:nQ y z)
  (D:z.t.t.q.1=y.t.t.2.1) (C:FO z o B E F):Xu z=(h.1,h.2.2.1,h.t.t.t,(h.2.1,o,B,[],[],h.t.t.1),E,F):=by
 obtain⟨_,_,_,_,G,H,I,J⟩:=U;have L:z.t.1=h.1:=by rw[G,u]
 have M:z.t.2.1=h.2.2.1:=by rw[H,u]
 have O:z.t.q.1=h.t.t.t:=by rw[I,u]
 have S:z.t.q.2.1=h.2.1:=by rw[J,u]
 have T:z.t.t.q.1=h.t.t.1:=by rw[D,u]
 show(z.t.1,z.t.2.1,z.t.q.1,(z.t.q.2.1,z.t.t.1,z.t.t.2.1,[],[],z.t.t.q.1),z.t.t.q.2.1,z.t.t.t.1)=_;rw[L,M,O,S,T,C.cols,C.key,C.ix,C.on]
theorem ziA{G:Sem zh.sl}{o:Sem zn}(x6:∀x∈G,gS x)(hl:Io G<=13)(hs:Nn o):PlS G o:=by
 by_cases hg:jQ o.1;rotate_left
 ·have o1:(o.1==cV)=Q4:=by simpa using λk=>hg (.inl k)
  have o2:(o.1==eW)=Q4:=by simpa using λk=>hg (.inr (.inl k))
  have o3:(o.1==ku)=Q4:=by simpa using λk=>hg (.inr (.inr k))
  refine yp (e:=1) ?_ (by unfold aV;rw[if_neg λh=>hg h.1]);unfold Me an dd;rw[Oe];simp only[LB,Q8,o1,o2,o3];rfl
 have hM:=M5 hs.sh hg;have hB:=H6 x6;by_cases J:(cond (!er o) Q3 (kX G !=0))=Q3
 ·exact zbm hM hB J
 have h3:(oZ o&&bif !er o then Q3 else nV G)=Q3:=by rw[hM,hB];cases er o<;>rfl
 have x4:er o=Q3:=by
  cases h:er o
  ·rw[h]at J;simp at J
  ·rfl
 have x5:kX G=(0:Int):=by
  rw[x4]at J;simpa using J
 have h7:=jY x4;have h4:=((ji x6).1 x5).rels;obtain⟨W,L,h8,k1,k2,k3,k5,k4⟩:=L5 (y11 G o) (by show Io G<=_;omega);have s8:nl (y11 G o)=(W,L):=by unfold nl;rw[h8];rfl
 have c8:np (y11 G o)=Q3:=by unfold np;rw[h8];rfl
 have k5:W=oY G o.2.2.1 o.t.t.t o.2.1:=k5;have hS:jQ o.1->aV G o=if W=0 then cB G o else(W,jU):=by
  intro h;unfold aV;rw[if_pos ⟨h,x4,x5⟩,k5]
 unfold PlS Me an dd;rw[Oe];simp only[LB,Q8,h3,J,hs.cp,s8,c8,if_true];by_cases M:W=0
 ·have U:=k4 M;have n2:L.2.1=o:=k2;have n1:L.1=G:=k1;have nk:L.t.t.1=(0:Int):=by rw[k3]
  have x7:L.t.t.q.1=(0:Int):=by rw[k3]
  have nw:L.t.q.1=o.t.t.t:=by rw[k3]
  have D:L.2.2.1=ah G o.2.2.1:=U.t.1;have S:L.2.2.2.1=ei G o.t.t.t:=U.t.2;have x2:=fj (h4 _ (ng (db:=G) (s:=o.2.2.1) U.1)).may;rw[show(getD G (toNat (zX G o.2.2.1)) (zi zh)).1=L.2.2.1 from D.symm]at x2;have x9:Io L.2.2.2.1.2.1<=100:=by
   rw[S];unfold ei;split
   ·simp
   ·rename_i hw;have:=(fj (h4 _ (ng (db:=G) (s:=o.t.t.t) (U.2.1.resolve_left hw))).may).2.2.2.1;unfold ah;omega
  have x3:(W==0)=Q3:=by simpa using M
  simp only[x3,if_true];by_cases o1:(o.1==cV)=Q3
  ·have h2:jQ o.1:=Or.inl (bG o1);obtain⟨z,E,hk,h1,O,hA⟩:=WD L (by rw[n2];have:=hs.sh.names.1;omega);rw[n2,D,x7]at hA;rw[n2,D]at E;generalize h0:tK (ah G o.2.2.1) o.2.2.2.1=B at E hA;have h5:Hi L=(B,z):=by unfold Hi;rw[E];rfl
   have X:IR L=Q3:=by unfold IR;rw[E];rfl
   have u:=hS h2;rw[if_pos M]at u;unfold cB at u;rw[if_pos o1,h0]at u;simp only[o1,h5,X,if_true];by_cases e0:B=0
   ·have hz:=ziB k3 hk h1 (hA e0);have F:=ui z O;have hT:Rm z=(Xu z).2.2.2.1:=rfl;rw[hT,hz]at F;unfold iy at u;rw[if_pos e0]at u;generalize h9:wT _=C at F u;have h6:fC z=(C,z):=by unfold fC;rw[F];rfl
    have Y:gG z=Q3:=by unfold gG;rw[F];rfl
    have H:(B==0)=Q3:=by simpa using e0
    simp only[H,h6,Y,if_true];by_cases T:C=0
    ·have I:(C !=0)=Q4:=by simp[T]
     simp only[I];rw[if_pos T]at u;rw[u];exact(ziG z).trans (by rw[hz])
    ·have I:(C !=0)=Q3:=by simpa using T
     simp only[I,if_true];rw[if_neg T]at u;exact yp (EE C) u
   ·have H:(B==0)=Q4:=by simpa using e0
    have Z:(B !=0)=Q3:=by simpa using e0
    unfold iy at u;rw[if_neg e0]at u;simp only[H,Z,if_true];exact yp (EE B) u
  ·by_cases o2:(o.1==eW)=Q3
   ·have h2:jQ o.1:=Or.inr (Or.inl (bG o2));obtain⟨z,E,hk,h1,O,hA⟩:=WE L (by have:=x2.2.2.2.1;omega) x9;rw[n2,nw,D,S]at hA;rw[n2,nw,D,S]at E;generalize h0:fM (ah G o.2.2.1) (ei G o.t.t.t) o.t.2.1 o.t.t.t=B at E hA;have h5:Hj L=(B,z):=by unfold Hj;rw[E];rfl
    have X:IV L=Q3:=by unfold IV;rw[E];rfl
    have u:=hS h2;rw[if_pos M]at u;unfold cB at u;rw[if_neg o1,if_pos o2,h0]at u;simp only[o1,o2,h5,X,if_true];by_cases e0:B=0
    ·have hz:=ziB k3 hk h1 (hA e0);have F:=ui z O;have hT:Rm z=(Xu z).2.2.2.1:=rfl;rw[hT,hz]at F;unfold iy at u;rw[if_pos e0]at u;generalize h9:wT _=C at F u;have h6:fC z=(C,z):=by unfold fC;rw[F];rfl
     have Y:gG z=Q3:=by unfold gG;rw[F];rfl
     have H:(B==0)=Q3:=by simpa using e0
     simp only[H,h6,Y,if_true];by_cases T:C=0
     ·have I:(C !=0)=Q4:=by simp[T]
      simp only[I];rw[if_pos T]at u;rw[u];exact(ziG z).trans (by rw[hz])
     ·have I:(C !=0)=Q3:=by simpa using T
      simp only[I,if_true];rw[if_neg T]at u;exact yp (EE C) u
    ·have H:(B==0)=Q4:=by simpa using e0
     have Z:(B !=0)=Q3:=by simpa using e0
     unfold iy at u;rw[if_neg e0]at u;simp only[H,Z,if_true];exact yp (EE B) u
   ·by_cases o3:(o.1==ku)=Q3
    ·have h2:jQ o.1:=Or.inr (Or.inr (bG o3));obtain⟨z,E,hk,h1,O,hA⟩:=SV L (by rw[n2];exact jP h7 (bG o3));rw[n2,D,x7,nk]at hA;rw[n2,D]at E;generalize h0:qh (ah G o.2.2.1) o.2.2.2.1=B at E hA;have h5:yh L=(B,z):=by unfold yh;rw[E];rfl
     have X:Br L=Q3:=by unfold Br;rw[E];rfl
     have u:=hS h2;rw[if_pos M]at u;unfold cB at u;rw[if_neg o1,if_neg o2,if_pos o3,h0]at u;simp only[o1,o2,o3,h5,X,if_true];by_cases e0:B=0
     ·have hz:=ziB k3 hk h1 (hA e0);have F:=ui z O;have hT:Rm z=(Xu z).2.2.2.1:=rfl;rw[hT,hz]at F;unfold iy at u;rw[if_pos e0]at u;generalize h9:wT _=C at F u;have h6:fC z=(C,z):=by unfold fC;rw[F];rfl
      have Y:gG z=Q3:=by unfold gG;rw[F];rfl
      have H:(B==0)=Q3:=by simpa using e0
      simp only[H,h6,Y,if_true];by_cases T:C=0
      ·have I:(C !=0)=Q4:=by simp[T]
       simp only[I];rw[if_pos T]at u;rw[u];exact(ziG z).trans (by rw[hz])
      ·have I:(C !=0)=Q3:=by simpa using T
       simp only[I,if_true];rw[if_neg T]at u;exact yp (EE C) u
     ·have H:(B==0)=Q4:=by simpa using e0
      have Z:(B !=0)=Q3:=by simpa using e0
      unfold iy at u;rw[if_neg e0]at u;simp only[H,Z,if_true];exact yp (EE B) u
    ·simp only[o1,o2,o3];refine yp (EE 1) ?_;unfold aV;rw[if_neg];rintro⟨h|h|h,_⟩
     ·exact o1 (bg.2 h)
     ·exact o2 (bg.2 h)
     ·exact o3 (bg.2 h)
 ·have x3:(W==0)=Q4:=by simpa using M
  have x8:(W !=0)=Q3:=by simpa using M
  have u:jQ o.1->aV G o=(W,jU):=λh=>by rw[hS h,if_neg M]
  simp only[x3,x8,if_true];by_cases o1:(o.1==cV)=Q3
  ·simp only[o1,if_true];exact yp (EE W) (u (Or.inl (bG o1)))
  ·by_cases o2:(o.1==eW)=Q3
   ·simp only[o1,o2,if_true];exact yp (EE W) (u (Or.inr (Or.inl (bG o2))))
   ·by_cases o3:(o.1==ku)=Q3
    ·simp only[o1,o2,o3,if_true];exact yp (EE W) (u (Or.inr (Or.inr (bG o3))))
    ·simp only[o1,o2,o3];refine yp (EE 1) ?_;unfold aV;rw[if_neg];rintro⟨h|h|h,_⟩
     ·exact o1 (bg.2 h)
     ·exact o2 (bg.2 h)
     ·exact o3 (bg.2 h)
set_option maxHeartbeats 1000000
theorem gK:∀{a b c:zD},Op.bytesLess a b=Q3->Op.bytesLess b c=Q3->Op.bytesLess a c=Q3
 |_,[],_,h,_=>by cases‹zD›<;>simp[Op.bytesLess]at h
 |_,_::_,[],_,h=>by simp[Op.bytesLess]at h
 |[],_::_,_::_,_,_=>rfl
 | a::x,b::y,c::z,h,g=>by
  simp only[Op.bytesLess,mQ,aN,aE,bg]at h g⊢;rcases h with h|⟨rfl,h⟩
  ·rcases g with g|⟨rfl,g⟩
   ·exact .inl (UInt8.lt_trans h g)
   ·exact .inl h
  ·rcases g with g|⟨rfl,g⟩
   ·exact .inl g
   ·exact .inr ⟨rfl,gK h g⟩
def Lx(p q:Int×Int×zD):Prop:=p.1<q.1\/(p.1=q.1/\(p.2.1<q.2.1\/(p.2.1=q.2.1/\Op.bytesLess p.2.2 q.2.2=Q3)))
theorem Lx.trans{p q r:Int×Int×zD}(h:Lx p q)(g:Lx q r):Lx p r:=by
 unfold Lx at*;rcases h with h|⟨z,h|⟨B,h⟩⟩<;>rcases g with g|⟨o,g|⟨u,g⟩⟩
 ·exact .inl ow
 ·exact .inl ow
 ·exact .inl ow
 ·exact .inl ow
 ·exact .inr ⟨ow,.inl ow⟩
 ·exact .inr ⟨ow,.inl ow⟩
 ·exact .inl ow
 ·exact .inr ⟨ow,.inl ow⟩
 ·exact .inr ⟨ow,.inr ⟨ow,gK h g⟩⟩
theorem Lx.irrefl{p:Int×Int×zD}:¬Lx p p:=by
 unfold Lx;rw[bR];rintro(h|⟨_,h|⟨_,h⟩⟩)
 ·omega
 ·omega
 ·cases h
theorem PL(a b:Int):pR a b=if a<b then -1 else if b<a then 1 else 0:=by
 show(ite ((a !=a)=Q3) _ (ite ((b !=b)=Q3) (1:Int) (ite (Q0 (a<b)=Q3) (-1) (ite (Q0 (a>b)=Q3) 1 0))))=_;simp
theorem Us(a b:Int):jO a b=if a<b then -1 else if b<a then 1 else 0:=PL a b
theorem zaq(a b:zD):(mW a b=-1/\Op.bytesLess a b=Q3)\/(mW a b=0/\a=b)\/(mW a b=1/\Op.bytesLess a b=Q4):=by
 have:mW a b=if Op.bytesLess a b=Q3 then -1 else if(!(Op.bytesLess a b||a==b))=Q3 then 1 else 0:=by
  show(ite ((!a==a)=Q3) _ (ite ((!b==b)=Q3) (1:Int) (ite (Op.bytesLess a b=Q3) (-1) (ite ((!(Op.bytesLess a b||a==b))=Q3) 1 0))))=_;simp
 rw[this];cases h:Op.bytesLess a b with
 |true=>exact .inl ⟨rfl,rfl⟩
 | false=>
  by_cases e:a=b
  ·exact .inr (.inl ⟨by simp[e],e⟩)
  ·exact .inr (.inr ⟨by simp[e],rfl⟩)
theorem ziy(k n o u:Int)(s z:zD):(FE [pR k o,jO n u,mW s z]<0)↔Lx (k,n,s) (o,u,z):=by
 show _↔(k<o\/(k=o/\(n<u\/(n=u/\Op.bytesLess s z=Q3))));rw[PL,Us];simp only[FE];have B:=bR z;rcases Cm k o with h|h|h
 ·simp[h]
 ·subst h;rcases Cm n u with g|g|g
  ·simp[g]
  ·subst g;rcases zaq s z with⟨e,f⟩|⟨e,f⟩|⟨e,f⟩
   ·simp[e,f]
   ·subst f;simp[e,B]
   ·simp[e,f]
  ·have:¬n<u:=by omega
   have:n≠u:=by omega
   simp[*]
 ·have:¬k<o:=by omega
  have:k≠o:=by omega
  simp[*]
theorem wY{a b:Sem ze}:xf a b↔Lx (ao a) (ao b):=ziy (ao a).1 (ao a).2.1 (ao b).1 (ao b).2.1 (ao a).2.2 (ao b).2.2
theorem gm{a b c:Sem ze}(h:xf a b)(g:xf b c):xf a c:=wY.2 ((wY.1 h).trans (wY.1 g))
theorem g6{a:Sem ze}:¬xf a a:=λh=>Lx.irrefl (wY.1 h)
theorem wC{α:Type}{R:α->α->Prop}(C:∀{a b c},R a b->R b c->R a c){d:α}:∀{l:List α},(∀i,i<Io l-1->R (l.getD i d) (l.getD (i+1) d))↔l.Pairwise R
 |[]=>by simp
 |[a]=>by simp
 | a::b::r=>by
  have I:=wC (R:=R) C (d:=d) (l:=b::r);constructor
  ·intro h;have o:=h 0 sw;have u:(b::r).Pairwise R:=I.1 λi z=>h (i+1) (by simp only[dR]at z⊢;omega)
   refine List.pairwise_cons.2 ⟨λx B=>?_,u⟩;rcases bL.1 B with rfl|B
   ·exact o
   ·exact C o ((List.pairwise_cons.1 u).1 x B)
  ·intro h i z;obtain⟨o,u⟩:=List.pairwise_cons.1 h;cases i with
   |zero=>exact o b sw
   |succ i=>exact I.2 u i (by simp only[dR]at z⊢;omega)
def kLt(k:Int)(a b:List (Sem ze)):Prop:=xf (zN k a) (zN k b)
theorem dQ.pw{x:Sem zh}(h:dQ x):x.2.Pairwise (kLt x.1.2.2.1):=(wC (R:=kLt x.1.2.2.1) gm).1 h.rise
theorem dQ.sub{t:Sem zo}{l z:List (List (Sem ze))}(h:dQ (t,l))(o:List.Sublist z l):dQ (t,z) where
 may:=h.may
 few:=bt o.length_le h.few
 fits:=λr B=>h.fits r (o.subset B)
 key:=List.Pairwise.sublist o h.key
 uniq:=λu C=>List.Pairwise.sublist o (h.uniq u C)
 rise:=(wC (R:=kLt t.2.2.1) gm).2 (List.Pairwise.sublist o h.pw)
theorem Hl(h:List (Sem zh))(i:Nat):(h.getD i (zi zh)).1=(h.map (·.1)).getD i (zi zh).1:=by
 rw[aU,aU,eY];cases h[i]?<;>rfl
theorem WF{o:List (Sem zh)}{i:Nat}{x:Sem zh}(h:(o.getD i (zi zh)).1=x.1):(o.set i x).map (·.1)=o.map (·.1):=by
 rw[List.map_set];refine Co λj=>?_
 rw[Ac];by_cases e:i=j
 ·subst e;rw[if_pos rfl];by_cases u:i<(o.map (·.1)).length
  ·rw[if_pos u,zU u,<-h];congr 1;have z:i<Io o:=by simpa using u
   rw[aU,zU z,List.getElem_map];rfl
  ·rw[if_neg u,eB ow]
 ·rw[if_neg e]
theorem jh.put{o:List (Sem zh)}{i:Nat}{x:Sem zh}(h:jh o)(C:(o.getD i (zi zh)).1=x.1)(D:dQ x)(B:FP (o.set i x)):jh (o.set i x) where
 few:=by rw[List.length_set];exact h.few
 names:=λj z=>by
  rw[List.length_set]at z;have:=h.names j z;rw[Hl,Hl]at this⊢
  rwa [WF C]
 rels:=λy u=>by
  rcases List.mem_or_eq_of_mem_set u with u|rfl
  ·exact h.rels y u
  ·exact D
 bound:=B
theorem P9{c:Int}{l:List (List (Sem ze))}(h:l.Pairwise (kLt c)):(l.map (zN c)).Pairwise (·≠·):=by
 rw[List.pairwise_map];exact h.imp λ{a b} o(e:zN c a=zN c b)=>g6 (a:=zN c b) (by have:=o;unfold kLt at this;rwa [e]at this)
theorem kg:∀{a b:zD},Op.bytesLess a b=Q4->a≠b->Op.bytesLess b a=Q3
 |[],[],_,h=>absurd rfl h
 |[],_::_,h,_=>by simp[Op.bytesLess]at h
 |_::_,[],_,_=>rfl
 | a::x,b::y,h,hn=>by
  simp only[Op.bytesLess,Bool.or_eq_false_iff,decide_eq_false_iff_not,Bool.and_eq_false_iff,bZ,mQ,aN,aE,bg]at h⊢;by_cases e:a=b
  ·subst e;refine .inr ⟨rfl,kg (h.2.resolve_left λg=>g rfl) λg=>hn (by rw[g])⟩
  ·exact .inl (UInt8.lt_of_le_of_ne (UInt8.not_lt.1 h.1) (Ne.symm e))
def fm(u:Sem ze):List (Sem ze)->List (Sem ze)
 |[]=>[u]
 |o::r=>if LT.lt (α:=Int) (aX o u) 0 then o::fm u r else if(o==u)=Q3 then o::r else u::o::r
def iu(l:List (Sem ze)):List (Sem ze):=l.foldl (λacc u=>if((u:Sem ze).1==0)=Q3 then acc else fm u acc) []
theorem kT{a b:Sem ze}(C:aR a=Q3)(D:aR b=Q3)(h:¬xf a b):a=b\/xf b a:=by
 have G:ao a=a:=by unfold ao;rw[C];rfl
 have kb:ao b=b:=by unfold ao;rw[D];rfl
 rw[wY,G,kb]at h⊢;obtain⟨k,n,s⟩:=a;obtain⟨F,H,u⟩:=b;unfold Lx at h⊢;simp only at h⊢;have z:¬k<F:=λe=>h (.inl e)
 rcases Int.lt_or_eq_of_le (Int.not_lt.1 z)with e|e
 ·exact .inr (.inl e)
 have B:¬n<H:=λg=>h (.inr ⟨e.symm,.inl g⟩)
 rcases Int.lt_or_eq_of_le (Int.not_lt.1 B)with g|g
 ·exact .inr (.inr ⟨e,.inl g⟩)
 by_cases o:s=u
 ·exact .inl (by rw[e,g,o])
 ·refine .inr (.inr ⟨e,.inr ⟨g,kg ?_ o⟩⟩);cases E:Op.bytesLess s u
  ·rfl
  ·exact absurd (.inr ⟨e.symm,.inr ⟨g.symm,E⟩⟩) h
theorem vG{u:Sem ze}:∀{l:List (Sem ze)}{x:Sem ze},x∈fm u l↔x=u\/x∈l
 |[],x=>by simp[fm]
 | o::r,x=>by
  unfold fm;split
  ·rw[bL,vG,bL];exact⟨λh=>by rcases h with h|h|h<;>simp[h],λh=>by rcases h with h|h|h<;>simp[h]⟩
  ·split
   ·rename_i h;have h:=bG h;subst h;simp
   ·simp
theorem HM{u:Sem ze}(F:aR u=Q3):∀{l:List (Sem ze)},(∀x∈l,aR x=Q3)->l.Pairwise xf->(fm u l).Pairwise xf
 |[],_,_=>by simp[fm]
 | o :: r,hl,h=>by
  obtain⟨D,G⟩:=List.pairwise_cons.1 h;unfold fm;split
  ·rename_i B;refine List.pairwise_cons.2 ⟨λx z=>?_,HM F (λx z=>hl x (by simp[z])) G⟩;rcases vG.1 z with rfl|z
   ·exact B
   ·exact D x z
  ·rename_i H;split
   ·exact h
   ·rename_i C;have E:xf u o:=by
     rcases kT (hl o sw) F H with e|e
     ·exact absurd (by rw[e];simp) C
     ·exact e
    refine List.pairwise_cons.2 ⟨λx z=>?_,h⟩;rcases bL.1 z with rfl|z
    ·exact E
    ·exact gm E (D x z)
theorem xU:∀(l acc:List (Sem ze)),(∀x∈l,aR x=Q3)->(∀x∈acc,aR x=Q3)->acc.Pairwise xf->
  (l.foldl (λacc u=>if((u:Sem ze).1==0)=Q3 then acc else fm u acc) acc).Pairwise xf/\∀x,x∈l.foldl (λacc u=>if((u:Sem ze).1==0)=Q3 then acc else fm u acc) acc↔x∈acc\/(x∈l/\x.1≠0)
 |[],acc,_,_,h=>⟨h,λx=>by simp⟩
 | u::r,acc,hl,ha,h=>by
  rw[List.foldl_cons];by_cases z:(u.1==0)=Q3
  ·rw[if_pos z];obtain⟨C,D⟩:=xU r acc (λx o=>hl x (by simp[o])) ha h;refine⟨C,λx=>(D x).trans ⟨λh=>h.imp id λh=>⟨by simp[h.1],h.2⟩,λh=>h.imp id λh=>⟨?_,h.2⟩⟩⟩;rcases bL.1 h.1 with rfl|B
   ·exact absurd (bG z) h.2
   ·exact B
  ·rw[if_neg z];have E:=hl u sw;obtain⟨C,D⟩:=xU r (fm u acc) (λx o=>hl x (by simp[o])) (λx o=>by
    rcases vG.1 o with rfl|o
    ·exact E
    ·exact ha x o) (HM E ha h)
   refine⟨C,λx=>(D x).trans ?_⟩;rw[vG,bL];refine⟨λh=>?_,λh=>?_⟩
   ·rcases h with(rfl|h)|h
    ·exact .inr ⟨.inl rfl,λe=>z (by rw[e];rfl)⟩
    ·exact .inl h
    ·exact .inr ⟨.inr h.1,h.2⟩
   ·rcases h with h|⟨rfl|h,B⟩
    ·exact .inl (.inr h)
    ·exact .inl (.inl rfl)
    ·exact .inr ⟨h,B⟩
theorem nU{l:List (Sem ze)}(h:∀x∈l,aR x=Q3):(iu l).Pairwise xf/\∀x,x∈iu l↔x∈l/\x.1≠0:=by
 obtain⟨o,u⟩:=xU l [] h sw sw;exact⟨o,λx=>(u x).trans sw⟩
theorem JP:∀{l m:List (Sem ze)},l.Pairwise xf->m.Pairwise xf->(∀x,x∈l↔x∈m)->l=m
 |[],[],_,_,_=>rfl
 |[],b::m,_,_,h=>by have:=(h b).2 sw;simp at this
 |a::l,[],_,_,h=>by have:=(h a).1 sw;simp at this
 | a::l,b::m,h1,h2,h=>by
  obtain⟨z,C⟩:=List.pairwise_cons.1 h1;obtain⟨B,D⟩:=List.pairwise_cons.1 h2;have e:a=b:=by
   rcases bL.1 ((h a).1 sw)with e|e
   ·exact e
   ·rcases bL.1 ((h b).2 sw)with g|g
    ·exact g.symm
    ·exact absurd (gm (z _ g) (B _ e)) g6
  subst e;rw[JP C D λx=>⟨λu=>?_,λu=>?_⟩]
  ·rcases bL.1 ((h x).1 (by simp[u]))with rfl|o
   ·exact absurd (z _ u) g6
   ·exact o
  ·rcases bL.1 ((h x).2 (by simp[u]))with rfl|o
   ·exact absurd (B _ u) g6
   ·exact o
open Go Go.Proofs Go.Sort
def qY(l:List (Sem ze)):Bool:=l.all (λv=>aR v&&(v.1!=0))&&decide l.Nodup&&!l.isEmpty
theorem Ye{l z:List (Sem ze)}(h:qY l=Q3)(hp:List.Perm z l)(F:z.Pairwise λx y:Sem ze=>¬LT.lt (α:=Int) (aX y x) 0):z=iu l:=by
 simp only[qY,aE,en,aN,bne_iff_ne,ne_eq]at h;obtain⟨⟨u,E⟩,_⟩:=h;obtain⟨C,D⟩:=nU λx o=>(u x o).1
 have B:z.Nodup:=hp.nodup_iff.2 E;refine JP ?_ C λx=>?_
 ·refine(F.and B).imp_of_mem λ{x y} o G h=>?_
  rcases kT (u y (hp.mem_iff.1 G)).1 (u x (hp.mem_iff.1 o)).1 h.1 with e|e
  ·exact absurd e.symm h.2
  ·exact e
 ·rw[D x,hp.mem_iff];exact⟨λo=>⟨o,(u x o).2⟩,λo=>o.1⟩
@[match_pattern] abbrev zsB:Sh:=.pr (.int .i64) (.pr (.int .i64) .str)
def zud:ac:=λargs hp _=>match args with
 | [.vec id,.clo (.func 122) [] []]=>match hp id with
  |.vec zsB l=>(.chk (Q0 (Io l<=1000000)) (.chk (qY l) (.ok {val:=.tup [],wr:=[(id,.vec ze (iu l))]})))
  |_=>.err
 |_=>.err
theorem zq5:Go.Proofs.Enters Tryz.prog 122:=by
  cases h:Tryz.f122.body with
  | none => have:Tryz.f122.body.isNone=false:=by kernel_rfl
            rw[h]at this;cases this
  |some c=>exact Go.Proofs.enters_of (fn:=Tryz.f122) kw kw h
def SJ(h:Sem zq)(o:Sem zh.sl):Tr (Empty⊕aw):=
 let u:=getD o (toNat 0) (zi zh)
 br (h.1==cV) (Qc (zJ 0 (Io o)) (re (ai u.1.2.2.1) []))
 (br (h.1==eW) (re (ai h.t.2) [])
  (Qc (zJ 0 (Io h.t.1)) (re (ai (getD h.t.1 (toNat 0) (zi zg))) [])))
def sx(h:Sem zq)(o:Sem zh.sl):=an [zg] t0 100000000 (SJ h o)
def su(h:Sem zq)(o:Sem zh.sl):=(sx h o).isSome
def fz(h:Sem zq)(o:Sem zh.sl):=o1 (sx h o)
def zjW:=FT [zq,zh.sl] [zg] λx=>sx x.1 x.2.1
theorem zfw:FK 120 zjW:=rg.T1 (f:=Tryz.f120) (keep:=k0) (e:=e0)
abbrev zn4:=lu [(7,[4,5,52,53,54])]
inductive Ky where
 |h7 (l52:List (Sem zj)) (i53:Int) (i54:Int) (ja0:List UInt8) (ja1:List UInt8) (ja2:List UInt8) (ja5:List UInt8) (ja8:List UInt8) (ja9:Int) (ja10:Int) (ja11:List UInt8) (ja12:List UInt8) (ja16:List UInt8) (ja17:Int) (ja18:Int) (ja19:List UInt8) (ja20:List UInt8) (ja22:List UInt8) (jb0:Sem Q6) (jb1:Sem Q6) (jb2:Sem Q6) (jb5:List UInt8) (jb8:zD) (jb9:Int) (jb10:Int) (jb11:zD) (jb12:zD) (jb13:List (Sem Q5)) (jb16:List UInt8) (jb17:Int) (jb18:Int) (jb19:List UInt8) (jb20:List UInt8) (jb22:Sem Q6)
 |h7b (l52:List (Sem zj)) (i53:Int) (i54:Int) (ja0:List UInt8) (ja1:List UInt8) (ja2:List UInt8) (ja5:List UInt8) (ja8:List UInt8) (ja9:Int) (ja10:Int) (ja11:List UInt8) (ja12:List UInt8) (ja16:List UInt8) (ja17:Int) (ja18:Int) (ja19:List UInt8) (ja20:List UInt8) (ja22:List UInt8) (jb0:Sem Q6) (jb1:Sem Q6) (jb2:Sem Q6) (jb5:List UInt8) (jb8:zD) (jb9:Int) (jb10:Int) (jb11:zD) (jb12:zD) (jb13:List (Sem Q5)) (jb16:List UInt8) (jb17:Int) (jb18:Int) (jb19:List UInt8) (jb20:List UInt8) (jb22:Sem Q6) (lh_2:List (Sem Q6))
abbrev zqO:Ky->Nat×St
 |.h7 x1 W X Y Z h0 h1 h2 h3 h o u z B C D E F h4 h5 h6 h8 h9 x0 G H I J L M O S T U=>(7,⟨tm 67 [(4,ptr 0 0),(5,ptr 1 0),(52,sl zj x1),(53,ai W),(54,ai X)],[Qa [str Y,str Z,str h0,Qb,Qb,str h1,Qb,Qb,str h2,ai h3,ai h,str o,str u,Qb,Qb,Qb,str z,ai B,ai C,str D,str E,Qb,str F],Qa [str h4,str h5,str h6,Qb,Qb,str h8,Qb,Qb,str h9,ai x0,ai G,str H,str I,sl Q5 J,Qb,Qb,str L,ai M,ai O,str S,str T,Qb,str U]]⟩)
 |.h7b x1 W X Y Z h0 h1 h2 h3 h o u z B C D E F h4 h5 h6 h8 h9 x0 G H I J L M O S T U x2=>(7,⟨tm 67 [(4,ptr 0 0),(5,ptr 1 0),(52,sl zj x1),(53,ai W),(54,ai X)],[Qa [str Y,str Z,str h0,Qb,Qb,str h1,Qb,Qb,str h2,ai h3,ai h,str o,str u,Qb,Qb,Qb,str z,ai B,ai C,str D,str E,Qb,str F],Qa [str h4,str h5,str h6,AV.vec 2,Qb,str h8,Qb,Qb,str h9,ai x0,ai G,str H,str I,sl Q5 J,Qb,Qb,str L,ai M,ai O,str S,str T,Qb,str U],AO.vec Q6 x2]⟩)
def zaT(h:Sem zq)(B:Sem zh.sl):Tr (Ky⊕aw):=
 let u:=Q0 (h.t.2>=0)
 let z:=zJ 0 (Io B)
 let o:=getD B (toNat 0) (zi zh)
 let C:=(↑(Io o.1.2.1):Int)
 let D:=getD o.1.2.1 (toNat h.t.2) (zi zj)
 br (h.1==eW)
 (Qc (cond u z Q3)
  (br (cond u (Q0 (h.t.2<C)) Q4) (Qc z (Qc (zJ h.t.2 (Io o.1.2.1)) (re (agg [str h.1,str h.2.2.2.1.1,str h.2.1,Qb,Qb,str D.1,Qb,Qb,str (zf.op h.2.2.2.1.t.2),ai (zf.v h.2.2.2.1.t.2).1,
  ai (zf.v h.2.2.2.1.t.2).2.1,str (zf.v h.2.2.2.1.t.2).2.2,str (zf.s h.2.2.2.1.t.2),sl Q5 (zf.l h.2.2.2.1.t.2),Qb,Qb,str [],ai 0,ai 0,str [],str [],Qb,str h.2.2.1]) []))) (re (agg
  [str h.1,str h.2.2.2.1.1,str h.2.1,Qb,Qb,str [],Qb,Qb,str (zf.op h.2.2.2.1.t.2),ai (zf.v h.2.2.2.1.t.2).1,ai (zf.v h.2.2.2.1.t.2).2.1,str (zf.v h.2.2.2.1.t.2).2.2,str (zf.s h.2.2.2.1.t.2),sl Q5 (zf.l h.2.2.2.1.t.2),Qb,Qb,
  str [],ai 0,ai 0,str [],str [],Qb,str h.2.2.1]) [])))
 (Q9
  (Ky.h7 h.2.2.2.1.2.1 (↑(Io h.2.2.2.1.2.1):Int) 0 [] [] [] [] [] 0 0 [] [] [] 0 0 [] [] [] h.1 h.2.2.2.1.1 h.2.1 [] (zf.op h.2.2.2.1.t.2) (zf.v h.2.2.2.1.t.2).1 (zf.v h.2.2.2.1.t.2).2.1 (zf.v h.2.2.2.1.t.2).2.2 (zf.s h.2.2.2.1.t.2) (zf.l h.2.2.2.1.t.2) [] 0 0 [] [] h.2.2.1))
def A7:Ky->Tr (Ky⊕aw)
 | .h7 I J h h6 h8 h9 x0 x1 x2 L M O S T U W X Y Z h0 h1 h2 h3 h4 o u z B C D E F G H=>
  let a0:=I.getD h.toNat (zi zj)
  let a1:=[a0.1]
  br (Q0 (h<J))
  (Qc (zJ h (Io I)) (Qc (Q0 (Io a1<=1073741824)) (Q9 (Ky.h7b I J (Γ Δ (h+1)) h6 h8 h9 x0 x1 x2 L M O S T U W X Y Z h0 h1 h2 h3 h4 o u z B C D E F G H a1))))
  (re (agg [str Z,str h0,str h1,Qb,Qb,str h2,Qb,Qb,str h3,ai h4,ai o,str u,str z,sl Q5 B,Qb,Qb,str C,ai D,ai E,str F,str G,Qb,str H]) [])
 | .h7b I J h h6 h8 h9 x0 x1 x2 L M O S T U W X Y Z h0 h1 h2 h3 h4 o u z B C D E F G H h5=>
  let a0:=I.getD h.toNat (zi zj)
  let a1:=[a0.1]
  br (Q0 (h<J))
  (Qc (zJ h (Io I)) (Qc (Q0 (Io h5+Io a1<=1073741824)) (Q9 (Ky.h7b I J (Γ Δ (h+1)) h6 h8 h9 x0 x1 x2 L M O S T U W X Y Z h0 h1 h2 h3 h4 o u z B C D E F G H (h5++a1)))))
  (re (agg [str Z,str h0,str h1,AV.vec 0,Qb,str h2,Qb,Qb,str h3,ai h4,ai o,str u,str z,sl Q5 B,Qb,Qb,str C,ai D,ai E,str F,str G,Qb,str H]) [AO.vec Q6 h5])
def I1(h:Sem zq)(o:Sem zh.sl):=an [zn] A7 100000000 (zaT h o)
def OE(h:Sem zq)(o:Sem zh.sl):=(I1 h o).isSome
def Xs(h:Sem zq)(o:Sem zh.sl):=o1 (I1 h o)
def zki:=FT [zq,zh.sl] [zn] λx=>I1 x.1 x.2.1
theorem zfV:FK 75 zki:=rg.T1 (f:=Tryz.f75) (keep:=zn4) (e:=zqO)
def Vg:=zdA.addL [(120,zjW),(75,zki)]
theorem NV:zw Vg:=rg.addL<|fc zfw<|fc zfV<|iA
def zr6(h:Sem zh):Tr (Empty⊕aw):=
 re (str h.1.1) []
def X3(h:Sem zh):=an [Q6] t0 100000000 (zr6 h)
def zqb:=FT [zh] [Q6] λx=>X3 x.1
theorem zfQ:FK 68 zqb:=rg.T1 (f:=Tryz.f68) (keep:=k0) (e:=e0)
theorem zfR:FK 68 (aH [zh] [.str] λx=>(x.1.1.1,())):=g7 zfQ λ_=>rfl
def zdC:=((((Vg.add 68 (aH [zh] [.str] λx=>(x.1.1.1,()))).add 107 zeC).aut 70 Tryz.f70 2).aut 71 Tryz.f71 1)
theorem GO:zw zdC:=iv (iv ((NV.add zfR).add zgq) (bU kw)) (bU kw)
abbrev znP:=lu [(6,[1,2,5,6,19,20,21])]
inductive RD where
 |h6 (l1:List (Sem zh)) (l6:List (Sem Q6)) (l19:List (Sem zh)) (i20:Int) (i21:Int) (z0:zm [CP.d zq])
abbrev zqF:RD->Nat×St
 |.h6 z B u h o C=>(6,⟨tm 55 [(1,sl zh z),(2,ptr 0 0),(5,ptr 1 0),(6,sl Q6 B),(19,sl zh u),(20,ai h),(21,ai o)],[Qa (bf [] [CP.d zq] C),Qa [AV.clo (Fn.func 68) [] []]]⟩)
def zni(h:Sem zq)(o:Sem zh.sl):Tr (RD⊕aw):=
 let u:=lz (h.1,h.2.1,h.2.2.1,(h.2.2.2.1.1,h.2.2.2.1.2.1,h.2.2.2.1.2.2.1,h.2.2.2.1.2.2.2.1,h.2.2.2.1.t.1,zl h.2.2.2.1.t.2),h.t)
 br ((↑(Io o):Int)!=(↑(Io u):Int)) (re (ai 1) []) (Q9 (RD.h6 o u o (↑(Io o):Int) 0 (h,())))
def zbN:RD->Tr (RD⊕aw)
 | .h6 B F C D o z=>
  let J:=C.getD o.toNat (zi zh)
  let E:=(z.1.1,z.1.2.1,z.1.2.2.1,(z.1.2.2.2.1.1,z.1.2.2.2.1.2.1,z.1.2.2.2.1.2.2.1,z.1.2.2.2.1.2.2.2.1,z.1.2.2.2.1.t.1,zl z.1.2.2.2.1.t.2),z.1.t)
  let h:=Xs E B
  let G:=(h.1,h.2.1,h.2.2.1,h.2.2.2.1,h.t.1,h.t.2.1,h.t.q.1,h.t.q.2.1,zl h.t.t.1,h.t.t.2.1,h.t.t.q.1,zl h.t.t.q.2.1,h.t.t.t)
  let u:=pOf (fQ B) G
  let H:=u.2!=0
  let I:=(u.1.1,u.1.2.1,u.1.2.2.1,(u.1.2.2.2.1.1,u.1.2.2.2.1.2.1,u.1.2.2.2.1.2.2.1,u.1.2.2.2.1.2.2.2.1,u.1.2.2.2.1.t.1,zl u.1.2.2.2.1.t.2),u.1.t)
  br (Q0 (o<D))
  (Qc (zJ o (Io C)) (Qc (zJ o (Io F)) (br (!J.1.1==F.getD o.toNat (zi Q6)) (re (ai 1) []) (Q9 (RD.h6 B F C D (Γ Δ (o+1)) z)))))
  (Qc (Q0 (0<Io B)) (Qc (Q0 (Io B<=1000)) (Qc (two B) (Qc (OE E B) (Qc (ziz (fQ B) G) (Qc (cond H Q3 (IZ E I)) (br (cond H Q3 (!Mf E I)) (re (ai 1) []) (re (ai 0) []))))))))
def QF(h:Sem zq)(o:Sem zh.sl):=an [zg] zbN 100000000 (zni h o)
def Md(h:Sem zq)(o:Sem zh.sl):=(QF h o).isSome
def Xq(h:Sem zq)(o:Sem zh.sl):=o1 (QF h o)
def zjR:=FT [zq,zh.sl] [zg] λx=>QF x.1 x.2.1
theorem zfr:FK 32 zjR:=GO.T1 (f:=Tryz.f32) (keep:=znP) (e:=zqF)
def zdD:=zdC.add 32 zjR
theorem GP:zw zdD:=GO.add zfr
abbrev zn0:=lu [(4,[1,6,7,8]),(12,[1,6,7,8,10,11,12])]
inductive mz where
 |h4 (l1:List (Sem zh)) (l6:List (Sem Q6)) (i8:Int)
 |h12 (l1:List (Sem zh)) (l6:List (Sem Q6)) (i8:Int) (i12:Int) (z0:zm [CP.d zh])
 |h12b (l1:List (Sem zh)) (l6:List (Sem Q6)) (i8:Int) (i12:Int) (z0:zm [CP.d zh]) (lh_1:List (Sem zp))
 |h4b (l1:List (Sem zh)) (l6:List (Sem Q6)) (i8:Int) (lh_0:List (Sem zh))
 |h12bb (l1:List (Sem zh)) (l6:List (Sem Q6)) (i8:Int) (i12:Int) (z1:zm [CP.d zh]) (lh_0:List (Sem zh))
 |h12bbb (l1:List (Sem zh)) (l6:List (Sem Q6)) (i8:Int) (i12:Int) (z1:zm [CP.d zh]) (lh_0:List (Sem zh)) (lh_2:List (Sem zp))
abbrev zqL:mz->Nat×St
 |.h4 z B u=>(4,⟨tm 67 [(1,sl zh z),(6,sl Q6 B),(7,Qb),(8,ai u)],[]⟩)
 |.h12 z B u o E=>(12,⟨tm 67 [(1,sl zh z),(6,sl Q6 B),(7,Qb),(8,ai u),(10,ptr 0 0),(11,Qb),(12,ai o)],[Qa (bf [] [CP.d zh] E)]⟩)
 |.h12b z B u o E C=>(12,⟨tm 67 [(1,sl zh z),(6,sl Q6 B),(7,Qb),(8,ai u),(10,ptr 0 0),(11,AV.vec 1),(12,ai o)],[Qa (bf [] [CP.d zh] E),AO.vec zp C]⟩)
 |.h4b z B u h=>(4,⟨tm 67 [(1,sl zh z),(6,sl Q6 B),(7,AV.vec 0),(8,ai u)],[AO.vec zh h]⟩)
 |.h12bb z B u o F h=>(12,⟨tm 67 [(1,sl zh z),(6,sl Q6 B),(7,AV.vec 0),(8,ai u),(10,ptr 1 0),(11,Qb),(12,ai o)],[AO.vec zh h,Qa (bf [] [CP.d zh] F)]⟩)
 |.h12bbb z B u o F h D=>(12,⟨tm 67 [(1,sl zh z),(6,sl Q6 B),(7,AV.vec 0),(8,ai u),(10,ptr 1 0),(11,AV.vec 2),(12,ai o)],[AO.vec zh h,Qa (bf [] [CP.d zh] F),AO.vec zp D]⟩)
def zhE(h:Sem zq)(u:Sem zh.sl):Tr (mz⊕aw):=
 let o:=(h.1,h.2.1,h.2.2.1,(h.2.2.2.1.1,h.2.2.2.1.2.1,h.2.2.2.1.2.2.1,h.2.2.2.1.2.2.2.1,h.2.2.2.1.t.1,zl h.2.2.2.1.t.2),h.t)
 Qc (jV o) (Q9 (mz.h4 u (lA o) 0))
def gA:mz->Tr (mz⊕aw)
 | .h4 B u z=>
  let E:=lK B (u.getD z.toNat (zi Q6))
  br (Q0 (z<(↑u.length:Int)))
  (Qc (zJ z (Io u)) (br (Q0 (E<0)) (re (tup [Qb,kb Q4]) []) (Qc (zJ E (Io B)) (Q9 (mz.h12 B u z 0 (B.getD (toNat E) (zi zh),()))))))
  (re (tup [Qb,kb Q3]) [])
 | .h12 B u z h C=>
  let E:=(↑(Io C.1.1.t.1):Int)
  let I:=zJ h (Io C.1.1.t.1)
  let F:=getD C.1.1.t.1 h.toNat (zi zp)
  let J:=[F]
  let L:=Γ Δ (h+1)
  let M:=[((C.1.1.1,C.1.1.2.1,C.1.1.2.2.1,C.1.1.2.2.2.1,[],zl C.1.1.t.2),C.1.2)]
  br (Q0 (h<E))
  (Qc I (Qc (AJ u F.2) (br (ML u F.2) (Qc I (Qc (Q0 (Io J<=1073741824)) (Q9 (mz.h12b B u z L C J)))) (Q9 (mz.h12 B u z L C)))))
  (Qc (Q0 (Io M<=1073741824)) (Q9 (mz.h4b B u (Γ Δ (z+1)) M)))
 | .h12b B u z h C G=>
  let E:=(↑(Io C.1.1.t.1):Int)
  let I:=zJ h (Io C.1.1.t.1)
  let F:=getD C.1.1.t.1 h.toNat (zi zp)
  let J:=[F]
  let L:=Γ Δ (h+1)
  let M:=[((C.1.1.1,C.1.1.2.1,C.1.1.2.2.1,C.1.1.2.2.2.1,G,zl C.1.1.t.2),C.1.2)]
  br (Q0 (h<E))
  (Qc I (Qc (AJ u F.2) (br (ML u F.2) (Qc I (Qc (Q0 (Io G+Io J<=1073741824)) (Q9 (mz.h12b B u z L C (G++J))))) (Q9 (mz.h12b B u z L C G)))))
  (Qc (Q0 (Io M<=1073741824)) (Q9 (mz.h4b B u (Γ Δ (z+1)) M)))
 | .h4b B u z o=>
  let E:=lK B (u.getD z.toNat (zi Q6))
  br (Q0 (z<(↑u.length:Int)))
  (Qc (zJ z (Io u)) (br (Q0 (E<0)) (re (tup [Qb,kb Q4]) []) (Qc (zJ E (Io B)) (Q9 (mz.h12bb B u z 0 (B.getD (toNat E) (zi zh),()) o)))))
  (re (tup [AV.vec 0,kb Q3]) [AO.vec zh o])
 | .h12bb B u z h D o=>
  let E:=(↑(Io D.1.1.t.1):Int)
  let I:=zJ h (Io D.1.1.t.1)
  let F:=getD D.1.1.t.1 h.toNat (zi zp)
  let J:=[F]
  let L:=Γ Δ (h+1)
  let M:=[((D.1.1.1,D.1.1.2.1,D.1.1.2.2.1,D.1.1.2.2.2.1,[],zl D.1.1.t.2),D.1.2)]
  br (Q0 (h<E))
  (Qc I (Qc (AJ u F.2) (br (ML u F.2) (Qc I (Qc (Q0 (Io J<=1073741824)) (Q9 (mz.h12bbb B u z L D o J)))) (Q9 (mz.h12bb B u z L D o)))))
  (Qc (Q0 (Io o+Io M<=1073741824)) (Q9 (mz.h4b B u (Γ Δ (z+1)) (o++M))))
 | .h12bbb B u z h D o H=>
  let E:=(↑(Io D.1.1.t.1):Int)
  let I:=zJ h (Io D.1.1.t.1)
  let F:=getD D.1.1.t.1 h.toNat (zi zp)
  let J:=[F]
  let L:=Γ Δ (h+1)
  let M:=[((D.1.1.1,D.1.1.2.1,D.1.1.2.2.1,D.1.1.2.2.2.1,H,zl D.1.1.t.2),D.1.2)]
  br (Q0 (h<E))
  (Qc I (Qc (AJ u F.2) (br (ML u F.2) (Qc I (Qc (Q0 (Io H+Io J<=1073741824)) (Q9 (mz.h12bbb B u z L D o (H++J))))) (Q9 (mz.h12bbb B u z L D o H)))))
  (Qc (Q0 (Io o+Io M<=1073741824)) (Q9 (mz.h4b B u (Γ Δ (z+1)) (o++M))))
def D1(h:Sem zq)(o:Sem zh.sl):=an [zh.sl,Sh.bool] gA 100000000 (zhE h o)
def OJ(h:Sem zq)(o:Sem zh.sl):=(D1 h o).isSome
def XH(h:Sem zq)(o:Sem zh.sl):=o2 (D1 h o)
def zkd:=FT [zq,zh.sl] [zh.sl,Sh.bool] λx=>D1 x.1 x.2.1
theorem zfN:FK 51 zkd:=GP.T1 (f:=Tryz.f51) (keep:=zn0) (e:=zqL)
def An:=zdD.add 51 zkd
theorem xP:zw An:=GP.add zfN
abbrev zd8:=lu [(4,[5,6,18,19,20]),(11,[9,34])]
inductive RE where
 |h4 (i5:Sem zg) (l18:List (Sem ze.sl)) (i19:Int) (i20:Int) (mh_0:List ((Int×Int×zD)×Int))
abbrev NJ:RE->Nat×St
 |.h4 B z o u h=>(4,⟨tm 46 [(5,ai B),(6,AV.mp 0),(18,sl ze.sl z),(19,ai o),(20,ai u)],[AO.vmap Q3 h]⟩)
def zhB(h:Sem zq)(o:Sem zh.sl):Tr (RE⊕aw):=
 let u:=(h.1,h.2.1,h.2.2.1,(h.2.2.2.1.1,h.2.2.2.1.2.1,h.2.2.2.1.2.2.1,h.2.2.2.1.2.2.2.1,h.2.2.2.1.t.1,zl h.2.2.2.1.t.2),h.t)
 let z:=getD o (toNat 0) (zi zh)
 Qc (su u o) (Qc (zJ 0 (Io o)) (Q9 (RE.h4 (fz u o) z.2 (↑(Io z.2):Int) 0 [])))
def zpV:RE->Tr (RE⊕aw)
 | .h4 B o u h z=>
  let C:=o.getD h.toNat (zi ze.sl)
  br (Q0 (h<u))
  (Qc (zJ h (Io o)) (Qc (zJ B (Io C)) (Q9 (RE.h4 B o u (Γ Δ (h+1)) (kE z (getD C (toNat B) (zi ze)) 0)))))
  Tr.err
set_option maxRecDepth 100000
def xr(es:List ((Int×Int×zD)×Int))(k:Int×Int×zD):List ((Int×Int×zD)×Int):=match cy es k 0 with
 |some q=>es.eraseIdx q.1
 |none=>es
theorem yi{α β:Type}(f:α->β):∀(l:List α)(i:Nat),(l.eraseIdx i).map f=(l.map f).eraseIdx i
 |[],_=>rfl
 |_::_,0=>rfl
 | x::r,i+1=>by
  show f x::(r.eraseIdx i).map f=f x::(r.map f).eraseIdx i;rw[yi f r i]
theorem zau{P:Program}{mt kt et:TypeId}(S:P.underlying mt=Q1 (.map kt et))(D:nN P kt=Q3){w:World}{r:Nat}{h:Array MapEntry}{o:Nat}{es:List ((Int×Int×zD)×Int)}{k:Int×Int×zD}(L:iZ k)
  (G:w.heap[r]?=Q1 (.map h o)) (J:(h.toList.map λe=>(e.key,e.val))=C0 Q3 es) (U:∀p∈es,cz .i64 p.2/\iZ p.1) (M:lZ h o):
  ∃u:Array MapEntry,(∀O,(Builtin.delete_ #[mt,kt] O #[.map (Q1 r),dP k]).run P w=.ok (.tuple #[]) {w with heap:=w.heap.setIfInBounds r (.map u o)})/\
   (u.toList.map λe=>(e.key,e.val))=C0 Q3 (xr es k)/\(∀x∈u.toList,x.born<o)/\(u.toList.map (·.born)).Nodup:=by
 have C:=jH (P:=P) (w:=w) D L Q3 es h.toList J U;have z:∀x∈h.toList,x.born<o:=λx I=>by
  obtain⟨i,H,rfl⟩:=gq I;have:=M.2 i h.toList[i] (by rw[<-sS];exact zU H);rw[this,M.1];simpa using H
 have F:(h.toList.map (·.born)).Nodup:=by
  have:h.toList.map (·.born)=List.range h.size:=by
   apply List.ext_getElem
   ·simp
   ·intro i T W;have H:i<h.size:=by simpa using T
    simp only[List.getElem_map,List.getElem_range];exact M.2 i _ (by rw[<-sS];exact zU (by simpa using H))
  rw[this];exact List.nodup_range
 unfold xr;cases E:cy es k 0 with
 | none=>
  rw[E]at C;refine⟨h,λO=>?_,J,z,F⟩;simp[Builtin.delete_,bD S,kW G,dl D,C,yZ _ G,Result.andThen]
 | some q=>
  rw[E]at C;have B:((h.eraseIdxIfInBounds q.1).toList)=h.toList.eraseIdx q.1:=by simp
  refine⟨h.eraseIdxIfInBounds q.1,λO=>?_,?_,λx I=>?_,?_⟩
  ·simp[Builtin.delete_,bD S,kW G,dl D,C,yZ _ G,Result.andThen]
  ·rw[B,yi,J];exact(yi _ es q.1).symm
  ·rw[B]at I;exact z x (List.mem_of_mem_eraseIdx I)
  ·rw[B];exact F.sublist ((List.eraseIdx_sublist _ _).map _)
def EF:Code:=match Tryz.f77.body with
 |some (.seq _ (.seq _ (.seq _ (.seq _ r))))=>r
 |_=>.skip
def DC:Code:=match Tryz.f77.body with
 |some (.seq _ (.seq _ (.seq _ (.seq (.seq _ (.block _ (.loop c))) _))))=>c
 |_=>.skip
theorem zhr:aj Tryz.f77 4=[.code DC,.inLoop DC,.inBlock 0,.code EF]:=kw
theorem zhJ:(Tryz.prog.info? 27).map (λi=>(i.zero,i.size,i.bytes))=Q1 (Q1 (.agg #[.int .i64 0,.int .i64 0,.string ⟨#[]⟩]),3,32):=kw
def Lt(l:List ((Int×Int×zD)×MapEntry)):List Value:=l.flatMap λp=>[.int .i64 p.1.1,.int .i64 p.1.2.1,.string ⟨p.1.2.2.toArray⟩]
structure zeA (w1:World) (r clock:Nat) (ents':Array MapEntry) (v:Value) (wr:World) (seen:Array Nat) (E:List ((Int×Int×zD)×MapEntry)):Prop where
 it:∃c0,wr.heap[w1.heap.size]?=Q1 (.mapIter (Q1 r) clock seen c0)/\clock<=c0
 mp:wr.heap[r]?=Q1 (.map ents' clock)
 sub:∀p∈E,p.2∈ents'.toList/\p.2.key=dP p.1
 sn:seen.toList=E.map λp=>p.2.born
 nd:(E.map λp=>p.2.born).Nodup
 row:wr.ownsRow w1.heap.size 27 3 v (Io E) (Lt E)
 bel:RowKit.Below w1.heap.size w1 wr
 cnt:Io E+(leftOf ents' seen).size<=ents'.size
theorem Sa(w:World)(l:List Value)(t:TypeId):∀j u,l[j]?=Q1 u->(w.alloc (.cells l.toArray t)).cell? ((⟨w.heap.size,0,none⟩:Addr).add j)=Q1 u:=by
 intro j u h;unfold Addr.add;split
 ·rename_i e;subst e;simp[h]
 ·simp[h]
theorem zby(Q:Exit->Act->World->Prop)(S:Value->World->Prop)(r:Nat)(z:Array MapEntry)(u:Nat)(w w1:World)(l9:∀ty,(Builtin.delete_ #[181,27] ty #[.map (Q1 r),.agg #[.int .i64 0,.int .i64 0,.string ⟨#[]⟩]]).run Tryz.prog w=.ok (.tuple #[]) w1)(hm:w1.heap[r]?=Q1 (.map z u))(h3:∀x∈z.toList,x.born<u)(a1:(z.toList.map (·.born)).Nodup) (h6:∀x∈z.toList,∃k,x.key=dP k) (m6:z.size<=1000)
  (h9:∀v wr B E,zeA w1 r u z v wr B E->(leftOf z B).size=0->Calls Tryz.prog 121 #[v,.func (.func 122) #[] #[]] wr λe w'=>e=.returned (.tuple #[])/\S v w')
  (hQ:∀v w'(a:Act),S v w'->a.tmps[4]?=Q1 v->a.defers=[]->Q Exit.ret a w')
  (v0 v1 v2 v3 v4 v5 v7 v8 v9 a8 a9 i1 i2 i3 i4 i5 i6 i7 i8 v20 i9 j0 j1 j2 j3 j4 j5 j6 j7 j8 j9 k4 k5 k6 k7 k8 k9 l0 l1 l2 l3 l4 l5 l6 l7:Value):
  EF.wp Tryz.prog Q {tmps:=#[v0,v1,v2,v3,v4,v5,(Value.map (Q1 r)),v7,v8,v9,a8,a9,i1,i2,i3,i4,i5,i6,i7,i8,v20,i9,j0,j1,j2,j3,j4,j5,j6,j7,j8,j9,k4,k5,k6,k7,k8,k9,l0,l1,l2,l3,l4,l5,l6,l7],defers:=[]} w:=by
 have m3:=run_range_map (P:=Tryz.prog) w1 181 27 182 r z u Tryz.underlying181 hm;simp only[EF,Tryz.f77]
 go_wp2
 obtain⟨i0,hi,a5,a6,a7⟩:=info_parts zhJ
 go_loopw [9] (λv wr=>∃B E,zeA w1 r u z v wr B E)
  (λ_ wr=>(leftOf z (wr.iterSeen w1.heap.size)).size)
 case atStart=>
  exact⟨#[],[],⟨⟨u,heap_alloc_new _ _,af _⟩,by rw[heap_alloc_old _ _ (dY.1 hm).1];exact hm,sw,sw,sw,World.ownsRow_nil _ _ _ _,(RowKit.Below.refl _ _).alloc (af _) _,by simpa[leftOf]using Array.size_filter_le⟩⟩
 case round=>
  obtain⟨B,E,D⟩:=hrel;obtain⟨c0,M,a3⟩:=D.it;have m1:r<w1.heap.size:=(dY.1 hm).1;rcases run_next_at (P:=Tryz.prog) wr 0 w1.heap.size r u c0 B z u M D.mp h3 a3 with⟨hz,T⟩|⟨e,he,wd,L,T⟩
  ·have x6:=h9 _ _ _ _ D (by simpa using hz);clear D
   go_wp2_with (go_at_call 121;refine x6.mono ?_;rintro e w' ⟨rfl,hS⟩)
   exact hQ _ _ _ hS rfl rfl
  ·have h4:e∈z.toList:=by simp[leftOf]at he⊢;exact he.1
   have x8:e.born∉E.map λp=>p.2.born:=by
    rw[<-D.sn];simp[leftOf]at he⊢;exact he.2
   obtain⟨k,hk⟩:=h6 e h4;have a0:0<(leftOf z B).size:=by
    have:=List.length_pos_of_mem he;simpa using this
   have l8:=D.cnt;have m2:Io E<1000:=by omega
   obtain⟨W3,C⟩:∃W3,ChangeMaps.setBlock wd w1.heap.size (.mapIter (Q1 r) u (B.push e.born) u)=W3:=⟨_,rfl⟩;rw[C]at T;have U:wd.heap=wr.heap:=by rcases L with rfl|rfl<;>rfl
   have x1:w1.heap.size<wr.heap.size:=(dY.1 M).1;have F:W3.heap[w1.heap.size]?=Q1 (.mapIter (Q1 r) u (B.push e.born) u):=by
    rw[<-C];show(wd.heap.setIfInBounds _ _)[_]?=_;rw[U];simp[x1]
   have h1:∀j,j≠w1.heap.size->W3.heap[j]?=wr.heap[j]?:=λj O=>by
    rw[<-C];show(wd.heap.setIfInBounds _ _)[_]?=_;rw[U,Array.getElem?_setIfInBounds_ne (λe=>O e.symm)]
   have h2:W3.heap.size=wr.heap.size:=by
    rw[<-C];show(wd.heap.setIfInBounds _ _).size=_;rw[U];simp
   have h5:wr.grownBy W3 (Q1 w1.heap.size):=⟨by rw[<-C];rcases L with rfl|rfl<;>rfl,by rw[<-C];rcases L with rfl|rfl<;>rfl,by rw[<-C];rcases L with rfl|rfl<;>rfl,by rw[h2];exact af _,λj _ O=>h1 j λe=>O (by rw[e])⟩;have Y:W3.heap[r]?=Q1 (.map z u):=(h1 r ow).trans D.mp;have x0:=run_entry_at (P:=Tryz.prog) W3 w1.heap.size r u B z u e F Y h4 a1;have J:=D.row.kept h5 (by
    rcases D.row.2 with⟨rfl,_⟩|⟨g,x4,x5,rfl,_,H,_⟩
    ·exact .inl rfl
    ·refine .inr λe'=>?_
     have:g=w1.heap.size:=by simpa[Value.ownBlock]using e'
     subst this;rw[M]at H;cases H)
   have G:RowKit.Below w1.heap.size w1 W3:=D.bel.grown h5 D.bel.size (λj e=>by cases e;exact af _);rw[hk]at T x0;obtain⟨k1,k2,k3⟩:=k;simp only[dP]at T x0;have x3:=D.sub;have a4:=D.sn;have x2:=D.nd;clear C L U h2 h5 D
   go_wp2_with (at_builtin;refine wpList_append_own _ rfl _ _ 31 rfl w1.heap.size 27 i0 _ 3 32 Tryz.underlying31 hi a5 a6 a7 rfl (by decide) _ _ _ rfl ((J.alloc _).alloc _) ⟨W3.heap.size+1,0,none⟩ 1 1 [.int .i64 k1,.int .i64 k2,.string ⟨k3.toArray⟩] rfl rfl (by have:=Sa (W3.alloc (.cells #[.int .i64 k1,.int .i64 k2,.string ⟨k3.toArray⟩] 27)) [.int .i64 k1,.int .i64 k2,.string ⟨k3.toArray⟩] 27;simpa using this) (by simp[Value.oneCell']) (by unfold maxLen;omega) ow (by have:=G.size;simp;omega) ?_;intro v' w3 h8 W h7;go_frame)
   obtain⟨o3,a2⟩:∃o:Obj,o=.cells #[.int .i64 k1,.int .i64 k2,.string ⟨k3.toArray⟩] 27:=⟨_,rfl⟩;have X:World.grownBy ((W3.alloc o3).alloc o3) w3 u9.ownBlock:=by rw[a2];exact W
   clear W h7;have I:∀j,u9.ownBlock=Q1 j->w1.heap.size<=j/\j≠w1.heap.size:=by
    intro j O;rcases J.2 with⟨rfl,_⟩|⟨g,x4,x5,rfl,x7,H,_⟩
    ·simp[Value.ownBlock]at O
    ·have:g=j:=by simpa[Value.ownBlock]using O
     subst this;exact⟨x7,λe'=>by subst e';rw[F]at H;cases H⟩
   have m4:w1.heap.size<W3.heap.size:=(dY.1 F).1;have h0:∀j,j<=w1.heap.size->w3.heap[j]?=W3.heap[j]?:=λj O=>by
    rw[X.block j sg (λe'=>by obtain⟨a,b⟩:=I j e'.symm;omega),heap_alloc_old _ _ sg,heap_alloc_old _ _ ow]
   have Z:w3.heap[w1.heap.size]?=Q1 (Obj.mapIter (Q1 r) u (B.push e.born) u):=(h0 _ (af _)).trans F;have x9:Lt (E++[((k1,k2,k3),e)])=Lt E++[.int .i64 k1,.int .i64 k2,.string ⟨k3.toArray⟩]:=by simp[Lt]
   refine⟨⟨B.push e.born,E++[((k1,k2,k3),e)],⟨⟨u,Z,af _⟩,(h0 r ow).trans Y,?_,?_,?_,?_,?_,?_⟩⟩,?_⟩
   ·intro p hp;rcases cG.1 hp with h|h
    ·exact x3 p h
    ·obtain rfl:=eC.1 h;exact⟨h4,hk⟩
   ·simp[a4]
   ·rw[gD];refine List.nodup_append.2 ⟨x2,sw,λa ha b hb=>?_⟩;have:b=e.born:=by simpa using hb
    rintro rfl;exact x8 (this▸ha)
   ·rw[x9,ja];exact h8
   ·exact((G.alloc ow _).alloc sg _).grown X sg (λj O=>(I j O).1)
   ·have:=left_shrinks _ _ _ he;rw[ja];simp only[dR,jc];omega
   ·have e1:wr.iterSeen w1.heap.size=B:=by simp[World.iterSeen,M]
    have e2:w3.iterSeen w1.heap.size=B.push e.born:=by simp[World.iterSeen,Z]
    rw[e1,e2];exact left_shrinks _ _ _ he
abbrev V3:={x:Sem ze//aR x=Q3}
def ki(p:V3):List Value:=[.int .i64 p.1.1,.int .i64 p.1.2.1,.string ⟨(p.1.2.2:zD).toArray⟩]
def KR(p q:V3):Int:=aX p.1 q.1
theorem ziK[Inhabited V3](d:Array V3)(B u:Nat)(w:World)(H:HoldsK ki 3 w B 0 d)(G:B<w.heap.size)(h:d.size<4611686018427387904):
  Calls Tryz.prog 121 #[.slice (Q1 ⟨B,0,none⟩) d.size u,.func (.func 122) #[] #[]] w λe D=>e=.returned (.tuple #[])/\∃n os,D=sortWorldK ki 3 w B 0 n (d.toList.mergeSort λx y=>!(ltOf KR) y x).toArray os:=by
 refine AnyQ.slices_SortFunc_total Tryz.sortVal 3 Tryz.isAgg27 Tryz.sizeOf27 ki (λ_=>rfl) ?_ KR ?_ 122 #[] B 0 u d w zq5 ?_ H G h ?_
 ·intro x v C;simp only[ki,bL,List.not_mem_nil,or_false]at C;rcases C with rfl|rfl|rfl<;>rfl
 ·refine⟨λx=>?_,λx y z h g=>?_,λx y z h g=>?_⟩
  ·exact aq (g6 (a:=x.1))
  ·simp only[ltOf,aN]at h g⊢;exact gm (a:=x.1) (b:=y.1) (c:=z.1) h g
  ·simp only[ltOf,decide_eq_false_iff_not]at h g⊢;intro o;rcases kT x.2 y.2 h with e|e
   ·unfold KR at o;rw[e]at o;exact g o
   ·exact g (gm (a:=y.1) (b:=x.1) (c:=z.1) e o)
 ·intro m os J I x y;show Calls Tryz.prog 122 (#[Value.agg (ki x).toArray,Value.agg (ki y).toArray]++#[]) _ _;refine(zbk x.1.1 x.1.2.1 x.1.2.2 y.1.1 y.1.2.1 y.1.2.2 _).mono ?_;rintro L D ⟨rfl,E,F⟩;exact⟨rfl,gd_of E F⟩
 ·intro x y h g;simp only[ltOf,decide_eq_false_iff_not]at h g;rcases kT x.2 y.2 h with e|e
  ·exact Subtype.ext e
  ·exact absurd e g
theorem vl[Inhabited V3]:∀(l:List V3)(t:Nat),t<Io l*3->(l.flatMap ki)[t]?=Q1 (ki (l[t/3]!))[t%3]!
 |[],t,h=>by simp at h
 | a::l,t,h=>by
  rw[List.flatMap_cons];by_cases u:t<3
  ·have e0:t/3=0:=by omega
   have o:t%3=t:=by omega
   rw[mS (by simpa[ki]using u),e0,o];rw[List.getElem!_cons_zero,zU (by simpa[ki]using u),getElem!_pos]
  ·obtain⟨s,rfl⟩:∃s,t=s+3:=⟨t-3,ow⟩;have e0:(s+3)/3=s/3+1:=by omega
   have o:(s+3)%3=s%3:=by omega
   rw[pu (by simp[ki]),e0,o,List.getElem!_cons_succ];have:=vl l s (by simp at h;omega);simpa[ki]using this
theorem Dn:∀l:List V3,(l.flatMap ki).length=Io l*3
 |[]=>rfl
 | a::l=>by
  rw[List.flatMap_cons,ja,Dn l,dR];simp[ki];omega
theorem Xp[Inhabited V3]{w:World}{z:Nat}{v:Value}{l:List V3}(I:w.ownsRow z 27 3 v (Io l) (l.flatMap ki))(E:Io l<4611686018427387904)(X:l≠[]):
  Calls Tryz.prog 121 #[v,.func (.func 122) #[] #[]] w λe w'=>e=.returned (.tuple #[])/\w'.ownsRow z 27 3 v (Io l) ((l.mergeSort λx y=>!(ltOf KR) y x).flatMap ki)/\w.grownBy w' v.ownBlock:=by
 rcases I.2 with⟨_,h0⟩|⟨g,C,D,rfl,M,o,G,S,F,Z⟩
 ·exact absurd (List.length_eq_zero_iff.1 h0) X
 have hH:HoldsK ki 3 w g 0 l.toArray:=by
  intro t u;rw[size_flatK]at u;have J:t<Io l*3:=by simpa using u
  have hc:D.toList[t]?=Q1 (ki (l[t/3]!))[t%3]!:=by
   rw[<-vl l t J,<-Z,List.getElem?_take_of_lt J]
  refine⟨?_,by simp[World.frozen?,o]⟩;rw[get_flatK _ _ _ _ u];simp[World.cell?,o];simpa using hc
 have hs:=ziK l.toArray g C w hH (dY.1 o).1 (by simpa using E);have Y:l.toArray.size=Io l:=by simp
 rw[Y]at hs;refine hs.mono ?_;rintro e w' ⟨rfl,m,os,rfl⟩;have h:(l.mergeSort λx y=>!(ltOf KR) y x).length=Io l:=List.length_mergeSort _;simp only[];generalize(l.mergeSort λx y=>!(ltOf KR) y x)=B at h;have L:=vr (enc:=ki) (k:=3) (n:=m) (os:=os) B.toArray o;have H:∀b,b<w.heap.size->b≠g->(sortWorldK ki 3 w g 0 m B.toArray os).heap[b]?=w.heap[b]?:=λb hb W=>gX B.toArray hb W
 refine⟨by first|trivial|rfl,⟨by rw[Dn,h],.inr ⟨g,C,_,rfl,M,L,G,S,by simp[putCells,F],?_⟩⟩,⟨rfl,rfl,rfl,?_,λk hk W=>H k hk λe=>W (by rw[e];rfl)⟩⟩
 ·apply Co;intro t;by_cases u:t<Io l*3
  ·rw[List.getElem?_take_of_lt u,vl B t (by rw[h];exact u),sS];have O:t<D.size:=by rw[F];exact g8 u (fH 3 G)
   have T:=get_flatK ki 3 B.toArray t (by simpa[h]using u);have U:(flatK ki 3 B.toArray).size=Io l*3:=by simp[h]
   unfold putCells;rw[Array.getElem?_mapIdx,tB O];simp only[Ae,aQ,ez,U,u,and_self,if_true,Nat.sub_zero,T,id_eq];simp
  ·rw[eB sg,eB (by rw[Dn,h];omega)]
 ·unfold sortWorldK grow putRowK;simp[Sort.ahead]
theorem SZ(p:Option Addr)(c:Nat)(h:Value)(w:World):Calls Tryz.prog 121 #[.slice p 0 c,h] w λe o=>e=.returned (.tuple #[])/\o=w:=
 AnyF.slices_SortFunc_none {Tryz.sortVal with} p c h w
theorem zef:∀E:List ((Int×Int×zD)×MapEntry),(∀p∈E,aR p.1=Q3)->∃l:List V3,l.map (·.1)=E.map (·.1)/\l.flatMap ki=Lt E
 |[],_=>⟨[],rfl,rfl⟩
 | p::E,h=>by
  obtain⟨l,o,u⟩:=zef E λq z=>h q (pH _ z)
  refine⟨⟨p.1,h p Ab⟩::l,by simp[o],?_⟩;rw[List.flatMap_cons,u];rfl
def ZK(w1:World)(h:Array MapEntry)(v:Value)(o:World):Prop:=
 ∃(E:List ((Int×Int×zD)×MapEntry))(l:List V3),(∀p∈E,p.2∈h.toList/\p.2.key=dP p.1)/\(∀x∈h.toList,x.born∈E.map λp=>p.2.born)/\(E.map λp=>p.2.born).Nodup/\l.map (·.1)=E.map (·.1)/\
  o.ownsRow w1.heap.size 27 3 v (Io l) ((l.mergeSort λx y=>!(ltOf KR) y x).flatMap ki)/\RowKit.Below w1.heap.size w1 o
theorem Sc[Inhabited V3]{w1 wr:World}{r C:Nat}{h:Array MapEntry}{v:Value}{z:Array Nat}{E:List ((Int×Int×zD)×MapEntry)}(u:zeA w1 r C h v wr z E)(S:(leftOf h z).size=0)(Y:∀p∈E,aR p.1=Q3)(Z:h.size<=1000):
  Calls Tryz.prog 121 #[v,.func (.func 122) #[] #[]] wr λe M=>e=.returned (.tuple #[])/\ZK w1 h v M:=by
 obtain⟨l,J,W⟩:=zef E Y;have D:Io l=Io E:=by simpa using congrArg Io J
 have B:∀x∈h.toList,x.born∈E.map λp=>p.2.born:=λx hx=>by
  have:=all_seen h z S x hx;rw[<-u.sn];simpa using this
 have o:=u.row;rw[<-W,<-D]at o;obtain⟨c0,X,_⟩:=u.it;have L:w1.heap.size<=wr.heap.size:=u.bel.size;by_cases F:l=[]
 ·subst F;have hv:∃p c,v=.slice p 0 c:=by
   rcases o.2 with⟨rfl,_⟩|⟨g,G,H,rfl,_⟩
   ·exact⟨_,_,rfl⟩
   ·exact⟨_,_,rfl⟩
  obtain⟨p,c,rfl⟩:=hv;refine(SZ p c _ wr).mono ?_;rintro e M ⟨rfl,rfl⟩;exact⟨rfl,E,[],u.sub,B,u.nd,J,by simpa using o,u.bel⟩
 ·refine(Xp o (by have:=u.cnt;omega) F).mono ?_;rintro e M ⟨rfl,T,U⟩;refine⟨rfl,E,l,u.sub,B,u.nd,J,T,u.bel.grown U L λk O=>?_⟩;rcases o.2 with⟨rfl,_⟩|⟨g,G,H,rfl,I,_⟩
  ·simp[Value.ownBlock]at O
  ·have:g=k:=by simpa[Value.ownBlock]using O
   exact this▸I
theorem SU(x y z:V3)(h:ltOf KR x y=Q4)(g:ltOf KR y z=Q4):ltOf KR x z=Q4:=by
 simp only[ltOf,decide_eq_false_iff_not]at h g⊢;intro o;rcases kT x.2 y.2 h with e|e
 ·unfold KR at o;rw[e]at o;exact g o
 ·exact g (gm (a:=y.1) (b:=x.1) (c:=z.1) e o)
theorem ST(x y:V3):(!(ltOf KR y x)||!(ltOf KR x y))=Q3:=by
 by_cases h:xf y.1 x.1
 ·have:ltOf KR x y=Q4:=by
   simp only[ltOf,decide_eq_false_iff_not];exact λg=>g6 (a:=y.1) (gm (a:=y.1) (b:=x.1) (c:=y.1) h g)
  simp[this]
 ·have:ltOf KR y x=Q4:=by
   simp only[ltOf,decide_eq_false_iff_not];exact h
  simp[this]
theorem Pb(l:List V3)(B:(l.map (·.1)).Nodup) (z:∀x∈l,x.1.1≠0):(l.mergeSort λx y=>!(ltOf KR) y x).map (·.1)=iu (l.map (·.1)):=by
 by_cases o:l=[]
 ·subst o;simp[iu]
 ·refine Ye ?_ ((List.mergeSort_perm l _).map _) ?_
  ·have u:l.map (·.1)≠[]:=by simpa using o
   simp only[qY,aE,en,aN,bne_iff_ne,ne_eq];refine⟨⟨λx C=>?_,B⟩,by simpa using o⟩;obtain⟨y,D,rfl⟩:=bc.1 C;exact⟨y.2,z y D⟩
  ·rw[List.pairwise_map];refine(List.pairwise_mergeSort (λa b c h g=>?_) (λa b=>ST a b) l).imp λ{x y} h=>?_
   ·simp only[sT]at h g⊢;exact SU c b a g h
   ·simp only[ltOf,sT,decide_eq_false_iff_not]at h;exact h
theorem KX(es:List ((Int×Int×zD)×Int))(k:Int×Int×zD):List.Sublist (xr es k) es:=by
 unfold xr;split
 ·exact List.eraseIdx_sublist _ _
 ·exact List.Sublist.refl _
theorem yU(k:Int×Int×zD):∀(es:List ((Int×Int×zD)×Int))(i:Nat),(cy es k i).map (·.1)=(cy es k 0).map (λq=>q.1+i)
 |[],_=>rfl
 | p::r,i=>by
  unfold cy;cases k==p.1 with
  |true=>simp
  | false=>
   simp only[al];have u:=yU k r (i+1);have o:=yU k r 1;rw[u];cases h:cy r k 0 with
   |none=>rw[h]at o;cases z:cy r k (0+1)<;>simp_all
   | some q=>
    rw[h]at o;cases z:cy r k (0+1)with
    |none=>simp_all
    |some B=>simp_all;omega
theorem Sf(p:(Int×Int×zD)×Int)(r:List ((Int×Int×zD)×Int))(k:Int×Int×zD):xr (p::r) k=if k=p.1 then r else p::xr r k:=by
 unfold xr;by_cases h:k=p.1
 ·simp[cy,h]
 ·have z:(k==p.1)=Q4:=by simpa using h
  rw[if_neg h];simp only[cy,z,al];have:=yU k r 1;cases u:cy r k (0+1)with
  | none=>
   rw[u]at this;cases o:cy r k 0 with
   |none=>rfl
   |some q=>rw[o]at this;simp at this
  | some q=>
   rw[u]at this;cases o:cy r k 0 with
   |none=>rw[o]at this;simp at this
   | some B=>
    rw[o]at this;have e:q.1=B.1+1:=by simpa using this
    simp[e]
theorem CN(k:Int×Int×zD):∀{es:List ((Int×Int×zD)×Int)},(es.map (·.1)).Nodup->∀x,x∈(xr es k).map (·.1)↔x∈es.map (·.1)/\x≠k
 |[],_,x=>by simp[xr,cy]
 | p::r,hn,x=>by
  rw[jd,List.nodup_cons]at hn;rw[Sf];split
  ·rename_i h;subst h;rw[jd,bL];refine⟨λo=>⟨.inr o,λe=>hn.1 (e▸o)⟩,λ⟨h,u⟩=>h.resolve_left u⟩
  ·rename_i h;rw[jd,bL,jd,bL,CN k hn.2 x];refine⟨λo=>?_,λ⟨o,u⟩=>o.imp id λo=>⟨o,u⟩⟩;rcases o with rfl|o
   ·exact⟨.inl rfl,λe=>h e.symm⟩
   ·exact⟨.inr o.1,o.2⟩
theorem yl{α β:Type}{f:α->β}:∀{l:List α},(l.map f).Nodup->∀{a b:α},a∈l->b∈l->f a=f b->a=b
 |[],_,_,_,u,_,_=>by cases u
 | x::r,hn,a,b,u,hb,e=>by
  rw[jd,List.nodup_cons]at hn;rcases bL.1 u with o|o
  ·rcases bL.1 hb with h|h
   ·rw[o,h]
   ·exact absurd (show f x∈r.map f from bc.2 ⟨b,h,by rw[<-e,o]⟩) hn.1
  ·rcases bL.1 hb with h|h
   ·exact absurd (show f x∈r.map f from bc.2 ⟨a,o,by rw[e,h]⟩) hn.1
   ·exact yl hn.2 o h e
theorem Ma:∀{l m:List Nat},l.Nodup->(∀x∈l,x∈m)->Io l<=Io m
 |[],m,_,_=>by simp
 | a::r,m,hn,h=>by
  rw[List.nodup_cons]at hn;have o:=h a Ab;have z:=Ma (l:=r) (m:=m.erase a) hn.2 λx u=>(List.mem_erase_of_ne (λe:x=a=>hn.1 (e▸u))).2 (h x (pH _ u))
  have B:=List.length_erase_of_mem o;have C:=List.length_pos_of_mem o;rw[dR];omega
theorem WI{v:Sem ze}(h:aR v=Q3)(o:v.1=0):v=(0,0,[]):=by
 obtain⟨k,n,s⟩:=v;subst o;unfold aR at h;simp at h;simp[h]
theorem pV{a b:Int×Int×zD}(h:dP a=dP b):a=b:=by
 obtain⟨o,u,z⟩:=a;obtain⟨B,C,D⟩:=b;simpa[dP]using h
theorem Mg{h:Array MapEntry}{o:List ((Int×Int×zD)×Int)}(u:(h.toList.map λe=>(e.key,e.val))=C0 Q3 o):h.toList.map (·.key)=(o.map (·.1)).map dP:=by
 have:=congrArg (List.map Prod.fst) u;simpa[C0,pM,uE]using this
theorem tD{l m:List (Sem ze)}(u:∀x∈l,aR x=Q3)(z:∀x∈m,aR x=Q3)(h:∀x,x.1≠0->(x∈l↔x∈m)):iu l=iu m:=by
 obtain⟨B,C⟩:=nU u;obtain⟨D,E⟩:=nU z;refine JP B D λx=>?_
 rw[C,E];exact⟨λo=>⟨(h x o.2).1 o.1,o.2⟩,λo=>⟨(h x o.2).2 o.1,o.2⟩⟩
theorem SM{o:Array MapEntry}{u:List ((Int×Int×zD)×Int)}(he:(o.toList.map λe=>(e.key,e.val))=C0 Q3 u)(hn:(u.map (·.1)).Nodup) (Z:∀p∈u,aR p.1=Q3) (h0:∀p∈u,p.1.1≠0)
  {E:List ((Int×Int×zD)×MapEntry)} (B:∀p∈E,p.2∈o.toList/\p.2.key=dP p.1) (H:∀x∈o.toList,x.born∈E.map λp=>p.2.born) (X:(E.map λp=>p.2.born).Nodup) (J:(o.toList.map (·.born)).Nodup) {l:List V3} (U:l.map (·.1)=E.map (·.1)):
  (l.mergeSort λx y=>!(ltOf KR) y x).map (·.1)=iu (u.map (·.1)):=by
 have M:=Mg he;have T:(o.toList.map (·.key)).Nodup:=by
  rw[M];exact List.Pairwise.map _ (λa b h e=>h (pV e)) hn
 have C:∀p∈E,p.1∈u.map (·.1):=λp hp=>by
  obtain⟨h1,h2⟩:=B p hp;have:p.2.key∈o.toList.map (·.key):=bc.2 ⟨_,h1,rfl⟩;rw[M,h2]at this;obtain⟨k,O,S⟩:=bc.1 this;exact pV S▸O
 have W:(E.map (·.1)).Nodup:=by
  unfold List.Nodup at X⊢;rw[List.pairwise_map]at X⊢;refine X.imp_of_mem λ{p q} hp F h e=>h ?_
  obtain⟨Y,G⟩:=B p hp;obtain⟨q1,q2⟩:=B q F;have:p.2.key=q.2.key:=by rw[G,q2,e]
  rw[yl T Y q1 this]
 rw[Pb l (by rw[U];exact W) (λx z=>by
  have:x.1∈E.map (·.1):=by rw[<-U];exact bc.2 ⟨x,z,rfl⟩
  obtain⟨p,hp,e⟩:=bc.1 this;obtain⟨q,F,I⟩:=bc.1 (C p hp);rw[<-e,<-I];exact h0 q F),U]
 refine tD (λx z=>?_) (λx z=>?_) λx _=>⟨λz=>?_,λz=>?_⟩
 ·obtain⟨p,hp,rfl⟩:=bc.1 z;obtain⟨q,F,I⟩:=bc.1 (C p hp);exact I▸Z q F
 ·obtain⟨p,hp,rfl⟩:=bc.1 z;exact Z p hp
 ·obtain⟨p,hp,rfl⟩:=bc.1 z;exact C p hp
 ·have:dP x∈o.toList.map (·.key):=by rw[M];exact bc.2 ⟨x,z,rfl⟩
  obtain⟨e,D,L⟩:=bc.1 this;obtain⟨p,hp,hb⟩:=bc.1 (H e D);obtain⟨Y,G⟩:=B p hp;have:p.2=e:=yl J Y D hb;rw[this,L]at G;exact bc.2 ⟨p,hp,(pV G).symm⟩
end
end Cad
