/- Contracts. -/
import Derived.Test.YtjfdpfapcmcncaaGreatDoorR22
namespace Cad
open Go Go.Proofs Go.RowKit Go.ChangeShapes Go.WideShapes Go.ChangeAt
open List renaming length→Io
open IntKind renaming wrap→Γ,i64→Δ
open Tr renaming val→Q8
open Sh renaming bool→Q7
open Bool renaming false→Q4,true→Q3
open Option renaming some→Q1
open Decidable renaming decide→Q0
open Int (toNat)
open List (getD)
open Tr (chk br re)
open AV (nils agg tup ptr kb str sl)
section
variable {w:World} {U:Nat->Prop} {ρ:Nat->Option Value}
def Nk(w:World)(U:Nat->Prop)(ρ:Nat->Option Value)(l:List AV):Prop:=∀(j:Nat)(c:AV),l[j]?=Q1 c->∃v,Rv w U ρ c v
theorem LB{n:Int}{v:Value}(h:Rv w U ρ (.int .i64 n) v):-9223372036854775808<=n/\n<=9223372036854775807:=by
 cases h with
 |int _ _ h=>simpa[cy,IntKind.min,IntKind.max,IntKind.signed,IntKind.bits]using h
theorem sm{e:Sh}{l:List (Sem e)}{v:Value}(h:Rv w U ρ (.sl e l) v):∀x∈l,Nk w U ρ (zu e x):=by
 intro x z;cases h with
 |sl0=>simp at z
 | sl _ _ _ _ _ B G H F E o D=>
  obtain⟨i,C,rfl⟩:=fz z;exact λj c h=>⟨_,D i C j c h⟩
theorem VA{v:Sem ze}(h:Nk w U ρ (zu ze v)):RgV v:=by
 obtain⟨_,h⟩:=h 1 _ rfl;exact LB h
mutual
theorem Dr:∀(e:zf),Nk w U ρ (zu .expr e)->TE e
 | .mk C v s l,h=>by
  rw[TE];obtain⟨_,o⟩:=h 2 _ rfl;obtain⟨_,z⟩:=h 5 _ rfl;exact⟨LB o,PW l λx B=>sm z x B⟩
theorem PW:∀(l:List zf),(∀x∈l,Nk w U ρ (zu .expr x))->H0 l
 |[],_=>by rw[H0];trivial
 |x::r,h=>by rw[H0];exact⟨Dr x (h x sw),PW r λy o=>h y (by simp[o])⟩
end
theorem zho{x:Sem zh}(h:Nk w U ρ (zu zh x)):RgR x where
 chk:=Dr _ λj c o=>match j,o with
  |0,o=>h 5 c o
  |1,o=>h 6 c o
  |2,o=>h 7 c o
  |3,o=>h 8 c o
  |4,o=>h 9 c o
  |5,o=>h 10 c o
  |j+6,o=>by simp[zu]at o
 vals:=by
  obtain⟨_,h⟩:=h 11 _ rfl;intro r z v B;obtain⟨_,h⟩:=sm h r z 0 _ rfl;exact VA (sm h v B)
end
theorem T8{w:World}{U:Nat->Prop}{ρ:Nat->Option Value}{cs:List AV}{v:Value}(h:Rv w U ρ (.agg cs) v):Nk w U ρ cs:=by
 intro j c o;cases h with
 | agg _ vs D C B=>
  have z:j<Io vs:=by have:=(dn.1 o).1;omega
  exact⟨vs[j],B j c _ o (zU z)⟩
theorem zhp{w:World}{U:Nat->Prop}{ρ:Nat->Option Value}{s:Sem zn}(h:Nk w U ρ (zu zn s)):RgS s where
 chk:=Dr _ λj c o=>match j,o with
  |0,o=>h 8 c o
  |1,o=>h 9 c o
  |2,o=>h 10 c o
  |3,o=>h 11 c o
  |4,o=>h 12 c o
  |5,o=>h 13 c o
  |j+6,o=>by simp[zu]at o
 whr:=Dr _ λj c o=>match j,o with
  |0,o=>h 16 c o
  |1,o=>h 17 c o
  |2,o=>h 18 c o
  |3,o=>h 19 c o
  |4,o=>h 20 c o
  |5,o=>h 21 c o
  |j+6,o=>by simp[zu]at o
 row:=by
  obtain⟨_,h⟩:=h 14 _ rfl;exact λv z=>VA (sm h v z)
 sets:=by
  obtain⟨_,h⟩:=h 15 _ rfl;intro x B;have h:=sm h x B;exact Dr _ λj c o=>match j,o with
   |0,o=>h 1 c o
   |1,o=>h 2 c o
   |2,o=>h 3 c o
   |3,o=>h 4 c o
   |4,o=>h 5 c o
   |5,o=>h 6 c o
   |j+6,o=>by simp[zu]at o
open Go Go.Proofs
set_option maxHeartbeats 4000000
theorem Ym{p:Sem zq}{db o:List (Sem zh)}{z:Bool}(h:D1 p db=Q1 (o,z,())):Bn p db=Q1 (p,o,z,()):=by
 have B:OC p db=Q3:=by unfold OC;rw[h];rfl
 have C:XE p db=(o,z):=by unfold XE;rw[h];rfl
 have e:p=(p.1,p.2.1,p.2.2.1,(p.2.2.2.1.1,p.2.2.2.1.2.1,p.2.2.2.1.2.2.1,p.2.2.2.1.2.2.2.1,p.2.2.2.1.t.1,zm p.2.2.2.1.t.2),p.t):=by rw[zk]
 refine(zM (i:=zhu p db) (t:=t0) (n:=100000000) (outs:=[zq,zh.sl,Q7]) (by
  simp only[zhu,zk,Prod.eta,Q8,B,C,if_true];rfl) (y:=((p.1,p.2.1,p.2.2.1,(p.2.2.2.1.1,p.2.2.2.1.2.1,p.2.2.2.1.2.2.1,p.2.2.2.1.2.2.2.1,p.2.2.2.1.t.1,zm p.2.2.2.1.t.2),p.t),o,z,())) rfl).trans ?_
 rw[<-e]
theorem aF.uall{db:List (Sem zh)}{p:Sem zq}(h:aF db p):Kd p (zI db p)=Q1 (cv p (zI db p),0,()):=by
 obtain⟨o,z⟩:=IU h.go;refine zM (r:=(tup [sl ze (cv p (zI db p)),ai 0],[])) ?_ rfl;simp only[zmZ,zk,Prod.eta,Q8,o,z,h.all,jJ,zA,if_true,if_false]
theorem zbU{l:List (Sem ze)}(v:Sem ze)(J:Io l<=1000000):Rj l v=Q1 (zW (pB v) l 0,()):=by
 have E:(znn l v).val=Q1 (.inl (.h2 l (Io l:Int) ((0:Nat):Int) (v,()))):=rfl
 have o:∀k,k<=Io l->(∀x∈l.take k,pB v x=Q4)->zL Tl (k*1) (.h2 l (Io l:Int) ((0:Nat):Int) (v,())) (.h2 l (Io l:Int) (k:Int) (v,())):=λk C G=>
  zL.all (t:=Tl) 1 (λi=>.h2 l (Io l:Int) (i:Int) (v,())) k λi I=>zL.of (by
   have h:i<Io l:=by omega
   have z:pB v l[i]=Q4:=G _ (List.mem_take_iff_getElem.2 ⟨i,ow,rfl⟩);unfold pB at z;simp only[Tl,Q8,zF h,zt h,if_true,zH _ _ h,z,zA,if_false];rw[zr i um])
 rcases dC (pB v) l 0 with⟨D,B⟩|⟨k,C,D,B,F⟩
 ·rw[D];refine zy E ((o (Io l) (ae _) (λx H=>B x (List.mem_of_mem_take H))).ends (zV.of (r:=(.int .i64 (-1),[])) ?_)) ow rfl;simp only[Tl,Q8,zB,zA,if_false]
 ·rw[D];refine zy E ((o k ow F).ends (zV.of (r:=(.int .i64 (k:Int),[])) ?_)) ow (by rw[ek];rfl);unfold pB at B;simp only[Tl,Q8,zF C,zt C,if_true,zH _ _ C,B]
theorem zbT{l:List (Sem ze)}(v:Sem ze)(C:Io l<=1000000):M4 l v=Q3/\FN l v=l.any (pB v):=by
 have h:=zbU v C;have o:Ys l v=Q3:=by unfold Ys;rw[h];rfl
 have z:ziK l v=zW (pB v) l 0:=by unfold ziK;rw[h];rfl
 have B:Q0 (GE.ge (α:=Int) (zW (pB v) l 0) 0)=l.any (pB v):=by rw[iY,xZ,List.any_eq_true]
 have:Ri l v=Q1 (l.any (pB v),()):=by
  refine zM (r:=(.bool (l.any (pB v)),[])) ?_ rfl;simp only[zng,Q8,o,z,if_true];rw[B]
 exact⟨by unfold M4;rw[this];rfl,by unfold FN;rw[this];rfl⟩
theorem XW{x:Sem zh}(v:Sem ze)(h:dp x.1=Q3):OU x v=Q3/\XV x v=zW (λr=>bf r x.1.2.2.1 v) x.2 0:=by
 have:JC x v=Q1 (zW (λr=>bf r x.1.2.2.1 v) x.2 0,()):=by
  refine zM (r:=(.int .i64 (zW (λr=>bf r x.1.2.2.1 v) x.2 0),[])) ?_ rfl;simp only[znf,zk,Prod.eta,Q8,h,bA,zA,if_false]
 exact⟨by unfold OU;rw[this];rfl,by unfold XV;rw[this];rfl⟩
theorem kQ{row:List (Sem ze)}{c:Int}{v:Sem ze}(h:zJ c (Io row)=Q3):bf row c v=Q3↔zE c row=v:=by
 simp only[zJ,aE,aQ]at h;unfold bf;rw[zx (show GE.ge (α:=Int) c 0 from h.1),zx (show LT.lt (α:=Int) c (Io row:Int)from h.2),af,af];exact kF
theorem dH.find{x:Sem zh}(h:dH x){row:List (Sem ze)}(D:row∈x.2):
  ∃(k:Nat)(z:k<Io x.2),zW (λr=>bf r x.1.2.2.1 (zE x.1.2.2.1 row)) x.2 0=(k:Int)/\x.2[k]=row:=by
 rcases dC (λr=>bf r x.1.2.2.1 (zE x.1.2.2.1 row)) x.2 0 with⟨_,C⟩|⟨k,z,F,C,_⟩
 ·have:=C row D;rw[(kQ (h.keys row D)).2 rfl]at this;cases this
 ·refine⟨k,z,by rw[F,ek],?_⟩;have e:=(kQ (h.keys _ (aK z))).1 C;obtain⟨j,E,rfl⟩:=fz D;by_cases B:k=j
  ·subst B;rfl
  ·have hp:=List.pairwise_iff_getElem.1 (List.pairwise_map.1 (P2 h.pw));rcases Nat.lt_or_gt_of_ne B with o|o
   ·exact absurd e (hp k j z E o)
   ·exact absurd e.symm (hp j k E z o)
section
variable {db:List (Sem zh)} {p:Sem zq}
theorem aF.has(h:aF db p){row:List (Sem ze)}(B:row∈(de db p).2)(o:(zE (bY p (zI db p)) row).1≠0):zE (bY p (zI db p)) row∈cv p (zI db p):=by
 refine(h.is _).2 λz=>?_
 have:=List.filter_eq_nil_iff.1 z row B;exact this (ou.2 ⟨rfl,o⟩)
theorem aF.hasC(h:aF db p)(v:Sem ze):M4 (cv p (zI db p)) v=Q3/\(FN (cv p (zI db p)) v=Q3↔v∈cv p (zI db p)):=by
 have B:=h.few;have C:=h.rel.few;obtain⟨a,b⟩:=zbT (l:=cv p (zI db p)) v ow;refine⟨a,?_⟩;rw[b,List.any_eq_true];constructor
 ·rintro⟨x,z,e⟩;rw[kF.1 e];exact z
 ·intro o;exact⟨v,o,kF.2 rfl⟩
noncomputable def sJ(db:List (Sem zh))(p:Sem zq)(v:Sem ze):Sem ze×Int:=
 if p.1=eX then
  let h:=zW (λr=>bf r (de db p).1.2.2.1 v) (de db p).2 0
  if LT.lt (α:=Int) h 0 then((0,0,[]),6)else
   let u:=zE p.t.2 (getD (de db p).2 h.toNat (zi ze.sl))
   if FN (cv p (zI db p)) u=Q3 then(u,0)else((0,0,[]),6)
 else if FN (cv p (zI db p)) v=Q3 then(v,0)else((0,0,[]),6)
theorem aF.key(h:aF db p)(v:Sem ze):Rh p (zI db p) v=Q1 ((sJ db p v).1,(sJ db p v).2,()):=by
 obtain⟨H,I⟩:=IU h.go;have z:zJ 0 (zI db p).length=Q3:=zt (i:=0) (wW h.go.two).1;have C:getD (zI db p) (toNat 0) (zi zh)=de db p:=rfl;obtain⟨O,M⟩:=XW (x:=de db p) v h.rel.may;by_cases G:p.1=eX
 ·have F:(p.1==eX)=Q3:=by simpa using G
  have S:bY p (zI db p)=p.t.2:=by
   unfold bY;rw[if_neg (by rw[G];decide),if_pos G]
  unfold sJ;rw[if_pos G];by_cases L:LT.lt (α:=Int) (zW (λr=>bf r (de db p).1.2.2.1 v) (de db p).2 0) 0
  ·simp only[if_pos L];refine zM (r:=(tup [agg [ai 0,ai 0,str []],ai 6],[])) ?_ rfl;simp only[SB,zk,Prod.eta,Q8,H,I,F,z,C,O,M,jJ,zA,if_true,if_false];rw[if_pos (zx L)]
  ·simp only[if_neg L];rcases fU (λr=>bf r (de db p).1.2.2.1 v) (de db p).2 0 with e|⟨W,X⟩
   ·rw[e]at L;omega
   ·obtain⟨k,Z⟩:∃k:Nat,zW (λr=>bf r (de db p).1.2.2.1 v) (de db p).2 0=(k:Int):=⟨_,(Int.toNat_of_nonneg W).symm⟩;rw[Z]at L X M⊢;have o:k<(de db p).2.length:=by omega
    have D:=(h.inn _ (aK o)).1;rw[S]at D;obtain⟨J,Y⟩:=h.hasC (zE p.t.2 (de db p).2[k]);have T:Q0 ((k:Int)<0)=Q4:=by simp
    rw[zH _ _ o];by_cases B:FN (cv p (zI db p)) (zE p.t.2 (de db p).2[k])=Q3
    ·rw[if_pos B];refine zM (r:=(tup [agg [ai (zE p.t.2 (de db p).2[k]).1,ai (zE p.t.2 (de db p).2[k]).2.1,str (zE p.t.2 (de db p).2[k]).2.2],ai 0],[])) ?_ rfl;simp only[SB,zk,Prod.eta,Q8,H,I,F,z,C,O,M,T,zt o,zH _ _ o,D,h.all,J,B,jJ,bA,zA,if_true,if_false]
    ·rw[if_neg B];have E:=Bool.eq_false_iff.2 B;refine zM (r:=(tup [agg [ai 0,ai 0,str []],ai 6],[])) ?_ rfl;simp only[SB,zk,Prod.eta,Q8,H,I,F,z,C,O,M,T,zt o,zH _ _ o,D,h.all,J,E,jJ,cA,zA,if_true,if_false]
 ·have F:(p.1==eX)=Q4:=by simpa using G
  unfold sJ;rw[if_neg G];obtain⟨J,Y⟩:=h.hasC v;by_cases B:FN (cv p (zI db p)) v=Q3
  ·rw[if_pos B];refine zM (r:=(tup [agg [ai v.1,ai v.2.1,str v.2.2],ai 0],[])) ?_ rfl;simp only[SB,zk,Prod.eta,Q8,H,I,F,h.all,J,B,jJ,bA,zA,if_true,if_false]
  ·rw[if_neg B];have E:=Bool.eq_false_iff.2 B;refine zM (r:=(tup [agg [ai 0,ai 0,str []],ai 6],[])) ?_ rfl;simp only[SB,zk,Prod.eta,Q8,H,I,F,h.all,J,E,jJ,cA,zA,if_true,if_false]
end
def Hd(a b:Sem ze):Bool:=!Q0 (GT.gt (α:=Int) (aX a b) 0)
theorem SZ(a:Sem ze):aX a a=(0:Int):=by
 unfold aX;show FG [pR (an a).1 (an a).1,jM (an a).2.1 (an a).2.1,mU (an a).2.2 (an a).2.2]=(0:Int);rw[<-IK,if_pos sw]
theorem vE{a b:Sem ze}(z:aU a=Q3)(B:aU b=Q3):Hd a b=Q3↔(xf a b\/a=b):=by
 unfold Hd xf;simp only[sT,decide_eq_false_iff_not];constructor
 ·intro h;by_cases o:aX a b=(0:Int)
  ·exact .inr (uj z B o)
  ·exact .inl (Int.lt_iff_le_and_ne.2 ⟨Int.not_lt.1 h,o⟩)
 ·rintro(h|rfl)
  ·exact Int.not_lt.2 (Int.le_of_lt h)
  ·rw[SZ];exact Int.lt_irrefl _
theorem Hf{a b c:Sem ze}(o:aU a=Q3)(z:aU b=Q3)(B:aU c=Q3)(h:Hd a b=Q3)(g:Hd b c=Q3):Hd a c=Q3:=by
 rw[vE o z]at h;rw[vE z B]at g;rw[vE o B];rcases h with h|rfl
 ·rcases g with g|rfl
  ·exact .inl (gn h g)
  ·exact .inl h
 ·exact g
theorem He{a b:Sem ze}(o:aU a=Q3)(z:aU b=Q3)(h:¬Hd a b=Q3):Hd b a=Q3:=by
 rw[vE o z]at h;rw[vE z o];simp only[not_or]at h;rcases kX o z h.1 with e|e
 ·exact absurd e h.2
 ·exact .inl e
section
variable {α:Type} (k:α->Sem ze)
def Du(row:α)(l:List α):List α:=l.filter (λx=>Hd (k x) (k row))++row::l.filter (λx=>!Hd (k x) (k row))
def jP(l:List α):List α:=l.foldl (λacc row=>Du k row acc) []
def F0(l:List α):Prop:=l.Pairwise λa b=>Hd (k a) (k b)=Q3
variable {k}
theorem Uy{row:α}:∀{l:List α},(∀x∈row::l,aU (k x)=Q3)->F0 k l->∃m,m<=Io l/\l.filter (λx=>Hd (k x) (k row))=l.take m/\l.filter (λx=>!Hd (k x) (k row))=l.drop m/\
   (∀i(h:i<Io l),i<m->Hd (k l[i]) (k row)=Q3)/\(∀i(h:i<Io l),m<=i->Hd (k l[i]) (k row)=Q4)
 |[],_,_=>⟨0,ae _,rfl,rfl,λi h=>absurd h (Nat.not_lt_zero i),λi h=>absurd h (Nat.not_lt_zero i)⟩
 | a::r,hm,hr=>by
  obtain⟨D,E⟩:=List.pairwise_cons.1 hr;cases B:Hd (k a) (k row)with
  | true=>
   obtain⟨m,G,H,I,J,L⟩:=Uy (row:=row) (l:=r) (λx o=>hm x (by simp at o⊢;rcases o with h|h<;>simp[h])) E;refine⟨m+1,by simpa using G,by simp[B,H],by simp[B,I],λi h C=>?_,λi h C=>?_⟩
   ·cases i with
    |zero=>exact B
    |succ i=>exact J i (by simpa using h) ow
   ·cases i with
    |zero=>omega
    |succ i=>exact L i (by simpa using h) ow
  | false=>
   have z:∀x∈r,Hd (k x) (k row)=Q4:=λx o=>by
    cases F:Hd (k x) (k row)with
    |false=>rfl
    |true=>rw[Hf (hm a sw) (hm x (by simp[o])) (hm row sw) (D x o) F]at B;cases B
   refine⟨0,sw,?_,?_,λi h C=>by omega,λi h _=>?_⟩
   ·rw[List.take_zero,List.filter_eq_nil_iff];intro x o;rcases bL.1 o with rfl|o
    ·rw[B];simp
    ·rw[z x o];simp
   ·rw[List.drop_zero,List.filter_eq_self];intro x o;rcases bL.1 o with rfl|o
    ·rw[B];rfl
    ·rw[z x o];rfl
   ·cases i with
    |zero=>exact B
    |succ i=>exact z _ (aK _)
theorem SF(row:α)(l:List α):(Du k row l).Perm (row::l):=by
 unfold Du;refine(List.perm_middle).trans (List.Perm.cons _ ?_);exact List.filter_append_perm _ _
theorem jr(l:List α):(jP k l).Perm l:=by
 have o:∀(l acc:List α),(l.foldl (λacc row=>Du k row acc) acc).Perm (l++acc):=by
  intro l
  induction l with
  |nil=>intro acc;exact List.Perm.refl _
  |cons a r z=>intro acc;exact(z _).trans ((List.Perm.append_left r (SF a acc)).trans List.perm_middle)
 have h:=o l [];rw[o8]at h;exact h
theorem SG{row:α}{l:List α}(o:∀x∈row::l,aU (k x)=Q3)(h:F0 k l):F0 k (Du k row l):=by
 unfold Du F0;rw[List.pairwise_append,List.pairwise_cons];refine⟨h.filter _,⟨λx C=>?_,h.filter _⟩,λx C y D=>?_⟩
 ·obtain⟨B,z⟩:=List.mem_filter.1 C;exact He (o x (by simp[B])) (o row sw) (by simpa using z)
 ·obtain⟨B,z⟩:=List.mem_filter.1 C;rcases bL.1 D with rfl|D
  ·exact z
  ·obtain⟨E,F⟩:=List.mem_filter.1 D;exact Hf (o x (by simp[B])) (o row sw) (o y (by simp[E])) z (He (o y (by simp[E])) (o row sw) (by simpa using F))
end
def pG(k:Int)(r:List (Sem ze)):Prop:=zJ k (Io r)=Q3/\kd (zE k r)/\aU (zE k r)=Q3
section
variable {t:Sem zo} {rows acc:List (List (Sem ze))} {i:Nat} {z1:zl xn}
theorem Dp{α:Type}(l:List α)(d:α){i:Nat}(h:i<Io l):l.getD i d=l[i]:=zH l d h
theorem UC(D:AP t)(B:dp t=Q3)(E:i<Io rows)(C:pG t.2.2.1 rows[i])(G:∀r∈acc,pG t.2.2.1 r)(L:Io acc<=1000000){m:Nat}
  (H:∀j(h:j<Io acc),m<=j->Hd (zE t.2.2.1 acc[j]) (zE t.2.2.1 rows[i])=Q4):
  ∀d,m+d<=Io acc->zL A1 d (.h6 (i:Int) ((m+d:Nat):Int) ((t,rows),()) z1 (t,acc,())) (.h6 (i:Int) (m:Int) ((t,rows),()) z1 (t,acc,()))
 |0,_=>zL.refl _
 | d+1,M=>by
  refine zL.trans (b:=d) (a:=1) ?_ (UC D B E C G L H d ow);have z:m+d<Io acc:=by omega
  obtain⟨I,J,O⟩:=G _ (aK z);have o:=H (m+d) z ow;unfold Hd at o;rw[Bool.not_eq_false']at o;have F:Γ Δ (((m+(d+1):Nat):Int)-1)=((m+d:Nat):Int):=lV (m+d) um;have hp:Q0 (((m+(d+1):Nat):Int)>0)=Q3:=by simp;omega
  refine zL.of ?_
  simp only[A1,Q8,zk,Prod.eta,hp,F,af,zt z,zt E,Dp _ _ z,Dp _ _ E,aD,zx z,nA D B I,nA D B C.1,
   r7 D B I,r7 D B C.1,lF J.2.2 C.2.1.2.2,np J.2.2 C.2.1.2.2,o,Bool.and_true,if_true]
theorem ziG(E:AP t)(C:dp t=Q3)(o:i<Io rows)(hn:Io rows<=1000000)(z:pG t.2.2.1 rows[i])(F:∀r∈acc,pG t.2.2.1 r)(hl:Io acc<=1000000)(G:F0 (zE t.2.2.1) acc):
  zL A1 (Io acc+2) (.h3 (i:Int) ((t,rows),()) z1 (t,acc,())) (.h3 ((i+1:Nat):Int) ((t,rows),()) z1 (t,Du (zE t.2.2.1) rows[i] acc,())):=by
 obtain⟨m,Y,m2,m3,m4,m5⟩:=Uy (k:=zE t.2.2.1) (row:=rows[i]) (l:=acc) (λx H=>by
  rcases bL.1 H with rfl|H
  ·exact z.2.2
  ·exact(F x H).2.2) G
 have Z:zL A1 1 (.h3 (i:Int) ((t,rows),()) z1 (t,acc,())) (.h6 (i:Int) ((m+(Io acc-m):Nat):Int) ((t,rows),()) z1 (t,acc,())):=zL.of (by
  rw[Nat.add_sub_cancel' Y];simp only[A1,Q8,zF o,if_true])
 have h2:=UC (z1:=z1) E C o z F hl m5 (Io acc-m) ow;have h3:zL A1 1 (.h6 (i:Int) (m:Int) ((t,rows),()) z1 (t,acc,())) (.h3 ((i+1:Nat):Int) ((t,rows),()) z1 (t,Du (zE t.2.2.1) rows[i] acc,())):=zL.of (by
  have I:Q0 (0<=(m:Int))=Q3:=by simp
  have J:Q0 ((m:Int)<=(Io acc:Int))=Q3:=by simpa using Y
  have L:Q0 ((Io acc:Int)<=(Io acc:Int))=Q3:=by simp
  have M:List.take (m-toNat 0) (List.drop (toNat 0) acc)=acc.take m:=by simp
  have O:List.take (Io acc-m) (List.drop m acc)=acc.drop m:=Ch sw;have w0:=zr i um;have l1:Q0 ((acc.take m).length<=1073741824)=Q3:=by simp;omega
  have W:Q0 ((acc.take m).length+[rows[i]].length<=1073741824)=Q3:=by simp;omega
  have X:Q0 ((acc.take m++[rows[i]]).length+(acc.drop m).length<=1073741824)=Q3:=by simp;omega
  have D:Du (zE t.2.2.1) rows[i] acc=acc.take m++[rows[i]]++acc.drop m:=by unfold Du;rw[m2,m3];simp
  rw[D];cases m with
  | zero=>
   simp only[A1,Q8,zk,Prod.eta,show Q0 (((0:Nat):Int)>0)=Q4 from rfl,ao,zt o,Dp _ _ o,aD,M,O,l1,W,X,I,J,L,w0,Bool.and_true,zA,if_true,if_false];rfl
  | succ m=>
   have B:m<Io acc:=by omega
   obtain⟨S,T,k3⟩:=F _ (aK B);have h:=m4 m B ow;unfold Hd at h;rw[sT]at h;have hp:Q0 (((m+1:Nat):Int)>0)=Q3:=zx ow;have w1:=lV m um
   simp only[A1,Q8,zk,Prod.eta,hp,w1,af,zt o,zt B,Dp _ _ o,Dp _ _ B,aD,zx B,nA E C S,nA E C z.1,r7 E C S,r7 E C z.1,lF T.2.2 z.2.1.2.2,np T.2.2 z.2.1.2.2,h,
    M,O,l1,W,X,I,J,L,w0,Bool.and_true,zA,if_true,if_false]
   rfl)
 exact((Z.trans h2).trans h3).mono ow
theorem S9(M:AP t)(I:rows≠[]->dp t=Q3)(J:Io rows<=1000)(F:∀r∈rows,pG t.2.2.1 r):BM (t,rows)=Q1 ((t,jP (zE t.2.2.1) rows),()):=by
 have L:(znc (t,rows)).val=Q1 (.inl (.h3 ((0:Nat):Int) ((t,rows),()) ([],0,[],0,0,[],[],()) (t,[],()))):=rfl;have z:∀i,i<=Io rows->(jP (zE t.2.2.1) (rows.take i)).length=i:=λi C=>by rw[(jr _).length_eq];simp;omega
 have B:∀i,∀r∈jP (zE t.2.2.1) (rows.take i),r∈rows:=λi r h=>List.mem_of_mem_take ((jr _).mem_iff.1 h)
 have o:∀i(h:i<Io rows),jP (zE t.2.2.1) (rows.take (i+1))=Du (zE t.2.2.1) rows[i] (jP (zE t.2.2.1) (rows.take i)):=λi h=>by
  unfold jP;rw[bg h,List.foldl_append];rfl
 have D:∀i,i<=Io rows->F0 (zE t.2.2.1) (jP (zE t.2.2.1) (rows.take i)):=by
  intro i
  induction i with
  |zero=>intro _;exact .nil
  | succ i O=>
   intro C;rw[o i C];refine SG (λx G=>?_) (O ow);rcases bL.1 G with rfl|G
   ·exact(F _ (aK C)).2.2
   ·exact(F x (B i x G)).2.2
 have H:=zL.all (t:=A1) 1002 (λi=>.h3 (i:Int) ((t,rows),()) ([],0,[],0,0,[],[],()) (t,jP (zE t.2.2.1) (rows.take i),())) (Io rows) λi C=>by
  rw[o i C];exact(ziG M (I (List.ne_nil_of_length_pos ow)) C ow (F _ (aK C)) (λr h=>F r (B i r h)) (by rw[z i ow];omega) (D i ow)).mono (by rw[z i ow];omega)
 simp only[fI]at H;have E:∃r,zV A1 1 (.h3 (Io rows:Int) ((t,rows),()) ([],0,[],0,0,[],[],()) (t,jP (zE t.2.2.1) rows,())) r/\aI r.2 [zh] r.1=Q1 ((t,jP (zE t.2.2.1) rows),()):=by
  refine⟨_,zV.of (by
   simp only[A1,Q8,zB,zA,if_false];rfl),?_⟩
  show Q1 (((t.1,t.2.1,t.2.2.1,t.2.2.2.1,t.t.1,zm t.t.2),jP (zE t.2.2.1) rows),())=_;rw[zk]
 obtain⟨r,S,T⟩:=E;have:Io rows*1002<=1000*1002:=fH _ J;exact zy L (H.ends S) ow T
theorem XO(B:AP t)(h:rows≠[]->dp t=Q3)(o:Io rows<=1000)(z:∀r∈rows,pG t.2.2.1 r):Jn (t,rows)=Q3/\OM (t,rows)=(t,jP (zE t.2.2.1) rows):=by
 have:=S9 B h o z;exact⟨by unfold Jn;rw[this];rfl,by unfold OM;rw[this];rfl⟩
end
structure uE (db:List (Sem zh)) (p:Sem zq):Prop where
 wf:AP p.2.2.2.1
 fr:F1 (de db p)
 few:Io p.t.1<=1000
 copy:p.1=cT->(∀c∈p.t.1,zJ c (de db p).1.2.1.length=Q3)/\∃(k:Nat)(h:k<Io p.t.1),p.2.2.2.1.2.2.1=(k:Int)/\p.t.1[k]=(de db p).1.2.2.1
 join:p.1=eX->p.2.2.2.1.2.2.1=(de db p).1.2.2.1/\∃y:Sem zh,zI db p=[de db p,y]/\dH y/\F1 y/\(∀c∈p.t.1,zJ c (Io y.1.2.1)=Q3)/\∀row∈(de db p).2,(zE p.t.2 row).1≠0->gg y y.1.2.2.1 (zE p.t.2 row)=Q3
 group:p.1=kq->p.2.2.2.1.2.2.1=0/\∃a b,p.t.1=[a,b]/\zJ a (de db p).1.2.1.length=Q3/\zJ b (de db p).1.2.1.length=Q3
theorem F1.cut{x:Sem zh}{q:zD->Bool}(h:F1 x):F1 (jh q x):=
 ⟨⟨h.t.name,h.t.cols,h.t.ncols,h.t.nuq,bt (List.length_filter_le _ _) h.t.nrf,λf o=>h.t.refs f (List.mem_filter.1 o).1,h.t.chk⟩,h.rows,h.vals⟩
theorem DW{t:Sem zo}{a:zD}(h:¬LT.lt (α:=Int) (zR t a) 0):zJ (zR t a) (Io t.2.1)=Q3:=mg ⟨ow,(gZ h).2⟩
theorem PE{t:Sem zo}(h:AP t)(o:List zD):∀c∈er t o,Io (c:Sem zj).1<=1000000:=by
 intro c B;obtain⟨s,_,rfl⟩:=bd.1 B;by_cases z:toNat (zR t s)<Io t.2.1
 ·rw[aS,zU z];exact h.cols _ (aK z)
 ·rw[aS,eC ow];exact aO _
theorem Xk{k:Int}{n j:Nat}(h:j∈DR k n):j<n:=by
 unfold DR at h;simpa using(List.mem_filter.1 h).1
theorem zh3{db:List (Sem zh)}{s:Sem zn}(S:∀x∈db,F1 x)(hp:(aV db s).1=0)(J:po s):uE db (aV db s).2:=by
 obtain⟨hm,Z,hb,X,h8,H⟩:=I1 hp;have hB:=(je λx L=>(S x L).short).1 hb;have E:=jW Z;have G:(cB db s).1=0:=by rw[<-H];exact hp
 obtain⟨T,f2,f3⟩:=Cr G;rw[H];have Y:LE.le (α:=Int) 0 (zX db s.2.2.1):=X _ (by unfold bw;split<;>simp);have L:de db (cB db s).2=jh (aB (bw s.2.2.1 (cn s))) (aA db s.2.2.1):=by
  unfold de zI;rw[f2,f3];have:∃r,bw s.2.2.1 (cn s)=s.2.2.1::r:=by unfold bw;split<;>exact⟨_,rfl⟩
  obtain⟨r,e⟩:=this;rw[e];rfl
 have hF:=S _ (iN Y).1;have M:F1 (de db (cB db s).2):=by rw[L];exact hF.cut
 have O:AP (ah db s.2.2.1):=hF.t;rcases hm with C|C|C
 ·have e:cB db s=iw (tK (ah db s.2.2.1) s.2.2.2.1) (s.1,s.2.2.1,s.2.2.2.2.2.2.2.2.2.2.2.2,(s.2.1,er (ah db s.2.2.1) s.2.2.2.1,gF (js (ah db s.2.2.1) s.2.2.2.1) (ah db s.2.2.1).2.2.1,[],[],s.2.2.2.2.2.2.2.2.1),js (ah db s.2.2.1) s.2.2.2.1,0):=by
   unfold cB;rw[if_pos (by simp[C])]
  have e0:=G;rw[e]at e0;obtain⟨o,D⟩:=iy e0;unfold tK at o;split at o;rotate_left
  ·rename_i h;exact absurd o h
  rename_i hpl;split at o
  ·cases o
  rename_i hk;have B:=qw hpl;refine⟨?_,M,(by rw[e,D];show(js _ _).length<=_;unfold js;rw[cz];have:=J.sh.names.1;omega),?_,(by rw[T,C];intro h;cases h),(by rw[T,C];intro h;cases h)⟩
  ·rw[e,D];exact⟨bt J.sh.table (by omega),PE O _,by show(er _ _).length<=_;unfold er;rw[cz];have:=J.sh.names.1;omega,aO _,aO _,λf W=>(by cases W),J.chk⟩
  ·intro _;rw[L,e,D];refine⟨λc z=>?_,?_⟩
   ·obtain⟨a,ha,rfl⟩:=bd.1 z;exact DW (B a ha)
   ·rcases LG (js (ah db s.2.2.1) s.2.2.2.1) (ah db s.2.2.1).2.2.1 with⟨j,I,q1,q2,_⟩|⟨q1,_⟩
    ·exact⟨j,I,q1,q2⟩
    ·exact absurd (by rw[q1];decide) hk
 ·have e:cB db s=iw (fM (ah db s.2.2.1) (ej db s.2.2.2.2.2.2.2.2.2.2.2.2) s.2.2.2.2.2.1 s.2.2.2.2.2.2.2.2.2.2.2.2)
     (s.1,s.2.2.1,s.2.2.2.2.2.2.2.2.2.2.2.2,(s.2.1,(ah db s.2.2.1).2.1++fO (ej db s.2.2.2.2.2.2.2.2.2.2.2.2) (Io (ej db s.2.2.2.2.2.2.2.2.2.2.2.2).2.1),(ah db s.2.2.1).2.2.1,[],[],s.2.2.2.2.2.2.2.2.1),
      jt (ej db s.2.2.2.2.2.2.2.2.2.2.2.2).2.2.1 (Io (ej db s.2.2.2.2.2.2.2.2.2.2.2.2).2.1),zR (ah db s.2.2.1) s.2.2.2.2.2.1):=by
   unfold cB;rw[if_neg (by simp[C]),if_pos (by simp[C])]
  have e0:=G;rw[e]at e0;obtain⟨o,D⟩:=iy e0;have hr:=Ha E C;have h0:bw s.2.2.1 (cn s)=[s.2.2.1,cn s]:=by unfold bw;rw[if_neg (by simpa using hr)]
  have h1:LE.le (α:=Int) 0 (zX db (cn s)):=X _ (by rw[h0];simp);have h7:ej db s.2.2.2.2.2.2.2.2.2.2.2.2=(aA db (cn s)).1:=by
   unfold ej;rw[if_neg hr];rfl
  have hU:=S _ (iN h1).1;rw[h7]at e o D;refine⟨?_,M,(by rw[e,D];show(jt _ _).length<=_;unfold jt;rw[cz];exact bt (lA _ _) hU.t.ncols),(by rw[T,C];intro h;cases h),?_,(by rw[T,C];intro h;cases h)⟩
  ·rw[e,D];refine⟨bt J.sh.table (by omega),λc z=>?_,?_,aO _,aO _,λf W=>(by cases W),J.chk⟩
   ·rcases cJ.1 z with z|z
    ·exact O.cols c z
    ·obtain⟨j,I,rfl⟩:=bd.1 z;have I:=Xk I;rw[aS,zU I];exact hU.t.cols _ (aK I)
   ·show(_++fO _ _).length<=1000;unfold fM at o;split at o
    ·cases o
    split at o;rotate_left
    ·cases o
    split at o
    ·cases o
    rename_i h9;have:=lA (aA db (cn s)).1.2.2.1 (aA db (cn s)).1.2.1.length;unfold fO;rw[ip,cz];omega
  ·intro _;have hs:zI db (cB db s).2=[de db (cB db s).2,jh (aB (bw s.2.2.1 (cn s))) (aA db (cn s))]:=by
    rw[L];unfold zI;rw[f2,f3,h0];rfl
   refine⟨?_,jh (aB (bw s.2.2.1 (cn s))) (aA db (cn s)),hs,(hB.rels _ (iN h1).1).cut,hU.cut,?_,?_⟩
   ·rw[L,e,D];rfl
   ·rw[e,D];intro c z;obtain⟨j,I,rfl⟩:=bd.1 z;exact zt (Xk I)
   ·have h6:(cB db s).2.2.2.2.2.2=zR (ah db s.2.2.1) s.2.2.2.2.2.1:=by rw[e,D]
    have h4:jp (ah db s.2.2.1).2.2.2.2.1 (zR (ah db s.2.2.1) s.2.2.2.2.2.1,cn s)=Q3:=by
     unfold fM at o;split at o
     ·cases o
     split at o
     ·assumption
     ·cases o
    rw[L,h6];exact(hB.bound _ (iN Y).1 _ ((oq _ _).1 h4)).2
 ·have e:cB db s=iw (qh (ah db s.2.2.1) s.2.2.2.1) (s.1,s.2.2.1,s.2.2.2.2.2.2.2.2.2.2.2.2,(s.2.1,xW (ah db s.2.2.1) s.2.2.2.1,0,[],[],s.2.2.2.2.2.2.2.2.1),js (ah db s.2.2.1) s.2.2.2.1,0):=by
   unfold cB;rw[if_neg (by simp[C]),if_neg (by simp[C]),if_pos (by simp[C])]
  have e0:=G;rw[e]at e0;obtain⟨o,D⟩:=iy e0;have hpl:fW (ah db s.2.2.1) s.2.2.2.1=0:=by
   unfold qh at o;split at o
   ·assumption
   ·exact o
  have B:=qw hpl;have h2:=jN E C;refine⟨?_,M,(by rw[e,D];show(js _ _).length<=_;unfold js;rw[cz];omega),(by rw[T,C];intro h;cases h),(by rw[T,C];intro h;cases h),?_⟩
  ·rw[e,D];refine⟨bt J.sh.table (by omega),λc z=>?_,(by show(2:Nat)<=1000;omega),aO _,aO _,λf W=>(by cases W),J.chk⟩;have F:=PE O s.2.2.2.1;have hl:(er (ah db s.2.2.1) s.2.2.2.1).length=2:=by unfold er;rw[cz];exact h2
   generalize h3:er (ah db s.2.2.1) s.2.2.2.1=cs at F hl
   match cs,hl with
   | [a,b],_=>
    have z:c∈xW (ah db s.2.2.1) s.2.2.2.1:=z;unfold xW at z;rw[h3]at z;rcases bL.1 z with rfl|z
    ·exact F a (by simp)
    ·rw[eD]at z;subst z;exact F b (by simp)
  ·intro _;rw[L,e,D]
   match h5:s.2.2.2.1,h2 with
   | [a,b],_=>
    rw[h5]at B;exact⟨rfl,zR (ah db s.2.2.1) a,zR (ah db s.2.2.1) b,rfl,DW (B a (by simp)),DW (B b (by simp))⟩
noncomputable def eqR(a b:List (Sem ze)):Bool:=@decide (a=b) (Classical.propDecidable _)
theorem Bi{a b:List (Sem ze)}:eqR a b=Q3↔a=b:=by unfold eqR;exact@KD _ (Classical.propDecidable _)
theorem S6(a b:List (Sem ze))(ha:Io a<=1000000):BB a b=Q3/\Jb a b=eqR a b:=by
 have:BC a b=some (eqR a b,()):=by
  by_cases S:Io a=Io b
  ·have T:(zaH a b).val=Q1 (.inl (.h4 a b ((0:Nat):Int))):=by
    simp only[zaH,Q8,S,jJ,zA,if_false];rfl
   have E:∀k,k<=Io a->(∀i(h:i<k),a[i]?=b[i]?)->zL Tj (k*1) (.h4 a b ((0:Nat):Int)) (.h4 a b (k:Int)):=λk L M=>
    zL.all (t:=Tj) 1 (λi=>.h4 a b (i:Int)) k λi J=>zL.of (by
     have z:i<Io a:=by omega
     have C:i<Io b:=by omega
     have e:=M i J;rw[zU z,zU C]at e;have o:pB a[i] b[i]=Q3:=kF.2 (Option.some.inj e);unfold pB at o;simp only[Tj,Q8,zF z,zt z,zt C,if_true,zH _ _ z,zH _ _ C,o,bA,zA,if_false];rw[zr i um])
   by_cases F:a=b
   ·rw[Bi.2 F];refine zy T ((E (Io a) (ae _) (λi _=>by rw[F])).ends (zV.of (r:=(.kb Q3,[])) ?_)) ow rfl;simp only[Tj,Q8,zB,zA,if_false]
   ·have H:eqR a b=Q4:=Bool.eq_false_iff.2 λh=>F (Bi.1 h)
    rw[H];have I:∃i,a[i]?≠b[i]?:=ke λO=>F (Cl λi=>ke λh=>O ⟨i,h⟩)
    obtain⟨k,L,Y⟩:∃k,a[k]?≠b[k]?/\∀i,i<k->a[i]?=b[i]?:=by
     obtain⟨n,M⟩:=I
     induction n using Nat.strongRecOn with
     | ind n Z=>
      by_cases h:∃m,m<n/\a[m]?≠b[m]?
      ·obtain⟨m,W,G⟩:=h;exact Z m W G
      ·exact⟨n,M,λi J=>ke λG=>h ⟨i,J,G⟩⟩
    have B:k<Io a:=by
     refine ke λh=>L ?_
     rw[eC ow,eC ow]
    have D:k<Io b:=by omega
    have o:pB a[k] b[k]=Q4:=Bool.eq_false_iff.2 λh=>L (by rw[zU B,zU D,kF.1 h])
    unfold pB at o;refine zy T ((E k ow Y).ends (zV.of (r:=(.kb Q4,[])) ?_)) ow rfl;simp only[Tj,Q8,zF B,zt B,zt D,if_true,zH _ _ B,zH _ _ D,o,cA]
  ·have H:eqR a b=Q4:=Bool.eq_false_iff.2 λh=>S (by rw[Bi.1 h])
   have X:((Io a:Int)!=(Io b:Int))=Q3:=by simp;omega
   rw[H];refine zM (r:=(.kb Q4,[])) ?_ rfl;simp only[zaH,Q8,X,if_true]
 exact⟨by unfold BB;rw[this];rfl,by unfold Jb;rw[this];rfl⟩
def s18(l:List (Sem zh))(i:Int)(p:Sem zq)(v:Sem ze):List (List (Sem ze))->Fk
 |[]=>.h3 l i (p,()) (v,())
 |a::r=>.h3b l i (p,()) (v,()) (a::r)
section
variable {db:List (Sem zh)} {p:Sem zq}
theorem aF.cols0(h:aF db p)(B:p.1≠cT)(C:p.1≠eX):0<Io p.t.1:=by
 refine ke λE=>?_
 have o:(p.1==cT)=Q4:=by simpa using B
 have z:(p.1==eX)=Q4:=by simpa using C
 have D:zJ 0 (Io p.t.1)=Q4:=by rw[Nat.eq_zero_of_not_pos E];rfl
 have F:(SC p (zI db p)).val=none:=by simp only[SC,Q8,o,z,D,zA,if_false]
 have:=h.plc;unfold sy al dd at this;rw[F]at this;cases this
theorem aF.len0(h:aF db p):zJ 0 (zI db p).length=Q3:=zt (i:=0) (wW h.go.two).1
theorem aF.qOf(h:aF db p){row:List (Sem ze)}(o:zJ (bY p (zI db p)) (Io row)=Q3):ur p (zI db p) row=Q1 (zE (bY p (zI db p)) row,()):=by
 have C:=h.len0;refine zM (r:=(agg [ai (zE (bY p (zI db p)) row).1,ai (zE (bY p (zI db p)) row).2.1,str (zE (bY p (zI db p)) row).2.2],[])) ?_ rfl;by_cases z:p.1=cT
 ·have e:bY p (zI db p)=(getD (zI db p) (toNat 0) (zi zh)).1.2.2.1:=by unfold bY;rw[if_pos z];rfl
  rw[e]at o⊢;simp only[zaI,Q8,show(p.1==eX)=Q4 by rw[z];rfl,show(p.1==kq)=Q4 by rw[z];rfl,C,o,zA,if_true,if_false]
 ·by_cases B:p.1=eX
  ·have e:bY p (zI db p)=p.t.2:=by unfold bY;rw[if_neg z,if_pos B]
   rw[e]at o⊢;simp only[zaI,Q8,show(p.1==eX)=Q3 by rw[B];rfl,o,if_true]
  ·have e:bY p (zI db p)=getD p.t.1 (toNat 0) (zi zg):=by unfold bY;rw[if_neg z,if_neg B];rfl
   have D:(p.1==kq)=Q3:=by
    rcases h.mig with e|e|e
    ·exact absurd e z
    ·exact absurd e B
    ·rw[e];rfl
   have E:zJ 0 (Io p.t.1)=Q3:=zt (i:=0) (h.cols0 z B);rw[e]at o⊢;simp only[zaI,Q8,show(p.1==eX)=Q4 by simpa using B,D,E,o,zA,if_true,if_false]
theorem aF.qOf'(h:aF db p){row:List (Sem ze)}(o:row∈(de db p).2):up p (zI db p) row=Q3/\Hr p (zI db p) row=zE (bY p (zI db p)) row:=by
 have:=h.qOf (h.inn row o).1;exact⟨by unfold up;rw[this];rfl,by unfold Hr;rw[this];rfl⟩
theorem zby(h:aF db p){v:Sem ze}{acc:List (List (Sem ze))}{i:Nat}(z:i<(de db p).2.length)(E:Io acc<=1000):
  (A0 (s18 (zI db p) (i:Int) p v acc)).val=Q1 (.inl (s18 (zI db p) ((i+1:Nat):Int) p v (ite (vA (bY p (zI db p)) v (de db p).2[i]=Q3) (acc++[(de db p).2[i]]) acc))):=by
 have F:=h.rel.few;have o:=h.len0;have B:getD (zI db p) (toNat 0) (zi zh)=de db p:=rfl;obtain⟨o1,o2⟩:=h.qOf' (aK z);have C:(cond (v.1!=0) (zJ 0 (zI db p).length&&(zJ (i:Int) (de db p).2.length&&up p (zI db p) (de db p).2[i])) Q3)=Q3:=by
  rw[o,zt z,o1];cases v.1!=0<;>rfl
 have D:(cond (v.1!=0) ((zE (bY p (zI db p)) (de db p).2[i]).1==v.1&&((zE (bY p (zI db p)) (de db p).2[i]).2.1==v.2.1&&((zE (bY p (zI db p)) (de db p).2[i]).2.2==v.2.2&&Q3))) Q4)=vA (bY p (zI db p)) v (de db p).2[i]:=by
  unfold vA;show(cond (v.1!=0) (pB (zE (bY p (zI db p)) (de db p).2[i]) v) Q4)=_;cases v.1!=0<;>cases pB (zE (bY p (zI db p)) (de db p).2[i]) v<;>rfl
 cases acc with
 | nil=>
  show(A0 (.h3 _ _ _ _)).val=_;simp only[A0,Q8,B,o,zF z,zt z,if_true,zH _ _ z,zk,Prod.eta,o2];rw[zr i um,D];rw[o,zt z]at C;rw[if_pos C];cases G:vA (bY p (zI db p)) v (de db p).2[i]<;>rfl
 | cons c r=>
  show(A0 (.h3b _ _ _ _ _)).val=_;simp only[A0,Q8,B,o,zF z,zt z,if_true,zH _ _ z,zk,Prod.eta,o2];rw[zr i um,D];rw[o,zt z]at C;rw[if_pos C];cases G:vA (bY p (zI db p)) v (de db p).2[i]
  ·rfl
  ·simp only[if_true];rw[if_pos (by simp at E⊢;omega)];rfl
theorem aF.qRows(h:aF db p)(v:Sem ze):D2 p (zI db p) v=Q3/\I6 p (zI db p) v=(de db p).2.filter (vA (bY p (zI db p)) v):=by
 have E:=h.rel.few;have o:=h.len0;have B:getD (zI db p) (toNat 0) (zi zh)=de db p:=rfl;have:vR p (zI db p) v=Q1 ((de db p).2.filter (vA (bY p (zI db p)) v),()):=by
  have F:(zm7 p (zI db p) v).val=Q1 (.inl (s18 (zI db p) ((0:Nat):Int) p v [])):=rfl;have C:=zL.all (t:=A0) 1 (λi=>s18 (zI db p) (i:Int) p v (((de db p).2.take i).filter (vA (bY p (zI db p)) v))) (de db p).2.length λi D=>zL.of (by
   rw[zby h D (bt (List.length_filter_le _ _) sg)];congr 3;rw[bg D,List.filter_append];cases G:vA (bY p (zI db p)) v (de db p).2[i]<;>simp[G])
  simp only[List.take_zero,List.filter_nil,fI]at C;generalize(de db p).2.filter (vA (bY p (zI db p)) v)=acc at C⊢;have z:∃r,zV A0 1 (s18 (zI db p) ((de db p).2.length:Int) p v acc) r/\aI r.2 [ze.sl.sl] r.1=Q1 (acc,()):=by
   cases acc with
   | nil=>
    refine⟨_,zV.of (by
     show(A0 (.h3 _ _ _ _)).val=_;simp only[A0,Q8,B,o,zB,zA,if_true,if_false];rfl),rfl⟩
   | cons a r=>
    refine⟨_,zV.of (by
     show(A0 (.h3b _ _ _ _ _)).val=_;simp only[A0,Q8,B,o,zB,zA,if_true,if_false];rfl),rfl⟩
  obtain⟨r,H,I⟩:=z;exact zy F (C.ends H) ow I
 exact⟨by unfold D2;rw[this];rfl,by unfold I6;rw[this];rfl⟩
end
def vM(p:Sem zq)(row:List (Sem ze)):List (Sem ze):=List.map (λc=>zE c row) p.t.1
def Fs(p:Sem zq)(s:Sem ze)(row:List (Sem ze)):Sem ze:=if(zE (getD p.t.1 (toNat 1) (zi zg)) row).1=0 then s else qS s (zE (getD p.t.1 (toNat 1) (zi zg)) row)
def AK(h:List (Sem zh)):Sem zh:=h.getD (toNat 1) (zi zh)
def qq(p:Sem zq)(h:List (Sem zh))(v:Sem ze)(row:List (Sem ze)):List (Sem ze):=
 if p.1=eX then row++vM p (getD (AK h).2 (zW (λr=>bf r (AK h).1.2.2.1 v) (AK h).2 0).toNat (zi ze.sl))else vM p row
def Qk(p:Sem zq)(h:List (Sem zh))(v:Sem ze)(rows:List (List (Sem ze))):List (List (Sem ze)):=
 if p.1=kq then(ite (rows=[]) [] [[v,rows.foldl (Fs p) (1,0,[])]])else rows.map (qq p h v)
section
variable {db:List (Sem zh)} {p:Sem zq} {l1:List (Sem zh)} {rows acc:List (List (Sem ze))} {v:Sem ze}
theorem QA{o h:List (Sem ze)}{i:Nat}(E:∀c∈p.t.1,zJ c (Io o)=Q3)(J:Io p.t.1<=1000)(H:Io h<=1000)(G:Io acc<=1000)(I:i<=1000):
  zL wQ (Io p.t.1+1) (.h22 l1 rows (i:Int) o ((0:Nat):Int) (p,()) (v,()) acc h) (.h14 l1 rows ((i+1:Nat):Int) (p,()) (v,()) (acc++[h++vM p o])):=by
 have C:=zL.all (t:=wQ) 1 (λj=>.h22 l1 rows (i:Int) o (j:Int) (p,()) (v,()) acc (h++(p.t.1.take j).map λc=>zE c o)) (Io p.t.1) λj z=>zL.of (by
  have D:=E _ (aK z);have B:Q0 ((h++(p.t.1.take j).map λc=>zE c o).length+[zE p.t.1[j] o].length<=1073741824)=Q3:=by simp;omega
  simp only[wQ,Q8,zF z,zt z,zH _ _ z,D,if_true];rw[if_pos B,zr j um,bg z,gD,<-uI];rfl)
 have F:zL wQ 1 (.h22 l1 rows (i:Int) o (Io p.t.1:Int) (p,()) (v,()) acc (h++vM p o)) (.h14 l1 rows ((i+1:Nat):Int) (p,()) (v,()) (acc++[h++vM p o])):=zL.of (by
  have B:Q0 (Io acc+[h++vM p o].length<=1073741824)=Q3:=by simp;omega
  simp only[wQ,Q8,zB,zA,if_false];rw[if_pos B,zr i um])
 simp only[List.take_zero,Co,o8,fI]at C;exact(C.trans F).mono ow
theorem zon(h:aF db p)(m:uE db p)(v:Sem ze):D3 p (zI db p) v=Q1 (Qk p (zI db p) v ((de db p).2.filter (vA (bY p (zI db p)) v)),()):=by
 have X:=h.rel.few;obtain⟨r1,r2⟩:=h.qRows v;have D:∀row∈(de db p).2.filter (vA (bY p (zI db p)) v),row∈(de db p).2/\zE (bY p (zI db p)) row=v/\v.1≠0:=λrow hr=>⟨(List.mem_filter.1 hr).1,ou.1 (List.mem_filter.1 hr).2⟩
 have H:((de db p).2.filter (vA (bY p (zI db p)) v)).length<=200:=bt (List.length_filter_le _ _) X;generalize(de db p).2.filter (vA (bY p (zI db p)) v)=rows at r2 D H⊢;have T:=m.few;by_cases M:p.1=kq
 ·obtain⟨_,a,b,C,ha,hb⟩:=m.group M;have hs:(VT p (zI db p) v).val=Q1 (.inl (.h6 rows ((0:Nat):Int) (p,()) (v,()) ((1,0,[]),()))):=by
   simp only[VT,Q8,zk,Prod.eta,r1,r2,show(p.1==kq)=Q3 by rw[M];rfl,if_true];rfl
  have h3:zJ 1 (Io p.t.1)=Q3:=by rw[C];rfl
  have S:getD p.t.1 (toNat 1) (zi zg)=b:=by rw[C];rfl
  have h2:∀(n:Nat),kd ((rows.take n).foldl (Fs p) (1,0,[])):=by
   intro n
   induction n with
   |zero=>exact(⟨by decide,by decide,sw⟩:kd (1,0,[]))
   | succ n ih=>
    by_cases hn:n<Io rows
    ·rw[bg hn,List.foldl_append];show kd (Fs p _ _);unfold Fs;split
     ·exact ih
     ·exact Ce _ _
    ·rwa [Ch ow,<-Ch (i:=n) (l:=rows) ow]
  have B:=zL.all (t:=wQ) 1 (λi=>.h6 rows (i:Int) (p,()) (v,()) ((rows.take i).foldl (Fs p) (1,0,[]),())) (Io rows) λi z=>zL.of (by
   obtain⟨O,q2,q3⟩:=D _ (aK z);have L:zJ b rows[i].length=Q3:=by rw[(h.inn _ O).2];exact hb
   have hv:kd (zE b rows[i]):=by
    have h1:b.toNat<rows[i].length:=by
     unfold zJ at L;simp only[aE,aQ]at L;omega
    unfold zE;rw[aS,zU h1];exact m.fr.vals _ O _ (aK h1)
   have p1:=Hv (h2 i) hv;have p2:=yz (h2 i) hv;simp only[wQ,Q8,zF z,zt z,zH _ _ z,h3,S,L,p1,p2,if_true];rw[bg z,List.foldl_append,zr i um];show _=Q1 (Sum.inl (tt.h6 rows ((i+1:Nat):Int) (p,()) (v,()) (Fs p _ _,())));unfold Fs;rw[S];by_cases E:(zE b rows[i]).1=0
   ·rw[if_pos E,if_neg (by simpa using E)]
   ·rw[if_neg E,if_pos (by simpa using E)];rfl)
  simp only[fI,List.take_zero,List.foldl_nil]at B;unfold Qk;rw[if_pos M];by_cases E:rows=[]
  ·rw[if_pos E];subst E;refine zy hs (B.ends (zV.of (r:=(nils,[])) ?_)) sw rfl;rfl
  ·rw[if_neg E];refine zy hs (B.ends (zV.of (r:=(AV.vec 0,[AO.vec ze.sl [[v,rows.foldl (Fs p) (1,0,[])]]])) ?_)) ow rfl;have hp:Q0 ((Io rows:Int)>0)=Q3:=zx (by have:=List.length_pos_iff.2 E;omega);simp only[wQ,Q8,zB,hp,zA,if_false,if_true];rfl
 ·have hs:(VT p (zI db p) v).val=Q1 (.inl (.h14 (zI db p) rows ((0:Nat):Int) (p,()) (v,()) [])):=by
   simp only[VT,Q8,zk,Prod.eta,r1,r2,show(p.1==kq)=Q4 by simpa using M,zA,if_true,if_false];rfl
  have B:=zL.all (t:=wQ) 1002 (λi=>.h14 (zI db p) rows (i:Int) (p,()) (v,()) ((rows.take i).map (qq p (zI db p) v))) (Io rows) λi z=>by
   obtain⟨O,q2,q3⟩:=D _ (aK z);have h9:=h.len O;rw[bg z,gD];show zL wQ 1002 _ (.h14 _ _ _ _ _ (_++[qq p (zI db p) v rows[i]]));have J:((rows.take i).map (qq p (zI db p) v)).length<=1000:=by simp;omega
   generalize(rows.take i).map (qq p (zI db p) v)=acc at J⊢;unfold qq;by_cases G:p.1=eX
   ·rw[if_pos G];obtain⟨_,y,hy,yo,yw,yc,yr⟩:=m.join G;have I:bY p (zI db p)=p.t.2:=by unfold bY;rw[if_neg (by rw[G];decide),if_pos G]
    have hw:AK (zI db p)=y:=by rw[hy];rfl
    have Z:zJ 1 (zI db p).length=Q3:=by rw[hy];rfl
    have hk:∀r∈y.2,zJ y.1.2.2.1 (Io r)=Q3:=λr hr=>by rw[(cL (yo.fits r hr)).1];exact mg (fi yo.may).1
    have W:=rZ (v:=v) yw.t yo.may hk (by have:=yo.few;omega);have h7:kD y v=Q3:=by unfold kD;rw[W];rfl
    have Y:oO y v=zW (λr=>bf r y.1.2.2.1 v) y.2 0:=by unfold oO;rw[W];rfl
    have o:=yr _ O (by rw[<-I,q2];exact q3);rw[<-I,q2]at o;rw[hw];rcases dC (λr=>bf r y.1.2.2.1 v) y.2 0 with⟨e1,_⟩|⟨k,F,e1,e2,_⟩
    ·unfold gg at o;rw[e1]at o;exact absurd o (by decide)
    ·rw[ek]at e1;rw[e1]at Y⊢;have h8:(y.2[k]).length=Io y.1.2.1:=(cL (yo.fits _ (aK F))).1;rw[zH _ _ F];refine(zL.trans (s':=tt.h22 (zI db p) rows (i:Int) y.2[k] ((0:Nat):Int) (p,()) (v,()) acc rows[i]) (zL.of ?_) (QA (λc hc=>by rw[h8];exact yc c hc) T ow J ow)).mono ow;have h5:(zI db p).getD (toNat 1) (zi zh)=y:=hw;have hl:Q0 (rows[i].length<=1073741824)=Q3:=by simp;omega
     simp only[wQ,Q8,zk,Prod.eta,zF z,zt z,zH _ _ z,show(p.1==eX)=Q3 by rw[G];rfl,Z,h5,h7,Y,zt F,zH _ _ F,hl,if_true];rfl
   ·rw[if_neg G];have h4:p.1=cT:=by
     rcases h.mig with e|e|e
     ·exact e
     ·exact absurd e G
     ·exact absurd e M
    refine(zL.trans (s':=tt.h22 (zI db p) rows (i:Int) rows[i] ((0:Nat):Int) (p,()) (v,()) acc []) (zL.of ?_) (QA (λc hc=>by rw[(h.inn _ O).2];exact(m.copy h4).1 c hc) T sw J ow)).mono ow;simp only[wQ,Q8,zF z,zt z,zH _ _ z,show(p.1==eX)=Q4 by simpa using G,zA,if_true,if_false];rfl
  simp only[fI,List.take_zero,Co]at B;unfold Qk;rw[if_neg M];have:Io rows*1002<=200*1002:=fH _ H;refine zy hs (B.ends (zV.of (r:=(AV.vec 0,[AO.vec ze.sl (rows.map (qq p (zI db p) v))])) ?_)) ow rfl;simp only[wQ,Q8,zB,zA,if_false]
end
theorem Mb(h:Int)(rows:List (List (Sem ze))):∀L:List (Sem ze),L.Nodup->(∀u∈L,u.1≠0)->
  (L.map λu=>(rows.filter (vA h u)).length).sum+(rows.filter λrow:List (Sem ze)=>!L.any λu:Sem ze=>vA h u row).length=Io rows
 |[],_,_=>by simp
 | u :: L,hn,h0=>by
  rw[List.nodup_cons]at hn;have o:=Mb h rows L hn.2 λx G=>h0 x (mO _ G)
  rw[iZ,List.sum_cons];have H:(rows.filter (vA h u)).length+(rows.filter λrow:List (Sem ze)=>!(u::L).any λu:Sem ze=>vA h u row).length=(rows.filter λrow:List (Sem ze)=>!L.any λu:Sem ze=>vA h u row).length:=by
   clear o
   induction rows with
   |nil=>rfl
   | cons row r o=>
    simp only[List.filter_cons,List.any_cons];cases C:vA h u row with
    | true=>
     have D:(L.any λu:Sem ze=>vA h u row)=Q4:=by
      rw[List.any_eq_false];intro v F E;have z:=(ou.1 C).1;have B:=(ou.1 E).1;exact hn.1 (by rw[<-z,B];exact F)
     simp only[D,Bool.or_false,bA,cA,if_true,zA,if_false,dU]at o⊢;simp only[List.any_cons]at o;omega
    | false=>
     simp only[Bool.false_or,zA,if_false];simp only[List.any_cons]at o;cases(L.any λu:Sem ze=>vA h u row)with
     |true=>simpa using o
     | false=>
      simp only[cA,if_true,dU];omega
  omega
theorem Vs{db:List (Sem zh)}{p:Sem zq}:(de db p).2=(aA db p.2.1).2:=by
 unfold de zI;have:∃r,bw p.2.1 p.2.2.1=p.2.1::r:=by unfold bw;split<;>exact⟨_,rfl⟩
 obtain⟨r,e⟩:=this;rw[e];rfl
section
variable {db:List (Sem zh)} {p:Sem zq}
theorem aF.ne0(h:aF db p){u:Sem ze}(o:u∈cv p (zI db p)):u.1≠0:=((nS λ_ z=>h.may z).2 u).1 o |>.2
theorem aF.rise(h:aF db p):(cv p (zI db p)).Pairwise xf:=(nS λ_ o=>h.may o).1
theorem aF.nodup(h:aF db p):(cv p (zI db p)).Nodup:=by
 unfold List.Nodup;exact h.rise.imp λ{a b} o(e:a=b)=>g5 (a:=b) (by rw[e]at o;exact o)
end
noncomputable def Tq(db:List (Sem zh))(p:Sem zq)(v:Sem ze):List (List (Sem ze)):=(de db p).2.filter (vA (bY p (zI db p)) v)
noncomputable def dJ(db:List (Sem zh))(p:Sem zq)(v:Sem ze):List (List (Sem ze)):=(Qk p (zI db p) v (Tq db p v)).filter λr=>dc p.2.2.2.1 r==(0:Int)
theorem pT{c:Int}{row:List (Sem ze)}(h:zJ c (Io row)=Q3):zE c row∈row:=by
 have o:c.toNat<Io row:=by
  unfold zJ at h;simp only[aE,aQ]at h;omega
 unfold zE;rw[aS,zU o];exact aK o
theorem Lq{p:Sem zq}:∀(l:List (List (Sem ze)))(s:Sem ze),kd s->kd (l.foldl (Fs p) s)
 |[],_,h=>h
 | a::r,s,h=>Lq r _ (by
  unfold Fs;split
  ·exact h
  ·exact Ce _ _)
section
variable {db:List (Sem zh)} {p:Sem zq} {v:Sem ze}
theorem Ke{row:List (Sem ze)}(h:row∈Tq db p v):row∈(de db p).2/\zE (bY p (zI db p)) row=v/\v.1≠0:=⟨(List.mem_filter.1 h).1,ou.1 (List.mem_filter.1 h).2⟩
theorem WF:(Qk p (zI db p) v (Tq db p v)).length<=(Tq db p v).length:=by
 unfold Qk;split
 ·split
  ·simp
  ·rename_i h;have:=List.length_pos_iff.2 h;simp;omega
 ·simp
theorem zbX(_:aF db p)(m:uE db p)(D:p.1=eX){row:List (Sem ze)}(G:row∈Tq db p v):
  ∃y:Sem zh,zI db p=[de db p,y]/\dH y/\F1 y/\(∀c∈p.t.1,zJ c (Io y.1.2.1)=Q3)/\getD (AK (zI db p)).2 (zW (λr=>bf r (AK (zI db p)).1.2.2.1 v) (AK (zI db p)).2 0).toNat (zi ze.sl)∈y.2:=by
 obtain⟨_,y,E,M,S,L,O⟩:=m.join D;obtain⟨I,F,J⟩:=Ke G;have z:bY p (zI db p)=p.t.2:=by unfold bY;rw[if_neg (by rw[D];decide),if_pos D]
 have H:AK (zI db p)=y:=by rw[E];rfl
 have o:=O _ I (by rw[<-z,F];exact J);rw[<-z,F]at o;refine⟨y,E,M,S,L,?_⟩;rw[H];rcases dC (λr=>bf r y.1.2.2.1 v) y.2 0 with⟨C,_⟩|⟨k,B,C,T,_⟩
 ·unfold gg at o;rw[C]at o;exact absurd o (by decide)
 ·rw[ek]at C;rw[C,zH _ _ B];exact aK B
theorem WG(h:aF db p)(m:uE db p):∀r∈Qk p (zI db p) v (Tq db p v),∀x∈r,kd x:=by
 intro r B x z;unfold Qk at B;split at B
 ·split at B
  ·cases B
  ·rename_i G;rw[eD]at B;subst B;rcases bL.1 z with rfl|z
   ·obtain⟨row,o⟩:=List.exists_mem_of_ne_nil _ G;obtain⟨C,H,_⟩:=Ke o;rw[<-H];exact m.fr.vals _ C _ (pT (h.inn _ C).1)
   ·rw[eD]at z;subst z;exact Lq _ _ ⟨by decide,by decide,sw⟩
 ·rename_i J;obtain⟨row,o,rfl⟩:=bd.1 B;obtain⟨C,H,_⟩:=Ke o;unfold qq at z;split at z
  ·rename_i F;obtain⟨y,_,M,O,L,I⟩:=zbX h m F o;rcases cJ.1 z with z|z
   ·exact m.fr.vals _ C _ z
   ·obtain⟨c,D,rfl⟩:=bd.1 z;refine O.vals _ I _ (pT ?_);rw[(cL (M.fits _ I)).1];exact L c D
  ·rename_i F;obtain⟨c,D,rfl⟩:=bd.1 z;have E:p.1=cT:=by
    rcases h.mig with e|e|e
    ·exact e
    ·exact absurd e F
    ·exact absurd e J
   refine m.fr.vals _ C _ (pT ?_);rw[(h.inn _ C).2];exact(m.copy E).1 c D
theorem zbP(h:aF db p)(m:uE db p)(v:Sem ze):∃n:Int,vV p (zI db p) v=Q1 (dJ db p v,n,()):=by
 have o:D3 p (zI db p) v=Q1 (Qk p (zI db p) v (Tq db p v),()):=zon h m v;have C:(Qk p (zI db p) v (Tq db p v)).length<=200:=bt WF (bt (List.length_filter_le _ _) h.rel.few);have G:=WG (v:=v) h m;unfold dJ;generalize Qk p (zI db p) v (Tq db p v)=rows at o C G⊢;have H:OE p (zI db p) v=Q3:=by unfold OE;rw[o];rfl
 have I:XG p (zI db p) v=rows:=by unfold XG;rw[o];rfl
 have L:(zht p (zI db p) v).val=Q1 (.inl (.h4 rows ((0:Nat):Int) (p,()) [])):=by
  simp only[zht,Q8,zk,Prod.eta,H,I,if_true];rfl
 have z:=zL.all (t:=zbI) 1 (λi=>.h4 rows (i:Int) (p,()) ((rows.take i).filter λr=>dc p.2.2.2.1 r==(0:Int))) (Io rows) λi B=>zL.of (by
  have D:=G _ (aK B);have M:=HA m.wf D;have O:=Mu m.wf D;have E:((rows.take i).filter λr=>dc p.2.2.2.1 r==(0:Int)).length<=200:=bt (List.length_filter_le _ _) sg;rw[bg B,List.filter_append];generalize((rows.take i).filter λr=>dc p.2.2.2.1 r==(0:Int))=acc at E⊢;have J:Q0 (Io acc+[rows[i]].length<=1073741824)=Q3:=by simp;omega
  simp only[zbI,Q8,zk,Prod.eta,zF B,zt B,zH _ _ B,M,O,J,if_true];rw[zr i um];cases F:dc p.2.2.2.1 rows[i]==(0:Int)with
  |true=>rw[if_pos rfl,List.filter_cons,if_pos F];rfl
  |false=>rw[if_neg sw,List.filter_cons,if_neg (by rw[F];simp)];simp)
 simp only[fI,List.take_zero,List.filter_nil]at z;refine⟨_,zy L (z.ends (zV.of (by
  simp only[zbI,Q8,zB,zA,if_false];rfl))) ow rfl⟩
theorem Lt:(dJ db p v).length<=(Tq db p v).length:=bt (List.length_filter_le _ _) WF
theorem Pt(us:List (Sem ze))(z:us.Nodup)(h:∀u∈us,u.1≠0):(us.flatMap (dJ db p)).length<=(de db p).2.length:=by
 have B:=Mb (bY p (zI db p)) (de db p).2 us z h;have o:∀l:List (Sem ze),(l.flatMap (dJ db p)).length<=(l.map λu=>(Tq db p u).length).sum:=by
  intro l
  induction l with
  |nil=>simp
  | cons a r C=>
   rw[List.flatMap_cons,ip,iZ,List.sum_cons];have:=Lt (db:=db) (p:=p) (v:=a);omega
 have:=o us;unfold Tq at this;omega
theorem Ls(h:aF db p)(m:uE db p):∀r∈dJ db p v,dc p.2.2.2.1 r=(0:Int)/\pG p.2.2.2.1.2.2.1 r/\dp p.2.2.2.1=Q3:=by
 intro r G;obtain⟨E,o⟩:=List.mem_filter.1 G;have o:dc p.2.2.2.1 r=(0:Int):=by simpa using o
 obtain⟨C,D,_⟩:=cL o;have B:dp p.2.2.2.1=Q3:=by
  cases F:dp p.2.2.2.1 with
  |true=>rfl
  | false=>
   unfold dc at o;rw[F,if_pos JK]at o;cases o
 have z:zJ p.2.2.2.1.2.2.1 (Io r)=Q3:=by rw[C];exact mg (fi B).1
 exact⟨o,⟨z,WG h m r E _ (pT z),D _ (pT z)⟩,B⟩
end
set_option maxRecDepth 100000
section
variable {db:List (Sem zh)} {p:Sem zq} {us:List (Sem ze)}
theorem zeo{l1:List (Sem zh)}{n:Int}{z1:zl xn}{z2:zl CH}(C:us.Nodup)(E:Io us<=1000){i:Nat}(z:i<Io us):
  ∀j,j<=i->∃s,(s=RG.h8 l1 us n (i:Int) (j:Int) (p,()) z1 z2\/s=RG.h8b l1 us n (i:Int) Q4 (j:Int) (p,()) z1 z2)/\zL TG j (.h8 l1 us n (i:Int) ((0:Nat):Int) (p,()) z1 z2) s
 |0,_=>⟨_,.inl rfl,zL.refl _⟩
 | j+1,G=>by
  obtain⟨s,F,D⟩:=zeo (l1:=l1) (n:=n) (z1:=z1) (z2:=z2) C E z j ow;have h:j<Io us:=by omega
  have B:Q0 ((j:Int)<(i:Int))=Q3:=zx ow;have o:pB us[j] us[i]=Q4:=by
   refine Bool.eq_false_iff.2 λe=>?_
   have:=(List.getElem_inj (h₀:=h) (h₁:=z) C).1 (kF.1 e);omega
  unfold pB at o;refine⟨.h8b l1 us n (i:Int) Q4 ((j+1:Nat):Int) (p,()) z1 z2,.inr rfl,(D.trans (zL.of ?_)).mono ow⟩;rcases F with rfl|rfl
  ·simp only[TG,Q8,B,zt h,zt z,zH _ _ h,zH _ _ z,o,if_true];rw[zr j um]
  ·simp only[TG,Q8,B,zt h,zt z,zH _ _ h,zH _ _ z,o,ao,sU,if_true];rw[zr j um]
theorem zpQ(h:aF db p)(m:uE db p)(I:us.Nodup)(H:Io us<=1000){i:Nat}(o:i<Io us){n:Int}{z1:zl xn}{acc:List (List (Sem ze))}(M:Io acc<=1000):
  ∃L:Int,zL TG 1002 (.h4 (zI db p) us n (i:Int) (p,()) z1 (p.2.2.2.1,acc,())) (.h4 (zI db p) us L ((i+1:Nat):Int) (p,()) z1 (p.2.2.2.1,acc++dJ db p us[i],())):=by
 obtain⟨k,D⟩:=zbP h m us[i];have z:vU p (zI db p) us[i]=Q3:=by unfold vU;rw[D];rfl
 have B:Bw p (zI db p) us[i]=(dJ db p us[i],k):=by unfold Bw;rw[D];rfl
 have G:(dJ db p us[i]).length<=200:=bt Lt (bt (List.length_filter_le _ _) h.rel.few);have C:Q0 (Io acc+(dJ db p us[i]).length<=1073741824)=Q3:=by simp;omega
 obtain⟨s,J,F⟩:=zeo (p:=p) (l1:=zI db p) (n:=n) (z1:=z1) (z2:=(p.2.2.2.1,acc,())) I H o i (ae _);have E:zL TG 1 (.h4 (zI db p) us n (i:Int) (p,()) z1 (p.2.2.2.1,acc,())) (.h8 (zI db p) us n (i:Int) ((0:Nat):Int) (p,()) z1 (p.2.2.2.1,acc,())):=zL.of (by
  simp only[TG,Q8,zF o,if_true];rfl)
 refine⟨Γ Δ (n+k),((E.trans F).trans (zL.of ?_)).mono ow⟩;rcases J with rfl|rfl
 ·simp only[TG,Q8,zk,Prod.eta,zB,zt o,zH _ _ o,z,B,C,zA,if_true,if_false];rw[zr i um]
 ·simp only[TG,Q8,zk,Prod.eta,zB,zt o,zH _ _ o,z,B,C,zA,if_true,if_false];rw[zr i um]
theorem zbF(h:aF db p)(m:uE db p)(M:us.Nodup)(O:∀u∈us,u.1≠0)(L:Io us<=1000):
  ∃n:Int,vT p (zI db p) us=Q1 ((p.2.2.2.1,jP (zE p.2.2.2.1.2.2.1) (us.flatMap (dJ db p))),n,()):=by
 have S:(i9v p (zI db p) us).val=Q1 (.inl (.h4 (zI db p) us 0 ((0:Nat):Int) (p,()) ([],0,[],0,0,[],[],()) (p.2.2.2.1,[],()))):=rfl;have C:=h.rel.few;have z:∀i,((us.take i).flatMap (dJ db p)).length<=200:=λi=>bt (Pt (us.take i) (M.sublist (List.take_sublist i us)) λu J=>O u (List.mem_of_mem_take J)) C
 have H:∀i,i<=Io us->∃n:Int,zL TG (i*1002) (.h4 (zI db p) us 0 ((0:Nat):Int) (p,()) ([],0,[],0,0,[],[],()) (p.2.2.2.1,[],())) (.h4 (zI db p) us n (i:Int) (p,()) ([],0,[],0,0,[],[],()) (p.2.2.2.1,(us.take i).flatMap (dJ db p),())):=by
  intro i
  induction i with
  |zero=>intro _;exact⟨0,(zL.refl _).mono ow⟩
  | succ i T=>
   intro hi;obtain⟨n,D⟩:=T ow;obtain⟨W,G⟩:=zpQ (z1:=([],0,[],0,0,[],[],())) h m M L (i:=i) ow (n:=n) (acc:=(us.take i).flatMap (dJ db p)) (by have:=z i;omega);refine⟨W,?_⟩;have e:(us.take (i+1)).flatMap (dJ db p)=(us.take i).flatMap (dJ db p)++dJ db p us[i]:=by
    rw[bg ow,List.flatMap_append];simp
   rw[e];exact(D.trans G).mono ow
 obtain⟨n,D⟩:=H (Io us) (ae _);have E:=z (Io us);rw[fI]at D E;have o:∀r∈us.flatMap (dJ db p),pG p.2.2.2.1.2.2.1 r/\dp p.2.2.2.1=Q3:=λr F=>by
  obtain⟨u,_,J⟩:=uJ.1 F;exact(Ls h m r J).2
 generalize us.flatMap (dJ db p)=rows at D E o⊢;obtain⟨Z,s2⟩:=XO (rows:=rows) m.wf (λI=>by
  obtain⟨r,F⟩:=List.exists_mem_of_ne_nil _ I;exact(o r F).2) ow λr F=>(o r F).1
 have B:∃r,zV TG 1 (.h4 (zI db p) us n (Io us:Int) (p,()) ([],0,[],0,0,[],[],()) (p.2.2.2.1,rows,())) r/\aI r.2 [zh,zg] r.1=Q1 ((p.2.2.2.1,jP (zE p.2.2.2.1.2.2.1) rows),n,()):=by
  refine⟨_,zV.of (by
   simp only[TG,Q8,zk,Prod.eta,zB,Z,s2,zA,if_true,if_false];rfl),?_⟩
  show Q1 (((p.2.2.2.1.1,p.2.2.2.1.2.1,p.2.2.2.1.2.2.1,p.2.2.2.1.2.2.2.1,p.2.2.2.1.t.1,zm p.2.2.2.1.t.2),jP (zE p.2.2.2.1.2.2.1) rows),n,())=_;rw[zk]
 obtain⟨r,X,Y⟩:=B;have:Io us*1002<=1000*1002:=fH _ L;exact⟨n,zy S (D.ends X) ow Y⟩
theorem Ya(h:aF db p)(m:uE db p)(B:us.Nodup)(o:∀u∈us,u.1≠0)(z:Io us<=1000):
  vS p (zI db p) us=Q3/\(Bv p (zI db p) us).1=(p.2.2.2.1,jP (zE p.2.2.2.1.2.2.1) (us.flatMap (dJ db p))):=by
 obtain⟨n,e⟩:=zbF h m B o z;exact⟨by unfold vS;rw[e];rfl,by unfold Bv;rw[e];rfl⟩
end
theorem uc:∀(k:Nat)(e:zf)(n:Nat),k<=n->bE k e=Q3->qu n e=Q3
 |0,_,_,_,h=>by simp[bE]at h
 |d+1,.mk z v s l,0,D,_=>by omega
 | d + 1,.mk z v s l,n+1,D,h=>by
  unfold qu;by_cases B:z=em
  ·rw[if_pos (show(zf.mk z v s l).op=em from B)];subst B;have none:(cond (aT v) (cond (s==[]) Q4 Q4) Q4)=Q3->False:=by cases aT v<;>cases s==[]<;>simp
   match l,h with
   |[],h=>exact(none h).elim
   |[_],h=>exact(none h).elim
   |_::_::_::_,h=>exact(none h).elim
   | [a,b],h=>
    have C:(cond (aT v) (cond (s==[]) (cond (bE d a) (bE d b) Q4) Q4) Q4)=Q3:=h;show(qu n a&&qu n b)=Q3;have o:bE d a=Q3/\bE d b=Q3:=by
     revert C;cases aT v<;>cases s==[]<;>cases bE d a<;>simp
    rw[uc d a n ow o.1,uc d b n ow o.2];rfl
  ·rw[if_neg (show¬(zf.mk z v s l).op=em from B)]
theorem A9(p:Sem zq)(e:zf):Ad p e=Q3:=by
 unfold Ad;by_cases h:Gd p e=Q3
 ·rw[h];rfl
 ·rw[Bool.eq_false_iff.2 h,ao];rw[xk]at h;simp only[not_or,Bool.not_eq_false]at h;exact uc 12 e 20 ow (ji h.2.2)
theorem Dg(c:zf->zD->Sem ze×Bool)(name:zD):∀(l m:List zf),dY c name (l++m)=if(dY c name l).2=Q3 then dY c name l else dY c name m
 | [],m=>by
  show dY c name m=if Q4=Q3 then _ else _
  simp
 | x::r,m=>by
  show(cond ((c x name).2) ((c x name).1,Q3) (dY c name (r++m)))=if(cond ((c x name).2) ((c x name).1,Q3) (dY c name r)).2=Q3 then(cond ((c x name).2) ((c x name).1,Q3) (dY c name r))else _
  cases h:(c x name).2
  ·simp only[ao];exact Dg c name r m
  ·simp
theorem zaF{e:zf}{name:zD}(h:(cj e name).2=Q3):
  ∃a b,e.op=[61]/\e.l=[a,b]/\((a.op=cX/\a.s=name/\b.op=kH/\(cj e name).1=b.v)\/(b.op=cX/\b.s=name/\a.op=kH/\(cj e name).1=a.v)):=by
 have G:tH e name=Q1 ((0,0,[]),Q4,())->False:=λq=>by
  unfold cj at h;rw[q]at h;cases h
 have F:∀v:Sem ze,tH e name=Q1 (v,Q3,())->(cj e name).1=v:=λv q=>by
  unfold cj;rw[q];rfl
 have o:∀r:aw,(IC e name).val=Q1 (.inr r)->∀y,aI r.2 [ze,Q7] r.1=Q1 y->tH e name=Q1 y:=λr L y M=>zM L M
 by_cases J:e.op=[61];rotate_left
 ·refine(G (o (tup [agg [ai 0,ai 0,str []],kb Q4],[]) ?_ _ rfl)).elim;have:(e.op==[61])=Q4:=by simpa using J
  simp only[IC,Q8,this,cA,af,if_true]
 have E:(e.op==[61])=Q3:=by simpa using J
 by_cases O:e.l.length=2;rotate_left
 ·refine(G (o (tup [agg [ai 0,ai 0,str []],kb Q4],[]) ?_ _ rfl)).elim;have:((e.l.length:Int)!=2)=Q3:=by simp;omega
  simp only[IC,Q8,E,this,bA,ao,if_true]
 match I:e.l,O with
 | [a,b],_=>
  refine⟨a,b,J,rfl,?_⟩
  have z:(IC e name).val=if(!a.op==cX)=Q3 then(ite ((cond (!b.op==cX) Q3 (cond (!b.s==name) Q3 (cond (!a.op==kH) Q3 (a.v.1==0))))=Q3) (Q1 (.inr (tup [agg [ai 0,ai 0,str []],kb Q4],[]))) (Q1 (.inr (tup [agg [ai a.v.1,ai a.v.2.1,str a.v.2.2],kb Q3],[]))))
    else(ite ((cond (!a.op==cX) Q3 (cond (!a.s==name) Q3 (cond (!b.op==kH) Q3 (b.v.1==0))))=Q3) (Q1 (.inr (tup [agg [ai 0,ai 0,str []],kb Q4],[]))) (Q1 (.inr (tup [agg [ai b.v.1,ai b.v.2.1,str b.v.2.2],kb Q3],[])))):=by
   simp only[IC,Q8,E,I,bA,ao,dU,iq];rfl
  by_cases H:a.op=cX
  ·have C:(a.op==cX)=Q3:=by simpa using H
   rw[C]at z;simp only[bA,zA,if_false,ao]at z;split at z
   ·exact(G (o _ z _ rfl)).elim
   ·rename_i D;have q:=o _ z _ rfl;refine .inl ⟨H,?_,?_,F _ q⟩
    ·refine ke λB=>D ?_
     rw[show(a.s==name)=Q4 by simpa using B];rfl
    ·refine ke λB=>D ?_
     rw[show(b.op==kH)=Q4 by simpa using B];cases a.s==name<;>rfl
  ·have C:(a.op==cX)=Q4:=by simpa using H
   rw[C]at z;simp only[cA,if_true]at z;split at z
   ·exact(G (o _ z _ rfl)).elim
   ·rename_i D;have q:=o _ z _ rfl;refine .inr ⟨?_,?_,?_,F _ q⟩
    ·refine ke λB=>D ?_
     rw[show(b.op==cX)=Q4 by simpa using B];rfl
    ·refine ke λB=>D ?_
     rw[show(b.s==name)=Q4 by simpa using B];cases b.op==cX<;>rfl
    ·refine ke λB=>D ?_
     rw[show(a.op==kH)=Q4 by simpa using B];cases b.op==cX<;>cases b.s==name<;>rfl
theorem and_true{x y:Sem ze}(h:Dx (A3 x y) 1=Q3):Dx x 1=Q3/\Dx y 1=Q3:=by
 unfold A3 at h;split at h
 ·rw[iS]at h;cases h
 split at h
 ·rename_i o;rw[<-(gR x).2,<-(gR y).2];exact ck o
 ·rw[lP]at h;cases h
theorem NS{x y:Sem ze}(h:Dx (km x y) 1=Q3):x=y:=by
 unfold km at h;split at h
 ·cases h
 unfold dm at h;split at h
 ·rename_i o;exact kF.1 o
 ·rw[iS]at h;cases h
section
variable {cols:List (Sem zj)} {row:List (Sem ze)} {name:zD}
theorem Rm:∀{d M:Nat}{a:zf},d<=M->bE d a=Q3->a.op=cX->cW M cols row a=mH cols row a.s
 |0,_,_,_,h,_=>by cases h
 |_+1,0,_,C,_,_=>absurd C ow
 | d+1,M+1,a,_,h,z=>by
  cases dr h with
  |lit v F=>cases z
  |col s o B=>rfl
  |one D x o B=>rcases o with rfl|rfl<;>cases z
  |two D x y o B E=>rcases o with rfl|rfl|rfl|rfl|rfl|rfl<;>cases z
theorem Rn:∀{d M:Nat}{a:zf},d<=M->bE d a=Q3->a.op=kH->cW M cols row a=a.v
 |0,_,_,_,h,_=>by cases h
 |_+1,0,_,C,_,_=>absurd C ow
 | d+1,M+1,a,_,h,z=>by
  cases dr h with
  |lit v F=>rfl
  |col s o B=>cases z
  |one D x o B=>rcases o with rfl|rfl<;>cases z
  |two D x y o B E=>rcases o with rfl|rfl|rfl|rfl|rfl|rfl<;>cases z
theorem zc6:∀(d n M:Nat)(e:zf),d<=M->bE d e=Q3->Dx (cW M cols row e) 1=Q3->(dY cj name (gY n e)).2=Q3->mH cols row name=(dY cj name (gY n e)).1
 |0,_,_,_,_,h,_,_=>by cases h
 |_+1,_,0,_,W,_,_,_=>absurd W ow
 | d + 1,n,M+1,e,W,h,X,C=>by
  have B:gY n e=[e]->mH cols row name=(dY cj name (gY n e)).1:=by
   intro hp;rw[hp]at C⊢;unfold dY at C⊢;cases T:(cj e name).2 with
   |false=>rw[T,ao]at C;cases C
   | true=>
    rw[af];obtain⟨a,b,o,H,Z⟩:=zaF T;cases dr h with
    |lit v Y=>cases H
    |col s D z=>cases H
    |one E x D z=>cases H
    | two E x y D z F=>
     cases H;have o:E=[61]:=o;subst o;have G:=NS (x:=cW M cols row a) (y:=cW M cols row b) X;rcases Z with⟨J,L,O,S⟩|⟨J,L,O,S⟩
     ·rw[Rm ow z J,Rn ow F O,L]at G;rw[S];exact G
     ·rw[Rm ow F J,Rn ow z O,L]at G;rw[S];exact G.symm
  match n with
  |0=>exact B rfl
  | n+1=>
   by_cases o:e.op=em;rotate_left
   ·exact B (by unfold gY;rw[if_neg o])
   cases dr h with
   |lit v Y=>cases o
   |col s D z=>cases o
   |one E x D z=>rcases D with rfl|rfl<;>cases o
   | two E a b D z F=>
    have o:E=em:=o;subst o;have hp:gY (n+1) (.mk em (0,0,[]) [] [a,b])=gY n a++gY n b:=by
     conv=>lhs;unfold gY
     rw[if_pos (show(zf.mk em (0,0,[]) [] [a,b]).op=em from rfl)];rfl
    rw[hp,Dg]at C⊢;obtain⟨t1,t2⟩:=and_true (x:=cW M cols row a) (y:=cW M cols row b) X;by_cases I:(dY cj name (gY n a)).2=Q3
    ·rw[if_pos I];exact zc6 d n M a ow z t1 I
    ·rw[if_neg I]at C⊢;exact zc6 d n M b ow F t2 C
end
section
variable {db:List (Sem zh)} {p:Sem zq}
theorem P1(h:aF db p)(v:Sem ze)(o:(sJ db p v).2=0):(sJ db p v).1∈cv p (zI db p):=by
 revert o;unfold sJ;split
 ·dsimp only
  split
  ·intro o;cases o
  ·split
   ·rename_i z;intro _;exact(h.hasC _).2.1 z
   ·intro o;cases o
 ·split
  ·rename_i z;intro _;exact(h.hasC _).2.1 z
  ·intro o;cases o
noncomputable def Fb(db:List (Sem zh))(p:Sem zq)(e:zf):List (Sem ze):=
 if(dI p e).2=Q3 then(ite (((sJ db p (dI p e).1).2!=0)=Q3) [] [(sJ db p (dI p e).1).1])else cv p (zI db p)
theorem Yr(h:aF db p)(e:zf):Ib p (zI db p) e=Q3/\Nx p (zI db p) e=(Fb db p e,0):=by
 obtain⟨o,z⟩:=IU h.go;have C:=h.uall;have I:Pd p (zI db p)=Q3:=by unfold Pd;rw[C];rfl
 have J:Yp p (zI db p)=(cv p (zI db p),0):=by unfold Yp;rw[C];rfl
 have D:=h.key (dI p e).1;have G:Yq p (zI db p) (dI p e).1=Q3:=by unfold Yq;rw[D];rfl
 have H:ziJ p (zI db p) (dI p e).1=sJ db p (dI p e).1:=by unfold ziJ;rw[D];rfl
 have E:Be p (zI db p) e=Q1 (Fb db p e,0,()):=by
  unfold Fb;cases B:(dI p e).2
  ·rw[if_neg sw];refine zM (r:=(tup [sl ze (cv p (zI db p)),ai 0],[])) ?_ rfl;simp only[zaG,zk,Prod.eta,Q8,o,z,A9,B,I,J,jJ,cA,zA,if_true,if_false]
  ·rw[if_pos rfl];cases F:(sJ db p (dI p e).1).2!=0
   ·rw[if_neg sw];refine zM (r:=(tup [sl ze [(sJ db p (dI p e).1).1],ai 0],[])) ?_ rfl;simp only[zaG,zk,Prod.eta,Q8,o,z,A9,B,G,H,F,jJ,bA,zA,if_true,if_false]
   ·rw[if_pos rfl];refine zM (r:=(tup [nils,ai 0],[])) ?_ rfl;simp only[zaG,zk,Prod.eta,Q8,o,z,A9,B,G,H,F,jJ,bA,zA,if_true,if_false]
 exact⟨by unfold Ib;rw[E];rfl,by unfold Nx;rw[E];rfl⟩
theorem zbQ(h:aF db p)(e:zf):(Fb db p e).length<=(cv p (zI db p)).length:=by
 unfold Fb;split
 ·split
  ·simp
  ·rename_i o;have:=List.length_pos_of_mem (P1 h (dI p e).1 (by simpa using o));rw[List.length_singleton];omega
 ·exact ae _
end
theorem KJ:Bd=Q1 (Q3,()):=zM (i:=i8v) (r:=(.bool Q3,[])) rfl rfl
theorem CE:Bc=Q3/\CD=Q3:=⟨by unfold Bc;rw[KJ];rfl,by unfold CD;rw[KJ];rfl⟩
section
variable {w:World} {U:Nat->Prop} {ρ:Nat->Option Value} {a b:List AV}
end
section
variable {db:List (Sem zh)} {p:Sem zq} {v:Sem ze}
theorem KO{c:Int}{a b:List (Sem ze)}(h:zJ c (Io a)=Q3):zE c (a++b)=zE c a:=by
 have o:c.toNat<Io a:=by
  unfold zJ at h;simp only[aE,aQ]at h;omega
 unfold zE;rw[aS,aS,mR o]
theorem zbx{x:Sem zh}(h:dH x){a b:List (Sem ze)}(B:a∈x.2)(C:b∈x.2)(e:zE x.1.2.2.1 a=zE x.1.2.2.1 b):a=b:=by
 have z:=(iR _).1 h.may;have o:∀r∈x.2,(zE x.1.2.2.1 r).1≠0:=λr H=>by
  obtain⟨I,_,G⟩:=cL (h.fits r H);refine G _ ?_ z.nn;have J:=z.key.1;have L:=z.key.2;omega
 obtain⟨i,D,rfl⟩:=fz B;obtain⟨j,E,rfl⟩:=fz C;have F:=List.pairwise_iff_getElem.1 h.key;rcases Nat.lt_trichotomy i j with c|c|c
 ·exact absurd e (F i j D E c (o _ B))
 ·subst c;rfl
 ·exact absurd e.symm (F j i E D c (o _ C))
theorem V5(h:aF db p)(m:uE db p)(T:v∈cv p (zI db p)){r:List (Sem ze)}(C:r∈Qk p (zI db p) v (Tq db p v)):sJ db p (zE p.2.2.2.1.2.2.1 r)=(v,0):=by
 have o:=(h.hasC v).2.2 T;unfold Qk at C;split at C
 ·rename_i H;split at C
  ·cases C
  rw[eD]at C;subst C;obtain⟨k0,_⟩:=m.group H;rw[k0];unfold sJ;rw[if_neg (by rw[H];decide)];show(ite (FN (cv p (zI db p)) v=Q3) (v,(0:Int)) _)=_;rw[if_pos o]
 ·rename_i H;obtain⟨row,G,rfl⟩:=bd.1 C;obtain⟨J,M,Y⟩:=Ke G;unfold qq;split
  ·rename_i B;obtain⟨k0,_⟩:=m.join B;have E:=h.rel.keys _ J;rw[k0,KO E];have z:bY p (zI db p)=p.t.2:=by unfold bY;rw[if_neg (by rw[B];decide),if_pos B]
   unfold sJ;rw[if_pos B];rcases dC (λr=>bf r (de db p).1.2.2.1 (zE (de db p).1.2.2.1 row)) (de db p).2 0 with⟨_,I⟩|⟨k,F,L,I,_⟩
   ·have:=I _ J;rw[(kQ E).2 rfl]at this;cases this
   ·rw[ek]at L;have S:(de db p).2[k]=row:=zbx h.rel (aK F) J ((kQ (h.rel.keys _ (aK F))).1 I);simp only[L];rw[if_neg ow,zH _ _ F,S,<-z,M,if_pos o]
  ·rename_i B;have D:p.1=cT:=by
    rcases h.mig with e|e|e
    ·exact e
    ·exact absurd e B
    ·exact absurd e H
   obtain⟨_,k,F,W,X⟩:=m.copy D;have z:bY p (zI db p)=(de db p).1.2.2.1:=by unfold bY;rw[if_pos D];rfl
   have O:zE p.2.2.2.1.2.2.1 (vM p row)=v:=by
    rw[W];unfold zE vM;rw[aD,aS,eL,zU F,X,<-z,<-M];rfl
   rw[O];unfold sJ;rw[if_neg B,if_pos o]
end
section
variable {db:List (Sem zh)} {p:Sem zq} {v:Sem ze}
theorem LZ(h:aF db p)(m:uE db p)(B:¬p.1=kq){row:List (Sem ze)}(D:row∈(de db p).2):zE p.2.2.2.1.2.2.1 (qq p (zI db p) v row)=zE (de db p).1.2.2.1 row:=by
 unfold qq;split
 ·rename_i z;obtain⟨k0,_⟩:=m.join z;rw[k0,KO (h.rel.keys _ D)]
 ·rename_i z;have o:p.1=cT:=by
   rcases h.mig with e|e|e
   ·exact e
   ·exact absurd e z
   ·exact absurd e B
  obtain⟨_,k,C,E,F⟩:=m.copy o;rw[E];unfold zE vM;rw[aD,aS,eL,zU C,F];rfl
def oZ(k:Int)(l:List (List (Sem ze))):Prop:=l.Pairwise λa b=>zE k a≠zE k b
theorem Td{x:Sem zh}(h:dH x):oZ x.1.2.2.1 x.2:=by
 refine List.pairwise_iff_getElem.2 λi j C E z e=>?_
 have o:=(iR _).1 h.may;obtain⟨F,_,D⟩:=cL (h.fits _ (aK C));have B:(zE x.1.2.2.1 x.2[i]).1≠0:=by
  refine D _ ?_ o.nn;have G:=o.key.1;have H:=o.key.2;omega
 exact List.pairwise_iff_getElem.1 h.key i j C E z B e
theorem N4(h:aF db p)(m:uE db p):oZ p.2.2.2.1.2.2.1 (dJ db p v):=by
 refine List.Pairwise.sublist List.filter_sublist ?_;unfold Qk;split
 ·split
  ·exact .nil
  ·exact List.pairwise_singleton _ _
 ·rename_i z;refine List.pairwise_map.2 ?_;refine((Td h.rel).sublist (List.filter_sublist (p:=vA (bY p (zI db p)) v))).imp_of_mem λ{a b} B C o=>?_
  rw[LZ h m z (List.mem_filter.1 B).1,LZ h m z (List.mem_filter.1 C).1];exact o
theorem AJ(h:aF db p)(m:uE db p):∀{us:List (Sem ze)},us.Nodup->(∀u∈us,u∈cv p (zI db p))->oZ p.2.2.2.1.2.2.1 (us.flatMap (dJ db p))
 |[],_,_=>.nil
 | a::r,hn,hu=>by
  rw[List.flatMap_cons];refine List.pairwise_append.2 ⟨N4 h m,AJ h m (List.nodup_cons.1 hn).2 (λu q=>hu u (mO _ q)),λx C y D e=>?_⟩;obtain⟨u,z,E⟩:=uJ.1 D;have o:=V5 h m (hu a uG) (List.mem_filter.1 C).1;have B:=V5 h m (hu u (mO _ z)) (List.mem_filter.1 E).1;rw[e,B]at o;have:u=a:=congrArg Prod.fst o;subst this;exact(List.nodup_cons.1 hn).1 z
theorem RN{k:Int}{l:List (List (Sem ze))}(h:oZ k l){a b:List (Sem ze)}(B:a∈l)(C:b∈l)(e:zE k a=zE k b):a=b:=by
 obtain⟨i,o,rfl⟩:=fz B;obtain⟨j,z,rfl⟩:=fz C;rcases Nat.lt_trichotomy i j with c|c|c
 ·exact absurd e (List.pairwise_iff_getElem.1 h i j o z c)
 ·subst c;rfl
 ·exact absurd e.symm (List.pairwise_iff_getElem.1 h j i z o c)
theorem Nr{k:Int}{l o:List (List (Sem ze))}(hp:l.Perm o)(h:oZ k l):oZ k o:=(hp.pairwise_iff λq e=>q e.symm).1 h
theorem RM{k:Int}{l:List (List (Sem ze))}(h:oZ k l)(v:Sem ze):(l.filter λr=>pB (zE k r) v).length<=1:=by
 have o:∀r∈l.filter (λr=>pB (zE k r) v),zE k r=v:=λr z=>kF.1 (List.mem_filter.1 z).2
 have hp:oZ k (l.filter λr=>pB (zE k r) v):=h.sublist List.filter_sublist;generalize l.filter (λr=>pB (zE k r) v)=m at o hp⊢
 match m,o,hp with
 |[],_,_=>exact aO _
 |[_],_,_=>exact ae _
 |a::b::_,o,hp=>exact absurd ((o a sw).trans (o b sw).symm) ((List.pairwise_cons.1 hp).1 b sw)
theorem Nq{k:Int}{l:List (List (Sem ze))}(h:oZ k l)(o:∀r∈l,zJ k (Io r)=Q3){r:List (Sem ze)}(C:r∈l):∃(i:Nat)(z:i<Io l),zW (λx=>bf x k (zE k r)) l 0=(i:Int)/\l[i]=r:=by
 rcases dC (λx=>bf x k (zE k r)) l 0 with⟨_,B⟩|⟨i,z,D,B,_⟩
 ·have:=B _ C;rw[(kQ (o _ C)).2 rfl]at this;cases this
 ·rw[ek]at D;exact⟨i,z,D,RN h (aK z) C ((kQ (o _ (aK z))).1 B)⟩
end
theorem DQ(a:Sem ze):aX a a=(0:Int):=by
 unfold aX;show FG [pR (an a).1 (an a).1,jM (an a).2.1 (an a).2.1,mU (an a).2.2 (an a).2.2]=(0:Int);rw[<-IK,if_pos sw]
def YE(l:List (Sem zh))(i:Int)(p:Sem zq):List (Sem ze)->fG
 |[]=>.h3 l i (p,())
 |a::r=>.h3b l i (p,()) (a::r)
section
variable {l:List (Sem zh)} {p:Sem zq} {u:Sem ze} {acc:List (Sem ze)} {i:Nat}
theorem zdX (hl:Io acc≤1000) (hi:i≤1000) (hu:Io u.2.2≤1000000) (hm:∀ o∈acc,Io o.2.2≤1000000∧(aX o u=(0:Int)→o=u)):
    ∀ (E:List (Sem ze)) (k:Nat),acc.drop k=E→k≤Io acc→∀ (d:Bool) (B:List (Sem ze)),Io B≤2 * k→∀ s,(s=fG.h9bb l (i:Int) (k:Int) (p,()) (u,()) acc B∧d=Q3∨s=fG.h9bbb l (i:Int) d (k:Int) (p,()) (u,()) acc B)→
      zL gj (Io E+1) s (.h3b l ((i+1:Nat):Int) (p,()) (B++if d=Q3 then E else fk u E))
  | [],k,X,hk,d,B,hn,s,Y=>by
    have h:k=Io acc:=by
      have:=congrArg Io X;simp at this;omega
    have hc:Q0 (Io B+[u].length<=1073741824)=Q3:=by simp;omega
    subst h;rcases Y with⟨rfl,rfl⟩|rfl
    · refine zL.of ?_
      rw[if_pos rfl,o8];simp only[gj,Q8,zB,zA,if_false];rw[zr i um]
    · refine zL.of ?_
      simp only[gj,Q8,zB,zA,if_false,hc,if_true];rw[zr i um];cases d
      · rfl
      · rw[if_pos rfl,o8];rfl
  | o :: r, k,X,hk,d,B,hn,s,Y=>by
    have h:k<Io acc:=by
      have:=congrArg Io X;simp at this;omega
    have ho:acc[k]=o:=by
      have:=fj h;rw[X]at this;exact(List.cons.inj this).1.symm
    have h4:acc.drop (k+1)=r:=by
      have:=fj h;rw[X]at this;exact(List.cons.inj this).2.symm
    obtain⟨m1,m2⟩:=hm o (ho▸aK h);have h1:Q0 (Io B+[u].length<=1073741824)=Q3:=by simp;omega
    have F:Q0 (Io B+[o].length<=1073741824)=Q3:=by simp;omega
    have h2:Q0 ((B++[u]).length+[o].length<=1073741824)=Q3:=by simp;omega
    have C:Q0 (k<Io acc)=Q3:=zx h;have D:acc.getD k (zi ze)=o:=by rw[<-ho];exact zH acc (zi ze) h
    have W:Q0 (GT.gt (α:=Int) 0 0)=Q4:=rfl;have ih:=zdX hl hi hu hm r (k+1) h4 h
    have O:∀(S:Bool)(H:List (Sem ze))(s':fG),Io H<=2*(k+1)->(s'=fG.h9bb l (i:Int) ((k+1:Nat):Int) (p,()) (u,()) acc H/\S=Q3\/s'=fG.h9bbb l (i:Int) S ((k+1:Nat):Int) (p,()) (u,()) acc H)->
        (H++if S=Q3 then r else fk u r)=(B++if d=Q3 then o::r else fk u (o::r))->(gj s).val=Q1 (.inl s')->zL gj ((o::r).length+1) s (.h3b l ((i+1:Nat):Int) (p,()) (B++if d=Q3 then o::r else fk u (o::r))):=λS H s' a b c e=>by
      rw[<-c];exact((zL.of e).trans (ih S H a s' b)).mono sw
    have T:∀x:List (Sem ze),(B++[o])++x=B++o::x:=λx=>by rw[uI];rfl
    have M:=lF m1 hu;have I:=np m1 hu;have L:=zr k um;have z:fk u (o::r)=if LT.lt (α:=Int) (aX o u) 0 then o::fk u r else if(o==u)=Q3 then o::r else u::o::r:=rfl
    by_cases J:aX o u=(0:Int)
    · have e:=m2 J
      have z:fk u (o::r)=o::r:=by rw[z,if_neg (by rw[J];omega),if_pos (by rw[e];exact BEq.rfl)]
      rw[J]at I;refine O Q3 (B++[o]) _ sg (.inl ⟨rfl,rfl⟩) (by rw[if_pos rfl,T,z];cases d<;>rfl) ?_;rcases Y with⟨rfl,rfl⟩|rfl
      · simp only[gj,Q8,zF h,zt h,aD,C,D,M,I,F,L,W,BEq.rfl,ao,zA,if_true,if_false]
      · simp only[gj,Q8,zF h,zt h,aD,C,D,M,I,F,L,W,BEq.rfl,ao,zA,if_true,if_false]
    · have Z:((aX o u:Int)==0)=false:=by simpa using J
      by_cases hg:GT.gt (α:=Int) (aX o u) 0
      · have G:Q0 (GT.gt (α:=Int) (aX o u) 0)=Q3:=zx hg
        have z:fk u (o::r)=u::o::r:=by
          rw[z,if_neg ow,if_neg];intro e;rw[bG e]at J;exact J (DQ u)
        rcases Y with⟨rfl,rfl⟩|rfl
        · refine O Q3 (B++[o]) _ sg (.inl ⟨rfl,rfl⟩) (by rw[if_pos rfl,if_pos rfl,T]) ?_
          simp only[gj,Q8,zF h,zt h,aD,C,D,M,I,F,L,Z,G,bA,af,zA,if_true,if_false]
        · cases d with
          | true=>
            refine O Q3 (B++[o]) _ sg (.inr rfl) (by rw[if_pos rfl,if_pos rfl,T]) ?_;simp only[gj,Q8,zF h,zt h,aD,C,D,M,I,F,L,Z,G,bA,af,zA,if_true,if_false]
          | false=>
            refine O Q3 ((B++[u])++[o]) _ sg (.inl ⟨rfl,rfl⟩) (by rw[if_pos rfl,if_neg sw,z];simp) ?_;simp only[gj,Q8,zF h,zt h,aD,C,D,M,I,h1,h2,L,Z,G,cA,af,zA,if_true,if_false]
      · have G:Q0 (GT.gt (α:=Int) (aX o u) 0)=Q4:=aq hg
        have h3:LT.lt (α:=Int) (aX o u) 0:=
           Int.lt_iff_le_and_ne.2 ⟨Int.not_lt.1 hg,J⟩
        have z:fk u (o::r)=o::fk u r:=by rw[z,if_pos h3]
        rcases Y with⟨rfl,rfl⟩|rfl
        · refine O Q3 (B++[o]) _ sg (.inl ⟨rfl,rfl⟩) (by rw[if_pos rfl,if_pos rfl,T]) ?_
          simp only[gj,Q8,zF h,zt h,aD,C,D,M,I,F,L,Z,G,ao,zA,if_true,if_false]
        · refine O d (B++[o]) _ sg (.inr rfl) (by rw[z,T];cases d<;>rfl) ?_
          simp only[gj,Q8,zF h,zt h,aD,C,D,M,I,F,L,Z,G,ao,zA,if_true,if_false]
end
section
variable {db:List (Sem zh)} {p:Sem zq}
theorem aF.vlen(h:aF db p)(C:∀x∈db,F1 x){row:List (Sem ze)}(z:row∈(de db p).2){u:Sem ze}(B:u∈row):Io u.2.2<=1000000:=by
 rw[Vs]at z;have o:p.2.1∈bw p.2.1 p.2.2.1:=by unfold bw;split<;>simp
 exact((C _ (iN (h.fnd _ o)).1).vals row z u B).2.2
theorem RL(l:List (Sem ze))(u:Sem ze):ir (l++[u])=if(u.1==0)=Q3 then ir l else fk u (ir l):=by
 unfold ir;rw[List.foldl_append];rfl
theorem aF.qAll(h:aF db p)(hw:∀x∈db,F1 x):I5 p (zI db p)=Q3/\OD p (zI db p)=cv p (zI db p):=by
 have x1:=h.rel.few;have B:=h.len0;have G:getD (zI db p) (toNat 0) (zi zh)=de db p:=rfl;have h6:(lW p (zI db p)).length=(de db p).2.length:=cz _;have O:∀v∈lW p (zI db p),aU v=Q3/\Io v.2.2<=1000000:=λv hv=>by
  refine⟨h.may hv,?_⟩;obtain⟨row,hr,rfl⟩:=bd.1 hv;rw[h.pc.2];exact h.vlen hw hr (h.at_mem hr)
 have:Bu p (zI db p)=Q1 (cv p (zI db p),()):=by
  have hs:(zm5 p (zI db p)).val=Q1 (.inl (YE (zI db p) ((0:Nat):Int) p (ir ((lW p (zI db p)).take 0)))):=rfl;have H:=zL.all (t:=gj) 1000 (λi=>YE (zI db p) (i:Int) p (ir ((lW p (zI db p)).take i))) (de db p).2.length λi S=>by
   have hm:=aK S;have h1:i<(lW p (zI db p)).length:=by omega
   have W:(lW p (zI db p))[i]=zE (bY p (zI db p)) (de db p).2[i]:=by
    rw[<-h.pc.2];exact List.getElem_map _
   have T:=O _ (aK h1);obtain⟨o1,o2⟩:=h.qOf' hm;have o3:=h.qOf (h.inn _ hm).1;have o4:(ur p (zI db p) (de db p).2[i]).getD (bQ [ze])=(zE (bY p (zI db p)) (de db p).2[i],()):=by rw[o3];rfl
   rw[bg h1,RL];rw[W]at T⊢;have h5:=KF ((lW p (zI db p)).take i);have h2:(ir ((lW p (zI db p)).take i)).length<=200:=by
    rw[o7]at h5;omega
   have E:∀o∈ir ((lW p (zI db p)).take i),Io o.2.2<=1000000/\(aX o (zE (bY p (zI db p)) (de db p).2[i])=(0:Int)->o=zE (bY p (zI db p)) (de db p).2[i])/\o.1≠0:=λo ho=>by
    obtain⟨a,b⟩:=((nS λx W=>(O x (List.mem_of_mem_take W)).1).2 o).1 ho;have:=O o (List.mem_of_mem_take a);exact⟨this.2,uj this.1 T.1,b⟩
   generalize zE (bY p (zI db p)) (de db p).2[i]=u at T o2 o4 E⊢;generalize ir ((lW p (zI db p)).take i)=acc at h2 E⊢;have h8:=zr i um;cases acc with
   | nil=>
    have f1:zL gj 1 (YE (zI db p) (i:Int) p []) (.h9 (zI db p) (i:Int) (u.1==0) 0 (p,()) (u,())):=zL.of (by
     show(gj (.h3 _ _ _)).val=_;simp only[gj,Q8,G,B,zF S,zt S,if_true,zH _ _ S,zk,Prod.eta,o1,o2,o4])
    have f2:zL gj 1 (.h9 (zI db p) (i:Int) (u.1==0) 0 (p,()) (u,())) (YE (zI db p) ((i+1:Nat):Int) p (ite ((u.1==0)=Q3) [] (fk u []))):=zL.of (by
     simp only[gj,Q8,show Q0 ((0:Int)<0)=Q4 from rfl,show Q0 ([u].length<=1073741824)=Q3 from rfl,zA,if_true,if_false,h8];cases u.1==0<;>rfl)
    exact(f1.trans f2).mono ow
   | cons o r=>
    have f1:zL gj 1 (YE (zI db p) (i:Int) p (o::r)) (.h9b (zI db p) (i:Int) (u.1==0) 0 (p,()) (u,()) (o::r)):=zL.of (by
     show(gj (.h3b _ _ _ _)).val=_;simp only[gj,Q8,G,B,zF S,zt S,if_true,zH _ _ S,zk,Prod.eta,o1,o2,o4])
    obtain⟨m1,m2,m3⟩:=E o sw;have q1:=lF m1 T.2;have q2:=np m1 T.2;have x2:=zr 0 um;have J:Q0 ((0:Int)<((o::r).length:Int))=Q3:=by simp
    have F:zJ 0 (o::r).length=Q3:=zt (i:=0) sw;have L:Q0 (toNat 0<(o::r).length)=Q3:=by simp
    have x0:=zdX (l:=zI db p) (p:=p) (u:=u) (acc:=o::r) (i:=i) ow ow T.2 (λx W=>⟨(E x W).1,(E x W).2.1⟩) r 1 rfl sw;have z:fk u (o::r)=if LT.lt (α:=Int) (aX o u) 0 then o::fk u r else if(o==u)=Q3 then o::r else u::o::r:=rfl
    have go:∀(X:Bool)(D:List (Sem ze))(s':fG),Io D<=2->(s'=fG.h9bb (zI db p) (i:Int) ((1:Nat):Int) (p,()) (u,()) (o::r) D/\X=Q3\/s'=fG.h9bbb (zI db p) (i:Int) X ((1:Nat):Int) (p,()) (u,()) (o::r) D)->
      (D++if X=Q3 then r else fk u r)=(ite ((u.1==0)=Q3) (o::r) (fk u (o::r)))->(gj (.h9b (zI db p) (i:Int) (u.1==0) 0 (p,()) (u,()) (o::r))).val=Q1 (.inl s')->
      zL gj 1000 (YE (zI db p) (i:Int) p (o::r)) (YE (zI db p) ((i+1:Nat):Int) p (ite ((u.1==0)=Q3) (o::r) (fk u (o::r)))):=λX D s' a b c e=>by
     have f3:=x0 X D a s' b;rw[c]at f3;have:∃x y,(ite ((u.1==0)=Q3) (o::r) (fk u (o::r)))=x::y:=by
      rw[z];split
      ·exact⟨_,_,rfl⟩
      ·split
       ·exact⟨_,_,rfl⟩
       ·split<;>exact⟨_,_,rfl⟩
     obtain⟨x,y,e3⟩:=this;rw[e3]at f3⊢;exact((f1.trans (zL.of e)).trans f3).mono (by simp at h2;omega)
    by_cases M:aX o u=(0:Int)
    ·have e:=m2 M;have C:(u.1==0)=Q4:=by rw[<-e];simpa using m3
     have z:fk u (o::r)=o::r:=by rw[z,if_neg (by rw[M];omega),if_pos (by rw[e];exact BEq.rfl)]
     rw[M]at q2;refine go Q3 [o] _ sw (.inl ⟨rfl,rfl⟩) (by rw[if_pos rfl,C,if_neg sw,z];rfl) ?_;simp only[gj,Q8,J,F,L,show(o::r).getD (toNat 0) (zi ze)=o from rfl,q1,q2,show Q0 (GT.gt (α:=Int) 0 0)=Q4 from rfl,show Q0 ([o].length<=1073741824)=Q3 from rfl,BEq.rfl,ao,zA,if_true,if_false];rfl
    ·have hz:((aX o u:Int)==0)=Q4:=by simpa using M
     by_cases H:GT.gt (α:=Int) (aX o u) 0
     ·have I:Q0 (GT.gt (α:=Int) (aX o u) 0)=Q3:=zx H;have z:fk u (o::r)=u::o::r:=by
       rw[z,if_neg ow,if_neg];intro e;rw[bG e]at M;exact M (DQ u)
      by_cases C:(u.1==0)=Q3
      ·refine go Q3 [o] _ sw (.inr rfl) (by rw[if_pos rfl,if_pos C];rfl) ?_;simp only[gj,Q8,J,F,L,show(o::r).getD (toNat 0) (zi ze)=o from rfl,q1,q2,hz,I,C,show Q0 ([o].length<=1073741824)=Q3 from rfl,bA,af,zA,if_true,if_false];rfl
      ·have h4:=Bool.eq_false_iff.2 C;refine go Q3 [u,o] _ sw (.inl ⟨rfl,rfl⟩) (by rw[if_pos rfl,if_neg C,z];rfl) ?_;simp only[gj,Q8,J,F,L,show(o::r).getD (toNat 0) (zi ze)=o from rfl,q1,q2,hz,I,h4,show Q0 ([u].length<=1073741824)=Q3 from rfl,show Q0 ([u].length+[o].length<=1073741824)=Q3 from rfl,cA,af,zA,if_true,if_false];rfl
     ·have I:Q0 (GT.gt (α:=Int) (aX o u) 0)=Q4:=aq H;have h7:LT.lt (α:=Int) (aX o u) 0:=Int.lt_iff_le_and_ne.2 ⟨Int.not_lt.1 H,M⟩;have z:fk u (o::r)=o::fk u r:=by rw[z,if_pos h7]
      refine go (u.1==0) [o] _ sw (.inr rfl) (by rw[z];cases u.1==0<;>rfl) ?_;simp only[gj,Q8,J,F,L,show(o::r).getD (toNat 0) (zi ze)=o from rfl,q1,q2,hz,I,show Q0 ([o].length<=1073741824)=Q3 from rfl,ao,zA,if_true,if_false];rfl
  have H:zL gj ((de db p).2.length*1000) (YE (zI db p) ((0:Nat):Int) p (ir ((lW p (zI db p)).take 0))) (YE (zI db p) ((de db p).2.length:Int) p (ir ((lW p (zI db p)).take (de db p).2.length))):=H;have Z:ir ((lW p (zI db p)).take (de db p).2.length)=cv p (zI db p):=by rw[<-h6,fI];rfl
  rw[Z]at H;generalize cv p (zI db p)=acc at H⊢;have Y:∃r,zV gj 1 (YE (zI db p) ((de db p).2.length:Int) p acc) r/\aI r.2 [ze.sl] r.1=Q1 (acc,()):=by
   cases acc with
   | nil=>
    refine⟨_,zV.of (by
     show(gj (.h3 _ _ _)).val=_;simp only[gj,Q8,G,B,zB,zA,if_true,if_false];rfl),rfl⟩
   | cons a r=>
    refine⟨_,zV.of (by
     show(gj (.h3b _ _ _ _)).val=_;simp only[gj,Q8,G,B,zB,zA,if_true,if_false];rfl),rfl⟩
  obtain⟨r,r1,r2⟩:=Y;exact zy hs (H.ends r1) ow r2
 exact⟨by unfold I5;rw[this];rfl,by unfold OD;rw[this];rfl⟩
end
theorem Xx{B:List (Sem zh)}{C:Sem zn}(hx:∀x∈B,RgR x)(h1:RgS C):
  ∃(p:Sem zq)(I:List (Sem zh))(X:Bool),rz B C=Q1 (p,I,X,())/\(X=Q3->∃db,aF db p/\I=zI db p/\(∀x∈db,F1 x)/\uE db p):=by
 obtain⟨db,S,d2,d3⟩:=Ws B;obtain⟨s,Z,s2,s3⟩:=Wq h1;have D:Hc B=db:=by unfold Hc;rw[S];rfl
 have E:Ok B=Q3:=by unfold Ok;rw[S];rfl
 have W:Wp C=s:=by unfold Wp;rw[Z];rfl
 have G:Oh C=Q3:=by unfold Oh;rw[Z];rfl
 have o:∀x∈db,F1 x:=by
  intro x z;obtain⟨y,hy,rfl⟩:=d3 x z;exact Wr (hx y hy)
 have H:∀x∈db,gS x:=λx z=>(o x z).short
 have Y:=XD o s3;have F:OB db s=Q3:=by unfold OB;rw[Y];rfl
 have L:XC db s=((aV db s).2,(aV db s).1):=by unfold XC;rw[Y];rfl
 by_cases J:(aV db s).1=0
 ·have M:=Xv H J s2;have T:=zh3 o J s3;have O:=Ym (XF H M.fnd);generalize(aV db s).2=p at L M T O;rw[J]at L;have t1:IG p db=Q3:=by unfold IG;rw[O];rfl
  have t2:Ol p db=(p,zI db p,Q3):=by unfold Ol;rw[O];rfl
  refine⟨p,zI db p,Q3,?_,λ_=>⟨db,M,rfl,o,T⟩⟩;have e:p=(p.1,p.2.1,p.2.2.1,(p.2.2.2.1.1,p.2.2.2.1.2.1,p.2.2.2.1.2.2.1,p.2.2.2.1.2.2.2.1,p.2.2.2.1.t.1,zm p.2.2.2.1.t.2),p.t):=by rw[zk]
  refine(zM (i:=i7u B C) (t:=t0) (n:=100000000) (outs:=[zq,zh.sl,Q7]) (by
   simp only[i7u,zk,Prod.eta,Q8,D,E,W,G,L,F,t1,t2,jJ,zA,if_true,if_false];rfl) (y:=((p.1,p.2.1,p.2.2.1,(p.2.2.2.1.1,p.2.2.2.1.2.1,p.2.2.2.1.2.2.1,p.2.2.2.1.2.2.2.1,p.2.2.2.1.t.1,zm p.2.2.2.1.t.2),p.t),zI db p,Q3,())) rfl).trans ?_
  rw[<-e]
 ·have hb:((aV db s).1!=0)=Q3:=by simpa using J
  refine⟨jS,[],Q4,?_,λh=>by cases h⟩;refine zM (i:=i7u B C) (t:=t0) (n:=100000000) (outs:=[zq,zh.sl,Q7]) (r:=(tup [agg [str [],str [],str [],str [],nils,ai 0,nils,nils,str [],ai 0,ai 0,str [],str [],nils,nils,ai 0],nils,kb Q4],[])) ?_ rfl;simp only[i7u,zk,Prod.eta,Q8,D,E,W,G,L,F,hb,if_true]
noncomputable section
abbrev zsi:=kR [(11,[7,10,13,14,16,17,18,19])]
inductive H5v where
 |h11 (i13:Sem zg) (b17:Bool) (i18:Int) (i19:Int) (z0:zl [CP.d zq]) (z1:zl [CP.d zh]) (z2:zl [CP.d zh]) (z3:zl [CP.d ze])
abbrev e5v:H5v->Nat×St
 |.h11 o h z B C z1 D E=>(11,⟨tm 124 [(7,ptr 0 0),(10,ptr 1 0),(13,ai o),(14,ptr 2 0),(16,ptr 3 0),(17,AV.bool h),(18,ai z),(19,ai B)],[AO.box (bb [] [CP.d zq] C),AO.box (bb [] [CP.d zh] z1),AO.box (bb [] [CP.d zh] D),AO.box (bb [] [CP.d ze] E)]⟩)
def i5v(G:Sem zh.sl)(o:Sem zn)(B:Sem Sh.expr):Tr (H5v⊕aw):=
 let D:=(o.1,o.2.1,o.2.2.1,o.2.2.2.1,o.t.1,o.t.2.1,o.t.q.1,o.t.q.2.1,zm o.t.t.1,o.t.t.2.1,o.t.t.q.1,zm o.t.t.q.2.1,o.t.t.t)
 let h:=DB G D
 let z:=(h.1.1,h.1.2.1,h.1.2.2.1,(h.1.2.2.2.1.1,h.1.2.2.2.1.2.1,h.1.2.2.2.1.2.2.1,h.1.2.2.2.1.2.2.2.1,h.1.2.2.2.1.t.1,zm h.1.2.2.2.1.t.2),h.1.t)
 let E:=OD z h.2.1
 let C:=Nx z h.2.1 (zm (dw (zm B)))
 let F:=dI z (zm (dw (zm B)))
 let H:=Bv z h.2.1 E
 let I:=Bv z h.2.1 C.1
 chk (yg G D)
 (br (!h.2.2) (chk Q3 (re (AV.bool CD) []))
  (chk (I5 z h.2.1) (chk (vS z h.2.1 E) (chk (Ib z h.2.1 (zm (dw (zm B)))) (chk (vS z h.2.1 C.1) (chk (Ad z (zm (dw (zm B)))) (Tr.to (H5v.h11 C.2 F.2 0 0 (h.1,()) (H.1,()) (I.1,()) (F.1,())))))))))
def t5v:H5v->Tr (H5v⊕aw)
 | .h11 o h B z H z1 E F=>
  let W:=(↑(Io E.1.2):Int)
  let I:=zJ z (Io E.1.2)
  let G:=getD E.1.2 z.toNat (zi ze.sl)
  let L:=zJ H.1.2.2.2.1.2.2.1 (Io G)
  let M:=((z1.1.1.1,z1.1.1.2.1,z1.1.1.2.2.1,z1.1.1.2.2.2.1,z1.1.1.t.1,zm z1.1.1.t.2),z1.1.2)
  let D:=getD G (toNat H.1.2.2.2.1.2.2.1) (zi ze)
  let J:=oO M D
  let O:=Q0 (J<0)
  let S:=getD z1.1.2 (toNat J) (zi ze.sl)
  let T:=Γ Δ (z+1)
  let C:=Q0 (B<=1)
  br (Q0 (z<W))
  (chk I (chk L (chk (kD M D) (chk (cond O Q3 (zJ J (Io z1.1.2)&&(I&&BB S G))) (br (cond O Q3 (!Jb S G)) (re (kb Q4) []) (chk I (chk L (br (D.1==F.1.1&&(D.2.1==F.1.2.1&&(D.2.2==F.1.2.2&&Q3)))
  (Tr.to (H5v.h11 o h (Γ Δ (B+1)) T H z1 E F)) (Tr.to (H5v.h11 o h B T H z1 E F))))))))))
  (chk (cond (o==0) (cond (!h) Bc (cond C Bc Q3)) Q3) (re (AV.bool (cond (o==0) (cond (!h) CD (cond C CD Q4)) Q4)) []))
def Bm(h:Sem zh.sl)(o:Sem zn)(z:Sem Sh.expr):=al [Q7] t5v 100000000 (i5v h o z)
def F5v:=FT [zh.sl,zn,Sh.expr] [Q7] λx=>Bm x.1 x.2.1 x.2.2.1
theorem zlo:FK 5 F5v:=Sv.T1 (f:=Tryz.f5) (keep:=zsi) (e:=e5v)
end
end Cad
