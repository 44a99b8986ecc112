/- Contracts. -/
import Derived.Test.YtjfdpfapcmcncaaGreatDoorH22
namespace Cad
open Go Go.Proofs Go.RowKit Go.ChangeShapes Go.WideShapes Go.ChangeAt
open List renaming length→Io
open IntKind renaming wrap→Γ,i64→Δ
open Tr renaming val→Q8
open Bool renaming false→Q4,true→Q3
open Option renaming some→Q1
open Decidable renaming decide→Q0
open Int (toNat)
open List (getD)
open Tr (chk br re)
open AV (nils agg tup ptr kb str sl)
section
variable {w:World} {U:Nat->Prop} {ρ:Nat->Option Value}
def Nt(w:World)(U:Nat->Prop)(ρ:Nat->Option Value)(l:List AV):Prop:=∀(j:Nat)(c:AV),l[j]?=Q1 c->∃v,Rv w U ρ c v
theorem LL{n:Int}{v:Value}(h:Rv w U ρ (.int .i64 n) v):-9223372036854775808<=n/\n<=9223372036854775807:=by
 cases h with
 |int _ _ h=>simpa[cz,IntKind.min,IntKind.max,IntKind.signed,IntKind.bits]using h
theorem sk{e:Sh}{l:List (Sem e)}{v:Value}(h:Rv w U ρ (.sl e l) v):∀x∈l,Nt w U ρ (zu e x):=by
 intro x z;cases h with
 |sl0=>simp at z
 | sl _ _ _ _ _ B G H F E o D=>
  obtain⟨i,C,rfl⟩:=gq z;exact λj c h=>⟨_,D i C j c h⟩
theorem VD{v:Sem ze}(h:Nt w U ρ (zu ze v)):RgV v:=by
 obtain⟨_,h⟩:=h 1 _ rfl;exact LL h
mutual
theorem xW:∀(e:zf),Nt w U ρ (zu .expr e)->RP e
 | .mk C v s l,h=>by
  rw[RP];obtain⟨_,o⟩:=h 2 _ rfl;obtain⟨_,z⟩:=h 5 _ rfl;exact⟨LL o,P4 l λx B=>sk z x B⟩
theorem P4:∀(l:List zf),(∀x∈l,Nt w U ρ (zu .expr x))->H0 l
 |[],_=>by rw[H0];trivial
 |x::r,h=>by rw[H0];exact⟨xW x (h x sw),P4 r λy o=>h y (by simp[o])⟩
end
theorem zhs{x:Sem zh}(h:Nt w U ρ (zu zh x)):RgR x where
 chk:=xW _ λj c o=>match j,o with
  |0,o=>h 5 c o
  |1,o=>h 6 c o
  |2,o=>h 7 c o
  |3,o=>h 8 c o
  |4,o=>h 9 c o
  |5,o=>h 10 c o
  |j+6,o=>by simp[zu]at o
 vals:=by
  obtain⟨_,h⟩:=h 11 _ rfl;intro r z v B;obtain⟨_,h⟩:=sk h r z 0 _ rfl;exact VD (sk h v B)
end
theorem KH{w:World}{U:Nat->Prop}{ρ:Nat->Option Value}{cs:List AV}{v:Value}(h:Rv w U ρ (.agg cs) v):Nt w U ρ cs:=by
 intro j c o;cases h with
 | agg _ vs D C B=>
  have z:j<Io vs:=by have:=(dp.1 o).1;omega
  exact⟨vs[j],B j c _ o (zU z)⟩
theorem zht{w:World}{U:Nat->Prop}{ρ:Nat->Option Value}{s:Sem zn}(h:Nt w U ρ (zu zn s)):RgS s where
 chk:=xW _ λj c o=>match j,o with
  |0,o=>h 8 c o
  |1,o=>h 9 c o
  |2,o=>h 10 c o
  |3,o=>h 11 c o
  |4,o=>h 12 c o
  |5,o=>h 13 c o
  |j+6,o=>by simp[zu]at o
 whr:=xW _ λj c o=>match j,o with
  |0,o=>h 16 c o
  |1,o=>h 17 c o
  |2,o=>h 18 c o
  |3,o=>h 19 c o
  |4,o=>h 20 c o
  |5,o=>h 21 c o
  |j+6,o=>by simp[zu]at o
 row:=by
  obtain⟨_,h⟩:=h 14 _ rfl;exact λv z=>VD (sk h v z)
 sets:=by
  obtain⟨_,h⟩:=h 15 _ rfl;intro x B;have h:=sk h x B;exact xW _ λj c o=>match j,o with
   |0,o=>h 1 c o
   |1,o=>h 2 c o
   |2,o=>h 3 c o
   |3,o=>h 4 c o
   |4,o=>h 5 c o
   |5,o=>h 6 c o
   |j+6,o=>by simp[zu]at o
open Go Go.Proofs
set_option maxHeartbeats 4000000
theorem Yo{p:Sem zq}{db o:List (Sem zh)}{z:Bool}(h:D1 p db=Q1 (o,z,())):Bp p db=Q1 (p,o,z,()):=by
 have B:OJ p db=Q3:=by unfold OJ;rw[h];rfl
 have C:XH p db=(o,z):=by unfold XH;rw[h];rfl
 have e:p=(p.1,p.2.1,p.2.2.1,(p.2.2.2.1.1,p.2.2.2.1.2.1,p.2.2.2.1.2.2.1,p.2.2.2.1.2.2.2.1,p.2.2.2.1.t.1,zl p.2.2.2.1.t.2),p.t):=by rw[zk]
 refine(zH (i:=zhz p db) (t:=t0) (n:=100000000) (outs:=[zq,zh.sl,Sh.bool]) (by
  simp only[zhz,zk,Prod.eta,Q8,B,C,if_true];rfl) (y:=((p.1,p.2.1,p.2.2.1,(p.2.2.2.1.1,p.2.2.2.1.2.1,p.2.2.2.1.2.2.1,p.2.2.2.1.2.2.2.1,p.2.2.2.1.t.1,zl p.2.2.2.1.t.2),p.t),o,z,())) rfl).trans ?_
 rw[<-e]
theorem aG.uall{db:List (Sem zh)}{p:Sem zq}(h:aG db p):Kj p (zK db p)=Q1 (cE p (zK db p),0,()):=by
 obtain⟨o,z⟩:=IY h.go;refine zH (r:=(tup [sl ze (cE p (zK db p)),ai 0],[])) ?_ rfl;simp only[zm3,zk,Prod.eta,Q8,o,z,h.all,ir,zA,if_true,if_false]
theorem zbY{l:List (Sem ze)}(v:Sem ze)(J:Io l<=1000000):Rq l v=Q1 (zW (B7 v) l 0,()):=by
 have E:(znr l v).val=Q1 (.inl (.h2 l (Io l:Int) ((0:Nat):Int) (v,()))):=rfl
 have o:∀k,k<=Io l->(∀x∈l.take k,B7 v x=Q4)->zL Tq (k*1) (.h2 l (Io l:Int) ((0:Nat):Int) (v,())) (.h2 l (Io l:Int) (k:Int) (v,())):=λk C G=>
  zL.all (t:=Tq) 1 (λi=>.h2 l (Io l:Int) (i:Int) (v,())) k λi I=>zL.of (by
   have h:i<Io l:=by omega
   have z:B7 v l[i]=Q4:=G _ (List.mem_take_iff_getElem.2 ⟨i,ow,rfl⟩);unfold B7 at z;simp only[Tq,Q8,zE h,zt h,if_true,zG _ _ h,z,zA,if_false];rw[zr i um])
 rcases dZ (B7 v) l 0 with⟨D,B⟩|⟨k,C,D,B,F⟩
 ·rw[D];refine zy E ((o (Io l) (af _) (λx H=>B x (List.mem_of_mem_take H))).ends (zV.of (r:=(.int .i64 (-1),[])) ?_)) ow rfl;simp only[Tq,Q8,zB,zA,if_false]
 ·rw[D];refine zy E ((o k ow F).ends (zV.of (r:=(.int .i64 (k:Int),[])) ?_)) ow (by rw[ez];rfl);unfold B7 at B;simp only[Tq,Q8,zE C,zt C,if_true,zG _ _ C,B]
theorem zbX{l:List (Sem ze)}(v:Sem ze)(C:Io l<=1000000):Nc l v=Q3/\FM l v=l.any (B7 v):=by
 have h:=zbY v C;have o:Yu l v=Q3:=by unfold Yu;rw[h];rfl
 have z:ziP l v=zW (B7 v) l 0:=by unfold ziP;rw[h];rfl
 have B:Q0 (GE.ge (α:=Int) (zW (B7 v) l 0) 0)=l.any (B7 v):=by rw[jb,xZ,List.any_eq_true]
 have:Rp l v=Q1 (l.any (B7 v),()):=by
  refine zH (r:=(.bool (l.any (B7 v)),[])) ?_ rfl;simp only[znk,Q8,o,z,if_true];rw[B]
 exact⟨by unfold Nc;rw[this];rfl,by unfold FM;rw[this];rfl⟩
theorem XY{x:Sem zh}(v:Sem ze)(h:dA x.1=Q3):O3 x v=Q3/\XX x v=zW (λr=>bl r x.1.2.2.1 v) x.2 0:=by
 have:JI x v=Q1 (zW (λr=>bl r x.1.2.2.1 v) x.2 0,()):=by
  refine zH (r:=(.int .i64 (zW (λr=>bl r x.1.2.2.1 v) x.2 0),[])) ?_ rfl;simp only[znj,zk,Prod.eta,Q8,h,bA,zA,if_false]
 exact⟨by unfold O3;rw[this];rfl,by unfold XX;rw[this];rfl⟩
theorem rr{row:List (Sem ze)}{c:Int}{v:Sem ze}(h:zJ c (Io row)=Q3):bl row c v=Q3↔zN c row=v:=by
 simp only[zJ,aE,aN]at h;unfold bl;rw[zx (show GE.ge (α:=Int) c 0 from h.1),zx (show LT.lt (α:=Int) c (Io row:Int)from h.2),zY,zY];exact mw
theorem dQ.find{x:Sem zh}(h:dQ x){row:List (Sem ze)}(D:row∈x.2):
  ∃(k:Nat)(z:k<Io x.2),zW (λr=>bl r x.1.2.2.1 (zN x.1.2.2.1 row)) x.2 0=(k:Int)/\x.2[k]=row:=by
 rcases dZ (λr=>bl r x.1.2.2.1 (zN x.1.2.2.1 row)) x.2 0 with⟨_,C⟩|⟨k,z,F,C,_⟩
 ·have:=C row D;rw[(rr (h.keys row D)).2 rfl]at this;cases this
 ·refine⟨k,z,by rw[F,ez],?_⟩;have e:=(rr (h.keys _ (aP z))).1 C;obtain⟨j,E,rfl⟩:=gq D;by_cases B:k=j
  ·subst B;rfl
  ·have hp:=List.pairwise_iff_getElem.1 (List.pairwise_map.1 (P9 h.pw));rcases Nat.lt_or_gt_of_ne B with o|o
   ·exact absurd e (hp k j z E o)
   ·exact absurd e.symm (hp j k E z o)
section
variable {db:List (Sem zh)} {p:Sem zq}
theorem aG.has(h:aG db p){row:List (Sem ze)}(B:row∈(dn db p).2)(o:(zN (cg p (zK db p)) row).1≠0):zN (cg p (zK db p)) row∈cE p (zK db p):=by
 refine(h.is _).2 λz=>?_
 have:=List.filter_eq_nil_iff.1 z row B;exact this (ox.2 ⟨rfl,o⟩)
theorem aG.hasC(h:aG db p)(v:Sem ze):Nc (cE p (zK db p)) v=Q3/\(FM (cE p (zK db p)) v=Q3↔v∈cE p (zK db p)):=by
 have B:=h.few;have C:=h.rel.few;obtain⟨a,b⟩:=zbX (l:=cE p (zK db p)) v ow;refine⟨a,?_⟩;rw[b,List.any_eq_true];constructor
 ·rintro⟨x,z,e⟩;rw[mw.1 e];exact z
 ·intro o;exact⟨v,o,mw.2 rfl⟩
noncomputable def ls(db:List (Sem zh))(p:Sem zq)(v:Sem ze):Sem ze×Int:=
 if p.1=eW then
  let h:=zW (λr=>bl r (dn db p).1.2.2.1 v) (dn db p).2 0
  if LT.lt (α:=Int) h 0 then((0,0,[]),6)else
   let u:=zN p.t.2 (getD (dn db p).2 h.toNat (zi ze.sl))
   if FM (cE p (zK db p)) u=Q3 then(u,0)else((0,0,[]),6)
 else if FM (cE p (zK db p)) v=Q3 then(v,0)else((0,0,[]),6)
theorem aG.key(h:aG db p)(v:Sem ze):Ro p (zK db p) v=Q1 ((ls db p v).1,(ls db p v).2,()):=by
 obtain⟨H,I⟩:=IY h.go;have z:zJ 0 (zK db p).length=Q3:=zt (i:=0) (wV h.go.two).1;have C:getD (zK db p) (toNat 0) (zi zh)=dn db p:=rfl;obtain⟨O,M⟩:=XY (x:=dn db p) v h.rel.may;by_cases G:p.1=eW
 ·have F:(p.1==eW)=Q3:=by simpa using G
  have S:cg p (zK db p)=p.t.2:=by
   unfold cg;rw[if_neg (by rw[G];decide),if_pos G]
  unfold ls;rw[if_pos G];by_cases L:LT.lt (α:=Int) (zW (λr=>bl r (dn db p).1.2.2.1 v) (dn db p).2 0) 0
  ·simp only[if_pos L];refine zH (r:=(tup [agg [ai 0,ai 0,str []],ai 6],[])) ?_ rfl;simp only[SI,zk,Prod.eta,Q8,H,I,F,z,C,O,M,ir,zA,if_true,if_false];rw[if_pos (zx L)]
  ·simp only[if_neg L];rcases fU (λr=>bl r (dn db p).1.2.2.1 v) (dn db p).2 0 with e|⟨W,X⟩
   ·rw[e]at L;omega
   ·obtain⟨k,Z⟩:∃k:Nat,zW (λr=>bl r (dn db p).1.2.2.1 v) (dn db p).2 0=(k:Int):=⟨_,(Int.toNat_of_nonneg W).symm⟩;rw[Z]at L X M⊢;have o:k<(dn db p).2.length:=by omega
    have D:=(h.inn _ (aP o)).1;rw[S]at D;obtain⟨J,Y⟩:=h.hasC (zN p.t.2 (dn db p).2[k]);have T:Q0 ((k:Int)<0)=Q4:=by simp
    rw[zG _ _ o];by_cases B:FM (cE p (zK db p)) (zN p.t.2 (dn db p).2[k])=Q3
    ·rw[if_pos B];refine zH (r:=(tup [agg [ai (zN p.t.2 (dn db p).2[k]).1,ai (zN p.t.2 (dn db p).2[k]).2.1,str (zN p.t.2 (dn db p).2[k]).2.2],ai 0],[])) ?_ rfl;simp only[SI,zk,Prod.eta,Q8,H,I,F,z,C,O,M,T,zt o,zG _ _ o,D,h.all,J,B,ir,bA,zA,if_true,if_false]
    ·rw[if_neg B];have E:=Bool.eq_false_iff.2 B;refine zH (r:=(tup [agg [ai 0,ai 0,str []],ai 6],[])) ?_ rfl;simp only[SI,zk,Prod.eta,Q8,H,I,F,z,C,O,M,T,zt o,zG _ _ o,D,h.all,J,E,ir,cw,zA,if_true,if_false]
 ·have F:(p.1==eW)=Q4:=by simpa using G
  unfold ls;rw[if_neg G];obtain⟨J,Y⟩:=h.hasC v;by_cases B:FM (cE p (zK db p)) v=Q3
  ·rw[if_pos B];refine zH (r:=(tup [agg [ai v.1,ai v.2.1,str v.2.2],ai 0],[])) ?_ rfl;simp only[SI,zk,Prod.eta,Q8,H,I,F,h.all,J,B,ir,bA,zA,if_true,if_false]
  ·rw[if_neg B];have E:=Bool.eq_false_iff.2 B;refine zH (r:=(tup [agg [ai 0,ai 0,str []],ai 6],[])) ?_ rfl;simp only[SI,zk,Prod.eta,Q8,H,I,F,h.all,J,E,ir,cw,zA,if_true,if_false]
end
def Hd(a b:Sem ze):Bool:=!Q0 (GT.gt (α:=Int) (aX a b) 0)
theorem S5(a:Sem ze):aX a a=(0:Int):=by
 unfold aX;show FE [pR (ao a).1 (ao a).1,jO (ao a).2.1 (ao a).2.1,mW (ao a).2.2 (ao a).2.2]=(0:Int);rw[<-IP,if_pos sw]
theorem vB{a b:Sem ze}(z:aR a=Q3)(B:aR b=Q3):Hd a b=Q3↔(xf a b\/a=b):=by
 unfold Hd xf;simp only[sT,decide_eq_false_iff_not];constructor
 ·intro h;by_cases o:aX a b=(0:Int)
  ·exact .inr (uj z B o)
  ·exact .inl (Int.lt_iff_le_and_ne.2 ⟨Int.not_lt.1 h,o⟩)
 ·rintro(h|rfl)
  ·exact Int.not_lt.2 (Int.le_of_lt h)
  ·rw[S5];exact Int.lt_irrefl _
theorem Hf{a b c:Sem ze}(o:aR a=Q3)(z:aR b=Q3)(B:aR c=Q3)(h:Hd a b=Q3)(g:Hd b c=Q3):Hd a c=Q3:=by
 rw[vB o z]at h;rw[vB z B]at g;rw[vB o B];rcases h with h|rfl
 ·rcases g with g|rfl
  ·exact .inl (gm h g)
  ·exact .inl h
 ·exact g
theorem He{a b:Sem ze}(o:aR a=Q3)(z:aR b=Q3)(h:¬Hd a b=Q3):Hd b a=Q3:=by
 rw[vB o z]at h;rw[vB z o];simp only[not_or]at h;rcases kT o z h.1 with e|e
 ·exact absurd e h.2
 ·exact .inl e
section
variable {α:Type} (k:α->Sem ze)
def sI(row:α)(l:List α):List α:=l.filter (λx=>Hd (k x) (k row))++row::l.filter (λx=>!Hd (k x) (k row))
def jR(l:List α):List α:=l.foldl (λacc row=>sI k row acc) []
def yY(l:List α):Prop:=l.Pairwise λa b=>Hd (k a) (k b)=Q3
variable {k}
theorem NI{row:α}:∀{l:List α},(∀x∈row::l,aR (k x)=Q3)->yY k l->∃m,m<=Io l/\l.filter (λx=>Hd (k x) (k row))=l.take m/\l.filter (λx=>!Hd (k x) (k row))=l.drop m/\
   (∀i(h:i<Io l),i<m->Hd (k l[i]) (k row)=Q3)/\(∀i(h:i<Io l),m<=i->Hd (k l[i]) (k row)=Q4)
 |[],_,_=>⟨0,af _,rfl,rfl,λi h=>absurd h (Nat.not_lt_zero i),λi h=>absurd h (Nat.not_lt_zero i)⟩
 | a::r,hm,hr=>by
  obtain⟨D,E⟩:=List.pairwise_cons.1 hr;cases B:Hd (k a) (k row)with
  | true=>
   obtain⟨m,G,H,I,J,L⟩:=NI (row:=row) (l:=r) (λx o=>hm x (by simp at o⊢;rcases o with h|h<;>simp[h])) E;refine⟨m+1,by simpa using G,by simp[B,H],by simp[B,I],λi h C=>?_,λi h C=>?_⟩
   ·cases i with
    |zero=>exact B
    |succ i=>exact J i (by simpa using h) ow
   ·cases i with
    |zero=>omega
    |succ i=>exact L i (by simpa using h) ow
  | false=>
   have z:∀x∈r,Hd (k x) (k row)=Q4:=λx o=>by
    cases F:Hd (k x) (k row)with
    |false=>rfl
    |true=>rw[Hf (hm a sw) (hm x (by simp[o])) (hm row sw) (D x o) F]at B;cases B
   refine⟨0,sw,?_,?_,λi h C=>by omega,λi h _=>?_⟩
   ·rw[List.take_zero,List.filter_eq_nil_iff];intro x o;rcases bL.1 o with rfl|o
    ·rw[B];simp
    ·rw[z x o];simp
   ·rw[List.drop_zero,List.filter_eq_self];intro x o;rcases bL.1 o with rfl|o
    ·rw[B];rfl
    ·rw[z x o];rfl
   ·cases i with
    |zero=>exact B
    |succ i=>exact z _ (aP _)
theorem G7(row:α)(l:List α):(sI k row l).Perm (row::l):=by
 unfold sI;refine(List.perm_middle).trans (List.Perm.cons _ ?_);exact List.filter_append_perm _ _
theorem nh(l:List α):(jR k l).Perm l:=by
 have o:∀(l acc:List α),(l.foldl (λacc row=>sI k row acc) acc).Perm (l++acc):=by
  intro l
  induction l with
  |nil=>intro acc;exact List.Perm.refl _
  |cons a r z=>intro acc;exact(z _).trans ((List.Perm.append_left r (G7 a acc)).trans List.perm_middle)
 have h:=o l [];rw[pb]at h;exact h
theorem G8{row:α}{l:List α}(o:∀x∈row::l,aR (k x)=Q3)(h:yY k l):yY k (sI k row l):=by
 unfold sI yY;rw[List.pairwise_append,List.pairwise_cons];refine⟨h.filter _,⟨λx C=>?_,h.filter _⟩,λx C y D=>?_⟩
 ·obtain⟨B,z⟩:=List.mem_filter.1 C;exact He (o x (by simp[B])) (o row sw) (by simpa using z)
 ·obtain⟨B,z⟩:=List.mem_filter.1 C;rcases bL.1 D with rfl|D
  ·exact z
  ·obtain⟨E,F⟩:=List.mem_filter.1 D;exact Hf (o x (by simp[B])) (o row sw) (o y (by simp[E])) z (He (o y (by simp[E])) (o row sw) (by simpa using F))
theorem LJ{q:α->Bool}{row:α}{l:List α}(B:∀x∈row::l,aR (k x)=Q3)(h:yY k l):(sI k row l).filter q=if q row=Q3 then sI k row (l.filter q)else l.filter q:=by
 unfold sI;rw[List.filter_append,List.filter_cons];split
 ·rw[List.filter_filter,List.filter_filter,List.filter_filter,List.filter_filter];simp only[Bool.and_comm]
 ·obtain⟨m,_,o,z,_⟩:=NI (row:=row) B h;rw[o,z,<-List.filter_append,List.take_append_drop]
theorem LM{q:α->Bool}{l:List α}(z:∀x∈l,aR (k x)=Q3):(jR k l).filter q=jR k (l.filter q):=by
 have C:∀(l acc:List α),(∀x∈l++acc,aR (k x)=Q3)->yY k acc->(l.foldl (λacc row=>sI k row acc) acc).filter q=(l.filter q).foldl (λacc row=>sI k row acc) (acc.filter q):=by
  intro l
  induction l with
  |nil=>intro acc _ _;rfl
  | cons a r E=>
   intro acc z D;have o:∀x∈a::acc,aR (k x)=Q3:=λx B=>z x (by simp at B⊢;rcases B with h|h<;>simp[h])
   rw[List.foldl_cons,E _ (λx B=>z x (by
    rcases cG.1 B with h|h
    ·simp[h]
    ·have:=(G7 a acc).mem_iff.1 h;simp at this⊢;rcases this with h|h<;>simp[h])) (G8 o D),LJ o D,List.filter_cons]
   split<;>rfl
 have:=C l [] (by simpa using z) .nil;simpa[jR]using this
end
def yX(k:Int)(r:List (Sem ze)):Prop:=zJ k (Io r)=Q3/\jL (zN k r)/\aR (zN k r)=Q3
section
variable {t:Sem zo} {rows acc:List (List (Sem ze))} {i:Nat} {z1:zm xm}
theorem Dr{α:Type}(l:List α)(d:α){i:Nat}(h:i<Io l):l.getD i d=l[i]:=zG l d h
theorem UF(D:Cg t)(B:dA t=Q3)(E:i<Io rows)(C:yX t.2.2.1 rows[i])(G:∀r∈acc,yX t.2.2.1 r)(L:Io acc<=1000000){m:Nat}
  (H:∀j(h:j<Io acc),m<=j->Hd (zN t.2.2.1 acc[j]) (zN t.2.2.1 rows[i])=Q4):
  ∀d,m+d<=Io acc->zL A6 d (.h6 (i:Int) ((m+d:Nat):Int) ((t,rows),()) z1 (t,acc,())) (.h6 (i:Int) (m:Int) ((t,rows),()) z1 (t,acc,()))
 |0,_=>zL.refl _
 | d+1,M=>by
  refine zL.trans (b:=d) (a:=1) ?_ (UF D B E C G L H d ow);have z:m+d<Io acc:=by omega
  obtain⟨I,J,O⟩:=G _ (aP z);have o:=H (m+d) z ow;unfold Hd at o;rw[Bool.not_eq_false']at o;have F:Γ Δ (((m+(d+1):Nat):Int)-1)=((m+d:Nat):Int):=lW (m+d) um;have hp:Q0 (((m+(d+1):Nat):Int)>0)=Q3:=by simp;omega
  refine zL.of ?_
  simp only[A6,Q8,zk,Prod.eta,hp,F,zY,zt z,zt E,Dr _ _ z,Dr _ _ E,aD,zx z,nC D B I,nC D B C.1,
   rZ D B I,rZ D B C.1,lE J.2.2 C.2.1.2.2,nu J.2.2 C.2.1.2.2,o,Bool.and_true,if_true]
theorem ziL(E:Cg t)(C:dA t=Q3)(o:i<Io rows)(hn:Io rows<=1000000)(z:yX t.2.2.1 rows[i])(F:∀r∈acc,yX t.2.2.1 r)(hl:Io acc<=1000000)(G:yY (zN t.2.2.1) acc):
  zL A6 (Io acc+2) (.h3 (i:Int) ((t,rows),()) z1 (t,acc,())) (.h3 ((i+1:Nat):Int) ((t,rows),()) z1 (t,sI (zN t.2.2.1) rows[i] acc,())):=by
 obtain⟨m,Y,m2,m3,m4,m5⟩:=NI (k:=zN t.2.2.1) (row:=rows[i]) (l:=acc) (λx H=>by
  rcases bL.1 H with rfl|H
  ·exact z.2.2
  ·exact(F x H).2.2) G
 have Z:zL A6 1 (.h3 (i:Int) ((t,rows),()) z1 (t,acc,())) (.h6 (i:Int) ((m+(Io acc-m):Nat):Int) ((t,rows),()) z1 (t,acc,())):=zL.of (by
  rw[Nat.add_sub_cancel' Y];simp only[A6,Q8,zE o,if_true])
 have h2:=UF (z1:=z1) E C o z F hl m5 (Io acc-m) ow;have h3:zL A6 1 (.h6 (i:Int) (m:Int) ((t,rows),()) z1 (t,acc,())) (.h3 ((i+1:Nat):Int) ((t,rows),()) z1 (t,sI (zN t.2.2.1) rows[i] acc,())):=zL.of (by
  have I:Q0 (0<=(m:Int))=Q3:=by simp
  have J:Q0 ((m:Int)<=(Io acc:Int))=Q3:=by simpa using Y
  have L:Q0 ((Io acc:Int)<=(Io acc:Int))=Q3:=by simp
  have M:List.take (m-toNat 0) (List.drop (toNat 0) acc)=acc.take m:=by simp
  have O:List.take (Io acc-m) (List.drop m acc)=acc.drop m:=Cj sw;have w0:=zr i um;have l1:Q0 ((acc.take m).length<=1073741824)=Q3:=by simp;omega
  have W:Q0 ((acc.take m).length+[rows[i]].length<=1073741824)=Q3:=by simp;omega
  have X:Q0 ((acc.take m++[rows[i]]).length+(acc.drop m).length<=1073741824)=Q3:=by simp;omega
  have D:sI (zN t.2.2.1) rows[i] acc=acc.take m++[rows[i]]++acc.drop m:=by unfold sI;rw[m2,m3];simp
  rw[D];cases m with
  | zero=>
   simp only[A6,Q8,zk,Prod.eta,show Q0 (((0:Nat):Int)>0)=Q4 from rfl,al,zt o,Dr _ _ o,aD,M,O,l1,W,X,I,J,L,w0,Bool.and_true,zA,if_true,if_false];rfl
  | succ m=>
   have B:m<Io acc:=by omega
   obtain⟨S,T,k3⟩:=F _ (aP B);have h:=m4 m B ow;unfold Hd at h;rw[sT]at h;have hp:Q0 (((m+1:Nat):Int)>0)=Q3:=zx ow;have w1:=lW m um
   simp only[A6,Q8,zk,Prod.eta,hp,w1,zY,zt o,zt B,Dr _ _ o,Dr _ _ B,aD,zx B,nC E C S,nC E C z.1,rZ E C S,rZ E C z.1,lE T.2.2 z.2.1.2.2,nu T.2.2 z.2.1.2.2,h,
    M,O,l1,W,X,I,J,L,w0,Bool.and_true,zA,if_true,if_false]
   rfl)
 exact((Z.trans h2).trans h3).mono ow
theorem Tf(M:Cg t)(I:rows≠[]->dA t=Q3)(J:Io rows<=1000)(F:∀r∈rows,yX t.2.2.1 r):BM (t,rows)=Q1 ((t,jR (zN t.2.2.1) rows),()):=by
 have L:(zng (t,rows)).val=Q1 (.inl (.h3 ((0:Nat):Int) ((t,rows),()) ([],0,[],0,0,[],[],()) (t,[],()))):=rfl;have z:∀i,i<=Io rows->(jR (zN t.2.2.1) (rows.take i)).length=i:=λi C=>by rw[(nh _).length_eq];simp;omega
 have B:∀i,∀r∈jR (zN t.2.2.1) (rows.take i),r∈rows:=λi r h=>List.mem_of_mem_take ((nh _).mem_iff.1 h)
 have o:∀i(h:i<Io rows),jR (zN t.2.2.1) (rows.take (i+1))=sI (zN t.2.2.1) rows[i] (jR (zN t.2.2.1) (rows.take i)):=λi h=>by
  unfold jR;rw[be h,List.foldl_append];rfl
 have D:∀i,i<=Io rows->yY (zN t.2.2.1) (jR (zN t.2.2.1) (rows.take i)):=by
  intro i
  induction i with
  |zero=>intro _;exact .nil
  | succ i O=>
   intro C;rw[o i C];refine G8 (λx G=>?_) (O ow);rcases bL.1 G with rfl|G
   ·exact(F _ (aP C)).2.2
   ·exact(F x (B i x G)).2.2
 have H:=zL.all (t:=A6) 1002 (λi=>.h3 (i:Int) ((t,rows),()) ([],0,[],0,0,[],[],()) (t,jR (zN t.2.2.1) (rows.take i),())) (Io rows) λi C=>by
  rw[o i C];exact(ziL M (I (List.ne_nil_of_length_pos ow)) C ow (F _ (aP C)) (λr h=>F r (B i r h)) (by rw[z i ow];omega) (D i ow)).mono (by rw[z i ow];omega)
 simp only[fI]at H;have E:∃r,zV A6 1 (.h3 (Io rows:Int) ((t,rows),()) ([],0,[],0,0,[],[],()) (t,jR (zN t.2.2.1) rows,())) r/\aI r.2 [zh] r.1=Q1 ((t,jR (zN t.2.2.1) rows),()):=by
  refine⟨_,zV.of (by
   simp only[A6,Q8,zB,zA,if_false];rfl),?_⟩
  show Q1 (((t.1,t.2.1,t.2.2.1,t.2.2.2.1,t.t.1,zl t.t.2),jR (zN t.2.2.1) rows),())=_;rw[zk]
 obtain⟨r,S,T⟩:=E;have:Io rows*1002<=1000*1002:=fH _ J;exact zy L (H.ends S) ow T
theorem XQ(B:Cg t)(h:rows≠[]->dA t=Q3)(o:Io rows<=1000)(z:∀r∈rows,yX t.2.2.1 r):Jr (t,rows)=Q3/\OV (t,rows)=(t,jR (zN t.2.2.1) rows):=by
 have:=Tf B h o z;exact⟨by unfold Jr;rw[this];rfl,by unfold OV;rw[this];rfl⟩
end
structure AT (db:List (Sem zh)) (p:Sem zq):Prop where
 wf:Cg p.2.2.2.1
 fr:FZ (dn db p)
 few:Io p.t.1<=1000
 copy:p.1=cV->(∀c∈p.t.1,zJ c (dn db p).1.2.1.length=Q3)/\∃(k:Nat)(h:k<Io p.t.1),p.2.2.2.1.2.2.1=(k:Int)/\p.t.1[k]=(dn db p).1.2.2.1
 join:p.1=eW->p.2.2.2.1.2.2.1=(dn db p).1.2.2.1/\∃y:Sem zh,zK db p=[dn db p,y]/\dQ y/\FZ y/\(∀c∈p.t.1,zJ c (Io y.1.2.1)=Q3)/\∀row∈(dn db p).2,(zN p.t.2 row).1≠0->f5 y y.1.2.2.1 (zN p.t.2 row)=Q3
 group:p.1=ku->p.2.2.2.1.2.2.1=0/\∃a b,p.t.1=[a,b]/\zJ a (dn db p).1.2.1.length=Q3/\zJ b (dn db p).1.2.1.length=Q3
theorem FZ.cut{x:Sem zh}{q:zD->Bool}(h:FZ x):FZ (jl q x):=
 ⟨⟨h.t.name,h.t.cols,h.t.ncols,h.t.nuq,bt (List.length_filter_le _ _) h.t.nrf,λf o=>h.t.refs f (List.mem_filter.1 o).1,h.t.chk⟩,h.rows,h.vals⟩
theorem DW{t:Sem zo}{a:zD}(h:¬LT.lt (α:=Int) (zR t a) 0):zJ (zR t a) (Io t.2.1)=Q3:=mh ⟨ow,(g5 h).2⟩
theorem PN{t:Sem zo}(h:Cg t)(o:List zD):∀c∈eo t o,Io (c:Sem zj).1<=1000000:=by
 intro c B;obtain⟨s,_,rfl⟩:=bc.1 B;by_cases z:toNat (zR t s)<Io t.2.1
 ·rw[aU,zU z];exact h.cols _ (aP z)
 ·rw[aU,eB ow];exact aQ _
theorem Xn{k:Int}{n j:Nat}(h:j∈DR k n):j<n:=by
 unfold DR at h;simpa using(List.mem_filter.1 h).1
theorem zh9{db:List (Sem zh)}{s:Sem zn}(S:∀x∈db,FZ x)(hp:(aV db s).1=0)(J:pq s):AT db (aV db s).2:=by
 obtain⟨hm,Z,hb,X,h8,H⟩:=I5 hp;have hB:=(ji λx L=>(S x L).short).1 hb;have E:=jY Z;have G:(cB db s).1=0:=by rw[<-H];exact hp
 obtain⟨T,f2,f3⟩:=Cu G;rw[H];have Y:LE.le (α:=Int) 0 (zX db s.2.2.1):=X _ (by unfold bw;split<;>simp);have L:dn db (cB db s).2=jl (aB (bw s.2.2.1 (cq s))) (aA db s.2.2.1):=by
  unfold dn zK;rw[f2,f3];have:∃r,bw s.2.2.1 (cq s)=s.2.2.1::r:=by unfold bw;split<;>exact⟨_,rfl⟩
  obtain⟨r,e⟩:=this;rw[e];rfl
 have hF:=S _ (iO Y).1;have M:FZ (dn db (cB db s).2):=by rw[L];exact hF.cut
 have O:Cg (ah db s.2.2.1):=hF.t;rcases hm with C|C|C
 ·have e:cB db s=iy (tK (ah db s.2.2.1) s.2.2.2.1) (s.1,s.2.2.1,s.2.2.2.2.2.2.2.2.2.2.2.2,(s.2.1,eo (ah db s.2.2.1) s.2.2.2.1,gF (ju (ah db s.2.2.1) s.2.2.2.1) (ah db s.2.2.1).2.2.1,[],[],s.2.2.2.2.2.2.2.2.1),ju (ah db s.2.2.1) s.2.2.2.1,0):=by
   unfold cB;rw[if_pos (by simp[C])]
  have e0:=G;rw[e]at e0;obtain⟨o,D⟩:=iz e0;unfold tK at o;split at o;rotate_left
  ·rename_i h;exact absurd o h
  rename_i hpl;split at o
  ·cases o
  rename_i hk;have B:=qv hpl;refine⟨?_,M,(by rw[e,D];show(ju _ _).length<=_;unfold ju;rw[cA];have:=J.sh.names.1;omega),?_,(by rw[T,C];intro h;cases h),(by rw[T,C];intro h;cases h)⟩
  ·rw[e,D];exact⟨bt J.sh.table (by omega),PN O _,by show(eo _ _).length<=_;unfold eo;rw[cA];have:=J.sh.names.1;omega,aQ _,aQ _,λf W=>(by cases W),J.chk⟩
  ·intro _;rw[L,e,D];refine⟨λc z=>?_,?_⟩
   ·obtain⟨a,ha,rfl⟩:=bc.1 z;exact DW (B a ha)
   ·rcases LO (ju (ah db s.2.2.1) s.2.2.2.1) (ah db s.2.2.1).2.2.1 with⟨j,I,q1,q2,_⟩|⟨q1,_⟩
    ·exact⟨j,I,q1,q2⟩
    ·exact absurd (by rw[q1];decide) hk
 ·have e:cB db s=iy (fM (ah db s.2.2.1) (ei db s.2.2.2.2.2.2.2.2.2.2.2.2) s.2.2.2.2.2.1 s.2.2.2.2.2.2.2.2.2.2.2.2)
     (s.1,s.2.2.1,s.2.2.2.2.2.2.2.2.2.2.2.2,(s.2.1,(ah db s.2.2.1).2.1++fO (ei db s.2.2.2.2.2.2.2.2.2.2.2.2) (Io (ei db s.2.2.2.2.2.2.2.2.2.2.2.2).2.1),(ah db s.2.2.1).2.2.1,[],[],s.2.2.2.2.2.2.2.2.1),
      jv (ei db s.2.2.2.2.2.2.2.2.2.2.2.2).2.2.1 (Io (ei db s.2.2.2.2.2.2.2.2.2.2.2.2).2.1),zR (ah db s.2.2.1) s.2.2.2.2.2.1):=by
   unfold cB;rw[if_neg (by simp[C]),if_pos (by simp[C])]
  have e0:=G;rw[e]at e0;obtain⟨o,D⟩:=iz e0;have hr:=Ha E C;have h0:bw s.2.2.1 (cq s)=[s.2.2.1,cq s]:=by unfold bw;rw[if_neg (by simpa using hr)]
  have h1:LE.le (α:=Int) 0 (zX db (cq s)):=X _ (by rw[h0];simp);have h7:ei db s.2.2.2.2.2.2.2.2.2.2.2.2=(aA db (cq s)).1:=by
   unfold ei;rw[if_neg hr];rfl
  have hU:=S _ (iO h1).1;rw[h7]at e o D;refine⟨?_,M,(by rw[e,D];show(jv _ _).length<=_;unfold jv;rw[cA];exact bt (lw _ _) hU.t.ncols),(by rw[T,C];intro h;cases h),?_,(by rw[T,C];intro h;cases h)⟩
  ·rw[e,D];refine⟨bt J.sh.table (by omega),λc z=>?_,?_,aQ _,aQ _,λf W=>(by cases W),J.chk⟩
   ·rcases cG.1 z with z|z
    ·exact O.cols c z
    ·obtain⟨j,I,rfl⟩:=bc.1 z;have I:=Xn I;rw[aU,zU I];exact hU.t.cols _ (aP I)
   ·show(_++fO _ _).length<=1000;unfold fM at o;split at o
    ·cases o
    split at o;rotate_left
    ·cases o
    split at o
    ·cases o
    rename_i h9;have:=lw (aA db (cq s)).1.2.2.1 (aA db (cq s)).1.2.1.length;unfold fO;rw[ja,cA];omega
  ·intro _;have hs:zK db (cB db s).2=[dn db (cB db s).2,jl (aB (bw s.2.2.1 (cq s))) (aA db (cq s))]:=by
    rw[L];unfold zK;rw[f2,f3,h0];rfl
   refine⟨?_,jl (aB (bw s.2.2.1 (cq s))) (aA db (cq s)),hs,(hB.rels _ (iO h1).1).cut,hU.cut,?_,?_⟩
   ·rw[L,e,D];rfl
   ·rw[e,D];intro c z;obtain⟨j,I,rfl⟩:=bc.1 z;exact zt (Xn I)
   ·have h6:(cB db s).2.2.2.2.2.2=zR (ah db s.2.2.1) s.2.2.2.2.2.1:=by rw[e,D]
    have h4:js (ah db s.2.2.1).2.2.2.2.1 (zR (ah db s.2.2.1) s.2.2.2.2.2.1,cq s)=Q3:=by
     unfold fM at o;split at o
     ·cases o
     split at o
     ·assumption
     ·cases o
    rw[L,h6];exact(hB.bound _ (iO Y).1 _ ((ou _ _).1 h4)).2
 ·have e:cB db s=iy (qh (ah db s.2.2.1) s.2.2.2.1) (s.1,s.2.2.1,s.2.2.2.2.2.2.2.2.2.2.2.2,(s.2.1,xV (ah db s.2.2.1) s.2.2.2.1,0,[],[],s.2.2.2.2.2.2.2.2.1),ju (ah db s.2.2.1) s.2.2.2.1,0):=by
   unfold cB;rw[if_neg (by simp[C]),if_neg (by simp[C]),if_pos (by simp[C])]
  have e0:=G;rw[e]at e0;obtain⟨o,D⟩:=iz e0;have hpl:fW (ah db s.2.2.1) s.2.2.2.1=0:=by
   unfold qh at o;split at o
   ·assumption
   ·exact o
  have B:=qv hpl;have h2:=jP E C;refine⟨?_,M,(by rw[e,D];show(ju _ _).length<=_;unfold ju;rw[cA];omega),(by rw[T,C];intro h;cases h),(by rw[T,C];intro h;cases h),?_⟩
  ·rw[e,D];refine⟨bt J.sh.table (by omega),λc z=>?_,(by show(2:Nat)<=1000;omega),aQ _,aQ _,λf W=>(by cases W),J.chk⟩;have F:=PN O s.2.2.2.1;have hl:(eo (ah db s.2.2.1) s.2.2.2.1).length=2:=by unfold eo;rw[cA];exact h2
   generalize h3:eo (ah db s.2.2.1) s.2.2.2.1=cs at F hl
   match cs,hl with
   | [a,b],_=>
    have z:c∈xV (ah db s.2.2.1) s.2.2.2.1:=z;unfold xV at z;rw[h3]at z;rcases bL.1 z with rfl|z
    ·exact F a (by simp)
    ·rw[eC]at z;subst z;exact F b (by simp)
  ·intro _;rw[L,e,D]
   match h5:s.2.2.2.1,h2 with
   | [a,b],_=>
    rw[h5]at B;exact⟨rfl,zR (ah db s.2.2.1) a,zR (ah db s.2.2.1) b,rfl,DW (B a (by simp)),DW (B b (by simp))⟩
noncomputable def eqR(a b:List (Sem ze)):Bool:=@decide (a=b) (Classical.propDecidable _)
theorem Bk{a b:List (Sem ze)}:eqR a b=Q3↔a=b:=by unfold eqR;exact@KK _ (Classical.propDecidable _)
theorem Tc(a b:List (Sem ze))(ha:Io a<=1000000):Je a b=Q3/\OO a b=eqR a b:=by
 have:BC a b=some (eqR a b,()):=by
  by_cases S:Io a=Io b
  ·have T:(zaL a b).val=Q1 (.inl (.h4 a b ((0:Nat):Int))):=by
    simp only[zaL,Q8,S,ir,zA,if_false];rfl
   have E:∀k,k<=Io a->(∀i(h:i<k),a[i]?=b[i]?)->zL To (k*1) (.h4 a b ((0:Nat):Int)) (.h4 a b (k:Int)):=λk L M=>
    zL.all (t:=To) 1 (λi=>.h4 a b (i:Int)) k λi J=>zL.of (by
     have z:i<Io a:=by omega
     have C:i<Io b:=by omega
     have e:=M i J;rw[zU z,zU C]at e;have o:B7 a[i] b[i]=Q3:=mw.2 (Option.some.inj e);unfold B7 at o;simp only[To,Q8,zE z,zt z,zt C,if_true,zG _ _ z,zG _ _ C,o,bA,zA,if_false];rw[zr i um])
   by_cases F:a=b
   ·rw[Bk.2 F];refine zy T ((E (Io a) (af _) (λi _=>by rw[F])).ends (zV.of (r:=(.kb Q3,[])) ?_)) ow rfl;simp only[To,Q8,zB,zA,if_false]
   ·have H:eqR a b=Q4:=Bool.eq_false_iff.2 λh=>F (Bk.1 h)
    rw[H];have I:∃i,a[i]?≠b[i]?:=iW λO=>F (Co λi=>iW λh=>O ⟨i,h⟩)
    obtain⟨k,L,Y⟩:∃k,a[k]?≠b[k]?/\∀i,i<k->a[i]?=b[i]?:=by
     obtain⟨n,M⟩:=I
     induction n using Nat.strongRecOn with
     | ind n Z=>
      by_cases h:∃m,m<n/\a[m]?≠b[m]?
      ·obtain⟨m,W,G⟩:=h;exact Z m W G
      ·exact⟨n,M,λi J=>iW λG=>h ⟨i,J,G⟩⟩
    have B:k<Io a:=by
     refine iW λh=>L ?_
     rw[eB ow,eB ow]
    have D:k<Io b:=by omega
    have o:B7 a[k] b[k]=Q4:=Bool.eq_false_iff.2 λh=>L (by rw[zU B,zU D,mw.1 h])
    unfold B7 at o;refine zy T ((E k ow Y).ends (zV.of (r:=(.kb Q4,[])) ?_)) ow rfl;simp only[To,Q8,zE B,zt B,zt D,if_true,zG _ _ B,zG _ _ D,o,cw]
  ·have H:eqR a b=Q4:=Bool.eq_false_iff.2 λh=>S (by rw[Bk.1 h])
   have X:((Io a:Int)!=(Io b:Int))=Q3:=by simp;omega
   rw[H];refine zH (r:=(.kb Q4,[])) ?_ rfl;simp only[zaL,Q8,X,if_true]
 exact⟨by unfold Je;rw[this];rfl,by unfold OO;rw[this];rfl⟩
theorem MD{a:List (List (Sem ze))}(E:Io a<=1000000)(B:∀r∈a,Io r<=1000000):Jq a a=Q3/\OU a a=Q3:=by
 have:BL a a=Q1 (Q3,()):=by
  have C:(zhw a a).val=Q1 (.inl (.h4 a a ((0:Nat):Int))):=by
   simp only[zhw,Q8,ir,zA,if_false];rfl
  have z:=zL.all (t:=zbL) 1 (λi=>.h4 a a (i:Int)) (Io a) λi h=>zL.of (by
   obtain⟨D,o⟩:=Tc a[i] a[i] (B _ (aP h));rw[Bk.2 rfl]at o;simp only[zbL,Q8,zE h,zt h,if_true,zG _ _ h,D,o,bA,zA,if_false];rw[zr i um])
  refine zy C (z.ends (zV.of (r:=(.kb Q3,[])) ?_)) ow rfl;simp only[zbL,Q8,zB,zA,if_false]
 exact⟨by unfold Jq;rw[this];rfl,by unfold OU;rw[this];rfl⟩
def s18(l:List (Sem zh))(i:Int)(p:Sem zq)(v:Sem ze):List (List (Sem ze))->Fi
 |[]=>.h3 l i (p,()) (v,())
 |a::r=>.h3b l i (p,()) (v,()) (a::r)
section
variable {db:List (Sem zh)} {p:Sem zq}
theorem aG.cols0(h:aG db p)(B:p.1≠cV)(C:p.1≠eW):0<Io p.t.1:=by
 refine iW λE=>?_
 have o:(p.1==cV)=Q4:=by simpa using B
 have z:(p.1==eW)=Q4:=by simpa using C
 have D:zJ 0 (Io p.t.1)=Q4:=by rw[Nat.eq_zero_of_not_pos E];rfl
 have F:(SJ p (zK db p)).val=none:=by simp only[SJ,Q8,o,z,D,zA,if_false]
 have:=h.plc;unfold sx an dd at this;rw[F]at this;cases this
theorem aG.len0(h:aG db p):zJ 0 (zK db p).length=Q3:=zt (i:=0) (wV h.go.two).1
theorem aG.qOf(h:aG db p){row:List (Sem ze)}(o:zJ (cg p (zK db p)) (Io row)=Q3):ur p (zK db p) row=Q1 (zN (cg p (zK db p)) row,()):=by
 have C:=h.len0;refine zH (r:=(agg [ai (zN (cg p (zK db p)) row).1,ai (zN (cg p (zK db p)) row).2.1,str (zN (cg p (zK db p)) row).2.2],[])) ?_ rfl;by_cases z:p.1=cV
 ·have e:cg p (zK db p)=(getD (zK db p) (toNat 0) (zi zh)).1.2.2.1:=by unfold cg;rw[if_pos z];rfl
  rw[e]at o⊢;simp only[zaM,Q8,show(p.1==eW)=Q4 by rw[z];rfl,show(p.1==ku)=Q4 by rw[z];rfl,C,o,zA,if_true,if_false]
 ·by_cases B:p.1=eW
  ·have e:cg p (zK db p)=p.t.2:=by unfold cg;rw[if_neg z,if_pos B]
   rw[e]at o⊢;simp only[zaM,Q8,show(p.1==eW)=Q3 by rw[B];rfl,o,if_true]
  ·have e:cg p (zK db p)=getD p.t.1 (toNat 0) (zi zg):=by unfold cg;rw[if_neg z,if_neg B];rfl
   have D:(p.1==ku)=Q3:=by
    rcases h.mig with e|e|e
    ·exact absurd e z
    ·exact absurd e B
    ·rw[e];rfl
   have E:zJ 0 (Io p.t.1)=Q3:=zt (i:=0) (h.cols0 z B);rw[e]at o⊢;simp only[zaM,Q8,show(p.1==eW)=Q4 by simpa using B,D,E,o,zA,if_true,if_false]
theorem aG.qOf'(h:aG db p){row:List (Sem ze)}(o:row∈(dn db p).2):up p (zK db p) row=Q3/\Hr p (zK db p) row=zN (cg p (zK db p)) row:=by
 have:=h.qOf (h.inn row o).1;exact⟨by unfold up;rw[this];rfl,by unfold Hr;rw[this];rfl⟩
theorem zbA(h:aG db p){v:Sem ze}{acc:List (List (Sem ze))}{i:Nat}(z:i<(dn db p).2.length)(E:Io acc<=1000):
  (A5 (s18 (zK db p) (i:Int) p v acc)).val=Q1 (.inl (s18 (zK db p) ((i+1:Nat):Int) p v (ite (xe (cg p (zK db p)) v (dn db p).2[i]=Q3) (acc++[(dn db p).2[i]]) acc))):=by
 have F:=h.rel.few;have o:=h.len0;have B:getD (zK db p) (toNat 0) (zi zh)=dn db p:=rfl;obtain⟨o1,o2⟩:=h.qOf' (aP z);have C:(cond (v.1!=0) (zJ 0 (zK db p).length&&(zJ (i:Int) (dn db p).2.length&&up p (zK db p) (dn db p).2[i])) Q3)=Q3:=by
  rw[o,zt z,o1];cases v.1!=0<;>rfl
 have D:(cond (v.1!=0) ((zN (cg p (zK db p)) (dn db p).2[i]).1==v.1&&((zN (cg p (zK db p)) (dn db p).2[i]).2.1==v.2.1&&((zN (cg p (zK db p)) (dn db p).2[i]).2.2==v.2.2&&Q3))) Q4)=xe (cg p (zK db p)) v (dn db p).2[i]:=by
  unfold xe;show(cond (v.1!=0) (B7 (zN (cg p (zK db p)) (dn db p).2[i]) v) Q4)=_;cases v.1!=0<;>cases B7 (zN (cg p (zK db p)) (dn db p).2[i]) v<;>rfl
 cases acc with
 | nil=>
  show(A5 (.h3 _ _ _ _)).val=_;simp only[A5,Q8,B,o,zE z,zt z,if_true,zG _ _ z,zk,Prod.eta,o2];rw[zr i um,D];rw[o,zt z]at C;rw[if_pos C];cases G:xe (cg p (zK db p)) v (dn db p).2[i]<;>rfl
 | cons c r=>
  show(A5 (.h3b _ _ _ _ _)).val=_;simp only[A5,Q8,B,o,zE z,zt z,if_true,zG _ _ z,zk,Prod.eta,o2];rw[zr i um,D];rw[o,zt z]at C;rw[if_pos C];cases G:xe (cg p (zK db p)) v (dn db p).2[i]
  ·rfl
  ·simp only[if_true];rw[if_pos (by simp at E⊢;omega)];rfl
theorem aG.qRows(h:aG db p)(v:Sem ze):D2 p (zK db p) v=Q3/\Ja p (zK db p) v=(dn db p).2.filter (xe (cg p (zK db p)) v):=by
 have E:=h.rel.few;have o:=h.len0;have B:getD (zK db p) (toNat 0) (zi zh)=dn db p:=rfl;have:vO p (zK db p) v=Q1 ((dn db p).2.filter (xe (cg p (zK db p)) v),()):=by
  have F:(znb p (zK db p) v).val=Q1 (.inl (s18 (zK db p) ((0:Nat):Int) p v [])):=rfl;have C:=zL.all (t:=A5) 1 (λi=>s18 (zK db p) (i:Int) p v (((dn db p).2.take i).filter (xe (cg p (zK db p)) v))) (dn db p).2.length λi D=>zL.of (by
   rw[zbA h D (bt (List.length_filter_le _ _) sg)];congr 3;rw[be D,List.filter_append];cases G:xe (cg p (zK db p)) v (dn db p).2[i]<;>simp[G])
  simp only[List.take_zero,List.filter_nil,fI]at C;generalize(dn db p).2.filter (xe (cg p (zK db p)) v)=acc at C⊢;have z:∃r,zV A5 1 (s18 (zK db p) ((dn db p).2.length:Int) p v acc) r/\aI r.2 [ze.sl.sl] r.1=Q1 (acc,()):=by
   cases acc with
   | nil=>
    refine⟨_,zV.of (by
     show(A5 (.h3 _ _ _ _)).val=_;simp only[A5,Q8,B,o,zB,zA,if_true,if_false];rfl),rfl⟩
   | cons a r=>
    refine⟨_,zV.of (by
     show(A5 (.h3b _ _ _ _ _)).val=_;simp only[A5,Q8,B,o,zB,zA,if_true,if_false];rfl),rfl⟩
  obtain⟨r,H,I⟩:=z;exact zy F (C.ends H) ow I
 exact⟨by unfold D2;rw[this];rfl,by unfold Ja;rw[this];rfl⟩
end
def AE(p:Sem zq)(row:List (Sem ze)):List (Sem ze):=List.map (λc=>zN c row) p.t.1
def Fq(p:Sem zq)(s:Sem ze)(row:List (Sem ze)):Sem ze:=if(zN (getD p.t.1 (toNat 1) (zi zg)) row).1=0 then s else qR s (zN (getD p.t.1 (toNat 1) (zi zg)) row)
def AQ(h:List (Sem zh)):Sem zh:=h.getD (toNat 1) (zi zh)
def vD(p:Sem zq)(h:List (Sem zh))(v:Sem ze)(row:List (Sem ze)):List (Sem ze):=
 if p.1=eW then row++AE p (getD (AQ h).2 (zW (λr=>bl r (AQ h).1.2.2.1 v) (AQ h).2 0).toNat (zi ze.sl))else AE p row
def SX(p:Sem zq)(h:List (Sem zh))(v:Sem ze)(rows:List (List (Sem ze))):List (List (Sem ze)):=
 if p.1=ku then(ite (rows=[]) [] [[v,rows.foldl (Fq p) (1,0,[])]])else rows.map (vD p h v)
section
variable {db:List (Sem zh)} {p:Sem zq} {l1:List (Sem zh)} {rows acc:List (List (Sem ze))} {v:Sem ze}
theorem QG{o h:List (Sem ze)}{i:Nat}(E:∀c∈p.t.1,zJ c (Io o)=Q3)(J:Io p.t.1<=1000)(H:Io h<=1000)(G:Io acc<=1000)(I:i<=1000):
  zL wP (Io p.t.1+1) (.h22 l1 rows (i:Int) o ((0:Nat):Int) (p,()) (v,()) acc h) (.h14 l1 rows ((i+1:Nat):Int) (p,()) (v,()) (acc++[h++AE p o])):=by
 have C:=zL.all (t:=wP) 1 (λj=>.h22 l1 rows (i:Int) o (j:Int) (p,()) (v,()) acc (h++(p.t.1.take j).map λc=>zN c o)) (Io p.t.1) λj z=>zL.of (by
  have D:=E _ (aP z);have B:Q0 ((h++(p.t.1.take j).map λc=>zN c o).length+[zN p.t.1[j] o].length<=1073741824)=Q3:=by simp;omega
  simp only[wP,Q8,zE z,zt z,zG _ _ z,D,if_true];rw[if_pos B,zr j um,be z,gD,<-uF];rfl)
 have F:zL wP 1 (.h22 l1 rows (i:Int) o (Io p.t.1:Int) (p,()) (v,()) acc (h++AE p o)) (.h14 l1 rows ((i+1:Nat):Int) (p,()) (v,()) (acc++[h++AE p o])):=zL.of (by
  have B:Q0 (Io acc+[h++AE p o].length<=1073741824)=Q3:=by simp;omega
  simp only[wP,Q8,zB,zA,if_false];rw[if_pos B,zr i um])
 simp only[List.take_zero,Cq,pb,fI]at C;exact(C.trans F).mono ow
theorem zor(h:aG db p)(m:AT db p)(v:Sem ze):D3 p (zK db p) v=Q1 (SX p (zK db p) v ((dn db p).2.filter (xe (cg p (zK db p)) v)),()):=by
 have X:=h.rel.few;obtain⟨r1,r2⟩:=h.qRows v;have D:∀row∈(dn db p).2.filter (xe (cg p (zK db p)) v),row∈(dn db p).2/\zN (cg p (zK db p)) row=v/\v.1≠0:=λrow hr=>⟨(List.mem_filter.1 hr).1,ox.1 (List.mem_filter.1 hr).2⟩
 have H:((dn db p).2.filter (xe (cg p (zK db p)) v)).length<=200:=bt (List.length_filter_le _ _) X;generalize(dn db p).2.filter (xe (cg p (zK db p)) v)=rows at r2 D H⊢;have T:=m.few;by_cases M:p.1=ku
 ·obtain⟨_,a,b,C,ha,hb⟩:=m.group M;have hs:(VY p (zK db p) v).val=Q1 (.inl (.h6 rows ((0:Nat):Int) (p,()) (v,()) ((1,0,[]),()))):=by
   simp only[VY,Q8,zk,Prod.eta,r1,r2,show(p.1==ku)=Q3 by rw[M];rfl,if_true];rfl
  have h3:zJ 1 (Io p.t.1)=Q3:=by rw[C];rfl
  have S:getD p.t.1 (toNat 1) (zi zg)=b:=by rw[C];rfl
  have h2:∀(n:Nat),jL ((rows.take n).foldl (Fq p) (1,0,[])):=by
   intro n
   induction n with
   |zero=>exact(⟨by decide,by decide,sw⟩:jL (1,0,[]))
   | succ n ih=>
    by_cases hn:n<Io rows
    ·rw[be hn,List.foldl_append];show jL (Fq p _ _);unfold Fq;split
     ·exact ih
     ·exact Cf _ _
    ·rwa [Cj ow,<-Cj (i:=n) (l:=rows) ow]
  have B:=zL.all (t:=wP) 1 (λi=>.h6 rows (i:Int) (p,()) (v,()) ((rows.take i).foldl (Fq p) (1,0,[]),())) (Io rows) λi z=>zL.of (by
   obtain⟨O,q2,q3⟩:=D _ (aP z);have L:zJ b rows[i].length=Q3:=by rw[(h.inn _ O).2];exact hb
   have hv:jL (zN b rows[i]):=by
    have h1:b.toNat<rows[i].length:=by
     unfold zJ at L;simp only[aE,aN]at L;omega
    unfold zN;rw[aU,zU h1];exact m.fr.vals _ O _ (aP h1)
   have p1:=Hv (h2 i) hv;have p2:=yz (h2 i) hv;simp only[wP,Q8,zE z,zt z,zG _ _ z,h3,S,L,p1,p2,if_true];rw[be z,List.foldl_append,zr i um];show _=Q1 (Sum.inl (tu.h6 rows ((i+1:Nat):Int) (p,()) (v,()) (Fq p _ _,())));unfold Fq;rw[S];by_cases E:(zN b rows[i]).1=0
   ·rw[if_pos E,if_neg (by simpa using E)]
   ·rw[if_neg E,if_pos (by simpa using E)];rfl)
  simp only[fI,List.take_zero,List.foldl_nil]at B;unfold SX;rw[if_pos M];by_cases E:rows=[]
  ·rw[if_pos E];subst E;refine zy hs (B.ends (zV.of (r:=(nils,[])) ?_)) sw rfl;rfl
  ·rw[if_neg E];refine zy hs (B.ends (zV.of (r:=(AV.vec 0,[AO.vec ze.sl [[v,rows.foldl (Fq p) (1,0,[])]]])) ?_)) ow rfl;have hp:Q0 ((Io rows:Int)>0)=Q3:=zx (by have:=List.length_pos_iff.2 E;omega);simp only[wP,Q8,zB,hp,zA,if_false,if_true];rfl
 ·have hs:(VY p (zK db p) v).val=Q1 (.inl (.h14 (zK db p) rows ((0:Nat):Int) (p,()) (v,()) [])):=by
   simp only[VY,Q8,zk,Prod.eta,r1,r2,show(p.1==ku)=Q4 by simpa using M,zA,if_true,if_false];rfl
  have B:=zL.all (t:=wP) 1002 (λi=>.h14 (zK db p) rows (i:Int) (p,()) (v,()) ((rows.take i).map (vD p (zK db p) v))) (Io rows) λi z=>by
   obtain⟨O,q2,q3⟩:=D _ (aP z);have h9:=h.len O;rw[be z,gD];show zL wP 1002 _ (.h14 _ _ _ _ _ (_++[vD p (zK db p) v rows[i]]));have J:((rows.take i).map (vD p (zK db p) v)).length<=1000:=by simp;omega
   generalize(rows.take i).map (vD p (zK db p) v)=acc at J⊢;unfold vD;by_cases G:p.1=eW
   ·rw[if_pos G];obtain⟨_,y,hy,yo,yw,yc,yr⟩:=m.join G;have I:cg p (zK db p)=p.t.2:=by unfold cg;rw[if_neg (by rw[G];decide),if_pos G]
    have hw:AQ (zK db p)=y:=by rw[hy];rfl
    have Z:zJ 1 (zK db p).length=Q3:=by rw[hy];rfl
    have hk:∀r∈y.2,zJ y.1.2.2.1 (Io r)=Q3:=λr hr=>by rw[(cX (yo.fits r hr)).1];exact mh (fj yo.may).1
    have W:=yC (v:=v) yw.t yo.may hk (by have:=yo.few;omega);have h7:rY y v=Q3:=by unfold rY;rw[W];rfl
    have Y:yB y v=zW (λr=>bl r y.1.2.2.1 v) y.2 0:=by unfold yB;rw[W];rfl
    have o:=yr _ O (by rw[<-I,q2];exact q3);rw[<-I,q2]at o;rw[hw];rcases dZ (λr=>bl r y.1.2.2.1 v) y.2 0 with⟨e1,_⟩|⟨k,F,e1,e2,_⟩
    ·unfold f5 at o;rw[e1]at o;exact absurd o (by decide)
    ·rw[ez]at e1;rw[e1]at Y⊢;have h8:(y.2[k]).length=Io y.1.2.1:=(cX (yo.fits _ (aP F))).1;rw[zG _ _ F];refine(zL.trans (s':=tu.h22 (zK db p) rows (i:Int) y.2[k] ((0:Nat):Int) (p,()) (v,()) acc rows[i]) (zL.of ?_) (QG (λc hc=>by rw[h8];exact yc c hc) T ow J ow)).mono ow;have h5:(zK db p).getD (toNat 1) (zi zh)=y:=hw;have hl:Q0 (rows[i].length<=1073741824)=Q3:=by simp;omega
     simp only[wP,Q8,zk,Prod.eta,zE z,zt z,zG _ _ z,show(p.1==eW)=Q3 by rw[G];rfl,Z,h5,h7,Y,zt F,zG _ _ F,hl,if_true];rfl
   ·rw[if_neg G];have h4:p.1=cV:=by
     rcases h.mig with e|e|e
     ·exact e
     ·exact absurd e G
     ·exact absurd e M
    refine(zL.trans (s':=tu.h22 (zK db p) rows (i:Int) rows[i] ((0:Nat):Int) (p,()) (v,()) acc []) (zL.of ?_) (QG (λc hc=>by rw[(h.inn _ O).2];exact(m.copy h4).1 c hc) T sw J ow)).mono ow;simp only[wP,Q8,zE z,zt z,zG _ _ z,show(p.1==eW)=Q4 by simpa using G,zA,if_true,if_false];rfl
  simp only[fI,List.take_zero,Cq]at B;unfold SX;rw[if_neg M];have:Io rows*1002<=200*1002:=fH _ H;refine zy hs (B.ends (zV.of (r:=(AV.vec 0,[AO.vec ze.sl (rows.map (vD p (zK db p) v))])) ?_)) ow rfl;simp only[wP,Q8,zB,zA,if_false]
end
theorem Mh(h:Int)(rows:List (List (Sem ze))):∀L:List (Sem ze),L.Nodup->(∀u∈L,u.1≠0)->
  (L.map λu=>(rows.filter (xe h u)).length).sum+(rows.filter λrow:List (Sem ze)=>!L.any λu:Sem ze=>xe h u row).length=Io rows
 |[],_,_=>by simp
 | u :: L,hn,h0=>by
  rw[List.nodup_cons]at hn;have o:=Mh h rows L hn.2 λx G=>h0 x (pH _ G)
  rw[jd,List.sum_cons];have H:(rows.filter (xe h u)).length+(rows.filter λrow:List (Sem ze)=>!(u::L).any λu:Sem ze=>xe h u row).length=(rows.filter λrow:List (Sem ze)=>!L.any λu:Sem ze=>xe h u row).length:=by
   clear o
   induction rows with
   |nil=>rfl
   | cons row r o=>
    simp only[List.filter_cons,List.any_cons];cases C:xe h u row with
    | true=>
     have D:(L.any λu:Sem ze=>xe h u row)=Q4:=by
      rw[List.any_eq_false];intro v F E;have z:=(ox.1 C).1;have B:=(ox.1 E).1;exact hn.1 (by rw[<-z,B];exact F)
     simp only[D,Bool.or_false,bA,cw,if_true,zA,if_false,dR]at o⊢;simp only[List.any_cons]at o;omega
    | false=>
     simp only[Bool.false_or,zA,if_false];simp only[List.any_cons]at o;cases(L.any λu:Sem ze=>xe h u row)with
     |true=>simpa using o
     | false=>
      simp only[cw,if_true,dR];omega
  omega
theorem Vv{db:List (Sem zh)}{p:Sem zq}:(dn db p).2=(aA db p.2.1).2:=by
 unfold dn zK;have:∃r,bw p.2.1 p.2.2.1=p.2.1::r:=by unfold bw;split<;>exact⟨_,rfl⟩
 obtain⟨r,e⟩:=this;rw[e];rfl
section
variable {db:List (Sem zh)} {p:Sem zq}
theorem aG.ne0(h:aG db p){u:Sem ze}(o:u∈cE p (zK db p)):u.1≠0:=((nU λ_ z=>h.may z).2 u).1 o |>.2
theorem aG.rise(h:aG db p):(cE p (zK db p)).Pairwise xf:=(nU λ_ o=>h.may o).1
theorem aG.nodup(h:aG db p):(cE p (zK db p)).Nodup:=by
 unfold List.Nodup;exact h.rise.imp λ{a b} o(e:a=b)=>g6 (a:=b) (by rw[e]at o;exact o)
end
noncomputable def Tw(db:List (Sem zh))(p:Sem zq)(v:Sem ze):List (List (Sem ze)):=(dn db p).2.filter (xe (cg p (zK db p)) v)
noncomputable def dw(db:List (Sem zh))(p:Sem zq)(v:Sem ze):List (List (Sem ze)):=(SX p (zK db p) v (Tw db p v)).filter λr=>dc p.2.2.2.1 r==(0:Int)
theorem pT{c:Int}{row:List (Sem ze)}(h:zJ c (Io row)=Q3):zN c row∈row:=by
 have o:c.toNat<Io row:=by
  unfold zJ at h;simp only[aE,aN]at h;omega
 unfold zN;rw[aU,zU o];exact aP o
theorem Lw{p:Sem zq}:∀(l:List (List (Sem ze)))(s:Sem ze),jL s->jL (l.foldl (Fq p) s)
 |[],_,h=>h
 | a::r,s,h=>Lw r _ (by
  unfold Fq;split
  ·exact h
  ·exact Cf _ _)
section
variable {db:List (Sem zh)} {p:Sem zq} {v:Sem ze}
theorem Kk{row:List (Sem ze)}(h:row∈Tw db p v):row∈(dn db p).2/\zN (cg p (zK db p)) row=v/\v.1≠0:=⟨(List.mem_filter.1 h).1,ox.1 (List.mem_filter.1 h).2⟩
theorem WJ:(SX p (zK db p) v (Tw db p v)).length<=(Tw db p v).length:=by
 unfold SX;split
 ·split
  ·simp
  ·rename_i h;have:=List.length_pos_iff.2 h;simp;omega
 ·simp
theorem zb1(_:aG db p)(m:AT db p)(D:p.1=eW){row:List (Sem ze)}(G:row∈Tw db p v):
  ∃y:Sem zh,zK db p=[dn db p,y]/\dQ y/\FZ y/\(∀c∈p.t.1,zJ c (Io y.1.2.1)=Q3)/\getD (AQ (zK db p)).2 (zW (λr=>bl r (AQ (zK db p)).1.2.2.1 v) (AQ (zK db p)).2 0).toNat (zi ze.sl)∈y.2:=by
 obtain⟨_,y,E,M,S,L,O⟩:=m.join D;obtain⟨I,F,J⟩:=Kk G;have z:cg p (zK db p)=p.t.2:=by unfold cg;rw[if_neg (by rw[D];decide),if_pos D]
 have H:AQ (zK db p)=y:=by rw[E];rfl
 have o:=O _ I (by rw[<-z,F];exact J);rw[<-z,F]at o;refine⟨y,E,M,S,L,?_⟩;rw[H];rcases dZ (λr=>bl r y.1.2.2.1 v) y.2 0 with⟨C,_⟩|⟨k,B,C,T,_⟩
 ·unfold f5 at o;rw[C]at o;exact absurd o (by decide)
 ·rw[ez]at C;rw[C,zG _ _ B];exact aP B
theorem Ox(h:aG db p)(m:AT db p):∀r∈SX p (zK db p) v (Tw db p v),∀x∈r,jL x:=by
 intro r B x z;unfold SX at B;split at B
 ·split at B
  ·cases B
  ·rename_i G;rw[eC]at B;subst B;rcases bL.1 z with rfl|z
   ·obtain⟨row,o⟩:=List.exists_mem_of_ne_nil _ G;obtain⟨C,H,_⟩:=Kk o;rw[<-H];exact m.fr.vals _ C _ (pT (h.inn _ C).1)
   ·rw[eC]at z;subst z;exact Lw _ _ ⟨by decide,by decide,sw⟩
 ·rename_i J;obtain⟨row,o,rfl⟩:=bc.1 B;obtain⟨C,H,_⟩:=Kk o;unfold vD at z;split at z
  ·rename_i F;obtain⟨y,_,M,O,L,I⟩:=zb1 h m F o;rcases cG.1 z with z|z
   ·exact m.fr.vals _ C _ z
   ·obtain⟨c,D,rfl⟩:=bc.1 z;refine O.vals _ I _ (pT ?_);rw[(cX (M.fits _ I)).1];exact L c D
  ·rename_i F;obtain⟨c,D,rfl⟩:=bc.1 z;have E:p.1=cV:=by
    rcases h.mig with e|e|e
    ·exact e
    ·exact absurd e F
    ·exact absurd e J
   refine m.fr.vals _ C _ (pT ?_);rw[(h.inn _ C).2];exact(m.copy E).1 c D
theorem zbT(h:aG db p)(m:AT db p)(v:Sem ze):∃n:Int,vS p (zK db p) v=Q1 (dw db p v,n,()):=by
 have o:D3 p (zK db p) v=Q1 (SX p (zK db p) v (Tw db p v),()):=zor h m v;have C:(SX p (zK db p) v (Tw db p v)).length<=200:=bt WJ (bt (List.length_filter_le _ _) h.rel.few);have G:=Ox (v:=v) h m;unfold dw;generalize SX p (zK db p) v (Tw db p v)=rows at o C G⊢;have H:OL p (zK db p) v=Q3:=by unfold OL;rw[o];rfl
 have I:XJ p (zK db p) v=rows:=by unfold XJ;rw[o];rfl
 have L:(zhy p (zK db p) v).val=Q1 (.inl (.h4 rows ((0:Nat):Int) (p,()) [])):=by
  simp only[zhy,Q8,zk,Prod.eta,H,I,if_true];rfl
 have z:=zL.all (t:=zbM) 1 (λi=>.h4 rows (i:Int) (p,()) ((rows.take i).filter λr=>dc p.2.2.2.1 r==(0:Int))) (Io rows) λi B=>zL.of (by
  have D:=G _ (aP B);have M:=HA m.wf D;have O:=MB m.wf D;have E:((rows.take i).filter λr=>dc p.2.2.2.1 r==(0:Int)).length<=200:=bt (List.length_filter_le _ _) sg;rw[be B,List.filter_append];generalize((rows.take i).filter λr=>dc p.2.2.2.1 r==(0:Int))=acc at E⊢;have J:Q0 (Io acc+[rows[i]].length<=1073741824)=Q3:=by simp;omega
  simp only[zbM,Q8,zk,Prod.eta,zE B,zt B,zG _ _ B,M,O,J,if_true];rw[zr i um];cases F:dc p.2.2.2.1 rows[i]==(0:Int)with
  |true=>rw[if_pos rfl,List.filter_cons,if_pos F];rfl
  |false=>rw[if_neg sw,List.filter_cons,if_neg (by rw[F];simp)];simp)
 simp only[fI,List.take_zero,List.filter_nil]at z;refine⟨_,zy L (z.ends (zV.of (by
  simp only[zbM,Q8,zB,zA,if_false];rfl))) ow rfl⟩
theorem Lz:(dw db p v).length<=(Tw db p v).length:=bt (List.length_filter_le _ _) WJ
theorem PC(us:List (Sem ze))(z:us.Nodup)(h:∀u∈us,u.1≠0):(us.flatMap (dw db p)).length<=(dn db p).2.length:=by
 have B:=Mh (cg p (zK db p)) (dn db p).2 us z h;have o:∀l:List (Sem ze),(l.flatMap (dw db p)).length<=(l.map λu=>(Tw db p u).length).sum:=by
  intro l
  induction l with
  |nil=>simp
  | cons a r C=>
   rw[List.flatMap_cons,ja,jd,List.sum_cons];have:=Lz (db:=db) (p:=p) (v:=a);omega
 have:=o us;unfold Tw at this;omega
theorem Dt(h:aG db p)(m:AT db p):∀r∈dw db p v,dc p.2.2.2.1 r=(0:Int)/\yX p.2.2.2.1.2.2.1 r/\dA p.2.2.2.1=Q3:=by
 intro r G;obtain⟨E,o⟩:=List.mem_filter.1 G;have o:dc p.2.2.2.1 r=(0:Int):=by simpa using o
 obtain⟨C,D,_⟩:=cX o;have B:dA p.2.2.2.1=Q3:=by
  cases F:dA p.2.2.2.1 with
  |true=>rfl
  | false=>
   unfold dc at o;rw[F,if_pos JQ]at o;cases o
 have z:zJ p.2.2.2.1.2.2.1 (Io r)=Q3:=by rw[C];exact mh (fj B).1
 exact⟨o,⟨z,Ox h m r E _ (pT z),D _ (pT z)⟩,B⟩
end
set_option maxRecDepth 100000
section
variable {db:List (Sem zh)} {p:Sem zq} {us:List (Sem ze)}
theorem zer{l1:List (Sem zh)}{n:Int}{z1:zm xm}{z2:zm CJ}(C:us.Nodup)(E:Io us<=1000){i:Nat}(z:i<Io us):
  ∀j,j<=i->∃s,(s=RN.h8 l1 us n (i:Int) (j:Int) (p,()) z1 z2\/s=RN.h8b l1 us n (i:Int) Q4 (j:Int) (p,()) z1 z2)/\zL TK j (.h8 l1 us n (i:Int) ((0:Nat):Int) (p,()) z1 z2) s
 |0,_=>⟨_,.inl rfl,zL.refl _⟩
 | j+1,G=>by
  obtain⟨s,F,D⟩:=zer (l1:=l1) (n:=n) (z1:=z1) (z2:=z2) C E z j ow;have h:j<Io us:=by omega
  have B:Q0 ((j:Int)<(i:Int))=Q3:=zx ow;have o:B7 us[j] us[i]=Q4:=by
   refine Bool.eq_false_iff.2 λe=>?_
   have:=(List.getElem_inj (h₀:=h) (h₁:=z) C).1 (mw.1 e);omega
  unfold B7 at o;refine⟨.h8b l1 us n (i:Int) Q4 ((j+1:Nat):Int) (p,()) z1 z2,.inr rfl,(D.trans (zL.of ?_)).mono ow⟩;rcases F with rfl|rfl
  ·simp only[TK,Q8,B,zt h,zt z,zG _ _ h,zG _ _ z,o,if_true];rw[zr j um]
  ·simp only[TK,Q8,B,zt h,zt z,zG _ _ h,zG _ _ z,o,al,sU,if_true];rw[zr j um]
theorem zpS(h:aG db p)(m:AT db p)(I:us.Nodup)(H:Io us<=1000){i:Nat}(o:i<Io us){n:Int}{z1:zm xm}{acc:List (List (Sem ze))}(M:Io acc<=1000):
  ∃L:Int,zL TK 1002 (.h4 (zK db p) us n (i:Int) (p,()) z1 (p.2.2.2.1,acc,())) (.h4 (zK db p) us L ((i+1:Nat):Int) (p,()) z1 (p.2.2.2.1,acc++dw db p us[i],())):=by
 obtain⟨k,D⟩:=zbT h m us[i];have z:vR p (zK db p) us[i]=Q3:=by unfold vR;rw[D];rfl
 have B:Bz p (zK db p) us[i]=(dw db p us[i],k):=by unfold Bz;rw[D];rfl
 have G:(dw db p us[i]).length<=200:=bt Lz (bt (List.length_filter_le _ _) h.rel.few);have C:Q0 (Io acc+(dw db p us[i]).length<=1073741824)=Q3:=by simp;omega
 obtain⟨s,J,F⟩:=zer (p:=p) (l1:=zK db p) (n:=n) (z1:=z1) (z2:=(p.2.2.2.1,acc,())) I H o i (af _);have E:zL TK 1 (.h4 (zK db p) us n (i:Int) (p,()) z1 (p.2.2.2.1,acc,())) (.h8 (zK db p) us n (i:Int) ((0:Nat):Int) (p,()) z1 (p.2.2.2.1,acc,())):=zL.of (by
  simp only[TK,Q8,zE o,if_true];rfl)
 refine⟨Γ Δ (n+k),((E.trans F).trans (zL.of ?_)).mono ow⟩;rcases J with rfl|rfl
 ·simp only[TK,Q8,zk,Prod.eta,zB,zt o,zG _ _ o,z,B,C,zA,if_true,if_false];rw[zr i um]
 ·simp only[TK,Q8,zk,Prod.eta,zB,zt o,zG _ _ o,z,B,C,zA,if_true,if_false];rw[zr i um]
theorem zbH(h:aG db p)(m:AT db p)(M:us.Nodup)(O:∀u∈us,u.1≠0)(L:Io us<=1000):
  ∃n:Int,vQ p (zK db p) us=Q1 ((p.2.2.2.1,jR (zN p.2.2.2.1.2.2.1) (us.flatMap (dw db p))),n,()):=by
 have S:(i9v p (zK db p) us).val=Q1 (.inl (.h4 (zK db p) us 0 ((0:Nat):Int) (p,()) ([],0,[],0,0,[],[],()) (p.2.2.2.1,[],()))):=rfl;have C:=h.rel.few;have z:∀i,((us.take i).flatMap (dw db p)).length<=200:=λi=>bt (PC (us.take i) (M.sublist (List.take_sublist i us)) λu J=>O u (List.mem_of_mem_take J)) C
 have H:∀i,i<=Io us->∃n:Int,zL TK (i*1002) (.h4 (zK db p) us 0 ((0:Nat):Int) (p,()) ([],0,[],0,0,[],[],()) (p.2.2.2.1,[],())) (.h4 (zK db p) us n (i:Int) (p,()) ([],0,[],0,0,[],[],()) (p.2.2.2.1,(us.take i).flatMap (dw db p),())):=by
  intro i
  induction i with
  |zero=>intro _;exact⟨0,(zL.refl _).mono ow⟩
  | succ i T=>
   intro hi;obtain⟨n,D⟩:=T ow;obtain⟨W,G⟩:=zpS (z1:=([],0,[],0,0,[],[],())) h m M L (i:=i) ow (n:=n) (acc:=(us.take i).flatMap (dw db p)) (by have:=z i;omega);refine⟨W,?_⟩;have e:(us.take (i+1)).flatMap (dw db p)=(us.take i).flatMap (dw db p)++dw db p us[i]:=by
    rw[be ow,List.flatMap_append];simp
   rw[e];exact(D.trans G).mono ow
 obtain⟨n,D⟩:=H (Io us) (af _);have E:=z (Io us);rw[fI]at D E;have o:∀r∈us.flatMap (dw db p),yX p.2.2.2.1.2.2.1 r/\dA p.2.2.2.1=Q3:=λr F=>by
  obtain⟨u,_,J⟩:=F4.1 F;exact(Dt h m r J).2
 generalize us.flatMap (dw db p)=rows at D E o⊢;obtain⟨Z,s2⟩:=XQ (rows:=rows) m.wf (λI=>by
  obtain⟨r,F⟩:=List.exists_mem_of_ne_nil _ I;exact(o r F).2) ow λr F=>(o r F).1
 have B:∃r,zV TK 1 (.h4 (zK db p) us n (Io us:Int) (p,()) ([],0,[],0,0,[],[],()) (p.2.2.2.1,rows,())) r/\aI r.2 [zh,zg] r.1=Q1 ((p.2.2.2.1,jR (zN p.2.2.2.1.2.2.1) rows),n,()):=by
  refine⟨_,zV.of (by
   simp only[TK,Q8,zk,Prod.eta,zB,Z,s2,zA,if_true,if_false];rfl),?_⟩
  show Q1 (((p.2.2.2.1.1,p.2.2.2.1.2.1,p.2.2.2.1.2.2.1,p.2.2.2.1.2.2.2.1,p.2.2.2.1.t.1,zl p.2.2.2.1.t.2),jR (zN p.2.2.2.1.2.2.1) rows),n,())=_;rw[zk]
 obtain⟨r,X,Y⟩:=B;have:Io us*1002<=1000*1002:=fH _ L;exact⟨n,zy S (D.ends X) ow Y⟩
theorem Yc(h:aG db p)(m:AT db p)(B:us.Nodup)(o:∀u∈us,u.1≠0)(z:Io us<=1000):
  vP p (zK db p) us=Q3/\(By p (zK db p) us).1=(p.2.2.2.1,jR (zN p.2.2.2.1.2.2.1) (us.flatMap (dw db p))):=by
 obtain⟨n,e⟩:=zbH h m B o z;exact⟨by unfold vP;rw[e];rfl,by unfold By;rw[e];rfl⟩
end
theorem uc:∀(k:Nat)(e:zf)(n:Nat),k<=n->bE k e=Q3->qt n e=Q3
 |0,_,_,_,h=>by simp[bE]at h
 |d+1,.mk z v s l,0,D,_=>by omega
 | d + 1,.mk z v s l,n+1,D,h=>by
  unfold qt;by_cases B:z=ej
  ·rw[if_pos (show(zf.mk z v s l).op=ej from B)];subst B;have none:(cond (aT v) (cond (s==[]) Q4 Q4) Q4)=Q3->False:=by cases aT v<;>cases s==[]<;>simp
   match l,h with
   |[],h=>exact(none h).elim
   |[_],h=>exact(none h).elim
   |_::_::_::_,h=>exact(none h).elim
   | [a,b],h=>
    have C:(cond (aT v) (cond (s==[]) (cond (bE d a) (bE d b) Q4) Q4) Q4)=Q3:=h;show(qt n a&&qt n b)=Q3;have o:bE d a=Q3/\bE d b=Q3:=by
     revert C;cases aT v<;>cases s==[]<;>cases bE d a<;>simp
    rw[uc d a n ow o.1,uc d b n ow o.2];rfl
  ·rw[if_neg (show¬(zf.mk z v s l).op=ej from B)]
theorem H4(p:Sem zq)(e:zf):Cv p e=Q3:=by
 unfold Cv;by_cases h:sV p e=Q3
 ·rw[h];rfl
 ·rw[Bool.eq_false_iff.2 h,al];rw[mT]at h;simp only[not_or,Bool.not_eq_false]at h;exact uc 12 e 20 ow (gV h.2.2)
theorem Di(c:zf->zD->Sem ze×Bool)(name:zD):∀(l m:List zf),dW c name (l++m)=if(dW c name l).2=Q3 then dW c name l else dW c name m
 | [],m=>by
  show dW c name m=if Q4=Q3 then _ else _
  simp
 | x::r,m=>by
  show(cond ((c x name).2) ((c x name).1,Q3) (dW c name (r++m)))=if(cond ((c x name).2) ((c x name).1,Q3) (dW c name r)).2=Q3 then(cond ((c x name).2) ((c x name).1,Q3) (dW c name r))else _
  cases h:(c x name).2
  ·simp only[al];exact Di c name r m
  ·simp
theorem zaI{e:zf}{name:zD}(h:(cj e name).2=Q3):
  ∃a b,e.op=[61]/\e.l=[a,b]/\((a.op=cW/\a.s=name/\b.op=kF/\(cj e name).1=b.v)\/(b.op=cW/\b.s=name/\a.op=kF/\(cj e name).1=a.v)):=by
 have G:tH e name=Q1 ((0,0,[]),Q4,())->False:=λq=>by
  unfold cj at h;rw[q]at h;cases h
 have F:∀v:Sem ze,tH e name=Q1 (v,Q3,())->(cj e name).1=v:=λv q=>by
  unfold cj;rw[q];rfl
 have o:∀r:aw,(IF e name).val=Q1 (.inr r)->∀y,aI r.2 [ze,Sh.bool] r.1=Q1 y->tH e name=Q1 y:=λr L y M=>zH L M
 by_cases J:e.op=[61];rotate_left
 ·refine(G (o (tup [agg [ai 0,ai 0,str []],kb Q4],[]) ?_ _ rfl)).elim;have:(e.op==[61])=Q4:=by simpa using J
  simp only[IF,Q8,this,cw,zY,if_true]
 have E:(e.op==[61])=Q3:=by simpa using J
 by_cases O:e.l.length=2;rotate_left
 ·refine(G (o (tup [agg [ai 0,ai 0,str []],kb Q4],[]) ?_ _ rfl)).elim;have:((e.l.length:Int)!=2)=Q3:=by simp;omega
  simp only[IF,Q8,E,this,bA,al,if_true]
 match I:e.l,O with
 | [a,b],_=>
  refine⟨a,b,J,rfl,?_⟩
  have z:(IF e name).val=if(!a.op==cW)=Q3 then(ite ((cond (!b.op==cW) Q3 (cond (!b.s==name) Q3 (cond (!a.op==kF) Q3 (a.v.1==0))))=Q3) (Q1 (.inr (tup [agg [ai 0,ai 0,str []],kb Q4],[]))) (Q1 (.inr (tup [agg [ai a.v.1,ai a.v.2.1,str a.v.2.2],kb Q3],[]))))
    else(ite ((cond (!a.op==cW) Q3 (cond (!a.s==name) Q3 (cond (!b.op==kF) Q3 (b.v.1==0))))=Q3) (Q1 (.inr (tup [agg [ai 0,ai 0,str []],kb Q4],[]))) (Q1 (.inr (tup [agg [ai b.v.1,ai b.v.2.1,str b.v.2.2],kb Q3],[])))):=by
   simp only[IF,Q8,E,I,bA,al,dR,jc];rfl
  by_cases H:a.op=cW
  ·have C:(a.op==cW)=Q3:=by simpa using H
   rw[C]at z;simp only[bA,zA,if_false,al]at z;split at z
   ·exact(G (o _ z _ rfl)).elim
   ·rename_i D;have q:=o _ z _ rfl;refine .inl ⟨H,?_,?_,F _ q⟩
    ·refine iW λB=>D ?_
     rw[show(a.s==name)=Q4 by simpa using B];rfl
    ·refine iW λB=>D ?_
     rw[show(b.op==kF)=Q4 by simpa using B];cases a.s==name<;>rfl
  ·have C:(a.op==cW)=Q4:=by simpa using H
   rw[C]at z;simp only[cw,if_true]at z;split at z
   ·exact(G (o _ z _ rfl)).elim
   ·rename_i D;have q:=o _ z _ rfl;refine .inr ⟨?_,?_,?_,F _ q⟩
    ·refine iW λB=>D ?_
     rw[show(b.op==cW)=Q4 by simpa using B];rfl
    ·refine iW λB=>D ?_
     rw[show(b.s==name)=Q4 by simpa using B];cases b.op==cW<;>rfl
    ·refine iW λB=>D ?_
     rw[show(a.op==kF)=Q4 by simpa using B];cases b.op==cW<;>cases b.s==name<;>rfl
theorem and_true{x y:Sem ze}(h:Av (A8 x y) 1=Q3):Av x 1=Q3/\Av y 1=Q3:=by
 unfold A8 at h;split at h
 ·rw[iT]at h;cases h
 split at h
 ·rename_i o;rw[<-(gR x).2,<-(gR y).2];exact ck o
 ·rw[lP]at h;cases h
theorem NZ{x y:Sem ze}(h:Av (km x y) 1=Q3):x=y:=by
 unfold km at h;split at h
 ·cases h
 unfold dm at h;split at h
 ·rename_i o;exact mw.1 o
 ·rw[iT]at h;cases h
section
variable {cols:List (Sem zj)} {row:List (Sem ze)} {name:zD}
theorem Rt:∀{d M:Nat}{a:zf},d<=M->bE d a=Q3->a.op=cW->cR M cols row a=lR cols row a.s
 |0,_,_,_,h,_=>by cases h
 |_+1,0,_,C,_,_=>absurd C ow
 | d+1,M+1,a,_,h,z=>by
  cases dr h with
  |lit v F=>cases z
  |col s o B=>rfl
  |one D x o B=>rcases o with rfl|rfl<;>cases z
  |two D x y o B E=>rcases o with rfl|rfl|rfl|rfl|rfl|rfl<;>cases z
theorem Ru:∀{d M:Nat}{a:zf},d<=M->bE d a=Q3->a.op=kF->cR M cols row a=a.v
 |0,_,_,_,h,_=>by cases h
 |_+1,0,_,C,_,_=>absurd C ow
 | d+1,M+1,a,_,h,z=>by
  cases dr h with
  |lit v F=>rfl
  |col s o B=>cases z
  |one D x o B=>rcases o with rfl|rfl<;>cases z
  |two D x y o B E=>rcases o with rfl|rfl|rfl|rfl|rfl|rfl<;>cases z
theorem Ud:∀(d n M:Nat)(e:zf),d<=M->bE d e=Q3->Av (cR M cols row e) 1=Q3->(dW cj name (gZ n e)).2=Q3->lR cols row name=(dW cj name (gZ n e)).1
 |0,_,_,_,_,h,_,_=>by cases h
 |_+1,_,0,_,W,_,_,_=>absurd W ow
 | d + 1,n,M+1,e,W,h,X,C=>by
  have B:gZ n e=[e]->lR cols row name=(dW cj name (gZ n e)).1:=by
   intro hp;rw[hp]at C⊢;unfold dW at C⊢;cases T:(cj e name).2 with
   |false=>rw[T,al]at C;cases C
   | true=>
    rw[zY];obtain⟨a,b,o,H,Z⟩:=zaI T;cases dr h with
    |lit v Y=>cases H
    |col s D z=>cases H
    |one E x D z=>cases H
    | two E x y D z F=>
     cases H;have o:E=[61]:=o;subst o;have G:=NZ (x:=cR M cols row a) (y:=cR M cols row b) X;rcases Z with⟨J,L,O,S⟩|⟨J,L,O,S⟩
     ·rw[Rt ow z J,Ru ow F O,L]at G;rw[S];exact G
     ·rw[Rt ow F J,Ru ow z O,L]at G;rw[S];exact G.symm
  match n with
  |0=>exact B rfl
  | n+1=>
   by_cases o:e.op=ej;rotate_left
   ·exact B (by unfold gZ;rw[if_neg o])
   cases dr h with
   |lit v Y=>cases o
   |col s D z=>cases o
   |one E x D z=>rcases D with rfl|rfl<;>cases o
   | two E a b D z F=>
    have o:E=ej:=o;subst o;have hp:gZ (n+1) (.mk ej (0,0,[]) [] [a,b])=gZ n a++gZ n b:=by
     conv=>lhs;unfold gZ
     rw[if_pos (show(zf.mk ej (0,0,[]) [] [a,b]).op=ej from rfl)];rfl
    rw[hp,Di]at C⊢;obtain⟨t1,t2⟩:=and_true (x:=cR M cols row a) (y:=cR M cols row b) X;by_cases I:(dW cj name (gZ n a)).2=Q3
    ·rw[if_pos I];exact Ud d n M a ow z t1 I
    ·rw[if_neg I]at C⊢;exact Ud d n M b ow F t2 C
end
theorem RW{p:Sem zq}{e:zf}{row:List (Sem ze)}(I:dA p.2.2.2.1=Q3)(h:zJ p.2.2.2.1.2.2.1 (Io row)=Q3)(o:(de p e).2=Q3)(B:Av (ia e p.2.2.2.1.2.1 row) 1=Q3):zN p.2.2.2.1.2.2.1 row=(de p e).1:=by
 unfold de at o⊢;cases F:sV p e with
 |true=>rw[F,zY]at o;cases o
 | false=>
  rw[F,al]at o;rw[al];have H:cm e=Q3:=by
   refine iW λE=>?_
   have:sV p e=Q3:=mT.2 (.inr (.inr (by simpa using E)));rw[F]at this;cases this
  have z:=(iS _).1 I;obtain⟨k,C⟩:∃k:Nat,p.2.2.2.1.2.2.1=(k:Int):=⟨_,(Int.toNat_of_nonneg z.key.1).symm⟩;have D:k<Io p.2.2.2.1.2.1:=by
   have G:=z.key.2;rw[C]at G;exact Int.ofNat_lt.1 G
  have hp:=(z.cols k D).2.2.2;have J:Av (cR 16 p.2.2.2.1.2.1 row e) 1=Q3:=by
   unfold ia at B;rw[H]at B;exact B
  have:=Ud (name:=(getD p.2.2.2.1.2.1 p.2.2.2.1.2.2.1.toNat (zi zj)).1) 12 20 16 e ow (gV H) J o;rw[<-this];have O:k<Io row:=by
   rw[C]at h;unfold zJ at h;simp only[aE,aN]at h;omega
  rw[C,aD];unfold lR;rw[hp,if_neg];have L:Q0 (LT.lt (α:=Int) (k:Int) 0)=Q4:=aq ow;have M:Q0 (GE.ge (α:=Int) (k:Int) (Io row:Int))=Q4:=aq ow;rw[L,M];simp
section
variable {db:List (Sem zh)} {p:Sem zq}
theorem IK(h:aG db p)(v:Sem ze)(o:(ls db p v).2=0):(ls db p v).1∈cE p (zK db p):=by
 revert o;unfold ls;split
 ·dsimp only
  split
  ·intro o;cases o
  ·split
   ·rename_i z;intro _;exact(h.hasC _).2.1 z
   ·intro o;cases o
 ·split
  ·rename_i z;intro _;exact(h.hasC _).2.1 z
  ·intro o;cases o
noncomputable def FJ(db:List (Sem zh))(p:Sem zq)(e:zf):List (Sem ze):=
 if(de p e).2=Q3 then(ite (((ls db p (de p e).1).2!=0)=Q3) [] [(ls db p (de p e).1).1])else cE p (zK db p)
theorem Yt(h:aG db p)(e:zf):Id p (zK db p) e=Q3/\ND p (zK db p) e=(FJ db p e,0):=by
 obtain⟨o,z⟩:=IY h.go;have C:=h.uall;have I:Pn p (zK db p)=Q3:=by unfold Pn;rw[C];rfl
 have J:Yr p (zK db p)=(cE p (zK db p),0):=by unfold Yr;rw[C];rfl
 have D:=h.key (de p e).1;have G:Ys p (zK db p) (de p e).1=Q3:=by unfold Ys;rw[D];rfl
 have H:ziO p (zK db p) (de p e).1=ls db p (de p e).1:=by unfold ziO;rw[D];rfl
 have E:Bh p (zK db p) e=Q1 (FJ db p e,0,()):=by
  unfold FJ;cases B:(de p e).2
  ·rw[if_neg sw];refine zH (r:=(tup [sl ze (cE p (zK db p)),ai 0],[])) ?_ rfl;simp only[zaK,zk,Prod.eta,Q8,o,z,H4,B,I,J,ir,cw,zA,if_true,if_false]
  ·rw[if_pos rfl];cases F:(ls db p (de p e).1).2!=0
   ·rw[if_neg sw];refine zH (r:=(tup [sl ze [(ls db p (de p e).1).1],ai 0],[])) ?_ rfl;simp only[zaK,zk,Prod.eta,Q8,o,z,H4,B,G,H,F,ir,bA,zA,if_true,if_false]
   ·rw[if_pos rfl];refine zH (r:=(tup [nils,ai 0],[])) ?_ rfl;simp only[zaK,zk,Prod.eta,Q8,o,z,H4,B,G,H,F,ir,bA,zA,if_true,if_false]
 exact⟨by unfold Id;rw[E];rfl,by unfold ND;rw[E];rfl⟩
theorem zbU(h:aG db p)(e:zf):(FJ db p e).length<=(cE p (zK db p)).length:=by
 unfold FJ;split
 ·split
  ·simp
  ·rename_i o;have:=List.length_pos_of_mem (IK h (de p e).1 (by simpa using o));rw[List.length_singleton];omega
 ·exact af _
end
theorem KQ:Bg=Q1 (Q3,()):=zH (i:=i8v) (r:=(.bool Q3,[])) rfl rfl
theorem uN:Ia=Q3/\CG=Q3:=⟨by unfold Ia;rw[KQ];rfl,by unfold CG;rw[KQ];rfl⟩
section
variable {w:World} {U:Nat->Prop} {ρ:Nat->Option Value} {a b:List AV}
end
section
variable {db:List (Sem zh)} {p:Sem zq} {v:Sem ze}
theorem Uw{c:Int}{a b:List (Sem ze)}(h:zJ c (Io a)=Q3):zN c (a++b)=zN c a:=by
 have o:c.toNat<Io a:=by
  unfold zJ at h;simp only[aE,aN]at h;omega
 unfold zN;rw[aU,aU,mS o]
theorem zbz{x:Sem zh}(h:dQ x){a b:List (Sem ze)}(B:a∈x.2)(C:b∈x.2)(e:zN x.1.2.2.1 a=zN x.1.2.2.1 b):a=b:=by
 have z:=(iS _).1 h.may;have o:∀r∈x.2,(zN x.1.2.2.1 r).1≠0:=λr H=>by
  obtain⟨I,_,G⟩:=cX (h.fits r H);refine G _ ?_ z.nn;have J:=z.key.1;have L:=z.key.2;omega
 obtain⟨i,D,rfl⟩:=gq B;obtain⟨j,E,rfl⟩:=gq C;have F:=List.pairwise_iff_getElem.1 h.key;rcases Nat.lt_trichotomy i j with c|c|c
 ·exact absurd e (F i j D E c (o _ B))
 ·subst c;rfl
 ·exact absurd e.symm (F j i E D c (o _ C))
theorem zhO(h:aG db p)(m:AT db p)(T:v∈cE p (zK db p)){r:List (Sem ze)}(C:r∈SX p (zK db p) v (Tw db p v)):ls db p (zN p.2.2.2.1.2.2.1 r)=(v,0):=by
 have o:=(h.hasC v).2.2 T;unfold SX at C;split at C
 ·rename_i H;split at C
  ·cases C
  rw[eC]at C;subst C;obtain⟨k0,_⟩:=m.group H;rw[k0];unfold ls;rw[if_neg (by rw[H];decide)];show(ite (FM (cE p (zK db p)) v=Q3) (v,(0:Int)) _)=_;rw[if_pos o]
 ·rename_i H;obtain⟨row,G,rfl⟩:=bc.1 C;obtain⟨J,M,Y⟩:=Kk G;unfold vD;split
  ·rename_i B;obtain⟨k0,_⟩:=m.join B;have E:=h.rel.keys _ J;rw[k0,Uw E];have z:cg p (zK db p)=p.t.2:=by unfold cg;rw[if_neg (by rw[B];decide),if_pos B]
   unfold ls;rw[if_pos B];rcases dZ (λr=>bl r (dn db p).1.2.2.1 (zN (dn db p).1.2.2.1 row)) (dn db p).2 0 with⟨_,I⟩|⟨k,F,L,I,_⟩
   ·have:=I _ J;rw[(rr E).2 rfl]at this;cases this
   ·rw[ez]at L;have S:(dn db p).2[k]=row:=zbz h.rel (aP F) J ((rr (h.rel.keys _ (aP F))).1 I);simp only[L];rw[if_neg ow,zG _ _ F,S,<-z,M,if_pos o]
  ·rename_i B;have D:p.1=cV:=by
    rcases h.mig with e|e|e
    ·exact e
    ·exact absurd e B
    ·exact absurd e H
   obtain⟨_,k,F,W,X⟩:=m.copy D;have z:cg p (zK db p)=(dn db p).1.2.2.1:=by unfold cg;rw[if_pos D];rfl
   have O:zN p.2.2.2.1.2.2.1 (AE p row)=v:=by
    rw[W];unfold zN AE;rw[aD,aU,eY,zU F,X,<-z,<-M];rfl
   rw[O];unfold ls;rw[if_neg B,if_pos o]
def mD(e:zf)(cols:List (Sem zj))(row:List (Sem ze)):Bool:=bif e.op==[]then Q3 else Av (ia e cols row) 1
theorem zgZ(h:aG db p)(m:AT db p)(e:zf):((cE p (zK db p)).flatMap (dw db p)).filter (mD e p.2.2.2.1.2.1)=((FJ db p e).flatMap (dw db p)).filter (mD e p.2.2.2.1.2.1):=by
 unfold FJ;by_cases C:(de p e).2=Q3;rotate_left
 ·rw[if_neg C]
 rw[if_pos C];have O:(e.op==[])=Q4:=by
  refine Bool.eq_false_iff.2 λX=>?_
  unfold de at C;cases W:sV p e with
  |true=>rw[W,zY]at C;cases C
  | false=>
   have Y:cm e=Q3:=iW λM=>by
    have:sV p e=Q3:=mT.2 (.inr (.inr (by simpa using M)));rw[W]at this;cases this
   rw[Ii Y]at X;cases X
 have S:∀u∈cE p (zK db p),∀r∈(dw db p u),mD e p.2.2.2.1.2.1 r=Q3->ls db p (de p e).1=(u,0):=λu o r I F=>by
  obtain⟨_,⟨k1,_⟩,Z⟩:=Dt h m r I;unfold mD at F;rw[O,al]at F;rw[<-RW Z k1 C F];exact zhO h m o (List.mem_filter.1 I).1
 have none:∀u∈cE p (zK db p),ls db p (de p e).1≠(u,0)->(dw db p u).filter (mD e p.2.2.2.1.2.1)=[]:=λu o D=>List.filter_eq_nil_iff.2 λr I F=>D (S u o r I F)
 have T:∀l:List (Sem ze),(l.flatMap (dw db p)).filter (mD e p.2.2.2.1.2.1)=l.flatMap λu=>(dw db p u).filter (mD e p.2.2.2.1.2.1):=λl=>by
  induction l with
  |nil=>rfl
  |cons a r ih=>rw[List.flatMap_cons,List.filter_append,ih,List.flatMap_cons]
 rw[T,T];have nil:∀l:List (Sem ze),(∀u∈l,u∈cE p (zK db p)/\ls db p (de p e).1≠(u,0))->(l.flatMap λu=>(dw db p u).filter (mD e p.2.2.2.1.2.1))=[]:=λl E=>by
  rw[List.flatMap_eq_nil_iff];exact λu o=>none u (E u o).1 (E u o).2
 by_cases H:(ls db p (de p e).1).2=0
 ·rw[if_neg (by simpa using H)];have o:=IK h _ H;have G:=h.nodup;generalize L:(ls db p (de p e).1).1=u at o;have J:ls db p (de p e).1=(u,0):=by rw[<-L,<-H]
  obtain⟨l,r,E⟩:=List.append_of_mem o;have B:∀x∈l++r,x∈cE p (zK db p)/\ls db p (de p e).1≠(x,0):=λx z=>by
   refine⟨by rw[E];simp at z⊢;rcases z with z|z<;>simp[z],λD=>?_⟩;have:u=x:=by rw[J]at D;exact congrArg Prod.fst D
   subst this;rw[E]at G;exact(List.nodup_cons.1 ((List.perm_middle.nodup_iff).1 G)).1 z
  rw[E,List.flatMap_append,List.flatMap_cons,nil l λx z=>B x (by simp[z]),nil r λx z=>B x (by simp[z])];simp
 ·rw[if_pos (by simpa using H)];exact nil _ λu o=>⟨o,λD=>H (by rw[D])⟩
end
noncomputable def i3v(S:Sem zh.sl)(o:Sem zn)(D:Sem Sh.expr):Tr (Empty⊕aw):=
 let J:=(o.1,o.2.1,o.2.2.1,o.2.2.2.1,o.t.1,o.t.2.1,o.t.q.1,o.t.q.2.1,zl o.t.t.1,o.t.t.2.1,o.t.t.q.1,zl o.t.t.q.2.1,o.t.t.t)
 let h:=DB S J
 let z:=(h.1.1,h.1.2.1,h.1.2.2.1,(h.1.2.2.2.1.1,h.1.2.2.2.1.2.1,h.1.2.2.2.1.2.2.1,h.1.2.2.2.1.2.2.2.1,h.1.2.2.2.1.t.1,zl h.1.2.2.2.1.t.2),h.1.t)
 let L:=OK z h.2.1
 let B:=By z h.2.1 L
 let M:=((B.1.1.1,B.1.1.2.1,B.1.1.2.2.1,B.1.1.2.2.2.1,B.1.1.t.1,zl B.1.1.t.2),B.1.2)
 let H:=QT M (zl (e8 (zl D)))
 let I:=ND z h.2.1 (zl (e8 (zl D)))
 let C:=By z h.2.1 I.1
 let O:=((C.1.1.1,C.1.1.2.1,C.1.1.2.2.1,C.1.1.2.2.2.1,C.1.1.t.1,zl C.1.1.t.2),C.1.2)
 let E:=I.2==0
 let F:=QT O (zl (e8 (zl D)))
 let G:=OU F.1 H.1
 chk (yg S J)
 (br (!h.2.2) (chk Q3 (re (AV.bool CG) []))
  (chk (I9 z h.2.1) (chk (vP z h.2.1 L) (chk (Js M (zl (e8 (zl D)))) (br (H.2!=0) (chk Q3 (re (AV.bool CG) [])) (chk (Id z h.2.1 (zl (e8 (zl D)))) (chk (vP z h.2.1 I.1) (chk (Js O (zl (e8 (zl D)))) (chk (cond E (Jq F.1 H.1&&bif G then Ia else Q3) Q3)
  (re (AV.bool (cond E (cond G CG Q4) Q4)) []))))))))))
noncomputable def Bo(h:Sem zh.sl)(o:Sem zn)(z:Sem Sh.expr):=an [Sh.bool] t0 100000000 (i3v h o z)
noncomputable def F3v:=FT [zh.sl,zn,Sh.expr] [Sh.bool] λx=>Bo x.1 x.2.1 x.2.2.1
theorem zk8:FK 3 F3v:=SB.T1 (f:=Tryz.f3) (keep:=k0) (e:=e0)
theorem DQ(a:Sem ze):aX a a=(0:Int):=by
 unfold aX;show FE [pR (ao a).1 (ao a).1,jO (ao a).2.1 (ao a).2.1,mW (ao a).2.2 (ao a).2.2]=(0:Int);rw[<-IP,if_pos sw]
def YG(l:List (Sem zh))(i:Int)(p:Sem zq):List (Sem ze)->fG
 |[]=>.h3 l i (p,())
 |a::r=>.h3b l i (p,()) (a::r)
section
variable {l:List (Sem zh)} {p:Sem zq} {u:Sem ze} {acc:List (Sem ze)} {i:Nat}
theorem zd0 (hl:Io acc≤1000) (hi:i≤1000) (hu:Io u.2.2≤1000000) (hm:∀ o∈acc,Io o.2.2≤1000000∧(aX o u=(0:Int)→o=u)):
    ∀ (E:List (Sem ze)) (k:Nat),acc.drop k=E→k≤Io acc→∀ (d:Bool) (B:List (Sem ze)),Io B≤2 * k→∀ s,(s=fG.h9bb l (i:Int) (k:Int) (p,()) (u,()) acc B∧d=Q3∨s=fG.h9bbb l (i:Int) d (k:Int) (p,()) (u,()) acc B)→
      zL gh (Io E+1) s (.h3b l ((i+1:Nat):Int) (p,()) (B++if d=Q3 then E else fm u E))
  | [],k,X,hk,d,B,hn,s,Y=>by
    have h:k=Io acc:=by
      have:=congrArg Io X;simp at this;omega
    have hc:Q0 (Io B+[u].length<=1073741824)=Q3:=by simp;omega
    subst h;rcases Y with⟨rfl,rfl⟩|rfl
    · refine zL.of ?_
      rw[if_pos rfl,pb];simp only[gh,Q8,zB,zA,if_false];rw[zr i um]
    · refine zL.of ?_
      simp only[gh,Q8,zB,zA,if_false,hc,if_true];rw[zr i um];cases d
      · rfl
      · rw[if_pos rfl,pb];rfl
  | o :: r, k,X,hk,d,B,hn,s,Y=>by
    have h:k<Io acc:=by
      have:=congrArg Io X;simp at this;omega
    have ho:acc[k]=o:=by
      have:=fk h;rw[X]at this;exact(List.cons.inj this).1.symm
    have h4:acc.drop (k+1)=r:=by
      have:=fk h;rw[X]at this;exact(List.cons.inj this).2.symm
    obtain⟨m1,m2⟩:=hm o (ho▸aP h);have h1:Q0 (Io B+[u].length<=1073741824)=Q3:=by simp;omega
    have F:Q0 (Io B+[o].length<=1073741824)=Q3:=by simp;omega
    have h2:Q0 ((B++[u]).length+[o].length<=1073741824)=Q3:=by simp;omega
    have C:Q0 (k<Io acc)=Q3:=zx h;have D:acc.getD k (zi ze)=o:=by rw[<-ho];exact zG acc (zi ze) h
    have W:Q0 (GT.gt (α:=Int) 0 0)=Q4:=rfl;have ih:=zd0 hl hi hu hm r (k+1) h4 h
    have O:∀(S:Bool)(H:List (Sem ze))(s':fG),Io H<=2*(k+1)->(s'=fG.h9bb l (i:Int) ((k+1:Nat):Int) (p,()) (u,()) acc H/\S=Q3\/s'=fG.h9bbb l (i:Int) S ((k+1:Nat):Int) (p,()) (u,()) acc H)->
        (H++if S=Q3 then r else fm u r)=(B++if d=Q3 then o::r else fm u (o::r))->(gh s).val=Q1 (.inl s')->zL gh ((o::r).length+1) s (.h3b l ((i+1:Nat):Int) (p,()) (B++if d=Q3 then o::r else fm u (o::r))):=λS H s' a b c e=>by
      rw[<-c];exact((zL.of e).trans (ih S H a s' b)).mono sw
    have T:∀x:List (Sem ze),(B++[o])++x=B++o::x:=λx=>by rw[uF];rfl
    have M:=lE m1 hu;have I:=nu m1 hu;have L:=zr k um;have z:fm u (o::r)=if LT.lt (α:=Int) (aX o u) 0 then o::fm u r else if(o==u)=Q3 then o::r else u::o::r:=rfl
    by_cases J:aX o u=(0:Int)
    · have e:=m2 J
      have z:fm u (o::r)=o::r:=by rw[z,if_neg (by rw[J];omega),if_pos (by rw[e];exact BEq.rfl)]
      rw[J]at I;refine O Q3 (B++[o]) _ sg (.inl ⟨rfl,rfl⟩) (by rw[if_pos rfl,T,z];cases d<;>rfl) ?_;rcases Y with⟨rfl,rfl⟩|rfl
      · simp only[gh,Q8,zE h,zt h,aD,C,D,M,I,F,L,W,BEq.rfl,al,zA,if_true,if_false]
      · simp only[gh,Q8,zE h,zt h,aD,C,D,M,I,F,L,W,BEq.rfl,al,zA,if_true,if_false]
    · have Z:((aX o u:Int)==0)=false:=by simpa using J
      by_cases hg:GT.gt (α:=Int) (aX o u) 0
      · have G:Q0 (GT.gt (α:=Int) (aX o u) 0)=Q3:=zx hg
        have z:fm u (o::r)=u::o::r:=by
          rw[z,if_neg ow,if_neg];intro e;rw[bG e]at J;exact J (DQ u)
        rcases Y with⟨rfl,rfl⟩|rfl
        · refine O Q3 (B++[o]) _ sg (.inl ⟨rfl,rfl⟩) (by rw[if_pos rfl,if_pos rfl,T]) ?_
          simp only[gh,Q8,zE h,zt h,aD,C,D,M,I,F,L,Z,G,bA,zY,zA,if_true,if_false]
        · cases d with
          | true=>
            refine O Q3 (B++[o]) _ sg (.inr rfl) (by rw[if_pos rfl,if_pos rfl,T]) ?_;simp only[gh,Q8,zE h,zt h,aD,C,D,M,I,F,L,Z,G,bA,zY,zA,if_true,if_false]
          | false=>
            refine O Q3 ((B++[u])++[o]) _ sg (.inl ⟨rfl,rfl⟩) (by rw[if_pos rfl,if_neg sw,z];simp) ?_;simp only[gh,Q8,zE h,zt h,aD,C,D,M,I,h1,h2,L,Z,G,cw,zY,zA,if_true,if_false]
      · have G:Q0 (GT.gt (α:=Int) (aX o u) 0)=Q4:=aq hg
        have h3:LT.lt (α:=Int) (aX o u) 0:=
           Int.lt_iff_le_and_ne.2 ⟨Int.not_lt.1 hg,J⟩
        have z:fm u (o::r)=o::fm u r:=by rw[z,if_pos h3]
        rcases Y with⟨rfl,rfl⟩|rfl
        · refine O Q3 (B++[o]) _ sg (.inl ⟨rfl,rfl⟩) (by rw[if_pos rfl,if_pos rfl,T]) ?_
          simp only[gh,Q8,zE h,zt h,aD,C,D,M,I,F,L,Z,G,al,zA,if_true,if_false]
        · refine O d (B++[o]) _ sg (.inr rfl) (by rw[z,T];cases d<;>rfl) ?_
          simp only[gh,Q8,zE h,zt h,aD,C,D,M,I,F,L,Z,G,al,zA,if_true,if_false]
end
section
variable {db:List (Sem zh)} {p:Sem zq}
theorem aG.vlen(h:aG db p)(C:∀x∈db,FZ x){row:List (Sem ze)}(z:row∈(dn db p).2){u:Sem ze}(B:u∈row):Io u.2.2<=1000000:=by
 rw[Vv]at z;have o:p.2.1∈bw p.2.1 p.2.2.1:=by unfold bw;split<;>simp
 exact((C _ (iO (h.fnd _ o)).1).vals row z u B).2.2
theorem RU(l:List (Sem ze))(u:Sem ze):iu (l++[u])=if(u.1==0)=Q3 then iu l else fm u (iu l):=by
 unfold iu;rw[List.foldl_append];rfl
theorem aG.qAll(h:aG db p)(hw:∀x∈db,FZ x):I9 p (zK db p)=Q3/\OK p (zK db p)=cE p (zK db p):=by
 have x1:=h.rel.few;have B:=h.len0;have G:getD (zK db p) (toNat 0) (zi zh)=dn db p:=rfl;have h6:(lX p (zK db p)).length=(dn db p).2.length:=cA _;have O:∀v∈lX p (zK db p),aR v=Q3/\Io v.2.2<=1000000:=λv hv=>by
  refine⟨h.may hv,?_⟩;obtain⟨row,hr,rfl⟩:=bc.1 hv;rw[h.pc.2];exact h.vlen hw hr (h.at_mem hr)
 have:Bw p (zK db p)=Q1 (cE p (zK db p),()):=by
  have hs:(zm9 p (zK db p)).val=Q1 (.inl (YG (zK db p) ((0:Nat):Int) p (iu ((lX p (zK db p)).take 0)))):=rfl;have H:=zL.all (t:=gh) 1000 (λi=>YG (zK db p) (i:Int) p (iu ((lX p (zK db p)).take i))) (dn db p).2.length λi S=>by
   have hm:=aP S;have h1:i<(lX p (zK db p)).length:=by omega
   have W:(lX p (zK db p))[i]=zN (cg p (zK db p)) (dn db p).2[i]:=by
    rw[<-h.pc.2];exact List.getElem_map _
   have T:=O _ (aP h1);obtain⟨o1,o2⟩:=h.qOf' hm;have o3:=h.qOf (h.inn _ hm).1;have o4:(ur p (zK db p) (dn db p).2[i]).getD (bQ [ze])=(zN (cg p (zK db p)) (dn db p).2[i],()):=by rw[o3];rfl
   rw[be h1,RU];rw[W]at T⊢;have h5:=KM ((lX p (zK db p)).take i);have h2:(iu ((lX p (zK db p)).take i)).length<=200:=by
    rw[o9]at h5;omega
   have E:∀o∈iu ((lX p (zK db p)).take i),Io o.2.2<=1000000/\(aX o (zN (cg p (zK db p)) (dn db p).2[i])=(0:Int)->o=zN (cg p (zK db p)) (dn db p).2[i])/\o.1≠0:=λo ho=>by
    obtain⟨a,b⟩:=((nU λx W=>(O x (List.mem_of_mem_take W)).1).2 o).1 ho;have:=O o (List.mem_of_mem_take a);exact⟨this.2,uj this.1 T.1,b⟩
   generalize zN (cg p (zK db p)) (dn db p).2[i]=u at T o2 o4 E⊢;generalize iu ((lX p (zK db p)).take i)=acc at h2 E⊢;have h8:=zr i um;cases acc with
   | nil=>
    have f1:zL gh 1 (YG (zK db p) (i:Int) p []) (.h9 (zK db p) (i:Int) (u.1==0) 0 (p,()) (u,())):=zL.of (by
     show(gh (.h3 _ _ _)).val=_;simp only[gh,Q8,G,B,zE S,zt S,if_true,zG _ _ S,zk,Prod.eta,o1,o2,o4])
    have f2:zL gh 1 (.h9 (zK db p) (i:Int) (u.1==0) 0 (p,()) (u,())) (YG (zK db p) ((i+1:Nat):Int) p (ite ((u.1==0)=Q3) [] (fm u []))):=zL.of (by
     simp only[gh,Q8,show Q0 ((0:Int)<0)=Q4 from rfl,show Q0 ([u].length<=1073741824)=Q3 from rfl,zA,if_true,if_false,h8];cases u.1==0<;>rfl)
    exact(f1.trans f2).mono ow
   | cons o r=>
    have f1:zL gh 1 (YG (zK db p) (i:Int) p (o::r)) (.h9b (zK db p) (i:Int) (u.1==0) 0 (p,()) (u,()) (o::r)):=zL.of (by
     show(gh (.h3b _ _ _ _)).val=_;simp only[gh,Q8,G,B,zE S,zt S,if_true,zG _ _ S,zk,Prod.eta,o1,o2,o4])
    obtain⟨m1,m2,m3⟩:=E o sw;have q1:=lE m1 T.2;have q2:=nu m1 T.2;have x2:=zr 0 um;have J:Q0 ((0:Int)<((o::r).length:Int))=Q3:=by simp
    have F:zJ 0 (o::r).length=Q3:=zt (i:=0) sw;have L:Q0 (toNat 0<(o::r).length)=Q3:=by simp
    have x0:=zd0 (l:=zK db p) (p:=p) (u:=u) (acc:=o::r) (i:=i) ow ow T.2 (λx W=>⟨(E x W).1,(E x W).2.1⟩) r 1 rfl sw;have z:fm u (o::r)=if LT.lt (α:=Int) (aX o u) 0 then o::fm u r else if(o==u)=Q3 then o::r else u::o::r:=rfl
    have go:∀(X:Bool)(D:List (Sem ze))(s':fG),Io D<=2->(s'=fG.h9bb (zK db p) (i:Int) ((1:Nat):Int) (p,()) (u,()) (o::r) D/\X=Q3\/s'=fG.h9bbb (zK db p) (i:Int) X ((1:Nat):Int) (p,()) (u,()) (o::r) D)->
      (D++if X=Q3 then r else fm u r)=(ite ((u.1==0)=Q3) (o::r) (fm u (o::r)))->(gh (.h9b (zK db p) (i:Int) (u.1==0) 0 (p,()) (u,()) (o::r))).val=Q1 (.inl s')->
      zL gh 1000 (YG (zK db p) (i:Int) p (o::r)) (YG (zK db p) ((i+1:Nat):Int) p (ite ((u.1==0)=Q3) (o::r) (fm u (o::r)))):=λX D s' a b c e=>by
     have f3:=x0 X D a s' b;rw[c]at f3;have:∃x y,(ite ((u.1==0)=Q3) (o::r) (fm u (o::r)))=x::y:=by
      rw[z];split
      ·exact⟨_,_,rfl⟩
      ·split
       ·exact⟨_,_,rfl⟩
       ·split<;>exact⟨_,_,rfl⟩
     obtain⟨x,y,e3⟩:=this;rw[e3]at f3⊢;exact((f1.trans (zL.of e)).trans f3).mono (by simp at h2;omega)
    by_cases M:aX o u=(0:Int)
    ·have e:=m2 M;have C:(u.1==0)=Q4:=by rw[<-e];simpa using m3
     have z:fm u (o::r)=o::r:=by rw[z,if_neg (by rw[M];omega),if_pos (by rw[e];exact BEq.rfl)]
     rw[M]at q2;refine go Q3 [o] _ sw (.inl ⟨rfl,rfl⟩) (by rw[if_pos rfl,C,if_neg sw,z];rfl) ?_;simp only[gh,Q8,J,F,L,show(o::r).getD (toNat 0) (zi ze)=o from rfl,q1,q2,show Q0 (GT.gt (α:=Int) 0 0)=Q4 from rfl,show Q0 ([o].length<=1073741824)=Q3 from rfl,BEq.rfl,al,zA,if_true,if_false];rfl
    ·have hz:((aX o u:Int)==0)=Q4:=by simpa using M
     by_cases H:GT.gt (α:=Int) (aX o u) 0
     ·have I:Q0 (GT.gt (α:=Int) (aX o u) 0)=Q3:=zx H;have z:fm u (o::r)=u::o::r:=by
       rw[z,if_neg ow,if_neg];intro e;rw[bG e]at M;exact M (DQ u)
      by_cases C:(u.1==0)=Q3
      ·refine go Q3 [o] _ sw (.inr rfl) (by rw[if_pos rfl,if_pos C];rfl) ?_;simp only[gh,Q8,J,F,L,show(o::r).getD (toNat 0) (zi ze)=o from rfl,q1,q2,hz,I,C,show Q0 ([o].length<=1073741824)=Q3 from rfl,bA,zY,zA,if_true,if_false];rfl
      ·have h4:=Bool.eq_false_iff.2 C;refine go Q3 [u,o] _ sw (.inl ⟨rfl,rfl⟩) (by rw[if_pos rfl,if_neg C,z];rfl) ?_;simp only[gh,Q8,J,F,L,show(o::r).getD (toNat 0) (zi ze)=o from rfl,q1,q2,hz,I,h4,show Q0 ([u].length<=1073741824)=Q3 from rfl,show Q0 ([u].length+[o].length<=1073741824)=Q3 from rfl,cw,zY,zA,if_true,if_false];rfl
     ·have I:Q0 (GT.gt (α:=Int) (aX o u) 0)=Q4:=aq H;have h7:LT.lt (α:=Int) (aX o u) 0:=Int.lt_iff_le_and_ne.2 ⟨Int.not_lt.1 H,M⟩;have z:fm u (o::r)=o::fm u r:=by rw[z,if_pos h7]
      refine go (u.1==0) [o] _ sw (.inr rfl) (by rw[z];cases u.1==0<;>rfl) ?_;simp only[gh,Q8,J,F,L,show(o::r).getD (toNat 0) (zi ze)=o from rfl,q1,q2,hz,I,show Q0 ([o].length<=1073741824)=Q3 from rfl,al,zA,if_true,if_false];rfl
  have H:zL gh ((dn db p).2.length*1000) (YG (zK db p) ((0:Nat):Int) p (iu ((lX p (zK db p)).take 0))) (YG (zK db p) ((dn db p).2.length:Int) p (iu ((lX p (zK db p)).take (dn db p).2.length))):=H;have Z:iu ((lX p (zK db p)).take (dn db p).2.length)=cE p (zK db p):=by rw[<-h6,fI];rfl
  rw[Z]at H;generalize cE p (zK db p)=acc at H⊢;have Y:∃r,zV gh 1 (YG (zK db p) ((dn db p).2.length:Int) p acc) r/\aI r.2 [ze.sl] r.1=Q1 (acc,()):=by
   cases acc with
   | nil=>
    refine⟨_,zV.of (by
     show(gh (.h3 _ _ _)).val=_;simp only[gh,Q8,G,B,zB,zA,if_true,if_false];rfl),rfl⟩
   | cons a r=>
    refine⟨_,zV.of (by
     show(gh (.h3b _ _ _ _)).val=_;simp only[gh,Q8,G,B,zB,zA,if_true,if_false];rfl),rfl⟩
  obtain⟨r,r1,r2⟩:=Y;exact zy hs (H.ends r1) ow r2
 exact⟨by unfold I9;rw[this];rfl,by unfold OK;rw[this];rfl⟩
end
end Cad
