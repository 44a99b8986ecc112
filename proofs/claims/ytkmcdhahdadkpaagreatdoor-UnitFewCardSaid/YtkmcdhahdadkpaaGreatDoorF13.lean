/- Tables with rows that may be: no value twice. What is asked of tables with rows, and of bases, holds. What is asked of bases holds. Tables with rows that may be. -/
import Derived.Test.YtkmcdhahdadkpaaGreatDoorF10
import Derived.Test.YtkmcdhahdadkpaaGreatDoorF08
import Derived.Test.YtkmcdhahdadkpaaGreatDoorF12
import Derived.Test.YtkmcdhahdadkpaaGreatDoorF11
import Derived.Test.YtkmcdhahdadkpaaGreatDoorF09
namespace Cad
open Go Go.Proofs
open Tr renaming val→Q8
open Bool renaming false→Q4,true→Q3
open Option renaming some→Q1
open Decidable renaming decide→Q0
open Int (toNat)
open List (getD length)
open Tr (chk br re)
open AV (nils agg tup ptr kb str sl)
noncomputable section
set_option maxHeartbeats 4000000
abbrev ao(c:Int)(r:List (Sem zf)):Sem zf:=getD r (toNat c) (zi zf)
def qJ(rows:List (List (Sem zf)))(c:Int):Prop:=rows.Pairwise λa b=>(ao c a).1≠0->ao c a≠ao c b
theorem pt:∀(es:List ((Int×Int×zA)×Int))(k:Int×Int×zA)(x:Int),jC (jt es k) (kR es k) x=jP es k x
 |[],k,x=>by simp[jt,mD,kR,jC,jP]
 | p::r,k,x=>by
  have h:=pt r k x;cases hk:(k==p.1)with
  | true=>
   have e:k=p.1:=bA hk;simp[jt,mD,kR,jC,jP,e]
  | false=>
   have e:jt (p::r) k=p::jt r k:=by
    simp only[jt,mD,List.any_cons,hk,Bool.false_or];cases(r.any λp=>k==p.1)<;>rfl
   rw[e,kR,jP,hk];show p::jC (jt r k) (kR r k) x=p::jP r k x;rw[h]
theorem E3(es:List ((Int×Int×zA)×Int))(k k':Int×Int×zA)(x:Int):fV (jP es k x) k'=if k'=k then x else fV es k':=by
 induction es with
 | nil=>
  by_cases h:k'=k
  ·subst h;simp[jP,fV]
  ·simp[jP,fV,h]
 | cons p r ih=>
  rw[jP];cases hk:(k==p.1)with
  | true=>
   have e:k=p.1:=bA hk;by_cases h:k'=k
   ·simp[fV,h]
   ·have h2:(k'==p.1)=Q4:=by rw[<-e];simpa using h
    have h3:(k'==k)=Q4:=by simpa using h
    simp only[ag,fV,List.find?_cons,h2,h3,if_neg h]
  | false=>
   show fV (p::jP r k x) k'=_;cases hp:(k'==p.1)with
   | true=>
    have e:k'=p.1:=bA hp;have h:k'≠k:=by intro h;rw[<-h,hp]at hk;cases hk
    simp only[fV,List.find?_cons,hp,if_neg h]
   | false=>
    simp only[fV,List.find?_cons,hp]at ih⊢;exact ih
def tK:List (Sem zf)->List ((Int×Int×zA)×Int)
 |[]=>[]
 |v::r=>jP (tK r) v (IntKind.i64.wrap (fV (tK r) v+1))
theorem IK:∀l:List (Sem zf),(tK l).length<=l.length
 |[]=>aB _
 | v::r=>by
  rw[tK,<-pt,CM];have:=TG (tK r) v;have:=IK r;simp;omega
theorem Bj:∀(l:List (Sem zf))(v:Sem zf),l.length<=1000000->fV (tK l) v=(l.count v:Int)
 |[],v,_=>by simp[tK,fV]
 | u::r,v,h=>by
  simp only[fi]at h;have h1:=Bj r u ow;have h2:=Bj r v ow;have h3:r.count u<=r.length:=List.count_le_length;rw[tK,E3,h1,h2,zq _ um];by_cases e:v=u
  ·subst e;simp
  ·have e':¬(u==v)=Q3:=by intro h;exact e (bA h).symm
   rw[if_neg e,List.count_cons,if_neg e'];rfl
theorem Jk{x:Sem zh}{c:Int}(hc:∀r∈x.2,zP c (length r)=Q3)(hl:x.2.length<=1000000):∃b,yF x c=Q1 (b,())/\(b=Q4↔qJ x.2 c):=by
  let key:Nat->Sem zf:=λi=>ao c (getD x.2 i (zi zf.sl))
  let mm:Nat->List ((Int×Int×zA)×Int):=λi=>tK (((x.2.take i).map (ao c)).reverse)
  have hm:∀i,i<x.2.length->mm (i+1)=jP (mm i) (key i) (IntKind.i64.wrap (fV (mm i) (key i)+1)):=by
    intro i hi;show tK (((x.2.take (i+1)).map (ao c)).reverse)=_;rw[List.take_succ_eq_append_getElem hi,iB,List.reverse_append];show tK (ao c x.2[i]::_)=_;rw[tK];have:key i=ao c x.2[i]:=by
      show ao c (getD x.2 i _)=_;rw[aY,zQ hi,dn]
    rw[this];rfl
  have hlen:∀i,i<=x.2.length->(mm i).length<=i:=by
    intro i hi;have:=IK (((x.2.take i).map (ao c)).reverse);simp at this;have h2:(mm i).length=(tK (((x.2.take i).map (ao c)).reverse)).length:=rfl;simp at h2;omega
  have hget:∀i v,i<=x.2.length->fV (mm i) v=((((x.2.take i).map (ao c)).count v:Nat):Int):=by
    intro i v hi;show fV (tK _) v=_;rw[Bj _ _ sg,List.count_reverse]
  have hf:=lN (t:=xz) (Φ:=λr=>aL r.2 [Sh.bool] r.1=some (true,())) 1 (λi=>.h3 c x.2 (x.2.length:Int) (i:Int) (mm i)) (λi=>(key i).1≠0->((x.2.take i).map (ao c)).count (key i)=0) x.2.length (by
    intro i hi _;have k0:getD x.2 (i:Int).toNat (zi zf.sl)=getD x.2 i (zi zf.sl):=by rw[aJ]
    have k1:getD x.2 i (zi zf.sl)=x.2[i]:=by rw[aY,zQ hi,dn]
    have k2:zP c (length x.2[i])=Q3:=hc _ (bC hi);have k3:key i=ao c x.2[i]:=by show ao c (getD x.2 i _)=_;rw[k1]
    have k4:zP ((kR (mm i) (key i):Nat):Int) (jt (mm i) (key i)).length=Q3:=zu (WB _ _);have k5:Q0 ((mm i).length<=1073741824)=Q3:=zt (by have:=hlen i ow;omega);have k6:jC (jt (mm i) (key i)) ((kR (mm i) (key i):Nat):Int).toNat (IntKind.i64.wrap (fV (mm i) (key i)+1))=mm (i+1):=by rw[aJ,pt,hm i hi]
    have k7:fV (mm (i+1)) (key i)=((((x.2.take i).map (ao c)).count (key i)+1:Nat):Int):=by
      have h3:((x.2.take i).map (ao c)).count (key i)<=((x.2.take i).map (ao c)).length:=List.count_le_length;simp only[cN,ot]at h3;rw[hm i hi,E3,if_pos rfl,hget i _ ow,zq _ um]
    have hv:(xz (.h3 c x.2 (x.2.length:Int) (i:Int) (mm i))).val=if(bif (key i).1!=0 then Q0 (((((x.2.take i).map (ao c)).count (key i)+1:Nat):Int)>1)else Q4)=Q3 then Q1 (.inr (.kb Q3,[]))else Q1 (.inl (.h3 c x.2 (x.2.length:Int) ((i+1:Nat):Int) (mm (i+1)))):=by
      show(xz (.h3 c x.2 _ _ _)).val=_;unfold xz;simp only[k0,k1];rw[show getD x.2[i] (toNat c) (zi zf)=key i from k3.symm];simp only[Q8,zH hi,zu hi,k2,k4,k5,if_true,k6,k7];rw[zq i um]
    by_cases h1:(key i).1=0
    · refine .inl ⟨λh=>absurd h1 h,zR.of ?_⟩
      rw[hv,if_neg (by simp[h1])]
    · by_cases h2:((x.2.take i).map (ao c)).count (key i)=0
      · refine .inl ⟨λ_=>h2,zR.of ?_⟩
        rw[hv,if_neg (by rw[h2];simp)]
      · refine .inr ⟨fun h => h2 (h h1),(.kb true,[]),zV.of ?_,rfl⟩
        rw [hv, if_pos (by have:((key i).1 != 0)=true:=by simpa using h1
                           rw[this];simp only[ag,aN];omega)])
  have hu:(∀i,i<x.2.length->(key i).1≠0->((x.2.take i).map (ao c)).count (key i)=0)↔qJ x.2 c:=by
    unfold qJ;rw[List.pairwise_iff_getElem];constructor
    · intro h j i hj hi hji hne e
      have k3:key i=ao c x.2[i]:=by show ao c (getD x.2 i _)=_;rw[aY,zQ hi,dn]
      have:=h i hi (by rw[k3,<-e];exact hne);rw[List.count_eq_zero,k3,<-e]at this;exact this (bm.2 ⟨_,List.mem_take_iff_getElem.2 ⟨j,ow,rfl⟩,rfl⟩)
    · intro h i hi hne
      have k3:key i=ao c x.2[i]:=by show ao c (getD x.2 i _)=_;rw[aY,zQ hi,dn]
      rw[List.count_eq_zero];intro hmem;obtain⟨r,hr,e⟩:=bm.1 hmem;obtain⟨j,hj,rfl⟩:=List.mem_take_iff_getElem.1 hr;rw[k3]at e hne;exact h j i ow hi ow (by rw[e];exact hne) e
  have hgo:(Ye x c).val=Q1 (.inl (.h3 c x.2 (x.2.length:Int) ((0:Nat):Int) (mm 0))):=rfl;rcases hf with⟨h1,h2⟩|⟨h1,r,h2,h3⟩
  · refine⟨Q4,?_,λ_=>hu.1 h1,λ_=>rfl⟩
    refine zx hgo (h2.ends (zV.of (r:=(.kb Q4,[])) ?_)) ow rfl;show(xz (.h3 c x.2 _ _ _)).val=_;simp only[xz,Q8,zz];rfl
  · refine⟨Q3,zx hgo h2 ow h3,⟨λh=>?_,λh=>absurd (hu.2 h) h1⟩⟩
    cases h
structure gz (x:Sem zh):Prop where
 uq:x.1.2.2.2.1.length<=1000
 rf:x.1.t.1.length<=1000
 rw:x.2.length<=1000
theorem wS(l:List (Sem zh))(s:zA):zS l s=(-1:Int)\/((0:Int)<=zS l s/\LT.lt (α:=Int) (zS l s) l.length):=by
 have:=g8 (λx:Sem zh=>x.1.1==s) l 0;simp at this;exact this
theorem dq{l:List (Sem zh)}{s:zA}(h:(0:Int)<=zS l s):zP (zS l s) (length l)=Q3:=by
 rcases wS l s with h1|⟨h1,h2⟩
 ·rw[h1]at h;omega
 ·simp only[zP,aD,aN];exact⟨h1,h2⟩
theorem aq{α:Type}{l:List α}{d:α}{Q:α->Prop}:(∀i,i<l.length->Q (l.getD i d))↔∀x∈l,Q x:=by
 constructor
 ·intro h x hx;obtain⟨i,hi,rfl⟩:=gY hx;have:=h i hi
  rwa [aY,zQ hi,dn]at this
 ·intro h i hi;rw[aY,zQ hi,dn];exact h _ (bC hi)
theorem bE{α:Type}{l:List α}{d:α}{i:Nat}(hi:i<l.length):l.getD i d∈l:=by
 rw[aY,zQ hi,dn];exact bC hi
theorem pz(i:Nat)(h:i<aE):IntKind.i64.wrap (((i+1:Nat):Int)-1)=(i:Int):=by
 have:aE=9223372036854775807:=rfl;rw[fK];omega
def xL(a b:Sem zf):Prop:=LT.lt (α:=Int) (cJ a b) 0
theorem Nq{a b:Sem zf}:Q0 (GE.ge (α:=Int) (cJ a b) 0)=Q3↔¬xL a b:=by
 unfold xL;rw[aN];omega
structure eJ (x:Sem zh):Prop where
 may:eG x.1=Q3
 few:x.2.length<=200
 fits:∀r∈x.2,dX x.1 r=(0:Int)
 key:qJ x.2 x.1.2.2.1
 uniq:∀u∈x.1.2.2.2.1,qJ x.2 u
 rise:∀i,i<x.2.length-1->xL (ao x.1.2.2.1 (getD x.2 i (zi zf.sl))) (ao x.1.2.2.1 (getD x.2 (i+1) (zi zf.sl)))
def TL(r:aw):Prop:=∃e:Int,r=(.int .i64 e,[])/\e≠0
theorem Jj{x:Sem zh}(hs:gz x):∃e:Int,nl x=Q1 (e,())/\(e=0↔eJ x):=by
 have hsw:=hs.rw;have hsu:=hs.uq;have fin:∀{k:Nat}{r:aw},zV gW k (.h6 x.2 (x.2.length:Int) ((0:Nat):Int) (x,())) r->k<=100000000->(Oi x).val=Q1 (.inl (.h6 x.2 (x.2.length:Int) ((0:Nat):Int) (x,())))->∀e:Int,r=(.int .i64 e,[])->nl x=Q1 (e,()):=by
  intro k r h hk hi e he;subst he;exact zx hi h hk rfl
 by_cases hm:eG x.1=Q3
 case neg=>
  refine⟨1,?_,λh=>(by cases h),λh=>absurd h.may hm⟩;unfold nl al cT;simp only[Oi,zl,Q8];rw[if_pos (by simpa using hm)];rfl
 by_cases hw:x.2.length<=200
 case neg=>
  refine⟨13,?_,λh=>(by cases h),λh=>absurd h.few hw⟩;unfold nl al cT;simp only[Oi,zl,Q8];rw[if_neg (by simpa using hm),if_pos sg];rfl
 have hi:(Oi x).val=Q1 (.inl (.h6 x.2 (x.2.length:Int) ((0:Nat):Int) (x,()))):=by
  simp only[Oi,zl,Q8];rw[if_neg (by simpa using hm),if_neg sg];rfl
 obtain⟨hkc,hrc,huc,_,_⟩:=gP hm;have h6:=lN (t:=gW) (Φ:=TL) 1 (λi=>.h6 x.2 (x.2.length:Int) (i:Int) (x,())) (λi=>dX x.1 (getD x.2 i (zi zf.sl))=(0:Int)) x.2.length (by
  intro i hi _;have hv:(gW (.h6 x.2 (x.2.length:Int) (i:Int) (x,()))).val=if(dX x.1 (getD x.2 i (zi zf.sl))!=0)=Q3 then Q1 (.inr (.int .i64 (dX x.1 (getD x.2 i (zi zf.sl))),[]))else Q1 (.inl (.h6 x.2 (x.2.length:Int) ((i+1:Nat):Int) (x,()))):=by
   show(gW (.h6 x.2 _ _ _)).val=_;unfold gW;simp only[zl,Q8,zH hi,zu hi,if_true,aJ];rw[zq i um]
  by_cases h:dX x.1 (getD x.2 i (zi zf.sl))=(0:Int)
  ·refine .inl ⟨h,zR.of ?_⟩;rw[hv,if_neg (by rw[h];simp)]
  ·refine .inr ⟨h,_,zV.of (by rw[hv,if_pos (by simpa using h)]),_,rfl,h⟩)
 rcases h6 with⟨hf,h6⟩|⟨hf,r,h6,e,he,hne⟩
 case inr=>
  exact⟨e,fin h6 ow hi e he,λh=>absurd h hne,λh=>absurd ((aq (Q:=λr=>dX x.1 r=(0:Int))).2 h.fits) hf⟩
 have hfits:=(aq (Q:=λr=>dX x.1 r=(0:Int))).1 hf;have hlen:∀r∈x.2,length r=x.1.2.1.length:=λr hr=>AX (by simpa using hfits r hr)
 have hin:∀c,CR c x.1.2.1.length->∀r∈x.2,zP c (length r)=Q3:=λc hc r hr=>by
  rw[hlen r hr];exact tw hc
 obtain⟨b,hb,hbu⟩:=Jk (x:=x) (c:=x.1.2.2.1) (hin _ hkc) ow;have hbc:qw x x.1.2.2.1=Q3:=by unfold qw;rw[hb];rfl
 have hbv:wq x x.1.2.2.1=b:=by unfold wq;rw[hb];rfl
 have hv6:(gW (.h6 x.2 (x.2.length:Int) (x.2.length:Int) (x,()))).val=if b=Q3 then Q1 (.inr (.int .i64 7,[]))else Q1 (.inl (.h15 x.1.2.2.2.1 (x.1.2.2.2.1.length:Int) ((0:Nat):Int) (x,()))):=by
  show(gW (.h6 x.2 _ _ _)).val=_;unfold gW;simp only[zl,Q8,zz,hbc,hbv,if_true];rfl
 by_cases hb1:b=Q3
 ·refine⟨7,fin (h6.ends (zV.of (by rw[hv6,if_pos hb1]))) ow hi 7 rfl,λh=>(by cases h),λh=>?_⟩;have:=hbu.2 h.key;rw[hb1]at this;cases this
 have hkey:qJ x.2 x.1.2.2.1:=hbu.1 (by simpa using hb1);have g15:zR gW _ (.h6 x.2 (x.2.length:Int) ((0:Nat):Int) (x,())) _:=h6.trans (zR.of (by rw[hv6,if_neg hb1]));have h15:=lN (t:=gW) (Φ:=TL) 1 (λi=>.h15 x.1.2.2.2.1 (x.1.2.2.2.1.length:Int) (i:Int) (x,())) (λi=>qJ x.2 (getD x.1.2.2.2.1 i (zi zg))) x.1.2.2.2.1.length (by
  intro i hi _;obtain⟨b,hb,hbu⟩:=Jk (x:=x) (c:=getD x.1.2.2.2.1 i (zi zg)) (hin _ (huc _ (bE hi))) ow;have hbc:qw x (getD x.1.2.2.2.1 i (zi zg))=Q3:=by unfold qw;rw[hb];rfl
  have hbv:wq x (getD x.1.2.2.2.1 i (zi zg))=b:=by unfold wq;rw[hb];rfl
  have hv:(gW (.h15 x.1.2.2.2.1 (x.1.2.2.2.1.length:Int) (i:Int) (x,()))).val=if b=Q3 then Q1 (.inr (.int .i64 7,[]))else Q1 (.inl (.h15 x.1.2.2.2.1 (x.1.2.2.2.1.length:Int) ((i+1:Nat):Int) (x,()))):=by
   show(gW (.h15 _ _ _ _)).val=_;unfold gW;simp only[zl,Q8,zH hi,zu hi,if_true,aJ,hbc,hbv];rw[zq i um]
  by_cases h:b=Q3
  ·refine .inr ⟨λhu=>?_,_,zV.of (by rw[hv,if_pos h]),7,rfl,by decide⟩;have:=hbu.2 hu;rw[h]at this;cases this
  ·exact .inl ⟨hbu.1 (by simpa using h),zR.of (by rw[hv,if_neg h])⟩)
 rcases h15 with⟨hq,h15⟩|⟨hq,r,h15,e,he,hne⟩
 case inr=>
  exact⟨e,fin (g15.ends h15) ow hi e he,λh=>absurd h hne,λh=>absurd ((aq (Q:=λu=>qJ x.2 u)).2 h.uniq) hq⟩
 have huniq:=(aq (Q:=λu=>qJ x.2 u)).1 hq;have hv15:(gW (.h15 x.1.2.2.2.1 (x.1.2.2.2.1.length:Int) (x.1.2.2.2.1.length:Int) (x,()))).val=Q1 (.inl (.h21 ((0+1:Nat):Int) (x,()))):=by
  show(gW (.h15 _ _ _ _)).val=_;unfold gW;simp only[Q8,zz];rfl
 have g21:=(g15.trans h15).trans (zR.of hv15);have h21:=lN (t:=gW) (Φ:=TL) 1 (λi=>.h21 ((i+1:Nat):Int) (x,())) (λi=>xL (ao x.1.2.2.1 (getD x.2 i (zi zf.sl))) (ao x.1.2.2.1 (getD x.2 (i+1) (zi zf.sl)))) (x.2.length-1) (by
  intro i hi _;have h1:i<x.2.length:=by omega
  have h2:i+1<x.2.length:=by omega
  have hv:(gW (.h21 ((i+1:Nat):Int) (x,()))).val=if Q0 (GE.ge (α:=Int) (cJ (ao x.1.2.2.1 (getD x.2 i (zi zf.sl))) (ao x.1.2.2.1 (getD x.2 (i+1) (zi zf.sl)))) 0)=Q3 then Q1 (.inr (.int .i64 15,[]))else Q1 (.inl (.h21 ((i+1+1:Nat):Int) (x,()))):=by
   show(gW (.h21 _ _)).val=_;unfold gW;simp only[pz i um];simp only[Q8,zH h2,zu h2,zu h1,aJ,hin _ hkc _ (bE h1),hin _ hkc _ (bE h2),if_true];rw[zq (i+1) um]
  by_cases h:xL (ao x.1.2.2.1 (getD x.2 i (zi zf.sl))) (ao x.1.2.2.1 (getD x.2 (i+1) (zi zf.sl)))
  ·exact .inl ⟨h,zR.of (by rw[hv,if_neg (λh2=>Nq.1 h2 h)])⟩
  ·exact .inr ⟨h,_,zV.of (by rw[hv,if_pos (Nq.2 h)]),15,rfl,by decide⟩)
 rcases h21 with⟨hr,h21⟩|⟨hr,r,h21,e,he,hne⟩
 case inr=>
  exact⟨e,fin (g21.ends h21) ow hi e he,λh=>absurd h hne,λh=>absurd h.rise hr⟩
 have hv21:(gW (.h21 ((x.2.length-1+1:Nat):Int) (x,()))).val=Q1 (.inr (.int .i64 0,[])):=by
  show(gW (.h21 _ _)).val=_;unfold gW;simp only[Q8];rw[if_neg sg]
 exact⟨0,fin (g21.ends (h21.ends (zV.of hv21))) ow hi 0 rfl,λ_=>⟨hm,hw,hfits,hkey,huniq,hr⟩,λ_=>rfl⟩
def lD(v:Sem zf):Prop:=LE.le (α:=Int) (-9223372036854775808) v.2.1/\LE.le (α:=Int) v.2.1 9223372036854775807/\v.2.2.length<=1000000
theorem bH:∀s:zA,Op.bytesLess s s=Q4
 |[]=>rfl
 |a::r=>by simp[Op.bytesLess,bH r]
theorem OC(s:zA):(oT s<0)↔∀b∈s,32<=b.toNat/\b.toNat<=126:=by
 refine Sj (p:=λr=>Bn r) (λc=>?_) s;unfold Bn;cases h:Q0 ((c:Int)<32)with
 |true=>simp at h⊢;omega
 |false=>simp at h⊢;omega
theorem VR(b0 b1 b2 b3 c0 c1 e l:Bool):∃r,(if b0=Q3 then Q1 (.inr (.bool (bif c0 then e else Q4),[]))else if b1=Q3 then Q1 (.inr (.bool e,[]))else if b2=Q3 then Q1 (.inr (.bool (bif c0 then l else Q4),[]))else if b3=Q3 then Q1 (.inr (.bool (bif c0 then e else bif c1 then e else Q4),[]))else Q1 (.inr (.kb Q4,[])):Option (yV⊕aw))=Q1 (.inr r)/\
  aL r.2 [Sh.bool] r.1=Q1 ((if b0=Q3 then if(!c0)=Q3 then Q4 else e else if b1=Q3 then e else if b2=Q3 then bif c0 then bif l then Q3 else Q4 else Q4 else if b3=Q3 then bif c0 then e else bif c1 then e else Q4 else Q4:Bool),()):=by
 cases b0<;>cases b1<;>cases b2<;>cases b3<;>cases c0<;>cases c1<;>cases e<;>cases l<;>exact⟨_,rfl,rfl⟩
theorem VQ(b0 b1 b2 b3 c0 c1 l:Bool):(if b0=Q3 then if(!c0)=Q3 then Q4 else Q4 else if b1=Q3 then Q4 else if b2=Q3 then bif c0 then bif l then Q4 else Q4 else Q4 else if b3=Q3 then bif c0 then Q4 else bif c1 then Q4 else Q4 else Q4)=Q4:=by
 cases b0<;>cases b1<;>cases b2<;>cases b3<;>cases c0<;>cases c1<;>cases l<;>rfl
theorem IZ{v:Sem zf}(hl:v.2.2.length<=1000000):F8 v=Q1 (bd v,()):=by
 obtain⟨k,n,s⟩:=v;have hl:s.length<=1000000:=hl;have hf:=lN (t:=ru) (Φ:=λr=>r=(.kb Q4,[])) 1 (λi=>.h2 (i:Int) ((k,n,s),())) (λi=>32<=(getD s i 0).toNat/\(getD s i 0).toNat<=126) s.length (by
  intro i hi _;have hv:(ru (.h2 (i:Int) ((k,n,s),()))).val=if(bif Q0 (((getD s i 0).toNat:Int)<32)then Q3 else Q0 (((getD s i 0).toNat:Int)>126))=Q3 then Q1 (.inr (.kb Q4,[]))else Q1 (.inl (.h2 ((i+1:Nat):Int) ((k,n,s),()))):=by
   show(ru (.h2 _ _)).val=_;unfold ru;simp only[Q8,zH hi,zu hi,aJ,if_true];rw[if_pos (by cases Q0 (((getD s i 0).toNat:Int)<32)<;>rfl)];rw[zq i um]
  by_cases h1:(getD s i 0).toNat<32
  ·refine .inr ⟨λh=>by omega,_,zV.of (by rw[hv,if_pos (by rw[zt ow];rfl)]),rfl⟩
  ·by_cases h2:126<(getD s i 0).toNat
   ·refine .inr ⟨λh=>by omega,_,zV.of (by rw[hv,if_pos (by rw[ah ow,zt ow];rfl)]),rfl⟩
   ·refine .inl ⟨ow,zR.of (by rw[hv,if_neg (by rw[ah ow,ah ow];simp)])⟩)
 have hi:(Yb (k,n,s)).val=Q1 (.inl (.h2 ((0:Nat):Int) ((k,n,s),()))):=rfl;have ho:=OC s;have hq:=aq (l:=s) (d:=0) (Q:=λb=>32<=b.toNat/\b.toNat<=126);rcases hf with⟨h1,h2⟩|⟨h1,r,h2,rfl⟩
 ·have ho2:Q0 (oT s<0)=Q3:=zt (ho.2 (hq.1 h1));have hv:(ru (.h2 (s.length:Int) ((k,n,s),()))).val=(if(k==0)=Q3 then Q1 (.inr (.bool (bif (n==0)then(s==[])else Q4),[]))else if(k==1)=Q3 then Q1 (.inr (.bool (s==[]),[]))else if(k==2)=Q3 then Q1 (.inr (.bool (bif (n==0)then Q0 ((length s:Int)<=40)else Q4),[]))else if(k==3)=Q3 then Q1 (.inr (.bool (bif (n==0)then(s==[])else bif (n==1)then(s==[])else Q4),[]))else Q1 (.inr (.kb Q4,[]))):=by
   show(ru (.h2 _ _)).val=_;unfold ru;simp only[Q8,zz];rw[if_neg sw]
  obtain⟨r,hr1,hr2⟩:=VR (k==0) (k==1) (k==2) (k==3) (n==0) (n==1) (s==[]) (Q0 ((length s:Int)<=40));have hm:bd (k,n,s)=(if(k==0)=Q3 then if(!(n==0))=Q3 then Q4 else(s==[])else if(k==1)=Q3 then(s==[])else if(k==2)=Q3 then bif (n==0)then bif Q0 ((length s:Int)<=40)then Q3 else Q4 else Q4 else if(k==3)=Q3 then bif (n==0)then(s==[])else bif (n==1)then(s==[])else Q4 else Q4):=by
   simp only[bd,ho2];rfl
  rw[hm];exact zx hi (h2.ends (zV.of (hv.trans hr1))) ow hr2
 ·have ho2:Q0 (oT s<0)=Q4:=ah (λh=>h1 (hq.2 (ho.1 h)));have hs:(s==[])=Q4:=by
   cases s with
   |nil=>exact absurd (λi hi=>absurd hi sw) h1
   |cons _ _=>rfl
  have hm:bd (k,n,s)=Q4:=by
   simp only[bd,ho2,hs];exact VQ (k==0) (k==1) (k==2) (k==3) (n==0) (n==1) (Q0 ((length s:Int)<=40))
  rw[hm];exact zx hi h2 ow rfl
theorem kD{v:Sem zf}(hl:v.2.2.length<=1000000):lH v=Q3:=by unfold lH;rw[IZ hl];rfl
theorem m7{v:Sem zf}(hl:v.2.2.length<=1000000):rr v=bd v:=by unfold rr;rw[IZ hl];rfl
theorem EI{v:Sem zf}(hl:v.2.2.length<=1000000):tW v=Q1 (ap v,()):=by
 unfold tW al cT;simp only[Yd,Q8,kD hl,m7 hl,if_true,ap];cases bd v<;>rfl
theorem qe{v:Sem zf}(hl:v.2.2.length<=1000000):qd v=Q3:=by unfold qd;rw[EI hl];rfl
theorem tX{v:Sem zf}(hl:v.2.2.length<=1000000):eS v=ap v:=by unfold eS;rw[EI hl];rfl
def wB(b:Bool):Sem zf:=if b then(3,1,[])else(3,0,[])
theorem BH(b:Bool):tV b=Q1 (wB b,()):=by cases b<;>rfl
theorem m8(b:Bool):kE b=Q3:=by unfold kE;rw[BH];rfl
theorem gQ(b:Bool):aT b=wB b:=by unfold aT;rw[BH];rfl
def Hf(v:Sem zf)(n:Int):Bool:=v.1==3&&(v.2.1==n&&(v.2.2==[]&&Q3))
theorem MY(v:Sem zf)(b:Bool):IY v b=Q1 (Hf v (bif b then 1 else 0),()):=by
 unfold IY al cT;simp only[Yc,Q8,m8,gQ,if_true];cases b<;>rfl
theorem yj(v:Sem zf)(b:Bool):mf v b=Q3:=by unfold mf;rw[MY];rfl
theorem F6(v:Sem zf)(b:Bool):o5 v b=Hf v (bif b then 1 else 0):=by unfold o5;rw[MY];rfl
theorem mC:aP 0=(0,0,[]):=by decide
theorem kN:aP 1=(3,0,[]):=by decide
theorem kO:aP 2=(3,1,[]):=by decide
theorem jc(v:Sem zf):(dP v==1)=Hf v 0/\(dP v==2)=Hf v 1:=by
 obtain⟨k,n,s⟩:=v;unfold dP Hf;simp only[bd];by_cases hk:k=3
 ·subst hk;by_cases h0:n=0
  ·subst h0;cases hs:(s==[])<;>simp[fK]
  ·by_cases h1:n=1
   ·subst h1;cases hs:(s==[])<;>simp[fK]
   ·have e0:(n==0)=Q4:=by simpa using h0
    have e1:(n==1)=Q4:=by simpa using h1
    simp[e0,e1]
 ·have e:(k==3)=Q4:=by simpa using hk
  have e':(k !=3)=Q3:=by simpa using hk
  simp[e,e']
theorem IX(a b:Sem zf):BA a b=Q1 (Df a b,()):=by
 unfold BA al cT;simp only[Yj,Q8,yj,F6,gQ,Df,(jc a).1,(jc a).2,(jc b).1,(jc b).2,mC,kN,kO,ay,ag];cases Hf a 0<;>cases Hf b 0<;>cases Hf a 1<;>cases Hf b 1<;>rfl
theorem M0(a b:Sem zf):I1 a b=Q1 (TR a b,()):=by
 unfold I1 al cT;simp only[Yk,Q8,yj,F6,gQ,TR,(jc a).1,(jc a).2,(jc b).1,(jc b).2,mC,kN,kO,ay,ag];cases Hf a 0<;>cases Hf b 0<;>cases Hf a 1<;>cases Hf b 1<;>rfl
theorem I0(a:Sem zf):BD a=Q1 (xM a,()):=by
 unfold BD al cT;simp only[Yi,Q8,yj,F6,gQ,xM,(jc a).1,(jc a).2,mC,kN,kO,ay,ag];cases Hf a 0<;>cases Hf a 1<;>rfl
theorem R0(k k' n n':Int)(s s':zA):(if(k==k'&&(n==n'&&(s==s'&&Q3)))=Q3 then(0:Int)else if(bif Q0 (k<k')then Q3 else bif k==k' then bif Q0 (n<n')then Q3 else bif n==n' then Op.bytesLess s s' else Q4 else Q4)=Q3 then -1 else 1)=FW [rL k k',kg n n',nS s s']:=by
 simp only[FW,rL,kg,nS];rcases Ad k k' with h|h|h
 ·have c1:(k==k')=Q4:=bP.2 ow;simp[c1,h]
 ·subst h;rcases Ad n n' with h|h|h
  ·have c1:(n==n')=Q4:=bP.2 ow;simp[c1,h]
  ·subst h;by_cases hs:s=s'
   ·subst hs;simp[bH]
   ·have c1:(s==s')=Q4:=bP.2 hs;by_cases hl:Op.bytesLess s s'=Q3
    ·simp[c1,hl]
    ·simp[c1,hl]
  ·have c1:(n==n')=Q4:=bP.2 ow;have c2:¬n<n':=by omega
   simp[c1,c2,h]
 ·have c1:(k==k')=Q4:=bP.2 ow;have c2:¬k<k':=by omega
  simp[c1,c2,h]
theorem BF{a b:Sem zf}(ha:a.2.2.length<=1000000)(hb:b.2.2.length<=1000000):o7 a b=Q1 (cJ a b,()):=by
 unfold o7 al cT;simp only[zgr,Q8,qe ha,qe hb,tX ha,tX hb,if_true,cJ];rw[<-R0];generalize((ap a).1==(ap b).1&&((ap a).2.1==(ap b).2.1&&((ap a).2.2==(ap b).2.2&&Q3)))=b1;generalize(bif Q0 ((ap a).1<(ap b).1)then Q3 else bif (ap a).1==(ap b).1 then bif Q0 ((ap a).2.1<(ap b).2.1)then Q3 else bif (ap a).2.1==(ap b).2.1 then Op.bytesLess (ap a).2.2 (ap b).2.2 else Q4 else Q4)=b2;cases b1<;>cases b2<;>rfl
theorem ac{α:Type}(l:List α)(d:α){i:Nat}(h:i<l.length):l.getD ((i:Int).toNat) d=l[i]:=by
 rw[aJ,aY,zQ h,dn]
theorem tq{α:Type}(l:List α)(d:α){i:Nat}(h:i<l.length):l.getD i d∈l:=by
 rw[aY,zQ h,dn];exact bC h
def bG(f w:zA):List zA:=if(w==[])=Q3 then[f]else[f,w]
def dL(db:List (Sem zh))(ns:List zA):Bool:=db.any λx=>!az ns x.1.1&&Q0 (GE.ge (α:=Int) (ae (λf:Sem zr=>az ns f.2) x.1.t.1 0) 0)
def nt(db:List (Sem zh))(f w t:zA):Int:=
 if∀n∈bG f w,LE.le (α:=Int) 0 (zS db n)then(if(Q0 (GE.ge (α:=Int) (zS db t) 0)||f==w)=Q3 then 7 else if dL db (bG f w)=Q3 then 10 else 0)else 6
def XI(y:zn be)(y':zn be):Prop:=
 (0:Int)<=zS y.1 y.t.2.1/\(y.t.q.1=[]\/(0:Int)<=zS y.1 y.t.q.1)/\LT.lt (α:=Int) (zS y.1 y.2.1.2.1) 0/\y.t.2.1≠y.t.q.1/\
 y'.2.2.1=(getD y.1 (toNat (zS y.1 y.t.2.1)) (zi zh)).1/\
 y'.2.2.2.1=(if y.t.q.1=[]then y.2.2.2.1 else(getD y.1 (toNat (zS y.1 y.t.q.1)) (zi zh)).1)
def UR(y:zn be)(r:aw):Prop:=∃(e:Int)(y':zn be),r=(.int .i64 e,ar be y')/\y'.1=y.1/\y'.2.1=y.2.1/\y'.t=y.t/\e=nt y.1 y.t.2.1 y.t.q.1 y.2.1.2.1/\(e=0->XI y y')
theorem ziI(y:zn be)(ns:List zA)(hl:length y.1<=1000000)(h1:(0:Int)<=zS y.1 y.t.2.1)(h2:y.t.q.1=[]\/(0:Int)<=zS y.1 y.t.q.1)(h3:LT.lt (α:=Int) (zS y.1 y.2.1.2.1) 0)(h4:y.t.2.1≠y.t.q.1)(hE:nt y.1 y.t.2.1 y.t.q.1 y.2.1.2.1=if dL y.1 ns=Q3 then 10 else 0)(n:Nat)(hn:1+length y.1<=n):
  ∃r,cP Cy n (.h11 y.1 (length y.1:Int) 0 y ns)=Q1 r/\UR y r:=by
 refine dc (t:=Cy) (β:=Unit) (length y.1) (λ_ i=>.h11 y.1 (length y.1:Int) (i:Int) y ns) (λ_ i=>∀j(hj:j<length y.1),j<i->(!az ns y.1[j].1.1&&Q0 (GE.ge (α:=Int) (ae (λf:Sem zr=>az ns f.2) y.1[j].1.t.1 0) 0))=Q4) (UR y) 1 ?_ ?_ (length y.1) 0 () n rfl (ba _) (λj _ h=>by omega) hn
 ·intro b i hi hI;simp only[Cy,GX,Cz,Q8,zH hi,zu hi,if_true,ac y.1 _ hi];rw[zq i um];have hnext:(!az ns y.1[i].1.1&&Q0 (GE.ge (α:=Int) (ae (λf:Sem zr=>az ns f.2) y.1[i].1.t.1 0) 0))=Q4->∀j(hj:j<length y.1),j<i+1->(!az ns y.1[j].1.1&&Q0 (GE.ge (α:=Int) (ae (λf:Sem zr=>az ns f.2) y.1[j].1.t.1 0) 0))=Q4:=by
   intro h j hj hji;by_cases hji2:j=i
   ·subst hji2;exact h
   ·exact hI j hj ow
  by_cases c1:(!az ns y.1[i].1.1)=Q3
  ·simp only[c1,if_true];split
   ·rename_i c2;refine Or.inr ⟨_,rfl,10,y,rfl,rfl,rfl,rfl,?_,λh=>by cases h⟩;have hr:dL y.1 ns=Q3:=by
     unfold dL;exact List.any_eq_true.2 ⟨y.1[i],bC hi,by rw[c1];simpa using c2⟩
    rw[hE,if_pos hr]
   ·rename_i c2;exact Or.inl ⟨(),hnext (by rw[c1];simpa using c2),rfl⟩
  ·simp only[c1];exact Or.inl ⟨(),hnext (by simp only[gJ]at c1;rw[c1];rfl),rfl⟩
 ·intro b n hI hn;have hr:dL y.1 ns=Q4:=by
   unfold dL;rw[List.any_eq_false];intro x hx;obtain⟨j,hj,rfl⟩:=gY hx;rw[hI j hj hj];simp
  rw[hr]at hE
  replace hE:=hE.symm
  simp only[zG,if_false]at hE;obtain⟨n,rfl⟩:∃k,n=k+1:=⟨n-1,ow⟩;rw[cA];simp only[Cy,GX,Cz,Q8,zz,dq h1,if_true];by_cases c1:(!y.t.q.1==[])=Q3
  ·have hne:y.t.q.1≠[]:=by simpa using c1
   have hb:(0:Int)<=zS y.1 y.t.q.1:=h2.resolve_left hne;simp only[c1,if_true,dq hb];refine⟨_,rfl,0,_,rfl,rfl,rfl,rfl,hE,λ_=>⟨h1,h2,h3,h4,rfl,?_⟩⟩;simp[hne]
  ·have he:y.t.q.1=[]:=by simpa using c1
   simp only[c1];refine⟨_,rfl,0,_,rfl,rfl,rfl,rfl,hE,λ_=>⟨h1,h2,h3,h4,rfl,?_⟩⟩;simp[he]
theorem zli(y:zn be)(ns:List zA)(hns:ns=bG y.t.2.1 y.t.q.1)(hl:length y.1<=1000000)(n:Nat)(hn:2+length y.1+ns.length<=n):
  ∃r,cP Cy n (.h3 ns (length ns:Int) 0 y ns)=Q1 r/\UR y r:=by
 have hnl:ns.length<=2:=by rw[hns];unfold bG;split<;>simp
 refine dc (t:=Cy) (β:=Unit) ns.length (λ_ i=>.h3 ns (length ns:Int) (i:Int) y ns) (λ_ i=>∀j(hj:j<ns.length),j<i->(0:Int)<=zS y.1 ns[j]) (UR y) (2+length y.1) ?_ ?_ ns.length 0 () n rfl (ba _) (λj _ h=>by omega) hn
 ·intro b i hi hI;simp only[Cy,Ls,GY,Q8,zH hi,zu hi,if_true,ac ns _ hi];rw[zq i um];by_cases c1:(0:Int)<=zS y.1 ns[i]
  ·have:Q0 (LT.lt (α:=Int) (zS y.1 ns[i]) 0)=Q4:=by simpa using c1
   simp only[this];refine Or.inl ⟨(),λj hj hji=>?_,rfl⟩;by_cases hji2:j=i
   ·subst hji2;exact c1
   ·exact hI j hj ow
  ·have:Q0 (LT.lt (α:=Int) (zS y.1 ns[i]) 0)=Q3:=by simpa using c1
   simp only[this,if_true];refine Or.inr ⟨_,rfl,6,y,rfl,rfl,rfl,rfl,?_,λh=>by cases h⟩;unfold nt;rw[if_neg];intro h;exact c1 (h _ (by rw[<-hns];exact bC hi))
 ·intro b n hI hn;obtain⟨n,rfl⟩:∃k,n=k+1:=⟨n-1,ow⟩;have hA:∀n∈bG y.t.2.1 y.t.q.1,LE.le (α:=Int) 0 (zS y.1 n):=by
   intro x hx;rw[<-hns]at hx;obtain⟨j,hj,rfl⟩:=gY hx;exact hI j hj hj
  have hE:nt y.1 y.t.2.1 y.t.q.1 y.2.1.2.1=if(Q0 (GE.ge (α:=Int) (zS y.1 y.2.1.2.1) 0)||y.t.2.1==y.t.q.1)=Q3 then 7 else if dL y.1 ns=Q3 then 10 else 0:=by
   unfold nt;rw[if_pos hA,<-hns]
  have h1:(0:Int)<=zS y.1 y.t.2.1:=hA _ (by unfold bG;split<;>simp);have h2:y.t.q.1=[]\/(0:Int)<=zS y.1 y.t.q.1:=by
   by_cases hw:(y.t.q.1==[])=Q3
   ·left;simpa using hw
   ·right;exact hA _ (by unfold bG;rw[if_neg hw];simp)
  rw[cA];simp only[Cy,Ls,GY,Q8,zz];by_cases c1:(bif Q0 (GE.ge (α:=Int) (zS y.1 y.2.1.2.1) 0)then Q3 else y.t.2.1==y.t.q.1)=Q3
  ·simp only[c1,if_true];refine⟨_,rfl,7,y,rfl,rfl,rfl,rfl,?_,λh=>by cases h⟩;rw[hE,if_pos (by revert c1;cases Q0 (GE.ge (α:=Int) (zS y.1 y.2.1.2.1) 0)<;>exact id)]
  ·simp only[c1];have hd:Q0 (GE.ge (α:=Int) (zS y.1 y.2.1.2.1) 0)=Q4:=by
    cases hh:Q0 (GE.ge (α:=Int) (zS y.1 y.2.1.2.1) 0)with
    |false=>rfl
    |true=>rw[hh]at c1;simp at c1
   rw[hd]at c1;refine ziI y ns hl h1 h2 (by simpa using hd) (by simpa using c1) ?_ n ow;rw[hE,hd,if_neg (by simpa using c1)]
theorem IF(y:zn be)(hl:length y.1<=1000000):∃(e:Int)(y':zn be),pR y=Q1 ((e,()),y')/\y'.1=y.1/\y'.2.1=y.2.1/\y'.t=y.t/\e=nt y.1 y.t.2.1 y.t.q.1 y.2.1.2.1/\(e=0->XI y y'):=by
 have hps:kB (y.t.1,y.t.2.1,y.t.q.1,(y.t.q.2.1,[],y.t.t.1,[],[],zm y.t.t.2.1),[],y.t.t.q.1)=bG y.t.2.1 y.t.q.1:=rfl;obtain⟨r,h1,e,y',rfl,h2⟩:=zli y _ hps hl 100000000 (by
  have:length (kB (y.t.1,y.t.2.1,y.t.q.1,(y.t.q.2.1,[],y.t.t.1,[],[],zm y.t.t.2.1),[],y.t.t.q.1))<=2:=by rw[hps];unfold bG;split<;>simp
  omega)
 refine⟨e,y',?_,h2⟩;unfold pR kA cT;simp only[Vz,Q8];rw[h1];exact cO (outs:=[zg]) (r:=.int .i64 e) (a:=(e,())) y' rfl
theorem wA{i n:Nat}(h:i<n):Q0 ((i:Int).toNat<n)=Q3:=by simpa using h
def uI(t:Sem zo):Int:=
 if∃i,i<length t.2.1/\zN t (getD t.2.1 i (zi zj)).1≠(i:Int)then 7 else if(t.t.2.op==[])=Q3 then 0
 else if(bif (bD t.t.2 t.2.1).2==0 then bif (bD t.t.2 t.2.1).1!=3 then(bD t.t.2 t.2.1).1!=0 else Q4 else Q4)=Q3 then 5 else(bD t.t.2 t.2.1).2
abbrev No(y:zn aj):Sem zo:=(y.t.q.2.1,y.t.t.1,y.t.t.2.1,[],[],y.t.t.q.1)
theorem sm(y:zn aj)(hl:y.t.t.1.length<=1000000):tE y=Q1 ((uI (No y),()),y):=by
 have h:=dc (t:=JE) (β:=Unit) y.t.t.1.length (λ_ i=>.h2 (y.t.t.1.length:Int) (i:Int) y) (λ_ i=>∀j,j<i->j<length y.t.t.1->zN (No y) (getD y.t.t.1 j (zi zj)).1=(j:Int)) (λr=>r=(.int .i64 (uI (No y)),ar aj y)) 1 (by
   intro b i hi hI;simp only[JE,Lt,GZ,Q8,zH hi,zu hi,zt hi,if_true,zl,aJ];rw[zq i um];by_cases c:(zN (No y) (getD y.t.t.1 i (zi zj)).1!=(i:Int))=Q3
   ·simp only[c,if_true];refine Or.inr ⟨_,rfl,?_⟩;unfold uI;rw[if_pos ⟨i,hi,by simpa using c⟩]
   ·simp only[c];refine Or.inl ⟨(),λj hj hl=>?_,rfl⟩;by_cases h:j=i
    ·subst h;simpa using c
    ·exact hI j ow hl) (by
   intro b n hI hn;obtain⟨n,rfl⟩:∃k,n=k+1:=⟨n-1,ow⟩;have h0:¬∃i,i<length (No y).2.1/\zN (No y) (getD (No y).2.1 i (zi zj)).1≠(i:Int):=by
    rintro⟨i,hi,h⟩;exact h (hI i hi hi)
   have hv:(JE (.h2 (y.t.t.1.length:Int) (y.t.t.1.length:Int) y)).val=Q1 (.inr (.int .i64 (uI (No y)),ar aj y)):=by
    simp only[JE,Lt,GZ,Q8,zz,zl];unfold uI;rw[if_neg h0];split
    ·simp_all
    ·split
     ·rfl
     ·split<;>rfl
   rw[cA,hv];exact⟨_,rfl,rfl⟩)
  y.t.t.1.length 0 () 100000000 rfl (ba _) (λj h=>by omega) ow
 obtain⟨r,h1,rfl⟩:=h;unfold tE kA cT;simp only[VA,Q8];have h1':cP JE 100000000 (.h2 (y.t.t.1.length:Int) 0 y)=Q1 (.int .i64 (uI (No y)),ar aj y):=h1;rw[h1'];exact cO (outs:=[zg]) (r:=.int .i64 (uI (No y))) (a:=(uI (No y),())) y rfl
theorem uG(t:Sem zo)(s:zA):zN t s=(-1:Int)\/((0:Int)<=zN t s/\LT.lt (α:=Int) (zN t s) (length t.2.1)):=by
 have:=g8 (λc:Sem zj=>c.1==s) t.2.1 0;unfold zN;simpa using this
theorem pO{t:Sem zo}{s:zA}(h:¬LT.lt (α:=Int) (zN t s) 0):zP (zN t s) (length t.2.1)=Q3:=by
 rcases uG t s with h1|⟨h1,h2⟩
 ·rw[h1]at h;simp at h
 ·simp only[zP,aD,aN];exact⟨h1,h2⟩
theorem xj(x:Int):∀(l:List Int)(i:Nat),GE.ge (α:=Int) (ez x l (i:Int)) 0↔x∈l
 | [],i=>by
  rw[ez];exact⟨λh=>absurd h (by decide),λh=>by cases h⟩
 | a::r,i=>by
  rw[ez];split
  ·rename_i h;have:x=a:=by simpa using h
   subst this;exact⟨λ_=>sJ,λ_=>Int.natCast_nonneg i⟩
  ·rename_i h;have:=xj x r (i+1);rw[sM]at this;rw[ce];refine⟨λh2=>.inr (this.1 h2),λh2=>this.2 (h2.resolve_left ?_)⟩;rintro rfl;simp at h
theorem se(l:List Int)(x:Int):sb l x=Q3↔x∈l:=by
 unfold sb;rw[decide_eq_true_iff];exact xj x l 0
def fT(t:Sem zo)(names:List zA):Int:=if∀s∈names,¬LT.lt (α:=Int) (zN t s) 0 then(if(names.map (zN t)).Nodup then 0 else 7)else 4
theorem Bm{l:List Int}{x:Int}:(l++[x]).Nodup↔l.Nodup/\x∉l:=by
 rw[List.nodup_append];simp;intro _;exact⟨λh h2=>h x h2 rfl,λh y hy e=>h (e▸hy)⟩
theorem bZ{α:Type}{l:List α}{i:Nat}(h:i<l.length):l.take (i+1)=l.take i++[l[i]]:=by
 rw[List.take_add_one,zQ h];rfl
def JY(y:zn be)(z:zn dG):Prop:=z.1=y.1/\z.2.1=y.2.1/\z.2.2.1=y.2.2.1/\z.2.2.2.1=y.2.2.2.1/\z.t.1=y.t.1/\z.t.2.1=y.t.2.1/\z.t.q.1=y.t.q.1/\z.t.q.2.1=y.t.q.2.1/\
 z.t.t.2.1=y.t.t.1/\z.t.t.q.1=y.t.t.2.1/\z.t.t.t=y.t.t.q
abbrev fS(z:zn dG):List (Sem zj):=z.t.t.1
abbrev eR(z:zn dG):List (Sem zg):=z.t.t.q.2.1
def NmI(y:zn be)(l:List zA)(z:zn dG):Prop:=JY y z/\eR z=l.map (λs=>zN y.2.2.1 s)/\fS z=l.map (λs=>getD y.2.2.1.2.1 (toNat (zN y.2.2.1 s)) (zi zj))/\∀s∈l,¬LT.lt (α:=Int) (zN y.2.2.1 s) 0
def NmR(y:zn be)(r:aw):Prop:=∃(e:Int)(z:zn dG),r=(.int .i64 e,ar aj z)/\JY y z/\e=fT y.2.2.1 y.2.1.2.2.2.1/\(e=0->NmI y y.2.1.2.2.2.1 z)/\(fS z).length<=1000000
theorem zhl(y:zn be)(z:zn dG)(hz:NmI y y.2.1.2.2.2.1 z)(hE:fT y.2.2.1 y.2.1.2.2.2.1=if(eR z).Nodup then 0 else 7)(hl:(eR z).length<=1000000)(m:Nat):∀(i n:Nat),(eR z).length-i=m->i<=(eR z).length->((eR z).take i).Nodup->1+m<=n->∃r,cP pl n (.h12b ((eR z).length:Int) (i:Int) z)=Q1 r/\NmR y r:=by
 intro i n hm hi hnd hn;have hcl:(fS z).length<=1000000:=by
  have:=hl;rw[hz.2.1,cN]at this;rw[hz.2.2.1,cN];exact this
 refine dc (t:=pl) (β:=Unit) (eR z).length (λ_ i=>.h12b ((eR z).length:Int) (i:Int) z) (λ_ i=>((eR z).take i).Nodup) (NmR y) 1 ?_ ?_ m i () n hm hi hnd hn
 ·intro b i hi hI;have hd:(Q0 (0<=0)&&Q0 ((0:Int)<=(i:Int))&&Q0 ((i:Int)<=((eR z).length:Int)))=Q3:=by simp;omega
  simp only[pl,CB,wz,Q8,zH hi,zu hi,if_true,hd];rw[zq i um];rw[show List.take (toNat (i:Int)-toNat 0) (List.drop (toNat 0) z.t.t.q.2.1)=(eR z).take i by simp,show z.t.t.q.2.1.getD (toNat (i:Int)) (zi zg)=(eR z)[i]from ac (eR z) _ hi];split
  ·rename_i c;refine Or.inr ⟨_,rfl,7,z,rfl,hz.1,?_,λh=>(by cases h),hcl⟩;rw[hE,if_neg];intro hN;have h2:((eR z).take (i+1)).Nodup:=hN.sublist (List.take_sublist _ _);rw[bZ hi,Bm]at h2;exact h2.2 ((se _ _).1 c)
  ·rename_i c;refine Or.inl ⟨(),?_,rfl⟩;show((eR z).take (i+1)).Nodup;rw[bZ hi,Bm];exact⟨hI,λh=>c ((se _ _).2 h)⟩
 ·intro b n hI hn;rw[jE]at hI;obtain⟨n,rfl⟩:∃k,n=k+1:=⟨n-1,ow⟩;rw[cA];simp only[pl,CB,wz,Q8,zz];exact⟨_,rfl,0,z,rfl,hz.1,by rw[hE,if_pos hI],λ_=>hz,hcl⟩
theorem zla(y:zn be)(z:zn dG)(hz:NmI y y.2.1.2.2.2.1 z)(hE:fT y.2.2.1 y.2.1.2.2.2.1=if(eR z).Nodup then 0 else 7)(hl:(eR z).length<=1000000)(n:Nat)(hn:2+(eR z).length<=n):∃r,cP pl n (.h12 ((eR z).length:Int) 0 z)=Q1 r/\NmR y r:=by
 have hcl:(fS z).length<=1000000:=by
  have:=hl;rw[hz.2.1,cN]at this;rw[hz.2.2.1,cN];exact this
 obtain⟨n,rfl⟩:∃k,n=k+1:=⟨n-1,ow⟩;rw[cA];by_cases h:0<(eR z).length
 ·have hd:(Q0 (0<=0)&&Q0 ((0:Int)<=((0:Nat):Int))&&Q0 (((0:Nat):Int)<=((eR z).length:Int)))=Q3:=by simp
  have hv:(∃r,(pl (.h12 ((eR z).length:Int) ((0:Nat):Int) z)).val=Q1 (.inr r)/\NmR y r)\/(pl (.h12 ((eR z).length:Int) ((0:Nat):Int) z)).val=Q1 (.inl (.h12b ((eR z).length:Int) ((1:Nat):Int) z)):=by
   simp only[pl,G1,CC,Q8,zH h,zu h,wA h,if_true,hd];rw[zq 0 um];split
   ·rename_i c;exact absurd ((se _ _).1 c) sw
   ·exact Or.inr rfl
  rw[Int.ofNat_zero]at hv;rcases hv with⟨r,h1,h2⟩|h1
  ·rw[h1];exact⟨r,rfl,h2⟩
  ·rw[h1];exact zhl y z hz hE hl _ 1 n rfl ow (by rw[bZ h];simp) ow
 ·have h0:(eR z).length=0:=by omega
  have hv:(pl (.h12 ((eR z).length:Int) 0 z)).val=Q1 (.inr (.int .i64 0,ar aj z)):=by
   rw[h0];simp[pl,G1,CC,Q8]
  rw[hv];exact⟨_,rfl,0,z,rfl,hz.1,by rw[hE,if_pos (by rw[xE h0];exact List.nodup_nil)],λ_=>hz,hcl⟩
theorem nm3(y:zn be)(z:zn dG)(hz:NmI y [] z)(hl:y.2.1.2.2.2.1.length<=1000000)(n:Nat)(hn:3+y.2.1.2.2.2.1.length+y.2.1.2.2.2.1.length<=n):∃r,cP pl n (.h3 y.2.1.2.2.2.1 (y.2.1.2.2.2.1.length:Int) 0 z)=Q1 r/\NmR y r:=by
 refine dc (t:=pl) (β:=zn dG) y.2.1.2.2.2.1.length (λz i=>.h3 y.2.1.2.2.2.1 (y.2.1.2.2.2.1.length:Int) (i:Int) z) (λz i=>NmI y (y.2.1.2.2.2.1.take i) z) (NmR y) (3+y.2.1.2.2.2.1.length) ?_ ?_ y.2.1.2.2.2.1.length 0 z n rfl (ba _) (by simpa using hz) hn
 ·intro z i hi hI;obtain⟨hk,hx,hc,hp⟩:=hI;have hkl:(eR z).length<=1000000:=by rw[hx,cN,ot];omega
  have hcl:(fS z).length<=1000000:=by rw[hc,cN,ot];omega
  have e3:z.2.2.1=y.2.2.1:=hk.2.2.1;simp only[pl,Lw,G2,Q8,zH hi,zu hi,if_true,ac _ _ hi,zl,Prod.eta];rw[zq i um];by_cases c1:LT.lt (α:=Int) (zN z.2.2.1 y.2.1.2.2.2.1[i]) 0
  ·simp only[zt c1,if_true];refine Or.inr ⟨_,rfl,4,z,rfl,hk,?_,λh=>(by cases h),hcl⟩;unfold fT;rw[if_neg];intro h;exact h _ (bC hi) (by rw[<-e3];exact c1)
  ·simp only[ah c1,pO c1];refine Or.inl ⟨(z.1,z.2.1,z.2.2.1,z.2.2.2.1,z.t.1,z.t.2.1,z.t.q.1,z.t.q.2.1,z.t.t.1++[getD z.2.2.1.2.1 (toNat (zN z.2.2.1 y.2.1.2.2.2.1[i])) (zi zj)],z.t.t.2.1,z.t.t.q.1,z.t.t.q.2.1++[zN z.2.2.1 y.2.1.2.2.2.1[i]],z.t.t.t),⟨hk,?_,?_,?_⟩,?_⟩;rotate_left 3
   ·rw[if_neg sw,if_pos (by have:z.t.t.q.2.1.length<=1000000:=hkl;simp;omega),if_pos trivial,if_pos (by have:z.t.t.1.length<=1000000:=hcl;simp;omega)]
   ·show eR z++[zN z.2.2.1 y.2.1.2.2.2.1[i]]=_;rw[hx,e3,bZ hi,iB];rfl
   ·show fS z++[getD z.2.2.1.2.1 (toNat (zN z.2.2.1 y.2.1.2.2.2.1[i])) (zi zj)]=_;rw[hc,e3,bZ hi,iB];rfl
   ·intro s hs;rw[bZ hi,cK]at hs;rcases hs with hs|hs
    ·exact hp s hs
    ·rw[fX]at hs;rw[hs,<-e3];exact c1
 ·intro z n hI hn;obtain⟨n,rfl⟩:∃k,n=k+1:=⟨n-1,ow⟩;rw[jE]at hI;have hkl:(eR z).length=y.2.1.2.2.2.1.length:=by rw[hI.2.1,cN]
  rw[cA];simp only[pl,Lw,G2,Q8,zz];have hn2:2+(eR z).length<=n:=by rw[hkl];omega
  refine zla y z hI ?_ ow n hn2;unfold fT;rw[if_pos hI.2.2.2,hI.2.1]
theorem Ev(y:zn be)(hl:y.2.1.2.2.2.1.length<=1000000):∃(e:Int)(z:zn dG),yh y=Q1 ((e,()),z)/\JY y z/\e=fT y.2.2.1 y.2.1.2.2.2.1/\(e=0->NmI y y.2.1.2.2.2.1 z)/\(fS z).length<=1000000:=by
 obtain⟨r,h1,e,z,rfl,h2⟩:=nm3 y (y.1,y.2.1,y.2.2.1,y.2.2.2.1,y.t.1,y.t.2.1,y.t.q.1,y.t.q.2.1,[],y.t.t.1,y.t.t.2.1,[],y.t.t.q)
  ⟨⟨rfl,rfl,rfl,rfl,rfl,rfl,rfl,rfl,rfl,rfl,rfl⟩,rfl,rfl,sw⟩ hl 100000000 ow
 refine⟨e,z,?_,h2⟩;unfold yh kA cT;simp only[VF,Q8];rw[h1];exact cO (outs:=[zg]) (r:=.int .i64 e) (a:=(e,())) (ps:=aj) z rfl
theorem X9(y:zn be):Od y=y:=by
 unfold Od;rw[zl,zl,zl,zl,zl]
def mF(y:zn be)(z:zn aj):Prop:=z.1=y.1/\z.2.1=y.2.1/\z.2.2.1=y.2.2.1/\z.2.2.2.1=y.2.2.2.1/\z.t.1=y.t.1/\z.t.2.1=y.t.2.1/\z.t.q.1=y.t.q.1/\z.t.q.2.1=y.t.q.2.1
structure Dh (z:zn aj) (cols:List (Sem zj)) (key:Int) (ix:List Int) (on:Int):Prop where
 cols:z.t.t.1=cols
 key:z.t.t.2.1=key
 ix:z.t.t.q.2.1=ix
 on:z.t.t.t.1=on
def fY(t:Sem zo)(names:List zA):List (Sem zj):=names.map λs=>getD t.2.1 (toNat (zN t s)) (zi zj)
def ky(t:Sem zo)(names:List zA):List Int:=names.map (zN t)
def uX(t:Sem zo)(names:List zA):Int:=if fT t names=0 then(if LT.lt (α:=Int) (gN (ky t names) t.2.2.1) 0 then 1 else 0)else fT t names
def r8(t:Sem zo)(names:List zA):Int:=if fT t names=0 then(if((fY t names).getD 1 (zi zj)).2.1=(1:Int)then 0 else 5)else fT t names
def C7(t:Sem zo)(names:List zA):List (Sem zj):=
 [(((fY t names).getD 0 (zi zj)).1,((fY t names).getD 0 (zi zj)).2.1,Q3),(((fY t names).getD 1 (zi zj)).1,((fY t names).getD 1 (zi zj)).2.1,Q4)]
def gO(t u:Sem zo)(k w:zA):Int:=
 if LT.lt (α:=Int) (zN t k) 0 then 4 else if jy t.t.1 (zN t k,w)=Q3 then(if LT.lt (α:=Int) 9 ((length t.2.1:Int)+(length u.2.1:Int))then 13 else 0)else 10
def FX(k:Int)(n:Nat):List Nat:=(List.range n).filter λj=>(j:Int)!=k
def jN(k:Int)(n:Nat):List Int:=(FX k n).map λ(j:Nat)=>(j:Int)
def gg(u:Sem zo)(n:Nat):List (Sem zj):=(FX u.2.2.1 n).map λj=>getD u.2.1 j (zi zj)
theorem zbq(y:zn be):Rm y=Rn y y (jB y) (gN (jB y).t.t.t.1 (jB y).2.2.2.1.2.2.1):=by
 unfold Rm;rw[X9]
theorem R3(y:zn be)(hl:y.2.1.2.2.2.1.length<=1000):∃z:zn aj,FR y=Q1 ((uX y.2.2.1 y.2.1.2.2.2.1,()),z)/\mF y z/\z.t.t.q.1=y.t.t.2.1/\
  (fS z).length<=1000000/\(uX y.2.2.1 y.2.1.2.2.2.1=0->Dh z (fY y.2.2.1 y.2.1.2.2.2.1) (gN (ky y.2.2.1 y.2.1.2.2.2.1) y.2.2.1.2.2.1) (ky y.2.2.1 y.2.1.2.2.2.1) y.t.t.q.1):=by
 obtain⟨e,z,h1,hk,he,h2,hlen⟩:=Ev y ow;have hn:jB y=(e,z):=by unfold jB;rw[h1];rfl
 have hc:mW y=Q3:=by unfold mW;rw[h1];rfl
 have hkk:mF y z:=⟨hk.1,hk.2.1,hk.2.2.1,hk.2.2.2.1,hk.t.1,hk.t.2.1,hk.t.q.1,hk.t.q.2.1⟩;have hch:z.t.t.q.1=y.t.t.2.1:=hk.t.t.2.1;unfold FR kA cT;rw[zbq];simp only[Rn,Q8,hn,hc,if_true];by_cases h0:e=0
 ·have hI:=h2 h0;have hE:uX y.2.2.1 y.2.1.2.2.2.1=if LT.lt (α:=Int) (gN (eR z) z.2.2.1.2.2.1) 0 then 1 else 0:=by
   unfold uX;rw[if_pos (he▸h0),hI.2.1,hk.2.2.1];rfl
  simp only[h0,oq,zG,if_false];by_cases hx:LT.lt (α:=Int) (gN (eR z) z.2.2.1.2.2.1) 0
  ·rw[if_pos hx]at hE;simp only[zt hx,if_true,hE];exact⟨_,cO (outs:=[zg]) (r:=.int .i64 1) (a:=(1,())) (ps:=aj) _ rfl,hkk,hch,hlen,λh=>by cases h⟩
  ·rw[if_neg hx]at hE;simp only[ah hx,hE];refine⟨_,cO (outs:=[zg]) (r:=.int .i64 0) (a:=(0,())) (ps:=aj) _ rfl,hkk,hch,hlen,λ_=>⟨hI.2.2.1,?_,hI.2.1,by rw[hk.t.t.q]⟩⟩;show gN (eR z) z.2.2.1.2.2.1=_;rw[hI.2.1,hk.2.2.1];rfl
 ·have hb:(e !=0)=Q3:=by simpa using h0
  have hE:uX y.2.2.1 y.2.1.2.2.2.1=e:=by
   unfold uX;rw[if_neg (he▸h0),he]
  simp only[hb,if_true,hE];exact⟨_,cO (outs:=[zg]) (r:=.int .i64 e) (a:=(e,())) (ps:=aj) z rfl,hkk,hch,hlen,λh=>absurd h h0⟩
theorem zbs(y:zn be):Ro y=(let a1:=jB y
  let a2:=a1.t.t.2.1.getD (toNat 1) (zi zj)
  let a3:=a1.t.t.2.1.getD (toNat 0) (zi zj)
  let a4:=a1.t.t.2.1.set (toNat 0) (a3.1,a3.2.1,Q3)
  let a5:=a4.getD (toNat 1) (zi zj)
  Rp y y a1 a2 a3 a4 a5):=by
 unfold Ro;rw[X9]
theorem Ox(y:zn be)(hl:y.2.1.2.2.2.1.length=2):∃z:zn aj,yg y=Q1 ((r8 y.2.2.1 y.2.1.2.2.2.1,()),z)/\mF y z/\z.t.t.q.1=y.t.t.2.1/\
  (fS z).length<=1000000/\(r8 y.2.2.1 y.2.1.2.2.2.1=0->Dh z (C7 y.2.2.1 y.2.1.2.2.2.1) y.t.t.1 (ky y.2.2.1 y.2.1.2.2.2.1) y.t.t.q.1):=by
 obtain⟨e,z,h1,hk,he,h2,hlen0⟩:=Ev y ow;have hn:jB y=(e,z):=by unfold jB;rw[h1];rfl
 have hc:mW y=Q3:=by unfold mW;rw[h1];rfl
 have hkk:mF y z:=⟨hk.1,hk.2.1,hk.2.2.1,hk.2.2.2.1,hk.t.1,hk.t.2.1,hk.t.q.1,hk.t.q.2.1⟩;have hch:z.t.t.q.1=y.t.t.2.1:=hk.t.t.2.1;have hkey:z.t.t.2.1=y.t.t.1:=hk.t.t.1;have hon:z.t.t.t.1=y.t.t.q.1:=by rw[hk.t.t.q]
 unfold yg kA cT;rw[zbs];simp only[Rp,hn];by_cases h0:e=0
 ·have hI:=h2 h0;have hlen:(fS z).length=2:=by rw[hI.2.2.1,cN];exact hl
  have hcols:fS z=fY y.2.2.1 y.2.1.2.2.2.1:=hI.2.2.1;have hix:eR z=ky y.2.2.1 y.2.1.2.2.2.1:=hI.2.1;have hE:r8 y.2.2.1 y.2.1.2.2.2.1=if((fY y.2.2.1 y.2.1.2.2.2.1).getD 1 (zi zj)).2.1=(1:Int)then 0 else 5:=by
   unfold r8;rw[if_pos (he▸h0)]
  obtain⟨z0,z1,z2,z3,z4,z5,z6,z7,cols,z9⟩:=z;obtain⟨c0,c1,rfl⟩:∃c0 c1,cols=[c0,c1]:=by
   match cols,hlen with
   |[c0,c1],_=>exact⟨c0,c1,rfl⟩
  have hcols:[c0,c1]=fY y.2.2.1 y.2.1.2.2.2.1:=hcols;unfold C7;rw[<-hcols]at hE⊢;simp only[Q8,hc,if_true,h0,oq,zG,if_false];have e1:zP 1 (length [c0,c1])=Q3:=rfl;have e0:zP 0 (length [c0,c1])=Q3:=rfl;by_cases hty:c1.2.1=(1:Int)
  ·rw[if_pos (show([c0,c1].getD 1 (zi zj)).2.1=(1:Int)from hty)]at hE;rw[hE];refine⟨(z0,z1,z2,z3,z4,z5,z6,z7,[(c0.1,c0.2.1,Q3),(c1.1,c1.2.1,Q4)],z9),?_,hkk,hch,by show length [(c0.1,c0.2.1,Q3),(c1.1,c1.2.1,Q4)]<=_;simp,λ_=>⟨rfl,hkey,hix,hon⟩⟩;simp[hty,getD,zP];exact cO (outs:=[zg]) (r:=.int .i64 0) (a:=(0,())) (ps:=aj) (z0,z1,z2,z3,z4,z5,z6,z7,[(c0.1,c0.2.1,Q3),(c1.1,1,Q4)],z9) rfl
  ·rw[if_neg (show¬([c0,c1].getD 1 (zi zj)).2.1=(1:Int)from hty)]at hE;rw[hE];refine⟨(z0,z1,z2,z3,z4,z5,z6,z7,[c0,c1],z9),?_,hkk,hch,by show length [c0,c1]<=_;simp,λh=>by cases h⟩;simp[hty,getD];exact cO (outs:=[zg]) (r:=.int .i64 5) (a:=(5,())) (ps:=aj) (z0,z1,z2,z3,z4,z5,z6,z7,[c0,c1],z9) rfl
 ·have hb:(e !=0)=Q3:=by simpa using h0
  have hE:r8 y.2.2.1 y.2.1.2.2.2.1=e:=by
   unfold r8;rw[if_neg (he▸h0),he]
  simp only[Q8,hc,hb,if_true,hE];exact⟨z,cO (outs:=[zg]) (r:=.int .i64 e) (a:=(e,())) (ps:=aj) z rfl,hkk,hch,hlen0,λh=>absurd h h0⟩
def JnI(y:zn be)(i:Nat)(z:zn dG):Prop:=mF y z/\z.t.t.q.1=y.t.t.2.1/\Dh z (y.2.2.1.2.1++gg y.2.2.2.1 i) y.2.2.1.2.2.1 (jN y.2.2.2.1.2.2.1 i) (zN y.2.2.1 y.2.1.t.2.1)
theorem oU(k:Int)(n:Nat):(FX k n).length<=n:=by
 unfold FX;exact cL (List.length_filter_le _ _) sw
theorem EA(k:Int)(n:Nat):FX k (n+1)=if((n:Int)!=k)=Q3 then FX k n++[n]else FX k n:=by
 unfold FX;rw[List.range_succ,List.filter_append];split
 ·rename_i h;rw[List.filter_cons_of_pos (by exact h),List.filter_nil]
 ·rename_i h;rw[List.filter_cons_of_neg (by exact h),List.filter_nil,wN]
theorem zkP(y:zn be)(z:zn dG)(hz:JnI y 0 z)(hf:length y.2.2.1.2.1<=100)(hl:length y.2.2.2.1.2.1<=100)(n:Nat)(hn:1+length y.2.2.2.1.2.1<=n):
  ∃r,cP JD n (.h11 y.2.2.2.1.2.1 (length y.2.2.2.1.2.1:Int) 0 z)=Q1 r/\∃z':zn dG,r=(.int .i64 0,ar aj z')/\JnI y (length y.2.2.2.1.2.1) z':=by
 refine dc (t:=JD) (β:=zn dG) (length y.2.2.2.1.2.1) (λz i=>.h11 y.2.2.2.1.2.1 (length y.2.2.2.1.2.1:Int) (i:Int) z) (λz i=>JnI y i z) _ 1 ?_ ?_ (length y.2.2.2.1.2.1) 0 z n rfl (ba _) hz hn
 ·intro z i hi hI;obtain⟨hk,hch,hA⟩:=hI;have hoth:=oU y.2.2.2.1.2.2.1 i;have hcl:(fS z).length<=2000:=by
   rw[show fS z=_ from hA.cols,jD,gg,cN];omega
  have hxl:(eR z).length<=2000:=by
   rw[show eR z=_ from hA.ix,jN,cN];omega
  have ek:z.2.2.2.1.2.2.1=y.2.2.2.1.2.2.1:=by rw[hk.2.2.2.1]
  simp only[JD,GW,Cx,Q8,zH hi,zu hi,if_true,ac _ _ hi];rw[zq i um];refine Or.inl ?_;have hsucc:=EA y.2.2.2.1.2.2.1 i;split
  ·rename_i hc;rw[ek]at hc;rw[if_pos hc]at hsucc;refine⟨(z.1,z.2.1,z.2.2.1,z.2.2.2.1,z.t.1,z.t.2.1,z.t.q.1,z.t.q.2.1,z.t.t.1++[y.2.2.2.1.2.1[i]],z.t.t.2.1,z.t.t.q.1,z.t.t.q.2.1++[(i:Int)],z.t.t.t),⟨hk,hch,⟨?_,hA.key,?_,hA.on⟩⟩,?_⟩
   ·show z.t.t.1++[y.2.2.2.1.2.1[i]]=_;rw[hA.cols,Ae,gg,gg,hsucc,iB];simp[zQ hi]
   ·show z.t.t.q.2.1++[(i:Int)]=_;rw[hA.ix,jN,jN,hsucc,iB];rfl
   ·rw[if_pos (by have:z.t.t.q.2.1.length<=2000:=hxl;simp;omega),if_pos (by have:z.t.t.1.length<=2000:=hcl;simp;omega)]
  ·rename_i hc;rw[ek]at hc;rw[if_neg hc]at hsucc;refine⟨z,⟨hk,hch,⟨?_,hA.key,?_,hA.on⟩⟩,rfl⟩
   ·rw[hA.cols,gg,gg,hsucc]
   ·rw[hA.ix,jN,jN,hsucc]
 ·intro z n hI hn;obtain⟨n,rfl⟩:∃k,n=k+1:=⟨n-1,ow⟩;rw[cA];simp only[JD,GW,Cx,Q8,zz];exact⟨_,rfl,z,rfl,hI⟩
theorem R4(y:zn be)(hf:length y.2.2.1.2.1<=100)(hl:length y.2.2.2.1.2.1<=100):∃z:zn aj,Bd y=Q1 ((gO y.2.2.1 y.2.2.2.1 y.2.1.t.2.1 y.t.q.1,()),z)/\mF y z/\z.t.t.q.1=y.t.t.2.1/\
  (fS z).length<=1000000/\(gO y.2.2.1 y.2.2.2.1 y.2.1.t.2.1 y.t.q.1=0->Dh z (y.2.2.1.2.1++gg y.2.2.2.1 (length y.2.2.2.1.2.1)) y.2.2.1.2.2.1 (jN y.2.2.2.1.2.2.1 (length y.2.2.2.1.2.1)) (zN y.2.2.1 y.2.1.t.2.1)):=by
 have hk:∀(a:List (Sem zj))(b:Int)(c:ze)(d:List Int)(e:Int),mF y (y.1,y.2.1,y.2.2.1,y.2.2.2.1,y.t.1,y.t.2.1,y.t.q.1,y.t.q.2.1,a,b,c,d,e,()):=λ_ _ _ _ _=>⟨rfl,rfl,rfl,rfl,rfl,rfl,rfl,rfl⟩
 have hw:IntKind.i64.wrap (IntKind.i64.wrap ((↑(length y.2.2.1.2.1):Int)+(↑(length y.2.2.2.1.2.1):Int))-1)=(↑(length y.2.2.1.2.1):Int)+(↑(length y.2.2.2.1.2.1):Int)-1:=by
  rw[kS ((↑(length y.2.2.1.2.1):Int)+(↑(length y.2.2.2.1.2.1):Int)) ow ow,kS _ ow ow]
 have out:∀e:Int,e≠0->(FG y).val=Q1 (.inr (.int .i64 e,ar aj (y.1,y.2.1,y.2.2.1,y.2.2.2.1,y.t.1,y.t.2.1,y.t.q.1,y.t.q.2.1,[],y.t.t.1,y.t.t.2.1,[],zN y.2.2.1 y.2.1.t.2.1,())))->gO y.2.2.1 y.2.2.2.1 y.2.1.t.2.1 y.t.q.1=e->∃z:zn aj,Bd y=Q1 ((gO y.2.2.1 y.2.2.2.1 y.2.1.t.2.1 y.t.q.1,()),z)/\mF y z/\z.t.t.q.1=y.t.t.2.1/\
  (fS z).length<=1000000/\(gO y.2.2.1 y.2.2.2.1 y.2.1.t.2.1 y.t.q.1=0->Dh z (y.2.2.1.2.1++gg y.2.2.2.1 (length y.2.2.2.1.2.1)) y.2.2.1.2.2.1 (jN y.2.2.2.1.2.2.1 (length y.2.2.2.1.2.1)) (zN y.2.2.1 y.2.1.t.2.1)):=by
  intro e he hv hE;rw[hE];refine⟨_,SH hv (cO (outs:=[zg]) (r:=.int .i64 e) (a:=(e,())) (ps:=aj) _ rfl),hk _ _ _ _ _,rfl,by show([]:List (Sem zj)).length<=_;simp,λh=>absurd h he⟩
 by_cases c1:LT.lt (α:=Int) (zN y.2.2.1 y.2.1.t.2.1) 0
 ·refine out 4 (by decide) ?_ (by unfold gO;rw[if_pos c1]);simp only[FG,Ip,Q8,zl,zt c1,if_true]
 by_cases c2:jy y.2.2.1.t.1 (zN y.2.2.1 y.2.1.t.2.1,y.t.q.1)=Q3
 ·by_cases c3:LT.lt (α:=Int) 9 ((length y.2.2.1.2.1:Int)+(length y.2.2.2.1.2.1:Int))
  ·refine out 13 (by decide) ?_ (by unfold gO;rw[if_neg c1,if_pos c2,if_pos c3]);simp only[FG,Ip,Q8,zl,ah c1,c2,hw];rw[if_neg sw,if_neg sw,if_pos sg]
  ·have hE:gO y.2.2.1 y.2.2.2.1 y.2.1.t.2.1 y.t.q.1=0:=by unfold gO;rw[if_neg c1,if_pos c2,if_neg c3]
   have hv:(FG y).val=Q1 (.inl (.h11 y.2.2.2.1.2.1 (length y.2.2.2.1.2.1:Int) 0 (y.1,y.2.1,y.2.2.1,y.2.2.2.1,y.t.1,y.t.2.1,y.t.q.1,y.t.q.2.1,y.2.2.1.2.1,y.2.2.1.2.2.1,y.t.t.2.1,[],zN y.2.2.1 y.2.1.t.2.1,()))):=by
    simp only[FG,Ip,Q8,zl,ah c1,c2,hw];rw[if_neg sw,if_neg sw,if_neg sg,if_pos sg]
   obtain⟨r,h1,z',rfl,hJ⟩:=zkP y (y.1,y.2.1,y.2.2.1,y.2.2.2.1,y.t.1,y.t.2.1,y.t.q.1,y.t.q.2.1,y.2.2.1.2.1,y.2.2.1.2.2.1,y.t.t.2.1,[],zN y.2.2.1 y.2.1.t.2.1,()) ⟨hk _ _ _ _ _,rfl,⟨by simp[gg,FX],rfl,rfl,rfl⟩⟩ hf hl 100000000 ow;rw[hE];refine⟨z',?_,hJ.1,hJ.2.1,?_,λ_=>hJ.2.2⟩
   ·unfold Bd kA cT;rw[hv];show(cP JD 100000000 _).bind _=_;rw[h1];exact cO (outs:=[zg]) (r:=.int .i64 0) (a:=(0,())) (ps:=aj) z' rfl
   ·have hoth:=oU y.2.2.2.1.2.2.1 (length y.2.2.2.1.2.1);rw[show fS z'=_ from hJ.2.2.cols,jD,gg,cN];omega
 ·refine out 10 (by decide) ?_ (by unfold gO;rw[if_neg c1,if_neg c2]);simp only[FG,Ip,Q8,zl,ah c1];rw[if_neg sw,if_pos (by simpa using c2)]
def E7(l rows:List (Sem (.sl zf))):Prop:=rows.length<=201/\∀r∈rows,∃r0∈l,r=ln r0
theorem zjM(n:Nat)(i4:Int)(hi4:i4<=201)(h0:0<=i4)(z0:zn cpR)(z1:zn zaT)(t:Sem zo)(hn:300<=n):∃rows:List (Sem (.sl zf)),E7 z0.1.2 rows/\∃r,cP OY n (.h6 i4 0 z0 z1 (t,[],()))=Q1 r/\aL r.2 [zh] r.1=Q1 (((t,rows):Sem zh),()):=by
 obtain⟨N,hN⟩:∃N:Nat,i4=(N:Int):=⟨toNat i4,ow⟩;have h:=dc (t:=OY) (β:=List (Sem (.sl zf))) (min N (length z0.1.2)) (λb i=>.h6 i4 (i:Int) z0 z1 (t,b,())) (λb i=>b.length=i/\∀r∈b,∃r0∈z0.1.2,r=ln r0) (λr=>∃rows:List (Sem (.sl zf)),E7 z0.1.2 rows/\aL r.2 [zh] r.1=Q1 (((t,rows):Sem zh),())) 1 (by
   intro b i hi hb;have h1:(i:Int)<(length z0.1.2:Int):=by omega
   have h2:(i:Int)<i4:=by omega
   have h3:zP (i:Int) (length z0.1.2)=Q3:=zu ow;refine Or.inl ⟨b++[ln (getD z0.1.2 (i:Int).toNat (zi zf.sl))],⟨by simp[hb.1],λr hr=>?_⟩,?_⟩
   ·rcases cK.1 hr with hr|hr
    ·exact hb.2 r hr
    ·rw[fX]at hr;refine⟨_,?_,hr⟩;rw[aJ,aY,zQ ow,dn];exact bC _
   simp only[OY,Q8,zt h1,zt h2,ag,if_true,h3];rw[zq i um,if_pos sg]) (by
   intro b n hb hn;obtain⟨n,rfl⟩:∃k,n=k+1:=⟨n-1,ow⟩;rw[cA];have hf:(bif Q0 (((min N (length z0.1.2):Nat):Int)<(length z0.1.2:Int))then Q0 (((min N (length z0.1.2):Nat):Int)<i4)else Q4)=Q4:=by
    by_cases h:N<=length z0.1.2
    ·rw[Dx h,hN];simp
    ·rw[Dv ow];simp
   simp only[OY,Q8,hf];refine⟨_,rfl,b,⟨by have:=hb.1;omega,hb.2⟩,?_⟩;obtain⟨t0,t1,t2,t3,t4,t5⟩:=t;cases t5;rfl) (min N (length z0.1.2)) 0 [] n rfl (ba _) ⟨rfl,sw⟩ ow
 obtain⟨r,h1,rows,h2,h3⟩:=h;exact⟨rows,h2,r,h1,h3⟩
theorem Iy(x:Sem zh):∃rows:List (Sem (.sl zf)),E7 x.2 rows/\A9 x=Q1 (((CD x.1,rows):Sem zh),()):=by
 have e:CD (x.1.1,x.1.2.1,x.1.2.2.1,x.1.2.2.2.1,x.1.t.1,zm x.1.t.2)=CD x.1:=by rw[zl]
 have hv:∃k:Int,0<=k/\k<=201/\(zbo x).val=Q1 (.inl (.h6 k 0 (x,()) ([],0,[],0,0,[],[],()) (CD x.1,[],()))):=by
  simp only[zbo,Q8,e];split
  ·exact⟨201,ow,ow,rfl⟩
  ·exact⟨40,ow,ow,rfl⟩
 obtain⟨k,k1,k2,hv⟩:=hv;obtain⟨rows,h1,r,h2,h3⟩:=zjM 100000000 k k2 k1 (x,()) ([],0,[],0,0,[],[],()) (CD x.1) ow;refine⟨rows,h1,?_⟩;unfold A9 al cT;rw[hv];show(cP OY 100000000 _).bind _=_;rw[h2];exact h3
theorem Ix(x:Sem zh):KJ x=Q3:=by
 obtain⟨rows,h1,h2⟩:=Iy x;unfold KJ;rw[h2];rfl
theorem RW(db:List (Sem zh)):∃db':List (Sem zh),Ba db=Q1 (db',())/\db'.length<=13/\∀x∈db',∃y∈db,x=xn y:=by
 have h:=dc (t:=t7p) (β:=List (Sem zh)) (min 13 db.length) (λb i=>.h3 db (i:Int) b) (λb i=>b.length=i/\∀x∈b,∃y∈db,x=xn y) (λr=>∃db':List (Sem zh),aL r.2 [zh.sl] r.1=Q1 (db',())/\db'.length<=13/\∀x∈db',∃y∈db,x=xn y) 1 (by
   intro b i hi hb;have h1:(i:Int)<(db.length:Int):=by omega
   have h2:(i:Int)<13:=by omega
   have h3:zP (i:Int) db.length=Q3:=zu ow;refine Or.inl ⟨b++[xn (db.getD (i:Int).toNat (zi zh))],⟨by simp[hb.1],?_⟩,?_⟩
   ·intro x hx;rcases cK.1 hx with hx|hx
    ·exact hb.2 x hx
    ·rw[fX]at hx;refine⟨_,?_,hx⟩;rw[aJ,aY,zQ ow,dn];exact bC _
   ·simp only[t7p,Q8,zt h1,zt h2,ag,if_true,h3,zl,Prod.eta,Ix];rw[zq i um,if_pos sg]) (by
   intro b n hb hn;obtain⟨n,rfl⟩:∃k,n=k+1:=⟨n-1,ow⟩;rw[cA];have hf:(bif Q0 (((min 13 db.length:Nat):Int)<(db.length:Int))then Q0 (((min 13 db.length:Nat):Int)<13)else Q4)=Q4:=by
    by_cases h:13<=db.length
    ·rw[Dx h];simp
    ·rw[Dv ow];simp
   simp only[t7p,Q8,hf];exact⟨_,rfl,b,rfl,ow,hb.2⟩) (min 13 db.length) 0 [] 100000000 rfl (ba _) ⟨rfl,sw⟩ ow
 obtain⟨r,h1,db',h2,h3,h4⟩:=h;refine⟨db',?_,h3,h4⟩;unfold Ba al cT;simp only[i7p,Q8];have h1':cP t7p 100000000 (.h3 db 0 [])=Q1 r:=h1;rw[h1'];exact h2
theorem jL(s:zA):eZ s=Q3:=by
 unfold eZ;split
 ·rename_i h;have:20<s.length:=by simp at h;omega
  rw[if_pos sg]
 ·rfl
theorem eA(s:zA):(cQ s).length<=20:=by
 unfold cQ;split
 ·simp;omega
 ·rename_i h;have:¬20<s.length:=by simp at h;omega
  omega
theorem nI:∀(l:List zA)(i:Int)(acc:List zA),(acc.length:Int)<=i->ft l i acc=Q3
 |[],_,_,_=>rfl
 | x::r,i,acc,h=>by
  rw[ft];split
  ·rename_i hi;simp only[aN]at hi;rw[if_pos (jL x),if_pos sg];exact nI r (i+1) _ sg
  ·rfl
theorem C9(l:List zA):oS l=Q3:=nI l 0 [] sw
theorem rg:∀(l:List zA)(i:Int)(acc:List zA),(acc.length:Int)<=i->acc.length<=10->(∀x∈acc,length x<=20)->length (ei l i acc)<=10/\∀x∈ei l i acc,length x<=20
 |[],_,acc,_,h,ha=>⟨h,ha⟩
 | x::r,i,acc,h,hl,ha=>by
  rw[ei];split
  ·rename_i hi;simp only[aN]at hi;refine rg r (i+1) _ sg sg (λy hy=>?_);rcases cK.1 hy with hy|hy
   ·exact ha y hy
   ·rw[fX]at hy;rw[hy];exact eA x
  ·exact⟨hl,ha⟩
theorem xm(l:List zA):length (jK l)<=10/\∀x∈jK l,length x<=20:=rg l 0 [] sw sw sw
theorem Wp(s:zA):(iT s).length<=20:=by
 unfold iT;split
 ·simp;omega
 ·rename_i h;simp at h;omega
theorem On(l:List (Sem zj)):length (jl l)<=10/\∀x∈jl l,length x.1<=20:=by
 refine⟨by show((List.take 9 l).map _).length<=10;rw[cN,ot];omega,λc hc=>?_⟩;obtain⟨x,_,rfl⟩:=bm.1 hc;exact Wp x.1
theorem Oq(l:List (Sem zf)):length (ln l)<=14:=by
 show((List.take 14 l).map _).length<=14;rw[cN,ot];omega
theorem Fk(e:ze):qM 16 (gB e)=Q3:=by
 obtain⟨r,m,h1,h2⟩:=FE (P:=λN _ r=>qM N r=Q3) (λN e o t s l hl h3 _ _=>by
  show(Q0 (l.length<=1073741824)&&l.all (qM N))=Q3;rw[dU.2 λy hy=>by obtain⟨_,_,h⟩:=hl y hy;exact h];simp;omega) 16 e 14 80 ow ow ow
 unfold gB;rw[ze.eta,show qN 16 e 14 80=(r,m) by unfold qN;rw[h1];rfl];exact h2
structure JT (s:Sem zk):Prop where
 sh:lC s
 cp:qM 16 s.t.t.1=Q3
def F3I(z0:zn nZ)(i:Nat)(z:zn PV):Prop:=z.1.length<=20/\z.2.1.length<=20/\z.2.2.1.length<=20/\(length z.2.2.2.1<=10/\∀x∈z.2.2.2.1,length x<=20)/\(length z.t.1<=10/\∀x∈z.t.1,length x.1<=20)/\z.t.2.1.length<=20/\
 (length z.t.q.1<=10/\∀x∈z.t.q.1,length x<=20)/\(length z.t.q.2.1=i/\∀x∈z.t.q.2.1,length x.1<=20/\length x.2<=20)/\qM 16 z.t.t.1=Q3/\length z.t.t.2.1<=14/\z.t.t.q.2.1.length<=20/\
 z.t.t.1=gB z0.1.t.t.1/\z.t.t.2.1=ln z0.1.t.t.2.1/\z.t.t.q.1=gB z0.1.t.t.q.2.1
def F7I(z0:zn nZ)(i:Nat)(z:zn PW):Prop:=z.1.length<=20/\z.2.1.length<=20/\z.2.2.1.length<=20/\(length z.2.2.2.1<=10/\∀x∈z.2.2.2.1,length x<=20)/\(length z.t.1<=10/\∀x∈z.t.1,length x.1<=20)/\z.t.2.1.length<=20/\
 (length z.t.q.1<=10/\∀x∈z.t.q.1,length x<=20)/\(length z.t.q.2.1<=10/\∀x∈z.t.q.2.1,length x.1<=20/\length x.2<=20)/\qM 16 z.t.t.1=Q3/\length z.t.t.2.1<=14/\
 (length z.t.t.q.1=i/\∀x∈z.t.t.q.1,length x.1<=20/\∃y∈z0.1.t.t.q.1,x.2=gB y.2)/\z.t.t.t.1.length<=20/\
 z.t.t.1=gB z0.1.t.t.1/\z.t.t.2.1=ln z0.1.t.t.2.1/\z.t.t.q.2.1=gB z0.1.t.t.q.2.1
structure XD (s0 s:Sem zk):Prop where
 chk:s.t.t.1=gB s0.t.t.1
 row:s.t.t.2.1=ln s0.t.t.2.1
 whr:s.t.t.q.2.1=gB s0.t.t.q.2.1
 sets:∀x∈s.t.t.q.1,∃y∈s0.t.t.q.1,(x:Sem gS).2=gB (y:Sem gS).2
def UO(s0:Sem zk)(r:aw):Prop:=∃s:Sem zk,aL r.2 [zk] r.1=Q1 (s,())/\JT s/\XD s0 s
theorem fs7(z0:zn nZ)(z1:zn iH)(z:zn PW)(hz:F7I z0 0 z)(n:Nat)(hn:20<=n):∃r,cP Ww n (.h7 0 z0 z1 z)=Q1 r/\UO z0.1 r:=by
 refine dc (t:=Ww) (β:=zn PW) (min 10 (length z0.1.t.t.q.1)) (λz i=>.h7 (i:Int) z0 z1 z) (λz i=>F7I z0 i z) (UO z0.1) 1 ?_ ?_ (min 10 (length z0.1.t.t.q.1)) 0 z n rfl (ba _) hz ow
 ·intro z i hi hb;obtain⟨h0,h1,h2,h3,h4,h5,h6,h7,h8,h9,h10,h11,h12⟩:=hb;have k1:(i:Int)<(length z0.1.t.t.q.1:Int):=by omega
  have k2:(i:Int)<10:=by omega
  have k3:zP (i:Int) (length z0.1.t.t.q.1)=Q3:=zu ow;refine Or.inl ⟨(z.1,z.2.1,z.2.2.1,z.2.2.2.1,z.t.1,z.t.2.1,z.t.q.1,z.t.q.2.1,z.t.t.1,z.t.t.2.1,z.t.t.q.1++[(cQ (getD z0.1.t.t.q.1 (i:Int).toNat (zi gS)).1,zm (gB (zm (getD z0.1.t.t.q.1 (i:Int).toNat (zi gS)).2)))],z.t.t.q.2),⟨h0,h1,h2,h3,h4,h5,h6,h7,h8,h9,?_,h11,h12⟩,?_⟩;rotate_left 1
  ·simp only[Ww,Q8,zt k1,zt k2,ag,if_true,k3,jL];rw[zq i um,if_pos (by have:=h10.1;simp;omega)]
  ·refine⟨?_,λx hx=>?_⟩
   ·simp[h10.1]
   ·rcases cK.1 hx with hx|hx
    ·exact h10.2 x hx
    ·rw[fX]at hx;rw[hx];exact⟨eA _,_,tq _ (zi gS) (by simpa using(show i<_ by omega)),by simp only[zl,aJ]⟩
 ·intro z n hb hn;obtain⟨n,rfl⟩:∃k,n=k+1:=⟨n-1,ow⟩;obtain⟨h0,h1,h2,h3,h4,h5,h6,h7,h8,h9,h10,h11,h12⟩:=hb;rw[cA];have hf:(bif Q0 (((min 10 (length z0.1.t.t.q.1):Nat):Int)<(length z0.1.t.t.q.1:Int))then Q0 (((min 10 (length z0.1.t.t.q.1):Nat):Int)<10)else Q4)=Q4:=by
   by_cases h:10<=length z0.1.t.t.q.1
   ·rw[Dx h];simp
   ·rw[Dv ow];simp
  simp only[Ww,Q8,hf];refine⟨_,rfl,(z.1,z.2.1,z.2.2.1,z.2.2.2.1,z.t.1,z.t.2.1,z.t.q.1,z.t.q.2.1,z.t.t.1,z.t.t.2.1,z.t.t.q.1,z.t.t.q.2.1,z.t.t.t.1),?_,⟨?_,h8⟩,⟨h12.1,h12.2.1,h12.2.2,λx hx=>(h10.2 x hx).2⟩⟩
  ·obtain⟨z0,z1,z2,z3,z4,z5,z6,z7,z8,z9,z10,z11,z12,z13⟩:=z;cases z8;cases z11;rfl
  ·refine⟨by show z.1.length<=_;omega,by show z.2.1.length<=_;omega,by show z.2.2.1.length<=_;omega,⟨by have:=h3.1;show length z.2.2.2.1<=_;omega,λx hx=>by have:=h3.2 x hx;omega⟩,⟨by have:=h4.1;show length z.t.1<=_;omega,λx hx=>by have:=h4.2 x hx;omega⟩,by show z.t.2.1.length<=_;omega,⟨by have:=h6.1;show length z.t.q.1<=_;omega,λx hx=>by have:=h6.2 x hx;omega⟩,⟨by have:=h7.1;show length z.t.q.2.1<=_;omega,λx hx=>by have:=h7.2 x hx;omega⟩,by show length z.t.t.2.1<=_;omega,⟨by have:=h10.1;show length z.t.t.q.1<=_;omega,λx hx=>by have:=(h10.2 x hx).1;omega⟩,by show z.t.t.t.1.length<=_;omega⟩
theorem fs3(z0:zn nZ)(z1:zn iH)(z:zn PV)(hz:F3I z0 0 z)(n:Nat)(hn:40<=n):∃r,cP Ww n (.h3 0 z0 z1 z)=Q1 r/\UO z0.1 r:=by
 refine dc (t:=Ww) (β:=zn PV) (min 10 (length z0.1.t.q.2.1)) (λz i=>.h3 (i:Int) z0 z1 z) (λz i=>F3I z0 i z) (UO z0.1) 21 ?_ ?_ (min 10 (length z0.1.t.q.2.1)) 0 z n rfl (ba _) hz ow
 ·intro z i hi hb;obtain⟨h0,h1,h2,h3,h4,h5,h6,h7,h8⟩:=hb;have k1:(i:Int)<(length z0.1.t.q.2.1:Int):=by omega
  have k2:(i:Int)<10:=by omega
  have k3:zP (i:Int) (length z0.1.t.q.2.1)=Q3:=zu ow;refine Or.inl ⟨(z.1,z.2.1,z.2.2.1,z.2.2.2.1,z.t.1,z.t.2.1,z.t.q.1,z.t.q.2.1++[(cQ (getD z0.1.t.q.2.1 (i:Int).toNat (zi iD)).1,cQ (getD z0.1.t.q.2.1 (i:Int).toNat (zi iD)).2)],z.t.t),⟨h0,h1,h2,h3,h4,h5,h6,?_,h8⟩,?_⟩;rotate_left 1
  ·simp only[Ww,Q8,zt k1,zt k2,ag,if_true,k3,jL];rw[zq i um,if_pos (by have:=h7.1;simp;omega)]
  ·refine⟨?_,λx hx=>?_⟩
   ·simp[h7.1]
   ·rcases cK.1 hx with hx|hx
    ·exact h7.2 x hx
    ·rw[fX]at hx;rw[hx];exact⟨eA _,eA _⟩
 ·intro z n hb hn;obtain⟨n,rfl⟩:∃k,n=k+1:=⟨n-1,ow⟩;obtain⟨h0,h1,h2,h3,h4,h5,h6,h7,h8,h9,h10,h11⟩:=hb;rw[cA];have hf:(bif Q0 (((min 10 (length z0.1.t.q.2.1):Nat):Int)<(length z0.1.t.q.2.1:Int))then Q0 (((min 10 (length z0.1.t.q.2.1):Nat):Int)<10)else Q4)=Q4:=by
   by_cases h:10<=length z0.1.t.q.2.1
   ·rw[Dx h];simp
   ·rw[Dv ow];simp
  simp only[Ww,Q8,hf];exact fs7 z0 z1 _ ⟨h0,h1,h2,h3,h4,h5,h6,⟨by have:=h7.1;show length z.t.q.2.1<=_;omega,h7.2⟩,h8,h9,⟨rfl,sw⟩,h10,h11⟩ n ow
theorem KI(s:Sem zk):∃s':Sem zk,vU s=Q1 (s',())/\JT s'/\XD s s':=by
 unfold vU al cT;simp only[i8p,Q8,jL,C9,if_true]
 obtain⟨r,h1,s',h2,h3⟩:=fs3 (s,()) ([],[],[],[],[],0,0,[],[],[],0,0,[],[],[],()) (cQ s.1,cQ s.2.1,cQ s.2.2.1,jK s.2.2.2.1,jl s.t.1,
  cQ s.t.2.1,jK s.t.q.1,[],gB (zm s.t.t.1),ln s.t.t.2.1,gB (zm s.t.t.q.2.1),cQ s.t.t.t,())
  ⟨eA _,eA _,eA _,xm _,On _,eA _,xm _,⟨rfl,sw⟩,Fk _,Oq _,eA _,by simp only[zl],rfl,by simp only[zl]⟩ 100000000 ow
 refine⟨s',?_,h3⟩;rw[h1];exact h2
abbrev aA(db:List (Sem zh))(s:zA):Sem zh:=getD db (toNat (zS db s)) (zi zh)
def Di(db:List (Sem zh)):Prop:=∀x∈db,∀f∈x.1.t.1,LE.le (α:=Int) 0 (zS db f.2)/\∀row∈x.2,(ao f.1 row).1≠0->gG (aA db f.2) (aA db f.2).1.2.2.1 (ao f.1 row)=Q3
def TM(r:aw):Prop:=r=(.kb Q4,[])
theorem U6{db:List (Sem zh)}{x:Sem zh}{f:Sem zr}{i k:Nat}(hf:LE.le (α:=Int) 0 (zS db f.2))(hc:∀row∈x.2,zP f.1 (length row)=Q3)(hl:x.2.length<=1000):
  ((∀j,j<x.2.length->(ao f.1 (getD x.2 j (zi zf.sl))).1≠0->gG (aA db f.2) (aA db f.2).1.2.2.1 (ao f.1 (getD x.2 j (zi zf.sl)))=Q3)/\
   zR gn (x.2.length*1) (.h11 db (zS db f.2) db (db.length:Int) (i:Int) x.1.t.1 (x.1.t.1.length:Int) (k:Int) x.2 (x.2.length:Int) ((0:Nat):Int) (x,()) (f,()))
    (.h11 db (zS db f.2) db (db.length:Int) (i:Int) x.1.t.1 (x.1.t.1.length:Int) (k:Int) x.2 (x.2.length:Int) (x.2.length:Int) (x,()) (f,())))\/
  ((¬∀j,j<x.2.length->(ao f.1 (getD x.2 j (zi zf.sl))).1≠0->gG (aA db f.2) (aA db f.2).1.2.2.1 (ao f.1 (getD x.2 j (zi zf.sl)))=Q3)/\
   ∃r,zV gn (x.2.length*1) (.h11 db (zS db f.2) db (db.length:Int) (i:Int) x.1.t.1 (x.1.t.1.length:Int) (k:Int) x.2 (x.2.length:Int) ((0:Nat):Int) (x,()) (f,())) r/\TM r):=by
 refine lN (t:=gn) (Φ:=TM) 1 (λj=>.h11 db (zS db f.2) db (db.length:Int) (i:Int) x.1.t.1 (x.1.t.1.length:Int) (k:Int) x.2 (x.2.length:Int) (j:Int) (x,()) (f,())) (λj=>(ao f.1 (getD x.2 j (zi zf.sl))).1≠0->gG (aA db f.2) (aA db f.2).1.2.2.1 (ao f.1 (getD x.2 j (zi zf.sl)))=Q3) x.2.length ?_;intro j hj _
 have hv:(gn (.h11 db (zS db f.2) db (db.length:Int) (i:Int) x.1.t.1 (x.1.t.1.length:Int) (k:Int) x.2 (x.2.length:Int) (j:Int) (x,()) (f,()))).val=
   if(bif (ao f.1 (getD x.2 j (zi zf.sl))).1!=0 then !gG (aA db f.2) (aA db f.2).1.2.2.1 (ao f.1 (getD x.2 j (zi zf.sl)))else Q4)=Q3 then Q1 (.inr (.kb Q4,[]))else
   Q1 (.inl (.h11 db (zS db f.2) db (db.length:Int) (i:Int) x.1.t.1 (x.1.t.1.length:Int) (k:Int) x.2 (x.2.length:Int) ((j+1:Nat):Int) (x,()) (f,()))):=by
  show(gn (.h11 _ _ _ _ _ _ _ _ _ _ _ _ _)).val=_;unfold gn;simp only[zl,Q8,zH hj,zu hj,hc _ (bE hj),dq hf,aJ,if_true,qV];rw[if_pos (by cases((getD (getD x.2 j (zi zf.sl)) (toNat f.1) (zi zf)).1!=0)<;>rfl)];rw[zq j um]
 by_cases h1:(ao f.1 (getD x.2 j (zi zf.sl))).1=0
 ·exact .inl ⟨λh=>absurd h1 h,zR.of (by rw[hv,if_neg (by rw[h1];simp)])⟩
 ·have h1':((ao f.1 (getD x.2 j (zi zf.sl))).1!=0)=Q3:=by simpa using h1
  by_cases h2:gG (aA db f.2) (aA db f.2).1.2.2.1 (ao f.1 (getD x.2 j (zi zf.sl)))=Q3
  ·exact .inl ⟨λ_=>h2,zR.of (by rw[hv,if_neg (by rw[h2,h1'];simp)])⟩
  ·exact .inr ⟨λh=>h2 (h h1),_,zV.of (by rw[hv,if_pos (by rw[h1'];simpa using h2)]),rfl⟩
theorem zaK{db:List (Sem zh)}{x:Sem zh}{i:Nat}(hc:∀f∈x.1.t.1,∀row∈x.2,zP f.1 (length row)=Q3)(hl:x.2.length<=1000)(hr:x.1.t.1.length<=1000):
  let P:Nat->Prop:=λk=>LE.le (α:=Int) 0 (zS db (getD x.1.t.1 k (zi zr)).2)/\∀row∈x.2,(ao (getD x.1.t.1 k (zi zr)).1 row).1≠0->gG (aA db (getD x.1.t.1 k (zi zr)).2) (aA db (getD x.1.t.1 k (zi zr)).2).1.2.2.1 (ao (getD x.1.t.1 k (zi zr)).1 row)=Q3
  ((∀k,k<x.1.t.1.length->P k)/\zR gn (x.1.t.1.length*1002) (.h5 db db (db.length:Int) (i:Int) x.1.t.1 (x.1.t.1.length:Int) ((0:Nat):Int) (x,())) (.h5 db db (db.length:Int) (i:Int) x.1.t.1 (x.1.t.1.length:Int) (x.1.t.1.length:Int) (x,())))\/
  ((¬∀k,k<x.1.t.1.length->P k)/\∃r,zV gn (x.1.t.1.length*1002) (.h5 db db (db.length:Int) (i:Int) x.1.t.1 (x.1.t.1.length:Int) ((0:Nat):Int) (x,())) r/\TM r):=by
 intro P;refine lN (t:=gn) (Φ:=TM) 1002 (λk=>.h5 db db (db.length:Int) (i:Int) x.1.t.1 (x.1.t.1.length:Int) (k:Int) (x,())) P x.1.t.1.length ?_;intro k hk _
 have hv:(gn (.h5 db db (db.length:Int) (i:Int) x.1.t.1 (x.1.t.1.length:Int) (k:Int) (x,()))).val=
   if Q0 (LT.lt (α:=Int) (zS db (getD x.1.t.1 k (zi zr)).2) 0)=Q3 then Q1 (.inr (.kb Q4,[]))else
   Q1 (.inl (.h11 db (zS db (getD x.1.t.1 k (zi zr)).2) db (db.length:Int) (i:Int) x.1.t.1 (x.1.t.1.length:Int) (k:Int) x.2 (x.2.length:Int) ((0:Nat):Int) (x,()) (getD x.1.t.1 k (zi zr),()))):=by
  show(gn (.h5 _ _ _ _ _ _ _ _)).val=_;unfold gn;simp only[Q8,zH hk,zu hk,aJ,if_true];rfl
 by_cases h1:LE.le (α:=Int) 0 (zS db (getD x.1.t.1 k (zi zr)).2)
 ·have g1:=zR.of (t:=gn) (s:=.h5 db db (db.length:Int) (i:Int) x.1.t.1 (x.1.t.1.length:Int) (k:Int) (x,())) (by rw[hv,if_neg (by rw[aN];omega)]);rcases U6 (db:=db) (x:=x) (f:=getD x.1.t.1 k (zi zr)) (i:=i) (k:=k) h1 (hc _ (bE hk)) hl with⟨h2,h3⟩|⟨h2,r,h3,h4⟩
  ·have hv2:(gn (.h11 db (zS db (getD x.1.t.1 k (zi zr)).2) db (db.length:Int) (i:Int) x.1.t.1 (x.1.t.1.length:Int) (k:Int) x.2 (x.2.length:Int) (x.2.length:Int) (x,()) (getD x.1.t.1 k (zi zr),()))).val=
     Q1 (.inl (.h5 db db (db.length:Int) (i:Int) x.1.t.1 (x.1.t.1.length:Int) ((k+1:Nat):Int) (x,()))):=by
    show(gn (.h11 _ _ _ _ _ _ _ _ _ _ _ _ _)).val=_;unfold gn;simp only[Q8,zz];rw[zq k um];rfl
   refine .inl ⟨⟨h1,?_⟩,((g1.trans h3).trans (zR.of hv2)).mono ow⟩;exact(aq (Q:=λrow=>(ao (getD x.1.t.1 k (zi zr)).1 row).1≠0->gG (aA db (getD x.1.t.1 k (zi zr)).2) (aA db (getD x.1.t.1 k (zi zr)).2).1.2.2.1 (ao (getD x.1.t.1 k (zi zr)).1 row)=Q3)).1 h2
  ·refine .inr ⟨λh=>h2 ?_,r,(g1.ends h3).mono ow,h4⟩;exact(aq (Q:=λrow=>(ao (getD x.1.t.1 k (zi zr)).1 row).1≠0->gG (aA db (getD x.1.t.1 k (zi zr)).2) (aA db (getD x.1.t.1 k (zi zr)).2).1.2.2.1 (ao (getD x.1.t.1 k (zi zr)).1 row)=Q3)).2 h.2
 ·exact .inr ⟨λh=>h1 h.1,_,(zV.of (by rw[hv,if_pos (by rw[aN];omega)])).mono ow,rfl⟩
theorem HE{db:List (Sem zh)}(hc:∀x∈db,∀f∈x.1.t.1,∀row∈x.2,zP f.1 (length row)=Q3)(hs:∀x∈db,gz x)(hl:db.length<=13):∃b,xR db=Q1 (b,())/\(b=Q3↔Di db):=by
 have h2:=lN (t:=gn) (Φ:=TM) 1010000 (λi=>.h2 db db (db.length:Int) (i:Int)) (λi=>∀f∈(getD db i (zi zh)).1.t.1,LE.le (α:=Int) 0 (zS db f.2)/\∀row∈(getD db i (zi zh)).2,(ao f.1 row).1≠0->gG (aA db f.2) (aA db f.2).1.2.2.1 (ao f.1 row)=Q3) db.length (by
  intro i hi _;have hm:=bE (d:=zi zh) hi;have hS:=hs _ hm;have s1:=hS.rf;have s2:=hS.rw;have hv:(gn (.h2 db db (db.length:Int) (i:Int))).val=Q1 (.inl (.h5 db db (db.length:Int) (i:Int) (getD db i (zi zh)).1.t.1 ((getD db i (zi zh)).1.t.1.length:Int) ((0:Nat):Int) (getD db i (zi zh),()))):=by
   show(gn (.h2 _ _ _ _)).val=_;unfold gn;simp only[Q8,zH hi,zu hi,aJ,if_true];rfl
  have g1:=zR.of hv;rcases zaK (db:=db) (x:=getD db i (zi zh)) (i:=i) (hc _ hm) s2 s1 with⟨h2,h3⟩|⟨h2,r,h3,h4⟩
  ·have hv2:(gn (.h5 db db (db.length:Int) (i:Int) (getD db i (zi zh)).1.t.1 ((getD db i (zi zh)).1.t.1.length:Int) ((getD db i (zi zh)).1.t.1.length:Int) (getD db i (zi zh),()))).val=Q1 (.inl (.h2 db db (db.length:Int) ((i+1:Nat):Int))):=by
    show(gn (.h5 _ _ _ _ _ _ _ _)).val=_;unfold gn;simp only[Q8,zz];rw[zq i um];rfl
   refine .inl ⟨?_,((g1.trans h3).trans (zR.of hv2)).mono ow⟩;exact(aq (Q:=λf:Sem zr=>LE.le (α:=Int) 0 (zS db f.2)/\∀row∈(getD db i (zi zh)).2,(ao f.1 row).1≠0->gG (aA db f.2) (aA db f.2).1.2.2.1 (ao f.1 row)=Q3)).1 h2
  ·refine .inr ⟨λh=>h2 ?_,r,(g1.ends h3).mono ow,h4⟩;exact(aq (Q:=λf:Sem zr=>LE.le (α:=Int) 0 (zS db f.2)/\∀row∈(getD db i (zi zh)).2,(ao f.1 row).1≠0->gG (aA db f.2) (aA db f.2).1.2.2.1 (ao f.1 row)=Q3)).2 h)
 have hb:(∀i,i<db.length->∀f∈(getD db i (zi zh)).1.t.1,LE.le (α:=Int) 0 (zS db f.2)/\∀row∈(getD db i (zi zh)).2,(ao f.1 row).1≠0->gG (aA db f.2) (aA db f.2).1.2.2.1 (ao f.1 row)=Q3)↔Di db:=
  aq (Q:=λx:Sem zh=>∀f∈x.1.t.1,LE.le (α:=Int) 0 (zS db f.2)/\∀row∈x.2,(ao f.1 row).1≠0->gG (aA db f.2) (aA db f.2).1.2.2.1 (ao f.1 row)=Q3)
 have hi:(zgu db).val=Q1 (.inl (.h2 db db (db.length:Int) ((0:Nat):Int))):=rfl;rcases h2 with⟨h2,h3⟩|⟨h2,r,h3,h4⟩
 ·refine⟨Q3,zx hi (h3.ends (zV.of (r:=(.kb Q3,[])) ?_)) ow rfl,λ_=>hb.1 h2,λ_=>rfl⟩;show(gn (.h2 _ _ _ _)).val=_;unfold gn;simp only[Q8,zz];rfl
 ·unfold TM at h4;subst h4;exact⟨Q4,zx hi h3 ow rfl,λh=>(by cases h),λh=>absurd (hb.2 h) h2⟩
structure iF (db:List (Sem zh)):Prop where
 few:db.length<=12
 names:∀i,i<db.length-1->Op.bytesLess (getD db i (zi zh)).1.1 (getD db (i+1) (zi zh)).1.1=Q3
 rels:∀x∈db,eJ x
 bound:Di db
theorem eJ.cols{x:Sem zh}(h:eJ x):∀f∈x.1.t.1,∀row∈x.2,zP f.1 (length row)=Q3:=by
 intro f hf row hr;obtain⟨_,h1,_,_,_⟩:=gP h.may;rw[AX (by simpa using h.fits row hr)];exact tw (h1 f hf)
theorem wR{db:List (Sem zh)}(hs:∀x∈db,gz x):∃e:Int,sQ db=Q1 (e,())/\(e=0↔iF db):=by
 by_cases hw:db.length<=12
 case neg=>
  refine⟨13,?_,λh=>(by cases h),λh=>absurd h.few hw⟩;unfold sQ al cT;simp only[Vy,Q8];rw[if_pos sg];rfl
 have hi:(Vy db).val=Q1 (.inl (.h4 db ((0+1:Nat):Int))):=by
  simp only[Vy,Q8];rw[if_neg sg];rfl
 have h4:=lN (t:=nv) (Φ:=TL) 1 (λi=>.h4 db ((i+1:Nat):Int)) (λi=>Op.bytesLess (getD db i (zi zh)).1.1 (getD db (i+1) (zi zh)).1.1=Q3) (db.length-1) (by
  intro i hi _;have h1:i<db.length:=by omega
  have h2:i+1<db.length:=by omega
  have hv:(nv (.h4 db ((i+1:Nat):Int))).val=if(!Op.bytesLess (getD db i (zi zh)).1.1 (getD db (i+1) (zi zh)).1.1)=Q3 then Q1 (.inr (.int .i64 15,[]))else Q1 (.inl (.h4 db ((i+1+1:Nat):Int))):=by
   show(nv (.h4 _ _)).val=_;unfold nv;simp only[pz i um];simp only[Q8,zH h2,zu h2,zu h1,aJ,if_true];rw[zq (i+1) um]
  by_cases h:Op.bytesLess (getD db i (zi zh)).1.1 (getD db (i+1) (zi zh)).1.1=Q3
  ·exact .inl ⟨h,zR.of (by rw[hv,if_neg (by rw[h];simp)])⟩
  ·exact .inr ⟨h,_,zV.of (by rw[hv,if_pos (by simpa using h)]),15,rfl,by decide⟩)
 rcases h4 with⟨hn,h4⟩|⟨hn,r,h4,e,he,hne⟩
 case inr=>
  subst he;exact⟨e,zx hi h4 ow rfl,λh=>absurd h hne,λh=>absurd h.names hn⟩
 have hv4:(nv (.h4 db ((db.length-1+1:Nat):Int))).val=Q1 (.inl (.h9 db db (db.length:Int) ((0:Nat):Int))):=by
  show(nv (.h4 _ _)).val=_;unfold nv;simp only[Q8];rw[if_neg sg];rfl
 have g9:=h4.trans (zR.of hv4);have h9:=lN (t:=nv) (Φ:=TL) 1 (λi=>.h9 db db (db.length:Int) (i:Int)) (λi=>eJ (getD db i (zi zh))) db.length (by
  intro i hi _;obtain⟨e,he,heq⟩:=Jj (hs _ (bE (d:=zi zh) hi));have hc:GB (getD db i (zi zh))=Q3:=by unfold GB;rw[he];rfl
  have hv0:Lh (getD db i (zi zh))=e:=by unfold Lh;rw[he];rfl
  have hv:(nv (.h9 db db (db.length:Int) (i:Int))).val=if(e !=0)=Q3 then Q1 (.inr (.int .i64 e,[]))else Q1 (.inl (.h9 db db (db.length:Int) ((i+1:Nat):Int))):=by
   show(nv (.h9 _ _ _ _)).val=_;unfold nv;simp only[zl,Q8,zH hi,zu hi,aJ,if_true,Prod.eta,hc,hv0];rw[zq i um]
  by_cases h:e=0
  ·exact .inl ⟨heq.1 h,zR.of (by rw[hv,if_neg (by rw[h];simp)])⟩
  ·exact .inr ⟨λhr=>h (heq.2 hr),_,zV.of (by rw[hv,if_pos (by simpa using h)]),e,rfl,h⟩)
 rcases h9 with⟨hr,h9⟩|⟨hr,r,h9,e,he,hne⟩
 case inr=>
  subst he;exact⟨e,zx hi (g9.ends h9) ow rfl,λh=>absurd h hne,λh=>absurd ((aq (Q:=eJ)).2 h.rels) hr⟩
 have hrels:=(aq (Q:=eJ)).1 hr;obtain⟨b,hb,hbb⟩:=HE (db:=db) (λx hx=>(hrels x hx).cols) hs ow;have hc:Fe db=Q3:=by unfold Fe;rw[hb];rfl
 have hv0:J2 db=b:=by unfold J2;rw[hb];rfl
 have hv9:(nv (.h9 db db (db.length:Int) (db.length:Int))).val=if(!b)=Q3 then Q1 (.inr (.int .i64 10,[]))else Q1 (.inr (.int .i64 0,[])):=by
  show(nv (.h9 _ _ _ _)).val=_;unfold nv;simp only[Q8,zz,hc,hv0,if_true];rfl
 by_cases h:b=Q3
 ·exact⟨0,zx hi (g9.ends (h9.ends (zV.of (by rw[hv9,if_neg (by rw[h];simp)])))) ow rfl,λ_=>⟨hw,hn,hrels,hbb.1 h⟩,λ_=>rfl⟩
 ·exact⟨10,zx hi (g9.ends (h9.ends (zV.of (by rw[hv9,if_pos (by simpa using h)])))) ow rfl,λh=>(by cases h),λhB=>absurd (hbb.2 hB.bound) h⟩
theorem Ff{db:List (Sem zh)}(hs:∀x∈db,gz x):mJ db=Q3:=by
 obtain⟨e,h,_⟩:=wR hs;unfold mJ;rw[h];rfl
theorem jR{db:List (Sem zh)}(hs:∀x∈db,gz x):ke db=(0:Int)↔iF db:=by
 obtain⟨e,h,h2⟩:=wR hs;unfold ke;rw[h];exact h2
abbrev YT(x0:Sem zh.sl)(x1:Sem zk):zn be:=(x0,x1,([],[],0,[],[],ze.mk [] (0,0,[]) [] []),([],[],0,[],[],ze.mk [] (0,0,[]) [] []),x1.1,x1.2.2.1,x1.t.t.t,x1.2.1,0,x1.t.t.1,0,())
theorem Ky(x0:Sem zh.sl)(x1:Sem zk):zbl x0 x1=(let a8:=mb (YT x0 x1)
  let a11:=Et a8.2
  let a14:=Eu a8.2
  let a17:=vW a8.2
  Il x0 x1 x1.t.t.1 x1 (!dW x1) (nu x1&&bif !dW x1 then Q3 else mJ x0) (bif !dW x1 then Q3 else ke x0 !=0) (qM 16 x1.t.t.1) (YT x0 x1) (mc (YT x0 x1)) a8 (a8.1==0) a8.2 a11 a11.2 (fa a11.2) a14 a14.2 (fa a14.2) a17 a17.2 (fa a17.2)):=by
 unfold zbl;simp only[Od,Mj,zl]
abbrev SM(z:zn aj):Sem zE:=(z.t.1,z.t.2.1,z.t.q.1,(z.t.q.2.1,z.t.t.1,z.t.t.2.1,[],[],z.t.t.q.1),z.t.t.q.2.1,z.t.t.t.1)
abbrev jn:Sem zE:=([],[],[],([],[],0,[],[],ze.mk [] (0,0,[]) [] []),[],0)
def au(db:List (Sem zh))(n:zA):Sem zo:=(getD db (toNat (zS db n)) (zi zh)).1
abbrev zk9:Sem zo:=([],[],0,[],[],ze.mk [] (0,0,[]) [] [])
def fP(db:List (Sem zh))(n:zA):Sem zo:=if n=[]then zk9 else au db n
def ji(e:Int)(p:Sem zE):Int×Sem zE:=if e=0 then(if uI p.2.2.2.1=0 then(0,p)else(uI p.2.2.2.1,jn))else(e,jn)
def da(db:List (Sem zh))(s:Sem zk):Int×Sem zE:=
 if(s.1==[99,111,112,121])=Q3 then
  ji (uX (au db s.2.2.1) s.2.2.2.1) (s.1,s.2.2.1,s.t.t.t,(s.2.1,fY (au db s.2.2.1) s.2.2.2.1,gN (ky (au db s.2.2.1) s.2.2.2.1) (au db s.2.2.1).2.2.1,[],[],s.t.t.1),ky (au db s.2.2.1) s.2.2.2.1,0)
 else if(s.1==[106,111,105,110])=Q3 then
  ji (gO (au db s.2.2.1) (fP db s.t.t.t) s.t.2.1 s.t.t.t)
   (s.1,s.2.2.1,s.t.t.t,(s.2.1,(au db s.2.2.1).2.1++gg (fP db s.t.t.t) (length (fP db s.t.t.t).2.1),(au db s.2.2.1).2.2.1,[],[],s.t.t.1),
    jN (fP db s.t.t.t).2.2.1 (length (fP db s.t.t.t).2.1),zN (au db s.2.2.1) s.t.2.1)
 else if(s.1==[103,114,111,117,112])=Q3 then
  ji (r8 (au db s.2.2.1) s.2.2.2.1) (s.1,s.2.2.1,s.t.t.t,(s.2.1,C7 (au db s.2.2.1) s.2.2.2.1,0,[],[],s.t.t.1),ky (au db s.2.2.1) s.2.2.2.1,0)
 else(1,jn)
def aS(db:List (Sem zh))(s:Sem zk):Int×Sem zE:=
 if jk s.1/\dW s=Q3/\ke db=(0:Int)then(if nt db s.2.2.1 s.t.t.t s.2.1=0 then da db s else(nt db s.2.2.1 s.t.t.t s.2.1,jn))else(1,jn)
theorem lw{s:Sem zk}(h:dW s=Q3):eW s=Q3:=by
 unfold dW pg at h;by_cases hp:eW s=Q3
 ·exact hp
 ·exfalso;simp only[gJ]at hp;simp[hp]at h
theorem l5{db:List (Sem zh)}{s:zA}(h:(0:Int)<=zS db s):db.getD (toNat (zS db s)) (zi zh)∈db:=by
 have:=dq h;simp only[zP,aD,aN]at this;exact tq _ _ ow
theorem B8(e:Int):aL [] [zE,zg] (tup [agg [str [],str [],str [],str [],nils,ai 0,nils,nils,str [],ai 0,ai 0,str [],str [],nils,nils,ai 0],ai e])=Q1 (jn,e,()):=rfl
theorem zco(z:zn aj):aL [AO.vec zj z.t.t.1] [zE,zg] (tup [agg [str z.t.1,str z.t.2.1,str z.t.q.1,str z.t.q.2.1,AV.vec 0,
  ai z.t.t.2.1,nils,nils,str (ze.op z.t.t.q.1),ai (ze.v z.t.t.q.1).1,ai (ze.v z.t.t.q.1).2.1,str (ze.v z.t.t.q.1).2.2,str (ze.s z.t.t.q.1),sl Sh.expr (ze.l z.t.t.q.1),
  sl zg z.t.t.q.2.1,ai z.t.t.t.1],ai 0])=Q1 (SM z,0,()):=by
 obtain⟨z0,z1,z2,z3,z4,z5,z6,z7,z8,z9,z10,z11,z12,z13⟩:=z;cases z10;rfl
def PlS(x0:Sem zh.sl)(x1:Sem zk):Prop:=IP x0 x1=Q1 ((aS x0 x1).2,(aS x0 x1).1,())
theorem we{x0:Sem zh.sl}{x1:Sem zk}{o:Option (zy (List.map Q1 [zE,zg]))}{e:Int}(h:o=Q1 (jn,e,()))(hp:aS x0 x1=(e,jn)):o=Q1 ((aS x0 x1).2,(aS x0 x1).1,()):=by rw[hp];exact h
theorem V9{x0:Sem zh.sl}{x1:Sem zk}(hM:nu x1=Q3)(hB:mJ x0=Q3)(hmay:(bif !dW x1 then Q3 else ke x0 !=0)=Q3):PlS x0 x1:=by
 have h3:(nu x1&&bif !dW x1 then Q3 else mJ x0)=Q3:=by rw[hM,hB];cases dW x1<;>rfl
 have hp:aS x0 x1=(1,jn):=by
  unfold aS;rw[if_neg];rintro⟨_,h1,h2⟩;rw[h1]at hmay;simp[h2]at hmay
 refine we ?_ hp;unfold IP al cT;rw[Ky];simp only[Il,Q8,h3,hmay,if_true];by_cases o1:(x1.1==[99,111,112,121])=Q3
 ·simp only[o1,if_true];rfl
 ·by_cases o2:(x1.1==[106,111,105,110])=Q3
  ·simp only[o1,o2,if_true];rfl
  ·by_cases o3:(x1.1==[103,114,111,117,112])=Q3
   ·simp only[o1,o2,o3,if_true];rfl
   ·simp only[o1,o2,o3];rfl
theorem zck{x0:Sem zh.sl}{x1:Sem zk}{y:zn be}{z:zn aj}{cols:List (Sem zj)}{key:Int}{ix:List Int}{on:Int}(k3:y.t=(YT x0 x1).t)(hk:mF y z)
  (hch:z.t.t.q.1=y.t.t.2.1) (hA:Dh z cols key ix on):SM z=(x1.1,x1.2.2.1,x1.t.t.t,(x1.2.1,cols,key,[],[],x1.t.t.1),ix,on):=by
 obtain⟨_,_,_,_,a4,a5,a6,a7⟩:=hk;have e4:z.t.1=x1.1:=by rw[a4,k3]
 have e5:z.t.2.1=x1.2.2.1:=by rw[a5,k3]
 have e6:z.t.q.1=x1.t.t.t:=by rw[a6,k3]
 have e7:z.t.q.2.1=x1.2.1:=by rw[a7,k3]
 have e8:z.t.t.q.1=x1.t.t.1:=by rw[hch,k3]
 show(z.t.1,z.t.2.1,z.t.q.1,(z.t.q.2.1,z.t.t.1,z.t.t.2.1,[],[],z.t.t.q.1),z.t.t.q.2.1,z.t.t.t.1)=_;rw[e4,e5,e6,e7,e8,hA.cols,hA.key,hA.ix,hA.on]
theorem zcj{x0:Sem zh.sl}{x1:Sem zk}(hdb:∀x∈x0,gz x)(hl:length x0<=13)(hs:JT x1):PlS x0 x1:=by
 by_cases hg:jk x1.1;rotate_left
 ·have o1:(x1.1==[99,111,112,121])=Q4:=by simpa using λk=>hg (.inl k)
  have o2:(x1.1==[106,111,105,110])=Q4:=by simpa using λk=>hg (.inr (.inl k))
  have o3:(x1.1==[103,114,111,117,112])=Q4:=by simpa using λk=>hg (.inr (.inr k))
  refine we (e:=1) ?_ (by unfold aS;rw[if_neg λh=>hg h.1]);unfold IP al cT;rw[Ky];simp only[Il,Q8,o1,o2,o3];rfl
 have hM:=JB hs.sh hg;have hB:=Ff hdb;by_cases hmay:(bif !dW x1 then Q3 else ke x0 !=0)=Q3
 ·exact V9 hM hB hmay
 have h3:(nu x1&&bif !dW x1 then Q3 else mJ x0)=Q3:=by rw[hM,hB];cases dW x1<;>rfl
 have hm1:dW x1=Q3:=by
  cases h:dW x1
  ·rw[h]at hmay;simp at hmay
  ·rfl
 have hb1:ke x0=(0:Int):=by
  rw[hm1]at hmay;simpa using hmay
 have hparts:=lw hm1;have hrels:=((jR hdb).1 hb1).rels;obtain⟨e8,y8,h8,k1,k2,k3,k5,k4⟩:=IF (YT x0 x1) (by show length x0<=_;omega);have s8:mb (YT x0 x1)=(e8,y8):=by unfold mb;rw[h8];rfl
 have c8:mc (YT x0 x1)=Q3:=by unfold mc;rw[h8];rfl
 have k5:e8=nt x0 x1.2.2.1 x1.t.t.t x1.2.1:=k5;have hS:jk x1.1->aS x0 x1=if e8=0 then da x0 x1 else(e8,jn):=by
  intro h;unfold aS;rw[if_pos ⟨h,hm1,hb1⟩,k5]
 unfold PlS IP al cT;rw[Ky];simp only[Il,Q8,h3,hmay,hs.cp,s8,c8,if_true];by_cases e80:e8=0
 ·have hsrc:=k4 e80;have n2:y8.2.1=x1:=k2;have n1:y8.1=x0:=k1;have nk:y8.t.t.1=(0:Int):=by rw[k3]
  have non:y8.t.t.q.1=(0:Int):=by rw[k3]
  have nw:y8.t.q.1=x1.t.t.t:=by rw[k3]
  have hfrom:y8.2.2.1=au x0 x1.2.2.1:=hsrc.t.1;have hwith:y8.2.2.2.1=fP x0 x1.t.t.t:=hsrc.t.2;have mayf:=gP (hrels _ (l5 (db:=x0) (s:=x1.2.2.1) hsrc.1)).may;rw[show(getD x0 (toNat (zS x0 x1.2.2.1)) (zi zh)).1=y8.2.2.1 from hfrom.symm]at mayf;have hwl:length y8.2.2.2.1.2.1<=100:=by
   rw[hwith];unfold fP;split
   ·simp
   ·rename_i hw;have:=(gP (hrels _ (l5 (db:=x0) (s:=x1.t.t.t) (hsrc.2.1.resolve_left hw))).may).2.2.2.1;unfold au;omega
  have e8b:(e8==0)=Q3:=by simpa using e80
  simp only[e8b,if_true];by_cases o1:(x1.1==[99,111,112,121])=Q3
  ·have hmg:jk x1.1:=Or.inl (bA o1);obtain⟨z,h11,hk,hch,hlen,hA⟩:=R3 y8 (by rw[n2];have:=hs.sh.names.1;omega);rw[n2,hfrom,non]at hA;rw[n2,hfrom]at h11;generalize hce:uX (au x0 x1.2.2.1) x1.2.2.2.1=e11 at h11 hA;have us:Et y8=(e11,z):=by unfold Et;rw[h11];rfl
   have c11:FQ y8=Q3:=by unfold FQ;rw[h11];rfl
   have hP:=hS hmg;rw[if_pos e80]at hP;unfold da at hP;rw[if_pos o1,hce]at hP;simp only[o1,us,c11,if_true];by_cases e0:e11=0
   ·have hz:=zck k3 hk hch (hA e0);have h13:=sm z hlen;have hT:No z=(SM z).2.2.2.1:=rfl;rw[hT,hz]at h13;unfold ji at hP;rw[if_pos e0]at hP;generalize he13:uI _=e13 at h13 hP;have s13:fa z=(e13,z):=by unfold fa;rw[h13];rfl
    have c13:fZ z=Q3:=by unfold fZ;rw[h13];rfl
    have e0b:(e11==0)=Q3:=by simpa using e0
    simp only[e0b,s13,c13,if_true];by_cases f0:e13=0
    ·have f0c:(e13 !=0)=Q4:=by simp[f0]
     simp only[f0c];rw[if_pos f0]at hP;rw[hP];exact(zco z).trans (by rw[hz])
    ·have f0c:(e13 !=0)=Q3:=by simpa using f0
     simp only[f0c,if_true];rw[if_neg f0]at hP;exact we (B8 e13) hP
   ·have e0b:(e11==0)=Q4:=by simpa using e0
    have e0c:(e11 !=0)=Q3:=by simpa using e0
    unfold ji at hP;rw[if_neg e0]at hP;simp only[e0b,e0c,if_true];exact we (B8 e11) hP
  ·by_cases o2:(x1.1==[106,111,105,110])=Q3
   ·have hmg:jk x1.1:=Or.inr (Or.inl (bA o2));obtain⟨z,h11,hk,hch,hlen,hA⟩:=R4 y8 (by have:=mayf.2.2.2.1;omega) hwl;rw[n2,nw,hfrom,hwith]at hA;rw[n2,nw,hfrom,hwith]at h11;generalize hce:gO (au x0 x1.2.2.1) (fP x0 x1.t.t.t) x1.t.2.1 x1.t.t.t=e11 at h11 hA;have us:Eu y8=(e11,z):=by unfold Eu;rw[h11];rfl
    have c11:FS y8=Q3:=by unfold FS;rw[h11];rfl
    have hP:=hS hmg;rw[if_pos e80]at hP;unfold da at hP;rw[if_neg o1,if_pos o2,hce]at hP;simp only[o1,o2,us,c11,if_true];by_cases e0:e11=0
    ·have hz:=zck k3 hk hch (hA e0);have h13:=sm z hlen;have hT:No z=(SM z).2.2.2.1:=rfl;rw[hT,hz]at h13;unfold ji at hP;rw[if_pos e0]at hP;generalize he13:uI _=e13 at h13 hP;have s13:fa z=(e13,z):=by unfold fa;rw[h13];rfl
     have c13:fZ z=Q3:=by unfold fZ;rw[h13];rfl
     have e0b:(e11==0)=Q3:=by simpa using e0
     simp only[e0b,s13,c13,if_true];by_cases f0:e13=0
     ·have f0c:(e13 !=0)=Q4:=by simp[f0]
      simp only[f0c];rw[if_pos f0]at hP;rw[hP];exact(zco z).trans (by rw[hz])
     ·have f0c:(e13 !=0)=Q3:=by simpa using f0
      simp only[f0c,if_true];rw[if_neg f0]at hP;exact we (B8 e13) hP
    ·have e0b:(e11==0)=Q4:=by simpa using e0
     have e0c:(e11 !=0)=Q3:=by simpa using e0
     unfold ji at hP;rw[if_neg e0]at hP;simp only[e0b,e0c,if_true];exact we (B8 e11) hP
   ·by_cases o3:(x1.1==[103,114,111,117,112])=Q3
    ·have hmg:jk x1.1:=Or.inr (Or.inr (bA o3));obtain⟨z,h11,hk,hch,hlen,hA⟩:=Ox y8 (by rw[n2];exact lh hparts (bA o3));rw[n2,hfrom,non,nk]at hA;rw[n2,hfrom]at h11;generalize hce:r8 (au x0 x1.2.2.1) x1.2.2.2.1=e11 at h11 hA;have us:vW y8=(e11,z):=by unfold vW;rw[h11];rfl
     have c11:yf y8=Q3:=by unfold yf;rw[h11];rfl
     have hP:=hS hmg;rw[if_pos e80]at hP;unfold da at hP;rw[if_neg o1,if_neg o2,if_pos o3,hce]at hP;simp only[o1,o2,o3,us,c11,if_true];by_cases e0:e11=0
     ·have hz:=zck k3 hk hch (hA e0);have h13:=sm z hlen;have hT:No z=(SM z).2.2.2.1:=rfl;rw[hT,hz]at h13;unfold ji at hP;rw[if_pos e0]at hP;generalize he13:uI _=e13 at h13 hP;have s13:fa z=(e13,z):=by unfold fa;rw[h13];rfl
      have c13:fZ z=Q3:=by unfold fZ;rw[h13];rfl
      have e0b:(e11==0)=Q3:=by simpa using e0
      simp only[e0b,s13,c13,if_true];by_cases f0:e13=0
      ·have f0c:(e13 !=0)=Q4:=by simp[f0]
       simp only[f0c];rw[if_pos f0]at hP;rw[hP];exact(zco z).trans (by rw[hz])
      ·have f0c:(e13 !=0)=Q3:=by simpa using f0
       simp only[f0c,if_true];rw[if_neg f0]at hP;exact we (B8 e13) hP
     ·have e0b:(e11==0)=Q4:=by simpa using e0
      have e0c:(e11 !=0)=Q3:=by simpa using e0
      unfold ji at hP;rw[if_neg e0]at hP;simp only[e0b,e0c,if_true];exact we (B8 e11) hP
    ·simp only[o1,o2,o3];refine we (B8 1) ?_;unfold aS;rw[if_neg];rintro⟨h|h|h,_⟩
     ·exact o1 (aX.2 h)
     ·exact o2 (aX.2 h)
     ·exact o3 (aX.2 h)
 ·have e8b:(e8==0)=Q4:=by simpa using e80
  have e8c:(e8 !=0)=Q3:=by simpa using e80
  have hP:jk x1.1->aS x0 x1=(e8,jn):=λh=>by rw[hS h,if_neg e80]
  simp only[e8b,e8c,if_true];by_cases o1:(x1.1==[99,111,112,121])=Q3
  ·simp only[o1,if_true];exact we (B8 e8) (hP (Or.inl (bA o1)))
  ·by_cases o2:(x1.1==[106,111,105,110])=Q3
   ·simp only[o1,o2,if_true];exact we (B8 e8) (hP (Or.inr (Or.inl (bA o2))))
   ·by_cases o3:(x1.1==[103,114,111,117,112])=Q3
    ·simp only[o1,o2,o3,if_true];exact we (B8 e8) (hP (Or.inr (Or.inr (bA o3))))
    ·simp only[o1,o2,o3];refine we (B8 1) ?_;unfold aS;rw[if_neg];rintro⟨h|h|h,_⟩
     ·exact o1 (aX.2 h)
     ·exact o2 (aX.2 h)
     ·exact o3 (aX.2 h)
end
end Cad
