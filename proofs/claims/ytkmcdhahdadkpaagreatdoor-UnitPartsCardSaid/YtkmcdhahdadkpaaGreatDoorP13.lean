/- Tables with rows that may be: no value twice. What is asked of tables with rows, and of bases, holds. What is asked of bases holds. Tables with rows that may be. -/
import Derived.Test.YtkmcdhahdadkpaaGreatDoorP10
import Derived.Test.YtkmcdhahdadkpaaGreatDoorP08
import Derived.Test.YtkmcdhahdadkpaaGreatDoorP12
import Derived.Test.YtkmcdhahdadkpaaGreatDoorP11
import Derived.Test.YtkmcdhahdadkpaaGreatDoorP09
namespace Cad
open Go Go.Proofs
open Tr renaming val→Q8
open Bool renaming false→Q4,true→Q3
open Option renaming some→Q1
open Decidable renaming decide→Q0
open Int (toNat)
open List (getD length)
open Tr (chk br re)
open AV (nils agg tup ptr kb str sl)
noncomputable section
set_option maxHeartbeats 4000000
abbrev ao(c:Int)(r:List (Sem zf)):Sem zf:=getD r (toNat c) (zi zf)
def qO(rows:List (List (Sem zf)))(c:Int):Prop:=rows.Pairwise λa b=>(ao c a).1≠0->ao c a≠ao c b
theorem pA:∀(es:List ((Int×Int×zB)×Int))(k:Int×Int×zB)(x:Int),jH (jx es k) (kW es k) x=jT es k x
 |[],k,x=>by simp[jx,mJ,kW,jH,jT]
 | p::r,k,x=>by
  have h:=pA r k x;cases hk:(k==p.1)with
  | true=>
   have e:k=p.1:=bF hk;simp[jx,mJ,kW,jH,jT,e]
  | false=>
   have e:jx (p::r) k=p::jx r k:=by
    simp only[jx,mJ,List.any_cons,hk,Bool.false_or];cases(r.any λp=>k==p.1)<;>rfl
   rw[e,kW,jT,hk];show p::jH (jx r k) (kW r k) x=p::jT r k x;rw[h]
theorem E9(es:List ((Int×Int×zB)×Int))(k k':Int×Int×zB)(x:Int):fX (jT es k x) k'=if k'=k then x else fX es k':=by
 induction es with
 | nil=>
  by_cases h:k'=k
  ·subst h;simp[jT,fX]
  ·simp[jT,fX,h]
 | cons p r ih=>
  rw[jT];cases hk:(k==p.1)with
  | true=>
   have e:k=p.1:=bF hk;by_cases h:k'=k
   ·simp[fX,h]
   ·have h2:(k'==p.1)=Q4:=by rw[<-e];simpa using h
    have h3:(k'==k)=Q4:=by simpa using h
    simp only[ay,fX,List.find?_cons,h2,h3,if_neg h]
  | false=>
   show fX (p::jT r k x) k'=_;cases hp:(k'==p.1)with
   | true=>
    have e:k'=p.1:=bF hp;have h:k'≠k:=by intro h;rw[<-h,hp]at hk;cases hk
    simp only[fX,List.find?_cons,hp,if_neg h]
   | false=>
    simp only[fX,List.find?_cons,hp]at ih⊢;exact ih
def tL:List (Sem zf)->List ((Int×Int×zB)×Int)
 |[]=>[]
 |v::r=>jT (tL r) v (IntKind.i64.wrap (fX (tL r) v+1))
theorem IS:∀l:List (Sem zf),(tL l).length<=l.length
 |[]=>aB _
 | v::r=>by
  rw[tL,<-pA,CQ];have:=TR (tL r) v;have:=IS r;simp;omega
theorem Bk:∀(l:List (Sem zf))(v:Sem zf),l.length<=1000000->fX (tL l) v=(l.count v:Int)
 |[],v,_=>by simp[tL,fX]
 | u::r,v,h=>by
  simp only[eZ]at h;have h1:=Bk r u ow;have h2:=Bk r v ow;have h3:r.count u<=r.length:=List.count_le_length;rw[tL,E9,h1,h2,zp _ um];by_cases e:v=u
  ·subst e;simp
  ·have e':¬(u==v)=Q3:=by intro h;exact e (bF h).symm
   rw[if_neg e,List.count_cons,if_neg e'];rfl
theorem Jt{x:Sem zh}{c:Int}(hc:∀r∈x.2,zM c (length r)=Q3)(hl:x.2.length<=1000000):∃b,yF x c=Q1 (b,())/\(b=Q4↔qO x.2 c):=by
  let key:Nat->Sem zf:=λi=>ao c (getD x.2 i (zi zf.sl))
  let mm:Nat->List ((Int×Int×zB)×Int):=λi=>tL (((x.2.take i).map (ao c)).reverse)
  have hm:∀i,i<x.2.length->mm (i+1)=jT (mm i) (key i) (IntKind.i64.wrap (fX (mm i) (key i)+1)):=by
    intro i hi;show tL (((x.2.take (i+1)).map (ao c)).reverse)=_;rw[List.take_succ_eq_append_getElem hi,gZ,List.reverse_append];show tL (ao c x.2[i]::_)=_;rw[tL];have:key i=ao c x.2[i]:=by
      show ao c (getD x.2 i _)=_;rw[ba,zR hi,dq]
    rw[this];rfl
  have hlen:∀i,i<=x.2.length->(mm i).length<=i:=by
    intro i hi;have:=IS (((x.2.take i).map (ao c)).reverse);simp at this;have h2:(mm i).length=(tL (((x.2.take i).map (ao c)).reverse)).length:=rfl;simp at h2;omega
  have hget:∀i v,i<=x.2.length->fX (mm i) v=((((x.2.take i).map (ao c)).count v:Nat):Int):=by
    intro i v hi;show fX (tL _) v=_;rw[Bk _ _ sg,List.count_reverse]
  have hf:=lH (t:=Ct) (Φ:=λr=>aL r.2 [Sh.bool] r.1=some (true,())) 1 (λi=>.h3 c x.2 (x.2.length:Int) (i:Int) (mm i)) (λi=>(key i).1≠0->((x.2.take i).map (ao c)).count (key i)=0) x.2.length (by
    intro i hi _;have k0:getD x.2 (i:Int).toNat (zi zf.sl)=getD x.2 i (zi zf.sl):=by rw[aJ]
    have k1:getD x.2 i (zi zf.sl)=x.2[i]:=by rw[ba,zR hi,dq]
    have k2:zM c (length x.2[i])=Q3:=hc _ (bq hi);have k3:key i=ao c x.2[i]:=by show ao c (getD x.2 i _)=_;rw[k1]
    have k4:zM ((kW (mm i) (key i):Nat):Int) (jx (mm i) (key i)).length=Q3:=zu (WN _ _);have k5:Q0 ((mm i).length<=1073741824)=Q3:=zt (by have:=hlen i ow;omega);have k6:jH (jx (mm i) (key i)) ((kW (mm i) (key i):Nat):Int).toNat (IntKind.i64.wrap (fX (mm i) (key i)+1))=mm (i+1):=by rw[aJ,pA,hm i hi]
    have k7:fX (mm (i+1)) (key i)=((((x.2.take i).map (ao c)).count (key i)+1:Nat):Int):=by
      have h3:((x.2.take i).map (ao c)).count (key i)<=((x.2.take i).map (ao c)).length:=List.count_le_length;simp only[cX,nI]at h3;rw[hm i hi,E9,if_pos rfl,hget i _ ow,zp _ um]
    have hv:(Ct (.h3 c x.2 (x.2.length:Int) (i:Int) (mm i))).val=if(bif (key i).1!=0 then Q0 (((((x.2.take i).map (ao c)).count (key i)+1:Nat):Int)>1)else Q4)=Q3 then Q1 (.inr (.kb Q3,[]))else Q1 (.inl (.h3 c x.2 (x.2.length:Int) ((i+1:Nat):Int) (mm (i+1)))):=by
      show(Ct (.h3 c x.2 _ _ _)).val=_;unfold Ct;simp only[k0,k1];rw[show getD x.2[i] (toNat c) (zi zf)=key i from k3.symm];simp only[Q8,zH hi,zu hi,k2,k4,k5,if_true,k6,k7];rw[zp i um]
    by_cases h1:(key i).1=0
    · refine .inl ⟨λh=>absurd h1 h,zQ.of ?_⟩
      rw[hv,if_neg (by simp[h1])]
    · by_cases h2:((x.2.take i).map (ao c)).count (key i)=0
      · refine .inl ⟨λ_=>h2,zQ.of ?_⟩
        rw[hv,if_neg (by rw[h2];simp)]
      · refine .inr ⟨fun h => h2 (h h1),(.kb true,[]),zT.of ?_,rfl⟩
        rw [hv, if_pos (by have:((key i).1 != 0)=true:=by simpa using h1
                           rw[this];simp only[ay,aP];omega)])
  have hu:(∀i,i<x.2.length->(key i).1≠0->((x.2.take i).map (ao c)).count (key i)=0)↔qO x.2 c:=by
    unfold qO;rw[List.pairwise_iff_getElem];constructor
    · intro h j i hj hi hji hne e
      have k3:key i=ao c x.2[i]:=by show ao c (getD x.2 i _)=_;rw[ba,zR hi,dq]
      have:=h i hi (by rw[k3,<-e];exact hne);rw[List.count_eq_zero,k3,<-e]at this;exact this (bl.2 ⟨_,List.mem_take_iff_getElem.2 ⟨j,ow,rfl⟩,rfl⟩)
    · intro h i hi hne
      have k3:key i=ao c x.2[i]:=by show ao c (getD x.2 i _)=_;rw[ba,zR hi,dq]
      rw[List.count_eq_zero];intro hmem;obtain⟨r,hr,e⟩:=bl.1 hmem;obtain⟨j,hj,rfl⟩:=List.mem_take_iff_getElem.1 hr;rw[k3]at e hne;exact h j i ow hi ow (by rw[e];exact hne) e
  have hgo:(Yq x c).val=Q1 (.inl (.h3 c x.2 (x.2.length:Int) ((0:Nat):Int) (mm 0))):=rfl;rcases hf with⟨h1,h2⟩|⟨h1,r,h2,h3⟩
  · refine⟨Q4,?_,λ_=>hu.1 h1,λ_=>rfl⟩
    refine zx hgo (h2.ends (zT.of (r:=(.kb Q4,[])) ?_)) ow rfl;show(Ct (.h3 c x.2 _ _ _)).val=_;simp only[Ct,Q8,zA];rfl
  · refine⟨Q3,zx hgo h2 ow h3,⟨λh=>?_,λh=>absurd (hu.2 h) h1⟩⟩
    cases h
structure gB (x:Sem zh):Prop where
 uq:x.1.2.2.2.1.length<=1000
 rf:x.1.t.1.length<=1000
 rw:x.2.length<=1000
theorem wS(l:List (Sem zh))(s:zB):zS l s=(-1:Int)\/((0:Int)<=zS l s/\LT.lt (α:=Int) (zS l s) l.length):=by
 have:=ia (λx:Sem zh=>x.1.1==s) l 0;simp at this;exact this
theorem dr{l:List (Sem zh)}{s:zB}(h:(0:Int)<=zS l s):zM (zS l s) (length l)=Q3:=by
 rcases wS l s with h1|⟨h1,h2⟩
 ·rw[h1]at h;omega
 ·simp only[zM,aD,aP];exact⟨h1,h2⟩
theorem aq{α:Type}{l:List α}{d:α}{Q:α->Prop}:(∀i,i<l.length->Q (l.getD i d))↔∀x∈l,Q x:=by
 constructor
 ·intro h x hx;obtain⟨i,hi,rfl⟩:=gL hx;have:=h i hi
  rwa [ba,zR hi,dq]at this
 ·intro h i hi;rw[ba,zR hi,dq];exact h _ (bq hi)
theorem bI{α:Type}{l:List α}{d:α}{i:Nat}(hi:i<l.length):l.getD i d∈l:=by
 rw[ba,zR hi,dq];exact bq hi
theorem mL(i:Nat)(h:i<aE):IntKind.i64.wrap (((i+1:Nat):Int)-1)=(i:Int):=by
 have:aE=9223372036854775807:=rfl;rw[fM];omega
def xA(a b:Sem zf):Prop:=LT.lt (α:=Int) (cD a b) 0
theorem Nv{a b:Sem zf}:Q0 (GE.ge (α:=Int) (cD a b) 0)=Q3↔¬xA a b:=by
 unfold xA;rw[aP];omega
structure eI (x:Sem zh):Prop where
 may:eF x.1=Q3
 few:x.2.length<=200
 fits:∀r∈x.2,dW x.1 r=(0:Int)
 key:qO x.2 x.1.2.2.1
 uniq:∀u∈x.1.2.2.2.1,qO x.2 u
 rise:∀i,i<x.2.length-1->xA (ao x.1.2.2.1 (getD x.2 i (zi zf.sl))) (ao x.1.2.2.1 (getD x.2 (i+1) (zi zf.sl)))
def TW(r:aw):Prop:=∃e:Int,r=(.int .i64 e,[])/\e≠0
theorem Js{x:Sem zh}(hs:gB x):∃e:Int,nB x=Q1 (e,())/\(e=0↔eI x):=by
 have hsw:=hs.rw;have hsu:=hs.uq;have fin:∀{k:Nat}{r:aw},zT jS k (.h6 x.2 (x.2.length:Int) ((0:Nat):Int) (x,())) r->k<=100000000->(On x).val=Q1 (.inl (.h6 x.2 (x.2.length:Int) ((0:Nat):Int) (x,())))->∀e:Int,r=(.int .i64 e,[])->nB x=Q1 (e,()):=by
  intro k r h hk hi e he;subst he;exact zx hi h hk rfl
 by_cases hm:eF x.1=Q3
 case neg=>
  refine⟨1,?_,λh=>(by cases h),λh=>absurd h.may hm⟩;unfold nB al cU;simp only[On,zl,Q8];rw[if_pos (by simpa using hm)];rfl
 by_cases hw:x.2.length<=200
 case neg=>
  refine⟨13,?_,λh=>(by cases h),λh=>absurd h.few hw⟩;unfold nB al cU;simp only[On,zl,Q8];rw[if_neg (by simpa using hm),if_pos sg];rfl
 have hi:(On x).val=Q1 (.inl (.h6 x.2 (x.2.length:Int) ((0:Nat):Int) (x,()))):=by
  simp only[On,zl,Q8];rw[if_neg (by simpa using hm),if_neg sg];rfl
 obtain⟨hkc,hrc,huc,_,_⟩:=gR hm;have h6:=lH (t:=jS) (Φ:=TW) 1 (λi=>.h6 x.2 (x.2.length:Int) (i:Int) (x,())) (λi=>dW x.1 (getD x.2 i (zi zf.sl))=(0:Int)) x.2.length (by
  intro i hi _;have hv:(jS (.h6 x.2 (x.2.length:Int) (i:Int) (x,()))).val=if(dW x.1 (getD x.2 i (zi zf.sl))!=0)=Q3 then Q1 (.inr (.int .i64 (dW x.1 (getD x.2 i (zi zf.sl))),[]))else Q1 (.inl (.h6 x.2 (x.2.length:Int) ((i+1:Nat):Int) (x,()))):=by
   show(jS (.h6 x.2 _ _ _)).val=_;unfold jS;simp only[zl,Q8,zH hi,zu hi,if_true,aJ];rw[zp i um]
  by_cases h:dW x.1 (getD x.2 i (zi zf.sl))=(0:Int)
  ·refine .inl ⟨h,zQ.of ?_⟩;rw[hv,if_neg (by rw[h];simp)]
  ·refine .inr ⟨h,_,zT.of (by rw[hv,if_pos (by simpa using h)]),_,rfl,h⟩)
 rcases h6 with⟨hf,h6⟩|⟨hf,r,h6,e,he,hne⟩
 case inr=>
  exact⟨e,fin h6 ow hi e he,λh=>absurd h hne,λh=>absurd ((aq (Q:=λr=>dW x.1 r=(0:Int))).2 h.fits) hf⟩
 have hfits:=(aq (Q:=λr=>dW x.1 r=(0:Int))).1 hf;have hlen:∀r∈x.2,length r=x.1.2.1.length:=λr hr=>AY (by simpa using hfits r hr)
 have hin:∀c,CV c x.1.2.1.length->∀r∈x.2,zM c (length r)=Q3:=λc hc r hr=>by
  rw[hlen r hr];exact tz hc
 obtain⟨b,hb,hbu⟩:=Jt (x:=x) (c:=x.1.2.2.1) (hin _ hkc) ow;have hbc:qB x x.1.2.2.1=Q3:=by unfold qB;rw[hb];rfl
 have hbv:wo x x.1.2.2.1=b:=by unfold wo;rw[hb];rfl
 have hv6:(jS (.h6 x.2 (x.2.length:Int) (x.2.length:Int) (x,()))).val=if b=Q3 then Q1 (.inr (.int .i64 7,[]))else Q1 (.inl (.h15 x.1.2.2.2.1 (x.1.2.2.2.1.length:Int) ((0:Nat):Int) (x,()))):=by
  show(jS (.h6 x.2 _ _ _)).val=_;unfold jS;simp only[zl,Q8,zA,hbc,hbv,if_true];rfl
 by_cases hb1:b=Q3
 ·refine⟨7,fin (h6.ends (zT.of (by rw[hv6,if_pos hb1]))) ow hi 7 rfl,λh=>(by cases h),λh=>?_⟩;have:=hbu.2 h.key;rw[hb1]at this;cases this
 have hkey:qO x.2 x.1.2.2.1:=hbu.1 (by simpa using hb1);have g15:zQ jS _ (.h6 x.2 (x.2.length:Int) ((0:Nat):Int) (x,())) _:=h6.trans (zQ.of (by rw[hv6,if_neg hb1]));have h15:=lH (t:=jS) (Φ:=TW) 1 (λi=>.h15 x.1.2.2.2.1 (x.1.2.2.2.1.length:Int) (i:Int) (x,())) (λi=>qO x.2 (getD x.1.2.2.2.1 i (zi zg))) x.1.2.2.2.1.length (by
  intro i hi _;obtain⟨b,hb,hbu⟩:=Jt (x:=x) (c:=getD x.1.2.2.2.1 i (zi zg)) (hin _ (huc _ (bI hi))) ow;have hbc:qB x (getD x.1.2.2.2.1 i (zi zg))=Q3:=by unfold qB;rw[hb];rfl
  have hbv:wo x (getD x.1.2.2.2.1 i (zi zg))=b:=by unfold wo;rw[hb];rfl
  have hv:(jS (.h15 x.1.2.2.2.1 (x.1.2.2.2.1.length:Int) (i:Int) (x,()))).val=if b=Q3 then Q1 (.inr (.int .i64 7,[]))else Q1 (.inl (.h15 x.1.2.2.2.1 (x.1.2.2.2.1.length:Int) ((i+1:Nat):Int) (x,()))):=by
   show(jS (.h15 _ _ _ _)).val=_;unfold jS;simp only[zl,Q8,zH hi,zu hi,if_true,aJ,hbc,hbv];rw[zp i um]
  by_cases h:b=Q3
  ·refine .inr ⟨λhu=>?_,_,zT.of (by rw[hv,if_pos h]),7,rfl,by decide⟩;have:=hbu.2 hu;rw[h]at this;cases this
  ·exact .inl ⟨hbu.1 (by simpa using h),zQ.of (by rw[hv,if_neg h])⟩)
 rcases h15 with⟨hq,h15⟩|⟨hq,r,h15,e,he,hne⟩
 case inr=>
  exact⟨e,fin (g15.ends h15) ow hi e he,λh=>absurd h hne,λh=>absurd ((aq (Q:=λu=>qO x.2 u)).2 h.uniq) hq⟩
 have huniq:=(aq (Q:=λu=>qO x.2 u)).1 hq;have hv15:(jS (.h15 x.1.2.2.2.1 (x.1.2.2.2.1.length:Int) (x.1.2.2.2.1.length:Int) (x,()))).val=Q1 (.inl (.h21 ((0+1:Nat):Int) (x,()))):=by
  show(jS (.h15 _ _ _ _)).val=_;unfold jS;simp only[Q8,zA];rfl
 have g21:=(g15.trans h15).trans (zQ.of hv15);have h21:=lH (t:=jS) (Φ:=TW) 1 (λi=>.h21 ((i+1:Nat):Int) (x,())) (λi=>xA (ao x.1.2.2.1 (getD x.2 i (zi zf.sl))) (ao x.1.2.2.1 (getD x.2 (i+1) (zi zf.sl)))) (x.2.length-1) (by
  intro i hi _;have h1:i<x.2.length:=by omega
  have h2:i+1<x.2.length:=by omega
  have hv:(jS (.h21 ((i+1:Nat):Int) (x,()))).val=if Q0 (GE.ge (α:=Int) (cD (ao x.1.2.2.1 (getD x.2 i (zi zf.sl))) (ao x.1.2.2.1 (getD x.2 (i+1) (zi zf.sl)))) 0)=Q3 then Q1 (.inr (.int .i64 15,[]))else Q1 (.inl (.h21 ((i+1+1:Nat):Int) (x,()))):=by
   show(jS (.h21 _ _)).val=_;unfold jS;simp only[mL i um];simp only[Q8,zH h2,zu h2,zu h1,aJ,hin _ hkc _ (bI h1),hin _ hkc _ (bI h2),if_true];rw[zp (i+1) um]
  by_cases h:xA (ao x.1.2.2.1 (getD x.2 i (zi zf.sl))) (ao x.1.2.2.1 (getD x.2 (i+1) (zi zf.sl)))
  ·exact .inl ⟨h,zQ.of (by rw[hv,if_neg (λh2=>Nv.1 h2 h)])⟩
  ·exact .inr ⟨h,_,zT.of (by rw[hv,if_pos (Nv.2 h)]),15,rfl,by decide⟩)
 rcases h21 with⟨hr,h21⟩|⟨hr,r,h21,e,he,hne⟩
 case inr=>
  exact⟨e,fin (g21.ends h21) ow hi e he,λh=>absurd h hne,λh=>absurd h.rise hr⟩
 have hv21:(jS (.h21 ((x.2.length-1+1:Nat):Int) (x,()))).val=Q1 (.inr (.int .i64 0,[])):=by
  show(jS (.h21 _ _)).val=_;unfold jS;simp only[Q8];rw[if_neg sg]
 exact⟨0,fin (g21.ends (h21.ends (zT.of hv21))) ow hi 0 rfl,λ_=>⟨hm,hw,hfits,hkey,huniq,hr⟩,λ_=>rfl⟩
def lK(v:Sem zf):Prop:=LE.le (α:=Int) (-9223372036854775808) v.2.1/\LE.le (α:=Int) v.2.1 9223372036854775807/\v.2.2.length<=1000000
theorem bK:∀s:zB,Op.bytesLess s s=Q4
 |[]=>rfl
 |a::r=>by simp[Op.bytesLess,bK r]
theorem OH(s:zB):(oX s<0)↔∀b∈s,32<=b.toNat/\b.toNat<=126:=by
 refine Sr (p:=λr=>Bo r) (λc=>?_) s;unfold Bo;cases h:Q0 ((c:Int)<32)with
 |true=>simp at h⊢;omega
 |false=>simp at h⊢;omega
theorem V0(b0 b1 b2 b3 c0 c1 e l:Bool):∃r,(if b0=Q3 then Q1 (.inr (.bool (bif c0 then e else Q4),[]))else if b1=Q3 then Q1 (.inr (.bool e,[]))else if b2=Q3 then Q1 (.inr (.bool (bif c0 then l else Q4),[]))else if b3=Q3 then Q1 (.inr (.bool (bif c0 then e else bif c1 then e else Q4),[]))else Q1 (.inr (.kb Q4,[])):Option (yU⊕aw))=Q1 (.inr r)/\
  aL r.2 [Sh.bool] r.1=Q1 ((if b0=Q3 then if(!c0)=Q3 then Q4 else e else if b1=Q3 then e else if b2=Q3 then bif c0 then bif l then Q3 else Q4 else Q4 else if b3=Q3 then bif c0 then e else bif c1 then e else Q4 else Q4:Bool),()):=by
 cases b0<;>cases b1<;>cases b2<;>cases b3<;>cases c0<;>cases c1<;>cases e<;>cases l<;>exact⟨_,rfl,rfl⟩
theorem VZ(b0 b1 b2 b3 c0 c1 l:Bool):(if b0=Q3 then if(!c0)=Q3 then Q4 else Q4 else if b1=Q3 then Q4 else if b2=Q3 then bif c0 then bif l then Q4 else Q4 else Q4 else if b3=Q3 then bif c0 then Q4 else bif c1 then Q4 else Q4 else Q4)=Q4:=by
 cases b0<;>cases b1<;>cases b2<;>cases b3<;>cases c0<;>cases c1<;>cases l<;>rfl
theorem I8{v:Sem zf}(hl:v.2.2.length<=1000000):Ge v=Q1 (aW v,()):=by
 obtain⟨k,n,s⟩:=v;have hl:s.length<=1000000:=hl;have hf:=lH (t:=xx) (Φ:=λr=>r=(.kb Q4,[])) 1 (λi=>.h2 (i:Int) ((k,n,s),())) (λi=>32<=(getD s i 0).toNat/\(getD s i 0).toNat<=126) s.length (by
  intro i hi _;have hv:(xx (.h2 (i:Int) ((k,n,s),()))).val=if(bif Q0 (((getD s i 0).toNat:Int)<32)then Q3 else Q0 (((getD s i 0).toNat:Int)>126))=Q3 then Q1 (.inr (.kb Q4,[]))else Q1 (.inl (.h2 ((i+1:Nat):Int) ((k,n,s),()))):=by
   show(xx (.h2 _ _)).val=_;unfold xx;simp only[Q8,zH hi,zu hi,aJ,if_true];rw[if_pos (by cases Q0 (((getD s i 0).toNat:Int)<32)<;>rfl)];rw[zp i um]
  by_cases h1:(getD s i 0).toNat<32
  ·refine .inr ⟨λh=>by omega,_,zT.of (by rw[hv,if_pos (by rw[zt ow];rfl)]),rfl⟩
  ·by_cases h2:126<(getD s i 0).toNat
   ·refine .inr ⟨λh=>by omega,_,zT.of (by rw[hv,if_pos (by rw[af ow,zt ow];rfl)]),rfl⟩
   ·refine .inl ⟨ow,zQ.of (by rw[hv,if_neg (by rw[af ow,af ow];simp)])⟩)
 have hi:(Yn (k,n,s)).val=Q1 (.inl (.h2 ((0:Nat):Int) ((k,n,s),()))):=rfl;have ho:=OH s;have hq:=aq (l:=s) (d:=0) (Q:=λb=>32<=b.toNat/\b.toNat<=126);rcases hf with⟨h1,h2⟩|⟨h1,r,h2,rfl⟩
 ·have ho2:Q0 (oX s<0)=Q3:=zt (ho.2 (hq.1 h1));have hv:(xx (.h2 (s.length:Int) ((k,n,s),()))).val=(if(k==0)=Q3 then Q1 (.inr (.bool (bif (n==0)then(s==[])else Q4),[]))else if(k==1)=Q3 then Q1 (.inr (.bool (s==[]),[]))else if(k==2)=Q3 then Q1 (.inr (.bool (bif (n==0)then Q0 ((length s:Int)<=40)else Q4),[]))else if(k==3)=Q3 then Q1 (.inr (.bool (bif (n==0)then(s==[])else bif (n==1)then(s==[])else Q4),[]))else Q1 (.inr (.kb Q4,[]))):=by
   show(xx (.h2 _ _)).val=_;unfold xx;simp only[Q8,zA];rw[if_neg sw]
  obtain⟨r,hr1,hr2⟩:=V0 (k==0) (k==1) (k==2) (k==3) (n==0) (n==1) (s==[]) (Q0 ((length s:Int)<=40));have hm:aW (k,n,s)=(if(k==0)=Q3 then if(!(n==0))=Q3 then Q4 else(s==[])else if(k==1)=Q3 then(s==[])else if(k==2)=Q3 then bif (n==0)then bif Q0 ((length s:Int)<=40)then Q3 else Q4 else Q4 else if(k==3)=Q3 then bif (n==0)then(s==[])else bif (n==1)then(s==[])else Q4 else Q4):=by
   simp only[aW,ho2];rfl
  rw[hm];exact zx hi (h2.ends (zT.of (hv.trans hr1))) ow hr2
 ·have ho2:Q0 (oX s<0)=Q4:=af (λh=>h1 (hq.2 (ho.1 h)));have hs:(s==[])=Q4:=by
   cases s with
   |nil=>exact absurd (λi hi=>absurd hi sw) h1
   |cons _ _=>rfl
  have hm:aW (k,n,s)=Q4:=by
   simp only[aW,ho2,hs];exact VZ (k==0) (k==1) (k==2) (k==3) (n==0) (n==1) (Q0 ((length s:Int)<=40))
  rw[hm];exact zx hi h2 ow rfl
theorem kH{v:Sem zf}(hl:v.2.2.length<=1000000):lO v=Q3:=by unfold lO;rw[I8 hl];rfl
theorem nj{v:Sem zf}(hl:v.2.2.length<=1000000):ry v=aW v:=by unfold ry;rw[I8 hl];rfl
theorem EO{v:Sem zf}(hl:v.2.2.length<=1000000):tY v=Q1 (ap v,()):=by
 unfold tY al cU;simp only[Yp,Q8,kH hl,nj hl,if_true,ap];cases aW v<;>rfl
theorem qj{v:Sem zf}(hl:v.2.2.length<=1000000):qi v=Q3:=by unfold qi;rw[EO hl];rfl
theorem tZ{v:Sem zf}(hl:v.2.2.length<=1000000):eS v=ap v:=by unfold eS;rw[EO hl];rfl
def wB(b:Bool):Sem zf:=if b then(3,1,[])else(3,0,[])
theorem BI(b:Bool):tX b=Q1 (wB b,()):=by cases b<;>rfl
theorem nl(b:Bool):kI b=Q3:=by unfold kI;rw[BI];rfl
theorem gS(b:Bool):aU b=wB b:=by unfold aU;rw[BI];rfl
def Hm(v:Sem zf)(n:Int):Bool:=v.1==3&&(v.2.1==n&&(v.2.2==[]&&Q3))
theorem M1(v:Sem zf)(b:Bool):I7 v b=Q1 (Hm v (bif b then 1 else 0),()):=by
 unfold I7 al cU;simp only[Yo,Q8,nl,gS,if_true];cases b<;>rfl
theorem yj(v:Sem zf)(b:Bool):mo v b=Q3:=by unfold mo;rw[M1];rfl
theorem Gd(v:Sem zf)(b:Bool):o9 v b=Hm v (bif b then 1 else 0):=by unfold o9;rw[M1];rfl
theorem mI:aQ 0=(0,0,[]):=by decide
theorem kS:aQ 1=(3,0,[]):=by decide
theorem kT:aQ 2=(3,1,[]):=by decide
theorem jb(v:Sem zf):(dO v==1)=Hm v 0/\(dO v==2)=Hm v 1:=by
 obtain⟨k,n,s⟩:=v;unfold dO Hm;simp only[aW];by_cases hk:k=3
 ·subst hk;by_cases h0:n=0
  ·subst h0;cases hs:(s==[])<;>simp[fM]
  ·by_cases h1:n=1
   ·subst h1;cases hs:(s==[])<;>simp[fM]
   ·have e0:(n==0)=Q4:=by simpa using h0
    have e1:(n==1)=Q4:=by simpa using h1
    simp[e0,e1]
 ·have e:(k==3)=Q4:=by simpa using hk
  have e':(k !=3)=Q3:=by simpa using hk
  simp[e,e']
theorem I6(a b:Sem zf):BB a b=Q1 (Dk a b,()):=by
 unfold BB al cU;simp only[Yv,Q8,yj,Gd,gS,Dk,(jb a).1,(jb a).2,(jb b).1,(jb b).2,mI,kS,kT,aN,ay];cases Hm a 0<;>cases Hm b 0<;>cases Hm a 1<;>cases Hm b 1<;>rfl
theorem M3(a b:Sem zf):Ja a b=Q1 (T3 a b,()):=by
 unfold Ja al cU;simp only[Yw,Q8,yj,Gd,gS,T3,(jb a).1,(jb a).2,(jb b).1,(jb b).2,mI,kS,kT,aN,ay];cases Hm a 0<;>cases Hm b 0<;>cases Hm a 1<;>cases Hm b 1<;>rfl
theorem I9(a:Sem zf):BE a=Q1 (xL a,()):=by
 unfold BE al cU;simp only[Yu,Q8,yj,Gd,gS,xL,(jb a).1,(jb a).2,mI,kS,kT,aN,ay];cases Hm a 0<;>cases Hm a 1<;>rfl
theorem R8(k k' n n':Int)(s s':zB):(if(k==k'&&(n==n'&&(s==s'&&Q3)))=Q3 then(0:Int)else if(bif Q0 (k<k')then Q3 else bif k==k' then bif Q0 (n<n')then Q3 else bif n==n' then Op.bytesLess s s' else Q4 else Q4)=Q3 then -1 else 1)=F1 [rP k k',kk n n',nY s s']:=by
 simp only[F1,rP,kk,nY];rcases Ae k k' with h|h|h
 ·have c1:(k==k')=Q4:=bN.2 ow;simp[c1,h]
 ·subst h;rcases Ae n n' with h|h|h
  ·have c1:(n==n')=Q4:=bN.2 ow;simp[c1,h]
  ·subst h;by_cases hs:s=s'
   ·subst hs;simp[bK]
   ·have c1:(s==s')=Q4:=bN.2 hs;by_cases hl:Op.bytesLess s s'=Q3
    ·simp[c1,hl]
    ·simp[c1,hl]
  ·have c1:(n==n')=Q4:=bN.2 ow;have c2:¬n<n':=by omega
   simp[c1,c2,h]
 ·have c1:(k==k')=Q4:=bN.2 ow;have c2:¬k<k':=by omega
  simp[c1,c2,h]
theorem BG{a b:Sem zf}(ha:a.2.2.length<=1000000)(hb:b.2.2.length<=1000000):pe a b=Q1 (cD a b,()):=by
 unfold pe al cU;simp only[zgG,Q8,qj ha,qj hb,tZ ha,tZ hb,if_true,cD];rw[<-R8];generalize((ap a).1==(ap b).1&&((ap a).2.1==(ap b).2.1&&((ap a).2.2==(ap b).2.2&&Q3)))=b1;generalize(bif Q0 ((ap a).1<(ap b).1)then Q3 else bif (ap a).1==(ap b).1 then bif Q0 ((ap a).2.1<(ap b).2.1)then Q3 else bif (ap a).2.1==(ap b).2.1 then Op.bytesLess (ap a).2.2 (ap b).2.2 else Q4 else Q4)=b2;cases b1<;>cases b2<;>rfl
theorem zY{α:Type}(l:List α)(d:α){i:Nat}(h:i<l.length):l.getD ((i:Int).toNat) d=l[i]:=by
 rw[aJ,ba,zR h,dq]
theorem tr{α:Type}(l:List α)(d:α){i:Nat}(h:i<l.length):l.getD i d∈l:=by
 rw[ba,zR h,dq];exact bq h
def bD(f w:zB):List zB:=if(w==[])=Q3 then[f]else[f,w]
def dK(db:List (Sem zh))(ns:List zB):Bool:=db.any λx=>!aA ns x.1.1&&Q0 (GE.ge (α:=Int) (ae (λf:Sem zr=>aA ns f.2) x.1.t.1 0) 0)
def nD(db:List (Sem zh))(f w t:zB):Int:=
 if∀n∈bD f w,LE.le (α:=Int) 0 (zS db n)then(if(Q0 (GE.ge (α:=Int) (zS db t) 0)||f==w)=Q3 then 7 else if dK db (bD f w)=Q3 then 10 else 0)else 6
def XT(y:zn bf)(y':zn bf):Prop:=
 (0:Int)<=zS y.1 y.t.2.1/\(y.t.q.1=[]\/(0:Int)<=zS y.1 y.t.q.1)/\LT.lt (α:=Int) (zS y.1 y.2.1.2.1) 0/\y.t.2.1≠y.t.q.1/\
 y'.2.2.1=(getD y.1 (toNat (zS y.1 y.t.2.1)) (zi zh)).1/\
 y'.2.2.2.1=(if y.t.q.1=[]then y.2.2.2.1 else(getD y.1 (toNat (zS y.1 y.t.q.1)) (zi zh)).1)
def U3(y:zn bf)(r:aw):Prop:=∃(e:Int)(y':zn bf),r=(.int .i64 e,ar bf y')/\y'.1=y.1/\y'.2.1=y.2.1/\y'.t=y.t/\e=nD y.1 y.t.2.1 y.t.q.1 y.2.1.2.1/\(e=0->XT y y')
theorem ziY(y:zn bf)(ns:List zB)(hl:length y.1<=1000000)(h1:(0:Int)<=zS y.1 y.t.2.1)(h2:y.t.q.1=[]\/(0:Int)<=zS y.1 y.t.q.1)(h3:LT.lt (α:=Int) (zS y.1 y.2.1.2.1) 0)(h4:y.t.2.1≠y.t.q.1)(hE:nD y.1 y.t.2.1 y.t.q.1 y.2.1.2.1=if dK y.1 ns=Q3 then 10 else 0)(n:Nat)(hn:1+length y.1<=n):
  ∃r,cQ CC n (.h11 y.1 (length y.1:Int) 0 y ns)=Q1 r/\U3 y r:=by
 refine de (t:=CC) (β:=Unit) (length y.1) (λ_ i=>.h11 y.1 (length y.1:Int) (i:Int) y ns) (λ_ i=>∀j(hj:j<length y.1),j<i->(!aA ns y.1[j].1.1&&Q0 (GE.ge (α:=Int) (ae (λf:Sem zr=>aA ns f.2) y.1[j].1.t.1 0) 0))=Q4) (U3 y) 1 ?_ ?_ (length y.1) 0 () n rfl (bd _) (λj _ h=>by omega) hn
 ·intro b i hi hI;simp only[CC,G3,CD,Q8,zH hi,zu hi,if_true,zY y.1 _ hi];rw[zp i um];have hnext:(!aA ns y.1[i].1.1&&Q0 (GE.ge (α:=Int) (ae (λf:Sem zr=>aA ns f.2) y.1[i].1.t.1 0) 0))=Q4->∀j(hj:j<length y.1),j<i+1->(!aA ns y.1[j].1.1&&Q0 (GE.ge (α:=Int) (ae (λf:Sem zr=>aA ns f.2) y.1[j].1.t.1 0) 0))=Q4:=by
   intro h j hj hji;by_cases hji2:j=i
   ·subst hji2;exact h
   ·exact hI j hj ow
  by_cases c1:(!aA ns y.1[i].1.1)=Q3
  ·simp only[c1,if_true];split
   ·rename_i c2;refine Or.inr ⟨_,rfl,10,y,rfl,rfl,rfl,rfl,?_,λh=>by cases h⟩;have hr:dK y.1 ns=Q3:=by
     unfold dK;exact List.any_eq_true.2 ⟨y.1[i],bq hi,by rw[c1];simpa using c2⟩
    rw[hE,if_pos hr]
   ·rename_i c2;exact Or.inl ⟨(),hnext (by rw[c1];simpa using c2),rfl⟩
  ·simp only[c1];exact Or.inl ⟨(),hnext (by simp only[gg]at c1;rw[c1];rfl),rfl⟩
 ·intro b n hI hn;have hr:dK y.1 ns=Q4:=by
   unfold dK;rw[List.any_eq_false];intro x hx;obtain⟨j,hj,rfl⟩:=gL hx;rw[hI j hj hj];simp
  rw[hr]at hE
  replace hE:=hE.symm
  simp only[zG,if_false]at hE;obtain⟨n,rfl⟩:∃k,n=k+1:=⟨n-1,ow⟩;rw[cE];simp only[CC,G3,CD,Q8,zA,dr h1,if_true];by_cases c1:(!y.t.q.1==[])=Q3
  ·have hne:y.t.q.1≠[]:=by simpa using c1
   have hb:(0:Int)<=zS y.1 y.t.q.1:=h2.resolve_left hne;simp only[c1,if_true,dr hb];refine⟨_,rfl,0,_,rfl,rfl,rfl,rfl,hE,λ_=>⟨h1,h2,h3,h4,rfl,?_⟩⟩;simp[hne]
  ·have he:y.t.q.1=[]:=by simpa using c1
   simp only[c1];refine⟨_,rfl,0,_,rfl,rfl,rfl,rfl,hE,λ_=>⟨h1,h2,h3,h4,rfl,?_⟩⟩;simp[he]
theorem zlB(y:zn bf)(ns:List zB)(hns:ns=bD y.t.2.1 y.t.q.1)(hl:length y.1<=1000000)(n:Nat)(hn:2+length y.1+ns.length<=n):
  ∃r,cQ CC n (.h3 ns (length ns:Int) 0 y ns)=Q1 r/\U3 y r:=by
 have hnl:ns.length<=2:=by rw[hns];unfold bD;split<;>simp
 refine de (t:=CC) (β:=Unit) ns.length (λ_ i=>.h3 ns (length ns:Int) (i:Int) y ns) (λ_ i=>∀j(hj:j<ns.length),j<i->(0:Int)<=zS y.1 ns[j]) (U3 y) (2+length y.1) ?_ ?_ ns.length 0 () n rfl (bd _) (λj _ h=>by omega) hn
 ·intro b i hi hI;simp only[CC,LA,G4,Q8,zH hi,zu hi,if_true,zY ns _ hi];rw[zp i um];by_cases c1:(0:Int)<=zS y.1 ns[i]
  ·have:Q0 (LT.lt (α:=Int) (zS y.1 ns[i]) 0)=Q4:=by simpa using c1
   simp only[this];refine Or.inl ⟨(),λj hj hji=>?_,rfl⟩;by_cases hji2:j=i
   ·subst hji2;exact c1
   ·exact hI j hj ow
  ·have:Q0 (LT.lt (α:=Int) (zS y.1 ns[i]) 0)=Q3:=by simpa using c1
   simp only[this,if_true];refine Or.inr ⟨_,rfl,6,y,rfl,rfl,rfl,rfl,?_,λh=>by cases h⟩;unfold nD;rw[if_neg];intro h;exact c1 (h _ (by rw[<-hns];exact bq hi))
 ·intro b n hI hn;obtain⟨n,rfl⟩:∃k,n=k+1:=⟨n-1,ow⟩;have hA:∀n∈bD y.t.2.1 y.t.q.1,LE.le (α:=Int) 0 (zS y.1 n):=by
   intro x hx;rw[<-hns]at hx;obtain⟨j,hj,rfl⟩:=gL hx;exact hI j hj hj
  have hE:nD y.1 y.t.2.1 y.t.q.1 y.2.1.2.1=if(Q0 (GE.ge (α:=Int) (zS y.1 y.2.1.2.1) 0)||y.t.2.1==y.t.q.1)=Q3 then 7 else if dK y.1 ns=Q3 then 10 else 0:=by
   unfold nD;rw[if_pos hA,<-hns]
  have h1:(0:Int)<=zS y.1 y.t.2.1:=hA _ (by unfold bD;split<;>simp);have h2:y.t.q.1=[]\/(0:Int)<=zS y.1 y.t.q.1:=by
   by_cases hw:(y.t.q.1==[])=Q3
   ·left;simpa using hw
   ·right;exact hA _ (by unfold bD;rw[if_neg hw];simp)
  rw[cE];simp only[CC,LA,G4,Q8,zA];by_cases c1:(bif Q0 (GE.ge (α:=Int) (zS y.1 y.2.1.2.1) 0)then Q3 else y.t.2.1==y.t.q.1)=Q3
  ·simp only[c1,if_true];refine⟨_,rfl,7,y,rfl,rfl,rfl,rfl,?_,λh=>by cases h⟩;rw[hE,if_pos (by revert c1;cases Q0 (GE.ge (α:=Int) (zS y.1 y.2.1.2.1) 0)<;>exact id)]
  ·simp only[c1];have hd:Q0 (GE.ge (α:=Int) (zS y.1 y.2.1.2.1) 0)=Q4:=by
    cases hh:Q0 (GE.ge (α:=Int) (zS y.1 y.2.1.2.1) 0)with
    |false=>rfl
    |true=>rw[hh]at c1;simp at c1
   rw[hd]at c1;refine ziY y ns hl h1 h2 (by simpa using hd) (by simpa using c1) ?_ n ow;rw[hE,hd,if_neg (by simpa using c1)]
theorem IN(y:zn bf)(hl:length y.1<=1000000):∃(e:Int)(y':zn bf),pV y=Q1 ((e,()),y')/\y'.1=y.1/\y'.2.1=y.2.1/\y'.t=y.t/\e=nD y.1 y.t.2.1 y.t.q.1 y.2.1.2.1/\(e=0->XT y y'):=by
 have hps:kF (y.t.1,y.t.2.1,y.t.q.1,(y.t.q.2.1,[],y.t.t.1,[],[],zm y.t.t.2.1),[],y.t.t.q.1)=bD y.t.2.1 y.t.q.1:=rfl;obtain⟨r,h1,e,y',rfl,h2⟩:=zlB y _ hps hl 100000000 (by
  have:length (kF (y.t.1,y.t.2.1,y.t.q.1,(y.t.q.2.1,[],y.t.t.1,[],[],zm y.t.t.2.1),[],y.t.t.q.1))<=2:=by rw[hps];unfold bD;split<;>simp
  omega)
 refine⟨e,y',?_,h2⟩;unfold pV kE cU;simp only[VI,Q8];rw[h1];exact cP (outs:=[zg]) (r:=.int .i64 e) (a:=(e,())) y' rfl
theorem wA{i n:Nat}(h:i<n):Q0 ((i:Int).toNat<n)=Q3:=by simpa using h
def uI(t:Sem zo):Int:=
 if∃i,i<length t.2.1/\zO t (getD t.2.1 i (zi zj)).1≠(i:Int)then 7 else if(t.t.2.op==[])=Q3 then 0
 else if(bif (bH t.t.2 t.2.1).2==0 then bif (bH t.t.2 t.2.1).1!=3 then(bH t.t.2 t.2.1).1!=0 else Q4 else Q4)=Q3 then 5 else(bH t.t.2 t.2.1).2
abbrev Nt(y:zn ah):Sem zo:=(y.t.q.2.1,y.t.t.1,y.t.t.2.1,[],[],y.t.t.q.1)
theorem su(y:zn ah)(hl:y.t.t.1.length<=1000000):tF y=Q1 ((uI (Nt y),()),y):=by
 have h:=de (t:=JN) (β:=Unit) y.t.t.1.length (λ_ i=>.h2 (y.t.t.1.length:Int) (i:Int) y) (λ_ i=>∀j,j<i->j<length y.t.t.1->zO (Nt y) (getD y.t.t.1 j (zi zj)).1=(j:Int)) (λr=>r=(.int .i64 (uI (Nt y)),ar ah y)) 1 (by
   intro b i hi hI;simp only[JN,LB,G5,Q8,zH hi,zu hi,zt hi,if_true,zl,aJ];rw[zp i um];by_cases c:(zO (Nt y) (getD y.t.t.1 i (zi zj)).1!=(i:Int))=Q3
   ·simp only[c,if_true];refine Or.inr ⟨_,rfl,?_⟩;unfold uI;rw[if_pos ⟨i,hi,by simpa using c⟩]
   ·simp only[c];refine Or.inl ⟨(),λj hj hl=>?_,rfl⟩;by_cases h:j=i
    ·subst h;simpa using c
    ·exact hI j ow hl) (by
   intro b n hI hn;obtain⟨n,rfl⟩:∃k,n=k+1:=⟨n-1,ow⟩;have h0:¬∃i,i<length (Nt y).2.1/\zO (Nt y) (getD (Nt y).2.1 i (zi zj)).1≠(i:Int):=by
    rintro⟨i,hi,h⟩;exact h (hI i hi hi)
   have hv:(JN (.h2 (y.t.t.1.length:Int) (y.t.t.1.length:Int) y)).val=Q1 (.inr (.int .i64 (uI (Nt y)),ar ah y)):=by
    simp only[JN,LB,G5,Q8,zA,zl];unfold uI;rw[if_neg h0];split
    ·simp_all
    ·split
     ·rfl
     ·split<;>rfl
   rw[cE,hv];exact⟨_,rfl,rfl⟩)
  y.t.t.1.length 0 () 100000000 rfl (bd _) (λj h=>by omega) ow
 obtain⟨r,h1,rfl⟩:=h;unfold tF kE cU;simp only[VJ,Q8];have h1':cQ JN 100000000 (.h2 (y.t.t.1.length:Int) 0 y)=Q1 (.int .i64 (uI (Nt y)),ar ah y):=h1;rw[h1'];exact cP (outs:=[zg]) (r:=.int .i64 (uI (Nt y))) (a:=(uI (Nt y),())) y rfl
theorem uG(t:Sem zo)(s:zB):zO t s=(-1:Int)\/((0:Int)<=zO t s/\LT.lt (α:=Int) (zO t s) (length t.2.1)):=by
 have:=ia (λc:Sem zj=>c.1==s) t.2.1 0;unfold zO;simpa using this
theorem pS{t:Sem zo}{s:zB}(h:¬LT.lt (α:=Int) (zO t s) 0):zM (zO t s) (length t.2.1)=Q3:=by
 rcases uG t s with h1|⟨h1,h2⟩
 ·rw[h1]at h;simp at h
 ·simp only[zM,aD,aP];exact⟨h1,h2⟩
theorem xi(x:Int):∀(l:List Int)(i:Nat),GE.ge (α:=Int) (eu x l (i:Int)) 0↔x∈l
 | [],i=>by
  rw[eu];exact⟨λh=>absurd h (by decide),λh=>by cases h⟩
 | a::r,i=>by
  rw[eu];split
  ·rename_i h;have:x=a:=by simpa using h
   subst this;exact⟨λ_=>wJ,λ_=>Int.natCast_nonneg i⟩
  ·rename_i h;have:=xi x r (i+1);rw[sP]at this;rw[cj];refine⟨λh2=>.inr (this.1 h2),λh2=>this.2 (h2.resolve_left ?_)⟩;rintro rfl;simp at h
theorem sj(l:List Int)(x:Int):si l x=Q3↔x∈l:=by
 unfold si;rw[decide_eq_true_iff];exact xi x l 0
def fV(t:Sem zo)(names:List zB):Int:=if∀s∈names,¬LT.lt (α:=Int) (zO t s) 0 then(if(names.map (zO t)).Nodup then 0 else 7)else 4
theorem Bn{l:List Int}{x:Int}:(l++[x]).Nodup↔l.Nodup/\x∉l:=by
 rw[List.nodup_append];simp;intro _;exact⟨λh h2=>h x h2 rfl,λh y hy e=>h (e▸hy)⟩
theorem bS{α:Type}{l:List α}{i:Nat}(h:i<l.length):l.take (i+1)=l.take i++[l[i]]:=by
 rw[List.take_add_one,zR h];rfl
def J7(y:zn bf)(z:zn dF):Prop:=z.1=y.1/\z.2.1=y.2.1/\z.2.2.1=y.2.2.1/\z.2.2.2.1=y.2.2.2.1/\z.t.1=y.t.1/\z.t.2.1=y.t.2.1/\z.t.q.1=y.t.q.1/\z.t.q.2.1=y.t.q.2.1/\
 z.t.t.2.1=y.t.t.1/\z.t.t.q.1=y.t.t.2.1/\z.t.t.t=y.t.t.q
abbrev fU(z:zn dF):List (Sem zj):=z.t.t.1
abbrev eR(z:zn dF):List (Sem zg):=z.t.t.q.2.1
def NmI(y:zn bf)(l:List zB)(z:zn dF):Prop:=J7 y z/\eR z=l.map (λs=>zO y.2.2.1 s)/\fU z=l.map (λs=>getD y.2.2.1.2.1 (toNat (zO y.2.2.1 s)) (zi zj))/\∀s∈l,¬LT.lt (α:=Int) (zO y.2.2.1 s) 0
def NmR(y:zn bf)(r:aw):Prop:=∃(e:Int)(z:zn dF),r=(.int .i64 e,ar ah z)/\J7 y z/\e=fV y.2.2.1 y.2.1.2.2.2.1/\(e=0->NmI y y.2.1.2.2.2.1 z)/\(fU z).length<=1000000
theorem zhB(y:zn bf)(z:zn dF)(hz:NmI y y.2.1.2.2.2.1 z)(hE:fV y.2.2.1 y.2.1.2.2.2.1=if(eR z).Nodup then 0 else 7)(hl:(eR z).length<=1000000)(m:Nat):∀(i n:Nat),(eR z).length-i=m->i<=(eR z).length->((eR z).take i).Nodup->1+m<=n->∃r,cQ pq n (.h12b ((eR z).length:Int) (i:Int) z)=Q1 r/\NmR y r:=by
 intro i n hm hi hnd hn;have hcl:(fU z).length<=1000000:=by
  have:=hl;rw[hz.2.1,cX]at this;rw[hz.2.2.1,cX];exact this
 refine de (t:=pq) (β:=Unit) (eR z).length (λ_ i=>.h12b ((eR z).length:Int) (i:Int) z) (λ_ i=>((eR z).take i).Nodup) (NmR y) 1 ?_ ?_ m i () n hm hi hnd hn
 ·intro b i hi hI;have hd:(Q0 (0<=0)&&Q0 ((0:Int)<=(i:Int))&&Q0 ((i:Int)<=((eR z).length:Int)))=Q3:=by simp;omega
  simp only[pq,CF,wz,Q8,zH hi,zu hi,if_true,hd];rw[zp i um];rw[show List.take (toNat (i:Int)-toNat 0) (List.drop (toNat 0) z.t.t.q.2.1)=(eR z).take i by simp,show z.t.t.q.2.1.getD (toNat (i:Int)) (zi zg)=(eR z)[i]from zY (eR z) _ hi];split
  ·rename_i c;refine Or.inr ⟨_,rfl,7,z,rfl,hz.1,?_,λh=>(by cases h),hcl⟩;rw[hE,if_neg];intro hN;have h2:((eR z).take (i+1)).Nodup:=hN.sublist (List.take_sublist _ _);rw[bS hi,Bn]at h2;exact h2.2 ((sj _ _).1 c)
  ·rename_i c;refine Or.inl ⟨(),?_,rfl⟩;show((eR z).take (i+1)).Nodup;rw[bS hi,Bn];exact⟨hI,λh=>c ((sj _ _).2 h)⟩
 ·intro b n hI hn;rw[ji]at hI;obtain⟨n,rfl⟩:∃k,n=k+1:=⟨n-1,ow⟩;rw[cE];simp only[pq,CF,wz,Q8,zA];exact⟨_,rfl,0,z,rfl,hz.1,by rw[hE,if_pos hI],λ_=>hz,hcl⟩
theorem zlt(y:zn bf)(z:zn dF)(hz:NmI y y.2.1.2.2.2.1 z)(hE:fV y.2.2.1 y.2.1.2.2.2.1=if(eR z).Nodup then 0 else 7)(hl:(eR z).length<=1000000)(n:Nat)(hn:2+(eR z).length<=n):∃r,cQ pq n (.h12 ((eR z).length:Int) 0 z)=Q1 r/\NmR y r:=by
 have hcl:(fU z).length<=1000000:=by
  have:=hl;rw[hz.2.1,cX]at this;rw[hz.2.2.1,cX];exact this
 obtain⟨n,rfl⟩:∃k,n=k+1:=⟨n-1,ow⟩;rw[cE];by_cases h:0<(eR z).length
 ·have hd:(Q0 (0<=0)&&Q0 ((0:Int)<=((0:Nat):Int))&&Q0 (((0:Nat):Int)<=((eR z).length:Int)))=Q3:=by simp
  have hv:(∃r,(pq (.h12 ((eR z).length:Int) ((0:Nat):Int) z)).val=Q1 (.inr r)/\NmR y r)\/(pq (.h12 ((eR z).length:Int) ((0:Nat):Int) z)).val=Q1 (.inl (.h12b ((eR z).length:Int) ((1:Nat):Int) z)):=by
   simp only[pq,G7,CG,Q8,zH h,zu h,wA h,if_true,hd];rw[zp 0 um];split
   ·rename_i c;exact absurd ((sj _ _).1 c) sw
   ·exact Or.inr rfl
  rw[Int.ofNat_zero]at hv;rcases hv with⟨r,h1,h2⟩|h1
  ·rw[h1];exact⟨r,rfl,h2⟩
  ·rw[h1];exact zhB y z hz hE hl _ 1 n rfl ow (by rw[bS h];simp) ow
 ·have h0:(eR z).length=0:=by omega
  have hv:(pq (.h12 ((eR z).length:Int) 0 z)).val=Q1 (.inr (.int .i64 0,ar ah z)):=by
   rw[h0];simp[pq,G7,CG,Q8]
  rw[hv];exact⟨_,rfl,0,z,rfl,hz.1,by rw[hE,if_pos (by rw[xD h0];exact List.nodup_nil)],λ_=>hz,hcl⟩
theorem nm3(y:zn bf)(z:zn dF)(hz:NmI y [] z)(hl:y.2.1.2.2.2.1.length<=1000000)(n:Nat)(hn:3+y.2.1.2.2.2.1.length+y.2.1.2.2.2.1.length<=n):∃r,cQ pq n (.h3 y.2.1.2.2.2.1 (y.2.1.2.2.2.1.length:Int) 0 z)=Q1 r/\NmR y r:=by
 refine de (t:=pq) (β:=zn dF) y.2.1.2.2.2.1.length (λz i=>.h3 y.2.1.2.2.2.1 (y.2.1.2.2.2.1.length:Int) (i:Int) z) (λz i=>NmI y (y.2.1.2.2.2.1.take i) z) (NmR y) (3+y.2.1.2.2.2.1.length) ?_ ?_ y.2.1.2.2.2.1.length 0 z n rfl (bd _) (by simpa using hz) hn
 ·intro z i hi hI;obtain⟨hk,hx,hc,hp⟩:=hI;have hkl:(eR z).length<=1000000:=by rw[hx,cX,nI];omega
  have hcl:(fU z).length<=1000000:=by rw[hc,cX,nI];omega
  have e3:z.2.2.1=y.2.2.1:=hk.2.2.1;simp only[pq,LH,G8,Q8,zH hi,zu hi,if_true,zY _ _ hi,zl,Prod.eta];rw[zp i um];by_cases c1:LT.lt (α:=Int) (zO z.2.2.1 y.2.1.2.2.2.1[i]) 0
  ·simp only[zt c1,if_true];refine Or.inr ⟨_,rfl,4,z,rfl,hk,?_,λh=>(by cases h),hcl⟩;unfold fV;rw[if_neg];intro h;exact h _ (bq hi) (by rw[<-e3];exact c1)
  ·simp only[af c1,pS c1];refine Or.inl ⟨(z.1,z.2.1,z.2.2.1,z.2.2.2.1,z.t.1,z.t.2.1,z.t.q.1,z.t.q.2.1,z.t.t.1++[getD z.2.2.1.2.1 (toNat (zO z.2.2.1 y.2.1.2.2.2.1[i])) (zi zj)],z.t.t.2.1,z.t.t.q.1,z.t.t.q.2.1++[zO z.2.2.1 y.2.1.2.2.2.1[i]],z.t.t.t),⟨hk,?_,?_,?_⟩,?_⟩;rotate_left 3
   ·rw[if_neg sw,if_pos (by have:z.t.t.q.2.1.length<=1000000:=hkl;simp;omega),if_pos trivial,if_pos (by have:z.t.t.1.length<=1000000:=hcl;simp;omega)]
   ·show eR z++[zO z.2.2.1 y.2.1.2.2.2.1[i]]=_;rw[hx,e3,bS hi,gZ];rfl
   ·show fU z++[getD z.2.2.1.2.1 (toNat (zO z.2.2.1 y.2.1.2.2.2.1[i])) (zi zj)]=_;rw[hc,e3,bS hi,gZ];rfl
   ·intro s hs;rw[bS hi,cN]at hs;rcases hs with hs|hs
    ·exact hp s hs
    ·rw[fZ]at hs;rw[hs,<-e3];exact c1
 ·intro z n hI hn;obtain⟨n,rfl⟩:∃k,n=k+1:=⟨n-1,ow⟩;rw[ji]at hI;have hkl:(eR z).length=y.2.1.2.2.2.1.length:=by rw[hI.2.1,cX]
  rw[cE];simp only[pq,LH,G8,Q8,zA];have hn2:2+(eR z).length<=n:=by rw[hkl];omega
  refine zlt y z hI ?_ ow n hn2;unfold fV;rw[if_pos hI.2.2.2,hI.2.1]
theorem EB(y:zn bf)(hl:y.2.1.2.2.2.1.length<=1000000):∃(e:Int)(z:zn dF),yh y=Q1 ((e,()),z)/\J7 y z/\e=fV y.2.2.1 y.2.1.2.2.2.1/\(e=0->NmI y y.2.1.2.2.2.1 z)/\(fU z).length<=1000000:=by
 obtain⟨r,h1,e,z,rfl,h2⟩:=nm3 y (y.1,y.2.1,y.2.2.1,y.2.2.2.1,y.t.1,y.t.2.1,y.t.q.1,y.t.q.2.1,[],y.t.t.1,y.t.t.2.1,[],y.t.t.q)
  ⟨⟨rfl,rfl,rfl,rfl,rfl,rfl,rfl,rfl,rfl,rfl,rfl⟩,rfl,rfl,sw⟩ hl 100000000 ow
 refine⟨e,z,?_,h2⟩;unfold yh kE cU;simp only[VO,Q8];rw[h1];exact cP (outs:=[zg]) (r:=.int .i64 e) (a:=(e,())) (ps:=ah) z rfl
theorem Yl(y:zn bf):Oi y=y:=by
 unfold Oi;rw[zl,zl,zl,zl,zl]
def mN(y:zn bf)(z:zn ah):Prop:=z.1=y.1/\z.2.1=y.2.1/\z.2.2.1=y.2.2.1/\z.2.2.2.1=y.2.2.2.1/\z.t.1=y.t.1/\z.t.2.1=y.t.2.1/\z.t.q.1=y.t.q.1/\z.t.q.2.1=y.t.q.2.1
structure Dn (z:zn ah) (cols:List (Sem zj)) (key:Int) (ix:List Int) (on:Int):Prop where
 cols:z.t.t.1=cols
 key:z.t.t.2.1=key
 ix:z.t.t.q.2.1=ix
 on:z.t.t.t.1=on
def gh(t:Sem zo)(names:List zB):List (Sem zj):=names.map λs=>getD t.2.1 (toNat (zO t s)) (zi zj)
def kC(t:Sem zo)(names:List zB):List Int:=names.map (zO t)
def uX(t:Sem zo)(names:List zB):Int:=if fV t names=0 then(if LT.lt (α:=Int) (gP (kC t names) t.2.2.1) 0 then 1 else 0)else fV t names
def se(t:Sem zo)(names:List zB):Int:=if fV t names=0 then(if((gh t names).getD 1 (zi zj)).2.1=(1:Int)then 0 else 5)else fV t names
def Db(t:Sem zo)(names:List zB):List (Sem zj):=
 [(((gh t names).getD 0 (zi zj)).1,((gh t names).getD 0 (zi zj)).2.1,Q3),(((gh t names).getD 1 (zi zj)).1,((gh t names).getD 1 (zi zj)).2.1,Q4)]
def gQ(t u:Sem zo)(k w:zB):Int:=
 if LT.lt (α:=Int) (zO t k) 0 then 4 else if jD t.t.1 (zO t k,w)=Q3 then(if LT.lt (α:=Int) 9 ((length t.2.1:Int)+(length u.2.1:Int))then 13 else 0)else 10
def F2(k:Int)(n:Nat):List Nat:=(List.range n).filter λj=>(j:Int)!=k
def jQ(k:Int)(n:Nat):List Int:=(F2 k n).map λ(j:Nat)=>(j:Int)
def gn(u:Sem zo)(n:Nat):List (Sem zj):=(F2 u.2.2.1 n).map λj=>getD u.2.1 j (zi zj)
theorem zbE(y:zn bf):Ru y=Rw y y (jG y) (gP (jG y).t.t.t.1 (jG y).2.2.2.1.2.2.1):=by
 unfold Ru;rw[Yl]
theorem Sb(y:zn bf)(hl:y.2.1.2.2.2.1.length<=1000):∃z:zn ah,FX y=Q1 ((uX y.2.2.1 y.2.1.2.2.2.1,()),z)/\mN y z/\z.t.t.q.1=y.t.t.2.1/\
  (fU z).length<=1000000/\(uX y.2.2.1 y.2.1.2.2.2.1=0->Dn z (gh y.2.2.1 y.2.1.2.2.2.1) (gP (kC y.2.2.1 y.2.1.2.2.2.1) y.2.2.1.2.2.1) (kC y.2.2.1 y.2.1.2.2.2.1) y.t.t.q.1):=by
 obtain⟨e,z,h1,hk,he,h2,hlen⟩:=EB y ow;have hn:jG y=(e,z):=by unfold jG;rw[h1];rfl
 have hc:nc y=Q3:=by unfold nc;rw[h1];rfl
 have hkk:mN y z:=⟨hk.1,hk.2.1,hk.2.2.1,hk.2.2.2.1,hk.t.1,hk.t.2.1,hk.t.q.1,hk.t.q.2.1⟩;have hch:z.t.t.q.1=y.t.t.2.1:=hk.t.t.2.1;unfold FX kE cU;rw[zbE];simp only[Rw,Q8,hn,hc,if_true];by_cases h0:e=0
 ·have hI:=h2 h0;have hE:uX y.2.2.1 y.2.1.2.2.2.1=if LT.lt (α:=Int) (gP (eR z) z.2.2.1.2.2.1) 0 then 1 else 0:=by
   unfold uX;rw[if_pos (he▸h0),hI.2.1,hk.2.2.1];rfl
  simp only[h0,ld,zG,if_false];by_cases hx:LT.lt (α:=Int) (gP (eR z) z.2.2.1.2.2.1) 0
  ·rw[if_pos hx]at hE;simp only[zt hx,if_true,hE];exact⟨_,cP (outs:=[zg]) (r:=.int .i64 1) (a:=(1,())) (ps:=ah) _ rfl,hkk,hch,hlen,λh=>by cases h⟩
  ·rw[if_neg hx]at hE;simp only[af hx,hE];refine⟨_,cP (outs:=[zg]) (r:=.int .i64 0) (a:=(0,())) (ps:=ah) _ rfl,hkk,hch,hlen,λ_=>⟨hI.2.2.1,?_,hI.2.1,by rw[hk.t.t.q]⟩⟩;show gP (eR z) z.2.2.1.2.2.1=_;rw[hI.2.1,hk.2.2.1];rfl
 ·have hb:(e !=0)=Q3:=by simpa using h0
  have hE:uX y.2.2.1 y.2.1.2.2.2.1=e:=by
   unfold uX;rw[if_neg (he▸h0),he]
  simp only[hb,if_true,hE];exact⟨_,cP (outs:=[zg]) (r:=.int .i64 e) (a:=(e,())) (ps:=ah) z rfl,hkk,hch,hlen,λh=>absurd h h0⟩
theorem zbG(y:zn bf):Rx y=(let a1:=jG y
  let a2:=a1.t.t.2.1.getD (toNat 1) (zi zj)
  let a3:=a1.t.t.2.1.getD (toNat 0) (zi zj)
  let a4:=a1.t.t.2.1.set (toNat 0) (a3.1,a3.2.1,Q3)
  let a5:=a4.getD (toNat 1) (zi zj)
  Ry y y a1 a2 a3 a4 a5):=by
 unfold Rx;rw[Yl]
theorem OC(y:zn bf)(hl:y.2.1.2.2.2.1.length=2):∃z:zn ah,yg y=Q1 ((se y.2.2.1 y.2.1.2.2.2.1,()),z)/\mN y z/\z.t.t.q.1=y.t.t.2.1/\
  (fU z).length<=1000000/\(se y.2.2.1 y.2.1.2.2.2.1=0->Dn z (Db y.2.2.1 y.2.1.2.2.2.1) y.t.t.1 (kC y.2.2.1 y.2.1.2.2.2.1) y.t.t.q.1):=by
 obtain⟨e,z,h1,hk,he,h2,hlen0⟩:=EB y ow;have hn:jG y=(e,z):=by unfold jG;rw[h1];rfl
 have hc:nc y=Q3:=by unfold nc;rw[h1];rfl
 have hkk:mN y z:=⟨hk.1,hk.2.1,hk.2.2.1,hk.2.2.2.1,hk.t.1,hk.t.2.1,hk.t.q.1,hk.t.q.2.1⟩;have hch:z.t.t.q.1=y.t.t.2.1:=hk.t.t.2.1;have hkey:z.t.t.2.1=y.t.t.1:=hk.t.t.1;have hon:z.t.t.t.1=y.t.t.q.1:=by rw[hk.t.t.q]
 unfold yg kE cU;rw[zbG];simp only[Ry,hn];by_cases h0:e=0
 ·have hI:=h2 h0;have hlen:(fU z).length=2:=by rw[hI.2.2.1,cX];exact hl
  have hcols:fU z=gh y.2.2.1 y.2.1.2.2.2.1:=hI.2.2.1;have hix:eR z=kC y.2.2.1 y.2.1.2.2.2.1:=hI.2.1;have hE:se y.2.2.1 y.2.1.2.2.2.1=if((gh y.2.2.1 y.2.1.2.2.2.1).getD 1 (zi zj)).2.1=(1:Int)then 0 else 5:=by
   unfold se;rw[if_pos (he▸h0)]
  obtain⟨z0,z1,z2,z3,z4,z5,z6,z7,cols,z9⟩:=z;obtain⟨c0,c1,rfl⟩:∃c0 c1,cols=[c0,c1]:=by
   match cols,hlen with
   |[c0,c1],_=>exact⟨c0,c1,rfl⟩
  have hcols:[c0,c1]=gh y.2.2.1 y.2.1.2.2.2.1:=hcols;unfold Db;rw[<-hcols]at hE⊢;simp only[Q8,hc,if_true,h0,ld,zG,if_false];have e1:zM 1 (length [c0,c1])=Q3:=rfl;have e0:zM 0 (length [c0,c1])=Q3:=rfl;by_cases hty:c1.2.1=(1:Int)
  ·rw[if_pos (show([c0,c1].getD 1 (zi zj)).2.1=(1:Int)from hty)]at hE;rw[hE];refine⟨(z0,z1,z2,z3,z4,z5,z6,z7,[(c0.1,c0.2.1,Q3),(c1.1,c1.2.1,Q4)],z9),?_,hkk,hch,by show length [(c0.1,c0.2.1,Q3),(c1.1,c1.2.1,Q4)]<=_;simp,λ_=>⟨rfl,hkey,hix,hon⟩⟩;simp[hty,getD,zM];exact cP (outs:=[zg]) (r:=.int .i64 0) (a:=(0,())) (ps:=ah) (z0,z1,z2,z3,z4,z5,z6,z7,[(c0.1,c0.2.1,Q3),(c1.1,1,Q4)],z9) rfl
  ·rw[if_neg (show¬([c0,c1].getD 1 (zi zj)).2.1=(1:Int)from hty)]at hE;rw[hE];refine⟨(z0,z1,z2,z3,z4,z5,z6,z7,[c0,c1],z9),?_,hkk,hch,by show length [c0,c1]<=_;simp,λh=>by cases h⟩;simp[hty,getD];exact cP (outs:=[zg]) (r:=.int .i64 5) (a:=(5,())) (ps:=ah) (z0,z1,z2,z3,z4,z5,z6,z7,[c0,c1],z9) rfl
 ·have hb:(e !=0)=Q3:=by simpa using h0
  have hE:se y.2.2.1 y.2.1.2.2.2.1=e:=by
   unfold se;rw[if_neg (he▸h0),he]
  simp only[Q8,hc,hb,if_true,hE];exact⟨z,cP (outs:=[zg]) (r:=.int .i64 e) (a:=(e,())) (ps:=ah) z rfl,hkk,hch,hlen0,λh=>absurd h h0⟩
def JnI(y:zn bf)(i:Nat)(z:zn dF):Prop:=mN y z/\z.t.t.q.1=y.t.t.2.1/\Dn z (y.2.2.1.2.1++gn y.2.2.2.1 i) y.2.2.1.2.2.1 (jQ y.2.2.2.1.2.2.1 i) (zO y.2.2.1 y.2.1.t.2.1)
theorem oY(k:Int)(n:Nat):(F2 k n).length<=n:=by
 unfold F2;exact cy (List.length_filter_le _ _) sw
theorem EF(k:Int)(n:Nat):F2 k (n+1)=if((n:Int)!=k)=Q3 then F2 k n++[n]else F2 k n:=by
 unfold F2;rw[List.range_succ,List.filter_append];split
 ·rename_i h;rw[List.filter_cons_of_pos (by exact h),List.filter_nil]
 ·rename_i h;rw[List.filter_cons_of_neg (by exact h),List.filter_nil,wN]
theorem zk8(y:zn bf)(z:zn dF)(hz:JnI y 0 z)(hf:length y.2.2.1.2.1<=100)(hl:length y.2.2.2.1.2.1<=100)(n:Nat)(hn:1+length y.2.2.2.1.2.1<=n):
  ∃r,cQ JM n (.h11 y.2.2.2.1.2.1 (length y.2.2.2.1.2.1:Int) 0 z)=Q1 r/\∃z':zn dF,r=(.int .i64 0,ar ah z')/\JnI y (length y.2.2.2.1.2.1) z':=by
 refine de (t:=JM) (β:=zn dF) (length y.2.2.2.1.2.1) (λz i=>.h11 y.2.2.2.1.2.1 (length y.2.2.2.1.2.1:Int) (i:Int) z) (λz i=>JnI y i z) _ 1 ?_ ?_ (length y.2.2.2.1.2.1) 0 z n rfl (bd _) hz hn
 ·intro z i hi hI;obtain⟨hk,hch,hA⟩:=hI;have hoth:=oY y.2.2.2.1.2.2.1 i;have hcl:(fU z).length<=2000:=by
   rw[show fU z=_ from hA.cols,jg,gn,cX];omega
  have hxl:(eR z).length<=2000:=by
   rw[show eR z=_ from hA.ix,jQ,cX];omega
  have ek:z.2.2.2.1.2.2.1=y.2.2.2.1.2.2.1:=by rw[hk.2.2.2.1]
  simp only[JM,G2,CB,Q8,zH hi,zu hi,if_true,zY _ _ hi];rw[zp i um];refine Or.inl ?_;have hsucc:=EF y.2.2.2.1.2.2.1 i;split
  ·rename_i hc;rw[ek]at hc;rw[if_pos hc]at hsucc;refine⟨(z.1,z.2.1,z.2.2.1,z.2.2.2.1,z.t.1,z.t.2.1,z.t.q.1,z.t.q.2.1,z.t.t.1++[y.2.2.2.1.2.1[i]],z.t.t.2.1,z.t.t.q.1,z.t.t.q.2.1++[(i:Int)],z.t.t.t),⟨hk,hch,⟨?_,hA.key,?_,hA.on⟩⟩,?_⟩
   ·show z.t.t.1++[y.2.2.2.1.2.1[i]]=_;rw[hA.cols,Af,gn,gn,hsucc,gZ];simp[zR hi]
   ·show z.t.t.q.2.1++[(i:Int)]=_;rw[hA.ix,jQ,jQ,hsucc,gZ];rfl
   ·rw[if_pos (by have:z.t.t.q.2.1.length<=2000:=hxl;simp;omega),if_pos (by have:z.t.t.1.length<=2000:=hcl;simp;omega)]
  ·rename_i hc;rw[ek]at hc;rw[if_neg hc]at hsucc;refine⟨z,⟨hk,hch,⟨?_,hA.key,?_,hA.on⟩⟩,rfl⟩
   ·rw[hA.cols,gn,gn,hsucc]
   ·rw[hA.ix,jQ,jQ,hsucc]
 ·intro z n hI hn;obtain⟨n,rfl⟩:∃k,n=k+1:=⟨n-1,ow⟩;rw[cE];simp only[JM,G2,CB,Q8,zA];exact⟨_,rfl,z,rfl,hI⟩
theorem Sc(y:zn bf)(hf:length y.2.2.1.2.1<=100)(hl:length y.2.2.2.1.2.1<=100):∃z:zn ah,Be y=Q1 ((gQ y.2.2.1 y.2.2.2.1 y.2.1.t.2.1 y.t.q.1,()),z)/\mN y z/\z.t.t.q.1=y.t.t.2.1/\
  (fU z).length<=1000000/\(gQ y.2.2.1 y.2.2.2.1 y.2.1.t.2.1 y.t.q.1=0->Dn z (y.2.2.1.2.1++gn y.2.2.2.1 (length y.2.2.2.1.2.1)) y.2.2.1.2.2.1 (jQ y.2.2.2.1.2.2.1 (length y.2.2.2.1.2.1)) (zO y.2.2.1 y.2.1.t.2.1)):=by
 have hk:∀(a:List (Sem zj))(b:Int)(c:ze)(d:List Int)(e:Int),mN y (y.1,y.2.1,y.2.2.1,y.2.2.2.1,y.t.1,y.t.2.1,y.t.q.1,y.t.q.2.1,a,b,c,d,e,()):=λ_ _ _ _ _=>⟨rfl,rfl,rfl,rfl,rfl,rfl,rfl,rfl⟩
 have hw:IntKind.i64.wrap (IntKind.i64.wrap ((↑(length y.2.2.1.2.1):Int)+(↑(length y.2.2.2.1.2.1):Int))-1)=(↑(length y.2.2.1.2.1):Int)+(↑(length y.2.2.2.1.2.1):Int)-1:=by
  rw[kX ((↑(length y.2.2.1.2.1):Int)+(↑(length y.2.2.2.1.2.1):Int)) ow ow,kX _ ow ow]
 have out:∀e:Int,e≠0->(FN y).val=Q1 (.inr (.int .i64 e,ar ah (y.1,y.2.1,y.2.2.1,y.2.2.2.1,y.t.1,y.t.2.1,y.t.q.1,y.t.q.2.1,[],y.t.t.1,y.t.t.2.1,[],zO y.2.2.1 y.2.1.t.2.1,())))->gQ y.2.2.1 y.2.2.2.1 y.2.1.t.2.1 y.t.q.1=e->∃z:zn ah,Be y=Q1 ((gQ y.2.2.1 y.2.2.2.1 y.2.1.t.2.1 y.t.q.1,()),z)/\mN y z/\z.t.t.q.1=y.t.t.2.1/\
  (fU z).length<=1000000/\(gQ y.2.2.1 y.2.2.2.1 y.2.1.t.2.1 y.t.q.1=0->Dn z (y.2.2.1.2.1++gn y.2.2.2.1 (length y.2.2.2.1.2.1)) y.2.2.1.2.2.1 (jQ y.2.2.2.1.2.2.1 (length y.2.2.2.1.2.1)) (zO y.2.2.1 y.2.1.t.2.1)):=by
  intro e he hv hE;rw[hE];refine⟨_,SP hv (cP (outs:=[zg]) (r:=.int .i64 e) (a:=(e,())) (ps:=ah) _ rfl),hk _ _ _ _ _,rfl,by show([]:List (Sem zj)).length<=_;simp,λh=>absurd h he⟩
 by_cases c1:LT.lt (α:=Int) (zO y.2.2.1 y.2.1.t.2.1) 0
 ·refine out 4 (by decide) ?_ (by unfold gQ;rw[if_pos c1]);simp only[FN,Iw,Q8,zl,zt c1,if_true]
 by_cases c2:jD y.2.2.1.t.1 (zO y.2.2.1 y.2.1.t.2.1,y.t.q.1)=Q3
 ·by_cases c3:LT.lt (α:=Int) 9 ((length y.2.2.1.2.1:Int)+(length y.2.2.2.1.2.1:Int))
  ·refine out 13 (by decide) ?_ (by unfold gQ;rw[if_neg c1,if_pos c2,if_pos c3]);simp only[FN,Iw,Q8,zl,af c1,c2,hw];rw[if_neg sw,if_neg sw,if_pos sg]
  ·have hE:gQ y.2.2.1 y.2.2.2.1 y.2.1.t.2.1 y.t.q.1=0:=by unfold gQ;rw[if_neg c1,if_pos c2,if_neg c3]
   have hv:(FN y).val=Q1 (.inl (.h11 y.2.2.2.1.2.1 (length y.2.2.2.1.2.1:Int) 0 (y.1,y.2.1,y.2.2.1,y.2.2.2.1,y.t.1,y.t.2.1,y.t.q.1,y.t.q.2.1,y.2.2.1.2.1,y.2.2.1.2.2.1,y.t.t.2.1,[],zO y.2.2.1 y.2.1.t.2.1,()))):=by
    simp only[FN,Iw,Q8,zl,af c1,c2,hw];rw[if_neg sw,if_neg sw,if_neg sg,if_pos sg]
   obtain⟨r,h1,z',rfl,hJ⟩:=zk8 y (y.1,y.2.1,y.2.2.1,y.2.2.2.1,y.t.1,y.t.2.1,y.t.q.1,y.t.q.2.1,y.2.2.1.2.1,y.2.2.1.2.2.1,y.t.t.2.1,[],zO y.2.2.1 y.2.1.t.2.1,()) ⟨hk _ _ _ _ _,rfl,⟨by simp[gn,F2],rfl,rfl,rfl⟩⟩ hf hl 100000000 ow;rw[hE];refine⟨z',?_,hJ.1,hJ.2.1,?_,λ_=>hJ.2.2⟩
   ·unfold Be kE cU;rw[hv];show(cQ JM 100000000 _).bind _=_;rw[h1];exact cP (outs:=[zg]) (r:=.int .i64 0) (a:=(0,())) (ps:=ah) z' rfl
   ·have hoth:=oY y.2.2.2.1.2.2.1 (length y.2.2.2.1.2.1);rw[show fU z'=_ from hJ.2.2.cols,jg,gn,cX];omega
 ·refine out 10 (by decide) ?_ (by unfold gQ;rw[if_neg c1,if_neg c2]);simp only[FN,Iw,Q8,zl,af c1];rw[if_neg sw,if_pos (by simpa using c2)]
def Fd(l rows:List (Sem (.sl zf))):Prop:=rows.length<=201/\∀r∈rows,∃r0∈l,r=lw r0
theorem zj5(n:Nat)(i4:Int)(hi4:i4<=201)(h0:0<=i4)(z0:zn cpR)(z1:zn za7)(t:Sem zo)(hn:300<=n):∃rows:List (Sem (.sl zf)),Fd z0.1.2 rows/\∃r,cQ O4 n (.h6 i4 0 z0 z1 (t,[],()))=Q1 r/\aL r.2 [zh] r.1=Q1 (((t,rows):Sem zh),()):=by
 obtain⟨N,hN⟩:∃N:Nat,i4=(N:Int):=⟨toNat i4,ow⟩;have h:=de (t:=O4) (β:=List (Sem (.sl zf))) (min N (length z0.1.2)) (λb i=>.h6 i4 (i:Int) z0 z1 (t,b,())) (λb i=>b.length=i/\∀r∈b,∃r0∈z0.1.2,r=lw r0) (λr=>∃rows:List (Sem (.sl zf)),Fd z0.1.2 rows/\aL r.2 [zh] r.1=Q1 (((t,rows):Sem zh),())) 1 (by
   intro b i hi hb;have h1:(i:Int)<(length z0.1.2:Int):=by omega
   have h2:(i:Int)<i4:=by omega
   have h3:zM (i:Int) (length z0.1.2)=Q3:=zu ow;refine Or.inl ⟨b++[lw (getD z0.1.2 (i:Int).toNat (zi zf.sl))],⟨by simp[hb.1],λr hr=>?_⟩,?_⟩
   ·rcases cN.1 hr with hr|hr
    ·exact hb.2 r hr
    ·rw[fZ]at hr;refine⟨_,?_,hr⟩;rw[aJ,ba,zR ow,dq];exact bq _
   simp only[O4,Q8,zt h1,zt h2,ay,if_true,h3];rw[zp i um,if_pos sg]) (by
   intro b n hb hn;obtain⟨n,rfl⟩:∃k,n=k+1:=⟨n-1,ow⟩;rw[cE];have hf:(bif Q0 (((min N (length z0.1.2):Nat):Int)<(length z0.1.2:Int))then Q0 (((min N (length z0.1.2):Nat):Int)<i4)else Q4)=Q4:=by
    by_cases h:N<=length z0.1.2
    ·rw[DD h,hN];simp
    ·rw[DB ow];simp
   simp only[O4,Q8,hf];refine⟨_,rfl,b,⟨by have:=hb.1;omega,hb.2⟩,?_⟩;obtain⟨t0,t1,t2,t3,t4,t5⟩:=t;cases t5;rfl) (min N (length z0.1.2)) 0 [] n rfl (bd _) ⟨rfl,sw⟩ ow
 obtain⟨r,h1,rows,h2,h3⟩:=h;exact⟨rows,h2,r,h1,h3⟩
theorem IF(x:Sem zh):∃rows:List (Sem (.sl zf)),Fd x.2 rows/\Ba x=Q1 (((CH x.1,rows):Sem zh),()):=by
 have e:CH (x.1.1,x.1.2.1,x.1.2.2.1,x.1.2.2.2.1,x.1.t.1,zm x.1.t.2)=CH x.1:=by rw[zl]
 have hv:∃k:Int,0<=k/\k<=201/\(zbC x).val=Q1 (.inl (.h6 k 0 (x,()) ([],0,[],0,0,[],[],()) (CH x.1,[],()))):=by
  simp only[zbC,Q8,e];split
  ·exact⟨201,ow,ow,rfl⟩
  ·exact⟨40,ow,ow,rfl⟩
 obtain⟨k,k1,k2,hv⟩:=hv;obtain⟨rows,h1,r,h2,h3⟩:=zj5 100000000 k k2 k1 (x,()) ([],0,[],0,0,[],[],()) (CH x.1) ow;refine⟨rows,h1,?_⟩;unfold Ba al cU;rw[hv];show(cQ O4 100000000 _).bind _=_;rw[h2];exact h3
theorem IE(x:Sem zh):KR x=Q3:=by
 obtain⟨rows,h1,h2⟩:=IF x;unfold KR;rw[h2];rfl
theorem R4(db:List (Sem zh)):∃db':List (Sem zh),Bb db=Q1 (db',())/\db'.length<=13/\∀x∈db',∃y∈db,x=xm y:=by
 have h:=de (t:=t7p) (β:=List (Sem zh)) (min 13 db.length) (λb i=>.h3 db (i:Int) b) (λb i=>b.length=i/\∀x∈b,∃y∈db,x=xm y) (λr=>∃db':List (Sem zh),aL r.2 [zh.sl] r.1=Q1 (db',())/\db'.length<=13/\∀x∈db',∃y∈db,x=xm y) 1 (by
   intro b i hi hb;have h1:(i:Int)<(db.length:Int):=by omega
   have h2:(i:Int)<13:=by omega
   have h3:zM (i:Int) db.length=Q3:=zu ow;refine Or.inl ⟨b++[xm (db.getD (i:Int).toNat (zi zh))],⟨by simp[hb.1],?_⟩,?_⟩
   ·intro x hx;rcases cN.1 hx with hx|hx
    ·exact hb.2 x hx
    ·rw[fZ]at hx;refine⟨_,?_,hx⟩;rw[aJ,ba,zR ow,dq];exact bq _
   ·simp only[t7p,Q8,zt h1,zt h2,ay,if_true,h3,zl,Prod.eta,IE];rw[zp i um,if_pos sg]) (by
   intro b n hb hn;obtain⟨n,rfl⟩:∃k,n=k+1:=⟨n-1,ow⟩;rw[cE];have hf:(bif Q0 (((min 13 db.length:Nat):Int)<(db.length:Int))then Q0 (((min 13 db.length:Nat):Int)<13)else Q4)=Q4:=by
    by_cases h:13<=db.length
    ·rw[DD h];simp
    ·rw[DB ow];simp
   simp only[t7p,Q8,hf];exact⟨_,rfl,b,rfl,ow,hb.2⟩) (min 13 db.length) 0 [] 100000000 rfl (bd _) ⟨rfl,sw⟩ ow
 obtain⟨r,h1,db',h2,h3,h4⟩:=h;refine⟨db',?_,h3,h4⟩;unfold Bb al cU;simp only[i7p,Q8];have h1':cQ t7p 100000000 (.h3 db 0 [])=Q1 r:=h1;rw[h1'];exact h2
theorem jO(s:zB):fb s=Q3:=by
 unfold fb;split
 ·rename_i h;have:20<s.length:=by simp at h;omega
  rw[if_pos sg]
 ·rfl
theorem ez(s:zB):(cR s).length<=20:=by
 unfold cR;split
 ·simp;omega
 ·rename_i h;have:¬20<s.length:=by simp at h;omega
  omega
theorem nP:∀(l:List zB)(i:Int)(acc:List zB),(acc.length:Int)<=i->fw l i acc=Q3
 |[],_,_,_=>rfl
 | x::r,i,acc,h=>by
  rw[fw];split
  ·rename_i hi;simp only[aP]at hi;rw[if_pos (jO x),if_pos sg];exact nP r (i+1) _ sg
  ·rfl
theorem Dd(l:List zB):oW l=Q3:=nP l 0 [] sw
theorem rp:∀(l:List zB)(i:Int)(acc:List zB),(acc.length:Int)<=i->acc.length<=10->(∀x∈acc,length x<=20)->length (eh l i acc)<=10/\∀x∈eh l i acc,length x<=20
 |[],_,acc,_,h,ha=>⟨h,ha⟩
 | x::r,i,acc,h,hl,ha=>by
  rw[eh];split
  ·rename_i hi;simp only[aP]at hi;refine rp r (i+1) _ sg sg (λy hy=>?_);rcases cN.1 hy with hy|hy
   ·exact ha y hy
   ·rw[fZ]at hy;rw[hy];exact ez x
  ·exact⟨hl,ha⟩
theorem xk(l:List zB):length (jN l)<=10/\∀x∈jN l,length x<=20:=rp l 0 [] sw sw sw
theorem Wx(s:zB):(iT s).length<=20:=by
 unfold iT;split
 ·simp;omega
 ·rename_i h;simp at h;omega
theorem Ov(l:List (Sem zj)):length (jo l)<=10/\∀x∈jo l,length x.1<=20:=by
 refine⟨by show((List.take 9 l).map _).length<=10;rw[cX,nI];omega,λc hc=>?_⟩;obtain⟨x,_,rfl⟩:=bl.1 hc;exact Wx x.1
theorem Ox(l:List (Sem zf)):length (lw l)<=14:=by
 show((List.take 14 l).map _).length<=14;rw[cX,nI];omega
theorem Fr(e:ze):qR 16 (gD e)=Q3:=by
 obtain⟨r,m,h1,h2⟩:=FL (P:=λN _ r=>qR N r=Q3) (λN e o t s l hl h3 _ _=>by
  show(Q0 (l.length<=1073741824)&&l.all (qR N))=Q3;rw[dT.2 λy hy=>by obtain⟨_,_,h⟩:=hl y hy;exact h];simp;omega) 16 e 14 80 ow ow ow
 unfold gD;rw[ze.eta,show qS 16 e 14 80=(r,m) by unfold qS;rw[h1];rfl];exact h2
structure J2 (s:Sem zk):Prop where
 sh:lJ s
 cp:qR 16 s.t.t.1=Q3
def F3I(z0:zn om)(i:Nat)(z:zn P2):Prop:=z.1.length<=20/\z.2.1.length<=20/\z.2.2.1.length<=20/\(length z.2.2.2.1<=10/\∀x∈z.2.2.2.1,length x<=20)/\(length z.t.1<=10/\∀x∈z.t.1,length x.1<=20)/\z.t.2.1.length<=20/\
 (length z.t.q.1<=10/\∀x∈z.t.q.1,length x<=20)/\(length z.t.q.2.1=i/\∀x∈z.t.q.2.1,length x.1<=20/\length x.2<=20)/\qR 16 z.t.t.1=Q3/\length z.t.t.2.1<=14/\z.t.t.q.2.1.length<=20/\
 z.t.t.1=gD z0.1.t.t.1/\z.t.t.2.1=lw z0.1.t.t.2.1/\z.t.t.q.1=gD z0.1.t.t.q.2.1
def F7I(z0:zn om)(i:Nat)(z:zn P3):Prop:=z.1.length<=20/\z.2.1.length<=20/\z.2.2.1.length<=20/\(length z.2.2.2.1<=10/\∀x∈z.2.2.2.1,length x<=20)/\(length z.t.1<=10/\∀x∈z.t.1,length x.1<=20)/\z.t.2.1.length<=20/\
 (length z.t.q.1<=10/\∀x∈z.t.q.1,length x<=20)/\(length z.t.q.2.1<=10/\∀x∈z.t.q.2.1,length x.1<=20/\length x.2<=20)/\qR 16 z.t.t.1=Q3/\length z.t.t.2.1<=14/\
 (length z.t.t.q.1=i/\∀x∈z.t.t.q.1,length x.1<=20/\∃y∈z0.1.t.t.q.1,x.2=gD y.2)/\z.t.t.t.1.length<=20/\
 z.t.t.1=gD z0.1.t.t.1/\z.t.t.2.1=lw z0.1.t.t.2.1/\z.t.t.q.2.1=gD z0.1.t.t.q.2.1
structure XP (s0 s:Sem zk):Prop where
 chk:s.t.t.1=gD s0.t.t.1
 row:s.t.t.2.1=lw s0.t.t.2.1
 whr:s.t.t.q.2.1=gD s0.t.t.q.2.1
 sets:∀x∈s.t.t.q.1,∃y∈s0.t.t.q.1,(x:Sem gU).2=gD (y:Sem gU).2
def UX(s0:Sem zk)(r:aw):Prop:=∃s:Sem zk,aL r.2 [zk] r.1=Q1 (s,())/\J2 s/\XP s0 s
theorem fs7(z0:zn om)(z1:zn iH)(z:zn P3)(hz:F7I z0 0 z)(n:Nat)(hn:20<=n):∃r,cQ WG n (.h7 0 z0 z1 z)=Q1 r/\UX z0.1 r:=by
 refine de (t:=WG) (β:=zn P3) (min 10 (length z0.1.t.t.q.1)) (λz i=>.h7 (i:Int) z0 z1 z) (λz i=>F7I z0 i z) (UX z0.1) 1 ?_ ?_ (min 10 (length z0.1.t.t.q.1)) 0 z n rfl (bd _) hz ow
 ·intro z i hi hb;obtain⟨h0,h1,h2,h3,h4,h5,h6,h7,h8,h9,h10,h11,h12⟩:=hb;have k1:(i:Int)<(length z0.1.t.t.q.1:Int):=by omega
  have k2:(i:Int)<10:=by omega
  have k3:zM (i:Int) (length z0.1.t.t.q.1)=Q3:=zu ow;refine Or.inl ⟨(z.1,z.2.1,z.2.2.1,z.2.2.2.1,z.t.1,z.t.2.1,z.t.q.1,z.t.q.2.1,z.t.t.1,z.t.t.2.1,z.t.t.q.1++[(cR (getD z0.1.t.t.q.1 (i:Int).toNat (zi gU)).1,zm (gD (zm (getD z0.1.t.t.q.1 (i:Int).toNat (zi gU)).2)))],z.t.t.q.2),⟨h0,h1,h2,h3,h4,h5,h6,h7,h8,h9,?_,h11,h12⟩,?_⟩;rotate_left 1
  ·simp only[WG,Q8,zt k1,zt k2,ay,if_true,k3,jO];rw[zp i um,if_pos (by have:=h10.1;simp;omega)]
  ·refine⟨?_,λx hx=>?_⟩
   ·simp[h10.1]
   ·rcases cN.1 hx with hx|hx
    ·exact h10.2 x hx
    ·rw[fZ]at hx;rw[hx];exact⟨ez _,_,tr _ (zi gU) (by simpa using(show i<_ by omega)),by simp only[zl,aJ]⟩
 ·intro z n hb hn;obtain⟨n,rfl⟩:∃k,n=k+1:=⟨n-1,ow⟩;obtain⟨h0,h1,h2,h3,h4,h5,h6,h7,h8,h9,h10,h11,h12⟩:=hb;rw[cE];have hf:(bif Q0 (((min 10 (length z0.1.t.t.q.1):Nat):Int)<(length z0.1.t.t.q.1:Int))then Q0 (((min 10 (length z0.1.t.t.q.1):Nat):Int)<10)else Q4)=Q4:=by
   by_cases h:10<=length z0.1.t.t.q.1
   ·rw[DD h];simp
   ·rw[DB ow];simp
  simp only[WG,Q8,hf];refine⟨_,rfl,(z.1,z.2.1,z.2.2.1,z.2.2.2.1,z.t.1,z.t.2.1,z.t.q.1,z.t.q.2.1,z.t.t.1,z.t.t.2.1,z.t.t.q.1,z.t.t.q.2.1,z.t.t.t.1),?_,⟨?_,h8⟩,⟨h12.1,h12.2.1,h12.2.2,λx hx=>(h10.2 x hx).2⟩⟩
  ·obtain⟨z0,z1,z2,z3,z4,z5,z6,z7,z8,z9,z10,z11,z12,z13⟩:=z;cases z8;cases z11;rfl
  ·refine⟨by show z.1.length<=_;omega,by show z.2.1.length<=_;omega,by show z.2.2.1.length<=_;omega,⟨by have:=h3.1;show length z.2.2.2.1<=_;omega,λx hx=>by have:=h3.2 x hx;omega⟩,⟨by have:=h4.1;show length z.t.1<=_;omega,λx hx=>by have:=h4.2 x hx;omega⟩,by show z.t.2.1.length<=_;omega,⟨by have:=h6.1;show length z.t.q.1<=_;omega,λx hx=>by have:=h6.2 x hx;omega⟩,⟨by have:=h7.1;show length z.t.q.2.1<=_;omega,λx hx=>by have:=h7.2 x hx;omega⟩,by show length z.t.t.2.1<=_;omega,⟨by have:=h10.1;show length z.t.t.q.1<=_;omega,λx hx=>by have:=(h10.2 x hx).1;omega⟩,by show z.t.t.t.1.length<=_;omega⟩
theorem fs3(z0:zn om)(z1:zn iH)(z:zn P2)(hz:F3I z0 0 z)(n:Nat)(hn:40<=n):∃r,cQ WG n (.h3 0 z0 z1 z)=Q1 r/\UX z0.1 r:=by
 refine de (t:=WG) (β:=zn P2) (min 10 (length z0.1.t.q.2.1)) (λz i=>.h3 (i:Int) z0 z1 z) (λz i=>F3I z0 i z) (UX z0.1) 21 ?_ ?_ (min 10 (length z0.1.t.q.2.1)) 0 z n rfl (bd _) hz ow
 ·intro z i hi hb;obtain⟨h0,h1,h2,h3,h4,h5,h6,h7,h8⟩:=hb;have k1:(i:Int)<(length z0.1.t.q.2.1:Int):=by omega
  have k2:(i:Int)<10:=by omega
  have k3:zM (i:Int) (length z0.1.t.q.2.1)=Q3:=zu ow;refine Or.inl ⟨(z.1,z.2.1,z.2.2.1,z.2.2.2.1,z.t.1,z.t.2.1,z.t.q.1,z.t.q.2.1++[(cR (getD z0.1.t.q.2.1 (i:Int).toNat (zi iD)).1,cR (getD z0.1.t.q.2.1 (i:Int).toNat (zi iD)).2)],z.t.t),⟨h0,h1,h2,h3,h4,h5,h6,?_,h8⟩,?_⟩;rotate_left 1
  ·simp only[WG,Q8,zt k1,zt k2,ay,if_true,k3,jO];rw[zp i um,if_pos (by have:=h7.1;simp;omega)]
  ·refine⟨?_,λx hx=>?_⟩
   ·simp[h7.1]
   ·rcases cN.1 hx with hx|hx
    ·exact h7.2 x hx
    ·rw[fZ]at hx;rw[hx];exact⟨ez _,ez _⟩
 ·intro z n hb hn;obtain⟨n,rfl⟩:∃k,n=k+1:=⟨n-1,ow⟩;obtain⟨h0,h1,h2,h3,h4,h5,h6,h7,h8,h9,h10,h11⟩:=hb;rw[cE];have hf:(bif Q0 (((min 10 (length z0.1.t.q.2.1):Nat):Int)<(length z0.1.t.q.2.1:Int))then Q0 (((min 10 (length z0.1.t.q.2.1):Nat):Int)<10)else Q4)=Q4:=by
   by_cases h:10<=length z0.1.t.q.2.1
   ·rw[DD h];simp
   ·rw[DB ow];simp
  simp only[WG,Q8,hf];exact fs7 z0 z1 _ ⟨h0,h1,h2,h3,h4,h5,h6,⟨by have:=h7.1;show length z.t.q.2.1<=_;omega,h7.2⟩,h8,h9,⟨rfl,sw⟩,h10,h11⟩ n ow
theorem KQ(s:Sem zk):∃s':Sem zk,vT s=Q1 (s',())/\J2 s'/\XP s s':=by
 unfold vT al cU;simp only[i8p,Q8,jO,Dd,if_true]
 obtain⟨r,h1,s',h2,h3⟩:=fs3 (s,()) ([],[],[],[],[],0,0,[],[],[],0,0,[],[],[],()) (cR s.1,cR s.2.1,cR s.2.2.1,jN s.2.2.2.1,jo s.t.1,
  cR s.t.2.1,jN s.t.q.1,[],gD (zm s.t.t.1),lw s.t.t.2.1,gD (zm s.t.t.q.2.1),cR s.t.t.t,())
  ⟨ez _,ez _,ez _,xk _,Ov _,ez _,xk _,⟨rfl,sw⟩,Fr _,Ox _,ez _,by simp only[zl],rfl,by simp only[zl]⟩ 100000000 ow
 refine⟨s',?_,h3⟩;rw[h1];exact h2
abbrev az(db:List (Sem zh))(s:zB):Sem zh:=getD db (toNat (zS db s)) (zi zh)
def Do(db:List (Sem zh)):Prop:=∀x∈db,∀f∈x.1.t.1,LE.le (α:=Int) 0 (zS db f.2)/\∀row∈x.2,(ao f.1 row).1≠0->gH (az db f.2) (az db f.2).1.2.2.1 (ao f.1 row)=Q3
def TX(r:aw):Prop:=r=(.kb Q4,[])
theorem Vf{db:List (Sem zh)}{x:Sem zh}{f:Sem zr}{i k:Nat}(hf:LE.le (α:=Int) 0 (zS db f.2))(hc:∀row∈x.2,zM f.1 (length row)=Q3)(hl:x.2.length<=1000):
  ((∀j,j<x.2.length->(ao f.1 (getD x.2 j (zi zf.sl))).1≠0->gH (az db f.2) (az db f.2).1.2.2.1 (ao f.1 (getD x.2 j (zi zf.sl)))=Q3)/\
   zQ jv (x.2.length*1) (.h11 db (zS db f.2) db (db.length:Int) (i:Int) x.1.t.1 (x.1.t.1.length:Int) (k:Int) x.2 (x.2.length:Int) ((0:Nat):Int) (x,()) (f,()))
    (.h11 db (zS db f.2) db (db.length:Int) (i:Int) x.1.t.1 (x.1.t.1.length:Int) (k:Int) x.2 (x.2.length:Int) (x.2.length:Int) (x,()) (f,())))\/
  ((¬∀j,j<x.2.length->(ao f.1 (getD x.2 j (zi zf.sl))).1≠0->gH (az db f.2) (az db f.2).1.2.2.1 (ao f.1 (getD x.2 j (zi zf.sl)))=Q3)/\
   ∃r,zT jv (x.2.length*1) (.h11 db (zS db f.2) db (db.length:Int) (i:Int) x.1.t.1 (x.1.t.1.length:Int) (k:Int) x.2 (x.2.length:Int) ((0:Nat):Int) (x,()) (f,())) r/\TX r):=by
 refine lH (t:=jv) (Φ:=TX) 1 (λj=>.h11 db (zS db f.2) db (db.length:Int) (i:Int) x.1.t.1 (x.1.t.1.length:Int) (k:Int) x.2 (x.2.length:Int) (j:Int) (x,()) (f,())) (λj=>(ao f.1 (getD x.2 j (zi zf.sl))).1≠0->gH (az db f.2) (az db f.2).1.2.2.1 (ao f.1 (getD x.2 j (zi zf.sl)))=Q3) x.2.length ?_;intro j hj _
 have hv:(jv (.h11 db (zS db f.2) db (db.length:Int) (i:Int) x.1.t.1 (x.1.t.1.length:Int) (k:Int) x.2 (x.2.length:Int) (j:Int) (x,()) (f,()))).val=
   if(bif (ao f.1 (getD x.2 j (zi zf.sl))).1!=0 then !gH (az db f.2) (az db f.2).1.2.2.1 (ao f.1 (getD x.2 j (zi zf.sl)))else Q4)=Q3 then Q1 (.inr (.kb Q4,[]))else
   Q1 (.inl (.h11 db (zS db f.2) db (db.length:Int) (i:Int) x.1.t.1 (x.1.t.1.length:Int) (k:Int) x.2 (x.2.length:Int) ((j+1:Nat):Int) (x,()) (f,()))):=by
  show(jv (.h11 _ _ _ _ _ _ _ _ _ _ _ _ _)).val=_;unfold jv;simp only[zl,Q8,zH hj,zu hj,hc _ (bI hj),dr hf,aJ,if_true,nK];rw[if_pos (by cases((getD (getD x.2 j (zi zf.sl)) (toNat f.1) (zi zf)).1!=0)<;>rfl)];rw[zp j um]
 by_cases h1:(ao f.1 (getD x.2 j (zi zf.sl))).1=0
 ·exact .inl ⟨λh=>absurd h1 h,zQ.of (by rw[hv,if_neg (by rw[h1];simp)])⟩
 ·have h1':((ao f.1 (getD x.2 j (zi zf.sl))).1!=0)=Q3:=by simpa using h1
  by_cases h2:gH (az db f.2) (az db f.2).1.2.2.1 (ao f.1 (getD x.2 j (zi zf.sl)))=Q3
  ·exact .inl ⟨λ_=>h2,zQ.of (by rw[hv,if_neg (by rw[h2,h1'];simp)])⟩
  ·exact .inr ⟨λh=>h2 (h h1),_,zT.of (by rw[hv,if_pos (by rw[h1'];simpa using h2)]),rfl⟩
theorem zaY{db:List (Sem zh)}{x:Sem zh}{i:Nat}(hc:∀f∈x.1.t.1,∀row∈x.2,zM f.1 (length row)=Q3)(hl:x.2.length<=1000)(hr:x.1.t.1.length<=1000):
  let P:Nat->Prop:=λk=>LE.le (α:=Int) 0 (zS db (getD x.1.t.1 k (zi zr)).2)/\∀row∈x.2,(ao (getD x.1.t.1 k (zi zr)).1 row).1≠0->gH (az db (getD x.1.t.1 k (zi zr)).2) (az db (getD x.1.t.1 k (zi zr)).2).1.2.2.1 (ao (getD x.1.t.1 k (zi zr)).1 row)=Q3
  ((∀k,k<x.1.t.1.length->P k)/\zQ jv (x.1.t.1.length*1002) (.h5 db db (db.length:Int) (i:Int) x.1.t.1 (x.1.t.1.length:Int) ((0:Nat):Int) (x,())) (.h5 db db (db.length:Int) (i:Int) x.1.t.1 (x.1.t.1.length:Int) (x.1.t.1.length:Int) (x,())))\/
  ((¬∀k,k<x.1.t.1.length->P k)/\∃r,zT jv (x.1.t.1.length*1002) (.h5 db db (db.length:Int) (i:Int) x.1.t.1 (x.1.t.1.length:Int) ((0:Nat):Int) (x,())) r/\TX r):=by
 intro P;refine lH (t:=jv) (Φ:=TX) 1002 (λk=>.h5 db db (db.length:Int) (i:Int) x.1.t.1 (x.1.t.1.length:Int) (k:Int) (x,())) P x.1.t.1.length ?_;intro k hk _
 have hv:(jv (.h5 db db (db.length:Int) (i:Int) x.1.t.1 (x.1.t.1.length:Int) (k:Int) (x,()))).val=
   if Q0 (LT.lt (α:=Int) (zS db (getD x.1.t.1 k (zi zr)).2) 0)=Q3 then Q1 (.inr (.kb Q4,[]))else
   Q1 (.inl (.h11 db (zS db (getD x.1.t.1 k (zi zr)).2) db (db.length:Int) (i:Int) x.1.t.1 (x.1.t.1.length:Int) (k:Int) x.2 (x.2.length:Int) ((0:Nat):Int) (x,()) (getD x.1.t.1 k (zi zr),()))):=by
  show(jv (.h5 _ _ _ _ _ _ _ _)).val=_;unfold jv;simp only[Q8,zH hk,zu hk,aJ,if_true];rfl
 by_cases h1:LE.le (α:=Int) 0 (zS db (getD x.1.t.1 k (zi zr)).2)
 ·have g1:=zQ.of (t:=jv) (s:=.h5 db db (db.length:Int) (i:Int) x.1.t.1 (x.1.t.1.length:Int) (k:Int) (x,())) (by rw[hv,if_neg (by rw[aP];omega)]);rcases Vf (db:=db) (x:=x) (f:=getD x.1.t.1 k (zi zr)) (i:=i) (k:=k) h1 (hc _ (bI hk)) hl with⟨h2,h3⟩|⟨h2,r,h3,h4⟩
  ·have hv2:(jv (.h11 db (zS db (getD x.1.t.1 k (zi zr)).2) db (db.length:Int) (i:Int) x.1.t.1 (x.1.t.1.length:Int) (k:Int) x.2 (x.2.length:Int) (x.2.length:Int) (x,()) (getD x.1.t.1 k (zi zr),()))).val=
     Q1 (.inl (.h5 db db (db.length:Int) (i:Int) x.1.t.1 (x.1.t.1.length:Int) ((k+1:Nat):Int) (x,()))):=by
    show(jv (.h11 _ _ _ _ _ _ _ _ _ _ _ _ _)).val=_;unfold jv;simp only[Q8,zA];rw[zp k um];rfl
   refine .inl ⟨⟨h1,?_⟩,((g1.trans h3).trans (zQ.of hv2)).mono ow⟩;exact(aq (Q:=λrow=>(ao (getD x.1.t.1 k (zi zr)).1 row).1≠0->gH (az db (getD x.1.t.1 k (zi zr)).2) (az db (getD x.1.t.1 k (zi zr)).2).1.2.2.1 (ao (getD x.1.t.1 k (zi zr)).1 row)=Q3)).1 h2
  ·refine .inr ⟨λh=>h2 ?_,r,(g1.ends h3).mono ow,h4⟩;exact(aq (Q:=λrow=>(ao (getD x.1.t.1 k (zi zr)).1 row).1≠0->gH (az db (getD x.1.t.1 k (zi zr)).2) (az db (getD x.1.t.1 k (zi zr)).2).1.2.2.1 (ao (getD x.1.t.1 k (zi zr)).1 row)=Q3)).2 h.2
 ·exact .inr ⟨λh=>h1 h.1,_,(zT.of (by rw[hv,if_pos (by rw[aP];omega)])).mono ow,rfl⟩
theorem HK{db:List (Sem zh)}(hc:∀x∈db,∀f∈x.1.t.1,∀row∈x.2,zM f.1 (length row)=Q3)(hs:∀x∈db,gB x)(hl:db.length<=13):∃b,xQ db=Q1 (b,())/\(b=Q3↔Do db):=by
 have h2:=lH (t:=jv) (Φ:=TX) 1010000 (λi=>.h2 db db (db.length:Int) (i:Int)) (λi=>∀f∈(getD db i (zi zh)).1.t.1,LE.le (α:=Int) 0 (zS db f.2)/\∀row∈(getD db i (zi zh)).2,(ao f.1 row).1≠0->gH (az db f.2) (az db f.2).1.2.2.1 (ao f.1 row)=Q3) db.length (by
  intro i hi _;have hm:=bI (d:=zi zh) hi;have hS:=hs _ hm;have s1:=hS.rf;have s2:=hS.rw;have hv:(jv (.h2 db db (db.length:Int) (i:Int))).val=Q1 (.inl (.h5 db db (db.length:Int) (i:Int) (getD db i (zi zh)).1.t.1 ((getD db i (zi zh)).1.t.1.length:Int) ((0:Nat):Int) (getD db i (zi zh),()))):=by
   show(jv (.h2 _ _ _ _)).val=_;unfold jv;simp only[Q8,zH hi,zu hi,aJ,if_true];rfl
  have g1:=zQ.of hv;rcases zaY (db:=db) (x:=getD db i (zi zh)) (i:=i) (hc _ hm) s2 s1 with⟨h2,h3⟩|⟨h2,r,h3,h4⟩
  ·have hv2:(jv (.h5 db db (db.length:Int) (i:Int) (getD db i (zi zh)).1.t.1 ((getD db i (zi zh)).1.t.1.length:Int) ((getD db i (zi zh)).1.t.1.length:Int) (getD db i (zi zh),()))).val=Q1 (.inl (.h2 db db (db.length:Int) ((i+1:Nat):Int))):=by
    show(jv (.h5 _ _ _ _ _ _ _ _)).val=_;unfold jv;simp only[Q8,zA];rw[zp i um];rfl
   refine .inl ⟨?_,((g1.trans h3).trans (zQ.of hv2)).mono ow⟩;exact(aq (Q:=λf:Sem zr=>LE.le (α:=Int) 0 (zS db f.2)/\∀row∈(getD db i (zi zh)).2,(ao f.1 row).1≠0->gH (az db f.2) (az db f.2).1.2.2.1 (ao f.1 row)=Q3)).1 h2
  ·refine .inr ⟨λh=>h2 ?_,r,(g1.ends h3).mono ow,h4⟩;exact(aq (Q:=λf:Sem zr=>LE.le (α:=Int) 0 (zS db f.2)/\∀row∈(getD db i (zi zh)).2,(ao f.1 row).1≠0->gH (az db f.2) (az db f.2).1.2.2.1 (ao f.1 row)=Q3)).2 h)
 have hb:(∀i,i<db.length->∀f∈(getD db i (zi zh)).1.t.1,LE.le (α:=Int) 0 (zS db f.2)/\∀row∈(getD db i (zi zh)).2,(ao f.1 row).1≠0->gH (az db f.2) (az db f.2).1.2.2.1 (ao f.1 row)=Q3)↔Do db:=
  aq (Q:=λx:Sem zh=>∀f∈x.1.t.1,LE.le (α:=Int) 0 (zS db f.2)/\∀row∈x.2,(ao f.1 row).1≠0->gH (az db f.2) (az db f.2).1.2.2.1 (ao f.1 row)=Q3)
 have hi:(zgJ db).val=Q1 (.inl (.h2 db db (db.length:Int) ((0:Nat):Int))):=rfl;rcases h2 with⟨h2,h3⟩|⟨h2,r,h3,h4⟩
 ·refine⟨Q3,zx hi (h3.ends (zT.of (r:=(.kb Q3,[])) ?_)) ow rfl,λ_=>hb.1 h2,λ_=>rfl⟩;show(jv (.h2 _ _ _ _)).val=_;unfold jv;simp only[Q8,zA];rfl
 ·unfold TX at h4;subst h4;exact⟨Q4,zx hi h3 ow rfl,λh=>(by cases h),λh=>absurd (hb.2 h) h2⟩
structure iF (db:List (Sem zh)):Prop where
 few:db.length<=12
 names:∀i,i<db.length-1->Op.bytesLess (getD db i (zi zh)).1.1 (getD db (i+1) (zi zh)).1.1=Q3
 rels:∀x∈db,eI x
 bound:Do db
theorem eI.cols{x:Sem zh}(h:eI x):∀f∈x.1.t.1,∀row∈x.2,zM f.1 (length row)=Q3:=by
 intro f hf row hr;obtain⟨_,h1,_,_,_⟩:=gR h.may;rw[AY (by simpa using h.fits row hr)];exact tz (h1 f hf)
theorem wR{db:List (Sem zh)}(hs:∀x∈db,gB x):∃e:Int,sS db=Q1 (e,())/\(e=0↔iF db):=by
 by_cases hw:db.length<=12
 case neg=>
  refine⟨13,?_,λh=>(by cases h),λh=>absurd h.few hw⟩;unfold sS al cU;simp only[VH,Q8];rw[if_pos sg];rfl
 have hi:(VH db).val=Q1 (.inl (.h4 db ((0+1:Nat):Int))):=by
  simp only[VH,Q8];rw[if_neg sg];rfl
 have h4:=lH (t:=sF) (Φ:=TW) 1 (λi=>.h4 db ((i+1:Nat):Int)) (λi=>Op.bytesLess (getD db i (zi zh)).1.1 (getD db (i+1) (zi zh)).1.1=Q3) (db.length-1) (by
  intro i hi _;have h1:i<db.length:=by omega
  have h2:i+1<db.length:=by omega
  have hv:(sF (.h4 db ((i+1:Nat):Int))).val=if(!Op.bytesLess (getD db i (zi zh)).1.1 (getD db (i+1) (zi zh)).1.1)=Q3 then Q1 (.inr (.int .i64 15,[]))else Q1 (.inl (.h4 db ((i+1+1:Nat):Int))):=by
   show(sF (.h4 _ _)).val=_;unfold sF;simp only[mL i um];simp only[Q8,zH h2,zu h2,zu h1,aJ,if_true];rw[zp (i+1) um]
  by_cases h:Op.bytesLess (getD db i (zi zh)).1.1 (getD db (i+1) (zi zh)).1.1=Q3
  ·exact .inl ⟨h,zQ.of (by rw[hv,if_neg (by rw[h];simp)])⟩
  ·exact .inr ⟨h,_,zT.of (by rw[hv,if_pos (by simpa using h)]),15,rfl,by decide⟩)
 rcases h4 with⟨hn,h4⟩|⟨hn,r,h4,e,he,hne⟩
 case inr=>
  subst he;exact⟨e,zx hi h4 ow rfl,λh=>absurd h hne,λh=>absurd h.names hn⟩
 have hv4:(sF (.h4 db ((db.length-1+1:Nat):Int))).val=Q1 (.inl (.h9 db db (db.length:Int) ((0:Nat):Int))):=by
  show(sF (.h4 _ _)).val=_;unfold sF;simp only[Q8];rw[if_neg sg];rfl
 have g9:=h4.trans (zQ.of hv4);have h9:=lH (t:=sF) (Φ:=TW) 1 (λi=>.h9 db db (db.length:Int) (i:Int)) (λi=>eI (getD db i (zi zh))) db.length (by
  intro i hi _;obtain⟨e,he,heq⟩:=Js (hs _ (bI (d:=zi zh) hi));have hc:GH (getD db i (zi zh))=Q3:=by unfold GH;rw[he];rfl
  have hv0:Lo (getD db i (zi zh))=e:=by unfold Lo;rw[he];rfl
  have hv:(sF (.h9 db db (db.length:Int) (i:Int))).val=if(e !=0)=Q3 then Q1 (.inr (.int .i64 e,[]))else Q1 (.inl (.h9 db db (db.length:Int) ((i+1:Nat):Int))):=by
   show(sF (.h9 _ _ _ _)).val=_;unfold sF;simp only[zl,Q8,zH hi,zu hi,aJ,if_true,Prod.eta,hc,hv0];rw[zp i um]
  by_cases h:e=0
  ·exact .inl ⟨heq.1 h,zQ.of (by rw[hv,if_neg (by rw[h];simp)])⟩
  ·exact .inr ⟨λhr=>h (heq.2 hr),_,zT.of (by rw[hv,if_pos (by simpa using h)]),e,rfl,h⟩)
 rcases h9 with⟨hr,h9⟩|⟨hr,r,h9,e,he,hne⟩
 case inr=>
  subst he;exact⟨e,zx hi (g9.ends h9) ow rfl,λh=>absurd h hne,λh=>absurd ((aq (Q:=eI)).2 h.rels) hr⟩
 have hrels:=(aq (Q:=eI)).1 hr;obtain⟨b,hb,hbb⟩:=HK (db:=db) (λx hx=>(hrels x hx).cols) hs ow;have hc:Fk db=Q3:=by unfold Fk;rw[hb];rfl
 have hv0:Kb db=b:=by unfold Kb;rw[hb];rfl
 have hv9:(sF (.h9 db db (db.length:Int) (db.length:Int))).val=if(!b)=Q3 then Q1 (.inr (.int .i64 10,[]))else Q1 (.inr (.int .i64 0,[])):=by
  show(sF (.h9 _ _ _ _)).val=_;unfold sF;simp only[Q8,zA,hc,hv0,if_true];rfl
 by_cases h:b=Q3
 ·exact⟨0,zx hi (g9.ends (h9.ends (zT.of (by rw[hv9,if_neg (by rw[h];simp)])))) ow rfl,λ_=>⟨hw,hn,hrels,hbb.1 h⟩,λ_=>rfl⟩
 ·exact⟨10,zx hi (g9.ends (h9.ends (zT.of (by rw[hv9,if_pos (by simpa using h)])))) ow rfl,λh=>(by cases h),λhB=>absurd (hbb.2 hB.bound) h⟩
theorem Fl{db:List (Sem zh)}(hs:∀x∈db,gB x):mR db=Q3:=by
 obtain⟨e,h,_⟩:=wR hs;unfold mR;rw[h];rfl
theorem jV{db:List (Sem zh)}(hs:∀x∈db,gB x):ki db=(0:Int)↔iF db:=by
 obtain⟨e,h,h2⟩:=wR hs;unfold ki;rw[h];exact h2
abbrev Y6(x0:Sem zh.sl)(x1:Sem zk):zn bf:=(x0,x1,([],[],0,[],[],ze.mk [] (0,0,[]) [] []),([],[],0,[],[],ze.mk [] (0,0,[]) [] []),x1.1,x1.2.2.1,x1.t.t.t,x1.2.1,0,x1.t.t.1,0,())
theorem KH(x0:Sem zh.sl)(x1:Sem zk):zbz x0 x1=(let a8:=mi (Y6 x0 x1)
  let a11:=Ez a8.2
  let a14:=EA a8.2
  let a17:=vV a8.2
  It x0 x1 x1.t.t.1 x1 (!dV x1) (nF x1&&bif !dV x1 then Q3 else mR x0) (bif !dV x1 then Q3 else ki x0 !=0) (qR 16 x1.t.t.1) (Y6 x0 x1) (mj (Y6 x0 x1)) a8 (a8.1==0) a8.2 a11 a11.2 (fe a11.2) a14 a14.2 (fe a14.2) a17 a17.2 (fe a17.2)):=by
 unfold zbz;simp only[Oi,Mp,zl]
abbrev SW(z:zn ah):Sem zz:=(z.t.1,z.t.2.1,z.t.q.1,(z.t.q.2.1,z.t.t.1,z.t.t.2.1,[],[],z.t.t.q.1),z.t.t.q.2.1,z.t.t.t.1)
abbrev jq:Sem zz:=([],[],[],([],[],0,[],[],ze.mk [] (0,0,[]) [] []),[],0)
def au(db:List (Sem zh))(n:zB):Sem zo:=(getD db (toNat (zS db n)) (zi zh)).1
abbrev zls:Sem zo:=([],[],0,[],[],ze.mk [] (0,0,[]) [] [])
def fR(db:List (Sem zh))(n:zB):Sem zo:=if n=[]then zls else au db n
def jl(e:Int)(p:Sem zz):Int×Sem zz:=if e=0 then(if uI p.2.2.2.1=0 then(0,p)else(uI p.2.2.2.1,jq))else(e,jq)
def dd(db:List (Sem zh))(s:Sem zk):Int×Sem zz:=
 if(s.1==[99,111,112,121])=Q3 then
  jl (uX (au db s.2.2.1) s.2.2.2.1) (s.1,s.2.2.1,s.t.t.t,(s.2.1,gh (au db s.2.2.1) s.2.2.2.1,gP (kC (au db s.2.2.1) s.2.2.2.1) (au db s.2.2.1).2.2.1,[],[],s.t.t.1),kC (au db s.2.2.1) s.2.2.2.1,0)
 else if(s.1==[106,111,105,110])=Q3 then
  jl (gQ (au db s.2.2.1) (fR db s.t.t.t) s.t.2.1 s.t.t.t)
   (s.1,s.2.2.1,s.t.t.t,(s.2.1,(au db s.2.2.1).2.1++gn (fR db s.t.t.t) (length (fR db s.t.t.t).2.1),(au db s.2.2.1).2.2.1,[],[],s.t.t.1),
    jQ (fR db s.t.t.t).2.2.1 (length (fR db s.t.t.t).2.1),zO (au db s.2.2.1) s.t.2.1)
 else if(s.1==[103,114,111,117,112])=Q3 then
  jl (se (au db s.2.2.1) s.2.2.2.1) (s.1,s.2.2.1,s.t.t.t,(s.2.1,Db (au db s.2.2.1) s.2.2.2.1,0,[],[],s.t.t.1),kC (au db s.2.2.1) s.2.2.2.1,0)
 else(1,jq)
def aT(db:List (Sem zh))(s:Sem zk):Int×Sem zz:=
 if jn s.1/\dV s=Q3/\ki db=(0:Int)then(if nD db s.2.2.1 s.t.t.t s.2.1=0 then dd db s else(nD db s.2.2.1 s.t.t.t s.2.1,jq))else(1,jq)
theorem lD{s:Sem zk}(h:dV s=Q3):eW s=Q3:=by
 unfold dV pl at h;by_cases hp:eW s=Q3
 ·exact hp
 ·exfalso;simp only[gg]at hp;simp[hp]at h
theorem mf{db:List (Sem zh)}{s:zB}(h:(0:Int)<=zS db s):db.getD (toNat (zS db s)) (zi zh)∈db:=by
 have:=dr h;simp only[zM,aD,aP]at this;exact tr _ _ ow
theorem B9(e:Int):aL [] [zz,zg] (tup [agg [str [],str [],str [],str [],nils,ai 0,nils,nils,str [],ai 0,ai 0,str [],str [],nils,nils,ai 0],ai e])=Q1 (jq,e,()):=rfl
theorem zcC(z:zn ah):aL [AO.vec zj z.t.t.1] [zz,zg] (tup [agg [str z.t.1,str z.t.2.1,str z.t.q.1,str z.t.q.2.1,AV.vec 0,
  ai z.t.t.2.1,nils,nils,str (ze.op z.t.t.q.1),ai (ze.v z.t.t.q.1).1,ai (ze.v z.t.t.q.1).2.1,str (ze.v z.t.t.q.1).2.2,str (ze.s z.t.t.q.1),sl Sh.expr (ze.l z.t.t.q.1),
  sl zg z.t.t.q.2.1,ai z.t.t.t.1],ai 0])=Q1 (SW z,0,()):=by
 obtain⟨z0,z1,z2,z3,z4,z5,z6,z7,z8,z9,z10,z11,z12,z13⟩:=z;cases z10;rfl
def PlS(x0:Sem zh.sl)(x1:Sem zk):Prop:=IX x0 x1=Q1 ((aT x0 x1).2,(aT x0 x1).1,())
theorem wc{x0:Sem zh.sl}{x1:Sem zk}{o:Option (zy (List.map Q1 [zz,zg]))}{e:Int}(h:o=Q1 (jq,e,()))(hp:aT x0 x1=(e,jq)):o=Q1 ((aT x0 x1).2,(aT x0 x1).1,()):=by rw[hp];exact h
theorem Wi{x0:Sem zh.sl}{x1:Sem zk}(hM:nF x1=Q3)(hB:mR x0=Q3)(hmay:(bif !dV x1 then Q3 else ki x0 !=0)=Q3):PlS x0 x1:=by
 have h3:(nF x1&&bif !dV x1 then Q3 else mR x0)=Q3:=by rw[hM,hB];cases dV x1<;>rfl
 have hp:aT x0 x1=(1,jq):=by
  unfold aT;rw[if_neg];rintro⟨_,h1,h2⟩;rw[h1]at hmay;simp[h2]at hmay
 refine wc ?_ hp;unfold IX al cU;rw[KH];simp only[It,Q8,h3,hmay,if_true];by_cases o1:(x1.1==[99,111,112,121])=Q3
 ·simp only[o1,if_true];rfl
 ·by_cases o2:(x1.1==[106,111,105,110])=Q3
  ·simp only[o1,o2,if_true];rfl
  ·by_cases o3:(x1.1==[103,114,111,117,112])=Q3
   ·simp only[o1,o2,o3,if_true];rfl
   ·simp only[o1,o2,o3];rfl
theorem zcy{x0:Sem zh.sl}{x1:Sem zk}{y:zn bf}{z:zn ah}{cols:List (Sem zj)}{key:Int}{ix:List Int}{on:Int}(k3:y.t=(Y6 x0 x1).t)(hk:mN y z)
  (hch:z.t.t.q.1=y.t.t.2.1) (hA:Dn z cols key ix on):SW z=(x1.1,x1.2.2.1,x1.t.t.t,(x1.2.1,cols,key,[],[],x1.t.t.1),ix,on):=by
 obtain⟨_,_,_,_,a4,a5,a6,a7⟩:=hk;have e4:z.t.1=x1.1:=by rw[a4,k3]
 have e5:z.t.2.1=x1.2.2.1:=by rw[a5,k3]
 have e6:z.t.q.1=x1.t.t.t:=by rw[a6,k3]
 have e7:z.t.q.2.1=x1.2.1:=by rw[a7,k3]
 have e8:z.t.t.q.1=x1.t.t.1:=by rw[hch,k3]
 show(z.t.1,z.t.2.1,z.t.q.1,(z.t.q.2.1,z.t.t.1,z.t.t.2.1,[],[],z.t.t.q.1),z.t.t.q.2.1,z.t.t.t.1)=_;rw[e4,e5,e6,e7,e8,hA.cols,hA.key,hA.ix,hA.on]
theorem zcx{x0:Sem zh.sl}{x1:Sem zk}(hdb:∀x∈x0,gB x)(hl:length x0<=13)(hs:J2 x1):PlS x0 x1:=by
 by_cases hg:jn x1.1;rotate_left
 ·have o1:(x1.1==[99,111,112,121])=Q4:=by simpa using λk=>hg (.inl k)
  have o2:(x1.1==[106,111,105,110])=Q4:=by simpa using λk=>hg (.inr (.inl k))
  have o3:(x1.1==[103,114,111,117,112])=Q4:=by simpa using λk=>hg (.inr (.inr k))
  refine wc (e:=1) ?_ (by unfold aT;rw[if_neg λh=>hg h.1]);unfold IX al cU;rw[KH];simp only[It,Q8,o1,o2,o3];rfl
 have hM:=JK hs.sh hg;have hB:=Fl hdb;by_cases hmay:(bif !dV x1 then Q3 else ki x0 !=0)=Q3
 ·exact Wi hM hB hmay
 have h3:(nF x1&&bif !dV x1 then Q3 else mR x0)=Q3:=by rw[hM,hB];cases dV x1<;>rfl
 have hm1:dV x1=Q3:=by
  cases h:dV x1
  ·rw[h]at hmay;simp at hmay
  ·rfl
 have hb1:ki x0=(0:Int):=by
  rw[hm1]at hmay;simpa using hmay
 have hparts:=lD hm1;have hrels:=((jV hdb).1 hb1).rels;obtain⟨e8,y8,h8,k1,k2,k3,k5,k4⟩:=IN (Y6 x0 x1) (by show length x0<=_;omega);have s8:mi (Y6 x0 x1)=(e8,y8):=by unfold mi;rw[h8];rfl
 have c8:mj (Y6 x0 x1)=Q3:=by unfold mj;rw[h8];rfl
 have k5:e8=nD x0 x1.2.2.1 x1.t.t.t x1.2.1:=k5;have hS:jn x1.1->aT x0 x1=if e8=0 then dd x0 x1 else(e8,jq):=by
  intro h;unfold aT;rw[if_pos ⟨h,hm1,hb1⟩,k5]
 unfold PlS IX al cU;rw[KH];simp only[It,Q8,h3,hmay,hs.cp,s8,c8,if_true];by_cases e80:e8=0
 ·have hsrc:=k4 e80;have n2:y8.2.1=x1:=k2;have n1:y8.1=x0:=k1;have nk:y8.t.t.1=(0:Int):=by rw[k3]
  have non:y8.t.t.q.1=(0:Int):=by rw[k3]
  have nw:y8.t.q.1=x1.t.t.t:=by rw[k3]
  have hfrom:y8.2.2.1=au x0 x1.2.2.1:=hsrc.t.1;have hwith:y8.2.2.2.1=fR x0 x1.t.t.t:=hsrc.t.2;have mayf:=gR (hrels _ (mf (db:=x0) (s:=x1.2.2.1) hsrc.1)).may;rw[show(getD x0 (toNat (zS x0 x1.2.2.1)) (zi zh)).1=y8.2.2.1 from hfrom.symm]at mayf;have hwl:length y8.2.2.2.1.2.1<=100:=by
   rw[hwith];unfold fR;split
   ·simp
   ·rename_i hw;have:=(gR (hrels _ (mf (db:=x0) (s:=x1.t.t.t) (hsrc.2.1.resolve_left hw))).may).2.2.2.1;unfold au;omega
  have e8b:(e8==0)=Q3:=by simpa using e80
  simp only[e8b,if_true];by_cases o1:(x1.1==[99,111,112,121])=Q3
  ·have hmg:jn x1.1:=Or.inl (bF o1);obtain⟨z,h11,hk,hch,hlen,hA⟩:=Sb y8 (by rw[n2];have:=hs.sh.names.1;omega);rw[n2,hfrom,non]at hA;rw[n2,hfrom]at h11;generalize hce:uX (au x0 x1.2.2.1) x1.2.2.2.1=e11 at h11 hA;have uu:Ez y8=(e11,z):=by unfold Ez;rw[h11];rfl
   have c11:FW y8=Q3:=by unfold FW;rw[h11];rfl
   have hP:=hS hmg;rw[if_pos e80]at hP;unfold dd at hP;rw[if_pos o1,hce]at hP;simp only[o1,uu,c11,if_true];by_cases e0:e11=0
   ·have hz:=zcy k3 hk hch (hA e0);have h13:=su z hlen;have hT:Nt z=(SW z).2.2.2.1:=rfl;rw[hT,hz]at h13;unfold jl at hP;rw[if_pos e0]at hP;generalize he13:uI _=e13 at h13 hP;have s13:fe z=(e13,z):=by unfold fe;rw[h13];rfl
    have c13:gm z=Q3:=by unfold gm;rw[h13];rfl
    have e0b:(e11==0)=Q3:=by simpa using e0
    simp only[e0b,s13,c13,if_true];by_cases f0:e13=0
    ·have f0c:(e13 !=0)=Q4:=by simp[f0]
     simp only[f0c];rw[if_pos f0]at hP;rw[hP];exact(zcC z).trans (by rw[hz])
    ·have f0c:(e13 !=0)=Q3:=by simpa using f0
     simp only[f0c,if_true];rw[if_neg f0]at hP;exact wc (B9 e13) hP
   ·have e0b:(e11==0)=Q4:=by simpa using e0
    have e0c:(e11 !=0)=Q3:=by simpa using e0
    unfold jl at hP;rw[if_neg e0]at hP;simp only[e0b,e0c,if_true];exact wc (B9 e11) hP
  ·by_cases o2:(x1.1==[106,111,105,110])=Q3
   ·have hmg:jn x1.1:=Or.inr (Or.inl (bF o2));obtain⟨z,h11,hk,hch,hlen,hA⟩:=Sc y8 (by have:=mayf.2.2.2.1;omega) hwl;rw[n2,nw,hfrom,hwith]at hA;rw[n2,nw,hfrom,hwith]at h11;generalize hce:gQ (au x0 x1.2.2.1) (fR x0 x1.t.t.t) x1.t.2.1 x1.t.t.t=e11 at h11 hA;have uu:EA y8=(e11,z):=by unfold EA;rw[h11];rfl
    have c11:FY y8=Q3:=by unfold FY;rw[h11];rfl
    have hP:=hS hmg;rw[if_pos e80]at hP;unfold dd at hP;rw[if_neg o1,if_pos o2,hce]at hP;simp only[o1,o2,uu,c11,if_true];by_cases e0:e11=0
    ·have hz:=zcy k3 hk hch (hA e0);have h13:=su z hlen;have hT:Nt z=(SW z).2.2.2.1:=rfl;rw[hT,hz]at h13;unfold jl at hP;rw[if_pos e0]at hP;generalize he13:uI _=e13 at h13 hP;have s13:fe z=(e13,z):=by unfold fe;rw[h13];rfl
     have c13:gm z=Q3:=by unfold gm;rw[h13];rfl
     have e0b:(e11==0)=Q3:=by simpa using e0
     simp only[e0b,s13,c13,if_true];by_cases f0:e13=0
     ·have f0c:(e13 !=0)=Q4:=by simp[f0]
      simp only[f0c];rw[if_pos f0]at hP;rw[hP];exact(zcC z).trans (by rw[hz])
     ·have f0c:(e13 !=0)=Q3:=by simpa using f0
      simp only[f0c,if_true];rw[if_neg f0]at hP;exact wc (B9 e13) hP
    ·have e0b:(e11==0)=Q4:=by simpa using e0
     have e0c:(e11 !=0)=Q3:=by simpa using e0
     unfold jl at hP;rw[if_neg e0]at hP;simp only[e0b,e0c,if_true];exact wc (B9 e11) hP
   ·by_cases o3:(x1.1==[103,114,111,117,112])=Q3
    ·have hmg:jn x1.1:=Or.inr (Or.inr (bF o3));obtain⟨z,h11,hk,hch,hlen,hA⟩:=OC y8 (by rw[n2];exact ls hparts (bF o3));rw[n2,hfrom,non,nk]at hA;rw[n2,hfrom]at h11;generalize hce:se (au x0 x1.2.2.1) x1.2.2.2.1=e11 at h11 hA;have uu:vV y8=(e11,z):=by unfold vV;rw[h11];rfl
     have c11:yf y8=Q3:=by unfold yf;rw[h11];rfl
     have hP:=hS hmg;rw[if_pos e80]at hP;unfold dd at hP;rw[if_neg o1,if_neg o2,if_pos o3,hce]at hP;simp only[o1,o2,o3,uu,c11,if_true];by_cases e0:e11=0
     ·have hz:=zcy k3 hk hch (hA e0);have h13:=su z hlen;have hT:Nt z=(SW z).2.2.2.1:=rfl;rw[hT,hz]at h13;unfold jl at hP;rw[if_pos e0]at hP;generalize he13:uI _=e13 at h13 hP;have s13:fe z=(e13,z):=by unfold fe;rw[h13];rfl
      have c13:gm z=Q3:=by unfold gm;rw[h13];rfl
      have e0b:(e11==0)=Q3:=by simpa using e0
      simp only[e0b,s13,c13,if_true];by_cases f0:e13=0
      ·have f0c:(e13 !=0)=Q4:=by simp[f0]
       simp only[f0c];rw[if_pos f0]at hP;rw[hP];exact(zcC z).trans (by rw[hz])
      ·have f0c:(e13 !=0)=Q3:=by simpa using f0
       simp only[f0c,if_true];rw[if_neg f0]at hP;exact wc (B9 e13) hP
     ·have e0b:(e11==0)=Q4:=by simpa using e0
      have e0c:(e11 !=0)=Q3:=by simpa using e0
      unfold jl at hP;rw[if_neg e0]at hP;simp only[e0b,e0c,if_true];exact wc (B9 e11) hP
    ·simp only[o1,o2,o3];refine wc (B9 1) ?_;unfold aT;rw[if_neg];rintro⟨h|h|h,_⟩
     ·exact o1 (aZ.2 h)
     ·exact o2 (aZ.2 h)
     ·exact o3 (aZ.2 h)
 ·have e8b:(e8==0)=Q4:=by simpa using e80
  have e8c:(e8 !=0)=Q3:=by simpa using e80
  have hP:jn x1.1->aT x0 x1=(e8,jq):=λh=>by rw[hS h,if_neg e80]
  simp only[e8b,e8c,if_true];by_cases o1:(x1.1==[99,111,112,121])=Q3
  ·simp only[o1,if_true];exact wc (B9 e8) (hP (Or.inl (bF o1)))
  ·by_cases o2:(x1.1==[106,111,105,110])=Q3
   ·simp only[o1,o2,if_true];exact wc (B9 e8) (hP (Or.inr (Or.inl (bF o2))))
   ·by_cases o3:(x1.1==[103,114,111,117,112])=Q3
    ·simp only[o1,o2,o3,if_true];exact wc (B9 e8) (hP (Or.inr (Or.inr (bF o3))))
    ·simp only[o1,o2,o3];refine wc (B9 1) ?_;unfold aT;rw[if_neg];rintro⟨h|h|h,_⟩
     ·exact o1 (aZ.2 h)
     ·exact o2 (aZ.2 h)
     ·exact o3 (aZ.2 h)
end
end Cad
