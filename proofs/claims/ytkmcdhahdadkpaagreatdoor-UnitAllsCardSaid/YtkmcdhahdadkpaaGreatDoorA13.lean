/- Tables with rows that may be: no value twice. What is asked of tables with rows, and of bases, holds. What is asked of bases holds. Tables with rows that may be. -/
import Derived.Test.YtkmcdhahdadkpaaGreatDoorA10
import Derived.Test.YtkmcdhahdadkpaaGreatDoorA08
import Derived.Test.YtkmcdhahdadkpaaGreatDoorA12
import Derived.Test.YtkmcdhahdadkpaaGreatDoorA11
import Derived.Test.YtkmcdhahdadkpaaGreatDoorA09
namespace Cad
open Go Go.Proofs
open Tr renaming val→Q8
open Bool renaming false→Q4,true→Q3
open Option renaming some→Q1
open Decidable renaming decide→Q0
open Int (toNat)
open List (getD length)
open Tr (chk br re)
open AV (nils agg tup ptr kb str sl)
noncomputable section
set_option maxHeartbeats 4000000
abbrev zR(c:Int)(r:List (Sem ze)):Sem ze:=getD r (toNat c) (zi ze)
def ro(rows:List (List (Sem ze)))(c:Int):Prop:=rows.Pairwise λa b=>(zR c a).1≠0->zR c a≠zR c b
theorem pR:∀(es:List ((Int×Int×zD)×Int))(k:Int×Int×zD)(x:Int),jV (jM es k) (lv es k) x=kc es k x
 |[],k,x=>by simp[jM,m7,lv,jV,kc]
 | p::r,k,x=>by
  have h:=pR r k x;cases hk:(k==p.1)with
  | true=>
   have e:k=p.1:=bC hk;simp[jM,m7,lv,jV,kc,e]
  | false=>
   have e:jM (p::r) k=p::jM r k:=by
    simp only[jM,m7,List.any_cons,hk,Bool.false_or];cases(r.any λp=>k==p.1)<;>rfl
   rw[e,lv,kc,hk];show p::jV (jM r k) (lv r k) x=p::kc r k x;rw[h]
theorem FO(es:List ((Int×Int×zD)×Int))(k k':Int×Int×zD)(x:Int):gu (kc es k x) k'=if k'=k then x else gu es k':=by
 induction es with
 | nil=>
  by_cases h:k'=k
  ·subst h;simp[kc,gu]
  ·simp[kc,gu,h]
 | cons p r ih=>
  rw[kc];cases hk:(k==p.1)with
  | true=>
   have e:k=p.1:=bC hk;by_cases h:k'=k
   ·simp[gu,h]
   ·have h2:(k'==p.1)=Q4:=by rw[<-e];simpa using h
    have h3:(k'==k)=Q4:=by simpa using h
    simp only[ae,gu,List.find?_cons,h2,h3,if_neg h]
  | false=>
   show gu (p::kc r k x) k'=_;cases hp:(k'==p.1)with
   | true=>
    have e:k'=p.1:=bC hp;have h:k'≠k:=by intro h;rw[<-h,hp]at hk;cases hk
    simp only[gu,List.find?_cons,hp,if_neg h]
   | false=>
    simp only[gu,List.find?_cons,hp]at ih⊢;exact ih
def ug:List (Sem ze)->List ((Int×Int×zD)×Int)
 |[]=>[]
 |v::r=>kc (ug r) v (IntKind.i64.wrap (gu (ug r) v+1))
theorem JA:∀l:List (Sem ze),(ug l).length<=l.length
 |[]=>aA _
 | v::r=>by
  rw[ug,<-pR,Dt];have:=UX (ug r) v;have:=JA r;simp;omega
theorem B1:∀(l:List (Sem ze))(v:Sem ze),l.length<=1000000->gu (ug l) v=(l.count v:Int)
 |[],v,_=>by simp[ug,gu]
 | u::r,v,h=>by
  simp only[fj]at h;have h1:=B1 r u ow;have h2:=B1 r v ow;have h3:r.count u<=r.length:=List.count_le_length;rw[ug,FO,h1,h2,zp _ um];by_cases e:v=u
  ·subst e;simp
  ·have e':¬(u==v)=Q3:=by intro h;exact e (bC h).symm
   rw[if_neg e,List.count_cons,if_neg e'];rfl
theorem Kb{x:Sem zh}{c:Int}(hc:∀r∈x.2,zK c (length r)=Q3)(hl:x.2.length<=1000000):∃b,Aq x c=Q1 (b,())/\(b=Q4↔ro x.2 c):=by
  let key:Nat->Sem ze:=λi=>zR c (getD x.2 i (zi ze.sl))
  let mm:Nat->List ((Int×Int×zD)×Int):=λi=>ug (((x.2.take i).map (zR c)).reverse)
  have hm:∀i,i<x.2.length->mm (i+1)=kc (mm i) (key i) (IntKind.i64.wrap (gu (mm i) (key i)+1)):=by
    intro i hi;show ug (((x.2.take (i+1)).map (zR c)).reverse)=_;rw[List.take_succ_eq_append_getElem hi,iP,List.reverse_append];show ug (zR c x.2[i]::_)=_;rw[ug];have:key i=zR c x.2[i]:=by
      show zR c (getD x.2 i _)=_;rw[bc,zS hi,dw]
    rw[this];rfl
  have hlen:∀i,i<=x.2.length->(mm i).length<=i:=by
    intro i hi;have:=JA (((x.2.take i).map (zR c)).reverse);simp at this;have h2:(mm i).length=(ug (((x.2.take i).map (zR c)).reverse)).length:=rfl;simp at h2;omega
  have hget:∀i v,i<=x.2.length->gu (mm i) v=((((x.2.take i).map (zR c)).count v:Nat):Int):=by
    intro i v hi;show gu (ug _) v=_;rw[B1 _ _ sg,List.count_reverse]
  have hf:=ly (t:=ye) (Φ:=λr=>aL r.2 [Sh.bool] r.1=some (true,())) 1 (λi=>.h3 c x.2 (x.2.length:Int) (i:Int) (mm i)) (λi=>(key i).1≠0->((x.2.take i).map (zR c)).count (key i)=0) x.2.length (by
    intro i hi _;have k0:getD x.2 (i:Int).toNat (zi ze.sl)=getD x.2 i (zi ze.sl):=by rw[aG]
    have k1:getD x.2 i (zi ze.sl)=x.2[i]:=by rw[bc,zS hi,dw]
    have k2:zK c (length x.2[i])=Q3:=hc _ (bd hi);have k3:key i=zR c x.2[i]:=by show zR c (getD x.2 i _)=_;rw[k1]
    have k4:zK ((lv (mm i) (key i):Nat):Int) (jM (mm i) (key i)).length=Q3:=zt (XW _ _);have k5:Q0 ((mm i).length<=1073741824)=Q3:=zx (by have:=hlen i ow;omega);have k6:jV (jM (mm i) (key i)) ((lv (mm i) (key i):Nat):Int).toNat (IntKind.i64.wrap (gu (mm i) (key i)+1))=mm (i+1):=by rw[aG,pR,hm i hi]
    have k7:gu (mm (i+1)) (key i)=((((x.2.take i).map (zR c)).count (key i)+1:Nat):Int):=by
      have h3:((x.2.take i).map (zR c)).count (key i)<=((x.2.take i).map (zR c)).length:=List.count_le_length;simp only[cV,ol]at h3;rw[hm i hi,FO,if_pos rfl,hget i _ ow,zp _ um]
    have hv:(ye (.h3 c x.2 (x.2.length:Int) (i:Int) (mm i))).val=if(bif (key i).1!=0 then Q0 (((((x.2.take i).map (zR c)).count (key i)+1:Nat):Int)>1)else Q4)=Q3 then Q1 (.inr (.kb Q3,[]))else Q1 (.inl (.h3 c x.2 (x.2.length:Int) ((i+1:Nat):Int) (mm (i+1)))):=by
      show(ye (.h3 c x.2 _ _ _)).val=_;unfold ye;simp only[k0,k1];rw[show getD x.2[i] (toNat c) (zi ze)=key i from k3.symm];simp only[Q8,zC hi,zt hi,k2,k4,k5,if_true,k6,k7];rw[zp i um]
    by_cases h1:(key i).1=0
    · refine .inl ⟨λh=>absurd h1 h,zQ.of ?_⟩
      rw[hv,if_neg (by simp[h1])]
    · by_cases h2:((x.2.take i).map (zR c)).count (key i)=0
      · refine .inl ⟨λ_=>h2,zQ.of ?_⟩
        rw[hv,if_neg (by rw[h2];simp)]
      · refine .inr ⟨fun h => h2 (h h1),(.kb true,[]),zU.of ?_,rfl⟩
        rw [hv, if_pos (by have:((key i).1 != 0)=true:=by simpa using h1
                           rw[this];simp only[ae,aP];omega)])
  have hu:(∀i,i<x.2.length->(key i).1≠0->((x.2.take i).map (zR c)).count (key i)=0)↔ro x.2 c:=by
    unfold ro;rw[List.pairwise_iff_getElem];constructor
    · intro h j i hj hi hji hne e
      have k3:key i=zR c x.2[i]:=by show zR c (getD x.2 i _)=_;rw[bc,zS hi,dw]
      have:=h i hi (by rw[k3,<-e];exact hne);rw[List.count_eq_zero,k3,<-e]at this;exact this (bq.2 ⟨_,List.mem_take_iff_getElem.2 ⟨j,ow,rfl⟩,rfl⟩)
    · intro h i hi hne
      have k3:key i=zR c x.2[i]:=by show zR c (getD x.2 i _)=_;rw[bc,zS hi,dw]
      rw[List.count_eq_zero];intro hmem;obtain⟨r,hr,e⟩:=bq.1 hmem;obtain⟨j,hj,rfl⟩:=List.mem_take_iff_getElem.1 hr;rw[k3]at e hne;exact h j i ow hi ow (by rw[e];exact hne) e
  have hgo:(Zw x c).val=Q1 (.inl (.h3 c x.2 (x.2.length:Int) ((0:Nat):Int) (mm 0))):=rfl;rcases hf with⟨h1,h2⟩|⟨h1,r,h2,h3⟩
  · refine⟨Q4,?_,λ_=>hu.1 h1,λ_=>rfl⟩
    refine zw hgo (h2.ends (zU.of (r:=(.kb Q4,[])) ?_)) ow rfl;show(ye (.h3 c x.2 _ _ _)).val=_;simp only[ye,Q8,zA];rfl
  · refine⟨Q3,zw hgo h2 ow h3,⟨λh=>?_,λh=>absurd (hu.2 h) h1⟩⟩
    cases h
structure gN (x:Sem zh):Prop where
 uq:x.1.2.2.2.1.length<=1000
 rf:x.1.t.1.length<=1000
 rw:x.2.length<=1000
theorem xy(l:List (Sem zh))(s:zD):zX l s=(-1:Int)\/((0:Int)<=zX l s/\LT.lt (α:=Int) (zX l s) l.length):=by
 have:=fL (λx:Sem zh=>x.1.1==s) l 0;simp at this;exact this
theorem dA{l:List (Sem zh)}{s:zD}(h:(0:Int)<=zX l s):zK (zX l s) (length l)=Q3:=by
 rcases xy l s with h1|⟨h1,h2⟩
 ·rw[h1]at h;omega
 ·simp only[zK,aC,aP];exact⟨h1,h2⟩
theorem au{α:Type}{l:List α}{d:α}{Q:α->Prop}:(∀i,i<l.length->Q (l.getD i d))↔∀x∈l,Q x:=by
 constructor
 ·intro h x hx;obtain⟨i,hi,rfl⟩:=fW hx;have:=h i hi
  rwa [bc,zS hi,dw]at this
 ·intro h i hi;rw[bc,zS hi,dw];exact h _ (bd hi)
theorem bL{α:Type}{l:List α}{d:α}{i:Nat}(hi:i<l.length):l.getD i d∈l:=by
 rw[bc,zS hi,dw];exact bd hi
theorem pU(i:Nat)(h:i<aH):IntKind.i64.wrap (((i+1:Nat):Int)-1)=(i:Int):=by
 have:aH=9223372036854775807:=rfl;rw[fX];omega
def yg(a b:Sem ze):Prop:=LT.lt (α:=Int) (bj a b) 0
theorem Ok{a b:Sem ze}:Q0 (GE.ge (α:=Int) (bj a b) 0)=Q3↔¬yg a b:=by
 unfold yg;rw[aP];omega
structure eh (x:Sem zh):Prop where
 may:eD x.1=Q3
 few:x.2.length<=200
 fits:∀r∈x.2,eb x.1 r=(0:Int)
 key:ro x.2 x.1.2.2.1
 uniq:∀u∈x.1.2.2.2.1,ro x.2 u
 rise:∀i,i<x.2.length-1->yg (zR x.1.2.2.1 (getD x.2 i (zi ze.sl))) (zR x.1.2.2.1 (getD x.2 (i+1) (zi ze.sl)))
def U5(r:aw):Prop:=∃e:Int,r=(.int .i64 e,[])/\e≠0
theorem Ka{x:Sem zh}(hs:gN x):∃e:Int,nU x=Q1 (e,())/\(e=0↔eh x):=by
 have hsw:=hs.rw;have hsu:=hs.uq;have fin:∀{k:Nat}{r:aw},zU ij k (.h6 x.2 (x.2.length:Int) ((0:Nat):Int) (x,())) r->k<=100000000->(Pm x).val=Q1 (.inl (.h6 x.2 (x.2.length:Int) ((0:Nat):Int) (x,())))->∀e:Int,r=(.int .i64 e,[])->nU x=Q1 (e,()):=by
  intro k r h hk hi e he;subst he;exact zw hi h hk rfl
 by_cases hm:eD x.1=Q3
 case neg=>
  refine⟨1,?_,λh=>(by cases h),λh=>absurd h.may hm⟩;unfold nU al cT;simp only[Pm,zk,Q8];rw[if_pos (by simpa using hm)];rfl
 by_cases hw:x.2.length<=200
 case neg=>
  refine⟨13,?_,λh=>(by cases h),λh=>absurd h.few hw⟩;unfold nU al cT;simp only[Pm,zk,Q8];rw[if_neg (by simpa using hm),if_pos sg];rfl
 have hi:(Pm x).val=Q1 (.inl (.h6 x.2 (x.2.length:Int) ((0:Nat):Int) (x,()))):=by
  simp only[Pm,zk,Q8];rw[if_neg (by simpa using hm),if_neg sg];rfl
 obtain⟨hkc,hrc,huc,_,_⟩:=g8 hm;have h6:=ly (t:=ij) (Φ:=U5) 1 (λi=>.h6 x.2 (x.2.length:Int) (i:Int) (x,())) (λi=>eb x.1 (getD x.2 i (zi ze.sl))=(0:Int)) x.2.length (by
  intro i hi _;have hv:(ij (.h6 x.2 (x.2.length:Int) (i:Int) (x,()))).val=if(eb x.1 (getD x.2 i (zi ze.sl))!=0)=Q3 then Q1 (.inr (.int .i64 (eb x.1 (getD x.2 i (zi ze.sl))),[]))else Q1 (.inl (.h6 x.2 (x.2.length:Int) ((i+1:Nat):Int) (x,()))):=by
   show(ij (.h6 x.2 _ _ _)).val=_;unfold ij;simp only[zk,Q8,zC hi,zt hi,if_true,aG];rw[zp i um]
  by_cases h:eb x.1 (getD x.2 i (zi ze.sl))=(0:Int)
  ·refine .inl ⟨h,zQ.of ?_⟩;rw[hv,if_neg (by rw[h];simp)]
  ·refine .inr ⟨h,_,zU.of (by rw[hv,if_pos (by simpa using h)]),_,rfl,h⟩)
 rcases h6 with⟨hf,h6⟩|⟨hf,r,h6,e,he,hne⟩
 case inr=>
  exact⟨e,fin h6 ow hi e he,λh=>absurd h hne,λh=>absurd ((au (Q:=λr=>eb x.1 r=(0:Int))).2 h.fits) hf⟩
 have hfits:=(au (Q:=λr=>eb x.1 r=(0:Int))).1 hf;have hlen:∀r∈x.2,length r=x.1.2.1.length:=λr hr=>BD (by simpa using hfits r hr)
 have hin:∀c,Dx c x.1.2.1.length->∀r∈x.2,zK c (length r)=Q3:=λc hc r hr=>by
  rw[hlen r hr];exact tX hc
 obtain⟨b,hb,hbu⟩:=Kb (x:=x) (c:=x.1.2.2.1) (hin _ hkc) ow;have hbc:qU x x.1.2.2.1=Q3:=by unfold qU;rw[hb];rfl
 have hbv:wS x x.1.2.2.1=b:=by unfold wS;rw[hb];rfl
 have hv6:(ij (.h6 x.2 (x.2.length:Int) (x.2.length:Int) (x,()))).val=if b=Q3 then Q1 (.inr (.int .i64 7,[]))else Q1 (.inl (.h15 x.1.2.2.2.1 (x.1.2.2.2.1.length:Int) ((0:Nat):Int) (x,()))):=by
  show(ij (.h6 x.2 _ _ _)).val=_;unfold ij;simp only[zk,Q8,zA,hbc,hbv,if_true];rfl
 by_cases hb1:b=Q3
 ·refine⟨7,fin (h6.ends (zU.of (by rw[hv6,if_pos hb1]))) ow hi 7 rfl,λh=>(by cases h),λh=>?_⟩;have:=hbu.2 h.key;rw[hb1]at this;cases this
 have hkey:ro x.2 x.1.2.2.1:=hbu.1 (by simpa using hb1);have g15:zQ ij _ (.h6 x.2 (x.2.length:Int) ((0:Nat):Int) (x,())) _:=h6.trans (zQ.of (by rw[hv6,if_neg hb1]));have h15:=ly (t:=ij) (Φ:=U5) 1 (λi=>.h15 x.1.2.2.2.1 (x.1.2.2.2.1.length:Int) (i:Int) (x,())) (λi=>ro x.2 (getD x.1.2.2.2.1 i (zi zg))) x.1.2.2.2.1.length (by
  intro i hi _;obtain⟨b,hb,hbu⟩:=Kb (x:=x) (c:=getD x.1.2.2.2.1 i (zi zg)) (hin _ (huc _ (bL hi))) ow;have hbc:qU x (getD x.1.2.2.2.1 i (zi zg))=Q3:=by unfold qU;rw[hb];rfl
  have hbv:wS x (getD x.1.2.2.2.1 i (zi zg))=b:=by unfold wS;rw[hb];rfl
  have hv:(ij (.h15 x.1.2.2.2.1 (x.1.2.2.2.1.length:Int) (i:Int) (x,()))).val=if b=Q3 then Q1 (.inr (.int .i64 7,[]))else Q1 (.inl (.h15 x.1.2.2.2.1 (x.1.2.2.2.1.length:Int) ((i+1:Nat):Int) (x,()))):=by
   show(ij (.h15 _ _ _ _)).val=_;unfold ij;simp only[zk,Q8,zC hi,zt hi,if_true,aG,hbc,hbv];rw[zp i um]
  by_cases h:b=Q3
  ·refine .inr ⟨λhu=>?_,_,zU.of (by rw[hv,if_pos h]),7,rfl,by decide⟩;have:=hbu.2 hu;rw[h]at this;cases this
  ·exact .inl ⟨hbu.1 (by simpa using h),zQ.of (by rw[hv,if_neg h])⟩)
 rcases h15 with⟨hq,h15⟩|⟨hq,r,h15,e,he,hne⟩
 case inr=>
  exact⟨e,fin (g15.ends h15) ow hi e he,λh=>absurd h hne,λh=>absurd ((au (Q:=λu=>ro x.2 u)).2 h.uniq) hq⟩
 have huniq:=(au (Q:=λu=>ro x.2 u)).1 hq;have hv15:(ij (.h15 x.1.2.2.2.1 (x.1.2.2.2.1.length:Int) (x.1.2.2.2.1.length:Int) (x,()))).val=Q1 (.inl (.h21 ((0+1:Nat):Int) (x,()))):=by
  show(ij (.h15 _ _ _ _)).val=_;unfold ij;simp only[Q8,zA];rfl
 have g21:=(g15.trans h15).trans (zQ.of hv15);have h21:=ly (t:=ij) (Φ:=U5) 1 (λi=>.h21 ((i+1:Nat):Int) (x,())) (λi=>yg (zR x.1.2.2.1 (getD x.2 i (zi ze.sl))) (zR x.1.2.2.1 (getD x.2 (i+1) (zi ze.sl)))) (x.2.length-1) (by
  intro i hi _;have h1:i<x.2.length:=by omega
  have h2:i+1<x.2.length:=by omega
  have hv:(ij (.h21 ((i+1:Nat):Int) (x,()))).val=if Q0 (GE.ge (α:=Int) (bj (zR x.1.2.2.1 (getD x.2 i (zi ze.sl))) (zR x.1.2.2.1 (getD x.2 (i+1) (zi ze.sl)))) 0)=Q3 then Q1 (.inr (.int .i64 15,[]))else Q1 (.inl (.h21 ((i+1+1:Nat):Int) (x,()))):=by
   show(ij (.h21 _ _)).val=_;unfold ij;simp only[pU i um];simp only[Q8,zC h2,zt h2,zt h1,aG,hin _ hkc _ (bL h1),hin _ hkc _ (bL h2),if_true];rw[zp (i+1) um]
  by_cases h:yg (zR x.1.2.2.1 (getD x.2 i (zi ze.sl))) (zR x.1.2.2.1 (getD x.2 (i+1) (zi ze.sl)))
  ·exact .inl ⟨h,zQ.of (by rw[hv,if_neg (λh2=>Ok.1 h2 h)])⟩
  ·exact .inr ⟨h,_,zU.of (by rw[hv,if_pos (Ok.2 h)]),15,rfl,by decide⟩)
 rcases h21 with⟨hr,h21⟩|⟨hr,r,h21,e,he,hne⟩
 case inr=>
  exact⟨e,fin (g21.ends h21) ow hi e he,λh=>absurd h hne,λh=>absurd h.rise hr⟩
 have hv21:(ij (.h21 ((x.2.length-1+1:Nat):Int) (x,()))).val=Q1 (.inr (.int .i64 0,[])):=by
  show(ij (.h21 _ _)).val=_;unfold ij;simp only[Q8];rw[if_neg sg]
 exact⟨0,fin (g21.ends (h21.ends (zU.of hv21))) ow hi 0 rfl,λ_=>⟨hm,hw,hfits,hkey,huniq,hr⟩,λ_=>rfl⟩
def l7(v:Sem ze):Prop:=LE.le (α:=Int) (-9223372036854775808) v.2.1/\LE.le (α:=Int) v.2.1 9223372036854775807/\v.2.2.length<=1000000
theorem bN:∀s:zD,Op.bytesLess s s=Q4
 |[]=>rfl
 |a::r=>by simp[Op.bytesLess,bN r]
theorem PC(s:zD):(pl s<0)↔∀b∈s,32<=b.toNat/\b.toNat<=126:=by
 refine Ts (p:=λr=>B5 r) (λc=>?_) s;unfold B5;cases h:Q0 ((c:Int)<32)with
 |true=>simp at h⊢;omega
 |false=>simp at h⊢;omega
theorem Xa(b0 b1 b2 b3 c0 c1 e l:Bool):∃r,(if b0=Q3 then Q1 (.inr (.bool (bif c0 then e else Q4),[]))else if b1=Q3 then Q1 (.inr (.bool e,[]))else if b2=Q3 then Q1 (.inr (.bool (bif c0 then l else Q4),[]))else if b3=Q3 then Q1 (.inr (.bool (bif c0 then e else bif c1 then e else Q4),[]))else Q1 (.inr (.kb Q4,[])):Option (AG⊕aw))=Q1 (.inr r)/\
  aL r.2 [Sh.bool] r.1=Q1 ((if b0=Q3 then if(!c0)=Q3 then Q4 else e else if b1=Q3 then e else if b2=Q3 then bif c0 then bif l then Q3 else Q4 else Q4 else if b3=Q3 then bif c0 then e else bif c1 then e else Q4 else Q4:Bool),()):=by
 cases b0<;>cases b1<;>cases b2<;>cases b3<;>cases c0<;>cases c1<;>cases e<;>cases l<;>exact⟨_,rfl,rfl⟩
theorem W9(b0 b1 b2 b3 c0 c1 l:Bool):(if b0=Q3 then if(!c0)=Q3 then Q4 else Q4 else if b1=Q3 then Q4 else if b2=Q3 then bif c0 then bif l then Q4 else Q4 else Q4 else if b3=Q3 then bif c0 then Q4 else bif c1 then Q4 else Q4 else Q4)=Q4:=by
 cases b0<;>cases b1<;>cases b2<;>cases b3<;>cases c0<;>cases c1<;>cases l<;>rfl
theorem JP{v:Sem ze}(hl:v.2.2.length<=1000000):GY v=Q1 (aR v,()):=by
 obtain⟨k,n,s⟩:=v;have hl:s.length<=1000000:=hl;have hf:=ly (t:=rW) (Φ:=λr=>r=(.kb Q4,[])) 1 (λi=>.h2 (i:Int) ((k,n,s),())) (λi=>32<=(getD s i 0).toNat/\(getD s i 0).toNat<=126) s.length (by
  intro i hi _;have hv:(rW (.h2 (i:Int) ((k,n,s),()))).val=if(bif Q0 (((getD s i 0).toNat:Int)<32)then Q3 else Q0 (((getD s i 0).toNat:Int)>126))=Q3 then Q1 (.inr (.kb Q4,[]))else Q1 (.inl (.h2 ((i+1:Nat):Int) ((k,n,s),()))):=by
   show(rW (.h2 _ _)).val=_;unfold rW;simp only[Q8,zC hi,zt hi,aG,if_true];rw[if_pos (by cases Q0 (((getD s i 0).toNat:Int)<32)<;>rfl)];rw[zp i um]
  by_cases h1:(getD s i 0).toNat<32
  ·refine .inr ⟨λh=>by omega,_,zU.of (by rw[hv,if_pos (by rw[zx ow];rfl)]),rfl⟩
  ·by_cases h2:126<(getD s i 0).toNat
   ·refine .inr ⟨λh=>by omega,_,zU.of (by rw[hv,if_pos (by rw[aj ow,zx ow];rfl)]),rfl⟩
   ·refine .inl ⟨ow,zQ.of (by rw[hv,if_neg (by rw[aj ow,aj ow];simp)])⟩)
 have hi:(Zt (k,n,s)).val=Q1 (.inl (.h2 ((0:Nat):Int) ((k,n,s),()))):=rfl;have ho:=PC s;have hq:=au (l:=s) (d:=0) (Q:=λb=>32<=b.toNat/\b.toNat<=126);rcases hf with⟨h1,h2⟩|⟨h1,r,h2,rfl⟩
 ·have ho2:Q0 (pl s<0)=Q3:=zx (ho.2 (hq.1 h1));have hv:(rW (.h2 (s.length:Int) ((k,n,s),()))).val=(if(k==0)=Q3 then Q1 (.inr (.bool (bif (n==0)then(s==[])else Q4),[]))else if(k==1)=Q3 then Q1 (.inr (.bool (s==[]),[]))else if(k==2)=Q3 then Q1 (.inr (.bool (bif (n==0)then Q0 ((length s:Int)<=40)else Q4),[]))else if(k==3)=Q3 then Q1 (.inr (.bool (bif (n==0)then(s==[])else bif (n==1)then(s==[])else Q4),[]))else Q1 (.inr (.kb Q4,[]))):=by
   show(rW (.h2 _ _)).val=_;unfold rW;simp only[Q8,zA];rw[if_neg sw]
  obtain⟨r,hr1,hr2⟩:=Xa (k==0) (k==1) (k==2) (k==3) (n==0) (n==1) (s==[]) (Q0 ((length s:Int)<=40));have hm:aR (k,n,s)=(if(k==0)=Q3 then if(!(n==0))=Q3 then Q4 else(s==[])else if(k==1)=Q3 then(s==[])else if(k==2)=Q3 then bif (n==0)then bif Q0 ((length s:Int)<=40)then Q3 else Q4 else Q4 else if(k==3)=Q3 then bif (n==0)then(s==[])else bif (n==1)then(s==[])else Q4 else Q4):=by
   simp only[aR,ho2];rfl
  rw[hm];exact zw hi (h2.ends (zU.of (hv.trans hr1))) ow hr2
 ·have ho2:Q0 (pl s<0)=Q4:=aj (λh=>h1 (hq.2 (ho.1 h)));have hs:(s==[])=Q4:=by
   cases s with
   |nil=>exact absurd (λi hi=>absurd hi sw) h1
   |cons _ _=>rfl
  have hm:aR (k,n,s)=Q4:=by
   simp only[aR,ho2,hs];exact W9 (k==0) (k==1) (k==2) (k==3) (n==0) (n==1) (Q0 ((length s:Int)<=40))
  rw[hm];exact zw hi h2 ow rfl
theorem jH{v:Sem ze}(hl:v.2.2.length<=1000000):kW v=Q3:=by unfold kW;rw[JP hl];rfl
theorem lR{v:Sem ze}(hl:v.2.2.length<=1000000):py v=aR v:=by unfold py;rw[JP hl];rfl
theorem Fr{v:Sem ze}(hl:v.2.2.length<=1000000):uv v=Q1 (ao v,()):=by
 unfold uv al cT;simp only[Zv,Q8,jH hl,lR hl,if_true,ao];cases aR v<;>rfl
theorem qF{v:Sem ze}(hl:v.2.2.length<=1000000):qE v=Q3:=by unfold qE;rw[Fr hl];rfl
theorem uw{v:Sem ze}(hl:v.2.2.length<=1000000):fb v=ao v:=by unfold fb;rw[Fr hl];rfl
def w8(b:Bool):Sem ze:=if b then(3,1,[])else(3,0,[])
theorem Cq(b:Bool):uu b=Q1 (w8 b,()):=by cases b<;>rfl
theorem nM(b:Bool):kX b=Q3:=by unfold kX;rw[Cq];rfl
theorem ia(b:Bool):aX b=w8 b:=by unfold aX;rw[Cq];rfl
def H2(v:Sem ze)(n:Int):Bool:=v.1==3&&(v.2.1==n&&(v.2.2==[]&&Q3))
theorem NQ(v:Sem ze)(b:Bool):JO v b=Q1 (H2 v (bif b then 1 else 0),()):=by
 unfold JO al cT;simp only[Zu,Q8,nM,ia,if_true];cases b<;>rfl
theorem yU(v:Sem ze)(b:Bool):mJ v b=Q3:=by unfold mJ;rw[NQ];rfl
theorem GX(v:Sem ze)(b:Bool):pu v b=H2 v (bif b then 1 else 0):=by unfold pu;rw[NQ];rfl
theorem m4:aS 0=(0,0,[]):=by decide
theorem lq:aS 1=(3,0,[]):=by decide
theorem lr:aS 2=(3,1,[]):=by decide
theorem jq(v:Sem ze):(dT v==1)=H2 v 0/\(dT v==2)=H2 v 1:=by
 obtain⟨k,n,s⟩:=v;unfold dT H2;simp only[aR];by_cases hk:k=3
 ·subst hk;by_cases h0:n=0
  ·subst h0;cases hs:(s==[])<;>simp[fX]
  ·by_cases h1:n=1
   ·subst h1;cases hs:(s==[])<;>simp[fX]
   ·have e0:(n==0)=Q4:=by simpa using h0
    have e1:(n==1)=Q4:=by simpa using h1
    simp[e0,e1]
 ·have e:(k==3)=Q4:=by simpa using hk
  have e':(k !=3)=Q3:=by simpa using hk
  simp[e,e']
theorem JN(a b:Sem ze):Cj a b=Q1 (DW a b,()):=by
 unfold Cj al cT;simp only[ZB,Q8,yU,GX,ia,DW,(jq a).1,(jq a).2,(jq b).1,(jq b).2,m4,lq,lr,ar,ae];cases H2 a 0<;>cases H2 b 0<;>cases H2 a 1<;>cases H2 b 1<;>rfl
theorem NS(a b:Sem ze):JR a b=Q1 (Vb a b,()):=by
 unfold JR al cT;simp only[ZC,Q8,yU,GX,ia,Vb,(jq a).1,(jq a).2,(jq b).1,(jq b).2,m4,lq,lr,ar,ae];cases H2 a 0<;>cases H2 b 0<;>cases H2 a 1<;>cases H2 b 1<;>rfl
theorem JQ(a:Sem ze):Cm a=Q1 (yv a,()):=by
 unfold Cm al cT;simp only[ZA,Q8,yU,GX,ia,yv,(jq a).1,(jq a).2,m4,lq,lr,ar,ae];cases H2 a 0<;>cases H2 a 1<;>rfl
theorem LJ(k k' n n':Int)(s s':zD):(if(k==k'&&(n==n'&&(s==s'&&Q3)))=Q3 then(0:Int)else if(bif Q0 (k<k')then Q3 else bif k==k' then bif Q0 (n<n')then Q3 else bif n==n' then Op.bytesLess s s' else Q4 else Q4)=Q3 then -1 else 1)=Fg [rq k k',jX n n',nj s s']:=by
 simp only[Fg,rq,jX,nj];rcases AP k k' with h|h|h
 ·have c1:(k==k')=Q4:=bX.2 ow;simp[c1,h]
 ·subst h;rcases AP n n' with h|h|h
  ·have c1:(n==n')=Q4:=bX.2 ow;simp[c1,h]
  ·subst h;by_cases hs:s=s'
   ·subst hs;simp[bN]
   ·have c1:(s==s')=Q4:=bX.2 hs;by_cases hl:Op.bytesLess s s'=Q3
    ·simp[c1,hl]
    ·simp[c1,hl]
  ·have c1:(n==n')=Q4:=bX.2 ow;have c2:¬n<n':=by omega
   simp[c1,c2,h]
 ·have c1:(k==k')=Q4:=bX.2 ow;have c2:¬k<k':=by omega
  simp[c1,c2,h]
theorem Co{a b:Sem ze}(ha:a.2.2.length<=1000000)(hb:b.2.2.length<=1000000):pA a b=Q1 (bj a b,()):=by
 unfold pA al cT;simp only[zis,Q8,qF ha,qF hb,uw ha,uw hb,if_true,bj];rw[<-LJ];generalize((ao a).1==(ao b).1&&((ao a).2.1==(ao b).2.1&&((ao a).2.2==(ao b).2.2&&Q3)))=b1;generalize(bif Q0 ((ao a).1<(ao b).1)then Q3 else bif (ao a).1==(ao b).1 then bif Q0 ((ao a).2.1<(ao b).2.1)then Q3 else bif (ao a).2.1==(ao b).2.1 then Op.bytesLess (ao a).2.2 (ao b).2.2 else Q4 else Q4)=b2;cases b1<;>cases b2<;>rfl
theorem zM{α:Type}(l:List α)(d:α){i:Nat}(h:i<l.length):l.getD ((i:Int).toNat) d=l[i]:=by
 rw[aG,bc,zS h,dw]
theorem tS{α:Type}(l:List α)(d:α){i:Nat}(h:i<l.length):l.getD i d∈l:=by
 rw[bc,zS h,dw];exact bd h
def bH(f w:zD):List zD:=if(w==[])=Q3 then[f]else[f,w]
def dO(db:List (Sem zh))(ns:List zD):Bool:=db.any λx=>!aD ns x.1.1&&Q0 (GE.ge (α:=Int) (zW (λf:Sem zu=>aD ns f.2) x.1.t.1 0) 0)
def nX(db:List (Sem zh))(f w t:zD):Int:=
 if∀n∈bH f w,LE.le (α:=Int) 0 (zX db n)then(if(Q0 (GE.ge (α:=Int) (zX db t) 0)||f==w)=Q3 then 7 else if dO db (bH f w)=Q3 then 10 else 0)else 6
def YZ(y:zm bl)(y':zm bl):Prop:=
 (0:Int)<=zX y.1 y.t.2.1/\(y.t.q.1=[]\/(0:Int)<=zX y.1 y.t.q.1)/\LT.lt (α:=Int) (zX y.1 y.2.1.2.1) 0/\y.t.2.1≠y.t.q.1/\
 y'.2.2.1=(getD y.1 (toNat (zX y.1 y.t.2.1)) (zi zh)).1/\
 y'.2.2.2.1=(if y.t.q.1=[]then y.2.2.2.1 else(getD y.1 (toNat (zX y.1 y.t.q.1)) (zi zh)).1)
def V9(y:zm bl)(r:aw):Prop:=∃(e:Int)(y':zm bl),r=(.int .i64 e,ay bl y')/\y'.1=y.1/\y'.2.1=y.2.1/\y'.t=y.t/\e=nX y.1 y.t.2.1 y.t.q.1 y.2.1.2.1/\(e=0->YZ y y')
theorem zkR(y:zm bl)(ns:List zD)(hl:length y.1<=1000000)(h1:(0:Int)<=zX y.1 y.t.2.1)(h2:y.t.q.1=[]\/(0:Int)<=zX y.1 y.t.q.1)(h3:LT.lt (α:=Int) (zX y.1 y.2.1.2.1) 0)(h4:y.t.2.1≠y.t.q.1)(hE:nX y.1 y.t.2.1 y.t.q.1 y.2.1.2.1=if dO y.1 ns=Q3 then 10 else 0)(n:Nat)(hn:1+length y.1<=n):
  ∃r,cY Dg n (.h11 y.1 (length y.1:Int) 0 y ns)=Q1 r/\V9 y r:=by
 refine dl (t:=Dg) (β:=Unit) (length y.1) (λ_ i=>.h11 y.1 (length y.1:Int) (i:Int) y ns) (λ_ i=>∀j(hj:j<length y.1),j<i->(!aD ns y.1[j].1.1&&Q0 (GE.ge (α:=Int) (zW (λf:Sem zu=>aD ns f.2) y.1[j].1.t.1 0) 0))=Q4) (V9 y) 1 ?_ ?_ (length y.1) 0 () n rfl (be _) (λj _ h=>by omega) hn
 ·intro b i hi hI;simp only[Dg,HL,Dh,Q8,zC hi,zt hi,if_true,zM y.1 _ hi];rw[zp i um];have hnext:(!aD ns y.1[i].1.1&&Q0 (GE.ge (α:=Int) (zW (λf:Sem zu=>aD ns f.2) y.1[i].1.t.1 0) 0))=Q4->∀j(hj:j<length y.1),j<i+1->(!aD ns y.1[j].1.1&&Q0 (GE.ge (α:=Int) (zW (λf:Sem zu=>aD ns f.2) y.1[j].1.t.1 0) 0))=Q4:=by
   intro h j hj hji;by_cases hji2:j=i
   ·subst hji2;exact h
   ·exact hI j hj ow
  by_cases c1:(!aD ns y.1[i].1.1)=Q3
  ·simp only[c1,if_true];split
   ·rename_i c2;refine Or.inr ⟨_,rfl,10,y,rfl,rfl,rfl,rfl,?_,λh=>by cases h⟩;have hr:dO y.1 ns=Q3:=by
     unfold dO;exact List.any_eq_true.2 ⟨y.1[i],bd hi,by rw[c1];simpa using c2⟩
    rw[hE,if_pos hr]
   ·rename_i c2;exact Or.inl ⟨(),hnext (by rw[c1];simpa using c2),rfl⟩
  ·simp only[c1];exact Or.inl ⟨(),hnext (by simp only[gy]at c1;rw[c1];rfl),rfl⟩
 ·intro b n hI hn;have hr:dO y.1 ns=Q4:=by
   unfold dO;rw[List.any_eq_false];intro x hx;obtain⟨j,hj,rfl⟩:=fW hx;rw[hI j hj hj];simp
  rw[hr]at hE
  replace hE:=hE.symm
  simp only[zB,if_false]at hE;obtain⟨n,rfl⟩:∃k,n=k+1:=⟨n-1,ow⟩;rw[cI];simp only[Dg,HL,Dh,Q8,zA,dA h1,if_true];by_cases c1:(!y.t.q.1==[])=Q3
  ·have hne:y.t.q.1≠[]:=by simpa using c1
   have hb:(0:Int)<=zX y.1 y.t.q.1:=h2.resolve_left hne;simp only[c1,if_true,dA hb];refine⟨_,rfl,0,_,rfl,rfl,rfl,rfl,hE,λ_=>⟨h1,h2,h3,h4,rfl,?_⟩⟩;simp[hne]
  ·have he:y.t.q.1=[]:=by simpa using c1
   simp only[c1];refine⟨_,rfl,0,_,rfl,rfl,rfl,rfl,hE,λ_=>⟨h1,h2,h3,h4,rfl,?_⟩⟩;simp[he]
theorem zny(y:zm bl)(ns:List zD)(hns:ns=bH y.t.2.1 y.t.q.1)(hl:length y.1<=1000000)(n:Nat)(hn:2+length y.1+ns.length<=n):
  ∃r,cY Dg n (.h3 ns (length ns:Int) 0 y ns)=Q1 r/\V9 y r:=by
 have hnl:ns.length<=2:=by rw[hns];unfold bH;split<;>simp
 refine dl (t:=Dg) (β:=Unit) ns.length (λ_ i=>.h3 ns (length ns:Int) (i:Int) y ns) (λ_ i=>∀j(hj:j<ns.length),j<i->(0:Int)<=zX y.1 ns[j]) (V9 y) (2+length y.1) ?_ ?_ ns.length 0 () n rfl (be _) (λj _ h=>by omega) hn
 ·intro b i hi hI;simp only[Dg,Mv,HM,Q8,zC hi,zt hi,if_true,zM ns _ hi];rw[zp i um];by_cases c1:(0:Int)<=zX y.1 ns[i]
  ·have:Q0 (LT.lt (α:=Int) (zX y.1 ns[i]) 0)=Q4:=by simpa using c1
   simp only[this];refine Or.inl ⟨(),λj hj hji=>?_,rfl⟩;by_cases hji2:j=i
   ·subst hji2;exact c1
   ·exact hI j hj ow
  ·have:Q0 (LT.lt (α:=Int) (zX y.1 ns[i]) 0)=Q3:=by simpa using c1
   simp only[this,if_true];refine Or.inr ⟨_,rfl,6,y,rfl,rfl,rfl,rfl,?_,λh=>by cases h⟩;unfold nX;rw[if_neg];intro h;exact c1 (h _ (by rw[<-hns];exact bd hi))
 ·intro b n hI hn;obtain⟨n,rfl⟩:∃k,n=k+1:=⟨n-1,ow⟩;have hA:∀n∈bH y.t.2.1 y.t.q.1,LE.le (α:=Int) 0 (zX y.1 n):=by
   intro x hx;rw[<-hns]at hx;obtain⟨j,hj,rfl⟩:=fW hx;exact hI j hj hj
  have hE:nX y.1 y.t.2.1 y.t.q.1 y.2.1.2.1=if(Q0 (GE.ge (α:=Int) (zX y.1 y.2.1.2.1) 0)||y.t.2.1==y.t.q.1)=Q3 then 7 else if dO y.1 ns=Q3 then 10 else 0:=by
   unfold nX;rw[if_pos hA,<-hns]
  have h1:(0:Int)<=zX y.1 y.t.2.1:=hA _ (by unfold bH;split<;>simp);have h2:y.t.q.1=[]\/(0:Int)<=zX y.1 y.t.q.1:=by
   by_cases hw:(y.t.q.1==[])=Q3
   ·left;simpa using hw
   ·right;exact hA _ (by unfold bH;rw[if_neg hw];simp)
  rw[cI];simp only[Dg,Mv,HM,Q8,zA];by_cases c1:(bif Q0 (GE.ge (α:=Int) (zX y.1 y.2.1.2.1) 0)then Q3 else y.t.2.1==y.t.q.1)=Q3
  ·simp only[c1,if_true];refine⟨_,rfl,7,y,rfl,rfl,rfl,rfl,?_,λh=>by cases h⟩;rw[hE,if_pos (by revert c1;cases Q0 (GE.ge (α:=Int) (zX y.1 y.2.1.2.1) 0)<;>exact id)]
  ·simp only[c1];have hd:Q0 (GE.ge (α:=Int) (zX y.1 y.2.1.2.1) 0)=Q4:=by
    cases hh:Q0 (GE.ge (α:=Int) (zX y.1 y.2.1.2.1) 0)with
    |false=>rfl
    |true=>rw[hh]at c1;simp at c1
   rw[hd]at c1;refine zkR y ns hl h1 h2 (by simpa using hd) (by simpa using c1) ?_ n ow;rw[hE,hd,if_neg (by simpa using c1)]
theorem Jv(y:zm bl)(hl:length y.1<=1000000):∃(e:Int)(y':zm bl),qo y=Q1 ((e,()),y')/\y'.1=y.1/\y'.2.1=y.2.1/\y'.t=y.t/\e=nX y.1 y.t.2.1 y.t.q.1 y.2.1.2.1/\(e=0->YZ y y'):=by
 have hps:kT (y.t.1,y.t.2.1,y.t.q.1,(y.t.q.2.1,[],y.t.t.1,[],[],zn y.t.t.2.1),[],y.t.t.q.1)=bH y.t.2.1 y.t.q.1:=rfl;obtain⟨r,h1,e,y',rfl,h2⟩:=zny y _ hps hl 100000000 (by
  have:length (kT (y.t.1,y.t.2.1,y.t.q.1,(y.t.q.2.1,[],y.t.t.1,[],[],zn y.t.t.2.1),[],y.t.t.q.1))<=2:=by rw[hps];unfold bH;split<;>simp
  omega)
 refine⟨e,y',?_,h2⟩;unfold qo kS cT;simp only[WQ,Q8];rw[h1];exact cX (outs:=[zg]) (r:=.int .i64 e) (a:=(e,())) y' rfl
theorem w7{i n:Nat}(h:i<n):Q0 ((i:Int).toNat<n)=Q3:=by simpa using h
def vo(t:Sem zo):Int:=
 if∃i,i<length t.2.1/\zT t (getD t.2.1 i (zi zj)).1≠(i:Int)then 7 else if(t.t.2.op==[])=Q3 then 0
 else if(bif (bK t.t.2 t.2.1).2==0 then bif (bK t.t.2 t.2.1).1!=3 then(bK t.t.2 t.2.1).1!=0 else Q4 else Q4)=Q3 then 5 else(bK t.t.2 t.2.1).2
abbrev Of(y:zm aq):Sem zo:=(y.t.q.2.1,y.t.t.1,y.t.t.2.1,[],[],y.t.t.q.1)
theorem sS(y:zm aq)(hl:y.t.t.1.length<=1000000):uc y=Q1 ((vo (Of y),()),y):=by
 have h:=dl (t:=Ku) (β:=Unit) y.t.t.1.length (λ_ i=>.h2 (y.t.t.1.length:Int) (i:Int) y) (λ_ i=>∀j,j<i->j<length y.t.t.1->zT (Of y) (getD y.t.t.1 j (zi zj)).1=(j:Int)) (λr=>r=(.int .i64 (vo (Of y)),ay aq y)) 1 (by
   intro b i hi hI;simp only[Ku,Mw,HN,Q8,zC hi,zt hi,zx hi,if_true,zk,aG];rw[zp i um];by_cases c:(zT (Of y) (getD y.t.t.1 i (zi zj)).1!=(i:Int))=Q3
   ·simp only[c,if_true];refine Or.inr ⟨_,rfl,?_⟩;unfold vo;rw[if_pos ⟨i,hi,by simpa using c⟩]
   ·simp only[c];refine Or.inl ⟨(),λj hj hl=>?_,rfl⟩;by_cases h:j=i
    ·subst h;simpa using c
    ·exact hI j ow hl) (by
   intro b n hI hn;obtain⟨n,rfl⟩:∃k,n=k+1:=⟨n-1,ow⟩;have h0:¬∃i,i<length (Of y).2.1/\zT (Of y) (getD (Of y).2.1 i (zi zj)).1≠(i:Int):=by
    rintro⟨i,hi,h⟩;exact h (hI i hi hi)
   have hv:(Ku (.h2 (y.t.t.1.length:Int) (y.t.t.1.length:Int) y)).val=Q1 (.inr (.int .i64 (vo (Of y)),ay aq y)):=by
    simp only[Ku,Mw,HN,Q8,zA,zk];unfold vo;rw[if_neg h0];split
    ·simp_all
    ·split
     ·rfl
     ·split<;>rfl
   rw[cI,hv];exact⟨_,rfl,rfl⟩)
  y.t.t.1.length 0 () 100000000 rfl (be _) (λj h=>by omega) ow
 obtain⟨r,h1,rfl⟩:=h;unfold uc kS cT;simp only[WR,Q8];have h1':cY Ku 100000000 (.h2 (y.t.t.1.length:Int) 0 y)=Q1 (.int .i64 (vo (Of y)),ay aq y):=h1;rw[h1'];exact cX (outs:=[zg]) (r:=.int .i64 (vo (Of y))) (a:=(vo (Of y),())) y rfl
theorem vl(t:Sem zo)(s:zD):zT t s=(-1:Int)\/((0:Int)<=zT t s/\LT.lt (α:=Int) (zT t s) (length t.2.1)):=by
 have:=fL (λc:Sem zj=>c.1==s) t.2.1 0;unfold zT;simpa using this
theorem ql{t:Sem zo}{s:zD}(h:¬LT.lt (α:=Int) (zT t s) 0):zK (zT t s) (length t.2.1)=Q3:=by
 rcases vl t s with h1|⟨h1,h2⟩
 ·rw[h1]at h;simp at h
 ·simp only[zK,aC,aP];exact⟨h1,h2⟩
theorem xN(x:Int):∀(l:List Int)(i:Nat),GE.ge (α:=Int) (eH x l (i:Int)) 0↔x∈l
 | [],i=>by
  rw[eH];exact⟨λh=>absurd h (by decide),λh=>by cases h⟩
 | a::r,i=>by
  rw[eH];split
  ·rename_i h;have:x=a:=by simpa using h
   subst this;exact⟨λ_=>xn,λ_=>Int.natCast_nonneg i⟩
  ·rename_i h;have:=xN x r (i+1);rw[tq]at this;rw[cu];refine⟨λh2=>.inr (this.1 h2),λh2=>this.2 (h2.resolve_left ?_)⟩;rintro rfl;simp at h
theorem sM(l:List Int)(x:Int):sL l x=Q3↔x∈l:=by
 unfold sL;rw[Ip];exact xN x l 0
def gq(t:Sem zo)(names:List zD):Int:=if∀s∈names,¬LT.lt (α:=Int) (zT t s) 0 then(if(names.map (zT t)).Nodup then 0 else 7)else 4
theorem B4{l:List Int}{x:Int}:(l++[x]).Nodup↔l.Nodup/\x∉l:=by
 rw[List.nodup_append];simp;intro _;exact⟨λh h2=>h x h2 rfl,λh y hy e=>h (e▸hy)⟩
theorem bV{α:Type}{l:List α}{i:Nat}(h:i<l.length):l.take (i+1)=l.take i++[l[i]]:=by
 rw[List.take_add_one,zS h];rfl
def KO(y:zm bl)(z:zm dK):Prop:=z.1=y.1/\z.2.1=y.2.1/\z.2.2.1=y.2.2.1/\z.2.2.2.1=y.2.2.2.1/\z.t.1=y.t.1/\z.t.2.1=y.t.2.1/\z.t.q.1=y.t.q.1/\z.t.q.2.1=y.t.q.2.1/\
 z.t.t.2.1=y.t.t.1/\z.t.t.q.1=y.t.t.2.1/\z.t.t.t=y.t.t.q
abbrev gp(z:zm dK):List (Sem zj):=z.t.t.1
abbrev fa(z:zm dK):List (Sem zg):=z.t.t.q.2.1
def NmI(y:zm bl)(l:List zD)(z:zm dK):Prop:=KO y z/\fa z=l.map (λs=>zT y.2.2.1 s)/\gp z=l.map (λs=>getD y.2.2.1.2.1 (toNat (zT y.2.2.1 s)) (zi zj))/\∀s∈l,¬LT.lt (α:=Int) (zT y.2.2.1 s) 0
def NmR(y:zm bl)(r:aw):Prop:=∃(e:Int)(z:zm dK),r=(.int .i64 e,ay aq z)/\KO y z/\e=gq y.2.2.1 y.2.1.2.2.2.1/\(e=0->NmI y y.2.1.2.2.2.1 z)/\(gp z).length<=1000000
theorem zju(y:zm bl)(z:zm dK)(hz:NmI y y.2.1.2.2.2.1 z)(hE:gq y.2.2.1 y.2.1.2.2.2.1=if(fa z).Nodup then 0 else 7)(hl:(fa z).length<=1000000)(m:Nat):∀(i n:Nat),(fa z).length-i=m->i<=(fa z).length->((fa z).take i).Nodup->1+m<=n->∃r,cY pM n (.h12b ((fa z).length:Int) (i:Int) z)=Q1 r/\NmR y r:=by
 intro i n hm hi hnd hn;have hcl:(gp z).length<=1000000:=by
  have:=hl;rw[hz.2.1,cV]at this;rw[hz.2.2.1,cV];exact this
 refine dl (t:=pM) (β:=Unit) (fa z).length (λ_ i=>.h12b ((fa z).length:Int) (i:Int) z) (λ_ i=>((fa z).take i).Nodup) (NmR y) 1 ?_ ?_ m i () n hm hi hnd hn
 ·intro b i hi hI;have hd:(Q0 (0<=0)&&Q0 ((0:Int)<=(i:Int))&&Q0 ((i:Int)<=((fa z).length:Int)))=Q3:=by simp;omega
  simp only[pM,Dj,wZ,Q8,zC hi,zt hi,if_true,hd];rw[zp i um];rw[show List.take (toNat (i:Int)-toNat 0) (List.drop (toNat 0) z.t.t.q.2.1)=(fa z).take i by simp,show z.t.t.q.2.1.getD (toNat (i:Int)) (zi zg)=(fa z)[i]from zM (fa z) _ hi];split
  ·rename_i c;refine Or.inr ⟨_,rfl,7,z,rfl,hz.1,?_,λh=>(by cases h),hcl⟩;rw[hE,if_neg];intro hN;have h2:((fa z).take (i+1)).Nodup:=hN.sublist (List.take_sublist _ _);rw[bV hi,B4]at h2;exact h2.2 ((sM _ _).1 c)
  ·rename_i c;refine Or.inl ⟨(),?_,rfl⟩;show((fa z).take (i+1)).Nodup;rw[bV hi,B4];exact⟨hI,λh=>c ((sM _ _).2 h)⟩
 ·intro b n hI hn;rw[jx]at hI;obtain⟨n,rfl⟩:∃k,n=k+1:=⟨n-1,ow⟩;rw[cI];simp only[pM,Dj,wZ,Q8,zA];exact⟨_,rfl,0,z,rfl,hz.1,by rw[hE,if_pos hI],λ_=>hz,hcl⟩
theorem znq(y:zm bl)(z:zm dK)(hz:NmI y y.2.1.2.2.2.1 z)(hE:gq y.2.2.1 y.2.1.2.2.2.1=if(fa z).Nodup then 0 else 7)(hl:(fa z).length<=1000000)(n:Nat)(hn:2+(fa z).length<=n):∃r,cY pM n (.h12 ((fa z).length:Int) 0 z)=Q1 r/\NmR y r:=by
 have hcl:(gp z).length<=1000000:=by
  have:=hl;rw[hz.2.1,cV]at this;rw[hz.2.2.1,cV];exact this
 obtain⟨n,rfl⟩:∃k,n=k+1:=⟨n-1,ow⟩;rw[cI];by_cases h:0<(fa z).length
 ·have hd:(Q0 (0<=0)&&Q0 ((0:Int)<=((0:Nat):Int))&&Q0 (((0:Nat):Int)<=((fa z).length:Int)))=Q3:=by simp
  have hv:(∃r,(pM (.h12 ((fa z).length:Int) ((0:Nat):Int) z)).val=Q1 (.inr r)/\NmR y r)\/(pM (.h12 ((fa z).length:Int) ((0:Nat):Int) z)).val=Q1 (.inl (.h12b ((fa z).length:Int) ((1:Nat):Int) z)):=by
   simp only[pM,HP,Dk,Q8,zC h,zt h,w7 h,if_true,hd];rw[zp 0 um];split
   ·rename_i c;exact absurd ((sM _ _).1 c) sw
   ·exact Or.inr rfl
  rw[Int.ofNat_zero]at hv;rcases hv with⟨r,h1,h2⟩|h1
  ·rw[h1];exact⟨r,rfl,h2⟩
  ·rw[h1];exact zju y z hz hE hl _ 1 n rfl ow (by rw[bV h];simp) ow
 ·have h0:(fa z).length=0:=by omega
  have hv:(pM (.h12 ((fa z).length:Int) 0 z)).val=Q1 (.inr (.int .i64 0,ay aq z)):=by
   rw[h0];simp[pM,HP,Dk,Q8]
  rw[hv];exact⟨_,rfl,0,z,rfl,hz.1,by rw[hE,if_pos (by rw[yk h0];exact List.nodup_nil)],λ_=>hz,hcl⟩
theorem nm3(y:zm bl)(z:zm dK)(hz:NmI y [] z)(hl:y.2.1.2.2.2.1.length<=1000000)(n:Nat)(hn:3+y.2.1.2.2.2.1.length+y.2.1.2.2.2.1.length<=n):∃r,cY pM n (.h3 y.2.1.2.2.2.1 (y.2.1.2.2.2.1.length:Int) 0 z)=Q1 r/\NmR y r:=by
 refine dl (t:=pM) (β:=zm dK) y.2.1.2.2.2.1.length (λz i=>.h3 y.2.1.2.2.2.1 (y.2.1.2.2.2.1.length:Int) (i:Int) z) (λz i=>NmI y (y.2.1.2.2.2.1.take i) z) (NmR y) (3+y.2.1.2.2.2.1.length) ?_ ?_ y.2.1.2.2.2.1.length 0 z n rfl (be _) (by simpa using hz) hn
 ·intro z i hi hI;obtain⟨hk,hx,hc,hp⟩:=hI;have hkl:(fa z).length<=1000000:=by rw[hx,cV,ol];omega
  have hcl:(gp z).length<=1000000:=by rw[hc,cV,ol];omega
  have e3:z.2.2.1=y.2.2.1:=hk.2.2.1;simp only[pM,Mz,HQ,Q8,zC hi,zt hi,if_true,zM _ _ hi,zk,Prod.eta];rw[zp i um];by_cases c1:LT.lt (α:=Int) (zT z.2.2.1 y.2.1.2.2.2.1[i]) 0
  ·simp only[zx c1,if_true];refine Or.inr ⟨_,rfl,4,z,rfl,hk,?_,λh=>(by cases h),hcl⟩;unfold gq;rw[if_neg];intro h;exact h _ (bd hi) (by rw[<-e3];exact c1)
  ·simp only[aj c1,ql c1];refine Or.inl ⟨(z.1,z.2.1,z.2.2.1,z.2.2.2.1,z.t.1,z.t.2.1,z.t.q.1,z.t.q.2.1,z.t.t.1++[getD z.2.2.1.2.1 (toNat (zT z.2.2.1 y.2.1.2.2.2.1[i])) (zi zj)],z.t.t.2.1,z.t.t.q.1,z.t.t.q.2.1++[zT z.2.2.1 y.2.1.2.2.2.1[i]],z.t.t.t),⟨hk,?_,?_,?_⟩,?_⟩;rotate_left 3
   ·rw[if_neg sw,if_pos (by have:z.t.t.q.2.1.length<=1000000:=hkl;simp;omega),if_pos trivial,if_pos (by have:z.t.t.1.length<=1000000:=hcl;simp;omega)]
   ·show fa z++[zT z.2.2.1 y.2.1.2.2.2.1[i]]=_;rw[hx,e3,bV hi,iP];rfl
   ·show gp z++[getD z.2.2.1.2.1 (toNat (zT z.2.2.1 y.2.1.2.2.2.1[i])) (zi zj)]=_;rw[hc,e3,bV hi,iP];rfl
   ·intro s hs;rw[bV hi,cR]at hs;rcases hs with hs|hs
    ·exact hp s hs
    ·rw[gw]at hs;rw[hs,<-e3];exact c1
 ·intro z n hI hn;obtain⟨n,rfl⟩:∃k,n=k+1:=⟨n-1,ow⟩;rw[jx]at hI;have hkl:(fa z).length=y.2.1.2.2.2.1.length:=by rw[hI.2.1,cV]
  rw[cI];simp only[pM,Mz,HQ,Q8,zA];have hn2:2+(fa z).length<=n:=by rw[hkl];omega
  refine znq y z hI ?_ ow n hn2;unfold gq;rw[if_pos hI.2.2.2,hI.2.1]
theorem Fc(y:zm bl)(hl:y.2.1.2.2.2.1.length<=1000000):∃(e:Int)(z:zm dK),yO y=Q1 ((e,()),z)/\KO y z/\e=gq y.2.2.1 y.2.1.2.2.2.1/\(e=0->NmI y y.2.1.2.2.2.1 z)/\(gp z).length<=1000000:=by
 obtain⟨r,h1,e,z,rfl,h2⟩:=nm3 y (y.1,y.2.1,y.2.2.1,y.2.2.2.1,y.t.1,y.t.2.1,y.t.q.1,y.t.q.2.1,[],y.t.t.1,y.t.t.2.1,[],y.t.t.q)
  ⟨⟨rfl,rfl,rfl,rfl,rfl,rfl,rfl,rfl,rfl,rfl,rfl⟩,rfl,rfl,sw⟩ hl 100000000 ow
 refine⟨e,z,?_,h2⟩;unfold yO kS cT;simp only[WW,Q8];rw[h1];exact cX (outs:=[zg]) (r:=.int .i64 e) (a:=(e,())) (ps:=aq) z rfl
theorem Zr(y:zm bl):Pe y=y:=by
 unfold Pe;rw[zk,zk,zk,zk,zk]
def na(y:zm bl)(z:zm aq):Prop:=z.1=y.1/\z.2.1=y.2.1/\z.2.2.1=y.2.2.1/\z.2.2.2.1=y.2.2.2.1/\z.t.1=y.t.1/\z.t.2.1=y.t.2.1/\z.t.q.1=y.t.q.1/\z.t.q.2.1=y.t.q.2.1
structure DY (z:zm aq) (cols:List (Sem zj)) (key:Int) (ix:List Int) (on:Int):Prop where
 cols:z.t.t.1=cols
 key:z.t.t.2.1=key
 ix:z.t.t.q.2.1=ix
 on:z.t.t.t.1=on
def gz(t:Sem zo)(names:List zD):List (Sem zj):=names.map λs=>getD t.2.1 (toNat (zT t s)) (zi zj)
def kP(t:Sem zo)(names:List zD):List Int:=names.map (zT t)
def vJ(t:Sem zo)(names:List zD):Int:=if gq t names=0 then(if LT.lt (α:=Int) (g6 (kP t names) t.2.2.1) 0 then 1 else 0)else gq t names
def sJ(t:Sem zo)(names:List zD):Int:=if gq t names=0 then(if((gz t names).getD 1 (zi zj)).2.1=(1:Int)then 0 else 5)else gq t names
def DP(t:Sem zo)(names:List zD):List (Sem zj):=
 [(((gz t names).getD 0 (zi zj)).1,((gz t names).getD 0 (zi zj)).2.1,Q3),(((gz t names).getD 1 (zi zj)).1,((gz t names).getD 1 (zi zj)).2.1,Q4)]
def g7(t u:Sem zo)(k w:zD):Int:=
 if LT.lt (α:=Int) (zT t k) 0 then 4 else if jR t.t.1 (zT t k,w)=Q3 then(if LT.lt (α:=Int) 9 ((length t.2.1:Int)+(length u.2.1:Int))then 13 else 0)else 10
def GK(k:Int)(n:Nat):List Nat:=(List.range n).filter λj=>(j:Int)!=k
def j8(k:Int)(n:Nat):List Int:=(GK k n).map λ(j:Nat)=>(j:Int)
def gB(u:Sem zo)(n:Nat):List (Sem zj):=(GK u.2.2.1 n).map λj=>getD u.2.1 j (zi zj)
theorem zc0(y:zm bl):Sy y=Sz y y (jU y) (g6 (jU y).t.t.t.1 (jU y).2.2.2.1.2.2.1):=by
 unfold Sy;rw[Zr]
theorem Tc(y:zm bl)(hl:y.2.1.2.2.2.1.length<=1000):∃z:zm aq,GG y=Q1 ((vJ y.2.2.1 y.2.1.2.2.2.1,()),z)/\na y z/\z.t.t.q.1=y.t.t.2.1/\
  (gp z).length<=1000000/\(vJ y.2.2.1 y.2.1.2.2.2.1=0->DY z (gz y.2.2.1 y.2.1.2.2.2.1) (g6 (kP y.2.2.1 y.2.1.2.2.2.1) y.2.2.1.2.2.1) (kP y.2.2.1 y.2.1.2.2.2.1) y.t.t.q.1):=by
 obtain⟨e,z,h1,hk,he,h2,hlen⟩:=Fc y ow;have hn:jU y=(e,z):=by unfold jU;rw[h1];rfl
 have hc:nH y=Q3:=by unfold nH;rw[h1];rfl
 have hkk:na y z:=⟨hk.1,hk.2.1,hk.2.2.1,hk.2.2.2.1,hk.t.1,hk.t.2.1,hk.t.q.1,hk.t.q.2.1⟩;have hch:z.t.t.q.1=y.t.t.2.1:=hk.t.t.2.1;unfold GG kS cT;rw[zc0];simp only[Sz,Q8,hn,hc,if_true];by_cases h0:e=0
 ·have hI:=h2 h0;have hE:vJ y.2.2.1 y.2.1.2.2.2.1=if LT.lt (α:=Int) (g6 (fa z) z.2.2.1.2.2.1) 0 then 1 else 0:=by
   unfold vJ;rw[if_pos (he▸h0),hI.2.1,hk.2.2.1];rfl
  simp only[h0,io,zB,if_false];by_cases hx:LT.lt (α:=Int) (g6 (fa z) z.2.2.1.2.2.1) 0
  ·rw[if_pos hx]at hE;simp only[zx hx,if_true,hE];exact⟨_,cX (outs:=[zg]) (r:=.int .i64 1) (a:=(1,())) (ps:=aq) _ rfl,hkk,hch,hlen,λh=>by cases h⟩
  ·rw[if_neg hx]at hE;simp only[aj hx,hE];refine⟨_,cX (outs:=[zg]) (r:=.int .i64 0) (a:=(0,())) (ps:=aq) _ rfl,hkk,hch,hlen,λ_=>⟨hI.2.2.1,?_,hI.2.1,by rw[hk.t.t.q]⟩⟩;show g6 (fa z) z.2.2.1.2.2.1=_;rw[hI.2.1,hk.2.2.1];rfl
 ·have hb:(e !=0)=Q3:=by simpa using h0
  have hE:vJ y.2.2.1 y.2.1.2.2.2.1=e:=by
   unfold vJ;rw[if_neg (he▸h0),he]
  simp only[hb,if_true,hE];exact⟨_,cX (outs:=[zg]) (r:=.int .i64 e) (a:=(e,())) (ps:=aq) z rfl,hkk,hch,hlen,λh=>absurd h h0⟩
theorem zc2(y:zm bl):SA y=(let a1:=jU y
  let a2:=a1.t.t.2.1.getD (toNat 1) (zi zj)
  let a3:=a1.t.t.2.1.getD (toNat 0) (zi zj)
  let a4:=a1.t.t.2.1.set (toNat 0) (a3.1,a3.2.1,Q3)
  let a5:=a4.getD (toNat 1) (zi zj)
  SB y y a1 a2 a3 a4 a5):=by
 unfold SA;rw[Zr]
theorem Px(y:zm bl)(hl:y.2.1.2.2.2.1.length=2):∃z:zm aq,yN y=Q1 ((sJ y.2.2.1 y.2.1.2.2.2.1,()),z)/\na y z/\z.t.t.q.1=y.t.t.2.1/\
  (gp z).length<=1000000/\(sJ y.2.2.1 y.2.1.2.2.2.1=0->DY z (DP y.2.2.1 y.2.1.2.2.2.1) y.t.t.1 (kP y.2.2.1 y.2.1.2.2.2.1) y.t.t.q.1):=by
 obtain⟨e,z,h1,hk,he,h2,hlen0⟩:=Fc y ow;have hn:jU y=(e,z):=by unfold jU;rw[h1];rfl
 have hc:nH y=Q3:=by unfold nH;rw[h1];rfl
 have hkk:na y z:=⟨hk.1,hk.2.1,hk.2.2.1,hk.2.2.2.1,hk.t.1,hk.t.2.1,hk.t.q.1,hk.t.q.2.1⟩;have hch:z.t.t.q.1=y.t.t.2.1:=hk.t.t.2.1;have hkey:z.t.t.2.1=y.t.t.1:=hk.t.t.1;have hon:z.t.t.t.1=y.t.t.q.1:=by rw[hk.t.t.q]
 unfold yN kS cT;rw[zc2];simp only[SB,hn];by_cases h0:e=0
 ·have hI:=h2 h0;have hlen:(gp z).length=2:=by rw[hI.2.2.1,cV];exact hl
  have hcols:gp z=gz y.2.2.1 y.2.1.2.2.2.1:=hI.2.2.1;have hix:fa z=kP y.2.2.1 y.2.1.2.2.2.1:=hI.2.1;have hE:sJ y.2.2.1 y.2.1.2.2.2.1=if((gz y.2.2.1 y.2.1.2.2.2.1).getD 1 (zi zj)).2.1=(1:Int)then 0 else 5:=by
   unfold sJ;rw[if_pos (he▸h0)]
  obtain⟨z0,z1,z2,z3,z4,z5,z6,z7,cols,z9⟩:=z;obtain⟨c0,c1,rfl⟩:∃c0 c1,cols=[c0,c1]:=by
   match cols,hlen with
   |[c0,c1],_=>exact⟨c0,c1,rfl⟩
  have hcols:[c0,c1]=gz y.2.2.1 y.2.1.2.2.2.1:=hcols;unfold DP;rw[<-hcols]at hE⊢;simp only[Q8,hc,if_true,h0,io,zB,if_false];have e1:zK 1 (length [c0,c1])=Q3:=rfl;have e0:zK 0 (length [c0,c1])=Q3:=rfl;by_cases hty:c1.2.1=(1:Int)
  ·rw[if_pos (show([c0,c1].getD 1 (zi zj)).2.1=(1:Int)from hty)]at hE;rw[hE];refine⟨(z0,z1,z2,z3,z4,z5,z6,z7,[(c0.1,c0.2.1,Q3),(c1.1,c1.2.1,Q4)],z9),?_,hkk,hch,by show length [(c0.1,c0.2.1,Q3),(c1.1,c1.2.1,Q4)]<=_;simp,λ_=>⟨rfl,hkey,hix,hon⟩⟩;simp[hty,getD,zK];exact cX (outs:=[zg]) (r:=.int .i64 0) (a:=(0,())) (ps:=aq) (z0,z1,z2,z3,z4,z5,z6,z7,[(c0.1,c0.2.1,Q3),(c1.1,1,Q4)],z9) rfl
  ·rw[if_neg (show¬([c0,c1].getD 1 (zi zj)).2.1=(1:Int)from hty)]at hE;rw[hE];refine⟨(z0,z1,z2,z3,z4,z5,z6,z7,[c0,c1],z9),?_,hkk,hch,by show length [c0,c1]<=_;simp,λh=>by cases h⟩;simp[hty,getD];exact cX (outs:=[zg]) (r:=.int .i64 5) (a:=(5,())) (ps:=aq) (z0,z1,z2,z3,z4,z5,z6,z7,[c0,c1],z9) rfl
 ·have hb:(e !=0)=Q3:=by simpa using h0
  have hE:sJ y.2.2.1 y.2.1.2.2.2.1=e:=by
   unfold sJ;rw[if_neg (he▸h0),he]
  simp only[Q8,hc,hb,if_true,hE];exact⟨z,cX (outs:=[zg]) (r:=.int .i64 e) (a:=(e,())) (ps:=aq) z rfl,hkk,hch,hlen0,λh=>absurd h h0⟩
def JnI(y:zm bl)(i:Nat)(z:zm dK):Prop:=na y z/\z.t.t.q.1=y.t.t.2.1/\DY z (y.2.2.1.2.1++gB y.2.2.2.1 i) y.2.2.1.2.2.1 (j8 y.2.2.2.1.2.2.1 i) (zT y.2.2.1 y.2.1.t.2.1)
theorem pm(k:Int)(n:Nat):(GK k n).length<=n:=by
 unfold GK;exact cD (List.length_filter_le _ _) sw
theorem Fh(k:Int)(n:Nat):GK k (n+1)=if((n:Int)!=k)=Q3 then GK k n++[n]else GK k n:=by
 unfold GK;rw[List.range_succ,List.filter_append];split
 ·rename_i h;rw[List.filter_cons_of_pos (by exact h),List.filter_nil]
 ·rename_i h;rw[List.filter_cons_of_neg (by exact h),List.filter_nil,rF]
theorem zm5(y:zm bl)(z:zm dK)(hz:JnI y 0 z)(hf:length y.2.2.1.2.1<=100)(hl:length y.2.2.2.1.2.1<=100)(n:Nat)(hn:1+length y.2.2.2.1.2.1<=n):
  ∃r,cY Kt n (.h11 y.2.2.2.1.2.1 (length y.2.2.2.1.2.1:Int) 0 z)=Q1 r/\∃z':zm dK,r=(.int .i64 0,ay aq z')/\JnI y (length y.2.2.2.1.2.1) z':=by
 refine dl (t:=Kt) (β:=zm dK) (length y.2.2.2.1.2.1) (λz i=>.h11 y.2.2.2.1.2.1 (length y.2.2.2.1.2.1:Int) (i:Int) z) (λz i=>JnI y i z) _ 1 ?_ ?_ (length y.2.2.2.1.2.1) 0 z n rfl (be _) hz hn
 ·intro z i hi hI;obtain⟨hk,hch,hA⟩:=hI;have hoth:=pm y.2.2.2.1.2.2.1 i;have hcl:(gp z).length<=2000:=by
   rw[show gp z=_ from hA.cols,jW,gB,cV];omega
  have hxl:(fa z).length<=2000:=by
   rw[show fa z=_ from hA.ix,j8,cV];omega
  have ek:z.2.2.2.1.2.2.1=y.2.2.2.1.2.2.1:=by rw[hk.2.2.2.1]
  simp only[Kt,HK,Df,Q8,zC hi,zt hi,if_true,zM _ _ hi];rw[zp i um];refine Or.inl ?_;have hsucc:=Fh y.2.2.2.1.2.2.1 i;split
  ·rename_i hc;rw[ek]at hc;rw[if_pos hc]at hsucc;refine⟨(z.1,z.2.1,z.2.2.1,z.2.2.2.1,z.t.1,z.t.2.1,z.t.q.1,z.t.q.2.1,z.t.t.1++[y.2.2.2.1.2.1[i]],z.t.t.2.1,z.t.t.q.1,z.t.t.q.2.1++[(i:Int)],z.t.t.t),⟨hk,hch,⟨?_,hA.key,?_,hA.on⟩⟩,?_⟩
   ·show z.t.t.1++[y.2.2.2.1.2.1[i]]=_;rw[hA.cols,xq,gB,gB,hsucc,iP];simp[zS hi]
   ·show z.t.t.q.2.1++[(i:Int)]=_;rw[hA.ix,j8,j8,hsucc,iP];rfl
   ·rw[if_pos (by have:z.t.t.q.2.1.length<=2000:=hxl;simp;omega),if_pos (by have:z.t.t.1.length<=2000:=hcl;simp;omega)]
  ·rename_i hc;rw[ek]at hc;rw[if_neg hc]at hsucc;refine⟨z,⟨hk,hch,⟨?_,hA.key,?_,hA.on⟩⟩,rfl⟩
   ·rw[hA.cols,gB,gB,hsucc]
   ·rw[hA.ix,j8,j8,hsucc]
 ·intro z n hI hn;obtain⟨n,rfl⟩:∃k,n=k+1:=⟨n-1,ow⟩;rw[cI];simp only[Kt,HK,Df,Q8,zA];exact⟨_,rfl,z,rfl,hI⟩
theorem Td(y:zm bl)(hf:length y.2.2.1.2.1<=100)(hl:length y.2.2.2.1.2.1<=100):∃z:zm aq,BU y=Q1 ((g7 y.2.2.1 y.2.2.2.1 y.2.1.t.2.1 y.t.q.1,()),z)/\na y z/\z.t.t.q.1=y.t.t.2.1/\
  (gp z).length<=1000000/\(g7 y.2.2.1 y.2.2.2.1 y.2.1.t.2.1 y.t.q.1=0->DY z (y.2.2.1.2.1++gB y.2.2.2.1 (length y.2.2.2.1.2.1)) y.2.2.1.2.2.1 (j8 y.2.2.2.1.2.2.1 (length y.2.2.2.1.2.1)) (zT y.2.2.1 y.2.1.t.2.1)):=by
 have hk:∀(a:List (Sem zj))(b:Int)(c:zf)(d:List Int)(e:Int),na y (y.1,y.2.1,y.2.2.1,y.2.2.2.1,y.t.1,y.t.2.1,y.t.q.1,y.t.q.2.1,a,b,c,d,e,()):=λ_ _ _ _ _=>⟨rfl,rfl,rfl,rfl,rfl,rfl,rfl,rfl⟩
 have hw:IntKind.i64.wrap (IntKind.i64.wrap ((↑(length y.2.2.1.2.1):Int)+(↑(length y.2.2.2.1.2.1):Int))-1)=(↑(length y.2.2.1.2.1):Int)+(↑(length y.2.2.2.1.2.1):Int)-1:=by
  rw[lw ((↑(length y.2.2.1.2.1):Int)+(↑(length y.2.2.2.1.2.1):Int)) ow ow,lw _ ow ow]
 have out:∀e:Int,e≠0->(Gv y).val=Q1 (.inr (.int .i64 e,ay aq (y.1,y.2.1,y.2.2.1,y.2.2.2.1,y.t.1,y.t.2.1,y.t.q.1,y.t.q.2.1,[],y.t.t.1,y.t.t.2.1,[],zT y.2.2.1 y.2.1.t.2.1,())))->g7 y.2.2.1 y.2.2.2.1 y.2.1.t.2.1 y.t.q.1=e->∃z:zm aq,BU y=Q1 ((g7 y.2.2.1 y.2.2.2.1 y.2.1.t.2.1 y.t.q.1,()),z)/\na y z/\z.t.t.q.1=y.t.t.2.1/\
  (gp z).length<=1000000/\(g7 y.2.2.1 y.2.2.2.1 y.2.1.t.2.1 y.t.q.1=0->DY z (y.2.2.1.2.1++gB y.2.2.2.1 (length y.2.2.2.1.2.1)) y.2.2.1.2.2.1 (j8 y.2.2.2.1.2.2.1 (length y.2.2.2.1.2.1)) (zT y.2.2.1 y.2.1.t.2.1)):=by
  intro e he hv hE;rw[hE];refine⟨_,TR hv (cX (outs:=[zg]) (r:=.int .i64 e) (a:=(e,())) (ps:=aq) _ rfl),hk _ _ _ _ _,rfl,by show([]:List (Sem zj)).length<=_;simp,λh=>absurd h he⟩
 by_cases c1:LT.lt (α:=Int) (zT y.2.2.1 y.2.1.t.2.1) 0
 ·refine out 4 (by decide) ?_ (by unfold g7;rw[if_pos c1]);simp only[Gv,Jg,Q8,zk,zx c1,if_true]
 by_cases c2:jR y.2.2.1.t.1 (zT y.2.2.1 y.2.1.t.2.1,y.t.q.1)=Q3
 ·by_cases c3:LT.lt (α:=Int) 9 ((length y.2.2.1.2.1:Int)+(length y.2.2.2.1.2.1:Int))
  ·refine out 13 (by decide) ?_ (by unfold g7;rw[if_neg c1,if_pos c2,if_pos c3]);simp only[Gv,Jg,Q8,zk,aj c1,c2,hw];rw[if_neg sw,if_neg sw,if_pos sg]
  ·have hE:g7 y.2.2.1 y.2.2.2.1 y.2.1.t.2.1 y.t.q.1=0:=by unfold g7;rw[if_neg c1,if_pos c2,if_neg c3]
   have hv:(Gv y).val=Q1 (.inl (.h11 y.2.2.2.1.2.1 (length y.2.2.2.1.2.1:Int) 0 (y.1,y.2.1,y.2.2.1,y.2.2.2.1,y.t.1,y.t.2.1,y.t.q.1,y.t.q.2.1,y.2.2.1.2.1,y.2.2.1.2.2.1,y.t.t.2.1,[],zT y.2.2.1 y.2.1.t.2.1,()))):=by
    simp only[Gv,Jg,Q8,zk,aj c1,c2,hw];rw[if_neg sw,if_neg sw,if_neg sg,if_pos sg]
   obtain⟨r,h1,z',rfl,hJ⟩:=zm5 y (y.1,y.2.1,y.2.2.1,y.2.2.2.1,y.t.1,y.t.2.1,y.t.q.1,y.t.q.2.1,y.2.2.1.2.1,y.2.2.1.2.2.1,y.t.t.2.1,[],zT y.2.2.1 y.2.1.t.2.1,()) ⟨hk _ _ _ _ _,rfl,⟨by simp[gB,GK],rfl,rfl,rfl⟩⟩ hf hl 100000000 ow;rw[hE];refine⟨z',?_,hJ.1,hJ.2.1,?_,λ_=>hJ.2.2⟩
   ·unfold BU kS cT;rw[hv];show(cY Kt 100000000 _).bind _=_;rw[h1];exact cX (outs:=[zg]) (r:=.int .i64 0) (a:=(0,())) (ps:=aq) z' rfl
   ·have hoth:=pm y.2.2.2.1.2.2.1 (length y.2.2.2.1.2.1);rw[show gp z'=_ from hJ.2.2.cols,jW,gB,cV];omega
 ·refine out 10 (by decide) ?_ (by unfold g7;rw[if_neg c1,if_neg c2]);simp only[Gv,Jg,Q8,zk,aj c1];rw[if_neg sw,if_pos (by simpa using c2)]
def FS(l rows:List (Sem (.sl ze))):Prop:=rows.length<=201/\∀r∈rows,∃r0∈l,r=iR r0
theorem zl2(n:Nat)(i4:Int)(hi4:i4<=201)(h0:0<=i4)(z0:zm cpR)(z1:zm zcr)(t:Sem zo)(hn:300<=n):∃rows:List (Sem (.sl ze)),FS z0.1.2 rows/\∃r,cY P1 n (.h6 i4 0 z0 z1 (t,[],()))=Q1 r/\aL r.2 [zh] r.1=Q1 (((t,rows):Sem zh),()):=by
 obtain⟨N,hN⟩:∃N:Nat,i4=(N:Int):=⟨toNat i4,ow⟩;have h:=dl (t:=P1) (β:=List (Sem (.sl ze))) (min N (length z0.1.2)) (λb i=>.h6 i4 (i:Int) z0 z1 (t,b,())) (λb i=>b.length=i/\∀r∈b,∃r0∈z0.1.2,r=iR r0) (λr=>∃rows:List (Sem (.sl ze)),FS z0.1.2 rows/\aL r.2 [zh] r.1=Q1 (((t,rows):Sem zh),())) 1 (by
   intro b i hi hb;have h1:(i:Int)<(length z0.1.2:Int):=by omega
   have h2:(i:Int)<i4:=by omega
   have h3:zK (i:Int) (length z0.1.2)=Q3:=zt ow;refine Or.inl ⟨b++[iR (getD z0.1.2 (i:Int).toNat (zi ze.sl))],⟨by simp[hb.1],λr hr=>?_⟩,?_⟩
   ·rcases cR.1 hr with hr|hr
    ·exact hb.2 r hr
    ·rw[gw]at hr;refine⟨_,?_,hr⟩;rw[aG,bc,zS ow,dw];exact bd _
   simp only[P1,Q8,zx h1,zx h2,ae,if_true,h3];rw[zp i um,if_pos sg]) (by
   intro b n hb hn;obtain⟨n,rfl⟩:∃k,n=k+1:=⟨n-1,ow⟩;rw[cI];have hf:(bif Q0 (((min N (length z0.1.2):Nat):Int)<(length z0.1.2:Int))then Q0 (((min N (length z0.1.2):Nat):Int)<i4)else Q4)=Q4:=by
    by_cases h:N<=length z0.1.2
    ·rw[Ed h,hN];simp
    ·rw[Eb ow];simp
   simp only[P1,Q8,hf];refine⟨_,rfl,b,⟨by have:=hb.1;omega,hb.2⟩,?_⟩;obtain⟨t0,t1,t2,t3,t4,t5⟩:=t;cases t5;rfl) (min N (length z0.1.2)) 0 [] n rfl (be _) ⟨rfl,sw⟩ ow
 obtain⟨r,h1,rows,h2,h3⟩:=h;exact⟨rows,h2,r,h1,h3⟩
theorem Jp(x:Sem zh):∃rows:List (Sem (.sl ze)),FS x.2 rows/\BP x=Q1 (((Dl x.1,rows):Sem zh),()):=by
 have e:Dl (x.1.1,x.1.2.1,x.1.2.2.1,x.1.2.2.2.1,x.1.t.1,zn x.1.t.2)=Dl x.1:=by rw[zk]
 have hv:∃k:Int,0<=k/\k<=201/\(zcY x).val=Q1 (.inl (.h6 k 0 (x,()) ([],0,[],0,0,[],[],()) (Dl x.1,[],()))):=by
  simp only[zcY,Q8,e];split
  ·exact⟨201,ow,ow,rfl⟩
  ·exact⟨40,ow,ow,rfl⟩
 obtain⟨k,k1,k2,hv⟩:=hv;obtain⟨rows,h1,r,h2,h3⟩:=zl2 100000000 k k2 k1 (x,()) ([],0,[],0,0,[],[],()) (Dl x.1) ow;refine⟨rows,h1,?_⟩;unfold BP al cT;rw[hv];show(cY P1 100000000 _).bind _=_;rw[h2];exact h3
theorem Jo(x:Sem zh):LD x=Q3:=by
 obtain⟨rows,h1,h2⟩:=Jp x;unfold LD;rw[h2];rfl
theorem S6(db:List (Sem zh)):∃db':List (Sem zh),BQ db=Q1 (db',())/\db'.length<=13/\∀x∈db',∃y∈db,x=xQ y:=by
 have h:=dl (t:=t7p) (β:=List (Sem zh)) (min 13 db.length) (λb i=>.h3 db (i:Int) b) (λb i=>b.length=i/\∀x∈b,∃y∈db,x=xQ y) (λr=>∃db':List (Sem zh),aL r.2 [zh.sl] r.1=Q1 (db',())/\db'.length<=13/\∀x∈db',∃y∈db,x=xQ y) 1 (by
   intro b i hi hb;have h1:(i:Int)<(db.length:Int):=by omega
   have h2:(i:Int)<13:=by omega
   have h3:zK (i:Int) db.length=Q3:=zt ow;refine Or.inl ⟨b++[xQ (db.getD (i:Int).toNat (zi zh))],⟨by simp[hb.1],?_⟩,?_⟩
   ·intro x hx;rcases cR.1 hx with hx|hx
    ·exact hb.2 x hx
    ·rw[gw]at hx;refine⟨_,?_,hx⟩;rw[aG,bc,zS ow,dw];exact bd _
   ·simp only[t7p,Q8,zx h1,zx h2,ae,if_true,h3,zk,Prod.eta,Jo];rw[zp i um,if_pos sg]) (by
   intro b n hb hn;obtain⟨n,rfl⟩:∃k,n=k+1:=⟨n-1,ow⟩;rw[cI];have hf:(bif Q0 (((min 13 db.length:Nat):Int)<(db.length:Int))then Q0 (((min 13 db.length:Nat):Int)<13)else Q4)=Q4:=by
    by_cases h:13<=db.length
    ·rw[Ed h];simp
    ·rw[Eb ow];simp
   simp only[t7p,Q8,hf];exact⟨_,rfl,b,rfl,ow,hb.2⟩) (min 13 db.length) 0 [] 100000000 rfl (be _) ⟨rfl,sw⟩ ow
 obtain⟨r,h1,db',h2,h3,h4⟩:=h;refine⟨db',?_,h3,h4⟩;unfold BQ al cT;simp only[i7p,Q8];have h1':cY t7p 100000000 (.h3 db 0 [])=Q1 r:=h1;rw[h1'];exact h2
theorem j6(s:zD):fm s=Q3:=by
 unfold fm;split
 ·rename_i h;have:20<s.length:=by simp at h;omega
  rw[if_pos sg]
 ·rfl
theorem eI(s:zD):(cZ s).length<=20:=by
 unfold cZ;split
 ·simp;omega
 ·rename_i h;have:¬20<s.length:=by simp at h;omega
  omega
theorem ov:∀(l:List zD)(i:Int)(acc:List zD),(acc.length:Int)<=i->fF l i acc=Q3
 |[],_,_,_=>rfl
 | x::r,i,acc,h=>by
  rw[fF];split
  ·rename_i hi;simp only[aP]at hi;rw[if_pos (j6 x),if_pos sg];exact ov r (i+1) _ sg
  ·rfl
theorem DQ(l:List zD):pk l=Q3:=ov l 0 [] sw
theorem rO:∀(l:List zD)(i:Int)(acc:List zD),(acc.length:Int)<=i->acc.length<=10->(∀x∈acc,length x<=20)->length (eA l i acc)<=10/\∀x∈eA l i acc,length x<=20
 |[],_,acc,_,h,ha=>⟨h,ha⟩
 | x::r,i,acc,h,hl,ha=>by
  rw[eA];split
  ·rename_i hi;simp only[aP]at hi;refine rO r (i+1) _ sg sg (λy hy=>?_);rcases cR.1 hy with hy|hy
   ·exact ha y hy
   ·rw[gw]at hy;rw[hy];exact eI x
  ·exact⟨hl,ha⟩
theorem xP(l:List zD):length (j5 l)<=10/\∀x∈j5 l,length x<=20:=rO l 0 [] sw sw sw
theorem XH(s:zD):(ji s).length<=20:=by
 unfold ji;split
 ·simp;omega
 ·rename_i h;simp at h;omega
theorem Pr(l:List (Sem zj)):length (jD l)<=10/\∀x∈jD l,length x.1<=20:=by
 refine⟨by show((List.take 9 l).map _).length<=10;rw[cV,ol];omega,λc hc=>?_⟩;obtain⟨x,_,rfl⟩:=bq.1 hc;exact XH x.1
theorem E7(l:List (Sem ze)):length (iR l)<=14:=by
 show((List.take 14 l).map _).length<=14;rw[cV,ol];omega
theorem F6(e:zf):rt 16 (gP e)=Q3:=by
 obtain⟨r,m,h1,h2⟩:=Gr (P:=λN _ r=>rt N r=Q3) (λN e o t s l hl h3 _ _=>by
  show(Q0 (l.length<=1073741824)&&l.all (rt N))=Q3;rw[dX.2 λy hy=>by obtain⟨_,_,h⟩:=hl y hy;exact h];simp;omega) 16 e 14 80 ow ow ow
 unfold gP;rw[zf.eta,show ru 16 e 14 80=(r,m) by unfold ru;rw[h1];rfl];exact h2
structure KJ (s:Sem zl):Prop where
 sh:l5 s
 cp:rt 16 s.t.t.1=Q3
def F3I(z0:zm oJ)(i:Nat)(z:zm Rh):Prop:=z.1.length<=20/\z.2.1.length<=20/\z.2.2.1.length<=20/\(length z.2.2.2.1<=10/\∀x∈z.2.2.2.1,length x<=20)/\(length z.t.1<=10/\∀x∈z.t.1,length x.1<=20)/\z.t.2.1.length<=20/\
 (length z.t.q.1<=10/\∀x∈z.t.q.1,length x<=20)/\(length z.t.q.2.1=i/\∀x∈z.t.q.2.1,length x.1<=20/\length x.2<=20)/\rt 16 z.t.t.1=Q3/\length z.t.t.2.1<=14/\z.t.t.q.2.1.length<=20/\
 z.t.t.1=gP z0.1.t.t.1/\z.t.t.2.1=iR z0.1.t.t.2.1/\z.t.t.q.1=gP z0.1.t.t.q.2.1
def F7I(z0:zm oJ)(i:Nat)(z:zm Ri):Prop:=z.1.length<=20/\z.2.1.length<=20/\z.2.2.1.length<=20/\(length z.2.2.2.1<=10/\∀x∈z.2.2.2.1,length x<=20)/\(length z.t.1<=10/\∀x∈z.t.1,length x.1<=20)/\z.t.2.1.length<=20/\
 (length z.t.q.1<=10/\∀x∈z.t.q.1,length x<=20)/\(length z.t.q.2.1<=10/\∀x∈z.t.q.2.1,length x.1<=20/\length x.2<=20)/\rt 16 z.t.t.1=Q3/\length z.t.t.2.1<=14/\
 (length z.t.t.q.1=i/\∀x∈z.t.t.q.1,length x.1<=20/\∃y∈z0.1.t.t.q.1,x.2=gP y.2)/\z.t.t.t.1.length<=20/\
 z.t.t.1=gP z0.1.t.t.1/\z.t.t.2.1=iR z0.1.t.t.2.1/\z.t.t.q.2.1=gP z0.1.t.t.q.2.1
structure YV (s0 s:Sem zl):Prop where
 chk:s.t.t.1=gP s0.t.t.1
 row:s.t.t.2.1=iR s0.t.t.2.1
 whr:s.t.t.q.2.1=gP s0.t.t.q.2.1
 sets:∀x∈s.t.t.q.1,∃y∈s0.t.t.q.1,(x:Sem ic).2=gP (y:Sem ic).2
def V6(s0:Sem zl)(r:aw):Prop:=∃s:Sem zl,aL r.2 [zl] r.1=Q1 (s,())/\KJ s/\YV s0 s
theorem fs7(z0:zm oJ)(z1:zm iW)(z:zm Ri)(hz:F7I z0 0 z)(n:Nat)(hn:20<=n):∃r,cY XP n (.h7 0 z0 z1 z)=Q1 r/\V6 z0.1 r:=by
 refine dl (t:=XP) (β:=zm Ri) (min 10 (length z0.1.t.t.q.1)) (λz i=>.h7 (i:Int) z0 z1 z) (λz i=>F7I z0 i z) (V6 z0.1) 1 ?_ ?_ (min 10 (length z0.1.t.t.q.1)) 0 z n rfl (be _) hz ow
 ·intro z i hi hb;obtain⟨h0,h1,h2,h3,h4,h5,h6,h7,h8,h9,h10,h11,h12⟩:=hb;have k1:(i:Int)<(length z0.1.t.t.q.1:Int):=by omega
  have k2:(i:Int)<10:=by omega
  have k3:zK (i:Int) (length z0.1.t.t.q.1)=Q3:=zt ow;refine Or.inl ⟨(z.1,z.2.1,z.2.2.1,z.2.2.2.1,z.t.1,z.t.2.1,z.t.q.1,z.t.q.2.1,z.t.t.1,z.t.t.2.1,z.t.t.q.1++[(cZ (getD z0.1.t.t.q.1 (i:Int).toNat (zi ic)).1,zn (gP (zn (getD z0.1.t.t.q.1 (i:Int).toNat (zi ic)).2)))],z.t.t.q.2),⟨h0,h1,h2,h3,h4,h5,h6,h7,h8,h9,?_,h11,h12⟩,?_⟩;rotate_left 1
  ·simp only[XP,Q8,zx k1,zx k2,ae,if_true,k3,j6];rw[zp i um,if_pos (by have:=h10.1;simp;omega)]
  ·refine⟨?_,λx hx=>?_⟩
   ·simp[h10.1]
   ·rcases cR.1 hx with hx|hx
    ·exact h10.2 x hx
    ·rw[gw]at hx;rw[hx];exact⟨eI _,_,tS _ (zi ic) (by simpa using(show i<_ by omega)),by simp only[zk,aG]⟩
 ·intro z n hb hn;obtain⟨n,rfl⟩:∃k,n=k+1:=⟨n-1,ow⟩;obtain⟨h0,h1,h2,h3,h4,h5,h6,h7,h8,h9,h10,h11,h12⟩:=hb;rw[cI];have hf:(bif Q0 (((min 10 (length z0.1.t.t.q.1):Nat):Int)<(length z0.1.t.t.q.1:Int))then Q0 (((min 10 (length z0.1.t.t.q.1):Nat):Int)<10)else Q4)=Q4:=by
   by_cases h:10<=length z0.1.t.t.q.1
   ·rw[Ed h];simp
   ·rw[Eb ow];simp
  simp only[XP,Q8,hf];refine⟨_,rfl,(z.1,z.2.1,z.2.2.1,z.2.2.2.1,z.t.1,z.t.2.1,z.t.q.1,z.t.q.2.1,z.t.t.1,z.t.t.2.1,z.t.t.q.1,z.t.t.q.2.1,z.t.t.t.1),?_,⟨?_,h8⟩,⟨h12.1,h12.2.1,h12.2.2,λx hx=>(h10.2 x hx).2⟩⟩
  ·obtain⟨z0,z1,z2,z3,z4,z5,z6,z7,z8,z9,z10,z11,z12,z13⟩:=z;cases z8;cases z11;rfl
  ·refine⟨by show z.1.length<=_;omega,by show z.2.1.length<=_;omega,by show z.2.2.1.length<=_;omega,⟨by have:=h3.1;show length z.2.2.2.1<=_;omega,λx hx=>by have:=h3.2 x hx;omega⟩,⟨by have:=h4.1;show length z.t.1<=_;omega,λx hx=>by have:=h4.2 x hx;omega⟩,by show z.t.2.1.length<=_;omega,⟨by have:=h6.1;show length z.t.q.1<=_;omega,λx hx=>by have:=h6.2 x hx;omega⟩,⟨by have:=h7.1;show length z.t.q.2.1<=_;omega,λx hx=>by have:=h7.2 x hx;omega⟩,by show length z.t.t.2.1<=_;omega,⟨by have:=h10.1;show length z.t.t.q.1<=_;omega,λx hx=>by have:=(h10.2 x hx).1;omega⟩,by show z.t.t.t.1.length<=_;omega⟩
theorem fs3(z0:zm oJ)(z1:zm iW)(z:zm Rh)(hz:F3I z0 0 z)(n:Nat)(hn:40<=n):∃r,cY XP n (.h3 0 z0 z1 z)=Q1 r/\V6 z0.1 r:=by
 refine dl (t:=XP) (β:=zm Rh) (min 10 (length z0.1.t.q.2.1)) (λz i=>.h3 (i:Int) z0 z1 z) (λz i=>F3I z0 i z) (V6 z0.1) 21 ?_ ?_ (min 10 (length z0.1.t.q.2.1)) 0 z n rfl (be _) hz ow
 ·intro z i hi hb;obtain⟨h0,h1,h2,h3,h4,h5,h6,h7,h8⟩:=hb;have k1:(i:Int)<(length z0.1.t.q.2.1:Int):=by omega
  have k2:(i:Int)<10:=by omega
  have k3:zK (i:Int) (length z0.1.t.q.2.1)=Q3:=zt ow;refine Or.inl ⟨(z.1,z.2.1,z.2.2.1,z.2.2.2.1,z.t.1,z.t.2.1,z.t.q.1,z.t.q.2.1++[(cZ (getD z0.1.t.q.2.1 (i:Int).toNat (zi iS)).1,cZ (getD z0.1.t.q.2.1 (i:Int).toNat (zi iS)).2)],z.t.t),⟨h0,h1,h2,h3,h4,h5,h6,?_,h8⟩,?_⟩;rotate_left 1
  ·simp only[XP,Q8,zx k1,zx k2,ae,if_true,k3,j6];rw[zp i um,if_pos (by have:=h7.1;simp;omega)]
  ·refine⟨?_,λx hx=>?_⟩
   ·simp[h7.1]
   ·rcases cR.1 hx with hx|hx
    ·exact h7.2 x hx
    ·rw[gw]at hx;rw[hx];exact⟨eI _,eI _⟩
 ·intro z n hb hn;obtain⟨n,rfl⟩:∃k,n=k+1:=⟨n-1,ow⟩;obtain⟨h0,h1,h2,h3,h4,h5,h6,h7,h8,h9,h10,h11⟩:=hb;rw[cI];have hf:(bif Q0 (((min 10 (length z0.1.t.q.2.1):Nat):Int)<(length z0.1.t.q.2.1:Int))then Q0 (((min 10 (length z0.1.t.q.2.1):Nat):Int)<10)else Q4)=Q4:=by
   by_cases h:10<=length z0.1.t.q.2.1
   ·rw[Ed h];simp
   ·rw[Eb ow];simp
  simp only[XP,Q8,hf];exact fs7 z0 z1 _ ⟨h0,h1,h2,h3,h4,h5,h6,⟨by have:=h7.1;show length z.t.q.2.1<=_;omega,h7.2⟩,h8,h9,⟨rfl,sw⟩,h10,h11⟩ n ow
theorem LB(s:Sem zl):∃s':Sem zl,wy s=Q1 (s',())/\KJ s'/\YV s s':=by
 unfold wy al cT;simp only[i8p,Q8,j6,DQ,if_true]
 obtain⟨r,h1,s',h2,h3⟩:=fs3 (s,()) ([],[],[],[],[],0,0,[],[],[],0,0,[],[],[],()) (cZ s.1,cZ s.2.1,cZ s.2.2.1,j5 s.2.2.2.1,jD s.t.1,
  cZ s.t.2.1,j5 s.t.q.1,[],gP (zn s.t.t.1),iR s.t.t.2.1,gP (zn s.t.t.q.2.1),cZ s.t.t.t,())
  ⟨eI _,eI _,eI _,xP _,Pr _,eI _,xP _,⟨rfl,sw⟩,F6 _,E7 _,eI _,by simp only[zk],rfl,by simp only[zk]⟩ 100000000 ow
 refine⟨s',?_,h3⟩;rw[h1];exact h2
abbrev aB(db:List (Sem zh))(s:zD):Sem zh:=getD db (toNat (zX db s)) (zi zh)
def DZ(db:List (Sem zh)):Prop:=∀x∈db,∀f∈x.1.t.1,LE.le (α:=Int) 0 (zX db f.2)/\∀row∈x.2,(zR f.1 row).1≠0->gT (aB db f.2) (aB db f.2).1.2.2.1 (zR f.1 row)=Q3
def U6(r:aw):Prop:=r=(.kb Q4,[])
theorem Wn{db:List (Sem zh)}{x:Sem zh}{f:Sem zu}{i k:Nat}(hf:LE.le (α:=Int) 0 (zX db f.2))(hc:∀row∈x.2,zK f.1 (length row)=Q3)(hl:x.2.length<=1000):
  ((∀j,j<x.2.length->(zR f.1 (getD x.2 j (zi ze.sl))).1≠0->gT (aB db f.2) (aB db f.2).1.2.2.1 (zR f.1 (getD x.2 j (zi ze.sl)))=Q3)/\
   zQ gE (x.2.length*1) (.h11 db (zX db f.2) db (db.length:Int) (i:Int) x.1.t.1 (x.1.t.1.length:Int) (k:Int) x.2 (x.2.length:Int) ((0:Nat):Int) (x,()) (f,()))
    (.h11 db (zX db f.2) db (db.length:Int) (i:Int) x.1.t.1 (x.1.t.1.length:Int) (k:Int) x.2 (x.2.length:Int) (x.2.length:Int) (x,()) (f,())))\/
  ((¬∀j,j<x.2.length->(zR f.1 (getD x.2 j (zi ze.sl))).1≠0->gT (aB db f.2) (aB db f.2).1.2.2.1 (zR f.1 (getD x.2 j (zi ze.sl)))=Q3)/\
   ∃r,zU gE (x.2.length*1) (.h11 db (zX db f.2) db (db.length:Int) (i:Int) x.1.t.1 (x.1.t.1.length:Int) (k:Int) x.2 (x.2.length:Int) ((0:Nat):Int) (x,()) (f,())) r/\U6 r):=by
 refine ly (t:=gE) (Φ:=U6) 1 (λj=>.h11 db (zX db f.2) db (db.length:Int) (i:Int) x.1.t.1 (x.1.t.1.length:Int) (k:Int) x.2 (x.2.length:Int) (j:Int) (x,()) (f,())) (λj=>(zR f.1 (getD x.2 j (zi ze.sl))).1≠0->gT (aB db f.2) (aB db f.2).1.2.2.1 (zR f.1 (getD x.2 j (zi ze.sl)))=Q3) x.2.length ?_;intro j hj _
 have hv:(gE (.h11 db (zX db f.2) db (db.length:Int) (i:Int) x.1.t.1 (x.1.t.1.length:Int) (k:Int) x.2 (x.2.length:Int) (j:Int) (x,()) (f,()))).val=
   if(bif (zR f.1 (getD x.2 j (zi ze.sl))).1!=0 then !gT (aB db f.2) (aB db f.2).1.2.2.1 (zR f.1 (getD x.2 j (zi ze.sl)))else Q4)=Q3 then Q1 (.inr (.kb Q4,[]))else
   Q1 (.inl (.h11 db (zX db f.2) db (db.length:Int) (i:Int) x.1.t.1 (x.1.t.1.length:Int) (k:Int) x.2 (x.2.length:Int) ((j+1:Nat):Int) (x,()) (f,()))):=by
  show(gE (.h11 _ _ _ _ _ _ _ _ _ _ _ _ _)).val=_;unfold gE;simp only[zk,Q8,zC hj,zt hj,hc _ (bL hj),dA hf,aG,if_true,lD];rw[if_pos (by cases((getD (getD x.2 j (zi ze.sl)) (toNat f.1) (zi ze)).1!=0)<;>rfl)];rw[zp j um]
 by_cases h1:(zR f.1 (getD x.2 j (zi ze.sl))).1=0
 ·exact .inl ⟨λh=>absurd h1 h,zQ.of (by rw[hv,if_neg (by rw[h1];simp)])⟩
 ·have h1':((zR f.1 (getD x.2 j (zi ze.sl))).1!=0)=Q3:=by simpa using h1
  by_cases h2:gT (aB db f.2) (aB db f.2).1.2.2.1 (zR f.1 (getD x.2 j (zi ze.sl)))=Q3
  ·exact .inl ⟨λ_=>h2,zQ.of (by rw[hv,if_neg (by rw[h2,h1'];simp)])⟩
  ·exact .inr ⟨λh=>h2 (h h1),_,zU.of (by rw[hv,if_pos (by rw[h1'];simpa using h2)]),rfl⟩
theorem zci{db:List (Sem zh)}{x:Sem zh}{i:Nat}(hc:∀f∈x.1.t.1,∀row∈x.2,zK f.1 (length row)=Q3)(hl:x.2.length<=1000)(hr:x.1.t.1.length<=1000):
  let P:Nat->Prop:=λk=>LE.le (α:=Int) 0 (zX db (getD x.1.t.1 k (zi zu)).2)/\∀row∈x.2,(zR (getD x.1.t.1 k (zi zu)).1 row).1≠0->gT (aB db (getD x.1.t.1 k (zi zu)).2) (aB db (getD x.1.t.1 k (zi zu)).2).1.2.2.1 (zR (getD x.1.t.1 k (zi zu)).1 row)=Q3
  ((∀k,k<x.1.t.1.length->P k)/\zQ gE (x.1.t.1.length*1002) (.h5 db db (db.length:Int) (i:Int) x.1.t.1 (x.1.t.1.length:Int) ((0:Nat):Int) (x,())) (.h5 db db (db.length:Int) (i:Int) x.1.t.1 (x.1.t.1.length:Int) (x.1.t.1.length:Int) (x,())))\/
  ((¬∀k,k<x.1.t.1.length->P k)/\∃r,zU gE (x.1.t.1.length*1002) (.h5 db db (db.length:Int) (i:Int) x.1.t.1 (x.1.t.1.length:Int) ((0:Nat):Int) (x,())) r/\U6 r):=by
 intro P;refine ly (t:=gE) (Φ:=U6) 1002 (λk=>.h5 db db (db.length:Int) (i:Int) x.1.t.1 (x.1.t.1.length:Int) (k:Int) (x,())) P x.1.t.1.length ?_;intro k hk _
 have hv:(gE (.h5 db db (db.length:Int) (i:Int) x.1.t.1 (x.1.t.1.length:Int) (k:Int) (x,()))).val=
   if Q0 (LT.lt (α:=Int) (zX db (getD x.1.t.1 k (zi zu)).2) 0)=Q3 then Q1 (.inr (.kb Q4,[]))else
   Q1 (.inl (.h11 db (zX db (getD x.1.t.1 k (zi zu)).2) db (db.length:Int) (i:Int) x.1.t.1 (x.1.t.1.length:Int) (k:Int) x.2 (x.2.length:Int) ((0:Nat):Int) (x,()) (getD x.1.t.1 k (zi zu),()))):=by
  show(gE (.h5 _ _ _ _ _ _ _ _)).val=_;unfold gE;simp only[Q8,zC hk,zt hk,aG,if_true];rfl
 by_cases h1:LE.le (α:=Int) 0 (zX db (getD x.1.t.1 k (zi zu)).2)
 ·have g1:=zQ.of (t:=gE) (s:=.h5 db db (db.length:Int) (i:Int) x.1.t.1 (x.1.t.1.length:Int) (k:Int) (x,())) (by rw[hv,if_neg (by rw[aP];omega)]);rcases Wn (db:=db) (x:=x) (f:=getD x.1.t.1 k (zi zu)) (i:=i) (k:=k) h1 (hc _ (bL hk)) hl with⟨h2,h3⟩|⟨h2,r,h3,h4⟩
  ·have hv2:(gE (.h11 db (zX db (getD x.1.t.1 k (zi zu)).2) db (db.length:Int) (i:Int) x.1.t.1 (x.1.t.1.length:Int) (k:Int) x.2 (x.2.length:Int) (x.2.length:Int) (x,()) (getD x.1.t.1 k (zi zu),()))).val=
     Q1 (.inl (.h5 db db (db.length:Int) (i:Int) x.1.t.1 (x.1.t.1.length:Int) ((k+1:Nat):Int) (x,()))):=by
    show(gE (.h11 _ _ _ _ _ _ _ _ _ _ _ _ _)).val=_;unfold gE;simp only[Q8,zA];rw[zp k um];rfl
   refine .inl ⟨⟨h1,?_⟩,((g1.trans h3).trans (zQ.of hv2)).mono ow⟩;exact(au (Q:=λrow=>(zR (getD x.1.t.1 k (zi zu)).1 row).1≠0->gT (aB db (getD x.1.t.1 k (zi zu)).2) (aB db (getD x.1.t.1 k (zi zu)).2).1.2.2.1 (zR (getD x.1.t.1 k (zi zu)).1 row)=Q3)).1 h2
  ·refine .inr ⟨λh=>h2 ?_,r,(g1.ends h3).mono ow,h4⟩;exact(au (Q:=λrow=>(zR (getD x.1.t.1 k (zi zu)).1 row).1≠0->gT (aB db (getD x.1.t.1 k (zi zu)).2) (aB db (getD x.1.t.1 k (zi zu)).2).1.2.2.1 (zR (getD x.1.t.1 k (zi zu)).1 row)=Q3)).2 h.2
 ·exact .inr ⟨λh=>h1 h.1,_,(zU.of (by rw[hv,if_pos (by rw[aP];omega)])).mono ow,rfl⟩
theorem Iu{db:List (Sem zh)}(hc:∀x∈db,∀f∈x.1.t.1,∀row∈x.2,zK f.1 (length row)=Q3)(hs:∀x∈db,gN x)(hl:db.length<=13):∃b,yB db=Q1 (b,())/\(b=Q3↔DZ db):=by
 have h2:=ly (t:=gE) (Φ:=U6) 1010000 (λi=>.h2 db db (db.length:Int) (i:Int)) (λi=>∀f∈(getD db i (zi zh)).1.t.1,LE.le (α:=Int) 0 (zX db f.2)/\∀row∈(getD db i (zi zh)).2,(zR f.1 row).1≠0->gT (aB db f.2) (aB db f.2).1.2.2.1 (zR f.1 row)=Q3) db.length (by
  intro i hi _;have hm:=bL (d:=zi zh) hi;have hS:=hs _ hm;have s1:=hS.rf;have s2:=hS.rw;have hv:(gE (.h2 db db (db.length:Int) (i:Int))).val=Q1 (.inl (.h5 db db (db.length:Int) (i:Int) (getD db i (zi zh)).1.t.1 ((getD db i (zi zh)).1.t.1.length:Int) ((0:Nat):Int) (getD db i (zi zh),()))):=by
   show(gE (.h2 _ _ _ _)).val=_;unfold gE;simp only[Q8,zC hi,zt hi,aG,if_true];rfl
  have g1:=zQ.of hv;rcases zci (db:=db) (x:=getD db i (zi zh)) (i:=i) (hc _ hm) s2 s1 with⟨h2,h3⟩|⟨h2,r,h3,h4⟩
  ·have hv2:(gE (.h5 db db (db.length:Int) (i:Int) (getD db i (zi zh)).1.t.1 ((getD db i (zi zh)).1.t.1.length:Int) ((getD db i (zi zh)).1.t.1.length:Int) (getD db i (zi zh),()))).val=Q1 (.inl (.h2 db db (db.length:Int) ((i+1:Nat):Int))):=by
    show(gE (.h5 _ _ _ _ _ _ _ _)).val=_;unfold gE;simp only[Q8,zA];rw[zp i um];rfl
   refine .inl ⟨?_,((g1.trans h3).trans (zQ.of hv2)).mono ow⟩;exact(au (Q:=λf:Sem zu=>LE.le (α:=Int) 0 (zX db f.2)/\∀row∈(getD db i (zi zh)).2,(zR f.1 row).1≠0->gT (aB db f.2) (aB db f.2).1.2.2.1 (zR f.1 row)=Q3)).1 h2
  ·refine .inr ⟨λh=>h2 ?_,r,(g1.ends h3).mono ow,h4⟩;exact(au (Q:=λf:Sem zu=>LE.le (α:=Int) 0 (zX db f.2)/\∀row∈(getD db i (zi zh)).2,(zR f.1 row).1≠0->gT (aB db f.2) (aB db f.2).1.2.2.1 (zR f.1 row)=Q3)).2 h)
 have hb:(∀i,i<db.length->∀f∈(getD db i (zi zh)).1.t.1,LE.le (α:=Int) 0 (zX db f.2)/\∀row∈(getD db i (zi zh)).2,(zR f.1 row).1≠0->gT (aB db f.2) (aB db f.2).1.2.2.1 (zR f.1 row)=Q3)↔DZ db:=
  au (Q:=λx:Sem zh=>∀f∈x.1.t.1,LE.le (α:=Int) 0 (zX db f.2)/\∀row∈x.2,(zR f.1 row).1≠0->gT (aB db f.2) (aB db f.2).1.2.2.1 (zR f.1 row)=Q3)
 have hi:(ziw db).val=Q1 (.inl (.h2 db db (db.length:Int) ((0:Nat):Int))):=rfl;rcases h2 with⟨h2,h3⟩|⟨h2,r,h3,h4⟩
 ·refine⟨Q3,zw hi (h3.ends (zU.of (r:=(.kb Q3,[])) ?_)) ow rfl,λ_=>hb.1 h2,λ_=>rfl⟩;show(gE (.h2 _ _ _ _)).val=_;unfold gE;simp only[Q8,zA];rfl
 ·unfold U6 at h4;subst h4;exact⟨Q4,zw hi h3 ow rfl,λh=>(by cases h),λh=>absurd (hb.2 h) h2⟩
structure iU (db:List (Sem zh)):Prop where
 few:db.length<=12
 names:∀i,i<db.length-1->Op.bytesLess (getD db i (zi zh)).1.1 (getD db (i+1) (zi zh)).1.1=Q3
 rels:∀x∈db,eh x
 bound:DZ db
theorem eh.cols{x:Sem zh}(h:eh x):∀f∈x.1.t.1,∀row∈x.2,zK f.1 (length row)=Q3:=by
 intro f hf row hr;obtain⟨_,h1,_,_,_⟩:=g8 h.may;rw[BD (by simpa using h.fits row hr)];exact tX (h1 f hf)
theorem xx{db:List (Sem zh)}(hs:∀x∈db,gN x):∃e:Int,tt db=Q1 (e,())/\(e=0↔iU db):=by
 by_cases hw:db.length<=12
 case neg=>
  refine⟨13,?_,λh=>(by cases h),λh=>absurd h.few hw⟩;unfold tt al cT;simp only[WP,Q8];rw[if_pos sg];rfl
 have hi:(WP db).val=Q1 (.inl (.h4 db ((0+1:Nat):Int))):=by
  simp only[WP,Q8];rw[if_neg sg];rfl
 have h4:=ly (t:=nZ) (Φ:=U5) 1 (λi=>.h4 db ((i+1:Nat):Int)) (λi=>Op.bytesLess (getD db i (zi zh)).1.1 (getD db (i+1) (zi zh)).1.1=Q3) (db.length-1) (by
  intro i hi _;have h1:i<db.length:=by omega
  have h2:i+1<db.length:=by omega
  have hv:(nZ (.h4 db ((i+1:Nat):Int))).val=if(!Op.bytesLess (getD db i (zi zh)).1.1 (getD db (i+1) (zi zh)).1.1)=Q3 then Q1 (.inr (.int .i64 15,[]))else Q1 (.inl (.h4 db ((i+1+1:Nat):Int))):=by
   show(nZ (.h4 _ _)).val=_;unfold nZ;simp only[pU i um];simp only[Q8,zC h2,zt h2,zt h1,aG,if_true];rw[zp (i+1) um]
  by_cases h:Op.bytesLess (getD db i (zi zh)).1.1 (getD db (i+1) (zi zh)).1.1=Q3
  ·exact .inl ⟨h,zQ.of (by rw[hv,if_neg (by rw[h];simp)])⟩
  ·exact .inr ⟨h,_,zU.of (by rw[hv,if_pos (by simpa using h)]),15,rfl,by decide⟩)
 rcases h4 with⟨hn,h4⟩|⟨hn,r,h4,e,he,hne⟩
 case inr=>
  subst he;exact⟨e,zw hi h4 ow rfl,λh=>absurd h hne,λh=>absurd h.names hn⟩
 have hv4:(nZ (.h4 db ((db.length-1+1:Nat):Int))).val=Q1 (.inl (.h9 db db (db.length:Int) ((0:Nat):Int))):=by
  show(nZ (.h4 _ _)).val=_;unfold nZ;simp only[Q8];rw[if_neg sg];rfl
 have g9:=h4.trans (zQ.of hv4);have h9:=ly (t:=nZ) (Φ:=U5) 1 (λi=>.h9 db db (db.length:Int) (i:Int)) (λi=>eh (getD db i (zi zh))) db.length (by
  intro i hi _;obtain⟨e,he,heq⟩:=Ka (hs _ (bL (d:=zi zh) hi));have hc:Hq (getD db i (zi zh))=Q3:=by unfold Hq;rw[he];rfl
  have hv0:Mj (getD db i (zi zh))=e:=by unfold Mj;rw[he];rfl
  have hv:(nZ (.h9 db db (db.length:Int) (i:Int))).val=if(e !=0)=Q3 then Q1 (.inr (.int .i64 e,[]))else Q1 (.inl (.h9 db db (db.length:Int) ((i+1:Nat):Int))):=by
   show(nZ (.h9 _ _ _ _)).val=_;unfold nZ;simp only[zk,Q8,zC hi,zt hi,aG,if_true,Prod.eta,hc,hv0];rw[zp i um]
  by_cases h:e=0
  ·exact .inl ⟨heq.1 h,zQ.of (by rw[hv,if_neg (by rw[h];simp)])⟩
  ·exact .inr ⟨λhr=>h (heq.2 hr),_,zU.of (by rw[hv,if_pos (by simpa using h)]),e,rfl,h⟩)
 rcases h9 with⟨hr,h9⟩|⟨hr,r,h9,e,he,hne⟩
 case inr=>
  subst he;exact⟨e,zw hi (g9.ends h9) ow rfl,λh=>absurd h hne,λh=>absurd ((au (Q:=eh)).2 h.rels) hr⟩
 have hrels:=(au (Q:=eh)).1 hr;obtain⟨b,hb,hbb⟩:=Iu (db:=db) (λx hx=>(hrels x hx).cols) hs ow;have hc:F0 db=Q3:=by unfold F0;rw[hb];rfl
 have hv0:KS db=b:=by unfold KS;rw[hb];rfl
 have hv9:(nZ (.h9 db db (db.length:Int) (db.length:Int))).val=if(!b)=Q3 then Q1 (.inr (.int .i64 10,[]))else Q1 (.inr (.int .i64 0,[])):=by
  show(nZ (.h9 _ _ _ _)).val=_;unfold nZ;simp only[Q8,zA,hc,hv0,if_true];rfl
 by_cases h:b=Q3
 ·exact⟨0,zw hi (g9.ends (h9.ends (zU.of (by rw[hv9,if_neg (by rw[h];simp)])))) ow rfl,λ_=>⟨hw,hn,hrels,hbb.1 h⟩,λ_=>rfl⟩
 ·exact⟨10,zw hi (g9.ends (h9.ends (zU.of (by rw[hv9,if_pos (by simpa using h)])))) ow rfl,λh=>(by cases h),λhB=>absurd (hbb.2 hB.bound) h⟩
theorem F1{db:List (Sem zh)}(hs:∀x∈db,gN x):nh db=Q3:=by
 obtain⟨e,h,_⟩:=xx hs;unfold nh;rw[h];rfl
theorem ke{db:List (Sem zh)}(hs:∀x∈db,gN x):kC db=(0:Int)↔iU db:=by
 obtain⟨e,h,h2⟩:=xx hs;unfold kC;rw[h];exact h2
abbrev y11(x0:Sem zh.sl)(x1:Sem zl):zm bl:=(x0,x1,([],[],0,[],[],zf.mk [] (0,0,[]) [] []),([],[],0,[],[],zf.mk [] (0,0,[]) [] []),x1.1,x1.2.2.1,x1.t.t.t,x1.2.1,0,x1.t.t.1,0,())
theorem Lr(x0:Sem zh.sl)(x1:Sem zl):zcU x0 x1=(let a8:=mF (y11 x0 x1)
  let a11:=Fa a8.2
  let a14:=Fb a8.2
  let a17:=wA a8.2
  Jd x0 x1 x1.t.t.1 x1 (!dZ x1) (nY x1&&bif !dZ x1 then Q3 else nh x0) (bif !dZ x1 then Q3 else kC x0 !=0) (rt 16 x1.t.t.1) (y11 x0 x1) (mG (y11 x0 x1)) a8 (a8.1==0) a8.2 a11 a11.2 (fq a11.2) a14 a14.2 (fq a14.2) a17 a17.2 (fq a17.2)):=by
 unfold zcU;simp only[Pe,Nc,zk]
abbrev TX(z:zm aq):Sem zr:=(z.t.1,z.t.2.1,z.t.q.1,(z.t.q.2.1,z.t.t.1,z.t.t.2.1,[],[],z.t.t.q.1),z.t.t.q.2.1,z.t.t.t.1)
abbrev jF:Sem zr:=([],[],[],([],[],0,[],[],zf.mk [] (0,0,[]) [] []),[],0)
def az(db:List (Sem zh))(n:zD):Sem zo:=(getD db (toNat (zX db n)) (zi zh)).1
abbrev znp:Sem zo:=([],[],0,[],[],zf.mk [] (0,0,[]) [] [])
def gh(db:List (Sem zh))(n:zD):Sem zo:=if n=[]then znp else az db n
def jB(e:Int)(p:Sem zr):Int×Sem zr:=if e=0 then(if vo p.2.2.2.1=0 then(0,p)else(vo p.2.2.2.1,jF))else(e,jF)
def dj(db:List (Sem zh))(s:Sem zl):Int×Sem zr:=
 if(s.1==[99,111,112,121])=Q3 then
  jB (vJ (az db s.2.2.1) s.2.2.2.1) (s.1,s.2.2.1,s.t.t.t,(s.2.1,gz (az db s.2.2.1) s.2.2.2.1,g6 (kP (az db s.2.2.1) s.2.2.2.1) (az db s.2.2.1).2.2.1,[],[],s.t.t.1),kP (az db s.2.2.1) s.2.2.2.1,0)
 else if(s.1==[106,111,105,110])=Q3 then
  jB (g7 (az db s.2.2.1) (gh db s.t.t.t) s.t.2.1 s.t.t.t)
   (s.1,s.2.2.1,s.t.t.t,(s.2.1,(az db s.2.2.1).2.1++gB (gh db s.t.t.t) (length (gh db s.t.t.t).2.1),(az db s.2.2.1).2.2.1,[],[],s.t.t.1),
    j8 (gh db s.t.t.t).2.2.1 (length (gh db s.t.t.t).2.1),zT (az db s.2.2.1) s.t.2.1)
 else if(s.1==[103,114,111,117,112])=Q3 then
  jB (sJ (az db s.2.2.1) s.2.2.2.1) (s.1,s.2.2.1,s.t.t.t,(s.2.1,DP (az db s.2.2.1) s.2.2.2.1,0,[],[],s.t.t.1),kP (az db s.2.2.1) s.2.2.2.1,0)
 else(1,jF)
def aW(db:List (Sem zh))(s:Sem zl):Int×Sem zr:=
 if jC s.1/\dZ s=Q3/\kC db=(0:Int)then(if nX db s.2.2.1 s.t.t.t s.2.1=0 then dj db s else(nX db s.2.2.1 s.t.t.t s.2.1,jF))else(1,jF)
theorem lV{s:Sem zl}(h:dZ s=Q3):fh s=Q3:=by
 unfold dZ pH at h;by_cases hp:fh s=Q3
 ·exact hp
 ·exfalso;simp only[gy]at hp;simp[hp]at h
theorem mC{db:List (Sem zh)}{s:zD}(h:(0:Int)<=zX db s):db.getD (toNat (zX db s)) (zi zh)∈db:=by
 have:=dA h;simp only[zK,aC,aP]at this;exact tS _ _ ow
theorem CS(e:Int):aL [] [zr,zg] (tup [agg [str [],str [],str [],str [],nils,ai 0,nils,nils,str [],ai 0,ai 0,str [],str [],nils,nils,ai 0],ai e])=Q1 (jF,e,()):=rfl
theorem zdZ(z:zm aq):aL [AO.vec zj z.t.t.1] [zr,zg] (tup [agg [str z.t.1,str z.t.2.1,str z.t.q.1,str z.t.q.2.1,AV.vec 0,
  ai z.t.t.2.1,nils,nils,str (zf.op z.t.t.q.1),ai (zf.v z.t.t.q.1).1,ai (zf.v z.t.t.q.1).2.1,str (zf.v z.t.t.q.1).2.2,str (zf.s z.t.t.q.1),sl Sh.expr (zf.l z.t.t.q.1),
  sl zg z.t.t.q.2.1,ai z.t.t.t.1],ai 0])=Q1 (TX z,0,()):=by
 obtain⟨z0,z1,z2,z3,z4,z5,z6,z7,z8,z9,z10,z11,z12,z13⟩:=z;cases z10;rfl
def PlS(x0:Sem zh.sl)(x1:Sem zl):Prop:=JE x0 x1=Q1 ((aW x0 x1).2,(aW x0 x1).1,())
theorem wH{x0:Sem zh.sl}{x1:Sem zl}{o:Option (zz (List.map Q1 [zr,zg]))}{e:Int}(h:o=Q1 (jF,e,()))(hp:aW x0 x1=(e,jF)):o=Q1 ((aW x0 x1).2,(aW x0 x1).1,()):=by rw[hp];exact h
theorem Xr{x0:Sem zh.sl}{x1:Sem zl}(hM:nY x1=Q3)(hB:nh x0=Q3)(hmay:(bif !dZ x1 then Q3 else kC x0 !=0)=Q3):PlS x0 x1:=by
 have h3:(nY x1&&bif !dZ x1 then Q3 else nh x0)=Q3:=by rw[hM,hB];cases dZ x1<;>rfl
 have hp:aW x0 x1=(1,jF):=by
  unfold aW;rw[if_neg];rintro⟨_,h1,h2⟩;rw[h1]at hmay;simp[h2]at hmay
 refine wH ?_ hp;unfold JE al cT;rw[Lr];simp only[Jd,Q8,h3,hmay,if_true];by_cases o1:(x1.1==[99,111,112,121])=Q3
 ·simp only[o1,if_true];rfl
 ·by_cases o2:(x1.1==[106,111,105,110])=Q3
  ·simp only[o1,o2,if_true];rfl
  ·by_cases o3:(x1.1==[103,114,111,117,112])=Q3
   ·simp only[o1,o2,o3,if_true];rfl
   ·simp only[o1,o2,o3];rfl
theorem zdV{x0:Sem zh.sl}{x1:Sem zl}{y:zm bl}{z:zm aq}{cols:List (Sem zj)}{key:Int}{ix:List Int}{on:Int}(k3:y.t=(y11 x0 x1).t)(hk:na y z)
  (hch:z.t.t.q.1=y.t.t.2.1) (hA:DY z cols key ix on):TX z=(x1.1,x1.2.2.1,x1.t.t.t,(x1.2.1,cols,key,[],[],x1.t.t.1),ix,on):=by
 obtain⟨_,_,_,_,a4,a5,a6,a7⟩:=hk;have e4:z.t.1=x1.1:=by rw[a4,k3]
 have e5:z.t.2.1=x1.2.2.1:=by rw[a5,k3]
 have e6:z.t.q.1=x1.t.t.t:=by rw[a6,k3]
 have e7:z.t.q.2.1=x1.2.1:=by rw[a7,k3]
 have e8:z.t.t.q.1=x1.t.t.1:=by rw[hch,k3]
 show(z.t.1,z.t.2.1,z.t.q.1,(z.t.q.2.1,z.t.t.1,z.t.t.2.1,[],[],z.t.t.q.1),z.t.t.q.2.1,z.t.t.t.1)=_;rw[e4,e5,e6,e7,e8,hA.cols,hA.key,hA.ix,hA.on]
theorem zdU{x0:Sem zh.sl}{x1:Sem zl}(hdb:∀x∈x0,gN x)(hl:length x0<=13)(hs:KJ x1):PlS x0 x1:=by
 by_cases hg:jC x1.1;rotate_left
 ·have o1:(x1.1==[99,111,112,121])=Q4:=by simpa using λk=>hg (.inl k)
  have o2:(x1.1==[106,111,105,110])=Q4:=by simpa using λk=>hg (.inr (.inl k))
  have o3:(x1.1==[103,114,111,117,112])=Q4:=by simpa using λk=>hg (.inr (.inr k))
  refine wH (e:=1) ?_ (by unfold aW;rw[if_neg λh=>hg h.1]);unfold JE al cT;rw[Lr];simp only[Jd,Q8,o1,o2,o3];rfl
 have hM:=Kr hs.sh hg;have hB:=F1 hdb;by_cases hmay:(bif !dZ x1 then Q3 else kC x0 !=0)=Q3
 ·exact Xr hM hB hmay
 have h3:(nY x1&&bif !dZ x1 then Q3 else nh x0)=Q3:=by rw[hM,hB];cases dZ x1<;>rfl
 have hm1:dZ x1=Q3:=by
  cases h:dZ x1
  ·rw[h]at hmay;simp at hmay
  ·rfl
 have hb1:kC x0=(0:Int):=by
  rw[hm1]at hmay;simpa using hmay
 have hparts:=lV hm1;have hrels:=((ke hdb).1 hb1).rels;obtain⟨e8,y8,h8,k1,k2,k3,k5,k4⟩:=Jv (y11 x0 x1) (by show length x0<=_;omega);have s8:mF (y11 x0 x1)=(e8,y8):=by unfold mF;rw[h8];rfl
 have c8:mG (y11 x0 x1)=Q3:=by unfold mG;rw[h8];rfl
 have k5:e8=nX x0 x1.2.2.1 x1.t.t.t x1.2.1:=k5;have hS:jC x1.1->aW x0 x1=if e8=0 then dj x0 x1 else(e8,jF):=by
  intro h;unfold aW;rw[if_pos ⟨h,hm1,hb1⟩,k5]
 unfold PlS JE al cT;rw[Lr];simp only[Jd,Q8,h3,hmay,hs.cp,s8,c8,if_true];by_cases e80:e8=0
 ·have hsrc:=k4 e80;have n2:y8.2.1=x1:=k2;have n1:y8.1=x0:=k1;have nk:y8.t.t.1=(0:Int):=by rw[k3]
  have non:y8.t.t.q.1=(0:Int):=by rw[k3]
  have nw:y8.t.q.1=x1.t.t.t:=by rw[k3]
  have hfrom:y8.2.2.1=az x0 x1.2.2.1:=hsrc.t.1;have hwith:y8.2.2.2.1=gh x0 x1.t.t.t:=hsrc.t.2;have mayf:=g8 (hrels _ (mC (db:=x0) (s:=x1.2.2.1) hsrc.1)).may;rw[show(getD x0 (toNat (zX x0 x1.2.2.1)) (zi zh)).1=y8.2.2.1 from hfrom.symm]at mayf;have hwl:length y8.2.2.2.1.2.1<=100:=by
   rw[hwith];unfold gh;split
   ·simp
   ·rename_i hw;have:=(g8 (hrels _ (mC (db:=x0) (s:=x1.t.t.t) (hsrc.2.1.resolve_left hw))).may).2.2.2.1;unfold az;omega
  have e8b:(e8==0)=Q3:=by simpa using e80
  simp only[e8b,if_true];by_cases o1:(x1.1==[99,111,112,121])=Q3
  ·have hmg:jC x1.1:=Or.inl (bC o1);obtain⟨z,h11,hk,hch,hlen,hA⟩:=Tc y8 (by rw[n2];have:=hs.sh.names.1;omega);rw[n2,hfrom,non]at hA;rw[n2,hfrom]at h11;generalize hce:vJ (az x0 x1.2.2.1) x1.2.2.2.1=e11 at h11 hA;have uP:Fa y8=(e11,z):=by unfold Fa;rw[h11];rfl
   have c11:GF y8=Q3:=by unfold GF;rw[h11];rfl
   have hP:=hS hmg;rw[if_pos e80]at hP;unfold dj at hP;rw[if_pos o1,hce]at hP;simp only[o1,uP,c11,if_true];by_cases e0:e11=0
   ·have hz:=zdV k3 hk hch (hA e0);have h13:=sS z hlen;have hT:Of z=(TX z).2.2.2.1:=rfl;rw[hT,hz]at h13;unfold jB at hP;rw[if_pos e0]at hP;generalize he13:vo _=e13 at h13 hP;have s13:fq z=(e13,z):=by unfold fq;rw[h13];rfl
    have c13:gA z=Q3:=by unfold gA;rw[h13];rfl
    have e0b:(e11==0)=Q3:=by simpa using e0
    simp only[e0b,s13,c13,if_true];by_cases f0:e13=0
    ·have f0c:(e13 !=0)=Q4:=by simp[f0]
     simp only[f0c];rw[if_pos f0]at hP;rw[hP];exact(zdZ z).trans (by rw[hz])
    ·have f0c:(e13 !=0)=Q3:=by simpa using f0
     simp only[f0c,if_true];rw[if_neg f0]at hP;exact wH (CS e13) hP
   ·have e0b:(e11==0)=Q4:=by simpa using e0
    have e0c:(e11 !=0)=Q3:=by simpa using e0
    unfold jB at hP;rw[if_neg e0]at hP;simp only[e0b,e0c,if_true];exact wH (CS e11) hP
  ·by_cases o2:(x1.1==[106,111,105,110])=Q3
   ·have hmg:jC x1.1:=Or.inr (Or.inl (bC o2));obtain⟨z,h11,hk,hch,hlen,hA⟩:=Td y8 (by have:=mayf.2.2.2.1;omega) hwl;rw[n2,nw,hfrom,hwith]at hA;rw[n2,nw,hfrom,hwith]at h11;generalize hce:g7 (az x0 x1.2.2.1) (gh x0 x1.t.t.t) x1.t.2.1 x1.t.t.t=e11 at h11 hA;have uP:Fb y8=(e11,z):=by unfold Fb;rw[h11];rfl
    have c11:GH y8=Q3:=by unfold GH;rw[h11];rfl
    have hP:=hS hmg;rw[if_pos e80]at hP;unfold dj at hP;rw[if_neg o1,if_pos o2,hce]at hP;simp only[o1,o2,uP,c11,if_true];by_cases e0:e11=0
    ·have hz:=zdV k3 hk hch (hA e0);have h13:=sS z hlen;have hT:Of z=(TX z).2.2.2.1:=rfl;rw[hT,hz]at h13;unfold jB at hP;rw[if_pos e0]at hP;generalize he13:vo _=e13 at h13 hP;have s13:fq z=(e13,z):=by unfold fq;rw[h13];rfl
     have c13:gA z=Q3:=by unfold gA;rw[h13];rfl
     have e0b:(e11==0)=Q3:=by simpa using e0
     simp only[e0b,s13,c13,if_true];by_cases f0:e13=0
     ·have f0c:(e13 !=0)=Q4:=by simp[f0]
      simp only[f0c];rw[if_pos f0]at hP;rw[hP];exact(zdZ z).trans (by rw[hz])
     ·have f0c:(e13 !=0)=Q3:=by simpa using f0
      simp only[f0c,if_true];rw[if_neg f0]at hP;exact wH (CS e13) hP
    ·have e0b:(e11==0)=Q4:=by simpa using e0
     have e0c:(e11 !=0)=Q3:=by simpa using e0
     unfold jB at hP;rw[if_neg e0]at hP;simp only[e0b,e0c,if_true];exact wH (CS e11) hP
   ·by_cases o3:(x1.1==[103,114,111,117,112])=Q3
    ·have hmg:jC x1.1:=Or.inr (Or.inr (bC o3));obtain⟨z,h11,hk,hch,hlen,hA⟩:=Px y8 (by rw[n2];exact lL hparts (bC o3));rw[n2,hfrom,non,nk]at hA;rw[n2,hfrom]at h11;generalize hce:sJ (az x0 x1.2.2.1) x1.2.2.2.1=e11 at h11 hA;have uP:wA y8=(e11,z):=by unfold wA;rw[h11];rfl
     have c11:yM y8=Q3:=by unfold yM;rw[h11];rfl
     have hP:=hS hmg;rw[if_pos e80]at hP;unfold dj at hP;rw[if_neg o1,if_neg o2,if_pos o3,hce]at hP;simp only[o1,o2,o3,uP,c11,if_true];by_cases e0:e11=0
     ·have hz:=zdV k3 hk hch (hA e0);have h13:=sS z hlen;have hT:Of z=(TX z).2.2.2.1:=rfl;rw[hT,hz]at h13;unfold jB at hP;rw[if_pos e0]at hP;generalize he13:vo _=e13 at h13 hP;have s13:fq z=(e13,z):=by unfold fq;rw[h13];rfl
      have c13:gA z=Q3:=by unfold gA;rw[h13];rfl
      have e0b:(e11==0)=Q3:=by simpa using e0
      simp only[e0b,s13,c13,if_true];by_cases f0:e13=0
      ·have f0c:(e13 !=0)=Q4:=by simp[f0]
       simp only[f0c];rw[if_pos f0]at hP;rw[hP];exact(zdZ z).trans (by rw[hz])
      ·have f0c:(e13 !=0)=Q3:=by simpa using f0
       simp only[f0c,if_true];rw[if_neg f0]at hP;exact wH (CS e13) hP
     ·have e0b:(e11==0)=Q4:=by simpa using e0
      have e0c:(e11 !=0)=Q3:=by simpa using e0
      unfold jB at hP;rw[if_neg e0]at hP;simp only[e0b,e0c,if_true];exact wH (CS e11) hP
    ·simp only[o1,o2,o3];refine wH (CS 1) ?_;unfold aW;rw[if_neg];rintro⟨h|h|h,_⟩
     ·exact o1 (bf.2 h)
     ·exact o2 (bf.2 h)
     ·exact o3 (bf.2 h)
 ·have e8b:(e8==0)=Q4:=by simpa using e80
  have e8c:(e8 !=0)=Q3:=by simpa using e80
  have hP:jC x1.1->aW x0 x1=(e8,jF):=λh=>by rw[hS h,if_neg e80]
  simp only[e8b,e8c,if_true];by_cases o1:(x1.1==[99,111,112,121])=Q3
  ·simp only[o1,if_true];exact wH (CS e8) (hP (Or.inl (bC o1)))
  ·by_cases o2:(x1.1==[106,111,105,110])=Q3
   ·simp only[o1,o2,if_true];exact wH (CS e8) (hP (Or.inr (Or.inl (bC o2))))
   ·by_cases o3:(x1.1==[103,114,111,117,112])=Q3
    ·simp only[o1,o2,o3,if_true];exact wH (CS e8) (hP (Or.inr (Or.inr (bC o3))))
    ·simp only[o1,o2,o3];refine wH (CS 1) ?_;unfold aW;rw[if_neg];rintro⟨h|h|h,_⟩
     ·exact o1 (bf.2 h)
     ·exact o2 (bf.2 h)
     ·exact o3 (bf.2 h)
end
end Cad
