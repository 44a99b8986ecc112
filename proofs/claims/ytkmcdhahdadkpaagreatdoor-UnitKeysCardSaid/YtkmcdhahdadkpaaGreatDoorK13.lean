/- Tables with rows that may be: no value twice. What is asked of tables with rows, and of bases, holds. What is asked of bases holds. Tables with rows that may be. -/
import Derived.Test.YtkmcdhahdadkpaaGreatDoorK10
import Derived.Test.YtkmcdhahdadkpaaGreatDoorK08
import Derived.Test.YtkmcdhahdadkpaaGreatDoorK12
import Derived.Test.YtkmcdhahdadkpaaGreatDoorK11
import Derived.Test.YtkmcdhahdadkpaaGreatDoorK09
namespace Cad
open Go Go.Proofs
open Tr renaming val→Q8
open Bool renaming false→Q4,true→Q3
open Option renaming some→Q1
open Decidable renaming decide→Q0
open Int (toNat)
open List (getD length)
open Tr (chk br re)
open AV (nils agg tup ptr kb str sl)
noncomputable section
set_option maxHeartbeats 4000000
abbrev ac(c:Int)(r:List (Sem ze)):Sem ze:=getD r (toNat c) (zi ze)
def qR(rows:List (List (Sem ze)))(c:Int):Prop:=rows.Pairwise λa b=>(ac c a).1≠0->ac c a≠ac c b
theorem pC:∀(es:List ((Int×Int×zB)×Int))(k:Int×Int×zB)(x:Int),jL (jC es k) (kZ es k) x=jX es k x
 |[],k,x=>by simp[jC,mJ,kZ,jL,jX]
 | p::r,k,x=>by
  have h:=pC r k x;cases hk:(k==p.1)with
  | true=>
   have e:k=p.1:=bE hk;simp[jC,mJ,kZ,jL,jX,e]
  | false=>
   have e:jC (p::r) k=p::jC r k:=by
    simp only[jC,mJ,List.any_cons,hk,Bool.false_or];cases(r.any λp=>k==p.1)<;>rfl
   rw[e,kZ,jX,hk];show p::jL (jC r k) (kZ r k) x=p::jX r k x;rw[h]
theorem Fg(es:List ((Int×Int×zB)×Int))(k k':Int×Int×zB)(x:Int):gh (jX es k x) k'=if k'=k then x else gh es k':=by
 induction es with
 | nil=>
  by_cases h:k'=k
  ·subst h;simp[jX,gh]
  ·simp[jX,gh,h]
 | cons p r ih=>
  rw[jX];cases hk:(k==p.1)with
  | true=>
   have e:k=p.1:=bE hk;by_cases h:k'=k
   ·simp[gh,h]
   ·have h2:(k'==p.1)=Q4:=by rw[<-e];simpa using h
    have h3:(k'==k)=Q4:=by simpa using h
    simp only[ah,gh,List.find?_cons,h2,h3,if_neg h]
  | false=>
   show gh (p::jX r k x) k'=_;cases hp:(k'==p.1)with
   | true=>
    have e:k'=p.1:=bE hp;have h:k'≠k:=by intro h;rw[<-h,hp]at hk;cases hk
    simp only[gh,List.find?_cons,hp,if_neg h]
   | false=>
    simp only[gh,List.find?_cons,hp]at ih⊢;exact ih
def tO:List (Sem ze)->List ((Int×Int×zB)×Int)
 |[]=>[]
 |v::r=>jX (tO r) v (IntKind.i64.wrap (gh (tO r) v+1))
theorem I3:∀l:List (Sem ze),(tO l).length<=l.length
 |[]=>az _
 | v::r=>by
  rw[tO,<-pC,CY];have:=Uo (tO r) v;have:=I3 r;simp;omega
theorem By:∀(l:List (Sem ze))(v:Sem ze),l.length<=1000000->gh (tO l) v=(l.count v:Int)
 |[],v,_=>by simp[tO,gh]
 | u::r,v,h=>by
  simp only[fb]at h;have h1:=By r u ow;have h2:=By r v ow;have h3:r.count u<=r.length:=List.count_le_length;rw[tO,Fg,h1,h2,zp _ um];by_cases e:v=u
  ·subst e;simp
  ·have e':¬(u==v)=Q3:=by intro h;exact e (bE h).symm
   rw[if_neg e,List.count_cons,if_neg e'];rfl
theorem JE{x:Sem zh}{c:Int}(hc:∀r∈x.2,zN c (length r)=Q3)(hl:x.2.length<=1000000):∃b,yN x c=Q1 (b,())/\(b=Q4↔qR x.2 c):=by
  let key:Nat->Sem ze:=λi=>ac c (getD x.2 i (zi ze.sl))
  let mm:Nat->List ((Int×Int×zB)×Int):=λi=>tO (((x.2.take i).map (ac c)).reverse)
  have hm:∀i,i<x.2.length->mm (i+1)=jX (mm i) (key i) (IntKind.i64.wrap (gh (mm i) (key i)+1)):=by
    intro i hi;show tO (((x.2.take (i+1)).map (ac c)).reverse)=_;rw[List.take_succ_eq_append_getElem hi,iI,List.reverse_append];show tO (ac c x.2[i]::_)=_;rw[tO];have:key i=ac c x.2[i]:=by
      show ac c (getD x.2 i _)=_;rw[bd,zS hi,du]
    rw[this];rfl
  have hlen:∀i,i<=x.2.length->(mm i).length<=i:=by
    intro i hi;have:=I3 (((x.2.take i).map (ac c)).reverse);simp at this;have h2:(mm i).length=(tO (((x.2.take i).map (ac c)).reverse)).length:=rfl;simp at h2;omega
  have hget:∀i v,i<=x.2.length->gh (mm i) v=((((x.2.take i).map (ac c)).count v:Nat):Int):=by
    intro i v hi;show gh (tO _) v=_;rw[By _ _ sg,List.count_reverse]
  have hf:=lI (t:=xD) (Φ:=λr=>aM r.2 [Sh.bool] r.1=some (true,())) 1 (λi=>.h3 c x.2 (x.2.length:Int) (i:Int) (mm i)) (λi=>(key i).1≠0->((x.2.take i).map (ac c)).count (key i)=0) x.2.length (by
    intro i hi _;have k0:getD x.2 (i:Int).toNat (zi ze.sl)=getD x.2 i (zi ze.sl):=by rw[aK]
    have k1:getD x.2 i (zi ze.sl)=x.2[i]:=by rw[bd,zS hi,du]
    have k2:zN c (length x.2[i])=Q3:=hc _ (bu hi);have k3:key i=ac c x.2[i]:=by show ac c (getD x.2 i _)=_;rw[k1]
    have k4:zN ((kZ (mm i) (key i):Nat):Int) (jC (mm i) (key i)).length=Q3:=zt (Xk _ _);have k5:Q0 ((mm i).length<=1073741824)=Q3:=zu (by have:=hlen i ow;omega);have k6:jL (jC (mm i) (key i)) ((kZ (mm i) (key i):Nat):Int).toNat (IntKind.i64.wrap (gh (mm i) (key i)+1))=mm (i+1):=by rw[aK,pC,hm i hi]
    have k7:gh (mm (i+1)) (key i)=((((x.2.take i).map (ac c)).count (key i)+1:Nat):Int):=by
      have h3:((x.2.take i).map (ac c)).count (key i)<=((x.2.take i).map (ac c)).length:=List.count_le_length;simp only[da,oA]at h3;rw[hm i hi,Fg,if_pos rfl,hget i _ ow,zp _ um]
    have hv:(xD (.h3 c x.2 (x.2.length:Int) (i:Int) (mm i))).val=if(bif (key i).1!=0 then Q0 (((((x.2.take i).map (ac c)).count (key i)+1:Nat):Int)>1)else Q4)=Q3 then Q1 (.inr (.kb Q3,[]))else Q1 (.inl (.h3 c x.2 (x.2.length:Int) ((i+1:Nat):Int) (mm (i+1)))):=by
      show(xD (.h3 c x.2 _ _ _)).val=_;unfold xD;simp only[k0,k1];rw[show getD x.2[i] (toNat c) (zi ze)=key i from k3.symm];simp only[Q8,zH hi,zt hi,k2,k4,k5,if_true,k6,k7];rw[zp i um]
    by_cases h1:(key i).1=0
    · refine .inl ⟨λh=>absurd h1 h,zP.of ?_⟩
      rw[hv,if_neg (by simp[h1])]
    · by_cases h2:((x.2.take i).map (ac c)).count (key i)=0
      · refine .inl ⟨λ_=>h2,zP.of ?_⟩
        rw[hv,if_neg (by rw[h2];simp)]
      · refine .inr ⟨fun h => h2 (h h1),(.kb true,[]),zT.of ?_,rfl⟩
        rw [hv, if_pos (by have:((key i).1 != 0)=true:=by simpa using h1
                           rw[this];simp only[ah,aO];omega)])
  have hu:(∀i,i<x.2.length->(key i).1≠0->((x.2.take i).map (ac c)).count (key i)=0)↔qR x.2 c:=by
    unfold qR;rw[List.pairwise_iff_getElem];constructor
    · intro h j i hj hi hji hne e
      have k3:key i=ac c x.2[i]:=by show ac c (getD x.2 i _)=_;rw[bd,zS hi,du]
      have:=h i hi (by rw[k3,<-e];exact hne);rw[List.count_eq_zero,k3,<-e]at this;exact this (bn.2 ⟨_,List.mem_take_iff_getElem.2 ⟨j,ow,rfl⟩,rfl⟩)
    · intro h i hi hne
      have k3:key i=ac c x.2[i]:=by show ac c (getD x.2 i _)=_;rw[bd,zS hi,du]
      rw[List.count_eq_zero];intro hmem;obtain⟨r,hr,e⟩:=bn.1 hmem;obtain⟨j,hj,rfl⟩:=List.mem_take_iff_getElem.1 hr;rw[k3]at e hne;exact h j i ow hi ow (by rw[e];exact hne) e
  have hgo:(YU x c).val=Q1 (.inl (.h3 c x.2 (x.2.length:Int) ((0:Nat):Int) (mm 0))):=rfl;rcases hf with⟨h1,h2⟩|⟨h1,r,h2,h3⟩
  · refine⟨Q4,?_,λ_=>hu.1 h1,λ_=>rfl⟩
    refine zw hgo (h2.ends (zT.of (r:=(.kb Q4,[])) ?_)) ow rfl;show(xD (.h3 c x.2 _ _ _)).val=_;simp only[xD,Q8,zA];rfl
  · refine⟨Q3,zw hgo h2 ow h3,⟨λh=>?_,λh=>absurd (hu.2 h) h1⟩⟩
    cases h
structure gH (x:Sem zh):Prop where
 uq:x.1.2.2.2.1.length<=1000
 rf:x.1.t.1.length<=1000
 rw:x.2.length<=1000
theorem wX(l:List (Sem zh))(s:zB):zV l s=(-1:Int)\/((0:Int)<=zV l s/\LT.lt (α:=Int) (zV l s) l.length):=by
 have:=fH (λx:Sem zh=>x.1.1==s) l 0;simp at this;exact this
theorem dv{l:List (Sem zh)}{s:zB}(h:(0:Int)<=zV l s):zN (zV l s) (length l)=Q3:=by
 rcases wX l s with h1|⟨h1,h2⟩
 ·rw[h1]at h;omega
 ·simp only[zN,aD,aO];exact⟨h1,h2⟩
theorem aq{α:Type}{l:List α}{d:α}{Q:α->Prop}:(∀i,i<l.length->Q (l.getD i d))↔∀x∈l,Q x:=by
 constructor
 ·intro h x hx;obtain⟨i,hi,rfl⟩:=gn hx;have:=h i hi
  rwa [bd,zS hi,du]at this
 ·intro h i hi;rw[bd,zS hi,du];exact h _ (bu hi)
theorem bH{α:Type}{l:List α}{d:α}{i:Nat}(hi:i<l.length):l.getD i d∈l:=by
 rw[bd,zS hi,du];exact bu hi
theorem pF(i:Nat)(h:i<aF):IntKind.i64.wrap (((i+1:Nat):Int)-1)=(i:Int):=by
 have:aF=9223372036854775807:=rfl;rw[fR];omega
def xF(a b:Sem ze):Prop:=LT.lt (α:=Int) (cO a b) 0
theorem NN{a b:Sem ze}:Q0 (GE.ge (α:=Int) (cO a b) 0)=Q3↔¬xF a b:=by
 unfold xF;rw[aO];omega
structure ee (x:Sem zh):Prop where
 may:eB x.1=Q3
 few:x.2.length<=200
 fits:∀r∈x.2,dZ x.1 r=(0:Int)
 key:qR x.2 x.1.2.2.1
 uniq:∀u∈x.1.2.2.2.1,qR x.2 u
 rise:∀i,i<x.2.length-1->xF (ac x.1.2.2.1 (getD x.2 i (zi ze.sl))) (ac x.1.2.2.1 (getD x.2 (i+1) (zi ze.sl)))
def Ut(r:ar):Prop:=∃e:Int,r=(.int .i64 e,[])/\e≠0
theorem JD{x:Sem zh}(hs:gH x):∃e:Int,nC x=Q1 (e,())/\(e=0↔ee x):=by
 have hsw:=hs.rw;have hsu:=hs.uq;have fin:∀{k:Nat}{r:ar},zT ib k (.h6 x.2 (x.2.length:Int) ((0:Nat):Int) (x,())) r->k<=100000000->(OL x).val=Q1 (.inl (.h6 x.2 (x.2.length:Int) ((0:Nat):Int) (x,())))->∀e:Int,r=(.int .i64 e,[])->nC x=Q1 (e,()):=by
  intro k r h hk hi e he;subst he;exact zw hi h hk rfl
 by_cases hm:eB x.1=Q3
 case neg=>
  refine⟨1,?_,λh=>(by cases h),λh=>absurd h.may hm⟩;unfold nC ao cX;simp only[OL,zk,Q8];rw[if_pos (by simpa using hm)];rfl
 by_cases hw:x.2.length<=200
 case neg=>
  refine⟨13,?_,λh=>(by cases h),λh=>absurd h.few hw⟩;unfold nC ao cX;simp only[OL,zk,Q8];rw[if_neg (by simpa using hm),if_pos sg];rfl
 have hi:(OL x).val=Q1 (.inl (.h6 x.2 (x.2.length:Int) ((0:Nat):Int) (x,()))):=by
  simp only[OL,zk,Q8];rw[if_neg (by simpa using hm),if_neg sg];rfl
 obtain⟨hkc,hrc,huc,_,_⟩:=gX hm;have h6:=lI (t:=ib) (Φ:=Ut) 1 (λi=>.h6 x.2 (x.2.length:Int) (i:Int) (x,())) (λi=>dZ x.1 (getD x.2 i (zi ze.sl))=(0:Int)) x.2.length (by
  intro i hi _;have hv:(ib (.h6 x.2 (x.2.length:Int) (i:Int) (x,()))).val=if(dZ x.1 (getD x.2 i (zi ze.sl))!=0)=Q3 then Q1 (.inr (.int .i64 (dZ x.1 (getD x.2 i (zi ze.sl))),[]))else Q1 (.inl (.h6 x.2 (x.2.length:Int) ((i+1:Nat):Int) (x,()))):=by
   show(ib (.h6 x.2 _ _ _)).val=_;unfold ib;simp only[zk,Q8,zH hi,zt hi,if_true,aK];rw[zp i um]
  by_cases h:dZ x.1 (getD x.2 i (zi ze.sl))=(0:Int)
  ·refine .inl ⟨h,zP.of ?_⟩;rw[hv,if_neg (by rw[h];simp)]
  ·refine .inr ⟨h,_,zT.of (by rw[hv,if_pos (by simpa using h)]),_,rfl,h⟩)
 rcases h6 with⟨hf,h6⟩|⟨hf,r,h6,e,he,hne⟩
 case inr=>
  exact⟨e,fin h6 ow hi e he,λh=>absurd h hne,λh=>absurd ((aq (Q:=λr=>dZ x.1 r=(0:Int))).2 h.fits) hf⟩
 have hfits:=(aq (Q:=λr=>dZ x.1 r=(0:Int))).1 hf;have hlen:∀r∈x.2,length r=x.1.2.1.length:=λr hr=>Ba (by simpa using hfits r hr)
 have hin:∀c,C2 c x.1.2.1.length->∀r∈x.2,zN c (length r)=Q3:=λc hc r hr=>by
  rw[hlen r hr];exact tD hc
 obtain⟨b,hb,hbu⟩:=JE (x:=x) (c:=x.1.2.2.1) (hin _ hkc) ow;have hbc:qE x x.1.2.2.1=Q3:=by unfold qE;rw[hb];rfl
 have hbv:wv x x.1.2.2.1=b:=by unfold wv;rw[hb];rfl
 have hv6:(ib (.h6 x.2 (x.2.length:Int) (x.2.length:Int) (x,()))).val=if b=Q3 then Q1 (.inr (.int .i64 7,[]))else Q1 (.inl (.h15 x.1.2.2.2.1 (x.1.2.2.2.1.length:Int) ((0:Nat):Int) (x,()))):=by
  show(ib (.h6 x.2 _ _ _)).val=_;unfold ib;simp only[zk,Q8,zA,hbc,hbv,if_true];rfl
 by_cases hb1:b=Q3
 ·refine⟨7,fin (h6.ends (zT.of (by rw[hv6,if_pos hb1]))) ow hi 7 rfl,λh=>(by cases h),λh=>?_⟩;have:=hbu.2 h.key;rw[hb1]at this;cases this
 have hkey:qR x.2 x.1.2.2.1:=hbu.1 (by simpa using hb1);have g15:zP ib _ (.h6 x.2 (x.2.length:Int) ((0:Nat):Int) (x,())) _:=h6.trans (zP.of (by rw[hv6,if_neg hb1]));have h15:=lI (t:=ib) (Φ:=Ut) 1 (λi=>.h15 x.1.2.2.2.1 (x.1.2.2.2.1.length:Int) (i:Int) (x,())) (λi=>qR x.2 (getD x.1.2.2.2.1 i (zi zg))) x.1.2.2.2.1.length (by
  intro i hi _;obtain⟨b,hb,hbu⟩:=JE (x:=x) (c:=getD x.1.2.2.2.1 i (zi zg)) (hin _ (huc _ (bH hi))) ow;have hbc:qE x (getD x.1.2.2.2.1 i (zi zg))=Q3:=by unfold qE;rw[hb];rfl
  have hbv:wv x (getD x.1.2.2.2.1 i (zi zg))=b:=by unfold wv;rw[hb];rfl
  have hv:(ib (.h15 x.1.2.2.2.1 (x.1.2.2.2.1.length:Int) (i:Int) (x,()))).val=if b=Q3 then Q1 (.inr (.int .i64 7,[]))else Q1 (.inl (.h15 x.1.2.2.2.1 (x.1.2.2.2.1.length:Int) ((i+1:Nat):Int) (x,()))):=by
   show(ib (.h15 _ _ _ _)).val=_;unfold ib;simp only[zk,Q8,zH hi,zt hi,if_true,aK,hbc,hbv];rw[zp i um]
  by_cases h:b=Q3
  ·refine .inr ⟨λhu=>?_,_,zT.of (by rw[hv,if_pos h]),7,rfl,by decide⟩;have:=hbu.2 hu;rw[h]at this;cases this
  ·exact .inl ⟨hbu.1 (by simpa using h),zP.of (by rw[hv,if_neg h])⟩)
 rcases h15 with⟨hq,h15⟩|⟨hq,r,h15,e,he,hne⟩
 case inr=>
  exact⟨e,fin (g15.ends h15) ow hi e he,λh=>absurd h hne,λh=>absurd ((aq (Q:=λu=>qR x.2 u)).2 h.uniq) hq⟩
 have huniq:=(aq (Q:=λu=>qR x.2 u)).1 hq;have hv15:(ib (.h15 x.1.2.2.2.1 (x.1.2.2.2.1.length:Int) (x.1.2.2.2.1.length:Int) (x,()))).val=Q1 (.inl (.h21 ((0+1:Nat):Int) (x,()))):=by
  show(ib (.h15 _ _ _ _)).val=_;unfold ib;simp only[Q8,zA];rfl
 have g21:=(g15.trans h15).trans (zP.of hv15);have h21:=lI (t:=ib) (Φ:=Ut) 1 (λi=>.h21 ((i+1:Nat):Int) (x,())) (λi=>xF (ac x.1.2.2.1 (getD x.2 i (zi ze.sl))) (ac x.1.2.2.1 (getD x.2 (i+1) (zi ze.sl)))) (x.2.length-1) (by
  intro i hi _;have h1:i<x.2.length:=by omega
  have h2:i+1<x.2.length:=by omega
  have hv:(ib (.h21 ((i+1:Nat):Int) (x,()))).val=if Q0 (GE.ge (α:=Int) (cO (ac x.1.2.2.1 (getD x.2 i (zi ze.sl))) (ac x.1.2.2.1 (getD x.2 (i+1) (zi ze.sl)))) 0)=Q3 then Q1 (.inr (.int .i64 15,[]))else Q1 (.inl (.h21 ((i+1+1:Nat):Int) (x,()))):=by
   show(ib (.h21 _ _)).val=_;unfold ib;simp only[pF i um];simp only[Q8,zH h2,zt h2,zt h1,aK,hin _ hkc _ (bH h1),hin _ hkc _ (bH h2),if_true];rw[zp (i+1) um]
  by_cases h:xF (ac x.1.2.2.1 (getD x.2 i (zi ze.sl))) (ac x.1.2.2.1 (getD x.2 (i+1) (zi ze.sl)))
  ·exact .inl ⟨h,zP.of (by rw[hv,if_neg (λh2=>NN.1 h2 h)])⟩
  ·exact .inr ⟨h,_,zT.of (by rw[hv,if_pos (NN.2 h)]),15,rfl,by decide⟩)
 rcases h21 with⟨hr,h21⟩|⟨hr,r,h21,e,he,hne⟩
 case inr=>
  exact⟨e,fin (g21.ends h21) ow hi e he,λh=>absurd h hne,λh=>absurd h.rise hr⟩
 have hv21:(ib (.h21 ((x.2.length-1+1:Nat):Int) (x,()))).val=Q1 (.inr (.int .i64 0,[])):=by
  show(ib (.h21 _ _)).val=_;unfold ib;simp only[Q8];rw[if_neg sg]
 exact⟨0,fin (g21.ends (h21.ends (zT.of hv21))) ow hi 0 rfl,λ_=>⟨hm,hw,hfits,hkey,huniq,hr⟩,λ_=>rfl⟩
def lL(v:Sem ze):Prop:=LE.le (α:=Int) (-9223372036854775808) v.2.1/\LE.le (α:=Int) v.2.1 9223372036854775807/\v.2.2.length<=1000000
theorem bL:∀s:zB,Op.bytesLess s s=Q4
 |[]=>rfl
 |a::r=>by simp[Op.bytesLess,bL r]
theorem O3(s:zB):(o5 s<0)↔∀b∈s,32<=b.toNat/\b.toNat<=126:=by
 refine ST (p:=λr=>BC r) (λc=>?_) s;unfold BC;cases h:Q0 ((c:Int)<32)with
 |true=>simp at h⊢;omega
 |false=>simp at h⊢;omega
theorem Wy(b0 b1 b2 b3 c0 c1 e l:Bool):∃r,(if b0=Q3 then Q1 (.inr (.bool (bif c0 then e else Q4),[]))else if b1=Q3 then Q1 (.inr (.bool e,[]))else if b2=Q3 then Q1 (.inr (.bool (bif c0 then l else Q4),[]))else if b3=Q3 then Q1 (.inr (.bool (bif c0 then e else bif c1 then e else Q4),[]))else Q1 (.inr (.kb Q4,[])):Option (Ad⊕ar))=Q1 (.inr r)/\
  aM r.2 [Sh.bool] r.1=Q1 ((if b0=Q3 then if(!c0)=Q3 then Q4 else e else if b1=Q3 then e else if b2=Q3 then bif c0 then bif l then Q3 else Q4 else Q4 else if b3=Q3 then bif c0 then e else bif c1 then e else Q4 else Q4:Bool),()):=by
 cases b0<;>cases b1<;>cases b2<;>cases b3<;>cases c0<;>cases c1<;>cases e<;>cases l<;>exact⟨_,rfl,rfl⟩
theorem Wx(b0 b1 b2 b3 c0 c1 l:Bool):(if b0=Q3 then if(!c0)=Q3 then Q4 else Q4 else if b1=Q3 then Q4 else if b2=Q3 then bif c0 then bif l then Q4 else Q4 else Q4 else if b3=Q3 then bif c0 then Q4 else bif c1 then Q4 else Q4 else Q4)=Q4:=by
 cases b0<;>cases b1<;>cases b2<;>cases b3<;>cases c0<;>cases c1<;>cases l<;>rfl
theorem Ji{v:Sem ze}(hl:v.2.2.length<=1000000):Gm v=Q1 (aW v,()):=by
 obtain⟨k,n,s⟩:=v;have hl:s.length<=1000000:=hl;have hf:=lI (t:=rD) (Φ:=λr=>r=(.kb Q4,[])) 1 (λi=>.h2 (i:Int) ((k,n,s),())) (λi=>32<=(getD s i 0).toNat/\(getD s i 0).toNat<=126) s.length (by
  intro i hi _;have hv:(rD (.h2 (i:Int) ((k,n,s),()))).val=if(bif Q0 (((getD s i 0).toNat:Int)<32)then Q3 else Q0 (((getD s i 0).toNat:Int)>126))=Q3 then Q1 (.inr (.kb Q4,[]))else Q1 (.inl (.h2 ((i+1:Nat):Int) ((k,n,s),()))):=by
   show(rD (.h2 _ _)).val=_;unfold rD;simp only[Q8,zH hi,zt hi,aK,if_true];rw[if_pos (by cases Q0 (((getD s i 0).toNat:Int)<32)<;>rfl)];rw[zp i um]
  by_cases h1:(getD s i 0).toNat<32
  ·refine .inr ⟨λh=>by omega,_,zT.of (by rw[hv,if_pos (by rw[zu ow];rfl)]),rfl⟩
  ·by_cases h2:126<(getD s i 0).toNat
   ·refine .inr ⟨λh=>by omega,_,zT.of (by rw[hv,if_pos (by rw[aj ow,zu ow];rfl)]),rfl⟩
   ·refine .inl ⟨ow,zP.of (by rw[hv,if_neg (by rw[aj ow,aj ow];simp)])⟩)
 have hi:(YR (k,n,s)).val=Q1 (.inl (.h2 ((0:Nat):Int) ((k,n,s),()))):=rfl;have ho:=O3 s;have hq:=aq (l:=s) (d:=0) (Q:=λb=>32<=b.toNat/\b.toNat<=126);rcases hf with⟨h1,h2⟩|⟨h1,r,h2,rfl⟩
 ·have ho2:Q0 (o5 s<0)=Q3:=zu (ho.2 (hq.1 h1));have hv:(rD (.h2 (s.length:Int) ((k,n,s),()))).val=(if(k==0)=Q3 then Q1 (.inr (.bool (bif (n==0)then(s==[])else Q4),[]))else if(k==1)=Q3 then Q1 (.inr (.bool (s==[]),[]))else if(k==2)=Q3 then Q1 (.inr (.bool (bif (n==0)then Q0 ((length s:Int)<=40)else Q4),[]))else if(k==3)=Q3 then Q1 (.inr (.bool (bif (n==0)then(s==[])else bif (n==1)then(s==[])else Q4),[]))else Q1 (.inr (.kb Q4,[]))):=by
   show(rD (.h2 _ _)).val=_;unfold rD;simp only[Q8,zA];rw[if_neg sw]
  obtain⟨r,hr1,hr2⟩:=Wy (k==0) (k==1) (k==2) (k==3) (n==0) (n==1) (s==[]) (Q0 ((length s:Int)<=40));have hm:aW (k,n,s)=(if(k==0)=Q3 then if(!(n==0))=Q3 then Q4 else(s==[])else if(k==1)=Q3 then(s==[])else if(k==2)=Q3 then bif (n==0)then bif Q0 ((length s:Int)<=40)then Q3 else Q4 else Q4 else if(k==3)=Q3 then bif (n==0)then(s==[])else bif (n==1)then(s==[])else Q4 else Q4):=by
   simp only[aW,ho2];rfl
  rw[hm];exact zw hi (h2.ends (zT.of (hv.trans hr1))) ow hr2
 ·have ho2:Q0 (o5 s<0)=Q4:=aj (λh=>h1 (hq.2 (ho.1 h)));have hs:(s==[])=Q4:=by
   cases s with
   |nil=>exact absurd (λi hi=>absurd hi sw) h1
   |cons _ _=>rfl
  have hm:aW (k,n,s)=Q4:=by
   simp only[aW,ho2,hs];exact Wx (k==0) (k==1) (k==2) (k==3) (n==0) (n==1) (Q0 ((length s:Int)<=40))
  rw[hm];exact zw hi h2 ow rfl
theorem kL{v:Sem ze}(hl:v.2.2.length<=1000000):lP v=Q3:=by unfold lP;rw[Ji hl];rfl
theorem nl{v:Sem ze}(hl:v.2.2.length<=1000000):rB v=aW v:=by unfold rB;rw[Ji hl];rfl
theorem ET{v:Sem ze}(hl:v.2.2.length<=1000000):t7 v=Q1 (ap v,()):=by
 unfold t7 ao cX;simp only[YT,Q8,kL hl,nl hl,if_true,ap];cases aW v<;>rfl
theorem qm{v:Sem ze}(hl:v.2.2.length<=1000000):ql v=Q3:=by unfold ql;rw[ET hl];rfl
theorem ua{v:Sem ze}(hl:v.2.2.length<=1000000):eV v=ap v:=by unfold eV;rw[ET hl];rfl
def wF(b:Bool):Sem ze:=if b then(3,1,[])else(3,0,[])
theorem BU(b:Bool):tZ b=Q1 (wF b,()):=by cases b<;>rfl
theorem np(b:Bool):kM b=Q3:=by unfold kM;rw[BU];rfl
theorem gY(b:Bool):aU b=wF b:=by unfold aU;rw[BU];rfl
def Hv(v:Sem ze)(n:Int):Bool:=v.1==3&&(v.2.1==n&&(v.2.2==[]&&Q3))
theorem Ni(v:Sem ze)(b:Bool):Jh v b=Q1 (Hv v (bif b then 1 else 0),()):=by
 unfold Jh ao cX;simp only[YS,Q8,np,gY,if_true];cases b<;>rfl
theorem yp(v:Sem ze)(b:Bool):mq v b=Q3:=by unfold mq;rw[Ni];rfl
theorem Gl(v:Sem ze)(b:Bool):pe v b=Hv v (bif b then 1 else 0):=by unfold pe;rw[Ni];rfl
theorem mI:aQ 0=(0,0,[]):=by decide
theorem kV:aQ 1=(3,0,[]):=by decide
theorem kW:aQ 2=(3,1,[]):=by decide
theorem jj(v:Sem ze):(dR v==1)=Hv v 0/\(dR v==2)=Hv v 1:=by
 obtain⟨k,n,s⟩:=v;unfold dR Hv;simp only[aW];by_cases hk:k=3
 ·subst hk;by_cases h0:n=0
  ·subst h0;cases hs:(s==[])<;>simp[fR]
  ·by_cases h1:n=1
   ·subst h1;cases hs:(s==[])<;>simp[fR]
   ·have e0:(n==0)=Q4:=by simpa using h0
    have e1:(n==1)=Q4:=by simpa using h1
    simp[e0,e1]
 ·have e:(k==3)=Q4:=by simpa using hk
  have e':(k !=3)=Q3:=by simpa using hk
  simp[e,e']
theorem Jg(a b:Sem ze):BN a b=Q1 (Dq a b,()):=by
 unfold BN ao cX;simp only[YZ,Q8,yp,Gl,gY,Dq,(jj a).1,(jj a).2,(jj b).1,(jj b).2,mI,kV,kW,ay,ah];cases Hv a 0<;>cases Hv b 0<;>cases Hv a 1<;>cases Hv b 1<;>rfl
theorem Nk(a b:Sem ze):Jk a b=Q1 (Uz a b,()):=by
 unfold Jk ao cX;simp only[Y0,Q8,yp,Gl,gY,Uz,(jj a).1,(jj a).2,(jj b).1,(jj b).2,mI,kV,kW,ay,ah];cases Hv a 0<;>cases Hv b 0<;>cases Hv a 1<;>cases Hv b 1<;>rfl
theorem Jj(a:Sem ze):BQ a=Q1 (xQ a,()):=by
 unfold BQ ao cX;simp only[YY,Q8,yp,Gl,gY,xQ,(jj a).1,(jj a).2,mI,kV,kW,ay,ah];cases Hv a 0<;>cases Hv a 1<;>rfl
theorem SB(k k' n n':Int)(s s':zB):(if(k==k'&&(n==n'&&(s==s'&&Q3)))=Q3 then(0:Int)else if(bif Q0 (k<k')then Q3 else bif k==k' then bif Q0 (n<n')then Q3 else bif n==n' then Op.bytesLess s s' else Q4 else Q4)=Q3 then -1 else 1)=Ga [rS k k',kq n n',oe s s']:=by
 simp only[Ga,rS,kq,oe];rcases Am k k' with h|h|h
 ·have c1:(k==k')=Q4:=bU.2 ow;simp[c1,h]
 ·subst h;rcases Am n n' with h|h|h
  ·have c1:(n==n')=Q4:=bU.2 ow;simp[c1,h]
  ·subst h;by_cases hs:s=s'
   ·subst hs;simp[bL]
   ·have c1:(s==s')=Q4:=bU.2 hs;by_cases hl:Op.bytesLess s s'=Q3
    ·simp[c1,hl]
    ·simp[c1,hl]
  ·have c1:(n==n')=Q4:=bU.2 ow;have c2:¬n<n':=by omega
   simp[c1,c2,h]
 ·have c1:(k==k')=Q4:=bU.2 ow;have c2:¬k<k':=by omega
  simp[c1,c2,h]
theorem BS{a b:Sem ze}(ha:a.2.2.length<=1000000)(hb:b.2.2.length<=1000000):pg a b=Q1 (cO a b,()):=by
 unfold pg ao cX;simp only[zhx,Q8,qm ha,qm hb,ua ha,ua hb,if_true,cO];rw[<-SB];generalize((ap a).1==(ap b).1&&((ap a).2.1==(ap b).2.1&&((ap a).2.2==(ap b).2.2&&Q3)))=b1;generalize(bif Q0 ((ap a).1<(ap b).1)then Q3 else bif (ap a).1==(ap b).1 then bif Q0 ((ap a).2.1<(ap b).2.1)then Q3 else bif (ap a).2.1==(ap b).2.1 then Op.bytesLess (ap a).2.2 (ap b).2.2 else Q4 else Q4)=b2;cases b1<;>cases b2<;>rfl
theorem zO{α:Type}(l:List α)(d:α){i:Nat}(h:i<l.length):l.getD ((i:Int).toNat) d=l[i]:=by
 rw[aK,bd,zS h,du]
theorem tv{α:Type}(l:List α)(d:α){i:Nat}(h:i<l.length):l.getD i d∈l:=by
 rw[bd,zS h,du];exact bu h
def bJ(f w:zB):List zB:=if(w==[])=Q3 then[f]else[f,w]
def dN(db:List (Sem zh))(ns:List zB):Bool:=db.any λx=>!aA ns x.1.1&&Q0 (GE.ge (α:=Int) (zU (λf:Sem zr=>aA ns f.2) x.1.t.1 0) 0)
def nG(db:List (Sem zh))(f w t:zB):Int:=
 if∀n∈bJ f w,LE.le (α:=Int) 0 (zV db n)then(if(Q0 (GE.ge (α:=Int) (zV db t) 0)||f==w)=Q3 then 7 else if dN db (bJ f w)=Q3 then 10 else 0)else 6
def Yn(y:zn bf)(y':zn bf):Prop:=
 (0:Int)<=zV y.1 y.t.2.1/\(y.t.q.1=[]\/(0:Int)<=zV y.1 y.t.q.1)/\LT.lt (α:=Int) (zV y.1 y.2.1.2.1) 0/\y.t.2.1≠y.t.q.1/\
 y'.2.2.1=(getD y.1 (toNat (zV y.1 y.t.2.1)) (zi zh)).1/\
 y'.2.2.2.1=(if y.t.q.1=[]then y.2.2.2.1 else(getD y.1 (toNat (zV y.1 y.t.q.1)) (zi zh)).1)
def Vz(y:zn bf)(r:ar):Prop:=∃(e:Int)(y':zn bf),r=(.int .i64 e,au bf y')/\y'.1=y.1/\y'.2.1=y.2.1/\y'.t=y.t/\e=nG y.1 y.t.2.1 y.t.q.1 y.2.1.2.1/\(e=0->Yn y y')
theorem zjS(y:zn bf)(ns:List zB)(hl:length y.1<=1000000)(h1:(0:Int)<=zV y.1 y.t.2.1)(h2:y.t.q.1=[]\/(0:Int)<=zV y.1 y.t.q.1)(h3:LT.lt (α:=Int) (zV y.1 y.2.1.2.1) 0)(h4:y.t.2.1≠y.t.q.1)(hE:nG y.1 y.t.2.1 y.t.q.1 y.2.1.2.1=if dN y.1 ns=Q3 then 10 else 0)(n:Nat)(hn:1+length y.1<=n):
  ∃r,cU CL n (.h11 y.1 (length y.1:Int) 0 y ns)=Q1 r/\Vz y r:=by
 refine di (t:=CL) (β:=Unit) (length y.1) (λ_ i=>.h11 y.1 (length y.1:Int) (i:Int) y ns) (λ_ i=>∀j(hj:j<length y.1),j<i->(!aA ns y.1[j].1.1&&Q0 (GE.ge (α:=Int) (zU (λf:Sem zr=>aA ns f.2) y.1[j].1.t.1 0) 0))=Q4) (Vz y) 1 ?_ ?_ (length y.1) 0 () n rfl (aZ _) (λj _ h=>by omega) hn
 ·intro b i hi hI;simp only[CL,Hd,CM,Q8,zH hi,zt hi,if_true,zO y.1 _ hi];rw[zp i um];have hnext:(!aA ns y.1[i].1.1&&Q0 (GE.ge (α:=Int) (zU (λf:Sem zr=>aA ns f.2) y.1[i].1.t.1 0) 0))=Q4->∀j(hj:j<length y.1),j<i+1->(!aA ns y.1[j].1.1&&Q0 (GE.ge (α:=Int) (zU (λf:Sem zr=>aA ns f.2) y.1[j].1.t.1 0) 0))=Q4:=by
   intro h j hj hji;by_cases hji2:j=i
   ·subst hji2;exact h
   ·exact hI j hj ow
  by_cases c1:(!aA ns y.1[i].1.1)=Q3
  ·simp only[c1,if_true];split
   ·rename_i c2;refine Or.inr ⟨_,rfl,10,y,rfl,rfl,rfl,rfl,?_,λh=>by cases h⟩;have hr:dN y.1 ns=Q3:=by
     unfold dN;exact List.any_eq_true.2 ⟨y.1[i],bu hi,by rw[c1];simpa using c2⟩
    rw[hE,if_pos hr]
   ·rename_i c2;exact Or.inl ⟨(),hnext (by rw[c1];simpa using c2),rfl⟩
  ·simp only[c1];exact Or.inl ⟨(),hnext (by simp only[gq]at c1;rw[c1];rfl),rfl⟩
 ·intro b n hI hn;have hr:dN y.1 ns=Q4:=by
   unfold dN;rw[List.any_eq_false];intro x hx;obtain⟨j,hj,rfl⟩:=gn hx;rw[hI j hj hj];simp
  rw[hr]at hE
  replace hE:=hE.symm
  simp only[zE,if_false]at hE;obtain⟨n,rfl⟩:∃k,n=k+1:=⟨n-1,ow⟩;rw[cD];simp only[CL,Hd,CM,Q8,zA,dv h1,if_true];by_cases c1:(!y.t.q.1==[])=Q3
  ·have hne:y.t.q.1≠[]:=by simpa using c1
   have hb:(0:Int)<=zV y.1 y.t.q.1:=h2.resolve_left hne;simp only[c1,if_true,dv hb];refine⟨_,rfl,0,_,rfl,rfl,rfl,rfl,hE,λ_=>⟨h1,h2,h3,h4,rfl,?_⟩⟩;simp[hne]
  ·have he:y.t.q.1=[]:=by simpa using c1
   simp only[c1];refine⟨_,rfl,0,_,rfl,rfl,rfl,rfl,hE,λ_=>⟨h1,h2,h3,h4,rfl,?_⟩⟩;simp[he]
theorem zmw(y:zn bf)(ns:List zB)(hns:ns=bJ y.t.2.1 y.t.q.1)(hl:length y.1<=1000000)(n:Nat)(hn:2+length y.1+ns.length<=n):
  ∃r,cU CL n (.h3 ns (length ns:Int) 0 y ns)=Q1 r/\Vz y r:=by
 have hnl:ns.length<=2:=by rw[hns];unfold bJ;split<;>simp
 refine di (t:=CL) (β:=Unit) ns.length (λ_ i=>.h3 ns (length ns:Int) (i:Int) y ns) (λ_ i=>∀j(hj:j<ns.length),j<i->(0:Int)<=zV y.1 ns[j]) (Vz y) (2+length y.1) ?_ ?_ ns.length 0 () n rfl (aZ _) (λj _ h=>by omega) hn
 ·intro b i hi hI;simp only[CL,LY,He,Q8,zH hi,zt hi,if_true,zO ns _ hi];rw[zp i um];by_cases c1:(0:Int)<=zV y.1 ns[i]
  ·have:Q0 (LT.lt (α:=Int) (zV y.1 ns[i]) 0)=Q4:=by simpa using c1
   simp only[this];refine Or.inl ⟨(),λj hj hji=>?_,rfl⟩;by_cases hji2:j=i
   ·subst hji2;exact c1
   ·exact hI j hj ow
  ·have:Q0 (LT.lt (α:=Int) (zV y.1 ns[i]) 0)=Q3:=by simpa using c1
   simp only[this,if_true];refine Or.inr ⟨_,rfl,6,y,rfl,rfl,rfl,rfl,?_,λh=>by cases h⟩;unfold nG;rw[if_neg];intro h;exact c1 (h _ (by rw[<-hns];exact bu hi))
 ·intro b n hI hn;obtain⟨n,rfl⟩:∃k,n=k+1:=⟨n-1,ow⟩;have hA:∀n∈bJ y.t.2.1 y.t.q.1,LE.le (α:=Int) 0 (zV y.1 n):=by
   intro x hx;rw[<-hns]at hx;obtain⟨j,hj,rfl⟩:=gn hx;exact hI j hj hj
  have hE:nG y.1 y.t.2.1 y.t.q.1 y.2.1.2.1=if(Q0 (GE.ge (α:=Int) (zV y.1 y.2.1.2.1) 0)||y.t.2.1==y.t.q.1)=Q3 then 7 else if dN y.1 ns=Q3 then 10 else 0:=by
   unfold nG;rw[if_pos hA,<-hns]
  have h1:(0:Int)<=zV y.1 y.t.2.1:=hA _ (by unfold bJ;split<;>simp);have h2:y.t.q.1=[]\/(0:Int)<=zV y.1 y.t.q.1:=by
   by_cases hw:(y.t.q.1==[])=Q3
   ·left;simpa using hw
   ·right;exact hA _ (by unfold bJ;rw[if_neg hw];simp)
  rw[cD];simp only[CL,LY,He,Q8,zA];by_cases c1:(bif Q0 (GE.ge (α:=Int) (zV y.1 y.2.1.2.1) 0)then Q3 else y.t.2.1==y.t.q.1)=Q3
  ·simp only[c1,if_true];refine⟨_,rfl,7,y,rfl,rfl,rfl,rfl,?_,λh=>by cases h⟩;rw[hE,if_pos (by revert c1;cases Q0 (GE.ge (α:=Int) (zV y.1 y.2.1.2.1) 0)<;>exact id)]
  ·simp only[c1];have hd:Q0 (GE.ge (α:=Int) (zV y.1 y.2.1.2.1) 0)=Q4:=by
    cases hh:Q0 (GE.ge (α:=Int) (zV y.1 y.2.1.2.1) 0)with
    |false=>rfl
    |true=>rw[hh]at c1;simp at c1
   rw[hd]at c1;refine zjS y ns hl h1 h2 (by simpa using hd) (by simpa using c1) ?_ n ow;rw[hE,hd,if_neg (by simpa using c1)]
theorem IZ(y:zn bf)(hl:length y.1<=1000000):∃(e:Int)(y':zn bf),pY y=Q1 ((e,()),y')/\y'.1=y.1/\y'.2.1=y.2.1/\y'.t=y.t/\e=nG y.1 y.t.2.1 y.t.q.1 y.2.1.2.1/\(e=0->Yn y y'):=by
 have hps:kJ (y.t.1,y.t.2.1,y.t.q.1,(y.t.q.2.1,[],y.t.t.1,[],[],zm y.t.t.2.1),[],y.t.t.q.1)=bJ y.t.2.1 y.t.q.1:=rfl;obtain⟨r,h1,e,y',rfl,h2⟩:=zmw y _ hps hl 100000000 (by
  have:length (kJ (y.t.1,y.t.2.1,y.t.q.1,(y.t.q.2.1,[],y.t.t.1,[],[],zm y.t.t.2.1),[],y.t.t.q.1))<=2:=by rw[hps];unfold bJ;split<;>simp
  omega)
 refine⟨e,y',?_,h2⟩;unfold pY kI cX;simp only[Wg,Q8];rw[h1];exact cT (outs:=[zg]) (r:=.int .i64 e) (a:=(e,())) y' rfl
theorem wE{i n:Nat}(h:i<n):Q0 ((i:Int).toNat<n)=Q3:=by simpa using h
def uM(t:Sem zo):Int:=
 if∃i,i<length t.2.1/\zQ t (getD t.2.1 i (zi zj)).1≠(i:Int)then 7 else if(t.t.2.op==[])=Q3 then 0
 else if(bif (bG t.t.2 t.2.1).2==0 then bif (bG t.t.2 t.2.1).1!=3 then(bG t.t.2 t.2.1).1!=0 else Q4 else Q4)=Q3 then 5 else(bG t.t.2 t.2.1).2
abbrev NH(y:zn al):Sem zo:=(y.t.q.2.1,y.t.t.1,y.t.t.2.1,[],[],y.t.t.q.1)
theorem sA(y:zn al)(hl:y.t.t.1.length<=1000000):tK y=Q1 ((uM (NH y),()),y):=by
 have h:=di (t:=JX) (β:=Unit) y.t.t.1.length (λ_ i=>.h2 (y.t.t.1.length:Int) (i:Int) y) (λ_ i=>∀j,j<i->j<length y.t.t.1->zQ (NH y) (getD y.t.t.1 j (zi zj)).1=(j:Int)) (λr=>r=(.int .i64 (uM (NH y)),au al y)) 1 (by
   intro b i hi hI;simp only[JX,LZ,Hf,Q8,zH hi,zt hi,zu hi,if_true,zk,aK];rw[zp i um];by_cases c:(zQ (NH y) (getD y.t.t.1 i (zi zj)).1!=(i:Int))=Q3
   ·simp only[c,if_true];refine Or.inr ⟨_,rfl,?_⟩;unfold uM;rw[if_pos ⟨i,hi,by simpa using c⟩]
   ·simp only[c];refine Or.inl ⟨(),λj hj hl=>?_,rfl⟩;by_cases h:j=i
    ·subst h;simpa using c
    ·exact hI j ow hl) (by
   intro b n hI hn;obtain⟨n,rfl⟩:∃k,n=k+1:=⟨n-1,ow⟩;have h0:¬∃i,i<length (NH y).2.1/\zQ (NH y) (getD (NH y).2.1 i (zi zj)).1≠(i:Int):=by
    rintro⟨i,hi,h⟩;exact h (hI i hi hi)
   have hv:(JX (.h2 (y.t.t.1.length:Int) (y.t.t.1.length:Int) y)).val=Q1 (.inr (.int .i64 (uM (NH y)),au al y)):=by
    simp only[JX,LZ,Hf,Q8,zA,zk];unfold uM;rw[if_neg h0];split
    ·simp_all
    ·split
     ·rfl
     ·split<;>rfl
   rw[cD,hv];exact⟨_,rfl,rfl⟩)
  y.t.t.1.length 0 () 100000000 rfl (aZ _) (λj h=>by omega) ow
 obtain⟨r,h1,rfl⟩:=h;unfold tK kI cX;simp only[Wh,Q8];have h1':cU JX 100000000 (.h2 (y.t.t.1.length:Int) 0 y)=Q1 (.int .i64 (uM (NH y)),au al y):=h1;rw[h1'];exact cT (outs:=[zg]) (r:=.int .i64 (uM (NH y))) (a:=(uM (NH y),())) y rfl
theorem uK(t:Sem zo)(s:zB):zQ t s=(-1:Int)\/((0:Int)<=zQ t s/\LT.lt (α:=Int) (zQ t s) (length t.2.1)):=by
 have:=fH (λc:Sem zj=>c.1==s) t.2.1 0;unfold zQ;simpa using this
theorem pV{t:Sem zo}{s:zB}(h:¬LT.lt (α:=Int) (zQ t s) 0):zN (zQ t s) (length t.2.1)=Q3:=by
 rcases uK t s with h1|⟨h1,h2⟩
 ·rw[h1]at h;simp at h
 ·simp only[zN,aD,aO];exact⟨h1,h2⟩
theorem xp(x:Int):∀(l:List Int)(i:Nat),GE.ge (α:=Int) (eE x l (i:Int)) 0↔x∈l
 | [],i=>by
  rw[eE];exact⟨λh=>absurd h (by decide),λh=>by cases h⟩
 | a::r,i=>by
  rw[eE];split
  ·rename_i h;have:x=a:=by simpa using h
   subst this;exact⟨λ_=>wO,λ_=>Int.natCast_nonneg i⟩
  ·rename_i h;have:=xp x r (i+1);rw[sT]at this;rw[cm];refine⟨λh2=>.inr (this.1 h2),λh2=>this.2 (h2.resolve_left ?_)⟩;rintro rfl;simp at h
theorem sq(l:List Int)(x:Int):sm l x=Q3↔x∈l:=by
 unfold sm;rw[HS];exact xp x l 0
def fZ(t:Sem zo)(names:List zB):Int:=if∀s∈names,¬LT.lt (α:=Int) (zQ t s) 0 then(if(names.map (zQ t)).Nodup then 0 else 7)else 4
theorem BB{l:List Int}{x:Int}:(l++[x]).Nodup↔l.Nodup/\x∉l:=by
 rw[List.nodup_append];simp;intro _;exact⟨λh h2=>h x h2 rfl,λh y hy e=>h (e▸hy)⟩
theorem cj{α:Type}{l:List α}{i:Nat}(h:i<l.length):l.take (i+1)=l.take i++[l[i]]:=by
 rw[List.take_add_one,zS h];rfl
def Ki(y:zn bf)(z:zn dI):Prop:=z.1=y.1/\z.2.1=y.2.1/\z.2.2.1=y.2.2.1/\z.2.2.2.1=y.2.2.2.1/\z.t.1=y.t.1/\z.t.2.1=y.t.2.1/\z.t.q.1=y.t.q.1/\z.t.q.2.1=y.t.q.2.1/\
 z.t.t.2.1=y.t.t.1/\z.t.t.q.1=y.t.t.2.1/\z.t.t.t=y.t.t.q
abbrev fY(z:zn dI):List (Sem zj):=z.t.t.1
abbrev eU(z:zn dI):List (Sem zg):=z.t.t.q.2.1
def NmI(y:zn bf)(l:List zB)(z:zn dI):Prop:=Ki y z/\eU z=l.map (λs=>zQ y.2.2.1 s)/\fY z=l.map (λs=>getD y.2.2.1.2.1 (toNat (zQ y.2.2.1 s)) (zi zj))/\∀s∈l,¬LT.lt (α:=Int) (zQ y.2.2.1 s) 0
def NmR(y:zn bf)(r:ar):Prop:=∃(e:Int)(z:zn dI),r=(.int .i64 e,au al z)/\Ki y z/\e=fZ y.2.2.1 y.2.1.2.2.2.1/\(e=0->NmI y y.2.1.2.2.2.1 z)/\(fY z).length<=1000000
theorem ziw(y:zn bf)(z:zn dI)(hz:NmI y y.2.1.2.2.2.1 z)(hE:fZ y.2.2.1 y.2.1.2.2.2.1=if(eU z).Nodup then 0 else 7)(hl:(eU z).length<=1000000)(m:Nat):∀(i n:Nat),(eU z).length-i=m->i<=(eU z).length->((eU z).take i).Nodup->1+m<=n->∃r,cU pu n (.h12b ((eU z).length:Int) (i:Int) z)=Q1 r/\NmR y r:=by
 intro i n hm hi hnd hn;have hcl:(fY z).length<=1000000:=by
  have:=hl;rw[hz.2.1,da]at this;rw[hz.2.2.1,da];exact this
 refine di (t:=pu) (β:=Unit) (eU z).length (λ_ i=>.h12b ((eU z).length:Int) (i:Int) z) (λ_ i=>((eU z).take i).Nodup) (NmR y) 1 ?_ ?_ m i () n hm hi hnd hn
 ·intro b i hi hI;have hd:(Q0 (0<=0)&&Q0 ((0:Int)<=(i:Int))&&Q0 ((i:Int)<=((eU z).length:Int)))=Q3:=by simp;omega
  simp only[pu,CO,wD,Q8,zH hi,zt hi,if_true,hd];rw[zp i um];rw[show List.take (toNat (i:Int)-toNat 0) (List.drop (toNat 0) z.t.t.q.2.1)=(eU z).take i by simp,show z.t.t.q.2.1.getD (toNat (i:Int)) (zi zg)=(eU z)[i]from zO (eU z) _ hi];split
  ·rename_i c;refine Or.inr ⟨_,rfl,7,z,rfl,hz.1,?_,λh=>(by cases h),hcl⟩;rw[hE,if_neg];intro hN;have h2:((eU z).take (i+1)).Nodup:=hN.sublist (List.take_sublist _ _);rw[cj hi,BB]at h2;exact h2.2 ((sq _ _).1 c)
  ·rename_i c;refine Or.inl ⟨(),?_,rfl⟩;show((eU z).take (i+1)).Nodup;rw[cj hi,BB];exact⟨hI,λh=>c ((sq _ _).2 h)⟩
 ·intro b n hI hn;rw[jN]at hI;obtain⟨n,rfl⟩:∃k,n=k+1:=⟨n-1,ow⟩;rw[cD];simp only[pu,CO,wD,Q8,zA];exact⟨_,rfl,0,z,rfl,hz.1,by rw[hE,if_pos hI],λ_=>hz,hcl⟩
theorem zmo(y:zn bf)(z:zn dI)(hz:NmI y y.2.1.2.2.2.1 z)(hE:fZ y.2.2.1 y.2.1.2.2.2.1=if(eU z).Nodup then 0 else 7)(hl:(eU z).length<=1000000)(n:Nat)(hn:2+(eU z).length<=n):∃r,cU pu n (.h12 ((eU z).length:Int) 0 z)=Q1 r/\NmR y r:=by
 have hcl:(fY z).length<=1000000:=by
  have:=hl;rw[hz.2.1,da]at this;rw[hz.2.2.1,da];exact this
 obtain⟨n,rfl⟩:∃k,n=k+1:=⟨n-1,ow⟩;rw[cD];by_cases h:0<(eU z).length
 ·have hd:(Q0 (0<=0)&&Q0 ((0:Int)<=((0:Nat):Int))&&Q0 (((0:Nat):Int)<=((eU z).length:Int)))=Q3:=by simp
  have hv:(∃r,(pu (.h12 ((eU z).length:Int) ((0:Nat):Int) z)).val=Q1 (.inr r)/\NmR y r)\/(pu (.h12 ((eU z).length:Int) ((0:Nat):Int) z)).val=Q1 (.inl (.h12b ((eU z).length:Int) ((1:Nat):Int) z)):=by
   simp only[pu,Hh,CQ,Q8,zH h,zt h,wE h,if_true,hd];rw[zp 0 um];split
   ·rename_i c;exact absurd ((sq _ _).1 c) sw
   ·exact Or.inr rfl
  rw[Int.ofNat_zero]at hv;rcases hv with⟨r,h1,h2⟩|h1
  ·rw[h1];exact⟨r,rfl,h2⟩
  ·rw[h1];exact ziw y z hz hE hl _ 1 n rfl ow (by rw[cj h];simp) ow
 ·have h0:(eU z).length=0:=by omega
  have hv:(pu (.h12 ((eU z).length:Int) 0 z)).val=Q1 (.inr (.int .i64 0,au al z)):=by
   rw[h0];simp[pu,Hh,CQ,Q8]
  rw[hv];exact⟨_,rfl,0,z,rfl,hz.1,by rw[hE,if_pos (by rw[xI h0];exact List.nodup_nil)],λ_=>hz,hcl⟩
theorem nm3(y:zn bf)(z:zn dI)(hz:NmI y [] z)(hl:y.2.1.2.2.2.1.length<=1000000)(n:Nat)(hn:3+y.2.1.2.2.2.1.length+y.2.1.2.2.2.1.length<=n):∃r,cU pu n (.h3 y.2.1.2.2.2.1 (y.2.1.2.2.2.1.length:Int) 0 z)=Q1 r/\NmR y r:=by
 refine di (t:=pu) (β:=zn dI) y.2.1.2.2.2.1.length (λz i=>.h3 y.2.1.2.2.2.1 (y.2.1.2.2.2.1.length:Int) (i:Int) z) (λz i=>NmI y (y.2.1.2.2.2.1.take i) z) (NmR y) (3+y.2.1.2.2.2.1.length) ?_ ?_ y.2.1.2.2.2.1.length 0 z n rfl (aZ _) (by simpa using hz) hn
 ·intro z i hi hI;obtain⟨hk,hx,hc,hp⟩:=hI;have hkl:(eU z).length<=1000000:=by rw[hx,da,oA];omega
  have hcl:(fY z).length<=1000000:=by rw[hc,da,oA];omega
  have e3:z.2.2.1=y.2.2.1:=hk.2.2.1;simp only[pu,L2,Hi,Q8,zH hi,zt hi,if_true,zO _ _ hi,zk,Prod.eta];rw[zp i um];by_cases c1:LT.lt (α:=Int) (zQ z.2.2.1 y.2.1.2.2.2.1[i]) 0
  ·simp only[zu c1,if_true];refine Or.inr ⟨_,rfl,4,z,rfl,hk,?_,λh=>(by cases h),hcl⟩;unfold fZ;rw[if_neg];intro h;exact h _ (bu hi) (by rw[<-e3];exact c1)
  ·simp only[aj c1,pV c1];refine Or.inl ⟨(z.1,z.2.1,z.2.2.1,z.2.2.2.1,z.t.1,z.t.2.1,z.t.q.1,z.t.q.2.1,z.t.t.1++[getD z.2.2.1.2.1 (toNat (zQ z.2.2.1 y.2.1.2.2.2.1[i])) (zi zj)],z.t.t.2.1,z.t.t.q.1,z.t.t.q.2.1++[zQ z.2.2.1 y.2.1.2.2.2.1[i]],z.t.t.t),⟨hk,?_,?_,?_⟩,?_⟩;rotate_left 3
   ·rw[if_neg sw,if_pos (by have:z.t.t.q.2.1.length<=1000000:=hkl;simp;omega),if_pos trivial,if_pos (by have:z.t.t.1.length<=1000000:=hcl;simp;omega)]
   ·show eU z++[zQ z.2.2.1 y.2.1.2.2.2.1[i]]=_;rw[hx,e3,cj hi,iI];rfl
   ·show fY z++[getD z.2.2.1.2.1 (toNat (zQ z.2.2.1 y.2.1.2.2.2.1[i])) (zi zj)]=_;rw[hc,e3,cj hi,iI];rfl
   ·intro s hs;rw[cj hi,cP]at hs;rcases hs with hs|hs
    ·exact hp s hs
    ·rw[gp]at hs;rw[hs,<-e3];exact c1
 ·intro z n hI hn;obtain⟨n,rfl⟩:∃k,n=k+1:=⟨n-1,ow⟩;rw[jN]at hI;have hkl:(eU z).length=y.2.1.2.2.2.1.length:=by rw[hI.2.1,da]
  rw[cD];simp only[pu,L2,Hi,Q8,zA];have hn2:2+(eU z).length<=n:=by rw[hkl];omega
  refine zmo y z hI ?_ ow n hn2;unfold fZ;rw[if_pos hI.2.2.2,hI.2.1]
theorem EG(y:zn bf)(hl:y.2.1.2.2.2.1.length<=1000000):∃(e:Int)(z:zn dI),yn y=Q1 ((e,()),z)/\Ki y z/\e=fZ y.2.2.1 y.2.1.2.2.2.1/\(e=0->NmI y y.2.1.2.2.2.1 z)/\(fY z).length<=1000000:=by
 obtain⟨r,h1,e,z,rfl,h2⟩:=nm3 y (y.1,y.2.1,y.2.2.1,y.2.2.2.1,y.t.1,y.t.2.1,y.t.q.1,y.t.q.2.1,[],y.t.t.1,y.t.t.2.1,[],y.t.t.q)
  ⟨⟨rfl,rfl,rfl,rfl,rfl,rfl,rfl,rfl,rfl,rfl,rfl⟩,rfl,rfl,sw⟩ hl 100000000 ow
 refine⟨e,z,?_,h2⟩;unfold yn kI cX;simp only[Wm,Q8];rw[h1];exact cT (outs:=[zg]) (r:=.int .i64 e) (a:=(e,())) (ps:=al) z rfl
theorem YP(y:zn bf):OF y=y:=by
 unfold OF;rw[zk,zk,zk,zk,zk]
def mL(y:zn bf)(z:zn al):Prop:=z.1=y.1/\z.2.1=y.2.1/\z.2.2.1=y.2.2.1/\z.2.2.2.1=y.2.2.2.1/\z.t.1=y.t.1/\z.t.2.1=y.t.2.1/\z.t.q.1=y.t.q.1/\z.t.q.2.1=y.t.q.2.1
structure Dt (z:zn al) (cols:List (Sem zj)) (key:Int) (ix:List Int) (on:Int):Prop where
 cols:z.t.t.1=cols
 key:z.t.t.2.1=key
 ix:z.t.t.q.2.1=ix
 on:z.t.t.t.1=on
def gr(t:Sem zo)(names:List zB):List (Sem zj):=names.map λs=>getD t.2.1 (toNat (zQ t s)) (zi zj)
def kG(t:Sem zo)(names:List zB):List Int:=names.map (zQ t)
def ve(t:Sem zo)(names:List zB):Int:=if fZ t names=0 then(if LT.lt (α:=Int) (gV (kG t names) t.2.2.1) 0 then 1 else 0)else fZ t names
def sj(t:Sem zo)(names:List zB):Int:=if fZ t names=0 then(if((gr t names).getD 1 (zi zj)).2.1=(1:Int)then 0 else 5)else fZ t names
def Di(t:Sem zo)(names:List zB):List (Sem zj):=
 [(((gr t names).getD 0 (zi zj)).1,((gr t names).getD 0 (zi zj)).2.1,Q3),(((gr t names).getD 1 (zi zj)).1,((gr t names).getD 1 (zi zj)).2.1,Q4)]
def gW(t u:Sem zo)(k w:zB):Int:=
 if LT.lt (α:=Int) (zQ t k) 0 then 4 else if jH t.t.1 (zQ t k,w)=Q3 then(if LT.lt (α:=Int) 9 ((length t.2.1:Int)+(length u.2.1:Int))then 13 else 0)else 10
def Gb(k:Int)(n:Nat):List Nat:=(List.range n).filter λj=>(j:Int)!=k
def jV(k:Int)(n:Nat):List Int:=(Gb k n).map λ(j:Nat)=>(j:Int)
def gv(u:Sem zo)(n:Nat):List (Sem zj):=(Gb u.2.2.1 n).map λj=>getD u.2.1 j (zi zj)
theorem zch(y:zn bf):RX y=RY y y (jK y) (gV (jK y).t.t.t.1 (jK y).2.2.2.1.2.2.1):=by
 unfold RX;rw[YP]
theorem SE(y:zn bf)(hl:y.2.1.2.2.2.1.length<=1000):∃z:zn al,F5 y=Q1 ((ve y.2.2.1 y.2.1.2.2.2.1,()),z)/\mL y z/\z.t.t.q.1=y.t.t.2.1/\
  (fY z).length<=1000000/\(ve y.2.2.1 y.2.1.2.2.2.1=0->Dt z (gr y.2.2.1 y.2.1.2.2.2.1) (gV (kG y.2.2.1 y.2.1.2.2.2.1) y.2.2.1.2.2.1) (kG y.2.2.1 y.2.1.2.2.2.1) y.t.t.q.1):=by
 obtain⟨e,z,h1,hk,he,h2,hlen⟩:=EG y ow;have hn:jK y=(e,z):=by unfold jK;rw[h1];rfl
 have hc:nf y=Q3:=by unfold nf;rw[h1];rfl
 have hkk:mL y z:=⟨hk.1,hk.2.1,hk.2.2.1,hk.2.2.2.1,hk.t.1,hk.t.2.1,hk.t.q.1,hk.t.q.2.1⟩;have hch:z.t.t.q.1=y.t.t.2.1:=hk.t.t.2.1;unfold F5 kI cX;rw[zch];simp only[RY,Q8,hn,hc,if_true];by_cases h0:e=0
 ·have hI:=h2 h0;have hE:ve y.2.2.1 y.2.1.2.2.2.1=if LT.lt (α:=Int) (gV (eU z) z.2.2.1.2.2.1) 0 then 1 else 0:=by
   unfold ve;rw[if_pos (he▸h0),hI.2.1,hk.2.2.1];rfl
  simp only[h0,iH,zE,if_false];by_cases hx:LT.lt (α:=Int) (gV (eU z) z.2.2.1.2.2.1) 0
  ·rw[if_pos hx]at hE;simp only[zu hx,if_true,hE];exact⟨_,cT (outs:=[zg]) (r:=.int .i64 1) (a:=(1,())) (ps:=al) _ rfl,hkk,hch,hlen,λh=>by cases h⟩
  ·rw[if_neg hx]at hE;simp only[aj hx,hE];refine⟨_,cT (outs:=[zg]) (r:=.int .i64 0) (a:=(0,())) (ps:=al) _ rfl,hkk,hch,hlen,λ_=>⟨hI.2.2.1,?_,hI.2.1,by rw[hk.t.t.q]⟩⟩;show gV (eU z) z.2.2.1.2.2.1=_;rw[hI.2.1,hk.2.2.1];rfl
 ·have hb:(e !=0)=Q3:=by simpa using h0
  have hE:ve y.2.2.1 y.2.1.2.2.2.1=e:=by
   unfold ve;rw[if_neg (he▸h0),he]
  simp only[hb,if_true,hE];exact⟨_,cT (outs:=[zg]) (r:=.int .i64 e) (a:=(e,())) (ps:=al) z rfl,hkk,hch,hlen,λh=>absurd h h0⟩
theorem zcj(y:zn bf):RZ y=(let a1:=jK y
  let a2:=a1.t.t.2.1.getD (toNat 1) (zi zj)
  let a3:=a1.t.t.2.1.getD (toNat 0) (zi zj)
  let a4:=a1.t.t.2.1.set (toNat 0) (a3.1,a3.2.1,Q3)
  let a5:=a4.getD (toNat 1) (zi zj)
  R0 y y a1 a2 a3 a4 a5):=by
 unfold RZ;rw[YP]
theorem OY(y:zn bf)(hl:y.2.1.2.2.2.1.length=2):∃z:zn al,ym y=Q1 ((sj y.2.2.1 y.2.1.2.2.2.1,()),z)/\mL y z/\z.t.t.q.1=y.t.t.2.1/\
  (fY z).length<=1000000/\(sj y.2.2.1 y.2.1.2.2.2.1=0->Dt z (Di y.2.2.1 y.2.1.2.2.2.1) y.t.t.1 (kG y.2.2.1 y.2.1.2.2.2.1) y.t.t.q.1):=by
 obtain⟨e,z,h1,hk,he,h2,hlen0⟩:=EG y ow;have hn:jK y=(e,z):=by unfold jK;rw[h1];rfl
 have hc:nf y=Q3:=by unfold nf;rw[h1];rfl
 have hkk:mL y z:=⟨hk.1,hk.2.1,hk.2.2.1,hk.2.2.2.1,hk.t.1,hk.t.2.1,hk.t.q.1,hk.t.q.2.1⟩;have hch:z.t.t.q.1=y.t.t.2.1:=hk.t.t.2.1;have hkey:z.t.t.2.1=y.t.t.1:=hk.t.t.1;have hon:z.t.t.t.1=y.t.t.q.1:=by rw[hk.t.t.q]
 unfold ym kI cX;rw[zcj];simp only[R0,hn];by_cases h0:e=0
 ·have hI:=h2 h0;have hlen:(fY z).length=2:=by rw[hI.2.2.1,da];exact hl
  have hcols:fY z=gr y.2.2.1 y.2.1.2.2.2.1:=hI.2.2.1;have hix:eU z=kG y.2.2.1 y.2.1.2.2.2.1:=hI.2.1;have hE:sj y.2.2.1 y.2.1.2.2.2.1=if((gr y.2.2.1 y.2.1.2.2.2.1).getD 1 (zi zj)).2.1=(1:Int)then 0 else 5:=by
   unfold sj;rw[if_pos (he▸h0)]
  obtain⟨z0,z1,z2,z3,z4,z5,z6,z7,cols,z9⟩:=z;obtain⟨c0,c1,rfl⟩:∃c0 c1,cols=[c0,c1]:=by
   match cols,hlen with
   |[c0,c1],_=>exact⟨c0,c1,rfl⟩
  have hcols:[c0,c1]=gr y.2.2.1 y.2.1.2.2.2.1:=hcols;unfold Di;rw[<-hcols]at hE⊢;simp only[Q8,hc,if_true,h0,iH,zE,if_false];have e1:zN 1 (length [c0,c1])=Q3:=rfl;have e0:zN 0 (length [c0,c1])=Q3:=rfl;by_cases hty:c1.2.1=(1:Int)
  ·rw[if_pos (show([c0,c1].getD 1 (zi zj)).2.1=(1:Int)from hty)]at hE;rw[hE];refine⟨(z0,z1,z2,z3,z4,z5,z6,z7,[(c0.1,c0.2.1,Q3),(c1.1,c1.2.1,Q4)],z9),?_,hkk,hch,by show length [(c0.1,c0.2.1,Q3),(c1.1,c1.2.1,Q4)]<=_;simp,λ_=>⟨rfl,hkey,hix,hon⟩⟩;simp[hty,getD,zN];exact cT (outs:=[zg]) (r:=.int .i64 0) (a:=(0,())) (ps:=al) (z0,z1,z2,z3,z4,z5,z6,z7,[(c0.1,c0.2.1,Q3),(c1.1,1,Q4)],z9) rfl
  ·rw[if_neg (show¬([c0,c1].getD 1 (zi zj)).2.1=(1:Int)from hty)]at hE;rw[hE];refine⟨(z0,z1,z2,z3,z4,z5,z6,z7,[c0,c1],z9),?_,hkk,hch,by show length [c0,c1]<=_;simp,λh=>by cases h⟩;simp[hty,getD];exact cT (outs:=[zg]) (r:=.int .i64 5) (a:=(5,())) (ps:=al) (z0,z1,z2,z3,z4,z5,z6,z7,[c0,c1],z9) rfl
 ·have hb:(e !=0)=Q3:=by simpa using h0
  have hE:sj y.2.2.1 y.2.1.2.2.2.1=e:=by
   unfold sj;rw[if_neg (he▸h0),he]
  simp only[Q8,hc,hb,if_true,hE];exact⟨z,cT (outs:=[zg]) (r:=.int .i64 e) (a:=(e,())) (ps:=al) z rfl,hkk,hch,hlen0,λh=>absurd h h0⟩
def JnI(y:zn bf)(i:Nat)(z:zn dI):Prop:=mL y z/\z.t.t.q.1=y.t.t.2.1/\Dt z (y.2.2.1.2.1++gv y.2.2.2.1 i) y.2.2.1.2.2.1 (jV y.2.2.2.1.2.2.1 i) (zQ y.2.2.1 y.2.1.t.2.1)
theorem o6(k:Int)(n:Nat):(Gb k n).length<=n:=by
 unfold Gb;exact cG (List.length_filter_le _ _) sw
theorem EK(k:Int)(n:Nat):Gb k (n+1)=if((n:Int)!=k)=Q3 then Gb k n++[n]else Gb k n:=by
 unfold Gb;rw[List.range_succ,List.filter_append];split
 ·rename_i h;rw[List.filter_cons_of_pos (by exact h),List.filter_nil]
 ·rename_i h;rw[List.filter_cons_of_neg (by exact h),List.filter_nil,wS]
theorem zl3(y:zn bf)(z:zn dI)(hz:JnI y 0 z)(hf:length y.2.2.1.2.1<=100)(hl:length y.2.2.2.1.2.1<=100)(n:Nat)(hn:1+length y.2.2.2.1.2.1<=n):
  ∃r,cU JW n (.h11 y.2.2.2.1.2.1 (length y.2.2.2.1.2.1:Int) 0 z)=Q1 r/\∃z':zn dI,r=(.int .i64 0,au al z')/\JnI y (length y.2.2.2.1.2.1) z':=by
 refine di (t:=JW) (β:=zn dI) (length y.2.2.2.1.2.1) (λz i=>.h11 y.2.2.2.1.2.1 (length y.2.2.2.1.2.1:Int) (i:Int) z) (λz i=>JnI y i z) _ 1 ?_ ?_ (length y.2.2.2.1.2.1) 0 z n rfl (aZ _) hz hn
 ·intro z i hi hI;obtain⟨hk,hch,hA⟩:=hI;have hoth:=o6 y.2.2.2.1.2.2.1 i;have hcl:(fY z).length<=2000:=by
   rw[show fY z=_ from hA.cols,jM,gv,da];omega
  have hxl:(eU z).length<=2000:=by
   rw[show eU z=_ from hA.ix,jV,da];omega
  have ek:z.2.2.2.1.2.2.1=y.2.2.2.1.2.2.1:=by rw[hk.2.2.2.1]
  simp only[JW,Hc,CK,Q8,zH hi,zt hi,if_true,zO _ _ hi];rw[zp i um];refine Or.inl ?_;have hsucc:=EK y.2.2.2.1.2.2.1 i;split
  ·rename_i hc;rw[ek]at hc;rw[if_pos hc]at hsucc;refine⟨(z.1,z.2.1,z.2.2.1,z.2.2.2.1,z.t.1,z.t.2.1,z.t.q.1,z.t.q.2.1,z.t.t.1++[y.2.2.2.1.2.1[i]],z.t.t.2.1,z.t.t.q.1,z.t.t.q.2.1++[(i:Int)],z.t.t.t),⟨hk,hch,⟨?_,hA.key,?_,hA.on⟩⟩,?_⟩
   ·show z.t.t.1++[y.2.2.2.1.2.1[i]]=_;rw[hA.cols,An,gv,gv,hsucc,iI];simp[zS hi]
   ·show z.t.t.q.2.1++[(i:Int)]=_;rw[hA.ix,jV,jV,hsucc,iI];rfl
   ·rw[if_pos (by have:z.t.t.q.2.1.length<=2000:=hxl;simp;omega),if_pos (by have:z.t.t.1.length<=2000:=hcl;simp;omega)]
  ·rename_i hc;rw[ek]at hc;rw[if_neg hc]at hsucc;refine⟨z,⟨hk,hch,⟨?_,hA.key,?_,hA.on⟩⟩,rfl⟩
   ·rw[hA.cols,gv,gv,hsucc]
   ·rw[hA.ix,jV,jV,hsucc]
 ·intro z n hI hn;obtain⟨n,rfl⟩:∃k,n=k+1:=⟨n-1,ow⟩;rw[cD];simp only[JW,Hc,CK,Q8,zA];exact⟨_,rfl,z,rfl,hI⟩
theorem SF(y:zn bf)(hf:length y.2.2.1.2.1<=100)(hl:length y.2.2.2.1.2.1<=100):∃z:zn al,Bq y=Q1 ((gW y.2.2.1 y.2.2.2.1 y.2.1.t.2.1 y.t.q.1,()),z)/\mL y z/\z.t.t.q.1=y.t.t.2.1/\
  (fY z).length<=1000000/\(gW y.2.2.1 y.2.2.2.1 y.2.1.t.2.1 y.t.q.1=0->Dt z (y.2.2.1.2.1++gv y.2.2.2.1 (length y.2.2.2.1.2.1)) y.2.2.1.2.2.1 (jV y.2.2.2.1.2.2.1 (length y.2.2.2.1.2.1)) (zQ y.2.2.1 y.2.1.t.2.1)):=by
 have hk:∀(a:List (Sem zj))(b:Int)(c:zf)(d:List Int)(e:Int),mL y (y.1,y.2.1,y.2.2.1,y.2.2.2.1,y.t.1,y.t.2.1,y.t.q.1,y.t.q.2.1,a,b,c,d,e,()):=λ_ _ _ _ _=>⟨rfl,rfl,rfl,rfl,rfl,rfl,rfl,rfl⟩
 have hw:IntKind.i64.wrap (IntKind.i64.wrap ((↑(length y.2.2.1.2.1):Int)+(↑(length y.2.2.2.1.2.1):Int))-1)=(↑(length y.2.2.1.2.1):Int)+(↑(length y.2.2.2.1.2.1):Int)-1:=by
  rw[lc ((↑(length y.2.2.1.2.1):Int)+(↑(length y.2.2.2.1.2.1):Int)) ow ow,lc _ ow ow]
 have out:∀e:Int,e≠0->(FV y).val=Q1 (.inr (.int .i64 e,au al (y.1,y.2.1,y.2.2.1,y.2.2.2.1,y.t.1,y.t.2.1,y.t.q.1,y.t.q.2.1,[],y.t.t.1,y.t.t.2.1,[],zQ y.2.2.1 y.2.1.t.2.1,())))->gW y.2.2.1 y.2.2.2.1 y.2.1.t.2.1 y.t.q.1=e->∃z:zn al,Bq y=Q1 ((gW y.2.2.1 y.2.2.2.1 y.2.1.t.2.1 y.t.q.1,()),z)/\mL y z/\z.t.t.q.1=y.t.t.2.1/\
  (fY z).length<=1000000/\(gW y.2.2.1 y.2.2.2.1 y.2.1.t.2.1 y.t.q.1=0->Dt z (y.2.2.1.2.1++gv y.2.2.2.1 (length y.2.2.2.1.2.1)) y.2.2.1.2.2.1 (jV y.2.2.2.1.2.2.1 (length y.2.2.2.1.2.1)) (zQ y.2.2.1 y.2.1.t.2.1)):=by
  intro e he hv hE;rw[hE];refine⟨_,Ti hv (cT (outs:=[zg]) (r:=.int .i64 e) (a:=(e,())) (ps:=al) _ rfl),hk _ _ _ _ _,rfl,by show([]:List (Sem zj)).length<=_;simp,λh=>absurd h he⟩
 by_cases c1:LT.lt (α:=Int) (zQ y.2.2.1 y.2.1.t.2.1) 0
 ·refine out 4 (by decide) ?_ (by unfold gW;rw[if_pos c1]);simp only[FV,II,Q8,zk,zu c1,if_true]
 by_cases c2:jH y.2.2.1.t.1 (zQ y.2.2.1 y.2.1.t.2.1,y.t.q.1)=Q3
 ·by_cases c3:LT.lt (α:=Int) 9 ((length y.2.2.1.2.1:Int)+(length y.2.2.2.1.2.1:Int))
  ·refine out 13 (by decide) ?_ (by unfold gW;rw[if_neg c1,if_pos c2,if_pos c3]);simp only[FV,II,Q8,zk,aj c1,c2,hw];rw[if_neg sw,if_neg sw,if_pos sg]
  ·have hE:gW y.2.2.1 y.2.2.2.1 y.2.1.t.2.1 y.t.q.1=0:=by unfold gW;rw[if_neg c1,if_pos c2,if_neg c3]
   have hv:(FV y).val=Q1 (.inl (.h11 y.2.2.2.1.2.1 (length y.2.2.2.1.2.1:Int) 0 (y.1,y.2.1,y.2.2.1,y.2.2.2.1,y.t.1,y.t.2.1,y.t.q.1,y.t.q.2.1,y.2.2.1.2.1,y.2.2.1.2.2.1,y.t.t.2.1,[],zQ y.2.2.1 y.2.1.t.2.1,()))):=by
    simp only[FV,II,Q8,zk,aj c1,c2,hw];rw[if_neg sw,if_neg sw,if_neg sg,if_pos sg]
   obtain⟨r,h1,z',rfl,hJ⟩:=zl3 y (y.1,y.2.1,y.2.2.1,y.2.2.2.1,y.t.1,y.t.2.1,y.t.q.1,y.t.q.2.1,y.2.2.1.2.1,y.2.2.1.2.2.1,y.t.t.2.1,[],zQ y.2.2.1 y.2.1.t.2.1,()) ⟨hk _ _ _ _ _,rfl,⟨by simp[gv,Gb],rfl,rfl,rfl⟩⟩ hf hl 100000000 ow;rw[hE];refine⟨z',?_,hJ.1,hJ.2.1,?_,λ_=>hJ.2.2⟩
   ·unfold Bq kI cX;rw[hv];show(cU JW 100000000 _).bind _=_;rw[h1];exact cT (outs:=[zg]) (r:=.int .i64 0) (a:=(0,())) (ps:=al) z' rfl
   ·have hoth:=o6 y.2.2.2.1.2.2.1 (length y.2.2.2.1.2.1);rw[show fY z'=_ from hJ.2.2.cols,jM,gv,da];omega
 ·refine out 10 (by decide) ?_ (by unfold gW;rw[if_neg c1,if_neg c2]);simp only[FV,II,Q8,zk,aj c1];rw[if_neg sw,if_pos (by simpa using c2)]
def Fk(l rows:List (Sem (.sl ze))):Prop:=rows.length<=201/\∀r∈rows,∃r0∈l,r=lx r0
theorem zkZ(n:Nat)(i4:Int)(hi4:i4<=201)(h0:0<=i4)(z0:zn cpR)(z1:zn zbJ)(t:Sem zo)(hn:300<=n):∃rows:List (Sem (.sl ze)),Fk z0.1.2 rows/\∃r,cU Pu n (.h6 i4 0 z0 z1 (t,[],()))=Q1 r/\aM r.2 [zh] r.1=Q1 (((t,rows):Sem zh),()):=by
 obtain⟨N,hN⟩:∃N:Nat,i4=(N:Int):=⟨toNat i4,ow⟩;have h:=di (t:=Pu) (β:=List (Sem (.sl ze))) (min N (length z0.1.2)) (λb i=>.h6 i4 (i:Int) z0 z1 (t,b,())) (λb i=>b.length=i/\∀r∈b,∃r0∈z0.1.2,r=lx r0) (λr=>∃rows:List (Sem (.sl ze)),Fk z0.1.2 rows/\aM r.2 [zh] r.1=Q1 (((t,rows):Sem zh),())) 1 (by
   intro b i hi hb;have h1:(i:Int)<(length z0.1.2:Int):=by omega
   have h2:(i:Int)<i4:=by omega
   have h3:zN (i:Int) (length z0.1.2)=Q3:=zt ow;refine Or.inl ⟨b++[lx (getD z0.1.2 (i:Int).toNat (zi ze.sl))],⟨by simp[hb.1],λr hr=>?_⟩,?_⟩
   ·rcases cP.1 hr with hr|hr
    ·exact hb.2 r hr
    ·rw[gp]at hr;refine⟨_,?_,hr⟩;rw[aK,bd,zS ow,du];exact bu _
   simp only[Pu,Q8,zu h1,zu h2,ah,if_true,h3];rw[zp i um,if_pos sg]) (by
   intro b n hb hn;obtain⟨n,rfl⟩:∃k,n=k+1:=⟨n-1,ow⟩;rw[cD];have hf:(bif Q0 (((min N (length z0.1.2):Nat):Int)<(length z0.1.2:Int))then Q0 (((min N (length z0.1.2):Nat):Int)<i4)else Q4)=Q4:=by
    by_cases h:N<=length z0.1.2
    ·rw[DI h,hN];simp
    ·rw[DG ow];simp
   simp only[Pu,Q8,hf];refine⟨_,rfl,b,⟨by have:=hb.1;omega,hb.2⟩,?_⟩;obtain⟨t0,t1,t2,t3,t4,t5⟩:=t;cases t5;rfl) (min N (length z0.1.2)) 0 [] n rfl (aZ _) ⟨rfl,sw⟩ ow
 obtain⟨r,h1,rows,h2,h3⟩:=h;exact⟨rows,h2,r,h1,h3⟩
theorem IS(x:Sem zh):∃rows:List (Sem (.sl ze)),Fk x.2 rows/\Bm x=Q1 (((CR x.1,rows):Sem zh),()):=by
 have e:CR (x.1.1,x.1.2.1,x.1.2.2.1,x.1.2.2.2.1,x.1.t.1,zm x.1.t.2)=CR x.1:=by rw[zk]
 have hv:∃k:Int,0<=k/\k<=201/\(zcf x).val=Q1 (.inl (.h6 k 0 (x,()) ([],0,[],0,0,[],[],()) (CR x.1,[],()))):=by
  simp only[zcf,Q8,e];split
  ·exact⟨201,ow,ow,rfl⟩
  ·exact⟨40,ow,ow,rfl⟩
 obtain⟨k,k1,k2,hv⟩:=hv;obtain⟨rows,h1,r,h2,h3⟩:=zkZ 100000000 k k2 k1 (x,()) ([],0,[],0,0,[],[],()) (CR x.1) ow;refine⟨rows,h1,?_⟩;unfold Bm ao cX;rw[hv];show(cU Pu 100000000 _).bind _=_;rw[h2];exact h3
theorem IR(x:Sem zh):K5 x=Q3:=by
 obtain⟨rows,h1,h2⟩:=IS x;unfold K5;rw[h2];rfl
theorem Sx(db:List (Sem zh)):∃db':List (Sem zh),Bn db=Q1 (db',())/\db'.length<=13/\∀x∈db',∃y∈db,x=xt y:=by
 have h:=di (t:=t7p) (β:=List (Sem zh)) (min 13 db.length) (λb i=>.h3 db (i:Int) b) (λb i=>b.length=i/\∀x∈b,∃y∈db,x=xt y) (λr=>∃db':List (Sem zh),aM r.2 [zh.sl] r.1=Q1 (db',())/\db'.length<=13/\∀x∈db',∃y∈db,x=xt y) 1 (by
   intro b i hi hb;have h1:(i:Int)<(db.length:Int):=by omega
   have h2:(i:Int)<13:=by omega
   have h3:zN (i:Int) db.length=Q3:=zt ow;refine Or.inl ⟨b++[xt (db.getD (i:Int).toNat (zi zh))],⟨by simp[hb.1],?_⟩,?_⟩
   ·intro x hx;rcases cP.1 hx with hx|hx
    ·exact hb.2 x hx
    ·rw[gp]at hx;refine⟨_,?_,hx⟩;rw[aK,bd,zS ow,du];exact bu _
   ·simp only[t7p,Q8,zu h1,zu h2,ah,if_true,h3,zk,Prod.eta,IR];rw[zp i um,if_pos sg]) (by
   intro b n hb hn;obtain⟨n,rfl⟩:∃k,n=k+1:=⟨n-1,ow⟩;rw[cD];have hf:(bif Q0 (((min 13 db.length:Nat):Int)<(db.length:Int))then Q0 (((min 13 db.length:Nat):Int)<13)else Q4)=Q4:=by
    by_cases h:13<=db.length
    ·rw[DI h];simp
    ·rw[DG ow];simp
   simp only[t7p,Q8,hf];exact⟨_,rfl,b,rfl,ow,hb.2⟩) (min 13 db.length) 0 [] 100000000 rfl (aZ _) ⟨rfl,sw⟩ ow
 obtain⟨r,h1,db',h2,h3,h4⟩:=h;refine⟨db',?_,h3,h4⟩;unfold Bn ao cX;simp only[i7p,Q8];have h1':cU t7p 100000000 (.h3 db 0 [])=Q1 r:=h1;rw[h1'];exact h2
theorem jT(s:zB):ff s=Q3:=by
 unfold ff;split
 ·rename_i h;have:20<s.length:=by simp at h;omega
  rw[if_pos sg]
 ·rfl
theorem eF(s:zB):(cV s).length<=20:=by
 unfold cV;split
 ·simp;omega
 ·rename_i h;have:¬20<s.length:=by simp at h;omega
  omega
theorem nR:∀(l:List zB)(i:Int)(acc:List zB),(acc.length:Int)<=i->fB l i acc=Q3
 |[],_,_,_=>rfl
 | x::r,i,acc,h=>by
  rw[fB];split
  ·rename_i hi;simp only[aO]at hi;rw[if_pos (jT x),if_pos sg];exact nR r (i+1) _ sg
  ·rfl
theorem Dj(l:List zB):oZ l=Q3:=nR l 0 [] sw
theorem rt:∀(l:List zB)(i:Int)(acc:List zB),(acc.length:Int)<=i->acc.length<=10->(∀x∈acc,length x<=20)->length (eu l i acc)<=10/\∀x∈eu l i acc,length x<=20
 |[],_,acc,_,h,ha=>⟨h,ha⟩
 | x::r,i,acc,h,hl,ha=>by
  rw[eu];split
  ·rename_i hi;simp only[aO]at hi;refine rt r (i+1) _ sg sg (λy hy=>?_);rcases cP.1 hy with hy|hy
   ·exact ha y hy
   ·rw[gp]at hy;rw[hy];exact eF x
  ·exact⟨hl,ha⟩
theorem xr(l:List zB):length (jS l)<=10/\∀x∈jS l,length x<=20:=rt l 0 [] sw sw sw
theorem W6(s:zB):(jb s).length<=20:=by
 unfold jb;split
 ·simp;omega
 ·rename_i h;simp at h;omega
theorem OR(l:List (Sem zj)):length (ju l)<=10/\∀x∈ju l,length x.1<=20:=by
 refine⟨by show((List.take 9 l).map _).length<=10;rw[da,oA];omega,λc hc=>?_⟩;obtain⟨x,_,rfl⟩:=bn.1 hc;exact W6 x.1
theorem OT(l:List (Sem ze)):length (lx l)<=14:=by
 show((List.take 14 l).map _).length<=14;rw[da,oA];omega
theorem Fy(e:zf):qU 16 (gJ e)=Q3:=by
 obtain⟨r,m,h1,h2⟩:=FS (P:=λN _ r=>qU N r=Q3) (λN e o t s l hl h3 _ _=>by
  show(Q0 (l.length<=1073741824)&&l.all (qU N))=Q3;rw[dW.2 λy hy=>by obtain⟨_,_,h⟩:=hl y hy;exact h];simp;omega) 16 e 14 80 ow ow ow
 unfold gJ;rw[zf.eta,show qV 16 e 14 80=(r,m) by unfold qV;rw[h1];rfl];exact h2
structure Kd (s:Sem zl):Prop where
 sh:lK s
 cp:qU 16 s.t.t.1=Q3
def F3I(z0:zn oq)(i:Nat)(z:zn QA):Prop:=z.1.length<=20/\z.2.1.length<=20/\z.2.2.1.length<=20/\(length z.2.2.2.1<=10/\∀x∈z.2.2.2.1,length x<=20)/\(length z.t.1<=10/\∀x∈z.t.1,length x.1<=20)/\z.t.2.1.length<=20/\
 (length z.t.q.1<=10/\∀x∈z.t.q.1,length x<=20)/\(length z.t.q.2.1=i/\∀x∈z.t.q.2.1,length x.1<=20/\length x.2<=20)/\qU 16 z.t.t.1=Q3/\length z.t.t.2.1<=14/\z.t.t.q.2.1.length<=20/\
 z.t.t.1=gJ z0.1.t.t.1/\z.t.t.2.1=lx z0.1.t.t.2.1/\z.t.t.q.1=gJ z0.1.t.t.q.2.1
def F7I(z0:zn oq)(i:Nat)(z:zn QB):Prop:=z.1.length<=20/\z.2.1.length<=20/\z.2.2.1.length<=20/\(length z.2.2.2.1<=10/\∀x∈z.2.2.2.1,length x<=20)/\(length z.t.1<=10/\∀x∈z.t.1,length x.1<=20)/\z.t.2.1.length<=20/\
 (length z.t.q.1<=10/\∀x∈z.t.q.1,length x<=20)/\(length z.t.q.2.1<=10/\∀x∈z.t.q.2.1,length x.1<=20/\length x.2<=20)/\qU 16 z.t.t.1=Q3/\length z.t.t.2.1<=14/\
 (length z.t.t.q.1=i/\∀x∈z.t.t.q.1,length x.1<=20/\∃y∈z0.1.t.t.q.1,x.2=gJ y.2)/\z.t.t.t.1.length<=20/\
 z.t.t.1=gJ z0.1.t.t.1/\z.t.t.2.1=lx z0.1.t.t.2.1/\z.t.t.q.2.1=gJ z0.1.t.t.q.2.1
structure Yj (s0 s:Sem zl):Prop where
 chk:s.t.t.1=gJ s0.t.t.1
 row:s.t.t.2.1=lx s0.t.t.2.1
 whr:s.t.t.q.2.1=gJ s0.t.t.q.2.1
 sets:∀x∈s.t.t.q.1,∃y∈s0.t.t.q.1,(x:Sem g6).2=gJ (y:Sem g6).2
def Vw(s0:Sem zl)(r:ar):Prop:=∃s:Sem zl,aM r.2 [zl] r.1=Q1 (s,())/\Kd s/\Yj s0 s
theorem fs7(z0:zn oq)(z1:zn iO)(z:zn QB)(hz:F7I z0 0 z)(n:Nat)(hn:20<=n):∃r,cU Xd n (.h7 0 z0 z1 z)=Q1 r/\Vw z0.1 r:=by
 refine di (t:=Xd) (β:=zn QB) (min 10 (length z0.1.t.t.q.1)) (λz i=>.h7 (i:Int) z0 z1 z) (λz i=>F7I z0 i z) (Vw z0.1) 1 ?_ ?_ (min 10 (length z0.1.t.t.q.1)) 0 z n rfl (aZ _) hz ow
 ·intro z i hi hb;obtain⟨h0,h1,h2,h3,h4,h5,h6,h7,h8,h9,h10,h11,h12⟩:=hb;have k1:(i:Int)<(length z0.1.t.t.q.1:Int):=by omega
  have k2:(i:Int)<10:=by omega
  have k3:zN (i:Int) (length z0.1.t.t.q.1)=Q3:=zt ow;refine Or.inl ⟨(z.1,z.2.1,z.2.2.1,z.2.2.2.1,z.t.1,z.t.2.1,z.t.q.1,z.t.q.2.1,z.t.t.1,z.t.t.2.1,z.t.t.q.1++[(cV (getD z0.1.t.t.q.1 (i:Int).toNat (zi g6)).1,zm (gJ (zm (getD z0.1.t.t.q.1 (i:Int).toNat (zi g6)).2)))],z.t.t.q.2),⟨h0,h1,h2,h3,h4,h5,h6,h7,h8,h9,?_,h11,h12⟩,?_⟩;rotate_left 1
  ·simp only[Xd,Q8,zu k1,zu k2,ah,if_true,k3,jT];rw[zp i um,if_pos (by have:=h10.1;simp;omega)]
  ·refine⟨?_,λx hx=>?_⟩
   ·simp[h10.1]
   ·rcases cP.1 hx with hx|hx
    ·exact h10.2 x hx
    ·rw[gp]at hx;rw[hx];exact⟨eF _,_,tv _ (zi g6) (by simpa using(show i<_ by omega)),by simp only[zk,aK]⟩
 ·intro z n hb hn;obtain⟨n,rfl⟩:∃k,n=k+1:=⟨n-1,ow⟩;obtain⟨h0,h1,h2,h3,h4,h5,h6,h7,h8,h9,h10,h11,h12⟩:=hb;rw[cD];have hf:(bif Q0 (((min 10 (length z0.1.t.t.q.1):Nat):Int)<(length z0.1.t.t.q.1:Int))then Q0 (((min 10 (length z0.1.t.t.q.1):Nat):Int)<10)else Q4)=Q4:=by
   by_cases h:10<=length z0.1.t.t.q.1
   ·rw[DI h];simp
   ·rw[DG ow];simp
  simp only[Xd,Q8,hf];refine⟨_,rfl,(z.1,z.2.1,z.2.2.1,z.2.2.2.1,z.t.1,z.t.2.1,z.t.q.1,z.t.q.2.1,z.t.t.1,z.t.t.2.1,z.t.t.q.1,z.t.t.q.2.1,z.t.t.t.1),?_,⟨?_,h8⟩,⟨h12.1,h12.2.1,h12.2.2,λx hx=>(h10.2 x hx).2⟩⟩
  ·obtain⟨z0,z1,z2,z3,z4,z5,z6,z7,z8,z9,z10,z11,z12,z13⟩:=z;cases z8;cases z11;rfl
  ·refine⟨by show z.1.length<=_;omega,by show z.2.1.length<=_;omega,by show z.2.2.1.length<=_;omega,⟨by have:=h3.1;show length z.2.2.2.1<=_;omega,λx hx=>by have:=h3.2 x hx;omega⟩,⟨by have:=h4.1;show length z.t.1<=_;omega,λx hx=>by have:=h4.2 x hx;omega⟩,by show z.t.2.1.length<=_;omega,⟨by have:=h6.1;show length z.t.q.1<=_;omega,λx hx=>by have:=h6.2 x hx;omega⟩,⟨by have:=h7.1;show length z.t.q.2.1<=_;omega,λx hx=>by have:=h7.2 x hx;omega⟩,by show length z.t.t.2.1<=_;omega,⟨by have:=h10.1;show length z.t.t.q.1<=_;omega,λx hx=>by have:=(h10.2 x hx).1;omega⟩,by show z.t.t.t.1.length<=_;omega⟩
theorem fs3(z0:zn oq)(z1:zn iO)(z:zn QA)(hz:F3I z0 0 z)(n:Nat)(hn:40<=n):∃r,cU Xd n (.h3 0 z0 z1 z)=Q1 r/\Vw z0.1 r:=by
 refine di (t:=Xd) (β:=zn QA) (min 10 (length z0.1.t.q.2.1)) (λz i=>.h3 (i:Int) z0 z1 z) (λz i=>F3I z0 i z) (Vw z0.1) 21 ?_ ?_ (min 10 (length z0.1.t.q.2.1)) 0 z n rfl (aZ _) hz ow
 ·intro z i hi hb;obtain⟨h0,h1,h2,h3,h4,h5,h6,h7,h8⟩:=hb;have k1:(i:Int)<(length z0.1.t.q.2.1:Int):=by omega
  have k2:(i:Int)<10:=by omega
  have k3:zN (i:Int) (length z0.1.t.q.2.1)=Q3:=zt ow;refine Or.inl ⟨(z.1,z.2.1,z.2.2.1,z.2.2.2.1,z.t.1,z.t.2.1,z.t.q.1,z.t.q.2.1++[(cV (getD z0.1.t.q.2.1 (i:Int).toNat (zi iK)).1,cV (getD z0.1.t.q.2.1 (i:Int).toNat (zi iK)).2)],z.t.t),⟨h0,h1,h2,h3,h4,h5,h6,?_,h8⟩,?_⟩;rotate_left 1
  ·simp only[Xd,Q8,zu k1,zu k2,ah,if_true,k3,jT];rw[zp i um,if_pos (by have:=h7.1;simp;omega)]
  ·refine⟨?_,λx hx=>?_⟩
   ·simp[h7.1]
   ·rcases cP.1 hx with hx|hx
    ·exact h7.2 x hx
    ·rw[gp]at hx;rw[hx];exact⟨eF _,eF _⟩
 ·intro z n hb hn;obtain⟨n,rfl⟩:∃k,n=k+1:=⟨n-1,ow⟩;obtain⟨h0,h1,h2,h3,h4,h5,h6,h7,h8,h9,h10,h11⟩:=hb;rw[cD];have hf:(bif Q0 (((min 10 (length z0.1.t.q.2.1):Nat):Int)<(length z0.1.t.q.2.1:Int))then Q0 (((min 10 (length z0.1.t.q.2.1):Nat):Int)<10)else Q4)=Q4:=by
   by_cases h:10<=length z0.1.t.q.2.1
   ·rw[DI h];simp
   ·rw[DG ow];simp
  simp only[Xd,Q8,hf];exact fs7 z0 z1 _ ⟨h0,h1,h2,h3,h4,h5,h6,⟨by have:=h7.1;show length z.t.q.2.1<=_;omega,h7.2⟩,h8,h9,⟨rfl,sw⟩,h10,h11⟩ n ow
theorem K4(s:Sem zl):∃s':Sem zl,vY s=Q1 (s',())/\Kd s'/\Yj s s':=by
 unfold vY ao cX;simp only[i8p,Q8,jT,Dj,if_true]
 obtain⟨r,h1,s',h2,h3⟩:=fs3 (s,()) ([],[],[],[],[],0,0,[],[],[],0,0,[],[],[],()) (cV s.1,cV s.2.1,cV s.2.2.1,jS s.2.2.2.1,ju s.t.1,
  cV s.t.2.1,jS s.t.q.1,[],gJ (zm s.t.t.1),lx s.t.t.2.1,gJ (zm s.t.t.q.2.1),cV s.t.t.t,())
  ⟨eF _,eF _,eF _,xr _,OR _,eF _,xr _,⟨rfl,sw⟩,Fy _,OT _,eF _,by simp only[zk],rfl,by simp only[zk]⟩ 100000000 ow
 refine⟨s',?_,h3⟩;rw[h1];exact h2
abbrev aB(db:List (Sem zh))(s:zB):Sem zh:=getD db (toNat (zV db s)) (zi zh)
def Du(db:List (Sem zh)):Prop:=∀x∈db,∀f∈x.1.t.1,LE.le (α:=Int) 0 (zV db f.2)/\∀row∈x.2,(ac f.1 row).1≠0->gN (aB db f.2) (aB db f.2).1.2.2.1 (ac f.1 row)=Q3
def Uu(r:ar):Prop:=r=(.kb Q4,[])
theorem VL{db:List (Sem zh)}{x:Sem zh}{f:Sem zr}{i k:Nat}(hf:LE.le (α:=Int) 0 (zV db f.2))(hc:∀row∈x.2,zN f.1 (length row)=Q3)(hl:x.2.length<=1000):
  ((∀j,j<x.2.length->(ac f.1 (getD x.2 j (zi ze.sl))).1≠0->gN (aB db f.2) (aB db f.2).1.2.2.1 (ac f.1 (getD x.2 j (zi ze.sl)))=Q3)/\
   zP gz (x.2.length*1) (.h11 db (zV db f.2) db (db.length:Int) (i:Int) x.1.t.1 (x.1.t.1.length:Int) (k:Int) x.2 (x.2.length:Int) ((0:Nat):Int) (x,()) (f,()))
    (.h11 db (zV db f.2) db (db.length:Int) (i:Int) x.1.t.1 (x.1.t.1.length:Int) (k:Int) x.2 (x.2.length:Int) (x.2.length:Int) (x,()) (f,())))\/
  ((¬∀j,j<x.2.length->(ac f.1 (getD x.2 j (zi ze.sl))).1≠0->gN (aB db f.2) (aB db f.2).1.2.2.1 (ac f.1 (getD x.2 j (zi ze.sl)))=Q3)/\
   ∃r,zT gz (x.2.length*1) (.h11 db (zV db f.2) db (db.length:Int) (i:Int) x.1.t.1 (x.1.t.1.length:Int) (k:Int) x.2 (x.2.length:Int) ((0:Nat):Int) (x,()) (f,())) r/\Uu r):=by
 refine lI (t:=gz) (Φ:=Uu) 1 (λj=>.h11 db (zV db f.2) db (db.length:Int) (i:Int) x.1.t.1 (x.1.t.1.length:Int) (k:Int) x.2 (x.2.length:Int) (j:Int) (x,()) (f,())) (λj=>(ac f.1 (getD x.2 j (zi ze.sl))).1≠0->gN (aB db f.2) (aB db f.2).1.2.2.1 (ac f.1 (getD x.2 j (zi ze.sl)))=Q3) x.2.length ?_;intro j hj _
 have hv:(gz (.h11 db (zV db f.2) db (db.length:Int) (i:Int) x.1.t.1 (x.1.t.1.length:Int) (k:Int) x.2 (x.2.length:Int) (j:Int) (x,()) (f,()))).val=
   if(bif (ac f.1 (getD x.2 j (zi ze.sl))).1!=0 then !gN (aB db f.2) (aB db f.2).1.2.2.1 (ac f.1 (getD x.2 j (zi ze.sl)))else Q4)=Q3 then Q1 (.inr (.kb Q4,[]))else
   Q1 (.inl (.h11 db (zV db f.2) db (db.length:Int) (i:Int) x.1.t.1 (x.1.t.1.length:Int) (k:Int) x.2 (x.2.length:Int) ((j+1:Nat):Int) (x,()) (f,()))):=by
  show(gz (.h11 _ _ _ _ _ _ _ _ _ _ _ _ _)).val=_;unfold gz;simp only[zk,Q8,zH hj,zt hj,hc _ (bH hj),dv hf,aK,if_true,oC];rw[if_pos (by cases((getD (getD x.2 j (zi ze.sl)) (toNat f.1) (zi ze)).1!=0)<;>rfl)];rw[zp j um]
 by_cases h1:(ac f.1 (getD x.2 j (zi ze.sl))).1=0
 ·exact .inl ⟨λh=>absurd h1 h,zP.of (by rw[hv,if_neg (by rw[h1];simp)])⟩
 ·have h1':((ac f.1 (getD x.2 j (zi ze.sl))).1!=0)=Q3:=by simpa using h1
  by_cases h2:gN (aB db f.2) (aB db f.2).1.2.2.1 (ac f.1 (getD x.2 j (zi ze.sl)))=Q3
  ·exact .inl ⟨λ_=>h2,zP.of (by rw[hv,if_neg (by rw[h2,h1'];simp)])⟩
  ·exact .inr ⟨λh=>h2 (h h1),_,zT.of (by rw[hv,if_pos (by rw[h1'];simpa using h2)]),rfl⟩
theorem zbA{db:List (Sem zh)}{x:Sem zh}{i:Nat}(hc:∀f∈x.1.t.1,∀row∈x.2,zN f.1 (length row)=Q3)(hl:x.2.length<=1000)(hr:x.1.t.1.length<=1000):
  let P:Nat->Prop:=λk=>LE.le (α:=Int) 0 (zV db (getD x.1.t.1 k (zi zr)).2)/\∀row∈x.2,(ac (getD x.1.t.1 k (zi zr)).1 row).1≠0->gN (aB db (getD x.1.t.1 k (zi zr)).2) (aB db (getD x.1.t.1 k (zi zr)).2).1.2.2.1 (ac (getD x.1.t.1 k (zi zr)).1 row)=Q3
  ((∀k,k<x.1.t.1.length->P k)/\zP gz (x.1.t.1.length*1002) (.h5 db db (db.length:Int) (i:Int) x.1.t.1 (x.1.t.1.length:Int) ((0:Nat):Int) (x,())) (.h5 db db (db.length:Int) (i:Int) x.1.t.1 (x.1.t.1.length:Int) (x.1.t.1.length:Int) (x,())))\/
  ((¬∀k,k<x.1.t.1.length->P k)/\∃r,zT gz (x.1.t.1.length*1002) (.h5 db db (db.length:Int) (i:Int) x.1.t.1 (x.1.t.1.length:Int) ((0:Nat):Int) (x,())) r/\Uu r):=by
 intro P;refine lI (t:=gz) (Φ:=Uu) 1002 (λk=>.h5 db db (db.length:Int) (i:Int) x.1.t.1 (x.1.t.1.length:Int) (k:Int) (x,())) P x.1.t.1.length ?_;intro k hk _
 have hv:(gz (.h5 db db (db.length:Int) (i:Int) x.1.t.1 (x.1.t.1.length:Int) (k:Int) (x,()))).val=
   if Q0 (LT.lt (α:=Int) (zV db (getD x.1.t.1 k (zi zr)).2) 0)=Q3 then Q1 (.inr (.kb Q4,[]))else
   Q1 (.inl (.h11 db (zV db (getD x.1.t.1 k (zi zr)).2) db (db.length:Int) (i:Int) x.1.t.1 (x.1.t.1.length:Int) (k:Int) x.2 (x.2.length:Int) ((0:Nat):Int) (x,()) (getD x.1.t.1 k (zi zr),()))):=by
  show(gz (.h5 _ _ _ _ _ _ _ _)).val=_;unfold gz;simp only[Q8,zH hk,zt hk,aK,if_true];rfl
 by_cases h1:LE.le (α:=Int) 0 (zV db (getD x.1.t.1 k (zi zr)).2)
 ·have g1:=zP.of (t:=gz) (s:=.h5 db db (db.length:Int) (i:Int) x.1.t.1 (x.1.t.1.length:Int) (k:Int) (x,())) (by rw[hv,if_neg (by rw[aO];omega)]);rcases VL (db:=db) (x:=x) (f:=getD x.1.t.1 k (zi zr)) (i:=i) (k:=k) h1 (hc _ (bH hk)) hl with⟨h2,h3⟩|⟨h2,r,h3,h4⟩
  ·have hv2:(gz (.h11 db (zV db (getD x.1.t.1 k (zi zr)).2) db (db.length:Int) (i:Int) x.1.t.1 (x.1.t.1.length:Int) (k:Int) x.2 (x.2.length:Int) (x.2.length:Int) (x,()) (getD x.1.t.1 k (zi zr),()))).val=
     Q1 (.inl (.h5 db db (db.length:Int) (i:Int) x.1.t.1 (x.1.t.1.length:Int) ((k+1:Nat):Int) (x,()))):=by
    show(gz (.h11 _ _ _ _ _ _ _ _ _ _ _ _ _)).val=_;unfold gz;simp only[Q8,zA];rw[zp k um];rfl
   refine .inl ⟨⟨h1,?_⟩,((g1.trans h3).trans (zP.of hv2)).mono ow⟩;exact(aq (Q:=λrow=>(ac (getD x.1.t.1 k (zi zr)).1 row).1≠0->gN (aB db (getD x.1.t.1 k (zi zr)).2) (aB db (getD x.1.t.1 k (zi zr)).2).1.2.2.1 (ac (getD x.1.t.1 k (zi zr)).1 row)=Q3)).1 h2
  ·refine .inr ⟨λh=>h2 ?_,r,(g1.ends h3).mono ow,h4⟩;exact(aq (Q:=λrow=>(ac (getD x.1.t.1 k (zi zr)).1 row).1≠0->gN (aB db (getD x.1.t.1 k (zi zr)).2) (aB db (getD x.1.t.1 k (zi zr)).2).1.2.2.1 (ac (getD x.1.t.1 k (zi zr)).1 row)=Q3)).2 h.2
 ·exact .inr ⟨λh=>h1 h.1,_,(zT.of (by rw[hv,if_pos (by rw[aO];omega)])).mono ow,rfl⟩
theorem HW{db:List (Sem zh)}(hc:∀x∈db,∀f∈x.1.t.1,∀row∈x.2,zN f.1 (length row)=Q3)(hs:∀x∈db,gH x)(hl:db.length<=13):∃b,xV db=Q1 (b,())/\(b=Q3↔Du db):=by
 have h2:=lI (t:=gz) (Φ:=Uu) 1010000 (λi=>.h2 db db (db.length:Int) (i:Int)) (λi=>∀f∈(getD db i (zi zh)).1.t.1,LE.le (α:=Int) 0 (zV db f.2)/\∀row∈(getD db i (zi zh)).2,(ac f.1 row).1≠0->gN (aB db f.2) (aB db f.2).1.2.2.1 (ac f.1 row)=Q3) db.length (by
  intro i hi _;have hm:=bH (d:=zi zh) hi;have hS:=hs _ hm;have s1:=hS.rf;have s2:=hS.rw;have hv:(gz (.h2 db db (db.length:Int) (i:Int))).val=Q1 (.inl (.h5 db db (db.length:Int) (i:Int) (getD db i (zi zh)).1.t.1 ((getD db i (zi zh)).1.t.1.length:Int) ((0:Nat):Int) (getD db i (zi zh),()))):=by
   show(gz (.h2 _ _ _ _)).val=_;unfold gz;simp only[Q8,zH hi,zt hi,aK,if_true];rfl
  have g1:=zP.of hv;rcases zbA (db:=db) (x:=getD db i (zi zh)) (i:=i) (hc _ hm) s2 s1 with⟨h2,h3⟩|⟨h2,r,h3,h4⟩
  ·have hv2:(gz (.h5 db db (db.length:Int) (i:Int) (getD db i (zi zh)).1.t.1 ((getD db i (zi zh)).1.t.1.length:Int) ((getD db i (zi zh)).1.t.1.length:Int) (getD db i (zi zh),()))).val=Q1 (.inl (.h2 db db (db.length:Int) ((i+1:Nat):Int))):=by
    show(gz (.h5 _ _ _ _ _ _ _ _)).val=_;unfold gz;simp only[Q8,zA];rw[zp i um];rfl
   refine .inl ⟨?_,((g1.trans h3).trans (zP.of hv2)).mono ow⟩;exact(aq (Q:=λf:Sem zr=>LE.le (α:=Int) 0 (zV db f.2)/\∀row∈(getD db i (zi zh)).2,(ac f.1 row).1≠0->gN (aB db f.2) (aB db f.2).1.2.2.1 (ac f.1 row)=Q3)).1 h2
  ·refine .inr ⟨λh=>h2 ?_,r,(g1.ends h3).mono ow,h4⟩;exact(aq (Q:=λf:Sem zr=>LE.le (α:=Int) 0 (zV db f.2)/\∀row∈(getD db i (zi zh)).2,(ac f.1 row).1≠0->gN (aB db f.2) (aB db f.2).1.2.2.1 (ac f.1 row)=Q3)).2 h)
 have hb:(∀i,i<db.length->∀f∈(getD db i (zi zh)).1.t.1,LE.le (α:=Int) 0 (zV db f.2)/\∀row∈(getD db i (zi zh)).2,(ac f.1 row).1≠0->gN (aB db f.2) (aB db f.2).1.2.2.1 (ac f.1 row)=Q3)↔Du db:=
  aq (Q:=λx:Sem zh=>∀f∈x.1.t.1,LE.le (α:=Int) 0 (zV db f.2)/\∀row∈x.2,(ac f.1 row).1≠0->gN (aB db f.2) (aB db f.2).1.2.2.1 (ac f.1 row)=Q3)
 have hi:(zhB db).val=Q1 (.inl (.h2 db db (db.length:Int) ((0:Nat):Int))):=rfl;rcases h2 with⟨h2,h3⟩|⟨h2,r,h3,h4⟩
 ·refine⟨Q3,zw hi (h3.ends (zT.of (r:=(.kb Q3,[])) ?_)) ow rfl,λ_=>hb.1 h2,λ_=>rfl⟩;show(gz (.h2 _ _ _ _)).val=_;unfold gz;simp only[Q8,zA];rfl
 ·unfold Uu at h4;subst h4;exact⟨Q4,zw hi h3 ow rfl,λh=>(by cases h),λh=>absurd (hb.2 h) h2⟩
structure iM (db:List (Sem zh)):Prop where
 few:db.length<=12
 names:∀i,i<db.length-1->Op.bytesLess (getD db i (zi zh)).1.1 (getD db (i+1) (zi zh)).1.1=Q3
 rels:∀x∈db,ee x
 bound:Du db
theorem ee.cols{x:Sem zh}(h:ee x):∀f∈x.1.t.1,∀row∈x.2,zN f.1 (length row)=Q3:=by
 intro f hf row hr;obtain⟨_,h1,_,_,_⟩:=gX h.may;rw[Ba (by simpa using h.fits row hr)];exact tD (h1 f hf)
theorem wW{db:List (Sem zh)}(hs:∀x∈db,gH x):∃e:Int,sV db=Q1 (e,())/\(e=0↔iM db):=by
 by_cases hw:db.length<=12
 case neg=>
  refine⟨13,?_,λh=>(by cases h),λh=>absurd h.few hw⟩;unfold sV ao cX;simp only[Wf,Q8];rw[if_pos sg];rfl
 have hi:(Wf db).val=Q1 (.inl (.h4 db ((0+1:Nat):Int))):=by
  simp only[Wf,Q8];rw[if_neg sg];rfl
 have h4:=lI (t:=nI) (Φ:=Ut) 1 (λi=>.h4 db ((i+1:Nat):Int)) (λi=>Op.bytesLess (getD db i (zi zh)).1.1 (getD db (i+1) (zi zh)).1.1=Q3) (db.length-1) (by
  intro i hi _;have h1:i<db.length:=by omega
  have h2:i+1<db.length:=by omega
  have hv:(nI (.h4 db ((i+1:Nat):Int))).val=if(!Op.bytesLess (getD db i (zi zh)).1.1 (getD db (i+1) (zi zh)).1.1)=Q3 then Q1 (.inr (.int .i64 15,[]))else Q1 (.inl (.h4 db ((i+1+1:Nat):Int))):=by
   show(nI (.h4 _ _)).val=_;unfold nI;simp only[pF i um];simp only[Q8,zH h2,zt h2,zt h1,aK,if_true];rw[zp (i+1) um]
  by_cases h:Op.bytesLess (getD db i (zi zh)).1.1 (getD db (i+1) (zi zh)).1.1=Q3
  ·exact .inl ⟨h,zP.of (by rw[hv,if_neg (by rw[h];simp)])⟩
  ·exact .inr ⟨h,_,zT.of (by rw[hv,if_pos (by simpa using h)]),15,rfl,by decide⟩)
 rcases h4 with⟨hn,h4⟩|⟨hn,r,h4,e,he,hne⟩
 case inr=>
  subst he;exact⟨e,zw hi h4 ow rfl,λh=>absurd h hne,λh=>absurd h.names hn⟩
 have hv4:(nI (.h4 db ((db.length-1+1:Nat):Int))).val=Q1 (.inl (.h9 db db (db.length:Int) ((0:Nat):Int))):=by
  show(nI (.h4 _ _)).val=_;unfold nI;simp only[Q8];rw[if_neg sg];rfl
 have g9:=h4.trans (zP.of hv4);have h9:=lI (t:=nI) (Φ:=Ut) 1 (λi=>.h9 db db (db.length:Int) (i:Int)) (λi=>ee (getD db i (zi zh))) db.length (by
  intro i hi _;obtain⟨e,he,heq⟩:=JD (hs _ (bH (d:=zi zh) hi));have hc:GR (getD db i (zi zh))=Q3:=by unfold GR;rw[he];rfl
  have hv0:LH (getD db i (zi zh))=e:=by unfold LH;rw[he];rfl
  have hv:(nI (.h9 db db (db.length:Int) (i:Int))).val=if(e !=0)=Q3 then Q1 (.inr (.int .i64 e,[]))else Q1 (.inl (.h9 db db (db.length:Int) ((i+1:Nat):Int))):=by
   show(nI (.h9 _ _ _ _)).val=_;unfold nI;simp only[zk,Q8,zH hi,zt hi,aK,if_true,Prod.eta,hc,hv0];rw[zp i um]
  by_cases h:e=0
  ·exact .inl ⟨heq.1 h,zP.of (by rw[hv,if_neg (by rw[h];simp)])⟩
  ·exact .inr ⟨λhr=>h (heq.2 hr),_,zT.of (by rw[hv,if_pos (by simpa using h)]),e,rfl,h⟩)
 rcases h9 with⟨hr,h9⟩|⟨hr,r,h9,e,he,hne⟩
 case inr=>
  subst he;exact⟨e,zw hi (g9.ends h9) ow rfl,λh=>absurd h hne,λh=>absurd ((aq (Q:=ee)).2 h.rels) hr⟩
 have hrels:=(aq (Q:=ee)).1 hr;obtain⟨b,hb,hbb⟩:=HW (db:=db) (λx hx=>(hrels x hx).cols) hs ow;have hc:Fs db=Q3:=by unfold Fs;rw[hb];rfl
 have hv0:Km db=b:=by unfold Km;rw[hb];rfl
 have hv9:(nI (.h9 db db (db.length:Int) (db.length:Int))).val=if(!b)=Q3 then Q1 (.inr (.int .i64 10,[]))else Q1 (.inr (.int .i64 0,[])):=by
  show(nI (.h9 _ _ _ _)).val=_;unfold nI;simp only[Q8,zA,hc,hv0,if_true];rfl
 by_cases h:b=Q3
 ·exact⟨0,zw hi (g9.ends (h9.ends (zT.of (by rw[hv9,if_neg (by rw[h];simp)])))) ow rfl,λ_=>⟨hw,hn,hrels,hbb.1 h⟩,λ_=>rfl⟩
 ·exact⟨10,zw hi (g9.ends (h9.ends (zT.of (by rw[hv9,if_pos (by simpa using h)])))) ow rfl,λh=>(by cases h),λhB=>absurd (hbb.2 hB.bound) h⟩
theorem Ft{db:List (Sem zh)}(hs:∀x∈db,gH x):mR db=Q3:=by
 obtain⟨e,h,_⟩:=wW hs;unfold mR;rw[h];rfl
theorem jZ{db:List (Sem zh)}(hs:∀x∈db,gH x):km db=(0:Int)↔iM db:=by
 obtain⟨e,h,h2⟩:=wW hs;unfold km;rw[h];exact h2
abbrev ZA(x0:Sem zh.sl)(x1:Sem zl):zn bf:=(x0,x1,([],[],0,[],[],zf.mk [] (0,0,[]) [] []),([],[],0,[],[],zf.mk [] (0,0,[]) [] []),x1.1,x1.2.2.1,x1.t.t.t,x1.2.1,0,x1.t.t.1,0,())
theorem KU(x0:Sem zh.sl)(x1:Sem zl):zcc x0 x1=(let a8:=mj (ZA x0 x1)
  let a11:=EE a8.2
  let a14:=EF a8.2
  let a17:=wa a8.2
  IE x0 x1 x1.t.t.1 x1 (!dY x1) (nH x1&&bif !dY x1 then Q3 else mR x0) (bif !dY x1 then Q3 else km x0 !=0) (qU 16 x1.t.t.1) (ZA x0 x1) (ml (ZA x0 x1)) a8 (a8.1==0) a8.2 a11 a11.2 (fg a11.2) a14 a14.2 (fg a14.2) a17 a17.2 (fg a17.2)):=by
 unfold zcc;simp only[OF,ME,zk]
abbrev Tn(z:zn al):Sem zz:=(z.t.1,z.t.2.1,z.t.q.1,(z.t.q.2.1,z.t.t.1,z.t.t.2.1,[],[],z.t.t.q.1),z.t.t.q.2.1,z.t.t.t.1)
abbrev jw:Sem zz:=([],[],[],([],[],0,[],[],zf.mk [] (0,0,[]) [] []),[],0)
def aw(db:List (Sem zh))(n:zB):Sem zo:=(getD db (toNat (zV db n)) (zi zh)).1
abbrev zmn:Sem zo:=([],[],0,[],[],zf.mk [] (0,0,[]) [] [])
def fV(db:List (Sem zh))(n:zB):Sem zo:=if n=[]then zmn else aw db n
def js(e:Int)(p:Sem zz):Int×Sem zz:=if e=0 then(if uM p.2.2.2.1=0 then(0,p)else(uM p.2.2.2.1,jw))else(e,jw)
def dh(db:List (Sem zh))(s:Sem zl):Int×Sem zz:=
 if(s.1==[99,111,112,121])=Q3 then
  js (ve (aw db s.2.2.1) s.2.2.2.1) (s.1,s.2.2.1,s.t.t.t,(s.2.1,gr (aw db s.2.2.1) s.2.2.2.1,gV (kG (aw db s.2.2.1) s.2.2.2.1) (aw db s.2.2.1).2.2.1,[],[],s.t.t.1),kG (aw db s.2.2.1) s.2.2.2.1,0)
 else if(s.1==[106,111,105,110])=Q3 then
  js (gW (aw db s.2.2.1) (fV db s.t.t.t) s.t.2.1 s.t.t.t)
   (s.1,s.2.2.1,s.t.t.t,(s.2.1,(aw db s.2.2.1).2.1++gv (fV db s.t.t.t) (length (fV db s.t.t.t).2.1),(aw db s.2.2.1).2.2.1,[],[],s.t.t.1),
    jV (fV db s.t.t.t).2.2.1 (length (fV db s.t.t.t).2.1),zQ (aw db s.2.2.1) s.t.2.1)
 else if(s.1==[103,114,111,117,112])=Q3 then
  js (sj (aw db s.2.2.1) s.2.2.2.1) (s.1,s.2.2.1,s.t.t.t,(s.2.1,Di (aw db s.2.2.1) s.2.2.2.1,0,[],[],s.t.t.1),kG (aw db s.2.2.1) s.2.2.2.1,0)
 else(1,jw)
def aT(db:List (Sem zh))(s:Sem zl):Int×Sem zz:=
 if jt s.1/\dY s=Q3/\km db=(0:Int)then(if nG db s.2.2.1 s.t.t.t s.2.1=0 then dh db s else(nG db s.2.2.1 s.t.t.t s.2.1,jw))else(1,jw)
theorem lE{s:Sem zl}(h:dY s=Q3):eZ s=Q3:=by
 unfold dY pn at h;by_cases hp:eZ s=Q3
 ·exact hp
 ·exfalso;simp only[gq]at hp;simp[hp]at h
theorem mg{db:List (Sem zh)}{s:zB}(h:(0:Int)<=zV db s):db.getD (toNat (zV db s)) (zi zh)∈db:=by
 have:=dv h;simp only[zN,aD,aO]at this;exact tv _ _ ow
theorem Cl(e:Int):aM [] [zz,zg] (tup [agg [str [],str [],str [],str [],nils,ai 0,nils,nils,str [],ai 0,ai 0,str [],str [],nils,nils,ai 0],ai e])=Q1 (jw,e,()):=rfl
theorem zdf(z:zn al):aM [AO.vec zj z.t.t.1] [zz,zg] (tup [agg [str z.t.1,str z.t.2.1,str z.t.q.1,str z.t.q.2.1,AV.vec 0,
  ai z.t.t.2.1,nils,nils,str (zf.op z.t.t.q.1),ai (zf.v z.t.t.q.1).1,ai (zf.v z.t.t.q.1).2.1,str (zf.v z.t.t.q.1).2.2,str (zf.s z.t.t.q.1),sl Sh.expr (zf.l z.t.t.q.1),
  sl zg z.t.t.q.2.1,ai z.t.t.t.1],ai 0])=Q1 (Tn z,0,()):=by
 obtain⟨z0,z1,z2,z3,z4,z5,z6,z7,z8,z9,z10,z11,z12,z13⟩:=z;cases z10;rfl
def PlS(x0:Sem zh.sl)(x1:Sem zl):Prop:=I7 x0 x1=Q1 ((aT x0 x1).2,(aT x0 x1).1,())
theorem wj{x0:Sem zh.sl}{x1:Sem zl}{o:Option (zy (List.map Q1 [zz,zg]))}{e:Int}(h:o=Q1 (jw,e,()))(hp:aT x0 x1=(e,jw)):o=Q1 ((aT x0 x1).2,(aT x0 x1).1,()):=by rw[hp];exact h
theorem WO{x0:Sem zh.sl}{x1:Sem zl}(hM:nH x1=Q3)(hB:mR x0=Q3)(hmay:(bif !dY x1 then Q3 else km x0 !=0)=Q3):PlS x0 x1:=by
 have h3:(nH x1&&bif !dY x1 then Q3 else mR x0)=Q3:=by rw[hM,hB];cases dY x1<;>rfl
 have hp:aT x0 x1=(1,jw):=by
  unfold aT;rw[if_neg];rintro⟨_,h1,h2⟩;rw[h1]at hmay;simp[h2]at hmay
 refine wj ?_ hp;unfold I7 ao cX;rw[KU];simp only[IE,Q8,h3,hmay,if_true];by_cases o1:(x1.1==[99,111,112,121])=Q3
 ·simp only[o1,if_true];rfl
 ·by_cases o2:(x1.1==[106,111,105,110])=Q3
  ·simp only[o1,o2,if_true];rfl
  ·by_cases o3:(x1.1==[103,114,111,117,112])=Q3
   ·simp only[o1,o2,o3,if_true];rfl
   ·simp only[o1,o2,o3];rfl
theorem zdb{x0:Sem zh.sl}{x1:Sem zl}{y:zn bf}{z:zn al}{cols:List (Sem zj)}{key:Int}{ix:List Int}{on:Int}(k3:y.t=(ZA x0 x1).t)(hk:mL y z)
  (hch:z.t.t.q.1=y.t.t.2.1) (hA:Dt z cols key ix on):Tn z=(x1.1,x1.2.2.1,x1.t.t.t,(x1.2.1,cols,key,[],[],x1.t.t.1),ix,on):=by
 obtain⟨_,_,_,_,a4,a5,a6,a7⟩:=hk;have e4:z.t.1=x1.1:=by rw[a4,k3]
 have e5:z.t.2.1=x1.2.2.1:=by rw[a5,k3]
 have e6:z.t.q.1=x1.t.t.t:=by rw[a6,k3]
 have e7:z.t.q.2.1=x1.2.1:=by rw[a7,k3]
 have e8:z.t.t.q.1=x1.t.t.1:=by rw[hch,k3]
 show(z.t.1,z.t.2.1,z.t.q.1,(z.t.q.2.1,z.t.t.1,z.t.t.2.1,[],[],z.t.t.q.1),z.t.t.q.2.1,z.t.t.t.1)=_;rw[e4,e5,e6,e7,e8,hA.cols,hA.key,hA.ix,hA.on]
theorem zda{x0:Sem zh.sl}{x1:Sem zl}(hdb:∀x∈x0,gH x)(hl:length x0<=13)(hs:Kd x1):PlS x0 x1:=by
 by_cases hg:jt x1.1;rotate_left
 ·have o1:(x1.1==[99,111,112,121])=Q4:=by simpa using λk=>hg (.inl k)
  have o2:(x1.1==[106,111,105,110])=Q4:=by simpa using λk=>hg (.inr (.inl k))
  have o3:(x1.1==[103,114,111,117,112])=Q4:=by simpa using λk=>hg (.inr (.inr k))
  refine wj (e:=1) ?_ (by unfold aT;rw[if_neg λh=>hg h.1]);unfold I7 ao cX;rw[KU];simp only[IE,Q8,o1,o2,o3];rfl
 have hM:=JU hs.sh hg;have hB:=Ft hdb;by_cases hmay:(bif !dY x1 then Q3 else km x0 !=0)=Q3
 ·exact WO hM hB hmay
 have h3:(nH x1&&bif !dY x1 then Q3 else mR x0)=Q3:=by rw[hM,hB];cases dY x1<;>rfl
 have hm1:dY x1=Q3:=by
  cases h:dY x1
  ·rw[h]at hmay;simp at hmay
  ·rfl
 have hb1:km x0=(0:Int):=by
  rw[hm1]at hmay;simpa using hmay
 have hparts:=lE hm1;have hrels:=((jZ hdb).1 hb1).rels;obtain⟨e8,y8,h8,k1,k2,k3,k5,k4⟩:=IZ (ZA x0 x1) (by show length x0<=_;omega);have s8:mj (ZA x0 x1)=(e8,y8):=by unfold mj;rw[h8];rfl
 have c8:ml (ZA x0 x1)=Q3:=by unfold ml;rw[h8];rfl
 have k5:e8=nG x0 x1.2.2.1 x1.t.t.t x1.2.1:=k5;have hS:jt x1.1->aT x0 x1=if e8=0 then dh x0 x1 else(e8,jw):=by
  intro h;unfold aT;rw[if_pos ⟨h,hm1,hb1⟩,k5]
 unfold PlS I7 ao cX;rw[KU];simp only[IE,Q8,h3,hmay,hs.cp,s8,c8,if_true];by_cases e80:e8=0
 ·have hsrc:=k4 e80;have n2:y8.2.1=x1:=k2;have n1:y8.1=x0:=k1;have nk:y8.t.t.1=(0:Int):=by rw[k3]
  have non:y8.t.t.q.1=(0:Int):=by rw[k3]
  have nw:y8.t.q.1=x1.t.t.t:=by rw[k3]
  have hfrom:y8.2.2.1=aw x0 x1.2.2.1:=hsrc.t.1;have hwith:y8.2.2.2.1=fV x0 x1.t.t.t:=hsrc.t.2;have mayf:=gX (hrels _ (mg (db:=x0) (s:=x1.2.2.1) hsrc.1)).may;rw[show(getD x0 (toNat (zV x0 x1.2.2.1)) (zi zh)).1=y8.2.2.1 from hfrom.symm]at mayf;have hwl:length y8.2.2.2.1.2.1<=100:=by
   rw[hwith];unfold fV;split
   ·simp
   ·rename_i hw;have:=(gX (hrels _ (mg (db:=x0) (s:=x1.t.t.t) (hsrc.2.1.resolve_left hw))).may).2.2.2.1;unfold aw;omega
  have e8b:(e8==0)=Q3:=by simpa using e80
  simp only[e8b,if_true];by_cases o1:(x1.1==[99,111,112,121])=Q3
  ·have hmg:jt x1.1:=Or.inl (bE o1);obtain⟨z,h11,hk,hch,hlen,hA⟩:=SE y8 (by rw[n2];have:=hs.sh.names.1;omega);rw[n2,hfrom,non]at hA;rw[n2,hfrom]at h11;generalize hce:ve (aw x0 x1.2.2.1) x1.2.2.2.1=e11 at h11 hA;have uw:EE y8=(e11,z):=by unfold EE;rw[h11];rfl
   have c11:F4 y8=Q3:=by unfold F4;rw[h11];rfl
   have hP:=hS hmg;rw[if_pos e80]at hP;unfold dh at hP;rw[if_pos o1,hce]at hP;simp only[o1,uw,c11,if_true];by_cases e0:e11=0
   ·have hz:=zdb k3 hk hch (hA e0);have h13:=sA z hlen;have hT:NH z=(Tn z).2.2.2.1:=rfl;rw[hT,hz]at h13;unfold js at hP;rw[if_pos e0]at hP;generalize he13:uM _=e13 at h13 hP;have s13:fg z=(e13,z):=by unfold fg;rw[h13];rfl
    have c13:gu z=Q3:=by unfold gu;rw[h13];rfl
    have e0b:(e11==0)=Q3:=by simpa using e0
    simp only[e0b,s13,c13,if_true];by_cases f0:e13=0
    ·have f0c:(e13 !=0)=Q4:=by simp[f0]
     simp only[f0c];rw[if_pos f0]at hP;rw[hP];exact(zdf z).trans (by rw[hz])
    ·have f0c:(e13 !=0)=Q3:=by simpa using f0
     simp only[f0c,if_true];rw[if_neg f0]at hP;exact wj (Cl e13) hP
   ·have e0b:(e11==0)=Q4:=by simpa using e0
    have e0c:(e11 !=0)=Q3:=by simpa using e0
    unfold js at hP;rw[if_neg e0]at hP;simp only[e0b,e0c,if_true];exact wj (Cl e11) hP
  ·by_cases o2:(x1.1==[106,111,105,110])=Q3
   ·have hmg:jt x1.1:=Or.inr (Or.inl (bE o2));obtain⟨z,h11,hk,hch,hlen,hA⟩:=SF y8 (by have:=mayf.2.2.2.1;omega) hwl;rw[n2,nw,hfrom,hwith]at hA;rw[n2,nw,hfrom,hwith]at h11;generalize hce:gW (aw x0 x1.2.2.1) (fV x0 x1.t.t.t) x1.t.2.1 x1.t.t.t=e11 at h11 hA;have uw:EF y8=(e11,z):=by unfold EF;rw[h11];rfl
    have c11:F6 y8=Q3:=by unfold F6;rw[h11];rfl
    have hP:=hS hmg;rw[if_pos e80]at hP;unfold dh at hP;rw[if_neg o1,if_pos o2,hce]at hP;simp only[o1,o2,uw,c11,if_true];by_cases e0:e11=0
    ·have hz:=zdb k3 hk hch (hA e0);have h13:=sA z hlen;have hT:NH z=(Tn z).2.2.2.1:=rfl;rw[hT,hz]at h13;unfold js at hP;rw[if_pos e0]at hP;generalize he13:uM _=e13 at h13 hP;have s13:fg z=(e13,z):=by unfold fg;rw[h13];rfl
     have c13:gu z=Q3:=by unfold gu;rw[h13];rfl
     have e0b:(e11==0)=Q3:=by simpa using e0
     simp only[e0b,s13,c13,if_true];by_cases f0:e13=0
     ·have f0c:(e13 !=0)=Q4:=by simp[f0]
      simp only[f0c];rw[if_pos f0]at hP;rw[hP];exact(zdf z).trans (by rw[hz])
     ·have f0c:(e13 !=0)=Q3:=by simpa using f0
      simp only[f0c,if_true];rw[if_neg f0]at hP;exact wj (Cl e13) hP
    ·have e0b:(e11==0)=Q4:=by simpa using e0
     have e0c:(e11 !=0)=Q3:=by simpa using e0
     unfold js at hP;rw[if_neg e0]at hP;simp only[e0b,e0c,if_true];exact wj (Cl e11) hP
   ·by_cases o3:(x1.1==[103,114,111,117,112])=Q3
    ·have hmg:jt x1.1:=Or.inr (Or.inr (bE o3));obtain⟨z,h11,hk,hch,hlen,hA⟩:=OY y8 (by rw[n2];exact lu hparts (bE o3));rw[n2,hfrom,non,nk]at hA;rw[n2,hfrom]at h11;generalize hce:sj (aw x0 x1.2.2.1) x1.2.2.2.1=e11 at h11 hA;have uw:wa y8=(e11,z):=by unfold wa;rw[h11];rfl
     have c11:yl y8=Q3:=by unfold yl;rw[h11];rfl
     have hP:=hS hmg;rw[if_pos e80]at hP;unfold dh at hP;rw[if_neg o1,if_neg o2,if_pos o3,hce]at hP;simp only[o1,o2,o3,uw,c11,if_true];by_cases e0:e11=0
     ·have hz:=zdb k3 hk hch (hA e0);have h13:=sA z hlen;have hT:NH z=(Tn z).2.2.2.1:=rfl;rw[hT,hz]at h13;unfold js at hP;rw[if_pos e0]at hP;generalize he13:uM _=e13 at h13 hP;have s13:fg z=(e13,z):=by unfold fg;rw[h13];rfl
      have c13:gu z=Q3:=by unfold gu;rw[h13];rfl
      have e0b:(e11==0)=Q3:=by simpa using e0
      simp only[e0b,s13,c13,if_true];by_cases f0:e13=0
      ·have f0c:(e13 !=0)=Q4:=by simp[f0]
       simp only[f0c];rw[if_pos f0]at hP;rw[hP];exact(zdf z).trans (by rw[hz])
      ·have f0c:(e13 !=0)=Q3:=by simpa using f0
       simp only[f0c,if_true];rw[if_neg f0]at hP;exact wj (Cl e13) hP
     ·have e0b:(e11==0)=Q4:=by simpa using e0
      have e0c:(e11 !=0)=Q3:=by simpa using e0
      unfold js at hP;rw[if_neg e0]at hP;simp only[e0b,e0c,if_true];exact wj (Cl e11) hP
    ·simp only[o1,o2,o3];refine wj (Cl 1) ?_;unfold aT;rw[if_neg];rintro⟨h|h|h,_⟩
     ·exact o1 (ba.2 h)
     ·exact o2 (ba.2 h)
     ·exact o3 (ba.2 h)
 ·have e8b:(e8==0)=Q4:=by simpa using e80
  have e8c:(e8 !=0)=Q3:=by simpa using e80
  have hP:jt x1.1->aT x0 x1=(e8,jw):=λh=>by rw[hS h,if_neg e80]
  simp only[e8b,e8c,if_true];by_cases o1:(x1.1==[99,111,112,121])=Q3
  ·simp only[o1,if_true];exact wj (Cl e8) (hP (Or.inl (bE o1)))
  ·by_cases o2:(x1.1==[106,111,105,110])=Q3
   ·simp only[o1,o2,if_true];exact wj (Cl e8) (hP (Or.inr (Or.inl (bE o2))))
   ·by_cases o3:(x1.1==[103,114,111,117,112])=Q3
    ·simp only[o1,o2,o3,if_true];exact wj (Cl e8) (hP (Or.inr (Or.inr (bE o3))))
    ·simp only[o1,o2,o3];refine wj (Cl 1) ?_;unfold aT;rw[if_neg];rintro⟨h|h|h,_⟩
     ·exact o1 (ba.2 h)
     ·exact o2 (ba.2 h)
     ·exact o3 (ba.2 h)
end
end Cad
