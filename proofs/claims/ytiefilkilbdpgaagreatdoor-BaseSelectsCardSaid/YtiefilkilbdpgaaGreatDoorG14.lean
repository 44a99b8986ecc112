/- Tables with rows that may be: no value twice. Tables with rows that may be. Bases that may be. Small things about lists and places. Bases from whose tables rows are taken. Bases from whose tables rows are taken, and into which rows are put: the laws. Rows that a condition meets: what rel.Where answers. Bases: the keys that are met, rows that are taken out: what is answered. Bases: what a SELECT and a DELETE answer. Bases: what a DELETE answers. Texts: an octet replaced by two, two by one; tokens. A DELETE may be where the SELECT of the same may be. Few tables, few statements. Few bases. The document's reader: letters, words. The document's values; names' places; expressions, counted, held against one another. -/
import Derived.Test.YtiefilkilbdpgaaGreatDoorG12
import Derived.Test.YtiefilkilbdpgaaGreatDoorG13
namespace Cad
open Go Go.Proofs
open Int (toNat)
open List (getD)
open List (length)
set_option maxHeartbeats 4000000

abbrev aB (c:Int) (r:List (Sem zf)):Sem zf:=getD r (toNat c) (zj zf)
def wU (rows:List (List (Sem zf))) (c:Int):Prop:=rows.Pairwise fun a b=>(aB c a).1≠0→aB c a≠aB c b

theorem ls:∀ (es:List ((Int×Int×zn)×Int)) (k:Int×Int×zn) (x:Int),gr (f4 es k) (ip es k) x=gq es k x
 | [],k,x=>by simp [f4,eA,ip,gr,gq]
 | p::r,k,x=>by
  have h:=ls r k x
  cases hk:(k==p.1) with
  | true=>
   have e:k=p.1:=fL hk
   simp [f4,eA,ip,gr,gq,e]
  | false=>
   have e:f4 (p::r) k=p::f4 r k:=by
    simp only [f4,eA,List.any_cons,hk,Bool.false_or]
    cases (r.any fun p=>k==p.1) <;> rfl
   rw [e,ip,gq,hk]
   show p::gr (f4 r k) (ip r k) x=p::gq r k x
   rw [h]
theorem wO (es:List ((Int×Int×zn)×Int)) (k k':Int×Int×zn) (x:Int):ec (gq es k x) k'=if k'=k then x else ec es k':=by
 induction es with
 | nil=>
  by_cases h:k'=k
  ·subst h; simp [gq,ec]
  ·simp [gq,ec,h]
 | cons p r ih=>
  rw [gq]
  cases hk:(k==p.1) with
  | true=>
   have e:k=p.1:=fL hk
   by_cases h:k'=k
   ·simp [ec,h]
   ·have h2:(k'==p.1)=false:=by rw [← e]; simpa using h
    have h3:(k'==k)=false:=by simpa using h
    simp only [bJ,ec,List.find?_cons,h2,h3,if_neg h]
  | false=>
   show ec (p::gq r k x) k'=_
   cases hp:(k'==p.1) with
   | true=>
    have e:k'=p.1:=fL hp
    have h:k'≠k:=by intro h; rw [← h,hp] at hk; cases hk
    simp only [ec,List.find?_cons,hp,if_neg h]
   | false=>
    simp only [ec,List.find?_cons,hp] at ih ⊢
    exact ih

def nW:List (Sem zf)→List ((Int×Int×zn)×Int)
 | []=>[]
 | v::r=>gq (nW r) v (IntKind.i64.wrap (ec (nW r) v+1))
theorem A0:∀ l:List (Sem zf),(nW l).length≤l.length
 | []=>bV _
 | v::r=>by
  rw [nW,← ls,uu]
  have:=JH (nW r) v
  have:=A0 r
  simp; omega
theorem tv:∀ (l:List (Sem zf)) (v:Sem zf),l.length≤1000000→ec (nW l) v=(l.count v:Int)
 | [],v,_=>by simp [nW,ec]
 | u::r,v,h=>by
  simp only [nq] at h
  have h1:=tv r u (by omega)
  have h2:=tv r v (by omega)
  have h3:r.count u≤r.length:=List.count_le_length
  rw [nW,wO,h1,h2,zG _ (by unfold zD; omega)]
  by_cases e:v=u
  ·subst e; simp
  ·have e':¬ (u==v)=true:=by intro h; exact e (fL h).symm
   rw [if_neg e,List.count_cons,if_neg e']; rfl

theorem Bf {x:Sem zh} {c:Int} (hc:∀ r∈x.2,zH c (length r)=true) (hl:x.2.length≤1000000):∃ b,qW x c=some (b,())∧(b=false↔wU x.2 c):=by
  let key:Nat→Sem zf:=fun i=>aB c (getD x.2 i (zj zf.sl))
  let mm:Nat→List ((Int×Int×zn)×Int):=fun i=>nW (((x.2.take i).map (aB c)).reverse)
  have hm:∀ i,i < x.2.length→mm (i+1)=gq (mm i) (key i) (IntKind.i64.wrap (ec (mm i) (key i)+1)):=by
    intro i hi
    show nW (((x.2.take (i+1)).map (aB c)).reverse)=_
    rw [List.take_succ_eq_append_getElem hi,List.map_append,List.reverse_append]
    show nW (aB c x.2[i]::_)=_
    rw [nW]
    have:key i=aB c x.2[i]:=by
      show aB c (getD x.2 i _)=_
      rw [aJ,zJ hi,dU]
    rw [this]
    rfl
  have hlen:∀ i,i≤x.2.length→(mm i).length≤i:=by
    intro i hi
    have:=A0 (((x.2.take i).map (aB c)).reverse)
    simp at this
    have h2:(mm i).length=(nW (((x.2.take i).map (aB c)).reverse)).length:=rfl
    simp at h2
    omega
  have hget:∀ i v,i≤x.2.length→ec (mm i) v=((((x.2.take i).map (aB c)).count v:Nat):Int):=by
    intro i v hi
    show ec (nW _) v=_
    rw [tv _ _ (by simp; omega),List.count_reverse]
  have hf:=JK (t:=qy) (Φ:=fun r=>zX r.2 [Sh.bool] r.1=some (true,())) 1 (fun i=>.h3 c x.2 (x.2.length:Int) (i:Int) (mm i)) (fun i=>(key i).1≠0→((x.2.take i).map (aB c)).count (key i)=0) x.2.length (by
    intro i hi _
    have k0:getD x.2 (i:Int).toNat (zj zf.sl)=getD x.2 i (zj zf.sl):=by rw [dp]
    have k1:getD x.2 i (zj zf.sl)=x.2[i]:=by rw [aJ,zJ hi,dU]
    have k2:zH c (length x.2[i])=true:=hc _ (cI hi)
    have k3:key i=aB c x.2[i]:=by show aB c (getD x.2 i _)=_; rw [k1]
    have k4:zH ((ip (mm i) (key i):Nat):Int) (f4 (mm i) (key i)).length=true:=zN (Ml _ _)
    have k5:decide ((mm i).length≤1073741824)=true:=dc (by have:=hlen i (by omega); omega)
    have k6:gr (f4 (mm i) (key i)) ((ip (mm i) (key i):Nat):Int).toNat (IntKind.i64.wrap (ec (mm i) (key i)+1))=mm (i+1):=by rw [dp,ls,hm i hi]
    have k7:ec (mm (i+1)) (key i)=((((x.2.take i).map (aB c)).count (key i)+1:Nat):Int):=by
      have h3:((x.2.take i).map (aB c)).count (key i)≤((x.2.take i).map (aB c)).length:=List.count_le_length
      simp only [vw,List.length_take] at h3
      rw [hm i hi,wO,if_pos rfl,hget i _ (by omega),zG _ (by unfold zD; omega)]
    have hv:(qy (.h3 c x.2 (x.2.length:Int) (i:Int) (mm i))).val=if (bif (key i).1 != 0 then decide (((((x.2.take i).map (aB c)).count (key i)+1:Nat):Int) > 1) else false)=true then some (.inr (.kb true,[])) else some (.inl (.h3 c x.2 (x.2.length:Int) ((i+1:Nat):Int) (mm (i+1)))):=by
      show (qy (.h3 c x.2 _ _ _)).val=_
      unfold qy
      simp only [k0,k1]
      rw [show getD x.2[i] (toNat c) (zj zf)=key i from k3.symm]
      simp only [Tr.val,aH hi,zN hi,k2,k4,k5,if_true,k6,k7]
      rw [zG i (by unfold zD; omega)]
    by_cases h1:(key i).1=0
    · refine .inl ⟨fun h=>absurd h1 h,cY.of ?_⟩
      rw [hv,if_neg (by simp [h1])]
    · by_cases h2:((x.2.take i).map (aB c)).count (key i)=0
      · refine .inl ⟨fun _=>h2,cY.of ?_⟩
        rw [hv,if_neg (by rw [h2]; simp)]
      · refine .inr ⟨fun h => h2 (h h1),(.kb true,[]),eM.of ?_,rfl⟩
        rw [hv, if_pos (by have:((key i).1 != 0)=true:=by simpa using h1
                           rw [this]; simp only [bJ,ae]; omega)])
  have hu:(∀ i,i < x.2.length→(key i).1≠0→((x.2.take i).map (aB c)).count (key i)=0)↔wU x.2 c:=by
    unfold wU
    rw [List.pairwise_iff_getElem]
    constructor
    · intro h j i hj hi hji hne e
      have k3:key i=aB c x.2[i]:=by show aB c (getD x.2 i _)=_; rw [aJ,zJ hi,dU]
      have:=h i hi (by rw [k3,← e]; exact hne)
      rw [List.count_eq_zero,k3,← e] at this
      exact this (eO.2 ⟨_,List.mem_take_iff_getElem.2 ⟨j,by omega,rfl⟩,rfl⟩)
    · intro h i hi hne
      have k3:key i=aB c x.2[i]:=by show aB c (getD x.2 i _)=_; rw [aJ,zJ hi,dU]
      rw [List.count_eq_zero]
      intro hmem
      obtain ⟨r,hr,e⟩:=eO.1 hmem
      obtain ⟨j,hj,rfl⟩:=List.mem_take_iff_getElem.1 hr
      rw [k3] at e hne
      exact h j i (by omega) hi (by omega) (by rw [e]; exact hne) e
  have hgo:(NW x c).val=some (.inl (.h3 c x.2 (x.2.length:Int) ((0:Nat):Int) (mm 0))):=rfl
  rcases hf with ⟨h1,h2⟩ | ⟨h1,r,h2,h3⟩
  · refine ⟨false,?_,fun _=>hu.1 h1,fun _=>rfl⟩
    refine dP hgo (h2.ends (eM.of (r:=(.kb false,[])) ?_)) (by omega) rfl
    show (qy (.h3 c x.2 _ _ _)).val=_
    simp only [qy,Tr.val,ap]
    rfl
  · refine ⟨true,dP hgo h2 (by omega) h3,⟨fun h=>?_,fun h=>absurd (hu.2 h) h1⟩⟩
    cases h

theorem bK {α:Type} {l:List α} {d:α} {Q:α→Prop}:(∀ i,i < l.length→Q (l.getD i d))↔∀ x∈l,Q x:=by
 constructor
 ·intro h x hx
  obtain ⟨i,hi,rfl⟩:=List.getElem_of_mem hx
  have:=h i hi
  rwa [aJ,zJ hi,dU] at this
 ·intro h i hi
  rw [aJ,zJ hi,dU]
  exact h _ (cI hi)
theorem jP {α:Type} {l:List α} {d:α} {i:Nat} (hi:i < l.length):l.getD i d∈l:=by
 rw [aJ,zJ hi,dU]
 exact cI hi
theorem BE (i:Nat) (h:i < zD):IntKind.i64.wrap (((i+1:Nat):Int) - 1)=(i:Int):=by
 have:zD=9223372036854775807:=rfl
 rw [IntKind.wrap_i64]
 omega

def JG (a b:Sem zf):Prop:=LT.lt (α:=Int) (bM a b) 0
theorem Ey {a b:Sem zf}:decide (GE.ge (α:=Int) (bM a b) 0)=true↔¬ JG a b:=by
 unfold JG
 rw [ae]
 omega

structure eC (x:Sem zh):Prop where
 may:j3 x.1=true
 few:x.2.length≤200
 fits:∀ r∈x.2,iG x.1 r=(0:Int)
 key:wU x.2 x.1.2.2.1
 uniq:∀ u∈x.1.2.2.2.1,wU x.2 u
 rise:∀ i,i < x.2.length - 1→JG (aB x.1.2.2.1 (getD x.2 i (zj zf.sl))) (aB x.1.2.2.1 (getD x.2 (i+1) (zj zf.sl)))

def SQ (r:au):Prop:=∃ e:Int,r=(.int .i64 e,[])∧e≠0

theorem Be {x:Sem zh} (hs:dX x):∃ e:Int,jU x=some (e,())∧(e=0↔eC x):=by
 have hsw:=hs.rw
 have hsu:=hs.uq
 have fin:∀ {k:Nat} {r:au},eM eL k (.h6 x.2 (x.2.length:Int) ((0:Nat):Int) (x,())) r→k≤100000000→(Fi x).val=some (.inl (.h6 x.2 (x.2.length:Int) ((0:Nat):Int) (x,())))→∀ e:Int,r=(.int .i64 e,[])→jU x=some (e,()):=by
  intro k r h hk hi e he
  subst he
  exact dP hi h hk rfl
 by_cases hm:j3 x.1=true
 case neg=>
  refine ⟨1,?_,fun h=>(by cases h),fun h=>absurd h.may hm⟩
  unfold jU aq cM
  simp only [Fi,zt,Tr.val]
  rw [if_pos (by simpa using hm)]
  rfl
 by_cases hw:x.2.length≤200
 case neg=>
  refine ⟨13,?_,fun h=>(by cases h),fun h=>absurd h.few hw⟩
  unfold jU aq cM
  simp only [Fi,zt,Tr.val]
  rw [if_neg (by simpa using hm),if_pos (by simp; omega)]
  rfl
 have hi:(Fi x).val=some (.inl (.h6 x.2 (x.2.length:Int) ((0:Nat):Int) (x,()))):=by
  simp only [Fi,zt,Tr.val]
  rw [if_neg (by simpa using hm),if_neg (by simp; omega)]
  rfl
 obtain ⟨hkc,hrc,huc,_,_⟩:=lM hm
 have h6:=JK (t:=eL) (Φ:=SQ) 1 (fun i=>.h6 x.2 (x.2.length:Int) (i:Int) (x,())) (fun i=>iG x.1 (getD x.2 i (zj zf.sl))=(0:Int)) x.2.length (by
  intro i hi _
  have hv:(eL (.h6 x.2 (x.2.length:Int) (i:Int) (x,()))).val=if (iG x.1 (getD x.2 i (zj zf.sl)) != 0)=true then some (.inr (.int .i64 (iG x.1 (getD x.2 i (zj zf.sl))),[])) else some (.inl (.h6 x.2 (x.2.length:Int) ((i+1:Nat):Int) (x,()))):=by
   show (eL (.h6 x.2 _ _ _)).val=_
   unfold eL
   simp only [zt,Tr.val,aH hi,zN hi,if_true,dp]
   rw [zG i (by unfold zD; omega)]
  by_cases h:iG x.1 (getD x.2 i (zj zf.sl))=(0:Int)
  ·refine .inl ⟨h,cY.of ?_⟩
   rw [hv,if_neg (by rw [h]; simp)]
  ·refine .inr ⟨h,_,eM.of (by rw [hv,if_pos (by simpa using h)]),_,rfl,h⟩)
 rcases h6 with ⟨hf,h6⟩ | ⟨hf,r,h6,e,he,hne⟩
 case inr=>
  exact ⟨e,fin h6 (by omega) hi e he,fun h=>absurd h hne,fun h=>absurd ((bK (Q:=fun r=>iG x.1 r=(0:Int))).2 h.fits) hf⟩
 have hfits:=(bK (Q:=fun r=>iG x.1 r=(0:Int))).1 hf
 have hlen:∀ r∈x.2,length r=x.1.2.1.length:=fun r hr=>nO (by simpa using hfits r hr)
 have hin:∀ c,BF c x.1.2.1.length→∀ r∈x.2,zH c (length r)=true:=fun c hc r hr=>by
  rw [hlen r hr]; exact xI hc
 obtain ⟨b,hb,hbu⟩:=Bf (x:=x) (c:=x.1.2.2.1) (hin _ hkc) (by omega)
 have hbc:lU x x.1.2.2.1=true:=by unfold lU; rw [hb]; rfl
 have hbv:pD x x.1.2.2.1=b:=by unfold pD; rw [hb]; rfl
 have hv6:(eL (.h6 x.2 (x.2.length:Int) (x.2.length:Int) (x,()))).val=if b=true then some (.inr (.int .i64 7,[])) else some (.inl (.h15 x.1.2.2.2.1 (x.1.2.2.2.1.length:Int) ((0:Nat):Int) (x,()))):=by
  show (eL (.h6 x.2 _ _ _)).val=_
  unfold eL
  simp only [zt,Tr.val,ap,hbc,hbv,if_true]
  rfl
 by_cases hb1:b=true
 ·refine ⟨7,fin (h6.ends (eM.of (by rw [hv6,if_pos hb1]))) (by omega) hi 7 rfl,fun h=>(by cases h),fun h=>?_⟩
  have:=hbu.2 h.key
  rw [hb1] at this; cases this
 have hkey:wU x.2 x.1.2.2.1:=hbu.1 (by simpa using hb1)
 have g15:cY eL _ (.h6 x.2 (x.2.length:Int) ((0:Nat):Int) (x,())) _:=h6.trans (cY.of (by rw [hv6,if_neg hb1]))
 have h15:=JK (t:=eL) (Φ:=SQ) 1 (fun i=>.h15 x.1.2.2.2.1 (x.1.2.2.2.1.length:Int) (i:Int) (x,())) (fun i=>wU x.2 (getD x.1.2.2.2.1 i (zj zg))) x.1.2.2.2.1.length (by
  intro i hi _
  obtain ⟨b,hb,hbu⟩:=Bf (x:=x) (c:=getD x.1.2.2.2.1 i (zj zg)) (hin _ (huc _ (jP hi))) (by omega)
  have hbc:lU x (getD x.1.2.2.2.1 i (zj zg))=true:=by unfold lU; rw [hb]; rfl
  have hbv:pD x (getD x.1.2.2.2.1 i (zj zg))=b:=by unfold pD; rw [hb]; rfl
  have hv:(eL (.h15 x.1.2.2.2.1 (x.1.2.2.2.1.length:Int) (i:Int) (x,()))).val=if b=true then some (.inr (.int .i64 7,[])) else some (.inl (.h15 x.1.2.2.2.1 (x.1.2.2.2.1.length:Int) ((i+1:Nat):Int) (x,()))):=by
   show (eL (.h15 _ _ _ _)).val=_
   unfold eL
   simp only [zt,Tr.val,aH hi,zN hi,if_true,dp,hbc,hbv]
   rw [zG i (by unfold zD; omega)]
  by_cases h:b=true
  ·refine .inr ⟨fun hu=>?_,_,eM.of (by rw [hv,if_pos h]),7,rfl,by decide⟩
   have:=hbu.2 hu
   rw [h] at this; cases this
  ·exact .inl ⟨hbu.1 (by simpa using h),cY.of (by rw [hv,if_neg h])⟩)
 rcases h15 with ⟨hq,h15⟩ | ⟨hq,r,h15,e,he,hne⟩
 case inr=>
  exact ⟨e,fin (g15.ends h15) (by omega) hi e he,fun h=>absurd h hne,fun h=>absurd ((bK (Q:=fun u=>wU x.2 u)).2 h.uniq) hq⟩
 have huniq:=(bK (Q:=fun u=>wU x.2 u)).1 hq
 have hv15:(eL (.h15 x.1.2.2.2.1 (x.1.2.2.2.1.length:Int) (x.1.2.2.2.1.length:Int) (x,()))).val=some (.inl (.h21 ((0+1:Nat):Int) (x,()))):=by
  show (eL (.h15 _ _ _ _)).val=_
  unfold eL
  simp only [Tr.val,ap]
  rfl
 have g21:=(g15.trans h15).trans (cY.of hv15)
 have h21:=JK (t:=eL) (Φ:=SQ) 1 (fun i=>.h21 ((i+1:Nat):Int) (x,())) (fun i=>JG (aB x.1.2.2.1 (getD x.2 i (zj zf.sl))) (aB x.1.2.2.1 (getD x.2 (i+1) (zj zf.sl)))) (x.2.length - 1) (by
  intro i hi _
  have h1:i < x.2.length:=by omega
  have h2:i+1 < x.2.length:=by omega
  have hv:(eL (.h21 ((i+1:Nat):Int) (x,()))).val=if decide (GE.ge (α:=Int) (bM (aB x.1.2.2.1 (getD x.2 i (zj zf.sl))) (aB x.1.2.2.1 (getD x.2 (i+1) (zj zf.sl)))) 0)=true then some (.inr (.int .i64 15,[])) else some (.inl (.h21 ((i+1+1:Nat):Int) (x,()))):=by
   show (eL (.h21 _ _)).val=_
   unfold eL
   simp only [BE i (by unfold zD; omega)]
   simp only [Tr.val,aH h2,zN h2,zN h1,dp,hin _ hkc _ (jP h1),hin _ hkc _ (jP h2),if_true]
   rw [zG (i+1) (by unfold zD; omega)]
  by_cases h:JG (aB x.1.2.2.1 (getD x.2 i (zj zf.sl))) (aB x.1.2.2.1 (getD x.2 (i+1) (zj zf.sl)))
  ·exact .inl ⟨h,cY.of (by rw [hv,if_neg (fun h2=>Ey.1 h2 h)])⟩
  ·exact .inr ⟨h,_,eM.of (by rw [hv,if_pos (Ey.2 h)]),15,rfl,by decide⟩)
 rcases h21 with ⟨hr,h21⟩ | ⟨hr,r,h21,e,he,hne⟩
 case inr=>
  exact ⟨e,fin (g21.ends h21) (by omega) hi e he,fun h=>absurd h hne,fun h=>absurd h.rise hr⟩
 have hv21:(eL (.h21 ((x.2.length - 1+1:Nat):Int) (x,()))).val=some (.inr (.int .i64 0,[])):=by
  show (eL (.h21 _ _)).val=_
  unfold eL
  simp only [Tr.val]
  rw [if_neg (by simp; omega)]
 exact ⟨0,fin (g21.ends (h21.ends (eM.of hv21))) (by omega) hi 0 rfl,fun _=>⟨hm,hw,hfits,hkey,huniq,hr⟩,fun _=>rfl⟩

abbrev cK (db:List (Sem zh)) (s:zn):Sem zh:=getD db (toNat (aE db s)) (zj zh)
def uX (db:List (Sem zh)):Prop:=∀ x∈db,∀ f∈x.1.2.2.2.2.1,LE.le (α:=Int) 0 (aE db f.2)∧∀ row∈x.2,(aB f.1 row).1≠0→kA (cK db f.2) (cK db f.2).1.2.2.1 (aB f.1 row)=true

def SK (r:au):Prop:=r=(.kb false,[])

theorem KY {db:List (Sem zh)} {x:Sem zh} {f:Sem zr} {i k:Nat} (hf:LE.le (α:=Int) 0 (aE db f.2)) (hc:∀ row∈x.2,zH f.1 (length row)=true) (hl:x.2.length≤1000):
  ((∀ j,j < x.2.length→(aB f.1 (getD x.2 j (zj zf.sl))).1≠0→kA (cK db f.2) (cK db f.2).1.2.2.1 (aB f.1 (getD x.2 j (zj zf.sl)))=true)∧
   cY ej (x.2.length * 1) (.h11 db (aE db f.2) db (db.length:Int) (i:Int) x.1.2.2.2.2.1 (x.1.2.2.2.2.1.length:Int) (k:Int) x.2 (x.2.length:Int) ((0:Nat):Int) (x,()) (f,()))
    (.h11 db (aE db f.2) db (db.length:Int) (i:Int) x.1.2.2.2.2.1 (x.1.2.2.2.2.1.length:Int) (k:Int) x.2 (x.2.length:Int) (x.2.length:Int) (x,()) (f,())))∨
  ((¬ ∀ j,j < x.2.length→(aB f.1 (getD x.2 j (zj zf.sl))).1≠0→kA (cK db f.2) (cK db f.2).1.2.2.1 (aB f.1 (getD x.2 j (zj zf.sl)))=true)∧
   ∃ r,eM ej (x.2.length * 1) (.h11 db (aE db f.2) db (db.length:Int) (i:Int) x.1.2.2.2.2.1 (x.1.2.2.2.2.1.length:Int) (k:Int) x.2 (x.2.length:Int) ((0:Nat):Int) (x,()) (f,())) r∧SK r):=by
 refine JK (t:=ej) (Φ:=SK) 1 (fun j=>.h11 db (aE db f.2) db (db.length:Int) (i:Int) x.1.2.2.2.2.1 (x.1.2.2.2.2.1.length:Int) (k:Int) x.2 (x.2.length:Int) (j:Int) (x,()) (f,())) (fun j=>(aB f.1 (getD x.2 j (zj zf.sl))).1≠0→kA (cK db f.2) (cK db f.2).1.2.2.1 (aB f.1 (getD x.2 j (zj zf.sl)))=true) x.2.length ?_
 intro j hj _
 have hv:(ej (.h11 db (aE db f.2) db (db.length:Int) (i:Int) x.1.2.2.2.2.1 (x.1.2.2.2.2.1.length:Int) (k:Int) x.2 (x.2.length:Int) (j:Int) (x,()) (f,()))).val=
   if (bif (aB f.1 (getD x.2 j (zj zf.sl))).1 != 0 then !kA (cK db f.2) (cK db f.2).1.2.2.1 (aB f.1 (getD x.2 j (zj zf.sl))) else false)=true then some (.inr (.kb false,[])) else
   some (.inl (.h11 db (aE db f.2) db (db.length:Int) (i:Int) x.1.2.2.2.2.1 (x.1.2.2.2.2.1.length:Int) (k:Int) x.2 (x.2.length:Int) ((j+1:Nat):Int) (x,()) (f,()))):=by
  show (ej (.h11 _ _ _ _ _ _ _ _ _ _ _ _ _)).val=_
  unfold ej
  simp only [zt,Tr.val,aH hj,zN hj,hc _ (jP hj),jl hf,dp,if_true,Bool.and_self]
  rw [if_pos (by cases ((getD (getD x.2 j (zj zf.sl)) (toNat f.1) (zj zf)).1 != 0) <;> rfl)]
  rw [zG j (by unfold zD; omega)]
 by_cases h1:(aB f.1 (getD x.2 j (zj zf.sl))).1=0
 ·exact .inl ⟨fun h=>absurd h1 h,cY.of (by rw [hv,if_neg (by rw [h1]; simp)])⟩
 ·have h1':((aB f.1 (getD x.2 j (zj zf.sl))).1 != 0)=true:=by simpa using h1
  by_cases h2:kA (cK db f.2) (cK db f.2).1.2.2.1 (aB f.1 (getD x.2 j (zj zf.sl)))=true
  ·exact .inl ⟨fun _=>h2,cY.of (by rw [hv,if_neg (by rw [h2,h1']; simp)])⟩
  ·exact .inr ⟨fun h=>h2 (h h1),_,eM.of (by rw [hv,if_pos (by rw [h1']; simpa using h2)]),rfl⟩

theorem Qs {db:List (Sem zh)} {x:Sem zh} {i:Nat} (hc:∀ f∈x.1.2.2.2.2.1,∀ row∈x.2,zH f.1 (length row)=true) (hl:x.2.length≤1000) (hr:x.1.2.2.2.2.1.length≤1000):
  let P:Nat→Prop:=fun k=>LE.le (α:=Int) 0 (aE db (getD x.1.2.2.2.2.1 k (zj zr)).2)∧∀ row∈x.2,(aB (getD x.1.2.2.2.2.1 k (zj zr)).1 row).1≠0→kA (cK db (getD x.1.2.2.2.2.1 k (zj zr)).2) (cK db (getD x.1.2.2.2.2.1 k (zj zr)).2).1.2.2.1 (aB (getD x.1.2.2.2.2.1 k (zj zr)).1 row)=true
  ((∀ k,k < x.1.2.2.2.2.1.length→P k)∧cY ej (x.1.2.2.2.2.1.length * 1002) (.h5 db db (db.length:Int) (i:Int) x.1.2.2.2.2.1 (x.1.2.2.2.2.1.length:Int) ((0:Nat):Int) (x,())) (.h5 db db (db.length:Int) (i:Int) x.1.2.2.2.2.1 (x.1.2.2.2.2.1.length:Int) (x.1.2.2.2.2.1.length:Int) (x,())))∨
  ((¬ ∀ k,k < x.1.2.2.2.2.1.length→P k)∧∃ r,eM ej (x.1.2.2.2.2.1.length * 1002) (.h5 db db (db.length:Int) (i:Int) x.1.2.2.2.2.1 (x.1.2.2.2.2.1.length:Int) ((0:Nat):Int) (x,())) r∧SK r):=by
 intro P
 refine JK (t:=ej) (Φ:=SK) 1002 (fun k=>.h5 db db (db.length:Int) (i:Int) x.1.2.2.2.2.1 (x.1.2.2.2.2.1.length:Int) (k:Int) (x,())) P x.1.2.2.2.2.1.length ?_
 intro k hk _
 have hv:(ej (.h5 db db (db.length:Int) (i:Int) x.1.2.2.2.2.1 (x.1.2.2.2.2.1.length:Int) (k:Int) (x,()))).val=
   if decide (LT.lt (α:=Int) (aE db (getD x.1.2.2.2.2.1 k (zj zr)).2) 0)=true then some (.inr (.kb false,[])) else
   some (.inl (.h11 db (aE db (getD x.1.2.2.2.2.1 k (zj zr)).2) db (db.length:Int) (i:Int) x.1.2.2.2.2.1 (x.1.2.2.2.2.1.length:Int) (k:Int) x.2 (x.2.length:Int) ((0:Nat):Int) (x,()) (getD x.1.2.2.2.2.1 k (zj zr),()))):=by
  show (ej (.h5 _ _ _ _ _ _ _ _)).val=_
  unfold ej
  simp only [Tr.val,aH hk,zN hk,dp,if_true]
  rfl
 by_cases h1:LE.le (α:=Int) 0 (aE db (getD x.1.2.2.2.2.1 k (zj zr)).2)
 ·have g1:=cY.of (t:=ej) (s:=.h5 db db (db.length:Int) (i:Int) x.1.2.2.2.2.1 (x.1.2.2.2.2.1.length:Int) (k:Int) (x,())) (by rw [hv,if_neg (by rw [ae]; omega)])
  rcases KY (db:=db) (x:=x) (f:=getD x.1.2.2.2.2.1 k (zj zr)) (i:=i) (k:=k) h1 (hc _ (jP hk)) hl with ⟨h2,h3⟩ | ⟨h2,r,h3,h4⟩
  ·have hv2:(ej (.h11 db (aE db (getD x.1.2.2.2.2.1 k (zj zr)).2) db (db.length:Int) (i:Int) x.1.2.2.2.2.1 (x.1.2.2.2.2.1.length:Int) (k:Int) x.2 (x.2.length:Int) (x.2.length:Int) (x,()) (getD x.1.2.2.2.2.1 k (zj zr),()))).val=
     some (.inl (.h5 db db (db.length:Int) (i:Int) x.1.2.2.2.2.1 (x.1.2.2.2.2.1.length:Int) ((k+1:Nat):Int) (x,()))):=by
    show (ej (.h11 _ _ _ _ _ _ _ _ _ _ _ _ _)).val=_
    unfold ej
    simp only [Tr.val,ap]
    rw [zG k (by unfold zD; omega)]
    rfl
   refine .inl ⟨⟨h1,?_⟩,((g1.trans h3).trans (cY.of hv2)).mono (by omega)⟩
   exact (bK (Q:=fun row=>(aB (getD x.1.2.2.2.2.1 k (zj zr)).1 row).1≠0→kA (cK db (getD x.1.2.2.2.2.1 k (zj zr)).2) (cK db (getD x.1.2.2.2.2.1 k (zj zr)).2).1.2.2.1 (aB (getD x.1.2.2.2.2.1 k (zj zr)).1 row)=true)).1 h2
  ·refine .inr ⟨fun h=>h2 ?_,r,(g1.ends h3).mono (by omega),h4⟩
   exact (bK (Q:=fun row=>(aB (getD x.1.2.2.2.2.1 k (zj zr)).1 row).1≠0→kA (cK db (getD x.1.2.2.2.2.1 k (zj zr)).2) (cK db (getD x.1.2.2.2.2.1 k (zj zr)).2).1.2.2.1 (aB (getD x.1.2.2.2.2.1 k (zj zr)).1 row)=true)).2 h.2
 ·exact .inr ⟨fun h=>h1 h.1,_,(eM.of (by rw [hv,if_pos (by rw [ae]; omega)])).mono (by omega),rfl⟩

theorem pZ {db:List (Sem zh)} (hc:∀ x∈db,∀ f∈x.1.2.2.2.2.1,∀ row∈x.2,zH f.1 (length row)=true) (hs:∀ x∈db,dX x) (hl:db.length≤13):∃ b,nv db=some (b,())∧(b=true↔uX db):=by
 have h2:=JK (t:=ej) (Φ:=SK) 1010000 (fun i=>.h2 db db (db.length:Int) (i:Int)) (fun i=>∀ f∈(getD db i (zj zh)).1.2.2.2.2.1,LE.le (α:=Int) 0 (aE db f.2)∧∀ row∈(getD db i (zj zh)).2,(aB f.1 row).1≠0→kA (cK db f.2) (cK db f.2).1.2.2.1 (aB f.1 row)=true) db.length (by
  intro i hi _
  have hm:=jP (d:=zj zh) hi
  have hS:=hs _ hm
  have s1:=hS.rf
  have s2:=hS.rw
  have hv:(ej (.h2 db db (db.length:Int) (i:Int))).val=some (.inl (.h5 db db (db.length:Int) (i:Int) (getD db i (zj zh)).1.2.2.2.2.1 ((getD db i (zj zh)).1.2.2.2.2.1.length:Int) ((0:Nat):Int) (getD db i (zj zh),()))):=by
   show (ej (.h2 _ _ _ _)).val=_
   unfold ej
   simp only [Tr.val,aH hi,zN hi,dp,if_true]
   rfl
  have g1:=cY.of hv
  rcases Qs (db:=db) (x:=getD db i (zj zh)) (i:=i) (hc _ hm) s2 s1 with ⟨h2,h3⟩ | ⟨h2,r,h3,h4⟩
  ·have hv2:(ej (.h5 db db (db.length:Int) (i:Int) (getD db i (zj zh)).1.2.2.2.2.1 ((getD db i (zj zh)).1.2.2.2.2.1.length:Int) ((getD db i (zj zh)).1.2.2.2.2.1.length:Int) (getD db i (zj zh),()))).val=some (.inl (.h2 db db (db.length:Int) ((i+1:Nat):Int))):=by
    show (ej (.h5 _ _ _ _ _ _ _ _)).val=_
    unfold ej
    simp only [Tr.val,ap]
    rw [zG i (by unfold zD; omega)]
    rfl
   refine .inl ⟨?_,((g1.trans h3).trans (cY.of hv2)).mono (by omega)⟩
   exact (bK (Q:=fun f:Sem zr=>LE.le (α:=Int) 0 (aE db f.2)∧∀ row∈(getD db i (zj zh)).2,(aB f.1 row).1≠0→kA (cK db f.2) (cK db f.2).1.2.2.1 (aB f.1 row)=true)).1 h2
  ·refine .inr ⟨fun h=>h2 ?_,r,(g1.ends h3).mono (by omega),h4⟩
   exact (bK (Q:=fun f:Sem zr=>LE.le (α:=Int) 0 (aE db f.2)∧∀ row∈(getD db i (zj zh)).2,(aB f.1 row).1≠0→kA (cK db f.2) (cK db f.2).1.2.2.1 (aB f.1 row)=true)).2 h)
 have hb:(∀ i,i < db.length→∀ f∈(getD db i (zj zh)).1.2.2.2.2.1,LE.le (α:=Int) 0 (aE db f.2)∧∀ row∈(getD db i (zj zh)).2,(aB f.1 row).1≠0→kA (cK db f.2) (cK db f.2).1.2.2.1 (aB f.1 row)=true)↔uX db:=
  bK (Q:=fun x:Sem zh=>∀ f∈x.1.2.2.2.2.1,LE.le (α:=Int) 0 (aE db f.2)∧∀ row∈x.2,(aB f.1 row).1≠0→kA (cK db f.2) (cK db f.2).1.2.2.1 (aB f.1 row)=true)
 have hi:(Xv db).val=some (.inl (.h2 db db (db.length:Int) ((0:Nat):Int))):=rfl
 rcases h2 with ⟨h2,h3⟩ | ⟨h2,r,h3,h4⟩
 ·refine ⟨true,dP hi (h3.ends (eM.of (r:=(.kb true,[])) ?_)) (by omega) rfl,fun _=>hb.1 h2,fun _=>rfl⟩
  show (ej (.h2 _ _ _ _)).val=_
  unfold ej
  simp only [Tr.val,ap]
  rfl
 ·unfold SK at h4
  subst h4
  exact ⟨false,dP hi h3 (by omega) rfl,fun h=>(by cases h),fun h=>absurd (hb.2 h) h2⟩

structure f7 (db:List (Sem zh)):Prop where
 few:db.length≤12
 names:∀ i,i < db.length - 1→Op.bytesLess (getD db i (zj zh)).1.1 (getD db (i+1) (zj zh)).1.1=true
 rels:∀ x∈db,eC x
 bound:uX db

theorem eC.cols {x:Sem zh} (h:eC x):∀ f∈x.1.2.2.2.2.1,∀ row∈x.2,zH f.1 (length row)=true:=by
 intro f hf row hr
 obtain ⟨_,h1,_,_,_⟩:=lM h.may
 rw [nO (by simpa using h.fits row hr)]
 exact xI (h1 f hf)

theorem p0 {db:List (Sem zh)} (hs:∀ x∈db,dX x):∃ e:Int,nz db=some (e,())∧(e=0↔f7 db):=by
 by_cases hw:db.length≤12
 case neg=>
  refine ⟨13,?_,fun h=>(by cases h),fun h=>absurd h.few hw⟩
  unfold nz aq cM
  simp only [Ly,Tr.val]
  rw [if_pos (by simp; omega)]
  rfl
 have hi:(Ly db).val=some (.inl (.h4 db ((0+1:Nat):Int))):=by
  simp only [Ly,Tr.val]
  rw [if_neg (by simp; omega)]
  rfl
 have h4:=JK (t:=jY) (Φ:=SQ) 1 (fun i=>.h4 db ((i+1:Nat):Int)) (fun i=>Op.bytesLess (getD db i (zj zh)).1.1 (getD db (i+1) (zj zh)).1.1=true) (db.length - 1) (by
  intro i hi _
  have h1:i < db.length:=by omega
  have h2:i+1 < db.length:=by omega
  have hv:(jY (.h4 db ((i+1:Nat):Int))).val=if (!Op.bytesLess (getD db i (zj zh)).1.1 (getD db (i+1) (zj zh)).1.1)=true then some (.inr (.int .i64 15,[])) else some (.inl (.h4 db ((i+1+1:Nat):Int))):=by
   show (jY (.h4 _ _)).val=_
   unfold jY
   simp only [BE i (by unfold zD; omega)]
   simp only [Tr.val,aH h2,zN h2,zN h1,dp,if_true]
   rw [zG (i+1) (by unfold zD; omega)]
  by_cases h:Op.bytesLess (getD db i (zj zh)).1.1 (getD db (i+1) (zj zh)).1.1=true
  ·exact .inl ⟨h,cY.of (by rw [hv,if_neg (by rw [h]; simp)])⟩
  ·exact .inr ⟨h,_,eM.of (by rw [hv,if_pos (by simpa using h)]),15,rfl,by decide⟩)
 rcases h4 with ⟨hn,h4⟩ | ⟨hn,r,h4,e,he,hne⟩
 case inr=>
  subst he
  exact ⟨e,dP hi h4 (by omega) rfl,fun h=>absurd h hne,fun h=>absurd h.names hn⟩
 have hv4:(jY (.h4 db ((db.length - 1+1:Nat):Int))).val=some (.inl (.h9 db db (db.length:Int) ((0:Nat):Int))):=by
  show (jY (.h4 _ _)).val=_
  unfold jY
  simp only [Tr.val]
  rw [if_neg (by simp; omega)]
  rfl
 have g9:=h4.trans (cY.of hv4)
 have h9:=JK (t:=jY) (Φ:=SQ) 1 (fun i=>.h9 db db (db.length:Int) (i:Int)) (fun i=>eC (getD db i (zj zh))) db.length (by
  intro i hi _
  obtain ⟨e,he,heq⟩:=Be (hs _ (jP (d:=zj zh) hi))
  have hc:qU (getD db i (zj zh))=true:=by unfold qU; rw [he]; rfl
  have hv0:x8 (getD db i (zj zh))=e:=by unfold x8; rw [he]; rfl
  have hv:(jY (.h9 db db (db.length:Int) (i:Int))).val=if (e != 0)=true then some (.inr (.int .i64 e,[])) else some (.inl (.h9 db db (db.length:Int) ((i+1:Nat):Int))):=by
   show (jY (.h9 _ _ _ _)).val=_
   unfold jY
   simp only [zt,Tr.val,aH hi,zN hi,dp,if_true,Prod.eta,hc,hv0]
   rw [zG i (by unfold zD; omega)]
  by_cases h:e=0
  ·exact .inl ⟨heq.1 h,cY.of (by rw [hv,if_neg (by rw [h]; simp)])⟩
  ·exact .inr ⟨fun hr=>h (heq.2 hr),_,eM.of (by rw [hv,if_pos (by simpa using h)]),e,rfl,h⟩)
 rcases h9 with ⟨hr,h9⟩ | ⟨hr,r,h9,e,he,hne⟩
 case inr=>
  subst he
  exact ⟨e,dP hi (g9.ends h9) (by omega) rfl,fun h=>absurd h hne,fun h=>absurd ((bK (Q:=eC)).2 h.rels) hr⟩
 have hrels:=(bK (Q:=eC)).1 hr
 obtain ⟨b,hb,hbb⟩:=pZ (db:=db) (fun x hx=>(hrels x hx).cols) hs (by omega)
 have hc:ly db=true:=by unfold ly; rw [hb]; rfl
 have hv0:oP db=b:=by unfold oP; rw [hb]; rfl
 have hv9:(jY (.h9 db db (db.length:Int) (db.length:Int))).val=if (!b)=true then some (.inr (.int .i64 10,[])) else some (.inr (.int .i64 0,[])):=by
  show (jY (.h9 _ _ _ _)).val=_
  unfold jY
  simp only [Tr.val,ap,hc,hv0,if_true]
  rfl
 by_cases h:b=true
 ·exact ⟨0,dP hi (g9.ends (h9.ends (eM.of (by rw [hv9,if_neg (by rw [h]; simp)])))) (by omega) rfl,fun _=>⟨hw,hn,hrels,hbb.1 h⟩,fun _=>rfl⟩
 ·exact ⟨10,dP hi (g9.ends (h9.ends (eM.of (by rw [hv9,if_pos (by simpa using h)])))) (by omega) rfl,fun h=>(by cases h),fun hB=>absurd (hbb.2 hB.bound) h⟩
theorem jI {db:List (Sem zh)} (hs:∀ x∈db,dX x):qL db=true:=by
 obtain ⟨e,h,_⟩:=p0 hs
 unfold qL; rw [h]; rfl
theorem oQ {db:List (Sem zh)} (hs:∀ x∈db,dX x):mK db=(0:Int)↔f7 db:=by
 obtain ⟨e,h,h2⟩:=p0 hs
 unfold mK; rw [h]; exact h2
set_option maxHeartbeats 1000000

theorem fq:∀ s:zn,Op.bytesLess s s=false
 | []=>rfl
 | a::r=>by simp [Op.bytesLess,fq r]
theorem AK {α:Type} (l:List α) (d:α) {i:Nat} (h:i < l.length):l.getD i d∈l:=by
 rw [aJ,zJ h,dU]
 exact cI h
theorem te {α β:Type} (f:α→β) (p:β→Bool):∀ (l:List α) (i:Nat),zQ p (l.map f) i=zQ (fun x=>p (f x)) l i
 | [],_=>rfl
 | x::r,i=>by simp only [kG,zQ,te f p r]
theorem sZ {db:List (Sem zh)} {s:zn} (h:(0:Int)≤aE db s):db.getD (toNat (aE db s)) (zj zh)∈db:=by
 have:=jl h
 simp only [zH,aC,ae] at this
 exact AK _ _ (by omega)

theorem kf:∀ {a b c:zn},Op.bytesLess a b=true→Op.bytesLess b c=true→Op.bytesLess a c=true
 | _,[],_,h,_=>by cases ‹zn› <;> simp [Op.bytesLess] at h
 | _,_::_,[],_,h=>by simp [Op.bytesLess] at h
 | [],_::_,_::_,_,_=>rfl
 | a::x,b::y,c::z,h,g=>by
  simp only [Op.bytesLess,rD,ae,aC,ee] at h g ⊢
  rcases h with h | ⟨rfl,h⟩
  ·rcases g with g | ⟨rfl,g⟩
   ·exact .inl (UInt8.lt_trans h g)
   ·exact .inl h
  ·rcases g with g | ⟨rfl,g⟩
   ·exact .inl g
   ·exact .inr ⟨rfl,kf h g⟩

def Lx (p q:Int×Int×zn):Prop:=p.1 < q.1∨(p.1=q.1∧(p.2.1 < q.2.1∨(p.2.1=q.2.1∧Op.bytesLess p.2.2 q.2.2=true)))
theorem Lx.trans {p q r:Int×Int×zn} (h:Lx p q) (g:Lx q r):Lx p r:=by
 unfold Lx at *
 rcases h with h | ⟨h1,h | ⟨h2,h⟩⟩ <;> rcases g with g | ⟨g1,g | ⟨g2,g⟩⟩
 ·exact .inl (by omega)
 ·exact .inl (by omega)
 ·exact .inl (by omega)
 ·exact .inl (by omega)
 ·exact .inr ⟨by omega,.inl (by omega)⟩
 ·exact .inr ⟨by omega,.inl (by omega)⟩
 ·exact .inl (by omega)
 ·exact .inr ⟨by omega,.inl (by omega)⟩
 ·exact .inr ⟨by omega,.inr ⟨by omega,kf h g⟩⟩
theorem Lx.irrefl {p:Int×Int×zn}:¬ Lx p p:=by
 unfold Lx
 rw [fq]
 rintro (h | ⟨_,h | ⟨_,h⟩⟩)
 ·omega
 ·omega
 ·cases h
theorem Dk (a b:Int):EN a b=if a < b then -1 else if b < a then 1 else 0:=by
 show (if (a != a)=true then _ else if (b != b)=true then (1:Int) else if decide (a < b)=true then -1 else if decide (a > b)=true then 1 else 0)=_
 simp
theorem Gi (a b:Int):vC a b=if a < b then -1 else if b < a then 1 else 0:=Dk a b
theorem K7 (a b:zn):(w8 a b=-1∧Op.bytesLess a b=true)∨(w8 a b=0∧a=b)∨(w8 a b=1∧Op.bytesLess a b=false):=by
 have:w8 a b=if Op.bytesLess a b=true then -1 else if (!(Op.bytesLess a b||a==b))=true then 1 else 0:=by
  show (if (!a==a)=true then _ else if (!b==b)=true then (1:Int) else if Op.bytesLess a b=true then -1 else if (!(Op.bytesLess a b||a==b))=true then 1 else 0)=_
  simp
 rw [this]
 cases h:Op.bytesLess a b with
 | true=>exact .inl ⟨rfl,rfl⟩
 | false=>
  by_cases e:a=b
  ·exact .inr (.inl ⟨by simp [e],e⟩)
  ·exact .inr (.inr ⟨by simp [e],rfl⟩)
theorem Sl (k n k' n':Int) (s s':zn):(Oo [EN k k',vC n n',w8 s s'] < 0)↔Lx (k,n,s) (k',n',s'):=by
 show _↔(k < k'∨(k=k'∧(n < n'∨(n=n'∧Op.bytesLess s s'=true))))
 rw [Dk,Gi]
 simp only [Oo]
 have irr:=fq s'
 rcases Int.lt_trichotomy k k' with h | h | h
 ·simp [h]
 ·subst h
  rcases Int.lt_trichotomy n n' with g | g | g
  ·simp [g]
  ·subst g
   rcases K7 s s' with ⟨e,f⟩ | ⟨e,f⟩ | ⟨e,f⟩
   ·simp [e,f]
   ·subst f; simp [e,irr]
   ·simp [e,f]
  ·have:¬ n < n':=by omega
   have:n≠n':=by omega
   simp [*]
 ·have:¬ k < k':=by omega
  have:k≠k':=by omega
  simp [*]
theorem rp {a b:Sem zf}:JG a b↔Lx (bf a) (bf b):=Sl (bf a).1 (bf a).2.1 (bf b).1 (bf b).2.1 (bf a).2.2 (bf b).2.2
theorem wM {a b c:Sem zf} (h:JG a b) (g:JG b c):JG a c:=rp.2 ((rp.1 h).trans (rp.1 g))
theorem C2 {a:Sem zf}:¬ JG a a:=fun h=>Lx.irrefl (rp.1 h)

theorem yg {α:Type} {R:α→α→Prop} (ht:∀ {a b c},R a b→R b c→R a c) {d:α}:∀ {l:List α},(∀ i,i < l.length - 1→R (l.getD i d) (l.getD (i+1) d))↔l.Pairwise R
 | []=>by simp
 | [a]=>by simp
 | a::b::r=>by
  have IH:=yg (R:=R) ht (d:=d) (l:=b::r)
  constructor
  ·intro h
   have h0:=h 0 (by simp)
   have h1:(b::r).Pairwise R:=IH.1 fun i hi=>h (i+1) (by simp only [nq] at hi ⊢; omega)
   refine List.pairwise_cons.2 ⟨fun x hx=>?_,h1⟩
   rcases eE.1 hx with rfl | hx
   ·exact h0
   ·exact ht h0 ((List.pairwise_cons.1 h1).1 x hx)
  ·intro h i hi
   obtain ⟨h0,h1⟩:=List.pairwise_cons.1 h
   cases i with
   | zero=>exact h0 b (by simp)
   | succ i=>exact IH.2 h1 i (by simp only [nq] at hi ⊢; omega)

def NZ (k:Int) (a b:List (Sem zf)):Prop:=JG (aB k a) (aB k b)
theorem eC.pw {x:Sem zh} (h:eC x):x.2.Pairwise (NZ x.1.2.2.1):=(yg (R:=NZ x.1.2.2.1) wM).1 h.rise

theorem eC.sub {t:Sem zE} {l l':List (List (Sem zf))} (h:eC (t,l)) (hs:List.Sublist l' l):eC (t,l') where
 may:=h.may
 few:=g7 hs.length_le h.few
 fits:=fun r hr=>h.fits r (hs.subset hr)
 key:=List.Pairwise.sublist hs h.key
 uniq:=fun u hu=>List.Pairwise.sublist hs (h.uniq u hu)
 rise:=(yg (R:=NZ t.2.2.1) wM).2 (List.Pairwise.sublist hs h.pw)

theorem wx (db:List (Sem zh)) (i:Nat):(db.getD i (zj zh)).1=(db.map (·.1)).getD i (zj zh).1:=by
 rw [aJ,aJ,cP]
 cases db[i]? <;> rfl
theorem rP (db:List (Sem zh)) (s:zn):aE db s=zQ (fun t:Sem zE=>t.1==s) (db.map (·.1)) 0:=(te (fun x:Sem zh=>x.1) (fun t:Sem zE=>t.1==s) db 0).symm
theorem AU {db:List (Sem zh)} {i:Nat} {x:Sem zh} (h:(db.getD i (zj zh)).1=x.1):(db.set i x).map (·.1)=db.map (·.1):=by
 rw [List.map_set]
 refine List.ext_getElem? fun j=>?_
 rw [iZ]
 by_cases e:i=j
 ·subst e
  rw [if_pos rfl]
  by_cases hi:i < (db.map (·.1)).length
  ·rw [if_pos hi,zJ hi,← h]
   congr 1
   have hi':i < db.length:=by simpa using hi
   rw [aJ,zJ hi',List.getElem_map]
   rfl
  ·rw [if_neg hi,dn (by omega)]
 ·rw [if_neg e]

theorem f7.put {db:List (Sem zh)} {i:Nat} {x:Sem zh} (h:f7 db) (ht:(db.getD i (zj zh)).1=x.1) (hx:eC x) (hb:uX (db.set i x)):f7 (db.set i x) where
 few:=by rw [rE]; exact h.few
 names:=fun j hj=>by
  rw [rE] at hj
  have:=h.names j hj
  rw [wx,wx] at this ⊢
  rwa [AU ht]
 rels:=fun y hy=>by
  rcases ry hy with hy | rfl
  ·exact h.rels y hy
  ·exact hx
 bound:=hb
theorem EK {db:List (Sem zh)} {i:Nat} {x:Sem zh} (ht:(db.getD i (zj zh)).1=x.1) (s:zn):aE (db.set i x) s=aE db s:=by
 rw [rP,rP,AU ht]

def mh (es:List (V×Int)) (ks:List V):List (V×Int):=ks.foldl (fun es k=>gq es k 0) es
theorem BC {k:V} {n:Int}:∀ {es:List (V×Int)},(∀ p∈es,p.1≠k)→gq es k n=es++[(k,n)]
 | [],_=>rfl
 | p::r,h=>by
  have h1:(k==p.1)=false:=by simpa using fun e=>h p (by simp) e.symm
  show (bif k==p.1 then _ else _)=_
  rw [h1]
  show p::gq r k n=_
  rw [BC fun q hq=>h q (by simp [hq])]
  rfl
theorem tf:∀ (ks:List V) (es:List (V×Int)),ks.Pairwise (· ≠ ·)→(∀ p∈es,∀ k∈ks,p.1≠k)→mh es ks=es++ks.map fun k=>(k,0)
 | [],es,_,_=>by simp [mh]
 | k::r,es,hp,h=>by
  obtain ⟨h0,h1⟩:=List.pairwise_cons.1 hp
  show mh (gq es k 0) r=_
  rw [BC fun p hp=>h p hp k (by simp),tf r _ h1 ?_]
  ·simp
  ·intro p hp q hq
   rcases bg.1 hp with hp | hp
   ·exact h p hp q (by simp [hq])
   ·simp only [bz] at hp
    subst hp
    exact h0 q hq
theorem DC {c:Int} {l:List (List (Sem zf))} (h:l.Pairwise (NZ c)):(l.map (aB c)).Pairwise (· ≠ ·):=by
 rw [List.pairwise_map]
 exact h.imp fun {a b} hab (e:aB c a=aB c b)=>C2 (a:=aB c b) (by have:=hab; unfold NZ at this; rwa [e] at this)
theorem AM {c:Int} {l:List (List (Sem zf))} (h:l.Pairwise (NZ c)):(mh [] (l.map (aB c))).length=l.length:=by
 rw [tf _ _ (DC h) (by simp)]
 simp
theorem HE {c:Int} {l:List (List (Sem zf))} (h:l.Pairwise (NZ c)) (v:V):eA (mh [] (l.map (aB c))) v=(l.map (aB c)).any (v == ·):=by
 rw [tf _ _ (DC h) (by simp)]
 unfold eA
 simp [List.any_map,np]
theorem Fm {c:Int} {l:List (List (Sem zf))} {p:List (Sem zf)→Bool} (h:l.Pairwise (NZ c)):
  ((l.filter fun r => !eA (mh [] ((l.filter p).map (aB c))) (aB c r)).filter p)=[]:=by
 rw [List.filter_filter,List.filter_eq_nil_iff]
 intro r hr
 rw [HE (List.Pairwise.sublist List.filter_sublist h)]
 cases hp:p r with
 | false=>simp
 | true=>
  have:((l.filter p).map (aB c)).any (aB c r == ·)=true:=by
   rw [List.any_map,List.any_eq_true]
   exact ⟨r,List.mem_filter.2 ⟨hr,hp⟩,by simp⟩
  rw [this]
  simp

def bC (x:Sem zh) (p:List (Sem zf)→Bool):Sem zh:=(x.1,x.2.filter fun r => !eA (mh [] ((x.2.filter p).map (aB x.1.2.2.1))) (aB x.1.2.2.1 r))
theorem C0 {db:List (Sem zh)} {n:zn} {i:Nat} {x:Sem zh} {p:List (Sem zf)→Bool} (h:f7 db) (hi:(aE db n)=(i:Int)) (hx:db.getD i (zj zh)=x) (hb:uX (db.set i (bC x p))):
  f7 (db.set i (bC x p))∧aE (db.set i (bC x p)) n=(i:Int)∧(db.set i (bC x p)).getD i (zj zh)=bC x p∧(bC x p).2.filter p=[]∧(mh [] ((x.2.filter p).map (aB x.1.2.2.1))).length=(x.2.filter p).length:=by
 have hf:(0:Int)≤aE db n:=by rw [hi]; omega
 have hm:=sZ hf
 rw [show toNat (aE db n)=i by rw [hi]; rfl,hx] at hm
 have hr:=h.rels x hm
 have hl:i < db.length:=by
  have:=jl hf
  rw [hi] at this
  simp only [zH,aC,ae] at this
  omega
 have ht:(db.getD i (zj zh)).1=(bC x p).1:=by rw [hx]; rfl
 refine ⟨h.put ht (eC.sub (t:=x.1) (l:=x.2) hr List.filter_sublist) hb,by rw [EK ht,hi],?_,Fm hr.pw,AM (List.Pairwise.sublist List.filter_sublist hr.pw)⟩
 rw [aJ,pQ hl]
 rfl

set_option maxHeartbeats 2000000

noncomputable def bZ (e:ze) (cols:List (Sem zi)):Int:=if e.op=[] then 0 else if (be e cols).2=(0:Int)∧(be e cols).1≠(3:Int)∧(be e cols).1≠(0:Int) then 5 else (be e cols).2
noncomputable def kH (e:ze) (cols:List (Sem zi)) (r:List (Sem zf)):Bool:=bif e.op==[] then true else (g8 e cols r).1==3&&((g8 e cols r).2.1==1&&((g8 e cols r).2.2==[]&&true))
noncomputable def fS (x:Sem zh) (e:ze):List (List (Sem zf)):=x.2.filter (kH e x.1.2.1)

theorem Mo (x:Sem zh) (e:ze) (hl:x.2.length≤1000000) (hr:∀ r∈x.2,length r≤1000000):∀ (m i n:Nat) (acc:List (List (Sem zf))),x.2.length - i=m→i≤x.2.length→acc.length≤i→m < n→
  bE yx n (.h9b x.2 (x.2.length:Int) (i:Int) (x,()) (e,()) acc)=some (.tup [.vec 0,.int .i64 0],[.vec zf.sl (acc++(x.2.drop i).filter (kH e x.1.2.1))]):=by
 intro m
 induction m with
 | zero=>
  intro i n acc hm hi ha hn
  obtain rfl:i=x.2.length:=by omega
  obtain ⟨n,rfl⟩:∃ k,n=k+1:=⟨n - 1,by omega⟩
  rw [bE]
  simp only [yx,Tr.val,ap,cQ,List.filter_nil,pR]
  rfl
 | succ m IH=>
  intro i n acc hm hi ha hn
  have hlt:i < x.2.length:=by omega
  obtain ⟨n,rfl⟩:∃ k,n=k+1:=⟨n - 1,by omega⟩
  have h3:decide (length x.2[i]≤1073741824)=true:=by
   have:=hr _ (cI hlt)
   simp only [ae]; omega
  have h4:decide (acc.length+[x.2[i]].length≤1073741824)=true:=by simp only [ae,List.length_singleton]; omega
  rw [bE,c6 hlt]
  simp only [yx,Tr.val,zt,aH hlt,zN hlt,ag x.2 _ hlt,h3,h4,zG i (by unfold zD; omega),if_true]
  by_cases h:kH e x.1.2.1 x.2[i]=true
  ·rw [List.filter_cons_of_pos h]
   have h':=h
   unfold kH at h'
   rw [if_pos h']
   have:=IH (i+1) n (acc++[x.2[i]]) (by omega) (by omega) (by simp; omega) (by omega)
   rw [List.append_assoc] at this
   exact this
  ·rw [List.filter_cons_of_neg h]
   have h':=h
   unfold kH at h'
   rw [if_neg h']
   exact IH (i+1) n acc (by omega) (by omega) (by omega) (by omega)

theorem Mn (x:Sem zh) (e:ze) (hl:x.2.length≤1000000) (hr:∀ r∈x.2,length r≤1000000):∀ (m i n:Nat),x.2.length - i=m→i≤x.2.length→m < n→
  ∃ r,bE yx n (.h9 x.2 (x.2.length:Int) (i:Int) (x,()) (e,()))=some r∧zX r.2 [zf.sl.sl,zg] r.1=some ((x.2.drop i).filter (kH e x.1.2.1),0,()):=by
 intro m
 induction m with
 | zero=>
  intro i n hm hi hn
  obtain rfl:i=x.2.length:=by omega
  obtain ⟨n,rfl⟩:∃ k,n=k+1:=⟨n - 1,by omega⟩
  rw [bE]
  simp only [yx,Tr.val,ap,cQ,List.filter_nil]
  exact ⟨_,rfl,rfl⟩
 | succ m IH=>
  intro i n hm hi hn
  have hlt:i < x.2.length:=by omega
  obtain ⟨n,rfl⟩:∃ k,n=k+1:=⟨n - 1,by omega⟩
  have h3:decide (length x.2[i]≤1073741824)=true:=by
   have:=hr _ (cI hlt)
   simp only [ae]; omega
  have h4:decide ([x.2[i]].length≤1073741824)=true:=by simp
  rw [bE,c6 hlt]
  simp only [yx,Tr.val,zt,aH hlt,zN hlt,ag x.2 _ hlt,h3,h4,zG i (by unfold zD; omega),if_true]
  by_cases h:kH e x.1.2.1 x.2[i]=true
  ·rw [List.filter_cons_of_pos h]
   have h':=h
   unfold kH at h'
   rw [if_pos h']
   exact ⟨_,Mo x e hl hr m (i+1) n [x.2[i]] (by omega) (by omega) (by simp) (by omega),rfl⟩
  ·rw [List.filter_cons_of_neg h]
   have h':=h
   unfold kH at h'
   rw [if_neg h']
   exact IH (i+1) n (by omega) (by omega) (by omega)

theorem wB (x:Sem zh) (e:ze) (hl:x.2.length≤1000000) (hr:∀ r∈x.2,length r≤1000000):og x e=some (if bZ e x.1.2.1=0 then fS x e else [],bZ e x.1.2.1,()):=by
 obtain ⟨r,h1,h2⟩:=Mn x e hl hr x.2.length 0 100000000 rfl (aZ _) (by omega)
 rw [List.drop_zero] at h2
 unfold og aq cM
 simp only [Xt,Tr.val,zt]
 unfold bZ
 by_cases h0:e.op=[]
 ·have c0:(!e.op==[])=false:=by rw [h0]; rfl
  rw [c0,if_pos h0]
  simp only [aI,if_false,if_true]
  show (bE yx 100000000 (.h9 x.2 (x.2.length:Int) ((0:Nat):Int) (x,()) (e,()))).bind _=_
  rw [h1]
  exact h2
 ·have c0:(!e.op==[])=true:=by simpa using h0
  rw [c0,if_neg h0]
  simp only [if_true]
  by_cases h3:(be e x.1.2.1).2=(0:Int)
  ·by_cases h4:(be e x.1.2.1).1≠(3:Int)∧(be e x.1.2.1).1≠(0:Int)
   ·rw [if_pos (show (be e x.1.2.1).2=(0:Int)∧(be e x.1.2.1).1≠(3:Int)∧(be e x.1.2.1).1≠(0:Int) from ⟨h3,h4⟩)]
    have c1:(bif (be e x.1.2.1).2==0 then bif (be e x.1.2.1).1 != 3 then (be e x.1.2.1).1 != 0 else false else false)=true:=by simp [h3,h4.1,h4.2]
    rw [c1]
    rfl
   ·rw [if_neg (show ¬ ((be e x.1.2.1).2=(0:Int)∧(be e x.1.2.1).1≠(3:Int)∧(be e x.1.2.1).1≠(0:Int)) from fun h=>h4 h.2)]
    have c1:(bif (be e x.1.2.1).2==0 then bif (be e x.1.2.1).1 != 3 then (be e x.1.2.1).1 != 0 else false else false)=false:=by
     rw [h3]
     cases c:((be e x.1.2.1).1 != 3) with
     | false=>rfl
     | true=>
      simp only [bne_iff_ne,ne_eq] at c
      simp only [beq_self_eq_true,bJ,bne_eq_false_iff_eq]
      exact Classical.not_not.1 fun h5=>h4 ⟨c,h5⟩
    have c2:((0:Int) != 0)=false:=rfl
    rw [c1]
    simp only [aI,if_false,h3,c2,if_true]
    show (bE yx 100000000 (.h9 x.2 (x.2.length:Int) ((0:Nat):Int) (x,()) (e,()))).bind _=_
    rw [h1]
    exact h2
  ·rw [if_neg (show ¬ ((be e x.1.2.1).2=(0:Int)∧(be e x.1.2.1).1≠(3:Int)∧(be e x.1.2.1).1≠(0:Int)) from fun h=>h3 h.1)]
   have c1:(bif (be e x.1.2.1).2==0 then bif (be e x.1.2.1).1 != 3 then (be e x.1.2.1).1 != 0 else false else false)=false:=by
    have:((be e x.1.2.1).2==0)=false:=by simpa using h3
    rw [this]; rfl
   have c2:((be e x.1.2.1).2 != 0)=true:=by simpa using h3
   rw [c1,c2,if_neg h3]
   rfl

theorem Mc {t:Sem zE} {r:List (Sem zf)} (hm:j3 t=true) (hk:zH t.2.2.1 (length r)=true):Jh t r=true∧Sx t r=aB t.2.2.1 r:=by
 have h1:decide (t.2.2.1 ≥ (↑(length r):Int))=false:=by
  simp only [zH,aC,ae] at hk
  simp only [decide_eq_false_iff_not]
  exact fun h=>absurd hk.2 (Int.not_lt.2 h)
 have:Bt t r=some (aB t.2.2.1 r,()):=by
  unfold Bt aq cM
  simp only [Xw,Tr.val,zt,Prod.eta,hm,h1,hk,mn,cZ,aI,if_false,if_true]
  rfl
 unfold Jh Sx
 rw [this]
 exact ⟨rfl,rfl⟩

theorem RA (x:Sem zh) (e:Int) (rows:List (List (Sem zf))) (hl:rows.length≤1000000) (hm:j3 x.1=true) (hk:∀ r∈rows,zH x.1.2.2.1 (length r)=true):∀ (m i n:Nat) (es:List (V×Int)),rows.length - i=m→i≤rows.length→m < n→
  bE FF n (.h4 e rows (rows.length:Int) (i:Int) (x,()) es)=some (.tup [.mp 0,.int .i64 e],[.vmap true (mh es ((rows.drop i).map (aB x.1.2.2.1)))]):=by
 intro m
 induction m with
 | zero=>
  intro i n es hm' hi hn
  obtain rfl:i=rows.length:=by omega
  obtain ⟨n,rfl⟩:∃ k,n=k+1:=⟨n - 1,by omega⟩
  rw [bE]
  simp only [FF,Tr.val,ap,cQ]
  rfl
 | succ m IH=>
  intro i n es hm' hi hn
  have hlt:i < rows.length:=by omega
  obtain ⟨n,rfl⟩:∃ k,n=k+1:=⟨n - 1,by omega⟩
  obtain ⟨h1,h2⟩:=Mc hm (hk _ (cI hlt))
  rw [bE,c6 hlt]
  simp only [FF,Tr.val,zt,Prod.eta,aH hlt,zN hlt,ag rows _ hlt,h1,h2,zG i (by unfold zD; omega),if_true]
  exact IH (i+1) n _ (by omega) (by omega) (by omega)

theorem H9 {x:Sem zh} {e:ze} {r:List (Sem zf)} (h:r∈(if bZ e x.1.2.1=0 then fS x e else [])):r∈x.2:=by
 split at h
 ·exact (List.mem_filter.1 h).1
 ·simp at h

theorem X3 (d:Sem aR) (x:Sem zh) (hm:j3 x.1=true) (hl:x.2.length≤1000000) (hr:∀ r∈x.2,length r≤1000000) (hk:∀ r∈x.2,zH x.1.2.2.1 (length r)=true):
  mO d x=some (mh [] ((if bZ d.2.2.2.2.2.2.2.2.2.2.2.2.1 x.1.2.1=0 then fS x d.2.2.2.2.2.2.2.2.2.2.2.2.1 else []).map (aB x.1.2.2.1)),bZ d.2.2.2.2.2.2.2.2.2.2.2.2.1 x.1.2.1):=by
 have hw:=wB x d.2.2.2.2.2.2.2.2.2.2.2.2.1 hl hr
 have hc:lV x d.2.2.2.2.2.2.2.2.2.2.2.2.1=true:=by unfold lV; rw [hw]; rfl
 have hv:pE x d.2.2.2.2.2.2.2.2.2.2.2.2.1=(if bZ d.2.2.2.2.2.2.2.2.2.2.2.2.1 x.1.2.1=0 then fS x d.2.2.2.2.2.2.2.2.2.2.2.2.1 else [],bZ d.2.2.2.2.2.2.2.2.2.2.2.2.1 x.1.2.1):=by unfold pE; rw [hw]; rfl
 have hq:∀ r∈(if bZ d.2.2.2.2.2.2.2.2.2.2.2.2.1 x.1.2.1=0 then fS x d.2.2.2.2.2.2.2.2.2.2.2.2.1 else []),r∈x.2:=fun r h=>H9 h
 have hlen:(if bZ d.2.2.2.2.2.2.2.2.2.2.2.2.1 x.1.2.1=0 then fS x d.2.2.2.2.2.2.2.2.2.2.2.2.1 else []).length≤1000000:=by
  split
  ·exact g7 (List.length_filter_le _ _) hl
  ·simp
 have:Dl d x=some (.tup [.mp 0,.int .i64 (bZ d.2.2.2.2.2.2.2.2.2.2.2.2.1 x.1.2.1)],[.vmap true (mh [] ((if bZ d.2.2.2.2.2.2.2.2.2.2.2.2.1 x.1.2.1=0 then fS x d.2.2.2.2.2.2.2.2.2.2.2.2.1 else []).map (aB x.1.2.2.1)))]):=by
  unfold Dl cM
  simp only [Lz,Tr.val,zt,Prod.eta,hc,hv,if_true]
  have:=RA x (bZ d.2.2.2.2.2.2.2.2.2.2.2.2.1 x.1.2.1) _ hlen hm (fun r h=>hk r (hq r h)) _ 0 100000000 [] rfl (aZ _) (by omega)
  rw [List.drop_zero] at this
  exact this
 unfold mO
 rw [this]
 rfl

abbrev iq (s:Sem zq):ze:=s.2.2.2.2.2.2.2.2.2.2.2.1
abbrev wW (e:Int):Sem eI:=(e,0,[])

theorem y7 (e:Int):rY e=true∧cy e=([],wW e):=⟨rfl,rfl⟩
theorem Gr {next:List (Sem zh)} {b:Bool} (n:Int) (h:nv next=some (b,())):r5 next n=some (if b=true then next else [],if b=true then (0,n,[]) else wW 10,()):=by
 have hc:ly next=true:=by unfold ly; rw [h]; rfl
 have hv:oP next=b:=by unfold oP; rw [h]; rfl
 unfold r5 aq cM
 cases b with
 | true=>
  simp only [Q4,Tr.val,hc,hv,if_true,mn,aI,if_false]
  rfl
 | false=>
  simp only [Q4,Tr.val,hc,hv,if_true,Bool.not_false,aI,if_false]
  rfl
theorem EP {db:List (Sem zh)} {y:Sem zh} {i:Nat} (h:aE db y.1.1=(i:Int)) (hl:db.length≤1000000):oW db y=some (db.set i y,()):=by
 have hb:zH (aE db y.1.1) (length db)=true:=jl (by rw [h]; omega)
 rw [h] at hb
 have h0:decide (length db≤1073741824)=true:=by simp only [ae]; omega
 have h1:decide ((i:Int) ≥ 0)=true:=by simp
 have h2:decide (toNat (i:Int) < length db)=true:=by
  simp only [zH,aC,ae] at hb
  simp only [ae]; omega
 unfold oW aq cM
 simp only [Xs,Tr.val,zt,Prod.eta,h,hb,h0,h1,h2,if_true]
 rfl

theorem xg {db:List (Sem zh)} {s:Sem zq} (h:LT.lt (α:=Int) (aE db s.2.1) 0):fO (db,s)=some ([],wW 6,()):=by
 have h1:decide (LT.lt (α:=Int) (aE db s.2.1) 0)=true:=by simpa using h
 unfold fO aq cM
 simp only [Q3,Tr.val,h1,if_true]
 rfl
theorem rW {db:List (Sem zh)} {s:Sem zq} {x:Sem zh} {i:Nat} (h:aE db s.2.1=(i:Int)) (hx:db.getD i (zj zh)=x) (hl:x.2.length≤1000000) (hr:∀ r∈x.2,length r≤1000000):
  fO (db,s)=some (if bZ (iq s) x.1.2.1=0 then db else [],if bZ (iq s) x.1.2.1=0 then (0,((fS x (iq s)).length:Int),fS x (iq s)) else wW (bZ (iq s) x.1.2.1),()):=by
 have hb:zH (aE db s.2.1) (length db)=true:=jl (by rw [h]; omega)
 rw [h] at hb
 have h1:decide (LT.lt (α:=Int) (i:Int) 0)=false:=by simp
 have hw:=wB x (iq s) hl hr
 have hc:lV x (iq s)=true:=by unfold lV; rw [hw]; rfl
 have hv:pE x (iq s)=(if bZ (iq s) x.1.2.1=0 then fS x (iq s) else [],bZ (iq s) x.1.2.1):=by unfold pE; rw [hw]; rfl
 obtain ⟨f1,f2⟩:=y7 (bZ (iq s) x.1.2.1)
 unfold fO aq cM
 simp only [Q3,Tr.val,zt,Prod.eta,h,h1,hb,dp,hx,hc,hv,f1,f2,aI,if_true,if_false]
 by_cases h0:bZ (iq s) x.1.2.1=0
 ·simp only [h0,if_true,vt,aI,if_false]
  rfl
 ·have h0':(bZ (iq s) x.1.2.1 != 0)=true:=by simpa using h0
  simp only [h0',if_true,if_neg h0]
  rfl

theorem eC.len {x:Sem zh} (h:eC x):∀ r∈x.2,length r≤8:=by
 intro r hr
 obtain ⟨_,_,_,h4,_⟩:=lM h.may
 rw [nO (by simpa using h.fits r hr)]
 exact h4
theorem eC.kin {x:Sem zh} (h:eC x):∀ r∈x.2,zH x.1.2.2.1 (length r)=true:=by
 intro r hr
 obtain ⟨h1,_⟩:=lM h.may
 rw [nO (by simpa using h.fits r hr)]
 exact xI h1
noncomputable abbrev pS (s:Sem zq) (x:Sem zh):List (Sem zf)→Bool:=kH (iq s) x.1.2.1

theorem wI {db:List (Sem zh)} {i:Nat} {y:Sem zh} (hs:∀ x∈db,dX x) (hy:dX y):∀ x∈db.set i y,dX x:=fun x hx=>by
 rcases ry hx with h | rfl
 ·exact hs x h
 ·exact hy
theorem lp {x:Sem zh} {p:List (Sem zf)→Bool} (h:dX x):dX (bC x p):=⟨h.uq,h.rf,g7 (List.length_filter_le _ _) h.rw⟩

theorem Ce {db:List (Sem zh)} {n:zn} {x:Sem zh} {i:Nat} (h:aE db n=(i:Int)) (hx:db.getD i (zj zh)=x):x.1.1=n:=by
 rcases iA (fun y:Sem zh=>y.1.1==n) db 0 with ⟨q,_⟩ | ⟨k,hk,q1,q2,_⟩
 ·exfalso
  have h':zQ (fun y:Sem zh=>y.1.1==n) db 0=(i:Int):=h
  rw [q] at h'
  omega
 ·have h':zQ (fun y:Sem zh=>y.1.1==n) db 0=(i:Int):=h
  rw [q1] at h'
  obtain rfl:k=i:=by omega
  rw [aJ,zJ hk,dU] at hx
  subst hx
  simpa using q2

theorem BR {db:List (Sem zh)} {s:Sem zq} {x:Sem zh} {i:Nat} (hB:f7 db) (hs:∀ y∈db,dX y) (h:aE db s.2.1=(i:Int)) (hx:db.getD i (zj zh)=x):
  ∃ b:Bool,(b=true↔uX (db.set i (bC x (pS s x))))∧je (db,s)=some (if bZ (iq s) x.1.2.1=0 then (if b=true then db.set i (bC x (pS s x)) else []) else [],
   if bZ (iq s) x.1.2.1=0 then (if b=true then (0,((fS x (iq s)).length:Int),[]) else wW 10) else wW (bZ (iq s) x.1.2.1),()):=by
 have hf:(0:Int)≤aE db s.2.1:=by rw [h]; omega
 have hm:=sZ hf
 rw [show toNat (aE db s.2.1)=i by rw [h]; rfl,hx] at hm
 have hr:=hB.rels x hm
 have hsx:=hs x hm
 have hrl:∀ r∈x.2,length r≤1000000:=fun r hr'=>g7 (hr.len r hr') (by omega)
 have hl:x.2.length≤1000000:=g7 hsx.rw (by omega)
 have hb:zH (aE db s.2.1) (length db)=true:=jl hf
 rw [h] at hb
 have hn:aE db x.1.1=(i:Int):=by
  rw [Ce h hx,h]
 have hset:∀ y∈db.set i (bC x (pS s x)),eC y:=fun y hy=>by
  rcases ry hy with hy | rfl
  ·exact hB.rels y hy
  ·exact eC.sub (t:=x.1) (l:=x.2) hr List.filter_sublist
 have hdl:db.length≤12:=hB.few
 obtain ⟨b,b1,b2⟩:=pZ (db:=db.set i (bC x (pS s x))) (fun y hy=>(hset y hy).cols) (wI hs (lp hsx)) (by rw [rE]; omega)
 refine ⟨b,b2,?_⟩
 have hmo:=X3 (db,s) x hr.may hl hrl hr.kin
 have h1:decide (LT.lt (α:=Int) (i:Int) 0)=false:=by simp
 have h2:decide (length x.2≤1073741824)=true:=by simp only [ae]; omega
 have h3:(decide (length x.2≤1000000)&&List.all x.2 fun r=>zH x.1.2.2.1 (length r))=true:=by
  simp only [aC,ae,cH]
  exact ⟨hl,hr.kin⟩
 have hmv:mV (db,s) x=(mh [] ((if bZ (iq s) x.1.2.1=0 then fS x (iq s) else []).map (aB x.1.2.2.1)),bZ (iq s) x.1.2.1):=by unfold mV; rw [hmo]; rfl
 have hms:(mO (db,s) x).isSome=true:=by rw [hmo]; rfl
 obtain ⟨f1,f2⟩:=y7 (bZ (iq s) x.1.2.1)
 unfold je aq cM
 simp only [Xn,Tr.val,zt,Prod.eta,h,h1,hb,dp,hx,hmv,hms,f1,f2,h2,h3,aI,if_true,if_false]
 by_cases h0:bZ (iq s) x.1.2.1=0
 ·simp only [h0,if_true,vt,aI,if_false]
  have hkl:(mh [] ((fS x (iq s)).map (aB x.1.2.2.1))).length=(fS x (iq s)).length:=AM (List.Pairwise.sublist List.filter_sublist hr.pw)
  have h4:decide ((fS x (iq s)).length≤1073741824)=true:=by
   have:=List.length_filter_le (kH (iq s) x.1.2.1) x.2
   simp only [ae]
   unfold fS
   omega
  have hk:=Gr ((fS x (iq s)).length:Int) b1
  have hkc:oV (db.set i (bC x (pS s x))) ((fS x (iq s)).length:Int)=true:=by unfold oV; rw [hk]; rfl
  have hkv:vD (db.set i (bC x (pS s x))) ((fS x (iq s)).length:Int)=(if b=true then db.set i (bC x (pS s x)) else [],if b=true then (0,((fS x (iq s)).length:Int),[]) else wW 10):=by unfold vD; rw [hk]; rfl
  have hw:oW db (bC x (pS s x))=some (db.set i (bC x (pS s x)),()):=EP (y:=bC x (pS s x)) hn (by omega)
  have hwc:mN db (bC x (pS s x))=true:=by unfold mN; rw [hw]; rfl
  have hwv:mq db (bC x (pS s x))=db.set i (bC x (pS s x)):=by unfold mq; rw [hw]; rfl
  have hT:(x.1,List.filter (nh x.1.2.2.1 (mh [] ((fS x (iq s)).map (aB x.1.2.2.1)))) x.2)=bC x (pS s x):=rfl
  simp only [hkl,h4,hT,hwc,hwv,hkc,hkv,if_true]
  by_cases h5:(zQ (ia x.1.2.2.1 (mh [] ((fS x (iq s)).map (aB x.1.2.2.1)))) x.2 0==-1)=true
  ·have hE:x=bC x (pS s x):=by
    rw [← hT]
    refine Prod.ext rfl (Eq.symm (List.filter_eq_self.2 fun r hr'=>?_))
    rcases iA (ia x.1.2.2.1 (mh [] ((fS x (iq s)).map (aB x.1.2.2.1)))) x.2 0 with ⟨_,q2⟩ | ⟨k,_,q2,_⟩
    ·simp [nh,q2 r hr']
    ·rw [q2] at h5
     simp at h5
   rw [if_pos h5]
   have hwc2:mN db x=true:=by rw [hE]; exact hwc
   have hwv2:mq db x=db.set i (bC x (pS s x)):=by
    have:mq db x=mq db (bC x (pS s x)):=congrArg (mq db) hE
    rw [this]; exact hwv
   simp only [hwc2,hwv2,hkc,hkv,if_true]
   cases b <;> rfl
  ·rw [if_neg h5]
   cases b <;> rfl
 ·have h0':(bZ (iq s) x.1.2.1 != 0)=true:=by simpa using h0
  simp only [h0',if_true,if_neg h0]
  rfl

theorem m7 (c:UInt8) (s old:zn):Lib.index (c::s) old=if old.isPrefixOf (c::s)=true then 0 else if Lib.index s old=-1 then -1 else Lib.index s old+1:=by
 rw [Lib.index]; simp only [ee]

theorem pG {s old new:zn} (hne:(old==new)=false) (h:Lib.index s old=-1):Lib.replaceAll s old new=s:=by
 unfold Lib.replaceAll Lib.replace Lib.replaceNum
 rw [hne,if_pos (Or.inl (by decide)),Lib.count_miss h]
 rfl

theorem tW {s old new:zn} {i:Nat} (h0:old≠[]) (hne:(old==new)=false) (h:Lib.index s old=i):Lib.replaceAll s old new=s.take i++new++Lib.replaceAll (s.drop (i+old.length)) old new:=by
 unfold Lib.replaceAll Lib.replace Lib.replaceNum
 rw [hne,if_pos (Or.inl (by decide)),if_pos (Or.inl (by decide)),Lib.count_hit h0 h,nr 1]
 exact Lib.replaceK_hit old new _ s i h

theorem Bi {old new:zn} (h0:old≠[]) (hne:(old==new)=false):Lib.replaceAll [] old new=[]:=by
 refine pG hne ?_
 cases old with
 | nil=>exact absurd rfl h0
 | cons a l=>rfl

theorem Jb {c:UInt8} {s old new:zn} (h0:old≠[]) (hne:(old==new)=false) (hp:old.isPrefixOf (c::s)=true):Lib.replaceAll (c::s) old new=new++Lib.replaceAll ((c::s).drop old.length) old new:=by
 have:=tW (i:=0) h0 hne (s:=c::s) (by rw [m7,if_pos hp]; rfl)
 simpa using this

theorem FA {c:UInt8} {s old new:zn} (h0:old≠[]) (hne:(old==new)=false) (hp:old.isPrefixOf (c::s)=false):Lib.replaceAll (c::s) old new=c::Lib.replaceAll s old new:=by
 by_cases h:Lib.index s old=-1
 ·rw [pG hne h,pG hne (by rw [m7,if_neg (by simp [hp]),if_pos h])]
 ·obtain ⟨i,hi⟩:∃ i:Nat,Lib.index s old=i:=⟨(Lib.index s old).toNat,by have:=Lib.index_ge s old; omega⟩
  rw [tW h0 hne hi,tW (i:=i+1) h0 hne (by rw [m7,if_neg (by simp [hp]),if_neg h,hi]; simp)]
  simp [Nat.add_right_comm]

theorem Sn {c a:UInt8} {r l:zn} (h:c≠a):(a::l).isPrefixOf (c::r)=false:=by
 rw [List.isPrefixOf,beq_eq_false_iff_ne.2 (Ne.symm h)]
 rfl

def ei:zn→Option (zn×Nat)
 | []=>none
 | [c]=>if c=39 then some ([],1) else none
 | c::d::r=>if c=39 then (if d=39 then (ei r).map fun x=>(39::x.1,x.2+2) else some ([],1)) else (ei (d::r)).map fun x=>(c::x.1,x.2+1)

theorem pJ:∀ (n:Nat) (s t:zn) (k:Nat),s.length≤n→ei s=some (t,k)→1≤k∧k≤s.length∧Lib.replaceAll (s.take (k - 1)) [39,39] [39]=t
 | _,[],_,_,_,h=>by simp [ei] at h
 | _,[c],t,k,_,h=>by
  rw [ei] at h
  split at h
  ·simp at h
   obtain ⟨rfl,rfl⟩:=h
   exact ⟨by simp,by simp,by simpa using Bi (by simp) rfl⟩
  ·simp at h
 | 0,_::_::_,_,_,hn,_=>by simp at hn
 | n+1,c::d::r,t,k,hn,h=>by
  rw [ei] at h
  split at h
  ·rename_i hc
   split at h
   ·rename_i hd
    simp only [cG] at h
    obtain ⟨⟨t',k'⟩,h1,h2⟩:=h
    simp only [bp] at h2
    obtain ⟨rfl,rfl⟩:=h2
    obtain ⟨a1,a2,a3⟩:=pJ n r t' k' (by simp at hn; omega) h1
    refine ⟨by omega,by simp; omega,?_⟩
    subst hc; subst hd
    rw [show k'+2 - 1=(k' - 1)+2 by omega,List.take_succ_cons,List.take_succ_cons,Jb (by simp) rfl (by simp)]
    simp [a3]
   ·simp at h
    obtain ⟨rfl,rfl⟩:=h
    exact ⟨by simp,by simp,by simpa using Bi (by simp) rfl⟩
  ·rename_i hc
   simp only [cG] at h
   obtain ⟨⟨t',k'⟩,h1,h2⟩:=h
   simp only [bp] at h2
   obtain ⟨rfl,rfl⟩:=h2
   obtain ⟨a1,a2,a3⟩:=pJ n (d::r) t' k' (by simp at hn ⊢; omega) h1
   refine ⟨by omega,by simp at a2 ⊢; omega,?_⟩
   rw [show k'+1 - 1=(k' - 1)+1 by omega,List.take_succ_cons,FA (by simp) rfl (Sn hc),a3]
theorem FC {c:UInt8} (hc:c≠39):∀ r:zn,ei (c::r)=(ei r).map fun x=>(c::x.1,x.2+1)
 | []=>by simp [ei,hc]
 | d::r=>by rw [ei,if_neg hc]
theorem Jj (r:zn):ei (39::39::r)=(ei r).map fun x=>(39::x.1,x.2+2):=by
 rw [ei,if_pos rfl,if_pos rfl]
theorem Bv:∀ r:zn,r.head?≠some 39→ei (39::r)=some ([],1)
 | [],_=>by rw [ei,if_pos rfl]
 | d::r,h=>by rw [ei,if_pos rfl,if_neg (by simpa using h)]

theorem ta (s:zn) {i:Nat} (h:i < s.length):s.getD ((i:Int).toNat) 0=s[i]:=by
 rw [dp,aJ,zJ h,dU]
theorem Hu {c:UInt8}:((c.toNat:Int)==39)=true↔c=39:=by
 rw [ee]
 constructor
 ·intro h
  exact UInt8.toNat_inj.1 (by show c.toNat=39; omega)
 ·rintro rfl; rfl

theorem lc:∀ (n:Nat) (s:zn) (i:Nat) (a:Int) (b:zn),1≤i→i≤s.length→s.length+2≤n+i→s.length≤1000000000→
  de n s (i:Int) a b=(match ei (s.drop i) with
   | none=>((0,[]),0)
   | some x=>((3,Lib.replaceAll (List.take (i+x.2 - 2) (List.drop 1 s)) [39,39] [39]),((i+x.2:Nat):Int)))
 | 0,s,i,a,b,h1,h2,h3,h4=>by omega
 | n + 1,s,i,a,b,h1,h2,h3,h4=>by
  rw [de]
  by_cases hi:i < s.length
  ·rw [if_pos (dc (show (i:Int) < (s.length:Int) by omega)),ta s hi,lv i (by omega),c6 hi]
   by_cases hq:s[i]=39
   ·rw [if_neg (by simp [bne,Hu.2 hq]),hq]
    by_cases hj:i+1 < s.length
    ·rw [c6 hj,ta s hj,dc (show ((i+1:Nat):Int) < (s.length:Int) by omega)]
     by_cases hq2:s[i+1]=39
     ·rw [if_pos (by simpa using Hu.2 hq2),lv (i+1) (by omega),lc n s (i+1+1) a b (by omega) (by omega) (by omega) h4,hq2,Jj]
      cases ei (s.drop (i+1+1)) with
      | none=>rfl
      | some x=>
       simp only [pT]
       rw [show i+1+1+x.2=i+(x.2+2) by omega]
     ·rw [if_neg (by simpa using fun h=>hq2 (Hu.1 (by simpa using h))),Bv _ (by rw [List.head?_cons]; exact fun h=>hq2 (Option.some.inj h))]
      simp
    ·rw [vg (by omega:s.length≤i+1),decide_eq_false (show ¬ ((i+1:Nat):Int) < (s.length:Int) by omega),Bv _ (by simp)]
     simp
   ·rw [if_pos (by simpa [bne] using fun h=>hq (Hu.1 (by simpa using h))),FC hq,lc n s (i+1) a b (by omega) (by omega) (by omega) h4]
    cases ei (s.drop (i+1)) with
    | none=>rfl
    | some x=>
     simp only [pT]
     rw [show i+1+x.2=i+(x.2+1) by omega]
  ·rw [if_neg (by simp; omega),vg (by omega)]
   rfl

def mZ (c:UInt8) (r:zn):Sem dI×Nat:=
 if aS c.toNat=true then ((1,(c::r).take (iN cJ r+1)),iN cJ r+1)
 else if zT c.toNat=true then ((2,(c::r).take (iN zT r+1)),iN zT r+1)
 else if c=39 then (match ei r with | none=>((0,[]),0) | some x=>((3,x.1),x.2+1))
 else ((4,[c]),1)

theorem pk (c:UInt8) (r:zn) (hl:(c::r).length≤1000000000):aP (c::r)=((mZ c r).1,((mZ c r).2:Int)):=by
 have e1:aA aS cJ (c::r)=if aS c.toNat=true then iN cJ r+1 else 0:=rfl
 have e2:aA zT zT (c::r)=if zT c.toNat=true then iN zT r+1 else 0:=rfl
 unfold aP mZ
 by_cases h1:aS c.toNat=true
 ·rw [if_pos h1] at e1
  simp [e1,h1]
 ·rw [if_neg h1] at e1
  by_cases h2:zT c.toNat=true
  ·rw [if_pos h2] at e2
   simp [e1,e2,h1,h2]
  ·rw [if_neg h2] at e2
   by_cases h3:c=39
   ·have hq:=lc ((c::r).length+1) (c::r) 1 0 [] (by omega) (by simp) (by omega) hl
    have hqq:cE (c::r)=_:=hq
    subst h3
    have l39:aS 39=false:=rfl
    have d39:zT 39=false:=rfl
    cases hs:ei r with
    | none=>
     simp only [List.drop_succ_cons,List.drop_zero,hs] at hqq
     simp [e1,e2,l39,d39,hqq]
    | some x=>
     obtain ⟨k1,k2,k3⟩:=pJ r.length r x.1 x.2 (bV _) hs
     simp only [List.drop_succ_cons,List.drop_zero,hs] at hqq
     rw [show 1+x.2 - 2=x.2 - 1 by omega,k3,nr 1] at hqq
     simp [e1,e2,l39,d39,hqq]
   ·have h4:¬ (c.toNat:Int)=39:=fun h=>h3 (Hu.1 (by simpa using h))
    simp [e1,e2,h1,h2,h3,h4]

def kK:Nat→zn→Nat→Bool
 | 0,_,_=>false
 | _+1,[],k=>decide (k≤400)
 | n+1,c::r,k=>
  if (bif (c.toNat:Int)==32 then true else (c.toNat:Int)==10)=true then kK n r k
  else if gp (mZ c r).1=true then kK n ((c::r).drop (mZ c r).2) (k+1) else false

theorem oT:∀ (n:Nat) (s:zn) (k:Nat),400 < k→kK n s k=false
 | 0,_,_,_=>rfl
 | _+1,[],k,h=>by rw [kK]; exact decide_eq_false (by omega)
 | n+1,c::r,k,h=>by
  rw [kK]
  split
  ·exact oT n r k h
  ·split
   ·exact oT n _ (k+1) (by omega)
   ·rfl

theorem rT:∀ (n:Nat) (s:zn) (i:Nat) (l:List (Sem zr)),i≤s.length→s.length+1≤n+i→s.length≤1000000000→l.length≤400→((nE n s (i:Int) l).2==(0:Int))=kK n (s.drop i) l.length
 | 0,s,i,l,h1,h2,h3,h4=>by omega
 | n + 1,s,i,l,h1,h2,h3,h4=>by
  rw [nE]
  by_cases hlt:i < s.length
  ·have e1:List.take ((s.length:Int).toNat - (i:Int).toNat) (List.drop (i:Int).toNat s)=s.drop i:=by
    simp only [dp]
    exact Dc (by simp)
   have hdl:(s.drop i).length≤1000000000:=by simp; omega
   rw [if_pos (dc (show (i:Int) < (s.length:Int) by omega)),e1,ta s hlt,lv i (by omega)]
   rw [c6 hlt] at hdl ⊢
   rw [kK]
   split
   ·exact rT n s (i+1) l (by omega) (by omega) h3 h4
   ·rw [pk _ _ hdl]
    simp only
    by_cases hm:gp (mZ s[i] (s.drop (i+1))).1=true
    ·rw [if_pos hm]
     by_cases h5:l.length=400
     ·rw [if_pos (by rw [hm,h5]; rfl),h5,oT n _ _ (by omega)]
      rfl
     ·rw [if_neg (by rw [hm]; simp; omega)]
      have hm':gp (aP (s[i]::s.drop (i+1))).1=true:=by rw [pk _ _ hdl]; exact hm
      obtain ⟨k,hk,hk1,hk2⟩:=oF _ (List.cons_ne_nil _ _) hdl hm'
      rw [pk _ _ hdl] at hk
      have hk:(mZ s[i] (s.drop (i+1))).2=k:=Int.ofNat.inj hk
      have hk3:k≤s.length - i:=by rw [← c6 hlt] at hk2; simpa using hk2
      rw [hk,show ((i:Int)+(k:Int))=((i+k:Nat):Int) by omega,Ox (i+k) (by omega),rT n s (i+k) _ (by omega) (by omega) h3 (by simp; omega),← c6 hlt,List.drop_drop]
      simp
    ·rw [if_neg hm,if_pos (by simp [hm])]
     rfl
  ·rw [if_neg (by simp; omega),vg (by omega)]
   rw [kK]
   exact (dc h4).symm

theorem Bu {s:Sem zq} {t:zn} (h:(kl s).val=some (.inr (.str t,[]))):eH s=t:=by
 unfold eH ym aq cM
 rw [h]
 rfl
theorem Jo (s:Sem zq):fk s=(ez s&&((cut (eH s)).2==0)):=by
 unfold fk ng
 cases ez s
 ·rfl
 ·show ((if ((cut (eH s)).2 != 0)=true then (([],1):Sem Sh.str×Sem zg) else (eH s,0)).2==0)=_
  cases h:((cut (eH s)).2==0)
  ·have:((cut (eH s)).2 != 0)=true:=by simp only [bne,h]; rfl
   rw [if_pos this]; rfl
  ·have:((cut (eH s)).2 != 0)=false:=by simp only [bne,h]; rfl
   rw [this]; rfl

abbrev uh:zn:=[115,101,108,101,99,116]
abbrev qE:zn:=[100,101,108,101,116,101]
theorem IG (r:zn×zn×List zn×List (Sem zi)×zn×List zn×List (Sem bu)×ze×List (Sem zf)×List (Sem aF)×ze×zn):ez ((qE,r):Sem zq)=ez ((uh,r):Sem zq):=by kernel_rfl
theorem JD {s:Sem zq} (hs:eu s) (hop:s.1=uh):eH s=[83,69,76,69,67,84,32,42,32,70,82,79,77,32]++s.2.1++lu (iq s):=by
 have t1:=hs.table
 have t2:=hs.other
 have w1:=pM s.2.2.2.2.2.2.2.2.2.2.2.1
 have hup:(decide (length s.1≤140737488355328)&&List.all s.1 fun b=>decide (b.toNat < 128))=true:=by rw [hop]; decide
 have q0:(s.1==[99,114,101,97,116,101])=false:=by rw [hop]; rfl
 have q1:(s.1==[100,114,111,112])=false:=by rw [hop]; rfl
 have q2:(s.1==[105,110,115,101,114,116])=false:=by rw [hop]; rfl
 have q3:(s.1==[117,112,100,97,116,101])=false:=by rw [hop]; rfl
 have q4:(s.1==[100,101,108,101,116,101])=false:=by rw [hop]; rfl
 have q5:(s.1==[115,101,108,101,99,116])=true:=by rw [hop]; rfl
 obtain ⟨t,h,e⟩:∃ t,(kl s).val=some (.inr (.str t,[]))∧t=[83,69,76,69,67,84,32,42,32,70,82,79,77,32]++s.2.1++lu (iq s):=by
  simp only [kl,pl,Tr.val,q0,q1,q2,q3,q4,q5,if_true,aI,if_false,zt]
  repeat' (with_reducible refine gx ?_ ?_)
  all_goals first
   | exact ⟨_,rfl,rfl⟩
   | exact hup
   | exact f5 _
   | (refine ac ?_; simp; omega)
   | (rw [hop]; decide)
   | (refine ac ?_; rw [hop]; simp [bX]; omega)
 rw [Bu h,e]
theorem JC {s:Sem zq} (hs:eu s) (hop:s.1=qE):eH s=[68,69,76,69,84,69,32,70,82,79,77,32]++s.2.1++lu (iq s):=by
 have t1:=hs.table
 have t2:=hs.other
 have w1:=pM s.2.2.2.2.2.2.2.2.2.2.2.1
 have hup:(decide (length s.1≤140737488355328)&&List.all s.1 fun b=>decide (b.toNat < 128))=true:=by rw [hop]; decide
 have q0:(s.1==[99,114,101,97,116,101])=false:=by rw [hop]; rfl
 have q1:(s.1==[100,114,111,112])=false:=by rw [hop]; rfl
 have q2:(s.1==[105,110,115,101,114,116])=false:=by rw [hop]; rfl
 have q3:(s.1==[117,112,100,97,116,101])=false:=by rw [hop]; rfl
 have q4:(s.1==[100,101,108,101,116,101])=true:=by rw [hop]; rfl
 obtain ⟨t,h,e⟩:∃ t,(kl s).val=some (.inr (.str t,[]))∧t=[68,69,76,69,84,69,32,70,82,79,77,32]++s.2.1++lu (iq s):=by
  simp only [kl,pl,Tr.val,q0,q1,q2,q3,q4,if_true,aI,if_false,zt]
  repeat' (with_reducible refine gx ?_ ?_)
  all_goals first
   | exact ⟨_,rfl,rfl⟩
   | exact hup
   | exact f5 _
   | (refine ac ?_; simp; omega)
   | (rw [hop]; decide)
   | (refine ac ?_; rw [hop]; simp [bX]; omega)
 rw [Bu h,e]

theorem oU:∀ (n:Nat) (s:zn) (k k':Nat),k'≤k→kK n s k=true→kK n s k'=true
 | 0,_,_,_,_,h=>h
 | _+1,[],k,k',hk,h=>by
  rw [kK] at h ⊢
  simp only [ae] at h ⊢
  omega
 | n+1,c::r,k,k',hk,h=>by
  rw [kK] at h ⊢
  split
  ·rename_i h1
   rw [if_pos h1] at h
   exact oU n r k k' hk h
  ·rename_i h1
   rw [if_neg h1] at h
   split
   ·rename_i h2
    rw [if_pos h2] at h
    exact oU n _ (k+1) (k'+1) (by omega) h
   ·rename_i h2
    rw [if_neg h2] at h
    cases h
theorem Wg (s:zn) (h:s.length≤1000000000):((cut s).2==(0:Int))=kK (s.length+1) s 0:=by
 have:=rT (s.length+1) s 0 [] (by omega) (by omega) h (by simp)
 exact this
theorem Ld (r:zn):kK (r.length+15) ([83,69,76,69,67,84,32,42,32,70,82,79,77,32]++r) 0=kK (r.length+9) r 3:=by kernel_rfl
theorem Lc (r:zn):kK (r.length+13) ([68,69,76,69,84,69,32,70,82,79,77,32]++r) 0=kK (r.length+9) r 2:=by kernel_rfl

theorem Rz (r:zn×zn×List zn×List (Sem zi)×zn×List zn×List (Sem bu)×ze×List (Sem zf)×List (Sem aF)×ze×zn) (h1:eu ((uh,r):Sem zq)) (h2:eu ((qE,r):Sem zq)) (h:fk ((uh,r):Sem zq)=true):fk ((qE,r):Sem zq)=true:=by
 rw [Jo,aC] at h ⊢
 obtain ⟨hp,hc⟩:=h
 refine ⟨by rw [IG]; exact hp,?_⟩
 have hl:=(qr h1 hp).2
 rw [JD h1 rfl] at hc hl
 rw [JC h2 rfl]
 rw [List.append_assoc] at hc hl ⊢
 generalize hr:(uh,r).2.1++lu (iq (uh,r))=q at hc hl
 simp only [nl] at hl
 rw [Wg _ (by simp only [nl] at hl ⊢; simp at hl ⊢; omega)] at hc ⊢
 have e1:([83,69,76,69,67,84,32,42,32,70,82,79,77,32]++q).length+1=q.length+15:=by simp
 have e2:([68,69,76,69,84,69,32,70,82,79,77,32]++q).length+1=q.length+13:=by simp
 rw [e1,Ld] at hc
 rw [e2,Lc]
 exact oU _ _ _ _ (by omega) hc
noncomputable section
abbrev ZX:List CP:=[.d zh]
abbrev Qx:List CP:=[.d .str,.nil,.d zg,.nil,.nil,.d .str,.d zg,.d zg,.d .str,.d .str,.nil,.nil]
abbrev Wc:List CP:=[.d zE,.vec (.sl zf)]
abbrev kB:List CP:=[.d zq]
abbrev dM:List CP:=[.d .str,.d .str,.d .str,.nil,.nil,.d .str,.nil,.nil,.d .str,.d zg,.d zg,.d .str,.d .str,.nil,.nil,.nil,.d .str,.d zg,.d zg,.d .str,.d .str,.nil,.d .str]
abbrev Gj:List CP:=[.d .str,.d .str,.d .str,.d (.sl .str),.d (.sl zi),.d .str,.d (.sl .str),.vec bu,.d .expr,.d (.sl zf),.nil,.d .expr,.d .str]
abbrev Gk:List CP:=[.d .str,.d .str,.d .str,.d (.sl .str),.d (.sl zi),.d .str,.d (.sl .str),.vec bu,.d .expr,.d (.sl zf),.vec aF,.d .expr,.d .str]

abbrev XF:Nat→zS:=fun j=>if j=6 then { slots:=[1,2,3,4,5],prom:=[(3,some 11,.sl zf)] } else { }
inductive BI where
 | h6 (i4:Int) (i5:Int) (z0:zu ZX) (z1:zu Qx) (z2:zu Wc)
abbrev ZY:BI→Nat×St
 | .h6 i4 i5 z0 z1 z2=>(6,⟨tm 38 [(1,AV.ptr 0 0),(2,AV.ptr 1 0),(3,AV.ptr 2 0),(4,AV.int .i64 i4),(5,AV.int .i64 i5)],[AO.box (bn [] ZX z0),AO.box (bn [] Qx z1),AO.box (bn [3] Wc z2),AO.vec zf.sl z2.2.1]⟩)
def Q2 (x0:Sem zh):Tr (BI ⊕ au):=
 let a0:=(mi (x0.1.1,x0.1.2.1,x0.1.2.2.1,x0.1.2.2.2.1,x0.1.2.2.2.2.1,zC x0.1.2.2.2.2.2),[],())
 Tr.br (decide ((↑(length x0.2):Int) > 200)) (Tr.to (BI.h6 201 0 (x0,()) ([],0,[],0,0,[],[],()) a0))
 (Tr.to (BI.h6 40 0 (x0,()) ([],0,[],0,0,[],[],()) a0))
def FE:BI→Tr (BI ⊕ au)
 | .h6 i4 i5 z0 z1 z2=>
  let a0:=(↑(length z0.1.2):Int)
  let a1:=[jp (getD z0.1.2 i5.toNat (zj zf.sl))]
  Tr.br (bif decide (i5 < a0) then decide (i5 < i4) else false)
  (Tr.chk (zH i5 (length z0.1.2))
   (Tr.chk (decide (z2.2.1.length+a1.length≤1073741824)) (Tr.to (BI.h6 i4 (IntKind.i64.wrap (i5+1)) z0 z1 (z2.1,z2.2.1++a1,())))))
  (Tr.re
   (AV.agg [AV.str z2.1.1,AV.sl zi z2.1.2.1,AV.int .i64 z2.1.2.2.1,AV.sl zg z2.1.2.2.2.1,AV.sl zr z2.1.2.2.2.2.1,AV.str (ze.op z2.1.2.2.2.2.2),AV.int .i64 (ze.v z2.1.2.2.2.2.2).1,AV.int .i64 (ze.v z2.1.2.2.2.2.2).2.1,AV.str (ze.v z2.1.2.2.2.2.2).2.2,AV.str (ze.s z2.1.2.2.2.2.2),AV.sl Sh.expr (ze.l z2.1.2.2.2.2.2),AV.vec 0])
   [AO.vec zf.sl z2.2.1])
def th (x0:Sem zh):=aq [zh] FE 100000000 (Q2 x0)
def Cu (x0:Sem zh):=(th x0).isSome
def qi (x0:Sem zh):=o1 (th x0)
def Ty:=FT [zh] [zh] fun x=>th x.1
theorem Pf:FK 33 Ty:=bv.T1 (f:=Tryz.f33) (keep:=XF) (e:=ZY)

abbrev zbL:Nat→zS:=fun j=>if j=3 then { slots:=[1,2,3,4],prom:=[(3,some 7,bu)] } else if j=7 then { slots:=[1,2,3,5],prom:=[(3,some 15,aF)] } else { }
inductive NB where
 | h3 (i4:Int) (z0:zu kB) (z1:zu dM) (z2:zu Gj)
 | h7 (i5:Int) (z0:zu kB) (z1:zu dM) (z2:zu Gk)
abbrev e8p:NB→Nat×St
 | .h3 i4 z0 z1 z2=>(3,⟨tm 103 [(1,AV.ptr 0 0),(2,AV.ptr 1 0),(3,AV.ptr 2 0),(4,AV.int .i64 i4)],[AO.box (bn [] kB z0),AO.box (bn [] dM z1),AO.box (bn [3] Gj z2),AO.vec (Sh.str.pr Sh.str) z2.2.2.2.2.2.2.2.1]⟩)
 | .h7 i5 z0 z1 z2=>(7,⟨tm 103 [(1,AV.ptr 0 0),(2,AV.ptr 1 0),(3,AV.ptr 2 0),(5,AV.int .i64 i5)],[AO.box (bn [] kB z0),AO.box (bn [] dM z1),AO.box (bn [3,4] Gk z2),AO.vec (Sh.str.pr Sh.str) z2.2.2.2.2.2.2.2.1,AO.vec (Sh.str.pr Sh.expr) z2.2.2.2.2.2.2.2.2.2.2.1]⟩)
def i8p (x0:Sem zq):Tr (NB ⊕ au):=
 Tr.chk (dq x0.1)
 (Tr.chk (dq x0.2.1)
  (Tr.chk (dq x0.2.2.1) (Tr.chk (dq x0.2.2.2.2.2.1) (Tr.chk (dq x0.2.2.2.2.2.2.2.2.2.2.2.2) (Tr.chk (kU x0.2.2.2.1) (Tr.chk (kU x0.2.2.2.2.2.2.1) (Tr.to (NB.h3 0 (x0,()) ([],[],[],[],[],0,0,[],[],[],0,0,[],[],[],()) (bl x0.1,bl x0.2.1,bl x0.2.2.1,eV x0.2.2.2.1,kV x0.2.2.2.2.1,
  bl x0.2.2.2.2.2.1,eV x0.2.2.2.2.2.2.1,[],dd (zC x0.2.2.2.2.2.2.2.2.1),jp x0.2.2.2.2.2.2.2.2.2.1,dd (zC x0.2.2.2.2.2.2.2.2.2.2.2.1),bl x0.2.2.2.2.2.2.2.2.2.2.2.2,())))))))))
def Mi:NB→Tr (NB ⊕ au)
 | .h3 i4 z0 z1 z2=>
  let a0:=(↑(length z0.1.2.2.2.2.2.2.2.1):Int)
  let a1:=zH i4 (length z0.1.2.2.2.2.2.2.2.1)
  let a2:=getD z0.1.2.2.2.2.2.2.2.1 i4.toNat (zj bu)
  let a3:=[(bl a2.1,bl a2.2)]
  Tr.br (bif decide (i4 < a0) then decide (i4 < 10) else false)
  (Tr.chk a1
   (Tr.chk (dq a2.1) (Tr.chk a1 (Tr.chk (dq a2.2) (Tr.chk (decide (z2.2.2.2.2.2.2.2.1.length+a3.length≤1073741824)) (Tr.to (NB.h3 (IntKind.i64.wrap (i4+1)) z0 z1 (z2.1,z2.2.1,z2.2.2.1,z2.2.2.2.1,z2.2.2.2.2.1,z2.2.2.2.2.2.1,z2.2.2.2.2.2.2.1,z2.2.2.2.2.2.2.2.1++a3,z2.2.2.2.2.2.2.2.2))))))))
  (Tr.to
   (NB.h7 0 z0 z1 (z2.1,z2.2.1,z2.2.2.1,z2.2.2.2.1,z2.2.2.2.2.1,z2.2.2.2.2.2.1,z2.2.2.2.2.2.2.1,z2.2.2.2.2.2.2.2.1,z2.2.2.2.2.2.2.2.2.1,z2.2.2.2.2.2.2.2.2.2.1,[],z2.2.2.2.2.2.2.2.2.2.2)))
 | .h7 i5 z0 z1 z2=>
  let a0:=(↑(length z0.1.2.2.2.2.2.2.2.2.2.2.1):Int)
  let a1:=zH i5 (length z0.1.2.2.2.2.2.2.2.2.2.2.1)
  let a2:=getD z0.1.2.2.2.2.2.2.2.2.2.2.1 i5.toNat (zj aF)
  let a3:=[(bl a2.1,zC (dd (zC a2.2)))]
  Tr.br (bif decide (i5 < a0) then decide (i5 < 10) else false)
  (Tr.chk a1
   (Tr.chk (dq a2.1) (Tr.chk a1 (Tr.chk (decide (z2.2.2.2.2.2.2.2.2.2.2.1.length+a3.length≤1073741824)) (Tr.to (NB.h7 (IntKind.i64.wrap (i5+1)) z0 z1 (z2.1,z2.2.1,z2.2.2.1,z2.2.2.2.1,z2.2.2.2.2.1,z2.2.2.2.2.2.1,z2.2.2.2.2.2.2.1,z2.2.2.2.2.2.2.2.1,z2.2.2.2.2.2.2.2.2.1,z2.2.2.2.2.2.2.2.2.2.1,z2.2.2.2.2.2.2.2.2.2.2.1++a3,z2.2.2.2.2.2.2.2.2.2.2.2)))))))
  (Tr.re
   (AV.agg [AV.str z2.1,AV.str z2.2.1,AV.str z2.2.2.1,AV.sl Sh.str z2.2.2.2.1,AV.sl zi z2.2.2.2.2.1,AV.str z2.2.2.2.2.2.1,AV.sl Sh.str z2.2.2.2.2.2.2.1,AV.vec 0,AV.str (ze.op z2.2.2.2.2.2.2.2.2.1),AV.int .i64 (ze.v z2.2.2.2.2.2.2.2.2.1).1,AV.int .i64 (ze.v z2.2.2.2.2.2.2.2.2.1).2.1,AV.str (ze.v z2.2.2.2.2.2.2.2.2.1).2.2,AV.str (ze.s z2.2.2.2.2.2.2.2.2.1),
   AV.sl Sh.expr (ze.l z2.2.2.2.2.2.2.2.2.1),AV.sl zf z2.2.2.2.2.2.2.2.2.2.1,AV.vec 1,AV.str (ze.op z2.2.2.2.2.2.2.2.2.2.2.2.1),AV.int .i64 (ze.v z2.2.2.2.2.2.2.2.2.2.2.2.1).1,AV.int .i64 (ze.v z2.2.2.2.2.2.2.2.2.2.2.2.1).2.1,AV.str (ze.v z2.2.2.2.2.2.2.2.2.2.2.2.1).2.2,AV.str (ze.s z2.2.2.2.2.2.2.2.2.2.2.2.1),
   AV.sl Sh.expr (ze.l z2.2.2.2.2.2.2.2.2.2.2.2.1),AV.str z2.2.2.2.2.2.2.2.2.2.2.2.2.1])
   [AO.vec (Sh.str.pr Sh.str) z2.2.2.2.2.2.2.2.1,AO.vec (Sh.str.pr Sh.expr) z2.2.2.2.2.2.2.2.2.2.2.1])
def tg (x0:Sem zq):=aq [zq] Mi 100000000 (i8p x0)
def Cr (x0:Sem zq):=(tg x0).isSome
def HZ (x0:Sem zq):=o1 (tg x0)
def ZN:=FT [zq] [zq] fun x=>tg x.1
theorem Ns:FK 10 ZN:=bv.T1 (f:=Tryz.f10) (keep:=zbL) (e:=e8p)

def NK:=eT.addL [(33,Ty),(10,ZN)]
theorem vR:zm NK:=bv.addL <| fc Pf <| fc Ns gX
end
noncomputable section

abbrev zbE:Nat→zS:=fun j=>if j=3 then { slots:=[0,3,4],prom:=[(3,none,zh)] } else { }
inductive SJ where
 | h3 (l0:List (Sem zh)) (i4:Int) (lh_0:List (Sem zh))
abbrev e7p:SJ→Nat×St
 | .h3 l0 i4 lh_0=>(3,⟨tm 24 [(0,AV.sl zh l0),(3,AV.vec 0),(4,AV.int .i64 i4)],[AO.vec zh lh_0]⟩)
def i7p (x0:Sem zh.sl):Tr (SJ ⊕ au):=
 Tr.to (SJ.h3 x0 0 [])
def Zz:SJ→Tr (SJ ⊕ au)
 | .h3 l0 i4 lh_0=>
  let a0:=l0.getD i4.toNat (zj zh)
  let a1:=((a0.1.1,a0.1.2.1,a0.1.2.2.1,a0.1.2.2.2.1,a0.1.2.2.2.2.1,zC a0.1.2.2.2.2.2),a0.2)
  let a2:=qi a1
  let a3:=[((a2.1.1,a2.1.2.1,a2.1.2.2.1,a2.1.2.2.2.1,a2.1.2.2.2.2.1,zC a2.1.2.2.2.2.2),a2.2)]
  Tr.br (bif decide (i4 < (↑l0.length:Int)) then decide (i4 < 13) else false)
  (Tr.chk (zH i4 l0.length)
   (Tr.chk (Cu a1) (Tr.chk (decide (lh_0.length+a3.length≤1073741824)) (Tr.to (SJ.h3 l0 (IntKind.i64.wrap (i4+1)) (lh_0++a3))))))
  (Tr.re (AV.vec 0)
   [AO.vec zh lh_0])
def po (x0:Sem zh.sl):=aq [zh.sl] Zz 100000000 (i7p x0)
def Cv (x0:Sem zh.sl):=(po x0).isSome
def wu (x0:Sem zh.sl):=o1 (po x0)
def ZM:=FT [zh.sl] [zh.sl] fun x=>po x.1
theorem Nr:FK 14 ZM:=vR.T1 (f:=Tryz.f14) (keep:=zbE) (e:=e7p)

def Dr:=NK.add 14 ZM
theorem lB:zm Dr:=vR.add Nr
end
noncomputable section
abbrev zF:List CP:=[.d (.sl zr),.d zg,.d .bool]

def Xc (x0:Sem (Sh.int IntKind.u8)):Tr (Empty ⊕ au):=
 let a0:=bif decide (97≤x0) then decide (x0≤122) else false
 Tr.re (AV.bool (bif decide (65≤x0) then bif decide (x0≤90) then true else a0 else a0)) []
def pC (x0:Sem (Sh.int IntKind.u8)):=aq [Sh.bool] t0 100000000 (Xc x0)
def lT (x0:Sem (Sh.int IntKind.u8)):=(pC x0).isSome
def n9 (x0:Sem (Sh.int IntKind.u8)):=o1 (pC x0)
def MN:=FT [Sh.int IntKind.u8] [Sh.bool] fun x=>pC x.1
theorem Kc:FK 177 MN:=lB.T1 (f:=Tryz.f177) (keep:=k0) (e:=e0)

def Xe (x0:Sem (Sh.int IntKind.u8)):Tr (Empty ⊕ au):=
 Tr.re (AV.bool (bif decide (48≤x0) then decide (x0≤57) else false)) []
def tP (x0:Sem (Sh.int IntKind.u8)):=aq [Sh.bool] t0 100000000 (Xe x0)
def fU (x0:Sem (Sh.int IntKind.u8)):=(tP x0).isSome
def gK (x0:Sem (Sh.int IntKind.u8)):=o1 (tP x0)
def MQ:=FT [Sh.int IntKind.u8] [Sh.bool] fun x=>tP x.1
theorem Kf:FK 179 MQ:=lB.T1 (f:=Tryz.f179) (keep:=k0) (e:=e0)

abbrev HK:Nat→zS:=fun _=>{ }
theorem RJ:zz Dr.P 113 Tryz.f113 2:=aG (by kernel_rfl)
def Hh (y:zu zF) (x0:TS):Tr (Empty ⊕ au):=
 let a0:=decide (y.2.1 < (↑(length y.1):Int))
 let a1:=zH y.2.1 (length y.1)
 let a2:=getD y.1 (toNat y.2.1) (zj zr)
 let a3:=a2.1==1
 let a4:=a2.1==4
 let a5:=a2.2==x0
 Tr.chk (bif a0 then a1&&bif a3 then a1 else a1&&bif a4 then a1 else true else true)
 (Tr.re (AV.bool (bif a0 then bif a3 then a5 else bif a4 then a5 else false else false)) (bx zF y))
theorem QH (y:zu zF) (x0:TS):rn Dr 1 HK Tryz.f113 [AV.ptr 0 0,zy Sh.str x0] (bx zF y)=(Hh y x0).map (lf Tryz.f113 e0):=by kernel_rfl
def I9 (y:zu zF) (x0:TS):Option (zw (List.map some [Sh.bool])×zu zF):=uT [Sh.bool] zF t0 100000000 (Hh y x0)
def iP (y:zu zF) (x0:TS):Bool:=(I9 y x0).isSome
def lh (y:zu zF) (x0:TS):(Sem Sh.bool)×zu zF:=(fun r:zw (List.map some [Sh.bool])×zu zF=>(r.1.1,r.2)) ((I9 y x0).getD (bD [Sh.bool],eS zF))
def My:zB:=uG zF [Sh.str] [Sh.bool] zF (fun y x=>iP y x.1) fun y x=>(((lh y x.1).1,()),(lh y x.1).2)
theorem JX:FK 113 My:=oM (ps:=zF) (ks:=[Sh.str]) (outs:=[Sh.bool]) (keep:=HK) (gas:=400) (n:=100000000) (e:=e0) (t:=t0) (i:=fun y x=>Hh y x.1) lB RJ (fun y x=>QH y x.1) (FO _ _ _ _ _) (fun _ _=>by kernel_rfl) (fun _ _=>by kernel_rfl)

def kM:=Dr.addL [(177,MN),(179,MQ),(113,My)]
theorem fC:zm kM:=lB.addL <| fc Kc <| fc Kf <| fc JX gX
end
noncomputable section

abbrev Rh:=my [(2,[1,3])]
inductive uZ where
 | h2 (i3:Int) (z0:zu [CP.d zf])
abbrev Wi:uZ→Nat×St
 | .h2 i3 z0=>(2,⟨tm 66 [(1,AV.ptr 0 0),(3,AV.int .i64 i3)],[AO.box (bn [] [CP.d zf] z0)]⟩)
def W3 (x0:Sem zf):Tr (uZ ⊕ au):=
 Tr.to (uZ.h2 0 (x0,()))
def Zp:uZ→Tr (uZ ⊕ au)
 | .h2 i3 z0=>
  let a0:=(↑(length z0.1.2.2):Int)
  let a1:=zH i3 (length z0.1.2.2)
  let a2:=(↑(getD z0.1.2.2 i3.toNat 0).toNat:Int)
  let a3:=decide (a2 < 32)
  let a4:=z0.1.2.1==0
  let a5:=z0.1.2.2==[]
  Tr.br (decide (i3 < a0))
  (Tr.chk (a1&&bif a3 then true else a1)
   (Tr.br (bif a3 then true else decide (a2 > 126)) (Tr.re (AV.kb false) []) (Tr.to (uZ.h2 (IntKind.i64.wrap (i3+1)) z0))))
  (Tr.br (z0.1.1==0) (Tr.re (AV.bool (bif a4 then a5 else false)) [])
   (Tr.br (z0.1.1==1) (Tr.re (AV.bool a5) []) (Tr.br (z0.1.1==2) (Tr.re (AV.bool (bif a4 then decide (a0≤40) else false)) []) (Tr.br (z0.1.1==3) (Tr.re (AV.bool (bif a4 then a5 else bif z0.1.2.1==1 then a5 else false)) []) (Tr.re (AV.kb false) [])))))
def CE (x0:Sem zf):=aq [Sh.bool] Zp 100000000 (W3 x0)
def tK (x0:Sem zf):=(CE x0).isSome
def A6 (x0:Sem zf):=o1 (CE x0)
def Mp:=FT [zf] [Sh.bool] fun x=>CE x.1
theorem JO:FK 121 Mp:=fC.T1 (f:=Tryz.f121) (keep:=Rh) (e:=Wi)

def Xg (x0:Sem Sh.bool):Tr (Empty ⊕ au):=
 Tr.br x0 (Tr.re (AV.agg [AV.int .i64 3,AV.int .i64 1,AV.str []]) []) (Tr.re (AV.agg [AV.int .i64 3,AV.int .i64 0,AV.str []]) [])
def tM (x0:Sem Sh.bool):=aq [zf] t0 100000000 (Xg x0)
def IP (x0:Sem Sh.bool):=(tM x0).isSome
def bH (x0:Sem Sh.bool):=o1 (tM x0)
def MU:=FT [Sh.bool] [zf] fun x=>tM x.1
theorem Kj:FK 188 MU:=fC.T1 (f:=Tryz.f188) (keep:=k0) (e:=e0)

abbrev HP:Nat→zS:=fun _=>{ }
theorem RR:zz kM.P 276 Tryz.f276 1:=aG (by kernel_rfl)
def Hn (x0:TS):Tr (Empty ⊕ au):=
 Tr.re
 (AV.bool
  (bif x0==[97,110,100] then true
  else bif x0==[111,114] then true else bif x0==[61] then true else bif x0==[60] then true else bif x0==[43] then true else x0==[45]))
 []
theorem QS (x0:TS):rn kM 0 HP Tryz.f276 [zy Sh.str x0] []=(Hn x0).map (lf Tryz.f276 e0):=by kernel_rfl
def IW (x0:TS):Option (zw (List.map some [Sh.bool])):=aq [Sh.bool] t0 100000000 (Hn x0)
def IV (x0:TS):Bool:=(IW x0).isSome
def Oq (x0:TS):Sem Sh.bool:=(fun r:zw (List.map some [Sh.bool])=>r.1) ((IW x0).getD (bD [Sh.bool]))
def M4:zB:=zA [Sh.str] [Sh.bool] (fun x=>IV x.1) fun x=>(Oq x.1,())
theorem Kt:FK 276 M4:=g5 (ks:=[Sh.str]) (outs:=[Sh.bool]) (keep:=HP) (gas:=400) (n:=100000000) (e:=e0) (t:=t0) (i:=fun x=>Hn x.1) fC RR (fun x=>QS x.1) (FO _ _ _ _ _) (fun _=>by kernel_rfl) (fun _=>by kernel_rfl)

abbrev HV:Nat→zS:=fun j=>if j=2 then { slots:=[0,1,5] } else { }
inductive yO where
 | h2 (l0:LC) (s1:TS) (i5:Int)
abbrev Gu:yO→Nat×St
 | .h2 l0 s1 i5=>(2,⟨tm 20 [(0,AV.sl zi l0),(1,AV.str s1),(5,AV.int .i64 i5)],[]⟩)
theorem Yo:zz kM.P 119 Tryz.f119 2:=aG (by kernel_rfl)
def Q5 (x0:Sem zi.sl) (x1:TS):Tr (yO ⊕ au):=
 Tr.to (yO.h2 x0 x1 0)
def Mg (l0:LC) (s1:TS) (i5:Int) (a0:Sem zi):Tr (yO ⊕ au):=
 Tr.br (decide (i5 < (↑l0.length:Int)))
 (Tr.chk (zH i5 l0.length) (Tr.br (a0.1==s1) (Tr.re (AV.int .i64 i5) []) (Tr.to (yO.h2 l0 s1 (IntKind.i64.wrap (i5+1))))))
 (Tr.re (AV.int .i64 (-1)) [])
def SD (l0:LC) (s1:TS) (i5:Int):Tr (yO ⊕ au):=
 let a0:=l0.getD i5.toNat (zj zi)
 Mg l0 s1 i5 a0
theorem WK (x0:Sem zi.sl) (x1:TS):rn kM 0 HV Tryz.f119 [zy zi.sl x0,zy Sh.str x1] []=(Q5 x0 x1).map (lf Tryz.f119 Gu):=by kernel_rfl
def SC:yO→Tr (yO ⊕ au)
 | .h2 l0 s1 i5=>SD l0 s1 i5
theorem Y3:∀ s,run kM 0 HV (Func.results Tryz.f119).toList 400 (zx Tryz.f119 (Gu s).1) (Gu s).2=(SC s).map (lf Tryz.f119 Gu)
 | .h2 l0 s1 i5=>by kernel_rfl
def Ba (x0:Sem zi.sl) (x1:TS):Option (zw (List.map some [zg])):=aq [zg] SC 100000000 (Q5 x0 x1)
def IY (x0:Sem zi.sl) (x1:TS):Bool:=(Ba x0 x1).isSome
def L6 (x0:Sem zi.sl) (x1:TS):Sem zg:=(fun r:zw (List.map some [zg])=>r.1) ((Ba x0 x1).getD (bD [zg]))
def TQ:zB:=zA [zi.sl,Sh.str] [zg] (fun x=>IY x.1 x.2.1) fun x=>(L6 x.1 x.2.1,())
theorem PA:FK 119 TQ:=g5 (ks:=[zi.sl,Sh.str]) (outs:=[zg]) (keep:=HV) (gas:=400) (n:=100000000) (e:=Gu) (t:=SC) (i:=fun x=>Q5 x.1 x.2.1) fC Yo (fun x=>WK x.1 x.2.1) Y3 (fun _=>by kernel_rfl) (fun _=>by kernel_rfl)

def Am (g:Sem Sh.expr→Sem Sh.expr→Sem Sh.bool) (c:Sem Sh.expr→Sem Sh.expr→Bool):ba:=kM.add 103 (zA [Sh.expr,Sh.expr] [Sh.bool] (fun x=>c x.1 x.2.1) fun x=>(g x.1 x.2.1,()))
theorem EZ {g:Sem Sh.expr→Sem Sh.expr→Sem Sh.bool} {c:Sem Sh.expr→Sem Sh.expr→Bool} (hg:FK 103 (zA [Sh.expr,Sh.expr] [Sh.bool] (fun x=>c x.1 x.2.1) fun x=>(g x.1 x.2.1,()))):zm (Am g c):=fC.add hg
abbrev HX:Nat→zS:=fun j=>if j=4 then { slots:=[2,3,5] } else { }
inductive yQ where
 | h4 (i5:Int) (z0:zu [CP.d Sh.expr]) (z1:zu [CP.d Sh.expr])
abbrev Gy:yQ→Nat×St
 | .h4 i5 z0 z1=>(4,⟨tm 53 [(2,AV.ptr 0 0),(3,AV.ptr 1 0),(5,AV.int .i64 i5)],[AO.box (bn [] [CP.d Sh.expr] z0),AO.box (bn [] [CP.d Sh.expr] z1)]⟩)
theorem YL (g:Sem Sh.expr→Sem Sh.expr→Sem Sh.bool) (c:Sem Sh.expr→Sem Sh.expr→Bool):zz (Am g c).P 103 Tryz.f103 2:=aG (by kernel_rfl)
def Q6 (_:Sem Sh.expr→Sem Sh.expr→Sem Sh.bool) (_:Sem Sh.expr→Sem Sh.expr→Bool) (x0:Sem Sh.expr) (x1:Sem Sh.expr):Tr (yQ ⊕ au):=
 Tr.br
 (bif !ze.op x0==ze.op x1 then true
 else
  bif !((ze.v x0).1==(ze.v x1).1&&((ze.v x0).2.1==(ze.v x1).2.1&&((ze.v x0).2.2==(ze.v x1).2.2&&true))) then true
  else bif !ze.s x0==ze.s x1 then true else (↑(ze.l x0).length:Int) != (↑(ze.l x1).length:Int))
 (Tr.re (AV.kb false) []) (Tr.to (yQ.h4 0 (x0,()) (x1,())))
def Mh (g:Sem Sh.expr→Sem Sh.expr→Sem Sh.bool) (c:Sem Sh.expr→Sem Sh.expr→Bool) (i5:Int) (z0:zu [CP.d Sh.expr]) (z1:zu [CP.d Sh.expr]) (a0:Int) (a1:ze) (a2:ze):Tr (yQ ⊕ au):=
 Tr.br (decide (i5 < a0))
 (Tr.chk (zH i5 (ze.l z0.1).length)
  (Tr.chk (zH i5 (ze.l z1.1).length) (Tr.chk (c a1 a2) (Tr.br (!g a1 a2) (Tr.re (AV.kb false) []) (Tr.to (yQ.h4 (IntKind.i64.wrap (i5+1)) z0 z1))))))
 (Tr.re (AV.kb true) [])
def SF (g:Sem Sh.expr→Sem Sh.expr→Sem Sh.bool) (c:Sem Sh.expr→Sem Sh.expr→Bool) (i5:Int) (z0:zu [CP.d Sh.expr]) (z1:zu [CP.d Sh.expr]):Tr (yQ ⊕ au):=
 let a0:=(↑(ze.l z0.1).length:Int)
 let a1:=zC ((ze.l z0.1).getD i5.toNat (zj Sh.expr))
 let a2:=zC ((ze.l z1.1).getD i5.toNat (zj Sh.expr))
 Mh g c i5 z0 z1 a0 a1 a2
theorem WU (g:Sem Sh.expr→Sem Sh.expr→Sem Sh.bool) (c:Sem Sh.expr→Sem Sh.expr→Bool) (x0:Sem Sh.expr) (x1:Sem Sh.expr):rn (Am g c) 0 HX Tryz.f103 [zy Sh.expr x0,zy Sh.expr x1] []=(Q6 g c x0 x1).map (lf Tryz.f103 Gy):=by kernel_rfl
def SE (g:Sem Sh.expr→Sem Sh.expr→Sem Sh.bool) (c:Sem Sh.expr→Sem Sh.expr→Bool):yQ→Tr (yQ ⊕ au)
 | .h4 i5 z0 z1=>SF g c i5 z0 z1
theorem Zb (g:Sem Sh.expr→Sem Sh.expr→Sem Sh.bool) (c:Sem Sh.expr→Sem Sh.expr→Bool):∀ s,run (Am g c) 0 HX (Func.results Tryz.f103).toList 400 (zx Tryz.f103 (Gy s).1) (Gy s).2=(SE g c s).map (lf Tryz.f103 Gy)
 | .h4 i5 z0 z1=>by kernel_rfl
def lS (o:Option (zw (List.map some [Sh.bool]))):Sem Sh.bool:=(fun r:zw (List.map some [Sh.bool])=>r.1) (o.getD (bD [Sh.bool]))
def L1 (g:Sem Sh.expr→Sem Sh.expr→Sem Sh.bool) (c:Sem Sh.expr→Sem Sh.expr→Bool) (x0:Sem Sh.expr) (x1:Sem Sh.expr):Option (zw (List.map some [Sh.bool])):=aq [Sh.bool] (SE g c) 3000000000 (Q6 g c x0 x1)
def e7:Nat→Sem Sh.expr→Sem Sh.expr→Option (zw (List.map some [Sh.bool]))
 | 0=>fun _ _=>none
 | n+1=>L1 (fun x0 x1=>lS (e7 n x0 x1)) fun x0 x1=>(e7 n x0 x1).isSome
theorem Rc:zz kM.P 103 Tryz.f103 2:=aG (by kernel_rfl)
theorem C9:∀ n,FK 103 (zA [Sh.expr,Sh.expr] [Sh.bool] (fun x=>(e7 n x.1 x.2.1).isSome) fun x=>(lS (e7 n x.1 x.2.1),()))
 | 0=>cO ⟨Tryz.f103,Rc.1,Rc.2.1,Rc.2.2.1⟩ (fun _=>rfl)
 | n+1=>g5 (E:=Am (fun x0 x1=>lS (e7 n x0 x1)) (fun x0 x1=>(e7 n x0 x1).isSome)) (ks:=[Sh.expr,Sh.expr]) (outs:=[Sh.bool]) (keep:=HX) (gas:=400) (n:=3000000000) (e:=Gy) (t:=SE (fun x0 x1=>lS (e7 n x0 x1)) (fun x0 x1=>(e7 n x0 x1).isSome)) (i:=fun x=>Q6 (fun x0 x1=>lS (e7 n x0 x1)) (fun x0 x1=>(e7 n x0 x1).isSome) x.1 x.2.1) (EZ (C9 n)) (YL _ _) (fun x=>WU _ _ x.1 x.2.1) (Zb _ _) (fun _=>by kernel_rfl) (fun _=>by kernel_rfl)
def D7 (x0:Sem Sh.expr) (x1:Sem Sh.expr):Option (zw (List.map some [Sh.bool])):=e7 16 x0 x1
def lR (x0:Sem Sh.expr) (x1:Sem Sh.expr):Bool:=(D7 x0 x1).isSome
def pz (x0:Sem Sh.expr) (x1:Sem Sh.expr):Sem Sh.bool:=lS (D7 x0 x1)
def T9:zB:=zA [Sh.expr,Sh.expr] [Sh.bool] (fun x=>lR x.1 x.2.1) fun x=>(pz x.1 x.2.1,())
theorem PS:FK 103 T9:=C9 16

def se (g:Sem Sh.expr→Sem zg) (c:Sem Sh.expr→Bool):ba:=kM.add 245 (zA [Sh.expr] [zg] (fun x=>c x.1) fun x=>(g x.1,()))
theorem BV {g:Sem Sh.expr→Sem zg} {c:Sem Sh.expr→Bool} (hg:FK 245 (zA [Sh.expr] [zg] (fun x=>c x.1) fun x=>(g x.1,()))):zm (se g c):=fC.add hg
abbrev Cp:Nat→zS:=fun j=>if j=3 then { slots:=[1,3,4] } else { }
inductive pO where
 | h3 (i3:Int) (i4:Int) (z0:zu [CP.d Sh.expr])
abbrev Ad:pO→Nat×St
 | .h3 i3 i4 z0=>(3,⟨tm 21 [(1,AV.ptr 0 0),(3,AV.int .i64 i3),(4,AV.int .i64 i4)],[AO.box (bn [] [CP.d Sh.expr] z0)]⟩)
theorem RQ (g:Sem Sh.expr→Sem zg) (c:Sem Sh.expr→Bool):zz (se g c).P 245 Tryz.f245 1:=aG (by kernel_rfl)
def Hm (_:Sem Sh.expr→Sem zg) (_:Sem Sh.expr→Bool) (x0:Sem Sh.expr):Tr (pO ⊕ au):=
 Tr.to (pO.h3 1 0 (x0,()))
def Ju (g:Sem Sh.expr→Sem zg) (c:Sem Sh.expr→Bool) (i3:Int) (i4:Int) (z0:zu [CP.d Sh.expr]) (a0:Int) (a1:ze):Tr (pO ⊕ au):=
 Tr.br (decide (i4 < a0))
 (Tr.chk (zH i4 (ze.l z0.1).length) (Tr.chk (c a1) (Tr.to (pO.h3 (IntKind.i64.wrap (i3+g a1)) (IntKind.i64.wrap (i4+1)) z0))))
 (Tr.re (AV.int .i64 i3) [])
def Mf (g:Sem Sh.expr→Sem zg) (c:Sem Sh.expr→Bool) (i3:Int) (i4:Int) (z0:zu [CP.d Sh.expr]):Tr (pO ⊕ au):=
 let a0:=(↑(ze.l z0.1).length:Int)
 let a1:=zC ((ze.l z0.1).getD i4.toNat (zj Sh.expr))
 Ju g c i3 i4 z0 a0 a1
theorem QP (g:Sem Sh.expr→Sem zg) (c:Sem Sh.expr→Bool) (x0:Sem Sh.expr):rn (se g c) 0 Cp Tryz.f245 [zy Sh.expr x0] []=(Hm g c x0).map (lf Tryz.f245 Ad):=by kernel_rfl
def Jt (g:Sem Sh.expr→Sem zg) (c:Sem Sh.expr→Bool):pO→Tr (pO ⊕ au)
 | .h3 i3 i4 z0=>Mf g c i3 i4 z0
theorem R2 (g:Sem Sh.expr→Sem zg) (c:Sem Sh.expr→Bool):∀ s,run (se g c) 0 Cp (Func.results Tryz.f245).toList 400 (zx Tryz.f245 (Ad s).1) (Ad s).2=(Jt g c s).map (lf Tryz.f245 Ad)
 | .h3 i3 i4 z0=>by kernel_rfl
def jr (o:Option (zw (List.map some [zg]))):Sem zg:=(fun r:zw (List.map some [zg])=>r.1) (o.getD (bD [zg]))
def IU (g:Sem Sh.expr→Sem zg) (c:Sem Sh.expr→Bool) (x0:Sem Sh.expr):Option (zw (List.map some [zg])):=aq [zg] (Jt g c) 100000000 (Hm g c x0)
def dG:Nat→Sem Sh.expr→Option (zw (List.map some [zg]))
 | 0=>fun _=>none
 | n+1=>IU (fun x0=>jr (dG n x0)) fun x0=>(dG n x0).isSome
theorem HC:zz kM.P 245 Tryz.f245 1:=aG (by kernel_rfl)
theorem yL:∀ n,FK 245 (zA [Sh.expr] [zg] (fun x=>(dG n x.1).isSome) fun x=>(jr (dG n x.1),()))
 | 0=>cO ⟨Tryz.f245,HC.1,HC.2.1,HC.2.2.1⟩ (fun _=>rfl)
 | n+1=>g5 (E:=se (fun x0=>jr (dG n x0)) (fun x0=>(dG n x0).isSome)) (ks:=[Sh.expr]) (outs:=[zg]) (keep:=Cp) (gas:=400) (n:=100000000) (e:=Ad) (t:=Jt (fun x0=>jr (dG n x0)) (fun x0=>(dG n x0).isSome)) (i:=fun x=>Hm (fun x0=>jr (dG n x0)) (fun x0=>(dG n x0).isSome) x.1) (BV (yL n)) (RQ _ _) (fun x=>QP _ _ x.1) (R2 _ _) (fun _=>by kernel_rfl) (fun _=>by kernel_rfl)
def A9 (x0:Sem Sh.expr):Option (zw (List.map some [zg])):=dG 16 x0
def A8 (x0:Sem Sh.expr):Bool:=(A9 x0).isSome
def Ec (x0:Sem Sh.expr):Sem zg:=jr (A9 x0)
def MT:zB:=zA [Sh.expr] [zg] (fun x=>A8 x.1) fun x=>(Ec x.1,())
theorem Ki:FK 245 MT:=yL 16

def xr:=kM.addL [(121,Mp),(188,MU),(276,M4),(119,TQ),(103,T9),(245,MT)]
theorem hJ:zm xr:=fC.addL <| fc JO <| fc Kj <| fc Kt <| fc PA <| fc PS <| fc Ki gX
end
end Cad
