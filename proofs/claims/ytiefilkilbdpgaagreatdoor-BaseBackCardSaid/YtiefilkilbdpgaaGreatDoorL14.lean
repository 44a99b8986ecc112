/- Tables with rows that may be: no value twice. Tables with rows that may be. Bases that may be. Small things about lists and places. Bases from whose tables rows are taken. Bases from whose tables rows are taken, and into which rows are put: the laws. Rows that a condition meets: what rel.Where answers. Bases: the keys that are met, rows that are taken out: what is answered. Bases: what a SELECT and a DELETE answer. Bases: what a DELETE answers. Texts: an octet replaced by two, two by one; tokens. A DELETE may be where the SELECT of the same may be. A text that a statement's parts make has its tokens. The SELECT and the DELETE of a key may be. Rows that are put in, in one order or another: the law. Few tables, few statements. Few bases. The document's reader: letters, words. -/
import Derived.Test.YtiefilkilbdpgaaGreatDoorL12
import Derived.Test.YtiefilkilbdpgaaGreatDoorL13
namespace Cad
open Go Go.Proofs
open Int (toNat)
open List (getD)
open List (length)
set_option maxHeartbeats 4000000

abbrev zZ (c:Int) (r:List (Sem zf)):Sem zf:=getD r (toNat c) (zj zf)
def Be (rows:List (List (Sem zf))) (c:Int):Prop:=rows.Pairwise fun a b=>(zZ c a).1≠0→zZ c a≠zZ c b

theorem mN:∀ (es:List ((Int×Int×zl)×Int)) (k:Int×Int×zl) (x:Int),ic (gX es k) (jn es k) x=ib es k x
 | [],k,x=>by simp [gX,fm,jn,ic,ib]
 | p::r,k,x=>by
  have h:=mN r k x
  cases hk:(k==p.1) with
  | true=>
   have e:k=p.1:=cN hk
   simp [gX,fm,jn,ic,ib,e]
  | false=>
   have e:gX (p::r) k=p::gX r k:=by
    simp only [gX,fm,List.any_cons,hk,Bool.false_or]
    cases (r.any fun p=>k==p.1) <;> rfl
   rw [e,jn,ib,hk]
   show p::ic (gX r k) (jn r k) x=p::ib r k x
   rw [h]
theorem A4 (es:List ((Int×Int×zl)×Int)) (k k':Int×Int×zl) (x:Int):fb (ib es k x) k'=if k'=k then x else fb es k':=by
 induction es with
 | nil=>
  by_cases h:k'=k
  ·subst h; simp [ib,fb]
  ·simp [ib,fb,h]
 | cons p r ih=>
  rw [ib]
  cases hk:(k==p.1) with
  | true=>
   have e:k=p.1:=cN hk
   by_cases h:k'=k
   ·simp [fb,h]
   ·have h2:(k'==p.1)=false:=by rw [← e]; simpa using h
    have h3:(k'==k)=false:=by simpa using h
    simp only [bA,fb,List.find?_cons,h2,h3,if_neg h]
  | false=>
   show fb (p::ib r k x) k'=_
   cases hp:(k'==p.1) with
   | true=>
    have e:k'=p.1:=cN hp
    have h:k'≠k:=by intro h; rw [← h,hp] at hk; cases hk
    simp only [fb,List.find?_cons,hp,if_neg h]
   | false=>
    simp only [fb,List.find?_cons,hp] at ih ⊢
    exact ih

def pR:List (Sem zf)→List ((Int×Int×zl)×Int)
 | []=>[]
 | v::r=>ib (pR r) v (IntKind.i64.wrap (fb (pR r) v+1))
theorem Ep:∀ l:List (Sem zf),(pR l).length≤l.length
 | []=>aU _
 | v::r=>by
  rw [pR,← mN,xL]
  have:=OT (pR r) v
  have:=Ep r
  simp; omega
theorem wj:∀ (l:List (Sem zf)) (v:Sem zf),l.length≤1000000→fb (pR l) v=(l.count v:Int)
 | [],v,_=>by simp [pR,fb]
 | u::r,v,h=>by
  simp only [lu] at h
  have h1:=wj r u (by omega)
  have h2:=wj r v (by omega)
  have h3:r.count u≤r.length:=List.count_le_length
  rw [pR,A4,h1,h2,zH _ (by unfold zE; omega)]
  by_cases e:v=u
  ·subst e; simp
  ·have e':¬ (u==v)=true:=by intro h; exact e (cN h).symm
   rw [if_neg e,List.count_cons,if_neg e']; rfl

theorem EO {x:Sem zh} {c:Int} (hc:∀ r∈x.2,zF c (length r)=true) (hl:x.2.length≤1000000):∃ b,tG x c=some (b,())∧(b=false↔Be x.2 c):=by
  let key:Nat→Sem zf:=fun i=>zZ c (getD x.2 i (zj zf.sl))
  let mm:Nat→List ((Int×Int×zl)×Int):=fun i=>pR (((x.2.take i).map (zZ c)).reverse)
  have hm:∀ i,i < x.2.length→mm (i+1)=ib (mm i) (key i) (IntKind.i64.wrap (fb (mm i) (key i)+1)):=by
    intro i hi
    show pR (((x.2.take (i+1)).map (zZ c)).reverse)=_
    rw [List.take_succ_eq_append_getElem hi,uo,List.reverse_append]
    show pR (zZ c x.2[i]::_)=_
    rw [pR]
    have:key i=zZ c x.2[i]:=by
      show zZ c (getD x.2 i _)=_
      rw [aD,zI hi,bz]
    rw [this]
    rfl
  have hlen:∀ i,i≤x.2.length→(mm i).length≤i:=by
    intro i hi
    have:=Ep (((x.2.take i).map (zZ c)).reverse)
    simp at this
    have h2:(mm i).length=(pR (((x.2.take i).map (zZ c)).reverse)).length:=rfl
    simp at h2
    omega
  have hget:∀ i v,i≤x.2.length→fb (mm i) v=((((x.2.take i).map (zZ c)).count v:Nat):Int):=by
    intro i v hi
    show fb (pR _) v=_
    rw [wj _ _ (by simp; omega),List.count_reverse]
  have hf:=KZ (t:=sK) (Φ:=fun r=>ae r.2 [Sh.bool] r.1=some (true,())) 1 (fun i=>.h3 c x.2 (x.2.length:Int) (i:Int) (mm i)) (fun i=>(key i).1≠0→((x.2.take i).map (zZ c)).count (key i)=0) x.2.length (by
    intro i hi _
    have k0:getD x.2 (i:Int).toNat (zj zf.sl)=getD x.2 i (zj zf.sl):=by rw [be]
    have k1:getD x.2 i (zj zf.sl)=x.2[i]:=by rw [aD,zI hi,bz]
    have k2:zF c (length x.2[i])=true:=hc _ (ce hi)
    have k3:key i=zZ c x.2[i]:=by show zZ c (getD x.2 i _)=_; rw [k1]
    have k4:zF ((jn (mm i) (key i):Nat):Int) (gX (mm i) (key i)).length=true:=zG (RO _ _)
    have k5:decide ((mm i).length≤1073741824)=true:=ba (by have:=hlen i (by omega); omega)
    have k6:ic (gX (mm i) (key i)) ((jn (mm i) (key i):Nat):Int).toNat (IntKind.i64.wrap (fb (mm i) (key i)+1))=mm (i+1):=by rw [be,mN,hm i hi]
    have k7:fb (mm (i+1)) (key i)=((((x.2.take i).map (zZ c)).count (key i)+1:Nat):Int):=by
      have h3:((x.2.take i).map (zZ c)).count (key i)≤((x.2.take i).map (zZ c)).length:=List.count_le_length
      simp only [yE,List.length_take] at h3
      rw [hm i hi,A4,if_pos rfl,hget i _ (by omega),zH _ (by unfold zE; omega)]
    have hv:(sK (.h3 c x.2 (x.2.length:Int) (i:Int) (mm i))).val=if (bif (key i).1 != 0 then decide (((((x.2.take i).map (zZ c)).count (key i)+1:Nat):Int) > 1) else false)=true then some (.inr (.kb true,[])) else some (.inl (.h3 c x.2 (x.2.length:Int) ((i+1:Nat):Int) (mm (i+1)))):=by
      show (sK (.h3 c x.2 _ _ _)).val=_
      unfold sK
      simp only [k0,k1]
      rw [show getD x.2[i] (toNat c) (zj zf)=key i from k3.symm]
      simp only [Tr.val,zX hi,zG hi,k2,k4,k5,if_true,k6,k7]
      rw [zH i (by unfold zE; omega)]
    by_cases h1:(key i).1=0
    · refine .inl ⟨fun h=>absurd h1 h,aQ.of ?_⟩
      rw [hv,if_neg (by simp [h1])]
    · by_cases h2:((x.2.take i).map (zZ c)).count (key i)=0
      · refine .inl ⟨fun _=>h2,aQ.of ?_⟩
        rw [hv,if_neg (by rw [h2]; simp)]
      · refine .inr ⟨fun h => h2 (h h1),(.kb true,[]),bS.of ?_,rfl⟩
        rw [hv, if_pos (by have:((key i).1 != 0)=true:=by simpa using h1
                           rw [this]; simp only [bA,zW]; omega)])
  have hu:(∀ i,i < x.2.length→(key i).1≠0→((x.2.take i).map (zZ c)).count (key i)=0)↔Be x.2 c:=by
    unfold Be
    rw [List.pairwise_iff_getElem]
    constructor
    · intro h j i hj hi hji hne e
      have k3:key i=zZ c x.2[i]:=by show zZ c (getD x.2 i _)=_; rw [aD,zI hi,bz]
      have:=h i hi (by rw [k3,← e]; exact hne)
      rw [List.count_eq_zero,k3,← e] at this
      exact this (ff.2 ⟨_,List.mem_take_iff_getElem.2 ⟨j,by omega,rfl⟩,rfl⟩)
    · intro h i hi hne
      have k3:key i=zZ c x.2[i]:=by show zZ c (getD x.2 i _)=_; rw [aD,zI hi,bz]
      rw [List.count_eq_zero]
      intro hmem
      obtain ⟨r,hr,e⟩:=ff.1 hmem
      obtain ⟨j,hj,rfl⟩:=List.mem_take_iff_getElem.1 hr
      rw [k3] at e hne
      exact h j i (by omega) hi (by omega) (by rw [e]; exact hne) e
  have hgo:(TL x c).val=some (.inl (.h3 c x.2 (x.2.length:Int) ((0:Nat):Int) (mm 0))):=rfl
  rcases hf with ⟨h1,h2⟩ | ⟨h1,r,h2,h3⟩
  · refine ⟨false,?_,fun _=>hu.1 h1,fun _=>rfl⟩
    refine bN hgo (h2.ends (bS.of (r:=(.kb false,[])) ?_)) (by omega) rfl
    show (sK (.h3 c x.2 _ _ _)).val=_
    simp only [sK,Tr.val,ag]
    rfl
  · refine ⟨true,bN hgo h2 (by omega) h3,⟨fun h=>?_,fun h=>absurd (hu.2 h) h1⟩⟩
    cases h

theorem bR {α:Type} {l:List α} {d:α} {Q:α→Prop}:(∀ i,i < l.length→Q (l.getD i d))↔∀ x∈l,Q x:=by
 constructor
 ·intro h x hx
  obtain ⟨i,hi,rfl⟩:=Dm hx
  have:=h i hi
  rwa [aD,zI hi,bz] at this
 ·intro h i hi
  rw [aD,zI hi,bz]
  exact h _ (ce hi)
theorem bD {α:Type} {l:List α} {d:α} {i:Nat} (hi:i < l.length):l.getD i d∈l:=by
 rw [aD,zI hi,bz]
 exact ce hi
theorem qE (i:Nat) (h:i < zE):IntKind.i64.wrap (((i+1:Nat):Int) - 1)=(i:Int):=by
 have:zE=9223372036854775807:=rfl
 rw [ul]
 omega

def KI (a b:Sem zf):Prop:=LT.lt (α:=Int) (aS a b) 0
theorem Jh {a b:Sem zf}:decide (GE.ge (α:=Int) (aS a b) 0)=true↔¬ KI a b:=by
 unfold KI
 rw [zW]
 omega

structure cd (x:Sem zh):Prop where
 may:iK x.1=true
 few:x.2.length≤200
 fits:∀ r∈x.2,io x.1 r=(0:Int)
 key:Be x.2 x.1.2.2.1
 uniq:∀ u∈x.1.2.2.2.1,Be x.2 u
 rise:∀ i,i < x.2.length - 1→KI (zZ x.1.2.2.1 (getD x.2 i (zj zf.sl))) (zZ x.1.2.2.1 (getD x.2 (i+1) (zj zf.sl)))

def Zc (r:zV):Prop:=∃ e:Int,r=(.int .i64 e,[])∧e≠0

theorem sC {x:Sem zh} (hs:c8 x):∃ e:Int,k9 x=some (e,())∧(e=0↔cd x):=by
 have hsw:=hs.rw
 have hsu:=hs.uq
 have fin:∀ {k:Nat} {r:zV},bS fG k (.h6 x.2 (x.2.length:Int) ((0:Nat):Int) (x,())) r→k≤100000000→(JY x).val=some (.inl (.h6 x.2 (x.2.length:Int) ((0:Nat):Int) (x,())))→∀ e:Int,r=(.int .i64 e,[])→k9 x=some (e,()):=by
  intro k r h hk hi e he
  subst he
  exact bN hi h hk rfl
 by_cases hm:iK x.1=true
 case neg=>
  refine ⟨1,?_,fun h=>(by cases h),fun h=>absurd h.may hm⟩
  unfold k9 zT bW
  simp only [JY,zn,Tr.val]
  rw [if_pos (by simpa using hm)]
  rfl
 by_cases hw:x.2.length≤200
 case neg=>
  refine ⟨13,?_,fun h=>(by cases h),fun h=>absurd h.few hw⟩
  unfold k9 zT bW
  simp only [JY,zn,Tr.val]
  rw [if_neg (by simpa using hm),if_pos (by simp; omega)]
  rfl
 have hi:(JY x).val=some (.inl (.h6 x.2 (x.2.length:Int) ((0:Nat):Int) (x,()))):=by
  simp only [JY,zn,Tr.val]
  rw [if_neg (by simpa using hm),if_neg (by simp; omega)]
  rfl
 obtain ⟨hkc,hrc,huc,_,_⟩:=gA hm
 have h6:=KZ (t:=fG) (Φ:=Zc) 1 (fun i=>.h6 x.2 (x.2.length:Int) (i:Int) (x,())) (fun i=>io x.1 (getD x.2 i (zj zf.sl))=(0:Int)) x.2.length (by
  intro i hi _
  have hv:(fG (.h6 x.2 (x.2.length:Int) (i:Int) (x,()))).val=if (io x.1 (getD x.2 i (zj zf.sl)) != 0)=true then some (.inr (.int .i64 (io x.1 (getD x.2 i (zj zf.sl))),[])) else some (.inl (.h6 x.2 (x.2.length:Int) ((i+1:Nat):Int) (x,()))):=by
   show (fG (.h6 x.2 _ _ _)).val=_
   unfold fG
   simp only [zn,Tr.val,zX hi,zG hi,if_true,be]
   rw [zH i (by unfold zE; omega)]
  by_cases h:io x.1 (getD x.2 i (zj zf.sl))=(0:Int)
  ·refine .inl ⟨h,aQ.of ?_⟩
   rw [hv,if_neg (by rw [h]; simp)]
  ·refine .inr ⟨h,_,bS.of (by rw [hv,if_pos (by simpa using h)]),_,rfl,h⟩)
 rcases h6 with ⟨hf,h6⟩ | ⟨hf,r,h6,e,he,hne⟩
 case inr=>
  exact ⟨e,fin h6 (by omega) hi e he,fun h=>absurd h hne,fun h=>absurd ((bR (Q:=fun r=>io x.1 r=(0:Int))).2 h.fits) hf⟩
 have hfits:=(bR (Q:=fun r=>io x.1 r=(0:Int))).1 hf
 have hlen:∀ r∈x.2,length r=x.1.2.1.length:=fun r hr=>mh (by simpa using hfits r hr)
 have hin:∀ c,Fk c x.1.2.1.length→∀ r∈x.2,zF c (length r)=true:=fun c hc r hr=>by
  rw [hlen r hr]; exact BY hc
 obtain ⟨b,hb,hbu⟩:=EO (x:=x) (c:=x.1.2.2.1) (hin _ hkc) (by omega)
 have hbc:nq x x.1.2.2.1=true:=by unfold nq; rw [hb]; rfl
 have hbv:rG x x.1.2.2.1=b:=by unfold rG; rw [hb]; rfl
 have hv6:(fG (.h6 x.2 (x.2.length:Int) (x.2.length:Int) (x,()))).val=if b=true then some (.inr (.int .i64 7,[])) else some (.inl (.h15 x.1.2.2.2.1 (x.1.2.2.2.1.length:Int) ((0:Nat):Int) (x,()))):=by
  show (fG (.h6 x.2 _ _ _)).val=_
  unfold fG
  simp only [zn,Tr.val,ag,hbc,hbv,if_true]
  rfl
 by_cases hb1:b=true
 ·refine ⟨7,fin (h6.ends (bS.of (by rw [hv6,if_pos hb1]))) (by omega) hi 7 rfl,fun h=>(by cases h),fun h=>?_⟩
  have:=hbu.2 h.key
  rw [hb1] at this; cases this
 have hkey:Be x.2 x.1.2.2.1:=hbu.1 (by simpa using hb1)
 have g15:aQ fG _ (.h6 x.2 (x.2.length:Int) ((0:Nat):Int) (x,())) _:=h6.trans (aQ.of (by rw [hv6,if_neg hb1]))
 have h15:=KZ (t:=fG) (Φ:=Zc) 1 (fun i=>.h15 x.1.2.2.2.1 (x.1.2.2.2.1.length:Int) (i:Int) (x,())) (fun i=>Be x.2 (getD x.1.2.2.2.1 i (zj zg))) x.1.2.2.2.1.length (by
  intro i hi _
  obtain ⟨b,hb,hbu⟩:=EO (x:=x) (c:=getD x.1.2.2.2.1 i (zj zg)) (hin _ (huc _ (bD hi))) (by omega)
  have hbc:nq x (getD x.1.2.2.2.1 i (zj zg))=true:=by unfold nq; rw [hb]; rfl
  have hbv:rG x (getD x.1.2.2.2.1 i (zj zg))=b:=by unfold rG; rw [hb]; rfl
  have hv:(fG (.h15 x.1.2.2.2.1 (x.1.2.2.2.1.length:Int) (i:Int) (x,()))).val=if b=true then some (.inr (.int .i64 7,[])) else some (.inl (.h15 x.1.2.2.2.1 (x.1.2.2.2.1.length:Int) ((i+1:Nat):Int) (x,()))):=by
   show (fG (.h15 _ _ _ _)).val=_
   unfold fG
   simp only [zn,Tr.val,zX hi,zG hi,if_true,be,hbc,hbv]
   rw [zH i (by unfold zE; omega)]
  by_cases h:b=true
  ·refine .inr ⟨fun hu=>?_,_,bS.of (by rw [hv,if_pos h]),7,rfl,by decide⟩
   have:=hbu.2 hu
   rw [h] at this; cases this
  ·exact .inl ⟨hbu.1 (by simpa using h),aQ.of (by rw [hv,if_neg h])⟩)
 rcases h15 with ⟨hq,h15⟩ | ⟨hq,r,h15,e,he,hne⟩
 case inr=>
  exact ⟨e,fin (g15.ends h15) (by omega) hi e he,fun h=>absurd h hne,fun h=>absurd ((bR (Q:=fun u=>Be x.2 u)).2 h.uniq) hq⟩
 have huniq:=(bR (Q:=fun u=>Be x.2 u)).1 hq
 have hv15:(fG (.h15 x.1.2.2.2.1 (x.1.2.2.2.1.length:Int) (x.1.2.2.2.1.length:Int) (x,()))).val=some (.inl (.h21 ((0+1:Nat):Int) (x,()))):=by
  show (fG (.h15 _ _ _ _)).val=_
  unfold fG
  simp only [Tr.val,ag]
  rfl
 have g21:=(g15.trans h15).trans (aQ.of hv15)
 have h21:=KZ (t:=fG) (Φ:=Zc) 1 (fun i=>.h21 ((i+1:Nat):Int) (x,())) (fun i=>KI (zZ x.1.2.2.1 (getD x.2 i (zj zf.sl))) (zZ x.1.2.2.1 (getD x.2 (i+1) (zj zf.sl)))) (x.2.length - 1) (by
  intro i hi _
  have h1:i < x.2.length:=by omega
  have h2:i+1 < x.2.length:=by omega
  have hv:(fG (.h21 ((i+1:Nat):Int) (x,()))).val=if decide (GE.ge (α:=Int) (aS (zZ x.1.2.2.1 (getD x.2 i (zj zf.sl))) (zZ x.1.2.2.1 (getD x.2 (i+1) (zj zf.sl)))) 0)=true then some (.inr (.int .i64 15,[])) else some (.inl (.h21 ((i+1+1:Nat):Int) (x,()))):=by
   show (fG (.h21 _ _)).val=_
   unfold fG
   simp only [qE i (by unfold zE; omega)]
   simp only [Tr.val,zX h2,zG h2,zG h1,be,hin _ hkc _ (bD h1),hin _ hkc _ (bD h2),if_true]
   rw [zH (i+1) (by unfold zE; omega)]
  by_cases h:KI (zZ x.1.2.2.1 (getD x.2 i (zj zf.sl))) (zZ x.1.2.2.1 (getD x.2 (i+1) (zj zf.sl)))
  ·exact .inl ⟨h,aQ.of (by rw [hv,if_neg (fun h2=>Jh.1 h2 h)])⟩
  ·exact .inr ⟨h,_,bS.of (by rw [hv,if_pos (Jh.2 h)]),15,rfl,by decide⟩)
 rcases h21 with ⟨hr,h21⟩ | ⟨hr,r,h21,e,he,hne⟩
 case inr=>
  exact ⟨e,fin (g21.ends h21) (by omega) hi e he,fun h=>absurd h hne,fun h=>absurd h.rise hr⟩
 have hv21:(fG (.h21 ((x.2.length - 1+1:Nat):Int) (x,()))).val=some (.inr (.int .i64 0,[])):=by
  show (fG (.h21 _ _)).val=_
  unfold fG
  simp only [Tr.val]
  rw [if_neg (by simp; omega)]
 exact ⟨0,fin (g21.ends (h21.ends (bS.of hv21))) (by omega) hi 0 rfl,fun _=>⟨hm,hw,hfits,hkey,huniq,hr⟩,fun _=>rfl⟩

abbrev dd (db:List (Sem zh)) (s:zl):Sem zh:=getD db (toNat (aj db s)) (zj zh)
def tU (db:List (Sem zh)):Prop:=∀ x∈db,∀ f∈x.1.2.2.2.2.1,LE.le (α:=Int) 0 (aj db f.2)∧∀ row∈x.2,(zZ f.1 row).1≠0→lP (dd db f.2) (dd db f.2).1.2.2.1 (zZ f.1 row)=true

def Y6 (r:zV):Prop:=r=(.kb false,[])

theorem Qj {db:List (Sem zh)} {x:Sem zh} {f:Sem zq} {i k:Nat} (hf:LE.le (α:=Int) 0 (aj db f.2)) (hc:∀ row∈x.2,zF f.1 (length row)=true) (hl:x.2.length≤1000):
  ((∀ j,j < x.2.length→(zZ f.1 (getD x.2 j (zj zf.sl))).1≠0→lP (dd db f.2) (dd db f.2).1.2.2.1 (zZ f.1 (getD x.2 j (zj zf.sl)))=true)∧
   aQ fk (x.2.length * 1) (.h11 db (aj db f.2) db (db.length:Int) (i:Int) x.1.2.2.2.2.1 (x.1.2.2.2.2.1.length:Int) (k:Int) x.2 (x.2.length:Int) ((0:Nat):Int) (x,()) (f,()))
    (.h11 db (aj db f.2) db (db.length:Int) (i:Int) x.1.2.2.2.2.1 (x.1.2.2.2.2.1.length:Int) (k:Int) x.2 (x.2.length:Int) (x.2.length:Int) (x,()) (f,())))∨
  ((¬ ∀ j,j < x.2.length→(zZ f.1 (getD x.2 j (zj zf.sl))).1≠0→lP (dd db f.2) (dd db f.2).1.2.2.1 (zZ f.1 (getD x.2 j (zj zf.sl)))=true)∧
   ∃ r,bS fk (x.2.length * 1) (.h11 db (aj db f.2) db (db.length:Int) (i:Int) x.1.2.2.2.2.1 (x.1.2.2.2.2.1.length:Int) (k:Int) x.2 (x.2.length:Int) ((0:Nat):Int) (x,()) (f,())) r∧Y6 r):=by
 refine KZ (t:=fk) (Φ:=Y6) 1 (fun j=>.h11 db (aj db f.2) db (db.length:Int) (i:Int) x.1.2.2.2.2.1 (x.1.2.2.2.2.1.length:Int) (k:Int) x.2 (x.2.length:Int) (j:Int) (x,()) (f,())) (fun j=>(zZ f.1 (getD x.2 j (zj zf.sl))).1≠0→lP (dd db f.2) (dd db f.2).1.2.2.1 (zZ f.1 (getD x.2 j (zj zf.sl)))=true) x.2.length ?_
 intro j hj _
 have hv:(fk (.h11 db (aj db f.2) db (db.length:Int) (i:Int) x.1.2.2.2.2.1 (x.1.2.2.2.2.1.length:Int) (k:Int) x.2 (x.2.length:Int) (j:Int) (x,()) (f,()))).val=
   if (bif (zZ f.1 (getD x.2 j (zj zf.sl))).1 != 0 then !lP (dd db f.2) (dd db f.2).1.2.2.1 (zZ f.1 (getD x.2 j (zj zf.sl))) else false)=true then some (.inr (.kb false,[])) else
   some (.inl (.h11 db (aj db f.2) db (db.length:Int) (i:Int) x.1.2.2.2.2.1 (x.1.2.2.2.2.1.length:Int) (k:Int) x.2 (x.2.length:Int) ((j+1:Nat):Int) (x,()) (f,()))):=by
  show (fk (.h11 _ _ _ _ _ _ _ _ _ _ _ _ _)).val=_
  unfold fk
  simp only [zn,Tr.val,zX hj,zG hj,hc _ (bD hj),jc hf,be,if_true,nQ]
  rw [if_pos (by cases ((getD (getD x.2 j (zj zf.sl)) (toNat f.1) (zj zf)).1 != 0) <;> rfl)]
  rw [zH j (by unfold zE; omega)]
 by_cases h1:(zZ f.1 (getD x.2 j (zj zf.sl))).1=0
 ·exact .inl ⟨fun h=>absurd h1 h,aQ.of (by rw [hv,if_neg (by rw [h1]; simp)])⟩
 ·have h1':((zZ f.1 (getD x.2 j (zj zf.sl))).1 != 0)=true:=by simpa using h1
  by_cases h2:lP (dd db f.2) (dd db f.2).1.2.2.1 (zZ f.1 (getD x.2 j (zj zf.sl)))=true
  ·exact .inl ⟨fun _=>h2,aQ.of (by rw [hv,if_neg (by rw [h2,h1']; simp)])⟩
  ·exact .inr ⟨fun h=>h2 (h h1),_,bS.of (by rw [hv,if_pos (by rw [h1']; simpa using h2)]),rfl⟩

theorem WJ {db:List (Sem zh)} {x:Sem zh} {i:Nat} (hc:∀ f∈x.1.2.2.2.2.1,∀ row∈x.2,zF f.1 (length row)=true) (hl:x.2.length≤1000) (hr:x.1.2.2.2.2.1.length≤1000):
  let P:Nat→Prop:=fun k=>LE.le (α:=Int) 0 (aj db (getD x.1.2.2.2.2.1 k (zj zq)).2)∧∀ row∈x.2,(zZ (getD x.1.2.2.2.2.1 k (zj zq)).1 row).1≠0→lP (dd db (getD x.1.2.2.2.2.1 k (zj zq)).2) (dd db (getD x.1.2.2.2.2.1 k (zj zq)).2).1.2.2.1 (zZ (getD x.1.2.2.2.2.1 k (zj zq)).1 row)=true
  ((∀ k,k < x.1.2.2.2.2.1.length→P k)∧aQ fk (x.1.2.2.2.2.1.length * 1002) (.h5 db db (db.length:Int) (i:Int) x.1.2.2.2.2.1 (x.1.2.2.2.2.1.length:Int) ((0:Nat):Int) (x,())) (.h5 db db (db.length:Int) (i:Int) x.1.2.2.2.2.1 (x.1.2.2.2.2.1.length:Int) (x.1.2.2.2.2.1.length:Int) (x,())))∨
  ((¬ ∀ k,k < x.1.2.2.2.2.1.length→P k)∧∃ r,bS fk (x.1.2.2.2.2.1.length * 1002) (.h5 db db (db.length:Int) (i:Int) x.1.2.2.2.2.1 (x.1.2.2.2.2.1.length:Int) ((0:Nat):Int) (x,())) r∧Y6 r):=by
 intro P
 refine KZ (t:=fk) (Φ:=Y6) 1002 (fun k=>.h5 db db (db.length:Int) (i:Int) x.1.2.2.2.2.1 (x.1.2.2.2.2.1.length:Int) (k:Int) (x,())) P x.1.2.2.2.2.1.length ?_
 intro k hk _
 have hv:(fk (.h5 db db (db.length:Int) (i:Int) x.1.2.2.2.2.1 (x.1.2.2.2.2.1.length:Int) (k:Int) (x,()))).val=
   if decide (LT.lt (α:=Int) (aj db (getD x.1.2.2.2.2.1 k (zj zq)).2) 0)=true then some (.inr (.kb false,[])) else
   some (.inl (.h11 db (aj db (getD x.1.2.2.2.2.1 k (zj zq)).2) db (db.length:Int) (i:Int) x.1.2.2.2.2.1 (x.1.2.2.2.2.1.length:Int) (k:Int) x.2 (x.2.length:Int) ((0:Nat):Int) (x,()) (getD x.1.2.2.2.2.1 k (zj zq),()))):=by
  show (fk (.h5 _ _ _ _ _ _ _ _)).val=_
  unfold fk
  simp only [Tr.val,zX hk,zG hk,be,if_true]
  rfl
 by_cases h1:LE.le (α:=Int) 0 (aj db (getD x.1.2.2.2.2.1 k (zj zq)).2)
 ·have g1:=aQ.of (t:=fk) (s:=.h5 db db (db.length:Int) (i:Int) x.1.2.2.2.2.1 (x.1.2.2.2.2.1.length:Int) (k:Int) (x,())) (by rw [hv,if_neg (by rw [zW]; omega)])
  rcases Qj (db:=db) (x:=x) (f:=getD x.1.2.2.2.2.1 k (zj zq)) (i:=i) (k:=k) h1 (hc _ (bD hk)) hl with ⟨h2,h3⟩ | ⟨h2,r,h3,h4⟩
  ·have hv2:(fk (.h11 db (aj db (getD x.1.2.2.2.2.1 k (zj zq)).2) db (db.length:Int) (i:Int) x.1.2.2.2.2.1 (x.1.2.2.2.2.1.length:Int) (k:Int) x.2 (x.2.length:Int) (x.2.length:Int) (x,()) (getD x.1.2.2.2.2.1 k (zj zq),()))).val=
     some (.inl (.h5 db db (db.length:Int) (i:Int) x.1.2.2.2.2.1 (x.1.2.2.2.2.1.length:Int) ((k+1:Nat):Int) (x,()))):=by
    show (fk (.h11 _ _ _ _ _ _ _ _ _ _ _ _ _)).val=_
    unfold fk
    simp only [Tr.val,ag]
    rw [zH k (by unfold zE; omega)]
    rfl
   refine .inl ⟨⟨h1,?_⟩,((g1.trans h3).trans (aQ.of hv2)).mono (by omega)⟩
   exact (bR (Q:=fun row=>(zZ (getD x.1.2.2.2.2.1 k (zj zq)).1 row).1≠0→lP (dd db (getD x.1.2.2.2.2.1 k (zj zq)).2) (dd db (getD x.1.2.2.2.2.1 k (zj zq)).2).1.2.2.1 (zZ (getD x.1.2.2.2.2.1 k (zj zq)).1 row)=true)).1 h2
  ·refine .inr ⟨fun h=>h2 ?_,r,(g1.ends h3).mono (by omega),h4⟩
   exact (bR (Q:=fun row=>(zZ (getD x.1.2.2.2.2.1 k (zj zq)).1 row).1≠0→lP (dd db (getD x.1.2.2.2.2.1 k (zj zq)).2) (dd db (getD x.1.2.2.2.2.1 k (zj zq)).2).1.2.2.1 (zZ (getD x.1.2.2.2.2.1 k (zj zq)).1 row)=true)).2 h.2
 ·exact .inr ⟨fun h=>h1 h.1,_,(bS.of (by rw [hv,if_pos (by rw [zW]; omega)])).mono (by omega),rfl⟩

theorem lY {db:List (Sem zh)} (hc:∀ x∈db,∀ f∈x.1.2.2.2.2.1,∀ row∈x.2,zF f.1 (length row)=true) (hs:∀ x∈db,c8 x) (hl:db.length≤13):∃ b,pk db=some (b,())∧(b=true↔tU db):=by
 have h2:=KZ (t:=fk) (Φ:=Y6) 1010000 (fun i=>.h2 db db (db.length:Int) (i:Int)) (fun i=>∀ f∈(getD db i (zj zh)).1.2.2.2.2.1,LE.le (α:=Int) 0 (aj db f.2)∧∀ row∈(getD db i (zj zh)).2,(zZ f.1 row).1≠0→lP (dd db f.2) (dd db f.2).1.2.2.1 (zZ f.1 row)=true) db.length (by
  intro i hi _
  have hm:=bD (d:=zj zh) hi
  have hS:=hs _ hm
  have s1:=hS.rf
  have s2:=hS.rw
  have hv:(fk (.h2 db db (db.length:Int) (i:Int))).val=some (.inl (.h5 db db (db.length:Int) (i:Int) (getD db i (zj zh)).1.2.2.2.2.1 ((getD db i (zj zh)).1.2.2.2.2.1.length:Int) ((0:Nat):Int) (getD db i (zj zh),()))):=by
   show (fk (.h2 _ _ _ _)).val=_
   unfold fk
   simp only [Tr.val,zX hi,zG hi,be,if_true]
   rfl
  have g1:=aQ.of hv
  rcases WJ (db:=db) (x:=getD db i (zj zh)) (i:=i) (hc _ hm) s2 s1 with ⟨h2,h3⟩ | ⟨h2,r,h3,h4⟩
  ·have hv2:(fk (.h5 db db (db.length:Int) (i:Int) (getD db i (zj zh)).1.2.2.2.2.1 ((getD db i (zj zh)).1.2.2.2.2.1.length:Int) ((getD db i (zj zh)).1.2.2.2.2.1.length:Int) (getD db i (zj zh),()))).val=some (.inl (.h2 db db (db.length:Int) ((i+1:Nat):Int))):=by
    show (fk (.h5 _ _ _ _ _ _ _ _)).val=_
    unfold fk
    simp only [Tr.val,ag]
    rw [zH i (by unfold zE; omega)]
    rfl
   refine .inl ⟨?_,((g1.trans h3).trans (aQ.of hv2)).mono (by omega)⟩
   exact (bR (Q:=fun f:Sem zq=>LE.le (α:=Int) 0 (aj db f.2)∧∀ row∈(getD db i (zj zh)).2,(zZ f.1 row).1≠0→lP (dd db f.2) (dd db f.2).1.2.2.1 (zZ f.1 row)=true)).1 h2
  ·refine .inr ⟨fun h=>h2 ?_,r,(g1.ends h3).mono (by omega),h4⟩
   exact (bR (Q:=fun f:Sem zq=>LE.le (α:=Int) 0 (aj db f.2)∧∀ row∈(getD db i (zj zh)).2,(zZ f.1 row).1≠0→lP (dd db f.2) (dd db f.2).1.2.2.1 (zZ f.1 row)=true)).2 h)
 have hb:(∀ i,i < db.length→∀ f∈(getD db i (zj zh)).1.2.2.2.2.1,LE.le (α:=Int) 0 (aj db f.2)∧∀ row∈(getD db i (zj zh)).2,(zZ f.1 row).1≠0→lP (dd db f.2) (dd db f.2).1.2.2.1 (zZ f.1 row)=true)↔tU db:=
  bR (Q:=fun x:Sem zh=>∀ f∈x.1.2.2.2.2.1,LE.le (α:=Int) 0 (aj db f.2)∧∀ row∈x.2,(zZ f.1 row).1≠0→lP (dd db f.2) (dd db f.2).1.2.2.1 (zZ f.1 row)=true)
 have hi:(zdW db).val=some (.inl (.h2 db db (db.length:Int) ((0:Nat):Int))):=rfl
 rcases h2 with ⟨h2,h3⟩ | ⟨h2,r,h3,h4⟩
 ·refine ⟨true,bN hi (h3.ends (bS.of (r:=(.kb true,[])) ?_)) (by omega) rfl,fun _=>hb.1 h2,fun _=>rfl⟩
  show (fk (.h2 _ _ _ _)).val=_
  unfold fk
  simp only [Tr.val,ag]
  rfl
 ·unfold Y6 at h4
  subst h4
  exact ⟨false,bN hi h3 (by omega) rfl,fun h=>(by cases h),fun h=>absurd (hb.2 h) h2⟩

structure cC (db:List (Sem zh)):Prop where
 few:db.length≤12
 names:∀ i,i < db.length - 1→Op.bytesLess (getD db i (zj zh)).1.1 (getD db (i+1) (zj zh)).1.1=true
 rels:∀ x∈db,cd x
 bound:tU db

theorem cd.cols {x:Sem zh} (h:cd x):∀ f∈x.1.2.2.2.2.1,∀ row∈x.2,zF f.1 (length row)=true:=by
 intro f hf row hr
 obtain ⟨_,h1,_,_,_⟩:=gA h.may
 rw [mh (by simpa using h.fits row hr)]
 exact BY (h1 f hf)

theorem r7 {db:List (Sem zh)} (hs:∀ x∈db,c8 x):∃ e:Int,pl db=some (e,())∧(e=0↔cC db):=by
 by_cases hw:db.length≤12
 case neg=>
  refine ⟨13,?_,fun h=>(by cases h),fun h=>absurd h.few hw⟩
  unfold pl zT bW
  simp only [QT,Tr.val]
  rw [if_pos (by simp; omega)]
  rfl
 have hi:(QT db).val=some (.inl (.h4 db ((0+1:Nat):Int))):=by
  simp only [QT,Tr.val]
  rw [if_neg (by simp; omega)]
  rfl
 have h4:=KZ (t:=lh) (Φ:=Zc) 1 (fun i=>.h4 db ((i+1:Nat):Int)) (fun i=>Op.bytesLess (getD db i (zj zh)).1.1 (getD db (i+1) (zj zh)).1.1=true) (db.length - 1) (by
  intro i hi _
  have h1:i < db.length:=by omega
  have h2:i+1 < db.length:=by omega
  have hv:(lh (.h4 db ((i+1:Nat):Int))).val=if (!Op.bytesLess (getD db i (zj zh)).1.1 (getD db (i+1) (zj zh)).1.1)=true then some (.inr (.int .i64 15,[])) else some (.inl (.h4 db ((i+1+1:Nat):Int))):=by
   show (lh (.h4 _ _)).val=_
   unfold lh
   simp only [qE i (by unfold zE; omega)]
   simp only [Tr.val,zX h2,zG h2,zG h1,be,if_true]
   rw [zH (i+1) (by unfold zE; omega)]
  by_cases h:Op.bytesLess (getD db i (zj zh)).1.1 (getD db (i+1) (zj zh)).1.1=true
  ·exact .inl ⟨h,aQ.of (by rw [hv,if_neg (by rw [h]; simp)])⟩
  ·exact .inr ⟨h,_,bS.of (by rw [hv,if_pos (by simpa using h)]),15,rfl,by decide⟩)
 rcases h4 with ⟨hn,h4⟩ | ⟨hn,r,h4,e,he,hne⟩
 case inr=>
  subst he
  exact ⟨e,bN hi h4 (by omega) rfl,fun h=>absurd h hne,fun h=>absurd h.names hn⟩
 have hv4:(lh (.h4 db ((db.length - 1+1:Nat):Int))).val=some (.inl (.h9 db db (db.length:Int) ((0:Nat):Int))):=by
  show (lh (.h4 _ _)).val=_
  unfold lh
  simp only [Tr.val]
  rw [if_neg (by simp; omega)]
  rfl
 have g9:=h4.trans (aQ.of hv4)
 have h9:=KZ (t:=lh) (Φ:=Zc) 1 (fun i=>.h9 db db (db.length:Int) (i:Int)) (fun i=>cd (getD db i (zj zh))) db.length (by
  intro i hi _
  obtain ⟨e,he,heq⟩:=sC (hs _ (bD (d:=zj zh) hi))
  have hc:np (getD db i (zj zh))=true:=by unfold np; rw [he]; rfl
  have hv0:rF (getD db i (zj zh))=e:=by unfold rF; rw [he]; rfl
  have hv:(lh (.h9 db db (db.length:Int) (i:Int))).val=if (e != 0)=true then some (.inr (.int .i64 e,[])) else some (.inl (.h9 db db (db.length:Int) ((i+1:Nat):Int))):=by
   show (lh (.h9 _ _ _ _)).val=_
   unfold lh
   simp only [zn,Tr.val,zX hi,zG hi,be,if_true,Prod.eta,hc,hv0]
   rw [zH i (by unfold zE; omega)]
  by_cases h:e=0
  ·exact .inl ⟨heq.1 h,aQ.of (by rw [hv,if_neg (by rw [h]; simp)])⟩
  ·exact .inr ⟨fun hr=>h (heq.2 hr),_,bS.of (by rw [hv,if_pos (by simpa using h)]),e,rfl,h⟩)
 rcases h9 with ⟨hr,h9⟩ | ⟨hr,r,h9,e,he,hne⟩
 case inr=>
  subst he
  exact ⟨e,bN hi (g9.ends h9) (by omega) rfl,fun h=>absurd h hne,fun h=>absurd ((bR (Q:=cd)).2 h.rels) hr⟩
 have hrels:=(bR (Q:=cd)).1 hr
 obtain ⟨b,hb,hbb⟩:=lY (db:=db) (fun x hx=>(hrels x hx).cols) hs (by omega)
 have hc:mT db=true:=by unfold mT; rw [hb]; rfl
 have hv0:qJ db=b:=by unfold qJ; rw [hb]; rfl
 have hv9:(lh (.h9 db db (db.length:Int) (db.length:Int))).val=if (!b)=true then some (.inr (.int .i64 10,[])) else some (.inr (.int .i64 0,[])):=by
  show (lh (.h9 _ _ _ _)).val=_
  unfold lh
  simp only [Tr.val,ag,hc,hv0,if_true]
  rfl
 by_cases h:b=true
 ·exact ⟨0,bN hi (g9.ends (h9.ends (bS.of (by rw [hv9,if_neg (by rw [h]; simp)])))) (by omega) rfl,fun _=>⟨hw,hn,hrels,hbb.1 h⟩,fun _=>rfl⟩
 ·exact ⟨10,bN hi (g9.ends (h9.ends (bS.of (by rw [hv9,if_pos (by simpa using h)])))) (by omega) rfl,fun h=>(by cases h),fun hB=>absurd (hbb.2 hB.bound) h⟩
theorem ir {db:List (Sem zh)} (hs:∀ x∈db,c8 x):td db=true:=by
 obtain ⟨e,h,_⟩:=r7 hs
 unfold td; rw [h]; rfl
theorem mU {db:List (Sem zh)} (hs:∀ x∈db,c8 x):lZ db=(0:Int)↔cC db:=by
 obtain ⟨e,h,h2⟩:=r7 hs
 unfold lZ; rw [h]; exact h2
set_option maxHeartbeats 1000000

theorem eH:∀ s:zl,Op.bytesLess s s=false
 | []=>rfl
 | a::r=>by simp [Op.bytesLess,eH r]
theorem gQ {α:Type} (l:List α) (d:α) {i:Nat} (h:i < l.length):l.getD ((i:Int).toNat) d=l[i]:=by
 rw [be,aD,zI h,bz]
theorem D8 {α:Type} (l:List α) (d:α) {i:Nat} (h:i < l.length):l.getD i d∈l:=by
 rw [aD,zI h,bz]
 exact ce h
theorem vZ {α β:Type} (f:α→β) (p:β→Bool):∀ (l:List α) (i:Nat),zR p (l.map f) i=zR (fun x=>p (f x)) l i
 | [],_=>rfl
 | x::r,i=>by simp only [lX,zR,vZ f p r]
theorem pG {db:List (Sem zh)} {s:zl} (h:(0:Int)≤aj db s):db.getD (toNat (aj db s)) (zj zh)∈db:=by
 have:=jc h
 simp only [zF,aG,zW] at this
 exact D8 _ _ (by omega)

theorem hJ:∀ {a b c:zl},Op.bytesLess a b=true→Op.bytesLess b c=true→Op.bytesLess a c=true
 | _,[],_,h,_=>by cases ‹zl› <;> simp [Op.bytesLess] at h
 | _,_::_,[],_,h=>by simp [Op.bytesLess] at h
 | [],_::_,_::_,_,_=>rfl
 | a::x,b::y,c::z,h,g=>by
  simp only [Op.bytesLess,un,zW,aG,ej] at h g ⊢
  rcases h with h | ⟨rfl,h⟩
  ·rcases g with g | ⟨rfl,g⟩
   ·exact .inl (UInt8.lt_trans h g)
   ·exact .inl h
  ·rcases g with g | ⟨rfl,g⟩
   ·exact .inl g
   ·exact .inr ⟨rfl,hJ h g⟩

def Lx (p q:Int×Int×zl):Prop:=p.1 < q.1∨(p.1=q.1∧(p.2.1 < q.2.1∨(p.2.1=q.2.1∧Op.bytesLess p.2.2 q.2.2=true)))
theorem Lx.trans {p q r:Int×Int×zl} (h:Lx p q) (g:Lx q r):Lx p r:=by
 unfold Lx at *
 rcases h with h | ⟨h1,h | ⟨h2,h⟩⟩ <;> rcases g with g | ⟨g1,g | ⟨g2,g⟩⟩
 ·exact .inl (by omega)
 ·exact .inl (by omega)
 ·exact .inl (by omega)
 ·exact .inl (by omega)
 ·exact .inr ⟨by omega,.inl (by omega)⟩
 ·exact .inr ⟨by omega,.inl (by omega)⟩
 ·exact .inl (by omega)
 ·exact .inr ⟨by omega,.inl (by omega)⟩
 ·exact .inr ⟨by omega,.inr ⟨by omega,hJ h g⟩⟩
theorem Lx.irrefl {p:Int×Int×zl}:¬ Lx p p:=by
 unfold Lx
 rw [eH]
 rintro (h | ⟨_,h | ⟨_,h⟩⟩)
 ·omega
 ·omega
 ·cases h
theorem HA (a b:Int):Jv a b=if a < b then -1 else if b < a then 1 else 0:=by
 show (if (a != a)=true then _ else if (b != b)=true then (1:Int) else if decide (a < b)=true then -1 else if decide (a > b)=true then 1 else 0)=_
 simp
theorem Lb (a b:Int):yI a b=if a < b then -1 else if b < a then 1 else 0:=HA a b
theorem Qu (a b:zl):(Bo a b=-1∧Op.bytesLess a b=true)∨(Bo a b=0∧a=b)∨(Bo a b=1∧Op.bytesLess a b=false):=by
 have:Bo a b=if Op.bytesLess a b=true then -1 else if (!(Op.bytesLess a b||a==b))=true then 1 else 0:=by
  show (if (!a==a)=true then _ else if (!b==b)=true then (1:Int) else if Op.bytesLess a b=true then -1 else if (!(Op.bytesLess a b||a==b))=true then 1 else 0)=_
  simp
 rw [this]
 cases h:Op.bytesLess a b with
 | true=>exact .inl ⟨rfl,rfl⟩
 | false=>
  by_cases e:a=b
  ·exact .inr (.inl ⟨by simp [e],e⟩)
  ·exact .inr (.inr ⟨by simp [e],rfl⟩)
theorem YI (k n k' n':Int) (s s':zl):(Uo [Jv k k',yI n n',Bo s s'] < 0)↔Lx (k,n,s) (k',n',s'):=by
 show _↔(k < k'∨(k=k'∧(n < n'∨(n=n'∧Op.bytesLess s s'=true))))
 rw [HA,Lb]
 simp only [Uo]
 have irr:=eH s'
 rcases Int.lt_trichotomy k k' with h | h | h
 ·simp [h]
 ·subst h
  rcases Int.lt_trichotomy n n' with g | g | g
  ·simp [g]
  ·subst g
   rcases Qu s s' with ⟨e,f⟩ | ⟨e,f⟩ | ⟨e,f⟩
   ·simp [e,f]
   ·subst f; simp [e,irr]
   ·simp [e,f]
  ·have:¬ n < n':=by omega
   have:n≠n':=by omega
   simp [*]
 ·have:¬ k < k':=by omega
  have:k≠k':=by omega
  simp [*]
theorem tT {a b:Sem zf}:KI a b↔Lx (bn a) (bn b):=YI (bn a).1 (bn a).2.1 (bn b).1 (bn b).2.1 (bn a).2.2 (bn b).2.2
theorem nF {a b c:Sem zf} (h:KI a b) (g:KI b c):KI a c:=tT.2 ((tT.1 h).trans (tT.1 g))
theorem o6 {a:Sem zf}:¬ KI a a:=fun h=>Lx.irrefl (tT.1 h)

theorem tH {α:Type} {R:α→α→Prop} (ht:∀ {a b c},R a b→R b c→R a c) {d:α}:∀ {l:List α},(∀ i,i < l.length - 1→R (l.getD i d) (l.getD (i+1) d))↔l.Pairwise R
 | []=>by simp
 | [a]=>by simp
 | a::b::r=>by
  have IH:=tH (R:=R) ht (d:=d) (l:=b::r)
  constructor
  ·intro h
   have h0:=h 0 (by simp)
   have h1:(b::r).Pairwise R:=IH.1 fun i hi=>h (i+1) (by simp only [lu] at hi ⊢; omega)
   refine List.pairwise_cons.2 ⟨fun x hx=>?_,h1⟩
   rcases dT.1 hx with rfl | hx
   ·exact h0
   ·exact ht h0 ((List.pairwise_cons.1 h1).1 x hx)
  ·intro h i hi
   obtain ⟨h0,h1⟩:=List.pairwise_cons.1 h
   cases i with
   | zero=>exact h0 b (by simp)
   | succ i=>exact IH.2 h1 i (by simp only [lu] at hi ⊢; omega)

def KF (k:Int) (a b:List (Sem zf)):Prop:=KI (zZ k a) (zZ k b)
theorem cd.pw {x:Sem zh} (h:cd x):x.2.Pairwise (KF x.1.2.2.1):=(tH (R:=KF x.1.2.2.1) nF).1 h.rise

theorem cd.sub {t:Sem zw} {l l':List (List (Sem zf))} (h:cd (t,l)) (hs:List.Sublist l' l):cd (t,l') where
 may:=h.may
 few:=cM hs.length_le h.few
 fits:=fun r hr=>h.fits r (hs.subset hr)
 key:=List.Pairwise.sublist hs h.key
 uniq:=fun u hu=>List.Pairwise.sublist hs (h.uniq u hu)
 rise:=(tH (R:=KF t.2.2.1) nF).2 (List.Pairwise.sublist hs h.pw)

theorem Az (db:List (Sem zh)) (i:Nat):(db.getD i (zj zh)).1=(db.map (·.1)).getD i (zj zh).1:=by
 rw [aD,aD,di]
 cases db[i]? <;> rfl
theorem uB (db:List (Sem zh)) (s:zl):aj db s=zR (fun t:Sem zw=>t.1==s) (db.map (·.1)) 0:=(vZ (fun x:Sem zh=>x.1) (fun t:Sem zw=>t.1==s) db 0).symm
theorem Ej {db:List (Sem zh)} {i:Nat} {x:Sem zh} (h:(db.getD i (zj zh)).1=x.1):(db.set i x).map (·.1)=db.map (·.1):=by
 rw [List.map_set]
 refine yC fun j=>?_
 rw [jq]
 by_cases e:i=j
 ·subst e
  rw [if_pos rfl]
  by_cases hi:i < (db.map (·.1)).length
  ·rw [if_pos hi,zI hi,← h]
   congr 1
   have hi':i < db.length:=by simpa using hi
   rw [aD,zI hi',List.getElem_map]
   rfl
  ·rw [if_neg hi,dh (by omega)]
 ·rw [if_neg e]

theorem cC.put {db:List (Sem zh)} {i:Nat} {x:Sem zh} (h:cC db) (ht:(db.getD i (zj zh)).1=x.1) (hx:cd x) (hb:tU (db.set i x)):cC (db.set i x) where
 few:=by rw [j4]; exact h.few
 names:=fun j hj=>by
  rw [j4] at hj
  have:=h.names j hj
  rw [Az,Az] at this ⊢
  rwa [Ej ht]
 rels:=fun y hy=>by
  rcases pc hy with hy | rfl
  ·exact h.rels y hy
  ·exact hx
 bound:=hb
theorem yH {db:List (Sem zh)} {i:Nat} {x:Sem zh} (ht:(db.getD i (zj zh)).1=x.1) (s:zl):aj (db.set i x) s=aj db s:=by
 rw [uB,uB,Ej ht]

def mn (es:List (V×Int)) (ks:List V):List (V×Int):=ks.foldl (fun es k=>ib es k 0) es
theorem Fi {k:V} {n:Int}:∀ {es:List (V×Int)},(∀ p∈es,p.1≠k)→ib es k n=es++[(k,n)]
 | [],_=>rfl
 | p::r,h=>by
  have h1:(k==p.1)=false:=by simpa using fun e=>h p (by simp) e.symm
  show (bif k==p.1 then _ else _)=_
  rw [h1]
  show p::ib r k n=_
  rw [Fi fun q hq=>h q (by simp [hq])]
  rfl
theorem Eb:∀ (ks:List V) (es:List (V×Int)),ks.Pairwise (· ≠ ·)→(∀ p∈es,∀ k∈ks,p.1≠k)→mn es ks=es++ks.map fun k=>(k,0)
 | [],es,_,_=>by simp [mn]
 | k::r,es,hp,h=>by
  obtain ⟨h0,h1⟩:=List.pairwise_cons.1 hp
  show mn (ib es k 0) r=_
  rw [Fi fun p hp=>h p hp k (by simp),Eb r _ h1 ?_]
  ·simp
  ·intro p hp q hq
   rcases aZ.1 hp with hp | hp
   ·exact h p hp q (by simp [hq])
   ·simp only [bd] at hp
    subst hp
    exact h0 q hq
theorem B3 {c:Int} {l:List (List (Sem zf))} (h:l.Pairwise (KF c)):(l.map (zZ c)).Pairwise (· ≠ ·):=by
 rw [List.pairwise_map]
 exact h.imp fun {a b} hab (e:zZ c a=zZ c b)=>o6 (a:=zZ c b) (by have:=hab; unfold KF at this; rwa [e] at this)
theorem MI {c:Int} {l:List (List (Sem zf))} (h:l.Pairwise (KF c)):(mn [] (l.map (zZ c))).length=l.length:=by
 rw [Eb _ _ (B3 h) (by simp)]
 simp

def dv (x:Sem zh) (p:List (Sem zf)→Bool):Sem zh:=(x.1,x.2.filter fun r => !fm (mn [] ((x.2.filter p).map (zZ x.1.2.2.1))) (zZ x.1.2.2.1 r))
theorem NV {α:Type} {R:α→α→Prop} (ht:∀ {a b c},R a b→R b c→R a c) (hi:∀ {a},¬ R a a):∀ {l l':List α},l.Pairwise R→l'.Pairwise R→l.Perm l'→l=l'
 | [],l',_,_,hp=>hp.symm.eq_nil.symm
 | a::r,[],_,_,hp=>absurd hp.eq_nil (by simp)
 | a::r,b::r',h,h',hp=>by
  obtain ⟨h0,h1⟩:=List.pairwise_cons.1 h
  obtain ⟨h0',h1'⟩:=List.pairwise_cons.1 h'
  have e:a=b:=by
   rcases dT.1 (hp.subset (yB (a:=a) (l:=r))) with e | m
   ·exact e
   ·rcases dT.1 (hp.symm.subset (yB (a:=b) (l:=r'))) with e' | m'
    ·exact e'.symm
    ·exact absurd (ht (h0 b m') (h0' a m)) hi
  subst e
  rw [NV (R:=R) ht hi h1 h1' (List.Perm.cons_inv hp)]
theorem Aw {k:Int} {a b c:List (Sem zf)} (h:KF k a b) (g:KF k b c):KF k a c:=nF h g
theorem v6 {k:Int} {a:List (Sem zf)}:¬ KF k a a:=o6
theorem cd.eq_of_perm {t:Sem zw} {l l':List (List (Sem zf))} (h:cd (t,l)) (h':cd (t,l')) (hp:l.Perm l'):l=l':=NV (R:=KF t.2.2.1) Aw v6 h.pw h'.pw hp

theorem NT {t:Sem zw} {l s:List (List (Sem zf))} {r:List (Sem zf)} (h:cd (t,l)) (hs:cd (t,s)) (hp:s.Perm (l++[r])):s.filter (fun x => !(zZ t.2.2.1 x==zZ t.2.2.1 r))=l:=by
 have hnd:∀ x∈l,zZ t.2.2.1 x≠zZ t.2.2.1 r:=by
  intro x hx e
  have h1:(s.map (zZ t.2.2.1)).Pairwise (· ≠ ·):=B3 hs.pw
  have h2:((l++[r]).map (zZ t.2.2.1)).Pairwise (· ≠ ·):=(List.Perm.pairwise_iff (fun {a b} hab=>Ne.symm hab) (hp.map _)).1 h1
  rw [uo,List.pairwise_append] at h2
  exact h2.2.2 _ (ff.2 ⟨x,hx,rfl⟩) _ (by simp) e
 refine NV (R:=KF t.2.2.1) Aw v6 (List.Pairwise.sublist List.filter_sublist hs.pw) h.pw ?_
 refine (hp.filter _).trans ?_
 rw [List.filter_append]
 have e1:l.filter (fun x => !(zZ t.2.2.1 x==zZ t.2.2.1 r))=l:=List.filter_eq_self.2 fun x hx=>by
  rw [nO.2 (hnd x hx)]; rfl
 have e2:[r].filter (fun x => !(zZ t.2.2.1 x==zZ t.2.2.1 r))=[]:=by
  rw [List.filter_eq_nil_iff]
  intro x hx
  rw [bd] at hx
  subst hx
  rw [beq_self_eq_true]
  simp
 rw [e1,e2,lW]
set_option maxHeartbeats 2000000

noncomputable def cy (e:ze) (cols:List (Sem zi)):Int:=if e.op=[] then 0 else if (bj e cols).2=(0:Int)∧(bj e cols).1≠(3:Int)∧(bj e cols).1≠(0:Int) then 5 else (bj e cols).2
noncomputable def jt (e:ze) (cols:List (Sem zi)) (r:List (Sem zf)):Bool:=bif e.op==[] then true else (gM e cols r).1==3&&((gM e cols r).2.1==1&&((gM e cols r).2.2==[]&&true))
noncomputable def ia (x:Sem zh) (e:ze):List (List (Sem zf)):=x.2.filter (jt e x.1.2.1)

theorem RR (x:Sem zh) (e:ze) (hl:x.2.length≤1000000) (hr:∀ r∈x.2,length r≤1000000):∀ (m i n:Nat) (acc:List (List (Sem zf))),x.2.length - i=m→i≤x.2.length→acc.length≤i→m < n→
  bJ CS n (.h9b x.2 (x.2.length:Int) (i:Int) (x,()) (e,()) acc)=some (.tup [.vec 0,.int .i64 0],[.vec zf.sl (acc++(x.2.drop i).filter (jt e x.1.2.1))]):=by
 intro m
 induction m with
 | zero=>
  intro i n acc hm hi ha hn
  obtain rfl:i=x.2.length:=by omega
  obtain ⟨n,rfl⟩:∃ k,n=k+1:=⟨n - 1,by omega⟩
  rw [bJ]
  simp only [CS,Tr.val,ag,dj,List.filter_nil,lW]
  rfl
 | succ m IH=>
  intro i n acc hm hi ha hn
  have hlt:i < x.2.length:=by omega
  obtain ⟨n,rfl⟩:∃ k,n=k+1:=⟨n - 1,by omega⟩
  have h3:decide (length x.2[i]≤1073741824)=true:=by
   have:=hr _ (ce hlt)
   simp only [zW]; omega
  have h4:decide (acc.length+[x.2[i]].length≤1073741824)=true:=by simp only [zW,List.length_singleton]; omega
  rw [bJ,dB hlt]
  simp only [CS,Tr.val,zn,zX hlt,zG hlt,ac x.2 _ hlt,h3,h4,zH i (by unfold zE; omega),if_true]
  by_cases h:jt e x.1.2.1 x.2[i]=true
  ·rw [List.filter_cons_of_pos h]
   have h':=h
   unfold jt at h'
   rw [if_pos h']
   have:=IH (i+1) n (acc++[x.2[i]]) (by omega) (by omega) (by simp; omega) (by omega)
   rw [List.append_assoc] at this
   exact this
  ·rw [List.filter_cons_of_neg h]
   have h':=h
   unfold jt at h'
   rw [if_neg h']
   exact IH (i+1) n acc (by omega) (by omega) (by omega) (by omega)

theorem RQ (x:Sem zh) (e:ze) (hl:x.2.length≤1000000) (hr:∀ r∈x.2,length r≤1000000):∀ (m i n:Nat),x.2.length - i=m→i≤x.2.length→m < n→
  ∃ r,bJ CS n (.h9 x.2 (x.2.length:Int) (i:Int) (x,()) (e,()))=some r∧ae r.2 [zf.sl.sl,zg] r.1=some ((x.2.drop i).filter (jt e x.1.2.1),0,()):=by
 intro m
 induction m with
 | zero=>
  intro i n hm hi hn
  obtain rfl:i=x.2.length:=by omega
  obtain ⟨n,rfl⟩:∃ k,n=k+1:=⟨n - 1,by omega⟩
  rw [bJ]
  simp only [CS,Tr.val,ag,dj,List.filter_nil]
  exact ⟨_,rfl,rfl⟩
 | succ m IH=>
  intro i n hm hi hn
  have hlt:i < x.2.length:=by omega
  obtain ⟨n,rfl⟩:∃ k,n=k+1:=⟨n - 1,by omega⟩
  have h3:decide (length x.2[i]≤1073741824)=true:=by
   have:=hr _ (ce hlt)
   simp only [zW]; omega
  have h4:decide ([x.2[i]].length≤1073741824)=true:=by simp
  rw [bJ,dB hlt]
  simp only [CS,Tr.val,zn,zX hlt,zG hlt,ac x.2 _ hlt,h3,h4,zH i (by unfold zE; omega),if_true]
  by_cases h:jt e x.1.2.1 x.2[i]=true
  ·rw [List.filter_cons_of_pos h]
   have h':=h
   unfold jt at h'
   rw [if_pos h']
   exact ⟨_,RR x e hl hr m (i+1) n [x.2[i]] (by omega) (by omega) (by simp) (by omega),rfl⟩
  ·rw [List.filter_cons_of_neg h]
   have h':=h
   unfold jt at h'
   rw [if_neg h']
   exact IH (i+1) n (by omega) (by omega) (by omega)

theorem AL (x:Sem zh) (e:ze) (hl:x.2.length≤1000000) (hr:∀ r∈x.2,length r≤1000000):qc x e=some (if cy e x.1.2.1=0 then ia x e else [],cy e x.1.2.1,()):=by
 obtain ⟨r,h1,h2⟩:=RQ x e hl hr x.2.length 0 100000000 rfl (aE _) (by omega)
 rw [List.drop_zero] at h2
 unfold qc zT bW
 simp only [zdS,Tr.val,zn]
 unfold cy
 by_cases h0:e.op=[]
 ·have c0:(!e.op==[])=false:=by rw [h0]; rfl
  rw [c0,if_pos h0]
  simp only [zN,if_false,if_true]
  show (bJ CS 100000000 (.h9 x.2 (x.2.length:Int) ((0:Nat):Int) (x,()) (e,()))).bind _=_
  rw [h1]
  exact h2
 ·have c0:(!e.op==[])=true:=by simpa using h0
  rw [c0,if_neg h0]
  simp only [if_true]
  by_cases h3:(bj e x.1.2.1).2=(0:Int)
  ·by_cases h4:(bj e x.1.2.1).1≠(3:Int)∧(bj e x.1.2.1).1≠(0:Int)
   ·rw [if_pos (show (bj e x.1.2.1).2=(0:Int)∧(bj e x.1.2.1).1≠(3:Int)∧(bj e x.1.2.1).1≠(0:Int) from ⟨h3,h4⟩)]
    have c1:(bif (bj e x.1.2.1).2==0 then bif (bj e x.1.2.1).1 != 3 then (bj e x.1.2.1).1 != 0 else false else false)=true:=by simp [h3,h4.1,h4.2]
    rw [c1]
    rfl
   ·rw [if_neg (show ¬ ((bj e x.1.2.1).2=(0:Int)∧(bj e x.1.2.1).1≠(3:Int)∧(bj e x.1.2.1).1≠(0:Int)) from fun h=>h4 h.2)]
    have c1:(bif (bj e x.1.2.1).2==0 then bif (bj e x.1.2.1).1 != 3 then (bj e x.1.2.1).1 != 0 else false else false)=false:=by
     rw [h3]
     cases c:((bj e x.1.2.1).1 != 3) with
     | false=>rfl
     | true=>
      simp only [bne_iff_ne,ne_eq] at c
      simp only [beq_self_eq_true,bA,bne_eq_false_iff_eq]
      exact Classical.not_not.1 fun h5=>h4 ⟨c,h5⟩
    have c2:((0:Int) != 0)=false:=rfl
    rw [c1]
    simp only [zN,if_false,h3,c2,if_true]
    show (bJ CS 100000000 (.h9 x.2 (x.2.length:Int) ((0:Nat):Int) (x,()) (e,()))).bind _=_
    rw [h1]
    exact h2
  ·rw [if_neg (show ¬ ((bj e x.1.2.1).2=(0:Int)∧(bj e x.1.2.1).1≠(3:Int)∧(bj e x.1.2.1).1≠(0:Int)) from fun h=>h3 h.1)]
   have c1:(bif (bj e x.1.2.1).2==0 then bif (bj e x.1.2.1).1 != 3 then (bj e x.1.2.1).1 != 0 else false else false)=false:=by
    have:((bj e x.1.2.1).2==0)=false:=by simpa using h3
    rw [this]; rfl
   have c2:((bj e x.1.2.1).2 != 0)=true:=by simpa using h3
   rw [c1,c2,if_neg h3]
   rfl

theorem Ru {t:Sem zw} {r:List (Sem zf)} (hm:iK t=true) (hk:zF t.2.2.1 (length r)=true):Oz t r=true∧YS t r=zZ t.2.2.1 r:=by
 have h1:decide (t.2.2.1 ≥ (↑(length r):Int))=false:=by
  simp only [zF,aG,zW] at hk
  simp only [decide_eq_false_iff_not]
  exact fun h=>absurd hk.2 (Int.not_lt.2 h)
 have:E3 t r=some (zZ t.2.2.1 r,()):=by
  unfold E3 zT bW
  simp only [zdY,Tr.val,zn,Prod.eta,hm,h1,hk,iW,bQ,zN,if_false,if_true]
  rfl
 unfold Oz YS
 rw [this]
 exact ⟨rfl,rfl⟩

theorem XW (x:Sem zh) (e:Int) (rows:List (List (Sem zf))) (hl:rows.length≤1000000) (hm:iK x.1=true) (hk:∀ r∈rows,zF x.1.2.2.1 (length r)=true):∀ (m i n:Nat) (es:List (V×Int)),rows.length - i=m→i≤rows.length→m < n→
  bJ Kv n (.h4 e rows (rows.length:Int) (i:Int) (x,()) es)=some (.tup [.mp 0,.int .i64 e],[.vmap true (mn es ((rows.drop i).map (zZ x.1.2.2.1)))]):=by
 intro m
 induction m with
 | zero=>
  intro i n es hm' hi hn
  obtain rfl:i=rows.length:=by omega
  obtain ⟨n,rfl⟩:∃ k,n=k+1:=⟨n - 1,by omega⟩
  rw [bJ]
  simp only [Kv,Tr.val,ag,dj]
  rfl
 | succ m IH=>
  intro i n es hm' hi hn
  have hlt:i < rows.length:=by omega
  obtain ⟨n,rfl⟩:∃ k,n=k+1:=⟨n - 1,by omega⟩
  obtain ⟨h1,h2⟩:=Ru hm (hk _ (ce hlt))
  rw [bJ,dB hlt]
  simp only [Kv,Tr.val,zn,Prod.eta,zX hlt,zG hlt,ac rows _ hlt,h1,h2,zH i (by unfold zE; omega),if_true]
  exact IH (i+1) n _ (by omega) (by omega) (by omega)

theorem Ng {x:Sem zh} {e:ze} {r:List (Sem zf)} (h:r∈(if cy e x.1.2.1=0 then ia x e else [])):r∈x.2:=by
 split at h
 ·exact (List.mem_filter.1 h).1
 ·simp at h

theorem zeC (d:Sem aX) (x:Sem zh) (hm:iK x.1=true) (hl:x.2.length≤1000000) (hr:∀ r∈x.2,length r≤1000000) (hk:∀ r∈x.2,zF x.1.2.2.1 (length r)=true):
  mO d x=some (mn [] ((if cy d.2.2.2.2.2.2.2.2.2.2.2.2.1 x.1.2.1=0 then ia x d.2.2.2.2.2.2.2.2.2.2.2.2.1 else []).map (zZ x.1.2.2.1)),cy d.2.2.2.2.2.2.2.2.2.2.2.2.1 x.1.2.1):=by
 have hw:=AL x d.2.2.2.2.2.2.2.2.2.2.2.2.1 hl hr
 have hc:nr x d.2.2.2.2.2.2.2.2.2.2.2.2.1=true:=by unfold nr; rw [hw]; rfl
 have hv:rH x d.2.2.2.2.2.2.2.2.2.2.2.2.1=(if cy d.2.2.2.2.2.2.2.2.2.2.2.2.1 x.1.2.1=0 then ia x d.2.2.2.2.2.2.2.2.2.2.2.2.1 else [],cy d.2.2.2.2.2.2.2.2.2.2.2.2.1 x.1.2.1):=by unfold rH; rw [hw]; rfl
 have hq:∀ r∈(if cy d.2.2.2.2.2.2.2.2.2.2.2.2.1 x.1.2.1=0 then ia x d.2.2.2.2.2.2.2.2.2.2.2.2.1 else []),r∈x.2:=fun r h=>Ng h
 have hlen:(if cy d.2.2.2.2.2.2.2.2.2.2.2.2.1 x.1.2.1=0 then ia x d.2.2.2.2.2.2.2.2.2.2.2.2.1 else []).length≤1000000:=by
  split
  ·exact cM (List.length_filter_le _ _) hl
  ·simp
 have:HB d x=some (.tup [.mp 0,.int .i64 (cy d.2.2.2.2.2.2.2.2.2.2.2.2.1 x.1.2.1)],[.vmap true (mn [] ((if cy d.2.2.2.2.2.2.2.2.2.2.2.2.1 x.1.2.1=0 then ia x d.2.2.2.2.2.2.2.2.2.2.2.2.1 else []).map (zZ x.1.2.2.1)))]):=by
  unfold HB bW
  simp only [QU,Tr.val,zn,Prod.eta,hc,hv,if_true]
  have:=XW x (cy d.2.2.2.2.2.2.2.2.2.2.2.2.1 x.1.2.1) _ hlen hm (fun r h=>hk r (hq r h)) _ 0 100000000 [] rfl (aE _) (by omega)
  rw [List.drop_zero] at this
  exact this
 unfold mO
 rw [this]
 rfl

abbrev jX (s:Sem zp):ze:=s.2.2.2.2.2.2.2.2.2.2.2.1
abbrev j7 (e:Int):Sem c5:=(e,0,[])

theorem uL (e:Int):uK e=true∧cU e=([],j7 e):=⟨rfl,rfl⟩
theorem Dv {next:List (Sem zh)} {b:Bool} (n:Int) (h:pk next=some (b,())):uN next n=some (if b=true then next else [],if b=true then (0,n,[]) else j7 10,()):=by
 have hc:mT next=true:=by unfold mT; rw [h]; rfl
 have hv:qJ next=b:=by unfold qJ; rw [h]; rfl
 unfold uN zT bW
 cases b with
 | true=>
  simp only [Xq,Tr.val,hc,hv,if_true,iW,zN,if_false]
  rfl
 | false=>
  simp only [Xq,Tr.val,hc,hv,if_true,Bool.not_false,zN,if_false]
  rfl
theorem yJ {db:List (Sem zh)} {y:Sem zh} {i:Nat} (h:aj db y.1.1=(i:Int)) (hl:db.length≤1000000):ov db y=some (db.set i y,()):=by
 have hb:zF (aj db y.1.1) (length db)=true:=jc (by rw [h]; omega)
 rw [h] at hb
 have h0:decide (length db≤1073741824)=true:=by simp only [zW]; omega
 have h1:decide ((i:Int) ≥ 0)=true:=by simp
 have h2:decide (toNat (i:Int) < length db)=true:=by
  simp only [zF,aG,zW] at hb
  simp only [zW]; omega
 unfold ov zT bW
 simp only [zdQ,Tr.val,zn,Prod.eta,h,hb,h0,h1,h2,if_true]
 rfl

theorem FD {db:List (Sem zh)} {s:Sem zp} {x:Sem zh} {i:Nat} (h:aj db s.2.1=(i:Int)) (hx:db.getD i (zj zh)=x) (hl:x.2.length≤1000000) (hr:∀ r∈x.2,length r≤1000000):
  ke (db,s)=some (if cy (jX s) x.1.2.1=0 then db else [],if cy (jX s) x.1.2.1=0 then (0,((ia x (jX s)).length:Int),ia x (jX s)) else j7 (cy (jX s) x.1.2.1),()):=by
 have hb:zF (aj db s.2.1) (length db)=true:=jc (by rw [h]; omega)
 rw [h] at hb
 have h1:decide (LT.lt (α:=Int) (i:Int) 0)=false:=by simp
 have hw:=AL x (jX s) hl hr
 have hc:nr x (jX s)=true:=by unfold nr; rw [hw]; rfl
 have hv:rH x (jX s)=(if cy (jX s) x.1.2.1=0 then ia x (jX s) else [],cy (jX s) x.1.2.1):=by unfold rH; rw [hw]; rfl
 obtain ⟨f1,f2⟩:=uL (cy (jX s) x.1.2.1)
 unfold ke zT bW
 simp only [zdJ,Tr.val,zn,Prod.eta,h,h1,hb,be,hx,hc,hv,f1,f2,zN,if_true,if_false]
 by_cases h0:cy (jX s) x.1.2.1=0
 ·simp only [h0,if_true,pe,zN,if_false]
  rfl
 ·have h0':(cy (jX s) x.1.2.1 != 0)=true:=by simpa using h0
  simp only [h0',if_true,if_neg h0]
  rfl

theorem cd.len {x:Sem zh} (h:cd x):∀ r∈x.2,length r≤8:=by
 intro r hr
 obtain ⟨_,_,_,h4,_⟩:=gA h.may
 rw [mh (by simpa using h.fits r hr)]
 exact h4
theorem cd.kin {x:Sem zh} (h:cd x):∀ r∈x.2,zF x.1.2.2.1 (length r)=true:=by
 intro r hr
 obtain ⟨h1,_⟩:=gA h.may
 rw [mh (by simpa using h.fits r hr)]
 exact BY h1
noncomputable abbrev pS (s:Sem zp) (x:Sem zh):List (Sem zf)→Bool:=jt (jX s) x.1.2.1

theorem AW {db:List (Sem zh)} {i:Nat} {y:Sem zh} (hs:∀ x∈db,c8 x) (hy:c8 y):∀ x∈db.set i y,c8 x:=fun x hx=>by
 rcases pc hx with h | rfl
 ·exact hs x h
 ·exact hy
theorem Fd {x:Sem zh} {p:List (Sem zf)→Bool} (h:c8 x):c8 (dv x p):=⟨h.uq,h.rf,cM (List.length_filter_le _ _) h.rw⟩

theorem vS {db:List (Sem zh)} {n:zl} {x:Sem zh} {i:Nat} (h:aj db n=(i:Int)) (hx:db.getD i (zj zh)=x):x.1.1=n:=by
 rcases jy (fun y:Sem zh=>y.1.1==n) db 0 with ⟨q,_⟩ | ⟨k,hk,q1,q2,_⟩
 ·exfalso
  have h':zR (fun y:Sem zh=>y.1.1==n) db 0=(i:Int):=h
  rw [q] at h'
  omega
 ·have h':zR (fun y:Sem zh=>y.1.1==n) db 0=(i:Int):=h
  rw [q1] at h'
  obtain rfl:k=i:=by omega
  rw [aD,zI hk,bz] at hx
  subst hx
  simpa using q2

theorem FG {db:List (Sem zh)} {s:Sem zp} {x:Sem zh} {i:Nat} (hB:cC db) (hs:∀ y∈db,c8 y) (h:aj db s.2.1=(i:Int)) (hx:db.getD i (zj zh)=x):
  ∃ b:Bool,(b=true↔tU (db.set i (dv x (pS s x))))∧kf (db,s)=some (if cy (jX s) x.1.2.1=0 then (if b=true then db.set i (dv x (pS s x)) else []) else [],
   if cy (jX s) x.1.2.1=0 then (if b=true then (0,((ia x (jX s)).length:Int),[]) else j7 10) else j7 (cy (jX s) x.1.2.1),()):=by
 have hf:(0:Int)≤aj db s.2.1:=by rw [h]; omega
 have hm:=pG hf
 rw [show toNat (aj db s.2.1)=i by rw [h]; rfl,hx] at hm
 have hr:=hB.rels x hm
 have hsx:=hs x hm
 have hrl:∀ r∈x.2,length r≤1000000:=fun r hr'=>cM (hr.len r hr') (by omega)
 have hl:x.2.length≤1000000:=cM hsx.rw (by omega)
 have hb:zF (aj db s.2.1) (length db)=true:=jc hf
 rw [h] at hb
 have hn:aj db x.1.1=(i:Int):=by
  rw [vS h hx,h]
 have hset:∀ y∈db.set i (dv x (pS s x)),cd y:=fun y hy=>by
  rcases pc hy with hy | rfl
  ·exact hB.rels y hy
  ·exact cd.sub (t:=x.1) (l:=x.2) hr List.filter_sublist
 have hdl:db.length≤12:=hB.few
 obtain ⟨b,b1,b2⟩:=lY (db:=db.set i (dv x (pS s x))) (fun y hy=>(hset y hy).cols) (AW hs (Fd hsx)) (by rw [j4]; omega)
 refine ⟨b,b2,?_⟩
 have hmo:=zeC (db,s) x hr.may hl hrl hr.kin
 have h1:decide (LT.lt (α:=Int) (i:Int) 0)=false:=by simp
 have h2:decide (length x.2≤1073741824)=true:=by simp only [zW]; omega
 have h3:(decide (length x.2≤1000000)&&List.all x.2 fun r=>zF x.1.2.2.1 (length r))=true:=by
  simp only [aG,zW,cL]
  exact ⟨hl,hr.kin⟩
 have hmv:mV (db,s) x=(mn [] ((if cy (jX s) x.1.2.1=0 then ia x (jX s) else []).map (zZ x.1.2.2.1)),cy (jX s) x.1.2.1):=by unfold mV; rw [hmo]; rfl
 have hms:(mO (db,s) x).isSome=true:=by rw [hmo]; rfl
 obtain ⟨f1,f2⟩:=uL (cy (jX s) x.1.2.1)
 unfold kf zT bW
 simp only [zdI,Tr.val,zn,Prod.eta,h,h1,hb,be,hx,hmv,hms,f1,f2,h2,h3,zN,if_true,if_false]
 by_cases h0:cy (jX s) x.1.2.1=0
 ·simp only [h0,if_true,pe,zN,if_false]
  have hkl:(mn [] ((ia x (jX s)).map (zZ x.1.2.2.1))).length=(ia x (jX s)).length:=MI (List.Pairwise.sublist List.filter_sublist hr.pw)
  have h4:decide ((ia x (jX s)).length≤1073741824)=true:=by
   have:=List.length_filter_le (jt (jX s) x.1.2.1) x.2
   simp only [zW]
   unfold ia
   omega
  have hk:=Dv ((ia x (jX s)).length:Int) b1
  have hkc:mb (db.set i (dv x (pS s x))) ((ia x (jX s)).length:Int)=true:=by unfold mb; rw [hk]; rfl
  have hkv:si (db.set i (dv x (pS s x))) ((ia x (jX s)).length:Int)=(if b=true then db.set i (dv x (pS s x)) else [],if b=true then (0,((ia x (jX s)).length:Int),[]) else j7 10):=by unfold si; rw [hk]; rfl
  have hw:ov db (dv x (pS s x))=some (db.set i (dv x (pS s x)),()):=yJ (y:=dv x (pS s x)) hn (by omega)
  have hwc:kP db (dv x (pS s x))=true:=by unfold kP; rw [hw]; rfl
  have hwv:ly db (dv x (pS s x))=db.set i (dv x (pS s x)):=by unfold ly; rw [hw]; rfl
  have hT:(x.1,List.filter (oZ x.1.2.2.1 (mn [] ((ia x (jX s)).map (zZ x.1.2.2.1)))) x.2)=dv x (pS s x):=rfl
  simp only [hkl,h4,hT,hwc,hwv,hkc,hkv,if_true]
  by_cases h5:(zR (je x.1.2.2.1 (mn [] ((ia x (jX s)).map (zZ x.1.2.2.1)))) x.2 0==-1)=true
  ·have hE:x=dv x (pS s x):=by
    rw [← hT]
    refine Prod.ext rfl (Eq.symm (List.filter_eq_self.2 fun r hr'=>?_))
    rcases jy (je x.1.2.2.1 (mn [] ((ia x (jX s)).map (zZ x.1.2.2.1)))) x.2 0 with ⟨_,q2⟩ | ⟨k,_,q2,_⟩
    ·simp [oZ,q2 r hr']
    ·rw [q2] at h5
     simp at h5
   rw [if_pos h5]
   have hwc2:kP db x=true:=by rw [hE]; exact hwc
   have hwv2:ly db x=db.set i (dv x (pS s x)):=by
    have:ly db x=ly db (dv x (pS s x)):=congrArg (ly db) hE
    rw [this]; exact hwv
   simp only [hwc2,hwv2,hkc,hkv,if_true]
   cases b <;> rfl
  ·rw [if_neg h5]
   cases b <;> rfl
 ·have h0':(cy (jX s) x.1.2.1 != 0)=true:=by simpa using h0
  simp only [h0',if_true,if_neg h0]
  rfl

theorem oJ (c:UInt8) (s old:zl):Lib.index (c::s) old=if old.isPrefixOf (c::s)=true then 0 else if Lib.index s old=-1 then -1 else Lib.index s old+1:=by
 rw [Lib.index]; simp only [ej]

theorem rJ {s old new:zl} (hne:(old==new)=false) (h:Lib.index s old=-1):Lib.replaceAll s old new=s:=by
 unfold Lib.replaceAll Lib.replace Lib.replaceNum
 rw [hne,if_pos (Or.inl (by decide)),Lib.count_miss h]
 rfl

theorem xh {s old new:zl} {i:Nat} (h0:old≠[]) (hne:(old==new)=false) (h:Lib.index s old=i):Lib.replaceAll s old new=s.take i++new++Lib.replaceAll (s.drop (i+old.length)) old new:=by
 unfold Lib.replaceAll Lib.replace Lib.replaceNum
 rw [hne,if_pos (Or.inl (by decide)),if_pos (Or.inl (by decide)),Lib.count_hit h0 h,pf 1]
 exact Lib.replaceK_hit old new _ s i h

theorem xi {old new:zl} (h0:old≠[]) (hne:(old==new)=false):Lib.replaceAll [] old new=[]:=by
 refine rJ hne ?_
 cases old with
 | nil=>exact absurd rfl h0
 | cons a l=>rfl

theorem ER {c:UInt8} {s old new:zl} (h0:old≠[]) (hne:(old==new)=false) (hp:old.isPrefixOf (c::s)=true):Lib.replaceAll (c::s) old new=new++Lib.replaceAll ((c::s).drop old.length) old new:=by
 have:=xh (i:=0) h0 hne (s:=c::s) (by rw [oJ,if_pos hp]; rfl)
 simpa using this

theorem AQ {c:UInt8} {s old new:zl} (h0:old≠[]) (hne:(old==new)=false) (hp:old.isPrefixOf (c::s)=false):Lib.replaceAll (c::s) old new=c::Lib.replaceAll s old new:=by
 by_cases h:Lib.index s old=-1
 ·rw [rJ hne h,rJ hne (by rw [oJ,if_neg (by simp [hp]),if_pos h])]
 ·obtain ⟨i,hi⟩:∃ i:Nat,Lib.index s old=i:=⟨(Lib.index s old).toNat,by have:=Lib.index_ge s old; omega⟩
  rw [xh h0 hne hi,xh (i:=i+1) h0 hne (by rw [oJ,if_neg (by simp [hp]),if_neg h,hi]; simp)]
  simp [Nat.add_right_comm]

theorem NP {c a:UInt8} {r l:zl} (h:c≠a):(a::l).isPrefixOf (c::r)=false:=by
 rw [List.isPrefixOf,nO.2 (Ne.symm h)]
 rfl

def pt:zl→zl
 | []=>[]
 | c::r=>if c=39 then 39::39::pt r else c::pt r

theorem xg:∀ s:zl,Lib.replaceAll s [39] [39,39]=pt s
 | []=>xi (by simp) rfl
 | c::r=>by
  rw [pt]
  split
  ·rename_i h
   subst h
   rw [ER (by simp) rfl (by simp)]
   simp [xg r]
  ·rename_i h
   rw [AQ (by simp) rfl (NP h),xg r]

def dz:zl→Option (zl×Nat)
 | []=>none
 | [c]=>if c=39 then some ([],1) else none
 | c::d::r=>if c=39 then (if d=39 then (dz r).map fun x=>(39::x.1,x.2+2) else some ([],1)) else (dz (d::r)).map fun x=>(c::x.1,x.2+1)

theorem rO:∀ (n:Nat) (s t:zl) (k:Nat),s.length≤n→dz s=some (t,k)→1≤k∧k≤s.length∧Lib.replaceAll (s.take (k - 1)) [39,39] [39]=t
 | _,[],_,_,_,h=>by simp [dz] at h
 | _,[c],t,k,_,h=>by
  rw [dz] at h
  split at h
  ·simp at h
   obtain ⟨rfl,rfl⟩:=h
   exact ⟨by simp,by simp,by simpa using xi (by simp) rfl⟩
  ·simp at h
 | 0,_::_::_,_,_,hn,_=>by simp at hn
 | n+1,c::d::r,t,k,hn,h=>by
  rw [dz] at h
  split at h
  ·rename_i hc
   split at h
   ·rename_i hd
    simp only [dc] at h
    obtain ⟨⟨t',k'⟩,h1,h2⟩:=h
    simp only [bv] at h2
    obtain ⟨rfl,rfl⟩:=h2
    obtain ⟨a1,a2,a3⟩:=rO n r t' k' (by simp at hn; omega) h1
    refine ⟨by omega,by simp; omega,?_⟩
    subst hc; subst hd
    rw [show k'+2 - 1=(k' - 1)+2 by omega,List.take_succ_cons,List.take_succ_cons,ER (by simp) rfl (by simp)]
    simp [a3]
   ·simp at h
    obtain ⟨rfl,rfl⟩:=h
    exact ⟨by simp,by simp,by simpa using xi (by simp) rfl⟩
  ·rename_i hc
   simp only [dc] at h
   obtain ⟨⟨t',k'⟩,h1,h2⟩:=h
   simp only [bv] at h2
   obtain ⟨rfl,rfl⟩:=h2
   obtain ⟨a1,a2,a3⟩:=rO n (d::r) t' k' (by simp at hn ⊢; omega) h1
   refine ⟨by omega,by simp at a2 ⊢; omega,?_⟩
   rw [show k'+1 - 1=(k' - 1)+1 by omega,List.take_succ_cons,AQ (by simp) rfl (NP hc),a3]
theorem AU {c:UInt8} (hc:c≠39):∀ r:zl,dz (c::r)=(dz r).map fun x=>(c::x.1,x.2+1)
 | []=>by simp [dz,hc]
 | d::r=>by rw [dz,if_neg hc]
theorem E5 (r:zl):dz (39::39::r)=(dz r).map fun x=>(39::x.1,x.2+2):=by
 rw [dz,if_pos rfl,if_pos rfl]
theorem xw:∀ r:zl,r.head?≠some 39→dz (39::r)=some ([],1)
 | [],_=>by rw [dz,if_pos rfl]
 | d::r,h=>by rw [dz,if_pos rfl,if_neg (by simpa using h)]

theorem vV (s:zl) {i:Nat} (h:i < s.length):s.getD ((i:Int).toNat) 0=s[i]:=by
 rw [be,aD,zI h,bz]
theorem Mv {c:UInt8}:((c.toNat:Int)==39)=true↔c=39:=by
 rw [ej]
 constructor
 ·intro h
  exact UInt8.toNat_inj.1 (by show c.toNat=39; omega)
 ·rintro rfl; rfl

theorem mD:∀ (n:Nat) (s:zl) (i:Nat) (a:Int) (b:zl),1≤i→i≤s.length→s.length+2≤n+i→s.length≤1000000000→
  dI n s (i:Int) a b=(match dz (s.drop i) with
   | none=>((0,[]),0)
   | some x=>((3,Lib.replaceAll (List.take (i+x.2 - 2) (List.drop 1 s)) [39,39] [39]),((i+x.2:Nat):Int)))
 | 0,s,i,a,b,h1,h2,h3,h4=>by omega
 | n + 1,s,i,a,b,h1,h2,h3,h4=>by
  rw [dI]
  by_cases hi:i < s.length
  ·rw [if_pos (ba (show (i:Int) < (s.length:Int) by omega)),vV s hi,mQ i (by omega),dB hi]
   by_cases hq:s[i]=39
   ·rw [if_neg (by simp [bne,Mv.2 hq]),hq]
    by_cases hj:i+1 < s.length
    ·rw [dB hj,vV s hj,ba (show ((i+1:Nat):Int) < (s.length:Int) by omega)]
     by_cases hq2:s[i+1]=39
     ·rw [if_pos (by simpa using Mv.2 hq2),mQ (i+1) (by omega),mD n s (i+1+1) a b (by omega) (by omega) (by omega) h4,hq2,E5]
      cases dz (s.drop (i+1+1)) with
      | none=>rfl
      | some x=>
       simp only [rY]
       rw [show i+1+1+x.2=i+(x.2+2) by omega]
     ·rw [if_neg (by simpa using fun h=>hq2 (Mv.1 (by simpa using h))),xw _ (by rw [List.head?_cons]; exact fun h=>hq2 (Option.some.inj h))]
      simp
    ·rw [yr (by omega:s.length≤i+1),ei (show ¬ ((i+1:Nat):Int) < (s.length:Int) by omega),xw _ (by simp)]
     simp
   ·rw [if_pos (by simpa [bne] using fun h=>hq (Mv.1 (by simpa using h))),AU hq,mD n s (i+1) a b (by omega) (by omega) (by omega) h4]
    cases dz (s.drop (i+1)) with
    | none=>rfl
    | some x=>
     simp only [rY]
     rw [show i+1+x.2=i+(x.2+1) by omega]
  ·rw [if_neg (by simp; omega),yr (by omega)]
   rfl

def fu (c:UInt8) (r:zl):Sem dY×Nat:=
 if aF c.toNat=true then ((1,(c::r).take (fv bV r+1)),fv bV r+1)
 else if zQ c.toNat=true then ((2,(c::r).take (fv zQ r+1)),fv zQ r+1)
 else if c=39 then (match dz r with | none=>((0,[]),0) | some x=>((3,x.1),x.2+1))
 else ((4,[c]),1)

theorem rm (c:UInt8) (r:zl) (hl:(c::r).length≤1000000000):aV (c::r)=((fu c r).1,((fu c r).2:Int)):=by
 have e1:aw aF bV (c::r)=if aF c.toNat=true then fv bV r+1 else 0:=rfl
 have e2:aw zQ zQ (c::r)=if zQ c.toNat=true then fv zQ r+1 else 0:=rfl
 unfold aV fu
 by_cases h1:aF c.toNat=true
 ·rw [if_pos h1] at e1
  simp [e1,h1]
 ·rw [if_neg h1] at e1
  by_cases h2:zQ c.toNat=true
  ·rw [if_pos h2] at e2
   simp [e1,e2,h1,h2]
  ·rw [if_neg h2] at e2
   by_cases h3:c=39
   ·have hq:=mD ((c::r).length+1) (c::r) 1 0 [] (by omega) (by simp) (by omega) hl
    have hqq:quoted (c::r)=_:=hq
    subst h3
    have l39:aF 39=false:=rfl
    have d39:zQ 39=false:=rfl
    cases hs:dz r with
    | none=>
     simp only [List.drop_succ_cons,List.drop_zero,hs] at hqq
     simp [e1,e2,l39,d39,hqq]
    | some x=>
     obtain ⟨k1,k2,k3⟩:=rO r.length r x.1 x.2 (aU _) hs
     simp only [List.drop_succ_cons,List.drop_zero,hs] at hqq
     rw [show 1+x.2 - 2=x.2 - 1 by omega,k3,pf 1] at hqq
     simp [e1,e2,l39,d39,hqq]
   ·have h4:¬ (c.toNat:Int)=39:=fun h=>h3 (Mv.1 (by simpa using h))
    simp [e1,e2,h1,h2,h3,h4]

def hY:Nat→zl→Nat→Bool
 | 0,_,_=>false
 | _+1,[],k=>decide (k≤400)
 | n+1,c::r,k=>
  if (bif (c.toNat:Int)==32 then true else (c.toNat:Int)==10)=true then hY n r k
  else if fy (fu c r).1=true then hY n ((c::r).drop (fu c r).2) (k+1) else false

theorem qM:∀ (n:Nat) (s:zl) (k:Nat),400 < k→hY n s k=false
 | 0,_,_,_=>rfl
 | _+1,[],k,h=>by rw [hY]; exact ei (by omega)
 | n+1,c::r,k,h=>by
  rw [hY]
  split
  ·exact qM n r k h
  ·split
   ·exact qM n _ (k+1) (by omega)
   ·rfl

theorem uG:∀ (n:Nat) (s:zl) (i:Nat) (l:List (Sem zq)),i≤s.length→s.length+1≤n+i→s.length≤1000000000→l.length≤400→((pq n s (i:Int) l).2==(0:Int))=hY n (s.drop i) l.length
 | 0,s,i,l,h1,h2,h3,h4=>by omega
 | n + 1,s,i,l,h1,h2,h3,h4=>by
  rw [pq]
  by_cases hlt:i < s.length
  ·have e1:List.take ((s.length:Int).toNat - (i:Int).toNat) (List.drop (i:Int).toNat s)=s.drop i:=by
    simp only [be]
    exact Hq (by simp)
   have hdl:(s.drop i).length≤1000000000:=by simp; omega
   rw [if_pos (ba (show (i:Int) < (s.length:Int) by omega)),e1,vV s hlt,mQ i (by omega)]
   rw [dB hlt] at hdl ⊢
   rw [hY]
   split
   ·exact uG n s (i+1) l (by omega) (by omega) h3 h4
   ·rw [rm _ _ hdl]
    simp only
    by_cases hm:fy (fu s[i] (s.drop (i+1))).1=true
    ·rw [if_pos hm]
     by_cases h5:l.length=400
     ·rw [if_pos (by rw [hm,h5]; rfl),h5,qM n _ _ (by omega)]
      rfl
     ·rw [if_neg (by rw [hm]; simp; omega)]
      have hm':fy (aV (s[i]::s.drop (i+1))).1=true:=by rw [rm _ _ hdl]; exact hm
      obtain ⟨k,hk,hk1,hk2⟩:=qy _ (List.cons_ne_nil _ _) hdl hm'
      rw [rm _ _ hdl] at hk
      have hk:(fu s[i] (s.drop (i+1))).2=k:=Int.ofNat.inj hk
      have hk3:k≤s.length - i:=by rw [← dB hlt] at hk2; simpa using hk2
      rw [hk,show ((i:Int)+(k:Int))=((i+k:Nat):Int) by omega,Uy (i+k) (by omega),uG n s (i+k) _ (by omega) (by omega) h3 (by simp; omega),← dB hlt,List.drop_drop]
      simp
    ·rw [if_neg hm,if_pos (by simp [hm])]
     rfl
  ·rw [if_neg (by simp; omega),yr (by omega)]
   rw [hY]
   exact (ba h4).symm

theorem E4 {s:Sem zp} {t:zl} (h:(lD s).val=some (.inr (.str t,[]))):fi s=t:=by
 unfold fi CI zT bW
 rw [h]
 rfl
theorem E9 (s:Sem zp):fj s=(eZ s&&((cut (fi s)).2==0)):=by
 unfold fj oY
 cases eZ s
 ·rfl
 ·show ((if ((cut (fi s)).2 != 0)=true then (([],1):Sem Sh.str×Sem zg) else (fi s,0)).2==0)=_
  cases h:((cut (fi s)).2==0)
  ·have:((cut (fi s)).2 != 0)=true:=by simp only [bne,h]; rfl
   rw [if_pos this]; rfl
  ·have:((cut (fi s)).2 != 0)=false:=by simp only [bne,h]; rfl
   rw [this]; rfl

abbrev jQ:zl:=[115,101,108,101,99,116]
abbrev sU:zl:=[100,101,108,101,116,101]
theorem NN (r:zl×zl×List zl×List (Sem zi)×zl×List zl×List (Sem bG)×ze×List (Sem zf)×List (Sem aK)×ze×zl):eZ ((sU,r):Sem zp)=eZ ((jQ,r):Sem zp):=by kernel_rfl
theorem Fe {s:Sem zp} (hs:c9 s) (hop:s.1=jQ):fi s=[83,69,76,69,67,84,32,42,32,70,82,79,77,32]++s.2.1++kG (jX s):=by
 have t1:=hs.table
 have t2:=hs.other
 have w1:=rV s.2.2.2.2.2.2.2.2.2.2.2.1
 have hup:(decide (length s.1≤140737488355328)&&List.all s.1 fun b=>decide (b.toNat < 128))=true:=by rw [hop]; decide
 have q0:(s.1==[99,114,101,97,116,101])=false:=by rw [hop]; rfl
 have q1:(s.1==[100,114,111,112])=false:=by rw [hop]; rfl
 have q2:(s.1==[105,110,115,101,114,116])=false:=by rw [hop]; rfl
 have q3:(s.1==[117,112,100,97,116,101])=false:=by rw [hop]; rfl
 have q4:(s.1==[100,101,108,101,116,101])=false:=by rw [hop]; rfl
 have q5:(s.1==[115,101,108,101,99,116])=true:=by rw [hop]; rfl
 obtain ⟨t,h,e⟩:∃ t,(lD s).val=some (.inr (.str t,[]))∧t=[83,69,76,69,67,84,32,42,32,70,82,79,77,32]++s.2.1++kG (jX s):=by
  simp only [lD,ro,Tr.val,q0,q1,q2,q3,q4,q5,if_true,zN,if_false,zn]
  repeat' (with_reducible refine gx ?_ ?_)
  all_goals first
   | exact ⟨_,rfl,rfl⟩
   | exact hup
   | exact gY _
   | (refine ar ?_; simp; omega)
   | (rw [hop]; decide)
   | (refine ar ?_; rw [hop]; simp [cw]; omega)
 rw [E4 h,e]
theorem ON {s:Sem zp} (hs:c9 s) (hop:s.1=sU):fi s=[68,69,76,69,84,69,32,70,82,79,77,32]++s.2.1++kG (jX s):=by
 have t1:=hs.table
 have t2:=hs.other
 have w1:=rV s.2.2.2.2.2.2.2.2.2.2.2.1
 have hup:(decide (length s.1≤140737488355328)&&List.all s.1 fun b=>decide (b.toNat < 128))=true:=by rw [hop]; decide
 have q0:(s.1==[99,114,101,97,116,101])=false:=by rw [hop]; rfl
 have q1:(s.1==[100,114,111,112])=false:=by rw [hop]; rfl
 have q2:(s.1==[105,110,115,101,114,116])=false:=by rw [hop]; rfl
 have q3:(s.1==[117,112,100,97,116,101])=false:=by rw [hop]; rfl
 have q4:(s.1==[100,101,108,101,116,101])=true:=by rw [hop]; rfl
 obtain ⟨t,h,e⟩:∃ t,(lD s).val=some (.inr (.str t,[]))∧t=[68,69,76,69,84,69,32,70,82,79,77,32]++s.2.1++kG (jX s):=by
  simp only [lD,ro,Tr.val,q0,q1,q2,q3,q4,if_true,zN,if_false,zn]
  repeat' (with_reducible refine gx ?_ ?_)
  all_goals first
   | exact ⟨_,rfl,rfl⟩
   | exact hup
   | exact gY _
   | (refine ar ?_; simp; omega)
   | (rw [hop]; decide)
   | (refine ar ?_; rw [hop]; simp [cw]; omega)
 rw [E4 h,e]

theorem mX:∀ (n:Nat) (s:zl) (k k':Nat),k'≤k→hY n s k=true→hY n s k'=true
 | 0,_,_,_,_,h=>h
 | _+1,[],k,k',hk,h=>by
  rw [hY] at h ⊢
  simp only [zW] at h ⊢
  omega
 | n+1,c::r,k,k',hk,h=>by
  rw [hY] at h ⊢
  split
  ·rename_i h1
   rw [if_pos h1] at h
   exact mX n r k k' hk h
  ·rename_i h1
   rw [if_neg h1] at h
   split
   ·rename_i h2
    rw [if_pos h2] at h
    exact mX n _ (k+1) (k'+1) (by omega) h
   ·rename_i h2
    rw [if_neg h2] at h
    cases h
theorem Ti (s:zl) (h:s.length≤1000000000):((cut s).2==(0:Int))=hY (s.length+1) s 0:=by
 have:=uG (s.length+1) s 0 [] (by omega) (by omega) h (by simp)
 exact this
theorem QA (r:zl):hY (r.length+15) ([83,69,76,69,67,84,32,42,32,70,82,79,77,32]++r) 0=hY (r.length+9) r 3:=by kernel_rfl
theorem Qy (r:zl):hY (r.length+13) ([68,69,76,69,84,69,32,70,82,79,77,32]++r) 0=hY (r.length+9) r 2:=by kernel_rfl

theorem XV (r:zl×zl×List zl×List (Sem zi)×zl×List zl×List (Sem bG)×ze×List (Sem zf)×List (Sem aK)×ze×zl) (h1:c9 ((jQ,r):Sem zp)) (h2:c9 ((sU,r):Sem zp)) (h:fj ((jQ,r):Sem zp)=true):fj ((sU,r):Sem zp)=true:=by
 rw [E9,aG] at h ⊢
 obtain ⟨hp,hc⟩:=h
 refine ⟨by rw [NN]; exact hp,?_⟩
 have hl:=(mH h1 hp).2
 rw [Fe h1 rfl] at hc hl
 rw [ON h2 rfl]
 rw [List.append_assoc] at hc hl ⊢
 generalize hr:(jQ,r).2.1++kG (jX (jQ,r))=q at hc hl
 simp only [pd] at hl
 rw [Ti _ (by simp only [pd] at hl ⊢; simp at hl ⊢; omega)] at hc ⊢
 have e1:([83,69,76,69,67,84,32,42,32,70,82,79,77,32]++q).length+1=q.length+15:=by simp
 have e2:([68,69,76,69,84,69,32,70,82,79,77,32]++q).length+1=q.length+13:=by simp
 rw [e1,QA] at hc
 rw [e2,Qy]
 exact mX _ _ _ _ (by omega) hc

theorem Ga (c:UInt8) (r:zl) (h:fy (fu c r).1=true):1≤(fu c r).2:=by
 unfold fu at h ⊢
 split
 ·exact Nat.le_add_left 1 _
 ·split
  ·exact Nat.le_add_left 1 _
  ·split
   ·rename_i h1 h2 h3
    rw [if_neg h1,if_neg h2,if_pos h3] at h
    cases hs:dz r with
    | none=>
     rw [hs] at h
     exact absurd h (by simp [fy])
    | some x=>exact Nat.le_add_left 1 _
   ·exact aU 1

theorem Br:∀ (n:Nat) (s:zl) (k n':Nat),s.length+1≤n'→hY n s k=true→hY n' s k=true
 | 0,_,_,_,_,h=>by cases h
 | _+1,[],_,0,h',_=>by omega
 | _+1,[],_,_+1,_,h=>h
 | _+1,_::_,_,0,h',_=>by omega
 | n+1,c::r,k,n'+1,h',h=>by
  simp only [lu] at h'
  rw [hY] at h ⊢
  split
  ·rename_i h1
   rw [if_pos h1] at h
   exact Br n r k n' (by omega) h
  ·rename_i h1
   rw [if_neg h1] at h
   split
   ·rename_i h2
    rw [if_pos h2] at h
    have:=Ga c r h2
    exact Br n _ (k+1) n' (by simp only [List.length_drop,lu]; omega) h
   ·rename_i h2
    rw [if_neg h2] at h
    cases h

def fF (s:zl) (k:Nat):Prop:=∃ n,hY n s k=true
theorem fF.now {s:zl} {n:Nat} (h:fF s 0) (hn:s.length+1≤n):hY n s 0=true:=by
 obtain ⟨m,h⟩:=h
 exact Br m s 0 n hn h
theorem fF.nil {k:Nat} (h:k≤400):fF [] k:=⟨1,ba h⟩
theorem fF.mono {s:zl} {k k':Nat} (h:fF s k) (hk:k'≤k):fF s k':=by
 obtain ⟨n,h⟩:=h
 exact ⟨n,mX n s k k' hk h⟩
theorem fF.sp {s:zl} {k:Nat} (h:fF s k):fF (32::s) k:=by
 obtain ⟨n,h⟩:=h
 exact ⟨n+1,by rw [hY,if_pos (by rfl)]; exact h⟩
theorem fF.tok {c:UInt8} {r s:zl} {k:Nat} {t:Sem dY} {m:Nat} (hb:(bif (c.toNat:Int)==32 then true else (c.toNat:Int)==10)=false) (hf:fu c r=(t,m)) (ht:fy t=true) (hs:(c::r).drop m=s) (h:fF s (k+1)):fF (c::r) k:=by
 obtain ⟨n,h⟩:=h
 refine ⟨n+1,?_⟩
 rw [hY,if_neg (by rw [hb]; simp),hf,if_pos ht]
 show hY n ((c::r).drop m) (k+1)=true
 rw [hs]
 exact h

theorem pN (p:Int→Bool):∀ (w r:zl),(∀ c∈w,p c.toNat=true)→(∀ d l,r=d::l→p d.toNat=false)→fv p (w++r)=w.length
 | [],[],_,_=>rfl
 | [],d::l,_,h=>by
  show fv p (d::l)=0
  rw [fv,h d l rfl]
  rfl
 | c::w,r,h1,h2=>by
  show fv p (c::(w++r))=w.length+1
  rw [fv,if_pos (h1 c (by simp)),pN p w r (fun x hx=>h1 x (by simp [hx])) h2]

theorem H8 {p:Int→Bool} (h32:p 32=false) (h10:p 10=false) {c:UInt8} (h:p c.toNat=true):(bif (c.toNat:Int)==32 then true else (c.toNat:Int)==10)=false:=by
 have a:((c.toNat:Int)==32)=false:=by
  refine nO.2 fun e=>?_
  rw [e,h32] at h; cases h
 have b:((c.toNat:Int)==10)=false:=by
  refine nO.2 fun e=>?_
  rw [e,h10] at h; cases h
 rw [a,b]
 rfl

def ie (r:zl):Prop:=∀ d l,r=d::l→bV d.toNat=false∧d≠39
theorem ie.sp (r:zl):ie (32::r):=by
 rintro d l h
 injection h with h1 h2
 subst h1
 exact ⟨rfl,by decide⟩
theorem ie.pa (r:zl):ie (41::r):=by
 rintro d l h
 injection h with h1 h2
 subst h1
 exact ⟨rfl,by decide⟩
theorem ie.nil:ie []:=fun _ _ h=>by cases h

theorem Ua (p:Int→Bool):∀ r:zl,fv p r=r.length→∀ x∈r,p x.toNat=true
 | [],_,x,hx=>by cases hx
 | d::l,hl,x,hx=>by
  rw [fv] at hl
  split at hl
  ·rename_i hd
   rcases dT.1 hx with rfl | hx
   ·exact hd
   ·exact Ua p l (by simpa using hl) x hx
  ·simp at hl
theorem Ww (n:Int) (h:bx .i64 n):n.natAbs < 10 ^ (18+1):=by
 have h1:-9223372036854775808≤n:=h.1
 have h2:n≤9223372036854775807:=h.2
 omega
theorem KE {w:zl} (h:dA w=true):∃ c r,w=c::r∧aF c.toNat=true∧∀ x∈r,bV x.toNat=true:=by
 have h:mP w=true:=h
 unfold mP at h
 cases w with
 | nil=>simp at h
 | cons c r=>
  refine ⟨c,r,rfl,?_⟩
  cases h1:decide (((c::r).length:Int) ≥ 1)
  ·rw [h1] at h; cases h
  cases h2:decide (((c::r).length:Int)≤16)
  ·rw [h1,h2] at h; cases h
  rw [h1,h2] at h
  have h:((aw aF bV (c::r):Int)==((c::r).length:Int))=true:=h
  have h:(aw aF bV (c::r):Int)=((c::r).length:Int):=by simpa using h
  rw [aw] at h
  split at h
  ·rename_i hc
   refine ⟨hc,?_⟩
   have hl:fv bV r=r.length:=by simp at h; omega
   exact Ua bV r hl
  ·simp at h; omega

theorem fF.word {w r:zl} {k:Nat} (hw:dA w=true) (hr:ie r) (h:fF r (k+1)):fF (w++r) k:=by
 obtain ⟨c,l,rfl,hc,hl⟩:=KE hw
 have hld:fv bV (l++r)=l.length:=pN bV l r hl fun d l' e=>(hr d l' e).1
 refine fF.tok (r:=l++r) (s:=r) (t:=(1,c::l)) (m:=l.length+1) (H8 (p:=aF) rfl rfl hc) ?_ ?_ ?_ h
 ·unfold fu
  rw [if_pos hc,hld]
  simp
 ·exact hw
 ·simp

theorem fF.num {w r:zl} {k:Nat} (h1:1≤w.length) (h2:w.length≤19) (hd:∀ c∈w,zQ c.toNat=true) (hr:ie r) (h:fF r (k+1)):fF (w++r) k:=by
 cases w with
 | nil=>simp at h1
 | cons c l=>
  have hc:zQ c.toNat=true:=hd c (by simp)
  have hlc:aF c.toNat=false:=by
   cases hh:aF c.toNat with
   | false=>rfl
   | true=>
    exfalso
    have h57:(c.toNat:Int)≤57:=by
     unfold zQ at hc
     cases h1:decide ((c.toNat:Int) ≥ 48) <;> rw [h1] at hc
     ·cases hc
     ·exact dH hc
    unfold aF at hh
    rw [ei (show ¬ (c.toNat:Int) ≥ 97 by omega),ei (show ¬ (c.toNat:Int) ≥ 65 by omega)] at hh
    cases hh
  have hnp:∀ d l',r=d::l'→zQ d.toNat=false:=by
   intro d l' e
   have:=(hr d l' e).1
   unfold bV at this
   cases hh:zQ d.toNat
   ·rfl
   ·rw [hh] at this
    cases hl:aF d.toNat <;> rw [hl] at this <;> cases this
  have hld:fv zQ (l++r)=l.length:=pN zQ l r (fun x hx=>hd x (by simp [hx])) hnp
  refine fF.tok (r:=l++r) (s:=r) (t:=(2,c::l)) (m:=l.length+1) (H8 (p:=zQ) rfl rfl hc) ?_ ?_ ?_ h
  ·unfold fu
   rw [if_neg (by rw [hlc]; simp),if_pos hc,hld]
   simp
  ·have e:aw zQ zQ (c::l)=(c::l).length:=by
    rw [aw,if_pos hc]
    have:=pN zQ l [] (fun x hx=>hd x (by simp [hx])) (by intro _ _ h; cases h)
    rw [lW] at this
    rw [this]
    rfl
   have a1:decide (((c::l).length:Int) ≥ 1)=true:=ba (by omega)
   have a2:decide (((c::l).length:Int)≤19)=true:=ba (by omega)
   show (bif decide (((c::l).length:Int) ≥ 1) then bif decide (((c::l).length:Int)≤19) then ((aw zQ zQ (c::l):Int)==((c::l).length:Int)) else false else false)=true
   rw [a1,a2,e]
   simp
  ·simp

theorem fF.sign {c:UInt8} {r:zl} {k:Nat} (hc:c=40∨c=41∨c=44∨c=61∨c=60∨c=43∨c=45∨c=42) (h:fF r (k+1)):fF (c::r) k:=by
 refine fF.tok (r:=r) (s:=r) (t:=(4,[c])) (m:=1) ?_ ?_ ?_ (by simp) h
 ·rcases hc with rfl | rfl | rfl | rfl | rfl | rfl | rfl | rfl <;> rfl
 ·unfold fu
  rcases hc with rfl | rfl | rfl | rfl | rfl | rfl | rfl | rfl <;> (rw [if_neg (by decide),if_neg (by decide),if_neg (by decide)])
 ·rcases hc with rfl | rfl | rfl | rfl | rfl | rfl | rfl | rfl <;> rfl

theorem xv:∀ (t r:zl),r.head?≠some 39→dz (pt t++39::r)=some (t,(pt t).length+1)
 | [],r,h=>by
  show dz (39::r)=some ([],1)
  exact xw r h
 | c::t,r,h=>by
  rw [pt]
  split
  ·rename_i hc
   subst hc
   show dz (39::39::(pt t++39::r))=_
   rw [E5,xv t r h]
   simp
  ·rename_i hc
   show dz (c::(pt t++39::r))=_
   rw [AU hc,xv t r h]
   simp

theorem fF.quoted {t r:zl} {k:Nat} (ht:dS ((2,0,t):Sem zf)=true) (hr:ie r) (h:fF r (k+1)):fF (39::(pt t++39::r)) k:=by
 have h39:r.head?≠some 39:=by
  cases r with
  | nil=>simp
  | cons d l=>simpa using (hr d l rfl).2
 refine fF.tok (r:=pt t++39::r) (s:=r) (t:=(3,t)) (m:=(pt t).length+1+1) (by rfl) ?_ ht ?_ h
 ·unfold fu
  rw [if_neg (by decide),if_neg (by decide),if_pos rfl,xv t r h39]
 ·simp [List.drop_append]

theorem ox:∀ (f n:Nat),∀ c∈nL f n,zQ c.toNat=true
 | 0,_,c,h=>by cases h
 | f+1,n,c,h=>by
  have hd:∀ m,m < 10→zQ (UInt8.ofNat (48+m)).toNat=true:=by decide
  rw [nL] at h
  split at h
  ·rename_i hn
   rw [bd] at h
   subst h
   exact hd n hn
  ·rcases aZ.1 h with h | h
   ·exact ox f _ c h
   ·rw [bd] at h
    subst h
    exact hd (n % 10) (Nat.mod_lt n (by omega))
theorem Lk (f n:Nat):1≤(nL (f+1) n).length:=by
 rw [nL]
 split
 ·simp
 ·simp
theorem uR:∀ (f g n:Nat),n < 10 ^ (g+1)→(nL f n).length≤g+1
 | 0,_,_,_=>by simp [nL]
 | f+1,g,n,h=>by
  rw [nL]
  split
  ·simp
  ·rename_i hn
   cases g with
   | zero=>omega
   | succ g=>
    have:=uR f g (n / 10) (by rw [Nat.pow_succ] at h; omega)
    simp
    omega

theorem fF.val {v:Sem zf} {r:zl} {k:Nat} (hm:dS v=true) (hv:bx .i64 v.2.1) (hr:ie r) (h:fF r (k+2)):fF (eD v++r) k:=by
 obtain ⟨a,n,t⟩:=v
 unfold eD
 rw [if_neg (by rw [hm]; simp)]
 split
 ·show fF (nZ n++r) k
  have hlt:n.natAbs < 10 ^ (18+1):=Ww n hv
  have hl:=uR 20 18 n.natAbs hlt
  have hp:=Lk 19 n.natAbs
  unfold nZ
  split
  ·show fF (45::(nL 20 n.natAbs++r)) k
   exact fF.sign (by simp) (fF.num hp hl (ox 20 _) hr h)
  ·exact fF.num hp hl (ox 20 _) hr (h.mono (by omega))
 ·split
  ·rename_i h1 h2
   have h2:a=(2:Int):=by simpa using h2
   subst h2
   show fF ([39]++Lib.replaceAll t [39] [39,39]++[39]++r) k
   rw [xg]
   have e:[39]++pt t++[39]++r=39::(pt t++39::r):=by simp
   rw [e]
   have ht:dS ((2,0,t):Sem zf)=true:=by
    have hn:n=0:=by
     unfold dS at hm
     simp only at hm
     cases hz:(n==(0:Int))
     ·rw [if_neg (by simp),if_neg (by simp),if_pos (by simp),hz] at hm
      cases hm
     ·simpa using hz
    rw [hn] at hm
    exact hm
   exact fF.quoted ht hr (h.mono (by omega))
  ·split
   ·split
    ·exact fF.word (w:=[84,82,85,69]) (by kernel_rfl) hr (h.mono (by omega))
    ·exact fF.word (w:=[70,65,76,83,69]) (by kernel_rfl) hr (h.mono (by omega))
   ·exact fF.word (w:=[78,85,76,76]) (by kernel_rfl) hr (h.mono (by omega))

theorem Qz {t c:zl} {v:Sem zf} (ht:dA t=true) (hc:dA c=true) (hm:dS v=true) (hv:bx .i64 v.2.1):
  fF ([83,69,76,69,67,84,32,42,32,70,82,79,77,32]++t++([32,87,72,69,82,69,32]++([40]++c++[32]++[61]++[32]++eD v++[41]))) 0:=by
 have e:[83,69,76,69,67,84,32,42,32,70,82,79,77,32]++t++([32,87,72,69,82,69,32]++([40]++c++[32]++[61]++[32]++eD v++[41]))=
   [83,69,76,69,67,84]++32::42::32::([70,82,79,77]++32::(t++32::([87,72,69,82,69]++32::40::(c++32::61::32::(eD v++[41]))))):=by simp
 rw [e]
 refine fF.word (by kernel_rfl) (ie.sp _) (fF.sp (fF.sign (by simp) (fF.sp (fF.word (by kernel_rfl) (ie.sp _) (fF.sp (fF.word ht (ie.sp _) (fF.sp (fF.word (by kernel_rfl) (ie.sp _) (fF.sp (fF.sign (by simp) (fF.word hc (ie.sp _) (fF.sp (fF.sign (by simp) (fF.sp (fF.val hm hv (ie.pa _) ?_)))))))))))))))
 exact fF.sign (by simp) (fF.nil (by omega))

abbrev iy (c:zl) (v:Sem zf):ze:=ze.mk [61] (0,0,[]) [] [ze.mk [99,111,108] (0,0,[]) c [],ze.mk [108,105,116] v [] []]
abbrev pL (t c:zl) (v:Sem zf):zl×zl×List zl×List (Sem zi)×zl×List zl×List (Sem bG)×ze×List (Sem zf)×List (Sem aK)×ze×zl:=(t,[],[],[],[],[],[],ze.mk [] (0,0,[]) [] [],[],[],iy c v,[])

theorem XU (c:zl) (v:Sem zf):gg (iy c v)=((dA c && !oU c)&&dS v):=by
 have e1:∀ g,wh g (ze.mk [99,111,108] (0,0,[]) c []) 2 1=(bif dA c then !oU c else false,2):=fun g=>by kernel_rfl
 have e2:∀ g,wh g (ze.mk [108,105,116] v [] []) 2 2=(dS v,3):=fun g=>by kernel_rfl
 have e:mt 16 (iy c v) 1 0=pP (mt 15) 1 (iy c v).l 1:=by kernel_rfl
 unfold gg
 rw [e]
 show (pP (wh (mt 14)) 1 [ze.mk [99,111,108] (0,0,[]) c [],ze.mk [108,105,116] v [] []] 1).1=_
 have w:IntKind.i64.wrap (1+1)=2:=by kernel_rfl
 rw [pP,w,e1]
 simp only
 cases hc:(bif dA c then !oU c else false)
 ·rw [if_pos (by rfl)]
  cases h1:dA c <;> cases h2:oU c <;> rw [h1,h2] at hc <;> first | rfl | cases hc
 ·rw [if_neg (by simp),pP,w,e2]
  simp only
  have:(dA c && !oU c)=true:=by
   cases h1:dA c <;> cases h2:oU c <;> rw [h1,h2] at hc <;> first | rfl | cases hc
  rw [this]
  cases dS v <;> rfl

theorem J1 {t c:zl} {v:Sem zf} (ht:bL t=true) (he:gg (iy c v)=true):eZ ((jQ,pL t c v):Sem zp)=true:=by
 have hn:kQ (iy c v)=true:=by
  unfold kQ
  rw [he]
  cases gN (iy c v) <;> rfl
 have hs:=bO (s:=((jQ,pL t c v):Sem zp)) (g:=true) (b:=true) (by
  have q0:(jQ==[99,114,101,97,116,101])=false:=rfl
  have q1:(jQ==[100,114,111,112])=false:=rfl
  have q2:(jQ==[105,110,115,101,114,116])=false:=rfl
  have q3:(jQ==[117,112,100,97,116,101])=false:=rfl
  have q4:(jQ==[100,101,108,101,116,101])=false:=rfl
  have q5:(jQ==[115,101,108,101,99,116])=true:=rfl
  simp only [eu,dE,Tr.val,q0,q1,q2,q3,q4,q5,zN,zn,ht,hn,bA,↓reduceIte]
  rfl)
 rw [hs.2]
 rfl

theorem ML (c:zl) (v:Sem zf):fL 16 (iy c v)=[40]++c++[32]++[61]++[32]++eD v++[41]:=by kernel_rfl
theorem Q3 {t c:zl} {v:Sem zf} (ht:bL t=true) (he:gg (iy c v)=true) (hc:dA c=true) (hm:dS v=true) (hv:bx .i64 v.2.1) (hs:c9 ((jQ,pL t c v):Sem zp)):fj ((jQ,pL t c v):Sem zp)=true:=by
 have hp:=J1 ht he
 have htw:dA t=true:=by
  unfold bL at ht
  cases h:dA t
  ·rw [h] at ht; cases ht
  ·rfl
 have hl:=(mH hs hp).2
 rw [E9,hp,nR]
 have hx:fi ((jQ,pL t c v):Sem zp)=[83,69,76,69,67,84,32,42,32,70,82,79,77,32]++t++([32,87,72,69,82,69,32]++([40]++c++[32]++[61]++[32]++eD v++[41])):=by
  rw [Fe hs rfl]
  congr 1
  show kG (iy c v)=_
  unfold kG cx kU
  have hz:gN (iy c v)=false:=by kernel_rfl
  rw [hz,if_neg (by simp),if_neg (by rw [he]; simp)]
  exact congrArg ([32,87,72,69,82,69,32] ++ ·) (ML c v)
 rw [Ti _ (by omega),hx]
 exact (Qz htw hc hm hv).now (aU _)

def Ins (n:zl) (r:List (Sem zf)) (db d:List (Sem zh)):Prop:=
 ∃ (i:Nat) (s:List (List (Sem zf))),aj db n=(i:Int)∧s.Perm ((db.getD i (zj zh)).2++[r])∧d=db.set i ((db.getD i (zj zh)).1,s)∧cC d
inductive Dc (n:zl) (db:List (Sem zh)):List (List (Sem zf))→List (Sem zh)→Prop
 | nil:Dc n db [] db
 | snoc {l:List (List (Sem zf))} {d:List (Sem zh)} {r:List (Sem zf)} {d':List (Sem zh)} (h:Dc n db l d) (hi:Ins n r d d'):Dc n db (l++[r]) d'

theorem E6 {α:Type} {l:List α} {i:Nat} {d:α}:l.set i (l.getD i d)=l:=by
 refine yC fun j=>?_
 rw [jq]
 by_cases e:i=j
 ·subst e
  rw [if_pos rfl]
  by_cases hi:i < l.length
  ·rw [if_pos hi,aD,zI hi]; rfl
  ·rw [if_neg hi,dh (by omega)]
 ·rw [if_neg e]
theorem Ma {α:Type} {l:List α} {i:Nat} {a d:α} (hi:i < l.length):(l.set i a).getD i d=a:=by
 rw [aD,nN hi]; rfl
theorem HT {db:List (Sem zh)} {n:zl} {i:Nat} (h:aj db n=(i:Int)):i < db.length:=by
 have:=jc (s:=n) (l:=db) (by rw [h]; exact Int.natCast_nonneg i)
 rw [h] at this
 simp only [zF,aG,zW] at this
 omega

theorem Dc.is {n:zl} {db d:List (Sem zh)} {l:List (List (Sem zf))} (h:Dc n db l d) {i:Nat} (hi:aj db n=(i:Int)):
  ∃ s,d=db.set i ((db.getD i (zj zh)).1,s)∧s.Perm ((db.getD i (zj zh)).2++l):=by
 induction h with
 | nil=>exact ⟨(db.getD i (zj zh)).2,E6.symm,by rw [lW]⟩
 | snoc h hx IH=>
  obtain ⟨s,rfl,hs⟩:=IH
  obtain ⟨j,s',hj,hp,rfl,_⟩:=hx
  have hf:aj (db.set i ((db.getD i (zj zh)).1,s)) n=(i:Int):=by rw [yH (x:=((db.getD i (zj zh)).1,s)) rfl,hi]
  obtain rfl:i=j:=Int.ofNat_inj.1 (hf.symm.trans hj)
  have hl:=HT hi
  have hg:(db.set i ((db.getD i (zj zh)).1,s)).getD i (zj zh)=((db.getD i (zj zh)).1,s):=Ma hl
  rw [hg] at hp ⊢
  refine ⟨s',by rw [List.set_set],?_⟩
  rw [← List.append_assoc]
  exact hp.trans (hs.append_right _)

theorem Dc.order {n:zl} {db d d':List (Sem zh)} {l l':List (List (Sem zf))} (h:Dc n db l d) (h':Dc n db l' d') (hp:l.Perm l') (hd:cC d) (hd':cC d') (hf:(0:Int)≤aj db n):d=d':=by
 obtain ⟨i,hi⟩:∃ i:Nat,aj db n=(i:Int):=⟨toNat (aj db n),(Int.toNat_of_nonneg hf).symm⟩
 obtain ⟨s,rfl,hs⟩:=h.is hi
 obtain ⟨s',rfl,hs'⟩:=h'.is hi
 have hl:=HT hi
 have m:∀ y,cC (db.set i y)→cd y:=fun y hy=>hy.rels y (List.mem_iff_getElem?.2 ⟨i,nN hl⟩)
 rw [cd.eq_of_perm (m _ hd) (m _ hd') (hs.trans ((hp.append_left _).trans hs'.symm))]

noncomputable section
abbrev cpR:List CP:=[.d zh]
abbrev WP:List CP:=[.d .str,.nil,.d zg,.nil,.nil,.d .str,.d zg,.d zg,.d .str,.d .str,.nil,.nil]
abbrev zcC:List CP:=[.d zw,.vec (.sl zf)]
abbrev lQ:List CP:=[.d zp]
abbrev eJ:List CP:=[.d .str,.d .str,.d .str,.nil,.nil,.d .str,.nil,.nil,.d .str,.d zg,.d zg,.d .str,.d .str,.nil,.nil,.nil,.d .str,.d zg,.d zg,.d .str,.d .str,.nil,.d .str]
abbrev Le:List CP:=[.d .str,.d .str,.d .str,.d (.sl .str),.d (.sl zi),.d .str,.d (.sl .str),.vec bG,.d .expr,.d (.sl zf),.nil,.d .expr,.d .str]
abbrev Lf:List CP:=[.d .str,.d .str,.d .str,.d (.sl .str),.d (.sl zi),.d .str,.d (.sl .str),.vec bG,.d .expr,.d (.sl zf),.vec aK,.d .expr,.d .str]

abbrev zd7:Nat→zY:=fun j=>if j=6 then { slots:=[1,2,3,4,5],prom:=[(3,some 11,.sl zf)] } else { }
inductive Fq where
 | h6 (i4:Int) (i5:Int) (z0:zu cpR) (z1:zu WP) (z2:zu zcC)
abbrev zgB:Fq→Nat×St
 | .h6 i4 i5 z0 z1 z2=>(6,⟨tm 38 [(1,AV.ptr 0 0),(2,AV.ptr 1 0),(3,AV.ptr 2 0),(4,AV.int .i64 i4),(5,AV.int .i64 i5)],[AO.box (bh [] cpR z0),AO.box (bh [] WP z1),AO.box (bh [3] zcC z2),AO.vec zf.sl z2.2.1]⟩)
def Xo (x0:Sem zh):Tr (Fq ⊕ zV):=
 let a0:=(iH (x0.1.1,x0.1.2.1,x0.1.2.2.1,x0.1.2.2.2.1,x0.1.2.2.2.2.1,zB x0.1.2.2.2.2.2),[],())
 Tr.br (decide ((↑(length x0.2):Int) > 200)) (Tr.to (Fq.h6 201 0 (x0,()) ([],0,[],0,0,[],[],()) a0))
 (Tr.to (Fq.h6 40 0 (x0,()) ([],0,[],0,0,[],[],()) a0))
def Ku:Fq→Tr (Fq ⊕ zV)
 | .h6 i4 i5 z0 z1 z2=>
  let a0:=(↑(length z0.1.2):Int)
  let a1:=[jB (getD z0.1.2 i5.toNat (zj zf.sl))]
  Tr.br (bif decide (i5 < a0) then decide (i5 < i4) else false)
  (Tr.chk (zF i5 (length z0.1.2))
   (Tr.chk (decide (z2.2.1.length+a1.length≤1073741824)) (Tr.to (Fq.h6 i4 (IntKind.i64.wrap (i5+1)) z0 z1 (z2.1,z2.2.1++a1,())))))
  (Tr.re
   (AV.agg [AV.str z2.1.1,AV.sl zi z2.1.2.1,AV.int .i64 z2.1.2.2.1,AV.sl zg z2.1.2.2.2.1,AV.sl zq z2.1.2.2.2.2.1,AV.str (ze.op z2.1.2.2.2.2.2),AV.int .i64 (ze.v z2.1.2.2.2.2.2).1,AV.int .i64 (ze.v z2.1.2.2.2.2.2).2.1,AV.str (ze.v z2.1.2.2.2.2.2).2.2,AV.str (ze.s z2.1.2.2.2.2.2),AV.sl Sh.expr (ze.l z2.1.2.2.2.2.2),AV.vec 0])
   [AO.vec zf.sl z2.2.1])
def v7 (x0:Sem zh):=zT [zh] Ku 100000000 (Xo x0)
def Gt (x0:Sem zh):=(v7 x0).isSome
def gR (x0:Sem zh):=o1 (v7 x0)
def ZU:=FT [zh] [zh] fun x=>v7 x.1
theorem Vl:FK 33 ZU:=bM.T1 (f:=Tryz.f33) (keep:=zd7) (e:=zgB)

abbrev zix:Nat→zY:=fun j=>if j=3 then { slots:=[1,2,3,4],prom:=[(3,some 7,bG)] } else if j=7 then { slots:=[1,2,3,5],prom:=[(3,some 15,aK)] } else { }
inductive Te where
 | h3 (i4:Int) (z0:zu lQ) (z1:zu eJ) (z2:zu Le)
 | h7 (i5:Int) (z0:zu lQ) (z1:zu eJ) (z2:zu Lf)
abbrev e8p:Te→Nat×St
 | .h3 i4 z0 z1 z2=>(3,⟨tm 103 [(1,AV.ptr 0 0),(2,AV.ptr 1 0),(3,AV.ptr 2 0),(4,AV.int .i64 i4)],[AO.box (bh [] lQ z0),AO.box (bh [] eJ z1),AO.box (bh [3] Le z2),AO.vec (Sh.str.pr Sh.str) z2.2.2.2.2.2.2.2.1]⟩)
 | .h7 i5 z0 z1 z2=>(7,⟨tm 103 [(1,AV.ptr 0 0),(2,AV.ptr 1 0),(3,AV.ptr 2 0),(5,AV.int .i64 i5)],[AO.box (bh [] lQ z0),AO.box (bh [] eJ z1),AO.box (bh [3,4] Lf z2),AO.vec (Sh.str.pr Sh.str) z2.2.2.2.2.2.2.2.1,AO.vec (Sh.str.pr Sh.expr) z2.2.2.2.2.2.2.2.2.2.2.1]⟩)
def i8p (x0:Sem zp):Tr (Te ⊕ zV):=
 Tr.chk (dU x0.1)
 (Tr.chk (dU x0.2.1)
  (Tr.chk (dU x0.2.2.1) (Tr.chk (dU x0.2.2.2.2.2.1) (Tr.chk (dU x0.2.2.2.2.2.2.2.2.2.2.2.2) (Tr.chk (mo x0.2.2.2.1) (Tr.chk (mo x0.2.2.2.2.2.2.1) (Tr.to (Te.h3 0 (x0,()) ([],[],[],[],[],0,0,[],[],[],0,0,[],[],[],()) (bl x0.1,bl x0.2.1,bl x0.2.2.1,fO x0.2.2.2.1,mr x0.2.2.2.2.1,
  bl x0.2.2.2.2.2.1,fO x0.2.2.2.2.2.2.1,[],cA (zB x0.2.2.2.2.2.2.2.2.1),jB x0.2.2.2.2.2.2.2.2.2.1,cA (zB x0.2.2.2.2.2.2.2.2.2.2.2.1),bl x0.2.2.2.2.2.2.2.2.2.2.2.2,())))))))))
def RF:Te→Tr (Te ⊕ zV)
 | .h3 i4 z0 z1 z2=>
  let a0:=(↑(length z0.1.2.2.2.2.2.2.2.1):Int)
  let a1:=zF i4 (length z0.1.2.2.2.2.2.2.2.1)
  let a2:=getD z0.1.2.2.2.2.2.2.2.1 i4.toNat (zj bG)
  let a3:=[(bl a2.1,bl a2.2)]
  Tr.br (bif decide (i4 < a0) then decide (i4 < 10) else false)
  (Tr.chk a1
   (Tr.chk (dU a2.1) (Tr.chk a1 (Tr.chk (dU a2.2) (Tr.chk (decide (z2.2.2.2.2.2.2.2.1.length+a3.length≤1073741824)) (Tr.to (Te.h3 (IntKind.i64.wrap (i4+1)) z0 z1 (z2.1,z2.2.1,z2.2.2.1,z2.2.2.2.1,z2.2.2.2.2.1,z2.2.2.2.2.2.1,z2.2.2.2.2.2.2.1,z2.2.2.2.2.2.2.2.1++a3,z2.2.2.2.2.2.2.2.2))))))))
  (Tr.to
   (Te.h7 0 z0 z1 (z2.1,z2.2.1,z2.2.2.1,z2.2.2.2.1,z2.2.2.2.2.1,z2.2.2.2.2.2.1,z2.2.2.2.2.2.2.1,z2.2.2.2.2.2.2.2.1,z2.2.2.2.2.2.2.2.2.1,z2.2.2.2.2.2.2.2.2.2.1,[],z2.2.2.2.2.2.2.2.2.2.2)))
 | .h7 i5 z0 z1 z2=>
  let a0:=(↑(length z0.1.2.2.2.2.2.2.2.2.2.2.1):Int)
  let a1:=zF i5 (length z0.1.2.2.2.2.2.2.2.2.2.2.1)
  let a2:=getD z0.1.2.2.2.2.2.2.2.2.2.2.1 i5.toNat (zj aK)
  let a3:=[(bl a2.1,zB (cA (zB a2.2)))]
  Tr.br (bif decide (i5 < a0) then decide (i5 < 10) else false)
  (Tr.chk a1
   (Tr.chk (dU a2.1) (Tr.chk a1 (Tr.chk (decide (z2.2.2.2.2.2.2.2.2.2.2.1.length+a3.length≤1073741824)) (Tr.to (Te.h7 (IntKind.i64.wrap (i5+1)) z0 z1 (z2.1,z2.2.1,z2.2.2.1,z2.2.2.2.1,z2.2.2.2.2.1,z2.2.2.2.2.2.1,z2.2.2.2.2.2.2.1,z2.2.2.2.2.2.2.2.1,z2.2.2.2.2.2.2.2.2.1,z2.2.2.2.2.2.2.2.2.2.1,z2.2.2.2.2.2.2.2.2.2.2.1++a3,z2.2.2.2.2.2.2.2.2.2.2.2)))))))
  (Tr.re
   (AV.agg [AV.str z2.1,AV.str z2.2.1,AV.str z2.2.2.1,AV.sl Sh.str z2.2.2.2.1,AV.sl zi z2.2.2.2.2.1,AV.str z2.2.2.2.2.2.1,AV.sl Sh.str z2.2.2.2.2.2.2.1,AV.vec 0,AV.str (ze.op z2.2.2.2.2.2.2.2.2.1),AV.int .i64 (ze.v z2.2.2.2.2.2.2.2.2.1).1,AV.int .i64 (ze.v z2.2.2.2.2.2.2.2.2.1).2.1,AV.str (ze.v z2.2.2.2.2.2.2.2.2.1).2.2,AV.str (ze.s z2.2.2.2.2.2.2.2.2.1),
   AV.sl Sh.expr (ze.l z2.2.2.2.2.2.2.2.2.1),AV.sl zf z2.2.2.2.2.2.2.2.2.2.1,AV.vec 1,AV.str (ze.op z2.2.2.2.2.2.2.2.2.2.2.2.1),AV.int .i64 (ze.v z2.2.2.2.2.2.2.2.2.2.2.2.1).1,AV.int .i64 (ze.v z2.2.2.2.2.2.2.2.2.2.2.2.1).2.1,AV.str (ze.v z2.2.2.2.2.2.2.2.2.2.2.2.1).2.2,AV.str (ze.s z2.2.2.2.2.2.2.2.2.2.2.2.1),
   AV.sl Sh.expr (ze.l z2.2.2.2.2.2.2.2.2.2.2.2.1),AV.str z2.2.2.2.2.2.2.2.2.2.2.2.2.1])
   [AO.vec (Sh.str.pr Sh.str) z2.2.2.2.2.2.2.2.1,AO.vec (Sh.str.pr Sh.expr) z2.2.2.2.2.2.2.2.2.2.2.1])
def oK (x0:Sem zp):=zT [zp] RF 100000000 (i8p x0)
def B4 (x0:Sem zp):=(oK x0).isSome
def H0 (x0:Sem zp):=o1 (oK x0)
def F8p:=FT [zp] [zp] fun x=>oK x.1
theorem S5:FK 10 F8p:=bM.T1 (f:=Tryz.f10) (keep:=zix) (e:=e8p)

def Tq:=fM.addL [(33,ZU),(10,F8p)]
theorem yX:zm Tq:=bM.addL <| fc Vl <| fc S5 gZ
end
noncomputable section

abbrev ziq:Nat→zY:=fun j=>if j=3 then { slots:=[0,3,4],prom:=[(3,none,zh)] } else { }
inductive Y5 where
 | h3 (l0:List (Sem zh)) (i4:Int) (lh_0:List (Sem zh))
abbrev e7p:Y5→Nat×St
 | .h3 l0 i4 lh_0=>(3,⟨tm 24 [(0,AV.sl zh l0),(3,AV.vec 0),(4,AV.int .i64 i4)],[AO.vec zh lh_0]⟩)
def i7p (x0:Sem zh.sl):Tr (Y5 ⊕ zV):=
 Tr.to (Y5.h3 x0 0 [])
def t7p:Y5→Tr (Y5 ⊕ zV)
 | .h3 l0 i4 lh_0=>
  let a0:=l0.getD i4.toNat (zj zh)
  let a1:=((a0.1.1,a0.1.2.1,a0.1.2.2.1,a0.1.2.2.2.1,a0.1.2.2.2.2.1,zB a0.1.2.2.2.2.2),a0.2)
  let a2:=gR a1
  let a3:=[((a2.1.1,a2.1.2.1,a2.1.2.2.1,a2.1.2.2.2.1,a2.1.2.2.2.2.1,zB a2.1.2.2.2.2.2),a2.2)]
  Tr.br (bif decide (i4 < (↑l0.length:Int)) then decide (i4 < 13) else false)
  (Tr.chk (zF i4 l0.length)
   (Tr.chk (Gt a1) (Tr.chk (decide (lh_0.length+a3.length≤1073741824)) (Tr.to (Y5.h3 l0 (IntKind.i64.wrap (i4+1)) (lh_0++a3))))))
  (Tr.re (AV.vec 0)
   [AO.vec zh lh_0])
def v8 (x0:Sem zh.sl):=zT [zh.sl] t7p 100000000 (i7p x0)
def Gu (x0:Sem zh.sl):=(v8 x0).isSome
def jA (x0:Sem zh.sl):=o1 (v8 x0)
def F7p:=FT [zh.sl] [zh.sl] fun x=>v8 x.1
theorem S4:FK 14 F7p:=yX.T1 (f:=Tryz.f14) (keep:=ziq) (e:=e7p)

def HI:=Tq.add 14 F7p
theorem mZ:zm HI:=yX.add S4
end
noncomputable section
abbrev zJ:List CP:=[.d (.sl zq),.d zg,.d .bool]

def zdB (x0:Sem (Sh.int IntKind.u8)):Tr (Empty ⊕ zV):=
 let a0:=bif decide (97≤x0) then decide (x0≤122) else false
 Tr.re (AV.bool (bif decide (65≤x0) then bif decide (x0≤90) then true else a0 else a0)) []
def rE (x0:Sem (Sh.int IntKind.u8)):=zT [Sh.bool] t0 100000000 (zdB x0)
def kw (x0:Sem (Sh.int IntKind.u8)):=(rE x0).isSome
def p9 (x0:Sem (Sh.int IntKind.u8)):=o1 (rE x0)
def Sl:=FT [Sh.int IntKind.u8] [Sh.bool] fun x=>rE x.1
theorem Ps:FK 177 Sl:=mZ.T1 (f:=Tryz.f177) (keep:=k0) (e:=e0)

def zdD (x0:Sem (Sh.int IntKind.u8)):Tr (Empty ⊕ zV):=
 Tr.re (AV.bool (bif decide (48≤x0) then decide (x0≤57) else false)) []
def wZ (x0:Sem (Sh.int IntKind.u8)):=zT [Sh.bool] t0 100000000 (zdD x0)
def fV (x0:Sem (Sh.int IntKind.u8)):=(wZ x0).isSome
def iG (x0:Sem (Sh.int IntKind.u8)):=o1 (wZ x0)
def So:=FT [Sh.int IntKind.u8] [Sh.bool] fun x=>wZ x.1
theorem Pv:FK 179 So:=mZ.T1 (f:=Tryz.f179) (keep:=k0) (e:=e0)

abbrev MR:Nat→zY:=fun _=>{ }
theorem X6:zA HI.P 113 Tryz.f113 2:=aL (by kernel_rfl)
def Ml (y:zu zJ) (x0:TS):Tr (Empty ⊕ zV):=
 let a0:=decide (y.2.1 < (↑(length y.1):Int))
 let a1:=zF y.2.1 (length y.1)
 let a2:=getD y.1 (toNat y.2.1) (zj zq)
 let a3:=a2.1==1
 let a4:=a2.1==4
 let a5:=a2.2==x0
 Tr.chk (bif a0 then a1&&bif a3 then a1 else a1&&bif a4 then a1 else true else true)
 (Tr.re (AV.bool (bif a0 then bif a3 then a5 else bif a4 then a5 else false else false)) (bT zJ y))
theorem W2 (y:zu zJ) (x0:TS):rn HI 1 MR Tryz.f113 [AV.ptr 0 0,zz Sh.str x0] (bT zJ y)=(Ml y x0).map (lf Tryz.f113 e0):=by kernel_rfl
def Oq (y:zu zJ) (x0:TS):Option (zx (List.map some [Sh.bool])×zu zJ):=yf [Sh.bool] zJ t0 100000000 (Ml y x0)
def jO (y:zu zJ) (x0:TS):Bool:=(Oq y x0).isSome
def mG (y:zu zJ) (x0:TS):(Sem Sh.bool)×zu zJ:=(fun r:zx (List.map some [Sh.bool])×zu zJ=>(r.1.1,r.2)) ((Oq y x0).getD (bF [Sh.bool],fK zJ))
def R5:zD:=xW zJ [Sh.str] [Sh.bool] zJ (fun y x=>jO y x.1) fun y x=>(((mG y x.1).1,()),(mG y x.1).2)
theorem Pd:FK 113 R5:=qG (ps:=zJ) (ks:=[Sh.str]) (outs:=[Sh.bool]) (keep:=MR) (gas:=400) (n:=100000000) (e:=e0) (t:=t0) (i:=fun y x=>Ml y x.1) mZ X6 (fun y x=>W2 y x.1) (KG _ _ _ _ _) (fun _ _=>by kernel_rfl) (fun _ _=>by kernel_rfl)

def md:=HI.addL [(177,Sl),(179,So),(113,R5)]
theorem gy:zm md:=mZ.addL <| fc Ps <| fc Pv <| fc Pd gZ
end
end Cad
