/- Tables with rows that may be: no value twice. Tables with rows that may be. Bases that may be. Small things about lists and places. Bases from whose tables rows are taken. Bases from whose tables rows are taken, and into which rows are put: the laws. Rows that a condition meets: what rel.Where answers. Bases: the keys that are met, rows that are taken out: what is answered. Bases: what a SELECT and a DELETE answer. Bases: what a DELETE answers. Texts: an octet replaced by two, two by one; tokens. A DELETE may be where the SELECT of the same may be. A text that a statement's parts make has its tokens. The SELECT and the DELETE of a key may be. Few tables, few statements. Few bases. The document's reader: letters, words. The document's values; names' places; expressions, counted, held against one another. -/
import Derived.Test.YtiefilkilbdpgaaGreatDoorM12
import Derived.Test.YtiefilkilbdpgaaGreatDoorM13
namespace Cad
open Go Go.Proofs
open List (getD)
open List (length)
set_option maxHeartbeats 4000000

abbrev aS (c:Int) (r:List (Sem zf)):Sem zf:=getD r (Int.toNat c) (zj zf)
def A6 (rows:List (List (Sem zf))) (c:Int):Prop:=rows.Pairwise fun a b=>(aS c a).1≠0→aS c a≠aS c b

theorem mB:∀ (es:List ((Int×Int×zn)×Int)) (k:Int×Int×zn) (x:Int),ie (gT es k) (jm es k) x=ic es k x
 | [],k,x=>by simp [gT,fW,jm,ie,ic]
 | p::r,k,x=>by
  have h:=mB r k x
  cases hk:(k==p.1) with
  | true=>
   have e:k=p.1:=cB hk
   simp [gT,fW,jm,ie,ic,e]
  | false=>
   have e:gT (p::r) k=p::gT r k:=by
    simp only [gT,fW,List.any_cons,hk,Bool.false_or]
    cases (r.any fun p=>k==p.1) <;> rfl
   rw [e,jm,ic,hk]
   show p::ie (gT r k) (jm r k) x=p::ic r k x
   rw [h]
theorem AT (es:List ((Int×Int×zn)×Int)) (k k':Int×Int×zn) (x:Int):eV (ic es k x) k'=if k'=k then x else eV es k':=by
 induction es with
 | nil=>
  by_cases h:k'=k
  ·subst h; simp [ic,eV]
  ·simp [ic,eV,h]
 | cons p r ih=>
  rw [ic]
  cases hk:(k==p.1) with
  | true=>
   have e:k=p.1:=cB hk
   by_cases h:k'=k
   ·simp [eV,h]
   ·have h2:(k'==p.1)=false:=by rw [← e]; simpa using h
    have h3:(k'==k)=false:=by simpa using h
    simp only [bO,eV,List.find?_cons,h2,h3,if_neg h]
  | false=>
   show eV (p::ic r k x) k'=_
   cases hp:(k'==p.1) with
   | true=>
    have e:k'=p.1:=cB hp
    have h:k'≠k:=by intro h; rw [← h,hp] at hk; cases hk
    simp only [eV,List.find?_cons,hp,if_neg h]
   | false=>
    simp only [eV,List.find?_cons,hp] at ih ⊢
    exact ih

def pz:List (Sem zf)→List ((Int×Int×zn)×Int)
 | []=>[]
 | v::r=>ic (pz r) v (IntKind.i64.wrap (eV (pz r) v+1))
theorem En:∀ l:List (Sem zf),(pz l).length≤l.length
 | []=>aM _
 | v::r=>by
  rw [pz,← mB,xC]
  have:=Pd (pz r) v
  have:=En r
  simp; omega
theorem vZ:∀ (l:List (Sem zf)) (v:Sem zf),l.length≤1000000→eV (pz l) v=(l.count v:Int)
 | [],v,_=>by simp [pz,eV]
 | u::r,v,h=>by
  simp only [lp] at h
  have h1:=vZ r u (by omega)
  have h2:=vZ r v (by omega)
  have h3:r.count u≤r.length:=List.count_le_length
  rw [pz,AT,h1,h2,zH _ (by unfold zF; omega)]
  by_cases e:v=u
  ·subst e; simp
  ·have e':¬ (u==v)=true:=by intro h; exact e (cB h).symm
   rw [if_neg e,List.count_cons,if_neg e']; rfl

theorem EO {x:Sem zh} {c:Int} (hc:∀ r∈x.2,zE c (length r)=true) (hl:x.2.length≤1000000):∃ b,tq x c=some (b,())∧(b=false↔A6 x.2 c):=by
  let key:Nat→Sem zf:=fun i=>aS c (getD x.2 i (zj zf.sl))
  let mm:Nat→List ((Int×Int×zn)×Int):=fun i=>pz (((x.2.take i).map (aS c)).reverse)
  have hm:∀ i,i < x.2.length→mm (i+1)=ic (mm i) (key i) (IntKind.i64.wrap (eV (mm i) (key i)+1)):=by
    intro i hi
    show pz (((x.2.take (i+1)).map (aS c)).reverse)=_
    rw [List.take_succ_eq_append_getElem hi,List.map_append,List.reverse_append]
    show pz (aS c x.2[i]::_)=_
    rw [pz]
    have:key i=aS c x.2[i]:=by
      show aS c (getD x.2 i _)=_
      rw [aB,zI hi,bA]
    rw [this]
    rfl
  have hlen:∀ i,i≤x.2.length→(mm i).length≤i:=by
    intro i hi
    have:=En (((x.2.take i).map (aS c)).reverse)
    simp at this
    have h2:(mm i).length=(pz (((x.2.take i).map (aS c)).reverse)).length:=rfl
    simp at h2
    omega
  have hget:∀ i v,i≤x.2.length→eV (mm i) v=((((x.2.take i).map (aS c)).count v:Nat):Int):=by
    intro i v hi
    show eV (pz _) v=_
    rw [vZ _ _ (by simp; omega),List.count_reverse]
  have hf:=K7 (t:=sx) (Φ:=fun r=>ae r.2 [Sh.bool] r.1=some (true,())) 1 (fun i=>.h3 c x.2 (x.2.length:Int) (i:Int) (mm i)) (fun i=>(key i).1≠0→((x.2.take i).map (aS c)).count (key i)=0) x.2.length (by
    intro i hi _
    have k0:getD x.2 (i:Int).toNat (zj zf.sl)=getD x.2 i (zj zf.sl):=by rw [bl]
    have k1:getD x.2 i (zj zf.sl)=x.2[i]:=by rw [aB,zI hi,bA]
    have k2:zE c (length x.2[i])=true:=hc _ (cx hi)
    have k3:key i=aS c x.2[i]:=by show aS c (getD x.2 i _)=_; rw [k1]
    have k4:zE ((jm (mm i) (key i):Nat):Int) (gT (mm i) (key i)).length=true:=zG (Sa _ _)
    have k5:decide ((mm i).length≤1073741824)=true:=aZ (by have:=hlen i (by omega); omega)
    have k6:ie (gT (mm i) (key i)) ((jm (mm i) (key i):Nat):Int).toNat (IntKind.i64.wrap (eV (mm i) (key i)+1))=mm (i+1):=by rw [bl,mB,hm i hi]
    have k7:eV (mm (i+1)) (key i)=((((x.2.take i).map (aS c)).count (key i)+1:Nat):Int):=by
      have h3:((x.2.take i).map (aS c)).count (key i)≤((x.2.take i).map (aS c)).length:=List.count_le_length
      simp only [yr,List.length_take] at h3
      rw [hm i hi,AT,if_pos rfl,hget i _ (by omega),zH _ (by unfold zF; omega)]
    have hv:(sx (.h3 c x.2 (x.2.length:Int) (i:Int) (mm i))).val=if (bif (key i).1 != 0 then decide (((((x.2.take i).map (aS c)).count (key i)+1:Nat):Int) > 1) else false)=true then some (.inr (.kb true,[])) else some (.inl (.h3 c x.2 (x.2.length:Int) ((i+1:Nat):Int) (mm (i+1)))):=by
      show (sx (.h3 c x.2 _ _ _)).val=_
      unfold sx
      simp only [k0,k1]
      rw [show getD x.2[i] (Int.toNat c) (zj zf)=key i from k3.symm]
      simp only [Tr.val,zW hi,zG hi,k2,k4,k5,if_true,k6,k7]
      rw [zH i (by unfold zF; omega)]
    by_cases h1:(key i).1=0
    · refine .inl ⟨fun h=>absurd h1 h,aI.of ?_⟩
      rw [hv,if_neg (by simp [h1])]
    · by_cases h2:((x.2.take i).map (aS c)).count (key i)=0
      · refine .inl ⟨fun _=>h2,aI.of ?_⟩
        rw [hv,if_neg (by rw [h2]; simp)]
      · refine .inr ⟨fun h => h2 (h h1),(.kb true,[]),bL.of ?_,rfl⟩
        rw [hv, if_pos (by have:((key i).1 != 0)=true:=by simpa using h1
                           rw [this]; simp only [bO,zZ]; omega)])
  have hu:(∀ i,i < x.2.length→(key i).1≠0→((x.2.take i).map (aS c)).count (key i)=0)↔A6 x.2 c:=by
    unfold A6
    rw [List.pairwise_iff_getElem]
    constructor
    · intro h j i hj hi hji hne e
      have k3:key i=aS c x.2[i]:=by show aS c (getD x.2 i _)=_; rw [aB,zI hi,bA]
      have:=h i hi (by rw [k3,← e]; exact hne)
      rw [List.count_eq_zero,k3,← e] at this
      exact this (fD.2 ⟨_,List.mem_take_iff_getElem.2 ⟨j,by omega,rfl⟩,rfl⟩)
    · intro h i hi hne
      have k3:key i=aS c x.2[i]:=by show aS c (getD x.2 i _)=_; rw [aB,zI hi,bA]
      rw [List.count_eq_zero]
      intro hmem
      obtain ⟨r,hr,e⟩:=fD.1 hmem
      obtain ⟨j,hj,rfl⟩:=List.mem_take_iff_getElem.1 hr
      rw [k3] at e hne
      exact h j i (by omega) hi (by omega) (by rw [e]; exact hne) e
  have hgo:(Ua x c).val=some (.inl (.h3 c x.2 (x.2.length:Int) ((0:Nat):Int) (mm 0))):=rfl
  rcases hf with ⟨h1,h2⟩ | ⟨h1,r,h2,h3⟩
  · refine ⟨false,?_,fun _=>hu.1 h1,fun _=>rfl⟩
    refine bn hgo (h2.ends (bL.of (r:=(.kb false,[])) ?_)) (by omega) rfl
    show (sx (.h3 c x.2 _ _ _)).val=_
    simp only [sx,Tr.val,z8]
    rfl
  · refine ⟨true,bn hgo h2 (by omega) h3,⟨fun h=>?_,fun h=>absurd (hu.2 h) h1⟩⟩
    cases h

theorem bP {α:Type} {l:List α} {d:α} {Q:α→Prop}:(∀ i,i < l.length→Q (l.getD i d))↔∀ x∈l,Q x:=by
 constructor
 ·intro h x hx
  obtain ⟨i,hi,rfl⟩:=Dj hx
  have:=h i hi
  rwa [aB,zI hi,bA] at this
 ·intro h i hi
  rw [aB,zI hi,bA]
  exact h _ (cx hi)
theorem bc {α:Type} {l:List α} {d:α} {i:Nat} (hi:i < l.length):l.getD i d∈l:=by
 rw [aB,zI hi,bA]
 exact cx hi
theorem qf (i:Nat) (h:i < zF):IntKind.i64.wrap (((i+1:Nat):Int) - 1)=(i:Int):=by
 have:zF=9223372036854775807:=rfl
 rw [rL]
 omega

def KQ (a b:Sem zf):Prop:=LT.lt (α:=Int) (aR a b) 0
theorem Jl {a b:Sem zf}:decide (GE.ge (α:=Int) (aR a b) 0)=true↔¬ KQ a b:=by
 unfold KQ
 rw [zZ]
 omega

structure cQ (x:Sem zh):Prop where
 may:gS x.1=true
 few:x.2.length≤200
 fits:∀ r∈x.2,jD x.1 r=(0:Int)
 key:A6 x.2 x.1.2.2.1
 uniq:∀ u∈x.1.2.2.2.1,A6 x.2 u
 rise:∀ i,i < x.2.length - 1→KQ (aS x.1.2.2.1 (getD x.2 i (zj zf.sl))) (aS x.1.2.2.1 (getD x.2 (i+1) (zj zf.sl)))

def ZE (r:zV):Prop:=∃ e:Int,r=(.int .i64 e,[])∧e≠0

theorem sk {x:Sem zh} (hs:eR x):∃ e:Int,kW x=some (e,())∧(e=0↔cQ x):=by
 have hsw:=hs.rw
 have hsu:=hs.uq
 have fin:∀ {k:Nat} {r:zV},bL fB k (.h6 x.2 (x.2.length:Int) ((0:Nat):Int) (x,())) r→k≤100000000→(J4 x).val=some (.inl (.h6 x.2 (x.2.length:Int) ((0:Nat):Int) (x,())))→∀ e:Int,r=(.int .i64 e,[])→kW x=some (e,()):=by
  intro k r h hk hi e he
  subst he
  exact bn hi h hk rfl
 by_cases hm:gS x.1=true
 case neg=>
  refine ⟨1,?_,fun h=>(by cases h),fun h=>absurd h.may hm⟩
  unfold kW zT cd
  simp only [J4,zo,Tr.val]
  rw [if_pos (by simpa using hm)]
  rfl
 by_cases hw:x.2.length≤200
 case neg=>
  refine ⟨13,?_,fun h=>(by cases h),fun h=>absurd h.few hw⟩
  unfold kW zT cd
  simp only [J4,zo,Tr.val]
  rw [if_neg (by simpa using hm),if_pos (by simp; omega)]
  rfl
 have hi:(J4 x).val=some (.inl (.h6 x.2 (x.2.length:Int) ((0:Nat):Int) (x,()))):=by
  simp only [J4,zo,Tr.val]
  rw [if_neg (by simpa using hm),if_neg (by simp; omega)]
  rfl
 obtain ⟨hkc,hrc,huc,_,_⟩:=gu hm
 have h6:=K7 (t:=fB) (Φ:=ZE) 1 (fun i=>.h6 x.2 (x.2.length:Int) (i:Int) (x,())) (fun i=>jD x.1 (getD x.2 i (zj zf.sl))=(0:Int)) x.2.length (by
  intro i hi _
  have hv:(fB (.h6 x.2 (x.2.length:Int) (i:Int) (x,()))).val=if (jD x.1 (getD x.2 i (zj zf.sl)) != 0)=true then some (.inr (.int .i64 (jD x.1 (getD x.2 i (zj zf.sl))),[])) else some (.inl (.h6 x.2 (x.2.length:Int) ((i+1:Nat):Int) (x,()))):=by
   show (fB (.h6 x.2 _ _ _)).val=_
   unfold fB
   simp only [zo,Tr.val,zW hi,zG hi,if_true,bl]
   rw [zH i (by unfold zF; omega)]
  by_cases h:jD x.1 (getD x.2 i (zj zf.sl))=(0:Int)
  ·refine .inl ⟨h,aI.of ?_⟩
   rw [hv,if_neg (by rw [h]; simp)]
  ·refine .inr ⟨h,_,bL.of (by rw [hv,if_pos (by simpa using h)]),_,rfl,h⟩)
 rcases h6 with ⟨hf,h6⟩ | ⟨hf,r,h6,e,he,hne⟩
 case inr=>
  exact ⟨e,fin h6 (by omega) hi e he,fun h=>absurd h hne,fun h=>absurd ((bP (Q:=fun r=>jD x.1 r=(0:Int))).2 h.fits) hf⟩
 have hfits:=(bP (Q:=fun r=>jD x.1 r=(0:Int))).1 hf
 have hlen:∀ r∈x.2,length r=x.1.2.1.length:=fun r hr=>lZ (by simpa using hfits r hr)
 have hin:∀ c,Fi c x.1.2.1.length→∀ r∈x.2,zE c (length r)=true:=fun c hc r hr=>by
  rw [hlen r hr]; exact BN hc
 obtain ⟨b,hb,hbu⟩:=EO (x:=x) (c:=x.1.2.2.1) (hin _ hkc) (by omega)
 have hbc:m9 x x.1.2.2.1=true:=by unfold m9; rw [hb]; rfl
 have hbv:rq x x.1.2.2.1=b:=by unfold rq; rw [hb]; rfl
 have hv6:(fB (.h6 x.2 (x.2.length:Int) (x.2.length:Int) (x,()))).val=if b=true then some (.inr (.int .i64 7,[])) else some (.inl (.h15 x.1.2.2.2.1 (x.1.2.2.2.1.length:Int) ((0:Nat):Int) (x,()))):=by
  show (fB (.h6 x.2 _ _ _)).val=_
  unfold fB
  simp only [zo,Tr.val,z8,hbc,hbv,if_true]
  rfl
 by_cases hb1:b=true
 ·refine ⟨7,fin (h6.ends (bL.of (by rw [hv6,if_pos hb1]))) (by omega) hi 7 rfl,fun h=>(by cases h),fun h=>?_⟩
  have:=hbu.2 h.key
  rw [hb1] at this; cases this
 have hkey:A6 x.2 x.1.2.2.1:=hbu.1 (by simpa using hb1)
 have g15:aI fB _ (.h6 x.2 (x.2.length:Int) ((0:Nat):Int) (x,())) _:=h6.trans (aI.of (by rw [hv6,if_neg hb1]))
 have h15:=K7 (t:=fB) (Φ:=ZE) 1 (fun i=>.h15 x.1.2.2.2.1 (x.1.2.2.2.1.length:Int) (i:Int) (x,())) (fun i=>A6 x.2 (getD x.1.2.2.2.1 i (zj zg))) x.1.2.2.2.1.length (by
  intro i hi _
  obtain ⟨b,hb,hbu⟩:=EO (x:=x) (c:=getD x.1.2.2.2.1 i (zj zg)) (hin _ (huc _ (bc hi))) (by omega)
  have hbc:m9 x (getD x.1.2.2.2.1 i (zj zg))=true:=by unfold m9; rw [hb]; rfl
  have hbv:rq x (getD x.1.2.2.2.1 i (zj zg))=b:=by unfold rq; rw [hb]; rfl
  have hv:(fB (.h15 x.1.2.2.2.1 (x.1.2.2.2.1.length:Int) (i:Int) (x,()))).val=if b=true then some (.inr (.int .i64 7,[])) else some (.inl (.h15 x.1.2.2.2.1 (x.1.2.2.2.1.length:Int) ((i+1:Nat):Int) (x,()))):=by
   show (fB (.h15 _ _ _ _)).val=_
   unfold fB
   simp only [zo,Tr.val,zW hi,zG hi,if_true,bl,hbc,hbv]
   rw [zH i (by unfold zF; omega)]
  by_cases h:b=true
  ·refine .inr ⟨fun hu=>?_,_,bL.of (by rw [hv,if_pos h]),7,rfl,by decide⟩
   have:=hbu.2 hu
   rw [h] at this; cases this
  ·exact .inl ⟨hbu.1 (by simpa using h),aI.of (by rw [hv,if_neg h])⟩)
 rcases h15 with ⟨hq,h15⟩ | ⟨hq,r,h15,e,he,hne⟩
 case inr=>
  exact ⟨e,fin (g15.ends h15) (by omega) hi e he,fun h=>absurd h hne,fun h=>absurd ((bP (Q:=fun u=>A6 x.2 u)).2 h.uniq) hq⟩
 have huniq:=(bP (Q:=fun u=>A6 x.2 u)).1 hq
 have hv15:(fB (.h15 x.1.2.2.2.1 (x.1.2.2.2.1.length:Int) (x.1.2.2.2.1.length:Int) (x,()))).val=some (.inl (.h21 ((0+1:Nat):Int) (x,()))):=by
  show (fB (.h15 _ _ _ _)).val=_
  unfold fB
  simp only [Tr.val,z8]
  rfl
 have g21:=(g15.trans h15).trans (aI.of hv15)
 have h21:=K7 (t:=fB) (Φ:=ZE) 1 (fun i=>.h21 ((i+1:Nat):Int) (x,())) (fun i=>KQ (aS x.1.2.2.1 (getD x.2 i (zj zf.sl))) (aS x.1.2.2.1 (getD x.2 (i+1) (zj zf.sl)))) (x.2.length - 1) (by
  intro i hi _
  have h1:i < x.2.length:=by omega
  have h2:i+1 < x.2.length:=by omega
  have hv:(fB (.h21 ((i+1:Nat):Int) (x,()))).val=if decide (GE.ge (α:=Int) (aR (aS x.1.2.2.1 (getD x.2 i (zj zf.sl))) (aS x.1.2.2.1 (getD x.2 (i+1) (zj zf.sl)))) 0)=true then some (.inr (.int .i64 15,[])) else some (.inl (.h21 ((i+1+1:Nat):Int) (x,()))):=by
   show (fB (.h21 _ _)).val=_
   unfold fB
   simp only [qf i (by unfold zF; omega)]
   simp only [Tr.val,zW h2,zG h2,zG h1,bl,hin _ hkc _ (bc h1),hin _ hkc _ (bc h2),if_true]
   rw [zH (i+1) (by unfold zF; omega)]
  by_cases h:KQ (aS x.1.2.2.1 (getD x.2 i (zj zf.sl))) (aS x.1.2.2.1 (getD x.2 (i+1) (zj zf.sl)))
  ·exact .inl ⟨h,aI.of (by rw [hv,if_neg (fun h2=>Jl.1 h2 h)])⟩
  ·exact .inr ⟨h,_,bL.of (by rw [hv,if_pos (Jl.2 h)]),15,rfl,by decide⟩)
 rcases h21 with ⟨hr,h21⟩ | ⟨hr,r,h21,e,he,hne⟩
 case inr=>
  exact ⟨e,fin (g21.ends h21) (by omega) hi e he,fun h=>absurd h hne,fun h=>absurd h.rise hr⟩
 have hv21:(fB (.h21 ((x.2.length - 1+1:Nat):Int) (x,()))).val=some (.inr (.int .i64 0,[])):=by
  show (fB (.h21 _ _)).val=_
  unfold fB
  simp only [Tr.val]
  rw [if_neg (by simp; omega)]
 exact ⟨0,fin (g21.ends (h21.ends (bL.of hv21))) (by omega) hi 0 rfl,fun _=>⟨hm,hw,hfits,hkey,huniq,hr⟩,fun _=>rfl⟩

abbrev c9 (db:List (Sem zh)) (s:zn):Sem zh:=getD db (Int.toNat (aF db s)) (zj zh)
def C1 (db:List (Sem zh)):Prop:=∀ x∈db,∀ f∈x.1.2.2.2.2.1,LE.le (α:=Int) 0 (aF db f.2)∧∀ row∈x.2,(aS f.1 row).1≠0→lI (c9 db f.2) (c9 db f.2).1.2.2.1 (aS f.1 row)=true

def Zy (r:zV):Prop:=r=(.kb false,[])

theorem QF {db:List (Sem zh)} {x:Sem zh} {f:Sem zp} {i k:Nat} (hf:LE.le (α:=Int) 0 (aF db f.2)) (hc:∀ row∈x.2,zE f.1 (length row)=true) (hl:x.2.length≤1000):
  ((∀ j,j < x.2.length→(aS f.1 (getD x.2 j (zj zf.sl))).1≠0→lI (c9 db f.2) (c9 db f.2).1.2.2.1 (aS f.1 (getD x.2 j (zj zf.sl)))=true)∧
   aI fa (x.2.length * 1) (.h11 db (aF db f.2) db (db.length:Int) (i:Int) x.1.2.2.2.2.1 (x.1.2.2.2.2.1.length:Int) (k:Int) x.2 (x.2.length:Int) ((0:Nat):Int) (x,()) (f,()))
    (.h11 db (aF db f.2) db (db.length:Int) (i:Int) x.1.2.2.2.2.1 (x.1.2.2.2.2.1.length:Int) (k:Int) x.2 (x.2.length:Int) (x.2.length:Int) (x,()) (f,())))∨
  ((¬ ∀ j,j < x.2.length→(aS f.1 (getD x.2 j (zj zf.sl))).1≠0→lI (c9 db f.2) (c9 db f.2).1.2.2.1 (aS f.1 (getD x.2 j (zj zf.sl)))=true)∧
   ∃ r,bL fa (x.2.length * 1) (.h11 db (aF db f.2) db (db.length:Int) (i:Int) x.1.2.2.2.2.1 (x.1.2.2.2.2.1.length:Int) (k:Int) x.2 (x.2.length:Int) ((0:Nat):Int) (x,()) (f,())) r∧Zy r):=by
 refine K7 (t:=fa) (Φ:=Zy) 1 (fun j=>.h11 db (aF db f.2) db (db.length:Int) (i:Int) x.1.2.2.2.2.1 (x.1.2.2.2.2.1.length:Int) (k:Int) x.2 (x.2.length:Int) (j:Int) (x,()) (f,())) (fun j=>(aS f.1 (getD x.2 j (zj zf.sl))).1≠0→lI (c9 db f.2) (c9 db f.2).1.2.2.1 (aS f.1 (getD x.2 j (zj zf.sl)))=true) x.2.length ?_
 intro j hj _
 have hv:(fa (.h11 db (aF db f.2) db (db.length:Int) (i:Int) x.1.2.2.2.2.1 (x.1.2.2.2.2.1.length:Int) (k:Int) x.2 (x.2.length:Int) (j:Int) (x,()) (f,()))).val=
   if (bif (aS f.1 (getD x.2 j (zj zf.sl))).1 != 0 then !lI (c9 db f.2) (c9 db f.2).1.2.2.1 (aS f.1 (getD x.2 j (zj zf.sl))) else false)=true then some (.inr (.kb false,[])) else
   some (.inl (.h11 db (aF db f.2) db (db.length:Int) (i:Int) x.1.2.2.2.2.1 (x.1.2.2.2.2.1.length:Int) (k:Int) x.2 (x.2.length:Int) ((j+1:Nat):Int) (x,()) (f,()))):=by
  show (fa (.h11 _ _ _ _ _ _ _ _ _ _ _ _ _)).val=_
  unfold fa
  simp only [zo,Tr.val,zW hj,zG hj,hc _ (bc hj),kf hf,bl,if_true,rN]
  rw [if_pos (by cases ((getD (getD x.2 j (zj zf.sl)) (Int.toNat f.1) (zj zf)).1 != 0) <;> rfl)]
  rw [zH j (by unfold zF; omega)]
 by_cases h1:(aS f.1 (getD x.2 j (zj zf.sl))).1=0
 ·exact .inl ⟨fun h=>absurd h1 h,aI.of (by rw [hv,if_neg (by rw [h1]; simp)])⟩
 ·have h1':((aS f.1 (getD x.2 j (zj zf.sl))).1 != 0)=true:=by simpa using h1
  by_cases h2:lI (c9 db f.2) (c9 db f.2).1.2.2.1 (aS f.1 (getD x.2 j (zj zf.sl)))=true
  ·exact .inl ⟨fun _=>h2,aI.of (by rw [hv,if_neg (by rw [h2,h1']; simp)])⟩
  ·exact .inr ⟨fun h=>h2 (h h1),_,bL.of (by rw [hv,if_pos (by rw [h1']; simpa using h2)]),rfl⟩

theorem Xb {db:List (Sem zh)} {x:Sem zh} {i:Nat} (hc:∀ f∈x.1.2.2.2.2.1,∀ row∈x.2,zE f.1 (length row)=true) (hl:x.2.length≤1000) (hr:x.1.2.2.2.2.1.length≤1000):
  let P:Nat→Prop:=fun k=>LE.le (α:=Int) 0 (aF db (getD x.1.2.2.2.2.1 k (zj zp)).2)∧∀ row∈x.2,(aS (getD x.1.2.2.2.2.1 k (zj zp)).1 row).1≠0→lI (c9 db (getD x.1.2.2.2.2.1 k (zj zp)).2) (c9 db (getD x.1.2.2.2.2.1 k (zj zp)).2).1.2.2.1 (aS (getD x.1.2.2.2.2.1 k (zj zp)).1 row)=true
  ((∀ k,k < x.1.2.2.2.2.1.length→P k)∧aI fa (x.1.2.2.2.2.1.length * 1002) (.h5 db db (db.length:Int) (i:Int) x.1.2.2.2.2.1 (x.1.2.2.2.2.1.length:Int) ((0:Nat):Int) (x,())) (.h5 db db (db.length:Int) (i:Int) x.1.2.2.2.2.1 (x.1.2.2.2.2.1.length:Int) (x.1.2.2.2.2.1.length:Int) (x,())))∨
  ((¬ ∀ k,k < x.1.2.2.2.2.1.length→P k)∧∃ r,bL fa (x.1.2.2.2.2.1.length * 1002) (.h5 db db (db.length:Int) (i:Int) x.1.2.2.2.2.1 (x.1.2.2.2.2.1.length:Int) ((0:Nat):Int) (x,())) r∧Zy r):=by
 intro P
 refine K7 (t:=fa) (Φ:=Zy) 1002 (fun k=>.h5 db db (db.length:Int) (i:Int) x.1.2.2.2.2.1 (x.1.2.2.2.2.1.length:Int) (k:Int) (x,())) P x.1.2.2.2.2.1.length ?_
 intro k hk _
 have hv:(fa (.h5 db db (db.length:Int) (i:Int) x.1.2.2.2.2.1 (x.1.2.2.2.2.1.length:Int) (k:Int) (x,()))).val=
   if decide (LT.lt (α:=Int) (aF db (getD x.1.2.2.2.2.1 k (zj zp)).2) 0)=true then some (.inr (.kb false,[])) else
   some (.inl (.h11 db (aF db (getD x.1.2.2.2.2.1 k (zj zp)).2) db (db.length:Int) (i:Int) x.1.2.2.2.2.1 (x.1.2.2.2.2.1.length:Int) (k:Int) x.2 (x.2.length:Int) ((0:Nat):Int) (x,()) (getD x.1.2.2.2.2.1 k (zj zp),()))):=by
  show (fa (.h5 _ _ _ _ _ _ _ _)).val=_
  unfold fa
  simp only [Tr.val,zW hk,zG hk,bl,if_true]
  rfl
 by_cases h1:LE.le (α:=Int) 0 (aF db (getD x.1.2.2.2.2.1 k (zj zp)).2)
 ·have g1:=aI.of (t:=fa) (s:=.h5 db db (db.length:Int) (i:Int) x.1.2.2.2.2.1 (x.1.2.2.2.2.1.length:Int) (k:Int) (x,())) (by rw [hv,if_neg (by rw [zZ]; omega)])
  rcases QF (db:=db) (x:=x) (f:=getD x.1.2.2.2.2.1 k (zj zp)) (i:=i) (k:=k) h1 (hc _ (bc hk)) hl with ⟨h2,h3⟩ | ⟨h2,r,h3,h4⟩
  ·have hv2:(fa (.h11 db (aF db (getD x.1.2.2.2.2.1 k (zj zp)).2) db (db.length:Int) (i:Int) x.1.2.2.2.2.1 (x.1.2.2.2.2.1.length:Int) (k:Int) x.2 (x.2.length:Int) (x.2.length:Int) (x,()) (getD x.1.2.2.2.2.1 k (zj zp),()))).val=
     some (.inl (.h5 db db (db.length:Int) (i:Int) x.1.2.2.2.2.1 (x.1.2.2.2.2.1.length:Int) ((k+1:Nat):Int) (x,()))):=by
    show (fa (.h11 _ _ _ _ _ _ _ _ _ _ _ _ _)).val=_
    unfold fa
    simp only [Tr.val,z8]
    rw [zH k (by unfold zF; omega)]
    rfl
   refine .inl ⟨⟨h1,?_⟩,((g1.trans h3).trans (aI.of hv2)).mono (by omega)⟩
   exact (bP (Q:=fun row=>(aS (getD x.1.2.2.2.2.1 k (zj zp)).1 row).1≠0→lI (c9 db (getD x.1.2.2.2.2.1 k (zj zp)).2) (c9 db (getD x.1.2.2.2.2.1 k (zj zp)).2).1.2.2.1 (aS (getD x.1.2.2.2.2.1 k (zj zp)).1 row)=true)).1 h2
  ·refine .inr ⟨fun h=>h2 ?_,r,(g1.ends h3).mono (by omega),h4⟩
   exact (bP (Q:=fun row=>(aS (getD x.1.2.2.2.2.1 k (zj zp)).1 row).1≠0→lI (c9 db (getD x.1.2.2.2.2.1 k (zj zp)).2) (c9 db (getD x.1.2.2.2.2.1 k (zj zp)).2).1.2.2.1 (aS (getD x.1.2.2.2.2.1 k (zj zp)).1 row)=true)).2 h.2
 ·exact .inr ⟨fun h=>h1 h.1,_,(bL.of (by rw [hv,if_pos (by rw [zZ]; omega)])).mono (by omega),rfl⟩

theorem rR {db:List (Sem zh)} (hc:∀ x∈db,∀ f∈x.1.2.2.2.2.1,∀ row∈x.2,zE f.1 (length row)=true) (hs:∀ x∈db,eR x) (hl:db.length≤13):∃ b,oZ db=some (b,())∧(b=true↔C1 db):=by
 have h2:=K7 (t:=fa) (Φ:=Zy) 1010000 (fun i=>.h2 db db (db.length:Int) (i:Int)) (fun i=>∀ f∈(getD db i (zj zh)).1.2.2.2.2.1,LE.le (α:=Int) 0 (aF db f.2)∧∀ row∈(getD db i (zj zh)).2,(aS f.1 row).1≠0→lI (c9 db f.2) (c9 db f.2).1.2.2.1 (aS f.1 row)=true) db.length (by
  intro i hi _
  have hm:=bc (d:=zj zh) hi
  have hS:=hs _ hm
  have s1:=hS.rf
  have s2:=hS.rw
  have hv:(fa (.h2 db db (db.length:Int) (i:Int))).val=some (.inl (.h5 db db (db.length:Int) (i:Int) (getD db i (zj zh)).1.2.2.2.2.1 ((getD db i (zj zh)).1.2.2.2.2.1.length:Int) ((0:Nat):Int) (getD db i (zj zh),()))):=by
   show (fa (.h2 _ _ _ _)).val=_
   unfold fa
   simp only [Tr.val,zW hi,zG hi,bl,if_true]
   rfl
  have g1:=aI.of hv
  rcases Xb (db:=db) (x:=getD db i (zj zh)) (i:=i) (hc _ hm) s2 s1 with ⟨h2,h3⟩ | ⟨h2,r,h3,h4⟩
  ·have hv2:(fa (.h5 db db (db.length:Int) (i:Int) (getD db i (zj zh)).1.2.2.2.2.1 ((getD db i (zj zh)).1.2.2.2.2.1.length:Int) ((getD db i (zj zh)).1.2.2.2.2.1.length:Int) (getD db i (zj zh),()))).val=some (.inl (.h2 db db (db.length:Int) ((i+1:Nat):Int))):=by
    show (fa (.h5 _ _ _ _ _ _ _ _)).val=_
    unfold fa
    simp only [Tr.val,z8]
    rw [zH i (by unfold zF; omega)]
    rfl
   refine .inl ⟨?_,((g1.trans h3).trans (aI.of hv2)).mono (by omega)⟩
   exact (bP (Q:=fun f:Sem zp=>LE.le (α:=Int) 0 (aF db f.2)∧∀ row∈(getD db i (zj zh)).2,(aS f.1 row).1≠0→lI (c9 db f.2) (c9 db f.2).1.2.2.1 (aS f.1 row)=true)).1 h2
  ·refine .inr ⟨fun h=>h2 ?_,r,(g1.ends h3).mono (by omega),h4⟩
   exact (bP (Q:=fun f:Sem zp=>LE.le (α:=Int) 0 (aF db f.2)∧∀ row∈(getD db i (zj zh)).2,(aS f.1 row).1≠0→lI (c9 db f.2) (c9 db f.2).1.2.2.1 (aS f.1 row)=true)).2 h)
 have hb:(∀ i,i < db.length→∀ f∈(getD db i (zj zh)).1.2.2.2.2.1,LE.le (α:=Int) 0 (aF db f.2)∧∀ row∈(getD db i (zj zh)).2,(aS f.1 row).1≠0→lI (c9 db f.2) (c9 db f.2).1.2.2.1 (aS f.1 row)=true)↔C1 db:=
  bP (Q:=fun x:Sem zh=>∀ f∈x.1.2.2.2.2.1,LE.le (α:=Int) 0 (aF db f.2)∧∀ row∈x.2,(aS f.1 row).1≠0→lI (c9 db f.2) (c9 db f.2).1.2.2.1 (aS f.1 row)=true)
 have hi:(zeq db).val=some (.inl (.h2 db db (db.length:Int) ((0:Nat):Int))):=rfl
 rcases h2 with ⟨h2,h3⟩ | ⟨h2,r,h3,h4⟩
 ·refine ⟨true,bn hi (h3.ends (bL.of (r:=(.kb true,[])) ?_)) (by omega) rfl,fun _=>hb.1 h2,fun _=>rfl⟩
  show (fa (.h2 _ _ _ _)).val=_
  unfold fa
  simp only [Tr.val,z8]
  rfl
 ·unfold Zy at h4
  subst h4
  exact ⟨false,bn hi h3 (by omega) rfl,fun h=>(by cases h),fun h=>absurd (hb.2 h) h2⟩

structure dS (db:List (Sem zh)):Prop where
 few:db.length≤12
 names:∀ i,i < db.length - 1→Op.bytesLess (getD db i (zj zh)).1.1 (getD db (i+1) (zj zh)).1.1=true
 rels:∀ x∈db,cQ x
 bound:C1 db

theorem cQ.cols {x:Sem zh} (h:cQ x):∀ f∈x.1.2.2.2.2.1,∀ row∈x.2,zE f.1 (length row)=true:=by
 intro f hf row hr
 obtain ⟨_,h1,_,_,_⟩:=gu h.may
 rw [lZ (by simpa using h.fits row hr)]
 exact BN (h1 f hf)

theorem rS {db:List (Sem zh)} (hs:∀ x∈db,eR x):∃ e:Int,o4 db=some (e,())∧(e=0↔dS db):=by
 by_cases hw:db.length≤12
 case neg=>
  refine ⟨13,?_,fun h=>(by cases h),fun h=>absurd h.few hw⟩
  unfold o4 zT cd
  simp only [Rh,Tr.val]
  rw [if_pos (by simp; omega)]
  rfl
 have hi:(Rh db).val=some (.inl (.h4 db ((0+1:Nat):Int))):=by
  simp only [Rh,Tr.val]
  rw [if_neg (by simp; omega)]
  rfl
 have h4:=K7 (t:=k9) (Φ:=ZE) 1 (fun i=>.h4 db ((i+1:Nat):Int)) (fun i=>Op.bytesLess (getD db i (zj zh)).1.1 (getD db (i+1) (zj zh)).1.1=true) (db.length - 1) (by
  intro i hi _
  have h1:i < db.length:=by omega
  have h2:i+1 < db.length:=by omega
  have hv:(k9 (.h4 db ((i+1:Nat):Int))).val=if (!Op.bytesLess (getD db i (zj zh)).1.1 (getD db (i+1) (zj zh)).1.1)=true then some (.inr (.int .i64 15,[])) else some (.inl (.h4 db ((i+1+1:Nat):Int))):=by
   show (k9 (.h4 _ _)).val=_
   unfold k9
   simp only [qf i (by unfold zF; omega)]
   simp only [Tr.val,zW h2,zG h2,zG h1,bl,if_true]
   rw [zH (i+1) (by unfold zF; omega)]
  by_cases h:Op.bytesLess (getD db i (zj zh)).1.1 (getD db (i+1) (zj zh)).1.1=true
  ·exact .inl ⟨h,aI.of (by rw [hv,if_neg (by rw [h]; simp)])⟩
  ·exact .inr ⟨h,_,bL.of (by rw [hv,if_pos (by simpa using h)]),15,rfl,by decide⟩)
 rcases h4 with ⟨hn,h4⟩ | ⟨hn,r,h4,e,he,hne⟩
 case inr=>
  subst he
  exact ⟨e,bn hi h4 (by omega) rfl,fun h=>absurd h hne,fun h=>absurd h.names hn⟩
 have hv4:(k9 (.h4 db ((db.length - 1+1:Nat):Int))).val=some (.inl (.h9 db db (db.length:Int) ((0:Nat):Int))):=by
  show (k9 (.h4 _ _)).val=_
  unfold k9
  simp only [Tr.val]
  rw [if_neg (by simp; omega)]
  rfl
 have g9:=h4.trans (aI.of hv4)
 have h9:=K7 (t:=k9) (Φ:=ZE) 1 (fun i=>.h9 db db (db.length:Int) (i:Int)) (fun i=>cQ (getD db i (zj zh))) db.length (by
  intro i hi _
  obtain ⟨e,he,heq⟩:=sk (hs _ (bc (d:=zj zh) hi))
  have hc:m8 (getD db i (zj zh))=true:=by unfold m8; rw [he]; rfl
  have hv0:rp (getD db i (zj zh))=e:=by unfold rp; rw [he]; rfl
  have hv:(k9 (.h9 db db (db.length:Int) (i:Int))).val=if (e != 0)=true then some (.inr (.int .i64 e,[])) else some (.inl (.h9 db db (db.length:Int) ((i+1:Nat):Int))):=by
   show (k9 (.h9 _ _ _ _)).val=_
   unfold k9
   simp only [zo,Tr.val,zW hi,zG hi,bl,if_true,Prod.eta,hc,hv0]
   rw [zH i (by unfold zF; omega)]
  by_cases h:e=0
  ·exact .inl ⟨heq.1 h,aI.of (by rw [hv,if_neg (by rw [h]; simp)])⟩
  ·exact .inr ⟨fun hr=>h (heq.2 hr),_,bL.of (by rw [hv,if_pos (by simpa using h)]),e,rfl,h⟩)
 rcases h9 with ⟨hr,h9⟩ | ⟨hr,r,h9,e,he,hne⟩
 case inr=>
  subst he
  exact ⟨e,bn hi (g9.ends h9) (by omega) rfl,fun h=>absurd h hne,fun h=>absurd ((bP (Q:=cQ)).2 h.rels) hr⟩
 have hrels:=(bP (Q:=cQ)).1 hr
 obtain ⟨b,hb,hbb⟩:=rR (db:=db) (fun x hx=>(hrels x hx).cols) hs (by omega)
 have hc:mH db=true:=by unfold mH; rw [hb]; rfl
 have hv0:qm db=b:=by unfold qm; rw [hb]; rfl
 have hv9:(k9 (.h9 db db (db.length:Int) (db.length:Int))).val=if (!b)=true then some (.inr (.int .i64 10,[])) else some (.inr (.int .i64 0,[])):=by
  show (k9 (.h9 _ _ _ _)).val=_
  unfold k9
  simp only [Tr.val,z8,hc,hv0,if_true]
  rfl
 by_cases h:b=true
 ·exact ⟨0,bn hi (g9.ends (h9.ends (bL.of (by rw [hv9,if_neg (by rw [h]; simp)])))) (by omega) rfl,fun _=>⟨hw,hn,hrels,hbb.1 h⟩,fun _=>rfl⟩
 ·exact ⟨10,bn hi (g9.ends (h9.ends (bL.of (by rw [hv9,if_pos (by simpa using h)])))) (by omega) rfl,fun h=>(by cases h),fun hB=>absurd (hbb.2 hB.bound) h⟩
theorem kI {db:List (Sem zh)} (hs:∀ x∈db,eR x):sP db=true:=by
 obtain ⟨e,h,_⟩:=rS hs
 unfold sP; rw [h]; rfl
theorem qn {db:List (Sem zh)} (hs:∀ x∈db,eR x):n5 db=(0:Int)↔dS db:=by
 obtain ⟨e,h,h2⟩:=rS hs
 unfold n5; rw [h]; exact h2
set_option maxHeartbeats 1000000

theorem di:∀ s:zn,Op.bytesLess s s=false
 | []=>rfl
 | a::r=>by simp [Op.bytesLess,di r]
theorem gK {α:Type} (l:List α) (d:α) {i:Nat} (h:i < l.length):l.getD ((i:Int).toNat) d=l[i]:=by
 rw [bl,aB,zI h,bA]
theorem Mp {α:Type} (l:List α) (d:α) {i:Nat} (h:i < l.length):l.getD i d∈l:=by
 rw [aB,zI h,bA]
 exact cx h
theorem vO {α β:Type} (f:α→β) (p:β→Bool):∀ (l:List α) (i:Nat),zS p (l.map f) i=zS (fun x=>p (f x)) l i
 | [],_=>rfl
 | x::r,i=>by simp only [lQ,zS,vO f p r]
theorem D4 {db:List (Sem zh)} {s:zn} (h:(0:Int)≤aF db s):db.getD (Int.toNat (aF db s)) (zj zh)∈db:=by
 have:=kf h
 simp only [zE,aE,zZ] at this
 exact Mp _ _ (by omega)

theorem hJ:∀ {a b c:zn},Op.bytesLess a b=true→Op.bytesLess b c=true→Op.bytesLess a c=true
 | _,[],_,h,_=>by cases ‹zn› <;> simp [Op.bytesLess] at h
 | _,_::_,[],_,h=>by simp [Op.bytesLess] at h
 | [],_::_,_::_,_,_=>rfl
 | a::x,b::y,c::z,h,g=>by
  simp only [Op.bytesLess,uf,zZ,aE,eQ] at h g ⊢
  rcases h with h | ⟨rfl,h⟩
  ·rcases g with g | ⟨rfl,g⟩
   ·exact .inl (UInt8.lt_trans h g)
   ·exact .inl h
  ·rcases g with g | ⟨rfl,g⟩
   ·exact .inl g
   ·exact .inr ⟨rfl,hJ h g⟩

def Lx (p q:Int×Int×zn):Prop:=p.1 < q.1∨(p.1=q.1∧(p.2.1 < q.2.1∨(p.2.1=q.2.1∧Op.bytesLess p.2.2 q.2.2=true)))
theorem Lx.trans {p q r:Int×Int×zn} (h:Lx p q) (g:Lx q r):Lx p r:=by
 unfold Lx at *
 rcases h with h | ⟨h1,h | ⟨h2,h⟩⟩ <;> rcases g with g | ⟨g1,g | ⟨g2,g⟩⟩
 ·exact .inl (by omega)
 ·exact .inl (by omega)
 ·exact .inl (by omega)
 ·exact .inl (by omega)
 ·exact .inr ⟨by omega,.inl (by omega)⟩
 ·exact .inr ⟨by omega,.inl (by omega)⟩
 ·exact .inl (by omega)
 ·exact .inr ⟨by omega,.inl (by omega)⟩
 ·exact .inr ⟨by omega,.inr ⟨by omega,hJ h g⟩⟩
theorem Lx.irrefl {p:Int×Int×zn}:¬ Lx p p:=by
 unfold Lx
 rw [di]
 rintro (h | ⟨_,h | ⟨_,h⟩⟩)
 ·omega
 ·omega
 ·cases h
theorem Hy (a b:Int):JA a b=if a < b then -1 else if b < a then 1 else 0:=by
 show (if (a != a)=true then _ else if (b != b)=true then (1:Int) else if decide (a < b)=true then -1 else if decide (a > b)=true then 1 else 0)=_
 simp
theorem Lj (a b:Int):yz a b=if a < b then -1 else if b < a then 1 else 0:=Hy a b
theorem QQ (a b:zn):(Be a b=-1∧Op.bytesLess a b=true)∨(Be a b=0∧a=b)∨(Be a b=1∧Op.bytesLess a b=false):=by
 have:Be a b=if Op.bytesLess a b=true then -1 else if (!(Op.bytesLess a b||a==b))=true then 1 else 0:=by
  show (if (!a==a)=true then _ else if (!b==b)=true then (1:Int) else if Op.bytesLess a b=true then -1 else if (!(Op.bytesLess a b||a==b))=true then 1 else 0)=_
  simp
 rw [this]
 cases h:Op.bytesLess a b with
 | true=>exact .inl ⟨rfl,rfl⟩
 | false=>
  by_cases e:a=b
  ·exact .inr (.inl ⟨by simp [e],e⟩)
  ·exact .inr (.inr ⟨by simp [e],rfl⟩)
theorem Zb (k n k' n':Int) (s s':zn):(UL [JA k k',yz n n',Be s s'] < 0)↔Lx (k,n,s) (k',n',s'):=by
 show _↔(k < k'∨(k=k'∧(n < n'∨(n=n'∧Op.bytesLess s s'=true))))
 rw [Hy,Lj]
 simp only [UL]
 have irr:=di s'
 rcases Int.lt_trichotomy k k' with h | h | h
 ·simp [h]
 ·subst h
  rcases Int.lt_trichotomy n n' with g | g | g
  ·simp [g]
  ·subst g
   rcases QQ s s' with ⟨e,f⟩ | ⟨e,f⟩ | ⟨e,f⟩
   ·simp [e,f]
   ·subst f; simp [e,irr]
   ·simp [e,f]
  ·have:¬ n < n':=by omega
   have:n≠n':=by omega
   simp [*]
 ·have:¬ k < k':=by omega
  have:k≠k':=by omega
  simp [*]
theorem tI {a b:Sem zf}:KQ a b↔Lx (bz a) (bz b):=Zb (bz a).1 (bz a).2.1 (bz b).1 (bz b).2.1 (bz a).2.2 (bz b).2.2
theorem np {a b c:Sem zf} (h:KQ a b) (g:KQ b c):KQ a c:=tI.2 ((tI.1 h).trans (tI.1 g))
theorem oM {a:Sem zf}:¬ KQ a a:=fun h=>Lx.irrefl (tI.1 h)

theorem tr {α:Type} {R:α→α→Prop} (ht:∀ {a b c},R a b→R b c→R a c) {d:α}:∀ {l:List α},(∀ i,i < l.length - 1→R (l.getD i d) (l.getD (i+1) d))↔l.Pairwise R
 | []=>by simp
 | [a]=>by simp
 | a::b::r=>by
  have IH:=tr (R:=R) ht (d:=d) (l:=b::r)
  constructor
  ·intro h
   have h0:=h 0 (by simp)
   have h1:(b::r).Pairwise R:=IH.1 fun i hi=>h (i+1) (by simp only [lp] at hi ⊢; omega)
   refine List.pairwise_cons.2 ⟨fun x hx=>?_,h1⟩
   rcases dW.1 hx with rfl | hx
   ·exact h0
   ·exact ht h0 ((List.pairwise_cons.1 h1).1 x hx)
  ·intro h i hi
   obtain ⟨h0,h1⟩:=List.pairwise_cons.1 h
   cases i with
   | zero=>exact h0 b (by simp)
   | succ i=>exact IH.2 h1 i (by simp only [lp] at hi ⊢; omega)

def M0 (k:Int) (a b:List (Sem zf)):Prop:=KQ (aS k a) (aS k b)
theorem cQ.pw {x:Sem zh} (h:cQ x):x.2.Pairwise (M0 x.1.2.2.1):=(tr (R:=M0 x.1.2.2.1) np).1 h.rise

theorem cQ.sub {t:Sem zt} {l l':List (List (Sem zf))} (h:cQ (t,l)) (hs:List.Sublist l' l):cQ (t,l') where
 may:=h.may
 few:=cC hs.length_le h.few
 fits:=fun r hr=>h.fits r (hs.subset hr)
 key:=List.Pairwise.sublist hs h.key
 uniq:=fun u hu=>List.Pairwise.sublist hs (h.uniq u hu)
 rise:=(tr (R:=M0 t.2.2.1) np).2 (List.Pairwise.sublist hs h.pw)

theorem An (db:List (Sem zh)) (i:Nat):(db.getD i (zj zh)).1=(db.map (·.1)).getD i (zj zh).1:=by
 rw [aB,aB,de]
 cases db[i]? <;> rfl
theorem uo (db:List (Sem zh)) (s:zn):aF db s=zS (fun t:Sem zt=>t.1==s) (db.map (·.1)) 0:=(vO (fun x:Sem zh=>x.1) (fun t:Sem zt=>t.1==s) db 0).symm
theorem Ei {db:List (Sem zh)} {i:Nat} {x:Sem zh} (h:(db.getD i (zj zh)).1=x.1):(db.set i x).map (·.1)=db.map (·.1):=by
 rw [List.map_set]
 refine yp fun j=>?_
 rw [jq]
 by_cases e:i=j
 ·subst e
  rw [if_pos rfl]
  by_cases hi:i < (db.map (·.1)).length
  ·rw [if_pos hi,zI hi,← h]
   congr 1
   have hi':i < db.length:=by simpa using hi
   rw [aB,zI hi',List.getElem_map]
   rfl
  ·rw [if_neg hi,dd (by omega)]
 ·rw [if_neg e]

theorem dS.put {db:List (Sem zh)} {i:Nat} {x:Sem zh} (h:dS db) (ht:(db.getD i (zj zh)).1=x.1) (hx:cQ x) (hb:C1 (db.set i x)):dS (db.set i x) where
 few:=by rw [jW]; exact h.few
 names:=fun j hj=>by
  rw [jW] at hj
  have:=h.names j hj
  rw [An,An] at this ⊢
  rwa [Ei ht]
 rels:=fun y hy=>by
  rcases tY hy with hy | rfl
  ·exact h.rels y hy
  ·exact hx
 bound:=hb
theorem Jx {db:List (Sem zh)} {i:Nat} {x:Sem zh} (ht:(db.getD i (zj zh)).1=x.1) (s:zn):aF (db.set i x) s=aF db s:=by
 rw [uo,uo,Ei ht]

def BR (es:List (V×Int)) (ks:List V):List (V×Int):=ks.foldl (fun es k=>ic es k 0) es
theorem Fg {k:V} {n:Int}:∀ {es:List (V×Int)},(∀ p∈es,p.1≠k)→ic es k n=es++[(k,n)]
 | [],_=>rfl
 | p::r,h=>by
  have h1:(k==p.1)=false:=by simpa using fun e=>h p (by simp) e.symm
  show (bif k==p.1 then _ else _)=_
  rw [h1]
  show p::ic r k n=_
  rw [Fg fun q hq=>h q (by simp [hq])]
  rfl
theorem Ea:∀ (ks:List V) (es:List (V×Int)),ks.Pairwise (· ≠ ·)→(∀ p∈es,∀ k∈ks,p.1≠k)→BR es ks=es++ks.map fun k=>(k,0)
 | [],es,_,_=>by simp [BR]
 | k::r,es,hp,h=>by
  obtain ⟨h0,h1⟩:=List.pairwise_cons.1 hp
  show BR (ic es k 0) r=_
  rw [Fg fun p hp=>h p hp k (by simp),Ea r _ h1 ?_]
  ·simp
  ·intro p hp q hq
   rcases bB.1 hp with hp | hp
   ·exact h p hp q (by simp [hq])
   ·simp only [bN] at hp
    subst hp
    exact h0 q hq
theorem Rp {c:Int} {l:List (List (Sem zf))} (h:l.Pairwise (M0 c)):(l.map (aS c)).Pairwise (· ≠ ·):=by
 rw [List.pairwise_map]
 exact h.imp fun {a b} hab (e:aS c a=aS c b)=>oM (a:=aS c b) (by have:=hab; unfold M0 at this; rwa [e] at this)
theorem M1 {c:Int} {l:List (List (Sem zf))} (h:l.Pairwise (M0 c)):(BR [] (l.map (aS c))).length=l.length:=by
 rw [Ea _ _ (Rp h) (by simp)]
 simp

theorem UM {α:Type} {R:α→α→Prop} (ht:∀ {a b c},R a b→R b c→R a c) (hi:∀ {a},¬ R a a):∀ {l l':List α},l.Pairwise R→l'.Pairwise R→l.Perm l'→l=l'
 | [],l',_,_,hp=>hp.symm.eq_nil.symm
 | a::r,[],_,_,hp=>absurd hp.eq_nil (by simp)
 | a::r,b::r',h,h',hp=>by
  obtain ⟨h0,h1⟩:=List.pairwise_cons.1 h
  obtain ⟨h0',h1'⟩:=List.pairwise_cons.1 h'
  have e:a=b:=by
   rcases dW.1 (hp.subset (uc (a:=a) (l:=r))) with e | m
   ·exact e
   ·rcases dW.1 (hp.symm.subset (uc (a:=b) (l:=r'))) with e' | m'
    ·exact e'.symm
    ·exact absurd (ht (h0 b m') (h0' a m)) hi
  subst e
  rw [UM (R:=R) ht hi h1 h1' (List.Perm.cons_inv hp)]
theorem J7 {k:Int} {a b c:List (Sem zf)} (h:M0 k a b) (g:M0 k b c):M0 k a c:=np h g
theorem Gh {k:Int} {a:List (Sem zf)}:¬ M0 k a a:=oM
theorem cQ.eq_of_perm {t:Sem zt} {l l':List (List (Sem zf))} (h:cQ (t,l)) (h':cQ (t,l')) (hp:l.Perm l'):l=l':=UM (R:=M0 t.2.2.1) J7 Gh h.pw h'.pw hp

set_option maxHeartbeats 2000000

noncomputable def cM (e:ze) (cols:List (Sem zi)):Int:=if e.op=[] then 0 else if (ba e cols).2=(0:Int)∧(ba e cols).1≠(3:Int)∧(ba e cols).1≠(0:Int) then 5 else (ba e cols).2
noncomputable def nC (e:ze) (cols:List (Sem zi)) (r:List (Sem zf)):Bool:=bif e.op==[] then true else (f5 e cols r).1==3&&((f5 e cols r).2.1==1&&((f5 e cols r).2.2==[]&&true))
noncomputable def jL (x:Sem zh) (e:ze):List (List (Sem zf)):=x.2.filter (nC e x.1.2.1)

theorem Sd (x:Sem zh) (e:ze) (hl:x.2.length≤1000000) (hr:∀ r∈x.2,length r≤1000000):∀ (m i n:Nat) (acc:List (List (Sem zf))),x.2.length - i=m→i≤x.2.length→acc.length≤i→m < n→
  bU CK n (.h9b x.2 (x.2.length:Int) (i:Int) (x,()) (e,()) acc)=some (.tup [.vec 0,.int .i64 0],[.vec zf.sl (acc++(x.2.drop i).filter (nC e x.1.2.1))]):=by
 intro m
 induction m with
 | zero=>
  intro i n acc hm hi ha hn
  obtain rfl:i=x.2.length:=by omega
  obtain ⟨n,rfl⟩:∃ k,n=k+1:=⟨n - 1,by omega⟩
  rw [bU]
  simp only [CK,Tr.val,z8,dg,List.filter_nil,nB]
  rfl
 | succ m IH=>
  intro i n acc hm hi ha hn
  have hlt:i < x.2.length:=by omega
  obtain ⟨n,rfl⟩:∃ k,n=k+1:=⟨n - 1,by omega⟩
  have h3:decide (length x.2[i]≤1073741824)=true:=by
   have:=hr _ (cx hlt)
   simp only [zZ]; omega
  have h4:decide (acc.length+[x.2[i]].length≤1073741824)=true:=by simp only [zZ,List.length_singleton]; omega
  rw [bU,dA hlt]
  simp only [CK,Tr.val,zo,zW hlt,zG hlt,zY x.2 _ hlt,h3,h4,zH i (by unfold zF; omega),if_true]
  by_cases h:nC e x.1.2.1 x.2[i]=true
  ·rw [List.filter_cons_of_pos h]
   have h':=h
   unfold nC at h'
   rw [if_pos h']
   have:=IH (i+1) n (acc++[x.2[i]]) (by omega) (by omega) (by simp; omega) (by omega)
   rw [List.append_assoc] at this
   exact this
  ·rw [List.filter_cons_of_neg h]
   have h':=h
   unfold nC at h'
   rw [if_neg h']
   exact IH (i+1) n acc (by omega) (by omega) (by omega) (by omega)

theorem Sc (x:Sem zh) (e:ze) (hl:x.2.length≤1000000) (hr:∀ r∈x.2,length r≤1000000):∀ (m i n:Nat),x.2.length - i=m→i≤x.2.length→m < n→
  ∃ r,bU CK n (.h9 x.2 (x.2.length:Int) (i:Int) (x,()) (e,()))=some r∧ae r.2 [zf.sl.sl,zg] r.1=some ((x.2.drop i).filter (nC e x.1.2.1),0,()):=by
 intro m
 induction m with
 | zero=>
  intro i n hm hi hn
  obtain rfl:i=x.2.length:=by omega
  obtain ⟨n,rfl⟩:∃ k,n=k+1:=⟨n - 1,by omega⟩
  rw [bU]
  simp only [CK,Tr.val,z8,dg,List.filter_nil]
  exact ⟨_,rfl,rfl⟩
 | succ m IH=>
  intro i n hm hi hn
  have hlt:i < x.2.length:=by omega
  obtain ⟨n,rfl⟩:∃ k,n=k+1:=⟨n - 1,by omega⟩
  have h3:decide (length x.2[i]≤1073741824)=true:=by
   have:=hr _ (cx hlt)
   simp only [zZ]; omega
  have h4:decide ([x.2[i]].length≤1073741824)=true:=by simp
  rw [bU,dA hlt]
  simp only [CK,Tr.val,zo,zW hlt,zG hlt,zY x.2 _ hlt,h3,h4,zH i (by unfold zF; omega),if_true]
  by_cases h:nC e x.1.2.1 x.2[i]=true
  ·rw [List.filter_cons_of_pos h]
   have h':=h
   unfold nC at h'
   rw [if_pos h']
   exact ⟨_,Sd x e hl hr m (i+1) n [x.2[i]] (by omega) (by omega) (by simp) (by omega),rfl⟩
  ·rw [List.filter_cons_of_neg h]
   have h':=h
   unfold nC at h'
   rw [if_neg h']
   exact IH (i+1) n (by omega) (by omega) (by omega)

theorem AA (x:Sem zh) (e:ze) (hl:x.2.length≤1000000) (hr:∀ r∈x.2,length r≤1000000):pM x e=some (if cM e x.1.2.1=0 then jL x e else [],cM e x.1.2.1,()):=by
 obtain ⟨r,h1,h2⟩:=Sc x e hl hr x.2.length 0 100000000 rfl (aD _) (by omega)
 rw [List.drop_zero] at h2
 unfold pM zT cd
 simp only [zem,Tr.val,zo]
 unfold cM
 by_cases h0:e.op=[]
 ·have c0:(!e.op==[])=false:=by rw [h0]; rfl
  rw [c0,if_pos h0]
  simp only [zO,if_false,if_true]
  show (bU CK 100000000 (.h9 x.2 (x.2.length:Int) ((0:Nat):Int) (x,()) (e,()))).bind _=_
  rw [h1]
  exact h2
 ·have c0:(!e.op==[])=true:=by simpa using h0
  rw [c0,if_neg h0]
  simp only [if_true]
  by_cases h3:(ba e x.1.2.1).2=(0:Int)
  ·by_cases h4:(ba e x.1.2.1).1≠(3:Int)∧(ba e x.1.2.1).1≠(0:Int)
   ·rw [if_pos (show (ba e x.1.2.1).2=(0:Int)∧(ba e x.1.2.1).1≠(3:Int)∧(ba e x.1.2.1).1≠(0:Int) from ⟨h3,h4⟩)]
    have c1:(bif (ba e x.1.2.1).2==0 then bif (ba e x.1.2.1).1 != 3 then (ba e x.1.2.1).1 != 0 else false else false)=true:=by simp [h3,h4.1,h4.2]
    rw [c1]
    rfl
   ·rw [if_neg (show ¬ ((ba e x.1.2.1).2=(0:Int)∧(ba e x.1.2.1).1≠(3:Int)∧(ba e x.1.2.1).1≠(0:Int)) from fun h=>h4 h.2)]
    have c1:(bif (ba e x.1.2.1).2==0 then bif (ba e x.1.2.1).1 != 3 then (ba e x.1.2.1).1 != 0 else false else false)=false:=by
     rw [h3]
     cases c:((ba e x.1.2.1).1 != 3) with
     | false=>rfl
     | true=>
      simp only [bne_iff_ne,ne_eq] at c
      simp only [beq_self_eq_true,bO,bne_eq_false_iff_eq]
      exact Classical.not_not.1 fun h5=>h4 ⟨c,h5⟩
    have c2:((0:Int) != 0)=false:=rfl
    rw [c1]
    simp only [zO,if_false,h3,c2,if_true]
    show (bU CK 100000000 (.h9 x.2 (x.2.length:Int) ((0:Nat):Int) (x,()) (e,()))).bind _=_
    rw [h1]
    exact h2
  ·rw [if_neg (show ¬ ((ba e x.1.2.1).2=(0:Int)∧(ba e x.1.2.1).1≠(3:Int)∧(ba e x.1.2.1).1≠(0:Int)) from fun h=>h3 h.1)]
   have c1:(bif (ba e x.1.2.1).2==0 then bif (ba e x.1.2.1).1 != 3 then (ba e x.1.2.1).1 != 0 else false else false)=false:=by
    have:((ba e x.1.2.1).2==0)=false:=by simpa using h3
    rw [this]; rfl
   have c2:((ba e x.1.2.1).2 != 0)=true:=by simpa using h3
   rw [c1,c2,if_neg h3]
   rfl

theorem RU {t:Sem zt} {r:List (Sem zf)} (hm:gS t=true) (hk:zE t.2.2.1 (length r)=true):OQ t r=true∧Zl t r=aS t.2.2.1 r:=by
 have h1:decide (t.2.2.1 ≥ (↑(length r):Int))=false:=by
  simp only [zE,aE,zZ] at hk
  simp only [decide_eq_false_iff_not]
  exact fun h=>absurd hk.2 (Int.not_lt.2 h)
 have:E3 t r=some (aS t.2.2.1 r,()):=by
  unfold E3 zT cd
  simp only [zet,Tr.val,zo,Prod.eta,hm,h1,hk,iT,bR,zO,if_false,if_true]
  rfl
 unfold OQ Zl
 rw [this]
 exact ⟨rfl,rfl⟩

theorem Yq (x:Sem zh) (e:Int) (rows:List (List (Sem zf))) (hl:rows.length≤1000000) (hm:gS x.1=true) (hk:∀ r∈rows,zE x.1.2.2.1 (length r)=true):∀ (m i n:Nat) (es:List (V×Int)),rows.length - i=m→i≤rows.length→m < n→
  bU KE n (.h4 e rows (rows.length:Int) (i:Int) (x,()) es)=some (.tup [.mp 0,.int .i64 e],[.vmap true (BR es ((rows.drop i).map (aS x.1.2.2.1)))]):=by
 intro m
 induction m with
 | zero=>
  intro i n es hm' hi hn
  obtain rfl:i=rows.length:=by omega
  obtain ⟨n,rfl⟩:∃ k,n=k+1:=⟨n - 1,by omega⟩
  rw [bU]
  simp only [KE,Tr.val,z8,dg]
  rfl
 | succ m IH=>
  intro i n es hm' hi hn
  have hlt:i < rows.length:=by omega
  obtain ⟨n,rfl⟩:∃ k,n=k+1:=⟨n - 1,by omega⟩
  obtain ⟨h1,h2⟩:=RU hm (hk _ (cx hlt))
  rw [bU,dA hlt]
  simp only [KE,Tr.val,zo,Prod.eta,zW hlt,zG hlt,zY rows _ hlt,h1,h2,zH i (by unfold zF; omega),if_true]
  exact IH (i+1) n _ (by omega) (by omega) (by omega)

theorem Nz {x:Sem zh} {e:ze} {r:List (Sem zf)} (h:r∈(if cM e x.1.2.1=0 then jL x e else [])):r∈x.2:=by
 split at h
 ·exact (List.mem_filter.1 h).1
 ·simp at h

theorem zfa (d:Sem ah) (x:Sem zh) (hm:gS x.1=true) (hl:x.2.length≤1000000) (hr:∀ r∈x.2,length r≤1000000) (hk:∀ r∈x.2,zE x.1.2.2.1 (length r)=true):
  mO d x=some (BR [] ((if cM d.2.2.2.2.2.2.2.2.2.2.2.2.1 x.1.2.1=0 then jL x d.2.2.2.2.2.2.2.2.2.2.2.2.1 else []).map (aS x.1.2.2.1)),cM d.2.2.2.2.2.2.2.2.2.2.2.2.1 x.1.2.1):=by
 have hw:=AA x d.2.2.2.2.2.2.2.2.2.2.2.2.1 hl hr
 have hc:na x d.2.2.2.2.2.2.2.2.2.2.2.2.1=true:=by unfold na; rw [hw]; rfl
 have hv:rr x d.2.2.2.2.2.2.2.2.2.2.2.2.1=(if cM d.2.2.2.2.2.2.2.2.2.2.2.2.1 x.1.2.1=0 then jL x d.2.2.2.2.2.2.2.2.2.2.2.2.1 else [],cM d.2.2.2.2.2.2.2.2.2.2.2.2.1 x.1.2.1):=by unfold rr; rw [hw]; rfl
 have hq:∀ r∈(if cM d.2.2.2.2.2.2.2.2.2.2.2.2.1 x.1.2.1=0 then jL x d.2.2.2.2.2.2.2.2.2.2.2.2.1 else []),r∈x.2:=fun r h=>Nz h
 have hlen:(if cM d.2.2.2.2.2.2.2.2.2.2.2.2.1 x.1.2.1=0 then jL x d.2.2.2.2.2.2.2.2.2.2.2.2.1 else []).length≤1000000:=by
  split
  ·exact cC (List.length_filter_le _ _) hl
  ·simp
 have:HB d x=some (.tup [.mp 0,.int .i64 (cM d.2.2.2.2.2.2.2.2.2.2.2.2.1 x.1.2.1)],[.vmap true (BR [] ((if cM d.2.2.2.2.2.2.2.2.2.2.2.2.1 x.1.2.1=0 then jL x d.2.2.2.2.2.2.2.2.2.2.2.2.1 else []).map (aS x.1.2.2.1)))]):=by
  unfold HB cd
  simp only [Ri,Tr.val,zo,Prod.eta,hc,hv,if_true]
  have:=Yq x (cM d.2.2.2.2.2.2.2.2.2.2.2.2.1 x.1.2.1) _ hlen hm (fun r h=>hk r (hq r h)) _ 0 100000000 [] rfl (aD _) (by omega)
  rw [List.drop_zero] at this
  exact this
 unfold mO
 rw [this]
 rfl

abbrev C0 (s:Sem zy):ze:=s.2.2.2.2.2.2.2.2.2.2.2.1
abbrev Dn (e:Int):Sem eE:=(e,0,[])

theorem uz (e:Int):n8 e=true∧bY e=([],Dn e):=⟨rfl,rfl⟩
theorem Lp {next:List (Sem zh)} {b:Bool} (n:Int) (h:oZ next=some (b,())):uB next n=some (if b=true then next else [],if b=true then (0,n,[]) else Dn 10,()):=by
 have hc:mH next=true:=by unfold mH; rw [h]; rfl
 have hv:qm next=b:=by unfold qm; rw [h]; rfl
 unfold uB zT cd
 cases b with
 | true=>
  simp only [XU,Tr.val,hc,hv,if_true,iT,zO,if_false]
  rfl
 | false=>
  simp only [XU,Tr.val,hc,hv,if_true,yu,zO,if_false]
  rfl
theorem JC {db:List (Sem zh)} {y:Sem zh} {i:Nat} (h:aF db y.1.1=(i:Int)) (hl:db.length≤1000000):qw db y=some (db.set i y,()):=by
 have hb:zE (aF db y.1.1) (length db)=true:=kf (by rw [h]; omega)
 rw [h] at hb
 have h0:decide (length db≤1073741824)=true:=by simp only [zZ]; omega
 have h1:decide ((i:Int) ≥ 0)=true:=by simp
 have h2:decide (Int.toNat (i:Int) < length db)=true:=by
  simp only [zE,aE,zZ] at hb
  simp only [zZ]; omega
 unfold qw zT cd
 simp only [zel,Tr.val,zo,Prod.eta,h,hb,h0,h1,h2,if_true]
 rfl

theorem FB {db:List (Sem zh)} {s:Sem zy} {x:Sem zh} {i:Nat} (h:aF db s.2.1=(i:Int)) (hx:db.getD i (zj zh)=x) (hl:x.2.length≤1000000) (hr:∀ r∈x.2,length r≤1000000):
  j4 (db,s)=some (if cM (C0 s) x.1.2.1=0 then db else [],if cM (C0 s) x.1.2.1=0 then (0,((jL x (C0 s)).length:Int),jL x (C0 s)) else Dn (cM (C0 s) x.1.2.1),()):=by
 have hb:zE (aF db s.2.1) (length db)=true:=kf (by rw [h]; omega)
 rw [h] at hb
 have h1:decide (LT.lt (α:=Int) (i:Int) 0)=false:=by simp
 have hw:=AA x (C0 s) hl hr
 have hc:na x (C0 s)=true:=by unfold na; rw [hw]; rfl
 have hv:rr x (C0 s)=(if cM (C0 s) x.1.2.1=0 then jL x (C0 s) else [],cM (C0 s) x.1.2.1):=by unfold rr; rw [hw]; rfl
 obtain ⟨f1,f2⟩:=uz (cM (C0 s) x.1.2.1)
 unfold j4 zT cd
 simp only [zee,Tr.val,zo,Prod.eta,h,h1,hb,bl,hx,hc,hv,f1,f2,zO,if_true,if_false]
 by_cases h0:cM (C0 s) x.1.2.1=0
 ·simp only [h0,if_true,oS,zO,if_false]
  rfl
 ·have h0':(cM (C0 s) x.1.2.1 != 0)=true:=by simpa using h0
  simp only [h0',if_true,if_neg h0]
  rfl

theorem cQ.len {x:Sem zh} (h:cQ x):∀ r∈x.2,length r≤8:=by
 intro r hr
 obtain ⟨_,_,_,h4,_⟩:=gu h.may
 rw [lZ (by simpa using h.fits r hr)]
 exact h4
theorem cQ.kin {x:Sem zh} (h:cQ x):∀ r∈x.2,zE x.1.2.2.1 (length r)=true:=by
 intro r hr
 obtain ⟨h1,_⟩:=gu h.may
 rw [lZ (by simpa using h.fits r hr)]
 exact BN h1
theorem KB {db:List (Sem zh)} {i:Nat} {y:Sem zh} (hs:∀ x∈db,eR x) (hy:eR y):∀ x∈db.set i y,eR x:=fun x hx=>by
 rcases tY hx with h | rfl
 ·exact hs x h
 ·exact hy

theorem oz (c:UInt8) (s old:zn):Lib.index (c::s) old=if old.isPrefixOf (c::s)=true then 0 else if Lib.index s old=-1 then -1 else Lib.index s old+1:=by
 rw [Lib.index]; simp only [eQ]

theorem ru {s old new:zn} (hne:(old==new)=false) (h:Lib.index s old=-1):Lib.replaceAll s old new=s:=by
 unfold Lib.replaceAll Lib.replace Lib.replaceNum
 rw [hne,if_pos (Or.inl (by decide)),Lib.count_miss h]
 rfl

theorem wW {s old new:zn} {i:Nat} (h0:old≠[]) (hne:(old==new)=false) (h:Lib.index s old=i):Lib.replaceAll s old new=s.take i++new++Lib.replaceAll (s.drop (i+old.length)) old new:=by
 unfold Lib.replaceAll Lib.replace Lib.replaceNum
 rw [hne,if_pos (Or.inl (by decide)),if_pos (Or.inl (by decide)),Lib.count_hit h0 h,oT 1]
 exact Lib.replaceK_hit old new _ s i h

theorem wX {old new:zn} (h0:old≠[]) (hne:(old==new)=false):Lib.replaceAll [] old new=[]:=by
 refine ru hne ?_
 cases old with
 | nil=>exact absurd rfl h0
 | cons a l=>rfl

theorem ER {c:UInt8} {s old new:zn} (h0:old≠[]) (hne:(old==new)=false) (hp:old.isPrefixOf (c::s)=true):Lib.replaceAll (c::s) old new=new++Lib.replaceAll ((c::s).drop old.length) old new:=by
 have:=wW (i:=0) h0 hne (s:=c::s) (by rw [oz,if_pos hp]; rfl)
 simpa using this

theorem AE {c:UInt8} {s old new:zn} (h0:old≠[]) (hne:(old==new)=false) (hp:old.isPrefixOf (c::s)=false):Lib.replaceAll (c::s) old new=c::Lib.replaceAll s old new:=by
 by_cases h:Lib.index s old=-1
 ·rw [ru hne h,ru hne (by rw [oz,if_neg (by simp [hp]),if_pos h])]
 ·obtain ⟨i,hi⟩:∃ i:Nat,Lib.index s old=i:=⟨(Lib.index s old).toNat,by have:=Lib.index_ge s old; omega⟩
  rw [wW h0 hne hi,wW (i:=i+1) h0 hne (by rw [oz,if_neg (by simp [hp]),if_neg h,hi]; simp)]
  simp [Nat.add_right_comm]

theorem N8 {c a:UInt8} {r l:zn} (h:c≠a):(a::l).isPrefixOf (c::r)=false:=by
 rw [List.isPrefixOf,yn.2 (Ne.symm h)]
 rfl

def o9:zn→zn
 | []=>[]
 | c::r=>if c=39 then 39::39::o9 r else c::o9 r

theorem wV:∀ s:zn,Lib.replaceAll s [39] [39,39]=o9 s
 | []=>wX (by simp) rfl
 | c::r=>by
  rw [o9]
  split
  ·rename_i h
   subst h
   rw [ER (by simp) rfl (by simp)]
   simp [wV r]
  ·rename_i h
   rw [AE (by simp) rfl (N8 h),wV r]

def dv:zn→Option (zn×Nat)
 | []=>none
 | [c]=>if c=39 then some ([],1) else none
 | c::d::r=>if c=39 then (if d=39 then (dv r).map fun x=>(39::x.1,x.2+2) else some ([],1)) else (dv (d::r)).map fun x=>(c::x.1,x.2+1)

theorem rB:∀ (n:Nat) (s t:zn) (k:Nat),s.length≤n→dv s=some (t,k)→1≤k∧k≤s.length∧Lib.replaceAll (s.take (k - 1)) [39,39] [39]=t
 | _,[],_,_,_,h=>by simp [dv] at h
 | _,[c],t,k,_,h=>by
  rw [dv] at h
  split at h
  ·simp at h
   obtain ⟨rfl,rfl⟩:=h
   exact ⟨by simp,by simp,by simpa using wX (by simp) rfl⟩
  ·simp at h
 | 0,_::_::_,_,_,hn,_=>by simp at hn
 | n+1,c::d::r,t,k,hn,h=>by
  rw [dv] at h
  split at h
  ·rename_i hc
   split at h
   ·rename_i hd
    simp only [c8] at h
    obtain ⟨⟨t',k'⟩,h1,h2⟩:=h
    simp only [bu] at h2
    obtain ⟨rfl,rfl⟩:=h2
    obtain ⟨a1,a2,a3⟩:=rB n r t' k' (by simp at hn; omega) h1
    refine ⟨by omega,by simp; omega,?_⟩
    subst hc; subst hd
    rw [show k'+2 - 1=(k' - 1)+2 by omega,List.take_succ_cons,List.take_succ_cons,ER (by simp) rfl (by simp)]
    simp [a3]
   ·simp at h
    obtain ⟨rfl,rfl⟩:=h
    exact ⟨by simp,by simp,by simpa using wX (by simp) rfl⟩
  ·rename_i hc
   simp only [c8] at h
   obtain ⟨⟨t',k'⟩,h1,h2⟩:=h
   simp only [bu] at h2
   obtain ⟨rfl,rfl⟩:=h2
   obtain ⟨a1,a2,a3⟩:=rB n (d::r) t' k' (by simp at hn ⊢; omega) h1
   refine ⟨by omega,by simp at a2 ⊢; omega,?_⟩
   rw [show k'+1 - 1=(k' - 1)+1 by omega,List.take_succ_cons,AE (by simp) rfl (N8 hc),a3]
theorem AI {c:UInt8} (hc:c≠39):∀ r:zn,dv (c::r)=(dv r).map fun x=>(c::x.1,x.2+1)
 | []=>by simp [dv,hc]
 | d::r=>by rw [dv,if_neg hc]
theorem E5 (r:zn):dv (39::39::r)=(dv r).map fun x=>(39::x.1,x.2+2):=by
 rw [dv,if_pos rfl,if_pos rfl]
theorem xj:∀ r:zn,r.head?≠some 39→dv (39::r)=some ([],1)
 | [],_=>by rw [dv,if_pos rfl]
 | d::r,h=>by rw [dv,if_pos rfl,if_neg (by simpa using h)]

theorem vL (s:zn) {i:Nat} (h:i < s.length):s.getD ((i:Int).toNat) 0=s[i]:=by
 rw [bl,aB,zI h,bA]
theorem MM {c:UInt8}:((c.toNat:Int)==39)=true↔c=39:=by
 rw [eQ]
 constructor
 ·intro h
  exact UInt8.toNat_inj.1 (by show c.toNat=39; omega)
 ·rintro rfl; rfl

theorem mq:∀ (n:Nat) (s:zn) (i:Nat) (a:Int) (b:zn),1≤i→i≤s.length→s.length+2≤n+i→s.length≤1000000000→
  dI n s (i:Int) a b=(match dv (s.drop i) with
   | none=>((0,[]),0)
   | some x=>((3,Lib.replaceAll (List.take (i+x.2 - 2) (List.drop 1 s)) [39,39] [39]),((i+x.2:Nat):Int)))
 | 0,s,i,a,b,h1,h2,h3,h4=>by omega
 | n + 1,s,i,a,b,h1,h2,h3,h4=>by
  rw [dI]
  by_cases hi:i < s.length
  ·rw [if_pos (aZ (show (i:Int) < (s.length:Int) by omega)),vL s hi,mE i (by omega),dA hi]
   by_cases hq:s[i]=39
   ·rw [if_neg (by simp [bne,MM.2 hq]),hq]
    by_cases hj:i+1 < s.length
    ·rw [dA hj,vL s hj,aZ (show ((i+1:Nat):Int) < (s.length:Int) by omega)]
     by_cases hq2:s[i+1]=39
     ·rw [if_pos (by simpa using MM.2 hq2),mE (i+1) (by omega),mq n s (i+1+1) a b (by omega) (by omega) (by omega) h4,hq2,E5]
      cases dv (s.drop (i+1+1)) with
      | none=>rfl
      | some x=>
       simp only [rM]
       rw [show i+1+1+x.2=i+(x.2+2) by omega]
     ·rw [if_neg (by simpa using fun h=>hq2 (MM.1 (by simpa using h))),xj _ (by rw [List.head?_cons]; exact fun h=>hq2 (Option.some.inj h))]
      simp
    ·rw [yh (by omega:s.length≤i+1),er (show ¬ ((i+1:Nat):Int) < (s.length:Int) by omega),xj _ (by simp)]
     simp
   ·rw [if_pos (by simpa [bne] using fun h=>hq (MM.1 (by simpa using h))),AI hq,mq n s (i+1) a b (by omega) (by omega) (by omega) h4]
    cases dv (s.drop (i+1)) with
    | none=>rfl
    | some x=>
     simp only [rM]
     rw [show i+1+x.2=i+(x.2+1) by omega]
  ·rw [if_neg (by simp; omega),yh (by omega)]
   rfl

def fh (c:UInt8) (r:zn):Sem ed×Nat:=
 if aA c.toNat=true then ((1,(c::r).take (fi bV r+1)),fi bV r+1)
 else if zQ c.toNat=true then ((2,(c::r).take (fi zQ r+1)),fi zQ r+1)
 else if c=39 then (match dv r with | none=>((0,[]),0) | some x=>((3,x.1),x.2+1))
 else ((4,[c]),1)

theorem qQ (c:UInt8) (r:zn) (hl:(c::r).length≤1000000000):aU (c::r)=((fh c r).1,((fh c r).2:Int)):=by
 have e1:aq aA bV (c::r)=if aA c.toNat=true then fi bV r+1 else 0:=rfl
 have e2:aq zQ zQ (c::r)=if zQ c.toNat=true then fi zQ r+1 else 0:=rfl
 unfold aU fh
 by_cases h1:aA c.toNat=true
 ·rw [if_pos h1] at e1
  simp [e1,h1]
 ·rw [if_neg h1] at e1
  by_cases h2:zQ c.toNat=true
  ·rw [if_pos h2] at e2
   simp [e1,e2,h1,h2]
  ·rw [if_neg h2] at e2
   by_cases h3:c=39
   ·have hq:=mq ((c::r).length+1) (c::r) 1 0 [] (by omega) (by simp) (by omega) hl
    have hqq:quoted (c::r)=_:=hq
    subst h3
    have l39:aA 39=false:=rfl
    have d39:zQ 39=false:=rfl
    cases hs:dv r with
    | none=>
     simp only [List.drop_succ_cons,List.drop_zero,hs] at hqq
     simp [e1,e2,l39,d39,hqq]
    | some x=>
     obtain ⟨k1,k2,k3⟩:=rB r.length r x.1 x.2 (aM _) hs
     simp only [List.drop_succ_cons,List.drop_zero,hs] at hqq
     rw [show 1+x.2 - 2=x.2 - 1 by omega,k3,oT 1] at hqq
     simp [e1,e2,l39,d39,hqq]
   ·have h4:¬ (c.toNat:Int)=39:=fun h=>h3 (MM.1 (by simpa using h))
    simp [e1,e2,h1,h2,h3,h4]

def jH:Nat→zn→Nat→Bool
 | 0,_,_=>false
 | _+1,[],k=>decide (k≤400)
 | n+1,c::r,k=>
  if (bif (c.toNat:Int)==32 then true else (c.toNat:Int)==10)=true then jH n r k
  else if fm (fh c r).1=true then jH n ((c::r).drop (fh c r).2) (k+1) else false

theorem qr:∀ (n:Nat) (s:zn) (k:Nat),400 < k→jH n s k=false
 | 0,_,_,_=>rfl
 | _+1,[],k,h=>by rw [jH]; exact er (by omega)
 | n+1,c::r,k,h=>by
  rw [jH]
  split
  ·exact qr n r k h
  ·split
   ·exact qr n _ (k+1) (by omega)
   ·rfl

theorem uv:∀ (n:Nat) (s:zn) (i:Nat) (l:List (Sem zp)),i≤s.length→s.length+1≤n+i→s.length≤1000000000→l.length≤400→((o8 n s (i:Int) l).2==(0:Int))=jH n (s.drop i) l.length
 | 0,s,i,l,h1,h2,h3,h4=>by omega
 | n + 1,s,i,l,h1,h2,h3,h4=>by
  rw [o8]
  by_cases hlt:i < s.length
  ·have e1:List.take ((s.length:Int).toNat - (i:Int).toNat) (List.drop (i:Int).toNat s)=s.drop i:=by
    simp only [bl]
    exact Ho (by simp)
   have hdl:(s.drop i).length≤1000000000:=by simp; omega
   rw [if_pos (aZ (show (i:Int) < (s.length:Int) by omega)),e1,vL s hlt,mE i (by omega)]
   rw [dA hlt] at hdl ⊢
   rw [jH]
   split
   ·exact uv n s (i+1) l (by omega) (by omega) h3 h4
   ·rw [qQ _ _ hdl]
    simp only
    by_cases hm:fm (fh s[i] (s.drop (i+1))).1=true
    ·rw [if_pos hm]
     by_cases h5:l.length=400
     ·rw [if_pos (by rw [hm,h5]; rfl),h5,qr n _ _ (by omega)]
      rfl
     ·rw [if_neg (by rw [hm]; simp; omega)]
      have hm':fm (aU (s[i]::s.drop (i+1))).1=true:=by rw [qQ _ _ hdl]; exact hm
      obtain ⟨k,hk,hk1,hk2⟩:=qa _ (List.cons_ne_nil _ _) hdl hm'
      rw [qQ _ _ hdl] at hk
      have hk:(fh s[i] (s.drop (i+1))).2=k:=Int.ofNat.inj hk
      have hk3:k≤s.length - i:=by rw [← dA hlt] at hk2; simpa using hk2
      rw [hk,show ((i:Int)+(k:Int))=((i+k:Nat):Int) by omega,UX (i+k) (by omega),uv n s (i+k) _ (by omega) (by omega) h3 (by simp; omega),← dA hlt,List.drop_drop]
      simp
    ·rw [if_neg hm,if_pos (by simp [hm])]
     rfl
  ·rw [if_neg (by simp; omega),yh (by omega)]
   rw [jH]
   exact (aZ h4).symm

theorem E4 {s:Sem zy} {t:zn} (h:(ly s).val=some (.inr (.str t,[]))):fw s=t:=by
 unfold fw CA zT cd
 rw [h]
 rfl
theorem E9 (s:Sem zy):fx s=(eC s&&((cut (fw s)).2==0)):=by
 unfold fx oI
 cases eC s
 ·rfl
 ·show ((if ((cut (fw s)).2 != 0)=true then (([],1):Sem Sh.str×Sem zg) else (fw s,0)).2==0)=_
  cases h:((cut (fw s)).2==0)
  ·have:((cut (fw s)).2 != 0)=true:=by simp only [bne,h]; rfl
   rw [if_pos this]; rfl
  ·have:((cut (fw s)).2 != 0)=false:=by simp only [bne,h]; rfl
   rw [this]; rfl

abbrev CD:zn:=[115,101,108,101,99,116]
theorem O5 {s:Sem zy} (hs:gZ s) (hop:s.1=CD):fw s=[83,69,76,69,67,84,32,42,32,70,82,79,77,32]++s.2.1++fe (C0 s):=by
 have t1:=hs.table
 have t2:=hs.other
 have w1:=rI s.2.2.2.2.2.2.2.2.2.2.2.1
 have hup:(decide (length s.1≤140737488355328)&&List.all s.1 fun b=>decide (b.toNat < 128))=true:=by rw [hop]; decide
 have q0:(s.1==[99,114,101,97,116,101])=false:=by rw [hop]; rfl
 have q1:(s.1==[100,114,111,112])=false:=by rw [hop]; rfl
 have q2:(s.1==[105,110,115,101,114,116])=false:=by rw [hop]; rfl
 have q3:(s.1==[117,112,100,97,116,101])=false:=by rw [hop]; rfl
 have q4:(s.1==[100,101,108,101,116,101])=false:=by rw [hop]; rfl
 have q5:(s.1==[115,101,108,101,99,116])=true:=by rw [hop]; rfl
 obtain ⟨t,h,e⟩:∃ t,(ly s).val=some (.inr (.str t,[]))∧t=[83,69,76,69,67,84,32,42,32,70,82,79,77,32]++s.2.1++fe (C0 s):=by
  simp only [ly,qR,Tr.val,q0,q1,q2,q3,q4,q5,if_true,zO,if_false,zo]
  repeat' (with_reducible refine gx ?_ ?_)
  all_goals first
   | exact ⟨_,rfl,rfl⟩
   | exact hup
   | exact gV _
   | (refine ao ?_; simp; omega)
   | (rw [hop]; decide)
   | (refine ao ?_; rw [hop]; simp [cw]; omega)
 rw [E4 h,e]
theorem qt:∀ (n:Nat) (s:zn) (k k':Nat),k'≤k→jH n s k=true→jH n s k'=true
 | 0,_,_,_,_,h=>h
 | _+1,[],k,k',hk,h=>by
  rw [jH] at h ⊢
  simp only [zZ] at h ⊢
  omega
 | n+1,c::r,k,k',hk,h=>by
  rw [jH] at h ⊢
  split
  ·rename_i h1
   rw [if_pos h1] at h
   exact qt n r k k' hk h
  ·rename_i h1
   rw [if_neg h1] at h
   split
   ·rename_i h2
    rw [if_pos h2] at h
    exact qt n _ (k+1) (k'+1) (by omega) h
   ·rename_i h2
    rw [if_neg h2] at h
    cases h
theorem TE (s:zn) (h:s.length≤1000000000):((cut s).2==(0:Int))=jH (s.length+1) s 0:=by
 have:=uv (s.length+1) s 0 [] (by omega) (by omega) h (by simp)
 exact this

theorem F9 (c:UInt8) (r:zn) (h:fm (fh c r).1=true):1≤(fh c r).2:=by
 unfold fh at h ⊢
 split
 ·exact Nat.le_add_left 1 _
 ·split
  ·exact Nat.le_add_left 1 _
  ·split
   ·rename_i h1 h2 h3
    rw [if_neg h1,if_neg h2,if_pos h3] at h
    cases hs:dv r with
    | none=>
     rw [hs] at h
     exact absurd h (by simp [fm])
    | some x=>exact Nat.le_add_left 1 _
   ·exact aM 1

theorem Bh:∀ (n:Nat) (s:zn) (k n':Nat),s.length+1≤n'→jH n s k=true→jH n' s k=true
 | 0,_,_,_,_,h=>by cases h
 | _+1,[],_,0,h',_=>by omega
 | _+1,[],_,_+1,_,h=>h
 | _+1,_::_,_,0,h',_=>by omega
 | n+1,c::r,k,n'+1,h',h=>by
  simp only [lp] at h'
  rw [jH] at h ⊢
  split
  ·rename_i h1
   rw [if_pos h1] at h
   exact Bh n r k n' (by omega) h
  ·rename_i h1
   rw [if_neg h1] at h
   split
   ·rename_i h2
    rw [if_pos h2] at h
    have:=F9 c r h2
    exact Bh n _ (k+1) n' (by simp only [List.length_drop,lp]; omega) h
   ·rename_i h2
    rw [if_neg h2] at h
    cases h

def cA (s:zn) (k:Nat):Prop:=∃ n,jH n s k=true
theorem cA.now {s:zn} {n:Nat} (h:cA s 0) (hn:s.length+1≤n):jH n s 0=true:=by
 obtain ⟨m,h⟩:=h
 exact Bh m s 0 n hn h
theorem cA.nil {k:Nat} (h:k≤400):cA [] k:=⟨1,aZ h⟩
theorem cA.mono {s:zn} {k k':Nat} (h:cA s k) (hk:k'≤k):cA s k':=by
 obtain ⟨n,h⟩:=h
 exact ⟨n,qt n s k k' hk h⟩
theorem cA.sp {s:zn} {k:Nat} (h:cA s k):cA (32::s) k:=by
 obtain ⟨n,h⟩:=h
 exact ⟨n+1,by rw [jH,if_pos (by rfl)]; exact h⟩
theorem cA.tok {c:UInt8} {r s:zn} {k:Nat} {t:Sem ed} {m:Nat} (hb:(bif (c.toNat:Int)==32 then true else (c.toNat:Int)==10)=false) (hf:fh c r=(t,m)) (ht:fm t=true) (hs:(c::r).drop m=s) (h:cA s (k+1)):cA (c::r) k:=by
 obtain ⟨n,h⟩:=h
 refine ⟨n+1,?_⟩
 rw [jH,if_neg (by rw [hb]; simp),hf,if_pos ht]
 show jH n ((c::r).drop m) (k+1)=true
 rw [hs]
 exact h

theorem pt (p:Int→Bool):∀ (w r:zn),(∀ c∈w,p c.toNat=true)→(∀ d l,r=d::l→p d.toNat=false)→fi p (w++r)=w.length
 | [],[],_,_=>rfl
 | [],d::l,_,h=>by
  show fi p (d::l)=0
  rw [fi,h d l rfl]
  rfl
 | c::w,r,h1,h2=>by
  show fi p (c::(w++r))=w.length+1
  rw [fi,if_pos (h1 c (by simp)),pt p w r (fun x hx=>h1 x (by simp [hx])) h2]

theorem Ib {p:Int→Bool} (h32:p 32=false) (h10:p 10=false) {c:UInt8} (h:p c.toNat=true):(bif (c.toNat:Int)==32 then true else (c.toNat:Int)==10)=false:=by
 have a:((c.toNat:Int)==32)=false:=by
  refine yn.2 fun e=>?_
  rw [e,h32] at h; cases h
 have b:((c.toNat:Int)==10)=false:=by
  refine yn.2 fun e=>?_
  rw [e,h10] at h; cases h
 rw [a,b]
 rfl

def cL (r:zn):Prop:=∀ d l,r=d::l→bV d.toNat=false∧d≠39
theorem cL.sp (r:zn):cL (32::r):=by
 rintro d l h
 injection h with h1 h2
 subst h1
 exact ⟨rfl,by decide⟩
theorem cL.pa (r:zn):cL (41::r):=by
 rintro d l h
 injection h with h1 h2
 subst h1
 exact ⟨rfl,by decide⟩
theorem cL.nil:cL []:=fun _ _ h=>by cases h

theorem Uw (p:Int→Bool):∀ r:zn,fi p r=r.length→∀ x∈r,p x.toNat=true
 | [],_,x,hx=>by cases hx
 | d::l,hl,x,hx=>by
  rw [fi] at hl
  split at hl
  ·rename_i hd
   rcases dW.1 hx with rfl | hx
   ·exact hd
   ·exact Uw p l (by simpa using hl) x hx
  ·simp at hl
theorem WY (n:Int) (h:bM .i64 n):n.natAbs < 10 ^ (18+1):=by
 have h1:-9223372036854775808≤n:=h.1
 have h2:n≤9223372036854775807:=h.2
 omega
theorem KN {w:zn} (h:gU w=true):∃ c r,w=c::r∧aA c.toNat=true∧∀ x∈r,bV x.toNat=true:=by
 have h:mC w=true:=h
 unfold mC at h
 cases w with
 | nil=>simp at h
 | cons c r=>
  refine ⟨c,r,rfl,?_⟩
  cases h1:decide (((c::r).length:Int) ≥ 1)
  ·rw [h1] at h; cases h
  cases h2:decide (((c::r).length:Int)≤16)
  ·rw [h1,h2] at h; cases h
  rw [h1,h2] at h
  have h:((aq aA bV (c::r):Int)==((c::r).length:Int))=true:=h
  have h:(aq aA bV (c::r):Int)=((c::r).length:Int):=by simpa using h
  rw [aq] at h
  split at h
  ·rename_i hc
   refine ⟨hc,?_⟩
   have hl:fi bV r=r.length:=by simp at h; omega
   exact Uw bV r hl
  ·simp at h; omega

theorem cA.word {w r:zn} {k:Nat} (hw:gU w=true) (hr:cL r) (h:cA r (k+1)):cA (w++r) k:=by
 obtain ⟨c,l,rfl,hc,hl⟩:=KN hw
 have hld:fi bV (l++r)=l.length:=pt bV l r hl fun d l' e=>(hr d l' e).1
 refine cA.tok (r:=l++r) (s:=r) (t:=(1,c::l)) (m:=l.length+1) (Ib (p:=aA) rfl rfl hc) ?_ ?_ ?_ h
 ·unfold fh
  rw [if_pos hc,hld]
  simp
 ·exact hw
 ·simp

theorem cA.num {w r:zn} {k:Nat} (h1:1≤w.length) (h2:w.length≤19) (hd:∀ c∈w,zQ c.toNat=true) (hr:cL r) (h:cA r (k+1)):cA (w++r) k:=by
 cases w with
 | nil=>simp at h1
 | cons c l=>
  have hc:zQ c.toNat=true:=hd c (by simp)
  have hlc:aA c.toNat=false:=by
   cases hh:aA c.toNat with
   | false=>rfl
   | true=>
    exfalso
    have h57:(c.toNat:Int)≤57:=by
     unfold zQ at hc
     cases h1:decide ((c.toNat:Int) ≥ 48) <;> rw [h1] at hc
     ·cases hc
     ·exact dG hc
    unfold aA at hh
    rw [er (show ¬ (c.toNat:Int) ≥ 97 by omega),er (show ¬ (c.toNat:Int) ≥ 65 by omega)] at hh
    cases hh
  have hnp:∀ d l',r=d::l'→zQ d.toNat=false:=by
   intro d l' e
   have:=(hr d l' e).1
   unfold bV at this
   cases hh:zQ d.toNat
   ·rfl
   ·rw [hh] at this
    cases hl:aA d.toNat <;> rw [hl] at this <;> cases this
  have hld:fi zQ (l++r)=l.length:=pt zQ l r (fun x hx=>hd x (by simp [hx])) hnp
  refine cA.tok (r:=l++r) (s:=r) (t:=(2,c::l)) (m:=l.length+1) (Ib (p:=zQ) rfl rfl hc) ?_ ?_ ?_ h
  ·unfold fh
   rw [if_neg (by rw [hlc]; simp),if_pos hc,hld]
   simp
  ·have e:aq zQ zQ (c::l)=(c::l).length:=by
    rw [aq,if_pos hc]
    have:=pt zQ l [] (fun x hx=>hd x (by simp [hx])) (by intro _ _ h; cases h)
    rw [nB] at this
    rw [this]
    rfl
   have a1:decide (((c::l).length:Int) ≥ 1)=true:=aZ (by omega)
   have a2:decide (((c::l).length:Int)≤19)=true:=aZ (by omega)
   show (bif decide (((c::l).length:Int) ≥ 1) then bif decide (((c::l).length:Int)≤19) then ((aq zQ zQ (c::l):Int)==((c::l).length:Int)) else false else false)=true
   rw [a1,a2,e]
   simp
  ·simp

theorem cA.sign {c:UInt8} {r:zn} {k:Nat} (hc:c=40∨c=41∨c=44∨c=61∨c=60∨c=43∨c=45∨c=42) (h:cA r (k+1)):cA (c::r) k:=by
 refine cA.tok (r:=r) (s:=r) (t:=(4,[c])) (m:=1) ?_ ?_ ?_ (by simp) h
 ·rcases hc with rfl | rfl | rfl | rfl | rfl | rfl | rfl | rfl <;> rfl
 ·unfold fh
  rcases hc with rfl | rfl | rfl | rfl | rfl | rfl | rfl | rfl <;> (rw [if_neg (by decide),if_neg (by decide),if_neg (by decide)])
 ·rcases hc with rfl | rfl | rfl | rfl | rfl | rfl | rfl | rfl <;> rfl

theorem xi:∀ (t r:zn),r.head?≠some 39→dv (o9 t++39::r)=some (t,(o9 t).length+1)
 | [],r,h=>by
  show dv (39::r)=some ([],1)
  exact xj r h
 | c::t,r,h=>by
  rw [o9]
  split
  ·rename_i hc
   subst hc
   show dv (39::39::(o9 t++39::r))=_
   rw [E5,xi t r h]
   simp
  ·rename_i hc
   show dv (c::(o9 t++39::r))=_
   rw [AI hc,xi t r h]
   simp

theorem cA.quoted {t r:zn} {k:Nat} (ht:fC ((2,0,t):Sem zf)=true) (hr:cL r) (h:cA r (k+1)):cA (39::(o9 t++39::r)) k:=by
 have h39:r.head?≠some 39:=by
  cases r with
  | nil=>simp
  | cons d l=>simpa using (hr d l rfl).2
 refine cA.tok (r:=o9 t++39::r) (s:=r) (t:=(3,t)) (m:=(o9 t).length+1+1) (by rfl) ?_ ht ?_ h
 ·unfold fh
  rw [if_neg (by decide),if_neg (by decide),if_pos rfl,xi t r h39]
 ·simp [List.drop_append]

theorem oe:∀ (f n:Nat),∀ c∈nv f n,zQ c.toNat=true
 | 0,_,c,h=>by cases h
 | f+1,n,c,h=>by
  have hd:∀ m,m < 10→zQ (UInt8.ofNat (48+m)).toNat=true:=by decide
  rw [nv] at h
  split at h
  ·rename_i hn
   rw [bN] at h
   subst h
   exact hd n hn
  ·rcases bB.1 h with h | h
   ·exact oe f _ c h
   ·rw [bN] at h
    subst h
    exact hd (n % 10) (Nat.mod_lt n (by omega))
theorem Lu (f n:Nat):1≤(nv (f+1) n).length:=by
 rw [nv]
 split
 ·simp
 ·simp
theorem uG:∀ (f g n:Nat),n < 10 ^ (g+1)→(nv f n).length≤g+1
 | 0,_,_,_=>by simp [nv]
 | f+1,g,n,h=>by
  rw [nv]
  split
  ·simp
  ·rename_i hn
   cases g with
   | zero=>omega
   | succ g=>
    have:=uG f g (n / 10) (by rw [Nat.pow_succ] at h; omega)
    simp
    omega

theorem cA.val {v:Sem zf} {r:zn} {k:Nat} (hm:fC v=true) (hv:bM .i64 v.2.1) (hr:cL r) (h:cA r (k+2)):cA (fV v++r) k:=by
 obtain ⟨a,n,t⟩:=v
 unfold fV
 rw [if_neg (by rw [hm]; simp)]
 split
 ·show cA (nM n++r) k
  have hlt:n.natAbs < 10 ^ (18+1):=WY n hv
  have hl:=uG 20 18 n.natAbs hlt
  have hp:=Lu 19 n.natAbs
  unfold nM
  split
  ·show cA (45::(nv 20 n.natAbs++r)) k
   exact cA.sign (by simp) (cA.num hp hl (oe 20 _) hr h)
  ·exact cA.num hp hl (oe 20 _) hr (h.mono (by omega))
 ·split
  ·rename_i h1 h2
   have h2:a=(2:Int):=by simpa using h2
   subst h2
   show cA ([39]++Lib.replaceAll t [39] [39,39]++[39]++r) k
   rw [wV]
   have e:[39]++o9 t++[39]++r=39::(o9 t++39::r):=by simp
   rw [e]
   have ht:fC ((2,0,t):Sem zf)=true:=by
    have hn:n=0:=by
     unfold fC at hm
     simp only at hm
     cases hz:(n==(0:Int))
     ·rw [if_neg (by simp),if_neg (by simp),if_pos (by simp),hz] at hm
      cases hm
     ·simpa using hz
    rw [hn] at hm
    exact hm
   exact cA.quoted ht hr (h.mono (by omega))
  ·split
   ·split
    ·exact cA.word (w:=[84,82,85,69]) (by kernel_rfl) hr (h.mono (by omega))
    ·exact cA.word (w:=[70,65,76,83,69]) (by kernel_rfl) hr (h.mono (by omega))
   ·exact cA.word (w:=[78,85,76,76]) (by kernel_rfl) hr (h.mono (by omega))


noncomputable section
abbrev cpR:List CP:=[.d zh]
abbrev Xh:List CP:=[.d .str,.nil,.d zg,.nil,.nil,.d .str,.d zg,.d zg,.d .str,.d .str,.nil,.nil]
abbrev zc5:List CP:=[.d zt,.vec (.sl zf)]
abbrev nE:List CP:=[.d zy]
abbrev eX:List CP:=[.d .str,.d .str,.d .str,.nil,.nil,.d .str,.nil,.nil,.d .str,.d zg,.d zg,.d .str,.d .str,.nil,.nil,.nil,.d .str,.d zg,.d zg,.d .str,.d .str,.nil,.d .str]
abbrev zc6:List CP:=[.d .str,.d .str,.d .str,.d (.sl .str),.d (.sl zi),.d .str,.d (.sl .str),.vec b7,.d .expr,.d (.sl zf),.nil,.d .expr,.d .str]
abbrev zc7:List CP:=[.d .str,.d .str,.d .str,.d (.sl .str),.d (.sl zi),.d .str,.d (.sl .str),.vec b7,.d .expr,.d (.sl zf),.vec aQ,.d .expr,.d .str]

abbrev zeE:Nat→zX:=fun j=>if j=6 then { slots:=[1,2,3,4,5],prom:=[(3,some 11,.sl zf)] } else { }
inductive Fm where
 | h6 (i4:Int) (i5:Int) (z0:zu cpR) (z1:zu Xh) (z2:zu zc5)
abbrev zhd:Fm→Nat×St
 | .h6 i4 i5 z0 z1 z2=>(6,⟨tm 38 [(1,AV.ptr 0 0),(2,AV.ptr 1 0),(3,AV.ptr 2 0),(4,AV.int .i64 i4),(5,AV.int .i64 i5)],[AO.box (bb [] cpR z0),AO.box (bb [] Xh z1),AO.box (bb [3] zc5 z2),AO.vec zf.sl z2.2.1]⟩)
def XS (x0:Sem zh):Tr (Fm ⊕ zV):=
 let a0:=(iD (x0.1.1,x0.1.2.1,x0.1.2.2.1,x0.1.2.2.2.1,x0.1.2.2.2.2.1,zB x0.1.2.2.2.2.2),[],())
 Tr.br (decide ((↑(length x0.2):Int) > 200)) (Tr.to (Fm.h6 201 0 (x0,()) ([],0,[],0,0,[],[],()) a0))
 (Tr.to (Fm.h6 40 0 (x0,()) ([],0,[],0,0,[],[],()) a0))
def KD:Fm→Tr (Fm ⊕ zV)
 | .h6 i4 i5 z0 z1 z2=>
  let a0:=(↑(length z0.1.2):Int)
  let a1:=[nN (getD z0.1.2 i5.toNat (zj zf.sl))]
  Tr.br (bif decide (i5 < a0) then decide (i5 < i4) else false)
  (Tr.chk (zE i5 (length z0.1.2))
   (Tr.chk (decide (z2.2.1.length+a1.length≤1073741824)) (Tr.to (Fm.h6 i4 (IntKind.i64.wrap (i5+1)) z0 z1 (z2.1,z2.2.1++a1,())))))
  (Tr.re
   (AV.agg [AV.str z2.1.1,AV.sl zi z2.1.2.1,AV.int .i64 z2.1.2.2.1,AV.sl zg z2.1.2.2.2.1,AV.sl zp z2.1.2.2.2.2.1,AV.str (ze.op z2.1.2.2.2.2.2),AV.int .i64 (ze.v z2.1.2.2.2.2.2).1,AV.int .i64 (ze.v z2.1.2.2.2.2.2).2.1,AV.str (ze.v z2.1.2.2.2.2.2).2.2,AV.str (ze.s z2.1.2.2.2.2.2),AV.sl Sh.expr (ze.l z2.1.2.2.2.2.2),AV.vec 0])
   [AO.vec zf.sl z2.2.1])
def vP (x0:Sem zh):=zT [zh] KD 100000000 (XS x0)
def Gq (x0:Sem zh):=(vP x0).isSome
def gL (x0:Sem zh):=o1 (vP x0)
def zan:=FT [zh] [zh] fun x=>vP x.1
theorem VL:FK 33 zan:=bK.T1 (f:=Tryz.f33) (keep:=zeE) (e:=zhd)

abbrev zje:Nat→zX:=fun j=>if j=3 then { slots:=[1,2,3,4],prom:=[(3,some 7,b7)] } else if j=7 then { slots:=[1,2,3,5],prom:=[(3,some 15,aQ)] } else { }
inductive TA where
 | h3 (i4:Int) (z0:zu nE) (z1:zu eX) (z2:zu zc6)
 | h7 (i5:Int) (z0:zu nE) (z1:zu eX) (z2:zu zc7)
abbrev e8p:TA→Nat×St
 | .h3 i4 z0 z1 z2=>(3,⟨tm 103 [(1,AV.ptr 0 0),(2,AV.ptr 1 0),(3,AV.ptr 2 0),(4,AV.int .i64 i4)],[AO.box (bb [] nE z0),AO.box (bb [] eX z1),AO.box (bb [3] zc6 z2),AO.vec (Sh.str.pr Sh.str) z2.2.2.2.2.2.2.2.1]⟩)
 | .h7 i5 z0 z1 z2=>(7,⟨tm 103 [(1,AV.ptr 0 0),(2,AV.ptr 1 0),(3,AV.ptr 2 0),(5,AV.int .i64 i5)],[AO.box (bb [] nE z0),AO.box (bb [] eX z1),AO.box (bb [3,4] zc7 z2),AO.vec (Sh.str.pr Sh.str) z2.2.2.2.2.2.2.2.1,AO.vec (Sh.str.pr Sh.expr) z2.2.2.2.2.2.2.2.2.2.2.1]⟩)
def i8p (x0:Sem zy):Tr (TA ⊕ zV):=
 Tr.chk (dY x0.1)
 (Tr.chk (dY x0.2.1)
  (Tr.chk (dY x0.2.2.1) (Tr.chk (dY x0.2.2.2.2.2.1) (Tr.chk (dY x0.2.2.2.2.2.2.2.2.2.2.2.2) (Tr.chk (md x0.2.2.2.1) (Tr.chk (md x0.2.2.2.2.2.2.1) (Tr.to (TA.h3 0 (x0,()) ([],[],[],[],[],0,0,[],[],[],0,0,[],[],[],()) (cN x0.1,cN x0.2.1,cN x0.2.2.1,kR x0.2.2.2.1,sb x0.2.2.2.2.1,
  cN x0.2.2.2.2.2.1,kR x0.2.2.2.2.2.2.1,[],bg (zB x0.2.2.2.2.2.2.2.2.1),nN x0.2.2.2.2.2.2.2.2.2.1,bg (zB x0.2.2.2.2.2.2.2.2.2.2.2.1),cN x0.2.2.2.2.2.2.2.2.2.2.2.2,())))))))))
def t8p:TA→Tr (TA ⊕ zV)
 | .h3 i4 z0 z1 z2=>
  let a0:=(↑(length z0.1.2.2.2.2.2.2.2.1):Int)
  let a1:=zE i4 (length z0.1.2.2.2.2.2.2.2.1)
  let a2:=getD z0.1.2.2.2.2.2.2.2.1 i4.toNat (zj b7)
  let a3:=[(cN a2.1,cN a2.2)]
  Tr.br (bif decide (i4 < a0) then decide (i4 < 10) else false)
  (Tr.chk a1
   (Tr.chk (dY a2.1) (Tr.chk a1 (Tr.chk (dY a2.2) (Tr.chk (decide (z2.2.2.2.2.2.2.2.1.length+a3.length≤1073741824)) (Tr.to (TA.h3 (IntKind.i64.wrap (i4+1)) z0 z1 (z2.1,z2.2.1,z2.2.2.1,z2.2.2.2.1,z2.2.2.2.2.1,z2.2.2.2.2.2.1,z2.2.2.2.2.2.2.1,z2.2.2.2.2.2.2.2.1++a3,z2.2.2.2.2.2.2.2.2))))))))
  (Tr.to
   (TA.h7 0 z0 z1 (z2.1,z2.2.1,z2.2.2.1,z2.2.2.2.1,z2.2.2.2.2.1,z2.2.2.2.2.2.1,z2.2.2.2.2.2.2.1,z2.2.2.2.2.2.2.2.1,z2.2.2.2.2.2.2.2.2.1,z2.2.2.2.2.2.2.2.2.2.1,[],z2.2.2.2.2.2.2.2.2.2.2)))
 | .h7 i5 z0 z1 z2=>
  let a0:=(↑(length z0.1.2.2.2.2.2.2.2.2.2.2.1):Int)
  let a1:=zE i5 (length z0.1.2.2.2.2.2.2.2.2.2.2.1)
  let a2:=getD z0.1.2.2.2.2.2.2.2.2.2.2.1 i5.toNat (zj aQ)
  let a3:=[(cN a2.1,zB (bg (zB a2.2)))]
  Tr.br (bif decide (i5 < a0) then decide (i5 < 10) else false)
  (Tr.chk a1
   (Tr.chk (dY a2.1) (Tr.chk a1 (Tr.chk (decide (z2.2.2.2.2.2.2.2.2.2.2.1.length+a3.length≤1073741824)) (Tr.to (TA.h7 (IntKind.i64.wrap (i5+1)) z0 z1 (z2.1,z2.2.1,z2.2.2.1,z2.2.2.2.1,z2.2.2.2.2.1,z2.2.2.2.2.2.1,z2.2.2.2.2.2.2.1,z2.2.2.2.2.2.2.2.1,z2.2.2.2.2.2.2.2.2.1,z2.2.2.2.2.2.2.2.2.2.1,z2.2.2.2.2.2.2.2.2.2.2.1++a3,z2.2.2.2.2.2.2.2.2.2.2.2)))))))
  (Tr.re
   (AV.agg [AV.str z2.1,AV.str z2.2.1,AV.str z2.2.2.1,AV.sl Sh.str z2.2.2.2.1,AV.sl zi z2.2.2.2.2.1,AV.str z2.2.2.2.2.2.1,AV.sl Sh.str z2.2.2.2.2.2.2.1,AV.vec 0,AV.str (ze.op z2.2.2.2.2.2.2.2.2.1),AV.int .i64 (ze.v z2.2.2.2.2.2.2.2.2.1).1,AV.int .i64 (ze.v z2.2.2.2.2.2.2.2.2.1).2.1,AV.str (ze.v z2.2.2.2.2.2.2.2.2.1).2.2,AV.str (ze.s z2.2.2.2.2.2.2.2.2.1),
   AV.sl Sh.expr (ze.l z2.2.2.2.2.2.2.2.2.1),AV.sl zf z2.2.2.2.2.2.2.2.2.2.1,AV.vec 1,AV.str (ze.op z2.2.2.2.2.2.2.2.2.2.2.2.1),AV.int .i64 (ze.v z2.2.2.2.2.2.2.2.2.2.2.2.1).1,AV.int .i64 (ze.v z2.2.2.2.2.2.2.2.2.2.2.2.1).2.1,AV.str (ze.v z2.2.2.2.2.2.2.2.2.2.2.2.1).2.2,AV.str (ze.s z2.2.2.2.2.2.2.2.2.2.2.2.1),
   AV.sl Sh.expr (ze.l z2.2.2.2.2.2.2.2.2.2.2.2.1),AV.str z2.2.2.2.2.2.2.2.2.2.2.2.2.1])
   [AO.vec (Sh.str.pr Sh.str) z2.2.2.2.2.2.2.2.1,AO.vec (Sh.str.pr Sh.expr) z2.2.2.2.2.2.2.2.2.2.2.1])
def BS (x0:Sem zy):=zT [zy] t8p 100000000 (i8p x0)
def Gp (x0:Sem zy):=(BS x0).isSome
def No (x0:Sem zy):=o1 (BS x0)
def F8p:=FT [zy] [zy] fun x=>BS x.1
theorem Ts:FK 10 F8p:=bK.T1 (f:=Tryz.f10) (keep:=zje) (e:=e8p)

def TN:=fI.addL [(33,zan),(10,F8p)]
theorem yP:zm TN:=bK.addL <| fc VL <| fc Ts gW
end
noncomputable section

abbrev zi7:Nat→zX:=fun j=>if j=3 then { slots:=[0,3,4],prom:=[(3,none,zh)] } else { }
inductive Zx where
 | h3 (l0:List (Sem zh)) (i4:Int) (lh_0:List (Sem zh))
abbrev e7p:Zx→Nat×St
 | .h3 l0 i4 lh_0=>(3,⟨tm 24 [(0,AV.sl zh l0),(3,AV.vec 0),(4,AV.int .i64 i4)],[AO.vec zh lh_0]⟩)
def i7p (x0:Sem zh.sl):Tr (Zx ⊕ zV):=
 Tr.to (Zx.h3 x0 0 [])
def t7p:Zx→Tr (Zx ⊕ zV)
 | .h3 l0 i4 lh_0=>
  let a0:=l0.getD i4.toNat (zj zh)
  let a1:=((a0.1.1,a0.1.2.1,a0.1.2.2.1,a0.1.2.2.2.1,a0.1.2.2.2.2.1,zB a0.1.2.2.2.2.2),a0.2)
  let a2:=gL a1
  let a3:=[((a2.1.1,a2.1.2.1,a2.1.2.2.1,a2.1.2.2.2.1,a2.1.2.2.2.2.1,zB a2.1.2.2.2.2.2),a2.2)]
  Tr.br (bif decide (i4 < (↑l0.length:Int)) then decide (i4 < 13) else false)
  (Tr.chk (zE i4 l0.length)
   (Tr.chk (Gq a1) (Tr.chk (decide (lh_0.length+a3.length≤1073741824)) (Tr.to (Zx.h3 l0 (IntKind.i64.wrap (i4+1)) (lh_0++a3))))))
  (Tr.re (AV.vec 0)
   [AO.vec zh lh_0])
def vQ (x0:Sem zh.sl):=zT [zh.sl] t7p 100000000 (i7p x0)
def Gr (x0:Sem zh.sl):=(vQ x0).isSome
def jb (x0:Sem zh.sl):=o1 (vQ x0)
def F7p:=FT [zh.sl] [zh.sl] fun x=>vQ x.1
theorem Tq:FK 14 F7p:=yP.T1 (f:=Tryz.f14) (keep:=zi7) (e:=e7p)

def HH:=TN.add 14 F7p
theorem mK:zm HH:=yP.add Tq
end
noncomputable section
abbrev zJ:List CP:=[.d (.sl zp),.d zg,.d .bool]

def zd6 (x0:Sem (Sh.int IntKind.u8)):Tr (Empty ⊕ zV):=
 let a0:=bif decide (97≤x0) then decide (x0≤122) else false
 Tr.re (AV.bool (bif decide (65≤x0) then bif decide (x0≤90) then true else a0 else a0)) []
def ro (x0:Sem (Sh.int IntKind.u8)):=zT [Sh.bool] t0 100000000 (zd6 x0)
def km (x0:Sem (Sh.int IntKind.u8)):=(ro x0).isSome
def pJ (x0:Sem (Sh.int IntKind.u8)):=o1 (ro x0)
def SH:=FT [Sh.int IntKind.u8] [Sh.bool] fun x=>ro x.1
theorem PN:FK 177 SH:=mK.T1 (f:=Tryz.f177) (keep:=k0) (e:=e0)

def zd9 (x0:Sem (Sh.int IntKind.u8)):Tr (Empty ⊕ zV):=
 Tr.re (AV.bool (bif decide (48≤x0) then decide (x0≤57) else false)) []
def wL (x0:Sem (Sh.int IntKind.u8)):=zT [Sh.bool] t0 100000000 (zd9 x0)
def fP (x0:Sem (Sh.int IntKind.u8)):=(wL x0).isSome
def iC (x0:Sem (Sh.int IntKind.u8)):=o1 (wL x0)
def SL:=FT [Sh.int IntKind.u8] [Sh.bool] fun x=>wL x.1
theorem PR:FK 179 SL:=mK.T1 (f:=Tryz.f179) (keep:=k0) (e:=e0)

abbrev M8:Nat→zX:=fun _=>{ }
theorem YA:zA HH.P 113 Tryz.f113 2:=aJ (by kernel_rfl)
def MD (y:zu zJ) (x0:TS):Tr (Empty ⊕ zV):=
 let a0:=decide (y.2.1 < (↑(length y.1):Int))
 let a1:=zE y.2.1 (length y.1)
 let a2:=getD y.1 (Int.toNat y.2.1) (zj zp)
 let a3:=a2.1==1
 let a4:=a2.1==4
 let a5:=a2.2==x0
 Tr.chk (bif a0 then a1&&bif a3 then a1 else a1&&bif a4 then a1 else true else true)
 (Tr.re (AV.bool (bif a0 then bif a3 then a5 else bif a4 then a5 else false else false)) (bQ zJ y))
theorem Xw (y:zu zJ) (x0:TS):rn HH 1 M8 Tryz.f113 [AV.ptr 0 0,zz Sh.str x0] (bQ zJ y)=(MD y x0).map (lf Tryz.f113 e0):=by kernel_rfl
def OJ (y:zu zJ) (x0:TS):Option (zw (List.map some [Sh.bool])×zu zJ):=xZ [Sh.bool] zJ t0 100000000 (MD y x0)
def jN (y:zu zJ) (x0:TS):Bool:=(OJ y x0).isSome
def mt (y:zu zJ) (x0:TS):(Sem Sh.bool)×zu zJ:=(fun r:zw (List.map some [Sh.bool])×zu zJ=>(r.1.1,r.2)) ((OJ y x0).getD (bT [Sh.bool],fH zJ))
def Sr:zD:=xM zJ [Sh.str] [Sh.bool] zJ (fun y x=>jN y x.1) fun y x=>(((mt y x.1).1,()),(mt y x.1).2)
theorem Py:FK 113 Sr:=qi (ps:=zJ) (ks:=[Sh.str]) (outs:=[Sh.bool]) (keep:=M8) (gas:=400) (n:=100000000) (e:=e0) (t:=t0) (i:=fun y x=>MD y x.1) mK YA (fun y x=>Xw y x.1) (KO _ _ _ _ _) (fun _ _=>by kernel_rfl) (fun _ _=>by kernel_rfl)

def lV:=HH.addL [(177,SH),(179,SL),(113,Sr)]
theorem gp:zm lV:=mK.addL <| fc PN <| fc PR <| fc Py gW
end
noncomputable section

abbrev X7:=jJ [(2,[1,3])]
inductive tK where
 | h2 (i3:Int) (z0:zu [CP.d zf])
abbrev zdb:tK→Nat×St
 | .h2 i3 z0=>(2,⟨tm 66 [(1,AV.ptr 0 0),(3,AV.int .i64 i3)],[AO.box (bb [] [CP.d zf] z0)]⟩)
def zdX (x0:Sem zf):Tr (tK ⊕ zV):=
 Tr.to (tK.h2 0 (x0,()))
def zgx:tK→Tr (tK ⊕ zV)
 | .h2 i3 z0=>
  let a0:=(↑(length z0.1.2.2):Int)
  let a1:=zE i3 (length z0.1.2.2)
  let a2:=(↑(getD z0.1.2.2 i3.toNat 0).toNat:Int)
  let a3:=decide (a2 < 32)
  let a4:=z0.1.2.1==0
  let a5:=z0.1.2.2==[]
  Tr.br (decide (i3 < a0))
  (Tr.chk (a1&&bif a3 then true else a1)
   (Tr.br (bif a3 then true else decide (a2 > 126)) (Tr.re (AV.kb false) []) (Tr.to (tK.h2 (IntKind.i64.wrap (i3+1)) z0))))
  (Tr.br (z0.1.1==0) (Tr.re (AV.bool (bif a4 then a5 else false)) [])
   (Tr.br (z0.1.1==1) (Tr.re (AV.bool a5) []) (Tr.br (z0.1.1==2) (Tr.re (AV.bool (bif a4 then decide (a0≤40) else false)) []) (Tr.br (z0.1.1==3) (Tr.re (AV.bool (bif a4 then a5 else bif z0.1.2.1==1 then a5 else false)) []) (Tr.re (AV.kb false) [])))))
def GD (x0:Sem zf):=zT [Sh.bool] zgx 100000000 (zdX x0)
def mn (x0:Sem zf):=(GD x0).isSome
def wn (x0:Sem zf):=o1 (GD x0)
def Sf:=FT [zf] [Sh.bool] fun x=>GD x.1
theorem Pn:FK 121 Sf:=gp.T1 (f:=Tryz.f121) (keep:=X7) (e:=zdb)

def zeb (x0:Sem Sh.bool):Tr (Empty ⊕ zV):=
 Tr.br x0 (Tr.re (AV.agg [AV.int .i64 3,AV.int .i64 1,AV.str []]) []) (Tr.re (AV.agg [AV.int .i64 3,AV.int .i64 0,AV.str []]) [])
def wt (x0:Sem Sh.bool):=zT [zf] t0 100000000 (zeb x0)
def kl (x0:Sem Sh.bool):=(wt x0).isSome
def aK (x0:Sem Sh.bool):=o1 (wt x0)
def SQ:=FT [Sh.bool] [zf] fun x=>wt x.1
theorem PV:FK 188 SQ:=gp.T1 (f:=Tryz.f188) (keep:=k0) (e:=e0)

abbrev Nd:Nat→zX:=fun _=>{ }
theorem YI:zA lV.P 276 Tryz.f276 1:=aJ (by kernel_rfl)
def MH (x0:TS):Tr (Empty ⊕ zV):=
 Tr.re
 (AV.bool
  (bif x0==[97,110,100] then true
  else bif x0==[111,114] then true else bif x0==[61] then true else bif x0==[60] then true else bif x0==[43] then true else x0==[45]))
 []
theorem XH (x0:TS):rn lV 0 Nd Tryz.f276 [zz Sh.str x0] []=(MH x0).map (lf Tryz.f276 e0):=by kernel_rfl
def Oo (x0:TS):Option (zw (List.map some [Sh.bool])):=zT [Sh.bool] t0 100000000 (MH x0)
def On (x0:TS):Bool:=(Oo x0).isSome
def UQ (x0:TS):Sem Sh.bool:=(fun r:zw (List.map some [Sh.bool])=>r.1) ((Oo x0).getD (bT [Sh.bool]))
def S4:zD:=zC [Sh.str] [Sh.bool] (fun x=>On x.1) fun x=>(UQ x.1,())
theorem P9:FK 276 S4:=gX (ks:=[Sh.str]) (outs:=[Sh.bool]) (keep:=Nd) (gas:=400) (n:=100000000) (e:=e0) (t:=t0) (i:=fun x=>MH x.1) gp YI (fun x=>XH x.1) (KO _ _ _ _ _) (fun _=>by kernel_rfl) (fun _=>by kernel_rfl)

abbrev Nk:Nat→zX:=fun j=>if j=2 then { slots:=[0,1,5] } else { }
inductive A2 where
 | h2 (l0:LC) (s1:TS) (i5:Int)
abbrev Lv:A2→Nat×St
 | .h2 l0 s1 i5=>(2,⟨tm 20 [(0,AV.sl zi l0),(1,AV.str s1),(5,AV.int .i64 i5)],[]⟩)
theorem zfv:zA lV.P 119 Tryz.f119 2:=aJ (by kernel_rfl)
def XV (x0:Sem zi.sl) (x1:TS):Tr (A2 ⊕ zV):=
 Tr.to (A2.h2 x0 x1 0)
def R1 (l0:LC) (s1:TS) (i5:Int) (a0:Sem zi):Tr (A2 ⊕ zV):=
 Tr.br (decide (i5 < (↑l0.length:Int)))
 (Tr.chk (zE i5 l0.length) (Tr.br (a0.1==s1) (Tr.re (AV.int .i64 i5) []) (Tr.to (A2.h2 l0 s1 (IntKind.i64.wrap (i5+1))))))
 (Tr.re (AV.int .i64 (-1)) [])
def Zt (l0:LC) (s1:TS) (i5:Int):Tr (A2 ⊕ zV):=
 let a0:=l0.getD i5.toNat (zj zi)
 R1 l0 s1 i5 a0
theorem zdE (x0:Sem zi.sl) (x1:TS):rn lV 0 Nk Tryz.f119 [zz zi.sl x0,zz Sh.str x1] []=(XV x0 x1).map (lf Tryz.f119 Lv):=by kernel_rfl
def Zs:A2→Tr (A2 ⊕ zV)
 | .h2 l0 s1 i5=>Zt l0 s1 i5
theorem zga:∀ s,run lV 0 Nk (Func.results Tryz.f119).toList 400 (zx Tryz.f119 (Lv s).1) (Lv s).2=(Zs s).map (lf Tryz.f119 Lv)
 | .h2 l0 s1 i5=>by kernel_rfl
def EE (x0:Sem zi.sl) (x1:TS):Option (zw (List.map some [zg])):=zT [zg] Zs 100000000 (XV x0 x1)
def pH (x0:Sem zi.sl) (x1:TS):Bool:=(EE x0 x1).isSome
def IR (x0:Sem zi.sl) (x1:TS):Sem zg:=(fun r:zw (List.map some [zg])=>r.1) ((EE x0 x1).getD (bT [zg]))
def zaG:zD:=zC [zi.sl,Sh.str] [zg] (fun x=>pH x.1 x.2.1) fun x=>(IR x.1 x.2.1,())
theorem V8:FK 119 zaG:=gX (ks:=[zi.sl,Sh.str]) (outs:=[zg]) (keep:=Nk) (gas:=400) (n:=100000000) (e:=Lv) (t:=Zs) (i:=fun x=>XV x.1 x.2.1) gp zfv (fun x=>zdE x.1 x.2.1) zga (fun _=>by kernel_rfl) (fun _=>by kernel_rfl)

def DF (g:Sem Sh.expr→Sem Sh.expr→Sem Sh.bool) (c:Sem Sh.expr→Sem Sh.expr→Bool):bf:=lV.add 103 (zC [Sh.expr,Sh.expr] [Sh.bool] (fun x=>c x.1 x.2.1) fun x=>(g x.1 x.2.1,()))
theorem JM {g:Sem Sh.expr→Sem Sh.expr→Sem Sh.bool} {c:Sem Sh.expr→Sem Sh.expr→Bool} (hg:FK 103 (zC [Sh.expr,Sh.expr] [Sh.bool] (fun x=>c x.1 x.2.1) fun x=>(g x.1 x.2.1,()))):zm (DF g c):=gp.add hg
abbrev Nm:Nat→zX:=fun j=>if j=4 then { slots:=[2,3,5] } else { }
inductive A5 where
 | h4 (i5:Int) (z0:zu [CP.d Sh.expr]) (z1:zu [CP.d Sh.expr])
abbrev LA:A5→Nat×St
 | .h4 i5 z0 z1=>(4,⟨tm 53 [(2,AV.ptr 0 0),(3,AV.ptr 1 0),(5,AV.int .i64 i5)],[AO.box (bb [] [CP.d Sh.expr] z0),AO.box (bb [] [CP.d Sh.expr] z1)]⟩)
theorem zfS (g:Sem Sh.expr→Sem Sh.expr→Sem Sh.bool) (c:Sem Sh.expr→Sem Sh.expr→Bool):zA (DF g c).P 103 Tryz.f103 2:=aJ (by kernel_rfl)
def J5 (_:Sem Sh.expr→Sem Sh.expr→Sem Sh.bool) (_:Sem Sh.expr→Sem Sh.expr→Bool) (x0:Sem Sh.expr) (x1:Sem Sh.expr):Tr (A5 ⊕ zV):=
 Tr.br
 (bif !ze.op x0==ze.op x1 then true
 else
  bif !((ze.v x0).1==(ze.v x1).1&&((ze.v x0).2.1==(ze.v x1).2.1&&((ze.v x0).2.2==(ze.v x1).2.2&&true))) then true
  else bif !ze.s x0==ze.s x1 then true else (↑(ze.l x0).length:Int) != (↑(ze.l x1).length:Int))
 (Tr.re (AV.kb false) []) (Tr.to (A5.h4 0 (x0,()) (x1,())))
def CM (g:Sem Sh.expr→Sem Sh.expr→Sem Sh.bool) (c:Sem Sh.expr→Sem Sh.expr→Bool) (i5:Int) (z0:zu [CP.d Sh.expr]) (z1:zu [CP.d Sh.expr]) (a0:Int) (a1:ze) (a2:ze):Tr (A5 ⊕ zV):=
 Tr.br (decide (i5 < a0))
 (Tr.chk (zE i5 (ze.l z0.1).length)
  (Tr.chk (zE i5 (ze.l z1.1).length) (Tr.chk (c a1 a2) (Tr.br (!g a1 a2) (Tr.re (AV.kb false) []) (Tr.to (A5.h4 (IntKind.i64.wrap (i5+1)) z0 z1))))))
 (Tr.re (AV.kb true) [])
def Ha (g:Sem Sh.expr→Sem Sh.expr→Sem Sh.bool) (c:Sem Sh.expr→Sem Sh.expr→Bool) (i5:Int) (z0:zu [CP.d Sh.expr]) (z1:zu [CP.d Sh.expr]):Tr (A5 ⊕ zV):=
 let a0:=(↑(ze.l z0.1).length:Int)
 let a1:=zB ((ze.l z0.1).getD i5.toNat (zj Sh.expr))
 let a2:=zB ((ze.l z1.1).getD i5.toNat (zj Sh.expr))
 CM g c i5 z0 z1 a0 a1 a2
theorem zdO (g:Sem Sh.expr→Sem Sh.expr→Sem Sh.bool) (c:Sem Sh.expr→Sem Sh.expr→Bool) (x0:Sem Sh.expr) (x1:Sem Sh.expr):rn (DF g c) 0 Nm Tryz.f103 [zz Sh.expr x0,zz Sh.expr x1] []=(J5 g c x0 x1).map (lf Tryz.f103 LA):=by kernel_rfl
def CL (g:Sem Sh.expr→Sem Sh.expr→Sem Sh.bool) (c:Sem Sh.expr→Sem Sh.expr→Bool):A5→Tr (A5 ⊕ zV)
 | .h4 i5 z0 z1=>Ha g c i5 z0 z1
theorem zgi (g:Sem Sh.expr→Sem Sh.expr→Sem Sh.bool) (c:Sem Sh.expr→Sem Sh.expr→Bool):∀ s,run (DF g c) 0 Nm (Func.results Tryz.f103).toList 400 (zx Tryz.f103 (LA s).1) (LA s).2=(CL g c s).map (lf Tryz.f103 LA)
 | .h4 i5 z0 z1=>by kernel_rfl
def eK (o:Option (zw (List.map some [Sh.bool]))):Sem Sh.bool:=(fun r:zw (List.map some [Sh.bool])=>r.1) (o.getD (bT [Sh.bool]))
def IJ (g:Sem Sh.expr→Sem Sh.expr→Sem Sh.bool) (c:Sem Sh.expr→Sem Sh.expr→Bool) (x0:Sem Sh.expr) (x1:Sem Sh.expr):Option (zw (List.map some [Sh.bool])):=zT [Sh.bool] (CL g c) 3000000000 (J5 g c x0 x1)
def bd:Nat→Sem Sh.expr→Sem Sh.expr→Option (zw (List.map some [Sh.bool]))
 | 0=>fun _ _=>none
 | n+1=>IJ (fun x0 x1=>eK (bd n x0 x1)) fun x0 x1=>(bd n x0 x1).isSome
theorem X2:zA lV.P 103 Tryz.f103 2:=aJ (by kernel_rfl)
theorem Hl:∀ n,FK 103 (zC [Sh.expr,Sh.expr] [Sh.bool] (fun x=>(bd n x.1 x.2.1).isSome) fun x=>(eK (bd n x.1 x.2.1),()))
 | 0=>cP ⟨Tryz.f103,X2.1,X2.2.1,X2.2.2.1⟩ (fun _=>rfl)
 | n+1=>gX (E:=DF (fun x0 x1=>eK (bd n x0 x1)) (fun x0 x1=>(bd n x0 x1).isSome)) (ks:=[Sh.expr,Sh.expr]) (outs:=[Sh.bool]) (keep:=Nm) (gas:=400) (n:=3000000000) (e:=LA) (t:=CL (fun x0 x1=>eK (bd n x0 x1)) (fun x0 x1=>(bd n x0 x1).isSome)) (i:=fun x=>J5 (fun x0 x1=>eK (bd n x0 x1)) (fun x0 x1=>(bd n x0 x1).isSome) x.1 x.2.1) (JM (Hl n)) (zfS _ _) (fun x=>zdO _ _ x.1 x.2.1) (zgi _ _) (fun _=>by kernel_rfl) (fun _=>by kernel_rfl)
def B6 (x0:Sem Sh.expr) (x1:Sem Sh.expr):Option (zw (List.map some [Sh.bool])):=bd 16 x0 x1
def fO (x0:Sem Sh.expr) (x1:Sem Sh.expr):Bool:=(B6 x0 x1).isSome
def fN (x0:Sem Sh.expr) (x1:Sem Sh.expr):Sem Sh.bool:=eK (B6 x0 x1)
def za3:zD:=zC [Sh.expr,Sh.expr] [Sh.bool] (fun x=>fO x.1 x.2.1) fun x=>(fN x.1 x.2.1,())
theorem Wz:FK 103 za3:=Hl 16

def uK (g:Sem Sh.expr→Sem zg) (c:Sem Sh.expr→Bool):bf:=lV.add 245 (zC [Sh.expr] [zg] (fun x=>c x.1) fun x=>(g x.1,()))
theorem FJ {g:Sem Sh.expr→Sem zg} {c:Sem Sh.expr→Bool} (hg:FK 245 (zC [Sh.expr] [zg] (fun x=>c x.1) fun x=>(g x.1,()))):zm (uK g c):=gp.add hg
abbrev Gm:Nat→zX:=fun j=>if j=3 then { slots:=[1,3,4] } else { }
inductive oP where
 | h3 (i3:Int) (i4:Int) (z0:zu [CP.d Sh.expr])
abbrev Dw:oP→Nat×St
 | .h3 i3 i4 z0=>(3,⟨tm 21 [(1,AV.ptr 0 0),(3,AV.int .i64 i3),(4,AV.int .i64 i4)],[AO.box (bb [] [CP.d Sh.expr] z0)]⟩)
theorem YH (g:Sem Sh.expr→Sem zg) (c:Sem Sh.expr→Bool):zA (uK g c).P 245 Tryz.f245 1:=aJ (by kernel_rfl)
def MG (_:Sem Sh.expr→Sem zg) (_:Sem Sh.expr→Bool) (x0:Sem Sh.expr):Tr (oP ⊕ zV):=
 Tr.to (oP.h3 1 0 (x0,()))
def O2 (g:Sem Sh.expr→Sem zg) (c:Sem Sh.expr→Bool) (i3:Int) (i4:Int) (z0:zu [CP.d Sh.expr]) (a0:Int) (a1:ze):Tr (oP ⊕ zV):=
 Tr.br (decide (i4 < a0))
 (Tr.chk (zE i4 (ze.l z0.1).length) (Tr.chk (c a1) (Tr.to (oP.h3 (IntKind.i64.wrap (i3+g a1)) (IntKind.i64.wrap (i4+1)) z0))))
 (Tr.re (AV.int .i64 i3) [])
def RZ (g:Sem Sh.expr→Sem zg) (c:Sem Sh.expr→Bool) (i3:Int) (i4:Int) (z0:zu [CP.d Sh.expr]):Tr (oP ⊕ zV):=
 let a0:=(↑(ze.l z0.1).length:Int)
 let a1:=zB ((ze.l z0.1).getD i4.toNat (zj Sh.expr))
 O2 g c i3 i4 z0 a0 a1
theorem XE (g:Sem Sh.expr→Sem zg) (c:Sem Sh.expr→Bool) (x0:Sem Sh.expr):rn (uK g c) 0 Gm Tryz.f245 [zz Sh.expr x0] []=(MG g c x0).map (lf Tryz.f245 Dw):=by kernel_rfl
def Jd (g:Sem Sh.expr→Sem zg) (c:Sem Sh.expr→Bool):oP→Tr (oP ⊕ zV)
 | .h3 i3 i4 z0=>RZ g c i3 i4 z0
theorem YT (g:Sem Sh.expr→Sem zg) (c:Sem Sh.expr→Bool):∀ s,run (uK g c) 0 Gm (Func.results Tryz.f245).toList 400 (zx Tryz.f245 (Dw s).1) (Dw s).2=(Jd g c s).map (lf Tryz.f245 Dw)
 | .h3 i3 i4 z0=>by kernel_rfl
def jc (o:Option (zw (List.map some [zg]))):Sem zg:=(fun r:zw (List.map some [zg])=>r.1) (o.getD (bT [zg]))
def Om (g:Sem Sh.expr→Sem zg) (c:Sem Sh.expr→Bool) (x0:Sem Sh.expr):Option (zw (List.map some [zg])):=zT [zg] (Jd g c) 100000000 (MG g c x0)
def cX:Nat→Sem Sh.expr→Option (zw (List.map some [zg]))
 | 0=>fun _=>none
 | n+1=>Om (fun x0=>jc (cX n x0)) fun x0=>(cX n x0).isSome
theorem MY:zA lV.P 245 Tryz.f245 1:=aJ (by kernel_rfl)
theorem C6:∀ n,FK 245 (zC [Sh.expr] [zg] (fun x=>(cX n x.1).isSome) fun x=>(jc (cX n x.1),()))
 | 0=>cP ⟨Tryz.f245,MY.1,MY.2.1,MY.2.2.1⟩ (fun _=>rfl)
 | n+1=>gX (E:=uK (fun x0=>jc (cX n x0)) (fun x0=>(cX n x0).isSome)) (ks:=[Sh.expr]) (outs:=[zg]) (keep:=Gm) (gas:=400) (n:=100000000) (e:=Dw) (t:=Jd (fun x0=>jc (cX n x0)) (fun x0=>(cX n x0).isSome)) (i:=fun x=>MG (fun x0=>jc (cX n x0)) (fun x0=>(cX n x0).isSome) x.1) (FJ (C6 n)) (YH _ _) (fun x=>XE _ _ x.1) (YT _ _) (fun _=>by kernel_rfl) (fun _=>by kernel_rfl)
def EC (x0:Sem Sh.expr):Option (zw (List.map some [zg])):=cX 16 x0
def EB (x0:Sem Sh.expr):Bool:=(EC x0).isSome
def IP (x0:Sem Sh.expr):Sem zg:=jc (EC x0)
def SP:zD:=zC [Sh.expr] [zg] (fun x=>EB x.1) fun x=>(IP x.1,())
theorem PU:FK 245 SP:=C6 16

def Bu:=lV.addL [(121,Sf),(188,SQ),(276,S4),(119,zaG),(103,za3),(245,SP)]
theorem iV:zm Bu:=gp.addL <| fc Pn <| fc PV <| fc P9 <| fc V8 <| fc Wz <| fc PU gW
end
end Cad
