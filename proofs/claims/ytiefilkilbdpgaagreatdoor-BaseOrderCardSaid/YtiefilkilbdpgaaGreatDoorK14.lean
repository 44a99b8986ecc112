/- Tables with rows that may be: no value twice. Tables with rows that may be. Bases that may be. Small things about lists and places. Bases from whose tables rows are taken. Bases from whose tables rows are taken, and into which rows are put: the laws. Rows that a condition meets: what rel.Where answers. Bases: the keys that are met, rows that are taken out: what is answered. Bases: what a SELECT and a DELETE answer. Bases: what a DELETE answers. Texts: an octet replaced by two, two by one; tokens. A DELETE may be where the SELECT of the same may be. Few tables, few statements. Few bases. The document's reader: letters, words. The document's values; names' places; expressions, counted, held against one another. The document's reader: parts, passing. The document's reader: names. The document's values that are known; expressions' forms and types; the same tables. The document's order, logic; expressions that may be; the same plans. The document's texts of numbers. The document's texts of values. -/
import Derived.Test.YtiefilkilbdpgaaGreatDoorK12
import Derived.Test.YtiefilkilbdpgaaGreatDoorK13
namespace Cad
open Go Go.Proofs
open Int (toNat)
open List (getD)
open List (length)
set_option maxHeartbeats 4000000

abbrev bh (c:Int) (r:List (Sem zf)):Sem zf:=getD r (toNat c) (zj zf)
def xz (rows:List (List (Sem zf))) (c:Int):Prop:=rows.Pairwise fun a b=>(bh c a).1≠0→bh c a≠bh c b

theorem lI:∀ (es:List ((Int×Int×zq)×Int)) (k:Int×Int×zq) (x:Int),gu (gk es k) (iv es k) x=jb es k x
 | [],k,x=>by simp [gk,fL,iv,gu,jb]
 | p::r,k,x=>by
  have h:=lI r k x
  cases hk:(k==p.1) with
  | true=>
   have e:k=p.1:=fR hk
   simp [gk,fL,iv,gu,jb,e]
  | false=>
   have e:gk (p::r) k=p::gk r k:=by
    simp only [gk,fL,List.any_cons,hk,Bool.false_or]
    cases (r.any fun p=>k==p.1) <;> rfl
   rw [e,iv,jb,hk]
   show p::gu (gk r k) (iv r k) x=p::jb r k x
   rw [h]
theorem xr (es:List ((Int×Int×zq)×Int)) (k k':Int×Int×zq) (x:Int):ef (jb es k x) k'=if k'=k then x else ef es k':=by
 induction es with
 | nil=>
  by_cases h:k'=k
  ·subst h; simp [jb,ef]
  ·simp [jb,ef,h]
 | cons p r ih=>
  rw [jb]
  cases hk:(k==p.1) with
  | true=>
   have e:k=p.1:=fR hk
   by_cases h:k'=k
   ·simp [ef,h]
   ·have h2:(k'==p.1)=false:=by rw [← e]; simpa using h
    have h3:(k'==k)=false:=by simpa using h
    simp only [bG,ef,List.find?_cons,h2,h3,if_neg h]
  | false=>
   show ef (p::jb r k x) k'=_
   cases hp:(k'==p.1) with
   | true=>
    have e:k'=p.1:=fR hp
    have h:k'≠k:=by intro h; rw [← h,hp] at hk; cases hk
    simp only [ef,List.find?_cons,hp,if_neg h]
   | false=>
    simp only [ef,List.find?_cons,hp] at ih ⊢
    exact ih

def n9:List (Sem zf)→List ((Int×Int×zq)×Int)
 | []=>[]
 | v::r=>jb (n9 r) v (IntKind.i64.wrap (ef (n9 r) v+1))
theorem BA:∀ l:List (Sem zf),(n9 l).length≤l.length
 | []=>aS _
 | v::r=>by
  rw [n9,← lI,uX]
  have:=KO (n9 r) v
  have:=BA r
  simp; omega
theorem tU:∀ (l:List (Sem zf)) (v:Sem zf),l.length≤1000000→ef (n9 l) v=(l.count v:Int)
 | [],v,_=>by simp [n9,ef]
 | u::r,v,h=>by
  simp only [nC] at h
  have h1:=tU r u (by omega)
  have h2:=tU r v (by omega)
  have h3:r.count u≤r.length:=List.count_le_length
  rw [n9,xr,h1,h2,zG _ (by unfold zD; omega)]
  by_cases e:v=u
  ·subst e; simp
  ·have e':¬ (u==v)=true:=by intro h; exact e (fR h).symm
   rw [if_neg e,List.count_cons,if_neg e']; rfl

theorem BO {x:Sem zh} {c:Int} (hc:∀ r∈x.2,zJ c (length r)=true) (hl:x.2.length≤1000000):∃ b,rt x c=some (b,())∧(b=false↔xz x.2 c):=by
  let key:Nat→Sem zf:=fun i=>bh c (getD x.2 i (zj zf.sl))
  let mm:Nat→List ((Int×Int×zq)×Int):=fun i=>n9 (((x.2.take i).map (bh c)).reverse)
  have hm:∀ i,i < x.2.length→mm (i+1)=jb (mm i) (key i) (IntKind.i64.wrap (ef (mm i) (key i)+1)):=by
    intro i hi
    show n9 (((x.2.take (i+1)).map (bh c)).reverse)=_
    rw [List.take_succ_eq_append_getElem hi,rY,List.reverse_append]
    show n9 (bh c x.2[i]::_)=_
    rw [n9]
    have:key i=bh c x.2[i]:=by
      show bh c (getD x.2 i _)=_
      rw [aB,zI hi,bw]
    rw [this]
    rfl
  have hlen:∀ i,i≤x.2.length→(mm i).length≤i:=by
    intro i hi
    have:=BA (((x.2.take i).map (bh c)).reverse)
    simp at this
    have h2:(mm i).length=(n9 (((x.2.take i).map (bh c)).reverse)).length:=rfl
    simp at h2
    omega
  have hget:∀ i v,i≤x.2.length→ef (mm i) v=((((x.2.take i).map (bh c)).count v:Nat):Int):=by
    intro i v hi
    show ef (n9 _) v=_
    rw [tU _ _ (by simp; omega),List.count_reverse]
  have hf:=Hq (t:=qH) (Φ:=fun r=>zY r.2 [Sh.bool] r.1=some (true,())) 1 (fun i=>.h3 c x.2 (x.2.length:Int) (i:Int) (mm i)) (fun i=>(key i).1≠0→((x.2.take i).map (bh c)).count (key i)=0) x.2.length (by
    intro i hi _
    have k0:getD x.2 (i:Int).toNat (zj zf.sl)=getD x.2 i (zj zf.sl):=by rw [bP]
    have k1:getD x.2 i (zj zf.sl)=x.2[i]:=by rw [aB,zI hi,bw]
    have k2:zJ c (length x.2[i])=true:=hc _ (cR hi)
    have k3:key i=bh c x.2[i]:=by show bh c (getD x.2 i _)=_; rw [k1]
    have k4:zJ ((iv (mm i) (key i):Nat):Int) (gk (mm i) (key i)).length=true:=zF (Nu _ _)
    have k5:decide ((mm i).length≤1073741824)=true:=bx (by have:=hlen i (by omega); omega)
    have k6:gu (gk (mm i) (key i)) ((iv (mm i) (key i):Nat):Int).toNat (IntKind.i64.wrap (ef (mm i) (key i)+1))=mm (i+1):=by rw [bP,lI,hm i hi]
    have k7:ef (mm (i+1)) (key i)=((((x.2.take i).map (bh c)).count (key i)+1:Nat):Int):=by
      have h3:((x.2.take i).map (bh c)).count (key i)≤((x.2.take i).map (bh c)).length:=List.count_le_length
      simp only [v8,List.length_take] at h3
      rw [hm i hi,xr,if_pos rfl,hget i _ (by omega),zG _ (by unfold zD; omega)]
    have hv:(qH (.h3 c x.2 (x.2.length:Int) (i:Int) (mm i))).val=if (bif (key i).1 != 0 then decide (((((x.2.take i).map (bh c)).count (key i)+1:Nat):Int) > 1) else false)=true then some (.inr (.kb true,[])) else some (.inl (.h3 c x.2 (x.2.length:Int) ((i+1:Nat):Int) (mm (i+1)))):=by
      show (qH (.h3 c x.2 _ _ _)).val=_
      unfold qH
      simp only [k0,k1]
      rw [show getD x.2[i] (toNat c) (zj zf)=key i from k3.symm]
      simp only [Tr.val,zV hi,zF hi,k2,k4,k5,if_true,k6,k7]
      rw [zG i (by unfold zD; omega)]
    by_cases h1:(key i).1=0
    · refine .inl ⟨fun h=>absurd h1 h,aM.of ?_⟩
      rw [hv,if_neg (by simp [h1])]
    · by_cases h2:((x.2.take i).map (bh c)).count (key i)=0
      · refine .inl ⟨fun _=>h2,aM.of ?_⟩
        rw [hv,if_neg (by rw [h2]; simp)]
      · refine .inr ⟨fun h => h2 (h h1),(.kb true,[]),bv.of ?_,rfl⟩
        rw [hv, if_pos (by have:((key i).1 != 0)=true:=by simpa using h1
                           rw [this]; simp only [bG,ah]; omega)])
  have hu:(∀ i,i < x.2.length→(key i).1≠0→((x.2.take i).map (bh c)).count (key i)=0)↔xz x.2 c:=by
    unfold xz
    rw [List.pairwise_iff_getElem]
    constructor
    · intro h j i hj hi hji hne e
      have k3:key i=bh c x.2[i]:=by show bh c (getD x.2 i _)=_; rw [aB,zI hi,bw]
      have:=h i hi (by rw [k3,← e]; exact hne)
      rw [List.count_eq_zero,k3,← e] at this
      exact this (eP.2 ⟨_,List.mem_take_iff_getElem.2 ⟨j,by omega,rfl⟩,rfl⟩)
    · intro h i hi hne
      have k3:key i=bh c x.2[i]:=by show bh c (getD x.2 i _)=_; rw [aB,zI hi,bw]
      rw [List.count_eq_zero]
      intro hmem
      obtain ⟨r,hr,e⟩:=eP.1 hmem
      obtain ⟨j,hj,rfl⟩:=List.mem_take_iff_getElem.1 hr
      rw [k3] at e hne
      exact h j i (by omega) hi (by omega) (by rw [e]; exact hne) e
  have hgo:(Pd x c).val=some (.inl (.h3 c x.2 (x.2.length:Int) ((0:Nat):Int) (mm 0))):=rfl
  rcases hf with ⟨h1,h2⟩ | ⟨h1,r,h2,h3⟩
  · refine ⟨false,?_,fun _=>hu.1 h1,fun _=>rfl⟩
    refine bC hgo (h2.ends (bv.of (r:=(.kb false,[])) ?_)) (by omega) rfl
    show (qH (.h3 c x.2 _ _ _)).val=_
    simp only [qH,Tr.val,af]
    rfl
  · refine ⟨true,bC hgo h2 (by omega) h3,⟨fun h=>?_,fun h=>absurd (hu.2 h) h1⟩⟩
    cases h

theorem bQ {α:Type} {l:List α} {d:α} {Q:α→Prop}:(∀ i,i < l.length→Q (l.getD i d))↔∀ x∈l,Q x:=by
 constructor
 ·intro h x hx
  obtain ⟨i,hi,rfl⟩:=List.getElem_of_mem hx
  have:=h i hi
  rwa [aB,zI hi,bw] at this
 ·intro h i hi
  rw [aB,zI hi,bw]
  exact h _ (cR hi)
theorem jY {α:Type} {l:List α} {d:α} {i:Nat} (hi:i < l.length):l.getD i d∈l:=by
 rw [aB,zI hi,bw]
 exact cR hi
theorem oS (i:Nat) (h:i < zD):IntKind.i64.wrap (((i+1:Nat):Int) - 1)=(i:Int):=by
 have:zD=9223372036854775807:=rfl
 rw [IntKind.wrap_i64]
 omega

def Ha (a b:Sem zf):Prop:=LT.lt (α:=Int) (aP a b) 0
theorem Fz {a b:Sem zf}:decide (GE.ge (α:=Int) (aP a b) 0)=true↔¬ Ha a b:=by
 unfold Ha
 rw [ah]
 omega

structure dg (x:Sem zh):Prop where
 may:kf x.1=true
 few:x.2.length≤200
 fits:∀ r∈x.2,iL x.1 r=(0:Int)
 key:xz x.2 x.1.2.2.1
 uniq:∀ u∈x.1.2.2.2.1,xz x.2 u
 rise:∀ i,i < x.2.length - 1→Ha (bh x.1.2.2.1 (getD x.2 i (zj zf.sl))) (bh x.1.2.2.1 (getD x.2 (i+1) (zj zf.sl)))

def Uj (r:ag):Prop:=∃ e:Int,r=(.int .i64 e,[])∧e≠0

theorem qy {x:Sem zh} (hs:dZ x):∃ e:Int,j6 x=some (e,())∧(e=0↔dg x):=by
 have hsw:=hs.rw
 have hsu:=hs.uq
 have fin:∀ {k:Nat} {r:ag},bv eM k (.h6 x.2 (x.2.length:Int) ((0:Nat):Int) (x,())) r→k≤100000000→(Gq x).val=some (.inl (.h6 x.2 (x.2.length:Int) ((0:Nat):Int) (x,())))→∀ e:Int,r=(.int .i64 e,[])→j6 x=some (e,()):=by
  intro k r h hk hi e he
  subst he
  exact bC hi h hk rfl
 by_cases hm:kf x.1=true
 case neg=>
  refine ⟨1,?_,fun h=>(by cases h),fun h=>absurd h.may hm⟩
  unfold j6 ap cx
  simp only [Gq,zt,Tr.val]
  rw [if_pos (by simpa using hm)]
  rfl
 by_cases hw:x.2.length≤200
 case neg=>
  refine ⟨13,?_,fun h=>(by cases h),fun h=>absurd h.few hw⟩
  unfold j6 ap cx
  simp only [Gq,zt,Tr.val]
  rw [if_neg (by simpa using hm),if_pos (by simp; omega)]
  rfl
 have hi:(Gq x).val=some (.inl (.h6 x.2 (x.2.length:Int) ((0:Nat):Int) (x,()))):=by
  simp only [Gq,zt,Tr.val]
  rw [if_neg (by simpa using hm),if_neg (by simp; omega)]
  rfl
 obtain ⟨hkc,hrc,huc,_,_⟩:=jx hm
 have h6:=Hq (t:=eM) (Φ:=Uj) 1 (fun i=>.h6 x.2 (x.2.length:Int) (i:Int) (x,())) (fun i=>iL x.1 (getD x.2 i (zj zf.sl))=(0:Int)) x.2.length (by
  intro i hi _
  have hv:(eM (.h6 x.2 (x.2.length:Int) (i:Int) (x,()))).val=if (iL x.1 (getD x.2 i (zj zf.sl)) != 0)=true then some (.inr (.int .i64 (iL x.1 (getD x.2 i (zj zf.sl))),[])) else some (.inl (.h6 x.2 (x.2.length:Int) ((i+1:Nat):Int) (x,()))):=by
   show (eM (.h6 x.2 _ _ _)).val=_
   unfold eM
   simp only [zt,Tr.val,zV hi,zF hi,if_true,bP]
   rw [zG i (by unfold zD; omega)]
  by_cases h:iL x.1 (getD x.2 i (zj zf.sl))=(0:Int)
  ·refine .inl ⟨h,aM.of ?_⟩
   rw [hv,if_neg (by rw [h]; simp)]
  ·refine .inr ⟨h,_,bv.of (by rw [hv,if_pos (by simpa using h)]),_,rfl,h⟩)
 rcases h6 with ⟨hf,h6⟩ | ⟨hf,r,h6,e,he,hne⟩
 case inr=>
  exact ⟨e,fin h6 (by omega) hi e he,fun h=>absurd h hne,fun h=>absurd ((bQ (Q:=fun r=>iL x.1 r=(0:Int))).2 h.fits) hf⟩
 have hfits:=(bQ (Q:=fun r=>iL x.1 r=(0:Int))).1 hf
 have hlen:∀ r∈x.2,length r=x.1.2.1.length:=fun r hr=>tB (by simpa using hfits r hr)
 have hin:∀ c,Cd c x.1.2.1.length→∀ r∈x.2,zJ c (length r)=true:=fun c hc r hr=>by
  rw [hlen r hr]; exact Ex hc
 obtain ⟨b,hb,hbu⟩:=BO (x:=x) (c:=x.1.2.2.1) (hin _ hkc) (by omega)
 have hbc:mg x x.1.2.2.1=true:=by unfold mg; rw [hb]; rfl
 have hbv:pJ x x.1.2.2.1=b:=by unfold pJ; rw [hb]; rfl
 have hv6:(eM (.h6 x.2 (x.2.length:Int) (x.2.length:Int) (x,()))).val=if b=true then some (.inr (.int .i64 7,[])) else some (.inl (.h15 x.1.2.2.2.1 (x.1.2.2.2.1.length:Int) ((0:Nat):Int) (x,()))):=by
  show (eM (.h6 x.2 _ _ _)).val=_
  unfold eM
  simp only [zt,Tr.val,af,hbc,hbv,if_true]
  rfl
 by_cases hb1:b=true
 ·refine ⟨7,fin (h6.ends (bv.of (by rw [hv6,if_pos hb1]))) (by omega) hi 7 rfl,fun h=>(by cases h),fun h=>?_⟩
  have:=hbu.2 h.key
  rw [hb1] at this; cases this
 have hkey:xz x.2 x.1.2.2.1:=hbu.1 (by simpa using hb1)
 have g15:aM eM _ (.h6 x.2 (x.2.length:Int) ((0:Nat):Int) (x,())) _:=h6.trans (aM.of (by rw [hv6,if_neg hb1]))
 have h15:=Hq (t:=eM) (Φ:=Uj) 1 (fun i=>.h15 x.1.2.2.2.1 (x.1.2.2.2.1.length:Int) (i:Int) (x,())) (fun i=>xz x.2 (getD x.1.2.2.2.1 i (zj zg))) x.1.2.2.2.1.length (by
  intro i hi _
  obtain ⟨b,hb,hbu⟩:=BO (x:=x) (c:=getD x.1.2.2.2.1 i (zj zg)) (hin _ (huc _ (jY hi))) (by omega)
  have hbc:mg x (getD x.1.2.2.2.1 i (zj zg))=true:=by unfold mg; rw [hb]; rfl
  have hbv:pJ x (getD x.1.2.2.2.1 i (zj zg))=b:=by unfold pJ; rw [hb]; rfl
  have hv:(eM (.h15 x.1.2.2.2.1 (x.1.2.2.2.1.length:Int) (i:Int) (x,()))).val=if b=true then some (.inr (.int .i64 7,[])) else some (.inl (.h15 x.1.2.2.2.1 (x.1.2.2.2.1.length:Int) ((i+1:Nat):Int) (x,()))):=by
   show (eM (.h15 _ _ _ _)).val=_
   unfold eM
   simp only [zt,Tr.val,zV hi,zF hi,if_true,bP,hbc,hbv]
   rw [zG i (by unfold zD; omega)]
  by_cases h:b=true
  ·refine .inr ⟨fun hu=>?_,_,bv.of (by rw [hv,if_pos h]),7,rfl,by decide⟩
   have:=hbu.2 hu
   rw [h] at this; cases this
  ·exact .inl ⟨hbu.1 (by simpa using h),aM.of (by rw [hv,if_neg h])⟩)
 rcases h15 with ⟨hq,h15⟩ | ⟨hq,r,h15,e,he,hne⟩
 case inr=>
  exact ⟨e,fin (g15.ends h15) (by omega) hi e he,fun h=>absurd h hne,fun h=>absurd ((bQ (Q:=fun u=>xz x.2 u)).2 h.uniq) hq⟩
 have huniq:=(bQ (Q:=fun u=>xz x.2 u)).1 hq
 have hv15:(eM (.h15 x.1.2.2.2.1 (x.1.2.2.2.1.length:Int) (x.1.2.2.2.1.length:Int) (x,()))).val=some (.inl (.h21 ((0+1:Nat):Int) (x,()))):=by
  show (eM (.h15 _ _ _ _)).val=_
  unfold eM
  simp only [Tr.val,af]
  rfl
 have g21:=(g15.trans h15).trans (aM.of hv15)
 have h21:=Hq (t:=eM) (Φ:=Uj) 1 (fun i=>.h21 ((i+1:Nat):Int) (x,())) (fun i=>Ha (bh x.1.2.2.1 (getD x.2 i (zj zf.sl))) (bh x.1.2.2.1 (getD x.2 (i+1) (zj zf.sl)))) (x.2.length - 1) (by
  intro i hi _
  have h1:i < x.2.length:=by omega
  have h2:i+1 < x.2.length:=by omega
  have hv:(eM (.h21 ((i+1:Nat):Int) (x,()))).val=if decide (GE.ge (α:=Int) (aP (bh x.1.2.2.1 (getD x.2 i (zj zf.sl))) (bh x.1.2.2.1 (getD x.2 (i+1) (zj zf.sl)))) 0)=true then some (.inr (.int .i64 15,[])) else some (.inl (.h21 ((i+1+1:Nat):Int) (x,()))):=by
   show (eM (.h21 _ _)).val=_
   unfold eM
   simp only [oS i (by unfold zD; omega)]
   simp only [Tr.val,zV h2,zF h2,zF h1,bP,hin _ hkc _ (jY h1),hin _ hkc _ (jY h2),if_true]
   rw [zG (i+1) (by unfold zD; omega)]
  by_cases h:Ha (bh x.1.2.2.1 (getD x.2 i (zj zf.sl))) (bh x.1.2.2.1 (getD x.2 (i+1) (zj zf.sl)))
  ·exact .inl ⟨h,aM.of (by rw [hv,if_neg (fun h2=>Fz.1 h2 h)])⟩
  ·exact .inr ⟨h,_,bv.of (by rw [hv,if_pos (Fz.2 h)]),15,rfl,by decide⟩)
 rcases h21 with ⟨hr,h21⟩ | ⟨hr,r,h21,e,he,hne⟩
 case inr=>
  exact ⟨e,fin (g21.ends h21) (by omega) hi e he,fun h=>absurd h hne,fun h=>absurd h.rise hr⟩
 have hv21:(eM (.h21 ((x.2.length - 1+1:Nat):Int) (x,()))).val=some (.inr (.int .i64 0,[])):=by
  show (eM (.h21 _ _)).val=_
  unfold eM
  simp only [Tr.val]
  rw [if_neg (by simp; omega)]
 exact ⟨0,fin (g21.ends (h21.ends (bv.of hv21))) (by omega) hi 0 rfl,fun _=>⟨hm,hw,hfits,hkey,huniq,hr⟩,fun _=>rfl⟩

abbrev cM (db:List (Sem zh)) (s:zq):Sem zh:=getD db (toNat (ar db s)) (zj zh)
def vK (db:List (Sem zh)):Prop:=∀ x∈db,∀ f∈x.1.2.2.2.2.1,LE.le (α:=Int) 0 (ar db f.2)∧∀ row∈x.2,(bh f.1 row).1≠0→kN (cM db f.2) (cM db f.2).1.2.2.1 (bh f.1 row)=true

def Uc (r:ag):Prop:=r=(.kb false,[])

theorem Me {db:List (Sem zh)} {x:Sem zh} {f:Sem zo} {i k:Nat} (hf:LE.le (α:=Int) 0 (ar db f.2)) (hc:∀ row∈x.2,zJ f.1 (length row)=true) (hl:x.2.length≤1000):
  ((∀ j,j < x.2.length→(bh f.1 (getD x.2 j (zj zf.sl))).1≠0→kN (cM db f.2) (cM db f.2).1.2.2.1 (bh f.1 (getD x.2 j (zj zf.sl)))=true)∧
   aM ep (x.2.length * 1) (.h11 db (ar db f.2) db (db.length:Int) (i:Int) x.1.2.2.2.2.1 (x.1.2.2.2.2.1.length:Int) (k:Int) x.2 (x.2.length:Int) ((0:Nat):Int) (x,()) (f,()))
    (.h11 db (ar db f.2) db (db.length:Int) (i:Int) x.1.2.2.2.2.1 (x.1.2.2.2.2.1.length:Int) (k:Int) x.2 (x.2.length:Int) (x.2.length:Int) (x,()) (f,())))∨
  ((¬ ∀ j,j < x.2.length→(bh f.1 (getD x.2 j (zj zf.sl))).1≠0→kN (cM db f.2) (cM db f.2).1.2.2.1 (bh f.1 (getD x.2 j (zj zf.sl)))=true)∧
   ∃ r,bv ep (x.2.length * 1) (.h11 db (ar db f.2) db (db.length:Int) (i:Int) x.1.2.2.2.2.1 (x.1.2.2.2.2.1.length:Int) (k:Int) x.2 (x.2.length:Int) ((0:Nat):Int) (x,()) (f,())) r∧Uc r):=by
 refine Hq (t:=ep) (Φ:=Uc) 1 (fun j=>.h11 db (ar db f.2) db (db.length:Int) (i:Int) x.1.2.2.2.2.1 (x.1.2.2.2.2.1.length:Int) (k:Int) x.2 (x.2.length:Int) (j:Int) (x,()) (f,())) (fun j=>(bh f.1 (getD x.2 j (zj zf.sl))).1≠0→kN (cM db f.2) (cM db f.2).1.2.2.1 (bh f.1 (getD x.2 j (zj zf.sl)))=true) x.2.length ?_
 intro j hj _
 have hv:(ep (.h11 db (ar db f.2) db (db.length:Int) (i:Int) x.1.2.2.2.2.1 (x.1.2.2.2.2.1.length:Int) (k:Int) x.2 (x.2.length:Int) (j:Int) (x,()) (f,()))).val=
   if (bif (bh f.1 (getD x.2 j (zj zf.sl))).1 != 0 then !kN (cM db f.2) (cM db f.2).1.2.2.1 (bh f.1 (getD x.2 j (zj zf.sl))) else false)=true then some (.inr (.kb false,[])) else
   some (.inl (.h11 db (ar db f.2) db (db.length:Int) (i:Int) x.1.2.2.2.2.1 (x.1.2.2.2.2.1.length:Int) (k:Int) x.2 (x.2.length:Int) ((j+1:Nat):Int) (x,()) (f,()))):=by
  show (ep (.h11 _ _ _ _ _ _ _ _ _ _ _ _ _)).val=_
  unfold ep
  simp only [zt,Tr.val,zV hj,zF hj,hc _ (jY hj),ln hf,bP,if_true,Bool.and_self]
  rw [if_pos (by cases ((getD (getD x.2 j (zj zf.sl)) (toNat f.1) (zj zf)).1 != 0) <;> rfl)]
  rw [zG j (by unfold zD; omega)]
 by_cases h1:(bh f.1 (getD x.2 j (zj zf.sl))).1=0
 ·exact .inl ⟨fun h=>absurd h1 h,aM.of (by rw [hv,if_neg (by rw [h1]; simp)])⟩
 ·have h1':((bh f.1 (getD x.2 j (zj zf.sl))).1 != 0)=true:=by simpa using h1
  by_cases h2:kN (cM db f.2) (cM db f.2).1.2.2.1 (bh f.1 (getD x.2 j (zj zf.sl)))=true
  ·exact .inl ⟨fun _=>h2,aM.of (by rw [hv,if_neg (by rw [h2,h1']; simp)])⟩
  ·exact .inr ⟨fun h=>h2 (h h1),_,bv.of (by rw [hv,if_pos (by rw [h1']; simpa using h2)]),rfl⟩

theorem RM {db:List (Sem zh)} {x:Sem zh} {i:Nat} (hc:∀ f∈x.1.2.2.2.2.1,∀ row∈x.2,zJ f.1 (length row)=true) (hl:x.2.length≤1000) (hr:x.1.2.2.2.2.1.length≤1000):
  let P:Nat→Prop:=fun k=>LE.le (α:=Int) 0 (ar db (getD x.1.2.2.2.2.1 k (zj zo)).2)∧∀ row∈x.2,(bh (getD x.1.2.2.2.2.1 k (zj zo)).1 row).1≠0→kN (cM db (getD x.1.2.2.2.2.1 k (zj zo)).2) (cM db (getD x.1.2.2.2.2.1 k (zj zo)).2).1.2.2.1 (bh (getD x.1.2.2.2.2.1 k (zj zo)).1 row)=true
  ((∀ k,k < x.1.2.2.2.2.1.length→P k)∧aM ep (x.1.2.2.2.2.1.length * 1002) (.h5 db db (db.length:Int) (i:Int) x.1.2.2.2.2.1 (x.1.2.2.2.2.1.length:Int) ((0:Nat):Int) (x,())) (.h5 db db (db.length:Int) (i:Int) x.1.2.2.2.2.1 (x.1.2.2.2.2.1.length:Int) (x.1.2.2.2.2.1.length:Int) (x,())))∨
  ((¬ ∀ k,k < x.1.2.2.2.2.1.length→P k)∧∃ r,bv ep (x.1.2.2.2.2.1.length * 1002) (.h5 db db (db.length:Int) (i:Int) x.1.2.2.2.2.1 (x.1.2.2.2.2.1.length:Int) ((0:Nat):Int) (x,())) r∧Uc r):=by
 intro P
 refine Hq (t:=ep) (Φ:=Uc) 1002 (fun k=>.h5 db db (db.length:Int) (i:Int) x.1.2.2.2.2.1 (x.1.2.2.2.2.1.length:Int) (k:Int) (x,())) P x.1.2.2.2.2.1.length ?_
 intro k hk _
 have hv:(ep (.h5 db db (db.length:Int) (i:Int) x.1.2.2.2.2.1 (x.1.2.2.2.2.1.length:Int) (k:Int) (x,()))).val=
   if decide (LT.lt (α:=Int) (ar db (getD x.1.2.2.2.2.1 k (zj zo)).2) 0)=true then some (.inr (.kb false,[])) else
   some (.inl (.h11 db (ar db (getD x.1.2.2.2.2.1 k (zj zo)).2) db (db.length:Int) (i:Int) x.1.2.2.2.2.1 (x.1.2.2.2.2.1.length:Int) (k:Int) x.2 (x.2.length:Int) ((0:Nat):Int) (x,()) (getD x.1.2.2.2.2.1 k (zj zo),()))):=by
  show (ep (.h5 _ _ _ _ _ _ _ _)).val=_
  unfold ep
  simp only [Tr.val,zV hk,zF hk,bP,if_true]
  rfl
 by_cases h1:LE.le (α:=Int) 0 (ar db (getD x.1.2.2.2.2.1 k (zj zo)).2)
 ·have g1:=aM.of (t:=ep) (s:=.h5 db db (db.length:Int) (i:Int) x.1.2.2.2.2.1 (x.1.2.2.2.2.1.length:Int) (k:Int) (x,())) (by rw [hv,if_neg (by rw [ah]; omega)])
  rcases Me (db:=db) (x:=x) (f:=getD x.1.2.2.2.2.1 k (zj zo)) (i:=i) (k:=k) h1 (hc _ (jY hk)) hl with ⟨h2,h3⟩ | ⟨h2,r,h3,h4⟩
  ·have hv2:(ep (.h11 db (ar db (getD x.1.2.2.2.2.1 k (zj zo)).2) db (db.length:Int) (i:Int) x.1.2.2.2.2.1 (x.1.2.2.2.2.1.length:Int) (k:Int) x.2 (x.2.length:Int) (x.2.length:Int) (x,()) (getD x.1.2.2.2.2.1 k (zj zo),()))).val=
     some (.inl (.h5 db db (db.length:Int) (i:Int) x.1.2.2.2.2.1 (x.1.2.2.2.2.1.length:Int) ((k+1:Nat):Int) (x,()))):=by
    show (ep (.h11 _ _ _ _ _ _ _ _ _ _ _ _ _)).val=_
    unfold ep
    simp only [Tr.val,af]
    rw [zG k (by unfold zD; omega)]
    rfl
   refine .inl ⟨⟨h1,?_⟩,((g1.trans h3).trans (aM.of hv2)).mono (by omega)⟩
   exact (bQ (Q:=fun row=>(bh (getD x.1.2.2.2.2.1 k (zj zo)).1 row).1≠0→kN (cM db (getD x.1.2.2.2.2.1 k (zj zo)).2) (cM db (getD x.1.2.2.2.2.1 k (zj zo)).2).1.2.2.1 (bh (getD x.1.2.2.2.2.1 k (zj zo)).1 row)=true)).1 h2
  ·refine .inr ⟨fun h=>h2 ?_,r,(g1.ends h3).mono (by omega),h4⟩
   exact (bQ (Q:=fun row=>(bh (getD x.1.2.2.2.2.1 k (zj zo)).1 row).1≠0→kN (cM db (getD x.1.2.2.2.2.1 k (zj zo)).2) (cM db (getD x.1.2.2.2.2.1 k (zj zo)).2).1.2.2.1 (bh (getD x.1.2.2.2.2.1 k (zj zo)).1 row)=true)).2 h.2
 ·exact .inr ⟨fun h=>h1 h.1,_,(bv.of (by rw [hv,if_pos (by rw [ah]; omega)])).mono (by omega),rfl⟩

theorem p9 {db:List (Sem zh)} (hc:∀ x∈db,∀ f∈x.1.2.2.2.2.1,∀ row∈x.2,zJ f.1 (length row)=true) (hs:∀ x∈db,dZ x) (hl:db.length≤13):∃ b,nI db=some (b,())∧(b=true↔vK db):=by
 have h2:=Hq (t:=ep) (Φ:=Uc) 1010000 (fun i=>.h2 db db (db.length:Int) (i:Int)) (fun i=>∀ f∈(getD db i (zj zh)).1.2.2.2.2.1,LE.le (α:=Int) 0 (ar db f.2)∧∀ row∈(getD db i (zj zh)).2,(bh f.1 row).1≠0→kN (cM db f.2) (cM db f.2).1.2.2.1 (bh f.1 row)=true) db.length (by
  intro i hi _
  have hm:=jY (d:=zj zh) hi
  have hS:=hs _ hm
  have s1:=hS.rf
  have s2:=hS.rw
  have hv:(ep (.h2 db db (db.length:Int) (i:Int))).val=some (.inl (.h5 db db (db.length:Int) (i:Int) (getD db i (zj zh)).1.2.2.2.2.1 ((getD db i (zj zh)).1.2.2.2.2.1.length:Int) ((0:Nat):Int) (getD db i (zj zh),()))):=by
   show (ep (.h2 _ _ _ _)).val=_
   unfold ep
   simp only [Tr.val,zV hi,zF hi,bP,if_true]
   rfl
  have g1:=aM.of hv
  rcases RM (db:=db) (x:=getD db i (zj zh)) (i:=i) (hc _ hm) s2 s1 with ⟨h2,h3⟩ | ⟨h2,r,h3,h4⟩
  ·have hv2:(ep (.h5 db db (db.length:Int) (i:Int) (getD db i (zj zh)).1.2.2.2.2.1 ((getD db i (zj zh)).1.2.2.2.2.1.length:Int) ((getD db i (zj zh)).1.2.2.2.2.1.length:Int) (getD db i (zj zh),()))).val=some (.inl (.h2 db db (db.length:Int) ((i+1:Nat):Int))):=by
    show (ep (.h5 _ _ _ _ _ _ _ _)).val=_
    unfold ep
    simp only [Tr.val,af]
    rw [zG i (by unfold zD; omega)]
    rfl
   refine .inl ⟨?_,((g1.trans h3).trans (aM.of hv2)).mono (by omega)⟩
   exact (bQ (Q:=fun f:Sem zo=>LE.le (α:=Int) 0 (ar db f.2)∧∀ row∈(getD db i (zj zh)).2,(bh f.1 row).1≠0→kN (cM db f.2) (cM db f.2).1.2.2.1 (bh f.1 row)=true)).1 h2
  ·refine .inr ⟨fun h=>h2 ?_,r,(g1.ends h3).mono (by omega),h4⟩
   exact (bQ (Q:=fun f:Sem zo=>LE.le (α:=Int) 0 (ar db f.2)∧∀ row∈(getD db i (zj zh)).2,(bh f.1 row).1≠0→kN (cM db f.2) (cM db f.2).1.2.2.1 (bh f.1 row)=true)).2 h)
 have hb:(∀ i,i < db.length→∀ f∈(getD db i (zj zh)).1.2.2.2.2.1,LE.le (α:=Int) 0 (ar db f.2)∧∀ row∈(getD db i (zj zh)).2,(bh f.1 row).1≠0→kN (cM db f.2) (cM db f.2).1.2.2.1 (bh f.1 row)=true)↔vK db:=
  bQ (Q:=fun x:Sem zh=>∀ f∈x.1.2.2.2.2.1,LE.le (α:=Int) 0 (ar db f.2)∧∀ row∈x.2,(bh f.1 row).1≠0→kN (cM db f.2) (cM db f.2).1.2.2.1 (bh f.1 row)=true)
 have hi:(YU db).val=some (.inl (.h2 db db (db.length:Int) ((0:Nat):Int))):=rfl
 rcases h2 with ⟨h2,h3⟩ | ⟨h2,r,h3,h4⟩
 ·refine ⟨true,bC hi (h3.ends (bv.of (r:=(.kb true,[])) ?_)) (by omega) rfl,fun _=>hb.1 h2,fun _=>rfl⟩
  show (ep (.h2 _ _ _ _)).val=_
  unfold ep
  simp only [Tr.val,af]
  rfl
 ·unfold Uc at h4
  subst h4
  exact ⟨false,bC hi h3 (by omega) rfl,fun h=>(by cases h),fun h=>absurd (hb.2 h) h2⟩

structure cP (db:List (Sem zh)):Prop where
 few:db.length≤12
 names:∀ i,i < db.length - 1→Op.bytesLess (getD db i (zj zh)).1.1 (getD db (i+1) (zj zh)).1.1=true
 rels:∀ x∈db,dg x
 bound:vK db

theorem dg.cols {x:Sem zh} (h:dg x):∀ f∈x.1.2.2.2.2.1,∀ row∈x.2,zJ f.1 (length row)=true:=by
 intro f hf row hr
 obtain ⟨_,h1,_,_,_⟩:=jx h.may
 rw [tB (by simpa using h.fits row hr)]
 exact Ex (h1 f hf)

theorem qa {db:List (Sem zh)} (hs:∀ x∈db,dZ x):∃ e:Int,nK db=some (e,())∧(e=0↔cP db):=by
 by_cases hw:db.length≤12
 case neg=>
  refine ⟨13,?_,fun h=>(by cases h),fun h=>absurd h.few hw⟩
  unfold nK ap cx
  simp only [ML,Tr.val]
  rw [if_pos (by simp; omega)]
  rfl
 have hi:(ML db).val=some (.inl (.h4 db ((0+1:Nat):Int))):=by
  simp only [ML,Tr.val]
  rw [if_neg (by simp; omega)]
  rfl
 have h4:=Hq (t:=ka) (Φ:=Uj) 1 (fun i=>.h4 db ((i+1:Nat):Int)) (fun i=>Op.bytesLess (getD db i (zj zh)).1.1 (getD db (i+1) (zj zh)).1.1=true) (db.length - 1) (by
  intro i hi _
  have h1:i < db.length:=by omega
  have h2:i+1 < db.length:=by omega
  have hv:(ka (.h4 db ((i+1:Nat):Int))).val=if (!Op.bytesLess (getD db i (zj zh)).1.1 (getD db (i+1) (zj zh)).1.1)=true then some (.inr (.int .i64 15,[])) else some (.inl (.h4 db ((i+1+1:Nat):Int))):=by
   show (ka (.h4 _ _)).val=_
   unfold ka
   simp only [oS i (by unfold zD; omega)]
   simp only [Tr.val,zV h2,zF h2,zF h1,bP,if_true]
   rw [zG (i+1) (by unfold zD; omega)]
  by_cases h:Op.bytesLess (getD db i (zj zh)).1.1 (getD db (i+1) (zj zh)).1.1=true
  ·exact .inl ⟨h,aM.of (by rw [hv,if_neg (by rw [h]; simp)])⟩
  ·exact .inr ⟨h,_,bv.of (by rw [hv,if_pos (by simpa using h)]),15,rfl,by decide⟩)
 rcases h4 with ⟨hn,h4⟩ | ⟨hn,r,h4,e,he,hne⟩
 case inr=>
  subst he
  exact ⟨e,bC hi h4 (by omega) rfl,fun h=>absurd h hne,fun h=>absurd h.names hn⟩
 have hv4:(ka (.h4 db ((db.length - 1+1:Nat):Int))).val=some (.inl (.h9 db db (db.length:Int) ((0:Nat):Int))):=by
  show (ka (.h4 _ _)).val=_
  unfold ka
  simp only [Tr.val]
  rw [if_neg (by simp; omega)]
  rfl
 have g9:=h4.trans (aM.of hv4)
 have h9:=Hq (t:=ka) (Φ:=Uj) 1 (fun i=>.h9 db db (db.length:Int) (i:Int)) (fun i=>dg (getD db i (zj zh))) db.length (by
  intro i hi _
  obtain ⟨e,he,heq⟩:=qy (hs _ (jY (d:=zj zh) hi))
  have hc:mf (getD db i (zj zh))=true:=by unfold mf; rw [he]; rfl
  have hv0:pI (getD db i (zj zh))=e:=by unfold pI; rw [he]; rfl
  have hv:(ka (.h9 db db (db.length:Int) (i:Int))).val=if (e != 0)=true then some (.inr (.int .i64 e,[])) else some (.inl (.h9 db db (db.length:Int) ((i+1:Nat):Int))):=by
   show (ka (.h9 _ _ _ _)).val=_
   unfold ka
   simp only [zt,Tr.val,zV hi,zF hi,bP,if_true,Prod.eta,hc,hv0]
   rw [zG i (by unfold zD; omega)]
  by_cases h:e=0
  ·exact .inl ⟨heq.1 h,aM.of (by rw [hv,if_neg (by rw [h]; simp)])⟩
  ·exact .inr ⟨fun hr=>h (heq.2 hr),_,bv.of (by rw [hv,if_pos (by simpa using h)]),e,rfl,h⟩)
 rcases h9 with ⟨hr,h9⟩ | ⟨hr,r,h9,e,he,hne⟩
 case inr=>
  subst he
  exact ⟨e,bC hi (g9.ends h9) (by omega) rfl,fun h=>absurd h hne,fun h=>absurd ((bQ (Q:=dg)).2 h.rels) hr⟩
 have hrels:=(bQ (Q:=dg)).1 hr
 obtain ⟨b,hb,hbb⟩:=p9 (db:=db) (fun x hx=>(hrels x hx).cols) hs (by omega)
 have hc:lM db=true:=by unfold lM; rw [hb]; rfl
 have hv0:oX db=b:=by unfold oX; rw [hb]; rfl
 have hv9:(ka (.h9 db db (db.length:Int) (db.length:Int))).val=if (!b)=true then some (.inr (.int .i64 10,[])) else some (.inr (.int .i64 0,[])):=by
  show (ka (.h9 _ _ _ _)).val=_
  unfold ka
  simp only [Tr.val,af,hc,hv0,if_true]
  rfl
 by_cases h:b=true
 ·exact ⟨0,bC hi (g9.ends (h9.ends (bv.of (by rw [hv9,if_neg (by rw [h]; simp)])))) (by omega) rfl,fun _=>⟨hw,hn,hrels,hbb.1 h⟩,fun _=>rfl⟩
 ·exact ⟨10,bC hi (g9.ends (h9.ends (bv.of (by rw [hv9,if_pos (by simpa using h)])))) (by omega) rfl,fun h=>(by cases h),fun hB=>absurd (hbb.2 hB.bound) h⟩
theorem jR {db:List (Sem zh)} (hs:∀ x∈db,dZ x):nJ db=true:=by
 obtain ⟨e,h,_⟩:=qa hs
 unfold nJ; rw [h]; rfl
theorem lN {db:List (Sem zh)} (hs:∀ x∈db,dZ x):iQ db=(0:Int)↔cP db:=by
 obtain ⟨e,h,h2⟩:=qa hs
 unfold iQ; rw [h]; exact h2
set_option maxHeartbeats 1000000

theorem fw:∀ s:zq,Op.bytesLess s s=false
 | []=>rfl
 | a::r=>by simp [Op.bytesLess,fw r]
theorem fX {α:Type} (l:List α) (d:α) {i:Nat} (h:i < l.length):l.getD ((i:Int).toNat) d=l[i]:=by
 rw [bP,aB,zI h,bw]
theorem Bm {α:Type} (l:List α) (d:α) {i:Nat} (h:i < l.length):l.getD i d∈l:=by
 rw [aB,zI h,bw]
 exact cR h
theorem tJ {α β:Type} (f:α→β) (p:β→Bool):∀ (l:List α) (i:Nat),zQ p (l.map f) i=zQ (fun x=>p (f x)) l i
 | [],_=>rfl
 | x::r,i=>by simp only [kW,zQ,tJ f p r]
theorem tA {db:List (Sem zh)} {s:zq} (h:(0:Int)≤ar db s):db.getD (toNat (ar db s)) (zj zh)∈db:=by
 have:=ln h
 simp only [zJ,aE,ah] at this
 exact Bm _ _ (by omega)

theorem kw:∀ {a b c:zq},Op.bytesLess a b=true→Op.bytesLess b c=true→Op.bytesLess a c=true
 | _,[],_,h,_=>by cases ‹zq› <;> simp [Op.bytesLess] at h
 | _,_::_,[],_,h=>by simp [Op.bytesLess] at h
 | [],_::_,_::_,_,_=>rfl
 | a::x,b::y,c::z,h,g=>by
  simp only [Op.bytesLess,rX,ah,aE,eG] at h g ⊢
  rcases h with h | ⟨rfl,h⟩
  ·rcases g with g | ⟨rfl,g⟩
   ·exact .inl (UInt8.lt_trans h g)
   ·exact .inl h
  ·rcases g with g | ⟨rfl,g⟩
   ·exact .inl g
   ·exact .inr ⟨rfl,kw h g⟩

def Lx (p q:Int×Int×zq):Prop:=p.1 < q.1∨(p.1=q.1∧(p.2.1 < q.2.1∨(p.2.1=q.2.1∧Op.bytesLess p.2.2 q.2.2=true)))
theorem Lx.trans {p q r:Int×Int×zq} (h:Lx p q) (g:Lx q r):Lx p r:=by
 unfold Lx at *
 rcases h with h | ⟨h1,h | ⟨h2,h⟩⟩ <;> rcases g with g | ⟨g1,g | ⟨g2,g⟩⟩
 ·exact .inl (by omega)
 ·exact .inl (by omega)
 ·exact .inl (by omega)
 ·exact .inl (by omega)
 ·exact .inr ⟨by omega,.inl (by omega)⟩
 ·exact .inr ⟨by omega,.inl (by omega)⟩
 ·exact .inl (by omega)
 ·exact .inr ⟨by omega,.inl (by omega)⟩
 ·exact .inr ⟨by omega,.inr ⟨by omega,kw h g⟩⟩
theorem Lx.irrefl {p:Int×Int×zq}:¬ Lx p p:=by
 unfold Lx
 rw [fw]
 rintro (h | ⟨_,h | ⟨_,h⟩⟩)
 ·omega
 ·omega
 ·cases h
theorem Eb (a b:Int):FP a b=if a < b then -1 else if b < a then 1 else 0:=by
 show (if (a != a)=true then _ else if (b != b)=true then (1:Int) else if decide (a < b)=true then -1 else if decide (a > b)=true then 1 else 0)=_
 simp
theorem HB (a b:Int):wc a b=if a < b then -1 else if b < a then 1 else 0:=Eb a b
theorem Mo (a b:zq):(xI a b=-1∧Op.bytesLess a b=true)∨(xI a b=0∧a=b)∨(xI a b=1∧Op.bytesLess a b=false):=by
 have:xI a b=if Op.bytesLess a b=true then -1 else if (!(Op.bytesLess a b||a==b))=true then 1 else 0:=by
  show (if (!a==a)=true then _ else if (!b==b)=true then (1:Int) else if Op.bytesLess a b=true then -1 else if (!(Op.bytesLess a b||a==b))=true then 1 else 0)=_
  simp
 rw [this]
 cases h:Op.bytesLess a b with
 | true=>exact .inl ⟨rfl,rfl⟩
 | false=>
  by_cases e:a=b
  ·exact .inr (.inl ⟨by simp [e],e⟩)
  ·exact .inr (.inr ⟨by simp [e],rfl⟩)
theorem TL (k n k' n':Int) (s s':zq):(PF [FP k k',wc n n',xI s s'] < 0)↔Lx (k,n,s) (k',n',s'):=by
 show _↔(k < k'∨(k=k'∧(n < n'∨(n=n'∧Op.bytesLess s s'=true))))
 rw [Eb,HB]
 simp only [PF]
 have irr:=fw s'
 rcases Int.lt_trichotomy k k' with h | h | h
 ·simp [h]
 ·subst h
  rcases Int.lt_trichotomy n n' with g | g | g
  ·simp [g]
  ·subst g
   rcases Mo s s' with ⟨e,f⟩ | ⟨e,f⟩ | ⟨e,f⟩
   ·simp [e,f]
   ·subst f; simp [e,irr]
   ·simp [e,f]
  ·have:¬ n < n':=by omega
   have:n≠n':=by omega
   simp [*]
 ·have:¬ k < k':=by omega
  have:k≠k':=by omega
  simp [*]
theorem rH {a b:Sem zf}:Ha a b↔Lx (bg a) (bg b):=TL (bg a).1 (bg a).2.1 (bg b).1 (bg b).2.1 (bg a).2.2 (bg b).2.2
theorem mu {a b c:Sem zf} (h:Ha a b) (g:Ha b c):Ha a c:=rH.2 ((rH.1 h).trans (rH.1 g))
theorem uV {a:Sem zf}:¬ Ha a a:=fun h=>Lx.irrefl (rH.1 h)

theorem yS {α:Type} {R:α→α→Prop} (ht:∀ {a b c},R a b→R b c→R a c) {d:α}:∀ {l:List α},(∀ i,i < l.length - 1→R (l.getD i d) (l.getD (i+1) d))↔l.Pairwise R
 | []=>by simp
 | [a]=>by simp
 | a::b::r=>by
  have IH:=yS (R:=R) ht (d:=d) (l:=b::r)
  constructor
  ·intro h
   have h0:=h 0 (by simp)
   have h1:(b::r).Pairwise R:=IH.1 fun i hi=>h (i+1) (by simp only [nC] at hi ⊢; omega)
   refine List.pairwise_cons.2 ⟨fun x hx=>?_,h1⟩
   rcases dV.1 hx with rfl | hx
   ·exact h0
   ·exact ht h0 ((List.pairwise_cons.1 h1).1 x hx)
  ·intro h i hi
   obtain ⟨h0,h1⟩:=List.pairwise_cons.1 h
   cases i with
   | zero=>exact h0 b (by simp)
   | succ i=>exact IH.2 h1 i (by simp only [nC] at hi ⊢; omega)

def Pg (k:Int) (a b:List (Sem zf)):Prop:=Ha (bh k a) (bh k b)
theorem dg.pw {x:Sem zh} (h:dg x):x.2.Pairwise (Pg x.1.2.2.1):=(yS (R:=Pg x.1.2.2.1) mu).1 h.rise

theorem dg.sub {t:Sem zE} {l l':List (List (Sem zf))} (h:dg (t,l)) (hs:List.Sublist l' l):dg (t,l') where
 may:=h.may
 few:=dC hs.length_le h.few
 fits:=fun r hr=>h.fits r (hs.subset hr)
 key:=List.Pairwise.sublist hs h.key
 uniq:=fun u hu=>List.Pairwise.sublist hs (h.uniq u hu)
 rise:=(yS (R:=Pg t.2.2.1) mu).2 (List.Pairwise.sublist hs h.pw)

theorem w7 (db:List (Sem zh)) (i:Nat):(db.getD i (zj zh)).1=(db.map (·.1)).getD i (zj zh).1:=by
 rw [aB,aB,cL]
 cases db[i]? <;> rfl
theorem sg (db:List (Sem zh)) (s:zq):ar db s=zQ (fun t:Sem zE=>t.1==s) (db.map (·.1)) 0:=(tJ (fun x:Sem zh=>x.1) (fun t:Sem zE=>t.1==s) db 0).symm
theorem Bv {db:List (Sem zh)} {i:Nat} {x:Sem zh} (h:(db.getD i (zj zh)).1=x.1):(db.set i x).map (·.1)=db.map (·.1):=by
 rw [List.map_set]
 refine rU fun j=>?_
 rw [iy]
 by_cases e:i=j
 ·subst e
  rw [if_pos rfl]
  by_cases hi:i < (db.map (·.1)).length
  ·rw [if_pos hi,zI hi,← h]
   congr 1
   have hi':i < db.length:=by simpa using hi
   rw [aB,zI hi',List.getElem_map]
   rfl
  ·rw [if_neg hi,cz (by omega)]
 ·rw [if_neg e]

theorem cP.put {db:List (Sem zh)} {i:Nat} {x:Sem zh} (h:cP db) (ht:(db.getD i (zj zh)).1=x.1) (hx:dg x) (hb:vK (db.set i x)):cP (db.set i x) where
 few:=by rw [ko]; exact h.few
 names:=fun j hj=>by
  rw [ko] at hj
  have:=h.names j hj
  rw [w7,w7] at this ⊢
  rwa [Bv ht]
 rels:=fun y hy=>by
  rcases pW hy with hy | rfl
  ·exact h.rels y hy
  ·exact hx
 bound:=hb
theorem FM {db:List (Sem zh)} {i:Nat} {x:Sem zh} (ht:(db.getD i (zj zh)).1=x.1) (s:zq):ar (db.set i x) s=ar db s:=by
 rw [sg,sg,Bv ht]


theorem PG {α:Type} {R:α→α→Prop} (ht:∀ {a b c},R a b→R b c→R a c) (hi:∀ {a},¬ R a a):∀ {l l':List α},l.Pairwise R→l'.Pairwise R→l.Perm l'→l=l'
 | [],l',_,_,hp=>hp.symm.eq_nil.symm
 | a::r,[],_,_,hp=>absurd hp.eq_nil (by simp)
 | a::r,b::r',h,h',hp=>by
  obtain ⟨h0,h1⟩:=List.pairwise_cons.1 h
  obtain ⟨h0',h1'⟩:=List.pairwise_cons.1 h'
  have e:a=b:=by
   rcases dV.1 (hp.subset (v6 (a:=a) (l:=r))) with e | m
   ·exact e
   ·rcases dV.1 (hp.symm.subset (v6 (a:=b) (l:=r'))) with e' | m'
    ·exact e'.symm
    ·exact absurd (ht (h0 b m') (h0' a m)) hi
  subst e
  rw [PG (R:=R) ht hi h1 h1' (List.Perm.cons_inv hp)]
theorem Gu {k:Int} {a b c:List (Sem zf)} (h:Pg k a b) (g:Pg k b c):Pg k a c:=mu h g
theorem C3 {k:Int} {a:List (Sem zf)}:¬ Pg k a a:=uV
theorem dg.eq_of_perm {t:Sem zE} {l l':List (List (Sem zf))} (h:dg (t,l)) (h':dg (t,l')) (hp:l.Perm l'):l=l':=PG (R:=Pg t.2.2.1) Gu C3 h.pw h'.pw hp

set_option maxHeartbeats 2000000



abbrev mB (e:Int):Sem eJ:=(e,0,[])

theorem HI (e:Int):su e=true∧cE e=([],mB e):=⟨rfl,rfl⟩
theorem HJ {next:List (Sem zh)} {b:Bool} (n:Int) (h:nI next=some (b,())):sw next n=some (if b=true then next else [],if b=true then (0,n,[]) else mB 10,()):=by
 have hc:lM next=true:=by unfold lM; rw [h]; rfl
 have hv:oX next=b:=by unfold oX; rw [h]; rfl
 unfold sw ap cx
 cases b with
 | true=>
  simp only [Su,Tr.val,hc,hv,if_true,kV,zR,if_false]
  rfl
 | false=>
  simp only [Su,Tr.val,hc,hv,if_true,Bool.not_false,zR,if_false]
  rfl
theorem FR {db:List (Sem zh)} {y:Sem zh} {i:Nat} (h:ar db y.1.1=(i:Int)) (hl:db.length≤1000000):o6 db y=some (db.set i y,()):=by
 have hb:zJ (ar db y.1.1) (length db)=true:=ln (by rw [h]; omega)
 rw [h] at hb
 have h0:decide (length db≤1073741824)=true:=by simp only [ah]; omega
 have h1:decide ((i:Int) ≥ 0)=true:=by simp
 have h2:decide (toNat (i:Int) < length db)=true:=by
  simp only [zJ,aE,ah] at hb
  simp only [ah]; omega
 unfold o6 ap cx
 simp only [YT,Tr.val,zt,Prod.eta,h,hb,h0,h1,h2,if_true]
 rfl


theorem dg.len {x:Sem zh} (h:dg x):∀ r∈x.2,length r≤8:=by
 intro r hr
 obtain ⟨_,_,_,h4,_⟩:=jx h.may
 rw [tB (by simpa using h.fits r hr)]
 exact h4
theorem GU {db:List (Sem zh)} {i:Nat} {y:Sem zh} (hs:∀ x∈db,dZ x) (hy:dZ y):∀ x∈db.set i y,dZ x:=fun x hx=>by
 rcases pW hx with h | rfl
 ·exact hs x h
 ·exact hy
theorem CU {db:List (Sem zh)} {n:zq} {x:Sem zh} {i:Nat} (h:ar db n=(i:Int)) (hx:db.getD i (zj zh)=x):x.1.1=n:=by
 rcases lq (fun y:Sem zh=>y.1.1==n) db 0 with ⟨q,_⟩ | ⟨k,hk,q1,q2,_⟩
 ·exfalso
  have h':zQ (fun y:Sem zh=>y.1.1==n) db 0=(i:Int):=h
  rw [q] at h'
  omega
 ·have h':zQ (fun y:Sem zh=>y.1.1==n) db 0=(i:Int):=h
  rw [q1] at h'
  obtain rfl:k=i:=by omega
  rw [aB,zI hk,bw] at hx
  subst hx
  simpa using q2



noncomputable section
abbrev cpR:List CP:=[.d zh]
abbrev RT:List CP:=[.d .str,.nil,.d zg,.nil,.nil,.d .str,.d zg,.d zg,.d .str,.d .str,.nil,.nil]
abbrev XD:List CP:=[.d zE,.vec (.sl zf)]
abbrev kO:List CP:=[.d zx]
abbrev dN:List CP:=[.d .str,.d .str,.d .str,.nil,.nil,.d .str,.nil,.nil,.d .str,.d zg,.d zg,.d .str,.d .str,.nil,.nil,.nil,.d .str,.d zg,.d zg,.d .str,.d .str,.nil,.d .str]
abbrev HC:List CP:=[.d .str,.d .str,.d .str,.d (.sl .str),.d (.sl zi),.d .str,.d (.sl .str),.vec bI,.d .expr,.d (.sl zf),.nil,.d .expr,.d .str]
abbrev HD:List CP:=[.d .str,.d .str,.d .str,.d (.sl .str),.d (.sl zi),.d .str,.d (.sl .str),.vec bI,.d .expr,.d (.sl zf),.vec aJ,.d .expr,.d .str]

abbrev Y3:Nat→zT:=fun j=>if j=6 then { slots:=[1,2,3,4,5],prom:=[(3,some 11,.sl zf)] } else { }
inductive Ch where
 | h6 (i4:Int) (i5:Int) (z0:zr cpR) (z1:zr RT) (z2:zr XD)
abbrev zbs:Ch→Nat×St
 | .h6 i4 i5 z0 z1 z2=>(6,⟨tm 38 [(1,AV.ptr 0 0),(2,AV.ptr 1 0),(3,AV.ptr 2 0),(4,AV.int .i64 i4),(5,AV.int .i64 i5)],[AO.box (bu [] cpR z0),AO.box (bu [] RT z1),AO.box (bu [3] XD z2),AO.vec zf.sl z2.2.1]⟩)
def Sr (x0:Sem zh):Tr (Ch ⊕ ag):=
 let a0:=(jH (x0.1.1,x0.1.2.1,x0.1.2.2.1,x0.1.2.2.2.1,x0.1.2.2.2.2.1,zC x0.1.2.2.2.2.2),[],())
 Tr.br (decide ((↑(length x0.2):Int) > 200)) (Tr.to (Ch.h6 201 0 (x0,()) ([],0,[],0,0,[],[],()) a0))
 (Tr.to (Ch.h6 40 0 (x0,()) ([],0,[],0,0,[],[],()) a0))
def GW:Ch→Tr (Ch ⊕ ag)
 | .h6 i4 i5 z0 z1 z2=>
  let a0:=(↑(length z0.1.2):Int)
  let a1:=[fY (getD z0.1.2 i5.toNat (zj zf.sl))]
  Tr.br (bif decide (i5 < a0) then decide (i5 < i4) else false)
  (Tr.chk (zJ i5 (length z0.1.2))
   (Tr.chk (decide (z2.2.1.length+a1.length≤1073741824)) (Tr.to (Ch.h6 i4 (IntKind.i64.wrap (i5+1)) z0 z1 (z2.1,z2.2.1++a1,())))))
  (Tr.re
   (AV.agg [AV.str z2.1.1,AV.sl zi z2.1.2.1,AV.int .i64 z2.1.2.2.1,AV.sl zg z2.1.2.2.2.1,AV.sl zo z2.1.2.2.2.2.1,AV.str (ze.op z2.1.2.2.2.2.2),AV.int .i64 (ze.v z2.1.2.2.2.2.2).1,AV.int .i64 (ze.v z2.1.2.2.2.2.2).2.1,AV.str (ze.v z2.1.2.2.2.2.2).2.2,AV.str (ze.s z2.1.2.2.2.2.2),AV.sl Sh.expr (ze.l z2.1.2.2.2.2.2),AV.vec 0])
   [AO.vec zf.sl z2.2.1])
def tL (x0:Sem zh):=ap [zh] GW 100000000 (Sr x0)
def Da (x0:Sem zh):=(tL x0).isSome
def qr (x0:Sem zh):=o1 (tL x0)
def U3:=FT [zh] [zh] fun x=>tL x.1
theorem Qw:FK 33 U3:=bB.T1 (f:=Tryz.f33) (keep:=Y3) (e:=zbs)

abbrev zdj:Nat→zT:=fun j=>if j=3 then { slots:=[1,2,3,4],prom:=[(3,some 7,bI)] } else if j=7 then { slots:=[1,2,3,5],prom:=[(3,some 15,aJ)] } else { }
inductive OL where
 | h3 (i4:Int) (z0:zr kO) (z1:zr dN) (z2:zr HC)
 | h7 (i5:Int) (z0:zr kO) (z1:zr dN) (z2:zr HD)
abbrev e8p:OL→Nat×St
 | .h3 i4 z0 z1 z2=>(3,⟨tm 103 [(1,AV.ptr 0 0),(2,AV.ptr 1 0),(3,AV.ptr 2 0),(4,AV.int .i64 i4)],[AO.box (bu [] kO z0),AO.box (bu [] dN z1),AO.box (bu [3] HC z2),AO.vec (Sh.str.pr Sh.str) z2.2.2.2.2.2.2.2.1]⟩)
 | .h7 i5 z0 z1 z2=>(7,⟨tm 103 [(1,AV.ptr 0 0),(2,AV.ptr 1 0),(3,AV.ptr 2 0),(5,AV.int .i64 i5)],[AO.box (bu [] kO z0),AO.box (bu [] dN z1),AO.box (bu [3,4] HD z2),AO.vec (Sh.str.pr Sh.str) z2.2.2.2.2.2.2.2.1,AO.vec (Sh.str.pr Sh.expr) z2.2.2.2.2.2.2.2.2.2.2.1]⟩)
def i8p (x0:Sem zx):Tr (OL ⊕ ag):=
 Tr.chk (dr x0.1)
 (Tr.chk (dr x0.2.1)
  (Tr.chk (dr x0.2.2.1) (Tr.chk (dr x0.2.2.2.2.2.1) (Tr.chk (dr x0.2.2.2.2.2.2.2.2.2.2.2.2) (Tr.chk (lr x0.2.2.2.1) (Tr.chk (lr x0.2.2.2.2.2.2.1) (Tr.to (OL.h3 0 (x0,()) ([],[],[],[],[],0,0,[],[],[],0,0,[],[],[],()) (aO x0.1,aO x0.2.1,aO x0.2.2.1,eW x0.2.2.2.1,ls x0.2.2.2.2.1,
  aO x0.2.2.2.2.2.1,eW x0.2.2.2.2.2.2.1,[],da (zC x0.2.2.2.2.2.2.2.2.1),fY x0.2.2.2.2.2.2.2.2.2.1,da (zC x0.2.2.2.2.2.2.2.2.2.2.2.1),aO x0.2.2.2.2.2.2.2.2.2.2.2.2,())))))))))
def Np:OL→Tr (OL ⊕ ag)
 | .h3 i4 z0 z1 z2=>
  let a0:=(↑(length z0.1.2.2.2.2.2.2.2.1):Int)
  let a1:=zJ i4 (length z0.1.2.2.2.2.2.2.2.1)
  let a2:=getD z0.1.2.2.2.2.2.2.2.1 i4.toNat (zj bI)
  let a3:=[(aO a2.1,aO a2.2)]
  Tr.br (bif decide (i4 < a0) then decide (i4 < 10) else false)
  (Tr.chk a1
   (Tr.chk (dr a2.1) (Tr.chk a1 (Tr.chk (dr a2.2) (Tr.chk (decide (z2.2.2.2.2.2.2.2.1.length+a3.length≤1073741824)) (Tr.to (OL.h3 (IntKind.i64.wrap (i4+1)) z0 z1 (z2.1,z2.2.1,z2.2.2.1,z2.2.2.2.1,z2.2.2.2.2.1,z2.2.2.2.2.2.1,z2.2.2.2.2.2.2.1,z2.2.2.2.2.2.2.2.1++a3,z2.2.2.2.2.2.2.2.2))))))))
  (Tr.to
   (OL.h7 0 z0 z1 (z2.1,z2.2.1,z2.2.2.1,z2.2.2.2.1,z2.2.2.2.2.1,z2.2.2.2.2.2.1,z2.2.2.2.2.2.2.1,z2.2.2.2.2.2.2.2.1,z2.2.2.2.2.2.2.2.2.1,z2.2.2.2.2.2.2.2.2.2.1,[],z2.2.2.2.2.2.2.2.2.2.2)))
 | .h7 i5 z0 z1 z2=>
  let a0:=(↑(length z0.1.2.2.2.2.2.2.2.2.2.2.1):Int)
  let a1:=zJ i5 (length z0.1.2.2.2.2.2.2.2.2.2.2.1)
  let a2:=getD z0.1.2.2.2.2.2.2.2.2.2.2.1 i5.toNat (zj aJ)
  let a3:=[(aO a2.1,zC (da (zC a2.2)))]
  Tr.br (bif decide (i5 < a0) then decide (i5 < 10) else false)
  (Tr.chk a1
   (Tr.chk (dr a2.1) (Tr.chk a1 (Tr.chk (decide (z2.2.2.2.2.2.2.2.2.2.2.1.length+a3.length≤1073741824)) (Tr.to (OL.h7 (IntKind.i64.wrap (i5+1)) z0 z1 (z2.1,z2.2.1,z2.2.2.1,z2.2.2.2.1,z2.2.2.2.2.1,z2.2.2.2.2.2.1,z2.2.2.2.2.2.2.1,z2.2.2.2.2.2.2.2.1,z2.2.2.2.2.2.2.2.2.1,z2.2.2.2.2.2.2.2.2.2.1,z2.2.2.2.2.2.2.2.2.2.2.1++a3,z2.2.2.2.2.2.2.2.2.2.2.2)))))))
  (Tr.re
   (AV.agg [AV.str z2.1,AV.str z2.2.1,AV.str z2.2.2.1,AV.sl Sh.str z2.2.2.2.1,AV.sl zi z2.2.2.2.2.1,AV.str z2.2.2.2.2.2.1,AV.sl Sh.str z2.2.2.2.2.2.2.1,AV.vec 0,AV.str (ze.op z2.2.2.2.2.2.2.2.2.1),AV.int .i64 (ze.v z2.2.2.2.2.2.2.2.2.1).1,AV.int .i64 (ze.v z2.2.2.2.2.2.2.2.2.1).2.1,AV.str (ze.v z2.2.2.2.2.2.2.2.2.1).2.2,AV.str (ze.s z2.2.2.2.2.2.2.2.2.1),
   AV.sl Sh.expr (ze.l z2.2.2.2.2.2.2.2.2.1),AV.sl zf z2.2.2.2.2.2.2.2.2.2.1,AV.vec 1,AV.str (ze.op z2.2.2.2.2.2.2.2.2.2.2.2.1),AV.int .i64 (ze.v z2.2.2.2.2.2.2.2.2.2.2.2.1).1,AV.int .i64 (ze.v z2.2.2.2.2.2.2.2.2.2.2.2.1).2.1,AV.str (ze.v z2.2.2.2.2.2.2.2.2.2.2.2.1).2.2,AV.str (ze.s z2.2.2.2.2.2.2.2.2.2.2.2.1),
   AV.sl Sh.expr (ze.l z2.2.2.2.2.2.2.2.2.2.2.2.1),AV.str z2.2.2.2.2.2.2.2.2.2.2.2.2.1])
   [AO.vec (Sh.str.pr Sh.str) z2.2.2.2.2.2.2.2.1,AO.vec (Sh.str.pr Sh.expr) z2.2.2.2.2.2.2.2.2.2.2.1])
def tK (x0:Sem zx):=ap [zx] Np 100000000 (i8p x0)
def yo (x0:Sem zx):=(tK x0).isSome
def EA (x0:Sem zx):=o1 (tK x0)
def F8p:=FT [zx] [zx] fun x=>tK x.1
theorem OC:FK 10 F8p:=bB.T1 (f:=Tryz.f10) (keep:=zdj) (e:=e8p)

def OX:=eU.addL [(33,U3),(10,F8p)]
theorem wv:zm OX:=bB.addL <| fc Qw <| fc OC g6
end
noncomputable section

abbrev zdc:Nat→zT:=fun j=>if j=3 then { slots:=[0,3,4],prom:=[(3,none,zh)] } else { }
inductive Ub where
 | h3 (l0:List (Sem zh)) (i4:Int) (lh_0:List (Sem zh))
abbrev e7p:Ub→Nat×St
 | .h3 l0 i4 lh_0=>(3,⟨tm 24 [(0,AV.sl zh l0),(3,AV.vec 0),(4,AV.int .i64 i4)],[AO.vec zh lh_0]⟩)
def i7p (x0:Sem zh.sl):Tr (Ub ⊕ ag):=
 Tr.to (Ub.h3 x0 0 [])
def t7p:Ub→Tr (Ub ⊕ ag)
 | .h3 l0 i4 lh_0=>
  let a0:=l0.getD i4.toNat (zj zh)
  let a1:=((a0.1.1,a0.1.2.1,a0.1.2.2.1,a0.1.2.2.2.1,a0.1.2.2.2.2.1,zC a0.1.2.2.2.2.2),a0.2)
  let a2:=qr a1
  let a3:=[((a2.1.1,a2.1.2.1,a2.1.2.2.1,a2.1.2.2.2.1,a2.1.2.2.2.2.1,zC a2.1.2.2.2.2.2),a2.2)]
  Tr.br (bif decide (i4 < (↑l0.length:Int)) then decide (i4 < 13) else false)
  (Tr.chk (zJ i4 l0.length)
   (Tr.chk (Da a1) (Tr.chk (decide (lh_0.length+a3.length≤1073741824)) (Tr.to (Ub.h3 l0 (IntKind.i64.wrap (i4+1)) (lh_0++a3))))))
  (Tr.re (AV.vec 0)
   [AO.vec zh lh_0])
def tN (x0:Sem zh.sl):=ap [zh.sl] t7p 100000000 (i7p x0)
def Db (x0:Sem zh.sl):=(tN x0).isSome
def jw (x0:Sem zh.sl):=o1 (tN x0)
def F7p:=FT [zh.sl] [zh.sl] fun x=>tN x.1
theorem OB:FK 14 F7p:=wv.T1 (f:=Tryz.f14) (keep:=zdc) (e:=e7p)

def Ej:=OX.add 14 F7p
theorem lQ:zm Ej:=wv.add OB
end
noncomputable section
abbrev zH:List CP:=[.d (.sl zo),.d zg,.d .bool]

def YD (x0:Sem (Sh.int IntKind.u8)):Tr (Empty ⊕ ag):=
 let a0:=bif decide (97≤x0) then decide (x0≤122) else false
 Tr.re (AV.bool (bif decide (65≤x0) then bif decide (x0≤90) then true else a0 else a0)) []
def pH (x0:Sem (Sh.int IntKind.u8)):=ap [Sh.bool] t0 100000000 (YD x0)
def me (x0:Sem (Sh.int IntKind.u8)):=(pH x0).isSome
def ou (x0:Sem (Sh.int IntKind.u8)):=o1 (pH x0)
def NV:=FT [Sh.int IntKind.u8] [Sh.bool] fun x=>pH x.1
theorem Lj:FK 177 NV:=lQ.T1 (f:=Tryz.f177) (keep:=k0) (e:=e0)

def YF (x0:Sem (Sh.int IntKind.u8)):Tr (Empty ⊕ ag):=
 Tr.re (AV.bool (bif decide (48≤x0) then decide (x0≤57) else false)) []
def uo (x0:Sem (Sh.int IntKind.u8)):=ap [Sh.bool] t0 100000000 (YF x0)
def f7 (x0:Sem (Sh.int IntKind.u8)):=(uo x0).isSome
def gO (x0:Sem (Sh.int IntKind.u8)):=o1 (uo x0)
def NY:=FT [Sh.int IntKind.u8] [Sh.bool] fun x=>uo x.1
theorem Lm:FK 179 NY:=lQ.T1 (f:=Tryz.f179) (keep:=k0) (e:=e0)

abbrev I3:Nat→zT:=fun _=>{ }
theorem Ta:zz Ej.P 113 Tryz.f113 2:=aG (by kernel_rfl)
def IB (y:zr zH) (x0:TS):Tr (Empty ⊕ ag):=
 let a0:=decide (y.2.1 < (↑(length y.1):Int))
 let a1:=zJ y.2.1 (length y.1)
 let a2:=getD y.1 (toNat y.2.1) (zj zo)
 let a3:=a2.1==1
 let a4:=a2.1==4
 let a5:=a2.2==x0
 Tr.chk (bif a0 then a1&&bif a3 then a1 else a1&&bif a4 then a1 else true else true)
 (Tr.re (AV.bool (bif a0 then bif a3 then a5 else bif a4 then a5 else false else false)) (bE zH y))
theorem R4 (y:zr zH) (x0:TS):rn Ej 1 I3 Tryz.f113 [AV.ptr 0 0,zy Sh.str x0] (bE zH y)=(IB y x0).map (lf Tryz.f113 e0):=by kernel_rfl
def Ko (y:zr zH) (x0:TS):Option (zu (List.map some [Sh.bool])×zr zH):=vG [Sh.bool] zH t0 100000000 (IB y x0)
def iU (y:zr zH) (x0:TS):Bool:=(Ko y x0).isSome
def lD (y:zr zH) (x0:TS):(Sem Sh.bool)×zr zH:=(fun r:zu (List.map some [Sh.bool])×zr zH=>(r.1.1,r.2)) ((Ko y x0).getD (bK [Sh.bool],eT zH))
def NG:zB:=vn zH [Sh.str] [Sh.bool] zH (fun y x=>iU y x.1) fun y x=>(((lD y x.1).1,()),(lD y x.1).2)
theorem K4:FK 113 NG:=oU (ps:=zH) (ks:=[Sh.str]) (outs:=[Sh.bool]) (keep:=I3) (gas:=400) (n:=100000000) (e:=e0) (t:=t0) (i:=fun y x=>IB y x.1) lQ Ta (fun y x=>R4 y x.1) (G8 _ _ _ _ _) (fun _ _=>by kernel_rfl) (fun _ _=>by kernel_rfl)

def k9:=Ej.addL [(177,NV),(179,NY),(113,NG)]
theorem fG:zm k9:=lQ.addL <| fc Lj <| fc Lm <| fc K4 g6
end
noncomputable section

abbrev SJ:=kP [(2,[1,3])]
inductive vM where
 | h2 (i3:Int) (z0:zr [CP.d zf])
abbrev XH:vM→Nat×St
 | .h2 i3 z0=>(2,⟨tm 66 [(1,AV.ptr 0 0),(3,AV.int .i64 i3)],[AO.box (bu [] [CP.d zf] z0)]⟩)
def Yt (x0:Sem zf):Tr (vM ⊕ ag):=
 Tr.to (vM.h2 0 (x0,()))
def zaP:vM→Tr (vM ⊕ ag)
 | .h2 i3 z0=>
  let a0:=(↑(length z0.1.2.2):Int)
  let a1:=zJ i3 (length z0.1.2.2)
  let a2:=(↑(getD z0.1.2.2 i3.toNat 0).toNat:Int)
  let a3:=decide (a2 < 32)
  let a4:=z0.1.2.1==0
  let a5:=z0.1.2.2==[]
  Tr.br (decide (i3 < a0))
  (Tr.chk (a1&&bif a3 then true else a1)
   (Tr.br (bif a3 then true else decide (a2 > 126)) (Tr.re (AV.kb false) []) (Tr.to (vM.h2 (IntKind.i64.wrap (i3+1)) z0))))
  (Tr.br (z0.1.1==0) (Tr.re (AV.bool (bif a4 then a5 else false)) [])
   (Tr.br (z0.1.1==1) (Tr.re (AV.bool a5) []) (Tr.br (z0.1.1==2) (Tr.re (AV.bool (bif a4 then decide (a0≤40) else false)) []) (Tr.br (z0.1.1==3) (Tr.re (AV.bool (bif a4 then a5 else bif z0.1.2.1==1 then a5 else false)) []) (Tr.re (AV.kb false) [])))))
def Dk (x0:Sem zf):=ap [Sh.bool] zaP 100000000 (Yt x0)
def uh (x0:Sem zf):=(Dk x0).isSome
def BF (x0:Sem zf):=o1 (Dk x0)
def Nw:=FT [zf] [Sh.bool] fun x=>Dk x.1
theorem KU:FK 121 Nw:=fG.T1 (f:=Tryz.f121) (keep:=SJ) (e:=XH)

def YH (x0:Sem Sh.bool):Tr (Empty ⊕ ag):=
 Tr.br x0 (Tr.re (AV.agg [AV.int .i64 3,AV.int .i64 1,AV.str []]) []) (Tr.re (AV.agg [AV.int .i64 3,AV.int .i64 0,AV.str []]) [])
def uj (x0:Sem Sh.bool):=ap [zf] t0 100000000 (YH x0)
def J1 (x0:Sem Sh.bool):=(uj x0).isSome
def bN (x0:Sem Sh.bool):=o1 (uj x0)
def N2:=FT [Sh.bool] [zf] fun x=>uj x.1
theorem Lq:FK 188 N2:=fG.T1 (f:=Tryz.f188) (keep:=k0) (e:=e0)

abbrev I8:Nat→zT:=fun _=>{ }
theorem Ti:zz k9.P 276 Tryz.f276 1:=aG (by kernel_rfl)
def IG (x0:TS):Tr (Empty ⊕ ag):=
 Tr.re
 (AV.bool
  (bif x0==[97,110,100] then true
  else bif x0==[111,114] then true else bif x0==[61] then true else bif x0==[60] then true else bif x0==[43] then true else x0==[45]))
 []
theorem Sf (x0:TS):rn k9 0 I8 Tryz.f276 [zy Sh.str x0] []=(IG x0).map (lf Tryz.f276 e0):=by kernel_rfl
def J8 (x0:TS):Option (zu (List.map some [Sh.bool])):=ap [Sh.bool] t0 100000000 (IG x0)
def J7 (x0:TS):Bool:=(J8 x0).isSome
def PH (x0:TS):Sem Sh.bool:=(fun r:zu (List.map some [Sh.bool])=>r.1) ((J8 x0).getD (bK [Sh.bool]))
def Oc:zB:=zA [Sh.str] [Sh.bool] (fun x=>J7 x.1) fun x=>(PH x.1,())
theorem LB:FK 276 Oc:=hJ (ks:=[Sh.str]) (outs:=[Sh.bool]) (keep:=I8) (gas:=400) (n:=100000000) (e:=e0) (t:=t0) (i:=fun x=>IG x.1) fG Ti (fun x=>Sf x.1) (G8 _ _ _ _ _) (fun _=>by kernel_rfl) (fun _=>by kernel_rfl)

abbrev Je:Nat→zT:=fun j=>if j=2 then { slots:=[0,1,5] } else { }
inductive Ap where
 | h2 (l0:LC) (s1:TS) (i5:Int)
abbrev HM:Ap→Nat×St
 | .h2 l0 s1 i5=>(2,⟨tm 20 [(0,AV.sl zi l0),(1,AV.str s1),(5,AV.int .i64 i5)],[]⟩)
theorem ZM:zz k9.P 119 Tryz.f119 2:=aG (by kernel_rfl)
def Sv (x0:Sem zi.sl) (x1:TS):Tr (Ap ⊕ ag):=
 Tr.to (Ap.h2 x0 x1 0)
def Nn (l0:LC) (s1:TS) (i5:Int) (a0:Sem zi):Tr (Ap ⊕ ag):=
 Tr.br (decide (i5 < (↑l0.length:Int)))
 (Tr.chk (zJ i5 l0.length) (Tr.br (a0.1==s1) (Tr.re (AV.int .i64 i5) []) (Tr.to (Ap.h2 l0 s1 (IntKind.i64.wrap (i5+1))))))
 (Tr.re (AV.int .i64 (-1)) [])
def T6 (l0:LC) (s1:TS) (i5:Int):Tr (Ap ⊕ ag):=
 let a0:=l0.getD i5.toNat (zj zi)
 Nn l0 s1 i5 a0
theorem Ya (x0:Sem zi.sl) (x1:TS):rn k9 0 Je Tryz.f119 [zy zi.sl x0,zy Sh.str x1] []=(Sv x0 x1).map (lf Tryz.f119 HM):=by kernel_rfl
def T5:Ap→Tr (Ap ⊕ ag)
 | .h2 l0 s1 i5=>T6 l0 s1 i5
theorem zar:∀ s,run k9 0 Je (Func.results Tryz.f119).toList 400 (zw Tryz.f119 (HM s).1) (HM s).2=(T5 s).map (lf Tryz.f119 HM)
 | .h2 l0 s1 i5=>by kernel_rfl
def BJ (x0:Sem zi.sl) (x1:TS):Option (zu (List.map some [zg])):=ap [zg] T5 100000000 (Sv x0 x1)
def Ka (x0:Sem zi.sl) (x1:TS):Bool:=(BJ x0 x1).isSome
def Nc (x0:Sem zi.sl) (x1:TS):Sem zg:=(fun r:zu (List.map some [zg])=>r.1) ((BJ x0 x1).getD (bK [zg]))
def Vl:zB:=zA [zi.sl,Sh.str] [zg] (fun x=>Ka x.1 x.2.1) fun x=>(Nc x.1 x.2.1,())
theorem QR:FK 119 Vl:=hJ (ks:=[zi.sl,Sh.str]) (outs:=[zg]) (keep:=Je) (gas:=400) (n:=100000000) (e:=HM) (t:=T5) (i:=fun x=>Sv x.1 x.2.1) fG ZM (fun x=>Ya x.1 x.2.1) zar (fun _=>by kernel_rfl) (fun _=>by kernel_rfl)

def AY (g:Sem Sh.expr→Sem Sh.expr→Sem Sh.bool) (c:Sem Sh.expr→Sem Sh.expr→Bool):bb:=k9.add 103 (zA [Sh.expr,Sh.expr] [Sh.bool] (fun x=>c x.1 x.2.1) fun x=>(g x.1 x.2.1,()))
theorem F2 {g:Sem Sh.expr→Sem Sh.expr→Sem Sh.bool} {c:Sem Sh.expr→Sem Sh.expr→Bool} (hg:FK 103 (zA [Sh.expr,Sh.expr] [Sh.bool] (fun x=>c x.1 x.2.1) fun x=>(g x.1 x.2.1,()))):zm (AY g c):=fG.add hg
abbrev Jg:Nat→zT:=fun j=>if j=4 then { slots:=[2,3,5] } else { }
inductive Ar where
 | h4 (i5:Int) (z0:zr [CP.d Sh.expr]) (z1:zr [CP.d Sh.expr])
abbrev HQ:Ar→Nat×St
 | .h4 i5 z0 z1=>(4,⟨tm 53 [(2,AV.ptr 0 0),(3,AV.ptr 1 0),(5,AV.int .i64 i5)],[AO.box (bu [] [CP.d Sh.expr] z0),AO.box (bu [] [CP.d Sh.expr] z1)]⟩)
theorem Z9 (g:Sem Sh.expr→Sem Sh.expr→Sem Sh.bool) (c:Sem Sh.expr→Sem Sh.expr→Bool):zz (AY g c).P 103 Tryz.f103 2:=aG (by kernel_rfl)
def Gr (_:Sem Sh.expr→Sem Sh.expr→Sem Sh.bool) (_:Sem Sh.expr→Sem Sh.expr→Bool) (x0:Sem Sh.expr) (x1:Sem Sh.expr):Tr (Ar ⊕ ag):=
 Tr.br
 (bif !ze.op x0==ze.op x1 then true
 else
  bif !((ze.v x0).1==(ze.v x1).1&&((ze.v x0).2.1==(ze.v x1).2.1&&((ze.v x0).2.2==(ze.v x1).2.2&&true))) then true
  else bif !ze.s x0==ze.s x1 then true else (↑(ze.l x0).length:Int) != (↑(ze.l x1).length:Int))
 (Tr.re (AV.kb false) []) (Tr.to (Ar.h4 0 (x0,()) (x1,())))
def y7 (g:Sem Sh.expr→Sem Sh.expr→Sem Sh.bool) (c:Sem Sh.expr→Sem Sh.expr→Bool) (i5:Int) (z0:zr [CP.d Sh.expr]) (z1:zr [CP.d Sh.expr]) (a0:Int) (a1:ze) (a2:ze):Tr (Ar ⊕ ag):=
 Tr.br (decide (i5 < a0))
 (Tr.chk (zJ i5 (ze.l z0.1).length)
  (Tr.chk (zJ i5 (ze.l z1.1).length) (Tr.chk (c a1 a2) (Tr.br (!g a1 a2) (Tr.re (AV.kb false) []) (Tr.to (Ar.h4 (IntKind.i64.wrap (i5+1)) z0 z1))))))
 (Tr.re (AV.kb true) [])
def DN (g:Sem Sh.expr→Sem Sh.expr→Sem Sh.bool) (c:Sem Sh.expr→Sem Sh.expr→Bool) (i5:Int) (z0:zr [CP.d Sh.expr]) (z1:zr [CP.d Sh.expr]):Tr (Ar ⊕ ag):=
 let a0:=(↑(ze.l z0.1).length:Int)
 let a1:=zC ((ze.l z0.1).getD i5.toNat (zj Sh.expr))
 let a2:=zC ((ze.l z1.1).getD i5.toNat (zj Sh.expr))
 y7 g c i5 z0 z1 a0 a1 a2
theorem Yk (g:Sem Sh.expr→Sem Sh.expr→Sem Sh.bool) (c:Sem Sh.expr→Sem Sh.expr→Bool) (x0:Sem Sh.expr) (x1:Sem Sh.expr):rn (AY g c) 0 Jg Tryz.f103 [zy Sh.expr x0,zy Sh.expr x1] []=(Gr g c x0 x1).map (lf Tryz.f103 HQ):=by kernel_rfl
def B7 (g:Sem Sh.expr→Sem Sh.expr→Sem Sh.bool) (c:Sem Sh.expr→Sem Sh.expr→Bool):Ar→Tr (Ar ⊕ ag)
 | .h4 i5 z0 z1=>DN g c i5 z0 z1
theorem zaz (g:Sem Sh.expr→Sem Sh.expr→Sem Sh.bool) (c:Sem Sh.expr→Sem Sh.expr→Bool):∀ s,run (AY g c) 0 Jg (Func.results Tryz.f103).toList 400 (zw Tryz.f103 (HQ s).1) (HQ s).2=(B7 g c s).map (lf Tryz.f103 HQ)
 | .h4 i5 z0 z1=>by kernel_rfl
def eu (o:Option (zu (List.map some [Sh.bool]))):Sem Sh.bool:=(fun r:zu (List.map some [Sh.bool])=>r.1) (o.getD (bK [Sh.bool]))
def E6 (g:Sem Sh.expr→Sem Sh.expr→Sem Sh.bool) (c:Sem Sh.expr→Sem Sh.expr→Bool) (x0:Sem Sh.expr) (x1:Sem Sh.expr):Option (zu (List.map some [Sh.bool])):=ap [Sh.bool] (B7 g c) 3000000000 (Gr g c x0 x1)
def bj:Nat→Sem Sh.expr→Sem Sh.expr→Option (zu (List.map some [Sh.bool]))
 | 0=>fun _ _=>none
 | n+1=>E6 (fun x0 x1=>eu (bj n x0 x1)) fun x0 x1=>(bj n x0 x1).isSome
theorem SE:zz k9.P 103 Tryz.f103 2:=aG (by kernel_rfl)
theorem DZ:∀ n,FK 103 (zA [Sh.expr,Sh.expr] [Sh.bool] (fun x=>(bj n x.1 x.2.1).isSome) fun x=>(eu (bj n x.1 x.2.1),()))
 | 0=>cQ ⟨Tryz.f103,SE.1,SE.2.1,SE.2.2.1⟩ (fun _=>rfl)
 | n+1=>hJ (E:=AY (fun x0 x1=>eu (bj n x0 x1)) (fun x0 x1=>(bj n x0 x1).isSome)) (ks:=[Sh.expr,Sh.expr]) (outs:=[Sh.bool]) (keep:=Jg) (gas:=400) (n:=3000000000) (e:=HQ) (t:=B7 (fun x0 x1=>eu (bj n x0 x1)) (fun x0 x1=>(bj n x0 x1).isSome)) (i:=fun x=>Gr (fun x0 x1=>eu (bj n x0 x1)) (fun x0 x1=>(bj n x0 x1).isSome) x.1 x.2.1) (F2 (DZ n)) (Z9 _ _) (fun x=>Yk _ _ x.1 x.2.1) (zaz _ _) (fun _=>by kernel_rfl) (fun _=>by kernel_rfl)
def yA (x0:Sem Sh.expr) (x1:Sem Sh.expr):Option (zu (List.map some [Sh.bool])):=bj 16 x0 x1
def gK (x0:Sem Sh.expr) (x1:Sem Sh.expr):Bool:=(yA x0 x1).isSome
def fI (x0:Sem Sh.expr) (x1:Sem Sh.expr):Sem Sh.bool:=eu (yA x0 x1)
def VC:zB:=zA [Sh.expr,Sh.expr] [Sh.bool] (fun x=>gK x.1 x.2.1) fun x=>(fI x.1 x.2.1,())
theorem Ra:FK 103 VC:=DZ 16

def sD (g:Sem Sh.expr→Sem zg) (c:Sem Sh.expr→Bool):bb:=k9.add 245 (zA [Sh.expr] [zg] (fun x=>c x.1) fun x=>(g x.1,()))
theorem CA {g:Sem Sh.expr→Sem zg} {c:Sem Sh.expr→Bool} (hg:FK 245 (zA [Sh.expr] [zg] (fun x=>c x.1) fun x=>(g x.1,()))):zm (sD g c):=fG.add hg
abbrev C7:Nat→zT:=fun j=>if j=3 then { slots:=[1,3,4] } else { }
inductive pU where
 | h3 (i3:Int) (i4:Int) (z0:zr [CP.d Sh.expr])
abbrev AN:pU→Nat×St
 | .h3 i3 i4 z0=>(3,⟨tm 21 [(1,AV.ptr 0 0),(3,AV.int .i64 i3),(4,AV.int .i64 i4)],[AO.box (bu [] [CP.d Sh.expr] z0)]⟩)
theorem Th (g:Sem Sh.expr→Sem zg) (c:Sem Sh.expr→Bool):zz (sD g c).P 245 Tryz.f245 1:=aG (by kernel_rfl)
def IF (_:Sem Sh.expr→Sem zg) (_:Sem Sh.expr→Bool) (x0:Sem Sh.expr):Tr (pU ⊕ ag):=
 Tr.to (pU.h3 1 0 (x0,()))
def KJ (g:Sem Sh.expr→Sem zg) (c:Sem Sh.expr→Bool) (i3:Int) (i4:Int) (z0:zr [CP.d Sh.expr]) (a0:Int) (a1:ze):Tr (pU ⊕ ag):=
 Tr.br (decide (i4 < a0))
 (Tr.chk (zJ i4 (ze.l z0.1).length) (Tr.chk (c a1) (Tr.to (pU.h3 (IntKind.i64.wrap (i3+g a1)) (IntKind.i64.wrap (i4+1)) z0))))
 (Tr.re (AV.int .i64 i3) [])
def Nm (g:Sem Sh.expr→Sem zg) (c:Sem Sh.expr→Bool) (i3:Int) (i4:Int) (z0:zr [CP.d Sh.expr]):Tr (pU ⊕ ag):=
 let a0:=(↑(ze.l z0.1).length:Int)
 let a1:=zC ((ze.l z0.1).getD i4.toNat (zj Sh.expr))
 KJ g c i3 i4 z0 a0 a1
theorem Sc (g:Sem Sh.expr→Sem zg) (c:Sem Sh.expr→Bool) (x0:Sem Sh.expr):rn (sD g c) 0 C7 Tryz.f245 [zy Sh.expr x0] []=(IF g c x0).map (lf Tryz.f245 AN):=by kernel_rfl
def KI (g:Sem Sh.expr→Sem zg) (c:Sem Sh.expr→Bool):pU→Tr (pU ⊕ ag)
 | .h3 i3 i4 z0=>Nm g c i3 i4 z0
theorem Tt (g:Sem Sh.expr→Sem zg) (c:Sem Sh.expr→Bool):∀ s,run (sD g c) 0 C7 (Func.results Tryz.f245).toList 400 (zw Tryz.f245 (AN s).1) (AN s).2=(KI g c s).map (lf Tryz.f245 AN)
 | .h3 i3 i4 z0=>by kernel_rfl
def jz (o:Option (zu (List.map some [zg]))):Sem zg:=(fun r:zu (List.map some [zg])=>r.1) (o.getD (bK [zg]))
def J6 (g:Sem Sh.expr→Sem zg) (c:Sem Sh.expr→Bool) (x0:Sem Sh.expr):Option (zu (List.map some [zg])):=ap [zg] (KI g c) 100000000 (IF g c x0)
def dI:Nat→Sem Sh.expr→Option (zu (List.map some [zg]))
 | 0=>fun _=>none
 | n+1=>J6 (fun x0=>jz (dI n x0)) fun x0=>(dI n x0).isSome
theorem IV:zz k9.P 245 Tryz.f245 1:=aG (by kernel_rfl)
theorem Am:∀ n,FK 245 (zA [Sh.expr] [zg] (fun x=>(dI n x.1).isSome) fun x=>(jz (dI n x.1),()))
 | 0=>cQ ⟨Tryz.f245,IV.1,IV.2.1,IV.2.2.1⟩ (fun _=>rfl)
 | n+1=>hJ (E:=sD (fun x0=>jz (dI n x0)) (fun x0=>(dI n x0).isSome)) (ks:=[Sh.expr]) (outs:=[zg]) (keep:=C7) (gas:=400) (n:=100000000) (e:=AN) (t:=KI (fun x0=>jz (dI n x0)) (fun x0=>(dI n x0).isSome)) (i:=fun x=>IF (fun x0=>jz (dI n x0)) (fun x0=>(dI n x0).isSome) x.1) (CA (Am n)) (Th _ _) (fun x=>Sc _ _ x.1) (Tt _ _) (fun _=>by kernel_rfl) (fun _=>by kernel_rfl)
def BI (x0:Sem Sh.expr):Option (zu (List.map some [zg])):=dI 16 x0
def BH (x0:Sem Sh.expr):Bool:=(BI x0).isSome
def Fb (x0:Sem Sh.expr):Sem zg:=jz (BI x0)
def N1:zB:=zA [Sh.expr] [zg] (fun x=>BH x.1) fun x=>(Fb x.1,())
theorem Lp:FK 245 N1:=Am 16

def xW:=k9.addL [(121,Nw),(188,N2),(276,Oc),(119,Vl),(103,VC),(245,N1)]
theorem hZ:zm xW:=fG.addL <| fc KU <| fc Lq <| fc LB <| fc QR <| fc Ra <| fc Lp g6
end
noncomputable section

def YE (x0:Sem (Sh.int IntKind.u8)):Tr (Empty ⊕ ag):=
 Tr.chk (f7 x0&&bif gO x0 then true else me x0) (Tr.re (AV.bool (bif gO x0 then true else bif ou x0 then true else x0==95)) [])
def yF (x0:Sem (Sh.int IntKind.u8)):=ap [Sh.bool] t0 100000000 (YE x0)
def yE (x0:Sem (Sh.int IntKind.u8)):=(yF x0).isSome
def Dt (x0:Sem (Sh.int IntKind.u8)):=o1 (yF x0)
def NX:=FT [Sh.int IntKind.u8] [Sh.bool] fun x=>yF x.1
theorem Ll:FK 178 NX:=hZ.T1 (f:=Tryz.f178) (keep:=k0) (e:=e0)

abbrev ST:=kP [(3,[0,3,4])]
inductive vP where
 | h3 (s0:TS) (l3:LS) (i4:Int)
abbrev XO:vP→Nat×St
 | .h3 s0 l3 i4=>(3,⟨tm 18 [(0,AV.str s0),(3,AV.sl Sh.str l3),(4,AV.int .i64 i4)],[]⟩)
def YC (x0:TS):Tr (vP ⊕ ag):=
 Tr.to
 (vP.h3 x0
  [[65,78,68],[79,82],[78,79,84],[73,83],[78,85,76,76],[84,82,85,69],[70,65,76,83,69],[67,82,69,65,84,69],[84,65,66,76,69],[75,69,89],[85,78,73,81,85,69],[82,69,70,69,82,69,78,67,69,83],[67,72,69,67,75],[68,82,79,80],[73,78,83,69,82,84],
  [73,78,84,79],[86,65,76,85,69,83],[85,80,68,65,84,69],[83,69,84],[87,72,69,82,69],[68,69,76,69,84,69],[70,82,79,77],[83,69,76,69,67,84],[71,82,65,78,84],[82,69,86,79,75,69],[82,69,65,68],[87,82,73,84,69],[79,78],[84,79],
  [77,73,71,82,65,84,69],[67,79,80,89],[74,79,73,78],[71,82,79,85,80],[66,89],[83,85,77],[73,78,84],[84,69,88,84],[66,79,79,76]]
  0)
def zaU:vP→Tr (vP ⊕ ag)
 | .h3 s0 l3 i4=>
  Tr.br (decide (i4 < (↑l3.length:Int)))
  (Tr.chk (zJ i4 l3.length) (Tr.br (l3.getD i4.toNat (zj Sh.str)==s0) (Tr.re (AV.kb true) []) (Tr.to (vP.h3 s0 l3 (IntKind.i64.wrap (i4+1))))))
  (Tr.re (AV.kb false) [])
def Dv (x0:TS):=ap [Sh.bool] zaU 100000000 (YC x0)
def Du (x0:TS):=(Dv x0).isSome
def Kc (x0:TS):=o1 (Dv x0)
def NT:=FT [Sh.str] [Sh.bool] fun x=>Dv x.1
theorem Lh:FK 181 NT:=hZ.T1 (f:=Tryz.f181) (keep:=ST) (e:=XO)

abbrev IY:Nat→zT:=fun _=>{ }
theorem S4:zz xW.P 106 Tryz.f106 2:=aG (by kernel_rfl)
def Iv (y:zr zH) (x0:TS):Tr (Empty ⊕ ag):=
 let a0:=(y.1,y.2.1,y.2.2.1,())
 let a1:=lD a0 x0
 Tr.chk (iU a0 x0)
 (Tr.br a1.1 (Tr.re (AV.kb true) (bE zH (a1.2.1,IntKind.i64.wrap (a1.2.2.1+1),a1.2.2.2)))
  (Tr.re (AV.kb false) (bE zH a1.2)))
theorem RY (y:zr zH) (x0:TS):rn xW 1 IY Tryz.f106 [AV.ptr 0 0,zy Sh.str x0] (bE zH y)=(Iv y x0).map (lf Tryz.f106 e0):=by kernel_rfl
def Fh (y:zr zH) (x0:TS):Option (zu (List.map some [Sh.bool])×zr zH):=vG [Sh.bool] zH t0 100000000 (Iv y x0)
def aF (y:zr zH) (x0:TS):Bool:=(Fh y x0).isSome
def aW (y:zr zH) (x0:TS):(Sem Sh.bool)×zr zH:=(fun r:zu (List.map some [Sh.bool])×zr zH=>(r.1.1,r.2)) ((Fh y x0).getD (bK [Sh.bool],eT zH))
def NA:zB:=vn zH [Sh.str] [Sh.bool] zH (fun y x=>aF y x.1) fun y x=>(((aW y x.1).1,()),(aW y x.1).2)
theorem KY:FK 106 NA:=oU (ps:=zH) (ks:=[Sh.str]) (outs:=[Sh.bool]) (keep:=IY) (gas:=400) (n:=100000000) (e:=e0) (t:=t0) (i:=fun y x=>Iv y x.1) hZ S4 (fun y x=>RY y x.1) (G8 _ _ _ _ _) (fun _ _=>by kernel_rfl) (fun _ _=>by kernel_rfl)

abbrev Zm:=kP [(6,[2,3,5]),(11,[2,3,6]),(16,[2,3,7]),(21,[2,3,8]),(26,[2,3,9]),(31,[2,3,10])]
inductive mz where
 | h6 (i5:Int) (z0:zr kO) (z1:zr kO)
 | h11 (i6:Int) (z0:zr kO) (z1:zr kO)
 | h16 (i7:Int) (z0:zr kO) (z1:zr kO)
 | h21 (i8:Int) (z0:zr kO) (z1:zr kO)
 | h26 (i9:Int) (z0:zr kO) (z1:zr kO)
 | h31 (i10:Int) (z0:zr kO) (z1:zr kO)
abbrev zbC:mz→Nat×St
 | .h6 i5 z0 z1=>(6,⟨tm 238 [(2,AV.ptr 0 0),(3,AV.ptr 1 0),(5,AV.int .i64 i5)],[AO.box (bu [] kO z0),AO.box (bu [] kO z1)]⟩)
 | .h11 i6 z0 z1=>(11,⟨tm 238 [(2,AV.ptr 0 0),(3,AV.ptr 1 0),(6,AV.int .i64 i6)],[AO.box (bu [] kO z0),AO.box (bu [] kO z1)]⟩)
 | .h16 i7 z0 z1=>(16,⟨tm 238 [(2,AV.ptr 0 0),(3,AV.ptr 1 0),(7,AV.int .i64 i7)],[AO.box (bu [] kO z0),AO.box (bu [] kO z1)]⟩)
 | .h21 i8 z0 z1=>(21,⟨tm 238 [(2,AV.ptr 0 0),(3,AV.ptr 1 0),(8,AV.int .i64 i8)],[AO.box (bu [] kO z0),AO.box (bu [] kO z1)]⟩)
 | .h26 i9 z0 z1=>(26,⟨tm 238 [(2,AV.ptr 0 0),(3,AV.ptr 1 0),(9,AV.int .i64 i9)],[AO.box (bu [] kO z0),AO.box (bu [] kO z1)]⟩)
 | .h31 i10 z0 z1=>(31,⟨tm 238 [(2,AV.ptr 0 0),(3,AV.ptr 1 0),(10,AV.int .i64 i10)],[AO.box (bu [] kO z0),AO.box (bu [] kO z1)]⟩)
def zcY (x0:Sem zx) (x1:Sem zx):Tr (mz ⊕ ag):=
 let a0 := !x0.1==x1.1
 let a1 := !x0.2.1==x1.2.1
 let a2 := !x0.2.2.1==x1.2.2.1
 let a3 := !x0.2.2.2.2.2.1==x1.2.2.2.2.2.1
 let a4 := !x0.2.2.2.2.2.2.2.2.2.2.2.2==x1.2.2.2.2.2.2.2.2.2.2.2.2
 let a5:=zC x0.2.2.2.2.2.2.2.2.1
 let a6:=zC x1.2.2.2.2.2.2.2.2.1
 let a7 := !fI a5 a6
 let a8:=zC x0.2.2.2.2.2.2.2.2.2.2.2.1
 let a9:=zC x1.2.2.2.2.2.2.2.2.2.2.2.1
 Tr.chk
 (bif a0 then true
 else bif a1 then true else bif a2 then true else bif a3 then true else bif a4 then true else gK a5 a6&&bif a7 then true else gK a8 a9)
 (Tr.br (bif a0 then true else bif a1 then true else bif a2 then true else bif a3 then true else bif a4 then true else bif a7 then true else !fI a8 a9)
  (Tr.re (AV.kb false) [])
  (Tr.br (bif (↑(length x0.2.2.2.1):Int) != (↑(length x1.2.2.2.1):Int) then true else bif (↑(length x0.2.2.2.2.1):Int) != (↑(length x1.2.2.2.2.1):Int) then true else bif (↑(length x0.2.2.2.2.2.2.1):Int) != (↑(length x1.2.2.2.2.2.2.1):Int) then true else bif (↑(length x0.2.2.2.2.2.2.2.1):Int) != (↑(length x1.2.2.2.2.2.2.2.1):Int) then true
  else bif (↑(length x0.2.2.2.2.2.2.2.2.2.1):Int) != (↑(length x1.2.2.2.2.2.2.2.2.2.1):Int) then true else (↑(length x0.2.2.2.2.2.2.2.2.2.2.1):Int) != (↑(length x1.2.2.2.2.2.2.2.2.2.2.1):Int)) (Tr.re (AV.kb false) []) (Tr.to (mz.h6 0 (x0,()) (x1,())))))
def zdB:mz→Tr (mz ⊕ ag)
 | .h6 i5 z0 z1=>
  let a0:=(↑(length z0.1.2.2.2.1):Int)
  Tr.br (decide (i5 < a0))
  (Tr.chk (zJ i5 (length z0.1.2.2.2.1))
   (Tr.chk (zJ i5 (length z1.1.2.2.2.1)) (Tr.br (!getD z0.1.2.2.2.1 i5.toNat (zj Sh.str)==getD z1.1.2.2.2.1 i5.toNat (zj Sh.str)) (Tr.re (AV.kb false) []) (Tr.to (mz.h6 (IntKind.i64.wrap (i5+1)) z0 z1)))))
  (Tr.to (mz.h11 0 z0 z1))
 | .h11 i6 z0 z1=>
  let a0:=(↑(length z0.1.2.2.2.2.1):Int)
  let a1:=getD z0.1.2.2.2.2.1 i6.toNat (zj zi)
  let a2:=getD z1.1.2.2.2.2.1 i6.toNat (zj zi)
  Tr.br (decide (i6 < a0))
  (Tr.chk (zJ i6 (length z0.1.2.2.2.2.1))
   (Tr.chk (zJ i6 (length z1.1.2.2.2.2.1)) (Tr.br (!(a1.1==a2.1&&(a1.2.1==a2.2.1&&(a1.2.2==a2.2.2&&true)))) (Tr.re (AV.kb false) []) (Tr.to (mz.h11 (IntKind.i64.wrap (i6+1)) z0 z1)))))
  (Tr.to (mz.h16 0 z0 z1))
 | .h16 i7 z0 z1=>
  let a0:=(↑(length z0.1.2.2.2.2.2.2.1):Int)
  Tr.br (decide (i7 < a0))
  (Tr.chk (zJ i7 (length z0.1.2.2.2.2.2.2.1))
   (Tr.chk (zJ i7 (length z1.1.2.2.2.2.2.2.1)) (Tr.br (!getD z0.1.2.2.2.2.2.2.1 i7.toNat (zj Sh.str)==getD z1.1.2.2.2.2.2.2.1 i7.toNat (zj Sh.str)) (Tr.re (AV.kb false) []) (Tr.to (mz.h16 (IntKind.i64.wrap (i7+1)) z0 z1)))))
  (Tr.to (mz.h21 0 z0 z1))
 | .h21 i8 z0 z1=>
  let a0:=(↑(length z0.1.2.2.2.2.2.2.2.1):Int)
  let a1:=getD z0.1.2.2.2.2.2.2.2.1 i8.toNat (zj bI)
  let a2:=getD z1.1.2.2.2.2.2.2.2.1 i8.toNat (zj bI)
  Tr.br (decide (i8 < a0))
  (Tr.chk (zJ i8 (length z0.1.2.2.2.2.2.2.2.1))
   (Tr.chk (zJ i8 (length z1.1.2.2.2.2.2.2.2.1)) (Tr.br (!(a1.1==a2.1&&(a1.2==a2.2&&true))) (Tr.re (AV.kb false) []) (Tr.to (mz.h21 (IntKind.i64.wrap (i8+1)) z0 z1)))))
  (Tr.to (mz.h26 0 z0 z1))
 | .h26 i9 z0 z1=>
  let a0:=(↑(length z0.1.2.2.2.2.2.2.2.2.2.1):Int)
  let a1:=getD z0.1.2.2.2.2.2.2.2.2.2.1 i9.toNat (zj zf)
  let a2:=getD z1.1.2.2.2.2.2.2.2.2.2.1 i9.toNat (zj zf)
  Tr.br (decide (i9 < a0))
  (Tr.chk (zJ i9 (length z0.1.2.2.2.2.2.2.2.2.2.1))
   (Tr.chk (zJ i9 (length z1.1.2.2.2.2.2.2.2.2.2.1)) (Tr.br (!(a1.1==a2.1&&(a1.2.1==a2.2.1&&(a1.2.2==a2.2.2&&true)))) (Tr.re (AV.kb false) []) (Tr.to (mz.h26 (IntKind.i64.wrap (i9+1)) z0 z1)))))
  (Tr.to (mz.h31 0 z0 z1))
 | .h31 i10 z0 z1=>
  let a0:=(↑(length z0.1.2.2.2.2.2.2.2.2.2.2.1):Int)
  let a1:=zJ i10 (length z0.1.2.2.2.2.2.2.2.2.2.2.1)
  let a2:=zJ i10 (length z1.1.2.2.2.2.2.2.2.2.2.2.1)
  let a3:=getD z0.1.2.2.2.2.2.2.2.2.2.2.1 i10.toNat (zj aJ)
  let a4:=getD z1.1.2.2.2.2.2.2.2.2.2.2.1 i10.toNat (zj aJ)
  let a5 := !a3.1==a4.1
  let a6:=zC a3.2
  let a7:=zC a4.2
  Tr.br (decide (i10 < a0))
  (Tr.chk (a1&&(a2&&bif a5 then true else a1&&(a2&&gK a6 a7)))
   (Tr.br (bif a5 then true else !fI a6 a7) (Tr.re (AV.kb false) []) (Tr.to (mz.h31 (IntKind.i64.wrap (i10+1)) z0 z1))))
  (Tr.re (AV.kb true) [])
def yJ (x0:Sem zx) (x1:Sem zx):=ap [Sh.bool] zdB 100000000 (zcY x0 x1)
def Nf (x0:Sem zx) (x1:Sem zx):=(yJ x0 x1).isSome
def TQ (x0:Sem zx) (x1:Sem zx):=o1 (yJ x0 x1)
def VH:=FT [zx,zx] [Sh.bool] fun x=>yJ x.1 x.2.1
theorem Rf:FK 184 VH:=hZ.T1 (f:=Tryz.f184) (keep:=Zm) (e:=zbC)

def ww:=xW.addL [(178,NX),(181,NT),(106,NA),(184,VH)]
theorem lR:zm ww:=hZ.addL <| fc Ll <| fc Lh <| fc KY <| fc Rf g6
end
noncomputable section

abbrev SR:=kP [(2,[0,3])]
inductive vO where
 | h2 (s0:TS) (i3:Int)
abbrev XN:vO→Nat×St
 | .h2 s0 i3=>(2,⟨tm 28 [(0,AV.str s0),(3,AV.int .i64 i3)],[]⟩)
def YB (x0:TS):Tr (vO ⊕ ag):=
 Tr.to (vO.h2 x0 0)
def zaT:vO→Tr (vO ⊕ ag)
 | .h2 s0 i3=>
  let a0:=(↑(getD s0 i3.toNat 0).toNat:Int)
  let a1:=decide (1≤(↑(length s0):Int))
  let a2:=decide ((↑(length s0):Int)≤16)
  let a3:=(↑(getD s0 (toNat 0) 0).toNat:Int)
  Tr.br (decide (i3 < (↑(length s0):Int)))
  (Tr.chk (zJ i3 (length s0)) (Tr.chk (yE a0) (Tr.br (!Dt a0) (Tr.re (AV.kb false) []) (Tr.to (vO.h2 s0 (IntKind.i64.wrap (i3+1)))))))
  (Tr.chk (bif a1 then bif a2 then zJ 0 (length s0)&&me a3 else true else true)
   (Tr.re (AV.bool (bif a1 then bif a2 then ou a3 else false else false)) []))
def yD (x0:TS):=ap [Sh.bool] zaT 100000000 (YB x0)
def yC (x0:TS):=(yD x0).isSome
def un (x0:TS):=o1 (yD x0)
def NR:=FT [Sh.str] [Sh.bool] fun x=>yD x.1
theorem Lf:FK 185 NR:=lR.T1 (f:=Tryz.f185) (keep:=SR) (e:=XN)

abbrev IZ:Nat→zT:=fun _=>{ }
theorem S5:zz ww.P 108 Tryz.f108 2:=aG (by kernel_rfl)
def Iw (y:zr zH) (x0:TS):Tr (Empty ⊕ ag):=
 let a0:=(y.1,y.2.1,y.2.2.1,())
 let a1:=aW a0 x0
 Tr.chk (aF a0 x0)
 (Tr.br (!a1.1) (Tr.re (AV.tup []) [AO.box [AV.sl zo a1.2.1,AV.int .i64 a1.2.2.1,AV.kb false]])
  (Tr.re (AV.tup []) (bE zH a1.2)))
theorem RZ (y:zr zH) (x0:TS):rn ww 1 IZ Tryz.f108 [AV.ptr 0 0,zy Sh.str x0] (bE zH y)=(Iw y x0).map (lf Tryz.f108 e0):=by kernel_rfl
def Ff (y:zr zH) (x0:TS):Option (zu (List.map some [])×zr zH):=vG [] zH t0 100000000 (Iw y x0)
def zK (y:zr zH) (x0:TS):Bool:=(Ff y x0).isSome
def zS (y:zr zH) (x0:TS):zr zH:=(fun r:zu (List.map some [])×zr zH=>r.2) ((Ff y x0).getD (bK [],eT zH))
def NB:zB:=vn zH [Sh.str] [] zH (fun y x=>zK y x.1) fun y x=>((),zS y x.1)
theorem KZ:FK 108 NB:=oU (ps:=zH) (ks:=[Sh.str]) (outs:=[]) (keep:=IZ) (gas:=400) (n:=100000000) (e:=e0) (t:=t0) (i:=fun y x=>Iw y x.1) lR S5 (fun y x=>RZ y x.1) (G8 _ _ _ _ _) (fun _ _=>by kernel_rfl) (fun _ _=>by kernel_rfl)

abbrev I0:Nat→zT:=fun _=>{ }
theorem S7:zz ww.P 109 Tryz.f109 1:=aG (by kernel_rfl)
def Iy (y:zr zH):Tr (Empty ⊕ ag):=
 let a0:=decide (y.2.1 < (↑(length y.1):Int))
 let a1:=zJ y.2.1 (length y.1)
 let a2:=getD y.1 (toNat y.2.1) (zj zo)
 let a3:=a2.1==1
 let a4:=IntKind.i64.wrap (y.2.1+1)
 let a5:=IntKind.i64.wrap (a4 - 1)
 let a6:=getD y.1 a5.toNat (zj zo)
 Tr.chk (bif a0 then a1&&bif a3 then a1&&Du a2.2 else true else true)
 (Tr.br (bif a0 then bif a3 then !Kc a2.2 else false else false)
  (Tr.chk (zJ a5 (length y.1)) (Tr.re (AV.str a6.2) (bE zH (y.1,a4,y.2.2))))
  (Tr.re (AV.str []) [AO.box [AV.sl zo y.1,AV.int .i64 y.2.1,AV.kb false]]))
theorem R1 (y:zr zH):rn ww 1 I0 Tryz.f109 [AV.ptr 0 0] (bE zH y)=(Iy y).map (lf Tryz.f109 e0):=by kernel_rfl
def Fg (y:zr zH):Option (zu (List.map some [Sh.str])×zr zH):=vG [Sh.str] zH t0 100000000 (Iy y)
def zW (y:zr zH):Bool:=(Fg y).isSome
def aD (y:zr zH):(Sem Sh.str)×zr zH:=(fun r:zu (List.map some [Sh.str])×zr zH=>(r.1.1,r.2)) ((Fg y).getD (bK [Sh.str],eT zH))
def ND:zB:=vn zH [] [Sh.str] zH (fun y _=>zW y) fun y _=>(((aD y).1,()),(aD y).2)
theorem K1:FK 109 ND:=oU (ps:=zH) (ks:=[]) (outs:=[Sh.str]) (keep:=I0) (gas:=400) (n:=100000000) (e:=e0) (t:=t0) (i:=fun y x=>Iy y) lR S7 (fun y x=>R1 y) (G8 _ _ _ _ _) (fun _ _=>by kernel_rfl) (fun _ _=>by kernel_rfl)

def wx:=ww.addL [(185,NR),(108,NB),(109,ND)]
theorem g5:zm wx:=lR.addL <| fc Lf <| fc KZ <| fc K1 g6
end
noncomputable section

def Yv (x0:Sem zf):Tr (Empty ⊕ ag):=
 Tr.chk (uh x0)
 (Tr.br (BF x0) (Tr.re (AV.agg [AV.int .i64 x0.1,AV.int .i64 x0.2.1,AV.str x0.2.2]) [])
  (Tr.re (AV.agg [AV.int .i64 0,AV.int .i64 0,AV.str []]) []))
def yz (x0:Sem zf):=ap [zf] t0 100000000 (Yv x0)
def rb (x0:Sem zf):=(yz x0).isSome
def ee (x0:Sem zf):=o1 (yz x0)
def Ny:=FT [zf] [zf] fun x=>yz x.1
theorem KW:FK 124 Ny:=g5.T1 (f:=Tryz.f124) (keep:=k0) (e:=e0)

def Yu (x0:Sem zf) (x1:Sem Sh.bool):Tr (Empty ⊕ ag):=
 Tr.chk (J1 x1) (Tr.re (AV.bool (x0.1==(bN x1).1&&(x0.2.1==(bN x1).2.1&&(x0.2.2==(bN x1).2.2&&true)))) [])
def JZ (x0:Sem zf) (x1:Sem Sh.bool):=ap [Sh.bool] t0 100000000 (Yu x0 x1)
def mP (x0:Sem zf) (x1:Sem Sh.bool):=(JZ x0 x1).isSome
def ol (x0:Sem zf) (x1:Sem Sh.bool):=o1 (JZ x0 x1)
def Nx:=FT [zf,Sh.bool] [Sh.bool] fun x=>JZ x.1 x.2.1
theorem KV:FK 122 Nx:=g5.T1 (f:=Tryz.f122) (keep:=k0) (e:=e0)

def xT (g:Sem Sh.expr→Sem zg→Sem Sh.bool) (c:Sem Sh.expr→Sem zg→Bool):bb:=wx.add 244 (zA [Sh.expr,zg] [Sh.bool] (fun x=>c x.1 x.2.1) fun x=>(g x.1 x.2.1,()))
theorem Cz {g:Sem Sh.expr→Sem zg→Sem Sh.bool} {c:Sem Sh.expr→Sem zg→Bool} (hg:FK 244 (zA [Sh.expr,zg] [Sh.bool] (fun x=>c x.1 x.2.1) fun x=>(g x.1 x.2.1,()))):zm (xT g c):=g5.add hg
abbrev I7:Nat→zT:=fun _=>{ }
theorem Tg (g:Sem Sh.expr→Sem zg→Sem Sh.bool) (c:Sem Sh.expr→Sem zg→Bool):zz (xT g c).P 244 Tryz.f244 2:=aG (by kernel_rfl)
def IE (g:Sem Sh.expr→Sem zg→Sem Sh.bool) (c:Sem Sh.expr→Sem zg→Bool) (x0:Sem Sh.expr) (x1:Sem zg):Tr (Empty ⊕ ag):=
 let a0:=(↑(ze.l x0).length:Int)==0
 let a1:=(ze.v x0).1==0&&((ze.v x0).2.1==0&&((ze.v x0).2.2==[]&&true))
 let a2:=(↑(ze.l x0).length:Int)==1
 let a3:=zJ 0 (ze.l x0).length
 let a4:=zC ((ze.l x0).getD (toNat 0) (zj Sh.expr))
 let a5:=IntKind.i64.wrap (x1 - 1)
 let a6:=c a4 a5
 let a7:=g a4 a5
 let a8:=(↑(ze.l x0).length:Int)==2
 let a9:=zC ((ze.l x0).getD (toNat 1) (zj Sh.expr))
 Tr.br (x1==0) (Tr.re (AV.kb false) [])
 (Tr.br (ze.op x0==[108,105,116])
  (Tr.chk (uh (ze.v x0)) (Tr.re (AV.bool (bif BF (ze.v x0) then bif ze.s x0==[] then a0 else false else false)) []))
  (Tr.br (ze.op x0==[99,111,108]) (Tr.chk (bif a1 then yC (ze.s x0)&&bif un (ze.s x0) then Du (ze.s x0) else true else true) (Tr.re (AV.bool (bif a1 then bif un (ze.s x0) then bif !Kc (ze.s x0) then a0 else false else false else false)) [])) (Tr.br (bif ze.op x0==[110,111,116] then true else ze.op x0==[110,117,108,108])
  (Tr.chk (bif a1 then bif ze.s x0==[] then bif a2 then a3&&a6 else true else true else true) (Tr.re (AV.bool (bif a1 then bif ze.s x0==[] then bif a2 then a7 else false else false else false)) [])) (Tr.chk (J7 (ze.op x0)) (Tr.br (PH (ze.op x0)) (Tr.chk
  (bif a1 then bif ze.s x0==[] then bif a8 then a3&&(a6&&bif a7 then zJ 1 (ze.l x0).length&&c a9 a5 else true) else true else true else true) (Tr.re (AV.bool (bif a1 then bif ze.s x0==[] then bif a8 then bif a7 then g a9 a5 else false else false else false else false)) [])) (Tr.re (AV.kb false) []))))))
theorem Sb (g:Sem Sh.expr→Sem zg→Sem Sh.bool) (c:Sem Sh.expr→Sem zg→Bool) (x0:Sem Sh.expr) (x1:Sem zg):rn (xT g c) 0 I7 Tryz.f244 [zy Sh.expr x0,zy zg x1] []=(IE g c x0 x1).map (lf Tryz.f244 e0):=by kernel_rfl
def oq (o:Option (zu (List.map some [Sh.bool]))):Sem Sh.bool:=(fun r:zu (List.map some [Sh.bool])=>r.1) (o.getD (bK [Sh.bool]))
def Nb (g:Sem Sh.expr→Sem zg→Sem Sh.bool) (c:Sem Sh.expr→Sem zg→Bool) (x0:Sem Sh.expr) (x1:Sem zg):Option (zu (List.map some [Sh.bool])):=ap [Sh.bool] t0 100000000 (IE g c x0 x1)
def gM:Nat→Sem Sh.expr→Sem zg→Option (zu (List.map some [Sh.bool]))
 | 0=>fun _ _=>none
 | n+1=>Nb (fun x0 x1=>oq (gM n x0 x1)) fun x0 x1=>(gM n x0 x1).isSome
theorem IU:zz wx.P 244 Tryz.f244 2:=aG (by kernel_rfl)
theorem Al:∀ n,FK 244 (zA [Sh.expr,zg] [Sh.bool] (fun x=>(gM n x.1 x.2.1).isSome) fun x=>(oq (gM n x.1 x.2.1),()))
 | 0=>cQ ⟨Tryz.f244,IU.1,IU.2.1,IU.2.2.1⟩ (fun _=>rfl)
 | n+1=>hJ (E:=xT (fun x0 x1=>oq (gM n x0 x1)) (fun x0 x1=>(gM n x0 x1).isSome)) (ks:=[Sh.expr,zg]) (outs:=[Sh.bool]) (keep:=I7) (gas:=400) (n:=100000000) (e:=e0) (t:=t0) (i:=fun x=>IE (fun x0 x1=>oq (gM n x0 x1)) (fun x0 x1=>(gM n x0 x1).isSome) x.1 x.2.1) (Cz (Al n)) (Tg _ _) (fun x=>Sb _ _ x.1 x.2.1) (G8 _ _ _ _ _) (fun _=>by kernel_rfl) (fun _=>by kernel_rfl)
def Fa (x0:Sem Sh.expr) (x1:Sem zg):Option (zu (List.map some [Sh.bool])):=gM 16 x0 x1
def E9 (x0:Sem Sh.expr) (x1:Sem zg):Bool:=(Fa x0 x1).isSome
def J5 (x0:Sem Sh.expr) (x1:Sem zg):Sem Sh.bool:=oq (Fa x0 x1)
def N0:zB:=zA [Sh.expr,zg] [Sh.bool] (fun x=>E9 x.1 x.2.1) fun x=>(J5 x.1 x.2.1,())
theorem Lo:FK 244 N0:=Al 16

def AZ (g:Sem Sh.expr→Sem (Sh.sl zi)→Sem zg×Sem zg) (c:Sem Sh.expr→Sem (Sh.sl zi)→Bool):bb:=wx.add 187 (zA [Sh.expr,Sh.sl zi] [zg,zg] (fun x=>c x.1 x.2.1) fun x=>((g x.1 x.2.1).1,(g x.1 x.2.1).2,()))
theorem F3 {g:Sem Sh.expr→Sem (Sh.sl zi)→Sem zg×Sem zg} {c:Sem Sh.expr→Sem (Sh.sl zi)→Bool} (hg:FK 187 (zA [Sh.expr,Sh.sl zi] [zg,zg] (fun x=>c x.1 x.2.1) fun x=>((g x.1 x.2.1).1,(g x.1 x.2.1).2,()))):zm (AZ g c):=g5.add hg
abbrev Jh:Nat→zT:=fun j=>if j=5 then { slots:=[1,2,6] } else { }
inductive FG where
 | h5 (l1:LC) (i6:Int) (z0:zr [CP.d Sh.expr])
abbrev HR:FG→Nat×St
 | .h5 l1 i6 z0=>(5,⟨tm 116 [(1,AV.sl zi l1),(2,AV.ptr 0 0),(6,AV.int .i64 i6)],[AO.box (bu [] [CP.d Sh.expr] z0)]⟩)
theorem zae (g:Sem Sh.expr→Sem zi.sl→Sem zg×Sem zg) (c:Sem Sh.expr→Sem zi.sl→Bool):zz (AZ g c).P 187 Tryz.f187 2:=aG (by kernel_rfl)
def SA (g:Sem Sh.expr→Sem zi.sl→Sem zg×Sem zg) (c:Sem Sh.expr→Sem zi.sl→Bool) (x0:Sem Sh.expr) (x1:Sem zi.sl):Tr (FG ⊕ ag):=
 let a0:=zC ((ze.l x0).getD (toNat 0) (zj Sh.expr))
 let a1:=g a0 x1
 let a2:=zC ((ze.l x0).getD (toNat 1) (zj Sh.expr))
 let a3:=g a2 x1
 let a4:=ze.op x0==[110,117,108,108]
 let a5:=ze.op x0==[61]
 let a6:=a1.1 != 0
 let a7:=a3.1 != 0
 let a8:=ze.op x0==[60]
 let a9:=ze.op x0==[43]
 let a10:=a1.1 != 1
 let a11:=bif a7 then a3.1 != 1 else false
 let a12:=ze.op x0==[45]
 let a13:=a1.1 != 3
 let a14:=bif a7 then a3.1 != 3 else false
 let a15:=bif a6 then a10 else false
 let a16:=bif a6 then a13 else false
 Tr.br (ze.op x0==[108,105,116]) (Tr.re (AV.tup [AV.int .i64 (ze.v x0).1,AV.int .i64 0]) [])
 (Tr.br (ze.op x0==[99,111,108]) (Tr.to (FG.h5 x1 0 (x0,())))
  (Tr.chk (zJ 0 (ze.l x0).length) (Tr.chk (c a0 x1) (Tr.br (a1.2 != 0) (Tr.re (AV.tup [AV.int .i64 0,AV.int .i64 a1.2]) []) (Tr.br ((↑(ze.l x0).length:Int)==2) (Tr.chk (zJ 1 (ze.l x0).length) (Tr.chk (c a2 x1) (Tr.br (a3.2 != 0) (Tr.re (AV.tup [AV.int .i64 0,AV.int .i64 a3.2]) []) (Tr.br a4 (Tr.re (AV.tup [AV.int .i64 3,AV.int .i64 0]) []) (Tr.br a5
  (Tr.br (bif a6 then bif a7 then a1.1 != a3.1 else false else false) (Tr.re (AV.tup [AV.int .i64 0,AV.int .i64 5]) []) (Tr.re (AV.tup [AV.int .i64 3,AV.int .i64 0]) [])) (Tr.br a8 (Tr.br (bif a6 then bif a7 then a1.1 != a3.1 else false else false) (Tr.re (AV.tup [AV.int .i64 0,AV.int .i64 5]) []) (Tr.re (AV.tup [AV.int .i64 3,AV.int .i64 0]) [])) (Tr.br a9
  (Tr.br (bif a6 then bif a10 then true else a11 else a11) (Tr.re (AV.tup [AV.int .i64 0,AV.int .i64 5]) []) (Tr.re (AV.tup [AV.int .i64 1,AV.int .i64 0]) [])) (Tr.br a12 (Tr.br (bif a6 then bif a10 then true else a11 else a11) (Tr.re (AV.tup [AV.int .i64 0,AV.int .i64 5]) []) (Tr.re (AV.tup [AV.int .i64 1,AV.int .i64 0]) []))
  (Tr.br (bif a6 then bif a13 then true else a14 else a14) (Tr.re (AV.tup [AV.int .i64 0,AV.int .i64 5]) []) (Tr.re (AV.tup [AV.int .i64 3,AV.int .i64 0]) [])))))))))) (Tr.br a4 (Tr.re (AV.tup [AV.int .i64 3,AV.int .i64 0]) []) (Tr.br a5 (Tr.br (bif a6 then bif a6 then a1.1 != a1.1 else false else false) (Tr.re (AV.tup [AV.int .i64 0,AV.int .i64 5]) [])
  (Tr.re (AV.tup [AV.int .i64 3,AV.int .i64 0]) [])) (Tr.br a8 (Tr.br (bif a6 then bif a6 then a1.1 != a1.1 else false else false) (Tr.re (AV.tup [AV.int .i64 0,AV.int .i64 5]) []) (Tr.re (AV.tup [AV.int .i64 3,AV.int .i64 0]) [])) (Tr.br a9 (Tr.br (bif a6 then bif a10 then true else a15 else a15) (Tr.re (AV.tup [AV.int .i64 0,AV.int .i64 5]) [])
  (Tr.re (AV.tup [AV.int .i64 1,AV.int .i64 0]) [])) (Tr.br a12 (Tr.br (bif a6 then bif a10 then true else a15 else a15) (Tr.re (AV.tup [AV.int .i64 0,AV.int .i64 5]) []) (Tr.re (AV.tup [AV.int .i64 1,AV.int .i64 0]) [])) (Tr.br (bif a6 then bif a13 then true else a16 else a16) (Tr.re (AV.tup [AV.int .i64 0,AV.int .i64 5]) []) (Tr.re (AV.tup [AV.int .i64 3,AV.int .i64 0]) []))))))))))))
theorem Ym (g:Sem Sh.expr→Sem zi.sl→Sem zg×Sem zg) (c:Sem Sh.expr→Sem zi.sl→Bool) (x0:Sem Sh.expr) (x1:Sem zi.sl):rn (AZ g c) 0 Jh Tryz.f187 [zy Sh.expr x0,zy zi.sl x1] []=(SA g c x0 x1).map (lf Tryz.f187 HR):=by kernel_rfl
def T8 (_:Sem Sh.expr→Sem zi.sl→Sem zg×Sem zg) (_:Sem Sh.expr→Sem zi.sl→Bool):FG→Tr (FG ⊕ ag)
 | .h5 l1 i6 z0=>
  let a0:=l1.getD i6.toNat (zj zi)
  Tr.br (decide (i6 < (↑l1.length:Int)))
  (Tr.chk (zJ i6 l1.length)
   (Tr.br (a0.1==ze.s z0.1) (Tr.chk (zJ i6 l1.length) (Tr.re (AV.tup [AV.int .i64 a0.2.1,AV.int .i64 0]) [])) (Tr.to (FG.h5 l1 (IntKind.i64.wrap (i6+1)) z0))))
  (Tr.re (AV.tup [AV.int .i64 0,AV.int .i64 4]) [])
theorem zaA (g:Sem Sh.expr→Sem zi.sl→Sem zg×Sem zg) (c:Sem Sh.expr→Sem zi.sl→Bool):∀ s,run (AZ g c) 0 Jh (Func.results Tryz.f187).toList 400 (zw Tryz.f187 (HR s).1) (HR s).2=(T8 g c s).map (lf Tryz.f187 HR)
 | .h5 l1 i6 z0=>by kernel_rfl
def j3 (o:Option (zu (List.map some [zg,zg]))):Sem zg×Sem zg:=(fun r:zu (List.map some [zg,zg])=>(r.1,r.2.1)) (o.getD (bK [zg,zg]))
def Na (g:Sem Sh.expr→Sem zi.sl→Sem zg×Sem zg) (c:Sem Sh.expr→Sem zi.sl→Bool) (x0:Sem Sh.expr) (x1:Sem zi.sl):Option (zu (List.map some [zg,zg])):=ap [zg,zg] (T8 g c) 100000000 (SA g c x0 x1)
def ew:Nat→Sem Sh.expr→Sem zi.sl→Option (zu (List.map some [zg,zg]))
 | 0=>fun _ _=>none
 | n+1=>Na (fun x0 x1=>j3 (ew n x0 x1)) fun x0 x1=>(ew n x0 x1).isSome
theorem SF:zz wx.P 187 Tryz.f187 2:=aG (by kernel_rfl)
theorem D0:∀ n,FK 187 (zA [Sh.expr,zi.sl] [zg,zg] (fun x=>(ew n x.1 x.2.1).isSome) fun x=>((j3 (ew n x.1 x.2.1)).1,(j3 (ew n x.1 x.2.1)).2,()))
 | 0=>cQ ⟨Tryz.f187,SF.1,SF.2.1,SF.2.2.1⟩ (fun _=>rfl)
 | n+1=>hJ (E:=AZ (fun x0 x1=>j3 (ew n x0 x1)) (fun x0 x1=>(ew n x0 x1).isSome)) (ks:=[Sh.expr,zi.sl]) (outs:=[zg,zg]) (keep:=Jh) (gas:=400) (n:=100000000) (e:=HR) (t:=T8 (fun x0 x1=>j3 (ew n x0 x1)) (fun x0 x1=>(ew n x0 x1).isSome)) (i:=fun x=>SA (fun x0 x1=>j3 (ew n x0 x1)) (fun x0 x1=>(ew n x0 x1).isSome) x.1 x.2.1) (F3 (D0 n)) (zae _ _) (fun x=>Ym _ _ x.1 x.2.1) (zaA _ _) (fun _=>by kernel_rfl) (fun _=>by kernel_rfl)
def E8 (x0:Sem Sh.expr) (x1:Sem zi.sl):Option (zu (List.map some [zg,zg])):=ew 16 x0 x1
def M9 (x0:Sem Sh.expr) (x1:Sem zi.sl):Bool:=(E8 x0 x1).isSome
def J4 (x0:Sem Sh.expr) (x1:Sem zi.sl):Sem zg×Sem zg:=j3 (E8 x0 x1)
def VL:zB:=zA [Sh.expr,zi.sl] [zg,zg] (fun x=>M9 x.1 x.2.1) fun x=>((J4 x.1 x.2.1).1,(J4 x.1 x.2.1).2,())
theorem Rj:FK 187 VL:=D0 16

abbrev Y8:=kP [(4,[2,3,5]),(9,[2,3,6]),(14,[2,3,7])]
inductive rM where
 | h4 (i5:Int) (z0:zr [CP.d zE]) (z1:zr [CP.d zE])
 | h9 (i6:Int) (z0:zr [CP.d zE]) (z1:zr [CP.d zE])
 | h14 (i7:Int) (z0:zr [CP.d zE]) (z1:zr [CP.d zE])
abbrev zbu:rM→Nat×St
 | .h4 i5 z0 z1=>(4,⟨tm 106 [(2,AV.ptr 0 0),(3,AV.ptr 1 0),(5,AV.int .i64 i5)],[AO.box (bu [] [CP.d zE] z0),AO.box (bu [] [CP.d zE] z1)]⟩)
 | .h9 i6 z0 z1=>(9,⟨tm 106 [(2,AV.ptr 0 0),(3,AV.ptr 1 0),(6,AV.int .i64 i6)],[AO.box (bu [] [CP.d zE] z0),AO.box (bu [] [CP.d zE] z1)]⟩)
 | .h14 i7 z0 z1=>(14,⟨tm 106 [(2,AV.ptr 0 0),(3,AV.ptr 1 0),(7,AV.int .i64 i7)],[AO.box (bu [] [CP.d zE] z0),AO.box (bu [] [CP.d zE] z1)]⟩)
def Ss (x0:Sem zE) (x1:Sem zE):Tr (rM ⊕ ag):=
 Tr.br
 (bif !x0.1==x1.1 then true
 else
  bif x0.2.2.1 != x1.2.2.1 then true
  else bif (↑(length x0.2.1):Int) != (↑(length x1.2.1):Int) then true else bif (↑(length x0.2.2.2.1):Int) != (↑(length x1.2.2.2.1):Int) then true else (↑(length x0.2.2.2.2.1):Int) != (↑(length x1.2.2.2.2.1):Int))
 (Tr.re (AV.kb false) []) (Tr.to (rM.h4 0 (x0,()) (x1,())))
def DM:rM→Tr (rM ⊕ ag)
 | .h4 i5 z0 z1=>
  let a0:=(↑(length z0.1.2.1):Int)
  let a1:=getD z0.1.2.1 i5.toNat (zj zi)
  let a2:=getD z1.1.2.1 i5.toNat (zj zi)
  Tr.br (decide (i5 < a0))
  (Tr.chk (zJ i5 (length z0.1.2.1))
   (Tr.chk (zJ i5 (length z1.1.2.1)) (Tr.br (!(a1.1==a2.1&&(a1.2.1==a2.2.1&&(a1.2.2==a2.2.2&&true)))) (Tr.re (AV.kb false) []) (Tr.to (rM.h4 (IntKind.i64.wrap (i5+1)) z0 z1)))))
  (Tr.to (rM.h9 0 z0 z1))
 | .h9 i6 z0 z1=>
  let a0:=(↑(length z0.1.2.2.2.1):Int)
  Tr.br (decide (i6 < a0))
  (Tr.chk (zJ i6 (length z0.1.2.2.2.1))
   (Tr.chk (zJ i6 (length z1.1.2.2.2.1)) (Tr.br (getD z0.1.2.2.2.1 i6.toNat (zj zg) != getD z1.1.2.2.2.1 i6.toNat (zj zg)) (Tr.re (AV.kb false) []) (Tr.to (rM.h9 (IntKind.i64.wrap (i6+1)) z0 z1)))))
  (Tr.to (rM.h14 0 z0 z1))
 | .h14 i7 z0 z1=>
  let a0:=(↑(length z0.1.2.2.2.2.1):Int)
  let a1:=getD z0.1.2.2.2.2.1 i7.toNat (zj zo)
  let a2:=getD z1.1.2.2.2.2.1 i7.toNat (zj zo)
  let a3:=zC z0.1.2.2.2.2.2
  let a4:=zC z1.1.2.2.2.2.2
  Tr.br (decide (i7 < a0))
  (Tr.chk (zJ i7 (length z0.1.2.2.2.2.1))
   (Tr.chk (zJ i7 (length z1.1.2.2.2.2.1)) (Tr.br (!(a1.1==a2.1&&(a1.2==a2.2&&true))) (Tr.re (AV.kb false) []) (Tr.to (rM.h14 (IntKind.i64.wrap (i7+1)) z0 z1)))))
  (Tr.chk (gK a3 a4) (Tr.re (AV.bool (fI a3 a4)) []))
def ot (x0:Sem zE) (x1:Sem zE):=ap [Sh.bool] DM 100000000 (Ss x0 x1)
def rg (x0:Sem zE) (x1:Sem zE):=(ot x0 x1).isSome
def j4 (x0:Sem zE) (x1:Sem zE):=o1 (ot x0 x1)
def PO:=FT [zE,zE] [Sh.bool] fun x=>ot x.1 x.2.1
theorem Hi:FK 60 PO:=g5.T1 (f:=Tryz.f60) (keep:=Y8) (e:=zbu)

def HW:=wx.addL [(124,Ny),(122,Nx),(244,N0),(187,VL),(60,PO)]
theorem eA:zm HW:=g5.addL <| fc KW <| fc KV <| fc Lo <| fc Rj <| fc Hi g6
end
noncomputable section

def zcU (x0:Sem zf) (x1:Sem zf):Tr (Empty ⊕ ag):=
 let a0:=(ee x0).1==(ee x1).1
 let a1:=(ee x0).2.1==(ee x1).2.1
 Tr.chk (rb x0)
 (Tr.chk (rb x1)
  (Tr.br (a0&&(a1&&((ee x0).2.2==(ee x1).2.2&&true))) (Tr.re (AV.int .i64 0) []) (Tr.br (bif decide ((ee x0).1 < (ee x1).1) then true else bif a0 then bif decide ((ee x0).2.1 < (ee x1).2.1) then true else bif a1 then Op.bytesLess (ee x0).2.2 (ee x1).2.2 else false else false) (Tr.re (AV.int .i64 (-1)) []) (Tr.re (AV.int .i64 1) []))))
def J0 (x0:Sem zf) (x1:Sem zf):=ap [zg] t0 100000000 (zcU x0 x1)
def Vv:=FT [zf,zf] [zg] fun x=>J0 x.1 x.2.1
theorem Q2:FK 67 Vv:=eA.T1 (f:=Tryz.f67) (keep:=k0) (e:=e0)

def YN (x0:Sem zf) (x1:Sem zf):Tr (Empty ⊕ ag):=
 Tr.chk (rb x0)
 (Tr.chk (rb x1)
  (Tr.re (AV.bool (bif (ee x0).1==0 then true else bif (ee x1).1==0 then true else (ee x0).1 != (ee x1).1)) []))
def J2 (x0:Sem zf) (x1:Sem zf):=ap [Sh.bool] t0 100000000 (YN x0 x1)
def Od:=FT [zf,zf] [Sh.bool] fun x=>J2 x.1 x.2.1
theorem LD:FK 246 Od:=eA.T1 (f:=Tryz.f246) (keep:=k0) (e:=e0)

def YJ (x0:Sem zf) (x1:Sem zf):Tr (Empty ⊕ ag):=
 Tr.chk (mP x0 false&&bif ol x0 false then true else mP x1 false)
 (Tr.br (bif ol x0 false then true else ol x1 false)
  (Tr.chk true (Tr.re (AV.agg [AV.int .i64 (bN false).1,AV.int .i64 (bN false).2.1,AV.str (bN false).2.2]) []))
  (Tr.chk (mP x0 true&&bif ol x0 true then mP x1 true else true) (Tr.br (bif ol x0 true then ol x1 true else false) (Tr.chk true (Tr.re (AV.agg [AV.int .i64 (bN true).1,AV.int .i64 (bN true).2.1,AV.str (bN true).2.2]) [])) (Tr.re (AV.agg [AV.int .i64 0,AV.int .i64 0,AV.str []]) []))))
def TO (x0:Sem zf) (x1:Sem zf):=ap [zf] t0 100000000 (YJ x0 x1)
def N4:=FT [zf,zf] [zf] fun x=>TO x.1 x.2.1
theorem Ls:FK 190 N4:=eA.T1 (f:=Tryz.f190) (keep:=k0) (e:=e0)

def YK (x0:Sem zf) (x1:Sem zf):Tr (Empty ⊕ ag):=
 Tr.chk (mP x0 true&&bif ol x0 true then true else mP x1 true)
 (Tr.br (bif ol x0 true then true else ol x1 true)
  (Tr.chk true (Tr.re (AV.agg [AV.int .i64 (bN true).1,AV.int .i64 (bN true).2.1,AV.str (bN true).2.2]) []))
  (Tr.chk (mP x0 false&&bif ol x0 false then mP x1 false else true) (Tr.br (bif ol x0 false then ol x1 false else false) (Tr.chk true (Tr.re (AV.agg [AV.int .i64 (bN false).1,AV.int .i64 (bN false).2.1,AV.str (bN false).2.2]) [])) (Tr.re (AV.agg [AV.int .i64 0,AV.int .i64 0,AV.str []]) []))))
def zaI (x0:Sem zf) (x1:Sem zf):=ap [zf] t0 100000000 (YK x0 x1)
def N5:=FT [zf,zf] [zf] fun x=>zaI x.1 x.2.1
theorem Lt:FK 191 N5:=eA.T1 (f:=Tryz.f191) (keep:=k0) (e:=e0)

def YI (x0:Sem zf):Tr (Empty ⊕ ag):=
 Tr.chk (mP x0 true)
 (Tr.br (ol x0 true)
  (Tr.chk true (Tr.re (AV.agg [AV.int .i64 (bN false).1,AV.int .i64 (bN false).2.1,AV.str (bN false).2.2]) []))
  (Tr.chk (mP x0 false) (Tr.br (ol x0 false) (Tr.chk true (Tr.re (AV.agg [AV.int .i64 (bN true).1,AV.int .i64 (bN true).2.1,AV.str (bN true).2.2]) [])) (Tr.re (AV.agg [AV.int .i64 0,AV.int .i64 0,AV.str []]) []))))
def TP (x0:Sem zf):=ap [zf] t0 100000000 (YI x0)
def N3:=FT [zf] [zf] fun x=>TP x.1
theorem Lr:FK 189 N3:=eA.T1 (f:=Tryz.f189) (keep:=k0) (e:=e0)

def zc0 (x0:Sem Sh.expr):Tr (Empty ⊕ ag):=
 let a0:=J5 (zC x0) 12
 Tr.chk (E9 (zC x0) 12&&bif a0 then BH (zC x0) else true) (Tr.re (AV.bool (bif a0 then decide (Fb (zC x0)≤60) else false)) [])
def Dm (x0:Sem Sh.expr):=ap [Sh.bool] t0 100000000 (zc0 x0)
def Dl (x0:Sem Sh.expr):=(Dm x0).isSome
def J3 (x0:Sem Sh.expr):=o1 (Dm x0)
def VK:=FT [Sh.expr] [Sh.bool] fun x=>Dm x.1
theorem Ri:FK 186 VK:=eA.T1 (f:=Tryz.f186) (keep:=k0) (e:=e0)

def HX:=HW.addL [(67,Vv),(246,Od),(190,N4),(191,N5),(189,N3),(186,VK)]
theorem sM:zm HX:=eA.addL <| fc Q2 <| fc LD <| fc Ls <| fc Lt <| fc Lr <| fc Ri <| g6
end
noncomputable section

abbrev SX:=kP [(2,[0,3])]
inductive vR where
 | h2 (i0:Sem zg) (s3:List UInt8)
abbrev XQ:vR→Nat×St
 | .h2 i0 s3=>(2,⟨tm 21 [(0,AV.int .i64 i0),(3,AV.str s3)],[]⟩)
def YM (x0:Sem zg):Tr (vR ⊕ ag):=
 Tr.to (vR.h2 x0 [])
def zaW:vR→Tr (vR ⊕ ag)
 | .h2 i0 s3=>
  let a0:=gn [IntKind.u8.wrap (IntKind.i64.wrap (48 - IntKind.i64.wrap (Int.tmod i0 10)))]
  Tr.br (bif decide (i0 < 0) then true else s3==[])
  (Tr.chk true (Tr.chk (decide (length a0+s3.length≤1099511627776)) (Tr.chk true (Tr.to (vR.h2 (IntKind.i64.wrap (Int.tdiv i0 10)) (a0++s3))))))
  (Tr.re (AV.str s3) [])
def pC (x0:Sem zg):=ap [Sh.str] zaW 100000000 (YM x0)
def w9 (x0:Sem zg):=(pC x0).isSome
def uk (x0:Sem zg):=o1 (pC x0)
def Ob:=FT [zg] [Sh.str] fun x=>pC x.1
theorem LA:FK 275 Ob:=sM.T1 (f:=Tryz.f275) (keep:=SX) (e:=XQ)

def HY:=HX.add 275 Ob
theorem sO:zm HY:=sM.add LA
end
noncomputable section

abbrev SP:=kP [(13,[1,3,4])]
inductive rJ where
 | h13 (s3:List UInt8) (i4:Int) (z0:zr [CP.d zf])
abbrev XL:rJ→Nat×St
 | .h13 s3 i4 z0=>(13,⟨tm 54 [(1,AV.ptr 0 0),(3,AV.str s3),(4,AV.int .i64 i4)],[AO.box (bu [] [CP.d zf] z0)]⟩)
def Yz (x0:Sem zf):Tr (rJ ⊕ ag):=
 let a0:=IntKind.i64.wrap (0 - x0.2.1)
 Tr.chk (uh x0)
 (Tr.br (!BF x0) (Tr.re (AV.str []) [])
  (Tr.br (x0.1==0) (Tr.re (AV.str [78,85,76,76]) []) (Tr.br (x0.1==1) (Tr.br (decide (x0.2.1 < 0)) (Tr.chk (w9 x0.2.1) (Tr.chk (decide ([45].length+length (uk x0.2.1)≤1099511627776)) (Tr.re (AV.str ([45]++uk x0.2.1)) []))) (Tr.chk (w9 a0) (Tr.re (AV.str (uk a0)) []))) (Tr.br (x0.1==2) (Tr.to (rJ.h13 [39] 0 (x0,())))
  (Tr.br (x0.2.1==1) (Tr.re (AV.str [84,82,85,69]) []) (Tr.re (AV.str [70,65,76,83,69]) []))))))
def zaR:rJ→Tr (rJ ⊕ ag)
 | .h13 s3 i4 z0=>
  let a0:=(↑(length z0.1.2.2):Int)
  let a1:=IntKind.i64.wrap (i4+1)
  let a2:=List.take (a1.toNat - i4.toNat) (List.drop i4.toNat z0.1.2.2)
  let a3:=s3++a2
  Tr.br (decide (i4 < a0))
  (Tr.chk (decide (0≤i4)&&decide (i4≤a1)&&decide (a1≤a0))
   (Tr.chk (decide (s3.length+a2.length≤1099511627776)) (Tr.chk (zJ i4 (length z0.1.2.2)) (Tr.br ((↑(getD z0.1.2.2 i4.toNat 0).toNat:Int)==39) (Tr.chk (decide (length a3+[39].length≤1099511627776)) (Tr.to (rJ.h13 (a3++[39]) a1 z0))) (Tr.to (rJ.h13 a3 a1 z0))))))
  (Tr.chk (decide (s3.length+[39].length≤1099511627776)) (Tr.re (AV.str (s3++[39])) []))
def yx (x0:Sem zf):=ap [Sh.str] zaR 100000000 (Yz x0)
def md (x0:Sem zf):=(yx x0).isSome
def pB (x0:Sem zf):=o1 (yx x0)
def NO:=FT [zf] [Sh.str] fun x=>yx x.1
theorem Lc:FK 241 NO:=sO.T1 (f:=Tryz.f241) (keep:=SP) (e:=XL)

def xX:=HY.add 241 NO
theorem sQ:zm xX:=sO.add Lc
end
end Cad
