/- The document's sameness of expressions and statements: they are the same. The document's sameness of statements, tables, plans: they are the same. The document's sameness of rows, tables, bases: they are the same. The law BaseOrder. The law BaseOrder answers true. The law BaseBack answers true. From what is handed in to plain data. From a contract over plain data to a law's statement. What the package variables hold when a law begins. Laws of any parameters: the contract. A row of the world has numbers of 64 bits. The law BaseBack answers true: as a call. -/
import Derived.Test.YtiefilkilbdpgaaGreatDoorL15
import Derived.Test.YtiefilkilbdpgaaGreatDoorL11
import Derived.Test.YtiefilkilbdpgaaGreatDoorL12
import Derived.Test.YtiefilkilbdpgaaGreatDoorL14
import Derived.Test.YtiefilkilbdpgaaGreatDoorL18
import Derived.Test.YtiefilkilbdpgaaGreatDoorL09
import Derived.Carry
import Derived.ChangeSame
import Derived.RowKit3
import Derived.WideKeyArgs
import Derived.Test.YtiefilkilbdpgaaGreatDoorL06
import Derived.Test.YtiefilkilbdpgaaGreatDoorRows
import Derived.OpenShut
import Derived.ProofKit
namespace Cad
open Go Go.Proofs
open List (getD)
open List (length)
set_option maxHeartbeats 4000000

section
variable {σ:Type} {t:σ→Tr (σ ⊕ zV)}
abbrev EN:zV:=(.kb false,[])
theorem FX {α:Type} {la lb:List α} (st:Nat→σ) (hlen:la.length=lb.length) (hs:∀ i (ha:i < la.length) (hb:i < lb.length),(la[i]=lb[i]→(t (st i)).val=some (.inl (st (i+1))))∧(la[i]≠lb[i]→(t (st i)).val=some (.inr EN))):
  (la=lb∧aQ t la.length (st 0) (st la.length))∨(la≠lb∧bS t la.length (st 0) EN):=by
 rcases KZ (t:=t) (Φ:=fun r=>r=EN) 1 st (fun i=>la[i]?=lb[i]?) la.length (fun i hi _=>by
  have hb:i < lb.length:=by omega
  obtain ⟨h1,h2⟩:=hs i hi hb
  rw [zI hi,zI hb]
  by_cases h:la[i]=lb[i]
  ·exact .inl ⟨by rw [h],aQ.of (h1 h)⟩
  ·exact .inr ⟨fun h3=>h (Option.some.inj h3),EN,bS.of (h2 h),rfl⟩) with ⟨h1,h2⟩ | ⟨h1,r,h2,rfl⟩
 ·rw [Nat.mul_one] at h2
  refine .inl ⟨yC fun i=>?_,h2⟩
  by_cases hi:i < la.length
  ·exact h1 i hi
  ·rw [dh (by omega),dh (by omega)]
 ·rw [Nat.mul_one] at h2
  exact .inr ⟨fun h=>h1 fun i _=>by rw [h],h2⟩
end

theorem Hy {α:Type} {a b:List α}:((a.length:Int) != (b.length:Int))=true↔a.length≠b.length:=by
 simp [bne]; omega

theorem wL:∀ (N:Nat) (a b:ze),lM N a=true→∃ r,bf N a b=some (r,())∧(r=true↔a=b)
 | 0,_,_,h=>by cases h
 | N + 1,.mk op v s l,.mk op' v' s' l',h=>by
  rw [lM] at h
  simp only [aG,zW,cL] at h
  obtain ⟨hl,ha⟩:=h
  rw [bf]
  unfold IF
  have no:(JZ (fun x0 x1=>eO (bf N x0 x1)) (fun x0 x1=>(bf N x0 x1).isSome) (.mk op v s l) (.mk op' v' s' l')).val=some (.inr EN)→¬ (ze.mk op v s l=ze.mk op' v' s' l')→
    ∃ r,zT [Sh.bool] (CT (fun x0 x1=>eO (bf N x0 x1)) (fun x0 x1=>(bf N x0 x1).isSome)) 3000000000 (JZ (fun x0 x1=>eO (bf N x0 x1)) (fun x0 x1=>(bf N x0 x1).isSome) (.mk op v s l) (.mk op' v' s' l'))=some (r,())∧(r=true↔ze.mk op v s l=ze.mk op' v' s' l'):=by
   intro hv hne
   exact ⟨false,gT hv rfl,by simp [hne]⟩
  have hd:∀ c:Bool,(bif !op==op' then true else bif !(v.1==v'.1&&(v.2.1==v'.2.1&&(v.2.2==v'.2.2&&true))) then true else bif !s==s' then true else (↑l.length:Int) != (↑l'.length:Int))=c→
    (JZ (fun x0 x1=>eO (bf N x0 x1)) (fun x0 x1=>(bf N x0 x1).isSome) (.mk op v s l) (.mk op' v' s' l')).val=if c=true then some (.inr EN) else some (.inl (.h4 ((0:Nat):Int) (.mk op v s l,()) (.mk op' v' s' l',()))):=by
   rintro c rfl
   rfl
  by_cases e1:op=op'
  rotate_left
  ·exact no (by rw [hd true (by rw [nO.2 e1]; rfl)]; rfl) (fun h=>e1 (by injection h))
  by_cases e2:v=v'
  rotate_left
  ·refine no ?_ (fun h=>e2 (by injection h))
   rw [hd true ?_]
   ·rfl
   ·have:(v.1==v'.1&&(v.2.1==v'.2.1&&(v.2.2==v'.2.2&&true)))=false:=by
     rw [← Bool.not_eq_true]
     intro h
     simp at h
     exact e2 (Prod.ext h.1 (Prod.ext h.2.1 h.2.2))
    rw [this]
    cases (op==op') <;> rfl
  by_cases e3:s=s'
  rotate_left
  ·refine no ?_ (fun h=>e3 (by injection h))
   rw [hd true ?_]
   ·rfl
   ·rw [nO.2 e3]
    cases (op==op') <;> cases (v.1==v'.1&&(v.2.1==v'.2.1&&(v.2.2==v'.2.2&&true))) <;> rfl
  by_cases e4:l.length=l'.length
  rotate_left
  ·refine no ?_ (fun h=>e4 (by injection h with _ _ _ h; rw [h]))
   rw [hd true ?_]
   ·rfl
   ·rw [Hy.2 e4]
    cases (op==op') <;> cases (v.1==v'.1&&(v.2.1==v'.2.1&&(v.2.2==v'.2.2&&true))) <;> cases (s==s') <;> rfl
  subst e1; subst e2; subst e3
  have hv:=hd false (by
   have:((↑l.length:Int) != (↑l'.length:Int))=false:=by rw [← Bool.not_eq_true,Hy]; exact fun h=>h e4
   rw [this]
   simp)
  rw [if_neg (by simp)] at hv
  rcases FX (t:=CT (fun x0 x1=>eO (bf N x0 x1)) (fun x0 x1=>(bf N x0 x1).isSome)) (la:=l) (lb:=l') (fun i=>.h4 (i:Int) (.mk op v s l,()) (.mk op v s l',())) e4 (by
   intro i hi hi'
   obtain ⟨r,hr,hiff⟩:=wL N l[i] l'[i] (ha _ (ce hi))
   have g1:getD l (i:Int).toNat (zj Sh.expr)=l[i]:=gQ _ _ hi
   have g2:getD l' (i:Int).toNat (zj Sh.expr)=l'[i]:=gQ _ _ hi'
   have hval:(CT (fun x0 x1=>eO (bf N x0 x1)) (fun x0 x1=>(bf N x0 x1).isSome) (.h4 (i:Int) (.mk op v s l,()) (.mk op v s l',()))).val=if (!r)=true then some (.inr EN) else some (.inl (.h4 ((i+1:Nat):Int) (.mk op v s l,()) (.mk op v s l',()))):=by
    simp only [CT,Hc,CU,Tr.val,ze.l,zn,g1,g2,zG hi,zG hi',hr,eh,if_true]
    rw [zH i (by unfold zE; omega)]
    show (if decide ((i:Int) < (l.length:Int))=true then _ else _)=_
    rw [if_pos (ba (by omega))]
    rfl
   rw [hval]
   refine ⟨fun h=>?_,fun h=>?_⟩
   ·rw [if_neg (by rw [hiff.2 h]; simp)]
   ·rw [if_pos]
    cases r
    ·rfl
    ·exact absurd (hiff.1 rfl) h) with ⟨h1,h2⟩ | ⟨h1,h2⟩
  ·subst h1
   refine ⟨true,bN hv (h2.ends (bS.of (r:=(.kb true,[])) ?_)) (by omega) rfl,by simp⟩
   simp only [CT,Hc,CU,Tr.val,ze.l]
   exact if_neg (by simp)
  ·exact ⟨false,bN hv h2 (by omega) rfl,by simp [h1]⟩
theorem Kd {a b:ze} (h:lM 16 a=true):fU a b=true∧(fT a b=true↔a=b):=by
 obtain ⟨r,h1,h2⟩:=wL 16 a b h
 have h1:Ch a b=some (r,()):=h1
 refine ⟨by unfold fU; rw [h1]; rfl,?_⟩
 have:fT a b=r:=by unfold fT; rw [h1]; rfl
 rw [this]; exact h2

section
variable {σ:Type} {t:σ→Tr (σ ⊕ zV)}
def KK (t:σ→Tr (σ ⊕ zV)) (K:Nat) (nx:σ ⊕ zV) (r:zV):Prop:=match nx with
 | .inl h=>bS t K h r
 | .inr r'=>r'=r
theorem BM {α:Type} {la lb:List α} (st:Int→σ) (nx:σ ⊕ zV) (e:Nat→Bool) (hval:∀ i:Nat,i≤la.length→(t (st i)).val=if decide (LT.lt (α:=Int) (i:Int) (la.length:Int))=true then (if zF (i:Int) la.length=true then (if zF (i:Int) lb.length=true then (if (!e i)=true then some (.inr EN) else some (.inl (st (IntKind.i64.wrap ((i:Int)+1))))) else none) else none) else some nx)
  (he:∀ i (_:i < la.length) (ha:i < la.length) (hb:i < lb.length),e i=true↔la[i]=lb[i]) (hlen:la.length=lb.length) (hm:la.length≤1000000):
  (la=lb∧∀ K r,KK t K nx r→bS t (K+la.length+1) (st 0) r)∨(la≠lb∧bS t la.length (st 0) EN):=by
 rcases FX (t:=t) (la:=la) (lb:=lb) (fun i=>st (i:Int)) hlen (fun i ha hb=>by
  have hv:=hval i (by omega)
  rw [if_pos (ba (by omega)),if_pos (zG ha),if_pos (zG hb),zH i (by unfold zE; omega)] at hv
  have:=he i ha ha hb
  refine ⟨fun h=>?_,fun h=>?_⟩
  ·rw [hv,if_neg (by rw [this.2 h]; simp)]
  ·rw [hv,if_pos]
   cases hh:e i
   ·rfl
   ·exact absurd (this.1 hh) h) with ⟨h1,h2⟩ | ⟨h1,h2⟩
 ·refine .inl ⟨h1,fun K r hr=>?_⟩
  have hv:=hval la.length (aU _)
  rw [if_neg (by simp)] at hv
  unfold KK at hr
  cases nx with
  | inl h=>exact (h2.ends ((aQ.of hv).ends hr)).mono (by omega)
  | inr r'=>cases hr; exact (h2.ends (bS.of hv)).mono (by omega)
 ·exact .inr ⟨h1,h2⟩
end

theorem WO (a b:Sem zi):(a.1==b.1&&(a.2.1==b.2.1&&(a.2.2==b.2.2&&true)))=true↔a=b:=by
 simp [Prod.ext_iff]
theorem WU (a b:Sem zq):(a.1==b.1&&(a.2==b.2&&true))=true↔a=b:=by
 simp [Prod.ext_iff]
theorem OS (a b:Sem zf):(a.1==b.1&&(a.2.1==b.2.1&&(a.2.2==b.2.2&&true)))=true↔a=b:=by
 simp [Prod.ext_iff]

theorem GL {a b:Sem zw} (hc:a.2.1.length≤1000000) (hu:a.2.2.2.1.length≤1000000) (hr:a.2.2.2.2.1.length≤1000000) (he:lM 16 a.2.2.2.2.2=true):∃ r,p7 a b=some (r,())∧(r=true↔a=b):=by
 obtain ⟨a1,a2,a3,a4,a5,a6⟩:=a
 obtain ⟨b1,b2,b3,b4,b5,b6⟩:=b
 have hc:a2.length≤1000000:=hc
 have hu:a4.length≤1000000:=hu
 have hr:a5.length≤1000000:=hr
 obtain ⟨s1,s2⟩:=Kd (b:=b6) he
 have hv:∀ c:Bool,(bif !a1==b1 then true else bif a3 != b3 then true else bif (↑(length a2):Int) != (↑(length b2):Int) then true else bif (↑(length a4):Int) != (↑(length b4):Int) then true else (↑(length a5):Int) != (↑(length b5):Int))=c→
   (Xp (a1,a2,a3,a4,a5,a6) (b1,b2,b3,b4,b5,b6)).val=if c=true then some (.inr EN) else some (.inl (.h4 0 ((a1,a2,a3,a4,a5,a6),()) ((b1,b2,b3,b4,b5,b6),()))):=by
  rintro c rfl
  rfl
 have no:∀ (h:¬ ((a1,a2,a3,a4,a5,a6):Sem zw)=(b1,b2,b3,b4,b5,b6)) {k s},(Xp (a1,a2,a3,a4,a5,a6) (b1,b2,b3,b4,b5,b6)).val=some (.inl s)→bS Hb k s EN→k≤100000000→∃ r,p7 (a1,a2,a3,a4,a5,a6) (b1,b2,b3,b4,b5,b6)=some (r,())∧(r=true↔((a1,a2,a3,a4,a5,a6):Sem zw)=(b1,b2,b3,b4,b5,b6)):=by
  intro h k s h1 h2 h3
  exact ⟨false,bN h1 h2 h3 rfl,by simpa using h⟩
 cases hcase:(bif !a1==b1 then true else bif a3 != b3 then true else bif (↑(length a2):Int) != (↑(length b2):Int) then true else bif (↑(length a4):Int) != (↑(length b4):Int) then true else (↑(length a5):Int) != (↑(length b5):Int))
 rotate_left
 ·refine ⟨false,gT (r:=EN) (by rw [hv true hcase]; rfl) rfl,?_⟩
  constructor
  ·intro h; cases h
  ·intro h
   simp only [bv] at h
   obtain ⟨rfl,rfl,rfl,rfl,rfl,rfl⟩:=h
   simp at hcase
 have hi:=hv false hcase
 rw [if_neg (by simp)] at hi
 have e1:a1=b1:=by
  cases h:(a1==b1)
  ·rw [h] at hcase; cases hcase
  ·simpa using h
 have e3:a3=b3:=by
  cases h:(a3 != b3)
  ·simpa using h
  ·rw [h] at hcase; revert hcase; cases (!a1==b1) <;> simp
 have l2:a2.length=b2.length:=by
  cases h:((↑(length a2):Int) != (↑(length b2):Int))
  ·simp [bne] at h; omega
  ·rw [h] at hcase; revert hcase; cases (!a1==b1) <;> cases (a3 != b3) <;> simp
 have l4:a4.length=b4.length:=by
  cases h:((↑(length a4):Int) != (↑(length b4):Int))
  ·simp [bne] at h; omega
  ·rw [h] at hcase; revert hcase; cases (!a1==b1) <;> cases (a3 != b3) <;> cases ((↑(length a2):Int) != (↑(length b2):Int)) <;> simp
 have l5:a5.length=b5.length:=by
  cases h:((↑(length a5):Int) != (↑(length b5):Int))
  ·simp [bne] at h; omega
  ·rw [h] at hcase; revert hcase; cases (!a1==b1) <;> cases (a3 != b3) <;> cases ((↑(length a2):Int) != (↑(length b2):Int)) <;> cases ((↑(length a4):Int) != (↑(length b4):Int)) <;> simp
 rcases BM (t:=Hb) (la:=a2) (lb:=b2) (fun i=>.h4 i ((a1,a2,a3,a4,a5,a6),()) ((b1,b2,b3,b4,b5,b6),())) (.inl (.h9 0 ((a1,a2,a3,a4,a5,a6),()) ((b1,b2,b3,b4,b5,b6),()))) (fun i=>((getD a2 (i:Int).toNat (zj zi)).1==(getD b2 (i:Int).toNat (zj zi)).1&&((getD a2 (i:Int).toNat (zj zi)).2.1==(getD b2 (i:Int).toNat (zj zi)).2.1&&((getD a2 (i:Int).toNat (zj zi)).2.2==(getD b2 (i:Int).toNat (zj zi)).2.2&&true)))) (fun _ _=>rfl) (fun i _ ha hb=>by rw [WO,gQ _ _ ha,gQ _ _ hb]) l2 hc with ⟨q2,k2⟩ | ⟨q2,k2⟩
 rotate_left
 ·exact no (fun h=>q2 (by simp only [bv] at h; exact h.2.1)) hi k2 (by omega)
 rcases BM (t:=Hb) (la:=a4) (lb:=b4) (fun i=>.h9 i ((a1,a2,a3,a4,a5,a6),()) ((b1,b2,b3,b4,b5,b6),())) (.inl (.h14 0 ((a1,a2,a3,a4,a5,a6),()) ((b1,b2,b3,b4,b5,b6),()))) (fun i=>getD a4 (i:Int).toNat (zj zg)==getD b4 (i:Int).toNat (zj zg)) (fun _ _=>rfl) (fun i _ ha hb=>by rw [ej,gQ _ _ ha,gQ _ _ hb]) l4 hu with ⟨q4,k4⟩ | ⟨q4,k4⟩
 rotate_left
 ·exact no (fun h=>q4 (by simp only [bv] at h; exact h.2.2.2.1)) hi (k2 _ _ k4) (by omega)
 rcases BM (t:=Hb) (la:=a5) (lb:=b5) (fun i=>.h14 i ((a1,a2,a3,a4,a5,a6),()) ((b1,b2,b3,b4,b5,b6),())) (.inr (.bool (fT a6 b6),[])) (fun i=>((getD a5 (i:Int).toNat (zj zq)).1==(getD b5 (i:Int).toNat (zj zq)).1&&((getD a5 (i:Int).toNat (zj zq)).2==(getD b5 (i:Int).toNat (zj zq)).2&&true))) (fun i _=>by
   show (Hb (.h14 _ _ _)).val=_
   simp only [Hb,Tr.val,zn]
   rw [show (if fU a6 b6=true then some (Sum.inr (AV.bool (fT a6 b6),([]:List AO))) else none)=(some (Sum.inr (AV.bool (fT a6 b6),[])):Option (ue ⊕ zV)) from if_pos s1]) (fun i _ ha hb=>by rw [WU,gQ _ _ ha,gQ _ _ hb]) l5 hr with ⟨q5,k5⟩ | ⟨q5,k5⟩
 rotate_left
 ·exact no (fun h=>q5 (by simp only [bv] at h; exact h.2.2.2.2.1)) hi (k2 _ _ (k4 _ _ k5)) (by omega)
 refine ⟨fT a6 b6,bN hi (k2 _ _ (k4 _ _ (k5 0 _ rfl))) (by omega) rfl,?_⟩
 rw [s2]
 subst e1; subst e3; subst q2; subst q4; subst q5
 simp
theorem Kg {a b:Sem zw} (hc:a.2.1.length≤1000000) (hu:a.2.2.2.1.length≤1000000) (hr:a.2.2.2.2.1.length≤1000000) (he:lM 16 a.2.2.2.2.2=true):tx a b=true∧(kY a b=true↔a=b):=by
 obtain ⟨r,h1,h2⟩:=GL (b:=b) hc hu hr he
 refine ⟨by unfold tx; rw [h1]; rfl,?_⟩
 have:kY a b=r:=by unfold kY; rw [h1]; rfl
 rw [this]; exact h2


theorem rN {α σ:Type} {t:σ→Tr (σ ⊕ zV)} {i:Tr (σ ⊕ zV)} {la lb:List α} (st:Int→σ) (hi:i.val=if ((la.length:Int) != (lb.length:Int))=true then some (.inr EN) else some (.inl (st 0))) (hm:la.length≤1000000)
  (hs:∀ j (ha:j < la.length) (hb:j < lb.length),(la[j]=lb[j]→(t (st (j:Int))).val=some (.inl (st ((j+1:Nat):Int))))∧(la[j]≠lb[j]→(t (st (j:Int))).val=some (.inr EN)))
  (he:(t (st (la.length:Int))).val=some (.inr (.kb true,[]))):∃ r,zT [Sh.bool] t 100000000 i=some (r,())∧(r=true↔la=lb):=by
 by_cases hl:la.length=lb.length
 case neg=>
  have h1:((la.length:Int) != (lb.length:Int))=true:=by simp; omega
  rw [if_pos h1] at hi
  refine ⟨false,gT hi rfl,fun h=>(by cases h),fun h=>absurd (congrArg length h) hl⟩
 have h1:((la.length:Int) != (lb.length:Int))=false:=by rw [hl]; simp
 rw [if_neg (by rw [h1]; simp)] at hi
 rcases FX (t:=t) (la:=la) (lb:=lb) (fun i=>st (i:Int)) hl hs with ⟨q1,q2⟩ | ⟨q1,q2⟩
 ·exact ⟨true,bN hi (q2.ends (bS.of he)) (by omega) rfl,fun _=>q1,fun _=>rfl⟩
 ·exact ⟨false,bN hi q2 (by omega) rfl,fun h=>(by cases h),fun h=>absurd h q1⟩

theorem Hh (a b:List (Sem zf)) (hm:a.length≤1000000):∃ r,tS a b=some (r,())∧(r=true↔a=b):=by
 refine rN (la:=a) (lb:=b) (fun i=>tX.h4 a b i) rfl hm (fun j ha hb=>?_) ?_
 ·have hv:(Ja (.h4 a b (j:Int))).val=if (!(a[j].1==b[j].1&&(a[j].2.1==b[j].2.1&&(a[j].2.2==b[j].2.2&&true))))=true then some (.inr EN) else some (.inl (.h4 a b ((j+1:Nat):Int))):=by
   simp only [Ja,Tr.val,zX ha,zG ha,zG hb,ac a _ ha,ac b _ hb,if_true,zH j (by unfold zE; omega)]
  refine ⟨fun h=>?_,fun h=>?_⟩
  ·rw [hv,(OS _ _).2 h]; rfl
  ·rw [hv,Bool.eq_false_iff.2 fun h'=>h ((OS _ _).1 h')]; rfl
 ·simp only [Ja,Tr.val,ag,zN,if_false]
theorem Kz {a b:List (Sem zf)} (hm:a.length≤1000000):CX a b=true∧(xI a b=true↔a=b):=by
 obtain ⟨r,h1,h2⟩:=Hh a b hm
 refine ⟨by unfold CX; rw [h1]; rfl,?_⟩
 have:xI a b=r:=by unfold xI; rw [h1]; rfl
 rw [this]; exact h2

theorem GM (a b:List (List (Sem zf))) (hm:a.length≤1000000) (hr:∀ r∈a,length r≤1000000):∃ r,tA a b=some (r,())∧(r=true↔a=b):=by
 refine rN (la:=a) (lb:=b) (fun i=>Fs.h4 a b i) rfl hm (fun j ha hb=>?_) ?_
 ·obtain ⟨s1,s2⟩:=Kz (a:=a[j]) (b:=b[j]) (hr _ (ce ha))
  have hv:(RD (.h4 a b (j:Int))).val=if (!xI a[j] b[j])=true then some (.inr EN) else some (.inl (.h4 a b ((j+1:Nat):Int))):=by
   simp only [RD,Tr.val,zX ha,zG ha,zG hb,ac a _ ha,ac b _ hb,s1,if_true,zH j (by unfold zE; omega)]
  refine ⟨fun h=>?_,fun h=>?_⟩
  ·rw [hv,s2.2 h]; rfl
  ·rw [hv,Bool.eq_false_iff.2 fun h'=>h (s2.1 h')]; rfl
 ·simp only [RD,Tr.val,ag,zN,if_false]
theorem Kj {a b:List (List (Sem zf))} (hm:a.length≤1000000) (hr:∀ r∈a,length r≤1000000):tz a b=true∧(rD a b=true↔a=b):=by
 obtain ⟨r,h1,h2⟩:=GM a b hm hr
 refine ⟨by unfold tz; rw [h1]; rfl,?_⟩
 have:rD a b=r:=by unfold rD; rw [h1]; rfl
 rw [this]; exact h2

structure om (x:Sem zh):Prop where
 cols:x.1.2.1.length≤1000000
 uq:x.1.2.2.2.1.length≤1000000
 rf:x.1.2.2.2.2.1.length≤1000000
 chk:lM 16 x.1.2.2.2.2.2=true
 rw:x.2.length≤1000000
 row:∀ r∈x.2,length r≤1000000

theorem GN {a b:Sem zh} (h:om a):∃ r,tB a b=some (r,())∧(r=true↔a=b):=by
 obtain ⟨s1,s2⟩:=Kg (a:=a.1) (b:=b.1) h.cols h.uq h.rf h.chk
 obtain ⟨s3,s4⟩:=Kj (a:=a.2) (b:=b.2) h.rw h.row
 refine ⟨bif kY a.1 b.1 then rD a.2 b.2 else false,?_,?_⟩
 ·have hg:(tx a.1 b.1&&bif kY a.1 b.1 then tz a.2 b.2 else true)=true:=by
   rw [s1,s3]
   cases kY a.1 b.1 <;> rfl
  refine gT (r:=(.bool (bif kY a.1 b.1 then rD a.2 b.2 else false),[])) ?_ rfl
  simp only [zdP,Tr.val,zn,Prod.eta,hg,if_true]
 ·cases hq:kY a.1 b.1 with
  | true=>
   simp only [bA]
   rw [s4]
   exact ⟨fun e=>Prod.ext (s2.1 hq) e,fun e=>by rw [e]⟩
  | false=>
   simp only [bQ,zN,false_iff]
   intro e
   rw [s2.2 (by rw [e])] at hq
   cases hq
theorem Kk {a b:Sem zh} (h:om a):Cl a b=true∧(wR a b=true↔a=b):=by
 obtain ⟨r,h1,h2⟩:=GN (b:=b) h
 refine ⟨by unfold Cl; rw [h1]; rfl,?_⟩
 have:wR a b=r:=by unfold wR; rw [h1]; rfl
 rw [this]; exact h2

theorem GQ {a b:List (Sem zh)} (hm:a.length≤1000000) (h:∀ x∈a,om x):∃ r,tC a b=some (r,())∧(r=true↔a=b):=by
 refine rN (la:=a) (lb:=b) (fun i=>Fp.h4 a b i) rfl hm (fun j ha hb=>?_) ?_
 ·obtain ⟨s1,s2⟩:=Kk (a:=a[j]) (b:=b[j]) (h _ (ce ha))
  have hv:(Rz (.h4 a b (j:Int))).val=if (!wR a[j] b[j])=true then some (.inr EN) else some (.inl (.h4 a b ((j+1:Nat):Int))):=by
   simp only [Rz,Tr.val,zn,Prod.eta,zX ha,zG ha,zG hb,ac a _ ha,ac b _ hb,s1,if_true,zH j (by unfold zE; omega)]
  refine ⟨fun h=>?_,fun h=>?_⟩
  ·rw [hv,s2.2 h]; rfl
  ·rw [hv,Bool.eq_false_iff.2 fun h'=>h (s2.1 h')]; rfl
 ·simp only [Rz,Tr.val,ag,zN,if_false]
theorem AJ {a b:List (Sem zh)} (hm:a.length≤1000000) (h:∀ x∈a,om x):p8 a b=true∧(oR a b=true↔a=b):=by
 obtain ⟨r,h1,h2⟩:=GQ (b:=b) hm h
 refine ⟨by unfold p8; rw [h1]; rfl,?_⟩
 have:oR a b=r:=by unfold oR; rw [h1]; rfl
 rw [this]; exact h2
noncomputable section
inductive H5w where
 | h9 (l1:List (Sem zf.sl)) (i2:Sem (Sh.int IntKind.u8)) (s7:Sem Sh.str) (l8:List (Sem zh)) (l9:List (Sem zh)) (i10:Int)
end

theorem g8.q {x:Sem zh} (h:g8 x) (hr:cd x):om x:=by
 obtain ⟨_,_,_,h8,_⟩:=gA hr.may
 exact ⟨cM h8 (by omega),cM h.sh.uq (by omega),cM h.sh.rf (by omega),h.cp,cM h.sh.rw (by omega),fun r hr'=>cM (hr.len r hr') (by omega)⟩
theorem Rw {a b:List (Sem zh)} (hB:cC a) (hs:∀ y∈a,g8 y) (h:a=b):p8 a b=true∧oR a b=true:=by
 obtain ⟨h1,h2⟩:=AJ (b:=b) (cM hB.few (by omega)) (fun y hy=>(hs y hy).q (hB.rels y hy))
 exact ⟨h1,h2.2 h⟩

theorem RI (x:Int) (n:Nat) (h0:0≤x) (h1:x≤100000) (hn:0 < n) (hn2:n≤100000):IntKind.i64.wrap (x.tmod (n:Int))=((x.toNat % n:Nat):Int):=by
 obtain ⟨y,rfl⟩:=Int.eq_ofNat_of_zero_le h0
 have e:(Int.ofNat y).tmod (n:Int)=((y % n:Nat):Int):=rfl
 have hl:y % n < n:=Nat.mod_lt _ hn
 show IntKind.i64.wrap ((Int.ofNat y).tmod (n:Int))=_
 rw [e,wI _ (by omega) (by omega)]
 rfl

abbrev QZ (n:zl) (r:List (Sem zf)):Sem zp:=(Q0,n,[],[],[],[],[],[],ze.mk [] (0,0,[]) [] [],r,[],ze.mk [] (0,0,[]) [] [],[])
theorem Mt (n:zl) (r:List (Sem zf)):∃ s:Sem zp,B4 (QZ n r)=true∧H0 (QZ n r)=s∧c9 s∧s.1=Q0∧s.2.1=bl n∧eQ s=jB r:=by
 obtain ⟨s,s1,s2,s3⟩:=Gr (QZ n r)
 refine ⟨s,by unfold B4; rw [s1]; rfl,by unfold H0; rw [s1]; rfl,s2.sh,congrArg (·.1) s3.fr,congrArg (·.2.1) s3.fr,s3.row⟩


theorem Av {α:Type} {p:α→Bool} {d:α}:∀ (l:List α) (k i:Nat),i < l.length→p (l.getD i d)=true→(∀ j,j < i→p (l.getD j d)=false)→zR p l k=((k+i:Nat):Int)
 | [],_,_,h,_,_=>by simp at h
 | x::r,k,0,_,hp,_=>by
  rw [zR,if_pos (by simpa using hp)]; rfl
 | x::r,k,i+1,h,hp,hj=>by
  have h0:=hj 0 (by omega)
  rw [zR,if_neg (by rw [show p x=false by simpa using h0]; simp),Av r (k+1) i (by simpa using h) (by simpa using hp) (fun j hj2=>by simpa using hj (j+1) (by omega))]
  congr 1; omega
theorem c9.toDel {s:Sem zp} (h:c9 s):c9 ((sU,s.2):Sem zp):=⟨by simp,h.table,h.other,h.names,h.cols,h.key,h.uniques,h.refs,h.row,h.sets,h.role⟩
theorem Nh {db:List (Sem zh)} (h:cC db):db.Pairwise fun x y:Sem zh=>Op.bytesLess x.1.1 y.1.1=true:=(tH (R:=fun x y:Sem zh=>Op.bytesLess x.1.1 y.1.1=true) hJ).1 h.names
theorem Q5 {db:List (Sem zh)} {k:Nat} (h:cC db) (hk:k < db.length):aj db (db.getD k (zj zh)).1.1=(k:Int):=by
 have:=Av (p:=fun x:Sem zh=>x.1.1==(db.getD k (zj zh)).1.1) (d:=zj zh) db 0 k hk (by simp) (fun j hj=>by
  have hp:Op.bytesLess (db.getD j (zj zh)).1.1 (db.getD k (zj zh)).1.1=true:=by
   have hpw:=List.pairwise_iff_getElem.1 (Nh h) j k (by omega) hk hj
   rw [aD,aD,zI hk,zI (by omega:j < db.length)]
   exact hpw
  refine nO.2 fun e=>?_
  rw [e,eH] at hp
  cases hp)
 rw [ii] at this
 exact this

theorem B5 {s:zl} (h:s.length≤20):bl s=s:=by
 unfold bl
 rw [if_neg (by simp; omega)]

theorem oN {n:zl} (h:cO n=true):dA n=true:=by
 unfold cO at h
 cases e:dA n
 ·rw [e] at h; cases h
 ·rfl

theorem Q4 {t:Sem zw} {l s:List (List (Sem zf))} {r:List (Sem zf)} (hs:cd (t,s)) (hp:s.Perm (l++[r])):s.filter (fun x=>zZ t.2.2.1 x==zZ t.2.2.1 r)=[r]:=by
 have hnd:∀ x∈l,zZ t.2.2.1 x≠zZ t.2.2.1 r:=by
  intro x hx e
  have h1:(s.map (zZ t.2.2.1)).Pairwise (· ≠ ·):=B3 hs.pw
  have h2:((l++[r]).map (zZ t.2.2.1)).Pairwise (· ≠ ·):=(List.Perm.pairwise_iff (fun {a b} hab=>Ne.symm hab) (hp.map _)).1 h1
  rw [uo,List.pairwise_append] at h2
  exact h2.2.2 _ (ff.2 ⟨x,hx,rfl⟩) _ (by simp) e
 have h1:=hp.filter (fun x=>zZ t.2.2.1 x==zZ t.2.2.1 r)
 rw [List.filter_append] at h1
 have e1:l.filter (fun x=>zZ t.2.2.1 x==zZ t.2.2.1 r)=[]:=by
  rw [List.filter_eq_nil_iff]
  intro x hx
  rw [nO.2 (hnd x hx)]
  simp
 have e2:[r].filter (fun x=>zZ t.2.2.1 x==zZ t.2.2.1 r)=[r]:=by
  rw [List.filter_eq_self]
  intro x hx
  rw [bd] at hx
  subst hx
  exact beq_self_eq_true _
 rw [e1,e2,List.nil_append] at h1
 exact List.perm_singleton.1 h1

theorem MJ (k w:V):fm (mn [] [k]) w=(w==k):=by
 show (([(k,(0:Int))]:List (V×Int)).any fun p=>w==p.1)=_
 simp

theorem Js {db:List (Sem zh)} {s:Sem zp} {a b:Sem c5} (hB:cC db) (hs:∀ y∈db,g8 y) (hl:length (eQ s)≤1000) (ha:a.2.2=[eQ s]) (hb0:b.1=(0:Int)) (hb1:b.2.1=(1:Int)):
  bS t4w (length (eQ s) * 1+1) (.h15 db db ((0:Nat):Int) (s,()) (a,()) (b,())) (.bool true,[]):=by
 obtain ⟨q1,q2⟩:=Rw hB hs rfl
 have e1:getD a.2.2 (Int.toNat 0) (zj zf.sl)=eQ s:=by rw [ha]; rfl
 have e2:zF 0 (length a.2.2)=true:=by rw [ha]; rfl
 have hg:=aQ.all (t:=t4w) 1 (fun i=>.h15 db db (i:Int) (s,()) (a,()) (b,())) (length (eQ s)) (by
  intro i hi
  refine aQ.of ?_
  have hc:(!((getD (eQ s) i (zj zf)).1==(getD (eQ s) i (zj zf)).1&&((getD (eQ s) i (zj zf)).2.1==(getD (eQ s) i (zj zf)).2.1&&((getD (eQ s) i (zj zf)).2.2==(getD (eQ s) i (zj zf)).2.2&&true))))=false:=by simp
  simp only [t4w,Tr.val,e1,e2,zX hi,zG hi,be,hc,zN,if_true,if_false]
  rw [zH i (by unfold zE; omega)])
 refine (hg.ends (bS.of (r:=(.bool true,[])) ?_)).mono (by omega)
 have g0:(b.1==(0:Int))=true:=by rw [hb0]; rfl
 have g1:(b.2.1==(1:Int))=true:=by rw [hb1]; rfl
 simp only [t4w,Tr.val,ag,g0,g1,q1,q2,bA,uz,Bk,nQ,zN,if_true,if_false]

theorem B6 (x:Sem zh):om (gR x):=by
 have h:=Eh x
 have hc:=h.tab.cols
 have hu:=h.tab.uq
 have hf:=h.tab.rf
 have hr:=h.rows
 refine ⟨by omega,by omega,by omega,(pM x).cp,by omega,fun r hm=>?_⟩
 obtain ⟨rows,h1,h2⟩:=mq x
 have h3:gR x=(iH x.1,rows):=by unfold gR; rw [h2]; rfl
 rw [h3] at hm
 obtain ⟨r0,_,rfl⟩:=h1.2 r hm
 have:=Ax r0
 omega

theorem M7 (x0:List (Sem zh)) (x1:List (Sem zf)) (x2:Int) (hv:∀ v∈x1,bx .i64 v.2.1) (h0:0≤x2) (h1:x2≤255):wa x0 x1 x2=some (true,()):=by
 obtain ⟨db,d1,d2,d3⟩:=M6 x0
 have hdb:jA x0=db:=by unfold jA; rw [d1]; rfl
 have hdc:Gu x0=true:=by unfold Gu; rw [d1]; rfl
 have hwf:∀ x∈db,WfR x:=by
  intro x hxm
  obtain ⟨y,hy,rfl⟩:=d3 x hxm
  exact Eh y
 have hsh:∀ x∈db,g8 x:=by
  intro x hxm
  obtain ⟨y,hy,rfl⟩:=d3 x hxm
  exact pM y
 have hsq:∀ x∈db,om x:=by
  intro x hxm
  obtain ⟨y,hy,rfl⟩:=d3 x hxm
  exact B6 y
 have k1:wW db=true:=Km hwf
 obtain ⟨e,k2⟩:∃ e:Int,IU db=e:=⟨_,rfl⟩
 have fin:∀ {v:Bool},(i4w x0 x1 x2).val=some (.inr (.bool v,[]))→v=true→wa x0 x1 x2=some (true,()):=by
  intro v h e
  subst e
  exact gT h rfl
 cases hc:(bif e != 0 then true else (db.length:Int)==0) with
 | true=>
  refine fin (v:=uy) ?_ Bk
  simp only [i4w,Tr.val,hdb,hdc,k1,k2,hc,if_true]
 | false=>
  have he:e=0:=by
   cases h:(e != 0) with
   | true=>rw [h] at hc; cases hc
   | false=>simpa using h
  subst he
  simp only [pe,bQ] at hc
  have hne:db≠[]:=by simpa using hc
  have hdl:0 < db.length:=List.length_pos_iff.2 hne
  have ea:IntKind.i64.wrap ((IntKind.i64.wrap x2).tmod (db.length:Int))=((x2.toNat % db.length:Nat):Int):=by
   rw [wI x2 (by omega) (by omega),RI _ _ h0 (by omega) hdl (by omega)]
  have hk:x2.toNat % db.length < db.length:=Nat.mod_lt _ hdl
  have e2:zF ((x2.toNat % db.length:Nat):Int) db.length=true:=zG hk
  have e3:((db.length:Int) != 0)=true:=by simpa using hne
  generalize hkk:x2.toNat % db.length=k at ea hk e2
  obtain ⟨x,hxk⟩:∃ x,db.getD k (zj zh)=x:=⟨_,rfl⟩
  have hxm:x∈db:=by
   rw [← hxk,aD,zI hk]
   exact ce hk
  obtain ⟨s,s1,s2,s3,s4,s5,s6⟩:=Mt x.1.1 x1
  have sO:oK (QZ x.1.1 x1)=some (s,()):=by
   unfold B4 at s1
   obtain ⟨y,hy⟩:=Option.isSome_iff_exists.1 s1
   rw [hy,← s2]
   unfold H0
   rw [hy]
   rfl
  obtain ⟨d,a,g0,g1,g2,g3⟩:=zcG hsh s3 s4
  obtain ⟨g4,g5⟩:=Ll g0
  by_cases ha:a.1=0
  case neg=>
   obtain ⟨rfl,_⟩:=g3 ha
   obtain ⟨q1,q2⟩:=AJ (b:=d) (cM d2 (by omega)) hsq
   have q2:=q2.2 rfl
   have ha':(a.1 != 0)=true:=by simpa using ha
   refine fin (v:=uy) ?_ Bk
   simp only [i4w,Tr.val,hdb,hdc,k1,k2,pe,bQ,hc,e3,ea,e2,be,hxk,zn,Prod.eta,s1,s2,g4,g5,ha',bA,q1,q2,uz,nQ,zN,if_true,if_false]
  obtain ⟨⟨i,sr,i1,i2,i3,i4⟩,hB,_⟩:=g2 ha
  have hr:=hB.rels x hxm
  obtain ⟨kc,kc1,kc2,kc3,kc4,kc5,kc6,kc7⟩:=Eo hr.may
  have hnl:x.1.1.length≤16:=rU (oN kc3)
  have hcl:(x.1.2.1.getD kc (zj zi)).1.length≤16:=rU (oN kc4)
  have hfind:aj db x.1.1=(k:Int):=by
   have:=Q5 hB hk
   rw [hxk] at this
   exact this
  rw [B5 (by omega)] at s5
  rw [s5,hfind] at i1
  have i1:k=i:=Int.ofNat.inj i1
  subst i1
  rw [hxk] at i2 i3
  have hsrm:((x.1,sr):Sem zh)∈d:=by rw [i3]; exact List.mem_set hk _
  have hro:cd ((x.1,sr):Sem zh):=i4.rels _ hsrm
  have hrow:eQ s∈sr:=i2.symm.subset (by simp)
  have hfit:=hro.fits _ hrow
  obtain ⟨f1,f2,f3,f4⟩:=Ar (t:=x.1) hfit kc2 kc7
  generalize hvv:(eQ s).getD kc (zj zf)=v at f2 f3 f4
  generalize hcc:(x.1.2.1.getD kc (zj zi)).1=c at kc4 kc5 hcl
  have hvi:bx .i64 v.2.1:=by
   have hm:v∈eQ s:=by
    rw [← hvv,aD,zI f1]
    exact ce f1
   rw [s6] at hm
   exact oM (Q:=fun v=>bx .i64 v.2.1) x1 0 [] (fun v hv'=>by unfold sY; split <;> exact hv v hv') (by simp) v hm
  have hee:gg (iy c v)=true:=by
   rw [XU,f2,Bool.and_true]
   unfold cO at kc4
   cases hw:dA c <;> cases hr2:oU c <;> rw [hw,hr2] at kc4 <;> first | rfl | cases kc4
  have hS:c9 ((jQ,pL x.1.1 c v):Sem zp):=⟨by simp,by show x.1.1.length≤1000; omega,by simp,⟨by simp,by simp⟩,⟨by simp,by simp⟩,by simp,⟨by simp,by simp⟩,⟨by simp,by simp⟩,by simp,⟨by simp,by simp⟩,by simp⟩
  have hms:=Q3 (t:=x.1.1) kc3 hee (oN kc4) f2 hvi hS
  have hmd:fj ((sU,pL x.1.1 c v):Sem zp)=true:=XV _ hS hS.toDel hms
  have hdsh:∀ y∈d,c8 y:=fun y hy=>(g1 y hy).sh
  have hdf:aj d x.1.1=(k:Int):=by rw [i3,yH (by rw [hxk]),hfind]
  have hdk:d.getD k (zj zh)=(x.1,sr):=by
   rw [i3,aD,nN hk]
   rfl
  have hcond:cy (iy c v) x.1.2.1=0:=OQ hee kc5 f4
  have hrv:zZ x.1.2.2.1 (eQ s)=v:=by
   show getD (eQ s) (Int.toNat x.1.2.2.1) (zj zf)=v
   rw [kc1,be,hvv]
  have hpred:∀ r∈sr,jt (iy c v) x.1.2.1 r=(zZ x.1.2.2.1 r==zZ x.1.2.2.1 (eQ s)):=by
   intro r hr'
   obtain ⟨m1,_⟩:=Ar (t:=x.1) (hro.fits r hr') kc2 kc7
   rw [Ld hee kc5 m1 f2 f3,hrv]
   show _=(getD r (Int.toNat x.1.2.2.1) (zj zf)==v)
   rw [kc1,be]
  have hmet:ia ((x.1,sr):Sem zh) (iy c v)=[eQ s]:=by
   unfold ia
   rw [List.filter_congr hpred]
   exact Q4 hro i2
  have hbase:cd ((x.1,x.2):Sem zh):=hr
  have htk:dv ((x.1,sr):Sem zh) (pS ((sU,pL x.1.1 c v):Sem zp) (x.1,sr))=x:=by
   have:sr.filter (pS ((sU,pL x.1.1 c v):Sem zp) (x.1,sr))=[eQ s]:=hmet
   unfold dv
   show (x.1,sr.filter fun r => !fm (mn [] ((sr.filter (pS ((sU,pL x.1.1 c v):Sem zp) (x.1,sr))).map (zZ x.1.2.2.1))) (zZ x.1.2.2.1 r))=x
   rw [this]
   show (x.1,sr.filter fun r => !fm (mn [] [zZ x.1.2.2.1 (eQ s)]) (zZ x.1.2.2.1 r))=x
   have hf:(fun r => !fm (mn [] [zZ x.1.2.2.1 (eQ s)]) (zZ x.1.2.2.1 r))=fun r => !(zZ x.1.2.2.1 r==zZ x.1.2.2.1 (eQ s)):=funext fun r=>congrArg (!·) (MJ _ _)
   rw [hf,NT hbase hro i2]
  have hsl:=FD (s:=((jQ,pL x.1.1 c v):Sem zp)) hdf hdk (cM hro.few (by omega)) (fun r h=>cM (hro.len r h) (by omega))
  have hd1:=Qm hS hdsh hms i4 rfl hsl
  obtain ⟨b,b1,b2⟩:=FG (s:=((sU,pL x.1.1 c v):Sem zp)) i4 hdsh hdf hdk
  have hback:d.set k x=db:=by
   rw [i3,List.set_set,← hxk,E6]
  rw [htk,hback] at b1 b2
  have hbt:b=true:=b1.2 hB.bound
  subst hbt
  have hd2:=Ql hS.toDel hdsh hmd i4 rfl b2
  have hw1:jX ((jQ,pL x.1.1 c v):Sem zp)=iy c v:=rfl
  have hw2:jX ((sU,pL x.1.1 c v):Sem zp)=iy c v:=rfl
  simp only [hw1,hcond,hmet,if_true] at hd1
  simp only [hw2,hcond,hmet,if_true] at hd2
  obtain ⟨u1,u2⟩:=Ll hd1
  obtain ⟨v1,v2⟩:=Ll hd2
  have hlen:length (eQ s)≤8:=hro.len _ hrow
  have hge:decide (x.1.2.2.1 ≥ (length (eQ s):Int))=false:=by
   rw [kc1]; simp; omega
  have hin1:zF x.1.2.2.1 (length x.1.2.1)=true:=by rw [kc1]; exact zG kc2
  have hin2:zF x.1.2.2.1 (length (eQ s))=true:=by rw [kc1]; exact zG f1
  have hkt:Int.toNat x.1.2.2.1=kc:=by rw [kc1]; rfl
  have ha':(a.1 != 0)=false:=by rw [ha]; rfl
  have z1:(((1:Nat):Int) != 1)=false:=rfl
  have z2:zF 0 1=true:=rfl
  have z3:getD [eQ s] (Int.toNat 0) (zj zf.sl)=eQ s:=rfl
  refine bN (s:=.h15 db db ((0:Nat):Int) (s,()) ((0,(1:Int),[eQ s]),()) ((0,(1:Int),[]),())) (r:=(.bool true,[])) ?_ (Js hB hsh (by omega) rfl rfl rfl) (by omega) rfl
  simp only [i4w,Tr.val,hdb,hdc,k1,k2,pe,bQ,hc,e3,ea,e2,be,hxk,zn,Prod.eta,s1,s2,g4,g5,ha',hge,hin1,hin2,hkt,hvv,hcc,u1,u2,v1,v2,List.length_singleton,sO,hd1,hd2,z1,z2,z3,uz,zN,if_true,if_false]
  rfl
open Go

abbrev U0:Nat→Prop:=fun _=>False
abbrev fW:Nat→Option Value:=fun _=>none

def KH (P:Program) (T:TypeId→Sh→Bool):List Field→Nat→Sh→Bool
 | [],_,_=>false
 | [f],off,s=>f.offset==off&&(T f.type s&&P.cellsOf f.type==s.size)
 | f::fs,off,.pr a b=>f.offset==off&&(T f.type a&&(P.cellsOf f.type==a.size&&KH P T fs (off+a.size) b))
 | _,_,_=>false

def nf (P:Program) (t:TypeId):Bool:=match P.underlying t with
 | some .string=>P.cellsOf t==1
 | _=>false

def HY (P:Program) (t e:TypeId):Bool:=match P.underlying t with
 | some (.slice u)=>u==e&&P.cellsOf t==1
 | _=>false

def Hg (P:Program):Nat→TypeId→Sh→Bool
 | 0,_,_=>false
 | n+1,t,s=>match P.underlying t,s with
  | some .bool,.bool=>true
  | some (.int k),.int k'=>k==k'
  | some .string,.str=>true
  | some (.slice e),.sl s=>P.cellsOf e==s.size&&(decide (0 < s.size)&&Hg P n e s)
  | some (.struct fs),.expr=>match fs.toList with
   | [a,b,c,d]=>P.cellsOf t==6&&(a.offset==0&&(b.offset==1&&(c.offset==4&&(d.offset==5&&(nf P a.type&&(nf P c.type&&(HY P d.type t&&(P.cellsOf b.type==3&&Hg P n b.type (.pr (.int .i64) (.pr (.int .i64) .str))))))))))
   | _=>false
  | some (.struct fs),.pr a b=>P.cellsOf t==(Sh.pr a b).size&&KH P (Hg P n) fs.toList 0 (.pr a b)
  | _,_=>false

section
variable {H:Type} {enc:TypeId×Value→H} {P:Program} {w:World} {sp:Nat→Bool} {held:Bool}

def Wv (w:World) (s:Sh) (cs:List Value):Prop:=∃ x:Sem s,cu w U0 fW (zo s x) cs∧∀ v∈cs,v.oneCell'=true

theorem b7 {α β:Type} {f:α→Option β} {a:α} {l:List α} {r:List β} (h:(a::l).mapM f=some r):∃ y ys,f a=some y∧l.mapM f=some ys∧r=y::ys:=by
 rw [List.mapM_cons] at h
 cases hy:f a with
 | none=>rw [hy] at h; simp at h
 | some y=>
  cases hys:l.mapM f with
  | none=>rw [hy,hys] at h; simp at h
  | some ys=>
   rw [hy,hys] at h
   simp at h
   exact ⟨y,ys,rfl,rfl,h.symm⟩

theorem Ek {α β:Type} {f:α→Option β}:∀ {l:List α} {r:List β},l.mapM f=some r→∀ x∈l,∃ y,f x=some y
 | [],_,_,_,hx=>by simp at hx
 | a::l,r,h,x,hx=>by
  obtain ⟨y,ys,h1,h2,_⟩:=b7 h
  rcases dT.1 hx with rfl | hx
  ·exact ⟨y,h1⟩
  ·exact Ek h2 x hx

theorem wb {α β:Type} {f:α→Option β}:∀ {l:List α} {r:List β},l.mapM f=some r→r.length=l.length∧∀ (i:Nat) a,l[i]?=some a→f a=r[i]?
 | [],r,h=>by simp at h; subst h; simp
 | a::l,r,h=>by
  obtain ⟨y,ys,h1,h2,rfl⟩:=b7 h
  obtain ⟨h3,h4⟩:=wb h2
  refine ⟨by simp [h3],fun i b hi=>?_⟩
  cases i with
  | zero=>simp at hi; subst hi; simpa using h1
  | succ i=>simpa using h4 i b (by simpa using hi)

theorem Dh (a:Addr) (h:a.spot=none) (n:Nat):a.add n=⟨a.block,a.off+n,none⟩:=by
 obtain ⟨b,o,s⟩:=a
 simp only at h
 subst h
 unfold Addr.add
 split
 ·rename_i h; subst h; rfl
 ·rfl

theorem cu.take {cs:List AV} {vs:List Value} (h:cu w U0 fW cs vs) (n:Nat):cu w U0 fW (cs.take n) (vs.take n):=by
 refine ⟨by simp [h.len],fun j c v hc hv=>?_⟩
 rw [yA] at hc hv
 split at hc
 ·rename_i hj
  rw [if_pos hj] at hv
  exact h.rv j c v hc hv
 ·cases hc

theorem cu.appS {a b:List AV} {x y:List Value} (h:cu w U0 fW a x) (h':cu w U0 fW b y):cu w U0 fW (a++b) (x++y):=by
 refine ⟨by simp [h.len,h'.len],fun j c v hc hv=>?_⟩
 by_cases hj:j < a.length
 ·rw [jK hj] at hc
  rw [jK (by rw [← h.len]; exact hj)] at hv
  exact h.rv j c v hc hv
 ·rw [kM (by omega)] at hc
  rw [kM (by rw [← h.len]; omega),← h.len] at hv
  exact h'.rv _ c v hc hv

theorem cu.one {c:AV} {v:Value} (h:Rv w U0 fW c v):cu w U0 fW [c] [v]:=by
 refine ⟨rfl,fun j d u hd hu=>?_⟩
 cases j with
 | zero=>simp at hd hu; subst hd; subst hu; exact h
 | succ j=>simp at hd

theorem vN {fuel:Nat} {T:TypeId→Sh→Bool} (hT:∀ t s cs d ps,T t s=true→DataW.trod enc P w 0 sp held fuel t cs=some (d,ps)→Wv w s cs) {cs:List Value}:
  ∀ (fl:List Field) (off:Nat) (s:Sh) xs,KH P T fl off s=true→(fl.mapM fun f=>DataW.trod enc P w 0 sp held fuel f.type ((cs.drop f.offset).take (P.cellsOf f.type)))=some xs→Wv w s ((cs.drop off).take s.size)
 | [],_,_,_,h,_=>by simp [KH] at h
 | [f],off,s,xs,h,hm=>by
  simp only [KH,aG,ej] at h
  obtain ⟨h1,h2,h3⟩:=h
  obtain ⟨y,ys,hy,_,_⟩:=b7 hm
  rw [h1,h3] at hy
  exact hT _ _ _ _ _ h2 hy
 | f::g::fs,off,.pr a b,xs,h,hm=>by
  simp only [KH,aG,ej] at h
  obtain ⟨h1,h2,h3,h4⟩:=h
  obtain ⟨y,ys,hy,hys,_⟩:=b7 hm
  rw [h1,h3] at hy
  obtain ⟨x1,r1,o1⟩:=hT _ _ _ _ _ h2 hy
  obtain ⟨x2,r2,o2⟩:=vN hT (g::fs) (off+a.size) b ys h4 hys
  have hl1:((cs.drop off).take a.size).length=a.size:=by rw [← r1.len,zL]
  have hsplit:(cs.drop off).take (a.size+b.size)=(cs.drop off).take a.size++(cs.drop (off+a.size)).take b.size:=by
   rw [List.take_add,List.drop_drop]
  refine ⟨(x1,x2),?_,?_⟩
  ·show cu w U0 fW (zo a x1++zo b x2) ((cs.drop off).take (a.size+b.size))
   rw [hsplit]
   exact r1.appS r2
  ·intro v hv
   have hv:v∈(cs.drop off).take (a.size+b.size):=hv
   rw [hsplit,aZ] at hv
   exact hv.elim (o1 v) (o2 v)
 | _::_::_,_,.unit,_,h,_=>by simp [KH] at h
 | _::_::_,_,.bool,_,h,_=>by simp [KH] at h
 | _::_::_,_,.int _,_,h,_=>by simp [KH] at h
 | _::_::_,_,.str,_,h,_=>by simp [KH] at h
 | _::_::_,_,.sl _,_,h,_=>by simp [KH] at h
 | _::_::_,_,.expr,_,h,_=>by simp [KH] at h

theorem AY {fuel:Nat} {t e:TypeId} {s:Sh} (ht:P.underlying t=some (.slice e)) (hc:P.cellsOf e=s.size) (hpos:0 < s.size)
  (hT:∀ cs d ps,DataW.trod enc P w 0 sp held fuel e cs=some (d,ps)→Wv w s cs) {cs:List Value} {d:DataW H} {ps:List MemPlace} (h:DataW.trod enc P w 0 sp held (fuel+1) t cs=some (d,ps)):Wv w (.sl s) cs:=by
 unfold DataW.trod at h
 rw [ht] at h
 split at h
 all_goals first
  | (rename_i hu; cases hu; done)
  | (rename_i hu _; cases hu; done)
  | (simp at h; done)
  | skip
 ·rename_i hu
  cases hu
  exact ⟨[],cu.one (.sl0 s none 0),by simp [Value.oneCell']⟩
 ·rename_i a len cap hu
  cases hu
  simp only [aE,true_and] at h
  split at h
  ·rename_i hcond
   rw [eS] at h
   obtain ⟨elems,he,_⟩:=h
   have hall:∀ i,∃ x:Sem s,i < len→∃ ci,w.cells? 0 (a.add (i * s.size)) s.size=some ci∧cu w U0 fW (zo s x) ci:=by
    intro i
    by_cases hi:i < len
    ·obtain ⟨y,hy⟩:=Ek he i (by simpa using hi)
     rw [eS] at hy
     obtain ⟨ci,h1,h2⟩:=hy
     obtain ⟨x,hx,_⟩:=hT ci y.1 y.2 h2
     rw [hc] at h1
     exact ⟨x,fun _=>⟨ci,h1,hx⟩⟩
    ·exact ⟨zj s,fun h=>(hi h).elim⟩
   obtain ⟨X,hX⟩:=Classical.axiomOfChoice hall
   have hmax:maxLen=zE:=rfl
   cases len with
   | zero=>exact ⟨[],cu.one (.sl0 s (some a) cap),by simp [Value.oneCell']⟩
   | succ len=>
    have hcell:∀ i,i < len+1→∃ ci,ci.length=s.size∧(∀ j,j < s.size→w.cell? ((a.add (i * s.size)).add j)=ci[j]?)∧cu w U0 fW (zo s (X i)) ci:=by
     intro i hi
     obtain ⟨ci,h1,h2⟩:=hX i hi
     unfold World.cells? at h1
     rw [if_pos (aE _)] at h1
     obtain ⟨h3,h4⟩:=wb h1
     refine ⟨ci,by simpa using h3,fun j hj=>?_,h2⟩
     exact h4 j j (by simp [hj])
    have hspot:a.spot=none:=by
     obtain ⟨ci,h1,h2,_⟩:=hcell 0 (by omega)
     have:=h2 0 hpos
     simp only [Nat.zero_mul,Addr.add,if_true] at this
     rw [zI (by omega)] at this
     unfold World.cell? at this
     split at this
     ·split at this
      ·cases this
      ·rename_i hs
       cases hsp:a.spot with
       | none=>rfl
       | some q=>rw [hsp] at hs; simp at hs
     ·cases this
    have hblk:a.block < w.heap.size:=by
     obtain ⟨ci,h1,h2,_⟩:=hcell 0 (by omega)
     have:=h2 0 hpos
     simp only [Nat.zero_mul,Addr.add,if_true] at this
     rw [zI (by omega)] at this
     have ha:a=⟨a.block,a.off,none⟩:=by rw [← hspot]
     rw [ha] at this
     exact Bn this
    have hci:∀ i,∃ ci:List Value,i < len+1→ci.length=s.size∧(∀ j,j < s.size→w.cell? ⟨a.block,a.off+i * s.size+j,none⟩=ci[j]?)∧cu w U0 fW (zo s (X i)) ci:=by
     intro i
     by_cases hi:i < len+1
     ·obtain ⟨ci,h1,h2,h3⟩:=hcell i hi
      refine ⟨ci,fun _=>⟨h1,fun j hj=>?_,h3⟩⟩
      rw [← h2 j hj,Dh a hspot,Dh _ rfl]
     ·exact ⟨[],fun h=>(hi h).elim⟩
    obtain ⟨Cs,hCs⟩:=Classical.axiomOfChoice hci
    let l:List (Sem s):=(List.range (len+1)).map X
    have hl:l.length=len+1:=by simp [l]
    have hget:∀ i (hi:i < l.length),l[i]=X i:=by intro i hi; simp [l]
    refine ⟨l,cu.one ?_,by simp [Value.oneCell']⟩
    have ha:a=⟨a.block,a.off,none⟩:=by rw [← hspot]
    rw [ha,← hl]
    refine .sl s l a.block a.off cap (fun i j=>((Cs i)[j]?).getD undef) (by omega) (by omega) hblk (fun h=>h) ?_ ?_
    ·intro i j hi hj
     obtain ⟨h1,h2,_⟩:=hCs i (by omega)
     rw [h2 j hj,zI (by omega)]
     rfl
    ·intro i hi j c hc'
     obtain ⟨h1,_,h3⟩:=hCs i (by omega)
     rw [hget i hi] at hc'
     have hj:j < (Cs i).length:=by
      have:=(bP.1 hc').1
      rw [h3.len] at this
      exact this
     have:=h3.rv j c _ hc' (zI hj)
     rw [zI hj]
     exact this
  ·cases h

theorem CQ {fuel:Nat} {t:TypeId} (ht:P.underlying t=some .string) {cs:List Value} {d:DataW H} {ps:List MemPlace} (h:DataW.trod enc P w 0 sp held fuel t cs=some (d,ps)):Wv w .str cs:=by
 cases fuel with
 | zero=>simp [DataW.trod] at h
 | succ fuel=>
  unfold DataW.trod at h
  rw [ht] at h
  split at h
  all_goals first
   | (rename_i hu; cases hu; done)
   | (rename_i hu _; cases hu; done)
   | (simp at h; done)
   | skip
  rename_i s hu
  split at h
  ·rename_i hs
   refine ⟨s.data.toList,cu.one ?_,by simp [Value.oneCell']⟩
   have h9:maxLen=zE:=rfl
   have h8:s.size=s.data.toList.length:=rfl
   exact .str s.data.toList (by omega)
  ·cases h

theorem vX {t:TypeId} (h:nf P t=true):P.underlying t=some .string∧P.cellsOf t=1:=by
 unfold nf at h
 split at h
 ·rename_i hu; exact ⟨hu,by simpa using h⟩
 ·cases h

theorem My {t e:TypeId} (h:HY P t e=true):P.underlying t=some (.slice e)∧P.cellsOf t=1:=by
 unfold HY at h
 split at h
 ·rename_i u hu
  simp only [aG,ej] at h
  rw [← h.1]
  exact ⟨hu,h.2⟩
 ·cases h

theorem mL:∀ (fuel n:Nat) (t:TypeId) (s:Sh) (cs:List Value) (d:DataW H) (ps:List MemPlace),Hg P n t s=true→DataW.trod enc P w 0 sp held fuel t cs=some (d,ps)→Wv w s cs
 | 0,_,_,_,_,_,_,_,h=>by simp [DataW.trod] at h
 | fuel+1,0,_,_,_,_,_,hty,_=>by simp [Hg] at hty
 | fuel+1,n+1,t,s,cs,d,ps,hty,h=>by
  have h0:=h
  unfold Hg at hty
  split at hty
  ·rename_i hu
   unfold DataW.trod at h
   rw [hu] at h
   split at h
   all_goals first
    | (rename_i hu'; cases hu'; done)
    | (rename_i hu' _; cases hu'; done)
    | (simp at h; done)
    | skip
   exact ⟨_,cu.one (.bool _),by simp [Value.oneCell']⟩
  ·rename_i k k' hu
   have hk:k=k':=by simpa using hty
   subst hk
   unfold DataW.trod at h
   rw [hu] at h
   split at h
   all_goals first
    | (rename_i hu'; cases hu'; done)
    | (rename_i hu' _; cases hu'; done)
    | (simp at h; done)
    | skip
   rename_i k1 k2 m hu'
   cases hu'
   split at h
   ·rename_i hw
    obtain ⟨rfl,hw⟩:=hw
    simp only [Lit.wf,aG,zW] at hw
    exact ⟨m,cu.one (.int _ _ ⟨hw.1,hw.2⟩),by simp [Value.oneCell']⟩
   ·cases h
  ·rename_i hu
   exact CQ hu h
  ·rename_i e s hu
   simp only [aG,ej,zW] at hty
   exact AY hu hty.1 hty.2.1 (fun cs d ps h=>mL fuel n e s cs d ps hty.2.2 h) h
  ·rename_i fs hu
   split at hty
   ·rename_i a b c d' hfs
    simp only [aG,ej] at hty
    obtain ⟨hsz,ha,hb,hc,hd,sa,sc,sd,zb,tb⟩:=hty
    obtain ⟨sa,za⟩:=vX sa
    obtain ⟨sc,zc⟩:=vX sc
    obtain ⟨sd,zd⟩:=My sd
    unfold DataW.trod at h
    rw [hu] at h
    simp only at h
    split at h
    ·rename_i hlen
     rw [dc] at h
     obtain ⟨xs,hm,_⟩:=h
     rw [hfs] at hm
     obtain ⟨ya,r1,ya1,hm,_⟩:=b7 hm
     obtain ⟨yb,r2,yb1,hm,_⟩:=b7 hm
     obtain ⟨yc,r3,yc1,hm,_⟩:=b7 hm
     obtain ⟨yd,r4,yd1,hm,_⟩:=b7 hm
     rw [ha,za] at ya1
     rw [hb,zb] at yb1
     rw [hc,zc] at yc1
     rw [hd,zd] at yd1
     obtain ⟨xa,ga,oa⟩:=CQ sa ya1
     obtain ⟨xb,gb,ob⟩:=mL fuel n b.type _ _ _ _ tb yb1
     obtain ⟨xc,gc,oc⟩:=CQ sc yc1
     have hgd:Wv w (.sl .expr) ((cs.drop 5).take 1):=by
      cases fuel with
      | zero=>simp [DataW.trod] at yd1
      | succ fuel=>
       refine AY sd (by rw [hsz]; rfl) (by decide) (fun cs d ps h=>mL fuel (n+1) t .expr cs d ps ?_ h) yd1
       unfold Hg
       rw [hu]
       simp only [hfs,aG,ej]
       refine ⟨hsz,ha,hb,hc,hd,?_,?_,?_,zb,tb⟩
       ·simp [nf,sa,za]
       ·simp [nf,sc,zc]
       ·simp [HY,sd,zd]
     obtain ⟨xd,gd,od⟩:=hgd
     have hl6:cs.length=6:=by rw [hlen,hsz]
     have hcs:cs=(cs.drop 0).take 1++((cs.drop 1).take 3++((cs.drop 4).take 1++(cs.drop 5).take 1)):=by
      match cs,hl6 with
      | [v0,v1,v2,v3,v4,v5],_=>rfl
     refine ⟨ze.mk xa xb xc xd,?_,?_⟩
     ·have hr:=ga.appS (gb.appS (gc.appS gd))
      rw [← hcs] at hr
      exact hr
     ·intro v hv
      rw [hcs] at hv
      simp only [aZ] at hv
      rcases hv with hv | hv | hv | hv
      ·exact oa v hv
      ·exact ob v hv
      ·exact oc v hv
      ·exact od v hv
    ·cases h
   ·cases hty
  ·rename_i fs a b hu
   simp only [aG,ej] at hty
   unfold DataW.trod at h
   rw [hu] at h
   simp only at h
   split at h
   ·rename_i hlen
    rw [dc] at h
    obtain ⟨xs,hm,_⟩:=h
    have:=vN (fun t s cs d ps h1 h2=>mL fuel n t s cs d ps h1 h2) fs.toList 0 (.pr a b) xs hty.2 hm
    rw [List.drop_zero,Hq (by rw [hlen,hty.1]; exact aU _)] at this
    exact this
   ·cases h
  ·cases hty
termination_by fuel=>fuel

theorem ta {n:Nat} {t:TypeId} {s:Sh} {v:Value} {d:DataW H} {ps:List MemPlace} (hty:Hg P n t s=true) (h:DataW.Trod enc P w 0 sp held t v d ps) (hagg:(∃ cs,v=.agg cs)↔s.isAgg=true) (hsc:s.isAgg=false→v.cells = #[v]):∃ x:Sem s,Rv w U0 fW (zz s x) v:=by
 obtain ⟨fuel,h⟩:=h
 obtain ⟨x,hr,ho⟩:=mL fuel n t s _ d ps hty h
 refine ⟨x,?_⟩
 unfold zz
 cases hs:s.isAgg with
 | true=>
  obtain ⟨cs,rfl⟩:=hagg.2 hs
  simp only
  have:=Rv.agg (w:=w) (U:=U0) (ρ:=fW) (zo s x) cs.toList hr.len ho hr.rv
  simpa using this
 | false=>
  simp only
  rw [hsc hs] at hr
  have hlen:=hr.len
  match he:zo s x,hlen with
  | [c],_=>
   rw [he] at hr
   exact hr.rv 0 c v rfl rfl
end
open Go Go.RowKit Go.ChangeShapes

theorem B2 {W W':World} (hos:W'.os=W.os) (hout:W'.output=W.output) (h:∀ b,b < W.heap.size→W'.heap[b]?=W.heap[b]?) (may:MemPlace→Prop):W.keptBut W' may:=by
 refine ⟨hos,hout,fun i hi=>?_⟩
 rw [h i hi]
 cases W.heap[i]? with
 | none=>rfl
 | some o=>
  cases o with
  | cells c t fr=>exact ⟨rfl,rfl,rfl,fun _ _=>rfl⟩
  | map es clock=>exact .inr ⟨rfl,rfl⟩
  | _=>rfl

section
variable {H:Type} {enc:TypeId×Value→H} {P:Program}

theorem Et {f:Func} {s:ChangeSpec} {fresh handsOn again:Bool} {W W':World} {args:Array Value} {v:Value} {ds gs:List (DataW H)} {before pa pv:List MemPlace}
  (hW:DataW.Whole enc P f.params.toList s.vars false W args.toList ds gs before)
  (hres:∀ (b:Nat) (sp:Nat→Bool) (hd:Bool),DataW.TrodAll enc P W' b sp hd f.resultTypes.toList (v.resultList f.resultTypes.size) (s.fn H (ds++gs)).results [])
  (hargs:∀ sp:Nat→Bool,(∀ p∈before,sp p.block=true)→DataW.TrodAll enc P W' 0 sp true f.params.toList args.toList (s.fn H (ds++gs)).args pa)
  (hvars:∀ sp:Nat→Bool,(∀ p∈before,sp p.block=true)→DataW.TrodVars enc P W' sp s.vars (s.fn H (ds++gs)).vars pv)
  (hps:before=pa++pv) (hk:W.keptBut W' (· ∈ before)) (hfz:∀ a:Addr,a.block < W.heap.size→W'.frozen? a=W.frozen? a)
  (hok:∀ (j:Nat) (t:TypeId) (r:Value),f.resultTypes[j]?=some t→(v.resultList f.resultTypes.size)[j]?=some r→Value.okWide P W' .any 0 t r):
  s.post enc P f false fresh handsOn again W args v W':=by
 have hold:∀ p∈before,(fun b=>decide (b < W.heap.size)) p.block=true:=fun p hp=>by simpa using hW.lt p hp
 have hlt:=hW.lt
 refine ⟨ds,gs,before,[],pa,pv,hW,hres _ _ _,hargs _ hold,hvars _ hold,World.keptBut_mono (fun p hp=>⟨hp,?_⟩) hk,fun _=>?_⟩
 ·rw [hps,aZ] at hp
  exact Or.inr hp
 ·obtain ⟨_,_,_,_,_,hz,hn⟩:=hW
  refine ⟨hok,_,_,([]++pa)++pv,⟨[]++pa,pv,trodAll_append (hargs _ (fun _ _=>rfl)) (hres _ _ _),hvars _ (fun _ _=>rfl),rfl,?_,?_⟩,?_⟩
  ·intro b off hp
   have hp':MemPlace.cell b off∈before:=by rw [hps]; simpa using hp
   rw [hfz ⟨b,off,none⟩ (hlt _ hp')]
   exact hz b off hp'
  ·intro ha
   cases ha
  ·intro p hp _
   rw [hps]
   simpa using hp

theorem J6 {W:World} {r:Go.Reach} {b:Nat} {t:TypeId} {fs:Array Field} {v:Value} (ht:P.underlying t=some (.struct fs)) (h:Value.okWide P W r b t v):∃ cs,v=.agg cs:=by
 unfold Value.okWide at h
 rw [ht] at h
 obtain ⟨cs,rfl,_⟩:=h
 exact ⟨cs,rfl⟩

theorem Nz {W:World} {r:Go.Reach} {b:Nat} {t e:TypeId} {v:Value} (ht:P.underlying t=some (.slice e)) (h:Value.okWide P W r b t v):∃ a n c,v=.slice a n c:=by
 unfold Value.okWide at h
 rw [ht] at h
 simp only at h
 unfold Cell.okWide at h
 rw [ht] at h
 unfold Cell.ok at h
 rw [ht] at h
 cases v <;> simp at h
 exact ⟨_,_,_,rfl⟩

theorem Yl {W:World} {r:Go.Reach} {b:Nat} {t:TypeId} {k:IntKind} {v:Value} (ht:P.underlying t=some (.int k)) (h:Value.okWide P W r b t v):∃ n,v=.int k n:=by
 unfold Value.okWide at h
 rw [ht] at h
 simp only at h
 unfold Cell.okWide at h
 rw [ht] at h
 unfold Cell.ok at h
 rw [ht] at h
 cases v <;> simp at h
 exact ⟨_,by rw [h.1]⟩

theorem Gd {W:World} {r:Go.Reach} {b n:Nat} {t:TypeId} {fs:Array Field} {s:Sh} {v:Value} {d:DataW H} {ps:List MemPlace} (hty:Hg P n t s=true) (hs:s.isAgg=true) (ht:P.underlying t=some (.struct fs)) (hok:Value.okWide P W r b t v)
  (h:DataW.Trod enc P W 0 (fun _=>true) true t v d ps):∃ x:Sem s,Rv W U0 fW (zz s x) v:=by
 refine ta hty h ⟨fun _=>hs,fun _=>J6 ht hok⟩ (fun h'=>?_)
 rw [hs] at h'; cases h'
theorem JX {W:World} {r:Go.Reach} {b n:Nat} {t e:TypeId} {s:Sh} {v:Value} {d:DataW H} {ps:List MemPlace} (hty:Hg P n t (.sl s)=true) (ht:P.underlying t=some (.slice e)) (hok:Value.okWide P W r b t v)
  (h:DataW.Trod enc P W 0 (fun _=>true) true t v d ps):∃ x:List (Sem s),Rv W U0 fW (.sl s x) v:=by
 obtain ⟨a,m,c,rfl⟩:=Nz ht hok
 exact ta (s:=.sl s) hty h ⟨(fun ⟨_,hh⟩=>(by cases hh)),(fun hh=>(by cases hh))⟩ (fun _=>rfl)
theorem QQ {W:World} {r:Go.Reach} {b n:Nat} {t:TypeId} {k:IntKind} {v:Value} {d:DataW H} {ps:List MemPlace} (hty:Hg P n t (.int k)=true) (ht:P.underlying t=some (.int k)) (hok:Value.okWide P W r b t v)
  (h:DataW.Trod enc P W 0 (fun _=>true) true t v d ps):∃ x:Int,Rv W U0 fW (.int k x) v:=by
 obtain ⟨m,rfl⟩:=Yl ht hok
 exact ta (s:=.int k) hty h ⟨(fun ⟨_,hh⟩=>(by cases hh)),(fun hh=>(by cases hh))⟩ (fun _=>rfl)

theorem Fz {gl:Nat→AV} {k:FuncId} {F:zD} (hF:lL P gl k F) {W:World} {gm:List AV} {args:Array Value} (hgl:xQ gl W U0) (hr:cu W U0 fW gm args.toList) (hv:(F gm (fun _=>.dead) 0).val=some { val:=.bool true }) (hid:AV.idsL gm=[]):
  Calls P k args W fun e W'=>e=.returned (.bool true)∧jI W W'∧∀ b,b < W.heap.size→W'.heap[b]?=W.heap[b]?:=by
 have:=(hF.calls W U0 fW (fun _=>.dead) 0 gm args.toList _ [] hv hr (fun _ h=>h.elim) hgl ⟨by simp,by simp⟩ (by rw [hid]; simp) (by simp) (by simp)).1
 rw [show args.toList.toArray=args by simp] at this
 refine this.mono ?_
 rintro e w' ⟨v,U',ρ',rfl,hef⟩
 have hv':=hef.val
 cases hv'
 exact ⟨rfl,hef.ext,fun b hb=>hef.same b hb (by simp)⟩
end
open Go Go.Proofs Go.RowKit Go.ChangeShapes Go.WideShapes Go.ChangeAt Go.Proofs.YtiefilkilbdpgaaGreatDoor

theorem Ei {P:Program} {w:World}:∀ {l:List (String×DataW Unit)} {ps:List MemPlace},DataW.LaidVars P w l ps→∀ n d,(n,d)∈l→
  ∃ g t cs fuel p,P.globalNamed n=some g∧(P.globals[g]?).map (·.type)=some t∧w.var? P n=some cs∧DataW.trod (fun _=>()) P w 0 (fun _=>true) false fuel t cs.toList=some (d,p)
 | [],_,_,_,_,h=>by simp at h
 | (n0,d0)::r,ps,h,n,d,hm=>by
  obtain ⟨g,t,cs,fuel,p,q,h1,h2,h3,h4,h5,_⟩:=h
  rcases dT.1 hm with e | hm
  ·cases e
   exact ⟨g,t,cs,fuel,p,h1,h2,h3,h4⟩
  ·exact Ei h5 n d hm

theorem B7 {P:Program} {l:List (String×DataW Unit)} {w:World} (hf:(l.filter fun x=>x.2.handleName?.isSome).isEmpty=true) (h:laidMetH P l w):laidMet P l w:=by
 unfold laidMetH at h
 split at h
 ·exact h
 ·rename_i a b hab
  rw [hab] at hf
  simp at hf

theorem mM {H:Type} {enc:TypeId×Value→H} {P:Program} {w:World} {base:Nat} {sp:Nat→Bool} {held:Bool} {fuel:Nat} {t:TypeId} (ht:P.underlying t=some .string) {cs:List Value} {b:List UInt8} {p:List MemPlace}
  (h:DataW.trod enc P w base sp held fuel t cs=some (.lit (.string b),p)):cs=[.string ⟨b.toArray⟩]:=by
 cases fuel with
 | zero=>simp [DataW.trod] at h
 | succ fuel=>
  unfold DataW.trod at h
  rw [ht] at h
  split at h
  all_goals first
   | (rename_i hu; cases hu; done)
   | (rename_i hu _; cases hu; done)
   | (simp at h; done)
   | skip
  rename_i s hu
  split at h
  ·simp only [aq,bv,DataW.lit.injEq,Lit.string.injEq] at h
   rw [← h.1]
  ·cases h

theorem OP {H:Type} {enc:TypeId×Value→H} {P:Program} {w:World} {base:Nat} {sp:Nat→Bool} {held:Bool} {fuel:Nat} {t:TypeId} (ht:P.underlying t=some (.int .u64)) {cs:List Value} {z:Int} {p:List MemPlace}
  (h:DataW.trod enc P w base sp held fuel t cs=some (.lit (.int .u64 z),p)):cs=[.int .u64 z]:=by
 cases fuel with
 | zero=>simp [DataW.trod] at h
 | succ fuel=>
  unfold DataW.trod at h
  rw [ht] at h
  split at h
  all_goals first
   | (rename_i hu; cases hu; done)
   | (rename_i hu _; cases hu; done)
   | (simp at h; done)
   | skip
  all_goals (try split at h)
  all_goals first
   | (cases h; done)
   | (simp at h; done)
   | skip
  all_goals simp_all

theorem yF {W:World} {l:List (String×DataW Unit)} (h:laidMet Tryz.prog l W) {name:String} {g:Nat} {t e:TypeId} {len:Nat} {ds:List (DataW Unit)} (hm:(name,DataW.agg ds)∈l)
  (hg:Tryz.prog.globalNamed name=some g) (ht:(Tryz.prog.globals[g]?).map (·.type)=some t) (hu:Tryz.prog.underlying t=some (.array len e)) (hc:Tryz.prog.cellsOf e=1):
  ∃ cs T fr,W.heap[g]?=some (.cells cs T fr)∧∀ (j:Nat) d,ds[j]?=some d→∃ fuel p,DataW.trod (fun _=>()) Tryz.prog W 0 (fun _=>true) false fuel e ((cs.toList.drop j).take 1)=some (d,p):=by
 obtain ⟨ps,hL,_,_⟩:=h
 obtain ⟨g',t',cs,fuel,p,h1,h2,h3,h4⟩:=Ei hL name _ hm
 rw [hg] at h1
 cases h1
 rw [ht] at h2
 cases h2
 have hvar:∃ T fr,W.heap[g]?=some (.cells cs T fr):=by
  unfold World.var? at h3
  rw [hg] at h3
  simp only [Option.bind_some] at h3
  split at h3
  ·rename_i c T fr hh
   cases h3
   exact ⟨T,fr,hh⟩
  ·cases h3
 obtain ⟨T,fr,hblk⟩:=hvar
 refine ⟨cs,T,fr,hblk,?_⟩
 cases fuel with
 | zero=>simp [DataW.trod] at h4
 | succ fuel=>
  unfold DataW.trod at h4
  rw [hu] at h4
  simp only at h4
  split at h4
  ·rw [dc] at h4
   obtain ⟨xs,hm',hx⟩:=h4
   simp only [bv,DataW.agg.injEq] at hx
   obtain ⟨hl,hg'⟩:=wb hm'
   intro j d hj
   rw [← hx.1,di,dc] at hj
   obtain ⟨⟨d',p'⟩,hj,rfl⟩:=hj
   have hjl:j < xs.length:=(bP.1 hj).1
   have hr:(List.range len)[j]?=some j:=by
    rw [yz]
    rw [hl,List.length_range] at hjl
    exact hjl
   have:=hg' j j hr
   rw [hj,hc,Nat.mul_one] at this
   exact ⟨fuel,p',this⟩
  ·cases h4

theorem Je {cs:Array Value} {j:Nat} {v:Value} (h:(cs.toList.drop j).take 1=[v]):cs[j]?=some v:=by
 have:=congrArg (·[0]?) h
 simp only [yA,nP] at this
 simpa using this

theorem gl0 {W:World} {l:List (String×DataW Unit)} (h:laidMet Tryz.prog l W) (hm:("caddis/stmt.types",Rows.laid_caddis_stmt_types)∈l):Rv W U0 fW (.eptr [.str [73,78,84],.str [84,69,88,84],.str [66,79,79,76]] 0) (.pointer (some ⟨0,0,none⟩)):=by
 obtain ⟨cs,T,fr,hb,hd⟩:=yF h (g:=0) (t:=248) (e:=9) (len:=3) hm (by kernel_rfl) (by kernel_rfl) (by kernel_rfl) (by kernel_rfl)
 have hs9:Tryz.prog.underlying 9=some .string:=by kernel_rfl
 have hcell:∀ j,W.cell? ⟨0,j,none⟩=cs[j]?:=by
  intro j
  unfold World.cell?
  rw [hb]
  rfl
 obtain ⟨_,_,g0⟩:=hd 0 _ rfl
 obtain ⟨_,_,g1⟩:=hd 1 _ rfl
 obtain ⟨_,_,g2⟩:=hd 2 _ rfl
 have w0:=Je (mM hs9 g0)
 have w1:=Je (mM hs9 g1)
 have w2:=Je (mM hs9 g2)
 refine .eptr [.str [73,78,84],.str [84,69,88,84],.str [66,79,79,76]] 0 0 0 (fun j=>match j with
  | 0=>.string ⟨#[73,78,84]⟩
  | 1=>.string ⟨#[84,69,88,84]⟩
  | _=>.string ⟨#[66,79,79,76]⟩) (Bn (by rw [hcell]; exact w0)) (fun h=>h) ?_ ?_ ?_
 ·intro j hj
  match j,hj with
  | 0,_=>rw [hcell]; exact w0
  | 1,_=>rw [hcell]; exact w1
  | 2,_=>rw [hcell]; exact w2
 ·intro j hj
  match j,hj with
  | 0,_=>rfl
  | 1,_=>rfl
  | 2,_=>rfl
 ·intro j c hc
  match j,hc with
  | 0,hc=>simp at hc; subst hc; exact .str [73,78,84] (by simp [zE])
  | 1,hc=>simp at hc; subst hc; exact .str [84,69,88,84] (by simp [zE])
  | 2,hc=>simp at hc; subst hc; exact .str [66,79,79,76] (by simp [zE])
  | j+3,hc=>simp at hc

set_option maxRecDepth 100000 in
theorem gl2 {W:World} (h:W.ShapedOpen Tryz.prog):Rv W U0 fW .gint (.pointer (some ⟨2,0,none⟩)):=by
 have h0:((begin Tryz.prog (fun _ _=>0) default).world.heap[2]?).bind Obj.row?=some (#[.int .i64 0],3):=by kernel_rfl
 obtain ⟨cs,hh,hs,hr⟩:=h.1 2 _ _ (dH (by kernel_rfl)) h0
 obtain ⟨ts,hts,_,hall⟩:=hr (by kernel_rfl)
 have hc:Tryz.prog.cellTypes Tryz.prog.depth 3=some [3]:=by kernel_rfl
 rw [hc] at hts
 cases hts
 have h1:cs.size=1:=hs
 obtain ⟨u,hu,hok⟩:=hall 0 cs[0] (by simp)
 have:u=3:=by simpa using hu.symm
 subst this
 have hi:Tryz.prog.underlying 3=some (.int .i64):=by kernel_rfl
 unfold Cell.ok at hok
 rw [hi] at hok
 have hcs:cs = #[cs[0]]:=by
  apply Array.ext
  ·simp [h1]
  ·intro i h2 h3
   have:i=0:=by omega
   subst this
   rfl
 cases hv:cs[0] <;> rw [hv] at hok <;> simp at hok
 rename_i k n
 obtain ⟨rfl,hn⟩:=hok
 refine .gint n 2 3 (0,0) hn ?_ (fun h=>h)
 rw [hh,hcs,hv]

theorem gl5 {W:World} {l:List (String×DataW Unit)} (h:laidMet Tryz.prog l W) (hs:W.ShapedOpen Tryz.prog) (hm:("internal/strconv.uint64pow10",Rows.laid_internal_strconv_uint64pow10)∈l):Rv W U0 fW (.tab .u64 jN) (.pointer (some ⟨5,0,none⟩)):=by
 obtain ⟨cs,T,fr,hb,hd⟩:=yF h (g:=5) (t:=314) (e:=296) (len:=20) hm (by kernel_rfl) (by kernel_rfl) (by kernel_rfl) (by kernel_rfl)
 have hu:Tryz.prog.underlying 296=some (.int .u64):=by kernel_rfl
 have h0:((begin Tryz.prog (fun _ _=>0) default).world.heap[5]?).bind Obj.row?=some (Array.replicate 20 (.int .u64 0),314):=by kernel_rfl
 obtain ⟨cs',hh,hsz,_⟩:=hs.1 5 _ _ (dH (by kernel_rfl)) h0
 rw [hb] at hh
 have hcs:cs=cs':=by simp only [aq,Obj.cells.injEq] at hh; exact hh.1
 have hlen:cs.size=20:=by rw [hcs,hsz]; simp
 have key:cs=(jN.map fun z=>Value.int .u64 z).toArray:=by
  apply Array.ext
  ·rw [hlen]; rfl
  ·intro i h1 h2
   have hd':∀ (j:Nat) z,jN[j]?=some z→cs[j]?=some (.int .u64 z):=by
    intro j z hz
    obtain ⟨_,_,g⟩:=hd j (.lit (.int .u64 z)) (by
     have:(match (Rows.laid_internal_strconv_uint64pow10:DataW Unit) with | .agg l=>l | _=>[])=jN.map fun z=>DataW.lit (.int .u64 z):=by kernel_rfl
     have e2:(match (Rows.laid_internal_strconv_uint64pow10:DataW Unit) with | .agg l=>l | _=>[])[j]?=some (.lit (.int .u64 z)):=by
      rw [this,di,hz]
      rfl
     exact e2)
    exact Je (OP hu g)
   have hi:i < jN.length:=by simpa using h2
   have:=hd' i jN[i] (zI hi)
   rw [ip h1,aq] at this
   rw [this,List.getElem_toArray,List.getElem_map]
 exact .tab .u64 jN 5 T fr (by rw [hb,key]) (fun h=>h)


theorem Na:laidOutB Tryz.prog=true:=by kernel_rfl
def rp (P:Program) (t:TypeId):Bool:=match P.underlying t with
 | some (.struct _)=>true
 | _=>false
theorem B1 {P:Program} {t:TypeId} (h:rp P t=true):∃ fs,P.underlying t=some (.struct fs):=by
 unfold rp at h
 split at h
 ·exact ⟨_,‹_›⟩
 ·cases h
theorem un4:Tryz.prog.underlying 4=some .bool:=by kernel_rfl

theorem zfX {H:Type} {enc:TypeId×Value→H} {W W':World} (hsame:∀ b,b < W.heap.size→W'.heap[b]?=W.heap[b]?) {t:TypeId} {v:Value} {d:DataW H} {ps:List MemPlace} (hr:Tryz.prog.readableRec t=true) (hrow:t < Tryz.prog.types.size)
  (h:DataW.Trod enc Tryz.prog W 0 (fun _=>true) true t v d ps) (hlt:∀ p∈ps,p.block < W.heap.size) {sp:Nat→Bool} (hs:∀ p∈ps,sp p.block=true):DataW.Trod enc Tryz.prog W' 0 sp true t v d ps:=
 WideElems.Trod_stays Na hr hrow h (fun p hp=>by
  have h1:=hsame p.block (hlt p hp)
  cases p with
  | cell b off=>exact World.cell?_of_block h1
  | map b=>exact h1) hs

theorem QN {W:World} {l:List (String×DataW Unit)} (hL:laidMet Tryz.prog l W) (hs:W.ShapedOpen Tryz.prog) (h0:("caddis/stmt.types",Rows.laid_caddis_stmt_types)∈l) (h5:("internal/strconv.uint64pow10",Rows.laid_internal_strconv_uint64pow10)∈l):xQ JR W U0:=by
 intro g
 match g with
 | 0=>exact gl0 hL h0
 | 1=>exact .any _
 | 2=>exact gl2 hs
 | 3=>exact .any _
 | 4=>exact .any _
 | 5=>exact gl5 hL hs h5
 | g+6=>exact .any _

theorem J5 {P:Program} {W:World} {r:Go.Reach} {b:Nat} {t:TypeId} {v:Value} (ht:P.underlying t=some .string) (h:Value.okWide P W r b t v):∃ n,v=.string n:=by
 unfold Value.okWide at h
 rw [ht] at h
 simp only at h
 unfold Cell.okWide at h
 rw [ht] at h
 unfold Cell.ok at h
 rw [ht] at h
 cases v <;> simp at h
 exact ⟨_,rfl⟩

structure sS (t:TypeId) (s:Sh):Prop where
 got:∀ {H:Type} {enc:TypeId×Value→H} {W:World} {r:Go.Reach} {b:Nat} {v:Value} {d:DataW H} {ps:List MemPlace},Value.okWide Tryz.prog W r b t v→DataW.Trod enc Tryz.prog W 0 (fun _=>true) true t v d ps→∃ x:Sem s,Rv W U0 fW (zz s x) v
 rd:Tryz.prog.readableRec t=true
 row:t < Tryz.prog.types.size

set_option maxRecDepth 100000 in
theorem sS.struct {t:TypeId} {s:Sh} {n:Nat} (hty:Hg Tryz.prog n t s=true) (hs:s.isAgg=true) (ht:rp Tryz.prog t=true) (rd:Tryz.prog.readableRec t=true) (row:t < Tryz.prog.types.size):sS t s where
 got:=fun hok h=>by
  obtain ⟨fs,hu⟩:=B1 ht
  exact Gd hty hs hu hok h
 rd:=rd
 row:=row
set_option maxRecDepth 100000 in
theorem sS.slice {t e:TypeId} {s:Sh} {n:Nat} (hty:Hg Tryz.prog n t (.sl s)=true) (ht:Tryz.prog.underlying t=some (.slice e)) (rd:Tryz.prog.readableRec t=true) (row:t < Tryz.prog.types.size):sS t (.sl s) where
 got:=fun hok h=>JX hty ht hok h
 rd:=rd
 row:=row
set_option maxRecDepth 100000 in
theorem sS.int {t:TypeId} {k:IntKind} {n:Nat} (hty:Hg Tryz.prog n t (.int k)=true) (ht:Tryz.prog.underlying t=some (.int k)) (rd:Tryz.prog.readableRec t=true) (row:t < Tryz.prog.types.size):sS t (.int k) where
 got:=fun hok h=>QQ hty ht hok h
 rd:=rd
 row:=row
set_option maxRecDepth 100000 in
theorem sS.str {t:TypeId} {n:Nat} (hty:Hg Tryz.prog n t .str=true) (ht:Tryz.prog.underlying t=some .string) (rd:Tryz.prog.readableRec t=true) (row:t < Tryz.prog.types.size):sS t .str where
 got:=fun hok h=>by
  obtain ⟨m,rfl⟩:=J5 ht hok
  exact ta (s:=.str) hty h ⟨(fun ⟨_,hh⟩=>(by cases hh)),(fun hh=>(by cases hh))⟩ (fun _=>rfl)
 rd:=rd
 row:=row

inductive Fv:List TypeId→List Sh→Prop
 | nil:Fv [] []
 | cons {t:TypeId} {s:Sh} {ts:List TypeId} {ss:List Sh} (h:sS t s) (r:Fv ts ss):Fv (t::ts) (s::ss)

set_option maxRecDepth 100000 in
theorem Fv.got {ts:List TypeId} {ss:List Sh} (h:Fv ts ss):∀ {H:Type} {enc:TypeId×Value→H} {W:World} {base:Nat} {vs:List Value} {ds:List (DataW H)} {ps:List MemPlace},
  (∀ (j:Nat) t v,ts[j]?=some t→vs[j]?=some v→Value.okWide Tryz.prog W .any base t v)→DataW.TrodAll enc Tryz.prog W 0 (fun _=>true) true ts vs ds ps→
  ds.length=ts.length∧(∃ x:zx (ss.map some),cu W U0 fW (gm (ss.map some) x) vs)∧
  ∀ W',(∀ b,b < W.heap.size→W'.heap[b]?=W.heap[b]?)→(∀ p∈ps,p.block < W.heap.size)→∀ sp:Nat→Bool,(∀ p∈ps,sp p.block=true)→DataW.TrodAll enc Tryz.prog W' 0 sp true ts vs ds ps:=by
 induction h with
 | nil=>
  intro H enc W base vs ds ps _ hT
  obtain ⟨rfl,rfl,rfl⟩:=trodAll_nil hT
  exact ⟨rfl,⟨(),rfl,fun j c v hc=>by
   have h0:([]:List AV)[j]?=some c:=hc
   simp at h0⟩,fun _ _ _ _ _=>trodAll_mk0⟩
 | @cons t s ts ss h r IH=>
  intro H enc W base vs ds ps hok hT
  obtain ⟨v,vs,d,ds,p,q,rfl,rfl,rfl,hd,hrest⟩:=trodAll_cons hT
  obtain ⟨x,hx⟩:=h.got (hok 0 t v rfl rfl) hd
  obtain ⟨hl,⟨y,hy⟩,hk⟩:=IH (fun j t v ht hv=>hok (j+1) t v ht hv) hrest
  refine ⟨by simp [hl],⟨(x,y),by show (zz s x::gm (ss.map some) y).length=_; simp [hy.len],fun j c v' hc hv=>?_⟩,fun W' hsame hlt sp hsp=>?_⟩
  ·have hc:(zz s x::gm (ss.map some) y)[j]?=some c:=hc
   cases j with
   | zero=>
    simp only [List.getElem?_cons_zero,aq] at hc hv
    subst hc
    subst hv
    exact hx
   | succ j=>exact hy.rv j c v' hc hv
  ·exact trodAll_cons_mk (zfX hsame h.rd h.row hd (fun p hp=>hlt p (by simp [hp])) (fun p hp=>hsp p (by simp [hp]))) (hk W' hsame (fun p hp=>hlt p (by simp [hp])) sp (fun p hp=>hsp p (by simp [hp])))

theorem Hw:∀ (ss:List Sh) (x:zx (ss.map some)),AV.idsL (gm (ss.map some) x)=[]
 | [],_=>rfl
 | s::ss,x=>by
  show (zz s x.1).ids++AV.idsL (gm (ss.map some) x.2)=[]
  rw [Hw ss x.2,lW]
  unfold zz
  have hL:∀ l:List AV,(∀ c∈l,c.ids=[])→AV.idsL l=[]:=by
   intro l
   induction l with
   | nil=>intro _; rfl
   | cons c l ih=>intro h; simp only [AV.idsL,h c (by simp),ih fun c hc=>h c (by simp [hc]),lW]
  have hE:∀ c∈zo s x.1,c.ids=[]:=fun c hc=>by
   obtain ⟨j,hj,rfl⟩:=Dm hc
   exact jw s x.1 j _ (zI hj)
  cases s.isAgg with
  | true=>exact hL _ hE
  | false=>
   cases hh:zo s x.1 with
   | nil=>rfl
   | cons c l=>exact hE c (by rw [hh]; simp)

set_option maxRecDepth 100000 in
theorem Jw {k:FuncId} {f:Func} {s:ChangeSpec} {F:zD} {ts:List TypeId} {ss:List Sh} (hF:lL Tryz.prog JR k F) (hpar:f.params=ts.toArray) (hp:Fv ts ss) (hrt:f.resultTypes = #[4]) (hvars:s.vars=[])
  (hfn:∀ (H:Type) (ds:List (DataW H)),ds.length=ts.length→s.fn H ds={ results:=[.lit (.bool true)],args:=ds })
  {H:Type} {enc:TypeId×Value→H} {W:World} {base:Nat} {args:Array Value} {ds gs:List (DataW H)} {before:List MemPlace}
  (hv:∀ x:zx (ss.map some),cu W U0 fW (gm (ss.map some) x) args.toList→(F (gm (ss.map some) x) (fun _=>.dead) 0).val=some { val:=.bool true })
  (hval:∀ (j:Nat) t v,f.params[j]?=some t→args[j]?=some v→Value.okWide Tryz.prog W .any base t v)
  (hW:DataW.Whole enc Tryz.prog f.params.toList s.vars false W args.toList ds gs before) (hgl:xQ JR W U0):
  Calls Tryz.prog k args W fun e W'=>∃ v,e=.returned v∧s.post enc Tryz.prog f false true false false W args v W':=by
 have hW':=hW
 obtain ⟨p,q,hA0,hV,rfl,hfz,hnd⟩:=hW
 have hA:DataW.TrodAll enc Tryz.prog W 0 (fun _=>true) true f.params.toList args.toList ds p:=hA0
 rw [hpar] at hA
 rw [hvars] at hV
 obtain ⟨rfl,rfl⟩:=trodVars_none hV
 have hlt:=hW'.lt
 obtain ⟨hl,⟨x,hx⟩,hk⟩:=hp.got (base:=base) (fun j t v ht hv=>hval j t v (by rw [hpar]; simpa using ht) (by simpa using hv)) hA
 have hc:=Fz hF (args:=args) hgl hx (hv x hx) (Hw ss x)
 refine hc.mono fun e' W' ⟨he,hext,hsame⟩=>?_
 subst he
 have hf2:s.fn H (ds++[])={ results:=[.lit (.bool true)],args:=ds }:=by rw [lW]; exact hfn H ds hl
 refine ⟨_,rfl,Et (pa:=p) (pv:=[]) hW' (fun _ _ _=>?_) (fun sp hsp=>?_) (fun _ _=>?_) (by simp) (B2 hext.os hext.out hsame _) hext.fr (ok_one hrt rfl (okWide_bool_mk un4 _))⟩
 ·rw [hf2,hrt]
  exact trodAll_cons_mk (shut_bool un4 _) trodAll_mk0
 ·rw [hf2,hpar]
  exact hk W' hsame (fun p hp=>hlt p (by simpa using hp)) sp (fun p hp=>hsp p (by simpa using hp))
 ·rw [hf2,hvars]
  rfl

theorem Mu {w:World} {U:Nat→Prop} {ρ:Nat→Option Value} {n:Int} {v:Value} (h:Rv w U ρ (.int .i64 n) v):bx .i64 n:=by
 cases h with
 | int _ _ h=>exact h
theorem KB {w:World} {U:Nat→Prop} {ρ:Nat→Option Value} {l:List (Sem zf)} {v:Value} (h:Rv w U ρ (.sl zf l) v):∀ x∈l,bx .i64 x.2.1:=by
 intro x hx
 cases h with
 | sl0=>simp at hx
 | sl _ _ _ _ _ vals hc hm hb hU hcell hr=>
  obtain ⟨i,hi,rfl⟩:=Dm hx
  exact Mu (hr i hi 1 _ rfl)

theorem RJ {W:World} {n:Int} {v:Value} (h:Rv W U0 fW (.int .u8 n) v):0≤n∧n≤255:=by
 cases h with
 | int _ _ h=>exact h
theorem La (x:zx ([.sl zh,.sl zf,.int .u8].map some)) {W:World} {vs:List Value} (hr:cu W U0 fW (gm ([.sl zh,.sl zf,.int .u8].map some) x) vs):(F4w (gm ([.sl zh,.sl zf,.int .u8].map some) x) (fun _=>.dead) 0).val=some { val:=.bool true }:=by
 obtain ⟨db,row,n,u⟩:=x
 have hr:cu W U0 fW [.sl zh db,.sl zf row,.int .u8 n] vs:=hr
 have hl:=hr.len
 have at':∀ j c,([.sl zh db,.sl zf row,.int .u8 n]:List AV)[j]?=some c→∃ v,Rv W U0 fW c v:=fun j c hj=>by
  have hlt:j < vs.length:=by rw [← hl]; exact (bP.1 hj).1
  exact ⟨vs[j],hr.rv j c _ hj (zI hlt)⟩
 obtain ⟨v1,h1⟩:=at' 1 _ rfl
 obtain ⟨v2,h2⟩:=at' 2 _ rfl
 have hn:=RJ h2
 have h:(F4w [.sl zh db,.sl zf row,.int .u8 n] (fun _=>.dead) 0).val=(Tr.chk (wa db row n).isSome (Tr.ok ({ val:=.bool ((wa db row n).getD (bF [.bool])).1 }:eF))).val:=by kernel_rfl
 show (F4w [.sl zh db,.sl zf row,.int .u8 n] (fun _=>.dead) 0).val=_
 rw [h,M7 db row n (KB h1) hn.1 hn.2]
 rfl
end Cad
