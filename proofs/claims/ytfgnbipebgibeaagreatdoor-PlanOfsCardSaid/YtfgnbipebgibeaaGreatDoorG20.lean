/- The document's plan is the program's. The law PlanOfs. Few of a base: numbers of 64 bits, and short texts. From what is handed in to plain data. From a contract over plain data to a law's statement. What the package variables hold when a law begins. Laws on a base and a statement: the contract. Few statements: numbers of 64 bits, and short texts. The chapter's examples hold. Contracts: a base of the world has numbers of 64 bits. The law PlanOfs holds. A law of three parameters: its contract. -/
import Derived.Test.YtfgnbipebgibeaaGreatDoorG14
import Derived.Test.YtfgnbipebgibeaaGreatDoorG17
import Derived.Test.YtfgnbipebgibeaaGreatDoorG19
import Derived.Test.YtfgnbipebgibeaaGreatDoorG16
import Derived.Test.YtfgnbipebgibeaaGreatDoorG09
import Derived.Carry
import Derived.ChangeSame
import Derived.RowKit3
import Derived.WideKeyArgs
import Derived.Test.YtfgnbipebgibeaaGreatDoorG06
import Derived.Test.YtfgnbipebgibeaaGreatDoorRows
import Derived.OpenShut
import Derived.ProofKit
import Derived.Test.YtfgnbipebgibeaaGreatDoorG11
import Derived.Test.YtfgnbipebgibeaaGreatDoorG18
namespace Cad
open Go Go.Proofs
open Int (toNat)
open List (getD)
open List (length)
set_option maxHeartbeats 4000000

abbrev rN (e:Int):aF:=(.tup [zPl,.int .i64 e],[])
def tZ (r:aF) (x:Int×Sem aB):Prop:=az r.2 [aB,zf] r.1=some (x.2,x.1,())
theorem dz (e:Int):tZ (rN e) (e,jl):=rfl

theorem X2 (st:Nat→jM) (R:aF) {p:Sem aB} (hR:tZ R (0,p))
  (hv:∀ i,i≤p.2.2.2.1.2.1.length→(cU (st i)).val=if i < p.2.2.2.1.2.1.length then (if zQ p.2.2.2.1.2.1 (getD p.2.2.2.1.2.1 i (zi zh)).1=(i:Int) then some (.inl (st (i+1))) else some (.inr (rN 7))) else (if np p.2.2.2.1.2.2.2.2.2 p.2.2.2.1.2.1=0 then some (.inr R) else some (.inr (rN (np p.2.2.2.1.2.2.2.2.2 p.2.2.2.1.2.1))))):
  ∃ r,ah cU (p.2.2.2.1.2.1.length * 1+1) (st 0) r∧tZ r (jo 0 p):=by
 have hT:mV p.2.2.2.1=if ∃ i,i < length p.2.2.2.1.2.1∧ae p.2.2.2.1 (getD p.2.2.2.1.2.1 i (zi zh)).1≠(i:Int) then 7 else np p.2.2.2.1.2.2.2.2.2 p.2.2.2.1.2.1:=rfl
 unfold jo
 rw [if_pos rfl,hT]
 rcases lm (t:=cU) (Φ:=fun r=>r=rN 7) 1 st (fun i=>zQ p.2.2.2.1.2.1 (getD p.2.2.2.1.2.1 i (zi zh)).1=(i:Int)) p.2.2.2.1.2.1.length (fun i hi _=>by
  have h:=hv i (by omega)
  rw [if_pos hi] at h
  by_cases c:zQ p.2.2.2.1.2.1 (getD p.2.2.2.1.2.1 i (zi zh)).1=(i:Int)
  ·exact .inl ⟨c,ap.of (by rw [h,if_pos c])⟩
  ·exact .inr ⟨c,_,ah.of (by rw [h,if_neg c]),rfl⟩) with ⟨h1,h2⟩ | ⟨h1,r,h2,rfl⟩
 ·have hn:¬ ∃ i,i < length p.2.2.2.1.2.1∧ae p.2.2.2.1 (getD p.2.2.2.1.2.1 i (zi zh)).1≠(i:Int):=by
   rintro ⟨i,hi,hne⟩
   exact hne (h1 i hi)
  rw [if_neg hn]
  have h:=hv _ (bg _)
  rw [if_neg (Nat.lt_irrefl _)] at h
  by_cases c:np p.2.2.2.1.2.2.2.2.2 p.2.2.2.1.2.1=0
  ·rw [if_pos c] at h ⊢
   exact ⟨_,(h2.ends (ah.of h)).mono (by omega),hR⟩
  ·rw [if_neg c] at h ⊢
   exact ⟨_,(h2.ends (ah.of h)).mono (by omega),dz _⟩
 ·have hy:∃ i,i < length p.2.2.2.1.2.1∧ae p.2.2.2.1 (getD p.2.2.2.1.2.1 i (zi zh)).1≠(i:Int):=by
   apply qL
   intro hn
   refine h1 fun i hi=>?_
   apply qL
   exact fun hc=>hn ⟨i,hi,hc⟩
  rw [if_pos hy,if_neg (by decide)]
  exact ⟨_,h2.mono (by omega),dz _⟩

structure xq (s:Sem zk):Prop where
 wf:mX s.2.2.2.2.2.2.2.2.1
 may:(s.2.2.2.2.2.2.2.2.1.op==[])=false→cM s.2.2.2.2.2.2.2.2.1=true

abbrev YG (z:zo LM):Sem aB:=(z.1,z.2.1,z.2.2.1,(z.2.2.2.1,z.2.2.2.2.1,z.2.2.2.2.2.1,[],[],z.2.2.2.2.2.2.1),z.2.2.2.2.2.2.2.1,z.2.2.2.2.2.2.2.2.1)

theorem zcX {s:Sem zk} (hs:xq s) (z1:zo jb) (z:zo W6) (hz:z.2.2.2.2.2.2.1=s.2.2.2.2.2.2.2.2.1) (hl:length z.2.2.2.2.1≤1000):
  ∃ r,ah cU (length z.2.2.2.2.1 * 1+1) (.h64 ((0:Nat):Int) (s,()) z1 z) r∧tZ r (jo 0 (YG z)):=by
 obtain ⟨k1,k2⟩:=Au (cols:=z.2.2.2.2.1) hs.wf (by omega) hs.may
 refine X2 (p:=YG z) (fun i=>.h64 (i:Int) (s,()) z1 z) ?R ?h ?v
 case v=>
  intro i hi
  by_cases h:i < length z.2.2.2.2.1
  ·have e1:dc z.2.2.2.2.1 (getD z.2.2.2.2.1 i (zi zh)).1=true:=iz (by omega)
   have e2:ef z.2.2.2.2.1 (getD z.2.2.2.2.1 i (zi zh)).1=zQ z.2.2.2.2.1 (getD z.2.2.2.2.1 i (zi zh)).1:=jI (by omega)
   rw [if_pos h]
   simp only [cU,rE,Tr.val,zM h,zB h,bd,e1,e2,if_true]
   rw [zt i (by unfold zA; omega)]
   by_cases c:zQ z.2.2.2.2.1 (getD z.2.2.2.2.1 i (zi zh)).1=(i:Int)
   ·rw [if_pos c,if_neg (by simpa using c)]
   ·rw [if_neg c,if_pos (by simpa using c)]
  ·obtain rfl:i=length z.2.2.2.2.1:=Nat.le_antisymm hi (by omega)
   rw [if_neg h]
   show (cU (.h64 _ _ _ _)).val=if np z.2.2.2.2.2.2.1 z.2.2.2.2.1=0 then some (Sum.inr _) else some (Sum.inr (rN (np z.2.2.2.2.2.2.1 z.2.2.2.2.1)))
   rw [hz]
   simp only [cU,rE,Tr.val,zH,zn,k1,k2,if_true,zV,if_false]
   by_cases c:np s.2.2.2.2.2.2.2.2.1 z.2.2.2.2.1=0
   ·rw [if_pos c,if_neg (by simpa using c)]
   ·rw [if_neg c,if_pos (by simpa using c)]
 case h=>
  unfold tZ
  obtain ⟨z0,z1,z2,z3,z4,z5,e,z7,z8,z9⟩:=z
  cases e
  rfl
theorem zcY {s:Sem zk} (hs:xq s) (z1:zo jb) (z:zo LM) (hz:z.2.2.2.2.2.2.1=s.2.2.2.2.2.2.2.2.1) (hl:length z.2.2.2.2.1≤1000):
  ∃ r,ah cU (length z.2.2.2.2.1 * 1+1) (.h64bb ((0:Nat):Int) (s,()) z1 z) r∧tZ r (jo 0 (YG z)):=by
 obtain ⟨k1,k2⟩:=Au (cols:=z.2.2.2.2.1) hs.wf (by omega) hs.may
 refine X2 (p:=YG z) (fun i=>.h64bb (i:Int) (s,()) z1 z) ?R ?h ?v
 case v=>
  intro i hi
  by_cases h:i < length z.2.2.2.2.1
  ·have e1:dc z.2.2.2.2.1 (getD z.2.2.2.2.1 i (zi zh)).1=true:=iz (by omega)
   have e2:ef z.2.2.2.2.1 (getD z.2.2.2.2.1 i (zi zh)).1=zQ z.2.2.2.2.1 (getD z.2.2.2.2.1 i (zi zh)).1:=jI (by omega)
   rw [if_pos h]
   simp only [cU,rE,Tr.val,zM h,zB h,bd,zu h,e1,e2,if_true]
   rw [zt i (by unfold zA; omega)]
   by_cases c:zQ z.2.2.2.2.1 (getD z.2.2.2.2.1 i (zi zh)).1=(i:Int)
   ·rw [if_pos c,if_neg (by simpa using c)]
   ·rw [if_neg c,if_pos (by simpa using c)]
  ·obtain rfl:i=length z.2.2.2.2.1:=Nat.le_antisymm hi (by omega)
   rw [if_neg h]
   show (cU (.h64bb _ _ _ _)).val=if np z.2.2.2.2.2.2.1 z.2.2.2.2.1=0 then some (Sum.inr _) else some (Sum.inr (rN (np z.2.2.2.2.2.2.1 z.2.2.2.2.1)))
   rw [hz]
   simp only [cU,rE,Tr.val,zH,zn,k1,k2,if_true,zV,if_false]
   by_cases c:np s.2.2.2.2.2.2.2.2.1 z.2.2.2.2.1=0
   ·rw [if_pos c,if_neg (by simpa using c)]
   ·rw [if_neg c,if_pos (by simpa using c)]
 case h=>
  unfold tZ
  obtain ⟨z0,z1,z2,z3,z4,z5,e,z7,z8,z9⟩:=z
  cases e
  rfl
theorem zcZ {s:Sem zk} (hs:xq s) (z1:zo jb) (z:zo Nx) (hz:z.2.2.2.2.2.2.1=s.2.2.2.2.2.2.2.2.1) (hl:length z.2.2.2.2.1≤1000):
  ∃ r,ah cU (length z.2.2.2.2.1 * 1+1) (.h64bbb ((0:Nat):Int) (s,()) z1 z) r∧tZ r (jo 0 (YG z)):=by
 obtain ⟨k1,k2⟩:=Au (cols:=z.2.2.2.2.1) hs.wf (by omega) hs.may
 refine X2 (p:=YG z) (fun i=>.h64bbb (i:Int) (s,()) z1 z) ?R ?h ?v
 case v=>
  intro i hi
  by_cases h:i < length z.2.2.2.2.1
  ·have e1:dc z.2.2.2.2.1 (getD z.2.2.2.2.1 i (zi zh)).1=true:=iz (by omega)
   have e2:ef z.2.2.2.2.1 (getD z.2.2.2.2.1 i (zi zh)).1=zQ z.2.2.2.2.1 (getD z.2.2.2.2.1 i (zi zh)).1:=jI (by omega)
   rw [if_pos h]
   simp only [cU,rE,Tr.val,zM h,zB h,bd,zu h,e1,e2,if_true]
   rw [zt i (by unfold zA; omega)]
   by_cases c:zQ z.2.2.2.2.1 (getD z.2.2.2.2.1 i (zi zh)).1=(i:Int)
   ·rw [if_pos c,if_neg (by simpa using c)]
   ·rw [if_neg c,if_pos (by simpa using c)]
  ·obtain rfl:i=length z.2.2.2.2.1:=Nat.le_antisymm hi (by omega)
   rw [if_neg h]
   show (cU (.h64bbb _ _ _ _)).val=if np z.2.2.2.2.2.2.1 z.2.2.2.2.1=0 then some (Sum.inr _) else some (Sum.inr (rN (np z.2.2.2.2.2.2.1 z.2.2.2.2.1)))
   rw [hz]
   simp only [cU,rE,Tr.val,zH,zn,k1,k2,if_true,zV,if_false]
   by_cases c:np s.2.2.2.2.2.2.2.2.1 z.2.2.2.2.1=0
   ·rw [if_pos c,if_neg (by simpa using c)]
   ·rw [if_neg c,if_pos (by simpa using c)]
 case h=>
  unfold tZ
  obtain ⟨z0,z1,z2,z3,z4,z5,e,z7,z8,z9⟩:=z
  cases e
  rfl

def qr (k:Int) (l:List Int):Nat→Int
 | 0=>-1
 | i+1=>if l.getD i 0=k then (i:Int) else qr k l i
theorem G1 {k:Int} {l:List Int} {j:Nat} (hj:j < l.length) (hk:l[j]=k) (hn:l.Nodup):∀ i,i≤l.length→qr k l i=if j < i then (j:Int) else -1
 | 0,_=>rfl
 | i+1,hi=>by
  rw [qr,G1 hj hk hn i (by omega),aP,zP (by omega:i < l.length),cX]
  by_cases h:l[i]=k
  ·have:i=j:=by
    rcases Nat.lt_trichotomy i j with c | c | c
    ·exact absurd (h.trans hk.symm) (List.pairwise_iff_getElem.1 hn i j (by omega) hj c)
    ·exact c
    ·exact absurd (hk.trans h.symm) (List.pairwise_iff_getElem.1 hn j i hj (by omega) c)
   rw [if_pos h,if_pos (by omega),this]
  ·rw [if_neg h]
   by_cases c:j < i
   ·rw [if_pos c,if_pos (by omega)]
   ·have:j≠i:=by rintro rfl; exact h hk
    rw [if_neg c,if_neg (by omega)]
theorem G2 {k:Int} {l:List Int} (hk:k ∉ l):∀ i,i≤l.length→qr k l i=-1
 | 0,_=>rfl
 | i+1,hi=>by
  rw [qr,G2 hk i (by omega),aP,zP (by omega:i < l.length),cX,if_neg]
  rintro rfl
  exact hk (bP _)
theorem O9 {k:Int} {l:List Int} (hn:l.Nodup):qr k l l.length=gw l k:=by
 rcases GS l k with ⟨j,hj,h1,h2,_⟩ | ⟨h1,h2⟩
 ·rw [h1,G1 hj h2 hn _ (bg _),if_pos hj]
 ·rw [h1,G2 h2 _ (bg _)]

theorem zgx {s:Sem zk} (hs:xq s) (z1:zo jb) {t:Sem zl} {a b c d:zw} {l:List Int} {on:Int} (hl:l.length≤1000) (hn:l.Nodup) (hin:∀ x∈l,zR x t.2.1.length=true):
  ∃ r k,ah cU k (.h24 ((0:Nat):Int) (s,()) z1 (a,b,c,d,[],-1,s.2.2.2.2.2.2.2.2.1,l,on,()) (t,())) r∧k≤10000∧
   tZ r (jo (if LT.lt (α:=Int) (gw l t.2.2.1) 0 then 1 else 0) (a,b,c,(d,l.map (fun x=>getD t.2.1 (toNat x) (zi zh)),gw l t.2.2.1,[],[],s.2.2.2.2.2.2.2.2.1),l,on)):=by
 have hg:=ap.all (t:=cU) 1 (fun i=>.h24 (i:Int) (s,()) z1 (a,b,c,d,(l.take i).map (fun x=>getD t.2.1 (toNat x) (zi zh)),qr t.2.2.1 l i,s.2.2.2.2.2.2.2.2.1,l,on,()) (t,())) l.length (by
  intro i hi
  refine ap.of ?_
  have e1:getD l ((i:Int).toNat) (zi zf)=l[i]:=zX l _ hi
  have e2:zR l[i] t.2.1.length=true:=hin _ (bP hi)
  have e3:qr t.2.2.1 l (i+1)=if l[i]=t.2.2.1 then (i:Int) else qr t.2.2.1 l i:=by
   rw [qr,aP,zP hi,cX]
  have e5:decide (length ((l.take i).map (fun x=>getD t.2.1 (toNat x) (zi zh)))+length [getD t.2.1 (toNat l[i]) (zi zh)]≤1073741824)=true:=zu (by simp; omega)
  simp only [cU,rE,Tr.val,zM hi,zB hi,e1,e2,e5,if_true]
  rw [zt i (by unfold zA; omega),dH hi,ls,e3]
  by_cases k:l[i]=t.2.2.1
  ·rw [if_pos k,if_pos (by simpa using k)]
   rfl
  ·rw [if_neg k,if_neg (by simpa using k)]
   rfl)
 rw [vp,O9 hn] at hg
 by_cases h:LT.lt (α:=Int) (gw l t.2.2.1) 0
 ·rw [if_pos h]
  refine ⟨rN 1,_,hg.ends (ah.of ?_),by omega,dz 1⟩
  simp only [cU,rE,Tr.val,zH,zu h,if_true,zV,if_false]
 ·rw [if_neg h]
  obtain ⟨r,h1,h2⟩:=zcY hs z1 (a,b,c,d,l.map (fun x=>getD t.2.1 (toNat x) (zi zh)),gw l t.2.2.1,s.2.2.2.2.2.2.2.2.1,l,on,()) rfl (by simpa using hl)
  refine ⟨r,_,hg.ends ((ap.of ?_).ends h1),by simp; omega,h2⟩
  simp only [cU,rE,Tr.val,zH,ao h,zV,if_false]
  rfl

theorem vM (a:Int) (b:zw):∀ (l:List (Sem zq)) (i:Nat),GE.ge (α:=Int) (gI a b l (i:Int)) 0↔(a,b)∈l
 | [],i=>by
  rw [gI]
  exact ⟨fun h=>absurd h (by decide),fun h=>by cases h⟩
 | x::r,i=>by
  rw [gI]
  split
  ·rename_i h
   have:(a,b)=x:=by
    simp only [Bool.and_true,aV,bb] at h
    exact Prod.ext h.1 h.2
   rw [← this]
   exact ⟨fun _=>B6,fun _=>Int.natCast_nonneg i⟩
  ·rename_i h
   have:=vM a b r (i+1)
   rw [rP] at this
   rw [dQ]
   refine ⟨fun h2=>.inr (this.1 h2),fun h2=>this.2 (h2.resolve_left ?_)⟩
   rintro rfl
   simp at h
theorem II (l:List (Sem zq)) (x:Sem zq):kV l x=true↔x∈l:=by
 unfold kV
 rw [decide_eq_true_iff]
 exact vM x.1 x.2 l 0

def jY (on:Int) (w:zw) (l:List (Sem zq)):Bool:=l.any fun f=>f.1==on&&f.2==w
theorem IF (on:Int) (w:zw) (l:List (Sem zq)):jY on w l=kV l (on,w):=by
 apply iN.2
 rw [II]
 unfold jY
 rw [List.any_eq_true]
 constructor
 ·rintro ⟨f,hf,h⟩
  simp only [aV,bb] at h
  have:f=(on,w):=Prod.ext h.1 h.2
  rwa [this] at hf
 ·intro h
  exact ⟨_,h,by simp⟩
theorem vI (on:Int) (w:zw) (l:List (Sem zq)) (f:Sem zq):jY on w (l++[f])=bif jY on w l then true else bif f.1==on then f.2==w else false:=by
 unfold jY
 simp only [List.any_append,List.any_cons,List.any_nil,Bool.or_false]
 cases (l.any fun f=>f.1==on&&f.2==w) <;> cases (f.1==on) <;> rfl

theorem zgz {s:Sem zk} (hs:xq s) (z1:zo jb) {t u:Sem zl} {a b c d:zw} {on:Int} (ht:t.2.1.length≤100) (hu:u.2.1.length≤100):
  ∃ r k,ah cU k (.h48 ((0:Nat):Int) (s,()) z1 (a,b,c,d,t.2.1,t.2.2.1,s.2.2.2.2.2.2.2.2.1,[],on,()) (u,())) r∧k≤10000∧
   tZ r (jo 0 (a,b,c,(d,t.2.1++gC u (length u.2.1),t.2.2.1,[],[],s.2.2.2.2.2.2.2.2.1),j6 u.2.2.1 (length u.2.1),on)):=by
 have hg:=ap.all (t:=cU) 1 (fun i=>.h48 (i:Int) (s,()) z1 (a,b,c,d,t.2.1++gC u i,t.2.2.1,s.2.2.2.2.2.2.2.2.1,j6 u.2.2.1 i,on,()) (u,())) u.2.1.length (by
  intro i hi
  refine ap.of ?_
  have hoth:=nX u.2.2.1 i
  have hsucc:=uK u.2.2.1 i
  have l1:(j6 u.2.2.1 i).length≤100:=by unfold j6; rw [dI]; omega
  have l2:(gC u i).length≤100:=by unfold gC; rw [dI]; omega
  simp only [cU,Tr.val,zM hi,zB hi,if_true,zX _ _ hi]
  rw [zt i (by unfold zA; omega)]
  by_cases k:((i:Int) != u.2.2.1)=true
  ·rw [if_pos k] at hsucc
   rw [if_pos k,if_pos (by simp; omega),if_pos (by simp; omega),gC,gC,j6,j6,hsucc,ls,ls,← xD]
   simp [zP hi]
  ·rw [if_neg k] at hsucc
   rw [if_neg k,gC,gC,j6,j6,hsucc])
 have l1:(gC u (length u.2.1)).length≤100:=by have:=nX u.2.2.1 (length u.2.1); unfold gC; rw [dI]; omega
 obtain ⟨r,h1,h2⟩:=zcZ hs z1 (a,b,c,d,t.2.1++gC u (length u.2.1),t.2.2.1,s.2.2.2.2.2.2.2.2.1,j6 u.2.2.1 (length u.2.1),on,()) rfl (by simp; omega)
 have h3:ap cU 1 (.h48 (u.2.1.length:Int) (s,()) z1 (a,b,c,d,t.2.1++gC u (length u.2.1),t.2.2.1,s.2.2.2.2.2.2.2.2.1,j6 u.2.2.1 (length u.2.1),on,()) (u,())) (.h64bbb ((0:Nat):Int) (s,()) z1 (a,b,c,d,t.2.1++gC u (length u.2.1),t.2.2.1,s.2.2.2.2.2.2.2.2.1,j6 u.2.2.1 (length u.2.1),on,())):=ap.of (by
  simp only [cU,Tr.val,zH]
  rfl)
 have h0:t.2.1++gC u 0=t.2.1:=xG _
 have h5:=hg.ends (h3.ends h1)
 rw [h0] at h5
 exact ⟨r,_,h5,by simp; omega,h2⟩

theorem zgy {s:Sem zk} (hs:xq s) (z1:zo jb) {t u:Sem zl} {a b c d:zw} {k0 on:Int} (ht:t.2.1.length≤100) (hu:u.2.1.length≤100) (hr:t.2.2.2.2.1.length≤1000):
  ∃ r k,ah cU k (.h38 ((0:Nat):Int) (s,()) z1 (a,b,c,d,k0,s.2.2.2.2.2.2.2.2.1,on,()) (t,()) (u,())) r∧k≤20000∧
   tZ r (jo (if kV t.2.2.2.2.1 (on,s.2.2.2.2.2.2.2.2.2.2.2.2)=true then (if LT.lt (α:=Int) 9 ((length t.2.1:Int)+(length u.2.1:Int)) then 13 else 0) else 10) (a,b,c,(d,t.2.1++gC u (length u.2.1),t.2.2.1,[],[],s.2.2.2.2.2.2.2.2.1),j6 u.2.2.1 (length u.2.1),on)):=by
 rw [← IF]
 by_cases h0:0 < t.2.2.2.2.1.length
 ·have hg0:ap cU 1 (.h38 ((0:Nat):Int) (s,()) z1 (a,b,c,d,k0,s.2.2.2.2.2.2.2.2.1,on,()) (t,()) (u,())) (.h38b (jY on s.2.2.2.2.2.2.2.2.2.2.2.2 (t.2.2.2.2.1.take (0+1))) ((0+1:Nat):Int) (s,()) z1 (a,b,c,d,k0,s.2.2.2.2.2.2.2.2.1,on,()) (t,()) (u,())):=ap.of (by
   have e:t.2.2.2.2.1.take (0+1)=[]++[t.2.2.2.2.1[0]]:=dH h0
   rw [e,vI]
   simp only [cU,rE,Tr.val,zM h0,zB h0,if_true,zX _ _ h0]
   rw [zt 0 (by unfold zA; omega)]
   cases ((t.2.2.2.2.1[0]).1==on) <;> rfl)
  have hg:=ap.all (t:=cU) 1 (fun i=>.h38b (jY on s.2.2.2.2.2.2.2.2.2.2.2.2 (t.2.2.2.2.1.take (i+1))) ((i+1:Nat):Int) (s,()) z1 (a,b,c,d,k0,s.2.2.2.2.2.2.2.2.1,on,()) (t,()) (u,())) (t.2.2.2.2.1.length - 1) (by
   intro i hi
   have hi:i+1 < t.2.2.2.2.1.length:=by omega
   refine ap.of ?_
   rw [dH hi,vI]
   simp only [cU,rE,Tr.val,zM hi,zB hi,zX _ _ hi]
   rw [zt (i+1) (by unfold zA; omega)]
   cases jY on s.2.2.2.2.2.2.2.2.2.2.2.2 (t.2.2.2.2.1.take (i+1)) <;> cases ((t.2.2.2.2.1[i+1]).1==on) <;> rfl)
  have hn:t.2.2.2.2.1.length - 1+1=t.2.2.2.2.1.length:=by omega
  rw [hn,vp] at hg
  have hw:IntKind.i64.wrap ((↑(length t.2.1):Int)+(↑(length u.2.1):Int))=(↑(length t.2.1):Int)+(↑(length u.2.1):Int):=iE _ (by omega) (by omega)
  by_cases hf:jY on s.2.2.2.2.2.2.2.2.2.2.2.2 t.2.2.2.2.1=true
  ·rw [if_pos hf]
   by_cases h9:LT.lt (α:=Int) 9 ((length t.2.1:Int)+(length u.2.1:Int))
   ·rw [if_pos h9]
    refine ⟨rN 13,_,(hg0.trans hg).ends (ah.of ?_),by omega,dz 13⟩
    simp only [cU,rE,Tr.val,zH,hf,hw,ck,zV,if_false]
    rw [if_pos (by simpa using h9)]
   ·rw [if_neg h9]
    obtain ⟨r,k,h1,h2,h3⟩:=zgz hs z1 (a:=a) (b:=b) (c:=c) (d:=d) (on:=on) ht hu
    refine ⟨r,_,(hg0.trans hg).ends ((ap.of ?_).ends h1),by omega,h3⟩
    simp only [cU,rE,Tr.val,zH,hf,hw,ck,zV,if_false]
    rw [if_neg (by simpa using h9),if_pos (by simp; omega)]
    rfl
  ·rw [if_neg hf]
   have hf:jY on s.2.2.2.2.2.2.2.2.2.2.2.2 t.2.2.2.2.1=false:=by simpa using hf
   refine ⟨rN 10,_,(hg0.trans hg).ends (ah.of ?_),by omega,dz 10⟩
   simp only [cU,rE,Tr.val,zH,hf,dn,if_true,zV,if_false]
 ·have hnil:t.2.2.2.2.1=[]:=t7 (by omega)
  rw [hnil,if_neg (by unfold jY; simp)]
  refine ⟨rN 10,1,ah.of ?_,by omega,dz 10⟩
  simp only [cU,rE,Tr.val,hnil]
  rfl

theorem wA {e:Int} {p:Sem aB} (h:e≠0):jo e p=(e,jl):=by unfold jo; rw [if_neg h]
theorem Nw (t:Sem zl) (names:List zw):eZ t names=(ky t names).map fun x=>getD t.2.1 (toNat x) (zi zh):=by
 unfold eZ ky
 rw [rR]
 rfl

theorem of7 {db:List (Sem zj)} {s:Sem zk} (hB:tW db) (hw:nm s) (hst:dK s=true) (hm:kK s.1) (hb:jP db=(0:Int)) (hdb:∀ x∈db,RG x) (z1:zo jb):
  ∃ r k,ah cU k (.h7 db (ea s.2.2.1 s.2.2.2.2.2.2.2.2.2.2.2.2) ((0:Nat):Int) (s,()) z1 (s.1,s.2.2.1,s.2.2.2.2.2.2.2.2.2.2.2.2,s.2.1,0,s.2.2.2.2.2.2.2.2.1,0,())) r∧k≤90000∧tZ r (cB db s):=by
 obtain ⟨hnm,hmb,m1,m2,m3⟩:=C1 hw hst hm
 have hs:xq s:=⟨hw.chk,fun h=>by
  unfold bw at hmb
  rcases zG (fR s.2.2.2.2.2.2.2.2.1) with c | c
  ·rw [il.1 c] at h; cases h
  ·rw [c] at hmb; exact hmb⟩
 have hP:cB db s=if nt db s.2.2.1 s.2.2.2.2.2.2.2.2.2.2.2.2 s.2.1=0 then DD db s else (nt db s.2.2.1 s.2.2.2.2.2.2.2.2.2.2.2.2 s.2.1,jl):=by
  unfold cB
  rw [if_pos ⟨hm,hst,hb⟩]
 have hnl:(ea s.2.2.1 s.2.2.2.2.2.2.2.2.2.2.2.2).length≤2:=by unfold ea; split <;> simp
 rw [hP]
 clear hP
 rcases lm (t:=cU) (Φ:=fun r=>r=rN 6) 1 (fun i=>.h7 db (ea s.2.2.1 s.2.2.2.2.2.2.2.2.2.2.2.2) (i:Int) (s,()) z1 (s.1,s.2.2.1,s.2.2.2.2.2.2.2.2.2.2.2.2,s.2.1,0,s.2.2.2.2.2.2.2.2.1,0,())) (fun i=>∀ h:i < (ea s.2.2.1 s.2.2.2.2.2.2.2.2.2.2.2.2).length,LE.le (α:=Int) 0 (zZ db (ea s.2.2.1 s.2.2.2.2.2.2.2.2.2.2.2.2)[i])) (ea s.2.2.1 s.2.2.2.2.2.2.2.2.2.2.2.2).length (fun i hi _=>by
  have hv:(cU (.h7 db (ea s.2.2.1 s.2.2.2.2.2.2.2.2.2.2.2.2) (i:Int) (s,()) z1 (s.1,s.2.2.1,s.2.2.2.2.2.2.2.2.2.2.2.2,s.2.1,0,s.2.2.2.2.2.2.2.2.1,0,()))).val=if LT.lt (α:=Int) (zZ db (ea s.2.2.1 s.2.2.2.2.2.2.2.2.2.2.2.2)[i]) 0 then some (.inr (rN 6)) else some (.inl (.h7 db (ea s.2.2.1 s.2.2.2.2.2.2.2.2.2.2.2.2) ((i+1:Nat):Int) (s,()) z1 (s.1,s.2.2.1,s.2.2.2.2.2.2.2.2.2.2.2.2,s.2.1,0,s.2.2.2.2.2.2.2.2.1,0,()))):=by
   simp only [cU,rE,Tr.val,zM hi,zB hi,if_true,zX _ _ hi,dX]
   rw [zt i (by unfold zA; omega)]
   by_cases c:LT.lt (α:=Int) (zZ db (ea s.2.2.1 s.2.2.2.2.2.2.2.2.2.2.2.2)[i]) 0
   ·rw [if_pos c,if_pos (by simpa using c)]
   ·rw [if_neg c,if_neg (by simpa using c)]
  by_cases c:LT.lt (α:=Int) (zZ db (ea s.2.2.1 s.2.2.2.2.2.2.2.2.2.2.2.2)[i]) 0
  ·exact .inr ⟨fun h=>by have:=h hi; omega,_,ah.of (by rw [hv,if_pos c]),rfl⟩
  ·exact .inl ⟨fun _=>by omega,ap.of (by rw [hv,if_neg c])⟩) with ⟨h1,h2⟩ | ⟨h1,r,h2,rfl⟩
 rotate_left
 ·have hE:nt db s.2.2.1 s.2.2.2.2.2.2.2.2.2.2.2.2 s.2.1=6:=by
   unfold nt
   rw [if_neg]
   intro h
   exact h1 fun i _ hi=>h _ (bP hi)
  rw [hE,if_neg (by decide)]
  exact ⟨_,_,h2,by omega,dz 6⟩
 have hA:∀ n∈ea s.2.2.1 s.2.2.2.2.2.2.2.2.2.2.2.2,LE.le (α:=Int) 0 (zZ db n):=by
  intro n hn
  obtain ⟨j,hj,rfl⟩:=kD hn
  exact h1 j hj hj
 have hfr:LE.le (α:=Int) 0 (zZ db s.2.2.1):=hA _ (by unfold ea; split <;> simp)
 have hE:nt db s.2.2.1 s.2.2.2.2.2.2.2.2.2.2.2.2 s.2.1=if (decide (GE.ge (α:=Int) (zZ db s.2.1) 0)||s.2.2.1==s.2.2.2.2.2.2.2.2.2.2.2.2)=true then 7 else if dL db (ea s.2.2.1 s.2.2.2.2.2.2.2.2.2.2.2.2)=true then 10 else 0:=by
  unfold nt
  rw [if_pos hA]
 have hl12:=hB.few
 obtain ⟨f1,f2⟩:=Hi (db:=db) (ns:=ea s.2.2.1 s.2.2.2.2.2.2.2.2.2.2.2.2) (by omega) (fun x hx=>(hdb x hx).short.rf |> fun h=>by omega) (by omega)
 have hT:kB (aC db s.2.2.1):=sk hB hfr
 have t8:=hT.n8
 have hnames:=hw.sh.names.1
 have hor:(bif decide (GE.ge (α:=Int) (zZ db s.2.1) 0) then true else s.2.2.1==s.2.2.2.2.2.2.2.2.2.2.2.2)=(decide (GE.ge (α:=Int) (zZ db s.2.1) 0)||s.2.2.1==s.2.2.2.2.2.2.2.2.2.2.2.2):=by cases decide (GE.ge (α:=Int) (zZ db s.2.1) 0) <;> rfl
 rw [hE]
 by_cases c7:(decide (GE.ge (α:=Int) (zZ db s.2.1) 0)||s.2.2.1==s.2.2.2.2.2.2.2.2.2.2.2.2)=true
 ·rw [if_pos c7,if_neg (by decide)]
  refine ⟨rN 7,_,h2.ends (ah.of ?_),by omega,dz 7⟩
  simp only [cU,rE,Tr.val,zH,dX,hor,c7,if_true,zV,if_false]
 rw [if_neg c7]
 have c7:(decide (GE.ge (α:=Int) (zZ db s.2.1) 0)||s.2.2.1==s.2.2.2.2.2.2.2.2.2.2.2.2)=false:=by simpa using c7
 by_cases c10:dL db (ea s.2.2.1 s.2.2.2.2.2.2.2.2.2.2.2.2)=true
 ·rw [if_pos c10,if_neg (by decide)]
  refine ⟨rN 10,_,h2.ends (ah.of ?_),by omega,dz 10⟩
  simp only [cU,rE,Tr.val,zH,dX,hor,c7,f1,f2,c10,if_true,zV,if_false]
 rw [if_neg c10,if_pos rfl]
 have c10:dL db (ea s.2.2.1 s.2.2.2.2.2.2.2.2.2.2.2.2)=false:=by simpa using c10
 obtain ⟨p1,p2⟩:=Hh (t:=aC db s.2.2.1) (names:=s.2.2.2.1) (by omega) (by omega)
 have p1:mE (getD db (toNat (zZ db s.2.2.1)) (zi zj)).1.2.1 s.2.2.2.1=true:=p1
 have p2:pj (getD db (toNat (zZ db s.2.2.1)) (zi zj)).1.2.1 s.2.2.2.1=(if iy (aC db s.2.2.1) s.2.2.2.1=0 then ky (aC db s.2.2.1) s.2.2.2.1 else [],iy (aC db s.2.2.1) s.2.2.2.1):=p2
 unfold DD
 by_cases o1:(s.1==[99,111,112,121])=true
 ·rw [if_pos o1]
  unfold Bw
  by_cases hp:iy (aC db s.2.2.1) s.2.2.2.1=0
  ·rw [if_pos hp]
   obtain ⟨q1,q2⟩:=pg hp
   obtain ⟨r,k,e1,e2,e3⟩:=zgx hs z1 (t:=aC db s.2.2.1) (a:=s.1) (b:=s.2.2.1) (c:=s.2.2.2.2.2.2.2.2.2.2.2.2) (d:=s.2.1) (l:=ky (aC db s.2.2.1) s.2.2.2.1) (on:=0) (by unfold ky; rw [dI]; omega) q2 (by
    intro x hx
    obtain ⟨n,hn,rfl⟩:=fQ.1 hx
    exact o8 (q1 n hn))
   rw [Nw]
   refine ⟨r,_,h2.ends ((ap.of ?_).ends e1),by omega,e3⟩
   rw [if_pos hp,hp] at p2
   simp only [cU,rE,Tr.val,zH,dX,hor,c7,f1,f2,c10,du hfr,o1,p1,p2,if_true,zV,if_false,vo]
   rfl
  ·rw [if_neg hp,wA hp]
   refine ⟨_,_,h2.ends (ah.of ?_),by omega,dz _⟩
   rw [if_neg hp] at p2
   have hp':(iy (aC db s.2.2.1) s.2.2.2.1 != 0)=true:=by simpa using hp
   simp only [cU,rE,Tr.val,zH,dX,hor,c7,f1,f2,c10,du hfr,o1,p1,p2,hp',if_true,zV,if_false]
 rw [if_neg o1]
 by_cases o2:(s.1==[106,111,105,110])=true
 ·rw [if_pos o2]
  have hr:=m2 (bB o2)
  have hne:s.2.2.2.2.2.2.2.2.2.2.2.2≠[]:=by intro k; rw [k] at hr; cases hr
  have hwt:kq db s.2.2.2.2.2.2.2.2.2.2.2.2=aC db s.2.2.2.2.2.2.2.2.2.2.2.2:=by unfold kq; rw [if_neg hne]
  have hrl:LE.le (α:=Int) 0 (zZ db s.2.2.2.2.2.2.2.2.2.2.2.2):=hA _ (by unfold ea; rw [if_neg (by simpa using hne)]; simp)
  have u8:=(sk hB hrl).n8
  have hrf:(aC db s.2.2.1).2.2.2.2.1.length≤1000:=by have:=(hdb _ (sj hfr)).short.rf; unfold aC; omega
  have g1:dc (getD db (toNat (zZ db s.2.2.1)) (zi zj)).1.2.1 s.2.2.2.2.2.1=true:=iz (by show (aC db s.2.2.1).2.1.length≤_; omega)
  have g2:ef (getD db (toNat (zZ db s.2.2.1)) (zi zj)).1.2.1 s.2.2.2.2.2.1=ae (aC db s.2.2.1) s.2.2.2.2.2.1:=jI (by show (aC db s.2.2.1).2.1.length≤_; omega)
  rw [hwt]
  unfold j4
  by_cases h4:LT.lt (α:=Int) (ae (aC db s.2.2.1) s.2.2.2.2.2.1) 0
  ·rw [if_pos h4,wA (by decide)]
   refine ⟨rN 4,_,h2.ends (ah.of ?_),by omega,dz 4⟩
   simp only [cU,rE,Tr.val,zH,dX,hor,c7,f1,f2,c10,du hfr,du hrl,o1,o2,g1,g2,zu h4,if_true,zV,if_false]
  ·rw [if_neg h4]
   obtain ⟨r,k,e1,e2,e3⟩:=zgy hs z1 (t:=aC db s.2.2.1) (u:=aC db s.2.2.2.2.2.2.2.2.2.2.2.2) (a:=s.1) (b:=s.2.2.1) (c:=s.2.2.2.2.2.2.2.2.2.2.2.2) (d:=s.2.1) (k0:=0) (on:=ae (aC db s.2.2.1) s.2.2.2.2.2.1) (by omega) (by omega) hrf
   refine ⟨r,_,h2.ends ((ap.of ?_).ends e1),by omega,e3⟩
   simp only [cU,rE,Tr.val,zH,dX,hor,c7,f1,f2,c10,du hfr,du hrl,o1,o2,g1,g2,ao h4,if_true,zV,if_false]
   rfl
 rw [if_neg o2]
 have o3:(s.1==[103,114,111,117,112])=true:=by
  rcases hm with k | k | k
  ·rw [k] at o1; exact absurd rfl o1
  ·rw [k] at o2; exact absurd rfl o2
  ·rw [k]; rfl
 rw [if_pos o3]
 have hl2:=m3 (bB o3)
 unfold BE
 by_cases hp:iy (aC db s.2.2.1) s.2.2.2.1=0
 ·rw [if_pos hp]
  obtain ⟨q1,q2⟩:=pg hp
  rw [if_pos hp,hp] at p2
  obtain ⟨n0,n1,hn⟩:∃ n0 n1,s.2.2.2.1=[n0,n1]:=by
   match s.2.2.2.1,hl2 with
   | [a,b],_=>exact ⟨a,b,rfl⟩
  have i0:zR (ae (aC db s.2.2.1) n0) (length (getD db (toNat (zZ db s.2.2.1)) (zi zj)).1.2.1)=true:=o8 (q1 n0 (by rw [hn]; simp))
  have i1:zR (ae (aC db s.2.2.1) n1) (length (getD db (toNat (zZ db s.2.2.1)) (zi zj)).1.2.1)=true:=o8 (q1 n1 (by rw [hn]; simp))
  have x0:(ky (aC db s.2.2.1) s.2.2.2.1).getD (toNat 0) (zi zf)=ae (aC db s.2.2.1) n0:=by rw [hn]; rfl
  have x1:(ky (aC db s.2.2.1) s.2.2.2.1).getD (toNat 1) (zi zf)=ae (aC db s.2.2.1) n1:=by rw [hn]; rfl
  have xl:(ky (aC db s.2.2.1) s.2.2.2.1).length=2:=by rw [hn]; rfl
  have b0:zR 0 2=true:=rfl
  have b1:zR 1 2=true:=rfl
  have y1:(eZ (aC db s.2.2.1) s.2.2.2.1).getD 1 (zi zh)=getD (getD db (toNat (zZ db s.2.2.1)) (zi zj)).1.2.1 (toNat (ae (aC db s.2.2.1) n1)) (zi zh):=by rw [hn]; rfl
  have y0:(eZ (aC db s.2.2.1) s.2.2.2.1).getD 0 (zi zh)=getD (getD db (toNat (zZ db s.2.2.1)) (zi zj)).1.2.1 (toNat (ae (aC db s.2.2.1) n0)) (zi zh):=by rw [hn]; rfl
  unfold Ea
  rw [y1,y0]
  by_cases h5:(getD (getD db (toNat (zZ db s.2.2.1)) (zi zj)).1.2.1 (toNat (ae (aC db s.2.2.1) n1)) (zi zh)).2.1=(1:Int)
  ·rw [if_pos h5]
   obtain ⟨r,e1,e3⟩:=zcX hs z1 (s.1,s.2.2.1,s.2.2.2.2.2.2.2.2.2.2.2.2,s.2.1,[((getD (getD db (toNat (zZ db s.2.2.1)) (zi zj)).1.2.1 (toNat (ae (aC db s.2.2.1) n0)) (zi zh)).1,(getD (getD db (toNat (zZ db s.2.2.1)) (zi zj)).1.2.1 (toNat (ae (aC db s.2.2.1) n0)) (zi zh)).2.1,true),((getD (getD db (toNat (zZ db s.2.2.1)) (zi zj)).1.2.1 (toNat (ae (aC db s.2.2.1) n1)) (zi zh)).1,(getD (getD db (toNat (zZ db s.2.2.1)) (zi zj)).1.2.1 (toNat (ae (aC db s.2.2.1) n1)) (zi zh)).2.1,false)],0,s.2.2.2.2.2.2.2.2.1,ky (aC db s.2.2.1) s.2.2.2.1,0,()) rfl (by simp)
   have h5':((getD (getD db (toNat (zZ db s.2.2.1)) (zi zj)).1.2.1 (toNat (ae (aC db s.2.2.1) n1)) (zi zh)).2.1 != 1)=false:=by rw [h5]; rfl
   refine ⟨r,_,h2.ends ((ap.of ?_).ends e1),by simp; omega,e3⟩
   simp only [cU,rE,Tr.val,zH,dX,hor,c7,f1,f2,c10,du hfr,o1,o2,o3,p1,p2,x0,x1,xl,b0,b1,i0,i1,h5',if_true,zV,if_false,vo]
   rfl
  ·rw [if_neg h5,wA (by decide)]
   have h5':((getD (getD db (toNat (zZ db s.2.2.1)) (zi zj)).1.2.1 (toNat (ae (aC db s.2.2.1) n1)) (zi zh)).2.1 != 1)=true:=by simpa using h5
   refine ⟨rN 5,_,h2.ends (ah.of ?_),by omega,dz 5⟩
   simp only [cU,rE,Tr.val,zH,dX,hor,c7,f1,f2,c10,du hfr,o1,o2,o3,p1,p2,x0,x1,xl,b0,b1,i0,i1,h5',if_true,zV,if_false,vo]
 ·rw [if_neg hp,wA hp]
  refine ⟨_,_,h2.ends (ah.of ?_),by omega,dz _⟩
  rw [if_neg hp] at p2
  have hp':(iy (aC db s.2.2.1) s.2.2.2.1 != 0)=true:=by simpa using hp
  simp only [cU,rE,Tr.val,zH,dX,hor,c7,f1,f2,c10,du hfr,o1,o2,o3,p1,p2,hp',if_true,zV,if_false]

theorem PY {db:List (Sem zj)} {s:Sem zk} (hdb:∀ x∈db,RG x) (hw:nm s):Ac db s=some ((cB db s).2,(cB db s).1,()):=by
 have hsh:∀ x∈db,mg x:=fun x hx=>(hdb x hx).short
 obtain ⟨e,c1,c2⟩:=ES hdb
 have k1:Ax db=true:=by unfold Ax; rw [c1]; rfl
 have k2:ER db=e:=by unfold ER; rw [c1]; rfl
 have one:(Md db s).val=some (.inr (rN 1))→cB db s=(1,jl)→Ac db s=some ((cB db s).2,(cB db s).1,()):=by
  intro h h2
  rw [h2]
  exact zY h (dz 1)
 have hS:∀ p:Sem aB,iT p=true∧j8 p=ea p.2.1 p.2.2.1:=fun p=>⟨qv p,sM p⟩
 by_cases hm:kK s.1
 ·obtain ⟨t,h⟩:=Jp hw hm
  have t1:gT s=true:=by unfold gT; rw [h]; rfl
  have t2:ke s=(t,dK s):=by unfold ke; rw [h]; rfl
  have hop:(bif !s.1==[99,111,112,121] then bif !s.1==[106,111,105,110] then !s.1==[103,114,111,117,112] else false else false)=false:=by
   rcases hm with k | k | k <;> rw [k] <;> rfl
  by_cases hst:dK s=true
  ·by_cases he:e=0
   ·have hB:=c2.1 he
    have hb:=(oT hsh).2 hB
    obtain ⟨r,k,e1,e2,e3⟩:=of7 hB hw hst hm hb hdb ([],[],[],[],0,[],0,0,[],[],0,())
    refine zD ?_ e1 (by omega) e3
    simp only [Md,rE,Tr.val,zn,Prod.eta,t1,t2,k1,k2,hst,he,hop,hS,ck,aq,if_true,vo,zV,if_false]
    rfl
   ·refine one ?_ ?_
    ·have he':(e != 0)=true:=by simpa using he
     simp only [Md,rE,Tr.val,zn,Prod.eta,t1,t2,k1,k2,hst,he',ck,aq,zU,if_true]
    ·unfold cB
     rw [if_neg]
     rintro ⟨_,_,h⟩
     exact he (c2.2 ((oT hsh).1 h))
  ·have hst':dK s=false:=by simpa using hst
   refine one ?_ ?_
   ·simp only [Md,rE,Tr.val,zn,Prod.eta,t1,t2,hst',dn,zU,if_true]
   ·unfold cB
    rw [if_neg]
    rintro ⟨_,h,_⟩
    exact hst h
 ·obtain ⟨t,b,h⟩:=Jo hw
  have t1:gT s=true:=by unfold gT; rw [h]; rfl
  have t2:ke s=(t,b):=by unfold ke; rw [h]; rfl
  have hop:(bif !s.1==[99,111,112,121] then bif !s.1==[106,111,105,110] then !s.1==[103,114,111,117,112] else false else false)=true:=by
   have x1:(s.1==[99,111,112,121])=false:=by simpa using fun k=>hm (.inl k)
   have x2:(s.1==[106,111,105,110])=false:=by simpa using fun k=>hm (.inr (.inl k))
   have x3:(s.1==[103,114,111,117,112])=false:=by simpa using fun k=>hm (.inr (.inr k))
   rw [x1,x2,x3]; rfl
  refine one ?_ ?_
  ·simp only [Md,rE,Tr.val,zn,Prod.eta,t1,t2,k1,k2,hop,if_true]
   cases b <;> cases (e != 0) <;> rfl
  ·unfold cB
   rw [if_neg fun h=>hm h.1]

noncomputable def i5p (x0:Sem zj.sl) (x1:Sem zk) (x2:Sem zk):Tr (Empty ⊕ aF):=
 let a0:=(x1.1,x1.2.1,x1.2.2.1,x1.2.2.2.1,x1.2.2.2.2.1,x1.2.2.2.2.2.1,x1.2.2.2.2.2.2.1,x1.2.2.2.2.2.2.2.1,zm x1.2.2.2.2.2.2.2.2.1,x1.2.2.2.2.2.2.2.2.2.1,x1.2.2.2.2.2.2.2.2.2.2.1,zm x1.2.2.2.2.2.2.2.2.2.2.2.1,x1.2.2.2.2.2.2.2.2.2.2.2.2)
 let a1:=(x2.1,x2.2.1,x2.2.2.1,x2.2.2.2.1,x2.2.2.2.2.1,x2.2.2.2.2.2.1,x2.2.2.2.2.2.2.1,x2.2.2.2.2.2.2.2.1,zm x2.2.2.2.2.2.2.2.2.1,x2.2.2.2.2.2.2.2.2.2.1,x2.2.2.2.2.2.2.2.2.2.2.1,zm x2.2.2.2.2.2.2.2.2.2.2.2.1,x2.2.2.2.2.2.2.2.2.2.2.2.2)
 let a2:=CV a0
 let a3:=(a2.1,a2.2.1,a2.2.2.1,a2.2.2.2.1,a2.2.2.2.2.1,a2.2.2.2.2.2.1,a2.2.2.2.2.2.2.1,a2.2.2.2.2.2.2.2.1,zm a2.2.2.2.2.2.2.2.2.1,a2.2.2.2.2.2.2.2.2.2.1,a2.2.2.2.2.2.2.2.2.2.2.1,zm a2.2.2.2.2.2.2.2.2.2.2.2.1,a2.2.2.2.2.2.2.2.2.2.2.2.2)
 let a4:=YE (vS x0) a3
 let a5:=(a4.1.2.2.2.1.1,a4.1.2.2.2.1.2.1,a4.1.2.2.2.1.2.2.1,a4.1.2.2.2.1.2.2.2.1,a4.1.2.2.2.1.2.2.2.2.1,zm a4.1.2.2.2.1.2.2.2.2.2)
 let a6:=(a4.1.1,a4.1.2.1,a4.1.2.2.1,a5,a4.1.2.2.2.2)
 let a7:=PX (vS x0) a3
 let a8:=(a7.1.1,a7.1.2.1,a7.1.2.2.1,(a7.1.2.2.2.1.1,a7.1.2.2.2.1.2.1,a7.1.2.2.2.1.2.2.1,a7.1.2.2.2.1.2.2.2.1,a7.1.2.2.2.1.2.2.2.2.1,zm a7.1.2.2.2.1.2.2.2.2.2),a7.1.2.2.2.2)
 let a9:=CV a1
 let a10:=(a9.1,a9.2.1,a9.2.2.1,a9.2.2.2.1,a9.2.2.2.2.1,a9.2.2.2.2.2.1,a9.2.2.2.2.2.2.1,a9.2.2.2.2.2.2.2.1,zm a9.2.2.2.2.2.2.2.2.1,a9.2.2.2.2.2.2.2.2.2.1,a9.2.2.2.2.2.2.2.2.2.2.1,zm a9.2.2.2.2.2.2.2.2.2.2.2.1,a9.2.2.2.2.2.2.2.2.2.2.2.2)
 let a11:=YE (vS x0) a10
 let a12:=(a11.1.1,a11.1.2.1,a11.1.2.2.1,(a11.1.2.2.2.1.1,a11.1.2.2.2.1.2.1,a11.1.2.2.2.1.2.2.1,a11.1.2.2.2.1.2.2.2.1,a11.1.2.2.2.1.2.2.2.2.1,zm a11.1.2.2.2.1.2.2.2.2.2),a11.1.2.2.2.2)
 let a13:=iR a6
 let a14:=(↑(length a13):Int)
 let a15:=j8 a6
 let a16:=(↑(length a15):Int)
 let a17:=a14 != a16
 let a18 := !getD a13 (toNat 0) (zi Sh.str)==getD a15 (toNat 0) (zi Sh.str)
 let a19:=IntKind.i64.wrap (a14 - 1)
 let a20:=IntKind.i64.wrap (a16 - 1)
 let a21:=a7.2 != 0
 let a22:=eD a5
 Tr.chk (IW x0)
 (Tr.chk (uE a0)
  (Tr.chk (uE a1) (Tr.chk (Mq (vS x0) a3) (Tr.chk (Jb (vS x0) a3) (Tr.chk (lJ a6 a8) (Tr.br (bif !pi a6 a8 then true else a4.2 != a7.2) (Tr.re (AV.kb false) []) (Tr.chk (Mq (vS x0) a10) (Tr.chk (I7 a6 a12) (Tr.chk (lJ a6 a12) (Tr.br (!Hd a6 a12==pi a6 a12) (Tr.re (AV.kb false) []) (Tr.chk (iT a6) (Tr.chk (bif a17 then true else
  zR 0 (length a13)&&(zR 0 (length a15)&&bif a18 then true else zR a19 (length a13)&&zR a20 (length a15))) (Tr.br (bif a17 then true else bif a18 then true else !getD a13 a19.toNat (zi Sh.str)==getD a15 a20.toNat (zi Sh.str)) (Tr.re (AV.kb false) []) (Tr.chk (bif a21 then DF else bif a22 then DF else true)
  (Tr.re (AV.bool (bif a21 then J5 else bif a22 then J5 else false)) [])))))))))))))))
noncomputable def O7 (x0:Sem zj.sl) (x1:Sem zk) (x2:Sem zk):=aA [Sh.bool] t0 100000000 (i5p x0 x1 x2)
noncomputable def Yv:=FT [zj.sl,zk,zk] [Sh.bool] fun x=>O7 x.1 x.2.1 x.2.2.1
theorem zaE:FK 5 Yv:=Ir.T1 (f:=Tryz.f5) (keep:=k0) (e:=e0)


def Yz (v:Sem zg):Prop:=LE.le (α:=Int) (-9223372036854775808) v.2.1∧LE.le (α:=Int) v.2.1 9223372036854775807
mutual
def MV:ze→Prop
 | .mk _ v _ l=>Yz v∧Dz l
def Dz:List ze→Prop
 | []=>True
 | e::r=>MV e∧Dz r
end
theorem Dz.mem:∀ {l:List ze},Dz l→∀ e∈l,MV e
 | [],_,e,h=>by simp at h
 | x::r,h,e,he=>by
  rw [Dz] at h
  rcases dQ.1 he with rfl | he
  ·exact h.1
  ·exact Dz.mem h.2 e he
theorem jN.app:∀ {a b:List ze},jN a→jN b→jN (a++b)
 | [],_,_,h=>h
 | x::r,b,h,hb=>by
  rw [jN] at h
  rw [List.cons_append,jN]
  exact ⟨h.1,h.2.app hb⟩

theorem Kk {g:Sem Sh.expr→Sem zf→Sem zf→Sem Sh.expr×Sem zf} {c:Sem Sh.expr→Sem zf→Sem zf→Bool} {i1:Int} {a0:zw} {a1 a2:Int} {a3 a4 b0:zw} {b1 b2:Int} {b3 b4 d0:zw} {d1 d2:Int} {d3 d4:zw} (hv:kr (d1,d2,d3)) (hs:d4.length≤1000000):
  ∀ (l:List (Sem Sh.expr)) (i n:Int) (acc:List (Sem Sh.expr)),(∀ x∈l,∀ m,mX (g x (IntKind.i64.wrap (i1 - 1)) m).1)→jN acc→mX (cr g c i1 a0 a1 a2 a3 a4 b0 b1 b2 b3 b4 d0 d1 d2 d3 d4 l i n acc).1
 | [],_,_,acc,_,ha=>by
  rw [cr,mX]; exact ⟨hv,hs,ha⟩
 | x::r,i,n,acc,hg,ha=>by
  rw [cr]
  split
  ·exact Kk hv hs r (i+1) _ _ (fun y hy m=>hg y (by simp [hy]) m) (ha.app (by rw [jN,jN]; exact ⟨hg x (by simp) n,trivial⟩))
  ·rw [mX]; exact ⟨hv,hs,ha⟩

theorem oH (k:Nat) (s:zw) (h:k≤1000):(List.take (toNat (k:Int) - toNat 0) (List.drop (toNat 0) s)).length≤1000000:=by
 simp; omega
theorem yZ {n k:Nat} (h:¬ decide ((n:Int) > (k:Int))=true) (hk:k≤1000):n≤1000000:=by
 have:¬ (n:Int) > (k:Int):=by simpa using h
 omega

theorem Km:∀ (N:Nat) (e:ze) (d n:Int),MV e→mX (kx N e d n).1
 | 0,_,_,_,_=>by
  show mX (.mk [] (0,0,[]) [] [])
  rw [mX,jN]
  exact ⟨fX,by simp,trivial⟩
 | N+1,.mk op v s l,d,n,h=>by
  rw [MV] at h
  obtain ⟨⟨h1,h2⟩,hl⟩:=h
  have hg:∀ x∈l,∀ (k m:Int),mX (kx N x k m).1:=fun x hx k m=>Km N x k m (hl.mem x hx)
  rw [kx]
  unfold GI
  have t45:=oH 45 v.2.2 (by omega)
  have t20:=oH 20 s (by omega)
  repeat' split
  all_goals refine Kk ?_ ?_ _ _ _ _ (fun x hx m=>hg x hx _ m) (by rw [jN]; trivial)
  all_goals first | exact ⟨h1,h2,t45⟩ | exact t20 | exact ⟨h1,h2,yZ (k:=45) (by assumption) (by omega)⟩ | exact yZ (k:=20) (by assumption) (by omega)

theorem wx {e:ze} (h:MV e):mX (cY e):=by
 unfold cY
 rw [ze.eta]
 exact Km 16 e 14 80 h

theorem HP (s:zw):(u4 s).length≤1000000:=by
 unfold u4
 split
 ·exact oH 20 s (by omega)
 ·exact yZ (k:=20) (by assumption) (by omega)
theorem rt:∀ (l:List (Sem zh)) (i:Int) (acc:List (Sem zh)),(acc.length:Int)≤i→acc.length≤9→(∀ c∈acc,length c.1≤1000000)→(ft l i acc).length≤9∧∀ c∈ft l i acc,length c.1≤1000000
 | [],_,_,_,h,ha=>⟨h,ha⟩
 | x :: r,i,acc,h0,h,ha=>by
  rw [ft]
  split
  ·rename_i hi
   simp only [aN] at hi
   split
   ·refine rt r (i+1) _ (by simp; omega) (by simp; omega) (fun c hc=>?_)
    rcases bK.1 hc with hc | hc
    ·exact ha c hc
    ·rw [cz] at hc
     rw [hc]
     exact oH 20 x.1 (by omega)
   ·refine rt r (i+1) _ (by simp; omega) (by simp; omega) (fun c hc=>?_)
    rcases bK.1 hc with hc | hc
    ·exact ha c hc
    ·rw [cz] at hc
     rw [hc]
     exact yZ (k:=20) (by assumption) (by omega)
  ·exact ⟨h,ha⟩
theorem u7 {a0 a1 a2 a3 a4 a5 a6 a7 a8 a9 b0 b1 b2 b3 b4 b5 b6} {d0:zw} {d1:List (Sem zh)} {d2:Int} {d3:zw} {d4 d5:Int} {d6 d7:zw} {d8:List (Sem Sh.expr)} {d9:List (Sem zf)} (hn:d0.length≤1000000) (hc:d1.length≤9∧∀ c∈d1,length c.1≤1000000) (hu:d9.length≤10) (he:mX (.mk d3 (d4,d5,d6) d7 d8)):
  ∀ (l:List (Sem zq)) (i:Int) (acc:List (Sem zq)),(acc.length:Int)≤i→acc.length≤10→(∀ f∈acc,length f.2≤1000000)→FB (jf a0 a1 a2 a3 a4 a5 a6 a7 a8 a9 b0 b1 b2 b3 b4 b5 b6 d0 d1 d2 d3 d4 d5 d6 d7 d8 d9 l i acc)
 | [],_,acc,_,h,ha=>by
  rw [jf]
  exact ⟨hn,hc.2,by have:=hc.1; show d1.length≤1000; omega,by show d9.length≤1000; omega,by show acc.length≤1000; omega,ha,he⟩
 | x::r,i,acc,h0,h,ha=>by
  rw [jf]
  split
  ·rename_i hi
   simp only [aN] at hi
   refine u7 hn hc hu he r (i+1) _ (by simp; omega) (by simp; omega) (fun f hf=>?_)
   rcases bK.1 hf with hf | hf
   ·exact ha f hf
   ·rw [cz] at hf
    rw [hf]
    exact HP x.2
  ·exact ⟨hn,hc.2,by have:=hc.1; show d1.length≤1000; omega,by show d9.length≤1000; omega,by show acc.length≤1000; omega,ha,he⟩
theorem Dq {a0 a1 a2 a4 a5 a6 a7 a8 a9 b0 b1 b2 b3 b4 b5 b6 a10 w} {d0:zw} {d1:List (Sem zh)} {d2:Int} {d3:zw} {d4 d5:Int} {d6 d7:zw} {d8:List (Sem Sh.expr)} (hn:d0.length≤1000000) (hc:d1.length≤9∧∀ c∈d1,length c.1≤1000000) (he:mX (.mk d3 (d4,d5,d6) d7 d8)):
  ∀ (l:List (Sem zf)) (i:Int) (acc:List (Sem zf)),(acc.length:Int)≤i→acc.length≤10→FB (ki a0 a1 a2 w a4 a5 a6 a7 a8 a9 a10 b0 b1 b2 b3 b4 b5 d0 d1 d2 d3 d4 d5 d6 d7 d8 b6 l i acc)
 | [],_,acc,_,h=>by
  rw [ki]
  exact u7 hn hc h he _ _ _ (by simp) (by simp) (by simp)
 | x::r,i,acc,h0,h=>by
  rw [ki]
  split
  ·rename_i hi
   simp only [aN] at hi
   exact Dq hn hc he r (i+1) _ (by simp; omega) (by simp; omega)
  ·exact u7 hn hc h he _ _ _ (by simp) (by simp) (by simp)
theorem SV {t:Sem zl} (h:MV t.2.2.2.2.2):FB (u6 t):=by
 unfold u6
 refine Dq (HP _) (rt _ _ _ (by simp) (by simp) (by simp)) ?_ _ _ _ (by simp) (by simp)
 rw [show ze.mk (ze.op (cY t.2.2.2.2.2)) ((ze.v (cY t.2.2.2.2.2)).1,(ze.v (cY t.2.2.2.2.2)).2.1,(ze.v (cY t.2.2.2.2.2)).2.2) (ze.s (cY t.2.2.2.2.2)) (ze.l (cY t.2.2.2.2.2))=cY t.2.2.2.2.2 from ze.eta _]
 exact wx h

theorem SY {v:Sem zg} (h:Yz v):kr (BN v):=by
 unfold BN
 split
 ·exact ⟨h.1,h.2,oH 60 v.2.2 (by omega)⟩
 ·exact ⟨h.1,h.2,yZ (k:=60) (by assumption) (by omega)⟩
theorem rx:∀ (l:List (Sem zg)) (i:Int) (acc:List (Sem zg)),(∀ v∈l,Yz v)→(∀ v∈acc,kr v)→∀ v∈iH l i acc,kr v
 | [],_,_,_,ha=>ha
 | x::r,i,acc,h,ha=>by
  rw [iH]
  split
  ·refine rx r (i+1) _ (fun v hv=>h v (by simp [hv])) (fun v hv=>?_)
   rcases bK.1 hv with hv | hv
   ·exact ha v hv
   ·rw [cz] at hv
    rw [hv]; exact SY (h x (by simp))
  ·exact ha

structure RgR (x:Sem zj):Prop where
 chk:MV x.1.2.2.2.2.2
 vals:∀ r∈x.2,∀ v∈(r:List (Sem zg)),Yz v
theorem O3 {x:Sem zj} (h:RgR x):RG (vR x):=by
 obtain ⟨rows,h1,h2⟩:=GZ x
 have h3:vR x=(u6 x.1,rows):=by unfold vR; rw [h2]; rfl
 rw [h3]
 refine ⟨SV h.chk,by show rows.length≤1000; have:=h1.1; omega,fun r hr v hv=>?_⟩
 obtain ⟨r0,hr0,rfl⟩:=h1.2 r hr
 exact rx r0 0 [] (h.vals r0 hr0) (by simp) v hv
open Go

abbrev U0:Nat→Prop:=fun _=>False
abbrev hD:Nat→Option Value:=fun _=>none

def MX (P:Program) (T:TypeId→Sh→Bool):List Field→Nat→Sh→Bool
 | [],_,_=>false
 | [f],off,s=>f.offset==off&&(T f.type s&&P.cellsOf f.type==s.size)
 | f::fs,off,.pr a b=>f.offset==off&&(T f.type a&&(P.cellsOf f.type==a.size&&MX P T fs (off+a.size) b))
 | _,_,_=>false

def o9 (P:Program) (t:TypeId):Bool:=match P.underlying t with
 | some .string=>P.cellsOf t==1
 | _=>false

def Kq (P:Program) (t e:TypeId):Bool:=match P.underlying t with
 | some (.slice u)=>u==e&&P.cellsOf t==1
 | _=>false

def MW (P:Program):Nat→TypeId→Sh→Bool
 | 0,_,_=>false
 | n+1,t,s=>match P.underlying t,s with
  | some .bool,.bool=>true
  | some (.int k),.int k'=>k==k'
  | some .string,.str=>true
  | some (.slice e),.sl s=>P.cellsOf e==s.size&&(decide (0 < s.size)&&MW P n e s)
  | some (.struct fs),.expr=>match fs.toList with
   | [a,b,c,d]=>P.cellsOf t==6&&(a.offset==0&&(b.offset==1&&(c.offset==4&&(d.offset==5&&(o9 P a.type&&(o9 P c.type&&(Kq P d.type t&&(P.cellsOf b.type==3&&MW P n b.type (.pr (.int .i64) (.pr (.int .i64) .str))))))))))
   | _=>false
  | some (.struct fs),.pr a b=>P.cellsOf t==(Sh.pr a b).size&&MX P (MW P n) fs.toList 0 (.pr a b)
  | _,_=>false

section
variable {H:Type} {enc:TypeId×Value→H} {P:Program} {w:World} {sp:Nat→Bool} {held:Bool}

def WO (w:World) (s:Sh) (cs:List Value):Prop:=∃ x:Sem s,dh w U0 hD (zp s x) cs∧∀ v∈cs,v.oneCell'=true

theorem cK {α β:Type} {f:α→Option β} {a:α} {l:List α} {r:List β} (h:(a::l).mapM f=some r):∃ y ys,f a=some y∧l.mapM f=some ys∧r=y::ys:=by
 rw [List.mapM_cons] at h
 cases hy:f a with
 | none=>rw [hy] at h; simp at h
 | some y=>
  cases hys:l.mapM f with
  | none=>rw [hy,hys] at h; simp at h
  | some ys=>
   rw [hy,hys] at h
   simp at h
   exact ⟨y,ys,rfl,rfl,h.symm⟩

theorem G6 {α β:Type} {f:α→Option β}:∀ {l:List α} {r:List β},l.mapM f=some r→∀ x∈l,∃ y,f x=some y
 | [],_,_,_,hx=>by simp at hx
 | a::l,r,h,x,hx=>by
  obtain ⟨y,ys,h1,h2,_⟩:=cK h
  rcases dQ.1 hx with rfl | hx
  ·exact ⟨y,h1⟩
  ·exact G6 h2 x hx

theorem yP {α β:Type} {f:α→Option β}:∀ {l:List α} {r:List β},l.mapM f=some r→r.length=l.length∧∀ (i:Nat) a,l[i]?=some a→f a=r[i]?
 | [],r,h=>by simp at h; subst h; simp
 | a::l,r,h=>by
  obtain ⟨y,ys,h1,h2,rfl⟩:=cK h
  obtain ⟨h3,h4⟩:=yP h2
  refine ⟨by simp [h3],fun i b hi=>?_⟩
  cases i with
  | zero=>simp at hi; subst hi; simpa using h1
  | succ i=>simpa using h4 i b (by simpa using hi)

theorem FU (a:Addr) (h:a.spot=none) (n:Nat):a.add n=⟨a.block,a.off+n,none⟩:=by
 obtain ⟨b,o,s⟩:=a
 simp only at h
 subst h
 unfold Addr.add
 split
 ·rename_i h; subst h; rfl
 ·rfl

theorem dh.take {cs:List AV} {vs:List Value} (h:dh w U0 hD cs vs) (n:Nat):dh w U0 hD (cs.take n) (vs.take n):=by
 refine ⟨by simp [h.len],fun j c v hc hv=>?_⟩
 rw [B5] at hc hv
 split at hc
 ·rename_i hj
  rw [if_pos hj] at hv
  exact h.rv j c v hc hv
 ·cases hc

theorem dh.appS {a b:List AV} {x y:List Value} (h:dh w U0 hD a x) (h':dh w U0 hD b y):dh w U0 hD (a++b) (x++y):=by
 refine ⟨by simp [h.len,h'.len],fun j c v hc hv=>?_⟩
 by_cases hj:j < a.length
 ·rw [kv hj] at hc
  rw [kv (by rw [← h.len]; exact hj)] at hv
  exact h.rv j c v hc hv
 ·rw [ml (by omega)] at hc
  rw [ml (by rw [← h.len]; omega),← h.len] at hv
  exact h'.rv _ c v hc hv

theorem dh.one {c:AV} {v:Value} (h:Rv w U0 hD c v):dh w U0 hD [c] [v]:=by
 refine ⟨rfl,fun j d u hd hu=>?_⟩
 cases j with
 | zero=>simp at hd hu; subst hd; subst hu; exact h
 | succ j=>simp at hd

theorem yu {fuel:Nat} {T:TypeId→Sh→Bool} (hT:∀ t s cs d ps,T t s=true→DataW.trod enc P w 0 sp held fuel t cs=some (d,ps)→WO w s cs) {cs:List Value}:
  ∀ (fl:List Field) (off:Nat) (s:Sh) xs,MX P T fl off s=true→(fl.mapM fun f=>DataW.trod enc P w 0 sp held fuel f.type ((cs.drop f.offset).take (P.cellsOf f.type)))=some xs→WO w s ((cs.drop off).take s.size)
 | [],_,_,_,h,_=>by simp [MX] at h
 | [f],off,s,xs,h,hm=>by
  simp only [MX,aV,bb] at h
  obtain ⟨h1,h2,h3⟩:=h
  obtain ⟨y,ys,hy,_,_⟩:=cK hm
  rw [h1,h3] at hy
  exact hT _ _ _ _ _ h2 hy
 | f::g::fs,off,.pr a b,xs,h,hm=>by
  simp only [MX,aV,bb] at h
  obtain ⟨h1,h2,h3,h4⟩:=h
  obtain ⟨y,ys,hy,hys,_⟩:=cK hm
  rw [h1,h3] at hy
  obtain ⟨x1,r1,o1⟩:=hT _ _ _ _ _ h2 hy
  obtain ⟨x2,r2,o2⟩:=yu hT (g::fs) (off+a.size) b ys h4 hys
  have hl1:((cs.drop off).take a.size).length=a.size:=by rw [← r1.len,ac]
  have hsplit:(cs.drop off).take (a.size+b.size)=(cs.drop off).take a.size++(cs.drop (off+a.size)).take b.size:=by
   rw [List.take_add,B9]
  refine ⟨(x1,x2),?_,?_⟩
  ·show dh w U0 hD (zp a x1++zp b x2) ((cs.drop off).take (a.size+b.size))
   rw [hsplit]
   exact r1.appS r2
  ·intro v hv
   have hv:v∈(cs.drop off).take (a.size+b.size):=hv
   rw [hsplit,bK] at hv
   exact hv.elim (o1 v) (o2 v)
 | _::_::_,_,.unit,_,h,_=>by simp [MX] at h
 | _::_::_,_,.bool,_,h,_=>by simp [MX] at h
 | _::_::_,_,.int _,_,h,_=>by simp [MX] at h
 | _::_::_,_,.str,_,h,_=>by simp [MX] at h
 | _::_::_,_,.sl _,_,h,_=>by simp [MX] at h
 | _::_::_,_,.expr,_,h,_=>by simp [MX] at h

theorem Dp {fuel:Nat} {t e:TypeId} {s:Sh} (ht:P.underlying t=some (.slice e)) (hc:P.cellsOf e=s.size) (hpos:0 < s.size)
  (hT:∀ cs d ps,DataW.trod enc P w 0 sp held fuel e cs=some (d,ps)→WO w s cs) {cs:List Value} {d:DataW H} {ps:List MemPlace} (h:DataW.trod enc P w 0 sp held (fuel+1) t cs=some (d,ps)):WO w (.sl s) cs:=by
 unfold DataW.trod at h
 rw [ht] at h
 split at h
 all_goals first
  | (rename_i hu; cases hu; done)
  | (rename_i hu _; cases hu; done)
  | (simp at h; done)
  | skip
 ·rename_i hu
  cases hu
  exact ⟨[],dh.one (.sl0 s none 0),by simp [Value.oneCell']⟩
 ·rename_i a len cap hu
  cases hu
  simp only [aK,true_and] at h
  split at h
  ·rename_i hcond
   rw [fO] at h
   obtain ⟨elems,he,_⟩:=h
   have hall:∀ i,∃ x:Sem s,i < len→∃ ci,w.cells? 0 (a.add (i * s.size)) s.size=some ci∧dh w U0 hD (zp s x) ci:=by
    intro i
    by_cases hi:i < len
    ·obtain ⟨y,hy⟩:=G6 he i (by simpa using hi)
     rw [fO] at hy
     obtain ⟨ci,h1,h2⟩:=hy
     obtain ⟨x,hx,_⟩:=hT ci y.1 y.2 h2
     rw [hc] at h1
     exact ⟨x,fun _=>⟨ci,h1,hx⟩⟩
    ·exact ⟨zi s,fun h=>(hi h).elim⟩
   obtain ⟨X,hX⟩:=Classical.axiomOfChoice hall
   have hmax:maxLen=zA:=rfl
   cases len with
   | zero=>exact ⟨[],dh.one (.sl0 s (some a) cap),by simp [Value.oneCell']⟩
   | succ len=>
    have hcell:∀ i,i < len+1→∃ ci,ci.length=s.size∧(∀ j,j < s.size→w.cell? ((a.add (i * s.size)).add j)=ci[j]?)∧dh w U0 hD (zp s (X i)) ci:=by
     intro i hi
     obtain ⟨ci,h1,h2⟩:=hX i hi
     unfold World.cells? at h1
     rw [if_pos (aK _)] at h1
     obtain ⟨h3,h4⟩:=yP h1
     refine ⟨ci,by simpa using h3,fun j hj=>?_,h2⟩
     exact h4 j j (by simp [hj])
    have hspot:a.spot=none:=by
     obtain ⟨ci,h1,h2,_⟩:=hcell 0 (by omega)
     have:=h2 0 hpos
     simp only [Nat.zero_mul,Addr.add,if_true] at this
     rw [zP (by omega)] at this
     unfold World.cell? at this
     split at this
     ·split at this
      ·cases this
      ·rename_i hs
       cases hsp:a.spot with
       | none=>rfl
       | some q=>rw [hsp] at hs; simp at hs
     ·cases this
    have hblk:a.block < w.heap.size:=by
     obtain ⟨ci,h1,h2,_⟩:=hcell 0 (by omega)
     have:=h2 0 hpos
     simp only [Nat.zero_mul,Addr.add,if_true] at this
     rw [zP (by omega)] at this
     have ha:a=⟨a.block,a.off,none⟩:=by rw [← hspot]
     rw [ha] at this
     exact DK this
    have hci:∀ i,∃ ci:List Value,i < len+1→ci.length=s.size∧(∀ j,j < s.size→w.cell? ⟨a.block,a.off+i * s.size+j,none⟩=ci[j]?)∧dh w U0 hD (zp s (X i)) ci:=by
     intro i
     by_cases hi:i < len+1
     ·obtain ⟨ci,h1,h2,h3⟩:=hcell i hi
      refine ⟨ci,fun _=>⟨h1,fun j hj=>?_,h3⟩⟩
      rw [← h2 j hj,FU a hspot,FU _ rfl]
     ·exact ⟨[],fun h=>(hi h).elim⟩
    obtain ⟨Cs,hCs⟩:=Classical.axiomOfChoice hci
    let l:List (Sem s):=(List.range (len+1)).map X
    have hl:l.length=len+1:=by simp [l]
    have hget:∀ i (hi:i < l.length),l[i]=X i:=by intro i hi; simp [l]
    refine ⟨l,dh.one ?_,by simp [Value.oneCell']⟩
    have ha:a=⟨a.block,a.off,none⟩:=by rw [← hspot]
    rw [ha,← hl]
    refine .sl s l a.block a.off cap (fun i j=>((Cs i)[j]?).getD undef) (by omega) (by omega) hblk (fun h=>h) ?_ ?_
    ·intro i j hi hj
     obtain ⟨h1,h2,_⟩:=hCs i (by omega)
     rw [h2 j hj,zP (by omega)]
     rfl
    ·intro i hi j c hc'
     obtain ⟨h1,_,h3⟩:=hCs i (by omega)
     rw [hget i hi] at hc'
     have hj:j < (Cs i).length:=by
      have:=(cn.1 hc').1
      rw [h3.len] at this
      exact this
     have:=h3.rv j c _ hc' (zP hj)
     rw [zP hj]
     exact this
  ·cases h

theorem Ff {fuel:Nat} {t:TypeId} (ht:P.underlying t=some .string) {cs:List Value} {d:DataW H} {ps:List MemPlace} (h:DataW.trod enc P w 0 sp held fuel t cs=some (d,ps)):WO w .str cs:=by
 cases fuel with
 | zero=>simp [DataW.trod] at h
 | succ fuel=>
  unfold DataW.trod at h
  rw [ht] at h
  split at h
  all_goals first
   | (rename_i hu; cases hu; done)
   | (rename_i hu _; cases hu; done)
   | (simp at h; done)
   | skip
  rename_i s hu
  split at h
  ·rename_i hs
   refine ⟨s.data.toList,dh.one ?_,by simp [Value.oneCell']⟩
   have h9:maxLen=zA:=rfl
   have h8:s.size=s.data.toList.length:=rfl
   exact .str s.data.toList (by omega)
  ·cases h

theorem yK {t:TypeId} (h:o9 P t=true):P.underlying t=some .string∧P.cellsOf t=1:=by
 unfold o9 at h
 split at h
 ·rename_i hu; exact ⟨hu,by simpa using h⟩
 ·cases h

theorem OH {t e:TypeId} (h:Kq P t e=true):P.underlying t=some (.slice e)∧P.cellsOf t=1:=by
 unfold Kq at h
 split at h
 ·rename_i u hu
  simp only [aV,bb] at h
  rw [← h.1]
  exact ⟨hu,h.2⟩
 ·cases h

theorem oI:∀ (fuel n:Nat) (t:TypeId) (s:Sh) (cs:List Value) (d:DataW H) (ps:List MemPlace),MW P n t s=true→DataW.trod enc P w 0 sp held fuel t cs=some (d,ps)→WO w s cs
 | 0,_,_,_,_,_,_,_,h=>by simp [DataW.trod] at h
 | fuel+1,0,_,_,_,_,_,hty,_=>by simp [MW] at hty
 | fuel+1,n+1,t,s,cs,d,ps,hty,h=>by
  have h0:=h
  unfold MW at hty
  split at hty
  ·rename_i hu
   unfold DataW.trod at h
   rw [hu] at h
   split at h
   all_goals first
    | (rename_i hu'; cases hu'; done)
    | (rename_i hu' _; cases hu'; done)
    | (simp at h; done)
    | skip
   exact ⟨_,dh.one (.bool _),by simp [Value.oneCell']⟩
  ·rename_i k k' hu
   have hk:k=k':=by simpa using hty
   subst hk
   unfold DataW.trod at h
   rw [hu] at h
   split at h
   all_goals first
    | (rename_i hu'; cases hu'; done)
    | (rename_i hu' _; cases hu'; done)
    | (simp at h; done)
    | skip
   rename_i k1 k2 m hu'
   cases hu'
   split at h
   ·rename_i hw
    obtain ⟨rfl,hw⟩:=hw
    simp only [Lit.wf,aV,aN] at hw
    exact ⟨m,dh.one (.int _ _ ⟨hw.1,hw.2⟩),by simp [Value.oneCell']⟩
   ·cases h
  ·rename_i hu
   exact Ff hu h
  ·rename_i e s hu
   simp only [aV,bb,aN] at hty
   exact Dp hu hty.1 hty.2.1 (fun cs d ps h=>oI fuel n e s cs d ps hty.2.2 h) h
  ·rename_i fs hu
   split at hty
   ·rename_i a b c d' hfs
    simp only [aV,bb] at hty
    obtain ⟨hsz,ha,hb,hc,hd,sa,sc,sd,zb,tb⟩:=hty
    obtain ⟨sa,za⟩:=yK sa
    obtain ⟨sc,zc⟩:=yK sc
    obtain ⟨sd,zd⟩:=OH sd
    unfold DataW.trod at h
    rw [hu] at h
    simp only at h
    split at h
    ·rename_i hlen
     rw [cW] at h
     obtain ⟨xs,hm,_⟩:=h
     rw [hfs] at hm
     obtain ⟨ya,r1,ya1,hm,_⟩:=cK hm
     obtain ⟨yb,r2,yb1,hm,_⟩:=cK hm
     obtain ⟨yc,r3,yc1,hm,_⟩:=cK hm
     obtain ⟨yd,r4,yd1,hm,_⟩:=cK hm
     rw [ha,za] at ya1
     rw [hb,zb] at yb1
     rw [hc,zc] at yc1
     rw [hd,zd] at yd1
     obtain ⟨xa,ga,oa⟩:=Ff sa ya1
     obtain ⟨xb,gb,ob⟩:=oI fuel n b.type _ _ _ _ tb yb1
     obtain ⟨xc,gc,oc⟩:=Ff sc yc1
     have hgd:WO w (.sl .expr) ((cs.drop 5).take 1):=by
      cases fuel with
      | zero=>simp [DataW.trod] at yd1
      | succ fuel=>
       refine Dp sd (by rw [hsz]; rfl) (by decide) (fun cs d ps h=>oI fuel (n+1) t .expr cs d ps ?_ h) yd1
       unfold MW
       rw [hu]
       simp only [hfs,aV,bb]
       refine ⟨hsz,ha,hb,hc,hd,?_,?_,?_,zb,tb⟩
       ·simp [o9,sa,za]
       ·simp [o9,sc,zc]
       ·simp [Kq,sd,zd]
     obtain ⟨xd,gd,od⟩:=hgd
     have hl6:cs.length=6:=by rw [hlen,hsz]
     have hcs:cs=(cs.drop 0).take 1++((cs.drop 1).take 3++((cs.drop 4).take 1++(cs.drop 5).take 1)):=by
      match cs,hl6 with
      | [v0,v1,v2,v3,v4,v5],_=>rfl
     refine ⟨ze.mk xa xb xc xd,?_,?_⟩
     ·have hr:=ga.appS (gb.appS (gc.appS gd))
      rw [← hcs] at hr
      exact hr
     ·intro v hv
      rw [hcs] at hv
      simp only [bK] at hv
      rcases hv with hv | hv | hv | hv
      ·exact oa v hv
      ·exact ob v hv
      ·exact oc v hv
      ·exact od v hv
    ·cases h
   ·cases hty
  ·rename_i fs a b hu
   simp only [aV,bb] at hty
   unfold DataW.trod at h
   rw [hu] at h
   simp only at h
   split at h
   ·rename_i hlen
    rw [cW] at h
    obtain ⟨xs,hm,_⟩:=h
    have:=yu (fun t s cs d ps h1 h2=>oI fuel n t s cs d ps h1 h2) fs.toList 0 (.pr a b) xs hty.2 hm
    rw [List.drop_zero,JX (by rw [hlen,hty.1]; exact bg _)] at this
    exact this
   ·cases h
  ·cases hty
termination_by fuel=>fuel

theorem JZ {n:Nat} {t:TypeId} {s:Sh} {v:Value} {d:DataW H} {ps:List MemPlace} (hty:MW P n t s=true) (h:DataW.Trod enc P w 0 sp held t v d ps) (hagg:(∃ cs,v=.agg cs)↔s.isAgg=true) (hsc:s.isAgg=false→v.cells = #[v]):∃ x:Sem s,Rv w U0 hD (zF s x) v:=by
 obtain ⟨fuel,h⟩:=h
 obtain ⟨x,hr,ho⟩:=oI fuel n t s _ d ps hty h
 refine ⟨x,?_⟩
 unfold zF
 cases hs:s.isAgg with
 | true=>
  obtain ⟨cs,rfl⟩:=hagg.2 hs
  simp only
  have:=Rv.agg (w:=w) (U:=U0) (ρ:=hD) (zp s x) cs.toList hr.len ho hr.rv
  simpa using this
 | false=>
  simp only
  rw [hsc hs] at hr
  have hlen:=hr.len
  match he:zp s x,hlen with
  | [c],_=>
   rw [he] at hr
   exact hr.rv 0 c v rfl rfl
end
open Go Go.RowKit Go.ChangeShapes

theorem Eg {W W':World} (hos:W'.os=W.os) (hout:W'.output=W.output) (h:∀ b,b < W.heap.size→W'.heap[b]?=W.heap[b]?) (may:MemPlace→Prop):W.keptBut W' may:=by
 refine ⟨hos,hout,fun i hi=>?_⟩
 rw [h i hi]
 cases W.heap[i]? with
 | none=>rfl
 | some o=>
  cases o with
  | cells c t fr=>exact ⟨rfl,rfl,rfl,fun _ _=>rfl⟩
  | map es clock=>exact .inr ⟨rfl,rfl⟩
  | _=>rfl

section
variable {H:Type} {enc:TypeId×Value→H} {P:Program}

theorem He {f:Func} {s:ChangeSpec} {fresh handsOn again:Bool} {W W':World} {args:Array Value} {v:Value} {ds gs:List (DataW H)} {before pa pv:List MemPlace}
  (hW:DataW.Whole enc P f.params.toList s.vars false W args.toList ds gs before)
  (hres:∀ (b:Nat) (sp:Nat→Bool) (hd:Bool),DataW.TrodAll enc P W' b sp hd f.resultTypes.toList (v.resultList f.resultTypes.size) (s.fn H (ds++gs)).results [])
  (hargs:∀ sp:Nat→Bool,(∀ p∈before,sp p.block=true)→DataW.TrodAll enc P W' 0 sp true f.params.toList args.toList (s.fn H (ds++gs)).args pa)
  (hvars:∀ sp:Nat→Bool,(∀ p∈before,sp p.block=true)→DataW.TrodVars enc P W' sp s.vars (s.fn H (ds++gs)).vars pv)
  (hps:before=pa++pv) (hk:W.keptBut W' (· ∈ before)) (hfz:∀ a:Addr,a.block < W.heap.size→W'.frozen? a=W.frozen? a)
  (hok:∀ (j:Nat) (t:TypeId) (r:Value),f.resultTypes[j]?=some t→(v.resultList f.resultTypes.size)[j]?=some r→Value.okWide P W' .any 0 t r):
  s.post enc P f false fresh handsOn again W args v W':=by
 have hold:∀ p∈before,(fun b=>decide (b < W.heap.size)) p.block=true:=fun p hp=>by simpa using hW.lt p hp
 have hlt:=hW.lt
 refine ⟨ds,gs,before,[],pa,pv,hW,hres _ _ _,hargs _ hold,hvars _ hold,World.keptBut_mono (fun p hp=>⟨hp,?_⟩) hk,fun _=>?_⟩
 ·rw [hps,bK] at hp
  exact Or.inr hp
 ·obtain ⟨_,_,_,_,_,hz,hn⟩:=hW
  refine ⟨hok,_,_,([]++pa)++pv,⟨[]++pa,pv,trodAll_append (hargs _ (fun _ _=>rfl)) (hres _ _ _),hvars _ (fun _ _=>rfl),rfl,?_,?_⟩,?_⟩
  ·intro b off hp
   have hp':MemPlace.cell b off∈before:=by rw [hps]; simpa using hp
   rw [hfz ⟨b,off,none⟩ (hlt _ hp')]
   exact hz b off hp'
  ·intro ha
   cases ha
  ·intro p hp _
   rw [hps]
   simpa using hp

theorem Mo {W:World} {r:Go.Reach} {b:Nat} {t:TypeId} {fs:Array Field} {v:Value} (ht:P.underlying t=some (.struct fs)) (h:Value.okWide P W r b t v):∃ cs,v=.agg cs:=by
 unfold Value.okWide at h
 rw [ht] at h
 obtain ⟨cs,rfl,_⟩:=h
 exact ⟨cs,rfl⟩

theorem Px {W:World} {r:Go.Reach} {b:Nat} {t e:TypeId} {v:Value} (ht:P.underlying t=some (.slice e)) (h:Value.okWide P W r b t v):∃ a n c,v=.slice a n c:=by
 unfold Value.okWide at h
 rw [ht] at h
 simp only at h
 unfold Cell.okWide at h
 rw [ht] at h
 unfold Cell.ok at h
 rw [ht] at h
 cases v <;> simp at h
 exact ⟨_,_,_,rfl⟩

theorem yE {W:World} {r:Go.Reach} {b n:Nat} {t:TypeId} {fs:Array Field} {s:Sh} {v:Value} {d:DataW H} {ps:List MemPlace} (hty:MW P n t s=true) (hs:s.isAgg=true) (ht:P.underlying t=some (.struct fs)) (hok:Value.okWide P W r b t v)
  (h:DataW.Trod enc P W 0 (fun _=>true) true t v d ps):∃ x:Sem s,Rv W U0 hD (zF s x) v:=by
 refine JZ hty h ⟨fun _=>hs,fun _=>Mo ht hok⟩ (fun h'=>?_)
 rw [hs] at h'; cases h'
theorem Mc {W:World} {r:Go.Reach} {b n:Nat} {t e:TypeId} {s:Sh} {v:Value} {d:DataW H} {ps:List MemPlace} (hty:MW P n t (.sl s)=true) (ht:P.underlying t=some (.slice e)) (hok:Value.okWide P W r b t v)
  (h:DataW.Trod enc P W 0 (fun _=>true) true t v d ps):∃ x:List (Sem s),Rv W U0 hD (.sl s x) v:=by
 obtain ⟨a,m,c,rfl⟩:=Px ht hok
 exact JZ (s:=.sl s) hty h ⟨(fun ⟨_,hh⟩=>(by cases hh)),(fun hh=>(by cases hh))⟩ (fun _=>rfl)
theorem Ig {gl:Nat→AV} {k:FuncId} {F:zT} (hF:nl P gl k F) {W:World} {kF:List AV} {args:Array Value} (hgl:Bo gl W U0) (hr:dh W U0 hD kF args.toList) (hv:(F kF (fun _=>.dead) 0).val=some { val:=.bool true }) (hid:AV.idsL kF=[]):
  Calls P k args W fun e W'=>e=.returned (.bool true)∧kS W W'∧∀ b,b < W.heap.size→W'.heap[b]?=W.heap[b]?:=by
 have:=(hF.calls W U0 hD (fun _=>.dead) 0 kF args.toList _ [] hv hr (fun _ h=>h.elim) hgl ⟨by simp,by simp⟩ (by rw [hid]; simp) (by simp) (by simp)).1
 rw [show args.toList.toArray=args by simp] at this
 refine this.mono ?_
 rintro e w' ⟨v,U',ρ',rfl,hef⟩
 have hv':=hef.val
 cases hv'
 exact ⟨rfl,hef.ext,fun b hb=>hef.same b hb (by simp)⟩
end
open Go Go.Proofs Go.RowKit Go.ChangeShapes Go.WideShapes Go.ChangeAt Go.Proofs.YtfgnbipebgibeaaGreatDoor

theorem G0 {P:Program} {w:World}:∀ {l:List (String×DataW Unit)} {ps:List MemPlace},DataW.LaidVars P w l ps→∀ n d,(n,d)∈l→
  ∃ g t cs fuel p,P.globalNamed n=some g∧(P.globals[g]?).map (·.type)=some t∧w.var? P n=some cs∧DataW.trod (fun _=>()) P w 0 (fun _=>true) false fuel t cs.toList=some (d,p)
 | [],_,_,_,_,h=>by simp at h
 | (n0,d0)::r,ps,h,n,d,hm=>by
  obtain ⟨g,t,cs,fuel,p,q,h1,h2,h3,h4,h5,_⟩:=h
  rcases dQ.1 hm with e | hm
  ·cases e
   exact ⟨g,t,cs,fuel,p,h1,h2,h3,h4⟩
  ·exact G0 h5 n d hm

theorem Eh {P:Program} {l:List (String×DataW Unit)} {w:World} (hf:(l.filter fun x=>x.2.handleName?.isSome).isEmpty=true) (h:laidMetH P l w):laidMet P l w:=by
 unfold laidMetH at h
 split at h
 ·exact h
 ·rename_i a b hab
  rw [hab] at hf
  simp at hf

theorem oJ {H:Type} {enc:TypeId×Value→H} {P:Program} {w:World} {base:Nat} {sp:Nat→Bool} {held:Bool} {fuel:Nat} {t:TypeId} (ht:P.underlying t=some .string) {cs:List Value} {b:List UInt8} {p:List MemPlace}
  (h:DataW.trod enc P w base sp held fuel t cs=some (.lit (.string b),p)):cs=[.string ⟨b.toArray⟩]:=by
 cases fuel with
 | zero=>simp [DataW.trod] at h
 | succ fuel=>
  unfold DataW.trod at h
  rw [ht] at h
  split at h
  all_goals first
   | (rename_i hu; cases hu; done)
   | (rename_i hu _; cases hu; done)
   | (simp at h; done)
   | skip
  rename_i s hu
  split at h
  ·simp only [bz,ba,DataW.lit.injEq,Lit.string.injEq] at h
   rw [← h.1]
  ·cases h

theorem Qw {H:Type} {enc:TypeId×Value→H} {P:Program} {w:World} {base:Nat} {sp:Nat→Bool} {held:Bool} {fuel:Nat} {t:TypeId} (ht:P.underlying t=some (.int .u64)) {cs:List Value} {z:Int} {p:List MemPlace}
  (h:DataW.trod enc P w base sp held fuel t cs=some (.lit (.int .u64 z),p)):cs=[.int .u64 z]:=by
 cases fuel with
 | zero=>simp [DataW.trod] at h
 | succ fuel=>
  unfold DataW.trod at h
  rw [ht] at h
  split at h
  all_goals first
   | (rename_i hu; cases hu; done)
   | (rename_i hu _; cases hu; done)
   | (simp at h; done)
   | skip
  all_goals (try split at h)
  all_goals first
   | (cases h; done)
   | (simp at h; done)
   | skip
  all_goals simp_all

theorem Cb {W:World} {l:List (String×DataW Unit)} (h:laidMet Tryz.prog l W) {name:String} {g:Nat} {t e:TypeId} {len:Nat} {ds:List (DataW Unit)} (hm:(name,DataW.agg ds)∈l)
  (hg:Tryz.prog.globalNamed name=some g) (ht:(Tryz.prog.globals[g]?).map (·.type)=some t) (hu:Tryz.prog.underlying t=some (.array len e)) (hc:Tryz.prog.cellsOf e=1):
  ∃ cs T fr,W.heap[g]?=some (.cells cs T fr)∧∀ (j:Nat) d,ds[j]?=some d→∃ fuel p,DataW.trod (fun _=>()) Tryz.prog W 0 (fun _=>true) false fuel e ((cs.toList.drop j).take 1)=some (d,p):=by
 obtain ⟨ps,hL,_,_⟩:=h
 obtain ⟨g',t',cs,fuel,p,h1,h2,h3,h4⟩:=G0 hL name _ hm
 rw [hg] at h1
 cases h1
 rw [ht] at h2
 cases h2
 have hvar:∃ T fr,W.heap[g]?=some (.cells cs T fr):=by
  unfold World.var? at h3
  rw [hg] at h3
  simp only [Option.bind_some] at h3
  split at h3
  ·rename_i c T fr hh
   cases h3
   exact ⟨T,fr,hh⟩
  ·cases h3
 obtain ⟨T,fr,hblk⟩:=hvar
 refine ⟨cs,T,fr,hblk,?_⟩
 cases fuel with
 | zero=>simp [DataW.trod] at h4
 | succ fuel=>
  unfold DataW.trod at h4
  rw [hu] at h4
  simp only at h4
  split at h4
  ·rw [cW] at h4
   obtain ⟨xs,hm',hx⟩:=h4
   simp only [ba,DataW.agg.injEq] at hx
   obtain ⟨hl,hg'⟩:=yP hm'
   intro j d hj
   rw [← hx.1,dP,cW] at hj
   obtain ⟨⟨d',p'⟩,hj,rfl⟩:=hj
   have hjl:j < xs.length:=(cn.1 hj).1
   have hr:(List.range len)[j]?=some j:=by
    rw [B4]
    rw [hl,List.length_range] at hjl
    exact hjl
   have:=hg' j j hr
   rw [hj,hc,Nat.mul_one] at this
   exact ⟨fuel,p',this⟩
  ·cases h4

theorem Lj {cs:Array Value} {j:Nat} {v:Value} (h:(cs.toList.drop j).take 1=[v]):cs[j]?=some v:=by
 have:=congrArg (·[0]?) h
 simp only [B5,rO] at this
 simpa using this

theorem gl0 {W:World} {l:List (String×DataW Unit)} (h:laidMet Tryz.prog l W) (hm:("caddis/stmt.types",Rows.laid_caddis_stmt_types)∈l):Rv W U0 hD (.eptr [.str [73,78,84],.str [84,69,88,84],.str [66,79,79,76]] 0) (.pointer (some ⟨0,0,none⟩)):=by
 obtain ⟨cs,T,fr,hb,hd⟩:=Cb h (g:=0) (t:=233) (e:=9) (len:=3) hm (by kernel_rfl) (by kernel_rfl) (by kernel_rfl) (by kernel_rfl)
 have hs9:Tryz.prog.underlying 9=some .string:=by kernel_rfl
 have hcell:∀ j,W.cell? ⟨0,j,none⟩=cs[j]?:=by
  intro j
  unfold World.cell?
  rw [hb]
  rfl
 obtain ⟨_,_,g0⟩:=hd 0 _ rfl
 obtain ⟨_,_,g1⟩:=hd 1 _ rfl
 obtain ⟨_,_,g2⟩:=hd 2 _ rfl
 have w0:=Lj (oJ hs9 g0)
 have w1:=Lj (oJ hs9 g1)
 have w2:=Lj (oJ hs9 g2)
 refine .eptr [.str [73,78,84],.str [84,69,88,84],.str [66,79,79,76]] 0 0 0 (fun j=>match j with
  | 0=>.string ⟨#[73,78,84]⟩
  | 1=>.string ⟨#[84,69,88,84]⟩
  | _=>.string ⟨#[66,79,79,76]⟩) (DK (by rw [hcell]; exact w0)) (fun h=>h) ?_ ?_ ?_
 ·intro j hj
  match j,hj with
  | 0,_=>rw [hcell]; exact w0
  | 1,_=>rw [hcell]; exact w1
  | 2,_=>rw [hcell]; exact w2
 ·intro j hj
  match j,hj with
  | 0,_=>rfl
  | 1,_=>rfl
  | 2,_=>rfl
 ·intro j c hc
  match j,hc with
  | 0,hc=>simp at hc; subst hc; exact .str [73,78,84] (by simp [zA])
  | 1,hc=>simp at hc; subst hc; exact .str [84,69,88,84] (by simp [zA])
  | 2,hc=>simp at hc; subst hc; exact .str [66,79,79,76] (by simp [zA])
  | j+3,hc=>simp at hc

set_option maxRecDepth 100000 in
theorem gl2 {W:World} (h:W.ShapedOpen Tryz.prog):Rv W U0 hD .gint (.pointer (some ⟨2,0,none⟩)):=by
 have h0:((begin Tryz.prog (fun _ _=>0) default).world.heap[2]?).bind Obj.row?=some (#[.int .i64 0],3):=by kernel_rfl
 obtain ⟨cs,hh,hs,hr⟩:=h.1 2 _ _ (jh (by kernel_rfl)) h0
 obtain ⟨ts,hts,_,hall⟩:=hr (by kernel_rfl)
 have hc:Tryz.prog.cellTypes Tryz.prog.depth 3=some [3]:=by kernel_rfl
 rw [hc] at hts
 cases hts
 have h1:cs.size=1:=hs
 obtain ⟨u,hu,hok⟩:=hall 0 cs[0] (by simp)
 have:u=3:=by simpa using hu.symm
 subst this
 have hi:Tryz.prog.underlying 3=some (.int .i64):=by kernel_rfl
 unfold Cell.ok at hok
 rw [hi] at hok
 have hcs:cs = #[cs[0]]:=by
  apply Array.ext
  ·simp [h1]
  ·intro i h2 h3
   have:i=0:=by omega
   subst this
   rfl
 cases hv:cs[0] <;> rw [hv] at hok <;> simp at hok
 rename_i k n
 obtain ⟨rfl,hn⟩:=hok
 refine .gint n 2 3 (0,0) hn ?_ (fun h=>h)
 rw [hh,hcs,hv]

theorem gl5 {W:World} {l:List (String×DataW Unit)} (h:laidMet Tryz.prog l W) (hs:W.ShapedOpen Tryz.prog) (hm:("internal/strconv.uint64pow10",Rows.laid_internal_strconv_uint64pow10)∈l):Rv W U0 hD (.tab .u64 kX) (.pointer (some ⟨5,0,none⟩)):=by
 obtain ⟨cs,T,fr,hb,hd⟩:=Cb h (g:=5) (t:=297) (e:=279) (len:=20) hm (by kernel_rfl) (by kernel_rfl) (by kernel_rfl) (by kernel_rfl)
 have hu:Tryz.prog.underlying 279=some (.int .u64):=by kernel_rfl
 have h0:((begin Tryz.prog (fun _ _=>0) default).world.heap[5]?).bind Obj.row?=some (Array.replicate 20 (.int .u64 0),297):=by kernel_rfl
 obtain ⟨cs',hh,hsz,_⟩:=hs.1 5 _ _ (jh (by kernel_rfl)) h0
 rw [hb] at hh
 have hcs:cs=cs':=by simp only [bz,Obj.cells.injEq] at hh; exact hh.1
 have hlen:cs.size=20:=by rw [hcs,hsz]; simp
 have key:cs=(kX.map fun z=>Value.int .u64 z).toArray:=by
  apply Array.ext
  ·rw [hlen]; rfl
  ·intro i h1 h2
   have hd':∀ (j:Nat) z,kX[j]?=some z→cs[j]?=some (.int .u64 z):=by
    intro j z hz
    obtain ⟨_,_,g⟩:=hd j (.lit (.int .u64 z)) (by
     have:(match (Rows.laid_internal_strconv_uint64pow10:DataW Unit) with | .agg l=>l | _=>[])=kX.map fun z=>DataW.lit (.int .u64 z):=by kernel_rfl
     have e2:(match (Rows.laid_internal_strconv_uint64pow10:DataW Unit) with | .agg l=>l | _=>[])[j]?=some (.lit (.int .u64 z)):=by
      rw [this,dP,hz]
      rfl
     exact e2)
    exact Lj (Qw hu g)
   have hi:i < kX.length:=by simpa using h2
   have:=hd' i kX[i] (zP hi)
   rw [jO h1,bz] at this
   rw [this,List.getElem_toArray,List.getElem_map]
 exact .tab .u64 kX 5 T fr (by rw [hb,key]) (fun h=>h)


theorem O8:laidOutB Tryz.prog=true:=by kernel_rfl
theorem zgE:MW Tryz.prog 9 22 (.sl zj)=true:=by kernel_rfl
theorem zei:MW Tryz.prog 9 34 zk=true:=by kernel_rfl
def CR (P:Program) (t:TypeId):Bool:=match P.underlying t with
 | some (.struct _)=>true
 | _=>false
theorem Ee {P:Program} {t:TypeId} (h:CR P t=true):∃ fs,P.underlying t=some (.struct fs):=by
 unfold CR at h
 split at h
 ·exact ⟨_,‹_›⟩
 ·cases h
theorem zgG:∃ fs,Tryz.prog.underlying 34=some (.struct fs):=Ee (by kernel_rfl)
theorem zgF:Tryz.prog.underlying 22=some (.slice 43):=by kernel_rfl
theorem un4:Tryz.prog.underlying 4=some .bool:=by kernel_rfl

theorem Qr {H:Type} {enc:TypeId×Value→H} {W W':World} (hsame:∀ b,b < W.heap.size→W'.heap[b]?=W.heap[b]?) {t:TypeId} {v:Value} {d:DataW H} {ps:List MemPlace} (hr:Tryz.prog.readableRec t=true) (hrow:t < Tryz.prog.types.size)
  (h:DataW.Trod enc Tryz.prog W 0 (fun _=>true) true t v d ps) (hlt:∀ p∈ps,p.block < W.heap.size) {sp:Nat→Bool} (hs:∀ p∈ps,sp p.block=true):DataW.Trod enc Tryz.prog W' 0 sp true t v d ps:=
 WideElems.Trod_stays O8 hr hrow h (fun p hp=>by
  have h1:=hsame p.block (hlt p hp)
  cases p with
  | cell b off=>exact World.cell?_of_block h1
  | map b=>exact h1) hs

theorem R9 {W:World} {l:List (String×DataW Unit)} (hL:laidMet Tryz.prog l W) (hs:W.ShapedOpen Tryz.prog) (h0:("caddis/stmt.types",Rows.laid_caddis_stmt_types)∈l) (h5:("internal/strconv.uint64pow10",Rows.laid_internal_strconv_uint64pow10)∈l):Bo BC W U0:=by
 intro g
 match g with
 | 0=>exact gl0 hL h0
 | 1=>exact .any _
 | 2=>exact gl2 hs
 | 3=>exact .any _
 | 4=>exact .any _
 | 5=>exact gl5 hL hs h5
 | g+6=>exact .any _


structure RgS (s:Sem zk):Prop where
 chk:MV s.2.2.2.2.2.2.2.2.1
 whr:MV s.2.2.2.2.2.2.2.2.2.2.2.1
 row:∀ v∈s.2.2.2.2.2.2.2.2.2.1,Yz v
 sets:∀ x∈s.2.2.2.2.2.2.2.2.2.2.1,MV (x:Sem gy).2

theorem GX {s:Sem zk} (h:RgS s):∃ s':Sem zk,uF s=some (s',())∧Na s'∧nm s':=by
 obtain ⟨s',h1,h2,h3⟩:=IU s
 refine ⟨s',h1,h2,h2.sh,?_,?_,h2.cp,?_,?_,?_⟩
 ·rw [h3.chk]; exact wx h.chk
 ·rw [h3.whr]; exact wx h.whr
 ·rw [h3.whr]; exact DQ _
 ·rw [h3.row]; exact rx _ 0 [] h.row (by simp)
 ·intro x hx
  obtain ⟨y,hy,he⟩:=h3.sets x hx
  rw [he]
  exact ⟨wx (h.sets y hy),DQ _⟩
theorem xP:DG=some (true,()):=by kernel_rfl
open Go Go.Proofs Go.RowKit Go.ChangeShapes Go.WideShapes Go.ChangeAt

section
variable {w:World} {U:Nat→Prop} {ρ:Nat→Option Value}
def H8 (w:World) (U:Nat→Prop) (ρ:Nat→Option Value) (l:List AV):Prop:=∀ (j:Nat) (c:AV),l[j]?=some c→∃ v,Rv w U ρ c v
theorem GQ {n:Int} {v:Value} (h:Rv w U ρ (.int .i64 n) v):-9223372036854775808≤n∧n≤9223372036854775807:=by
 cases h with
 | int _ _ h=>simpa [cV,IntKind.min,IntKind.max,IntKind.signed,IntKind.bits] using h
theorem pQ {e:Sh} {l:List (Sem e)} {v:Value} (h:Rv w U ρ (.sl e l) v):∀ x∈l,H8 w U ρ (zp e x):=by
 intro x hx
 cases h with
 | sl0=>simp at hx
 | sl _ _ _ _ _ vals hc hm hb hU hcell hr=>
  obtain ⟨i,hi,rfl⟩:=kD hx
  exact fun j c h=>⟨_,hr i hi j c h⟩
theorem On {v:Sem zg} (h:H8 w U ρ (zp zg v)):Yz v:=by
 obtain ⟨_,h⟩:=h 1 _ rfl
 exact GQ h
mutual
theorem yG:∀ (e:ze),H8 w U ρ (zp .expr e)→MV e
 | .mk op v s l,h=>by
  rw [MV]
  obtain ⟨_,h2⟩:=h 2 _ rfl
  obtain ⟨_,h5⟩:=h 5 _ rfl
  exact ⟨GQ h2,Kn l fun x hx=>pQ h5 x hx⟩
theorem Kn:∀ (l:List ze),(∀ x∈l,H8 w U ρ (zp .expr x))→Dz l
 | [],_=>by rw [Dz]; trivial
 | x::r,h=>by rw [Dz]; exact ⟨yG x (h x (by simp)),Kn r fun y hy=>h y (by simp [hy])⟩
end
theorem Xw {x:Sem zj} (h:H8 w U ρ (zp zj x)):RgR x where
 chk:=yG _ fun j c hc=>match j,hc with
  | 0,hc=>h 5 c hc
  | 1,hc=>h 6 c hc
  | 2,hc=>h 7 c hc
  | 3,hc=>h 8 c hc
  | 4,hc=>h 9 c hc
  | 5,hc=>h 10 c hc
  | j+6,hc=>by simp [zp] at hc
 vals:=by
  obtain ⟨_,h⟩:=h 11 _ rfl
  intro r hr v hv
  obtain ⟨_,h⟩:=pQ h r hr 0 _ rfl
  exact On (pQ h v hv)
end

theorem FV {w:World} {U:Nat→Prop} {ρ:Nat→Option Value} {cs:List AV} {v:Value} (h:Rv w U ρ (.agg cs) v):H8 w U ρ cs:=by
 intro j c hc
 cases h with
 | agg _ vs hl h1 hr=>
  have hj:j < vs.length:=by have:=(cn.1 hc).1; omega
  exact ⟨vs[j],hr j c _ hc (zP hj)⟩
theorem Om {w:World} {U:Nat→Prop} {ρ:Nat→Option Value} {s:Sem zk} (h:H8 w U ρ (zp zk s)):RgS s where
 chk:=yG _ fun j c hc=>match j,hc with
  | 0,hc=>h 8 c hc
  | 1,hc=>h 9 c hc
  | 2,hc=>h 10 c hc
  | 3,hc=>h 11 c hc
  | 4,hc=>h 12 c hc
  | 5,hc=>h 13 c hc
  | j+6,hc=>by simp [zp] at hc
 whr:=yG _ fun j c hc=>match j,hc with
  | 0,hc=>h 16 c hc
  | 1,hc=>h 17 c hc
  | 2,hc=>h 18 c hc
  | 3,hc=>h 19 c hc
  | 4,hc=>h 20 c hc
  | 5,hc=>h 21 c hc
  | j+6,hc=>by simp [zp] at hc
 row:=by
  obtain ⟨_,h⟩:=h 14 _ rfl
  exact fun v hv=>On (pQ h v hv)
 sets:=by
  obtain ⟨_,h⟩:=h 15 _ rfl
  intro x hx
  have h:=pQ h x hx
  exact yG _ fun j c hc=>match j,hc with
   | 0,hc=>h 1 c hc
   | 1,hc=>h 2 c hc
   | 2,hc=>h 3 c hc
   | 3,hc=>h 4 c hc
   | 4,hc=>h 5 c hc
   | 5,hc=>h 6 c hc
   | j+6,hc=>by simp [zp] at hc

theorem GC (s:Sem zk):((s.1,s.2.1,s.2.2.1,s.2.2.2.1,s.2.2.2.2.1,s.2.2.2.2.2.1,s.2.2.2.2.2.2.1,s.2.2.2.2.2.2.2.1,zm s.2.2.2.2.2.2.2.2.1,s.2.2.2.2.2.2.2.2.2.1,s.2.2.2.2.2.2.2.2.2.2.1,zm s.2.2.2.2.2.2.2.2.2.2.2.1,s.2.2.2.2.2.2.2.2.2.2.2.2):Sem zk)=s:=by
 rw [zn,zn]

theorem I8 (o:List (Sem zj)→Sem zk→Sem zk→Option (zC [some .bool])) (db:List (Sem zj)) (s u:Sem zk) (h:o db s u=some (true,())):
  ((FT [.sl zj,zk,zk] [.bool] fun x=>o x.1 x.2.1 x.2.2.1) [.sl zj db,zF zk s,zF zk u] (fun _=>.dead) 0).val=some { val:=.bool true }:=by
 have e:((FT [.sl zj,zk,zk] [.bool] fun x=>o x.1 x.2.1 x.2.2.1) [.sl zj db,zF zk s,zF zk u] (fun _=>.dead) 0).val
   = (Tr.chk (o db (s.1,s.2.1,s.2.2.1,s.2.2.2.1,s.2.2.2.2.1,s.2.2.2.2.2.1,s.2.2.2.2.2.2.1,s.2.2.2.2.2.2.2.1,zm s.2.2.2.2.2.2.2.2.1,s.2.2.2.2.2.2.2.2.2.1,s.2.2.2.2.2.2.2.2.2.2.1,zm s.2.2.2.2.2.2.2.2.2.2.2.1,s.2.2.2.2.2.2.2.2.2.2.2.2)
     (u.1,u.2.1,u.2.2.1,u.2.2.2.1,u.2.2.2.2.1,u.2.2.2.2.2.1,u.2.2.2.2.2.2.1,u.2.2.2.2.2.2.2.1,zm u.2.2.2.2.2.2.2.2.1,u.2.2.2.2.2.2.2.2.2.1,u.2.2.2.2.2.2.2.2.2.2.1,zm u.2.2.2.2.2.2.2.2.2.2.2.1,u.2.2.2.2.2.2.2.2.2.2.2.2)).isSome
    (Tr.ok ({ val:=.bool ((o db (s.1,s.2.1,s.2.2.1,s.2.2.2.1,s.2.2.2.2.1,s.2.2.2.2.2.1,s.2.2.2.2.2.2.1,s.2.2.2.2.2.2.2.1,zm s.2.2.2.2.2.2.2.2.1,s.2.2.2.2.2.2.2.2.2.1,s.2.2.2.2.2.2.2.2.2.2.1,zm s.2.2.2.2.2.2.2.2.2.2.2.1,s.2.2.2.2.2.2.2.2.2.2.2.2)
     (u.1,u.2.1,u.2.2.1,u.2.2.2.1,u.2.2.2.2.1,u.2.2.2.2.2.1,u.2.2.2.2.2.2.1,u.2.2.2.2.2.2.2.1,zm u.2.2.2.2.2.2.2.2.1,u.2.2.2.2.2.2.2.2.2.1,u.2.2.2.2.2.2.2.2.2.2.1,zm u.2.2.2.2.2.2.2.2.2.2.2.1,u.2.2.2.2.2.2.2.2.2.2.2.2)).getD (cA [.bool])).1 }:fm))).val:=by kernel_rfl
 rw [e,GC,GC,h]
 rfl

def DA (p:Sem aB):Prop:=p.2.2.2.1.2.1.length≤1000000∧p.2.2.2.1.2.2.2.1.length≤1000000∧p.2.2.2.1.2.2.2.2.1.length≤1000000∧kw 16 p.2.2.2.1.2.2.2.2.2=true∧p.2.2.2.2.1.length≤1000000
theorem lW:DA jl:=⟨aK _,aK _,aK _,rfl,aK _⟩
theorem rc {e:Int} {p:Sem aB} (h:e=0→DA p):DA (jo e p).2:=by
 unfold jo
 split
 ·split
  ·exact h (by assumption)
  ·exact lW
 ·exact lW
theorem I9 (db:List (Sem zj)) {s:Sem zk} (hf:Na s):DA (cB db s).2:=by
 have hn:=hf.sh.names.1
 unfold cB
 split
 rotate_left
 ·exact lW
 split
 rotate_left
 ·exact lW
 unfold DD
 split
 ·refine rc fun _=>⟨?_,aK _,aK _,hf.cp,?_⟩
  ·show (eZ _ _).length≤_
   unfold eZ; rw [dI]; omega
  ·show (ky _ _).length≤_
   unfold ky; rw [dI]; omega
 split
 ·refine rc fun h=>?_
  have h9:(aC db s.2.2.1).2.1.length+(kq db s.2.2.2.2.2.2.2.2.2.2.2.2).2.1.length≤9:=by
   unfold j4 at h
   split at h
   ·cases h
   split at h
   rotate_left
   ·cases h
   split at h
   ·cases h
   ·omega
  have ho:=nX (kq db s.2.2.2.2.2.2.2.2.2.2.2.2).2.2.1 (length (kq db s.2.2.2.2.2.2.2.2.2.2.2.2).2.1)
  refine ⟨?_,aK _,aK _,hf.cp,?_⟩
  ·show (_++gC _ _).length≤_
   unfold gC; rw [iM,dI]; omega
  ·show (j6 _ _).length≤_
   unfold j6; rw [dI]; omega
 split
 ·refine rc fun _=>⟨?_,aK _,aK _,hf.cp,?_⟩
  ·show (Ea _ _).length≤_
   unfold Ea; simp
  ·show (ky _ _).length≤_
   unfold ky; rw [dI]; omega
 ·exact lW

theorem Nu:DF=true:=by unfold DF; rw [xP]; rfl
theorem RR:J5=true:=by unfold J5; rw [xP]; rfl

theorem zcW (f w:zw):zR 0 (ea f w).length=true∧zR (IntKind.i64.wrap (((ea f w).length:Int) - 1)) (ea f w).length=true:=by
 unfold ea
 split <;> exact ⟨rfl,rfl⟩

theorem So {x0:Sem zj.sl} {x1 x2:Sem zk} (hx:∀ x∈x0,RgR x) (h1:RgS x1) (h2:RgS x2):O7 x0 x1 x2=some (true,()):=by
 obtain ⟨db,d1,d2,d3⟩:=O4 x0
 obtain ⟨s,s1,s2,s3⟩:=GX h1
 obtain ⟨u,u1,u2,u3⟩:=GX h2
 have hdb:vS x0=db:=by unfold vS; rw [d1]; rfl
 have hdc:IW x0=true:=by unfold IW; rw [d1]; rfl
 have hs:CV x1=s:=by unfold CV; rw [s1]; rfl
 have hsc:uE x1=true:=by unfold uE; rw [s1]; rfl
 have hu:CV x2=u:=by unfold CV; rw [u1]; rfl
 have huc:uE x2=true:=by unfold uE; rw [u1]; rfl
 have hwf:∀ x∈db,RG x:=by
  intro x hxm
  obtain ⟨y,hy,rfl⟩:=d3 x hxm
  exact O3 (hx y hy)
 have hsh:∀ x∈db,mg x:=fun x hxm=>(hwf x hxm).short
 have p1:Ep db s=some ((cB db s).2,(cB db s).1,()):=PM hsh d2 s2
 have p2:Ep db u=some ((cB db u).2,(cB db u).1,()):=PM hsh d2 u2
 have q1:=PY hwf s3
 have hP:=I9 db s2
 have hT:(cB db s).1=0→eD (cB db s).2.2.2.2.1=true:=by
  intro h0
  have hb:jP db=(0:Int):=by
   unfold cB at h0
   split at h0
   ·rename_i c; exact c.2.2
   ·cases h0
  exact PS ((oT hsh).1 hb) s3 h0
 generalize cB db s=P at p1 q1 hP hT
 generalize cB db u=X at p2
 obtain ⟨e,p⟩:=P
 obtain ⟨f,x⟩:=X
 have hp:YE db s=(p,e):=by unfold YE; rw [p1]; rfl
 have hpc:Mq db s=true:=by unfold Mq; rw [p1]; rfl
 have hv:YE db u=(x,f):=by unfold YE; rw [p2]; rfl
 have hvc:Mq db u=true:=by unfold Mq; rw [p2]; rfl
 have hq:PX db s=(p,e):=by unfold PX; rw [q1]; rfl
 have hqc:Jb db s=true:=by unfold Jb; rw [q1]; rfl
 obtain ⟨b1,b2,b3,b4,b5⟩:=hP
 obtain ⟨r1,a1,a2⟩:=vX (b:=p) b1 b2 b3 b4 b5
 have a2:r1=true:=a2.2 rfl
 subst a2
 have a3:lJ p p=true:=by unfold lJ; rw [a1]; rfl
 have a4:pi p p=true:=by unfold pi; rw [a1]; rfl
 obtain ⟨r2,a5,a6⟩:=vX (b:=x) b1 b2 b3 b4 b5
 obtain ⟨c1,c2⟩:=PN (b:=x) b1 b2 b3 b4 b5
 have a7:lJ p x=true:=by unfold lJ; rw [a5]; rfl
 have a8:pi p x=r2:=by unfold pi; rw [a5]; rfl
 have a9:Hd p x=r2:=by rw [iN,c2,a6]
 have n1:iR p=ea p.2.1 p.2.2.1:=rfl
 obtain ⟨m1,m2⟩:=zcW p.2.1 p.2.2.1
 have hr:(i5p x0 x1 x2).val=some (.inr (.bool true,[])):=by
  simp only [i5p,Tr.val,zn,Prod.eta,hdb,hdc,hs,hsc,hu,huc,hp,hpc,hv,hvc,hq,hqc,a3,a4,a7,a8,a9,c1,n1,qv,sM,m1,m2,Nu,RR,vo,beq_self_eq_true,ck,aq,zV,if_true,if_false,rQ]
  by_cases h:e=0
  ·simp only [hT h,h,zU,vo,aq,if_true]
  ·have hb:(e != 0)=true:=by simpa using h
   simp only [hb,zU,if_true]
 exact zY hr rfl

theorem Sv {W:World} {db:List (Sem zj)} {s u:Sem zk} {v v1 v2:Value} (h:Rv W U0 hD (.sl zj db) v) (h1:Rv W U0 hD (zF zk s) v1) (h2:Rv W U0 hD (zF zk u) v2):(Yv [.sl zj db,zF zk s,zF zk u] (fun _=>.dead) 0).val=some { val:=.bool true }:=
 I8 O7 db s u (So (fun x hx=>Xw (pQ h x hx)) (Om (FV h1)) (Om (FV h2)))

set_option maxRecDepth 100000 in
theorem Ii {k:FuncId} {f:Func} {s:ChangeSpec} {F:zT} (hF:nl Tryz.prog BC k F) (hpar:f.params = #[22,34,34]) (hrt:f.resultTypes = #[4]) (hvars:s.vars=[])
  (hfn:∀ (H:Type) (d0 d1 d2:DataW H),s.fn H [d0,d1,d2]={ results:=[.lit (.bool true)],args:=[d0,d1,d2] })
  {H:Type} {enc:TypeId×Value→H} {W:World} {base:Nat} {args:Array Value} {ds gs:List (DataW H)} {before:List MemPlace}
  (hv:∀ (db:List (Sem zj)) (st su:Sem zk) (v v1 v2:Value),Rv W U0 hD (.sl zj db) v→Rv W U0 hD (zF zk st) v1→Rv W U0 hD (zF zk su) v2→(F [.sl zj db,zF zk st,zF zk su] (fun _=>.dead) 0).val=some { val:=.bool true })
  (hval:∀ (j:Nat) t v,f.params[j]?=some t→args[j]?=some v→Value.okWide Tryz.prog W .any base t v)
  (hW:DataW.Whole enc Tryz.prog f.params.toList s.vars false W args.toList ds gs before) (hgl:Bo BC W U0):
  Calls Tryz.prog k args W fun e W'=>∃ v,e=.returned v∧s.post enc Tryz.prog f false true false false W args v W':=by
 have hW':=hW
 obtain ⟨p,q,hA0,hV,rfl,hfz,hnd⟩:=hW
 have hA:DataW.TrodAll enc Tryz.prog W 0 (fun _=>true) true f.params.toList args.toList ds p:=hA0
 rw [hpar] at hA
 obtain ⟨v0,v1,v2,d0,d1,d2,p0,p1,p2,rfl,rfl,rfl,h0,h1,h2⟩:=trodAll_three hA
 rw [hvars] at hV
 obtain ⟨rfl,rfl⟩:=trodVars_none hV
 have hlt:=hW'.lt
 obtain ⟨f34,u34⟩:=zgG
 have q0:f.params[0]?=some 22:=by rw [hpar]; rfl
 have q1:f.params[1]?=some 34:=by rw [hpar]; rfl
 have q2:f.params[2]?=some 34:=by rw [hpar]; rfl
 have e0:(#[v0,v1,v2]:Array Value)[0]?=some v0:=by simp
 have e1:(#[v0,v1,v2]:Array Value)[1]?=some v1:=by simp
 have e2:(#[v0,v1,v2]:Array Value)[2]?=some v2:=by simp
 have k0:=hval 0 22 v0 q0 e0
 have k1:=hval 1 34 v1 q1 e1
 have k2:=hval 2 34 v2 q2 e2
 obtain ⟨db,rd⟩:=Mc zgE zgF k0 h0
 obtain ⟨st,rs⟩:=yE zei rfl u34 k1 h1
 obtain ⟨su,ru⟩:=yE zei rfl u34 k2 h2
 have hrv:dh W U0 hD [.sl zj db,zF zk st,zF zk su] (#[v0,v1,v2]:Array Value).toList:=by
  refine ⟨rfl,fun j c v hc hv=>?_⟩
  match j,hc,hv with
  | 0,hc,hv=>simp at hc hv; subst hc; subst hv; exact rd
  | 1,hc,hv=>simp at hc hv; subst hc; subst hv; exact rs
  | 2,hc,hv=>simp at hc hv; subst hc; subst hv; exact ru
  | j+3,hc,_=>simp at hc
 have hc:=Ig hF (args := #[v0,v1,v2]) hgl hrv (hv db st su v0 v1 v2 rd rs ru) rfl
 refine hc.mono fun e' W' ⟨he,hext,hsame⟩=>?_
 subst he
 have hmem:∀ (p:MemPlace),p∈p0∨p∈p1∨p∈p2→p∈p0++p1++p2++[]:=by
  intro p hp
  simp only [xG,bK,or_assoc]
  exact hp
 have hf2:s.fn H ([d0,d1,d2]++[])={ results:=[.lit (.bool true)],args:=[d0,d1,d2] }:=hfn H d0 d1 d2
 refine ⟨_,rfl,He (pa:=p0++(p1++p2)) (pv:=[]) hW' (fun _ _ _=>?_) (fun sp hsp=>?_) (fun _ _=>?_) (by simp) (Eg hext.os hext.out hsame _) hext.fr (ok_one hrt rfl (okWide_bool_mk un4 _))⟩
 ·rw [hf2,hrt]
  exact trodAll_cons_mk (shut_bool un4 _) trodAll_mk0
 ·rw [hf2,hpar]
  exact trodAll_mk3 (Qr hsame (by kernel_rfl) (jh (by kernel_rfl)) h0 (fun p hp=>hlt p (hmem p (.inl hp))) (fun p hp=>hsp p (hmem p (.inl hp))))
   (Qr hsame (by kernel_rfl) (jh (by kernel_rfl)) h1 (fun p hp=>hlt p (hmem p (.inr (.inl hp)))) (fun p hp=>hsp p (hmem p (.inr (.inl hp)))))
   (Qr hsame (by kernel_rfl) (jh (by kernel_rfl)) h2 (fun p hp=>hlt p (hmem p (.inr (.inr hp)))) (fun p hp=>hsp p (hmem p (.inr (.inr hp)))))
 ·rw [hf2,hvars]
  rfl
end Cad
