/- The chapter's examples. The law BaseSelects. Few of anything: always an answer, and a short one. The law BaseSelects holds. -/
import Derived.Test.YtiefilkilbdpgaaGreatDoorS17
import Derived.Test.YtiefilkilbdpgaaGreatDoorS15
import Derived.Test.YtiefilkilbdpgaaGreatDoorS14
import Derived.Test.YtiefilkilbdpgaaGreatDoorS12
namespace Cad
open Go Go.Proofs
open Int (toNat)
open List (getD)
open List (length)
noncomputable section
set_option maxHeartbeats 4000000
def Lc:=K4.add 32 Zd
theorem vF:zl Lc:=EW.add Uh

def zhd:Tr (Empty ⊕ aj):=
 Tr.chk true
 (Tr.chk true
  (Tr.chk true (Tr.chk true (Tr.chk true (Tr.chk true (Tr.chk true (Tr.chk true (Tr.chk true (Tr.chk true (Tr.chk true (Tr.chk true (Tr.chk true (Tr.chk true (Tr.re (AV.bool true) []))))))))))))))
def Ew:=zW [Sh.bool] t0 100000000 (zhd)
def Cz:=o1 (Ew)
def YU:=FT [] [Sh.bool] fun _=>Ew
theorem TT:FK 13 YU:=vF.T1 (f:=Tryz.f13) (keep:=k0) (e:=e0)

def Sv:=Lc.add 13 YU
theorem yV:zl Sv:=vF.add TT
end
noncomputable section
end

theorem iM (s:zo):ef s=true:=by
 unfold ef
 split
 ·rename_i h
  have:20 < s.length:=by simp at h; omega
  rw [if_pos (by simp; omega)]
 ·rfl
theorem dS (s:zo):(bu s).length≤20:=by
 unfold bu
 split
 ·simp; omega
 ·rename_i h
  have:¬ 20 < s.length:=by simp at h; omega
  omega
theorem lZ:∀ (l:List zo) (i:Int) (acc:List zo),(acc.length:Int)≤i→eF l i acc=true
 | [],_,_,_=>rfl
 | x::r,i,acc,h=>by
  rw [eF]
  split
  ·rename_i hi
   simp only [ae] at hi
   rw [if_pos (iM x),if_pos (by simp; omega)]
   exact lZ r (i+1) _ (by simp; omega)
  ·rfl
theorem xK (l:List zo):mI l=true:=lZ l 0 [] (by simp)
theorem oy:∀ (l:List zo) (i:Int) (acc:List zo),(acc.length:Int)≤i→acc.length≤10→(∀ x∈acc,length x≤20)→length (dD l i acc)≤10∧∀ x∈dD l i acc,length x≤20
 | [],_,acc,_,h,ha=>⟨h,ha⟩
 | x::r,i,acc,h,hl,ha=>by
  rw [dD]
  split
  ·rename_i hi
   simp only [ae] at hi
   refine oy r (i+1) _ (by simp; omega) (by simp; omega) (fun y hy=>?_)
   rcases bn.1 hy with hy | hy
   ·exact ha y hy
   ·rw [bO] at hy
    rw [hy]; exact dS x
  ·exact ⟨hl,ha⟩
theorem sr (l:List zo):length (fU l)≤10∧∀ x∈fU l,length x≤20:=oy l 0 [] (by simp) (by simp) (by simp)
theorem mK:∀ (l:List (Sem zi)) (i:Int) (acc:List (Sem zi)),(acc.length:Int)≤i→acc.length≤10→(∀ x∈acc,length x.1≤20)→length (gV l i acc)≤10∧∀ x∈gV l i acc,length x.1≤20
 | [],_,acc,_,h,ha=>⟨h,ha⟩
 | x :: r,i,acc,h,hl,ha=>by
  rw [gV]
  split
  ·rename_i hi
   simp only [ae] at hi
   split
   ·refine mK r (i+1) _ (by simp; omega) (by simp; omega) (fun y hy=>?_)
    rcases bn.1 hy with hy | hy
    ·exact ha y hy
    ·rw [bO] at hy
     rw [hy]; simp; omega
   ·rename_i hx
    have hx:¬ 20 < length x.1:=by simp at hx; omega
    refine mK r (i+1) _ (by simp; omega) (by simp; omega) (fun y hy=>?_)
    rcases bn.1 hy with hy | hy
    ·exact ha y hy
    ·rw [bO] at hy
     rw [hy]; omega
  ·exact ⟨hl,ha⟩
theorem I4 (l:List (Sem zi)):length (mJ l)≤10∧∀ x∈mJ l,length x.1≤20:=mK l 0 [] (by simp) (by simp) (by simp)
theorem su:∀ (l:List (Sem zf)) (i:Int) (acc:List (Sem zf)),(acc.length:Int)≤i→acc.length≤14→length (jU l i acc)≤14
 | [],_,acc,_,h=>h
 | x::r,i,acc,h,hl=>by
  rw [jU]
  split
  ·rename_i hi
   simp only [ae] at hi
   exact su r (i+1) _ (by simp; omega) (by simp; omega)
  ·exact hl
theorem I5 (l:List (Sem zf)):length (oz l)≤14:=su l 0 [] (by simp) (by simp)

theorem GZ {g:Sem Sh.expr→Sem zg→Sem zg→Sem Sh.expr×Sem zg} {c:Sem Sh.expr→Sem zg→Sem zg→Bool} {i1:Int} {N:Nat} (h:∀ x n,0 < i1→kX N (g x (IntKind.i64.wrap (i1 - 1)) n).1=true) {a0 a1 a2 a3 a4 b0 b1 b2 b3 b4 d0 d1 d2 d3 d4}:
  ∀ (l:List (Sem Sh.expr)) (i n:Int) (acc:List (Sem Sh.expr)),(acc.length:Int)≤i→acc.length≤3→(∀ x∈acc,kX N x=true)→kX (N+1) (cz g c i1 a0 a1 a2 a3 a4 b0 b1 b2 b3 b4 d0 d1 d2 d3 d4 l i n acc).1=true
 | [],_,_,acc,_,hl,ha=>by
  rw [cz]
  show (decide (acc.length≤1073741824)&&acc.all (kX N))=true
  rw [cX.2 ha]
  simp; omega
 | x::r,i,n,acc,hi,hl,ha=>by
  rw [cz]
  split
  ·rename_i hk
   have h3:i < 3∧i1 > 0:=by
    cases h1:decide (i < 3) <;> cases h2:decide (i1 > 0) <;> simp_all
   refine GZ h r (i+1) _ _ (by simp; omega) (by simp; omega) (fun y hy=>?_)
   rcases bn.1 hy with hy | hy
   ·exact ha y hy
   ·rw [bO] at hy
    rw [hy]; exact h x n h3.2
  ·show (decide (acc.length≤1073741824)&&acc.all (kX N))=true
   rw [cX.2 ha]
   simp; omega
theorem PS {g:Sem Sh.expr→Sem zg→Sem zg→Sem Sh.expr×Sem zg} {c:Sem Sh.expr→Sem zg→Sem zg→Bool} {i1:Int} {N:Nat} (h:∀ x n,0 < i1→kX N (g x (IntKind.i64.wrap (i1 - 1)) n).1=true) (e:ze) (n:Int):kX (N+1) (Fb g c e i1 n).1=true:=by
 unfold Fb
 repeat' split
 all_goals exact GZ h _ _ _ _ (by simp) (by simp) (by simp)
theorem G0:∀ (N:Nat) (e:ze) (d n:Int),0≤d→d < N→N≤100→kX N (lu N e d n).1=true
 | 0,_,_,_,h1,h2,_=>by omega
 | N+1,e,d,n,h1,h2,h3=>by
  rw [lu]
  refine PS (fun x m hd=>?_) e n
  rw [lN _ (by omega) (by omega)]
  exact G0 N x (d - 1) m (by omega) (by omega) (by omega)
theorem PI (e:ze):kX 16 (dX e)=true:=by
 have h:=G0 16 e 14 80 (by omega) (by omega) (by omega)
 unfold dX
 rw [ze.eta]
 exact h

structure zbj (s:Sem zm):Prop where
 sh:ey s
 cp:kX 16 s.2.2.2.2.2.2.2.2.1=true

abbrev Fd (s:Sem zm):zo×zo×zo×List zo×List (Sem zi)×zo×List zo:=(bu s.1,bu s.2.1,bu s.2.2.1,fU s.2.2.2.1,mJ s.2.2.2.2.1,bu s.2.2.2.2.2.1,fU s.2.2.2.2.2.2.1)

def F3I (z0:zu mi) (i:Nat) (z:zu Kk):Prop:=z.1.length≤20∧z.2.1.length≤20∧z.2.2.1.length≤20∧(length z.2.2.2.1≤10∧∀ x∈z.2.2.2.1,length x≤20)∧(length z.2.2.2.2.1≤10∧∀ x∈z.2.2.2.2.1,length x.1≤20)∧z.2.2.2.2.2.1.length≤20∧
 (length z.2.2.2.2.2.2.1≤10∧∀ x∈z.2.2.2.2.2.2.1,length x≤20)∧(length z.2.2.2.2.2.2.2.1=i∧∀ x∈z.2.2.2.2.2.2.2.1,length x.1≤20∧length x.2≤20)∧kX 16 z.2.2.2.2.2.2.2.2.1=true∧length z.2.2.2.2.2.2.2.2.2.1≤14∧z.2.2.2.2.2.2.2.2.2.2.2.1.length≤20∧
 z.2.2.2.2.2.2.2.2.1=dX z0.1.2.2.2.2.2.2.2.2.1∧z.2.2.2.2.2.2.2.2.2.1=oz z0.1.2.2.2.2.2.2.2.2.2.1∧z.2.2.2.2.2.2.2.2.2.2.1=dX z0.1.2.2.2.2.2.2.2.2.2.2.2.1∧(z.1,z.2.1,z.2.2.1,z.2.2.2.1,z.2.2.2.2.1,z.2.2.2.2.2.1,z.2.2.2.2.2.2.1)=Fd z0.1

def F7I (z0:zu mi) (i:Nat) (z:zu Kl):Prop:=z.1.length≤20∧z.2.1.length≤20∧z.2.2.1.length≤20∧(length z.2.2.2.1≤10∧∀ x∈z.2.2.2.1,length x≤20)∧(length z.2.2.2.2.1≤10∧∀ x∈z.2.2.2.2.1,length x.1≤20)∧z.2.2.2.2.2.1.length≤20∧
 (length z.2.2.2.2.2.2.1≤10∧∀ x∈z.2.2.2.2.2.2.1,length x≤20)∧(length z.2.2.2.2.2.2.2.1≤10∧∀ x∈z.2.2.2.2.2.2.2.1,length x.1≤20∧length x.2≤20)∧kX 16 z.2.2.2.2.2.2.2.2.1=true∧length z.2.2.2.2.2.2.2.2.2.1≤14∧
 (length z.2.2.2.2.2.2.2.2.2.2.1=i∧∀ x∈z.2.2.2.2.2.2.2.2.2.2.1,length x.1≤20∧∃ y∈z0.1.2.2.2.2.2.2.2.2.2.2.1,x.2=dX y.2)∧z.2.2.2.2.2.2.2.2.2.2.2.2.1.length≤20∧
 z.2.2.2.2.2.2.2.2.1=dX z0.1.2.2.2.2.2.2.2.2.1∧z.2.2.2.2.2.2.2.2.2.1=oz z0.1.2.2.2.2.2.2.2.2.2.1∧z.2.2.2.2.2.2.2.2.2.2.2.1=dX z0.1.2.2.2.2.2.2.2.2.2.2.2.1∧(z.1,z.2.1,z.2.2.1,z.2.2.2.1,z.2.2.2.2.1,z.2.2.2.2.2.1,z.2.2.2.2.2.2.1)=Fd z0.1

structure RW (s0 s:Sem zm):Prop where
 chk:s.2.2.2.2.2.2.2.2.1=dX s0.2.2.2.2.2.2.2.2.1
 row:s.2.2.2.2.2.2.2.2.2.1=oz s0.2.2.2.2.2.2.2.2.2.1
 whr:s.2.2.2.2.2.2.2.2.2.2.2.1=dX s0.2.2.2.2.2.2.2.2.2.2.2.1
 sets:∀ x∈s.2.2.2.2.2.2.2.2.2.2.1,∃ y∈s0.2.2.2.2.2.2.2.2.2.2.1,(x:Sem aN).2=dX (y:Sem aN).2
 fr:(s.1,s.2.1,s.2.2.1,s.2.2.2.1,s.2.2.2.2.1,s.2.2.2.2.2.1,s.2.2.2.2.2.2.1)=Fd s0

def Pe (s0:Sem zm) (r:aj):Prop:=∃ s:Sem zm,ap r.2 [zm] r.1=some (s,())∧zbj s∧RW s0 s

theorem fs7 (z0:zu mi) (z1:zu eK) (z:zu Kl) (hz:F7I z0 0 z) (n:Nat) (hn:20≤n):∃ r,bl QF n (.h7 0 z0 z1 z)=some r∧Pe z0.1 r:=by
 refine pT (t:=QF) (β:=zu Kl) (min 10 (length z0.1.2.2.2.2.2.2.2.2.2.2.1)) (fun z i=>.h7 (i:Int) z0 z1 z) (fun z i=>F7I z0 i z) (Pe z0.1) 1 ?_ ?_ (min 10 (length z0.1.2.2.2.2.2.2.2.2.2.2.1)) 0 z n rfl (aV _) hz (by omega)
 ·intro z i hi hb
  obtain ⟨h0,h1,h2,h3,h4,h5,h6,h7,h8,h9,h10,h11,h12⟩:=hb
  have k1:(i:Int) < (length z0.1.2.2.2.2.2.2.2.2.2.2.1:Int):=by omega
  have k2:(i:Int) < 10:=by omega
  have k3:zI (i:Int) (length z0.1.2.2.2.2.2.2.2.2.2.2.1)=true:=zB (by omega)
  refine Or.inl ⟨(z.1,z.2.1,z.2.2.1,z.2.2.2.1,z.2.2.2.2.1,z.2.2.2.2.2.1,z.2.2.2.2.2.2.1,z.2.2.2.2.2.2.2.1,z.2.2.2.2.2.2.2.2.1,z.2.2.2.2.2.2.2.2.2.1,z.2.2.2.2.2.2.2.2.2.2.1++[(bu (getD z0.1.2.2.2.2.2.2.2.2.2.2.1 (i:Int).toNat (zj aN)).1,zE (dX (zE (getD z0.1.2.2.2.2.2.2.2.2.2.2.1 (i:Int).toNat (zj aN)).2)))],z.2.2.2.2.2.2.2.2.2.2.2),⟨h0,h1,h2,h3,h4,h5,h6,h7,h8,h9,?_,h11,h12⟩,?_⟩
  rotate_left 1
  ·simp only [QF,Tr.val,ay k1,ay k2,bR,if_true,k3,iM]
   rw [zD i (by unfold zC; omega),if_pos (by have:=h10.1; simp; omega)]
  ·refine ⟨?_,fun x hx=>?_⟩
   ·simp [h10.1]
   ·rcases bn.1 hx with hx | hx
    ·exact h10.2 x hx
    ·rw [bO] at hx
     rw [hx]; exact ⟨dS _,_,Dl _ (zj aN) (by simpa using (show i < _ by omega)),by simp only [zp,aT]⟩
 ·intro z n hb hn
  obtain ⟨n,rfl⟩:∃ k,n=k+1:=⟨n - 1,by omega⟩
  obtain ⟨h0,h1,h2,h3,h4,h5,h6,h7,h8,h9,h10,h11,h12⟩:=hb
  rw [rr]
  have hf:(bif decide (((min 10 (length z0.1.2.2.2.2.2.2.2.2.2.2.1):Nat):Int) < (length z0.1.2.2.2.2.2.2.2.2.2.2.1:Int)) then decide (((min 10 (length z0.1.2.2.2.2.2.2.2.2.2.2.1):Nat):Int) < 10) else false)=false:=by
   by_cases h:10≤length z0.1.2.2.2.2.2.2.2.2.2.2.1
   ·rw [Nat.min_eq_left h]
    simp
   ·rw [Nat.min_eq_right (by omega)]
    simp
  simp only [QF,Tr.val,hf]
  refine ⟨_,rfl,(z.1,z.2.1,z.2.2.1,z.2.2.2.1,z.2.2.2.2.1,z.2.2.2.2.2.1,z.2.2.2.2.2.2.1,z.2.2.2.2.2.2.2.1,z.2.2.2.2.2.2.2.2.1,z.2.2.2.2.2.2.2.2.2.1,z.2.2.2.2.2.2.2.2.2.2.1,z.2.2.2.2.2.2.2.2.2.2.2.1,z.2.2.2.2.2.2.2.2.2.2.2.2.1),?_,⟨?_,h8⟩,⟨h12.1,h12.2.1,h12.2.2.1,fun x hx=>(h10.2 x hx).2,h12.2.2.2⟩⟩
  ·obtain ⟨z0,z1,z2,z3,z4,z5,z6,z7,z8,z9,z10,z11,z12,z13⟩:=z
   cases z8
   cases z11
   rfl
  ·refine ⟨by show z.1.length≤_; omega,by show z.2.1.length≤_; omega,by show z.2.2.1.length≤_; omega,⟨by have:=h3.1; show length z.2.2.2.1≤_; omega,fun x hx=>by have:=h3.2 x hx; omega⟩,⟨by have:=h4.1; show length z.2.2.2.2.1≤_; omega,fun x hx=>by have:=h4.2 x hx; omega⟩,by show z.2.2.2.2.2.1.length≤_; omega,⟨by have:=h6.1; show length z.2.2.2.2.2.2.1≤_; omega,fun x hx=>by have:=h6.2 x hx; omega⟩,⟨by have:=h7.1; show length z.2.2.2.2.2.2.2.1≤_; omega,fun x hx=>by have:=h7.2 x hx; omega⟩,by show length z.2.2.2.2.2.2.2.2.2.1≤_; omega,⟨by have:=h10.1; show length z.2.2.2.2.2.2.2.2.2.2.1≤_; omega,fun x hx=>by have:=(h10.2 x hx).1; omega⟩,by show z.2.2.2.2.2.2.2.2.2.2.2.2.1.length≤_; omega⟩

theorem fs3 (z0:zu mi) (z1:zu eK) (z:zu Kk) (hz:F3I z0 0 z) (n:Nat) (hn:40≤n):∃ r,bl QF n (.h3 0 z0 z1 z)=some r∧Pe z0.1 r:=by
 refine pT (t:=QF) (β:=zu Kk) (min 10 (length z0.1.2.2.2.2.2.2.2.1)) (fun z i=>.h3 (i:Int) z0 z1 z) (fun z i=>F3I z0 i z) (Pe z0.1) 21 ?_ ?_ (min 10 (length z0.1.2.2.2.2.2.2.2.1)) 0 z n rfl (aV _) hz (by omega)
 ·intro z i hi hb
  obtain ⟨h0,h1,h2,h3,h4,h5,h6,h7,h8⟩:=hb
  have k1:(i:Int) < (length z0.1.2.2.2.2.2.2.2.1:Int):=by omega
  have k2:(i:Int) < 10:=by omega
  have k3:zI (i:Int) (length z0.1.2.2.2.2.2.2.2.1)=true:=zB (by omega)
  refine Or.inl ⟨(z.1,z.2.1,z.2.2.1,z.2.2.2.1,z.2.2.2.2.1,z.2.2.2.2.2.1,z.2.2.2.2.2.2.1,z.2.2.2.2.2.2.2.1++[(bu (getD z0.1.2.2.2.2.2.2.2.1 (i:Int).toNat (zj bI)).1,bu (getD z0.1.2.2.2.2.2.2.2.1 (i:Int).toNat (zj bI)).2)],z.2.2.2.2.2.2.2.2),⟨h0,h1,h2,h3,h4,h5,h6,?_,h8⟩,?_⟩
  rotate_left 1
  ·simp only [QF,Tr.val,ay k1,ay k2,bR,if_true,k3,iM]
   rw [zD i (by unfold zC; omega),if_pos (by have:=h7.1; simp; omega)]
  ·refine ⟨?_,fun x hx=>?_⟩
   ·simp [h7.1]
   ·rcases bn.1 hx with hx | hx
    ·exact h7.2 x hx
    ·rw [bO] at hx
     rw [hx]; exact ⟨dS _,dS _⟩
 ·intro z n hb hn
  obtain ⟨n,rfl⟩:∃ k,n=k+1:=⟨n - 1,by omega⟩
  obtain ⟨h0,h1,h2,h3,h4,h5,h6,h7,h8,h9,h10,h11⟩:=hb
  rw [rr]
  have hf:(bif decide (((min 10 (length z0.1.2.2.2.2.2.2.2.1):Nat):Int) < (length z0.1.2.2.2.2.2.2.2.1:Int)) then decide (((min 10 (length z0.1.2.2.2.2.2.2.2.1):Nat):Int) < 10) else false)=false:=by
   by_cases h:10≤length z0.1.2.2.2.2.2.2.2.1
   ·rw [Nat.min_eq_left h]
    simp
   ·rw [Nat.min_eq_right (by omega)]
    simp
  simp only [QF,Tr.val,hf]
  exact fs7 z0 z1 _ ⟨h0,h1,h2,h3,h4,h5,h6,⟨by have:=h7.1; show length z.2.2.2.2.2.2.2.1≤_; omega,h7.2⟩,h8,h9,⟨rfl,by simp⟩,h10,h11⟩ n (by omega)

theorem Ft (s:Sem zm):∃ s':Sem zm,vV s=some (s',())∧zbj s'∧RW s s':=by
 unfold vV zW bh
 simp only [i8p,Tr.val,iM,xK,if_true]
 obtain ⟨r,h1,s',h2,h3⟩:=fs3 (s,()) ([],[],[],[],[],0,0,[],[],[],0,0,[],[],[],()) (bu s.1,bu s.2.1,bu s.2.2.1,fU s.2.2.2.1,mJ s.2.2.2.2.1,
  bu s.2.2.2.2.2.1,fU s.2.2.2.2.2.2.1,[],dX (zE s.2.2.2.2.2.2.2.2.1),oz s.2.2.2.2.2.2.2.2.2.1,dX (zE s.2.2.2.2.2.2.2.2.2.2.2.1),bu s.2.2.2.2.2.2.2.2.2.2.2.2,())
  ⟨dS _,dS _,dS _,sr _,I4 _,dS _,sr _,⟨rfl,by simp⟩,PI _,I5 _,dS _,by simp only [zp],rfl,by simp only [zp],rfl⟩ 100000000 (by omega)
 refine ⟨s',?_,h3⟩
 rw [h1]
 exact h2

theorem Ex:Ew=some (true,()):=by kernel_rfl
theorem Pt:Cz=true:=by unfold Cz; rw [Ex]; rfl

theorem GB {db:List (Sem zh)} {s:Sem zm} (hs:ey s) (hr:∀ x∈db,cI x) (h:¬ (eU s=true∧aM db)):jk db s=some (db,dN 1,()):=by
 have h1:=dK hs
 have h2:=dh hr
 have h3:(bif !eU s then true else fx db != 0)=true:=by
  cases hm:eU s with
  | false=>rfl
  | true=>
   have:fx db≠(0:Int):=fun e=>h ⟨hm,(fH hr).1 e⟩
   simpa using this
 have h4:(pc s&&bif !eU s then true else lg db)=true:=by
  rw [h1,h2]
  cases eU s <;> rfl
 have hv:(Oa db s).val=some (.inr (AV.tup [AV.sl zh db,AV.agg [AV.int .i64 1,AV.int .i64 0,AV.nils]],[])):=by
  simp only [Oa,Tr.val,zp,Prod.eta,h3,h4,if_true,ite_self]
 exact jv hv rfl

theorem GG {db:List (Sem zh)} {s:Sem zm} {n:List (Sem zh)} {a:Sem cB} (hs:ey s) (hr:∀ x∈db,cI x) (hm:eU s=true) (hB:aM db) (ho:s.1=sX) (hc:hJ (db,s)=some (n,a,())):
  jk db s=some (if a.1=0 then n else db,a,()):=by
 have h1:=dK hs
 have h2:=dh hr
 have h5:fx db=(0:Int):=(fH hr).2 hB
 have q0:(s.1==[99,114,101,97,116,101])=false:=by rw [ho]; rfl
 have q1:(s.1==[100,114,111,112])=false:=by rw [ho]; rfl
 have q2:(s.1==[105,110,115,101,114,116])=false:=by rw [ho]; rfl
 have q3:(s.1==[117,112,100,97,116,101])=false:=by rw [ho]; rfl
 have q4:(s.1==[100,101,108,101,116,101])=false:=by rw [ho]; rfl
 have q5:(s.1==[115,101,108,101,99,116])=true:=by rw [ho]; rfl
 have hcc:uw (db,s)=true:=by unfold uw; rw [hc]; rfl
 have hcv:AJ (db,s)=(n,a):=by unfold AJ; rw [hc]; rfl
 unfold jk zW bh
 simp only [Oa,Tr.val,zp,Prod.eta,hm,h1,h2,h5,hcc,hcv,q0,q1,q2,q3,q4,q5,fG,bQ,jK,og,zH,if_true,if_false]
 by_cases h:a.1=0
 ·have h':(a.1 != 0)=false:=by simpa using h
  simp only [h',zH,if_false,if_pos h]
  rfl
 ·have h':(a.1 != 0)=true:=by simpa using h
  simp only [h',if_true,if_neg h]
  rfl
theorem GC {db:List (Sem zh)} {s:Sem zm} {n:List (Sem zh)} {a:Sem cB} (hs:ey s) (hr:∀ x∈db,cI x) (hm:eU s=true) (hB:aM db) (ho:s.1=VB) (hc:hY (db,s)=some (n,a,())):
  jk db s=some (if a.1=0 then n else db,a,()):=by
 have h1:=dK hs
 have h2:=dh hr
 have h5:fx db=(0:Int):=(fH hr).2 hB
 have q0:(s.1==[99,114,101,97,116,101])=false:=by rw [ho]; rfl
 have q1:(s.1==[100,114,111,112])=false:=by rw [ho]; rfl
 have q2:(s.1==[105,110,115,101,114,116])=false:=by rw [ho]; rfl
 have q3:(s.1==[117,112,100,97,116,101])=false:=by rw [ho]; rfl
 have q4:(s.1==[100,101,108,101,116,101])=true:=by rw [ho]; rfl
 have hcc:uA (db,s)=true:=by unfold uA; rw [hc]; rfl
 have hcv:AP (db,s)=(n,a):=by unfold AP; rw [hc]; rfl
 unfold jk zW bh
 simp only [Oa,Tr.val,zp,Prod.eta,hm,h1,h2,h5,hcc,hcv,q0,q1,q2,q3,q4,fG,bQ,jK,og,zH,if_true,if_false]
 by_cases h:a.1=0
 ·have h':(a.1 != 0)=false:=by simpa using h
  simp only [h',zH,if_false,if_pos h]
  rfl
 ·have h':(a.1 != 0)=true:=by simpa using h
  simp only [h',if_true,if_neg h]
  rfl
theorem zbT {db:List (Sem zh)} {s:Sem zm} {n:List (Sem zh)} {a:Sem cB} (h:jk db s=some (n,a,())):Kg db s=true∧yi db s=(n,a):=by
 unfold Kg yi
 rw [h]
 exact ⟨rfl,rfl⟩
set_option maxHeartbeats 2000000

theorem wI (x:Int) (h1:-4000000000≤x) (h2:x≤4000000000):IntKind.i64.wrap x=x:=by
 rw [ue]; omega
theorem wU (x:Int) (h1:0≤x) (h2:x≤4000000000):IntKind.u64.wrap x=x:=by
 simp only [IntKind.wrap,IntKind.bits,IntKind.signed]
 simp
 omega

def ke (k:Int) (r:List (Sem zf)):Sem zf:=bif (bif decide (k < 0) then true else decide (k ≥ (↑(length r):Int))) then (0,0,[]) else getD r k.toNat (zj zf)
def BL (k:Int) (a b:List (Sem zf)):Prop:=JP (ke k a) (ke k b)
theorem Jv {k:Int} {a b:List (Sem zf)} (h:BL k a b):¬ BL k b a:=fun g=>pg (nU h g)
def Kp (k:Int) (l0 l:List (List (Sem zf))):Prop:=l.Perm l0∧(l0.Pairwise (BL k)→l=l0)
theorem Kp.refl {k:Int} {l:List (List (Sem zf))}:Kp k l l:=⟨.refl l,fun _=>rfl⟩
theorem Kp.len {k:Int} {l0 l:List (List (Sem zf))} (h:Kp k l0 l):l.length=l0.length:=h.1.length_eq
theorem Kp.trans {k:Int} {l0 l l':List (List (Sem zf))} (h:Kp k l0 l) (g:Kp k l l'):Kp k l0 l':=⟨g.1.trans h.1,fun hr=>by
 have e:=h.2 hr
 subst e
 exact g.2 hr⟩
theorem Kp.perm {k:Int} {l l':List (List (Sem zf))} (hp:l'.Perm l) (hn:¬ l.Pairwise (BL k)):Kp k l l':=⟨hp,fun hr=>absurd hr hn⟩
theorem nR {α:Type} {l:List α} {i j:Nat} (hi:i < l.length) (hj:j < l.length) (d:α):((l.set j (l.getD i d)).set i (l.getD j d)).Perm l:=by
 have e:((l.set j l[i]).set i l[j]).Perm l:=List.set_set_perm hj hi
 rwa [aJ,aJ,zJ hj,zJ hi]
theorem M8 {k:Int} {l:List (List (Sem zf))} (h:l.Pairwise (BL k)) {i j:Nat} (hij:i < j) (hj:j < l.length) (d:List (Sem zf)):BL k (l.getD i d) (l.getD j d):=by
 have:=List.pairwise_iff_getElem.1 h i j (by omega) hj hij
 rwa [aJ,aJ,zJ (by omega),zJ hj]
theorem tk {k:Int} {l:List (List (Sem zf))} {i j:Nat} (hij:i < j) (hj:j < l.length) (d:List (Sem zf)) (hc:BL k (l.getD j d) (l.getD i d)):¬ l.Pairwise (BL k):=fun hr=>Jv hc (M8 hr hij hj d)

theorem Fg {i j:Nat} (h:j < i):decide ((i:Int) > (j:Int))=true:=by simpa using h
theorem PX (n:Nat):decide ((n:Int) > (n:Int))=false:=by simp
theorem iN {i j:Nat} (h:¬ i < j):decide ((i:Int) < (j:Int))=false:=by simpa using h
theorem mL (k:Int) (x y:List (Sem zf)):
  (bif (bif decide (k < 0) then true else decide (k ≥ (↑(length x):Int))) then bif (bif decide (k < 0) then true else decide (k ≥ (↑(length y):Int))) then bc (0,0,[]) (0,0,[]) else bc (0,0,[]) (getD y k.toNat (zj zf))
   else bif (bif decide (k < 0) then true else decide (k ≥ (↑(length y):Int))) then bc (getD x k.toNat (zj zf)) (0,0,[]) else bc (getD x k.toNat (zj zf)) (getD y k.toNat (zj zf)))=bc (ke k x) (ke k y):=by
 unfold ke
 cases (bif decide (k < 0) then true else decide (k ≥ (↑(length x):Int))) <;> cases (bif decide (k < 0) then true else decide (k ≥ (↑(length y):Int))) <;> rfl
theorem L5 (k:Int) (x:List (Sem zf)):(bif (bif decide (k < 0) then true else decide (k ≥ (↑(length x):Int))) then true else zI k (length x))=true:=by
 cases h:(bif decide (k < 0) then true else decide (k ≥ (↑(length x):Int))) with
 | true=>rfl
 | false=>
  cases h1:decide (k < 0) with
  | true=>rw [h1] at h; cases h
  | false=>
   rw [h1] at h
   simp only [bQ,decide_eq_false_iff_not] at h h1
   simp only [bQ,zI,aL,ae]
   omega
theorem jT (k:Int) (x y:List (Sem zf)):(bif (bif decide (k < 0) then true else decide (k ≥ (↑(length x):Int))) then (bif (bif decide (k < 0) then true else decide (k ≥ (↑(length y):Int))) then true else zI k (length y))
  else zI k (length x)&&(bif (bif decide (k < 0) then true else decide (k ≥ (↑(length y):Int))) then true else zI k (length y)))=true:=by
 have h1:=L5 k x
 rw [L5 k y]
 cases h:(bif decide (k < 0) then true else decide (k ≥ (↑(length x):Int))) with
 | true=>rfl
 | false=>
  rw [h] at h1
  simp only [bQ] at h1 ⊢
  rw [h1]
  rfl

theorem LU (l0:List (List (Sem zf))) (a b i:Nat) (k:Int) (hn:l0.length≤1000) (hi:i < 1000):∀ (m j:Nat) (l:List (List (Sem zf))),j=a+m→j < l.length→Kp k l0 l→
  ∃ l',Kp k l0 l'∧aF oD (m+1) (.h4 (a:Int) (b:Int) k (i:Int) (j:Int) l) (.h1 (a:Int) (b:Int) k ((i+1:Nat):Int) l'):=by
 intro m
 induction m with
 | zero=>
  intro j l hj hl hk
  refine ⟨l,hk,aF.of ?_⟩
  obtain rfl:j=a:=by omega
  simp only [oD,Tr.val,PX,bQ,zH,if_false,if_true,zD i (by unfold zC; omega)]
 | succ m IH=>
  intro j l hj hl hk
  obtain ⟨j,rfl⟩:∃ j',j=j'+1:=⟨j - 1,by omega⟩
  have hlen:=hk.len
  have e1:decide (((j+1:Nat):Int) > (a:Int))=true:=Fg (by omega)
  have e2:zI ((j+1:Nat):Int) l.length=true:=zB hl
  have e3:decide (j+1 < l.length)=true:=by simpa using hl
  have e4:IntKind.i64.wrap (((j+1:Nat):Int) - 1)=(j:Int):=qG j (by unfold zC; omega)
  have e5:zI (j:Int) l.length=true:=zB (by omega)
  have e6:decide (j < l.length)=true:=by simp; omega
  have e8:zI (j:Int) (l.set (j+1) (l.getD j (zj zf.sl))).length=true:=by rw [jM]; exact e5
  have e9:decide (j < (l.set (j+1) (l.getD j (zj zf.sl))).length)=true:=by rw [jM]; exact e6
  by_cases hc:BL k (l.getD (j+1) (zj zf.sl)) (l.getD j (zj zf.sl))
  ·have hsw:Kp k l ((l.set (j+1) (l.getD j (zj zf.sl))).set j (l.getD (j+1) (zj zf.sl))):=Kp.perm (nR (by omega) hl _) (tk (i:=j) (j:=j+1) (by omega) hl _ hc)
   obtain ⟨l',h1,h2⟩:=IH j _ (by omega) (by simp; omega) (hk.trans hsw)
   refine ⟨l',h1,((aF.of ?_).trans h2).mono (by omega)⟩
   have e7:decide (LT.lt (α:=Int) (bc (ke k (l.getD (j+1) (zj zf.sl))) (ke k (l.getD j (zj zf.sl)))) 0)=true:=ay hc
   simp only [oD,Tr.val,e4,aT]
   rw [jT,mL]
   simp only [e1,e2,e3,e5,e6,e7,e8,e9,bR,og,if_true]
  ·refine ⟨l,hk,(aF.of ?_).mono (by omega)⟩
   have e7:decide (LT.lt (α:=Int) (bc (ke k (l.getD (j+1) (zj zf.sl))) (ke k (l.getD j (zj zf.sl)))) 0)=false:=cu hc
   simp only [oD,Tr.val,e4,aT]
   rw [jT,mL]
   simp only [e1,e2,e3,e5,e6,e7,e8,e9,bR,og,if_true,zH,if_false,zD i (by unfold zC; omega)]

theorem LR (l0:List (List (Sem zf))) (a b:Nat) (k:Int) (hn:l0.length≤1000) (hb:b≤l0.length):∀ (m i:Nat) (l:List (List (Sem zf))),b - i=m→a≤i→Kp k l0 l→
  ∃ l',Kp k l0 l'∧bq oD (m * 1002+1) (.h1 (a:Int) (b:Int) k (i:Int) l) (.tup [],[.vec zf.sl l']):=by
 intro m
 induction m with
 | zero=>
  intro i l hm hi hk
  refine ⟨l,hk,(bq.of ?_).mono (by omega)⟩
  simp only [oD,Tr.val,iN (show ¬ i < b by omega),zH,if_false]
 | succ m IH=>
  intro i l hm hi hk
  have hlen:=hk.len
  obtain ⟨l1,h1,h2⟩:=LU l0 a b i k hn (by omega) (i - a) i l (by omega) (by omega) hk
  obtain ⟨l',h3,h4⟩:=IH (i+1) l1 (by omega) (by omega) h1
  refine ⟨l',h3,((aF.of ?_).trans h2 |>.ends h4).mono (by omega)⟩
  simp only [oD,Tr.val,zT (show i < b by omega),if_true]
theorem vT (l:List (List (Sem zf))) (a b:Nat) (k:Int) (hn:l.length≤1000) (ha:a≤l.length) (hb:b≤l.length):∃ l',rq l a b k=some l'∧Kp k l l':=by
 obtain ⟨l',h1,h2⟩:=LR l a b k hn hb (b - (a+1)) (a+1) l rfl (by omega) Kp.refl
 refine ⟨l',?_,h1⟩
 have:Fl l a b k=some (.tup [],[.vec zf.sl l']):=by
  unfold Fl bh G3
  rw [zD a (by unfold zC; omega)]
  have h9:b - (a+1)≤1000:=by omega
  exact h2 100000000 (cv (Nat.succ_le_succ (cN 1002 h9)) (by decide))
 unfold rq
 rw [this]
 rfl

theorem X2 (l0:List (List (Sem zf))) (a b n:Nat) (hn:l0.length≤1000) (ha:a+n≤l0.length) (hb:b+n≤l0.length):∀ (m i:Nat) (l:List (List (Sem zf))),n - i=m→i≤n→l.Perm l0→
  ∃ l',l'.Perm l0∧bq Ap (m+1) (.h1 (a:Int) (b:Int) (n:Int) (i:Int) l) (.tup [],[.vec zf.sl l']):=by
 intro m
 induction m with
 | zero=>
  intro i l hm hi hp
  obtain rfl:i=n:=by omega
  refine ⟨l,hp,bq.of ?_⟩
  simp only [Ap,Tr.val,zX,zH,if_false]
 | succ m IH=>
  intro i l hm hi hp
  have hlen:=hp.length_eq
  have e0:IntKind.i64.wrap ((b:Int)+(i:Int))=((b+i:Nat):Int):=by rw [wI _ (by omega) (by omega)]; omega
  have e1:IntKind.i64.wrap ((a:Int)+(i:Int))=((a+i:Nat):Int):=by rw [wI _ (by omega) (by omega)]; omega
  have e2:zI ((a+i:Nat):Int) l.length=true:=zB (by omega)
  have e3:zI ((b+i:Nat):Int) l.length=true:=zB (by omega)
  have e4:decide (a+i < l.length)=true:=by simp; omega
  have e5:decide (b+i < l.length)=true:=by simp; omega
  obtain ⟨l',h1,h2⟩:=IH (i+1) ((l.set (a+i) (l.getD (b+i) (zj zf.sl))).set (b+i) (l.getD (a+i) (zj zf.sl))) (by omega) (by omega) ((nR (i:=b+i) (j:=a+i) (by omega) (by omega) _).trans hp)
  refine ⟨l',h1,((aF.of ?_).ends h2).mono (by omega)⟩
  simp only [Ap,Tr.val,zT (show i < n by omega),e0,e1,e2,e3,e4,e5,aT,jM,if_true,zD i (by unfold zC; omega)]
theorem Gd (l:List (List (Sem zf))) (a b n:Nat) (k:Int) (hn:l.length≤1000) (ha:a+n≤l.length) (hb:b+n≤l.length):∃ l',Gc l a b n k=some l'∧l'.Perm l:=by
 obtain ⟨l',h1,h2⟩:=X2 l a b n hn ha hb n 0 l rfl (by omega) (.refl l)
 refine ⟨l',?_,h1⟩
 have:zff l a b n k=some (.tup [],[.vec zf.sl l']):=h2 100000000 (by omega)
 unfold Gc
 rw [this]
 rfl

theorem XT (l0:List (List (Sem zf))) (m:Nat) (k:Int) (hn:l0.length≤1000):∀ (s i j:Nat) (l:List (List (Sem zf))),i+j≤s→1≤i→1≤j→i≤m→m+j≤l0.length→l.Perm l0→
  ∃ l',l'.Perm l0∧bq w5 (s+1) (.h2 (m:Int) k (i:Int) (j:Int) l) (.tup [],[.vec zf.sl l']):=by
 intro s
 induction s with
 | zero=>intro i j l h h1; omega
 | succ s IH=>
  intro i j l hs h1 h2 h3 h4 hp
  have hlen:=hp.length_eq
  have e0:IntKind.i64.wrap ((m:Int) - (i:Int))=((m - i:Nat):Int):=by rw [wI _ (by omega) (by omega)]; omega
  rcases Nat.lt_trichotomy i j with h | h | h
  ·obtain ⟨l1,q1,q2⟩:=Gd l (m - i) (m+j - i) i k (by omega) (by omega) (by omega)
   obtain ⟨l',q3,q4⟩:=IH i (j - i) l1 (by omega) h1 (by omega) h3 (by omega) (q2.trans hp)
   refine ⟨l',q3,((aF.of ?_).ends q4).mono (by omega)⟩
   have c1:((i:Int) != (j:Int))=true:=by simp; omega
   have c2:decide ((i:Int) > (j:Int))=false:=by simp; omega
   have c3:IntKind.i64.wrap (IntKind.i64.wrap ((m:Int)+(j:Int)) - (i:Int))=((m+j - i:Nat):Int):=by rw [wI ((m:Int)+(j:Int)) (by omega) (by omega),wI _ (by omega) (by omega)]; omega
   have c4:IntKind.i64.wrap ((j:Int) - (i:Int))=((j - i:Nat):Int):=by rw [wI _ (by omega) (by omega)]; omega
   simp only [w5,Tr.val,e0,c1,c2,c3,c4,q1,fa,bP,if_true,zH,if_false]
  ·subst h
   obtain ⟨l1,q1,q2⟩:=Gd l (m - i) m i k (by omega) (by omega) (by omega)
   refine ⟨l1,q2.trans hp,(bq.of ?_).mono (by omega)⟩
   simp only [w5,Tr.val,e0,jK,q1,fa,bP,if_true,zH,if_false]
  ·obtain ⟨l1,q1,q2⟩:=Gd l (m - i) m j k (by omega) (by omega) (by omega)
   obtain ⟨l',q3,q4⟩:=IH (i - j) j l1 (by omega) (by omega) h2 (by omega) h4 (q2.trans hp)
   refine ⟨l',q3,((aF.of ?_).ends q4).mono (by omega)⟩
   have c1:((i:Int) != (j:Int))=true:=by simp; omega
   have c2:decide ((i:Int) > (j:Int))=true:=by simp; omega
   have c4:IntKind.i64.wrap ((i:Int) - (j:Int))=((i - j:Nat):Int):=by rw [wI _ (by omega) (by omega)]; omega
   simp only [w5,Tr.val,e0,c1,c2,c4,q1,fa,bP,if_true]
theorem XU (l:List (List (Sem zf))) (a m b:Nat) (k:Int) (hn:l.length≤1000) (ha:a < m) (hm:m < b) (hb:b≤l.length):∃ l',Jt l a m b k=some l'∧l'.Perm l:=by
 obtain ⟨l',h1,h2⟩:=XT l m k hn ((m - a)+(b - m)) (m - a) (b - m) l (bd _) (by omega) (by omega) (by omega) (by omega) (.refl l)
 refine ⟨l',?_,h1⟩
 have:XS l a m b k=some (.tup [],[.vec zf.sl l']):=by
  unfold XS bh G4
  rw [show IntKind.i64.wrap ((m:Int) - (a:Int))=((m - a:Nat):Int) by rw [wI _ (by omega) (by omega)]; omega,show IntKind.i64.wrap ((b:Int) - (m:Int))=((b - m:Nat):Int) by rw [wI _ (by omega) (by omega)]; omega]
  exact h2 100000000 (by omega)
 unfold Jt
 rw [this]
 rfl

theorem tg (i j:Nat) (h:i+j≤4000000):IntKind.i64.wrap (IntKind.u64.wrap (IntKind.i64.wrap ((i:Int)+(j:Int))) / 2)=(((i+j) / 2:Nat):Int):=by
 rw [wI ((i:Int)+(j:Int)) (by omega) (by omega),wU _ (by omega) (by omega),wI _ (by omega) (by omega)]
 omega

section
variable (o:SM) (k:Int)

theorem zfc (l:List (List (Sem zf))) (a m b:Nat) (hn:l.length≤1000) (ha:a < m) (hb:b≤l.length):∀ (s i j:Nat),j - i≤s→m≤i→i≤j→j≤b→(i=m∨¬ l.Pairwise (BL k))→
  ∃ i',m≤i'∧i'≤b∧(i'=m∨¬ l.Pairwise (BL k))∧aF (dG o) (s+1) (.h3 (a:Int) k (i:Int) (j:Int) l) (.h9 (i':Int) (a:Int) l):=by
 intro s
 induction s with
 | zero=>
  intro i j h1 h2 h3 h4 h5
  refine ⟨i,h2,by omega,h5,aF.of ?_⟩
  simp only [dG,Tr.val,iN (show ¬ i < j by omega),zH,if_false]
 | succ s IH=>
  intro i j h1 h2 h3 h4 h5
  by_cases hij:i < j
  case neg=>
   refine ⟨i,h2,by omega,h5,(aF.of ?_).mono (by omega)⟩
   simp only [dG,Tr.val,iN hij,zH,if_false]
  have e0:=tg i j (by omega)
  have hh:i≤(i+j) / 2∧(i+j) / 2 < j:=by omega
  generalize (i+j) / 2=h at e0 hh
  have e1:zI ((h:Nat):Int) l.length=true:=zB (by omega)
  have e2:decide (h < l.length)=true:=by simp; omega
  have e3:zI ((a:Nat):Int) l.length=true:=zB (by omega)
  have e4:decide (a < l.length)=true:=by simp; omega
  by_cases hc:BL k (l.getD h (zj zf.sl)) (l.getD a (zj zf.sl))
  ·obtain ⟨i',q1,q2,q3,q4⟩:=IH (h+1) j (by omega) (by omega) (by omega) h4 (.inr (tk (i:=a) (j:=h) (by omega) (by omega) _ hc))
   refine ⟨i',q1,q2,q3,((aF.of ?_).trans q4).mono (by omega)⟩
   have e7:decide (LT.lt (α:=Int) (bc (ke k (l.getD h (zj zf.sl))) (ke k (l.getD a (zj zf.sl)))) 0)=true:=ay hc
   simp only [dG,Tr.val,e0,aT]
   rw [jT,mL]
   simp only [zT hij,e1,e2,e3,e4,e7,if_true,zD h (by unfold zC; omega)]
  ·obtain ⟨i',q1,q2,q3,q4⟩:=IH i h (by omega) h2 (by omega) (by omega) h5
   refine ⟨i',q1,q2,q3,((aF.of ?_).trans q4).mono (by omega)⟩
   have e7:decide (LT.lt (α:=Int) (bc (ke k (l.getD h (zj zf.sl))) (ke k (l.getD a (zj zf.sl)))) 0)=false:=cu hc
   simp only [dG,Tr.val,e0,aT]
   rw [jT,mL]
   simp only [zT hij,e1,e2,e3,e4,e7,if_true,zH,if_false]

theorem zfd (l0:List (List (Sem zf))) (i:Nat) (hn:l0.length≤1000) (hi:i≤l0.length):∀ (s c:Nat) (l:List (List (Sem zf))),i - c≤s→l.Perm l0→
  ∃ l',l'.Perm l0∧((i≤c+1)→l'=l)∧bq (dG o) (s+1) (.h9 (i:Int) (c:Int) l) (.tup [],[.vec zf.sl l']):=by
 intro s
 induction s with
 | zero=>
  intro c l h1 hp
  refine ⟨l,hp,fun _=>rfl,bq.of ?_⟩
  have e0:decide ((c:Int) < IntKind.i64.wrap ((i:Int) - 1))=false:=by
   by_cases h0:i=0
   ·subst h0
    rw [wI _ (by omega) (by omega)]
    simp only [decide_eq_false_iff_not]; omega
   ·rw [wI _ (by omega) (by omega)]
    simp only [decide_eq_false_iff_not]; omega
  simp only [dG,Tr.val,e0,zH,if_false]
 | succ s IH=>
  intro c l h1 hp
  have hlen:=hp.length_eq
  by_cases hc:c+1 < i
  case neg=>
   refine ⟨l,hp,fun _=>rfl,(bq.of ?_).mono (by omega)⟩
   have e0:decide ((c:Int) < IntKind.i64.wrap ((i:Int) - 1))=false:=by
    rw [wI _ (by omega) (by omega)]
    simp only [decide_eq_false_iff_not]; omega
   simp only [dG,Tr.val,e0,zH,if_false]
  have e0:decide ((c:Int) < IntKind.i64.wrap ((i:Int) - 1))=true:=by
   rw [wI _ (by omega) (by omega)]
   simp only [ae]; omega
  have e1:zI ((c+1:Nat):Int) l.length=true:=zB (by omega)
  have e2:zI ((c:Nat):Int) l.length=true:=zB (by omega)
  have e3:decide (c+1 < l.length)=true:=by simp; omega
  have e4:decide (c < l.length)=true:=by simp; omega
  obtain ⟨l',q1,_,q3⟩:=IH (c+1) ((l.set c (l.getD (c+1) (zj zf.sl))).set (c+1) (l.getD c (zj zf.sl))) (by omega) ((nR (i:=c+1) (j:=c) (by omega) (by omega) _).trans hp)
  refine ⟨l',q1,fun h=>by omega,((aF.of ?_).ends q3).mono (by omega)⟩
  simp only [dG,Tr.val,e0,zD c (by unfold zC; omega),e1,e2,e3,e4,aT,jM,if_true]

theorem XZ (l:List (List (Sem zf))) (a m:Nat) (hn:l.length≤1000) (hm:m < l.length):∀ (s i j:Nat),j - i≤s→a≤i→i≤j→j≤m→(j=m∨¬ l.Pairwise (BL k))→
  ∃ i',a≤i'∧i'≤m∧(i'=m∨¬ l.Pairwise (BL k))∧aF (dG o) (s+1) (.h15 (m:Int) k (i:Int) (j:Int) l) (.h21 (i':Int) (m:Int) l):=by
 intro s
 induction s with
 | zero=>
  intro i j h1 h2 h3 h4 h5
  refine ⟨i,h2,by omega,h5.imp (fun h=>by omega) id,aF.of ?_⟩
  simp only [dG,Tr.val,iN (show ¬ i < j by omega),zH,if_false]
 | succ s IH=>
  intro i j h1 h2 h3 h4 h5
  by_cases hij:i < j
  case neg=>
   refine ⟨i,h2,by omega,h5.imp (fun h=>by omega) id,(aF.of ?_).mono (by omega)⟩
   simp only [dG,Tr.val,iN hij,zH,if_false]
  have e0:=tg i j (by omega)
  have hh:i≤(i+j) / 2∧(i+j) / 2 < j:=by omega
  generalize (i+j) / 2=h at e0 hh
  have e1:zI ((h:Nat):Int) l.length=true:=zB (by omega)
  have e2:decide (h < l.length)=true:=by simp; omega
  have e3:zI ((m:Nat):Int) l.length=true:=zB (by omega)
  have e4:decide (m < l.length)=true:=by simp; omega
  by_cases hc:BL k (l.getD m (zj zf.sl)) (l.getD h (zj zf.sl))
  ·obtain ⟨i',q1,q2,q3,q4⟩:=IH i h (by omega) h2 (by omega) (by omega) (.inr (tk (i:=h) (j:=m) (by omega) (by omega) _ hc))
   refine ⟨i',q1,q2,q3,((aF.of ?_).trans q4).mono (by omega)⟩
   have e7:decide (LT.lt (α:=Int) (bc (ke k (l.getD m (zj zf.sl))) (ke k (l.getD h (zj zf.sl)))) 0)=true:=ay hc
   simp only [dG,Tr.val,e0,aT]
   rw [jT,mL]
   simp only [zT hij,e1,e2,e3,e4,e7,if_true,fG,zH,if_false]
  ·obtain ⟨i',q1,q2,q3,q4⟩:=IH (h+1) j (by omega) (by omega) (by omega) h4 h5
   refine ⟨i',q1,q2,q3,((aF.of ?_).trans q4).mono (by omega)⟩
   have e7:decide (LT.lt (α:=Int) (bc (ke k (l.getD m (zj zf.sl))) (ke k (l.getD h (zj zf.sl)))) 0)=false:=cu hc
   simp only [dG,Tr.val,e0,aT]
   rw [jT,mL]
   simp only [zT hij,e1,e2,e3,e4,e7,if_true,pn,zD h (by unfold zC; omega)]

theorem X0 (l0:List (List (Sem zf))) (i:Nat) (hn:l0.length≤1000):∀ (s c:Nat) (l:List (List (Sem zf))),c - i≤s→c < l0.length→l.Perm l0→
  ∃ l',l'.Perm l0∧(c≤i→l'=l)∧bq (dG o) (s+1) (.h21 (i:Int) (c:Int) l) (.tup [],[.vec zf.sl l']):=by
 intro s
 induction s with
 | zero=>
  intro c l h1 hcl hp
  refine ⟨l,hp,fun _=>rfl,bq.of ?_⟩
  have e0:decide ((c:Int) > (i:Int))=false:=by simp; omega
  simp only [dG,Tr.val,e0,zH,if_false]
 | succ s IH=>
  intro c l h1 hcl hp
  have hlen:=hp.length_eq
  by_cases hc:i < c
  case neg=>
   refine ⟨l,hp,fun _=>rfl,(bq.of ?_).mono (by omega)⟩
   have e0:decide ((c:Int) > (i:Int))=false:=by simp; omega
   simp only [dG,Tr.val,e0,zH,if_false]
  obtain ⟨c,rfl⟩:∃ c',c=c'+1:=⟨c - 1,by omega⟩
  have e0:decide (((c+1:Nat):Int) > (i:Int))=true:=Fg hc
  have e1:zI ((c+1:Nat):Int) l.length=true:=zB (by omega)
  have e2:zI ((c:Nat):Int) l.length=true:=zB (by omega)
  have e3:decide (c+1 < l.length)=true:=by simp; omega
  have e4:decide (c < l.length)=true:=by simp; omega
  have e5:IntKind.i64.wrap (((c+1:Nat):Int) - 1)=(c:Int):=qG c (by unfold zC; omega)
  obtain ⟨l',q1,_,q3⟩:=IH c ((l.set (c+1) (l.getD c (zj zf.sl))).set c (l.getD (c+1) (zj zf.sl))) (by omega) (by omega) ((nR (i:=c) (j:=c+1) (by omega) (by omega) _).trans hp)
  refine ⟨l',q1,fun h=>by omega,((aF.of ?_).ends q3).mono (by omega)⟩
  simp only [dG,Tr.val,e0,e5,e1,e2,e3,e4,aT,jM,if_true]
end

section
variable (o:SM) (k:Int)

theorem NR (l:List (List (Sem zf))) (a m b mid n p lo r0:Nat) (hn:l.length≤1000) (hr0:r0≤1000) (hp:p≤2000) (hB:∀ c,lo≤c→c < r0→c+c < p∧p < l.length+c):∀ (s i j:Nat),j - i≤s→lo≤i→i≤j→j≤r0→(j=r0∨¬ l.Pairwise (BL k))→
  ∃ i',lo≤i'∧i'≤r0∧(i'=r0∨¬ l.Pairwise (BL k))∧aF (dG o) s (.h33 (a:Int) (m:Int) (b:Int) k (mid:Int) (n:Int) (i:Int) (j:Int) (p:Int) l) (.h33 (a:Int) (m:Int) (b:Int) k (mid:Int) (n:Int) (i':Int) (i':Int) (p:Int) l):=by
 intro s
 induction s with
 | zero=>
  intro i j h1 h2 h3 h4 h5
  obtain rfl:i=j:=by omega
  exact ⟨i,h2,h4,h5,aF.refl _⟩
 | succ s IH=>
  intro i j h1 h2 h3 h4 h5
  by_cases hij:i < j
  case neg=>
   obtain rfl:i=j:=by omega
   exact ⟨i,h2,h4,h5,(aF.refl _).mono (by omega)⟩
  have e0:=tg i j (by omega)
  have hh:i≤(i+j) / 2∧(i+j) / 2 < j:=by omega
  generalize (i+j) / 2=h at e0 hh
  obtain ⟨b1,b2⟩:=hB h (by omega) (by omega)
  have e5:IntKind.i64.wrap ((p:Int) - (h:Int))=((p - h:Nat):Int):=by rw [wI _ (by omega) (by omega)]; omega
  have e1:zI ((h:Nat):Int) l.length=true:=zB (by omega)
  have e2:decide (h < l.length)=true:=by simp; omega
  have e3:zI ((p - h:Nat):Int) l.length=true:=zB (by omega)
  have e4:decide (p - h < l.length)=true:=by simp; omega
  by_cases hc:BL k (l.getD (p - h) (zj zf.sl)) (l.getD h (zj zf.sl))
  ·obtain ⟨i',q1,q2,q3,q4⟩:=IH i h (by omega) h2 (by omega) (by omega) (.inr (tk (i:=h) (j:=p - h) (by omega) (by omega) _ hc))
   refine ⟨i',q1,q2,q3,((aF.of ?_).trans q4).mono (by omega)⟩
   have e7:decide (LT.lt (α:=Int) (bc (ke k (l.getD (p - h) (zj zf.sl))) (ke k (l.getD h (zj zf.sl)))) 0)=true:=ay hc
   simp only [dG,Tr.val,e0,e5,aT]
   rw [jT,mL]
   simp only [zT hij,e1,e2,e3,e4,e7,if_true,fG,zH,if_false]
  ·obtain ⟨i',q1,q2,q3,q4⟩:=IH (h+1) j (by omega) (by omega) (by omega) h4 h5
   refine ⟨i',q1,q2,q3,((aF.of ?_).trans q4).mono (by omega)⟩
   have e7:decide (LT.lt (α:=Int) (bc (ke k (l.getD (p - h) (zj zf.sl))) (ke k (l.getD h (zj zf.sl)))) 0)=false:=cu hc
   simp only [dG,Tr.val,e0,e5,aT]
   rw [jT,mL]
   simp only [zT hij,e1,e2,e3,e4,e7,if_true,pn,zD h (by unfold zC; omega)]

theorem Pw {a b c d:Nat}:(bif decide ((a:Int) < (b:Int)) then decide ((c:Int) < (d:Int)) else false)=decide (a < b∧c < d):=by
 by_cases h:a < b
 ·have:decide ((a:Int) < (b:Int))=true:=by simpa using h
  rw [this]
  simp [h]
 ·have:decide ((a:Int) < (b:Int))=false:=by simpa using h
  rw [this]
  simp [h]

theorem NQ {D:Nat} (hO:∀ (l:List (List (Sem zf))) (a m b:Nat),l.length≤1000→a < m→m < b→b≤l.length→b - a≤D→∃ l',o l a m b k=some l'∧Kp k l l') (l:List (List (Sem zf))) (a m b mid n st en:Nat) (p:Int) (hn:l.length≤1000) (hb:b≤l.length) (he:n=st+en) (_:n≤2000)
  (_:a≤st) (h2:en≤b) (h3:mid - a≤D) (h4:b - mid≤D) (hmb:mid≤b) (hr:st < m→m < en→¬ l.Pairwise (BL k)):
  ∃ l',Kp k l l'∧(dG o (.h33 (a:Int) (m:Int) (b:Int) k (mid:Int) (n:Int) (st:Int) (st:Int) p l)).val=some (.inr (.tup [],[.vec zf.sl l'])):=by
 have e0:IntKind.i64.wrap ((n:Int) - (st:Int))=(en:Int):=by rw [wI _ (by omega) (by omega)]; omega
 have e1:decide ((st:Int) < (st:Int))=false:=by simp
 obtain ⟨l1,p1,p2⟩:∃ l1,Kp k l l1∧(if st < m∧m < en then Jt l st m en k=some l1 else l1=l):=by
  by_cases h:st < m∧m < en
  ·obtain ⟨l1,q1,q2⟩:=XU l st m en k hn h.1 h.2 (by omega)
   exact ⟨l1,Kp.perm q2 (hr h.1 h.2),by rw [if_pos h]; exact q1⟩
  ·exact ⟨l,Kp.refl,by rw [if_neg h]⟩
 obtain ⟨l2,p3,p4⟩:∃ l2,Kp k l1 l2∧(if a < st∧st < mid then o l1 a st mid k=some l2 else l2=l1):=by
  by_cases h:a < st∧st < mid
  ·obtain ⟨l2,q1,q2⟩:=hO l1 a st mid (by rw [p1.len]; exact hn) h.1 h.2 (by rw [p1.len]; omega) h3
   exact ⟨l2,q2,by rw [if_pos h]; exact q1⟩
  ·exact ⟨l1,Kp.refl,by rw [if_neg h]⟩
 obtain ⟨l3,p5,p6⟩:∃ l3,Kp k l2 l3∧(if mid < en∧en < b then o l2 mid en b k=some l3 else l3=l2):=by
  by_cases h:mid < en∧en < b
  ·obtain ⟨l3,q1,q2⟩:=hO l2 mid en b (by rw [p3.len,p1.len]; exact hn) h.1 h.2 (by rw [p3.len,p1.len]; omega) h4
   exact ⟨l3,q2,by rw [if_pos h]; exact q1⟩
  ·exact ⟨l2,Kp.refl,by rw [if_neg h]⟩
 refine ⟨l3,(p1.trans p3).trans p5,?_⟩
 simp only [dG,Tr.val,e0,e1,Pw,zH,if_false]
 by_cases c1:st < m∧m < en
 ·rw [if_pos c1] at p2
  by_cases c2:a < st∧st < mid
  ·rw [if_pos c2] at p4
   by_cases c3:mid < en∧en < b
   ·rw [if_pos c3] at p6
    simp only [ay c1,ay c2,ay c3,p2,p4,p6,fa,bP,if_true]
   ·rw [if_neg c3] at p6
    subst p6
    simp only [ay c1,ay c2,cu c3,p2,p4,fa,bP,if_true,zH,if_false]
  ·rw [if_neg c2] at p4
   subst p4
   by_cases c3:mid < en∧en < b
   ·rw [if_pos c3] at p6
    simp only [ay c1,cu c2,ay c3,p2,p6,fa,bP,if_true,zH,if_false]
   ·rw [if_neg c3] at p6
    subst p6
    simp only [ay c1,cu c2,cu c3,p2,fa,bP,if_true,zH,if_false]
 ·rw [if_neg c1] at p2
  subst p2
  by_cases c2:a < st∧st < mid
  ·rw [if_pos c2] at p4
   by_cases c3:mid < en∧en < b
   ·rw [if_pos c3] at p6
    simp only [cu c1,ay c2,ay c3,p4,p6,fa,bP,if_true,zH,if_false]
   ·rw [if_neg c3] at p6
    subst p6
    simp only [cu c1,ay c2,cu c3,p4,fa,bP,if_true,zH,if_false]
  ·rw [if_neg c2] at p4
   subst p4
   by_cases c3:mid < en∧en < b
   ·rw [if_pos c3] at p6
    simp only [cu c1,cu c2,ay c3,p6,fa,bP,if_true,zH,if_false]
   ·rw [if_neg c3] at p6
    subst p6
    simp only [cu c1,cu c2,cu c3,zH,if_false]
end

theorem BR {o:SM} {l l':List (List (Sem zf))} {a m b k:Int} (h:bh (dG o) 100000000 (sn o l a m b k)=some (.tup [],[.vec zf.sl l'])):smS o l a m b k=some l':=by
 unfold smS
 rw [h]
 rfl

theorem NS (k:Int):∀ (N:Nat) (l:List (List (Sem zf))) (a m b:Nat),l.length≤1000→a < m→m < b→b≤l.length→b - a≤2 ^ N→∃ l',wZ N l a m b k=some l'∧Kp k l l'
 | 0,_,a,m,b,_,h1,h2,_,h4=>by simp at h4; omega
 | N+1,l,a,m,b,hn,h1,h2,h3,h4=>by
  have hO:=NS k N
  have e0:IntKind.i64.wrap ((m:Int) - (a:Int))=((m - a:Nat):Int):=by rw [wI _ (by omega) (by omega)]; omega
  have e1:IntKind.i64.wrap ((b:Int) - (m:Int))=((b - m:Nat):Int):=by rw [wI _ (by omega) (by omega)]; omega
  by_cases c1:m - a=1
  ·obtain ⟨i',q1,q2,q3,q4⟩:=zfc (wZ N) k l a m b hn h1 h3 (b - m) m b (bd _) (bd _) (by omega) (bd _) (.inl rfl)
   obtain ⟨l',r1,r2,r3⟩:=zfd (wZ N) l i' hn (by omega) (i' - a) a l (bd _) (.refl l)
   refine ⟨l',BR ?_,?_⟩
   ·have c1':(((m - a:Nat):Int)==1)=true:=by rw [c1]; rfl
    unfold bh
    simp only [sn,Tr.val,e0,c1',if_true]
    exact (q4.ends r3) 100000000 (by omega)
   ·rcases q3 with rfl | q3
    ·rw [r2 (by omega)]; exact Kp.refl
    ·exact Kp.perm r1 q3
  have c1':(((m - a:Nat):Int)==1)=false:=by simp; omega
  by_cases c2:b - m=1
  ·obtain ⟨i',q1,q2,q3,q4⟩:=XZ (wZ N) k l a m hn (by omega) (m - a) a m (bd _) (bd _) (by omega) (bd _) (.inl rfl)
   obtain ⟨l',r1,r2,r3⟩:=X0 (wZ N) l i' hn (m - i') m l (bd _) (by omega) (.refl l)
   refine ⟨l',BR ?_,?_⟩
   ·have c2':(((b - m:Nat):Int)==1)=true:=by rw [c2]; rfl
    unfold bh
    simp only [sn,Tr.val,e0,e1,c1',c2',if_true,zH,if_false]
    exact (q4.ends r3) 100000000 (by omega)
   ·rcases q3 with rfl | q3
    ·rw [r2 (bd _)]; exact Kp.refl
    ·exact Kp.perm r1 q3
  have c2':(((b - m:Nat):Int)==1)=false:=by simp; omega
  have e2:=tg a b (by omega)
  have hmid:a≤(a+b) / 2∧(a+b) / 2≤b∧2 * ((a+b) / 2)≤a+b∧a+b≤2 * ((a+b) / 2)+1:=by omega
  generalize (a+b) / 2=mid at e2 hmid
  obtain ⟨g1,g2,g3,g4⟩:=hmid
  have hD:mid - a≤2 ^ N∧b - mid≤2 ^ N:=by rw [Nat.pow_succ] at h4; omega
  have e3:IntKind.i64.wrap ((mid:Int)+(m:Int))=((mid+m:Nat):Int):=by rw [wI _ (by omega) (by omega)]; omega
  have e4:IntKind.i64.wrap (((mid+m:Nat):Int) - 1)=((mid+m - 1:Nat):Int):=by rw [wI _ (by omega) (by omega)]; omega
  by_cases c3:mid < m
  ·
   have e5:IntKind.i64.wrap (((mid+m:Nat):Int) - (b:Int))=((mid+m - b:Nat):Int):=by rw [wI _ (by omega) (by omega)]; omega
   have c3':decide ((m:Int) > (mid:Int))=true:=Fg c3
   obtain ⟨st,q1,q2,q3,q4⟩:=NR (wZ N) k l a m b mid (mid+m) (mid+m - 1) (mid+m - b) mid hn (by omega) (by omega) (fun c u1 u2=>by omega) (mid - (mid+m - b)) (mid+m - b) mid (bd _) (bd _) (by omega) (bd _) (.inl rfl)
   obtain ⟨l',r1,r2⟩:=NQ (wZ N) k hO l a m b mid (mid+m) st (mid+m - st) ((mid+m - 1:Nat):Int) hn h3 (by omega) (by omega) (by omega) (by omega) hD.1 hD.2 g2 (fun u1 u2=>by
    rcases q3 with rfl | q3
    ·omega
    ·exact q3)
   refine ⟨l',BR ?_,r1⟩
   unfold bh
   simp only [sn,Tr.val,e0,e1,e2,e3,e4,e5,c1',c2',c3',if_true,zH,if_false]
   exact (q4.ends (bq.of r2)) 100000000 (by omega)
  ·have c3':decide ((m:Int) > (mid:Int))=false:=by simp; omega
   obtain ⟨st,q1,q2,q3,q4⟩:=NR (wZ N) k l a m b mid (mid+m) (mid+m - 1) a m hn (by omega) (by omega) (fun c u1 u2=>by omega) (m - a) a m (bd _) (bd _) (by omega) (bd _) (.inl rfl)
   obtain ⟨l',r1,r2⟩:=NQ (wZ N) k hO l a m b mid (mid+m) st (mid+m - st) ((mid+m - 1:Nat):Int) hn h3 (by omega) (by omega) (by omega) (by omega) hD.1 hD.2 g2 (fun u1 u2=>by
    rcases q3 with rfl | q3
    ·omega
    ·exact q3)
   refine ⟨l',BR ?_,r1⟩
   unfold bh
   simp only [sn,Tr.val,e0,e1,e2,e3,e4,c1',c2',c3',if_true,zH,if_false]
   exact (q4.ends (bq.of r2)) 100000000 (by omega)

theorem zhV (k:Int) (l0:List (List (Sem zf))) (bs:Nat) (hn:l0.length≤1000) (hb:1≤bs) (hb2:bs≤1000):∀ (s a:Nat) (l:List (List (Sem zf))),l0.length - a≤s→a≤l0.length→Kp k l0 l→
  ∃ l',Kp k l0 l'∧aF iH (s+1) (.h9 (l0.length:Int) k (bs:Int) (a:Int) ((a+2 * bs:Nat):Int) l) (.h7 (l0.length:Int) k ((2 * bs:Nat):Int) l'):=by
 intro s
 induction s with
 | zero=>
  intro a l hs ha hk
  refine ⟨l,hk,aF.of ?_⟩
  have e0:IntKind.i64.wrap ((a:Int)+(bs:Int))=((a+bs:Nat):Int):=by rw [wI _ (by omega) (by omega)]; omega
  have e1:IntKind.i64.wrap ((bs:Int) * 2)=((2 * bs:Nat):Int):=by rw [wI _ (by omega) (by omega)]; omega
  have e2:decide (((a+2 * bs:Nat):Int)≤(l0.length:Int))=false:=by simp; omega
  simp only [iH,Tr.val,e0,e1,e2,iN (show ¬ a+bs < l0.length by omega),zH,if_false]
 | succ s IH=>
  intro a l hs ha hk
  have hlen:=hk.len
  have e0:IntKind.i64.wrap ((a:Int)+(bs:Int))=((a+bs:Nat):Int):=by rw [wI _ (by omega) (by omega)]; omega
  have e1:IntKind.i64.wrap ((bs:Int) * 2)=((2 * bs:Nat):Int):=by rw [wI _ (by omega) (by omega)]; omega
  have e3:IntKind.i64.wrap (((a+2 * bs:Nat):Int)+IntKind.i64.wrap (2 * (bs:Int)))=((a+2 * bs+2 * bs:Nat):Int):=by rw [wI (2 * (bs:Int)) (by omega) (by omega),wI _ (by omega) (by omega)]; omega
  by_cases c1:a+2 * bs≤l0.length
  ·obtain ⟨l1,q1,q2⟩:=NS k 16 l a (a+bs) (a+2 * bs) (by omega) (by omega) (by omega) (by omega) (by simp; omega)
   obtain ⟨l',q3,q4⟩:=IH (a+2 * bs) l1 (by omega) c1 (hk.trans q2)
   refine ⟨l',q3,((aF.of ?_).trans q4).mono (by omega)⟩
   have e2:decide (((a+2 * bs:Nat):Int)≤(l0.length:Int))=true:=by simp; omega
   simp only [iH,Tr.val,e0,e2,e3,q1,fa,bP,if_true]
  ·have e2:decide (((a+2 * bs:Nat):Int)≤(l0.length:Int))=false:=by simp; omega
   by_cases c2:a+bs < l0.length
   ·obtain ⟨l1,q1,q2⟩:=NS k 16 l a (a+bs) l0.length (by omega) (by omega) c2 (by omega) (by simp; omega)
    refine ⟨l1,hk.trans q2,(aF.of ?_).mono (by omega)⟩
    simp only [iH,Tr.val,e0,e1,e2,zT c2,q1,fa,bP,if_true,zH,if_false]
   ·refine ⟨l,hk,(aF.of ?_).mono (by omega)⟩
    simp only [iH,Tr.val,e0,e1,e2,iN c2,zH,if_false]

theorem zhU (k:Int) (l0:List (List (Sem zf))) (hn:l0.length≤1000):∀ (s bs:Nat) (l:List (List (Sem zf))),l0.length - bs≤s→1≤bs→Kp k l0 l→
  ∃ l',Kp k l0 l'∧bq iH (s * 1002+1) (.h7 (l0.length:Int) k (bs:Int) l) (.tup [],[.vec zf.sl l']):=by
 intro s
 induction s with
 | zero=>
  intro bs l hs hb hk
  refine ⟨l,hk,(bq.of ?_).mono (by omega)⟩
  simp only [iH,Tr.val,iN (show ¬ bs < l0.length by omega),zH,if_false]
 | succ s IH=>
  intro bs l hs hb hk
  by_cases c:bs < l0.length
  case neg=>
   refine ⟨l,hk,(bq.of ?_).mono (by omega)⟩
   simp only [iH,Tr.val,iN c,zH,if_false]
  obtain ⟨l1,q1,q2⟩:=zhV k l0 bs hn hb (by omega) l0.length 0 l (by omega) (by omega) hk
  obtain ⟨l',q3,q4⟩:=IH (2 * bs) l1 (by omega) (by omega) q1
  refine ⟨l',q3,(((aF.of ?_).trans q2).ends q4).mono (by omega)⟩
  have e1:IntKind.i64.wrap (2 * (bs:Int))=((0+2 * bs:Nat):Int):=by rw [wI _ (by omega) (by omega)]; omega
  simp only [iH,Tr.val,zT c,e1,if_true]
  rfl

theorem zhT (k:Int) (l0:List (List (Sem zf))) (hn:l0.length≤1000):∀ (s a:Nat) (l:List (List (Sem zf))),l0.length - a≤s→a≤l0.length→Kp k l0 l→
  ∃ l',Kp k l0 l'∧aF iH (s+1) (.h2 (l0.length:Int) k 20 (a:Int) ((a+20:Nat):Int) l) (.h7 (l0.length:Int) k 20 l'):=by
 intro s
 induction s with
 | zero=>
  intro a l hs ha hk
  have hlen:=hk.len
  obtain ⟨l1,q1,q2⟩:=vT l a l0.length k (by omega) (by omega) (by omega)
  refine ⟨l1,hk.trans q2,aF.of ?_⟩
  have e2:decide (((a+20:Nat):Int)≤(l0.length:Int))=false:=by simp; omega
  simp only [iH,Tr.val,e2,q1,fa,bP,if_true,zH,if_false]
 | succ s IH=>
  intro a l hs ha hk
  have hlen:=hk.len
  by_cases c:a+20≤l0.length
  ·obtain ⟨l1,q1,q2⟩:=vT l a (a+20) k (by omega) (by omega) (by omega)
   obtain ⟨l',q3,q4⟩:=IH (a+20) l1 (by omega) c (hk.trans q2)
   refine ⟨l',q3,((aF.of ?_).trans q4).mono (by omega)⟩
   have e2:decide (((a+20:Nat):Int)≤(l0.length:Int))=true:=by simp; omega
   have e3:IntKind.i64.wrap (((a+20:Nat):Int)+20)=((a+20+20:Nat):Int):=by rw [wI _ (by omega) (by omega)]; omega
   simp only [iH,Tr.val,e2,e3,q1,fa,bP,if_true]
  ·obtain ⟨l1,q1,q2⟩:=vT l a l0.length k (by omega) (by omega) (by omega)
   refine ⟨l1,hk.trans q2,(aF.of ?_).mono (by omega)⟩
   have e2:decide (((a+20:Nat):Int)≤(l0.length:Int))=false:=by simp; omega
   simp only [iH,Tr.val,e2,q1,fa,bP,if_true,zH,if_false]

theorem Qy (k:Int) (l:List (List (Sem zf))) (hn:l.length≤1000):∃ l',D7 l (l.length:Int) k=some l'∧Kp k l l':=by
 obtain ⟨l1,q1,q2⟩:=zhT k l hn l.length 0 l (by omega) (by omega) Kp.refl
 obtain ⟨l',q3,q4⟩:=zhU k l hn l.length 20 l1 (by omega) (by omega) q1
 refine ⟨l',?_,q3⟩
 have:Td l (l.length:Int) k=some (.tup [],[.vec zf.sl l']):=by
  have h9:=cN 1002 hn
  exact (q2.ends q4) 100000000 (by
   refine cv (Nat.add_le_add (Nat.succ_le_succ h9) (Nat.succ_le_succ hn)) (by decide))
 unfold D7
 rw [this]
 rfl
theorem D5 (k:Int) (l:List (List (Sem zf))) (hn:l.length≤1000):∃ l',rO l k=some l'∧Kp k l l':=by
 obtain ⟨l',q1,q2⟩:=Qy k l hn
 refine ⟨l',?_,q2⟩
 have:F9 l k=some (.tup [],[.vec zf.sl l']):=by
  unfold F9 bh
  simp only [G2,Tr.val,q1,fa,bP,if_true]
 unfold rO
 rw [this]
 rfl

theorem Nv {x:Sem zh} (hc:EB x=true) (hn:x.2.length≤1000):∃ l',BE x=some ((x.1,l'),())∧l'.Perm x.2∧(gq x.1=true→Kp x.1.2.2.1 x.2 l'):=by
 have fin:∀ l':List (List (Sem zf)),ap [AO.vec zi x.1.2.1,AO.vec zg x.1.2.2.2.1,AO.vec zq x.1.2.2.2.2.1,AO.vec zf.sl l'] [zh] (AV.agg [AV.str x.1.1,AV.vec 0,AV.int .i64 x.1.2.2.1,AV.vec 1,AV.vec 2,AV.str (ze.op x.1.2.2.2.2.2),AV.int .i64 (ze.v x.1.2.2.2.2.2).1,AV.int .i64 (ze.v x.1.2.2.2.2.2).2.1,AV.str (ze.v x.1.2.2.2.2.2).2.2,AV.str (ze.s x.1.2.2.2.2.2),AV.sl Sh.expr (ze.l x.1.2.2.2.2.2),AV.vec 3])=some (((x.1,l'):Sem zh),()):=by
  intro l'
  obtain ⟨⟨a,b,c,d,e,f⟩,r⟩:=x
  cases f
  rfl
 cases hm:gq x.1 with
 | true=>
  obtain ⟨l',q1,q2⟩:=D5 x.1.2.2.1 x.2 hn
  refine ⟨l',jv (r:=(_,_)) ?_ (fin l'),q2.1,fun _=>q2⟩
  simp only [Wn,Tr.val,zp,Prod.eta,hc,hm,q1,fa,bP,fG,zH,if_true,if_false]
 | false=>
  obtain ⟨l',q1,q2⟩:=D5 (-1) x.2 hn
  refine ⟨l',jv (r:=(_,_)) ?_ (fin l'),q2.1,fun h=>(by cases h)⟩
  simp only [Wn,Tr.val,zp,Prod.eta,hc,hm,q1,fa,bP,pn,if_true]

structure cC (x:Sem zh):Prop where
 sh:cI x
 cp:kX 16 x.1.2.2.2.2.2=true

set_option maxHeartbeats 1000000

def Ins (n:zo) (r:List (Sem zf)) (db d:List (Sem zh)):Prop:=
 ∃ (i:Nat) (s:List (List (Sem zf))),zR db n=(i:Int)∧s.Perm ((db.getD i (zj zh)).2++[r])∧d=db.set i ((db.getD i (zj zh)).1,s)∧aM d
inductive Cm (n:zo) (db:List (Sem zh)):List (List (Sem zf))→List (Sem zh)→Prop
 | nil:Cm n db [] db
 | snoc {l:List (List (Sem zf))} {d:List (Sem zh)} {r:List (Sem zf)} {d':List (Sem zh)} (h:Cm n db l d) (hi:Ins n r d d'):Cm n db (l++[r]) d'

theorem D3 {α:Type} {l:List α} {i:Nat} {d:α}:l.set i (l.getD i d)=l:=by
 refine x8 fun j=>?_
 rw [jJ]
 by_cases e:i=j
 ·subst e
  rw [if_pos rfl]
  by_cases hi:i < l.length
  ·rw [if_pos hi,aJ,zJ hi]; rfl
  ·rw [if_neg hi,dd (by omega)]
 ·rw [if_neg e]
theorem Lk {α:Type} {l:List α} {i:Nat} {a d:α} (hi:i < l.length):(l.set i a).getD i d=a:=by
 rw [aJ,lP hi]; rfl
theorem G1 {db:List (Sem zh)} {n:zo} {i:Nat} (h:zR db n=(i:Int)):i < db.length:=by
 have:=ii (s:=n) (l:=db) (by rw [h]; exact Int.natCast_nonneg i)
 rw [h] at this
 simp only [zI,aL,ae] at this
 omega

theorem Cm.is {n:zo} {db d:List (Sem zh)} {l:List (List (Sem zf))} (h:Cm n db l d) {i:Nat} (hi:zR db n=(i:Int)):
  ∃ s,d=db.set i ((db.getD i (zj zh)).1,s)∧s.Perm ((db.getD i (zj zh)).2++l):=by
 induction h with
 | nil=>exact ⟨(db.getD i (zj zh)).2,D3.symm,by rw [jL]⟩
 | snoc h hx IH=>
  obtain ⟨s,rfl,hs⟩:=IH
  obtain ⟨j,s',hj,hp,rfl,_⟩:=hx
  have hf:zR (db.set i ((db.getD i (zj zh)).1,s)) n=(i:Int):=by rw [Im (x:=((db.getD i (zj zh)).1,s)) rfl,hi]
  obtain rfl:i=j:=Int.ofNat_inj.1 (hf.symm.trans hj)
  have hl:=G1 hi
  have hg:(db.set i ((db.getD i (zj zh)).1,s)).getD i (zj zh)=((db.getD i (zj zh)).1,s):=Lk hl
  rw [hg] at hp ⊢
  refine ⟨s',by rw [List.set_set],?_⟩
  rw [← List.append_assoc]
  exact hp.trans (hs.append_right _)

theorem Cm.order {n:zo} {db d d':List (Sem zh)} {l l':List (List (Sem zf))} (h:Cm n db l d) (h':Cm n db l' d') (hp:l.Perm l') (hd:aM d) (hd':aM d') (hf:(0:Int)≤zR db n):d=d':=by
 obtain ⟨i,hi⟩:∃ i:Nat,zR db n=(i:Int):=⟨toNat (zR db n),(Int.toNat_of_nonneg hf).symm⟩
 obtain ⟨s,rfl,hs⟩:=h.is hi
 obtain ⟨s',rfl,hs'⟩:=h'.is hi
 have hl:=G1 hi
 have m:∀ y,aM (db.set i y)→cj y:=fun y hy=>hy.rels y (List.mem_iff_getElem?.2 ⟨i,lP hl⟩)
 rw [cj.eq_of_perm (m _ hd) (m _ hd') (hs.trans ((hp.append_left _).trans hs'.symm))]


theorem FY {x:Sem zh} (h:cI x):∃ e:Int,nG x=true∧rH x=e∧(e=0↔cj x):=by
 obtain ⟨e,h1,h2⟩:=sA h
 exact ⟨e,by unfold nG; rw [h1]; rfl,by unfold rH; rw [h1]; rfl,h2⟩

theorem uv {db:List (Sem zh)} {s:Sem zm} {t:Sem zx} {rows:List (List (Sem zf))} {i:Nat} (n:Int) (hB:aM db) (hs:∀ y∈db,cC y) (h:zR db t.1=(i:Int)) (ht:(db.getD i (zj zh)).1=t) (hl:rows.length≤1000) (hr:∀ r∈rows,length r≤1000):
  ∃ (l:List (List (Sem zf))) (e:Int) (b:Bool),l.Perm rows∧Kp t.2.2.1 rows l∧(e=0↔cj (t,l))∧(e=0→(b=true↔mj (db.set i (t,l))))∧
   jl (db,s) (t,rows) n=some (if e=0 then (if b=true then db.set i (t,l) else []) else [],if e=0 then (if b=true then (0,n,[]) else dN 10) else dN e,()):=by
 have hf:(0:Int)≤zR db t.1:=by rw [h]; omega
 have hm:=kE hf
 rw [show toNat (zR db t.1)=i by rw [h]; rfl] at hm
 have hro:=hB.rels _ hm
 have hsc:=hs _ hm
 obtain ⟨_,_,_,h8,_⟩:=gL hro.may
 rw [ht] at h8
 have hmay:gq t=true:=by rw [← ht]; exact hro.may
 have hcp:EB ((t,rows):Sem zh)=true:=by
  have u1:=hsc.sh.uq
  have u2:=hsc.sh.rf
  have u3:=hsc.cp
  rw [ht] at u1 u2 u3
  unfold EB
  simp only [aL,ae,cX]
  exact ⟨⟨⟨⟨⟨cv h8 (by omega),cv u1 (by omega)⟩,cv u2 (by omega)⟩,u3⟩,cv hl (by omega)⟩,fun r hr'=>cv (hr r hr') (by omega)⟩
 obtain ⟨l,p1,p2,p3⟩:=Nv (x:=((t,rows):Sem zh)) hcp hl
 have hk:=p3 hmay
 have hll:l.length≤1000:=by rw [p2.length_eq]; exact hl
 have hshort:cI ((t,l):Sem zh):=by
  have u1:=hsc.sh.uq
  have u2:=hsc.sh.rf
  rw [ht] at u1 u2
  exact ⟨u1,u2,hll⟩
 obtain ⟨e,c1,c2,c3⟩:=FY hshort
 have s1:FZ ((t,rows):Sem zh)=true:=by unfold FZ; rw [p1]; rfl
 have s2:Nu ((t,rows):Sem zh)=(t,l):=by unfold Nu; rw [p1]; rfl
 have hd12:db.length≤12:=hB.few
 by_cases he:e=0
 case neg=>
  refine ⟨l,e,false,p2,hk,c3,fun h'=>absurd h' he,?_⟩
  have he':(e != 0)=true:=by simpa using he
  obtain ⟨f1,f2⟩:=hM e
  rw [if_neg he,if_neg he]
  unfold jl zW bh
  simp only [Wl,Tr.val,zp,Prod.eta,s1,s2,c1,c2,he',f1,f2,if_true]
  rfl
 have hok:=c3.1 he
 have hset:∀ y∈db.set i (t,l),cj y:=fun y hy=>by
  rcases mr hy with hy | rfl
  ·exact hB.rels y hy
  ·exact hok
 obtain ⟨b,b1,b2⟩:=g5 (db:=db.set i (t,l)) (fun y hy=>(hset y hy).cols) (Am (fun y hy=>(hs y hy).sh) hshort) (by rw [jM]; omega)
 have hw:lm db ((t,l):Sem zh)=some (db.set i (t,l),()):=yk (y:=((t,l):Sem zh)) h (by omega)
 have hwc:jm db ((t,l):Sem zh)=true:=by unfold jm; rw [hw]; rfl
 have hwv:jP db ((t,l):Sem zh)=db.set i (t,l):=by unfold jP; rw [hw]; rfl
 have hkk:=pC n b1
 have hkc:gA (db.set i (t,l)) n=true:=by unfold gA; rw [hkk]; rfl
 have hkv:kv (db.set i (t,l)) n=(if b=true then db.set i (t,l) else [],if b=true then (0,n,[]) else dN 10):=by unfold kv; rw [hkk]; rfl
 refine ⟨l,e,b,p2,hk,c3,fun _=>b2,?_⟩
 have he':(e != 0)=false:=by simpa using he
 rw [if_pos he,if_pos he]
 unfold jl zW bh
 simp only [Wl,Tr.val,zp,Prod.eta,s1,s2,c1,c2,he',hwc,hwv,hkc,hkv,if_true,zH,if_false]
 cases b <;> rfl

abbrev NC (s:Sem zm):List (Sem zf):=s.2.2.2.2.2.2.2.2.2.1
abbrev P6:zo:=[105,110,115,101,114,116]

theorem AN {db:List (Sem zh)} {s:Sem zm} (h:LT.lt (α:=Int) (zR db s.2.1) 0):hP (db,s)=some ([],dN 6,()):=by
 have h1:decide (LT.lt (α:=Int) (zR db s.2.1) 0)=true:=by simpa using h
 unfold hP zW bh
 simp only [Wc,Tr.val,h1,if_true]
 rfl
theorem EI {db:List (Sem zh)} {s:Sem zm} {x:Sem zh} {i:Nat} (hB:aM db) (hs:∀ y∈db,cC y) (hS:ey s) (h:zR db s.2.1=(i:Int)) (hx:db.getD i (zj zh)=x):
  ∃ (l:List (List (Sem zf))) (e:Int) (b:Bool),l.Perm (x.2++[NC s])∧(e=0↔cj (x.1,l))∧(e=0→(b=true↔mj (db.set i (x.1,l))))∧
   hP (db,s)=some (if e=0 then (if b=true then db.set i (x.1,l) else []) else [],if e=0 then (if b=true then (0,1,[]) else dN 10) else dN e,()):=by
 have hf:(0:Int)≤zR db s.2.1:=by rw [h]; omega
 have hm:=kE hf
 rw [show toNat (zR db s.2.1)=i by rw [h]; rfl,hx] at hm
 have hr:=hB.rels x hm
 have hfew:=hr.few
 have hrow:=hS.row
 have hb:zI (zR db s.2.1) (length db)=true:=ii hf
 rw [h] at hb
 have hn:zR db x.1.1=(i:Int):=by rw [oZ h hx,h]
 obtain ⟨l,e,b,q1,_,q2,q3,q4⟩:=uv (s:=s) (t:=x.1) (rows:=x.2++[NC s]) 1 hB hs hn (by rw [hx]) (by simp; omega) (fun r hr'=>by
  rcases bn.1 hr' with hr' | hr'
  ·exact cv (hr.len r hr') (by omega)
  ·rw [bO] at hr'
   rw [hr']
   exact cv hrow (by omega))
 refine ⟨l,e,b,q1,q2,q3,?_⟩
 rw [← q4]
 have hcc:kr (db,s) (x.1,x.2++[NC s]) 1=true:=by unfold kr; rw [q4]; rfl
 have h1:decide (LT.lt (α:=Int) (i:Int) 0)=false:=by simp
 have h2:decide (length x.2≤1073741824)=true:=by simp only [ae]; omega
 have h3:decide (length s.2.2.2.2.2.2.2.2.2.1≤1073741824)=true:=by simp only [ae]; omega
 have h4:decide (length x.2+[s.2.2.2.2.2.2.2.2.2.1].length≤1073741824)=true:=by simp only [ae,List.length_singleton]; omega
 have hcv:nj (db,s) (x.1,x.2++[NC s]) 1=(if e=0 then (if b=true then db.set i (x.1,l) else []) else [],if e=0 then (if b=true then (0,1,[]) else dN 10) else dN e):=by unfold nj; rw [q4]; rfl
 rw [q4]
 unfold hP zW bh
 simp only [Wc,Tr.val,zp,Prod.eta,h,h1,hb,aT,hx,h2,h3,h4,hcc,hcv,zH,if_true,if_false]
 by_cases he:e=0
 ·simp only [if_pos he]
  cases b <;> rfl
 ·simp only [if_neg he]
  rfl
theorem GF {db:List (Sem zh)} {s:Sem zm} {n:List (Sem zh)} {a:Sem cB} (hs:ey s) (hr:∀ x∈db,cI x) (hm:eU s=true) (hB:aM db) (ho:s.1=P6) (hc:hP (db,s)=some (n,a,())):
  jk db s=some (if a.1=0 then n else db,a,()):=by
 have h1:=dK hs
 have h2:=dh hr
 have h5:fx db=(0:Int):=(fH hr).2 hB
 have q0:(s.1==[99,114,101,97,116,101])=false:=by rw [ho]; rfl
 have q1:(s.1==[100,114,111,112])=false:=by rw [ho]; rfl
 have q2:(s.1==[105,110,115,101,114,116])=true:=by rw [ho]; rfl
 have hcc:uy (db,s)=true:=by unfold uy; rw [hc]; rfl
 have hcv:AM (db,s)=(n,a):=by unfold AM; rw [hc]; rfl
 unfold jk zW bh
 simp only [Oa,Tr.val,zp,Prod.eta,hm,h1,h2,h5,hcc,hcv,q0,q1,q2,fG,bQ,jK,og,zH,if_true,if_false]
 by_cases h:a.1=0
 ·have h':(a.1 != 0)=false:=by simpa using h
  simp only [h',zH,if_false,if_pos h]
  rfl
 ·have h':(a.1 != 0)=true:=by simpa using h
  simp only [h',if_true,if_neg h]
  rfl

theorem wY {db:List (Sem zh)} {i:Nat} {t:Sem zx} {l:List (List (Sem zf))} (hs:∀ x∈db,cC x) (ht:∃ x∈db,x.1=t) (hl:l.length≤1000):∀ x∈db.set i (t,l),cC x:=fun x hx=>by
 rcases mr hx with h | rfl
 ·exact hs x h
 ·obtain ⟨y,h1,h2⟩:=ht
  have:=hs y h1
  subst h2
  exact ⟨⟨this.sh.uq,this.sh.rf,hl⟩,this.cp⟩

theorem zbS {db:List (Sem zh)} {s:Sem zm} (hs:∀ y∈db,cC y) (hS:ey s) (ho:s.1=P6):
  ∃ (d:List (Sem zh)) (a:Sem cB),jk db s=some (d,a,())∧(∀ y∈d,cC y)∧(a.1=0→Ins s.2.1 (NC s) db d∧aM db∧eU s=true)∧(a.1≠0→d=db∧a=dN a.1):=by
 have hsr:∀ y∈db,cI y:=fun y hy=>(hs y hy).sh
 by_cases hm:eU s=true∧aM db
 case neg=>exact ⟨db,dN 1,GB hS hsr hm,hs,fun h=>(by cases h),fun _=>⟨rfl,rfl⟩⟩
 obtain ⟨hm,hB⟩:=hm
 by_cases hf:LT.lt (α:=Int) (zR db s.2.1) 0
 ·exact ⟨db,dN 6,GF hS hsr hm hB ho (AN hf),hs,fun h=>(by cases h),fun _=>⟨rfl,rfl⟩⟩
 obtain ⟨i,hi⟩:∃ i:Nat,zR db s.2.1=(i:Int):=⟨toNat (zR db s.2.1),(Int.toNat_of_nonneg (Int.not_lt.1 hf)).symm⟩
 obtain ⟨x,hx⟩:∃ x,db.getD i (zj zh)=x:=⟨_,rfl⟩
 obtain ⟨l,e,b,q1,q2,q3,q4⟩:=EI hB hs hS hi hx
 have hd:=GF hS hsr hm hB ho q4
 have hxm:x∈db:=by
  have:=kE (db:=db) (s:=s.2.1) (by rw [hi]; omega)
  rw [hi,aT,hx] at this
  exact this
 by_cases he:e=0
 case neg=>
  simp only [if_neg he] at hd
  exact ⟨db,dN e,hd,hs,fun h=>absurd h he,fun _=>⟨rfl,rfl⟩⟩
 have hr:=q2.1 he
 have hb:=q3 he
 simp only [if_pos he] at hd
 cases b with
 | false=>
  refine ⟨db,dN 10,hd,hs,fun h=>(by cases h),fun _=>⟨rfl,rfl⟩⟩
 | true=>
  have hbo:aM (db.set i (x.1,l)):=hB.put (x:=(x.1,l)) (by rw [hx]) hr (hb.1 rfl)
  refine ⟨db.set i (x.1,l),(0,1,[]),hd,wY hs ⟨x,hxm,rfl⟩ (cv hr.few (by omega)),fun _=>⟨⟨i,l,hi,by rw [hx]; exact q1,by rw [hx],hbo⟩,hB,hm⟩,fun h=>absurd rfl h⟩

structure zbE (t:Sem zx):Prop where
 name:bU t.1=true
 n1:1≤t.2.1.length
 n8:t.2.1.length≤8
 cols:∀ i,i < t.2.1.length→bU (getD t.2.1 i (zj zi)).1=true∧LE.le (α:=Int) 1 (getD t.2.1 i (zj zi)).2.1∧LE.le (α:=Int) (getD t.2.1 i (zj zi)).2.1 3∧zM t.2.1 (getD t.2.1 i (zj zi)).1=(i:Int)
 uniq:∀ u∈t.2.2.2.1,kF u t.2.1.length
 refs:∀ f∈t.2.2.2.2.1,kF f.1 t.2.1.length∧bU f.2=true
 key:kF t.2.2.1 t.2.1.length
 nn:(getD t.2.1 (toNat t.2.2.1) (zj zi)).2.2=true
 chk:fC t.2.2.2.2.2 t.2.1=(0:Int)

theorem Fi (x:Int) (n:Nat):(bif decide (x ≥ 0) then decide (x < (n:Int)) else false)=true↔kF x n:=by
 unfold kF
 by_cases h:x ≥ 0
 ·rw [ay h]; simp; omega
 ·rw [cu h]; simp; omega

theorem sJ {a0:zo} {cols:List (Sem zi)} {key:Int} {uq:List (Sem zg)} {rf:List (Sem zq)} {op:zo} {k n:Int} {vs s:zo} {l:List (Sem Sh.expr)}:∀ (r:List (Sem zq)) (i:Int),er a0 cols key uq rf op k n vs s l r i=true↔
  ((∀ f∈r,kF f.1 cols.length∧bU f.2=true)∧kF key cols.length∧(getD cols (toNat key) (zj zi)).2.2=true∧fC (.mk op (k,n,vs) s l) cols=(0:Int))
 | [],i=>by
  rw [er,← Fi]
  rcases rT (bif decide (key ≥ 0) then decide (key < (cols.length:Int)) else false) with c | c
  ·rw [if_pos c]
   rcases rT (getD cols (toNat key) (zj zi)).2.2 with c2 | c2
   ·rw [if_pos c2]
    constructor
    ·intro h; exact ⟨fun f hf=>(by cases hf),c,c2,dM h⟩
    ·intro h; rw [h.2.2.2]; rfl
   ·rw [if_neg (by rw [c2]; simp)]
    exact ⟨fun h=>(by cases h),fun h=>by rw [h.2.2.1] at c2; cases c2⟩
  ·rw [if_neg (by rw [c]; simp)]
   exact ⟨fun h=>(by cases h),fun h=>by rw [h.2.1] at c; cases c⟩
 | f::r,i=>by
  rw [er]
  have ih:=sJ (a0:=a0) (cols:=cols) (key:=key) (uq:=uq) (rf:=rf) (op:=op) (k:=k) (n:=n) (vs:=vs) (s:=s) (l:=l) r (i+1)
  simp only [cY,forall_eq_or_imp]
  rw [← Fi f.1]
  rcases rT (bif decide (f.1 ≥ 0) then decide (f.1 < (cols.length:Int)) else false) with c | c
  ·rw [c,if_neg (by simp)]
   rcases rT (bU f.2) with c2 | c2
   ·rw [c2,if_neg (by simp),ih]
    simp
   ·rw [c2,if_pos (by rfl)]
    simp
  ·rw [c,if_pos (by rfl)]
   simp

theorem sI {a0:zo} {cols:List (Sem zi)} {key:Int} {uq:List (Sem zg)} {rf:List (Sem zq)} {op:zo} {k n:Int} {vs s:zo} {l:List (Sem Sh.expr)}:∀ (r:List (Sem zg)) (i:Int),ek a0 cols key uq rf op k n vs s l r i=true↔
  ((∀ u∈r,kF u cols.length)∧(∀ f∈rf,kF f.1 cols.length∧bU f.2=true)∧kF key cols.length∧(getD cols (toNat key) (zj zi)).2.2=true∧fC (.mk op (k,n,vs) s l) cols=(0:Int))
 | [],i=>by
  rw [ek,sJ]
  simp
 | u::r,i=>by
  rw [ek]
  have ih:=sI (a0:=a0) (cols:=cols) (key:=key) (uq:=uq) (rf:=rf) (op:=op) (k:=k) (n:=n) (vs:=vs) (s:=s) (l:=l) r (i+1)
  simp only [cY,forall_eq_or_imp]
  rw [← Fi u]
  rcases rT (bif decide (GE.ge (α:=Int) u 0) then decide (LT.lt (α:=Int) u (cols.length:Int)) else false) with c | c
  ·rw [c,if_neg (by simp),ih]
   simp
  ·rw [c,if_pos (by rfl)]
   simp

theorem w6 {a0:zo} {cols:List (Sem zi)} {key:Int} {uq:List (Sem zg)} {rf:List (Sem zq)} {op:zo} {k n:Int} {vs s:zo} {l:List (Sem Sh.expr)}:∀ (r:List (Sem zi)) (i:Nat),gk a0 cols key uq rf op k n vs s l r (i:Int)=true↔
  ((∀ j,j < r.length→bU (getD r j (zj zi)).1=true∧LE.le (α:=Int) 1 (getD r j (zj zi)).2.1∧LE.le (α:=Int) (getD r j (zj zi)).2.1 3∧zM cols (getD r j (zj zi)).1=((i+j:Nat):Int))∧
   (∀ u∈uq,kF u cols.length)∧(∀ f∈rf,kF f.1 cols.length∧bU f.2=true)∧kF key cols.length∧(getD cols (toNat key) (zj zi)).2.2=true∧fC (.mk op (k,n,vs) s l) cols=(0:Int))
 | [],i=>by
  rw [gk,sI]
  simp
 | x :: r,i=>by
  rw [gk]
  have ih:=w6 (a0:=a0) (cols:=cols) (key:=key) (uq:=uq) (rf:=rf) (op:=op) (k:=k) (n:=n) (vs:=vs) (s:=s) (l:=l) r (i+1)
  have hsplit:(∀ j,j < (x::r).length→bU (getD (x::r) j (zj zi)).1=true∧LE.le (α:=Int) 1 (getD (x::r) j (zj zi)).2.1∧LE.le (α:=Int) (getD (x::r) j (zj zi)).2.1 3∧zM cols (getD (x::r) j (zj zi)).1=((i+j:Nat):Int))↔
    ((bU x.1=true∧LE.le (α:=Int) 1 x.2.1∧LE.le (α:=Int) x.2.1 3∧zM cols x.1=(i:Int))∧∀ j,j < r.length→bU (getD r j (zj zi)).1=true∧LE.le (α:=Int) 1 (getD r j (zj zi)).2.1∧LE.le (α:=Int) (getD r j (zj zi)).2.1 3∧zM cols (getD r j (zj zi)).1=((i+1+j:Nat):Int)):=by
   constructor
   ·intro h
    refine ⟨h 0 (by simp),fun j hj=>?_⟩
    have:=h (j+1) (by simp; omega)
    rw [show i+1+j=i+(j+1) by omega]
    exact this
   ·rintro ⟨h0,h⟩ j hj
    cases j with
    | zero=>exact h0
    | succ j=>
     have:=h j (by simpa using hj)
     rw [show i+1+j=i+(j+1) by omega] at this
     exact this
  rw [hsplit]
  have ep:gQ (a0,cols,key,uq,rf,ze.mk op (k,n,vs) s l) x.1=zM cols x.1:=rfl
  have hc:(bif !bU x.1 then true else bif decide (LT.lt (α:=Int) x.2.1 1) then true else bif decide (GT.gt (α:=Int) x.2.1 3) then true else zM cols x.1 != (i:Int))=false↔(bU x.1=true∧LE.le (α:=Int) 1 x.2.1∧LE.le (α:=Int) x.2.1 3∧zM cols x.1=(i:Int)):=by
   rcases rT (bU x.1) with c | c
   ·rw [c]
    by_cases h1:LT.lt (α:=Int) x.2.1 1
    ·rw [ay h1]; simp; omega
    ·rw [cu h1]
     by_cases h2:GT.gt (α:=Int) x.2.1 3
     ·rw [ay h2]; simp; omega
     ·rw [cu h2]
      exact ⟨fun h=>⟨rfl,by omega,by omega,by simpa using h⟩,fun h=>by simpa using h.2.2.2⟩
   ·rw [c]; simp
  rw [ep]
  rcases rT (bif !bU x.1 then true else bif decide (LT.lt (α:=Int) x.2.1 1) then true else bif decide (GT.gt (α:=Int) x.2.1 3) then true else zM cols x.1 != (i:Int)) with c | c
  ·rw [if_pos c]
   constructor
   ·intro h; cases h
   ·intro h
    rw [hc.2 h.1.1] at c; cases c
  ·rw [if_neg (by rw [c]; simp)]
   have:=hc.1 c
   rw [show ((i:Int)+1)=((i+1:Nat):Int) by omega,ih]
   constructor
   ·intro h; exact ⟨⟨this,h.1⟩,h.2⟩
   ·intro h; exact ⟨h.1.2,h.2⟩

theorem N1 (t:Sem zx):gq t=true↔zbE t:=by
 unfold gq
 have e0:ze.mk (ze.op t.2.2.2.2.2) ((ze.v t.2.2.2.2.2).1,(ze.v t.2.2.2.2.2).2.1,(ze.v t.2.2.2.2.2).2.2) (ze.s t.2.2.2.2.2) (ze.l t.2.2.2.2.2)=t.2.2.2.2.2:=ze.eta _
 rcases rT (bU t.1) with c | c
 ·by_cases h1:t.2.1.length < 1
  ·rw [c,ay (by omega:(t.2.1.length:Int) < 1),if_pos (by rfl)]
   exact ⟨fun h=>(by cases h),fun h=>by have:=h.n1; omega⟩
  ·by_cases h2:8 < t.2.1.length
   ·rw [c,cu (by omega:¬ (t.2.1.length:Int) < 1),ay (by omega:(t.2.1.length:Int) > 8),if_pos (by rfl)]
    exact ⟨fun h=>(by cases h),fun h=>by have:=h.n8; omega⟩
   ·rw [c,cu (by omega:¬ (t.2.1.length:Int) < 1),cu (by omega:¬ (t.2.1.length:Int) > 8),if_neg (by simp)]
    have:=w6 (a0:=t.1) (cols:=t.2.1) (key:=t.2.2.1) (uq:=t.2.2.2.1) (rf:=t.2.2.2.2.1) (op:=ze.op t.2.2.2.2.2) (k:=(ze.v t.2.2.2.2.2).1) (n:=(ze.v t.2.2.2.2.2).2.1) (vs:=(ze.v t.2.2.2.2.2).2.2) (s:=ze.s t.2.2.2.2.2) (l:=ze.l t.2.2.2.2.2) t.2.1 0
    rw [e0] at this
    refine Iff.trans this ?_
    constructor
    ·rintro ⟨k1,k2,k3,k4,k5,k6⟩
     exact ⟨c,by omega,by omega,fun i hi=>by have:=k1 i hi; rwa [ez] at this,k2,k3,k4,k5,k6⟩
    ·intro h
     exact ⟨fun i hi=>by have:=h.cols i hi; rwa [ez],h.uniq,h.refs,h.key,h.nn,h.chk⟩
 ·rw [c,if_pos (by rfl)]
  exact ⟨fun h=>(by cases h),fun h=>by rw [h.name] at c; cases c⟩

abbrev Km:zo:=[99,114,101,97,116,101]
abbrev af (s:Sem zm):List (Sem zi):=s.2.2.2.2.1
abbrev zdf (s:Sem zm):zo:=s.2.2.2.2.2.1
abbrev iv (s:Sem zm):List zo:=s.2.2.2.2.2.2.1
abbrev fB (s:Sem zm):List (Sem bI):=s.2.2.2.2.2.2.2.1
abbrev dO (s:Sem zm):ze:=s.2.2.2.2.2.2.2.2.1

theorem LZ {α:Type} {p:α→Bool} {l:List α} (h:decide (GE.ge (α:=Int) (zL (fun x => !p x) l 0) 0)=false):∀ x∈l,p x=true:=by
 rcases cn (fun x => !p x) l 0 with ⟨_,q⟩ | ⟨k,_,q,_⟩
 ·intro x hx
  simpa using q x hx
 ·rw [q] at h
  exact absurd h (by simp)

theorem xB {s:Sem zm} (h:eL s=true):1≤(af s).length∧(af s).length≤8∧(∀ c∈af s,g7 c=true)∧∀ r∈fB s,mX r=true:=by
 unfold eL at h
 cases c1:decide (((af s).length:Int) < 1) with
 | true=>rw [c1] at h; cases h
 | false=>
 rw [c1] at h
 cases c2:decide (((af s).length:Int) > 8) with
 | true=>rw [c2] at h; cases h
 | false=>
 rw [c2] at h
 simp only [bQ] at h
 cases c3:decide (GE.ge (α:=Int) (zL (fun x => !g7 x) (af s) 0) 0) with
 | true=>rw [c3] at h; cases h
 | false=>
 rw [c3] at h
 simp only [pn,bR] at h
 cases c4:bE (zdf s) with
 | false=>rw [c4] at h; cases h
 | true=>
 rw [c4] at h
 simp only [bR] at h
 cases c5:(bif decide (((iv s).length:Int) < 0) then true else decide (((iv s).length:Int) > 8)) with
 | true=>rw [c5] at h; cases h
 | false=>
 rw [c5] at h
 simp only [bQ] at h
 cases c6:decide (GE.ge (α:=Int) (zL (fun x => !bE x) (iv s) 0) 0) with
 | true=>rw [c6] at h; cases h
 | false=>
 rw [c6] at h
 simp only [pn,bR] at h
 cases c7:(bif decide (((fB s).length:Int) < 0) then true else decide (((fB s).length:Int) > 8)) with
 | true=>rw [c7] at h; cases h
 | false=>
 rw [c7] at h
 simp only [bQ] at h
 cases c8:decide (GE.ge (α:=Int) (zL (fun x => !mX x) (fB s) 0) 0) with
 | true=>rw [c8] at h; cases h
 | false=>
 simp at c1 c2
 exact ⟨by omega,by omega,LZ c3,LZ c8⟩

theorem Ji {s:Sem zm} (ho:s.1=Km) (h:f7 s=true):bE s.2.1=true∧eL s=true:=by
 have q0:(s.1==[99,114,101,97,116,101])=true:=by rw [ho]; rfl
 obtain ⟨_,hp⟩:=bY (s:=s) (g:=_) (b:=_) (by simp only [eD,dR,Tr.val,q0,if_true,zp]; exact rfl)
 rw [hp] at h
 cases h2:eL s
 ·rw [h2] at h
  cases h1:bE s.2.1 <;> rw [h1] at h <;> simp at h
 ·refine ⟨?_,rfl⟩
  cases h1:bE s.2.1
  ·rw [h1] at h; simp at h
  ·rfl

def mq (a b:List (Sem zi)):Prop:=a.map (fun c:Sem zi=>(c.1,c.2.1))=b.map (fun c:Sem zi=>(c.1,c.2.1))
theorem mq.place {a b:List (Sem zi)} (h:mq a b) (n:zo):zM a n=zM b n:=by
 have e:∀ l:List (Sem zi),zM l n=zL (fun p:zo×Int=>p.1==n) (l.map (fun c:Sem zi=>(c.1,c.2.1))) 0:=fun l=>by rw [o6]; rfl
 rw [e,e,h]
theorem mq.len {a b:List (Sem zi)} (h:mq a b):a.length=b.length:=by
 have:=congrArg length h
 simpa using this
theorem mq.at {a b:List (Sem zi)} (h:mq a b) (i:Nat):(a.getD i (zj zi)).1=(b.getD i (zj zi)).1∧(a.getD i (zj zi)).2.1=(b.getD i (zj zi)).2.1:=by
 have hl:=h.len
 by_cases hi:i < a.length
 ·have:=congrArg (·[i]?) h
  simp only [de,zJ hi,zJ (hl▸hi),ug,ao,bC] at this
  simp only [aJ,zJ hi,zJ (hl▸hi),bP]
  exact this
 ·simp only [aJ,dd (by omega:a.length≤i),dd (by omega:b.length≤i),and_self]
theorem sL {a b:List (Sem zi)} (h:mq a b) {g:Sem Sh.expr→Sem (Sh.sl zi)→Sem zg×Sem zg} (hg:∀ e,g e a=g e b) {c:Sem Sh.expr→Sem (Sh.sl zi)→Bool} {o:zo} {p q:Int} {u v:zo} {l:List (Sem Sh.expr)}:∀ (r:List (Sem Sh.expr)) (i:Int) (acc:List (Sem zg)),cG g c a o p q u v l r i acc=cG g c b o p q u v l r i acc
 | [],i,acc=>by
  rw [cG,cG,h.place v,(h.at _).2]
 | x::r,i,acc=>by
  rw [cG,cG,hg x,sL h hg r]
theorem xf {a b:List (Sem zi)} (h:mq a b):∀ (n:Nat) (e:ze),fE n e a=fE n e b
 | 0,_=>by rw [fE]
 | n+1,e=>by
  rw [fE]
  exact sL h (fun e=>xf h n e) _ _ _
theorem EA {a b:List (Sem zi)} (h:mq a b) (e:ze):fC e a=fC e b:=by
 have:bg e a=bg e b:=by unfold bg; rw [xf h]
 unfold fC
 rw [this]

abbrev S5 (s:Sem zm) (i:Nat):nY:=.h5 ((af s).length:Int) (i:Int) (s,()) [] 0 [] 0 0 [] [] s.2.1 0 (ze.op (dO s)) (ze.v (dO s)).1 (ze.v (dO s)).2.1 (ze.v (dO s)).2.2 (ze.s (dO s)) (ze.l (dO s)) (af s)
abbrev S14 (s:Sem zm) (k e:Int) (i:Nat) (acc:List (Sem zg)):nY:=.h14 (iv s) ((iv s).length:Int) (i:Int) (s,()) [] 0 [] 0 0 [] [] s.2.1 k (ze.op (dO s)) (ze.v (dO s)).1 (ze.v (dO s)).2.1 (ze.v (dO s)).2.2 (ze.s (dO s)) (ze.l (dO s)) e (af s) acc
abbrev Ye (s:Sem zm) (k e:Int) (i:Nat) (us:List (Sem zg)) (acc:List (Sem zq)):nY:=.h19 (fB s) ((fB s).length:Int) (i:Int) [] 0 [] 0 0 [] [] s.2.1 k (ze.op (dO s)) (ze.v (dO s)).1 (ze.v (dO s)).2.1 (ze.v (dO s)).2.2 (ze.s (dO s)) (ze.l (dO s)) e (af s) us acc

theorem Ec (t:Sem zx) (n:zo):gQ t n=zM t.2.1 n:=rfl

theorem Dz {s:Sem zm} {k:Int} (hl:(iv s).length≤20):∀ (m i:Nat) (e:Int) (acc:List (Sem zg)),(iv s).length - i=m→i≤(iv s).length→acc.length=i→
  ∃ e':Int,aF m4 (m+1) (S14 s k e i acc) (Ye s k e' 0 (acc++((iv s).drop i).map (zM (af s))) [])∧(e'=0→e=0∧∀ u∈(iv s).drop i,LE.le (α:=Int) 0 (zM (af s) u))
 | 0,i,e,acc,hm,hi,ha=>by
  obtain rfl:i=(iv s).length:=by omega
  refine ⟨e,aF.of ?_,fun h=>⟨h,by simp⟩⟩
  simp only [m4,Tr.val,zX,cL,ui,jL]
  rfl
 | m+1,i,e,acc,hm,hi,ha=>by
  have hlt:i < (iv s).length:=by omega
  have h1:decide (acc.length+[zM (af s) (iv s)[i]].length≤1073741824)=true:=by simp only [ae,List.length_singleton]; omega
  have hw:=zD i (by unfold zC; omega)
  obtain ⟨e',g,q⟩:=Dz (s:=s) (k:=k) hl m (i+1) (if LT.lt (α:=Int) (zM (af s) (iv s)[i]) 0 then 4 else e) (acc++[zM (af s) (iv s)[i]]) (by omega) (by omega) (by simp; omega)
  refine ⟨e',?_,fun h=>?_⟩
  ·rw [dw hlt,jO]
   have hv:(m4 (S14 s k e i acc)).val=some (.inl (S14 s k (if LT.lt (α:=Int) (zM (af s) (iv s)[i]) 0 then 4 else e) (i+1) (acc++[zM (af s) (iv s)[i]]))):=by
    simp only [m4,Tr.val,zT hlt,zB hlt,ac (iv s) _ hlt,Ec,h1,hw,if_true]
    by_cases c:LT.lt (α:=Int) (zM (af s) (iv s)[i]) 0
    ·rw [if_pos (ay c),if_pos c]
    ·rw [if_neg (by simpa using c),if_neg c]
   have:=(aF.of hv).trans g
   rw [List.append_assoc] at this
   exact this
  ·obtain ⟨q1,q2⟩:=q h
   rw [dw hlt]
   by_cases c:LT.lt (α:=Int) (zM (af s) (iv s)[i]) 0
   ·rw [if_pos c] at q1; cases q1
   ·rw [if_neg c] at q1
    refine ⟨q1,fun u hu=>?_⟩
    rcases cY.1 hu with rfl | hu
    ·exact Int.not_lt.1 c
    ·exact q2 u hu

theorem DA {s:Sem zm} {k:Int} {us:List (Sem zg)} (hl:(fB s).length≤20):∀ (m i:Nat) (e:Int) (acc:List (Sem zq)),(fB s).length - i=m→i≤(fB s).length→acc.length=i→
  ∃ e':Int,aF m4 m (Ye s k e i us acc) (Ye s k e' (fB s).length us (acc++((fB s).drop i).map fun r:Sem bI=>((zM (af s) r.1,r.2):Sem zq)))∧(e'=0→e=0∧∀ r∈(fB s).drop i,LE.le (α:=Int) 0 (zM (af s) r.1))
 | 0,i,e,acc,hm,hi,ha=>by
  obtain rfl:i=(fB s).length:=by omega
  refine ⟨e,?_,fun h=>⟨h,by simp⟩⟩
  rw [cL,ui,jL]
  exact aF.refl _
 | m+1,i,e,acc,hm,hi,ha=>by
  have hlt:i < (fB s).length:=by omega
  have h1:decide (acc.length+[((zM (af s) (fB s)[i].1,(fB s)[i].2):Sem zq)].length≤1073741824)=true:=by simp only [ae,List.length_singleton]; omega
  have hw:=zD i (by unfold zC; omega)
  obtain ⟨e',g,q⟩:=DA (s:=s) (k:=k) (us:=us) hl m (i+1) (if LT.lt (α:=Int) (zM (af s) (fB s)[i].1) 0 then 4 else e) (acc++[((zM (af s) (fB s)[i].1,(fB s)[i].2):Sem zq)]) (by omega) (by omega) (by simp; omega)
  refine ⟨e',?_,fun h=>?_⟩
  ·rw [dw hlt,jO]
   have hv:(m4 (Ye s k e i us acc)).val=some (.inl (Ye s k (if LT.lt (α:=Int) (zM (af s) (fB s)[i].1) 0 then 4 else e) (i+1) us (acc++[((zM (af s) (fB s)[i].1,(fB s)[i].2):Sem zq)]))):=by
    simp only [m4,Tr.val,zT hlt,zB hlt,ac (fB s) _ hlt,Ec,h1,hw,if_true]
    by_cases c:LT.lt (α:=Int) (zM (af s) (fB s)[i].1) 0
    ·rw [if_pos (ay c),if_pos c]
    ·rw [if_neg (by simpa using c),if_neg c]
   have:=(aF.of hv).trans g
   rw [List.append_assoc] at this
   exact this
  ·obtain ⟨q1,q2⟩:=q h
   rw [dw hlt]
   by_cases c:LT.lt (α:=Int) (zM (af s) (fB s)[i].1) 0
   ·rw [if_pos c] at q1; cases q1
   ·rw [if_neg c] at q1
    refine ⟨q1,fun u hu=>?_⟩
    rcases cY.1 hu with rfl | hu
    ·exact Int.not_lt.1 c
    ·exact q2 u hu

abbrev noT:Sem zx:=([],[],0,[],[],ze.mk [] (0,0,[]) [] [])

theorem XX {s:Sem zm} (hS:ey s) (hcp:kX 16 (dO s)=true) (ho:s.1=Km) (hm:eU s=true):
  ∃ (t:Sem zx) (e:Int),Jw s=some (t,e,())∧(e=0→t.1=s.2.1∧gq t=true∧t.2.2.2.1.length≤20∧t.2.2.2.2.1.length≤20∧t.2.2.2.2.2=dO s):=by
 have hmc:=dK hS
 obtain ⟨hn,hc⟩:=Ji ho (D6 hm)
 obtain ⟨n1,n8,hcol,href⟩:=xB hc
 have hu:(iv s).length≤20:=hS.uniques.1
 have hrf:(fB s).length≤20:=hS.refs.1
 have q0:(!s.1==[99,114,101,97,116,101])=false:=by rw [ho]; rfl
 have hlen:decide (length s.2.2.2.2.1≤1073741824)=true:=ay (show (af s).length≤1073741824 by omega)
 have hi:(Wh s).val=some (.inl (S5 s 0)):=by
  simp only [Wh,Tr.val,zp,Prod.eta,q0,hmc,hm,hlen,hcp,bQ,fG,zH,if_true,if_false]
  rfl
 have hloop:=Ic (t:=m4) (Φ:=fun r=>∃ e:Int,ap r.2 [zx,zg] r.1=some (noT,e,())∧e≠0) 1 (S5 s) (fun i=>zM (af s) (getD (af s) i (zj zi)).1=(i:Int)) (af s).length (by
  intro i hi _
  have hd:decide (i < (af s).length)=true:=ay hi
  have hw:=zD i (by unfold zC; omega)
  by_cases c:zM (af s) (getD (af s) i (zj zi)).1=(i:Int)
  ·refine .inl ⟨c,aF.of ?_⟩
   have c':(zM (af s) (getD (af s) i (zj zi)).1 != (i:Int))=false:=by rw [c]; simp
   simp only [m4,Tr.val,zT hi,zB hi,hd,Ec,aT,c',hw,zH,if_true,if_false]
  ·refine .inr ⟨c,_,bq.of (r:=(.tup [.agg [.str [],.nils,.int .i64 0,.nils,.nils,.str [],.int .i64 0,.int .i64 0,.str [],.str [],.nils],.int .i64 7],[])) ?_,7,rfl,by decide⟩
   have c':(zM (af s) (getD (af s) i (zj zi)).1 != (i:Int))=true:=by simpa using c
   simp only [m4,Tr.val,zT hi,zB hi,hd,Ec,aT,c',if_true])
 rcases hloop with ⟨hpl,hg⟩ | ⟨_,r,hr,e,he,hne⟩
 case inr=>exact ⟨noT,e,bb hi hr (by omega) he,fun h=>absurd h hne⟩
 obtain ⟨k,hk⟩:∃ k,zM (af s) (zdf s)=k:=⟨_,rfl⟩
 have h5:(m4 (S5 s (af s).length)).val=some (.inl (S14 s k (if LT.lt (α:=Int) k 0 then 4 else 0) 0 [])):=by
  simp only [m4,Tr.val,zX,Ec,hk,zH,if_false]
  by_cases c:LT.lt (α:=Int) k 0
  ·rw [if_pos (ay c),if_pos c]; rfl
  ·rw [if_neg (by simpa using c),if_neg c]; rfl
 obtain ⟨e1,g1,k1⟩:=Dz (s:=s) (k:=k) hu (iv s).length 0 (if LT.lt (α:=Int) k 0 then 4 else 0) [] rfl (aV _) rfl
 obtain ⟨e2,g2,k2⟩:=DA (s:=s) (k:=k) (us:=[]++((iv s).drop 0).map (zM (af s))) hrf (fB s).length 0 e1 [] rfl (aV _) rfl
 rw [List.drop_zero,yf] at g1 g2
 rw [List.drop_zero,yf] at g2
 rw [List.drop_zero] at k1 k2
 have hgo:=(hg.trans ((aF.of h5).trans (g1.trans g2)))
 have fin:∀ {r:aj} {t:Sem zx} {e:Int},(m4 (Ye s k e2 (fB s).length ((iv s).map (zM (af s))) ((fB s).map fun r:Sem bI=>((zM (af s) r.1,r.2):Sem zq)))).val=some (.inr r)→ap r.2 [zx,zg] r.1=some (t,e,())→Jw s=some (t,e,()):=
  fun h h'=>bb hi (hgo.ends (bq.of h)) (by omega) h'
 by_cases he:e2=0
 case neg=>
  refine ⟨noT,e2,fin (r:=(.tup [.agg [.str [],.nils,.int .i64 0,.nils,.nils,.str [],.int .i64 0,.int .i64 0,.str [],.str [],.nils],.int .i64 e2],[])) ?_ rfl,fun h=>absurd h he⟩
  have c1:(e2==0)=false:=by simpa using he
  have c2:(e2 != 0)=true:=by simpa using he
  simp only [m4,Tr.val,zX,c1,c2,zH,if_true,if_false]
 subst he
 obtain ⟨he1,hrp⟩:=k2 rfl
 obtain ⟨he0,hup⟩:=k1 he1
 have hk0:LE.le (α:=Int) 0 k:=by
  by_cases c:LT.lt (α:=Int) k 0
  ·rw [if_pos c] at he0; cases he0
  ·exact Int.not_lt.1 c
 have rng:∀ n,LE.le (α:=Int) 0 (zM (af s) n)→kF (zM (af s) n) (af s).length:=fun n h=>by
  rcases lh (af s) n with c | c
  ·rw [c] at h; exact absurd h (by decide)
  ·exact c
 have hkin:kF k (af s).length:=by rw [← hk]; exact rng _ (by rw [hk]; exact hk0)
 obtain ⟨k',rfl⟩:=Int.eq_ofNat_of_zero_le hk0
 have hkl:k' < (af s).length:=Int.ofNat_lt.1 hkin.2
 have hkd:decide (k' < (af s).length)=true:=ay hkl
 obtain ⟨ce,hce⟩:∃ ce:Int,fC (dO s) (af s)=ce:=⟨_,rfl⟩
 have heta:ze.mk (ze.op (dO s)) ((ze.v (dO s)).1,(ze.v (dO s)).2.1,(ze.v (dO s)).2.2) (ze.s (dO s)) (ze.l (dO s))=dO s:=ze.eta _
 have hb0:((0:Int)==0)=true:=rfl
 by_cases hcz:ce=0
 case neg=>
  refine ⟨noT,ce,fin (r:=(.tup [.agg [.str [],.nils,.int .i64 0,.nils,.nils,.str [],.int .i64 0,.int .i64 0,.str [],.str [],.nils],.int .i64 ce],[])) ?_ rfl,fun h=>absurd h hcz⟩
  have c2:(ce != 0)=true:=by simpa using hcz
  simp only [m4,Tr.val,zX,hb0,heta,hce,c2,zH,if_true,if_false]
 subst hcz
 obtain ⟨c,hcc⟩:∃ c,(af s).getD k' (zj zi)=c:=⟨_,rfl⟩
 have hget:(af s)[k']=c:=by rw [← hcc,aJ,zJ hkl]; rfl
 refine ⟨(s.2.1,(af s).set k' (c.1,c.2.1,true),(k':Int),(iv s).map (zM (af s)),(fB s).map fun r:Sem bI=>((zM (af s) r.1,r.2):Sem zq),dO s),0,?_,fun _=>⟨rfl,(N1 _).2 ?_,by simpa using hu,by simpa using hrf,rfl⟩⟩
 ·refine fin (r:=(.tup [.agg [.str s.2.1,.vec 0,.int .i64 (k':Int),.vec 1,.vec 2,.str (ze.op (dO s)),.int .i64 (ze.v (dO s)).1,.int .i64 (ze.v (dO s)).2.1,.str (ze.v (dO s)).2.2,.str (ze.s (dO s)),.sl Sh.expr (ze.l (dO s))],.int .i64 0],[.vec zi ((af s).set k' (c.1,c.2.1,true)),.vec zg ((iv s).map (zM (af s))),.vec zq ((fB s).map fun r:Sem bI=>((zM (af s) r.1,r.2):Sem zq))])) ?_ ?_
  ·have c2:((0:Int) != 0)=false:=rfl
   simp only [m4,Tr.val,zX,hb0,heta,hce,c2,lw hkin,hkd,aT,hcc,zH,if_true,if_false]
  ·rw [← heta]; rfl
 ·have hsame:mq ((af s).set k' (c.1,c.2.1,true)) (af s):=by
   unfold mq
   rw [List.map_set]
   show ((af s).map _).set k' (c.1,c.2.1)=_
   have:((af s).map (fun c:Sem zi=>(c.1,c.2.1)))[k']?=some (c.1,c.2.1):=by
    rw [de,zJ hkl,hget]; rfl
   rw [show ((c.1,c.2.1):zo×Int)=getD ((af s).map (fun c:Sem zi=>(c.1,c.2.1))) k' ([],0) by rw [aJ,this]; rfl]
   exact D3
  have hl:=hsame.len
  refine ⟨?_,by show 1≤((af s).set k' _).length; rw [hl]; exact n1,by show ((af s).set k' _).length≤8; rw [hl]; exact n8,fun i hi=>?_,fun u hu'=>?_,fun f hf=>?_,?_,?_,?_⟩
  ·exact hn
  ·have hi:i < (af s).length:=by rw [← hl]; exact hi
   obtain ⟨a1,a2⟩:=hsame.at i
   have hok:=hcol _ (gT (d:=zj zi) hi)
   show bU (getD ((af s).set k' (c.1,c.2.1,true)) i (zj zi)).1=true∧LE.le (α:=Int) 1 (getD ((af s).set k' (c.1,c.2.1,true)) i (zj zi)).2.1∧LE.le (α:=Int) (getD ((af s).set k' (c.1,c.2.1,true)) i (zj zi)).2.1 3∧zM ((af s).set k' (c.1,c.2.1,true)) (getD ((af s).set k' (c.1,c.2.1,true)) i (zj zi)).1=(i:Int)
   rw [a1,a2,hsame.place,hpl i hi]
   unfold g7 at hok
   cases b1:bE (getD (af s) i (zj zi)).1
   ·rw [b1] at hok; cases hok
   rw [b1] at hok
   simp only [bR] at hok
   by_cases b2:GE.ge (α:=Int) (getD (af s) i (zj zi)).2.1 1
   ·rw [ay b2] at hok
    exact ⟨b1,b2,fb hok,rfl⟩
   ·rw [cu b2] at hok; cases hok
  ·obtain ⟨n,hn',rfl⟩:=fe.1 hu'
   show kF _ ((af s).set k' _).length
   rw [hl]
   exact rng n (hup n hn')
  ·obtain ⟨r,hr',rfl⟩:=fe.1 hf
   refine ⟨?_,?_⟩
   ·show kF _ ((af s).set k' _).length
    rw [hl]
    exact rng r.1 (hrp r hr')
   ·have:=href r hr'
    unfold mX at this
    cases b1:bE r.1
    ·rw [b1] at this; cases this
    ·rw [b1] at this; exact this
  ·show kF _ ((af s).set k' _).length
   rw [hl]; exact hkin
  ·show (getD ((af s).set k' (c.1,c.2.1,true)) (toNat (k':Int)) (zj zi)).2.2=true
   rw [aT,aJ,lP (by exact hkl)]
   rfl
  ·exact (EA hsame (dO s)).trans hce

def kW (s:zo) (k:Nat):Prop:=∃ n,xC n s k=true
theorem kW.nil {k:Nat} (h:k≤400):kW [] k:=⟨1,ay h⟩
theorem kW.mono {s:zo} {k k':Nat} (h:kW s k) (hk:k'≤k):kW s k':=by
 obtain ⟨n,h⟩:=h
 exact ⟨n,qO n s k k' hk h⟩
theorem kW.sp {s:zo} {k:Nat} (h:kW s k):kW (32::s) k:=by
 obtain ⟨n,h⟩:=h
 exact ⟨n+1,by rw [xC,if_pos (by rfl)]; exact h⟩
theorem kW.tok {c:UInt8} {r s:zo} {k:Nat} {t:Sem ej} {m:Nat} (hb:(bif (c.toNat:Int)==32 then true else (c.toNat:Int)==10)=false) (hf:oX c r=(t,m)) (ht:jB t=true) (hs:(c::r).drop m=s) (h:kW s (k+1)):kW (c::r) k:=by
 obtain ⟨n,h⟩:=h
 refine ⟨n+1,?_⟩
 rw [xC,if_neg (by rw [hb]; simp),hf,if_pos ht]
 show xC n ((c::r).drop m) (k+1)=true
 rw [hs]
 exact h

theorem pV (p:Int→Bool):∀ (w r:zo),(∀ c∈w,p c.toNat=true)→(∀ d l,r=d::l→p d.toNat=false)→fW p (w++r)=w.length
 | [],[],_,_=>rfl
 | [],d::l,_,h=>by
  show fW p (d::l)=0
  rw [fW,h d l rfl]
  rfl
 | c::w,r,h1,h2=>by
  show fW p (c::(w++r))=w.length+1
  rw [fW,if_pos (h1 c (by simp)),pV p w r (fun x hx=>h1 x (by simp [hx])) h2]

theorem Hh {p:Int→Bool} (h32:p 32=false) (h10:p 10=false) {c:UInt8} (h:p c.toNat=true):(bif (c.toNat:Int)==32 then true else (c.toNat:Int)==10)=false:=by
 have a:((c.toNat:Int)==32)=false:=by
  refine jH.2 fun e=>?_
  rw [e,h32] at h; cases h
 have b:((c.toNat:Int)==10)=false:=by
  refine jH.2 fun e=>?_
  rw [e,h10] at h; cases h
 rw [a,b]
 rfl

def n7 (r:zo):Prop:=∀ d l,r=d::l→cr d.toNat=false∧d≠39
theorem n7.sp (r:zo):n7 (32::r):=by
 rintro d l h
 injection h with h1 h2
 subst h1
 exact ⟨rfl,by decide⟩
theorem n7.pa (r:zo):n7 (41::r):=by
 rintro d l h
 injection h with h1 h2
 subst h1
 exact ⟨rfl,by decide⟩
theorem n7.nil:n7 []:=fun _ _ h=>by cases h

theorem SQ (p:Int→Bool):∀ r:zo,fW p r=r.length→∀ x∈r,p x.toNat=true
 | [],_,x,hx=>by cases hx
 | d::l,hl,x,hx=>by
  rw [fW] at hl
  split at hl
  ·rename_i hd
   rcases cY.1 hx with rfl | hx
   ·exact hd
   ·exact SQ p l (by simpa using hl) x hx
  ·simp at hl
theorem Vi (n:Int) (h:ch .i64 n):n.natAbs < 10 ^ (18+1):=by
 have h1:-9223372036854775808≤n:=h.1
 have h2:n≤9223372036854775807:=h.2
 omega
theorem JK {w:zo} (h:md w=true):∃ c r,w=c::r∧aU c.toNat=true∧∀ x∈r,cr x.toNat=true:=by
 have h:nd w=true:=h
 unfold nd at h
 cases w with
 | nil=>simp at h
 | cons c r=>
  refine ⟨c,r,rfl,?_⟩
  cases h1:decide (((c::r).length:Int) ≥ 1)
  ·rw [h1] at h; cases h
  cases h2:decide (((c::r).length:Int)≤16)
  ·rw [h1,h2] at h; cases h
  rw [h1,h2] at h
  have h:((aD aU cr (c::r):Int)==((c::r).length:Int))=true:=h
  have h:(aD aU cr (c::r):Int)=((c::r).length:Int):=by simpa using h
  rw [aD] at h
  split at h
  ·rename_i hc
   refine ⟨hc,?_⟩
   have hl:fW cr r=r.length:=by simp at h; omega
   exact SQ cr r hl
  ·simp at h; omega

theorem kW.word {w r:zo} {k:Nat} (hw:md w=true) (hr:n7 r) (h:kW r (k+1)):kW (w++r) k:=by
 obtain ⟨c,l,rfl,hc,hl⟩:=JK hw
 have hld:fW cr (l++r)=l.length:=pV cr l r hl fun d l' e=>(hr d l' e).1
 refine kW.tok (r:=l++r) (s:=r) (t:=(1,c::l)) (m:=l.length+1) (Hh (p:=aU) rfl rfl hc) ?_ ?_ ?_ h
 ·unfold oX
  rw [if_pos hc,hld]
  simp
 ·exact hw
 ·simp

theorem kW.num {w r:zo} {k:Nat} (h1:1≤w.length) (h2:w.length≤19) (hd:∀ c∈w,zY c.toNat=true) (hr:n7 r) (h:kW r (k+1)):kW (w++r) k:=by
 cases w with
 | nil=>simp at h1
 | cons c l=>
  have hc:zY c.toNat=true:=hd c (by simp)
  have hlc:aU c.toNat=false:=by
   cases hh:aU c.toNat with
   | false=>rfl
   | true=>
    exfalso
    have h57:(c.toNat:Int)≤57:=by
     unfold zY at hc
     cases h1:decide ((c.toNat:Int) ≥ 48) <;> rw [h1] at hc
     ·cases hc
     ·exact fb hc
    unfold aU at hh
    rw [cu (show ¬ (c.toNat:Int) ≥ 97 by omega),cu (show ¬ (c.toNat:Int) ≥ 65 by omega)] at hh
    cases hh
  have hnp:∀ d l',r=d::l'→zY d.toNat=false:=by
   intro d l' e
   have:=(hr d l' e).1
   unfold cr at this
   cases hh:zY d.toNat
   ·rfl
   ·rw [hh] at this
    cases hl:aU d.toNat <;> rw [hl] at this <;> cases this
  have hld:fW zY (l++r)=l.length:=pV zY l r (fun x hx=>hd x (by simp [hx])) hnp
  refine kW.tok (r:=l++r) (s:=r) (t:=(2,c::l)) (m:=l.length+1) (Hh (p:=zY) rfl rfl hc) ?_ ?_ ?_ h
  ·unfold oX
   rw [if_neg (by rw [hlc]; simp),if_pos hc,hld]
   simp
  ·have e:aD zY zY (c::l)=(c::l).length:=by
    rw [aD,if_pos hc]
    have:=pV zY l [] (fun x hx=>hd x (by simp [hx])) (by intro _ _ h; cases h)
    rw [jL] at this
    rw [this]
    rfl
   have a1:decide (((c::l).length:Int) ≥ 1)=true:=ay (by omega)
   have a2:decide (((c::l).length:Int)≤19)=true:=ay (by omega)
   show (bif decide (((c::l).length:Int) ≥ 1) then bif decide (((c::l).length:Int)≤19) then ((aD zY zY (c::l):Int)==((c::l).length:Int)) else false else false)=true
   rw [a1,a2,e]
   simp
  ·simp

theorem kW.sign {c:UInt8} {r:zo} {k:Nat} (hc:c=40∨c=41∨c=44∨c=61∨c=60∨c=43∨c=45∨c=42) (h:kW r (k+1)):kW (c::r) k:=by
 refine kW.tok (r:=r) (s:=r) (t:=(4,[c])) (m:=1) ?_ ?_ ?_ (by simp) h
 ·rcases hc with rfl | rfl | rfl | rfl | rfl | rfl | rfl | rfl <;> rfl
 ·unfold oX
  rcases hc with rfl | rfl | rfl | rfl | rfl | rfl | rfl | rfl <;> (rw [if_neg (by decide),if_neg (by decide),if_neg (by decide)])
 ·rcases hc with rfl | rfl | rfl | rfl | rfl | rfl | rfl | rfl <;> rfl

theorem wV:∀ (t r:zo),r.head?≠some 39→ir (pD t++39::r)=some (t,(pD t).length+1)
 | [],r,h=>by
  show ir (39::r)=some ([],1)
  exact NK r h
 | c::t,r,h=>by
  rw [pD]
  split
  ·rename_i hc
   subst hc
   show ir (39::39::(pD t++39::r))=_
   rw [NL,wV t r h]
   simp
  ·rename_i hc
   show ir (c::(pD t++39::r))=_
   rw [Jx hc,wV t r h]
   simp

theorem kW.quoted {t r:zo} {k:Nat} (ht:gr ((2,0,t):Sem zf)=true) (hr:n7 r) (h:kW r (k+1)):kW (39::(pD t++39::r)) k:=by
 have h39:r.head?≠some 39:=by
  cases r with
  | nil=>simp
  | cons d l=>simpa using (hr d l rfl).2
 refine kW.tok (r:=pD t++39::r) (s:=r) (t:=(3,t)) (m:=(pD t).length+1+1) (by rfl) ?_ ht ?_ h
 ·unfold oX
  rw [if_neg (by decide),if_neg (by decide),if_pos rfl,wV t r h39]
 ·simp [List.drop_append]

theorem oN:∀ (f n:Nat),∀ c∈n6 f n,zY c.toNat=true
 | 0,_,c,h=>by cases h
 | f+1,n,c,h=>by
  have hd:∀ m,m < 10→zY (UInt8.ofNat (48+m)).toNat=true:=by decide
  rw [n6] at h
  split at h
  ·rename_i hn
   rw [bO] at h
   subst h
   exact hd n hn
  ·rcases bn.1 h with h | h
   ·exact oN f _ c h
   ·rw [bO] at h
    subst h
    exact hd (n % 10) (Nat.mod_lt n (by omega))
theorem Ky (f n:Nat):1≤(n6 (f+1) n).length:=by
 rw [n6]
 split
 ·simp
 ·simp
theorem uF:∀ (f g n:Nat),n < 10 ^ (g+1)→(n6 f n).length≤g+1
 | 0,_,_,_=>by simp [n6]
 | f+1,g,n,h=>by
  rw [n6]
  split
  ·simp
  ·rename_i hn
   cases g with
   | zero=>omega
   | succ g=>
    have:=uF f g (n / 10) (by rw [Nat.pow_succ] at h; omega)
    simp
    omega

theorem kW.val {v:Sem zf} {r:zo} {k:Nat} (hm:gr v=true) (hv:ch .i64 v.2.1) (hr:n7 r) (h:kW r (k+2)):kW (gy v++r) k:=by
 obtain ⟨a,n,t⟩:=v
 unfold gy
 rw [if_neg (by rw [hm]; simp)]
 split
 ·show kW (ox n++r) k
  have hlt:n.natAbs < 10 ^ (18+1):=Vi n hv
  have hl:=uF 20 18 n.natAbs hlt
  have hp:=Ky 19 n.natAbs
  unfold ox
  split
  ·show kW (45::(n6 20 n.natAbs++r)) k
   exact kW.sign (by simp) (kW.num hp hl (oN 20 _) hr h)
  ·exact kW.num hp hl (oN 20 _) hr (h.mono (by omega))
 ·split
  ·rename_i h1 h2
   have h2:a=(2:Int):=by simpa using h2
   subst h2
   show kW ([39]++Lib.replaceAll t [39] [39,39]++[39]++r) k
   rw [wF]
   have e:[39]++pD t++[39]++r=39::(pD t++39::r):=by simp
   rw [e]
   have ht:gr ((2,0,t):Sem zf)=true:=by
    have hn:n=0:=by
     unfold gr at hm
     simp only at hm
     cases hz:(n==(0:Int))
     ·rw [if_neg (by simp),if_neg (by simp),if_pos (by simp),hz] at hm
      cases hm
     ·simpa using hz
    rw [hn] at hm
    exact hm
   exact kW.quoted ht hr (h.mono (by omega))
  ·split
   ·split
    ·exact kW.word (w:=[84,82,85,69]) (by kernel_rfl) hr (h.mono (by omega))
    ·exact kW.word (w:=[70,65,76,83,69]) (by kernel_rfl) hr (h.mono (by omega))
   ·exact kW.word (w:=[78,85,76,76]) (by kernel_rfl) hr (h.mono (by omega))


noncomputable section

end
noncomputable section

inductive zjn where
 | h6 (l1:LC) (l2:LV) (i7:Int) (z0:zu [CP.d Sh.expr]) (z1:zu [CP.d zf])
inductive zjw where
 | h5 (i3:Int) (i4:Int) (z0:zu [CP.d zx])
 | h11 (i3:Int) (i6:Int) (z0:zu [CP.d zx])
 | h16 (i3:Int) (i7:Int) (z0:zu [CP.d zx])
end
end Cad
