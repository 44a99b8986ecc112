/- Statements' texts: nothing panics. stmt.May: nothing panics. What is asked of tables with rows, and of bases, holds. -/
import Derived.Test.YtiefilkilbdpgaaGreatDoorN13
import Derived.Test.YtiefilkilbdpgaaGreatDoorN12
namespace Cad
open Go Go.Proofs
open Int (toNat)
open List (getD)
open List (length)
set_option maxHeartbeats 4000000

structure ek (s:Sem zo):Prop where
 op:s.1.length≤1000
 table:s.2.1.length≤1000
 other:s.2.2.1.length≤1000
 names:s.2.2.2.1.length≤20∧∀ x∈s.2.2.2.1,length x≤1000
 cols:s.2.2.2.2.1.length≤20∧∀ x∈s.2.2.2.2.1,length x.1≤1000
 key:s.2.2.2.2.2.1.length≤1000
 uniques:s.2.2.2.2.2.2.1.length≤20∧∀ x∈s.2.2.2.2.2.2.1,length x≤1000
 refs:s.2.2.2.2.2.2.2.1.length≤20∧∀ x∈s.2.2.2.2.2.2.2.1,length x.1≤1000∧length x.2≤1000
 row:s.2.2.2.2.2.2.2.2.2.1.length≤20
 sets:s.2.2.2.2.2.2.2.2.2.2.1.length≤20∧∀ x∈s.2.2.2.2.2.2.2.2.2.2.1,length x.1≤1000
 role:s.2.2.2.2.2.2.2.2.2.2.2.2.length≤1000

theorem fZ (sep:zp) (B:Nat):∀ l:List zp,(∀ x∈l,x.length≤B)→(Lib.join l sep).length≤l.length * (B+sep.length)
 | [],_=>by simp [Lib.join,List.intercalate]
 | [x],h=>by
  rw [Lib.join_one]
  have:=h x (by simp)
  simp
  omega
 | x::y::r,h=>by
  have ih:=fZ sep B (y::r) (fun z hz=>h z (mF _ hz))
  have hx:=h x (by simp)
  have e:Lib.join (x::y::r) sep=x++sep++Lib.join (y::r) sep:=by simp [Lib.join,List.intercalate,List.intersperse]
  rw [e]
  simp only [pE,mc] at ih ⊢
  rw [eu]
  omega

theorem sQ {α:Type} (p:α→Bool):∀ (l:List α) (i:Nat),(!decide (zL p l i ≥ 0))=true→∀ x∈l,p x=false
 | [],_,_,x,hx=>by simp at hx
 | y::r,i,h,x,hx=>by
  rw [zL] at h
  cases hy:p y
  ·rw [hy] at h
   rcases c9.1 hx with rfl | hx
   ·exact hy
   ·exact sQ p r (i+1) (by simpa using h) x hx
  ·exfalso
   rw [hy] at h
   simp at h
   try omega

theorem kq (e:ze):gu e=true:=gi (BQ e) rfl
theorem fR (e:ze):(cW e).length≤30000000:=FR e
theorem nu (e:ze):xQ e=true:=by
 unfold xQ
 have:=fR e
 split
 ·rfl
 ·refine gi (kq e) (gi (aD ?_) rfl)
  simp; omega
theorem Kv (e:ze):(A3 e).length≤30000010:=by
 unfold A3
 have:=fR e
 split
 ·simp
 ·simp; omega
theorem iR (s:zp) (h:s.length≤10) (e:ze):lz s e=true:=by
 unfold lz
 have:=fR e
 split
 ·rfl
 ·refine gi (aD ?_) (gi (kq e) (gi (aD ?_) (gi (aD ?_) rfl)))
  all_goals (simp; omega)
theorem uQ (s:zp) (h:s.length≤10) (e:ze):(iF s e).length≤30000030:=by
 unfold iF
 have:=fR e
 split
 ·simp
 ·simp; omega
theorem yk (x:Sem aN) (h:length x.1≤1000):jH x=true:=by
 unfold jH
 have:=fR x.2
 refine gi (aD ?_) (gi (kq _) (gi (aD ?_) rfl))
 all_goals (simp; omega)
theorem td (x:Sem aN) (h:length x.1≤1000):(ez x).length≤30001010:=by
 unfold ez
 have:=fR x.2
 simp; omega
theorem xZ (x:Sem zi) (h:length x.1≤1000) (h1:(1:Int)≤x.2.1) (h2:LE.le (α:=Int) x.2.1 3):ic x=true:=by
 obtain ⟨nm,ty,nn⟩:=x
 replace h:nm.length≤1000:=h
 replace h1:LE.le (α:=Int) 1 ty:=h1
 replace h2:LE.le (α:=Int) ty 3:=h2
 have hw:IntKind.i64.wrap (ty - 1)=ty - 1:=lY _ (by omega) (by omega)
 have hin:zI (ty - 1) 3=true:=by simp [zI]; omega
 unfold ic
 simp only [hw,hin,Bool.cond_eq_ite]
 repeat' split
 all_goals first
  | rfl
  | (rename_i hf; exfalso; apply hf; simp; omega)
  | (rename_i hf _; exfalso; apply hf; simp; omega)
  | (exfalso; simp_all; omega)
theorem Dg (x:Sem zi) (h:length x.1≤1000):(dW x).length≤1100:=by
 unfold dW
 simp only [Bool.cond_eq_ite]
 repeat' split
 all_goals (simp; omega)

theorem sJ:∀ (l:List (Sem zi)) (i:Int) (acc:List zp),cO l i acc=Lib.join (acc++l.map dW) [32,44,32]
 | [],i,acc=>by simp [cO]
 | x::r,i,acc=>by rw [cO,sJ r]; simp
theorem Bi (B:Nat) (l:List (Sem zi)) (h:∀ x∈l,(dW x).length≤B):(dB l).length≤l.length * (B+3):=by
 unfold dB
 rw [sJ]
 have:=fZ [32,44,32] B ([]++l.map dW) (fun y hy=>by
  simp only [yJ,fm] at hy
  obtain ⟨x,hx,rfl⟩:=hy
  exact h x hx)
 simpa using this
theorem pP (B:Nat) (hB:B≤100000000):∀ (l:List (Sem zi)) (i:Int) (acc:List zp),(∀ x∈l,ic x=true∧(dW x).length≤B)→(∀ x∈acc,x.length≤B)→acc.length+l.length≤40→di l i acc=true
 | [],i,acc,_,ha,hl=>by
  rw [di]
  refine gi ?_ rfl
  have h1:=fZ [32,44,32] B acc ha
  have h2:acc.length * (B+3)≤40 * 100000003:=jS (by simpa using hl) (by omega)
  replace h1:(Lib.join acc [32,44,32]).length≤acc.length * (B+3):=h1
  simp only [aM,zZ]
  simp at hl
  exact ⟨by omega,by omega⟩
 | x::r,i,acc,h,ha,hl=>by
  rw [di]
  have hx:=h x (by simp)
  simp at hl
  refine gi hx.1 (gi (aD ?_) ?_)
  ·simp; omega
  ·refine pP B hB r (i+1) _ (fun y hy=>h y (mF _ hy)) (fun y hy=>?_) (by simp; omega)
   rcases bp.1 hy with hy | hy
   ·exact ha y hy
   ·simp at hy; subst hy; exact hx.2

theorem tg:∀ (l:List (Sem Sh.str)) (i:Int) (acc:List zp),cU l i acc=Lib.join (acc++l.map mr) [32,44,32]
 | [],i,acc=>by simp [cU]
 | x::r,i,acc=>by rw [cU,tg r]; simp
theorem CA (B:Nat) (l:List (Sem Sh.str)) (h:∀ x∈l,(mr x).length≤B):(lg l).length≤l.length * (B+3):=by
 unfold lg
 rw [tg]
 have:=fZ [32,44,32] B ([]++l.map mr) (fun y hy=>by
  simp only [yJ,fm] at hy
  obtain ⟨x,hx,rfl⟩:=hy
  exact h x hx)
 simpa using this
theorem qN (B:Nat) (hB:B≤100000000):∀ (l:List (Sem Sh.str)) (i:Int) (acc:List zp),(∀ x∈l,(mr x).length≤B)→(∀ x∈acc,x.length≤B)→acc.length+l.length≤40→dl l i acc=true
 | [],i,acc,_,ha,hl=>by
  rw [dl]
  refine gi ?_ rfl
  have h1:=fZ [32,44,32] B acc ha
  have h2:acc.length * (B+3)≤40 * 100000003:=jS (by simpa using hl) (by omega)
  replace h1:(Lib.join acc [32,44,32]).length≤acc.length * (B+3):=h1
  simp only [aM,zZ]
  simp at hl
  exact ⟨by omega,by omega⟩
 | x::r,i,acc,h,ha,hl=>by
  rw [dl]
  have hx:=h x (by simp)
  simp at hl
  refine gi (aD ?_) ?_
  ·simp; omega
  ·refine qN B hB r (i+1) _ (fun y hy=>h y (mF _ hy)) (fun y hy=>?_) (by simp; omega)
   rcases bp.1 hy with hy | hy
   ·exact ha y hy
   ·simp at hy; subst hy; exact hx

theorem tv:∀ (l:List (Sem zf)) (i:Int) (acc:List zp),cV l i acc=Lib.join (acc++l.map gC) [32,44,32]
 | [],i,acc=>by simp [cV]
 | x::r,i,acc=>by rw [cV,tv r]; simp
theorem CN (B:Nat) (l:List (Sem zf)) (h:∀ x∈l,(gC x).length≤B):(ln l).length≤l.length * (B+3):=by
 unfold ln
 rw [tv]
 have:=fZ [32,44,32] B ([]++l.map gC) (fun y hy=>by
  simp only [yJ,fm] at hy
  obtain ⟨x,hx,rfl⟩:=hy
  exact h x hx)
 simpa using this
theorem qV (B:Nat) (hB:B≤100000000):∀ (l:List (Sem zf)) (i:Int) (acc:List zp),(∀ x∈l,lW x=true∧(gC x).length≤B)→(∀ x∈acc,x.length≤B)→acc.length+l.length≤40→dp l i acc=true
 | [],i,acc,_,ha,hl=>by
  rw [dp]
  refine gi ?_ rfl
  have h1:=fZ [32,44,32] B acc ha
  have h2:acc.length * (B+3)≤40 * 100000003:=jS (by simpa using hl) (by omega)
  replace h1:(Lib.join acc [32,44,32]).length≤acc.length * (B+3):=h1
  simp only [aM,zZ]
  simp at hl
  exact ⟨by omega,by omega⟩
 | x::r,i,acc,h,ha,hl=>by
  rw [dp]
  have hx:=h x (by simp)
  simp at hl
  refine gi hx.1 (gi (aD ?_) ?_)
  ·simp; omega
  ·refine qV B hB r (i+1) _ (fun y hy=>h y (mF _ hy)) (fun y hy=>?_) (by simp; omega)
   rcases bp.1 hy with hy | hy
   ·exact ha y hy
   ·simp at hy; subst hy; exact hx.2

theorem te:∀ (l:List (Sem aN)) (i:Int) (acc:List zp),cT l i acc=Lib.join (acc++l.map ez) [32,44,32]
 | [],i,acc=>by simp [cT]
 | x::r,i,acc=>by rw [cT,te r]; simp
theorem Cx (B:Nat) (l:List (Sem aN)) (h:∀ x∈l,(ez x).length≤B):(k9 l).length≤l.length * (B+3):=by
 unfold k9
 rw [te]
 have:=fZ [32,44,32] B ([]++l.map ez) (fun y hy=>by
  simp only [yJ,fm] at hy
  obtain ⟨x,hx,rfl⟩:=hy
  exact h x hx)
 simpa using this
theorem qL (B:Nat) (hB:B≤100000000):∀ (l:List (Sem aN)) (i:Int) (acc:List zp),(∀ x∈l,jH x=true∧(ez x).length≤B)→(∀ x∈acc,x.length≤B)→acc.length+l.length≤40→dk l i acc=true
 | [],i,acc,_,ha,hl=>by
  rw [dk]
  refine gi ?_ rfl
  have h1:=fZ [32,44,32] B acc ha
  have h2:acc.length * (B+3)≤40 * 100000003:=jS (by simpa using hl) (by omega)
  replace h1:(Lib.join acc [32,44,32]).length≤acc.length * (B+3):=h1
  simp only [aM,zZ]
  simp at hl
  exact ⟨by omega,by omega⟩
 | x::r,i,acc,h,ha,hl=>by
  rw [dk]
  have hx:=h x (by simp)
  simp at hl
  refine gi hx.1 (gi (aD ?_) ?_)
  ·simp; omega
  ·refine qL B hB r (i+1) _ (fun y hy=>h y (mF _ hy)) (fun y hy=>?_) (by simp; omega)
   rcases bp.1 hy with hy | hy
   ·exact ha y hy
   ·simp at hy; subst hy; exact hx.2

theorem bO {s:Sem zo} {g b:Bool} (hv:(ew s).val=if g=true then some (.inr (.bool b,[])) else none):j6 s=g∧eP s=(g&&b):=by
 unfold j6 eP uf zW bl
 rw [hv]
 cases g <;> cases b <;> exact ⟨rfl,rfl⟩
theorem s9 {s:Sem zo} (hv:(ew s).val=some (.inr (.kb false,[]))):j6 s=true∧eP s=false:=by
 unfold j6 eP uf zW bl
 rw [hv]
 exact ⟨rfl,rfl⟩

theorem Rp {s:Sem zo} (h:eP s=true):(s.1=[99,114,101,97,116,101]∧eU s=true)∨(s.1=[103,114,111,117,112]∧s.2.2.2.1.length=2)∨
  (s.1∈([[100,114,111,112],[105,110,115,101,114,116],[117,112,100,97,116,101],[100,101,108,101,116,101],[115,101,108,101,99,116],[114,101,97,100],[119,114,105,116,101],[117,110,114,101,97,100],[117,110,119,114,105,116,101],[99,111,112,121],[106,111,105,110]]:List zp)):=by
 by_cases q0:(s.1==[99,114,101,97,116,101])=true
 ·refine .inl ⟨dR q0,?_⟩
  obtain ⟨_,hp⟩:=bO (s:=s) (g:=_) (b:=_) (by simp only [ew,dF,Tr.val,q0,if_true,zm]; exact rfl)
  rw [hp] at h
  cases h2:eU s
  ·rw [h2] at h
   cases h1:bt s.2.1 <;> rw [h1] at h <;> simp at h
  ·rfl
 by_cases q1:(s.1==[100,114,111,112])=true
 ·exact .inr (.inr (by rw [dR q1]; simp))
 by_cases q2:(s.1==[105,110,115,101,114,116])=true
 ·exact .inr (.inr (by rw [dR q2]; simp))
 by_cases q3:(s.1==[117,112,100,97,116,101])=true
 ·exact .inr (.inr (by rw [dR q3]; simp))
 by_cases q4:(s.1==[100,101,108,101,116,101])=true
 ·exact .inr (.inr (by rw [dR q4]; simp))
 by_cases q5:(s.1==[115,101,108,101,99,116])=true
 ·exact .inr (.inr (by rw [dR q5]; simp))
 by_cases q6:(s.1==[114,101,97,100])=true
 ·exact .inr (.inr (by rw [dR q6]; simp))
 by_cases q7:(s.1==[119,114,105,116,101])=true
 ·exact .inr (.inr (by rw [dR q7]; simp))
 by_cases q8:(s.1==[117,110,114,101,97,100])=true
 ·exact .inr (.inr (by rw [dR q8]; simp))
 by_cases q9:(s.1==[117,110,119,114,105,116,101])=true
 ·exact .inr (.inr (by rw [dR q9]; simp))
 by_cases q10:(s.1==[99,111,112,121])=true
 ·exact .inr (.inr (by rw [dR q10]; simp))
 by_cases q11:(s.1==[106,111,105,110])=true
 ·exact .inr (.inr (by rw [dR q11]; simp))
 by_cases q12:(s.1==[103,114,111,117,112])=true
 ·refine .inr (.inl ⟨dR q12,?_⟩)
  obtain ⟨_,hp⟩:=bO (s:=s) (g:=_) (b:=_) (by simp only [ew,dF,Tr.val,q0,q1,q2,q3,q4,q5,q6,q7,q8,q9,q10,q11,q12,if_true,if_false,zH,zm]; exact rfl)
  rw [hp] at h
  by_cases hl:s.2.2.2.1.length=2
  ·exact hl
  ·exfalso
   have hd:(bif decide ((s.2.2.2.1.length:Int) < 2) then true else decide ((s.2.2.2.1.length:Int) > 2))=true:=by
    rcases Nat.lt_or_gt_of_ne hl with h2 | h2
    ·have:decide ((s.2.2.2.1.length:Int) < 2)=true:=aq (by omega)
     rw [this]; rfl
    ·have:decide ((s.2.2.2.1.length:Int) > 2)=true:=aq (by omega)
     rw [this]; cases decide ((s.2.2.2.1.length:Int) < 2) <;> rfl
   rw [hd] at h
   cases h1:bt s.2.1 <;> cases h2:bt s.2.2.1 <;> rw [h1,h2] at h <;> simp at h
 obtain ⟨_,hp⟩:=s9 (s:=s) (by simp only [ew,dF,Tr.val,q0,q1,q2,q3,q4,q5,q6,q7,q8,q9,q10,q11,q12,if_false,zH])
 rw [hp] at h
 cases h


theorem kE {a0:Sem Sh.str} {a1:Sem Sh.str} {a2:Sem Sh.str} {a3:List (Sem Sh.str)} {a4:List (Sem zi)} {a5:Sem Sh.str} {a6:List (Sem Sh.str)} {a7:List (Sem (Sh.str.pr Sh.str))} {a8:zp} {a9:Int} {a10:Int} {a11:zp} {a12:zp} {a13:List (Sem Sh.expr)} {a14:List (Sem zf)} {a15:List (Sem (Sh.str.pr Sh.expr))} {a16:zp} {a17:Int} {a18:Int} {a19:zp} {a20:zp} {a21:List (Sem Sh.expr)} {a22:Sem Sh.str}:∀ (l:List (Sem (Sh.str.pr Sh.str))) (i:Int) (s:zp),(∀ x∈l,length x.1≤1000∧length x.2≤1000)→s.length+l.length * 3000≤1000000→
  dj a0 a1 a2 a3 a4 a5 a6 a7 a8 a9 a10 a11 a12 a13 a14 a15 a16 a17 a18 a19 a20 a21 a22 l i s=true∧(cQ a0 a1 a2 a3 a4 a5 a6 a7 a8 a9 a10 a11 a12 a13 a14 a15 a16 a17 a18 a19 a20 a21 a22 l i s).length≤40000000
 | [],i,s,_,hs=>by
  rw [dj,cQ]
  have h1:=uQ [32,44,32] (by simp) (ze.mk a8 (a9,a10,a11) a12 a13)
  simp at hs
  refine ⟨gi (iR _ (by simp) _) (gi (aD ?_) (gi (aD ?_) rfl)),?_⟩
  all_goals first | omega | (simp; omega)
 | x::r,i,s,h,hs=>by
  have hx:=h x (by simp)
  simp at hs
  rw [dj,cQ]
  obtain ⟨k1,k2⟩:=kE (a0:=a0) (a1:=a1) (a2:=a2) (a3:=a3) (a4:=a4) (a5:=a5) (a6:=a6) (a7:=a7) (a8:=a8) (a9:=a9) (a10:=a10) (a11:=a11) (a12:=a12) (a13:=a13) (a14:=a14) (a15:=a15) (a16:=a16) (a17:=a17) (a18:=a18) (a19:=a19) (a20:=a20) (a21:=a21) (a22:=a22) r (i+1) (s++([32,44,32,82,69,70,69,82,69,78,67,69,83,32,40,32]++x.1++[32,41,32]++x.2)) (fun y hy=>h y (mF _ hy)) (by simp; omega)
  refine ⟨gi (aD ?_) (gi (aD ?_) (gi (aD ?_) (gi (aD ?_) k1))),k2⟩
  all_goals (simp; omega)

theorem mf {a0:Sem Sh.str} {a1:Sem Sh.str} {a2:Sem Sh.str} {a3:List (Sem Sh.str)} {a4:List (Sem zi)} {a5:Sem Sh.str} {a6:List (Sem Sh.str)} {a7:List (Sem (Sh.str.pr Sh.str))} {a8:zp} {a9:Int} {a10:Int} {a11:zp} {a12:zp} {a13:List (Sem Sh.expr)} {a14:List (Sem zf)} {a15:List (Sem (Sh.str.pr Sh.expr))} {a16:zp} {a17:Int} {a18:Int} {a19:zp} {a20:zp} {a21:List (Sem Sh.expr)} {a22:Sem Sh.str} (h7:a7.length≤20∧∀ x∈a7,length x.1≤1000∧length x.2≤1000):∀ (l:List (Sem Sh.str)) (i:Int) (s:zp),(∀ x∈l,length x≤1000)→s.length+l.length * 3000≤900000→
  dX a0 a1 a2 a3 a4 a5 a6 a7 a8 a9 a10 a11 a12 a13 a14 a15 a16 a17 a18 a19 a20 a21 a22 l i s=true∧(dC a0 a1 a2 a3 a4 a5 a6 a7 a8 a9 a10 a11 a12 a13 a14 a15 a16 a17 a18 a19 a20 a21 a22 l i s).length≤40000000
 | [],i,s,_,hs=>by
  rw [dX,dC]
  simp at hs
  exact kE a7 0 s h7.2 (by have:=h7.1; omega)
 | x::r,i,s,h,hs=>by
  have hx:=h x (by simp)
  simp at hs
  rw [dX,dC]
  obtain ⟨k1,k2⟩:=mf (a0:=a0) (a1:=a1) (a2:=a2) (a3:=a3) (a4:=a4) (a5:=a5) (a6:=a6) (a7:=a7) (a8:=a8) (a9:=a9) (a10:=a10) (a11:=a11) (a12:=a12) (a13:=a13) (a14:=a14) (a15:=a15) (a16:=a16) (a17:=a17) (a18:=a18) (a19:=a19) (a20:=a20) (a21:=a21) (a22:=a22) h7 r (i+1) (s++([32,44,32,85,78,73,81,85,69,32,40,32]++x++[32,41])) (fun y hy=>h y (mF _ hy)) (by simp; omega)
  refine ⟨gi (aD ?_) (gi (aD ?_) (gi (aD ?_) k1)),k2⟩
  all_goals (simp; omega)

theorem Bj {s:Sem zo} (h:eU s=true):∀ x∈s.2.2.2.2.1,hZ x=true:=by
 intro x hx
 have hq:(!decide (zL (fun x => !hZ x) s.2.2.2.2.1 0 ≥ 0))=true:=by
  unfold eU at h
  cases h1:(bif decide ((↑(length s.2.2.2.2.1):Int) < 1) then true else decide ((↑(length s.2.2.2.2.1):Int) > 8))
  ·rw [h1] at h
   cases h2:(!decide (zL (fun x => !hZ x) s.2.2.2.2.1 0 ≥ 0))
   ·rw [h2] at h; cases h
   ·rfl
  ·rw [h1] at h; cases h
 have:=sQ (fun x => !hZ x) _ 0 hq x hx
 simpa using this

theorem uR {x:Sem zi} (h:hZ x=true):LE.le (α:=Int) 1 x.2.1∧LE.le (α:=Int) x.2.1 3:=by
 unfold hZ at h
 cases h1:bt x.1
 ·rw [h1] at h; cases h
 ·rw [h1] at h
  cases h2:decide (x.2.1 ≥ 1)
  ·rw [h2] at h; cases h
  ·rw [h2] at h
   have h3:decide (x.2.1≤3)=true:=h
   exact ⟨fj h2,fj h3⟩

theorem x3 {s:Sem zo} (hs:ek s) (hc:eU s=true):mJ s=true∧(nD s).length≤40000000:=by
 have hcol:=Bj hc
 have c1:∀ x∈s.2.2.2.2.1,ic x=true∧(dW x).length≤1100:=fun x hx=>⟨xZ x (hs.cols.2 x hx) (uR (hcol x hx)).1 (uR (hcol x hx)).2,Dg x (hs.cols.2 x hx)⟩
 have c2:jh s.2.2.2.2.1=true:=pP 1100 (by omega) _ 0 [] c1 (by simp) (by have:=hs.cols.1; simp; omega)
 have c3:=Bi 1100 s.2.2.2.2.1 (fun x hx=>(c1 x hx).2)
 have c4:s.2.2.2.2.1.length * (1100+3)≤20 * 1103:=jS hs.cols.1 (by omega)
 have t1:=hs.table
 have t2:=hs.key
 have u1:=hs.uniques.1
 unfold mJ nD
 obtain ⟨k1,k2⟩:=mf (a0:=s.1) (a1:=s.2.1) (a2:=s.2.2.1) (a3:=s.2.2.2.1) (a4:=s.2.2.2.2.1) (a5:=s.2.2.2.2.2.1) (a6:=s.2.2.2.2.2.2.1) (a8:=s.2.2.2.2.2.2.2.2.1.op) (a9:=s.2.2.2.2.2.2.2.2.1.v.1) (a10:=s.2.2.2.2.2.2.2.2.1.v.2.1) (a11:=s.2.2.2.2.2.2.2.2.1.v.2.2) (a12:=s.2.2.2.2.2.2.2.2.1.s) (a13:=s.2.2.2.2.2.2.2.2.1.l) (a14:=s.2.2.2.2.2.2.2.2.2.1) (a15:=s.2.2.2.2.2.2.2.2.2.2.1) (a16:=s.2.2.2.2.2.2.2.2.2.2.2.1.op) (a17:=s.2.2.2.2.2.2.2.2.2.2.2.1.v.1) (a18:=s.2.2.2.2.2.2.2.2.2.2.2.1.v.2.1) (a19:=s.2.2.2.2.2.2.2.2.2.2.2.1.v.2.2) (a20:=s.2.2.2.2.2.2.2.2.2.2.2.1.s) (a21:=s.2.2.2.2.2.2.2.2.2.2.2.1.l) (a22:=s.2.2.2.2.2.2.2.2.2.2.2.2)
  hs.refs s.2.2.2.2.2.2.1 0 ([67,82,69,65,84,69,32,84,65,66,76,69,32]++s.2.1++[32,40,32]++dB s.2.2.2.2.1++([32,44,32,75,69,89,32,40,32]++s.2.2.2.2.2.1++[32,41])) hs.uniques.2 (by
   have:s.2.2.2.2.2.2.1.length * 3000≤20 * 3000:=jS u1 (by omega)
   simp; omega)
 refine ⟨gi (aD ?_) (gi (aD ?_) (gi c2 (gi (aD ?_) (gi (aD ?_) (gi (aD ?_) (gi (aD ?_) k1)))))),k2⟩
 all_goals (simp; omega)

theorem gx {α β:Type} {c:Bool} {a:Option α} {F:β→Option α} {P:β→Prop} (h:c=true) (k:∃ t,a=F t∧P t):∃ t,(if c=true then a else none)=F t∧P t:=by
 subst h; exact k
theorem xt {s:Sem zo} (h:∃ t,(oM s).val=some (.inr (.str t,[]))∧t.length≤1000000000):se s=true∧(gg s).length≤1000000000:=by
 obtain ⟨t,h,k⟩:=h
 unfold se gg Ct zW bl
 rw [h]
 exact ⟨rfl,k⟩

theorem ta {s:Sem zo} (hs:ek s) (hp:eP s=true):se s=true∧(gg s).length≤1000000000:=by
 have t1:=hs.table
 have t2:=hs.other
 have t3:=hs.key
 have t4:=hs.role
 have t5:=hs.op
 have tu:=dm s.1
 have w1:=Kv s.2.2.2.2.2.2.2.2.2.2.2.1
 have w2:=uQ [32] (by simp) s.2.2.2.2.2.2.2.2.1
 have v1:lp s.2.2.2.2.2.2.2.2.2.1=true:=qV 300 (by omega) _ 0 [] (fun x _=>⟨tt x,sj x⟩) (by simp) (by have:=hs.row; simp; omega)
 have v2:=CN 300 s.2.2.2.2.2.2.2.2.2.1 (fun x _=>sj x)
 have v3:s.2.2.2.2.2.2.2.2.2.1.length * (300+3)≤20 * 303:=jS hs.row (by omega)
 have e1:lc s.2.2.2.2.2.2.2.2.2.2.1=true:=qL 30001010 (by omega) _ 0 [] (fun x hx=>⟨yk x (hs.sets.2 x hx),td x (hs.sets.2 x hx)⟩) (by simp) (by have:=hs.sets.1; simp; omega)
 have e2:=Cx 30001010 s.2.2.2.2.2.2.2.2.2.2.1 (fun x hx=>td x (hs.sets.2 x hx))
 have e3:s.2.2.2.2.2.2.2.2.2.2.1.length * (30001010+3)≤20 * 30001013:=jS hs.sets.1 (by omega)
 have n1:lh s.2.2.2.1=true:=qN 1000 (by omega) _ 0 [] (fun x hx=>hs.names.2 x hx) (by simp) (by have:=hs.names.1; simp; omega)
 have n2:=CA 1000 s.2.2.2.1 (fun x hx=>hs.names.2 x hx)
 have n3:s.2.2.2.1.length * (1000+3)≤20 * 1003:=jS hs.names.1 (by omega)
 have go:∀ op:zp,s.1=op→(∀ z:Bool,z=true→z=true):=fun _ _ _ h=>h
 clear go
 rcases Rp hp with ⟨hop,hc⟩ | ⟨hop,hl2⟩ | hop
 ·have hup:(decide (length s.1≤140737488355328)&&List.all s.1 fun b=>decide (b.toNat < 128))=true:=by rw [hop]; decide
  have q0:(s.1==[99,114,101,97,116,101])=true:=by rw [hop]; rfl
  have q1:(s.1==[100,114,111,112])=false:=by rw [hop]; rfl
  have q2:(s.1==[105,110,115,101,114,116])=false:=by rw [hop]; rfl
  have q3:(s.1==[117,112,100,97,116,101])=false:=by rw [hop]; rfl
  have q4:(s.1==[100,101,108,101,116,101])=false:=by rw [hop]; rfl
  have q5:(s.1==[115,101,108,101,99,116])=false:=by rw [hop]; rfl
  have q6:(s.1==[114,101,97,100])=false:=by rw [hop]; rfl
  have q7:(s.1==[119,114,105,116,101])=false:=by rw [hop]; rfl
  have q8:(s.1==[117,110,114,101,97,100])=false:=by rw [hop]; rfl
  have q9:(s.1==[117,110,119,114,105,116,101])=false:=by rw [hop]; rfl
  have q10:(s.1==[99,111,112,121])=false:=by rw [hop]; rfl
  have q11:(s.1==[106,111,105,110])=false:=by rw [hop]; rfl
  have q12:(s.1==[103,114,111,117,112])=false:=by rw [hop]; rfl
  have kc:=x3 hs hc
  refine xt ?_
  simp only [oM,wn,Tr.val,q0,q1,q2,q3,q4,q5,q6,q7,q8,q9,q10,q11,if_true,zH,if_false,zm]
  repeat' (with_reducible refine gx ?_ ?_)
  all_goals first
   | (refine ⟨_,rfl,?_⟩; exact cy kc.2 (by omega))
   | rfl
   | exact hup
   | exact v1
   | exact e1
   | exact n1
   | exact nu _
   | exact iR _ (by simp) _
   | exact kc.1
   | (refine aD ?_; simp; omega)
   | (rw [hop]; decide)
   | (refine aD ?_; rw [hop]; simp [dm]; omega)
 ·have hup:(decide (length s.1≤140737488355328)&&List.all s.1 fun b=>decide (b.toNat < 128))=true:=by rw [hop]; decide
  have q0:(s.1==[99,114,101,97,116,101])=false:=by rw [hop]; rfl
  have q1:(s.1==[100,114,111,112])=false:=by rw [hop]; rfl
  have q2:(s.1==[105,110,115,101,114,116])=false:=by rw [hop]; rfl
  have q3:(s.1==[117,112,100,97,116,101])=false:=by rw [hop]; rfl
  have q4:(s.1==[100,101,108,101,116,101])=false:=by rw [hop]; rfl
  have q5:(s.1==[115,101,108,101,99,116])=false:=by rw [hop]; rfl
  have q6:(s.1==[114,101,97,100])=false:=by rw [hop]; rfl
  have q7:(s.1==[119,114,105,116,101])=false:=by rw [hop]; rfl
  have q8:(s.1==[117,110,114,101,97,100])=false:=by rw [hop]; rfl
  have q9:(s.1==[117,110,119,114,105,116,101])=false:=by rw [hop]; rfl
  have q10:(s.1==[99,111,112,121])=false:=by rw [hop]; rfl
  have q11:(s.1==[106,111,105,110])=false:=by rw [hop]; rfl
  have q12:(s.1==[103,114,111,117,112])=true:=by rw [hop]; rfl
  have g0:length (getD s.2.2.2.1 (toNat 0) (zj Sh.str))≤1000:=by
   rw [aH,zJ (show (0:Int).toNat < s.2.2.2.1.length by rw [hl2]; decide)]
   exact hs.names.2 _ (cZ _)
  have g1:length (getD s.2.2.2.1 (toNat 1) (zj Sh.str))≤1000:=by
   rw [aH,zJ (show (1:Int).toNat < s.2.2.2.1.length by rw [hl2]; decide)]
   exact hs.names.2 _ (cZ _)
  refine xt ?_
  simp only [oM,wn,Tr.val,q0,q1,q2,q3,q4,q5,q6,q7,q8,q9,q10,q11,zH,if_false,zm]
  repeat' (with_reducible refine gx ?_ ?_)
  all_goals first
   | (refine ⟨_,rfl,?_⟩; first | (simp at g0 g1 ⊢; omega) | (rw [hop]; simp [dm]; omega))
   | rfl
   | exact hup
   | exact v1
   | exact e1
   | exact n1
   | exact nu _
   | exact iR _ (by simp) _
   | (simp [zI,hl2]; done)
   | (refine aD ?_; simp at g0 g1 ⊢; omega)
   | (rw [hop]; decide)
   | (refine aD ?_; rw [hop]; simp [dm]; omega)
 ·simp only [c9,List.not_mem_nil,or_false] at hop
  rcases hop with hop | hop | hop | hop | hop | hop | hop | hop | hop | hop | hop
  all_goals
   have hup:(decide (length s.1≤140737488355328)&&List.all s.1 fun b=>decide (b.toNat < 128))=true:=by rw [hop]; decide
   have q0:(s.1==[99,114,101,97,116,101])=false:=by rw [hop]; rfl
   first | (have q1:(s.1==[100,114,111,112])=false:=by rw [hop]; rfl) | (have q1:(s.1==[100,114,111,112])=true:=by rw [hop]; rfl)
   first | (have q2:(s.1==[105,110,115,101,114,116])=false:=by rw [hop]; rfl) | (have q2:(s.1==[105,110,115,101,114,116])=true:=by rw [hop]; rfl)
   first | (have q3:(s.1==[117,112,100,97,116,101])=false:=by rw [hop]; rfl) | (have q3:(s.1==[117,112,100,97,116,101])=true:=by rw [hop]; rfl)
   first | (have q4:(s.1==[100,101,108,101,116,101])=false:=by rw [hop]; rfl) | (have q4:(s.1==[100,101,108,101,116,101])=true:=by rw [hop]; rfl)
   first | (have q5:(s.1==[115,101,108,101,99,116])=false:=by rw [hop]; rfl) | (have q5:(s.1==[115,101,108,101,99,116])=true:=by rw [hop]; rfl)
   first | (have q6:(s.1==[114,101,97,100])=false:=by rw [hop]; rfl) | (have q6:(s.1==[114,101,97,100])=true:=by rw [hop]; rfl)
   first | (have q7:(s.1==[119,114,105,116,101])=false:=by rw [hop]; rfl) | (have q7:(s.1==[119,114,105,116,101])=true:=by rw [hop]; rfl)
   first | (have q8:(s.1==[117,110,114,101,97,100])=false:=by rw [hop]; rfl) | (have q8:(s.1==[117,110,114,101,97,100])=true:=by rw [hop]; rfl)
   first | (have q9:(s.1==[117,110,119,114,105,116,101])=false:=by rw [hop]; rfl) | (have q9:(s.1==[117,110,119,114,105,116,101])=true:=by rw [hop]; rfl)
   first | (have q10:(s.1==[99,111,112,121])=false:=by rw [hop]; rfl) | (have q10:(s.1==[99,111,112,121])=true:=by rw [hop]; rfl)
   first | (have q11:(s.1==[106,111,105,110])=false:=by rw [hop]; rfl) | (have q11:(s.1==[106,111,105,110])=true:=by rw [hop]; rfl)
   have q12:(s.1==[103,114,111,117,112])=false:=by rw [hop]; rfl
   refine xt ?_
   simp only [oM,wn,Tr.val,q0,q1,q2,q3,q4,q5,q6,q7,q8,q9,q10,q11,if_true,zH,if_false,zm]
   repeat' (with_reducible refine gx ?_ ?_)
   all_goals first
    | (refine ⟨_,rfl,?_⟩; first | (simp; omega) | (rw [hop]; simp [dm]; omega))
    | rfl
    | exact hup
    | exact v1
    | exact e1
    | exact n1
    | exact nu _
    | exact iR _ (by simp) _
    | (refine aD ?_; simp; omega)
    | (rw [hop]; decide)
    | (refine aD ?_; rw [hop]; simp [dm]; omega)
theorem bu {x:Sem zo} (h1:x.2.1.length≤1000) (h2:x.2.2.1.length≤1000) (h3:x.2.2.2.2.2.1.length≤1000) (h4:x.2.2.2.2.2.2.2.2.2.2.2.2.length≤1000):dv x=true:=by
 unfold dv
 refine gi (aD ?_) (gi (aD ?_) (gi (aD ?_) rfl))
 all_goals first | omega | (simp; omega)

theorem dA {c g:Bool} (h:g=true):(bif c then g else true)=true:=by cases c <;> simp [h]

theorem Cr {s:Sem zo} (hs:ek s):j6 s=true:=by
 have t1:=hs.table
 have t2:=hs.other
 have t3:=hs.key
 have t4:=hs.role
 by_cases q0:(s.1==[99,114,101,97,116,101])=true
 ·obtain ⟨hc,_⟩:=bO (s:=s) (g:=_) (b:=_) (by simp only [ew,dF,Tr.val,q0,if_true,zm]; exact rfl)
  rw [hc]
  exact dA (bu (by simp) (by first | exact t2 | simp) (by first | exact t3 | simp) (by first | exact t4 | simp))
 by_cases q1:(s.1==[100,114,111,112])=true
 ·obtain ⟨hc,_⟩:=bO (s:=s) (g:=_) (b:=_) (by simp only [ew,dF,Tr.val,q0,q1,if_true,if_false,zH,zm]; exact rfl)
  rw [hc]
  exact dA (bu (by simp) (by first | exact t2 | simp) (by first | exact t3 | simp) (by first | exact t4 | simp))
 by_cases q2:(s.1==[105,110,115,101,114,116])=true
 ·obtain ⟨hc,_⟩:=bO (s:=s) (g:=_) (b:=_) (by simp only [ew,dF,Tr.val,q0,q1,q2,if_true,if_false,zH,zm]; exact rfl)
  rw [hc]
  exact dA (bu (by simp) (by first | exact t2 | simp) (by first | exact t3 | simp) (by first | exact t4 | simp))
 by_cases q3:(s.1==[117,112,100,97,116,101])=true
 ·obtain ⟨hc,_⟩:=bO (s:=s) (g:=_) (b:=_) (by simp only [ew,dF,Tr.val,q0,q1,q2,q3,if_true,if_false,zH,zm]; exact rfl)
  rw [hc]
  exact dA (bu (by simp) (by first | exact t2 | simp) (by first | exact t3 | simp) (by first | exact t4 | simp))
 by_cases q4:(s.1==[100,101,108,101,116,101])=true
 ·obtain ⟨hc,_⟩:=bO (s:=s) (g:=_) (b:=_) (by simp only [ew,dF,Tr.val,q0,q1,q2,q3,q4,if_true,if_false,zH,zm]; exact rfl)
  rw [hc]
  exact dA (bu (by simp) (by first | exact t2 | simp) (by first | exact t3 | simp) (by first | exact t4 | simp))
 by_cases q5:(s.1==[115,101,108,101,99,116])=true
 ·obtain ⟨hc,_⟩:=bO (s:=s) (g:=_) (b:=_) (by simp only [ew,dF,Tr.val,q0,q1,q2,q3,q4,q5,if_true,if_false,zH,zm]; exact rfl)
  rw [hc]
  exact dA (bu (by simp) (by first | exact t2 | simp) (by first | exact t3 | simp) (by first | exact t4 | simp))
 by_cases q6:(s.1==[114,101,97,100])=true
 ·obtain ⟨hc,_⟩:=bO (s:=s) (g:=_) (b:=_) (by simp only [ew,dF,Tr.val,q0,q1,q2,q3,q4,q5,q6,if_true,if_false,zH,zm]; exact rfl)
  rw [hc]
  exact dA (bu (by simp) (by first | exact t2 | simp) (by first | exact t3 | simp) (by first | exact t4 | simp))
 by_cases q7:(s.1==[119,114,105,116,101])=true
 ·obtain ⟨hc,_⟩:=bO (s:=s) (g:=_) (b:=_) (by simp only [ew,dF,Tr.val,q0,q1,q2,q3,q4,q5,q6,q7,if_true,if_false,zH,zm]; exact rfl)
  rw [hc]
  exact dA (bu (by simp) (by first | exact t2 | simp) (by first | exact t3 | simp) (by first | exact t4 | simp))
 by_cases q8:(s.1==[117,110,114,101,97,100])=true
 ·obtain ⟨hc,_⟩:=bO (s:=s) (g:=_) (b:=_) (by simp only [ew,dF,Tr.val,q0,q1,q2,q3,q4,q5,q6,q7,q8,if_true,if_false,zH,zm]; exact rfl)
  rw [hc]
  exact dA (bu (by simp) (by first | exact t2 | simp) (by first | exact t3 | simp) (by first | exact t4 | simp))
 by_cases q9:(s.1==[117,110,119,114,105,116,101])=true
 ·obtain ⟨hc,_⟩:=bO (s:=s) (g:=_) (b:=_) (by simp only [ew,dF,Tr.val,q0,q1,q2,q3,q4,q5,q6,q7,q8,q9,if_true,if_false,zH,zm]; exact rfl)
  rw [hc]
  exact dA (bu (by simp) (by first | exact t2 | simp) (by first | exact t3 | simp) (by first | exact t4 | simp))
 by_cases q10:(s.1==[99,111,112,121])=true
 ·obtain ⟨hc,_⟩:=bO (s:=s) (g:=_) (b:=_) (by simp only [ew,dF,Tr.val,q0,q1,q2,q3,q4,q5,q6,q7,q8,q9,q10,if_true,if_false,zH,zm]; exact rfl)
  rw [hc]
  exact dA (bu (by simp) (by first | exact t2 | simp) (by first | exact t3 | simp) (by first | exact t4 | simp))
 by_cases q11:(s.1==[106,111,105,110])=true
 ·obtain ⟨hc,_⟩:=bO (s:=s) (g:=_) (b:=_) (by simp only [ew,dF,Tr.val,q0,q1,q2,q3,q4,q5,q6,q7,q8,q9,q10,q11,if_true,if_false,zH,zm]; exact rfl)
  rw [hc]
  exact dA (bu (by simp) (by first | exact t2 | simp) (by first | exact t3 | simp) (by first | exact t4 | simp))
 by_cases q12:(s.1==[103,114,111,117,112])=true
 ·obtain ⟨hc,_⟩:=bO (s:=s) (g:=_) (b:=_) (by simp only [ew,dF,Tr.val,q0,q1,q2,q3,q4,q5,q6,q7,q8,q9,q10,q11,q12,if_true,if_false,zH,zm]; exact rfl)
  rw [hc]
  exact dA (bu (by simp) (by first | exact t2 | simp) (by first | exact t3 | simp) (by first | exact t4 | simp))
 exact (s9 (by simp only [ew,dF,Tr.val,q0,q1,q2,q3,q4,q5,q6,q7,q8,q9,q10,q11,q12,if_false,zH])).1

theorem dP {s:Sem zo} (hs:ek s):pt s=true:=by
 unfold pt
 refine gi ?_ rfl
 unfold qM
 refine gi (Cr hs) ?_
 split
 ·rfl
 ·rename_i h
  have hp:eP s=true:=by simpa using h
  obtain ⟨k1,k2⟩:=ta hs hp
  exact gi k1 (gi (K8 _ k2) rfl)

theorem xP:∀ (es:List ((Int×Int×zp)×Int)) (n:Nat) (x:Int),(iJ es n x).length=es.length
 | [],_,_=>rfl
 | _::_,0,_=>rfl
 | _::r,n+1,x=>by simp [iJ,xP r n x]
theorem OU (es:List ((Int×Int×zp)×Int)) (k:Int×Int×zp):(iC es k).length≤es.length+1:=by
 unfold iC
 cases fT es k <;> simp
theorem A2:∀ (es:List ((Int×Int×zp)×Int)) (k:Int×Int×zp),(fT es k=true→jL es k < es.length)∧jL es k≤es.length
 | [],k=>⟨fun h=>by simp [fT] at h,aY _⟩
 | p::r,k=>by
  obtain ⟨h1,h2⟩:=A2 r k
  constructor
  ·intro h
   rw [jL]
   cases hk:(k==p.1) with
   | true=>simp
   | false=>
    have:fT r k=true:=by simpa [fT,hk] using h
    have:=h1 this
    simp; omega
  ·rw [jL]
   cases (k==p.1) <;> simp <;> omega
theorem Rr (es:List ((Int×Int×zp)×Int)) (k:Int×Int×zp):jL es k < (iC es k).length:=by
 obtain ⟨h1,h2⟩:=A2 es k
 unfold iC
 cases h:fT es k with
 | true=>exact h1 h
 | false=>simp; omega

def kO (c:Int) (n:Nat):Prop:=0≤c∧c < n
theorem lI {c:Int} {n:Nat} (h:kO c n):zI c n=true:=by
 simp [zI,h.1,h.2]
theorem sX {a0 a1 a2 a3 a4 a5 a6 a7 a8 a9 b0}:∀ (l:List (Sem zq)) (i:Int),eC a0 a1 a2 a3 a4 a5 a6 a7 a8 a9 b0 l i=true→kO a2 a1.length∧∀ f∈l,kO f.1 a1.length
 | [],i,h=>by
  rw [eC] at h
  split at h
  ·rename_i h1
   refine ⟨?_,by simp⟩
   unfold kO
   cases h2:decide (a2 ≥ 0) with
   | true=>
    rw [h2] at h1
    simp at h1 h2
    exact ⟨h2,h1⟩
   | false=>rw [h2] at h1; simp at h1
  ·cases h
 | x :: r,i,h=>by
  rw [eC] at h
  split at h
  ·cases h
  ·rename_i h1
   split at h
   ·cases h
   ·obtain ⟨h3,h4⟩:=sX r _ h
    refine ⟨h3,fun f hf=>?_⟩
    rcases c9.1 hf with rfl | hf
    ·unfold kO
     cases h2:decide (f.1 ≥ 0) with
     | true=>
      rw [h2] at h1
      simp at h1 h2
      exact ⟨h2,h1⟩
     | false=>rw [h2] at h1; simp at h1
    ·exact h4 f hf
theorem sW {a0 a1 a2 a3 a4 a5 a6 a7 a8 a9 b0}:∀ (l:List (Sem zg)) (i:Int),eB a0 a1 a2 a3 a4 a5 a6 a7 a8 a9 b0 l i=true→kO a2 a1.length∧(∀ f∈a4,kO f.1 a1.length)∧∀ u∈l,kO u a1.length
 | [],i,h=>by
  rw [eB] at h
  obtain ⟨h1,h2⟩:=sX _ _ h
  exact ⟨h1,h2,by simp⟩
 | x :: r,i,h=>by
  rw [eB] at h
  split at h
  ·cases h
  ·rename_i h1
   obtain ⟨h3,h4,h5⟩:=sW r _ h
   refine ⟨h3,h4,fun f hf=>?_⟩
   rcases c9.1 hf with rfl | hf
   ·unfold kO
    cases h2:decide (f ≥ 0) with
    | true=>
     rw [h2] at h1
     simp at h1 h2
     exact ⟨h2,h1⟩
    | false=>rw [h2] at h1; simp at h1
   ·exact h5 f hf
theorem wx {a0 a1 a2 a3 a4 a5 a6 a7 a8 a9 b0}:∀ (l:List (Sem zi)) (i:Int),gr a0 a1 a2 a3 a4 a5 a6 a7 a8 a9 b0 l i=true→kO a2 a1.length∧(∀ f∈a4,kO f.1 a1.length)∧∀ u∈a3,kO u a1.length
 | [],i,h=>by
  rw [gr] at h
  exact sW _ _ h
 | x::r,i,h=>by
  rw [gr] at h
  split at h
  ·cases h
  ·exact wx r _ h
theorem gR {t:Sem zw} (h:gn t=true):kO t.2.2.1 t.2.1.length∧(∀ f∈t.2.2.2.2.1,kO f.1 t.2.1.length)∧(∀ u∈t.2.2.2.1,kO u t.2.1.length)∧t.2.1.length≤8∧1≤t.2.1.length:=by
 unfold gn at h
 split at h
 ·cases h
 ·rename_i h1
  obtain ⟨h2,h3,h4⟩:=wx _ _ h
  refine ⟨h2,h3,h4,?_⟩
  cases hn:bV t.1 with
  | false=>rw [hn] at h1; simp at h1
  | true=>
   rw [hn] at h1
   cases hd:decide ((length t.2.1:Int) < 1) with
   | true=>rw [hd] at h1; simp at h1
   | false=>
    rw [hd] at h1
    simp at h1 hd
    omega
theorem mS {t:Sem zw} {row:List (Sem zf)} (h:(j7 t row != 0)≠true):row.length=t.2.1.length:=by
 simp at h
 unfold j7 at h
 split at h
 ·cases h
 ·rename_i h1
  cases hm:gn t with
  | false=>rw [hm] at h1; simp at h1
  | true=>
   rw [hm] at h1
   simp at h1
   omega

structure cu (x:Sem zh):Prop where
 uq:x.1.2.2.2.1.length≤1000
 rf:x.1.2.2.2.2.1.length≤1000
 rw:x.2.length≤1000


theorem Dd (l:List (Sem zh)) (s:zp):zO l s=(-1:Int)∨((0:Int)≤zO l s∧LT.lt (α:=Int) (zO l s) l.length):=by
 have:=lJ (fun x:Sem zh=>x.1.1==s) l 0
 simp at this
 exact this

theorem iq {l:List (Sem zh)} {s:zp} (h:(0:Int)≤zO l s):zI (zO l s) (length l)=true:=by
 rcases Dd l s with h1 | ⟨h1,h2⟩
 ·rw [h1] at h; omega
 ·simp only [zI,aM,zZ]; exact ⟨h1,h2⟩


abbrev bc (c:Int) (r:List (Sem zf)):Sem zf:=getD r (toNat c) (zj zf)
def A9 (rows:List (List (Sem zf))) (c:Int):Prop:=rows.Pairwise fun a b=>(bc c a).1≠0→bc c a≠bc c b

theorem nt:∀ (es:List ((Int×Int×zp)×Int)) (k:Int×Int×zp) (x:Int),iJ (iC es k) (jL es k) x=iI es k x
 | [],k,x=>by simp [iC,fT,jL,iJ,iI]
 | p::r,k,x=>by
  have h:=nt r k x
  cases hk:(k==p.1) with
  | true=>
   have e:k=p.1:=dR hk
   simp [iC,fT,jL,iJ,iI,e]
  | false=>
   have e:iC (p::r) k=p::iC r k:=by
    simp only [iC,fT,List.any_cons,hk,Bool.false_or]
    cases (r.any fun p=>k==p.1) <;> rfl
   rw [e,jL,iI,hk]
   show p::iJ (iC r k) (jL r k) x=p::iI r k x
   rw [h]
theorem A1 (es:List ((Int×Int×zp)×Int)) (k k':Int×Int×zp) (x:Int):fg (iI es k x) k'=if k'=k then x else fg es k':=by
 induction es with
 | nil=>
  by_cases h:k'=k
  ·subst h; simp [iI,fg]
  ·simp [iI,fg,h]
 | cons p r ih=>
  rw [iI]
  cases hk:(k==p.1) with
  | true=>
   have e:k=p.1:=dR hk
   by_cases h:k'=k
   ·simp [fg,h]
   ·have h2:(k'==p.1)=false:=by rw [← e]; simpa using h
    have h3:(k'==k)=false:=by simpa using h
    simp only [aR,fg,List.find?_cons,h2,h3,if_neg h]
  | false=>
   show fg (p::iI r k x) k'=_
   cases hp:(k'==p.1) with
   | true=>
    have e:k'=p.1:=dR hp
    have h:k'≠k:=by intro h; rw [← h,hp] at hk; cases hk
    simp only [fg,List.find?_cons,hp,if_neg h]
   | false=>
    simp only [fg,List.find?_cons,hp] at ih ⊢
    exact ih

def qk:List (Sem zf)→List ((Int×Int×zp)×Int)
 | []=>[]
 | v::r=>iI (qk r) v (IntKind.i64.wrap (fg (qk r) v+1))
theorem Ee:∀ l:List (Sem zf),(qk l).length≤l.length
 | []=>aY _
 | v::r=>by
  rw [qk,← nt,xP]
  have:=OU (qk r) v
  have:=Ee r
  simp; omega
theorem wC:∀ (l:List (Sem zf)) (v:Sem zf),l.length≤1000000→fg (qk l) v=(l.count v:Int)
 | [],v,_=>by simp [qk,fg]
 | u::r,v,h=>by
  simp only [mc] at h
  have h1:=wC r u (by omega)
  have h2:=wC r v (by omega)
  have h3:r.count u≤r.length:=List.count_le_length
  rw [qk,A1,h1,h2,zD _ (by unfold zB; omega)]
  by_cases e:v=u
  ·subst e; simp
  ·have e':¬ (u==v)=true:=by intro h; exact e (dR h).symm
   rw [if_neg e,List.count_cons,if_neg e']; rfl

theorem Ew {x:Sem zh} {c:Int} (hc:∀ r∈x.2,zI c (length r)=true) (hl:x.2.length≤1000000):∃ b,t8 x c=some (b,())∧(b=false↔A9 x.2 c):=by
  let key:Nat→Sem zf:=fun i=>bc c (getD x.2 i (zj zf.sl))
  let mm:Nat→List ((Int×Int×zp)×Int):=fun i=>qk (((x.2.take i).map (bc c)).reverse)
  have hm:∀ i,i < x.2.length→mm (i+1)=iI (mm i) (key i) (IntKind.i64.wrap (fg (mm i) (key i)+1)):=by
    intro i hi
    show qk (((x.2.take (i+1)).map (bc c)).reverse)=_
    rw [List.take_succ_eq_append_getElem hi,List.map_append,List.reverse_append]
    show qk (bc c x.2[i]::_)=_
    rw [qk]
    have:key i=bc c x.2[i]:=by
      show bc c (getD x.2 i _)=_
      rw [aH,zJ hi,bM]
    rw [this]
    rfl
  have hlen:∀ i,i≤x.2.length→(mm i).length≤i:=by
    intro i hi
    have:=Ee (((x.2.take i).map (bc c)).reverse)
    simp at this
    have h2:(mm i).length=(qk (((x.2.take i).map (bc c)).reverse)).length:=rfl
    simp at h2
    omega
  have hget:∀ i v,i≤x.2.length→fg (mm i) v=((((x.2.take i).map (bc c)).count v:Nat):Int):=by
    intro i v hi
    show fg (qk _) v=_
    rw [wC _ _ (by simp; omega),List.count_reverse]
  have hf:=I0 (t:=th) (Φ:=fun r=>ah r.2 [Sh.bool] r.1=some (true,())) 1 (fun i=>.h3 c x.2 (x.2.length:Int) (i:Int) (mm i)) (fun i=>(key i).1≠0→((x.2.take i).map (bc c)).count (key i)=0) x.2.length (by
    intro i hi _
    have k0:getD x.2 (i:Int).toNat (zj zf.sl)=getD x.2 i (zj zf.sl):=by rw [aQ]
    have k1:getD x.2 i (zj zf.sl)=x.2[i]:=by rw [aH,zJ hi,bM]
    have k2:zI c (length x.2[i])=true:=hc _ (cZ hi)
    have k3:key i=bc c x.2[i]:=by show bc c (getD x.2 i _)=_; rw [k1]
    have k4:zI ((jL (mm i) (key i):Nat):Int) (iC (mm i) (key i)).length=true:=zC (Rr _ _)
    have k5:decide ((mm i).length≤1073741824)=true:=aq (by have:=hlen i (by omega); omega)
    have k6:iJ (iC (mm i) (key i)) ((jL (mm i) (key i):Nat):Int).toNat (IntKind.i64.wrap (fg (mm i) (key i)+1))=mm (i+1):=by rw [aQ,nt,hm i hi]
    have k7:fg (mm (i+1)) (key i)=((((x.2.take i).map (bc c)).count (key i)+1:Nat):Int):=by
      have h3:((x.2.take i).map (bc c)).count (key i)≤((x.2.take i).map (bc c)).length:=List.count_le_length
      simp only [yI,sx] at h3
      rw [hm i hi,A1,if_pos rfl,hget i _ (by omega),zD _ (by unfold zB; omega)]
    have hv:(th (.h3 c x.2 (x.2.length:Int) (i:Int) (mm i))).val=if (bif (key i).1 != 0 then decide (((((x.2.take i).map (bc c)).count (key i)+1:Nat):Int) > 1) else false)=true then some (.inr (.kb true,[])) else some (.inl (.h3 c x.2 (x.2.length:Int) ((i+1:Nat):Int) (mm (i+1)))):=by
      show (th (.h3 c x.2 _ _ _)).val=_
      unfold th
      simp only [k0,k1]
      rw [show getD x.2[i] (toNat c) (zj zf)=key i from k3.symm]
      simp only [Tr.val,zT hi,zC hi,k2,k4,k5,if_true,k6,k7]
      rw [zD i (by unfold zB; omega)]
    by_cases h1:(key i).1=0
    · refine .inl ⟨fun h=>absurd h1 h,aG.of ?_⟩
      rw [hv,if_neg (by simp [h1])]
    · by_cases h2:((x.2.take i).map (bc c)).count (key i)=0
      · refine .inl ⟨fun _=>h2,aG.of ?_⟩
        rw [hv,if_neg (by rw [h2]; simp)]
      · refine .inr ⟨fun h => h2 (h h1),(.kb true,[]),bG.of ?_,rfl⟩
        rw [hv, if_pos (by have:((key i).1 != 0)=true:=by simpa using h1
                           rw [this]; simp only [aR,zZ]; omega)])
  have hu:(∀ i,i < x.2.length→(key i).1≠0→((x.2.take i).map (bc c)).count (key i)=0)↔A9 x.2 c:=by
    unfold A9
    rw [List.pairwise_iff_getElem]
    constructor
    · intro h j i hj hi hji hne e
      have k3:key i=bc c x.2[i]:=by show bc c (getD x.2 i _)=_; rw [aH,zJ hi,bM]
      have:=h i hi (by rw [k3,← e]; exact hne)
      rw [List.count_eq_zero,k3,← e] at this
      exact this (fm.2 ⟨_,List.mem_take_iff_getElem.2 ⟨j,by omega,rfl⟩,rfl⟩)
    · intro h i hi hne
      have k3:key i=bc c x.2[i]:=by show bc c (getD x.2 i _)=_; rw [aH,zJ hi,bM]
      rw [List.count_eq_zero]
      intro hmem
      obtain ⟨r,hr,e⟩:=fm.1 hmem
      obtain ⟨j,hj,rfl⟩:=List.mem_take_iff_getElem.1 hr
      rw [k3] at e hne
      exact h j i (by omega) hi (by omega) (by rw [e]; exact hne) e
  have hgo:(Ti x c).val=some (.inl (.h3 c x.2 (x.2.length:Int) ((0:Nat):Int) (mm 0))):=rfl
  rcases hf with ⟨h1,h2⟩ | ⟨h1,r,h2,h3⟩
  · refine ⟨false,?_,fun _=>hu.1 h1,fun _=>rfl⟩
    refine bj hgo (h2.ends (bG.of (r:=(.kb false,[])) ?_)) (by omega) rfl
    show (th (.h3 c x.2 _ _ _)).val=_
    simp only [th,Tr.val,zY]
    rfl
  · refine ⟨true,bj hgo h2 (by omega) h3,⟨fun h=>?_,fun h=>absurd (hu.2 h) h1⟩⟩
    cases h

theorem b7 {α:Type} {l:List α} {d:α} {Q:α→Prop}:(∀ i,i < l.length→Q (l.getD i d))↔∀ x∈l,Q x:=by
 constructor
 ·intro h x hx
  obtain ⟨i,hi,rfl⟩:=List.getElem_of_mem hx
  have:=h i hi
  rwa [aH,zJ hi,bM] at this
 ·intro h i hi
  rw [aH,zJ hi,bM]
  exact h _ (cZ hi)
theorem gZ {α:Type} {l:List α} {d:α} {i:Nat} (hi:i < l.length):l.getD i d∈l:=by
 rw [aH,zJ hi,bM]
 exact cZ hi
theorem qX (i:Nat) (h:i < zB):IntKind.i64.wrap (((i+1:Nat):Int) - 1)=(i:Int):=by
 have:zB=9223372036854775807:=rfl
 rw [uE]
 omega

def Ky (a b:Sem zf):Prop:=LT.lt (α:=Int) (be a b) 0
theorem IV {a b:Sem zf}:decide (GE.ge (α:=Int) (be a b) 0)=true↔¬ Ky a b:=by
 unfold Ky
 rw [zZ]
 omega

structure ck (x:Sem zh):Prop where
 may:gn x.1=true
 few:x.2.length≤200
 fits:∀ r∈x.2,j7 x.1 r=(0:Int)
 key:A9 x.2 x.1.2.2.1
 uniq:∀ u∈x.1.2.2.2.1,A9 x.2 u
 rise:∀ i,i < x.2.length - 1→Ky (bc x.1.2.2.1 (getD x.2 i (zj zf.sl))) (bc x.1.2.2.1 (getD x.2 (i+1) (zj zf.sl)))

def Y2 (r:ao):Prop:=∃ e:Int,r=(.int .i64 e,[])∧e≠0

theorem sZ {x:Sem zh} (hs:cu x):∃ e:Int,lP x=some (e,())∧(e=0↔ck x):=by
 have hsw:=hs.rw
 have hsu:=hs.uq
 have fin:∀ {k:Nat} {r:ao},bG fS k (.h6 x.2 (x.2.length:Int) ((0:Nat):Int) (x,())) r→k≤100000000→(JK x).val=some (.inl (.h6 x.2 (x.2.length:Int) ((0:Nat):Int) (x,())))→∀ e:Int,r=(.int .i64 e,[])→lP x=some (e,()):=by
  intro k r h hk hi e he
  subst he
  exact bj hi h hk rfl
 by_cases hm:gn x.1=true
 case neg=>
  refine ⟨1,?_,fun h=>(by cases h),fun h=>absurd h.may hm⟩
  unfold lP zW bl
  simp only [JK,zm,Tr.val]
  rw [if_pos (by simpa using hm)]
  rfl
 by_cases hw:x.2.length≤200
 case neg=>
  refine ⟨13,?_,fun h=>(by cases h),fun h=>absurd h.few hw⟩
  unfold lP zW bl
  simp only [JK,zm,Tr.val]
  rw [if_neg (by simpa using hm),if_pos (by simp; omega)]
  rfl
 have hi:(JK x).val=some (.inl (.h6 x.2 (x.2.length:Int) ((0:Nat):Int) (x,()))):=by
  simp only [JK,zm,Tr.val]
  rw [if_neg (by simpa using hm),if_neg (by simp; omega)]
  rfl
 obtain ⟨hkc,hrc,huc,_,_⟩:=gR hm
 have h6:=I0 (t:=fS) (Φ:=Y2) 1 (fun i=>.h6 x.2 (x.2.length:Int) (i:Int) (x,())) (fun i=>j7 x.1 (getD x.2 i (zj zf.sl))=(0:Int)) x.2.length (by
  intro i hi _
  have hv:(fS (.h6 x.2 (x.2.length:Int) (i:Int) (x,()))).val=if (j7 x.1 (getD x.2 i (zj zf.sl)) != 0)=true then some (.inr (.int .i64 (j7 x.1 (getD x.2 i (zj zf.sl))),[])) else some (.inl (.h6 x.2 (x.2.length:Int) ((i+1:Nat):Int) (x,()))):=by
   show (fS (.h6 x.2 _ _ _)).val=_
   unfold fS
   simp only [zm,Tr.val,zT hi,zC hi,if_true,aQ]
   rw [zD i (by unfold zB; omega)]
  by_cases h:j7 x.1 (getD x.2 i (zj zf.sl))=(0:Int)
  ·refine .inl ⟨h,aG.of ?_⟩
   rw [hv,if_neg (by rw [h]; simp)]
  ·refine .inr ⟨h,_,bG.of (by rw [hv,if_pos (by simpa using h)]),_,rfl,h⟩)
 rcases h6 with ⟨hf,h6⟩ | ⟨hf,r,h6,e,he,hne⟩
 case inr=>
  exact ⟨e,fin h6 (by omega) hi e he,fun h=>absurd h hne,fun h=>absurd ((b7 (Q:=fun r=>j7 x.1 r=(0:Int))).2 h.fits) hf⟩
 have hfits:=(b7 (Q:=fun r=>j7 x.1 r=(0:Int))).1 hf
 have hlen:∀ r∈x.2,length r=x.1.2.1.length:=fun r hr=>mS (by simpa using hfits r hr)
 have hin:∀ c,kO c x.1.2.1.length→∀ r∈x.2,zI c (length r)=true:=fun c hc r hr=>by
  rw [hlen r hr]; exact lI hc
 obtain ⟨b,hb,hbu⟩:=Ew (x:=x) (c:=x.1.2.2.1) (hin _ hkc) (by omega)
 have hbc:nX x x.1.2.2.1=true:=by unfold nX; rw [hb]; rfl
 have hbv:r7 x x.1.2.2.1=b:=by unfold r7; rw [hb]; rfl
 have hv6:(fS (.h6 x.2 (x.2.length:Int) (x.2.length:Int) (x,()))).val=if b=true then some (.inr (.int .i64 7,[])) else some (.inl (.h15 x.1.2.2.2.1 (x.1.2.2.2.1.length:Int) ((0:Nat):Int) (x,()))):=by
  show (fS (.h6 x.2 _ _ _)).val=_
  unfold fS
  simp only [zm,Tr.val,zY,hbc,hbv,if_true]
  rfl
 by_cases hb1:b=true
 ·refine ⟨7,fin (h6.ends (bG.of (by rw [hv6,if_pos hb1]))) (by omega) hi 7 rfl,fun h=>(by cases h),fun h=>?_⟩
  have:=hbu.2 h.key
  rw [hb1] at this; cases this
 have hkey:A9 x.2 x.1.2.2.1:=hbu.1 (by simpa using hb1)
 have g15:aG fS _ (.h6 x.2 (x.2.length:Int) ((0:Nat):Int) (x,())) _:=h6.trans (aG.of (by rw [hv6,if_neg hb1]))
 have h15:=I0 (t:=fS) (Φ:=Y2) 1 (fun i=>.h15 x.1.2.2.2.1 (x.1.2.2.2.1.length:Int) (i:Int) (x,())) (fun i=>A9 x.2 (getD x.1.2.2.2.1 i (zj zg))) x.1.2.2.2.1.length (by
  intro i hi _
  obtain ⟨b,hb,hbu⟩:=Ew (x:=x) (c:=getD x.1.2.2.2.1 i (zj zg)) (hin _ (huc _ (gZ hi))) (by omega)
  have hbc:nX x (getD x.1.2.2.2.1 i (zj zg))=true:=by unfold nX; rw [hb]; rfl
  have hbv:r7 x (getD x.1.2.2.2.1 i (zj zg))=b:=by unfold r7; rw [hb]; rfl
  have hv:(fS (.h15 x.1.2.2.2.1 (x.1.2.2.2.1.length:Int) (i:Int) (x,()))).val=if b=true then some (.inr (.int .i64 7,[])) else some (.inl (.h15 x.1.2.2.2.1 (x.1.2.2.2.1.length:Int) ((i+1:Nat):Int) (x,()))):=by
   show (fS (.h15 _ _ _ _)).val=_
   unfold fS
   simp only [zm,Tr.val,zT hi,zC hi,if_true,aQ,hbc,hbv]
   rw [zD i (by unfold zB; omega)]
  by_cases h:b=true
  ·refine .inr ⟨fun hu=>?_,_,bG.of (by rw [hv,if_pos h]),7,rfl,by decide⟩
   have:=hbu.2 hu
   rw [h] at this; cases this
  ·exact .inl ⟨hbu.1 (by simpa using h),aG.of (by rw [hv,if_neg h])⟩)
 rcases h15 with ⟨hq,h15⟩ | ⟨hq,r,h15,e,he,hne⟩
 case inr=>
  exact ⟨e,fin (g15.ends h15) (by omega) hi e he,fun h=>absurd h hne,fun h=>absurd ((b7 (Q:=fun u=>A9 x.2 u)).2 h.uniq) hq⟩
 have huniq:=(b7 (Q:=fun u=>A9 x.2 u)).1 hq
 have hv15:(fS (.h15 x.1.2.2.2.1 (x.1.2.2.2.1.length:Int) (x.1.2.2.2.1.length:Int) (x,()))).val=some (.inl (.h21 ((0+1:Nat):Int) (x,()))):=by
  show (fS (.h15 _ _ _ _)).val=_
  unfold fS
  simp only [Tr.val,zY]
  rfl
 have g21:=(g15.trans h15).trans (aG.of hv15)
 have h21:=I0 (t:=fS) (Φ:=Y2) 1 (fun i=>.h21 ((i+1:Nat):Int) (x,())) (fun i=>Ky (bc x.1.2.2.1 (getD x.2 i (zj zf.sl))) (bc x.1.2.2.1 (getD x.2 (i+1) (zj zf.sl)))) (x.2.length - 1) (by
  intro i hi _
  have h1:i < x.2.length:=by omega
  have h2:i+1 < x.2.length:=by omega
  have hv:(fS (.h21 ((i+1:Nat):Int) (x,()))).val=if decide (GE.ge (α:=Int) (be (bc x.1.2.2.1 (getD x.2 i (zj zf.sl))) (bc x.1.2.2.1 (getD x.2 (i+1) (zj zf.sl)))) 0)=true then some (.inr (.int .i64 15,[])) else some (.inl (.h21 ((i+1+1:Nat):Int) (x,()))):=by
   show (fS (.h21 _ _)).val=_
   unfold fS
   simp only [qX i (by unfold zB; omega)]
   simp only [Tr.val,zT h2,zC h2,zC h1,aQ,hin _ hkc _ (gZ h1),hin _ hkc _ (gZ h2),if_true]
   rw [zD (i+1) (by unfold zB; omega)]
  by_cases h:Ky (bc x.1.2.2.1 (getD x.2 i (zj zf.sl))) (bc x.1.2.2.1 (getD x.2 (i+1) (zj zf.sl)))
  ·exact .inl ⟨h,aG.of (by rw [hv,if_neg (fun h2=>IV.1 h2 h)])⟩
  ·exact .inr ⟨h,_,bG.of (by rw [hv,if_pos (IV.2 h)]),15,rfl,by decide⟩)
 rcases h21 with ⟨hr,h21⟩ | ⟨hr,r,h21,e,he,hne⟩
 case inr=>
  exact ⟨e,fin (g21.ends h21) (by omega) hi e he,fun h=>absurd h hne,fun h=>absurd h.rise hr⟩
 have hv21:(fS (.h21 ((x.2.length - 1+1:Nat):Int) (x,()))).val=some (.inr (.int .i64 0,[])):=by
  show (fS (.h21 _ _)).val=_
  unfold fS
  simp only [Tr.val]
  rw [if_neg (by simp; omega)]
 exact ⟨0,fin (g21.ends (h21.ends (bG.of hv21))) (by omega) hi 0 rfl,fun _=>⟨hm,hw,hfits,hkey,huniq,hr⟩,fun _=>rfl⟩

abbrev du (db:List (Sem zh)) (s:zp):Sem zh:=getD db (toNat (zO db s)) (zj zh)
def lZ (db:List (Sem zh)):Prop:=∀ x∈db,∀ f∈x.1.2.2.2.2.1,LE.le (α:=Int) 0 (zO db f.2)∧∀ row∈x.2,(bc f.1 row).1≠0→my (du db f.2) (du db f.2).1.2.2.1 (bc f.1 row)=true

def YV (r:ao):Prop:=r=(.kb false,[])

theorem Qd {db:List (Sem zh)} {x:Sem zh} {f:Sem zq} {i k:Nat} (hf:LE.le (α:=Int) 0 (zO db f.2)) (hc:∀ row∈x.2,zI f.1 (length row)=true) (hl:x.2.length≤1000):
  ((∀ j,j < x.2.length→(bc f.1 (getD x.2 j (zj zf.sl))).1≠0→my (du db f.2) (du db f.2).1.2.2.1 (bc f.1 (getD x.2 j (zj zf.sl)))=true)∧
   aG fu (x.2.length * 1) (.h11 db (zO db f.2) db (db.length:Int) (i:Int) x.1.2.2.2.2.1 (x.1.2.2.2.2.1.length:Int) (k:Int) x.2 (x.2.length:Int) ((0:Nat):Int) (x,()) (f,()))
    (.h11 db (zO db f.2) db (db.length:Int) (i:Int) x.1.2.2.2.2.1 (x.1.2.2.2.2.1.length:Int) (k:Int) x.2 (x.2.length:Int) (x.2.length:Int) (x,()) (f,())))∨
  ((¬ ∀ j,j < x.2.length→(bc f.1 (getD x.2 j (zj zf.sl))).1≠0→my (du db f.2) (du db f.2).1.2.2.1 (bc f.1 (getD x.2 j (zj zf.sl)))=true)∧
   ∃ r,bG fu (x.2.length * 1) (.h11 db (zO db f.2) db (db.length:Int) (i:Int) x.1.2.2.2.2.1 (x.1.2.2.2.2.1.length:Int) (k:Int) x.2 (x.2.length:Int) ((0:Nat):Int) (x,()) (f,())) r∧YV r):=by
 refine I0 (t:=fu) (Φ:=YV) 1 (fun j=>.h11 db (zO db f.2) db (db.length:Int) (i:Int) x.1.2.2.2.2.1 (x.1.2.2.2.2.1.length:Int) (k:Int) x.2 (x.2.length:Int) (j:Int) (x,()) (f,())) (fun j=>(bc f.1 (getD x.2 j (zj zf.sl))).1≠0→my (du db f.2) (du db f.2).1.2.2.1 (bc f.1 (getD x.2 j (zj zf.sl)))=true) x.2.length ?_
 intro j hj _
 have hv:(fu (.h11 db (zO db f.2) db (db.length:Int) (i:Int) x.1.2.2.2.2.1 (x.1.2.2.2.2.1.length:Int) (k:Int) x.2 (x.2.length:Int) (j:Int) (x,()) (f,()))).val=
   if (bif (bc f.1 (getD x.2 j (zj zf.sl))).1 != 0 then !my (du db f.2) (du db f.2).1.2.2.1 (bc f.1 (getD x.2 j (zj zf.sl))) else false)=true then some (.inr (.kb false,[])) else
   some (.inl (.h11 db (zO db f.2) db (db.length:Int) (i:Int) x.1.2.2.2.2.1 (x.1.2.2.2.2.1.length:Int) (k:Int) x.2 (x.2.length:Int) ((j+1:Nat):Int) (x,()) (f,()))):=by
  show (fu (.h11 _ _ _ _ _ _ _ _ _ _ _ _ _)).val=_
  unfold fu
  simp only [zm,Tr.val,zT hj,zC hj,hc _ (gZ hj),iq hf,aQ,if_true,mG]
  rw [if_pos (by cases ((getD (getD x.2 j (zj zf.sl)) (toNat f.1) (zj zf)).1 != 0) <;> rfl)]
  rw [zD j (by unfold zB; omega)]
 by_cases h1:(bc f.1 (getD x.2 j (zj zf.sl))).1=0
 ·exact .inl ⟨fun h=>absurd h1 h,aG.of (by rw [hv,if_neg (by rw [h1]; simp)])⟩
 ·have h1':((bc f.1 (getD x.2 j (zj zf.sl))).1 != 0)=true:=by simpa using h1
  by_cases h2:my (du db f.2) (du db f.2).1.2.2.1 (bc f.1 (getD x.2 j (zj zf.sl)))=true
  ·exact .inl ⟨fun _=>h2,aG.of (by rw [hv,if_neg (by rw [h2,h1']; simp)])⟩
  ·exact .inr ⟨fun h=>h2 (h h1),_,bG.of (by rw [hv,if_pos (by rw [h1']; simpa using h2)]),rfl⟩

theorem Wi {db:List (Sem zh)} {x:Sem zh} {i:Nat} (hc:∀ f∈x.1.2.2.2.2.1,∀ row∈x.2,zI f.1 (length row)=true) (hl:x.2.length≤1000) (hr:x.1.2.2.2.2.1.length≤1000):
  let P:Nat→Prop:=fun k=>LE.le (α:=Int) 0 (zO db (getD x.1.2.2.2.2.1 k (zj zq)).2)∧∀ row∈x.2,(bc (getD x.1.2.2.2.2.1 k (zj zq)).1 row).1≠0→my (du db (getD x.1.2.2.2.2.1 k (zj zq)).2) (du db (getD x.1.2.2.2.2.1 k (zj zq)).2).1.2.2.1 (bc (getD x.1.2.2.2.2.1 k (zj zq)).1 row)=true
  ((∀ k,k < x.1.2.2.2.2.1.length→P k)∧aG fu (x.1.2.2.2.2.1.length * 1002) (.h5 db db (db.length:Int) (i:Int) x.1.2.2.2.2.1 (x.1.2.2.2.2.1.length:Int) ((0:Nat):Int) (x,())) (.h5 db db (db.length:Int) (i:Int) x.1.2.2.2.2.1 (x.1.2.2.2.2.1.length:Int) (x.1.2.2.2.2.1.length:Int) (x,())))∨
  ((¬ ∀ k,k < x.1.2.2.2.2.1.length→P k)∧∃ r,bG fu (x.1.2.2.2.2.1.length * 1002) (.h5 db db (db.length:Int) (i:Int) x.1.2.2.2.2.1 (x.1.2.2.2.2.1.length:Int) ((0:Nat):Int) (x,())) r∧YV r):=by
 intro P
 refine I0 (t:=fu) (Φ:=YV) 1002 (fun k=>.h5 db db (db.length:Int) (i:Int) x.1.2.2.2.2.1 (x.1.2.2.2.2.1.length:Int) (k:Int) (x,())) P x.1.2.2.2.2.1.length ?_
 intro k hk _
 have hv:(fu (.h5 db db (db.length:Int) (i:Int) x.1.2.2.2.2.1 (x.1.2.2.2.2.1.length:Int) (k:Int) (x,()))).val=
   if decide (LT.lt (α:=Int) (zO db (getD x.1.2.2.2.2.1 k (zj zq)).2) 0)=true then some (.inr (.kb false,[])) else
   some (.inl (.h11 db (zO db (getD x.1.2.2.2.2.1 k (zj zq)).2) db (db.length:Int) (i:Int) x.1.2.2.2.2.1 (x.1.2.2.2.2.1.length:Int) (k:Int) x.2 (x.2.length:Int) ((0:Nat):Int) (x,()) (getD x.1.2.2.2.2.1 k (zj zq),()))):=by
  show (fu (.h5 _ _ _ _ _ _ _ _)).val=_
  unfold fu
  simp only [Tr.val,zT hk,zC hk,aQ,if_true]
  rfl
 by_cases h1:LE.le (α:=Int) 0 (zO db (getD x.1.2.2.2.2.1 k (zj zq)).2)
 ·have g1:=aG.of (t:=fu) (s:=.h5 db db (db.length:Int) (i:Int) x.1.2.2.2.2.1 (x.1.2.2.2.2.1.length:Int) (k:Int) (x,())) (by rw [hv,if_neg (by rw [zZ]; omega)])
  rcases Qd (db:=db) (x:=x) (f:=getD x.1.2.2.2.2.1 k (zj zq)) (i:=i) (k:=k) h1 (hc _ (gZ hk)) hl with ⟨h2,h3⟩ | ⟨h2,r,h3,h4⟩
  ·have hv2:(fu (.h11 db (zO db (getD x.1.2.2.2.2.1 k (zj zq)).2) db (db.length:Int) (i:Int) x.1.2.2.2.2.1 (x.1.2.2.2.2.1.length:Int) (k:Int) x.2 (x.2.length:Int) (x.2.length:Int) (x,()) (getD x.1.2.2.2.2.1 k (zj zq),()))).val=
     some (.inl (.h5 db db (db.length:Int) (i:Int) x.1.2.2.2.2.1 (x.1.2.2.2.2.1.length:Int) ((k+1:Nat):Int) (x,()))):=by
    show (fu (.h11 _ _ _ _ _ _ _ _ _ _ _ _ _)).val=_
    unfold fu
    simp only [Tr.val,zY]
    rw [zD k (by unfold zB; omega)]
    rfl
   refine .inl ⟨⟨h1,?_⟩,((g1.trans h3).trans (aG.of hv2)).mono (by omega)⟩
   exact (b7 (Q:=fun row=>(bc (getD x.1.2.2.2.2.1 k (zj zq)).1 row).1≠0→my (du db (getD x.1.2.2.2.2.1 k (zj zq)).2) (du db (getD x.1.2.2.2.2.1 k (zj zq)).2).1.2.2.1 (bc (getD x.1.2.2.2.2.1 k (zj zq)).1 row)=true)).1 h2
  ·refine .inr ⟨fun h=>h2 ?_,r,(g1.ends h3).mono (by omega),h4⟩
   exact (b7 (Q:=fun row=>(bc (getD x.1.2.2.2.2.1 k (zj zq)).1 row).1≠0→my (du db (getD x.1.2.2.2.2.1 k (zj zq)).2) (du db (getD x.1.2.2.2.2.1 k (zj zq)).2).1.2.2.1 (bc (getD x.1.2.2.2.2.1 k (zj zq)).1 row)=true)).2 h.2
 ·exact .inr ⟨fun h=>h1 h.1,_,(bG.of (by rw [hv,if_pos (by rw [zZ]; omega)])).mono (by omega),rfl⟩

theorem hP {db:List (Sem zh)} (hc:∀ x∈db,∀ f∈x.1.2.2.2.2.1,∀ row∈x.2,zI f.1 (length row)=true) (hs:∀ x∈db,cu x) (hl:db.length≤13):∃ b,pL db=some (b,())∧(b=true↔lZ db):=by
 have h2:=I0 (t:=fu) (Φ:=YV) 1010000 (fun i=>.h2 db db (db.length:Int) (i:Int)) (fun i=>∀ f∈(getD db i (zj zh)).1.2.2.2.2.1,LE.le (α:=Int) 0 (zO db f.2)∧∀ row∈(getD db i (zj zh)).2,(bc f.1 row).1≠0→my (du db f.2) (du db f.2).1.2.2.1 (bc f.1 row)=true) db.length (by
  intro i hi _
  have hm:=gZ (d:=zj zh) hi
  have hS:=hs _ hm
  have s1:=hS.rf
  have s2:=hS.rw
  have hv:(fu (.h2 db db (db.length:Int) (i:Int))).val=some (.inl (.h5 db db (db.length:Int) (i:Int) (getD db i (zj zh)).1.2.2.2.2.1 ((getD db i (zj zh)).1.2.2.2.2.1.length:Int) ((0:Nat):Int) (getD db i (zj zh),()))):=by
   show (fu (.h2 _ _ _ _)).val=_
   unfold fu
   simp only [Tr.val,zT hi,zC hi,aQ,if_true]
   rfl
  have g1:=aG.of hv
  rcases Wi (db:=db) (x:=getD db i (zj zh)) (i:=i) (hc _ hm) s2 s1 with ⟨h2,h3⟩ | ⟨h2,r,h3,h4⟩
  ·have hv2:(fu (.h5 db db (db.length:Int) (i:Int) (getD db i (zj zh)).1.2.2.2.2.1 ((getD db i (zj zh)).1.2.2.2.2.1.length:Int) ((getD db i (zj zh)).1.2.2.2.2.1.length:Int) (getD db i (zj zh),()))).val=some (.inl (.h2 db db (db.length:Int) ((i+1:Nat):Int))):=by
    show (fu (.h5 _ _ _ _ _ _ _ _)).val=_
    unfold fu
    simp only [Tr.val,zY]
    rw [zD i (by unfold zB; omega)]
    rfl
   refine .inl ⟨?_,((g1.trans h3).trans (aG.of hv2)).mono (by omega)⟩
   exact (b7 (Q:=fun f:Sem zq=>LE.le (α:=Int) 0 (zO db f.2)∧∀ row∈(getD db i (zj zh)).2,(bc f.1 row).1≠0→my (du db f.2) (du db f.2).1.2.2.1 (bc f.1 row)=true)).1 h2
  ·refine .inr ⟨fun h=>h2 ?_,r,(g1.ends h3).mono (by omega),h4⟩
   exact (b7 (Q:=fun f:Sem zq=>LE.le (α:=Int) 0 (zO db f.2)∧∀ row∈(getD db i (zj zh)).2,(bc f.1 row).1≠0→my (du db f.2) (du db f.2).1.2.2.1 (bc f.1 row)=true)).2 h)
 have hb:(∀ i,i < db.length→∀ f∈(getD db i (zj zh)).1.2.2.2.2.1,LE.le (α:=Int) 0 (zO db f.2)∧∀ row∈(getD db i (zj zh)).2,(bc f.1 row).1≠0→my (du db f.2) (du db f.2).1.2.2.1 (bc f.1 row)=true)↔lZ db:=
  b7 (Q:=fun x:Sem zh=>∀ f∈x.1.2.2.2.2.1,LE.le (α:=Int) 0 (zO db f.2)∧∀ row∈x.2,(bc f.1 row).1≠0→my (du db f.2) (du db f.2).1.2.2.1 (bc f.1 row)=true)
 have hi:(zdS db).val=some (.inl (.h2 db db (db.length:Int) ((0:Nat):Int))):=rfl
 rcases h2 with ⟨h2,h3⟩ | ⟨h2,r,h3,h4⟩
 ·refine ⟨true,bj hi (h3.ends (bG.of (r:=(.kb true,[])) ?_)) (by omega) rfl,fun _=>hb.1 h2,fun _=>rfl⟩
  show (fu (.h2 _ _ _ _)).val=_
  unfold fu
  simp only [Tr.val,zY]
  rfl
 ·unfold YV at h4
  subst h4
  exact ⟨false,bj hi h3 (by omega) rfl,fun h=>(by cases h),fun h=>absurd (hb.2 h) h2⟩

structure aW (db:List (Sem zh)):Prop where
 few:db.length≤12
 names:∀ i,i < db.length - 1→Op.bytesLess (getD db i (zj zh)).1.1 (getD db (i+1) (zj zh)).1.1=true
 rels:∀ x∈db,ck x
 bound:lZ db

theorem ck.cols {x:Sem zh} (h:ck x):∀ f∈x.1.2.2.2.2.1,∀ row∈x.2,zI f.1 (length row)=true:=by
 intro f hf row hr
 obtain ⟨_,h1,_,_,_⟩:=gR h.may
 rw [mS (by simpa using h.fits row hr)]
 exact lI (h1 f hf)

theorem sD {db:List (Sem zh)} (hs:∀ x∈db,cu x):∃ e:Int,pM db=some (e,())∧(e=0↔aW db):=by
 by_cases hw:db.length≤12
 case neg=>
  refine ⟨13,?_,fun h=>(by cases h),fun h=>absurd h.few hw⟩
  unfold pM zW bl
  simp only [QI,Tr.val]
  rw [if_pos (by simp; omega)]
  rfl
 have hi:(QI db).val=some (.inl (.h4 db ((0+1:Nat):Int))):=by
  simp only [QI,Tr.val]
  rw [if_neg (by simp; omega)]
  rfl
 have h4:=I0 (t:=lT) (Φ:=Y2) 1 (fun i=>.h4 db ((i+1:Nat):Int)) (fun i=>Op.bytesLess (getD db i (zj zh)).1.1 (getD db (i+1) (zj zh)).1.1=true) (db.length - 1) (by
  intro i hi _
  have h1:i < db.length:=by omega
  have h2:i+1 < db.length:=by omega
  have hv:(lT (.h4 db ((i+1:Nat):Int))).val=if (!Op.bytesLess (getD db i (zj zh)).1.1 (getD db (i+1) (zj zh)).1.1)=true then some (.inr (.int .i64 15,[])) else some (.inl (.h4 db ((i+1+1:Nat):Int))):=by
   show (lT (.h4 _ _)).val=_
   unfold lT
   simp only [qX i (by unfold zB; omega)]
   simp only [Tr.val,zT h2,zC h2,zC h1,aQ,if_true]
   rw [zD (i+1) (by unfold zB; omega)]
  by_cases h:Op.bytesLess (getD db i (zj zh)).1.1 (getD db (i+1) (zj zh)).1.1=true
  ·exact .inl ⟨h,aG.of (by rw [hv,if_neg (by rw [h]; simp)])⟩
  ·exact .inr ⟨h,_,bG.of (by rw [hv,if_pos (by simpa using h)]),15,rfl,by decide⟩)
 rcases h4 with ⟨hn,h4⟩ | ⟨hn,r,h4,e,he,hne⟩
 case inr=>
  subst he
  exact ⟨e,bj hi h4 (by omega) rfl,fun h=>absurd h hne,fun h=>absurd h.names hn⟩
 have hv4:(lT (.h4 db ((db.length - 1+1:Nat):Int))).val=some (.inl (.h9 db db (db.length:Int) ((0:Nat):Int))):=by
  show (lT (.h4 _ _)).val=_
  unfold lT
  simp only [Tr.val]
  rw [if_neg (by simp; omega)]
  rfl
 have g9:=h4.trans (aG.of hv4)
 have h9:=I0 (t:=lT) (Φ:=Y2) 1 (fun i=>.h9 db db (db.length:Int) (i:Int)) (fun i=>ck (getD db i (zj zh))) db.length (by
  intro i hi _
  obtain ⟨e,he,heq⟩:=sZ (hs _ (gZ (d:=zj zh) hi))
  have hc:nW (getD db i (zj zh))=true:=by unfold nW; rw [he]; rfl
  have hv0:r6 (getD db i (zj zh))=e:=by unfold r6; rw [he]; rfl
  have hv:(lT (.h9 db db (db.length:Int) (i:Int))).val=if (e != 0)=true then some (.inr (.int .i64 e,[])) else some (.inl (.h9 db db (db.length:Int) ((i+1:Nat):Int))):=by
   show (lT (.h9 _ _ _ _)).val=_
   unfold lT
   simp only [zm,Tr.val,zT hi,zC hi,aQ,if_true,Prod.eta,hc,hv0]
   rw [zD i (by unfold zB; omega)]
  by_cases h:e=0
  ·exact .inl ⟨heq.1 h,aG.of (by rw [hv,if_neg (by rw [h]; simp)])⟩
  ·exact .inr ⟨fun hr=>h (heq.2 hr),_,bG.of (by rw [hv,if_pos (by simpa using h)]),e,rfl,h⟩)
 rcases h9 with ⟨hr,h9⟩ | ⟨hr,r,h9,e,he,hne⟩
 case inr=>
  subst he
  exact ⟨e,bj hi (g9.ends h9) (by omega) rfl,fun h=>absurd h hne,fun h=>absurd ((b7 (Q:=ck)).2 h.rels) hr⟩
 have hrels:=(b7 (Q:=ck)).1 hr
 obtain ⟨b,hb,hbb⟩:=hP (db:=db) (fun x hx=>(hrels x hx).cols) hs (by omega)
 have hc:nC db=true:=by unfold nC; rw [hb]; rfl
 have hv0:rc db=b:=by unfold rc; rw [hb]; rfl
 have hv9:(lT (.h9 db db (db.length:Int) (db.length:Int))).val=if (!b)=true then some (.inr (.int .i64 10,[])) else some (.inr (.int .i64 0,[])):=by
  show (lT (.h9 _ _ _ _)).val=_
  unfold lT
  simp only [Tr.val,zY,hc,hv0,if_true]
  rfl
 by_cases h:b=true
 ·exact ⟨0,bj hi (g9.ends (h9.ends (bG.of (by rw [hv9,if_neg (by rw [h]; simp)])))) (by omega) rfl,fun _=>⟨hw,hn,hrels,hbb.1 h⟩,fun _=>rfl⟩
 ·exact ⟨10,bj hi (g9.ends (h9.ends (bG.of (by rw [hv9,if_pos (by simpa using h)])))) (by omega) rfl,fun h=>(by cases h),fun hB=>absurd (hbb.2 hB.bound) h⟩
theorem dU {db:List (Sem zh)} (hs:∀ x∈db,cu x):tH db=true:=by
 obtain ⟨e,h,_⟩:=sD hs
 unfold tH; rw [h]; rfl
theorem gE {db:List (Sem zh)} (hs:∀ x∈db,cu x):jt db=(0:Int)↔aW db:=by
 obtain ⟨e,h,h2⟩:=sD hs
 unfold jt; rw [h]; exact h2
set_option maxHeartbeats 1000000

theorem eS:∀ s:zp,Op.bytesLess s s=false
 | []=>rfl
 | a::r=>by simp [Op.bytesLess,eS r]
theorem ip {α:Type} (l:List α) (d:α) {i:Nat} (h:i < l.length):l.getD ((i:Int).toNat) d=l[i]:=by
 rw [aQ,aH,zJ h,bM]
theorem DZ {α:Type} (l:List α) (d:α) {i:Nat} (h:i < l.length):l.getD i d∈l:=by
 rw [aH,zJ h,bM]
 exact cZ h
theorem pm {α β:Type} (f:α→β) (p:β→Bool):∀ (l:List α) (i:Nat),zL p (l.map f) i=zL (fun x=>p (f x)) l i
 | [],_=>rfl
 | x::r,i=>by simp only [jT,zL,pm f p r]
theorem tf {s:Sem zo} (h:dO s=true):eP s=true:=by
 unfold dO nj at h
 by_cases hp:eP s=true
 ·exact hp
 ·exfalso
  simp only [Bool.not_eq_true] at hp
  simp [hp] at h
theorem kN {db:List (Sem zh)} {s:zp} (h:(0:Int)≤zO db s):db.getD (toNat (zO db s)) (zj zh)∈db:=by
 have:=iq h
 simp only [zI,aM,zZ] at this
 exact DZ _ _ (by omega)

theorem fx:∀ {a b c:zp},Op.bytesLess a b=true→Op.bytesLess b c=true→Op.bytesLess a c=true
 | _,[],_,h,_=>by cases ‹zp› <;> simp [Op.bytesLess] at h
 | _,_::_,[],_,h=>by simp [Op.bytesLess] at h
 | [],_::_,_::_,_,_=>rfl
 | a::x,b::y,c::z,h,g=>by
  simp only [Op.bytesLess,sy,zZ,aM,eH] at h g ⊢
  rcases h with h | ⟨rfl,h⟩
  ·rcases g with g | ⟨rfl,g⟩
   ·exact .inl (UInt8.lt_trans h g)
   ·exact .inl h
  ·rcases g with g | ⟨rfl,g⟩
   ·exact .inl g
   ·exact .inr ⟨rfl,fx h g⟩

def Lx (p q:Int×Int×zp):Prop:=p.1 < q.1∨(p.1=q.1∧(p.2.1 < q.2.1∨(p.2.1=q.2.1∧Op.bytesLess p.2.2 q.2.2=true)))
theorem Lx.trans {p q r:Int×Int×zp} (h:Lx p q) (g:Lx q r):Lx p r:=by
 unfold Lx at *
 rcases h with h | ⟨h1,h | ⟨h2,h⟩⟩ <;> rcases g with g | ⟨g1,g | ⟨g2,g⟩⟩
 ·exact .inl (by omega)
 ·exact .inl (by omega)
 ·exact .inl (by omega)
 ·exact .inl (by omega)
 ·exact .inr ⟨by omega,.inl (by omega)⟩
 ·exact .inr ⟨by omega,.inl (by omega)⟩
 ·exact .inl (by omega)
 ·exact .inr ⟨by omega,.inl (by omega)⟩
 ·exact .inr ⟨by omega,.inr ⟨by omega,fx h g⟩⟩
theorem Lx.irrefl {p:Int×Int×zp}:¬ Lx p p:=by
 unfold Lx
 rw [eS]
 rintro (h | ⟨_,h | ⟨_,h⟩⟩)
 ·omega
 ·omega
 ·cases h
theorem Hu (a b:Int):Jd a b=if a < b then -1 else if b < a then 1 else 0:=by
 show (if (a != a)=true then _ else if (b != b)=true then (1:Int) else if decide (a < b)=true then -1 else if decide (a > b)=true then 1 else 0)=_
 simp
theorem K3 (a b:Int):yN a b=if a < b then -1 else if b < a then 1 else 0:=Hu a b
theorem Ql (a b:zp):(Bh a b=-1∧Op.bytesLess a b=true)∨(Bh a b=0∧a=b)∨(Bh a b=1∧Op.bytesLess a b=false):=by
 have:Bh a b=if Op.bytesLess a b=true then -1 else if (!(Op.bytesLess a b||a==b))=true then 1 else 0:=by
  show (if (!a==a)=true then _ else if (!b==b)=true then (1:Int) else if Op.bytesLess a b=true then -1 else if (!(Op.bytesLess a b||a==b))=true then 1 else 0)=_
  simp
 rw [this]
 cases h:Op.bytesLess a b with
 | true=>exact .inl ⟨rfl,rfl⟩
 | false=>
  by_cases e:a=b
  ·exact .inr (.inl ⟨by simp [e],e⟩)
  ·exact .inr (.inr ⟨by simp [e],rfl⟩)
theorem Ys (k n k' n':Int) (s s':zp):(TQ [Jd k k',yN n n',Bh s s'] < 0)↔Lx (k,n,s) (k',n',s'):=by
 show _↔(k < k'∨(k=k'∧(n < n'∨(n=n'∧Op.bytesLess s s'=true))))
 rw [Hu,K3]
 simp only [TQ]
 have irr:=eS s'
 rcases Int.lt_trichotomy k k' with h | h | h
 ·simp [h]
 ·subst h
  rcases Int.lt_trichotomy n n' with g | g | g
  ·simp [g]
  ·subst g
   rcases Ql s s' with ⟨e,f⟩ | ⟨e,f⟩ | ⟨e,f⟩
   ·simp [e,f]
   ·subst f; simp [e,irr]
   ·simp [e,f]
  ·have:¬ n < n':=by omega
   have:n≠n':=by omega
   simp [*]
 ·have:¬ k < k':=by omega
  have:k≠k':=by omega
  simp [*]
theorem um {a b:Sem zf}:Ky a b↔Lx (bF a) (bF b):=Ys (bF a).1 (bF a).2.1 (bF b).1 (bF b).2.1 (bF a).2.2 (bF b).2.2
theorem oq {a b c:Sem zf} (h:Ky a b) (g:Ky b c):Ky a c:=um.2 ((um.1 h).trans (um.1 g))
theorem pA {a:Sem zf}:¬ Ky a a:=fun h=>Lx.irrefl (um.1 h)

theorem n6 {α:Type} {R:α→α→Prop} (ht:∀ {a b c},R a b→R b c→R a c) {d:α}:∀ {l:List α},(∀ i,i < l.length - 1→R (l.getD i d) (l.getD (i+1) d))↔l.Pairwise R
 | []=>by simp
 | [a]=>by simp
 | a::b::r=>by
  have IH:=n6 (R:=R) ht (d:=d) (l:=b::r)
  constructor
  ·intro h
   have h0:=h 0 (by simp)
   have h1:(b::r).Pairwise R:=IH.1 fun i hi=>h (i+1) (by simp only [mc] at hi ⊢; omega)
   refine List.pairwise_cons.2 ⟨fun x hx=>?_,h1⟩
   rcases c9.1 hx with rfl | hx
   ·exact h0
   ·exact ht h0 ((List.pairwise_cons.1 h1).1 x hx)
  ·intro h i hi
   obtain ⟨h0,h1⟩:=List.pairwise_cons.1 h
   cases i with
   | zero=>exact h0 b (by simp)
   | succ i=>exact IH.2 h1 i (by simp only [mc] at hi ⊢; omega)

def MN (k:Int) (a b:List (Sem zf)):Prop:=Ky (bc k a) (bc k b)
theorem ck.pw {x:Sem zh} (h:ck x):x.2.Pairwise (MN x.1.2.2.1):=(n6 (R:=MN x.1.2.2.1) oq).1 h.rise

theorem ck.sub {t:Sem zw} {l l':List (List (Sem zf))} (h:ck (t,l)) (hs:List.Sublist l' l):ck (t,l') where
 may:=h.may
 few:=cy hs.length_le h.few
 fits:=fun r hr=>h.fits r (hs.subset hr)
 key:=List.Pairwise.sublist hs h.key
 uniq:=fun u hu=>List.Pairwise.sublist hs (h.uniq u hu)
 rise:=(n6 (R:=MN t.2.2.1) oq).2 (List.Pairwise.sublist hs h.pw)

theorem AA (db:List (Sem zh)) (i:Nat):(db.getD i (zj zh)).1=(db.map (·.1)).getD i (zj zh).1:=by
 rw [aH,aH,dh]
 cases db[i]? <;> rfl
theorem uO (db:List (Sem zh)) (s:zp):zO db s=zL (fun t:Sem zw=>t.1==s) (db.map (·.1)) 0:=(pm (fun x:Sem zh=>x.1) (fun t:Sem zw=>t.1==s) db 0).symm
theorem D9 {db:List (Sem zh)} {i:Nat} {x:Sem zh} (h:(db.getD i (zj zh)).1=x.1):(db.set i x).map (·.1)=db.map (·.1):=by
 rw [List.map_set]
 refine yG fun j=>?_
 rw [jP]
 by_cases e:i=j
 ·subst e
  rw [if_pos rfl]
  by_cases hi:i < (db.map (·.1)).length
  ·rw [if_pos hi,zJ hi,← h]
   congr 1
   have hi':i < db.length:=by simpa using hi
   rw [aH,zJ hi',List.getElem_map]
   rfl
  ·rw [if_neg hi,dg (by omega)]
 ·rw [if_neg e]

theorem aW.put {db:List (Sem zh)} {i:Nat} {x:Sem zh} (h:aW db) (ht:(db.getD i (zj zh)).1=x.1) (hx:ck x) (hb:lZ (db.set i x)):aW (db.set i x) where
 few:=by rw [jR]; exact h.few
 names:=fun j hj=>by
  rw [jR] at hj
  have:=h.names j hj
  rw [AA,AA] at this ⊢
  rwa [D9 ht]
 rels:=fun y hy=>by
  rcases mE hy with hy | rfl
  ·exact h.rels y hy
  ·exact hx
 bound:=hb
theorem Ja {db:List (Sem zh)} {i:Nat} {x:Sem zh} (ht:(db.getD i (zj zh)).1=x.1) (s:zp):zO (db.set i x) s=zO db s:=by
 rw [uO,uO,D9 ht]

def rN (es:List (V×Int)) (ks:List V):List (V×Int):=ks.foldl (fun es k=>iI es k 0) es
theorem EY {k:V} {n:Int}:∀ {es:List (V×Int)},(∀ p∈es,p.1≠k)→iI es k n=es++[(k,n)]
 | [],_=>rfl
 | p::r,h=>by
  have h1:(k==p.1)=false:=by simpa using fun e=>h p (by simp) e.symm
  show (bif k==p.1 then _ else _)=_
  rw [h1]
  show p::iI r k n=_
  rw [EY fun q hq=>h q (by simp [hq])]
  rfl
theorem D3:∀ (ks:List V) (es:List (V×Int)),ks.Pairwise (· ≠ ·)→(∀ p∈es,∀ k∈ks,p.1≠k)→rN es ks=es++ks.map fun k=>(k,0)
 | [],es,_,_=>by simp [rN]
 | k::r,es,hp,h=>by
  obtain ⟨h0,h1⟩:=List.pairwise_cons.1 hp
  show rN (iI es k 0) r=_
  rw [EY fun p hp=>h p hp k (by simp),D3 r _ h1 ?_]
  ·simp
  ·intro p hp q hq
   rcases bp.1 hp with hp | hp
   ·exact h p hp q (by simp [hq])
   ·simp only [bL] at hp
    subst hp
    exact h0 q hq
theorem QR {c:Int} {l:List (List (Sem zf))} (h:l.Pairwise (MN c)):(l.map (bc c)).Pairwise (· ≠ ·):=by
 rw [List.pairwise_map]
 exact h.imp fun {a b} hab (e:bc c a=bc c b)=>pA (a:=bc c b) (by have:=hab; unfold MN at this; rwa [e] at this)
theorem D2 {c:Int} {l:List (List (Sem zf))} (h:l.Pairwise (MN c)):(rN [] (l.map (bc c))).length=l.length:=by
 rw [D3 _ _ (QR h) (by simp)]
 simp

def dK (x:Sem zh) (p:List (Sem zf)→Bool):Sem zh:=(x.1,x.2.filter fun r => !fT (rN [] ((x.2.filter p).map (bc x.1.2.2.1))) (bc x.1.2.2.1 r))
theorem TR {α:Type} {R:α→α→Prop} (ht:∀ {a b c},R a b→R b c→R a c) (hi:∀ {a},¬ R a a):∀ {l l':List α},l.Pairwise R→l'.Pairwise R→l.Perm l'→l=l'
 | [],l',_,_,hp=>hp.symm.eq_nil.symm
 | a::r,[],_,_,hp=>absurd hp.eq_nil (by simp)
 | a::r,b::r',h,h',hp=>by
  obtain ⟨h0,h1⟩:=List.pairwise_cons.1 h
  obtain ⟨h0',h1'⟩:=List.pairwise_cons.1 h'
  have e:a=b:=by
   rcases c9.1 (hp.subset (uD (a:=a) (l:=r))) with e | m
   ·exact e
   ·rcases c9.1 (hp.symm.subset (uD (a:=b) (l:=r'))) with e' | m'
    ·exact e'.symm
    ·exact absurd (ht (h0 b m') (h0' a m)) hi
  subst e
  rw [TR (R:=R) ht hi h1 h1' (List.Perm.cons_inv hp)]
theorem JO {k:Int} {a b c:List (Sem zf)} (h:MN k a b) (g:MN k b c):MN k a c:=oq h g
theorem Ga {k:Int} {a:List (Sem zf)}:¬ MN k a a:=pA
theorem ck.eq_of_perm {t:Sem zw} {l l':List (List (Sem zf))} (h:ck (t,l)) (h':ck (t,l')) (hp:l.Perm l'):l=l':=TR (R:=MN t.2.2.1) JO Ga h.pw h'.pw hp

set_option maxHeartbeats 2000000

noncomputable def cP (e:ze) (cols:List (Sem zi)):Int:=if e.op=[] then 0 else if (bn e cols).2=(0:Int)∧(bn e cols).1≠(3:Int)∧(bn e cols).1≠(0:Int) then 5 else (bn e cols).2
noncomputable def mH (e:ze) (cols:List (Sem zi)) (r:List (Sem zf)):Bool:=bif e.op==[] then true else (il e cols r).1==3&&((il e cols r).2.1==1&&((il e cols r).2.2==[]&&true))
noncomputable def jD (x:Sem zh) (e:ze):List (List (Sem zf)):=x.2.filter (mH e x.1.2.1)

theorem Ru (x:Sem zh) (e:ze) (hl:x.2.length≤1000000) (hr:∀ r∈x.2,length r≤1000000):∀ (m i n:Nat) (acc:List (List (Sem zf))),x.2.length - i=m→i≤x.2.length→acc.length≤i→m < n→
  bw CE n (.h9b x.2 (x.2.length:Int) (i:Int) (x,()) (e,()) acc)=some (.tup [.vec 0,.int .i64 0],[.vec zf.sl (acc++(x.2.drop i).filter (mH e x.1.2.1))]):=by
 intro m
 induction m with
 | zero=>
  intro i n acc hm hi ha hn
  obtain rfl:i=x.2.length:=by omega
  obtain ⟨n,rfl⟩:∃ k,n=k+1:=⟨n - 1,by omega⟩
  rw [bw]
  simp only [CE,Tr.val,zY,cL,List.filter_nil,jQ]
  rfl
 | succ m IH=>
  intro i n acc hm hi ha hn
  have hlt:i < x.2.length:=by omega
  obtain ⟨n,rfl⟩:∃ k,n=k+1:=⟨n - 1,by omega⟩
  have h3:decide (length x.2[i]≤1073741824)=true:=by
   have:=hr _ (cZ hlt)
   simp only [zZ]; omega
  have h4:decide (acc.length+[x.2[i]].length≤1073741824)=true:=by simp only [zZ,List.length_singleton]; omega
  rw [bw,cX hlt]
  simp only [CE,Tr.val,zm,zT hlt,zC hlt,ae x.2 _ hlt,h3,h4,zD i (by unfold zB; omega),if_true]
  by_cases h:mH e x.1.2.1 x.2[i]=true
  ·rw [List.filter_cons_of_pos h]
   have h':=h
   unfold mH at h'
   rw [if_pos h']
   have:=IH (i+1) n (acc++[x.2[i]]) (by omega) (by omega) (by simp; omega) (by omega)
   rw [List.append_assoc] at this
   exact this
  ·rw [List.filter_cons_of_neg h]
   have h':=h
   unfold mH at h'
   rw [if_neg h']
   exact IH (i+1) n acc (by omega) (by omega) (by omega) (by omega)

theorem Rt (x:Sem zh) (e:ze) (hl:x.2.length≤1000000) (hr:∀ r∈x.2,length r≤1000000):∀ (m i n:Nat),x.2.length - i=m→i≤x.2.length→m < n→
  ∃ r,bw CE n (.h9 x.2 (x.2.length:Int) (i:Int) (x,()) (e,()))=some r∧ah r.2 [zf.sl.sl,zg] r.1=some ((x.2.drop i).filter (mH e x.1.2.1),0,()):=by
 intro m
 induction m with
 | zero=>
  intro i n hm hi hn
  obtain rfl:i=x.2.length:=by omega
  obtain ⟨n,rfl⟩:∃ k,n=k+1:=⟨n - 1,by omega⟩
  rw [bw]
  simp only [CE,Tr.val,zY,cL,List.filter_nil]
  exact ⟨_,rfl,rfl⟩
 | succ m IH=>
  intro i n hm hi hn
  have hlt:i < x.2.length:=by omega
  obtain ⟨n,rfl⟩:∃ k,n=k+1:=⟨n - 1,by omega⟩
  have h3:decide (length x.2[i]≤1073741824)=true:=by
   have:=hr _ (cZ hlt)
   simp only [zZ]; omega
  have h4:decide ([x.2[i]].length≤1073741824)=true:=by simp
  rw [bw,cX hlt]
  simp only [CE,Tr.val,zm,zT hlt,zC hlt,ae x.2 _ hlt,h3,h4,zD i (by unfold zB; omega),if_true]
  by_cases h:mH e x.1.2.1 x.2[i]=true
  ·rw [List.filter_cons_of_pos h]
   have h':=h
   unfold mH at h'
   rw [if_pos h']
   exact ⟨_,Ru x e hl hr m (i+1) n [x.2[i]] (by omega) (by omega) (by simp) (by omega),rfl⟩
  ·rw [List.filter_cons_of_neg h]
   have h':=h
   unfold mH at h'
   rw [if_neg h']
   exact IH (i+1) n (by omega) (by omega) (by omega)

theorem AI (x:Sem zh) (e:ze) (hl:x.2.length≤1000000) (hr:∀ r∈x.2,length r≤1000000):qz x e=some (if cP e x.1.2.1=0 then jD x e else [],cP e x.1.2.1,()):=by
 obtain ⟨r,h1,h2⟩:=Rt x e hl hr x.2.length 0 100000000 rfl (aV _) (by omega)
 rw [List.drop_zero] at h2
 unfold qz zW bl
 simp only [zdR,Tr.val,zm]
 unfold cP
 by_cases h0:e.op=[]
 ·have c0:(!e.op==[])=false:=by rw [h0]; rfl
  rw [c0,if_pos h0]
  simp only [zH,if_false,if_true]
  show (bw CE 100000000 (.h9 x.2 (x.2.length:Int) ((0:Nat):Int) (x,()) (e,()))).bind _=_
  rw [h1]
  exact h2
 ·have c0:(!e.op==[])=true:=by simpa using h0
  rw [c0,if_neg h0]
  simp only [if_true]
  by_cases h3:(bn e x.1.2.1).2=(0:Int)
  ·by_cases h4:(bn e x.1.2.1).1≠(3:Int)∧(bn e x.1.2.1).1≠(0:Int)
   ·rw [if_pos (show (bn e x.1.2.1).2=(0:Int)∧(bn e x.1.2.1).1≠(3:Int)∧(bn e x.1.2.1).1≠(0:Int) from ⟨h3,h4⟩)]
    have c1:(bif (bn e x.1.2.1).2==0 then bif (bn e x.1.2.1).1 != 3 then (bn e x.1.2.1).1 != 0 else false else false)=true:=by simp [h3,h4.1,h4.2]
    rw [c1]
    rfl
   ·rw [if_neg (show ¬ ((bn e x.1.2.1).2=(0:Int)∧(bn e x.1.2.1).1≠(3:Int)∧(bn e x.1.2.1).1≠(0:Int)) from fun h=>h4 h.2)]
    have c1:(bif (bn e x.1.2.1).2==0 then bif (bn e x.1.2.1).1 != 3 then (bn e x.1.2.1).1 != 0 else false else false)=false:=by
     rw [h3]
     cases c:((bn e x.1.2.1).1 != 3) with
     | false=>rfl
     | true=>
      simp only [bne_iff_ne,ne_eq] at c
      simp only [beq_self_eq_true,aR,bne_eq_false_iff_eq]
      exact Classical.not_not.1 fun h5=>h4 ⟨c,h5⟩
    have c2:((0:Int) != 0)=false:=rfl
    rw [c1]
    simp only [zH,if_false,h3,c2,if_true]
    show (bw CE 100000000 (.h9 x.2 (x.2.length:Int) ((0:Nat):Int) (x,()) (e,()))).bind _=_
    rw [h1]
    exact h2
  ·rw [if_neg (show ¬ ((bn e x.1.2.1).2=(0:Int)∧(bn e x.1.2.1).1≠(3:Int)∧(bn e x.1.2.1).1≠(0:Int)) from fun h=>h3 h.1)]
   have c1:(bif (bn e x.1.2.1).2==0 then bif (bn e x.1.2.1).1 != 3 then (bn e x.1.2.1).1 != 0 else false else false)=false:=by
    have:((bn e x.1.2.1).2==0)=false:=by simpa using h3
    rw [this]; rfl
   have c2:((bn e x.1.2.1).2 != 0)=true:=by simpa using h3
   rw [c1,c2,if_neg h3]
   rfl

theorem Rg {t:Sem zw} {r:List (Sem zf)} (hm:gn t=true) (hk:zI t.2.2.1 (length r)=true):Ov t r=true∧YE t r=bc t.2.2.1 r:=by
 have h1:decide (t.2.2.1 ≥ (↑(length r):Int))=false:=by
  simp only [zI,aM,zZ] at hk
  simp only [decide_eq_false_iff_not]
  exact fun h=>absurd hk.2 (Int.not_lt.2 h)
 have:EK t r=some (bc t.2.2.1 r,()):=by
  unfold EK zW bl
  simp only [zdU,Tr.val,zm,Prod.eta,hm,h1,hk,fk,bb,zH,if_false,if_true]
  rfl
 unfold Ov YE
 rw [this]
 exact ⟨rfl,rfl⟩

theorem XJ (x:Sem zh) (e:Int) (rows:List (List (Sem zf))) (hl:rows.length≤1000000) (hm:gn x.1=true) (hk:∀ r∈rows,zI x.1.2.2.1 (length r)=true):∀ (m i n:Nat) (es:List (V×Int)),rows.length - i=m→i≤rows.length→m < n→
  bw Kk n (.h4 e rows (rows.length:Int) (i:Int) (x,()) es)=some (.tup [.mp 0,.int .i64 e],[.vmap true (rN es ((rows.drop i).map (bc x.1.2.2.1)))]):=by
 intro m
 induction m with
 | zero=>
  intro i n es hm' hi hn
  obtain rfl:i=rows.length:=by omega
  obtain ⟨n,rfl⟩:∃ k,n=k+1:=⟨n - 1,by omega⟩
  rw [bw]
  simp only [Kk,Tr.val,zY,cL]
  rfl
 | succ m IH=>
  intro i n es hm' hi hn
  have hlt:i < rows.length:=by omega
  obtain ⟨n,rfl⟩:∃ k,n=k+1:=⟨n - 1,by omega⟩
  obtain ⟨h1,h2⟩:=Rg hm (hk _ (cZ hlt))
  rw [bw,cX hlt]
  simp only [Kk,Tr.val,zm,Prod.eta,zT hlt,zC hlt,ae rows _ hlt,h1,h2,zD i (by unfold zB; omega),if_true]
  exact IH (i+1) n _ (by omega) (by omega) (by omega)

theorem Nj {x:Sem zh} {e:ze} {r:List (Sem zf)} (h:r∈(if cP e x.1.2.1=0 then jD x e else [])):r∈x.2:=by
 split at h
 ·exact (List.mem_filter.1 h).1
 ·simp at h

theorem TC (d:Sem ag) (x:Sem zh) (hm:gn x.1=true) (hl:x.2.length≤1000000) (hr:∀ r∈x.2,length r≤1000000) (hk:∀ r∈x.2,zI x.1.2.2.1 (length r)=true):
  mO d x=some (rN [] ((if cP d.2.2.2.2.2.2.2.2.2.2.2.2.1 x.1.2.1=0 then jD x d.2.2.2.2.2.2.2.2.2.2.2.2.1 else []).map (bc x.1.2.2.1)),cP d.2.2.2.2.2.2.2.2.2.2.2.2.1 x.1.2.1):=by
 have hw:=AI x d.2.2.2.2.2.2.2.2.2.2.2.2.1 hl hr
 have hc:nY x d.2.2.2.2.2.2.2.2.2.2.2.2.1=true:=by unfold nY; rw [hw]; rfl
 have hv:r8 x d.2.2.2.2.2.2.2.2.2.2.2.2.1=(if cP d.2.2.2.2.2.2.2.2.2.2.2.2.1 x.1.2.1=0 then jD x d.2.2.2.2.2.2.2.2.2.2.2.2.1 else [],cP d.2.2.2.2.2.2.2.2.2.2.2.2.1 x.1.2.1):=by unfold r8; rw [hw]; rfl
 have hq:∀ r∈(if cP d.2.2.2.2.2.2.2.2.2.2.2.2.1 x.1.2.1=0 then jD x d.2.2.2.2.2.2.2.2.2.2.2.2.1 else []),r∈x.2:=fun r h=>Nj h
 have hlen:(if cP d.2.2.2.2.2.2.2.2.2.2.2.2.1 x.1.2.1=0 then jD x d.2.2.2.2.2.2.2.2.2.2.2.2.1 else []).length≤1000000:=by
  split
  ·exact cy (List.length_filter_le _ _) hl
  ·simp
 have:Hv d x=some (.tup [.mp 0,.int .i64 (cP d.2.2.2.2.2.2.2.2.2.2.2.2.1 x.1.2.1)],[.vmap true (rN [] ((if cP d.2.2.2.2.2.2.2.2.2.2.2.2.1 x.1.2.1=0 then jD x d.2.2.2.2.2.2.2.2.2.2.2.2.1 else []).map (bc x.1.2.2.1)))]):=by
  unfold Hv bl
  simp only [QJ,Tr.val,zm,Prod.eta,hc,hv,if_true]
  have:=XJ x (cP d.2.2.2.2.2.2.2.2.2.2.2.2.1 x.1.2.1) _ hlen hm (fun r h=>hk r (hq r h)) _ 0 100000000 [] rfl (aV _) (by omega)
  rw [List.drop_zero] at this
  exact this
 unfold mO
 rw [this]
 rfl

abbrev mu (s:Sem zo):ze:=s.2.2.2.2.2.2.2.2.2.2.2.1
abbrev dL (e:Int):Sem cw:=(e,0,[])

theorem ig (e:Int):o4 e=true∧bT e=([],dL e):=⟨rfl,rfl⟩
theorem pR {next:List (Sem zh)} {b:Bool} (n:Int) (h:pL next=some (b,())):uX next n=some (if b=true then next else [],if b=true then (0,n,[]) else dL 10,()):=by
 have hc:nC next=true:=by unfold nC; rw [h]; rfl
 have hv:rc next=b:=by unfold rc; rw [h]; rfl
 unfold uX zW bl
 cases b with
 | true=>
  simp only [W8,Tr.val,hc,hv,if_true,fk,zH,if_false]
  rfl
 | false=>
  simp only [W8,Tr.val,hc,hv,if_true,pH,zH,if_false]
  rfl
theorem yO {db:List (Sem zh)} {y:Sem zh} {i:Nat} (h:zO db y.1.1=(i:Int)) (hl:db.length≤1000000):lA db y=some (db.set i y,()):=by
 have hb:zI (zO db y.1.1) (length db)=true:=iq (by rw [h]; omega)
 rw [h] at hb
 have h0:decide (length db≤1073741824)=true:=by simp only [zZ]; omega
 have h1:decide ((i:Int) ≥ 0)=true:=by simp
 have h2:decide (toNat (i:Int) < length db)=true:=by
  simp only [zI,aM,zZ] at hb
  simp only [zZ]; omega
 unfold lA zW bl
 simp only [Mx,Tr.val,zm,Prod.eta,h,hb,h0,h1,h2,if_true]
 rfl

theorem Bm {db:List (Sem zh)} {s:Sem zo} (h:LT.lt (α:=Int) (zO db s.2.1) 0):ie (db,s)=some ([],dL 6,()):=by
 have h1:decide (LT.lt (α:=Int) (zO db s.2.1) 0)=true:=by simpa using h
 unfold ie zW bl
 simp only [W5,Tr.val,h1,if_true]
 rfl
theorem Fk {db:List (Sem zh)} {s:Sem zo} {x:Sem zh} {i:Nat} (h:zO db s.2.1=(i:Int)) (hx:db.getD i (zj zh)=x) (hl:x.2.length≤1000000) (hr:∀ r∈x.2,length r≤1000000):
  ie (db,s)=some (if cP (mu s) x.1.2.1=0 then db else [],if cP (mu s) x.1.2.1=0 then (0,((jD x (mu s)).length:Int),jD x (mu s)) else dL (cP (mu s) x.1.2.1),()):=by
 have hb:zI (zO db s.2.1) (length db)=true:=iq (by rw [h]; omega)
 rw [h] at hb
 have h1:decide (LT.lt (α:=Int) (i:Int) 0)=false:=by simp
 have hw:=AI x (mu s) hl hr
 have hc:nY x (mu s)=true:=by unfold nY; rw [hw]; rfl
 have hv:r8 x (mu s)=(if cP (mu s) x.1.2.1=0 then jD x (mu s) else [],cP (mu s) x.1.2.1):=by unfold r8; rw [hw]; rfl
 obtain ⟨f1,f2⟩:=ig (cP (mu s) x.1.2.1)
 unfold ie zW bl
 simp only [W5,Tr.val,zm,Prod.eta,h,h1,hb,aQ,hx,hc,hv,f1,f2,zH,if_true,if_false]
 by_cases h0:cP (mu s) x.1.2.1=0
 ·simp only [h0,if_true,ky,zH,if_false]
  rfl
 ·have h0':(cP (mu s) x.1.2.1 != 0)=true:=by simpa using h0
  simp only [h0',if_true,if_neg h0]
  rfl

theorem ck.len {x:Sem zh} (h:ck x):∀ r∈x.2,length r≤8:=by
 intro r hr
 obtain ⟨_,_,_,h4,_⟩:=gR h.may
 rw [mS (by simpa using h.fits r hr)]
 exact h4
theorem ck.kin {x:Sem zh} (h:ck x):∀ r∈x.2,zI x.1.2.2.1 (length r)=true:=by
 intro r hr
 obtain ⟨h1,_⟩:=gR h.may
 rw [mS (by simpa using h.fits r hr)]
 exact lI h1
noncomputable abbrev pS (s:Sem zo) (x:Sem zh):List (Sem zf)→Bool:=mH (mu s) x.1.2.1

theorem AS {db:List (Sem zh)} {i:Nat} {y:Sem zh} (hs:∀ x∈db,cu x) (hy:cu y):∀ x∈db.set i y,cu x:=fun x hx=>by
 rcases mE hx with h | rfl
 ·exact hs x h
 ·exact hy
theorem tp {x:Sem zh} {p:List (Sem zf)→Bool} (h:cu x):cu (dK x p):=⟨h.uq,h.rf,cy (List.length_filter_le _ _) h.rw⟩

theorem pi {db:List (Sem zh)} {n:zp} {x:Sem zh} {i:Nat} (h:zO db n=(i:Int)) (hx:db.getD i (zj zh)=x):x.1.1=n:=by
 rcases cd (fun y:Sem zh=>y.1.1==n) db 0 with ⟨q,_⟩ | ⟨k,hk,q1,q2,_⟩
 ·exfalso
  have h':zL (fun y:Sem zh=>y.1.1==n) db 0=(i:Int):=h
  rw [q] at h'
  omega
 ·have h':zL (fun y:Sem zh=>y.1.1==n) db 0=(i:Int):=h
  rw [q1] at h'
  obtain rfl:k=i:=by omega
  rw [aH,zJ hk,bM] at hx
  subst hx
  simpa using q2

theorem Fq {db:List (Sem zh)} {s:Sem zo} {x:Sem zh} {i:Nat} (hB:aW db) (hs:∀ y∈db,cu y) (h:zO db s.2.1=(i:Int)) (hx:db.getD i (zj zh)=x):
  ∃ b:Bool,(b=true↔lZ (db.set i (dK x (pS s x))))∧ij (db,s)=some (if cP (mu s) x.1.2.1=0 then (if b=true then db.set i (dK x (pS s x)) else []) else [],
   if cP (mu s) x.1.2.1=0 then (if b=true then (0,((jD x (mu s)).length:Int),[]) else dL 10) else dL (cP (mu s) x.1.2.1),()):=by
 have hf:(0:Int)≤zO db s.2.1:=by rw [h]; omega
 have hm:=kN hf
 rw [show toNat (zO db s.2.1)=i by rw [h]; rfl,hx] at hm
 have hr:=hB.rels x hm
 have hsx:=hs x hm
 have hrl:∀ r∈x.2,length r≤1000000:=fun r hr'=>cy (hr.len r hr') (by omega)
 have hl:x.2.length≤1000000:=cy hsx.rw (by omega)
 have hb:zI (zO db s.2.1) (length db)=true:=iq hf
 rw [h] at hb
 have hn:zO db x.1.1=(i:Int):=by
  rw [pi h hx,h]
 have hset:∀ y∈db.set i (dK x (pS s x)),ck y:=fun y hy=>by
  rcases mE hy with hy | rfl
  ·exact hB.rels y hy
  ·exact ck.sub (t:=x.1) (l:=x.2) hr List.filter_sublist
 have hdl:db.length≤12:=hB.few
 obtain ⟨b,b1,b2⟩:=hP (db:=db.set i (dK x (pS s x))) (fun y hy=>(hset y hy).cols) (AS hs (tp hsx)) (by rw [jR]; omega)
 refine ⟨b,b2,?_⟩
 have hmo:=TC (db,s) x hr.may hl hrl hr.kin
 have h1:decide (LT.lt (α:=Int) (i:Int) 0)=false:=by simp
 have h2:decide (length x.2≤1073741824)=true:=by simp only [zZ]; omega
 have h3:(decide (length x.2≤1000000)&&List.all x.2 fun r=>zI x.1.2.2.1 (length r))=true:=by
  simp only [aM,zZ,cY]
  exact ⟨hl,hr.kin⟩
 have hmv:mV (db,s) x=(rN [] ((if cP (mu s) x.1.2.1=0 then jD x (mu s) else []).map (bc x.1.2.2.1)),cP (mu s) x.1.2.1):=by unfold mV; rw [hmo]; rfl
 have hms:(mO (db,s) x).isSome=true:=by rw [hmo]; rfl
 obtain ⟨f1,f2⟩:=ig (cP (mu s) x.1.2.1)
 unfold ij zW bl
 simp only [W4,Tr.val,zm,Prod.eta,h,h1,hb,aQ,hx,hmv,hms,f1,f2,h2,h3,zH,if_true,if_false]
 by_cases h0:cP (mu s) x.1.2.1=0
 ·simp only [h0,if_true,ky,zH,if_false]
  have hkl:(rN [] ((jD x (mu s)).map (bc x.1.2.2.1))).length=(jD x (mu s)).length:=D2 (List.Pairwise.sublist List.filter_sublist hr.pw)
  have h4:decide ((jD x (mu s)).length≤1073741824)=true:=by
   have:=List.length_filter_le (mH (mu s) x.1.2.1) x.2
   simp only [zZ]
   unfold jD
   omega
  have hk:=pR ((jD x (mu s)).length:Int) b1
  have hkc:gG (db.set i (dK x (pS s x))) ((jD x (mu s)).length:Int)=true:=by unfold gG; rw [hk]; rfl
  have hkv:kG (db.set i (dK x (pS s x))) ((jD x (mu s)).length:Int)=(if b=true then db.set i (dK x (pS s x)) else [],if b=true then (0,((jD x (mu s)).length:Int),[]) else dL 10):=by unfold kG; rw [hk]; rfl
  have hw:lA db (dK x (pS s x))=some (db.set i (dK x (pS s x)),()):=yO (y:=dK x (pS s x)) hn (by omega)
  have hwc:jv db (dK x (pS s x))=true:=by unfold jv; rw [hw]; rfl
  have hwv:jU db (dK x (pS s x))=db.set i (dK x (pS s x)):=by unfold jU; rw [hw]; rfl
  have hT:(x.1,List.filter (pu x.1.2.2.1 (rN [] ((jD x (mu s)).map (bc x.1.2.2.1)))) x.2)=dK x (pS s x):=rfl
  simp only [hkl,h4,hT,hwc,hwv,hkc,hkv,if_true]
  by_cases h5:(zL (jC x.1.2.2.1 (rN [] ((jD x (mu s)).map (bc x.1.2.2.1)))) x.2 0==-1)=true
  ·have hE:x=dK x (pS s x):=by
    rw [← hT]
    refine Prod.ext rfl (Eq.symm (List.filter_eq_self.2 fun r hr'=>?_))
    rcases cd (jC x.1.2.2.1 (rN [] ((jD x (mu s)).map (bc x.1.2.2.1)))) x.2 0 with ⟨_,q2⟩ | ⟨k,_,q2,_⟩
    ·simp [pu,q2 r hr']
    ·rw [q2] at h5
     simp at h5
   rw [if_pos h5]
   have hwc2:jv db x=true:=by rw [hE]; exact hwc
   have hwv2:jU db x=db.set i (dK x (pS s x)):=by
    have:jU db x=jU db (dK x (pS s x)):=congrArg (jU db) hE
    rw [this]; exact hwv
   simp only [hwc2,hwv2,hkc,hkv,if_true]
   cases b <;> rfl
  ·rw [if_neg h5]
   cases b <;> rfl
 ·have h0':(cP (mu s) x.1.2.1 != 0)=true:=by simpa using h0
  simp only [h0',if_true,if_neg h0]
  rfl
end Cad
