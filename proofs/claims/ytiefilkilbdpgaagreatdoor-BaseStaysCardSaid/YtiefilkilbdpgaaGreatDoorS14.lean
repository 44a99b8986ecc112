/- Statements' texts: nothing panics. stmt.May: nothing panics. What is asked of tables with rows, and of bases, holds. -/
import Derived.Test.YtiefilkilbdpgaaGreatDoorS13
import Derived.Test.YtiefilkilbdpgaaGreatDoorS12
namespace Cad
open Go Go.Proofs
open Int (toNat)
open List (getD)
open List (length)
set_option maxHeartbeats 4000000

structure ey (s:Sem zm):Prop where
 op:s.1.length≤1000
 table:s.2.1.length≤1000
 other:s.2.2.1.length≤1000
 names:s.2.2.2.1.length≤20∧∀ x∈s.2.2.2.1,length x≤1000
 cols:s.2.2.2.2.1.length≤20∧∀ x∈s.2.2.2.2.1,length x.1≤1000
 key:s.2.2.2.2.2.1.length≤1000
 uniques:s.2.2.2.2.2.2.1.length≤20∧∀ x∈s.2.2.2.2.2.2.1,length x≤1000
 refs:s.2.2.2.2.2.2.2.1.length≤20∧∀ x∈s.2.2.2.2.2.2.2.1,length x.1≤1000∧length x.2≤1000
 row:s.2.2.2.2.2.2.2.2.2.1.length≤20
 sets:s.2.2.2.2.2.2.2.2.2.2.1.length≤20∧∀ x∈s.2.2.2.2.2.2.2.2.2.2.1,length x.1≤1000
 role:s.2.2.2.2.2.2.2.2.2.2.2.2.length≤1000

theorem fT (sep:zo) (B:Nat):∀ l:List zo,(∀ x∈l,x.length≤B)→(Lib.join l sep).length≤l.length * (B+sep.length)
 | [],_=>by simp [Lib.join,List.intercalate]
 | [x],h=>by
  rw [Lib.join_one]
  have:=h x (by simp)
  simp
  omega
 | x::y::r,h=>by
  have ih:=fT sep B (y::r) (fun z hz=>h z (ms _ hz))
  have hx:=h x (by simp)
  have e:Lib.join (x::y::r) sep=x++sep++Lib.join (y::r) sep:=by simp [Lib.join,List.intercalate,List.intersperse]
  rw [e]
  simp only [pk,oe] at ih ⊢
  rw [ee]
  omega

theorem sq {α:Type} (p:α→Bool):∀ (l:List α) (i:Nat),(!decide (zL p l i ≥ 0))=true→∀ x∈l,p x=false
 | [],_,_,x,hx=>by simp at hx
 | y::r,i,h,x,hx=>by
  rw [zL] at h
  cases hy:p y
  ·rw [hy] at h
   rcases cY.1 hx with rfl | hx
   ·exact hy
   ·exact sq p r (i+1) (by simpa using h) x hx
  ·exfalso
   rw [hy] at h
   simp at h
   try omega

theorem ki (e:ze):gm e=true:=gi (Bf e) rfl
theorem fL (e:ze):(cW e).length≤30000000:=Fa e
theorem nb (e:ze):xl e=true:=by
 unfold xl
 have:=fL e
 split
 ·rfl
 ·refine gi (ki e) (gi (aG ?_) rfl)
  simp; omega
theorem JM (e:ze):(Av e).length≤30000010:=by
 unfold Av
 have:=fL e
 split
 ·simp
 ·simp; omega
theorem iJ (s:zo) (h:s.length≤10) (e:ze):ll s e=true:=by
 unfold ll
 have:=fL e
 split
 ·rfl
 ·refine gi (aG ?_) (gi (ki e) (gi (aG ?_) (gi (aG ?_) rfl)))
  all_goals (simp; omega)
theorem ur (s:zo) (h:s.length≤10) (e:ze):(iz s e).length≤30000030:=by
 unfold iz
 have:=fL e
 split
 ·simp
 ·simp; omega
theorem xO (x:Sem aN) (h:length x.1≤1000):jz x=true:=by
 unfold jz
 have:=fL x.2
 refine gi (aG ?_) (gi (ki _) (gi (aG ?_) rfl))
 all_goals (simp; omega)
theorem sE (x:Sem aN) (h:length x.1≤1000):(ei x).length≤30001010:=by
 unfold ei
 have:=fL x.2
 simp; omega
theorem xy (x:Sem zi) (h:length x.1≤1000) (h1:(1:Int)≤x.2.1) (h2:LE.le (α:=Int) x.2.1 3):g8 x=true:=by
 obtain ⟨nm,ty,nn⟩:=x
 replace h:nm.length≤1000:=h
 replace h1:LE.le (α:=Int) 1 ty:=h1
 replace h2:LE.le (α:=Int) ty 3:=h2
 have hw:IntKind.i64.wrap (ty - 1)=ty - 1:=lN _ (by omega) (by omega)
 have hin:zI (ty - 1) 3=true:=by simp [zI]; omega
 unfold g8
 simp only [hw,hin,Bool.cond_eq_ite]
 repeat' split
 all_goals first
  | rfl
  | (rename_i hf; exfalso; apply hf; simp; omega)
  | (rename_i hf _; exfalso; apply hf; simp; omega)
  | (exfalso; simp_all; omega)
theorem CD (x:Sem zi) (h:length x.1≤1000):(dP x).length≤1100:=by
 unfold dP
 simp only [Bool.cond_eq_ite]
 repeat' split
 all_goals (simp; omega)

theorem sg:∀ (l:List (Sem zi)) (i:Int) (acc:List zo),cO l i acc=Lib.join (acc++l.map dP) [32,44,32]
 | [],i,acc=>by simp [cO]
 | x::r,i,acc=>by rw [cO,sg r]; simp
theorem AH (B:Nat) (l:List (Sem zi)) (h:∀ x∈l,(dP x).length≤B):(dA l).length≤l.length * (B+3):=by
 unfold dA
 rw [sg]
 have:=fT [32,44,32] B ([]++l.map dP) (fun y hy=>by
  simp only [yf,fe] at hy
  obtain ⟨x,hx,rfl⟩:=hy
  exact h x hx)
 simpa using this
theorem pB (B:Nat) (hB:B≤100000000):∀ (l:List (Sem zi)) (i:Int) (acc:List zo),(∀ x∈l,g8 x=true∧(dP x).length≤B)→(∀ x∈acc,x.length≤B)→acc.length+l.length≤40→di l i acc=true
 | [],i,acc,_,ha,hl=>by
  rw [di]
  refine gi ?_ rfl
  have h1:=fT [32,44,32] B acc ha
  have h2:acc.length * (B+3)≤40 * 100000003:=jN (by simpa using hl) (by omega)
  replace h1:(Lib.join acc [32,44,32]).length≤acc.length * (B+3):=h1
  simp only [aL,ae]
  simp at hl
  exact ⟨by omega,by omega⟩
 | x::r,i,acc,h,ha,hl=>by
  rw [di]
  have hx:=h x (by simp)
  simp at hl
  refine gi hx.1 (gi (aG ?_) ?_)
  ·simp; omega
  ·refine pB B hB r (i+1) _ (fun y hy=>h y (ms _ hy)) (fun y hy=>?_) (by simp; omega)
   rcases bn.1 hy with hy | hy
   ·exact ha y hy
   ·simp at hy; subst hy; exact hx.2

theorem sG:∀ (l:List (Sem Sh.str)) (i:Int) (acc:List zo),cU l i acc=Lib.join (acc++l.map ma) [32,44,32]
 | [],i,acc=>by simp [cU]
 | x::r,i,acc=>by rw [cU,sG r]; simp
theorem BS (B:Nat) (l:List (Sem Sh.str)) (h:∀ x∈l,(ma x).length≤B):(kQ l).length≤l.length * (B+3):=by
 unfold kQ
 rw [sG]
 have:=fT [32,44,32] B ([]++l.map ma) (fun y hy=>by
  simp only [yf,fe] at hy
  obtain ⟨x,hx,rfl⟩:=hy
  exact h x hx)
 simpa using this
theorem qy (B:Nat) (hB:B≤100000000):∀ (l:List (Sem Sh.str)) (i:Int) (acc:List zo),(∀ x∈l,(ma x).length≤B)→(∀ x∈acc,x.length≤B)→acc.length+l.length≤40→dl l i acc=true
 | [],i,acc,_,ha,hl=>by
  rw [dl]
  refine gi ?_ rfl
  have h1:=fT [32,44,32] B acc ha
  have h2:acc.length * (B+3)≤40 * 100000003:=jN (by simpa using hl) (by omega)
  replace h1:(Lib.join acc [32,44,32]).length≤acc.length * (B+3):=h1
  simp only [aL,ae]
  simp at hl
  exact ⟨by omega,by omega⟩
 | x::r,i,acc,h,ha,hl=>by
  rw [dl]
  have hx:=h x (by simp)
  simp at hl
  refine gi (aG ?_) ?_
  ·simp; omega
  ·refine qy B hB r (i+1) _ (fun y hy=>h y (ms _ hy)) (fun y hy=>?_) (by simp; omega)
   rcases bn.1 hy with hy | hy
   ·exact ha y hy
   ·simp at hy; subst hy; exact hx

theorem sP:∀ (l:List (Sem zf)) (i:Int) (acc:List zo),cV l i acc=Lib.join (acc++l.map gy) [32,44,32]
 | [],i,acc=>by simp [cV]
 | x::r,i,acc=>by rw [cV,sP r]; simp
theorem B8 (B:Nat) (l:List (Sem zf)) (h:∀ x∈l,(gy x).length≤B):(kT l).length≤l.length * (B+3):=by
 unfold kT
 rw [sP]
 have:=fT [32,44,32] B ([]++l.map gy) (fun y hy=>by
  simp only [yf,fe] at hy
  obtain ⟨x,hx,rfl⟩:=hy
  exact h x hx)
 simpa using this
theorem qE (B:Nat) (hB:B≤100000000):∀ (l:List (Sem zf)) (i:Int) (acc:List zo),(∀ x∈l,lL x=true∧(gy x).length≤B)→(∀ x∈acc,x.length≤B)→acc.length+l.length≤40→dn l i acc=true
 | [],i,acc,_,ha,hl=>by
  rw [dn]
  refine gi ?_ rfl
  have h1:=fT [32,44,32] B acc ha
  have h2:acc.length * (B+3)≤40 * 100000003:=jN (by simpa using hl) (by omega)
  replace h1:(Lib.join acc [32,44,32]).length≤acc.length * (B+3):=h1
  simp only [aL,ae]
  simp at hl
  exact ⟨by omega,by omega⟩
 | x::r,i,acc,h,ha,hl=>by
  rw [dn]
  have hx:=h x (by simp)
  simp at hl
  refine gi hx.1 (gi (aG ?_) ?_)
  ·simp; omega
  ·refine qE B hB r (i+1) _ (fun y hy=>h y (ms _ hy)) (fun y hy=>?_) (by simp; omega)
   rcases bn.1 hy with hy | hy
   ·exact ha y hy
   ·simp at hy; subst hy; exact hx.2

theorem sF:∀ (l:List (Sem aN)) (i:Int) (acc:List zo),cT l i acc=Lib.join (acc++l.map ei) [32,44,32]
 | [],i,acc=>by simp [cT]
 | x::r,i,acc=>by rw [cT,sF r]; simp
theorem BP (B:Nat) (l:List (Sem aN)) (h:∀ x∈l,(ei x).length≤B):(kN l).length≤l.length * (B+3):=by
 unfold kN
 rw [sF]
 have:=fT [32,44,32] B ([]++l.map ei) (fun y hy=>by
  simp only [yf,fe] at hy
  obtain ⟨x,hx,rfl⟩:=hy
  exact h x hx)
 simpa using this
theorem qv (B:Nat) (hB:B≤100000000):∀ (l:List (Sem aN)) (i:Int) (acc:List zo),(∀ x∈l,jz x=true∧(ei x).length≤B)→(∀ x∈acc,x.length≤B)→acc.length+l.length≤40→dk l i acc=true
 | [],i,acc,_,ha,hl=>by
  rw [dk]
  refine gi ?_ rfl
  have h1:=fT [32,44,32] B acc ha
  have h2:acc.length * (B+3)≤40 * 100000003:=jN (by simpa using hl) (by omega)
  replace h1:(Lib.join acc [32,44,32]).length≤acc.length * (B+3):=h1
  simp only [aL,ae]
  simp at hl
  exact ⟨by omega,by omega⟩
 | x::r,i,acc,h,ha,hl=>by
  rw [dk]
  have hx:=h x (by simp)
  simp at hl
  refine gi hx.1 (gi (aG ?_) ?_)
  ·simp; omega
  ·refine qv B hB r (i+1) _ (fun y hy=>h y (ms _ hy)) (fun y hy=>?_) (by simp; omega)
   rcases bn.1 hy with hy | hy
   ·exact ha y hy
   ·simp at hy; subst hy; exact hx.2

theorem bY {s:Sem zm} {g b:Bool} (hv:(eD s).val=if g=true then some (.inr (.bool b,[])) else none):jZ s=g∧f7 s=(g&&b):=by
 unfold jZ f7 tJ zW bh
 rw [hv]
 cases g <;> cases b <;> exact ⟨rfl,rfl⟩
theorem sC {s:Sem zm} (hv:(eD s).val=some (.inr (.kb false,[]))):jZ s=true∧f7 s=false:=by
 unfold jZ f7 tJ zW bh
 rw [hv]
 exact ⟨rfl,rfl⟩

theorem QG {s:Sem zm} (h:f7 s=true):(s.1=[99,114,101,97,116,101]∧eL s=true)∨(s.1=[103,114,111,117,112]∧s.2.2.2.1.length=2)∨
  (s.1∈([[100,114,111,112],[105,110,115,101,114,116],[117,112,100,97,116,101],[100,101,108,101,116,101],[115,101,108,101,99,116],[114,101,97,100],[119,114,105,116,101],[117,110,114,101,97,100],[117,110,119,114,105,116,101],[99,111,112,121],[106,111,105,110]]:List zo)):=by
 by_cases q0:(s.1==[99,114,101,97,116,101])=true
 ·refine .inl ⟨dM q0,?_⟩
  obtain ⟨_,hp⟩:=bY (s:=s) (g:=_) (b:=_) (by simp only [eD,dR,Tr.val,q0,if_true,zp]; exact rfl)
  rw [hp] at h
  cases h2:eL s
  ·rw [h2] at h
   cases h1:bE s.2.1 <;> rw [h1] at h <;> simp at h
  ·rfl
 by_cases q1:(s.1==[100,114,111,112])=true
 ·exact .inr (.inr (by rw [dM q1]; simp))
 by_cases q2:(s.1==[105,110,115,101,114,116])=true
 ·exact .inr (.inr (by rw [dM q2]; simp))
 by_cases q3:(s.1==[117,112,100,97,116,101])=true
 ·exact .inr (.inr (by rw [dM q3]; simp))
 by_cases q4:(s.1==[100,101,108,101,116,101])=true
 ·exact .inr (.inr (by rw [dM q4]; simp))
 by_cases q5:(s.1==[115,101,108,101,99,116])=true
 ·exact .inr (.inr (by rw [dM q5]; simp))
 by_cases q6:(s.1==[114,101,97,100])=true
 ·exact .inr (.inr (by rw [dM q6]; simp))
 by_cases q7:(s.1==[119,114,105,116,101])=true
 ·exact .inr (.inr (by rw [dM q7]; simp))
 by_cases q8:(s.1==[117,110,114,101,97,100])=true
 ·exact .inr (.inr (by rw [dM q8]; simp))
 by_cases q9:(s.1==[117,110,119,114,105,116,101])=true
 ·exact .inr (.inr (by rw [dM q9]; simp))
 by_cases q10:(s.1==[99,111,112,121])=true
 ·exact .inr (.inr (by rw [dM q10]; simp))
 by_cases q11:(s.1==[106,111,105,110])=true
 ·exact .inr (.inr (by rw [dM q11]; simp))
 by_cases q12:(s.1==[103,114,111,117,112])=true
 ·refine .inr (.inl ⟨dM q12,?_⟩)
  obtain ⟨_,hp⟩:=bY (s:=s) (g:=_) (b:=_) (by simp only [eD,dR,Tr.val,q0,q1,q2,q3,q4,q5,q6,q7,q8,q9,q10,q11,q12,if_true,if_false,zH,zp]; exact rfl)
  rw [hp] at h
  by_cases hl:s.2.2.2.1.length=2
  ·exact hl
  ·exfalso
   have hd:(bif decide ((s.2.2.2.1.length:Int) < 2) then true else decide ((s.2.2.2.1.length:Int) > 2))=true:=by
    rcases Nat.lt_or_gt_of_ne hl with h2 | h2
    ·have:decide ((s.2.2.2.1.length:Int) < 2)=true:=ay (by omega)
     rw [this]; rfl
    ·have:decide ((s.2.2.2.1.length:Int) > 2)=true:=ay (by omega)
     rw [this]; cases decide ((s.2.2.2.1.length:Int) < 2) <;> rfl
   rw [hd] at h
   cases h1:bE s.2.1 <;> cases h2:bE s.2.2.1 <;> rw [h1,h2] at h <;> simp at h
 obtain ⟨_,hp⟩:=sC (s:=s) (by simp only [eD,dR,Tr.val,q0,q1,q2,q3,q4,q5,q6,q7,q8,q9,q10,q11,q12,if_false,zH])
 rw [hp] at h
 cases h


theorem kq {a0:Sem Sh.str} {a1:Sem Sh.str} {a2:Sem Sh.str} {a3:List (Sem Sh.str)} {a4:List (Sem zi)} {a5:Sem Sh.str} {a6:List (Sem Sh.str)} {a7:List (Sem (Sh.str.pr Sh.str))} {a8:zo} {a9:Int} {a10:Int} {a11:zo} {a12:zo} {a13:List (Sem Sh.expr)} {a14:List (Sem zf)} {a15:List (Sem (Sh.str.pr Sh.expr))} {a16:zo} {a17:Int} {a18:Int} {a19:zo} {a20:zo} {a21:List (Sem Sh.expr)} {a22:Sem Sh.str}:∀ (l:List (Sem (Sh.str.pr Sh.str))) (i:Int) (s:zo),(∀ x∈l,length x.1≤1000∧length x.2≤1000)→s.length+l.length * 3000≤1000000→
  dj a0 a1 a2 a3 a4 a5 a6 a7 a8 a9 a10 a11 a12 a13 a14 a15 a16 a17 a18 a19 a20 a21 a22 l i s=true∧(cQ a0 a1 a2 a3 a4 a5 a6 a7 a8 a9 a10 a11 a12 a13 a14 a15 a16 a17 a18 a19 a20 a21 a22 l i s).length≤40000000
 | [],i,s,_,hs=>by
  rw [dj,cQ]
  have h1:=ur [32,44,32] (by simp) (ze.mk a8 (a9,a10,a11) a12 a13)
  simp at hs
  refine ⟨gi (iJ _ (by simp) _) (gi (aG ?_) (gi (aG ?_) rfl)),?_⟩
  all_goals first | omega | (simp; omega)
 | x::r,i,s,h,hs=>by
  have hx:=h x (by simp)
  simp at hs
  rw [dj,cQ]
  obtain ⟨k1,k2⟩:=kq (a0:=a0) (a1:=a1) (a2:=a2) (a3:=a3) (a4:=a4) (a5:=a5) (a6:=a6) (a7:=a7) (a8:=a8) (a9:=a9) (a10:=a10) (a11:=a11) (a12:=a12) (a13:=a13) (a14:=a14) (a15:=a15) (a16:=a16) (a17:=a17) (a18:=a18) (a19:=a19) (a20:=a20) (a21:=a21) (a22:=a22) r (i+1) (s++([32,44,32,82,69,70,69,82,69,78,67,69,83,32,40,32]++x.1++[32,41,32]++x.2)) (fun y hy=>h y (ms _ hy)) (by simp; omega)
  refine ⟨gi (aG ?_) (gi (aG ?_) (gi (aG ?_) (gi (aG ?_) k1))),k2⟩
  all_goals (simp; omega)

theorem lT {a0:Sem Sh.str} {a1:Sem Sh.str} {a2:Sem Sh.str} {a3:List (Sem Sh.str)} {a4:List (Sem zi)} {a5:Sem Sh.str} {a6:List (Sem Sh.str)} {a7:List (Sem (Sh.str.pr Sh.str))} {a8:zo} {a9:Int} {a10:Int} {a11:zo} {a12:zo} {a13:List (Sem Sh.expr)} {a14:List (Sem zf)} {a15:List (Sem (Sh.str.pr Sh.expr))} {a16:zo} {a17:Int} {a18:Int} {a19:zo} {a20:zo} {a21:List (Sem Sh.expr)} {a22:Sem Sh.str} (h7:a7.length≤20∧∀ x∈a7,length x.1≤1000∧length x.2≤1000):∀ (l:List (Sem Sh.str)) (i:Int) (s:zo),(∀ x∈l,length x≤1000)→s.length+l.length * 3000≤900000→
  dQ a0 a1 a2 a3 a4 a5 a6 a7 a8 a9 a10 a11 a12 a13 a14 a15 a16 a17 a18 a19 a20 a21 a22 l i s=true∧(dB a0 a1 a2 a3 a4 a5 a6 a7 a8 a9 a10 a11 a12 a13 a14 a15 a16 a17 a18 a19 a20 a21 a22 l i s).length≤40000000
 | [],i,s,_,hs=>by
  rw [dQ,dB]
  simp at hs
  exact kq a7 0 s h7.2 (by have:=h7.1; omega)
 | x::r,i,s,h,hs=>by
  have hx:=h x (by simp)
  simp at hs
  rw [dQ,dB]
  obtain ⟨k1,k2⟩:=lT (a0:=a0) (a1:=a1) (a2:=a2) (a3:=a3) (a4:=a4) (a5:=a5) (a6:=a6) (a7:=a7) (a8:=a8) (a9:=a9) (a10:=a10) (a11:=a11) (a12:=a12) (a13:=a13) (a14:=a14) (a15:=a15) (a16:=a16) (a17:=a17) (a18:=a18) (a19:=a19) (a20:=a20) (a21:=a21) (a22:=a22) h7 r (i+1) (s++([32,44,32,85,78,73,81,85,69,32,40,32]++x++[32,41])) (fun y hy=>h y (ms _ hy)) (by simp; omega)
  refine ⟨gi (aG ?_) (gi (aG ?_) (gi (aG ?_) k1)),k2⟩
  all_goals (simp; omega)

theorem AI {s:Sem zm} (h:eL s=true):∀ x∈s.2.2.2.2.1,g7 x=true:=by
 intro x hx
 have hq:(!decide (zL (fun x => !g7 x) s.2.2.2.2.1 0 ≥ 0))=true:=by
  unfold eL at h
  cases h1:(bif decide ((↑(length s.2.2.2.2.1):Int) < 1) then true else decide ((↑(length s.2.2.2.2.1):Int) > 8))
  ·rw [h1] at h
   cases h2:(!decide (zL (fun x => !g7 x) s.2.2.2.2.1 0 ≥ 0))
   ·rw [h2] at h; cases h
   ·rfl
  ·rw [h1] at h; cases h
 have:=sq (fun x => !g7 x) _ 0 hq x hx
 simpa using this

theorem ut {x:Sem zi} (h:g7 x=true):LE.le (α:=Int) 1 x.2.1∧LE.le (α:=Int) x.2.1 3:=by
 unfold g7 at h
 cases h1:bE x.1
 ·rw [h1] at h; cases h
 ·rw [h1] at h
  cases h2:decide (x.2.1 ≥ 1)
  ·rw [h2] at h; cases h
  ·rw [h2] at h
   have h3:decide (x.2.1≤3)=true:=h
   exact ⟨fb h2,fb h3⟩

theorem xz {s:Sem zm} (hs:ey s) (hc:eL s=true):mv s=true∧(ni s).length≤40000000:=by
 have hcol:=AI hc
 have c1:∀ x∈s.2.2.2.2.1,g8 x=true∧(dP x).length≤1100:=fun x hx=>⟨xy x (hs.cols.2 x hx) (ut (hcol x hx)).1 (ut (hcol x hx)).2,CD x (hs.cols.2 x hx)⟩
 have c2:iZ s.2.2.2.2.1=true:=pB 1100 (by omega) _ 0 [] c1 (by simp) (by have:=hs.cols.1; simp; omega)
 have c3:=AH 1100 s.2.2.2.2.1 (fun x hx=>(c1 x hx).2)
 have c4:s.2.2.2.2.1.length * (1100+3)≤20 * 1103:=jN hs.cols.1 (by omega)
 have t1:=hs.table
 have t2:=hs.key
 have u1:=hs.uniques.1
 unfold mv ni
 obtain ⟨k1,k2⟩:=lT (a0:=s.1) (a1:=s.2.1) (a2:=s.2.2.1) (a3:=s.2.2.2.1) (a4:=s.2.2.2.2.1) (a5:=s.2.2.2.2.2.1) (a6:=s.2.2.2.2.2.2.1) (a8:=s.2.2.2.2.2.2.2.2.1.op) (a9:=s.2.2.2.2.2.2.2.2.1.v.1) (a10:=s.2.2.2.2.2.2.2.2.1.v.2.1) (a11:=s.2.2.2.2.2.2.2.2.1.v.2.2) (a12:=s.2.2.2.2.2.2.2.2.1.s) (a13:=s.2.2.2.2.2.2.2.2.1.l) (a14:=s.2.2.2.2.2.2.2.2.2.1) (a15:=s.2.2.2.2.2.2.2.2.2.2.1) (a16:=s.2.2.2.2.2.2.2.2.2.2.2.1.op) (a17:=s.2.2.2.2.2.2.2.2.2.2.2.1.v.1) (a18:=s.2.2.2.2.2.2.2.2.2.2.2.1.v.2.1) (a19:=s.2.2.2.2.2.2.2.2.2.2.2.1.v.2.2) (a20:=s.2.2.2.2.2.2.2.2.2.2.2.1.s) (a21:=s.2.2.2.2.2.2.2.2.2.2.2.1.l) (a22:=s.2.2.2.2.2.2.2.2.2.2.2.2)
  hs.refs s.2.2.2.2.2.2.1 0 ([67,82,69,65,84,69,32,84,65,66,76,69,32]++s.2.1++[32,40,32]++dA s.2.2.2.2.1++([32,44,32,75,69,89,32,40,32]++s.2.2.2.2.2.1++[32,41])) hs.uniques.2 (by
   have:s.2.2.2.2.2.2.1.length * 3000≤20 * 3000:=jN u1 (by omega)
   simp; omega)
 refine ⟨gi (aG ?_) (gi (aG ?_) (gi c2 (gi (aG ?_) (gi (aG ?_) (gi (aG ?_) (gi (aG ?_) k1)))))),k2⟩
 all_goals (simp; omega)

theorem gx {α β:Type} {c:Bool} {a:Option α} {F:β→Option α} {P:β→Prop} (h:c=true) (k:∃ t,a=F t∧P t):∃ t,(if c=true then a else none)=F t∧P t:=by
 subst h; exact k
theorem wS {s:Sem zm} (h:∃ t,(vQ s).val=some (.inr (.str t,[]))∧t.length≤1000000000):rM s=true∧(oB s).length≤1000000000:=by
 obtain ⟨t,h,k⟩:=h
 unfold rM oB F3 zW bh
 rw [h]
 exact ⟨rfl,k⟩

theorem D2 {s:Sem zm} (hs:ey s) (hp:f7 s=true):rM s=true∧(oB s).length≤1000000000:=by
 have t1:=hs.table
 have t2:=hs.other
 have t3:=hs.key
 have t4:=hs.role
 have t5:=hs.op
 have tu:=dV s.1
 have w1:=JM s.2.2.2.2.2.2.2.2.2.2.2.1
 have w2:=ur [32] (by simp) s.2.2.2.2.2.2.2.2.1
 have v1:kU s.2.2.2.2.2.2.2.2.2.1=true:=qE 300 (by omega) _ 0 [] (fun x _=>⟨sO x,rP x⟩) (by simp) (by have:=hs.row; simp; omega)
 have v2:=B8 300 s.2.2.2.2.2.2.2.2.2.1 (fun x _=>rP x)
 have v3:s.2.2.2.2.2.2.2.2.2.1.length * (300+3)≤20 * 303:=jN hs.row (by omega)
 have e1:kO s.2.2.2.2.2.2.2.2.2.2.1=true:=qv 30001010 (by omega) _ 0 [] (fun x hx=>⟨xO x (hs.sets.2 x hx),sE x (hs.sets.2 x hx)⟩) (by simp) (by have:=hs.sets.1; simp; omega)
 have e2:=BP 30001010 s.2.2.2.2.2.2.2.2.2.2.1 (fun x hx=>sE x (hs.sets.2 x hx))
 have e3:s.2.2.2.2.2.2.2.2.2.2.1.length * (30001010+3)≤20 * 30001013:=jN hs.sets.1 (by omega)
 have n1:kR s.2.2.2.1=true:=qy 1000 (by omega) _ 0 [] (fun x hx=>hs.names.2 x hx) (by simp) (by have:=hs.names.1; simp; omega)
 have n2:=BS 1000 s.2.2.2.1 (fun x hx=>hs.names.2 x hx)
 have n3:s.2.2.2.1.length * (1000+3)≤20 * 1003:=jN hs.names.1 (by omega)
 have go:∀ op:zo,s.1=op→(∀ z:Bool,z=true→z=true):=fun _ _ _ h=>h
 clear go
 rcases QG hp with ⟨hop,hc⟩ | ⟨hop,hl2⟩ | hop
 ·have hup:(decide (length s.1≤140737488355328)&&List.all s.1 fun b=>decide (b.toNat < 128))=true:=by rw [hop]; decide
  have q0:(s.1==[99,114,101,97,116,101])=true:=by rw [hop]; rfl
  have q1:(s.1==[100,114,111,112])=false:=by rw [hop]; rfl
  have q2:(s.1==[105,110,115,101,114,116])=false:=by rw [hop]; rfl
  have q3:(s.1==[117,112,100,97,116,101])=false:=by rw [hop]; rfl
  have q4:(s.1==[100,101,108,101,116,101])=false:=by rw [hop]; rfl
  have q5:(s.1==[115,101,108,101,99,116])=false:=by rw [hop]; rfl
  have q6:(s.1==[114,101,97,100])=false:=by rw [hop]; rfl
  have q7:(s.1==[119,114,105,116,101])=false:=by rw [hop]; rfl
  have q8:(s.1==[117,110,114,101,97,100])=false:=by rw [hop]; rfl
  have q9:(s.1==[117,110,119,114,105,116,101])=false:=by rw [hop]; rfl
  have q10:(s.1==[99,111,112,121])=false:=by rw [hop]; rfl
  have q11:(s.1==[106,111,105,110])=false:=by rw [hop]; rfl
  have q12:(s.1==[103,114,111,117,112])=false:=by rw [hop]; rfl
  have kc:=xz hs hc
  refine wS ?_
  simp only [vQ,Bh,Tr.val,q0,q1,q2,q3,q4,q5,q6,q7,q8,q9,q10,q11,if_true,zH,if_false,zp]
  repeat' (with_reducible refine gx ?_ ?_)
  all_goals first
   | (refine ⟨_,rfl,?_⟩; exact cv kc.2 (by omega))
   | rfl
   | exact hup
   | exact v1
   | exact e1
   | exact n1
   | exact nb _
   | exact iJ _ (by simp) _
   | exact kc.1
   | (refine aG ?_; simp; omega)
   | (rw [hop]; decide)
   | (refine aG ?_; rw [hop]; simp [dV]; omega)
 ·have hup:(decide (length s.1≤140737488355328)&&List.all s.1 fun b=>decide (b.toNat < 128))=true:=by rw [hop]; decide
  have q0:(s.1==[99,114,101,97,116,101])=false:=by rw [hop]; rfl
  have q1:(s.1==[100,114,111,112])=false:=by rw [hop]; rfl
  have q2:(s.1==[105,110,115,101,114,116])=false:=by rw [hop]; rfl
  have q3:(s.1==[117,112,100,97,116,101])=false:=by rw [hop]; rfl
  have q4:(s.1==[100,101,108,101,116,101])=false:=by rw [hop]; rfl
  have q5:(s.1==[115,101,108,101,99,116])=false:=by rw [hop]; rfl
  have q6:(s.1==[114,101,97,100])=false:=by rw [hop]; rfl
  have q7:(s.1==[119,114,105,116,101])=false:=by rw [hop]; rfl
  have q8:(s.1==[117,110,114,101,97,100])=false:=by rw [hop]; rfl
  have q9:(s.1==[117,110,119,114,105,116,101])=false:=by rw [hop]; rfl
  have q10:(s.1==[99,111,112,121])=false:=by rw [hop]; rfl
  have q11:(s.1==[106,111,105,110])=false:=by rw [hop]; rfl
  have q12:(s.1==[103,114,111,117,112])=true:=by rw [hop]; rfl
  have g0:length (getD s.2.2.2.1 (toNat 0) (zj Sh.str))≤1000:=by
   rw [aJ,zJ (show (0:Int).toNat < s.2.2.2.1.length by rw [hl2]; decide)]
   exact hs.names.2 _ (dg _)
  have g1:length (getD s.2.2.2.1 (toNat 1) (zj Sh.str))≤1000:=by
   rw [aJ,zJ (show (1:Int).toNat < s.2.2.2.1.length by rw [hl2]; decide)]
   exact hs.names.2 _ (dg _)
  refine wS ?_
  simp only [vQ,Bh,Tr.val,q0,q1,q2,q3,q4,q5,q6,q7,q8,q9,q10,q11,zH,if_false,zp]
  repeat' (with_reducible refine gx ?_ ?_)
  all_goals first
   | (refine ⟨_,rfl,?_⟩; first | (simp at g0 g1 ⊢; omega) | (rw [hop]; simp [dV]; omega))
   | rfl
   | exact hup
   | exact v1
   | exact e1
   | exact n1
   | exact nb _
   | exact iJ _ (by simp) _
   | (simp [zI,hl2]; done)
   | (refine aG ?_; simp at g0 g1 ⊢; omega)
   | (rw [hop]; decide)
   | (refine aG ?_; rw [hop]; simp [dV]; omega)
 ·simp only [cY,List.not_mem_nil,or_false] at hop
  rcases hop with hop | hop | hop | hop | hop | hop | hop | hop | hop | hop | hop
  all_goals
   have hup:(decide (length s.1≤140737488355328)&&List.all s.1 fun b=>decide (b.toNat < 128))=true:=by rw [hop]; decide
   have q0:(s.1==[99,114,101,97,116,101])=false:=by rw [hop]; rfl
   first | (have q1:(s.1==[100,114,111,112])=false:=by rw [hop]; rfl) | (have q1:(s.1==[100,114,111,112])=true:=by rw [hop]; rfl)
   first | (have q2:(s.1==[105,110,115,101,114,116])=false:=by rw [hop]; rfl) | (have q2:(s.1==[105,110,115,101,114,116])=true:=by rw [hop]; rfl)
   first | (have q3:(s.1==[117,112,100,97,116,101])=false:=by rw [hop]; rfl) | (have q3:(s.1==[117,112,100,97,116,101])=true:=by rw [hop]; rfl)
   first | (have q4:(s.1==[100,101,108,101,116,101])=false:=by rw [hop]; rfl) | (have q4:(s.1==[100,101,108,101,116,101])=true:=by rw [hop]; rfl)
   first | (have q5:(s.1==[115,101,108,101,99,116])=false:=by rw [hop]; rfl) | (have q5:(s.1==[115,101,108,101,99,116])=true:=by rw [hop]; rfl)
   first | (have q6:(s.1==[114,101,97,100])=false:=by rw [hop]; rfl) | (have q6:(s.1==[114,101,97,100])=true:=by rw [hop]; rfl)
   first | (have q7:(s.1==[119,114,105,116,101])=false:=by rw [hop]; rfl) | (have q7:(s.1==[119,114,105,116,101])=true:=by rw [hop]; rfl)
   first | (have q8:(s.1==[117,110,114,101,97,100])=false:=by rw [hop]; rfl) | (have q8:(s.1==[117,110,114,101,97,100])=true:=by rw [hop]; rfl)
   first | (have q9:(s.1==[117,110,119,114,105,116,101])=false:=by rw [hop]; rfl) | (have q9:(s.1==[117,110,119,114,105,116,101])=true:=by rw [hop]; rfl)
   first | (have q10:(s.1==[99,111,112,121])=false:=by rw [hop]; rfl) | (have q10:(s.1==[99,111,112,121])=true:=by rw [hop]; rfl)
   first | (have q11:(s.1==[106,111,105,110])=false:=by rw [hop]; rfl) | (have q11:(s.1==[106,111,105,110])=true:=by rw [hop]; rfl)
   have q12:(s.1==[103,114,111,117,112])=false:=by rw [hop]; rfl
   refine wS ?_
   simp only [vQ,Bh,Tr.val,q0,q1,q2,q3,q4,q5,q6,q7,q8,q9,q10,q11,if_true,zH,if_false,zp]
   repeat' (with_reducible refine gx ?_ ?_)
   all_goals first
    | (refine ⟨_,rfl,?_⟩; first | (simp; omega) | (rw [hop]; simp [dV]; omega))
    | rfl
    | exact hup
    | exact v1
    | exact e1
    | exact n1
    | exact nb _
    | exact iJ _ (by simp) _
    | (refine aG ?_; simp; omega)
    | (rw [hop]; decide)
    | (refine aG ?_; rw [hop]; simp [dV]; omega)
theorem bm {x:Sem zm} (h1:x.2.1.length≤1000) (h2:x.2.2.1.length≤1000) (h3:x.2.2.2.2.2.1.length≤1000) (h4:x.2.2.2.2.2.2.2.2.2.2.2.2.length≤1000):dt x=true:=by
 unfold dt
 refine gi (aG ?_) (gi (aG ?_) (gi (aG ?_) rfl))
 all_goals first | omega | (simp; omega)

theorem dz {c g:Bool} (h:g=true):(bif c then g else true)=true:=by cases c <;> simp [h]

theorem BM {s:Sem zm} (hs:ey s):jZ s=true:=by
 have t1:=hs.table
 have t2:=hs.other
 have t3:=hs.key
 have t4:=hs.role
 by_cases q0:(s.1==[99,114,101,97,116,101])=true
 ·obtain ⟨hc,_⟩:=bY (s:=s) (g:=_) (b:=_) (by simp only [eD,dR,Tr.val,q0,if_true,zp]; exact rfl)
  rw [hc]
  exact dz (bm (by simp) (by first | exact t2 | simp) (by first | exact t3 | simp) (by first | exact t4 | simp))
 by_cases q1:(s.1==[100,114,111,112])=true
 ·obtain ⟨hc,_⟩:=bY (s:=s) (g:=_) (b:=_) (by simp only [eD,dR,Tr.val,q0,q1,if_true,if_false,zH,zp]; exact rfl)
  rw [hc]
  exact dz (bm (by simp) (by first | exact t2 | simp) (by first | exact t3 | simp) (by first | exact t4 | simp))
 by_cases q2:(s.1==[105,110,115,101,114,116])=true
 ·obtain ⟨hc,_⟩:=bY (s:=s) (g:=_) (b:=_) (by simp only [eD,dR,Tr.val,q0,q1,q2,if_true,if_false,zH,zp]; exact rfl)
  rw [hc]
  exact dz (bm (by simp) (by first | exact t2 | simp) (by first | exact t3 | simp) (by first | exact t4 | simp))
 by_cases q3:(s.1==[117,112,100,97,116,101])=true
 ·obtain ⟨hc,_⟩:=bY (s:=s) (g:=_) (b:=_) (by simp only [eD,dR,Tr.val,q0,q1,q2,q3,if_true,if_false,zH,zp]; exact rfl)
  rw [hc]
  exact dz (bm (by simp) (by first | exact t2 | simp) (by first | exact t3 | simp) (by first | exact t4 | simp))
 by_cases q4:(s.1==[100,101,108,101,116,101])=true
 ·obtain ⟨hc,_⟩:=bY (s:=s) (g:=_) (b:=_) (by simp only [eD,dR,Tr.val,q0,q1,q2,q3,q4,if_true,if_false,zH,zp]; exact rfl)
  rw [hc]
  exact dz (bm (by simp) (by first | exact t2 | simp) (by first | exact t3 | simp) (by first | exact t4 | simp))
 by_cases q5:(s.1==[115,101,108,101,99,116])=true
 ·obtain ⟨hc,_⟩:=bY (s:=s) (g:=_) (b:=_) (by simp only [eD,dR,Tr.val,q0,q1,q2,q3,q4,q5,if_true,if_false,zH,zp]; exact rfl)
  rw [hc]
  exact dz (bm (by simp) (by first | exact t2 | simp) (by first | exact t3 | simp) (by first | exact t4 | simp))
 by_cases q6:(s.1==[114,101,97,100])=true
 ·obtain ⟨hc,_⟩:=bY (s:=s) (g:=_) (b:=_) (by simp only [eD,dR,Tr.val,q0,q1,q2,q3,q4,q5,q6,if_true,if_false,zH,zp]; exact rfl)
  rw [hc]
  exact dz (bm (by simp) (by first | exact t2 | simp) (by first | exact t3 | simp) (by first | exact t4 | simp))
 by_cases q7:(s.1==[119,114,105,116,101])=true
 ·obtain ⟨hc,_⟩:=bY (s:=s) (g:=_) (b:=_) (by simp only [eD,dR,Tr.val,q0,q1,q2,q3,q4,q5,q6,q7,if_true,if_false,zH,zp]; exact rfl)
  rw [hc]
  exact dz (bm (by simp) (by first | exact t2 | simp) (by first | exact t3 | simp) (by first | exact t4 | simp))
 by_cases q8:(s.1==[117,110,114,101,97,100])=true
 ·obtain ⟨hc,_⟩:=bY (s:=s) (g:=_) (b:=_) (by simp only [eD,dR,Tr.val,q0,q1,q2,q3,q4,q5,q6,q7,q8,if_true,if_false,zH,zp]; exact rfl)
  rw [hc]
  exact dz (bm (by simp) (by first | exact t2 | simp) (by first | exact t3 | simp) (by first | exact t4 | simp))
 by_cases q9:(s.1==[117,110,119,114,105,116,101])=true
 ·obtain ⟨hc,_⟩:=bY (s:=s) (g:=_) (b:=_) (by simp only [eD,dR,Tr.val,q0,q1,q2,q3,q4,q5,q6,q7,q8,q9,if_true,if_false,zH,zp]; exact rfl)
  rw [hc]
  exact dz (bm (by simp) (by first | exact t2 | simp) (by first | exact t3 | simp) (by first | exact t4 | simp))
 by_cases q10:(s.1==[99,111,112,121])=true
 ·obtain ⟨hc,_⟩:=bY (s:=s) (g:=_) (b:=_) (by simp only [eD,dR,Tr.val,q0,q1,q2,q3,q4,q5,q6,q7,q8,q9,q10,if_true,if_false,zH,zp]; exact rfl)
  rw [hc]
  exact dz (bm (by simp) (by first | exact t2 | simp) (by first | exact t3 | simp) (by first | exact t4 | simp))
 by_cases q11:(s.1==[106,111,105,110])=true
 ·obtain ⟨hc,_⟩:=bY (s:=s) (g:=_) (b:=_) (by simp only [eD,dR,Tr.val,q0,q1,q2,q3,q4,q5,q6,q7,q8,q9,q10,q11,if_true,if_false,zH,zp]; exact rfl)
  rw [hc]
  exact dz (bm (by simp) (by first | exact t2 | simp) (by first | exact t3 | simp) (by first | exact t4 | simp))
 by_cases q12:(s.1==[103,114,111,117,112])=true
 ·obtain ⟨hc,_⟩:=bY (s:=s) (g:=_) (b:=_) (by simp only [eD,dR,Tr.val,q0,q1,q2,q3,q4,q5,q6,q7,q8,q9,q10,q11,q12,if_true,if_false,zH,zp]; exact rfl)
  rw [hc]
  exact dz (bm (by simp) (by first | exact t2 | simp) (by first | exact t3 | simp) (by first | exact t4 | simp))
 exact (sC (by simp only [eD,dR,Tr.val,q0,q1,q2,q3,q4,q5,q6,q7,q8,q9,q10,q11,q12,if_false,zH])).1

theorem dK {s:Sem zm} (hs:ey s):pc s=true:=by
 unfold pc
 refine gi ?_ rfl
 unfold qw
 refine gi (BM hs) ?_
 split
 ·rfl
 ·rename_i h
  have hp:f7 s=true:=by simpa using h
  obtain ⟨k1,k2⟩:=D2 hs hp
  exact gi k1 (gi (Ko _ k2) rfl)

theorem xk:∀ (es:List ((Int×Int×zo)×Int)) (n:Nat) (x:Int),(iD es n x).length=es.length
 | [],_,_=>rfl
 | _::_,0,_=>rfl
 | _::r,n+1,x=>by simp [iD,xk r n x]
theorem N6 (es:List ((Int×Int×zo)×Int)) (k:Int×Int×zo):(iw es k).length≤es.length+1:=by
 unfold iw
 cases fN es k <;> simp
theorem Au:∀ (es:List ((Int×Int×zo)×Int)) (k:Int×Int×zo),(fN es k=true→jE es k < es.length)∧jE es k≤es.length
 | [],k=>⟨fun h=>by simp [fN] at h,bd _⟩
 | p::r,k=>by
  obtain ⟨h1,h2⟩:=Au r k
  constructor
  ·intro h
   rw [jE]
   cases hk:(k==p.1) with
   | true=>simp
   | false=>
    have:fN r k=true:=by simpa [fN,hk] using h
    have:=h1 this
    simp; omega
  ·rw [jE]
   cases (k==p.1) <;> simp <;> omega
theorem QI (es:List ((Int×Int×zo)×Int)) (k:Int×Int×zo):jE es k < (iw es k).length:=by
 obtain ⟨h1,h2⟩:=Au es k
 unfold iw
 cases h:fN es k with
 | true=>exact h1 h
 | false=>simp; omega

def kF (c:Int) (n:Nat):Prop:=0≤c∧c < n
theorem lw {c:Int} {n:Nat} (h:kF c n):zI c n=true:=by
 simp [zI,h.1,h.2]
theorem sx {a0 a1 a2 a3 a4 a5 a6 a7 a8 a9 b0}:∀ (l:List (Sem zq)) (i:Int),er a0 a1 a2 a3 a4 a5 a6 a7 a8 a9 b0 l i=true→kF a2 a1.length∧∀ f∈l,kF f.1 a1.length
 | [],i,h=>by
  rw [er] at h
  split at h
  ·rename_i h1
   refine ⟨?_,by simp⟩
   unfold kF
   cases h2:decide (a2 ≥ 0) with
   | true=>
    rw [h2] at h1
    simp at h1 h2
    exact ⟨h2,h1⟩
   | false=>rw [h2] at h1; simp at h1
  ·cases h
 | x :: r,i,h=>by
  rw [er] at h
  split at h
  ·cases h
  ·rename_i h1
   split at h
   ·cases h
   ·obtain ⟨h3,h4⟩:=sx r _ h
    refine ⟨h3,fun f hf=>?_⟩
    rcases cY.1 hf with rfl | hf
    ·unfold kF
     cases h2:decide (f.1 ≥ 0) with
     | true=>
      rw [h2] at h1
      simp at h1 h2
      exact ⟨h2,h1⟩
     | false=>rw [h2] at h1; simp at h1
    ·exact h4 f hf
theorem sw {a0 a1 a2 a3 a4 a5 a6 a7 a8 a9 b0}:∀ (l:List (Sem zg)) (i:Int),ek a0 a1 a2 a3 a4 a5 a6 a7 a8 a9 b0 l i=true→kF a2 a1.length∧(∀ f∈a4,kF f.1 a1.length)∧∀ u∈l,kF u a1.length
 | [],i,h=>by
  rw [ek] at h
  obtain ⟨h1,h2⟩:=sx _ _ h
  exact ⟨h1,h2,by simp⟩
 | x :: r,i,h=>by
  rw [ek] at h
  split at h
  ·cases h
  ·rename_i h1
   obtain ⟨h3,h4,h5⟩:=sw r _ h
   refine ⟨h3,h4,fun f hf=>?_⟩
   rcases cY.1 hf with rfl | hf
   ·unfold kF
    cases h2:decide (f ≥ 0) with
    | true=>
     rw [h2] at h1
     simp at h1 h2
     exact ⟨h2,h1⟩
    | false=>rw [h2] at h1; simp at h1
   ·exact h5 f hf
theorem vX {a0 a1 a2 a3 a4 a5 a6 a7 a8 a9 b0}:∀ (l:List (Sem zi)) (i:Int),gk a0 a1 a2 a3 a4 a5 a6 a7 a8 a9 b0 l i=true→kF a2 a1.length∧(∀ f∈a4,kF f.1 a1.length)∧∀ u∈a3,kF u a1.length
 | [],i,h=>by
  rw [gk] at h
  exact sw _ _ h
 | x::r,i,h=>by
  rw [gk] at h
  split at h
  ·cases h
  ·exact vX r _ h
theorem gL {t:Sem zx} (h:gq t=true):kF t.2.2.1 t.2.1.length∧(∀ f∈t.2.2.2.2.1,kF f.1 t.2.1.length)∧(∀ u∈t.2.2.2.1,kF u t.2.1.length)∧t.2.1.length≤8∧1≤t.2.1.length:=by
 unfold gq at h
 split at h
 ·cases h
 ·rename_i h1
  obtain ⟨h2,h3,h4⟩:=vX _ _ h
  refine ⟨h2,h3,h4,?_⟩
  cases hn:bU t.1 with
  | false=>rw [hn] at h1; simp at h1
  | true=>
   rw [hn] at h1
   cases hd:decide ((length t.2.1:Int) < 1) with
   | true=>rw [hd] at h1; simp at h1
   | false=>
    rw [hd] at h1
    simp at h1 hd
    omega
theorem mE {t:Sem zx} {row:List (Sem zf)} (h:(j0 t row != 0)≠true):row.length=t.2.1.length:=by
 simp at h
 unfold j0 at h
 split at h
 ·cases h
 ·rename_i h1
  cases hm:gq t with
  | false=>rw [hm] at h1; simp at h1
  | true=>
   rw [hm] at h1
   simp at h1
   omega

structure cI (x:Sem zh):Prop where
 uq:x.1.2.2.2.1.length≤1000
 rf:x.1.2.2.2.2.1.length≤1000
 rw:x.2.length≤1000


theorem CA (l:List (Sem zh)) (s:zo):zR l s=(-1:Int)∨((0:Int)≤zR l s∧LT.lt (α:=Int) (zR l s) l.length):=by
 have:=lx (fun x:Sem zh=>x.1.1==s) l 0
 simp at this
 exact this

theorem ii {l:List (Sem zh)} {s:zo} (h:(0:Int)≤zR l s):zI (zR l s) (length l)=true:=by
 rcases CA l s with h1 | ⟨h1,h2⟩
 ·rw [h1] at h; omega
 ·simp only [zI,aL,ae]; exact ⟨h1,h2⟩


abbrev aZ (c:Int) (r:List (Sem zf)):Sem zf:=getD r (toNat c) (zj zf)
def AA (rows:List (List (Sem zf))) (c:Int):Prop:=rows.Pairwise fun a b=>(aZ c a).1≠0→aZ c a≠aZ c b

theorem na:∀ (es:List ((Int×Int×zo)×Int)) (k:Int×Int×zo) (x:Int),iD (iw es k) (jE es k) x=iC es k x
 | [],k,x=>by simp [iw,fN,jE,iD,iC]
 | p::r,k,x=>by
  have h:=na r k x
  cases hk:(k==p.1) with
  | true=>
   have e:k=p.1:=dM hk
   simp [iw,fN,jE,iD,iC,e]
  | false=>
   have e:iw (p::r) k=p::iw r k:=by
    simp only [iw,fN,List.any_cons,hk,Bool.false_or]
    cases (r.any fun p=>k==p.1) <;> rfl
   rw [e,jE,iC,hk]
   show p::iD (iw r k) (jE r k) x=p::iC r k x
   rw [h]
theorem At (es:List ((Int×Int×zo)×Int)) (k k':Int×Int×zo) (x:Int):eY (iC es k x) k'=if k'=k then x else eY es k':=by
 induction es with
 | nil=>
  by_cases h:k'=k
  ·subst h; simp [iC,eY]
  ·simp [iC,eY,h]
 | cons p r ih=>
  rw [iC]
  cases hk:(k==p.1) with
  | true=>
   have e:k=p.1:=dM hk
   by_cases h:k'=k
   ·simp [eY,h]
   ·have h2:(k'==p.1)=false:=by rw [← e]; simpa using h
    have h3:(k'==k)=false:=by simpa using h
    simp only [bR,eY,List.find?_cons,h2,h3,if_neg h]
  | false=>
   show eY (p::iC r k x) k'=_
   cases hp:(k'==p.1) with
   | true=>
    have e:k'=p.1:=dM hp
    have h:k'≠k:=by intro h; rw [← h,hp] at hk; cases hk
    simp only [eY,List.find?_cons,hp,if_neg h]
   | false=>
    simp only [eY,List.find?_cons,hp] at ih ⊢
    exact ih

def pZ:List (Sem zf)→List ((Int×Int×zo)×Int)
 | []=>[]
 | v::r=>iC (pZ r) v (IntKind.i64.wrap (eY (pZ r) v+1))
theorem Dy:∀ l:List (Sem zf),(pZ l).length≤l.length
 | []=>bd _
 | v::r=>by
  rw [pZ,← na,xk]
  have:=N6 (pZ r) v
  have:=Dy r
  simp; omega
theorem v8:∀ (l:List (Sem zf)) (v:Sem zf),l.length≤1000000→eY (pZ l) v=(l.count v:Int)
 | [],v,_=>by simp [pZ,eY]
 | u::r,v,h=>by
  simp only [oe] at h
  have h1:=v8 r u (by omega)
  have h2:=v8 r v (by omega)
  have h3:r.count u≤r.length:=List.count_le_length
  rw [pZ,At,h1,h2,zD _ (by unfold zC; omega)]
  by_cases e:v=u
  ·subst e; simp
  ·have e':¬ (u==v)=true:=by intro h; exact e (dM h).symm
   rw [if_neg e,List.count_cons,if_neg e']; rfl

theorem DO {x:Sem zh} {c:Int} (hc:∀ r∈x.2,zI c (length r)=true) (hl:x.2.length≤1000000):∃ b,tE x c=some (b,())∧(b=false↔AA x.2 c):=by
  let key:Nat→Sem zf:=fun i=>aZ c (getD x.2 i (zj zf.sl))
  let mm:Nat→List ((Int×Int×zo)×Int):=fun i=>pZ (((x.2.take i).map (aZ c)).reverse)
  have hm:∀ i,i < x.2.length→mm (i+1)=iC (mm i) (key i) (IntKind.i64.wrap (eY (mm i) (key i)+1)):=by
    intro i hi
    show pZ (((x.2.take (i+1)).map (aZ c)).reverse)=_
    rw [List.take_succ_eq_append_getElem hi,List.map_append,List.reverse_append]
    show pZ (aZ c x.2[i]::_)=_
    rw [pZ]
    have:key i=aZ c x.2[i]:=by
      show aZ c (getD x.2 i _)=_
      rw [aJ,zJ hi,bP]
    rw [this]
    rfl
  have hlen:∀ i,i≤x.2.length→(mm i).length≤i:=by
    intro i hi
    have:=Dy (((x.2.take i).map (aZ c)).reverse)
    simp at this
    have h2:(mm i).length=(pZ (((x.2.take i).map (aZ c)).reverse)).length:=rfl
    simp at h2
    omega
  have hget:∀ i v,i≤x.2.length→eY (mm i) v=((((x.2.take i).map (aZ c)).count v:Nat):Int):=by
    intro i v hi
    show eY (pZ _) v=_
    rw [v8 _ _ (by simp; omega),List.count_reverse]
  have hf:=Ic (t:=sH) (Φ:=fun r=>ap r.2 [Sh.bool] r.1=some (true,())) 1 (fun i=>.h3 c x.2 (x.2.length:Int) (i:Int) (mm i)) (fun i=>(key i).1≠0→((x.2.take i).map (aZ c)).count (key i)=0) x.2.length (by
    intro i hi _
    have k0:getD x.2 (i:Int).toNat (zj zf.sl)=getD x.2 i (zj zf.sl):=by rw [aT]
    have k1:getD x.2 i (zj zf.sl)=x.2[i]:=by rw [aJ,zJ hi,bP]
    have k2:zI c (length x.2[i])=true:=hc _ (dg hi)
    have k3:key i=aZ c x.2[i]:=by show aZ c (getD x.2 i _)=_; rw [k1]
    have k4:zI ((jE (mm i) (key i):Nat):Int) (iw (mm i) (key i)).length=true:=zB (QI _ _)
    have k5:decide ((mm i).length≤1073741824)=true:=ay (by have:=hlen i (by omega); omega)
    have k6:iD (iw (mm i) (key i)) ((jE (mm i) (key i):Nat):Int).toNat (IntKind.i64.wrap (eY (mm i) (key i)+1))=mm (i+1):=by rw [aT,na,hm i hi]
    have k7:eY (mm (i+1)) (key i)=((((x.2.take i).map (aZ c)).count (key i)+1:Nat):Int):=by
      have h3:((x.2.take i).map (aZ c)).count (key i)≤((x.2.take i).map (aZ c)).length:=List.count_le_length
      simp only [ye,rW] at h3
      rw [hm i hi,At,if_pos rfl,hget i _ (by omega),zD _ (by unfold zC; omega)]
    have hv:(sH (.h3 c x.2 (x.2.length:Int) (i:Int) (mm i))).val=if (bif (key i).1 != 0 then decide (((((x.2.take i).map (aZ c)).count (key i)+1:Nat):Int) > 1) else false)=true then some (.inr (.kb true,[])) else some (.inl (.h3 c x.2 (x.2.length:Int) ((i+1:Nat):Int) (mm (i+1)))):=by
      show (sH (.h3 c x.2 _ _ _)).val=_
      unfold sH
      simp only [k0,k1]
      rw [show getD x.2[i] (toNat c) (zj zf)=key i from k3.symm]
      simp only [Tr.val,zT hi,zB hi,k2,k4,k5,if_true,k6,k7]
      rw [zD i (by unfold zC; omega)]
    by_cases h1:(key i).1=0
    · refine .inl ⟨fun h=>absurd h1 h,aF.of ?_⟩
      rw [hv,if_neg (by simp [h1])]
    · by_cases h2:((x.2.take i).map (aZ c)).count (key i)=0
      · refine .inl ⟨fun _=>h2,aF.of ?_⟩
        rw [hv,if_neg (by rw [h2]; simp)]
      · refine .inr ⟨fun h => h2 (h h1),(.kb true,[]),bq.of ?_,rfl⟩
        rw [hv, if_pos (by have:((key i).1 != 0)=true:=by simpa using h1
                           rw [this]; simp only [bR,ae]; omega)])
  have hu:(∀ i,i < x.2.length→(key i).1≠0→((x.2.take i).map (aZ c)).count (key i)=0)↔AA x.2 c:=by
    unfold AA
    rw [List.pairwise_iff_getElem]
    constructor
    · intro h j i hj hi hji hne e
      have k3:key i=aZ c x.2[i]:=by show aZ c (getD x.2 i _)=_; rw [aJ,zJ hi,bP]
      have:=h i hi (by rw [k3,← e]; exact hne)
      rw [List.count_eq_zero,k3,← e] at this
      exact this (fe.2 ⟨_,List.mem_take_iff_getElem.2 ⟨j,by omega,rfl⟩,rfl⟩)
    · intro h i hi hne
      have k3:key i=aZ c x.2[i]:=by show aZ c (getD x.2 i _)=_; rw [aJ,zJ hi,bP]
      rw [List.count_eq_zero]
      intro hmem
      obtain ⟨r,hr,e⟩:=fe.1 hmem
      obtain ⟨j,hj,rfl⟩:=List.mem_take_iff_getElem.1 hr
      rw [k3] at e hne
      exact h j i (by omega) hi (by omega) (by rw [e]; exact hne) e
  have hgo:(Sx x c).val=some (.inl (.h3 c x.2 (x.2.length:Int) ((0:Nat):Int) (mm 0))):=rfl
  rcases hf with ⟨h1,h2⟩ | ⟨h1,r,h2,h3⟩
  · refine ⟨false,?_,fun _=>hu.1 h1,fun _=>rfl⟩
    refine bb hgo (h2.ends (bq.of (r:=(.kb false,[])) ?_)) (by omega) rfl
    show (sH (.h3 c x.2 _ _ _)).val=_
    simp only [sH,Tr.val,zX]
    rfl
  · refine ⟨true,bb hgo h2 (by omega) h3,⟨fun h=>?_,fun h=>absurd (hu.2 h) h1⟩⟩
    cases h

theorem b7 {α:Type} {l:List α} {d:α} {Q:α→Prop}:(∀ i,i < l.length→Q (l.getD i d))↔∀ x∈l,Q x:=by
 constructor
 ·intro h x hx
  obtain ⟨i,hi,rfl⟩:=List.getElem_of_mem hx
  have:=h i hi
  rwa [aJ,zJ hi,bP] at this
 ·intro h i hi
  rw [aJ,zJ hi,bP]
  exact h _ (dg hi)
theorem gT {α:Type} {l:List α} {d:α} {i:Nat} (hi:i < l.length):l.getD i d∈l:=by
 rw [aJ,zJ hi,bP]
 exact dg hi
theorem qG (i:Nat) (h:i < zC):IntKind.i64.wrap (((i+1:Nat):Int) - 1)=(i:Int):=by
 have:zC=9223372036854775807:=rfl
 rw [ue]
 omega

def JP (a b:Sem zf):Prop:=LT.lt (α:=Int) (bc a b) 0
theorem H7 {a b:Sem zf}:decide (GE.ge (α:=Int) (bc a b) 0)=true↔¬ JP a b:=by
 unfold JP
 rw [ae]
 omega

structure cj (x:Sem zh):Prop where
 may:gq x.1=true
 few:x.2.length≤200
 fits:∀ r∈x.2,j0 x.1 r=(0:Int)
 key:AA x.2 x.1.2.2.1
 uniq:∀ u∈x.1.2.2.2.1,AA x.2 u
 rise:∀ i,i < x.2.length - 1→JP (aZ x.1.2.2.1 (getD x.2 i (zj zf.sl))) (aZ x.1.2.2.1 (getD x.2 (i+1) (zj zf.sl)))

def Yk (r:aj):Prop:=∃ e:Int,r=(.int .i64 e,[])∧e≠0

theorem sA {x:Sem zh} (hs:cI x):∃ e:Int,lE x=some (e,())∧(e=0↔cj x):=by
 have hsw:=hs.rw
 have hsu:=hs.uq
 have fin:∀ {k:Nat} {r:aj},bq fM k (.h6 x.2 (x.2.length:Int) ((0:Nat):Int) (x,())) r→k≤100000000→(IZ x).val=some (.inl (.h6 x.2 (x.2.length:Int) ((0:Nat):Int) (x,())))→∀ e:Int,r=(.int .i64 e,[])→lE x=some (e,()):=by
  intro k r h hk hi e he
  subst he
  exact bb hi h hk rfl
 by_cases hm:gq x.1=true
 case neg=>
  refine ⟨1,?_,fun h=>(by cases h),fun h=>absurd h.may hm⟩
  unfold lE zW bh
  simp only [IZ,zp,Tr.val]
  rw [if_pos (by simpa using hm)]
  rfl
 by_cases hw:x.2.length≤200
 case neg=>
  refine ⟨13,?_,fun h=>(by cases h),fun h=>absurd h.few hw⟩
  unfold lE zW bh
  simp only [IZ,zp,Tr.val]
  rw [if_neg (by simpa using hm),if_pos (by simp; omega)]
  rfl
 have hi:(IZ x).val=some (.inl (.h6 x.2 (x.2.length:Int) ((0:Nat):Int) (x,()))):=by
  simp only [IZ,zp,Tr.val]
  rw [if_neg (by simpa using hm),if_neg (by simp; omega)]
  rfl
 obtain ⟨hkc,hrc,huc,_,_⟩:=gL hm
 have h6:=Ic (t:=fM) (Φ:=Yk) 1 (fun i=>.h6 x.2 (x.2.length:Int) (i:Int) (x,())) (fun i=>j0 x.1 (getD x.2 i (zj zf.sl))=(0:Int)) x.2.length (by
  intro i hi _
  have hv:(fM (.h6 x.2 (x.2.length:Int) (i:Int) (x,()))).val=if (j0 x.1 (getD x.2 i (zj zf.sl)) != 0)=true then some (.inr (.int .i64 (j0 x.1 (getD x.2 i (zj zf.sl))),[])) else some (.inl (.h6 x.2 (x.2.length:Int) ((i+1:Nat):Int) (x,()))):=by
   show (fM (.h6 x.2 _ _ _)).val=_
   unfold fM
   simp only [zp,Tr.val,zT hi,zB hi,if_true,aT]
   rw [zD i (by unfold zC; omega)]
  by_cases h:j0 x.1 (getD x.2 i (zj zf.sl))=(0:Int)
  ·refine .inl ⟨h,aF.of ?_⟩
   rw [hv,if_neg (by rw [h]; simp)]
  ·refine .inr ⟨h,_,bq.of (by rw [hv,if_pos (by simpa using h)]),_,rfl,h⟩)
 rcases h6 with ⟨hf,h6⟩ | ⟨hf,r,h6,e,he,hne⟩
 case inr=>
  exact ⟨e,fin h6 (by omega) hi e he,fun h=>absurd h hne,fun h=>absurd ((b7 (Q:=fun r=>j0 x.1 r=(0:Int))).2 h.fits) hf⟩
 have hfits:=(b7 (Q:=fun r=>j0 x.1 r=(0:Int))).1 hf
 have hlen:∀ r∈x.2,length r=x.1.2.1.length:=fun r hr=>mE (by simpa using hfits r hr)
 have hin:∀ c,kF c x.1.2.1.length→∀ r∈x.2,zI c (length r)=true:=fun c hc r hr=>by
  rw [hlen r hr]; exact lw hc
 obtain ⟨b,hb,hbu⟩:=DO (x:=x) (c:=x.1.2.2.1) (hin _ hkc) (by omega)
 have hbc:nH x x.1.2.2.1=true:=by unfold nH; rw [hb]; rfl
 have hbv:rI x x.1.2.2.1=b:=by unfold rI; rw [hb]; rfl
 have hv6:(fM (.h6 x.2 (x.2.length:Int) (x.2.length:Int) (x,()))).val=if b=true then some (.inr (.int .i64 7,[])) else some (.inl (.h15 x.1.2.2.2.1 (x.1.2.2.2.1.length:Int) ((0:Nat):Int) (x,()))):=by
  show (fM (.h6 x.2 _ _ _)).val=_
  unfold fM
  simp only [zp,Tr.val,zX,hbc,hbv,if_true]
  rfl
 by_cases hb1:b=true
 ·refine ⟨7,fin (h6.ends (bq.of (by rw [hv6,if_pos hb1]))) (by omega) hi 7 rfl,fun h=>(by cases h),fun h=>?_⟩
  have:=hbu.2 h.key
  rw [hb1] at this; cases this
 have hkey:AA x.2 x.1.2.2.1:=hbu.1 (by simpa using hb1)
 have g15:aF fM _ (.h6 x.2 (x.2.length:Int) ((0:Nat):Int) (x,())) _:=h6.trans (aF.of (by rw [hv6,if_neg hb1]))
 have h15:=Ic (t:=fM) (Φ:=Yk) 1 (fun i=>.h15 x.1.2.2.2.1 (x.1.2.2.2.1.length:Int) (i:Int) (x,())) (fun i=>AA x.2 (getD x.1.2.2.2.1 i (zj zg))) x.1.2.2.2.1.length (by
  intro i hi _
  obtain ⟨b,hb,hbu⟩:=DO (x:=x) (c:=getD x.1.2.2.2.1 i (zj zg)) (hin _ (huc _ (gT hi))) (by omega)
  have hbc:nH x (getD x.1.2.2.2.1 i (zj zg))=true:=by unfold nH; rw [hb]; rfl
  have hbv:rI x (getD x.1.2.2.2.1 i (zj zg))=b:=by unfold rI; rw [hb]; rfl
  have hv:(fM (.h15 x.1.2.2.2.1 (x.1.2.2.2.1.length:Int) (i:Int) (x,()))).val=if b=true then some (.inr (.int .i64 7,[])) else some (.inl (.h15 x.1.2.2.2.1 (x.1.2.2.2.1.length:Int) ((i+1:Nat):Int) (x,()))):=by
   show (fM (.h15 _ _ _ _)).val=_
   unfold fM
   simp only [zp,Tr.val,zT hi,zB hi,if_true,aT,hbc,hbv]
   rw [zD i (by unfold zC; omega)]
  by_cases h:b=true
  ·refine .inr ⟨fun hu=>?_,_,bq.of (by rw [hv,if_pos h]),7,rfl,by decide⟩
   have:=hbu.2 hu
   rw [h] at this; cases this
  ·exact .inl ⟨hbu.1 (by simpa using h),aF.of (by rw [hv,if_neg h])⟩)
 rcases h15 with ⟨hq,h15⟩ | ⟨hq,r,h15,e,he,hne⟩
 case inr=>
  exact ⟨e,fin (g15.ends h15) (by omega) hi e he,fun h=>absurd h hne,fun h=>absurd ((b7 (Q:=fun u=>AA x.2 u)).2 h.uniq) hq⟩
 have huniq:=(b7 (Q:=fun u=>AA x.2 u)).1 hq
 have hv15:(fM (.h15 x.1.2.2.2.1 (x.1.2.2.2.1.length:Int) (x.1.2.2.2.1.length:Int) (x,()))).val=some (.inl (.h21 ((0+1:Nat):Int) (x,()))):=by
  show (fM (.h15 _ _ _ _)).val=_
  unfold fM
  simp only [Tr.val,zX]
  rfl
 have g21:=(g15.trans h15).trans (aF.of hv15)
 have h21:=Ic (t:=fM) (Φ:=Yk) 1 (fun i=>.h21 ((i+1:Nat):Int) (x,())) (fun i=>JP (aZ x.1.2.2.1 (getD x.2 i (zj zf.sl))) (aZ x.1.2.2.1 (getD x.2 (i+1) (zj zf.sl)))) (x.2.length - 1) (by
  intro i hi _
  have h1:i < x.2.length:=by omega
  have h2:i+1 < x.2.length:=by omega
  have hv:(fM (.h21 ((i+1:Nat):Int) (x,()))).val=if decide (GE.ge (α:=Int) (bc (aZ x.1.2.2.1 (getD x.2 i (zj zf.sl))) (aZ x.1.2.2.1 (getD x.2 (i+1) (zj zf.sl)))) 0)=true then some (.inr (.int .i64 15,[])) else some (.inl (.h21 ((i+1+1:Nat):Int) (x,()))):=by
   show (fM (.h21 _ _)).val=_
   unfold fM
   simp only [qG i (by unfold zC; omega)]
   simp only [Tr.val,zT h2,zB h2,zB h1,aT,hin _ hkc _ (gT h1),hin _ hkc _ (gT h2),if_true]
   rw [zD (i+1) (by unfold zC; omega)]
  by_cases h:JP (aZ x.1.2.2.1 (getD x.2 i (zj zf.sl))) (aZ x.1.2.2.1 (getD x.2 (i+1) (zj zf.sl)))
  ·exact .inl ⟨h,aF.of (by rw [hv,if_neg (fun h2=>H7.1 h2 h)])⟩
  ·exact .inr ⟨h,_,bq.of (by rw [hv,if_pos (H7.2 h)]),15,rfl,by decide⟩)
 rcases h21 with ⟨hr,h21⟩ | ⟨hr,r,h21,e,he,hne⟩
 case inr=>
  exact ⟨e,fin (g21.ends h21) (by omega) hi e he,fun h=>absurd h hne,fun h=>absurd h.rise hr⟩
 have hv21:(fM (.h21 ((x.2.length - 1+1:Nat):Int) (x,()))).val=some (.inr (.int .i64 0,[])):=by
  show (fM (.h21 _ _)).val=_
  unfold fM
  simp only [Tr.val]
  rw [if_neg (by simp; omega)]
 exact ⟨0,fin (g21.ends (h21.ends (bq.of hv21))) (by omega) hi 0 rfl,fun _=>⟨hm,hw,hfits,hkey,huniq,hr⟩,fun _=>rfl⟩

abbrev dr (db:List (Sem zh)) (s:zo):Sem zh:=getD db (toNat (zR db s)) (zj zh)
def mj (db:List (Sem zh)):Prop:=∀ x∈db,∀ f∈x.1.2.2.2.2.1,LE.le (α:=Int) 0 (zR db f.2)∧∀ row∈x.2,(aZ f.1 row).1≠0→mh (dr db f.2) (dr db f.2).1.2.2.1 (aZ f.1 row)=true

def Yd (r:aj):Prop:=r=(.kb false,[])

theorem Pu {db:List (Sem zh)} {x:Sem zh} {f:Sem zq} {i k:Nat} (hf:LE.le (α:=Int) 0 (zR db f.2)) (hc:∀ row∈x.2,zI f.1 (length row)=true) (hl:x.2.length≤1000):
  ((∀ j,j < x.2.length→(aZ f.1 (getD x.2 j (zj zf.sl))).1≠0→mh (dr db f.2) (dr db f.2).1.2.2.1 (aZ f.1 (getD x.2 j (zj zf.sl)))=true)∧
   aF fj (x.2.length * 1) (.h11 db (zR db f.2) db (db.length:Int) (i:Int) x.1.2.2.2.2.1 (x.1.2.2.2.2.1.length:Int) (k:Int) x.2 (x.2.length:Int) ((0:Nat):Int) (x,()) (f,()))
    (.h11 db (zR db f.2) db (db.length:Int) (i:Int) x.1.2.2.2.2.1 (x.1.2.2.2.2.1.length:Int) (k:Int) x.2 (x.2.length:Int) (x.2.length:Int) (x,()) (f,())))∨
  ((¬ ∀ j,j < x.2.length→(aZ f.1 (getD x.2 j (zj zf.sl))).1≠0→mh (dr db f.2) (dr db f.2).1.2.2.1 (aZ f.1 (getD x.2 j (zj zf.sl)))=true)∧
   ∃ r,bq fj (x.2.length * 1) (.h11 db (zR db f.2) db (db.length:Int) (i:Int) x.1.2.2.2.2.1 (x.1.2.2.2.2.1.length:Int) (k:Int) x.2 (x.2.length:Int) ((0:Nat):Int) (x,()) (f,())) r∧Yd r):=by
 refine Ic (t:=fj) (Φ:=Yd) 1 (fun j=>.h11 db (zR db f.2) db (db.length:Int) (i:Int) x.1.2.2.2.2.1 (x.1.2.2.2.2.1.length:Int) (k:Int) x.2 (x.2.length:Int) (j:Int) (x,()) (f,())) (fun j=>(aZ f.1 (getD x.2 j (zj zf.sl))).1≠0→mh (dr db f.2) (dr db f.2).1.2.2.1 (aZ f.1 (getD x.2 j (zj zf.sl)))=true) x.2.length ?_
 intro j hj _
 have hv:(fj (.h11 db (zR db f.2) db (db.length:Int) (i:Int) x.1.2.2.2.2.1 (x.1.2.2.2.2.1.length:Int) (k:Int) x.2 (x.2.length:Int) (j:Int) (x,()) (f,()))).val=
   if (bif (aZ f.1 (getD x.2 j (zj zf.sl))).1 != 0 then !mh (dr db f.2) (dr db f.2).1.2.2.1 (aZ f.1 (getD x.2 j (zj zf.sl))) else false)=true then some (.inr (.kb false,[])) else
   some (.inl (.h11 db (zR db f.2) db (db.length:Int) (i:Int) x.1.2.2.2.2.1 (x.1.2.2.2.2.1.length:Int) (k:Int) x.2 (x.2.length:Int) ((j+1:Nat):Int) (x,()) (f,()))):=by
  show (fj (.h11 _ _ _ _ _ _ _ _ _ _ _ _ _)).val=_
  unfold fj
  simp only [zp,Tr.val,zT hj,zB hj,hc _ (gT hj),ii hf,aT,if_true,og]
  rw [if_pos (by cases ((getD (getD x.2 j (zj zf.sl)) (toNat f.1) (zj zf)).1 != 0) <;> rfl)]
  rw [zD j (by unfold zC; omega)]
 by_cases h1:(aZ f.1 (getD x.2 j (zj zf.sl))).1=0
 ·exact .inl ⟨fun h=>absurd h1 h,aF.of (by rw [hv,if_neg (by rw [h1]; simp)])⟩
 ·have h1':((aZ f.1 (getD x.2 j (zj zf.sl))).1 != 0)=true:=by simpa using h1
  by_cases h2:mh (dr db f.2) (dr db f.2).1.2.2.1 (aZ f.1 (getD x.2 j (zj zf.sl)))=true
  ·exact .inl ⟨fun _=>h2,aF.of (by rw [hv,if_neg (by rw [h2,h1']; simp)])⟩
  ·exact .inr ⟨fun h=>h2 (h h1),_,bq.of (by rw [hv,if_pos (by rw [h1']; simpa using h2)]),rfl⟩

theorem Vv {db:List (Sem zh)} {x:Sem zh} {i:Nat} (hc:∀ f∈x.1.2.2.2.2.1,∀ row∈x.2,zI f.1 (length row)=true) (hl:x.2.length≤1000) (hr:x.1.2.2.2.2.1.length≤1000):
  let P:Nat→Prop:=fun k=>LE.le (α:=Int) 0 (zR db (getD x.1.2.2.2.2.1 k (zj zq)).2)∧∀ row∈x.2,(aZ (getD x.1.2.2.2.2.1 k (zj zq)).1 row).1≠0→mh (dr db (getD x.1.2.2.2.2.1 k (zj zq)).2) (dr db (getD x.1.2.2.2.2.1 k (zj zq)).2).1.2.2.1 (aZ (getD x.1.2.2.2.2.1 k (zj zq)).1 row)=true
  ((∀ k,k < x.1.2.2.2.2.1.length→P k)∧aF fj (x.1.2.2.2.2.1.length * 1002) (.h5 db db (db.length:Int) (i:Int) x.1.2.2.2.2.1 (x.1.2.2.2.2.1.length:Int) ((0:Nat):Int) (x,())) (.h5 db db (db.length:Int) (i:Int) x.1.2.2.2.2.1 (x.1.2.2.2.2.1.length:Int) (x.1.2.2.2.2.1.length:Int) (x,())))∨
  ((¬ ∀ k,k < x.1.2.2.2.2.1.length→P k)∧∃ r,bq fj (x.1.2.2.2.2.1.length * 1002) (.h5 db db (db.length:Int) (i:Int) x.1.2.2.2.2.1 (x.1.2.2.2.2.1.length:Int) ((0:Nat):Int) (x,())) r∧Yd r):=by
 intro P
 refine Ic (t:=fj) (Φ:=Yd) 1002 (fun k=>.h5 db db (db.length:Int) (i:Int) x.1.2.2.2.2.1 (x.1.2.2.2.2.1.length:Int) (k:Int) (x,())) P x.1.2.2.2.2.1.length ?_
 intro k hk _
 have hv:(fj (.h5 db db (db.length:Int) (i:Int) x.1.2.2.2.2.1 (x.1.2.2.2.2.1.length:Int) (k:Int) (x,()))).val=
   if decide (LT.lt (α:=Int) (zR db (getD x.1.2.2.2.2.1 k (zj zq)).2) 0)=true then some (.inr (.kb false,[])) else
   some (.inl (.h11 db (zR db (getD x.1.2.2.2.2.1 k (zj zq)).2) db (db.length:Int) (i:Int) x.1.2.2.2.2.1 (x.1.2.2.2.2.1.length:Int) (k:Int) x.2 (x.2.length:Int) ((0:Nat):Int) (x,()) (getD x.1.2.2.2.2.1 k (zj zq),()))):=by
  show (fj (.h5 _ _ _ _ _ _ _ _)).val=_
  unfold fj
  simp only [Tr.val,zT hk,zB hk,aT,if_true]
  rfl
 by_cases h1:LE.le (α:=Int) 0 (zR db (getD x.1.2.2.2.2.1 k (zj zq)).2)
 ·have g1:=aF.of (t:=fj) (s:=.h5 db db (db.length:Int) (i:Int) x.1.2.2.2.2.1 (x.1.2.2.2.2.1.length:Int) (k:Int) (x,())) (by rw [hv,if_neg (by rw [ae]; omega)])
  rcases Pu (db:=db) (x:=x) (f:=getD x.1.2.2.2.2.1 k (zj zq)) (i:=i) (k:=k) h1 (hc _ (gT hk)) hl with ⟨h2,h3⟩ | ⟨h2,r,h3,h4⟩
  ·have hv2:(fj (.h11 db (zR db (getD x.1.2.2.2.2.1 k (zj zq)).2) db (db.length:Int) (i:Int) x.1.2.2.2.2.1 (x.1.2.2.2.2.1.length:Int) (k:Int) x.2 (x.2.length:Int) (x.2.length:Int) (x,()) (getD x.1.2.2.2.2.1 k (zj zq),()))).val=
     some (.inl (.h5 db db (db.length:Int) (i:Int) x.1.2.2.2.2.1 (x.1.2.2.2.2.1.length:Int) ((k+1:Nat):Int) (x,()))):=by
    show (fj (.h11 _ _ _ _ _ _ _ _ _ _ _ _ _)).val=_
    unfold fj
    simp only [Tr.val,zX]
    rw [zD k (by unfold zC; omega)]
    rfl
   refine .inl ⟨⟨h1,?_⟩,((g1.trans h3).trans (aF.of hv2)).mono (by omega)⟩
   exact (b7 (Q:=fun row=>(aZ (getD x.1.2.2.2.2.1 k (zj zq)).1 row).1≠0→mh (dr db (getD x.1.2.2.2.2.1 k (zj zq)).2) (dr db (getD x.1.2.2.2.2.1 k (zj zq)).2).1.2.2.1 (aZ (getD x.1.2.2.2.2.1 k (zj zq)).1 row)=true)).1 h2
  ·refine .inr ⟨fun h=>h2 ?_,r,(g1.ends h3).mono (by omega),h4⟩
   exact (b7 (Q:=fun row=>(aZ (getD x.1.2.2.2.2.1 k (zj zq)).1 row).1≠0→mh (dr db (getD x.1.2.2.2.2.1 k (zj zq)).2) (dr db (getD x.1.2.2.2.2.1 k (zj zq)).2).1.2.2.1 (aZ (getD x.1.2.2.2.2.1 k (zj zq)).1 row)=true)).2 h.2
 ·exact .inr ⟨fun h=>h1 h.1,_,(bq.of (by rw [hv,if_pos (by rw [ae]; omega)])).mono (by omega),rfl⟩

theorem g5 {db:List (Sem zh)} (hc:∀ x∈db,∀ f∈x.1.2.2.2.2.1,∀ row∈x.2,zI f.1 (length row)=true) (hs:∀ x∈db,cI x) (hl:db.length≤13):∃ b,pu db=some (b,())∧(b=true↔mj db):=by
 have h2:=Ic (t:=fj) (Φ:=Yd) 1010000 (fun i=>.h2 db db (db.length:Int) (i:Int)) (fun i=>∀ f∈(getD db i (zj zh)).1.2.2.2.2.1,LE.le (α:=Int) 0 (zR db f.2)∧∀ row∈(getD db i (zj zh)).2,(aZ f.1 row).1≠0→mh (dr db f.2) (dr db f.2).1.2.2.1 (aZ f.1 row)=true) db.length (by
  intro i hi _
  have hm:=gT (d:=zj zh) hi
  have hS:=hs _ hm
  have s1:=hS.rf
  have s2:=hS.rw
  have hv:(fj (.h2 db db (db.length:Int) (i:Int))).val=some (.inl (.h5 db db (db.length:Int) (i:Int) (getD db i (zj zh)).1.2.2.2.2.1 ((getD db i (zj zh)).1.2.2.2.2.1.length:Int) ((0:Nat):Int) (getD db i (zj zh),()))):=by
   show (fj (.h2 _ _ _ _)).val=_
   unfold fj
   simp only [Tr.val,zT hi,zB hi,aT,if_true]
   rfl
  have g1:=aF.of hv
  rcases Vv (db:=db) (x:=getD db i (zj zh)) (i:=i) (hc _ hm) s2 s1 with ⟨h2,h3⟩ | ⟨h2,r,h3,h4⟩
  ·have hv2:(fj (.h5 db db (db.length:Int) (i:Int) (getD db i (zj zh)).1.2.2.2.2.1 ((getD db i (zj zh)).1.2.2.2.2.1.length:Int) ((getD db i (zj zh)).1.2.2.2.2.1.length:Int) (getD db i (zj zh),()))).val=some (.inl (.h2 db db (db.length:Int) ((i+1:Nat):Int))):=by
    show (fj (.h5 _ _ _ _ _ _ _ _)).val=_
    unfold fj
    simp only [Tr.val,zX]
    rw [zD i (by unfold zC; omega)]
    rfl
   refine .inl ⟨?_,((g1.trans h3).trans (aF.of hv2)).mono (by omega)⟩
   exact (b7 (Q:=fun f:Sem zq=>LE.le (α:=Int) 0 (zR db f.2)∧∀ row∈(getD db i (zj zh)).2,(aZ f.1 row).1≠0→mh (dr db f.2) (dr db f.2).1.2.2.1 (aZ f.1 row)=true)).1 h2
  ·refine .inr ⟨fun h=>h2 ?_,r,(g1.ends h3).mono (by omega),h4⟩
   exact (b7 (Q:=fun f:Sem zq=>LE.le (α:=Int) 0 (zR db f.2)∧∀ row∈(getD db i (zj zh)).2,(aZ f.1 row).1≠0→mh (dr db f.2) (dr db f.2).1.2.2.1 (aZ f.1 row)=true)).2 h)
 have hb:(∀ i,i < db.length→∀ f∈(getD db i (zj zh)).1.2.2.2.2.1,LE.le (α:=Int) 0 (zR db f.2)∧∀ row∈(getD db i (zj zh)).2,(aZ f.1 row).1≠0→mh (dr db f.2) (dr db f.2).1.2.2.1 (aZ f.1 row)=true)↔mj db:=
  b7 (Q:=fun x:Sem zh=>∀ f∈x.1.2.2.2.2.1,LE.le (α:=Int) 0 (zR db f.2)∧∀ row∈x.2,(aZ f.1 row).1≠0→mh (dr db f.2) (dr db f.2).1.2.2.1 (aZ f.1 row)=true)
 have hi:(zdb db).val=some (.inl (.h2 db db (db.length:Int) ((0:Nat):Int))):=rfl
 rcases h2 with ⟨h2,h3⟩ | ⟨h2,r,h3,h4⟩
 ·refine ⟨true,bb hi (h3.ends (bq.of (r:=(.kb true,[])) ?_)) (by omega) rfl,fun _=>hb.1 h2,fun _=>rfl⟩
  show (fj (.h2 _ _ _ _)).val=_
  unfold fj
  simp only [Tr.val,zX]
  rfl
 ·unfold Yd at h4
  subst h4
  exact ⟨false,bb hi h3 (by omega) rfl,fun h=>(by cases h),fun h=>absurd (hb.2 h) h2⟩

structure aM (db:List (Sem zh)):Prop where
 few:db.length≤12
 names:∀ i,i < db.length - 1→Op.bytesLess (getD db i (zj zh)).1.1 (getD db (i+1) (zj zh)).1.1=true
 rels:∀ x∈db,cj x
 bound:mj db

theorem cj.cols {x:Sem zh} (h:cj x):∀ f∈x.1.2.2.2.2.1,∀ row∈x.2,zI f.1 (length row)=true:=by
 intro f hf row hr
 obtain ⟨_,h1,_,_,_⟩:=gL h.may
 rw [mE (by simpa using h.fits row hr)]
 exact lw (h1 f hf)

theorem r7 {db:List (Sem zh)} (hs:∀ x∈db,cI x):∃ e:Int,py db=some (e,())∧(e=0↔aM db):=by
 by_cases hw:db.length≤12
 case neg=>
  refine ⟨13,?_,fun h=>(by cases h),fun h=>absurd h.few hw⟩
  unfold py zW bh
  simp only [P0,Tr.val]
  rw [if_pos (by simp; omega)]
  rfl
 have hi:(P0 db).val=some (.inl (.h4 db ((0+1:Nat):Int))):=by
  simp only [P0,Tr.val]
  rw [if_neg (by simp; omega)]
  rfl
 have h4:=Ic (t:=lI) (Φ:=Yk) 1 (fun i=>.h4 db ((i+1:Nat):Int)) (fun i=>Op.bytesLess (getD db i (zj zh)).1.1 (getD db (i+1) (zj zh)).1.1=true) (db.length - 1) (by
  intro i hi _
  have h1:i < db.length:=by omega
  have h2:i+1 < db.length:=by omega
  have hv:(lI (.h4 db ((i+1:Nat):Int))).val=if (!Op.bytesLess (getD db i (zj zh)).1.1 (getD db (i+1) (zj zh)).1.1)=true then some (.inr (.int .i64 15,[])) else some (.inl (.h4 db ((i+1+1:Nat):Int))):=by
   show (lI (.h4 _ _)).val=_
   unfold lI
   simp only [qG i (by unfold zC; omega)]
   simp only [Tr.val,zT h2,zB h2,zB h1,aT,if_true]
   rw [zD (i+1) (by unfold zC; omega)]
  by_cases h:Op.bytesLess (getD db i (zj zh)).1.1 (getD db (i+1) (zj zh)).1.1=true
  ·exact .inl ⟨h,aF.of (by rw [hv,if_neg (by rw [h]; simp)])⟩
  ·exact .inr ⟨h,_,bq.of (by rw [hv,if_pos (by simpa using h)]),15,rfl,by decide⟩)
 rcases h4 with ⟨hn,h4⟩ | ⟨hn,r,h4,e,he,hne⟩
 case inr=>
  subst he
  exact ⟨e,bb hi h4 (by omega) rfl,fun h=>absurd h hne,fun h=>absurd h.names hn⟩
 have hv4:(lI (.h4 db ((db.length - 1+1:Nat):Int))).val=some (.inl (.h9 db db (db.length:Int) ((0:Nat):Int))):=by
  show (lI (.h4 _ _)).val=_
  unfold lI
  simp only [Tr.val]
  rw [if_neg (by simp; omega)]
  rfl
 have g9:=h4.trans (aF.of hv4)
 have h9:=Ic (t:=lI) (Φ:=Yk) 1 (fun i=>.h9 db db (db.length:Int) (i:Int)) (fun i=>cj (getD db i (zj zh))) db.length (by
  intro i hi _
  obtain ⟨e,he,heq⟩:=sA (hs _ (gT (d:=zj zh) hi))
  have hc:nG (getD db i (zj zh))=true:=by unfold nG; rw [he]; rfl
  have hv0:rH (getD db i (zj zh))=e:=by unfold rH; rw [he]; rfl
  have hv:(lI (.h9 db db (db.length:Int) (i:Int))).val=if (e != 0)=true then some (.inr (.int .i64 e,[])) else some (.inl (.h9 db db (db.length:Int) ((i+1:Nat):Int))):=by
   show (lI (.h9 _ _ _ _)).val=_
   unfold lI
   simp only [zp,Tr.val,zT hi,zB hi,aT,if_true,Prod.eta,hc,hv0]
   rw [zD i (by unfold zC; omega)]
  by_cases h:e=0
  ·exact .inl ⟨heq.1 h,aF.of (by rw [hv,if_neg (by rw [h]; simp)])⟩
  ·exact .inr ⟨fun hr=>h (heq.2 hr),_,bq.of (by rw [hv,if_pos (by simpa using h)]),e,rfl,h⟩)
 rcases h9 with ⟨hr,h9⟩ | ⟨hr,r,h9,e,he,hne⟩
 case inr=>
  subst he
  exact ⟨e,bb hi (g9.ends h9) (by omega) rfl,fun h=>absurd h hne,fun h=>absurd ((b7 (Q:=cj)).2 h.rels) hr⟩
 have hrels:=(b7 (Q:=cj)).1 hr
 obtain ⟨b,hb,hbb⟩:=g5 (db:=db) (fun x hx=>(hrels x hx).cols) hs (by omega)
 have hc:nh db=true:=by unfold nh; rw [hb]; rfl
 have hv0:qL db=b:=by unfold qL; rw [hb]; rfl
 have hv9:(lI (.h9 db db (db.length:Int) (db.length:Int))).val=if (!b)=true then some (.inr (.int .i64 10,[])) else some (.inr (.int .i64 0,[])):=by
  show (lI (.h9 _ _ _ _)).val=_
  unfold lI
  simp only [Tr.val,zX,hc,hv0,if_true]
  rfl
 by_cases h:b=true
 ·exact ⟨0,bb hi (g9.ends (h9.ends (bq.of (by rw [hv9,if_neg (by rw [h]; simp)])))) (by omega) rfl,fun _=>⟨hw,hn,hrels,hbb.1 h⟩,fun _=>rfl⟩
 ·exact ⟨10,bb hi (g9.ends (h9.ends (bq.of (by rw [hv9,if_pos (by simpa using h)])))) (by omega) rfl,fun h=>(by cases h),fun hB=>absurd (hbb.2 hB.bound) h⟩
theorem dh {db:List (Sem zh)} (hs:∀ x∈db,cI x):lg db=true:=by
 obtain ⟨e,h,_⟩:=r7 hs
 unfold lg; rw [h]; rfl
theorem fH {db:List (Sem zh)} (hs:∀ x∈db,cI x):fx db=(0:Int)↔aM db:=by
 obtain ⟨e,h,h2⟩:=r7 hs
 unfold fx; rw [h]; exact h2
set_option maxHeartbeats 1000000

theorem eJ:∀ s:zo,Op.bytesLess s s=false
 | []=>rfl
 | a::r=>by simp [Op.bytesLess,eJ r]
theorem ig {α:Type} (l:List α) (d:α) {i:Nat} (h:i < l.length):l.getD ((i:Int).toNat) d=l[i]:=by
 rw [aT,aJ,zJ h,bP]
theorem Dl {α:Type} (l:List α) (d:α) {i:Nat} (h:i < l.length):l.getD i d∈l:=by
 rw [aJ,zJ h,bP]
 exact dg h
theorem o6 {α β:Type} (f:α→β) (p:β→Bool):∀ (l:List α) (i:Nat),zL p (l.map f) i=zL (fun x=>p (f x)) l i
 | [],_=>rfl
 | x::r,i=>by simp only [jO,zL,o6 f p r]
theorem D6 {s:Sem zm} (h:eU s=true):f7 s=true:=by
 unfold eU pd at h
 by_cases hp:f7 s=true
 ·exact hp
 ·exfalso
  simp only [Bool.not_eq_true] at hp
  simp [hp] at h
theorem kE {db:List (Sem zh)} {s:zo} (h:(0:Int)≤zR db s):db.getD (toNat (zR db s)) (zj zh)∈db:=by
 have:=ii h
 simp only [zI,aL,ae] at this
 exact Dl _ _ (by omega)

theorem fq:∀ {a b c:zo},Op.bytesLess a b=true→Op.bytesLess b c=true→Op.bytesLess a c=true
 | _,[],_,h,_=>by cases ‹zo› <;> simp [Op.bytesLess] at h
 | _,_::_,[],_,h=>by simp [Op.bytesLess] at h
 | [],_::_,_::_,_,_=>rfl
 | a::x,b::y,c::z,h,g=>by
  simp only [Op.bytesLess,rX,ae,aL,eT] at h g ⊢
  rcases h with h | ⟨rfl,h⟩
  ·rcases g with g | ⟨rfl,g⟩
   ·exact .inl (UInt8.lt_trans h g)
   ·exact .inl h
  ·rcases g with g | ⟨rfl,g⟩
   ·exact .inl g
   ·exact .inr ⟨rfl,fq h g⟩

def Lx (p q:Int×Int×zo):Prop:=p.1 < q.1∨(p.1=q.1∧(p.2.1 < q.2.1∨(p.2.1=q.2.1∧Op.bytesLess p.2.2 q.2.2=true)))
theorem Lx.trans {p q r:Int×Int×zo} (h:Lx p q) (g:Lx q r):Lx p r:=by
 unfold Lx at *
 rcases h with h | ⟨h1,h | ⟨h2,h⟩⟩ <;> rcases g with g | ⟨g1,g | ⟨g2,g⟩⟩
 ·exact .inl (by omega)
 ·exact .inl (by omega)
 ·exact .inl (by omega)
 ·exact .inl (by omega)
 ·exact .inr ⟨by omega,.inl (by omega)⟩
 ·exact .inr ⟨by omega,.inl (by omega)⟩
 ·exact .inl (by omega)
 ·exact .inr ⟨by omega,.inl (by omega)⟩
 ·exact .inr ⟨by omega,.inr ⟨by omega,fq h g⟩⟩
theorem Lx.irrefl {p:Int×Int×zo}:¬ Lx p p:=by
 unfold Lx
 rw [eJ]
 rintro (h | ⟨_,h | ⟨_,h⟩⟩)
 ·omega
 ·omega
 ·cases h
theorem GK (a b:Int):Iq a b=if a < b then -1 else if b < a then 1 else 0:=by
 show (if (a != a)=true then _ else if (b != b)=true then (1:Int) else if decide (a < b)=true then -1 else if decide (a > b)=true then 1 else 0)=_
 simp
theorem Kj (a b:Int):yj a b=if a < b then -1 else if b < a then 1 else 0:=GK a b
theorem PC (a b:zo):(AG a b=-1∧Op.bytesLess a b=true)∨(AG a b=0∧a=b)∨(AG a b=1∧Op.bytesLess a b=false):=by
 have:AG a b=if Op.bytesLess a b=true then -1 else if (!(Op.bytesLess a b||a==b))=true then 1 else 0:=by
  show (if (!a==a)=true then _ else if (!b==b)=true then (1:Int) else if Op.bytesLess a b=true then -1 else if (!(Op.bytesLess a b||a==b))=true then 1 else 0)=_
  simp
 rw [this]
 cases h:Op.bytesLess a b with
 | true=>exact .inl ⟨rfl,rfl⟩
 | false=>
  by_cases e:a=b
  ·exact .inr (.inl ⟨by simp [e],e⟩)
  ·exact .inr (.inr ⟨by simp [e],rfl⟩)
theorem XI (k n k' n':Int) (s s':zo):(S6 [Iq k k',yj n n',AG s s'] < 0)↔Lx (k,n,s) (k',n',s'):=by
 show _↔(k < k'∨(k=k'∧(n < n'∨(n=n'∧Op.bytesLess s s'=true))))
 rw [GK,Kj]
 simp only [S6]
 have irr:=eJ s'
 rcases Int.lt_trichotomy k k' with h | h | h
 ·simp [h]
 ·subst h
  rcases Int.lt_trichotomy n n' with g | g | g
  ·simp [g]
  ·subst g
   rcases PC s s' with ⟨e,f⟩ | ⟨e,f⟩ | ⟨e,f⟩
   ·simp [e,f]
   ·subst f; simp [e,irr]
   ·simp [e,f]
  ·have:¬ n < n':=by omega
   have:n≠n':=by omega
   simp [*]
 ·have:¬ k < k':=by omega
  have:k≠k':=by omega
  simp [*]
theorem tQ {a b:Sem zf}:JP a b↔Lx (bF a) (bF b):=XI (bF a).1 (bF a).2.1 (bF b).1 (bF b).2.1 (bF a).2.2 (bF b).2.2
theorem nU {a b c:Sem zf} (h:JP a b) (g:JP b c):JP a c:=tQ.2 ((tQ.1 h).trans (tQ.1 g))
theorem pg {a:Sem zf}:¬ JP a a:=fun h=>Lx.irrefl (tQ.1 h)

theorem nL {α:Type} {R:α→α→Prop} (ht:∀ {a b c},R a b→R b c→R a c) {d:α}:∀ {l:List α},(∀ i,i < l.length - 1→R (l.getD i d) (l.getD (i+1) d))↔l.Pairwise R
 | []=>by simp
 | [a]=>by simp
 | a::b::r=>by
  have IH:=nL (R:=R) ht (d:=d) (l:=b::r)
  constructor
  ·intro h
   have h0:=h 0 (by simp)
   have h1:(b::r).Pairwise R:=IH.1 fun i hi=>h (i+1) (by simp only [oe] at hi ⊢; omega)
   refine List.pairwise_cons.2 ⟨fun x hx=>?_,h1⟩
   rcases cY.1 hx with rfl | hx
   ·exact h0
   ·exact ht h0 ((List.pairwise_cons.1 h1).1 x hx)
  ·intro h i hi
   obtain ⟨h0,h1⟩:=List.pairwise_cons.1 h
   cases i with
   | zero=>exact h0 b (by simp)
   | succ i=>exact IH.2 h1 i (by simp only [oe] at hi ⊢; omega)

def L4 (k:Int) (a b:List (Sem zf)):Prop:=JP (aZ k a) (aZ k b)
theorem cj.pw {x:Sem zh} (h:cj x):x.2.Pairwise (L4 x.1.2.2.1):=(nL (R:=L4 x.1.2.2.1) nU).1 h.rise

theorem cj.sub {t:Sem zx} {l l':List (List (Sem zf))} (h:cj (t,l)) (hs:List.Sublist l' l):cj (t,l') where
 may:=h.may
 few:=cv hs.length_le h.few
 fits:=fun r hr=>h.fits r (hs.subset hr)
 key:=List.Pairwise.sublist hs h.key
 uniq:=fun u hu=>List.Pairwise.sublist hs (h.uniq u hu)
 rise:=(nL (R:=L4 t.2.2.1) nU).2 (List.Pairwise.sublist hs h.pw)

theorem y8 (db:List (Sem zh)) (i:Nat):(db.getD i (zj zh)).1=(db.map (·.1)).getD i (zj zh).1:=by
 rw [aJ,aJ,de]
 cases db[i]? <;> rfl
theorem uo (db:List (Sem zh)) (s:zo):zR db s=zL (fun t:Sem zx=>t.1==s) (db.map (·.1)) 0:=(o6 (fun x:Sem zh=>x.1) (fun t:Sem zx=>t.1==s) db 0).symm
theorem Dt {db:List (Sem zh)} {i:Nat} {x:Sem zh} (h:(db.getD i (zj zh)).1=x.1):(db.set i x).map (·.1)=db.map (·.1):=by
 rw [List.map_set]
 refine x8 fun j=>?_
 rw [jJ]
 by_cases e:i=j
 ·subst e
  rw [if_pos rfl]
  by_cases hi:i < (db.map (·.1)).length
  ·rw [if_pos hi,zJ hi,← h]
   congr 1
   have hi':i < db.length:=by simpa using hi
   rw [aJ,zJ hi',List.getElem_map]
   rfl
  ·rw [if_neg hi,dd (by omega)]
 ·rw [if_neg e]

theorem aM.put {db:List (Sem zh)} {i:Nat} {x:Sem zh} (h:aM db) (ht:(db.getD i (zj zh)).1=x.1) (hx:cj x) (hb:mj (db.set i x)):aM (db.set i x) where
 few:=by rw [jM]; exact h.few
 names:=fun j hj=>by
  rw [jM] at hj
  have:=h.names j hj
  rw [y8,y8] at this ⊢
  rwa [Dt ht]
 rels:=fun y hy=>by
  rcases mr hy with hy | rfl
  ·exact h.rels y hy
  ·exact hx
 bound:=hb
theorem Im {db:List (Sem zh)} {i:Nat} {x:Sem zh} (ht:(db.getD i (zj zh)).1=x.1) (s:zo):zR (db.set i x) s=zR db s:=by
 rw [uo,uo,Dt ht]

def rt (es:List (V×Int)) (ks:List V):List (V×Int):=ks.foldl (fun es k=>iC es k 0) es
theorem Eh {k:V} {n:Int}:∀ {es:List (V×Int)},(∀ p∈es,p.1≠k)→iC es k n=es++[(k,n)]
 | [],_=>rfl
 | p::r,h=>by
  have h1:(k==p.1)=false:=by simpa using fun e=>h p (by simp) e.symm
  show (bif k==p.1 then _ else _)=_
  rw [h1]
  show p::iC r k n=_
  rw [Eh fun q hq=>h q (by simp [hq])]
  rfl
theorem Dp:∀ (ks:List V) (es:List (V×Int)),ks.Pairwise (· ≠ ·)→(∀ p∈es,∀ k∈ks,p.1≠k)→rt es ks=es++ks.map fun k=>(k,0)
 | [],es,_,_=>by simp [rt]
 | k::r,es,hp,h=>by
  obtain ⟨h0,h1⟩:=List.pairwise_cons.1 hp
  show rt (iC es k 0) r=_
  rw [Eh fun p hp=>h p hp k (by simp),Dp r _ h1 ?_]
  ·simp
  ·intro p hp q hq
   rcases bn.1 hp with hp | hp
   ·exact h p hp q (by simp [hq])
   ·simp only [bO] at hp
    subst hp
    exact h0 q hq
theorem P9 {c:Int} {l:List (List (Sem zf))} (h:l.Pairwise (L4 c)):(l.map (aZ c)).Pairwise (· ≠ ·):=by
 rw [List.pairwise_map]
 exact h.imp fun {a b} hab (e:aZ c a=aZ c b)=>pg (a:=aZ c b) (by have:=hab; unfold L4 at this; rwa [e] at this)
theorem Do {c:Int} {l:List (List (Sem zf))} (h:l.Pairwise (L4 c)):(rt [] (l.map (aZ c))).length=l.length:=by
 rw [Dp _ _ (P9 h) (by simp)]
 simp

def dH (x:Sem zh) (p:List (Sem zf)→Bool):Sem zh:=(x.1,x.2.filter fun r => !fN (rt [] ((x.2.filter p).map (aZ x.1.2.2.1))) (aZ x.1.2.2.1 r))
theorem S7 {α:Type} {R:α→α→Prop} (ht:∀ {a b c},R a b→R b c→R a c) (hi:∀ {a},¬ R a a):∀ {l l':List α},l.Pairwise R→l'.Pairwise R→l.Perm l'→l=l'
 | [],l',_,_,hp=>hp.symm.eq_nil.symm
 | a::r,[],_,_,hp=>absurd hp.eq_nil (by simp)
 | a::r,b::r',h,h',hp=>by
  obtain ⟨h0,h1⟩:=List.pairwise_cons.1 h
  obtain ⟨h0',h1'⟩:=List.pairwise_cons.1 h'
  have e:a=b:=by
   rcases cY.1 (hp.subset (ud (a:=a) (l:=r))) with e | m
   ·exact e
   ·rcases cY.1 (hp.symm.subset (ud (a:=b) (l:=r'))) with e' | m'
    ·exact e'.symm
    ·exact absurd (ht (h0 b m') (h0' a m)) hi
  subst e
  rw [S7 (R:=R) ht hi h1 h1' (List.Perm.cons_inv hp)]
theorem I3 {k:Int} {a b c:List (Sem zf)} (h:L4 k a b) (g:L4 k b c):L4 k a c:=nU h g
theorem Fm {k:Int} {a:List (Sem zf)}:¬ L4 k a a:=pg
theorem cj.eq_of_perm {t:Sem zx} {l l':List (List (Sem zf))} (h:cj (t,l)) (h':cj (t,l')) (hp:l.Perm l'):l=l':=S7 (R:=L4 t.2.2.1) I3 Fm h.pw h'.pw hp

set_option maxHeartbeats 2000000

noncomputable def cP (e:ze) (cols:List (Sem zi)):Int:=if e.op=[] then 0 else if (bg e cols).2=(0:Int)∧(bg e cols).1≠(3:Int)∧(bg e cols).1≠(0:Int) then 5 else (bg e cols).2
noncomputable def mt (e:ze) (cols:List (Sem zi)) (r:List (Sem zf)):Bool:=bif e.op==[] then true else (hZ e cols r).1==3&&((hZ e cols r).2.1==1&&((hZ e cols r).2.2==[]&&true))
noncomputable def ju (x:Sem zh) (e:ze):List (List (Sem zf)):=x.2.filter (mt e x.1.2.1)

theorem QL (x:Sem zh) (e:ze) (hl:x.2.length≤1000000) (hr:∀ r∈x.2,length r≤1000000):∀ (m i n:Nat) (acc:List (List (Sem zf))),x.2.length - i=m→i≤x.2.length→acc.length≤i→m < n→
  bl BW n (.h9b x.2 (x.2.length:Int) (i:Int) (x,()) (e,()) acc)=some (.tup [.vec 0,.int .i64 0],[.vec zf.sl (acc++(x.2.drop i).filter (mt e x.1.2.1))]):=by
 intro m
 induction m with
 | zero=>
  intro i n acc hm hi ha hn
  obtain rfl:i=x.2.length:=by omega
  obtain ⟨n,rfl⟩:∃ k,n=k+1:=⟨n - 1,by omega⟩
  rw [bl]
  simp only [BW,Tr.val,zX,cL,List.filter_nil,jL]
  rfl
 | succ m IH=>
  intro i n acc hm hi ha hn
  have hlt:i < x.2.length:=by omega
  obtain ⟨n,rfl⟩:∃ k,n=k+1:=⟨n - 1,by omega⟩
  have h3:decide (length x.2[i]≤1073741824)=true:=by
   have:=hr _ (dg hlt)
   simp only [ae]; omega
  have h4:decide (acc.length+[x.2[i]].length≤1073741824)=true:=by simp only [ae,List.length_singleton]; omega
  rw [bl,dw hlt]
  simp only [BW,Tr.val,zp,zT hlt,zB hlt,ac x.2 _ hlt,h3,h4,zD i (by unfold zC; omega),if_true]
  by_cases h:mt e x.1.2.1 x.2[i]=true
  ·rw [List.filter_cons_of_pos h]
   have h':=h
   unfold mt at h'
   rw [if_pos h']
   have:=IH (i+1) n (acc++[x.2[i]]) (by omega) (by omega) (by simp; omega) (by omega)
   rw [List.append_assoc] at this
   exact this
  ·rw [List.filter_cons_of_neg h]
   have h':=h
   unfold mt at h'
   rw [if_neg h']
   exact IH (i+1) n acc (by omega) (by omega) (by omega) (by omega)

theorem QK (x:Sem zh) (e:ze) (hl:x.2.length≤1000000) (hr:∀ r∈x.2,length r≤1000000):∀ (m i n:Nat),x.2.length - i=m→i≤x.2.length→m < n→
  ∃ r,bl BW n (.h9 x.2 (x.2.length:Int) (i:Int) (x,()) (e,()))=some r∧ap r.2 [zf.sl.sl,zg] r.1=some ((x.2.drop i).filter (mt e x.1.2.1),0,()):=by
 intro m
 induction m with
 | zero=>
  intro i n hm hi hn
  obtain rfl:i=x.2.length:=by omega
  obtain ⟨n,rfl⟩:∃ k,n=k+1:=⟨n - 1,by omega⟩
  rw [bl]
  simp only [BW,Tr.val,zX,cL,List.filter_nil]
  exact ⟨_,rfl,rfl⟩
 | succ m IH=>
  intro i n hm hi hn
  have hlt:i < x.2.length:=by omega
  obtain ⟨n,rfl⟩:∃ k,n=k+1:=⟨n - 1,by omega⟩
  have h3:decide (length x.2[i]≤1073741824)=true:=by
   have:=hr _ (dg hlt)
   simp only [ae]; omega
  have h4:decide ([x.2[i]].length≤1073741824)=true:=by simp
  rw [bl,dw hlt]
  simp only [BW,Tr.val,zp,zT hlt,zB hlt,ac x.2 _ hlt,h3,h4,zD i (by unfold zC; omega),if_true]
  by_cases h:mt e x.1.2.1 x.2[i]=true
  ·rw [List.filter_cons_of_pos h]
   have h':=h
   unfold mt at h'
   rw [if_pos h']
   exact ⟨_,QL x e hl hr m (i+1) n [x.2[i]] (by omega) (by omega) (by simp) (by omega),rfl⟩
  ·rw [List.filter_cons_of_neg h]
   have h':=h
   unfold mt at h'
   rw [if_neg h']
   exact IH (i+1) n (by omega) (by omega) (by omega)

theorem Af (x:Sem zh) (e:ze) (hl:x.2.length≤1000000) (hr:∀ r∈x.2,length r≤1000000):qh x e=some (if cP e x.1.2.1=0 then ju x e else [],cP e x.1.2.1,()):=by
 obtain ⟨r,h1,h2⟩:=QK x e hl hr x.2.length 0 100000000 rfl (aV _) (by omega)
 rw [List.drop_zero] at h2
 unfold qh zW bh
 simp only [zda,Tr.val,zp]
 unfold cP
 by_cases h0:e.op=[]
 ·have c0:(!e.op==[])=false:=by rw [h0]; rfl
  rw [c0,if_pos h0]
  simp only [zH,if_false,if_true]
  show (bl BW 100000000 (.h9 x.2 (x.2.length:Int) ((0:Nat):Int) (x,()) (e,()))).bind _=_
  rw [h1]
  exact h2
 ·have c0:(!e.op==[])=true:=by simpa using h0
  rw [c0,if_neg h0]
  simp only [if_true]
  by_cases h3:(bg e x.1.2.1).2=(0:Int)
  ·by_cases h4:(bg e x.1.2.1).1≠(3:Int)∧(bg e x.1.2.1).1≠(0:Int)
   ·rw [if_pos (show (bg e x.1.2.1).2=(0:Int)∧(bg e x.1.2.1).1≠(3:Int)∧(bg e x.1.2.1).1≠(0:Int) from ⟨h3,h4⟩)]
    have c1:(bif (bg e x.1.2.1).2==0 then bif (bg e x.1.2.1).1 != 3 then (bg e x.1.2.1).1 != 0 else false else false)=true:=by simp [h3,h4.1,h4.2]
    rw [c1]
    rfl
   ·rw [if_neg (show ¬ ((bg e x.1.2.1).2=(0:Int)∧(bg e x.1.2.1).1≠(3:Int)∧(bg e x.1.2.1).1≠(0:Int)) from fun h=>h4 h.2)]
    have c1:(bif (bg e x.1.2.1).2==0 then bif (bg e x.1.2.1).1 != 3 then (bg e x.1.2.1).1 != 0 else false else false)=false:=by
     rw [h3]
     cases c:((bg e x.1.2.1).1 != 3) with
     | false=>rfl
     | true=>
      simp only [bne_iff_ne,ne_eq] at c
      simp only [beq_self_eq_true,bR,bne_eq_false_iff_eq]
      exact Classical.not_not.1 fun h5=>h4 ⟨c,h5⟩
    have c2:((0:Int) != 0)=false:=rfl
    rw [c1]
    simp only [zH,if_false,h3,c2,if_true]
    show (bl BW 100000000 (.h9 x.2 (x.2.length:Int) ((0:Nat):Int) (x,()) (e,()))).bind _=_
    rw [h1]
    exact h2
  ·rw [if_neg (show ¬ ((bg e x.1.2.1).2=(0:Int)∧(bg e x.1.2.1).1≠(3:Int)∧(bg e x.1.2.1).1≠(0:Int)) from fun h=>h3 h.1)]
   have c1:(bif (bg e x.1.2.1).2==0 then bif (bg e x.1.2.1).1 != 3 then (bg e x.1.2.1).1 != 0 else false else false)=false:=by
    have:((bg e x.1.2.1).2==0)=false:=by simpa using h3
    rw [this]; rfl
   have c2:((bg e x.1.2.1).2 != 0)=true:=by simpa using h3
   rw [c1,c2,if_neg h3]
   rfl

theorem Qx {t:Sem zx} {r:List (Sem zf)} (hm:gq t=true) (hk:zI t.2.2.1 (length r)=true):NI t r=true∧XV t r=aZ t.2.2.1 r:=by
 have h1:decide (t.2.2.1 ≥ (↑(length r):Int))=false:=by
  simp only [zI,aL,ae] at hk
  simp only [decide_eq_false_iff_not]
  exact fun h=>absurd hk.2 (Int.not_lt.2 h)
 have:D1 t r=some (aZ t.2.2.1 r,()):=by
  unfold D1 zW bh
  simp only [zdd,Tr.val,zp,Prod.eta,hm,h1,hk,fG,bQ,zH,if_false,if_true]
  rfl
 unfold NI XV
 rw [this]
 exact ⟨rfl,rfl⟩

theorem WW (x:Sem zh) (e:Int) (rows:List (List (Sem zf))) (hl:rows.length≤1000000) (hm:gq x.1=true) (hk:∀ r∈rows,zI x.1.2.2.1 (length r)=true):∀ (m i n:Nat) (es:List (V×Int)),rows.length - i=m→i≤rows.length→m < n→
  bl JB n (.h4 e rows (rows.length:Int) (i:Int) (x,()) es)=some (.tup [.mp 0,.int .i64 e],[.vmap true (rt es ((rows.drop i).map (aZ x.1.2.2.1)))]):=by
 intro m
 induction m with
 | zero=>
  intro i n es hm' hi hn
  obtain rfl:i=rows.length:=by omega
  obtain ⟨n,rfl⟩:∃ k,n=k+1:=⟨n - 1,by omega⟩
  rw [bl]
  simp only [JB,Tr.val,zX,cL]
  rfl
 | succ m IH=>
  intro i n es hm' hi hn
  have hlt:i < rows.length:=by omega
  obtain ⟨n,rfl⟩:∃ k,n=k+1:=⟨n - 1,by omega⟩
  obtain ⟨h1,h2⟩:=Qx hm (hk _ (dg hlt))
  rw [bl,dw hlt]
  simp only [JB,Tr.val,zp,Prod.eta,zT hlt,zB hlt,ac rows _ hlt,h1,h2,zD i (by unfold zC; omega),if_true]
  exact IH (i+1) n _ (by omega) (by omega) (by omega)

theorem Mx {x:Sem zh} {e:ze} {r:List (Sem zf)} (h:r∈(if cP e x.1.2.1=0 then ju x e else [])):r∈x.2:=by
 split at h
 ·exact (List.mem_filter.1 h).1
 ·simp at h

theorem SR (d:Sem ag) (x:Sem zh) (hm:gq x.1=true) (hl:x.2.length≤1000000) (hr:∀ r∈x.2,length r≤1000000) (hk:∀ r∈x.2,zI x.1.2.2.1 (length r)=true):
  mO d x=some (rt [] ((if cP d.2.2.2.2.2.2.2.2.2.2.2.2.1 x.1.2.1=0 then ju x d.2.2.2.2.2.2.2.2.2.2.2.2.1 else []).map (aZ x.1.2.2.1)),cP d.2.2.2.2.2.2.2.2.2.2.2.2.1 x.1.2.1):=by
 have hw:=Af x d.2.2.2.2.2.2.2.2.2.2.2.2.1 hl hr
 have hc:nI x d.2.2.2.2.2.2.2.2.2.2.2.2.1=true:=by unfold nI; rw [hw]; rfl
 have hv:rJ x d.2.2.2.2.2.2.2.2.2.2.2.2.1=(if cP d.2.2.2.2.2.2.2.2.2.2.2.2.1 x.1.2.1=0 then ju x d.2.2.2.2.2.2.2.2.2.2.2.2.1 else [],cP d.2.2.2.2.2.2.2.2.2.2.2.2.1 x.1.2.1):=by unfold rJ; rw [hw]; rfl
 have hq:∀ r∈(if cP d.2.2.2.2.2.2.2.2.2.2.2.2.1 x.1.2.1=0 then ju x d.2.2.2.2.2.2.2.2.2.2.2.2.1 else []),r∈x.2:=fun r h=>Mx h
 have hlen:(if cP d.2.2.2.2.2.2.2.2.2.2.2.2.1 x.1.2.1=0 then ju x d.2.2.2.2.2.2.2.2.2.2.2.2.1 else []).length≤1000000:=by
  split
  ·exact cv (List.length_filter_le _ _) hl
  ·simp
 have:GL d x=some (.tup [.mp 0,.int .i64 (cP d.2.2.2.2.2.2.2.2.2.2.2.2.1 x.1.2.1)],[.vmap true (rt [] ((if cP d.2.2.2.2.2.2.2.2.2.2.2.2.1 x.1.2.1=0 then ju x d.2.2.2.2.2.2.2.2.2.2.2.2.1 else []).map (aZ x.1.2.2.1)))]):=by
  unfold GL bh
  simp only [P1,Tr.val,zp,Prod.eta,hc,hv,if_true]
  have:=WW x (cP d.2.2.2.2.2.2.2.2.2.2.2.2.1 x.1.2.1) _ hlen hm (fun r h=>hk r (hq r h)) _ 0 100000000 [] rfl (aV _) (by omega)
  rw [List.drop_zero] at this
  exact this
 unfold mO
 rw [this]
 rfl

abbrev me (s:Sem zm):ze:=s.2.2.2.2.2.2.2.2.2.2.2.1
abbrev dN (e:Int):Sem cB:=(e,0,[])

theorem hM (e:Int):oL e=true∧bS e=([],dN e):=⟨rfl,rfl⟩
theorem pC {next:List (Sem zh)} {b:Bool} (n:Int) (h:pu next=some (b,())):uz next n=some (if b=true then next else [],if b=true then (0,n,[]) else dN 10,()):=by
 have hc:nh next=true:=by unfold nh; rw [h]; rfl
 have hv:qL next=b:=by unfold qL; rw [h]; rfl
 unfold uz zW bh
 cases b with
 | true=>
  simp only [Wi,Tr.val,hc,hv,if_true,fG,zH,if_false]
  rfl
 | false=>
  simp only [Wi,Tr.val,hc,hv,if_true,pn,zH,if_false]
  rfl
theorem yk {db:List (Sem zh)} {y:Sem zh} {i:Nat} (h:zR db y.1.1=(i:Int)) (hl:db.length≤1000000):lm db y=some (db.set i y,()):=by
 have hb:zI (zR db y.1.1) (length db)=true:=ii (by rw [h]; omega)
 rw [h] at hb
 have h0:decide (length db≤1073741824)=true:=by simp only [ae]; omega
 have h1:decide ((i:Int) ≥ 0)=true:=by simp
 have h2:decide (toNat (i:Int) < length db)=true:=by
  simp only [zI,aL,ae] at hb
  simp only [ae]; omega
 unfold lm zW bh
 simp only [LL,Tr.val,zp,Prod.eta,h,hb,h0,h1,h2,if_true]
 rfl

theorem AK {db:List (Sem zh)} {s:Sem zm} (h:LT.lt (α:=Int) (zR db s.2.1) 0):hJ (db,s)=some ([],dN 6,()):=by
 have h1:decide (LT.lt (α:=Int) (zR db s.2.1) 0)=true:=by simpa using h
 unfold hJ zW bh
 simp only [Wf,Tr.val,h1,if_true]
 rfl
theorem ED {db:List (Sem zh)} {s:Sem zm} {x:Sem zh} {i:Nat} (h:zR db s.2.1=(i:Int)) (hx:db.getD i (zj zh)=x) (hl:x.2.length≤1000000) (hr:∀ r∈x.2,length r≤1000000):
  hJ (db,s)=some (if cP (me s) x.1.2.1=0 then db else [],if cP (me s) x.1.2.1=0 then (0,((ju x (me s)).length:Int),ju x (me s)) else dN (cP (me s) x.1.2.1),()):=by
 have hb:zI (zR db s.2.1) (length db)=true:=ii (by rw [h]; omega)
 rw [h] at hb
 have h1:decide (LT.lt (α:=Int) (i:Int) 0)=false:=by simp
 have hw:=Af x (me s) hl hr
 have hc:nI x (me s)=true:=by unfold nI; rw [hw]; rfl
 have hv:rJ x (me s)=(if cP (me s) x.1.2.1=0 then ju x (me s) else [],cP (me s) x.1.2.1):=by unfold rJ; rw [hw]; rfl
 obtain ⟨f1,f2⟩:=hM (cP (me s) x.1.2.1)
 unfold hJ zW bh
 simp only [Wf,Tr.val,zp,Prod.eta,h,h1,hb,aT,hx,hc,hv,f1,f2,zH,if_true,if_false]
 by_cases h0:cP (me s) x.1.2.1=0
 ·simp only [h0,if_true,jK,zH,if_false]
  rfl
 ·have h0':(cP (me s) x.1.2.1 != 0)=true:=by simpa using h0
  simp only [h0',if_true,if_neg h0]
  rfl

theorem cj.len {x:Sem zh} (h:cj x):∀ r∈x.2,length r≤8:=by
 intro r hr
 obtain ⟨_,_,_,h4,_⟩:=gL h.may
 rw [mE (by simpa using h.fits r hr)]
 exact h4
theorem cj.kin {x:Sem zh} (h:cj x):∀ r∈x.2,zI x.1.2.2.1 (length r)=true:=by
 intro r hr
 obtain ⟨h1,_⟩:=gL h.may
 rw [mE (by simpa using h.fits r hr)]
 exact lw h1
noncomputable abbrev pS (s:Sem zm) (x:Sem zh):List (Sem zf)→Bool:=mt (me s) x.1.2.1

theorem Am {db:List (Sem zh)} {i:Nat} {y:Sem zh} (hs:∀ x∈db,cI x) (hy:cI y):∀ x∈db.set i y,cI x:=fun x hx=>by
 rcases mr hx with h | rfl
 ·exact hs x h
 ·exact hy
theorem sK {x:Sem zh} {p:List (Sem zf)→Bool} (h:cI x):cI (dH x p):=⟨h.uq,h.rf,cv (List.length_filter_le _ _) h.rw⟩

theorem oZ {db:List (Sem zh)} {n:zo} {x:Sem zh} {i:Nat} (h:zR db n=(i:Int)) (hx:db.getD i (zj zh)=x):x.1.1=n:=by
 rcases cn (fun y:Sem zh=>y.1.1==n) db 0 with ⟨q,_⟩ | ⟨k,hk,q1,q2,_⟩
 ·exfalso
  have h':zL (fun y:Sem zh=>y.1.1==n) db 0=(i:Int):=h
  rw [q] at h'
  omega
 ·have h':zL (fun y:Sem zh=>y.1.1==n) db 0=(i:Int):=h
  rw [q1] at h'
  obtain rfl:k=i:=by omega
  rw [aJ,zJ hk,bP] at hx
  subst hx
  simpa using q2

theorem EJ {db:List (Sem zh)} {s:Sem zm} {x:Sem zh} {i:Nat} (hB:aM db) (hs:∀ y∈db,cI y) (h:zR db s.2.1=(i:Int)) (hx:db.getD i (zj zh)=x):
  ∃ b:Bool,(b=true↔mj (db.set i (dH x (pS s x))))∧hY (db,s)=some (if cP (me s) x.1.2.1=0 then (if b=true then db.set i (dH x (pS s x)) else []) else [],
   if cP (me s) x.1.2.1=0 then (if b=true then (0,((ju x (me s)).length:Int),[]) else dN 10) else dN (cP (me s) x.1.2.1),()):=by
 have hf:(0:Int)≤zR db s.2.1:=by rw [h]; omega
 have hm:=kE hf
 rw [show toNat (zR db s.2.1)=i by rw [h]; rfl,hx] at hm
 have hr:=hB.rels x hm
 have hsx:=hs x hm
 have hrl:∀ r∈x.2,length r≤1000000:=fun r hr'=>cv (hr.len r hr') (by omega)
 have hl:x.2.length≤1000000:=cv hsx.rw (by omega)
 have hb:zI (zR db s.2.1) (length db)=true:=ii hf
 rw [h] at hb
 have hn:zR db x.1.1=(i:Int):=by
  rw [oZ h hx,h]
 have hset:∀ y∈db.set i (dH x (pS s x)),cj y:=fun y hy=>by
  rcases mr hy with hy | rfl
  ·exact hB.rels y hy
  ·exact cj.sub (t:=x.1) (l:=x.2) hr List.filter_sublist
 have hdl:db.length≤12:=hB.few
 obtain ⟨b,b1,b2⟩:=g5 (db:=db.set i (dH x (pS s x))) (fun y hy=>(hset y hy).cols) (Am hs (sK hsx)) (by rw [jM]; omega)
 refine ⟨b,b2,?_⟩
 have hmo:=SR (db,s) x hr.may hl hrl hr.kin
 have h1:decide (LT.lt (α:=Int) (i:Int) 0)=false:=by simp
 have h2:decide (length x.2≤1073741824)=true:=by simp only [ae]; omega
 have h3:(decide (length x.2≤1000000)&&List.all x.2 fun r=>zI x.1.2.2.1 (length r))=true:=by
  simp only [aL,ae,cX]
  exact ⟨hl,hr.kin⟩
 have hmv:mV (db,s) x=(rt [] ((if cP (me s) x.1.2.1=0 then ju x (me s) else []).map (aZ x.1.2.2.1)),cP (me s) x.1.2.1):=by unfold mV; rw [hmo]; rfl
 have hms:(mO (db,s) x).isSome=true:=by rw [hmo]; rfl
 obtain ⟨f1,f2⟩:=hM (cP (me s) x.1.2.1)
 unfold hY zW bh
 simp only [We,Tr.val,zp,Prod.eta,h,h1,hb,aT,hx,hmv,hms,f1,f2,h2,h3,zH,if_true,if_false]
 by_cases h0:cP (me s) x.1.2.1=0
 ·simp only [h0,if_true,jK,zH,if_false]
  have hkl:(rt [] ((ju x (me s)).map (aZ x.1.2.2.1))).length=(ju x (me s)).length:=Do (List.Pairwise.sublist List.filter_sublist hr.pw)
  have h4:decide ((ju x (me s)).length≤1073741824)=true:=by
   have:=List.length_filter_le (mt (me s) x.1.2.1) x.2
   simp only [ae]
   unfold ju
   omega
  have hk:=pC ((ju x (me s)).length:Int) b1
  have hkc:gA (db.set i (dH x (pS s x))) ((ju x (me s)).length:Int)=true:=by unfold gA; rw [hk]; rfl
  have hkv:kv (db.set i (dH x (pS s x))) ((ju x (me s)).length:Int)=(if b=true then db.set i (dH x (pS s x)) else [],if b=true then (0,((ju x (me s)).length:Int),[]) else dN 10):=by unfold kv; rw [hk]; rfl
  have hw:lm db (dH x (pS s x))=some (db.set i (dH x (pS s x)),()):=yk (y:=dH x (pS s x)) hn (by omega)
  have hwc:jm db (dH x (pS s x))=true:=by unfold jm; rw [hw]; rfl
  have hwv:jP db (dH x (pS s x))=db.set i (dH x (pS s x)):=by unfold jP; rw [hw]; rfl
  have hT:(x.1,List.filter (pe x.1.2.2.1 (rt [] ((ju x (me s)).map (aZ x.1.2.2.1)))) x.2)=dH x (pS s x):=rfl
  simp only [hkl,h4,hT,hwc,hwv,hkc,hkv,if_true]
  by_cases h5:(zL (jt x.1.2.2.1 (rt [] ((ju x (me s)).map (aZ x.1.2.2.1)))) x.2 0==-1)=true
  ·have hE:x=dH x (pS s x):=by
    rw [← hT]
    refine Prod.ext rfl (Eq.symm (List.filter_eq_self.2 fun r hr'=>?_))
    rcases cn (jt x.1.2.2.1 (rt [] ((ju x (me s)).map (aZ x.1.2.2.1)))) x.2 0 with ⟨_,q2⟩ | ⟨k,_,q2,_⟩
    ·simp [pe,q2 r hr']
    ·rw [q2] at h5
     simp at h5
   rw [if_pos h5]
   have hwc2:jm db x=true:=by rw [hE]; exact hwc
   have hwv2:jP db x=db.set i (dH x (pS s x)):=by
    have:jP db x=jP db (dH x (pS s x)):=congrArg (jP db) hE
    rw [this]; exact hwv
   simp only [hwc2,hwv2,hkc,hkv,if_true]
   cases b <;> rfl
  ·rw [if_neg h5]
   cases b <;> rfl
 ·have h0':(cP (me s) x.1.2.1 != 0)=true:=by simpa using h0
  simp only [h0',if_true,if_neg h0]
  rfl

theorem o5 (c:UInt8) (s old:zo):Lib.index (c::s) old=if old.isPrefixOf (c::s)=true then 0 else if Lib.index s old=-1 then -1 else Lib.index s old+1:=by
 rw [Lib.index]; simp only [eT]

theorem rL {s old new:zo} (hne:(old==new)=false) (h:Lib.index s old=-1):Lib.replaceAll s old new=s:=by
 unfold Lib.replaceAll Lib.replace Lib.replaceNum
 rw [hne,if_pos (Or.inl (by decide)),Lib.count_miss h]
 rfl

theorem wG {s old new:zo} {i:Nat} (h0:old≠[]) (hne:(old==new)=false) (h:Lib.index s old=i):Lib.replaceAll s old new=s.take i++new++Lib.replaceAll (s.drop (i+old.length)) old new:=by
 unfold Lib.replaceAll Lib.replace Lib.replaceNum
 rw [hne,if_pos (Or.inl (by decide)),if_pos (Or.inl (by decide)),Lib.count_hit h0 h,po 1]
 exact Lib.replaceK_hit old new _ s i h

theorem NA {old new:zo} (h0:old≠[]) (hne:(old==new)=false):Lib.replaceAll [] old new=[]:=by
 refine rL hne ?_
 cases old with
 | nil=>exact absurd rfl h0
 | cons a l=>rfl

theorem NB {c:UInt8} {s old new:zo} (h0:old≠[]) (hne:(old==new)=false) (hp:old.isPrefixOf (c::s)=true):Lib.replaceAll (c::s) old new=new++Lib.replaceAll ((c::s).drop old.length) old new:=by
 have:=wG (i:=0) h0 hne (s:=c::s) (by rw [o5,if_pos hp]; rfl)
 simpa using this

theorem Js {c:UInt8} {s old new:zo} (h0:old≠[]) (hne:(old==new)=false) (hp:old.isPrefixOf (c::s)=false):Lib.replaceAll (c::s) old new=c::Lib.replaceAll s old new:=by
 by_cases h:Lib.index s old=-1
 ·rw [rL hne h,rL hne (by rw [o5,if_neg (by simp [hp]),if_pos h])]
 ·obtain ⟨i,hi⟩:∃ i:Nat,Lib.index s old=i:=⟨(Lib.index s old).toNat,by have:=Lib.index_ge s old; omega⟩
  rw [wG h0 hne hi,wG (i:=i+1) h0 hne (by rw [o5,if_neg (by simp [hp]),if_neg h,hi]; simp)]
  simp [Nat.add_right_comm]

theorem XK {c a:UInt8} {r l:zo} (h:c≠a):(a::l).isPrefixOf (c::r)=false:=by
 rw [List.isPrefixOf,jH.2 (Ne.symm h)]
 rfl

def pD:zo→zo
 | []=>[]
 | c::r=>if c=39 then 39::39::pD r else c::pD r

theorem wF:∀ s:zo,Lib.replaceAll s [39] [39,39]=pD s
 | []=>NA (by simp) rfl
 | c::r=>by
  rw [pD]
  split
  ·rename_i h
   subst h
   rw [NB (by simp) rfl (by simp)]
   simp [wF r]
  ·rename_i h
   rw [Js (by simp) rfl (XK h),wF r]

def ir:zo→Option (zo×Nat)
 | []=>none
 | [c]=>if c=39 then some ([],1) else none
 | c::d::r=>if c=39 then (if d=39 then (ir r).map fun x=>(39::x.1,x.2+2) else some ([],1)) else (ir (d::r)).map fun x=>(c::x.1,x.2+1)

theorem Jx {c:UInt8} (hc:c≠39):∀ r:zo,ir (c::r)=(ir r).map fun x=>(c::x.1,x.2+1)
 | []=>by simp [ir,hc]
 | d::r=>by rw [ir,if_neg hc]
theorem NL (r:zo):ir (39::39::r)=(ir r).map fun x=>(39::x.1,x.2+2):=by
 rw [ir,if_pos rfl,if_pos rfl]
theorem NK:∀ r:zo,r.head?≠some 39→ir (39::r)=some ([],1)
 | [],_=>by rw [ir,if_pos rfl]
 | d::r,h=>by rw [ir,if_pos rfl,if_neg (by simpa using h)]

def oX (c:UInt8) (r:zo):Sem ej×Nat:=
 if aU c.toNat=true then ((1,(c::r).take (fW cr r+1)),fW cr r+1)
 else if zY c.toNat=true then ((2,(c::r).take (fW zY r+1)),fW zY r+1)
 else if c=39 then (match ir r with | none=>((0,[]),0) | some x=>((3,x.1),x.2+1))
 else ((4,[c]),1)

def xC:Nat→zo→Nat→Bool
 | 0,_,_=>false
 | _+1,[],k=>decide (k≤400)
 | n+1,c::r,k=>
  if (bif (c.toNat:Int)==32 then true else (c.toNat:Int)==10)=true then xC n r k
  else if jB (oX c r).1=true then xC n ((c::r).drop (oX c r).2) (k+1) else false


abbrev sX:zo:=[115,101,108,101,99,116]
abbrev VB:zo:=[100,101,108,101,116,101]
theorem qO:∀ (n:Nat) (s:zo) (k k':Nat),k'≤k→xC n s k=true→xC n s k'=true
 | 0,_,_,_,_,h=>h
 | _+1,[],k,k',hk,h=>by
  rw [xC] at h ⊢
  simp only [ae] at h ⊢
  omega
 | n+1,c::r,k,k',hk,h=>by
  rw [xC] at h ⊢
  split
  ·rename_i h1
   rw [if_pos h1] at h
   exact qO n r k k' hk h
  ·rename_i h1
   rw [if_neg h1] at h
   split
   ·rename_i h2
    rw [if_pos h2] at h
    exact qO n _ (k+1) (k'+1) (by omega) h
   ·rename_i h2
    rw [if_neg h2] at h
    cases h
end Cad
