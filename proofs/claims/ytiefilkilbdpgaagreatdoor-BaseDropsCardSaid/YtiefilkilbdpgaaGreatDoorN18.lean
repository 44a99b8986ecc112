/- The chapter's examples. The law BaseSelects. Few of anything: always an answer, and a short one. The law BaseSelects holds. -/
import Derived.Test.YtiefilkilbdpgaaGreatDoorN17
import Derived.Test.YtiefilkilbdpgaaGreatDoorN15
import Derived.Test.YtiefilkilbdpgaaGreatDoorN14
import Derived.Test.YtiefilkilbdpgaaGreatDoorN12
namespace Cad
open Go Go.Proofs
open Int (toNat)
open List (getD)
open List (length)
noncomputable section
set_option maxHeartbeats 4000000
def L3:=LR.add 32 ZV
theorem wa:zl L3:=FD.add U4

def zhW:Tr (Empty ⊕ ao):=
 Tr.chk true
 (Tr.chk true
  (Tr.chk true (Tr.chk true (Tr.chk true (Tr.chk true (Tr.chk true (Tr.chk true (Tr.chk true (Tr.chk true (Tr.chk true (Tr.chk true (Tr.chk true (Tr.chk true (Tr.re (AV.bool true) []))))))))))))))
def Bd:=zW [Sh.bool] t0 100000000 (zhW)
def Fd:=(Bd).isSome
def yM:=o1 (Bd)
def ZC:=FT [] [Sh.bool] fun _=>Bd
theorem UG:FK 13 ZC:=wa.T1 (f:=Tryz.f13) (keep:=k0) (e:=e0)

def Tg:=L3.add 13 ZC
theorem Am:zl Tg:=wa.add UG
end
noncomputable section
end

theorem lV {a0 a1 a2 a3 a4 a5 a6 a7 a8 a9 b0 b1 b2 b3 b4 b5 b6 d0 d1 d2 d3 d4 d5 d6 d7 d8 d9}:∀ (l:List (Sem zq)) (i:Int) (acc:List (Sem zq)),(acc.length:Int)≤i→acc.length≤10→
  (gk a0 a1 a2 a3 a4 a5 a6 a7 a8 a9 b0 b1 b2 b3 b4 b5 b6 d0 d1 d2 d3 d4 d5 d6 d7 d8 d9 l i acc).2.2.2.1=d9∧length (gk a0 a1 a2 a3 a4 a5 a6 a7 a8 a9 b0 b1 b2 b3 b4 b5 b6 d0 d1 d2 d3 d4 d5 d6 d7 d8 d9 l i acc).2.2.2.2.1≤10
 | [],_,_,_,ha=>⟨rfl,ha⟩
 | x::r,i,acc,h,ha=>by
  rw [gk]
  split
  ·rename_i hi
   simp only [zZ] at hi
   exact lV r (i+1) _ (by simp; omega) (by simp; omega)
  ·exact ⟨rfl,ha⟩
theorem qP {a0 a1 a2 a3 a4 a5 a6 a7 a8 a9 b0 b1 b2 b3 b4 b5 b6 d0 d1 d2 d3 d4 d5 d6 d7 d8 d9}:∀ (l:List (Sem zg)) (i:Int) (acc:List (Sem zg)),(acc.length:Int)≤i→acc.length≤10→
  length (fK a0 a1 a2 a3 a4 a5 a6 a7 a8 a9 b0 b1 b2 b3 b4 b5 b6 d0 d1 d2 d3 d4 d5 d6 d7 d8 d9 l i acc).2.2.2.1≤10∧length (fK a0 a1 a2 a3 a4 a5 a6 a7 a8 a9 b0 b1 b2 b3 b4 b5 b6 d0 d1 d2 d3 d4 d5 d6 d7 d8 d9 l i acc).2.2.2.2.1≤10
 | [],i,acc,h,ha=>by
  rw [fK]
  obtain ⟨h1,h2⟩:=lV (a0:=a0) (a1:=a1) (a2:=a2) (a3:=d9) (a4:=a4) (a5:=a5) (a6:=a6) (a7:=a7) (a8:=a8) (a9:=a9) (b0:=b0) (b1:=b1) (b2:=b2) (b3:=b3) (b4:=b4) (b5:=b5) (b6:=b6) (d0:=d0) (d1:=d1) (d2:=d2) (d3:=d3) (d4:=d4) (d5:=d5) (d6:=d6) (d7:=d7) (d8:=d8) (d9:=acc) a3 0 [] (by simp) (by simp)
  rw [h1]
  exact ⟨ha,h2⟩
 | x::r,i,acc,h,ha=>by
  rw [fK]
  split
  ·rename_i hi
   simp only [zZ] at hi
   exact qP r (i+1) _ (by simp; omega) (by simp; omega)
  ·obtain ⟨h1,h2⟩:=lV (a0:=a0) (a1:=a1) (a2:=a2) (a3:=d9) (a4:=a4) (a5:=a5) (a6:=a6) (a7:=a7) (a8:=a8) (a9:=a9) (b0:=b0) (b1:=b1) (b2:=b2) (b3:=b3) (b4:=b4) (b5:=b5) (b6:=b6) (d0:=d0) (d1:=d1) (d2:=d2) (d3:=d3) (d4:=d4) (d5:=d5) (d6:=d6) (d7:=d7) (d8:=d8) (d9:=acc) a3 0 [] (by simp) (by simp)
   rw [h1]
   exact ⟨ha,h2⟩
theorem G3 (t:Sem zw):length (ll t).2.2.2.1≤10∧length (ll t).2.2.2.2.1≤10:=by
 unfold ll
 exact qP _ _ _ (by simp) (by simp)

def A7 (l rows:List (Sem (.sl zf))):Prop:=rows.length≤201∧∀ r∈rows,∃ r0∈l,r=kT r0
theorem zgR (n:Nat) (i4:Int) (hi4:i4≤201) (h0:0≤i4) (z0:zu cpR) (z1:zu Wo) (t:Sem zw) (hn:300≤n):∃ rows:List (Sem (.sl zf)),A7 z0.1.2 rows∧∃ r,bw Kj n (.h6 i4 0 z0 z1 (t,[],()))=some r∧ah r.2 [zh] r.1=some (((t,rows):Sem zh),()):=by
 obtain ⟨N,hN⟩:∃ N:Nat,i4=(N:Int):=⟨toNat i4,by omega⟩
 have h:=kS (t:=Kj) (β:=List (Sem (.sl zf))) (min N (length z0.1.2)) (fun b i=>.h6 i4 (i:Int) z0 z1 (t,b,())) (fun b i=>b.length=i∧∀ r∈b,∃ r0∈z0.1.2,r=kT r0) (fun r=>∃ rows:List (Sem (.sl zf)),A7 z0.1.2 rows∧ah r.2 [zh] r.1=some (((t,rows):Sem zh),())) 1 (by
   intro b i hi hb
   have h1:(i:Int) < (length z0.1.2:Int):=by omega
   have h2:(i:Int) < i4:=by omega
   have h3:zI (i:Int) (length z0.1.2)=true:=zC (by omega)
   refine Or.inl ⟨b++[kT (getD z0.1.2 (i:Int).toNat (zj zf.sl))],⟨by simp [hb.1],fun r hr=>?_⟩,?_⟩
   ·rcases bp.1 hr with hr | hr
    ·exact hb.2 r hr
    ·rw [bL] at hr
     refine ⟨_,?_,hr⟩
     rw [aQ,aH,zJ (by omega),bM]
     exact cZ _
   simp only [Kj,Tr.val,aq h1,aq h2,aR,if_true,h3]
   rw [zD i (by unfold zB; omega),if_pos (by simp; omega)]) (by
   intro b n hb hn
   obtain ⟨n,rfl⟩:∃ k,n=k+1:=⟨n - 1,by omega⟩
   rw [kR]
   have hf:(bif decide (((min N (length z0.1.2):Nat):Int) < (length z0.1.2:Int)) then decide (((min N (length z0.1.2):Nat):Int) < i4) else false)=false:=by
    by_cases h:N≤length z0.1.2
    ·rw [Nat.min_eq_left h,hN]
     simp
    ·rw [Nat.min_eq_right (by omega)]
     simp
   simp only [Kj,Tr.val,hf]
   refine ⟨_,rfl,b,⟨by have:=hb.1; omega,hb.2⟩,?_⟩
   obtain ⟨t0,t1,t2,t3,t4,t5⟩:=t
   cases t5
   rfl) (min N (length z0.1.2)) 0 [] n rfl (aV _) ⟨rfl,by simp⟩ (by omega)
 obtain ⟨r,h1,rows,h2,h3⟩:=h
 exact ⟨rows,h2,r,h1,h3⟩

theorem wu (x:Sem zh):∃ rows:List (Sem (.sl zf)),A7 x.2 rows∧wt x=some (((ll x.1,rows):Sem zh),()):=by
 have e:ll (x.1.1,x.1.2.1,x.1.2.2.1,x.1.2.2.2.1,x.1.2.2.2.2.1,zE x.1.2.2.2.2.2)=ll x.1:=by rw [zm]
 have hv:∃ k:Int,0≤k∧k≤201∧(W0 x).val=some (.inl (.h6 k 0 (x,()) ([],0,[],0,0,[],[],()) (ll x.1,[],()))):=by
  simp only [W0,Tr.val,e]
  split
  ·exact ⟨201,by omega,by omega,rfl⟩
  ·exact ⟨40,by omega,by omega,rfl⟩
 obtain ⟨k,k1,k2,hv⟩:=hv
 obtain ⟨rows,h1,r,h2,h3⟩:=zgR 100000000 k k2 k1 (x,()) ([],0,[],0,0,[],[],()) (ll x.1) (by omega)
 refine ⟨rows,h1,?_⟩
 unfold wt zW bl
 rw [hv]
 show (bw Kj 100000000 _).bind _=_
 rw [h2]
 exact h3

theorem D7 (x:Sem zh):cu (sU x):=by
 obtain ⟨rows,h1,h2⟩:=wu x
 have h3:sU x=(ll x.1,rows):=by unfold sU; rw [h2]; rfl
 rw [h3]
 obtain ⟨k1,k2⟩:=G3 x.1
 exact ⟨by show length (ll x.1).2.2.2.1≤_; omega,by show length (ll x.1).2.2.2.2.1≤_; omega,by show rows.length≤_; have:=h1.1; omega⟩
theorem D6 (x:Sem zh):Gi x=true:=by
 obtain ⟨rows,h1,h2⟩:=wu x
 unfold Gi
 rw [h2]; rfl

theorem iU (s:zp):ex s=true:=by
 unfold ex
 split
 ·rename_i h
  have:20 < s.length:=by simp at h; omega
  rw [if_pos (by simp; omega)]
 ·rfl
theorem dZ (s:zp):(bP s).length≤20:=by
 unfold bP
 split
 ·simp; omega
 ·rename_i h
  have:¬ 20 < s.length:=by simp at h; omega
  omega
theorem mo:∀ (l:List zp) (i:Int) (acc:List zp),(acc.length:Int)≤i→eM l i acc=true
 | [],_,_,_=>rfl
 | x::r,i,acc,h=>by
  rw [eM]
  split
  ·rename_i hi
   simp only [zZ] at hi
   rw [if_pos (iU x),if_pos (by simp; omega)]
   exact mo r (i+1) _ (by simp; omega)
  ·rfl
theorem yg (l:List zp):mX l=true:=mo l 0 [] (by simp)
theorem oO:∀ (l:List zp) (i:Int) (acc:List zp),(acc.length:Int)≤i→acc.length≤10→(∀ x∈acc,length x≤20)→length (dG l i acc)≤10∧∀ x∈dG l i acc,length x≤20
 | [],_,acc,_,h,ha=>⟨h,ha⟩
 | x::r,i,acc,h,hl,ha=>by
  rw [dG]
  split
  ·rename_i hi
   simp only [zZ] at hi
   refine oO r (i+1) _ (by simp; omega) (by simp; omega) (fun y hy=>?_)
   rcases bp.1 hy with hy | hy
   ·exact ha y hy
   ·rw [bL] at hy
    rw [hy]; exact dZ x
  ·exact ⟨hl,ha⟩
theorem sS (l:List zp):length (f4 l)≤10∧∀ x∈f4 l,length x≤20:=oO l 0 [] (by simp) (by simp) (by simp)
theorem mZ:∀ (l:List (Sem zi)) (i:Int) (acc:List (Sem zi)),(acc.length:Int)≤i→acc.length≤10→(∀ x∈acc,length x.1≤20)→length (g6 l i acc)≤10∧∀ x∈g6 l i acc,length x.1≤20
 | [],_,acc,_,h,ha=>⟨h,ha⟩
 | x :: r,i,acc,h,hl,ha=>by
  rw [g6]
  split
  ·rename_i hi
   simp only [zZ] at hi
   split
   ·refine mZ r (i+1) _ (by simp; omega) (by simp; omega) (fun y hy=>?_)
    rcases bp.1 hy with hy | hy
    ·exact ha y hy
    ·rw [bL] at hy
     rw [hy]; simp; omega
   ·rename_i hx
    have hx:¬ 20 < length x.1:=by simp at hx; omega
    refine mZ r (i+1) _ (by simp; omega) (by simp; omega) (fun y hy=>?_)
    rcases bp.1 hy with hy | hy
    ·exact ha y hy
    ·rw [bL] at hy
     rw [hy]; omega
  ·exact ⟨hl,ha⟩
theorem JQ (l:List (Sem zi)):length (mY l)≤10∧∀ x∈mY l,length x.1≤20:=mZ l 0 [] (by simp) (by simp) (by simp)
theorem sV:∀ (l:List (Sem zf)) (i:Int) (acc:List (Sem zf)),(acc.length:Int)≤i→acc.length≤14→length (jZ l i acc)≤14
 | [],_,acc,_,h=>h
 | x::r,i,acc,h,hl=>by
  rw [jZ]
  split
  ·rename_i hi
   simp only [zZ] at hi
   exact sV r (i+1) _ (by simp; omega) (by simp; omega)
  ·exact hl
theorem JS (l:List (Sem zf)):length (kT l)≤14:=sV l 0 [] (by simp) (by simp)

theorem HK {g:Sem Sh.expr→Sem zg→Sem zg→Sem Sh.expr×Sem zg} {c:Sem Sh.expr→Sem zg→Sem zg→Bool} {i1:Int} {N:Nat} (h:∀ x n,0 < i1→kC N (g x (IntKind.i64.wrap (i1 - 1)) n).1=true) {a0 a1 a2 a3 a4 b0 b1 b2 b3 b4 d0 d1 d2 d3 d4}:
  ∀ (l:List (Sem Sh.expr)) (i n:Int) (acc:List (Sem Sh.expr)),(acc.length:Int)≤i→acc.length≤3→(∀ x∈acc,kC N x=true)→kC (N+1) (cC g c i1 a0 a1 a2 a3 a4 b0 b1 b2 b3 b4 d0 d1 d2 d3 d4 l i n acc).1=true
 | [],_,_,acc,_,hl,ha=>by
  rw [cC]
  show (decide (acc.length≤1073741824)&&acc.all (kC N))=true
  rw [cY.2 ha]
  simp; omega
 | x::r,i,n,acc,hi,hl,ha=>by
  rw [cC]
  split
  ·rename_i hk
   have h3:i < 3∧i1 > 0:=by
    cases h1:decide (i < 3) <;> cases h2:decide (i1 > 0) <;> simp_all
   refine HK h r (i+1) _ _ (by simp; omega) (by simp; omega) (fun y hy=>?_)
   rcases bp.1 hy with hy | hy
   ·exact ha y hy
   ·rw [bL] at hy
    rw [hy]; exact h x n h3.2
  ·show (decide (acc.length≤1073741824)&&acc.all (kC N))=true
   rw [cY.2 ha]
   simp; omega
theorem QA {g:Sem Sh.expr→Sem zg→Sem zg→Sem Sh.expr×Sem zg} {c:Sem Sh.expr→Sem zg→Sem zg→Bool} {i1:Int} {N:Nat} (h:∀ x n,0 < i1→kC N (g x (IntKind.i64.wrap (i1 - 1)) n).1=true) (e:ze) (n:Int):kC (N+1) (FS g c e i1 n).1=true:=by
 unfold FS
 repeat' split
 all_goals exact HK h _ _ _ _ (by simp) (by simp) (by simp)
theorem HL:∀ (N:Nat) (e:ze) (d n:Int),0≤d→d < N→N≤100→kC N (lG N e d n).1=true
 | 0,_,_,_,h1,h2,_=>by omega
 | N+1,e,d,n,h1,h2,h3=>by
  rw [lG]
  refine QA (fun x m hd=>?_) e n
  rw [lY _ (by omega) (by omega)]
  exact HL N x (d - 1) m (by omega) (by omega) (by omega)
theorem Hy (e:ze):kC 16 (dY e)=true:=by
 have h:=HL 16 e 14 80 (by omega) (by omega) (by omega)
 unfold dY
 rw [ze.eta]
 exact h

structure V0 (s:Sem zo):Prop where
 sh:ek s
 cp:kC 16 s.2.2.2.2.2.2.2.2.1=true

abbrev FX (s:Sem zo):zp×zp×zp×List zp×List (Sem zi)×zp×List zp:=(bP s.1,bP s.2.1,bP s.2.2.1,f4 s.2.2.2.1,mY s.2.2.2.2.1,bP s.2.2.2.2.2.1,f4 s.2.2.2.2.2.2.1)

def F3I (z0:zu mz) (i:Nat) (z:zu K5):Prop:=z.1.length≤20∧z.2.1.length≤20∧z.2.2.1.length≤20∧(length z.2.2.2.1≤10∧∀ x∈z.2.2.2.1,length x≤20)∧(length z.2.2.2.2.1≤10∧∀ x∈z.2.2.2.2.1,length x.1≤20)∧z.2.2.2.2.2.1.length≤20∧
 (length z.2.2.2.2.2.2.1≤10∧∀ x∈z.2.2.2.2.2.2.1,length x≤20)∧(length z.2.2.2.2.2.2.2.1=i∧∀ x∈z.2.2.2.2.2.2.2.1,length x.1≤20∧length x.2≤20)∧kC 16 z.2.2.2.2.2.2.2.2.1=true∧length z.2.2.2.2.2.2.2.2.2.1≤14∧z.2.2.2.2.2.2.2.2.2.2.2.1.length≤20∧
 z.2.2.2.2.2.2.2.2.1=dY z0.1.2.2.2.2.2.2.2.2.1∧z.2.2.2.2.2.2.2.2.2.1=kT z0.1.2.2.2.2.2.2.2.2.2.1∧z.2.2.2.2.2.2.2.2.2.2.1=dY z0.1.2.2.2.2.2.2.2.2.2.2.2.1∧(z.1,z.2.1,z.2.2.1,z.2.2.2.1,z.2.2.2.2.1,z.2.2.2.2.2.1,z.2.2.2.2.2.2.1)=FX z0.1

def F7I (z0:zu mz) (i:Nat) (z:zu K6):Prop:=z.1.length≤20∧z.2.1.length≤20∧z.2.2.1.length≤20∧(length z.2.2.2.1≤10∧∀ x∈z.2.2.2.1,length x≤20)∧(length z.2.2.2.2.1≤10∧∀ x∈z.2.2.2.2.1,length x.1≤20)∧z.2.2.2.2.2.1.length≤20∧
 (length z.2.2.2.2.2.2.1≤10∧∀ x∈z.2.2.2.2.2.2.1,length x≤20)∧(length z.2.2.2.2.2.2.2.1≤10∧∀ x∈z.2.2.2.2.2.2.2.1,length x.1≤20∧length x.2≤20)∧kC 16 z.2.2.2.2.2.2.2.2.1=true∧length z.2.2.2.2.2.2.2.2.2.1≤14∧
 (length z.2.2.2.2.2.2.2.2.2.2.1=i∧∀ x∈z.2.2.2.2.2.2.2.2.2.2.1,length x.1≤20∧∃ y∈z0.1.2.2.2.2.2.2.2.2.2.2.1,x.2=dY y.2)∧z.2.2.2.2.2.2.2.2.2.2.2.2.1.length≤20∧
 z.2.2.2.2.2.2.2.2.1=dY z0.1.2.2.2.2.2.2.2.2.1∧z.2.2.2.2.2.2.2.2.2.1=kT z0.1.2.2.2.2.2.2.2.2.2.1∧z.2.2.2.2.2.2.2.2.2.2.2.1=dY z0.1.2.2.2.2.2.2.2.2.2.2.2.1∧(z.1,z.2.1,z.2.2.1,z.2.2.2.1,z.2.2.2.2.1,z.2.2.2.2.2.1,z.2.2.2.2.2.2.1)=FX z0.1

structure SH (s0 s:Sem zo):Prop where
 chk:s.2.2.2.2.2.2.2.2.1=dY s0.2.2.2.2.2.2.2.2.1
 row:s.2.2.2.2.2.2.2.2.2.1=kT s0.2.2.2.2.2.2.2.2.2.1
 whr:s.2.2.2.2.2.2.2.2.2.2.2.1=dY s0.2.2.2.2.2.2.2.2.2.2.2.1
 sets:∀ x∈s.2.2.2.2.2.2.2.2.2.2.1,∃ y∈s0.2.2.2.2.2.2.2.2.2.2.1,(x:Sem aN).2=dY (y:Sem aN).2
 fr:(s.1,s.2.1,s.2.2.1,s.2.2.2.1,s.2.2.2.2.1,s.2.2.2.2.2.1,s.2.2.2.2.2.2.1)=FX s0

def PZ (s0:Sem zo) (r:ao):Prop:=∃ s:Sem zo,ah r.2 [zo] r.1=some (s,())∧V0 s∧SH s0 s

theorem fs7 (z0:zu mz) (z1:zu eT) (z:zu K6) (hz:F7I z0 0 z) (n:Nat) (hn:20≤n):∃ r,bw Rn n (.h7 0 z0 z1 z)=some r∧PZ z0.1 r:=by
 refine kS (t:=Rn) (β:=zu K6) (min 10 (length z0.1.2.2.2.2.2.2.2.2.2.2.1)) (fun z i=>.h7 (i:Int) z0 z1 z) (fun z i=>F7I z0 i z) (PZ z0.1) 1 ?_ ?_ (min 10 (length z0.1.2.2.2.2.2.2.2.2.2.2.1)) 0 z n rfl (aV _) hz (by omega)
 ·intro z i hi hb
  obtain ⟨h0,h1,h2,h3,h4,h5,h6,h7,h8,h9,h10,h11,h12⟩:=hb
  have k1:(i:Int) < (length z0.1.2.2.2.2.2.2.2.2.2.2.1:Int):=by omega
  have k2:(i:Int) < 10:=by omega
  have k3:zI (i:Int) (length z0.1.2.2.2.2.2.2.2.2.2.2.1)=true:=zC (by omega)
  refine Or.inl ⟨(z.1,z.2.1,z.2.2.1,z.2.2.2.1,z.2.2.2.2.1,z.2.2.2.2.2.1,z.2.2.2.2.2.2.1,z.2.2.2.2.2.2.2.1,z.2.2.2.2.2.2.2.2.1,z.2.2.2.2.2.2.2.2.2.1,z.2.2.2.2.2.2.2.2.2.2.1++[(bP (getD z0.1.2.2.2.2.2.2.2.2.2.2.1 (i:Int).toNat (zj aN)).1,zE (dY (zE (getD z0.1.2.2.2.2.2.2.2.2.2.2.1 (i:Int).toNat (zj aN)).2)))],z.2.2.2.2.2.2.2.2.2.2.2),⟨h0,h1,h2,h3,h4,h5,h6,h7,h8,h9,?_,h11,h12⟩,?_⟩
  rotate_left 1
  ·simp only [Rn,Tr.val,aq k1,aq k2,aR,if_true,k3,iU]
   rw [zD i (by unfold zB; omega),if_pos (by have:=h10.1; simp; omega)]
  ·refine ⟨?_,fun x hx=>?_⟩
   ·simp [h10.1]
   ·rcases bp.1 hx with hx | hx
    ·exact h10.2 x hx
    ·rw [bL] at hx
     rw [hx]; exact ⟨dZ _,_,DZ _ (zj aN) (by simpa using (show i < _ by omega)),by simp only [zm,aQ]⟩
 ·intro z n hb hn
  obtain ⟨n,rfl⟩:∃ k,n=k+1:=⟨n - 1,by omega⟩
  obtain ⟨h0,h1,h2,h3,h4,h5,h6,h7,h8,h9,h10,h11,h12⟩:=hb
  rw [kR]
  have hf:(bif decide (((min 10 (length z0.1.2.2.2.2.2.2.2.2.2.2.1):Nat):Int) < (length z0.1.2.2.2.2.2.2.2.2.2.2.1:Int)) then decide (((min 10 (length z0.1.2.2.2.2.2.2.2.2.2.2.1):Nat):Int) < 10) else false)=false:=by
   by_cases h:10≤length z0.1.2.2.2.2.2.2.2.2.2.2.1
   ·rw [Nat.min_eq_left h]
    simp
   ·rw [Nat.min_eq_right (by omega)]
    simp
  simp only [Rn,Tr.val,hf]
  refine ⟨_,rfl,(z.1,z.2.1,z.2.2.1,z.2.2.2.1,z.2.2.2.2.1,z.2.2.2.2.2.1,z.2.2.2.2.2.2.1,z.2.2.2.2.2.2.2.1,z.2.2.2.2.2.2.2.2.1,z.2.2.2.2.2.2.2.2.2.1,z.2.2.2.2.2.2.2.2.2.2.1,z.2.2.2.2.2.2.2.2.2.2.2.1,z.2.2.2.2.2.2.2.2.2.2.2.2.1),?_,⟨?_,h8⟩,⟨h12.1,h12.2.1,h12.2.2.1,fun x hx=>(h10.2 x hx).2,h12.2.2.2⟩⟩
  ·obtain ⟨z0,z1,z2,z3,z4,z5,z6,z7,z8,z9,z10,z11,z12,z13⟩:=z
   cases z8
   cases z11
   rfl
  ·refine ⟨by show z.1.length≤_; omega,by show z.2.1.length≤_; omega,by show z.2.2.1.length≤_; omega,⟨by have:=h3.1; show length z.2.2.2.1≤_; omega,fun x hx=>by have:=h3.2 x hx; omega⟩,⟨by have:=h4.1; show length z.2.2.2.2.1≤_; omega,fun x hx=>by have:=h4.2 x hx; omega⟩,by show z.2.2.2.2.2.1.length≤_; omega,⟨by have:=h6.1; show length z.2.2.2.2.2.2.1≤_; omega,fun x hx=>by have:=h6.2 x hx; omega⟩,⟨by have:=h7.1; show length z.2.2.2.2.2.2.2.1≤_; omega,fun x hx=>by have:=h7.2 x hx; omega⟩,by show length z.2.2.2.2.2.2.2.2.2.1≤_; omega,⟨by have:=h10.1; show length z.2.2.2.2.2.2.2.2.2.2.1≤_; omega,fun x hx=>by have:=(h10.2 x hx).1; omega⟩,by show z.2.2.2.2.2.2.2.2.2.2.2.2.1.length≤_; omega⟩

theorem fs3 (z0:zu mz) (z1:zu eT) (z:zu K5) (hz:F3I z0 0 z) (n:Nat) (hn:40≤n):∃ r,bw Rn n (.h3 0 z0 z1 z)=some r∧PZ z0.1 r:=by
 refine kS (t:=Rn) (β:=zu K5) (min 10 (length z0.1.2.2.2.2.2.2.2.1)) (fun z i=>.h3 (i:Int) z0 z1 z) (fun z i=>F3I z0 i z) (PZ z0.1) 21 ?_ ?_ (min 10 (length z0.1.2.2.2.2.2.2.2.1)) 0 z n rfl (aV _) hz (by omega)
 ·intro z i hi hb
  obtain ⟨h0,h1,h2,h3,h4,h5,h6,h7,h8⟩:=hb
  have k1:(i:Int) < (length z0.1.2.2.2.2.2.2.2.1:Int):=by omega
  have k2:(i:Int) < 10:=by omega
  have k3:zI (i:Int) (length z0.1.2.2.2.2.2.2.2.1)=true:=zC (by omega)
  refine Or.inl ⟨(z.1,z.2.1,z.2.2.1,z.2.2.2.1,z.2.2.2.2.1,z.2.2.2.2.2.1,z.2.2.2.2.2.2.1,z.2.2.2.2.2.2.2.1++[(bP (getD z0.1.2.2.2.2.2.2.2.1 (i:Int).toNat (zj bJ)).1,bP (getD z0.1.2.2.2.2.2.2.2.1 (i:Int).toNat (zj bJ)).2)],z.2.2.2.2.2.2.2.2),⟨h0,h1,h2,h3,h4,h5,h6,?_,h8⟩,?_⟩
  rotate_left 1
  ·simp only [Rn,Tr.val,aq k1,aq k2,aR,if_true,k3,iU]
   rw [zD i (by unfold zB; omega),if_pos (by have:=h7.1; simp; omega)]
  ·refine ⟨?_,fun x hx=>?_⟩
   ·simp [h7.1]
   ·rcases bp.1 hx with hx | hx
    ·exact h7.2 x hx
    ·rw [bL] at hx
     rw [hx]; exact ⟨dZ _,dZ _⟩
 ·intro z n hb hn
  obtain ⟨n,rfl⟩:∃ k,n=k+1:=⟨n - 1,by omega⟩
  obtain ⟨h0,h1,h2,h3,h4,h5,h6,h7,h8,h9,h10,h11⟩:=hb
  rw [kR]
  have hf:(bif decide (((min 10 (length z0.1.2.2.2.2.2.2.2.1):Nat):Int) < (length z0.1.2.2.2.2.2.2.2.1:Int)) then decide (((min 10 (length z0.1.2.2.2.2.2.2.2.1):Nat):Int) < 10) else false)=false:=by
   by_cases h:10≤length z0.1.2.2.2.2.2.2.2.1
   ·rw [Nat.min_eq_left h]
    simp
   ·rw [Nat.min_eq_right (by omega)]
    simp
  simp only [Rn,Tr.val,hf]
  exact fs7 z0 z1 _ ⟨h0,h1,h2,h3,h4,h5,h6,⟨by have:=h7.1; show length z.2.2.2.2.2.2.2.1≤_; omega,h7.2⟩,h8,h9,⟨rfl,by simp⟩,h10,h11⟩ n (by omega)

theorem Gh (s:Sem zo):∃ s':Sem zo,rP s=some (s',())∧V0 s'∧SH s s':=by
 unfold rP zW bl
 simp only [i8p,Tr.val,iU,yg,if_true]
 obtain ⟨r,h1,s',h2,h3⟩:=fs3 (s,()) ([],[],[],[],[],0,0,[],[],[],0,0,[],[],[],()) (bP s.1,bP s.2.1,bP s.2.2.1,f4 s.2.2.2.1,mY s.2.2.2.2.1,
  bP s.2.2.2.2.2.1,f4 s.2.2.2.2.2.2.1,[],dY (zE s.2.2.2.2.2.2.2.2.1),kT s.2.2.2.2.2.2.2.2.2.1,dY (zE s.2.2.2.2.2.2.2.2.2.2.2.1),bP s.2.2.2.2.2.2.2.2.2.2.2.2,())
  ⟨dZ _,dZ _,dZ _,sS _,JQ _,dZ _,sS _,⟨rfl,by simp⟩,Hy _,JS _,dZ _,by simp only [zm],rfl,by simp only [zm],rfl⟩ 100000000 (by omega)
 refine ⟨s',?_,h3⟩
 rw [h1]
 exact h2
theorem Na (s:Sem zo):∃ s':Sem zo,rP s=some (s',())∧V0 s':=by
 obtain ⟨s',h1,h2,_⟩:=Gh s
 exact ⟨s',h1,h2⟩

theorem uN:Bd=some (true,()):=by kernel_rfl
theorem KZ:Fd=true:=by unfold Fd; rw [uN]; rfl
theorem Hn:yM=true:=by unfold yM; rw [uN]; rfl

theorem tI {db:List (Sem zh)} {s:Sem zo} (hs:ek s) (hr:∀ x∈db,cu x) (h:¬ (dO s=true∧aW db)):gF db s=some (db,dL 1,()):=by
 have h1:=dP hs
 have h2:=dU hr
 have h3:(bif !dO s then true else jt db != 0)=true:=by
  cases hm:dO s with
  | false=>rfl
  | true=>
   have:jt db≠(0:Int):=fun e=>h ⟨hm,(gE hr).1 e⟩
   simpa using this
 have h4:(pt s&&bif !dO s then true else tH db)=true:=by
  rw [h1,h2]
  cases dO s <;> rfl
 have hv:(OY db s).val=some (.inr (AV.tup [AV.sl zh db,AV.agg [AV.int .i64 1,AV.int .i64 0,AV.nils]],[])):=by
  simp only [OY,Tr.val,zm,Prod.eta,h3,h4,if_true,ite_self]
 exact iu hv rfl

theorem Hq {db:List (Sem zh)} {s:Sem zo} {n:List (Sem zh)} {a:Sem cw} (hs:ek s) (hr:∀ x∈db,cu x) (hm:dO s=true) (hB:aW db) (ho:s.1=Cw) (hc:ie (db,s)=some (n,a,())):
  gF db s=some (if a.1=0 then n else db,a,()):=by
 have h1:=dP hs
 have h2:=dU hr
 have h5:jt db=(0:Int):=(gE hr).2 hB
 have q0:(s.1==[99,114,101,97,116,101])=false:=by rw [ho]; rfl
 have q1:(s.1==[100,114,111,112])=false:=by rw [ho]; rfl
 have q2:(s.1==[105,110,115,101,114,116])=false:=by rw [ho]; rfl
 have q3:(s.1==[117,112,100,97,116,101])=false:=by rw [ho]; rfl
 have q4:(s.1==[100,101,108,101,116,101])=false:=by rw [ho]; rfl
 have q5:(s.1==[115,101,108,101,99,116])=true:=by rw [ho]; rfl
 have hcc:uU (db,s)=true:=by unfold uU; rw [hc]; rfl
 have hcv:Bl (db,s)=(n,a):=by unfold Bl; rw [hc]; rfl
 unfold gF zW bl
 simp only [OY,Tr.val,zm,Prod.eta,hm,h1,h2,h5,hcc,hcv,q0,q1,q2,q3,q4,q5,fk,bb,ky,mG,zH,if_true,if_false]
 by_cases h:a.1=0
 ·have h':(a.1 != 0)=false:=by simpa using h
  simp only [h',zH,if_false,if_pos h]
  rfl
 ·have h':(a.1 != 0)=true:=by simpa using h
  simp only [h',if_true,if_neg h]
  rfl
theorem Ho {db:List (Sem zh)} {s:Sem zo} {n:List (Sem zh)} {a:Sem cw} (hs:ek s) (hr:∀ x∈db,cu x) (hm:dO s=true) (hB:aW db) (ho:s.1=Wq) (hc:ij (db,s)=some (n,a,())):
  gF db s=some (if a.1=0 then n else db,a,()):=by
 have h1:=dP hs
 have h2:=dU hr
 have h5:jt db=(0:Int):=(gE hr).2 hB
 have q0:(s.1==[99,114,101,97,116,101])=false:=by rw [ho]; rfl
 have q1:(s.1==[100,114,111,112])=false:=by rw [ho]; rfl
 have q2:(s.1==[105,110,115,101,114,116])=false:=by rw [ho]; rfl
 have q3:(s.1==[117,112,100,97,116,101])=false:=by rw [ho]; rfl
 have q4:(s.1==[100,101,108,101,116,101])=true:=by rw [ho]; rfl
 have hcc:uY (db,s)=true:=by unfold uY; rw [hc]; rfl
 have hcv:Bq (db,s)=(n,a):=by unfold Bq; rw [hc]; rfl
 unfold gF zW bl
 simp only [OY,Tr.val,zm,Prod.eta,hm,h1,h2,h5,hcc,hcv,q0,q1,q2,q3,q4,fk,bb,ky,mG,zH,if_true,if_false]
 by_cases h:a.1=0
 ·have h':(a.1 != 0)=false:=by simpa using h
  simp only [h',zH,if_false,if_pos h]
  rfl
 ·have h':(a.1 != 0)=true:=by simpa using h
  simp only [h',if_true,if_neg h]
  rfl
theorem Hw {db:List (Sem zh)} {s:Sem zo} {n:List (Sem zh)} {a:Sem cw} (h:gF db s=some (n,a,())):K0 db s=true∧bDo db s=(n,a):=by
 unfold K0 bDo
 rw [h]
 exact ⟨rfl,rfl⟩
set_option maxHeartbeats 2000000

theorem wI (x:Int) (h1:-4000000000≤x) (h2:x≤4000000000):IntKind.i64.wrap x=x:=by
 rw [uE]; omega
theorem wU (x:Int) (h1:0≤x) (h2:x≤4000000000):IntKind.u64.wrap x=x:=by
 simp only [IntKind.wrap,IntKind.bits,IntKind.signed]
 simp
 omega

def kk (k:Int) (r:List (Sem zf)):Sem zf:=bif (bif decide (k < 0) then true else decide (k ≥ (↑(length r):Int))) then (0,0,[]) else getD r k.toNat (zj zf)
def Cq (k:Int) (a b:List (Sem zf)):Prop:=Ky (kk k a) (kk k b)
theorem Kg {k:Int} {a b:List (Sem zf)} (h:Cq k a b):¬ Cq k b a:=fun g=>pA (oq h g)
def Kp (k:Int) (l0 l:List (List (Sem zf))):Prop:=l.Perm l0∧(l0.Pairwise (Cq k)→l=l0)
theorem Kp.refl {k:Int} {l:List (List (Sem zf))}:Kp k l l:=⟨.refl l,fun _=>rfl⟩
theorem Kp.len {k:Int} {l0 l:List (List (Sem zf))} (h:Kp k l0 l):l.length=l0.length:=h.1.length_eq
theorem Kp.trans {k:Int} {l0 l l':List (List (Sem zf))} (h:Kp k l0 l) (g:Kp k l l'):Kp k l0 l':=⟨g.1.trans h.1,fun hr=>by
 have e:=h.2 hr
 subst e
 exact g.2 hr⟩
theorem Kp.perm {k:Int} {l l':List (List (Sem zf))} (hp:l'.Perm l) (hn:¬ l.Pairwise (Cq k)):Kp k l l':=⟨hp,fun hr=>absurd hr hn⟩
theorem ol {α:Type} {l:List α} {i j:Nat} (hi:i < l.length) (hj:j < l.length) (d:α):((l.set j (l.getD i d)).set i (l.getD j d)).Perm l:=by
 have e:((l.set j l[i]).set i l[j]).Perm l:=List.set_set_perm hj hi
 rwa [aH,aH,zJ hj,zJ hi]
theorem NV {k:Int} {l:List (List (Sem zf))} (h:l.Pairwise (Cq k)) {i j:Nat} (hij:i < j) (hj:j < l.length) (d:List (Sem zf)):Cq k (l.getD i d) (l.getD j d):=by
 have:=List.pairwise_iff_getElem.1 h i j (by omega) hj hij
 rwa [aH,aH,zJ (by omega),zJ hj]
theorem tP {k:Int} {l:List (List (Sem zf))} {i j:Nat} (hij:i < j) (hj:j < l.length) (d:List (Sem zf)) (hc:Cq k (l.getD j d) (l.getD i d)):¬ l.Pairwise (Cq k):=fun hr=>Kg hc (NV hr hij hj d)

theorem F0 {i j:Nat} (h:j < i):decide ((i:Int) > (j:Int))=true:=by simpa using h
theorem QF (n:Nat):decide ((n:Int) > (n:Int))=false:=by simp
theorem iV {i j:Nat} (h:¬ i < j):decide ((i:Int) < (j:Int))=false:=by simpa using h
theorem m4 (k:Int) (x y:List (Sem zf)):
  (bif (bif decide (k < 0) then true else decide (k ≥ (↑(length x):Int))) then bif (bif decide (k < 0) then true else decide (k ≥ (↑(length y):Int))) then be (0,0,[]) (0,0,[]) else be (0,0,[]) (getD y k.toNat (zj zf))
   else bif (bif decide (k < 0) then true else decide (k ≥ (↑(length y):Int))) then be (getD x k.toNat (zj zf)) (0,0,[]) else be (getD x k.toNat (zj zf)) (getD y k.toNat (zj zf)))=be (kk k x) (kk k y):=by
 unfold kk
 cases (bif decide (k < 0) then true else decide (k ≥ (↑(length x):Int))) <;> cases (bif decide (k < 0) then true else decide (k ≥ (↑(length y):Int))) <;> rfl
theorem MO (k:Int) (x:List (Sem zf)):(bif (bif decide (k < 0) then true else decide (k ≥ (↑(length x):Int))) then true else zI k (length x))=true:=by
 cases h:(bif decide (k < 0) then true else decide (k ≥ (↑(length x):Int))) with
 | true=>rfl
 | false=>
  cases h1:decide (k < 0) with
  | true=>rw [h1] at h; cases h
  | false=>
   rw [h1] at h
   simp only [bb,decide_eq_false_iff_not] at h h1
   simp only [bb,zI,aM,zZ]
   omega
theorem jY (k:Int) (x y:List (Sem zf)):(bif (bif decide (k < 0) then true else decide (k ≥ (↑(length x):Int))) then (bif (bif decide (k < 0) then true else decide (k ≥ (↑(length y):Int))) then true else zI k (length y))
  else zI k (length x)&&(bif (bif decide (k < 0) then true else decide (k ≥ (↑(length y):Int))) then true else zI k (length y)))=true:=by
 have h1:=MO k x
 rw [MO k y]
 cases h:(bif decide (k < 0) then true else decide (k ≥ (↑(length x):Int))) with
 | true=>rfl
 | false=>
  rw [h] at h1
  simp only [bb] at h1 ⊢
  rw [h1]
  rfl

theorem MF (l0:List (List (Sem zf))) (a b i:Nat) (k:Int) (hn:l0.length≤1000) (hi:i < 1000):∀ (m j:Nat) (l:List (List (Sem zf))),j=a+m→j < l.length→Kp k l0 l→
  ∃ l',Kp k l0 l'∧aG oR (m+1) (.h4 (a:Int) (b:Int) k (i:Int) (j:Int) l) (.h1 (a:Int) (b:Int) k ((i+1:Nat):Int) l'):=by
 intro m
 induction m with
 | zero=>
  intro j l hj hl hk
  refine ⟨l,hk,aG.of ?_⟩
  obtain rfl:j=a:=by omega
  simp only [oR,Tr.val,QF,bb,zH,if_false,if_true,zD i (by unfold zB; omega)]
 | succ m IH=>
  intro j l hj hl hk
  obtain ⟨j,rfl⟩:∃ j',j=j'+1:=⟨j - 1,by omega⟩
  have hlen:=hk.len
  have e1:decide (((j+1:Nat):Int) > (a:Int))=true:=F0 (by omega)
  have e2:zI ((j+1:Nat):Int) l.length=true:=zC hl
  have e3:decide (j+1 < l.length)=true:=by simpa using hl
  have e4:IntKind.i64.wrap (((j+1:Nat):Int) - 1)=(j:Int):=qX j (by unfold zB; omega)
  have e5:zI (j:Int) l.length=true:=zC (by omega)
  have e6:decide (j < l.length)=true:=by simp; omega
  have e8:zI (j:Int) (l.set (j+1) (l.getD j (zj zf.sl))).length=true:=by rw [jR]; exact e5
  have e9:decide (j < (l.set (j+1) (l.getD j (zj zf.sl))).length)=true:=by rw [jR]; exact e6
  by_cases hc:Cq k (l.getD (j+1) (zj zf.sl)) (l.getD j (zj zf.sl))
  ·have hsw:Kp k l ((l.set (j+1) (l.getD j (zj zf.sl))).set j (l.getD (j+1) (zj zf.sl))):=Kp.perm (ol (by omega) hl _) (tP (i:=j) (j:=j+1) (by omega) hl _ hc)
   obtain ⟨l',h1,h2⟩:=IH j _ (by omega) (by simp; omega) (hk.trans hsw)
   refine ⟨l',h1,((aG.of ?_).trans h2).mono (by omega)⟩
   have e7:decide (LT.lt (α:=Int) (be (kk k (l.getD (j+1) (zj zf.sl))) (kk k (l.getD j (zj zf.sl)))) 0)=true:=aq hc
   simp only [oR,Tr.val,e4,aQ]
   rw [jY,m4]
   simp only [e1,e2,e3,e5,e6,e7,e8,e9,aR,mG,if_true]
  ·refine ⟨l,hk,(aG.of ?_).mono (by omega)⟩
   have e7:decide (LT.lt (α:=Int) (be (kk k (l.getD (j+1) (zj zf.sl))) (kk k (l.getD j (zj zf.sl)))) 0)=false:=cx hc
   simp only [oR,Tr.val,e4,aQ]
   rw [jY,m4]
   simp only [e1,e2,e3,e5,e6,e7,e8,e9,aR,mG,if_true,zH,if_false,zD i (by unfold zB; omega)]

theorem ME (l0:List (List (Sem zf))) (a b:Nat) (k:Int) (hn:l0.length≤1000) (hb:b≤l0.length):∀ (m i:Nat) (l:List (List (Sem zf))),b - i=m→a≤i→Kp k l0 l→
  ∃ l',Kp k l0 l'∧bG oR (m * 1002+1) (.h1 (a:Int) (b:Int) k (i:Int) l) (.tup [],[.vec zf.sl l']):=by
 intro m
 induction m with
 | zero=>
  intro i l hm hi hk
  refine ⟨l,hk,(bG.of ?_).mono (by omega)⟩
  simp only [oR,Tr.val,iV (show ¬ i < b by omega),zH,if_false]
 | succ m IH=>
  intro i l hm hi hk
  have hlen:=hk.len
  obtain ⟨l1,h1,h2⟩:=MF l0 a b i k hn (by omega) (i - a) i l (by omega) (by omega) hk
  obtain ⟨l',h3,h4⟩:=IH (i+1) l1 (by omega) (by omega) h1
  refine ⟨l',h3,((aG.of ?_).trans h2 |>.ends h4).mono (by omega)⟩
  simp only [oR,Tr.val,zT (show i < b by omega),if_true]
theorem ws (l:List (List (Sem zf))) (a b:Nat) (k:Int) (hn:l.length≤1000) (ha:a≤l.length) (hb:b≤l.length):∃ l',rM l a b k=some l'∧Kp k l l':=by
 obtain ⟨l',h1,h2⟩:=ME l a b k hn hb (b - (a+1)) (a+1) l rfl (by omega) Kp.refl
 refine ⟨l',?_,h1⟩
 have:F9 l a b k=some (.tup [],[.vec zf.sl l']):=by
  unfold F9 bl HO
  rw [zD a (by unfold zB; omega)]
  have h9:b - (a+1)≤1000:=by omega
  exact h2 100000000 (cy (Nat.succ_le_succ (cN 1002 h9)) (by decide))
 unfold rM
 rw [this]
 rfl

theorem YK (l0:List (List (Sem zf))) (a b n:Nat) (hn:l0.length≤1000) (ha:a+n≤l0.length) (hb:b+n≤l0.length):∀ (m i:Nat) (l:List (List (Sem zf))),n - i=m→i≤n→l.Perm l0→
  ∃ l',l'.Perm l0∧bG AX (m+1) (.h1 (a:Int) (b:Int) (n:Int) (i:Int) l) (.tup [],[.vec zf.sl l']):=by
 intro m
 induction m with
 | zero=>
  intro i l hm hi hp
  obtain rfl:i=n:=by omega
  refine ⟨l,hp,bG.of ?_⟩
  simp only [AX,Tr.val,zY,zH,if_false]
 | succ m IH=>
  intro i l hm hi hp
  have hlen:=hp.length_eq
  have e0:IntKind.i64.wrap ((b:Int)+(i:Int))=((b+i:Nat):Int):=by rw [wI _ (by omega) (by omega)]; omega
  have e1:IntKind.i64.wrap ((a:Int)+(i:Int))=((a+i:Nat):Int):=by rw [wI _ (by omega) (by omega)]; omega
  have e2:zI ((a+i:Nat):Int) l.length=true:=zC (by omega)
  have e3:zI ((b+i:Nat):Int) l.length=true:=zC (by omega)
  have e4:decide (a+i < l.length)=true:=by simp; omega
  have e5:decide (b+i < l.length)=true:=by simp; omega
  obtain ⟨l',h1,h2⟩:=IH (i+1) ((l.set (a+i) (l.getD (b+i) (zj zf.sl))).set (b+i) (l.getD (a+i) (zj zf.sl))) (by omega) (by omega) ((ol (i:=b+i) (j:=a+i) (by omega) (by omega) _).trans hp)
  refine ⟨l',h1,((aG.of ?_).ends h2).mono (by omega)⟩
  simp only [AX,Tr.val,zT (show i < n by omega),e0,e1,e2,e3,e4,e5,aQ,jR,if_true,zD i (by unfold zB; omega)]
theorem GZ (l:List (List (Sem zf))) (a b n:Nat) (k:Int) (hn:l.length≤1000) (ha:a+n≤l.length) (hb:b+n≤l.length):∃ l',GY l a b n k=some l'∧l'.Perm l:=by
 obtain ⟨l',h1,h2⟩:=YK l a b n hn ha hb n 0 l rfl (by omega) (.refl l)
 refine ⟨l',?_,h1⟩
 have:zfV l a b n k=some (.tup [],[.vec zf.sl l']):=h2 100000000 (by omega)
 unfold GY
 rw [this]
 rfl

theorem YC (l0:List (List (Sem zf))) (m:Nat) (k:Int) (hn:l0.length≤1000):∀ (s i j:Nat) (l:List (List (Sem zf))),i+j≤s→1≤i→1≤j→i≤m→m+j≤l0.length→l.Perm l0→
  ∃ l',l'.Perm l0∧bG xD (s+1) (.h2 (m:Int) k (i:Int) (j:Int) l) (.tup [],[.vec zf.sl l']):=by
 intro s
 induction s with
 | zero=>intro i j l h h1; omega
 | succ s IH=>
  intro i j l hs h1 h2 h3 h4 hp
  have hlen:=hp.length_eq
  have e0:IntKind.i64.wrap ((m:Int) - (i:Int))=((m - i:Nat):Int):=by rw [wI _ (by omega) (by omega)]; omega
  rcases Nat.lt_trichotomy i j with h | h | h
  ·obtain ⟨l1,q1,q2⟩:=GZ l (m - i) (m+j - i) i k (by omega) (by omega) (by omega)
   obtain ⟨l',q3,q4⟩:=IH i (j - i) l1 (by omega) h1 (by omega) h3 (by omega) (q2.trans hp)
   refine ⟨l',q3,((aG.of ?_).ends q4).mono (by omega)⟩
   have c1:((i:Int) != (j:Int))=true:=by simp; omega
   have c2:decide ((i:Int) > (j:Int))=false:=by simp; omega
   have c3:IntKind.i64.wrap (IntKind.i64.wrap ((m:Int)+(j:Int)) - (i:Int))=((m+j - i:Nat):Int):=by rw [wI ((m:Int)+(j:Int)) (by omega) (by omega),wI _ (by omega) (by omega)]; omega
   have c4:IntKind.i64.wrap ((j:Int) - (i:Int))=((j - i:Nat):Int):=by rw [wI _ (by omega) (by omega)]; omega
   simp only [xD,Tr.val,e0,c1,c2,c3,c4,q1,fi,bM,if_true,zH,if_false]
  ·subst h
   obtain ⟨l1,q1,q2⟩:=GZ l (m - i) m i k (by omega) (by omega) (by omega)
   refine ⟨l1,q2.trans hp,(bG.of ?_).mono (by omega)⟩
   simp only [xD,Tr.val,e0,ky,q1,fi,bM,if_true,zH,if_false]
  ·obtain ⟨l1,q1,q2⟩:=GZ l (m - i) m j k (by omega) (by omega) (by omega)
   obtain ⟨l',q3,q4⟩:=IH (i - j) j l1 (by omega) (by omega) h2 (by omega) h4 (q2.trans hp)
   refine ⟨l',q3,((aG.of ?_).ends q4).mono (by omega)⟩
   have c1:((i:Int) != (j:Int))=true:=by simp; omega
   have c2:decide ((i:Int) > (j:Int))=true:=by simp; omega
   have c4:IntKind.i64.wrap ((i:Int) - (j:Int))=((i - j:Nat):Int):=by rw [wI _ (by omega) (by omega)]; omega
   simp only [xD,Tr.val,e0,c1,c2,c4,q1,fi,bM,if_true]
theorem YD (l:List (List (Sem zf))) (a m b:Nat) (k:Int) (hn:l.length≤1000) (ha:a < m) (hm:m < b) (hb:b≤l.length):∃ l',Ke l a m b k=some l'∧l'.Perm l:=by
 obtain ⟨l',h1,h2⟩:=YC l m k hn ((m - a)+(b - m)) (m - a) (b - m) l (aY _) (by omega) (by omega) (by omega) (by omega) (.refl l)
 refine ⟨l',?_,h1⟩
 have:YB l a m b k=some (.tup [],[.vec zf.sl l']):=by
  unfold YB bl HP
  rw [show IntKind.i64.wrap ((m:Int) - (a:Int))=((m - a:Nat):Int) by rw [wI _ (by omega) (by omega)]; omega,show IntKind.i64.wrap ((b:Int) - (m:Int))=((b - m:Nat):Int) by rw [wI _ (by omega) (by omega)]; omega]
  exact h2 100000000 (by omega)
 unfold Ke
 rw [this]
 rfl

theorem tO (i j:Nat) (h:i+j≤4000000):IntKind.i64.wrap (IntKind.u64.wrap (IntKind.i64.wrap ((i:Int)+(j:Int))) / 2)=(((i+j) / 2:Nat):Int):=by
 rw [wI ((i:Int)+(j:Int)) (by omega) (by omega),wU _ (by omega) (by omega),wI _ (by omega) (by omega)]
 omega

section
variable (o:SM) (k:Int)

theorem zfS (l:List (List (Sem zf))) (a m b:Nat) (hn:l.length≤1000) (ha:a < m) (hb:b≤l.length):∀ (s i j:Nat),j - i≤s→m≤i→i≤j→j≤b→(i=m∨¬ l.Pairwise (Cq k))→
  ∃ i',m≤i'∧i'≤b∧(i'=m∨¬ l.Pairwise (Cq k))∧aG (dJ o) (s+1) (.h3 (a:Int) k (i:Int) (j:Int) l) (.h9 (i':Int) (a:Int) l):=by
 intro s
 induction s with
 | zero=>
  intro i j h1 h2 h3 h4 h5
  refine ⟨i,h2,by omega,h5,aG.of ?_⟩
  simp only [dJ,Tr.val,iV (show ¬ i < j by omega),zH,if_false]
 | succ s IH=>
  intro i j h1 h2 h3 h4 h5
  by_cases hij:i < j
  case neg=>
   refine ⟨i,h2,by omega,h5,(aG.of ?_).mono (by omega)⟩
   simp only [dJ,Tr.val,iV hij,zH,if_false]
  have e0:=tO i j (by omega)
  have hh:i≤(i+j) / 2∧(i+j) / 2 < j:=by omega
  generalize (i+j) / 2=h at e0 hh
  have e1:zI ((h:Nat):Int) l.length=true:=zC (by omega)
  have e2:decide (h < l.length)=true:=by simp; omega
  have e3:zI ((a:Nat):Int) l.length=true:=zC (by omega)
  have e4:decide (a < l.length)=true:=by simp; omega
  by_cases hc:Cq k (l.getD h (zj zf.sl)) (l.getD a (zj zf.sl))
  ·obtain ⟨i',q1,q2,q3,q4⟩:=IH (h+1) j (by omega) (by omega) (by omega) h4 (.inr (tP (i:=a) (j:=h) (by omega) (by omega) _ hc))
   refine ⟨i',q1,q2,q3,((aG.of ?_).trans q4).mono (by omega)⟩
   have e7:decide (LT.lt (α:=Int) (be (kk k (l.getD h (zj zf.sl))) (kk k (l.getD a (zj zf.sl)))) 0)=true:=aq hc
   simp only [dJ,Tr.val,e0,aQ]
   rw [jY,m4]
   simp only [zT hij,e1,e2,e3,e4,e7,if_true,zD h (by unfold zB; omega)]
  ·obtain ⟨i',q1,q2,q3,q4⟩:=IH i h (by omega) h2 (by omega) (by omega) h5
   refine ⟨i',q1,q2,q3,((aG.of ?_).trans q4).mono (by omega)⟩
   have e7:decide (LT.lt (α:=Int) (be (kk k (l.getD h (zj zf.sl))) (kk k (l.getD a (zj zf.sl)))) 0)=false:=cx hc
   simp only [dJ,Tr.val,e0,aQ]
   rw [jY,m4]
   simp only [zT hij,e1,e2,e3,e4,e7,if_true,zH,if_false]

theorem zfT (l0:List (List (Sem zf))) (i:Nat) (hn:l0.length≤1000) (hi:i≤l0.length):∀ (s c:Nat) (l:List (List (Sem zf))),i - c≤s→l.Perm l0→
  ∃ l',l'.Perm l0∧((i≤c+1)→l'=l)∧bG (dJ o) (s+1) (.h9 (i:Int) (c:Int) l) (.tup [],[.vec zf.sl l']):=by
 intro s
 induction s with
 | zero=>
  intro c l h1 hp
  refine ⟨l,hp,fun _=>rfl,bG.of ?_⟩
  have e0:decide ((c:Int) < IntKind.i64.wrap ((i:Int) - 1))=false:=by
   by_cases h0:i=0
   ·subst h0
    rw [wI _ (by omega) (by omega)]
    simp only [decide_eq_false_iff_not]; omega
   ·rw [wI _ (by omega) (by omega)]
    simp only [decide_eq_false_iff_not]; omega
  simp only [dJ,Tr.val,e0,zH,if_false]
 | succ s IH=>
  intro c l h1 hp
  have hlen:=hp.length_eq
  by_cases hc:c+1 < i
  case neg=>
   refine ⟨l,hp,fun _=>rfl,(bG.of ?_).mono (by omega)⟩
   have e0:decide ((c:Int) < IntKind.i64.wrap ((i:Int) - 1))=false:=by
    rw [wI _ (by omega) (by omega)]
    simp only [decide_eq_false_iff_not]; omega
   simp only [dJ,Tr.val,e0,zH,if_false]
  have e0:decide ((c:Int) < IntKind.i64.wrap ((i:Int) - 1))=true:=by
   rw [wI _ (by omega) (by omega)]
   simp only [zZ]; omega
  have e1:zI ((c+1:Nat):Int) l.length=true:=zC (by omega)
  have e2:zI ((c:Nat):Int) l.length=true:=zC (by omega)
  have e3:decide (c+1 < l.length)=true:=by simp; omega
  have e4:decide (c < l.length)=true:=by simp; omega
  obtain ⟨l',q1,_,q3⟩:=IH (c+1) ((l.set c (l.getD (c+1) (zj zf.sl))).set (c+1) (l.getD c (zj zf.sl))) (by omega) ((ol (i:=c+1) (j:=c) (by omega) (by omega) _).trans hp)
  refine ⟨l',q1,fun h=>by omega,((aG.of ?_).ends q3).mono (by omega)⟩
  simp only [dJ,Tr.val,e0,zD c (by unfold zB; omega),e1,e2,e3,e4,aQ,jR,if_true]

theorem YH (l:List (List (Sem zf))) (a m:Nat) (hn:l.length≤1000) (hm:m < l.length):∀ (s i j:Nat),j - i≤s→a≤i→i≤j→j≤m→(j=m∨¬ l.Pairwise (Cq k))→
  ∃ i',a≤i'∧i'≤m∧(i'=m∨¬ l.Pairwise (Cq k))∧aG (dJ o) (s+1) (.h15 (m:Int) k (i:Int) (j:Int) l) (.h21 (i':Int) (m:Int) l):=by
 intro s
 induction s with
 | zero=>
  intro i j h1 h2 h3 h4 h5
  refine ⟨i,h2,by omega,h5.imp (fun h=>by omega) id,aG.of ?_⟩
  simp only [dJ,Tr.val,iV (show ¬ i < j by omega),zH,if_false]
 | succ s IH=>
  intro i j h1 h2 h3 h4 h5
  by_cases hij:i < j
  case neg=>
   refine ⟨i,h2,by omega,h5.imp (fun h=>by omega) id,(aG.of ?_).mono (by omega)⟩
   simp only [dJ,Tr.val,iV hij,zH,if_false]
  have e0:=tO i j (by omega)
  have hh:i≤(i+j) / 2∧(i+j) / 2 < j:=by omega
  generalize (i+j) / 2=h at e0 hh
  have e1:zI ((h:Nat):Int) l.length=true:=zC (by omega)
  have e2:decide (h < l.length)=true:=by simp; omega
  have e3:zI ((m:Nat):Int) l.length=true:=zC (by omega)
  have e4:decide (m < l.length)=true:=by simp; omega
  by_cases hc:Cq k (l.getD m (zj zf.sl)) (l.getD h (zj zf.sl))
  ·obtain ⟨i',q1,q2,q3,q4⟩:=IH i h (by omega) h2 (by omega) (by omega) (.inr (tP (i:=h) (j:=m) (by omega) (by omega) _ hc))
   refine ⟨i',q1,q2,q3,((aG.of ?_).trans q4).mono (by omega)⟩
   have e7:decide (LT.lt (α:=Int) (be (kk k (l.getD m (zj zf.sl))) (kk k (l.getD h (zj zf.sl)))) 0)=true:=aq hc
   simp only [dJ,Tr.val,e0,aQ]
   rw [jY,m4]
   simp only [zT hij,e1,e2,e3,e4,e7,if_true,fk,zH,if_false]
  ·obtain ⟨i',q1,q2,q3,q4⟩:=IH (h+1) j (by omega) (by omega) (by omega) h4 h5
   refine ⟨i',q1,q2,q3,((aG.of ?_).trans q4).mono (by omega)⟩
   have e7:decide (LT.lt (α:=Int) (be (kk k (l.getD m (zj zf.sl))) (kk k (l.getD h (zj zf.sl)))) 0)=false:=cx hc
   simp only [dJ,Tr.val,e0,aQ]
   rw [jY,m4]
   simp only [zT hij,e1,e2,e3,e4,e7,if_true,pH,zD h (by unfold zB; omega)]

theorem YI (l0:List (List (Sem zf))) (i:Nat) (hn:l0.length≤1000):∀ (s c:Nat) (l:List (List (Sem zf))),c - i≤s→c < l0.length→l.Perm l0→
  ∃ l',l'.Perm l0∧(c≤i→l'=l)∧bG (dJ o) (s+1) (.h21 (i:Int) (c:Int) l) (.tup [],[.vec zf.sl l']):=by
 intro s
 induction s with
 | zero=>
  intro c l h1 hcl hp
  refine ⟨l,hp,fun _=>rfl,bG.of ?_⟩
  have e0:decide ((c:Int) > (i:Int))=false:=by simp; omega
  simp only [dJ,Tr.val,e0,zH,if_false]
 | succ s IH=>
  intro c l h1 hcl hp
  have hlen:=hp.length_eq
  by_cases hc:i < c
  case neg=>
   refine ⟨l,hp,fun _=>rfl,(bG.of ?_).mono (by omega)⟩
   have e0:decide ((c:Int) > (i:Int))=false:=by simp; omega
   simp only [dJ,Tr.val,e0,zH,if_false]
  obtain ⟨c,rfl⟩:∃ c',c=c'+1:=⟨c - 1,by omega⟩
  have e0:decide (((c+1:Nat):Int) > (i:Int))=true:=F0 hc
  have e1:zI ((c+1:Nat):Int) l.length=true:=zC (by omega)
  have e2:zI ((c:Nat):Int) l.length=true:=zC (by omega)
  have e3:decide (c+1 < l.length)=true:=by simp; omega
  have e4:decide (c < l.length)=true:=by simp; omega
  have e5:IntKind.i64.wrap (((c+1:Nat):Int) - 1)=(c:Int):=qX c (by unfold zB; omega)
  obtain ⟨l',q1,_,q3⟩:=IH c ((l.set (c+1) (l.getD c (zj zf.sl))).set c (l.getD (c+1) (zj zf.sl))) (by omega) (by omega) ((ol (i:=c) (j:=c+1) (by omega) (by omega) _).trans hp)
  refine ⟨l',q1,fun h=>by omega,((aG.of ?_).ends q3).mono (by omega)⟩
  simp only [dJ,Tr.val,e0,e5,e1,e2,e3,e4,aQ,jR,if_true]
end

section
variable (o:SM) (k:Int)

theorem OE (l:List (List (Sem zf))) (a m b mid n p lo r0:Nat) (hn:l.length≤1000) (hr0:r0≤1000) (hp:p≤2000) (hB:∀ c,lo≤c→c < r0→c+c < p∧p < l.length+c):∀ (s i j:Nat),j - i≤s→lo≤i→i≤j→j≤r0→(j=r0∨¬ l.Pairwise (Cq k))→
  ∃ i',lo≤i'∧i'≤r0∧(i'=r0∨¬ l.Pairwise (Cq k))∧aG (dJ o) s (.h33 (a:Int) (m:Int) (b:Int) k (mid:Int) (n:Int) (i:Int) (j:Int) (p:Int) l) (.h33 (a:Int) (m:Int) (b:Int) k (mid:Int) (n:Int) (i':Int) (i':Int) (p:Int) l):=by
 intro s
 induction s with
 | zero=>
  intro i j h1 h2 h3 h4 h5
  obtain rfl:i=j:=by omega
  exact ⟨i,h2,h4,h5,aG.refl _⟩
 | succ s IH=>
  intro i j h1 h2 h3 h4 h5
  by_cases hij:i < j
  case neg=>
   obtain rfl:i=j:=by omega
   exact ⟨i,h2,h4,h5,(aG.refl _).mono (by omega)⟩
  have e0:=tO i j (by omega)
  have hh:i≤(i+j) / 2∧(i+j) / 2 < j:=by omega
  generalize (i+j) / 2=h at e0 hh
  obtain ⟨b1,b2⟩:=hB h (by omega) (by omega)
  have e5:IntKind.i64.wrap ((p:Int) - (h:Int))=((p - h:Nat):Int):=by rw [wI _ (by omega) (by omega)]; omega
  have e1:zI ((h:Nat):Int) l.length=true:=zC (by omega)
  have e2:decide (h < l.length)=true:=by simp; omega
  have e3:zI ((p - h:Nat):Int) l.length=true:=zC (by omega)
  have e4:decide (p - h < l.length)=true:=by simp; omega
  by_cases hc:Cq k (l.getD (p - h) (zj zf.sl)) (l.getD h (zj zf.sl))
  ·obtain ⟨i',q1,q2,q3,q4⟩:=IH i h (by omega) h2 (by omega) (by omega) (.inr (tP (i:=h) (j:=p - h) (by omega) (by omega) _ hc))
   refine ⟨i',q1,q2,q3,((aG.of ?_).trans q4).mono (by omega)⟩
   have e7:decide (LT.lt (α:=Int) (be (kk k (l.getD (p - h) (zj zf.sl))) (kk k (l.getD h (zj zf.sl)))) 0)=true:=aq hc
   simp only [dJ,Tr.val,e0,e5,aQ]
   rw [jY,m4]
   simp only [zT hij,e1,e2,e3,e4,e7,if_true,fk,zH,if_false]
  ·obtain ⟨i',q1,q2,q3,q4⟩:=IH (h+1) j (by omega) (by omega) (by omega) h4 h5
   refine ⟨i',q1,q2,q3,((aG.of ?_).trans q4).mono (by omega)⟩
   have e7:decide (LT.lt (α:=Int) (be (kk k (l.getD (p - h) (zj zf.sl))) (kk k (l.getD h (zj zf.sl)))) 0)=false:=cx hc
   simp only [dJ,Tr.val,e0,e5,aQ]
   rw [jY,m4]
   simp only [zT hij,e1,e2,e3,e4,e7,if_true,pH,zD h (by unfold zB; omega)]

theorem Qf {a b c d:Nat}:(bif decide ((a:Int) < (b:Int)) then decide ((c:Int) < (d:Int)) else false)=decide (a < b∧c < d):=by
 by_cases h:a < b
 ·have:decide ((a:Int) < (b:Int))=true:=by simpa using h
  rw [this]
  simp [h]
 ·have:decide ((a:Int) < (b:Int))=false:=by simpa using h
  rw [this]
  simp [h]

theorem OD {D:Nat} (hO:∀ (l:List (List (Sem zf))) (a m b:Nat),l.length≤1000→a < m→m < b→b≤l.length→b - a≤D→∃ l',o l a m b k=some l'∧Kp k l l') (l:List (List (Sem zf))) (a m b mid n st en:Nat) (p:Int) (hn:l.length≤1000) (hb:b≤l.length) (he:n=st+en) (_:n≤2000)
  (_:a≤st) (h2:en≤b) (h3:mid - a≤D) (h4:b - mid≤D) (hmb:mid≤b) (hr:st < m→m < en→¬ l.Pairwise (Cq k)):
  ∃ l',Kp k l l'∧(dJ o (.h33 (a:Int) (m:Int) (b:Int) k (mid:Int) (n:Int) (st:Int) (st:Int) p l)).val=some (.inr (.tup [],[.vec zf.sl l'])):=by
 have e0:IntKind.i64.wrap ((n:Int) - (st:Int))=(en:Int):=by rw [wI _ (by omega) (by omega)]; omega
 have e1:decide ((st:Int) < (st:Int))=false:=by simp
 obtain ⟨l1,p1,p2⟩:∃ l1,Kp k l l1∧(if st < m∧m < en then Ke l st m en k=some l1 else l1=l):=by
  by_cases h:st < m∧m < en
  ·obtain ⟨l1,q1,q2⟩:=YD l st m en k hn h.1 h.2 (by omega)
   exact ⟨l1,Kp.perm q2 (hr h.1 h.2),by rw [if_pos h]; exact q1⟩
  ·exact ⟨l,Kp.refl,by rw [if_neg h]⟩
 obtain ⟨l2,p3,p4⟩:∃ l2,Kp k l1 l2∧(if a < st∧st < mid then o l1 a st mid k=some l2 else l2=l1):=by
  by_cases h:a < st∧st < mid
  ·obtain ⟨l2,q1,q2⟩:=hO l1 a st mid (by rw [p1.len]; exact hn) h.1 h.2 (by rw [p1.len]; omega) h3
   exact ⟨l2,q2,by rw [if_pos h]; exact q1⟩
  ·exact ⟨l1,Kp.refl,by rw [if_neg h]⟩
 obtain ⟨l3,p5,p6⟩:∃ l3,Kp k l2 l3∧(if mid < en∧en < b then o l2 mid en b k=some l3 else l3=l2):=by
  by_cases h:mid < en∧en < b
  ·obtain ⟨l3,q1,q2⟩:=hO l2 mid en b (by rw [p3.len,p1.len]; exact hn) h.1 h.2 (by rw [p3.len,p1.len]; omega) h4
   exact ⟨l3,q2,by rw [if_pos h]; exact q1⟩
  ·exact ⟨l2,Kp.refl,by rw [if_neg h]⟩
 refine ⟨l3,(p1.trans p3).trans p5,?_⟩
 simp only [dJ,Tr.val,e0,e1,Qf,zH,if_false]
 by_cases c1:st < m∧m < en
 ·rw [if_pos c1] at p2
  by_cases c2:a < st∧st < mid
  ·rw [if_pos c2] at p4
   by_cases c3:mid < en∧en < b
   ·rw [if_pos c3] at p6
    simp only [aq c1,aq c2,aq c3,p2,p4,p6,fi,bM,if_true]
   ·rw [if_neg c3] at p6
    subst p6
    simp only [aq c1,aq c2,cx c3,p2,p4,fi,bM,if_true,zH,if_false]
  ·rw [if_neg c2] at p4
   subst p4
   by_cases c3:mid < en∧en < b
   ·rw [if_pos c3] at p6
    simp only [aq c1,cx c2,aq c3,p2,p6,fi,bM,if_true,zH,if_false]
   ·rw [if_neg c3] at p6
    subst p6
    simp only [aq c1,cx c2,cx c3,p2,fi,bM,if_true,zH,if_false]
 ·rw [if_neg c1] at p2
  subst p2
  by_cases c2:a < st∧st < mid
  ·rw [if_pos c2] at p4
   by_cases c3:mid < en∧en < b
   ·rw [if_pos c3] at p6
    simp only [cx c1,aq c2,aq c3,p4,p6,fi,bM,if_true,zH,if_false]
   ·rw [if_neg c3] at p6
    subst p6
    simp only [cx c1,aq c2,cx c3,p4,fi,bM,if_true,zH,if_false]
  ·rw [if_neg c2] at p4
   subst p4
   by_cases c3:mid < en∧en < b
   ·rw [if_pos c3] at p6
    simp only [cx c1,cx c2,aq c3,p6,fi,bM,if_true,zH,if_false]
   ·rw [if_neg c3] at p6
    subst p6
    simp only [cx c1,cx c2,cx c3,zH,if_false]
end

theorem Cz {o:SM} {l l':List (List (Sem zf))} {a m b k:Int} (h:bl (dJ o) 100000000 (sP o l a m b k)=some (.tup [],[.vec zf.sl l'])):smS o l a m b k=some l':=by
 unfold smS
 rw [h]
 rfl

theorem OF (k:Int):∀ (N:Nat) (l:List (List (Sem zf))) (a m b:Nat),l.length≤1000→a < m→m < b→b≤l.length→b - a≤2 ^ N→∃ l',xA N l a m b k=some l'∧Kp k l l'
 | 0,_,a,m,b,_,h1,h2,_,h4=>by simp at h4; omega
 | N+1,l,a,m,b,hn,h1,h2,h3,h4=>by
  have hO:=OF k N
  have e0:IntKind.i64.wrap ((m:Int) - (a:Int))=((m - a:Nat):Int):=by rw [wI _ (by omega) (by omega)]; omega
  have e1:IntKind.i64.wrap ((b:Int) - (m:Int))=((b - m:Nat):Int):=by rw [wI _ (by omega) (by omega)]; omega
  by_cases c1:m - a=1
  ·obtain ⟨i',q1,q2,q3,q4⟩:=zfS (xA N) k l a m b hn h1 h3 (b - m) m b (aY _) (aY _) (by omega) (aY _) (.inl rfl)
   obtain ⟨l',r1,r2,r3⟩:=zfT (xA N) l i' hn (by omega) (i' - a) a l (aY _) (.refl l)
   refine ⟨l',Cz ?_,?_⟩
   ·have c1':(((m - a:Nat):Int)==1)=true:=by rw [c1]; rfl
    unfold bl
    simp only [sP,Tr.val,e0,c1',if_true]
    exact (q4.ends r3) 100000000 (by omega)
   ·rcases q3 with rfl | q3
    ·rw [r2 (by omega)]; exact Kp.refl
    ·exact Kp.perm r1 q3
  have c1':(((m - a:Nat):Int)==1)=false:=by simp; omega
  by_cases c2:b - m=1
  ·obtain ⟨i',q1,q2,q3,q4⟩:=YH (xA N) k l a m hn (by omega) (m - a) a m (aY _) (aY _) (by omega) (aY _) (.inl rfl)
   obtain ⟨l',r1,r2,r3⟩:=YI (xA N) l i' hn (m - i') m l (aY _) (by omega) (.refl l)
   refine ⟨l',Cz ?_,?_⟩
   ·have c2':(((b - m:Nat):Int)==1)=true:=by rw [c2]; rfl
    unfold bl
    simp only [sP,Tr.val,e0,e1,c1',c2',if_true,zH,if_false]
    exact (q4.ends r3) 100000000 (by omega)
   ·rcases q3 with rfl | q3
    ·rw [r2 (aY _)]; exact Kp.refl
    ·exact Kp.perm r1 q3
  have c2':(((b - m:Nat):Int)==1)=false:=by simp; omega
  have e2:=tO a b (by omega)
  have hmid:a≤(a+b) / 2∧(a+b) / 2≤b∧2 * ((a+b) / 2)≤a+b∧a+b≤2 * ((a+b) / 2)+1:=by omega
  generalize (a+b) / 2=mid at e2 hmid
  obtain ⟨g1,g2,g3,g4⟩:=hmid
  have hD:mid - a≤2 ^ N∧b - mid≤2 ^ N:=by rw [Nat.pow_succ] at h4; omega
  have e3:IntKind.i64.wrap ((mid:Int)+(m:Int))=((mid+m:Nat):Int):=by rw [wI _ (by omega) (by omega)]; omega
  have e4:IntKind.i64.wrap (((mid+m:Nat):Int) - 1)=((mid+m - 1:Nat):Int):=by rw [wI _ (by omega) (by omega)]; omega
  by_cases c3:mid < m
  ·
   have e5:IntKind.i64.wrap (((mid+m:Nat):Int) - (b:Int))=((mid+m - b:Nat):Int):=by rw [wI _ (by omega) (by omega)]; omega
   have c3':decide ((m:Int) > (mid:Int))=true:=F0 c3
   obtain ⟨st,q1,q2,q3,q4⟩:=OE (xA N) k l a m b mid (mid+m) (mid+m - 1) (mid+m - b) mid hn (by omega) (by omega) (fun c u1 u2=>by omega) (mid - (mid+m - b)) (mid+m - b) mid (aY _) (aY _) (by omega) (aY _) (.inl rfl)
   obtain ⟨l',r1,r2⟩:=OD (xA N) k hO l a m b mid (mid+m) st (mid+m - st) ((mid+m - 1:Nat):Int) hn h3 (by omega) (by omega) (by omega) (by omega) hD.1 hD.2 g2 (fun u1 u2=>by
    rcases q3 with rfl | q3
    ·omega
    ·exact q3)
   refine ⟨l',Cz ?_,r1⟩
   unfold bl
   simp only [sP,Tr.val,e0,e1,e2,e3,e4,e5,c1',c2',c3',if_true,zH,if_false]
   exact (q4.ends (bG.of r2)) 100000000 (by omega)
  ·have c3':decide ((m:Int) > (mid:Int))=false:=by simp; omega
   obtain ⟨st,q1,q2,q3,q4⟩:=OE (xA N) k l a m b mid (mid+m) (mid+m - 1) a m hn (by omega) (by omega) (fun c u1 u2=>by omega) (m - a) a m (aY _) (aY _) (by omega) (aY _) (.inl rfl)
   obtain ⟨l',r1,r2⟩:=OD (xA N) k hO l a m b mid (mid+m) st (mid+m - st) ((mid+m - 1:Nat):Int) hn h3 (by omega) (by omega) (by omega) (by omega) hD.1 hD.2 g2 (fun u1 u2=>by
    rcases q3 with rfl | q3
    ·omega
    ·exact q3)
   refine ⟨l',Cz ?_,r1⟩
   unfold bl
   simp only [sP,Tr.val,e0,e1,e2,e3,e4,c1',c2',c3',if_true,zH,if_false]
   exact (q4.ends (bG.of r2)) 100000000 (by omega)

theorem ziD (k:Int) (l0:List (List (Sem zf))) (bs:Nat) (hn:l0.length≤1000) (hb:1≤bs) (hb2:bs≤1000):∀ (s a:Nat) (l:List (List (Sem zf))),l0.length - a≤s→a≤l0.length→Kp k l0 l→
  ∃ l',Kp k l0 l'∧aG iN (s+1) (.h9 (l0.length:Int) k (bs:Int) (a:Int) ((a+2 * bs:Nat):Int) l) (.h7 (l0.length:Int) k ((2 * bs:Nat):Int) l'):=by
 intro s
 induction s with
 | zero=>
  intro a l hs ha hk
  refine ⟨l,hk,aG.of ?_⟩
  have e0:IntKind.i64.wrap ((a:Int)+(bs:Int))=((a+bs:Nat):Int):=by rw [wI _ (by omega) (by omega)]; omega
  have e1:IntKind.i64.wrap ((bs:Int) * 2)=((2 * bs:Nat):Int):=by rw [wI _ (by omega) (by omega)]; omega
  have e2:decide (((a+2 * bs:Nat):Int)≤(l0.length:Int))=false:=by simp; omega
  simp only [iN,Tr.val,e0,e1,e2,iV (show ¬ a+bs < l0.length by omega),zH,if_false]
 | succ s IH=>
  intro a l hs ha hk
  have hlen:=hk.len
  have e0:IntKind.i64.wrap ((a:Int)+(bs:Int))=((a+bs:Nat):Int):=by rw [wI _ (by omega) (by omega)]; omega
  have e1:IntKind.i64.wrap ((bs:Int) * 2)=((2 * bs:Nat):Int):=by rw [wI _ (by omega) (by omega)]; omega
  have e3:IntKind.i64.wrap (((a+2 * bs:Nat):Int)+IntKind.i64.wrap (2 * (bs:Int)))=((a+2 * bs+2 * bs:Nat):Int):=by rw [wI (2 * (bs:Int)) (by omega) (by omega),wI _ (by omega) (by omega)]; omega
  by_cases c1:a+2 * bs≤l0.length
  ·obtain ⟨l1,q1,q2⟩:=OF k 16 l a (a+bs) (a+2 * bs) (by omega) (by omega) (by omega) (by omega) (by simp; omega)
   obtain ⟨l',q3,q4⟩:=IH (a+2 * bs) l1 (by omega) c1 (hk.trans q2)
   refine ⟨l',q3,((aG.of ?_).trans q4).mono (by omega)⟩
   have e2:decide (((a+2 * bs:Nat):Int)≤(l0.length:Int))=true:=by simp; omega
   simp only [iN,Tr.val,e0,e2,e3,q1,fi,bM,if_true]
  ·have e2:decide (((a+2 * bs:Nat):Int)≤(l0.length:Int))=false:=by simp; omega
   by_cases c2:a+bs < l0.length
   ·obtain ⟨l1,q1,q2⟩:=OF k 16 l a (a+bs) l0.length (by omega) (by omega) c2 (by omega) (by simp; omega)
    refine ⟨l1,hk.trans q2,(aG.of ?_).mono (by omega)⟩
    simp only [iN,Tr.val,e0,e1,e2,zT c2,q1,fi,bM,if_true,zH,if_false]
   ·refine ⟨l,hk,(aG.of ?_).mono (by omega)⟩
    simp only [iN,Tr.val,e0,e1,e2,iV c2,zH,if_false]

theorem ziC (k:Int) (l0:List (List (Sem zf))) (hn:l0.length≤1000):∀ (s bs:Nat) (l:List (List (Sem zf))),l0.length - bs≤s→1≤bs→Kp k l0 l→
  ∃ l',Kp k l0 l'∧bG iN (s * 1002+1) (.h7 (l0.length:Int) k (bs:Int) l) (.tup [],[.vec zf.sl l']):=by
 intro s
 induction s with
 | zero=>
  intro bs l hs hb hk
  refine ⟨l,hk,(bG.of ?_).mono (by omega)⟩
  simp only [iN,Tr.val,iV (show ¬ bs < l0.length by omega),zH,if_false]
 | succ s IH=>
  intro bs l hs hb hk
  by_cases c:bs < l0.length
  case neg=>
   refine ⟨l,hk,(bG.of ?_).mono (by omega)⟩
   simp only [iN,Tr.val,iV c,zH,if_false]
  obtain ⟨l1,q1,q2⟩:=ziD k l0 bs hn hb (by omega) l0.length 0 l (by omega) (by omega) hk
  obtain ⟨l',q3,q4⟩:=IH (2 * bs) l1 (by omega) (by omega) q1
  refine ⟨l',q3,(((aG.of ?_).trans q2).ends q4).mono (by omega)⟩
  have e1:IntKind.i64.wrap (2 * (bs:Int))=((0+2 * bs:Nat):Int):=by rw [wI _ (by omega) (by omega)]; omega
  simp only [iN,Tr.val,zT c,e1,if_true]
  rfl

theorem ziB (k:Int) (l0:List (List (Sem zf))) (hn:l0.length≤1000):∀ (s a:Nat) (l:List (List (Sem zf))),l0.length - a≤s→a≤l0.length→Kp k l0 l→
  ∃ l',Kp k l0 l'∧aG iN (s+1) (.h2 (l0.length:Int) k 20 (a:Int) ((a+20:Nat):Int) l) (.h7 (l0.length:Int) k 20 l'):=by
 intro s
 induction s with
 | zero=>
  intro a l hs ha hk
  have hlen:=hk.len
  obtain ⟨l1,q1,q2⟩:=ws l a l0.length k (by omega) (by omega) (by omega)
  refine ⟨l1,hk.trans q2,aG.of ?_⟩
  have e2:decide (((a+20:Nat):Int)≤(l0.length:Int))=false:=by simp; omega
  simp only [iN,Tr.val,e2,q1,fi,bM,if_true,zH,if_false]
 | succ s IH=>
  intro a l hs ha hk
  have hlen:=hk.len
  by_cases c:a+20≤l0.length
  ·obtain ⟨l1,q1,q2⟩:=ws l a (a+20) k (by omega) (by omega) (by omega)
   obtain ⟨l',q3,q4⟩:=IH (a+20) l1 (by omega) c (hk.trans q2)
   refine ⟨l',q3,((aG.of ?_).trans q4).mono (by omega)⟩
   have e2:decide (((a+20:Nat):Int)≤(l0.length:Int))=true:=by simp; omega
   have e3:IntKind.i64.wrap (((a+20:Nat):Int)+20)=((a+20+20:Nat):Int):=by rw [wI _ (by omega) (by omega)]; omega
   simp only [iN,Tr.val,e2,e3,q1,fi,bM,if_true]
  ·obtain ⟨l1,q1,q2⟩:=ws l a l0.length k (by omega) (by omega) (by omega)
   refine ⟨l1,hk.trans q2,(aG.of ?_).mono (by omega)⟩
   have e2:decide (((a+20:Nat):Int)≤(l0.length:Int))=false:=by simp; omega
   simp only [iN,Tr.val,e2,q1,fi,bM,if_true,zH,if_false]

theorem Rh (k:Int) (l:List (List (Sem zf))) (hn:l.length≤1000):∃ l',EP l (l.length:Int) k=some l'∧Kp k l l':=by
 obtain ⟨l1,q1,q2⟩:=ziB k l hn l.length 0 l (by omega) (by omega) Kp.refl
 obtain ⟨l',q3,q4⟩:=ziC k l hn l.length 20 l1 (by omega) (by omega) q1
 refine ⟨l',?_,q3⟩
 have:TY l (l.length:Int) k=some (.tup [],[.vec zf.sl l']):=by
  have h9:=cN 1002 hn
  exact (q2.ends q4) 100000000 (by
   refine cy (Nat.add_le_add (Nat.succ_le_succ h9) (Nat.succ_le_succ hn)) (by decide))
 unfold EP
 rw [this]
 rfl
theorem EO (k:Int) (l:List (List (Sem zf))) (hn:l.length≤1000):∃ l',si l k=some l'∧Kp k l l':=by
 obtain ⟨l',q1,q2⟩:=Rh k l hn
 refine ⟨l',?_,q2⟩
 have:GV l k=some (.tup [],[.vec zf.sl l']):=by
  unfold GV bl
  simp only [HN,Tr.val,q1,fi,bM,if_true]
 unfold si
 rw [this]
 rfl

theorem Oh {x:Sem zh} (hc:Fh x=true) (hn:x.2.length≤1000):∃ l',Ci x=some ((x.1,l'),())∧l'.Perm x.2∧(gn x.1=true→Kp x.1.2.2.1 x.2 l'):=by
 have fin:∀ l':List (List (Sem zf)),ah [AO.vec zi x.1.2.1,AO.vec zg x.1.2.2.2.1,AO.vec zq x.1.2.2.2.2.1,AO.vec zf.sl l'] [zh] (AV.agg [AV.str x.1.1,AV.vec 0,AV.int .i64 x.1.2.2.1,AV.vec 1,AV.vec 2,AV.str (ze.op x.1.2.2.2.2.2),AV.int .i64 (ze.v x.1.2.2.2.2.2).1,AV.int .i64 (ze.v x.1.2.2.2.2.2).2.1,AV.str (ze.v x.1.2.2.2.2.2).2.2,AV.str (ze.s x.1.2.2.2.2.2),AV.sl Sh.expr (ze.l x.1.2.2.2.2.2),AV.vec 3])=some (((x.1,l'):Sem zh),()):=by
  intro l'
  obtain ⟨⟨a,b,c,d,e,f⟩,r⟩:=x
  cases f
  rfl
 cases hm:gn x.1 with
 | true=>
  obtain ⟨l',q1,q2⟩:=EO x.1.2.2.1 x.2 hn
  refine ⟨l',iu (r:=(_,_)) ?_ (fin l'),q2.1,fun _=>q2⟩
  simp only [Xd,Tr.val,zm,Prod.eta,hc,hm,q1,fi,bM,fk,zH,if_true,if_false]
 | false=>
  obtain ⟨l',q1,q2⟩:=EO (-1) x.2 hn
  refine ⟨l',iu (r:=(_,_)) ?_ (fin l'),q2.1,fun h=>(by cases h)⟩
  simp only [Xd,Tr.val,zm,Prod.eta,hc,hm,q1,fi,bM,pH,if_true]

theorem pz {a0 a1 a2 a3 a4 a5 a6 a7 a8 a9 b0 b1 b2 b3 b4 b5 b6 d0 d1 d2 d3 d4 d5 d6 d7 d8 d9}:∀ (l:List (Sem zq)) (i:Int) (acc:List (Sem zq)),
  (gk a0 a1 a2 a3 a4 a5 a6 a7 a8 a9 b0 b1 b2 b3 b4 b5 b6 d0 d1 d2 d3 d4 d5 d6 d7 d8 d9 l i acc).2.2.2.2.2=ze.mk d3 (d4,d5,d6) d7 d8
 | [],_,_=>rfl
 | x::r,i,acc=>by
  rw [gk]
  split
  ·exact pz r (i+1) _
  ·rfl
theorem xE {a0 a1 a2 a3 a4 a5 a6 a7 a8 a9 b0 b1 b2 b3 b4 b5 b6 d0 d1 d2 d3 d4 d5 d6 d7 d8 d9}:∀ (l:List (Sem zg)) (i:Int) (acc:List (Sem zg)),
  (fK a0 a1 a2 a3 a4 a5 a6 a7 a8 a9 b0 b1 b2 b3 b4 b5 b6 d0 d1 d2 d3 d4 d5 d6 d7 d8 d9 l i acc).2.2.2.2.2=ze.mk d3 (d4,d5,d6) d7 d8
 | [],i,acc=>by
  rw [fK]
  exact pz _ _ _
 | x::r,i,acc=>by
  rw [fK]
  split
  ·exact xE r (i+1) _
  ·exact pz _ _ _
theorem Ro (t:Sem zw):kC 16 (ll t).2.2.2.2.2=true:=by
 have h:(ll t).2.2.2.2.2=dY t.2.2.2.2.2:=by
  unfold ll
  rw [xE]
  exact ze.eta _
 rw [h]
 exact Hy _

structure ch (x:Sem zh):Prop where
 sh:cu x
 cp:kC 16 x.1.2.2.2.2.2=true

theorem BV (x:Sem zh):ch (sU x):=by
 refine ⟨D7 x,?_⟩
 obtain ⟨rows,h1,h2⟩:=wu x
 have h3:sU x=(ll x.1,rows):=by unfold sU; rw [h2]; rfl
 rw [h3]
 exact Ro x.1

theorem JP (db:List (Sem zh)):∃ db':List (Sem zh),wv db=some (db',())∧db'.length≤13∧∀ x∈db',ch x:=by
 have h:=kS (t:=t7p) (β:=List (Sem zh)) (min 13 db.length) (fun b i=>.h3 db (i:Int) b) (fun b i=>b.length=i∧∀ x∈b,ch x) (fun r=>∃ db':List (Sem zh),ah r.2 [zh.sl] r.1=some (db',())∧db'.length≤13∧∀ x∈db',ch x) 1 (by
   intro b i hi hb
   have h1:(i:Int) < (db.length:Int):=by omega
   have h2:(i:Int) < 13:=by omega
   have h3:zI (i:Int) db.length=true:=zC (by omega)
   refine Or.inl ⟨b++[sU (db.getD (i:Int).toNat (zj zh))],⟨by simp [hb.1],?_⟩,?_⟩
   ·intro x hx
    rcases bp.1 hx with hx | hx
    ·exact hb.2 x hx
    ·rw [bL] at hx
     rw [hx]; exact BV _
   ·simp only [t7p,Tr.val,aq h1,aq h2,aR,if_true,h3,zm,Prod.eta,D6]
    rw [zD i (by unfold zB; omega),if_pos (by simp; omega)]) (by
   intro b n hb hn
   obtain ⟨n,rfl⟩:∃ k,n=k+1:=⟨n - 1,by omega⟩
   rw [kR]
   have hf:(bif decide (((min 13 db.length:Nat):Int) < (db.length:Int)) then decide (((min 13 db.length:Nat):Int) < 13) else false)=false:=by
    by_cases h:13≤db.length
    ·rw [Nat.min_eq_left h]
     simp
    ·rw [Nat.min_eq_right (by omega)]
     simp
   simp only [t7p,Tr.val,hf]
   exact ⟨_,rfl,b,rfl,by omega,hb.2⟩) (min 13 db.length) 0 [] 100000000 rfl (aV _) ⟨rfl,by simp⟩ (by omega)
 obtain ⟨r,h1,db',h2,h3,h4⟩:=h
 refine ⟨db',?_,h3,h4⟩
 unfold wv zW bl
 simp only [i7p,Tr.val]
 have h1':bw t7p 100000000 (.h3 db 0 [])=some r:=h1
 rw [h1']
 exact h2
set_option maxHeartbeats 1000000

def Ins (n:zp) (r:List (Sem zf)) (db d:List (Sem zh)):Prop:=
 ∃ (i:Nat) (s:List (List (Sem zf))),zO db n=(i:Int)∧s.Perm ((db.getD i (zj zh)).2++[r])∧d=db.set i ((db.getD i (zj zh)).1,s)∧aW d
inductive C2 (n:zp) (db:List (Sem zh)):List (List (Sem zf))→List (Sem zh)→Prop
 | nil:C2 n db [] db
 | snoc {l:List (List (Sem zf))} {d:List (Sem zh)} {r:List (Sem zf)} {d':List (Sem zh)} (h:C2 n db l d) (hi:Ins n r d d'):C2 n db (l++[r]) d'

theorem EM {α:Type} {l:List α} {i:Nat} {d:α}:l.set i (l.getD i d)=l:=by
 refine yG fun j=>?_
 rw [jP]
 by_cases e:i=j
 ·subst e
  rw [if_pos rfl]
  by_cases hi:i < l.length
  ·rw [if_pos hi,aH,zJ hi]; rfl
  ·rw [if_neg hi,dg (by omega)]
 ·rw [if_neg e]
theorem Mb {α:Type} {l:List α} {i:Nat} {a d:α} (hi:i < l.length):(l.set i a).getD i d=a:=by
 rw [aH,ma hi]; rfl
theorem HM {db:List (Sem zh)} {n:zp} {i:Nat} (h:zO db n=(i:Int)):i < db.length:=by
 have:=iq (s:=n) (l:=db) (by rw [h]; exact Int.natCast_nonneg i)
 rw [h] at this
 simp only [zI,aM,zZ] at this
 omega

theorem C2.is {n:zp} {db d:List (Sem zh)} {l:List (List (Sem zf))} (h:C2 n db l d) {i:Nat} (hi:zO db n=(i:Int)):
  ∃ s,d=db.set i ((db.getD i (zj zh)).1,s)∧s.Perm ((db.getD i (zj zh)).2++l):=by
 induction h with
 | nil=>exact ⟨(db.getD i (zj zh)).2,EM.symm,by rw [jQ]⟩
 | snoc h hx IH=>
  obtain ⟨s,rfl,hs⟩:=IH
  obtain ⟨j,s',hj,hp,rfl,_⟩:=hx
  have hf:zO (db.set i ((db.getD i (zj zh)).1,s)) n=(i:Int):=by rw [Ja (x:=((db.getD i (zj zh)).1,s)) rfl,hi]
  obtain rfl:i=j:=Int.ofNat_inj.1 (hf.symm.trans hj)
  have hl:=HM hi
  have hg:(db.set i ((db.getD i (zj zh)).1,s)).getD i (zj zh)=((db.getD i (zj zh)).1,s):=Mb hl
  rw [hg] at hp ⊢
  refine ⟨s',by rw [List.set_set],?_⟩
  rw [← List.append_assoc]
  exact hp.trans (hs.append_right _)

theorem C2.order {n:zp} {db d d':List (Sem zh)} {l l':List (List (Sem zf))} (h:C2 n db l d) (h':C2 n db l' d') (hp:l.Perm l') (hd:aW d) (hd':aW d') (hf:(0:Int)≤zO db n):d=d':=by
 obtain ⟨i,hi⟩:∃ i:Nat,zO db n=(i:Int):=⟨toNat (zO db n),(Int.toNat_of_nonneg hf).symm⟩
 obtain ⟨s,rfl,hs⟩:=h.is hi
 obtain ⟨s',rfl,hs'⟩:=h'.is hi
 have hl:=HM hi
 have m:∀ y,aW (db.set i y)→ck y:=fun y hy=>hy.rels y (List.mem_iff_getElem?.2 ⟨i,ma hl⟩)
 rw [ck.eq_of_perm (m _ hd) (m _ hd') (hs.trans ((hp.append_left _).trans hs'.symm))]


theorem GO {x:Sem zh} (h:cu x):∃ e:Int,nW x=true∧r6 x=e∧(e=0↔ck x):=by
 obtain ⟨e,h1,h2⟩:=sZ h
 exact ⟨e,by unfold nW; rw [h1]; rfl,by unfold r6; rw [h1]; rfl,h2⟩

theorem uT {db:List (Sem zh)} {s:Sem zo} {t:Sem zw} {rows:List (List (Sem zf))} {i:Nat} (n:Int) (hB:aW db) (hs:∀ y∈db,ch y) (h:zO db t.1=(i:Int)) (ht:(db.getD i (zj zh)).1=t) (hl:rows.length≤1000) (hr:∀ r∈rows,length r≤1000):
  ∃ (l:List (List (Sem zf))) (e:Int) (b:Bool),l.Perm rows∧Kp t.2.2.1 rows l∧(e=0↔ck (t,l))∧(e=0→(b=true↔lZ (db.set i (t,l))))∧
   ju (db,s) (t,rows) n=some (if e=0 then (if b=true then db.set i (t,l) else []) else [],if e=0 then (if b=true then (0,n,[]) else dL 10) else dL e,()):=by
 have hf:(0:Int)≤zO db t.1:=by rw [h]; omega
 have hm:=kN hf
 rw [show toNat (zO db t.1)=i by rw [h]; rfl] at hm
 have hro:=hB.rels _ hm
 have hsc:=hs _ hm
 obtain ⟨_,_,_,h8,_⟩:=gR hro.may
 rw [ht] at h8
 have hmay:gn t=true:=by rw [← ht]; exact hro.may
 have hcp:Fh ((t,rows):Sem zh)=true:=by
  have u1:=hsc.sh.uq
  have u2:=hsc.sh.rf
  have u3:=hsc.cp
  rw [ht] at u1 u2 u3
  unfold Fh
  simp only [aM,zZ,cY]
  exact ⟨⟨⟨⟨⟨cy h8 (by omega),cy u1 (by omega)⟩,cy u2 (by omega)⟩,u3⟩,cy hl (by omega)⟩,fun r hr'=>cy (hr r hr') (by omega)⟩
 obtain ⟨l,p1,p2,p3⟩:=Oh (x:=((t,rows):Sem zh)) hcp hl
 have hk:=p3 hmay
 have hll:l.length≤1000:=by rw [p2.length_eq]; exact hl
 have hshort:cu ((t,l):Sem zh):=by
  have u1:=hsc.sh.uq
  have u2:=hsc.sh.rf
  rw [ht] at u1 u2
  exact ⟨u1,u2,hll⟩
 obtain ⟨e,c1,c2,c3⟩:=GO hshort
 have s1:GP ((t,rows):Sem zh)=true:=by unfold GP; rw [p1]; rfl
 have s2:Og ((t,rows):Sem zh)=(t,l):=by unfold Og; rw [p1]; rfl
 have hd12:db.length≤12:=hB.few
 by_cases he:e=0
 case neg=>
  refine ⟨l,e,false,p2,hk,c3,fun h'=>absurd h' he,?_⟩
  have he':(e != 0)=true:=by simpa using he
  obtain ⟨f1,f2⟩:=ig e
  rw [if_neg he,if_neg he]
  unfold ju zW bl
  simp only [Xb,Tr.val,zm,Prod.eta,s1,s2,c1,c2,he',f1,f2,if_true]
  rfl
 have hok:=c3.1 he
 have hset:∀ y∈db.set i (t,l),ck y:=fun y hy=>by
  rcases mE hy with hy | rfl
  ·exact hB.rels y hy
  ·exact hok
 obtain ⟨b,b1,b2⟩:=hP (db:=db.set i (t,l)) (fun y hy=>(hset y hy).cols) (AS (fun y hy=>(hs y hy).sh) hshort) (by rw [jR]; omega)
 have hw:lA db ((t,l):Sem zh)=some (db.set i (t,l),()):=yO (y:=((t,l):Sem zh)) h (by omega)
 have hwc:jv db ((t,l):Sem zh)=true:=by unfold jv; rw [hw]; rfl
 have hwv:jU db ((t,l):Sem zh)=db.set i (t,l):=by unfold jU; rw [hw]; rfl
 have hkk:=pR n b1
 have hkc:gG (db.set i (t,l)) n=true:=by unfold gG; rw [hkk]; rfl
 have hkv:kG (db.set i (t,l)) n=(if b=true then db.set i (t,l) else [],if b=true then (0,n,[]) else dL 10):=by unfold kG; rw [hkk]; rfl
 refine ⟨l,e,b,p2,hk,c3,fun _=>b2,?_⟩
 have he':(e != 0)=false:=by simpa using he
 rw [if_pos he,if_pos he]
 unfold ju zW bl
 simp only [Xb,Tr.val,zm,Prod.eta,s1,s2,c1,c2,he',hwc,hwv,hkc,hkv,if_true,zH,if_false]
 cases b <;> rfl

abbrev Om (s:Sem zo):List (Sem zf):=s.2.2.2.2.2.2.2.2.2.1
abbrev QO:zp:=[105,110,115,101,114,116]

theorem Bp {db:List (Sem zh)} {s:Sem zo} (h:LT.lt (α:=Int) (zO db s.2.1) 0):ii (db,s)=some ([],dL 6,()):=by
 have h1:decide (LT.lt (α:=Int) (zO db s.2.1) 0)=true:=by simpa using h
 unfold ii zW bl
 simp only [WZ,Tr.val,h1,if_true]
 rfl
theorem Fp {db:List (Sem zh)} {s:Sem zo} {x:Sem zh} {i:Nat} (hB:aW db) (hs:∀ y∈db,ch y) (hS:ek s) (h:zO db s.2.1=(i:Int)) (hx:db.getD i (zj zh)=x):
  ∃ (l:List (List (Sem zf))) (e:Int) (b:Bool),l.Perm (x.2++[Om s])∧(e=0↔ck (x.1,l))∧(e=0→(b=true↔lZ (db.set i (x.1,l))))∧
   ii (db,s)=some (if e=0 then (if b=true then db.set i (x.1,l) else []) else [],if e=0 then (if b=true then (0,1,[]) else dL 10) else dL e,()):=by
 have hf:(0:Int)≤zO db s.2.1:=by rw [h]; omega
 have hm:=kN hf
 rw [show toNat (zO db s.2.1)=i by rw [h]; rfl,hx] at hm
 have hr:=hB.rels x hm
 have hfew:=hr.few
 have hrow:=hS.row
 have hb:zI (zO db s.2.1) (length db)=true:=iq hf
 rw [h] at hb
 have hn:zO db x.1.1=(i:Int):=by rw [pi h hx,h]
 obtain ⟨l,e,b,q1,_,q2,q3,q4⟩:=uT (s:=s) (t:=x.1) (rows:=x.2++[Om s]) 1 hB hs hn (by rw [hx]) (by simp; omega) (fun r hr'=>by
  rcases bp.1 hr' with hr' | hr'
  ·exact cy (hr.len r hr') (by omega)
  ·rw [bL] at hr'
   rw [hr']
   exact cy hrow (by omega))
 refine ⟨l,e,b,q1,q2,q3,?_⟩
 rw [← q4]
 have hcc:kF (db,s) (x.1,x.2++[Om s]) 1=true:=by unfold kF; rw [q4]; rfl
 have h1:decide (LT.lt (α:=Int) (i:Int) 0)=false:=by simp
 have h2:decide (length x.2≤1073741824)=true:=by simp only [zZ]; omega
 have h3:decide (length s.2.2.2.2.2.2.2.2.2.1≤1073741824)=true:=by simp only [zZ]; omega
 have h4:decide (length x.2+[s.2.2.2.2.2.2.2.2.2.1].length≤1073741824)=true:=by simp only [zZ,List.length_singleton]; omega
 have hcv:nE (db,s) (x.1,x.2++[Om s]) 1=(if e=0 then (if b=true then db.set i (x.1,l) else []) else [],if e=0 then (if b=true then (0,1,[]) else dL 10) else dL e):=by unfold nE; rw [q4]; rfl
 rw [q4]
 unfold ii zW bl
 simp only [WZ,Tr.val,zm,Prod.eta,h,h1,hb,aQ,hx,h2,h3,h4,hcc,hcv,zH,if_true,if_false]
 by_cases he:e=0
 ·simp only [if_pos he]
  cases b <;> rfl
 ·simp only [if_neg he]
  rfl
theorem Hp {db:List (Sem zh)} {s:Sem zo} {n:List (Sem zh)} {a:Sem cw} (hs:ek s) (hr:∀ x∈db,cu x) (hm:dO s=true) (hB:aW db) (ho:s.1=QO) (hc:ii (db,s)=some (n,a,())):
  gF db s=some (if a.1=0 then n else db,a,()):=by
 have h1:=dP hs
 have h2:=dU hr
 have h5:jt db=(0:Int):=(gE hr).2 hB
 have q0:(s.1==[99,114,101,97,116,101])=false:=by rw [ho]; rfl
 have q1:(s.1==[100,114,111,112])=false:=by rw [ho]; rfl
 have q2:(s.1==[105,110,115,101,114,116])=true:=by rw [ho]; rfl
 have hcc:uW (db,s)=true:=by unfold uW; rw [hc]; rfl
 have hcv:Bo (db,s)=(n,a):=by unfold Bo; rw [hc]; rfl
 unfold gF zW bl
 simp only [OY,Tr.val,zm,Prod.eta,hm,h1,h2,h5,hcc,hcv,q0,q1,q2,fk,bb,ky,mG,zH,if_true,if_false]
 by_cases h:a.1=0
 ·have h':(a.1 != 0)=false:=by simpa using h
  simp only [h',zH,if_false,if_pos h]
  rfl
 ·have h':(a.1 != 0)=true:=by simpa using h
  simp only [h',if_true,if_neg h]
  rfl

theorem xz {db:List (Sem zh)} {i:Nat} {t:Sem zw} {l:List (List (Sem zf))} (hs:∀ x∈db,ch x) (ht:∃ x∈db,x.1=t) (hl:l.length≤1000):∀ x∈db.set i (t,l),ch x:=fun x hx=>by
 rcases mE hx with h | rfl
 ·exact hs x h
 ·obtain ⟨y,h1,h2⟩:=ht
  have:=hs y h1
  subst h2
  exact ⟨⟨this.sh.uq,this.sh.rf,hl⟩,this.cp⟩

theorem zcA {db:List (Sem zh)} {s:Sem zo} (hs:∀ y∈db,ch y) (hS:ek s) (ho:s.1=QO):
  ∃ (d:List (Sem zh)) (a:Sem cw),gF db s=some (d,a,())∧(∀ y∈d,ch y)∧(a.1=0→Ins s.2.1 (Om s) db d∧aW db∧dO s=true)∧(a.1≠0→d=db∧a=dL a.1):=by
 have hsr:∀ y∈db,cu y:=fun y hy=>(hs y hy).sh
 by_cases hm:dO s=true∧aW db
 case neg=>exact ⟨db,dL 1,tI hS hsr hm,hs,fun h=>(by cases h),fun _=>⟨rfl,rfl⟩⟩
 obtain ⟨hm,hB⟩:=hm
 by_cases hf:LT.lt (α:=Int) (zO db s.2.1) 0
 ·exact ⟨db,dL 6,Hp hS hsr hm hB ho (Bp hf),hs,fun h=>(by cases h),fun _=>⟨rfl,rfl⟩⟩
 obtain ⟨i,hi⟩:∃ i:Nat,zO db s.2.1=(i:Int):=⟨toNat (zO db s.2.1),(Int.toNat_of_nonneg (Int.not_lt.1 hf)).symm⟩
 obtain ⟨x,hx⟩:∃ x,db.getD i (zj zh)=x:=⟨_,rfl⟩
 obtain ⟨l,e,b,q1,q2,q3,q4⟩:=Fp hB hs hS hi hx
 have hd:=Hp hS hsr hm hB ho q4
 have hxm:x∈db:=by
  have:=kN (db:=db) (s:=s.2.1) (by rw [hi]; omega)
  rw [hi,aQ,hx] at this
  exact this
 by_cases he:e=0
 case neg=>
  simp only [if_neg he] at hd
  exact ⟨db,dL e,hd,hs,fun h=>absurd h he,fun _=>⟨rfl,rfl⟩⟩
 have hr:=q2.1 he
 have hb:=q3 he
 simp only [if_pos he] at hd
 cases b with
 | false=>
  refine ⟨db,dL 10,hd,hs,fun h=>(by cases h),fun _=>⟨rfl,rfl⟩⟩
 | true=>
  have hbo:aW (db.set i (x.1,l)):=hB.put (x:=(x.1,l)) (by rw [hx]) hr (hb.1 rfl)
  refine ⟨db.set i (x.1,l),(0,1,[]),hd,xz hs ⟨x,hxm,rfl⟩ (cy hr.few (by omega)),fun _=>⟨⟨i,l,hi,by rw [hx]; exact q1,by rw [hx],hbo⟩,hB,hm⟩,fun h=>absurd rfl h⟩

structure zcl (t:Sem zw):Prop where
 name:bV t.1=true
 n1:1≤t.2.1.length
 n8:t.2.1.length≤8
 cols:∀ i,i < t.2.1.length→bV (getD t.2.1 i (zj zi)).1=true∧LE.le (α:=Int) 1 (getD t.2.1 i (zj zi)).2.1∧LE.le (α:=Int) (getD t.2.1 i (zj zi)).2.1 3∧zM t.2.1 (getD t.2.1 i (zj zi)).1=(i:Int)
 uniq:∀ u∈t.2.2.2.1,kO u t.2.1.length
 refs:∀ f∈t.2.2.2.2.1,kO f.1 t.2.1.length∧bV f.2=true
 key:kO t.2.2.1 t.2.1.length
 nn:(getD t.2.1 (toNat t.2.2.1) (zj zi)).2.2=true
 chk:fI t.2.2.2.2.2 t.2.1=(0:Int)

theorem F2 (x:Int) (n:Nat):(bif decide (x ≥ 0) then decide (x < (n:Int)) else false)=true↔kO x n:=by
 unfold kO
 by_cases h:x ≥ 0
 ·rw [aq h]; simp; omega
 ·rw [cx h]; simp; omega

theorem tn {a0:zp} {cols:List (Sem zi)} {key:Int} {uq:List (Sem zg)} {rf:List (Sem zq)} {op:zp} {k n:Int} {vs s:zp} {l:List (Sem Sh.expr)}:∀ (r:List (Sem zq)) (i:Int),eC a0 cols key uq rf op k n vs s l r i=true↔
  ((∀ f∈r,kO f.1 cols.length∧bV f.2=true)∧kO key cols.length∧(getD cols (toNat key) (zj zi)).2.2=true∧fI (.mk op (k,n,vs) s l) cols=(0:Int))
 | [],i=>by
  rw [eC,← F2]
  rcases sr (bif decide (key ≥ 0) then decide (key < (cols.length:Int)) else false) with c | c
  ·rw [if_pos c]
   rcases sr (getD cols (toNat key) (zj zi)).2.2 with c2 | c2
   ·rw [if_pos c2]
    constructor
    ·intro h; exact ⟨fun f hf=>(by cases hf),c,c2,dR h⟩
    ·intro h; rw [h.2.2.2]; rfl
   ·rw [if_neg (by rw [c2]; simp)]
    exact ⟨fun h=>(by cases h),fun h=>by rw [h.2.2.1] at c2; cases c2⟩
  ·rw [if_neg (by rw [c]; simp)]
   exact ⟨fun h=>(by cases h),fun h=>by rw [h.2.1] at c; cases c⟩
 | f::r,i=>by
  rw [eC]
  have ih:=tn (a0:=a0) (cols:=cols) (key:=key) (uq:=uq) (rf:=rf) (op:=op) (k:=k) (n:=n) (vs:=vs) (s:=s) (l:=l) r (i+1)
  simp only [c9,forall_eq_or_imp]
  rw [← F2 f.1]
  rcases sr (bif decide (f.1 ≥ 0) then decide (f.1 < (cols.length:Int)) else false) with c | c
  ·rw [c,if_neg (by simp)]
   rcases sr (bV f.2) with c2 | c2
   ·rw [c2,if_neg (by simp),ih]
    simp
   ·rw [c2,if_pos (by rfl)]
    simp
  ·rw [c,if_pos (by rfl)]
   simp

theorem tk {a0:zp} {cols:List (Sem zi)} {key:Int} {uq:List (Sem zg)} {rf:List (Sem zq)} {op:zp} {k n:Int} {vs s:zp} {l:List (Sem Sh.expr)}:∀ (r:List (Sem zg)) (i:Int),eB a0 cols key uq rf op k n vs s l r i=true↔
  ((∀ u∈r,kO u cols.length)∧(∀ f∈rf,kO f.1 cols.length∧bV f.2=true)∧kO key cols.length∧(getD cols (toNat key) (zj zi)).2.2=true∧fI (.mk op (k,n,vs) s l) cols=(0:Int))
 | [],i=>by
  rw [eB,tn]
  simp
 | u::r,i=>by
  rw [eB]
  have ih:=tk (a0:=a0) (cols:=cols) (key:=key) (uq:=uq) (rf:=rf) (op:=op) (k:=k) (n:=n) (vs:=vs) (s:=s) (l:=l) r (i+1)
  simp only [c9,forall_eq_or_imp]
  rw [← F2 u]
  rcases sr (bif decide (GE.ge (α:=Int) u 0) then decide (LT.lt (α:=Int) u (cols.length:Int)) else false) with c | c
  ·rw [c,if_neg (by simp),ih]
   simp
  ·rw [c,if_pos (by rfl)]
   simp

theorem xF {a0:zp} {cols:List (Sem zi)} {key:Int} {uq:List (Sem zg)} {rf:List (Sem zq)} {op:zp} {k n:Int} {vs s:zp} {l:List (Sem Sh.expr)}:∀ (r:List (Sem zi)) (i:Nat),gr a0 cols key uq rf op k n vs s l r (i:Int)=true↔
  ((∀ j,j < r.length→bV (getD r j (zj zi)).1=true∧LE.le (α:=Int) 1 (getD r j (zj zi)).2.1∧LE.le (α:=Int) (getD r j (zj zi)).2.1 3∧zM cols (getD r j (zj zi)).1=((i+j:Nat):Int))∧
   (∀ u∈uq,kO u cols.length)∧(∀ f∈rf,kO f.1 cols.length∧bV f.2=true)∧kO key cols.length∧(getD cols (toNat key) (zj zi)).2.2=true∧fI (.mk op (k,n,vs) s l) cols=(0:Int))
 | [],i=>by
  rw [gr,tk]
  simp
 | x :: r,i=>by
  rw [gr]
  have ih:=xF (a0:=a0) (cols:=cols) (key:=key) (uq:=uq) (rf:=rf) (op:=op) (k:=k) (n:=n) (vs:=vs) (s:=s) (l:=l) r (i+1)
  have hsplit:(∀ j,j < (x::r).length→bV (getD (x::r) j (zj zi)).1=true∧LE.le (α:=Int) 1 (getD (x::r) j (zj zi)).2.1∧LE.le (α:=Int) (getD (x::r) j (zj zi)).2.1 3∧zM cols (getD (x::r) j (zj zi)).1=((i+j:Nat):Int))↔
    ((bV x.1=true∧LE.le (α:=Int) 1 x.2.1∧LE.le (α:=Int) x.2.1 3∧zM cols x.1=(i:Int))∧∀ j,j < r.length→bV (getD r j (zj zi)).1=true∧LE.le (α:=Int) 1 (getD r j (zj zi)).2.1∧LE.le (α:=Int) (getD r j (zj zi)).2.1 3∧zM cols (getD r j (zj zi)).1=((i+1+j:Nat):Int)):=by
   constructor
   ·intro h
    refine ⟨h 0 (by simp),fun j hj=>?_⟩
    have:=h (j+1) (by simp; omega)
    rw [show i+1+j=i+(j+1) by omega]
    exact this
   ·rintro ⟨h0,h⟩ j hj
    cases j with
    | zero=>exact h0
    | succ j=>
     have:=h j (by simpa using hj)
     rw [show i+1+j=i+(j+1) by omega] at this
     exact this
  rw [hsplit]
  have ep:gW (a0,cols,key,uq,rf,ze.mk op (k,n,vs) s l) x.1=zM cols x.1:=rfl
  have hc:(bif !bV x.1 then true else bif decide (LT.lt (α:=Int) x.2.1 1) then true else bif decide (GT.gt (α:=Int) x.2.1 3) then true else zM cols x.1 != (i:Int))=false↔(bV x.1=true∧LE.le (α:=Int) 1 x.2.1∧LE.le (α:=Int) x.2.1 3∧zM cols x.1=(i:Int)):=by
   rcases sr (bV x.1) with c | c
   ·rw [c]
    by_cases h1:LT.lt (α:=Int) x.2.1 1
    ·rw [aq h1]; simp; omega
    ·rw [cx h1]
     by_cases h2:GT.gt (α:=Int) x.2.1 3
     ·rw [aq h2]; simp; omega
     ·rw [cx h2]
      exact ⟨fun h=>⟨rfl,by omega,by omega,by simpa using h⟩,fun h=>by simpa using h.2.2.2⟩
   ·rw [c]; simp
  rw [ep]
  rcases sr (bif !bV x.1 then true else bif decide (LT.lt (α:=Int) x.2.1 1) then true else bif decide (GT.gt (α:=Int) x.2.1 3) then true else zM cols x.1 != (i:Int)) with c | c
  ·rw [if_pos c]
   constructor
   ·intro h; cases h
   ·intro h
    rw [hc.2 h.1.1] at c; cases c
  ·rw [if_neg (by rw [c]; simp)]
   have:=hc.1 c
   rw [show ((i:Int)+1)=((i+1:Nat):Int) by omega,ih]
   constructor
   ·intro h; exact ⟨⟨this,h.1⟩,h.2⟩
   ·intro h; exact ⟨h.1.2,h.2⟩

theorem OO (t:Sem zw):gn t=true↔zcl t:=by
 unfold gn
 have e0:ze.mk (ze.op t.2.2.2.2.2) ((ze.v t.2.2.2.2.2).1,(ze.v t.2.2.2.2.2).2.1,(ze.v t.2.2.2.2.2).2.2) (ze.s t.2.2.2.2.2) (ze.l t.2.2.2.2.2)=t.2.2.2.2.2:=ze.eta _
 rcases sr (bV t.1) with c | c
 ·by_cases h1:t.2.1.length < 1
  ·rw [c,aq (by omega:(t.2.1.length:Int) < 1),if_pos (by rfl)]
   exact ⟨fun h=>(by cases h),fun h=>by have:=h.n1; omega⟩
  ·by_cases h2:8 < t.2.1.length
   ·rw [c,cx (by omega:¬ (t.2.1.length:Int) < 1),aq (by omega:(t.2.1.length:Int) > 8),if_pos (by rfl)]
    exact ⟨fun h=>(by cases h),fun h=>by have:=h.n8; omega⟩
   ·rw [c,cx (by omega:¬ (t.2.1.length:Int) < 1),cx (by omega:¬ (t.2.1.length:Int) > 8),if_neg (by simp)]
    have:=xF (a0:=t.1) (cols:=t.2.1) (key:=t.2.2.1) (uq:=t.2.2.2.1) (rf:=t.2.2.2.2.1) (op:=ze.op t.2.2.2.2.2) (k:=(ze.v t.2.2.2.2.2).1) (n:=(ze.v t.2.2.2.2.2).2.1) (vs:=(ze.v t.2.2.2.2.2).2.2) (s:=ze.s t.2.2.2.2.2) (l:=ze.l t.2.2.2.2.2) t.2.1 0
    rw [e0] at this
    refine Iff.trans this ?_
    constructor
    ·rintro ⟨k1,k2,k3,k4,k5,k6⟩
     exact ⟨c,by omega,by omega,fun i hi=>by have:=k1 i hi; rwa [eG] at this,k2,k3,k4,k5,k6⟩
    ·intro h
     exact ⟨fun i hi=>by have:=h.cols i hi; rwa [eG],h.uniq,h.refs,h.key,h.nn,h.chk⟩
 ·rw [c,if_pos (by rfl)]
  exact ⟨fun h=>(by cases h),fun h=>by rw [h.name] at c; cases c⟩

abbrev Fj:zp:=[99,114,101,97,116,101]
abbrev af (s:Sem zo):List (Sem zi):=s.2.2.2.2.1
abbrev zdW (s:Sem zo):zp:=s.2.2.2.2.2.1
abbrev iB (s:Sem zo):List zp:=s.2.2.2.2.2.2.1
abbrev fH (s:Sem zo):List (Sem bJ):=s.2.2.2.2.2.2.2.1
abbrev dV (s:Sem zo):ze:=s.2.2.2.2.2.2.2.2.1

theorem MI {α:Type} {p:α→Bool} {l:List α} (h:decide (GE.ge (α:=Int) (zL (fun x => !p x) l 0) 0)=false):∀ x∈l,p x=true:=by
 rcases cd (fun x => !p x) l 0 with ⟨_,q⟩ | ⟨k,_,q,_⟩
 ·intro x hx
  simpa using q x hx
 ·rw [q] at h
  exact absurd h (by simp)

theorem x4 {s:Sem zo} (h:eU s=true):1≤(af s).length∧(af s).length≤8∧(∀ c∈af s,hZ c=true)∧∀ r∈fH s,ni r=true:=by
 unfold eU at h
 cases c1:decide (((af s).length:Int) < 1) with
 | true=>rw [c1] at h; cases h
 | false=>
 rw [c1] at h
 cases c2:decide (((af s).length:Int) > 8) with
 | true=>rw [c2] at h; cases h
 | false=>
 rw [c2] at h
 simp only [bb] at h
 cases c3:decide (GE.ge (α:=Int) (zL (fun x => !hZ x) (af s) 0) 0) with
 | true=>rw [c3] at h; cases h
 | false=>
 rw [c3] at h
 simp only [pH,aR] at h
 cases c4:bt (zdW s) with
 | false=>rw [c4] at h; cases h
 | true=>
 rw [c4] at h
 simp only [aR] at h
 cases c5:(bif decide (((iB s).length:Int) < 0) then true else decide (((iB s).length:Int) > 8)) with
 | true=>rw [c5] at h; cases h
 | false=>
 rw [c5] at h
 simp only [bb] at h
 cases c6:decide (GE.ge (α:=Int) (zL (fun x => !bt x) (iB s) 0) 0) with
 | true=>rw [c6] at h; cases h
 | false=>
 rw [c6] at h
 simp only [pH,aR] at h
 cases c7:(bif decide (((fH s).length:Int) < 0) then true else decide (((fH s).length:Int) > 8)) with
 | true=>rw [c7] at h; cases h
 | false=>
 rw [c7] at h
 simp only [bb] at h
 cases c8:decide (GE.ge (α:=Int) (zL (fun x => !ni x) (fH s) 0) 0) with
 | true=>rw [c8] at h; cases h
 | false=>
 simp at c1 c2
 exact ⟨by omega,by omega,MI c3,MI c8⟩

theorem AC {s:Sem zo} (ho:s.1=Fj) (h:eP s=true):bt s.2.1=true∧eU s=true:=by
 have q0:(s.1==[99,114,101,97,116,101])=true:=by rw [ho]; rfl
 obtain ⟨_,hp⟩:=bO (s:=s) (g:=_) (b:=_) (by simp only [ew,dF,Tr.val,q0,if_true,zm]; exact rfl)
 rw [hp] at h
 cases h2:eU s
 ·rw [h2] at h
  cases h1:bt s.2.1 <;> rw [h1] at h <;> simp at h
 ·refine ⟨?_,rfl⟩
  cases h1:bt s.2.1
  ·rw [h1] at h; simp at h
  ·rfl

def mD (a b:List (Sem zi)):Prop:=a.map (fun c:Sem zi=>(c.1,c.2.1))=b.map (fun c:Sem zi=>(c.1,c.2.1))
theorem mD.place {a b:List (Sem zi)} (h:mD a b) (n:zp):zM a n=zM b n:=by
 have e:∀ l:List (Sem zi),zM l n=zL (fun p:zp×Int=>p.1==n) (l.map (fun c:Sem zi=>(c.1,c.2.1))) 0:=fun l=>by rw [pm]; rfl
 rw [e,e,h]
theorem mD.len {a b:List (Sem zi)} (h:mD a b):a.length=b.length:=by
 have:=congrArg length h
 simpa using this
theorem mD.at {a b:List (Sem zi)} (h:mD a b) (i:Nat):(a.getD i (zj zi)).1=(b.getD i (zj zi)).1∧(a.getD i (zj zi)).2.1=(b.getD i (zj zi)).2.1:=by
 have hl:=h.len
 by_cases hi:i < a.length
 ·have:=congrArg (·[i]?) h
  simp only [dh,zJ hi,zJ (hl▸hi),pG,ap,bv] at this
  simp only [aH,zJ hi,zJ (hl▸hi),bM]
  exact this
 ·simp only [aH,dg (by omega:a.length≤i),dg (by omega:b.length≤i),and_self]
theorem tq {a b:List (Sem zi)} (h:mD a b) {g:Sem Sh.expr→Sem (Sh.sl zi)→Sem zg×Sem zg} (hg:∀ e,g e a=g e b) {c:Sem Sh.expr→Sem (Sh.sl zi)→Bool} {o:zp} {p q:Int} {u v:zp} {l:List (Sem Sh.expr)}:∀ (r:List (Sem Sh.expr)) (i:Int) (acc:List (Sem zg)),cH g c a o p q u v l r i acc=cH g c b o p q u v l r i acc
 | [],i,acc=>by
  rw [cH,cH,h.place v,(h.at _).2]
 | x::r,i,acc=>by
  rw [cH,cH,hg x,tq h hg r]
theorem xK {a b:List (Sem zi)} (h:mD a b):∀ (n:Nat) (e:ze),fM n e a=fM n e b
 | 0,_=>by rw [fM]
 | n+1,e=>by
  rw [fM]
  exact tq h (fun e=>xK h n e) _ _ _
theorem Fg {a b:List (Sem zi)} (h:mD a b) (e:ze):fI e a=fI e b:=by
 have:bn e a=bn e b:=by unfold bn; rw [xK h]
 unfold fI
 rw [this]

abbrev S5 (s:Sem zo) (i:Nat):ow:=.h5 ((af s).length:Int) (i:Int) (s,()) [] 0 [] 0 0 [] [] s.2.1 0 (ze.op (dV s)) (ze.v (dV s)).1 (ze.v (dV s)).2.1 (ze.v (dV s)).2.2 (ze.s (dV s)) (ze.l (dV s)) (af s)
abbrev S14 (s:Sem zo) (k e:Int) (i:Nat) (acc:List (Sem zg)):ow:=.h14 (iB s) ((iB s).length:Int) (i:Int) (s,()) [] 0 [] 0 0 [] [] s.2.1 k (ze.op (dV s)) (ze.v (dV s)).1 (ze.v (dV s)).2.1 (ze.v (dV s)).2.2 (ze.s (dV s)) (ze.l (dV s)) e (af s) acc
abbrev YW (s:Sem zo) (k e:Int) (i:Nat) (us:List (Sem zg)) (acc:List (Sem zq)):ow:=.h19 (fH s) ((fH s).length:Int) (i:Int) [] 0 [] 0 0 [] [] s.2.1 k (ze.op (dV s)) (ze.v (dV s)).1 (ze.v (dV s)).2.1 (ze.v (dV s)).2.2 (ze.s (dV s)) (ze.l (dV s)) e (af s) us acc

theorem EU (t:Sem zw) (n:zp):gW t n=zM t.2.1 n:=rfl

theorem Eg {s:Sem zo} {k:Int} (hl:(iB s).length≤20):∀ (m i:Nat) (e:Int) (acc:List (Sem zg)),(iB s).length - i=m→i≤(iB s).length→acc.length=i→
  ∃ e':Int,aG np (m+1) (S14 s k e i acc) (YW s k e' 0 (acc++((iB s).drop i).map (zM (af s))) [])∧(e'=0→e=0∧∀ u∈(iB s).drop i,LE.le (α:=Int) 0 (zM (af s) u))
 | 0,i,e,acc,hm,hi,ha=>by
  obtain rfl:i=(iB s).length:=by omega
  refine ⟨e,aG.of ?_,fun h=>⟨h,by simp⟩⟩
  simp only [np,Tr.val,zY,cL,uH,jQ]
  rfl
 | m+1,i,e,acc,hm,hi,ha=>by
  have hlt:i < (iB s).length:=by omega
  have h1:decide (acc.length+[zM (af s) (iB s)[i]].length≤1073741824)=true:=by simp only [zZ,List.length_singleton]; omega
  have hw:=zD i (by unfold zB; omega)
  obtain ⟨e',g,q⟩:=Eg (s:=s) (k:=k) hl m (i+1) (if LT.lt (α:=Int) (zM (af s) (iB s)[i]) 0 then 4 else e) (acc++[zM (af s) (iB s)[i]]) (by omega) (by omega) (by simp; omega)
  refine ⟨e',?_,fun h=>?_⟩
  ·rw [cX hlt,jT]
   have hv:(np (S14 s k e i acc)).val=some (.inl (S14 s k (if LT.lt (α:=Int) (zM (af s) (iB s)[i]) 0 then 4 else e) (i+1) (acc++[zM (af s) (iB s)[i]]))):=by
    simp only [np,Tr.val,zT hlt,zC hlt,ae (iB s) _ hlt,EU,h1,hw,if_true]
    by_cases c:LT.lt (α:=Int) (zM (af s) (iB s)[i]) 0
    ·rw [if_pos (aq c),if_pos c]
    ·rw [if_neg (by simpa using c),if_neg c]
   have:=(aG.of hv).trans g
   rw [List.append_assoc] at this
   exact this
  ·obtain ⟨q1,q2⟩:=q h
   rw [cX hlt]
   by_cases c:LT.lt (α:=Int) (zM (af s) (iB s)[i]) 0
   ·rw [if_pos c] at q1; cases q1
   ·rw [if_neg c] at q1
    refine ⟨q1,fun u hu=>?_⟩
    rcases c9.1 hu with rfl | hu
    ·exact Int.not_lt.1 c
    ·exact q2 u hu

theorem Eh {s:Sem zo} {k:Int} {us:List (Sem zg)} (hl:(fH s).length≤20):∀ (m i:Nat) (e:Int) (acc:List (Sem zq)),(fH s).length - i=m→i≤(fH s).length→acc.length=i→
  ∃ e':Int,aG np m (YW s k e i us acc) (YW s k e' (fH s).length us (acc++((fH s).drop i).map fun r:Sem bJ=>((zM (af s) r.1,r.2):Sem zq)))∧(e'=0→e=0∧∀ r∈(fH s).drop i,LE.le (α:=Int) 0 (zM (af s) r.1))
 | 0,i,e,acc,hm,hi,ha=>by
  obtain rfl:i=(fH s).length:=by omega
  refine ⟨e,?_,fun h=>⟨h,by simp⟩⟩
  rw [cL,uH,jQ]
  exact aG.refl _
 | m+1,i,e,acc,hm,hi,ha=>by
  have hlt:i < (fH s).length:=by omega
  have h1:decide (acc.length+[((zM (af s) (fH s)[i].1,(fH s)[i].2):Sem zq)].length≤1073741824)=true:=by simp only [zZ,List.length_singleton]; omega
  have hw:=zD i (by unfold zB; omega)
  obtain ⟨e',g,q⟩:=Eh (s:=s) (k:=k) (us:=us) hl m (i+1) (if LT.lt (α:=Int) (zM (af s) (fH s)[i].1) 0 then 4 else e) (acc++[((zM (af s) (fH s)[i].1,(fH s)[i].2):Sem zq)]) (by omega) (by omega) (by simp; omega)
  refine ⟨e',?_,fun h=>?_⟩
  ·rw [cX hlt,jT]
   have hv:(np (YW s k e i us acc)).val=some (.inl (YW s k (if LT.lt (α:=Int) (zM (af s) (fH s)[i].1) 0 then 4 else e) (i+1) us (acc++[((zM (af s) (fH s)[i].1,(fH s)[i].2):Sem zq)]))):=by
    simp only [np,Tr.val,zT hlt,zC hlt,ae (fH s) _ hlt,EU,h1,hw,if_true]
    by_cases c:LT.lt (α:=Int) (zM (af s) (fH s)[i].1) 0
    ·rw [if_pos (aq c),if_pos c]
    ·rw [if_neg (by simpa using c),if_neg c]
   have:=(aG.of hv).trans g
   rw [List.append_assoc] at this
   exact this
  ·obtain ⟨q1,q2⟩:=q h
   rw [cX hlt]
   by_cases c:LT.lt (α:=Int) (zM (af s) (fH s)[i].1) 0
   ·rw [if_pos c] at q1; cases q1
   ·rw [if_neg c] at q1
    refine ⟨q1,fun u hu=>?_⟩
    rcases c9.1 hu with rfl | hu
    ·exact Int.not_lt.1 c
    ·exact q2 u hu

abbrev noT:Sem zw:=([],[],0,[],[],ze.mk [] (0,0,[]) [] [])

theorem Ow {s:Sem zo} (hS:ek s) (hcp:kC 16 (dV s)=true) (ho:s.1=Fj) (hm:dO s=true):
  ∃ (t:Sem zw) (e:Int),Kh s=some (t,e,())∧(e=0→t.1=s.2.1∧gn t=true∧t.2.2.2.1.length≤20∧t.2.2.2.2.1.length≤20∧t.2.2.2.2.2=dV s):=by
 have hmc:=dP hS
 obtain ⟨hn,hc⟩:=AC ho (tf hm)
 obtain ⟨n1,n8,hcol,href⟩:=x4 hc
 have hu:(iB s).length≤20:=hS.uniques.1
 have hrf:(fH s).length≤20:=hS.refs.1
 have q0:(!s.1==[99,114,101,97,116,101])=false:=by rw [ho]; rfl
 have hlen:decide (length s.2.2.2.2.1≤1073741824)=true:=aq (show (af s).length≤1073741824 by omega)
 have hi:(W7 s).val=some (.inl (S5 s 0)):=by
  simp only [W7,Tr.val,zm,Prod.eta,q0,hmc,hm,hlen,hcp,bb,fk,zH,if_true,if_false]
  rfl
 have hloop:=I0 (t:=np) (Φ:=fun r=>∃ e:Int,ah r.2 [zw,zg] r.1=some (noT,e,())∧e≠0) 1 (S5 s) (fun i=>zM (af s) (getD (af s) i (zj zi)).1=(i:Int)) (af s).length (by
  intro i hi _
  have hd:decide (i < (af s).length)=true:=aq hi
  have hw:=zD i (by unfold zB; omega)
  by_cases c:zM (af s) (getD (af s) i (zj zi)).1=(i:Int)
  ·refine .inl ⟨c,aG.of ?_⟩
   have c':(zM (af s) (getD (af s) i (zj zi)).1 != (i:Int))=false:=by rw [c]; simp
   simp only [np,Tr.val,zT hi,zC hi,hd,EU,aQ,c',hw,zH,if_true,if_false]
  ·refine .inr ⟨c,_,bG.of (r:=(.tup [.agg [.str [],.nils,.int .i64 0,.nils,.nils,.str [],.int .i64 0,.int .i64 0,.str [],.str [],.nils],.int .i64 7],[])) ?_,7,rfl,by decide⟩
   have c':(zM (af s) (getD (af s) i (zj zi)).1 != (i:Int))=true:=by simpa using c
   simp only [np,Tr.val,zT hi,zC hi,hd,EU,aQ,c',if_true])
 rcases hloop with ⟨hpl,hg⟩ | ⟨_,r,hr,e,he,hne⟩
 case inr=>exact ⟨noT,e,bj hi hr (by omega) he,fun h=>absurd h hne⟩
 obtain ⟨k,hk⟩:∃ k,zM (af s) (zdW s)=k:=⟨_,rfl⟩
 have h5:(np (S5 s (af s).length)).val=some (.inl (S14 s k (if LT.lt (α:=Int) k 0 then 4 else 0) 0 [])):=by
  simp only [np,Tr.val,zY,EU,hk,zH,if_false]
  by_cases c:LT.lt (α:=Int) k 0
  ·rw [if_pos (aq c),if_pos c]; rfl
  ·rw [if_neg (by simpa using c),if_neg c]; rfl
 obtain ⟨e1,g1,k1⟩:=Eg (s:=s) (k:=k) hu (iB s).length 0 (if LT.lt (α:=Int) k 0 then 4 else 0) [] rfl (aV _) rfl
 obtain ⟨e2,g2,k2⟩:=Eh (s:=s) (k:=k) (us:=[]++((iB s).drop 0).map (zM (af s))) hrf (fH s).length 0 e1 [] rfl (aV _) rfl
 rw [List.drop_zero,yJ] at g1 g2
 rw [List.drop_zero,yJ] at g2
 rw [List.drop_zero] at k1 k2
 have hgo:=(hg.trans ((aG.of h5).trans (g1.trans g2)))
 have fin:∀ {r:ao} {t:Sem zw} {e:Int},(np (YW s k e2 (fH s).length ((iB s).map (zM (af s))) ((fH s).map fun r:Sem bJ=>((zM (af s) r.1,r.2):Sem zq)))).val=some (.inr r)→ah r.2 [zw,zg] r.1=some (t,e,())→Kh s=some (t,e,()):=
  fun h h'=>bj hi (hgo.ends (bG.of h)) (by omega) h'
 by_cases he:e2=0
 case neg=>
  refine ⟨noT,e2,fin (r:=(.tup [.agg [.str [],.nils,.int .i64 0,.nils,.nils,.str [],.int .i64 0,.int .i64 0,.str [],.str [],.nils],.int .i64 e2],[])) ?_ rfl,fun h=>absurd h he⟩
  have c1:(e2==0)=false:=by simpa using he
  have c2:(e2 != 0)=true:=by simpa using he
  simp only [np,Tr.val,zY,c1,c2,zH,if_true,if_false]
 subst he
 obtain ⟨he1,hrp⟩:=k2 rfl
 obtain ⟨he0,hup⟩:=k1 he1
 have hk0:LE.le (α:=Int) 0 k:=by
  by_cases c:LT.lt (α:=Int) k 0
  ·rw [if_pos c] at he0; cases he0
  ·exact Int.not_lt.1 c
 have rng:∀ n,LE.le (α:=Int) 0 (zM (af s) n)→kO (zM (af s) n) (af s).length:=fun n h=>by
  rcases ly (af s) n with c | c
  ·rw [c] at h; exact absurd h (by decide)
  ·exact c
 have hkin:kO k (af s).length:=by rw [← hk]; exact rng _ (by rw [hk]; exact hk0)
 obtain ⟨k',rfl⟩:=Int.eq_ofNat_of_zero_le hk0
 have hkl:k' < (af s).length:=Int.ofNat_lt.1 hkin.2
 have hkd:decide (k' < (af s).length)=true:=aq hkl
 obtain ⟨ce,hce⟩:∃ ce:Int,fI (dV s) (af s)=ce:=⟨_,rfl⟩
 have heta:ze.mk (ze.op (dV s)) ((ze.v (dV s)).1,(ze.v (dV s)).2.1,(ze.v (dV s)).2.2) (ze.s (dV s)) (ze.l (dV s))=dV s:=ze.eta _
 have hb0:((0:Int)==0)=true:=rfl
 by_cases hcz:ce=0
 case neg=>
  refine ⟨noT,ce,fin (r:=(.tup [.agg [.str [],.nils,.int .i64 0,.nils,.nils,.str [],.int .i64 0,.int .i64 0,.str [],.str [],.nils],.int .i64 ce],[])) ?_ rfl,fun h=>absurd h hcz⟩
  have c2:(ce != 0)=true:=by simpa using hcz
  simp only [np,Tr.val,zY,hb0,heta,hce,c2,zH,if_true,if_false]
 subst hcz
 obtain ⟨c,hcc⟩:∃ c,(af s).getD k' (zj zi)=c:=⟨_,rfl⟩
 have hget:(af s)[k']=c:=by rw [← hcc,aH,zJ hkl]; rfl
 refine ⟨(s.2.1,(af s).set k' (c.1,c.2.1,true),(k':Int),(iB s).map (zM (af s)),(fH s).map fun r:Sem bJ=>((zM (af s) r.1,r.2):Sem zq),dV s),0,?_,fun _=>⟨rfl,(OO _).2 ?_,by simpa using hu,by simpa using hrf,rfl⟩⟩
 ·refine fin (r:=(.tup [.agg [.str s.2.1,.vec 0,.int .i64 (k':Int),.vec 1,.vec 2,.str (ze.op (dV s)),.int .i64 (ze.v (dV s)).1,.int .i64 (ze.v (dV s)).2.1,.str (ze.v (dV s)).2.2,.str (ze.s (dV s)),.sl Sh.expr (ze.l (dV s))],.int .i64 0],[.vec zi ((af s).set k' (c.1,c.2.1,true)),.vec zg ((iB s).map (zM (af s))),.vec zq ((fH s).map fun r:Sem bJ=>((zM (af s) r.1,r.2):Sem zq))])) ?_ ?_
  ·have c2:((0:Int) != 0)=false:=rfl
   simp only [np,Tr.val,zY,hb0,heta,hce,c2,lI hkin,hkd,aQ,hcc,zH,if_true,if_false]
  ·rw [← heta]; rfl
 ·have hsame:mD ((af s).set k' (c.1,c.2.1,true)) (af s):=by
   unfold mD
   rw [List.map_set]
   show ((af s).map _).set k' (c.1,c.2.1)=_
   have:((af s).map (fun c:Sem zi=>(c.1,c.2.1)))[k']?=some (c.1,c.2.1):=by
    rw [dh,zJ hkl,hget]; rfl
   rw [show ((c.1,c.2.1):zp×Int)=getD ((af s).map (fun c:Sem zi=>(c.1,c.2.1))) k' ([],0) by rw [aH,this]; rfl]
   exact EM
  have hl:=hsame.len
  refine ⟨?_,by show 1≤((af s).set k' _).length; rw [hl]; exact n1,by show ((af s).set k' _).length≤8; rw [hl]; exact n8,fun i hi=>?_,fun u hu'=>?_,fun f hf=>?_,?_,?_,?_⟩
  ·exact hn
  ·have hi:i < (af s).length:=by rw [← hl]; exact hi
   obtain ⟨a1,a2⟩:=hsame.at i
   have hok:=hcol _ (gZ (d:=zj zi) hi)
   show bV (getD ((af s).set k' (c.1,c.2.1,true)) i (zj zi)).1=true∧LE.le (α:=Int) 1 (getD ((af s).set k' (c.1,c.2.1,true)) i (zj zi)).2.1∧LE.le (α:=Int) (getD ((af s).set k' (c.1,c.2.1,true)) i (zj zi)).2.1 3∧zM ((af s).set k' (c.1,c.2.1,true)) (getD ((af s).set k' (c.1,c.2.1,true)) i (zj zi)).1=(i:Int)
   rw [a1,a2,hsame.place,hpl i hi]
   unfold hZ at hok
   cases b1:bt (getD (af s) i (zj zi)).1
   ·rw [b1] at hok; cases hok
   rw [b1] at hok
   simp only [aR] at hok
   by_cases b2:GE.ge (α:=Int) (getD (af s) i (zj zi)).2.1 1
   ·rw [aq b2] at hok
    exact ⟨b1,b2,fj hok,rfl⟩
   ·rw [cx b2] at hok; cases hok
  ·obtain ⟨n,hn',rfl⟩:=fm.1 hu'
   show kO _ ((af s).set k' _).length
   rw [hl]
   exact rng n (hup n hn')
  ·obtain ⟨r,hr',rfl⟩:=fm.1 hf
   refine ⟨?_,?_⟩
   ·show kO _ ((af s).set k' _).length
    rw [hl]
    exact rng r.1 (hrp r hr')
   ·have:=href r hr'
    unfold ni at this
    cases b1:bt r.1
    ·rw [b1] at this; cases this
    ·rw [b1] at this; exact this
  ·show kO _ ((af s).set k' _).length
   rw [hl]; exact hkin
  ·show (getD ((af s).set k' (c.1,c.2.1,true)) (toNat (k':Int)) (zj zi)).2.2=true
   rw [aQ,aH,ma (by exact hkl)]
   rfl
  ·exact (Fg hsame (dV s)).trans hce
end Cad
