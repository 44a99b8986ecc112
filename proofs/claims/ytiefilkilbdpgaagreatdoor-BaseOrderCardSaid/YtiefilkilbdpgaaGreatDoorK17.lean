/- Few of anything: always an answer, and a short one. The law BaseSelects holds. Rows: insertion sort, ranges and blocks that change places: they end, and what lies then are the same rows. Rows: merged: it ends, and what lies then are the same rows. Rows: merged, sorted: it ends, and what lies then are the same rows. Rows, sorted: what lies then are the same rows, in the same order if they rose. Few tables: their checks are not deep. Rows that are put in, in one order or another: the law. Bases: what an INSERT answers. The document's sameness of expressions and statements: they are the same. The document's sameness of statements, tables, plans: they are the same. The document's sameness of rows. The document's sameness of rows, again. The document's sameness of tables with rows. The document's sameness of bases. The document's sameness of rows, tables, bases: they are the same. The law BaseOrder. -/
import Derived.Test.YtiefilkilbdpgaaGreatDoorK14
import Derived.Test.YtiefilkilbdpgaaGreatDoorK13
import Derived.Test.YtiefilkilbdpgaaGreatDoorK16
import Derived.Test.YtiefilkilbdpgaaGreatDoorK12
import Derived.Test.YtiefilkilbdpgaaGreatDoorK11
namespace Cad
open Go Go.Proofs
open Int (toNat)
open List (getD)
open List (length)
set_option maxHeartbeats 4000000

theorem ke {a0 a1 a2 a3 a4 a5 a6 a7 a8 a9 b0 b1 b2 b3 b4 b5 b6 d0 d1 d2 d3 d4 d5 d6 d7 d8 d9}:∀ (l:List (Sem zo)) (i:Int) (acc:List (Sem zo)),(acc.length:Int)≤i→acc.length≤10→
  (fe a0 a1 a2 a3 a4 a5 a6 a7 a8 a9 b0 b1 b2 b3 b4 b5 b6 d0 d1 d2 d3 d4 d5 d6 d7 d8 d9 l i acc).2.2.2.1=d9∧length (fe a0 a1 a2 a3 a4 a5 a6 a7 a8 a9 b0 b1 b2 b3 b4 b5 b6 d0 d1 d2 d3 d4 d5 d6 d7 d8 d9 l i acc).2.2.2.2.1≤10
 | [],_,_,_,ha=>⟨rfl,ha⟩
 | x::r,i,acc,h,ha=>by
  rw [fe]
  split
  ·rename_i hi
   simp only [ah] at hi
   exact ke r (i+1) _ (by simp; omega) (by simp; omega)
  ·exact ⟨rfl,ha⟩
theorem oL {a0 a1 a2 a3 a4 a5 a6 a7 a8 a9 b0 b1 b2 b3 b4 b5 b6 d0 d1 d2 d3 d4 d5 d6 d7 d8 d9}:∀ (l:List (Sem zg)) (i:Int) (acc:List (Sem zg)),(acc.length:Int)≤i→acc.length≤10→
  length (eD a0 a1 a2 a3 a4 a5 a6 a7 a8 a9 b0 b1 b2 b3 b4 b5 b6 d0 d1 d2 d3 d4 d5 d6 d7 d8 d9 l i acc).2.2.2.1≤10∧length (eD a0 a1 a2 a3 a4 a5 a6 a7 a8 a9 b0 b1 b2 b3 b4 b5 b6 d0 d1 d2 d3 d4 d5 d6 d7 d8 d9 l i acc).2.2.2.2.1≤10
 | [],i,acc,h,ha=>by
  rw [eD]
  obtain ⟨h1,h2⟩:=ke (a0:=a0) (a1:=a1) (a2:=a2) (a3:=d9) (a4:=a4) (a5:=a5) (a6:=a6) (a7:=a7) (a8:=a8) (a9:=a9) (b0:=b0) (b1:=b1) (b2:=b2) (b3:=b3) (b4:=b4) (b5:=b5) (b6:=b6) (d0:=d0) (d1:=d1) (d2:=d2) (d3:=d3) (d4:=d4) (d5:=d5) (d6:=d6) (d7:=d7) (d8:=d8) (d9:=acc) a3 0 [] (by simp) (by simp)
  rw [h1]
  exact ⟨ha,h2⟩
 | x::r,i,acc,h,ha=>by
  rw [eD]
  split
  ·rename_i hi
   simp only [ah] at hi
   exact oL r (i+1) _ (by simp; omega) (by simp; omega)
  ·obtain ⟨h1,h2⟩:=ke (a0:=a0) (a1:=a1) (a2:=a2) (a3:=d9) (a4:=a4) (a5:=a5) (a6:=a6) (a7:=a7) (a8:=a8) (a9:=a9) (b0:=b0) (b1:=b1) (b2:=b2) (b3:=b3) (b4:=b4) (b5:=b5) (b6:=b6) (d0:=d0) (d1:=d1) (d2:=d2) (d3:=d3) (d4:=d4) (d5:=d5) (d6:=d6) (d7:=d7) (d8:=d8) (d9:=acc) a3 0 [] (by simp) (by simp)
   rw [h1]
   exact ⟨ha,h2⟩
theorem DP (t:Sem zE):length (jH t).2.2.2.1≤10∧length (jH t).2.2.2.2.1≤10:=by
 unfold jH
 exact oL _ _ _ (by simp) (by simp)

def xy (l rows:List (Sem (.sl zf))):Prop:=rows.length≤201∧∀ r∈rows,∃ r0∈l,r=fY r0
theorem zbF (n:Nat) (i4:Int) (hi4:i4≤201) (h0:0≤i4) (z0:zr cpR) (z1:zr RT) (t:Sem zE) (hn:300≤n):∃ rows:List (Sem (.sl zf)),xy z0.1.2 rows∧∃ r,dh GW n (.h6 i4 0 z0 z1 (t,[],()))=some r∧zY r.2 [zh] r.1=some (((t,rows):Sem zh),()):=by
 obtain ⟨N,hN⟩:∃ N:Nat,i4=(N:Int):=⟨toNat i4,by omega⟩
 have h:=ju (t:=GW) (β:=List (Sem (.sl zf))) (min N (length z0.1.2)) (fun b i=>.h6 i4 (i:Int) z0 z1 (t,b,())) (fun b i=>b.length=i∧∀ r∈b,∃ r0∈z0.1.2,r=fY r0) (fun r=>∃ rows:List (Sem (.sl zf)),xy z0.1.2 rows∧zY r.2 [zh] r.1=some (((t,rows):Sem zh),())) 1 (by
   intro b i hi hb
   have h1:(i:Int) < (length z0.1.2:Int):=by omega
   have h2:(i:Int) < i4:=by omega
   have h3:zJ (i:Int) (length z0.1.2)=true:=zF (by omega)
   refine Or.inl ⟨b++[fY (getD z0.1.2 (i:Int).toNat (zj zf.sl))],⟨by simp [hb.1],fun r hr=>?_⟩,?_⟩
   ·rcases bl.1 hr with hr | hr
    ·exact hb.2 r hr
    ·rw [bF] at hr
     refine ⟨_,?_,hr⟩
     rw [bP,aB,zI (by omega),bw]
     exact cR _
   simp only [GW,Tr.val,bx h1,bx h2,bG,if_true,h3]
   rw [zG i (by unfold zD; omega),if_pos (by simp; omega)]) (by
   intro b n hb hn
   obtain ⟨n,rfl⟩:∃ k,n=k+1:=⟨n - 1,by omega⟩
   rw [jt]
   have hf:(bif decide (((min N (length z0.1.2):Nat):Int) < (length z0.1.2:Int)) then decide (((min N (length z0.1.2):Nat):Int) < i4) else false)=false:=by
    by_cases h:N≤length z0.1.2
    ·rw [Nat.min_eq_left h,hN]
     simp
    ·rw [Nat.min_eq_right (by omega)]
     simp
   simp only [GW,Tr.val,hf]
   refine ⟨_,rfl,b,⟨by have:=hb.1; omega,hb.2⟩,?_⟩
   obtain ⟨t0,t1,t2,t3,t4,t5⟩:=t
   cases t5
   rfl) (min N (length z0.1.2)) 0 [] n rfl (be _) ⟨rfl,by simp⟩ (by omega)
 obtain ⟨r,h1,rows,h2,h3⟩:=h
 exact ⟨rows,h2,r,h1,h3⟩

theorem tM (x:Sem zh):∃ rows:List (Sem (.sl zf)),xy x.2 rows∧tL x=some (((jH x.1,rows):Sem zh),()):=by
 have e:jH (x.1.1,x.1.2.1,x.1.2.2.1,x.1.2.2.2.1,x.1.2.2.2.2.1,zC x.1.2.2.2.2.2)=jH x.1:=by rw [zt]
 have hv:∃ k:Int,0≤k∧k≤201∧(Sr x).val=some (.inl (.h6 k 0 (x,()) ([],0,[],0,0,[],[],()) (jH x.1,[],()))):=by
  simp only [Sr,Tr.val,e]
  split
  ·exact ⟨201,by omega,by omega,rfl⟩
  ·exact ⟨40,by omega,by omega,rfl⟩
 obtain ⟨k,k1,k2,hv⟩:=hv
 obtain ⟨rows,h1,r,h2,h3⟩:=zbF 100000000 k k2 k1 (x,()) ([],0,[],0,0,[],[],()) (jH x.1) (by omega)
 refine ⟨rows,h1,?_⟩
 unfold tL ap cx
 rw [hv]
 show (dh GW 100000000 _).bind _=_
 rw [h2]
 exact h3

theorem Bs (x:Sem zh):dZ (qr x):=by
 obtain ⟨rows,h1,h2⟩:=tM x
 have h3:qr x=(jH x.1,rows):=by unfold qr; rw [h2]; rfl
 rw [h3]
 obtain ⟨k1,k2⟩:=DP x.1
 exact ⟨by show length (jH x.1).2.2.2.1≤_; omega,by show length (jH x.1).2.2.2.2.1≤_; omega,by show rows.length≤_; have:=h1.1; omega⟩
theorem Br (x:Sem zh):Da x=true:=by
 obtain ⟨rows,h1,h2⟩:=tM x
 unfold Da
 rw [h2]; rfl

theorem gH (s:zq):dr s=true:=by
 unfold dr
 split
 ·rename_i h
  have:20 < s.length:=by simp at h; omega
  rw [if_pos (by simp; omega)]
 ·rfl
theorem dc (s:zq):(aO s).length≤20:=by
 unfold aO
 split
 ·simp; omega
 ·rename_i h
  have:¬ 20 < s.length:=by simp at h; omega
  omega
theorem kD:∀ (l:List zq) (i:Int) (acc:List zq),(acc.length:Int)≤i→dH l i acc=true
 | [],_,_,_=>rfl
 | x::r,i,acc,h=>by
  rw [dH]
  split
  ·rename_i hi
   simp only [ah] at hi
   rw [if_pos (gH x),if_pos (by simp; omega)]
   exact kD r (i+1) _ (by simp; omega)
  ·rfl
theorem vD (l:List zq):lr l=true:=kD l 0 [] (by simp)
theorem mL:∀ (l:List zq) (i:Int) (acc:List zq),(acc.length:Int)≤i→acc.length≤10→(∀ x∈acc,length x≤20)→length (cW l i acc)≤10∧∀ x∈cW l i acc,length x≤20
 | [],_,acc,_,h,ha=>⟨h,ha⟩
 | x::r,i,acc,h,hl,ha=>by
  rw [cW]
  split
  ·rename_i hi
   simp only [ah] at hi
   refine mL r (i+1) _ (by simp; omega) (by simp; omega) (fun y hy=>?_)
   rcases bl.1 hy with hy | hy
   ·exact ha y hy
   ·rw [bF] at hy
    rw [hy]; exact dc x
  ·exact ⟨hl,ha⟩
theorem qq (l:List zq):length (eW l)≤10∧∀ x∈eW l,length x≤20:=mL l 0 [] (by simp) (by simp) (by simp)
theorem lu:∀ (l:List (Sem zi)) (i:Int) (acc:List (Sem zi)),(acc.length:Int)≤i→acc.length≤10→(∀ x∈acc,length x.1≤20)→length (fO l i acc)≤10∧∀ x∈fO l i acc,length x.1≤20
 | [],_,acc,_,h,ha=>⟨h,ha⟩
 | x :: r,i,acc,h,hl,ha=>by
  rw [fO]
  split
  ·rename_i hi
   simp only [ah] at hi
   split
   ·refine lu r (i+1) _ (by simp; omega) (by simp; omega) (fun y hy=>?_)
    rcases bl.1 hy with hy | hy
    ·exact ha y hy
    ·rw [bF] at hy
     rw [hy]; simp; omega
   ·rename_i hx
    have hx:¬ 20 < length x.1:=by simp at hx; omega
    refine lu r (i+1) _ (by simp; omega) (by simp; omega) (fun y hy=>?_)
    rcases bl.1 hy with hy | hy
    ·exact ha y hy
    ·rw [bF] at hy
     rw [hy]; omega
  ·exact ⟨hl,ha⟩
theorem Gw (l:List (Sem zi)):length (ls l)≤10∧∀ x∈ls l,length x.1≤20:=lu l 0 [] (by simp) (by simp) (by simp)
theorem qt:∀ (l:List (Sem zf)) (i:Int) (acc:List (Sem zf)),(acc.length:Int)≤i→acc.length≤14→length (iG l i acc)≤14
 | [],_,acc,_,h=>h
 | x::r,i,acc,h,hl=>by
  rw [iG]
  split
  ·rename_i hi
   simp only [ah] at hi
   exact qt r (i+1) _ (by simp; omega) (by simp; omega)
  ·exact hl
theorem Gx (l:List (Sem zf)):length (fY l)≤14:=qt l 0 [] (by simp) (by simp)

theorem Er {g:Sem Sh.expr→Sem zg→Sem zg→Sem Sh.expr×Sem zg} {c:Sem Sh.expr→Sem zg→Sem zg→Bool} {i1:Int} {N:Nat} (h:∀ x n,0 < i1→kK N (g x (IntKind.i64.wrap (i1 - 1)) n).1=true) {a0 a1 a2 a3 a4 b0 b1 b2 b3 b4 d0 d1 d2 d3 d4}:
  ∀ (l:List (Sem Sh.expr)) (i n:Int) (acc:List (Sem Sh.expr)),(acc.length:Int)≤i→acc.length≤3→(∀ x∈acc,kK N x=true)→kK (N+1) (bW g c i1 a0 a1 a2 a3 a4 b0 b1 b2 b3 b4 d0 d1 d2 d3 d4 l i n acc).1=true
 | [],_,_,acc,_,hl,ha=>by
  rw [bW]
  show (decide (acc.length≤1073741824)&&acc.all (kK N))=true
  rw [cA.2 ha]
  simp; omega
 | x::r,i,n,acc,hi,hl,ha=>by
  rw [bW]
  split
  ·rename_i hk
   have h3:i < 3∧i1 > 0:=by
    cases h1:decide (i < 3) <;> cases h2:decide (i1 > 0) <;> simp_all
   refine Er h r (i+1) _ _ (by simp; omega) (by simp; omega) (fun y hy=>?_)
   rcases bl.1 hy with hy | hy
   ·exact ha y hy
   ·rw [bF] at hy
    rw [hy]; exact h x n h3.2
  ·show (decide (acc.length≤1073741824)&&acc.all (kK N))=true
   rw [cA.2 ha]
   simp; omega
theorem ME {g:Sem Sh.expr→Sem zg→Sem zg→Sem Sh.expr×Sem zg} {c:Sem Sh.expr→Sem zg→Sem zg→Bool} {i1:Int} {N:Nat} (h:∀ x n,0 < i1→kK N (g x (IntKind.i64.wrap (i1 - 1)) n).1=true) (e:ze) (n:Int):kK (N+1) (CS g c e i1 n).1=true:=by
 unfold CS
 repeat' split
 all_goals exact Er h _ _ _ _ (by simp) (by simp) (by simp)
theorem Es:∀ (N:Nat) (e:ze) (d n:Int),0≤d→d < N→N≤100→kK N (jW N e d n).1=true
 | 0,_,_,_,h1,h2,_=>by omega
 | N+1,e,d,n,h1,h2,h3=>by
  rw [jW]
  refine ME (fun x m hd=>?_) e n
  rw [kk _ (by omega) (by omega)]
  exact Es N x (d - 1) m (by omega) (by omega) (by omega)
theorem Ed (e:ze):kK 16 (da e)=true:=by
 have h:=Es 16 e 14 80 (by omega) (by omega) (by omega)
 unfold da
 rw [ze.eta]
 exact h

structure Xd (s:Sem zx):Prop where
 sh:iO s
 cp:kK 16 s.2.2.2.2.2.2.2.2.1=true

abbrev CV (s:Sem zx):zq×zq×zq×List zq×List (Sem zi)×zq×List zq:=(aO s.1,aO s.2.1,aO s.2.2.1,eW s.2.2.2.1,ls s.2.2.2.2.1,aO s.2.2.2.2.2.1,eW s.2.2.2.2.2.2.1)

def F3I (z0:zr kO) (i:Nat) (z:zr HC):Prop:=z.1.length≤20∧z.2.1.length≤20∧z.2.2.1.length≤20∧(length z.2.2.2.1≤10∧∀ x∈z.2.2.2.1,length x≤20)∧(length z.2.2.2.2.1≤10∧∀ x∈z.2.2.2.2.1,length x.1≤20)∧z.2.2.2.2.2.1.length≤20∧
 (length z.2.2.2.2.2.2.1≤10∧∀ x∈z.2.2.2.2.2.2.1,length x≤20)∧(length z.2.2.2.2.2.2.2.1=i∧∀ x∈z.2.2.2.2.2.2.2.1,length x.1≤20∧length x.2≤20)∧kK 16 z.2.2.2.2.2.2.2.2.1=true∧length z.2.2.2.2.2.2.2.2.2.1≤14∧z.2.2.2.2.2.2.2.2.2.2.2.1.length≤20∧
 z.2.2.2.2.2.2.2.2.1=da z0.1.2.2.2.2.2.2.2.2.1∧z.2.2.2.2.2.2.2.2.2.1=fY z0.1.2.2.2.2.2.2.2.2.2.1∧z.2.2.2.2.2.2.2.2.2.2.1=da z0.1.2.2.2.2.2.2.2.2.2.2.2.1∧(z.1,z.2.1,z.2.2.1,z.2.2.2.1,z.2.2.2.2.1,z.2.2.2.2.2.1,z.2.2.2.2.2.2.1)=CV z0.1

def F7I (z0:zr kO) (i:Nat) (z:zr HD):Prop:=z.1.length≤20∧z.2.1.length≤20∧z.2.2.1.length≤20∧(length z.2.2.2.1≤10∧∀ x∈z.2.2.2.1,length x≤20)∧(length z.2.2.2.2.1≤10∧∀ x∈z.2.2.2.2.1,length x.1≤20)∧z.2.2.2.2.2.1.length≤20∧
 (length z.2.2.2.2.2.2.1≤10∧∀ x∈z.2.2.2.2.2.2.1,length x≤20)∧(length z.2.2.2.2.2.2.2.1≤10∧∀ x∈z.2.2.2.2.2.2.2.1,length x.1≤20∧length x.2≤20)∧kK 16 z.2.2.2.2.2.2.2.2.1=true∧length z.2.2.2.2.2.2.2.2.2.1≤14∧
 (length z.2.2.2.2.2.2.2.2.2.2.1=i∧∀ x∈z.2.2.2.2.2.2.2.2.2.2.1,length x.1≤20∧∃ y∈z0.1.2.2.2.2.2.2.2.2.2.2.1,x.2=da y.2)∧z.2.2.2.2.2.2.2.2.2.2.2.2.1.length≤20∧
 z.2.2.2.2.2.2.2.2.1=da z0.1.2.2.2.2.2.2.2.2.1∧z.2.2.2.2.2.2.2.2.2.1=fY z0.1.2.2.2.2.2.2.2.2.2.1∧z.2.2.2.2.2.2.2.2.2.2.2.1=da z0.1.2.2.2.2.2.2.2.2.2.2.2.1∧(z.1,z.2.1,z.2.2.1,z.2.2.2.1,z.2.2.2.2.1,z.2.2.2.2.2.1,z.2.2.2.2.2.2.1)=CV z0.1

structure OE (s0 s:Sem zx):Prop where
 chk:s.2.2.2.2.2.2.2.2.1=da s0.2.2.2.2.2.2.2.2.1
 row:s.2.2.2.2.2.2.2.2.2.1=fY s0.2.2.2.2.2.2.2.2.2.1
 whr:s.2.2.2.2.2.2.2.2.2.2.2.1=da s0.2.2.2.2.2.2.2.2.2.2.2.1
 sets:∀ x∈s.2.2.2.2.2.2.2.2.2.2.1,∃ y∈s0.2.2.2.2.2.2.2.2.2.2.1,(x:Sem aJ).2=da (y:Sem aJ).2
 fr:(s.1,s.2.1,s.2.2.1,s.2.2.2.1,s.2.2.2.2.1,s.2.2.2.2.2.1,s.2.2.2.2.2.2.1)=CV s0

def L0 (s0:Sem zx) (r:ag):Prop:=∃ s:Sem zx,zY r.2 [zx] r.1=some (s,())∧Xd s∧OE s0 s

theorem fs7 (z0:zr kO) (z1:zr dN) (z:zr HD) (hz:F7I z0 0 z) (n:Nat) (hn:20≤n):∃ r,dh Np n (.h7 0 z0 z1 z)=some r∧L0 z0.1 r:=by
 refine ju (t:=Np) (β:=zr HD) (min 10 (length z0.1.2.2.2.2.2.2.2.2.2.2.1)) (fun z i=>.h7 (i:Int) z0 z1 z) (fun z i=>F7I z0 i z) (L0 z0.1) 1 ?_ ?_ (min 10 (length z0.1.2.2.2.2.2.2.2.2.2.2.1)) 0 z n rfl (be _) hz (by omega)
 ·intro z i hi hb
  obtain ⟨h0,h1,h2,h3,h4,h5,h6,h7,h8,h9,h10,h11,h12⟩:=hb
  have k1:(i:Int) < (length z0.1.2.2.2.2.2.2.2.2.2.2.1:Int):=by omega
  have k2:(i:Int) < 10:=by omega
  have k3:zJ (i:Int) (length z0.1.2.2.2.2.2.2.2.2.2.2.1)=true:=zF (by omega)
  refine Or.inl ⟨(z.1,z.2.1,z.2.2.1,z.2.2.2.1,z.2.2.2.2.1,z.2.2.2.2.2.1,z.2.2.2.2.2.2.1,z.2.2.2.2.2.2.2.1,z.2.2.2.2.2.2.2.2.1,z.2.2.2.2.2.2.2.2.2.1,z.2.2.2.2.2.2.2.2.2.2.1++[(aO (getD z0.1.2.2.2.2.2.2.2.2.2.2.1 (i:Int).toNat (zj aJ)).1,zC (da (zC (getD z0.1.2.2.2.2.2.2.2.2.2.2.1 (i:Int).toNat (zj aJ)).2)))],z.2.2.2.2.2.2.2.2.2.2.2),⟨h0,h1,h2,h3,h4,h5,h6,h7,h8,h9,?_,h11,h12⟩,?_⟩
  rotate_left 1
  ·simp only [Np,Tr.val,bx k1,bx k2,bG,if_true,k3,gH]
   rw [zG i (by unfold zD; omega),if_pos (by have:=h10.1; simp; omega)]
  ·refine ⟨?_,fun x hx=>?_⟩
   ·simp [h10.1]
   ·rcases bl.1 hx with hx | hx
    ·exact h10.2 x hx
    ·rw [bF] at hx
     rw [hx]; exact ⟨dc _,_,Bm _ (zj aJ) (by simpa using (show i < _ by omega)),by simp only [zt,bP]⟩
 ·intro z n hb hn
  obtain ⟨n,rfl⟩:∃ k,n=k+1:=⟨n - 1,by omega⟩
  obtain ⟨h0,h1,h2,h3,h4,h5,h6,h7,h8,h9,h10,h11,h12⟩:=hb
  rw [jt]
  have hf:(bif decide (((min 10 (length z0.1.2.2.2.2.2.2.2.2.2.2.1):Nat):Int) < (length z0.1.2.2.2.2.2.2.2.2.2.2.1:Int)) then decide (((min 10 (length z0.1.2.2.2.2.2.2.2.2.2.2.1):Nat):Int) < 10) else false)=false:=by
   by_cases h:10≤length z0.1.2.2.2.2.2.2.2.2.2.2.1
   ·rw [Nat.min_eq_left h]
    simp
   ·rw [Nat.min_eq_right (by omega)]
    simp
  simp only [Np,Tr.val,hf]
  refine ⟨_,rfl,(z.1,z.2.1,z.2.2.1,z.2.2.2.1,z.2.2.2.2.1,z.2.2.2.2.2.1,z.2.2.2.2.2.2.1,z.2.2.2.2.2.2.2.1,z.2.2.2.2.2.2.2.2.1,z.2.2.2.2.2.2.2.2.2.1,z.2.2.2.2.2.2.2.2.2.2.1,z.2.2.2.2.2.2.2.2.2.2.2.1,z.2.2.2.2.2.2.2.2.2.2.2.2.1),?_,⟨?_,h8⟩,⟨h12.1,h12.2.1,h12.2.2.1,fun x hx=>(h10.2 x hx).2,h12.2.2.2⟩⟩
  ·obtain ⟨z0,z1,z2,z3,z4,z5,z6,z7,z8,z9,z10,z11,z12,z13⟩:=z
   cases z8
   cases z11
   rfl
  ·refine ⟨by show z.1.length≤_; omega,by show z.2.1.length≤_; omega,by show z.2.2.1.length≤_; omega,⟨by have:=h3.1; show length z.2.2.2.1≤_; omega,fun x hx=>by have:=h3.2 x hx; omega⟩,⟨by have:=h4.1; show length z.2.2.2.2.1≤_; omega,fun x hx=>by have:=h4.2 x hx; omega⟩,by show z.2.2.2.2.2.1.length≤_; omega,⟨by have:=h6.1; show length z.2.2.2.2.2.2.1≤_; omega,fun x hx=>by have:=h6.2 x hx; omega⟩,⟨by have:=h7.1; show length z.2.2.2.2.2.2.2.1≤_; omega,fun x hx=>by have:=h7.2 x hx; omega⟩,by show length z.2.2.2.2.2.2.2.2.2.1≤_; omega,⟨by have:=h10.1; show length z.2.2.2.2.2.2.2.2.2.2.1≤_; omega,fun x hx=>by have:=(h10.2 x hx).1; omega⟩,by show z.2.2.2.2.2.2.2.2.2.2.2.2.1.length≤_; omega⟩

theorem fs3 (z0:zr kO) (z1:zr dN) (z:zr HC) (hz:F3I z0 0 z) (n:Nat) (hn:40≤n):∃ r,dh Np n (.h3 0 z0 z1 z)=some r∧L0 z0.1 r:=by
 refine ju (t:=Np) (β:=zr HC) (min 10 (length z0.1.2.2.2.2.2.2.2.1)) (fun z i=>.h3 (i:Int) z0 z1 z) (fun z i=>F3I z0 i z) (L0 z0.1) 21 ?_ ?_ (min 10 (length z0.1.2.2.2.2.2.2.2.1)) 0 z n rfl (be _) hz (by omega)
 ·intro z i hi hb
  obtain ⟨h0,h1,h2,h3,h4,h5,h6,h7,h8⟩:=hb
  have k1:(i:Int) < (length z0.1.2.2.2.2.2.2.2.1:Int):=by omega
  have k2:(i:Int) < 10:=by omega
  have k3:zJ (i:Int) (length z0.1.2.2.2.2.2.2.2.1)=true:=zF (by omega)
  refine Or.inl ⟨(z.1,z.2.1,z.2.2.1,z.2.2.2.1,z.2.2.2.2.1,z.2.2.2.2.2.1,z.2.2.2.2.2.2.1,z.2.2.2.2.2.2.2.1++[(aO (getD z0.1.2.2.2.2.2.2.2.1 (i:Int).toNat (zj bI)).1,aO (getD z0.1.2.2.2.2.2.2.2.1 (i:Int).toNat (zj bI)).2)],z.2.2.2.2.2.2.2.2),⟨h0,h1,h2,h3,h4,h5,h6,?_,h8⟩,?_⟩
  rotate_left 1
  ·simp only [Np,Tr.val,bx k1,bx k2,bG,if_true,k3,gH]
   rw [zG i (by unfold zD; omega),if_pos (by have:=h7.1; simp; omega)]
  ·refine ⟨?_,fun x hx=>?_⟩
   ·simp [h7.1]
   ·rcases bl.1 hx with hx | hx
    ·exact h7.2 x hx
    ·rw [bF] at hx
     rw [hx]; exact ⟨dc _,dc _⟩
 ·intro z n hb hn
  obtain ⟨n,rfl⟩:∃ k,n=k+1:=⟨n - 1,by omega⟩
  obtain ⟨h0,h1,h2,h3,h4,h5,h6,h7,h8,h9,h10,h11⟩:=hb
  rw [jt]
  have hf:(bif decide (((min 10 (length z0.1.2.2.2.2.2.2.2.1):Nat):Int) < (length z0.1.2.2.2.2.2.2.2.1:Int)) then decide (((min 10 (length z0.1.2.2.2.2.2.2.2.1):Nat):Int) < 10) else false)=false:=by
   by_cases h:10≤length z0.1.2.2.2.2.2.2.2.1
   ·rw [Nat.min_eq_left h]
    simp
   ·rw [Nat.min_eq_right (by omega)]
    simp
  simp only [Np,Tr.val,hf]
  exact fs7 z0 z1 _ ⟨h0,h1,h2,h3,h4,h5,h6,⟨by have:=h7.1; show length z.2.2.2.2.2.2.2.1≤_; omega,h7.2⟩,h8,h9,⟨rfl,by simp⟩,h10,h11⟩ n (by omega)

theorem C9 (s:Sem zx):∃ s':Sem zx,tK s=some (s',())∧Xd s'∧OE s s':=by
 unfold tK ap cx
 simp only [i8p,Tr.val,gH,vD,if_true]
 obtain ⟨r,h1,s',h2,h3⟩:=fs3 (s,()) ([],[],[],[],[],0,0,[],[],[],0,0,[],[],[],()) (aO s.1,aO s.2.1,aO s.2.2.1,eW s.2.2.2.1,ls s.2.2.2.2.1,
  aO s.2.2.2.2.2.1,eW s.2.2.2.2.2.2.1,[],da (zC s.2.2.2.2.2.2.2.2.1),fY s.2.2.2.2.2.2.2.2.2.1,da (zC s.2.2.2.2.2.2.2.2.2.2.2.1),aO s.2.2.2.2.2.2.2.2.2.2.2.2,())
  ⟨dc _,dc _,dc _,qq _,Gw _,dc _,qq _,⟨rfl,by simp⟩,Ed _,Gx _,dc _,by simp only [zt],rfl,by simp only [zt],rfl⟩ 100000000 (by omega)
 refine ⟨s',?_,h3⟩
 rw [h1]
 exact h2

theorem sf:xD=some (true,()):=by kernel_rfl
theorem HA:Co=true:=by unfold Co; rw [sf]; rfl
theorem xE:nH=true:=by unfold nH; rw [sf]; rfl

theorem Mg {db:List (Sem zh)} {s:Sem zx} (hs:iO s) (hr:∀ x∈db,dZ x) (h:¬ (jE s=true∧cP db)):AE db s=some (db,mB 1,()):=by
 have h1:=qF hs
 have h2:=jR hr
 have h3:(bif !jE s then true else iQ db != 0)=true:=by
  cases hm:jE s with
  | false=>rfl
  | true=>
   have:iQ db≠(0:Int):=fun e=>h ⟨hm,(lN hr).1 e⟩
   simpa using this
 have h4:(nt s&&bif !jE s then true else nJ db)=true:=by
  rw [h1,h2]
  cases jE s <;> rfl
 have hv:(i9w db s).val=some (.inr (AV.tup [AV.sl zh db,AV.agg [AV.int .i64 1,AV.int .i64 0,AV.nils]],[])):=by
  simp only [i9w,Tr.val,zt,Prod.eta,h3,h4,if_true,ite_self]
 exact f4 hv rfl

theorem OQ {db:List (Sem zh)} {s:Sem zx} {n:List (Sem zh)} {a:Sem eJ} (h:AE db s=some (n,a,())):Mf db s=true∧bDo db s=(n,a):=by
 unfold Mf bDo
 rw [h]
 exact ⟨rfl,rfl⟩
set_option maxHeartbeats 2000000

theorem wI (x:Int) (h1:-4000000000≤x) (h2:x≤4000000000):IntKind.i64.wrap x=x:=by
 rw [IntKind.wrap_i64]; omega
theorem wU (x:Int) (h1:0≤x) (h2:x≤4000000000):IntKind.u64.wrap x=x:=by
 simp only [IntKind.wrap,IntKind.bits,IntKind.signed]
 simp
 omega

def iX (k:Int) (r:List (Sem zf)):Sem zf:=bif (bif decide (k < 0) then true else decide (k ≥ (↑(length r):Int))) then (0,0,[]) else getD r k.toNat (zj zf)
def yX (k:Int) (a b:List (Sem zf)):Prop:=Ha (iX k a) (iX k b)
theorem GT {k:Int} {a b:List (Sem zf)} (h:yX k a b):¬ yX k b a:=fun g=>uV (mu h g)
def Kp (k:Int) (l0 l:List (List (Sem zf))):Prop:=l.Perm l0∧(l0.Pairwise (yX k)→l=l0)
theorem Kp.refl {k:Int} {l:List (List (Sem zf))}:Kp k l l:=⟨.refl l,fun _=>rfl⟩
theorem Kp.len {k:Int} {l0 l:List (List (Sem zf))} (h:Kp k l0 l):l.length=l0.length:=h.1.length_eq
theorem Kp.trans {k:Int} {l0 l l':List (List (Sem zf))} (h:Kp k l0 l) (g:Kp k l l'):Kp k l0 l':=⟨g.1.trans h.1,fun hr=>by
 have e:=h.2 hr
 subst e
 exact g.2 hr⟩
theorem Kp.perm {k:Int} {l l':List (List (Sem zf))} (hp:l'.Perm l) (hn:¬ l.Pairwise (yX k)):Kp k l l':=⟨hp,fun hr=>absurd hr hn⟩
theorem mr {α:Type} {l:List α} {i j:Nat} (hi:i < l.length) (hj:j < l.length) (d:α):((l.set j (l.getD i d)).set i (l.getD j d)).Perm l:=by
 have e:((l.set j l[i]).set i l[j]).Perm l:=List.set_set_perm hj hi
 rwa [aB,aB,zI hj,zI hi]
theorem JY {k:Int} {l:List (List (Sem zf))} (h:l.Pairwise (yX k)) {i j:Nat} (hij:i < j) (hj:j < l.length) (d:List (Sem zf)):yX k (l.getD i d) (l.getD j d):=by
 have:=List.pairwise_iff_getElem.1 h i j (by omega) hj hij
 rwa [aB,aB,zI (by omega),zI hj]
theorem qZ {k:Int} {l:List (List (Sem zf))} {i j:Nat} (hij:i < j) (hj:j < l.length) (d:List (Sem zf)) (hc:yX k (l.getD j d) (l.getD i d)):¬ l.Pairwise (yX k):=fun hr=>GT hc (JY hr hij hj d)

theorem CY {i j:Nat} (h:j < i):decide ((i:Int) > (j:Int))=true:=by simpa using h
theorem MJ (n:Nat):decide ((n:Int) > (n:Int))=false:=by simp
theorem gI {i j:Nat} (h:¬ i < j):decide ((i:Int) < (j:Int))=false:=by simpa using h
theorem lv (k:Int) (x y:List (Sem zf)):
  (bif (bif decide (k < 0) then true else decide (k ≥ (↑(length x):Int))) then bif (bif decide (k < 0) then true else decide (k ≥ (↑(length y):Int))) then aP (0,0,[]) (0,0,[]) else aP (0,0,[]) (getD y k.toNat (zj zf))
   else bif (bif decide (k < 0) then true else decide (k ≥ (↑(length y):Int))) then aP (getD x k.toNat (zj zf)) (0,0,[]) else aP (getD x k.toNat (zj zf)) (getD y k.toNat (zj zf)))=aP (iX k x) (iX k y):=by
 unfold iX
 cases (bif decide (k < 0) then true else decide (k ≥ (↑(length x):Int))) <;> cases (bif decide (k < 0) then true else decide (k ≥ (↑(length y):Int))) <;> rfl
theorem IX (k:Int) (x:List (Sem zf)):(bif (bif decide (k < 0) then true else decide (k ≥ (↑(length x):Int))) then true else zJ k (length x))=true:=by
 cases h:(bif decide (k < 0) then true else decide (k ≥ (↑(length x):Int))) with
 | true=>rfl
 | false=>
  cases h1:decide (k < 0) with
  | true=>rw [h1] at h; cases h
  | false=>
   rw [h1] at h
   simp only [bS,decide_eq_false_iff_not] at h h1
   simp only [bS,zJ,aE,ah]
   omega
theorem iF (k:Int) (x y:List (Sem zf)):(bif (bif decide (k < 0) then true else decide (k ≥ (↑(length x):Int))) then (bif (bif decide (k < 0) then true else decide (k ≥ (↑(length y):Int))) then true else zJ k (length y))
  else zJ k (length x)&&(bif (bif decide (k < 0) then true else decide (k ≥ (↑(length y):Int))) then true else zJ k (length y)))=true:=by
 have h1:=IX k x
 rw [IX k y]
 cases h:(bif decide (k < 0) then true else decide (k ≥ (↑(length x):Int))) with
 | true=>rfl
 | false=>
  rw [h] at h1
  simp only [bS] at h1 ⊢
  rw [h1]
  rfl

theorem IQ (l0:List (List (Sem zf))) (a b i:Nat) (k:Int) (hn:l0.length≤1000) (hi:i < 1000):∀ (m j:Nat) (l:List (List (Sem zf))),j=a+m→j < l.length→Kp k l0 l→
  ∃ l',Kp k l0 l'∧aM mS (m+1) (.h4 (a:Int) (b:Int) k (i:Int) (j:Int) l) (.h1 (a:Int) (b:Int) k ((i+1:Nat):Int) l'):=by
 intro m
 induction m with
 | zero=>
  intro j l hj hl hk
  refine ⟨l,hk,aM.of ?_⟩
  obtain rfl:j=a:=by omega
  simp only [mS,Tr.val,MJ,bS,zR,if_false,if_true,zG i (by unfold zD; omega)]
 | succ m IH=>
  intro j l hj hl hk
  obtain ⟨j,rfl⟩:∃ j',j=j'+1:=⟨j - 1,by omega⟩
  have hlen:=hk.len
  have e1:decide (((j+1:Nat):Int) > (a:Int))=true:=CY (by omega)
  have e2:zJ ((j+1:Nat):Int) l.length=true:=zF hl
  have e3:decide (j+1 < l.length)=true:=by simpa using hl
  have e4:IntKind.i64.wrap (((j+1:Nat):Int) - 1)=(j:Int):=oS j (by unfold zD; omega)
  have e5:zJ (j:Int) l.length=true:=zF (by omega)
  have e6:decide (j < l.length)=true:=by simp; omega
  have e8:zJ (j:Int) (l.set (j+1) (l.getD j (zj zf.sl))).length=true:=by rw [ko]; exact e5
  have e9:decide (j < (l.set (j+1) (l.getD j (zj zf.sl))).length)=true:=by rw [ko]; exact e6
  by_cases hc:yX k (l.getD (j+1) (zj zf.sl)) (l.getD j (zj zf.sl))
  ·have hsw:Kp k l ((l.set (j+1) (l.getD j (zj zf.sl))).set j (l.getD (j+1) (zj zf.sl))):=Kp.perm (mr (by omega) hl _) (qZ (i:=j) (j:=j+1) (by omega) hl _ hc)
   obtain ⟨l',h1,h2⟩:=IH j _ (by omega) (by simp; omega) (hk.trans hsw)
   refine ⟨l',h1,((aM.of ?_).trans h2).mono (by omega)⟩
   have e7:decide (LT.lt (α:=Int) (aP (iX k (l.getD (j+1) (zj zf.sl))) (iX k (l.getD j (zj zf.sl)))) 0)=true:=bx hc
   simp only [mS,Tr.val,e4,bP]
   rw [iF,lv]
   simp only [e1,e2,e3,e5,e6,e7,e8,e9,bG,Bool.and_self,if_true]
  ·refine ⟨l,hk,(aM.of ?_).mono (by omega)⟩
   have e7:decide (LT.lt (α:=Int) (aP (iX k (l.getD (j+1) (zj zf.sl))) (iX k (l.getD j (zj zf.sl)))) 0)=false:=eO hc
   simp only [mS,Tr.val,e4,bP]
   rw [iF,lv]
   simp only [e1,e2,e3,e5,e6,e7,e8,e9,bG,Bool.and_self,if_true,zR,if_false,zG i (by unfold zD; omega)]

theorem IP (l0:List (List (Sem zf))) (a b:Nat) (k:Int) (hn:l0.length≤1000) (hb:b≤l0.length):∀ (m i:Nat) (l:List (List (Sem zf))),b - i=m→a≤i→Kp k l0 l→
  ∃ l',Kp k l0 l'∧bv mS (m * 1002+1) (.h1 (a:Int) (b:Int) k (i:Int) l) (.tup [],[.vec zf.sl l']):=by
 intro m
 induction m with
 | zero=>
  intro i l hm hi hk
  refine ⟨l,hk,(bv.of ?_).mono (by omega)⟩
  simp only [mS,Tr.val,gI (show ¬ i < b by omega),zR,if_false]
 | succ m IH=>
  intro i l hm hi hk
  have hlen:=hk.len
  obtain ⟨l1,h1,h2⟩:=IQ l0 a b i k hn (by omega) (i - a) i l (by omega) (by omega) hk
  obtain ⟨l',h3,h4⟩:=IH (i+1) l1 (by omega) (by omega) h1
  refine ⟨l',h3,((aM.of ?_).trans h2 |>.ends h4).mono (by omega)⟩
  simp only [mS,Tr.val,zV (show i < b by omega),if_true]
theorem tI (l:List (List (Sem zf))) (a b:Nat) (k:Int) (hn:l.length≤1000) (ha:a≤l.length) (hb:b≤l.length):∃ l',pt l a b k=some l'∧Kp k l l':=by
 obtain ⟨l',h1,h2⟩:=IP l a b k hn hb (b - (a+1)) (a+1) l rfl (by omega) Kp.refl
 refine ⟨l',?_,h1⟩
 have:C2 l a b k=some (.tup [],[.vec zf.sl l']):=by
  unfold C2 cx Ev
  rw [zG a (by unfold zD; omega)]
  have h9:b - (a+1)≤1000:=by omega
  exact h2 100000000 (dC (Nat.succ_le_succ (dU 1002 h9)) (by decide))
 unfold pt
 rw [this]
 rfl

theorem T4 (l0:List (List (Sem zf))) (a b n:Nat) (hn:l0.length≤1000) (ha:a+n≤l0.length) (hb:b+n≤l0.length):∀ (m i:Nat) (l:List (List (Sem zf))),n - i=m→i≤n→l.Perm l0→
  ∃ l',l'.Perm l0∧bv xn (m+1) (.h1 (a:Int) (b:Int) (n:Int) (i:Int) l) (.tup [],[.vec zf.sl l']):=by
 intro m
 induction m with
 | zero=>
  intro i l hm hi hp
  obtain rfl:i=n:=by omega
  refine ⟨l,hp,bv.of ?_⟩
  simp only [xn,Tr.val,af,zR,if_false]
 | succ m IH=>
  intro i l hm hi hp
  have hlen:=hp.length_eq
  have e0:IntKind.i64.wrap ((b:Int)+(i:Int))=((b+i:Nat):Int):=by rw [wI _ (by omega) (by omega)]; omega
  have e1:IntKind.i64.wrap ((a:Int)+(i:Int))=((a+i:Nat):Int):=by rw [wI _ (by omega) (by omega)]; omega
  have e2:zJ ((a+i:Nat):Int) l.length=true:=zF (by omega)
  have e3:zJ ((b+i:Nat):Int) l.length=true:=zF (by omega)
  have e4:decide (a+i < l.length)=true:=by simp; omega
  have e5:decide (b+i < l.length)=true:=by simp; omega
  obtain ⟨l',h1,h2⟩:=IH (i+1) ((l.set (a+i) (l.getD (b+i) (zj zf.sl))).set (b+i) (l.getD (a+i) (zj zf.sl))) (by omega) (by omega) ((mr (i:=b+i) (j:=a+i) (by omega) (by omega) _).trans hp)
  refine ⟨l',h1,((aM.of ?_).ends h2).mono (by omega)⟩
  simp only [xn,Tr.val,zV (show i < n by omega),e0,e1,e2,e3,e4,e5,bP,ko,if_true,zG i (by unfold zD; omega)]
theorem DL (l:List (List (Sem zf))) (a b n:Nat) (k:Int) (hn:l.length≤1000) (ha:a+n≤l.length) (hb:b+n≤l.length):∃ l',DK l a b n k=some l'∧l'.Perm l:=by
 obtain ⟨l',h1,h2⟩:=T4 l a b n hn ha hb n 0 l rfl (by omega) (.refl l)
 refine ⟨l',?_,h1⟩
 have:zaO l a b n k=some (.tup [],[.vec zf.sl l']):=h2 100000000 (by omega)
 unfold DK
 rw [this]
 rfl

theorem TV (l0:List (List (Sem zf))) (m:Nat) (k:Int) (hn:l0.length≤1000):∀ (s i j:Nat) (l:List (List (Sem zf))),i+j≤s→1≤i→1≤j→i≤m→m+j≤l0.length→l.Perm l0→
  ∃ l',l'.Perm l0∧bv uN (s+1) (.h2 (m:Int) k (i:Int) (j:Int) l) (.tup [],[.vec zf.sl l']):=by
 intro s
 induction s with
 | zero=>intro i j l h h1; omega
 | succ s IH=>
  intro i j l hs h1 h2 h3 h4 hp
  have hlen:=hp.length_eq
  have e0:IntKind.i64.wrap ((m:Int) - (i:Int))=((m - i:Nat):Int):=by rw [wI _ (by omega) (by omega)]; omega
  rcases Nat.lt_trichotomy i j with h | h | h
  ·obtain ⟨l1,q1,q2⟩:=DL l (m - i) (m+j - i) i k (by omega) (by omega) (by omega)
   obtain ⟨l',q3,q4⟩:=IH i (j - i) l1 (by omega) h1 (by omega) h3 (by omega) (q2.trans hp)
   refine ⟨l',q3,((aM.of ?_).ends q4).mono (by omega)⟩
   have c1:((i:Int) != (j:Int))=true:=by simp; omega
   have c2:decide ((i:Int) > (j:Int))=false:=by simp; omega
   have c3:IntKind.i64.wrap (IntKind.i64.wrap ((m:Int)+(j:Int)) - (i:Int))=((m+j - i:Nat):Int):=by rw [wI ((m:Int)+(j:Int)) (by omega) (by omega),wI _ (by omega) (by omega)]; omega
   have c4:IntKind.i64.wrap ((j:Int) - (i:Int))=((j - i:Nat):Int):=by rw [wI _ (by omega) (by omega)]; omega
   simp only [uN,Tr.val,e0,c1,c2,c3,c4,q1,eF,bw,if_true,zR,if_false]
  ·subst h
   obtain ⟨l1,q1,q2⟩:=DL l (m - i) m i k (by omega) (by omega) (by omega)
   refine ⟨l1,q2.trans hp,(bv.of ?_).mono (by omega)⟩
   simp only [uN,Tr.val,e0,bne_self_eq_false,q1,eF,bw,if_true,zR,if_false]
  ·obtain ⟨l1,q1,q2⟩:=DL l (m - i) m j k (by omega) (by omega) (by omega)
   obtain ⟨l',q3,q4⟩:=IH (i - j) j l1 (by omega) (by omega) h2 (by omega) h4 (q2.trans hp)
   refine ⟨l',q3,((aM.of ?_).ends q4).mono (by omega)⟩
   have c1:((i:Int) != (j:Int))=true:=by simp; omega
   have c2:decide ((i:Int) > (j:Int))=true:=by simp; omega
   have c4:IntKind.i64.wrap ((i:Int) - (j:Int))=((i - j:Nat):Int):=by rw [wI _ (by omega) (by omega)]; omega
   simp only [uN,Tr.val,e0,c1,c2,c4,q1,eF,bw,if_true]
theorem TW (l:List (List (Sem zf))) (a m b:Nat) (k:Int) (hn:l.length≤1000) (ha:a < m) (hm:m < b) (hb:b≤l.length):∃ l',GQ l a m b k=some l'∧l'.Perm l:=by
 obtain ⟨l',h1,h2⟩:=TV l m k hn ((m - a)+(b - m)) (m - a) (b - m) l (aS _) (by omega) (by omega) (by omega) (by omega) (.refl l)
 refine ⟨l',?_,h1⟩
 have:TU l a m b k=some (.tup [],[.vec zf.sl l']):=by
  unfold TU cx Ew
  rw [show IntKind.i64.wrap ((m:Int) - (a:Int))=((m - a:Nat):Int) by rw [wI _ (by omega) (by omega)]; omega,show IntKind.i64.wrap ((b:Int) - (m:Int))=((b - m:Nat):Int) by rw [wI _ (by omega) (by omega)]; omega]
  exact h2 100000000 (by omega)
 unfold GQ
 rw [this]
 rfl

theorem qY (i j:Nat) (h:i+j≤4000000):IntKind.i64.wrap (IntKind.u64.wrap (IntKind.i64.wrap ((i:Int)+(j:Int))) / 2)=(((i+j) / 2:Nat):Int):=by
 rw [wI ((i:Int)+(j:Int)) (by omega) (by omega),wU _ (by omega) (by omega),wI _ (by omega) (by omega)]
 omega

section
variable (o:SM) (k:Int)

theorem zaL (l:List (List (Sem zf))) (a m b:Nat) (hn:l.length≤1000) (ha:a < m) (hb:b≤l.length):∀ (s i j:Nat),j - i≤s→m≤i→i≤j→j≤b→(i=m∨¬ l.Pairwise (yX k))→
  ∃ i',m≤i'∧i'≤b∧(i'=m∨¬ l.Pairwise (yX k))∧aM (c5 o) (s+1) (.h3 (a:Int) k (i:Int) (j:Int) l) (.h9 (i':Int) (a:Int) l):=by
 intro s
 induction s with
 | zero=>
  intro i j h1 h2 h3 h4 h5
  refine ⟨i,h2,by omega,h5,aM.of ?_⟩
  simp only [c5,Tr.val,gI (show ¬ i < j by omega),zR,if_false]
 | succ s IH=>
  intro i j h1 h2 h3 h4 h5
  by_cases hij:i < j
  case neg=>
   refine ⟨i,h2,by omega,h5,(aM.of ?_).mono (by omega)⟩
   simp only [c5,Tr.val,gI hij,zR,if_false]
  have e0:=qY i j (by omega)
  have hh:i≤(i+j) / 2∧(i+j) / 2 < j:=by omega
  generalize (i+j) / 2=h at e0 hh
  have e1:zJ ((h:Nat):Int) l.length=true:=zF (by omega)
  have e2:decide (h < l.length)=true:=by simp; omega
  have e3:zJ ((a:Nat):Int) l.length=true:=zF (by omega)
  have e4:decide (a < l.length)=true:=by simp; omega
  by_cases hc:yX k (l.getD h (zj zf.sl)) (l.getD a (zj zf.sl))
  ·obtain ⟨i',q1,q2,q3,q4⟩:=IH (h+1) j (by omega) (by omega) (by omega) h4 (.inr (qZ (i:=a) (j:=h) (by omega) (by omega) _ hc))
   refine ⟨i',q1,q2,q3,((aM.of ?_).trans q4).mono (by omega)⟩
   have e7:decide (LT.lt (α:=Int) (aP (iX k (l.getD h (zj zf.sl))) (iX k (l.getD a (zj zf.sl)))) 0)=true:=bx hc
   simp only [c5,Tr.val,e0,bP]
   rw [iF,lv]
   simp only [zV hij,e1,e2,e3,e4,e7,if_true,zG h (by unfold zD; omega)]
  ·obtain ⟨i',q1,q2,q3,q4⟩:=IH i h (by omega) h2 (by omega) (by omega) h5
   refine ⟨i',q1,q2,q3,((aM.of ?_).trans q4).mono (by omega)⟩
   have e7:decide (LT.lt (α:=Int) (aP (iX k (l.getD h (zj zf.sl))) (iX k (l.getD a (zj zf.sl)))) 0)=false:=eO hc
   simp only [c5,Tr.val,e0,bP]
   rw [iF,lv]
   simp only [zV hij,e1,e2,e3,e4,e7,if_true,zR,if_false]

theorem zaM (l0:List (List (Sem zf))) (i:Nat) (hn:l0.length≤1000) (hi:i≤l0.length):∀ (s c:Nat) (l:List (List (Sem zf))),i - c≤s→l.Perm l0→
  ∃ l',l'.Perm l0∧((i≤c+1)→l'=l)∧bv (c5 o) (s+1) (.h9 (i:Int) (c:Int) l) (.tup [],[.vec zf.sl l']):=by
 intro s
 induction s with
 | zero=>
  intro c l h1 hp
  refine ⟨l,hp,fun _=>rfl,bv.of ?_⟩
  have e0:decide ((c:Int) < IntKind.i64.wrap ((i:Int) - 1))=false:=by
   by_cases h0:i=0
   ·subst h0
    rw [wI _ (by omega) (by omega)]
    simp only [decide_eq_false_iff_not]; omega
   ·rw [wI _ (by omega) (by omega)]
    simp only [decide_eq_false_iff_not]; omega
  simp only [c5,Tr.val,e0,zR,if_false]
 | succ s IH=>
  intro c l h1 hp
  have hlen:=hp.length_eq
  by_cases hc:c+1 < i
  case neg=>
   refine ⟨l,hp,fun _=>rfl,(bv.of ?_).mono (by omega)⟩
   have e0:decide ((c:Int) < IntKind.i64.wrap ((i:Int) - 1))=false:=by
    rw [wI _ (by omega) (by omega)]
    simp only [decide_eq_false_iff_not]; omega
   simp only [c5,Tr.val,e0,zR,if_false]
  have e0:decide ((c:Int) < IntKind.i64.wrap ((i:Int) - 1))=true:=by
   rw [wI _ (by omega) (by omega)]
   simp only [ah]; omega
  have e1:zJ ((c+1:Nat):Int) l.length=true:=zF (by omega)
  have e2:zJ ((c:Nat):Int) l.length=true:=zF (by omega)
  have e3:decide (c+1 < l.length)=true:=by simp; omega
  have e4:decide (c < l.length)=true:=by simp; omega
  obtain ⟨l',q1,_,q3⟩:=IH (c+1) ((l.set c (l.getD (c+1) (zj zf.sl))).set (c+1) (l.getD c (zj zf.sl))) (by omega) ((mr (i:=c+1) (j:=c) (by omega) (by omega) _).trans hp)
  refine ⟨l',q1,fun h=>by omega,((aM.of ?_).ends q3).mono (by omega)⟩
  simp only [c5,Tr.val,e0,zG c (by unfold zD; omega),e1,e2,e3,e4,bP,ko,if_true]

theorem TZ (l:List (List (Sem zf))) (a m:Nat) (hn:l.length≤1000) (hm:m < l.length):∀ (s i j:Nat),j - i≤s→a≤i→i≤j→j≤m→(j=m∨¬ l.Pairwise (yX k))→
  ∃ i',a≤i'∧i'≤m∧(i'=m∨¬ l.Pairwise (yX k))∧aM (c5 o) (s+1) (.h15 (m:Int) k (i:Int) (j:Int) l) (.h21 (i':Int) (m:Int) l):=by
 intro s
 induction s with
 | zero=>
  intro i j h1 h2 h3 h4 h5
  refine ⟨i,h2,by omega,h5.imp (fun h=>by omega) id,aM.of ?_⟩
  simp only [c5,Tr.val,gI (show ¬ i < j by omega),zR,if_false]
 | succ s IH=>
  intro i j h1 h2 h3 h4 h5
  by_cases hij:i < j
  case neg=>
   refine ⟨i,h2,by omega,h5.imp (fun h=>by omega) id,(aM.of ?_).mono (by omega)⟩
   simp only [c5,Tr.val,gI hij,zR,if_false]
  have e0:=qY i j (by omega)
  have hh:i≤(i+j) / 2∧(i+j) / 2 < j:=by omega
  generalize (i+j) / 2=h at e0 hh
  have e1:zJ ((h:Nat):Int) l.length=true:=zF (by omega)
  have e2:decide (h < l.length)=true:=by simp; omega
  have e3:zJ ((m:Nat):Int) l.length=true:=zF (by omega)
  have e4:decide (m < l.length)=true:=by simp; omega
  by_cases hc:yX k (l.getD m (zj zf.sl)) (l.getD h (zj zf.sl))
  ·obtain ⟨i',q1,q2,q3,q4⟩:=IH i h (by omega) h2 (by omega) (by omega) (.inr (qZ (i:=h) (j:=m) (by omega) (by omega) _ hc))
   refine ⟨i',q1,q2,q3,((aM.of ?_).trans q4).mono (by omega)⟩
   have e7:decide (LT.lt (α:=Int) (aP (iX k (l.getD m (zj zf.sl))) (iX k (l.getD h (zj zf.sl)))) 0)=true:=bx hc
   simp only [c5,Tr.val,e0,bP]
   rw [iF,lv]
   simp only [zV hij,e1,e2,e3,e4,e7,if_true,kV,zR,if_false]
  ·obtain ⟨i',q1,q2,q3,q4⟩:=IH (h+1) j (by omega) (by omega) (by omega) h4 h5
   refine ⟨i',q1,q2,q3,((aM.of ?_).trans q4).mono (by omega)⟩
   have e7:decide (LT.lt (α:=Int) (aP (iX k (l.getD m (zj zf.sl))) (iX k (l.getD h (zj zf.sl)))) 0)=false:=eO hc
   simp only [c5,Tr.val,e0,bP]
   rw [iF,lv]
   simp only [zV hij,e1,e2,e3,e4,e7,if_true,Bool.not_false,zG h (by unfold zD; omega)]

theorem T2 (l0:List (List (Sem zf))) (i:Nat) (hn:l0.length≤1000):∀ (s c:Nat) (l:List (List (Sem zf))),c - i≤s→c < l0.length→l.Perm l0→
  ∃ l',l'.Perm l0∧(c≤i→l'=l)∧bv (c5 o) (s+1) (.h21 (i:Int) (c:Int) l) (.tup [],[.vec zf.sl l']):=by
 intro s
 induction s with
 | zero=>
  intro c l h1 hcl hp
  refine ⟨l,hp,fun _=>rfl,bv.of ?_⟩
  have e0:decide ((c:Int) > (i:Int))=false:=by simp; omega
  simp only [c5,Tr.val,e0,zR,if_false]
 | succ s IH=>
  intro c l h1 hcl hp
  have hlen:=hp.length_eq
  by_cases hc:i < c
  case neg=>
   refine ⟨l,hp,fun _=>rfl,(bv.of ?_).mono (by omega)⟩
   have e0:decide ((c:Int) > (i:Int))=false:=by simp; omega
   simp only [c5,Tr.val,e0,zR,if_false]
  obtain ⟨c,rfl⟩:∃ c',c=c'+1:=⟨c - 1,by omega⟩
  have e0:decide (((c+1:Nat):Int) > (i:Int))=true:=CY hc
  have e1:zJ ((c+1:Nat):Int) l.length=true:=zF (by omega)
  have e2:zJ ((c:Nat):Int) l.length=true:=zF (by omega)
  have e3:decide (c+1 < l.length)=true:=by simp; omega
  have e4:decide (c < l.length)=true:=by simp; omega
  have e5:IntKind.i64.wrap (((c+1:Nat):Int) - 1)=(c:Int):=oS c (by unfold zD; omega)
  obtain ⟨l',q1,_,q3⟩:=IH c ((l.set (c+1) (l.getD c (zj zf.sl))).set c (l.getD (c+1) (zj zf.sl))) (by omega) (by omega) ((mr (i:=c) (j:=c+1) (by omega) (by omega) _).trans hp)
  refine ⟨l',q1,fun h=>by omega,((aM.of ?_).ends q3).mono (by omega)⟩
  simp only [c5,Tr.val,e0,e5,e1,e2,e3,e4,bP,ko,if_true]
end

section
variable (o:SM) (k:Int)

theorem KD (l:List (List (Sem zf))) (a m b mid n p lo r0:Nat) (hn:l.length≤1000) (hr0:r0≤1000) (hp:p≤2000) (hB:∀ c,lo≤c→c < r0→c+c < p∧p < l.length+c):∀ (s i j:Nat),j - i≤s→lo≤i→i≤j→j≤r0→(j=r0∨¬ l.Pairwise (yX k))→
  ∃ i',lo≤i'∧i'≤r0∧(i'=r0∨¬ l.Pairwise (yX k))∧aM (c5 o) s (.h33 (a:Int) (m:Int) (b:Int) k (mid:Int) (n:Int) (i:Int) (j:Int) (p:Int) l) (.h33 (a:Int) (m:Int) (b:Int) k (mid:Int) (n:Int) (i':Int) (i':Int) (p:Int) l):=by
 intro s
 induction s with
 | zero=>
  intro i j h1 h2 h3 h4 h5
  obtain rfl:i=j:=by omega
  exact ⟨i,h2,h4,h5,aM.refl _⟩
 | succ s IH=>
  intro i j h1 h2 h3 h4 h5
  by_cases hij:i < j
  case neg=>
   obtain rfl:i=j:=by omega
   exact ⟨i,h2,h4,h5,(aM.refl _).mono (by omega)⟩
  have e0:=qY i j (by omega)
  have hh:i≤(i+j) / 2∧(i+j) / 2 < j:=by omega
  generalize (i+j) / 2=h at e0 hh
  obtain ⟨b1,b2⟩:=hB h (by omega) (by omega)
  have e5:IntKind.i64.wrap ((p:Int) - (h:Int))=((p - h:Nat):Int):=by rw [wI _ (by omega) (by omega)]; omega
  have e1:zJ ((h:Nat):Int) l.length=true:=zF (by omega)
  have e2:decide (h < l.length)=true:=by simp; omega
  have e3:zJ ((p - h:Nat):Int) l.length=true:=zF (by omega)
  have e4:decide (p - h < l.length)=true:=by simp; omega
  by_cases hc:yX k (l.getD (p - h) (zj zf.sl)) (l.getD h (zj zf.sl))
  ·obtain ⟨i',q1,q2,q3,q4⟩:=IH i h (by omega) h2 (by omega) (by omega) (.inr (qZ (i:=h) (j:=p - h) (by omega) (by omega) _ hc))
   refine ⟨i',q1,q2,q3,((aM.of ?_).trans q4).mono (by omega)⟩
   have e7:decide (LT.lt (α:=Int) (aP (iX k (l.getD (p - h) (zj zf.sl))) (iX k (l.getD h (zj zf.sl)))) 0)=true:=bx hc
   simp only [c5,Tr.val,e0,e5,bP]
   rw [iF,lv]
   simp only [zV hij,e1,e2,e3,e4,e7,if_true,kV,zR,if_false]
  ·obtain ⟨i',q1,q2,q3,q4⟩:=IH (h+1) j (by omega) (by omega) (by omega) h4 h5
   refine ⟨i',q1,q2,q3,((aM.of ?_).trans q4).mono (by omega)⟩
   have e7:decide (LT.lt (α:=Int) (aP (iX k (l.getD (p - h) (zj zf.sl))) (iX k (l.getD h (zj zf.sl)))) 0)=false:=eO hc
   simp only [c5,Tr.val,e0,e5,bP]
   rw [iF,lv]
   simp only [zV hij,e1,e2,e3,e4,e7,if_true,Bool.not_false,zG h (by unfold zD; omega)]

theorem Mi {a b c d:Nat}:(bif decide ((a:Int) < (b:Int)) then decide ((c:Int) < (d:Int)) else false)=decide (a < b∧c < d):=by
 by_cases h:a < b
 ·have:decide ((a:Int) < (b:Int))=true:=by simpa using h
  rw [this]
  simp [h]
 ·have:decide ((a:Int) < (b:Int))=false:=by simpa using h
  rw [this]
  simp [h]

theorem KC {D:Nat} (hO:∀ (l:List (List (Sem zf))) (a m b:Nat),l.length≤1000→a < m→m < b→b≤l.length→b - a≤D→∃ l',o l a m b k=some l'∧Kp k l l') (l:List (List (Sem zf))) (a m b mid n st en:Nat) (p:Int) (hn:l.length≤1000) (hb:b≤l.length) (he:n=st+en) (_:n≤2000)
  (_:a≤st) (h2:en≤b) (h3:mid - a≤D) (h4:b - mid≤D) (hmb:mid≤b) (hr:st < m→m < en→¬ l.Pairwise (yX k)):
  ∃ l',Kp k l l'∧(c5 o (.h33 (a:Int) (m:Int) (b:Int) k (mid:Int) (n:Int) (st:Int) (st:Int) p l)).val=some (.inr (.tup [],[.vec zf.sl l'])):=by
 have e0:IntKind.i64.wrap ((n:Int) - (st:Int))=(en:Int):=by rw [wI _ (by omega) (by omega)]; omega
 have e1:decide ((st:Int) < (st:Int))=false:=by simp
 obtain ⟨l1,p1,p2⟩:∃ l1,Kp k l l1∧(if st < m∧m < en then GQ l st m en k=some l1 else l1=l):=by
  by_cases h:st < m∧m < en
  ·obtain ⟨l1,q1,q2⟩:=TW l st m en k hn h.1 h.2 (by omega)
   exact ⟨l1,Kp.perm q2 (hr h.1 h.2),by rw [if_pos h]; exact q1⟩
  ·exact ⟨l,Kp.refl,by rw [if_neg h]⟩
 obtain ⟨l2,p3,p4⟩:∃ l2,Kp k l1 l2∧(if a < st∧st < mid then o l1 a st mid k=some l2 else l2=l1):=by
  by_cases h:a < st∧st < mid
  ·obtain ⟨l2,q1,q2⟩:=hO l1 a st mid (by rw [p1.len]; exact hn) h.1 h.2 (by rw [p1.len]; omega) h3
   exact ⟨l2,q2,by rw [if_pos h]; exact q1⟩
  ·exact ⟨l1,Kp.refl,by rw [if_neg h]⟩
 obtain ⟨l3,p5,p6⟩:∃ l3,Kp k l2 l3∧(if mid < en∧en < b then o l2 mid en b k=some l3 else l3=l2):=by
  by_cases h:mid < en∧en < b
  ·obtain ⟨l3,q1,q2⟩:=hO l2 mid en b (by rw [p3.len,p1.len]; exact hn) h.1 h.2 (by rw [p3.len,p1.len]; omega) h4
   exact ⟨l3,q2,by rw [if_pos h]; exact q1⟩
  ·exact ⟨l2,Kp.refl,by rw [if_neg h]⟩
 refine ⟨l3,(p1.trans p3).trans p5,?_⟩
 simp only [c5,Tr.val,e0,e1,Mi,zR,if_false]
 by_cases c1:st < m∧m < en
 ·rw [if_pos c1] at p2
  by_cases c2:a < st∧st < mid
  ·rw [if_pos c2] at p4
   by_cases c3:mid < en∧en < b
   ·rw [if_pos c3] at p6
    simp only [bx c1,bx c2,bx c3,p2,p4,p6,eF,bw,if_true]
   ·rw [if_neg c3] at p6
    subst p6
    simp only [bx c1,bx c2,eO c3,p2,p4,eF,bw,if_true,zR,if_false]
  ·rw [if_neg c2] at p4
   subst p4
   by_cases c3:mid < en∧en < b
   ·rw [if_pos c3] at p6
    simp only [bx c1,eO c2,bx c3,p2,p6,eF,bw,if_true,zR,if_false]
   ·rw [if_neg c3] at p6
    subst p6
    simp only [bx c1,eO c2,eO c3,p2,eF,bw,if_true,zR,if_false]
 ·rw [if_neg c1] at p2
  subst p2
  by_cases c2:a < st∧st < mid
  ·rw [if_pos c2] at p4
   by_cases c3:mid < en∧en < b
   ·rw [if_pos c3] at p6
    simp only [eO c1,bx c2,bx c3,p4,p6,eF,bw,if_true,zR,if_false]
   ·rw [if_neg c3] at p6
    subst p6
    simp only [eO c1,bx c2,eO c3,p4,eF,bw,if_true,zR,if_false]
  ·rw [if_neg c2] at p4
   subst p4
   by_cases c3:mid < en∧en < b
   ·rw [if_pos c3] at p6
    simp only [eO c1,eO c2,bx c3,p6,eF,bw,if_true,zR,if_false]
   ·rw [if_neg c3] at p6
    subst p6
    simp only [eO c1,eO c2,eO c3,zR,if_false]
end

theorem y3 {o:SM} {l l':List (List (Sem zf))} {a m b k:Int} (h:cx (c5 o) 100000000 (qm o l a m b k)=some (.tup [],[.vec zf.sl l'])):smS o l a m b k=some l':=by
 unfold smS
 rw [h]
 rfl

theorem KE (k:Int):∀ (N:Nat) (l:List (List (Sem zf))) (a m b:Nat),l.length≤1000→a < m→m < b→b≤l.length→b - a≤2 ^ N→∃ l',uK N l a m b k=some l'∧Kp k l l'
 | 0,_,a,m,b,_,h1,h2,_,h4=>by simp at h4; omega
 | N+1,l,a,m,b,hn,h1,h2,h3,h4=>by
  have hO:=KE k N
  have e0:IntKind.i64.wrap ((m:Int) - (a:Int))=((m - a:Nat):Int):=by rw [wI _ (by omega) (by omega)]; omega
  have e1:IntKind.i64.wrap ((b:Int) - (m:Int))=((b - m:Nat):Int):=by rw [wI _ (by omega) (by omega)]; omega
  by_cases c1:m - a=1
  ·obtain ⟨i',q1,q2,q3,q4⟩:=zaL (uK N) k l a m b hn h1 h3 (b - m) m b (aS _) (aS _) (by omega) (aS _) (.inl rfl)
   obtain ⟨l',r1,r2,r3⟩:=zaM (uK N) l i' hn (by omega) (i' - a) a l (aS _) (.refl l)
   refine ⟨l',y3 ?_,?_⟩
   ·have c1':(((m - a:Nat):Int)==1)=true:=by rw [c1]; rfl
    unfold cx
    simp only [qm,Tr.val,e0,c1',if_true]
    exact (q4.ends r3) 100000000 (by omega)
   ·rcases q3 with rfl | q3
    ·rw [r2 (by omega)]; exact Kp.refl
    ·exact Kp.perm r1 q3
  have c1':(((m - a:Nat):Int)==1)=false:=by simp; omega
  by_cases c2:b - m=1
  ·obtain ⟨i',q1,q2,q3,q4⟩:=TZ (uK N) k l a m hn (by omega) (m - a) a m (aS _) (aS _) (by omega) (aS _) (.inl rfl)
   obtain ⟨l',r1,r2,r3⟩:=T2 (uK N) l i' hn (m - i') m l (aS _) (by omega) (.refl l)
   refine ⟨l',y3 ?_,?_⟩
   ·have c2':(((b - m:Nat):Int)==1)=true:=by rw [c2]; rfl
    unfold cx
    simp only [qm,Tr.val,e0,e1,c1',c2',if_true,zR,if_false]
    exact (q4.ends r3) 100000000 (by omega)
   ·rcases q3 with rfl | q3
    ·rw [r2 (aS _)]; exact Kp.refl
    ·exact Kp.perm r1 q3
  have c2':(((b - m:Nat):Int)==1)=false:=by simp; omega
  have e2:=qY a b (by omega)
  have hmid:a≤(a+b) / 2∧(a+b) / 2≤b∧2 * ((a+b) / 2)≤a+b∧a+b≤2 * ((a+b) / 2)+1:=by omega
  generalize (a+b) / 2=mid at e2 hmid
  obtain ⟨g1,g2,g3,g4⟩:=hmid
  have hD:mid - a≤2 ^ N∧b - mid≤2 ^ N:=by rw [Nat.pow_succ] at h4; omega
  have e3:IntKind.i64.wrap ((mid:Int)+(m:Int))=((mid+m:Nat):Int):=by rw [wI _ (by omega) (by omega)]; omega
  have e4:IntKind.i64.wrap (((mid+m:Nat):Int) - 1)=((mid+m - 1:Nat):Int):=by rw [wI _ (by omega) (by omega)]; omega
  by_cases c3:mid < m
  ·
   have e5:IntKind.i64.wrap (((mid+m:Nat):Int) - (b:Int))=((mid+m - b:Nat):Int):=by rw [wI _ (by omega) (by omega)]; omega
   have c3':decide ((m:Int) > (mid:Int))=true:=CY c3
   obtain ⟨st,q1,q2,q3,q4⟩:=KD (uK N) k l a m b mid (mid+m) (mid+m - 1) (mid+m - b) mid hn (by omega) (by omega) (fun c u1 u2=>by omega) (mid - (mid+m - b)) (mid+m - b) mid (aS _) (aS _) (by omega) (aS _) (.inl rfl)
   obtain ⟨l',r1,r2⟩:=KC (uK N) k hO l a m b mid (mid+m) st (mid+m - st) ((mid+m - 1:Nat):Int) hn h3 (by omega) (by omega) (by omega) (by omega) hD.1 hD.2 g2 (fun u1 u2=>by
    rcases q3 with rfl | q3
    ·omega
    ·exact q3)
   refine ⟨l',y3 ?_,r1⟩
   unfold cx
   simp only [qm,Tr.val,e0,e1,e2,e3,e4,e5,c1',c2',c3',if_true,zR,if_false]
   exact (q4.ends (bv.of r2)) 100000000 (by omega)
  ·have c3':decide ((m:Int) > (mid:Int))=false:=by simp; omega
   obtain ⟨st,q1,q2,q3,q4⟩:=KD (uK N) k l a m b mid (mid+m) (mid+m - 1) a m hn (by omega) (by omega) (fun c u1 u2=>by omega) (m - a) a m (aS _) (aS _) (by omega) (aS _) (.inl rfl)
   obtain ⟨l',r1,r2⟩:=KC (uK N) k hO l a m b mid (mid+m) st (mid+m - st) ((mid+m - 1:Nat):Int) hn h3 (by omega) (by omega) (by omega) (by omega) hD.1 hD.2 g2 (fun u1 u2=>by
    rcases q3 with rfl | q3
    ·omega
    ·exact q3)
   refine ⟨l',y3 ?_,r1⟩
   unfold cx
   simp only [qm,Tr.val,e0,e1,e2,e3,e4,c1',c2',c3',if_true,zR,if_false]
   exact (q4.ends (bv.of r2)) 100000000 (by omega)

theorem zdw (k:Int) (l0:List (List (Sem zf))) (bs:Nat) (hn:l0.length≤1000) (hb:1≤bs) (hb2:bs≤1000):∀ (s a:Nat) (l:List (List (Sem zf))),l0.length - a≤s→a≤l0.length→Kp k l0 l→
  ∃ l',Kp k l0 l'∧aM gz (s+1) (.h9 (l0.length:Int) k (bs:Int) (a:Int) ((a+2 * bs:Nat):Int) l) (.h7 (l0.length:Int) k ((2 * bs:Nat):Int) l'):=by
 intro s
 induction s with
 | zero=>
  intro a l hs ha hk
  refine ⟨l,hk,aM.of ?_⟩
  have e0:IntKind.i64.wrap ((a:Int)+(bs:Int))=((a+bs:Nat):Int):=by rw [wI _ (by omega) (by omega)]; omega
  have e1:IntKind.i64.wrap ((bs:Int) * 2)=((2 * bs:Nat):Int):=by rw [wI _ (by omega) (by omega)]; omega
  have e2:decide (((a+2 * bs:Nat):Int)≤(l0.length:Int))=false:=by simp; omega
  simp only [gz,Tr.val,e0,e1,e2,gI (show ¬ a+bs < l0.length by omega),zR,if_false]
 | succ s IH=>
  intro a l hs ha hk
  have hlen:=hk.len
  have e0:IntKind.i64.wrap ((a:Int)+(bs:Int))=((a+bs:Nat):Int):=by rw [wI _ (by omega) (by omega)]; omega
  have e1:IntKind.i64.wrap ((bs:Int) * 2)=((2 * bs:Nat):Int):=by rw [wI _ (by omega) (by omega)]; omega
  have e3:IntKind.i64.wrap (((a+2 * bs:Nat):Int)+IntKind.i64.wrap (2 * (bs:Int)))=((a+2 * bs+2 * bs:Nat):Int):=by rw [wI (2 * (bs:Int)) (by omega) (by omega),wI _ (by omega) (by omega)]; omega
  by_cases c1:a+2 * bs≤l0.length
  ·obtain ⟨l1,q1,q2⟩:=KE k 16 l a (a+bs) (a+2 * bs) (by omega) (by omega) (by omega) (by omega) (by simp; omega)
   obtain ⟨l',q3,q4⟩:=IH (a+2 * bs) l1 (by omega) c1 (hk.trans q2)
   refine ⟨l',q3,((aM.of ?_).trans q4).mono (by omega)⟩
   have e2:decide (((a+2 * bs:Nat):Int)≤(l0.length:Int))=true:=by simp; omega
   simp only [gz,Tr.val,e0,e2,e3,q1,eF,bw,if_true]
  ·have e2:decide (((a+2 * bs:Nat):Int)≤(l0.length:Int))=false:=by simp; omega
   by_cases c2:a+bs < l0.length
   ·obtain ⟨l1,q1,q2⟩:=KE k 16 l a (a+bs) l0.length (by omega) (by omega) c2 (by omega) (by simp; omega)
    refine ⟨l1,hk.trans q2,(aM.of ?_).mono (by omega)⟩
    simp only [gz,Tr.val,e0,e1,e2,zV c2,q1,eF,bw,if_true,zR,if_false]
   ·refine ⟨l,hk,(aM.of ?_).mono (by omega)⟩
    simp only [gz,Tr.val,e0,e1,e2,gI c2,zR,if_false]

theorem zdv (k:Int) (l0:List (List (Sem zf))) (hn:l0.length≤1000):∀ (s bs:Nat) (l:List (List (Sem zf))),l0.length - bs≤s→1≤bs→Kp k l0 l→
  ∃ l',Kp k l0 l'∧bv gz (s * 1002+1) (.h7 (l0.length:Int) k (bs:Int) l) (.tup [],[.vec zf.sl l']):=by
 intro s
 induction s with
 | zero=>
  intro bs l hs hb hk
  refine ⟨l,hk,(bv.of ?_).mono (by omega)⟩
  simp only [gz,Tr.val,gI (show ¬ bs < l0.length by omega),zR,if_false]
 | succ s IH=>
  intro bs l hs hb hk
  by_cases c:bs < l0.length
  case neg=>
   refine ⟨l,hk,(bv.of ?_).mono (by omega)⟩
   simp only [gz,Tr.val,gI c,zR,if_false]
  obtain ⟨l1,q1,q2⟩:=zdw k l0 bs hn hb (by omega) l0.length 0 l (by omega) (by omega) hk
  obtain ⟨l',q3,q4⟩:=IH (2 * bs) l1 (by omega) (by omega) q1
  refine ⟨l',q3,(((aM.of ?_).trans q2).ends q4).mono (by omega)⟩
  have e1:IntKind.i64.wrap (2 * (bs:Int))=((0+2 * bs:Nat):Int):=by rw [wI _ (by omega) (by omega)]; omega
  simp only [gz,Tr.val,zV c,e1,if_true]
  rfl

theorem zdu (k:Int) (l0:List (List (Sem zf))) (hn:l0.length≤1000):∀ (s a:Nat) (l:List (List (Sem zf))),l0.length - a≤s→a≤l0.length→Kp k l0 l→
  ∃ l',Kp k l0 l'∧aM gz (s+1) (.h2 (l0.length:Int) k 20 (a:Int) ((a+20:Nat):Int) l) (.h7 (l0.length:Int) k 20 l'):=by
 intro s
 induction s with
 | zero=>
  intro a l hs ha hk
  have hlen:=hk.len
  obtain ⟨l1,q1,q2⟩:=tI l a l0.length k (by omega) (by omega) (by omega)
  refine ⟨l1,hk.trans q2,aM.of ?_⟩
  have e2:decide (((a+20:Nat):Int)≤(l0.length:Int))=false:=by simp; omega
  simp only [gz,Tr.val,e2,q1,eF,bw,if_true,zR,if_false]
 | succ s IH=>
  intro a l hs ha hk
  have hlen:=hk.len
  by_cases c:a+20≤l0.length
  ·obtain ⟨l1,q1,q2⟩:=tI l a (a+20) k (by omega) (by omega) (by omega)
   obtain ⟨l',q3,q4⟩:=IH (a+20) l1 (by omega) c (hk.trans q2)
   refine ⟨l',q3,((aM.of ?_).trans q4).mono (by omega)⟩
   have e2:decide (((a+20:Nat):Int)≤(l0.length:Int))=true:=by simp; omega
   have e3:IntKind.i64.wrap (((a+20:Nat):Int)+20)=((a+20+20:Nat):Int):=by rw [wI _ (by omega) (by omega)]; omega
   simp only [gz,Tr.val,e2,e3,q1,eF,bw,if_true]
  ·obtain ⟨l1,q1,q2⟩:=tI l a l0.length k (by omega) (by omega) (by omega)
   refine ⟨l1,hk.trans q2,(aM.of ?_).mono (by omega)⟩
   have e2:decide (((a+20:Nat):Int)≤(l0.length:Int))=false:=by simp; omega
   simp only [gz,Tr.val,e2,q1,eF,bw,if_true,zR,if_false]

theorem Nj (k:Int) (l:List (List (Sem zf))) (hn:l.length≤1000):∃ l',B5 l (l.length:Int) k=some l'∧Kp k l l':=by
 obtain ⟨l1,q1,q2⟩:=zdu k l hn l.length 0 l (by omega) (by omega) Kp.refl
 obtain ⟨l',q3,q4⟩:=zdv k l hn l.length 20 l1 (by omega) (by omega) q1
 refine ⟨l',?_,q3⟩
 have:PM l (l.length:Int) k=some (.tup [],[.vec zf.sl l']):=by
  have h9:=dU 1002 hn
  exact (q2.ends q4) 100000000 (by
   refine dC (Nat.add_le_add (Nat.succ_le_succ h9) (Nat.succ_le_succ hn)) (by decide))
 unfold B5
 rw [this]
 rfl
theorem B4 (k:Int) (l:List (List (Sem zf))) (hn:l.length≤1000):∃ l',pO l k=some l'∧Kp k l l':=by
 obtain ⟨l',q1,q2⟩:=Nj k l hn
 refine ⟨l',?_,q2⟩
 have:DH l k=some (.tup [],[.vec zf.sl l']):=by
  unfold DH cx
  simp only [Eu,Tr.val,q1,eF,bw,if_true]
 unfold pO
 rw [this]
 rfl

theorem Kk {x:Sem zh} (hc:Cr x=true) (hn:x.2.length≤1000):∃ l',yO x=some ((x.1,l'),())∧l'.Perm x.2∧(kf x.1=true→Kp x.1.2.2.1 x.2 l'):=by
 have fin:∀ l':List (List (Sem zf)),zY [AO.vec zi x.1.2.1,AO.vec zg x.1.2.2.2.1,AO.vec zo x.1.2.2.2.2.1,AO.vec zf.sl l'] [zh] (AV.agg [AV.str x.1.1,AV.vec 0,AV.int .i64 x.1.2.2.1,AV.vec 1,AV.vec 2,AV.str (ze.op x.1.2.2.2.2.2),AV.int .i64 (ze.v x.1.2.2.2.2.2).1,AV.int .i64 (ze.v x.1.2.2.2.2.2).2.1,AV.str (ze.v x.1.2.2.2.2.2).2.2,AV.str (ze.s x.1.2.2.2.2.2),AV.sl Sh.expr (ze.l x.1.2.2.2.2.2),AV.vec 3])=some (((x.1,l'):Sem zh),()):=by
  intro l'
  obtain ⟨⟨a,b,c,d,e,f⟩,r⟩:=x
  cases f
  rfl
 cases hm:kf x.1 with
 | true=>
  obtain ⟨l',q1,q2⟩:=B4 x.1.2.2.1 x.2 hn
  refine ⟨l',f4 (r:=(_,_)) ?_ (fin l'),q2.1,fun _=>q2⟩
  simp only [Sz,Tr.val,zt,Prod.eta,hc,hm,q1,eF,bw,kV,zR,if_true,if_false]
 | false=>
  obtain ⟨l',q1,q2⟩:=B4 (-1) x.2 hn
  refine ⟨l',f4 (r:=(_,_)) ?_ (fin l'),q2.1,fun h=>(by cases h)⟩
  simp only [Sz,Tr.val,zt,Prod.eta,hc,hm,q1,eF,bw,Bool.not_false,if_true]

theorem nv {a0 a1 a2 a3 a4 a5 a6 a7 a8 a9 b0 b1 b2 b3 b4 b5 b6 d0 d1 d2 d3 d4 d5 d6 d7 d8 d9}:∀ (l:List (Sem zo)) (i:Int) (acc:List (Sem zo)),
  (fe a0 a1 a2 a3 a4 a5 a6 a7 a8 a9 b0 b1 b2 b3 b4 b5 b6 d0 d1 d2 d3 d4 d5 d6 d7 d8 d9 l i acc).2.2.2.2.2=ze.mk d3 (d4,d5,d6) d7 d8
 | [],_,_=>rfl
 | x::r,i,acc=>by
  rw [fe]
  split
  ·exact nv r (i+1) _
  ·rfl
theorem uO {a0 a1 a2 a3 a4 a5 a6 a7 a8 a9 b0 b1 b2 b3 b4 b5 b6 d0 d1 d2 d3 d4 d5 d6 d7 d8 d9}:∀ (l:List (Sem zg)) (i:Int) (acc:List (Sem zg)),
  (eD a0 a1 a2 a3 a4 a5 a6 a7 a8 a9 b0 b1 b2 b3 b4 b5 b6 d0 d1 d2 d3 d4 d5 d6 d7 d8 d9 l i acc).2.2.2.2.2=ze.mk d3 (d4,d5,d6) d7 d8
 | [],i,acc=>by
  rw [eD]
  exact nv _ _ _
 | x::r,i,acc=>by
  rw [eD]
  split
  ·exact uO r (i+1) _
  ·exact nv _ _ _
theorem Nq (t:Sem zE):kK 16 (jH t).2.2.2.2.2=true:=by
 have h:(jH t).2.2.2.2.2=da t.2.2.2.2.2:=by
  unfold jH
  rw [uO]
  exact ze.eta _
 rw [h]
 exact Ed _

structure ey (x:Sem zh):Prop where
 sh:dZ x
 cp:kK 16 x.1.2.2.2.2.2=true

theorem yp (x:Sem zh):ey (qr x):=by
 refine ⟨Bs x,?_⟩
 obtain ⟨rows,h1,h2⟩:=tM x
 have h3:qr x=(jH x.1,rows):=by unfold qr; rw [h2]; rfl
 rw [h3]
 exact Nq x.1

theorem Gv (db:List (Sem zh)):∃ db':List (Sem zh),tN db=some (db',())∧db'.length≤13∧∀ x∈db',ey x:=by
 have h:=ju (t:=t7p) (β:=List (Sem zh)) (min 13 db.length) (fun b i=>.h3 db (i:Int) b) (fun b i=>b.length=i∧∀ x∈b,ey x) (fun r=>∃ db':List (Sem zh),zY r.2 [zh.sl] r.1=some (db',())∧db'.length≤13∧∀ x∈db',ey x) 1 (by
   intro b i hi hb
   have h1:(i:Int) < (db.length:Int):=by omega
   have h2:(i:Int) < 13:=by omega
   have h3:zJ (i:Int) db.length=true:=zF (by omega)
   refine Or.inl ⟨b++[qr (db.getD (i:Int).toNat (zj zh))],⟨by simp [hb.1],?_⟩,?_⟩
   ·intro x hx
    rcases bl.1 hx with hx | hx
    ·exact hb.2 x hx
    ·rw [bF] at hx
     rw [hx]; exact yp _
   ·simp only [t7p,Tr.val,bx h1,bx h2,bG,if_true,h3,zt,Prod.eta,Br]
    rw [zG i (by unfold zD; omega),if_pos (by simp; omega)]) (by
   intro b n hb hn
   obtain ⟨n,rfl⟩:∃ k,n=k+1:=⟨n - 1,by omega⟩
   rw [jt]
   have hf:(bif decide (((min 13 db.length:Nat):Int) < (db.length:Int)) then decide (((min 13 db.length:Nat):Int) < 13) else false)=false:=by
    by_cases h:13≤db.length
    ·rw [Nat.min_eq_left h]
     simp
    ·rw [Nat.min_eq_right (by omega)]
     simp
   simp only [t7p,Tr.val,hf]
   exact ⟨_,rfl,b,rfl,by omega,hb.2⟩) (min 13 db.length) 0 [] 100000000 rfl (be _) ⟨rfl,by simp⟩ (by omega)
 obtain ⟨r,h1,db',h2,h3,h4⟩:=h
 refine ⟨db',?_,h3,h4⟩
 unfold tN ap cx
 simp only [i7p,Tr.val]
 have h1':dh t7p 100000000 (.h3 db 0 [])=some r:=h1
 rw [h1']
 exact h2
set_option maxHeartbeats 1000000

def Ins (n:zq) (r:List (Sem zf)) (db d:List (Sem zh)):Prop:=
 ∃ (i:Nat) (s:List (List (Sem zf))),ar db n=(i:Int)∧s.Perm ((db.getD i (zj zh)).2++[r])∧d=db.set i ((db.getD i (zj zh)).1,s)∧cP d
inductive mA (n:zq) (db:List (Sem zh)):List (List (Sem zf))→List (Sem zh)→Prop
 | nil:mA n db [] db
 | snoc {l:List (List (Sem zf))} {d:List (Sem zh)} {r:List (Sem zf)} {d':List (Sem zh)} (h:mA n db l d) (hi:Ins n r d d'):mA n db (l++[r]) d'

theorem Ky {α:Type} {l:List α} {i:Nat} {d:α}:l.set i (l.getD i d)=l:=by
 refine rU fun j=>?_
 rw [iy]
 by_cases e:i=j
 ·subst e
  rw [if_pos rfl]
  by_cases hi:i < l.length
  ·rw [if_pos hi,aB,zI hi]; rfl
  ·rw [if_neg hi,cz (by omega)]
 ·rw [if_neg e]
theorem Iq {α:Type} {l:List α} {i:Nat} {a d:α} (hi:i < l.length):(l.set i a).getD i d=a:=by
 rw [aB,nB hi]; rfl
theorem Et {db:List (Sem zh)} {n:zq} {i:Nat} (h:ar db n=(i:Int)):i < db.length:=by
 have:=ln (s:=n) (l:=db) (by rw [h]; exact Int.natCast_nonneg i)
 rw [h] at this
 simp only [zJ,aE,ah] at this
 omega

theorem mA.is {n:zq} {db d:List (Sem zh)} {l:List (List (Sem zf))} (h:mA n db l d) {i:Nat} (hi:ar db n=(i:Int)):
  ∃ s,d=db.set i ((db.getD i (zj zh)).1,s)∧s.Perm ((db.getD i (zj zh)).2++l):=by
 induction h with
 | nil=>exact ⟨(db.getD i (zj zh)).2,Ky.symm,by rw [pY]⟩
 | snoc h hx IH=>
  obtain ⟨s,rfl,hs⟩:=IH
  obtain ⟨j,s',hj,hp,rfl,_⟩:=hx
  have hf:ar (db.set i ((db.getD i (zj zh)).1,s)) n=(i:Int):=by rw [FM (x:=((db.getD i (zj zh)).1,s)) rfl,hi]
  obtain rfl:i=j:=Int.ofNat_inj.1 (hf.symm.trans hj)
  have hl:=Et hi
  have hg:(db.set i ((db.getD i (zj zh)).1,s)).getD i (zj zh)=((db.getD i (zj zh)).1,s):=Iq hl
  rw [hg] at hp ⊢
  refine ⟨s',by rw [List.set_set],?_⟩
  rw [← List.append_assoc]
  exact hp.trans (hs.append_right _)

theorem mA.order {n:zq} {db d d':List (Sem zh)} {l l':List (List (Sem zf))} (h:mA n db l d) (h':mA n db l' d') (hp:l.Perm l') (hd:cP d) (hd':cP d') (hf:(0:Int)≤ar db n):d=d':=by
 obtain ⟨i,hi⟩:∃ i:Nat,ar db n=(i:Int):=⟨toNat (ar db n),(Int.toNat_of_nonneg hf).symm⟩
 obtain ⟨s,rfl,hs⟩:=h.is hi
 obtain ⟨s',rfl,hs'⟩:=h'.is hi
 have hl:=Et hi
 have m:∀ y,cP (db.set i y)→dg y:=fun y hy=>hy.rels y (List.mem_iff_getElem?.2 ⟨i,nB hl⟩)
 rw [dg.eq_of_perm (m _ hd) (m _ hd') (hs.trans ((hp.append_left _).trans hs'.symm))]

theorem G0 {α:Type} {l:List α} {d:α} {t:Nat} (hl:l≠[]):(List.range l.length).map (fun i=>l.getD ((i+t) % l.length) d)=l.drop (t % l.length)++l.take (t % l.length):=by
 have hn:0 < l.length:=List.length_pos_iff.2 hl
 have hk:t % l.length < l.length:=Nat.mod_lt _ hn
 refine rU fun j=>?_
 by_cases hj:j < l.length
 ·rw [cL,rS hj,rZ]
  have e:(j+t) % l.length=(j+t % l.length) % l.length:=by rw [Nat.add_mod_mod]
  by_cases hc:j < l.length - t % l.length
  ·rw [iw (by rw [List.length_drop]; exact hc),kU,e,Nat.mod_eq_of_lt (by omega),aB,zI (by omega),pZ (t % l.length) j,zI (by omega)]
   rfl
  ·rw [jg (by rw [List.length_drop]; omega),List.length_drop,List.getElem?_take_of_lt (by omega),e,Nat.mod_eq_sub_mod (by omega),Nat.mod_eq_of_lt (by omega),show j+t % l.length - l.length=j - (l.length - t % l.length) by omega,aB,zI (by omega)]
   rfl
 ·rw [cz (by simp; omega),cz (by simp; omega)]
theorem G1 {α:Type} {l:List α} {d:α} {t:Nat} (hl:l≠[]):((List.range l.length).map fun i=>l.getD ((i+t) % l.length) d).Perm l:=by
 rw [G0 hl]
 refine List.perm_append_comm.trans ?_
 rw [List.take_append_drop]

theorem Dz {x:Sem zh} (h:dZ x):∃ e:Int,mf x=true∧pI x=e∧(e=0↔dg x):=by
 obtain ⟨e,h1,h2⟩:=qy h
 exact ⟨e,by unfold mf; rw [h1]; rfl,by unfold pI; rw [h1]; rfl,h2⟩

theorem Cu {db:List (Sem zh)} {s:Sem zx} {t:Sem zE} {rows:List (List (Sem zf))} {i:Nat} (n:Int) (hB:cP db) (hs:∀ y∈db,ey y) (h:ar db t.1=(i:Int)) (ht:(db.getD i (zj zh)).1=t) (hl:rows.length≤1000) (hr:∀ r∈rows,length r≤1000):
  ∃ (l:List (List (Sem zf))) (e:Int) (b:Bool),l.Perm rows∧Kp t.2.2.1 rows l∧(e=0↔dg (t,l))∧(e=0→(b=true↔vK (db.set i (t,l))))∧
   jl (db,s) (t,rows) n=some (if e=0 then (if b=true then db.set i (t,l) else []) else [],if e=0 then (if b=true then (0,n,[]) else mB 10) else mB e,()):=by
 have hf:(0:Int)≤ar db t.1:=by rw [h]; omega
 have hm:=tA hf
 rw [show toNat (ar db t.1)=i by rw [h]; rfl] at hm
 have hro:=hB.rels _ hm
 have hsc:=hs _ hm
 obtain ⟨_,_,_,h8,_⟩:=jx hro.may
 rw [ht] at h8
 have hmay:kf t=true:=by rw [← ht]; exact hro.may
 have hcp:Cr ((t,rows):Sem zh)=true:=by
  have u1:=hsc.sh.uq
  have u2:=hsc.sh.rf
  have u3:=hsc.cp
  rw [ht] at u1 u2 u3
  unfold Cr
  simp only [aE,ah,cA]
  exact ⟨⟨⟨⟨⟨dC h8 (by omega),dC u1 (by omega)⟩,dC u2 (by omega)⟩,u3⟩,dC hl (by omega)⟩,fun r hr'=>dC (hr r hr') (by omega)⟩
 obtain ⟨l,p1,p2,p3⟩:=Kk (x:=((t,rows):Sem zh)) hcp hl
 have hk:=p3 hmay
 have hll:l.length≤1000:=by rw [p2.length_eq]; exact hl
 have hshort:dZ ((t,l):Sem zh):=by
  have u1:=hsc.sh.uq
  have u2:=hsc.sh.rf
  rw [ht] at u1 u2
  exact ⟨u1,u2,hll⟩
 obtain ⟨e,c1,c2,c3⟩:=Dz hshort
 have s1:DA ((t,rows):Sem zh)=true:=by unfold DA; rw [p1]; rfl
 have s2:Kj ((t,rows):Sem zh)=(t,l):=by unfold Kj; rw [p1]; rfl
 have hd12:db.length≤12:=hB.few
 by_cases he:e=0
 case neg=>
  refine ⟨l,e,false,p2,hk,c3,fun h'=>absurd h' he,?_⟩
  have he':(e != 0)=true:=by simpa using he
  obtain ⟨f1,f2⟩:=HI e
  rw [if_neg he,if_neg he]
  unfold jl ap cx
  simp only [Sw,Tr.val,zt,Prod.eta,s1,s2,c1,c2,he',f1,f2,if_true]
  rfl
 have hok:=c3.1 he
 have hset:∀ y∈db.set i (t,l),dg y:=fun y hy=>by
  rcases pW hy with hy | rfl
  ·exact hB.rels y hy
  ·exact hok
 obtain ⟨b,b1,b2⟩:=p9 (db:=db.set i (t,l)) (fun y hy=>(hset y hy).cols) (GU (fun y hy=>(hs y hy).sh) hshort) (by rw [ko]; omega)
 have hw:o6 db ((t,l):Sem zh)=some (db.set i (t,l),()):=FR (y:=((t,l):Sem zh)) h (by omega)
 have hwc:o5 db ((t,l):Sem zh)=true:=by unfold o5; rw [hw]; rfl
 have hwv:we db ((t,l):Sem zh)=db.set i (t,l):=by unfold we; rw [hw]; rfl
 have hkk:=HJ n b1
 have hkc:o4 (db.set i (t,l)) n=true:=by unfold o4; rw [hkk]; rfl
 have hkv:wd (db.set i (t,l)) n=(if b=true then db.set i (t,l) else [],if b=true then (0,n,[]) else mB 10):=by unfold wd; rw [hkk]; rfl
 refine ⟨l,e,b,p2,hk,c3,fun _=>b2,?_⟩
 have he':(e != 0)=false:=by simpa using he
 rw [if_pos he,if_pos he]
 unfold jl ap cx
 simp only [Sw,Tr.val,zt,Prod.eta,s1,s2,c1,c2,he',hwc,hwv,hkc,hkv,if_true,zR,if_false]
 cases b <;> rfl

abbrev GR (s:Sem zx):List (Sem zf):=s.2.2.2.2.2.2.2.2.2.1
abbrev MP:zq:=[105,110,115,101,114,116]

theorem xN {db:List (Sem zh)} {s:Sem zx} (h:LT.lt (α:=Int) (ar db s.2.1) 0):fU (db,s)=some ([],mB 6,()):=by
 have h1:decide (LT.lt (α:=Int) (ar db s.2.1) 0)=true:=by simpa using h
 unfold fU ap cx
 simp only [Sq,Tr.val,h1,if_true]
 rfl
theorem Cw {db:List (Sem zh)} {s:Sem zx} {x:Sem zh} {i:Nat} (hB:cP db) (hs:∀ y∈db,ey y) (hS:iO s) (h:ar db s.2.1=(i:Int)) (hx:db.getD i (zj zh)=x):
  ∃ (l:List (List (Sem zf))) (e:Int) (b:Bool),l.Perm (x.2++[GR s])∧(e=0↔dg (x.1,l))∧(e=0→(b=true↔vK (db.set i (x.1,l))))∧
   fU (db,s)=some (if e=0 then (if b=true then db.set i (x.1,l) else []) else [],if e=0 then (if b=true then (0,1,[]) else mB 10) else mB e,()):=by
 have hf:(0:Int)≤ar db s.2.1:=by rw [h]; omega
 have hm:=tA hf
 rw [show toNat (ar db s.2.1)=i by rw [h]; rfl,hx] at hm
 have hr:=hB.rels x hm
 have hfew:=hr.few
 have hrow:=hS.row
 have hb:zJ (ar db s.2.1) (length db)=true:=ln hf
 rw [h] at hb
 have hn:ar db x.1.1=(i:Int):=by rw [CU h hx,h]
 obtain ⟨l,e,b,q1,_,q2,q3,q4⟩:=Cu (s:=s) (t:=x.1) (rows:=x.2++[GR s]) 1 hB hs hn (by rw [hx]) (by simp; omega) (fun r hr'=>by
  rcases bl.1 hr' with hr' | hr'
  ·exact dC (hr.len r hr') (by omega)
  ·rw [bF] at hr'
   rw [hr']
   exact dC hrow (by omega))
 refine ⟨l,e,b,q1,q2,q3,?_⟩
 rw [← q4]
 have hcc:sn (db,s) (x.1,x.2++[GR s]) 1=true:=by unfold sn; rw [q4]; rfl
 have h1:decide (LT.lt (α:=Int) (i:Int) 0)=false:=by simp
 have h2:decide (length x.2≤1073741824)=true:=by simp only [ah]; omega
 have h3:decide (length s.2.2.2.2.2.2.2.2.2.1≤1073741824)=true:=by simp only [ah]; omega
 have h4:decide (length x.2+[s.2.2.2.2.2.2.2.2.2.1].length≤1073741824)=true:=by simp only [ah,List.length_singleton]; omega
 have hcv:xL (db,s) (x.1,x.2++[GR s]) 1=(if e=0 then (if b=true then db.set i (x.1,l) else []) else [],if e=0 then (if b=true then (0,1,[]) else mB 10) else mB e):=by unfold xL; rw [q4]; rfl
 rw [q4]
 unfold fU ap cx
 simp only [Sq,Tr.val,zt,Prod.eta,h,h1,hb,bP,hx,h2,h3,h4,hcc,hcv,zR,if_true,if_false]
 by_cases he:e=0
 ·simp only [if_pos he]
  cases b <;> rfl
 ·simp only [if_neg he]
  rfl
theorem D8 {db:List (Sem zh)} {s:Sem zx} {n:List (Sem zh)} {a:Sem eJ} (hs:iO s) (hr:∀ x∈db,dZ x) (hm:jE s=true) (hB:cP db) (ho:s.1=MP) (hc:fU (db,s)=some (n,a,())):
  AE db s=some (if a.1=0 then n else db,a,()):=by
 have h1:=qF hs
 have h2:=jR hr
 have h5:iQ db=(0:Int):=(lN hr).2 hB
 have q0:(s.1==[99,114,101,97,116,101])=false:=by rw [ho]; rfl
 have q1:(s.1==[100,114,111,112])=false:=by rw [ho]; rfl
 have q2:(s.1==[105,110,115,101,114,116])=true:=by rw [ho]; rfl
 have hcc:sv (db,s)=true:=by unfold sv; rw [hc]; rfl
 have hcv:xM (db,s)=(n,a):=by unfold xM; rw [hc]; rfl
 unfold AE ap cx
 simp only [i9w,Tr.val,zt,Prod.eta,hm,h1,h2,h5,hcc,hcv,q0,q1,q2,kV,bS,bne_self_eq_false,Bool.and_self,zR,if_true,if_false]
 by_cases h:a.1=0
 ·have h':(a.1 != 0)=false:=by simpa using h
  simp only [h',zR,if_false,if_pos h]
  rfl
 ·have h':(a.1 != 0)=true:=by simpa using h
  simp only [h',if_true,if_neg h]
  rfl

theorem DG {db:List (Sem zh)} {i:Nat} {t:Sem zE} {l:List (List (Sem zf))} (hs:∀ x∈db,ey x) (ht:∃ x∈db,x.1=t) (hl:l.length≤1000):∀ x∈db.set i (t,l),ey x:=fun x hx=>by
 rcases pW hx with h | rfl
 ·exact hs x h
 ·obtain ⟨y,h1,h2⟩:=ht
  have:=hs y h1
  subst h2
  exact ⟨⟨this.sh.uq,this.sh.rf,hl⟩,this.cp⟩

theorem OP {db:List (Sem zh)} {s:Sem zx} (hs:∀ y∈db,ey y) (hS:iO s) (ho:s.1=MP):
  ∃ (d:List (Sem zh)) (a:Sem eJ),AE db s=some (d,a,())∧(∀ y∈d,ey y)∧(a.1=0→Ins s.2.1 (GR s) db d∧cP db∧jE s=true)∧(a.1≠0→d=db∧a=mB a.1):=by
 have hsr:∀ y∈db,dZ y:=fun y hy=>(hs y hy).sh
 by_cases hm:jE s=true∧cP db
 case neg=>exact ⟨db,mB 1,Mg hS hsr hm,hs,fun h=>(by cases h),fun _=>⟨rfl,rfl⟩⟩
 obtain ⟨hm,hB⟩:=hm
 by_cases hf:LT.lt (α:=Int) (ar db s.2.1) 0
 ·exact ⟨db,mB 6,D8 hS hsr hm hB ho (xN hf),hs,fun h=>(by cases h),fun _=>⟨rfl,rfl⟩⟩
 obtain ⟨i,hi⟩:∃ i:Nat,ar db s.2.1=(i:Int):=⟨toNat (ar db s.2.1),(Int.toNat_of_nonneg (Int.not_lt.1 hf)).symm⟩
 obtain ⟨x,hx⟩:∃ x,db.getD i (zj zh)=x:=⟨_,rfl⟩
 obtain ⟨l,e,b,q1,q2,q3,q4⟩:=Cw hB hs hS hi hx
 have hd:=D8 hS hsr hm hB ho q4
 have hxm:x∈db:=by
  have:=tA (db:=db) (s:=s.2.1) (by rw [hi]; omega)
  rw [hi,bP,hx] at this
  exact this
 by_cases he:e=0
 case neg=>
  simp only [if_neg he] at hd
  exact ⟨db,mB e,hd,hs,fun h=>absurd h he,fun _=>⟨rfl,rfl⟩⟩
 have hr:=q2.1 he
 have hb:=q3 he
 simp only [if_pos he] at hd
 cases b with
 | false=>
  refine ⟨db,mB 10,hd,hs,fun h=>(by cases h),fun _=>⟨rfl,rfl⟩⟩
 | true=>
  have hbo:cP (db.set i (x.1,l)):=hB.put (x:=(x.1,l)) (by rw [hx]) hr (hb.1 rfl)
  refine ⟨db.set i (x.1,l),(0,1,[]),hd,DG hs ⟨x,hxm,rfl⟩ (dC hr.few (by omega)),fun _=>⟨⟨i,l,hi,by rw [hx]; exact q1,by rw [hx],hbo⟩,hB,hm⟩,fun h=>absurd rfl h⟩

section
variable {σ:Type} {t:σ→Tr (σ ⊕ ag)}
abbrev BN:ag:=(.kb false,[])
theorem CJ {α:Type} {la lb:List α} (st:Nat→σ) (hlen:la.length=lb.length) (hs:∀ i (ha:i < la.length) (hb:i < lb.length),(la[i]=lb[i]→(t (st i)).val=some (.inl (st (i+1))))∧(la[i]≠lb[i]→(t (st i)).val=some (.inr BN))):
  (la=lb∧aM t la.length (st 0) (st la.length))∨(la≠lb∧bv t la.length (st 0) BN):=by
 rcases Hq (t:=t) (Φ:=fun r=>r=BN) 1 st (fun i=>la[i]?=lb[i]?) la.length (fun i hi _=>by
  have hb:i < lb.length:=by omega
  obtain ⟨h1,h2⟩:=hs i hi hb
  rw [zI hi,zI hb]
  by_cases h:la[i]=lb[i]
  ·exact .inl ⟨by rw [h],aM.of (h1 h)⟩
  ·exact .inr ⟨fun h3=>h (Option.some.inj h3),BN,bv.of (h2 h),rfl⟩) with ⟨h1,h2⟩ | ⟨h1,r,h2,rfl⟩
 ·rw [Nat.mul_one] at h2
  refine .inl ⟨rU fun i=>?_,h2⟩
  by_cases hi:i < la.length
  ·exact h1 i hi
  ·rw [cz (by omega),cz (by omega)]
 ·rw [Nat.mul_one] at h2
  exact .inr ⟨fun h=>h1 fun i _=>by rw [h],h2⟩
end

theorem D9 {α:Type} {a b:List α}:((a.length:Int) != (b.length:Int))=true↔a.length≠b.length:=by
 simp [bne]; omega

theorem ul:∀ (N:Nat) (a b:ze),kK N a=true→∃ r,bj N a b=some (r,())∧(r=true↔a=b)
 | 0,_,_,h=>by cases h
 | N + 1,.mk op v s l,.mk op' v' s' l',h=>by
  rw [kK] at h
  simp only [aE,ah,cA] at h
  obtain ⟨hl,ha⟩:=h
  rw [bj]
  unfold E6
  have no:(Gr (fun x0 x1=>eu (bj N x0 x1)) (fun x0 x1=>(bj N x0 x1).isSome) (.mk op v s l) (.mk op' v' s' l')).val=some (.inr BN)→¬ (ze.mk op v s l=ze.mk op' v' s' l')→
    ∃ r,ap [Sh.bool] (B7 (fun x0 x1=>eu (bj N x0 x1)) (fun x0 x1=>(bj N x0 x1).isSome)) 3000000000 (Gr (fun x0 x1=>eu (bj N x0 x1)) (fun x0 x1=>(bj N x0 x1).isSome) (.mk op v s l) (.mk op' v' s' l'))=some (r,())∧(r=true↔ze.mk op v s l=ze.mk op' v' s' l'):=by
   intro hv hne
   exact ⟨false,f4 hv rfl,by simp [hne]⟩
  have hd:∀ c:Bool,(bif !op==op' then true else bif !(v.1==v'.1&&(v.2.1==v'.2.1&&(v.2.2==v'.2.2&&true))) then true else bif !s==s' then true else (↑l.length:Int) != (↑l'.length:Int))=c→
    (Gr (fun x0 x1=>eu (bj N x0 x1)) (fun x0 x1=>(bj N x0 x1).isSome) (.mk op v s l) (.mk op' v' s' l')).val=if c=true then some (.inr BN) else some (.inl (.h4 ((0:Nat):Int) (.mk op v s l,()) (.mk op' v' s' l',()))):=by
   rintro c rfl
   rfl
  by_cases e1:op=op'
  rotate_left
  ·exact no (by rw [hd true (by rw [beq_eq_false_iff_ne.2 e1]; rfl)]; rfl) (fun h=>e1 (by injection h))
  by_cases e2:v=v'
  rotate_left
  ·refine no ?_ (fun h=>e2 (by injection h))
   rw [hd true ?_]
   ·rfl
   ·have:(v.1==v'.1&&(v.2.1==v'.2.1&&(v.2.2==v'.2.2&&true)))=false:=by
     rw [← Bool.not_eq_true]
     intro h
     simp at h
     exact e2 (Prod.ext h.1 (Prod.ext h.2.1 h.2.2))
    rw [this]
    cases (op==op') <;> rfl
  by_cases e3:s=s'
  rotate_left
  ·refine no ?_ (fun h=>e3 (by injection h))
   rw [hd true ?_]
   ·rfl
   ·rw [beq_eq_false_iff_ne.2 e3]
    cases (op==op') <;> cases (v.1==v'.1&&(v.2.1==v'.2.1&&(v.2.2==v'.2.2&&true))) <;> rfl
  by_cases e4:l.length=l'.length
  rotate_left
  ·refine no ?_ (fun h=>e4 (by injection h with _ _ _ h; rw [h]))
   rw [hd true ?_]
   ·rfl
   ·rw [D9.2 e4]
    cases (op==op') <;> cases (v.1==v'.1&&(v.2.1==v'.2.1&&(v.2.2==v'.2.2&&true))) <;> cases (s==s') <;> rfl
  subst e1; subst e2; subst e3
  have hv:=hd false (by
   have:((↑l.length:Int) != (↑l'.length:Int))=false:=by rw [← Bool.not_eq_true,D9]; exact fun h=>h e4
   rw [this]
   simp)
  rw [if_neg (by simp)] at hv
  rcases CJ (t:=B7 (fun x0 x1=>eu (bj N x0 x1)) (fun x0 x1=>(bj N x0 x1).isSome)) (la:=l) (lb:=l') (fun i=>.h4 (i:Int) (.mk op v s l,()) (.mk op v s l',())) e4 (by
   intro i hi hi'
   obtain ⟨r,hr,hiff⟩:=ul N l[i] l'[i] (ha _ (cR hi))
   have g1:getD l (i:Int).toNat (zj Sh.expr)=l[i]:=fX _ _ hi
   have g2:getD l' (i:Int).toNat (zj Sh.expr)=l'[i]:=fX _ _ hi'
   have hval:(B7 (fun x0 x1=>eu (bj N x0 x1)) (fun x0 x1=>(bj N x0 x1).isSome) (.h4 (i:Int) (.mk op v s l,()) (.mk op v s l',()))).val=if (!r)=true then some (.inr BN) else some (.inl (.h4 ((i+1:Nat):Int) (.mk op v s l,()) (.mk op v s l',()))):=by
    simp only [B7,DN,y7,Tr.val,ze.l,zt,g1,g2,zF hi,zF hi',hr,eF,if_true]
    rw [zG i (by unfold zD; omega)]
    show (if decide ((i:Int) < (l.length:Int))=true then _ else _)=_
    rw [if_pos (bx (by omega))]
    rfl
   rw [hval]
   refine ⟨fun h=>?_,fun h=>?_⟩
   ·rw [if_neg (by rw [hiff.2 h]; simp)]
   ·rw [if_pos]
    cases r
    ·rfl
    ·exact absurd (hiff.1 rfl) h) with ⟨h1,h2⟩ | ⟨h1,h2⟩
  ·subst h1
   refine ⟨true,bC hv (h2.ends (bv.of (r:=(.kb true,[])) ?_)) (by omega) rfl,by simp⟩
   simp only [B7,DN,y7,Tr.val,ze.l]
   exact if_neg (by simp)
  ·exact ⟨false,bC hv h2 (by omega) rfl,by simp [h1]⟩
theorem GI {a b:ze} (h:kK 16 a=true):gK a b=true∧(fI a b=true↔a=b):=by
 obtain ⟨r,h1,h2⟩:=ul 16 a b h
 have h1:yA a b=some (r,()):=h1
 refine ⟨by unfold gK; rw [h1]; rfl,?_⟩
 have:fI a b=r:=by unfold fI; rw [h1]; rfl
 rw [this]; exact h2

section
variable {σ:Type} {t:σ→Tr (σ ⊕ ag)}
def Hc (t:σ→Tr (σ ⊕ ag)) (K:Nat) (nx:σ ⊕ ag) (r:ag):Prop:=match nx with
 | .inl h=>bv t K h r
 | .inr r'=>r'=r
theorem x5 {α:Type} {la lb:List α} (st:Int→σ) (nx:σ ⊕ ag) (e:Nat→Bool) (hval:∀ i:Nat,i≤la.length→(t (st i)).val=if decide (LT.lt (α:=Int) (i:Int) (la.length:Int))=true then (if zJ (i:Int) la.length=true then (if zJ (i:Int) lb.length=true then (if (!e i)=true then some (.inr BN) else some (.inl (st (IntKind.i64.wrap ((i:Int)+1))))) else none) else none) else some nx)
  (he:∀ i (_:i < la.length) (ha:i < la.length) (hb:i < lb.length),e i=true↔la[i]=lb[i]) (hlen:la.length=lb.length) (hm:la.length≤1000000):
  (la=lb∧∀ K r,Hc t K nx r→bv t (K+la.length+1) (st 0) r)∨(la≠lb∧bv t la.length (st 0) BN):=by
 rcases CJ (t:=t) (la:=la) (lb:=lb) (fun i=>st (i:Int)) hlen (fun i ha hb=>by
  have hv:=hval i (by omega)
  rw [if_pos (bx (by omega)),if_pos (zF ha),if_pos (zF hb),zG i (by unfold zD; omega)] at hv
  have:=he i ha ha hb
  refine ⟨fun h=>?_,fun h=>?_⟩
  ·rw [hv,if_neg (by rw [this.2 h]; simp)]
  ·rw [hv,if_pos]
   cases hh:e i
   ·rfl
   ·exact absurd (this.1 hh) h) with ⟨h1,h2⟩ | ⟨h1,h2⟩
 ·refine .inl ⟨h1,fun K r hr=>?_⟩
  have hv:=hval la.length (aS _)
  rw [if_neg (by simp)] at hv
  unfold Hc at hr
  cases nx with
  | inl h=>exact (h2.ends ((aM.of hv).ends hr)).mono (by omega)
  | inr r'=>cases hr; exact (h2.ends (bv.of hv)).mono (by omega)
 ·exact .inr ⟨h1,h2⟩
end

theorem RR (a b:Sem zi):(a.1==b.1&&(a.2.1==b.2.1&&(a.2.2==b.2.2&&true)))=true↔a=b:=by
 simp [Prod.ext_iff]
theorem RX (a b:Sem zo):(a.1==b.1&&(a.2==b.2&&true))=true↔a=b:=by
 simp [Prod.ext_iff]
theorem KN (a b:Sem zf):(a.1==b.1&&(a.2.1==b.2.1&&(a.2.2==b.2.2&&true)))=true↔a=b:=by
 simp [Prod.ext_iff]

theorem Dn {a b:Sem zE} (hc:a.2.1.length≤1000000) (hu:a.2.2.2.1.length≤1000000) (hr:a.2.2.2.2.1.length≤1000000) (he:kK 16 a.2.2.2.2.2=true):∃ r,ot a b=some (r,())∧(r=true↔a=b):=by
 obtain ⟨a1,a2,a3,a4,a5,a6⟩:=a
 obtain ⟨b1,b2,b3,b4,b5,b6⟩:=b
 have hc:a2.length≤1000000:=hc
 have hu:a4.length≤1000000:=hu
 have hr:a5.length≤1000000:=hr
 obtain ⟨s1,s2⟩:=GI (b:=b6) he
 have hv:∀ c:Bool,(bif !a1==b1 then true else bif a3 != b3 then true else bif (↑(length a2):Int) != (↑(length b2):Int) then true else bif (↑(length a4):Int) != (↑(length b4):Int) then true else (↑(length a5):Int) != (↑(length b5):Int))=c→
   (Ss (a1,a2,a3,a4,a5,a6) (b1,b2,b3,b4,b5,b6)).val=if c=true then some (.inr BN) else some (.inl (.h4 0 ((a1,a2,a3,a4,a5,a6),()) ((b1,b2,b3,b4,b5,b6),()))):=by
  rintro c rfl
  rfl
 have no:∀ (h:¬ ((a1,a2,a3,a4,a5,a6):Sem zE)=(b1,b2,b3,b4,b5,b6)) {k s},(Ss (a1,a2,a3,a4,a5,a6) (b1,b2,b3,b4,b5,b6)).val=some (.inl s)→bv DM k s BN→k≤100000000→∃ r,ot (a1,a2,a3,a4,a5,a6) (b1,b2,b3,b4,b5,b6)=some (r,())∧(r=true↔((a1,a2,a3,a4,a5,a6):Sem zE)=(b1,b2,b3,b4,b5,b6)):=by
  intro h k s h1 h2 h3
  exact ⟨false,bC h1 h2 h3 rfl,by simpa using h⟩
 cases hcase:(bif !a1==b1 then true else bif a3 != b3 then true else bif (↑(length a2):Int) != (↑(length b2):Int) then true else bif (↑(length a4):Int) != (↑(length b4):Int) then true else (↑(length a5):Int) != (↑(length b5):Int))
 rotate_left
 ·refine ⟨false,f4 (r:=BN) (by rw [hv true hcase]; rfl) rfl,?_⟩
  constructor
  ·intro h; cases h
  ·intro h
   simp only [bm] at h
   obtain ⟨rfl,rfl,rfl,rfl,rfl,rfl⟩:=h
   simp at hcase
 have hi:=hv false hcase
 rw [if_neg (by simp)] at hi
 have e1:a1=b1:=by
  cases h:(a1==b1)
  ·rw [h] at hcase; cases hcase
  ·simpa using h
 have e3:a3=b3:=by
  cases h:(a3 != b3)
  ·simpa using h
  ·rw [h] at hcase; revert hcase; cases (!a1==b1) <;> simp
 have l2:a2.length=b2.length:=by
  cases h:((↑(length a2):Int) != (↑(length b2):Int))
  ·simp [bne] at h; omega
  ·rw [h] at hcase; revert hcase; cases (!a1==b1) <;> cases (a3 != b3) <;> simp
 have l4:a4.length=b4.length:=by
  cases h:((↑(length a4):Int) != (↑(length b4):Int))
  ·simp [bne] at h; omega
  ·rw [h] at hcase; revert hcase; cases (!a1==b1) <;> cases (a3 != b3) <;> cases ((↑(length a2):Int) != (↑(length b2):Int)) <;> simp
 have l5:a5.length=b5.length:=by
  cases h:((↑(length a5):Int) != (↑(length b5):Int))
  ·simp [bne] at h; omega
  ·rw [h] at hcase; revert hcase; cases (!a1==b1) <;> cases (a3 != b3) <;> cases ((↑(length a2):Int) != (↑(length b2):Int)) <;> cases ((↑(length a4):Int) != (↑(length b4):Int)) <;> simp
 rcases x5 (t:=DM) (la:=a2) (lb:=b2) (fun i=>.h4 i ((a1,a2,a3,a4,a5,a6),()) ((b1,b2,b3,b4,b5,b6),())) (.inl (.h9 0 ((a1,a2,a3,a4,a5,a6),()) ((b1,b2,b3,b4,b5,b6),()))) (fun i=>((getD a2 (i:Int).toNat (zj zi)).1==(getD b2 (i:Int).toNat (zj zi)).1&&((getD a2 (i:Int).toNat (zj zi)).2.1==(getD b2 (i:Int).toNat (zj zi)).2.1&&((getD a2 (i:Int).toNat (zj zi)).2.2==(getD b2 (i:Int).toNat (zj zi)).2.2&&true)))) (fun _ _=>rfl) (fun i _ ha hb=>by rw [RR,fX _ _ ha,fX _ _ hb]) l2 hc with ⟨q2,k2⟩ | ⟨q2,k2⟩
 rotate_left
 ·exact no (fun h=>q2 (by simp only [bm] at h; exact h.2.1)) hi k2 (by omega)
 rcases x5 (t:=DM) (la:=a4) (lb:=b4) (fun i=>.h9 i ((a1,a2,a3,a4,a5,a6),()) ((b1,b2,b3,b4,b5,b6),())) (.inl (.h14 0 ((a1,a2,a3,a4,a5,a6),()) ((b1,b2,b3,b4,b5,b6),()))) (fun i=>getD a4 (i:Int).toNat (zj zg)==getD b4 (i:Int).toNat (zj zg)) (fun _ _=>rfl) (fun i _ ha hb=>by rw [eG,fX _ _ ha,fX _ _ hb]) l4 hu with ⟨q4,k4⟩ | ⟨q4,k4⟩
 rotate_left
 ·exact no (fun h=>q4 (by simp only [bm] at h; exact h.2.2.2.1)) hi (k2 _ _ k4) (by omega)
 rcases x5 (t:=DM) (la:=a5) (lb:=b5) (fun i=>.h14 i ((a1,a2,a3,a4,a5,a6),()) ((b1,b2,b3,b4,b5,b6),())) (.inr (.bool (fI a6 b6),[])) (fun i=>((getD a5 (i:Int).toNat (zj zo)).1==(getD b5 (i:Int).toNat (zj zo)).1&&((getD a5 (i:Int).toNat (zj zo)).2==(getD b5 (i:Int).toNat (zj zo)).2&&true))) (fun i _=>by
   show (DM (.h14 _ _ _)).val=_
   simp only [DM,Tr.val,zt]
   rw [show (if gK a6 b6=true then some (Sum.inr (AV.bool (fI a6 b6),([]:List AO))) else none)=(some (Sum.inr (AV.bool (fI a6 b6),[])):Option (rM ⊕ ag)) from if_pos s1]) (fun i _ ha hb=>by rw [RX,fX _ _ ha,fX _ _ hb]) l5 hr with ⟨q5,k5⟩ | ⟨q5,k5⟩
 rotate_left
 ·exact no (fun h=>q5 (by simp only [bm] at h; exact h.2.2.2.2.1)) hi (k2 _ _ (k4 _ _ k5)) (by omega)
 refine ⟨fI a6 b6,bC hi (k2 _ _ (k4 _ _ (k5 0 _ rfl))) (by omega) rfl,?_⟩
 rw [s2]
 subst e1; subst e3; subst q2; subst q4; subst q5
 simp
theorem GK {a b:Sem zE} (hc:a.2.1.length≤1000000) (hu:a.2.2.2.1.length≤1000000) (hr:a.2.2.2.2.1.length≤1000000) (he:kK 16 a.2.2.2.2.2=true):rg a b=true∧(j4 a b=true↔a=b):=by
 obtain ⟨r,h1,h2⟩:=Dn (b:=b) hc hu hr he
 refine ⟨by unfold rg; rw [h1]; rfl,?_⟩
 have:j4 a b=r:=by unfold j4; rw [h1]; rfl
 rw [this]; exact h2

noncomputable section

abbrev SK:=kP [(4,[0,1,5])]
inductive rI where
 | h4 (l0:List (Sem zf)) (l1:List (Sem zf)) (i5:Int)
abbrev XI:rI→Nat×St
 | .h4 l0 l1 i5=>(4,⟨tm 26 [(0,AV.sl zf l0),(1,AV.sl zf l1),(5,AV.int .i64 i5)],[]⟩)
def Yw (x0:Sem zf.sl) (x1:Sem zf.sl):Tr (rI ⊕ ag):=
 Tr.br ((↑(length x0):Int) != (↑(length x1):Int)) (Tr.re (AV.kb false) []) (Tr.to (rI.h4 x0 x1 0))
def Fr:rI→Tr (rI ⊕ ag)
 | .h4 l0 l1 i5=>
  let a0:=l0.getD i5.toNat (zj zf)
  let a1:=l1.getD i5.toNat (zj zf)
  Tr.br (decide (i5 < (↑l0.length:Int)))
  (Tr.chk (zJ i5 l0.length) (Tr.chk (zJ i5 l1.length) (Tr.br (!(a0.1==a1.1&&(a0.2.1==a1.2.1&&(a0.2.2==a1.2.2&&true)))) (Tr.re (AV.kb false) []) (Tr.to (rI.h4 l0 l1 (IntKind.i64.wrap (i5+1)))))))
  (Tr.re (AV.kb true) [])
def rG (x0:Sem zf.sl) (x1:Sem zf.sl):=ap [Sh.bool] Fr 100000000 (Yw x0 x1)
def Ab (x0:Sem zf.sl) (x1:Sem zf.sl):=(rG x0 x1).isSome
def uT (x0:Sem zf.sl) (x1:Sem zf.sl):=o1 (rG x0 x1)
def Nz:=FT [zf.sl,zf.sl] [Sh.bool] fun x=>rG x.1 x.2.1
theorem KX:FK 104 Nz:=wR.T1 (f:=Tryz.f104) (keep:=SK) (e:=XI)

def O3:=Pb.add 104 Nz
theorem wJ:zm O3:=wR.add KX
end
noncomputable section

abbrev Ze:=kP [(4,[0,1,5])]
inductive Cj where
 | h4 (l0:List (Sem zf.sl)) (l1:List (Sem zf.sl)) (i5:Int)
abbrev zbx:Cj→Nat×St
 | .h4 l0 l1 i5=>(4,⟨tm 27 [(0,AV.sl zf.sl l0),(1,AV.sl zf.sl l1),(5,AV.int .i64 i5)],[]⟩)
def zcT (x0:Sem zf.sl.sl) (x1:Sem zf.sl.sl):Tr (Cj ⊕ ag):=
 Tr.br ((↑(length x0):Int) != (↑(length x1):Int)) (Tr.re (AV.kb false) []) (Tr.to (Cj.h4 x0 x1 0))
def No:Cj→Tr (Cj ⊕ ag)
 | .h4 l0 l1 i5=>
  let a0:=l0.getD i5.toNat (zj zf.sl)
  let a1:=l1.getD i5.toNat (zj zf.sl)
  Tr.br (decide (i5 < (↑l0.length:Int)))
  (Tr.chk (zJ i5 l0.length) (Tr.chk (zJ i5 l1.length) (Tr.chk (Ab a0 a1) (Tr.br (!uT a0 a1) (Tr.re (AV.kb false) []) (Tr.to (Cj.h4 l0 l1 (IntKind.i64.wrap (i5+1))))))))
  (Tr.re (AV.kb true) [])
def rm (x0:Sem zf.sl.sl) (x1:Sem zf.sl.sl):=ap [Sh.bool] No 100000000 (zcT x0 x1)
def rk (x0:Sem zf.sl.sl) (x1:Sem zf.sl.sl):=(rm x0 x1).isSome
def pF (x0:Sem zf.sl.sl) (x1:Sem zf.sl.sl):=o1 (rm x0 x1)
def Vu:=FT [zf.sl.sl,zf.sl.sl] [Sh.bool] fun x=>rm x.1 x.2.1
theorem Q1:FK 61 Vu:=wJ.T1 (f:=Tryz.f61) (keep:=Ze) (e:=zbx)

def O4:=O3.add 61 Vu
theorem Ge:zm O4:=wJ.add Q1
end
noncomputable section
def Ih:=O4.add 60 PO
theorem tk:zm Ih:=Ge.add Hi

def YS (x0:Sem zh) (x1:Sem zh):Tr (Empty ⊕ ag):=
 let a0:=(x0.1.1,x0.1.2.1,x0.1.2.2.1,x0.1.2.2.2.1,x0.1.2.2.2.2.1,zC x0.1.2.2.2.2.2)
 let a1:=(x1.1.1,x1.1.2.1,x1.1.2.2.1,x1.1.2.2.2.1,x1.1.2.2.2.2.1,zC x1.1.2.2.2.2.2)
 let a2:=j4 a0 a1
 Tr.chk (rg a0 a1&&bif a2 then rk x0.2 x1.2 else true) (Tr.re (AV.bool (bif a2 then pF x0.2 x1.2 else false)) [])
def ro (x0:Sem zh) (x1:Sem zh):=ap [Sh.bool] t0 100000000 (YS x0 x1)
def yB (x0:Sem zh) (x1:Sem zh):=(ro x0 x1).isSome
def um (x0:Sem zh) (x1:Sem zh):=o1 (ro x0 x1)
def Vb:=FT [zh,zh] [Sh.bool] fun x=>ro x.1 x.2.1
theorem QG:FK 31 Vb:=tk.T1 (f:=Tryz.f31) (keep:=k0) (e:=e0)

def O5:=Ih.add 31 Vb
theorem wK:zm O5:=tk.add QG
end
noncomputable section

abbrev Y1:=kP [(4,[0,1,5])]
inductive Cg where
 | h4 (l0:List (Sem zh)) (l1:List (Sem zh)) (i5:Int)
abbrev zbr:Cg→Nat×St
 | .h4 l0 l1 i5=>(4,⟨tm 27 [(0,AV.sl zh l0),(1,AV.sl zh l1),(5,AV.int .i64 i5)],[]⟩)
def zcJ (x0:Sem zh.sl) (x1:Sem zh.sl):Tr (Cg ⊕ ag):=
 Tr.br ((↑(length x0):Int) != (↑(length x1):Int)) (Tr.re (AV.kb false) []) (Tr.to (Cg.h4 x0 x1 0))
def Nl:Cg→Tr (Cg ⊕ ag)
 | .h4 l0 l1 i5=>
  let a0:=l0.getD i5.toNat (zj zh)
  let a1:=((a0.1.1,a0.1.2.1,a0.1.2.2.1,a0.1.2.2.2.1,a0.1.2.2.2.2.1,zC a0.1.2.2.2.2.2),a0.2)
  let a2:=l1.getD i5.toNat (zj zh)
  let a3:=((a2.1.1,a2.1.2.1,a2.1.2.2.1,a2.1.2.2.2.1,a2.1.2.2.2.2.1,zC a2.1.2.2.2.2.2),a2.2)
  Tr.br (decide (i5 < (↑l0.length:Int)))
  (Tr.chk (zJ i5 l0.length) (Tr.chk (zJ i5 l1.length) (Tr.chk (yB a1 a3) (Tr.br (!um a1 a3) (Tr.re (AV.kb false) []) (Tr.to (Cg.h4 l0 l1 (IntKind.i64.wrap (i5+1))))))))
  (Tr.re (AV.kb true) [])
def rq (x0:Sem zh.sl) (x1:Sem zh.sl):=ap [Sh.bool] Nl 100000000 (zcJ x0 x1)
def rp (x0:Sem zh.sl) (x1:Sem zh.sl):=(rq x0 x1).isSome
def pG (x0:Sem zh.sl) (x1:Sem zh.sl):=o1 (rq x0 x1)
def UJ:=FT [zh.sl,zh.sl] [Sh.bool] fun x=>rq x.1 x.2.1
theorem Qe:FK 12 UJ:=wK.T1 (f:=Tryz.f12) (keep:=Y1) (e:=zbr)

def Pa:=O5.add 12 UJ
theorem Gh:zm Pa:=wK.add Qe
end

theorem pN {α σ:Type} {t:σ→Tr (σ ⊕ ag)} {i:Tr (σ ⊕ ag)} {la lb:List α} (st:Int→σ) (hi:i.val=if ((la.length:Int) != (lb.length:Int))=true then some (.inr BN) else some (.inl (st 0))) (hm:la.length≤1000000)
  (hs:∀ j (ha:j < la.length) (hb:j < lb.length),(la[j]=lb[j]→(t (st (j:Int))).val=some (.inl (st ((j+1:Nat):Int))))∧(la[j]≠lb[j]→(t (st (j:Int))).val=some (.inr BN)))
  (he:(t (st (la.length:Int))).val=some (.inr (.kb true,[]))):∃ r,ap [Sh.bool] t 100000000 i=some (r,())∧(r=true↔la=lb):=by
 by_cases hl:la.length=lb.length
 case neg=>
  have h1:((la.length:Int) != (lb.length:Int))=true:=by simp; omega
  rw [if_pos h1] at hi
  refine ⟨false,f4 hi rfl,fun h=>(by cases h),fun h=>absurd (congrArg length h) hl⟩
 have h1:((la.length:Int) != (lb.length:Int))=false:=by rw [hl]; simp
 rw [if_neg (by rw [h1]; simp)] at hi
 rcases CJ (t:=t) (la:=la) (lb:=lb) (fun i=>st (i:Int)) hl hs with ⟨q1,q2⟩ | ⟨q1,q2⟩
 ·exact ⟨true,bC hi (q2.ends (bv.of he)) (by omega) rfl,fun _=>q1,fun _=>rfl⟩
 ·exact ⟨false,bC hi q2 (by omega) rfl,fun h=>(by cases h),fun h=>absurd h q1⟩

theorem DS (a b:List (Sem zf)) (hm:a.length≤1000000):∃ r,rG a b=some (r,())∧(r=true↔a=b):=by
 refine pN (la:=a) (lb:=b) (fun i=>rI.h4 a b i) rfl hm (fun j ha hb=>?_) ?_
 ·have hv:(Fr (.h4 a b (j:Int))).val=if (!(a[j].1==b[j].1&&(a[j].2.1==b[j].2.1&&(a[j].2.2==b[j].2.2&&true))))=true then some (.inr BN) else some (.inl (.h4 a b ((j+1:Nat):Int))):=by
   simp only [Fr,Tr.val,zV ha,zF ha,zF hb,zZ a _ ha,zZ b _ hb,if_true,zG j (by unfold zD; omega)]
  refine ⟨fun h=>?_,fun h=>?_⟩
  ·rw [hv,(KN _ _).2 h]; rfl
  ·rw [hv,Bool.eq_false_iff.2 fun h'=>h ((KN _ _).1 h')]; rfl
 ·simp only [Fr,Tr.val,af,zR,if_false]
theorem G2 {a b:List (Sem zf)} (hm:a.length≤1000000):Ab a b=true∧(uT a b=true↔a=b):=by
 obtain ⟨r,h1,h2⟩:=DS a b hm
 refine ⟨by unfold Ab; rw [h1]; rfl,?_⟩
 have:uT a b=r:=by unfold uT; rw [h1]; rfl
 rw [this]; exact h2

theorem Do (a b:List (List (Sem zf))) (hm:a.length≤1000000) (hr:∀ r∈a,length r≤1000000):∃ r,rm a b=some (r,())∧(r=true↔a=b):=by
 refine pN (la:=a) (lb:=b) (fun i=>Cj.h4 a b i) rfl hm (fun j ha hb=>?_) ?_
 ·obtain ⟨s1,s2⟩:=G2 (a:=a[j]) (b:=b[j]) (hr _ (cR ha))
  have hv:(No (.h4 a b (j:Int))).val=if (!uT a[j] b[j])=true then some (.inr BN) else some (.inl (.h4 a b ((j+1:Nat):Int))):=by
   simp only [No,Tr.val,zV ha,zF ha,zF hb,zZ a _ ha,zZ b _ hb,s1,if_true,zG j (by unfold zD; omega)]
  refine ⟨fun h=>?_,fun h=>?_⟩
  ·rw [hv,s2.2 h]; rfl
  ·rw [hv,Bool.eq_false_iff.2 fun h'=>h (s2.1 h')]; rfl
 ·simp only [No,Tr.val,af,zR,if_false]
theorem GL {a b:List (List (Sem zf))} (hm:a.length≤1000000) (hr:∀ r∈a,length r≤1000000):rk a b=true∧(pF a b=true↔a=b):=by
 obtain ⟨r,h1,h2⟩:=Do a b hm hr
 refine ⟨by unfold rk; rw [h1]; rfl,?_⟩
 have:pF a b=r:=by unfold pF; rw [h1]; rfl
 rw [this]; exact h2

structure rO (x:Sem zh):Prop where
 cols:x.1.2.1.length≤1000000
 uq:x.1.2.2.2.1.length≤1000000
 rf:x.1.2.2.2.2.1.length≤1000000
 chk:kK 16 x.1.2.2.2.2.2=true
 rw:x.2.length≤1000000
 row:∀ r∈x.2,length r≤1000000

theorem Dp {a b:Sem zh} (h:rO a):∃ r,ro a b=some (r,())∧(r=true↔a=b):=by
 obtain ⟨s1,s2⟩:=GK (a:=a.1) (b:=b.1) h.cols h.uq h.rf h.chk
 obtain ⟨s3,s4⟩:=GL (a:=a.2) (b:=b.2) h.rw h.row
 refine ⟨bif j4 a.1 b.1 then pF a.2 b.2 else false,?_,?_⟩
 ·have hg:(rg a.1 b.1&&bif j4 a.1 b.1 then rk a.2 b.2 else true)=true:=by
   rw [s1,s3]
   cases j4 a.1 b.1 <;> rfl
  refine f4 (r:=(.bool (bif j4 a.1 b.1 then pF a.2 b.2 else false),[])) ?_ rfl
  simp only [YS,Tr.val,zt,Prod.eta,hg,if_true]
 ·cases hq:j4 a.1 b.1 with
  | true=>
   simp only [bG]
   rw [s4]
   exact ⟨fun e=>Prod.ext (s2.1 hq) e,fun e=>by rw [e]⟩
  | false=>
   simp only [bS,zR,false_iff]
   intro e
   rw [s2.2 (by rw [e])] at hq
   cases hq
theorem GM {a b:Sem zh} (h:rO a):yB a b=true∧(um a b=true↔a=b):=by
 obtain ⟨r,h1,h2⟩:=Dp (b:=b) h
 refine ⟨by unfold yB; rw [h1]; rfl,?_⟩
 have:um a b=r:=by unfold um; rw [h1]; rfl
 rw [this]; exact h2

theorem Dq {a b:List (Sem zh)} (hm:a.length≤1000000) (h:∀ x∈a,rO x):∃ r,rq a b=some (r,())∧(r=true↔a=b):=by
 refine pN (la:=a) (lb:=b) (fun i=>Cg.h4 a b i) rfl hm (fun j ha hb=>?_) ?_
 ·obtain ⟨s1,s2⟩:=GM (a:=a[j]) (b:=b[j]) (h _ (cR ha))
  have hv:(Nl (.h4 a b (j:Int))).val=if (!um a[j] b[j])=true then some (.inr BN) else some (.inl (.h4 a b ((j+1:Nat):Int))):=by
   simp only [Nl,Tr.val,zt,Prod.eta,zV ha,zF ha,zF hb,zZ a _ ha,zZ b _ hb,s1,if_true,zG j (by unfold zD; omega)]
  refine ⟨fun h=>?_,fun h=>?_⟩
  ·rw [hv,s2.2 h]; rfl
  ·rw [hv,Bool.eq_false_iff.2 fun h'=>h (s2.1 h')]; rfl
 ·simp only [Nl,Tr.val,af,zR,if_false]
theorem GN {a b:List (Sem zh)} (hm:a.length≤1000000) (h:∀ x∈a,rO x):rp a b=true∧(pG a b=true↔a=b):=by
 obtain ⟨r,h1,h2⟩:=Dq (b:=b) hm h
 refine ⟨by unfold rp; rw [h1]; rfl,?_⟩
 have:pG a b=r:=by unfold pG; rw [h1]; rfl
 rw [this]; exact h2
noncomputable section
def RW:=(Pa.add 14 F7p).add 10 F8p
theorem CH:zm RW:=(Gh.add OB).add OC

abbrev zdb:=kP [(9,[1,2,7,8,9,10])]
inductive Rz where
 | h9 (l1:List (Sem zf.sl)) (i2:Sem (Sh.int IntKind.u8)) (s7:Sem Sh.str) (l8:List (Sem zh)) (l9:List (Sem zh)) (i10:Int)
abbrev e5w:Rz→Nat×St
 | .h9 l1 i2 s7 l8 l9 i10=>(9,⟨tm 105 [(1,AV.sl zf.sl l1),(2,AV.int IntKind.u8 i2),(7,AV.str s7),(8,AV.sl zh l8),(9,AV.sl zh l9),(10,AV.int .i64 i10)],[]⟩)
def Ue (x0:Sem zh.sl) (x1:Sem zf.sl.sl) (x2:Sem (Sh.int IntKind.u8)):Tr (Rz ⊕ ag):=
 let a0:=IntKind.i64.wrap ((IntKind.i64.wrap x2).tmod (↑(length (jw x0)):Int))
 let a1:=getD (jw x0) a0.toNat (zj zh)
 Tr.chk (Db x0)
 (Tr.chk (nJ (jw x0))
  (Tr.br (bif iQ (jw x0) != 0 then true else bif (↑(length (jw x0)):Int)==0 then true else (↑(length x1):Int)==0) (Tr.chk true (Tr.re (AV.bool nH) [])) (Tr.chk ((↑(length (jw x0)):Int) != 0) (Tr.chk (zJ a0 (length (jw x0))) (Tr.br (decide ((↑(length x1):Int) > 8))
  (Tr.chk (decide (0≤0)&&decide (0≤8)&&decide (8≤(↑(length x1):Int))) (Tr.to (Rz.h9 (List.take (toNat 8 - toNat 0) (List.drop (toNat 0) x1)) x2 a1.1.1 (jw x0) (jw x0) 0))) (Tr.to (Rz.h9 x1 x2 a1.1.1 (jw x0) (jw x0) 0)))))))
def Uh:Rz→Tr (Rz ⊕ ag)
 | .h9 l1 i2 s7 l8 l9 i10=>
  let a0:=([105,110,115,101,114,116],s7,[],[],[],[],[],[],ze.mk [] (0,0,[]) [] [],l1.getD i10.toNat (zj zf.sl),[],ze.mk [] (0,0,[]) [] [],[])
  let a1:=IntKind.i64.wrap ((IntKind.i64.wrap (i10+IntKind.i64.wrap i2)).tmod (↑l1.length:Int))
  let a2:=([105,110,115,101,114,116],s7,[],[],[],[],[],[],ze.mk [] (0,0,[]) [] [],l1.getD a1.toNat (zj zf.sl),[],ze.mk [] (0,0,[]) [] [],[])
  let a3:=EA a0
  let a4:=(a3.1,a3.2.1,a3.2.2.1,a3.2.2.2.1,a3.2.2.2.2.1,a3.2.2.2.2.2.1,a3.2.2.2.2.2.2.1,a3.2.2.2.2.2.2.2.1,zC a3.2.2.2.2.2.2.2.2.1,a3.2.2.2.2.2.2.2.2.2.1,a3.2.2.2.2.2.2.2.2.2.2.1,zC a3.2.2.2.2.2.2.2.2.2.2.2.1,a3.2.2.2.2.2.2.2.2.2.2.2.2)
  let a5:=EA a2
  let a6:=(a5.1,a5.2.1,a5.2.2.1,a5.2.2.2.1,a5.2.2.2.2.1,a5.2.2.2.2.2.1,a5.2.2.2.2.2.2.1,a5.2.2.2.2.2.2.2.1,zC a5.2.2.2.2.2.2.2.2.1,a5.2.2.2.2.2.2.2.2.2.1,a5.2.2.2.2.2.2.2.2.2.2.1,zC a5.2.2.2.2.2.2.2.2.2.2.2.1,a5.2.2.2.2.2.2.2.2.2.2.2.2)
  let a7:=bDo l8 a4
  let a8:=bDo l9 a6
  Tr.br (decide (i10 < (↑l1.length:Int)))
  (Tr.chk (zJ i10 l1.length) (Tr.chk (yo a0) (Tr.chk ((↑l1.length:Int) != 0) (Tr.chk (zJ a1 l1.length) (Tr.chk (yo a2) (Tr.chk (Mf l8 a4) (Tr.chk (Mf l9 a6) (Tr.br (bif a7.2.1 != 0 then true else a8.2.1 != 0) (Tr.chk true (Tr.re (AV.bool nH) [])) (Tr.to (Rz.h9 l1 i2 s7 a7.1 a8.1 (IntKind.i64.wrap (i10+1))))))))))))
  (Tr.chk (rp l8 l9&&bif pG l8 l9 then Co else true) (Tr.re (AV.bool (bif pG l8 l9 then nH else false)) []))
def Bt (x0:Sem zh.sl) (x1:Sem zf.sl.sl) (x2:Sem (Sh.int IntKind.u8)):=ap [Sh.bool] Uh 100000000 (Ue x0 x1 x2)
def F5w:=FT [zh.sl,zf.sl.sl,Sh.int IntKind.u8] [Sh.bool] fun x=>Bt x.1 x.2.1 x.2.2.1
theorem Wz:FK 5 F5w:=CH.T1 (f:=Tryz.f5) (keep:=zdb) (e:=e5w)

end
end Cad
