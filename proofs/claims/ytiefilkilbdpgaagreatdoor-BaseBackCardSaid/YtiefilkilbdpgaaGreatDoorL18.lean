/- Bases: what an INSERT answers. A row by its key: what a condition on the key meets. The document's sameness of rows. The document's sameness of rows, again. The document's sameness of tables with rows. The document's sameness of bases. The document's comparisons and sums; checks. The document's expressions: values; tables that may be. The document's rows. The document's tables with rows, and references. The document's bases. The law BaseBack. What ends: a function's trees give an answer (which one is left open). What ends: names, expressions. What ends: tables, rows, bases. Few of a base: short texts. -/
import Derived.Test.YtiefilkilbdpgaaGreatDoorL17
import Derived.Test.YtiefilkilbdpgaaGreatDoorL14
import Derived.Test.YtiefilkilbdpgaaGreatDoorL15
import Derived.Test.YtiefilkilbdpgaaGreatDoorL16
import Derived.Test.YtiefilkilbdpgaaGreatDoorL12
namespace Cad
open Go Go.Proofs
open Int (toNat)
open List (getD)
open List (length)
set_option maxHeartbeats 2000000

theorem GZ {x:Sem zh} (h:c8 x):∃ e:Int,np x=true∧rF x=e∧(e=0↔cd x):=by
 obtain ⟨e,h1,h2⟩:=sC h
 exact ⟨e,by unfold np; rw [h1]; rfl,by unfold rF; rw [h1]; rfl,h2⟩

theorem FC {db:List (Sem zh)} {s:Sem zp} {t:Sem zw} {rows:List (List (Sem zf))} {i:Nat} (n:Int) (hB:cC db) (hs:∀ y∈db,g8 y) (h:aj db t.1=(i:Int)) (ht:(db.getD i (zj zh)).1=t) (hl:rows.length≤1000) (hr:∀ r∈rows,length r≤1000):
  ∃ (l:List (List (Sem zf))) (e:Int) (b:Bool),l.Perm rows∧Kp t.2.2.1 rows l∧(e=0↔cd (t,l))∧(e=0→(b=true↔tU (db.set i (t,l))))∧
   kd (db,s) (t,rows) n=some (if e=0 then (if b=true then db.set i (t,l) else []) else [],if e=0 then (if b=true then (0,n,[]) else j7 10) else j7 e,()):=by
 have hf:(0:Int)≤aj db t.1:=by rw [h]; omega
 have hm:=pG hf
 rw [show toNat (aj db t.1)=i by rw [h]; rfl] at hm
 have hro:=hB.rels _ hm
 have hsc:=hs _ hm
 obtain ⟨_,_,_,h8,_⟩:=gA hro.may
 rw [ht] at h8
 have hmay:iK t=true:=by rw [← ht]; exact hro.may
 have hcp:FA ((t,rows):Sem zh)=true:=by
  have u1:=hsc.sh.uq
  have u2:=hsc.sh.rf
  have u3:=hsc.cp
  rw [ht] at u1 u2 u3
  unfold FA
  simp only [aG,zW,cL]
  exact ⟨⟨⟨⟨⟨cM h8 (by omega),cM u1 (by omega)⟩,cM u2 (by omega)⟩,u3⟩,cM hl (by omega)⟩,fun r hr'=>cM (hr r hr') (by omega)⟩
 obtain ⟨l,p1,p2,p3⟩:=Om (x:=((t,rows):Sem zh)) hcp hl
 have hk:=p3 hmay
 have hll:l.length≤1000:=by rw [p2.length_eq]; exact hl
 have hshort:c8 ((t,l):Sem zh):=by
  have u1:=hsc.sh.uq
  have u2:=hsc.sh.rf
  rw [ht] at u1 u2
  exact ⟨u1,u2,hll⟩
 obtain ⟨e,c1,c2,c3⟩:=GZ hshort
 have s1:G0 ((t,rows):Sem zh)=true:=by unfold G0; rw [p1]; rfl
 have s2:Ol ((t,rows):Sem zh)=(t,l):=by unfold Ol; rw [p1]; rfl
 have hd12:db.length≤12:=hB.few
 by_cases he:e=0
 case neg=>
  refine ⟨l,e,false,p2,hk,c3,fun h'=>absurd h' he,?_⟩
  have he':(e != 0)=true:=by simpa using he
  obtain ⟨f1,f2⟩:=uL e
  rw [if_neg he,if_neg he]
  unfold kd zT bW
  simp only [Xs,Tr.val,zn,Prod.eta,s1,s2,c1,c2,he',f1,f2,if_true]
  rfl
 have hok:=c3.1 he
 have hset:∀ y∈db.set i (t,l),cd y:=fun y hy=>by
  rcases pc hy with hy | rfl
  ·exact hB.rels y hy
  ·exact hok
 obtain ⟨b,b1,b2⟩:=lY (db:=db.set i (t,l)) (fun y hy=>(hset y hy).cols) (AW (fun y hy=>(hs y hy).sh) hshort) (by rw [j4]; omega)
 have hw:ov db ((t,l):Sem zh)=some (db.set i (t,l),()):=yJ (y:=((t,l):Sem zh)) h (by omega)
 have hwc:kP db ((t,l):Sem zh)=true:=by unfold kP; rw [hw]; rfl
 have hwv:ly db ((t,l):Sem zh)=db.set i (t,l):=by unfold ly; rw [hw]; rfl
 have hkk:=Dv n b1
 have hkc:mb (db.set i (t,l)) n=true:=by unfold mb; rw [hkk]; rfl
 have hkv:si (db.set i (t,l)) n=(if b=true then db.set i (t,l) else [],if b=true then (0,n,[]) else j7 10):=by unfold si; rw [hkk]; rfl
 refine ⟨l,e,b,p2,hk,c3,fun _=>b2,?_⟩
 have he':(e != 0)=false:=by simpa using he
 rw [if_pos he,if_pos he]
 unfold kd zT bW
 simp only [Xs,Tr.val,zn,Prod.eta,s1,s2,c1,c2,he',hwc,hwv,hkc,hkv,if_true,zN,if_false]
 cases b <;> rfl

abbrev eQ (s:Sem zp):List (Sem zf):=s.2.2.2.2.2.2.2.2.2.1
abbrev Q0:zl:=[105,110,115,101,114,116]

theorem Bv {db:List (Sem zh)} {s:Sem zp} (h:LT.lt (α:=Int) (aj db s.2.1) 0):gL (db,s)=some ([],j7 6,()):=by
 have h1:decide (LT.lt (α:=Int) (aj db s.2.1) 0)=true:=by simpa using h
 unfold gL zT bW
 simp only [Xn,Tr.val,h1,if_true]
 rfl
theorem FF {db:List (Sem zh)} {s:Sem zp} {x:Sem zh} {i:Nat} (hB:cC db) (hs:∀ y∈db,g8 y) (hS:c9 s) (h:aj db s.2.1=(i:Int)) (hx:db.getD i (zj zh)=x):
  ∃ (l:List (List (Sem zf))) (e:Int) (b:Bool),l.Perm (x.2++[eQ s])∧(e=0↔cd (x.1,l))∧(e=0→(b=true↔tU (db.set i (x.1,l))))∧
   gL (db,s)=some (if e=0 then (if b=true then db.set i (x.1,l) else []) else [],if e=0 then (if b=true then (0,1,[]) else j7 10) else j7 e,()):=by
 have hf:(0:Int)≤aj db s.2.1:=by rw [h]; omega
 have hm:=pG hf
 rw [show toNat (aj db s.2.1)=i by rw [h]; rfl,hx] at hm
 have hr:=hB.rels x hm
 have hfew:=hr.few
 have hrow:=hS.row
 have hb:zF (aj db s.2.1) (length db)=true:=jc hf
 rw [h] at hb
 have hn:aj db x.1.1=(i:Int):=by rw [vS h hx,h]
 obtain ⟨l,e,b,q1,_,q2,q3,q4⟩:=FC (s:=s) (t:=x.1) (rows:=x.2++[eQ s]) 1 hB hs hn (by rw [hx]) (by simp; omega) (fun r hr'=>by
  rcases aZ.1 hr' with hr' | hr'
  ·exact cM (hr.len r hr') (by omega)
  ·rw [bd] at hr'
   rw [hr']
   exact cM hrow (by omega))
 refine ⟨l,e,b,q1,q2,q3,?_⟩
 rw [← q4]
 have hcc:uH (db,s) (x.1,x.2++[eQ s]) 1=true:=by unfold uH; rw [q4]; rfl
 have h1:decide (LT.lt (α:=Int) (i:Int) 0)=false:=by simp
 have h2:decide (length x.2≤1073741824)=true:=by simp only [zW]; omega
 have h3:decide (length s.2.2.2.2.2.2.2.2.2.1≤1073741824)=true:=by simp only [zW]; omega
 have h4:decide (length x.2+[s.2.2.2.2.2.2.2.2.2.1].length≤1073741824)=true:=by simp only [zW,List.length_singleton]; omega
 have hcv:Bs (db,s) (x.1,x.2++[eQ s]) 1=(if e=0 then (if b=true then db.set i (x.1,l) else []) else [],if e=0 then (if b=true then (0,1,[]) else j7 10) else j7 e):=by unfold Bs; rw [q4]; rfl
 rw [q4]
 unfold gL zT bW
 simp only [Xn,Tr.val,zn,Prod.eta,h,h1,hb,be,hx,h2,h3,h4,hcc,hcv,zN,if_true,if_false]
 by_cases he:e=0
 ·simp only [if_pos he]
  cases b <;> rfl
 ·simp only [if_neg he]
  rfl
theorem Hx {db:List (Sem zh)} {s:Sem zp} {n:List (Sem zh)} {a:Sem c5} (hs:c9 s) (hr:∀ x∈db,c8 x) (hm:fj s=true) (hB:cC db) (ho:s.1=Q0) (hc:gL (db,s)=some (n,a,())):
  pm db s=some (if a.1=0 then n else db,a,()):=by
 have h1:=jH hs
 have h2:=ir hr
 have h5:lZ db=(0:Int):=(mU hr).2 hB
 have q0:(s.1==[99,114,101,97,116,101])=false:=by rw [ho]; rfl
 have q1:(s.1==[100,114,111,112])=false:=by rw [ho]; rfl
 have q2:(s.1==[105,110,115,101,114,116])=true:=by rw [ho]; rfl
 have hcc:uM (db,s)=true:=by unfold uM; rw [hc]; rfl
 have hcv:Bu (db,s)=(n,a):=by unfold Bu; rw [hc]; rfl
 unfold pm zT bW
 simp only [Y8,Tr.val,zn,Prod.eta,hm,h1,h2,h5,hcc,hcv,q0,q1,q2,iW,bQ,pe,nQ,zN,if_true,if_false]
 by_cases h:a.1=0
 ·have h':(a.1 != 0)=false:=by simpa using h
  simp only [h',zN,if_false,if_pos h]
  rfl
 ·have h':(a.1 != 0)=true:=by simpa using h
  simp only [h',if_true,if_neg h]
  rfl

theorem G5 {db:List (Sem zh)} {i:Nat} {t:Sem zw} {l:List (List (Sem zf))} (hs:∀ x∈db,g8 x) (ht:∃ x∈db,x.1=t) (hl:l.length≤1000):∀ x∈db.set i (t,l),g8 x:=fun x hx=>by
 rcases pc hx with h | rfl
 ·exact hs x h
 ·obtain ⟨y,h1,h2⟩:=ht
  have:=hs y h1
  subst h2
  exact ⟨⟨this.sh.uq,this.sh.rf,hl⟩,this.cp⟩

theorem zcG {db:List (Sem zh)} {s:Sem zp} (hs:∀ y∈db,g8 y) (hS:c9 s) (ho:s.1=Q0):
  ∃ (d:List (Sem zh)) (a:Sem c5),pm db s=some (d,a,())∧(∀ y∈d,g8 y)∧(a.1=0→Ins s.2.1 (eQ s) db d∧cC db∧fj s=true)∧(a.1≠0→d=db∧a=j7 a.1):=by
 have hsr:∀ y∈db,c8 y:=fun y hy=>(hs y hy).sh
 by_cases hm:fj s=true∧cC db
 case neg=>exact ⟨db,j7 1,Qk hS hsr hm,hs,fun h=>(by cases h),fun _=>⟨rfl,rfl⟩⟩
 obtain ⟨hm,hB⟩:=hm
 by_cases hf:LT.lt (α:=Int) (aj db s.2.1) 0
 ·exact ⟨db,j7 6,Hx hS hsr hm hB ho (Bv hf),hs,fun h=>(by cases h),fun _=>⟨rfl,rfl⟩⟩
 obtain ⟨i,hi⟩:∃ i:Nat,aj db s.2.1=(i:Int):=⟨toNat (aj db s.2.1),(Int.toNat_of_nonneg (Int.not_lt.1 hf)).symm⟩
 obtain ⟨x,hx⟩:∃ x,db.getD i (zj zh)=x:=⟨_,rfl⟩
 obtain ⟨l,e,b,q1,q2,q3,q4⟩:=FF hB hs hS hi hx
 have hd:=Hx hS hsr hm hB ho q4
 have hxm:x∈db:=by
  have:=pG (db:=db) (s:=s.2.1) (by rw [hi]; omega)
  rw [hi,be,hx] at this
  exact this
 by_cases he:e=0
 case neg=>
  simp only [if_neg he] at hd
  exact ⟨db,j7 e,hd,hs,fun h=>absurd h he,fun _=>⟨rfl,rfl⟩⟩
 have hr:=q2.1 he
 have hb:=q3 he
 simp only [if_pos he] at hd
 cases b with
 | false=>
  refine ⟨db,j7 10,hd,hs,fun h=>(by cases h),fun _=>⟨rfl,rfl⟩⟩
 | true=>
  have hbo:cC (db.set i (x.1,l)):=hB.put (x:=(x.1,l)) (by rw [hx]) hr (hb.1 rfl)
  refine ⟨db.set i (x.1,l),(0,1,[]),hd,G5 hs ⟨x,hxm,rfl⟩ (cM hr.few (by omega)),fun _=>⟨⟨i,l,hi,by rw [hx]; exact q1,by rw [hx],hbo⟩,hB,hm⟩,fun h=>absurd rfl h⟩
set_option maxHeartbeats 4000000

theorem AB {a0 a1 a2 a3 a4 a5 a6 a7 a8 a9 b0}:∀ (l:List (Sem zq)) (i:Int),eb a0 a1 a2 a3 a4 a5 a6 a7 a8 a9 b0 l i=true→(a1.getD (toNat a2) (zj zi)).2.2=true
 | [],i,h=>by
  rw [eb] at h
  split at h
  ·split at h
   ·rename_i h1; exact h1
   ·cases h
  ·cases h
 | x::r,i,h=>by
  rw [eb] at h
  split at h
  ·cases h
  ·split at h
   ·cases h
   ·exact AB r _ h
theorem AA {a0 a1 a2 a3 a4 a5 a6 a7 a8 a9 b0}:∀ (l:List (Sem zg)) (i:Int),dZ a0 a1 a2 a3 a4 a5 a6 a7 a8 a9 b0 l i=true→(a1.getD (toNat a2) (zj zi)).2.2=true
 | [],i,h=>by
  rw [dZ] at h
  exact AB _ _ h
 | x::r,i,h=>by
  rw [dZ] at h
  split at h
  ·cases h
  ·exact AA r _ h
theorem En {a0 a1 a2 a3 a4 a5 a6 a7 a8 a9 b0}:∀ (l:List (Sem zi)) (i:Nat),f7 a0 a1 a2 a3 a4 a5 a6 a7 a8 a9 b0 l (i:Int)=true→
  (a1.getD (toNat a2) (zj zi)).2.2=true∧∀ j,j < l.length→cO (l.getD j (zj zi)).1=true∧au a1 (l.getD j (zj zi)).1=((i+j:Nat):Int)∧(l.getD j (zj zi)).2.1≠(0:Int)
 | [],i,h=>by
  rw [f7] at h
  exact ⟨AA _ _ h,fun j hj=>absurd hj (Nat.not_lt_zero j)⟩
 | x :: r,i,h=>by
  rw [f7] at h
  split at h
  ·cases h
  ·rename_i h1
   obtain ⟨h2,h3⟩:=En r (i+1) (by push_cast; exact h)
   refine ⟨h2,fun j hj=>?_⟩
   cases j with
   | zero=>
    show cO x.1=true∧au a1 x.1=((i:Nat):Int)∧x.2.1≠(0:Int)
    cases e1:cO x.1
    ·rw [e1] at h1; exact absurd rfl h1
    rw [e1] at h1
    simp only [iW,bQ] at h1
    cases e2:decide (LT.lt (α:=Int) x.2.1 1)
    ·rw [e2] at h1
     simp only [bQ] at h1
     cases e3:decide (GT.gt (α:=Int) x.2.1 3)
     ·rw [e3] at h1
      simp only [bQ] at h1
      refine ⟨rfl,?_,?_⟩
      ·simpa [jV,au] using h1
      ·intro e
       rw [e] at e2
       cases e2
     ·rw [e3] at h1; exact absurd rfl h1
    ·rw [e2] at h1; exact absurd rfl h1
   | succ j=>
    obtain ⟨k1,k2,k3⟩:=h3 j (by simpa using hj)
    exact ⟨k1,by rw [show i+(j+1)=i+1+j by omega]; exact k2,k3⟩

theorem Eo {t:Sem zw} (h:iK t=true):∃ k:Nat,t.2.2.1=(k:Int)∧k < t.2.1.length∧cO t.1=true∧cO (t.2.1.getD k (zj zi)).1=true∧au t.2.1 (t.2.1.getD k (zj zi)).1=(k:Int)∧(t.2.1.getD k (zj zi)).2.1≠(0:Int)∧(t.2.1.getD k (zj zi)).2.2=true:=by
 obtain ⟨hk,_⟩:=gA h
 obtain ⟨k,hk1⟩:=Int.eq_ofNat_of_zero_le hk.1
 have hk1:t.2.2.1=(k:Int):=hk1
 have hk2:k < t.2.1.length:=by
  have:=hk.2
  rw [hk1] at this
  exact Int.ofNat_lt.1 this
 unfold iK at h
 split at h
 ·cases h
 ·rename_i h1
  have hn:cO t.1=true:=by
   cases e:cO t.1
   ·rw [e] at h1; exact absurd rfl h1
   ·rfl
  obtain ⟨h2,h3⟩:=En t.2.1 0 h
  rw [hk1,be] at h2
  obtain ⟨k1,k2,k3⟩:=h3 k hk2
  exact ⟨k,hk1,hk2,hn,k1,by rw [ii] at k2; exact k2,k3,h2⟩

theorem sn {a0 a1 a2 a3 a4 a5 a6 a7 a8 a9 b0 l1}:∀ (l:List (Sem zf)) (i:Nat),eC a0 a1 a2 a3 a4 a5 a6 a7 a8 a9 b0 l1 l (i:Int)=(0:Int)→
  ∀ j,j < l.length→(a1.getD (i+j) (zj zi)).2.2=true→(l.getD j (zj zf)).1≠(0:Int)∧(l.getD j (zj zf)).1=(a1.getD (i+j) (zj zi)).2.1
 | [],_,_,j,hj,_=>absurd hj (Nat.not_lt_zero j)
 | x :: r,i,h,j,hj,hn=>by
  rw [eC] at h
  split at h
  ·cases h
  ·rename_i h1
   split at h
   ·cases h
   ·rename_i h2
    cases j with
    | zero=>
     rw [be] at h1 h2
     rw [pg] at hn ⊢
     rw [hn] at h1
     show x.1≠(0:Int)∧x.1=_
     cases e:(x.1==(0:Int))
     ·have e':(x.1 != (0:Int))=true:=by simp only [bne,e]; rfl
      rw [e'] at h2
      simp only [bA] at h2
      exact ⟨by simpa using e,by simpa using h2⟩
     ·rw [e] at h1; exact absurd rfl h1
    | succ j=>
     rw [show i+(j+1)=i+1+j by omega] at hn ⊢
     exact sn r (i+1) (by push_cast; exact h) j (by simpa using hj) hn
theorem vQ {l1 a0 a1 a2 a3 a4 a5 a6 a7 a8 a9 b0}:∀ (l:List (Sem zf)) (i:Int),fZ l1 a0 a1 a2 a3 a4 a5 a6 a7 a8 a9 b0 l i=(0:Int)→(∀ v∈l,dS v=true)∧eC a0 a1 a2 a3 a4 a5 a6 a7 a8 a9 b0 l1 l1 0=(0:Int)
 | [],i,h=>by
  rw [fZ] at h
  exact ⟨fun v hv=>absurd hv (by simp),h⟩
 | x::r,i,h=>by
  rw [fZ] at h
  split at h
  ·cases h
  ·rename_i h1
   obtain ⟨h2,h3⟩:=vQ r _ h
   refine ⟨fun v hv=>?_,h3⟩
   rcases dT.1 hv with rfl | hv
   ·simpa using h1
   ·exact h2 v hv

theorem Ar {t:Sem zw} {row:List (Sem zf)} {k:Nat} (h:io t row=(0:Int)) (hk:k < t.2.1.length) (hn:(t.2.1.getD k (zj zi)).2.2=true):
  k < row.length∧dS (row.getD k (zj zf))=true∧(row.getD k (zj zf)).1≠(0:Int)∧(row.getD k (zj zf)).1=(t.2.1.getD k (zj zi)).2.1:=by
 have hl:row.length=t.2.1.length:=mh (by rw [h]; decide)
 unfold io at h
 split at h
 ·cases h
 ·obtain ⟨h1,h2⟩:=vQ _ _ h
  have hkr:k < row.length:=by omega
  obtain ⟨h3,h4⟩:=sn row 0 h2 k hkr (by rw [ii]; exact hn)
  rw [ii] at h4
  refine ⟨hkr,h1 _ ?_,h3,h4⟩
  rw [aD,zI hkr]
  exact ce hkr

theorem OQ {cols:List (Sem zi)} {c:zl} {v:Sem zf} {k:Nat} (he:gg (iy c v)=true) (hp:au cols c=(k:Int)) (ht:v.1=(cols.getD k (zj zi)).2.1):cy (iy c v) cols=(0:Int):=by
 have e1:fa 15 (ze.mk [99,111,108] (0,0,[]) c []) cols=((cols.getD k (zj zi)).2.1,0):=by
  have:fa 15 (ze.mk [99,111,108] (0,0,[]) c []) cols=(if decide (au cols c < 0)=true then (0,4) else ((cols.getD (toNat (au cols c)) (zj zi)).2.1,0)):=by kernel_rfl
  rw [this,hp,be,if_neg (by simp)]
 have e2:fa 15 (ze.mk [108,105,116] v [] []) cols=(v.1,0):=by kernel_rfl
 have e4:fa 16 (iy c v) cols=(3,0):=by
  show dL (fa 15) (gH 15) cols [61] 0 0 [] [] [ze.mk [99,111,108] (0,0,[]) c [],ze.mk [108,105,116] v [] []] [ze.mk [99,111,108] (0,0,[]) c [],ze.mk [108,105,116] v [] []] 0 []=_
  simp only [dL,e1,e2,ht]
  simp
 have e3:bj (iy c v) cols=(3,0):=by
  unfold bj
  rw [he,e4]
  rfl
 unfold cy
 rw [e3,if_neg (by intro h; cases h),if_neg (by intro h; exact h.2.1 rfl)]

theorem RM {x v:Sem zf} (hm:dS v=true) (h0:v.1≠(0:Int)):((jW x v).1==3&&((jW x v).2.1==1&&((jW x v).2.2==[]&&true)))=(x==v):=by
 have t2:cq true=(3,1,[]):=by kernel_rfl
 have t1:cq false=(3,0,[]):=by kernel_rfl
 by_cases e:x=v
 ·subst e
  have ha:gC x x=true:=by
   unfold gC bn
   rw [hm]
   have:(x.1 != (0:Int))=true:=by simpa using h0
   simp [this]
  unfold jW
  rw [ha]
  simp [t2]
 ·have hx:(x==v)=false:=nO.2 e
  rw [hx]
  unfold jW
  cases ha:gC x v
  ·rfl
  ·have hne:(x.1==v.1&&(x.2.1==v.2.1&&(x.2.2==v.2.2&&true)))=false:=by
    cases hh:(x.1==v.1&&(x.2.1==v.2.1&&(x.2.2==v.2.2&&true)))
    ·rfl
    ·exfalso
     simp only [aG,ej,Bool.and_true] at hh
     exact e (Prod.ext hh.1 (Prod.ext hh.2.1 hh.2.2))
   rw [hne,t1]
   rfl

theorem Ld {cols:List (Sem zi)} {c:zl} {v:Sem zf} {k:Nat} {row:List (Sem zf)} (he:gg (iy c v)=true) (hp:au cols c=(k:Int)) (hk:k < row.length) (hm:dS v=true) (h0:v.1≠(0:Int)):jt (iy c v) cols row=(row.getD k (zj zf)==v):=by
 have e1:sZ 15 cols row (ze.mk [99,111,108] (0,0,[]) c [])=row.getD k (zj zf):=by
  have:sZ 15 cols row (ze.mk [99,111,108] (0,0,[]) c [])=(if (bif decide (au cols c < 0) then true else decide (au cols c ≥ (row.length:Int)))=true then (0,0,[]) else row.getD (toNat (au cols c)) (zj zf)):=by kernel_rfl
  rw [this,hp,be,if_neg (by simp; omega)]
 have e2:sZ 15 cols row (ze.mk [108,105,116] v [] [])=v:=by kernel_rfl
 have e3:gM (iy c v) cols row=jW (row.getD k (zj zf)) v:=by
  unfold gM
  rw [he]
  show YH [61] (sZ 15 cols row (ze.mk [99,111,108] (0,0,[]) c [])) (sZ 15 cols row (ze.mk [108,105,116] v [] []))=_
  rw [e1,e2]
  rfl
 unfold jt
 rw [e3,RM hm h0]
 rfl
noncomputable section

abbrev XD:=jL [(4,[0,1,5])]
inductive tX where
 | h4 (l0:List (Sem zf)) (l1:List (Sem zf)) (i5:Int)
abbrev zcI:tX→Nat×St
 | .h4 l0 l1 i5=>(4,⟨tm 26 [(0,AV.sl zf l0),(1,AV.sl zf l1),(5,AV.int .i64 i5)],[]⟩)
def zdu (x0:Sem zf.sl) (x1:Sem zf.sl):Tr (tX ⊕ zV):=
 Tr.br ((↑(length x0):Int) != (↑(length x1):Int)) (Tr.re (AV.kb false) []) (Tr.to (tX.h4 x0 x1 0))
def Ja:tX→Tr (tX ⊕ zV)
 | .h4 l0 l1 i5=>
  let a0:=l0.getD i5.toNat (zj zf)
  let a1:=l1.getD i5.toNat (zj zf)
  Tr.br (decide (i5 < (↑l0.length:Int)))
  (Tr.chk (zF i5 l0.length) (Tr.chk (zF i5 l1.length) (Tr.br (!(a0.1==a1.1&&(a0.2.1==a1.2.1&&(a0.2.2==a1.2.2&&true)))) (Tr.re (AV.kb false) []) (Tr.to (tX.h4 l0 l1 (IntKind.i64.wrap (i5+1)))))))
  (Tr.re (AV.kb true) [])
def tS (x0:Sem zf.sl) (x1:Sem zf.sl):=zT [Sh.bool] Ja 100000000 (zdu x0 x1)
def CX (x0:Sem zf.sl) (x1:Sem zf.sl):=(tS x0 x1).isSome
def xI (x0:Sem zf.sl) (x1:Sem zf.sl):=o1 (tS x0 x1)
def RY:=FT [zf.sl,zf.sl] [Sh.bool] fun x=>tS x.1 x.2.1
theorem O6:FK 104 RY:=Aj.T1 (f:=Tryz.f104) (keep:=XD) (e:=zcI)

def Tx:=TH.add 104 RY
theorem Aa:zm Tx:=Aj.add O6
end
noncomputable section

abbrev zen:=jL [(4,[0,1,5])]
inductive Fs where
 | h4 (l0:List (Sem zf.sl)) (l1:List (Sem zf.sl)) (i5:Int)
abbrev zgL:Fs→Nat×St
 | .h4 l0 l1 i5=>(4,⟨tm 27 [(0,AV.sl zf.sl l0),(1,AV.sl zf.sl l1),(5,AV.int .i64 i5)],[]⟩)
def zh8 (x0:Sem zf.sl.sl) (x1:Sem zf.sl.sl):Tr (Fs ⊕ zV):=
 Tr.br ((↑(length x0):Int) != (↑(length x1):Int)) (Tr.re (AV.kb false) []) (Tr.to (Fs.h4 x0 x1 0))
def RD:Fs→Tr (Fs ⊕ zV)
 | .h4 l0 l1 i5=>
  let a0:=l0.getD i5.toNat (zj zf.sl)
  let a1:=l1.getD i5.toNat (zj zf.sl)
  Tr.br (decide (i5 < (↑l0.length:Int)))
  (Tr.chk (zF i5 l0.length) (Tr.chk (zF i5 l1.length) (Tr.chk (CX a0 a1) (Tr.br (!xI a0 a1) (Tr.re (AV.kb false) []) (Tr.to (Fs.h4 l0 l1 (IntKind.i64.wrap (i5+1))))))))
  (Tr.re (AV.kb true) [])
def tA (x0:Sem zf.sl.sl) (x1:Sem zf.sl.sl):=zT [Sh.bool] RD 100000000 (zh8 x0 x1)
def tz (x0:Sem zf.sl.sl) (x1:Sem zf.sl.sl):=(tA x0 x1).isSome
def rD (x0:Sem zf.sl.sl) (x1:Sem zf.sl.sl):=o1 (tA x0 x1)
def zap:=FT [zf.sl.sl,zf.sl.sl] [Sh.bool] fun x=>tA x.1 x.2.1
theorem VV:FK 61 zap:=Aa.T1 (f:=Tryz.f61) (keep:=zen) (e:=zgL)

def Ty:=Tx.add 61 zap
theorem JO:zm Ty:=Aa.add VV
end
noncomputable section
def L2:=Ty.add 60 UB
theorem vG:zm L2:=JO.add KR

def zdP (x0:Sem zh) (x1:Sem zh):Tr (Empty ⊕ zV):=
 let a0:=(x0.1.1,x0.1.2.1,x0.1.2.2.1,x0.1.2.2.2.1,x0.1.2.2.2.2.1,zB x0.1.2.2.2.2.2)
 let a1:=(x1.1.1,x1.1.2.1,x1.1.2.2.1,x1.1.2.2.2.1,x1.1.2.2.2.2.1,zB x1.1.2.2.2.2.2)
 let a2:=kY a0 a1
 Tr.chk (tx a0 a1&&bif a2 then tz x0.2 x1.2 else true) (Tr.re (AV.bool (bif a2 then rD x0.2 x1.2 else false)) [])
def tB (x0:Sem zh) (x1:Sem zh):=zT [Sh.bool] t0 100000000 (zdP x0 x1)
def Cl (x0:Sem zh) (x1:Sem zh):=(tB x0 x1).isSome
def wR (x0:Sem zh) (x1:Sem zh):=o1 (tB x0 x1)
def Z4:=FT [zh,zh] [Sh.bool] fun x=>tB x.1 x.2.1
theorem Vx:FK 31 Z4:=vG.T1 (f:=Tryz.f31) (keep:=k0) (e:=e0)

def Tz:=L2.add 31 Z4
theorem Ab:zm Tz:=vG.add Vx
end
noncomputable section

abbrev zd5:=jL [(4,[0,1,5])]
inductive Fp where
 | h4 (l0:List (Sem zh)) (l1:List (Sem zh)) (i5:Int)
abbrev zgA:Fp→Nat×St
 | .h4 l0 l1 i5=>(4,⟨tm 27 [(0,AV.sl zh l0),(1,AV.sl zh l1),(5,AV.int .i64 i5)],[]⟩)
def zhY (x0:Sem zh.sl) (x1:Sem zh.sl):Tr (Fp ⊕ zV):=
 Tr.br ((↑(length x0):Int) != (↑(length x1):Int)) (Tr.re (AV.kb false) []) (Tr.to (Fp.h4 x0 x1 0))
def Rz:Fp→Tr (Fp ⊕ zV)
 | .h4 l0 l1 i5=>
  let a0:=l0.getD i5.toNat (zj zh)
  let a1:=((a0.1.1,a0.1.2.1,a0.1.2.2.1,a0.1.2.2.2.1,a0.1.2.2.2.2.1,zB a0.1.2.2.2.2.2),a0.2)
  let a2:=l1.getD i5.toNat (zj zh)
  let a3:=((a2.1.1,a2.1.2.1,a2.1.2.2.1,a2.1.2.2.2.1,a2.1.2.2.2.2.1,zB a2.1.2.2.2.2.2),a2.2)
  Tr.br (decide (i5 < (↑l0.length:Int)))
  (Tr.chk (zF i5 l0.length) (Tr.chk (zF i5 l1.length) (Tr.chk (Cl a1 a3) (Tr.br (!wR a1 a3) (Tr.re (AV.kb false) []) (Tr.to (Fp.h4 l0 l1 (IntKind.i64.wrap (i5+1))))))))
  (Tr.re (AV.kb true) [])
def tC (x0:Sem zh.sl) (x1:Sem zh.sl):=zT [Sh.bool] Rz 100000000 (zhY x0 x1)
def p8 (x0:Sem zh.sl) (x1:Sem zh.sl):=(tC x0 x1).isSome
def oR (x0:Sem zh.sl) (x1:Sem zh.sl):=o1 (tC x0 x1)
def ZC:=FT [zh.sl,zh.sl] [Sh.bool] fun x=>tC x.1 x.2.1
theorem U3:FK 12 ZC:=Ab.T1 (f:=Tryz.f12) (keep:=zd5) (e:=zgA)

def TF:=Tz.add 12 ZC
theorem JQ:zm TF:=Ab.add U3
end
noncomputable section

def TP (x0:Sem zf) (x1:Sem zf):Tr (Empty ⊕ zV):=
 let a0:=x0.1==x1.1&&(x0.2.1==x1.2.1&&(x0.2.2==x1.2.2&&true))
 let a1:=aM a0
 Tr.chk (mC x0 x1)
 (Tr.br (tt x0 x1) (Tr.re (AV.agg [AV.int .i64 0,AV.int .i64 0,AV.str []]) [])
  (Tr.chk (kv a0) (Tr.re (AV.agg [AV.int .i64 a1.1,AV.int .i64 a1.2.1,AV.str a1.2.2]) [])))
def wA (x0:Sem zf) (x1:Sem zf):=zT [zf] t0 100000000 (TP x0 x1)
def Ev (x0:Sem zf) (x1:Sem zf):=(wA x0 x1).isSome
def Iy (x0:Sem zf) (x1:Sem zf):=o1 (wA x0 x1)
def Sx:=FT [zf,zf] [zf] fun x=>wA x.1 x.2.1
theorem PD:FK 192 Sx:=iT.T1 (f:=Tryz.f192) (keep:=k0) (e:=e0)

def TQ (x0:Sem zf) (x1:Sem zf):Tr (Empty ⊕ zV):=
 let a0:=Op.bytesLess x0.2.2 x1.2.2
 let a1:=aM a0
 Tr.chk (mC x0 x1)
 (Tr.br (tt x0 x1) (Tr.re (AV.agg [AV.int .i64 0,AV.int .i64 0,AV.str []]) [])
  (Tr.br (decide (x0.2.1 < x1.2.1)) (Tr.chk true (Tr.re (AV.agg [AV.int .i64 (aM true).1,AV.int .i64 (aM true).2.1,AV.str (aM true).2.2]) [])) (Tr.chk (kv a0) (Tr.re (AV.agg [AV.int .i64 a1.1,AV.int .i64 a1.2.1,AV.str a1.2.2]) []))))
def Cd (x0:Sem zf) (x1:Sem zf):=zT [zf] t0 100000000 (TQ x0 x1)
def Iz (x0:Sem zf) (x1:Sem zf):=(Cd x0 x1).isSome
def NY (x0:Sem zf) (x1:Sem zf):=o1 (Cd x0 x1)
def Sy:=FT [zf,zf] [zf] fun x=>Cd x.1 x.2.1
theorem PE:FK 193 Sy:=iT.T1 (f:=Tryz.f193) (keep:=k0) (e:=e0)

def TR (x0:Sem zf) (x1:Sem zf):Tr (Empty ⊕ zV):=
 let a0:=IntKind.i64.wrap (9223372036854775807 - x1.2.1)
 let a1:=IntKind.i64.wrap (-9223372036854775808 - x1.2.1)
 let a2:=bif decide (x1.2.1 < 0) then decide (x0.2.1 < a1) else false
 Tr.chk (mC x0 x1)
 (Tr.br (bif tt x0 x1 then true else x0.1 != 1) (Tr.re (AV.agg [AV.int .i64 0,AV.int .i64 0,AV.str []]) [])
  (Tr.br (bif decide (x1.2.1 > 0) then bif decide (x0.2.1 > a0) then true else a2 else a2) (Tr.re (AV.agg [AV.int .i64 0,AV.int .i64 0,AV.str []]) []) (Tr.re (AV.agg [AV.int .i64 1,AV.int .i64 (IntKind.i64.wrap (x0.2.1+x1.2.1)),AV.str []]) [])))
def Ce (x0:Sem zf) (x1:Sem zf):=zT [zf] t0 100000000 (TR x0 x1)
def IC (x0:Sem zf) (x1:Sem zf):=(Ce x0 x1).isSome
def N2 (x0:Sem zf) (x1:Sem zf):=o1 (Ce x0 x1)
def Sz:=FT [zf,zf] [zf] fun x=>Ce x.1 x.2.1
theorem PF:FK 194 Sz:=iT.T1 (f:=Tryz.f194) (keep:=k0) (e:=e0)

def TT (x0:Sem zf) (x1:Sem zf):Tr (Empty ⊕ zV):=
 let a0:=IntKind.i64.wrap (-9223372036854775808+x1.2.1)
 let a1:=IntKind.i64.wrap (9223372036854775807+x1.2.1)
 let a2:=bif decide (x1.2.1 < 0) then decide (x0.2.1 > a1) else false
 Tr.chk (mC x0 x1)
 (Tr.br (bif tt x0 x1 then true else x0.1 != 1) (Tr.re (AV.agg [AV.int .i64 0,AV.int .i64 0,AV.str []]) [])
  (Tr.br (bif decide (x1.2.1 > 0) then bif decide (x0.2.1 < a0) then true else a2 else a2) (Tr.re (AV.agg [AV.int .i64 0,AV.int .i64 0,AV.str []]) []) (Tr.re (AV.agg [AV.int .i64 1,AV.int .i64 (IntKind.i64.wrap (x0.2.1 - x1.2.1)),AV.str []]) [])))
def wC (x0:Sem zf) (x1:Sem zf):=zT [zf] t0 100000000 (TT x0 x1)
def Ex (x0:Sem zf) (x1:Sem zf):=(wC x0 x1).isSome
def IA (x0:Sem zf) (x1:Sem zf):=o1 (wC x0 x1)
def SA:=FT [zf,zf] [zf] fun x=>wC x.1 x.2.1
theorem PG:FK 195 SA:=iT.T1 (f:=Tryz.f195) (keep:=k0) (e:=e0)

def TJ (x0:Sem Sh.expr) (x1:Sem zi.sl):Tr (Empty ⊕ zV):=
 Tr.br (ze.op x0==[])
 (Tr.chk (fU (zB x0) (ze.mk [] (0,0,[]) [] []))
  (Tr.br (!fT (zB x0) (ze.mk [] (0,0,[]) [] [])) (Tr.re (AV.int .i64 1) []) (Tr.re (AV.int .i64 0) [])))
 (Tr.chk (wK (zB x0))
  (Tr.br (!EB (zB x0)) (Tr.re (AV.int .i64 1) []) (Tr.chk (II (zB x0) x1) (Tr.br ((rB (zB x0) x1).2 != 0) (Tr.re (AV.int .i64 (rB (zB x0) x1).2) []) (Tr.br (bif (rB (zB x0) x1).1 != 0 then (rB (zB x0) x1).1 != 3 else false) (Tr.re (AV.int .i64 5) []) (Tr.re (AV.int .i64 0) []))))))
def wP (x0:Sem Sh.expr) (x1:Sem zi.sl):=zT [zg] t0 100000000 (TJ x0 x1)
def EG (x0:Sem Sh.expr) (x1:Sem zi.sl):=(wP x0 x1).isSome
def IP (x0:Sem Sh.expr) (x1:Sem zi.sl):=o1 (wP x0 x1)
def RT:=FT [Sh.expr,zi.sl] [zg] fun x=>wP x.1 x.2.1
theorem O1:FK 120 RT:=iT.T1 (f:=Tryz.f120) (keep:=k0) (e:=e0)

def BG:=TG.addL [(192,Sx),(193,Sy),(194,Sz),(195,SA),(120,RT)]
theorem oz:zm BG:=iT.addL <| fc PD <| fc PE <| fc PF <| fc PG <| fc O1 gZ
end
noncomputable section

def uU (g:Sem Sh.expr→Sem (Sh.sl zi)→Sem (Sh.sl zf)→Sem zf) (c:Sem Sh.expr→Sem (Sh.sl zi)→Sem (Sh.sl zf)→Bool):bq:=BG.add 123 (zC [Sh.expr,Sh.sl zi,Sh.sl zf] [zf] (fun x=>c x.1 x.2.1 x.2.2.1) fun x=>(g x.1 x.2.1 x.2.2.1,()))
theorem FI {g:Sem Sh.expr→Sem (Sh.sl zi)→Sem (Sh.sl zf)→Sem zf} {c:Sem Sh.expr→Sem (Sh.sl zi)→Sem (Sh.sl zf)→Bool} (hg:FK 123 (zC [Sh.expr,Sh.sl zi,Sh.sl zf] [zf] (fun x=>c x.1 x.2.1 x.2.2.1) fun x=>(g x.1 x.2.1 x.2.2.1,()))):zm (uU g c):=oz.add hg
abbrev Gl:Nat→zY:=fun j=>if j=6 then { slots:=[1,2,3,6,7] } else { }
inductive tW where
 | h6 (l1:LC) (l2:LV) (i7:Int) (z0:zu [CP.d Sh.expr]) (z1:zu [CP.d zf])
abbrev Dx:tW→Nat×St
 | .h6 l1 l2 i7 z0 z1=>(6,⟨tm 103 [(1,AV.sl zi l1),(2,AV.sl zf l2),(3,AV.ptr 0 0),(6,AV.ptr 1 0),(7,AV.int .i64 i7)],[AO.box (bh [] [CP.d Sh.expr] z0),AO.box (bh [] [CP.d zf] z1)]⟩)
theorem XZ (g:Sem Sh.expr→Sem zi.sl→Sem zf.sl→Sem zf) (c:Sem Sh.expr→Sem zi.sl→Sem zf.sl→Bool):zA (uU g c).P 123 Tryz.f123 3:=aL (by kernel_rfl)
def HU (g:Sem Sh.expr→Sem zi.sl→Sem zf.sl→Sem zf) (c:Sem Sh.expr→Sem zi.sl→Sem zf.sl→Bool) (x0:Sem Sh.expr) (x1:Sem zi.sl) (x2:Sem zf.sl):Tr (tW ⊕ zV):=
 let a0:=zB ((ze.l x0).getD (toNat 0) (zj Sh.expr))
 let a1:=g a0 x1 x2
 let a2:=Uq a1
 let a3:=a1.1==0
 let a4:=aM a3
 let a5:=zB ((ze.l x0).getD (toNat 1) (zj Sh.expr))
 let a6:=g a5 x1 x2
 let a7:=Up a1 a6
 let a8:=zfT a1 a6
 let a9:=Iy a1 a6
 let a10:=NY a1 a6
 let a11:=N2 a1 a6
 let a12:=IA a1 a6
 Tr.br (ze.op x0==[108,105,116])
 (Tr.re (AV.agg [AV.int .i64 (ze.v x0).1,AV.int .i64 (ze.v x0).2.1,AV.str (ze.v x0).2.2]) [])
 (Tr.br (ze.op x0==[99,111,108]) (Tr.to (tW.h6 x1 x2 0 (x0,()) ((0,0,[]),())))
  (Tr.chk (zF 0 (ze.l x0).length) (Tr.chk (c a0 x1 x2) (Tr.br (ze.op x0==[110,111,116]) (Tr.chk (NZ a1) (Tr.re (AV.agg [AV.int .i64 a2.1,AV.int .i64 a2.2.1,AV.str a2.2.2]) [])) (Tr.br (ze.op x0==[110,117,108,108]) (Tr.chk (mB a1) (Tr.br (!wB a1) (Tr.chk true
  (Tr.re (AV.agg [AV.int .i64 (aM true).1,AV.int .i64 (aM true).2.1,AV.str (aM true).2.2]) [])) (Tr.chk (kv a3) (Tr.re (AV.agg [AV.int .i64 a4.1,AV.int .i64 a4.2.1,AV.str a4.2.2]) [])))) (Tr.chk (zF 1 (ze.l x0).length) (Tr.chk (c a5 x1 x2) (Tr.br (ze.op x0==[97,110,100])
  (Tr.chk (NW a1 a6) (Tr.re (AV.agg [AV.int .i64 a7.1,AV.int .i64 a7.2.1,AV.str a7.2.2]) [])) (Tr.br (ze.op x0==[111,114]) (Tr.chk (Ur a1 a6) (Tr.re (AV.agg [AV.int .i64 a8.1,AV.int .i64 a8.2.1,AV.str a8.2.2]) [])) (Tr.br (ze.op x0==[61]) (Tr.chk (Ev a1 a6) (Tr.re (AV.agg [AV.int .i64 a9.1,AV.int .i64 a9.2.1,AV.str a9.2.2]) [])) (Tr.br (ze.op x0==[60])
  (Tr.chk (Iz a1 a6) (Tr.re (AV.agg [AV.int .i64 a10.1,AV.int .i64 a10.2.1,AV.str a10.2.2]) [])) (Tr.br (ze.op x0==[43]) (Tr.chk (IC a1 a6) (Tr.re (AV.agg [AV.int .i64 a11.1,AV.int .i64 a11.2.1,AV.str a11.2.2]) [])) (Tr.chk (Ex a1 a6) (Tr.re (AV.agg [AV.int .i64 a12.1,AV.int .i64 a12.2.1,AV.str a12.2.2]) []))))))))))))))
theorem WV (g:Sem Sh.expr→Sem zi.sl→Sem zf.sl→Sem zf) (c:Sem Sh.expr→Sem zi.sl→Sem zf.sl→Bool) (x0:Sem Sh.expr) (x1:Sem zi.sl) (x2:Sem zf.sl):rn (uU g c) 0 Gl Tryz.f123 [zz Sh.expr x0,zz zi.sl x1,zz zf.sl x2] []=(HU g c x0 x1 x2).map (lf Tryz.f123 Dx):=by kernel_rfl
def I9 (_:Sem Sh.expr→Sem zi.sl→Sem zf.sl→Sem zf) (_:Sem Sh.expr→Sem zi.sl→Sem zf.sl→Bool):tW→Tr (tW ⊕ zV)
 | .h6 l1 l2 i7 z0 z1=>
  let a0:=l1.getD i7.toNat (zj zi)
  let a1:=l2.getD i7.toNat (zj zf)
  Tr.br (decide (i7 < (↑l1.length:Int)))
  (Tr.chk (zF i7 l1.length)
   (Tr.br (a0.1==ze.s z0.1) (Tr.br (decide (i7 < (↑l2.length:Int))) (Tr.chk (zF i7 l2.length) (Tr.re (AV.agg [AV.int .i64 a1.1,AV.int .i64 a1.2.1,AV.str a1.2.2]) [])) (Tr.re (AV.agg [AV.int .i64 0,AV.int .i64 0,AV.str []]) [])) (Tr.to (tW.h6 l1 l2 (IntKind.i64.wrap (i7+1)) z0 z1))))
  (Tr.re (AV.agg [AV.int .i64 0,AV.int .i64 0,AV.str []]) [])
theorem Ym (g:Sem Sh.expr→Sem zi.sl→Sem zf.sl→Sem zf) (c:Sem Sh.expr→Sem zi.sl→Sem zf.sl→Bool):∀ s,run (uU g c) 0 Gl (Func.results Tryz.f123).toList 400 (zy Tryz.f123 (Dx s).1) (Dx s).2=(I9 g c s).map (lf Tryz.f123 Dx)
 | .h6 l1 l2 i7 z0 z1=>by kernel_rfl
def iC (o:Option (zx (List.map some [zf]))):Sem zf:=(fun r:zx (List.map some [zf])=>r.1) (o.getD (bF [zf]))
def Rk (g:Sem Sh.expr→Sem zi.sl→Sem zf.sl→Sem zf) (c:Sem Sh.expr→Sem zi.sl→Sem zf.sl→Bool) (x0:Sem Sh.expr) (x1:Sem zi.sl) (x2:Sem zf.sl):Option (zx (List.map some [zf])):=zT [zf] (I9 g c) 100000000 (HU g c x0 x1 x2)
def cV:Nat→Sem Sh.expr→Sem zi.sl→Sem zf.sl→Option (zx (List.map some [zf]))
 | 0=>fun _ _ _=>none
 | n+1=>Rk (fun x0 x1 x2=>iC (cV n x0 x1 x2)) fun x0 x1 x2=>(cV n x0 x1 x2).isSome
theorem MD:zA BG.P 123 Tryz.f123 3:=aL (by kernel_rfl)
theorem C5:∀ n,FK 123 (zC [Sh.expr,zi.sl,zf.sl] [zf] (fun x=>(cV n x.1 x.2.1 x.2.2.1).isSome) fun x=>(iC (cV n x.1 x.2.1 x.2.2.1),()))
 | 0=>cQ ⟨Tryz.f123,MD.1,MD.2.1,MD.2.2.1⟩ (fun _=>rfl)
 | n+1=>g6 (E:=uU (fun x0 x1 x2=>iC (cV n x0 x1 x2)) (fun x0 x1 x2=>(cV n x0 x1 x2).isSome)) (ks:=[Sh.expr,zi.sl,zf.sl]) (outs:=[zf]) (keep:=Gl) (gas:=400) (n:=100000000) (e:=Dx) (t:=I9 (fun x0 x1 x2=>iC (cV n x0 x1 x2)) (fun x0 x1 x2=>(cV n x0 x1 x2).isSome)) (i:=fun x=>HU (fun x0 x1 x2=>iC (cV n x0 x1 x2)) (fun x0 x1 x2=>(cV n x0 x1 x2).isSome) x.1 x.2.1 x.2.2.1) (FI (C5 n)) (XZ _ _) (fun x=>WV _ _ x.1 x.2.1 x.2.2.1) (Ym _ _) (fun _=>by kernel_rfl) (fun _=>by kernel_rfl)
def IE (x0:Sem Sh.expr) (x1:Sem zi.sl) (x2:Sem zf.sl):Option (zx (List.map some [zf])):=cV 16 x0 x1 x2
def ID (x0:Sem Sh.expr) (x1:Sem zi.sl) (x2:Sem zf.sl):Bool:=(IE x0 x1 x2).isSome
def N3 (x0:Sem Sh.expr) (x1:Sem zi.sl) (x2:Sem zf.sl):Sem zf:=iC (IE x0 x1 x2)
def RW:zD:=zC [Sh.expr,zi.sl,zf.sl] [zf] (fun x=>ID x.1 x.2.1 x.2.2.1) fun x=>(N3 x.1 x.2.1 x.2.2.1,())
theorem O4:FK 123 RW:=C5 16

abbrev zek:=jL [(5,[1,3,4]),(11,[1,3,6]),(16,[1,3,7])]
inductive ug where
 | h5 (i3:Int) (i4:Int) (z0:zu [CP.d zw])
 | h11 (i3:Int) (i6:Int) (z0:zu [CP.d zw])
 | h16 (i3:Int) (i7:Int) (z0:zu [CP.d zw])
abbrev zgI:ug→Nat×St
 | .h5 i3 i4 z0=>(5,⟨tm 139 [(1,AV.ptr 0 0),(3,AV.int .i64 i3),(4,AV.int .i64 i4)],[AO.box (bh [] [CP.d zw] z0)]⟩)
 | .h11 i3 i6 z0=>(11,⟨tm 139 [(1,AV.ptr 0 0),(3,AV.int .i64 i3),(6,AV.int .i64 i6)],[AO.box (bh [] [CP.d zw] z0)]⟩)
 | .h16 i3 i7 z0=>(16,⟨tm 139 [(1,AV.ptr 0 0),(3,AV.int .i64 i3),(7,AV.int .i64 i7)],[AO.box (bh [] [CP.d zw] z0)]⟩)
def zh6 (x0:Sem zw):Tr (ug ⊕ zV):=
 let a0:=(↑(length x0.2.1):Int)
 let a1:=decide (a0 < 1)
 let a2:=decide (a0 > 8)
 let a3:=decide (x0.2.2.1 < 0)
 let a4:=decide (x0.2.2.1 ≥ a0)
 let a5:=getD x0.2.1 (toNat x0.2.2.1) (zj zi)
 Tr.chk
 (cv x0.1&&
  bif !ez x0.1 then true
  else bif a1 then true else bif a2 then true else bif a3 then true else bif a4 then true else zF x0.2.2.1 (length x0.2.1))
 (Tr.br (bif !ez x0.1 then true else bif a1 then true else bif a2 then true else bif a3 then true else bif a4 then true else !a5.2.2)
  (Tr.re (AV.kb false) []) (Tr.to (ug.h5 a0 0 (x0,()))))
def ziM:ug→Tr (ug ⊕ zV)
 | .h5 i3 i4 z0=>
  let a0:=getD z0.1.2.1 i4.toNat (zj zi)
  let a1 := !ez a0.1
  let a2:=decide (a0.2.1 < 1)
  let a3:=decide (a0.2.1 > 3)
  Tr.br (decide (i4 < i3))
  (Tr.chk (zF i4 (length z0.1.2.1))
   (Tr.chk (cv a0.1&&bif a1 then true else bif a2 then true else bif a3 then true else p0 z0.1.2.1 a0.1) (Tr.br (bif a1 then true else bif a2 then true else bif a3 then true else IN z0.1.2.1 a0.1 != i4) (Tr.re (AV.kb false) []) (Tr.to (ug.h5 i3 (IntKind.i64.wrap (i4+1)) z0)))))
  (Tr.to (ug.h11 i3 0 z0))
 | .h11 i3 i6 z0=>
  let a0:=(↑(length z0.1.2.2.2.1):Int)
  let a1:=zF i6 (length z0.1.2.2.2.1)
  let a2:=getD z0.1.2.2.2.1 i6.toNat (zj zg)
  let a3:=decide (a2 < 0)
  Tr.br (decide (i6 < a0))
  (Tr.chk (a1&&bif a3 then true else a1)
   (Tr.br (bif a3 then true else decide (a2 ≥ i3)) (Tr.re (AV.kb false) []) (Tr.to (ug.h11 i3 (IntKind.i64.wrap (i6+1)) z0))))
  (Tr.to (ug.h16 i3 0 z0))
 | .h16 i3 i7 z0=>
  let a0:=(↑(length z0.1.2.2.2.2.1):Int)
  let a1:=zF i7 (length z0.1.2.2.2.2.1)
  let a2:=getD z0.1.2.2.2.2.1 i7.toNat (zj zq)
  let a3:=decide (a2.1 < 0)
  let a4:=decide (a2.1 ≥ i3)
  let a5:=zB z0.1.2.2.2.2.2
  Tr.br (decide (i7 < a0))
  (Tr.chk (a1&&bif a3 then true else a1&&bif a4 then true else a1&&cv a2.2)
   (Tr.br (bif a3 then true else bif a4 then true else !ez a2.2) (Tr.re (AV.kb false) []) (Tr.to (ug.h16 i3 (IntKind.i64.wrap (i7+1)) z0))))
  (Tr.chk (EG a5 z0.1.2.1) (Tr.re (AV.bool (IP a5 z0.1.2.1==0)) []))
def GK (x0:Sem zw):=zT [Sh.bool] ziM 100000000 (zh6 x0)
def wO (x0:Sem zw):=(GK x0).isSome
def EE (x0:Sem zw):=o1 (GK x0)
def zam:=FT [zw] [Sh.bool] fun x=>GK x.1
theorem VR:FK 64 zam:=oz.T1 (f:=Tryz.f64) (keep:=zek) (e:=zgI)

def Lz:=BG.addL [(123,RW),(64,zam)]
theorem iY:zm Lz:=oz.addL <| fc O4 <| fc VR gZ
end
noncomputable section

abbrev zel:=jL [(4,[1,2,5]),(9,[1,2,6])]
inductive Bb where
 | h4 (l1:LV) (i5:Int) (z0:zu [CP.d zw])
 | h9 (l1:LV) (i6:Int) (z0:zu [CP.d zw])
abbrev zgJ:Bb→Nat×St
 | .h4 l1 i5 z0=>(4,⟨tm 83 [(1,AV.sl zf l1),(2,AV.ptr 0 0),(5,AV.int .i64 i5)],[AO.box (bh [] [CP.d zw] z0)]⟩)
 | .h9 l1 i6 z0=>(9,⟨tm 83 [(1,AV.sl zf l1),(2,AV.ptr 0 0),(6,AV.int .i64 i6)],[AO.box (bh [] [CP.d zw] z0)]⟩)
def zdT (x0:Sem zw) (x1:Sem zf.sl):Tr (Bb ⊕ zV):=
 let a0:=(x0.1,x0.2.1,x0.2.2.1,x0.2.2.2.1,x0.2.2.2.2.1,zB x0.2.2.2.2.2)
 Tr.chk (wO a0)
 (Tr.br (bif !EE a0 then true else (↑(length x1):Int) != (↑(length x0.2.1):Int)) (Tr.re (AV.int .i64 1) [])
  (Tr.to (Bb.h4 x1 0 (x0,()))))
def ziN:Bb→Tr (Bb ⊕ zV)
 | .h4 l1 i5 z0=>
  let a0:=l1.getD i5.toNat (zj zf)
  Tr.br (decide (i5 < (↑l1.length:Int)))
  (Tr.chk (zF i5 l1.length) (Tr.chk (mB a0) (Tr.br (!wB a0) (Tr.re (AV.int .i64 1) []) (Tr.to (Bb.h4 l1 (IntKind.i64.wrap (i5+1)) z0)))))
  (Tr.to (Bb.h9 l1 0 z0))
 | .h9 l1 i6 z0=>
  let a0:=l1.getD i6.toNat (zj zf)
  let a1:=a0.1==0
  let a2:=zF i6 (length z0.1.2.1)
  let a3:=getD z0.1.2.1 i6.toNat (zj zi)
  let a4:=a0.1 != 0
  let a5 := !ze.op z0.1.2.2.2.2.2==[]
  let a6:=zB z0.1.2.2.2.2.2
  let a7:=N3 a6 z0.1.2.1 l1
  Tr.br (decide (i6 < (↑l1.length:Int)))
  (Tr.chk (zF i6 l1.length&&bif a1 then a2 else true)
   (Tr.br (bif a1 then a3.2.2 else false) (Tr.re (AV.int .i64 8) []) (Tr.chk (zF i6 l1.length&&bif a4 then zF i6 l1.length&&a2 else true) (Tr.br (bif a4 then a0.1 != a3.2.1 else false) (Tr.re (AV.int .i64 5) []) (Tr.to (Bb.h9 l1 (IntKind.i64.wrap (i6+1)) z0))))))
  (Tr.chk (bif a5 then ID a6 z0.1.2.1 l1&&lG a7 false else true)
   (Tr.br (bif a5 then oQ a7 false else false) (Tr.re (AV.int .i64 9) []) (Tr.re (AV.int .i64 0) [])))
def Cj (x0:Sem zw) (x1:Sem zf.sl):=zT [zg] ziN 100000000 (zdT x0 x1)
def IM (x0:Sem zw) (x1:Sem zf.sl):=(Cj x0 x1).isSome
def GJ (x0:Sem zw) (x1:Sem zf.sl):=o1 (Cj x0 x1)
def zan:=FT [zw,zf.sl] [zg] fun x=>Cj x.1 x.2.1
theorem VT:FK 65 zan:=iY.T1 (f:=Tryz.f65) (keep:=zel) (e:=zgJ)

abbrev zem:=jL [(2,[0,1,5]),(5,[0,1,5,6])]
inductive Bc where
 | h2 (l0:List (Sem zf.sl)) (i1:Sem zg) (i5:Int)
 | h5 (l0:List (Sem zf.sl)) (i1:Sem zg) (i5:Int) (i6:Int)
abbrev zgK:Bc→Nat×St
 | .h2 l0 i1 i5=>(2,⟨tm 44 [(0,AV.sl zf.sl l0),(1,AV.int .i64 i1),(5,AV.int .i64 i5)],[]⟩)
 | .h5 l0 i1 i5 i6=>(5,⟨tm 44 [(0,AV.sl zf.sl l0),(1,AV.int .i64 i1),(5,AV.int .i64 i5),(6,AV.int .i64 i6)],[]⟩)
def zh7 (x0:Sem zf.sl.sl) (x1:Sem zg):Tr (Bc ⊕ zV):=
 Tr.to (Bc.h2 x0 x1 0)
def ziO:Bc→Tr (Bc ⊕ zV)
 | .h2 l0 i1 i5=>
  Tr.br (decide (i5 < (↑l0.length:Int))) (Tr.to (Bc.h5 l0 i1 i5 0)) (Tr.re (AV.kb false) [])
 | .h5 l0 i1 i5 i6=>
  let a0:=l0.getD i5.toNat (zj zf.sl)
  let a1:=zF i1 (length a0)
  let a2:=getD a0 (toNat i1) (zj zf)
  let a3:=a2.1 != 0
  let a4:=l0.getD i6.toNat (zj zf.sl)
  let a5:=getD a4 (toNat i1) (zj zf)
  Tr.br (decide (i6 < i5))
  (Tr.chk (zF i5 l0.length&&(a1&&bif a3 then zF i5 l0.length&&(a1&&(zF i6 l0.length&&zF i1 (length a4))) else true))
   (Tr.br (bif a3 then a2.1==a5.1&&(a2.2.1==a5.2.1&&(a2.2.2==a5.2.2&&true)) else false) (Tr.re (AV.kb true) []) (Tr.to (Bc.h5 l0 i1 i5 (IntKind.i64.wrap (i6+1))))))
  (Tr.to (Bc.h2 l0 i1 (IntKind.i64.wrap (i5+1))))
def wT (x0:Sem zf.sl.sl) (x1:Sem zg):=zT [Sh.bool] ziO 100000000 (zh7 x0 x1)
def wS (x0:Sem zf.sl.sl) (x1:Sem zg):=(wT x0 x1).isSome
def IT (x0:Sem zf.sl.sl) (x1:Sem zg):=o1 (wT x0 x1)
def zao:=FT [zf.sl.sl,zg] [Sh.bool] fun x=>wT x.1 x.2.1
theorem VU:FK 66 zao:=iY.T1 (f:=Tryz.f66) (keep:=zem) (e:=zgK)

def zdV (x0:Sem zw) (x1:Sem zf.sl):Tr (Empty ⊕ zV):=
 let a0:=(x0.1,x0.2.1,x0.2.2.1,x0.2.2.2.1,x0.2.2.2.2.1,zB x0.2.2.2.2.2)
 let a1:=getD x1 (toNat x0.2.2.1) (zj zf)
 Tr.chk (wO a0)
 (Tr.br (bif EE a0 then decide (x0.2.2.1 < (↑(length x1):Int)) else false)
  (Tr.chk (zF x0.2.2.1 (length x1)) (Tr.re (AV.agg [AV.int .i64 a1.1,AV.int .i64 a1.2.1,AV.str a1.2.2]) []))
  (Tr.re (AV.agg [AV.int .i64 0,AV.int .i64 0,AV.str []]) []))
def GP (x0:Sem zw) (x1:Sem zf.sl):=zT [zf] t0 100000000 (zdV x0 x1)
def GO (x0:Sem zw) (x1:Sem zf.sl):=(GP x0 x1).isSome
def Ob (x0:Sem zw) (x1:Sem zf.sl):=o1 (GP x0 x1)
def zas:=FT [zw,zf.sl] [zf] fun x=>GP x.1 x.2.1
theorem VZ:FK 68 zas:=iY.T1 (f:=Tryz.f68) (keep:=k0) (e:=e0)

abbrev zep:=jL [(2,[2,3,5])]
inductive Ft where
 | h2 (i5:Int) (z0:zu [CP.d zh]) (z1:zu [CP.d zf])
abbrev zgN:Ft→Nat×St
 | .h2 i5 z0 z1=>(2,⟨tm 43 [(2,AV.ptr 0 0),(3,AV.ptr 1 0),(5,AV.int .i64 i5)],[AO.box (bh [] [CP.d zh] z0),AO.box (bh [] [CP.d zf] z1)]⟩)
def zia (x0:Sem zh) (x1:Sem zf):Tr (Ft ⊕ zV):=
 Tr.to (Ft.h2 0 (x0,()) (x1,()))
def zga:Ft→Tr (Ft ⊕ zV)
 | .h2 i5 z0 z1=>
  let a0:=(↑(length z0.1.2):Int)
  let a1:=decide (i5 < a0)
  let a2:=(z0.1.1.1,z0.1.1.2.1,z0.1.1.2.2.1,z0.1.1.2.2.2.1,z0.1.1.2.2.2.2.1,zB z0.1.1.2.2.2.2.2)
  let a3:=zF i5 (length z0.1.2)
  let a4:=getD z0.1.2 i5.toNat (zj zf.sl)
  let a5:=(↑(length a4):Int)
  let a6:=decide (z0.1.1.2.2.1 < a5)
  let a7:=getD a4 (toNat z0.1.1.2.2.1) (zj zf)
  Tr.chk (bif a1 then wO a2 else true)
  (Tr.br (bif a1 then EE a2 else false)
   (Tr.chk (a3&&bif a6 then a3&&zF z0.1.1.2.2.1 (length a4) else true) (Tr.br (bif a6 then a7.1==z1.1.1&&(a7.2.1==z1.1.2.1&&(a7.2.2==z1.1.2.2&&true)) else false) (Tr.re (AV.int .i64 i5) []) (Tr.to (Ft.h2 (IntKind.i64.wrap (i5+1)) z0 z1))))
   (Tr.re (AV.int .i64 (-1)) []))
def Ck (x0:Sem zh) (x1:Sem zf):=zT [zg] zga 100000000 (zia x0 x1)
def IR (x0:Sem zh) (x1:Sem zf):=(Ck x0 x1).isSome
def YL (x0:Sem zh) (x1:Sem zf):=o1 (Ck x0 x1)
def zat:=FT [zh,zf] [zg] fun x=>Ck x.1 x.2.1
theorem V0:FK 70 zat:=iY.T1 (f:=Tryz.f70) (keep:=zep) (e:=zgN)

def LA:=Lz.addL [(65,zan),(66,zao),(68,zas),(70,zat)]
theorem oA:zm LA:=iY.addL <| fc VT <| fc VU <| fc VZ <| fc V0 gZ
end
noncomputable section

abbrev zd9:=jL [(6,[1,3]),(14,[1,5]),(19,[1,6])]
inductive uc where
 | h6 (i3:Int) (z0:zu [CP.d zh])
 | h14 (i5:Int) (z0:zu [CP.d zh])
 | h19 (i6:Int) (z0:zu [CP.d zh])
abbrev zgC:uc→Nat×St
 | .h6 i3 z0=>(6,⟨tm 82 [(1,AV.ptr 0 0),(3,AV.int .i64 i3)],[AO.box (bh [] [CP.d zh] z0)]⟩)
 | .h14 i5 z0=>(14,⟨tm 82 [(1,AV.ptr 0 0),(5,AV.int .i64 i5)],[AO.box (bh [] [CP.d zh] z0)]⟩)
 | .h19 i6 z0=>(19,⟨tm 82 [(1,AV.ptr 0 0),(6,AV.int .i64 i6)],[AO.box (bh [] [CP.d zh] z0)]⟩)
def zdM (x0:Sem zh):Tr (uc ⊕ zV):=
 let a0:=(x0.1.1,x0.1.2.1,x0.1.2.2.1,x0.1.2.2.2.1,x0.1.2.2.2.2.1,zB x0.1.2.2.2.2.2)
 Tr.chk (wO a0)
 (Tr.br (!EE a0) (Tr.re (AV.int .i64 1) [])
  (Tr.br (decide ((↑(length x0.2):Int) > 200)) (Tr.re (AV.int .i64 13) []) (Tr.to (uc.h6 0 (x0,())))))
def YZ:uc→Tr (uc ⊕ zV)
 | .h6 i3 z0=>
  let a0:=(↑(length z0.1.2):Int)
  let a1:=(z0.1.1.1,z0.1.1.2.1,z0.1.1.2.2.1,z0.1.1.2.2.2.1,z0.1.1.2.2.2.2.1,zB z0.1.1.2.2.2.2.2)
  let a2:=getD z0.1.2 i3.toNat (zj zf.sl)
  let a3:=GJ a1 a2
  Tr.br (decide (i3 < a0))
  (Tr.chk (zF i3 (length z0.1.2))
   (Tr.chk (IM a1 a2) (Tr.br (a3 != 0) (Tr.re (AV.int .i64 a3) []) (Tr.to (uc.h6 (IntKind.i64.wrap (i3+1)) z0)))))
  (Tr.chk (wS z0.1.2 z0.1.1.2.2.1)
   (Tr.br (IT z0.1.2 z0.1.1.2.2.1) (Tr.re (AV.int .i64 7) []) (Tr.to (uc.h14 0 z0))))
 | .h14 i5 z0=>
  let a0:=(↑(length z0.1.1.2.2.2.1):Int)
  let a1:=getD z0.1.1.2.2.2.1 i5.toNat (zj zg)
  Tr.br (decide (i5 < a0))
  (Tr.chk (zF i5 (length z0.1.1.2.2.2.1))
   (Tr.chk (wS z0.1.2 a1) (Tr.br (IT z0.1.2 a1) (Tr.re (AV.int .i64 7) []) (Tr.to (uc.h14 (IntKind.i64.wrap (i5+1)) z0)))))
  (Tr.to (uc.h19 1 z0))
 | .h19 i6 z0=>
  let a0:=(↑(length z0.1.2):Int)
  let a1:=IntKind.i64.wrap (i6 - 1)
  let a2:=(z0.1.1.1,z0.1.1.2.1,z0.1.1.2.2.1,z0.1.1.2.2.2.1,z0.1.1.2.2.2.2.1,zB z0.1.1.2.2.2.2.2)
  let a3:=getD z0.1.2 a1.toNat (zj zf.sl)
  let a4:=getD z0.1.2 i6.toNat (zj zf.sl)
  let a5:=Ob a2 a3
  let a6:=Ob a2 a4
  let a7:=Rj a5 a6
  Tr.br (decide (i6 < a0))
  (Tr.chk (zF a1 (length z0.1.2))
   (Tr.chk (GO a2 a3) (Tr.chk (zF i6 (length z0.1.2)) (Tr.chk (GO a2 a4) (Tr.chk (Ey a5 a6) (Tr.br (decide (a7 > 0)) (Tr.re (AV.int .i64 15) []) (Tr.to (uc.h19 (IntKind.i64.wrap (i6+1)) z0))))))))
  (Tr.re (AV.int .i64 0) [])
def wQ (x0:Sem zh):=zT [zg] YZ 100000000 (zdM x0)
def EH (x0:Sem zh):=(wQ x0).isSome
def IQ (x0:Sem zh):=o1 (wQ x0)
def Z1:=FT [zh] [zg] fun x=>wQ x.1
theorem Vt:FK 34 Z1:=oA.T1 (f:=Tryz.f34) (keep:=zd9) (e:=zgC)

abbrev zea:=jL [(2,[0,3]),(5,[0,3,4]),(12,[0,3,4,5,6,7])]
inductive ud where
 | h2 (l0:List (Sem zh)) (i3:Int)
 | h5 (l0:List (Sem zh)) (i3:Int) (i4:Int)
 | h12 (l0:List (Sem zh)) (i3:Int) (i4:Int) (i6:Sem zg) (i7:Int) (z0:zu [CP.d zq])
abbrev zgD:ud→Nat×St
 | .h2 l0 i3=>(2,⟨tm 75 [(0,AV.sl zh l0),(3,AV.int .i64 i3)],[]⟩)
 | .h5 l0 i3 i4=>(5,⟨tm 75 [(0,AV.sl zh l0),(3,AV.int .i64 i3),(4,AV.int .i64 i4)],[]⟩)
 | .h12 l0 i3 i4 i6 i7 z0=>(12,⟨tm 75 [(0,AV.sl zh l0),(3,AV.int .i64 i3),(4,AV.int .i64 i4),(5,AV.ptr 0 0),(6,AV.int .i64 i6),(7,AV.int .i64 i7)],[AO.box (bh [] [CP.d zq] z0)]⟩)
def zh1 (x0:Sem zh.sl):Tr (ud ⊕ zV):=
 Tr.to (ud.h2 x0 0)
def RB:ud→Tr (ud ⊕ zV)
 | .h2 l0 i3=>
  Tr.br (decide (i3 < (↑l0.length:Int))) (Tr.to (ud.h5 l0 i3 0)) (Tr.re (AV.kb true) [])
 | .h5 l0 i3 i4=>
  let a0:=l0.getD i3.toNat (zj zh)
  let a1:=(↑(length a0.1.2.2.2.2.1):Int)
  let a2:=getD a0.1.2.2.2.2.1 i4.toNat (zj zq)
  let a3:=w9 l0 a2.2
  Tr.chk (zF i3 l0.length)
  (Tr.br (decide (i4 < a1))
   (Tr.chk (zF i3 l0.length) (Tr.chk (zF i4 (length a0.1.2.2.2.2.1)) (Tr.br (decide (a3 < 0)) (Tr.re (AV.kb false) []) (Tr.to (ud.h12 l0 i3 i4 a3 0 (a2,()))))))
   (Tr.to (ud.h2 l0 (IntKind.i64.wrap (i3+1)))))
 | .h12 l0 i3 i4 i6 i7 z0=>
  let a0:=l0.getD i3.toNat (zj zh)
  let a1:=(↑(length a0.2):Int)
  let a2:=getD a0.2 i7.toNat (zj zf.sl)
  let a3:=getD a2 (toNat z0.1.1) (zj zf)
  let a4:=a3.1 != 0
  let a5:=l0.getD (toNat i6) (zj zh)
  let a6:=((a5.1.1,a5.1.2.1,a5.1.2.2.1,a5.1.2.2.2.1,a5.1.2.2.2.2.1,zB a5.1.2.2.2.2.2),a5.2)
  let a7:=YL a6 a3
  Tr.chk (zF i3 l0.length)
  (Tr.br (decide (i7 < a1))
   (Tr.chk (zF i3 l0.length) (Tr.chk (zF i7 (length a0.2)) (Tr.chk (zF z0.1.1 (length a2)) (Tr.chk (bif a4 then zF i6 l0.length&&IR a6 a3 else true) (Tr.br (bif a4 then decide (a7 < 0) else false) (Tr.re (AV.kb false) []) (Tr.to (ud.h12 l0 i3 i4 i6 (IntKind.i64.wrap (i7+1)) z0)))))))
   (Tr.to (ud.h5 l0 i3 (IntKind.i64.wrap (i4+1)))))
def wV (x0:Sem zh.sl):=zT [Sh.bool] RB 100000000 (zh1 x0)
def EI (x0:Sem zh.sl):=(wV x0).isSome
def Rp (x0:Sem zh.sl):=o1 (wV x0)
def Z2:=FT [zh.sl] [Sh.bool] fun x=>wV x.1
theorem Vu:FK 35 Z2:=oA.T1 (f:=Tryz.f35) (keep:=zea) (e:=zgD)

def WR:=LA.addL [(34,Z1),(35,Z2)]
theorem FP:zm WR:=oA.addL <| fc Vt <| fc Vu gZ
end
noncomputable section

abbrev ziE:=jL [(4,[0,3]),(9,[0,4])]
inductive P5 where
 | h4 (l0:List (Sem zh)) (i3:Int)
 | h9 (l0:List (Sem zh)) (i4:Int)
abbrev e9p:P5→Nat×St
 | .h4 l0 i3=>(4,⟨tm 46 [(0,AV.sl zh l0),(3,AV.int .i64 i3)],[]⟩)
 | .h9 l0 i4=>(9,⟨tm 46 [(0,AV.sl zh l0),(4,AV.int .i64 i4)],[]⟩)
def i9p (x0:Sem zh.sl):Tr (P5 ⊕ zV):=
 Tr.br (decide ((↑(length x0):Int) > 12)) (Tr.re (AV.int .i64 13) []) (Tr.to (P5.h4 x0 1))
def t9p:P5→Tr (P5 ⊕ zV)
 | .h4 l0 i3=>
  let a0:=IntKind.i64.wrap (i3 - 1)
  let a1:=l0.getD a0.toNat (zj zh)
  let a2:=l0.getD i3.toNat (zj zh)
  Tr.br (decide (i3 < (↑l0.length:Int)))
  (Tr.chk (zF a0 l0.length)
   (Tr.chk (zF i3 l0.length) (Tr.br (!Op.bytesLess a1.1.1 a2.1.1) (Tr.re (AV.int .i64 15) []) (Tr.to (P5.h4 l0 (IntKind.i64.wrap (i3+1)))))))
  (Tr.to (P5.h9 l0 0))
 | .h9 l0 i4=>
  let a0:=l0.getD i4.toNat (zj zh)
  let a1:=((a0.1.1,a0.1.2.1,a0.1.2.2.1,a0.1.2.2.2.1,a0.1.2.2.2.2.1,zB a0.1.2.2.2.2.2),a0.2)
  let a2:=IQ a1
  Tr.br (decide (i4 < (↑l0.length:Int)))
  (Tr.chk (zF i4 l0.length) (Tr.chk (EH a1) (Tr.br (a2 != 0) (Tr.re (AV.int .i64 a2) []) (Tr.to (P5.h9 l0 (IntKind.i64.wrap (i4+1)))))))
  (Tr.chk (EI l0) (Tr.br (!Rp l0) (Tr.re (AV.int .i64 10) []) (Tr.re (AV.int .i64 0) [])))
def wX (x0:Sem zh.sl):=zT [zg] t9p 100000000 (i9p x0)
def wW (x0:Sem zh.sl):=(wX x0).isSome
def IU (x0:Sem zh.sl):=o1 (wX x0)
def F9p:=FT [zh.sl] [zg] fun x=>wX x.1
theorem zb8:FK 15 F9p:=FP.T1 (f:=Tryz.f15) (keep:=ziE) (e:=e9p)

end
noncomputable section
def WT:=((TF.add 14 F7p).add 10 F8p).add 15 F9p
theorem FV:zm WT:=((JQ.add S4).add S5).add zb8

abbrev zim:=jL [(15,[0,8,13,14,15,16])]
inductive Y4 where
 | h15 (l0:List (Sem zh)) (l14:List (Sem zh)) (i16:Int) (z0:zu [CP.d zp]) (z1:zu [CP.d c5]) (z2:zu [CP.d c5])
abbrev e4w:Y4→Nat×St
 | .h15 l0 l14 i16 z0 z1 z2=>(15,⟨tm 167 [(0,AV.sl zh l0),(8,AV.ptr 0 0),(13,AV.ptr 1 0),(14,AV.sl zh l14),(15,AV.ptr 2 0),(16,AV.int .i64 i16)],[AO.box (bh [] [CP.d zp] z0),AO.box (bh [] [CP.d c5] z1),AO.box (bh [] [CP.d c5] z2)]⟩)
def i4w (x0:Sem zh.sl) (x1:Sem zf.sl) (x2:Sem (Sh.int IntKind.u8)):Tr (Y4 ⊕ zV):=
 let a0:=IntKind.i64.wrap ((IntKind.i64.wrap x2).tmod (↑(length (jA x0)):Int))
 let a1:=getD (jA x0) a0.toNat (zj zh)
 let a2:=([105,110,115,101,114,116],a1.1.1,[],[],[],[],[],[],ze.mk [] (0,0,[]) [] [],x1,[],ze.mk [] (0,0,[]) [] [],[])
 let a3:=H0 a2
 let a4:=(a3.1,a3.2.1,a3.2.2.1,a3.2.2.2.1,a3.2.2.2.2.1,a3.2.2.2.2.2.1,a3.2.2.2.2.2.2.1,a3.2.2.2.2.2.2.2.1,zB a3.2.2.2.2.2.2.2.2.1,a3.2.2.2.2.2.2.2.2.2.1,a3.2.2.2.2.2.2.2.2.2.2.1,zB a3.2.2.2.2.2.2.2.2.2.2.2.1,a3.2.2.2.2.2.2.2.2.2.2.2.2)
 let a5:=bDo (jA x0) a4
 let a6:=a5.2.1 != 0
 let a7:=(↑(length a3.2.2.2.2.2.2.2.2.2.1):Int)
 let a8:=oR a5.1 (jA x0)
 let a9:=getD a1.1.2.1 (toNat a1.1.2.2.1) (zj zi)
 let a10:=(a1.1.1,[],[],[],[],[],[],ze.mk [] (0,0,[]) [] [],[],[],ze.mk [61] (0,0,[]) [] [ze.mk [99,111,108] (0,0,[]) a9.1 [],ze.mk [108,105,116] (getD a3.2.2.2.2.2.2.2.2.2.1 (toNat a1.1.2.2.1) (zj zf)) [] []],[])
 let a11:=([115,101,108,101,99,116],a10)
 let a12:=([100,101,108,101,116,101],a10)
 let a13:=bDo a5.1 a11
 let a14:=a13.2.1 != 0
 let a15:=(↑(length a13.2.2.2):Int) != 1
 let a16:=bDo a5.1 a12
 let a17:=(pm a5.1 a11).getD (bF [zh.sl,c5])
 let a18:=(pm a5.1 a12).getD (bF [zh.sl,c5])
 Tr.chk (Gu x0)
 (Tr.chk (wW (jA x0))
  (Tr.br (bif IU (jA x0) != 0 then true else (↑(length (jA x0)):Int)==0) (Tr.chk true (Tr.re (AV.bool uy) [])) (Tr.chk ((↑(length (jA x0)):Int) != 0) (Tr.chk (zF a0 (length (jA x0))) (Tr.chk (B4 a2) (Tr.chk (K9 (jA x0) a4) (Tr.br (bif a6 then true else decide (a1.1.2.2.1 ≥ a7))
  (Tr.chk (bif a6 then p8 a5.1 (jA x0)&&bif a8 then Bi else true else true) (Tr.re (AV.bool (bif a6 then bif a8 then uy else false else false)) [])) (Tr.chk (zF a1.1.2.2.1 (length a1.1.2.1)) (Tr.chk (zF a1.1.2.2.1 (length a3.2.2.2.2.2.2.2.2.2.1)) (Tr.chk (K9 a5.1 a11) (Tr.chk (K9 a5.1 a12)
  (Tr.chk (bif a14 then true else bif a15 then true else zF 0 (length a13.2.2.2)) (Tr.br (bif a14 then true else bif a15 then true else (↑(length (getD a13.2.2.2 (toNat 0) (zj zf.sl))):Int) != a7) (Tr.re (AV.kb false) []) (Tr.to (Y4.h15 (jA x0) a16.1 0 ((oK a2).getD (bF [zp])) a17.2 a18.2)))))))))))))))
def t4w:Y4→Tr (Y4 ⊕ zV)
 | .h15 l0 l14 i16 z0 z1 z2=>
  let a0:=(↑(length z0.1.2.2.2.2.2.2.2.2.2.1):Int)
  let a1:=getD z1.1.2.2 (toNat 0) (zj zf.sl)
  let a2:=getD a1 i16.toNat (zj zf)
  let a3:=getD z0.1.2.2.2.2.2.2.2.2.2.1 i16.toNat (zj zf)
  let a4:=z2.1.1==0
  let a5:=z2.1.2.1==1
  Tr.br (decide (i16 < a0))
  (Tr.chk (zF 0 (length z1.1.2.2)) (Tr.chk (zF i16 (length a1)) (Tr.chk (zF i16 (length z0.1.2.2.2.2.2.2.2.2.2.1)) (Tr.br (!(a2.1==a3.1&&(a2.2.1==a3.2.1&&(a2.2.2==a3.2.2&&true)))) (Tr.re (AV.kb false) []) (Tr.to (Y4.h15 l0 l14 (IntKind.i64.wrap (i16+1)) z0 z1 z2))))))
  (Tr.chk (bif a4 then bif a5 then p8 l14 l0&&bif oR l14 l0 then Bi else true else true else true) (Tr.re (AV.bool (bif a4 then bif a5 then bif oR l14 l0 then uy else false else false else false)) []))
def wa (x0:Sem zh.sl) (x1:Sem zf.sl) (x2:Sem (Sh.int IntKind.u8)):=zT [Sh.bool] t4w 100000000 (i4w x0 x1 x2)
def F4w:=FT [zh.sl,zf.sl,Sh.int IntKind.u8] [Sh.bool] fun x=>wa x.1 x.2.1 x.2.2.1
theorem zbk:FK 4 F4w:=FV.T1 (f:=Tryz.f4) (keep:=zim) (e:=e4w)

end

section
variable {σ:Type}
def Wp (P:σ→Prop) (Q:zV→Prop):Tr (σ ⊕ zV)→Prop
 | .err=>False
 | .chk c t=>c=true∧Wp P Q t
 | .br c t f=>(c=true→Wp P Q t)∧(c=false→Wp P Q f)
 | .ok (.inl s)=>P s
 | .ok (.inr r)=>Q r
theorem Wp.got {P:σ→Prop} {Q:zV→Prop}:∀ {t:Tr (σ ⊕ zV)},Wp P Q t→(∃ s,t.val=some (.inl s)∧P s)∨∃ r,t.val=some (.inr r)∧Q r
 | .err,h=>h.elim
 | .chk c t,h=>by
  obtain ⟨h1,h2⟩:=h
  rw [Tr.val,if_pos h1]
  exact Wp.got h2
 | .br c t f,h=>by
  rw [Tr.val]
  cases c with
  | true=>exact Wp.got (h.1 rfl)
  | false=>exact Wp.got (h.2 rfl)
 | .ok (.inl s),h=>.inl ⟨s,rfl,h⟩
 | .ok (.inr r),h=>.inr ⟨r,rfl,h⟩
variable {t:σ→Tr (σ ⊕ zV)} {i:Tr (σ ⊕ zV)} (I:σ→Prop) (μ:σ→Nat)
theorem Ff {Q:zV→Prop} (ht:∀ s,I s→Wp (fun s'=>I s'∧μ s' < μ s) Q (t s)):∀ (n:Nat) (s:σ),I s→μ s < n→∃ r,bJ t n s=some r∧Q r
 | 0,_,_,h=>absurd h (by omega)
 | n+1,s,hI,h=>by
  rw [bJ]
  rcases (ht s hI).got with ⟨s',h1,h2,h3⟩ | ⟨r,h1,h2⟩
  ·rw [h1]
   exact Ff ht n s' h2 (by omega)
  ·rw [h1]
   exact ⟨r,rfl,h2⟩
def Tf (outs:List Sh) (Q:zx (outs.map some)→Prop) (r:zV):Prop:=∃ y,ae r.2 outs r.1=some y∧Q y
theorem tot {outs:List Sh} {n:Nat} {Q:zx (outs.map some)→Prop} (hi:Wp (fun s=>I s∧μ s < n) (Tf outs Q) i) (ht:∀ s,I s→Wp (fun s'=>I s'∧μ s' < μ s) (Tf outs Q) (t s)):∃ y,zT outs t n i=some y∧Q y:=by
 unfold zT bW
 rcases hi.got with ⟨s,h1,h2,h3⟩ | ⟨r,h1,y,h2,h3⟩
 ·rw [h1]
  obtain ⟨r,h4,y,h5,h6⟩:=Ff I μ ht n s h2 h3
  exact ⟨y,by show (bJ t n s).bind _=_; rw [h4]; exact h5,h6⟩
 ·rw [h1]
  exact ⟨y,h2,h3⟩
theorem OO {a:Sh} {n:Nat} {Q:Sem a→Prop} (hi:Wp (fun s=>I s∧μ s < n) (Tf [a] fun y:zx [some a]=>Q y.1) i) (ht:∀ s,I s→Wp (fun s'=>I s'∧μ s' < μ s) (Tf [a] fun y:zx [some a]=>Q y.1) (t s)):(zT [a] t n i).isSome=true∧Q (o1 (zT [a] t n i)):=by
 obtain ⟨y,h1,h2⟩:=tot (outs:=[a]) (Q:=fun y:zx [some a]=>Q y.1) I μ hi ht
 rw [h1]
 exact ⟨rfl,h2⟩
end
theorem rR {a:Sh} {n:Nat} {i:Tr (Empty ⊕ zV)} {Q:Sem a→Prop} (hi:∀ P:Empty→Prop,Wp P (Tf [a] fun y:zx [some a]=>Q y.1) i):(zT [a] t0 n i).isSome=true∧Q (o1 (zT [a] t0 n i)):=
 OO (fun _=>True) (fun _=>0) (hi _) fun s=>nomatch s
theorem yi {σ:Type} {t:σ→Tr (σ ⊕ zV)} {i:Tr (σ ⊕ zV)} {a:Sh} {n:Nat} (I:σ→Prop) (μ:σ→Nat) (hi:Wp (fun s=>I s∧μ s < n) (Tf [a] fun _=>True) i) (ht:∀ s,I s→Wp (fun s'=>I s'∧μ s' < μ s) (Tf [a] fun _=>True) (t s)):(zT [a] t n i).isSome=true:=(OO (Q:=fun _=>True) I μ hi ht).1
theorem sL {a:Sh} {n:Nat} {i:Tr (Empty ⊕ zV)} (hi:∀ P:Empty→Prop,Wp P (Tf [a] fun _=>True) i):(zT [a] t0 n i).isSome=true:=(rR (Q:=fun _=>True) hi).1

theorem eX {i:Int} {k:Nat} (h0:0≤i) (h:i < (k:Int)):zF i k=true:=by unfold zF; simp [h0,h]
theorem xN {i:Int} (h0:LE.le (α:=Int) 0 i) (h:i < 9223372036854775807):IntKind.i64.wrap (i+1)=i+1:=by
 rw [ul]; omega
theorem OW {i:Int} (h0:LE.le (α:=Int) 1 i) (h:i < 9223372036854775807):IntKind.i64.wrap (i - 1)=i - 1:=by
 rw [ul]; omega
theorem AZ {i:Int} {n:Nat} (h0:LE.le (α:=Int) 0 i) (h:decide (LT.lt (α:=Int) i (n:Int))=true) (hn:n≤1000000):zF i n=true∧IntKind.i64.wrap (i+1)=i+1∧LT.lt (α:=Int) i (n:Int):=by
 have h:LT.lt (α:=Int) i (n:Int):=dH h
 exact ⟨by unfold zF; rw [ba h0,ba h]; rfl,xN h0 (by omega),h⟩

def VS (v:Sem zf):Prop:=v.2.2.length≤1000000

theorem tr {v:Sem zf} (h:VS v):mB v=true:=by
 obtain ⟨k,n,s⟩:=v
 have h:s.length≤1000000:=h
 refine yi (a:=Sh.bool) (fun x:tV=>match x with | .h2 i z=>LE.le (α:=Int) 0 i∧z.1.2.2=s) (fun x=>match x with | .h2 i z=>1000001 - i.toNat) ⟨⟨Int.le_refl _,rfl⟩,by simp⟩ ?_
 rintro ⟨i,z⟩ ⟨h0,hz⟩
 obtain ⟨⟨k',n',s'⟩,u⟩:=z
 have hz:s'=s:=hz
 subst hz
 refine ⟨fun hc=>?_,fun hc=>?_⟩
 ·obtain ⟨h1,h2,h3⟩:=AZ h0 hc h
  have h3:LT.lt (α:=Int) i s'.length:=h3
  simp only [Wp,h1,h2,nR]
  refine ⟨by cases decide (LT.lt (α:=Int) _ 32) <;> rfl,fun _=>⟨_,rfl,trivial⟩,fun _=>⟨⟨by omega,trivial⟩,by omega⟩⟩
 ·repeat' first | exact ⟨_,rfl,trivial⟩ | intro _ | constructor
theorem pY {v:Sem zf} (h:VS v):pX v=true∧VS (ey v):=rR (a:=zf) (Q:=VS) fun _=>by
 simp only [TK,Wp,tr h,true_and]
 exact ⟨fun _=>⟨_,rfl,h⟩,fun _=>⟨_,rfl,aE _⟩⟩
theorem AF (b:Bool):kv b=true∧VS (aM b):=rR (a:=zf) (Q:=VS) fun _=>⟨fun _=>⟨_,rfl,aE _⟩,fun _=>⟨_,rfl,aE _⟩⟩
@[simp] theorem nk (b:Bool):kv b=true:=(AF b).1
theorem dr (b:Bool):VS ((aM b).1,(aM b).2.1,(aM b).2.2):=(AF b).2
@[simp] theorem Cc (v:Sem zf) (b:Bool):lG v b=true:=sL (a:=Sh.bool) fun _=>⟨nk b,_,rfl,trivial⟩
theorem Ix (a b:Sem zf):NW a b=true∧VS (Up a b):=rR (a:=zf) (Q:=VS) fun _=>by
 simp only [TN,Wp,Cc,nR,Bool.cond_self,true_and]
 exact ⟨fun _=>⟨_,rfl,dr _⟩,fun _=>⟨fun _=>⟨_,rfl,dr _⟩,fun _=>⟨_,rfl,aE _⟩⟩⟩
theorem N1 (a b:Sem zf):Ur a b=true∧VS (zfT a b):=rR (a:=zf) (Q:=VS) fun _=>by
 simp only [TO,Wp,Cc,nR,Bool.cond_self,true_and]
 exact ⟨fun _=>⟨_,rfl,dr _⟩,fun _=>⟨fun _=>⟨_,rfl,dr _⟩,fun _=>⟨_,rfl,aE _⟩⟩⟩
theorem IB (a:Sem zf):NZ a=true∧VS (Uq a):=rR (a:=zf) (Q:=VS) fun _=>by
 simp only [TM,Wp,Cc,true_and]
 exact ⟨fun _=>⟨_,rfl,dr _⟩,fun _=>⟨fun _=>⟨_,rfl,dr _⟩,fun _=>⟨_,rfl,aE _⟩⟩⟩
section
variable {a b:Sem zf} (ha:VS a) (hb:VS b)
include ha hb
theorem Kc:Ey a b=true:=sL (a:=zg) fun _=>by
 simp only [zdU,Wp,(pY ha).1,(pY hb).1,true_and]
 exact ⟨fun _=>⟨_,rfl,trivial⟩,fun _=>⟨fun _=>⟨_,rfl,trivial⟩,fun _=>⟨_,rfl,trivial⟩⟩⟩
theorem nl:mC a b=true:=sL (a:=Sh.bool) fun _=>by
 simp only [TU,Wp,(pY ha).1,(pY hb).1,true_and]
 exact ⟨_,rfl,trivial⟩
theorem AD:Ev a b=true∧VS (Iy a b):=rR (a:=zf) (Q:=VS) fun _=>by
 simp only [TP,Wp,nl ha hb,nk,true_and]
 exact ⟨fun _=>⟨_,rfl,aE _⟩,fun _=>⟨_,rfl,dr _⟩⟩
theorem Ew:Iz a b=true∧VS (NY a b):=rR (a:=zf) (Q:=VS) fun _=>by
 simp only [TQ,Wp,nl ha hb,nk,true_and]
 exact ⟨fun _=>⟨_,rfl,aE _⟩,fun _=>⟨fun _=>⟨_,rfl,dr _⟩,fun _=>⟨_,rfl,dr _⟩⟩⟩
theorem EA:IC a b=true∧VS (N2 a b):=rR (a:=zf) (Q:=VS) fun _=>by
 simp only [TR,Wp,nl ha hb,true_and]
 exact ⟨fun _=>⟨_,rfl,aE _⟩,fun _=>⟨fun _=>⟨_,rfl,aE _⟩,fun _=>⟨_,rfl,aE _⟩⟩⟩
theorem AE:Ex a b=true∧VS (IA a b):=rR (a:=zf) (Q:=VS) fun _=>by
 simp only [TT,Wp,nl ha hb,true_and]
 exact ⟨fun _=>⟨_,rfl,aE _⟩,fun _=>⟨fun _=>⟨_,rfl,aE _⟩,fun _=>⟨_,rfl,aE _⟩⟩⟩
end

mutual
def o8:ze→Prop
 | .mk _ v s l=>VS v∧s.length≤1000000∧lU l
def lU:List ze→Prop
 | []=>True
 | e::r=>o8 e∧lU r
end
theorem OU:o8 (zj Sh.expr):=by
 show o8 (.mk [] (0,0,[]) [] [])
 rw [o8,lU]
 exact ⟨aE _,aE _,trivial⟩
theorem lU.at:∀ {l:List ze},lU l→∀ i,o8 (l.getD i (zj Sh.expr))
 | [],_,_=>OU
 | x::r,h,i=>by
  rw [lU] at h
  cases i with
  | zero=>exact h.1
  | succ i=>exact h.2.at i
theorem o8.s {e:ze} (h:o8 e):(ze.s e).length≤1000000:=by cases e; rw [o8] at h; exact h.2.1
theorem o8.v {e:ze} (h:o8 e):VS (ze.v e):=by cases e; rw [o8] at h; exact h.1
theorem o8.l {e:ze} (h:o8 e):lU (ze.l e):=by cases e; rw [o8] at h; exact h.2.2

@[simp] theorem GU (x:Int):kw x=true:=sL (a:=Sh.bool) fun _=>⟨_,rfl,trivial⟩
@[simp] theorem Za (x:Int):fV x=true:=sL (a:=Sh.bool) fun _=>⟨_,rfl,trivial⟩
@[simp] theorem Od (x:Int):tE x=true:=sL (a:=Sh.bool) fun _=>by
 refine ⟨?_,_,rfl,trivial⟩
 simp
theorem EJ {s:zl} (h:s.length≤1000000):tD s=true:=by
 refine yi (a:=Sh.bool) (fun x:t7=>match x with | .h2 t i=>LE.le (α:=Int) 0 i∧t=s) (fun x=>match x with | .h2 t i=>1000001 - i.toNat) ⟨⟨Int.le_refl _,rfl⟩,by simp⟩ ?_
 rintro ⟨t,i⟩ ⟨h0,hz⟩
 subst hz
 refine ⟨fun hc=>?_,fun hc=>?_⟩
 ·obtain ⟨h1,h2,h3⟩:=AZ h0 hc h
  simp only [Wp,h1,h2,Od,true_and]
  exact ⟨fun _=>⟨_,rfl,trivial⟩,fun _=>⟨⟨by omega,trivial⟩,by omega⟩⟩
 ·refine ⟨?_,_,rfl,trivial⟩
  simp only [GU,Bool.and_true]
  cases h1:decide (LE.le (α:=Int) 1 (t.length:Int)) with
  | false=>rfl
  | true=>
   have h1:LE.le (α:=Int) 1 (t.length:Int):=dH h1
   rw [eX (Int.le_refl 0) (by omega)]
   simp
theorem IW (s:zl):Cp s=true:=by
 refine yi (a:=Sh.bool) (fun x:t8=>match x with | .h3 t l i=>LE.le (α:=Int) 0 i∧l.length≤1000000) (fun x=>match x with | .h3 t l i=>1000001 - i.toNat) ⟨⟨Int.le_refl _,by simp⟩,by simp⟩ ?_
 rintro ⟨t,l,i⟩ ⟨h0,h⟩
 refine ⟨fun hc=>?_,fun hc=>⟨_,rfl,trivial⟩⟩
 obtain ⟨h1,h2,h3⟩:=AZ h0 hc h
 simp only [Wp,h1,h2,true_and]
 exact ⟨fun _=>⟨_,rfl,trivial⟩,fun _=>⟨⟨by omega,h⟩,by omega⟩⟩
theorem w5 {s:zl} (h:s.length≤1000000):cv s=true:=sL (a:=Sh.bool) fun _=>by
 refine ⟨?_,_,rfl,trivial⟩
 simp only [EJ h,IW,nR,Bool.cond_self]

def GE:Nat→ze→Prop
 | 0,_=>False
 | d+1,.mk op _ _ l=>((op==[108,105,116])=false→(op==[99,111,108])=false→0 < l.length∧((op==[110,111,116])=false→(op==[110,117,108,108])=false→1 < l.length))∧l.length≤2∧∀ i,i < l.length→GE d (l.getD i (zj Sh.expr))
theorem bZ {a b:Bool} (h:(bif a then b else false)=true):a=true∧b=true:=by
 cases a <;> cases b <;> simp_all

theorem wN:∀ (N d:Nat) (e:ze),o8 e→d < N→N≤1000→∃ b,dW N e (d:Int)=some (b,())∧(b=true→GE d e)
 | 0,_,_,_,h,_=>absurd h (by omega)
 | N+1,0,e,_,_,_=>⟨false,rfl,fun h=>by cases h⟩
 | N + 1,d+1,.mk op v s l,hw,h1,h2=>by
  rw [o8] at hw
  obtain ⟨hv,hs,hl⟩:=hw
  have hd:((((d+1:Nat):Int))==0)=false:=by simp; omega
  have hd1:IntKind.i64.wrap (((d+1:Nat):Int) - 1)=(d:Int):=by rw [ul]; omega
  obtain ⟨b0,k0,g0⟩:=wN N d _ (hl.at 0) (by omega) (by omega)
  obtain ⟨b1,k1,g1⟩:=wN N d _ (hl.at 1) (by omega) (by omega)
  have hV:∀ x,jD (some (x,()))=x:=fun _=>rfl
  have h0:((l.length:Int)==0)=true→l.length=0:=fun h=>Int.ofNat.inj (cN h)
  have h1:((l.length:Int)==1)=true→l.length=1:=fun h=>Int.ofNat.inj (cN h)
  have h2:((l.length:Int)==2)=true→l.length=2:=fun h=>Int.ofNat.inj (cN h)
  obtain ⟨⟨b,u⟩,r1,r2⟩:=tot (outs:=[Sh.bool]) (t:=t0) (n:=100000000) (i:=D9 (fun x0 x1=>jD (dW N x0 x1)) (fun x0 x1=>(dW N x0 x1).isSome) (.mk op v s l) ((d+1:Nat):Int)) (Q:=fun y=>y.1=true→GE (d+1) (.mk op v s l)) (fun _=>True) (fun _=>0) (by
   simp only [D9,Wp,zn,ze.op,ze.v,ze.s,ze.l,hd,hd1,Int.toNat_zero,show toNat 1=1 from rfl,k0,k1,hV,eh,tr hv,EJ hs,IW,Bool.and_true,Bool.cond_self,nR,true_and]
   refine ⟨fun h=>(by cases h),fun _=>⟨fun c=>⟨_,rfl,fun h=>?_⟩,fun c=>⟨fun c2=>⟨_,rfl,fun h=>?_⟩,fun c2=>⟨fun c3=>⟨?_,_,rfl,fun h=>?_⟩,fun c3=>⟨sL (a:=Sh.bool) fun _=>⟨_,rfl,trivial⟩,fun c4=>⟨?_,_,rfl,fun h=>?_⟩,fun c4=>⟨_,rfl,fun h=>(by cases h)⟩⟩⟩⟩⟩⟩
   ·have:=h0 (bZ (bZ h).2).2
    rw [GE,this]
    exact ⟨fun k=>(by rw [c] at k; cases k),by omega,fun i hi=>absurd hi (by omega)⟩
   ·have:=h0 (bZ (bZ (bZ h).2).2).2
    rw [GE,this]
    exact ⟨fun _ k=>(by rw [c2] at k; cases k),by omega,fun i hi=>absurd hi (by omega)⟩
   ·cases e:((l.length:Int)==1) with
    | false=>simp
    | true=>rw [h1 e]; simp [zF]
   ·have hh:=(bZ (bZ h).2).2
    have:=h1 (bZ hh).1
    have hg:=g0 (bZ hh).2
    rw [GE,this]
    refine ⟨fun _ _=>⟨by omega,fun k k'=>?_⟩,by omega,fun i hi=>?_⟩
    ·rw [k,k'] at c3; cases c3
    ·obtain rfl:i=0:=by omega
     exact hg
   ·cases e:((l.length:Int)==2) with
    | false=>simp
    | true=>rw [h2 e]; simp [zF]
   ·have hh:=(bZ (bZ h).2).2
    have:=h2 (bZ hh).1
    have hg:=bZ (bZ hh).2
    rw [GE,this]
    refine ⟨fun _ _=>⟨by omega,fun _ _=>by omega⟩,by omega,fun i hi=>?_⟩
    obtain rfl | rfl:i=0∨i=1:=by omega
    ·exact g0 hg.1
    ·exact g1 hg.2) (fun s=>nomatch s)
  exact ⟨b,r1,r2⟩

theorem AH:∀ (N d:Nat) (e:ze),GE d e→d≤N→(cX N e).isSome=true
 | _,0,_,h,_=>h.elim
 | 0,_+1,_,_,h=>absurd h (by omega)
 | N+1,d+1,.mk op v s l,hg,hd=>by
  rw [GE] at hg
  obtain ⟨_,hl,hk⟩:=hg
  refine yi (a:=zg) (t:=Jb (fun x0=>jf (cX N x0)) fun x0=>(cX N x0).isSome) (fun x:o9=>match x with | .h3 _ i z=>LE.le (α:=Int) 0 i∧z.1=.mk op v s l) (fun x=>match x with | .h3 _ i z=>1000001 - i.toNat) ⟨⟨Int.le_refl _,rfl⟩,by simp⟩ ?_
  rintro ⟨n,i,e,u⟩ ⟨h0,hz⟩
  have hz:e=_:=hz
  subst hz
  refine ⟨fun hc=>?_,fun hc=>⟨_,rfl,trivial⟩⟩
  obtain ⟨h1,h2,h3⟩:=AZ h0 hc (by show l.length≤_; omega)
  have h3:LT.lt (α:=Int) i l.length:=h3
  have hi:i.toNat < l.length:=by omega
  refine ⟨h1,?_⟩
  simp only [Wp,h2,zn,ze.l,AH N d _ (hk _ hi) (by omega),true_and]
  exact ⟨⟨by omega,trivial⟩,by omega⟩

theorem Rl {e:ze} (h:o8 e):wK e=true∧(EB e=true→GE 12 e):=rR (a:=Sh.bool) (Q:=fun b=>b=true→GE 12 e) fun _=>by
 obtain ⟨b,k,g⟩:=wN 16 12 e h (by omega) (by omega)
 have k1:Ci e 12=true:=by
  show (dW 16 e ((12:Nat):Int)).isSome=true
  rw [k]; rfl
 have k2:GI e 12=b:=by
  show jD (dW 16 e ((12:Nat):Int))=b
  rw [k]; rfl
 simp only [zdX,Wp,zn,k1,k2,nR]
 refine ⟨?_,_,rfl,fun h=>g (bZ h).1⟩
 cases b with
 | false=>rfl
 | true=>exact AH 16 12 e (g rfl) (by omega)

theorem Kf {l:List (Sem zi)} (h:l.length≤1000000) (s:zl):p0 l s=true:=by
 refine yi (a:=zg) (fun x:Ba=>match x with | .h2 t _ i=>LE.le (α:=Int) 0 i∧t=l) (fun x=>match x with | .h2 t _ i=>1000001 - i.toNat) ⟨⟨Int.le_refl _,rfl⟩,by simp⟩ ?_
 rintro ⟨t,s,i⟩ ⟨h0,hz⟩
 subst hz
 refine ⟨fun hc=>?_,fun hc=>⟨_,rfl,trivial⟩⟩
 obtain ⟨h1,h2,h3⟩:=AZ h0 hc h
 simp only [Wp,h1,h2,true_and]
 exact ⟨fun _=>⟨_,rfl,trivial⟩,fun _=>⟨⟨by omega,trivial⟩,by omega⟩⟩

theorem wM {cs:List (Sem zi)} (h:cs.length≤1000000):∀ (N d:Nat) (e:ze),GE d e→d≤N→(cW N e cs).isSome=true
 | _,0,_,h,_=>h.elim
 | 0,_+1,_,_,h=>absurd h (by omega)
 | N+1,d+1,.mk op v s l,hg,hd=>by
  rw [GE] at hg
  obtain ⟨hp,hl,hk⟩:=hg
  suffices h:∃ y,zT [zg,zg] (RE (fun x0 x1=>iE (cW N x0 x1)) fun x0 x1=>(cW N x0 x1).isSome) 100000000 (QX (fun x0 x1=>iE (cW N x0 x1)) (fun x0 x1=>(cW N x0 x1).isSome) (.mk op v s l) cs)=some y∧True by
   obtain ⟨y,h,_⟩:=h
   show (zT _ _ _ _).isSome=true
   rw [h]; rfl
  refine tot (outs:=[zg,zg]) (fun x:Fu=>match x with | .h5 t i _=>LE.le (α:=Int) 0 i∧t=cs) (fun x=>match x with | .h5 t i _=>1000001 - i.toNat) ?_ ?_
  ·refine ⟨fun _=>⟨_,rfl,trivial⟩,fun c1=>⟨fun _=>⟨⟨Int.le_refl _,rfl⟩,by simp⟩,fun c2=>?_⟩⟩
   obtain ⟨h0,_⟩:=hp c1 c2
   refine ⟨eX (Int.le_refl 0) (by show LT.lt (α:=Int) 0 (l.length:Int); omega),?_⟩
   simp only [Wp,zn]
   refine ⟨wM h N d _ (hk 0 h0) (by omega),fun _=>⟨_,rfl,trivial⟩,fun _=>⟨fun c=>?_,fun c=>?_⟩⟩
   ·have h2:l.length=2:=Int.ofNat.inj (cN c)
    refine ⟨eX (by omega) (by show LT.lt (α:=Int) 1 (l.length:Int); omega),wM h N d _ (hk 1 (by omega)) (by omega),?_⟩
    repeat' first | exact ⟨_,rfl,trivial⟩ | intro _ | constructor
   ·repeat' first | exact ⟨_,rfl,trivial⟩ | intro _ | constructor
  ·rintro ⟨t,i,z⟩ ⟨h0,hz⟩
   subst hz
   refine ⟨fun hc=>?_,fun hc=>⟨_,rfl,trivial⟩⟩
   obtain ⟨h1,h2,h3⟩:=AZ h0 hc h
   simp only [Wp,h1,h2,true_and]
   exact ⟨fun _=>⟨_,rfl,trivial⟩,fun _=>⟨⟨by omega,trivial⟩,by omega⟩⟩

theorem wJ {cs:List (Sem zi)} {vs:List (Sem zf)} (h:cs.length≤1000000) (hv:∀ v∈vs,VS v):∀ (N d:Nat) (e:ze),o8 e→GE d e→d≤N→∃ v,cV N e cs vs=some (v,())∧VS v
 | _,0,_,_,h,_=>h.elim
 | 0,_+1,_,_,_,h=>absurd h (by omega)
 | N+1,d+1,.mk op v s l,hw,hg,hd=>by
  rw [o8] at hw
  obtain ⟨w1,w2,w3⟩:=hw
  rw [GE] at hg
  obtain ⟨hp,hl,hk⟩:=hg
  have hV:∀ x,iC (some (x,()))=x:=fun _=>rfl
  have key:∃ y:zx [some zf],zT [zf] (I9 (fun x0 x1 x2=>iC (cV N x0 x1 x2)) fun x0 x1 x2=>(cV N x0 x1 x2).isSome) 100000000 (HU (fun x0 x1 x2=>iC (cV N x0 x1 x2)) (fun x0 x1 x2=>(cV N x0 x1 x2).isSome) (.mk op v s l) cs vs)=some y∧VS y.1:=by
   refine tot (outs:=[zf]) (fun x:tW=>match x with | .h6 t u i _ _=>LE.le (α:=Int) 0 i∧t=cs∧u=vs) (fun x=>match x with | .h6 t u i _ _=>1000001 - i.toNat) ?_ ?_
   ·refine ⟨fun _=>⟨_,rfl,w1⟩,fun c1=>⟨fun _=>⟨⟨Int.le_refl _,rfl,rfl⟩,by simp⟩,fun c2=>?_⟩⟩
    obtain ⟨h0,hp⟩:=hp c1 c2
    refine ⟨eX (Int.le_refl 0) (by show LT.lt (α:=Int) 0 (l.length:Int); omega),?_⟩
    obtain ⟨a,ka,ga⟩:=wJ h hv N d _ (w3.at 0) (hk 0 h0) (by omega)
    simp only [Wp,zn,ze.l,ze.op,Int.toNat_zero,ka,hV,eh,(IB a).1,tr ga,nk,true_and]
    refine ⟨fun _=>⟨_,rfl,(IB a).2⟩,fun c3=>⟨fun _=>⟨fun _=>⟨_,rfl,dr _⟩,fun _=>⟨_,rfl,dr _⟩⟩,fun c4=>?_⟩⟩
    have h1:=hp c3 c4
    obtain ⟨b,kb,gb⟩:=wJ h hv N d _ (w3.at 1) (hk 1 h1) (by omega)
    simp only [show toNat 1=1 from rfl,kb,hV,eh,(Ix a b).1,(N1 a b).1,(AD ga gb).1,(Ew ga gb).1,(EA ga gb).1,(AE ga gb).1,true_and]
    exact ⟨eX (by omega) (by omega),fun _=>⟨_,rfl,(Ix a b).2⟩,fun _=>⟨fun _=>⟨_,rfl,(N1 a b).2⟩,fun _=>⟨fun _=>⟨_,rfl,(AD ga gb).2⟩,fun _=>⟨fun _=>⟨_,rfl,(Ew ga gb).2⟩,fun _=>⟨fun _=>⟨_,rfl,(EA ga gb).2⟩,fun _=>⟨_,rfl,(AE ga gb).2⟩⟩⟩⟩⟩⟩
   ·rintro ⟨t,u,i,z,z1⟩ ⟨h0,hz,hz1⟩
    subst hz hz1
    refine ⟨fun hc=>?_,fun hc=>⟨_,rfl,aE _⟩⟩
    obtain ⟨h1,h2,h3⟩:=AZ h0 hc h
    simp only [Wp,h1,h2,true_and]
    refine ⟨fun _=>⟨fun c=>?_,fun _=>⟨_,rfl,aE _⟩⟩,fun _=>⟨⟨by omega,trivial⟩,by omega⟩⟩
    have c:LT.lt (α:=Int) i u.length:=dH c
    exact ⟨eX h0 c,_,rfl,hv _ (bD (by omega))⟩
  obtain ⟨⟨y,u⟩,h1,h2⟩:=key
  exact ⟨y,h1,h2⟩

theorem N4 {e:ze}:fU e (.mk [] (0,0,[]) [] [])=true:=by
 refine yi (a:=Sh.bool) (t:=CT (fun x0 x1=>eO (bf 15 x0 x1)) fun x0 x1=>(bf 15 x0 x1).isSome) (fun x:Bd=>match x with | .h4 i z _=>i=0∧(ze.l z.1).length=0) (fun _=>0) ⟨fun _=>⟨_,rfl,trivial⟩,fun c=>⟨⟨rfl,?_⟩,by simp⟩⟩ ?_
 ·revert c
  show (bif !ze.op e==[] then true else bif !((ze.v e).1==0&&((ze.v e).2.1==0&&((ze.v e).2.2==[]&&true))) then true else bif !ze.s e==[] then true else ((ze.l e).length:Int) != 0)=false→_
  cases !ze.op e==[]
  ·cases !((ze.v e).1==0&&((ze.v e).2.1==0&&((ze.v e).2.2==[]&&true)))
   ·cases !ze.s e==[]
    ·exact fun c=>by simpa using c
    ·exact fun c=>by cases c
   ·exact fun c=>by cases c
  ·exact fun c=>by cases c
 ·rintro ⟨i,z,z1⟩ ⟨h0,hz⟩
  subst h0
  refine ⟨fun hc=>?_,fun hc=>⟨_,rfl,trivial⟩⟩
  have hc:LT.lt (α:=Int) 0 (ze.l z.1).length:=dH hc
  omega

theorem Kh {e:ze} {cs:List (Sem zi)} (h:o8 e) (hc:cs.length≤1000000):EG e cs=true∧(IP e cs=0→(ze.op e==[])=false→GE 12 e):=rR (a:=zg) (Q:=fun b=>b=0→(ze.op e==[])=false→GE 12 e) fun _=>by
 obtain ⟨m1,m2⟩:=Rl h
 simp only [TJ,Wp,zn,N4,m1,true_and]
 refine ⟨fun c=>⟨fun _=>⟨_,rfl,fun _ k=>?_⟩,fun _=>⟨_,rfl,fun _ k=>?_⟩⟩,fun c=>⟨fun _=>⟨_,rfl,fun k=>(by cases k)⟩,fun c2=>?_⟩⟩
 ·rw [c] at k; cases k
 ·rw [c] at k; cases k
 ·have g:=m2 (by simpa using c2)
  refine ⟨wM hc 16 12 e g (by omega),?_⟩
  repeat' first | exact ⟨_,rfl,fun _ _=>g⟩ | intro _ | constructor

theorem eI {a b:Bool} (h:(bif a then true else b)=false):a=false∧b=false:=by
 cases a <;> cases b <;> simp_all
theorem uF {a b:Bool} (h:a=false→b=true):(bif a then true else b)=true:=by
 cases a <;> simp_all
theorem Lc {a b:Bool} (h:a=true→b=true):(bif a then b else true)=true:=by
 cases a <;> simp_all
theorem BX {c:Int} {n:Nat} (h:decide (LT.lt (α:=Int) c 0)=false) (h':decide (GE.ge (α:=Int) c (n:Int))=false):zF c n=true:=by
 have h:=of_decide_eq_false h
 have h':=of_decide_eq_false h'
 exact eX (by omega) (by omega)
theorem Gf {c:Int} {n:Nat} (h:zF c n=true):LE.le (α:=Int) 0 c∧LT.lt (α:=Int) c n:=by
 unfold zF at h
 simpa using h

structure Tg (t:Sem zw):Prop where
 name:t.1.length≤1000000
 cnames:∀ c∈t.2.1,length c.1≤1000000
 cols:t.2.1.length≤1000
 uq:t.2.2.2.1.length≤1000
 rf:t.2.2.2.2.1.length≤1000
 rnames:∀ f∈t.2.2.2.2.1,length f.2≤1000000
 chk:o8 t.2.2.2.2.2
structure WfR (x:Sem zh):Prop where
 tab:Tg x.1
 rows:x.2.length≤1000
 vals:∀ r∈x.2,∀ v∈(r:List (Sem zf)),VS v
structure De (t:Sem zw):Prop where
 key:zF t.2.2.1 t.2.1.length=true
 uq:∀ u∈t.2.2.2.1,zF u t.2.1.length=true
 rf:∀ f∈t.2.2.2.2.1,zF f.1 t.2.1.length=true
 chk:(ze.op t.2.2.2.2.2==[])=false→GE 12 t.2.2.2.2.2
def oo {α:Type} (Q:α→Prop) (d:α) (l:List α) (i:Int):Prop:=∀ j,j < l.length→LT.lt (α:=Int) j i→Q (l.getD j d)
theorem oo.zero {α:Type} {Q:α→Prop} {d:α} {l:List α}:oo Q d l 0:=fun j _ h=>absurd h (by omega)
theorem oo.next {α:Type} {Q:α→Prop} {d:α} {l:List α} {i:Int} (h:oo Q d l i) (h0:LE.le (α:=Int) 0 i) (hq:Q (l.getD i.toNat d)):oo Q d l (i+1):=fun j hj hi=>by
 by_cases e:(j:Int)=i
 ·subst e; exact hq
 ·exact h j hj (by omega)
theorem oo.all {α:Type} {Q:α→Prop} {d:α} {l:List α} {i:Int} (h:oo Q d l i) (hi:decide (LT.lt (α:=Int) i (l.length:Int))=false):∀ x∈l,Q x:=
 (bR (d:=d)).1 fun j hj=>h j hj (by have:=of_decide_eq_false hi; omega)

theorem tw {t:Sem zw} (h:Tg t):wO t=true∧(EE t=true→De t):=by
 have hc:=h.cols
 have hu:=h.uq
 have hf:=h.rf
 refine OO (a:=Sh.bool) (Q:=fun b=>b=true→De t) (fun x:ug=>match x with
  | .h5 n i z=>LE.le (α:=Int) 0 i∧LE.le (α:=Int) i t.2.1.length∧n=t.2.1.length∧z.1=t∧zF t.2.2.1 t.2.1.length=true
  | .h11 n i z=>LE.le (α:=Int) 0 i∧LE.le (α:=Int) i t.2.2.2.1.length∧n=t.2.1.length∧z.1=t∧zF t.2.2.1 t.2.1.length=true∧oo (fun u:Int=>zF u t.2.1.length=true) (zj zg) t.2.2.2.1 i
  | .h16 n i z=>LE.le (α:=Int) 0 i∧n=t.2.1.length∧z.1=t∧zF t.2.2.1 t.2.1.length=true∧(∀ u∈t.2.2.2.1,zF u t.2.1.length=true)∧oo (fun u:Sem zq=>zF u.1 t.2.1.length=true) (zj zq) t.2.2.2.2.1 i)
  (fun x=>match x with | .h5 _ i _=>5001 - i.toNat | .h11 _ i _=>3001 - i.toNat | .h16 _ i _=>1001 - i.toNat) ?_ ?_
 ·refine ⟨?_,fun _=>⟨_,rfl,fun h=>(by cases h)⟩,fun c=>⟨⟨Int.le_refl _,by omega,rfl,rfl,?_⟩,by simp⟩⟩
  ·rw [w5 h.name,nR]
   exact uF fun _=>uF fun _=>uF fun _=>uF fun k=>uF fun k'=>BX k k'
  ·have c:=(eI (eI (eI c).2).2).2
   exact BX (eI c).1 (eI (eI c).2).1
 ·rintro (⟨n,i,⟨t',u⟩⟩ | ⟨n,i,⟨t',u⟩⟩ | ⟨n,i,⟨t',u⟩⟩) hI
  ·obtain ⟨h0,hb,rfl,hz,hk⟩:=hI
   have hz:t'=t:=hz
   subst hz
   refine ⟨fun hc'=>?_,fun _=>⟨⟨Int.le_refl _,by omega,rfl,rfl,hk,oo.zero⟩,by show 3001 - toNat 0 < 5001 - i.toNat; omega⟩⟩
   obtain ⟨h1,h2,h3⟩:=AZ (n:=t'.2.1.length) h0 hc' (by omega)
   refine ⟨h1,?_,fun _=>⟨_,rfl,fun h=>(by cases h)⟩,fun _=>?_⟩
   ·show (cv (t'.2.1.getD i.toNat (zj zi)).1&&bif _ then true else bif _ then true else bif _ then true else p0 t'.2.1 _)=true
    rw [w5 (h.cnames _ (bD (by omega))),Kf (by omega)]
    simp
   ·rw [h2]
    exact ⟨⟨by omega,by omega,rfl,rfl,hk⟩,by show 5001 - toNat (i+1) < 5001 - i.toNat; omega⟩
  ·obtain ⟨h0,hb,rfl,hz,hk,hp⟩:=hI
   have hz:t'=t:=hz
   subst hz
   refine ⟨fun hc'=>?_,fun c=>⟨⟨Int.le_refl _,rfl,rfl,hk,hp.all c,oo.zero⟩,by show 1001 - toNat 0 < 3001 - i.toNat; omega⟩⟩
   obtain ⟨h1,h2,h3⟩:=AZ (n:=t'.2.2.2.1.length) h0 hc' (by omega)
   refine ⟨?_,fun _=>⟨_,rfl,fun h=>(by cases h)⟩,fun c=>?_⟩
   ·show (zF i t'.2.2.2.1.length&&bif _ then true else zF i t'.2.2.2.1.length)=true
    rw [h1]; simp
   ·rw [h2]
    exact ⟨⟨by omega,by omega,rfl,rfl,hk,hp.next h0 (BX (eI c).1 (eI c).2)⟩,by show 3001 - toNat (i+1) < 3001 - i.toNat; omega⟩
  ·obtain ⟨h0,rfl,hz,hk,hq,hp⟩:=hI
   have hz:t'=t:=hz
   subst hz
   refine ⟨fun hc'=>?_,fun c=>?_⟩
   ·obtain ⟨h1,h2,h3⟩:=AZ (n:=t'.2.2.2.2.1.length) h0 hc' (by omega)
    refine ⟨?_,fun _=>⟨_,rfl,fun h=>(by cases h)⟩,fun c=>?_⟩
    ·show (zF i t'.2.2.2.2.1.length&&bif _ then true else zF i t'.2.2.2.2.1.length&&bif _ then true else zF i t'.2.2.2.2.1.length&&cv (t'.2.2.2.2.1.getD i.toNat (zj zq)).2)=true
     rw [h1,w5 (h.rnames _ (bD (by omega)))]; simp
    ·rw [h2]
     exact ⟨⟨by omega,rfl,rfl,hk,hq,hp.next h0 (BX (eI c).1 (eI (eI c).2).1)⟩,by show 1001 - toNat (i+1) < 1001 - i.toNat; omega⟩
   ·simp only [Wp,zn]
    obtain ⟨k1,k2⟩:=Kh (cs:=t'.2.1) h.chk (by omega)
    exact ⟨k1,_,rfl,fun e=>⟨hk,hq,hp.all c,k2 (cN e)⟩⟩

theorem N9 {t:Sem zw} {r:List (Sem zf)} (h:Tg t) (hv:∀ v∈r,VS v):IM t r=true∧(GJ t r=0→De t∧r.length=t.2.1.length):=by
 have hc:=h.cols
 obtain ⟨m1,m2⟩:=tw h
 refine OO (a:=zg) (Q:=fun b=>b=0→De t∧r.length=t.2.1.length) (fun x:Bb=>match x with
  | .h4 l i z=>LE.le (α:=Int) 0 i∧LE.le (α:=Int) i r.length∧l=r∧z.1=t∧De t∧r.length=t.2.1.length
  | .h9 l i z=>LE.le (α:=Int) 0 i∧l=r∧z.1=t∧De t∧r.length=t.2.1.length)
  (fun x=>match x with | .h4 _ i _=>3001 - i.toNat | .h9 _ i _=>1001 - i.toNat) ?_ ?_
 ·simp only [zdT,Wp,zn,Prod.eta,m1,true_and]
  refine ⟨fun _=>⟨_,rfl,fun h=>(by cases h)⟩,fun c=>⟨⟨Int.le_refl _,by omega,m2 ?_,?_⟩,by simp⟩⟩
  ·simpa using (eI c).1
  ·have:=(eI c).2
   simp at this
   omega
 ·rintro (⟨l,i,⟨t',u⟩⟩ | ⟨l,i,⟨t',u⟩⟩) hI
  ·obtain ⟨h0,hb,rfl,hz,hk,hl⟩:=hI
   have hz:t'=t:=hz
   subst hz
   refine ⟨fun hc'=>?_,fun _=>⟨⟨Int.le_refl _,rfl,rfl,hk,hl⟩,by show 1001 - toNat 0 < 3001 - i.toNat; omega⟩⟩
   obtain ⟨h1,h2,h3⟩:=AZ h0 hc' (by omega)
   refine ⟨h1,tr (hv _ (bD (by omega))),fun _=>⟨_,rfl,fun h=>(by cases h)⟩,fun _=>?_⟩
   rw [h2]
   exact ⟨⟨by omega,by omega,rfl,rfl,hk,hl⟩,by show 3001 - toNat (i+1) < 3001 - i.toNat; omega⟩
  ·obtain ⟨h0,rfl,hz,hk,hl⟩:=hI
   have hz:t'=t:=hz
   subst hz
   refine ⟨fun hc'=>?_,fun _=>?_⟩
   ·obtain ⟨h1,h2,h3⟩:=AZ h0 hc' (by omega)
    have h4:zF i t'.2.1.length=true:=by rw [← hl]; exact h1
    simp only [Wp,h1,h2,h4,nR,Bool.cond_self,true_and]
    refine ⟨fun _=>⟨_,rfl,fun h=>(by cases h)⟩,fun _=>⟨fun c=>⟨_,rfl,fun e=>?_⟩,fun _=>⟨⟨by omega,hk,hl⟩,by omega⟩⟩⟩
    cases e
   ·simp only [Wp,zn,Cc,Bool.and_true]
    refine ⟨Lc fun c=>?_,fun _=>⟨_,rfl,fun h=>(by cases h)⟩,fun _=>⟨_,rfl,fun _=>⟨hk,hl⟩⟩⟩
    obtain ⟨v,k,_⟩:=wJ (cs:=t'.2.1) (by omega) hv 16 12 _ h.chk (hk.chk (by simpa using c)) (by omega)
    show (cV 16 t'.2.2.2.2.2 t'.2.1 l).isSome=true
    rw [k]; rfl

theorem AI {l:List (Sem zf.sl)} {c:Int} (hl:l.length≤1000) (h:∀ r∈l,zF c (length r)=true):wS l c=true:=by
 refine yi (a:=Sh.bool) (fun x:Bc=>match x with
  | .h2 l' c' i=>LE.le (α:=Int) 0 i∧l'=l∧c'=c
  | .h5 l' c' i j=>LE.le (α:=Int) 0 i∧LT.lt (α:=Int) i l.length∧LE.le (α:=Int) 0 j∧LE.le (α:=Int) j i∧l'=l∧c'=c)
  (fun x=>match x with | .h2 _ _ i=>(1001 - i.toNat) * 3000 | .h5 _ _ i j=>(1001 - i.toNat) * 3000 - 1 - j.toNat) ⟨⟨Int.le_refl _,rfl,rfl⟩,by simp⟩ ?_
 rintro (⟨l',c',i⟩ | ⟨l',c',i,j⟩) hI
 ·obtain ⟨h0,rfl,rfl⟩:=hI
  refine ⟨fun hc=>?_,fun _=>⟨_,rfl,trivial⟩⟩
  have hc:LT.lt (α:=Int) i l'.length:=dH hc
  exact ⟨⟨h0,hc,Int.le_refl _,h0,rfl,rfl⟩,by show (1001 - i.toNat) * 3000 - 1 - toNat 0 < (1001 - i.toNat) * 3000; omega⟩
 ·obtain ⟨h0,hi,hj,hji,rfl,rfl⟩:=hI
  refine ⟨fun hc=>?_,fun hc=>?_⟩
  ·have hc:LT.lt (α:=Int) j i:=dH hc
   simp only [Wp,eX h0 hi,eX hj (show LT.lt (α:=Int) j l'.length by omega),h _ (bD (i:=i.toNat) (by omega)),h _ (bD (i:=j.toNat) (by omega)),xN hj (by omega),nR,Bool.cond_self,true_and]
   exact ⟨fun _=>⟨_,rfl,trivial⟩,fun _=>⟨⟨h0,hi,by omega,by omega,trivial⟩,by omega⟩⟩
  ·rw [xN h0 (by omega)]
   exact ⟨⟨by omega,rfl,rfl⟩,by show (1001 - toNat (i+1)) * 3000 < (1001 - i.toNat) * 3000 - 1 - j.toNat; omega⟩

theorem IS {t:Sem zw} {r:List (Sem zf)} (h:Tg t) (hv:∀ v∈r,VS v):GO t r=true∧VS (Ob t r):=rR (a:=zf) (Q:=VS) fun _=>by
 obtain ⟨m1,m2⟩:=tw h
 simp only [zdV,Wp,zn,Prod.eta,m1,true_and]
 refine ⟨fun c=>?_,fun _=>⟨_,rfl,aE _⟩⟩
 obtain ⟨c1,c2⟩:=bZ c
 have c2:LT.lt (α:=Int) t.2.2.1 r.length:=dH c2
 obtain ⟨g1,_⟩:=Gf (m2 c1).key
 exact ⟨eX g1 c2,_,rfl,hv _ (bD (by omega))⟩

theorem Oa {x:Sem zh} {v:Sem zf} (h:Tg x.1) (hl:x.2.length≤1000):IR x v=true:=by
 obtain ⟨m1,m2⟩:=tw h
 refine yi (a:=zg) (fun y:Ft=>match y with | .h2 i z _=>LE.le (α:=Int) 0 i∧z.1=x) (fun y=>match y with | .h2 i _ _=>1001 - i.toNat) ⟨⟨Int.le_refl _,rfl⟩,by simp⟩ ?_
 rintro ⟨i,⟨x',u⟩,z⟩ ⟨h0,hz⟩
 have hz:x'=x:=hz
 subst hz
 simp only [zga,Wp,zn,Prod.eta,m1,Bool.cond_self,true_and]
 refine ⟨fun c=>?_,fun _=>⟨_,rfl,trivial⟩⟩
 obtain ⟨c1,c2⟩:=bZ c
 obtain ⟨h1,h2,h3⟩:=AZ h0 c1 (by omega)
 obtain ⟨g1,_⟩:=Gf (m2 c2).key
 rw [h1,h2]
 refine ⟨Lc fun k=>?_,fun _=>⟨_,rfl,trivial⟩,fun _=>⟨⟨by omega,trivial⟩,by omega⟩⟩
 exact eX g1 (dH k)

def Fo (x:Sem zh):Prop:=De x.1∧∀ r∈x.2,length r=x.1.2.1.length
theorem Ki {x:Sem zh} (h:WfR x):EH x=true∧(IQ x=0→Fo x):=by
 have hl:=h.rows
 have hu:=h.tab.uq
 obtain ⟨m1,m2⟩:=tw h.tab
 refine OO (a:=zg) (Q:=fun b=>b=0→Fo x) (fun y:uc=>match y with
  | .h6 i z=>LE.le (α:=Int) 0 i∧LE.le (α:=Int) i x.2.length∧z.1=x∧De x.1∧oo (fun r:List (Sem zf)=>r.length=x.1.2.1.length) (zj zf.sl) x.2 i
  | .h14 i z=>LE.le (α:=Int) 0 i∧LE.le (α:=Int) i x.1.2.2.2.1.length∧z.1=x∧Fo x
  | .h19 i z=>LE.le (α:=Int) 1 i∧z.1=x∧Fo x)
  (fun y=>match y with | .h6 i _=>5001 - i.toNat | .h14 i _=>3001 - i.toNat | .h19 i _=>1001 - i.toNat) ?_ ?_
 ·simp only [zdM,Wp,zn,Prod.eta,m1,true_and]
  exact ⟨fun _=>⟨_,rfl,fun h=>(by cases h)⟩,fun c=>⟨fun _=>⟨_,rfl,fun h=>(by cases h)⟩,fun _=>⟨⟨Int.le_refl _,by omega,m2 (by simpa using c),oo.zero⟩,by simp⟩⟩⟩
 ·rintro (⟨i,⟨x',u⟩⟩ | ⟨i,⟨x',u⟩⟩ | ⟨i,⟨x',u⟩⟩) hI
  ·obtain ⟨h0,hb,hz,hk,hp⟩:=hI
   have hz:x'=x:=hz
   subst hz
   simp only [YZ,Wp,zn,Prod.eta]
   refine ⟨fun hc=>?_,fun hc=>?_⟩
   ·obtain ⟨h1,h2,h3⟩:=AZ h0 hc (by omega)
    obtain ⟨f1,f2⟩:=N9 (r:=x'.2.getD i.toNat (zj zf.sl)) h.tab (h.vals _ (bD (by omega)))
    rw [h1,h2,f1]
    refine ⟨rfl,rfl,fun c=>⟨_,rfl,fun e=>?_⟩,fun c=>⟨⟨by omega,by omega,trivial,hk,hp.next h0 (f2 ?_).2⟩,by omega⟩⟩
    ·rw [show GJ x'.1 (getD x'.2 i.toNat (zj zf.sl))=0 from e] at c; cases c
    ·simpa using c
   ·have hg:Fo x':=⟨hk,hp.all hc⟩
    refine ⟨AI hl fun r hr=>by rw [hg.2 r hr]; exact hk.key,fun _=>⟨_,rfl,fun h=>(by cases h)⟩,fun _=>⟨⟨Int.le_refl _,by omega,trivial,hg⟩,by simp; omega⟩⟩
  ·obtain ⟨h0,hb,hz,hg⟩:=hI
   have hz:x'=x:=hz
   subst hz
   refine ⟨fun hc=>?_,fun hc=>⟨⟨Int.le_refl _,rfl,hg⟩,by show 1001 - toNat 1 < 3001 - i.toNat; omega⟩⟩
   obtain ⟨h1,h2,h3⟩:=AZ (n:=x'.1.2.2.2.1.length) h0 hc (by omega)
   refine ⟨h1,AI hl fun r hr=>by rw [hg.2 r hr]; exact hg.1.uq _ (bD (by omega)),fun _=>⟨_,rfl,fun h=>(by cases h)⟩,fun _=>?_⟩
   rw [h2]
   exact ⟨⟨by omega,by omega,rfl,hg⟩,by show 3001 - toNat (i+1) < 3001 - i.toNat; omega⟩
  ·obtain ⟨h0,hz,hg⟩:=hI
   have hz:x'=x:=hz
   subst hz
   simp only [YZ,Wp,zn,Prod.eta]
   refine ⟨fun hc=>?_,fun _=>⟨_,rfl,fun _=>hg⟩⟩
   obtain ⟨h1,h2,h3⟩:=AZ (by omega) hc (by omega)
   rw [OW h0 (by omega)]
   obtain ⟨k1,k2⟩:=IS (r:=x'.2.getD (i - 1).toNat (zj zf.sl)) h.tab (h.vals _ (bD (by omega)))
   obtain ⟨k3,k4⟩:=IS (r:=x'.2.getD i.toNat (zj zf.sl)) h.tab (h.vals _ (bD (by omega)))
   rw [h1,h2,k1,k3,Kc k2 k4]
   exact ⟨eX (by omega) (by omega),rfl,rfl,rfl,rfl,fun _=>⟨_,rfl,fun h=>(by cases h)⟩,fun _=>⟨⟨by omega,trivial,hg⟩,by omega⟩⟩

theorem qb (s:zl):∀ (l:List (Sem zh)) (i:Int),LE.le (α:=Int) 0 i→LT.lt (α:=Int) (dK s l i) (i+l.length)∨dK s l i=-1
 | [],_,_=>.inr rfl
 | x::r,i,h=>by
  rw [dK]
  split
  ·exact .inl (by simp; omega)
  ·rcases qb s r (i+1) (by omega) with h | h
   ·exact .inl (by rw [lu]; push_cast; omega)
   ·exact .inr h

theorem Kl {db:List (Sem zh)} (hl:db.length≤12) (h:∀ x∈db,WfR x∧Fo x):EI db=true:=by
 refine yi (a:=Sh.bool) (fun y:ud=>match y with
  | .h2 l i=>LE.le (α:=Int) 0 i∧l=db
  | .h5 l i j=>LE.le (α:=Int) 0 i∧LT.lt (α:=Int) i db.length∧LE.le (α:=Int) 0 j∧LE.le (α:=Int) j (db.getD i.toNat (zj zh)).1.2.2.2.2.1.length∧l=db
  | .h12 l i j g k z=>LE.le (α:=Int) 0 i∧LT.lt (α:=Int) i db.length∧LE.le (α:=Int) 0 j∧LT.lt (α:=Int) j (db.getD i.toNat (zj zh)).1.2.2.2.2.1.length∧l=db∧zF g db.length=true∧LE.le (α:=Int) 0 k∧LE.le (α:=Int) k (db.getD i.toNat (zj zh)).2.length∧z.1∈(db.getD i.toNat (zj zh)).1.2.2.2.2.1)
  (fun y=>match y with | .h2 _ i=>(13 - i.toNat) * 3000000 | .h5 _ i j=>(13 - i.toNat) * 3000000 - 1 - j.toNat * 2000 | .h12 _ i j _ k _=>(13 - i.toNat) * 3000000 - 2 - j.toNat * 2000 - k.toNat) ⟨⟨Int.le_refl _,rfl⟩,by simp⟩ ?_
 rintro (⟨l,i⟩ | ⟨l,i,j⟩ | ⟨l,i,j,g,k,⟨f,u⟩⟩) hI
 ·obtain ⟨h0,rfl⟩:=hI
  simp only [RB,Wp]
  refine ⟨fun hc=>?_,fun _=>⟨_,rfl,trivial⟩⟩
  have hc:LT.lt (α:=Int) i l.length:=dH hc
  exact ⟨⟨h0,hc,Int.le_refl _,by omega,trivial⟩,by rw [Int.toNat_zero]; omega⟩
 ·obtain ⟨h0,hi,hj,hjl,rfl⟩:=hI
  obtain ⟨hw,hg⟩:=h _ (bD (i:=i.toNat) (d:=zj zh) (by omega))
  have hr:=hw.tab.rf
  simp only [RB,Wp,eX h0 hi,xN h0 (show LT.lt (α:=Int) i _ by omega),true_and]
  refine ⟨fun hc=>?_,fun _=>⟨⟨by omega,trivial⟩,by omega⟩⟩
  obtain ⟨h1,h2,h3⟩:=AZ hj hc (by omega)
  refine ⟨h1,fun _=>⟨_,rfl,trivial⟩,fun c=>⟨⟨h0,hi,hj,h3,?_,Int.le_refl _,by omega,bD (by omega)⟩,by omega⟩⟩
  have hc':¬ LT.lt (α:=Int) (w9 l (getD (l.getD i.toNat (zj zh)).1.2.2.2.2.1 j.toNat (zj zq)).2) 0:=of_decide_eq_false c
  refine eX (by omega) ?_
  rcases qb (getD (l.getD i.toNat (zj zh)).1.2.2.2.2.1 j.toNat (zj zq)).2 l 0 (Int.le_refl _) with e | e
  ·rw [Int.zero_add] at e; exact e
  ·exact (hc' (by show LT.lt (α:=Int) (dK _ l 0) 0; rw [e]; decide)).elim
 ·obtain ⟨h0,hi,hj,hjl,rfl,hg2,hk,hkl,hf⟩:=hI
  have hf:f∈(l.getD i.toNat (zj zh)).1.2.2.2.2.1:=hf
  obtain ⟨hw,hg⟩:=h _ (bD (i:=i.toNat) (d:=zj zh) (by omega))
  have hr:=hw.tab.rf
  have hrr:=hw.rows
  obtain ⟨g1,g2⟩:=Gf hg2
  obtain ⟨hw2,_⟩:=h _ (bD (i:=g.toNat) (d:=zj zh) (by omega))
  simp only [RB,Wp,zn,Prod.eta,eX h0 hi,hg2,Oa hw2.tab hw2.rows,nQ,Bool.cond_self,xN hj (show LT.lt (α:=Int) j _ by omega),true_and]
  refine ⟨fun hc=>?_,fun _=>⟨⟨h0,hi,by omega,by omega,trivial⟩,by omega⟩⟩
  obtain ⟨h1,h2,h3⟩:=AZ hk hc (by omega)
  rw [h1,h2]
  refine ⟨rfl,?_,fun _=>⟨_,rfl,trivial⟩,fun _=>⟨⟨h0,hi,hj,hjl,by omega,by omega,hf⟩,by omega⟩⟩
  rw [hg.2 _ (bD (by omega))]
  exact hg.1.rf f hf

theorem Km {db:List (Sem zh)} (hw:∀ x∈db,WfR x):wW db=true:=by
 refine yi (a:=zg) (fun y:P5=>match y with
  | .h4 l i=>LE.le (α:=Int) 1 i∧LE.le (α:=Int) i 1000∧l=db∧db.length≤12
  | .h9 l i=>LE.le (α:=Int) 0 i∧l=db∧db.length≤12∧oo Fo (zj zh) db i)
  (fun y=>match y with | .h4 _ i=>5001 - i.toNat | .h9 _ i=>1001 - i.toNat) ⟨fun _=>⟨_,rfl,trivial⟩,fun c=>⟨⟨by decide,by decide,rfl,?_⟩,by simp⟩⟩ ?_
 ·have:=of_decide_eq_false c
  omega
 ·rintro (⟨l,i⟩ | ⟨l,i⟩) hI
  ·obtain ⟨h0,hb,rfl,hl⟩:=hI
   refine ⟨fun hc=>?_,fun hc=>⟨⟨Int.le_refl _,rfl,hl,oo.zero⟩,by show 1001 - toNat 0 < 5001 - i.toNat; omega⟩⟩
   obtain ⟨h1,h2,h3⟩:=AZ (by omega) hc (by omega)
   simp only [Wp,h1,h2,OW h0 (show LT.lt (α:=Int) i _ by omega),true_and]
   exact ⟨eX (by omega) (by omega),fun _=>⟨_,rfl,trivial⟩,fun _=>⟨⟨by omega,by omega,hl⟩,by omega⟩⟩
  ·obtain ⟨h0,rfl,hl,hp⟩:=hI
   simp only [t9p,Wp,zn,Prod.eta]
   refine ⟨fun hc=>?_,fun hc=>?_⟩
   ·obtain ⟨h1,h2,h3⟩:=AZ h0 hc (by omega)
    obtain ⟨k1,k2⟩:=Ki (hw _ (bD (i:=i.toNat) (d:=zj zh) (by omega)))
    rw [h1,h2,k1]
    exact ⟨rfl,rfl,fun _=>⟨_,rfl,trivial⟩,fun c=>⟨⟨by omega,trivial,hl,hp.next h0 (k2 (by simpa using c))⟩,by omega⟩⟩
   ·have hg:=hp.all hc
    exact ⟨Kl hl fun x hx=>⟨hw x hx,hg x hx⟩,fun _=>⟨_,rfl,trivial⟩,fun _=>⟨_,rfl,trivial⟩⟩

theorem lU.app:∀ {a b:List ze},lU a→lU b→lU (a++b)
 | [],_,_,h=>h
 | x::r,b,h,hb=>by
  rw [lU] at h
  rw [List.cons_append,lU]
  exact ⟨h.1,h.2.app hb⟩

theorem HQ {g:Sem Sh.expr→Sem zg→Sem zg→Sem Sh.expr×Sem zg} {c:Sem Sh.expr→Sem zg→Sem zg→Bool} {i1:Int} {a0:zl} {a1 a2:Int} {a3 a4 b0:zl} {b1 b2:Int} {b3 b4 d0:zl} {d1 d2:Int} {d3 d4:zl} (hv:VS (d1,d2,d3)) (hs:d4.length≤1000000):
  ∀ (l:List (Sem Sh.expr)) (i n:Int) (acc:List (Sem Sh.expr)),(∀ x∈l,∀ m,o8 (g x (IntKind.i64.wrap (i1 - 1)) m).1)→lU acc→o8 (bI g c i1 a0 a1 a2 a3 a4 b0 b1 b2 b3 b4 d0 d1 d2 d3 d4 l i n acc).1
 | [],_,_,acc,_,ha=>by
  rw [bI,o8]; exact ⟨hv,hs,ha⟩
 | x::r,i,n,acc,hg,ha=>by
  rw [bI]
  split
  ·exact HQ hv hs r (i+1) _ _ (fun y hy m=>hg y (by simp [hy]) m) (ha.app (by rw [lU,lU]; exact ⟨hg x (by simp) n,trivial⟩))
  ·rw [o8]; exact ⟨hv,hs,ha⟩

theorem mK (k:Nat) (s:zl) (h:k≤1000):(List.take (toNat (k:Int) - toNat 0) (List.drop (toNat 0) s)).length≤1000000:=by
 simp; omega
theorem wm {n k:Nat} (h:¬ decide ((n:Int) > (k:Int))=true) (hk:k≤1000):n≤1000000:=by
 have:¬ (n:Int) > (k:Int):=by simpa using h
 omega

theorem HS:∀ (N:Nat) (e:ze) (d n:Int),o8 (jo N e d n).1
 | 0,_,_,_=>OU
 | N+1,.mk op v s l,d,n=>by
  have hg:∀ x∈l,∀ (k m:Int),o8 (jo N x k m).1:=fun x _ k m=>HS N x k m
  rw [jo]
  unfold D4
  have t45:=mK 45 v.2.2 (by omega)
  have t20:=mK 20 s (by omega)
  repeat' split
  all_goals refine HQ ?_ ?_ _ _ _ _ (fun x hx m=>hg x hx _ m) (by rw [lU]; trivial)
  all_goals first | exact t45 | exact t20 | exact wm (k:=45) (by assumption) (by omega) | exact wm (k:=20) (by assumption) (by omega)

theorem QD (e:ze):o8 (cA e):=by
 unfold cA
 rw [ze.eta]
 exact HS 16 e 14 80

theorem E2 (s:zl):(rL s).length≤1000000:=by
 unfold rL
 split
 ·exact mK 20 s (by omega)
 ·exact wm (k:=20) (by assumption) (by omega)
theorem oL:∀ (l:List (Sem zi)) (i:Int) (acc:List (Sem zi)),(acc.length:Int)≤i→acc.length≤9→(∀ c∈acc,length c.1≤1000000)→(eL l i acc).length≤9∧∀ c∈eL l i acc,length c.1≤1000000
 | [],_,_,_,h,ha=>⟨h,ha⟩
 | x :: r,i,acc,h0,h,ha=>by
  rw [eL]
  split
  ·rename_i hi
   simp only [zW] at hi
   split
   ·refine oL r (i+1) _ (by simp; omega) (by simp; omega) (fun c hc=>?_)
    rcases aZ.1 hc with hc | hc
    ·exact ha c hc
    ·rw [bd] at hc
     rw [hc]
     exact mK 20 x.1 (by omega)
   ·refine oL r (i+1) _ (by simp; omega) (by simp; omega) (fun c hc=>?_)
    rcases aZ.1 hc with hc | hc
    ·exact ha c hc
    ·rw [bd] at hc
     rw [hc]
     exact wm (k:=20) (by assumption) (by omega)
  ·exact ⟨h,ha⟩
theorem rQ {a0 a1 a2 a3 a4 a5 a6 a7 a8 a9 b0 b1 b2 b3 b4 b5 b6} {d0:zl} {d1:List (Sem zi)} {d2:Int} {d3:zl} {d4 d5:Int} {d6 d7:zl} {d8:List (Sem Sh.expr)} {d9:List (Sem zg)} (hn:d0.length≤1000000) (hc:d1.length≤9∧∀ c∈d1,length c.1≤1000000) (hu:d9.length≤10) (he:o8 (.mk d3 (d4,d5,d6) d7 d8)):
  ∀ (l:List (Sem zq)) (i:Int) (acc:List (Sem zq)),(acc.length:Int)≤i→acc.length≤10→(∀ f∈acc,length f.2≤1000000)→Tg (eB a0 a1 a2 a3 a4 a5 a6 a7 a8 a9 b0 b1 b2 b3 b4 b5 b6 d0 d1 d2 d3 d4 d5 d6 d7 d8 d9 l i acc)
 | [],_,acc,_,h,ha=>by
  rw [eB]
  exact ⟨hn,hc.2,by have:=hc.1; show d1.length≤1000; omega,by show d9.length≤1000; omega,by show acc.length≤1000; omega,ha,he⟩
 | x::r,i,acc,h0,h,ha=>by
  rw [eB]
  split
  ·rename_i hi
   simp only [zW] at hi
   refine rQ hn hc hu he r (i+1) _ (by simp; omega) (by simp; omega) (fun f hf=>?_)
   rcases aZ.1 hf with hf | hf
   ·exact ha f hf
   ·rw [bd] at hf
    rw [hf]
    exact E2 x.2
  ·exact ⟨hn,hc.2,by have:=hc.1; show d1.length≤1000; omega,by show d9.length≤1000; omega,by show acc.length≤1000; omega,ha,he⟩
theorem A1 {a0 a1 a2 a4 a5 a6 a7 a8 a9 b0 b1 b2 b3 b4 b5 b6 a10 w} {d0:zl} {d1:List (Sem zi)} {d2:Int} {d3:zl} {d4 d5:Int} {d6 d7:zl} {d8:List (Sem Sh.expr)} (hn:d0.length≤1000000) (hc:d1.length≤9∧∀ c∈d1,length c.1≤1000000) (he:o8 (.mk d3 (d4,d5,d6) d7 d8)):
  ∀ (l:List (Sem zg)) (i:Int) (acc:List (Sem zg)),(acc.length:Int)≤i→acc.length≤10→Tg (dR a0 a1 a2 w a4 a5 a6 a7 a8 a9 a10 b0 b1 b2 b3 b4 b5 d0 d1 d2 d3 d4 d5 d6 d7 d8 b6 l i acc)
 | [],_,acc,_,h=>by
  rw [dR]
  exact rQ hn hc h he _ _ _ (by simp) (by simp) (by simp)
 | x::r,i,acc,h0,h=>by
  rw [dR]
  split
  ·rename_i hi
   simp only [zW] at hi
   exact A1 hn hc he r (i+1) _ (by simp; omega) (by simp; omega)
  ·exact rQ hn hc h he _ _ _ (by simp) (by simp) (by simp)
theorem RH (t:Sem zw):Tg (iH t):=by
 unfold iH
 refine A1 (E2 _) (oL _ _ _ (by simp) (by simp) (by simp)) ?_ _ _ _ (by simp) (by simp)
 rw [show ze.mk (ze.op (cA t.2.2.2.2.2)) ((ze.v (cA t.2.2.2.2.2)).1,(ze.v (cA t.2.2.2.2.2)).2.1,(ze.v (cA t.2.2.2.2.2)).2.2) (ze.s (cA t.2.2.2.2.2)) (ze.l (cA t.2.2.2.2.2))=cA t.2.2.2.2.2 from ze.eta _]
 exact QD _

theorem RN (v:Sem zf):VS (sY v):=by
 unfold sY
 split
 ·exact mK 60 v.2.2 (by omega)
 ·exact wm (k:=60) (by assumption) (by omega)
theorem oM {Q:Sem zf→Prop}:∀ (l:List (Sem zf)) (i:Int) (acc:List (Sem zf)),(∀ v∈l,Q (sY v))→(∀ v∈acc,Q v)→∀ v∈gF l i acc,Q v
 | [],_,_,_,ha=>ha
 | x::r,i,acc,h,ha=>by
  rw [gF]
  split
  ·refine oM r (i+1) _ (fun v hv=>h v (by simp [hv])) (fun v hv=>?_)
   rcases aZ.1 hv with hv | hv
   ·exact ha v hv
   ·rw [bd] at hv
    rw [hv]; exact h x (by simp)
  ·exact ha

theorem Eh (x:Sem zh):WfR (gR x):=by
 obtain ⟨rows,h1,h2⟩:=mq x
 have h3:gR x=(iH x.1,rows):=by unfold gR; rw [h2]; rfl
 rw [h3]
 refine ⟨RH x.1,by show rows.length≤1000; have:=h1.1; omega,fun r hr v hv=>?_⟩
 obtain ⟨r0,hr0,rfl⟩:=h1.2 r hr
 exact oM r0 0 [] (fun v _=>RN v) (by simp) v hv
end Cad
