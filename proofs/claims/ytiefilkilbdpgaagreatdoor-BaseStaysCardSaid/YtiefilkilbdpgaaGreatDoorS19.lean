/- What ends: a function's trees give an answer (which one is left open). What ends: names, expressions. The document's rows. -/
import Derived.Test.YtiefilkilbdpgaaGreatDoorS18
import Derived.Test.YtiefilkilbdpgaaGreatDoorS12
import Derived.Test.YtiefilkilbdpgaaGreatDoorS14
import Derived.Test.YtiefilkilbdpgaaGreatDoorS17
import Derived.Test.YtiefilkilbdpgaaGreatDoorS15
import Derived.Test.YtiefilkilbdpgaaGreatDoorS11
import Derived.Test.YtiefilkilbdpgaaGreatDoorS09
import Derived.Carry
import Derived.ChangeSame
import Derived.RowKit3
import Derived.WideKeyArgs
namespace Cad
open Go Go.Proofs
open List (getD)
open List (length)
set_option maxHeartbeats 4000000

section
variable {σ:Type}
def Wp (P:σ→Prop) (Q:aj→Prop):Tr (σ ⊕ aj)→Prop
 | .err=>False
 | .chk c t=>c=true∧Wp P Q t
 | .br c t f=>(c=true→Wp P Q t)∧(c=false→Wp P Q f)
 | .ok (.inl s)=>P s
 | .ok (.inr r)=>Q r
theorem Wp.got {P:σ→Prop} {Q:aj→Prop}:∀ {t:Tr (σ ⊕ aj)},Wp P Q t→(∃ s,t.val=some (.inl s)∧P s)∨∃ r,t.val=some (.inr r)∧Q r
 | .err,h=>h.elim
 | .chk c t,h=>by
  obtain ⟨h1,h2⟩:=h
  rw [Tr.val,if_pos h1]
  exact Wp.got h2
 | .br c t f,h=>by
  rw [Tr.val]
  cases c with
  | true=>exact Wp.got (h.1 rfl)
  | false=>exact Wp.got (h.2 rfl)
 | .ok (.inl s),h=>.inl ⟨s,rfl,h⟩
 | .ok (.inr r),h=>.inr ⟨r,rfl,h⟩
variable {t:σ→Tr (σ ⊕ aj)} {i:Tr (σ ⊕ aj)} (I:σ→Prop) (μ:σ→Nat)
theorem Ed {Q:aj→Prop} (ht:∀ s,I s→Wp (fun s'=>I s'∧μ s' < μ s) Q (t s)):∀ (n:Nat) (s:σ),I s→μ s < n→∃ r,bl t n s=some r∧Q r
 | 0,_,_,h=>absurd h (by omega)
 | n+1,s,hI,h=>by
  rw [bl]
  rcases (ht s hI).got with ⟨s',h1,h2,h3⟩ | ⟨r,h1,h2⟩
  ·rw [h1]
   exact Ed ht n s' h2 (by omega)
  ·rw [h1]
   exact ⟨r,rfl,h2⟩
def R5 (outs:List Sh) (Q:zw (outs.map some)→Prop) (r:aj):Prop:=∃ y,ap r.2 outs r.1=some y∧Q y
theorem tot {outs:List Sh} {n:Nat} {Q:zw (outs.map some)→Prop} (hi:Wp (fun s=>I s∧μ s < n) (R5 outs Q) i) (ht:∀ s,I s→Wp (fun s'=>I s'∧μ s' < μ s) (R5 outs Q) (t s)):∃ y,zW outs t n i=some y∧Q y:=by
 unfold zW bh
 rcases hi.got with ⟨s,h1,h2,h3⟩ | ⟨r,h1,y,h2,h3⟩
 ·rw [h1]
  obtain ⟨r,h4,y,h5,h6⟩:=Ed I μ ht n s h2 h3
  exact ⟨y,by show (bl t n s).bind _=_; rw [h4]; exact h5,h6⟩
 ·rw [h1]
  exact ⟨y,h2,h3⟩
theorem zfq {a:Sh} {n:Nat} {Q:Sem a→Prop} (hi:Wp (fun s=>I s∧μ s < n) (R5 [a] fun y:zw [some a]=>Q y.1) i) (ht:∀ s,I s→Wp (fun s'=>I s'∧μ s' < μ s) (R5 [a] fun y:zw [some a]=>Q y.1) (t s)):(zW [a] t n i).isSome=true∧Q (o1 (zW [a] t n i)):=by
 obtain ⟨y,h1,h2⟩:=tot (outs:=[a]) (Q:=fun y:zw [some a]=>Q y.1) I μ hi ht
 rw [h1]
 exact ⟨rfl,h2⟩
end
theorem X6 {a:Sh} {n:Nat} {i:Tr (Empty ⊕ aj)} {Q:Sem a→Prop} (hi:∀ P:Empty→Prop,Wp P (R5 [a] fun y:zw [some a]=>Q y.1) i):(zW [a] t0 n i).isSome=true∧Q (o1 (zW [a] t0 n i)):=
 zfq (fun _=>True) (fun _=>0) (hi _) fun s=>nomatch s
theorem zh1 {σ:Type} {t:σ→Tr (σ ⊕ aj)} {i:Tr (σ ⊕ aj)} {a:Sh} {n:Nat} (I:σ→Prop) (μ:σ→Nat) (hi:Wp (fun s=>I s∧μ s < n) (R5 [a] fun _=>True) i) (ht:∀ s,I s→Wp (fun s'=>I s'∧μ s' < μ s) (R5 [a] fun _=>True) (t s)):(zW [a] t n i).isSome=true:=(zfq (Q:=fun _=>True) I μ hi ht).1
theorem H5 {a:Sh} {n:Nat} {i:Tr (Empty ⊕ aj)} (hi:∀ P:Empty→Prop,Wp P (R5 [a] fun _=>True) i):(zW [a] t0 n i).isSome=true:=(X6 (Q:=fun _=>True) hi).1

theorem Wr {i:Int} {k:Nat} (h0:0≤i) (h:i < (k:Int)):zI i k=true:=by unfold zI; simp [h0,h]
theorem Yb {i:Int} (h0:LE.le (α:=Int) 0 i) (h:i < 9223372036854775807):IntKind.i64.wrap (i+1)=i+1:=by
 rw [ue]; omega
theorem stp {i:Int} {n:Nat} (h0:LE.le (α:=Int) 0 i) (h:decide (LT.lt (α:=Int) i (n:Int))=true) (hn:n≤1000000):zI i n=true∧IntKind.i64.wrap (i+1)=i+1∧LT.lt (α:=Int) i (n:Int):=by
 have h:LT.lt (α:=Int) i (n:Int):=fb h
 exact ⟨by unfold zI; rw [ay h0,ay h]; rfl,Yb h0 (by omega),h⟩

def VS (v:Sem zf):Prop:=v.2.2.length≤1000000

theorem Ab (b:Bool):ws b=true∧VS (bG b):=X6 (a:=zf) (Q:=VS) fun _=>⟨fun _=>⟨_,rfl,aV _⟩,fun _=>⟨_,rfl,aV _⟩⟩
@[simp] theorem Jj (b:Bool):ws b=true:=(Ab b).1
theorem Ac (b:Bool):VS ((bG b).1,(bG b).2.1,(bG b).2.2):=(Ab b).2
@[simp] theorem XN (v:Sem zf) (b:Bool):mS v b=true:=H5 (a:=Sh.bool) fun _=>⟨Jj b,_,rfl,trivial⟩
theorem zfC (a b:Sem zf):XM a b=true∧VS (ze8 a b):=X6 (a:=zf) (Q:=VS) fun _=>by
 simp only [Sz,Wp,XN,Bool.true_and,Bool.cond_self,true_and]
 exact ⟨fun _=>⟨_,rfl,Ac _⟩,fun _=>⟨fun _=>⟨_,rfl,Ac _⟩,fun _=>⟨_,rfl,aV _⟩⟩⟩
section
variable {a b:Sem zf} (ha:VS a) (hb:VS b)
include ha hb
end

mutual
def Et:ze→Prop
 | .mk _ v s l=>VS v∧s.length≤1000000∧qK l
def qK:List ze→Prop
 | []=>True
 | e::r=>Et e∧qK r
end
theorem Ya:Et (zj Sh.expr):=by
 show Et (.mk [] (0,0,[]) [] [])
 rw [Et,qK]
 exact ⟨aV _,aV _,trivial⟩
theorem qK.at:∀ {l:List ze},qK l→∀ i,Et (l.getD i (zj Sh.expr))
 | [],_,_=>Ya
 | x::r,h,i=>by
  rw [qK] at h
  cases i with
  | zero=>exact h.1
  | succ i=>exact h.2.at i
theorem Et.s {e:ze} (h:Et e):(ze.s e).length≤1000000:=by cases e; rw [Et] at h; exact h.2.1
theorem Et.v {e:ze} (h:Et e):VS (ze.v e):=by cases e; rw [Et] at h; exact h.1
theorem Et.l {e:ze} (h:Et e):qK (ze.l e):=by cases e; rw [Et] at h; exact h.2.2

@[simp] theorem FQ (x:Int):kL x=true:=H5 (a:=Sh.bool) fun _=>⟨_,rfl,trivial⟩
@[simp] theorem Yi (x:Int):f6 x=true:=H5 (a:=Sh.bool) fun _=>⟨_,rfl,trivial⟩
@[simp] theorem Nm (x:Int):tC x=true:=H5 (a:=Sh.bool) fun _=>by
 refine ⟨?_,_,rfl,trivial⟩
 simp
theorem zfa {s:zo} (h:s.length≤1000000):tz s=true:=by
 refine zh1 (a:=Sh.bool) (fun x:tV=>match x with | .h2 t i=>LE.le (α:=Int) 0 i∧t=s) (fun x=>match x with | .h2 t i=>1000001 - i.toNat) ⟨⟨Int.le_refl _,rfl⟩,by simp⟩ ?_
 rintro ⟨t,i⟩ ⟨h0,hz⟩
 subst hz
 refine ⟨fun hc=>?_,fun hc=>?_⟩
 ·obtain ⟨h1,h2,h3⟩:=stp h0 hc h
  simp only [Wp,h1,h2,Nm,true_and]
  exact ⟨fun _=>⟨_,rfl,trivial⟩,fun _=>⟨⟨by omega,trivial⟩,by omega⟩⟩
 ·refine ⟨?_,_,rfl,trivial⟩
  simp only [FQ,Bool.and_true]
  cases h1:decide (LE.le (α:=Int) 1 (t.length:Int)) with
  | false=>rfl
  | true=>
   have h1:LE.le (α:=Int) 1 (t.length:Int):=fb h1
   rw [Wr (Int.le_refl 0) (by omega)]
   simp
def GE:Nat→ze→Prop
 | 0,_=>False
 | d+1,.mk op _ _ l=>((op==[108,105,116])=false→(op==[99,111,108])=false→0 < l.length∧((op==[110,111,116])=false→(op==[110,117,108,108])=false→1 < l.length))∧l.length≤2∧∀ i,i < l.length→GE d (l.getD i (zj Sh.expr))
noncomputable section

inductive zjx where
 | h4 (l1:LV) (i5:Int) (z0:zu [CP.d zx])
 | h9 (l1:LV) (i6:Int) (z0:zu [CP.d zx])
inductive zjy where
 | h2 (l0:List (Sem zf.sl)) (i1:Sem zg) (i5:Int)
 | h5 (l0:List (Sem zf.sl)) (i1:Sem zg) (i5:Int) (i6:Int)
inductive zjz where
 | h2 (i5:Int) (z0:zu [CP.d zh]) (z1:zu [CP.d zf])
end
noncomputable section

inductive zju where
 | h6 (i3:Int) (z0:zu [CP.d zh])
 | h14 (i5:Int) (z0:zu [CP.d zh])
 | h19 (i6:Int) (z0:zu [CP.d zh])
inductive zjv where
 | h2 (l0:List (Sem zh)) (i3:Int)
 | h5 (l0:List (Sem zh)) (i3:Int) (i4:Int)
 | h12 (l0:List (Sem zh)) (i3:Int) (i4:Int) (i6:Sem zg) (i7:Int) (z0:zu [CP.d zq])
end
noncomputable section

inductive H9p where
 | h4 (l0:List (Sem zh)) (i3:Int)
 | h9 (l0:List (Sem zh)) (i4:Int)
end

structure WfT (t:Sem zx):Prop where
 name:t.1.length≤20
 cnames:∀ c∈t.2.1,length c.1≤20
 cols:t.2.1.length≤1000
 uq:t.2.2.2.1.length≤1000
 rf:t.2.2.2.2.1.length≤1000
 rnames:∀ f∈t.2.2.2.2.1,length f.2≤20
 chk:Et t.2.2.2.2.2
structure WfR (x:Sem zh):Prop where
 tab:WfT x.1
 rows:x.2.length≤1000
 vals:∀ r∈x.2,∀ v∈(r:List (Sem zf)),VS v
structure zjA (t:Sem zx):Prop where
 key:zI t.2.2.1 t.2.1.length=true
 uq:∀ u∈t.2.2.2.1,zI u t.2.1.length=true
 rf:∀ f∈t.2.2.2.2.1,zI f.1 t.2.1.length=true
 chk:(ze.op t.2.2.2.2.2==[])=false→GE 12 t.2.2.2.2.2
def Es {α:Type} (Q:α→Prop) (d:α) (l:List α) (i:Int):Prop:=∀ j,j < l.length→LT.lt (α:=Int) j i→Q (l.getD j d)
theorem Es.zero {α:Type} {Q:α→Prop} {d:α} {l:List α}:Es Q d l 0:=fun j _ h=>absurd h (by omega)
theorem Es.next {α:Type} {Q:α→Prop} {d:α} {l:List α} {i:Int} (h:Es Q d l i) (h0:LE.le (α:=Int) 0 i) (hq:Q (l.getD i.toNat d)):Es Q d l (i+1):=fun j hj hi=>by
 by_cases e:(j:Int)=i
 ·subst e; exact hq
 ·exact h j hj (by omega)
theorem Es.all {α:Type} {Q:α→Prop} {d:α} {l:List α} {i:Int} (h:Es Q d l i) (hi:decide (LT.lt (α:=Int) i (l.length:Int))=false):∀ x∈l,Q x:=
 (b7 (d:=d)).1 fun j hj=>h j hj (by have:=of_decide_eq_false hi; omega)


mutual
def IE:ze→Prop
 | .mk _ v _ l=>ch .i64 v.2.1∧R4 l
def R4:List ze→Prop
 | []=>True
 | e::r=>IE e∧R4 r
end

theorem qK.app:∀ {a b:List ze},qK a→qK b→qK (a++b)
 | [],_,_,h=>h
 | x::r,b,h,hb=>by
  rw [qK] at h
  rw [List.cons_append,qK]
  exact ⟨h.1,h.2.app hb⟩


abbrev X8:zo:=[117,112,100,97,116,101]
theorem R4.app:∀ {a b:List ze},R4 a→R4 b→R4 (a++b)
 | [],_,_,h=>h
 | x::r,b,h,hb=>by
  rw [R4] at h
  rw [List.cons_append,R4]
  exact ⟨h.1,h.2.app hb⟩


theorem GH {db:List (Sem zh)} {s:Sem zm} {n:List (Sem zh)} {a:Sem cB} (hs:ey s) (hr:∀ x∈db,cI x) (hm:eU s=true) (hB:aM db) (ho:s.1=X8) (hc:fQ (db,s)=some (n,a,())):
  jk db s=some (if a.1=0 then n else db,a,()):=by
 have h1:=dK hs
 have h2:=dh hr
 have h5:fx db=(0:Int):=(fH hr).2 hB
 have q0:(s.1==[99,114,101,97,116,101])=false:=by rw [ho]; rfl
 have q1:(s.1==[100,114,111,112])=false:=by rw [ho]; rfl
 have q2:(s.1==[105,110,115,101,114,116])=false:=by rw [ho]; rfl
 have q3:(s.1==[117,112,100,97,116,101])=true:=by rw [ho]; rfl
 have hcc:uB (db,s)=true:=by unfold uB; rw [hc]; rfl
 have hcv:AR (db,s)=(n,a):=by unfold AR; rw [hc]; rfl
 unfold jk zW bh
 simp only [Oa,Tr.val,zp,Prod.eta,hm,h1,h2,h5,hcc,hcv,q0,q1,q2,q3,fG,bQ,jK,og,zH,if_true,if_false]
 by_cases h:a.1=0
 ·have h':(a.1 != 0)=false:=by simpa using h
  simp only [h',zH,if_false,if_pos h]
  rfl
 ·have h':(a.1 != 0)=true:=by simpa using h
  simp only [h',if_true,if_neg h]
  rfl

theorem PZ (l:List (Sem zg)) (k:Int) (hl:l.length≤1000):∃ b:Bool,Dm l k=some (b,()):=by
 have h:=Ic (t:=D9) (Φ:=fun r=>∃ j:Int,ap r.2 [zg] r.1=some (j,())) 1 (fun i=>.h2 l k (l.length:Int) (i:Int)) (fun i=>(k==l.getD i (zj zg))=false) l.length (by
  intro i hi _
  have hw:=zD i (by unfold zC; omega)
  cases c:(k==l.getD i (zj zg)) with
  | false=>
   refine .inl ⟨rfl,aF.of ?_⟩
   simp only [D9,Tr.val,zT hi,zB hi,aT,c,hw,zH,if_true,if_false]
  | true=>
   refine .inr ⟨by simp,(.int .i64 (i:Int),[]),bq.of ?_,_,rfl⟩
   simp only [D9,Tr.val,zT hi,zB hi,aT,c,if_true])
 have hi:(Sy l k).val=some (.inl (.h2 l k (l.length:Int) ((0:Nat):Int))):=rfl
 obtain ⟨j,hj⟩:∃ j:Int,P7 l k=some (j,()):=by
  rcases h with ⟨_,g⟩ | ⟨_,r,hr,j,hj⟩
  ·refine ⟨-1,bb hi (g.ends (bq.of (r:=(.int .i64 (-1),[])) ?_)) (by omega) rfl⟩
   simp only [D9,Tr.val,zX,zH,if_false]
  ·exact ⟨j,bb hi hr (by omega) hj⟩
 refine ⟨decide (j ≥ 0),?_⟩
 have c1:Wt l k=true:=by unfold Wt; rw [hj]; rfl
 have c2:ixI l k=j:=by unfold ixI; rw [hj]; rfl
 unfold Dm zW bh
 simp only [zdc,Tr.val,c1,c2,if_true]
 rfl

abbrev NM (s:Sem zm):List (Sem aN):=s.2.2.2.2.2.2.2.2.2.2.1
def R6 (t:Sem zx) (n:Nat) (r:aj):Prop:=∃ (l:List (Sem zg)) (e:Int),ap r.2 [zg.sl,zg] r.1=some (l,e,())∧(e=0→l.length=n∧∀ p∈l,kF p t.2.1.length)
theorem CE {t:Sem zx} {l:List (Sem aN)} (hl:l.length≤20):∀ (m i:Nat) (acc:List (Sem zg)),l.length - i=m→i≤l.length→acc.length=i→(∀ p∈acc,kF p t.2.1.length)→
  ∃ r,bq xP (m+1) (.h3 l (l.length:Int) (i:Int) (t,()) acc) r∧R6 t l.length r
 | 0,i,acc,hm,hi,ha,hp=>by
  obtain rfl:i=l.length:=by omega
  refine ⟨(.tup [.vec 0,.int .i64 0],[.vec zg acc]),bq.of ?_,acc,0,rfl,fun _=>⟨ha,hp⟩⟩
  simp only [xP,Tr.val,zX,zH,if_false]
 | m+1,i,acc,hm,hi,ha,hp=>by
  have hlt:i < l.length:=by omega
  have hw:=zD i (by unfold zC; omega)
  obtain ⟨x,hx⟩:∃ x,l.getD i (zj aN)=x:=⟨_,rfl⟩
  obtain ⟨k,hk⟩:∃ k,zM t.2.1 x.1=k:=⟨_,rfl⟩
  have ht:∀ n,gQ t n=zM t.2.1 n:=fun _=>rfl
  have stop:∀ (e:Int),e≠0→(xP (.h3 l (l.length:Int) (i:Int) (t,()) acc)).val=some (.inr (.tup [.nils,.int .i64 e],[]))→∃ r,bq xP (m+1+1) (.h3 l (l.length:Int) (i:Int) (t,()) acc) r∧R6 t l.length r:=
   fun e he h=>⟨_,(bq.of h).mono (by omega),[],e,rfl,fun h=>absurd h he⟩
  by_cases c1:LT.lt (α:=Int) k 0
  ·refine stop 4 (by decide) ?_
   simp only [xP,Tr.val,zp,Prod.eta,zT hlt,zB hlt,aT,hx,ht,hk,ay c1,if_true]
  have c1':decide (LT.lt (α:=Int) k 0)=false:=cu c1
  have hin:kF k t.2.1.length:=by
   rcases lh t.2.1 x.1 with c | c
   ·rw [hk] at c; rw [c] at c1; exact absurd (by decide) c1
   ·rw [hk] at c; exact c
  obtain ⟨b,hb⟩:=PZ acc k (by omega)
  have b1:Lp acc k=true:=by unfold Lp; rw [hb]; rfl
  have b2:Wa acc k=b:=by unfold Wa; rw [hb]; rfl
  cases b with
  | true=>
   refine stop 7 (by decide) ?_
   simp only [xP,Tr.val,zp,Prod.eta,zT hlt,zB hlt,aT,hx,ht,hk,c1',b1,b2,zH,if_true,if_false]
  | false=>
  obtain ⟨ty,e,he⟩:∃ (ty e:Int),bg x.2 t.2.1=(ty,e):=⟨_,_,rfl⟩
  by_cases c2:e=0
  case neg=>
   refine stop e c2 ?_
   have c2':(e != 0)=true:=by simpa using c2
   simp only [xP,Tr.val,zp,Prod.eta,zT hlt,zB hlt,aT,hx,ht,hk,c1',b1,b2,he,c2',zH,if_true,if_false]
  subst c2
  cases c3:(bif ty != (getD t.2.1 (Int.toNat k) (zj zi)).2.1 then ty != 0 else false) with
  | true=>
   refine stop 5 (by decide) ?_
   simp only [xP,Tr.val,zp,Prod.eta,zT hlt,zB hlt,aT,hx,ht,hk,c1',b1,b2,he,lw hin,c3,jK,zH,if_true,if_false]
  | false=>
   have h4:decide (acc.length+[k].length≤1073741824)=true:=by simp only [ae,List.length_singleton]; omega
   obtain ⟨r,h1,h2⟩:=CE hl m (i+1) (acc++[k]) (by omega) (by omega) (by simp; omega) (fun p hp'=>by
    rcases bn.1 hp' with hp' | hp'
    ·exact hp p hp'
    ·rw [bO] at hp'; rw [hp']; exact hin)
   refine ⟨r,(aF.of ?_).ends h1,h2⟩
   simp only [xP,Tr.val,zp,Prod.eta,zT hlt,zB hlt,aT,hx,ht,hk,c1',b1,b2,he,lw hin,c3,h4,hw,jK,zH,if_true,if_false]
theorem Kt {db:List (Sem zh)} {s:Sem zm} {t:Sem zx} (hl:(NM s).length≤20):∃ (l:List (Sem zg)) (e:Int),AQ (db,s) t=some (l,e,())∧(e=0→l.length=(NM s).length∧∀ p∈l,kF p t.2.1.length):=by
 obtain ⟨r,h1,l,e,h2,h3⟩:=CE (t:=t) hl (NM s).length 0 [] rfl (aV _) rfl (by simp)
 exact ⟨l,e,bb (s:=.h3 (NM s) ((NM s).length:Int) ((0:Nat):Int) (t,()) []) rfl h1 (by omega) h2,h3⟩

theorem N3 {d:Sem ag} {x:Sem zh} {pl:List (Sem zg)} {es:List ((Int×Int×zo)×Int)} {l:List (Sem aN)} {cur:List (List (Sem zf))} {row:List (Sem zf)} {i nc:Nat} (hl:l.length≤20) (hp:pl.length=l.length) (hin:∀ p∈pl,kF p nc) (hi:i < cur.length) (hi2:i≤1000):
  ∀ (m j:Nat) (buf:List (Sem zf)),l.length - j=m→j≤l.length→buf.length=nc→
  ∃ buf':List (Sem zf),buf'.length=nc∧aF BV (m+1) (.h19 pl (i:Int) row x.2 (x.2.length:Int) (i:Int) l (l.length:Int) (j:Int) (d,()) (x,()) 0 0 es cur i buf) (.h13 pl x.2 (x.2.length:Int) ((i+1:Nat):Int) (d,()) (x,()) 0 0 es (cur.set i buf'))
 | 0,j,buf,hm,hj,hb=>by
  obtain rfl:j=l.length:=by omega
  have hw:=zD i (by unfold zC; omega)
  refine ⟨buf,hb,aF.of ?_⟩
  simp only [BV,Tr.val,zX,hw,zH,if_false]
 | m+1,j,buf,hm,hj,hb=>by
  have hlt:j < l.length:=by omega
  have hltp:j < pl.length:=by omega
  have hw:=zD j (by unfold zC; omega)
  obtain ⟨p,hpp⟩:∃ p,pl.getD j (zj zg)=p:=⟨_,rfl⟩
  have hpin:kF p buf.length:=by rw [hb,← hpp]; exact hin _ (gT hltp)
  have hpd:decide (Int.toNat p < buf.length)=true:=by
   obtain ⟨a,b⟩:=hpin
   simp only [ae]; omega
  obtain ⟨buf',h1,h2⟩:=N3 (row:=row) hl hp hin hi hi2 m (j+1) (buf.set (Int.toNat p) (hZ (l.getD j (zj aN)).2 x.1.2.1 row)) (by omega) (by omega) (by simpa using hb)
  refine ⟨buf',h1,(aF.of ?_).trans h2⟩
  simp only [BV,Tr.val,zp,zT hlt,zB hlt,zB hltp,zB hi,aT,hpp,lw hpin,hpd,hw,decide_true,if_true]

theorem xg {d:Sem ag} {x:Sem zh} {pl:List (Sem zg)} {es:List ((Int×Int×zo)×Int)} {nc:Nat} (hl:d.2.2.2.2.2.2.2.2.2.2.2.1.length≤20) (hp:pl.length=d.2.2.2.2.2.2.2.2.2.2.2.1.length) (hin:∀ p∈pl,kF p nc) (hk:∀ r∈x.2,zI x.1.2.2.1 (length r)=true) (hr:∀ r∈x.2,length r=nc) (hx:x.2.length≤1000) (hnc:nc≤1000):
  ∀ (m i:Nat) (cur:List (List (Sem zf))),x.2.length - i=m→i≤x.2.length→cur.length=x.2.length→(∀ r∈cur,length r=nc)→
  ∃ cur':List (List (Sem zf)),cur'.length=x.2.length∧(∀ r∈cur',length r=nc)∧aF BV (m * 22) (.h13 pl x.2 (x.2.length:Int) (i:Int) (d,()) (x,()) 0 0 es cur) (.h13 pl x.2 (x.2.length:Int) (x.2.length:Int) (d,()) (x,()) 0 0 es cur')
 | 0,i,cur,hm,hi,hc,hcr=>by
  obtain rfl:i=x.2.length:=by omega
  exact ⟨cur,hc,hcr,aF.refl _⟩
 | m+1,i,cur,hm,hi,hc,hcr=>by
  have hlt:i < x.2.length:=by omega
  have hltc:i < cur.length:=by omega
  have hw:=zD i (by unfold zC; omega)
  obtain ⟨r,hrr⟩:∃ r,x.2.getD i (zj zf.sl)=r:=⟨_,rfl⟩
  have hrm:r∈x.2:=by rw [← hrr]; exact gT hlt
  have hrl:=hr r hrm
  have hd:decide (length r≤1073741824)=true:=by simp only [ae]; omega
  cases hv:fN es (getD r (Int.toNat x.1.2.2.1) (zj zf)) with
  | false=>
   obtain ⟨cur',h1,h2,h3⟩:=xg hl hp hin hk hr hx hnc m (i+1) cur (by omega) (by omega) hc hcr
   refine ⟨cur',h1,h2,((aF.of ?_).trans h3).mono (by omega)⟩
   simp only [BV,Tr.val,zT hlt,zB hlt,aT,hrr,hk r hrm,hv,pn,hw,if_true]
  | true=>
   obtain ⟨buf',b1,b2⟩:=N3 (d:=d) (x:=x) (pl:=pl) (es:=es) (l:=d.2.2.2.2.2.2.2.2.2.2.2.1) (cur:=cur) (row:=r) (i:=i) (nc:=nc) hl hp hin hltc (by omega) _ 0 r rfl (aV _) hrl
   obtain ⟨cur',h1,h2,h3⟩:=xg hl hp hin hk hr hx hnc m (i+1) (cur.set i buf') (by omega) (by omega) (by simpa using hc) (fun q hq=>by
    rcases mr hq with hq | rfl
    ·exact hcr q hq
    ·exact b1)
   refine ⟨cur',h1,h2,((aF.of ?_).trans (b2.trans h3)).mono (by omega)⟩
   simp only [BV,Tr.val,zT hlt,zB hlt,aT,hrr,hk r hrm,hv,hd,zB hltc,ay hltc,fG,zH,if_true,if_false]
   rfl

theorem EL {db:List (Sem zh)} {s:Sem zm} {x:Sem zh} {i:Nat} (hB:aM db) (hs:∀ y∈db,cC y) (hS:ey s) (h:zR db s.2.1=(i:Int)) (hx:db.getD i (zj zh)=x):
  ∃ (d:List (Sem zh)) (a:Sem cB),fQ (db,s)=some (d,a,())∧(a.1=0→aM d∧∀ y∈d,cC y)∧(a.1≠0→a=dN a.1):=by
 have hf:(0:Int)≤zR db s.2.1:=by rw [h]; omega
 have hm:=kE hf
 rw [show Int.toNat (zR db s.2.1)=i by rw [h]; rfl,hx] at hm
 have hn:zR db x.1.1=(i:Int):=by rw [oZ h hx,h]
 have hr:=hB.rels x hm
 have hfew:=hr.few
 have hrl:∀ r∈x.2,length r≤1000000:=fun r hr'=>cv (hr.len r hr') (by omega)
 have hl:x.2.length≤1000000:=by omega
 have hb:zI (zR db s.2.1) (length db)=true:=ii hf
 rw [h] at hb
 have hmo:=SR (db,s) x hr.may hl hrl hr.kin
 have h1:decide (LT.lt (α:=Int) (i:Int) 0)=false:=by simp
 have h2:decide (length x.2≤1073741824)=true:=by simp only [ae]; omega
 obtain ⟨es,ce,hes⟩:∃ (es:List ((Int×Int×zo)×Int)) (ce:Int),mO (db,s) x=some (es,ce):=⟨_,_,hmo⟩
 have hel:es.length≤200:=by
  rw [hmo] at hes
  cases hes
  refine cv (Nat.le_of_eq (Do ?_)) ?_
  ·split
   ·exact List.Pairwise.sublist List.filter_sublist hr.pw
   ·exact List.Pairwise.nil
  ·split
   ·exact cv (List.length_filter_le _ _) hr.few
   ·exact aV _
 have hmv:mV (db,s) x=(es,ce):=by unfold mV; rw [hes]; rfl
 have hms:(mO (db,s) x).isSome=true:=by rw [hes]; rfl
 obtain ⟨pl,e,p1,p2⟩:=Kt (db:=db) (s:=s) (t:=x.1) hS.sets.1
 have hsc:EK (db,s) x.1=true:=by unfold EK; rw [p1]; rfl
 have hsv:Ks (db,s) x.1=(pl,e):=by unfold Ks; rw [p1]; rfl
 by_cases he:e=0
 case neg=>
  have he':(e != 0)=true:=by simpa using he
  obtain ⟨f1,f2⟩:=hM e
  refine ⟨[],dN e,?_,fun h=>absurd h he,fun _=>rfl⟩
  unfold fQ zW bh
  simp only [IY,Tr.val,zp,Prod.eta,h,h1,hb,aT,hx,hsc,hsv,he',f1,f2,zH,if_true,if_false]
  rfl
 subst he
 obtain ⟨q1,q2⟩:=p2 rfl
 by_cases hc:ce=0
 case neg=>
  have he':(ce != 0)=true:=by simpa using hc
  obtain ⟨f1,f2⟩:=hM ce
  refine ⟨[],dN ce,?_,fun h=>absurd h hc,fun _=>rfl⟩
  unfold fQ zW bh
  simp only [IY,Tr.val,zp,Prod.eta,h,h1,hb,aT,hx,hsc,hsv,hmv,hms,he',f1,f2,jK,zH,if_true,if_false]
  rfl
 subst hc
 have hnc:∀ r∈x.2,length r=x.1.2.1.length:=fun r hr'=>mE (by simpa using hr.fits r hr')
 obtain ⟨_,_,_,hc8,_⟩:=gL hr.may
 obtain ⟨cur,c1,c2,c3⟩:=xg (d:=(db,s)) (x:=x) (pl:=pl) (es:=es) (nc:=x.1.2.1.length) hS.sets.1 q1 q2 hr.kin hnc (by omega) (by omega) x.2.length 0 x.2 rfl (aV _) rfl hnc
 have hi:(IY (db,s)).val=some (.inl (.h13 pl x.2 (x.2.length:Int) ((0:Nat):Int) ((db,s),()) (x,()) 0 0 es x.2)):=by
  simp only [IY,Tr.val,zp,Prod.eta,h,h1,h2,hb,aT,hx,hmv,hms,hsc,hsv,jK,zH,if_true,if_false]
  rfl
 obtain ⟨l,e,b,r1,_,r3,r4,r5⟩:=uv (s:=s) (t:=x.1) (rows:=cur) (es.length:Int) hB hs hn (by rw [hx]) (by omega) (fun r hr'=>by rw [c2 r hr']; omega)
 have hcc:kr (db,s) (x.1,cur) (es.length:Int)=true:=by unfold kr; rw [r5]; rfl
 have h4:decide (es.length≤1073741824)=true:=by simp only [ae]; omega
 obtain ⟨d,a,hda⟩:∃ (d:List (Sem zh)) (a:Sem cB),jl (db,s) (x.1,cur) (es.length:Int)=some (d,a,()):=⟨_,_,r5⟩
 have hcv:nj (db,s) (x.1,cur) (es.length:Int)=(d,a):=by unfold nj; rw [hda]; rfl
 have hend:(BV (.h13 pl x.2 (x.2.length:Int) (x.2.length:Int) ((db,s),()) (x,()) 0 0 es cur)).val=some (.inr (.tup [.sl zh d,.agg [.int .i64 a.1,.int .i64 a.2.1,.sl zf.sl a.2.2]],[])):=by
  simp only [BV,Tr.val,zX,zp,Prod.eta,h4,hcc,hcv,zH,if_true,if_false]
 refine ⟨d,a,bb hi (c3.ends (bq.of hend)) (by omega) rfl,fun ha=>?_,fun ha=>?_⟩
 all_goals
  rw [r5] at hda
  simp only [ao,bC,and_true] at hda
  obtain ⟨d1,a1⟩:=hda
 ·by_cases he:e=0
  ·rw [if_pos he] at d1 a1
   cases b with
   | true=>
    rw [if_pos rfl] at d1
    have hrel:=r3.1 he
    subst d1
    have hbo:aM (db.set i (x.1,l)):=hB.put (x:=(x.1,l)) (by rw [hx]) hrel ((r4 he).1 rfl)
    exact ⟨hbo,wY hs ⟨x,hm,rfl⟩ (cv hrel.few (by omega))⟩
   | false=>
    rw [if_neg (by simp)] at a1
    rw [← a1] at ha
    cases ha
  ·rw [if_neg he] at a1
   rw [← a1] at ha
   exact absurd ha he
 ·by_cases he:e=0
  ·rw [if_pos he] at a1
   cases b with
   | true=>rw [if_pos rfl] at a1; rw [← a1] at ha; exact absurd rfl ha
   | false=>rw [if_neg (by simp)] at a1; rw [← a1]
  ·rw [if_neg he] at a1
   rw [← a1]
set_option maxHeartbeats 1000000

theorem fm:∀ {a b:zo},Op.bytesLess a b=false→a≠b→Op.bytesLess b a=true
 | [],[],_,h=>absurd rfl h
 | [],_::_,h,_=>by simp [Op.bytesLess] at h
 | _::_,[],_,_=>rfl
 | a::x,b::y,h,hn=>by
  simp only [Op.bytesLess,Bool.or_eq_false_iff,decide_eq_false_iff_not,Bool.and_eq_false_iff,jH,rX,ae,aL,eT] at h ⊢
  by_cases e:a=b
  ·subst e
   refine .inr ⟨rfl,fm (h.2.resolve_left fun g=>g rfl) fun g=>hn (by rw [g])⟩
  ·exact .inl (UInt8.lt_of_le_of_ne (UInt8.not_lt.1 h.1) (Ne.symm e))

def I7 (x y:Sem zh):Prop:=Op.bytesLess x.1.1 y.1.1=true
theorem kI {x y z:Sem zh} (h:I7 x y) (g:I7 y z):I7 x z:=fq h g
theorem aM.pw {db:List (Sem zh)} (h:aM db):db.Pairwise I7:=(nL (R:=I7) kI).1 h.names

def gW (db:List (Sem zh)) (x:Sem zh):Nat:=let k:Int:=zL (fun y:Sem zh=>Op.bytesLess x.1.1 y.1.1) db 0; if k < 0 then db.length else k.toNat
def fZ (db:List (Sem zh)) (x:Sem zh):List (Sem zh):=db.take (gW db x)++x::db.drop (gW db x)

theorem Hg {db:List (Sem zh)} {n:zo} (h:zR db n=(-1:Int)):∀ y∈db,y.1.1≠n:=by
 rcases cn (fun x:Sem zh=>x.1.1==n) db 0 with ⟨_,h1⟩ | ⟨k,_,h1,_⟩
 ·intro y hy e
  have:=h1 y hy
  rw [e,beq_self_eq_true] at this
  cases this
 ·have e:((0+k:Nat):Int)=-1:=(show zR db n=((0+k:Nat):Int) from h1).symm.trans h
  exact absurd e (by omega)

theorem FD (db:List (Sem zh)) (x:Sem zh) (h:db.Pairwise I7) (hn:∀ y∈db,y.1.1≠x.1.1):gW db x≤db.length∧(∀ y∈db.take (gW db x),I7 y x)∧∀ y∈db.drop (gW db x),I7 x y:=by
 unfold gW
 rcases cn (fun y:Sem zh=>Op.bytesLess x.1.1 y.1.1) db 0 with ⟨h0,h1⟩ | ⟨k,hk,h0,h1,h2⟩
 ·simp only [h0]
  rw [if_pos (by decide)]
  refine ⟨bd _,fun y hy=>?_,fun y hy=>?_⟩
  ·rw [List.take_length] at hy
   exact fm (h1 y hy) (hn y hy).symm
  ·rw [cL] at hy; cases hy
 ·simp only [h0,ez]
  rw [if_neg (by omega),aT]
  refine ⟨Nat.le_of_lt hk,fun y hy=>fm (h2 y hy) (hn y (List.mem_of_mem_take hy)).symm,fun y hy=>?_⟩
  rw [dw hk] at hy
  rcases cY.1 hy with rfl | hy
  ·exact h1
  ·refine kI (show I7 x db[k] from h1) ?_
   have:=List.Pairwise.sublist (List.drop_sublist k db) h
   rw [dw hk] at this
   exact (List.pairwise_cons.1 this).1 y hy

theorem M5 {db:List (Sem zh)} {x:Sem zh} (h:db.Pairwise I7) (hn:∀ y∈db,y.1.1≠x.1.1):(fZ db x).Pairwise I7:=by
 obtain ⟨_,h1,h2⟩:=FD db x h hn
 unfold fZ
 rw [List.pairwise_append]
 refine ⟨List.Pairwise.sublist (List.take_sublist _ _) h,List.pairwise_cons.2 ⟨h2,List.Pairwise.sublist (List.drop_sublist _ _) h⟩,fun a ha b hb=>?_⟩
 rcases cY.1 hb with rfl | hb
 ·exact h1 a ha
 ·exact kI (h1 a ha) (h2 b hb)
theorem ry {db:List (Sem zh)} {x y:Sem zh}:y∈fZ db x↔y=x∨y∈db:=by
 unfold fZ
 rw [bn,cY]
 have:y∈db↔y∈db.take (gW db x)∨y∈db.drop (gW db x):=by
  rw [← bn,List.take_append_drop]
 rw [this]
 exact ⟨fun h=>by rcases h with h | h | h <;> simp [h],fun h=>by rcases h with h | h | h <;> simp [h]⟩
theorem Aa (db:List (Sem zh)) (x:Sem zh):(fZ db x).length=db.length+1:=by
 unfold fZ
 have:=congrArg length (List.take_append_drop (gW db x) db)
 rw [pk] at this
 rw [pk,oe]
 omega

theorem aM.more {db:List (Sem zh)} {x:Sem zh} (h:aM db) (hn:zR db x.1.1=(-1:Int)) (hl:db.length < 12) (hx:cj x) (hb:mj (fZ db x)):aM (fZ db x) where
 few:=by rw [Aa]; omega
 names:=(nL (R:=I7) kI).2 (M5 h.pw (Hg hn))
 rels:=fun y hy=>by
  rcases ry.1 hy with rfl | hy
  ·exact hx
  ·exact h.rels y hy
 bound:=hb

theorem aM.less {db:List (Sem zh)} {n:zo} (h:aM db) (hb:mj (bx db n)):aM (bx db n) where
 few:=cv List.filter_sublist.length_le h.few
 names:=(nL (R:=I7) kI).2 (List.Pairwise.sublist List.filter_sublist h.pw)
 rels:=fun y hy=>h.rels y (List.mem_filter.1 hy).1
 bound:=hb

theorem pU {α:Type} {p q:α→Bool}:∀ (l:List α) (i:Nat),(∀ x∈l,p x=q x)→zL p l i=zL q l i
 | [],_,_=>rfl
 | x::r,i,h=>by
  rw [zL,zL,h x (by simp),pU r (i+1) fun y hy=>h y (by simp [hy])]
theorem zcJ {a b:zo} (h:a≠b):(!(Op.bytesLess a b||a==b))=Op.bytesLess b a:=by
 have e:(a==b)=false:=by simpa using h
 rw [e,Bool.or_false]
 cases h1:Op.bytesLess a b with
 | false=>exact (fm h1 h).symm
 | true=>
  cases h2:Op.bytesLess b a with
  | false=>rfl
  | true=>have:=fq h1 h2; rw [eJ] at this; cases this

theorem Is {db:List (Sem zh)} {x:Sem zh} (h:zR db x.1.1=(-1:Int)) (hl:db.length≤1000000):lm db x=some (fZ db x,()):=by
 have h0:decide (length db≤1073741824)=true:=ay (by omega)
 have h1:decide (length db+1≤1073741824)=true:=ay (by omega)
 have hd:decide ((-1:Int) ≥ 0)=false:=rfl
 have hix:zL (fun y:Sem zh => !(Op.bytesLess y.1.1 x.1.1||y.1.1==x.1.1)) db 0=zL (fun y:Sem zh=>Op.bytesLess x.1.1 y.1.1) db 0:=pU db 0 fun y hy=>zcJ (Hg h y hy)
 have hs:((length db:Int)==(length db:Int))=true:=by simp
 obtain ⟨r,e1,e2⟩:∃ r,(LL db x).val=some (.inr (.vec 0,[.vec zh r]))∧r=fZ db x:=by
  unfold fZ gW
  rcases cn (fun y:Sem zh=>Op.bytesLess x.1.1 y.1.1) db 0 with ⟨h2,_⟩ | ⟨k,hk,h2,_⟩
  ·refine ⟨db++[x],?_,?_⟩
   ·simp only [LL,Tr.val,zp,Prod.eta,h,h0,h1,hd,hix,h2,hs,zH,if_true,if_false]
    rfl
   ·simp only [h2]
    rw [if_pos (by decide),List.take_length,cL]
  ·rw [ez] at h2
   have h3:decide (LT.lt (α:=Int) (k:Int) 0)=false:=by simp
   have h4:((k:Int)==(length db:Int))=false:=by
    refine jH.2 fun e=>?_
    have:(k:Int)=(length db:Int):=e
    omega
   refine ⟨G5 db (k:Int) x,?_,?_⟩
   ·simp only [LL,Tr.val,zp,Prod.eta,h,h0,h1,hd,hix,h2,h3,h4,zB hk,zH,if_true,if_false]
   ·simp only [h2]
    rw [if_neg (by omega)]
    rfl
 unfold lm zW bh
 rw [e1,e2]
 rfl

theorem cj.new {t:Sem zx} (h:gq t=true):cj ((t,[]):Sem zh) where
 may:=h
 few:=by simp
 fits:=by simp
 key:=List.Pairwise.nil
 uniq:=fun _ _=>List.Pairwise.nil
 rise:=fun i hi=>by simp at hi

theorem Li {db:List (Sem zh)} {n:zo} (h:¬ LE.le (α:=Int) 0 (zR db n)):zR db n=(-1:Int):=by
 rcases cn (fun x:Sem zh=>x.1.1==n) db 0 with ⟨h1,_⟩ | ⟨k,_,h1,_⟩
 ·exact h1
 ·exfalso
  apply h
  have:zR db n=((0+k:Nat):Int):=h1
  rw [this]
  exact Int.natCast_nonneg _

theorem EE {db:List (Sem zh)} {s:Sem zm} {t:Sem zx} {e:Int} (hB:aM db) (hs:∀ y∈db,cC y) (h:Jw s=some (t,e,())) (ht:e=0→gq t=true∧cC ((t,[]):Sem zh)):
  (e≠0∧dW (db,s)=some ([],dN e,()))∨(e=0∧LE.le (α:=Int) 0 (zR db t.1)∧dW (db,s)=some ([],dN 7,()))∨
  (e=0∧zR db t.1=(-1:Int)∧12≤db.length∧dW (db,s)=some ([],dN 13,()))∨
  (e=0∧zR db t.1=(-1:Int)∧db.length < 12∧∃ b:Bool,(b=true↔mj (fZ db (t,[])))∧dW (db,s)=some (if b=true then fZ db (t,[]) else [],if b=true then (0,1,[]) else dN 10,())):=by
 have sc:XW s=true:=by unfold XW; rw [h]; rfl
 have sv:sOf s=(t,e):=by unfold sOf; rw [h]; rfl
 by_cases he:e=0
 case neg=>
  refine .inl ⟨he,?_⟩
  have he':(e != 0)=true:=by simpa using he
  obtain ⟨f1,f2⟩:=hM e
  unfold dW zW bh
  simp only [LD,Tr.val,zp,Prod.eta,sc,sv,he',f1,f2,if_true]
  rfl
 subst he
 obtain ⟨hm,hsh⟩:=ht rfl
 have h0:((0:Int) != 0)=false:=rfl
 by_cases hf:LE.le (α:=Int) 0 (zR db t.1)
 ·refine .inr (.inl ⟨rfl,hf,?_⟩)
  obtain ⟨f1,f2⟩:=hM 7
  have hf':decide (GE.ge (α:=Int) (zR db t.1) 0)=true:=ay hf
  unfold dW zW bh
  simp only [LD,Tr.val,zp,Prod.eta,sc,sv,h0,hf',f2,zH,if_true,if_false]
  rfl
 have hf':decide (GE.ge (α:=Int) (zR db t.1) 0)=false:=cu hf
 have hn:=Li hf
 by_cases hl:12≤db.length
 ·refine .inr (.inr (.inl ⟨rfl,hn,hl,?_⟩))
  obtain ⟨f1,f2⟩:=hM 13
  have hl':decide ((length db:Int) ≥ 12)=true:=ay (by omega)
  unfold dW zW bh
  simp only [LD,Tr.val,zp,Prod.eta,sc,sv,h0,hf',hl',f2,zH,if_true,if_false]
  rfl
 refine .inr (.inr (.inr ⟨rfl,hn,by omega,?_⟩))
 have hl':decide ((length db:Int) ≥ 12)=false:=cu (by omega)
 have hmem:∀ y∈fZ db (t,[]),cj y∧cC y:=fun y hy=>by
  rcases ry.1 hy with rfl | hy
  ·exact ⟨cj.new hm,hsh⟩
  ·exact ⟨hB.rels y hy,hs y hy⟩
 obtain ⟨b,b1,b2⟩:=g5 (db:=fZ db (t,[])) (fun y hy=>(hmem y hy).1.cols) (fun y hy=>(hmem y hy).2.sh) (by rw [Aa]; omega)
 have hw:=Is (db:=db) (x:=(t,[])) hn (by omega)
 have hwc:jm db (t,[])=true:=by unfold jm; rw [hw]; rfl
 have hwv:jP db (t,[])=fZ db (t,[]):=by unfold jP; rw [hw]; rfl
 have hk:=pC 1 b1
 have hkc:gA (fZ db (t,[])) 1=true:=by unfold gA; rw [hk]; rfl
 have hkv:kv (fZ db (t,[])) 1=(if b=true then fZ db (t,[]) else [],if b=true then (0,1,[]) else dN 10):=by unfold kv; rw [hk]; rfl
 refine ⟨b,b2,?_⟩
 unfold dW zW bh
 simp only [LD,Tr.val,zp,Prod.eta,sc,sv,h0,hf',hl',hwc,hwv,hkc,hkv,zH,if_true,if_false]
 cases b <;> rfl

theorem Kv {db:List (Sem zh)} {n:zo} (hl:db.length≤1000000):uC db n=some (bx db n,()):=by
 have h0:decide (length db≤1073741824)=true:=ay (by omega)
 have h1:decide (length db≤1000000)=true:=ay hl
 unfold uC zW bh
 by_cases h:(zL (I8 n) db 0==-1)=true
 ·have hE:bx db n=db:=by
   refine List.filter_eq_self.2 fun y hy=>?_
   rcases cn (I8 n) db 0 with ⟨_,q⟩ | ⟨k,_,q,_⟩
   ·have:=q y hy
    show (!I8 n y)=true
    rw [this]; rfl
   ·rw [q] at h
    exact absurd h (by simp)
  simp only [Wk,Tr.val,h0,h1,h,if_true,hE]
  rfl
 ·simp only [Wk,Tr.val,h0,h1,if_true]
  rw [if_neg h]
  rfl

theorem EG {db:List (Sem zh)} {s:Sem zm} (h:LT.lt (α:=Int) (zR db s.2.1) 0):mw (db,s)=some ([],dN 6,()):=by
 have h1:decide (LT.lt (α:=Int) (zR db s.2.1) 0)=true:=ay h
 unfold mw zW bh
 simp only [Wb,Tr.val,h1,if_true]
 rfl
theorem Kr {db:List (Sem zh)} {s:Sem zm} (hB:aM db) (hs:∀ y∈db,cC y) (h:¬ LT.lt (α:=Int) (zR db s.2.1) 0):
  ∃ b:Bool,(b=true↔mj (bx db s.2.1))∧mw (db,s)=some (if b=true then bx db s.2.1 else [],if b=true then (0,1,[]) else dN 10,()):=by
 have hd:=hB.few
 have hsub:∀ y∈bx db s.2.1,y∈db:=fun y hy=>(List.mem_filter.1 hy).1
 have hlen:(bx db s.2.1).length≤db.length:=List.filter_sublist.length_le
 obtain ⟨b,b1,b2⟩:=g5 (db:=bx db s.2.1) (fun y hy=>(hB.rels y (hsub y hy)).cols) (fun y hy=>(hs y (hsub y hy)).sh) (by omega)
 have h1:decide (LT.lt (α:=Int) (zR db s.2.1) 0)=false:=cu h
 have hw:=Kv (db:=db) (n:=s.2.1) (by omega)
 have hwc:EM db s.2.1=true:=by unfold EM; rw [hw]; rfl
 have hwv:Ku db s.2.1=bx db s.2.1:=by unfold Ku; rw [hw]; rfl
 have hk:=pC 1 b1
 have hkc:gA (bx db s.2.1) 1=true:=by unfold gA; rw [hk]; rfl
 have hkv:kv (bx db s.2.1) 1=(if b=true then bx db s.2.1 else [],if b=true then (0,1,[]) else dN 10):=by unfold kv; rw [hk]; rfl
 refine ⟨b,b2,?_⟩
 unfold mw zW bh
 simp only [Wb,Tr.val,h1,hwc,hwv,hkc,hkv,zH,if_true,if_false]
 cases b <;> rfl

abbrev VC:zo:=[100,114,111,112]
theorem s9 {db:List (Sem zh)} {s:Sem zm} {n:List (Sem zh)} {a:Sem cB} (hs:ey s) (hr:∀ x∈db,cI x) (hm:eU s=true) (hB:aM db) (ho:s.1=Km) (hc:dW (db,s)=some (n,a,())):
  jk db s=some (if a.1=0 then n else db,a,()):=by
 have h1:=dK hs
 have h2:=dh hr
 have h5:fx db=(0:Int):=(fH hr).2 hB
 have q0:(s.1==[99,114,101,97,116,101])=true:=by rw [ho]; rfl
 have hcc:ux (db,s)=true:=by unfold ux; rw [hc]; rfl
 have hcv:AL (db,s)=(n,a):=by unfold AL; rw [hc]; rfl
 unfold jk zW bh
 simp only [Oa,Tr.val,zp,Prod.eta,hm,h1,h2,h5,hcc,hcv,q0,fG,bQ,jK,og,zH,if_true,if_false]
 by_cases h:a.1=0
 ·have h':(a.1 != 0)=false:=by simpa using h
  simp only [h',zH,if_false,if_pos h]
  rfl
 ·have h':(a.1 != 0)=true:=by simpa using h
  simp only [h',if_true,if_neg h]
  rfl
theorem GD {db:List (Sem zh)} {s:Sem zm} {n:List (Sem zh)} {a:Sem cB} (hs:ey s) (hr:∀ x∈db,cI x) (hm:eU s=true) (hB:aM db) (ho:s.1=VC) (hc:mw (db,s)=some (n,a,())):
  jk db s=some (if a.1=0 then n else db,a,()):=by
 have h1:=dK hs
 have h2:=dh hr
 have h5:fx db=(0:Int):=(fH hr).2 hB
 have q0:(s.1==[99,114,101,97,116,101])=false:=by rw [ho]; rfl
 have q1:(s.1==[100,114,111,112])=true:=by rw [ho]; rfl
 have hcc:EF (db,s)=true:=by unfold EF; rw [hc]; rfl
 have hcv:Kq (db,s)=(n,a):=by unfold Kq; rw [hc]; rfl
 unfold jk zW bh
 simp only [Oa,Tr.val,zp,Prod.eta,hm,h1,h2,h5,hcc,hcv,q0,q1,fG,bQ,jK,og,zH,if_true,if_false]
 by_cases h:a.1=0
 ·have h':(a.1 != 0)=false:=by simpa using h
  simp only [h',zH,if_false,if_pos h]
  rfl
 ·have h':(a.1 != 0)=true:=by simpa using h
  simp only [h',if_true,if_neg h]
  rfl
theorem Kh {db:List (Sem zh)} {s:Sem zm} (h0:s.1≠Km) (h1:s.1≠VC) (h2:s.1≠P6) (h3:s.1≠X8) (h4:s.1≠VB) (h5:s.1≠sX):jk db s=some (db,dN 1,()):=by
 have q0:(s.1==[99,114,101,97,116,101])=false:=jH.2 h0
 have q1:(s.1==[100,114,111,112])=false:=jH.2 h1
 have q2:(s.1==[105,110,115,101,114,116])=false:=jH.2 h2
 have q3:(s.1==[117,112,100,97,116,101])=false:=jH.2 h3
 have q4:(s.1==[100,101,108,101,116,101])=false:=jH.2 h4
 have q5:(s.1==[115,101,108,101,99,116])=false:=jH.2 h5
 unfold jk zW bh
 simp only [Oa,Tr.val,q0,q1,q2,q3,q4,q5,zH,if_true,if_false]
 rfl

def J6 (db:List (Sem zh)) (s:Sem zm):Prop:=∃ (d:List (Sem zh)) (a:Sem cB),jk db s=some (d,a,())∧aM d∧(∀ y∈d,cC y)∧(a.1≠0→d=db∧a=dN a.1)∧(s.1=sX→d=db)
theorem xA {s:Sem zm} {t:Sem zx} (h1:t.2.2.2.1.length≤20) (h2:t.2.2.2.2.1.length≤20) (h3:t.2.2.2.2.2=dO s) (hcp:kX 16 (dO s)=true):cC ((t,[]):Sem zh):=
 ⟨⟨by show t.2.2.2.1.length≤1000; omega,by show t.2.2.2.2.1.length≤1000; omega,by simp⟩,by show kX 16 t.2.2.2.2.2=true; rw [h3]; exact hcp⟩
theorem BZ {x:Sem zh} {p:List (Sem zf)→Bool} (h:cC x):cC (dH x p):=⟨sK h.sh,h.cp⟩

theorem zbR {db:List (Sem zh)} {s:Sem zm} (hs:∀ y∈db,cC y) (hB:aM db) (hS:ey s) (hcp:kX 16 (dO s)=true):J6 db s:=by
 have hsr:∀ y∈db,cI y:=fun y hy=>(hs y hy).sh
 have same:∀ {a:Sem cB},jk db s=some (db,a,())→(a.1≠0→a=dN a.1)→J6 db s:=fun h h'=>⟨db,_,h,hB,hs,fun g=>⟨rfl,h' g⟩,fun _=>rfl⟩
 have err:∀ {n:List (Sem zh)} {a:Sem cB},jk db s=some (if a.1=0 then n else db,a,())→(a.1=0→aM n∧∀ y∈n,cC y)→(a.1≠0→a=dN a.1)→s.1≠sX→J6 db s:=by
  intro n a h g g' hne
  by_cases h0:a.1=0
  ·rw [if_pos h0] at h
   exact ⟨n,a,h,(g h0).1,(g h0).2,fun h=>absurd h0 h,fun h=>absurd h hne⟩
  ·rw [if_neg h0] at h
   exact same h g'
 by_cases hm:eU s=true
 case neg=>exact same (GB hS hsr fun h=>hm h.1) fun _=>rfl
 by_cases h0:s.1=Km
 ·obtain ⟨t,e,k1,k2⟩:=XX hS hcp h0 hm
  have hne:s.1≠sX:=by rw [h0]; decide
  have ht:e=0→gq t=true∧cC ((t,[]):Sem zh):=fun h=>by
   obtain ⟨_,q2,q3,q4,q5⟩:=k2 h
   exact ⟨q2,xA q3 q4 q5 hcp⟩
  rcases EE hB hs k1 ht with ⟨g0,g⟩ | ⟨_,_,g⟩ | ⟨_,_,_,g⟩ | ⟨g0,g1,g2,b,g3,g⟩
  ·exact err (s9 hS hsr hm hB h0 g) (fun h=>absurd h g0) (fun _=>rfl) hne
  ·exact err (s9 hS hsr hm hB h0 g) (fun h=>by cases h) (fun _=>rfl) hne
  ·exact err (s9 hS hsr hm hB h0 g) (fun h=>by cases h) (fun _=>rfl) hne
  ·have g:=s9 hS hsr hm hB h0 g
   cases b with
   | false=>exact err g (fun h=>by cases h) (fun _=>rfl) hne
   | true=>
    refine err g (fun _=>⟨hB.more (x:=(t,[])) g1 g2 (cj.new (ht g0).1) (g3.1 rfl),fun y hy=>?_⟩) (fun h=>absurd rfl h) hne
    rcases ry.1 hy with rfl | hy
    ·exact (ht g0).2
    ·exact hs y hy
 by_cases h1:s.1=VC
 ·have hne:s.1≠sX:=by rw [h1]; decide
  by_cases hf:LT.lt (α:=Int) (zR db s.2.1) 0
  ·exact err (GD hS hsr hm hB h1 (EG hf)) (fun h=>by cases h) (fun _=>rfl) hne
  ·obtain ⟨b,g1,g⟩:=Kr hB hs hf
   have g:=GD hS hsr hm hB h1 g
   cases b with
   | false=>exact err g (fun h=>by cases h) (fun _=>rfl) hne
   | true=>exact err g (fun _=>⟨hB.less (g1.1 rfl),fun y hy=>hs y (List.mem_filter.1 hy).1⟩) (fun h=>absurd rfl h) hne
 by_cases h2:s.1=P6
 ·obtain ⟨d,a,g1,g2,g3,g4⟩:=zbS hs hS h2
  by_cases ha:a.1=0
  ·obtain ⟨⟨_,_,_,_,_,hb⟩,_,_⟩:=g3 ha
   exact ⟨d,a,g1,hb,g2,fun h=>absurd ha h,fun h=>by rw [h2] at h; cases h⟩
  ·obtain ⟨e1,e2⟩:=g4 ha
   subst e1
   exact same g1 fun _=>e2
 have fnd:¬ LT.lt (α:=Int) (zR db s.2.1) 0→∃ (i:Nat) (x:Sem zh),zR db s.2.1=(i:Int)∧db.getD i (zj zh)=x∧x∈db:=fun h=>by
  have hf:=Int.not_lt.1 h
  have hm:=kE hf
  exact ⟨Int.toNat (zR db s.2.1),_,(Int.toNat_of_nonneg hf).symm,rfl,hm⟩
 by_cases h3:s.1=X8
 ·have hne:s.1≠sX:=by rw [h3]; decide
  by_cases hf:LT.lt (α:=Int) (zR db s.2.1) 0
  ·have g:fQ (db,s)=some ([],dN 6,()):=by
    have k1:decide (LT.lt (α:=Int) (zR db s.2.1) 0)=true:=ay hf
    unfold fQ zW bh
    simp only [IY,Tr.val,k1,if_true]
    rfl
   exact err (GH hS hsr hm hB h3 g) (fun h=>by cases h) (fun _=>rfl) hne
  ·obtain ⟨i,x,k1,k2,_⟩:=fnd hf
   obtain ⟨d,a,g1,g2,g3⟩:=EL hB hs hS k1 k2
   exact err (GH hS hsr hm hB h3 g1) g2 g3 hne
 by_cases h4:s.1=VB
 ·have hne:s.1≠sX:=by rw [h4]; decide
  by_cases hf:LT.lt (α:=Int) (zR db s.2.1) 0
  ·have g:hY (db,s)=some ([],dN 6,()):=by
    have k1:decide (LT.lt (α:=Int) (zR db s.2.1) 0)=true:=ay hf
    unfold hY zW bh
    simp only [We,Tr.val,k1,if_true]
    rfl
   exact err (GC hS hsr hm hB h4 g) (fun h=>by cases h) (fun _=>rfl) hne
  ·obtain ⟨i,x,k1,k2,k3⟩:=fnd hf
   obtain ⟨b,g1,g⟩:=EJ hB hsr k1 k2
   have g:=GC hS hsr hm hB h4 g
   by_cases hc:cP (me s) x.1.2.1=0
   ·simp only [if_pos hc] at g
    cases b with
    | false=>exact err g (fun h=>by cases h) (fun _=>rfl) hne
    | true=>
     have hr:=hB.rels x k3
     refine err g (fun _=>⟨hB.put (x:=dH x (pS s x)) (by rw [k2]; rfl) (cj.sub (t:=x.1) (l:=x.2) hr List.filter_sublist) (g1.1 rfl),fun y hy=>?_⟩) (fun h=>absurd rfl h) hne
     rcases mr hy with hy | rfl
     ·exact hs y hy
     ·exact BZ (hs x k3)
   ·simp only [if_neg hc] at g
    exact same g fun _=>rfl
 by_cases h5:s.1=sX
 ·by_cases hf:LT.lt (α:=Int) (zR db s.2.1) 0
  ·have g:=GG hS hsr hm hB h5 (AK hf)
   exact same (a:=dN 6) g fun _=>rfl
  ·obtain ⟨i,x,k1,k2,k3⟩:=fnd hf
   have hr:=hB.rels x k3
   have g:=GG hS hsr hm hB h5 (ED k1 k2 (cv hr.few (by omega)) (fun r h=>cv (hr.len r h) (by omega)))
   by_cases hc:cP (me s) x.1.2.1=0
   ·simp only [if_pos hc,if_true] at g
    exact same g fun h=>absurd rfl h
   ·simp only [if_neg hc] at g
    exact same g fun _=>rfl
 exact same (Kh h0 h1 h2 h3 h4 h5) fun _=>rfl
noncomputable section

abbrev WC:=lz [(4,[0,1,5])]
inductive tS where
 | h4 (l0:List (Sem zf)) (l1:List (Sem zf)) (i5:Int)
abbrev zbV:tS→Nat×St
 | .h4 l0 l1 i5=>(4,⟨tm 26 [(0,AV.sl zf l0),(1,AV.sl zf l1),(5,AV.int .i64 i5)],[]⟩)
def zcN (x0:Sem zf.sl) (x1:Sem zf.sl):Tr (tS ⊕ aj):=
 Tr.br ((↑(length x0):Int) != (↑(length x1):Int)) (Tr.re (AV.kb false) []) (Tr.to (tS.h4 x0 x1 0))
def H0:tS→Tr (tS ⊕ aj)
 | .h4 l0 l1 i5=>
  let a0:=l0.getD i5.toNat (zj zf)
  let a1:=l1.getD i5.toNat (zj zf)
  Tr.br (decide (i5 < (↑l0.length:Int)))
  (Tr.chk (zI i5 l0.length) (Tr.chk (zI i5 l1.length) (Tr.br (!(a0.1==a1.1&&(a0.2.1==a1.2.1&&(a0.2.2==a1.2.2&&true)))) (Tr.re (AV.kb false) []) (Tr.to (tS.h4 l0 l1 (IntKind.i64.wrap (i5+1)))))))
  (Tr.re (AV.kb true) [])
def tP (x0:Sem zf.sl) (x1:Sem zf.sl):=zW [Sh.bool] H0 100000000 (zcN x0 x1)
def B4 (x0:Sem zf.sl) (x1:Sem zf.sl):=(tP x0 x1).isSome
def xh (x0:Sem zf.sl) (x1:Sem zf.sl):=o1 (tP x0 x1)
def QR:=FT [zf.sl,zf.sl] [Sh.bool] fun x=>tP x.1 x.2.1
theorem Og:FK 104 QR:=yV.T1 (f:=Tryz.f104) (keep:=WC) (e:=zbV)

def Sm:=Sv.add 104 QR
theorem yN:zl Sm:=yV.add Og
end
noncomputable section

abbrev zdA:=lz [(4,[0,1,5])]
inductive Eo where
 | h4 (l0:List (Sem zf.sl)) (l1:List (Sem zf.sl)) (i5:Int)
abbrev zf1:Eo→Nat×St
 | .h4 l0 l1 i5=>(4,⟨tm 27 [(0,AV.sl zf.sl l0),(1,AV.sl zf.sl l1),(5,AV.int .i64 i5)],[]⟩)
def zhj (x0:Sem zf.sl.sl) (x1:Sem zf.sl.sl):Tr (Eo ⊕ aj):=
 Tr.br ((↑(length x0):Int) != (↑(length x1):Int)) (Tr.re (AV.kb false) []) (Tr.to (Eo.h4 x0 x1 0))
def QE:Eo→Tr (Eo ⊕ aj)
 | .h4 l0 l1 i5=>
  let a0:=l0.getD i5.toNat (zj zf.sl)
  let a1:=l1.getD i5.toNat (zj zf.sl)
  Tr.br (decide (i5 < (↑l0.length:Int)))
  (Tr.chk (zI i5 l0.length) (Tr.chk (zI i5 l1.length) (Tr.chk (B4 a0 a1) (Tr.br (!xh a0 a1) (Tr.re (AV.kb false) []) (Tr.to (Eo.h4 l0 l1 (IntKind.i64.wrap (i5+1))))))))
  (Tr.re (AV.kb true) [])
def tv (x0:Sem zf.sl.sl) (x1:Sem zf.sl.sl):=zW [Sh.bool] QE 100000000 (zhj x0 x1)
def tt (x0:Sem zf.sl.sl) (x1:Sem zf.sl.sl):=(tv x0 x1).isSome
def rF (x0:Sem zf.sl.sl) (x1:Sem zf.sl.sl):=o1 (tv x0 x1)
def Zy:=FT [zf.sl.sl,zf.sl.sl] [Sh.bool] fun x=>tv x.1 x.2.1
theorem UE:FK 61 Zy:=yN.T1 (f:=Tryz.f61) (keep:=zdA) (e:=zf1)

def Sn:=Sm.add 61 Zy
theorem IM:zl Sn:=yN.add UE
end
noncomputable section
def La:=Sn.add 60 Tf
theorem vD:zl La:=IM.add JX

def zc8 (x0:Sem zh) (x1:Sem zh):Tr (Empty ⊕ aj):=
 let a0:=(x0.1.1,x0.1.2.1,x0.1.2.2.1,x0.1.2.2.2.1,x0.1.2.2.2.2.1,zE x0.1.2.2.2.2.2)
 let a1:=(x1.1.1,x1.1.2.1,x1.1.2.2.1,x1.1.2.2.2.1,x1.1.2.2.2.2.1,zE x1.1.2.2.2.2.2)
 let a2:=lC a0 a1
 Tr.chk (tr a0 a1&&bif a2 then tt x0.2 x1.2 else true) (Tr.re (AV.bool (bif a2 then rF x0.2 x1.2 else false)) [])
def tw (x0:Sem zh) (x1:Sem zh):=zW [Sh.bool] t0 100000000 (zc8 x0 x1)
def Bt (x0:Sem zh) (x1:Sem zh):=(tw x0 x1).isSome
def ww (x0:Sem zh) (x1:Sem zh):=o1 (tw x0 x1)
def Zc:=FT [zh,zh] [Sh.bool] fun x=>tw x.1 x.2.1
theorem Ug:FK 31 Zc:=vD.T1 (f:=Tryz.f31) (keep:=k0) (e:=e0)

def So:=La.add 31 Zc
theorem yO:zl So:=vD.add Ug
end
noncomputable section

abbrev zdl:=lz [(4,[0,1,5])]
inductive El where
 | h4 (l0:List (Sem zh)) (l1:List (Sem zh)) (i5:Int)
abbrev zfT:El→Nat×St
 | .h4 l0 l1 i5=>(4,⟨tm 27 [(0,AV.sl zh l0),(1,AV.sl zh l1),(5,AV.int .i64 i5)],[]⟩)
def zhc (x0:Sem zh.sl) (x1:Sem zh.sl):Tr (El ⊕ aj):=
 Tr.br ((↑(length x0):Int) != (↑(length x1):Int)) (Tr.re (AV.kb false) []) (Tr.to (El.h4 x0 x1 0))
def QA:El→Tr (El ⊕ aj)
 | .h4 l0 l1 i5=>
  let a0:=l0.getD i5.toNat (zj zh)
  let a1:=((a0.1.1,a0.1.2.1,a0.1.2.2.1,a0.1.2.2.2.1,a0.1.2.2.2.2.1,zE a0.1.2.2.2.2.2),a0.2)
  let a2:=l1.getD i5.toNat (zj zh)
  let a3:=((a2.1.1,a2.1.2.1,a2.1.2.2.1,a2.1.2.2.2.1,a2.1.2.2.2.2.1,zE a2.1.2.2.2.2.2),a2.2)
  Tr.br (decide (i5 < (↑l0.length:Int)))
  (Tr.chk (zI i5 l0.length) (Tr.chk (zI i5 l1.length) (Tr.chk (Bt a1 a3) (Tr.br (!ww a1 a3) (Tr.re (AV.kb false) []) (Tr.to (El.h4 l0 l1 (IntKind.i64.wrap (i5+1))))))))
  (Tr.re (AV.kb true) [])
def tx (x0:Sem zh.sl) (x1:Sem zh.sl):=zW [Sh.bool] QA 100000000 (zhc x0 x1)
def f5 (x0:Sem zh.sl) (x1:Sem zh.sl):=(tx x0 x1).isSome
def f4 (x0:Sem zh.sl) (x1:Sem zh.sl):=o1 (tx x0 x1)
def YK:=FT [zh.sl,zh.sl] [Sh.bool] fun x=>tx x.1 x.2.1
theorem TI:FK 12 YK:=yO.T1 (f:=Tryz.f12) (keep:=zdl) (e:=zfT)

def Su:=So.add 12 YK
theorem IQ:zl Su:=yO.add TI
end
noncomputable section
def VG:=(Su.add 14 F7p).add 10 F8p
theorem E2:zl VG:=(IQ.add RT).add RU

abbrev zhz:=lz [(3,[0,3,4])]
inductive Pf where
 | h3 (l0:List (Sem (Sh.str.pr (Sh.str.pr (Sh.str.pr (Sh.str.sl.pr (zi.sl.pr (Sh.str.pr (Sh.str.sl.pr ((Sh.str.pr Sh.str).sl.pr (Sh.expr.pr (zf.sl.pr ((Sh.str.pr Sh.expr).sl.pr (Sh.expr.pr Sh.str)))))))))))))) (i4:Int)
 | h3b (l0:List (Sem (Sh.str.pr (Sh.str.pr (Sh.str.pr (Sh.str.sl.pr (zi.sl.pr (Sh.str.pr (Sh.str.sl.pr ((Sh.str.pr Sh.str).sl.pr (Sh.expr.pr (zf.sl.pr ((Sh.str.pr Sh.expr).sl.pr (Sh.expr.pr Sh.str)))))))))))))) (l3:List (Sem zh)) (i4:Int)
abbrev e3w:Pf→Nat×St
 | .h3 l0 i4=>(3,⟨tm 66 [(0,AV.sl (Sh.str.pr (Sh.str.pr (Sh.str.pr (Sh.str.sl.pr (zi.sl.pr (Sh.str.pr (Sh.str.sl.pr ((Sh.str.pr Sh.str).sl.pr (Sh.expr.pr (zf.sl.pr ((Sh.str.pr Sh.expr).sl.pr (Sh.expr.pr Sh.str)))))))))))) l0),(3,AV.nils),(4,AV.int .i64 i4)],[]⟩)
 | .h3b l0 l3 i4=>(3,⟨tm 66 [(0,AV.sl (Sh.str.pr (Sh.str.pr (Sh.str.pr (Sh.str.sl.pr (zi.sl.pr (Sh.str.pr (Sh.str.sl.pr ((Sh.str.pr Sh.str).sl.pr (Sh.expr.pr (zf.sl.pr ((Sh.str.pr Sh.expr).sl.pr (Sh.expr.pr Sh.str)))))))))))) l0),(3,AV.sl zh l3),(4,AV.int .i64 i4)],[]⟩)
def i3w (x0:Sem zm.sl):Tr (Pf ⊕ aj):=
 Tr.to (Pf.h3 x0 0)
def QC:Pf→Tr (Pf ⊕ aj)
 | .h3 l0 i4=>
  let a0:=l0.getD i4.toNat (zj (Sh.str.pr (Sh.str.pr (Sh.str.pr (Sh.str.sl.pr (zi.sl.pr (Sh.str.pr (Sh.str.sl.pr ((Sh.str.pr Sh.str).sl.pr (Sh.expr.pr (zf.sl.pr ((Sh.str.pr Sh.expr).sl.pr (Sh.expr.pr Sh.str)))))))))))))
  let a1:=(a0.1,a0.2.1,a0.2.2.1,a0.2.2.2.1,a0.2.2.2.2.1,a0.2.2.2.2.2.1,a0.2.2.2.2.2.2.1,a0.2.2.2.2.2.2.2.1,zE a0.2.2.2.2.2.2.2.2.1,a0.2.2.2.2.2.2.2.2.2.1,a0.2.2.2.2.2.2.2.2.2.2.1,zE a0.2.2.2.2.2.2.2.2.2.2.2.1,a0.2.2.2.2.2.2.2.2.2.2.2.2)
  let a2:=fg a1
  let a3:=(a2.1,a2.2.1,a2.2.2.1,a2.2.2.2.1,a2.2.2.2.2.1,a2.2.2.2.2.2.1,a2.2.2.2.2.2.2.1,a2.2.2.2.2.2.2.2.1,zE a2.2.2.2.2.2.2.2.2.1,a2.2.2.2.2.2.2.2.2.2.1,a2.2.2.2.2.2.2.2.2.2.2.1,zE a2.2.2.2.2.2.2.2.2.2.2.2.1,a2.2.2.2.2.2.2.2.2.2.2.2.2)
  let a4:=yi [] a3
  let a5:=a4.2.1 != 0
  let a6:=f5 a4.1 []
  let a7 := !f4 a4.1 []
  let a8:=a4.2.2.1 != 0
  let a9:=(↑(length a4.2.2.2):Int) != 0
  let a10:=a0.1==[115,101,108,101,99,116]
  let a11:=zI i4 l0.length&&bif a10 then a6 else true
  let a12:=bif a10 then a7 else false
  Tr.br (bif decide (i4 < (↑l0.length:Int)) then decide (i4 < 20) else false)
  (Tr.chk (zI i4 l0.length) (Tr.chk (vU a1) (Tr.chk (Kg [] a3) (Tr.chk (lg a4.1) (Tr.br (fx a4.1 != 0) (Tr.re (AV.kb false) []) (Tr.chk (bif a5 then a6&&bif a7 then true else bif a8 then true else bif a9 then true else a11 else a11) (Tr.br (bif a5 then bif a7 then true else bif a8 then true else bif a9 then true else a12 else a12) (Tr.re (AV.kb false) [])
  (Tr.to (Pf.h3b l0 a4.1 (IntKind.i64.wrap (i4+1)))))))))))
  (Tr.chk true (Tr.re (AV.bool Cz) []))
 | .h3b l0 l3 i4=>
  let a0:=l0.getD i4.toNat (zj (Sh.str.pr (Sh.str.pr (Sh.str.pr (Sh.str.sl.pr (zi.sl.pr (Sh.str.pr (Sh.str.sl.pr ((Sh.str.pr Sh.str).sl.pr (Sh.expr.pr (zf.sl.pr ((Sh.str.pr Sh.expr).sl.pr (Sh.expr.pr Sh.str)))))))))))))
  let a1:=(a0.1,a0.2.1,a0.2.2.1,a0.2.2.2.1,a0.2.2.2.2.1,a0.2.2.2.2.2.1,a0.2.2.2.2.2.2.1,a0.2.2.2.2.2.2.2.1,zE a0.2.2.2.2.2.2.2.2.1,a0.2.2.2.2.2.2.2.2.2.1,a0.2.2.2.2.2.2.2.2.2.2.1,zE a0.2.2.2.2.2.2.2.2.2.2.2.1,a0.2.2.2.2.2.2.2.2.2.2.2.2)
  let a2:=fg a1
  let a3:=(a2.1,a2.2.1,a2.2.2.1,a2.2.2.2.1,a2.2.2.2.2.1,a2.2.2.2.2.2.1,a2.2.2.2.2.2.2.1,a2.2.2.2.2.2.2.2.1,zE a2.2.2.2.2.2.2.2.2.1,a2.2.2.2.2.2.2.2.2.2.1,a2.2.2.2.2.2.2.2.2.2.2.1,zE a2.2.2.2.2.2.2.2.2.2.2.2.1,a2.2.2.2.2.2.2.2.2.2.2.2.2)
  let a4:=yi l3 a3
  let a5:=a4.2.1 != 0
  let a6:=f5 a4.1 l3
  let a7 := !f4 a4.1 l3
  let a8:=a4.2.2.1 != 0
  let a9:=(↑(length a4.2.2.2):Int) != 0
  let a10:=a0.1==[115,101,108,101,99,116]
  let a11:=zI i4 l0.length&&bif a10 then a6 else true
  let a12:=bif a10 then a7 else false
  Tr.br (bif decide (i4 < (↑l0.length:Int)) then decide (i4 < 20) else false)
  (Tr.chk (zI i4 l0.length) (Tr.chk (vU a1) (Tr.chk (Kg l3 a3) (Tr.chk (lg a4.1) (Tr.br (fx a4.1 != 0) (Tr.re (AV.kb false) []) (Tr.chk (bif a5 then a6&&bif a7 then true else bif a8 then true else bif a9 then true else a11 else a11) (Tr.br (bif a5 then bif a7 then true else bif a8 then true else bif a9 then true else a12 else a12) (Tr.re (AV.kb false) [])
  (Tr.to (Pf.h3b l0 a4.1 (IntKind.i64.wrap (i4+1)))))))))))
  (Tr.chk true (Tr.re (AV.bool Cz) []))
def th (x0:Sem zm.sl):=zW [Sh.bool] QC 100000000 (i3w x0)
def F3w:=FT [zm.sl] [Sh.bool] fun x=>th x.1
theorem zak:FK 3 F3w:=E2.T1 (f:=Tryz.f3) (keep:=zhz) (e:=e3w)

end

section
variable {σ:Type} {t:σ→Tr (σ ⊕ aj)}
abbrev DN:aj:=(.kb false,[])
theorem E4 {α:Type} {la lb:List α} (st:Nat→σ) (hlen:la.length=lb.length) (hs:∀ i (ha:i < la.length) (hb:i < lb.length),(la[i]=lb[i]→(t (st i)).val=some (.inl (st (i+1))))∧(la[i]≠lb[i]→(t (st i)).val=some (.inr DN))):
  (la=lb∧aF t la.length (st 0) (st la.length))∨(la≠lb∧bq t la.length (st 0) DN):=by
 rcases Ic (t:=t) (Φ:=fun r=>r=DN) 1 st (fun i=>la[i]?=lb[i]?) la.length (fun i hi _=>by
  have hb:i < lb.length:=by omega
  obtain ⟨h1,h2⟩:=hs i hi hb
  rw [zJ hi,zJ hb]
  by_cases h:la[i]=lb[i]
  ·exact .inl ⟨by rw [h],aF.of (h1 h)⟩
  ·exact .inr ⟨fun h3=>h (Option.some.inj h3),DN,bq.of (h2 h),rfl⟩) with ⟨h1,h2⟩ | ⟨h1,r,h2,rfl⟩
 ·rw [Nat.mul_one] at h2
  refine .inl ⟨x8 fun i=>?_,h2⟩
  by_cases hi:i < la.length
  ·exact h1 i hi
  ·rw [dd (by omega),dd (by omega)]
 ·rw [Nat.mul_one] at h2
  exact .inr ⟨fun h=>h1 fun i _=>by rw [h],h2⟩
end

theorem GI {α:Type} {a b:List α}:((a.length:Int) != (b.length:Int))=true↔a.length≠b.length:=by
 simp [bne]; omega

theorem wv:∀ (N:Nat) (a b:ze),kX N a=true→∃ r,bH N a b=some (r,())∧(r=true↔a=b)
 | 0,_,_,h=>by cases h
 | N + 1,.mk op v s l,.mk op' v' s' l',h=>by
  rw [kX] at h
  simp only [aL,ae,cX] at h
  obtain ⟨hl,ha⟩:=h
  rw [bH]
  unfold HF
  have no:(I0 (fun x0 x1=>ft (bH N x0 x1)) (fun x0 x1=>(bH N x0 x1).isSome) (.mk op v s l) (.mk op' v' s' l')).val=some (.inr DN)→¬ (ze.mk op v s l=ze.mk op' v' s' l')→
    ∃ r,zW [Sh.bool] (Ea (fun x0 x1=>ft (bH N x0 x1)) (fun x0 x1=>(bH N x0 x1).isSome)) 3000000000 (I0 (fun x0 x1=>ft (bH N x0 x1)) (fun x0 x1=>(bH N x0 x1).isSome) (.mk op v s l) (.mk op' v' s' l'))=some (r,())∧(r=true↔ze.mk op v s l=ze.mk op' v' s' l'):=by
   intro hv hne
   exact ⟨false,jv hv rfl,by simp [hne]⟩
  have hd:∀ c:Bool,(bif !op==op' then true else bif !(v.1==v'.1&&(v.2.1==v'.2.1&&(v.2.2==v'.2.2&&true))) then true else bif !s==s' then true else (↑l.length:Int) != (↑l'.length:Int))=c→
    (I0 (fun x0 x1=>ft (bH N x0 x1)) (fun x0 x1=>(bH N x0 x1).isSome) (.mk op v s l) (.mk op' v' s' l')).val=if c=true then some (.inr DN) else some (.inl (.h4 ((0:Nat):Int) (.mk op v s l,()) (.mk op' v' s' l',()))):=by
   rintro c rfl
   rfl
  by_cases e1:op=op'
  rotate_left
  ·exact no (by rw [hd true (by rw [jH.2 e1]; rfl)]; rfl) (fun h=>e1 (by injection h))
  by_cases e2:v=v'
  rotate_left
  ·refine no ?_ (fun h=>e2 (by injection h))
   rw [hd true ?_]
   ·rfl
   ·have:(v.1==v'.1&&(v.2.1==v'.2.1&&(v.2.2==v'.2.2&&true)))=false:=by
     rw [← Bool.not_eq_true]
     intro h
     simp at h
     exact e2 (Prod.ext h.1 (Prod.ext h.2.1 h.2.2))
    rw [this]
    cases (op==op') <;> rfl
  by_cases e3:s=s'
  rotate_left
  ·refine no ?_ (fun h=>e3 (by injection h))
   rw [hd true ?_]
   ·rfl
   ·rw [jH.2 e3]
    cases (op==op') <;> cases (v.1==v'.1&&(v.2.1==v'.2.1&&(v.2.2==v'.2.2&&true))) <;> rfl
  by_cases e4:l.length=l'.length
  rotate_left
  ·refine no ?_ (fun h=>e4 (by injection h with _ _ _ h; rw [h]))
   rw [hd true ?_]
   ·rfl
   ·rw [GI.2 e4]
    cases (op==op') <;> cases (v.1==v'.1&&(v.2.1==v'.2.1&&(v.2.2==v'.2.2&&true))) <;> cases (s==s') <;> rfl
  subst e1; subst e2; subst e3
  have hv:=hd false (by
   have:((↑l.length:Int) != (↑l'.length:Int))=false:=by rw [← Bool.not_eq_true,GI]; exact fun h=>h e4
   rw [this]
   simp)
  rw [if_neg (by simp)] at hv
  rcases E4 (t:=Ea (fun x0 x1=>ft (bH N x0 x1)) (fun x0 x1=>(bH N x0 x1).isSome)) (la:=l) (lb:=l') (fun i=>.h4 (i:Int) (.mk op v s l,()) (.mk op v s l',())) e4 (by
   intro i hi hi'
   obtain ⟨r,hr,hiff⟩:=wv N l[i] l'[i] (ha _ (dg hi))
   have g1:getD l (i:Int).toNat (zj Sh.expr)=l[i]:=ig _ _ hi
   have g2:getD l' (i:Int).toNat (zj Sh.expr)=l'[i]:=ig _ _ hi'
   have hval:(Ea (fun x0 x1=>ft (bH N x0 x1)) (fun x0 x1=>(bH N x0 x1).isSome) (.h4 (i:Int) (.mk op v s l,()) (.mk op v s l',()))).val=if (!r)=true then some (.inr DN) else some (.inl (.h4 ((i+1:Nat):Int) (.mk op v s l,()) (.mk op v s l',()))):=by
    simp only [Ea,Gf,BX,Tr.val,ze.l,zp,g1,g2,zB hi,zB hi',hr,fa,if_true]
    rw [zD i (by unfold zC; omega)]
    show (if decide ((i:Int) < (l.length:Int))=true then _ else _)=_
    rw [if_pos (ay (by omega))]
    rfl
   rw [hval]
   refine ⟨fun h=>?_,fun h=>?_⟩
   ·rw [if_neg (by rw [hiff.2 h]; simp)]
   ·rw [if_pos]
    cases r
    ·rfl
    ·exact absurd (hiff.1 rfl) h) with ⟨h1,h2⟩ | ⟨h1,h2⟩
  ·subst h1
   refine ⟨true,bb hv (h2.ends (bq.of (r:=(.kb true,[])) ?_)) (by omega) rfl,by simp⟩
   simp only [Ea,Gf,BX,Tr.val,ze.l]
   exact if_neg (by simp)
  ·exact ⟨false,bb hv h2 (by omega) rfl,by simp [h1]⟩
theorem Jk {a b:ze} (h:kX 16 a=true):iP a b=true∧(gM a b=true↔a=b):=by
 obtain ⟨r,h1,h2⟩:=wv 16 a b h
 have h1:Bs a b=some (r,()):=h1
 refine ⟨by unfold iP; rw [h1]; rfl,?_⟩
 have:gM a b=r:=by unfold gM; rw [h1]; rfl
 rw [this]; exact h2

section
variable {σ:Type} {t:σ→Tr (σ ⊕ aj)}
def JR (t:σ→Tr (σ ⊕ aj)) (K:Nat) (nx:σ ⊕ aj) (r:aj):Prop:=match nx with
 | .inl h=>bq t K h r
 | .inr r'=>r'=r
theorem A7 {α:Type} {la lb:List α} (st:Int→σ) (nx:σ ⊕ aj) (e:Nat→Bool) (hval:∀ i:Nat,i≤la.length→(t (st i)).val=if decide (LT.lt (α:=Int) (i:Int) (la.length:Int))=true then (if zI (i:Int) la.length=true then (if zI (i:Int) lb.length=true then (if (!e i)=true then some (.inr DN) else some (.inl (st (IntKind.i64.wrap ((i:Int)+1))))) else none) else none) else some nx)
  (he:∀ i (_:i < la.length) (ha:i < la.length) (hb:i < lb.length),e i=true↔la[i]=lb[i]) (hlen:la.length=lb.length) (hm:la.length≤1000000):
  (la=lb∧∀ K r,JR t K nx r→bq t (K+la.length+1) (st 0) r)∨(la≠lb∧bq t la.length (st 0) DN):=by
 rcases E4 (t:=t) (la:=la) (lb:=lb) (fun i=>st (i:Int)) hlen (fun i ha hb=>by
  have hv:=hval i (by omega)
  rw [if_pos (ay (by omega)),if_pos (zB ha),if_pos (zB hb),zD i (by unfold zC; omega)] at hv
  have:=he i ha ha hb
  refine ⟨fun h=>?_,fun h=>?_⟩
  ·rw [hv,if_neg (by rw [this.2 h]; simp)]
  ·rw [hv,if_pos]
   cases hh:e i
   ·rfl
   ·exact absurd (this.1 hh) h) with ⟨h1,h2⟩ | ⟨h1,h2⟩
 ·refine .inl ⟨h1,fun K r hr=>?_⟩
  have hv:=hval la.length (bd _)
  rw [if_neg (by simp)] at hv
  unfold JR at hr
  cases nx with
  | inl h=>exact (h2.ends ((aF.of hv).ends hr)).mono (by omega)
  | inr r'=>cases hr; exact (h2.ends (bq.of hv)).mono (by omega)
 ·exact .inr ⟨h1,h2⟩
end

theorem VA (a b:Sem zi):(a.1==b.1&&(a.2.1==b.2.1&&(a.2.2==b.2.2&&true)))=true↔a=b:=by
 simp [Prod.ext_iff]
theorem VH (a b:Sem zq):(a.1==b.1&&(a.2==b.2&&true))=true↔a=b:=by
 simp [Prod.ext_iff]
theorem N5 (a b:Sem zf):(a.1==b.1&&(a.2.1==b.2.1&&(a.2.2==b.2.2&&true)))=true↔a=b:=by
 simp [Prod.ext_iff]

theorem FJ {a b:Sem zx} (hc:a.2.1.length≤1000000) (hu:a.2.2.2.1.length≤1000000) (hr:a.2.2.2.2.1.length≤1000000) (he:kX 16 a.2.2.2.2.2=true):∃ r,qd a b=some (r,())∧(r=true↔a=b):=by
 obtain ⟨a1,a2,a3,a4,a5,a6⟩:=a
 obtain ⟨b1,b2,b3,b4,b5,b6⟩:=b
 have hc:a2.length≤1000000:=hc
 have hu:a4.length≤1000000:=hu
 have hr:a5.length≤1000000:=hr
 obtain ⟨s1,s2⟩:=Jk (b:=b6) he
 have hv:∀ c:Bool,(bif !a1==b1 then true else bif a3 != b3 then true else bif (↑(length a2):Int) != (↑(length b2):Int) then true else bif (↑(length a4):Int) != (↑(length b4):Int) then true else (↑(length a5):Int) != (↑(length b5):Int))=c→
   (Wg (a1,a2,a3,a4,a5,a6) (b1,b2,b3,b4,b5,b6)).val=if c=true then some (.inr DN) else some (.inl (.h4 0 ((a1,a2,a3,a4,a5,a6),()) ((b1,b2,b3,b4,b5,b6),()))):=by
  rintro c rfl
  rfl
 have no:∀ (h:¬ ((a1,a2,a3,a4,a5,a6):Sem zx)=(b1,b2,b3,b4,b5,b6)) {k s},(Wg (a1,a2,a3,a4,a5,a6) (b1,b2,b3,b4,b5,b6)).val=some (.inl s)→bq Ge k s DN→k≤100000000→∃ r,qd (a1,a2,a3,a4,a5,a6) (b1,b2,b3,b4,b5,b6)=some (r,())∧(r=true↔((a1,a2,a3,a4,a5,a6):Sem zx)=(b1,b2,b3,b4,b5,b6)):=by
  intro h k s h1 h2 h3
  exact ⟨false,bb h1 h2 h3 rfl,by simpa using h⟩
 cases hcase:(bif !a1==b1 then true else bif a3 != b3 then true else bif (↑(length a2):Int) != (↑(length b2):Int) then true else bif (↑(length a4):Int) != (↑(length b4):Int) then true else (↑(length a5):Int) != (↑(length b5):Int))
 rotate_left
 ·refine ⟨false,jv (r:=DN) (by rw [hv true hcase]; rfl) rfl,?_⟩
  constructor
  ·intro h; cases h
  ·intro h
   simp only [bC] at h
   obtain ⟨rfl,rfl,rfl,rfl,rfl,rfl⟩:=h
   simp at hcase
 have hi:=hv false hcase
 rw [if_neg (by simp)] at hi
 have e1:a1=b1:=by
  cases h:(a1==b1)
  ·rw [h] at hcase; cases hcase
  ·simpa using h
 have e3:a3=b3:=by
  cases h:(a3 != b3)
  ·simpa using h
  ·rw [h] at hcase; revert hcase; cases (!a1==b1) <;> simp
 have l2:a2.length=b2.length:=by
  cases h:((↑(length a2):Int) != (↑(length b2):Int))
  ·simp [bne] at h; omega
  ·rw [h] at hcase; revert hcase; cases (!a1==b1) <;> cases (a3 != b3) <;> simp
 have l4:a4.length=b4.length:=by
  cases h:((↑(length a4):Int) != (↑(length b4):Int))
  ·simp [bne] at h; omega
  ·rw [h] at hcase; revert hcase; cases (!a1==b1) <;> cases (a3 != b3) <;> cases ((↑(length a2):Int) != (↑(length b2):Int)) <;> simp
 have l5:a5.length=b5.length:=by
  cases h:((↑(length a5):Int) != (↑(length b5):Int))
  ·simp [bne] at h; omega
  ·rw [h] at hcase; revert hcase; cases (!a1==b1) <;> cases (a3 != b3) <;> cases ((↑(length a2):Int) != (↑(length b2):Int)) <;> cases ((↑(length a4):Int) != (↑(length b4):Int)) <;> simp
 rcases A7 (t:=Ge) (la:=a2) (lb:=b2) (fun i=>.h4 i ((a1,a2,a3,a4,a5,a6),()) ((b1,b2,b3,b4,b5,b6),())) (.inl (.h9 0 ((a1,a2,a3,a4,a5,a6),()) ((b1,b2,b3,b4,b5,b6),()))) (fun i=>((getD a2 (i:Int).toNat (zj zi)).1==(getD b2 (i:Int).toNat (zj zi)).1&&((getD a2 (i:Int).toNat (zj zi)).2.1==(getD b2 (i:Int).toNat (zj zi)).2.1&&((getD a2 (i:Int).toNat (zj zi)).2.2==(getD b2 (i:Int).toNat (zj zi)).2.2&&true)))) (fun _ _=>rfl) (fun i _ ha hb=>by rw [VA,ig _ _ ha,ig _ _ hb]) l2 hc with ⟨q2,k2⟩ | ⟨q2,k2⟩
 rotate_left
 ·exact no (fun h=>q2 (by simp only [bC] at h; exact h.2.1)) hi k2 (by omega)
 rcases A7 (t:=Ge) (la:=a4) (lb:=b4) (fun i=>.h9 i ((a1,a2,a3,a4,a5,a6),()) ((b1,b2,b3,b4,b5,b6),())) (.inl (.h14 0 ((a1,a2,a3,a4,a5,a6),()) ((b1,b2,b3,b4,b5,b6),()))) (fun i=>getD a4 (i:Int).toNat (zj zg)==getD b4 (i:Int).toNat (zj zg)) (fun _ _=>rfl) (fun i _ ha hb=>by rw [eT,ig _ _ ha,ig _ _ hb]) l4 hu with ⟨q4,k4⟩ | ⟨q4,k4⟩
 rotate_left
 ·exact no (fun h=>q4 (by simp only [bC] at h; exact h.2.2.2.1)) hi (k2 _ _ k4) (by omega)
 rcases A7 (t:=Ge) (la:=a5) (lb:=b5) (fun i=>.h14 i ((a1,a2,a3,a4,a5,a6),()) ((b1,b2,b3,b4,b5,b6),())) (.inr (.bool (gM a6 b6),[])) (fun i=>((getD a5 (i:Int).toNat (zj zq)).1==(getD b5 (i:Int).toNat (zj zq)).1&&((getD a5 (i:Int).toNat (zj zq)).2==(getD b5 (i:Int).toNat (zj zq)).2&&true))) (fun i _=>by
   show (Ge (.h14 _ _ _)).val=_
   simp only [Ge,Tr.val,zp]
   rw [show (if iP a6 b6=true then some (Sum.inr (AV.bool (gM a6 b6),([]:List AO))) else none)=(some (Sum.inr (AV.bool (gM a6 b6),[])):Option (tX ⊕ aj)) from if_pos s1]) (fun i _ ha hb=>by rw [VH,ig _ _ ha,ig _ _ hb]) l5 hr with ⟨q5,k5⟩ | ⟨q5,k5⟩
 rotate_left
 ·exact no (fun h=>q5 (by simp only [bC] at h; exact h.2.2.2.2.1)) hi (k2 _ _ (k4 _ _ k5)) (by omega)
 refine ⟨gM a6 b6,bb hi (k2 _ _ (k4 _ _ (k5 0 _ rfl))) (by omega) rfl,?_⟩
 rw [s2]
 subst e1; subst e3; subst q2; subst q4; subst q5
 simp
theorem Jm {a b:Sem zx} (hc:a.2.1.length≤1000000) (hu:a.2.2.2.1.length≤1000000) (hr:a.2.2.2.2.1.length≤1000000) (he:kX 16 a.2.2.2.2.2=true):tr a b=true∧(lC a b=true↔a=b):=by
 obtain ⟨r,h1,h2⟩:=FJ (b:=b) hc hu hr he
 refine ⟨by unfold tr; rw [h1]; rfl,?_⟩
 have:lC a b=r:=by unfold lC; rw [h1]; rfl
 rw [this]; exact h2


theorem rN {α σ:Type} {t:σ→Tr (σ ⊕ aj)} {i:Tr (σ ⊕ aj)} {la lb:List α} (st:Int→σ) (hi:i.val=if ((la.length:Int) != (lb.length:Int))=true then some (.inr DN) else some (.inl (st 0))) (hm:la.length≤1000000)
  (hs:∀ j (ha:j < la.length) (hb:j < lb.length),(la[j]=lb[j]→(t (st (j:Int))).val=some (.inl (st ((j+1:Nat):Int))))∧(la[j]≠lb[j]→(t (st (j:Int))).val=some (.inr DN)))
  (he:(t (st (la.length:Int))).val=some (.inr (.kb true,[]))):∃ r,zW [Sh.bool] t 100000000 i=some (r,())∧(r=true↔la=lb):=by
 by_cases hl:la.length=lb.length
 case neg=>
  have h1:((la.length:Int) != (lb.length:Int))=true:=by simp; omega
  rw [if_pos h1] at hi
  refine ⟨false,jv hi rfl,fun h=>(by cases h),fun h=>absurd (congrArg length h) hl⟩
 have h1:((la.length:Int) != (lb.length:Int))=false:=by rw [hl]; simp
 rw [if_neg (by rw [h1]; simp)] at hi
 rcases E4 (t:=t) (la:=la) (lb:=lb) (fun i=>st (i:Int)) hl hs with ⟨q1,q2⟩ | ⟨q1,q2⟩
 ·exact ⟨true,bb hi (q2.ends (bq.of he)) (by omega) rfl,fun _=>q1,fun _=>rfl⟩
 ·exact ⟨false,bb hi q2 (by omega) rfl,fun h=>(by cases h),fun h=>absurd h q1⟩

theorem Gj (a b:List (Sem zf)) (hm:a.length≤1000000):∃ r,tP a b=some (r,())∧(r=true↔a=b):=by
 refine rN (la:=a) (lb:=b) (fun i=>tS.h4 a b i) rfl hm (fun j ha hb=>?_) ?_
 ·have hv:(H0 (.h4 a b (j:Int))).val=if (!(a[j].1==b[j].1&&(a[j].2.1==b[j].2.1&&(a[j].2.2==b[j].2.2&&true))))=true then some (.inr DN) else some (.inl (.h4 a b ((j+1:Nat):Int))):=by
   simp only [H0,Tr.val,zT ha,zB ha,zB hb,ac a _ ha,ac b _ hb,if_true,zD j (by unfold zC; omega)]
  refine ⟨fun h=>?_,fun h=>?_⟩
  ·rw [hv,(N5 _ _).2 h]; rfl
  ·rw [hv,Bool.eq_false_iff.2 fun h'=>h ((N5 _ _).1 h')]; rfl
 ·simp only [H0,Tr.val,zX,zH,if_false]
theorem JG {a b:List (Sem zf)} (hm:a.length≤1000000):B4 a b=true∧(xh a b=true↔a=b):=by
 obtain ⟨r,h1,h2⟩:=Gj a b hm
 refine ⟨by unfold B4; rw [h1]; rfl,?_⟩
 have:xh a b=r:=by unfold xh; rw [h1]; rfl
 rw [this]; exact h2

theorem FL (a b:List (List (Sem zf))) (hm:a.length≤1000000) (hr:∀ r∈a,length r≤1000000):∃ r,tv a b=some (r,())∧(r=true↔a=b):=by
 refine rN (la:=a) (lb:=b) (fun i=>Eo.h4 a b i) rfl hm (fun j ha hb=>?_) ?_
 ·obtain ⟨s1,s2⟩:=JG (a:=a[j]) (b:=b[j]) (hr _ (dg ha))
  have hv:(QE (.h4 a b (j:Int))).val=if (!xh a[j] b[j])=true then some (.inr DN) else some (.inl (.h4 a b ((j+1:Nat):Int))):=by
   simp only [QE,Tr.val,zT ha,zB ha,zB hb,ac a _ ha,ac b _ hb,s1,if_true,zD j (by unfold zC; omega)]
  refine ⟨fun h=>?_,fun h=>?_⟩
  ·rw [hv,s2.2 h]; rfl
  ·rw [hv,Bool.eq_false_iff.2 fun h'=>h (s2.1 h')]; rfl
 ·simp only [QE,Tr.val,zX,zH,if_false]
theorem Jn {a b:List (List (Sem zf))} (hm:a.length≤1000000) (hr:∀ r∈a,length r≤1000000):tt a b=true∧(rF a b=true↔a=b):=by
 obtain ⟨r,h1,h2⟩:=FL a b hm hr
 refine ⟨by unfold tt; rw [h1]; rfl,?_⟩
 have:rF a b=r:=by unfold rF; rw [h1]; rfl
 rw [this]; exact h2

structure tZ (x:Sem zh):Prop where
 cols:x.1.2.1.length≤1000000
 uq:x.1.2.2.2.1.length≤1000000
 rf:x.1.2.2.2.2.1.length≤1000000
 chk:kX 16 x.1.2.2.2.2.2=true
 rw:x.2.length≤1000000
 row:∀ r∈x.2,length r≤1000000

theorem FM {a b:Sem zh} (h:tZ a):∃ r,tw a b=some (r,())∧(r=true↔a=b):=by
 obtain ⟨s1,s2⟩:=Jm (a:=a.1) (b:=b.1) h.cols h.uq h.rf h.chk
 obtain ⟨s3,s4⟩:=Jn (a:=a.2) (b:=b.2) h.rw h.row
 refine ⟨bif lC a.1 b.1 then rF a.2 b.2 else false,?_,?_⟩
 ·have hg:(tr a.1 b.1&&bif lC a.1 b.1 then tt a.2 b.2 else true)=true:=by
   rw [s1,s3]
   cases lC a.1 b.1 <;> rfl
  refine jv (r:=(.bool (bif lC a.1 b.1 then rF a.2 b.2 else false),[])) ?_ rfl
  simp only [zc8,Tr.val,zp,Prod.eta,hg,if_true]
 ·cases hq:lC a.1 b.1 with
  | true=>
   simp only [bR]
   rw [s4]
   exact ⟨fun e=>Prod.ext (s2.1 hq) e,fun e=>by rw [e]⟩
  | false=>
   simp only [bQ,zH,false_iff]
   intro e
   rw [s2.2 (by rw [e])] at hq
   cases hq
theorem Jo {a b:Sem zh} (h:tZ a):Bt a b=true∧(ww a b=true↔a=b):=by
 obtain ⟨r,h1,h2⟩:=FM (b:=b) h
 refine ⟨by unfold Bt; rw [h1]; rfl,?_⟩
 have:ww a b=r:=by unfold ww; rw [h1]; rfl
 rw [this]; exact h2

theorem FN {a b:List (Sem zh)} (hm:a.length≤1000000) (h:∀ x∈a,tZ x):∃ r,tx a b=some (r,())∧(r=true↔a=b):=by
 refine rN (la:=a) (lb:=b) (fun i=>El.h4 a b i) rfl hm (fun j ha hb=>?_) ?_
 ·obtain ⟨s1,s2⟩:=Jo (a:=a[j]) (b:=b[j]) (h _ (dg ha))
  have hv:(QA (.h4 a b (j:Int))).val=if (!ww a[j] b[j])=true then some (.inr DN) else some (.inl (.h4 a b ((j+1:Nat):Int))):=by
   simp only [QA,Tr.val,zp,Prod.eta,zT ha,zB ha,zB hb,ac a _ ha,ac b _ hb,s1,if_true,zD j (by unfold zC; omega)]
  refine ⟨fun h=>?_,fun h=>?_⟩
  ·rw [hv,s2.2 h]; rfl
  ·rw [hv,Bool.eq_false_iff.2 fun h'=>h (s2.1 h')]; rfl
 ·simp only [QA,Tr.val,zX,zH,if_false]
theorem Jp {a b:List (Sem zh)} (hm:a.length≤1000000) (h:∀ x∈a,tZ x):f5 a b=true∧(f4 a b=true↔a=b):=by
 obtain ⟨r,h1,h2⟩:=FN (b:=b) hm h
 refine ⟨by unfold f5; rw [h1]; rfl,?_⟩
 have:f4 a b=r:=by unfold f4; rw [h1]; rfl
 rw [this]; exact h2
noncomputable section
inductive H5w where
 | h9 (l1:List (Sem zf.sl)) (i2:Sem (Sh.int IntKind.u8)) (s7:Sem Sh.str) (l8:List (Sem zh)) (l9:List (Sem zh)) (i10:Int)
end

theorem cC.q {x:Sem zh} (h:cC x) (hr:cj x):tZ x:=by
 obtain ⟨_,_,_,h8,_⟩:=gL hr.may
 exact ⟨cv h8 (by omega),cv h.sh.uq (by omega),cv h.sh.rf (by omega),h.cp,cv h.sh.rw (by omega),fun r hr'=>cv (hr.len r hr') (by omega)⟩
theorem HW {a b:List (Sem zh)} (hB:aM a) (hs:∀ y∈a,cC y) (h:a=b):f5 a b=true∧f4 a b=true:=by
 obtain ⟨h1,h2⟩:=Jp (b:=b) (cv hB.few (by omega)) (fun y hy=>(hs y hy).q (hB.rels y hy))
 exact ⟨h1,h2.2 h⟩

open Go

abbrev U0:Nat→Prop:=fun _=>False
abbrev ip:Nat→Option Value:=fun _=>none

def JO (P:Program) (T:TypeId→Sh→Bool):List Field→Nat→Sh→Bool
 | [],_,_=>false
 | [f],off,s=>f.offset==off&&(T f.type s&&P.cellsOf f.type==s.size)
 | f::fs,off,.pr a b=>f.offset==off&&(T f.type a&&(P.cellsOf f.type==a.size&&JO P T fs (off+a.size) b))
 | _,_,_=>false

def nB (P:Program) (t:TypeId):Bool:=match P.underlying t with
 | some .string=>P.cellsOf t==1
 | _=>false

def G7 (P:Program) (t e:TypeId):Bool:=match P.underlying t with
 | some (.slice u)=>u==e&&P.cellsOf t==1
 | _=>false

def Gi (P:Program):Nat→TypeId→Sh→Bool
 | 0,_,_=>false
 | n+1,t,s=>match P.underlying t,s with
  | some .bool,.bool=>true
  | some (.int k),.int k'=>k==k'
  | some .string,.str=>true
  | some (.slice e),.sl s=>P.cellsOf e==s.size&&(decide (0 < s.size)&&Gi P n e s)
  | some (.struct fs),.expr=>match fs.toList with
   | [a,b,c,d]=>P.cellsOf t==6&&(a.offset==0&&(b.offset==1&&(c.offset==4&&(d.offset==5&&(nB P a.type&&(nB P c.type&&(G7 P d.type t&&(P.cellsOf b.type==3&&Gi P n b.type (.pr (.int .i64) (.pr (.int .i64) .str))))))))))
   | _=>false
  | some (.struct fs),.pr a b=>P.cellsOf t==(Sh.pr a b).size&&JO P (Gi P n) fs.toList 0 (.pr a b)
  | _,_=>false

section
variable {H:Type} {enc:TypeId×Value→H} {P:Program} {w:World} {sp:Nat→Bool} {held:Bool}

def Vh (w:World) (s:Sh) (cs:List Value):Prop:=∃ x:Sem s,cK w U0 ip (zn s x) cs∧∀ v∈cs,v.oneCell'=true

theorem cq {α β:Type} {f:α→Option β} {a:α} {l:List α} {r:List β} (h:(a::l).mapM f=some r):∃ y ys,f a=some y∧l.mapM f=some ys∧r=y::ys:=by
 rw [List.mapM_cons] at h
 cases hy:f a with
 | none=>rw [hy] at h; simp at h
 | some y=>
  cases hys:l.mapM f with
  | none=>rw [hy,hys] at h; simp at h
  | some ys=>
   rw [hy,hys] at h
   simp at h
   exact ⟨y,ys,rfl,rfl,h.symm⟩

theorem Du {α β:Type} {f:α→Option β}:∀ {l:List α} {r:List β},l.mapM f=some r→∀ x∈l,∃ y,f x=some y
 | [],_,_,_,hx=>by simp at hx
 | a::l,r,h,x,hx=>by
  obtain ⟨y,ys,h1,h2,_⟩:=cq h
  rcases cY.1 hx with rfl | hx
  ·exact ⟨y,h1⟩
  ·exact Du h2 x hx

theorem vW {α β:Type} {f:α→Option β}:∀ {l:List α} {r:List β},l.mapM f=some r→r.length=l.length∧∀ (i:Nat) a,l[i]?=some a→f a=r[i]?
 | [],r,h=>by simp at h; subst h; simp
 | a::l,r,h=>by
  obtain ⟨y,ys,h1,h2,rfl⟩:=cq h
  obtain ⟨h3,h4⟩:=vW h2
  refine ⟨by simp [h3],fun i b hi=>?_⟩
  cases i with
  | zero=>simp at hi; subst hi; simpa using h1
  | succ i=>simpa using h4 i b (by simpa using hi)

theorem Cr (a:Addr) (h:a.spot=none) (n:Nat):a.add n=⟨a.block,a.off+n,none⟩:=by
 obtain ⟨b,o,s⟩:=a
 simp only at h
 subst h
 unfold Addr.add
 split
 ·rename_i h; subst h; rfl
 ·rfl

theorem cK.take {cs:List AV} {vs:List Value} (h:cK w U0 ip cs vs) (n:Nat):cK w U0 ip (cs.take n) (vs.take n):=by
 refine ⟨by simp [h.len],fun j c v hc hv=>?_⟩
 rw [uc] at hc hv
 split at hc
 ·rename_i hj
  rw [if_pos hj] at hv
  exact h.rv j c v hc hv
 ·cases hc

theorem cK.appS {a b:List AV} {x y:List Value} (h:cK w U0 ip a x) (h':cK w U0 ip b y):cK w U0 ip (a++b) (x++y):=by
 refine ⟨by simp [h.len,h'.len],fun j c v hc hv=>?_⟩
 by_cases hj:j < a.length
 ·rw [j6 hj] at hc
  rw [j6 (by rw [← h.len]; exact hj)] at hv
  exact h.rv j c v hc hv
 ·rw [lc (by omega)] at hc
  rw [lc (by rw [← h.len]; omega),← h.len] at hv
  exact h'.rv _ c v hc hv

theorem cK.one {c:AV} {v:Value} (h:Rv w U0 ip c v):cK w U0 ip [c] [v]:=by
 refine ⟨rfl,fun j d u hd hu=>?_⟩
 cases j with
 | zero=>simp at hd hu; subst hd; subst hu; exact h
 | succ j=>simp at hd

theorem vL {fuel:Nat} {T:TypeId→Sh→Bool} (hT:∀ t s cs d ps,T t s=true→DataW.trod enc P w 0 sp held fuel t cs=some (d,ps)→Vh w s cs) {cs:List Value}:
  ∀ (fl:List Field) (off:Nat) (s:Sh) xs,JO P T fl off s=true→(fl.mapM fun f=>DataW.trod enc P w 0 sp held fuel f.type ((cs.drop f.offset).take (P.cellsOf f.type)))=some xs→Vh w s ((cs.drop off).take s.size)
 | [],_,_,_,h,_=>by simp [JO] at h
 | [f],off,s,xs,h,hm=>by
  simp only [JO,aL,eT] at h
  obtain ⟨h1,h2,h3⟩:=h
  obtain ⟨y,ys,hy,_,_⟩:=cq hm
  rw [h1,h3] at hy
  exact hT _ _ _ _ _ h2 hy
 | f::g::fs,off,.pr a b,xs,h,hm=>by
  simp only [JO,aL,eT] at h
  obtain ⟨h1,h2,h3,h4⟩:=h
  obtain ⟨y,ys,hy,hys,_⟩:=cq hm
  rw [h1,h3] at hy
  obtain ⟨x1,r1,o1⟩:=hT _ _ _ _ _ h2 hy
  obtain ⟨x2,r2,o2⟩:=vL hT (g::fs) (off+a.size) b ys h4 hys
  have hl1:((cs.drop off).take a.size).length=a.size:=by rw [← r1.len,zN]
  have hsplit:(cs.drop off).take (a.size+b.size)=(cs.drop off).take a.size++(cs.drop (off+a.size)).take b.size:=by
   rw [List.take_add,List.drop_drop]
  refine ⟨(x1,x2),?_,?_⟩
  ·show cK w U0 ip (zn a x1++zn b x2) ((cs.drop off).take (a.size+b.size))
   rw [hsplit]
   exact r1.appS r2
  ·intro v hv
   have hv:v∈(cs.drop off).take (a.size+b.size):=hv
   rw [hsplit,bn] at hv
   exact hv.elim (o1 v) (o2 v)
 | _::_::_,_,.unit,_,h,_=>by simp [JO] at h
 | _::_::_,_,.bool,_,h,_=>by simp [JO] at h
 | _::_::_,_,.int _,_,h,_=>by simp [JO] at h
 | _::_::_,_,.str,_,h,_=>by simp [JO] at h
 | _::_::_,_,.sl _,_,h,_=>by simp [JO] at h
 | _::_::_,_,.expr,_,h,_=>by simp [JO] at h

theorem Ao {fuel:Nat} {t e:TypeId} {s:Sh} (ht:P.underlying t=some (.slice e)) (hc:P.cellsOf e=s.size) (hpos:0 < s.size)
  (hT:∀ cs d ps,DataW.trod enc P w 0 sp held fuel e cs=some (d,ps)→Vh w s cs) {cs:List Value} {d:DataW H} {ps:List MemPlace} (h:DataW.trod enc P w 0 sp held (fuel+1) t cs=some (d,ps)):Vh w (.sl s) cs:=by
 unfold DataW.trod at h
 rw [ht] at h
 split at h
 all_goals first
  | (rename_i hu; cases hu; done)
  | (rename_i hu _; cases hu; done)
  | (simp at h; done)
  | skip
 ·rename_i hu
  cases hu
  exact ⟨[],cK.one (.sl0 s none 0),by simp [Value.oneCell']⟩
 ·rename_i a len cap hu
  cases hu
  simp only [aV,true_and] at h
  split at h
  ·rename_i hcond
   rw [eS] at h
   obtain ⟨elems,he,_⟩:=h
   have hall:∀ i,∃ x:Sem s,i < len→∃ ci,w.cells? 0 (a.add (i * s.size)) s.size=some ci∧cK w U0 ip (zn s x) ci:=by
    intro i
    by_cases hi:i < len
    ·obtain ⟨y,hy⟩:=Du he i (by simpa using hi)
     rw [eS] at hy
     obtain ⟨ci,h1,h2⟩:=hy
     obtain ⟨x,hx,_⟩:=hT ci y.1 y.2 h2
     rw [hc] at h1
     exact ⟨x,fun _=>⟨ci,h1,hx⟩⟩
    ·exact ⟨zj s,fun h=>(hi h).elim⟩
   obtain ⟨X,hX⟩:=Classical.axiomOfChoice hall
   have hmax:maxLen=zC:=rfl
   cases len with
   | zero=>exact ⟨[],cK.one (.sl0 s (some a) cap),by simp [Value.oneCell']⟩
   | succ len=>
    have hcell:∀ i,i < len+1→∃ ci,ci.length=s.size∧(∀ j,j < s.size→w.cell? ((a.add (i * s.size)).add j)=ci[j]?)∧cK w U0 ip (zn s (X i)) ci:=by
     intro i hi
     obtain ⟨ci,h1,h2⟩:=hX i hi
     unfold World.cells? at h1
     rw [if_pos (aV _)] at h1
     obtain ⟨h3,h4⟩:=vW h1
     refine ⟨ci,by simpa using h3,fun j hj=>?_,h2⟩
     exact h4 j j (by simp [hj])
    have hspot:a.spot=none:=by
     obtain ⟨ci,h1,h2,_⟩:=hcell 0 (by omega)
     have:=h2 0 hpos
     simp only [Nat.zero_mul,Addr.add,if_true] at this
     rw [zJ (by omega)] at this
     unfold World.cell? at this
     split at this
     ·split at this
      ·cases this
      ·rename_i hs
       cases hsp:a.spot with
       | none=>rfl
       | some q=>rw [hsp] at hs; simp at hs
     ·cases this
    have hblk:a.block < w.heap.size:=by
     obtain ⟨ci,h1,h2,_⟩:=hcell 0 (by omega)
     have:=h2 0 hpos
     simp only [Nat.zero_mul,Addr.add,if_true] at this
     rw [zJ (by omega)] at this
     have ha:a=⟨a.block,a.off,none⟩:=by rw [← hspot]
     rw [ha] at this
     exact AF this
    have hci:∀ i,∃ ci:List Value,i < len+1→ci.length=s.size∧(∀ j,j < s.size→w.cell? ⟨a.block,a.off+i * s.size+j,none⟩=ci[j]?)∧cK w U0 ip (zn s (X i)) ci:=by
     intro i
     by_cases hi:i < len+1
     ·obtain ⟨ci,h1,h2,h3⟩:=hcell i hi
      refine ⟨ci,fun _=>⟨h1,fun j hj=>?_,h3⟩⟩
      rw [← h2 j hj,Cr a hspot,Cr _ rfl]
     ·exact ⟨[],fun h=>(hi h).elim⟩
    obtain ⟨Cs,hCs⟩:=Classical.axiomOfChoice hci
    let l:List (Sem s):=(List.range (len+1)).map X
    have hl:l.length=len+1:=by simp [l]
    have hget:∀ i (hi:i < l.length),l[i]=X i:=by intro i hi; simp [l]
    refine ⟨l,cK.one ?_,by simp [Value.oneCell']⟩
    have ha:a=⟨a.block,a.off,none⟩:=by rw [← hspot]
    rw [ha,← hl]
    refine .sl s l a.block a.off cap (fun i j=>((Cs i)[j]?).getD undef) (by omega) (by omega) hblk (fun h=>h) ?_ ?_
    ·intro i j hi hj
     obtain ⟨h1,h2,_⟩:=hCs i (by omega)
     rw [h2 j hj,zJ (by omega)]
     rfl
    ·intro i hi j c hc'
     obtain ⟨h1,_,h3⟩:=hCs i (by omega)
     rw [hget i hi] at hc'
     have hj:j < (Cs i).length:=by
      have:=(bM.1 hc').1
      rw [h3.len] at this
      exact this
     have:=h3.rv j c _ hc' (zJ hj)
     rw [zJ hj]
     exact this
  ·cases h

theorem BT {fuel:Nat} {t:TypeId} (ht:P.underlying t=some .string) {cs:List Value} {d:DataW H} {ps:List MemPlace} (h:DataW.trod enc P w 0 sp held fuel t cs=some (d,ps)):Vh w .str cs:=by
 cases fuel with
 | zero=>simp [DataW.trod] at h
 | succ fuel=>
  unfold DataW.trod at h
  rw [ht] at h
  split at h
  all_goals first
   | (rename_i hu; cases hu; done)
   | (rename_i hu _; cases hu; done)
   | (simp at h; done)
   | skip
  rename_i s hu
  split at h
  ·rename_i hs
   refine ⟨s.data.toList,cK.one ?_,by simp [Value.oneCell']⟩
   have h9:maxLen=zC:=rfl
   have h8:s.size=s.data.toList.length:=rfl
   exact .str s.data.toList (by omega)
  ·cases h

theorem vS {t:TypeId} (h:nB P t=true):P.underlying t=some .string∧P.cellsOf t=1:=by
 unfold nB at h
 split at h
 ·rename_i hu; exact ⟨hu,by simpa using h⟩
 ·cases h

theorem LQ {t e:TypeId} (h:G7 P t e=true):P.underlying t=some (.slice e)∧P.cellsOf t=1:=by
 unfold G7 at h
 split at h
 ·rename_i u hu
  simp only [aL,eT] at h
  rw [← h.1]
  exact ⟨hu,h.2⟩
 ·cases h

theorem m8:∀ (fuel n:Nat) (t:TypeId) (s:Sh) (cs:List Value) (d:DataW H) (ps:List MemPlace),Gi P n t s=true→DataW.trod enc P w 0 sp held fuel t cs=some (d,ps)→Vh w s cs
 | 0,_,_,_,_,_,_,_,h=>by simp [DataW.trod] at h
 | fuel+1,0,_,_,_,_,_,hty,_=>by simp [Gi] at hty
 | fuel+1,n+1,t,s,cs,d,ps,hty,h=>by
  have h0:=h
  unfold Gi at hty
  split at hty
  ·rename_i hu
   unfold DataW.trod at h
   rw [hu] at h
   split at h
   all_goals first
    | (rename_i hu'; cases hu'; done)
    | (rename_i hu' _; cases hu'; done)
    | (simp at h; done)
    | skip
   exact ⟨_,cK.one (.bool _),by simp [Value.oneCell']⟩
  ·rename_i k k' hu
   have hk:k=k':=by simpa using hty
   subst hk
   unfold DataW.trod at h
   rw [hu] at h
   split at h
   all_goals first
    | (rename_i hu'; cases hu'; done)
    | (rename_i hu' _; cases hu'; done)
    | (simp at h; done)
    | skip
   rename_i k1 k2 m hu'
   cases hu'
   split at h
   ·rename_i hw
    obtain ⟨rfl,hw⟩:=hw
    simp only [Lit.wf,aL,ae] at hw
    exact ⟨m,cK.one (.int _ _ ⟨hw.1,hw.2⟩),by simp [Value.oneCell']⟩
   ·cases h
  ·rename_i hu
   exact BT hu h
  ·rename_i e s hu
   simp only [aL,eT,ae] at hty
   exact Ao hu hty.1 hty.2.1 (fun cs d ps h=>m8 fuel n e s cs d ps hty.2.2 h) h
  ·rename_i fs hu
   split at hty
   ·rename_i a b c d' hfs
    simp only [aL,eT] at hty
    obtain ⟨hsz,ha,hb,hc,hd,sa,sc,sd,zb,tb⟩:=hty
    obtain ⟨sa,za⟩:=vS sa
    obtain ⟨sc,zc⟩:=vS sc
    obtain ⟨sd,zd⟩:=LQ sd
    unfold DataW.trod at h
    rw [hu] at h
    simp only at h
    split at h
    ·rename_i hlen
     rw [dI] at h
     obtain ⟨xs,hm,_⟩:=h
     rw [hfs] at hm
     obtain ⟨ya,r1,ya1,hm,_⟩:=cq hm
     obtain ⟨yb,r2,yb1,hm,_⟩:=cq hm
     obtain ⟨yc,r3,yc1,hm,_⟩:=cq hm
     obtain ⟨yd,r4,yd1,hm,_⟩:=cq hm
     rw [ha,za] at ya1
     rw [hb,zb] at yb1
     rw [hc,zc] at yc1
     rw [hd,zd] at yd1
     obtain ⟨xa,ga,oa⟩:=BT sa ya1
     obtain ⟨xb,gb,ob⟩:=m8 fuel n b.type _ _ _ _ tb yb1
     obtain ⟨xc,gc,oc⟩:=BT sc yc1
     have hgd:Vh w (.sl .expr) ((cs.drop 5).take 1):=by
      cases fuel with
      | zero=>simp [DataW.trod] at yd1
      | succ fuel=>
       refine Ao sd (by rw [hsz]; rfl) (by decide) (fun cs d ps h=>m8 fuel (n+1) t .expr cs d ps ?_ h) yd1
       unfold Gi
       rw [hu]
       simp only [hfs,aL,eT]
       refine ⟨hsz,ha,hb,hc,hd,?_,?_,?_,zb,tb⟩
       ·simp [nB,sa,za]
       ·simp [nB,sc,zc]
       ·simp [G7,sd,zd]
     obtain ⟨xd,gd,od⟩:=hgd
     have hl6:cs.length=6:=by rw [hlen,hsz]
     have hcs:cs=(cs.drop 0).take 1++((cs.drop 1).take 3++((cs.drop 4).take 1++(cs.drop 5).take 1)):=by
      match cs,hl6 with
      | [v0,v1,v2,v3,v4,v5],_=>rfl
     refine ⟨ze.mk xa xb xc xd,?_,?_⟩
     ·have hr:=ga.appS (gb.appS (gc.appS gd))
      rw [← hcs] at hr
      exact hr
     ·intro v hv
      rw [hcs] at hv
      simp only [bn] at hv
      rcases hv with hv | hv | hv | hv
      ·exact oa v hv
      ·exact ob v hv
      ·exact oc v hv
      ·exact od v hv
    ·cases h
   ·cases hty
  ·rename_i fs a b hu
   simp only [aL,eT] at hty
   unfold DataW.trod at h
   rw [hu] at h
   simp only at h
   split at h
   ·rename_i hlen
    rw [dI] at h
    obtain ⟨xs,hm,_⟩:=h
    have:=vL (fun t s cs d ps h1 h2=>m8 fuel n t s cs d ps h1 h2) fs.toList 0 (.pr a b) xs hty.2 hm
    rw [List.drop_zero,List.take_of_length_le (by rw [hlen,hty.1]; exact bd _)] at this
    exact this
   ·cases h
  ·cases hty
termination_by fuel=>fuel

theorem sZ {n:Nat} {t:TypeId} {s:Sh} {v:Value} {d:DataW H} {ps:List MemPlace} (hty:Gi P n t s=true) (h:DataW.Trod enc P w 0 sp held t v d ps) (hagg:(∃ cs,v=.agg cs)↔s.isAgg=true) (hsc:s.isAgg=false→v.cells = #[v]):∃ x:Sem s,Rv w U0 ip (zz s x) v:=by
 obtain ⟨fuel,h⟩:=h
 obtain ⟨x,hr,ho⟩:=m8 fuel n t s _ d ps hty h
 refine ⟨x,?_⟩
 unfold zz
 cases hs:s.isAgg with
 | true=>
  obtain ⟨cs,rfl⟩:=hagg.2 hs
  simp only
  have:=Rv.agg (w:=w) (U:=U0) (ρ:=ip) (zn s x) cs.toList hr.len ho hr.rv
  simpa using this
 | false=>
  simp only
  rw [hsc hs] at hr
  have hlen:=hr.len
  match he:zn s x,hlen with
  | [c],_=>
   rw [he] at hr
   exact hr.rv 0 c v rfl rfl
end
open Go Go.RowKit Go.ChangeShapes

theorem Bk {W W':World} (hos:W'.os=W.os) (hout:W'.output=W.output) (h:∀ b,b < W.heap.size→W'.heap[b]?=W.heap[b]?) (may:MemPlace→Prop):W.keptBut W' may:=by
 refine ⟨hos,hout,fun i hi=>?_⟩
 rw [h i hi]
 cases W.heap[i]? with
 | none=>rfl
 | some o=>
  cases o with
  | cells c t fr=>exact ⟨rfl,rfl,rfl,fun _ _=>rfl⟩
  | map es clock=>exact .inr ⟨rfl,rfl⟩
  | _=>rfl

section
variable {H:Type} {enc:TypeId×Value→H} {P:Program}

theorem DD {f:Func} {s:ChangeSpec} {fresh handsOn again:Bool} {W W':World} {args:Array Value} {v:Value} {ds gs:List (DataW H)} {before pa pv:List MemPlace}
  (hW:DataW.Whole enc P f.params.toList s.vars false W args.toList ds gs before)
  (hres:∀ (b:Nat) (sp:Nat→Bool) (hd:Bool),DataW.TrodAll enc P W' b sp hd f.resultTypes.toList (v.resultList f.resultTypes.size) (s.fn H (ds++gs)).results [])
  (hargs:∀ sp:Nat→Bool,(∀ p∈before,sp p.block=true)→DataW.TrodAll enc P W' 0 sp true f.params.toList args.toList (s.fn H (ds++gs)).args pa)
  (hvars:∀ sp:Nat→Bool,(∀ p∈before,sp p.block=true)→DataW.TrodVars enc P W' sp s.vars (s.fn H (ds++gs)).vars pv)
  (hps:before=pa++pv) (hk:W.keptBut W' (· ∈ before)) (hfz:∀ a:Addr,a.block < W.heap.size→W'.frozen? a=W.frozen? a)
  (hok:∀ (j:Nat) (t:TypeId) (r:Value),f.resultTypes[j]?=some t→(v.resultList f.resultTypes.size)[j]?=some r→Value.okWide P W' .any 0 t r):
  s.post enc P f false fresh handsOn again W args v W':=by
 have hold:∀ p∈before,(fun b=>decide (b < W.heap.size)) p.block=true:=fun p hp=>by simpa using hW.lt p hp
 have hlt:=hW.lt
 refine ⟨ds,gs,before,[],pa,pv,hW,hres _ _ _,hargs _ hold,hvars _ hold,World.keptBut_mono (fun p hp=>⟨hp,?_⟩) hk,fun _=>?_⟩
 ·rw [hps,bn] at hp
  exact Or.inr hp
 ·obtain ⟨_,_,_,_,_,hz,hn⟩:=hW
  refine ⟨hok,_,_,([]++pa)++pv,⟨[]++pa,pv,trodAll_append (hargs _ (fun _ _=>rfl)) (hres _ _ _),hvars _ (fun _ _=>rfl),rfl,?_,?_⟩,?_⟩
  ·intro b off hp
   have hp':MemPlace.cell b off∈before:=by rw [hps]; simpa using hp
   rw [hfz ⟨b,off,none⟩ (hlt _ hp')]
   exact hz b off hp'
  ·intro ha
   cases ha
  ·intro p hp _
   rw [hps]
   simpa using hp

theorem Jc {W:World} {r:Go.Reach} {b:Nat} {t:TypeId} {fs:Array Field} {v:Value} (ht:P.underlying t=some (.struct fs)) (h:Value.okWide P W r b t v):∃ cs,v=.agg cs:=by
 unfold Value.okWide at h
 rw [ht] at h
 obtain ⟨cs,rfl,_⟩:=h
 exact ⟨cs,rfl⟩

theorem MP {W:World} {r:Go.Reach} {b:Nat} {t e:TypeId} {v:Value} (ht:P.underlying t=some (.slice e)) (h:Value.okWide P W r b t v):∃ a n c,v=.slice a n c:=by
 unfold Value.okWide at h
 rw [ht] at h
 simp only at h
 unfold Cell.okWide at h
 rw [ht] at h
 unfold Cell.ok at h
 rw [ht] at h
 cases v <;> simp at h
 exact ⟨_,_,_,rfl⟩

theorem Xn {W:World} {r:Go.Reach} {b:Nat} {t:TypeId} {k:IntKind} {v:Value} (ht:P.underlying t=some (.int k)) (h:Value.okWide P W r b t v):∃ n,v=.int k n:=by
 unfold Value.okWide at h
 rw [ht] at h
 simp only at h
 unfold Cell.okWide at h
 rw [ht] at h
 unfold Cell.ok at h
 rw [ht] at h
 cases v <;> simp at h
 exact ⟨_,by rw [h.1]⟩

theorem Ff {W:World} {r:Go.Reach} {b n:Nat} {t:TypeId} {fs:Array Field} {s:Sh} {v:Value} {d:DataW H} {ps:List MemPlace} (hty:Gi P n t s=true) (hs:s.isAgg=true) (ht:P.underlying t=some (.struct fs)) (hok:Value.okWide P W r b t v)
  (h:DataW.Trod enc P W 0 (fun _=>true) true t v d ps):∃ x:Sem s,Rv W U0 ip (zz s x) v:=by
 refine sZ hty h ⟨fun _=>hs,fun _=>Jc ht hok⟩ (fun h'=>?_)
 rw [hs] at h'; cases h'
theorem IX {W:World} {r:Go.Reach} {b n:Nat} {t e:TypeId} {s:Sh} {v:Value} {d:DataW H} {ps:List MemPlace} (hty:Gi P n t (.sl s)=true) (ht:P.underlying t=some (.slice e)) (hok:Value.okWide P W r b t v)
  (h:DataW.Trod enc P W 0 (fun _=>true) true t v d ps):∃ x:List (Sem s),Rv W U0 ip (.sl s x) v:=by
 obtain ⟨a,m,c,rfl⟩:=MP ht hok
 exact sZ (s:=.sl s) hty h ⟨(fun ⟨_,hh⟩=>(by cases hh)),(fun hh=>(by cases hh))⟩ (fun _=>rfl)
theorem PW {W:World} {r:Go.Reach} {b n:Nat} {t:TypeId} {k:IntKind} {v:Value} {d:DataW H} {ps:List MemPlace} (hty:Gi P n t (.int k)=true) (ht:P.underlying t=some (.int k)) (hok:Value.okWide P W r b t v)
  (h:DataW.Trod enc P W 0 (fun _=>true) true t v d ps):∃ x:Int,Rv W U0 ip (.int k x) v:=by
 obtain ⟨m,rfl⟩:=Xn ht hok
 exact sZ (s:=.int k) hty h ⟨(fun ⟨_,hh⟩=>(by cases hh)),(fun hh=>(by cases hh))⟩ (fun _=>rfl)

theorem Ez {gl:Nat→AV} {k:FuncId} {F:zF} (hF:mf P gl k F) {W:World} {gz:List AV} {args:Array Value} (hgl:xp gl W U0) (hr:cK W U0 ip gz args.toList) (hv:(F gz (fun _=>.dead) 0).val=some { val:=.bool true }) (hid:AV.idsL gz=[]):
  Calls P k args W fun e W'=>e=.returned (.bool true)∧gu W W'∧∀ b,b < W.heap.size→W'.heap[b]?=W.heap[b]?:=by
 have:=(hF.calls W U0 ip (fun _=>.dead) 0 gz args.toList _ [] hv hr (fun _ h=>h.elim) hgl ⟨by simp,by simp⟩ (by rw [hid]; simp) (by simp) (by simp)).1
 rw [show args.toList.toArray=args by simp] at this
 refine this.mono ?_
 rintro e w' ⟨v,U',ρ',rfl,hef⟩
 have hv':=hef.val
 cases hv'
 exact ⟨rfl,hef.ext,fun b hb=>hef.same b hb (by simp)⟩
end
end Cad
