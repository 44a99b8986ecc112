/- A text that a statement's parts make has its tokens. The SELECT and the DELETE of a key may be. The document's comparisons and sums; checks. -/
import Derived.Test.YtiefilkilbdpgaaGreatDoorN15
import Derived.Test.YtiefilkilbdpgaaGreatDoorN17
import Derived.Test.YtiefilkilbdpgaaGreatDoorN12
import Derived.Test.YtiefilkilbdpgaaGreatDoorN14
import Derived.Test.YtiefilkilbdpgaaGreatDoorN18
import Derived.Test.YtiefilkilbdpgaaGreatDoorN11
import Derived.Test.YtiefilkilbdpgaaGreatDoorN09
import Derived.Carry
import Derived.ChangeSame
namespace Cad
open Go Go.Proofs
open List (getD)
open List (length)
set_option maxHeartbeats 4000000

theorem FW (c:UInt8) (r:zp) (h:fL (fE c r).1=true):1≤(fE c r).2:=by
 unfold fE at h ⊢
 split
 ·exact Nat.le_add_left 1 _
 ·split
  ·exact Nat.le_add_left 1 _
  ·split
   ·rename_i h1 h2 h3
    rw [if_neg h1,if_neg h2,if_pos h3] at h
    cases hs:dN r with
    | none=>
     rw [hs] at h
     exact absurd h (by simp [fL])
    | some x=>exact Nat.le_add_left 1 _
   ·exact aY 1

theorem Bk:∀ (n:Nat) (s:zp) (k n':Nat),s.length+1≤n'→ke n s k=true→ke n' s k=true
 | 0,_,_,_,_,h=>by cases h
 | _+1,[],_,0,h',_=>by omega
 | _+1,[],_,_+1,_,h=>h
 | _+1,_::_,_,0,h',_=>by omega
 | n+1,c::r,k,n'+1,h',h=>by
  simp only [mc] at h'
  rw [ke] at h ⊢
  split
  ·rename_i h1
   rw [if_pos h1] at h
   exact Bk n r k n' (by omega) h
  ·rename_i h1
   rw [if_neg h1] at h
   split
   ·rename_i h2
    rw [if_pos h2] at h
    have:=FW c r h2
    exact Bk n _ (k+1) n' (by simp only [List.length_drop,mc]; omega) h
   ·rename_i h2
    rw [if_neg h2] at h
    cases h

def iO (s:zp) (k:Nat):Prop:=∃ n,ke n s k=true
theorem iO.now {s:zp} {n:Nat} (h:iO s 0) (hn:s.length+1≤n):ke n s 0=true:=by
 obtain ⟨m,h⟩:=h
 exact Bk m s 0 n hn h
theorem iO.nil {k:Nat} (h:k≤400):iO [] k:=⟨1,aq h⟩
theorem iO.mono {s:zp} {k k':Nat} (h:iO s k) (hk:k'≤k):iO s k':=by
 obtain ⟨n,h⟩:=h
 exact ⟨n,ro n s k k' hk h⟩
theorem iO.sp {s:zp} {k:Nat} (h:iO s k):iO (32::s) k:=by
 obtain ⟨n,h⟩:=h
 exact ⟨n+1,by rw [ke,if_pos (by rfl)]; exact h⟩
theorem iO.tok {c:UInt8} {r s:zp} {k:Nat} {t:Sem eA} {m:Nat} (hb:(bif (c.toNat:Int)==32 then true else (c.toNat:Int)==10)=false) (hf:fE c r=(t,m)) (ht:fL t=true) (hs:(c::r).drop m=s) (h:iO s (k+1)):iO (c::r) k:=by
 obtain ⟨n,h⟩:=h
 refine ⟨n+1,?_⟩
 rw [ke,if_neg (by rw [hb]; simp),hf,if_pos ht]
 show ke n ((c::r).drop m) (k+1)=true
 rw [hs]
 exact h

theorem qf (p:Int→Bool):∀ (w r:zp),(∀ c∈w,p c.toNat=true)→(∀ d l,r=d::l→p d.toNat=false)→fF p (w++r)=w.length
 | [],[],_,_=>rfl
 | [],d::l,_,h=>by
  show fF p (d::l)=0
  rw [fF,h d l rfl]
  rfl
 | c::w,r,h1,h2=>by
  show fF p (c::(w++r))=w.length+1
  rw [fF,if_pos (h1 c (by simp)),qf p w r (fun x hx=>h1 x (by simp [hx])) h2]

theorem H1 {p:Int→Bool} (h32:p 32=false) (h10:p 10=false) {c:UInt8} (h:p c.toNat=true):(bif (c.toNat:Int)==32 then true else (c.toNat:Int)==10)=false:=by
 have a:((c.toNat:Int)==32)=false:=by
  refine jr.2 fun e=>?_
  rw [e,h32] at h; cases h
 have b:((c.toNat:Int)==10)=false:=by
  refine jr.2 fun e=>?_
  rw [e,h10] at h; cases h
 rw [a,b]
 rfl

def kr (r:zp):Prop:=∀ d l,r=d::l→cm d.toNat=false∧d≠39
theorem kr.sp (r:zp):kr (32::r):=by
 rintro d l h
 injection h with h1 h2
 subst h1
 exact ⟨rfl,by decide⟩
theorem kr.pa (r:zp):kr (41::r):=by
 rintro d l h
 injection h with h1 h2
 subst h1
 exact ⟨rfl,by decide⟩
theorem kr.nil:kr []:=fun _ _ h=>by cases h

theorem TB (p:Int→Bool):∀ r:zp,fF p r=r.length→∀ x∈r,p x.toNat=true
 | [],_,x,hx=>by cases hx
 | d::l,hl,x,hx=>by
  rw [fF] at hl
  split at hl
  ·rename_i hd
   rcases c9.1 hx with rfl | hx
   ·exact hd
   ·exact TB p l (by simpa using hl) x hx
  ·simp at hl
theorem V4 (n:Int) (h:cn .i64 n):n.natAbs < 10 ^ (18+1):=by
 have h1:-9223372036854775808≤n:=h.1
 have h2:n≤9223372036854775807:=h.2
 omega
theorem Ku {w:zp} (h:lq w=true):∃ c r,w=c::r∧aK c.toNat=true∧∀ x∈r,cm x.toNat=true:=by
 have h:nv w=true:=h
 unfold nv at h
 cases w with
 | nil=>simp at h
 | cons c r=>
  refine ⟨c,r,rfl,?_⟩
  cases h1:decide (((c::r).length:Int) ≥ 1)
  ·rw [h1] at h; cases h
  cases h2:decide (((c::r).length:Int)≤16)
  ·rw [h1,h2] at h; cases h
  rw [h1,h2] at h
  have h:((aA aK cm (c::r):Int)==((c::r).length:Int))=true:=h
  have h:(aA aK cm (c::r):Int)=((c::r).length:Int):=by simpa using h
  rw [aA] at h
  split at h
  ·rename_i hc
   refine ⟨hc,?_⟩
   have hl:fF cm r=r.length:=by simp at h; omega
   exact TB cm r hl
  ·simp at h; omega

theorem iO.word {w r:zp} {k:Nat} (hw:lq w=true) (hr:kr r) (h:iO r (k+1)):iO (w++r) k:=by
 obtain ⟨c,l,rfl,hc,hl⟩:=Ku hw
 have hld:fF cm (l++r)=l.length:=qf cm l r hl fun d l' e=>(hr d l' e).1
 refine iO.tok (r:=l++r) (s:=r) (t:=(1,c::l)) (m:=l.length+1) (H1 (p:=aK) rfl rfl hc) ?_ ?_ ?_ h
 ·unfold fE
  rw [if_pos hc,hld]
  simp
 ·exact hw
 ·simp

theorem iO.num {w r:zp} {k:Nat} (h1:1≤w.length) (h2:w.length≤19) (hd:∀ c∈w,zV c.toNat=true) (hr:kr r) (h:iO r (k+1)):iO (w++r) k:=by
 cases w with
 | nil=>simp at h1
 | cons c l=>
  have hc:zV c.toNat=true:=hd c (by simp)
  have hlc:aK c.toNat=false:=by
   cases hh:aK c.toNat with
   | false=>rfl
   | true=>
    exfalso
    have h57:(c.toNat:Int)≤57:=by
     unfold zV at hc
     cases h1:decide ((c.toNat:Int) ≥ 48) <;> rw [h1] at hc
     ·cases hc
     ·exact fj hc
    unfold aK at hh
    rw [cx (show ¬ (c.toNat:Int) ≥ 97 by omega),cx (show ¬ (c.toNat:Int) ≥ 65 by omega)] at hh
    cases hh
  have hnp:∀ d l',r=d::l'→zV d.toNat=false:=by
   intro d l' e
   have:=(hr d l' e).1
   unfold cm at this
   cases hh:zV d.toNat
   ·rfl
   ·rw [hh] at this
    cases hl:aK d.toNat <;> rw [hl] at this <;> cases this
  have hld:fF zV (l++r)=l.length:=qf zV l r (fun x hx=>hd x (by simp [hx])) hnp
  refine iO.tok (r:=l++r) (s:=r) (t:=(2,c::l)) (m:=l.length+1) (H1 (p:=zV) rfl rfl hc) ?_ ?_ ?_ h
  ·unfold fE
   rw [if_neg (by rw [hlc]; simp),if_pos hc,hld]
   simp
  ·have e:aA zV zV (c::l)=(c::l).length:=by
    rw [aA,if_pos hc]
    have:=qf zV l [] (fun x hx=>hd x (by simp [hx])) (by intro _ _ h; cases h)
    rw [jQ] at this
    rw [this]
    rfl
   have a1:decide (((c::l).length:Int) ≥ 1)=true:=aq (by omega)
   have a2:decide (((c::l).length:Int)≤19)=true:=aq (by omega)
   show (bif decide (((c::l).length:Int) ≥ 1) then bif decide (((c::l).length:Int)≤19) then ((aA zV zV (c::l):Int)==((c::l).length:Int)) else false else false)=true
   rw [a1,a2,e]
   simp
  ·simp

theorem iO.sign {c:UInt8} {r:zp} {k:Nat} (hc:c=40∨c=41∨c=44∨c=61∨c=60∨c=43∨c=45∨c=42) (h:iO r (k+1)):iO (c::r) k:=by
 refine iO.tok (r:=r) (s:=r) (t:=(4,[c])) (m:=1) ?_ ?_ ?_ (by simp) h
 ·rcases hc with rfl | rfl | rfl | rfl | rfl | rfl | rfl | rfl <;> rfl
 ·unfold fE
  rcases hc with rfl | rfl | rfl | rfl | rfl | rfl | rfl | rfl <;> (rw [if_neg (by decide),if_neg (by decide),if_neg (by decide)])
 ·rcases hc with rfl | rfl | rfl | rfl | rfl | rfl | rfl | rfl <;> rfl

theorem xv:∀ (t r:zp),r.head?≠some 39→dN (pT t++39::r)=some (t,(pT t).length+1)
 | [],r,h=>by
  show dN (39::r)=some ([],1)
  exact xw r h
 | c::t,r,h=>by
  rw [pT]
  split
  ·rename_i hc
   subst hc
   show dN (39::39::(pT t++39::r))=_
   rw [EL,xv t r h]
   simp
  ·rename_i hc
   show dN (c::(pT t++39::r))=_
   rw [AR hc,xv t r h]
   simp

theorem iO.quoted {t r:zp} {k:Nat} (ht:gy ((2,0,t):Sem zf)=true) (hr:kr r) (h:iO r (k+1)):iO (39::(pT t++39::r)) k:=by
 have h39:r.head?≠some 39:=by
  cases r with
  | nil=>simp
  | cons d l=>simpa using (hr d l rfl).2
 refine iO.tok (r:=pT t++39::r) (s:=r) (t:=(3,t)) (m:=(pT t).length+1+1) (by rfl) ?_ ht ?_ h
 ·unfold fE
  rw [if_neg (by decide),if_neg (by decide),if_pos rfl,xv t r h39]
 ·simp [List.drop_append]

theorem o6:∀ (f n:Nat),∀ c∈oz f n,zV c.toNat=true
 | 0,_,c,h=>by cases h
 | f+1,n,c,h=>by
  have hd:∀ m,m < 10→zV (UInt8.ofNat (48+m)).toNat=true:=by decide
  rw [oz] at h
  split at h
  ·rename_i hn
   rw [bL] at h
   subst h
   exact hd n hn
  ·rcases bp.1 h with h | h
   ·exact o6 f _ c h
   ·rw [bL] at h
    subst h
    exact hd (n % 10) (Nat.mod_lt n (by omega))
theorem Lg (f n:Nat):1≤(oz (f+1) n).length:=by
 rw [oz]
 split
 ·simp
 ·simp
theorem u6:∀ (f g n:Nat),n < 10 ^ (g+1)→(oz f n).length≤g+1
 | 0,_,_,_=>by simp [oz]
 | f+1,g,n,h=>by
  rw [oz]
  split
  ·simp
  ·rename_i hn
   cases g with
   | zero=>omega
   | succ g=>
    have:=u6 f g (n / 10) (by rw [Nat.pow_succ] at h; omega)
    simp
    omega

theorem iO.val {v:Sem zf} {r:zp} {k:Nat} (hm:gy v=true) (hv:cn .i64 v.2.1) (hr:kr r) (h:iO r (k+2)):iO (gC v++r) k:=by
 obtain ⟨a,n,t⟩:=v
 unfold gC
 rw [if_neg (by rw [hm]; simp)]
 split
 ·show iO (oN n++r) k
  have hlt:n.natAbs < 10 ^ (18+1):=V4 n hv
  have hl:=u6 20 18 n.natAbs hlt
  have hp:=Lg 19 n.natAbs
  unfold oN
  split
  ·show iO (45::(oz 20 n.natAbs++r)) k
   exact iO.sign (by simp) (iO.num hp hl (o6 20 _) hr h)
  ·exact iO.num hp hl (o6 20 _) hr (h.mono (by omega))
 ·split
  ·rename_i h1 h2
   have h2:a=(2:Int):=by simpa using h2
   subst h2
   show iO ([39]++Lib.replaceAll t [39] [39,39]++[39]++r) k
   rw [xe]
   have e:[39]++pT t++[39]++r=39::(pT t++39::r):=by simp
   rw [e]
   have ht:gy ((2,0,t):Sem zf)=true:=by
    have hn:n=0:=by
     unfold gy at hm
     simp only at hm
     cases hz:(n==(0:Int))
     ·rw [if_neg (by simp),if_neg (by simp),if_pos (by simp),hz] at hm
      cases hm
     ·simpa using hz
    rw [hn] at hm
    exact hm
   exact iO.quoted ht hr (h.mono (by omega))
  ·split
   ·split
    ·exact iO.word (w:=[84,82,85,69]) (by kernel_rfl) hr (h.mono (by omega))
    ·exact iO.word (w:=[70,65,76,83,69]) (by kernel_rfl) hr (h.mono (by omega))
   ·exact iO.word (w:=[78,85,76,76]) (by kernel_rfl) hr (h.mono (by omega))


noncomputable section

end
noncomputable section

inductive zj3 where
 | h6 (l1:LC) (l2:LV) (i7:Int) (z0:zu [CP.d Sh.expr]) (z1:zu [CP.d zf])
inductive zkc where
 | h5 (i3:Int) (i4:Int) (z0:zu [CP.d zw])
 | h11 (i3:Int) (i6:Int) (z0:zu [CP.d zw])
 | h16 (i3:Int) (i7:Int) (z0:zu [CP.d zw])
end

section
variable {σ:Type}
def Wp (P:σ→Prop) (Q:ao→Prop):Tr (σ ⊕ ao)→Prop
 | .err=>False
 | .chk c t=>c=true∧Wp P Q t
 | .br c t f=>(c=true→Wp P Q t)∧(c=false→Wp P Q f)
 | .ok (.inl s)=>P s
 | .ok (.inr r)=>Q r
theorem Wp.got {P:σ→Prop} {Q:ao→Prop}:∀ {t:Tr (σ ⊕ ao)},Wp P Q t→(∃ s,t.val=some (.inl s)∧P s)∨∃ r,t.val=some (.inr r)∧Q r
 | .err,h=>h.elim
 | .chk c t,h=>by
  obtain ⟨h1,h2⟩:=h
  rw [Tr.val,if_pos h1]
  exact Wp.got h2
 | .br c t f,h=>by
  rw [Tr.val]
  cases c with
  | true=>exact Wp.got (h.1 rfl)
  | false=>exact Wp.got (h.2 rfl)
 | .ok (.inl s),h=>.inl ⟨s,rfl,h⟩
 | .ok (.inr r),h=>.inr ⟨r,rfl,h⟩
variable {t:σ→Tr (σ ⊕ ao)} {i:Tr (σ ⊕ ao)} (I:σ→Prop) (μ:σ→Nat)
theorem EV {Q:ao→Prop} (ht:∀ s,I s→Wp (fun s'=>I s'∧μ s' < μ s) Q (t s)):∀ (n:Nat) (s:σ),I s→μ s < n→∃ r,bw t n s=some r∧Q r
 | 0,_,_,h=>absurd h (by omega)
 | n+1,s,hI,h=>by
  rw [bw]
  rcases (ht s hI).got with ⟨s',h1,h2,h3⟩ | ⟨r,h1,h2⟩
  ·rw [h1]
   exact EV ht n s' h2 (by omega)
  ·rw [h1]
   exact ⟨r,rfl,h2⟩
def SR (outs:List Sh) (Q:zx (outs.map some)→Prop) (r:ao):Prop:=∃ y,ah r.2 outs r.1=some y∧Q y
theorem tot {outs:List Sh} {n:Nat} {Q:zx (outs.map some)→Prop} (hi:Wp (fun s=>I s∧μ s < n) (SR outs Q) i) (ht:∀ s,I s→Wp (fun s'=>I s'∧μ s' < μ s) (SR outs Q) (t s)):∃ y,zW outs t n i=some y∧Q y:=by
 unfold zW bl
 rcases hi.got with ⟨s,h1,h2,h3⟩ | ⟨r,h1,y,h2,h3⟩
 ·rw [h1]
  obtain ⟨r,h4,y,h5,h6⟩:=EV I μ ht n s h2 h3
  exact ⟨y,by show (bw t n s).bind _=_; rw [h4]; exact h5,h6⟩
 ·rw [h1]
  exact ⟨y,h2,h3⟩
theorem zf7 {a:Sh} {n:Nat} {Q:Sem a→Prop} (hi:Wp (fun s=>I s∧μ s < n) (SR [a] fun y:zx [some a]=>Q y.1) i) (ht:∀ s,I s→Wp (fun s'=>I s'∧μ s' < μ s) (SR [a] fun y:zx [some a]=>Q y.1) (t s)):(zW [a] t n i).isSome=true∧Q (o1 (zW [a] t n i)):=by
 obtain ⟨y,h1,h2⟩:=tot (outs:=[a]) (Q:=fun y:zx [some a]=>Q y.1) I μ hi ht
 rw [h1]
 exact ⟨rfl,h2⟩
end
theorem YO {a:Sh} {n:Nat} {i:Tr (Empty ⊕ ao)} {Q:Sem a→Prop} (hi:∀ P:Empty→Prop,Wp P (SR [a] fun y:zx [some a]=>Q y.1) i):(zW [a] t0 n i).isSome=true∧Q (o1 (zW [a] t0 n i)):=
 zf7 (fun _=>True) (fun _=>0) (hi _) fun s=>nomatch s
theorem ziI {σ:Type} {t:σ→Tr (σ ⊕ ao)} {i:Tr (σ ⊕ ao)} {a:Sh} {n:Nat} (I:σ→Prop) (μ:σ→Nat) (hi:Wp (fun s=>I s∧μ s < n) (SR [a] fun _=>True) i) (ht:∀ s,I s→Wp (fun s'=>I s'∧μ s' < μ s) (SR [a] fun _=>True) (t s)):(zW [a] t n i).isSome=true:=(zf7 (Q:=fun _=>True) I μ hi ht).1
theorem IT {a:Sh} {n:Nat} {i:Tr (Empty ⊕ ao)} (hi:∀ P:Empty→Prop,Wp P (SR [a] fun _=>True) i):(zW [a] t0 n i).isSome=true:=(YO (Q:=fun _=>True) hi).1

theorem Xg {i:Int} {k:Nat} (h0:0≤i) (h:i < (k:Int)):zI i k=true:=by unfold zI; simp [h0,h]
theorem YT {i:Int} (h0:LE.le (α:=Int) 0 i) (h:i < 9223372036854775807):IntKind.i64.wrap (i+1)=i+1:=by
 rw [uE]; omega
theorem stp {i:Int} {n:Nat} (h0:LE.le (α:=Int) 0 i) (h:decide (LT.lt (α:=Int) i (n:Int))=true) (hn:n≤1000000):zI i n=true∧IntKind.i64.wrap (i+1)=i+1∧LT.lt (α:=Int) i (n:Int):=by
 have h:LT.lt (α:=Int) i (n:Int):=fj h
 exact ⟨by unfold zI; rw [aq h0,aq h]; rfl,YT h0 (by omega),h⟩

def VS (v:Sem zf):Prop:=v.2.2.length≤1000000

theorem AE (b:Bool):wT b=true∧VS (bH b):=YO (a:=zf) (Q:=VS) fun _=>⟨fun _=>⟨_,rfl,aV _⟩,fun _=>⟨_,rfl,aV _⟩⟩
@[simp] theorem J5 (b:Bool):wT b=true:=(AE b).1
theorem AF (b:Bool):VS ((bH b).1,(bH b).2.1,(bH b).2.2):=(AE b).2
@[simp] theorem Yw (v:Sem zf) (b:Bool):nb v b=true:=IT (a:=Sh.bool) fun _=>⟨J5 b,_,rfl,trivial⟩
theorem zgj (a b:Sem zf):Yv a b=true∧VS (zfO a b):=YO (a:=zf) (Q:=VS) fun _=>by
 simp only [Tk,Wp,Yw,Bool.true_and,Bool.cond_self,true_and]
 exact ⟨fun _=>⟨_,rfl,AF _⟩,fun _=>⟨fun _=>⟨_,rfl,AF _⟩,fun _=>⟨_,rfl,aV _⟩⟩⟩
section
variable {a b:Sem zf} (ha:VS a) (hb:VS b)
include ha hb
end

mutual
def Fa:ze→Prop
 | .mk _ v s l=>VS v∧s.length≤1000000∧rb l
def rb:List ze→Prop
 | []=>True
 | e::r=>Fa e∧rb r
end
theorem YS:Fa (zj Sh.expr):=by
 show Fa (.mk [] (0,0,[]) [] [])
 rw [Fa,rb]
 exact ⟨aV _,aV _,trivial⟩
theorem rb.at:∀ {l:List ze},rb l→∀ i,Fa (l.getD i (zj Sh.expr))
 | [],_,_=>YS
 | x::r,h,i=>by
  rw [rb] at h
  cases i with
  | zero=>exact h.1
  | succ i=>exact h.2.at i
theorem Fa.s {e:ze} (h:Fa e):(ze.s e).length≤1000000:=by cases e; rw [Fa] at h; exact h.2.1
theorem Fa.v {e:ze} (h:Fa e):VS (ze.v e):=by cases e; rw [Fa] at h; exact h.1
theorem Fa.l {e:ze} (h:Fa e):rb (ze.l e):=by cases e; rw [Fa] at h; exact h.2.2

@[simp] theorem GH (x:Int):kY x=true:=IT (a:=Sh.bool) fun _=>⟨_,rfl,trivial⟩
@[simp] theorem Y0 (x:Int):gf x=true:=IT (a:=Sh.bool) fun _=>⟨_,rfl,trivial⟩
@[simp] theorem N8 (x:Int):tZ x=true:=IT (a:=Sh.bool) fun _=>by
 refine ⟨?_,_,rfl,trivial⟩
 simp
theorem zfQ {s:zp} (h:s.length≤1000000):tY s=true:=by
 refine ziI (a:=Sh.bool) (fun x:ut=>match x with | .h2 t i=>LE.le (α:=Int) 0 i∧t=s) (fun x=>match x with | .h2 t i=>1000001 - i.toNat) ⟨⟨Int.le_refl _,rfl⟩,by simp⟩ ?_
 rintro ⟨t,i⟩ ⟨h0,hz⟩
 subst hz
 refine ⟨fun hc=>?_,fun hc=>?_⟩
 ·obtain ⟨h1,h2,h3⟩:=stp h0 hc h
  simp only [Wp,h1,h2,N8,true_and]
  exact ⟨fun _=>⟨_,rfl,trivial⟩,fun _=>⟨⟨by omega,trivial⟩,by omega⟩⟩
 ·refine ⟨?_,_,rfl,trivial⟩
  simp only [GH,Bool.and_true]
  cases h1:decide (LE.le (α:=Int) 1 (t.length:Int)) with
  | false=>rfl
  | true=>
   have h1:LE.le (α:=Int) 1 (t.length:Int):=fj h1
   rw [Xg (Int.le_refl 0) (by omega)]
   simp
def GE:Nat→ze→Prop
 | 0,_=>False
 | d+1,.mk op _ _ l=>((op==[108,105,116])=false→(op==[99,111,108])=false→0 < l.length∧((op==[110,111,116])=false→(op==[110,117,108,108])=false→1 < l.length))∧l.length≤2∧∀ i,i < l.length→GE d (l.getD i (zj Sh.expr))
theorem K4 {a b:Bool} (h:(bif a then b else false)=true):a=true∧b=true:=by
 cases a <;> cases b <;> simp_all

noncomputable section

inductive zkd where
 | h4 (l1:LV) (i5:Int) (z0:zu [CP.d zw])
 | h9 (l1:LV) (i6:Int) (z0:zu [CP.d zw])
inductive zke where
 | h2 (l0:List (Sem zf.sl)) (i1:Sem zg) (i5:Int)
 | h5 (l0:List (Sem zf.sl)) (i1:Sem zg) (i5:Int) (i6:Int)
inductive zkf where
 | h2 (i5:Int) (z0:zu [CP.d zh]) (z1:zu [CP.d zf])
end
noncomputable section

inductive zka where
 | h6 (i3:Int) (z0:zu [CP.d zh])
 | h14 (i5:Int) (z0:zu [CP.d zh])
 | h19 (i6:Int) (z0:zu [CP.d zh])
inductive zkb where
 | h2 (l0:List (Sem zh)) (i3:Int)
 | h5 (l0:List (Sem zh)) (i3:Int) (i4:Int)
 | h12 (l0:List (Sem zh)) (i3:Int) (i4:Int) (i6:Sem zg) (i7:Int) (z0:zu [CP.d zq])
end
noncomputable section

inductive H9p where
 | h4 (l0:List (Sem zh)) (i3:Int)
 | h9 (l0:List (Sem zh)) (i4:Int)
end

structure WfT (t:Sem zw):Prop where
 name:t.1.length≤20
 cnames:∀ c∈t.2.1,length c.1≤20
 cols:t.2.1.length≤1000
 uq:t.2.2.2.1.length≤1000
 rf:t.2.2.2.2.1.length≤1000
 rnames:∀ f∈t.2.2.2.2.1,length f.2≤20
 chk:Fa t.2.2.2.2.2
structure WfR (x:Sem zh):Prop where
 tab:WfT x.1
 rows:x.2.length≤1000
 vals:∀ r∈x.2,∀ v∈(r:List (Sem zf)),VS v
structure zkg (t:Sem zw):Prop where
 key:zI t.2.2.1 t.2.1.length=true
 uq:∀ u∈t.2.2.2.1,zI u t.2.1.length=true
 rf:∀ f∈t.2.2.2.2.1,zI f.1 t.2.1.length=true
 chk:(ze.op t.2.2.2.2.2==[])=false→GE 12 t.2.2.2.2.2
def E9 {α:Type} (Q:α→Prop) (d:α) (l:List α) (i:Int):Prop:=∀ j,j < l.length→LT.lt (α:=Int) j i→Q (l.getD j d)
theorem E9.zero {α:Type} {Q:α→Prop} {d:α} {l:List α}:E9 Q d l 0:=fun j _ h=>absurd h (by omega)
theorem E9.next {α:Type} {Q:α→Prop} {d:α} {l:List α} {i:Int} (h:E9 Q d l i) (h0:LE.le (α:=Int) 0 i) (hq:Q (l.getD i.toNat d)):E9 Q d l (i+1):=fun j hj hi=>by
 by_cases e:(j:Int)=i
 ·subst e; exact hq
 ·exact h j hj (by omega)
theorem E9.all {α:Type} {Q:α→Prop} {d:α} {l:List α} {i:Int} (h:E9 Q d l i) (hi:decide (LT.lt (α:=Int) i (l.length:Int))=false):∀ x∈l,Q x:=
 (b7 (d:=d)).1 fun j hj=>h j hj (by have:=of_decide_eq_false hi; omega)


mutual
def IE:ze→Prop
 | .mk _ v _ l=>cn .i64 v.2.1∧SQ l
def SQ:List ze→Prop
 | []=>True
 | e::r=>IE e∧SQ r
end

theorem rb.app:∀ {a b:List ze},rb a→rb b→rb (a++b)
 | [],_,_,h=>h
 | x::r,b,h,hb=>by
  rw [rb] at h
  rw [List.cons_append,rb]
  exact ⟨h.1,h.2.app hb⟩


abbrev YQ:zp:=[117,112,100,97,116,101]
theorem SQ.app:∀ {a b:List ze},SQ a→SQ b→SQ (a++b)
 | [],_,_,h=>h
 | x::r,b,h,hb=>by
  rw [SQ] at h
  rw [List.cons_append,SQ]
  exact ⟨h.1,h.2.app hb⟩
theorem IJ {t:zp} (h:bt t=true):lq t=true:=by
 unfold bt at h
 exact (K4 h).1


theorem Hr {db:List (Sem zh)} {s:Sem zo} {n:List (Sem zh)} {a:Sem cw} (hs:ek s) (hr:∀ x∈db,cu x) (hm:dO s=true) (hB:aW db) (ho:s.1=YQ) (hc:fW (db,s)=some (n,a,())):
  gF db s=some (if a.1=0 then n else db,a,()):=by
 have h1:=dP hs
 have h2:=dU hr
 have h5:jt db=(0:Int):=(gE hr).2 hB
 have q0:(s.1==[99,114,101,97,116,101])=false:=by rw [ho]; rfl
 have q1:(s.1==[100,114,111,112])=false:=by rw [ho]; rfl
 have q2:(s.1==[105,110,115,101,114,116])=false:=by rw [ho]; rfl
 have q3:(s.1==[117,112,100,97,116,101])=true:=by rw [ho]; rfl
 have hcc:uZ (db,s)=true:=by unfold uZ; rw [hc]; rfl
 have hcv:Bs (db,s)=(n,a):=by unfold Bs; rw [hc]; rfl
 unfold gF zW bl
 simp only [OY,Tr.val,zm,Prod.eta,hm,h1,h2,h5,hcc,hcv,q0,q1,q2,q3,fk,bb,ky,mG,zH,if_true,if_false]
 by_cases h:a.1=0
 ·have h':(a.1 != 0)=false:=by simpa using h
  simp only [h',zH,if_false,if_pos h]
  rfl
 ·have h':(a.1 != 0)=true:=by simpa using h
  simp only [h',if_true,if_neg h]
  rfl

theorem QH (l:List (Sem zg)) (k:Int) (hl:l.length≤1000):∃ b:Bool,D0 l k=some (b,()):=by
 have h:=I0 (t:=ER) (Φ:=fun r=>∃ j:Int,ah r.2 [zg] r.1=some (j,())) 1 (fun i=>.h2 l k (l.length:Int) (i:Int)) (fun i=>(k==l.getD i (zj zg))=false) l.length (by
  intro i hi _
  have hw:=zD i (by unfold zB; omega)
  cases c:(k==l.getD i (zj zg)) with
  | false=>
   refine .inl ⟨rfl,aG.of ?_⟩
   simp only [ER,Tr.val,zT hi,zC hi,aQ,c,hw,zH,if_true,if_false]
  | true=>
   refine .inr ⟨by simp,(.int .i64 (i:Int),[]),bG.of ?_,_,rfl⟩
   simp only [ER,Tr.val,zT hi,zC hi,aQ,c,if_true])
 have hi:(Tj l k).val=some (.inl (.h2 l k (l.length:Int) ((0:Nat):Int))):=rfl
 obtain ⟨j,hj⟩:∃ j:Int,QP l k=some (j,()):=by
  rcases h with ⟨_,g⟩ | ⟨_,r,hr,j,hj⟩
  ·refine ⟨-1,bj hi (g.ends (bG.of (r:=(.int .i64 (-1),[])) ?_)) (by omega) rfl⟩
   simp only [ER,Tr.val,zY,zH,if_false]
  ·exact ⟨j,bj hi hr (by omega) hj⟩
 refine ⟨decide (j ≥ 0),?_⟩
 have c1:Xi l k=true:=by unfold Xi; rw [hj]; rfl
 have c2:ixI l k=j:=by unfold ixI; rw [hj]; rfl
 unfold D0 zW bl
 simp only [zdT,Tr.val,c1,c2,if_true]
 rfl

abbrev Oz (s:Sem zo):List (Sem aN):=s.2.2.2.2.2.2.2.2.2.2.1
def SS (t:Sem zw) (n:Nat) (r:ao):Prop:=∃ (l:List (Sem zg)) (e:Int),ah r.2 [zg.sl,zg] r.1=some (l,e,())∧(e=0→l.length=n∧∀ p∈l,kO p t.2.1.length)
theorem Di {t:Sem zw} {l:List (Sem aN)} (hl:l.length≤20):∀ (m i:Nat) (acc:List (Sem zg)),l.length - i=m→i≤l.length→acc.length=i→(∀ p∈acc,kO p t.2.1.length)→
  ∃ r,bG yl (m+1) (.h3 l (l.length:Int) (i:Int) (t,()) acc) r∧SS t l.length r
 | 0,i,acc,hm,hi,ha,hp=>by
  obtain rfl:i=l.length:=by omega
  refine ⟨(.tup [.vec 0,.int .i64 0],[.vec zg acc]),bG.of ?_,acc,0,rfl,fun _=>⟨ha,hp⟩⟩
  simp only [yl,Tr.val,zY,zH,if_false]
 | m+1,i,acc,hm,hi,ha,hp=>by
  have hlt:i < l.length:=by omega
  have hw:=zD i (by unfold zB; omega)
  obtain ⟨x,hx⟩:∃ x,l.getD i (zj aN)=x:=⟨_,rfl⟩
  obtain ⟨k,hk⟩:∃ k,zM t.2.1 x.1=k:=⟨_,rfl⟩
  have ht:∀ n,gW t n=zM t.2.1 n:=fun _=>rfl
  have stop:∀ (e:Int),e≠0→(yl (.h3 l (l.length:Int) (i:Int) (t,()) acc)).val=some (.inr (.tup [.nils,.int .i64 e],[]))→∃ r,bG yl (m+1+1) (.h3 l (l.length:Int) (i:Int) (t,()) acc) r∧SS t l.length r:=
   fun e he h=>⟨_,(bG.of h).mono (by omega),[],e,rfl,fun h=>absurd h he⟩
  by_cases c1:LT.lt (α:=Int) k 0
  ·refine stop 4 (by decide) ?_
   simp only [yl,Tr.val,zm,Prod.eta,zT hlt,zC hlt,aQ,hx,ht,hk,aq c1,if_true]
  have c1':decide (LT.lt (α:=Int) k 0)=false:=cx c1
  have hin:kO k t.2.1.length:=by
   rcases ly t.2.1 x.1 with c | c
   ·rw [hk] at c; rw [c] at c1; exact absurd (by decide) c1
   ·rw [hk] at c; exact c
  obtain ⟨b,hb⟩:=QH acc k (by omega)
  have b1:Mg acc k=true:=by unfold Mg; rw [hb]; rfl
  have b2:WX acc k=b:=by unfold WX; rw [hb]; rfl
  cases b with
  | true=>
   refine stop 7 (by decide) ?_
   simp only [yl,Tr.val,zm,Prod.eta,zT hlt,zC hlt,aQ,hx,ht,hk,c1',b1,b2,zH,if_true,if_false]
  | false=>
  obtain ⟨ty,e,he⟩:∃ (ty e:Int),bn x.2 t.2.1=(ty,e):=⟨_,_,rfl⟩
  by_cases c2:e=0
  case neg=>
   refine stop e c2 ?_
   have c2':(e != 0)=true:=by simpa using c2
   simp only [yl,Tr.val,zm,Prod.eta,zT hlt,zC hlt,aQ,hx,ht,hk,c1',b1,b2,he,c2',zH,if_true,if_false]
  subst c2
  cases c3:(bif ty != (getD t.2.1 (Int.toNat k) (zj zi)).2.1 then ty != 0 else false) with
  | true=>
   refine stop 5 (by decide) ?_
   simp only [yl,Tr.val,zm,Prod.eta,zT hlt,zC hlt,aQ,hx,ht,hk,c1',b1,b2,he,lI hin,c3,ky,zH,if_true,if_false]
  | false=>
   have h4:decide (acc.length+[k].length≤1073741824)=true:=by simp only [zZ,List.length_singleton]; omega
   obtain ⟨r,h1,h2⟩:=Di hl m (i+1) (acc++[k]) (by omega) (by omega) (by simp; omega) (fun p hp'=>by
    rcases bp.1 hp' with hp' | hp'
    ·exact hp p hp'
    ·rw [bL] at hp'; rw [hp']; exact hin)
   refine ⟨r,(aG.of ?_).ends h1,h2⟩
   simp only [yl,Tr.val,zm,Prod.eta,zT hlt,zC hlt,aQ,hx,ht,hk,c1',b1,b2,he,lI hin,c3,h4,hw,ky,zH,if_true,if_false]
theorem Lb {db:List (Sem zh)} {s:Sem zo} {t:Sem zw} (hl:(Oz s).length≤20):∃ (l:List (Sem zg)) (e:Int),Br (db,s) t=some (l,e,())∧(e=0→l.length=(Oz s).length∧∀ p∈l,kO p t.2.1.length):=by
 obtain ⟨r,h1,l,e,h2,h3⟩:=Di (t:=t) hl (Oz s).length 0 [] rfl (aV _) rfl (by simp)
 exact ⟨l,e,bj (s:=.h3 (Oz s) ((Oz s).length:Int) ((0:Nat):Int) (t,()) []) rfl h1 (by omega) h2,h3⟩

theorem OR {d:Sem ag} {x:Sem zh} {pl:List (Sem zg)} {es:List ((Int×Int×zp)×Int)} {l:List (Sem aN)} {cur:List (List (Sem zf))} {row:List (Sem zf)} {i nc:Nat} (hl:l.length≤20) (hp:pl.length=l.length) (hin:∀ p∈pl,kO p nc) (hi:i < cur.length) (hi2:i≤1000):
  ∀ (m j:Nat) (buf:List (Sem zf)),l.length - j=m→j≤l.length→buf.length=nc→
  ∃ buf':List (Sem zf),buf'.length=nc∧aG CD (m+1) (.h19 pl (i:Int) row x.2 (x.2.length:Int) (i:Int) l (l.length:Int) (j:Int) (d,()) (x,()) 0 0 es cur i buf) (.h13 pl x.2 (x.2.length:Int) ((i+1:Nat):Int) (d,()) (x,()) 0 0 es (cur.set i buf'))
 | 0,j,buf,hm,hj,hb=>by
  obtain rfl:j=l.length:=by omega
  have hw:=zD i (by unfold zB; omega)
  refine ⟨buf,hb,aG.of ?_⟩
  simp only [CD,Tr.val,zY,hw,zH,if_false]
 | m+1,j,buf,hm,hj,hb=>by
  have hlt:j < l.length:=by omega
  have hltp:j < pl.length:=by omega
  have hw:=zD j (by unfold zB; omega)
  obtain ⟨p,hpp⟩:∃ p,pl.getD j (zj zg)=p:=⟨_,rfl⟩
  have hpin:kO p buf.length:=by rw [hb,← hpp]; exact hin _ (gZ hltp)
  have hpd:decide (Int.toNat p < buf.length)=true:=by
   obtain ⟨a,b⟩:=hpin
   simp only [zZ]; omega
  obtain ⟨buf',h1,h2⟩:=OR (row:=row) hl hp hin hi hi2 m (j+1) (buf.set (Int.toNat p) (il (l.getD j (zj aN)).2 x.1.2.1 row)) (by omega) (by omega) (by simpa using hb)
  refine ⟨buf',h1,(aG.of ?_).trans h2⟩
  simp only [CD,Tr.val,zm,zT hlt,zC hlt,zC hltp,zC hi,aQ,hpp,lI hpin,hpd,hw,decide_true,if_true]

theorem xL {d:Sem ag} {x:Sem zh} {pl:List (Sem zg)} {es:List ((Int×Int×zp)×Int)} {nc:Nat} (hl:d.2.2.2.2.2.2.2.2.2.2.2.1.length≤20) (hp:pl.length=d.2.2.2.2.2.2.2.2.2.2.2.1.length) (hin:∀ p∈pl,kO p nc) (hk:∀ r∈x.2,zI x.1.2.2.1 (length r)=true) (hr:∀ r∈x.2,length r=nc) (hx:x.2.length≤1000) (hnc:nc≤1000):
  ∀ (m i:Nat) (cur:List (List (Sem zf))),x.2.length - i=m→i≤x.2.length→cur.length=x.2.length→(∀ r∈cur,length r=nc)→
  ∃ cur':List (List (Sem zf)),cur'.length=x.2.length∧(∀ r∈cur',length r=nc)∧aG CD (m * 22) (.h13 pl x.2 (x.2.length:Int) (i:Int) (d,()) (x,()) 0 0 es cur) (.h13 pl x.2 (x.2.length:Int) (x.2.length:Int) (d,()) (x,()) 0 0 es cur')
 | 0,i,cur,hm,hi,hc,hcr=>by
  obtain rfl:i=x.2.length:=by omega
  exact ⟨cur,hc,hcr,aG.refl _⟩
 | m+1,i,cur,hm,hi,hc,hcr=>by
  have hlt:i < x.2.length:=by omega
  have hltc:i < cur.length:=by omega
  have hw:=zD i (by unfold zB; omega)
  obtain ⟨r,hrr⟩:∃ r,x.2.getD i (zj zf.sl)=r:=⟨_,rfl⟩
  have hrm:r∈x.2:=by rw [← hrr]; exact gZ hlt
  have hrl:=hr r hrm
  have hd:decide (length r≤1073741824)=true:=by simp only [zZ]; omega
  cases hv:fT es (getD r (Int.toNat x.1.2.2.1) (zj zf)) with
  | false=>
   obtain ⟨cur',h1,h2,h3⟩:=xL hl hp hin hk hr hx hnc m (i+1) cur (by omega) (by omega) hc hcr
   refine ⟨cur',h1,h2,((aG.of ?_).trans h3).mono (by omega)⟩
   simp only [CD,Tr.val,zT hlt,zC hlt,aQ,hrr,hk r hrm,hv,pH,hw,if_true]
  | true=>
   obtain ⟨buf',b1,b2⟩:=OR (d:=d) (x:=x) (pl:=pl) (es:=es) (l:=d.2.2.2.2.2.2.2.2.2.2.2.1) (cur:=cur) (row:=r) (i:=i) (nc:=nc) hl hp hin hltc (by omega) _ 0 r rfl (aV _) hrl
   obtain ⟨cur',h1,h2,h3⟩:=xL hl hp hin hk hr hx hnc m (i+1) (cur.set i buf') (by omega) (by omega) (by simpa using hc) (fun q hq=>by
    rcases mE hq with hq | rfl
    ·exact hcr q hq
    ·exact b1)
   refine ⟨cur',h1,h2,((aG.of ?_).trans (b2.trans h3)).mono (by omega)⟩
   simp only [CD,Tr.val,zT hlt,zC hlt,aQ,hrr,hk r hrm,hv,hd,zC hltc,aq hltc,fk,zH,if_true,if_false]
   rfl

theorem Fs {db:List (Sem zh)} {s:Sem zo} {x:Sem zh} {i:Nat} (hB:aW db) (hs:∀ y∈db,ch y) (hS:ek s) (h:zO db s.2.1=(i:Int)) (hx:db.getD i (zj zh)=x):
  ∃ (d:List (Sem zh)) (a:Sem cw),fW (db,s)=some (d,a,())∧(a.1=0→aW d∧∀ y∈d,ch y)∧(a.1≠0→a=dL a.1):=by
 have hf:(0:Int)≤zO db s.2.1:=by rw [h]; omega
 have hm:=kN hf
 rw [show Int.toNat (zO db s.2.1)=i by rw [h]; rfl,hx] at hm
 have hn:zO db x.1.1=(i:Int):=by rw [pi h hx,h]
 have hr:=hB.rels x hm
 have hfew:=hr.few
 have hrl:∀ r∈x.2,length r≤1000000:=fun r hr'=>cy (hr.len r hr') (by omega)
 have hl:x.2.length≤1000000:=by omega
 have hb:zI (zO db s.2.1) (length db)=true:=iq hf
 rw [h] at hb
 have hmo:=TC (db,s) x hr.may hl hrl hr.kin
 have h1:decide (LT.lt (α:=Int) (i:Int) 0)=false:=by simp
 have h2:decide (length x.2≤1073741824)=true:=by simp only [zZ]; omega
 obtain ⟨es,ce,hes⟩:∃ (es:List ((Int×Int×zp)×Int)) (ce:Int),mO (db,s) x=some (es,ce):=⟨_,_,hmo⟩
 have hel:es.length≤200:=by
  rw [hmo] at hes
  cases hes
  refine cy (Nat.le_of_eq (D2 ?_)) ?_
  ·split
   ·exact List.Pairwise.sublist List.filter_sublist hr.pw
   ·exact List.Pairwise.nil
  ·split
   ·exact cy (List.length_filter_le _ _) hr.few
   ·exact aV _
 have hmv:mV (db,s) x=(es,ce):=by unfold mV; rw [hes]; rfl
 have hms:(mO (db,s) x).isSome=true:=by rw [hes]; rfl
 obtain ⟨pl,e,p1,p2⟩:=Lb (db:=db) (s:=s) (t:=x.1) hS.sets.1
 have hsc:Fr (db,s) x.1=true:=by unfold Fr; rw [p1]; rfl
 have hsv:La (db,s) x.1=(pl,e):=by unfold La; rw [p1]; rfl
 by_cases he:e=0
 case neg=>
  have he':(e != 0)=true:=by simpa using he
  obtain ⟨f1,f2⟩:=ig e
  refine ⟨[],dL e,?_,fun h=>absurd h he,fun _=>rfl⟩
  unfold fW zW bl
  simp only [JJ,Tr.val,zm,Prod.eta,h,h1,hb,aQ,hx,hsc,hsv,he',f1,f2,zH,if_true,if_false]
  rfl
 subst he
 obtain ⟨q1,q2⟩:=p2 rfl
 by_cases hc:ce=0
 case neg=>
  have he':(ce != 0)=true:=by simpa using hc
  obtain ⟨f1,f2⟩:=ig ce
  refine ⟨[],dL ce,?_,fun h=>absurd h hc,fun _=>rfl⟩
  unfold fW zW bl
  simp only [JJ,Tr.val,zm,Prod.eta,h,h1,hb,aQ,hx,hsc,hsv,hmv,hms,he',f1,f2,ky,zH,if_true,if_false]
  rfl
 subst hc
 have hnc:∀ r∈x.2,length r=x.1.2.1.length:=fun r hr'=>mS (by simpa using hr.fits r hr')
 obtain ⟨_,_,_,hc8,_⟩:=gR hr.may
 obtain ⟨cur,c1,c2,c3⟩:=xL (d:=(db,s)) (x:=x) (pl:=pl) (es:=es) (nc:=x.1.2.1.length) hS.sets.1 q1 q2 hr.kin hnc (by omega) (by omega) x.2.length 0 x.2 rfl (aV _) rfl hnc
 have hi:(JJ (db,s)).val=some (.inl (.h13 pl x.2 (x.2.length:Int) ((0:Nat):Int) ((db,s),()) (x,()) 0 0 es x.2)):=by
  simp only [JJ,Tr.val,zm,Prod.eta,h,h1,h2,hb,aQ,hx,hmv,hms,hsc,hsv,ky,zH,if_true,if_false]
  rfl
 obtain ⟨l,e,b,r1,_,r3,r4,r5⟩:=uT (s:=s) (t:=x.1) (rows:=cur) (es.length:Int) hB hs hn (by rw [hx]) (by omega) (fun r hr'=>by rw [c2 r hr']; omega)
 have hcc:kF (db,s) (x.1,cur) (es.length:Int)=true:=by unfold kF; rw [r5]; rfl
 have h4:decide (es.length≤1073741824)=true:=by simp only [zZ]; omega
 obtain ⟨d,a,hda⟩:∃ (d:List (Sem zh)) (a:Sem cw),ju (db,s) (x.1,cur) (es.length:Int)=some (d,a,()):=⟨_,_,r5⟩
 have hcv:nE (db,s) (x.1,cur) (es.length:Int)=(d,a):=by unfold nE; rw [hda]; rfl
 have hend:(CD (.h13 pl x.2 (x.2.length:Int) (x.2.length:Int) ((db,s),()) (x,()) 0 0 es cur)).val=some (.inr (.tup [.sl zh d,.agg [.int .i64 a.1,.int .i64 a.2.1,.sl zf.sl a.2.2]],[])):=by
  simp only [CD,Tr.val,zY,zm,Prod.eta,h4,hcc,hcv,zH,if_true,if_false]
 refine ⟨d,a,bj hi (c3.ends (bG.of hend)) (by omega) rfl,fun ha=>?_,fun ha=>?_⟩
 all_goals
  rw [r5] at hda
  simp only [ap,bv,and_true] at hda
  obtain ⟨d1,a1⟩:=hda
 ·by_cases he:e=0
  ·rw [if_pos he] at d1 a1
   cases b with
   | true=>
    rw [if_pos rfl] at d1
    have hrel:=r3.1 he
    subst d1
    have hbo:aW (db.set i (x.1,l)):=hB.put (x:=(x.1,l)) (by rw [hx]) hrel ((r4 he).1 rfl)
    exact ⟨hbo,xz hs ⟨x,hm,rfl⟩ (cy hrel.few (by omega))⟩
   | false=>
    rw [if_neg (by simp)] at a1
    rw [← a1] at ha
    cases ha
  ·rw [if_neg he] at a1
   rw [← a1] at ha
   exact absurd ha he
 ·by_cases he:e=0
  ·rw [if_pos he] at a1
   cases b with
   | true=>rw [if_pos rfl] at a1; rw [← a1] at ha; exact absurd rfl ha
   | false=>rw [if_neg (by simp)] at a1; rw [← a1]
  ·rw [if_neg he] at a1
   rw [← a1]
set_option maxHeartbeats 1000000

theorem fw:∀ {a b:zp},Op.bytesLess a b=false→a≠b→Op.bytesLess b a=true
 | [],[],_,h=>absurd rfl h
 | [],_::_,h,_=>by simp [Op.bytesLess] at h
 | _::_,[],_,_=>rfl
 | a::x,b::y,h,hn=>by
  simp only [Op.bytesLess,Bool.or_eq_false_iff,decide_eq_false_iff_not,Bool.and_eq_false_iff,jr,sy,zZ,aM,eH] at h ⊢
  by_cases e:a=b
  ·subst e
   refine .inr ⟨rfl,fw (h.2.resolve_left fun g=>g rfl) fun g=>hn (by rw [g])⟩
  ·exact .inl (UInt8.lt_of_le_of_ne (UInt8.not_lt.1 h.1) (Ne.symm e))

def JT (x y:Sem zh):Prop:=Op.bytesLess x.1.1 y.1.1=true
theorem kV {x y z:Sem zh} (h:JT x y) (g:JT y z):JT x z:=fx h g
theorem aW.pw {db:List (Sem zh)} (h:aW db):db.Pairwise JT:=(n6 (R:=JT) kV).1 h.names

def g7 (db:List (Sem zh)) (x:Sem zh):Nat:=let k:Int:=zL (fun y:Sem zh=>Op.bytesLess x.1.1 y.1.1) db 0; if k < 0 then db.length else k.toNat
def ec (db:List (Sem zh)) (x:Sem zh):List (Sem zh):=db.take (g7 db x)++x::db.drop (g7 db x)

theorem BZ {db:List (Sem zh)} {n:zp} (h:zO db n=(-1:Int)):∀ y∈db,y.1.1≠n:=by
 rcases cd (fun x:Sem zh=>x.1.1==n) db 0 with ⟨_,h1⟩ | ⟨k,_,h1,_⟩
 ·intro y hy e
  have:=h1 y hy
  rw [e,beq_self_eq_true] at this
  cases this
 ·have e:((0+k:Nat):Int)=-1:=(show zO db n=((0+k:Nat):Int) from h1).symm.trans h
  exact absurd e (by omega)

theorem Gu (db:List (Sem zh)) (x:Sem zh) (h:db.Pairwise JT) (hn:∀ y∈db,y.1.1≠x.1.1):g7 db x≤db.length∧(∀ y∈db.take (g7 db x),JT y x)∧∀ y∈db.drop (g7 db x),JT x y:=by
 unfold g7
 rcases cd (fun y:Sem zh=>Op.bytesLess x.1.1 y.1.1) db 0 with ⟨h0,h1⟩ | ⟨k,hk,h0,h1,h2⟩
 ·simp only [h0]
  rw [if_pos (by decide)]
  refine ⟨aY _,fun y hy=>?_,fun y hy=>?_⟩
  ·rw [List.take_length] at hy
   exact fw (h1 y hy) (hn y hy).symm
  ·rw [cL] at hy; cases hy
 ·simp only [h0,eG]
  rw [if_neg (by omega),aQ]
  refine ⟨Nat.le_of_lt hk,fun y hy=>fw (h2 y hy) (hn y (List.mem_of_mem_take hy)).symm,fun y hy=>?_⟩
  rw [cX hk] at hy
  rcases c9.1 hy with rfl | hy
  ·exact h1
  ·refine kV (show JT x db[k] from h1) ?_
   have:=List.Pairwise.sublist (List.drop_sublist k db) h
   rw [cX hk] at this
   exact (List.pairwise_cons.1 this).1 y hy

theorem NS {db:List (Sem zh)} {x:Sem zh} (h:db.Pairwise JT) (hn:∀ y∈db,y.1.1≠x.1.1):(ec db x).Pairwise JT:=by
 obtain ⟨_,h1,h2⟩:=Gu db x h hn
 unfold ec
 rw [List.pairwise_append]
 refine ⟨List.Pairwise.sublist (List.take_sublist _ _) h,List.pairwise_cons.2 ⟨h2,List.Pairwise.sublist (List.drop_sublist _ _) h⟩,fun a ha b hb=>?_⟩
 rcases c9.1 hb with rfl | hb
 ·exact h1 a ha
 ·exact kV (h1 a ha) (h2 b hb)
theorem kU {db:List (Sem zh)} {x y:Sem zh}:y∈ec db x↔y=x∨y∈db:=by
 unfold ec
 rw [bp,c9]
 have:y∈db↔y∈db.take (g7 db x)∨y∈db.drop (g7 db x):=by
  rw [← bp,List.take_append_drop]
 rw [this]
 exact ⟨fun h=>by rcases h with h | h | h <;> simp [h],fun h=>by rcases h with h | h | h <;> simp [h]⟩
theorem AD (db:List (Sem zh)) (x:Sem zh):(ec db x).length=db.length+1:=by
 unfold ec
 have:=congrArg length (List.take_append_drop (g7 db x) db)
 rw [pE] at this
 rw [pE,mc]
 omega

theorem aW.more {db:List (Sem zh)} {x:Sem zh} (h:aW db) (hn:zO db x.1.1=(-1:Int)) (hl:db.length < 12) (hx:ck x) (hb:lZ (ec db x)):aW (ec db x) where
 few:=by rw [AD]; omega
 names:=(n6 (R:=JT) kV).2 (NS h.pw (BZ hn))
 rels:=fun y hy=>by
  rcases kU.1 hy with rfl | hy
  ·exact hx
  ·exact h.rels y hy
 bound:=hb

theorem aW.less {db:List (Sem zh)} {n:zp} (h:aW db) (hb:lZ (bf db n)):aW (bf db n) where
 few:=cy List.filter_sublist.length_le h.few
 names:=(n6 (R:=JT) kV).2 (List.Pairwise.sublist List.filter_sublist h.pw)
 rels:=fun y hy=>h.rels y (List.mem_filter.1 hy).1
 bound:=hb
theorem ym {db:List (Sem zh)} {x:Sem zh} (hn:zO db x.1.1=(-1:Int)):bf (ec db x) x.1.1=db:=by
 have h:=BZ hn
 unfold bf ec
 have e:∀ l:List (Sem zh),(∀ y∈l,y∈db)→l.filter (fun y => !(y.1.1==x.1.1))=l:=fun l hl=>List.filter_eq_self.2 fun y hy=>by
  rw [jr.2 (h y (hl y hy))]; rfl
 rw [List.filter_append,List.filter_cons_of_neg (by simp),e _ fun y hy=>List.mem_of_mem_take hy,e _ fun y hy=>List.mem_of_mem_drop hy,List.take_append_drop]
theorem FV {db:List (Sem zh)} {x:Sem zh}:(0:Int)≤zO (ec db x) x.1.1:=by
 rcases cd (fun y:Sem zh=>y.1.1==x.1.1) (ec db x) 0 with ⟨_,h1⟩ | ⟨k,_,h1,_⟩
 ·have:=h1 x (kU.2 (.inl rfl))
  rw [beq_self_eq_true] at this
  cases this
 ·exact Int.le_trans (Int.natCast_nonneg (0+k)) (Int.le_of_eq (show zO (ec db x) x.1.1=((0+k:Nat):Int) from h1).symm)

theorem qe {α:Type} {p q:α→Bool}:∀ (l:List α) (i:Nat),(∀ x∈l,p x=q x)→zL p l i=zL q l i
 | [],_,_=>rfl
 | x::r,i,h=>by
  rw [zL,zL,h x (by simp),qe r (i+1) fun y hy=>h y (by simp [hy])]
theorem zdq {a b:zp} (h:a≠b):(!(Op.bytesLess a b||a==b))=Op.bytesLess b a:=by
 have e:(a==b)=false:=by simpa using h
 rw [e,Bool.or_false]
 cases h1:Op.bytesLess a b with
 | false=>exact (fw h1 h).symm
 | true=>
  cases h2:Op.bytesLess b a with
  | false=>rfl
  | true=>have:=fx h1 h2; rw [eS] at this; cases this

theorem Jf {db:List (Sem zh)} {x:Sem zh} (h:zO db x.1.1=(-1:Int)) (hl:db.length≤1000000):lA db x=some (ec db x,()):=by
 have h0:decide (length db≤1073741824)=true:=aq (by omega)
 have h1:decide (length db+1≤1073741824)=true:=aq (by omega)
 have hd:decide ((-1:Int) ≥ 0)=false:=rfl
 have hix:zL (fun y:Sem zh => !(Op.bytesLess y.1.1 x.1.1||y.1.1==x.1.1)) db 0=zL (fun y:Sem zh=>Op.bytesLess x.1.1 y.1.1) db 0:=qe db 0 fun y hy=>zdq (BZ h y hy)
 have hs:((length db:Int)==(length db:Int))=true:=by simp
 obtain ⟨r,e1,e2⟩:∃ r,(Mx db x).val=some (.inr (.vec 0,[.vec zh r]))∧r=ec db x:=by
  unfold ec g7
  rcases cd (fun y:Sem zh=>Op.bytesLess x.1.1 y.1.1) db 0 with ⟨h2,_⟩ | ⟨k,hk,h2,_⟩
  ·refine ⟨db++[x],?_,?_⟩
   ·simp only [Mx,Tr.val,zm,Prod.eta,h,h0,h1,hd,hix,h2,hs,zH,if_true,if_false]
    rfl
   ·simp only [h2]
    rw [if_pos (by decide),List.take_length,cL]
  ·rw [eG] at h2
   have h3:decide (LT.lt (α:=Int) (k:Int) 0)=false:=by simp
   have h4:((k:Int)==(length db:Int))=false:=by
    refine jr.2 fun e=>?_
    have:(k:Int)=(length db:Int):=e
    omega
   refine ⟨HQ db (k:Int) x,?_,?_⟩
   ·simp only [Mx,Tr.val,zm,Prod.eta,h,h0,h1,hd,hix,h2,h3,h4,zC hk,zH,if_true,if_false]
   ·simp only [h2]
    rw [if_neg (by omega)]
    rfl
 unfold lA zW bl
 rw [e1,e2]
 rfl

theorem ck.new {t:Sem zw} (h:gn t=true):ck ((t,[]):Sem zh) where
 may:=h
 few:=by simp
 fits:=by simp
 key:=List.Pairwise.nil
 uniq:=fun _ _=>List.Pairwise.nil
 rise:=fun i hi=>by simp at hi

theorem L9 {db:List (Sem zh)} {n:zp} (h:¬ LE.le (α:=Int) 0 (zO db n)):zO db n=(-1:Int):=by
 rcases cd (fun x:Sem zh=>x.1.1==n) db 0 with ⟨h1,_⟩ | ⟨k,_,h1,_⟩
 ·exact h1
 ·exfalso
  apply h
  have:zO db n=((0+k:Nat):Int):=h1
  rw [this]
  exact Int.natCast_nonneg _

theorem oZ {db:List (Sem zh)} {s:Sem zo} {t:Sem zw} {e:Int} (hB:aW db) (hs:∀ y∈db,ch y) (h:Kh s=some (t,e,())) (ht:e=0→gn t=true∧ch ((t,[]):Sem zh)):
  (e≠0∧eb (db,s)=some ([],dL e,()))∨(e=0∧LE.le (α:=Int) 0 (zO db t.1)∧eb (db,s)=some ([],dL 7,()))∨
  (e=0∧zO db t.1=(-1:Int)∧12≤db.length∧eb (db,s)=some ([],dL 13,()))∨
  (e=0∧zO db t.1=(-1:Int)∧db.length < 12∧∃ b:Bool,(b=true↔lZ (ec db (t,[])))∧eb (db,s)=some (if b=true then ec db (t,[]) else [],if b=true then (0,1,[]) else dL 10,())):=by
 have sc:YF s=true:=by unfold YF; rw [h]; rfl
 have sv:sOf s=(t,e):=by unfold sOf; rw [h]; rfl
 by_cases he:e=0
 case neg=>
  refine .inl ⟨he,?_⟩
  have he':(e != 0)=true:=by simpa using he
  obtain ⟨f1,f2⟩:=ig e
  unfold eb zW bl
  simp only [Ms,Tr.val,zm,Prod.eta,sc,sv,he',f1,f2,if_true]
  rfl
 subst he
 obtain ⟨hm,hsh⟩:=ht rfl
 have h0:((0:Int) != 0)=false:=rfl
 by_cases hf:LE.le (α:=Int) 0 (zO db t.1)
 ·refine .inr (.inl ⟨rfl,hf,?_⟩)
  obtain ⟨f1,f2⟩:=ig 7
  have hf':decide (GE.ge (α:=Int) (zO db t.1) 0)=true:=aq hf
  unfold eb zW bl
  simp only [Ms,Tr.val,zm,Prod.eta,sc,sv,h0,hf',f2,zH,if_true,if_false]
  rfl
 have hf':decide (GE.ge (α:=Int) (zO db t.1) 0)=false:=cx hf
 have hn:=L9 hf
 by_cases hl:12≤db.length
 ·refine .inr (.inr (.inl ⟨rfl,hn,hl,?_⟩))
  obtain ⟨f1,f2⟩:=ig 13
  have hl':decide ((length db:Int) ≥ 12)=true:=aq (by omega)
  unfold eb zW bl
  simp only [Ms,Tr.val,zm,Prod.eta,sc,sv,h0,hf',hl',f2,zH,if_true,if_false]
  rfl
 refine .inr (.inr (.inr ⟨rfl,hn,by omega,?_⟩))
 have hl':decide ((length db:Int) ≥ 12)=false:=cx (by omega)
 have hmem:∀ y∈ec db (t,[]),ck y∧ch y:=fun y hy=>by
  rcases kU.1 hy with rfl | hy
  ·exact ⟨ck.new hm,hsh⟩
  ·exact ⟨hB.rels y hy,hs y hy⟩
 obtain ⟨b,b1,b2⟩:=hP (db:=ec db (t,[])) (fun y hy=>(hmem y hy).1.cols) (fun y hy=>(hmem y hy).2.sh) (by rw [AD]; omega)
 have hw:=Jf (db:=db) (x:=(t,[])) hn (by omega)
 have hwc:jv db (t,[])=true:=by unfold jv; rw [hw]; rfl
 have hwv:jU db (t,[])=ec db (t,[]):=by unfold jU; rw [hw]; rfl
 have hk:=pR 1 b1
 have hkc:gG (ec db (t,[])) 1=true:=by unfold gG; rw [hk]; rfl
 have hkv:kG (ec db (t,[])) 1=(if b=true then ec db (t,[]) else [],if b=true then (0,1,[]) else dL 10):=by unfold kG; rw [hk]; rfl
 refine ⟨b,b2,?_⟩
 unfold eb zW bl
 simp only [Ms,Tr.val,zm,Prod.eta,sc,sv,h0,hf',hl',hwc,hwv,hkc,hkv,zH,if_true,if_false]
 cases b <;> rfl

theorem Ld {db:List (Sem zh)} {n:zp} (hl:db.length≤1000000):u0 db n=some (bf db n,()):=by
 have h0:decide (length db≤1073741824)=true:=aq (by omega)
 have h1:decide (length db≤1000000)=true:=aq hl
 unfold u0 zW bl
 by_cases h:(zL (JU n) db 0==-1)=true
 ·have hE:bf db n=db:=by
   refine List.filter_eq_self.2 fun y hy=>?_
   rcases cd (JU n) db 0 with ⟨_,q⟩ | ⟨k,_,q,_⟩
   ·have:=q y hy
    show (!JU n y)=true
    rw [this]; rfl
   ·rw [q] at h
    exact absurd h (by simp)
  simp only [Xa,Tr.val,h0,h1,h,if_true,hE]
  rfl
 ·simp only [Xa,Tr.val,h0,h1,if_true]
  rw [if_neg h]
  rfl

theorem Fm {db:List (Sem zh)} {s:Sem zo} (h:LT.lt (α:=Int) (zO db s.2.1) 0):mK (db,s)=some ([],dL 6,()):=by
 have h1:decide (LT.lt (α:=Int) (zO db s.2.1) 0)=true:=aq h
 unfold mK zW bl
 simp only [WY,Tr.val,h1,if_true]
 rfl
theorem Dh {db:List (Sem zh)} {s:Sem zo} (hB:aW db) (hs:∀ y∈db,ch y) (h:¬ LT.lt (α:=Int) (zO db s.2.1) 0):
  ∃ b:Bool,(b=true↔lZ (bf db s.2.1))∧mK (db,s)=some (if b=true then bf db s.2.1 else [],if b=true then (0,1,[]) else dL 10,()):=by
 have hd:=hB.few
 have hsub:∀ y∈bf db s.2.1,y∈db:=fun y hy=>(List.mem_filter.1 hy).1
 have hlen:(bf db s.2.1).length≤db.length:=List.filter_sublist.length_le
 obtain ⟨b,b1,b2⟩:=hP (db:=bf db s.2.1) (fun y hy=>(hB.rels y (hsub y hy)).cols) (fun y hy=>(hs y (hsub y hy)).sh) (by omega)
 have h1:decide (LT.lt (α:=Int) (zO db s.2.1) 0)=false:=cx h
 have hw:=Ld (db:=db) (n:=s.2.1) (by omega)
 have hwc:Ft db s.2.1=true:=by unfold Ft; rw [hw]; rfl
 have hwv:Lc db s.2.1=bf db s.2.1:=by unfold Lc; rw [hw]; rfl
 have hk:=pR 1 b1
 have hkc:gG (bf db s.2.1) 1=true:=by unfold gG; rw [hk]; rfl
 have hkv:kG (bf db s.2.1) 1=(if b=true then bf db s.2.1 else [],if b=true then (0,1,[]) else dL 10):=by unfold kG; rw [hk]; rfl
 refine ⟨b,b2,?_⟩
 unfold mK zW bl
 simp only [WY,Tr.val,h1,hwc,hwv,hkc,hkv,zH,if_true,if_false]
 cases b <;> rfl

abbrev Dk:zp:=[100,114,111,112]
theorem iQ {db:List (Sem zh)} {s:Sem zo} {n:List (Sem zh)} {a:Sem cw} (hs:ek s) (hr:∀ x∈db,cu x) (hm:dO s=true) (hB:aW db) (ho:s.1=Fj) (hc:eb (db,s)=some (n,a,())):
  gF db s=some (if a.1=0 then n else db,a,()):=by
 have h1:=dP hs
 have h2:=dU hr
 have h5:jt db=(0:Int):=(gE hr).2 hB
 have q0:(s.1==[99,114,101,97,116,101])=true:=by rw [ho]; rfl
 have hcc:uV (db,s)=true:=by unfold uV; rw [hc]; rfl
 have hcv:Bn (db,s)=(n,a):=by unfold Bn; rw [hc]; rfl
 unfold gF zW bl
 simp only [OY,Tr.val,zm,Prod.eta,hm,h1,h2,h5,hcc,hcv,q0,fk,bb,ky,mG,zH,if_true,if_false]
 by_cases h:a.1=0
 ·have h':(a.1 != 0)=false:=by simpa using h
  simp only [h',zH,if_false,if_pos h]
  rfl
 ·have h':(a.1 != 0)=true:=by simpa using h
  simp only [h',if_true,if_neg h]
  rfl
theorem Be {db:List (Sem zh)} {s:Sem zo} {n:List (Sem zh)} {a:Sem cw} (hs:ek s) (hr:∀ x∈db,cu x) (hm:dO s=true) (hB:aW db) (ho:s.1=Dk) (hc:mK (db,s)=some (n,a,())):
  gF db s=some (if a.1=0 then n else db,a,()):=by
 have h1:=dP hs
 have h2:=dU hr
 have h5:jt db=(0:Int):=(gE hr).2 hB
 have q0:(s.1==[99,114,101,97,116,101])=false:=by rw [ho]; rfl
 have q1:(s.1==[100,114,111,112])=true:=by rw [ho]; rfl
 have hcc:Fl (db,s)=true:=by unfold Fl; rw [hc]; rfl
 have hcv:K9 (db,s)=(n,a):=by unfold K9; rw [hc]; rfl
 unfold gF zW bl
 simp only [OY,Tr.val,zm,Prod.eta,hm,h1,h2,h5,hcc,hcv,q0,q1,fk,bb,ky,mG,zH,if_true,if_false]
 by_cases h:a.1=0
 ·have h':(a.1 != 0)=false:=by simpa using h
  simp only [h',zH,if_false,if_pos h]
  rfl
 ·have h':(a.1 != 0)=true:=by simpa using h
  simp only [h',if_true,if_neg h]
  rfl
theorem K1 {db:List (Sem zh)} {s:Sem zo} (h0:s.1≠Fj) (h1:s.1≠Dk) (h2:s.1≠QO) (h3:s.1≠YQ) (h4:s.1≠Wq) (h5:s.1≠Cw):gF db s=some (db,dL 1,()):=by
 have q0:(s.1==[99,114,101,97,116,101])=false:=jr.2 h0
 have q1:(s.1==[100,114,111,112])=false:=jr.2 h1
 have q2:(s.1==[105,110,115,101,114,116])=false:=jr.2 h2
 have q3:(s.1==[117,112,100,97,116,101])=false:=jr.2 h3
 have q4:(s.1==[100,101,108,101,116,101])=false:=jr.2 h4
 have q5:(s.1==[115,101,108,101,99,116])=false:=jr.2 h5
 unfold gF zW bl
 simp only [OY,Tr.val,q0,q1,q2,q3,q4,q5,zH,if_true,if_false]
 rfl

def KP (db:List (Sem zh)) (s:Sem zo):Prop:=∃ (d:List (Sem zh)) (a:Sem cw),gF db s=some (d,a,())∧aW d∧(∀ y∈d,ch y)∧(a.1≠0→d=db∧a=dL a.1)∧(s.1=Cw→d=db)
theorem oF {s:Sem zo} {t:Sem zw} (h1:t.2.2.2.1.length≤20) (h2:t.2.2.2.2.1.length≤20) (h3:t.2.2.2.2.2=dV s) (hcp:kC 16 (dV s)=true):ch ((t,[]):Sem zh):=
 ⟨⟨by show t.2.2.2.1.length≤1000; omega,by show t.2.2.2.2.1.length≤1000; omega,by simp⟩,by show kC 16 t.2.2.2.2.2=true; rw [h3]; exact hcp⟩
theorem CH {x:Sem zh} {p:List (Sem zf)→Bool} (h:ch x):ch (dK x p):=⟨tp h.sh,h.cp⟩

theorem zcz {db:List (Sem zh)} {s:Sem zo} (hs:∀ y∈db,ch y) (hB:aW db) (hS:ek s) (hcp:kC 16 (dV s)=true):KP db s:=by
 have hsr:∀ y∈db,cu y:=fun y hy=>(hs y hy).sh
 have same:∀ {a:Sem cw},gF db s=some (db,a,())→(a.1≠0→a=dL a.1)→KP db s:=fun h h'=>⟨db,_,h,hB,hs,fun g=>⟨rfl,h' g⟩,fun _=>rfl⟩
 have err:∀ {n:List (Sem zh)} {a:Sem cw},gF db s=some (if a.1=0 then n else db,a,())→(a.1=0→aW n∧∀ y∈n,ch y)→(a.1≠0→a=dL a.1)→s.1≠Cw→KP db s:=by
  intro n a h g g' hne
  by_cases h0:a.1=0
  ·rw [if_pos h0] at h
   exact ⟨n,a,h,(g h0).1,(g h0).2,fun h=>absurd h0 h,fun h=>absurd h hne⟩
  ·rw [if_neg h0] at h
   exact same h g'
 by_cases hm:dO s=true
 case neg=>exact same (tI hS hsr fun h=>hm h.1) fun _=>rfl
 by_cases h0:s.1=Fj
 ·obtain ⟨t,e,k1,k2⟩:=Ow hS hcp h0 hm
  have hne:s.1≠Cw:=by rw [h0]; decide
  have ht:e=0→gn t=true∧ch ((t,[]):Sem zh):=fun h=>by
   obtain ⟨_,q2,q3,q4,q5⟩:=k2 h
   exact ⟨q2,oF q3 q4 q5 hcp⟩
  rcases oZ hB hs k1 ht with ⟨g0,g⟩ | ⟨_,_,g⟩ | ⟨_,_,_,g⟩ | ⟨g0,g1,g2,b,g3,g⟩
  ·exact err (iQ hS hsr hm hB h0 g) (fun h=>absurd h g0) (fun _=>rfl) hne
  ·exact err (iQ hS hsr hm hB h0 g) (fun h=>by cases h) (fun _=>rfl) hne
  ·exact err (iQ hS hsr hm hB h0 g) (fun h=>by cases h) (fun _=>rfl) hne
  ·have g:=iQ hS hsr hm hB h0 g
   cases b with
   | false=>exact err g (fun h=>by cases h) (fun _=>rfl) hne
   | true=>
    refine err g (fun _=>⟨hB.more (x:=(t,[])) g1 g2 (ck.new (ht g0).1) (g3.1 rfl),fun y hy=>?_⟩) (fun h=>absurd rfl h) hne
    rcases kU.1 hy with rfl | hy
    ·exact (ht g0).2
    ·exact hs y hy
 by_cases h1:s.1=Dk
 ·have hne:s.1≠Cw:=by rw [h1]; decide
  by_cases hf:LT.lt (α:=Int) (zO db s.2.1) 0
  ·exact err (Be hS hsr hm hB h1 (Fm hf)) (fun h=>by cases h) (fun _=>rfl) hne
  ·obtain ⟨b,g1,g⟩:=Dh hB hs hf
   have g:=Be hS hsr hm hB h1 g
   cases b with
   | false=>exact err g (fun h=>by cases h) (fun _=>rfl) hne
   | true=>exact err g (fun _=>⟨hB.less (g1.1 rfl),fun y hy=>hs y (List.mem_filter.1 hy).1⟩) (fun h=>absurd rfl h) hne
 by_cases h2:s.1=QO
 ·obtain ⟨d,a,g1,g2,g3,g4⟩:=zcA hs hS h2
  by_cases ha:a.1=0
  ·obtain ⟨⟨_,_,_,_,_,hb⟩,_,_⟩:=g3 ha
   exact ⟨d,a,g1,hb,g2,fun h=>absurd ha h,fun h=>by rw [h2] at h; cases h⟩
  ·obtain ⟨e1,e2⟩:=g4 ha
   subst e1
   exact same g1 fun _=>e2
 have fnd:¬ LT.lt (α:=Int) (zO db s.2.1) 0→∃ (i:Nat) (x:Sem zh),zO db s.2.1=(i:Int)∧db.getD i (zj zh)=x∧x∈db:=fun h=>by
  have hf:=Int.not_lt.1 h
  have hm:=kN hf
  exact ⟨Int.toNat (zO db s.2.1),_,(Int.toNat_of_nonneg hf).symm,rfl,hm⟩
 by_cases h3:s.1=YQ
 ·have hne:s.1≠Cw:=by rw [h3]; decide
  by_cases hf:LT.lt (α:=Int) (zO db s.2.1) 0
  ·have g:fW (db,s)=some ([],dL 6,()):=by
    have k1:decide (LT.lt (α:=Int) (zO db s.2.1) 0)=true:=aq hf
    unfold fW zW bl
    simp only [JJ,Tr.val,k1,if_true]
    rfl
   exact err (Hr hS hsr hm hB h3 g) (fun h=>by cases h) (fun _=>rfl) hne
  ·obtain ⟨i,x,k1,k2,_⟩:=fnd hf
   obtain ⟨d,a,g1,g2,g3⟩:=Fs hB hs hS k1 k2
   exact err (Hr hS hsr hm hB h3 g1) g2 g3 hne
 by_cases h4:s.1=Wq
 ·have hne:s.1≠Cw:=by rw [h4]; decide
  by_cases hf:LT.lt (α:=Int) (zO db s.2.1) 0
  ·have g:ij (db,s)=some ([],dL 6,()):=by
    have k1:decide (LT.lt (α:=Int) (zO db s.2.1) 0)=true:=aq hf
    unfold ij zW bl
    simp only [W4,Tr.val,k1,if_true]
    rfl
   exact err (Ho hS hsr hm hB h4 g) (fun h=>by cases h) (fun _=>rfl) hne
  ·obtain ⟨i,x,k1,k2,k3⟩:=fnd hf
   obtain ⟨b,g1,g⟩:=Fq hB hsr k1 k2
   have g:=Ho hS hsr hm hB h4 g
   by_cases hc:cP (mu s) x.1.2.1=0
   ·simp only [if_pos hc] at g
    cases b with
    | false=>exact err g (fun h=>by cases h) (fun _=>rfl) hne
    | true=>
     have hr:=hB.rels x k3
     refine err g (fun _=>⟨hB.put (x:=dK x (pS s x)) (by rw [k2]; rfl) (ck.sub (t:=x.1) (l:=x.2) hr List.filter_sublist) (g1.1 rfl),fun y hy=>?_⟩) (fun h=>absurd rfl h) hne
     rcases mE hy with hy | rfl
     ·exact hs y hy
     ·exact CH (hs x k3)
   ·simp only [if_neg hc] at g
    exact same g fun _=>rfl
 by_cases h5:s.1=Cw
 ·by_cases hf:LT.lt (α:=Int) (zO db s.2.1) 0
  ·have g:=Hq hS hsr hm hB h5 (Bm hf)
   exact same (a:=dL 6) g fun _=>rfl
  ·obtain ⟨i,x,k1,k2,k3⟩:=fnd hf
   have hr:=hB.rels x k3
   have g:=Hq hS hsr hm hB h5 (Fk k1 k2 (cy hr.few (by omega)) (fun r h=>cy (hr.len r h) (by omega)))
   by_cases hc:cP (mu s) x.1.2.1=0
   ·simp only [if_pos hc,if_true] at g
    exact same g fun h=>absurd rfl h
   ·simp only [if_neg hc] at g
    exact same g fun _=>rfl
 exact same (K1 h0 h1 h2 h3 h4 h5) fun _=>rfl
noncomputable section

abbrev Xr:=mn [(4,[0,1,5])]
inductive uo where
 | h4 (l0:List (Sem zf)) (l1:List (Sem zf)) (i5:Int)
abbrev zcC:uo→Nat×St
 | .h4 l0 l1 i5=>(4,⟨tm 26 [(0,AV.sl zf l0),(1,AV.sl zf l1),(5,AV.int .i64 i5)],[]⟩)
def zdu (x0:Sem zf.sl) (x1:Sem zf.sl):Tr (uo ⊕ ao):=
 Tr.br ((↑(length x0):Int) != (↑(length x1):Int)) (Tr.re (AV.kb false) []) (Tr.to (uo.h4 x0 x1 0))
def IN:uo→Tr (uo ⊕ ao)
 | .h4 l0 l1 i5=>
  let a0:=l0.getD i5.toNat (zj zf)
  let a1:=l1.getD i5.toNat (zj zf)
  Tr.br (decide (i5 < (↑l0.length:Int)))
  (Tr.chk (zI i5 l0.length) (Tr.chk (zI i5 l1.length) (Tr.br (!(a0.1==a1.1&&(a0.2.1==a1.2.1&&(a0.2.2==a1.2.2&&true)))) (Tr.re (AV.kb false) []) (Tr.to (uo.h4 l0 l1 (IntKind.i64.wrap (i5+1)))))))
  (Tr.re (AV.kb true) [])
def ul (x0:Sem zf.sl) (x1:Sem zf.sl):=zW [Sh.bool] IN 100000000 (zdu x0 x1)
def CJ (x0:Sem zf.sl) (x1:Sem zf.sl):=(ul x0 x1).isSome
def xM (x0:Sem zf.sl) (x1:Sem zf.sl):=o1 (ul x0 x1)
def RB:=FT [zf.sl,zf.sl] [Sh.bool] fun x=>ul x.1 x.2.1
theorem O4:FK 104 RB:=Am.T1 (f:=Tryz.f104) (keep:=Xr) (e:=zcC)

def S8:=Tg.add 104 RB
theorem Ae:zl S8:=Am.add O4
end
noncomputable section

abbrev zeh:=mn [(4,[0,1,5])]
inductive E6 where
 | h4 (l0:List (Sem zf.sl)) (l1:List (Sem zf.sl)) (i5:Int)
abbrev zgJ:E6→Nat×St
 | .h4 l0 l1 i5=>(4,⟨tm 27 [(0,AV.sl zf.sl l0),(1,AV.sl zf.sl l1),(5,AV.int .i64 i5)],[]⟩)
def zh1 (x0:Sem zf.sl.sl) (x1:Sem zf.sl.sl):Tr (E6 ⊕ ao):=
 Tr.br ((↑(length x0):Int) != (↑(length x1):Int)) (Tr.re (AV.kb false) []) (Tr.to (E6.h4 x0 x1 0))
def Rm:E6→Tr (E6 ⊕ ao)
 | .h4 l0 l1 i5=>
  let a0:=l0.getD i5.toNat (zj zf.sl)
  let a1:=l1.getD i5.toNat (zj zf.sl)
  Tr.br (decide (i5 < (↑l0.length:Int)))
  (Tr.chk (zI i5 l0.length) (Tr.chk (zI i5 l1.length) (Tr.chk (CJ a0 a1) (Tr.br (!xM a0 a1) (Tr.re (AV.kb false) []) (Tr.to (E6.h4 l0 l1 (IntKind.i64.wrap (i5+1))))))))
  (Tr.re (AV.kb true) [])
def tV (x0:Sem zf.sl.sl) (x1:Sem zf.sl.sl):=zW [Sh.bool] Rm 100000000 (zh1 x0 x1)
def tU (x0:Sem zf.sl.sl) (x1:Sem zf.sl.sl):=(tV x0 x1).isSome
def rX (x0:Sem zf.sl.sl) (x1:Sem zf.sl.sl):=o1 (tV x0 x1)
def zag:=FT [zf.sl.sl,zf.sl.sl] [Sh.bool] fun x=>tV x.1 x.2.1
theorem Vr:FK 61 zag:=Ae.T1 (f:=Tryz.f61) (keep:=zeh) (e:=zgJ)

def S9:=S8.add 61 zag
theorem Jy:zl S9:=Ae.add Vr
end
noncomputable section
def L1:=S9.add 60 T4
theorem v7:zl L1:=Jy.add KG

def zdP (x0:Sem zh) (x1:Sem zh):Tr (Empty ⊕ ao):=
 let a0:=(x0.1.1,x0.1.2.1,x0.1.2.2.1,x0.1.2.2.2.1,x0.1.2.2.2.2.1,zE x0.1.2.2.2.2.2)
 let a1:=(x1.1.1,x1.1.2.1,x1.1.2.2.1,x1.1.2.2.2.1,x1.1.2.2.2.2.1,zE x1.1.2.2.2.2.2)
 let a2:=lN a0 a1
 Tr.chk (tT a0 a1&&bif a2 then tU x0.2 x1.2 else true) (Tr.re (AV.bool (bif a2 then rX x0.2 x1.2 else false)) [])
def tW (x0:Sem zh) (x1:Sem zh):=zW [Sh.bool] t0 100000000 (zdP x0 x1)
def B7 (x0:Sem zh) (x1:Sem zh):=(tW x0 x1).isSome
def wY (x0:Sem zh) (x1:Sem zh):=o1 (tW x0 x1)
def ZU:=FT [zh,zh] [Sh.bool] fun x=>tW x.1 x.2.1
theorem U3:FK 31 ZU:=v7.T1 (f:=Tryz.f31) (keep:=k0) (e:=e0)

def Ta:=L1.add 31 ZU
theorem Af:zl Ta:=v7.add U3
end
noncomputable section

abbrev zd2:=mn [(4,[0,1,5])]
inductive E3 where
 | h4 (l0:List (Sem zh)) (l1:List (Sem zh)) (i5:Int)
abbrev zgB:E3→Nat×St
 | .h4 l0 l1 i5=>(4,⟨tm 27 [(0,AV.sl zh l0),(1,AV.sl zh l1),(5,AV.int .i64 i5)],[]⟩)
def zhV (x0:Sem zh.sl) (x1:Sem zh.sl):Tr (E3 ⊕ ao):=
 Tr.br ((↑(length x0):Int) != (↑(length x1):Int)) (Tr.re (AV.kb false) []) (Tr.to (E3.h4 x0 x1 0))
def Rj:E3→Tr (E3 ⊕ ao)
 | .h4 l0 l1 i5=>
  let a0:=l0.getD i5.toNat (zj zh)
  let a1:=((a0.1.1,a0.1.2.1,a0.1.2.2.1,a0.1.2.2.2.1,a0.1.2.2.2.2.1,zE a0.1.2.2.2.2.2),a0.2)
  let a2:=l1.getD i5.toNat (zj zh)
  let a3:=((a2.1.1,a2.1.2.1,a2.1.2.2.1,a2.1.2.2.2.1,a2.1.2.2.2.2.1,zE a2.1.2.2.2.2.2),a2.2)
  Tr.br (decide (i5 < (↑l0.length:Int)))
  (Tr.chk (zI i5 l0.length) (Tr.chk (zI i5 l1.length) (Tr.chk (B7 a1 a3) (Tr.br (!wY a1 a3) (Tr.re (AV.kb false) []) (Tr.to (E3.h4 l0 l1 (IntKind.i64.wrap (i5+1))))))))
  (Tr.re (AV.kb true) [])
def tX (x0:Sem zh.sl) (x1:Sem zh.sl):=zW [Sh.bool] Rj 100000000 (zhV x0 x1)
def qv (x0:Sem zh.sl) (x1:Sem zh.sl):=(tX x0 x1).isSome
def rY (x0:Sem zh.sl) (x1:Sem zh.sl):=o1 (tX x0 x1)
def Zs:=FT [zh.sl,zh.sl] [Sh.bool] fun x=>tX x.1 x.2.1
theorem Uw:FK 12 Zs:=Af.T1 (f:=Tryz.f12) (keep:=zd2) (e:=zgB)

def Tf:=Ta.add 12 Zs
theorem JB:zl Tf:=Af.add Uw
end
noncomputable section
def Wu:=(Tf.add 14 F7p).add 10 F8p
theorem FI:zl Wu:=(JB.add SE).add SF

def i7w (x0:Sem zh.sl) (x1:Sem zo):Tr (Empty ⊕ ao):=
 let a0:=(x1.1,x1.2.1,x1.2.2.1,x1.2.2.2.1,x1.2.2.2.2.1,x1.2.2.2.2.2.1,x1.2.2.2.2.2.2.1,x1.2.2.2.2.2.2.2.1,zE x1.2.2.2.2.2.2.2.2.1,x1.2.2.2.2.2.2.2.2.2.1,x1.2.2.2.2.2.2.2.2.2.2.1,zE x1.2.2.2.2.2.2.2.2.2.2.2.1,x1.2.2.2.2.2.2.2.2.2.2.2.2)
 let a1:=M9 a0
 let a2:=(a1.1,a1.2.1,a1.2.2.1,a1.2.2.2.1,a1.2.2.2.2.1,a1.2.2.2.2.2.1,a1.2.2.2.2.2.2.1,a1.2.2.2.2.2.2.2.1,zE a1.2.2.2.2.2.2.2.2.1,a1.2.2.2.2.2.2.2.2.2.1,a1.2.2.2.2.2.2.2.2.2.2.1,zE a1.2.2.2.2.2.2.2.2.2.2.2.1,a1.2.2.2.2.2.2.2.2.2.2.2.2)
 let a3:=bDo (Ay x0) a2
 let a4:=([100,114,111,112],a1.2.1,[],[],[],[],[],[],ze.mk [] (0,0,[]) [] [],[],[],ze.mk [] (0,0,[]) [] [],[])
 let a5:=bDo a3.1 a2
 let a6:=a5.2.1==7
 let a7:=rY a5.1 a3.1
 let a8:=bDo a3.1 a4
 let a9:=a8.2.1==0
 let a10:=a8.2.2.1==1
 let a11:=rY a8.1 (Ay x0)
 let a12:=zO a3.1 a1.2.1
 let a13:=decide (a12 ≥ 0)
 Tr.chk (Gj x0)
 (Tr.chk (Gg a0)
  (Tr.chk (K0 (Ay x0) a2) (Tr.br (bif !a1.1==[99,114,101,97,116,101] then true else a3.2.1 != 0) (Tr.chk true (Tr.re (AV.bool yM) [])) (Tr.chk (K0 a3.1 a2) (Tr.chk (K0 a3.1 a4) (Tr.chk (bif a6 then qv a5.1 a3.1&&bif a7 then bif a9 then bif a10 then qv a8.1 (Ay x0)&&bif a11 then bif a13 then Fd else true else true else true else true else true else true)
  (Tr.re (AV.bool (bif a6 then bif a7 then bif a9 then bif a10 then bif a11 then bif a13 then yM else false else false else false else false else false else false)) [])))))))
def nR (x0:Sem zh.sl) (x1:Sem zo):=zW [Sh.bool] t0 100000000 (i7w x0 x1)
def F7w:=FT [zh.sl,zo] [Sh.bool] fun x=>nR x.1 x.2.1
theorem zbD:FK 7 F7w:=FI.T1 (f:=Tryz.f7) (keep:=k0) (e:=e0)

end

section
variable {σ:Type} {t:σ→Tr (σ ⊕ ao)}
abbrev Ev:ao:=(.kb false,[])
theorem FL {α:Type} {la lb:List α} (st:Nat→σ) (hlen:la.length=lb.length) (hs:∀ i (ha:i < la.length) (hb:i < lb.length),(la[i]=lb[i]→(t (st i)).val=some (.inl (st (i+1))))∧(la[i]≠lb[i]→(t (st i)).val=some (.inr Ev))):
  (la=lb∧aG t la.length (st 0) (st la.length))∨(la≠lb∧bG t la.length (st 0) Ev):=by
 rcases I0 (t:=t) (Φ:=fun r=>r=Ev) 1 st (fun i=>la[i]?=lb[i]?) la.length (fun i hi _=>by
  have hb:i < lb.length:=by omega
  obtain ⟨h1,h2⟩:=hs i hi hb
  rw [zJ hi,zJ hb]
  by_cases h:la[i]=lb[i]
  ·exact .inl ⟨by rw [h],aG.of (h1 h)⟩
  ·exact .inr ⟨fun h3=>h (Option.some.inj h3),Ev,bG.of (h2 h),rfl⟩) with ⟨h1,h2⟩ | ⟨h1,r,h2,rfl⟩
 ·rw [Nat.mul_one] at h2
  refine .inl ⟨yG fun i=>?_,h2⟩
  by_cases hi:i < la.length
  ·exact h1 i hi
  ·rw [dg (by omega),dg (by omega)]
 ·rw [Nat.mul_one] at h2
  exact .inr ⟨fun h=>h1 fun i _=>by rw [h],h2⟩
end

theorem Hs {α:Type} {a b:List α}:((a.length:Int) != (b.length:Int))=true↔a.length≠b.length:=by
 simp [bne]; omega

theorem wX:∀ (N:Nat) (a b:ze),kC N a=true→∃ r,bI N a b=some (r,())∧(r=true↔a=b)
 | 0,_,_,h=>by cases h
 | N + 1,.mk op v s l,.mk op' v' s' l',h=>by
  rw [kC] at h
  simp only [aM,zZ,cY] at h
  obtain ⟨hl,ha⟩:=h
  rw [bI]
  unfold Iq
  have no:(JL (fun x0 x1=>fy (bI N x0 x1)) (fun x0 x1=>(bI N x0 x1).isSome) (.mk op v s l) (.mk op' v' s' l')).val=some (.inr Ev)→¬ (ze.mk op v s l=ze.mk op' v' s' l')→
    ∃ r,zW [Sh.bool] (ES (fun x0 x1=>fy (bI N x0 x1)) (fun x0 x1=>(bI N x0 x1).isSome)) 3000000000 (JL (fun x0 x1=>fy (bI N x0 x1)) (fun x0 x1=>(bI N x0 x1).isSome) (.mk op v s l) (.mk op' v' s' l'))=some (r,())∧(r=true↔ze.mk op v s l=ze.mk op' v' s' l'):=by
   intro hv hne
   exact ⟨false,iu hv rfl,by simp [hne]⟩
  have hd:∀ c:Bool,(bif !op==op' then true else bif !(v.1==v'.1&&(v.2.1==v'.2.1&&(v.2.2==v'.2.2&&true))) then true else bif !s==s' then true else (↑l.length:Int) != (↑l'.length:Int))=c→
    (JL (fun x0 x1=>fy (bI N x0 x1)) (fun x0 x1=>(bI N x0 x1).isSome) (.mk op v s l) (.mk op' v' s' l')).val=if c=true then some (.inr Ev) else some (.inl (.h4 ((0:Nat):Int) (.mk op v s l,()) (.mk op' v' s' l',()))):=by
   rintro c rfl
   rfl
  by_cases e1:op=op'
  rotate_left
  ·exact no (by rw [hd true (by rw [jr.2 e1]; rfl)]; rfl) (fun h=>e1 (by injection h))
  by_cases e2:v=v'
  rotate_left
  ·refine no ?_ (fun h=>e2 (by injection h))
   rw [hd true ?_]
   ·rfl
   ·have:(v.1==v'.1&&(v.2.1==v'.2.1&&(v.2.2==v'.2.2&&true)))=false:=by
     rw [← Bool.not_eq_true]
     intro h
     simp at h
     exact e2 (Prod.ext h.1 (Prod.ext h.2.1 h.2.2))
    rw [this]
    cases (op==op') <;> rfl
  by_cases e3:s=s'
  rotate_left
  ·refine no ?_ (fun h=>e3 (by injection h))
   rw [hd true ?_]
   ·rfl
   ·rw [jr.2 e3]
    cases (op==op') <;> cases (v.1==v'.1&&(v.2.1==v'.2.1&&(v.2.2==v'.2.2&&true))) <;> rfl
  by_cases e4:l.length=l'.length
  rotate_left
  ·refine no ?_ (fun h=>e4 (by injection h with _ _ _ h; rw [h]))
   rw [hd true ?_]
   ·rfl
   ·rw [Hs.2 e4]
    cases (op==op') <;> cases (v.1==v'.1&&(v.2.1==v'.2.1&&(v.2.2==v'.2.2&&true))) <;> cases (s==s') <;> rfl
  subst e1; subst e2; subst e3
  have hv:=hd false (by
   have:((↑l.length:Int) != (↑l'.length:Int))=false:=by rw [← Bool.not_eq_true,Hs]; exact fun h=>h e4
   rw [this]
   simp)
  rw [if_neg (by simp)] at hv
  rcases FL (t:=ES (fun x0 x1=>fy (bI N x0 x1)) (fun x0 x1=>(bI N x0 x1).isSome)) (la:=l) (lb:=l') (fun i=>.h4 (i:Int) (.mk op v s l,()) (.mk op v s l',())) e4 (by
   intro i hi hi'
   obtain ⟨r,hr,hiff⟩:=wX N l[i] l'[i] (ha _ (cZ hi))
   have g1:getD l (i:Int).toNat (zj Sh.expr)=l[i]:=ip _ _ hi
   have g2:getD l' (i:Int).toNat (zj Sh.expr)=l'[i]:=ip _ _ hi'
   have hval:(ES (fun x0 x1=>fy (bI N x0 x1)) (fun x0 x1=>(bI N x0 x1).isSome) (.h4 (i:Int) (.mk op v s l,()) (.mk op v s l',()))).val=if (!r)=true then some (.inr Ev) else some (.inl (.h4 ((i+1:Nat):Int) (.mk op v s l,()) (.mk op v s l',()))):=by
    simp only [ES,G1,CF,Tr.val,ze.l,zm,g1,g2,zC hi,zC hi',hr,fi,if_true]
    rw [zD i (by unfold zB; omega)]
    show (if decide ((i:Int) < (l.length:Int))=true then _ else _)=_
    rw [if_pos (aq (by omega))]
    rfl
   rw [hval]
   refine ⟨fun h=>?_,fun h=>?_⟩
   ·rw [if_neg (by rw [hiff.2 h]; simp)]
   ·rw [if_pos]
    cases r
    ·rfl
    ·exact absurd (hiff.1 rfl) h) with ⟨h1,h2⟩ | ⟨h1,h2⟩
  ·subst h1
   refine ⟨true,bj hv (h2.ends (bG.of (r:=(.kb true,[])) ?_)) (by omega) rfl,by simp⟩
   simp only [ES,G1,CF,Tr.val,ze.l]
   exact if_neg (by simp)
  ·exact ⟨false,bj hv h2 (by omega) rfl,by simp [h1]⟩
theorem J6 {a b:ze} (h:kC 16 a=true):iX a b=true∧(gS a b=true↔a=b):=by
 obtain ⟨r,h1,h2⟩:=wX 16 a b h
 have h1:B6 a b=some (r,()):=h1
 refine ⟨by unfold iX; rw [h1]; rfl,?_⟩
 have:gS a b=r:=by unfold gS; rw [h1]; rfl
 rw [this]; exact h2

section
variable {σ:Type} {t:σ→Tr (σ ⊕ ao)}
def KA (t:σ→Tr (σ ⊕ ao)) (K:Nat) (nx:σ ⊕ ao) (r:ao):Prop:=match nx with
 | .inl h=>bG t K h r
 | .inr r'=>r'=r
theorem BI {α:Type} {la lb:List α} (st:Int→σ) (nx:σ ⊕ ao) (e:Nat→Bool) (hval:∀ i:Nat,i≤la.length→(t (st i)).val=if decide (LT.lt (α:=Int) (i:Int) (la.length:Int))=true then (if zI (i:Int) la.length=true then (if zI (i:Int) lb.length=true then (if (!e i)=true then some (.inr Ev) else some (.inl (st (IntKind.i64.wrap ((i:Int)+1))))) else none) else none) else some nx)
  (he:∀ i (_:i < la.length) (ha:i < la.length) (hb:i < lb.length),e i=true↔la[i]=lb[i]) (hlen:la.length=lb.length) (hm:la.length≤1000000):
  (la=lb∧∀ K r,KA t K nx r→bG t (K+la.length+1) (st 0) r)∨(la≠lb∧bG t la.length (st 0) Ev):=by
 rcases FL (t:=t) (la:=la) (lb:=lb) (fun i=>st (i:Int)) hlen (fun i ha hb=>by
  have hv:=hval i (by omega)
  rw [if_pos (aq (by omega)),if_pos (zC ha),if_pos (zC hb),zD i (by unfold zB; omega)] at hv
  have:=he i ha ha hb
  refine ⟨fun h=>?_,fun h=>?_⟩
  ·rw [hv,if_neg (by rw [this.2 h]; simp)]
  ·rw [hv,if_pos]
   cases hh:e i
   ·rfl
   ·exact absurd (this.1 hh) h) with ⟨h1,h2⟩ | ⟨h1,h2⟩
 ·refine .inl ⟨h1,fun K r hr=>?_⟩
  have hv:=hval la.length (aY _)
  rw [if_neg (by simp)] at hv
  unfold KA at hr
  cases nx with
  | inl h=>exact (h2.ends ((aG.of hv).ends hr)).mono (by omega)
  | inr r'=>cases hr; exact (h2.ends (bG.of hv)).mono (by omega)
 ·exact .inr ⟨h1,h2⟩
end

theorem Wn (a b:Sem zi):(a.1==b.1&&(a.2.1==b.2.1&&(a.2.2==b.2.2&&true)))=true↔a=b:=by
 simp [Prod.ext_iff]
theorem Wv (a b:Sem zq):(a.1==b.1&&(a.2==b.2&&true))=true↔a=b:=by
 simp [Prod.ext_iff]
theorem OT (a b:Sem zf):(a.1==b.1&&(a.2.1==b.2.1&&(a.2.2==b.2.2&&true)))=true↔a=b:=by
 simp [Prod.ext_iff]

theorem GA {a b:Sem zw} (hc:a.2.1.length≤1000000) (hu:a.2.2.2.1.length≤1000000) (hr:a.2.2.2.2.1.length≤1000000) (he:kC 16 a.2.2.2.2.2=true):∃ r,qu a b=some (r,())∧(r=true↔a=b):=by
 obtain ⟨a1,a2,a3,a4,a5,a6⟩:=a
 obtain ⟨b1,b2,b3,b4,b5,b6⟩:=b
 have hc:a2.length≤1000000:=hc
 have hu:a4.length≤1000000:=hu
 have hr:a5.length≤1000000:=hr
 obtain ⟨s1,s2⟩:=J6 (b:=b6) he
 have hv:∀ c:Bool,(bif !a1==b1 then true else bif a3 != b3 then true else bif (↑(length a2):Int) != (↑(length b2):Int) then true else bif (↑(length a4):Int) != (↑(length b4):Int) then true else (↑(length a5):Int) != (↑(length b5):Int))=c→
   (W6 (a1,a2,a3,a4,a5,a6) (b1,b2,b3,b4,b5,b6)).val=if c=true then some (.inr Ev) else some (.inl (.h4 0 ((a1,a2,a3,a4,a5,a6),()) ((b1,b2,b3,b4,b5,b6),()))):=by
  rintro c rfl
  rfl
 have no:∀ (h:¬ ((a1,a2,a3,a4,a5,a6):Sem zw)=(b1,b2,b3,b4,b5,b6)) {k s},(W6 (a1,a2,a3,a4,a5,a6) (b1,b2,b3,b4,b5,b6)).val=some (.inl s)→bG G0 k s Ev→k≤100000000→∃ r,qu (a1,a2,a3,a4,a5,a6) (b1,b2,b3,b4,b5,b6)=some (r,())∧(r=true↔((a1,a2,a3,a4,a5,a6):Sem zw)=(b1,b2,b3,b4,b5,b6)):=by
  intro h k s h1 h2 h3
  exact ⟨false,bj h1 h2 h3 rfl,by simpa using h⟩
 cases hcase:(bif !a1==b1 then true else bif a3 != b3 then true else bif (↑(length a2):Int) != (↑(length b2):Int) then true else bif (↑(length a4):Int) != (↑(length b4):Int) then true else (↑(length a5):Int) != (↑(length b5):Int))
 rotate_left
 ·refine ⟨false,iu (r:=Ev) (by rw [hv true hcase]; rfl) rfl,?_⟩
  constructor
  ·intro h; cases h
  ·intro h
   simp only [bv] at h
   obtain ⟨rfl,rfl,rfl,rfl,rfl,rfl⟩:=h
   simp at hcase
 have hi:=hv false hcase
 rw [if_neg (by simp)] at hi
 have e1:a1=b1:=by
  cases h:(a1==b1)
  ·rw [h] at hcase; cases hcase
  ·simpa using h
 have e3:a3=b3:=by
  cases h:(a3 != b3)
  ·simpa using h
  ·rw [h] at hcase; revert hcase; cases (!a1==b1) <;> simp
 have l2:a2.length=b2.length:=by
  cases h:((↑(length a2):Int) != (↑(length b2):Int))
  ·simp [bne] at h; omega
  ·rw [h] at hcase; revert hcase; cases (!a1==b1) <;> cases (a3 != b3) <;> simp
 have l4:a4.length=b4.length:=by
  cases h:((↑(length a4):Int) != (↑(length b4):Int))
  ·simp [bne] at h; omega
  ·rw [h] at hcase; revert hcase; cases (!a1==b1) <;> cases (a3 != b3) <;> cases ((↑(length a2):Int) != (↑(length b2):Int)) <;> simp
 have l5:a5.length=b5.length:=by
  cases h:((↑(length a5):Int) != (↑(length b5):Int))
  ·simp [bne] at h; omega
  ·rw [h] at hcase; revert hcase; cases (!a1==b1) <;> cases (a3 != b3) <;> cases ((↑(length a2):Int) != (↑(length b2):Int)) <;> cases ((↑(length a4):Int) != (↑(length b4):Int)) <;> simp
 rcases BI (t:=G0) (la:=a2) (lb:=b2) (fun i=>.h4 i ((a1,a2,a3,a4,a5,a6),()) ((b1,b2,b3,b4,b5,b6),())) (.inl (.h9 0 ((a1,a2,a3,a4,a5,a6),()) ((b1,b2,b3,b4,b5,b6),()))) (fun i=>((getD a2 (i:Int).toNat (zj zi)).1==(getD b2 (i:Int).toNat (zj zi)).1&&((getD a2 (i:Int).toNat (zj zi)).2.1==(getD b2 (i:Int).toNat (zj zi)).2.1&&((getD a2 (i:Int).toNat (zj zi)).2.2==(getD b2 (i:Int).toNat (zj zi)).2.2&&true)))) (fun _ _=>rfl) (fun i _ ha hb=>by rw [Wn,ip _ _ ha,ip _ _ hb]) l2 hc with ⟨q2,k2⟩ | ⟨q2,k2⟩
 rotate_left
 ·exact no (fun h=>q2 (by simp only [bv] at h; exact h.2.1)) hi k2 (by omega)
 rcases BI (t:=G0) (la:=a4) (lb:=b4) (fun i=>.h9 i ((a1,a2,a3,a4,a5,a6),()) ((b1,b2,b3,b4,b5,b6),())) (.inl (.h14 0 ((a1,a2,a3,a4,a5,a6),()) ((b1,b2,b3,b4,b5,b6),()))) (fun i=>getD a4 (i:Int).toNat (zj zg)==getD b4 (i:Int).toNat (zj zg)) (fun _ _=>rfl) (fun i _ ha hb=>by rw [eH,ip _ _ ha,ip _ _ hb]) l4 hu with ⟨q4,k4⟩ | ⟨q4,k4⟩
 rotate_left
 ·exact no (fun h=>q4 (by simp only [bv] at h; exact h.2.2.2.1)) hi (k2 _ _ k4) (by omega)
 rcases BI (t:=G0) (la:=a5) (lb:=b5) (fun i=>.h14 i ((a1,a2,a3,a4,a5,a6),()) ((b1,b2,b3,b4,b5,b6),())) (.inr (.bool (gS a6 b6),[])) (fun i=>((getD a5 (i:Int).toNat (zj zq)).1==(getD b5 (i:Int).toNat (zj zq)).1&&((getD a5 (i:Int).toNat (zj zq)).2==(getD b5 (i:Int).toNat (zj zq)).2&&true))) (fun i _=>by
   show (G0 (.h14 _ _ _)).val=_
   simp only [G0,Tr.val,zm]
   rw [show (if iX a6 b6=true then some (Sum.inr (AV.bool (gS a6 b6),([]:List AO))) else none)=(some (Sum.inr (AV.bool (gS a6 b6),[])):Option (uv ⊕ ao)) from if_pos s1]) (fun i _ ha hb=>by rw [Wv,ip _ _ ha,ip _ _ hb]) l5 hr with ⟨q5,k5⟩ | ⟨q5,k5⟩
 rotate_left
 ·exact no (fun h=>q5 (by simp only [bv] at h; exact h.2.2.2.2.1)) hi (k2 _ _ (k4 _ _ k5)) (by omega)
 refine ⟨gS a6 b6,bj hi (k2 _ _ (k4 _ _ (k5 0 _ rfl))) (by omega) rfl,?_⟩
 rw [s2]
 subst e1; subst e3; subst q2; subst q4; subst q5
 simp
theorem J8 {a b:Sem zw} (hc:a.2.1.length≤1000000) (hu:a.2.2.2.1.length≤1000000) (hr:a.2.2.2.2.1.length≤1000000) (he:kC 16 a.2.2.2.2.2=true):tT a b=true∧(lN a b=true↔a=b):=by
 obtain ⟨r,h1,h2⟩:=GA (b:=b) hc hu hr he
 refine ⟨by unfold tT; rw [h1]; rfl,?_⟩
 have:lN a b=r:=by unfold lN; rw [h1]; rfl
 rw [this]; exact h2


theorem sf {α σ:Type} {t:σ→Tr (σ ⊕ ao)} {i:Tr (σ ⊕ ao)} {la lb:List α} (st:Int→σ) (hi:i.val=if ((la.length:Int) != (lb.length:Int))=true then some (.inr Ev) else some (.inl (st 0))) (hm:la.length≤1000000)
  (hs:∀ j (ha:j < la.length) (hb:j < lb.length),(la[j]=lb[j]→(t (st (j:Int))).val=some (.inl (st ((j+1:Nat):Int))))∧(la[j]≠lb[j]→(t (st (j:Int))).val=some (.inr Ev)))
  (he:(t (st (la.length:Int))).val=some (.inr (.kb true,[]))):∃ r,zW [Sh.bool] t 100000000 i=some (r,())∧(r=true↔la=lb):=by
 by_cases hl:la.length=lb.length
 case neg=>
  have h1:((la.length:Int) != (lb.length:Int))=true:=by simp; omega
  rw [if_pos h1] at hi
  refine ⟨false,iu hi rfl,fun h=>(by cases h),fun h=>absurd (congrArg length h) hl⟩
 have h1:((la.length:Int) != (lb.length:Int))=false:=by rw [hl]; simp
 rw [if_neg (by rw [h1]; simp)] at hi
 rcases FL (t:=t) (la:=la) (lb:=lb) (fun i=>st (i:Int)) hl hs with ⟨q1,q2⟩ | ⟨q1,q2⟩
 ·exact ⟨true,bj hi (q2.ends (bG.of he)) (by omega) rfl,fun _=>q1,fun _=>rfl⟩
 ·exact ⟨false,bj hi q2 (by omega) rfl,fun h=>(by cases h),fun h=>absurd h q1⟩

theorem G6 (a b:List (Sem zf)) (hm:a.length≤1000000):∃ r,ul a b=some (r,())∧(r=true↔a=b):=by
 refine sf (la:=a) (lb:=b) (fun i=>uo.h4 a b i) rfl hm (fun j ha hb=>?_) ?_
 ·have hv:(IN (.h4 a b (j:Int))).val=if (!(a[j].1==b[j].1&&(a[j].2.1==b[j].2.1&&(a[j].2.2==b[j].2.2&&true))))=true then some (.inr Ev) else some (.inl (.h4 a b ((j+1:Nat):Int))):=by
   simp only [IN,Tr.val,zT ha,zC ha,zC hb,ae a _ ha,ae b _ hb,if_true,zD j (by unfold zB; omega)]
  refine ⟨fun h=>?_,fun h=>?_⟩
  ·rw [hv,(OT _ _).2 h]; rfl
  ·rw [hv,Bool.eq_false_iff.2 fun h'=>h ((OT _ _).1 h')]; rfl
 ·simp only [IN,Tr.val,zY,zH,if_false]
theorem Kq {a b:List (Sem zf)} (hm:a.length≤1000000):CJ a b=true∧(xM a b=true↔a=b):=by
 obtain ⟨r,h1,h2⟩:=G6 a b hm
 refine ⟨by unfold CJ; rw [h1]; rfl,?_⟩
 have:xM a b=r:=by unfold xM; rw [h1]; rfl
 rw [this]; exact h2

theorem GB (a b:List (List (Sem zf))) (hm:a.length≤1000000) (hr:∀ r∈a,length r≤1000000):∃ r,tV a b=some (r,())∧(r=true↔a=b):=by
 refine sf (la:=a) (lb:=b) (fun i=>E6.h4 a b i) rfl hm (fun j ha hb=>?_) ?_
 ·obtain ⟨s1,s2⟩:=Kq (a:=a[j]) (b:=b[j]) (hr _ (cZ ha))
  have hv:(Rm (.h4 a b (j:Int))).val=if (!xM a[j] b[j])=true then some (.inr Ev) else some (.inl (.h4 a b ((j+1:Nat):Int))):=by
   simp only [Rm,Tr.val,zT ha,zC ha,zC hb,ae a _ ha,ae b _ hb,s1,if_true,zD j (by unfold zB; omega)]
  refine ⟨fun h=>?_,fun h=>?_⟩
  ·rw [hv,s2.2 h]; rfl
  ·rw [hv,Bool.eq_false_iff.2 fun h'=>h (s2.1 h')]; rfl
 ·simp only [Rm,Tr.val,zY,zH,if_false]
theorem J9 {a b:List (List (Sem zf))} (hm:a.length≤1000000) (hr:∀ r∈a,length r≤1000000):tU a b=true∧(rX a b=true↔a=b):=by
 obtain ⟨r,h1,h2⟩:=GB a b hm hr
 refine ⟨by unfold tU; rw [h1]; rfl,?_⟩
 have:rX a b=r:=by unfold rX; rw [h1]; rfl
 rw [this]; exact h2

structure uy (x:Sem zh):Prop where
 cols:x.1.2.1.length≤1000000
 uq:x.1.2.2.2.1.length≤1000000
 rf:x.1.2.2.2.2.1.length≤1000000
 chk:kC 16 x.1.2.2.2.2.2=true
 rw:x.2.length≤1000000
 row:∀ r∈x.2,length r≤1000000

theorem GC {a b:Sem zh} (h:uy a):∃ r,tW a b=some (r,())∧(r=true↔a=b):=by
 obtain ⟨s1,s2⟩:=J8 (a:=a.1) (b:=b.1) h.cols h.uq h.rf h.chk
 obtain ⟨s3,s4⟩:=J9 (a:=a.2) (b:=b.2) h.rw h.row
 refine ⟨bif lN a.1 b.1 then rX a.2 b.2 else false,?_,?_⟩
 ·have hg:(tT a.1 b.1&&bif lN a.1 b.1 then tU a.2 b.2 else true)=true:=by
   rw [s1,s3]
   cases lN a.1 b.1 <;> rfl
  refine iu (r:=(.bool (bif lN a.1 b.1 then rX a.2 b.2 else false),[])) ?_ rfl
  simp only [zdP,Tr.val,zm,Prod.eta,hg,if_true]
 ·cases hq:lN a.1 b.1 with
  | true=>
   simp only [aR]
   rw [s4]
   exact ⟨fun e=>Prod.ext (s2.1 hq) e,fun e=>by rw [e]⟩
  | false=>
   simp only [bb,zH,false_iff]
   intro e
   rw [s2.2 (by rw [e])] at hq
   cases hq
theorem Ka {a b:Sem zh} (h:uy a):B7 a b=true∧(wY a b=true↔a=b):=by
 obtain ⟨r,h1,h2⟩:=GC (b:=b) h
 refine ⟨by unfold B7; rw [h1]; rfl,?_⟩
 have:wY a b=r:=by unfold wY; rw [h1]; rfl
 rw [this]; exact h2

theorem GD {a b:List (Sem zh)} (hm:a.length≤1000000) (h:∀ x∈a,uy x):∃ r,tX a b=some (r,())∧(r=true↔a=b):=by
 refine sf (la:=a) (lb:=b) (fun i=>E3.h4 a b i) rfl hm (fun j ha hb=>?_) ?_
 ·obtain ⟨s1,s2⟩:=Ka (a:=a[j]) (b:=b[j]) (h _ (cZ ha))
  have hv:(Rj (.h4 a b (j:Int))).val=if (!wY a[j] b[j])=true then some (.inr Ev) else some (.inl (.h4 a b ((j+1:Nat):Int))):=by
   simp only [Rj,Tr.val,zm,Prod.eta,zT ha,zC ha,zC hb,ae a _ ha,ae b _ hb,s1,if_true,zD j (by unfold zB; omega)]
  refine ⟨fun h=>?_,fun h=>?_⟩
  ·rw [hv,s2.2 h]; rfl
  ·rw [hv,Bool.eq_false_iff.2 fun h'=>h (s2.1 h')]; rfl
 ·simp only [Rj,Tr.val,zY,zH,if_false]
theorem Kb {a b:List (Sem zh)} (hm:a.length≤1000000) (h:∀ x∈a,uy x):qv a b=true∧(rY a b=true↔a=b):=by
 obtain ⟨r,h1,h2⟩:=GD (b:=b) hm h
 refine ⟨by unfold qv; rw [h1]; rfl,?_⟩
 have:rY a b=r:=by unfold rY; rw [h1]; rfl
 rw [this]; exact h2
noncomputable section
inductive H5w where
 | h9 (l1:List (Sem zf.sl)) (i2:Sem (Sh.int IntKind.u8)) (s7:Sem Sh.str) (l8:List (Sem zh)) (l9:List (Sem zh)) (i10:Int)
end

theorem ch.q {x:Sem zh} (h:ch x) (hr:ck x):uy x:=by
 obtain ⟨_,_,_,h8,_⟩:=gR hr.may
 exact ⟨cy h8 (by omega),cy h.sh.uq (by omega),cy h.sh.rf (by omega),h.cp,cy h.sh.rw (by omega),fun r hr'=>cy (hr.len r hr') (by omega)⟩
theorem IK {a b:List (Sem zh)} (hB:aW a) (hs:∀ y∈a,ch y) (h:a=b):qv a b=true∧rY a b=true:=by
 obtain ⟨h1,h2⟩:=Kb (b:=b) (cy hB.few (by omega)) (fun y hy=>(hs y hy).q (hB.rels y hy))
 exact ⟨h1,h2.2 h⟩

open Go

abbrev U0:Nat→Prop:=fun _=>False
abbrev iy:Nat→Option Value:=fun _=>none

def Kx (P:Program) (T:TypeId→Sh→Bool):List Field→Nat→Sh→Bool
 | [],_,_=>false
 | [f],off,s=>f.offset==off&&(T f.type s&&P.cellsOf f.type==s.size)
 | f::fs,off,.pr a b=>f.offset==off&&(T f.type a&&(P.cellsOf f.type==a.size&&Kx P T fs (off+a.size) b))
 | _,_,_=>false

def nQ (P:Program) (t:TypeId):Bool:=match P.underlying t with
 | some .string=>P.cellsOf t==1
 | _=>false

def HS (P:Program) (t e:TypeId):Bool:=match P.underlying t with
 | some (.slice u)=>u==e&&P.cellsOf t==1
 | _=>false

def G5 (P:Program):Nat→TypeId→Sh→Bool
 | 0,_,_=>false
 | n+1,t,s=>match P.underlying t,s with
  | some .bool,.bool=>true
  | some (.int k),.int k'=>k==k'
  | some .string,.str=>true
  | some (.slice e),.sl s=>P.cellsOf e==s.size&&(decide (0 < s.size)&&G5 P n e s)
  | some (.struct fs),.expr=>match fs.toList with
   | [a,b,c,d]=>P.cellsOf t==6&&(a.offset==0&&(b.offset==1&&(c.offset==4&&(d.offset==5&&(nQ P a.type&&(nQ P c.type&&(HS P d.type t&&(P.cellsOf b.type==3&&G5 P n b.type (.pr (.int .i64) (.pr (.int .i64) .str))))))))))
   | _=>false
  | some (.struct fs),.pr a b=>P.cellsOf t==(Sh.pr a b).size&&Kx P (G5 P n) fs.toList 0 (.pr a b)
  | _,_=>false

section
variable {H:Type} {enc:TypeId×Value→H} {P:Program} {w:World} {sp:Nat→Bool} {held:Bool}

def V3 (w:World) (s:Sh) (cs:List Value):Prop:=∃ x:Sem s,cK w U0 iy (zn s x) cs∧∀ v∈cs,v.oneCell'=true

theorem cv {α β:Type} {f:α→Option β} {a:α} {l:List α} {r:List β} (h:(a::l).mapM f=some r):∃ y ys,f a=some y∧l.mapM f=some ys∧r=y::ys:=by
 rw [List.mapM_cons] at h
 cases hy:f a with
 | none=>rw [hy] at h; simp at h
 | some y=>
  cases hys:l.mapM f with
  | none=>rw [hy,hys] at h; simp at h
  | some ys=>
   rw [hy,hys] at h
   simp at h
   exact ⟨y,ys,rfl,rfl,h.symm⟩

theorem Ea {α β:Type} {f:α→Option β}:∀ {l:List α} {r:List β},l.mapM f=some r→∀ x∈l,∃ y,f x=some y
 | [],_,_,_,hx=>by simp at hx
 | a::l,r,h,x,hx=>by
  obtain ⟨y,ys,h1,h2,_⟩:=cv h
  rcases c9.1 hx with rfl | hx
  ·exact ⟨y,h1⟩
  ·exact Ea h2 x hx

theorem ww {α β:Type} {f:α→Option β}:∀ {l:List α} {r:List β},l.mapM f=some r→r.length=l.length∧∀ (i:Nat) a,l[i]?=some a→f a=r[i]?
 | [],r,h=>by simp at h; subst h; simp
 | a::l,r,h=>by
  obtain ⟨y,ys,h1,h2,rfl⟩:=cv h
  obtain ⟨h3,h4⟩:=ww h2
  refine ⟨by simp [h3],fun i b hi=>?_⟩
  cases i with
  | zero=>simp at hi; subst hi; simpa using h1
  | succ i=>simpa using h4 i b (by simpa using hi)

theorem C6 (a:Addr) (h:a.spot=none) (n:Nat):a.add n=⟨a.block,a.off+n,none⟩:=by
 obtain ⟨b,o,s⟩:=a
 simp only at h
 subst h
 unfold Addr.add
 split
 ·rename_i h; subst h; rfl
 ·rfl

theorem cK.take {cs:List AV} {vs:List Value} (h:cK w U0 iy cs vs) (n:Nat):cK w U0 iy (cs.take n) (vs.take n):=by
 refine ⟨by simp [h.len],fun j c v hc hv=>?_⟩
 rw [uC] at hc hv
 split at hc
 ·rename_i hj
  rw [if_pos hj] at hv
  exact h.rv j c v hc hv
 ·cases hc

theorem cK.appS {a b:List AV} {x y:List Value} (h:cK w U0 iy a x) (h':cK w U0 iy b y):cK w U0 iy (a++b) (x++y):=by
 refine ⟨by simp [h.len,h'.len],fun j c v hc hv=>?_⟩
 by_cases hj:j < a.length
 ·rw [kd hj] at hc
  rw [kd (by rw [← h.len]; exact hj)] at hv
  exact h.rv j c v hc hv
 ·rw [lw (by omega)] at hc
  rw [lw (by rw [← h.len]; omega),← h.len] at hv
  exact h'.rv _ c v hc hv

theorem cK.one {c:AV} {v:Value} (h:Rv w U0 iy c v):cK w U0 iy [c] [v]:=by
 refine ⟨rfl,fun j d u hd hu=>?_⟩
 cases j with
 | zero=>simp at hd hu; subst hd; subst hu; exact h
 | succ j=>simp at hd

theorem wh {fuel:Nat} {T:TypeId→Sh→Bool} (hT:∀ t s cs d ps,T t s=true→DataW.trod enc P w 0 sp held fuel t cs=some (d,ps)→V3 w s cs) {cs:List Value}:
  ∀ (fl:List Field) (off:Nat) (s:Sh) xs,Kx P T fl off s=true→(fl.mapM fun f=>DataW.trod enc P w 0 sp held fuel f.type ((cs.drop f.offset).take (P.cellsOf f.type)))=some xs→V3 w s ((cs.drop off).take s.size)
 | [],_,_,_,h,_=>by simp [Kx] at h
 | [f],off,s,xs,h,hm=>by
  simp only [Kx,aM,eH] at h
  obtain ⟨h1,h2,h3⟩:=h
  obtain ⟨y,ys,hy,_,_⟩:=cv hm
  rw [h1,h3] at hy
  exact hT _ _ _ _ _ h2 hy
 | f::g::fs,off,.pr a b,xs,h,hm=>by
  simp only [Kx,aM,eH] at h
  obtain ⟨h1,h2,h3,h4⟩:=h
  obtain ⟨y,ys,hy,hys,_⟩:=cv hm
  rw [h1,h3] at hy
  obtain ⟨x1,r1,o1⟩:=hT _ _ _ _ _ h2 hy
  obtain ⟨x2,r2,o2⟩:=wh hT (g::fs) (off+a.size) b ys h4 hys
  have hl1:((cs.drop off).take a.size).length=a.size:=by rw [← r1.len,zN]
  have hsplit:(cs.drop off).take (a.size+b.size)=(cs.drop off).take a.size++(cs.drop (off+a.size)).take b.size:=by
   rw [List.take_add,List.drop_drop]
  refine ⟨(x1,x2),?_,?_⟩
  ·show cK w U0 iy (zn a x1++zn b x2) ((cs.drop off).take (a.size+b.size))
   rw [hsplit]
   exact r1.appS r2
  ·intro v hv
   have hv:v∈(cs.drop off).take (a.size+b.size):=hv
   rw [hsplit,bp] at hv
   exact hv.elim (o1 v) (o2 v)
 | _::_::_,_,.unit,_,h,_=>by simp [Kx] at h
 | _::_::_,_,.bool,_,h,_=>by simp [Kx] at h
 | _::_::_,_,.int _,_,h,_=>by simp [Kx] at h
 | _::_::_,_,.str,_,h,_=>by simp [Kx] at h
 | _::_::_,_,.sl _,_,h,_=>by simp [Kx] at h
 | _::_::_,_,.expr,_,h,_=>by simp [Kx] at h

theorem AW {fuel:Nat} {t e:TypeId} {s:Sh} (ht:P.underlying t=some (.slice e)) (hc:P.cellsOf e=s.size) (hpos:0 < s.size)
  (hT:∀ cs d ps,DataW.trod enc P w 0 sp held fuel e cs=some (d,ps)→V3 w s cs) {cs:List Value} {d:DataW H} {ps:List MemPlace} (h:DataW.trod enc P w 0 sp held (fuel+1) t cs=some (d,ps)):V3 w (.sl s) cs:=by
 unfold DataW.trod at h
 rw [ht] at h
 split at h
 all_goals first
  | (rename_i hu; cases hu; done)
  | (rename_i hu _; cases hu; done)
  | (simp at h; done)
  | skip
 ·rename_i hu
  cases hu
  exact ⟨[],cK.one (.sl0 s none 0),by simp [Value.oneCell']⟩
 ·rename_i a len cap hu
  cases hu
  simp only [aV,true_and] at h
  split at h
  ·rename_i hcond
   rw [fa] at h
   obtain ⟨elems,he,_⟩:=h
   have hall:∀ i,∃ x:Sem s,i < len→∃ ci,w.cells? 0 (a.add (i * s.size)) s.size=some ci∧cK w U0 iy (zn s x) ci:=by
    intro i
    by_cases hi:i < len
    ·obtain ⟨y,hy⟩:=Ea he i (by simpa using hi)
     rw [fa] at hy
     obtain ⟨ci,h1,h2⟩:=hy
     obtain ⟨x,hx,_⟩:=hT ci y.1 y.2 h2
     rw [hc] at h1
     exact ⟨x,fun _=>⟨ci,h1,hx⟩⟩
    ·exact ⟨zj s,fun h=>(hi h).elim⟩
   obtain ⟨X,hX⟩:=Classical.axiomOfChoice hall
   have hmax:maxLen=zB:=rfl
   cases len with
   | zero=>exact ⟨[],cK.one (.sl0 s (some a) cap),by simp [Value.oneCell']⟩
   | succ len=>
    have hcell:∀ i,i < len+1→∃ ci,ci.length=s.size∧(∀ j,j < s.size→w.cell? ((a.add (i * s.size)).add j)=ci[j]?)∧cK w U0 iy (zn s (X i)) ci:=by
     intro i hi
     obtain ⟨ci,h1,h2⟩:=hX i hi
     unfold World.cells? at h1
     rw [if_pos (aV _)] at h1
     obtain ⟨h3,h4⟩:=ww h1
     refine ⟨ci,by simpa using h3,fun j hj=>?_,h2⟩
     exact h4 j j (by simp [hj])
    have hspot:a.spot=none:=by
     obtain ⟨ci,h1,h2,_⟩:=hcell 0 (by omega)
     have:=h2 0 hpos
     simp only [Nat.zero_mul,Addr.add,if_true] at this
     rw [zJ (by omega)] at this
     unfold World.cell? at this
     split at this
     ·split at this
      ·cases this
      ·rename_i hs
       cases hsp:a.spot with
       | none=>rfl
       | some q=>rw [hsp] at hs; simp at hs
     ·cases this
    have hblk:a.block < w.heap.size:=by
     obtain ⟨ci,h1,h2,_⟩:=hcell 0 (by omega)
     have:=h2 0 hpos
     simp only [Nat.zero_mul,Addr.add,if_true] at this
     rw [zJ (by omega)] at this
     have ha:a=⟨a.block,a.off,none⟩:=by rw [← hspot]
     rw [ha] at this
     exact Bg this
    have hci:∀ i,∃ ci:List Value,i < len+1→ci.length=s.size∧(∀ j,j < s.size→w.cell? ⟨a.block,a.off+i * s.size+j,none⟩=ci[j]?)∧cK w U0 iy (zn s (X i)) ci:=by
     intro i
     by_cases hi:i < len+1
     ·obtain ⟨ci,h1,h2,h3⟩:=hcell i hi
      refine ⟨ci,fun _=>⟨h1,fun j hj=>?_,h3⟩⟩
      rw [← h2 j hj,C6 a hspot,C6 _ rfl]
     ·exact ⟨[],fun h=>(hi h).elim⟩
    obtain ⟨Cs,hCs⟩:=Classical.axiomOfChoice hci
    let l:List (Sem s):=(List.range (len+1)).map X
    have hl:l.length=len+1:=by simp [l]
    have hget:∀ i (hi:i < l.length),l[i]=X i:=by intro i hi; simp [l]
    refine ⟨l,cK.one ?_,by simp [Value.oneCell']⟩
    have ha:a=⟨a.block,a.off,none⟩:=by rw [← hspot]
    rw [ha,← hl]
    refine .sl s l a.block a.off cap (fun i j=>((Cs i)[j]?).getD undef) (by omega) (by omega) hblk (fun h=>h) ?_ ?_
    ·intro i j hi hj
     obtain ⟨h1,h2,_⟩:=hCs i (by omega)
     rw [h2 j hj,zJ (by omega)]
     rfl
    ·intro i hi j c hc'
     obtain ⟨h1,_,h3⟩:=hCs i (by omega)
     rw [hget i hi] at hc'
     have hj:j < (Cs i).length:=by
      have:=(bR.1 hc').1
      rw [h3.len] at this
      exact this
     have:=h3.rv j c _ hc' (zJ hj)
     rw [zJ hj]
     exact this
  ·cases h

theorem CB {fuel:Nat} {t:TypeId} (ht:P.underlying t=some .string) {cs:List Value} {d:DataW H} {ps:List MemPlace} (h:DataW.trod enc P w 0 sp held fuel t cs=some (d,ps)):V3 w .str cs:=by
 cases fuel with
 | zero=>simp [DataW.trod] at h
 | succ fuel=>
  unfold DataW.trod at h
  rw [ht] at h
  split at h
  all_goals first
   | (rename_i hu; cases hu; done)
   | (rename_i hu _; cases hu; done)
   | (simp at h; done)
   | skip
  rename_i s hu
  split at h
  ·rename_i hs
   refine ⟨s.data.toList,cK.one ?_,by simp [Value.oneCell']⟩
   have h9:maxLen=zB:=rfl
   have h8:s.size=s.data.toList.length:=rfl
   exact .str s.data.toList (by omega)
  ·cases h

theorem wq {t:TypeId} (h:nQ P t=true):P.underlying t=some .string∧P.cellsOf t=1:=by
 unfold nQ at h
 split at h
 ·rename_i hu; exact ⟨hu,by simpa using h⟩
 ·cases h

theorem MD {t e:TypeId} (h:HS P t e=true):P.underlying t=some (.slice e)∧P.cellsOf t=1:=by
 unfold HS at h
 split at h
 ·rename_i u hu
  simp only [aM,eH] at h
  rw [← h.1]
  exact ⟨hu,h.2⟩
 ·cases h

theorem nr:∀ (fuel n:Nat) (t:TypeId) (s:Sh) (cs:List Value) (d:DataW H) (ps:List MemPlace),G5 P n t s=true→DataW.trod enc P w 0 sp held fuel t cs=some (d,ps)→V3 w s cs
 | 0,_,_,_,_,_,_,_,h=>by simp [DataW.trod] at h
 | fuel+1,0,_,_,_,_,_,hty,_=>by simp [G5] at hty
 | fuel+1,n+1,t,s,cs,d,ps,hty,h=>by
  have h0:=h
  unfold G5 at hty
  split at hty
  ·rename_i hu
   unfold DataW.trod at h
   rw [hu] at h
   split at h
   all_goals first
    | (rename_i hu'; cases hu'; done)
    | (rename_i hu' _; cases hu'; done)
    | (simp at h; done)
    | skip
   exact ⟨_,cK.one (.bool _),by simp [Value.oneCell']⟩
  ·rename_i k k' hu
   have hk:k=k':=by simpa using hty
   subst hk
   unfold DataW.trod at h
   rw [hu] at h
   split at h
   all_goals first
    | (rename_i hu'; cases hu'; done)
    | (rename_i hu' _; cases hu'; done)
    | (simp at h; done)
    | skip
   rename_i k1 k2 m hu'
   cases hu'
   split at h
   ·rename_i hw
    obtain ⟨rfl,hw⟩:=hw
    simp only [Lit.wf,aM,zZ] at hw
    exact ⟨m,cK.one (.int _ _ ⟨hw.1,hw.2⟩),by simp [Value.oneCell']⟩
   ·cases h
  ·rename_i hu
   exact CB hu h
  ·rename_i e s hu
   simp only [aM,eH,zZ] at hty
   exact AW hu hty.1 hty.2.1 (fun cs d ps h=>nr fuel n e s cs d ps hty.2.2 h) h
  ·rename_i fs hu
   split at hty
   ·rename_i a b c d' hfs
    simp only [aM,eH] at hty
    obtain ⟨hsz,ha,hb,hc,hd,sa,sc,sd,zb,tb⟩:=hty
    obtain ⟨sa,za⟩:=wq sa
    obtain ⟨sc,zc⟩:=wq sc
    obtain ⟨sd,zd⟩:=MD sd
    unfold DataW.trod at h
    rw [hu] at h
    simp only at h
    split at h
    ·rename_i hlen
     rw [dt] at h
     obtain ⟨xs,hm,_⟩:=h
     rw [hfs] at hm
     obtain ⟨ya,r1,ya1,hm,_⟩:=cv hm
     obtain ⟨yb,r2,yb1,hm,_⟩:=cv hm
     obtain ⟨yc,r3,yc1,hm,_⟩:=cv hm
     obtain ⟨yd,r4,yd1,hm,_⟩:=cv hm
     rw [ha,za] at ya1
     rw [hb,zb] at yb1
     rw [hc,zc] at yc1
     rw [hd,zd] at yd1
     obtain ⟨xa,ga,oa⟩:=CB sa ya1
     obtain ⟨xb,gb,ob⟩:=nr fuel n b.type _ _ _ _ tb yb1
     obtain ⟨xc,gc,oc⟩:=CB sc yc1
     have hgd:V3 w (.sl .expr) ((cs.drop 5).take 1):=by
      cases fuel with
      | zero=>simp [DataW.trod] at yd1
      | succ fuel=>
       refine AW sd (by rw [hsz]; rfl) (by decide) (fun cs d ps h=>nr fuel (n+1) t .expr cs d ps ?_ h) yd1
       unfold G5
       rw [hu]
       simp only [hfs,aM,eH]
       refine ⟨hsz,ha,hb,hc,hd,?_,?_,?_,zb,tb⟩
       ·simp [nQ,sa,za]
       ·simp [nQ,sc,zc]
       ·simp [HS,sd,zd]
     obtain ⟨xd,gd,od⟩:=hgd
     have hl6:cs.length=6:=by rw [hlen,hsz]
     have hcs:cs=(cs.drop 0).take 1++((cs.drop 1).take 3++((cs.drop 4).take 1++(cs.drop 5).take 1)):=by
      match cs,hl6 with
      | [v0,v1,v2,v3,v4,v5],_=>rfl
     refine ⟨ze.mk xa xb xc xd,?_,?_⟩
     ·have hr:=ga.appS (gb.appS (gc.appS gd))
      rw [← hcs] at hr
      exact hr
     ·intro v hv
      rw [hcs] at hv
      simp only [bp] at hv
      rcases hv with hv | hv | hv | hv
      ·exact oa v hv
      ·exact ob v hv
      ·exact oc v hv
      ·exact od v hv
    ·cases h
   ·cases hty
  ·rename_i fs a b hu
   simp only [aM,eH] at hty
   unfold DataW.trod at h
   rw [hu] at h
   simp only at h
   split at h
   ·rename_i hlen
    rw [dt] at h
    obtain ⟨xs,hm,_⟩:=h
    have:=wh (fun t s cs d ps h1 h2=>nr fuel n t s cs d ps h1 h2) fs.toList 0 (.pr a b) xs hty.2 hm
    rw [List.drop_zero,Hg (by rw [hlen,hty.1]; exact aY _)] at this
    exact this
   ·cases h
  ·cases hty
termination_by fuel=>fuel

theorem tF {n:Nat} {t:TypeId} {s:Sh} {v:Value} {d:DataW H} {ps:List MemPlace} (hty:G5 P n t s=true) (h:DataW.Trod enc P w 0 sp held t v d ps) (hagg:(∃ cs,v=.agg cs)↔s.isAgg=true) (hsc:s.isAgg=false→v.cells = #[v]):∃ x:Sem s,Rv w U0 iy (zz s x) v:=by
 obtain ⟨fuel,h⟩:=h
 obtain ⟨x,hr,ho⟩:=nr fuel n t s _ d ps hty h
 refine ⟨x,?_⟩
 unfold zz
 cases hs:s.isAgg with
 | true=>
  obtain ⟨cs,rfl⟩:=hagg.2 hs
  simp only
  have:=Rv.agg (w:=w) (U:=U0) (ρ:=iy) (zn s x) cs.toList hr.len ho hr.rv
  simpa using this
 | false=>
  simp only
  rw [hsc hs] at hr
  have hlen:=hr.len
  match he:zn s x,hlen with
  | [c],_=>
   rw [he] at hr
   exact hr.rv 0 c v rfl rfl
end
end Cad
