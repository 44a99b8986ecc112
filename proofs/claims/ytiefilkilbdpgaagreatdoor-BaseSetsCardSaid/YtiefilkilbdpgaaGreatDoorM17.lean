/- What ends: names, expressions. The document's rows. The document's tables with rows, and references. The document's bases. What ends: tables, rows, bases. An expression that may be: its text is cut, and has so many tokens at most. Few of anything: always an answer, and a short one. Few of a base: short texts. Rows: the sorter. Rows: the sorter compares. Rows: insertion sort. Rows: insertion sort: its contract. Rows: ranges change places. Rows: blocks change places. Rows: merged. Rows: stable sort. Rows: slices.SortStableFunc. Copies of tables with rows. Copies of tables with rows: what they answer. Rows: sorted. -/
import Derived.Test.YtiefilkilbdpgaaGreatDoorM16
import Derived.Test.YtiefilkilbdpgaaGreatDoorM14
import Derived.Test.YtiefilkilbdpgaaGreatDoorM13
namespace Cad
open Go Go.Proofs
open Int (toNat)
open List (getD)
open List (length)
set_option maxHeartbeats 4000000

mutual
def oO:ze→Prop
 | .mk _ v s l=>VS v∧s.length≤1000000∧lM l
def lM:List ze→Prop
 | []=>True
 | e::r=>oO e∧lM r
end
theorem Pe:oO (zj Sh.expr):=by
 show oO (.mk [] (0,0,[]) [] [])
 rw [oO,lM]
 exact ⟨aD _,aD _,trivial⟩
theorem lM.at:∀ {l:List ze},lM l→∀ i,oO (l.getD i (zj Sh.expr))
 | [],_,_=>Pe
 | x::r,h,i=>by
  rw [lM] at h
  cases i with
  | zero=>exact h.1
  | succ i=>exact h.2.at i
theorem oO.s {e:ze} (h:oO e):(ze.s e).length≤1000000:=by cases e; rw [oO] at h; exact h.2.1
theorem oO.v {e:ze} (h:oO e):VS (ze.v e):=by cases e; rw [oO] at h; exact h.1
theorem oO.l {e:ze} (h:oO e):lM (ze.l e):=by cases e; rw [oO] at h; exact h.2.2

@[simp] theorem GS (x:Int):km x=true:=sy (a:=Sh.bool) fun _=>⟨_,rfl,trivial⟩
@[simp] theorem ZC (x:Int):fP x=true:=sy (a:=Sh.bool) fun _=>⟨_,rfl,trivial⟩
@[simp] theorem Ox (x:Int):tn x=true:=sy (a:=Sh.bool) fun _=>by
 refine ⟨?_,_,rfl,trivial⟩
 simp
theorem EJ {s:zn} (h:s.length≤1000000):tk s=true:=by
 refine CQ (a:=Sh.bool) (fun x:tP=>match x with | .h2 t i=>LE.le (α:=Int) 0 i∧t=s) (fun x=>match x with | .h2 t i=>1000001 - i.toNat) ⟨⟨Int.le_refl _,rfl⟩,by simp⟩ ?_
 rintro ⟨t,i⟩ ⟨h0,hz⟩
 subst hz
 refine ⟨fun hc=>?_,fun hc=>?_⟩
 ·obtain ⟨h1,h2,h3⟩:=AN h0 hc h
  simp only [Wp,h1,h2,Ox,true_and]
  exact ⟨fun _=>⟨_,rfl,trivial⟩,fun _=>⟨⟨by omega,trivial⟩,by omega⟩⟩
 ·refine ⟨?_,_,rfl,trivial⟩
  simp only [GS,Bool.and_true]
  cases h1:decide (LE.le (α:=Int) 1 (t.length:Int)) with
  | false=>rfl
  | true=>
   have h1:LE.le (α:=Int) 1 (t.length:Int):=dG h1
   rw [eT (Int.le_refl 0) (by omega)]
   simp
theorem IX (s:zn):Ch s=true:=by
 refine CQ (a:=Sh.bool) (fun x:tQ=>match x with | .h3 t l i=>LE.le (α:=Int) 0 i∧l.length≤1000000) (fun x=>match x with | .h3 t l i=>1000001 - i.toNat) ⟨⟨Int.le_refl _,by simp⟩,by simp⟩ ?_
 rintro ⟨t,l,i⟩ ⟨h0,h⟩
 refine ⟨fun hc=>?_,fun hc=>⟨_,rfl,trivial⟩⟩
 obtain ⟨h1,h2,h3⟩:=AN h0 hc h
 simp only [Wp,h1,h2,true_and]
 exact ⟨fun _=>⟨_,rfl,trivial⟩,fun _=>⟨⟨by omega,h⟩,by omega⟩⟩
theorem wN {s:zn} (h:s.length≤1000000):cv s=true:=sy (a:=Sh.bool) fun _=>by
 refine ⟨?_,_,rfl,trivial⟩
 simp only [EJ h,IX,lP,Bool.cond_self]

def GE:Nat→ze→Prop
 | 0,_=>False
 | d+1,.mk op _ _ l=>((op==[108,105,116])=false→(op==[99,111,108])=false→0 < l.length∧((op==[110,111,116])=false→(op==[110,117,108,108])=false→1 < l.length))∧l.length≤2∧∀ i,i < l.length→GE d (l.getD i (zj Sh.expr))
theorem bv {a b:Bool} (h:(bif a then b else false)=true):a=true∧b=true:=by
 cases a <;> cases b <;> simp_all

theorem wA:∀ (N d:Nat) (e:ze),oO e→d < N→N≤1000→∃ b,ec N e (d:Int)=some (b,())∧(b=true→GE d e)
 | 0,_,_,_,h,_=>absurd h (by omega)
 | N+1,0,e,_,_,_=>⟨false,rfl,fun h=>by cases h⟩
 | N + 1,d+1,.mk op v s l,hw,h1,h2=>by
  rw [oO] at hw
  obtain ⟨hv,hs,hl⟩:=hw
  have hd:((((d+1:Nat):Int))==0)=false:=by simp; omega
  have hd1:IntKind.i64.wrap (((d+1:Nat):Int) - 1)=(d:Int):=by rw [rL]; omega
  obtain ⟨b0,k0,g0⟩:=wA N d _ (hl.at 0) (by omega) (by omega)
  obtain ⟨b1,k1,g1⟩:=wA N d _ (hl.at 1) (by omega) (by omega)
  have hV:∀ x,jz (some (x,()))=x:=fun _=>rfl
  have h0:((l.length:Int)==0)=true→l.length=0:=fun h=>Int.ofNat.inj (cB h)
  have h1:((l.length:Int)==1)=true→l.length=1:=fun h=>Int.ofNat.inj (cB h)
  have h2:((l.length:Int)==2)=true→l.length=2:=fun h=>Int.ofNat.inj (cB h)
  obtain ⟨⟨b,u⟩,r1,r2⟩:=tot (outs:=[Sh.bool]) (t:=t0) (n:=100000000) (i:=D8 (fun x0 x1=>jz (ec N x0 x1)) (fun x0 x1=>(ec N x0 x1).isSome) (.mk op v s l) ((d+1:Nat):Int)) (Q:=fun y=>y.1=true→GE (d+1) (.mk op v s l)) (fun _=>True) (fun _=>0) (by
   simp only [D8,Wp,zo,ze.op,ze.v,ze.s,ze.l,hd,hd1,Int.toNat_zero,show toNat 1=1 from rfl,k0,k1,hV,ep,s6 hv,EJ hs,IX,Bool.and_true,Bool.cond_self,lP,true_and]
   refine ⟨fun h=>(by cases h),fun _=>⟨fun c=>⟨_,rfl,fun h=>?_⟩,fun c=>⟨fun c2=>⟨_,rfl,fun h=>?_⟩,fun c2=>⟨fun c3=>⟨?_,_,rfl,fun h=>?_⟩,fun c3=>⟨sy (a:=Sh.bool) fun _=>⟨_,rfl,trivial⟩,fun c4=>⟨?_,_,rfl,fun h=>?_⟩,fun c4=>⟨_,rfl,fun h=>(by cases h)⟩⟩⟩⟩⟩⟩
   ·have:=h0 (bv (bv h).2).2
    rw [GE,this]
    exact ⟨fun k=>(by rw [c] at k; cases k),by omega,fun i hi=>absurd hi (by omega)⟩
   ·have:=h0 (bv (bv (bv h).2).2).2
    rw [GE,this]
    exact ⟨fun _ k=>(by rw [c2] at k; cases k),by omega,fun i hi=>absurd hi (by omega)⟩
   ·cases e:((l.length:Int)==1) with
    | false=>simp
    | true=>rw [h1 e]; simp [zE]
   ·have hh:=(bv (bv h).2).2
    have:=h1 (bv hh).1
    have hg:=g0 (bv hh).2
    rw [GE,this]
    refine ⟨fun _ _=>⟨by omega,fun k k'=>?_⟩,by omega,fun i hi=>?_⟩
    ·rw [k,k'] at c3; cases c3
    ·obtain rfl:i=0:=by omega
     exact hg
   ·cases e:((l.length:Int)==2) with
    | false=>simp
    | true=>rw [h2 e]; simp [zE]
   ·have hh:=(bv (bv h).2).2
    have:=h2 (bv hh).1
    have hg:=bv (bv hh).2
    rw [GE,this]
    refine ⟨fun _ _=>⟨by omega,fun _ _=>by omega⟩,by omega,fun i hi=>?_⟩
    obtain rfl | rfl:i=0∨i=1:=by omega
    ·exact g0 hg.1
    ·exact g1 hg.2) (fun s=>nomatch s)
  exact ⟨b,r1,r2⟩

theorem Ax:∀ (N d:Nat) (e:ze),GE d e→d≤N→(cX N e).isSome=true
 | _,0,_,h,_=>h.elim
 | 0,_+1,_,_,h=>absurd h (by omega)
 | N+1,d+1,.mk op v s l,hg,hd=>by
  rw [GE] at hg
  obtain ⟨_,hl,hk⟩:=hg
  refine CQ (a:=zg) (t:=Jd (fun x0=>jc (cX N x0)) fun x0=>(cX N x0).isSome) (fun x:oP=>match x with | .h3 _ i z=>LE.le (α:=Int) 0 i∧z.1=.mk op v s l) (fun x=>match x with | .h3 _ i z=>1000001 - i.toNat) ⟨⟨Int.le_refl _,rfl⟩,by simp⟩ ?_
  rintro ⟨n,i,e,u⟩ ⟨h0,hz⟩
  have hz:e=_:=hz
  subst hz
  refine ⟨fun hc=>?_,fun hc=>⟨_,rfl,trivial⟩⟩
  obtain ⟨h1,h2,h3⟩:=AN h0 hc (by show l.length≤_; omega)
  have h3:LT.lt (α:=Int) i l.length:=h3
  have hi:i.toNat < l.length:=by omega
  refine ⟨h1,?_⟩
  simp only [Wp,h2,zo,ze.l,Ax N d _ (hk _ hi) (by omega),true_and]
  exact ⟨⟨by omega,trivial⟩,by omega⟩

theorem RK {e:ze} (h:oO e):wx e=true∧(EA e=true→GE 12 e):=rF (a:=Sh.bool) (Q:=fun b=>b=true→GE 12 e) fun _=>by
 obtain ⟨b,k,g⟩:=wA 16 12 e h (by omega) (by omega)
 have k1:B7 e 12=true:=by
  show (ec 16 e ((12:Nat):Int)).isSome=true
  rw [k]; rfl
 have k2:GH e 12=b:=by
  show jz (ec 16 e ((12:Nat):Int))=b
  rw [k]; rfl
 simp only [zes,Wp,zo,k1,k2,lP]
 refine ⟨?_,_,rfl,fun h=>g (bv h).1⟩
 cases b with
 | false=>rfl
 | true=>exact Ax 16 12 e (g rfl) (by omega)

theorem Km {l:List (Sem zi)} (h:l.length≤1000000) (s:zn):pH l s=true:=by
 refine CQ (a:=zg) (fun x:A2=>match x with | .h2 t _ i=>LE.le (α:=Int) 0 i∧t=l) (fun x=>match x with | .h2 t _ i=>1000001 - i.toNat) ⟨⟨Int.le_refl _,rfl⟩,by simp⟩ ?_
 rintro ⟨t,s,i⟩ ⟨h0,hz⟩
 subst hz
 refine ⟨fun hc=>?_,fun hc=>⟨_,rfl,trivial⟩⟩
 obtain ⟨h1,h2,h3⟩:=AN h0 hc h
 simp only [Wp,h1,h2,true_and]
 exact ⟨fun _=>⟨_,rfl,trivial⟩,fun _=>⟨⟨by omega,trivial⟩,by omega⟩⟩

theorem wz {cs:List (Sem zi)} (h:cs.length≤1000000):∀ (N d:Nat) (e:ze),GE d e→d≤N→(cW N e cs).isSome=true
 | _,0,_,h,_=>h.elim
 | 0,_+1,_,_,h=>absurd h (by omega)
 | N+1,d+1,.mk op v s l,hg,hd=>by
  rw [GE] at hg
  obtain ⟨hp,hl,hk⟩:=hg
  suffices h:∃ y,zT [zg,zg] (R3 (fun x0 x1=>iA (cW N x0 x1)) fun x0 x1=>(cW N x0 x1).isSome) 100000000 (Rl (fun x0 x1=>iA (cW N x0 x1)) (fun x0 x1=>(cW N x0 x1).isSome) (.mk op v s l) cs)=some y∧True by
   obtain ⟨y,h,_⟩:=h
   show (zT _ _ _ _).isSome=true
   rw [h]; rfl
  refine tot (outs:=[zg,zg]) (fun x:Fr=>match x with | .h5 t i _=>LE.le (α:=Int) 0 i∧t=cs) (fun x=>match x with | .h5 t i _=>1000001 - i.toNat) ?_ ?_
  ·refine ⟨fun _=>⟨_,rfl,trivial⟩,fun c1=>⟨fun _=>⟨⟨Int.le_refl _,rfl⟩,by simp⟩,fun c2=>?_⟩⟩
   obtain ⟨h0,_⟩:=hp c1 c2
   refine ⟨eT (Int.le_refl 0) (by show LT.lt (α:=Int) 0 (l.length:Int); omega),?_⟩
   simp only [Wp,zo]
   refine ⟨wz h N d _ (hk 0 h0) (by omega),fun _=>⟨_,rfl,trivial⟩,fun _=>⟨fun c=>?_,fun c=>?_⟩⟩
   ·have h2:l.length=2:=Int.ofNat.inj (cB c)
    refine ⟨eT (by omega) (by show LT.lt (α:=Int) 1 (l.length:Int); omega),wz h N d _ (hk 1 (by omega)) (by omega),?_⟩
    repeat' first | exact ⟨_,rfl,trivial⟩ | intro _ | constructor
   ·repeat' first | exact ⟨_,rfl,trivial⟩ | intro _ | constructor
  ·rintro ⟨t,i,z⟩ ⟨h0,hz⟩
   subst hz
   refine ⟨fun hc=>?_,fun hc=>⟨_,rfl,trivial⟩⟩
   obtain ⟨h1,h2,h3⟩:=AN h0 hc h
   simp only [Wp,h1,h2,true_and]
   exact ⟨fun _=>⟨_,rfl,trivial⟩,fun _=>⟨⟨by omega,trivial⟩,by omega⟩⟩

theorem ww {cs:List (Sem zi)} {vs:List (Sem zf)} (h:cs.length≤1000000) (hv:∀ v∈vs,VS v):∀ (N d:Nat) (e:ze),oO e→GE d e→d≤N→∃ v,cV N e cs vs=some (v,())∧VS v
 | _,0,_,_,h,_=>h.elim
 | 0,_+1,_,_,_,h=>absurd h (by omega)
 | N+1,d+1,.mk op v s l,hw,hg,hd=>by
  rw [oO] at hw
  obtain ⟨w1,w2,w3⟩:=hw
  rw [GE] at hg
  obtain ⟨hp,hl,hk⟩:=hg
  have hV:∀ x,iy (some (x,()))=x:=fun _=>rfl
  have key:∃ y:zw [some zf],zT [zf] (Jb (fun x0 x1 x2=>iy (cV N x0 x1 x2)) fun x0 x1 x2=>(cV N x0 x1 x2).isSome) 100000000 (HW (fun x0 x1 x2=>iy (cV N x0 x1 x2)) (fun x0 x1 x2=>(cV N x0 x1 x2).isSome) (.mk op v s l) cs vs)=some y∧VS y.1:=by
   refine tot (outs:=[zf]) (fun x:tL=>match x with | .h6 t u i _ _=>LE.le (α:=Int) 0 i∧t=cs∧u=vs) (fun x=>match x with | .h6 t u i _ _=>1000001 - i.toNat) ?_ ?_
   ·refine ⟨fun _=>⟨_,rfl,w1⟩,fun c1=>⟨fun _=>⟨⟨Int.le_refl _,rfl,rfl⟩,by simp⟩,fun c2=>?_⟩⟩
    obtain ⟨h0,hp⟩:=hp c1 c2
    refine ⟨eT (Int.le_refl 0) (by show LT.lt (α:=Int) 0 (l.length:Int); omega),?_⟩
    obtain ⟨a,ka,ga⟩:=ww h hv N d _ (w3.at 0) (hk 0 h0) (by omega)
    simp only [Wp,zo,ze.l,ze.op,Int.toNat_zero,ka,hV,ep,(ID a).1,s6 ga,m6,true_and]
    refine ⟨fun _=>⟨_,rfl,(ID a).2⟩,fun c3=>⟨fun _=>⟨fun _=>⟨_,rfl,dq _⟩,fun _=>⟨_,rfl,dq _⟩⟩,fun c4=>?_⟩⟩
    have h1:=hp c3 c4
    obtain ⟨b,kb,gb⟩:=ww h hv N d _ (w3.at 1) (hk 1 h1) (by omega)
    simp only [show toNat 1=1 from rfl,kb,hV,ep,(Iz a b).1,(Oi a b).1,(At ga gb).1,(Ev ga gb).1,(Ez ga gb).1,(Au ga gb).1,true_and]
    exact ⟨eT (by omega) (by omega),fun _=>⟨_,rfl,(Iz a b).2⟩,fun _=>⟨fun _=>⟨_,rfl,(Oi a b).2⟩,fun _=>⟨fun _=>⟨_,rfl,(At ga gb).2⟩,fun _=>⟨fun _=>⟨_,rfl,(Ev ga gb).2⟩,fun _=>⟨fun _=>⟨_,rfl,(Ez ga gb).2⟩,fun _=>⟨_,rfl,(Au ga gb).2⟩⟩⟩⟩⟩⟩
   ·rintro ⟨t,u,i,z,z1⟩ ⟨h0,hz,hz1⟩
    subst hz hz1
    refine ⟨fun hc=>?_,fun hc=>⟨_,rfl,aD _⟩⟩
    obtain ⟨h1,h2,h3⟩:=AN h0 hc h
    simp only [Wp,h1,h2,true_and]
    refine ⟨fun _=>⟨fun c=>?_,fun _=>⟨_,rfl,aD _⟩⟩,fun _=>⟨⟨by omega,trivial⟩,by omega⟩⟩
    have c:LT.lt (α:=Int) i u.length:=dG c
    exact ⟨eT h0 c,_,rfl,hv _ (bc (by omega))⟩
  obtain ⟨⟨y,u⟩,h1,h2⟩:=key
  exact ⟨y,h1,h2⟩

theorem Ol {e:ze}:fO e (.mk [] (0,0,[]) [] [])=true:=by
 refine CQ (a:=Sh.bool) (t:=CL (fun x0 x1=>eK (bd 15 x0 x1)) fun x0 x1=>(bd 15 x0 x1).isSome) (fun x:A5=>match x with | .h4 i z _=>i=0∧(ze.l z.1).length=0) (fun _=>0) ⟨fun _=>⟨_,rfl,trivial⟩,fun c=>⟨⟨rfl,?_⟩,by simp⟩⟩ ?_
 ·revert c
  show (bif !ze.op e==[] then true else bif !((ze.v e).1==0&&((ze.v e).2.1==0&&((ze.v e).2.2==[]&&true))) then true else bif !ze.s e==[] then true else ((ze.l e).length:Int) != 0)=false→_
  cases !ze.op e==[]
  ·cases !((ze.v e).1==0&&((ze.v e).2.1==0&&((ze.v e).2.2==[]&&true)))
   ·cases !ze.s e==[]
    ·exact fun c=>by simpa using c
    ·exact fun c=>by cases c
   ·exact fun c=>by cases c
  ·exact fun c=>by cases c
 ·rintro ⟨i,z,z1⟩ ⟨h0,hz⟩
  subst h0
  refine ⟨fun hc=>?_,fun hc=>⟨_,rfl,trivial⟩⟩
  have hc:LT.lt (α:=Int) 0 (ze.l z.1).length:=dG hc
  omega

theorem Ko {e:ze} {cs:List (Sem zi)} (h:oO e) (hc:cs.length≤1000000):EF e cs=true∧(IS e cs=0→(ze.op e==[])=false→GE 12 e):=rF (a:=zg) (Q:=fun b=>b=0→(ze.op e==[])=false→GE 12 e) fun _=>by
 obtain ⟨m1,m2⟩:=RK h
 simp only [T8,Wp,zo,Ol,m1,true_and]
 refine ⟨fun c=>⟨fun _=>⟨_,rfl,fun _ k=>?_⟩,fun _=>⟨_,rfl,fun _ k=>?_⟩⟩,fun c=>⟨fun _=>⟨_,rfl,fun k=>(by cases k)⟩,fun c2=>?_⟩⟩
 ·rw [c] at k; cases k
 ·rw [c] at k; cases k
 ·have g:=m2 (by simpa using c2)
  refine ⟨wz hc 16 12 e g (by omega),?_⟩
  repeat' first | exact ⟨_,rfl,fun _ _=>g⟩ | intro _ | constructor
noncomputable section

abbrev zeT:=jJ [(4,[1,2,5]),(9,[1,2,6])]
inductive A3 where
 | h4 (l1:LV) (i5:Int) (z0:zu [CP.d zt])
 | h9 (l1:LV) (i6:Int) (z0:zu [CP.d zt])
abbrev zhm:A3→Nat×St
 | .h4 l1 i5 z0=>(4,⟨tm 83 [(1,AV.sl zf l1),(2,AV.ptr 0 0),(5,AV.int .i64 i5)],[AO.box (bb [] [CP.d zt] z0)]⟩)
 | .h9 l1 i6 z0=>(9,⟨tm 83 [(1,AV.sl zf l1),(2,AV.ptr 0 0),(6,AV.int .i64 i6)],[AO.box (bb [] [CP.d zt] z0)]⟩)
def zen (x0:Sem zt) (x1:Sem zf.sl):Tr (A3 ⊕ zV):=
 let a0:=(x0.1,x0.2.1,x0.2.2.1,x0.2.2.2.1,x0.2.2.2.2.1,zB x0.2.2.2.2.2)
 Tr.chk (wB a0)
 (Tr.br (bif !ED a0 then true else (↑(length x1):Int) != (↑(length x0.2.1):Int)) (Tr.re (AV.int .i64 1) [])
  (Tr.to (A3.h4 x1 0 (x0,()))))
def zju:A3→Tr (A3 ⊕ zV)
 | .h4 l1 i5 z0=>
  let a0:=l1.getD i5.toNat (zj zf)
  Tr.br (decide (i5 < (↑l1.length:Int)))
  (Tr.chk (zE i5 l1.length) (Tr.chk (mn a0) (Tr.br (!wn a0) (Tr.re (AV.int .i64 1) []) (Tr.to (A3.h4 l1 (IntKind.i64.wrap (i5+1)) z0)))))
  (Tr.to (A3.h9 l1 0 z0))
 | .h9 l1 i6 z0=>
  let a0:=l1.getD i6.toNat (zj zf)
  let a1:=a0.1==0
  let a2:=zE i6 (length z0.1.2.1)
  let a3:=getD z0.1.2.1 i6.toNat (zj zi)
  let a4:=a0.1 != 0
  let a5 := !ze.op z0.1.2.2.2.2.2==[]
  let a6:=zB z0.1.2.2.2.2.2
  let a7:=Ok a6 z0.1.2.1 l1
  Tr.br (decide (i6 < (↑l1.length:Int)))
  (Tr.chk (zE i6 l1.length&&bif a1 then a2 else true)
   (Tr.br (bif a1 then a3.2.2 else false) (Tr.re (AV.int .i64 8) []) (Tr.chk (zE i6 l1.length&&bif a4 then zE i6 l1.length&&a2 else true) (Tr.br (bif a4 then a0.1 != a3.2.1 else false) (Tr.re (AV.int .i64 5) []) (Tr.to (A3.h9 l1 (IntKind.i64.wrap (i6+1)) z0))))))
  (Tr.chk (bif a5 then IG a6 z0.1.2.1 l1&&lB a7 false else true)
   (Tr.br (bif a5 then oC a7 false else false) (Tr.re (AV.int .i64 9) []) (Tr.re (AV.int .i64 0) [])))
def B8 (x0:Sem zt) (x1:Sem zf.sl):=zT [zg] zju 100000000 (zen x0 x1)
def IQ (x0:Sem zt) (x1:Sem zf.sl):=(B8 x0 x1).isSome
def GI (x0:Sem zt) (x1:Sem zf.sl):=o1 (B8 x0 x1)
def zaR:=FT [zt,zf.sl] [zg] fun x=>B8 x.1 x.2.1
theorem Wl:FK 65 zaR:=iW.T1 (f:=Tryz.f65) (keep:=zeT) (e:=zhm)

abbrev zeU:=jJ [(2,[0,1,5]),(5,[0,1,5,6])]
inductive A4 where
 | h2 (l0:List (Sem zf.sl)) (i1:Sem zg) (i5:Int)
 | h5 (l0:List (Sem zf.sl)) (i1:Sem zg) (i5:Int) (i6:Int)
abbrev zhn:A4→Nat×St
 | .h2 l0 i1 i5=>(2,⟨tm 44 [(0,AV.sl zf.sl l0),(1,AV.int .i64 i1),(5,AV.int .i64 i5)],[]⟩)
 | .h5 l0 i1 i5 i6=>(5,⟨tm 44 [(0,AV.sl zf.sl l0),(1,AV.int .i64 i1),(5,AV.int .i64 i5),(6,AV.int .i64 i6)],[]⟩)
def ziO (x0:Sem zf.sl.sl) (x1:Sem zg):Tr (A4 ⊕ zV):=
 Tr.to (A4.h2 x0 x1 0)
def zjv:A4→Tr (A4 ⊕ zV)
 | .h2 l0 i1 i5=>
  Tr.br (decide (i5 < (↑l0.length:Int))) (Tr.to (A4.h5 l0 i1 i5 0)) (Tr.re (AV.kb false) [])
 | .h5 l0 i1 i5 i6=>
  let a0:=l0.getD i5.toNat (zj zf.sl)
  let a1:=zE i1 (length a0)
  let a2:=getD a0 (toNat i1) (zj zf)
  let a3:=a2.1 != 0
  let a4:=l0.getD i6.toNat (zj zf.sl)
  let a5:=getD a4 (toNat i1) (zj zf)
  Tr.br (decide (i6 < i5))
  (Tr.chk (zE i5 l0.length&&(a1&&bif a3 then zE i5 l0.length&&(a1&&(zE i6 l0.length&&zE i1 (length a4))) else true))
   (Tr.br (bif a3 then a2.1==a5.1&&(a2.2.1==a5.2.1&&(a2.2.2==a5.2.2&&true)) else false) (Tr.re (AV.kb true) []) (Tr.to (A4.h5 l0 i1 i5 (IntKind.i64.wrap (i6+1))))))
  (Tr.to (A4.h2 l0 i1 (IntKind.i64.wrap (i5+1))))
def wG (x0:Sem zf.sl.sl) (x1:Sem zg):=zT [Sh.bool] zjv 100000000 (ziO x0 x1)
def wF (x0:Sem zf.sl.sl) (x1:Sem zg):=(wG x0 x1).isSome
def IV (x0:Sem zf.sl.sl) (x1:Sem zg):=o1 (wG x0 x1)
def zaS:=FT [zf.sl.sl,zg] [Sh.bool] fun x=>wG x.1 x.2.1
theorem Wm:FK 66 zaS:=iW.T1 (f:=Tryz.f66) (keep:=zeU) (e:=zhn)

def zep (x0:Sem zt) (x1:Sem zf.sl):Tr (Empty ⊕ zV):=
 let a0:=(x0.1,x0.2.1,x0.2.2.1,x0.2.2.2.1,x0.2.2.2.2.1,zB x0.2.2.2.2.2)
 let a1:=getD x1 (toNat x0.2.2.1) (zj zf)
 Tr.chk (wB a0)
 (Tr.br (bif ED a0 then decide (x0.2.2.1 < (↑(length x1):Int)) else false)
  (Tr.chk (zE x0.2.2.1 (length x1)) (Tr.re (AV.agg [AV.int .i64 a1.1,AV.int .i64 a1.2.1,AV.str a1.2.2]) []))
  (Tr.re (AV.agg [AV.int .i64 0,AV.int .i64 0,AV.str []]) []))
def GO (x0:Sem zt) (x1:Sem zf.sl):=zT [zf] t0 100000000 (zep x0 x1)
def GN (x0:Sem zt) (x1:Sem zf.sl):=(GO x0 x1).isSome
def Ov (x0:Sem zt) (x1:Sem zf.sl):=o1 (GO x0 x1)
def zaW:=FT [zt,zf.sl] [zf] fun x=>GO x.1 x.2.1
theorem Ws:FK 68 zaW:=iW.T1 (f:=Tryz.f68) (keep:=k0) (e:=e0)

abbrev zeX:=jJ [(2,[2,3,5])]
inductive Fq where
 | h2 (i5:Int) (z0:zu [CP.d zh]) (z1:zu [CP.d zf])
abbrev zhq:Fq→Nat×St
 | .h2 i5 z0 z1=>(2,⟨tm 43 [(2,AV.ptr 0 0),(3,AV.ptr 1 0),(5,AV.int .i64 i5)],[AO.box (bb [] [CP.d zh] z0),AO.box (bb [] [CP.d zf] z1)]⟩)
def ziR (x0:Sem zh) (x1:Sem zf):Tr (Fq ⊕ zV):=
 Tr.to (Fq.h2 0 (x0,()) (x1,()))
def zgI:Fq→Tr (Fq ⊕ zV)
 | .h2 i5 z0 z1=>
  let a0:=(↑(length z0.1.2):Int)
  let a1:=decide (i5 < a0)
  let a2:=(z0.1.1.1,z0.1.1.2.1,z0.1.1.2.2.1,z0.1.1.2.2.2.1,z0.1.1.2.2.2.2.1,zB z0.1.1.2.2.2.2.2)
  let a3:=zE i5 (length z0.1.2)
  let a4:=getD z0.1.2 i5.toNat (zj zf.sl)
  let a5:=(↑(length a4):Int)
  let a6:=decide (z0.1.1.2.2.1 < a5)
  let a7:=getD a4 (toNat z0.1.1.2.2.1) (zj zf)
  Tr.chk (bif a1 then wB a2 else true)
  (Tr.br (bif a1 then ED a2 else false)
   (Tr.chk (a3&&bif a6 then a3&&zE z0.1.1.2.2.1 (length a4) else true) (Tr.br (bif a6 then a7.1==z1.1.1&&(a7.2.1==z1.1.2.1&&(a7.2.2==z1.1.2.2&&true)) else false) (Tr.re (AV.int .i64 i5) []) (Tr.to (Fq.h2 (IntKind.i64.wrap (i5+1)) z0 z1))))
   (Tr.re (AV.int .i64 (-1)) []))
def Ca (x0:Sem zh) (x1:Sem zf):=zT [zg] zgI 100000000 (ziR x0 x1)
def IT (x0:Sem zh) (x1:Sem zf):=(Ca x0 x1).isSome
def Ze (x0:Sem zh) (x1:Sem zf):=o1 (Ca x0 x1)
def zaX:=FT [zh,zf] [zg] fun x=>Ca x.1 x.2.1
theorem Wt:FK 70 zaX:=iW.T1 (f:=Tryz.f70) (keep:=zeX) (e:=zhq)

def LO:=LN.addL [(65,zaR),(66,zaS),(68,zaW),(70,zaX)]
theorem ol:zm LO:=iW.addL <| fc Wl <| fc Wm <| fc Ws <| fc Wt gW
end
noncomputable section

abbrev zeG:=jJ [(6,[1,3]),(14,[1,5]),(19,[1,6])]
inductive tS where
 | h6 (i3:Int) (z0:zu [CP.d zh])
 | h14 (i5:Int) (z0:zu [CP.d zh])
 | h19 (i6:Int) (z0:zu [CP.d zh])
abbrev zhe:tS→Nat×St
 | .h6 i3 z0=>(6,⟨tm 82 [(1,AV.ptr 0 0),(3,AV.int .i64 i3)],[AO.box (bb [] [CP.d zh] z0)]⟩)
 | .h14 i5 z0=>(14,⟨tm 82 [(1,AV.ptr 0 0),(5,AV.int .i64 i5)],[AO.box (bb [] [CP.d zh] z0)]⟩)
 | .h19 i6 z0=>(19,⟨tm 82 [(1,AV.ptr 0 0),(6,AV.int .i64 i6)],[AO.box (bb [] [CP.d zh] z0)]⟩)
def zeh (x0:Sem zh):Tr (tS ⊕ zV):=
 let a0:=(x0.1.1,x0.1.2.1,x0.1.2.2.1,x0.1.2.2.2.1,x0.1.2.2.2.2.1,zB x0.1.2.2.2.2.2)
 Tr.chk (wB a0)
 (Tr.br (!ED a0) (Tr.re (AV.int .i64 1) [])
  (Tr.br (decide ((↑(length x0.2):Int) > 200)) (Tr.re (AV.int .i64 13) []) (Tr.to (tS.h6 0 (x0,())))))
def Zr:tS→Tr (tS ⊕ zV)
 | .h6 i3 z0=>
  let a0:=(↑(length z0.1.2):Int)
  let a1:=(z0.1.1.1,z0.1.1.2.1,z0.1.1.2.2.1,z0.1.1.2.2.2.1,z0.1.1.2.2.2.2.1,zB z0.1.1.2.2.2.2.2)
  let a2:=getD z0.1.2 i3.toNat (zj zf.sl)
  let a3:=GI a1 a2
  Tr.br (decide (i3 < a0))
  (Tr.chk (zE i3 (length z0.1.2))
   (Tr.chk (IQ a1 a2) (Tr.br (a3 != 0) (Tr.re (AV.int .i64 a3) []) (Tr.to (tS.h6 (IntKind.i64.wrap (i3+1)) z0)))))
  (Tr.chk (wF z0.1.2 z0.1.1.2.2.1)
   (Tr.br (IV z0.1.2 z0.1.1.2.2.1) (Tr.re (AV.int .i64 7) []) (Tr.to (tS.h14 0 z0))))
 | .h14 i5 z0=>
  let a0:=(↑(length z0.1.1.2.2.2.1):Int)
  let a1:=getD z0.1.1.2.2.2.1 i5.toNat (zj zg)
  Tr.br (decide (i5 < a0))
  (Tr.chk (zE i5 (length z0.1.1.2.2.2.1))
   (Tr.chk (wF z0.1.2 a1) (Tr.br (IV z0.1.2 a1) (Tr.re (AV.int .i64 7) []) (Tr.to (tS.h14 (IntKind.i64.wrap (i5+1)) z0)))))
  (Tr.to (tS.h19 1 z0))
 | .h19 i6 z0=>
  let a0:=(↑(length z0.1.2):Int)
  let a1:=IntKind.i64.wrap (i6 - 1)
  let a2:=(z0.1.1.1,z0.1.1.2.1,z0.1.1.2.2.1,z0.1.1.2.2.2.1,z0.1.1.2.2.2.2.1,zB z0.1.1.2.2.2.2.2)
  let a3:=getD z0.1.2 a1.toNat (zj zf.sl)
  let a4:=getD z0.1.2 i6.toNat (zj zf.sl)
  let a5:=Ov a2 a3
  let a6:=Ov a2 a4
  let a7:=RI a5 a6
  Tr.br (decide (i6 < a0))
  (Tr.chk (zE a1 (length z0.1.2))
   (Tr.chk (GN a2 a3) (Tr.chk (zE i6 (length z0.1.2)) (Tr.chk (GN a2 a4) (Tr.chk (Ex a5 a6) (Tr.br (decide (a7 > 0)) (Tr.re (AV.int .i64 15) []) (Tr.to (tS.h19 (IntKind.i64.wrap (i6+1)) z0))))))))
  (Tr.re (AV.int .i64 0) [])
def wD (x0:Sem zh):=zT [zg] Zr 100000000 (zeh x0)
def EG (x0:Sem zh):=(wD x0).isSome
def B9 (x0:Sem zh):=o1 (wD x0)
def zau:=FT [zh] [zg] fun x=>wD x.1
theorem VU:FK 34 zau:=ol.T1 (f:=Tryz.f34) (keep:=zeG) (e:=zhe)

abbrev zeH:=jJ [(2,[0,3]),(5,[0,3,4]),(12,[0,3,4,5,6,7])]
inductive tT where
 | h2 (l0:List (Sem zh)) (i3:Int)
 | h5 (l0:List (Sem zh)) (i3:Int) (i4:Int)
 | h12 (l0:List (Sem zh)) (i3:Int) (i4:Int) (i6:Sem zg) (i7:Int) (z0:zu [CP.d zp])
abbrev zhf:tT→Nat×St
 | .h2 l0 i3=>(2,⟨tm 75 [(0,AV.sl zh l0),(3,AV.int .i64 i3)],[]⟩)
 | .h5 l0 i3 i4=>(5,⟨tm 75 [(0,AV.sl zh l0),(3,AV.int .i64 i3),(4,AV.int .i64 i4)],[]⟩)
 | .h12 l0 i3 i4 i6 i7 z0=>(12,⟨tm 75 [(0,AV.sl zh l0),(3,AV.int .i64 i3),(4,AV.int .i64 i4),(5,AV.ptr 0 0),(6,AV.int .i64 i6),(7,AV.int .i64 i7)],[AO.box (bb [] [CP.d zp] z0)]⟩)
def ziH (x0:Sem zh.sl):Tr (tT ⊕ zV):=
 Tr.to (tT.h2 x0 0)
def R0:tT→Tr (tT ⊕ zV)
 | .h2 l0 i3=>
  Tr.br (decide (i3 < (↑l0.length:Int))) (Tr.to (tT.h5 l0 i3 0)) (Tr.re (AV.kb true) [])
 | .h5 l0 i3 i4=>
  let a0:=l0.getD i3.toNat (zj zh)
  let a1:=(↑(length a0.1.2.2.2.2.1):Int)
  let a2:=getD a0.1.2.2.2.2.1 i4.toNat (zj zp)
  let a3:=wR l0 a2.2
  Tr.chk (zE i3 l0.length)
  (Tr.br (decide (i4 < a1))
   (Tr.chk (zE i3 l0.length) (Tr.chk (zE i4 (length a0.1.2.2.2.2.1)) (Tr.br (decide (a3 < 0)) (Tr.re (AV.kb false) []) (Tr.to (tT.h12 l0 i3 i4 a3 0 (a2,()))))))
   (Tr.to (tT.h2 l0 (IntKind.i64.wrap (i3+1)))))
 | .h12 l0 i3 i4 i6 i7 z0=>
  let a0:=l0.getD i3.toNat (zj zh)
  let a1:=(↑(length a0.2):Int)
  let a2:=getD a0.2 i7.toNat (zj zf.sl)
  let a3:=getD a2 (toNat z0.1.1) (zj zf)
  let a4:=a3.1 != 0
  let a5:=l0.getD (toNat i6) (zj zh)
  let a6:=((a5.1.1,a5.1.2.1,a5.1.2.2.1,a5.1.2.2.2.1,a5.1.2.2.2.2.1,zB a5.1.2.2.2.2.2),a5.2)
  let a7:=Ze a6 a3
  Tr.chk (zE i3 l0.length)
  (Tr.br (decide (i7 < a1))
   (Tr.chk (zE i3 l0.length) (Tr.chk (zE i7 (length a0.2)) (Tr.chk (zE z0.1.1 (length a2)) (Tr.chk (bif a4 then zE i6 l0.length&&IT a6 a3 else true) (Tr.br (bif a4 then decide (a7 < 0) else false) (Tr.re (AV.kb false) []) (Tr.to (tT.h12 l0 i3 i4 i6 (IntKind.i64.wrap (i7+1)) z0)))))))
   (Tr.to (tT.h5 l0 i3 (IntKind.i64.wrap (i4+1)))))
def wH (x0:Sem zh.sl):=zT [Sh.bool] R0 100000000 (ziH x0)
def EH (x0:Sem zh.sl):=(wH x0).isSome
def RO (x0:Sem zh.sl):=o1 (wH x0)
def zav:=FT [zh.sl] [Sh.bool] fun x=>wH x.1
theorem VV:FK 35 zav:=ol.T1 (f:=Tryz.f35) (keep:=zeH) (e:=zhf)

def Xj:=LO.addL [(34,zau),(35,zav)]
theorem FN:zm Xj:=ol.addL <| fc VU <| fc VV gW
end
noncomputable section

abbrev zjl:=jJ [(4,[0,3]),(9,[0,4])]
inductive Qq where
 | h4 (l0:List (Sem zh)) (i3:Int)
 | h9 (l0:List (Sem zh)) (i4:Int)
abbrev e9p:Qq→Nat×St
 | .h4 l0 i3=>(4,⟨tm 46 [(0,AV.sl zh l0),(3,AV.int .i64 i3)],[]⟩)
 | .h9 l0 i4=>(9,⟨tm 46 [(0,AV.sl zh l0),(4,AV.int .i64 i4)],[]⟩)
def i9p (x0:Sem zh.sl):Tr (Qq ⊕ zV):=
 Tr.br (decide ((↑(length x0):Int) > 12)) (Tr.re (AV.int .i64 13) []) (Tr.to (Qq.h4 x0 1))
def t9p:Qq→Tr (Qq ⊕ zV)
 | .h4 l0 i3=>
  let a0:=IntKind.i64.wrap (i3 - 1)
  let a1:=l0.getD a0.toNat (zj zh)
  let a2:=l0.getD i3.toNat (zj zh)
  Tr.br (decide (i3 < (↑l0.length:Int)))
  (Tr.chk (zE a0 l0.length)
   (Tr.chk (zE i3 l0.length) (Tr.br (!Op.bytesLess a1.1.1 a2.1.1) (Tr.re (AV.int .i64 15) []) (Tr.to (Qq.h4 l0 (IntKind.i64.wrap (i3+1)))))))
  (Tr.to (Qq.h9 l0 0))
 | .h9 l0 i4=>
  let a0:=l0.getD i4.toNat (zj zh)
  let a1:=((a0.1.1,a0.1.2.1,a0.1.2.2.1,a0.1.2.2.2.1,a0.1.2.2.2.2.1,zB a0.1.2.2.2.2.2),a0.2)
  let a2:=B9 a1
  Tr.br (decide (i4 < (↑l0.length:Int)))
  (Tr.chk (zE i4 l0.length) (Tr.chk (EG a1) (Tr.br (a2 != 0) (Tr.re (AV.int .i64 a2) []) (Tr.to (Qq.h9 l0 (IntKind.i64.wrap (i4+1)))))))
  (Tr.chk (EH l0) (Tr.br (!RO l0) (Tr.re (AV.int .i64 10) []) (Tr.re (AV.int .i64 0) [])))
def wJ (x0:Sem zh.sl):=zT [zg] t9p 100000000 (i9p x0)
def EI (x0:Sem zh.sl):=(wJ x0).isSome
def Cc (x0:Sem zh.sl):=o1 (wJ x0)
def F9p:=FT [zh.sl] [zg] fun x=>wJ x.1
theorem zcD:FK 15 F9p:=FN.T1 (f:=Tryz.f15) (keep:=zjl) (e:=e9p)

end

theorem dC {a b:Bool} (h:(bif a then true else b)=false):a=false∧b=false:=by
 cases a <;> cases b <;> simp_all
theorem uu {a b:Bool} (h:a=false→b=true):(bif a then true else b)=true:=by
 cases a <;> simp_all
theorem Lk {a b:Bool} (h:a=true→b=true):(bif a then b else true)=true:=by
 cases a <;> simp_all
theorem BM {c:Int} {n:Nat} (h:decide (LT.lt (α:=Int) c 0)=false) (h':decide (GE.ge (α:=Int) c (n:Int))=false):zE c n=true:=by
 have h:=of_decide_eq_false h
 have h':=of_decide_eq_false h'
 exact eT (by omega) (by omega)
theorem BL {c:Int} {n:Nat} (h:zE c n=true):LE.le (α:=Int) 0 c∧LT.lt (α:=Int) c n:=by
 unfold zE at h
 simpa using h

structure TC (t:Sem zt):Prop where
 name:t.1.length≤20
 cnames:∀ c∈t.2.1,length c.1≤20
 cols:t.2.1.length≤1000
 uq:t.2.2.2.1.length≤1000
 rf:t.2.2.2.2.1.length≤1000
 rnames:∀ f∈t.2.2.2.2.1,length f.2≤20
 chk:oO t.2.2.2.2.2
structure WfR (x:Sem zh):Prop where
 tab:TC x.1
 rows:x.2.length≤1000
 vals:∀ r∈x.2,∀ v∈(r:List (Sem zf)),VS v
structure Dc (t:Sem zt):Prop where
 key:zE t.2.2.1 t.2.1.length=true
 uq:∀ u∈t.2.2.2.1,zE u t.2.1.length=true
 rf:∀ f∈t.2.2.2.2.1,zE f.1 t.2.1.length=true
 chk:(ze.op t.2.2.2.2.2==[])=false→GE 12 t.2.2.2.2.2
def nY {α:Type} (Q:α→Prop) (d:α) (l:List α) (i:Int):Prop:=∀ j,j < l.length→LT.lt (α:=Int) j i→Q (l.getD j d)
theorem nY.zero {α:Type} {Q:α→Prop} {d:α} {l:List α}:nY Q d l 0:=fun j _ h=>absurd h (by omega)
theorem nY.next {α:Type} {Q:α→Prop} {d:α} {l:List α} {i:Int} (h:nY Q d l i) (h0:LE.le (α:=Int) 0 i) (hq:Q (l.getD i.toNat d)):nY Q d l (i+1):=fun j hj hi=>by
 by_cases e:(j:Int)=i
 ·subst e; exact hq
 ·exact h j hj (by omega)
theorem nY.all {α:Type} {Q:α→Prop} {d:α} {l:List α} {i:Int} (h:nY Q d l i) (hi:decide (LT.lt (α:=Int) i (l.length:Int))=false):∀ x∈l,Q x:=
 (bP (d:=d)).1 fun j hj=>h j hj (by have:=of_decide_eq_false hi; omega)

theorem tc {t:Sem zt} (h:TC t):wB t=true∧(ED t=true→Dc t):=by
 have hc:=h.cols
 have hu:=h.uq
 have hf:=h.rf
 refine KI (a:=Sh.bool) (Q:=fun b=>b=true→Dc t) (fun x:tW=>match x with
  | .h5 n i z=>LE.le (α:=Int) 0 i∧LE.le (α:=Int) i t.2.1.length∧n=t.2.1.length∧z.1=t∧zE t.2.2.1 t.2.1.length=true
  | .h11 n i z=>LE.le (α:=Int) 0 i∧LE.le (α:=Int) i t.2.2.2.1.length∧n=t.2.1.length∧z.1=t∧zE t.2.2.1 t.2.1.length=true∧nY (fun u:Int=>zE u t.2.1.length=true) (zj zg) t.2.2.2.1 i
  | .h16 n i z=>LE.le (α:=Int) 0 i∧n=t.2.1.length∧z.1=t∧zE t.2.2.1 t.2.1.length=true∧(∀ u∈t.2.2.2.1,zE u t.2.1.length=true)∧nY (fun u:Sem zp=>zE u.1 t.2.1.length=true) (zj zp) t.2.2.2.2.1 i)
  (fun x=>match x with | .h5 _ i _=>5001 - i.toNat | .h11 _ i _=>3001 - i.toNat | .h16 _ i _=>1001 - i.toNat) ?_ ?_
 ·refine ⟨?_,fun _=>⟨_,rfl,fun h=>(by cases h)⟩,fun c=>⟨⟨Int.le_refl _,by omega,rfl,rfl,?_⟩,by simp⟩⟩
  ·rw [wN (cC h.name (by omega)),lP]
   exact uu fun _=>uu fun _=>uu fun _=>uu fun k=>uu fun k'=>BM k k'
  ·have c:=(dC (dC (dC c).2).2).2
   exact BM (dC c).1 (dC (dC c).2).1
 ·rintro (⟨n,i,⟨t',u⟩⟩ | ⟨n,i,⟨t',u⟩⟩ | ⟨n,i,⟨t',u⟩⟩) hI
  ·obtain ⟨h0,hb,rfl,hz,hk⟩:=hI
   have hz:t'=t:=hz
   subst hz
   refine ⟨fun hc'=>?_,fun _=>⟨⟨Int.le_refl _,by omega,rfl,rfl,hk,nY.zero⟩,by show 3001 - toNat 0 < 5001 - i.toNat; omega⟩⟩
   obtain ⟨h1,h2,h3⟩:=AN (n:=t'.2.1.length) h0 hc' (by omega)
   refine ⟨h1,?_,fun _=>⟨_,rfl,fun h=>(by cases h)⟩,fun _=>?_⟩
   ·show (cv (t'.2.1.getD i.toNat (zj zi)).1&&bif _ then true else bif _ then true else bif _ then true else pH t'.2.1 _)=true
    rw [wN (cC (h.cnames _ (bc (by omega))) (by omega)),Km (by omega)]
    simp
   ·rw [h2]
    exact ⟨⟨by omega,by omega,rfl,rfl,hk⟩,by show 5001 - toNat (i+1) < 5001 - i.toNat; omega⟩
  ·obtain ⟨h0,hb,rfl,hz,hk,hp⟩:=hI
   have hz:t'=t:=hz
   subst hz
   refine ⟨fun hc'=>?_,fun c=>⟨⟨Int.le_refl _,rfl,rfl,hk,hp.all c,nY.zero⟩,by show 1001 - toNat 0 < 3001 - i.toNat; omega⟩⟩
   obtain ⟨h1,h2,h3⟩:=AN (n:=t'.2.2.2.1.length) h0 hc' (by omega)
   refine ⟨?_,fun _=>⟨_,rfl,fun h=>(by cases h)⟩,fun c=>?_⟩
   ·show (zE i t'.2.2.2.1.length&&bif _ then true else zE i t'.2.2.2.1.length)=true
    rw [h1]; simp
   ·rw [h2]
    exact ⟨⟨by omega,by omega,rfl,rfl,hk,hp.next h0 (BM (dC c).1 (dC c).2)⟩,by show 3001 - toNat (i+1) < 3001 - i.toNat; omega⟩
  ·obtain ⟨h0,rfl,hz,hk,hq,hp⟩:=hI
   have hz:t'=t:=hz
   subst hz
   refine ⟨fun hc'=>?_,fun c=>?_⟩
   ·obtain ⟨h1,h2,h3⟩:=AN (n:=t'.2.2.2.2.1.length) h0 hc' (by omega)
    refine ⟨?_,fun _=>⟨_,rfl,fun h=>(by cases h)⟩,fun c=>?_⟩
    ·show (zE i t'.2.2.2.2.1.length&&bif _ then true else zE i t'.2.2.2.2.1.length&&bif _ then true else zE i t'.2.2.2.2.1.length&&cv (t'.2.2.2.2.1.getD i.toNat (zj zp)).2)=true
     rw [h1,wN (cC (h.rnames _ (bc (by omega))) (by omega))]; simp
    ·rw [h2]
     exact ⟨⟨by omega,rfl,rfl,hk,hq,hp.next h0 (BM (dC c).1 (dC (dC c).2).1)⟩,by show 1001 - toNat (i+1) < 1001 - i.toNat; omega⟩
   ·simp only [Wp,zo]
    obtain ⟨k1,k2⟩:=Ko (cs:=t'.2.1) h.chk (by omega)
    exact ⟨k1,_,rfl,fun e=>⟨hk,hq,hp.all c,k2 (cB e)⟩⟩

theorem Ot {t:Sem zt} {r:List (Sem zf)} (h:TC t) (hv:∀ v∈r,VS v):IQ t r=true∧(GI t r=0→Dc t∧r.length=t.2.1.length):=by
 have hc:=h.cols
 obtain ⟨m1,m2⟩:=tc h
 refine KI (a:=zg) (Q:=fun b=>b=0→Dc t∧r.length=t.2.1.length) (fun x:A3=>match x with
  | .h4 l i z=>LE.le (α:=Int) 0 i∧LE.le (α:=Int) i r.length∧l=r∧z.1=t∧Dc t∧r.length=t.2.1.length
  | .h9 l i z=>LE.le (α:=Int) 0 i∧l=r∧z.1=t∧Dc t∧r.length=t.2.1.length)
  (fun x=>match x with | .h4 _ i _=>3001 - i.toNat | .h9 _ i _=>1001 - i.toNat) ?_ ?_
 ·simp only [zen,Wp,zo,Prod.eta,m1,true_and]
  refine ⟨fun _=>⟨_,rfl,fun h=>(by cases h)⟩,fun c=>⟨⟨Int.le_refl _,by omega,m2 ?_,?_⟩,by simp⟩⟩
  ·simpa using (dC c).1
  ·have:=(dC c).2
   simp at this
   omega
 ·rintro (⟨l,i,⟨t',u⟩⟩ | ⟨l,i,⟨t',u⟩⟩) hI
  ·obtain ⟨h0,hb,rfl,hz,hk,hl⟩:=hI
   have hz:t'=t:=hz
   subst hz
   refine ⟨fun hc'=>?_,fun _=>⟨⟨Int.le_refl _,rfl,rfl,hk,hl⟩,by show 1001 - toNat 0 < 3001 - i.toNat; omega⟩⟩
   obtain ⟨h1,h2,h3⟩:=AN h0 hc' (by omega)
   refine ⟨h1,s6 (hv _ (bc (by omega))),fun _=>⟨_,rfl,fun h=>(by cases h)⟩,fun _=>?_⟩
   rw [h2]
   exact ⟨⟨by omega,by omega,rfl,rfl,hk,hl⟩,by show 3001 - toNat (i+1) < 3001 - i.toNat; omega⟩
  ·obtain ⟨h0,rfl,hz,hk,hl⟩:=hI
   have hz:t'=t:=hz
   subst hz
   refine ⟨fun hc'=>?_,fun _=>?_⟩
   ·obtain ⟨h1,h2,h3⟩:=AN h0 hc' (by omega)
    have h4:zE i t'.2.1.length=true:=by rw [← hl]; exact h1
    simp only [Wp,h1,h2,h4,lP,Bool.cond_self,true_and]
    refine ⟨fun _=>⟨_,rfl,fun h=>(by cases h)⟩,fun _=>⟨fun c=>⟨_,rfl,fun e=>?_⟩,fun _=>⟨⟨by omega,hk,hl⟩,by omega⟩⟩⟩
    cases e
   ·simp only [Wp,zo,B1,Bool.and_true]
    refine ⟨Lk fun c=>?_,fun _=>⟨_,rfl,fun h=>(by cases h)⟩,fun _=>⟨_,rfl,fun _=>⟨hk,hl⟩⟩⟩
    obtain ⟨v,k,_⟩:=ww (cs:=t'.2.1) (by omega) hv 16 12 _ h.chk (hk.chk (by simpa using c)) (by omega)
    show (cV 16 t'.2.2.2.2.2 t'.2.1 l).isSome=true
    rw [k]; rfl

theorem Ay {l:List (Sem zf.sl)} {c:Int} (hl:l.length≤1000) (h:∀ r∈l,zE c (length r)=true):wF l c=true:=by
 refine CQ (a:=Sh.bool) (fun x:A4=>match x with
  | .h2 l' c' i=>LE.le (α:=Int) 0 i∧l'=l∧c'=c
  | .h5 l' c' i j=>LE.le (α:=Int) 0 i∧LT.lt (α:=Int) i l.length∧LE.le (α:=Int) 0 j∧LE.le (α:=Int) j i∧l'=l∧c'=c)
  (fun x=>match x with | .h2 _ _ i=>(1001 - i.toNat) * 3000 | .h5 _ _ i j=>(1001 - i.toNat) * 3000 - 1 - j.toNat) ⟨⟨Int.le_refl _,rfl,rfl⟩,by simp⟩ ?_
 rintro (⟨l',c',i⟩ | ⟨l',c',i,j⟩) hI
 ·obtain ⟨h0,rfl,rfl⟩:=hI
  refine ⟨fun hc=>?_,fun _=>⟨_,rfl,trivial⟩⟩
  have hc:LT.lt (α:=Int) i l'.length:=dG hc
  exact ⟨⟨h0,hc,Int.le_refl _,h0,rfl,rfl⟩,by show (1001 - i.toNat) * 3000 - 1 - toNat 0 < (1001 - i.toNat) * 3000; omega⟩
 ·obtain ⟨h0,hi,hj,hji,rfl,rfl⟩:=hI
  refine ⟨fun hc=>?_,fun hc=>?_⟩
  ·have hc:LT.lt (α:=Int) j i:=dG hc
   simp only [Wp,eT h0 hi,eT hj (show LT.lt (α:=Int) j l'.length by omega),h _ (bc (i:=i.toNat) (by omega)),h _ (bc (i:=j.toNat) (by omega)),xE hj (by omega),lP,Bool.cond_self,true_and]
   exact ⟨fun _=>⟨_,rfl,trivial⟩,fun _=>⟨⟨h0,hi,by omega,by omega,trivial⟩,by omega⟩⟩
  ·rw [xE h0 (by omega)]
   exact ⟨⟨by omega,rfl,rfl⟩,by show (1001 - toNat (i+1)) * 3000 < (1001 - i.toNat) * 3000 - 1 - j.toNat; omega⟩

theorem IU {t:Sem zt} {r:List (Sem zf)} (h:TC t) (hv:∀ v∈r,VS v):GN t r=true∧VS (Ov t r):=rF (a:=zf) (Q:=VS) fun _=>by
 obtain ⟨m1,m2⟩:=tc h
 simp only [zep,Wp,zo,Prod.eta,m1,true_and]
 refine ⟨fun c=>?_,fun _=>⟨_,rfl,aD _⟩⟩
 obtain ⟨c1,c2⟩:=bv c
 have c2:LT.lt (α:=Int) t.2.2.1 r.length:=dG c2
 obtain ⟨g1,_⟩:=BL (m2 c1).key
 exact ⟨eT g1 c2,_,rfl,hv _ (bc (by omega))⟩

theorem Ou {x:Sem zh} {v:Sem zf} (h:TC x.1) (hl:x.2.length≤1000):IT x v=true:=by
 obtain ⟨m1,m2⟩:=tc h
 refine CQ (a:=zg) (fun y:Fq=>match y with | .h2 i z _=>LE.le (α:=Int) 0 i∧z.1=x) (fun y=>match y with | .h2 i _ _=>1001 - i.toNat) ⟨⟨Int.le_refl _,rfl⟩,by simp⟩ ?_
 rintro ⟨i,⟨x',u⟩,z⟩ ⟨h0,hz⟩
 have hz:x'=x:=hz
 subst hz
 simp only [zgI,Wp,zo,Prod.eta,m1,Bool.cond_self,true_and]
 refine ⟨fun c=>?_,fun _=>⟨_,rfl,trivial⟩⟩
 obtain ⟨c1,c2⟩:=bv c
 obtain ⟨h1,h2,h3⟩:=AN h0 c1 (by omega)
 obtain ⟨g1,_⟩:=BL (m2 c2).key
 rw [h1,h2]
 refine ⟨Lk fun k=>?_,fun _=>⟨_,rfl,trivial⟩,fun _=>⟨⟨by omega,trivial⟩,by omega⟩⟩
 exact eT g1 (dG k)

def A0 (x:Sem zh):Prop:=Dc x.1∧∀ r∈x.2,length r=x.1.2.1.length
theorem Kq {x:Sem zh} (h:WfR x):EG x=true∧(B9 x=0→A0 x):=by
 have hl:=h.rows
 have hu:=h.tab.uq
 obtain ⟨m1,m2⟩:=tc h.tab
 refine KI (a:=zg) (Q:=fun b=>b=0→A0 x) (fun y:tS=>match y with
  | .h6 i z=>LE.le (α:=Int) 0 i∧LE.le (α:=Int) i x.2.length∧z.1=x∧Dc x.1∧nY (fun r:List (Sem zf)=>r.length=x.1.2.1.length) (zj zf.sl) x.2 i
  | .h14 i z=>LE.le (α:=Int) 0 i∧LE.le (α:=Int) i x.1.2.2.2.1.length∧z.1=x∧A0 x
  | .h19 i z=>LE.le (α:=Int) 1 i∧z.1=x∧A0 x)
  (fun y=>match y with | .h6 i _=>5001 - i.toNat | .h14 i _=>3001 - i.toNat | .h19 i _=>1001 - i.toNat) ?_ ?_
 ·simp only [zeh,Wp,zo,Prod.eta,m1,true_and]
  exact ⟨fun _=>⟨_,rfl,fun h=>(by cases h)⟩,fun c=>⟨fun _=>⟨_,rfl,fun h=>(by cases h)⟩,fun _=>⟨⟨Int.le_refl _,by omega,m2 (by simpa using c),nY.zero⟩,by simp⟩⟩⟩
 ·rintro (⟨i,⟨x',u⟩⟩ | ⟨i,⟨x',u⟩⟩ | ⟨i,⟨x',u⟩⟩) hI
  ·obtain ⟨h0,hb,hz,hk,hp⟩:=hI
   have hz:x'=x:=hz
   subst hz
   simp only [Zr,Wp,zo,Prod.eta]
   refine ⟨fun hc=>?_,fun hc=>?_⟩
   ·obtain ⟨h1,h2,h3⟩:=AN h0 hc (by omega)
    obtain ⟨f1,f2⟩:=Ot (r:=x'.2.getD i.toNat (zj zf.sl)) h.tab (h.vals _ (bc (by omega)))
    rw [h1,h2,f1]
    refine ⟨rfl,rfl,fun c=>⟨_,rfl,fun e=>?_⟩,fun c=>⟨⟨by omega,by omega,trivial,hk,hp.next h0 (f2 ?_).2⟩,by omega⟩⟩
    ·rw [show GI x'.1 (getD x'.2 i.toNat (zj zf.sl))=0 from e] at c; cases c
    ·simpa using c
   ·have hg:A0 x':=⟨hk,hp.all hc⟩
    refine ⟨Ay hl fun r hr=>by rw [hg.2 r hr]; exact hk.key,fun _=>⟨_,rfl,fun h=>(by cases h)⟩,fun _=>⟨⟨Int.le_refl _,by omega,trivial,hg⟩,by simp; omega⟩⟩
  ·obtain ⟨h0,hb,hz,hg⟩:=hI
   have hz:x'=x:=hz
   subst hz
   refine ⟨fun hc=>?_,fun hc=>⟨⟨Int.le_refl _,rfl,hg⟩,by show 1001 - toNat 1 < 3001 - i.toNat; omega⟩⟩
   obtain ⟨h1,h2,h3⟩:=AN (n:=x'.1.2.2.2.1.length) h0 hc (by omega)
   refine ⟨h1,Ay hl fun r hr=>by rw [hg.2 r hr]; exact hg.1.uq _ (bc (by omega)),fun _=>⟨_,rfl,fun h=>(by cases h)⟩,fun _=>?_⟩
   rw [h2]
   exact ⟨⟨by omega,by omega,rfl,hg⟩,by show 3001 - toNat (i+1) < 3001 - i.toNat; omega⟩
  ·obtain ⟨h0,hz,hg⟩:=hI
   have hz:x'=x:=hz
   subst hz
   simp only [Zr,Wp,zo,Prod.eta]
   refine ⟨fun hc=>?_,fun _=>⟨_,rfl,fun _=>hg⟩⟩
   obtain ⟨h1,h2,h3⟩:=AN (by omega) hc (by omega)
   rw [Ph h0 (by omega)]
   obtain ⟨k1,k2⟩:=IU (r:=x'.2.getD (i - 1).toNat (zj zf.sl)) h.tab (h.vals _ (bc (by omega)))
   obtain ⟨k3,k4⟩:=IU (r:=x'.2.getD i.toNat (zj zf.sl)) h.tab (h.vals _ (bc (by omega)))
   rw [h1,h2,k1,k3,Kj k2 k4]
   exact ⟨eT (by omega) (by omega),rfl,rfl,rfl,rfl,fun _=>⟨_,rfl,fun h=>(by cases h)⟩,fun _=>⟨⟨by omega,trivial,hg⟩,by omega⟩⟩

theorem pL (s:zn):∀ (l:List (Sem zh)) (i:Int),LE.le (α:=Int) 0 i→LT.lt (α:=Int) (dK s l i) (i+l.length)∨dK s l i=-1
 | [],_,_=>.inr rfl
 | x::r,i,h=>by
  rw [dK]
  split
  ·exact .inl (by simp; omega)
  ·rcases pL s r (i+1) (by omega) with h | h
   ·exact .inl (by rw [lp]; push_cast; omega)
   ·exact .inr h

theorem Kt {db:List (Sem zh)} (hl:db.length≤12) (h:∀ x∈db,WfR x∧A0 x):EH db=true:=by
 refine CQ (a:=Sh.bool) (fun y:tT=>match y with
  | .h2 l i=>LE.le (α:=Int) 0 i∧l=db
  | .h5 l i j=>LE.le (α:=Int) 0 i∧LT.lt (α:=Int) i db.length∧LE.le (α:=Int) 0 j∧LE.le (α:=Int) j (db.getD i.toNat (zj zh)).1.2.2.2.2.1.length∧l=db
  | .h12 l i j g k z=>LE.le (α:=Int) 0 i∧LT.lt (α:=Int) i db.length∧LE.le (α:=Int) 0 j∧LT.lt (α:=Int) j (db.getD i.toNat (zj zh)).1.2.2.2.2.1.length∧l=db∧zE g db.length=true∧LE.le (α:=Int) 0 k∧LE.le (α:=Int) k (db.getD i.toNat (zj zh)).2.length∧z.1∈(db.getD i.toNat (zj zh)).1.2.2.2.2.1)
  (fun y=>match y with | .h2 _ i=>(13 - i.toNat) * 3000000 | .h5 _ i j=>(13 - i.toNat) * 3000000 - 1 - j.toNat * 2000 | .h12 _ i j _ k _=>(13 - i.toNat) * 3000000 - 2 - j.toNat * 2000 - k.toNat) ⟨⟨Int.le_refl _,rfl⟩,by simp⟩ ?_
 rintro (⟨l,i⟩ | ⟨l,i,j⟩ | ⟨l,i,j,g,k,⟨f,u⟩⟩) hI
 ·obtain ⟨h0,rfl⟩:=hI
  simp only [R0,Wp]
  refine ⟨fun hc=>?_,fun _=>⟨_,rfl,trivial⟩⟩
  have hc:LT.lt (α:=Int) i l.length:=dG hc
  exact ⟨⟨h0,hc,Int.le_refl _,by omega,trivial⟩,by rw [Int.toNat_zero]; omega⟩
 ·obtain ⟨h0,hi,hj,hjl,rfl⟩:=hI
  obtain ⟨hw,hg⟩:=h _ (bc (i:=i.toNat) (d:=zj zh) (by omega))
  have hr:=hw.tab.rf
  simp only [R0,Wp,eT h0 hi,xE h0 (show LT.lt (α:=Int) i _ by omega),true_and]
  refine ⟨fun hc=>?_,fun _=>⟨⟨by omega,trivial⟩,by omega⟩⟩
  obtain ⟨h1,h2,h3⟩:=AN hj hc (by omega)
  refine ⟨h1,fun _=>⟨_,rfl,trivial⟩,fun c=>⟨⟨h0,hi,hj,h3,?_,Int.le_refl _,by omega,bc (by omega)⟩,by omega⟩⟩
  have hc':¬ LT.lt (α:=Int) (wR l (getD (l.getD i.toNat (zj zh)).1.2.2.2.2.1 j.toNat (zj zp)).2) 0:=of_decide_eq_false c
  refine eT (by omega) ?_
  rcases pL (getD (l.getD i.toNat (zj zh)).1.2.2.2.2.1 j.toNat (zj zp)).2 l 0 (Int.le_refl _) with e | e
  ·rw [Int.zero_add] at e; exact e
  ·exact (hc' (by show LT.lt (α:=Int) (dK _ l 0) 0; rw [e]; decide)).elim
 ·obtain ⟨h0,hi,hj,hjl,rfl,hg2,hk,hkl,hf⟩:=hI
  have hf:f∈(l.getD i.toNat (zj zh)).1.2.2.2.2.1:=hf
  obtain ⟨hw,hg⟩:=h _ (bc (i:=i.toNat) (d:=zj zh) (by omega))
  have hr:=hw.tab.rf
  have hrr:=hw.rows
  obtain ⟨g1,g2⟩:=BL hg2
  obtain ⟨hw2,_⟩:=h _ (bc (i:=g.toNat) (d:=zj zh) (by omega))
  simp only [R0,Wp,zo,Prod.eta,eT h0 hi,hg2,Ou hw2.tab hw2.rows,rN,Bool.cond_self,xE hj (show LT.lt (α:=Int) j _ by omega),true_and]
  refine ⟨fun hc=>?_,fun _=>⟨⟨h0,hi,by omega,by omega,trivial⟩,by omega⟩⟩
  obtain ⟨h1,h2,h3⟩:=AN hk hc (by omega)
  rw [h1,h2]
  refine ⟨rfl,?_,fun _=>⟨_,rfl,trivial⟩,fun _=>⟨⟨h0,hi,hj,hjl,by omega,by omega,hf⟩,by omega⟩⟩
  rw [hg.2 _ (bc (by omega))]
  exact hg.1.rf f hf

theorem Ku {db:List (Sem zh)} (hw:∀ x∈db,WfR x):EI db=true∧(Cc db=0→∀ x∈db,A0 x):=by
 refine KI (a:=zg) (Q:=fun b=>b=0→∀ x∈db,A0 x) (fun y:Qq=>match y with
  | .h4 l i=>LE.le (α:=Int) 1 i∧LE.le (α:=Int) i 1000∧l=db∧db.length≤12
  | .h9 l i=>LE.le (α:=Int) 0 i∧l=db∧db.length≤12∧nY A0 (zj zh) db i)
  (fun y=>match y with | .h4 _ i=>5001 - i.toNat | .h9 _ i=>1001 - i.toNat) ⟨fun _=>⟨_,rfl,fun h=>(by cases h)⟩,fun c=>⟨⟨by decide,by decide,rfl,?_⟩,by simp⟩⟩ ?_
 ·have:=of_decide_eq_false c
  omega
 ·rintro (⟨l,i⟩ | ⟨l,i⟩) hI
  ·obtain ⟨h0,hb,rfl,hl⟩:=hI
   refine ⟨fun hc=>?_,fun hc=>⟨⟨Int.le_refl _,rfl,hl,nY.zero⟩,by show 1001 - toNat 0 < 5001 - i.toNat; omega⟩⟩
   obtain ⟨h1,h2,h3⟩:=AN (by omega) hc (by omega)
   simp only [Wp,h1,h2,Ph h0 (show LT.lt (α:=Int) i _ by omega),true_and]
   exact ⟨eT (by omega) (by omega),fun _=>⟨_,rfl,fun h=>(by cases h)⟩,fun _=>⟨⟨by omega,by omega,hl⟩,by omega⟩⟩
  ·obtain ⟨h0,rfl,hl,hp⟩:=hI
   simp only [t9p,Wp,zo,Prod.eta]
   refine ⟨fun hc=>?_,fun hc=>?_⟩
   ·obtain ⟨h1,h2,h3⟩:=AN h0 hc (by omega)
    obtain ⟨k1,k2⟩:=Kq (hw _ (bc (i:=i.toNat) (d:=zj zh) (by omega)))
    rw [h1,h2,k1]
    refine ⟨rfl,rfl,fun c=>⟨_,rfl,fun e=>?_⟩,fun c=>⟨⟨by omega,trivial,hl,hp.next h0 (k2 (by simpa using c))⟩,by omega⟩⟩
    rw [show B9 (l.getD i.toNat (zj zh))=0 from e] at c
    cases c
   ·have hg:=hp.all hc
    exact ⟨Kt hl fun x hx=>⟨hw x hx,hg x hx⟩,fun _=>⟨_,rfl,fun h=>(by cases h)⟩,fun _=>⟨_,rfl,fun _=>hg⟩⟩

mutual
def IE:ze→Prop
 | .mk _ v _ l=>bM .i64 v.2.1∧sL l
def sL:List ze→Prop
 | []=>True
 | e::r=>IE e∧sL r
end
theorem Ki {op:zn} {n:Nat} (h:cn op=(n:Int)):(n=0∧(op=[108,105,116]∨op=[99,111,108]))∨(n=1∧(op=[110,111,116]∨op=[110,117,108,108]))∨n=2∧(op=[97,110,100]∨op=[111,114]∨op=[61]∨op=[60]∨op=[43]∨op=[45]):=by
 unfold cn Er at h
 simp only [UW] at h
 repeat' split at h
 all_goals first | (rename_i c; have c:=cB c; subst c; simp; omega) | (exfalso; omega)

theorem Ny {g:ze→Int→Int→Bool×Int} {d n m:Int} {x:ze} {r:List ze} (h:lH g d (x::r) n=(true,m)):∃ p,g x (IntKind.i64.wrap (d+1)) n=(true,p)∧lH g d r p=(true,m):=by
 rw [lH] at h
 split at h
 ·cases h
 ·rename_i c
  refine ⟨_,Prod.ext ?_ rfl,h⟩
  simpa using c
theorem Ux {g:ze→Int→Int→Bool×Int} {d n m:Int} (h:lH g d [] n=(true,m)):n=m:=by
 rw [lH] at h
 cases h
 rfl

theorem MS {c:Bool} {x m:Int} {y:Bool×Int} (h:(if c=true then (false,x) else y)=(true,m)):c=false∧y=(true,m):=by
 cases c with
 | true=>cases h
 | false=>exact ⟨rfl,h⟩

theorem Rr (g:ze→Int→Int→Bool×Int) (op:zn) (v:Int×Int×zn) (s:zn) (l:List ze) (d n:Int):BW g (.mk op v s l) d n=
  if (bif decide (d > 12) then true else bif decide (IntKind.i64.wrap (n+1) > 60) then true else ((l.length:Int) != cn op))=true then (false,IntKind.i64.wrap (n+1)) else
  if (op==[108,105,116])=true then (bif s==[] then fC v else false,IntKind.i64.wrap (n+1)) else
  if (op==[99,111,108])=true then (bif nL v then bif gU s then !wY s else false else false,IntKind.i64.wrap (n+1)) else
  if (bif !nL v then true else !s==[])=true then (false,IntKind.i64.wrap (n+1)) else lH g d l (IntKind.i64.wrap (n+1)):=rfl

theorem Hz:∀ (N:Nat) (e:ze) (d n m:Int),kj N e d n=(true,m)→IE e→0≤n→n≤60→n+1≤m∧m≤60∧∀ (r:zn) (k:Nat),cL r→cA r (k+5 * (m - n).toNat)→cA (bC N e++r) k
 | 0,_,_,_,_,h,_,_,_=>by cases h
 | N + 1,.mk op v s l,d,n,m,h,hI,h0,h1=>by
  rw [IE] at hI
  obtain ⟨hv,hl⟩:=hI
  rw [kj] at h
  rw [Rr] at h
  have w:IntKind.i64.wrap (n+1)=n+1:=by rw [rL]; omega
  rw [w] at h
  obtain ⟨hc,h⟩:=MS h
  have hc:=dC (dC hc).2
  have hn:n+1≤60:=by have:=of_decide_eq_false hc.1; omega
  have hp:cn op=(l.length:Int):=(by simpa using hc.2:(l.length:Int)=cn op).symm
  rcases Ki hp with ⟨q,rfl | rfl⟩ | ⟨q,hop⟩ | ⟨q,hop⟩
  ·rw [if_pos (by rfl)] at h
   have h2:(bif s==[] then fC v else false)=true:=congrArg Prod.fst h
   have h3:n+1=m:=congrArg Prod.snd h
   subst h3
   refine ⟨by omega,hn,fun r k hr hk=>?_⟩
   have ht:bC (N+1) (.mk [108,105,116] v s l)=fV v:=rfl
   rw [ht]
   exact cA.val (bv h2).2 hv hr (hk.mono (by omega))
  ·rw [if_neg (by decide),if_pos (by rfl)] at h
   have h2:(bif nL v then bif gU s then !wY s else false else false)=true:=congrArg Prod.fst h
   have h3:n+1=m:=congrArg Prod.snd h
   subst h3
   refine ⟨by omega,hn,fun r k hr hk=>?_⟩
   have ht:bC (N+1) (.mk [99,111,108] v s l)=s:=rfl
   rw [ht]
   exact cA.word (bv (bv h2).2).1 hr (hk.mono (by omega))
  ·obtain ⟨a,rfl⟩:∃ a,l=[a]:=List.length_eq_one_iff.1 q
   have ka:IE a:=by rw [sL] at hl; exact hl.1
   have h:lH (kj N) d [a] (n+1)=(true,m):=by
    rcases hop with rfl | rfl <;> (rw [if_neg (by decide),if_neg (by decide)] at h; exact (MS h).2)
   obtain ⟨p,h2,h3⟩:=Ny h
   have h3:=Ux h3
   subst h3
   obtain ⟨i1,i2,i3⟩:=Hz N a _ _ _ h2 ka (by omega) (by omega)
   refine ⟨by omega,i2,fun r k hr hk=>?_⟩
   rcases hop with rfl | rfl
   ·have ht:bC (N+1) (.mk [110,111,116] v s [a])++r=40::([78,79,84]++32::(bC N a++41::r)):=by
     show ([40,78,79,84,32]++bC N a++[41])++r=_
     simp
    rw [ht]
    refine cA.sign (by simp) (cA.word (by kernel_rfl) (cL.sp _) (cA.sp (i3 _ _ (cL.pa _) (cA.sign (by simp) (hk.mono (by omega))))))
   ·have ht:bC (N+1) (.mk [110,117,108,108] v s [a])++r=40::(bC N a++32::([73,83]++32::([78,85,76,76]++41::r))):=by
     show ([40]++bC N a++[32,73,83,32,78,85,76,76,41])++r=_
     simp
    rw [ht]
    refine cA.sign (by simp) (i3 _ _ (cL.sp _) (cA.sp (cA.word (by kernel_rfl) (cL.sp _) (cA.sp (cA.word (by kernel_rfl) (cL.pa _) (cA.sign (by simp) (hk.mono (by omega))))))))
  ·obtain ⟨a,b,rfl⟩:∃ a b,l=[a,b]:=by
    match l,q with
    | [a,b],_=>exact ⟨a,b,rfl⟩
   have ka:IE a:=by rw [sL] at hl; exact hl.1
   have kb:IE b:=by rw [sL,sL] at hl; exact hl.2.1
   have h:lH (kj N) d [a,b] (n+1)=(true,m):=by
    rcases hop with rfl | rfl | rfl | rfl | rfl | rfl <;> (rw [if_neg (by decide),if_neg (by decide)] at h; exact (MS h).2)
   obtain ⟨p,h2,h3⟩:=Ny h
   obtain ⟨p2,h4,h5⟩:=Ny h3
   have h5:=Ux h5
   subst h5
   obtain ⟨i1,i2,i3⟩:=Hz N a _ _ _ h2 ka (by omega) (by omega)
   obtain ⟨j1,j2,j3⟩:=Hz N b _ _ _ h4 kb (by omega) (by omega)
   refine ⟨by omega,j2,fun r k hr hk=>?_⟩
   have key:∀ u:zn,(∀ r k,cA r (k+1)→cA (u++32::r) k)→cA ([40]++bC N a++[32]++u++[32]++bC N b++[41]++r) k:=by
    intro u hu
    have ht:[40]++bC N a++[32]++u++[32]++bC N b++[41]++r=40::(bC N a++32::(u++32::(bC N b++41::r))):=by simp
    rw [ht]
    exact cA.sign (by simp) (i3 _ _ (cL.sp _) (cA.sp (hu _ _ (j3 _ _ (cL.pa _) (cA.sign (by simp) (hk.mono (by omega)))))))
   have wd:∀ u:zn,gU u=true→∀ r k,cA r (k+1)→cA (u++32::r) k:=fun u hu r k h=>cA.word hu (cL.sp _) (cA.sp h)
   have sg:∀ c:UInt8,(c=40∨c=41∨c=44∨c=61∨c=60∨c=43∨c=45∨c=42)→∀ r k,cA r (k+1)→cA ([c]++32::r) k:=fun c hc r k h=>cA.sign hc (cA.sp h)
   rcases hop with rfl | rfl | rfl | rfl | rfl | rfl
   ·exact key [65,78,68] (wd _ (by kernel_rfl))
   ·exact key [79,82] (wd _ (by kernel_rfl))
   ·exact key [61] (sg _ (by simp))
   ·exact key [60] (sg _ (by simp))
   ·exact key [43] (sg _ (by simp))
   ·exact key [45] (sg _ (by simp))

theorem ld {a0 a1 a2 a3 a4 a5 a6 a7 a8 a9 b0 b1 b2 b3 b4 b5 b6 d0 d1 d2 d3 d4 d5 d6 d7 d8 d9}:∀ (l:List (Sem zp)) (i:Int) (acc:List (Sem zp)),(acc.length:Int)≤i→acc.length≤10→
  (eF a0 a1 a2 a3 a4 a5 a6 a7 a8 a9 b0 b1 b2 b3 b4 b5 b6 d0 d1 d2 d3 d4 d5 d6 d7 d8 d9 l i acc).2.2.2.1=d9∧length (eF a0 a1 a2 a3 a4 a5 a6 a7 a8 a9 b0 b1 b2 b3 b4 b5 b6 d0 d1 d2 d3 d4 d5 d6 d7 d8 d9 l i acc).2.2.2.2.1≤10
 | [],_,_,_,ha=>⟨rfl,ha⟩
 | x::r,i,acc,h,ha=>by
  rw [eF]
  split
  ·rename_i hi
   simp only [zZ] at hi
   exact ld r (i+1) _ (by simp; omega) (by simp; omega)
  ·exact ⟨rfl,ha⟩
theorem p8 {a0 a1 a2 a3 a4 a5 a6 a7 a8 a9 b0 b1 b2 b3 b4 b5 b6 d0 d1 d2 d3 d4 d5 d6 d7 d8 d9}:∀ (l:List (Sem zg)) (i:Int) (acc:List (Sem zg)),(acc.length:Int)≤i→acc.length≤10→
  length (dV a0 a1 a2 a3 a4 a5 a6 a7 a8 a9 b0 b1 b2 b3 b4 b5 b6 d0 d1 d2 d3 d4 d5 d6 d7 d8 d9 l i acc).2.2.2.1≤10∧length (dV a0 a1 a2 a3 a4 a5 a6 a7 a8 a9 b0 b1 b2 b3 b4 b5 b6 d0 d1 d2 d3 d4 d5 d6 d7 d8 d9 l i acc).2.2.2.2.1≤10
 | [],i,acc,h,ha=>by
  rw [dV]
  obtain ⟨h1,h2⟩:=ld (a0:=a0) (a1:=a1) (a2:=a2) (a3:=d9) (a4:=a4) (a5:=a5) (a6:=a6) (a7:=a7) (a8:=a8) (a9:=a9) (b0:=b0) (b1:=b1) (b2:=b2) (b3:=b3) (b4:=b4) (b5:=b5) (b6:=b6) (d0:=d0) (d1:=d1) (d2:=d2) (d3:=d3) (d4:=d4) (d5:=d5) (d6:=d6) (d7:=d7) (d8:=d8) (d9:=acc) a3 0 [] (by simp) (by simp)
  rw [h1]
  exact ⟨ha,h2⟩
 | x::r,i,acc,h,ha=>by
  rw [dV]
  split
  ·rename_i hi
   simp only [zZ] at hi
   exact p8 r (i+1) _ (by simp; omega) (by simp; omega)
  ·obtain ⟨h1,h2⟩:=ld (a0:=a0) (a1:=a1) (a2:=a2) (a3:=d9) (a4:=a4) (a5:=a5) (a6:=a6) (a7:=a7) (a8:=a8) (a9:=a9) (b0:=b0) (b1:=b1) (b2:=b2) (b3:=b3) (b4:=b4) (b5:=b5) (b6:=b6) (d0:=d0) (d1:=d1) (d2:=d2) (d3:=d3) (d4:=d4) (d5:=d5) (d6:=d6) (d7:=d7) (d8:=d8) (d9:=acc) a3 0 [] (by simp) (by simp)
   rw [h1]
   exact ⟨ha,h2⟩
theorem Hc (t:Sem zt):length (iD t).2.2.2.1≤10∧length (iD t).2.2.2.2.1≤10:=by
 unfold iD
 exact p8 _ _ _ (by simp) (by simp)

def AZ (l rows:List (Sem (.sl zf))):Prop:=rows.length≤201∧∀ r∈rows,∃ r0∈l,r=nN r0
theorem zhx (n:Nat) (i4:Int) (hi4:i4≤201) (h0:0≤i4) (z0:zu cpR) (z1:zu Xh) (t:Sem zt) (hn:300≤n):∃ rows:List (Sem (.sl zf)),AZ z0.1.2 rows∧∃ r,bU KD n (.h6 i4 0 z0 z1 (t,[],()))=some r∧ae r.2 [zh] r.1=some (((t,rows):Sem zh),()):=by
 obtain ⟨N,hN⟩:∃ N:Nat,i4=(N:Int):=⟨toNat i4,by omega⟩
 have h:=pp (t:=KD) (β:=List (Sem (.sl zf))) (min N (length z0.1.2)) (fun b i=>.h6 i4 (i:Int) z0 z1 (t,b,())) (fun b i=>b.length=i∧∀ r∈b,∃ r0∈z0.1.2,r=nN r0) (fun r=>∃ rows:List (Sem (.sl zf)),AZ z0.1.2 rows∧ae r.2 [zh] r.1=some (((t,rows):Sem zh),())) 1 (by
   intro b i hi hb
   have h1:(i:Int) < (length z0.1.2:Int):=by omega
   have h2:(i:Int) < i4:=by omega
   have h3:zE (i:Int) (length z0.1.2)=true:=zG (by omega)
   refine Or.inl ⟨b++[nN (getD z0.1.2 (i:Int).toNat (zj zf.sl))],⟨by simp [hb.1],fun r hr=>?_⟩,?_⟩
   ·rcases bB.1 hr with hr | hr
    ·exact hb.2 r hr
    ·rw [bN] at hr
     refine ⟨_,?_,hr⟩
     rw [bl,aB,zI (by omega),bA]
     exact cx _
   simp only [KD,Tr.val,aZ h1,aZ h2,bO,if_true,h3]
   rw [zH i (by unfold zF; omega),if_pos (by simp; omega)]) (by
   intro b n hb hn
   obtain ⟨n,rfl⟩:∃ k,n=k+1:=⟨n - 1,by omega⟩
   rw [qU]
   have hf:(bif decide (((min N (length z0.1.2):Nat):Int) < (length z0.1.2:Int)) then decide (((min N (length z0.1.2):Nat):Int) < i4) else false)=false:=by
    by_cases h:N≤length z0.1.2
    ·rw [Nat.min_eq_left h,hN]
     simp
    ·rw [Nat.min_eq_right (by omega)]
     simp
   simp only [KD,Tr.val,hf]
   refine ⟨_,rfl,b,⟨by have:=hb.1; omega,hb.2⟩,?_⟩
   obtain ⟨t0,t1,t2,t3,t4,t5⟩:=t
   cases t5
   rfl) (min N (length z0.1.2)) 0 [] n rfl (aD _) ⟨rfl,by simp⟩ (by omega)
 obtain ⟨r,h1,rows,h2,h3⟩:=h
 exact ⟨rows,h2,r,h1,h3⟩

theorem me (x:Sem zh):∃ rows:List (Sem (.sl zf)),AZ x.2 rows∧vP x=some (((iD x.1,rows):Sem zh),()):=by
 have e:iD (x.1.1,x.1.2.1,x.1.2.2.1,x.1.2.2.2.1,x.1.2.2.2.2.1,zB x.1.2.2.2.2.2)=iD x.1:=by rw [zo]
 have hv:∃ k:Int,0≤k∧k≤201∧(XS x).val=some (.inl (.h6 k 0 (x,()) ([],0,[],0,0,[],[],()) (iD x.1,[],()))):=by
  simp only [XS,Tr.val,e]
  split
  ·exact ⟨201,by omega,by omega,rfl⟩
  ·exact ⟨40,by omega,by omega,rfl⟩
 obtain ⟨k,k1,k2,hv⟩:=hv
 obtain ⟨rows,h1,r,h2,h3⟩:=zhx 100000000 k k2 k1 (x,()) ([],0,[],0,0,[],[],()) (iD x.1) (by omega)
 refine ⟨rows,h1,?_⟩
 unfold vP zT cd
 rw [hv]
 show (bU KD 100000000 _).bind _=_
 rw [h2]
 exact h3

theorem Ee (x:Sem zh):eR (gL x):=by
 obtain ⟨rows,h1,h2⟩:=me x
 have h3:gL x=(iD x.1,rows):=by unfold gL; rw [h2]; rfl
 rw [h3]
 obtain ⟨k1,k2⟩:=Hc x.1
 exact ⟨by show length (iD x.1).2.2.2.1≤_; omega,by show length (iD x.1).2.2.2.2.1≤_; omega,by show rows.length≤_; have:=h1.1; omega⟩
theorem Ed (x:Sem zh):Gq x=true:=by
 obtain ⟨rows,h1,h2⟩:=me x
 unfold Gq
 rw [h2]; rfl

theorem Np (db:List (Sem zh)):∃ db':List (Sem zh),vQ db=some (db',())∧db'.length≤13∧∀ x∈db',∃ y∈db,x=gL y:=by
 have h:=pp (t:=t7p) (β:=List (Sem zh)) (min 13 db.length) (fun b i=>.h3 db (i:Int) b) (fun b i=>b.length=i∧∀ x∈b,∃ y∈db,x=gL y) (fun r=>∃ db':List (Sem zh),ae r.2 [zh.sl] r.1=some (db',())∧db'.length≤13∧∀ x∈db',∃ y∈db,x=gL y) 1 (by
   intro b i hi hb
   have h1:(i:Int) < (db.length:Int):=by omega
   have h2:(i:Int) < 13:=by omega
   have h3:zE (i:Int) db.length=true:=zG (by omega)
   refine Or.inl ⟨b++[gL (db.getD (i:Int).toNat (zj zh))],⟨by simp [hb.1],?_⟩,?_⟩
   ·intro x hx
    rcases bB.1 hx with hx | hx
    ·exact hb.2 x hx
    ·rw [bN] at hx
     refine ⟨_,?_,hx⟩
     rw [bl,aB,zI (by omega),bA]
     exact cx _
   ·simp only [t7p,Tr.val,aZ h1,aZ h2,bO,if_true,h3,zo,Prod.eta,Ed]
    rw [zH i (by unfold zF; omega),if_pos (by simp; omega)]) (by
   intro b n hb hn
   obtain ⟨n,rfl⟩:∃ k,n=k+1:=⟨n - 1,by omega⟩
   rw [qU]
   have hf:(bif decide (((min 13 db.length:Nat):Int) < (db.length:Int)) then decide (((min 13 db.length:Nat):Int) < 13) else false)=false:=by
    by_cases h:13≤db.length
    ·rw [Nat.min_eq_left h]
     simp
    ·rw [Nat.min_eq_right (by omega)]
     simp
   simp only [t7p,Tr.val,hf]
   exact ⟨_,rfl,b,rfl,by omega,hb.2⟩) (min 13 db.length) 0 [] 100000000 rfl (aD _) ⟨rfl,by simp⟩ (by omega)
 obtain ⟨r,h1,db',h2,h3,h4⟩:=h
 refine ⟨db',?_,h3,h4⟩
 unfold vQ zT cd
 simp only [i7p,Tr.val]
 have h1':bU t7p 100000000 (.h3 db 0 [])=some r:=h1
 rw [h1']
 exact h2

theorem kS (s:zn):dY s=true:=by
 unfold dY
 split
 ·rename_i h
  have:20 < s.length:=by simp at h; omega
  rw [if_pos (by simp; omega)]
 ·rfl
theorem lz:∀ (l:List zn) (i:Int) (acc:List zn),(acc.length:Int)≤i→ez l i acc=true
 | [],_,_,_=>rfl
 | x::r,i,acc,h=>by
  rw [ez]
  split
  ·rename_i hi
   simp only [zZ] at hi
   rw [if_pos (kS x),if_pos (by simp; omega)]
   exact lz r (i+1) _ (by simp; omega)
  ·rfl
theorem xX (l:List zn):md l=true:=lz l 0 [] (by simp)
theorem se:∀ (l:List (Sem zf)) (i:Int) (acc:List (Sem zf)),(acc.length:Int)≤i→acc.length≤14→length (gB l i acc)≤14
 | [],_,acc,_,h=>h
 | x::r,i,acc,h,hl=>by
  rw [gB]
  split
  ·rename_i hi
   simp only [zZ] at hi
   exact se r (i+1) _ (by simp; omega) (by simp; omega)
  ·exact hl
theorem J8 (l:List (Sem zf)):length (nN l)≤14:=se l 0 [] (by simp) (by simp)

theorem HO {g:Sem Sh.expr→Sem zg→Sem zg→Sem Sh.expr×Sem zg} {c:Sem Sh.expr→Sem zg→Sem zg→Bool} {i1:Int} {N:Nat} (h:∀ x n,0 < i1→lR N (g x (IntKind.i64.wrap (i1 - 1)) n).1=true) {a0 a1 a2 a3 a4 b0 b1 b2 b3 b4 d0 d1 d2 d3 d4}:
  ∀ (l:List (Sem Sh.expr)) (i n:Int) (acc:List (Sem Sh.expr)),(acc.length:Int)≤i→acc.length≤3→(∀ x∈acc,lR N x=true)→lR (N+1) (bm g c i1 a0 a1 a2 a3 a4 b0 b1 b2 b3 b4 d0 d1 d2 d3 d4 l i n acc).1=true
 | [],_,_,acc,_,hl,ha=>by
  rw [bm]
  show (decide (acc.length≤1073741824)&&acc.all (lR N))=true
  rw [cR.2 ha]
  simp; omega
 | x::r,i,n,acc,hi,hl,ha=>by
  rw [bm]
  split
  ·rename_i hk
   have h3:i < 3∧i1 > 0:=by
    cases h1:decide (i < 3) <;> cases h2:decide (i1 > 0) <;> simp_all
   refine HO h r (i+1) _ _ (by simp; omega) (by simp; omega) (fun y hy=>?_)
   rcases bB.1 hy with hy | hy
   ·exact ha y hy
   ·rw [bN] at hy
    rw [hy]; exact h x n h3.2
  ·show (decide (acc.length≤1073741824)&&acc.all (lR N))=true
   rw [cR.2 ha]
   simp; omega
theorem Q9 {g:Sem Sh.expr→Sem zg→Sem zg→Sem Sh.expr×Sem zg} {c:Sem Sh.expr→Sem zg→Sem zg→Bool} {i1:Int} {N:Nat} (h:∀ x n,0 < i1→lR N (g x (IntKind.i64.wrap (i1 - 1)) n).1=true) (e:ze) (n:Int):lR (N+1) (xU g c e i1 n).1=true:=by
 unfold xU
 repeat' split
 all_goals exact HO h _ _ _ _ (by simp) (by simp) (by simp)
theorem HR:∀ (N:Nat) (e:ze) (d n:Int),0≤d→d < N→N≤100→lR N (gq N e d n).1=true
 | 0,_,_,_,h1,h2,_=>by omega
 | N+1,e,d,n,h1,h2,h3=>by
  rw [gq]
  refine Q9 (fun x m hd=>?_) e n
  rw [ll _ (by omega) (by omega)]
  exact HR N x (d - 1) m (by omega) (by omega) (by omega)
theorem QY (e:ze):lR 16 (bg e)=true:=by
 have h:=HR 16 e 14 80 (by omega) (by omega) (by omega)
 unfold bg
 rw [ze.eta]
 exact h

structure zkZ (s:Sem zy):Prop where
 sh:gZ s
 cp:lR 16 s.2.2.2.2.2.2.2.2.1=true

abbrev Xo (s:Sem zy):zn×zn×zn×List zn×List (Sem zi)×zn×List zn:=(cN s.1,cN s.2.1,cN s.2.2.1,kR s.2.2.2.1,sb s.2.2.2.2.1,cN s.2.2.2.2.2.1,kR s.2.2.2.2.2.2.1)

structure zkP (s0 s:Sem zy):Prop where
 chk:s.2.2.2.2.2.2.2.2.1=bg s0.2.2.2.2.2.2.2.2.1
 row:s.2.2.2.2.2.2.2.2.2.1=nN s0.2.2.2.2.2.2.2.2.2.1
 whr:s.2.2.2.2.2.2.2.2.2.2.2.1=bg s0.2.2.2.2.2.2.2.2.2.2.2.1
 sets:∀ x∈s.2.2.2.2.2.2.2.2.2.2.1,∃ y∈s0.2.2.2.2.2.2.2.2.2.2.1,(x:Sem aQ).2=bg (y:Sem aQ).2
 fr:(s.1,s.2.1,s.2.2.1,s.2.2.2.1,s.2.2.2.2.1,s.2.2.2.2.2.1,s.2.2.2.2.2.2.1)=Xo s0


theorem lM.app:∀ {a b:List ze},lM a→lM b→lM (a++b)
 | [],_,_,h=>h
 | x::r,b,h,hb=>by
  rw [lM] at h
  rw [List.cons_append,lM]
  exact ⟨h.1,h.2.app hb⟩

theorem HQ {g:Sem Sh.expr→Sem zg→Sem zg→Sem Sh.expr×Sem zg} {c:Sem Sh.expr→Sem zg→Sem zg→Bool} {i1:Int} {a0:zn} {a1 a2:Int} {a3 a4 b0:zn} {b1 b2:Int} {b3 b4 d0:zn} {d1 d2:Int} {d3 d4:zn} (hv:VS (d1,d2,d3)) (hs:d4.length≤1000000):
  ∀ (l:List (Sem Sh.expr)) (i n:Int) (acc:List (Sem Sh.expr)),(∀ x∈l,∀ m,oO (g x (IntKind.i64.wrap (i1 - 1)) m).1)→lM acc→oO (bm g c i1 a0 a1 a2 a3 a4 b0 b1 b2 b3 b4 d0 d1 d2 d3 d4 l i n acc).1
 | [],_,_,acc,_,ha=>by
  rw [bm,oO]; exact ⟨hv,hs,ha⟩
 | x::r,i,n,acc,hg,ha=>by
  rw [bm]
  split
  ·exact HQ hv hs r (i+1) _ _ (fun y hy m=>hg y (by simp [hy]) m) (ha.app (by rw [lM,lM]; exact ⟨hg x (by simp) n,trivial⟩))
  ·rw [oO]; exact ⟨hv,hs,ha⟩

theorem xu (k:Nat) (s:zn) (h:k≤1000):(List.take (toNat (k:Int) - toNat 0) (List.drop (toNat 0) s)).length≤1000000:=by
 simp; omega
theorem Gv {n k:Nat} (h:¬ decide ((n:Int) > (k:Int))=true) (hk:k≤1000):n≤1000000:=by
 have:¬ (n:Int) > (k:Int):=by simpa using h
 omega

theorem HT:∀ (N:Nat) (e:ze) (d n:Int),oO (gq N e d n).1
 | 0,_,_,_=>Pe
 | N+1,.mk op v s l,d,n=>by
  have hg:∀ x∈l,∀ (k m:Int),oO (gq N x k m).1:=fun x _ k m=>HT N x k m
  rw [gq]
  unfold xU
  have t45:=xu 45 v.2.2 (by omega)
  have t20:=xu 20 s (by omega)
  repeat' split
  all_goals refine HQ ?_ ?_ _ _ _ _ (fun x hx m=>hg x hx _ m) (by rw [lM]; trivial)
  all_goals first | exact t45 | exact t20 | exact Gv (k:=45) (by assumption) (by omega) | exact Gv (k:=20) (by assumption) (by omega)

theorem Q0 (e:ze):oO (bg e):=by
 unfold bg
 rw [ze.eta]
 exact HT 16 e 14 80

theorem Jh (s:zn):(List.take (toNat 20 - toNat 0) (List.drop (toNat 0) s)).length≤20:=by
 simp; omega
theorem NB {n:Nat} (h:¬ decide ((n:Int) > (20:Int))=true):n≤20:=by
 have:¬ (n:Int) > (20:Int):=by simpa using h
 omega
theorem E2 (s:zn):(ry s).length≤20:=by
 unfold ry
 split
 ·exact Jh s
 ·exact NB (by assumption)
theorem oA:∀ (l:List (Sem zi)) (i:Int) (acc:List (Sem zi)),(acc.length:Int)≤i→acc.length≤9→(∀ c∈acc,length c.1≤20)→(gA l i acc).length≤9∧∀ c∈gA l i acc,length c.1≤20
 | [],_,_,_,h,ha=>⟨h,ha⟩
 | x :: r,i,acc,h0,h,ha=>by
  rw [gA]
  split
  ·rename_i hi
   simp only [zZ] at hi
   split
   ·refine oA r (i+1) _ (by simp; omega) (by simp; omega) (fun c hc=>?_)
    rcases bB.1 hc with hc | hc
    ·exact ha c hc
    ·rw [bN] at hc
     rw [hc]
     exact Jh x.1
   ·refine oA r (i+1) _ (by simp; omega) (by simp; omega) (fun c hc=>?_)
    rcases bB.1 hc with hc | hc
    ·exact ha c hc
    ·rw [bN] at hc
     rw [hc]
     exact NB (by assumption)
  ·exact ⟨h,ha⟩
theorem rE {a0 a1 a2 a3 a4 a5 a6 a7 a8 a9 b0 b1 b2 b3 b4 b5 b6} {d0:zn} {d1:List (Sem zi)} {d2:Int} {d3:zn} {d4 d5:Int} {d6 d7:zn} {d8:List (Sem Sh.expr)} {d9:List (Sem zg)} (hn:d0.length≤20) (hc:d1.length≤9∧∀ c∈d1,length c.1≤20) (hu:d9.length≤10) (he:oO (.mk d3 (d4,d5,d6) d7 d8)):
  ∀ (l:List (Sem zp)) (i:Int) (acc:List (Sem zp)),(acc.length:Int)≤i→acc.length≤10→(∀ f∈acc,length f.2≤20)→TC (eF a0 a1 a2 a3 a4 a5 a6 a7 a8 a9 b0 b1 b2 b3 b4 b5 b6 d0 d1 d2 d3 d4 d5 d6 d7 d8 d9 l i acc)
 | [],_,acc,_,h,ha=>by
  rw [eF]
  exact ⟨hn,hc.2,by have:=hc.1; show d1.length≤1000; omega,by show d9.length≤1000; omega,by show acc.length≤1000; omega,ha,he⟩
 | x::r,i,acc,h0,h,ha=>by
  rw [eF]
  split
  ·rename_i hi
   simp only [zZ] at hi
   refine rE hn hc hu he r (i+1) _ (by simp; omega) (by simp; omega) (fun f hf=>?_)
   rcases bB.1 hf with hf | hf
   ·exact ha f hf
   ·rw [bN] at hf
    rw [hf]
    exact E2 x.2
  ·exact ⟨hn,hc.2,by have:=hc.1; show d1.length≤1000; omega,by show d9.length≤1000; omega,by show acc.length≤1000; omega,ha,he⟩
theorem AQ {a0 a1 a2 a4 a5 a6 a7 a8 a9 b0 b1 b2 b3 b4 b5 b6 a10 w} {d0:zn} {d1:List (Sem zi)} {d2:Int} {d3:zn} {d4 d5:Int} {d6 d7:zn} {d8:List (Sem Sh.expr)} (hn:d0.length≤20) (hc:d1.length≤9∧∀ c∈d1,length c.1≤20) (he:oO (.mk d3 (d4,d5,d6) d7 d8)):
  ∀ (l:List (Sem zg)) (i:Int) (acc:List (Sem zg)),(acc.length:Int)≤i→acc.length≤10→TC (dV a0 a1 a2 w a4 a5 a6 a7 a8 a9 a10 b0 b1 b2 b3 b4 b5 d0 d1 d2 d3 d4 d5 d6 d7 d8 b6 l i acc)
 | [],_,acc,_,h=>by
  rw [dV]
  exact rE hn hc h he _ _ _ (by simp) (by simp) (by simp)
 | x::r,i,acc,h0,h=>by
  rw [dV]
  split
  ·rename_i hi
   simp only [zZ] at hi
   exact AQ hn hc he r (i+1) _ (by simp; omega) (by simp; omega)
  ·exact rE hn hc h he _ _ _ (by simp) (by simp) (by simp)
theorem R5 (t:Sem zt):TC (iD t):=by
 unfold iD
 refine AQ (E2 _) (oA _ _ _ (by simp) (by simp) (by simp)) ?_ _ _ _ (by simp) (by simp)
 rw [show ze.mk (ze.op (bg t.2.2.2.2.2)) ((ze.v (bg t.2.2.2.2.2)).1,(ze.v (bg t.2.2.2.2.2)).2.1,(ze.v (bg t.2.2.2.2.2)).2.2) (ze.s (bg t.2.2.2.2.2)) (ze.l (bg t.2.2.2.2.2))=bg t.2.2.2.2.2 from ze.eta _]
 exact Q0 _

theorem R9 (v:Sem zf):VS (xz v):=by
 unfold xz
 split
 ·exact xu 60 v.2.2 (by omega)
 ·exact Gv (k:=60) (by assumption) (by omega)
theorem vR {Q:Sem zf→Prop}:∀ (l:List (Sem zf)) (i:Int) (acc:List (Sem zf)),(∀ v∈l,Q (xz v))→(∀ v∈acc,Q v)→∀ v∈gB l i acc,Q v
 | [],_,_,_,ha=>ha
 | x::r,i,acc,h,ha=>by
  rw [gB]
  split
  ·refine vR r (i+1) _ (fun v hv=>h v (by simp [hv])) (fun v hv=>?_)
   rcases bB.1 hv with hv | hv
   ·exact ha v hv
   ·rw [bN] at hv
    rw [hv]; exact h x (by simp)
  ·exact ha

theorem Eg (x:Sem zh):WfR (gL x):=by
 obtain ⟨rows,h1,h2⟩:=me x
 have h3:gL x=(iD x.1,rows):=by unfold gL; rw [h2]; rfl
 rw [h3]
 refine ⟨R5 x.1,by show rows.length≤1000; have:=h1.1; omega,fun r hr v hv=>?_⟩
 obtain ⟨r0,hr0,rfl⟩:=h1.2 r hr
 exact vR r0 0 [] (fun v _=>R9 v) (by simp) v hv

noncomputable def SG:zD:=zR (List.replicate 1 none) (bS By Tryz.f133 (List.replicate 1 none))
theorem PM:FK 133 SG:=aj _ oq (aJ (by kernel_rfl))

noncomputable def S7:zD:=zR (List.replicate 2 none) (bS By Tryz.f202 (List.replicate 2 none))
theorem Qc:FK 202 S7:=aj _ oq (aJ (by kernel_rfl))

noncomputable def FO:=By.addL [(133,SG),(202,S7)]
theorem u4:zm FO:=oq.addL <| fc PM <| fc Qc <|  gW

noncomputable def SI:zD:=zR (List.replicate 3 none) (bS FO Tryz.f134 (List.replicate 3 none))
theorem PO:FK 134 SI:=aj _ u4 (aJ (by kernel_rfl))

noncomputable def u5:=FO.add 134 SI
theorem u6:zm u5:=u4.add PO

abbrev Ng:=jJ [(1,[0,1,2,3,8]),(4,[0,1,2,3,8,9])]
inductive rJ where
 | h1 (i1:Int) (i2:Int) (i3f_0_0:Int) (i8:Int) (lh_0:List (Sem zf.sl))
 | h4 (i1:Int) (i2:Int) (i3f_0_0:Int) (i8:Int) (i9:Int) (lh_0:List (Sem zf.sl))
abbrev Dz:rJ→Nat×St
 | .h1 i1 i2 i3f_0_0 i8 lh_0=>(1,⟨tm 53 [(0,AV.vec 0),(1,AV.int .i64 i1),(2,AV.int .i64 i2),(3,AV.clo (Fn.func 134) [AV.agg [AV.int .i64 i3f_0_0]] []),(8,AV.int .i64 i8)],[AO.vec zf.sl lh_0]⟩)
 | .h4 i1 i2 i3f_0_0 i8 i9 lh_0=>(4,⟨tm 53 [(0,AV.vec 0),(1,AV.int .i64 i1),(2,AV.int .i64 i2),(3,AV.clo (Fn.func 134) [AV.agg [AV.int .i64 i3f_0_0]] []),(8,AV.int .i64 i8),(9,AV.int .i64 i9)],[AO.vec zf.sl lh_0]⟩)
theorem YL:zA u5.P 248 Tryz.f248 4:=aJ (by kernel_rfl)
noncomputable def HY (l:List (List (Sem zf))) (a:Int) (b:Int) (k:Int):Tr (rJ ⊕ zV):=
 Tr.to (rJ.h1 a b k (IntKind.i64.wrap (a+1)) l)
theorem XK (l:List (List (Sem zf))) (a:Int) (b:Int) (k:Int):rn u5 1 Ng Tryz.f248 [AV.vec 0,AV.int .i64 a,AV.int .i64 b,AV.clo (Fn.func 134) [AV.agg [AV.int .i64 k]] []] [AO.vec (Sh.sl zf) l]=(HY l a b k).map (lf Tryz.f248 Dz):=by kernel_rfl
noncomputable def nS:rJ→Tr (rJ ⊕ zV)
 | .h1 i1 i2 i3f_0_0 i8 lh_0=>
  Tr.br (decide (i8 < i2)) (Tr.to (rJ.h4 i1 i2 i3f_0_0 i8 i8 lh_0))
  (Tr.re (AV.tup []) [AO.vec zf.sl lh_0])
 | .h4 i1 i2 i3f_0_0 i8 i9 lh_0=>
  let a0:=decide (i9.toNat < lh_0.length)
  let a1:=IntKind.i64.wrap (i9 - 1)
  let a2:=zE a1 lh_0.length
  let a3:=decide (a1.toNat < lh_0.length)
  let a4:=decide (i3f_0_0 < 0)
  let a5:=lh_0.getD i9.toNat (zj zf.sl)
  let a6:=(↑(length a5):Int)
  let a7:=bif a4 then true else decide (i3f_0_0 ≥ a6)
  let a8:=lh_0.getD a1.toNat (zj zf.sl)
  let a9:=(↑(length a8):Int)
  let a10:=bif a4 then true else decide (i3f_0_0 ≥ a9)
  let a11:=bif a10 then true else zE i3f_0_0 (length a8)
  let a12:=getD a8 i3f_0_0.toNat (zj zf)
  let a13:=getD a5 i3f_0_0.toNat (zj zf)
  let a14:=bif a7 then bif a10 then aR (0,0,[]) (0,0,[]) else aR (0,0,[]) a12 else bif a10 then aR a13 (0,0,[]) else aR a13 a12
  let a15:=lh_0.set i9.toNat a8
  Tr.chk (bif decide (i9 > i1) then zE i9 lh_0.length&&(a0&&(a2&&(a3&&bif a7 then a11 else zE i3f_0_0 (length a5)&&a11))) else true)
  (Tr.br (bif decide (i9 > i1) then decide (a14 < 0) else false) (Tr.chk a2 (Tr.chk a3 (Tr.chk (zE i9 lh_0.length) (Tr.chk a0 (Tr.chk (zE i9 lh_0.length) (Tr.chk a0 (Tr.chk (zE a1 a15.length) (Tr.chk (decide (a1.toNat < a15.length)) (Tr.to (rJ.h4 i1 i2 i3f_0_0 i8 a1 (a15.set a1.toNat a5))))))))))) (Tr.to (rJ.h1 i1 i2 i3f_0_0 (IntKind.i64.wrap (i8+1)) lh_0)))
theorem YW:∀ s,run u5 1 Ng (Func.results Tryz.f248).toList 400 (zx Tryz.f248 (Dz s).1) (Dz s).2=(nS s).map (lf Tryz.f248 Dz):=by intro s; cases s <;> kernel_rfl
noncomputable def Gg (l:List (List (Sem zf))) (a:Int) (b:Int) (k:Int):=cd nS 100000000 (HY l a b k)


def CX (r:Option zV):Option (List (List (Sem zf))):=match r with
 | some (.tup [],[.vec (.sl wh) l])=>some l
 | _=>none
theorem nq {r:Option zV} (h:(CX r).isSome=true):r=some (.tup [],[.vec (.sl zf) ((CX r).getD [])]):=by
 unfold CX at h ⊢
 split at h
 ·rfl
 ·cases h
noncomputable def qT (l:List (List (Sem zf))) (a b k:Int):=CX (Gg l a b k)
noncomputable def Tx:cy [none,none,none,none]:=fun x h=>match x,h with
 | (.vec 0,.int .i64 a,.int .i64 b,.clo (.func 134) [.agg [.int .i64 k]] [],_),[.vec (.sl wh) l]=>.chk ((qT l a b k).isSome) (.ok (.tup [],[.vec (.sl zf) ((qT l a b k).getD [])]))
 | _,_=>.err
noncomputable def Ta:zD:=zR [none,none,none,none] Tx
theorem Qf:FK 248 Ta:=by
 refine gy (ι:=List (List (Sem zf))×Int×Int×Int) (args:=fun y=>[AV.vec 0,AV.int .i64 y.2.1,AV.int .i64 y.2.2.1,AV.clo (Fn.func 134) [AV.agg [AV.int .i64 y.2.2.2]] []]) (heap:=fun y=>[AO.vec zf.sl y.1]) (i:=fun y=>HY y.1 y.2.1 y.2.2.1 y.2.2.2) (t:=nS) (e:=Dz) (n:=100000000) (n0:=1) u6 YL (fun _=>rfl) (fun y=>XK _ _ _ _) YW (fun x h res hv=>?_)
 unfold Tx at hv
 split at hv
 ·rename_i a b k u l
  simp only [Tr.val] at hv
  split at hv
  ·rename_i h1
   simp only [ag] at hv
   subst hv
   exact ⟨(l,a,b,k),rfl,rfl,nq h1⟩
  ·cases hv
 ·simp at hv

noncomputable def u7:=u5.add 248 Ta
theorem u9:zm u7:=u6.add Qf
noncomputable section

abbrev Nj:=jJ [(1,[0,1,2,3,10])]
inductive yf where
 | h1 (i1:Int) (i2:Int) (i3:Int) (i10:Int) (lh_0:List (Sem zf.sl))
abbrev DC:yf→Nat×St
 | .h1 i1 i2 i3 i10 lh_0=>(1,⟨tm 38 [(0,AV.vec 0),(1,AV.int .i64 i1),(2,AV.int .i64 i2),(3,AV.int .i64 i3),(10,AV.int .i64 i10)],[AO.vec zf.sl lh_0]⟩)
theorem YN:zA u7.P 293 Tryz.f293 5:=aJ (by kernel_rfl)
def MK (l:List (List (Sem zf))) (a:Int) (b:Int) (n:Int) (_:Int):Tr (yf ⊕ zV):=
 Tr.to (yf.h1 a b n 0 l)
theorem XQ (l:List (List (Sem zf))) (a:Int) (b:Int) (n:Int) (k:Int):rn u7 1 Nj Tryz.f293 [AV.vec 0,AV.int .i64 a,AV.int .i64 b,AV.int .i64 n,AV.clo (Fn.func 134) [AV.agg [AV.int .i64 k]] []] [AO.vec (Sh.sl zf) l]=(MK l a b n k).map (lf Tryz.f293 DC):=by kernel_rfl
def AP:yf→Tr (yf ⊕ zV)
 | .h1 i1 i2 i3 i10 lh_0=>
  let a0:=IntKind.i64.wrap (i2+i10)
  let a1:=IntKind.i64.wrap (i1+i10)
  let a2:=zE a1 lh_0.length
  let a3:=decide (a1.toNat < lh_0.length)
  let a4:=lh_0.set a1.toNat (lh_0.getD a0.toNat (zj zf.sl))
  Tr.br (decide (i10 < i3))
  (Tr.chk (zE a0 lh_0.length) (Tr.chk (decide (a0.toNat < lh_0.length)) (Tr.chk a2 (Tr.chk a3 (Tr.chk a2 (Tr.chk a3 (Tr.chk (zE a0 a4.length) (Tr.chk (decide (a0.toNat < a4.length)) (Tr.to (yf.h1 i1 i2 i3 (IntKind.i64.wrap (i10+1)) (a4.set a0.toNat (lh_0.getD a1.toNat (zj zf.sl)))))))))))))
  (Tr.re (AV.tup []) [AO.vec zf.sl lh_0])
theorem YZ:∀ s,run u7 1 Nj (Func.results Tryz.f293).toList 400 (zx Tryz.f293 (DC s).1) (DC s).2=(AP s).map (lf Tryz.f293 DC):=by intro s; cases s <;> kernel_rfl
def zgw (l:List (List (Sem zf))) (a:Int) (b:Int) (n:Int) (k:Int):=cd AP 100000000 (MK l a b n k)

def G7 (l:List (List (Sem zf))) (a b n k:Int):=CX (zgw l a b n k)
def Tz:cy [none,none,none,none,none]:=fun x h=>match x,h with
 | (.vec 0,.int .i64 a,.int .i64 b,.int .i64 n,.clo (.func 134) [.agg [.int .i64 k]] [],_),[.vec (.sl wh) l]=>.chk ((G7 l a b n k).isSome) (.ok (.tup [],[.vec (.sl zf) ((G7 l a b n k).getD [])]))
 | _,_=>.err
def Th:zD:=zR [none,none,none,none,none] Tz
theorem Qm:FK 293 Th:=by
 refine gy (ι:=List (List (Sem zf))×Int×Int×Int×Int) (args:=fun y=>[AV.vec 0,AV.int .i64 y.2.1,AV.int .i64 y.2.2.1,AV.int .i64 y.2.2.2.1,AV.clo (Fn.func 134) [AV.agg [AV.int .i64 y.2.2.2.2]] []]) (heap:=fun y=>[AO.vec zf.sl y.1]) (i:=fun y=>MK y.1 y.2.1 y.2.2.1 y.2.2.2.1 y.2.2.2.2) (t:=AP) (e:=DC) (n:=100000000) (n0:=1) u9 YN (fun _=>rfl) (fun y=>XQ _ _ _ _ _) YZ (fun x h res hv=>?_)
 unfold Tz at hv
 split at hv
 ·rename_i a b n k u l
  simp only [Tr.val] at hv
  split at hv
  ·rename_i h1
   simp only [ag] at hv
   subst hv
   exact ⟨(l,a,b,n,k),rfl,rfl,nq h1⟩
  ·cases hv
 ·simp at hv

def DT:=u7.add 293 Th
theorem yZ:zm DT:=u9.add Qm
end
noncomputable section

abbrev Ni:=jJ [(2,[0,2,4,10,11])]
inductive tR where
 | h2 (i2:Int) (i4f_0_0:Int) (i10:Int) (i11:Int) (lh_0:List (Sem zf.sl))
abbrev DB:tR→Nat×St
 | .h2 i2 i4f_0_0 i10 i11 lh_0=>(2,⟨tm 58 [(0,AV.vec 0),(2,AV.int .i64 i2),(4,AV.clo (Fn.func 134) [AV.agg [AV.int .i64 i4f_0_0]] []),(10,AV.int .i64 i10),(11,AV.int .i64 i11)],[AO.vec zf.sl lh_0]⟩)
theorem YM:zA DT.P 277 Tryz.f277 5:=aJ (by kernel_rfl)
def HZ (l:List (List (Sem zf))) (a:Int) (m:Int) (b:Int) (k:Int):Tr (tR ⊕ zV):=
 Tr.to (tR.h2 m k (IntKind.i64.wrap (m - a)) (IntKind.i64.wrap (b - m)) l)
theorem XP (l:List (List (Sem zf))) (a:Int) (m:Int) (b:Int) (k:Int):rn DT 1 Ni Tryz.f277 [AV.vec 0,AV.int .i64 a,AV.int .i64 m,AV.int .i64 b,AV.clo (Fn.func 134) [AV.agg [AV.int .i64 k]] []] [AO.vec (Sh.sl zf) l]=(HZ l a m b k).map (lf Tryz.f277 DB):=by kernel_rfl
def xq:tR→Tr (tR ⊕ zV)
 | .h2 i2 i4f_0_0 i10 i11 lh_0=>
  let a0:=IntKind.i64.wrap (i2 - i10)
  let a1:=G7 lh_0 a0 i2 i11 i4f_0_0
  let a2:=G7 lh_0 a0 (IntKind.i64.wrap (IntKind.i64.wrap (i2+i11) - i10)) i10 i4f_0_0
  let a3:=G7 lh_0 a0 i2 i10 i4f_0_0
  Tr.br (i10 != i11)
  (Tr.br (decide (i10 > i11)) (Tr.chk a1.isSome (Tr.to (tR.h2 i2 i4f_0_0 (IntKind.i64.wrap (i10 - i11)) i11 (a1.getD [])))) (Tr.chk a2.isSome (Tr.to (tR.h2 i2 i4f_0_0 i10 (IntKind.i64.wrap (i11 - i10)) (a2.getD [])))))
  (Tr.chk a3.isSome (Tr.re (AV.tup []) [AO.vec zf.sl (a3.getD [])]))
theorem YY:∀ s,run DT 1 Ni (Func.results Tryz.f277).toList 400 (zx Tryz.f277 (DB s).1) (DB s).2=(xq s).map (lf Tryz.f277 DB):=by intro s; cases s <;> kernel_rfl
def Zi (l:List (List (Sem zf))) (a:Int) (m:Int) (b:Int) (k:Int):=cd xq 100000000 (HZ l a m b k)

def Ky (l:List (List (Sem zf))) (a m b k:Int):=CX (Zi l a m b k)
def Ty:cy [none,none,none,none,none]:=fun x h=>match x,h with
 | (.vec 0,.int .i64 a,.int .i64 m,.int .i64 b,.clo (.func 134) [.agg [.int .i64 k]] [],_),[.vec (.sl wh) l]=>.chk ((Ky l a m b k).isSome) (.ok (.tup [],[.vec (.sl zf) ((Ky l a m b k).getD [])]))
 | _,_=>.err
def Te:zD:=zR [none,none,none,none,none] Ty
theorem Qj:FK 277 Te:=by
 refine gy (ι:=List (List (Sem zf))×Int×Int×Int×Int) (args:=fun y=>[AV.vec 0,AV.int .i64 y.2.1,AV.int .i64 y.2.2.1,AV.int .i64 y.2.2.2.1,AV.clo (Fn.func 134) [AV.agg [AV.int .i64 y.2.2.2.2]] []]) (heap:=fun y=>[AO.vec zf.sl y.1]) (i:=fun y=>HZ y.1 y.2.1 y.2.2.1 y.2.2.2.1 y.2.2.2.2) (t:=xq) (e:=DB) (n:=100000000) (n0:=1) yZ YM (fun _=>rfl) (fun y=>XP _ _ _ _ _) YY (fun x h res hv=>?_)
 unfold Ty at hv
 split at hv
 ·rename_i a m b k u l
  simp only [Tr.val] at hv
  split at hv
  ·rename_i h1
   simp only [ag] at hv
   subst hv
   exact ⟨(l,a,m,b,k),rfl,rfl,nq h1⟩
  ·cases hv
 ·simp at hv

def HJ:=DT.add 277 Te
theorem y0:zm HJ:=yZ.add Qj
end
noncomputable section
abbrev SM:=List (List (Sem zf))→Int→Int→Int→Int→Option (List (List (Sem zf)))
def GSm (o:SM):cy [none,none,none,none,none]:=fun x h=>match x,h with
 | (.vec 0,.int .i64 a,.int .i64 m,.int .i64 b,.clo (.func 134) [.agg [.int .i64 k]] [],_),[.vec (.sl wh) l]=>.chk ((o l a m b k).isSome) (.ok (.tup [],[.vec (.sl zf) ((o l a m b k).getD [])]))
 | _,_=>.err
def FSm (o:SM):zD:=zR [none,none,none,none,none] (GSm o)
def uN (o:SM):bf:=HJ.add 249 (FSm o)
theorem FM {o:SM} (h:FK 249 (FSm o)):zm (uN o):=y0.add h

abbrev Nh:=jJ [(3,[0,1,4,10,11]),(9,[0,10,13]),(15,[0,2,4,14,15]),(21,[0,14,17]),(33,[0,1,2,3,4,18,19,20,21,22])]
inductive fZ where
 | h3 (i1:Int) (i4f_0_0:Int) (i10:Int) (i11:Int) (lh_0:List (Sem zf.sl))
 | h15 (i2:Int) (i4f_0_0:Int) (i14:Int) (i15:Int) (lh_0:List (Sem zf.sl))
 | h33 (i1:Int) (i2:Int) (i3:Int) (i4f_0_0:Int) (i18:Int) (i19:Int) (i20:Int) (i21:Int) (i22:Int) (lh_0:List (Sem zf.sl))
 | h9 (i10:Int) (i13:Int) (lh_0:List (Sem zf.sl))
 | h21 (i14:Int) (i17:Int) (lh_0:List (Sem zf.sl))
abbrev DA:fZ→Nat×St
 | .h3 i1 i4f_0_0 i10 i11 lh_0=>(3,⟨tm 220 [(0,AV.vec 0),(1,AV.int .i64 i1),(4,AV.clo (Fn.func 134) [AV.agg [AV.int .i64 i4f_0_0]] []),(10,AV.int .i64 i10),(11,AV.int .i64 i11)],[AO.vec zf.sl lh_0]⟩)
 | .h15 i2 i4f_0_0 i14 i15 lh_0=>(15,⟨tm 220 [(0,AV.vec 0),(2,AV.int .i64 i2),(4,AV.clo (Fn.func 134) [AV.agg [AV.int .i64 i4f_0_0]] []),(14,AV.int .i64 i14),(15,AV.int .i64 i15)],[AO.vec zf.sl lh_0]⟩)
 | .h33 i1 i2 i3 i4f_0_0 i18 i19 i20 i21 i22 lh_0=>(33,⟨tm 220 [(0,AV.vec 0),(1,AV.int .i64 i1),(2,AV.int .i64 i2),(3,AV.int .i64 i3),(4,AV.clo (Fn.func 134) [AV.agg [AV.int .i64 i4f_0_0]] []),(18,AV.int .i64 i18),(19,AV.int .i64 i19),(20,AV.int .i64 i20),(21,AV.int .i64 i21),(22,AV.int .i64 i22)],[AO.vec zf.sl lh_0]⟩)
 | .h9 i10 i13 lh_0=>(9,⟨tm 220 [(0,AV.vec 0),(10,AV.int .i64 i10),(13,AV.int .i64 i13)],[AO.vec zf.sl lh_0]⟩)
 | .h21 i14 i17 lh_0=>(21,⟨tm 220 [(0,AV.vec 0),(14,AV.int .i64 i14),(17,AV.int .i64 i17)],[AO.vec zf.sl lh_0]⟩)
theorem BY (o:SM):zA (uN o).P 249 Tryz.f249 5:=aJ (by kernel_rfl)
def r8 (_:SM) (l:List (List (Sem zf))) (a:Int) (m:Int) (b:Int) (k:Int):Tr (fZ ⊕ zV):=
 let a0:=IntKind.i64.wrap (IntKind.u64.wrap (IntKind.i64.wrap (a+b)) / 2)
 let a1:=IntKind.i64.wrap (a0+m)
 let a2:=IntKind.i64.wrap (a1 - 1)
 Tr.br (IntKind.i64.wrap (m - a)==1) (Tr.to (fZ.h3 a k m b l))
 (Tr.br (IntKind.i64.wrap (b - m)==1) (Tr.to (fZ.h15 m k a m l))
  (Tr.chk true (Tr.br (decide (m > a0)) (Tr.to (fZ.h33 a m b k a0 a1 (IntKind.i64.wrap (a1 - b)) a0 a2 l)) (Tr.to (fZ.h33 a m b k a0 a1 a m a2 l)))))
theorem XL (o:SM) (l:List (List (Sem zf))) (a:Int) (m:Int) (b:Int) (k:Int):rn (uN o) 1 Nh Tryz.f249 [AV.vec 0,AV.int .i64 a,AV.int .i64 m,AV.int .i64 b,AV.clo (Fn.func 134) [AV.agg [AV.int .i64 k]] []] [AO.vec (Sh.sl zf) l]=(r8 o l a m b k).map (lf Tryz.f249 DA):=by kernel_rfl
def dt (o:SM):fZ→Tr (fZ ⊕ zV)
 | .h3 i1 i4f_0_0 i10 i11 lh_0=>
  let a0:=IntKind.i64.wrap (IntKind.u64.wrap (IntKind.i64.wrap (i10+i11)) / 2)
  let a1:=decide (i4f_0_0 < 0)
  let a2:=lh_0.getD a0.toNat (zj zf.sl)
  let a3:=(↑(length a2):Int)
  let a4:=bif a1 then true else decide (i4f_0_0 ≥ a3)
  let a5:=lh_0.getD i1.toNat (zj zf.sl)
  let a6:=(↑(length a5):Int)
  let a7:=bif a1 then true else decide (i4f_0_0 ≥ a6)
  let a8:=bif a7 then true else zE i4f_0_0 (length a5)
  let a9:=getD a5 i4f_0_0.toNat (zj zf)
  let a10:=getD a2 i4f_0_0.toNat (zj zf)
  let a11:=bif a4 then bif a7 then aR (0,0,[]) (0,0,[]) else aR (0,0,[]) a9 else bif a7 then aR a10 (0,0,[]) else aR a10 a9
  Tr.br (decide (i10 < i11))
  (Tr.chk true (Tr.chk (zE a0 lh_0.length) (Tr.chk (decide (a0.toNat < lh_0.length)) (Tr.chk (zE i1 lh_0.length) (Tr.chk (decide (i1.toNat < lh_0.length)) (Tr.chk (bif a4 then a8 else zE i4f_0_0 (length a2)&&a8) (Tr.br (decide (a11 < 0)) (Tr.to (fZ.h3 i1 i4f_0_0 (IntKind.i64.wrap (a0+1)) i11 lh_0)) (Tr.to (fZ.h3 i1 i4f_0_0 i10 a0 lh_0)))))))))
  (Tr.to (fZ.h9 i10 i1 lh_0))
 | .h15 i2 i4f_0_0 i14 i15 lh_0=>
  let a0:=IntKind.i64.wrap (IntKind.u64.wrap (IntKind.i64.wrap (i14+i15)) / 2)
  let a1:=decide (i4f_0_0 < 0)
  let a2:=lh_0.getD i2.toNat (zj zf.sl)
  let a3:=(↑(length a2):Int)
  let a4:=bif a1 then true else decide (i4f_0_0 ≥ a3)
  let a5:=lh_0.getD a0.toNat (zj zf.sl)
  let a6:=(↑(length a5):Int)
  let a7:=bif a1 then true else decide (i4f_0_0 ≥ a6)
  let a8:=bif a7 then true else zE i4f_0_0 (length a5)
  let a9:=getD a5 i4f_0_0.toNat (zj zf)
  let a10:=getD a2 i4f_0_0.toNat (zj zf)
  let a11:=bif a4 then bif a7 then aR (0,0,[]) (0,0,[]) else aR (0,0,[]) a9 else bif a7 then aR a10 (0,0,[]) else aR a10 a9
  Tr.br (decide (i14 < i15))
  (Tr.chk true (Tr.chk (zE i2 lh_0.length) (Tr.chk (decide (i2.toNat < lh_0.length)) (Tr.chk (zE a0 lh_0.length) (Tr.chk (decide (a0.toNat < lh_0.length)) (Tr.chk (bif a4 then a8 else zE i4f_0_0 (length a2)&&a8) (Tr.br (!decide (a11 < 0)) (Tr.to (fZ.h15 i2 i4f_0_0 (IntKind.i64.wrap (a0+1)) i15 lh_0)) (Tr.to (fZ.h15 i2 i4f_0_0 i14 a0 lh_0)))))))))
  (Tr.to (fZ.h21 i14 i2 lh_0))
 | .h33 i1 i2 i3 i4f_0_0 i18 i19 i20 i21 i22 lh_0=>
  let a0:=IntKind.i64.wrap (IntKind.u64.wrap (IntKind.i64.wrap (i20+i21)) / 2)
  let a1:=IntKind.i64.wrap (i22 - a0)
  let a2:=decide (i4f_0_0 < 0)
  let a3:=lh_0.getD a1.toNat (zj zf.sl)
  let a4:=(↑(length a3):Int)
  let a5:=bif a2 then true else decide (i4f_0_0 ≥ a4)
  let a6:=lh_0.getD a0.toNat (zj zf.sl)
  let a7:=(↑(length a6):Int)
  let a8:=bif a2 then true else decide (i4f_0_0 ≥ a7)
  let a9:=bif a8 then true else zE i4f_0_0 (length a6)
  let a10:=getD a6 i4f_0_0.toNat (zj zf)
  let a11:=getD a3 i4f_0_0.toNat (zj zf)
  let a12:=bif a5 then bif a8 then aR (0,0,[]) (0,0,[]) else aR (0,0,[]) a10 else bif a8 then aR a11 (0,0,[]) else aR a11 a10
  let a13:=IntKind.i64.wrap (i19 - i20)
  let a14:=Ky lh_0 i20 i2 a13 i4f_0_0
  let a15:=bif decide (i1 < i20) then decide (i20 < i18) else false
  let a16:=a14.getD []
  let a17:=o a16 i1 i20 i18 i4f_0_0
  let a18:=bif decide (i18 < a13) then decide (a13 < i3) else false
  let a19:=a17.getD []
  let a20:=o a19 i18 a13 i3 i4f_0_0
  let a21:=o a16 i18 a13 i3 i4f_0_0
  let a22:=o lh_0 i1 i20 i18 i4f_0_0
  let a23:=a22.getD []
  let a24:=o a23 i18 a13 i3 i4f_0_0
  let a25:=o lh_0 i18 a13 i3 i4f_0_0
  Tr.br (decide (i20 < i21))
  (Tr.chk true (Tr.chk (zE a1 lh_0.length) (Tr.chk (decide (a1.toNat < lh_0.length)) (Tr.chk (zE a0 lh_0.length) (Tr.chk (decide (a0.toNat < lh_0.length)) (Tr.chk (bif a5 then a9 else zE i4f_0_0 (length a3)&&a9) (Tr.br (!decide (a12 < 0)) (Tr.to (fZ.h33 i1 i2 i3 i4f_0_0 i18 i19 (IntKind.i64.wrap (a0+1)) i21 i22 lh_0))
  (Tr.to (fZ.h33 i1 i2 i3 i4f_0_0 i18 i19 i20 a0 i22 lh_0)))))))))
  (Tr.br (bif decide (i20 < i2) then decide (i2 < a13) else false) (Tr.chk a14.isSome (Tr.br a15 (Tr.chk a17.isSome (Tr.br a18 (Tr.chk a20.isSome (Tr.re (AV.tup []) [AO.vec zf.sl (a20.getD [])])) (Tr.re (AV.tup []) [AO.vec zf.sl a19]))) (Tr.br a18 (Tr.chk a21.isSome (Tr.re (AV.tup []) [AO.vec zf.sl (a21.getD [])])) (Tr.re (AV.tup []) [AO.vec zf.sl a16])))) (Tr.br a15
  (Tr.chk a22.isSome (Tr.br a18 (Tr.chk a24.isSome (Tr.re (AV.tup []) [AO.vec zf.sl (a24.getD [])])) (Tr.re (AV.tup []) [AO.vec zf.sl a23]))) (Tr.br a18 (Tr.chk a25.isSome (Tr.re (AV.tup []) [AO.vec zf.sl (a25.getD [])])) (Tr.re (AV.tup []) [AO.vec zf.sl lh_0]))))
 | .h9 i10 i13 lh_0=>
  let a0:=IntKind.i64.wrap (i10 - 1)
  let a1:=IntKind.i64.wrap (i13+1)
  let a2:=decide (i13.toNat < lh_0.length)
  let a3:=lh_0.set i13.toNat (lh_0.getD a1.toNat (zj zf.sl))
  Tr.br (decide (i13 < a0))
  (Tr.chk (zE a1 lh_0.length) (Tr.chk (decide (a1.toNat < lh_0.length)) (Tr.chk (zE i13 lh_0.length) (Tr.chk a2 (Tr.chk (zE i13 lh_0.length) (Tr.chk a2 (Tr.chk (zE a1 a3.length) (Tr.chk (decide (a1.toNat < a3.length)) (Tr.to (fZ.h9 i10 a1 (a3.set a1.toNat (lh_0.getD i13.toNat (zj zf.sl)))))))))))))
  (Tr.re (AV.tup []) [AO.vec zf.sl lh_0])
 | .h21 i14 i17 lh_0=>
  let a0:=IntKind.i64.wrap (i17 - 1)
  let a1:=decide (i17.toNat < lh_0.length)
  let a2:=lh_0.set i17.toNat (lh_0.getD a0.toNat (zj zf.sl))
  Tr.br (decide (i17 > i14))
  (Tr.chk (zE a0 lh_0.length) (Tr.chk (decide (a0.toNat < lh_0.length)) (Tr.chk (zE i17 lh_0.length) (Tr.chk a1 (Tr.chk (zE i17 lh_0.length) (Tr.chk a1 (Tr.chk (zE a0 a2.length) (Tr.chk (decide (a0.toNat < a2.length)) (Tr.to (fZ.h21 i14 a0 (a2.set a0.toNat (lh_0.getD i17.toNat (zj zf.sl)))))))))))))
  (Tr.re (AV.tup []) [AO.vec zf.sl lh_0])
theorem YX (o:SM):∀ s,run (uN o) 1 Nh (Func.results Tryz.f249).toList 400 (zx Tryz.f249 (DA s).1) (DA s).2=(dt o s).map (lf Tryz.f249 DA):=by intro s; cases s <;> kernel_rfl

def smS (o:SM):SM:=fun l a m b k=>CX (cd (dt o) 100000000 (r8 o l a m b k))
def xl:Nat→SM
 | 0=>fun _ _ _ _ _=>none
 | n+1=>smS (xl n)
theorem Hk:∀ n,FK 249 (FSm (xl n))
 | 0=>fq (E:=HJ) ⟨Tryz.f249,(BY (xl 0)).1,(BY (xl 0)).2.1,(BY (xl 0)).2.2.1⟩ fun x h0 res h=>by
  exfalso
  unfold GSm at h
  split at h
  ·simp [xl,Tr.val] at h
  ·simp at h
 | n+1=>by
  refine gy (E:=uN (xl n)) (ι:=List (List (Sem zf))×Int×Int×Int×Int) (args:=fun y=>[AV.vec 0,AV.int .i64 y.2.1,AV.int .i64 y.2.2.1,AV.int .i64 y.2.2.2.1,AV.clo (Fn.func 134) [AV.agg [AV.int .i64 y.2.2.2.2]] []]) (heap:=fun y=>[AO.vec zf.sl y.1]) (i:=fun y=>r8 (xl n) y.1 y.2.1 y.2.2.1 y.2.2.2.1 y.2.2.2.2) (t:=dt (xl n)) (e:=DA) (n:=100000000) (n0:=1) (FM (Hk n)) (BY (xl n)) (fun _=>rfl) (fun y=>XL _ _ _ _ _ _) (YX (xl n)) (fun x h res hv=>?_)
  unfold GSm at hv
  split at hv
  ·rename_i a m b k u l
   simp only [Tr.val] at hv
   split at hv
   ·rename_i h1
    simp only [ag] at hv
    subst hv
    exact ⟨(l,a,m,b,k),rfl,rfl,nq h1⟩
   ·cases hv
  ·simp at hv
def Tb:zD:=FSm (xl 16)
theorem Qg:FK 249 Tb:=Hk 16

def DU:=HJ.add 249 Tb
theorem y1:zm DU:=y0.add Qg
end
noncomputable section

abbrev Nf:=jJ [(2,[0,1,2,6,7,8]),(7,[0,1,2,6]),(9,[0,1,2,6,7,8])]
inductive lK where
 | h2 (i1:Int) (i2f_0_0:Int) (i6:Int) (i7:Int) (i8:Int) (lh_0:List (Sem zf.sl))
 | h7 (i1:Int) (i2f_0_0:Int) (i6:Int) (lh_0:List (Sem zf.sl))
 | h9 (i1:Int) (i2f_0_0:Int) (i6:Int) (i7:Int) (i8:Int) (lh_0:List (Sem zf.sl))
abbrev Dx:lK→Nat×St
 | .h2 i1 i2f_0_0 i6 i7 i8 lh_0=>(2,⟨tm 63 [(0,AV.vec 0),(1,AV.int .i64 i1),(2,AV.clo (Fn.func 134) [AV.agg [AV.int .i64 i2f_0_0]] []),(6,AV.int .i64 i6),(7,AV.int .i64 i7),(8,AV.int .i64 i8)],[AO.vec zf.sl lh_0]⟩)
 | .h7 i1 i2f_0_0 i6 lh_0=>(7,⟨tm 63 [(0,AV.vec 0),(1,AV.int .i64 i1),(2,AV.clo (Fn.func 134) [AV.agg [AV.int .i64 i2f_0_0]] []),(6,AV.int .i64 i6)],[AO.vec zf.sl lh_0]⟩)
 | .h9 i1 i2f_0_0 i6 i7 i8 lh_0=>(9,⟨tm 63 [(0,AV.vec 0),(1,AV.int .i64 i1),(2,AV.clo (Fn.func 134) [AV.agg [AV.int .i64 i2f_0_0]] []),(6,AV.int .i64 i6),(7,AV.int .i64 i7),(8,AV.int .i64 i8)],[AO.vec zf.sl lh_0]⟩)
theorem YJ:zA DU.P 201 Tryz.f201 3:=aJ (by kernel_rfl)
def MI (l:List (List (Sem zf))) (n:Int) (k:Int):Tr (lK ⊕ zV):=
 Tr.to (lK.h2 n k 20 0 20 l)
theorem XI (l:List (List (Sem zf))) (n:Int) (k:Int):rn DU 1 Nf Tryz.f201 [AV.vec 0,AV.int .i64 n,AV.clo (Fn.func 134) [AV.agg [AV.int .i64 k]] []] [AO.vec (Sh.sl zf) l]=(MI l n k).map (lf Tryz.f201 Dx):=by kernel_rfl
def il:lK→Tr (lK ⊕ zV)
 | .h2 i1 i2f_0_0 i6 i7 i8 lh_0=>
  let a0:=qT lh_0 i7 i8 i2f_0_0
  let a1:=qT lh_0 i7 i1 i2f_0_0
  Tr.br (decide (i8≤i1)) (Tr.chk a0.isSome (Tr.to (lK.h2 i1 i2f_0_0 i6 i8 (IntKind.i64.wrap (i8+i6)) (a0.getD []))))
  (Tr.chk a1.isSome (Tr.to (lK.h7 i1 i2f_0_0 i6 (a1.getD []))))
 | .h7 i1 i2f_0_0 i6 lh_0=>
  Tr.br (decide (i6 < i1)) (Tr.to (lK.h9 i1 i2f_0_0 i6 0 (IntKind.i64.wrap (2 * i6)) lh_0))
  (Tr.re (AV.tup []) [AO.vec zf.sl lh_0])
 | .h9 i1 i2f_0_0 i6 i7 i8 lh_0=>
  let a0:=IntKind.i64.wrap (i7+i6)
  let a1:=xl 16 lh_0 i7 a0 i8 i2f_0_0
  let a2:=xl 16 lh_0 i7 a0 i1 i2f_0_0
  let a3:=IntKind.i64.wrap (i6 * 2)
  Tr.br (decide (i8≤i1)) (Tr.chk a1.isSome (Tr.to (lK.h9 i1 i2f_0_0 i6 i8 (IntKind.i64.wrap (i8+IntKind.i64.wrap (2 * i6))) (a1.getD []))))
  (Tr.br (decide (a0 < i1)) (Tr.chk a2.isSome (Tr.to (lK.h7 i1 i2f_0_0 a3 (a2.getD [])))) (Tr.to (lK.h7 i1 i2f_0_0 a3 lh_0)))
theorem YU:∀ s,run DU 1 Nf (Func.results Tryz.f201).toList 400 (zx Tryz.f201 (Dx s).1) (Dx s).2=(il s).map (lf Tryz.f201 Dx):=by intro s; cases s <;> kernel_rfl
def UV (l:List (List (Sem zf))) (n:Int) (k:Int):=cd il 100000000 (MI l n k)

def Fa (l:List (List (Sem zf))) (n k:Int):=CX (UV l n k)
def Tv:cy [none,none,none]:=fun x h=>match x,h with
 | (.vec 0,.int .i64 n,.clo (.func 134) [.agg [.int .i64 k]] [],_),[.vec (.sl wh) l]=>.chk ((Fa l n k).isSome) (.ok (.tup [],[.vec (.sl zf) ((Fa l n k).getD [])]))
 | _,_=>.err
def S6:zD:=zR [none,none,none] Tv
theorem Qb:FK 201 S6:=by
 refine gy (ι:=List (List (Sem zf))×Int×Int) (args:=fun y=>[AV.vec 0,AV.int .i64 y.2.1,AV.clo (Fn.func 134) [AV.agg [AV.int .i64 y.2.2]] []]) (heap:=fun y=>[AO.vec zf.sl y.1]) (i:=fun y=>MI y.1 y.2.1 y.2.2) (t:=il) (e:=Dx) (n:=100000000) (n0:=1) y1 YJ (fun _=>rfl) (fun y=>XI _ _ _) YU (fun x h res hv=>?_)
 unfold Tv at hv
 split at hv
 ·rename_i n k u l
  simp only [Tr.val] at hv
  split at hv
  ·rename_i h1
   simp only [ag] at hv
   subst hv
   exact ⟨(l,n,k),rfl,rfl,nq h1⟩
  ·cases hv
 ·simp at hv

def Bz:=DU.add 201 S6
theorem vd:zm Bz:=y1.add Qb
end

abbrev Yf:=jJ []
theorem YF:zA Bz.P 132 Tryz.f132 2:=aJ (by kernel_rfl)
noncomputable def HX (l:List (List (Sem zf))) (k:Int):Tr (Empty ⊕ zV):=
 let a0:=Fa l (↑l.length:Int) k
 Tr.chk a0.isSome (Tr.re (AV.tup []) [AO.vec zf.sl (a0.getD [])])
theorem XC (l:List (List (Sem zf))) (k:Int):rn Bz 1 Yf Tryz.f132 [AV.vec 0,AV.clo (Fn.func 134) [AV.agg [AV.int .i64 k]] []] [AO.vec (Sh.sl zf) l]=(HX l k).map (lf Tryz.f132 e0):=by kernel_rfl
noncomputable def G4 (l:List (List (Sem zf))) (k:Int):=cd t0 100000000 (HX l k)

noncomputable def rC (l:List (List (Sem zf))) (k:Int):=CX (G4 l k)
noncomputable def Tu:cy [none,none]:=fun x h=>match x,h with
 | (.vec 0,.clo (.func 134) [.agg [.int .i64 k]] [],_),[.vec (.sl wh) l]=>.chk ((rC l k).isSome) (.ok (.tup [],[.vec (.sl zf) ((rC l k).getD [])]))
 | _,_=>.err
noncomputable def SE:zD:=zR [none,none] Tu
theorem PK:FK 132 SE:=by
 refine gy (ι:=List (List (Sem zf))×Int) (args:=fun y=>[AV.vec 0,AV.clo (Fn.func 134) [AV.agg [AV.int .i64 y.2]] []]) (heap:=fun y=>[AO.vec zf.sl y.1]) (i:=fun y=>HX y.1 y.2) (t:=t0) (e:=e0) (n:=100000000) (n0:=1) vd YF (fun _=>rfl) (fun y=>XC _ _) (KO _ _ _ _ _) (fun x h res hv=>?_)
 unfold Tu at hv
 split at hv
 ·rename_i k u l
  simp only [Tr.val] at hv
  split at hv
  ·rename_i h1
   simp only [ag] at hv
   subst hv
   exact ⟨(l,k),rfl,rfl,nq h1⟩
  ·cases hv
 ·simp at hv

noncomputable def L3:=Bz.add 132 SE
theorem FP:zm L3:=vd.add PK
noncomputable section

abbrev Nl:Nat→zX:=fun j=>if j=7 then { slots:=[1,2,34,35] } else { }
inductive Js where
 | h7 (i34:Int) (i35:Int) (ja0:Sem Sh.str) (ja2:Sem zg) (ja5:zn) (ja6:Int) (ja7:Int) (ja8:zn) (ja9:zn) (ja10:List (Sem Sh.expr)) (jb0:List UInt8) (jb2:Int) (jb5:List UInt8) (jb6:Int) (jb7:Int) (jb8:List UInt8) (jb9:List UInt8) (lh_2:List (Sem zi)) (lh_3:List (Sem zg)) (lh_4:List (Sem zp)) (lh_5:List (Sem zf.sl))
abbrev Lz:Js→Nat×St
 | .h7 i34 i35 ja0 ja2 ja5 ja6 ja7 ja8 ja9 ja10 jb0 jb2 jb5 jb6 jb7 jb8 jb9 lh_2 lh_3 lh_4 lh_5=>(7,⟨tm 50 [(1,AV.ptr 0 0),(2,AV.ptr 1 0),(34,AV.int .i64 i34),(35,AV.int .i64 i35)],[AO.box [AV.str ja0,AV.vec 2,AV.int .i64 ja2,AV.vec 3,AV.vec 4,AV.str ja5,AV.int .i64 ja6,AV.int .i64 ja7,AV.str ja8,AV.str ja9,AV.sl Sh.expr ja10,AV.vec 5],AO.box [AV.str jb0,AV.nils,AV.int .i64 jb2,AV.nils,AV.nils,AV.str jb5,AV.int .i64 jb6,AV.int .i64 jb7,AV.str jb8,AV.str jb9,AV.nils,AV.nils],AO.vec zi lh_2,AO.vec zg lh_3,AO.vec zp lh_4,AO.vec zf.sl lh_5]⟩)
theorem zfG:zA DO.P 131 Tryz.f131 1:=aJ (by kernel_rfl)
def Rk (x0:Sem zh):Tr (Js ⊕ zV):=
 Tr.chk (decide (length x0.1.2.1≤1073741824))
 (Tr.chk (decide (length x0.1.2.2.2.1≤1073741824))
  (Tr.chk (decide (length x0.1.2.2.2.2.1≤1073741824)) (Tr.chk (lR 16 (zB x0.1.2.2.2.2.2)) (Tr.chk (decide (length x0.2≤1073741824)) (Tr.to (Js.h7 (↑(length x0.2):Int) 0 x0.1.1 x0.1.2.2.1 (ze.op x0.1.2.2.2.2.2) (ze.v x0.1.2.2.2.2.2).1 (ze.v x0.1.2.2.2.2.2).2.1 (ze.v x0.1.2.2.2.2.2).2.2
  (ze.s x0.1.2.2.2.2.2) (ze.l x0.1.2.2.2.2.2) [] 0 [] 0 0 [] [] x0.1.2.1 x0.1.2.2.2.1 x0.1.2.2.2.2.1 x0.2))))))
theorem zdK (x0:Sem zh):rn DO 0 Nl Tryz.f131 [zz zh x0] []=(Rk x0).map (lf Tryz.f131 Lz):=by kernel_rfl
def KG:Js→Tr (Js ⊕ zV)
 | .h7 i34 i35 ja0 ja2 ja5 ja6 ja7 ja8 ja9 ja10 jb0 jb2 jb5 jb6 jb7 jb8 jb9 lh_2 lh_3 lh_4 lh_5=>
  let a0:=decide (i35.toNat < lh_5.length)
  let a1:=lh_5.getD i35.toNat (zj zf.sl)
  Tr.br (decide (i35 < i34))
  (Tr.chk (zE i35 lh_5.length)
   (Tr.chk a0 (Tr.chk (decide (length a1≤1073741824)) (Tr.chk (zE i35 lh_5.length) (Tr.chk a0 (Tr.to (Js.h7 i34 (IntKind.i64.wrap (i35+1)) ja0 ja2 ja5 ja6 ja7 ja8 ja9 ja10 jb0 jb2 jb5 jb6 jb7 jb8 jb9 lh_2 lh_3 lh_4 (lh_5.set i35.toNat a1))))))))
  (Tr.re
   (AV.agg [AV.str ja0,AV.vec 0,AV.int .i64 ja2,AV.vec 1,AV.vec 2,AV.str ja5,AV.int .i64 ja6,AV.int .i64 ja7,AV.str ja8,AV.str ja9,AV.sl Sh.expr ja10,AV.vec 3])
   [AO.vec zi lh_2,AO.vec zg lh_3,AO.vec zp lh_4,AO.vec zf.sl lh_5])
theorem zgd:∀ s,run DO 0 Nl (Func.results Tryz.f131).toList 400 (zx Tryz.f131 (Lz s).1) (Lz s).2=(KG s).map (lf Tryz.f131 Lz)
 | .h7 i34 i35 ja0 ja2 ja5 ja6 ja7 ja8 ja9 ja10 jb0 jb2 jb5 jb6 jb7 jb8 jb9 lh_2 lh_3 lh_4 lh_5=>by kernel_rfl
end

def Zg (ks:List Sh) (c:zw (ks.map some)→Bool) (g:zw (ks.map some)→zV):cy (ks.map some):=fun x h=>match h with
 | []=>.chk (c x) (.ok (g x))
 | _=>.err

theorem WT {P:Program} {gl:Nat→AV} {σ:Type} {E:bf} {k:FuncId} {f:Func} {ks:List Sh} {keep:Nat→zX} {gas n:Nat} {e:σ→Nat×St} {t:σ→Tr (σ ⊕ zV)} {i:zw (ks.map some)→Tr (σ ⊕ zV)} {c:zw (ks.map some)→Bool} {g:zw (ks.map some)→zV}
  (hE:zm E) (hf:zA E.P k f ks.length) (hgo:∀ x,run E 0 keep f.results.toList gas (au f) (z7 f.ntmps (f6 (ks.map some) x) [])=(i x).map (lf f e))
  (hon:∀ s,run E 0 keep f.results.toList gas (zx f (e s).1) (e s).2=(t s).map (lf f e))
  (hg:∀ x,c x=true→cd t n (i x)=some (g x)) (qp:E.P=P:=by rfl) (qg:E.gl=gl:=by rfl):lF P gl k (zR (ks.map some) (Zg ks c g)):=by
 subst qp qg
 refine bq (by simpa using hf) fun x h0 res hx C hC=>?_
 unfold Zg at hx
 split at hx
 ·simp only [Tr.val] at hx
  split at hx
  ·rename_i hc
   simp only [ag] at hx
   subst hx
   exact kh (n0:=0) hE (by simpa using hf) (fun id _=>hC id (aD _)) (n+1) _ _ _ (by rw [ja hon (hgo x)]; exact hg x hc) rfl
  ·cases hx
 ·simp at hx

def Fz (x:Sem zh):zV:=(AV.agg [AV.str x.1.1,AV.vec 0,AV.int .i64 x.1.2.2.1,AV.vec 1,AV.vec 2,AV.str (ze.op x.1.2.2.2.2.2),AV.int .i64 (ze.v x.1.2.2.2.2.2).1,AV.int .i64 (ze.v x.1.2.2.2.2.2).2.1,AV.str (ze.v x.1.2.2.2.2.2).2.2,AV.str (ze.s x.1.2.2.2.2.2),AV.sl Sh.expr (ze.l x.1.2.2.2.2.2),AV.vec 3],
 [AO.vec zi x.1.2.1,AO.vec zg x.1.2.2.2.1,AO.vec zp x.1.2.2.2.2.1,AO.vec zf.sl x.2])

def Fy (x:Sem zh):Bool:=decide (length x.1.2.1≤1000000)&&decide (length x.1.2.2.2.1≤1000000)&&decide (length x.1.2.2.2.2.1≤1000000)&&lR 16 x.1.2.2.2.2.2&&decide (length x.2≤1000000)&&List.all x.2 (fun r=>decide (length r≤1000000))

theorem OS {α:Type} (l:List α) (d:α) (i:Nat) (h:i < l.length):l.set i (l.getD i d)=l:=by
 rw [aB,zI h,bA]
 exact List.set_getElem_self h

theorem QT (x:Sem zh) (hc:Fy x=true):cd KG 100000000 (Rk x)=some (Fz x):=by
 unfold Fy at hc
 simp only [aE,zZ,cR] at hc
 obtain ⟨⟨⟨⟨⟨h1,h2⟩,h3⟩,h4⟩,h5⟩,h6⟩:=hc
 have hl:=pp (t:=KG) (β:=Unit) (length x.2) (fun _ i=>.h7 (length x.2:Int) (i:Int) x.1.1 x.1.2.2.1 (ze.op x.1.2.2.2.2.2) (ze.v x.1.2.2.2.2.2).1 (ze.v x.1.2.2.2.2.2).2.1 (ze.v x.1.2.2.2.2.2).2.2
   (ze.s x.1.2.2.2.2.2) (ze.l x.1.2.2.2.2.2) [] 0 [] 0 0 [] [] x.1.2.1 x.1.2.2.2.1 x.1.2.2.2.2.1 x.2) (fun _ _=>True) (fun r=>r=Fz x) 1 (by
   intro b i hi _
   have hrow:length (getD x.2 i (zj zf.sl))≤1000000:=h6 _ (by rw [aB,zI hi,bA]; exact cx hi)
   simp only [KG,Tr.val,zW hi,zG hi,if_true,bl,aZ hi,OS _ _ _ hi]
   rw [zH i (by unfold zF; omega),if_pos (aZ (by omega))]
   exact Or.inl ⟨(),trivial,rfl⟩) (by
   intro b n _ hn
   obtain ⟨n,rfl⟩:∃ k,n=k+1:=⟨n - 1,by omega⟩
   rw [qU]
   simp only [KG,Tr.val,z8]
   exact ⟨_,rfl,rfl⟩) (length x.2) 0 () 100000000 rfl (aD _) trivial (by omega)
 obtain ⟨r,hr,rfl⟩:=hl
 unfold cd
 have e1:decide (length x.1.2.1≤1073741824)=true:=aZ (by omega)
 have e2:decide (length x.1.2.2.2.1≤1073741824)=true:=aZ (by omega)
 have e3:decide (length x.1.2.2.2.2.1≤1073741824)=true:=aZ (by omega)
 have e5:decide (length x.2≤1073741824)=true:=aZ (by omega)
 simp only [Rk,Tr.val,e1,e2,e3,e5,zo,h4,if_true]
 exact hr

noncomputable def zaP:zD:=zR ([zh].map some) (Zg [zh] (fun x=>Fy x.1) (fun x=>Fz x.1))
theorem Wj:FK 131 zaP:=WT (ks:=[zh]) (keep:=Nl) (gas:=400) (n:=100000000) (e:=Lz) (t:=KG) (i:=fun x=>Rk x.1) qM zfG (fun x=>zdK x.1) zgd (fun x hc=>QT x.1 hc)
noncomputable section
def L4:=L3.add 131 zaP
theorem ve:zm L4:=FP.add Wj

def XY (x0:Sem zh):Tr (Empty ⊕ zV):=
 let a0:=(x0.1.1,x0.1.2.1,x0.1.2.2.1,x0.1.2.2.2.1,x0.1.2.2.2.2.1,zB x0.1.2.2.2.2.2)
 let a1:=rC x0.2 (-1)
 let a2:=rC x0.2 x0.1.2.2.1
 Tr.chk (Fy (a0,x0.2))
 (Tr.br (!gS a0)
  (Tr.chk a1.isSome (Tr.re (AV.agg [AV.str x0.1.1,AV.vec 0,AV.int .i64 x0.1.2.2.1,AV.vec 1,AV.vec 2,AV.str (ze.op x0.1.2.2.2.2.2),AV.int .i64 (ze.v x0.1.2.2.2.2.2).1,AV.int .i64 (ze.v x0.1.2.2.2.2.2).2.1,AV.str (ze.v x0.1.2.2.2.2.2).2.2,AV.str (ze.s x0.1.2.2.2.2.2),AV.sl Sh.expr (ze.l x0.1.2.2.2.2.2),AV.vec 3]) [AO.vec zi x0.1.2.1,AO.vec zg x0.1.2.2.2.1,
  AO.vec zp x0.1.2.2.2.2.1,AO.vec zf.sl (a1.getD [])]))
  (Tr.chk a2.isSome (Tr.re (AV.agg [AV.str x0.1.1,AV.vec 0,AV.int .i64 x0.1.2.2.1,AV.vec 1,AV.vec 2,AV.str (ze.op x0.1.2.2.2.2.2),AV.int .i64 (ze.v x0.1.2.2.2.2.2).1,AV.int .i64 (ze.v x0.1.2.2.2.2.2).2.1,AV.str (ze.v x0.1.2.2.2.2.2).2.2,AV.str (ze.s x0.1.2.2.2.2.2),AV.sl Sh.expr (ze.l x0.1.2.2.2.2.2),AV.vec 3]) [AO.vec zi x0.1.2.1,AO.vec zg x0.1.2.2.2.1,
  AO.vec zp x0.1.2.2.2.2.1,AO.vec zf.sl (a2.getD [])])))
def Cr (x0:Sem zh):=zT [zh] t0 100000000 (XY x0)
def GZ (x0:Sem zh):=(Cr x0).isSome
def OF (x0:Sem zh):=o1 (Cr x0)
def zba:=FT [zh] [zh] fun x=>Cr x.1
theorem WG:FK 81 zba:=ve.T1 (f:=Tryz.f81) (keep:=k0) (e:=e0)

def L5:=L4.add 81 zba
theorem vg:zm L5:=ve.add WG
end
end Cad
