/- The document's expressions that may be are the program's, and no others. The document's tables that may be are the program's. The document's tables that may be are the program's. The document's tables that may be are the program's: the loops. The document's sameness of expressions and statements: they are the same. The document's sameness of statements, tables, plans: they are the same. The document's sameness of statements: they are the same. The document's plans: sources, who refers, places, conditions. The document's plans: places, conditions. Texts: an octet replaced by two, two by one; tokens. The document's texts of values and expressions: the program's. -/
import Derived.Test.YtfgnbipebgibeaaGreatDoorG16
import Derived.Test.YtfgnbipebgibeaaGreatDoorG15
import Derived.Test.YtfgnbipebgibeaaGreatDoorG12
import Derived.Test.YtfgnbipebgibeaaGreatDoorG13
import Derived.Test.YtfgnbipebgibeaaGreatDoorG14
namespace Cad
open Go Go.Proofs
open Int (toNat)
open List (getD)
open List (length)
set_option maxHeartbeats 4000000

theorem pc:∀ (N k:Nat) (e:ze) (n:Nat),k≤12→n≤60→(gB N e ((13:Int) - k) n).1=true→bV k e=true∧(gB N e ((13:Int) - k) n).2=((n+nE k e:Nat):Int)∧n+nE k e≤60
 | 0,_,_,_,_,_,h=>by cases h
 | N+1,0,e,n,_,_,h=>by
  rw [gB] at h
  unfold wm at h
  rw [if_pos (by rfl)] at h
  cases h
 | N + 1,k+1,.mk op v s l,n,h1,h2,h=>by
  have w1:IntKind.i64.wrap ((n:Int)+1)=((n+1:Nat):Int):=zt n (by unfold zA; omega)
  have w2:IntKind.i64.wrap ((13:Int) - ((k+1:Nat):Int)+1)=(13:Int) - (k:Int):=by rw [fD]; omega
  have d1:decide ((13:Int) - ((k+1:Nat):Int) > 12)=false:=ao (by omega)
  rw [gB] at h ⊢
  have e0:∀ m:Int,wm (gB N) (.mk op v s l) m n=if (bif decide (m > 12) then true else bif decide (((n+1:Nat):Int) > 60) then true else (↑l.length:Int) != cE op)=true then (false,((n+1:Nat):Int)) else
    if (op==[108,105,116])=true then (bif s==[] then ce v else false,((n+1:Nat):Int)) else
    if (op==[99,111,108])=true then (bif aU v then bif dC s then !iB s else false else false,((n+1:Nat):Int)) else
    if (bif !aU v then true else !s==[])=true then (false,((n+1:Nat):Int)) else nr (gB N) m l ((n+1:Nat):Int):=by
   intro m
   unfold wm
   rw [w1]
   rfl
  rw [e0,d1] at h ⊢
  rcases zG (decide (((n+1:Nat):Int) > 60)) with c0 | c0
  ·rw [c0,if_pos (by rfl)] at h; cases h
  rcases zG ((↑l.length:Int) != cE op) with c1 | c1
  ·rw [c0,c1,if_pos (by rfl)] at h; cases h
  have hn:n+1≤60:=by simp at c0; omega
  have hp:(l.length:Int)=cE op:=by simpa using c1
  rw [c0,c1,if_neg (by simp)] at h ⊢
  rcases kM op with ⟨p,ho⟩ | ⟨p,ho⟩ | ⟨p,ho⟩ | p
  ·have hl:l=[]:=t7 (by omega)
   subst hl
   rcases ho with rfl | rfl
   ·rw [if_pos (by rfl)] at h ⊢
    obtain ⟨a,b⟩:=bW h
    refine ⟨?_,by simp [nE],by simp [nE]; omega⟩
    simp [bV,b,bB a]
   ·rw [if_neg (by decide),if_pos (by rfl)] at h ⊢
    obtain ⟨a,b⟩:=bW h
    obtain ⟨b,c⟩:=bW b
    refine ⟨?_,by simp [nE],by simp [nE]; omega⟩
    have c':iB s=false:=by simpa using c
    simp [bV,a,b,c']
  ·obtain ⟨a,rfl⟩:∃ a,l=[a]:=List.length_eq_one_iff.1 (by omega)
   have o1:(op==[108,105,116])=false:=by rcases ho with rfl | rfl <;> rfl
   have o2:(op==[99,111,108])=false:=by rcases ho with rfl | rfl <;> rfl
   have o3:(bif op==[110,111,116] then true else op==[110,117,108,108])=true:=by rcases ho with rfl | rfl <;> rfl
   rw [if_neg (by rw [o1]; simp),if_neg (by rw [o2]; simp)] at h ⊢
   rcases zG (aU v) with c2 | c2
   ·rcases zG (s==[]) with c3 | c3
    ·rw [c2,c3,if_neg (by simp)] at h ⊢
     rw [nr,w2] at h ⊢
     rcases zG (gB N a ((13:Int) - (k:Int)) ((n+1:Nat):Int)).1 with c4 | c4
     ·obtain ⟨i1,i2,i3⟩:=pc N k a (n+1) (by omega) hn c4
      rw [c4,if_neg (by simp)]
      refine ⟨by simp [bV,o1,o2,o3,c2,c3,i1],?_,by simp [nE]; omega⟩
      rw [nr]
      show (gB N a ((13:Int) - (k:Int)) ((n+1:Nat):Int)).2=_
      rw [i2]; simp [nE]; omega
     ·rw [c4,if_pos (by rfl)] at h; cases h
    ·rw [c2,c3,if_pos (by rfl)] at h; cases h
   ·rw [c2,if_pos (by rfl)] at h; cases h
  ·obtain ⟨a,b,rfl⟩:∃ a b,l=[a,b]:=by
    match l,hp with
    | [a,b],_=>exact ⟨a,b,rfl⟩
    | [],hp=>exact absurd hp (by rw [p]; simp)
    | [_],hp=>exact absurd hp (by rw [p]; simp)
    | _::_::_::_,hp=>exact absurd hp (by rw [p]; simp; omega)
   have o1:(op==[108,105,116])=false:=by rcases ho with rfl | rfl | rfl | rfl | rfl | rfl <;> rfl
   have o2:(op==[99,111,108])=false:=by rcases ho with rfl | rfl | rfl | rfl | rfl | rfl <;> rfl
   have o3:(bif op==[110,111,116] then true else op==[110,117,108,108])=false:=by rcases ho with rfl | rfl | rfl | rfl | rfl | rfl <;> rfl
   have o4:BL op=true:=by rcases ho with rfl | rfl | rfl | rfl | rfl | rfl <;> rfl
   rw [if_neg (by rw [o1]; simp),if_neg (by rw [o2]; simp)] at h ⊢
   rcases zG (aU v) with c2 | c2
   ·rcases zG (s==[]) with c3 | c3
    ·rw [c2,c3,if_neg (by simp)] at h ⊢
     rw [nr,w2] at h ⊢
     rcases zG (gB N a ((13:Int) - (k:Int)) ((n+1:Nat):Int)).1 with c4 | c4
     ·obtain ⟨i1,i2,i3⟩:=pc N k a (n+1) (by omega) hn c4
      rw [c4,if_neg (by simp)] at h ⊢
      rw [i2,nr,w2] at h ⊢
      rcases zG (gB N b ((13:Int) - (k:Int)) ((n+1+nE k a:Nat):Int)).1 with c5 | c5
      ·obtain ⟨j1,j2,j3⟩:=pc N k b (n+1+nE k a) (by omega) i3 c5
       rw [c5,if_neg (by simp)]
       refine ⟨by simp [bV,o1,o2,o3,o4,c2,c3,i1,j1],?_,by simp [nE]; omega⟩
       rw [nr]
       show (gB N b ((13:Int) - (k:Int)) ((n+1+nE k a:Nat):Int)).2=_
       rw [j2]; simp [nE]; omega
      ·rw [c5,if_pos (by rfl)] at h; cases h
     ·rw [c4,if_pos (by rfl)] at h; cases h
    ·rw [c2,c3,if_pos (by rfl)] at h; cases h
   ·rw [c2,if_pos (by rfl)] at h; cases h
  ·omega

theorem ug (e:ze):cM e=(bif bV 12 e then decide (nE 12 e≤60) else false):=by
 unfold cM
 rcases zG (gB 16 e 1 0).1 with c | c
 ·obtain ⟨h1,_,h3⟩:=pc 16 12 e 0 (by omega) (by omega) c
  rw [c,h1,zu (by omega)]; rfl
 ·rw [c]
  rcases zG (bV 12 e) with g | g
  ·rw [g]
   by_cases h:nE 12 e≤60
   ·have:=pd 16 12 e 0 (by omega) (by omega) g (by omega)
    have h2:(gB 16 e 1 0).1=true:=by
     have e1:gB 16 e 1 0=(true,((0+nE 12 e:Nat):Int)):=this
     rw [e1]
    rw [h2] at c; cases c
   ·rw [ao h]; rfl
  ·rw [g]; rfl

theorem Hp {e:ze} (hw:mX e):Am e=some (cM e,()):=by
 have hf:EF e 12=some (bV 12 e,()):=Da 16 12 e (by omega) (by omega) hw
 have hfc:wP e 12=true:=by unfold wP; rw [hf]; rfl
 have hfv:EE e 12=bV 12 e:=by unfold EE; rw [hf]; rfl
 unfold Am aA cL
 simp only [zcg,Tr.val,zn,hfc,hfv]
 rw [ug]
 rcases zG (bV 12 e) with g | g
 ·have hn:Ao e=some ((nE 12 e:Int),()):=mM 16 12 e (by omega) (by omega) g
  have hnc:sX e=true:=by unfold sX; rw [hn]; rfl
  have hnv:wQ e=(nE 12 e:Int):=by unfold wQ; rw [hn]; rfl
  rw [g,hnc,hnv]
  have:decide (((nE 12 e:Nat):Int)≤60)=decide (nE 12 e≤60):=by
   by_cases h:nE 12 e≤60
   ·rw [zu h,zu (by omega)]
   ·rw [ao h,ao (by omega)]
  rw [this]
  rfl
 ·rw [g]; rfl
theorem lM {e:ze} (hw:mX e):uR e=true:=by unfold uR; rw [Hp hw]; rfl
theorem pu {e:ze} (hw:mX e):C9 e=cM e:=by unfold C9; rw [Hp hw]; rfl

theorem jS {e:ze} (h:cM e=true):bV 12 e=true:=by
 rw [ug] at h
 exact (bW h).1

theorem Hr {e:ze} {cols:List (Sem zh)} (hl:cols.length≤1000000) (h:cM e=true):wO e cols=some ((bD e cols).1,(bD e cols).2,()):=by
 have:=pz hl 16 12 16 e (by omega) (by omega) (jS h)
 unfold wO bD
 rw [this,h]
 rfl
theorem P3 {e:ze} {cols:List (Sem zh)} {row:List (Sem zg)} (hl:cols.length≤1000000) (hr:∀ v∈row,kr v) (hw:mX e) (h:cM e=true):wM e cols row=some (ia e cols row,()):=by
 have:=(pt hl hr 16 12 16 e (by omega) (by omega) (jS h) hw).1
 unfold wM ia
 rw [this,h]
 rfl

theorem AX (e:ze):eQ 16 e uI=(e.op==[]&&(aU e.v&&(e.s==[]&&e.l.length==0))):=by
 show HQ (eQ 15) e uI=_
 unfold HQ Iv QG aU
 obtain ⟨op,v,s,l⟩:=e
 simp only [ze.op,ze.v,ze.s,ze.l]
 cases l with
 | nil=>
  simp only [xH,R5]
  cases (op==[]) <;> cases (v.1==0&&(v.2.1==0&&(v.2.2==[]&&true))) <;> cases (s==[]) <;> rfl
 | cons x r=>
  have:(((x::r).length:Int) != (([]:List ze).length:Int))=true:=by simp; omega
  simp only [this]
  cases (op==[]) <;> cases (v.1==0&&(v.2.1==0&&(v.2.2==[]&&true))) <;> cases (s==[]) <;> rfl

theorem Jg (e:ze):wN e uI=some (eQ 16 e uI,()):=by
 rw [AX]
 show bI 16 e uI=_
 rw [bI]
 unfold EC
 rcases zG (e.op==[]) with c1 | c1
 ·rcases zG (aU e.v) with c2 | c2
  ·rcases zG (e.s==[]) with c3 | c3
   ·by_cases c4:e.l.length=0
    ·refine zD (s:=.h4 0 (e,()) (uI,())) (k:=1) (r:=(.kb true,[])) ?_ (ah.of ?_) (by omega) ?_
     ·unfold aU at c2
      simp only [yH,Tr.val]
      have c4':(((ze.l e).length:Int) != (([]:List ze).length:Int))=false:=by simp [c4]
      show (if (bif !(e.op==[]) then true else bif !(e.v.1==0&&(e.v.2.1==0&&(e.v.2.2==[]&&true))) then true else bif !(e.s==[]) then true else ((ze.l e).length:Int) != (([]:List ze).length:Int))=true then _ else _)=_
      rw [c1,c2,c3,c4']
      rfl
     ·have c5:decide ((0:Int) < ((ze.l e).length:Int))=false:=ao (by rw [c4]; omega)
      simp only [Fq,Fr,xn,Tr.val]
      rw [c5]
      rfl
     ·rw [c1,c2,c3,c4]; rfl
    ·have c4':(((ze.l e).length:Int) != (([]:List ze).length:Int))=true:=bne_iff_ne.2 (by show ((ze.l e).length:Int)≠0; omega)
     have c5:((ze.l e).length==0)=false:=bO.2 c4
     refine zY (r:=(.kb false,[])) ?_ ?_
     ·unfold aU at c2
      simp only [yH,Tr.val]
      show (if (bif !(e.op==[]) then true else bif !(e.v.1==0&&(e.v.2.1==0&&(e.v.2.2==[]&&true))) then true else bif !(e.s==[]) then true else ((ze.l e).length:Int) != (([]:List ze).length:Int))=true then _ else _)=_
      rw [c1,c2,c3,c4']
      rfl
     ·rw [c1,c2,c3,c5]; rfl
   ·refine zY (r:=(.kb false,[])) ?_ ?_
    ·unfold aU at c2
     simp only [yH,Tr.val]
     show (if (bif !(e.op==[]) then true else bif !(e.v.1==0&&(e.v.2.1==0&&(e.v.2.2==[]&&true))) then true else bif !(e.s==[]) then true else ((ze.l e).length:Int) != (([]:List ze).length:Int))=true then _ else _)=_
     rw [c1,c2,c3]
     rfl
    ·rw [c1,c2,c3]; rfl
  ·refine zY (r:=(.kb false,[])) ?_ ?_
   ·unfold aU at c2
    simp only [yH,Tr.val]
    show (if (bif !(e.op==[]) then true else bif !(e.v.1==0&&(e.v.2.1==0&&(e.v.2.2==[]&&true))) then true else bif !(e.s==[]) then true else ((ze.l e).length:Int) != (([]:List ze).length:Int))=true then _ else _)=_
    rw [c1,c2]
    rfl
   ·rw [c1,c2]; rfl
 ·refine zY (r:=(.kb false,[])) ?_ ?_
  ·simp only [yH,Tr.val]
   show (if (bif !(e.op==[]) then true else bif !(e.v.1==0&&(e.v.2.1==0&&(e.v.2.2==[]&&true))) then true else bif !(e.s==[]) then true else ((ze.l e).length:Int) != (([]:List ze).length:Int))=true then _ else _)=_
   rw [c1]
   rfl
  ·rw [c1]; rfl

theorem J8 {e:ze} (h:cM e=true):(e.op==[])=false:=by
 have hg:=jS h
 cases fe hg with
 | lit v hv=>rfl
 | col s hw hr=>rfl
 | one op a ho ha=>rcases ho with rfl | rfl <;> rfl
 | two op a b ho ha hb=>rcases ho with rfl | rfl | rfl | rfl | rfl | rfl <;> rfl

theorem As {e:ze} {cols:List (Sem zh)} (hw:mX e) (hl:cols.length≤1000000):ow e cols=some (ej e cols,()):=by
 have hs:=Jg e
 have hsc:eP e uI=true:=by unfold eP; rw [hs]; rfl
 have hsv:da e uI=eQ 16 e uI:=by unfold da; rw [hs]; rfl
 unfold ow aA cL
 simp only [Us,Tr.val,zn,lM hw,pu hw]
 unfold ej
 rcases zG (e.op==[]) with c | c
 ·have hm:cM e=false:=by
   rcases zG (cM e) with h | h
   ·rw [J8 h] at c; cases c
   ·exact h
  have ht:bD e cols=(0,1):=by unfold bD; rw [hm]; rfl
  rw [c,hsc,hsv,ht]
  rcases zG (eQ 16 e uI) with h | h <;> rw [h] <;> rfl
 ·have hn:eQ 16 e uI=false:=by rw [AX,c]; rfl
  rw [c,hn]
  rcases zG (cM e) with h | h
  ·have ht:=Hr (cols:=cols) hl h
   have htc:mK e cols=true:=by unfold mK; rw [ht]; rfl
   have htv:gQ e cols=bD e cols:=by unfold gQ; rw [ht]; rfl
   rw [h,htc,htv]
   generalize bD e cols=t
   obtain ⟨t,r⟩:=t
   rcases zG (r==0) with k1 | k1
   ·have e0:r=0:=bB k1
    subst e0
    rcases zG (t==0) with k2 | k2 <;> rcases zG (t==3) with k3 | k3 <;> (simp only [bne,k2,k3]; rfl)
   ·simp only [bne,k1]
    rfl
  ·have ht:bD e cols=(0,1):=by unfold bD; rw [h]; rfl
   rw [h,ht]
   rfl

structure kB (t:Sem zl):Prop where
 name:zJ t.1=true
 n1:1≤t.2.1.length
 n8:t.2.1.length≤8
 cols:∀ i,i < t.2.1.length→zJ (getD t.2.1 i (zi zh)).1=true∧LE.le (α:=Int) 1 (getD t.2.1 i (zi zh)).2.1∧LE.le (α:=Int) (getD t.2.1 i (zi zh)).2.1 3∧zQ t.2.1 (getD t.2.1 i (zi zh)).1=(i:Int)
 uniq:∀ u∈t.2.2.2.1,lB u t.2.1.length
 refs:∀ f∈t.2.2.2.2.1,lB f.1 t.2.1.length∧zJ f.2=true
 key:lB t.2.2.1 t.2.1.length
 nn:(getD t.2.1 (toNat t.2.2.1) (zi zh)).2.2=true
 chk:ej t.2.2.2.2.2 t.2.1=(0:Int)

theorem IM (x:Int) (n:Nat):(bif decide (x ≥ 0) then decide (x < (n:Int)) else false)=true↔lB x n:=by
 unfold lB
 by_cases h:x ≥ 0
 ·rw [zu h]; simp; omega
 ·rw [ao h]; simp; omega

theorem wg {a0:zw} {cols:List (Sem zh)} {key:Int} {uq:List (Sem zf)} {rf:List (Sem zq)} {op:zw} {k n:Int} {vs s:zw} {l:List (Sem Sh.expr)}:∀ (r:List (Sem zq)) (i:Int),eT a0 cols key uq rf op k n vs s l r i=true↔
  ((∀ f∈r,lB f.1 cols.length∧zJ f.2=true)∧lB key cols.length∧(getD cols (toNat key) (zi zh)).2.2=true∧ej (.mk op (k,n,vs) s l) cols=(0:Int))
 | [],i=>by
  rw [eT,← IM]
  rcases zG (bif decide (key ≥ 0) then decide (key < (cols.length:Int)) else false) with c | c
  ·rw [if_pos c]
   rcases zG (getD cols (toNat key) (zi zh)).2.2 with c2 | c2
   ·rw [if_pos c2]
    constructor
    ·intro h; exact ⟨fun f hf=>(by cases hf),c,c2,bB h⟩
    ·intro h; rw [h.2.2.2]; rfl
   ·rw [if_neg (by rw [c2]; simp)]
    exact ⟨fun h=>(by cases h),fun h=>by rw [h.2.2.1] at c2; cases c2⟩
  ·rw [if_neg (by rw [c]; simp)]
   exact ⟨fun h=>(by cases h),fun h=>by rw [h.2.1] at c; cases c⟩
 | f::r,i=>by
  rw [eT]
  have ih:=wg (a0:=a0) (cols:=cols) (key:=key) (uq:=uq) (rf:=rf) (op:=op) (k:=k) (n:=n) (vs:=vs) (s:=s) (l:=l) r (i+1)
  simp only [dQ,forall_eq_or_imp]
  rw [← IM f.1]
  rcases zG (bif decide (f.1 ≥ 0) then decide (f.1 < (cols.length:Int)) else false) with c | c
  ·rw [c,if_neg (by simp)]
   rcases zG (zJ f.2) with c2 | c2
   ·rw [c2,if_neg (by simp),ih]
    simp
   ·rw [c2,if_pos (by rfl)]
    simp
  ·rw [c,if_pos (by rfl)]
   simp

theorem we {a0:zw} {cols:List (Sem zh)} {key:Int} {uq:List (Sem zf)} {rf:List (Sem zq)} {op:zw} {k n:Int} {vs s:zw} {l:List (Sem Sh.expr)}:∀ (r:List (Sem zf)) (i:Int),eS a0 cols key uq rf op k n vs s l r i=true↔
  ((∀ u∈r,lB u cols.length)∧(∀ f∈rf,lB f.1 cols.length∧zJ f.2=true)∧lB key cols.length∧(getD cols (toNat key) (zi zh)).2.2=true∧ej (.mk op (k,n,vs) s l) cols=(0:Int))
 | [],i=>by
  rw [eS,wg]
  simp
 | u::r,i=>by
  rw [eS]
  have ih:=we (a0:=a0) (cols:=cols) (key:=key) (uq:=uq) (rf:=rf) (op:=op) (k:=k) (n:=n) (vs:=vs) (s:=s) (l:=l) r (i+1)
  simp only [dQ,forall_eq_or_imp]
  rw [← IM u]
  rcases zG (bif decide (GE.ge (α:=Int) u 0) then decide (LT.lt (α:=Int) u (cols.length:Int)) else false) with c | c
  ·rw [c,if_neg (by simp),ih]
   simp
  ·rw [c,if_pos (by rfl)]
   simp

theorem Bd {a0:zw} {cols:List (Sem zh)} {key:Int} {uq:List (Sem zf)} {rf:List (Sem zq)} {op:zw} {k n:Int} {vs s:zw} {l:List (Sem Sh.expr)}:∀ (r:List (Sem zh)) (i:Nat),g7 a0 cols key uq rf op k n vs s l r (i:Int)=true↔
  ((∀ j,j < r.length→zJ (getD r j (zi zh)).1=true∧LE.le (α:=Int) 1 (getD r j (zi zh)).2.1∧LE.le (α:=Int) (getD r j (zi zh)).2.1 3∧zQ cols (getD r j (zi zh)).1=((i+j:Nat):Int))∧
   (∀ u∈uq,lB u cols.length)∧(∀ f∈rf,lB f.1 cols.length∧zJ f.2=true)∧lB key cols.length∧(getD cols (toNat key) (zi zh)).2.2=true∧ej (.mk op (k,n,vs) s l) cols=(0:Int))
 | [],i=>by
  rw [g7,we]
  simp
 | x :: r,i=>by
  rw [g7]
  have ih:=Bd (a0:=a0) (cols:=cols) (key:=key) (uq:=uq) (rf:=rf) (op:=op) (k:=k) (n:=n) (vs:=vs) (s:=s) (l:=l) r (i+1)
  have hsplit:(∀ j,j < (x::r).length→zJ (getD (x::r) j (zi zh)).1=true∧LE.le (α:=Int) 1 (getD (x::r) j (zi zh)).2.1∧LE.le (α:=Int) (getD (x::r) j (zi zh)).2.1 3∧zQ cols (getD (x::r) j (zi zh)).1=((i+j:Nat):Int))↔
    ((zJ x.1=true∧LE.le (α:=Int) 1 x.2.1∧LE.le (α:=Int) x.2.1 3∧zQ cols x.1=(i:Int))∧∀ j,j < r.length→zJ (getD r j (zi zh)).1=true∧LE.le (α:=Int) 1 (getD r j (zi zh)).2.1∧LE.le (α:=Int) (getD r j (zi zh)).2.1 3∧zQ cols (getD r j (zi zh)).1=((i+1+j:Nat):Int)):=by
   constructor
   ·intro h
    refine ⟨h 0 (by simp),fun j hj=>?_⟩
    have:=h (j+1) (by simp; omega)
    rw [show i+1+j=i+(j+1) by omega]
    exact this
   ·rintro ⟨h0,h⟩ j hj
    cases j with
    | zero=>exact h0
    | succ j=>
     have:=h j (by simpa using hj)
     rw [show i+1+j=i+(j+1) by omega] at this
     exact this
  rw [hsplit]
  have ep:ae (a0,cols,key,uq,rf,ze.mk op (k,n,vs) s l) x.1=zQ cols x.1:=rfl
  have hc:(bif !zJ x.1 then true else bif decide (LT.lt (α:=Int) x.2.1 1) then true else bif decide (GT.gt (α:=Int) x.2.1 3) then true else zQ cols x.1 != (i:Int))=false↔(zJ x.1=true∧LE.le (α:=Int) 1 x.2.1∧LE.le (α:=Int) x.2.1 3∧zQ cols x.1=(i:Int)):=by
   rcases zG (zJ x.1) with c | c
   ·rw [c]
    by_cases h1:LT.lt (α:=Int) x.2.1 1
    ·rw [zu h1]; simp; omega
    ·rw [ao h1]
     by_cases h2:GT.gt (α:=Int) x.2.1 3
     ·rw [zu h2]; simp; omega
     ·rw [ao h2]
      exact ⟨fun h=>⟨rfl,by omega,by omega,by simpa using h⟩,fun h=>by simpa using h.2.2.2⟩
   ·rw [c]; simp
  rw [ep]
  rcases zG (bif !zJ x.1 then true else bif decide (LT.lt (α:=Int) x.2.1 1) then true else bif decide (GT.gt (α:=Int) x.2.1 3) then true else zQ cols x.1 != (i:Int)) with c | c
  ·rw [if_pos c]
   constructor
   ·intro h; cases h
   ·intro h
    rw [hc.2 h.1.1] at c; cases c
  ·rw [if_neg (by rw [c]; simp)]
   have:=hc.1 c
   rw [show ((i:Int)+1)=((i+1:Nat):Int) by omega,ih]
   constructor
   ·intro h; exact ⟨⟨this,h.1⟩,h.2⟩
   ·intro h; exact ⟨h.1.2,h.2⟩

theorem oG (t:Sem zl):eD t=true↔kB t:=by
 unfold eD
 have e0:ze.mk (ze.op t.2.2.2.2.2) ((ze.v t.2.2.2.2.2).1,(ze.v t.2.2.2.2.2).2.1,(ze.v t.2.2.2.2.2).2.2) (ze.s t.2.2.2.2.2) (ze.l t.2.2.2.2.2)=t.2.2.2.2.2:=ze.eta _
 rcases zG (zJ t.1) with c | c
 ·by_cases h1:t.2.1.length < 1
  ·rw [c,zu (by omega:(t.2.1.length:Int) < 1),if_pos (by rfl)]
   exact ⟨fun h=>(by cases h),fun h=>by have:=h.n1; omega⟩
  ·by_cases h2:8 < t.2.1.length
   ·rw [c,ao (by omega:¬ (t.2.1.length:Int) < 1),zu (by omega:(t.2.1.length:Int) > 8),if_pos (by rfl)]
    exact ⟨fun h=>(by cases h),fun h=>by have:=h.n8; omega⟩
   ·rw [c,ao (by omega:¬ (t.2.1.length:Int) < 1),ao (by omega:¬ (t.2.1.length:Int) > 8),if_neg (by simp)]
    have:=Bd (a0:=t.1) (cols:=t.2.1) (key:=t.2.2.1) (uq:=t.2.2.2.1) (rf:=t.2.2.2.2.1) (op:=ze.op t.2.2.2.2.2) (k:=(ze.v t.2.2.2.2.2).1) (n:=(ze.v t.2.2.2.2.2).2.1) (vs:=(ze.v t.2.2.2.2.2).2.2) (s:=ze.s t.2.2.2.2.2) (l:=ze.l t.2.2.2.2.2) t.2.1 0
    rw [e0] at this
    refine Iff.trans this ?_
    constructor
    ·rintro ⟨k1,k2,k3,k4,k5,k6⟩
     exact ⟨c,by omega,by omega,fun i hi=>by have:=k1 i hi; rwa [gE] at this,k2,k3,k4,k5,k6⟩
    ·intro h
     exact ⟨fun i hi=>by have:=h.cols i hi; rwa [gE],h.uniq,h.refs,h.key,h.nn,h.chk⟩
 ·rw [c,if_pos (by rfl)]
  exact ⟨fun h=>(by cases h),fun h=>by rw [h.name] at c; cases c⟩

structure FB (t:Sem zl):Prop where
 name:t.1.length≤1000000
 cols:∀ c∈t.2.1,length c.1≤1000000
 ncols:t.2.1.length≤1000
 nuq:t.2.2.2.1.length≤1000
 nrf:t.2.2.2.2.1.length≤1000
 refs:∀ f∈t.2.2.2.2.1,length f.2≤1000000
 chk:mX t.2.2.2.2.2

theorem J6 {b:Bool} {x p i:Int}:(bif !b then true else bif decide (x < 1) then true else bif decide (x > 3) then true else p != i)=false↔(b=true∧1≤x∧x≤3∧p=i):=by
 cases b
 ·simp
 ·by_cases h1:x < 1
  ·rw [zu h1]; simp; omega
  ·rw [ao h1]
   by_cases h2:x > 3
   ·rw [zu h2]; simp; omega
   ·rw [ao h2]
    exact ⟨fun h=>⟨rfl,by omega,by omega,by simpa using h⟩,fun h=>by simpa using h.2.2.2⟩
theorem KL {x:Int} {n:Nat}:(bif decide (x < 0) then true else decide (x ≥ (n:Int)))=true↔¬ lB x n:=by
 unfold lB
 by_cases h:x < 0
 ·rw [zu h]; simp; omega
 ·rw [ao h]; simp; omega

theorem Hv {t:Sem zl} (hw:FB t):EJ t=some (eD t,()):=by
 have hiff:=oG t
 have hn1:=hw.ncols
 have hn2:=hw.nuq
 have hn3:=hw.nrf
 have no:∀ r:aF,r=(.kb false,[])→¬ kB t→az r.2 [Sh.bool] r.1=some (eD t,()):=by
  intro r hr h
  have:eD t=false:=by
   rcases zG (eD t) with c | c
   ·exact absurd (hiff.1 c) h
   ·exact c
  rw [hr,this]; rfl
 have hi:(XF t).val=if (bif !zJ t.1 then true else bif decide ((t.2.1.length:Int) < 1) then true else bif decide ((t.2.1.length:Int) > 8) then true else bif decide (LT.lt (α:=Int) t.2.2.1 0) then true else bif decide (GE.ge (α:=Int) t.2.2.1 (t.2.1.length:Int)) then true else !(getD t.2.1 (toNat t.2.2.1) (zi zh)).2.2)=true then some (.inr (.kb false,[])) else some (.inl (.h5 (t.2.1.length:Int) ((0:Nat):Int) (t,()))):=by
  simp only [XF,Tr.val,bm hw.name,eA hw.name]
  rw [if_pos]
  ·rfl
  ·rcases zG (zJ t.1) with c | c
   ·rw [c]
    by_cases k1:LT.lt (α:=Int) t.2.2.1 0
    ·rw [zu k1]; cases decide ((t.2.1.length:Int) < 1) <;> cases decide ((t.2.1.length:Int) > 8) <;> rfl
    ·by_cases k2:GE.ge (α:=Int) t.2.2.1 (t.2.1.length:Int)
     ·rw [zu k2]; cases decide ((t.2.1.length:Int) < 1) <;> cases decide ((t.2.1.length:Int) > 8) <;> cases decide (LT.lt (α:=Int) t.2.2.1 0) <;> rfl
     ·have:zR t.2.2.1 t.2.1.length=true:=sw ⟨by omega,by omega⟩
      rw [this]; cases decide ((t.2.1.length:Int) < 1) <;> cases decide ((t.2.1.length:Int) > 8) <;> cases decide (LT.lt (α:=Int) t.2.2.1 0) <;> cases decide (GE.ge (α:=Int) t.2.2.1 (t.2.1.length:Int)) <;> rfl
   ·rw [c]; rfl
 rcases zG (bif !zJ t.1 then true else bif decide ((t.2.1.length:Int) < 1) then true else bif decide ((t.2.1.length:Int) > 8) then true else bif decide (LT.lt (α:=Int) t.2.2.1 0) then true else bif decide (GE.ge (α:=Int) t.2.2.1 (t.2.1.length:Int)) then true else !(getD t.2.1 (toNat t.2.2.1) (zi zh)).2.2) with c | c
 ·rw [if_pos c] at hi
  refine zY hi (no _ rfl fun h=>?_)
  obtain ⟨k1,k2⟩:=h.key
  have e1:=h.n1
  have e2:=h.n8
  rw [h.name,ao (by omega),ao (by omega),ao (by omega),ao (by omega),h.nn] at c
  cases c
 rw [if_neg (by rw [c]; simp)] at hi
 have hname:zJ t.1=true:=by
  rcases zG (zJ t.1) with k | k
  ·exact k
  ·rw [k] at c; cases c
 rw [hname] at c
 have h1:1≤t.2.1.length:=by
  by_cases k:(t.2.1.length:Int) < 1
  ·rw [zu k] at c; cases c
  ·omega
 rw [ao (by omega:¬ (t.2.1.length:Int) < 1)] at c
 have h8:t.2.1.length≤8:=by
  by_cases k:(t.2.1.length:Int) > 8
  ·rw [zu k] at c; cases c
  ·omega
 rw [ao (by omega:¬ (t.2.1.length:Int) > 8)] at c
 have hk0:LE.le (α:=Int) 0 t.2.2.1:=by
  by_cases k:LT.lt (α:=Int) t.2.2.1 0
  ·rw [zu k] at c; cases c
  ·omega
 rw [ao (by omega:¬ LT.lt (α:=Int) t.2.2.1 0)] at c
 have hkn:LT.lt (α:=Int) t.2.2.1 (t.2.1.length:Int):=by
  by_cases k:GE.ge (α:=Int) t.2.2.1 (t.2.1.length:Int)
  ·rw [zu k] at c; cases c
  ·omega
 rw [ao (by omega:¬ GE.ge (α:=Int) t.2.2.1 (t.2.1.length:Int))] at c
 have hnn:(getD t.2.1 (toNat t.2.2.1) (zi zh)).2.2=true:=by simpa using c
 have f5:=lm (t:=pY) (Φ:=fun r=>r=(.kb false,[])) 1 (fun i=>.h5 (t.2.1.length:Int) (i:Int) (t,())) (fun i=>zJ (getD t.2.1 i (zi zh)).1=true∧LE.le (α:=Int) 1 (getD t.2.1 i (zi zh)).2.1∧LE.le (α:=Int) (getD t.2.1 i (zi zh)).2.1 3∧zQ t.2.1 (getD t.2.1 i (zi zh)).1=(i:Int)) t.2.1.length (by
  intro i hi _
  have hcl:=hw.cols _ (bG (d:=zi zh) hi)
  have hv:(pY (.h5 (t.2.1.length:Int) (i:Int) (t,()))).val=if (bif !zJ (getD t.2.1 i (zi zh)).1 then true else bif decide (LT.lt (α:=Int) (getD t.2.1 i (zi zh)).2.1 1) then true else bif decide (GT.gt (α:=Int) (getD t.2.1 i (zi zh)).2.1 3) then true else zQ t.2.1 (getD t.2.1 i (zi zh)).1 != (i:Int))=true then some (.inr (.kb false,[])) else some (.inl (.h5 (t.2.1.length:Int) ((i+1:Nat):Int) (t,()))):=by
   simp only [pY,Tr.val,zM hi,zB hi,bd,bm hcl,eA hcl,iz (show t.2.1.length≤1000000 by omega),jI (show t.2.1.length≤1000000 by omega),if_true]
   rw [if_pos,zt i (by unfold zA; omega)]
   cases zJ (getD t.2.1 i (zi zh)).1 <;> cases decide (LT.lt (α:=Int) (getD t.2.1 i (zi zh)).2.1 1) <;> cases decide (GT.gt (α:=Int) (getD t.2.1 i (zi zh)).2.1 3) <;> rfl
  rcases zG (bif !zJ (getD t.2.1 i (zi zh)).1 then true else bif decide (LT.lt (α:=Int) (getD t.2.1 i (zi zh)).2.1 1) then true else bif decide (GT.gt (α:=Int) (getD t.2.1 i (zi zh)).2.1 3) then true else zQ t.2.1 (getD t.2.1 i (zi zh)).1 != (i:Int)) with c | c
  ·refine .inr ⟨fun h=>?_,_,ah.of (by rw [hv,if_pos c]),rfl⟩
   rw [J6.2 h] at c; cases c
  ·exact .inl ⟨J6.1 c,ap.of (by rw [hv,if_neg (by rw [c]; simp)])⟩)
 rcases f5 with ⟨p5,f5⟩ | ⟨p5,r,f5,hr⟩
 case inr=>exact zD hi f5 (by omega) (no _ hr fun h=>p5 h.cols)
 have v5:(pY (.h5 (t.2.1.length:Int) (t.2.1.length:Int) (t,()))).val=some (.inl (.h11 (t.2.1.length:Int) ((0:Nat):Int) (t,()))):=by
  simp only [pY,Tr.val,zH]
  rfl
 have g11:=f5.trans (ap.of v5)
 have f11:=lm (t:=pY) (Φ:=fun r=>r=(.kb false,[])) 1 (fun i=>.h11 (t.2.1.length:Int) (i:Int) (t,())) (fun i=>lB (getD t.2.2.2.1 i (zi zf)) t.2.1.length) t.2.2.2.1.length (by
  intro i hi _
  have hv:(pY (.h11 (t.2.1.length:Int) (i:Int) (t,()))).val=if (bif decide (LT.lt (α:=Int) (getD t.2.2.2.1 i (zi zf)) 0) then true else decide (GE.ge (α:=Int) (getD t.2.2.2.1 i (zi zf)) (t.2.1.length:Int)))=true then some (.inr (.kb false,[])) else some (.inl (.h11 (t.2.1.length:Int) ((i+1:Nat):Int) (t,()))):=by
   simp only [pY,Tr.val,zM hi,zB hi,bd,if_true]
   rw [if_pos,zt i (by unfold zA; omega)]
   cases decide (LT.lt (α:=Int) (getD t.2.2.2.1 i (zi zf)) 0) <;> rfl
  by_cases h:lB (getD t.2.2.2.1 i (zi zf)) t.2.1.length
  ·exact .inl ⟨h,ap.of (by rw [hv,if_neg (by rw [ao (by have:=h.1; omega),ao (by have:=h.2; omega)]; simp)])⟩
  ·refine .inr ⟨h,_,ah.of (by rw [hv,if_pos (KL.2 h)]),rfl⟩)
 rcases f11 with ⟨p11,f11⟩ | ⟨p11,r,f11,hr⟩
 case inr=>exact zD hi (g11.ends f11) (by omega) (no _ hr fun h=>p11 ((ar (Q:=fun u=>lB u t.2.1.length)).2 h.uniq))
 have v11:(pY (.h11 (t.2.1.length:Int) (t.2.2.2.1.length:Int) (t,()))).val=some (.inl (.h16 (t.2.1.length:Int) ((0:Nat):Int) (t,()))):=by
  simp only [pY,Tr.val,zH]
  rfl
 have g16:=(g11.trans f11).trans (ap.of v11)
 have f16:=lm (t:=pY) (Φ:=fun r=>r=(.kb false,[])) 1 (fun i=>.h16 (t.2.1.length:Int) (i:Int) (t,())) (fun i=>lB (getD t.2.2.2.2.1 i (zi zq)).1 t.2.1.length∧zJ (getD t.2.2.2.2.1 i (zi zq)).2=true) t.2.2.2.2.1.length (by
  intro i hi _
  have hcl:=hw.refs _ (bG (d:=zi zq) hi)
  have hv:(pY (.h16 (t.2.1.length:Int) (i:Int) (t,()))).val=if (bif decide (LT.lt (α:=Int) (getD t.2.2.2.2.1 i (zi zq)).1 0) then true else bif decide (GE.ge (α:=Int) (getD t.2.2.2.2.1 i (zi zq)).1 (t.2.1.length:Int)) then true else !zJ (getD t.2.2.2.2.1 i (zi zq)).2)=true then some (.inr (.kb false,[])) else some (.inl (.h16 (t.2.1.length:Int) ((i+1:Nat):Int) (t,()))):=by
   simp only [pY,Tr.val,zM hi,zB hi,bd,bm hcl,eA hcl,if_true]
   rw [if_pos,zt i (by unfold zA; omega)]
   cases decide (LT.lt (α:=Int) (getD t.2.2.2.2.1 i (zi zq)).1 0) <;> cases decide (GE.ge (α:=Int) (getD t.2.2.2.2.1 i (zi zq)).1 (t.2.1.length:Int)) <;> rfl
  by_cases h:lB (getD t.2.2.2.2.1 i (zi zq)).1 t.2.1.length
  ·rcases zG (zJ (getD t.2.2.2.2.1 i (zi zq)).2) with c | c
   ·exact .inl ⟨⟨h,c⟩,ap.of (by rw [hv,c,if_neg (by rw [ao (by have:=h.1; omega),ao (by have:=h.2; omega)]; simp)])⟩
   ·exact .inr ⟨fun h2=>(by rw [h2.2] at c; cases c),_,ah.of (by rw [hv,c,if_pos (by rw [ao (by have:=h.1; omega),ao (by have:=h.2; omega)]; rfl)]),rfl⟩
  ·have hb:(bif decide (LT.lt (α:=Int) (getD t.2.2.2.2.1 i (zi zq)).1 0) then true else bif decide (GE.ge (α:=Int) (getD t.2.2.2.2.1 i (zi zq)).1 (t.2.1.length:Int)) then true else !zJ (getD t.2.2.2.2.1 i (zi zq)).2)=true:=by
    have:=KL.2 h
    rcases zG (decide (LT.lt (α:=Int) (getD t.2.2.2.2.1 i (zi zq)).1 0)) with k | k
    ·rw [k]; rfl
    ·rw [k] at this ⊢
     rw [show decide (GE.ge (α:=Int) (getD t.2.2.2.2.1 i (zi zq)).1 (t.2.1.length:Int))=true from this]
     rfl
   exact .inr ⟨fun h2=>h h2.1,_,ah.of (by rw [hv,if_pos hb]),rfl⟩)
 rcases f16 with ⟨p16,f16⟩ | ⟨p16,r,f16,hr⟩
 case inr=>exact zD hi (g16.ends f16) (by omega) (no _ hr fun h=>p16 ((ar (Q:=fun f:Sem zq=>lB f.1 t.2.1.length∧zJ f.2=true)).2 h.refs))
 have hch:Ar t.2.2.2.2.2 t.2.1=true:=by unfold Ar; rw [As hw.chk (by omega)]; rfl
 have hcv:EK t.2.2.2.2.2 t.2.1=ej t.2.2.2.2.2 t.2.1:=by unfold EK; rw [As hw.chk (by omega)]; rfl
 have v16:(pY (.h16 (t.2.1.length:Int) (t.2.2.2.2.1.length:Int) (t,()))).val=some (.inr (.bool (ej t.2.2.2.2.2 t.2.1==(0:Int)),[])):=by
  simp only [pY,Tr.val,zH,zn,hch,hcv]
  rfl
 refine zD hi (g16.ends (f16.ends (ah.of v16))) (by omega) ?_
 have:eD t=(ej t.2.2.2.2.2 t.2.1==(0:Int)):=by
  apply iN.2
  rw [hiff]
  constructor
  ·intro h; rw [h.chk]; rfl
  ·intro h
   exact ⟨hname,h1,h8,p5,(ar (Q:=fun u=>lB u t.2.1.length)).1 p11,(ar (Q:=fun f:Sem zq=>lB f.1 t.2.1.length∧zJ f.2=true)).1 p16,⟨hk0,hkn⟩,hnn,bB h⟩
 rw [this]
 rfl
theorem lP {t:Sem zl} (hw:FB t):uS t=true:=by unfold uS; rw [Hv hw]; rfl
theorem pB {t:Sem zl} (hw:FB t):Dc t=eD t:=by unfold Dc; rw [Hv hw]; rfl

section
variable {σ:Type} {t:σ→Tr (σ ⊕ aF)}
abbrev wo:aF:=(.kb false,[])
theorem Iu {α:Type} {la lb:List α} (st:Nat→σ) (hlen:la.length=lb.length) (hs:∀ i (ha:i < la.length) (hb:i < lb.length),(la[i]=lb[i]→(t (st i)).val=some (.inl (st (i+1))))∧(la[i]≠lb[i]→(t (st i)).val=some (.inr wo))):
  (la=lb∧ap t la.length (st 0) (st la.length))∨(la≠lb∧ah t la.length (st 0) wo):=by
 rcases lm (t:=t) (Φ:=fun r=>r=wo) 1 st (fun i=>la[i]?=lb[i]?) la.length (fun i hi _=>by
  have hb:i < lb.length:=by omega
  obtain ⟨h1,h2⟩:=hs i hi hb
  rw [zP hi,zP hb]
  by_cases h:la[i]=lb[i]
  ·exact .inl ⟨by rw [h],ap.of (h1 h)⟩
  ·exact .inr ⟨fun h3=>h (Option.some.inj h3),wo,ah.of (h2 h),rfl⟩) with ⟨h1,h2⟩ | ⟨h1,r,h2,rfl⟩
 ·rw [Nat.mul_one] at h2
  refine .inl ⟨List.ext_getElem? fun i=>?_,h2⟩
  by_cases hi:i < la.length
  ·exact h1 i hi
  ·rw [dO (by omega),dO (by omega)]
 ·rw [Nat.mul_one] at h2
  exact .inr ⟨fun h=>h1 fun i _=>by rw [h],h2⟩
end

theorem iF {α:Type} {a b:List α}:((a.length:Int) != (b.length:Int))=true↔a.length≠b.length:=by
 simp [bne]; omega

theorem An:∀ (N:Nat) (a b:ze),kw N a=true→∃ r,bI N a b=some (r,())∧(r=true↔a=b)
 | 0,_,_,h=>by cases h
 | N + 1,.mk op v s l,.mk op' v' s' l',h=>by
  rw [kw] at h
  simp only [aV,aN,fE] at h
  obtain ⟨hl,ha⟩:=h
  rw [bI]
  unfold EC
  have no:(yH (fun x0 x1=>gg (bI N x0 x1)) (fun x0 x1=>(bI N x0 x1).isSome) (.mk op v s l) (.mk op' v' s' l')).val=some (.inr wo)→¬ (ze.mk op v s l=ze.mk op' v' s' l')→
    ∃ r,aA [Sh.bool] (Fq (fun x0 x1=>gg (bI N x0 x1)) (fun x0 x1=>(bI N x0 x1).isSome)) 3000000000 (yH (fun x0 x1=>gg (bI N x0 x1)) (fun x0 x1=>(bI N x0 x1).isSome) (.mk op v s l) (.mk op' v' s' l'))=some (r,())∧(r=true↔ze.mk op v s l=ze.mk op' v' s' l'):=by
   intro hv hne
   exact ⟨false,zY hv rfl,by simp [hne]⟩
  have hd:∀ c:Bool,(bif !op==op' then true else bif !(v.1==v'.1&&(v.2.1==v'.2.1&&(v.2.2==v'.2.2&&true))) then true else bif !s==s' then true else (↑l.length:Int) != (↑l'.length:Int))=c→
    (yH (fun x0 x1=>gg (bI N x0 x1)) (fun x0 x1=>(bI N x0 x1).isSome) (.mk op v s l) (.mk op' v' s' l')).val=if c=true then some (.inr wo) else some (.inl (.h4 ((0:Nat):Int) (.mk op v s l,()) (.mk op' v' s' l',()))):=by
   rintro c rfl
   rfl
  by_cases e1:op=op'
  rotate_left
  ·exact no (by rw [hd true (by rw [bO.2 e1]; rfl)]; rfl) (fun h=>e1 (by injection h))
  by_cases e2:v=v'
  rotate_left
  ·refine no ?_ (fun h=>e2 (by injection h))
   rw [hd true ?_]
   ·rfl
   ·have:(v.1==v'.1&&(v.2.1==v'.2.1&&(v.2.2==v'.2.2&&true)))=false:=by
     rw [← ji]
     intro h
     simp at h
     exact e2 (Prod.ext h.1 (Prod.ext h.2.1 h.2.2))
    rw [this]
    cases (op==op') <;> rfl
  by_cases e3:s=s'
  rotate_left
  ·refine no ?_ (fun h=>e3 (by injection h))
   rw [hd true ?_]
   ·rfl
   ·rw [bO.2 e3]
    cases (op==op') <;> cases (v.1==v'.1&&(v.2.1==v'.2.1&&(v.2.2==v'.2.2&&true))) <;> rfl
  by_cases e4:l.length=l'.length
  rotate_left
  ·refine no ?_ (fun h=>e4 (by injection h with _ _ _ h; rw [h]))
   rw [hd true ?_]
   ·rfl
   ·rw [iF.2 e4]
    cases (op==op') <;> cases (v.1==v'.1&&(v.2.1==v'.2.1&&(v.2.2==v'.2.2&&true))) <;> cases (s==s') <;> rfl
  subst e1; subst e2; subst e3
  have hv:=hd false (by
   have:((↑l.length:Int) != (↑l'.length:Int))=false:=by rw [← ji,iF]; exact fun h=>h e4
   rw [this]
   simp)
  rw [if_neg (by simp)] at hv
  rcases Iu (t:=Fq (fun x0 x1=>gg (bI N x0 x1)) (fun x0 x1=>(bI N x0 x1).isSome)) (la:=l) (lb:=l') (fun i=>.h4 (i:Int) (.mk op v s l,()) (.mk op v s l',())) e4 (by
   intro i hi hi'
   obtain ⟨r,hr,hiff⟩:=An N l[i] l'[i] (ha _ (bP hi))
   have g1:getD l (i:Int).toNat (zi Sh.expr)=l[i]:=zX _ _ hi
   have g2:getD l' (i:Int).toNat (zi Sh.expr)=l'[i]:=zX _ _ hi'
   have hval:(Fq (fun x0 x1=>gg (bI N x0 x1)) (fun x0 x1=>(bI N x0 x1).isSome) (.h4 (i:Int) (.mk op v s l,()) (.mk op v s l',()))).val=if (!r)=true then some (.inr wo) else some (.inl (.h4 ((i+1:Nat):Int) (.mk op v s l,()) (.mk op v s l',()))):=by
    simp only [Fq,Fr,xn,Tr.val,ze.l,zn,g1,g2,zB hi,zB hi',hr,F0,if_true]
    rw [zt i (by unfold zA; omega)]
    show (if decide ((i:Int) < (l.length:Int))=true then _ else _)=_
    rw [if_pos (zu (by omega))]
    rfl
   rw [hval]
   refine ⟨fun h=>?_,fun h=>?_⟩
   ·rw [if_neg (by rw [hiff.2 h]; simp)]
   ·rw [if_pos]
    cases r
    ·rfl
    ·exact absurd (hiff.1 rfl) h) with ⟨h1,h2⟩ | ⟨h1,h2⟩
  ·subst h1
   refine ⟨true,zD hv (h2.ends (ah.of (r:=(.kb true,[])) ?_)) (by omega) rfl,by simp⟩
   simp only [Fq,Fr,xn,Tr.val,ze.l]
   exact if_neg (by simp)
  ·exact ⟨false,zD hv h2 (by omega) rfl,by simp [h1]⟩
theorem lN {a b:ze} (h:kw 16 a=true):eP a b=true∧(da a b=true↔a=b):=by
 obtain ⟨r,h1,h2⟩:=An 16 a b h
 have h1:wN a b=some (r,()):=h1
 refine ⟨by unfold eP; rw [h1]; rfl,?_⟩
 have:da a b=r:=by unfold da; rw [h1]; rfl
 rw [this]; exact h2

section
variable {σ:Type} {t:σ→Tr (σ ⊕ aF)}
def MZ (t:σ→Tr (σ ⊕ aF)) (K:Nat) (nx:σ ⊕ aF) (r:aF):Prop:=match nx with
 | .inl h=>ah t K h r
 | .inr r'=>r'=r
theorem fZ {α:Type} {la lb:List α} (st:Int→σ) (nx:σ ⊕ aF) (e:Nat→Bool) (hval:∀ i:Nat,i≤la.length→(t (st i)).val=if decide (LT.lt (α:=Int) (i:Int) (la.length:Int))=true then (if zR (i:Int) la.length=true then (if zR (i:Int) lb.length=true then (if (!e i)=true then some (.inr wo) else some (.inl (st (IntKind.i64.wrap ((i:Int)+1))))) else none) else none) else some nx)
  (he:∀ i (_:i < la.length) (ha:i < la.length) (hb:i < lb.length),e i=true↔la[i]=lb[i]) (hlen:la.length=lb.length) (hm:la.length≤1000000):
  (la=lb∧∀ K r,MZ t K nx r→ah t (K+la.length+1) (st 0) r)∨(la≠lb∧ah t la.length (st 0) wo):=by
 rcases Iu (t:=t) (la:=la) (lb:=lb) (fun i=>st (i:Int)) hlen (fun i ha hb=>by
  have hv:=hval i (by omega)
  rw [if_pos (zu (by omega)),if_pos (zB ha),if_pos (zB hb),zt i (by unfold zA; omega)] at hv
  have:=he i ha ha hb
  refine ⟨fun h=>?_,fun h=>?_⟩
  ·rw [hv,if_neg (by rw [this.2 h]; simp)]
  ·rw [hv,if_pos]
   cases hh:e i
   ·rfl
   ·exact absurd (this.1 hh) h) with ⟨h1,h2⟩ | ⟨h1,h2⟩
 ·refine .inl ⟨h1,fun K r hr=>?_⟩
  have hv:=hval la.length (bg _)
  rw [if_neg (by simp)] at hv
  unfold MZ at hr
  cases nx with
  | inl h=>exact (h2.ends ((ap.of hv).ends hr)).mono (by omega)
  | inr r'=>cases hr; exact (h2.ends (ah.of hv)).mono (by omega)
 ·exact .inr ⟨h1,h2⟩
end

theorem Ih (a b:Sem zh):(a.1==b.1&&(a.2.1==b.2.1&&(a.2.2==b.2.2&&true)))=true↔a=b:=by
 simp [Prod.ext_iff]
theorem zd9 (a b:Sem ib):(a.1==b.1&&(a.2==b.2&&true))=true↔a=b:=by
 simp [Prod.ext_iff]
theorem Of (a b:Sem zq):(a.1==b.1&&(a.2==b.2&&true))=true↔a=b:=by
 simp [Prod.ext_iff]
theorem Ys (a b:Sem zg):(a.1==b.1&&(a.2.1==b.2.1&&(a.2.2==b.2.2&&true)))=true↔a=b:=by
 simp [Prod.ext_iff]

theorem Jl {a b:Sem zl} (hc:a.2.1.length≤1000000) (hu:a.2.2.2.1.length≤1000000) (hr:a.2.2.2.2.1.length≤1000000) (he:kw 16 a.2.2.2.2.2=true):∃ r,sZ a b=some (r,())∧(r=true↔a=b):=by
 obtain ⟨a1,a2,a3,a4,a5,a6⟩:=a
 obtain ⟨b1,b2,b3,b4,b5,b6⟩:=b
 have hc:a2.length≤1000000:=hc
 have hu:a4.length≤1000000:=hu
 have hr:a5.length≤1000000:=hr
 obtain ⟨s1,s2⟩:=lN (b:=b6) he
 have hv:∀ c:Bool,(bif !a1==b1 then true else bif a3 != b3 then true else bif (↑(length a2):Int) != (↑(length b2):Int) then true else bif (↑(length a4):Int) != (↑(length b4):Int) then true else (↑(length a5):Int) != (↑(length b5):Int))=c→
   (XD (a1,a2,a3,a4,a5,a6) (b1,b2,b3,b4,b5,b6)).val=if c=true then some (.inr wo) else some (.inl (.h4 0 ((a1,a2,a3,a4,a5,a6),()) ((b1,b2,b3,b4,b5,b6),()))):=by
  rintro c rfl
  rfl
 have no:∀ (h:¬ ((a1,a2,a3,a4,a5,a6):Sem zl)=(b1,b2,b3,b4,b5,b6)) {k s},(XD (a1,a2,a3,a4,a5,a6) (b1,b2,b3,b4,b5,b6)).val=some (.inl s)→ah JE k s wo→k≤100000000→∃ r,sZ (a1,a2,a3,a4,a5,a6) (b1,b2,b3,b4,b5,b6)=some (r,())∧(r=true↔((a1,a2,a3,a4,a5,a6):Sem zl)=(b1,b2,b3,b4,b5,b6)):=by
  intro h k s h1 h2 h3
  exact ⟨false,zD h1 h2 h3 rfl,by simpa using h⟩
 cases hcase:(bif !a1==b1 then true else bif a3 != b3 then true else bif (↑(length a2):Int) != (↑(length b2):Int) then true else bif (↑(length a4):Int) != (↑(length b4):Int) then true else (↑(length a5):Int) != (↑(length b5):Int))
 rotate_left
 ·refine ⟨false,zY (r:=wo) (by rw [hv true hcase]; rfl) rfl,?_⟩
  constructor
  ·intro h; cases h
  ·intro h
   simp only [ba] at h
   obtain ⟨rfl,rfl,rfl,rfl,rfl,rfl⟩:=h
   simp at hcase
 have hi:=hv false hcase
 rw [if_neg (by simp)] at hi
 have e1:a1=b1:=by
  cases h:(a1==b1)
  ·rw [h] at hcase; cases hcase
  ·simpa using h
 have e3:a3=b3:=by
  cases h:(a3 != b3)
  ·simpa using h
  ·rw [h] at hcase; revert hcase; cases (!a1==b1) <;> simp
 have l2:a2.length=b2.length:=by
  cases h:((↑(length a2):Int) != (↑(length b2):Int))
  ·simp [bne] at h; omega
  ·rw [h] at hcase; revert hcase; cases (!a1==b1) <;> cases (a3 != b3) <;> simp
 have l4:a4.length=b4.length:=by
  cases h:((↑(length a4):Int) != (↑(length b4):Int))
  ·simp [bne] at h; omega
  ·rw [h] at hcase; revert hcase; cases (!a1==b1) <;> cases (a3 != b3) <;> cases ((↑(length a2):Int) != (↑(length b2):Int)) <;> simp
 have l5:a5.length=b5.length:=by
  cases h:((↑(length a5):Int) != (↑(length b5):Int))
  ·simp [bne] at h; omega
  ·rw [h] at hcase; revert hcase; cases (!a1==b1) <;> cases (a3 != b3) <;> cases ((↑(length a2):Int) != (↑(length b2):Int)) <;> cases ((↑(length a4):Int) != (↑(length b4):Int)) <;> simp
 rcases fZ (t:=JE) (la:=a2) (lb:=b2) (fun i=>.h4 i ((a1,a2,a3,a4,a5,a6),()) ((b1,b2,b3,b4,b5,b6),())) (.inl (.h9 0 ((a1,a2,a3,a4,a5,a6),()) ((b1,b2,b3,b4,b5,b6),()))) (fun i=>((getD a2 (i:Int).toNat (zi zh)).1==(getD b2 (i:Int).toNat (zi zh)).1&&((getD a2 (i:Int).toNat (zi zh)).2.1==(getD b2 (i:Int).toNat (zi zh)).2.1&&((getD a2 (i:Int).toNat (zi zh)).2.2==(getD b2 (i:Int).toNat (zi zh)).2.2&&true)))) (fun _ _=>rfl) (fun i _ ha hb=>by rw [Ih,zX _ _ ha,zX _ _ hb]) l2 hc with ⟨q2,k2⟩ | ⟨q2,k2⟩
 rotate_left
 ·exact no (fun h=>q2 (by simp only [ba] at h; exact h.2.1)) hi k2 (by omega)
 rcases fZ (t:=JE) (la:=a4) (lb:=b4) (fun i=>.h9 i ((a1,a2,a3,a4,a5,a6),()) ((b1,b2,b3,b4,b5,b6),())) (.inl (.h14 0 ((a1,a2,a3,a4,a5,a6),()) ((b1,b2,b3,b4,b5,b6),()))) (fun i=>getD a4 (i:Int).toNat (zi zf)==getD b4 (i:Int).toNat (zi zf)) (fun _ _=>rfl) (fun i _ ha hb=>by rw [bb,zX _ _ ha,zX _ _ hb]) l4 hu with ⟨q4,k4⟩ | ⟨q4,k4⟩
 rotate_left
 ·exact no (fun h=>q4 (by simp only [ba] at h; exact h.2.2.2.1)) hi (k2 _ _ k4) (by omega)
 rcases fZ (t:=JE) (la:=a5) (lb:=b5) (fun i=>.h14 i ((a1,a2,a3,a4,a5,a6),()) ((b1,b2,b3,b4,b5,b6),())) (.inr (.bool (da a6 b6),[])) (fun i=>((getD a5 (i:Int).toNat (zi zq)).1==(getD b5 (i:Int).toNat (zi zq)).1&&((getD a5 (i:Int).toNat (zi zq)).2==(getD b5 (i:Int).toNat (zi zq)).2&&true))) (fun i _=>by
   show (JE (.h14 _ _ _)).val=_
   simp only [JE,Tr.val,zn]
   rw [show (if eP a6 b6=true then some (Sum.inr (AV.bool (da a6 b6),([]:List AO))) else none)=(some (Sum.inr (AV.bool (da a6 b6),[])):Option (xw ⊕ aF)) from if_pos s1]) (fun i _ ha hb=>by rw [Of,zX _ _ ha,zX _ _ hb]) l5 hr with ⟨q5,k5⟩ | ⟨q5,k5⟩
 rotate_left
 ·exact no (fun h=>q5 (by simp only [ba] at h; exact h.2.2.2.2.1)) hi (k2 _ _ (k4 _ _ k5)) (by omega)
 refine ⟨da a6 b6,zD hi (k2 _ _ (k4 _ _ (k5 0 _ rfl))) (by omega) rfl,?_⟩
 rw [s2]
 subst e1; subst e3; subst q2; subst q4; subst q5
 simp
theorem Mz {a b:Sem zl} (hc:a.2.1.length≤1000000) (hu:a.2.2.2.1.length≤1000000) (hr:a.2.2.2.2.1.length≤1000000) (he:kw 16 a.2.2.2.2.2=true):sY a b=true∧(ov a b=true↔a=b):=by
 obtain ⟨r,h1,h2⟩:=Jl (b:=b) hc hu hr he
 refine ⟨by unfold sY; rw [h1]; rfl,?_⟩
 have:ov a b=r:=by unfold ov; rw [h1]; rfl
 rw [this]; exact h2

theorem vX {a b:Sem aB} (hc:a.2.2.2.1.2.1.length≤1000000) (hu:a.2.2.2.1.2.2.2.1.length≤1000000) (hr:a.2.2.2.1.2.2.2.2.1.length≤1000000) (he:kw 16 a.2.2.2.1.2.2.2.2.2=true) (hx:a.2.2.2.2.1.length≤1000000):∃ r,sL a b=some (r,())∧(r=true↔a=b):=by
 obtain ⟨a1,a2,a3,a4,a5,a6⟩:=a
 obtain ⟨b1,b2,b3,b4,b5,b6⟩:=b
 have hx:a5.length≤1000000:=hx
 obtain ⟨s1,s2⟩:=Mz (b:=b4) hc hu hr he
 have hv:∀ c:Bool,(bif !a1==b1 then true else bif !a2==b2 then true else bif !a3==b3 then true else bif a6 != b6 then true else bif !ov a4 b4 then true else (↑(length a5):Int) != (↑(length b5):Int))=c→
   (Xy (a1,a2,a3,a4,a5,a6) (b1,b2,b3,b4,b5,b6)).val=if c=true then some (.inr wo) else some (.inl (.h4 0 ((a1,a2,a3,a4,a5,a6),()) ((b1,b2,b3,b4,b5,b6),()))):=by
  rintro c rfl
  simp only [Xy,Tr.val,zn]
  rw [show (bif !a1==b1 then true else bif !a2==b2 then true else bif !a3==b3 then true else bif a6 != b6 then true else sY (a4.1,a4.2.1,a4.2.2.1,a4.2.2.2.1,a4.2.2.2.2.1,a4.2.2.2.2.2) (b4.1,b4.2.1,b4.2.2.1,b4.2.2.2.1,b4.2.2.2.2.1,b4.2.2.2.2.2))=true by
   rw [show sY (a4.1,a4.2.1,a4.2.2.1,a4.2.2.2.1,a4.2.2.2.2.1,a4.2.2.2.2.2) (b4.1,b4.2.1,b4.2.2.1,b4.2.2.2.1,b4.2.2.2.2.1,b4.2.2.2.2.2)=true from s1]
   cases (!a1==b1) <;> cases (!a2==b2) <;> cases (!a3==b3) <;> cases (a6 != b6) <;> rfl]
  rfl
 cases hcase:(bif !a1==b1 then true else bif !a2==b2 then true else bif !a3==b3 then true else bif a6 != b6 then true else bif !ov a4 b4 then true else (↑(length a5):Int) != (↑(length b5):Int))
 rotate_left
 ·refine ⟨false,zY (r:=wo) (by rw [hv true hcase]; rfl) rfl,?_⟩
  constructor
  ·intro h; cases h
  ·intro h
   simp only [ba] at h
   obtain ⟨rfl,rfl,rfl,rfl,rfl,rfl⟩:=h
   have h4:=s2.2 rfl
   rw [h4] at hcase
   simp at hcase
 have hi:=hv false hcase
 rw [if_neg (by simp)] at hi
 have e1:a1=b1:=by
  cases h:(a1==b1)
  ·rw [h] at hcase; cases hcase
  ·simpa using h
 have e2:a2=b2:=by
  cases h:(a2==b2)
  ·rw [h] at hcase; revert hcase; cases (!a1==b1) <;> simp
  ·simpa using h
 have e3:a3=b3:=by
  cases h:(a3==b3)
  ·rw [h] at hcase; revert hcase; cases (!a1==b1) <;> cases (!a2==b2) <;> simp
  ·simpa using h
 have e6:a6=b6:=by
  cases h:(a6 != b6)
  ·simpa using h
  ·rw [h] at hcase; revert hcase; cases (!a1==b1) <;> cases (!a2==b2) <;> cases (!a3==b3) <;> simp
 have e4:a4=b4:=by
  cases h:ov a4 b4
  ·rw [h] at hcase; revert hcase; cases (!a1==b1) <;> cases (!a2==b2) <;> cases (!a3==b3) <;> cases (a6 != b6) <;> simp
  ·exact s2.1 h
 have l5:a5.length=b5.length:=by
  cases h:((↑(length a5):Int) != (↑(length b5):Int))
  ·simp [bne] at h; omega
  ·rw [h] at hcase; revert hcase; cases (!a1==b1) <;> cases (!a2==b2) <;> cases (!a3==b3) <;> cases (a6 != b6) <;> cases (!ov a4 b4) <;> simp
 subst e1; subst e2; subst e3; subst e6; subst e4
 rcases fZ (t:=zed) (la:=a5) (lb:=b5) (fun i=>.h4 i ((a1,a2,a3,a4,a5,a6),()) ((a1,a2,a3,a4,b5,a6),())) (.inr (.kb true,[])) (fun i=>getD a5 (i:Int).toNat (zi zf)==getD b5 (i:Int).toNat (zi zf)) (fun _ _=>rfl) (fun i _ ha hb=>by rw [bb,zX _ _ ha,zX _ _ hb]) l5 hx with ⟨q5,k5⟩ | ⟨q5,k5⟩
 ·subst q5
  exact ⟨true,zD hi (k5 0 _ rfl) (by omega) rfl,by simp⟩
 ·exact ⟨false,zD hi k5 (by omega) rfl,by simp [q5]⟩

theorem PJ {x y:Bool} (h:(bif x then true else y)=false):x=false∧y=false:=by
 cases x
 ·exact ⟨rfl,h⟩
 ·cases h
theorem Pg {α:Type} [BEq α] [LawfulBEq α] {a b:α} (h:(!a==b)=false):a=b:=by
 cases hh:(a==b)
 ·rw [hh] at h; cases h
 ·simpa using hh
theorem Mk {α:Type} {a b:List α} (h:((↑(length a):Int) != (↑(length b):Int))=false):a.length=b.length:=by
 simp [bne] at h; omega

structure xr (a:Sem zk):Prop where
 names:a.2.2.2.1.length≤1000
 cols:a.2.2.2.2.1.length≤1000
 uniques:a.2.2.2.2.2.2.1.length≤1000
 refs:a.2.2.2.2.2.2.2.1.length≤1000
 row:a.2.2.2.2.2.2.2.2.2.1.length≤1000
 sets:a.2.2.2.2.2.2.2.2.2.2.1.length≤1000
 chk:kw 16 a.2.2.2.2.2.2.2.2.1=true
 whr:kw 16 a.2.2.2.2.2.2.2.2.2.2.2.1=true
 ex:∀ x∈a.2.2.2.2.2.2.2.2.2.2.1,kw 16 (x:Sem gy).2=true

theorem Jn {a b:Sem zk} (h:xr a):∃ r,pG a b=some (r,())∧(r=true↔a=b):=by
 obtain ⟨a1,a2,a3,a4,a5,a6,a7,a8,a9,a10,a11,a12,a13⟩:=a
 obtain ⟨b1,b2,b3,b4,b5,b6,b7,b8,b9,b10,b11,b12,b13⟩:=b
 obtain ⟨h4,h5,h7,h8,h10,h11,h9,h12,hx⟩:=h
 have h4:a4.length≤1000:=h4
 have h5:a5.length≤1000:=h5
 have h7:a7.length≤1000:=h7
 have h8:a8.length≤1000:=h8
 have h10:a10.length≤1000:=h10
 have h11:a11.length≤1000:=h11
 have hx:∀ x∈a11,kw 16 (x:Sem gy).2=true:=hx
 obtain ⟨s1,s2⟩:=lN (b:=b9) (show kw 16 a9=true from h9)
 obtain ⟨u1,u2⟩:=lN (b:=b12) (show kw 16 a12=true from h12)
 generalize hA:((a1,a2,a3,a4,a5,a6,a7,a8,a9,a10,a11,a12,a13):Sem zk)=A
 generalize hB:((b1,b2,b3,b4,b5,b6,b7,b8,b9,b10,b11,b12,b13):Sem zk)=B
 have hne:∀ r:aF,∀ {k s},(Sk A B).val=some (.inl s)→A≠B→ah rI k s wo→k≤100000000→∃ r,pG A B=some (r,())∧(r=true↔A=B):=by
  intro _ k s h1 h h2 h3
  exact ⟨false,zD h1 h2 h3 rfl,by simp [h]⟩
 have hv:∀ c d:Bool,(bif !a1==b1 then true else bif !a2==b2 then true else bif !a3==b3 then true else bif !a6==b6 then true else bif !a13==b13 then true else bif !da a9 b9 then true else !da a12 b12)=c→
   (bif (↑(length a4):Int) != (↑(length b4):Int) then true else bif (↑(length a5):Int) != (↑(length b5):Int) then true else bif (↑(length a7):Int) != (↑(length b7):Int) then true else bif (↑(length a8):Int) != (↑(length b8):Int) then true else bif (↑(length a10):Int) != (↑(length b10):Int) then true else (↑(length a11):Int) != (↑(length b11):Int))=d→
   (Sk A B).val=if c=true then some (.inr wo) else if d=true then some (.inr wo) else some (.inl (.h6 0 (A,()) (B,()))):=by
  rintro c d rfl rfl
  subst hA; subst hB
  have hg:∀ x:Bool,(bif !a1==b1 then true else bif !a2==b2 then true else bif !a3==b3 then true else bif !a6==b6 then true else bif !a13==b13 then true else eP a9 b9&&bif x then true else eP a12 b12)=true:=by
   intro x
   rw [s1,u1]
   cases (!a1==b1) <;> cases (!a2==b2) <;> cases (!a3==b3) <;> cases (!a6==b6) <;> cases (!a13==b13) <;> cases x <;> rfl
  simp only [Sk,Tr.val,zn]
  rw [if_pos (hg _)]
 cases hc:(bif !a1==b1 then true else bif !a2==b2 then true else bif !a3==b3 then true else bif !a6==b6 then true else bif !a13==b13 then true else bif !da a9 b9 then true else !da a12 b12)
 rotate_left
 ·refine ⟨false,zY (r:=wo) (by rw [hv true _ hc rfl]; rfl) rfl,?_⟩
  constructor
  ·intro h; cases h
  ·intro h
   rw [← hA,← hB] at h
   simp only [ba] at h
   obtain ⟨rfl,rfl,rfl,rfl,rfl,rfl,rfl,rfl,rfl,rfl,rfl,rfl,rfl⟩:=h
   have k1:=s2.2 rfl
   have k2:=u2.2 rfl
   rw [k1,k2] at hc
   simp at hc
 cases hd:(bif (↑(length a4):Int) != (↑(length b4):Int) then true else bif (↑(length a5):Int) != (↑(length b5):Int) then true else bif (↑(length a7):Int) != (↑(length b7):Int) then true else bif (↑(length a8):Int) != (↑(length b8):Int) then true else bif (↑(length a10):Int) != (↑(length b10):Int) then true else (↑(length a11):Int) != (↑(length b11):Int))
 rotate_left
 ·refine ⟨false,zY (r:=wo) (by rw [hv false true hc hd]; rfl) rfl,?_⟩
  constructor
  ·intro h; cases h
  ·intro h
   rw [← hA,← hB] at h
   simp only [ba] at h
   obtain ⟨rfl,rfl,rfl,rfl,rfl,rfl,rfl,rfl,rfl,rfl,rfl,rfl,rfl⟩:=h
   simp at hd
 have hi:=hv false false hc hd
 rw [if_neg (by simp),if_neg (by simp)] at hi
 obtain ⟨m1,hc⟩:=PJ hc
 obtain ⟨m2,hc⟩:=PJ hc
 obtain ⟨m3,hc⟩:=PJ hc
 obtain ⟨m6,hc⟩:=PJ hc
 obtain ⟨m13,hc⟩:=PJ hc
 obtain ⟨m9,m12⟩:=PJ hc
 obtain ⟨n4,hd⟩:=PJ hd
 obtain ⟨n5,hd⟩:=PJ hd
 obtain ⟨n7,hd⟩:=PJ hd
 obtain ⟨n8,hd⟩:=PJ hd
 obtain ⟨n10,n11⟩:=PJ hd
 have e1:=Pg m1
 have e2:=Pg m2
 have e3:=Pg m3
 have e6:=Pg m6
 have e13:=Pg m13
 have e9:=s2.1 (by simpa using m9)
 have e12:=u2.1 (by simpa using m12)
 subst e1; subst e2; subst e3; subst e6; subst e13; subst e9; subst e12
 have no:∀ {k},A≠B→ah rI k (.h6 0 (A,()) (B,())) wo→k≤100000000→∃ r,pG A B=some (r,())∧(r=true↔A=B):=fun h1 h2 h3=>hne wo hi h1 h2 h3
 rcases fZ (t:=rI) (la:=a4) (lb:=b4) (fun i=>.h6 i (A,()) (B,())) (.inl (.h11 0 (A,()) (B,()))) (fun i=>getD a4 (i:Int).toNat (zi Sh.str)==getD b4 (i:Int).toNat (zi Sh.str)) (fun _ _=>by subst hA; subst hB; rfl) (fun i _ ha hb=>by rw [bb,zX _ _ ha,zX _ _ hb]) (Mk n4) (by omega) with ⟨q4,k4⟩ | ⟨q4,k4⟩
 rotate_left
 ·exact no (fun h=>q4 (by rw [← hA,← hB] at h; simp only [ba] at h; exact h.2.2.2.1)) k4 (by omega)
 rcases fZ (t:=rI) (la:=a5) (lb:=b5) (fun i=>.h11 i (A,()) (B,())) (.inl (.h16 0 (A,()) (B,()))) (fun i=>((getD a5 (i:Int).toNat (zi zh)).1==(getD b5 (i:Int).toNat (zi zh)).1&&((getD a5 (i:Int).toNat (zi zh)).2.1==(getD b5 (i:Int).toNat (zi zh)).2.1&&((getD a5 (i:Int).toNat (zi zh)).2.2==(getD b5 (i:Int).toNat (zi zh)).2.2&&true)))) (fun _ _=>by subst hA; subst hB; rfl) (fun i _ ha hb=>by rw [Ih,zX _ _ ha,zX _ _ hb]) (Mk n5) (by omega) with ⟨q5,k5⟩ | ⟨q5,k5⟩
 rotate_left
 ·exact no (fun h=>q5 (by rw [← hA,← hB] at h; simp only [ba] at h; exact h.2.2.2.2.1)) (k4 _ _ k5) (by omega)
 rcases fZ (t:=rI) (la:=a7) (lb:=b7) (fun i=>.h16 i (A,()) (B,())) (.inl (.h21 0 (A,()) (B,()))) (fun i=>getD a7 (i:Int).toNat (zi Sh.str)==getD b7 (i:Int).toNat (zi Sh.str)) (fun _ _=>by subst hA; subst hB; rfl) (fun i _ ha hb=>by rw [bb,zX _ _ ha,zX _ _ hb]) (Mk n7) (by omega) with ⟨q7,k7⟩ | ⟨q7,k7⟩
 rotate_left
 ·exact no (fun h=>q7 (by rw [← hA,← hB] at h; simp only [ba] at h; exact h.2.2.2.2.2.2.1)) (k4 _ _ (k5 _ _ k7)) (by omega)
 rcases fZ (t:=rI) (la:=a8) (lb:=b8) (fun i=>.h21 i (A,()) (B,())) (.inl (.h26 0 (A,()) (B,()))) (fun i=>((getD a8 (i:Int).toNat (zi ib)).1==(getD b8 (i:Int).toNat (zi ib)).1&&((getD a8 (i:Int).toNat (zi ib)).2==(getD b8 (i:Int).toNat (zi ib)).2&&true))) (fun _ _=>by subst hA; subst hB; rfl) (fun i _ ha hb=>by rw [zd9,zX _ _ ha,zX _ _ hb]) (Mk n8) (by omega) with ⟨q8,k8⟩ | ⟨q8,k8⟩
 rotate_left
 ·exact no (fun h=>q8 (by rw [← hA,← hB] at h; simp only [ba] at h; exact h.2.2.2.2.2.2.2.1)) (k4 _ _ (k5 _ _ (k7 _ _ k8))) (by omega)
 rcases fZ (t:=rI) (la:=a10) (lb:=b10) (fun i=>.h26 i (A,()) (B,())) (.inl (.h31 0 (A,()) (B,()))) (fun i=>((getD a10 (i:Int).toNat (zi zg)).1==(getD b10 (i:Int).toNat (zi zg)).1&&((getD a10 (i:Int).toNat (zi zg)).2.1==(getD b10 (i:Int).toNat (zi zg)).2.1&&((getD a10 (i:Int).toNat (zi zg)).2.2==(getD b10 (i:Int).toNat (zi zg)).2.2&&true)))) (fun _ _=>by subst hA; subst hB; rfl) (fun i _ ha hb=>by rw [Ys,zX _ _ ha,zX _ _ hb]) (Mk n10) (by omega) with ⟨q10,k10⟩ | ⟨q10,k10⟩
 rotate_left
 ·exact no (fun h=>q10 (by rw [← hA,← hB] at h; simp only [ba] at h; exact h.2.2.2.2.2.2.2.2.2.1)) (k4 _ _ (k5 _ _ (k7 _ _ (k8 _ _ k10)))) (by omega)
 have l11:=Mk n11
 rcases Iu (t:=rI) (la:=a11) (lb:=b11) (fun i=>.h31 (i:Int) (A,()) (B,())) l11 (fun i ha hb=>by
  obtain ⟨w1,w2⟩:=lN (a:=a11[i].2) (b:=b11[i].2) (hx _ (bP ha))
  have hval:(rI (.h31 (i:Int) (A,()) (B,()))).val=if (bif !a11[i].1==b11[i].1 then true else !da a11[i].2 b11[i].2)=true then some (.inr wo) else some (.inl (.h31 ((i+1:Nat):Int) (A,()) (B,()))):=by
   subst hA; subst hB
   show (rI (.h31 _ _ _)).val=_
   simp only [rI,Tr.val,zn,zX _ _ ha,zX _ _ hb,zM ha,zB ha,zB hb,w1,if_true,dt]
   rw [zt i (by unfold zA; omega)]
   cases (!a11[i].1==b11[i].1) <;> rfl
  refine ⟨fun h=>?_,fun h=>?_⟩
  ·have k:=w2.2 (by rw [h])
   rw [hval,if_neg (by rw [k,h]; simp)]
  ·rw [hval,if_pos]
   cases hh:(a11[i].1==b11[i].1)
   ·rfl
   ·cases hw:da a11[i].2 b11[i].2
    ·rfl
    ·exact absurd (Prod.ext (by simpa using hh) (w2.1 hw)) h) with ⟨q11,k11⟩ | ⟨q11,k11⟩
 rotate_left
 ·exact no (fun h=>q11 (by rw [← hA,← hB] at h; simp only [ba] at h; exact h.2.2.2.2.2.2.2.2.2.2.1)) (k4 _ _ (k5 _ _ (k7 _ _ (k8 _ _ (k10 _ _ k11))))) (by omega)
 have hend:(rI (.h31 (a11.length:Int) (A,()) (B,()))).val=some (.inr (.kb true,[])):=by
  subst hA; subst hB
  show (rI (.h31 _ _ _)).val=_
  simp only [rI,Tr.val,zH]
  rfl
 refine ⟨true,zD hi (k4 _ _ (k5 _ _ (k7 _ _ (k8 _ _ (k10 _ _ (k11.ends (ah.of hend))))))) (by omega) rfl,?_⟩
 subst q4; subst q5; subst q7; subst q8; subst q10; subst q11
 rw [← hA,← hB]
 simp
theorem pH {a b:Sem zk} (h:xr a):wW a b=true∧(eJ a b=true↔a=b):=by
 obtain ⟨r,h1,h2⟩:=Jn (b:=b) h
 refine ⟨by unfold wW; rw [h1]; rfl,?_⟩
 have:eJ a b=r:=by unfold eJ; rw [h1]; rfl
 rw [this]; exact h2

theorem qw (p:Sem aB):kN p=some (ea p.2.1 p.2.2.1,()):=by
 unfold ea
 by_cases h:(p.2.2.1==[])=true
 ·rw [if_pos h]
  refine zY (r:=(.vec 0,[.vec Sh.str [p.2.1]])) ?_ rfl
  simp only [Xz,Tr.val,h]
  rfl
 ·rw [if_neg h]
  have h:(p.2.2.1==[])=false:=by simpa using h
  refine zY (r:=(.vec 0,[.vec Sh.str ([p.2.1]++[p.2.2.1])])) ?_ rfl
  simp only [Xz,Tr.val,h]
  rfl
theorem qv (p:Sem aB):iT p=true:=by unfold iT; rw [qw]; rfl
theorem sM (p:Sem aB):j8 p=ea p.2.1 p.2.2.1:=by unfold j8; rw [qw]; rfl

theorem vP (x:zw):∀ (l:List zw) (i:Nat),GE.ge (α:=Int) (gK x l (i:Int)) 0↔x∈l
 | [],i=>by
  rw [gK]
  exact ⟨fun h=>absurd h (by decide),fun h=>by cases h⟩
 | a::r,i=>by
  rw [gK]
  split
  ·rename_i h
   have:x=a:=by simpa using h
   subst this
   exact ⟨fun _=>B6,fun _=>Int.natCast_nonneg i⟩
  ·rename_i h
   have:=vP x r (i+1)
   rw [rP] at this
   rw [dQ]
   refine ⟨fun h2=>.inr (this.1 h2),fun h2=>this.2 (h2.resolve_left ?_)⟩
   rintro rfl
   simp at h
theorem yF (l:List zw) (x:zw):bx l x=true↔x∈l:=by
 unfold bx
 rw [decide_eq_true_iff]
 exact vP x l 0

theorem K3 {l:List zw} {s:zw} (hl:l.length≤1000000):K1 l s=true∧SQ l s=bx l s:=by
 have key:K2 l s=some (bx l s,()):=by
  rcases lm (t:=JI) (Φ:=fun r=>r=(.kb true,[])) 1 (fun i=>.h2 l s (i:Int)) (fun i=>∀ h:i < l.length,l[i]≠s) l.length (fun i hi _=>by
   have hv:(JI (.h2 l s (i:Int))).val=if (l[i]==s)=true then some (.inr (.kb true,[])) else some (.inl (.h2 l s ((i+1:Nat):Int))):=by
    show (JI (.h2 _ _ _)).val=_
    simp only [JI,Tr.val,zX _ _ hi,zM hi,zB hi,if_true]
    rw [zt i (by unfold zA; omega)]
   by_cases h:l[i]=s
   ·exact .inr ⟨fun k=>k hi h,_,ah.of (by rw [hv,if_pos (by simpa using h)]),rfl⟩
   ·exact .inl ⟨fun _=>h,ap.of (by rw [hv,if_neg (by simpa using h)])⟩) with ⟨h1,h2⟩ | ⟨h1,r,h2,rfl⟩
  ·have hn:bx l s=false:=by
    rw [← ji,yF]
    intro hm
    obtain ⟨j,hj,e⟩:=kD hm
    exact h1 j hj hj e
   rw [hn]
   refine zD (s:=.h2 l s 0) rfl (h2.ends (ah.of (r:=(.kb false,[])) ?_)) (by omega) rfl
   show (JI (.h2 _ _ _)).val=_
   simp only [JI,Tr.val,zH]
   rfl
  ·have hn:bx l s=true:=by
    rw [yF]
    apply qL
    intro hm
    exact h1 fun i _ hi e=>hm (e▸bP hi)
   rw [hn]
   exact zD (s:=.h2 l s 0) rfl h2 (by omega) rfl
 exact ⟨by unfold K1; rw [key]; rfl,by unfold SQ; rw [key]; rfl⟩

theorem vN {α:Type} (p:α→Bool):∀ (l:List α) (i:Nat),(!decide (aj p l i ≥ 0))=true↔∀ x∈l,p x=false
 | [],i=>by
  refine ⟨fun _ x hx=>(by cases hx),fun _=>?_⟩
  rw [aj]
  rfl
 | y::r,i=>by
  refine ⟨fun h=>nT p _ i h,fun h=>?_⟩
  rw [aj,h y (by simp)]
  exact (vN p r (i+1)).2 fun x hx=>h x (by simp [hx])
theorem CT {α:Type} (p:α→Bool) (l:List α):decide (GE.ge (α:=Int) (aj p l 0) 0)=true↔∃ x∈l,p x=true:=by
 have h:=vN p l 0
 constructor
 ·intro h1
  apply qL
  intro h2
  have:=h.2 fun x hx=>by
   cases hp:p x
   ·rfl
   ·exact absurd ⟨x,hx,hp⟩ h2
  rw [h1] at this
  cases this
 ·rintro ⟨x,hx,hp⟩
  cases h1:decide (GE.ge (α:=Int) (aj p l 0) 0)
  ·have:=h.1 (by rw [h1]; rfl) x hx
   rw [hp] at this; cases this
  ·rfl

theorem Ev {db:List (Sem zj)} {ns:List zw} (hl:db.length≤1000) (hr:∀ x∈db,(x:Sem zj).1.2.2.2.2.1.length≤1000) (hn:ns.length≤1000000):mG db ns=some (dL db ns,()):=by
 have hin:∀ i (hi:i < db.length),(¬ (!bx ns db[i].1.1&&decide (GE.ge (α:=Int) (aj (fun f:Sem zq=>bx ns f.2) db[i].1.2.2.2.2.1 0) 0))=true∧ap oD 1002 (.h2 db ns (i:Int)) (.h2 db ns ((i+1:Nat):Int)))∨
   ((!bx ns db[i].1.1&&decide (GE.ge (α:=Int) (aj (fun f:Sem zq=>bx ns f.2) db[i].1.2.2.2.2.1 0) 0))=true∧ah oD 1002 (.h2 db ns (i:Int)) (.kb true,[])):=by
  intro i hi
  have hx:=hr _ (bP hi)
  have g:db.getD (i:Int).toNat (zi zj)=db[i]:=zX _ _ hi
  have h0:ap oD 1 (.h2 db ns (i:Int)) (.h5 db ns (i:Int) ((0:Nat):Int)):=ap.of (by
   show (oD (.h2 _ _ _)).val=_
   simp only [oD,Tr.val,zM hi,if_true]
   rfl)
  obtain ⟨c1,c2⟩:=K3 (l:=ns) (s:=db[i].1.1) hn
  have hN:(oD (.h5 db ns (i:Int) (db[i].1.2.2.2.2.1.length:Int))).val=some (.inl (.h2 db ns ((i+1:Nat):Int))):=by
   show (oD (.h5 _ _ _ _)).val=_
   simp only [oD,Tr.val,g,zH,zB hi,if_true]
   rw [zt i (by unfold zA; omega)]
   rfl
  rcases lm (t:=oD) (Φ:=fun r=>r=(.kb true,[])) 1 (fun j=>.h5 db ns (i:Int) (j:Int)) (fun j=>∀ h:j < db[i].1.2.2.2.2.1.length,¬ (!bx ns db[i].1.1&&bx ns (db[i].1.2.2.2.2.1[j]).2)=true) db[i].1.2.2.2.2.1.length (fun j hj _=>by
   have gj:getD db[i].1.2.2.2.2.1 (j:Int).toNat (zi zq)=db[i].1.2.2.2.2.1[j]:=zX _ _ hj
   obtain ⟨d1,d2⟩:=K3 (l:=ns) (s:=(db[i].1.2.2.2.2.1[j]).2) hn
   have hv:(oD (.h5 db ns (i:Int) (j:Int))).val=if (!bx ns db[i].1.1&&bx ns (db[i].1.2.2.2.2.1[j]).2)=true then some (.inr (.kb true,[])) else some (.inl (.h5 db ns (i:Int) ((j+1:Nat):Int))):=by
    show (oD (.h5 _ _ _ _)).val=_
    simp only [oD,Tr.val,g,gj,zM hj,zB hi,zB hj,c1,c2,d1,d2,if_true,dt]
    rw [zt j (by unfold zA; omega)]
    cases bx ns db[i].1.1 <;> cases bx ns (db[i].1.2.2.2.2.1[j]).2 <;> rfl
   by_cases h:(!bx ns db[i].1.1&&bx ns (db[i].1.2.2.2.2.1[j]).2)=true
   ·exact .inr ⟨fun k=>k hj h,_,ah.of (by rw [hv,if_pos h]),rfl⟩
   ·exact .inl ⟨fun _=>h,ap.of (by rw [hv,if_neg h])⟩) with ⟨h1,h2⟩ | ⟨h1,r,h2,rfl⟩
  ·refine .inl ⟨?_,((h0.trans h2).trans (ap.of hN)).mono (by omega)⟩
   intro h
   simp only [aV,CT] at h
   obtain ⟨a1,f,hf,a2⟩:=h
   obtain ⟨j,hj,rfl⟩:=kD hf
   exact h1 j hj hj (by rw [a1,a2]; rfl)
  ·refine .inr ⟨?_,(h0.ends h2).mono (by omega)⟩
   apply qL
   intro h
   refine h1 fun j _ hj hc=>h ?_
   simp only [aV] at hc
   simp only [aV,CT]
   exact ⟨hc.1,_,bP hj,hc.2⟩
 rcases lm (t:=oD) (Φ:=fun r=>r=(.kb true,[])) 1002 (fun i=>.h2 db ns (i:Int)) (fun i=>∀ h:i < db.length,¬ (!bx ns db[i].1.1&&decide (GE.ge (α:=Int) (aj (fun f:Sem zq=>bx ns f.2) db[i].1.2.2.2.2.1 0) 0))=true) db.length (fun i hi _=>by
  rcases hin i hi with ⟨h1,h2⟩ | ⟨h1,h2⟩
  ·exact .inl ⟨fun _=>h1,h2⟩
  ·exact .inr ⟨fun k=>k hi h1,_,h2,rfl⟩) with ⟨h1,h2⟩ | ⟨h1,r,h2,rfl⟩
 ·have hb:dL db ns=false:=by
   unfold dL
   rw [List.any_eq_false]
   intro x hx
   obtain ⟨j,hj,rfl⟩:=kD hx
   exact h1 j hj hj
  rw [hb]
  have hv:(oD (.h2 db ns (db.length:Int))).val=some (.inr (.kb false,[])):=by
   show (oD (.h2 _ _ _)).val=_
   simp only [oD,Tr.val,zH]
   rfl
  exact zD (s:=.h2 db ns 0) rfl (h2.ends (ah.of hv)) (by omega) rfl
 ·have hb:dL db ns=true:=by
   unfold dL
   apply qL
   intro h
   rw [ji,List.any_eq_false] at h
   exact h1 fun i _ hi=>h _ (bP hi)
  rw [hb]
  exact zD (s:=.h2 db ns 0) rfl h2 (by omega) rfl
theorem Hi {db:List (Sem zj)} {ns:List zw} (hl:db.length≤1000) (hr:∀ x∈db,(x:Sem zj).1.2.2.2.2.1.length≤1000) (hn:ns.length≤1000000):rB db ns=true∧uO db ns=dL db ns:=by
 have h:=Ev hl hr hn
 exact ⟨by unfold rB; rw [h]; rfl,by unfold uO; rw [h]; rfl⟩

def YF (t:Sem zl) (names:List zw):Nat→nz
 | 0=>.h3 t.2.1 names ((0:Nat):Int)
 | i+1=>.h3b t.2.1 names ((i+1:Nat):Int) (ky t (names.take (i+1)))

theorem SK {t:Sem zl} {names:List zw} (hc:t.2.1.length≤1000000) (hn:names.length≤1000) {i:Nat} (hi:i < names.length):(iW (YF t names i)).val=if LT.lt (α:=Int) (ae t names[i]) 0 then some (.inr (.tup [.nils,.int .i64 4],[])) else some (.inl (YF t names (i+1))):=by
 have e:ef t.2.1 names[i]=ae t names[i]:=jI hc
 have ec:dc t.2.1 names[i]=true:=iz hc
 have hx:ky t (names.take (i+1))=ky t (names.take i)++[ae t names[i]]:=by
  unfold ky
  rw [dH hi,ls]
  rfl
 cases i with
 | zero=>
  have hx:ky t (names.take 1)=[ae t names[0]]:=hx
  show (iW (.h3 _ _ _)).val=_
  simp only [iW,Tr.val,zM hi,zB hi,if_true,zX _ _ hi,e,ec]
  by_cases h:LT.lt (α:=Int) (ae t names[0]) 0
  ·simp only [zu h,if_true,if_pos h]
  ·simp only [ao h,if_neg h,zV,if_false]
   rw [if_pos (by simp),zt 0 (by unfold zA; omega)]
   show _=some (Sum.inl (nz.h3b _ _ _ (ky t (names.take 1))))
   rw [hx]
 | succ i=>
  show (iW (.h3b _ _ _ _)).val=_
  simp only [iW,Tr.val,zM hi,zB hi,if_true,zX _ _ hi,e,ec]
  by_cases h:LT.lt (α:=Int) (ae t names[i+1]) 0
  ·simp only [zu h,if_true,if_pos h]
  ·simp only [ao h,if_neg h,zV,if_false]
   rw [if_pos (by unfold ky; simp; omega),zt (i+1) (by unfold zA; omega)]
   show _=some (Sum.inl (nz.h3b _ _ _ (ky t (names.take (i+1+1)))))
   rw [hx]

theorem zgA {l:List Int} (hl:l.length≤1000):ah iW (l.length * 1001+1) (.h10b ((0:Nat):Int) l) (if l.Nodup then (.tup [.vec 0,.int .i64 0],[.vec zf l]) else (.tup [.nils,.int .i64 7],[])):=by
 have hin:∀ i (hi:i < l.length),((∀ k (hk:k < i),l[k]≠l[i])∧ap iW 1001 (.h10b (i:Int) l) (.h10b ((i+1:Nat):Int) l))∨((¬ ∀ k (hk:k < i),l[k]≠l[i])∧ah iW 1001 (.h10b (i:Int) l) (.tup [.nils,.int .i64 7],[])):=by
  intro i hi
  have h0:ap iW 1 (.h10b (i:Int) l) (.h13b (i:Int) ((0:Nat):Int) l):=ap.of (by
   show (iW (.h10b _ _)).val=_
   simp only [iW,Tr.val,zM hi,if_true]
   rfl)
  rcases lm (t:=iW) (Φ:=fun r=>r=(.tup [.nils,.int .i64 7],[])) 1 (fun k=>.h13b (i:Int) (k:Int) l) (fun k=>∀ h:k < i,l[k]≠l[i]) i (fun k hk _=>by
   have hkl:k < l.length:=by omega
   have g1:decide ((k:Int) < (i:Int))=true:=zM hk
   have hv:(iW (.h13b (i:Int) (k:Int) l)).val=if (l[i]==l[k])=true then some (.inr (.tup [.nils,.int .i64 7],[])) else some (.inl (.h13b (i:Int) ((k+1:Nat):Int) l)):=by
    show (iW (.h13b _ _ _)).val=_
    simp only [iW,Tr.val,g1,zB hi,zB hkl,u9 hi,u9 hkl,zX _ _ hi,zX _ _ hkl,if_true]
    rw [zt k (by unfold zA; omega)]
   by_cases h:l[i]=l[k]
   ·exact .inr ⟨fun q=>q hk h.symm,_,ah.of (by rw [hv,if_pos (by simpa using h)]),rfl⟩
   ·exact .inl ⟨fun _=>Ne.symm h,ap.of (by rw [hv,if_neg (by simpa using h)])⟩) with ⟨h1,h2⟩ | ⟨h1,r,h2,rfl⟩
  ·refine .inl ⟨fun k hk=>h1 k hk hk,((h0.trans h2).trans (ap.of ?_)).mono (by omega)⟩
   show (iW (.h13b _ _ _)).val=_
   simp only [iW,Tr.val,zH]
   rw [zt i (by unfold zA; omega)]
   rfl
  ·exact .inr ⟨fun h=>h1 fun k hk _=>h k hk,(h0.ends h2).mono (by omega)⟩
 have hnd:l.Nodup↔∀ i,i < l.length→∀ h:i < l.length,∀ k (hk:k < i),l[k]≠l[i]:=by
  unfold List.Nodup
  rw [List.pairwise_iff_getElem]
  exact ⟨fun h i _ hi k hk=>h k i (by omega) hi hk,fun h i j hi hj hij=>h j hj hj i hij⟩
 rcases lm (t:=iW) (Φ:=fun r=>r=(.tup [.nils,.int .i64 7],[])) 1001 (fun i=>.h10b (i:Int) l) (fun i=>∀ h:i < l.length,∀ k (hk:k < i),l[k]≠l[i]) l.length (fun i hi _=>by
  rcases hin i hi with ⟨h1,h2⟩ | ⟨h1,h2⟩
  ·exact .inl ⟨fun _=>h1,h2⟩
  ·exact .inr ⟨fun h=>h1 (h hi),_,h2,rfl⟩) with ⟨h1,h2⟩ | ⟨h1,r,h2,rfl⟩
 ·rw [if_pos (hnd.2 h1)]
  refine (h2.ends (ah.of ?_)).mono (by omega)
  show (iW (.h10b _ _)).val=_
  simp only [iW,Tr.val,zH]
  rfl
 ·rw [if_neg (fun h=>h1 (hnd.1 h))]
  exact h2.mono (by omega)

theorem Eu {t:Sem zl} {names:List zw} (hc:t.2.1.length≤1000000) (hn:names.length≤1000):mF t.2.1 names=some (if iy t names=0 then ky t names else [],iy t names,()):=by
 have hi:(zb8 t.2.1 names).val=some (.inl (YF t names 0)):=rfl
 rcases lm (t:=iW) (Φ:=fun r=>r=(.tup [.nils,.int .i64 4],[])) 1 (YF t names) (fun i=>∀ h:i < names.length,¬ LT.lt (α:=Int) (ae t names[i]) 0) names.length (fun i hi _=>by
  have hv:=SK hc hn hi
  by_cases h:LT.lt (α:=Int) (ae t names[i]) 0
  ·exact .inr ⟨fun q=>q hi h,_,ah.of (by rw [hv,if_pos h]),rfl⟩
  ·exact .inl ⟨fun _=>h,ap.of (by rw [hv,if_neg h])⟩) with ⟨h1,h2⟩ | ⟨h1,r,h2,rfl⟩
 ·have hA:∀ s∈names,¬ LT.lt (α:=Int) (ae t s) 0:=by
   intro s hs
   obtain ⟨j,hj,rfl⟩:=kD hs
   exact h1 j hj hj
  have hE:iy t names=if (ky t names).Nodup then 0 else 7:=by unfold iy; rw [if_pos hA]; rfl
  have hxl:(ky t names).length=names.length:=by unfold ky; simp
  cases hnm:names.length with
  | zero=>
   have hnil:names=[]:=t7 hnm
   subst hnil
   have h3:ah iW 2 (YF t [] 0) (.tup [.nils,.int .i64 0],[]):=by
    refine (ap.of (s':=.h10 0) ?_).ends (ah.of ?_)
    ·rfl
    ·rfl
   have h0:iy t []=0:=by rw [hE,if_pos (by unfold ky; exact List.nodup_nil)]
   rw [h0,if_pos rfl]
   exact zD hi h3 (by omega) rfl
  | succ n=>
   rw [hnm] at h2
   have e1:ky t (names.take (n+1))=ky t names:=by rw [← hnm,vp]
   have h3:ap iW 1 (YF t names (n+1)) (.h10b ((0:Nat):Int) (ky t names)):=ap.of (by
    show (iW (.h3b _ _ _ _)).val=_
    rw [e1,← hnm]
    simp only [iW,Tr.val,zH]
    rfl)
   have h4:=zgA (l:=ky t names) (by omega)
   have h5:=h2.ends (h3.ends h4)
   rw [hE]
   by_cases hd:(ky t names).Nodup
   ·rw [if_pos hd] at h5 ⊢
    exact zD hi h5 (by omega) rfl
   ·rw [if_neg hd] at h5 ⊢
    exact zD hi h5 (by omega) rfl
 ·have hE:iy t names=4:=by
   unfold iy
   rw [if_neg]
   intro h
   exact h1 fun i _ hi=>h _ (bP hi)
  rw [hE]
  exact zD hi h2 (by omega) rfl
theorem Hh {t:Sem zl} {names:List zw} (hc:t.2.1.length≤1000000) (hn:names.length≤1000):mE t.2.1 names=true∧pj t.2.1 names=(if iy t names=0 then ky t names else [],iy t names):=by
 have h:=Eu hc hn
 exact ⟨by unfold mE; rw [h]; rfl,by unfold pj; rw [h]; rfl⟩

def np (e:ze) (cols:List (Sem zh)):Int:=
 if (e.op==[])=true then 0 else if (bif (bD e cols).2==0 then bif (bD e cols).1 != 3 then (bD e cols).1 != 0 else false else false)=true then 5 else (bD e cols).2
theorem MA {e:ze} {cols:List (Sem zh)} (hw:mX e) (hl:cols.length≤1000000) (hm:(e.op==[])=false→cM e=true):wS e cols=some (np e cols,()):=by
 unfold np
 cases ho:(e.op==[])
 ·have hme:=hm ho
  have h1:=lM hw
  have h2:=pu hw
  have h3:=Hr hl hme
  have t1:mK e cols=true:=by unfold mK; rw [h3]; rfl
  have t2:gQ e cols=bD e cols:=by unfold gQ; rw [h3]; rfl
  have hb:(bif (bD e cols).2==0 then bif (bD e cols).1 != 0 then (bD e cols).1 != 3 else false else false)=(bif (bD e cols).2==0 then bif (bD e cols).1 != 3 then (bD e cols).1 != 0 else false else false):=by
   cases ((bD e cols).2==0) <;> cases ((bD e cols).1 != 0) <;> cases ((bD e cols).1 != 3) <;> rfl
  have hv:(Sg e cols).val=some (.inr (.int .i64 (if (bif (bD e cols).2==0 then bif (bD e cols).1 != 3 then (bD e cols).1 != 0 else false else false)=true then 5 else (bD e cols).2),[])):=by
   simp only [Sg,Tr.val,zn,ho,h1,h2,hme,t1,t2,hb,if_true,zV,if_false,ck]
   split <;> rfl
  exact zY hv rfl
 ·refine zY (r:=(.int .i64 0,[])) ?_ rfl
  simp only [Sg,Tr.val,ho,if_true]
theorem Au {e:ze} {cols:List (Sem zh)} (hw:mX e) (hl:cols.length≤1000000) (hm:(e.op==[])=false→cM e=true):pC e cols=true∧uT e cols=np e cols:=by
 have h:=MA hw hl hm
 exact ⟨by unfold pC; rw [h]; rfl,by unfold uT; rw [h]; rfl⟩

theorem rp (c:UInt8) (s old:zw):Lib.index (c::s) old=if old.isPrefixOf (c::s)=true then 0 else if Lib.index s old=-1 then -1 else Lib.index s old+1:=by
 rw [Lib.index]; simp only [bb]

theorem uY {s old new:zw} (hne:(old==new)=false) (h:Lib.index s old=-1):Lib.replaceAll s old new=s:=by
 unfold Lib.replaceAll Lib.replace Lib.replaceNum
 rw [hne,if_pos (Or.inl (by decide)),Lib.count_miss h]
 rfl

theorem AI {s old new:zw} {i:Nat} (h0:old≠[]) (hne:(old==new)=false) (h:Lib.index s old=i):Lib.replaceAll s old new=s.take i++new++Lib.replaceAll (s.drop (i+old.length)) old new:=by
 unfold Lib.replaceAll Lib.replace Lib.replaceNum
 rw [hne,if_pos (Or.inl (by decide)),if_pos (Or.inl (by decide)),Lib.count_hit h0 h,qc 1]
 exact Lib.replaceK_hit old new _ s i h

theorem AJ {old new:zw} (h0:old≠[]) (hne:(old==new)=false):Lib.replaceAll [] old new=[]:=by
 refine uY hne ?_
 cases old with
 | nil=>exact absurd rfl h0
 | cons a l=>rfl

theorem HI {c:UInt8} {s old new:zw} (h0:old≠[]) (hne:(old==new)=false) (hp:old.isPrefixOf (c::s)=true):Lib.replaceAll (c::s) old new=new++Lib.replaceAll ((c::s).drop old.length) old new:=by
 have:=AI (i:=0) h0 hne (s:=c::s) (by rw [rp,if_pos hp]; rfl)
 simpa using this

theorem Dj {c:UInt8} {s old new:zw} (h0:old≠[]) (hne:(old==new)=false) (hp:old.isPrefixOf (c::s)=false):Lib.replaceAll (c::s) old new=c::Lib.replaceAll s old new:=by
 by_cases h:Lib.index s old=-1
 ·rw [uY hne h,uY hne (by rw [rp,if_neg (by simp [hp]),if_pos h])]
 ·obtain ⟨i,hi⟩:∃ i:Nat,Lib.index s old=i:=⟨(Lib.index s old).toNat,by have:=Lib.index_ge s old; omega⟩
  rw [AI h0 hne hi,AI (i:=i+1) h0 hne (by rw [rp,if_neg (by simp [hp]),if_neg h,hi]; simp)]
  simp [Nat.add_right_comm]

theorem PT {c a:UInt8} {r l:zw} (h:c≠a):(a::l).isPrefixOf (c::r)=false:=by
 rw [List.isPrefixOf,bO.2 (Ne.symm h)]
 rfl

def jR:zw→zw
 | []=>[]
 | c::r=>if c=39 then 39::39::jR r else c::jR r

theorem AH:∀ s:zw,Lib.replaceAll s [39] [39,39]=jR s
 | []=>AJ (by simp) rfl
 | c::r=>by
  rw [jR]
  split
  ·rename_i h
   subst h
   rw [HI (by simp) rfl (by simp)]
   simp [AH r]
  ·rename_i h
   rw [Dj (by simp) rfl (PT h),AH r]

def eB:zw→Option (zw×Nat)
 | []=>none
 | [c]=>if c=39 then some ([],1) else none
 | c::d::r=>if c=39 then (if d=39 then (eB r).map fun x=>(39::x.1,x.2+2) else some ([],1)) else (eB (d::r)).map fun x=>(c::x.1,x.2+1)

theorem pP:∀ (n:Nat) (s t:zw) (k:Nat),s.length≤n→eB s=some (t,k)→1≤k∧k≤s.length∧Lib.replaceAll (s.take (k - 1)) [39,39] [39]=t
 | _,[],_,_,_,h=>by simp [eB] at h
 | _,[c],t,k,_,h=>by
  rw [eB] at h
  split at h
  ·simp at h
   obtain ⟨rfl,rfl⟩:=h
   exact ⟨by simp,by simp,by simpa using AJ (by simp) rfl⟩
  ·simp at h
 | 0,_::_::_,_,_,hn,_=>by simp at hn
 | n+1,c::d::r,t,k,hn,h=>by
  rw [eB] at h
  split at h
  ·rename_i hc
   split at h
   ·rename_i hd
    simp only [cW] at h
    obtain ⟨⟨t',k'⟩,h1,h2⟩:=h
    simp only [ba] at h2
    obtain ⟨rfl,rfl⟩:=h2
    obtain ⟨a1,a2,a3⟩:=pP n r t' k' (by simp at hn; omega) h1
    refine ⟨by omega,by simp; omega,?_⟩
    subst hc; subst hd
    rw [show k'+2 - 1=(k' - 1)+2 by omega,List.take_succ_cons,List.take_succ_cons,HI (by simp) rfl (by simp)]
    simp [a3]
   ·simp at h
    obtain ⟨rfl,rfl⟩:=h
    exact ⟨by simp,by simp,by simpa using AJ (by simp) rfl⟩
  ·rename_i hc
   simp only [cW] at h
   obtain ⟨⟨t',k'⟩,h1,h2⟩:=h
   simp only [ba] at h2
   obtain ⟨rfl,rfl⟩:=h2
   obtain ⟨a1,a2,a3⟩:=pP n (d::r) t' k' (by simp at hn ⊢; omega) h1
   refine ⟨by omega,by simp at a2 ⊢; omega,?_⟩
   rw [show k'+1 - 1=(k' - 1)+1 by omega,List.take_succ_cons,Dj (by simp) rfl (PT hc),a3]
theorem Dn {c:UInt8} (hc:c≠39):∀ r:zw,eB (c::r)=(eB r).map fun x=>(c::x.1,x.2+1)
 | []=>by simp [eB,hc]
 | d::r=>by rw [eB,if_neg hc]
theorem HR (r:zw):eB (39::39::r)=(eB r).map fun x=>(39::x.1,x.2+2):=by
 rw [eB,if_pos rfl,if_pos rfl]
theorem AY:∀ r:zw,r.head?≠some 39→eB (39::r)=some ([],1)
 | [],_=>by rw [eB,if_pos rfl]
 | d::r,h=>by rw [eB,if_pos rfl,if_neg (by simpa using h)]

theorem bQ (s:zw) {i:Nat} (h:i < s.length):s.getD ((i:Int).toNat) 0=s[i]:=by
 rw [bd,aP,zP h,cX]
theorem pW {c:UInt8}:((c.toNat:Int)==39)=true↔c=39:=by
 rw [bb]
 constructor
 ·intro h
  exact UInt8.toNat_inj.1 (by show c.toNat=39; omega)
 ·rintro rfl; rfl

theorem oy:∀ (n:Nat) (s:zw) (i:Nat) (a:Int) (b:zw),1≤i→i≤s.length→s.length+2≤n+i→s.length≤1000000000→
  ez n s (i:Int) a b=(match eB (s.drop i) with
   | none=>((0,[]),0)
   | some x=>((3,Lib.replaceAll (List.take (i+x.2 - 2) (List.drop 1 s)) [39,39] [39]),((i+x.2:Nat):Int)))
 | 0,s,i,a,b,h1,h2,h3,h4=>by omega
 | n + 1,s,i,a,b,h1,h2,h3,h4=>by
  rw [ez]
  by_cases hi:i < s.length
  ·rw [if_pos (zu (show (i:Int) < (s.length:Int) by omega)),bQ s hi,oO i (by omega),dF hi]
   by_cases hq:s[i]=39
   ·rw [if_neg (by simp [bne,pW.2 hq]),hq]
    by_cases hj:i+1 < s.length
    ·rw [dF hj,bQ s hj,zu (show ((i+1:Nat):Int) < (s.length:Int) by omega)]
     by_cases hq2:s[i+1]=39
     ·rw [if_pos (by simpa using pW.2 hq2),oO (i+1) (by omega),oy n s (i+1+1) a b (by omega) (by omega) (by omega) h4,hq2,HR]
      cases eB (s.drop (i+1+1)) with
      | none=>rfl
      | some x=>
       simp only [vq]
       rw [show i+1+1+x.2=i+(x.2+2) by omega]
     ·rw [if_neg (by simpa using fun h=>hq2 (pW.1 (by simpa using h))),AY _ (by rw [List.head?_cons]; exact fun h=>hq2 (Option.some.inj h))]
      simp
    ·rw [xy (by omega:s.length≤i+1),ao (show ¬ ((i+1:Nat):Int) < (s.length:Int) by omega),AY _ (by simp)]
     simp
   ·rw [if_pos (by simpa [bne] using fun h=>hq (pW.1 (by simpa using h))),Dn hq,oy n s (i+1) a b (by omega) (by omega) (by omega) h4]
    cases eB (s.drop (i+1)) with
    | none=>rfl
    | some x=>
     simp only [vq]
     rw [show i+1+x.2=i+(x.2+1) by omega]
  ·rw [if_neg (by simp; omega),xy (by omega)]
   rfl

def nN (c:UInt8) (r:zw):Sem bM×Nat:=
 if aH c.toNat=true then ((1,(c::r).take (cy bl r+1)),cy bl r+1)
 else if zO c.toNat=true then ((2,(c::r).take (cy zO r+1)),cy zO r+1)
 else if c=39 then (match eB r with | none=>((0,[]),0) | some x=>((3,x.1),x.2+1))
 else ((4,[c]),1)

theorem uC (c:UInt8) (r:zw) (hl:(c::r).length≤1000000000):bq (c::r)=((nN c r).1,((nN c r).2:Int)):=by
 have e1:aI aH bl (c::r)=if aH c.toNat=true then cy bl r+1 else 0:=rfl
 have e2:aI zO zO (c::r)=if zO c.toNat=true then cy zO r+1 else 0:=rfl
 unfold bq nN
 by_cases h1:aH c.toNat=true
 ·rw [if_pos h1] at e1
  simp [e1,h1]
 ·rw [if_neg h1] at e1
  by_cases h2:zO c.toNat=true
  ·rw [if_pos h2] at e2
   simp [e1,e2,h1,h2]
  ·rw [if_neg h2] at e2
   by_cases h3:c=39
   ·have hq:=oy ((c::r).length+1) (c::r) 1 0 [] (by omega) (by simp) (by omega) hl
    have hqq:dG (c::r)=_:=hq
    subst h3
    have l39:aH 39=false:=rfl
    have d39:zO 39=false:=rfl
    cases hs:eB r with
    | none=>
     simp only [List.drop_succ_cons,List.drop_zero,hs] at hqq
     simp [e1,e2,l39,d39,hqq]
    | some x=>
     obtain ⟨k1,k2,k3⟩:=pP r.length r x.1 x.2 (bg _) hs
     simp only [List.drop_succ_cons,List.drop_zero,hs] at hqq
     rw [show 1+x.2 - 2=x.2 - 1 by omega,k3,qc 1] at hqq
     simp [e1,e2,l39,d39,hqq]
   ·have h4:¬ (c.toNat:Int)=39:=fun h=>h3 (pW.1 (by simpa using h))
    simp [e1,e2,h1,h2,h3,h4]

def ue:Nat→zw→Nat→Bool
 | 0,_,_=>false
 | _+1,[],k=>decide (k≤400)
 | n+1,c::r,k=>
  if (bif (c.toNat:Int)==32 then true else (c.toNat:Int)==10)=true then ue n r k
  else if bR (nN c r).1=true then ue n ((c::r).drop (nN c r).2) (k+1) else false

theorem uf:∀ (n:Nat) (s:zw) (k:Nat),400 < k→ue n s k=false
 | 0,_,_,_=>rfl
 | _+1,[],k,h=>by rw [ue]; exact ao (by omega)
 | n+1,c::r,k,h=>by
  rw [ue]
  split
  ·exact uf n r k h
  ·split
   ·exact uf n _ (k+1) (by omega)
   ·rfl

theorem xT:∀ (n:Nat) (s:zw) (i:Nat) (l:List (Sem zq)),i≤s.length→s.length+1≤n+i→s.length≤1000000000→l.length≤400→((r5 n s (i:Int) l).2==(0:Int))=ue n (s.drop i) l.length
 | 0,s,i,l,h1,h2,h3,h4=>by omega
 | n + 1,s,i,l,h1,h2,h3,h4=>by
  rw [r5]
  by_cases hlt:i < s.length
  ·have e1:List.take ((s.length:Int).toNat - (i:Int).toNat) (List.drop (i:Int).toNat s)=s.drop i:=by
    simp only [bd]
    exact JX (by simp)
   have hdl:(s.drop i).length≤1000000000:=by simp; omega
   rw [if_pos (zu (show (i:Int) < (s.length:Int) by omega)),e1,bQ s hlt,oO i (by omega)]
   rw [dF hlt] at hdl ⊢
   rw [ue]
   split
   ·exact xT n s (i+1) l (by omega) (by omega) h3 h4
   ·rw [uC _ _ hdl]
    simp only
    by_cases hm:bR (nN s[i] (s.drop (i+1))).1=true
    ·rw [if_pos hm]
     by_cases h5:l.length=400
     ·rw [if_pos (by rw [hm,h5]; rfl),h5,uf n _ _ (by omega)]
      rfl
     ·rw [if_neg (by rw [hm]; simp; omega)]
      have hm':bR (bq (s[i]::s.drop (i+1))).1=true:=by rw [uC _ _ hdl]; exact hm
      obtain ⟨k,hk,hk1,hk2⟩:=tQ _ (List.cons_ne_nil _ _) hdl hm'
      rw [uC _ _ hdl] at hk
      have hk:(nN s[i] (s.drop (i+1))).2=k:=Int.ofNat.inj hk
      have hk3:k≤s.length - i:=by rw [← dF hlt] at hk2; simpa using hk2
      rw [hk,show ((i:Int)+(k:Int))=((i+k:Nat):Int) by omega,QB (i+k) (by omega),xT n s (i+k) _ (by omega) (by omega) h3 (by simp; omega),← dF hlt,B9]
      simp
    ·rw [if_neg hm,if_pos (by simp [hm])]
     rfl
  ·rw [if_neg (by simp; omega),xy (by omega)]
   rw [ue]
   exact (zu h4).symm

theorem ND (m:Nat):ii [IntKind.u8.wrap (IntKind.i64.wrap (48 - IntKind.i64.wrap (Int.tmod (-(m:Int)) 10)))]=[UInt8.ofNat (48+m % 10)]:=by
 have e1:Int.tmod (-(m:Int)) 10=-((m % 10:Nat):Int):=by rw [Int.neg_tmod]; rfl
 have hlt:m % 10 < 10:=Nat.mod_lt _ (by omega)
 have e2:IntKind.i64.wrap (-((m % 10:Nat):Int))=-((m % 10:Nat):Int):=by rw [fD]; omega
 have e3:IntKind.i64.wrap (48 - -((m % 10:Nat):Int))=((48+m % 10:Nat):Int):=by rw [fD]; omega
 have e4:IntKind.u8.wrap ((48+m % 10:Nat):Int)=((48+m % 10:Nat):Int):=by rw [IntKind.wrap_u8]; omega
 rw [e1,e2,e3,e4]
 rfl
theorem R1 (m:Nat) (h:m≤9223372036854775808):IntKind.i64.wrap (Int.tdiv (-(m:Int)) 10)=-((m / 10:Nat):Int):=by
 have e1:Int.tdiv (-(m:Int)) 10=-((m / 10:Nat):Int):=by rw [Int.neg_tdiv]; rfl
 have:m / 10≤m:=Nat.div_le_self _ _
 rw [e1,fD]; omega

theorem NC:∀ (f m:Nat) (s:zw),m < 10 ^ f→0 < f→m≤9223372036854775808→(0 < m∨s=[])→s.length+f≤1000→ah A6 (f+1) (.h2 (-(m:Int)) s) (.str (mr f m++s),[])
 | 0,_,_,_,h,_,_,_=>by omega
 | f+1,m,s,hm,_,hb,h0,hs=>by
  have hv:(A6 (.h2 (-(m:Int)) s)).val=some (.inl (.h2 (-((m / 10:Nat):Int)) ([UInt8.ofNat (48+m % 10)]++s))):=by
   show (A6 (.h2 _ _)).val=_
   have c:(bif decide (LT.lt (α:=Int) (-(m:Int)) 0) then true else s==[])=true:=by
    rcases h0 with h | h
    ·rw [zu (by omega)]; rfl
    ·subst h; cases decide (LT.lt (α:=Int) (-(m:Int)) 0) <;> rfl
   simp only [A6,Tr.val,ND m,R1 m hb,if_true]
   rw [if_pos c,if_pos (zu (by simp; omega))]
  by_cases h10:m < 10
  ·have e0:m / 10=0:=by omega
   have e1:m % 10=m:=by omega
   rw [e0,e1] at hv
   have hd:mr (f+1) m=[UInt8.ofNat (48+m)]:=by rw [mr,if_pos h10]
   rw [hd]
   refine ((ap.of hv).ends (k:=1) (ah.of ?_)).mono (by omega)
   show (A6 (.h2 _ _)).val=_
   simp [A6,Tr.val]
  ·have hf:0 < f:=by
    cases f with
    | zero=>simp at hm; omega
    | succ f=>omega
   have:=NC f (m / 10) ([UInt8.ofNat (48+m % 10)]++s) (by rw [xJ] at hm; omega) hf (by omega) (.inl (by omega)) (by simp; omega)
   have hd:mr (f+1) m=mr f (m / 10)++[UInt8.ofNat (48+m % 10)]:=by rw [mr,if_neg h10]
   rw [hd,xD]
   exact (ap.of hv).ends this

theorem vY {m:Nat} (h:m≤9223372036854775808):po (-(m:Int))=some (mr 20 m,()):=by
 refine zD (s:=.h2 (-(m:Int)) []) rfl (NC 20 m [] (by omega) (by omega) h (.inr rfl) (by simp)) (by omega) ?_
 rw [xG]
 rfl

theorem xX:∀ s:zw,(jR s).length≤2 * s.length
 | []=>by simp [jR]
 | c::r=>by
  have:=xX r
  rw [jR]
  split <;> simp <;> omega
theorem Cd (c:UInt8):∀ s:zw,jR (s++[c])=jR s++(if c=39 then [39,39] else [c])
 | []=>by
  show jR [c]=_
  rw [jR,jR,jR]
  split <;> rfl
 | d::r=>by
  have:=Cd c r
  show jR (d::(r++[c]))=_
  rw [jR,jR,this]
  split <;> rfl

theorem Vf {α:Type} {l:List α} {i:Nat} (h:i < l.length):l.take (i+1)=l.take i++[l[i]]:=by
 rw [List.take_add_one,zP h]
 rfl

theorem Yn {v:Sem zg} (hl:v.2.2.length≤1000000):ah tK (v.2.2.length * 1+1) (.h13 [39] 0 (v,())) (.str ([39]++jR v.2.2++[39]),[]):=by

 have hg:=ap.all (t:=tK) 1 (fun i=>.h13 ([39]++jR (v.2.2.take i)) (i:Int) (v,())) v.2.2.length (by
  intro i hi
  refine ap.of ?_
  have hd:=xX (v.2.2.take i)
  have hd2:(jR (v.2.2.take i)).length≤2000000:=by simp at hd; omega
  have w1:IntKind.i64.wrap ((i:Int)+1)=((i+1:Nat):Int):=zt i (by unfold zA; omega)
  have g1:(decide (0≤(i:Int))&&decide ((i:Int)≤((i+1:Nat):Int))&&decide (((i+1:Nat):Int)≤(↑(length v.2.2):Int)))=true:=by simp; omega
  have ht:List.take (((i+1:Nat):Int).toNat - (i:Int).toNat) (List.drop (i:Int).toNat v.2.2)=[v.2.2[i]]:=by
   rw [bd,bd,show i+1 - i=1 by omega,dF hi]
   rfl
  show (tK (.h13 _ _ _)).val=_
  simp only [tK,Tr.val,w1,g1,ht,zM hi,zB hi,if_true,bQ v.2.2 hi]
  rw [Vf hi,Cd,if_pos (zu (by simp; omega))]
  by_cases h:v.2.2[i]=39
  ·rw [if_pos (pW.2 h),if_pos h,if_pos (zu (by simp; omega)),h]
   simp
  ·rw [if_neg (fun h2=>h (pW.1 h2)),if_neg h]
   simp)
 have hd:=xX v.2.2
 have hv:(tK (.h13 ([39]++jR (v.2.2.take v.2.2.length)) (v.2.2.length:Int) (v,()))).val=some (.inr (.str ([39]++jR v.2.2++[39]),[])):=by
  show (tK (.h13 _ _ _)).val=_
  simp only [tK,Tr.val,zH,vp]
  simp
  omega
 have:=hg.ends (ah.of hv)
 rw [qc] at this
 exact this

theorem SR {v:Sem zg} (hm:ce v=true) (h0:v.1≠(0:Int)) (h1:v.1≠(1:Int)) (h2:v.1≠(2:Int)):(v.1==3)=true∧((dB v==2)=(v.2.1==1)):=by
 have b0:(v.1==0)=false:=bO.2 h0
 have b1:(v.1==1)=false:=bO.2 h1
 have b2:(v.1==2)=false:=bO.2 h2
 have hm2:=hm
 unfold ce at hm
 rw [b0,b1,b2] at hm
 simp only [zV,if_false] at hm
 cases b3:(v.1==3)
 ·rw [b3] at hm; simp at hm
 ·rw [b3] at hm
  refine ⟨rfl,?_⟩
  have h01:v.2.1=(0:Int)∨v.2.1=(1:Int):=by
   simp at hm
   by_cases k:v.2.1=(0:Int)
   ·exact .inl k
   ·by_cases k2:v.2.1=(1:Int)
    ·exact .inr k2
    ·simp [k,k2] at hm
  unfold dB
  rw [show (v.1 != 3)=false by simp [bne,b3],hm2]
  rcases h01 with h | h <;> rw [h] <;> rfl

theorem C7 {v:Sem zg} (hv:kr v):wK v=some (gA v,()):=by
 obtain ⟨hlo,hhi,hlen⟩:=hv
 have hMC:=j9 (v:=v) hlen
 have hM:=mH (v:=v) hlen
 by_cases hm:ce v=true
 ·have hn:(!ce v)=false:=by rw [hm]; rfl
  by_cases h0:v.1=(0:Int)
  ·have b0:(v.1==0)=true:=bb.2 h0
   refine zY (r:=(.str [78,85,76,76],[])) ?_ ?_
   ·simp only [vL,Tr.val,hMC,hM,hn,b0,if_true]
    rfl
   ·unfold gA
    rw [h0,hm]
    rfl
  have b0:(v.1==0)=false:=bO.2 h0
  by_cases h1:v.1=(1:Int)
  ·have b1:(v.1==1)=true:=bb.2 h1
   have ht:gA v=ql v.2.1:=by
    unfold gA
    rw [hn,if_neg (by simp),if_pos b1]
   rw [ht]
   unfold ql
   by_cases hneg:LT.lt (α:=Int) v.2.1 0
   ·have hd:=vY (m:=v.2.1.natAbs) (by omega)
    rw [show -((v.2.1.natAbs:Nat):Int)=v.2.1 by omega] at hd
    have c1:jH v.2.1=true:=by unfold jH; rw [hd]; rfl
    have c2:kd v.2.1=mr 20 v.2.1.natAbs:=by unfold kd; rw [hd]; rfl
    have hdl:=xW 20 v.2.1.natAbs
    rw [if_pos hneg]
    refine zY (r:=(.str ([45]++mr 20 v.2.1.natAbs),[])) ?_ rfl
    simp only [vL,Tr.val,hMC,hM,hn,b0,b1,zu hneg,c1,c2,if_true]
    rw [if_neg (by simp),if_neg (by simp),if_pos (zu (by simp; omega))]
   ·have hd:=vY (m:=v.2.1.natAbs) (by omega)
    have hw:IntKind.i64.wrap (0 - v.2.1)=-((v.2.1.natAbs:Nat):Int):=by rw [fD]; omega
    have c1:jH (-((v.2.1.natAbs:Nat):Int))=true:=by unfold jH; rw [hd]; rfl
    have c2:kd (-((v.2.1.natAbs:Nat):Int))=mr 20 v.2.1.natAbs:=by unfold kd; rw [hd]; rfl
    rw [if_neg hneg]
    refine zY (r:=(.str (mr 20 v.2.1.natAbs),[])) ?_ rfl
    simp only [vL,Tr.val,hMC,hM,hn,b0,b1,ao hneg,hw,c1,c2,if_true]
    rw [if_neg (by simp),if_neg (by simp),if_neg (by simp)]
  have b1:(v.1==1)=false:=bO.2 h1
  by_cases h2:v.1=(2:Int)
  ·have b2:(v.1==2)=true:=bb.2 h2
   have ht:gA v=[39]++jR v.2.2++[39]:=by
    unfold gA
    rw [hn,if_neg (by simp),if_neg (by rw [b1]; simp),if_pos b2,AH]
   rw [ht]
   have hg:ah tK (v.2.2.length * 1+1) (.h13 [39] 0 (v,())) (.str ([39]++jR v.2.2++[39]),[]):=Yn (v:=v) hlen
   refine zD (s:=.h13 [39] 0 (v,())) ?_ hg (by omega) rfl
   simp only [vL,Tr.val,hMC,hM,hn,b0,b1,b2,if_true]
   rfl
  ·have b2:(v.1==2)=false:=bO.2 h2
   obtain ⟨b3,hs⟩:=SR hm h0 h1 h2
   have ht:gA v=if (v.2.1==1)=true then [84,82,85,69] else [70,65,76,83,69]:=by
    unfold gA
    rw [hn,if_neg (by simp),if_neg (by rw [b1]; simp),if_neg (by rw [b2]; simp),if_pos b3,hs]
   rw [ht]
   by_cases h3:(v.2.1==1)=true
   ·rw [if_pos h3]
    refine zY (r:=(.str [84,82,85,69],[])) ?_ rfl
    simp only [vL,Tr.val,hMC,hM,hn,b0,b1,b2,h3,if_true]
    rfl
   ·rw [if_neg h3]
    refine zY (r:=(.str [70,65,76,83,69],[])) ?_ rfl
    have h3:(v.2.1==1)=false:=by simpa using h3
    simp only [vL,Tr.val,hMC,hM,hn,b0,b1,b2,h3,if_true]
    rfl
 ·have hm:ce v=false:=by simpa using hm
  refine zY (r:=(.str [],[])) ?_ ?_
  ·simp only [vL,Tr.val,hMC,hM,hm,if_true]
   rfl
  ·unfold gA
   rw [hm]
   rfl
theorem C6 {v:Sem zg} (hv:kr v):sT v=true:=by unfold sT; rw [C7 hv]; rfl
theorem Ho {v:Sem zg} (hv:kr v):Aj v=gA v:=by unfold Aj; rw [C7 hv]; rfl
end Cad
