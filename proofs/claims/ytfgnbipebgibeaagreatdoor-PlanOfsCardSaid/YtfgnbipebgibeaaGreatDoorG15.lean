/- What is asked of tables with rows, and of bases, holds. What is asked of tables with rows, and of bases, holds. What is asked of bases holds. Plans: sources: always an answer. Plans: targets, joins: always an answer. Plans: what is named: always an answer. Loops: where they go, and where they end. Plans: copies, groups, joins: what they answer. Few of anything: always an answer, and a short one. Tables with rows that may be: no value twice. Tables with rows that may be. Bases that may be. -/
import Derived.Test.YtfgnbipebgibeaaGreatDoorG14
import Derived.Test.YtfgnbipebgibeaaGreatDoorG12
import Derived.Test.YtfgnbipebgibeaaGreatDoorG11
import Derived.Test.YtfgnbipebgibeaaGreatDoorG10
namespace Cad
open Go Go.Proofs
open Int (toNat)
open List (getD)
open List (length)

theorem Bj:∀ (es:List ((Int×Int×zw)×Int)) (n:Nat) (x:Int),(jg es n x).length=es.length
 | [],_,_=>rfl
 | _::_,0,_=>rfl
 | _::r,n+1,x=>by simp [jg,Bj r n x]
theorem Qz (es:List ((Int×Int×zw)×Int)) (k:Int×Int×zw):(iY es k).length≤es.length+1:=by
 unfold iY
 cases ma es k <;> simp
theorem Du:∀ (es:List ((Int×Int×zw)×Int)) (k:Int×Int×zw),(ma es k=true→ko es k < es.length)∧ko es k≤es.length
 | [],k=>⟨fun h=>by simp [ma] at h,bg _⟩
 | p::r,k=>by
  obtain ⟨h1,h2⟩:=Du r k
  constructor
  ·intro h
   rw [ko]
   cases hk:(k==p.1) with
   | true=>simp
   | false=>
    have:ma r k=true:=by simpa [ma,hk] using h
    have:=h1 this
    simp; omega
  ·rw [ko]
   cases (k==p.1) <;> simp <;> omega
theorem SZ (es:List ((Int×Int×zw)×Int)) (k:Int×Int×zw):ko es k < (iY es k).length:=by
 obtain ⟨h1,h2⟩:=Du es k
 unfold iY
 cases h:ma es k with
 | true=>exact h1 h
 | false=>simp; omega

def lB (c:Int) (n:Nat):Prop:=0≤c∧c < n
theorem sw {c:Int} {n:Nat} (h:lB c n):zR c n=true:=by
 simp [zR,h.1,h.2]
theorem vV {a0 a1 a2 a3 a4 a5 a6 a7 a8 a9 b0}:∀ (l:List (Sem zq)) (i:Int),eT a0 a1 a2 a3 a4 a5 a6 a7 a8 a9 b0 l i=true→lB a2 a1.length∧∀ f∈l,lB f.1 a1.length
 | [],i,h=>by
  rw [eT] at h
  split at h
  ·rename_i h1
   refine ⟨?_,by simp⟩
   unfold lB
   cases h2:decide (a2 ≥ 0) with
   | true=>
    rw [h2] at h1
    simp at h1 h2
    exact ⟨h2,h1⟩
   | false=>rw [h2] at h1; simp at h1
  ·cases h
 | x :: r,i,h=>by
  rw [eT] at h
  split at h
  ·cases h
  ·rename_i h1
   split at h
   ·cases h
   ·obtain ⟨h3,h4⟩:=vV r _ h
    refine ⟨h3,fun f hf=>?_⟩
    rcases dQ.1 hf with rfl | hf
    ·unfold lB
     cases h2:decide (f.1 ≥ 0) with
     | true=>
      rw [h2] at h1
      simp at h1 h2
      exact ⟨h2,h1⟩
     | false=>rw [h2] at h1; simp at h1
    ·exact h4 f hf
theorem vU {a0 a1 a2 a3 a4 a5 a6 a7 a8 a9 b0}:∀ (l:List (Sem zf)) (i:Int),eS a0 a1 a2 a3 a4 a5 a6 a7 a8 a9 b0 l i=true→lB a2 a1.length∧(∀ f∈a4,lB f.1 a1.length)∧∀ u∈l,lB u a1.length
 | [],i,h=>by
  rw [eS] at h
  obtain ⟨h1,h2⟩:=vV _ _ h
  exact ⟨h1,h2,by simp⟩
 | x :: r,i,h=>by
  rw [eS] at h
  split at h
  ·cases h
  ·rename_i h1
   obtain ⟨h3,h4,h5⟩:=vU r _ h
   refine ⟨h3,h4,fun f hf=>?_⟩
   rcases dQ.1 hf with rfl | hf
   ·unfold lB
    cases h2:decide (f ≥ 0) with
    | true=>
     rw [h2] at h1
     simp at h1 h2
     exact ⟨h2,h1⟩
    | false=>rw [h2] at h1; simp at h1
   ·exact h5 f hf
theorem yQ {a0 a1 a2 a3 a4 a5 a6 a7 a8 a9 b0}:∀ (l:List (Sem zh)) (i:Int),g7 a0 a1 a2 a3 a4 a5 a6 a7 a8 a9 b0 l i=true→lB a2 a1.length∧(∀ f∈a4,lB f.1 a1.length)∧∀ u∈a3,lB u a1.length
 | [],i,h=>by
  rw [g7] at h
  exact vU _ _ h
 | x::r,i,h=>by
  rw [g7] at h
  split at h
  ·cases h
  ·exact yQ r _ h
theorem jG {t:Sem zl} (h:eD t=true):lB t.2.2.1 t.2.1.length∧(∀ f∈t.2.2.2.2.1,lB f.1 t.2.1.length)∧(∀ u∈t.2.2.2.1,lB u t.2.1.length)∧t.2.1.length≤8∧1≤t.2.1.length:=by
 unfold eD at h
 split at h
 ·cases h
 ·rename_i h1
  obtain ⟨h2,h3,h4⟩:=yQ _ _ h
  refine ⟨h2,h3,h4,?_⟩
  cases hn:zJ t.1 with
  | false=>rw [hn] at h1; simp at h1
  | true=>
   rw [hn] at h1
   cases hd:decide ((length t.2.1:Int) < 1) with
   | true=>rw [hd] at h1; simp at h1
   | false=>
    rw [hd] at h1
    simp at h1 hd
    omega
theorem yA {t:Sem zl} {row:List (Sem zg)} (h:(eC t row != 0)≠true):row.length=t.2.1.length:=by
 simp at h
 unfold eC at h
 split at h
 ·cases h
 ·rename_i h1
  cases hm:eD t with
  | false=>rw [hm] at h1; simp at h1
  | true=>
   rw [hm] at h1
   simp at h1
   omega

structure mg (x:Sem zj):Prop where
 uq:x.1.2.2.2.1.length≤1000
 rf:x.1.2.2.2.2.1.length≤1000
 rw:x.2.length≤1000


theorem vB (l:List (Sem zj)) (s:zw):zZ l s=(-1:Int)∨((0:Int)≤zZ l s∧LT.lt (α:=Int) (zZ l s) l.length):=by
 have:=gJ (fun x:Sem zj=>x.1.1==s) l 0
 simp at this
 exact this

theorem du {l:List (Sem zj)} {s:zw} (h:(0:Int)≤zZ l s):zR (zZ l s) (length l)=true:=by
 rcases vB l s with h1 | ⟨h1,h2⟩
 ·rw [h1] at h; omega
 ·simp only [zR,aV,aN]; exact ⟨h1,h2⟩

set_option maxHeartbeats 4000000

theorem zX {α:Type} (l:List α) (d:α) {i:Nat} (h:i < l.length):l.getD ((i:Int).toNat) d=l[i]:=by
 rw [bd,aP,zP h,cX]

theorem lA {α:Type} (l:List α) (d:α) {i:Nat} (h:i < l.length):l.getD i d∈l:=by
 rw [aP,zP h,cX]
 exact bP h

def ea (f w:zw):List zw:=if (w==[])=true then [f] else [f,w]
def dL (db:List (Sem zj)) (ns:List zw):Bool:=db.any fun x => !bx ns x.1.1&&decide (GE.ge (α:=Int) (aj (fun f:Sem zq=>bx ns f.2) x.1.2.2.2.2.1 0) 0)
def nt (db:List (Sem zj)) (f w t:zw):Int:=
 if ∀ n∈ea f w,LE.le (α:=Int) 0 (zZ db n) then (if (decide (GE.ge (α:=Int) (zZ db t) 0)||f==w)=true then 7 else if dL db (ea f w)=true then 10 else 0) else 6

def T6 (y:zo aX) (y':zo aX):Prop:=
 (0:Int)≤zZ y.1 y.2.2.2.2.2.1∧(y.2.2.2.2.2.2.1=[]∨(0:Int)≤zZ y.1 y.2.2.2.2.2.2.1)∧LT.lt (α:=Int) (zZ y.1 y.2.1.2.1) 0∧y.2.2.2.2.2.1≠y.2.2.2.2.2.2.1∧
 y'.2.2.1=(getD y.1 (toNat (zZ y.1 y.2.2.2.2.2.1)) (zi zj)).1∧
 y'.2.2.2.1=(if y.2.2.2.2.2.2.1=[] then y.2.2.2.1 else (getD y.1 (toNat (zZ y.1 y.2.2.2.2.2.2.1)) (zi zj)).1)

def RC (y:zo aX) (r:aF):Prop:=∃ (e:Int) (y':zo aX),r=(.int .i64 e,ay aX y')∧y'.1=y.1∧y'.2.1=y.2.1∧y'.2.2.2.2=y.2.2.2.2∧e=nt y.1 y.2.2.2.2.2.1 y.2.2.2.2.2.2.1 y.2.1.2.1∧(e=0→T6 y y')

theorem zec (y:zo aX) (ns:List zw) (hl:length y.1≤1000000) (h1:(0:Int)≤zZ y.1 y.2.2.2.2.2.1) (h2:y.2.2.2.2.2.2.1=[]∨(0:Int)≤zZ y.1 y.2.2.2.2.2.2.1) (h3:LT.lt (α:=Int) (zZ y.1 y.2.1.2.1) 0) (h4:y.2.2.2.2.2.1≠y.2.2.2.2.2.2.1) (hE:nt y.1 y.2.2.2.2.2.1 y.2.2.2.2.2.2.1 y.2.1.2.1=if dL y.1 ns=true then 10 else 0) (n:Nat) (hn:1+length y.1≤n):
  ∃ r,cI A8 n (.h11 y.1 (length y.1:Int) 0 y ns)=some r∧RC y r:=by
 refine cP (t:=A8) (β:=Unit) (length y.1) (fun _ i=>.h11 y.1 (length y.1:Int) (i:Int) y ns) (fun _ i=>∀ j (hj:j < length y.1),j < i→(!bx ns y.1[j].1.1&&decide (GE.ge (α:=Int) (aj (fun f:Sem zq=>bx ns f.2) y.1[j].1.2.2.2.2.1 0) 0))=false) (RC y) 1 ?_ ?_ (length y.1) 0 () n rfl (aK _) (fun j _ h=>by omega) hn
 ·intro b i hi hI
  simp only [A8,Fj,A9,Tr.val,zM hi,zB hi,if_true,zX y.1 _ hi]
  rw [zt i (by unfold zA; omega)]
  have hnext:(!bx ns y.1[i].1.1&&decide (GE.ge (α:=Int) (aj (fun f:Sem zq=>bx ns f.2) y.1[i].1.2.2.2.2.1 0) 0))=false→∀ j (hj:j < length y.1),j < i+1→(!bx ns y.1[j].1.1&&decide (GE.ge (α:=Int) (aj (fun f:Sem zq=>bx ns f.2) y.1[j].1.2.2.2.2.1 0) 0))=false:=by
   intro h j hj hji
   by_cases hji2:j=i
   ·subst hji2; exact h
   ·exact hI j hj (by omega)
  by_cases c1:(!bx ns y.1[i].1.1)=true
  ·simp only [c1,if_true]
   split
   ·rename_i c2
    refine Or.inr ⟨_,rfl,10,y,rfl,rfl,rfl,rfl,?_,fun h=>by cases h⟩
    have hr:dL y.1 ns=true:=by
     unfold dL
     exact List.any_eq_true.2 ⟨y.1[i],bP hi,by rw [c1]; simpa using c2⟩
    rw [hE,if_pos hr]
   ·rename_i c2
    exact Or.inl ⟨(),hnext (by rw [c1]; simpa using c2),rfl⟩
  ·simp only [c1]
   exact Or.inl ⟨(),hnext (by simp only [ji] at c1; rw [c1]; rfl),rfl⟩
 ·intro b n hI hn
  have hr:dL y.1 ns=false:=by
   unfold dL
   rw [List.any_eq_false]
   intro x hx
   obtain ⟨j,hj,rfl⟩:=kD hx
   rw [hI j hj hj]
   simp
  rw [hr] at hE
  replace hE:=hE.symm
  simp only [zV,if_false] at hE
  obtain ⟨n,rfl⟩:∃ k,n=k+1:=⟨n - 1,by omega⟩
  rw [cx]
  simp only [A8,Fj,A9,Tr.val,zH,du h1,if_true]
  by_cases c1:(!y.2.2.2.2.2.2.1==[])=true
  ·have hne:y.2.2.2.2.2.2.1≠[]:=by simpa using c1
   have hb:(0:Int)≤zZ y.1 y.2.2.2.2.2.2.1:=h2.resolve_left hne
   simp only [c1,if_true,du hb]
   refine ⟨_,rfl,0,_,rfl,rfl,rfl,rfl,hE,fun _=>⟨h1,h2,h3,h4,rfl,?_⟩⟩
   simp [hne]
  ·have he:y.2.2.2.2.2.2.1=[]:=by simpa using c1
   simp only [c1]
   refine ⟨_,rfl,0,_,rfl,rfl,rfl,rfl,hE,fun _=>⟨h1,h2,h3,h4,rfl,?_⟩⟩
   simp [he]

theorem zgC (y:zo aX) (ns:List zw) (hns:ns=ea y.2.2.2.2.2.1 y.2.2.2.2.2.2.1) (hl:length y.1≤1000000) (n:Nat) (hn:2+length y.1+ns.length≤n):
  ∃ r,cI A8 n (.h3 ns (length ns:Int) 0 y ns)=some r∧RC y r:=by
 have hnl:ns.length≤2:=by rw [hns]; unfold ea; split <;> simp
 refine cP (t:=A8) (β:=Unit) ns.length (fun _ i=>.h3 ns (length ns:Int) (i:Int) y ns) (fun _ i=>∀ j (hj:j < ns.length),j < i→(0:Int)≤zZ y.1 ns[j]) (RC y) (2+length y.1) ?_ ?_ ns.length 0 () n rfl (aK _) (fun j _ h=>by omega) hn
 ·intro b i hi hI
  simp only [A8,JC,Fk,Tr.val,zM hi,zB hi,if_true,zX ns _ hi]
  rw [zt i (by unfold zA; omega)]
  by_cases c1:(0:Int)≤zZ y.1 ns[i]
  ·have:decide (LT.lt (α:=Int) (zZ y.1 ns[i]) 0)=false:=by simpa using c1
   simp only [this]
   refine Or.inl ⟨(),fun j hj hji=>?_,rfl⟩
   by_cases hji2:j=i
   ·subst hji2; exact c1
   ·exact hI j hj (by omega)
  ·have:decide (LT.lt (α:=Int) (zZ y.1 ns[i]) 0)=true:=by simpa using c1
   simp only [this,if_true]
   refine Or.inr ⟨_,rfl,6,y,rfl,rfl,rfl,rfl,?_,fun h=>by cases h⟩
   unfold nt
   rw [if_neg]
   intro h
   exact c1 (h _ (by rw [← hns]; exact bP hi))
 ·intro b n hI hn
  obtain ⟨n,rfl⟩:∃ k,n=k+1:=⟨n - 1,by omega⟩
  have hA:∀ n∈ea y.2.2.2.2.2.1 y.2.2.2.2.2.2.1,LE.le (α:=Int) 0 (zZ y.1 n):=by
   intro x hx
   rw [← hns] at hx
   obtain ⟨j,hj,rfl⟩:=kD hx
   exact hI j hj hj
  have hE:nt y.1 y.2.2.2.2.2.1 y.2.2.2.2.2.2.1 y.2.1.2.1=if (decide (GE.ge (α:=Int) (zZ y.1 y.2.1.2.1) 0)||y.2.2.2.2.2.1==y.2.2.2.2.2.2.1)=true then 7 else if dL y.1 ns=true then 10 else 0:=by
   unfold nt
   rw [if_pos hA,← hns]
  have h1:(0:Int)≤zZ y.1 y.2.2.2.2.2.1:=hA _ (by unfold ea; split <;> simp)
  have h2:y.2.2.2.2.2.2.1=[]∨(0:Int)≤zZ y.1 y.2.2.2.2.2.2.1:=by
   by_cases hw:(y.2.2.2.2.2.2.1==[])=true
   ·left; simpa using hw
   ·right
    exact hA _ (by unfold ea; rw [if_neg hw]; simp)
  rw [cx]
  simp only [A8,JC,Fk,Tr.val,zH]
  by_cases c1:(bif decide (GE.ge (α:=Int) (zZ y.1 y.2.1.2.1) 0) then true else y.2.2.2.2.2.1==y.2.2.2.2.2.2.1)=true
  ·simp only [c1,if_true]
   refine ⟨_,rfl,7,y,rfl,rfl,rfl,rfl,?_,fun h=>by cases h⟩
   rw [hE,if_pos (by revert c1; cases decide (GE.ge (α:=Int) (zZ y.1 y.2.1.2.1) 0) <;> exact id)]
  ·simp only [c1]
   have hd:decide (GE.ge (α:=Int) (zZ y.1 y.2.1.2.1) 0)=false:=by
    cases hh:decide (GE.ge (α:=Int) (zZ y.1 y.2.1.2.1) 0) with
    | false=>rfl
    | true=>rw [hh] at c1; simp at c1
   rw [hd] at c1
   refine zec y ns hl h1 h2 (by simpa using hd) (by simpa using c1) ?_ n (by omega)
   rw [hE,hd,if_neg (by simpa using c1)]

theorem G5 (y:zo aX) (hl:length y.1≤1000000):∃ (e:Int) (y':zo aX),pb y=some ((e,()),y')∧y'.1=y.1∧y'.2.1=y.2.1∧y'.2.2.2.2=y.2.2.2.2∧e=nt y.1 y.2.2.2.2.2.1 y.2.2.2.2.2.2.1 y.2.1.2.1∧(e=0→T6 y y'):=by
 have hps:iR (y.2.2.2.2.1,y.2.2.2.2.2.1,y.2.2.2.2.2.2.1,(y.2.2.2.2.2.2.2.1,[],y.2.2.2.2.2.2.2.2.1,[],[],zm y.2.2.2.2.2.2.2.2.2.1),[],y.2.2.2.2.2.2.2.2.2.2.1)=ea y.2.2.2.2.2.1 y.2.2.2.2.2.2.1:=rfl
 obtain ⟨r,h1,e,y',rfl,h2⟩:=zgC y _ hps hl 100000000 (by
  have:length (iR (y.2.2.2.2.1,y.2.2.2.2.2.1,y.2.2.2.2.2.2.1,(y.2.2.2.2.2.2.2.1,[],y.2.2.2.2.2.2.2.2.1,[],[],zm y.2.2.2.2.2.2.2.2.2.1),[],y.2.2.2.2.2.2.2.2.2.2.1))≤2:=by rw [hps]; unfold ea; split <;> simp
  omega)
 refine ⟨e,y',?_,h2⟩
 unfold pb j7 cL
 simp only [Sd,Tr.val]
 rw [h1]
 exact cH (outs:=[zf]) (r:=.int .i64 e) (a:=(e,())) y' rfl

theorem u9 {i n:Nat} (h:i < n):decide ((i:Int).toNat < n)=true:=by simpa using h

def mV (t:Sem zl):Int:=
 if ∃ i,i < length t.2.1∧ae t (getD t.2.1 i (zi zh)).1≠(i:Int) then 7 else if (t.2.2.2.2.2.op==[])=true then 0
 else if (bif (bD t.2.2.2.2.2 t.2.1).2==0 then bif (bD t.2.2.2.2.2 t.2.1).1 != 3 then (bD t.2.2.2.2.2 t.2.1).1 != 0 else false else false)=true then 5 else (bD t.2.2.2.2.2 t.2.1).2
abbrev Lk (y:zo af):Sem zl:=(y.2.2.2.2.2.2.2.1,y.2.2.2.2.2.2.2.2.1,y.2.2.2.2.2.2.2.2.2.1,[],[],y.2.2.2.2.2.2.2.2.2.2.1)

theorem ry (y:zo af) (hl:y.2.2.2.2.2.2.2.2.1.length≤1000000):sD y=some ((mV (Lk y),()),y):=by
 have h:=cP (t:=HX) (β:=Unit) y.2.2.2.2.2.2.2.2.1.length (fun _ i=>.h2 (y.2.2.2.2.2.2.2.2.1.length:Int) (i:Int) y) (fun _ i=>∀ j,j < i→j < length y.2.2.2.2.2.2.2.2.1→ae (Lk y) (getD y.2.2.2.2.2.2.2.2.1 j (zi zh)).1=(j:Int)) (fun r=>r=(.int .i64 (mV (Lk y)),ay af y)) 1 (by
   intro b i hi hI
   simp only [HX,JD,Fl,Tr.val,zM hi,zB hi,zu hi,if_true,zn,bd]
   rw [zt i (by unfold zA; omega)]
   by_cases c:(ae (Lk y) (getD y.2.2.2.2.2.2.2.2.1 i (zi zh)).1 != (i:Int))=true
   ·simp only [c,if_true]
    refine Or.inr ⟨_,rfl,?_⟩
    unfold mV
    rw [if_pos ⟨i,hi,by simpa using c⟩]
   ·simp only [c]
    refine Or.inl ⟨(),fun j hj hl=>?_,rfl⟩
    by_cases h:j=i
    ·subst h; simpa using c
    ·exact hI j (by omega) hl) (by
   intro b n hI hn
   obtain ⟨n,rfl⟩:∃ k,n=k+1:=⟨n - 1,by omega⟩
   have h0:¬ ∃ i,i < length (Lk y).2.1∧ae (Lk y) (getD (Lk y).2.1 i (zi zh)).1≠(i:Int):=by
    rintro ⟨i,hi,h⟩
    exact h (hI i hi hi)
   have hv:(HX (.h2 (y.2.2.2.2.2.2.2.2.1.length:Int) (y.2.2.2.2.2.2.2.2.1.length:Int) y)).val=some (.inr (.int .i64 (mV (Lk y)),ay af y)):=by
    simp only [HX,JD,Fl,Tr.val,zH,zn]
    unfold mV
    rw [if_neg h0]
    split
    ·simp_all
    ·split
     ·rfl
     ·split <;> rfl
   rw [cx,hv]
   exact ⟨_,rfl,rfl⟩)
  y.2.2.2.2.2.2.2.2.1.length 0 () 100000000 rfl (aK _) (fun j h=>by omega) (by omega)
 obtain ⟨r,h1,rfl⟩:=h
 unfold sD j7 cL
 simp only [Se,Tr.val]
 have h1':cI HX 100000000 (.h2 (y.2.2.2.2.2.2.2.2.1.length:Int) 0 y)=some (.int .i64 (mV (Lk y)),ay af y):=h1
 rw [h1']
 exact cH (outs:=[zf]) (r:=.int .i64 (mV (Lk y))) (a:=(mV (Lk y),())) y rfl

theorem tP (t:Sem zl) (s:zw):ae t s=(-1:Int)∨((0:Int)≤ae t s∧LT.lt (α:=Int) (ae t s) (length t.2.1)):=by
 have:=gJ (fun c:Sem zh=>c.1==s) t.2.1 0
 unfold ae
 simpa using this

theorem o8 {t:Sem zl} {s:zw} (h:¬ LT.lt (α:=Int) (ae t s) 0):zR (ae t s) (length t.2.1)=true:=by
 rcases tP t s with h1 | ⟨h1,h2⟩
 ·rw [h1] at h; simp at h
 ·simp only [zR,aV,aN]; exact ⟨h1,h2⟩

theorem vO (x:Int):∀ (l:List Int) (i:Nat),GE.ge (α:=Int) (ed x l (i:Int)) 0↔x∈l
 | [],i=>by
  rw [ed]
  exact ⟨fun h=>absurd h (by decide),fun h=>by cases h⟩
 | a::r,i=>by
  rw [ed]
  split
  ·rename_i h
   have:x=a:=by simpa using h
   subst this
   exact ⟨fun _=>B6,fun _=>Int.natCast_nonneg i⟩
  ·rename_i h
   have:=vO x r (i+1)
   rw [rP] at this
   rw [dQ]
   refine ⟨fun h2=>.inr (this.1 h2),fun h2=>this.2 (h2.resolve_left ?_)⟩
   rintro rfl
   simp at h
theorem rm (l:List Int) (x:Int):rk l x=true↔x∈l:=by
 unfold rk
 rw [decide_eq_true_iff]
 exact vO x l 0

def iy (t:Sem zl) (names:List zw):Int:=if ∀ s∈names,¬ LT.lt (α:=Int) (ae t s) 0 then (if (names.map (ae t)).Nodup then 0 else 7) else 4

theorem yY {l:List Int} {x:Int}:(l++[x]).Nodup↔l.Nodup∧x ∉ l:=by
 rw [List.nodup_append]
 simp
 intro _
 exact ⟨fun h h2=>h x h2 rfl,fun h y hy e=>h (e▸hy)⟩

theorem dH {α:Type} {l:List α} {i:Nat} (h:i < l.length):l.take (i+1)=l.take i++[l[i]]:=by
 rw [List.take_add_one,zP h]
 rfl

def H9 (y:zo aX) (z:zo dp):Prop:=z.1=y.1∧z.2.1=y.2.1∧z.2.2.1=y.2.2.1∧z.2.2.2.1=y.2.2.2.1∧z.2.2.2.2.1=y.2.2.2.2.1∧z.2.2.2.2.2.1=y.2.2.2.2.2.1∧z.2.2.2.2.2.2.1=y.2.2.2.2.2.2.1∧z.2.2.2.2.2.2.2.1=y.2.2.2.2.2.2.2.1∧
 z.2.2.2.2.2.2.2.2.2.1=y.2.2.2.2.2.2.2.2.1∧z.2.2.2.2.2.2.2.2.2.2.1=y.2.2.2.2.2.2.2.2.2.1∧z.2.2.2.2.2.2.2.2.2.2.2.2=y.2.2.2.2.2.2.2.2.2.2

abbrev fL (z:zo dp):List (Sem zh):=z.2.2.2.2.2.2.2.2.1
abbrev eH (z:zo dp):List (Sem zf):=z.2.2.2.2.2.2.2.2.2.2.2.1

def Yx (y:zo aX) (l:List zw) (z:zo dp):Prop:=H9 y z∧eH z=l.map (fun s=>ae y.2.2.1 s)∧fL z=l.map (fun s=>getD y.2.2.1.2.1 (toNat (ae y.2.2.1 s)) (zi zh))∧∀ s∈l,¬ LT.lt (α:=Int) (ae y.2.2.1 s) 0

def Yy (y:zo aX) (r:aF):Prop:=∃ (e:Int) (z:zo dp),r=(.int .i64 e,ay af z)∧H9 y z∧e=iy y.2.2.1 y.2.1.2.2.2.1∧(e=0→Yx y y.2.1.2.2.2.1 z)∧(fL z).length≤1000000

theorem zcV (y:zo aX) (z:zo dp) (hz:Yx y y.2.1.2.2.2.1 z) (hE:iy y.2.2.1 y.2.1.2.2.2.1=if (eH z).Nodup then 0 else 7) (hl:(eH z).length≤1000000) (m:Nat):∀ (i n:Nat),(eH z).length - i=m→i≤(eH z).length→((eH z).take i).Nodup→1+m≤n→∃ r,cI oE n (.h12b ((eH z).length:Int) (i:Int) z)=some r∧Yy y r:=by
 intro i n hm hi hnd hn
 have hcl:(fL z).length≤1000000:=by
  have:=hl
  rw [hz.2.1,dI] at this
  rw [hz.2.2.1,dI]
  exact this
 refine cP (t:=oE) (β:=Unit) (eH z).length (fun _ i=>.h12b ((eH z).length:Int) (i:Int) z) (fun _ i=>((eH z).take i).Nodup) (Yy y) 1 ?_ ?_ m i () n hm hi hnd hn
 ·intro b i hi hI
  have hd:(decide (0≤0)&&decide ((0:Int)≤(i:Int))&&decide ((i:Int)≤((eH z).length:Int)))=true:=by simp; omega
  simp only [oE,Bb,u5,Tr.val,zM hi,zB hi,if_true,hd]
  rw [zt i (by unfold zA; omega)]
  rw [show List.take (toNat (i:Int) - toNat 0) (List.drop (toNat 0) z.2.2.2.2.2.2.2.2.2.2.2.1)=(eH z).take i by simp,show z.2.2.2.2.2.2.2.2.2.2.2.1.getD (toNat (i:Int)) (zi zf)=(eH z)[i] from zX (eH z) _ hi]
  split
  ·rename_i c
   refine Or.inr ⟨_,rfl,7,z,rfl,hz.1,?_,fun h=>(by cases h),hcl⟩
   rw [hE,if_neg]
   intro hN
   have h2:((eH z).take (i+1)).Nodup:=hN.sublist (List.take_sublist _ _)
   rw [dH hi,yY] at h2
   exact h2.2 ((rm _ _).1 c)
  ·rename_i c
   refine Or.inl ⟨(),?_,rfl⟩
   show ((eH z).take (i+1)).Nodup
   rw [dH hi,yY]
   exact ⟨hI,fun h=>c ((rm _ _).2 h)⟩
 ·intro b n hI hn
  rw [vp] at hI
  obtain ⟨n,rfl⟩:∃ k,n=k+1:=⟨n - 1,by omega⟩
  rw [cx]
  simp only [oE,Bb,u5,Tr.val,zH]
  exact ⟨_,rfl,0,z,rfl,hz.1,by rw [hE,if_pos hI],fun _=>hz,hcl⟩

theorem zgw (y:zo aX) (z:zo dp) (hz:Yx y y.2.1.2.2.2.1 z) (hE:iy y.2.2.1 y.2.1.2.2.2.1=if (eH z).Nodup then 0 else 7) (hl:(eH z).length≤1000000) (n:Nat) (hn:2+(eH z).length≤n):∃ r,cI oE n (.h12 ((eH z).length:Int) 0 z)=some r∧Yy y r:=by
 have hcl:(fL z).length≤1000000:=by
  have:=hl
  rw [hz.2.1,dI] at this
  rw [hz.2.2.1,dI]
  exact this
 obtain ⟨n,rfl⟩:∃ k,n=k+1:=⟨n - 1,by omega⟩
 rw [cx]
 by_cases h:0 < (eH z).length
 ·have hd:(decide (0≤0)&&decide ((0:Int)≤((0:Nat):Int))&&decide (((0:Nat):Int)≤((eH z).length:Int)))=true:=by simp
  have hv:(∃ r,(oE (.h12 ((eH z).length:Int) ((0:Nat):Int) z)).val=some (.inr r)∧Yy y r)∨(oE (.h12 ((eH z).length:Int) ((0:Nat):Int) z)).val=some (.inl (.h12b ((eH z).length:Int) ((1:Nat):Int) z)):=by
   simp only [oE,Fo,Bc,Tr.val,zM h,zB h,u9 h,if_true,hd]
   rw [zt 0 (by unfold zA; omega)]
   split
   ·rename_i c
    exact absurd ((rm _ _).1 c) (by simp)
   ·exact Or.inr rfl
  rw [Int.ofNat_zero] at hv
  rcases hv with ⟨r,h1,h2⟩ | h1
  ·rw [h1]; exact ⟨r,rfl,h2⟩
  ·rw [h1]; exact zcV y z hz hE hl _ 1 n rfl (by omega) (by rw [dH h]; simp) (by omega)
 ·have h0:(eH z).length=0:=by omega
  have hv:(oE (.h12 ((eH z).length:Int) 0 z)).val=some (.inr (.int .i64 0,ay af z)):=by
   rw [h0]
   simp [oE,Fo,Bc,Tr.val]
  rw [hv]
  exact ⟨_,rfl,0,z,rfl,hz.1,by rw [hE,if_pos (by rw [t7 h0]; exact List.nodup_nil)],fun _=>hz,hcl⟩

theorem nm3 (y:zo aX) (z:zo dp) (hz:Yx y [] z) (hl:y.2.1.2.2.2.1.length≤1000000) (n:Nat) (hn:3+y.2.1.2.2.2.1.length+y.2.1.2.2.2.1.length≤n):∃ r,cI oE n (.h3 y.2.1.2.2.2.1 (y.2.1.2.2.2.1.length:Int) 0 z)=some r∧Yy y r:=by
 refine cP (t:=oE) (β:=zo dp) y.2.1.2.2.2.1.length (fun z i=>.h3 y.2.1.2.2.2.1 (y.2.1.2.2.2.1.length:Int) (i:Int) z) (fun z i=>Yx y (y.2.1.2.2.2.1.take i) z) (Yy y) (3+y.2.1.2.2.2.1.length) ?_ ?_ y.2.1.2.2.2.1.length 0 z n rfl (aK _) (by simpa using hz) hn
 ·intro z i hi hI
  obtain ⟨hk,hx,hc,hp⟩:=hI
  have hkl:(eH z).length≤1000000:=by rw [hx,dI,List.length_take]; omega
  have hcl:(fL z).length≤1000000:=by rw [hc,dI,List.length_take]; omega
  have e3:z.2.2.1=y.2.2.1:=hk.2.2.1
  simp only [oE,JH,Fp,Tr.val,zM hi,zB hi,if_true,zX _ _ hi,zn,Prod.eta]
  rw [zt i (by unfold zA; omega)]
  by_cases c1:LT.lt (α:=Int) (ae z.2.2.1 y.2.1.2.2.2.1[i]) 0
  ·simp only [zu c1,if_true]
   refine Or.inr ⟨_,rfl,4,z,rfl,hk,?_,fun h=>(by cases h),hcl⟩
   unfold iy
   rw [if_neg]
   intro h
   exact h _ (bP hi) (by rw [← e3]; exact c1)
  ·simp only [ao c1,o8 c1]
   refine Or.inl ⟨(z.1,z.2.1,z.2.2.1,z.2.2.2.1,z.2.2.2.2.1,z.2.2.2.2.2.1,z.2.2.2.2.2.2.1,z.2.2.2.2.2.2.2.1,z.2.2.2.2.2.2.2.2.1++[getD z.2.2.1.2.1 (toNat (ae z.2.2.1 y.2.1.2.2.2.1[i])) (zi zh)],z.2.2.2.2.2.2.2.2.2.1,z.2.2.2.2.2.2.2.2.2.2.1,z.2.2.2.2.2.2.2.2.2.2.2.1++[ae z.2.2.1 y.2.1.2.2.2.1[i]],z.2.2.2.2.2.2.2.2.2.2.2.2),⟨hk,?_,?_,?_⟩,?_⟩
   rotate_left 3
   ·rw [if_neg (by simp),if_pos (by have:z.2.2.2.2.2.2.2.2.2.2.2.1.length≤1000000:=hkl; simp; omega),if_pos trivial,if_pos (by have:z.2.2.2.2.2.2.2.2.1.length≤1000000:=hcl; simp; omega)]
   ·show eH z++[ae z.2.2.1 y.2.1.2.2.2.1[i]]=_
    rw [hx,e3,dH hi,ls]
    rfl
   ·show fL z++[getD z.2.2.1.2.1 (toNat (ae z.2.2.1 y.2.1.2.2.2.1[i])) (zi zh)]=_
    rw [hc,e3,dH hi,ls]
    rfl
   ·intro s hs
    rw [dH hi,bK] at hs
    rcases hs with hs | hs
    ·exact hp s hs
    ·rw [cz] at hs
     rw [hs,← e3]; exact c1
 ·intro z n hI hn
  obtain ⟨n,rfl⟩:∃ k,n=k+1:=⟨n - 1,by omega⟩
  rw [vp] at hI
  have hkl:(eH z).length=y.2.1.2.2.2.1.length:=by rw [hI.2.1,dI]
  rw [cx]
  simp only [oE,JH,Fp,Tr.val,zH]
  have hn2:2+(eH z).length≤n:=by rw [hkl]; omega
  refine zgw y z hI ?_ (by omega) n hn2
  unfold iy
  rw [if_pos hI.2.2.2,hI.2.1]

theorem CZ (y:zo aX) (hl:y.2.1.2.2.2.1.length≤1000000):∃ (e:Int) (z:zo dp),wF y=some ((e,()),z)∧H9 y z∧e=iy y.2.2.1 y.2.1.2.2.2.1∧(e=0→Yx y y.2.1.2.2.2.1 z)∧(fL z).length≤1000000:=by
 obtain ⟨r,h1,e,z,rfl,h2⟩:=nm3 y (y.1,y.2.1,y.2.2.1,y.2.2.2.1,y.2.2.2.2.1,y.2.2.2.2.2.1,y.2.2.2.2.2.2.1,y.2.2.2.2.2.2.2.1,[],y.2.2.2.2.2.2.2.2.1,y.2.2.2.2.2.2.2.2.2.1,[],y.2.2.2.2.2.2.2.2.2.2)
  ⟨⟨rfl,rfl,rfl,rfl,rfl,rfl,rfl,rfl,rfl,rfl,rfl⟩,rfl,rfl,by simp⟩ hl 100000000 (by omega)
 refine ⟨e,z,?_,h2⟩
 unfold wF j7 cL
 simp only [Sj,Tr.val]
 rw [h1]
 exact cH (outs:=[zf]) (r:=.int .i64 e) (a:=(e,())) (ps:=af) z rfl
open Go
section
variable {σ:Type} {t:σ→Tr (σ ⊕ aF)}

def ah (t:σ→Tr (σ ⊕ aF)) (k:Nat) (s:σ) (r:aF):Prop:=∀ n,k≤n→cI t n s=some r
def ap (t:σ→Tr (σ ⊕ aF)) (m:Nat) (s s':σ):Prop:=∀ k r,ah t k s' r→ah t (k+m) s r

theorem ah.mono {k k':Nat} {s:σ} {r:aF} (h:ah t k s r) (hk:k≤k'):ah t k' s r:=fun n hn=>h n (by omega)
theorem ah.of {s:σ} {r:aF} (h:(t s).val=some (.inr r)):ah t 1 s r:=by
 intro n hn
 obtain ⟨n,rfl⟩:∃ k,n=k+1:=⟨n - 1,by omega⟩
 rw [cI,h]
theorem ap.of {s s':σ} (h:(t s).val=some (.inl s')):ap t 1 s s':=by
 intro k r hr n hn
 obtain ⟨n,rfl⟩:∃ k,n=k+1:=⟨n - 1,by omega⟩
 rw [cI,h]
 exact hr n (by omega)
theorem ap.refl (s:σ):ap t 0 s s:=fun _ _ h=>h
theorem ap.trans {a b:Nat} {s s' s'':σ} (h1:ap t a s s') (h2:ap t b s' s''):ap t (b+a) s s'':=fun k r h=>(h1 _ _ (h2 k r h)).mono (by omega)
theorem ap.mono {a b:Nat} {s s':σ} (h:ap t a s s') (hk:a≤b):ap t b s s':=fun k r hr=>(h k r hr).mono (by omega)
theorem ap.ends {a k:Nat} {s s':σ} {r:aF} (h1:ap t a s s') (h2:ah t k s' r):ah t (k+a) s r:=h1 k r h2

theorem ap.all (m:Nat) (st:Nat→σ):∀ (N:Nat),(∀ i,i < N→ap t m (st i) (st (i+1)))→ap t (N * m) (st 0) (st N)
 | 0,_=>(ap.refl _).mono (by omega)
 | N+1,h=>((ap.all m st N fun i hi=>h i (by omega)).trans (h N (by omega))).mono (by rw [ja]; omega)

theorem lm {Φ:aF→Prop} (m:Nat) (st:Nat→σ) (P:Nat→Prop):∀ (N:Nat),(∀ i,i < N→(∀ j,j < i→P j)→(P i∧ap t m (st i) (st (i+1)))∨(¬ P i∧∃ r,ah t m (st i) r∧Φ r))→
  ((∀ i,i < N→P i)∧ap t (N * m) (st 0) (st N))∨((¬ ∀ i,i < N→P i)∧∃ r,ah t (N * m) (st 0) r∧Φ r)
 | 0,_=>.inl ⟨fun i hi=>absurd hi (by omega),(ap.refl _).mono (by omega)⟩
 | N+1,h=>by
  rcases lm m st P N fun i hi=>h i (by omega) with ⟨h1,h2⟩ | ⟨h1,r,h2,h3⟩
  ·rcases h N (by omega) h1 with ⟨h4,h5⟩ | ⟨h4,r,h5,h6⟩
   ·refine .inl ⟨fun i hi=>?_,(h2.trans h5).mono (by rw [ja]; omega)⟩
    rcases Nat.lt_succ_iff_lt_or_eq.1 hi with hi | rfl
    ·exact h1 i hi
    ·exact h4
   ·exact .inr ⟨fun h=>h4 (h N (by omega)),r,(h2.ends h5).mono (by rw [ja]; omega),h6⟩
  ·exact .inr ⟨fun h=>h1 fun i hi=>h i (by omega),r,h2.mono (by rw [ja]; omega),h3⟩

theorem zD {outs:List Sh} {n k:Nat} {i:Tr (σ ⊕ aF)} {s:σ} {r:aF} {y:zC (outs.map some)} (hi:i.val=some (.inl s)) (h:ah t k s r) (hk:k≤n) (hr:az r.2 outs r.1=some y):aA outs t n i=some y:=by
 unfold aA cL
 rw [hi]
 show (cI t n s).bind _=_
 rw [h n hk]
 exact hr
theorem zY {outs:List Sh} {n:Nat} {i:Tr (σ ⊕ aF)} {r:aF} {y:zC (outs.map some)} (hi:i.val=some (.inr r)) (hr:az r.2 outs r.1=some y):aA outs t n i=some y:=by
 unfold aA cL
 rw [hi]
 exact hr
theorem PL {outs:List Sh} {ps:List CP} {n:Nat} {i:Tr (σ ⊕ aF)} {r:aF} {y:zC (outs.map some)×zo ps} (hi:i.val=some (.inr r)) (hr:qO ps outs r.1 r.2=some y):j7 outs ps t n i=some y:=by
 unfold j7 cL
 rw [hi]
 exact hr
end

theorem Ur (y:zo aX):Ma y=y:=by
 unfold Ma
 rw [zn,zn,zn,zn,zn]

def me (y:zo aX) (z:zo af):Prop:=z.1=y.1∧z.2.1=y.2.1∧z.2.2.1=y.2.2.1∧z.2.2.2.1=y.2.2.2.1∧z.2.2.2.2.1=y.2.2.2.2.1∧z.2.2.2.2.2.1=y.2.2.2.2.2.1∧z.2.2.2.2.2.2.1=y.2.2.2.2.2.2.1∧z.2.2.2.2.2.2.2.1=y.2.2.2.2.2.2.2.1

structure BQ (z:zo af) (cols:List (Sem zh)) (key:Int) (ix:List Int) (on:Int):Prop where
 cols:z.2.2.2.2.2.2.2.2.1=cols
 key:z.2.2.2.2.2.2.2.2.2.1=key
 ix:z.2.2.2.2.2.2.2.2.2.2.2.1=ix
 on:z.2.2.2.2.2.2.2.2.2.2.2.2.1=on

def eZ (t:Sem zl) (names:List zw):List (Sem zh):=names.map fun s=>getD t.2.1 (toNat (ae t s)) (zi zh)
def ky (t:Sem zl) (names:List zw):List Int:=names.map (ae t)
def Bw (t:Sem zl) (names:List zw):Int:=if iy t names=0 then (if LT.lt (α:=Int) (gw (ky t names) t.2.2.1) 0 then 1 else 0) else iy t names
def BE (t:Sem zl) (names:List zw):Int:=if iy t names=0 then (if ((eZ t names).getD 1 (zi zh)).2.1=(1:Int) then 0 else 5) else iy t names
def Ea (t:Sem zl) (names:List zw):List (Sem zh):=
 [(((eZ t names).getD 0 (zi zh)).1,((eZ t names).getD 0 (zi zh)).2.1,true),(((eZ t names).getD 1 (zi zh)).1,((eZ t names).getD 1 (zi zh)).2.1,false)]
def j4 (t u:Sem zl) (k w:zw):Int:=
 if LT.lt (α:=Int) (ae t k) 0 then 4 else if kV t.2.2.2.2.1 (ae t k,w)=true then (if LT.lt (α:=Int) 9 ((length t.2.1:Int)+(length u.2.1:Int)) then 13 else 0) else 10
def wn (k:Int) (n:Nat):List Nat:=(List.range n).filter fun j=>(j:Int) != k
def j6 (k:Int) (n:Nat):List Int:=(wn k n).map fun (j:Nat)=>(j:Int)
def gC (u:Sem zl) (n:Nat):List (Sem zh):=(wn u.2.2.1 n).map fun j=>getD u.2.1 j (zi zh)

theorem XB (y:zo aX):OB y=OC y y (je y) (gw (je y).2.2.2.2.2.2.2.2.2.2.2.2.1 (je y).2.2.2.1.2.2.1):=by
 unfold OB
 rw [Ur]

theorem Pc (y:zo aX) (hl:y.2.1.2.2.2.1.length≤1000):∃ z:zo af,El y=some ((Bw y.2.2.1 y.2.1.2.2.2.1,()),z)∧me y z∧z.2.2.2.2.2.2.2.2.2.2.1=y.2.2.2.2.2.2.2.2.2.1∧
  (fL z).length≤1000000∧(Bw y.2.2.1 y.2.1.2.2.2.1=0→BQ z (eZ y.2.2.1 y.2.1.2.2.2.1) (gw (ky y.2.2.1 y.2.1.2.2.2.1) y.2.2.1.2.2.1) (ky y.2.2.1 y.2.1.2.2.2.1) y.2.2.2.2.2.2.2.2.2.2.1):=by
 obtain ⟨e,z,h1,hk,he,h2,hlen⟩:=CZ y (by omega)
 have hn:je y=(e,z):=by unfold je; rw [h1]; rfl
 have hc:mC y=true:=by unfold mC; rw [h1]; rfl
 have hkk:me y z:=⟨hk.1,hk.2.1,hk.2.2.1,hk.2.2.2.1,hk.2.2.2.2.1,hk.2.2.2.2.2.1,hk.2.2.2.2.2.2.1,hk.2.2.2.2.2.2.2.1⟩
 have hch:z.2.2.2.2.2.2.2.2.2.2.1=y.2.2.2.2.2.2.2.2.2.1:=hk.2.2.2.2.2.2.2.2.2.1
 unfold El j7 cL
 rw [XB]
 simp only [OC,Tr.val,hn,hc,if_true]
 by_cases h0:e=0
 ·have hI:=h2 h0
  have hE:Bw y.2.2.1 y.2.1.2.2.2.1=if LT.lt (α:=Int) (gw (eH z) z.2.2.1.2.2.1) 0 then 1 else 0:=by
   unfold Bw
   rw [if_pos (he▸h0),hI.2.1,hk.2.2.1]
   rfl
  simp only [h0,vo,zV,if_false]
  by_cases hx:LT.lt (α:=Int) (gw (eH z) z.2.2.1.2.2.1) 0
  ·rw [if_pos hx] at hE
   simp only [zu hx,if_true,hE]
   exact ⟨_,cH (outs:=[zf]) (r:=.int .i64 1) (a:=(1,())) (ps:=af) _ rfl,hkk,hch,hlen,fun h=>by cases h⟩
  ·rw [if_neg hx] at hE
   simp only [ao hx,hE]
   refine ⟨_,cH (outs:=[zf]) (r:=.int .i64 0) (a:=(0,())) (ps:=af) _ rfl,hkk,hch,hlen,fun _=>⟨hI.2.2.1,?_,hI.2.1,by rw [hk.2.2.2.2.2.2.2.2.2.2]⟩⟩
   show gw (eH z) z.2.2.1.2.2.1=_
   rw [hI.2.1,hk.2.2.1]
   rfl
 ·have hb:(e != 0)=true:=by simpa using h0
  have hE:Bw y.2.2.1 y.2.1.2.2.2.1=e:=by
   unfold Bw
   rw [if_neg (he▸h0),he]
  simp only [hb,if_true,hE]
  exact ⟨_,cH (outs:=[zf]) (r:=.int .i64 e) (a:=(e,())) (ps:=af) z rfl,hkk,hch,hlen,fun h=>absurd h h0⟩

theorem XC (y:zo aX):OD y=(let a1:=je y
  let a2:=a1.2.2.2.2.2.2.2.2.2.1.getD (toNat 1) (zi zh)
  let a3:=a1.2.2.2.2.2.2.2.2.2.1.getD (toNat 0) (zi zh)
  let a4:=a1.2.2.2.2.2.2.2.2.2.1.set (toNat 0) (a3.1,a3.2.1,true)
  let a5:=a4.getD (toNat 1) (zi zh)
  OE y y a1 a2 a3 a4 a5):=by
 unfold OD
 rw [Ur]

theorem Mj (y:zo aX) (hl:y.2.1.2.2.2.1.length=2):∃ z:zo af,wE y=some ((BE y.2.2.1 y.2.1.2.2.2.1,()),z)∧me y z∧z.2.2.2.2.2.2.2.2.2.2.1=y.2.2.2.2.2.2.2.2.2.1∧
  (fL z).length≤1000000∧(BE y.2.2.1 y.2.1.2.2.2.1=0→BQ z (Ea y.2.2.1 y.2.1.2.2.2.1) y.2.2.2.2.2.2.2.2.1 (ky y.2.2.1 y.2.1.2.2.2.1) y.2.2.2.2.2.2.2.2.2.2.1):=by
 obtain ⟨e,z,h1,hk,he,h2,hlen0⟩:=CZ y (by omega)
 have hn:je y=(e,z):=by unfold je; rw [h1]; rfl
 have hc:mC y=true:=by unfold mC; rw [h1]; rfl
 have hkk:me y z:=⟨hk.1,hk.2.1,hk.2.2.1,hk.2.2.2.1,hk.2.2.2.2.1,hk.2.2.2.2.2.1,hk.2.2.2.2.2.2.1,hk.2.2.2.2.2.2.2.1⟩
 have hch:z.2.2.2.2.2.2.2.2.2.2.1=y.2.2.2.2.2.2.2.2.2.1:=hk.2.2.2.2.2.2.2.2.2.1
 have hkey:z.2.2.2.2.2.2.2.2.2.1=y.2.2.2.2.2.2.2.2.1:=hk.2.2.2.2.2.2.2.2.1
 have hon:z.2.2.2.2.2.2.2.2.2.2.2.2.1=y.2.2.2.2.2.2.2.2.2.2.1:=by rw [hk.2.2.2.2.2.2.2.2.2.2]
 unfold wE j7 cL
 rw [XC]
 simp only [OE,hn]
 by_cases h0:e=0
 ·have hI:=h2 h0
  have hlen:(fL z).length=2:=by rw [hI.2.2.1,dI]; exact hl
  have hcols:fL z=eZ y.2.2.1 y.2.1.2.2.2.1:=hI.2.2.1
  have hix:eH z=ky y.2.2.1 y.2.1.2.2.2.1:=hI.2.1
  have hE:BE y.2.2.1 y.2.1.2.2.2.1=if ((eZ y.2.2.1 y.2.1.2.2.2.1).getD 1 (zi zh)).2.1=(1:Int) then 0 else 5:=by
   unfold BE
   rw [if_pos (he▸h0)]
  obtain ⟨z0,z1,z2,z3,z4,z5,z6,z7,cols,z9⟩:=z
  obtain ⟨c0,c1,rfl⟩:∃ c0 c1,cols=[c0,c1]:=by
   match cols,hlen with
   | [c0,c1],_=>exact ⟨c0,c1,rfl⟩
  have hcols:[c0,c1]=eZ y.2.2.1 y.2.1.2.2.2.1:=hcols
  unfold Ea
  rw [← hcols] at hE ⊢
  simp only [Tr.val,hc,if_true,h0,vo,zV,if_false]
  have e1:zR 1 (length [c0,c1])=true:=rfl
  have e0:zR 0 (length [c0,c1])=true:=rfl
  by_cases hty:c1.2.1=(1:Int)
  ·rw [if_pos (show ([c0,c1].getD 1 (zi zh)).2.1=(1:Int) from hty)] at hE
   rw [hE]
   refine ⟨(z0,z1,z2,z3,z4,z5,z6,z7,[(c0.1,c0.2.1,true),(c1.1,c1.2.1,false)],z9),?_,hkk,hch,by show length [(c0.1,c0.2.1,true),(c1.1,c1.2.1,false)]≤_; simp,fun _=>⟨rfl,hkey,hix,hon⟩⟩
   simp [hty,getD,zR]
   exact cH (outs:=[zf]) (r:=.int .i64 0) (a:=(0,())) (ps:=af) (z0,z1,z2,z3,z4,z5,z6,z7,[(c0.1,c0.2.1,true),(c1.1,1,false)],z9) rfl
  ·rw [if_neg (show ¬ ([c0,c1].getD 1 (zi zh)).2.1=(1:Int) from hty)] at hE
   rw [hE]
   refine ⟨(z0,z1,z2,z3,z4,z5,z6,z7,[c0,c1],z9),?_,hkk,hch,by show length [c0,c1]≤_; simp,fun h=>by cases h⟩
   simp [hty,getD]
   exact cH (outs:=[zf]) (r:=.int .i64 5) (a:=(5,())) (ps:=af) (z0,z1,z2,z3,z4,z5,z6,z7,[c0,c1],z9) rfl
 ·have hb:(e != 0)=true:=by simpa using h0
  have hE:BE y.2.2.1 y.2.1.2.2.2.1=e:=by
   unfold BE
   rw [if_neg (he▸h0),he]
  simp only [Tr.val,hc,hb,if_true,hE]
  exact ⟨z,cH (outs:=[zf]) (r:=.int .i64 e) (a:=(e,())) (ps:=af) z rfl,hkk,hch,hlen0,fun h=>absurd h h0⟩

def JnI (y:zo aX) (i:Nat) (z:zo dp):Prop:=me y z∧z.2.2.2.2.2.2.2.2.2.2.1=y.2.2.2.2.2.2.2.2.2.1∧BQ z (y.2.2.1.2.1++gC y.2.2.2.1 i) y.2.2.1.2.2.1 (j6 y.2.2.2.1.2.2.1 i) (ae y.2.2.1 y.2.1.2.2.2.2.2.1)

theorem nX (k:Int) (n:Nat):(wn k n).length≤n:=by
 unfold wn
 exact eX (List.length_filter_le _ _) (by simp)
theorem uK (k:Int) (n:Nat):wn k (n+1)=if ((n:Int) != k)=true then wn k n++[n] else wn k n:=by
 unfold wn
 rw [List.range_succ,List.filter_append]
 split
 ·rename_i h
  rw [List.filter_cons_of_pos (by exact h),List.filter_nil]
 ·rename_i h
  rw [List.filter_cons_of_neg (by exact h),List.filter_nil,xG]

theorem zga (y:zo aX) (z:zo dp) (hz:JnI y 0 z) (hf:length y.2.2.1.2.1≤100) (hl:length y.2.2.2.1.2.1≤100) (n:Nat) (hn:1+length y.2.2.2.1.2.1≤n):
  ∃ r,cI HW n (.h11 y.2.2.2.1.2.1 (length y.2.2.2.1.2.1:Int) 0 z)=some r∧∃ z':zo dp,r=(.int .i64 0,ay af z')∧JnI y (length y.2.2.2.1.2.1) z':=by
 refine cP (t:=HW) (β:=zo dp) (length y.2.2.2.1.2.1) (fun z i=>.h11 y.2.2.2.1.2.1 (length y.2.2.2.1.2.1:Int) (i:Int) z) (fun z i=>JnI y i z) _ 1 ?_ ?_ (length y.2.2.2.1.2.1) 0 z n rfl (aK _) hz hn
 ·intro z i hi hI
  obtain ⟨hk,hch,hA⟩:=hI
  have hoth:=nX y.2.2.2.1.2.2.1 i
  have hcl:(fL z).length≤2000:=by
   rw [show fL z=_ from hA.cols,iM,gC,dI]; omega
  have hxl:(eH z).length≤2000:=by
   rw [show eH z=_ from hA.ix,j6,dI]; omega
  have ek:z.2.2.2.1.2.2.1=y.2.2.2.1.2.2.1:=by rw [hk.2.2.2.1]
  simp only [HW,Fi,A7,Tr.val,zM hi,zB hi,if_true,zX _ _ hi]
  rw [zt i (by unfold zA; omega)]
  refine Or.inl ?_
  have hsucc:=uK y.2.2.2.1.2.2.1 i
  split
  ·rename_i hc
   rw [ek] at hc
   rw [if_pos hc] at hsucc
   refine ⟨(z.1,z.2.1,z.2.2.1,z.2.2.2.1,z.2.2.2.2.1,z.2.2.2.2.2.1,z.2.2.2.2.2.2.1,z.2.2.2.2.2.2.2.1,z.2.2.2.2.2.2.2.2.1++[y.2.2.2.1.2.1[i]],z.2.2.2.2.2.2.2.2.2.1,z.2.2.2.2.2.2.2.2.2.2.1,z.2.2.2.2.2.2.2.2.2.2.2.1++[(i:Int)],z.2.2.2.2.2.2.2.2.2.2.2.2),⟨hk,hch,⟨?_,hA.key,?_,hA.on⟩⟩,?_⟩
   ·show z.2.2.2.2.2.2.2.2.1++[y.2.2.2.1.2.1[i]]=_
    rw [hA.cols,xD,gC,gC,hsucc,ls]
    simp [zP hi]
   ·show z.2.2.2.2.2.2.2.2.2.2.2.1++[(i:Int)]=_
    rw [hA.ix,j6,j6,hsucc,ls]
    rfl
   ·rw [if_pos (by have:z.2.2.2.2.2.2.2.2.2.2.2.1.length≤2000:=hxl; simp; omega),if_pos (by have:z.2.2.2.2.2.2.2.2.1.length≤2000:=hcl; simp; omega)]
  ·rename_i hc
   rw [ek] at hc
   rw [if_neg hc] at hsucc
   refine ⟨z,⟨hk,hch,⟨?_,hA.key,?_,hA.on⟩⟩,rfl⟩
   ·rw [hA.cols,gC,gC,hsucc]
   ·rw [hA.ix,j6,j6,hsucc]
 ·intro z n hI hn
  obtain ⟨n,rfl⟩:∃ k,n=k+1:=⟨n - 1,by omega⟩
  rw [cx]
  simp only [HW,Fi,A7,Tr.val,zH]
  exact ⟨_,rfl,z,rfl,hI⟩

theorem Pd (y:zo aX) (hf:length y.2.2.1.2.1≤100) (hl:length y.2.2.2.1.2.1≤100):∃ z:zo af,yO y=some ((j4 y.2.2.1 y.2.2.2.1 y.2.1.2.2.2.2.2.1 y.2.2.2.2.2.2.1,()),z)∧me y z∧z.2.2.2.2.2.2.2.2.2.2.1=y.2.2.2.2.2.2.2.2.2.1∧
  (fL z).length≤1000000∧(j4 y.2.2.1 y.2.2.2.1 y.2.1.2.2.2.2.2.1 y.2.2.2.2.2.2.1=0→BQ z (y.2.2.1.2.1++gC y.2.2.2.1 (length y.2.2.2.1.2.1)) y.2.2.1.2.2.1 (j6 y.2.2.2.1.2.2.1 (length y.2.2.2.1.2.1)) (ae y.2.2.1 y.2.1.2.2.2.2.2.1)):=by
 have hk:∀ (a:List (Sem zh)) (b:Int) (c:ze) (d:List Int) (e:Int),me y (y.1,y.2.1,y.2.2.1,y.2.2.2.1,y.2.2.2.2.1,y.2.2.2.2.2.1,y.2.2.2.2.2.2.1,y.2.2.2.2.2.2.2.1,a,b,c,d,e,()):=fun _ _ _ _ _=>⟨rfl,rfl,rfl,rfl,rfl,rfl,rfl,rfl⟩
 have hw:IntKind.i64.wrap (IntKind.i64.wrap ((↑(length y.2.2.1.2.1):Int)+(↑(length y.2.2.2.1.2.1):Int)) - 1)=(↑(length y.2.2.1.2.1):Int)+(↑(length y.2.2.2.1.2.1):Int) - 1:=by
  rw [iE ((↑(length y.2.2.1.2.1):Int)+(↑(length y.2.2.2.1.2.1):Int)) (by omega) (by omega),iE _ (by omega) (by omega)]
 have out:∀ e:Int,e≠0→(Ec y).val=some (.inr (.int .i64 e,ay af (y.1,y.2.1,y.2.2.1,y.2.2.2.1,y.2.2.2.2.1,y.2.2.2.2.2.1,y.2.2.2.2.2.2.1,y.2.2.2.2.2.2.2.1,[],y.2.2.2.2.2.2.2.2.1,y.2.2.2.2.2.2.2.2.2.1,[],ae y.2.2.1 y.2.1.2.2.2.2.2.1,())))→j4 y.2.2.1 y.2.2.2.1 y.2.1.2.2.2.2.2.1 y.2.2.2.2.2.2.1=e→∃ z:zo af,yO y=some ((j4 y.2.2.1 y.2.2.2.1 y.2.1.2.2.2.2.2.1 y.2.2.2.2.2.2.1,()),z)∧me y z∧z.2.2.2.2.2.2.2.2.2.2.1=y.2.2.2.2.2.2.2.2.2.1∧
  (fL z).length≤1000000∧(j4 y.2.2.1 y.2.2.2.1 y.2.1.2.2.2.2.2.1 y.2.2.2.2.2.2.1=0→BQ z (y.2.2.1.2.1++gC y.2.2.2.1 (length y.2.2.2.1.2.1)) y.2.2.1.2.2.1 (j6 y.2.2.2.1.2.2.1 (length y.2.2.2.1.2.1)) (ae y.2.2.1 y.2.1.2.2.2.2.2.1)):=by
  intro e he hv hE
  rw [hE]
  refine ⟨_,PL hv (cH (outs:=[zf]) (r:=.int .i64 e) (a:=(e,())) (ps:=af) _ rfl),hk _ _ _ _ _,rfl,by show ([]:List (Sem zh)).length≤_; simp,fun h=>absurd h he⟩
 by_cases c1:LT.lt (α:=Int) (ae y.2.2.1 y.2.1.2.2.2.2.2.1) 0
 ·refine out 4 (by decide) ?_ (by unfold j4; rw [if_pos c1])
  simp only [Ec,GP,Tr.val,zn,zu c1,if_true]
 by_cases c2:kV y.2.2.1.2.2.2.2.1 (ae y.2.2.1 y.2.1.2.2.2.2.2.1,y.2.2.2.2.2.2.1)=true
 ·by_cases c3:LT.lt (α:=Int) 9 ((length y.2.2.1.2.1:Int)+(length y.2.2.2.1.2.1:Int))
  ·refine out 13 (by decide) ?_ (by unfold j4; rw [if_neg c1,if_pos c2,if_pos c3])
   simp only [Ec,GP,Tr.val,zn,ao c1,c2,hw]
   rw [if_neg (by simp),if_neg (by simp),if_pos (by simp; omega)]
  ·have hE:j4 y.2.2.1 y.2.2.2.1 y.2.1.2.2.2.2.2.1 y.2.2.2.2.2.2.1=0:=by unfold j4; rw [if_neg c1,if_pos c2,if_neg c3]
   have hv:(Ec y).val=some (.inl (.h11 y.2.2.2.1.2.1 (length y.2.2.2.1.2.1:Int) 0 (y.1,y.2.1,y.2.2.1,y.2.2.2.1,y.2.2.2.2.1,y.2.2.2.2.2.1,y.2.2.2.2.2.2.1,y.2.2.2.2.2.2.2.1,y.2.2.1.2.1,y.2.2.1.2.2.1,y.2.2.2.2.2.2.2.2.2.1,[],ae y.2.2.1 y.2.1.2.2.2.2.2.1,()))):=by
    simp only [Ec,GP,Tr.val,zn,ao c1,c2,hw]
    rw [if_neg (by simp),if_neg (by simp),if_neg (by simp; omega),if_pos (by simp; omega)]
   obtain ⟨r,h1,z',rfl,hJ⟩:=zga y (y.1,y.2.1,y.2.2.1,y.2.2.2.1,y.2.2.2.2.1,y.2.2.2.2.2.1,y.2.2.2.2.2.2.1,y.2.2.2.2.2.2.2.1,y.2.2.1.2.1,y.2.2.1.2.2.1,y.2.2.2.2.2.2.2.2.2.1,[],ae y.2.2.1 y.2.1.2.2.2.2.2.1,()) ⟨hk _ _ _ _ _,rfl,⟨by simp [gC,wn],rfl,rfl,rfl⟩⟩ hf hl 100000000 (by omega)
   rw [hE]
   refine ⟨z',?_,hJ.1,hJ.2.1,?_,fun _=>hJ.2.2⟩
   ·unfold yO j7 cL
    rw [hv]
    show (cI HW 100000000 _).bind _=_
    rw [h1]
    exact cH (outs:=[zf]) (r:=.int .i64 0) (a:=(0,())) (ps:=af) z' rfl
   ·have hoth:=nX y.2.2.2.1.2.2.1 (length y.2.2.2.1.2.1)
    rw [show fL z'=_ from hJ.2.2.cols,iM,gC,dI]; omega
 ·refine out 10 (by decide) ?_ (by unfold j4; rw [if_neg c1,if_neg c2])
  simp only [Ec,GP,Tr.val,zn,ao c1]
  rw [if_neg (by simp),if_pos (by simpa using c2)]

def Dx (l rows:List (Sem (.sl zg))):Prop:=rows.length≤201∧∀ r∈rows,∃ r0∈l,r=lE r0
theorem ze6 (n:Nat) (i4:Int) (hi4:i4≤201) (h0:0≤i4) (z0:zo cpR) (z1:zo W7) (t:Sem zl) (hn:300≤n):∃ rows:List (Sem (.sl zg)),Dx z0.1.2 rows∧∃ r,cI MI n (.h6 i4 0 z0 z1 (t,[],()))=some r∧az r.2 [zj] r.1=some (((t,rows):Sem zj),()):=by
 obtain ⟨N,hN⟩:∃ N:Nat,i4=(N:Int):=⟨toNat i4,by omega⟩
 have h:=cP (t:=MI) (β:=List (Sem (.sl zg))) (min N (length z0.1.2)) (fun b i=>.h6 i4 (i:Int) z0 z1 (t,b,())) (fun b i=>b.length=i∧∀ r∈b,∃ r0∈z0.1.2,r=lE r0) (fun r=>∃ rows:List (Sem (.sl zg)),Dx z0.1.2 rows∧az r.2 [zj] r.1=some (((t,rows):Sem zj),())) 1 (by
   intro b i hi hb
   have h1:(i:Int) < (length z0.1.2:Int):=by omega
   have h2:(i:Int) < i4:=by omega
   have h3:zR (i:Int) (length z0.1.2)=true:=zB (by omega)
   refine Or.inl ⟨b++[lE (getD z0.1.2 (i:Int).toNat (zi zg.sl))],⟨by simp [hb.1],fun r hr=>?_⟩,?_⟩
   ·rcases bK.1 hr with hr | hr
    ·exact hb.2 r hr
    ·rw [cz] at hr
     refine ⟨_,?_,hr⟩
     rw [bd,aP,zP (by omega),cX]
     exact bP _
   simp only [MI,Tr.val,zu h1,zu h2,zU,if_true,h3]
   rw [zt i (by unfold zA; omega),if_pos (by simp; omega)]) (by
   intro b n hb hn
   obtain ⟨n,rfl⟩:∃ k,n=k+1:=⟨n - 1,by omega⟩
   rw [cx]
   have hf:(bif decide (((min N (length z0.1.2):Nat):Int) < (length z0.1.2:Int)) then decide (((min N (length z0.1.2):Nat):Int) < i4) else false)=false:=by
    by_cases h:N≤length z0.1.2
    ·rw [Nat.min_eq_left h,hN]
     simp
    ·rw [Nat.min_eq_right (by omega)]
     simp
   simp only [MI,Tr.val,hf]
   refine ⟨_,rfl,b,⟨by have:=hb.1; omega,hb.2⟩,?_⟩
   obtain ⟨t0,t1,t2,t3,t4,t5⟩:=t
   cases t5
   rfl) (min N (length z0.1.2)) 0 [] n rfl (aK _) ⟨rfl,by simp⟩ (by omega)
 obtain ⟨r,h1,rows,h2,h3⟩:=h
 exact ⟨rows,h2,r,h1,h3⟩

theorem GZ (x:Sem zj):∃ rows:List (Sem (.sl zg)),Dx x.2 rows∧yM x=some (((u6 x.1,rows):Sem zj),()):=by
 have e:u6 (x.1.1,x.1.2.1,x.1.2.2.1,x.1.2.2.2.1,x.1.2.2.2.2.1,zm x.1.2.2.2.2.2)=u6 x.1:=by rw [zn]
 have hv:∃ k:Int,0≤k∧k≤201∧(XA x).val=some (.inl (.h6 k 0 (x,()) ([],0,[],0,0,[],[],()) (u6 x.1,[],()))):=by
  simp only [XA,Tr.val,e]
  split
  ·exact ⟨201,by omega,by omega,rfl⟩
  ·exact ⟨40,by omega,by omega,rfl⟩
 obtain ⟨k,k1,k2,hv⟩:=hv
 obtain ⟨rows,h1,r,h2,h3⟩:=ze6 100000000 k k2 k1 (x,()) ([],0,[],0,0,[],[],()) (u6 x.1) (by omega)
 refine ⟨rows,h1,?_⟩
 unfold yM aA cL
 rw [hv]
 show (cI MI 100000000 _).bind _=_
 rw [h2]
 exact h3

theorem GY (x:Sem zj):IV x=true:=by
 obtain ⟨rows,h1,h2⟩:=GZ x
 unfold IV
 rw [h2]; rfl

theorem O4 (db:List (Sem zj)):∃ db':List (Sem zj),yN db=some (db',())∧db'.length≤13∧∀ x∈db',∃ y∈db,x=vR y:=by
 have h:=cP (t:=t7p) (β:=List (Sem zj)) (min 13 db.length) (fun b i=>.h3 db (i:Int) b) (fun b i=>b.length=i∧∀ x∈b,∃ y∈db,x=vR y) (fun r=>∃ db':List (Sem zj),az r.2 [zj.sl] r.1=some (db',())∧db'.length≤13∧∀ x∈db',∃ y∈db,x=vR y) 1 (by
   intro b i hi hb
   have h1:(i:Int) < (db.length:Int):=by omega
   have h2:(i:Int) < 13:=by omega
   have h3:zR (i:Int) db.length=true:=zB (by omega)
   refine Or.inl ⟨b++[vR (db.getD (i:Int).toNat (zi zj))],⟨by simp [hb.1],?_⟩,?_⟩
   ·intro x hx
    rcases bK.1 hx with hx | hx
    ·exact hb.2 x hx
    ·rw [cz] at hx
     refine ⟨_,?_,hx⟩
     rw [bd,aP,zP (by omega),cX]
     exact bP _
   ·simp only [t7p,Tr.val,zu h1,zu h2,zU,if_true,h3,zn,Prod.eta,GY]
    rw [zt i (by unfold zA; omega),if_pos (by simp; omega)]) (by
   intro b n hb hn
   obtain ⟨n,rfl⟩:∃ k,n=k+1:=⟨n - 1,by omega⟩
   rw [cx]
   have hf:(bif decide (((min 13 db.length:Nat):Int) < (db.length:Int)) then decide (((min 13 db.length:Nat):Int) < 13) else false)=false:=by
    by_cases h:13≤db.length
    ·rw [Nat.min_eq_left h]
     simp
    ·rw [Nat.min_eq_right (by omega)]
     simp
   simp only [t7p,Tr.val,hf]
   exact ⟨_,rfl,b,rfl,by omega,hb.2⟩) (min 13 db.length) 0 [] 100000000 rfl (aK _) ⟨rfl,by simp⟩ (by omega)
 obtain ⟨r,h1,db',h2,h3,h4⟩:=h
 refine ⟨db',?_,h3,h4⟩
 unfold yN aA cL
 simp only [i7p,Tr.val]
 have h1':cI t7p 100000000 (.h3 db 0 [])=some r:=h1
 rw [h1']
 exact h2

theorem jr (s:zw):eL s=true:=by
 unfold eL
 split
 ·rename_i h
  have:20 < s.length:=by simp at h; omega
  rw [if_pos (by simp; omega)]
 ·rfl
theorem ee (s:zw):(cJ s).length≤20:=by
 unfold cJ
 split
 ·simp; omega
 ·rename_i h
  have:¬ 20 < s.length:=by simp at h; omega
  omega
theorem nc:∀ (l:List zw) (i:Int) (acc:List zw),(acc.length:Int)≤i→fg l i acc=true
 | [],_,_,_=>rfl
 | x::r,i,acc,h=>by
  rw [fg]
  split
  ·rename_i hi
   simp only [aN] at hi
   rw [if_pos (jr x),if_pos (by simp; omega)]
   exact nc r (i+1) _ (by simp; omega)
  ·rfl
theorem BG (l:List zw):nV l=true:=nc l 0 [] (by simp)
theorem qn:∀ (l:List zw) (i:Int) (acc:List zw),(acc.length:Int)≤i→acc.length≤10→(∀ x∈acc,length x≤20)→length (dW l i acc)≤10∧∀ x∈dW l i acc,length x≤20
 | [],_,acc,_,h,ha=>⟨h,ha⟩
 | x::r,i,acc,h,hl,ha=>by
  rw [dW]
  split
  ·rename_i hi
   simp only [aN] at hi
   refine qn r (i+1) _ (by simp; omega) (by simp; omega) (fun y hy=>?_)
   rcases bK.1 hy with hy | hy
   ·exact ha y hy
   ·rw [cz] at hy
    rw [hy]; exact ee x
  ·exact ⟨hl,ha⟩
theorem vQ (l:List zw):length (jq l)≤10∧∀ x∈jq l,length x≤20:=qn l 0 [] (by simp) (by simp) (by simp)
theorem nW:∀ (l:List (Sem zh)) (i:Int) (acc:List (Sem zh)),(acc.length:Int)≤i→acc.length≤10→(∀ x∈acc,length x.1≤20)→length (ft l i acc)≤10∧∀ x∈ft l i acc,length x.1≤20
 | [],_,acc,_,h,ha=>⟨h,ha⟩
 | x :: r,i,acc,h,hl,ha=>by
  rw [ft]
  split
  ·rename_i hi
   simp only [aN] at hi
   split
   ·refine nW r (i+1) _ (by simp; omega) (by simp; omega) (fun y hy=>?_)
    rcases bK.1 hy with hy | hy
    ·exact ha y hy
    ·rw [cz] at hy
     rw [hy]; simp; omega
   ·rename_i hx
    have hx:¬ 20 < length x.1:=by simp at hx; omega
    refine nW r (i+1) _ (by simp; omega) (by simp; omega) (fun y hy=>?_)
    rcases bK.1 hy with hy | hy
    ·exact ha y hy
    ·rw [cz] at hy
     rw [hy]; omega
  ·exact ⟨hl,ha⟩
theorem Mg (l:List (Sem zh)):length (qo l)≤10∧∀ x∈qo l,length x.1≤20:=nW l 0 [] (by simp) (by simp) (by simp)
theorem vT:∀ (l:List (Sem zg)) (i:Int) (acc:List (Sem zg)),(acc.length:Int)≤i→acc.length≤14→length (iH l i acc)≤14
 | [],_,acc,_,h=>h
 | x::r,i,acc,h,hl=>by
  rw [iH]
  split
  ·rename_i hi
   simp only [aN] at hi
   exact vT r (i+1) _ (by simp; omega) (by simp; omega)
  ·exact hl
theorem Mh (l:List (Sem zg)):length (lE l)≤14:=vT l 0 [] (by simp) (by simp)

theorem Kj {g:Sem Sh.expr→Sem zf→Sem zf→Sem Sh.expr×Sem zf} {c:Sem Sh.expr→Sem zf→Sem zf→Bool} {i1:Int} {N:Nat} (h:∀ x n,0 < i1→kw N (g x (IntKind.i64.wrap (i1 - 1)) n).1=true) {a0 a1 a2 a3 a4 b0 b1 b2 b3 b4 d0 d1 d2 d3 d4}:
  ∀ (l:List (Sem Sh.expr)) (i n:Int) (acc:List (Sem Sh.expr)),(acc.length:Int)≤i→acc.length≤3→(∀ x∈acc,kw N x=true)→kw (N+1) (cr g c i1 a0 a1 a2 a3 a4 b0 b1 b2 b3 b4 d0 d1 d2 d3 d4 l i n acc).1=true
 | [],_,_,acc,_,hl,ha=>by
  rw [cr]
  show (decide (acc.length≤1073741824)&&acc.all (kw N))=true
  rw [fE.2 ha]
  simp; omega
 | x::r,i,n,acc,hi,hl,ha=>by
  rw [cr]
  split
  ·rename_i hk
   have h3:i < 3∧i1 > 0:=by
    cases h1:decide (i < 3) <;> cases h2:decide (i1 > 0) <;> simp_all
   refine Kj h r (i+1) _ _ (by simp; omega) (by simp; omega) (fun y hy=>?_)
   rcases bK.1 hy with hy | hy
   ·exact ha y hy
   ·rw [cz] at hy
    rw [hy]; exact h x n h3.2
  ·show (decide (acc.length≤1073741824)&&acc.all (kw N))=true
   rw [fE.2 ha]
   simp; omega
theorem R8 {g:Sem Sh.expr→Sem zf→Sem zf→Sem Sh.expr×Sem zf} {c:Sem Sh.expr→Sem zf→Sem zf→Bool} {i1:Int} {N:Nat} (h:∀ x n,0 < i1→kw N (g x (IntKind.i64.wrap (i1 - 1)) n).1=true) (e:ze) (n:Int):kw (N+1) (GI g c e i1 n).1=true:=by
 unfold GI
 repeat' split
 all_goals exact Kj h _ _ _ _ (by simp) (by simp) (by simp)
theorem Kl:∀ (N:Nat) (e:ze) (d n:Int),0≤d→d < N→N≤100→kw N (kx N e d n).1=true
 | 0,_,_,_,h1,h2,_=>by omega
 | N+1,e,d,n,h1,h2,h3=>by
  rw [kx]
  refine R8 (fun x m hd=>?_) e n
  rw [iE _ (by omega) (by omega)]
  exact Kl N x (d - 1) m (by omega) (by omega) (by omega)
theorem DQ (e:ze):kw 16 (cY e)=true:=by
 have h:=Kl 16 e 14 80 (by omega) (by omega) (by omega)
 unfold cY
 rw [ze.eta]
 exact h

structure Na (s:Sem zk):Prop where
 sh:qJ s
 cp:kw 16 s.2.2.2.2.2.2.2.2.1=true

def F3I (z0:zo nu) (i:Nat) (z:zo Ny):Prop:=z.1.length≤20∧z.2.1.length≤20∧z.2.2.1.length≤20∧(length z.2.2.2.1≤10∧∀ x∈z.2.2.2.1,length x≤20)∧(length z.2.2.2.2.1≤10∧∀ x∈z.2.2.2.2.1,length x.1≤20)∧z.2.2.2.2.2.1.length≤20∧
 (length z.2.2.2.2.2.2.1≤10∧∀ x∈z.2.2.2.2.2.2.1,length x≤20)∧(length z.2.2.2.2.2.2.2.1=i∧∀ x∈z.2.2.2.2.2.2.2.1,length x.1≤20∧length x.2≤20)∧kw 16 z.2.2.2.2.2.2.2.2.1=true∧length z.2.2.2.2.2.2.2.2.2.1≤14∧z.2.2.2.2.2.2.2.2.2.2.2.1.length≤20∧
 z.2.2.2.2.2.2.2.2.1=cY z0.1.2.2.2.2.2.2.2.2.1∧z.2.2.2.2.2.2.2.2.2.1=lE z0.1.2.2.2.2.2.2.2.2.2.1∧z.2.2.2.2.2.2.2.2.2.2.1=cY z0.1.2.2.2.2.2.2.2.2.2.2.2.1

def F7I (z0:zo nu) (i:Nat) (z:zo Nz):Prop:=z.1.length≤20∧z.2.1.length≤20∧z.2.2.1.length≤20∧(length z.2.2.2.1≤10∧∀ x∈z.2.2.2.1,length x≤20)∧(length z.2.2.2.2.1≤10∧∀ x∈z.2.2.2.2.1,length x.1≤20)∧z.2.2.2.2.2.1.length≤20∧
 (length z.2.2.2.2.2.2.1≤10∧∀ x∈z.2.2.2.2.2.2.1,length x≤20)∧(length z.2.2.2.2.2.2.2.1≤10∧∀ x∈z.2.2.2.2.2.2.2.1,length x.1≤20∧length x.2≤20)∧kw 16 z.2.2.2.2.2.2.2.2.1=true∧length z.2.2.2.2.2.2.2.2.2.1≤14∧
 (length z.2.2.2.2.2.2.2.2.2.2.1=i∧∀ x∈z.2.2.2.2.2.2.2.2.2.2.1,length x.1≤20∧∃ y∈z0.1.2.2.2.2.2.2.2.2.2.2.1,x.2=cY y.2)∧z.2.2.2.2.2.2.2.2.2.2.2.2.1.length≤20∧
 z.2.2.2.2.2.2.2.2.1=cY z0.1.2.2.2.2.2.2.2.2.1∧z.2.2.2.2.2.2.2.2.2.1=lE z0.1.2.2.2.2.2.2.2.2.2.1∧z.2.2.2.2.2.2.2.2.2.2.2.1=cY z0.1.2.2.2.2.2.2.2.2.2.2.2.1

structure T2 (s0 s:Sem zk):Prop where
 chk:s.2.2.2.2.2.2.2.2.1=cY s0.2.2.2.2.2.2.2.2.1
 row:s.2.2.2.2.2.2.2.2.2.1=lE s0.2.2.2.2.2.2.2.2.2.1
 whr:s.2.2.2.2.2.2.2.2.2.2.2.1=cY s0.2.2.2.2.2.2.2.2.2.2.2.1
 sets:∀ x∈s.2.2.2.2.2.2.2.2.2.2.1,∃ y∈s0.2.2.2.2.2.2.2.2.2.2.1,(x:Sem gy).2=cY (y:Sem gy).2

def RA (s0:Sem zk) (r:aF):Prop:=∃ s:Sem zk,az r.2 [zk] r.1=some (s,())∧Na s∧T2 s0 s

theorem fs7 (z0:zo nu) (z1:zo ij) (z:zo Nz) (hz:F7I z0 0 z) (n:Nat) (hn:20≤n):∃ r,cI SU n (.h7 0 z0 z1 z)=some r∧RA z0.1 r:=by
 refine cP (t:=SU) (β:=zo Nz) (min 10 (length z0.1.2.2.2.2.2.2.2.2.2.2.1)) (fun z i=>.h7 (i:Int) z0 z1 z) (fun z i=>F7I z0 i z) (RA z0.1) 1 ?_ ?_ (min 10 (length z0.1.2.2.2.2.2.2.2.2.2.2.1)) 0 z n rfl (aK _) hz (by omega)
 ·intro z i hi hb
  obtain ⟨h0,h1,h2,h3,h4,h5,h6,h7,h8,h9,h10,h11,h12⟩:=hb
  have k1:(i:Int) < (length z0.1.2.2.2.2.2.2.2.2.2.2.1:Int):=by omega
  have k2:(i:Int) < 10:=by omega
  have k3:zR (i:Int) (length z0.1.2.2.2.2.2.2.2.2.2.2.1)=true:=zB (by omega)
  refine Or.inl ⟨(z.1,z.2.1,z.2.2.1,z.2.2.2.1,z.2.2.2.2.1,z.2.2.2.2.2.1,z.2.2.2.2.2.2.1,z.2.2.2.2.2.2.2.1,z.2.2.2.2.2.2.2.2.1,z.2.2.2.2.2.2.2.2.2.1,z.2.2.2.2.2.2.2.2.2.2.1++[(cJ (getD z0.1.2.2.2.2.2.2.2.2.2.2.1 (i:Int).toNat (zi gy)).1,zm (cY (zm (getD z0.1.2.2.2.2.2.2.2.2.2.2.1 (i:Int).toNat (zi gy)).2)))],z.2.2.2.2.2.2.2.2.2.2.2),⟨h0,h1,h2,h3,h4,h5,h6,h7,h8,h9,?_,h11,h12⟩,?_⟩
  rotate_left 1
  ·simp only [SU,Tr.val,zu k1,zu k2,zU,if_true,k3,jr]
   rw [zt i (by unfold zA; omega),if_pos (by have:=h10.1; simp; omega)]
  ·refine ⟨?_,fun x hx=>?_⟩
   ·simp [h10.1]
   ·rcases bK.1 hx with hx | hx
    ·exact h10.2 x hx
    ·rw [cz] at hx
     rw [hx]; exact ⟨ee _,_,lA _ (zi gy) (by simpa using (show i < _ by omega)),by simp only [zn,bd]⟩
 ·intro z n hb hn
  obtain ⟨n,rfl⟩:∃ k,n=k+1:=⟨n - 1,by omega⟩
  obtain ⟨h0,h1,h2,h3,h4,h5,h6,h7,h8,h9,h10,h11,h12⟩:=hb
  rw [cx]
  have hf:(bif decide (((min 10 (length z0.1.2.2.2.2.2.2.2.2.2.2.1):Nat):Int) < (length z0.1.2.2.2.2.2.2.2.2.2.2.1:Int)) then decide (((min 10 (length z0.1.2.2.2.2.2.2.2.2.2.2.1):Nat):Int) < 10) else false)=false:=by
   by_cases h:10≤length z0.1.2.2.2.2.2.2.2.2.2.2.1
   ·rw [Nat.min_eq_left h]
    simp
   ·rw [Nat.min_eq_right (by omega)]
    simp
  simp only [SU,Tr.val,hf]
  refine ⟨_,rfl,(z.1,z.2.1,z.2.2.1,z.2.2.2.1,z.2.2.2.2.1,z.2.2.2.2.2.1,z.2.2.2.2.2.2.1,z.2.2.2.2.2.2.2.1,z.2.2.2.2.2.2.2.2.1,z.2.2.2.2.2.2.2.2.2.1,z.2.2.2.2.2.2.2.2.2.2.1,z.2.2.2.2.2.2.2.2.2.2.2.1,z.2.2.2.2.2.2.2.2.2.2.2.2.1),?_,⟨?_,h8⟩,⟨h12.1,h12.2.1,h12.2.2,fun x hx=>(h10.2 x hx).2⟩⟩
  ·obtain ⟨z0,z1,z2,z3,z4,z5,z6,z7,z8,z9,z10,z11,z12,z13⟩:=z
   cases z8
   cases z11
   rfl
  ·refine ⟨by show z.1.length≤_; omega,by show z.2.1.length≤_; omega,by show z.2.2.1.length≤_; omega,⟨by have:=h3.1; show length z.2.2.2.1≤_; omega,fun x hx=>by have:=h3.2 x hx; omega⟩,⟨by have:=h4.1; show length z.2.2.2.2.1≤_; omega,fun x hx=>by have:=h4.2 x hx; omega⟩,by show z.2.2.2.2.2.1.length≤_; omega,⟨by have:=h6.1; show length z.2.2.2.2.2.2.1≤_; omega,fun x hx=>by have:=h6.2 x hx; omega⟩,⟨by have:=h7.1; show length z.2.2.2.2.2.2.2.1≤_; omega,fun x hx=>by have:=h7.2 x hx; omega⟩,by show length z.2.2.2.2.2.2.2.2.2.1≤_; omega,⟨by have:=h10.1; show length z.2.2.2.2.2.2.2.2.2.2.1≤_; omega,fun x hx=>by have:=(h10.2 x hx).1; omega⟩,by show z.2.2.2.2.2.2.2.2.2.2.2.2.1.length≤_; omega⟩

theorem fs3 (z0:zo nu) (z1:zo ij) (z:zo Ny) (hz:F3I z0 0 z) (n:Nat) (hn:40≤n):∃ r,cI SU n (.h3 0 z0 z1 z)=some r∧RA z0.1 r:=by
 refine cP (t:=SU) (β:=zo Ny) (min 10 (length z0.1.2.2.2.2.2.2.2.1)) (fun z i=>.h3 (i:Int) z0 z1 z) (fun z i=>F3I z0 i z) (RA z0.1) 21 ?_ ?_ (min 10 (length z0.1.2.2.2.2.2.2.2.1)) 0 z n rfl (aK _) hz (by omega)
 ·intro z i hi hb
  obtain ⟨h0,h1,h2,h3,h4,h5,h6,h7,h8⟩:=hb
  have k1:(i:Int) < (length z0.1.2.2.2.2.2.2.2.1:Int):=by omega
  have k2:(i:Int) < 10:=by omega
  have k3:zR (i:Int) (length z0.1.2.2.2.2.2.2.2.1)=true:=zB (by omega)
  refine Or.inl ⟨(z.1,z.2.1,z.2.2.1,z.2.2.2.1,z.2.2.2.2.1,z.2.2.2.2.2.1,z.2.2.2.2.2.2.1,z.2.2.2.2.2.2.2.1++[(cJ (getD z0.1.2.2.2.2.2.2.2.1 (i:Int).toNat (zi ib)).1,cJ (getD z0.1.2.2.2.2.2.2.2.1 (i:Int).toNat (zi ib)).2)],z.2.2.2.2.2.2.2.2),⟨h0,h1,h2,h3,h4,h5,h6,?_,h8⟩,?_⟩
  rotate_left 1
  ·simp only [SU,Tr.val,zu k1,zu k2,zU,if_true,k3,jr]
   rw [zt i (by unfold zA; omega),if_pos (by have:=h7.1; simp; omega)]
  ·refine ⟨?_,fun x hx=>?_⟩
   ·simp [h7.1]
   ·rcases bK.1 hx with hx | hx
    ·exact h7.2 x hx
    ·rw [cz] at hx
     rw [hx]; exact ⟨ee _,ee _⟩
 ·intro z n hb hn
  obtain ⟨n,rfl⟩:∃ k,n=k+1:=⟨n - 1,by omega⟩
  obtain ⟨h0,h1,h2,h3,h4,h5,h6,h7,h8,h9,h10,h11⟩:=hb
  rw [cx]
  have hf:(bif decide (((min 10 (length z0.1.2.2.2.2.2.2.2.1):Nat):Int) < (length z0.1.2.2.2.2.2.2.2.1:Int)) then decide (((min 10 (length z0.1.2.2.2.2.2.2.2.1):Nat):Int) < 10) else false)=false:=by
   by_cases h:10≤length z0.1.2.2.2.2.2.2.2.1
   ·rw [Nat.min_eq_left h]
    simp
   ·rw [Nat.min_eq_right (by omega)]
    simp
  simp only [SU,Tr.val,hf]
  exact fs7 z0 z1 _ ⟨h0,h1,h2,h3,h4,h5,h6,⟨by have:=h7.1; show length z.2.2.2.2.2.2.2.1≤_; omega,h7.2⟩,h8,h9,⟨rfl,by simp⟩,h10,h11⟩ n (by omega)

theorem IU (s:Sem zk):∃ s':Sem zk,uF s=some (s',())∧Na s'∧T2 s s':=by
 unfold uF aA cL
 simp only [i8p,Tr.val,jr,BG,if_true]
 obtain ⟨r,h1,s',h2,h3⟩:=fs3 (s,()) ([],[],[],[],[],0,0,[],[],[],0,0,[],[],[],()) (cJ s.1,cJ s.2.1,cJ s.2.2.1,jq s.2.2.2.1,qo s.2.2.2.2.1,
  cJ s.2.2.2.2.2.1,jq s.2.2.2.2.2.2.1,[],cY (zm s.2.2.2.2.2.2.2.2.1),lE s.2.2.2.2.2.2.2.2.2.1,cY (zm s.2.2.2.2.2.2.2.2.2.2.2.1),cJ s.2.2.2.2.2.2.2.2.2.2.2.2,())
  ⟨ee _,ee _,ee _,vQ _,Mg _,ee _,vQ _,⟨rfl,by simp⟩,DQ _,Mh _,ee _,by simp only [zn],rfl,by simp only [zn]⟩ 100000000 (by omega)
 refine ⟨s',?_,h3⟩
 rw [h1]
 exact h2

abbrev aw (c:Int) (r:List (Sem zg)):Sem zg:=getD r (toNat c) (zi zg)
def pV (rows:List (List (Sem zg))) (c:Int):Prop:=rows.Pairwise fun a b=>(aw c a).1≠0→aw c a≠aw c b

theorem oM:∀ (es:List ((Int×Int×zw)×Int)) (k:Int×Int×zw) (x:Int),jg (iY es k) (ko es k) x=mb es k x
 | [],k,x=>by simp [iY,ma,ko,jg,mb]
 | p::r,k,x=>by
  have h:=oM r k x
  cases hk:(k==p.1) with
  | true=>
   have e:k=p.1:=bB hk
   simp [iY,ma,ko,jg,mb,e]
  | false=>
   have e:iY (p::r) k=p::iY r k:=by
    simp only [iY,ma,List.any_cons,hk,Bool.false_or]
    cases (r.any fun p=>k==p.1) <;> rfl
   rw [e,ko,mb,hk]
   show p::jg (iY r k) (ko r k) x=p::mb r k x
   rw [h]
theorem Dt (es:List ((Int×Int×zw)×Int)) (k k':Int×Int×zw) (x:Int):fM (mb es k x) k'=if k'=k then x else fM es k':=by
 induction es with
 | nil=>
  by_cases h:k'=k
  ·subst h; simp [mb,fM]
  ·simp [mb,fM,h]
 | cons p r ih=>
  rw [mb]
  cases hk:(k==p.1) with
  | true=>
   have e:k=p.1:=bB hk
   by_cases h:k'=k
   ·simp [fM,h]
   ·have h2:(k'==p.1)=false:=by rw [← e]; simpa using h
    have h3:(k'==k)=false:=by simpa using h
    simp only [zU,fM,List.find?_cons,h2,h3,if_neg h]
  | false=>
   show fM (p::mb r k x) k'=_
   cases hp:(k'==p.1) with
   | true=>
    have e:k'=p.1:=bB hp
    have h:k'≠k:=by intro h; rw [← h,hp] at hk; cases hk
    simp only [fM,List.find?_cons,hp,if_neg h]
   | false=>
    simp only [fM,List.find?_cons,hp] at ih ⊢
    exact ih

def sG:List (Sem zg)→List ((Int×Int×zw)×Int)
 | []=>[]
 | v::r=>mb (sG r) v (IntKind.i64.wrap (fM (sG r) v+1))
theorem G9:∀ l:List (Sem zg),(sG l).length≤l.length
 | []=>bg _
 | v::r=>by
  rw [sG,← oM,Bj]
  have:=Qz (sG r) v
  have:=G9 r
  simp; omega
theorem yV:∀ (l:List (Sem zg)) (v:Sem zg),l.length≤1000000→fM (sG l) v=(l.count v:Int)
 | [],v,_=>by simp [sG,fM]
 | u::r,v,h=>by
  simp only [mY] at h
  have h1:=yV r u (by omega)
  have h2:=yV r v (by omega)
  have h3:r.count u≤r.length:=List.count_le_length
  rw [sG,Dt,h1,h2,zt _ (by unfold zA; omega)]
  by_cases e:v=u
  ·subst e; simp
  ·have e':¬ (u==v)=true:=by intro h; exact e (bB h).symm
   rw [if_neg e,List.count_cons,if_neg e']; rfl

theorem HF {x:Sem zj} {c:Int} (hc:∀ r∈x.2,zR c (length r)=true) (hl:x.2.length≤1000000):∃ b,w7 x c=some (b,())∧(b=false↔pV x.2 c):=by
  let key:Nat→Sem zg:=fun i=>aw c (getD x.2 i (zi zg.sl))
  let mm:Nat→List ((Int×Int×zw)×Int):=fun i=>sG (((x.2.take i).map (aw c)).reverse)
  have hm:∀ i,i < x.2.length→mm (i+1)=mb (mm i) (key i) (IntKind.i64.wrap (fM (mm i) (key i)+1)):=by
    intro i hi
    show sG (((x.2.take (i+1)).map (aw c)).reverse)=_
    rw [List.take_succ_eq_append_getElem hi,ls,List.reverse_append]
    show sG (aw c x.2[i]::_)=_
    rw [sG]
    have:key i=aw c x.2[i]:=by
      show aw c (getD x.2 i _)=_
      rw [aP,zP hi,cX]
    rw [this]
    rfl
  have hlen:∀ i,i≤x.2.length→(mm i).length≤i:=by
    intro i hi
    have:=G9 (((x.2.take i).map (aw c)).reverse)
    simp at this
    have h2:(mm i).length=(sG (((x.2.take i).map (aw c)).reverse)).length:=rfl
    simp at h2
    omega
  have hget:∀ i v,i≤x.2.length→fM (mm i) v=((((x.2.take i).map (aw c)).count v:Nat):Int):=by
    intro i v hi
    show fM (sG _) v=_
    rw [yV _ _ (by simp; omega),List.count_reverse]
  have hf:=lm (t:=wd) (Φ:=fun r=>az r.2 [Sh.bool] r.1=some (true,())) 1 (fun i=>.h3 c x.2 (x.2.length:Int) (i:Int) (mm i)) (fun i=>(key i).1≠0→((x.2.take i).map (aw c)).count (key i)=0) x.2.length (by
    intro i hi _
    have k0:getD x.2 (i:Int).toNat (zi zg.sl)=getD x.2 i (zi zg.sl):=by rw [bd]
    have k1:getD x.2 i (zi zg.sl)=x.2[i]:=by rw [aP,zP hi,cX]
    have k2:zR c (length x.2[i])=true:=hc _ (bP hi)
    have k3:key i=aw c x.2[i]:=by show aw c (getD x.2 i _)=_; rw [k1]
    have k4:zR ((ko (mm i) (key i):Nat):Int) (iY (mm i) (key i)).length=true:=zB (SZ _ _)
    have k5:decide ((mm i).length≤1073741824)=true:=zu (by have:=hlen i (by omega); omega)
    have k6:jg (iY (mm i) (key i)) ((ko (mm i) (key i):Nat):Int).toNat (IntKind.i64.wrap (fM (mm i) (key i)+1))=mm (i+1):=by rw [bd,oM,hm i hi]
    have k7:fM (mm (i+1)) (key i)=((((x.2.take i).map (aw c)).count (key i)+1:Nat):Int):=by
      have h3:((x.2.take i).map (aw c)).count (key i)≤((x.2.take i).map (aw c)).length:=List.count_le_length
      simp only [dI,List.length_take] at h3
      rw [hm i hi,Dt,if_pos rfl,hget i _ (by omega),zt _ (by unfold zA; omega)]
    have hv:(wd (.h3 c x.2 (x.2.length:Int) (i:Int) (mm i))).val=if (bif (key i).1 != 0 then decide (((((x.2.take i).map (aw c)).count (key i)+1:Nat):Int) > 1) else false)=true then some (.inr (.kb true,[])) else some (.inl (.h3 c x.2 (x.2.length:Int) ((i+1:Nat):Int) (mm (i+1)))):=by
      show (wd (.h3 c x.2 _ _ _)).val=_
      unfold wd
      simp only [k0,k1]
      rw [show getD x.2[i] (toNat c) (zi zg)=key i from k3.symm]
      simp only [Tr.val,zM hi,zB hi,k2,k4,k5,if_true,k6,k7]
      rw [zt i (by unfold zA; omega)]
    by_cases h1:(key i).1=0
    · refine .inl ⟨fun h=>absurd h1 h,ap.of ?_⟩
      rw [hv,if_neg (by simp [h1])]
    · by_cases h2:((x.2.take i).map (aw c)).count (key i)=0
      · refine .inl ⟨fun _=>h2,ap.of ?_⟩
        rw [hv,if_neg (by rw [h2]; simp)]
      · refine .inr ⟨fun h => h2 (h h1),(.kb true,[]),ah.of ?_,rfl⟩
        rw [hv, if_pos (by have:((key i).1 != 0)=true:=by simpa using h1
                           rw [this]; simp only [zU,aN]; omega)])
  have hu:(∀ i,i < x.2.length→(key i).1≠0→((x.2.take i).map (aw c)).count (key i)=0)↔pV x.2 c:=by
    unfold pV
    rw [List.pairwise_iff_getElem]
    constructor
    · intro h j i hj hi hji hne e
      have k3:key i=aw c x.2[i]:=by show aw c (getD x.2 i _)=_; rw [aP,zP hi,cX]
      have:=h i hi (by rw [k3,← e]; exact hne)
      rw [List.count_eq_zero,k3,← e] at this
      exact this (fQ.2 ⟨_,List.mem_take_iff_getElem.2 ⟨j,by omega,rfl⟩,rfl⟩)
    · intro h i hi hne
      have k3:key i=aw c x.2[i]:=by show aw c (getD x.2 i _)=_; rw [aP,zP hi,cX]
      rw [List.count_eq_zero]
      intro hmem
      obtain ⟨r,hr,e⟩:=fQ.1 hmem
      obtain ⟨j,hj,rfl⟩:=List.mem_take_iff_getElem.1 hr
      rw [k3] at e hne
      exact h j i (by omega) hi (by omega) (by rw [e]; exact hne) e
  have hgo:(Uw x c).val=some (.inl (.h3 c x.2 (x.2.length:Int) ((0:Nat):Int) (mm 0))):=rfl
  rcases hf with ⟨h1,h2⟩ | ⟨h1,r,h2,h3⟩
  · refine ⟨false,?_,fun _=>hu.1 h1,fun _=>rfl⟩
    refine zD hgo (h2.ends (ah.of (r:=(.kb false,[])) ?_)) (by omega) rfl
    show (wd (.h3 c x.2 _ _ _)).val=_
    simp only [wd,Tr.val,zH]
    rfl
  · refine ⟨true,zD hgo h2 (by omega) h3,⟨fun h=>?_,fun h=>absurd (hu.2 h) h1⟩⟩
    cases h

theorem ar {α:Type} {l:List α} {d:α} {Q:α→Prop}:(∀ i,i < l.length→Q (l.getD i d))↔∀ x∈l,Q x:=by
 constructor
 ·intro h x hx
  obtain ⟨i,hi,rfl⟩:=kD hx
  have:=h i hi
  rwa [aP,zP hi,cX] at this
 ·intro h i hi
  rw [aP,zP hi,cX]
  exact h _ (bP hi)
theorem bG {α:Type} {l:List α} {d:α} {i:Nat} (hi:i < l.length):l.getD i d∈l:=by
 rw [aP,zP hi,cX]
 exact bP hi
theorem oP (i:Nat) (h:i < zA):IntKind.i64.wrap (((i+1:Nat):Int) - 1)=(i:Int):=by
 have:zA=9223372036854775807:=rfl
 rw [fD]
 omega

def Vg (a b:Sem zg):Prop:=LT.lt (α:=Int) (dq a b) 0
theorem Lm {a b:Sem zg}:decide (GE.ge (α:=Int) (dq a b) 0)=true↔¬ Vg a b:=by
 unfold Vg
 rw [aN]
 omega

structure kA (x:Sem zj):Prop where
 may:eD x.1=true
 few:x.2.length≤200
 fits:∀ r∈x.2,eC x.1 r=(0:Int)
 key:pV x.2 x.1.2.2.1
 uniq:∀ u∈x.1.2.2.2.1,pV x.2 u
 rise:∀ i,i < x.2.length - 1→Vg (aw x.1.2.2.1 (getD x.2 i (zi zg.sl))) (aw x.1.2.2.1 (getD x.2 (i+1) (zi zg.sl)))

def QD (r:aF):Prop:=∃ e:Int,r=(.int .i64 e,[])∧e≠0

theorem HE {x:Sem zj} (hs:mg x):∃ e:Int,mR x=some (e,())∧(e=0↔kA x):=by
 have hsw:=hs.rw
 have hsu:=hs.uq
 have fin:∀ {k:Nat} {r:aF},ah gD k (.h6 x.2 (x.2.length:Int) ((0:Nat):Int) (x,())) r→k≤100000000→(Me x).val=some (.inl (.h6 x.2 (x.2.length:Int) ((0:Nat):Int) (x,())))→∀ e:Int,r=(.int .i64 e,[])→mR x=some (e,()):=by
  intro k r h hk hi e he
  subst he
  exact zD hi h hk rfl
 by_cases hm:eD x.1=true
 case neg=>
  refine ⟨1,?_,fun h=>(by cases h),fun h=>absurd h.may hm⟩
  unfold mR aA cL
  simp only [Me,zn,Tr.val]
  rw [if_pos (by simpa using hm)]
  rfl
 by_cases hw:x.2.length≤200
 case neg=>
  refine ⟨13,?_,fun h=>(by cases h),fun h=>absurd h.few hw⟩
  unfold mR aA cL
  simp only [Me,zn,Tr.val]
  rw [if_neg (by simpa using hm),if_pos (by simp; omega)]
  rfl
 have hi:(Me x).val=some (.inl (.h6 x.2 (x.2.length:Int) ((0:Nat):Int) (x,()))):=by
  simp only [Me,zn,Tr.val]
  rw [if_neg (by simpa using hm),if_neg (by simp; omega)]
  rfl
 obtain ⟨hkc,hrc,huc,_,_⟩:=jG hm
 have h6:=lm (t:=gD) (Φ:=QD) 1 (fun i=>.h6 x.2 (x.2.length:Int) (i:Int) (x,())) (fun i=>eC x.1 (getD x.2 i (zi zg.sl))=(0:Int)) x.2.length (by
  intro i hi _
  have hv:(gD (.h6 x.2 (x.2.length:Int) (i:Int) (x,()))).val=if (eC x.1 (getD x.2 i (zi zg.sl)) != 0)=true then some (.inr (.int .i64 (eC x.1 (getD x.2 i (zi zg.sl))),[])) else some (.inl (.h6 x.2 (x.2.length:Int) ((i+1:Nat):Int) (x,()))):=by
   show (gD (.h6 x.2 _ _ _)).val=_
   unfold gD
   simp only [zn,Tr.val,zM hi,zB hi,if_true,bd]
   rw [zt i (by unfold zA; omega)]
  by_cases h:eC x.1 (getD x.2 i (zi zg.sl))=(0:Int)
  ·refine .inl ⟨h,ap.of ?_⟩
   rw [hv,if_neg (by rw [h]; simp)]
  ·refine .inr ⟨h,_,ah.of (by rw [hv,if_pos (by simpa using h)]),_,rfl,h⟩)
 rcases h6 with ⟨hf,h6⟩ | ⟨hf,r,h6,e,he,hne⟩
 case inr=>
  exact ⟨e,fin h6 (by omega) hi e he,fun h=>absurd h hne,fun h=>absurd ((ar (Q:=fun r=>eC x.1 r=(0:Int))).2 h.fits) hf⟩
 have hfits:=(ar (Q:=fun r=>eC x.1 r=(0:Int))).1 hf
 have hlen:∀ r∈x.2,length r=x.1.2.1.length:=fun r hr=>yA (by simpa using hfits r hr)
 have hin:∀ c,lB c x.1.2.1.length→∀ r∈x.2,zR c (length r)=true:=fun c hc r hr=>by
  rw [hlen r hr]; exact sw hc
 obtain ⟨b,hb,hbu⟩:=HF (x:=x) (c:=x.1.2.2.1) (hin _ hkc) (by omega)
 have hbc:pI x x.1.2.2.1=true:=by unfold pI; rw [hb]; rfl
 have hbv:uW x x.1.2.2.1=b:=by unfold uW; rw [hb]; rfl
 have hv6:(gD (.h6 x.2 (x.2.length:Int) (x.2.length:Int) (x,()))).val=if b=true then some (.inr (.int .i64 7,[])) else some (.inl (.h15 x.1.2.2.2.1 (x.1.2.2.2.1.length:Int) ((0:Nat):Int) (x,()))):=by
  show (gD (.h6 x.2 _ _ _)).val=_
  unfold gD
  simp only [zn,Tr.val,zH,hbc,hbv,if_true]
  rfl
 by_cases hb1:b=true
 ·refine ⟨7,fin (h6.ends (ah.of (by rw [hv6,if_pos hb1]))) (by omega) hi 7 rfl,fun h=>(by cases h),fun h=>?_⟩
  have:=hbu.2 h.key
  rw [hb1] at this; cases this
 have hkey:pV x.2 x.1.2.2.1:=hbu.1 (by simpa using hb1)
 have g15:ap gD _ (.h6 x.2 (x.2.length:Int) ((0:Nat):Int) (x,())) _:=h6.trans (ap.of (by rw [hv6,if_neg hb1]))
 have h15:=lm (t:=gD) (Φ:=QD) 1 (fun i=>.h15 x.1.2.2.2.1 (x.1.2.2.2.1.length:Int) (i:Int) (x,())) (fun i=>pV x.2 (getD x.1.2.2.2.1 i (zi zf))) x.1.2.2.2.1.length (by
  intro i hi _
  obtain ⟨b,hb,hbu⟩:=HF (x:=x) (c:=getD x.1.2.2.2.1 i (zi zf)) (hin _ (huc _ (bG hi))) (by omega)
  have hbc:pI x (getD x.1.2.2.2.1 i (zi zf))=true:=by unfold pI; rw [hb]; rfl
  have hbv:uW x (getD x.1.2.2.2.1 i (zi zf))=b:=by unfold uW; rw [hb]; rfl
  have hv:(gD (.h15 x.1.2.2.2.1 (x.1.2.2.2.1.length:Int) (i:Int) (x,()))).val=if b=true then some (.inr (.int .i64 7,[])) else some (.inl (.h15 x.1.2.2.2.1 (x.1.2.2.2.1.length:Int) ((i+1:Nat):Int) (x,()))):=by
   show (gD (.h15 _ _ _ _)).val=_
   unfold gD
   simp only [zn,Tr.val,zM hi,zB hi,if_true,bd,hbc,hbv]
   rw [zt i (by unfold zA; omega)]
  by_cases h:b=true
  ·refine .inr ⟨fun hu=>?_,_,ah.of (by rw [hv,if_pos h]),7,rfl,by decide⟩
   have:=hbu.2 hu
   rw [h] at this; cases this
  ·exact .inl ⟨hbu.1 (by simpa using h),ap.of (by rw [hv,if_neg h])⟩)
 rcases h15 with ⟨hq,h15⟩ | ⟨hq,r,h15,e,he,hne⟩
 case inr=>
  exact ⟨e,fin (g15.ends h15) (by omega) hi e he,fun h=>absurd h hne,fun h=>absurd ((ar (Q:=fun u=>pV x.2 u)).2 h.uniq) hq⟩
 have huniq:=(ar (Q:=fun u=>pV x.2 u)).1 hq
 have hv15:(gD (.h15 x.1.2.2.2.1 (x.1.2.2.2.1.length:Int) (x.1.2.2.2.1.length:Int) (x,()))).val=some (.inl (.h21 ((0+1:Nat):Int) (x,()))):=by
  show (gD (.h15 _ _ _ _)).val=_
  unfold gD
  simp only [Tr.val,zH]
  rfl
 have g21:=(g15.trans h15).trans (ap.of hv15)
 have h21:=lm (t:=gD) (Φ:=QD) 1 (fun i=>.h21 ((i+1:Nat):Int) (x,())) (fun i=>Vg (aw x.1.2.2.1 (getD x.2 i (zi zg.sl))) (aw x.1.2.2.1 (getD x.2 (i+1) (zi zg.sl)))) (x.2.length - 1) (by
  intro i hi _
  have h1:i < x.2.length:=by omega
  have h2:i+1 < x.2.length:=by omega
  have hv:(gD (.h21 ((i+1:Nat):Int) (x,()))).val=if decide (GE.ge (α:=Int) (dq (aw x.1.2.2.1 (getD x.2 i (zi zg.sl))) (aw x.1.2.2.1 (getD x.2 (i+1) (zi zg.sl)))) 0)=true then some (.inr (.int .i64 15,[])) else some (.inl (.h21 ((i+1+1:Nat):Int) (x,()))):=by
   show (gD (.h21 _ _)).val=_
   unfold gD
   simp only [oP i (by unfold zA; omega)]
   simp only [Tr.val,zM h2,zB h2,zB h1,bd,hin _ hkc _ (bG h1),hin _ hkc _ (bG h2),if_true]
   rw [zt (i+1) (by unfold zA; omega)]
  by_cases h:Vg (aw x.1.2.2.1 (getD x.2 i (zi zg.sl))) (aw x.1.2.2.1 (getD x.2 (i+1) (zi zg.sl)))
  ·exact .inl ⟨h,ap.of (by rw [hv,if_neg (fun h2=>Lm.1 h2 h)])⟩
  ·exact .inr ⟨h,_,ah.of (by rw [hv,if_pos (Lm.2 h)]),15,rfl,by decide⟩)
 rcases h21 with ⟨hr,h21⟩ | ⟨hr,r,h21,e,he,hne⟩
 case inr=>
  exact ⟨e,fin (g21.ends h21) (by omega) hi e he,fun h=>absurd h hne,fun h=>absurd h.rise hr⟩
 have hv21:(gD (.h21 ((x.2.length - 1+1:Nat):Int) (x,()))).val=some (.inr (.int .i64 0,[])):=by
  show (gD (.h21 _ _)).val=_
  unfold gD
  simp only [Tr.val]
  rw [if_neg (by simp; omega)]
 exact ⟨0,fin (g21.ends (h21.ends (ah.of hv21))) (by omega) hi 0 rfl,fun _=>⟨hm,hw,hfits,hkey,huniq,hr⟩,fun _=>rfl⟩

abbrev bp (db:List (Sem zj)) (s:zw):Sem zj:=getD db (toNat (zZ db s)) (zi zj)
def FD (db:List (Sem zj)):Prop:=∀ x∈db,∀ f∈x.1.2.2.2.2.1,LE.le (α:=Int) 0 (zZ db f.2)∧∀ row∈x.2,(aw f.1 row).1≠0→gp (bp db f.2) (bp db f.2).1.2.2.1 (aw f.1 row)=true

def QE (r:aF):Prop:=r=(.kb false,[])

theorem RT {db:List (Sem zj)} {x:Sem zj} {f:Sem zq} {i k:Nat} (hf:LE.le (α:=Int) 0 (zZ db f.2)) (hc:∀ row∈x.2,zR f.1 (length row)=true) (hl:x.2.length≤1000):
  ((∀ j,j < x.2.length→(aw f.1 (getD x.2 j (zi zg.sl))).1≠0→gp (bp db f.2) (bp db f.2).1.2.2.1 (aw f.1 (getD x.2 j (zi zg.sl)))=true)∧
   ap fW (x.2.length * 1) (.h11 db (zZ db f.2) db (db.length:Int) (i:Int) x.1.2.2.2.2.1 (x.1.2.2.2.2.1.length:Int) (k:Int) x.2 (x.2.length:Int) ((0:Nat):Int) (x,()) (f,()))
    (.h11 db (zZ db f.2) db (db.length:Int) (i:Int) x.1.2.2.2.2.1 (x.1.2.2.2.2.1.length:Int) (k:Int) x.2 (x.2.length:Int) (x.2.length:Int) (x,()) (f,())))∨
  ((¬ ∀ j,j < x.2.length→(aw f.1 (getD x.2 j (zi zg.sl))).1≠0→gp (bp db f.2) (bp db f.2).1.2.2.1 (aw f.1 (getD x.2 j (zi zg.sl)))=true)∧
   ∃ r,ah fW (x.2.length * 1) (.h11 db (zZ db f.2) db (db.length:Int) (i:Int) x.1.2.2.2.2.1 (x.1.2.2.2.2.1.length:Int) (k:Int) x.2 (x.2.length:Int) ((0:Nat):Int) (x,()) (f,())) r∧QE r):=by
 refine lm (t:=fW) (Φ:=QE) 1 (fun j=>.h11 db (zZ db f.2) db (db.length:Int) (i:Int) x.1.2.2.2.2.1 (x.1.2.2.2.2.1.length:Int) (k:Int) x.2 (x.2.length:Int) (j:Int) (x,()) (f,())) (fun j=>(aw f.1 (getD x.2 j (zi zg.sl))).1≠0→gp (bp db f.2) (bp db f.2).1.2.2.1 (aw f.1 (getD x.2 j (zi zg.sl)))=true) x.2.length ?_
 intro j hj _
 have hv:(fW (.h11 db (zZ db f.2) db (db.length:Int) (i:Int) x.1.2.2.2.2.1 (x.1.2.2.2.2.1.length:Int) (k:Int) x.2 (x.2.length:Int) (j:Int) (x,()) (f,()))).val=
   if (bif (aw f.1 (getD x.2 j (zi zg.sl))).1 != 0 then !gp (bp db f.2) (bp db f.2).1.2.2.1 (aw f.1 (getD x.2 j (zi zg.sl))) else false)=true then some (.inr (.kb false,[])) else
   some (.inl (.h11 db (zZ db f.2) db (db.length:Int) (i:Int) x.1.2.2.2.2.1 (x.1.2.2.2.2.1.length:Int) (k:Int) x.2 (x.2.length:Int) ((j+1:Nat):Int) (x,()) (f,()))):=by
  show (fW (.h11 _ _ _ _ _ _ _ _ _ _ _ _ _)).val=_
  unfold fW
  simp only [zn,Tr.val,zM hj,zB hj,hc _ (bG hj),du hf,bd,if_true,rQ]
  rw [if_pos (by cases ((getD (getD x.2 j (zi zg.sl)) (toNat f.1) (zi zg)).1 != 0) <;> rfl)]
  rw [zt j (by unfold zA; omega)]
 by_cases h1:(aw f.1 (getD x.2 j (zi zg.sl))).1=0
 ·exact .inl ⟨fun h=>absurd h1 h,ap.of (by rw [hv,if_neg (by rw [h1]; simp)])⟩
 ·have h1':((aw f.1 (getD x.2 j (zi zg.sl))).1 != 0)=true:=by simpa using h1
  by_cases h2:gp (bp db f.2) (bp db f.2).1.2.2.1 (aw f.1 (getD x.2 j (zi zg.sl)))=true
  ·exact .inl ⟨fun _=>h2,ap.of (by rw [hv,if_neg (by rw [h2,h1']; simp)])⟩
  ·exact .inr ⟨fun h=>h2 (h h1),_,ah.of (by rw [hv,if_pos (by rw [h1']; simpa using h2)]),rfl⟩

theorem W1 {db:List (Sem zj)} {x:Sem zj} {i:Nat} (hc:∀ f∈x.1.2.2.2.2.1,∀ row∈x.2,zR f.1 (length row)=true) (hl:x.2.length≤1000) (hr:x.1.2.2.2.2.1.length≤1000):
  let P:Nat→Prop:=fun k=>LE.le (α:=Int) 0 (zZ db (getD x.1.2.2.2.2.1 k (zi zq)).2)∧∀ row∈x.2,(aw (getD x.1.2.2.2.2.1 k (zi zq)).1 row).1≠0→gp (bp db (getD x.1.2.2.2.2.1 k (zi zq)).2) (bp db (getD x.1.2.2.2.2.1 k (zi zq)).2).1.2.2.1 (aw (getD x.1.2.2.2.2.1 k (zi zq)).1 row)=true
  ((∀ k,k < x.1.2.2.2.2.1.length→P k)∧ap fW (x.1.2.2.2.2.1.length * 1002) (.h5 db db (db.length:Int) (i:Int) x.1.2.2.2.2.1 (x.1.2.2.2.2.1.length:Int) ((0:Nat):Int) (x,())) (.h5 db db (db.length:Int) (i:Int) x.1.2.2.2.2.1 (x.1.2.2.2.2.1.length:Int) (x.1.2.2.2.2.1.length:Int) (x,())))∨
  ((¬ ∀ k,k < x.1.2.2.2.2.1.length→P k)∧∃ r,ah fW (x.1.2.2.2.2.1.length * 1002) (.h5 db db (db.length:Int) (i:Int) x.1.2.2.2.2.1 (x.1.2.2.2.2.1.length:Int) ((0:Nat):Int) (x,())) r∧QE r):=by
 intro P
 refine lm (t:=fW) (Φ:=QE) 1002 (fun k=>.h5 db db (db.length:Int) (i:Int) x.1.2.2.2.2.1 (x.1.2.2.2.2.1.length:Int) (k:Int) (x,())) P x.1.2.2.2.2.1.length ?_
 intro k hk _
 have hv:(fW (.h5 db db (db.length:Int) (i:Int) x.1.2.2.2.2.1 (x.1.2.2.2.2.1.length:Int) (k:Int) (x,()))).val=
   if decide (LT.lt (α:=Int) (zZ db (getD x.1.2.2.2.2.1 k (zi zq)).2) 0)=true then some (.inr (.kb false,[])) else
   some (.inl (.h11 db (zZ db (getD x.1.2.2.2.2.1 k (zi zq)).2) db (db.length:Int) (i:Int) x.1.2.2.2.2.1 (x.1.2.2.2.2.1.length:Int) (k:Int) x.2 (x.2.length:Int) ((0:Nat):Int) (x,()) (getD x.1.2.2.2.2.1 k (zi zq),()))):=by
  show (fW (.h5 _ _ _ _ _ _ _ _)).val=_
  unfold fW
  simp only [Tr.val,zM hk,zB hk,bd,if_true]
  rfl
 by_cases h1:LE.le (α:=Int) 0 (zZ db (getD x.1.2.2.2.2.1 k (zi zq)).2)
 ·have g1:=ap.of (t:=fW) (s:=.h5 db db (db.length:Int) (i:Int) x.1.2.2.2.2.1 (x.1.2.2.2.2.1.length:Int) (k:Int) (x,())) (by rw [hv,if_neg (by rw [aN]; omega)])
  rcases RT (db:=db) (x:=x) (f:=getD x.1.2.2.2.2.1 k (zi zq)) (i:=i) (k:=k) h1 (hc _ (bG hk)) hl with ⟨h2,h3⟩ | ⟨h2,r,h3,h4⟩
  ·have hv2:(fW (.h11 db (zZ db (getD x.1.2.2.2.2.1 k (zi zq)).2) db (db.length:Int) (i:Int) x.1.2.2.2.2.1 (x.1.2.2.2.2.1.length:Int) (k:Int) x.2 (x.2.length:Int) (x.2.length:Int) (x,()) (getD x.1.2.2.2.2.1 k (zi zq),()))).val=
     some (.inl (.h5 db db (db.length:Int) (i:Int) x.1.2.2.2.2.1 (x.1.2.2.2.2.1.length:Int) ((k+1:Nat):Int) (x,()))):=by
    show (fW (.h11 _ _ _ _ _ _ _ _ _ _ _ _ _)).val=_
    unfold fW
    simp only [Tr.val,zH]
    rw [zt k (by unfold zA; omega)]
    rfl
   refine .inl ⟨⟨h1,?_⟩,((g1.trans h3).trans (ap.of hv2)).mono (by omega)⟩
   exact (ar (Q:=fun row=>(aw (getD x.1.2.2.2.2.1 k (zi zq)).1 row).1≠0→gp (bp db (getD x.1.2.2.2.2.1 k (zi zq)).2) (bp db (getD x.1.2.2.2.2.1 k (zi zq)).2).1.2.2.1 (aw (getD x.1.2.2.2.2.1 k (zi zq)).1 row)=true)).1 h2
  ·refine .inr ⟨fun h=>h2 ?_,r,(g1.ends h3).mono (by omega),h4⟩
   exact (ar (Q:=fun row=>(aw (getD x.1.2.2.2.2.1 k (zi zq)).1 row).1≠0→gp (bp db (getD x.1.2.2.2.2.1 k (zi zq)).2) (bp db (getD x.1.2.2.2.2.1 k (zi zq)).2).1.2.2.1 (aw (getD x.1.2.2.2.2.1 k (zi zq)).1 row)=true)).2 h.2
 ·exact .inr ⟨fun h=>h1 h.1,_,(ah.of (by rw [hv,if_pos (by rw [aN]; omega)])).mono (by omega),rfl⟩

theorem F9 {db:List (Sem zj)} (hc:∀ x∈db,∀ f∈x.1.2.2.2.2.1,∀ row∈x.2,zR f.1 (length row)=true) (hs:∀ x∈db,mg x) (hl:db.length≤13):∃ b,wu db=some (b,())∧(b=true↔FD db):=by
 have h2:=lm (t:=fW) (Φ:=QE) 1010000 (fun i=>.h2 db db (db.length:Int) (i:Int)) (fun i=>∀ f∈(getD db i (zi zj)).1.2.2.2.2.1,LE.le (α:=Int) 0 (zZ db f.2)∧∀ row∈(getD db i (zi zj)).2,(aw f.1 row).1≠0→gp (bp db f.2) (bp db f.2).1.2.2.1 (aw f.1 row)=true) db.length (by
  intro i hi _
  have hm:=bG (d:=zi zj) hi
  have hS:=hs _ hm
  have s1:=hS.rf
  have s2:=hS.rw
  have hv:(fW (.h2 db db (db.length:Int) (i:Int))).val=some (.inl (.h5 db db (db.length:Int) (i:Int) (getD db i (zi zj)).1.2.2.2.2.1 ((getD db i (zi zj)).1.2.2.2.2.1.length:Int) ((0:Nat):Int) (getD db i (zi zj),()))):=by
   show (fW (.h2 _ _ _ _)).val=_
   unfold fW
   simp only [Tr.val,zM hi,zB hi,bd,if_true]
   rfl
  have g1:=ap.of hv
  rcases W1 (db:=db) (x:=getD db i (zi zj)) (i:=i) (hc _ hm) s2 s1 with ⟨h2,h3⟩ | ⟨h2,r,h3,h4⟩
  ·have hv2:(fW (.h5 db db (db.length:Int) (i:Int) (getD db i (zi zj)).1.2.2.2.2.1 ((getD db i (zi zj)).1.2.2.2.2.1.length:Int) ((getD db i (zi zj)).1.2.2.2.2.1.length:Int) (getD db i (zi zj),()))).val=some (.inl (.h2 db db (db.length:Int) ((i+1:Nat):Int))):=by
    show (fW (.h5 _ _ _ _ _ _ _ _)).val=_
    unfold fW
    simp only [Tr.val,zH]
    rw [zt i (by unfold zA; omega)]
    rfl
   refine .inl ⟨?_,((g1.trans h3).trans (ap.of hv2)).mono (by omega)⟩
   exact (ar (Q:=fun f:Sem zq=>LE.le (α:=Int) 0 (zZ db f.2)∧∀ row∈(getD db i (zi zj)).2,(aw f.1 row).1≠0→gp (bp db f.2) (bp db f.2).1.2.2.1 (aw f.1 row)=true)).1 h2
  ·refine .inr ⟨fun h=>h2 ?_,r,(g1.ends h3).mono (by omega),h4⟩
   exact (ar (Q:=fun f:Sem zq=>LE.le (α:=Int) 0 (zZ db f.2)∧∀ row∈(getD db i (zi zj)).2,(aw f.1 row).1≠0→gp (bp db f.2) (bp db f.2).1.2.2.1 (aw f.1 row)=true)).2 h)
 have hb:(∀ i,i < db.length→∀ f∈(getD db i (zi zj)).1.2.2.2.2.1,LE.le (α:=Int) 0 (zZ db f.2)∧∀ row∈(getD db i (zi zj)).2,(aw f.1 row).1≠0→gp (bp db f.2) (bp db f.2).1.2.2.1 (aw f.1 row)=true)↔FD db:=
  ar (Q:=fun x:Sem zj=>∀ f∈x.1.2.2.2.2.1,LE.le (α:=Int) 0 (zZ db f.2)∧∀ row∈x.2,(aw f.1 row).1≠0→gp (bp db f.2) (bp db f.2).1.2.2.1 (aw f.1 row)=true)
 have hi:(zce db).val=some (.inl (.h2 db db (db.length:Int) ((0:Nat):Int))):=rfl
 rcases h2 with ⟨h2,h3⟩ | ⟨h2,r,h3,h4⟩
 ·refine ⟨true,zD hi (h3.ends (ah.of (r:=(.kb true,[])) ?_)) (by omega) rfl,fun _=>hb.1 h2,fun _=>rfl⟩
  show (fW (.h2 _ _ _ _)).val=_
  unfold fW
  simp only [Tr.val,zH]
  rfl
 ·unfold QE at h4
  subst h4
  exact ⟨false,zD hi h3 (by omega) rfl,fun h=>(by cases h),fun h=>absurd (hb.2 h) h2⟩

structure tW (db:List (Sem zj)):Prop where
 few:db.length≤12
 names:∀ i,i < db.length - 1→Op.bytesLess (getD db i (zi zj)).1.1 (getD db (i+1) (zi zj)).1.1=true
 rels:∀ x∈db,kA x
 bound:FD db

theorem kA.cols {x:Sem zj} (h:kA x):∀ f∈x.1.2.2.2.2.1,∀ row∈x.2,zR f.1 (length row)=true:=by
 intro f hf row hr
 obtain ⟨_,h1,_,_,_⟩:=jG h.may
 rw [yA (by simpa using h.fits row hr)]
 exact sw (h1 f hf)

theorem vA {db:List (Sem zj)} (hs:∀ x∈db,mg x):∃ e:Int,rV db=some (e,())∧(e=0↔tW db):=by
 by_cases hw:db.length≤12
 case neg=>
  refine ⟨13,?_,fun h=>(by cases h),fun h=>absurd h.few hw⟩
  unfold rV aA cL
  simp only [Sc,Tr.val]
  rw [if_pos (by simp; omega)]
  rfl
 have hi:(Sc db).val=some (.inl (.h4 db ((0+1:Nat):Int))):=by
  simp only [Sc,Tr.val]
  rw [if_neg (by simp; omega)]
  rfl
 have h4:=lm (t:=mT) (Φ:=QD) 1 (fun i=>.h4 db ((i+1:Nat):Int)) (fun i=>Op.bytesLess (getD db i (zi zj)).1.1 (getD db (i+1) (zi zj)).1.1=true) (db.length - 1) (by
  intro i hi _
  have h1:i < db.length:=by omega
  have h2:i+1 < db.length:=by omega
  have hv:(mT (.h4 db ((i+1:Nat):Int))).val=if (!Op.bytesLess (getD db i (zi zj)).1.1 (getD db (i+1) (zi zj)).1.1)=true then some (.inr (.int .i64 15,[])) else some (.inl (.h4 db ((i+1+1:Nat):Int))):=by
   show (mT (.h4 _ _)).val=_
   unfold mT
   simp only [oP i (by unfold zA; omega)]
   simp only [Tr.val,zM h2,zB h2,zB h1,bd,if_true]
   rw [zt (i+1) (by unfold zA; omega)]
  by_cases h:Op.bytesLess (getD db i (zi zj)).1.1 (getD db (i+1) (zi zj)).1.1=true
  ·exact .inl ⟨h,ap.of (by rw [hv,if_neg (by rw [h]; simp)])⟩
  ·exact .inr ⟨h,_,ah.of (by rw [hv,if_pos (by simpa using h)]),15,rfl,by decide⟩)
 rcases h4 with ⟨hn,h4⟩ | ⟨hn,r,h4,e,he,hne⟩
 case inr=>
  subst he
  exact ⟨e,zD hi h4 (by omega) rfl,fun h=>absurd h hne,fun h=>absurd h.names hn⟩
 have hv4:(mT (.h4 db ((db.length - 1+1:Nat):Int))).val=some (.inl (.h9 db db (db.length:Int) ((0:Nat):Int))):=by
  show (mT (.h4 _ _)).val=_
  unfold mT
  simp only [Tr.val]
  rw [if_neg (by simp; omega)]
  rfl
 have g9:=h4.trans (ap.of hv4)
 have h9:=lm (t:=mT) (Φ:=QD) 1 (fun i=>.h9 db db (db.length:Int) (i:Int)) (fun i=>kA (getD db i (zi zj))) db.length (by
  intro i hi _
  obtain ⟨e,he,heq⟩:=HE (hs _ (bG (d:=zi zj) hi))
  have hc:EY (getD db i (zi zj))=true:=by unfold EY; rw [he]; rfl
  have hv0:Js (getD db i (zi zj))=e:=by unfold Js; rw [he]; rfl
  have hv:(mT (.h9 db db (db.length:Int) (i:Int))).val=if (e != 0)=true then some (.inr (.int .i64 e,[])) else some (.inl (.h9 db db (db.length:Int) ((i+1:Nat):Int))):=by
   show (mT (.h9 _ _ _ _)).val=_
   unfold mT
   simp only [zn,Tr.val,zM hi,zB hi,bd,if_true,Prod.eta,hc,hv0]
   rw [zt i (by unfold zA; omega)]
  by_cases h:e=0
  ·exact .inl ⟨heq.1 h,ap.of (by rw [hv,if_neg (by rw [h]; simp)])⟩
  ·exact .inr ⟨fun hr=>h (heq.2 hr),_,ah.of (by rw [hv,if_pos (by simpa using h)]),e,rfl,h⟩)
 rcases h9 with ⟨hr,h9⟩ | ⟨hr,r,h9,e,he,hne⟩
 case inr=>
  subst he
  exact ⟨e,zD hi (g9.ends h9) (by omega) rfl,fun h=>absurd h hne,fun h=>absurd ((ar (Q:=kA)).2 h.rels) hr⟩
 have hrels:=(ar (Q:=kA)).1 hr
 obtain ⟨b,hb,hbb⟩:=F9 (db:=db) (fun x hx=>(hrels x hx).cols) hs (by omega)
 have hc:DH db=true:=by unfold DH; rw [hb]; rfl
 have hv0:Ie db=b:=by unfold Ie; rw [hb]; rfl
 have hv9:(mT (.h9 db db (db.length:Int) (db.length:Int))).val=if (!b)=true then some (.inr (.int .i64 10,[])) else some (.inr (.int .i64 0,[])):=by
  show (mT (.h9 _ _ _ _)).val=_
  unfold mT
  simp only [Tr.val,zH,hc,hv0,if_true]
  rfl
 by_cases h:b=true
 ·exact ⟨0,zD hi (g9.ends (h9.ends (ah.of (by rw [hv9,if_neg (by rw [h]; simp)])))) (by omega) rfl,fun _=>⟨hw,hn,hrels,hbb.1 h⟩,fun _=>rfl⟩
 ·exact ⟨10,zD hi (g9.ends (h9.ends (ah.of (by rw [hv9,if_pos (by simpa using h)])))) (by omega) rfl,fun h=>(by cases h),fun hB=>absurd (hbb.2 hB.bound) h⟩
theorem DI {db:List (Sem zj)} (hs:∀ x∈db,mg x):mo db=true:=by
 obtain ⟨e,h,_⟩:=vA hs
 unfold mo; rw [h]; rfl
theorem oT {db:List (Sem zj)} (hs:∀ x∈db,mg x):jP db=(0:Int)↔tW db:=by
 obtain ⟨e,h,h2⟩:=vA hs
 unfold jP; rw [h]; exact h2
end Cad
