/- The document's texts of expressions: the program's. The document's conditions and names: their texts. The document's creates: always a text, or none. The document's writer: always a text, or none. The document's writer: the whole; the texts of statements. The document's writer: each Op. The document's tokens: the program's. The document's cutting of a text: it goes just if the program's does. The document's cutting of a text: words, numbers; the whole. -/
import Derived.Test.YtfgnbipebgibeaaGreatDoorG17
import Derived.Test.YtfgnbipebgibeaaGreatDoorG13
import Derived.Test.YtfgnbipebgibeaaGreatDoorG14
import Derived.Test.YtfgnbipebgibeaaGreatDoorG16
namespace Cad
open Go Go.Proofs
open Int (toNat)
open List (getD)
open List (length)
set_option maxHeartbeats 4000000

theorem py:∀ (N d M:Nat) (e:ze),d≤12→d≤N→d≤M→bV d e=true→mX e→cv N e=some (aL M e,())∧(aL M e).length≤400 * nE d e
 | _,0,_,_,_,_,_,h,_=>by cases h
 | 0,d+1,_,_,_,h,_,_,_=>absurd h (by omega)
 | _,d+1,0,_,_,_,h,_,_=>absurd h (by omega)
 | N+1,d+1,M+1,e,h0,h1,h2,h,hw=>by
  rw [cv]
  unfold KV
  cases fe h with
  | lit v hv=>
   rw [mX] at hw
   have ht:aL (M+1) (.mk [108,105,116] v [] [])=gA v:=rfl
   have hl:=vj v
   rw [ht]
   refine ⟨zY (r:=(.str (gA v),[])) ?_ rfl,by simp [nE]; omega⟩
   have e2:(nb (fun x0=>gP (cv N x0)) (fun x0=>(cv N x0).isSome) (.mk [108,105,116] v [] [])).val=if sT v=true then some (.inr (.str (Aj v),[])) else none:=rfl
   rw [e2,C6 hw.1,Ho hw.1]
   rfl
  | col s hs hr=>
   have hl:=Dv hs
   have ht:aL (M+1) (.mk [99,111,108] (0,0,[]) s [])=s:=rfl
   rw [ht]
   exact ⟨zY (r:=(.str s,[])) rfl rfl,by simp [nE]; omega⟩
  | one op a ho ha=>
   rw [mX,jN] at hw
   obtain ⟨ka,la⟩:=py N d M a (by omega) (by omega) (by omega) ha hw.2.2.1
   have hb:=qt d a ha
   have p1:2 ^ d≤2 ^ 12:=B3 (by omega) (by omega)
   have hn:nE (d+1) (.mk op (0,0,[]) [] [a])=1+nE d a:=by simp [nE]
   rw [hn]
   generalize hg:(fun x0=>gP (cv N x0))=g
   generalize hc:(fun x0=>(cv N x0).isSome)=c
   have g1:g a=aL M a:=by rw [← hg]; show gP (cv N a)=_; rw [ka]; rfl
   have c1:c a=true:=by rw [← hc]; show (cv N a).isSome=_; rw [ka]; rfl
   rcases ho with rfl | rfl
   ·have ht:aL (M+1) (.mk [110,111,116] (0,0,[]) [] [a])=[40,78,79,84,32]++aL M a++[41]:=rfl
    rw [ht]
    refine ⟨zY (r:=(.str ([40,78,79,84,32]++aL M a++[41]),[])) ?_ rfl,by simp; omega⟩
    have e2:(nb g c (.mk [110,111,116] (0,0,[]) [] [a])).val=if c (zm a)=true then (if decide ([40,78,79,84,32].length+length (g (zm a))≤1099511627776)=true then (if decide (([40,78,79,84,32]++g (zm a)).length+[41].length≤1099511627776)=true then some (.inr (.str ([40,78,79,84,32]++g (zm a)++[41]),[])) else none) else none) else none:=rfl
    rw [e2,zn,c1,g1,if_pos rfl,if_pos (zu (by simp; omega)),if_pos (zu (by simp; omega))]
   ·have ht:aL (M+1) (.mk [110,117,108,108] (0,0,[]) [] [a])=[40]++aL M a++[32,73,83,32,78,85,76,76,41]:=rfl
    rw [ht]
    refine ⟨zY (r:=(.str ([40]++aL M a++[32,73,83,32,78,85,76,76,41]),[])) ?_ rfl,by simp; omega⟩
    have e2:(nb g c (.mk [110,117,108,108] (0,0,[]) [] [a])).val=if c (zm a)=true then (if decide ([40].length+length (g (zm a))≤1099511627776)=true then (if decide (([40]++g (zm a)).length+[32,73,83,32,78,85,76,76,41].length≤1099511627776)=true then some (.inr (.str ([40]++g (zm a)++[32,73,83,32,78,85,76,76,41]),[])) else none) else none) else none:=rfl
    rw [e2,zn,c1,g1,if_pos rfl,if_pos (zu (by simp; omega)),if_pos (zu (by simp; omega))]
  | two op a b ho ha hb=>
   rw [mX,jN,jN] at hw
   obtain ⟨ka,la⟩:=py N d M a (by omega) (by omega) (by omega) ha hw.2.2.1
   obtain ⟨kb,lb⟩:=py N d M b (by omega) (by omega) (by omega) hb hw.2.2.2.1
   have ha2:=qt d a ha
   have hb2:=qt d b hb
   have p1:2 ^ d≤2 ^ 12:=B3 (by omega) (by omega)
   have hn:nE (d+1) (.mk op (0,0,[]) [] [a,b])=1+(nE d a+nE d b):=by simp [nE]
   rw [hn]
   generalize hg:(fun x0=>gP (cv N x0))=g
   generalize hc:(fun x0=>(cv N x0).isSome)=c
   have g1:g a=aL M a:=by rw [← hg]; show gP (cv N a)=_; rw [ka]; rfl
   have c1:c a=true:=by rw [← hc]; show (cv N a).isSome=_; rw [ka]; rfl
   have g2:g b=aL M b:=by rw [← hg]; show gP (cv N b)=_; rw [kb]; rfl
   have c2:c b=true:=by rw [← hc]; show (cv N b).isSome=_; rw [kb]; rfl
   have ht:∀ w:zw,Lib.toUpperA op=w→qU (aL M) (fY M) (.mk op (0,0,[]) [] [a,b])=[40]++aL M a++[32]++w++[32]++aL M b++[41]:=by
    rintro w rfl
    rcases ho with rfl | rfl | rfl | rfl | rfl | rfl <;> rfl
   have hx:aL (M+1) (.mk op (0,0,[]) [] [a,b])=qU (aL M) (fY M) (.mk op (0,0,[]) [] [a,b]):=rfl
   rw [hx]
   rcases ho with rfl | rfl | rfl | rfl | rfl | rfl
   ·rw [ht [65,78,68] rfl]
    refine ⟨zY (r:=(.str ([40]++aL M a++[32,65,78,68,32]++aL M b++[41]),[])) ?_ (by simp [az]; rfl),by simp; omega⟩
    have e2:(nb g c (.mk [97,110,100] (0,0,[]) [] [a,b])).val=if c (zm a)=true then (if decide ([40].length+length (g (zm a))≤1099511627776)=true then (if decide (([40]++g (zm a)).length+[32,65,78,68,32].length≤1099511627776)=true then (if c (zm b)=true then (if decide (([40]++g (zm a)++[32,65,78,68,32]).length+length (g (zm b))≤1099511627776)=true then (if decide (([40]++g (zm a)++[32,65,78,68,32]++g (zm b)).length+[41].length≤1099511627776)=true then some (.inr (.str ([40]++g (zm a)++[32,65,78,68,32]++g (zm b)++[41]),[])) else none) else none) else none) else none) else none) else none:=rfl
    rw [e2,zn,zn,c1,c2,g1,g2,if_pos rfl,if_pos (zu (by simp; omega)),if_pos (zu (by simp; omega)),if_pos rfl,if_pos (zu (by simp; omega)),if_pos (zu (by simp; omega))]
   ·rw [ht [79,82] rfl]
    refine ⟨zY (r:=(.str ([40]++aL M a++[32,79,82,32]++aL M b++[41]),[])) ?_ (by simp [az]; rfl),by simp; omega⟩
    have e2:(nb g c (.mk [111,114] (0,0,[]) [] [a,b])).val=if c (zm a)=true then (if decide ([40].length+length (g (zm a))≤1099511627776)=true then (if decide (([40]++g (zm a)).length+[32,79,82,32].length≤1099511627776)=true then (if c (zm b)=true then (if decide (([40]++g (zm a)++[32,79,82,32]).length+length (g (zm b))≤1099511627776)=true then (if decide (([40]++g (zm a)++[32,79,82,32]++g (zm b)).length+[41].length≤1099511627776)=true then some (.inr (.str ([40]++g (zm a)++[32,79,82,32]++g (zm b)++[41]),[])) else none) else none) else none) else none) else none) else none:=rfl
    rw [e2,zn,zn,c1,c2,g1,g2,if_pos rfl,if_pos (zu (by simp; omega)),if_pos (zu (by simp; omega)),if_pos rfl,if_pos (zu (by simp; omega)),if_pos (zu (by simp; omega))]
   ·rw [ht [61] rfl]
    refine ⟨zY (r:=(.str ([40]++aL M a++[32]++[61]++[32]++aL M b++[41]),[])) ?_ rfl,by simp; omega⟩
    have e2:(nb g c (.mk [61] (0,0,[]) [] [a,b])).val=if c (zm a)=true then (if decide ([40].length+length (g (zm a))≤1099511627776)=true then (if decide (([40]++g (zm a)).length+[32].length≤1099511627776)=true then (if decide (([40]++g (zm a)++[32]).length+length [61]≤1099511627776)=true then (if decide (([40]++g (zm a)++[32]++[61]).length+[32].length≤1099511627776)=true then (if c (zm b)=true then (if decide (([40]++g (zm a)++[32]++[61]++[32]).length+length (g (zm b))≤1099511627776)=true then (if decide (([40]++g (zm a)++[32]++[61]++[32]++g (zm b)).length+[41].length≤1099511627776)=true then some (.inr (.str ([40]++g (zm a)++[32]++[61]++[32]++g (zm b)++[41]),[])) else none) else none) else none) else none) else none) else none) else none) else none:=rfl
    rw [e2,zn,zn,c1,c2,g1,g2,if_pos rfl,if_pos (zu (by simp; omega)),if_pos (zu (by simp; omega)),if_pos (zu (by simp; omega)),if_pos (zu (by simp; omega)),if_pos rfl,if_pos (zu (by simp; omega)),if_pos (zu (by simp; omega))]
   ·rw [ht [60] rfl]
    refine ⟨zY (r:=(.str ([40]++aL M a++[32]++[60]++[32]++aL M b++[41]),[])) ?_ rfl,by simp; omega⟩
    have e2:(nb g c (.mk [60] (0,0,[]) [] [a,b])).val=if c (zm a)=true then (if decide ([40].length+length (g (zm a))≤1099511627776)=true then (if decide (([40]++g (zm a)).length+[32].length≤1099511627776)=true then (if decide (([40]++g (zm a)++[32]).length+length [60]≤1099511627776)=true then (if decide (([40]++g (zm a)++[32]++[60]).length+[32].length≤1099511627776)=true then (if c (zm b)=true then (if decide (([40]++g (zm a)++[32]++[60]++[32]).length+length (g (zm b))≤1099511627776)=true then (if decide (([40]++g (zm a)++[32]++[60]++[32]++g (zm b)).length+[41].length≤1099511627776)=true then some (.inr (.str ([40]++g (zm a)++[32]++[60]++[32]++g (zm b)++[41]),[])) else none) else none) else none) else none) else none) else none) else none) else none:=rfl
    rw [e2,zn,zn,c1,c2,g1,g2,if_pos rfl,if_pos (zu (by simp; omega)),if_pos (zu (by simp; omega)),if_pos (zu (by simp; omega)),if_pos (zu (by simp; omega)),if_pos rfl,if_pos (zu (by simp; omega)),if_pos (zu (by simp; omega))]
   ·rw [ht [43] rfl]
    refine ⟨zY (r:=(.str ([40]++aL M a++[32]++[43]++[32]++aL M b++[41]),[])) ?_ rfl,by simp; omega⟩
    have e2:(nb g c (.mk [43] (0,0,[]) [] [a,b])).val=if c (zm a)=true then (if decide ([40].length+length (g (zm a))≤1099511627776)=true then (if decide (([40]++g (zm a)).length+[32].length≤1099511627776)=true then (if decide (([40]++g (zm a)++[32]).length+length [43]≤1099511627776)=true then (if decide (([40]++g (zm a)++[32]++[43]).length+[32].length≤1099511627776)=true then (if c (zm b)=true then (if decide (([40]++g (zm a)++[32]++[43]++[32]).length+length (g (zm b))≤1099511627776)=true then (if decide (([40]++g (zm a)++[32]++[43]++[32]++g (zm b)).length+[41].length≤1099511627776)=true then some (.inr (.str ([40]++g (zm a)++[32]++[43]++[32]++g (zm b)++[41]),[])) else none) else none) else none) else none) else none) else none) else none) else none:=rfl
    rw [e2,zn,zn,c1,c2,g1,g2,if_pos rfl,if_pos (zu (by simp; omega)),if_pos (zu (by simp; omega)),if_pos (zu (by simp; omega)),if_pos (zu (by simp; omega)),if_pos rfl,if_pos (zu (by simp; omega)),if_pos (zu (by simp; omega))]
   ·rw [ht [45] rfl]
    refine ⟨zY (r:=(.str ([40]++aL M a++[32]++[45]++[32]++aL M b++[41]),[])) ?_ rfl,by simp; omega⟩
    have e2:(nb g c (.mk [45] (0,0,[]) [] [a,b])).val=if c (zm a)=true then (if decide ([40].length+length (g (zm a))≤1099511627776)=true then (if decide (([40]++g (zm a)).length+[32].length≤1099511627776)=true then (if decide (([40]++g (zm a)++[32]).length+length [45]≤1099511627776)=true then (if decide (([40]++g (zm a)++[32]++[45]).length+[32].length≤1099511627776)=true then (if c (zm b)=true then (if decide (([40]++g (zm a)++[32]++[45]++[32]).length+length (g (zm b))≤1099511627776)=true then (if decide (([40]++g (zm a)++[32]++[45]++[32]++g (zm b)).length+[41].length≤1099511627776)=true then some (.inr (.str ([40]++g (zm a)++[32]++[45]++[32]++g (zm b)++[41]),[])) else none) else none) else none) else none) else none) else none) else none) else none:=rfl
    rw [e2,zn,zn,c1,c2,g1,g2,if_pos rfl,if_pos (zu (by simp; omega)),if_pos (zu (by simp; omega)),if_pos (zu (by simp; omega)),if_pos (zu (by simp; omega)),if_pos rfl,if_pos (zu (by simp; omega)),if_pos (zu (by simp; omega))]

theorem il {e:ze}:fR e=true↔e=.mk [] (0,0,[]) [] []:=by
 obtain ⟨op,⟨k,i,t⟩,s,l⟩:=e
 unfold fR
 show (bif op==[] then bif k==0&&(i==0&&(t==[]&&true)) then bif s==[] then (↑l.length:Int)==0 else false else false else false)=true↔_
 simp only [ze.mk.injEq,ba]
 constructor
 ·intro h
  obtain ⟨h1,h⟩:=bW h
  obtain ⟨h2,h⟩:=bW h
  obtain ⟨h3,h⟩:=bW h
  simp at h1 h2 h3 h
  exact ⟨h1,h2,h3,h⟩
 ·rintro ⟨rfl,⟨rfl,rfl,rfl⟩,rfl,rfl⟩
  rfl

theorem Ik {e:ze} (h:cM e=true):(e.op==[])=false:=by
 have f:=fe (jS h)
 clear h
 cases f with
 | lit v hv=>rfl
 | col s hs hr=>rfl
 | one op a ho ha=>rcases ho with rfl | rfl <;> rfl
 | two op a b ho ha hb=>rcases ho with rfl | rfl | rfl | rfl | rfl | rfl <;> rfl

theorem NM {e:ze} (h:cM e=true):nE 12 e≤60:=by
 rw [ug] at h
 by_cases k:nE 12 e≤60
 ·exact k
 ·exfalso
  rw [ao k] at h
  cases bV 12 e <;> simp at h

theorem Hq {e:ze} (hw:mX e) (h:cM e=true):pw e=true∧ot e=aL 16 e∧(aL 16 e).length≤24000:=by
 obtain ⟨h1,h2⟩:=py 16 12 16 e (by omega) (by omega) (by omega) (jS h) hw
 have h1:ED e=some (aL 16 e,()):=h1
 have h3:=NM h
 refine ⟨by unfold pw; rw [h1]; rfl,by unfold ot; rw [h1]; rfl,by omega⟩

def nD (w:zw) (e:ze):zw:=if (e.op==[])=true then [] else if cM e=true then (if (w==[87,72,69,82,69])=true then [32,87,72,69,82,69,32]++aL 16 e else w++[32,67,72,69,67,75,32,40,32]++aL 16 e++[32,41]) else []

theorem MC {e:ze} (hw:mX e) (hc:kw 16 e=true) {w:zw} (hl:w.length≤1000):wX e w=some (nD w e,bw e,())∧(nD w e).length≤30000:=by
 unfold nD
 by_cases h0:(e.op==[])=true
 ·rw [if_pos h0]
  obtain ⟨s1,s2⟩:=lN (b:=.mk [] (0,0,[]) [] []) hc
  have hm:cM e=false:=by
   cases h:cM e
   ·rfl
   ·rw [Ik h] at h0; cases h0
  have he:da e (.mk [] (0,0,[]) [] [])=bw e:=by
   unfold bw
   rw [hm]
   apply iN.2
   rw [s2,← il]
   cases fR e <;> simp
  refine ⟨zY (r:=(.tup [.str [],.bool (bw e)],[])) ?_ rfl,by simp⟩
  simp only [GN,Tr.val,zn,h0,s1,he,if_true]
 ·rw [if_neg h0]
  have hn:fR e=false:=by
   cases h:fR e
   ·rfl
   ·rw [il.1 h] at h0; exact absurd rfl h0
  have hmb:bw e=cM e:=by unfold bw; rw [hn]; rfl
  have h0:(e.op==[])=false:=by simpa using h0
  rw [hmb]
  by_cases hm:cM e=true
  ·obtain ⟨t1,t2,t3⟩:=Hq hw hm
   rw [if_pos hm,hm]
   by_cases hwh:(w==[87,72,69,82,69])=true
   ·rw [if_pos hwh]
    refine ⟨zY (r:=(.tup [.str ([32,87,72,69,82,69,32]++aL 16 e),.kb true],[])) ?_ rfl,by simp; omega⟩
    simp only [GN,Tr.val,zn,h0,lM hw,pu hw,hm,hwh,t1,t2,if_true]
    rw [if_neg (by simp),if_neg (by simp),if_pos (zu (by simp; omega))]
   ·rw [if_neg hwh]
    have hwh:(w==[87,72,69,82,69])=false:=by simpa using hwh
    refine ⟨zY (r:=(.tup [.str (w++[32,67,72,69,67,75,32,40,32]++aL 16 e++[32,41]),.kb true],[])) ?_ rfl,by simp; omega⟩
    simp only [GN,Tr.val,zn,h0,lM hw,pu hw,hm,hwh,t1,t2,if_true]
    rw [if_neg (by simp),if_neg (by simp),if_neg (by simp),if_pos (zu (by simp; omega)),if_pos (zu (by simp; omega)),if_pos (zu (by simp; omega))]
  ·rw [if_neg hm]
   have hm:cM e=false:=by simpa using hm
   rw [hm]
   refine ⟨zY (r:=(.tup [.str [],.kb false],[])) ?_ rfl,by simp⟩
   simp only [GN,Tr.val,zn,h0,lM hw,pu hw,hm,if_true]
   rfl
theorem aZ {e:ze} (hw:mX e) (hc:kw 16 e=true) {w:zw} (hl:w.length≤1000):tp e w=true∧AD e w=(nD w e,bw e)∧(nD w e).length≤30000:=by
 obtain ⟨h1,h2⟩:=MC hw hc hl
 exact ⟨by unfold tp; rw [h1]; rfl,by unfold AD; rw [h1]; rfl,h2⟩
theorem xS {e:ze} (h:bw e=true):jQ [32] e=nD [] e:=by
 unfold jQ nD
 unfold bw at h
 cases hn:fR e
 ·rw [hn] at h
  have hm:cM e=true:=h
  rw [if_neg (by simp),if_neg (by rw [Ik hm]; simp),if_pos hm]
  unfold g8 mw
  rw [hm]
  rfl
 ·rw [if_pos rfl]
  rw [il.1 hn]
  rfl

theorem CU (sep x:zw):∀ l:List zw,Lib.join (l++[x]) sep=if l=[] then x else Lib.join l sep++sep++x
 | []=>by rw [if_pos rfl]; exact Lib.join_one x sep
 | [a]=>by simp [Lib.join,List.intercalate,List.intersperse]
 | a::b::r=>by
  have ih:=CU sep x (b::r)
  rw [if_neg (by simp)] at ih ⊢
  have e1:∀ (c:zw) (q:List zw),Lib.join (a::c::q) sep=a++sep++Lib.join (c::q) sep:=fun c q=>by simp [Lib.join,List.intercalate,List.intersperse]
  show Lib.join (a::b::(r++[x])) sep=_
  rw [e1,e1]
  rw [show b::(r++[x])=(b::r)++[x] from rfl,ih]
  simp

theorem Jq {l:List zw} (hl:l.length≤100) (hs:∀ x∈l,length x≤1000):∃ t,tq l=some (t,(decide (∀ x∈l,zJ x=true)&&(decide (1≤l.length)&&decide (l.length≤8))),())∧t.length≤200000∧((∀ x∈l,zJ x=true)→t=Lib.join l [32,44,32]):=by
 have hjl:∀ i,i≤l.length→(Lib.join (l.take i) [32,44,32]).length≤110000:=by
  intro i hi
  have:=sC [32,44,32] 1000 (l.take i) (fun x hx=>hs x (List.mem_of_mem_take hx))
  have h2:(l.take i).length≤100:=by simp; omega
  have h3:=fP (1000+([32,44,32]:zw).length) h2
  simp at this h3 ⊢
  omega
 have hstep:∀ i (hi:i < l.length),(A2 (.h3 l (Lib.join (l.take i) [32,44,32]) (i:Int))).val=if zJ l[i]=true then some (.inl (.h3 l (Lib.join (l.take (i+1)) [32,44,32]) ((i+1:Nat):Int))) else some (.inr (.tup [.str [],.kb false],[])):=by
  intro i hi
  have hx:=hs _ (bP hi)
  have hj:=hjl i (by omega)
  show (A2 (.h3 _ _ _)).val=_
  simp only [A2,Tr.val,zX _ _ hi,zM hi,zB hi,bm (s:=l[i]) (by omega),eA (s:=l[i]) (by omega),if_true]
  rw [zt i (by unfold zA; omega),Vf hi,CU]
  by_cases hn:zJ l[i]=true
  ·rw [if_neg (by rw [hn]; simp),if_pos hn]
   by_cases h0:i=0
   ·subst h0
    rw [if_neg (by simp),if_pos (zu (by simp [Lib.join_nil]; omega)),if_pos (by simp)]
    rfl
   ·rw [if_pos (zu (by omega)),if_pos (zu (by simp; omega)),if_pos (zu (by simp; omega)),if_neg (by
     intro h
     have:=congrArg length h
     simp at this
     rcases this with h | h
     ·exact h0 h
     ·rw [h] at hi; simp at hi)]
  ·rw [if_pos (by simpa using hn),if_neg hn]
 rcases lm (t:=A2) (Φ:=fun r=>r=(.tup [.str [],.kb false],[])) 1 (fun i=>.h3 l (Lib.join (l.take i) [32,44,32]) (i:Int)) (fun i=>∀ h:i < l.length,zJ l[i]=true) l.length (fun i hi _=>by
  by_cases hn:zJ l[i]=true
  ·exact .inl ⟨fun _=>hn,ap.of (by rw [hstep i hi,if_pos hn])⟩
  ·exact .inr ⟨fun h=>hn (h hi),_,ah.of (by rw [hstep i hi,if_neg hn]),rfl⟩) with ⟨h1,h2⟩ | ⟨h1,r,h2,rfl⟩
 ·have hall:∀ x∈l,zJ x=true:=by
   intro x hx
   obtain ⟨j,hj,rfl⟩:=kD hx
   exact h1 j hj hj
  rw [vp] at h2
  have hj:=hjl l.length (bg _)
  rw [vp] at hj
  refine ⟨Lib.join l [32,44,32],zD (s:=.h3 l [] 0) rfl (h2.ends (ah.of (r:=(.tup [.str (Lib.join l [32,44,32]),.bool (bif decide (1≤(↑l.length:Int)) then decide ((↑l.length:Int)≤8) else false)],[])) ?_)) (by omega) ?_,by omega,fun _=>rfl⟩
  ·show (A2 (.h3 _ _ _)).val=_
   simp only [A2,Tr.val,zH]
   cases decide (1≤(↑l.length:Int)) <;> rfl
  ·rw [zu hall]
   have e1:decide (1≤(↑l.length:Int))=decide (1≤l.length):=by
    by_cases h:1≤l.length
    ·rw [zu h]; exact zu (by omega)
    ·rw [ao h]; exact ao (by omega)
   have e2:decide ((↑l.length:Int)≤8)=decide (l.length≤8):=by
    by_cases h:l.length≤8
    ·rw [zu h]; exact zu (by omega)
    ·rw [ao h]; exact ao (by omega)
   rw [e1,e2]
   cases decide (1≤l.length) <;> cases decide (l.length≤8) <;> rfl
 ·have hne:¬ ∀ x∈l,zJ x=true:=fun h=>h1 fun i _ hi=>h _ (bP hi)
  refine ⟨[],zD (s:=.h3 l [] 0) rfl h2 (by omega) ?_,by simp,fun h=>absurd h hne⟩
  rw [ao hne]
  rfl

structure nm (s:Sem zk):Prop where
 sh:qJ s
 chk:mX s.2.2.2.2.2.2.2.2.1
 whr:mX s.2.2.2.2.2.2.2.2.2.2.2.1
 cchk:kw 16 s.2.2.2.2.2.2.2.2.1=true
 cwhr:kw 16 s.2.2.2.2.2.2.2.2.2.2.2.1=true
 row:∀ v∈s.2.2.2.2.2.2.2.2.2.1,kr v
 sets:∀ x∈s.2.2.2.2.2.2.2.2.2.2.1,mX (x:Sem gy).2∧kw 16 (x:Sem gy).2=true

def WP (B:Nat) (r:aF):Prop:=∃ (tx:zw) (b:Bool),az r.2 [Sh.str,Sh.bool] r.1=some (tx,b,())∧tx.length≤B

theorem zeH {s:Sem zk} (h:nm s) (b4:Bool) (s5:zw) (hs:s5.length≤60000) (n:Nat) (hn:30≤n):∃ r,cI eR n (.h20 b4 s5 0 (s,()))=some r∧WP 200000 r:=by
 have hl:=h.sh.refs.1
 refine cP (t:=eR) (β:=Bool×zw) s.2.2.2.2.2.2.2.1.length (fun b i=>.h20 b.1 b.2 (i:Int) (s,())) (fun b i=>b.2.length≤60000+2100 * i) _ 1 ?_ ?_ s.2.2.2.2.2.2.2.1.length 0 (b4,s5) n rfl (aK _) (by simpa using hs) (by omega)
 ·rintro ⟨b,x⟩ i hi hI
  have hI:x.length≤60000+2100 * i:=hI
  obtain ⟨r1,r2⟩:=h.sh.refs.2 _ (bP hi)
  have g:getD s.2.2.2.2.2.2.2.1 (i:Int).toNat (zi ib)=s.2.2.2.2.2.2.2.1[i]:=zX _ _ hi
  generalize s.2.2.2.2.2.2.2.1[i]=f at g r1 r2
  refine .inl ⟨(bif b then bif bj f.1 then bj f.2 else false else false,x++([32,44,32,82,69,70,69,82,69,78,67,69,83,32,40,32]++f.1++[32,41,32]++f.2)),by simp; omega,?_⟩
  show (eR (.h20 _ _ _ _)).val=_
  simp only [eR,Tr.val,g,zM hi,zB hi,bm (s:=f.1) (by omega),bm (s:=f.2) (by omega),if_true]
  rw [zt i (by unfold zA; omega),if_pos (by cases b <;> cases bj f.1 <;> rfl),if_pos (zu (by simp; omega)),if_pos (zu (by simp; omega)),if_pos (zu (by simp; omega)),if_pos (zu (by simp; omega))]
 ·rintro ⟨b,x⟩ n hI hn
  have hI:x.length≤60000+2100 * s.2.2.2.2.2.2.2.1.length:=hI
  obtain ⟨n,rfl⟩:∃ k,n=k+1:=⟨n - 1,by omega⟩
  obtain ⟨c1,c2,c3⟩:=aZ h.chk h.cchk (w:=[32,44]) (by simp)
  have hv:(eR (.h20 b x (s.2.2.2.2.2.2.2.1.length:Int) (s,()))).val=some (.inr (.tup [.str (x++nD [32,44] s.2.2.2.2.2.2.2.2.1++[32,41]),.bool (bif b then bw s.2.2.2.2.2.2.2.2.1 else false)],[])):=by
   show (eR (.h20 _ _ _ _)).val=_
   simp only [eR,Tr.val,zn,zH,c1,c2,if_true]
   rw [if_neg (by simp),if_pos (by
    have:x.length+(nD [32,44] s.2.2.2.2.2.2.2.2.1).length≤200000:=by omega
    simp; omega)]
   cases b <;> rfl
  rw [cx,hv]
  exact ⟨_,rfl,_,_,rfl,by simp; omega⟩

theorem zeG {s:Sem zk} (h:nm s) (b4:Bool) (s5:zw) (hs:s5.length≤30000) (n:Nat) (hn:60≤n):∃ r,cI eR n (.h15 b4 s5 0 (s,()))=some r∧WP 200000 r:=by
 have hl:=h.sh.uniques.1
 refine cP (t:=eR) (β:=Bool×zw) s.2.2.2.2.2.2.1.length (fun b i=>.h15 b.1 b.2 (i:Int) (s,())) (fun b i=>b.2.length≤30000+1100 * i) _ 31 ?_ ?_ s.2.2.2.2.2.2.1.length 0 (b4,s5) n rfl (aK _) (by simpa using hs) (by omega)
 ·rintro ⟨b,x⟩ i hi hI
  have hI:x.length≤30000+1100 * i:=hI
  have r1:=h.sh.uniques.2 _ (bP hi)
  have g:getD s.2.2.2.2.2.2.1 (i:Int).toNat (zi Sh.str)=s.2.2.2.2.2.2.1[i]:=zX _ _ hi
  generalize s.2.2.2.2.2.2.1[i]=f at g r1
  refine .inl ⟨(bif b then bj f else false,x++([32,44,32,85,78,73,81,85,69,32,40,32]++f++[32,41])),by simp; omega,?_⟩
  show (eR (.h15 _ _ _ _)).val=_
  simp only [eR,Tr.val,g,zM hi,zB hi,bm (s:=f) (by omega),if_true]
  rw [zt i (by unfold zA; omega),if_pos (by cases b <;> rfl),if_pos (zu (by simp; omega)),if_pos (zu (by simp; omega)),if_pos (zu (by simp; omega))]
 ·rintro ⟨b,x⟩ n hI hn
  have hI:x.length≤30000+1100 * s.2.2.2.2.2.2.1.length:=hI
  obtain ⟨n,rfl⟩:∃ k,n=k+1:=⟨n - 1,by omega⟩
  have hv:(eR (.h15 b x (s.2.2.2.2.2.2.1.length:Int) (s,()))).val=some (.inl (.h20 b x 0 (s,()))):=by
   show (eR (.h15 _ _ _ _)).val=_
   simp only [eR,Tr.val,zH]
   rfl
  rw [cx,hv]
  exact zeH h b x (by omega) n (by omega)

theorem cr4 {s:Sem zk} (h:nm s) (b4:Bool) (s5:zw) (hs:s5.length≤2000) (n:Nat) (hn:100≤n):∃ r,cI eR n (.h4 b4 s5 0 (s,()))=some r∧WP 200000 r:=by
 have hl:=h.sh.cols.1
 have hk:=h.sh.key
 refine cP (t:=eR) (β:=zw) s.2.2.2.2.1.length (fun b i=>.h4 b4 b (i:Int) (s,())) (fun b i=>b.length≤2000+1100 * i) _ 61 ?_ ?_ s.2.2.2.2.1.length 0 s5 n rfl (aK _) (by simpa using hs) (by omega)
 ·intro x i hi hI
  have r1:=h.sh.cols.2 _ (bP hi)
  have g:getD s.2.2.2.2.1 (i:Int).toNat (zi zh)=s.2.2.2.2.1[i]:=zX _ _ hi
  generalize s.2.2.2.2.1[i]=f at g r1
  have hv:((eR (.h4 b4 x (i:Int) (s,()))).val=if (bif !bj f.1 then true else bif decide (LT.lt (α:=Int) f.2.1 1) then true else decide (GT.gt (α:=Int) f.2.1 3))=true then some (.inr (.tup [.str [],.kb false],[])) else
    some (.inl (.h4 b4 ((if f.2.2=true then x++(f.1++[32]++[[],[73,78,84],[84,69,88,84],[66,79,79,76]].getD (toNat f.2.1) (zi Sh.str))++[32,78,79,84,32,78,85,76,76] else x++(f.1++[32]++[[],[73,78,84],[84,69,88,84],[66,79,79,76]].getD (toNat f.2.1) (zi Sh.str)))++[32,44,32]) ((i+1:Nat):Int) (s,()))))∧
    (¬ (bif !bj f.1 then true else bif decide (LT.lt (α:=Int) f.2.1 1) then true else decide (GT.gt (α:=Int) f.2.1 3))=true→([[],[73,78,84],[84,69,88,84],[66,79,79,76]].getD (toNat f.2.1) (zi Sh.str)).length≤4):=by
   have hgt:¬ (bif !bj f.1 then true else bif decide (LT.lt (α:=Int) f.2.1 1) then true else decide (GT.gt (α:=Int) f.2.1 3))=true→zR f.2.1 4=true∧([[],[73,78,84],[84,69,88,84],[66,79,79,76]].getD (toNat f.2.1) (zi Sh.str)).length≤4:=by
    intro hc
    have h1:¬ LT.lt (α:=Int) f.2.1 1:=by
     intro h1
     rw [zu h1] at hc
     cases h2:(!bj f.1) <;> rw [h2] at hc <;> exact hc rfl
    have h3:¬ GT.gt (α:=Int) f.2.1 3:=by
     intro h1
     rw [zu h1] at hc
     cases h2:(!bj f.1) <;> rw [h2] at hc <;> cases h4:decide (LT.lt (α:=Int) f.2.1 1) <;> rw [h4] at hc <;> exact hc rfl
    have h4:@Eq Int f.2.1 1∨@Eq Int f.2.1 2∨@Eq Int f.2.1 3:=by omega
    rcases h4 with h4 | h4 | h4 <;> rw [h4] <;> exact ⟨rfl,by decide⟩
   refine ⟨?_,fun hc=>(hgt hc).2⟩
   show (eR (.h4 _ _ _ _)).val=_
   simp only [eR,Tr.val,g,zM hi,zB hi,bm (s:=f.1) (by omega),if_true]
   by_cases hc:(bif !bj f.1 then true else bif decide (LT.lt (α:=Int) f.2.1 1) then true else decide (GT.gt (α:=Int) f.2.1 3))=true
   ·rw [if_pos hc,if_pos hc]
   ·obtain ⟨k1,k2⟩:=hgt hc
    rw [if_neg hc,if_neg hc,if_pos (zu (by simp; omega))]
    refine (if_pos k1).trans ?_
    generalize [[],[73,78,84],[84,69,88,84],[66,79,79,76]].getD (toNat f.2.1) (zi Sh.str)=ty at k2
    rw [if_pos (zu (by simp; omega)),if_pos (zu (by simp; omega)),zt i (by unfold zA; omega)]
    by_cases hn:f.2.2=true
    ·rw [if_pos hn,if_pos hn,if_pos (zu (by simp; omega)),if_pos (zu (by simp; omega))]
    ·rw [if_neg hn,if_neg hn,if_pos (zu (by simp; omega))]
  obtain ⟨hv,hty⟩:=hv
  by_cases hc:(bif !bj f.1 then true else bif decide (LT.lt (α:=Int) f.2.1 1) then true else decide (GT.gt (α:=Int) f.2.1 3))=true
  ·rw [if_pos hc] at hv
   exact .inr ⟨_,hv,[],false,rfl,by simp⟩
  ·rw [if_neg hc] at hv
   have:=hty hc
   generalize [[],[73,78,84],[84,69,88,84],[66,79,79,76]].getD (toNat f.2.1) (zi Sh.str)=ty at hv this
   refine .inl ⟨_,?_,hv⟩
   split <;> simp <;> omega
 ·intro x n hI hn
  obtain ⟨n,rfl⟩:∃ k,n=k+1:=⟨n - 1,by omega⟩
  have hv:(eR (.h4 b4 x (s.2.2.2.2.1.length:Int) (s,()))).val=some (.inl (.h15 b4 (x++([75,69,89,32,40,32]++s.2.2.2.2.2.1++[32,41])) 0 (s,()))):=by
   show (eR (.h4 _ _ _ _)).val=_
   simp only [eR,Tr.val,zH]
   rw [if_neg (by simp),if_pos (zu (by simp; omega)),if_pos (zu (by simp; omega)),if_pos (zu (by simp; omega))]
  rw [cx,hv]
  exact zeG h b4 _ (by simp; omega) n (by omega)

theorem Hu {s:Sem zk} (h:nm s):∃ (tx:zw) (b:Bool),lO s=some (tx,b,())∧tx.length≤200000:=by
 have ht:=h.sh.table
 have hk:=h.sh.key
 have hv:∃ b4,(Ox s).val=some (.inl (.h4 b4 ([67,82,69,65,84,69,32,84,65,66,76,69,32]++s.2.1++[32,40,32]) 0 (s,()))):=by
  refine ⟨(bif bj s.2.2.2.2.2.1 then bif decide (1≤(↑(length s.2.2.2.2.1):Int)) then bif decide ((↑(length s.2.2.2.2.1):Int)≤8) then bif decide ((↑(length s.2.2.2.2.2.2.1):Int)≤8) then decide ((↑(length s.2.2.2.2.2.2.2.1):Int)≤8) else false else false else false else false),?_⟩
  simp only [Ox,Tr.val,bm (s:=s.2.2.2.2.2.1) (by omega),if_true]
  rw [if_pos (zu (by simp; omega)),if_pos (zu (by simp; omega))]
 obtain ⟨b4,hv⟩:=hv
 obtain ⟨r,h1,tx,b,h2,h3⟩:=cr4 h b4 ([67,82,69,65,84,69,32,84,65,66,76,69,32]++s.2.1++[32,40,32]) (by simp; omega) 100000000 (by omega)
 refine ⟨tx,b,?_,h3⟩
 unfold lO aA cL
 rw [hv]
 show (cI eR 100000000 _).bind _=_
 rw [h1]
 exact h2
theorem Jj {s:Sem zk} (h:nm s):pA s=true∧(ou s).1.length≤200000:=by
 obtain ⟨tx,b,h1,h2⟩:=Hu h
 exact ⟨by unfold pA; rw [h1]; rfl,by unfold ou; rw [h1]; exact h2⟩

def LB (o:Option (zC (List.map some [Sh.str,zk,Sh.bool]))):Prop:=∃ (t:zw) (own:Sem zk) (ok:Bool),o=some (t,own,ok,())∧t.length≤900000∧xr own
theorem zek {s:Sem zk} {r:aF} {t:zw} {own:Sem zk} {ok:Bool} (hv:(gm s).val=some (.inr r)) (hr:az r.2 [Sh.str,zk,Sh.bool] r.1=some (t,own,ok,())) (hl:t.length≤900000) (hc:xr own):LB (dd s):=
 ⟨t,own,ok,zY hv hr,hl,hc⟩

abbrev dm:ze:=.mk [] (0,0,[]) [] []
theorem Ph:kw 16 dm=true:=by decide +kernel
theorem dT {a:Sem zk} {s:Sem zk} (h:nm s) (h4:a.2.2.2.1=s.2.2.2.1∨a.2.2.2.1=[]) (h5:a.2.2.2.2.1=s.2.2.2.2.1∨a.2.2.2.2.1=[]) (h7:a.2.2.2.2.2.2.1=s.2.2.2.2.2.2.1∨a.2.2.2.2.2.2.1=[])
  (h8:a.2.2.2.2.2.2.2.1=s.2.2.2.2.2.2.2.1∨a.2.2.2.2.2.2.2.1=[]) (h9:a.2.2.2.2.2.2.2.2.1=s.2.2.2.2.2.2.2.2.1∨a.2.2.2.2.2.2.2.2.1=dm) (h10:a.2.2.2.2.2.2.2.2.2.1=s.2.2.2.2.2.2.2.2.2.1∨a.2.2.2.2.2.2.2.2.2.1=[])
  (h11:a.2.2.2.2.2.2.2.2.2.2.1=s.2.2.2.2.2.2.2.2.2.2.1∨a.2.2.2.2.2.2.2.2.2.2.1=[]) (h12:a.2.2.2.2.2.2.2.2.2.2.2.1=s.2.2.2.2.2.2.2.2.2.2.2.1∨a.2.2.2.2.2.2.2.2.2.2.2.1=dm):xr a where
 names:=by have:=h.sh.names.1; rcases h4 with h | h <;> rw [h] <;> first | omega | simp
 cols:=by have:=h.sh.cols.1; rcases h5 with h | h <;> rw [h] <;> first | omega | simp
 uniques:=by have:=h.sh.uniques.1; rcases h7 with h | h <;> rw [h] <;> first | omega | simp
 refs:=by have:=h.sh.refs.1; rcases h8 with h | h <;> rw [h] <;> first | omega | simp
 row:=by have:=h.sh.row; rcases h10 with h | h <;> rw [h] <;> first | omega | simp
 sets:=by have:=h.sh.sets.1; rcases h11 with h | h <;> rw [h] <;> first | omega | simp
 chk:=by rcases h9 with k | k <;> rw [k]; exact h.cchk; exact Ph
 whr:=by rcases h12 with k | k <;> rw [k]; exact h.cwhr; exact Ph
 ex:=by
  rcases h11 with k | k <;> rw [k]
  ·exact fun x hx=>(h.sets x hx).2
  ·intro x hx; cases hx

def qI (r:aF):Prop:=∃ (t:zw) (own:Sem zk) (ok:Bool),az r.2 [Sh.str,zk,Sh.bool] r.1=some (t,own,ok,())∧t.length≤900000∧xr own
theorem sy {r:aF} (t:zw) (own:Sem zk) (ok:Bool) (h1:az r.2 [Sh.str,zk,Sh.bool] r.1=some (t,own,ok,())) (h2:t.length≤900000) (h3:xr own):qI r:=⟨t,own,ok,h1,h2,h3⟩

theorem zgM {s:Sem zk} (h:nm s):∃ r,cI lg 100000000 (.h15 [] 0 (s,()) ([],[],[],[],[],0,0,[],[],[],0,0,[],[],[],()) (s.1,s.2.1,[],[],[],0,0,[],[],s.2.2.2.2.2.2.2.2.2.1,[],0,0,[],[],[],()))=some r∧qI r:=by
 have hl:=h.sh.row
 have ht:=h.sh.table
 have hcmp:xr (s.1,s.2.1,[],[],[],[],[],[],dm,s.2.2.2.2.2.2.2.2.2.1,[],dm,[]):=dT h (.inr rfl) (.inr rfl) (.inr rfl) (.inr rfl) (.inr rfl) (.inl rfl) (.inr rfl) (.inr rfl)
 refine cP (t:=lg) (β:=zw) s.2.2.2.2.2.2.2.2.2.1.length (fun b i=>.h15 b (i:Int) (s,()) ([],[],[],[],[],0,0,[],[],[],0,0,[],[],[],()) (s.1,s.2.1,[],[],[],0,0,[],[],s.2.2.2.2.2.2.2.2.2.1,[],0,0,[],[],[],())) (fun b i=>b.length≤400 * i) _ 1 ?_ ?_ s.2.2.2.2.2.2.2.2.2.1.length 0 [] 100000000 rfl (aK _) (by simp) (by omega)
 ·intro x i hi hI
  have hv:=h.row _ (bP hi)
  have hx:=vj s.2.2.2.2.2.2.2.2.2.1[i]
  have g:getD s.2.2.2.2.2.2.2.2.2.1 (i:Int).toNat (zi zg)=s.2.2.2.2.2.2.2.2.2.1[i]:=zX _ _ hi
  generalize s.2.2.2.2.2.2.2.2.2.1[i]=v at g hv hx
  have e:(lg (.h15 x (i:Int) (s,()) ([],[],[],[],[],0,0,[],[],[],0,0,[],[],[],()) (s.1,s.2.1,[],[],[],0,0,[],[],s.2.2.2.2.2.2.2.2.2.1,[],0,0,[],[],[],()))).val=if ce v=true then some (.inl (.h15 ((if (i:Int) > 0 then x++[32,44,32] else x)++gA v) ((i+1:Nat):Int) (s,()) ([],[],[],[],[],0,0,[],[],[],0,0,[],[],[],()) (s.1,s.2.1,[],[],[],0,0,[],[],s.2.2.2.2.2.2.2.2.2.1,[],0,0,[],[],[],()))) else
    some (.inr (.tup [.str [],.agg [.str s.1,.str s.2.1,.str [],.nils,.nils,.str [],.nils,.nils,.str [],.int .i64 0,.int .i64 0,.str [],.str [],.nils,.sl zg s.2.2.2.2.2.2.2.2.2.1,.nils,.str [],.int .i64 0,.int .i64 0,.str [],.str [],.nils,.str []],.kb false],[])):=by
   show (lg (.h15 _ _ _ _ _)).val=_
   simp only [lg,Tr.val,g,zM hi,zB hi,j9 hv.2.2,mH hv.2.2,C6 hv,Ho hv,if_true]
   rw [zt i (by unfold zA; omega)]
   by_cases m:ce v=true
   ·rw [if_neg (by rw [m]; simp),if_pos m]
    by_cases h0:(i:Int) > 0
    ·rw [if_pos (zu h0),if_pos h0,if_pos (zu (by simp; omega)),if_pos (zu (by simp; omega))]
    ·rw [if_neg (by simpa using h0),if_neg h0,if_pos (zu (by omega))]
   ·rw [if_pos (by simpa using m),if_neg m]
  by_cases m:ce v=true
  ·rw [if_pos m] at e
   refine .inl ⟨_,?_,e⟩
   split <;> simp <;> omega
  ·rw [if_neg m] at e
   exact .inr ⟨_,e,sy [] _ false rfl (by simp) hcmp⟩
 ·intro x n hI hn
  obtain ⟨n,rfl⟩:∃ k,n=k+1:=⟨n - 1,by omega⟩
  have e:∃ b,(lg (.h15 x (s.2.2.2.2.2.2.2.2.2.1.length:Int) (s,()) ([],[],[],[],[],0,0,[],[],[],0,0,[],[],[],()) (s.1,s.2.1,[],[],[],0,0,[],[],s.2.2.2.2.2.2.2.2.2.1,[],0,0,[],[],[],()))).val=
    some (.inr (.tup [.str ([73,78,83,69,82,84,32,73,78,84,79,32]++s.2.1++[32,86,65,76,85,69,83,32,40,32]++x++[32,41]),.agg [.str s.1,.str s.2.1,.str [],.nils,.nils,.str [],.nils,.nils,.str [],.int .i64 0,.int .i64 0,.str [],.str [],.nils,.sl zg s.2.2.2.2.2.2.2.2.2.1,.nils,.str [],.int .i64 0,.int .i64 0,.str [],.str [],.nils,.str []],b],[]))∧(b=.kb false∨∃ c,b=.bool c):=by
   show ∃ b,(lg (.h15 _ _ _ _ _)).val=_∧_
   simp only [lg,Tr.val,zH]
   rw [if_neg (by simp),if_pos (zu (by simp; omega)),if_pos (zu (by simp; omega)),if_pos (zu (by simp; omega)),if_pos (zu (by simp; omega))]
   split
   ·exact ⟨_,rfl,.inr ⟨_,rfl⟩⟩
   ·exact ⟨_,rfl,.inl rfl⟩
  obtain ⟨b,e,hb⟩:=e
  rw [cx,e]
  rcases hb with rfl | ⟨c,rfl⟩
  ·exact ⟨_,rfl,sy _ _ false rfl (by simp; omega) hcmp⟩
  ·exact ⟨_,rfl,sy _ _ c rfl (by simp; omega) hcmp⟩

theorem zgN {s:Sem zk} (h:nm s) (s8:zw) (b9:Bool) (h8:s8.length≤30000):∃ r,cI lg 100000000 (.h27 s8 b9 [] 0 (s,()) ([],[],[],[],[],0,0,[],[],[],0,0,[],[],[],()) (s.1,s.2.1,[],[],[],0,0,[],[],s.2.2.2.2.2.2.2.2.2.2.1,s.2.2.2.2.2.2.2.2.2.2.2.1,[],()))=some r∧qI r:=by
 have hl:=h.sh.sets.1
 have ht:=h.sh.table
 have hcmp:xr (s.1,s.2.1,[],[],[],[],[],[],dm,[],s.2.2.2.2.2.2.2.2.2.2.1,s.2.2.2.2.2.2.2.2.2.2.2.1,[]):=dT h (.inr rfl) (.inr rfl) (.inr rfl) (.inr rfl) (.inr rfl) (.inr rfl) (.inl rfl) (.inl rfl)
 generalize hZ:(([],[],[],[],[],0,0,[],[],[],0,0,[],[],[],()):zo ij)=Z
 generalize hU:((s.1,s.2.1,[],[],[],0,0,[],[],s.2.2.2.2.2.2.2.2.2.2.1,s.2.2.2.2.2.2.2.2.2.2.2.1,[],()):zo W8)=V
 have own:∀ (t:zw) (ok:Bool) (b:AV),(b=.bool ok∨(b=.kb false∧ok=false))→az [] [Sh.str,zk,Sh.bool] (.tup [.str t,.agg [.str V.1,.str V.2.1,.str V.2.2.1,.nils,.nils,.str V.2.2.2.1,.nils,.nils,.str V.2.2.2.2.1,.int .i64 V.2.2.2.2.2.1,.int .i64 V.2.2.2.2.2.2.1,.str V.2.2.2.2.2.2.2.1,.str V.2.2.2.2.2.2.2.2.1,.nils,.nils,
   .sl (Sh.str.pr Sh.expr) V.2.2.2.2.2.2.2.2.2.1,.str (ze.op V.2.2.2.2.2.2.2.2.2.2.1),.int .i64 (ze.v V.2.2.2.2.2.2.2.2.2.2.1).1,.int .i64 (ze.v V.2.2.2.2.2.2.2.2.2.2.1).2.1,.str (ze.v V.2.2.2.2.2.2.2.2.2.2.1).2.2,.str (ze.s V.2.2.2.2.2.2.2.2.2.2.1),.sl Sh.expr (ze.l V.2.2.2.2.2.2.2.2.2.2.1),.str V.2.2.2.2.2.2.2.2.2.2.2.1],b])=
   some (t,(s.1,s.2.1,[],[],[],[],[],[],dm,[],s.2.2.2.2.2.2.2.2.2.2.1,s.2.2.2.2.2.2.2.2.2.2.2.1,[]),ok,()):=by
  intro t ok b hb
  subst hU
  obtain ⟨s1,s2,s3,s4,s5,s6,s7,s8,s9,s10,s11,⟨d1,d2,d3,d4⟩,s13⟩:=s
  rcases hb with rfl | ⟨rfl,rfl⟩ <;> rfl
 refine cP (t:=lg) (β:=zw) s.2.2.2.2.2.2.2.2.2.2.1.length (fun b i=>.h27 s8 b9 b (i:Int) (s,()) Z V) (fun b i=>b.length≤26000 * i) _ 1 ?_ ?_ s.2.2.2.2.2.2.2.2.2.2.1.length 0 [] 100000000 rfl (aK _) (by simp) (by omega)
 ·intro x i hi hI
  obtain ⟨hw,hcp⟩:=h.sets _ (bP hi)
  have hnm:=h.sh.sets.2 _ (bP hi)
  have g:getD s.2.2.2.2.2.2.2.2.2.2.1 (i:Int).toNat (zi gy)=s.2.2.2.2.2.2.2.2.2.2.1[i]:=zX _ _ hi
  generalize s.2.2.2.2.2.2.2.2.2.2.1[i]=v at g hw hcp hnm
  have e:(¬ (bj v.1=true∧cM v.2=true)∧∃ r,(lg (.h27 s8 b9 x (i:Int) (s,()) Z V)).val=some (.inr r)∧qI r)∨∃ x':zw,x'.length≤x.length+26000∧(lg (.h27 s8 b9 x (i:Int) (s,()) Z V)).val=some (.inl (.h27 s8 b9 x' ((i+1:Nat):Int) (s,()) Z V)):=by
   show (_∧∃ r,(lg (.h27 _ _ _ _ _ _ _)).val=_∧_)∨∃ x':zw,_∧(lg (.h27 _ _ _ _ _ _ _)).val=_
   simp only [lg,Tr.val,g,zn,zM hi,zB hi,bm (s:=v.1) (by omega),lM hw,pu hw,if_true,dt]
   have hg:(bif !bj v.1 then true else true)=true:=by cases bj v.1 <;> rfl
   rw [hg]
   by_cases m:bj v.1=true∧cM v.2=true
   ·obtain ⟨m1,m2⟩:=m
    obtain ⟨t1,t2,t3⟩:=Hq hw m2
    refine .inr ⟨(if (i:Int) > 0 then x++[32,44,32] else x)++(v.1++[32,61,32]++aL 16 v.2),by split <;> simp <;> omega,?_⟩
    simp only [m1,m2,t1,t2,if_true,ck,aq,zV,if_false]
    rw [zt i (by unfold zA; omega)]
    by_cases h0:(i:Int) > 0
    ·rw [if_pos (zu h0),if_pos h0,if_pos (zu (by simp; omega)),if_pos (zu (by simp; omega)),if_pos (zu (by simp; omega)),if_pos (zu (by simp; omega))]
    ·rw [if_neg (by simpa using h0),if_neg h0,if_pos (zu (by simp; omega)),if_pos (zu (by simp; omega)),if_pos (zu (by simp; omega))]
   ·refine .inl ⟨m,?_⟩
    have hc:(bif !bj v.1 then true else !cM v.2)=true:=by
     cases h1:bj v.1
     ·rfl
     ·cases h2:cM v.2
      ·rfl
      ·exact absurd ⟨h1,h2⟩ m
    rw [if_pos rfl,if_pos hc]
    exact ⟨_,rfl,sy [] _ false (own [] false _ (.inr ⟨rfl,rfl⟩)) (by simp) hcmp⟩
  rcases e with ⟨_,r,e1,e2⟩ | ⟨x',e1,e2⟩
  ·exact .inr ⟨r,e1,e2⟩
  ·exact .inl ⟨x',by omega,e2⟩
 ·intro x n hI hn
  obtain ⟨n,rfl⟩:∃ k,n=k+1:=⟨n - 1,by omega⟩
  have e:∃ b ok,(lg (.h27 s8 b9 x (s.2.2.2.2.2.2.2.2.2.2.1.length:Int) (s,()) Z V)).val=
    some (.inr (.tup [.str ([85,80,68,65,84,69,32]++s.2.1++[32,83,69,84,32]++x++s8),.agg [.str V.1,.str V.2.1,.str V.2.2.1,.nils,.nils,.str V.2.2.2.1,.nils,.nils,.str V.2.2.2.2.1,.int .i64 V.2.2.2.2.2.1,.int .i64 V.2.2.2.2.2.2.1,.str V.2.2.2.2.2.2.2.1,.str V.2.2.2.2.2.2.2.2.1,.nils,.nils,
   .sl (Sh.str.pr Sh.expr) V.2.2.2.2.2.2.2.2.2.1,.str (ze.op V.2.2.2.2.2.2.2.2.2.2.1),.int .i64 (ze.v V.2.2.2.2.2.2.2.2.2.2.1).1,.int .i64 (ze.v V.2.2.2.2.2.2.2.2.2.2.1).2.1,.str (ze.v V.2.2.2.2.2.2.2.2.2.2.1).2.2,.str (ze.s V.2.2.2.2.2.2.2.2.2.2.1),.sl Sh.expr (ze.l V.2.2.2.2.2.2.2.2.2.2.1),.str V.2.2.2.2.2.2.2.2.2.2.2.1],b],[]))∧(b=.bool ok∨(b=.kb false∧ok=false)):=by
   show ∃ b ok,(lg (.h27 _ _ _ _ _ _ _)).val=_∧_
   simp only [lg,Tr.val,zH]
   rw [if_neg (by simp),if_pos (zu (by simp; omega)),if_pos (zu (by simp; omega)),if_pos (zu (by simp; omega)),if_pos (zu (by simp; omega))]
   split
   ·split
    ·exact ⟨_,_,rfl,.inl rfl⟩
    ·exact ⟨_,false,rfl,.inr ⟨rfl,rfl⟩⟩
   ·exact ⟨_,false,rfl,.inr ⟨rfl,rfl⟩⟩
  obtain ⟨b,ok,e,hb⟩:=e
  rw [cx,e]
  exact ⟨_,rfl,sy _ _ ok (own _ ok b hb) (by simp; omega) hcmp⟩

theorem MO {s:Sem zk} (h:nm s) (o:s.1=[99,114,101,97,116,101]):∃ r,(gm s).val=some (.inr r)∧qI r:=by
 obtain ⟨c1,c2,c3⟩:=aZ h.chk h.cchk (w:=[]) (by simp)
 obtain ⟨d1,d2,d3⟩:=aZ h.whr h.cwhr (w:=[87,72,69,82,69]) (by simp)
 have ht:=h.sh.table
 have hr:=h.sh.role
 have ho:=h.sh.other
 have hk:=h.sh.key
 have q0:(s.1==[99,114,101,97,116,101])=true:=by rw [o]; rfl
 simp only [gm,Tr.val,zn,c1,d1,q0,if_true]
 obtain ⟨e1,e2⟩:=Jj h
 have es:pA (s.1,s.2.1,s.2.2.1,s.2.2.2.1,s.2.2.2.2.1,s.2.2.2.2.2.1,s.2.2.2.2.2.2.1,s.2.2.2.2.2.2.2.1,s.2.2.2.2.2.2.2.2.1,s.2.2.2.2.2.2.2.2.2.1,s.2.2.2.2.2.2.2.2.2.2.1,s.2.2.2.2.2.2.2.2.2.2.2.1,s.2.2.2.2.2.2.2.2.2.2.2.2)=true:=e1
 rw [if_pos es]
 refine ⟨_,rfl,sy (ou s).1 (s.1,s.2.1,[],[],s.2.2.2.2.1,s.2.2.2.2.2.1,s.2.2.2.2.2.2.1,s.2.2.2.2.2.2.2.1,s.2.2.2.2.2.2.2.2.1,[],[],dm,[]) (ou s).2 ?_ (by omega) (dT h (.inr rfl) (.inl rfl) (.inl rfl) (.inl rfl) (.inl rfl) (.inr rfl) (.inr rfl) (.inr rfl))⟩
 obtain ⟨s1,s2,s3,s4,s5,s6,s7,s8,⟨f1,f2,f3,f4⟩,s10,s11,⟨g1,g2,g3,g4⟩,s13⟩:=s
 rfl

theorem S1 {s:Sem zk} (h:nm s) (o:s.1=[100,114,111,112]):∃ r,(gm s).val=some (.inr r)∧qI r:=by
 obtain ⟨c1,c2,c3⟩:=aZ h.chk h.cchk (w:=[]) (by simp)
 obtain ⟨d1,d2,d3⟩:=aZ h.whr h.cwhr (w:=[87,72,69,82,69]) (by simp)
 have ht:=h.sh.table
 have hr:=h.sh.role
 have ho:=h.sh.other
 have hk:=h.sh.key
 have q0:(s.1==[99,114,101,97,116,101])=false:=by rw [o]; rfl
 have q1:(s.1==[100,114,111,112])=true:=by rw [o]; rfl
 simp only [gm,Tr.val,zn,c1,d1,q0,q1,if_true,zV,if_false]
 rw [if_pos (zu (by simp; omega))]
 exact ⟨_,rfl,sy _ (s.1,s.2.1,[],[],[],[],[],[],dm,[],[],dm,[]) true rfl (by simp; omega) (dT h (.inr rfl) (.inr rfl) (.inr rfl) (.inr rfl) (.inr rfl) (.inr rfl) (.inr rfl) (.inr rfl))⟩

theorem MP {s:Sem zk} (h:nm s) (o:s.1=[100,101,108,101,116,101]):∃ r,(gm s).val=some (.inr r)∧qI r:=by
 obtain ⟨c1,c2,c3⟩:=aZ h.chk h.cchk (w:=[]) (by simp)
 obtain ⟨d1,d2,d3⟩:=aZ h.whr h.cwhr (w:=[87,72,69,82,69]) (by simp)
 have ht:=h.sh.table
 have hr:=h.sh.role
 have ho:=h.sh.other
 have hk:=h.sh.key
 have q0:(s.1==[99,114,101,97,116,101])=false:=by rw [o]; rfl
 have q1:(s.1==[100,114,111,112])=false:=by rw [o]; rfl
 have q2:(s.1==[105,110,115,101,114,116])=false:=by rw [o]; rfl
 have q3:(s.1==[117,112,100,97,116,101])=false:=by rw [o]; rfl
 have q4:(s.1==[100,101,108,101,116,101])=true:=by rw [o]; rfl
 simp only [gm,Tr.val,zn,c1,d1,q0,q1,q2,q3,q4,if_true,zV,if_false]
 rw [d2,if_pos (zu (by simp; omega)),if_pos (zu (by simp; omega))]
 refine ⟨_,rfl,sy ([68,69,76,69,84,69,32,70,82,79,77,32]++s.2.1++nD [87,72,69,82,69] s.2.2.2.2.2.2.2.2.2.2.2.1) (s.1,s.2.1,[],[],[],[],[],[],dm,[],[],s.2.2.2.2.2.2.2.2.2.2.2.1,[]) (bw s.2.2.2.2.2.2.2.2.2.2.2.1) ?_ ?_ (dT h (.inr rfl) (.inr rfl) (.inr rfl) (.inr rfl) (.inr rfl) (.inr rfl) (.inr rfl) (.inl rfl))⟩
 rotate_left 2
 ·obtain ⟨s1,s2,s3,s4,s5,s6,s7,s8,⟨f1,f2,f3,f4⟩,s10,s11,⟨g1,g2,g3,g4⟩,s13⟩:=s
  rfl
 ·simp; omega

theorem MR {s:Sem zk} (h:nm s) (o:s.1=[115,101,108,101,99,116]):∃ r,(gm s).val=some (.inr r)∧qI r:=by
 obtain ⟨c1,c2,c3⟩:=aZ h.chk h.cchk (w:=[]) (by simp)
 obtain ⟨d1,d2,d3⟩:=aZ h.whr h.cwhr (w:=[87,72,69,82,69]) (by simp)
 have ht:=h.sh.table
 have hr:=h.sh.role
 have ho:=h.sh.other
 have hk:=h.sh.key
 have q0:(s.1==[99,114,101,97,116,101])=false:=by rw [o]; rfl
 have q1:(s.1==[100,114,111,112])=false:=by rw [o]; rfl
 have q2:(s.1==[105,110,115,101,114,116])=false:=by rw [o]; rfl
 have q3:(s.1==[117,112,100,97,116,101])=false:=by rw [o]; rfl
 have q4:(s.1==[100,101,108,101,116,101])=false:=by rw [o]; rfl
 have q5:(s.1==[115,101,108,101,99,116])=true:=by rw [o]; rfl
 simp only [gm,Tr.val,zn,c1,d1,q0,q1,q2,q3,q4,q5,if_true,zV,if_false]
 rw [d2,if_pos (zu (by simp; omega)),if_pos (zu (by simp; omega))]
 refine ⟨_,rfl,sy ([83,69,76,69,67,84,32,42,32,70,82,79,77,32]++s.2.1++nD [87,72,69,82,69] s.2.2.2.2.2.2.2.2.2.2.2.1) (s.1,s.2.1,[],[],[],[],[],[],dm,[],[],s.2.2.2.2.2.2.2.2.2.2.2.1,[]) (bw s.2.2.2.2.2.2.2.2.2.2.2.1) ?_ ?_ (dT h (.inr rfl) (.inr rfl) (.inr rfl) (.inr rfl) (.inr rfl) (.inr rfl) (.inr rfl) (.inl rfl))⟩
 rotate_left 2
 ·obtain ⟨s1,s2,s3,s4,s5,s6,s7,s8,⟨f1,f2,f3,f4⟩,s10,s11,⟨g1,g2,g3,g4⟩,s13⟩:=s
  rfl
 ·simp; omega

theorem S3 {s:Sem zk} (h:nm s) (o:s.1=[114,101,97,100]):∃ r,(gm s).val=some (.inr r)∧qI r:=by
 obtain ⟨c1,c2,c3⟩:=aZ h.chk h.cchk (w:=[]) (by simp)
 obtain ⟨d1,d2,d3⟩:=aZ h.whr h.cwhr (w:=[87,72,69,82,69]) (by simp)
 have ht:=h.sh.table
 have hr:=h.sh.role
 have ho:=h.sh.other
 have hk:=h.sh.key
 have q0:(s.1==[99,114,101,97,116,101])=false:=by rw [o]; rfl
 have q1:(s.1==[100,114,111,112])=false:=by rw [o]; rfl
 have q2:(s.1==[105,110,115,101,114,116])=false:=by rw [o]; rfl
 have q3:(s.1==[117,112,100,97,116,101])=false:=by rw [o]; rfl
 have q4:(s.1==[100,101,108,101,116,101])=false:=by rw [o]; rfl
 have q5:(s.1==[115,101,108,101,99,116])=false:=by rw [o]; rfl
 have q6:(s.1==[99,111,112,121])=false:=by rw [o]; rfl
 have q7:(s.1==[106,111,105,110])=false:=by rw [o]; rfl
 have q8:(s.1==[103,114,111,117,112])=false:=by rw [o]; rfl
 have q9:(s.1==[114,101,97,100])=true:=by rw [o]; rfl
 simp only [gm,Tr.val,zn,c1,d1,q0,q1,q2,q3,q4,q5,q6,q7,q8,q9,if_true,zV,if_false]
 rw [if_pos (zu (by simp; omega)),if_pos (zu (by simp; omega)),if_pos (zu (by simp; omega)),if_pos (bm (s:=s.2.2.2.2.2.2.2.2.2.2.2.2) (by omega))]
 exact ⟨_,rfl,sy _ (s.1,s.2.1,[],[],[],[],[],[],dm,[],[],dm,s.2.2.2.2.2.2.2.2.2.2.2.2) (bj s.2.2.2.2.2.2.2.2.2.2.2.2) rfl (by simp; omega) (dT h (.inr rfl) (.inr rfl) (.inr rfl) (.inr rfl) (.inr rfl) (.inr rfl) (.inr rfl) (.inr rfl))⟩

theorem QA {s:Sem zk} (h:nm s) (o:s.1=[119,114,105,116,101]):∃ r,(gm s).val=some (.inr r)∧qI r:=by
 obtain ⟨c1,c2,c3⟩:=aZ h.chk h.cchk (w:=[]) (by simp)
 obtain ⟨d1,d2,d3⟩:=aZ h.whr h.cwhr (w:=[87,72,69,82,69]) (by simp)
 have ht:=h.sh.table
 have hr:=h.sh.role
 have ho:=h.sh.other
 have hk:=h.sh.key
 have q0:(s.1==[99,114,101,97,116,101])=false:=by rw [o]; rfl
 have q1:(s.1==[100,114,111,112])=false:=by rw [o]; rfl
 have q2:(s.1==[105,110,115,101,114,116])=false:=by rw [o]; rfl
 have q3:(s.1==[117,112,100,97,116,101])=false:=by rw [o]; rfl
 have q4:(s.1==[100,101,108,101,116,101])=false:=by rw [o]; rfl
 have q5:(s.1==[115,101,108,101,99,116])=false:=by rw [o]; rfl
 have q6:(s.1==[99,111,112,121])=false:=by rw [o]; rfl
 have q7:(s.1==[106,111,105,110])=false:=by rw [o]; rfl
 have q8:(s.1==[103,114,111,117,112])=false:=by rw [o]; rfl
 have q9:(s.1==[114,101,97,100])=false:=by rw [o]; rfl
 have q10:(s.1==[119,114,105,116,101])=true:=by rw [o]; rfl
 simp only [gm,Tr.val,zn,c1,d1,q0,q1,q2,q3,q4,q5,q6,q7,q8,q9,q10,if_true,zV,if_false]
 rw [if_pos (zu (by simp; omega)),if_pos (zu (by simp; omega)),if_pos (zu (by simp; omega)),if_pos (bm (s:=s.2.2.2.2.2.2.2.2.2.2.2.2) (by omega))]
 exact ⟨_,rfl,sy _ (s.1,s.2.1,[],[],[],[],[],[],dm,[],[],dm,s.2.2.2.2.2.2.2.2.2.2.2.2) (bj s.2.2.2.2.2.2.2.2.2.2.2.2) rfl (by simp; omega) (dT h (.inr rfl) (.inr rfl) (.inr rfl) (.inr rfl) (.inr rfl) (.inr rfl) (.inr rfl) (.inr rfl))⟩

theorem MS {s:Sem zk} (h:nm s) (o:s.1=[117,110,114,101,97,100]):∃ r,(gm s).val=some (.inr r)∧qI r:=by
 obtain ⟨c1,c2,c3⟩:=aZ h.chk h.cchk (w:=[]) (by simp)
 obtain ⟨d1,d2,d3⟩:=aZ h.whr h.cwhr (w:=[87,72,69,82,69]) (by simp)
 have ht:=h.sh.table
 have hr:=h.sh.role
 have ho:=h.sh.other
 have hk:=h.sh.key
 have q0:(s.1==[99,114,101,97,116,101])=false:=by rw [o]; rfl
 have q1:(s.1==[100,114,111,112])=false:=by rw [o]; rfl
 have q2:(s.1==[105,110,115,101,114,116])=false:=by rw [o]; rfl
 have q3:(s.1==[117,112,100,97,116,101])=false:=by rw [o]; rfl
 have q4:(s.1==[100,101,108,101,116,101])=false:=by rw [o]; rfl
 have q5:(s.1==[115,101,108,101,99,116])=false:=by rw [o]; rfl
 have q6:(s.1==[99,111,112,121])=false:=by rw [o]; rfl
 have q7:(s.1==[106,111,105,110])=false:=by rw [o]; rfl
 have q8:(s.1==[103,114,111,117,112])=false:=by rw [o]; rfl
 have q9:(s.1==[114,101,97,100])=false:=by rw [o]; rfl
 have q10:(s.1==[119,114,105,116,101])=false:=by rw [o]; rfl
 have q11:(s.1==[117,110,114,101,97,100])=true:=by rw [o]; rfl
 simp only [gm,Tr.val,zn,c1,d1,q0,q1,q2,q3,q4,q5,q6,q7,q8,q9,q10,q11,if_true,zV,if_false]
 rw [if_pos (zu (by simp; omega)),if_pos (zu (by simp; omega)),if_pos (zu (by simp; omega)),if_pos (bm (s:=s.2.2.2.2.2.2.2.2.2.2.2.2) (by omega))]
 exact ⟨_,rfl,sy _ (s.1,s.2.1,[],[],[],[],[],[],dm,[],[],dm,s.2.2.2.2.2.2.2.2.2.2.2.2) (bj s.2.2.2.2.2.2.2.2.2.2.2.2) rfl (by simp; omega) (dT h (.inr rfl) (.inr rfl) (.inr rfl) (.inr rfl) (.inr rfl) (.inr rfl) (.inr rfl) (.inr rfl))⟩

theorem JN {s:Sem zk} (h:nm s) (o:s.1=[117,110,119,114,105,116,101]):∃ r,(gm s).val=some (.inr r)∧qI r:=by
 obtain ⟨c1,c2,c3⟩:=aZ h.chk h.cchk (w:=[]) (by simp)
 obtain ⟨d1,d2,d3⟩:=aZ h.whr h.cwhr (w:=[87,72,69,82,69]) (by simp)
 have ht:=h.sh.table
 have hr:=h.sh.role
 have ho:=h.sh.other
 have hk:=h.sh.key
 have q0:(s.1==[99,114,101,97,116,101])=false:=by rw [o]; rfl
 have q1:(s.1==[100,114,111,112])=false:=by rw [o]; rfl
 have q2:(s.1==[105,110,115,101,114,116])=false:=by rw [o]; rfl
 have q3:(s.1==[117,112,100,97,116,101])=false:=by rw [o]; rfl
 have q4:(s.1==[100,101,108,101,116,101])=false:=by rw [o]; rfl
 have q5:(s.1==[115,101,108,101,99,116])=false:=by rw [o]; rfl
 have q6:(s.1==[99,111,112,121])=false:=by rw [o]; rfl
 have q7:(s.1==[106,111,105,110])=false:=by rw [o]; rfl
 have q8:(s.1==[103,114,111,117,112])=false:=by rw [o]; rfl
 have q9:(s.1==[114,101,97,100])=false:=by rw [o]; rfl
 have q10:(s.1==[119,114,105,116,101])=false:=by rw [o]; rfl
 have q11:(s.1==[117,110,114,101,97,100])=false:=by rw [o]; rfl
 have q12:(s.1==[117,110,119,114,105,116,101])=true:=by rw [o]; rfl
 simp only [gm,Tr.val,zn,c1,d1,q0,q1,q2,q3,q4,q5,q6,q7,q8,q9,q10,q11,q12,if_true,zV,if_false]
 rw [if_pos (zu (by simp; omega)),if_pos (zu (by simp; omega)),if_pos (zu (by simp; omega)),if_pos (bm (s:=s.2.2.2.2.2.2.2.2.2.2.2.2) (by omega))]
 exact ⟨_,rfl,sy _ (s.1,s.2.1,[],[],[],[],[],[],dm,[],[],dm,s.2.2.2.2.2.2.2.2.2.2.2.2) (bj s.2.2.2.2.2.2.2.2.2.2.2.2) rfl (by simp; omega) (dT h (.inr rfl) (.inr rfl) (.inr rfl) (.inr rfl) (.inr rfl) (.inr rfl) (.inr rfl) (.inr rfl))⟩

theorem S2 {s:Sem zk} (h:nm s) (n0:s.1≠[99,114,101,97,116,101]) (n1:s.1≠[100,114,111,112]) (n2:s.1≠[105,110,115,101,114,116]) (n3:s.1≠[117,112,100,97,116,101]) (n4:s.1≠[100,101,108,101,116,101]) (n5:s.1≠[115,101,108,101,99,116]) (n6:s.1≠[99,111,112,121]) (n7:s.1≠[106,111,105,110]) (n8:s.1≠[103,114,111,117,112]) (n9:s.1≠[114,101,97,100]) (n10:s.1≠[119,114,105,116,101]) (n11:s.1≠[117,110,114,101,97,100]) (n12:s.1≠[117,110,119,114,105,116,101]):∃ r,(gm s).val=some (.inr r)∧qI r:=by
 obtain ⟨c1,c2,c3⟩:=aZ h.chk h.cchk (w:=[]) (by simp)
 obtain ⟨d1,d2,d3⟩:=aZ h.whr h.cwhr (w:=[87,72,69,82,69]) (by simp)
 have ht:=h.sh.table
 have hr:=h.sh.role
 have ho:=h.sh.other
 have hk:=h.sh.key
 have q0:(s.1==[99,114,101,97,116,101])=false:=bO.2 n0
 have q1:(s.1==[100,114,111,112])=false:=bO.2 n1
 have q2:(s.1==[105,110,115,101,114,116])=false:=bO.2 n2
 have q3:(s.1==[117,112,100,97,116,101])=false:=bO.2 n3
 have q4:(s.1==[100,101,108,101,116,101])=false:=bO.2 n4
 have q5:(s.1==[115,101,108,101,99,116])=false:=bO.2 n5
 have q6:(s.1==[99,111,112,121])=false:=bO.2 n6
 have q7:(s.1==[106,111,105,110])=false:=bO.2 n7
 have q8:(s.1==[103,114,111,117,112])=false:=bO.2 n8
 have q9:(s.1==[114,101,97,100])=false:=bO.2 n9
 have q10:(s.1==[119,114,105,116,101])=false:=bO.2 n10
 have q11:(s.1==[117,110,114,101,97,100])=false:=bO.2 n11
 have q12:(s.1==[117,110,119,114,105,116,101])=false:=bO.2 n12
 simp only [gm,Tr.val,zn,c1,d1,q0,q1,q2,q3,q4,q5,q6,q7,q8,q9,q10,q11,q12,if_true,zV,if_false]
 exact ⟨_,rfl,sy _ (s.1,s.2.1,[],[],[],[],[],[],dm,[],[],dm,[]) false rfl (by simp) (dT h (.inr rfl) (.inr rfl) (.inr rfl) (.inr rfl) (.inr rfl) (.inr rfl) (.inr rfl) (.inr rfl))⟩

def JL (s:Sem zk):zw:=[77,73,71,82,65,84,69,32,67,79,80,89,32]++s.2.1++[32,70,82,79,77,32]++s.2.2.1++[32,40,32]++Lib.join s.2.2.2.1 [32,44,32]++[32,41]++nD [] s.2.2.2.2.2.2.2.2.1
def j5 (s:Sem zk):Bool:=(decide (∀ x∈s.2.2.2.1,zJ x=true)&&(decide (1≤s.2.2.2.1.length)&&decide (s.2.2.2.1.length≤8)))&&(bw s.2.2.2.2.2.2.2.2.1&&zJ s.2.2.1)
theorem Lp {s:Sem zk} (h:nm s) (o:s.1=[99,111,112,121]):∃ t,dd s=some (t,(s.1,s.2.1,s.2.2.1,s.2.2.2.1,[],[],[],[],s.2.2.2.2.2.2.2.2.1,[],[],dm,[]),j5 s,())∧t.length≤900000∧(j5 s=true→t=JL s):=by
 obtain ⟨c1,c2,c3⟩:=aZ h.chk h.cchk (w:=[]) (by simp)
 obtain ⟨d1,d2,d3⟩:=aZ h.whr h.cwhr (w:=[87,72,69,82,69]) (by simp)
 have ht:=h.sh.table
 have hr:=h.sh.role
 have ho:=h.sh.other
 have hk:=h.sh.key
 obtain ⟨q0,q1,q2,q3,q4,q5,_,_,_,_,q6⟩:=SG o
 obtain ⟨t,n1,n2,n3⟩:=Jq (l:=s.2.2.2.1) (by have:=h.sh.names.1; omega) h.sh.names.2
 have n4:AE s.2.2.2.1=true:=by unfold AE; rw [n1]; rfl
 have n5:EX s.2.2.2.1=(t,(decide (∀ x∈s.2.2.2.1,zJ x=true)&&(decide (1≤s.2.2.2.1.length)&&decide (s.2.2.2.1.length≤8)))):=by unfold EX; rw [n1]; rfl
 have w1:=bm (s:=s.2.2.1) (by omega)
 have w2:=eA (s:=s.2.2.1) (by omega)
 refine ⟨[77,73,71,82,65,84,69,32,67,79,80,89,32]++s.2.1++[32,70,82,79,77,32]++s.2.2.1++[32,40,32]++t++[32,41]++nD [] s.2.2.2.2.2.2.2.2.1,?_,by simp; omega,?_⟩
 ·have hv:∃ b,(gm s).val=some (.inr (.tup [.str ([77,73,71,82,65,84,69,32,67,79,80,89,32]++s.2.1++[32,70,82,79,77,32]++s.2.2.1++[32,40,32]++t++[32,41]++nD [] s.2.2.2.2.2.2.2.2.1),.agg [.str s.1,.str s.2.1,.str s.2.2.1,.sl Sh.str s.2.2.2.1,.nils,.str [],.nils,.nils,.str (ze.op s.2.2.2.2.2.2.2.2.1),.int .i64 (ze.v s.2.2.2.2.2.2.2.2.1).1,.int .i64 (ze.v s.2.2.2.2.2.2.2.2.1).2.1,.str (ze.v s.2.2.2.2.2.2.2.2.1).2.2,.str (ze.s s.2.2.2.2.2.2.2.2.1),
    .sl Sh.expr (ze.l s.2.2.2.2.2.2.2.2.1),.nils,.nils,.str [],.int .i64 0,.int .i64 0,.str [],.str [],.nils,.str []],b],[]))∧(b=.bool (j5 s)∨(b=.kb false∧j5 s=false)):=by
   unfold j5
   simp only [gm,Tr.val,zn,c1,d1,q0,q1,q2,q3,q4,q5,q6,n4,n5,c2,w1,w2,if_true,zV,if_false]
   iterate 7 rw [if_pos (zu (by simp; omega))]
   generalize (decide (∀ x∈s.2.2.2.1,zJ x=true)&&(decide (1≤s.2.2.2.1.length)&&decide (s.2.2.2.1.length≤8)))=b1
   generalize bw s.2.2.2.2.2.2.2.2.1=b2
   cases b1
   ·exact ⟨_,rfl,.inr ⟨rfl,rfl⟩⟩
   ·cases b2
    ·exact ⟨_,rfl,.inr ⟨rfl,rfl⟩⟩
    ·exact ⟨_,rfl,.inl rfl⟩
  obtain ⟨b,hv,hb⟩:=hv
  refine zY hv ?_
  clear hv
  obtain ⟨s1,s2,s3,s4,s5,s6,s7,s8,⟨f1,f2,f3,f4⟩,s10,s11,⟨g1,g2,g3,g4⟩,s13⟩:=s
  rcases hb with rfl | ⟨rfl,hb⟩
  ·rfl
  ·rw [hb]; rfl
 ·intro hk
  have hall:∀ x∈s.2.2.2.1,zJ x=true:=by
   unfold j5 at hk
   simp only [aV,aN] at hk
   exact hk.1.1
  rw [n3 hall]
  rfl

def oK (s:Sem zk):zw:=[77,73,71,82,65,84,69,32,74,79,73,78,32]++s.2.1++[32,70,82,79,77,32]++s.2.2.1++[32,44,32]++s.2.2.2.2.2.2.2.2.2.2.2.2++[32,79,78,32]++s.2.2.2.2.2.1++nD [] s.2.2.2.2.2.2.2.2.1
def mD (s:Sem zk):Bool:=bw s.2.2.2.2.2.2.2.2.1&&(zJ s.2.2.1&&(zJ s.2.2.2.2.2.2.2.2.2.2.2.2&&zJ s.2.2.2.2.2.1))
theorem Lq {s:Sem zk} (h:nm s) (o:s.1=[106,111,105,110]):dd s=some (oK s,(s.1,s.2.1,s.2.2.1,[],[],s.2.2.2.2.2.1,[],[],s.2.2.2.2.2.2.2.2.1,[],[],dm,s.2.2.2.2.2.2.2.2.2.2.2.2),mD s,())∧(oK s).length≤900000:=by
 obtain ⟨c1,c2,c3⟩:=aZ h.chk h.cchk (w:=[]) (by simp)
 obtain ⟨d1,d2,d3⟩:=aZ h.whr h.cwhr (w:=[87,72,69,82,69]) (by simp)
 have ht:=h.sh.table
 have hr:=h.sh.role
 have ho:=h.sh.other
 have hk:=h.sh.key
 obtain ⟨q0,q1,q2,q3,q4,q5,_,_,_,_,q6,q7⟩:=SH o
 have w1:=bm (s:=s.2.2.1) (by omega)
 have w2:=eA (s:=s.2.2.1) (by omega)
 have w3:=bm (s:=s.2.2.2.2.2.2.2.2.2.2.2.2) (by omega)
 have w4:=eA (s:=s.2.2.2.2.2.2.2.2.2.2.2.2) (by omega)
 have w5:=bm (s:=s.2.2.2.2.2.1) (by omega)
 have w6:=eA (s:=s.2.2.2.2.2.1) (by omega)
 refine ⟨?_,by unfold oK; simp; omega⟩
 have hv:∃ b,(gm s).val=some (.inr (.tup [.str (oK s),.agg [.str s.1,.str s.2.1,.str s.2.2.1,.nils,.nils,.str s.2.2.2.2.2.1,.nils,.nils,.str (ze.op s.2.2.2.2.2.2.2.2.1),.int .i64 (ze.v s.2.2.2.2.2.2.2.2.1).1,.int .i64 (ze.v s.2.2.2.2.2.2.2.2.1).2.1,.str (ze.v s.2.2.2.2.2.2.2.2.1).2.2,.str (ze.s s.2.2.2.2.2.2.2.2.1),
    .sl Sh.expr (ze.l s.2.2.2.2.2.2.2.2.1),.nils,.nils,.str [],.int .i64 0,.int .i64 0,.str [],.str [],.nils,.str s.2.2.2.2.2.2.2.2.2.2.2.2],b],[]))∧(b=.bool (mD s)∨(b=.kb false∧mD s=false)):=by
  unfold mD oK
  simp only [gm,Tr.val,zn,c1,d1,q0,q1,q2,q3,q4,q5,q6,q7,c2,w1,w2,w3,w4,w5,w6,if_true,zV,if_false]
  iterate 8 rw [if_pos (zu (by simp; omega))]
  generalize bw s.2.2.2.2.2.2.2.2.1=b1
  generalize zJ s.2.2.1=b2
  generalize zJ s.2.2.2.2.2.2.2.2.2.2.2.2=b3
  cases b1
  ·exact ⟨_,rfl,.inr ⟨rfl,rfl⟩⟩
  ·cases b2
   ·exact ⟨_,rfl,.inr ⟨rfl,rfl⟩⟩
   ·cases b3
    ·exact ⟨_,rfl,.inr ⟨rfl,rfl⟩⟩
    ·exact ⟨_,rfl,.inl rfl⟩
 obtain ⟨b,hv,hb⟩:=hv
 refine zY hv ?_
 clear hv
 generalize oK s=tx
 obtain ⟨s1,s2,s3,s4,s5,s6,s7,s8,⟨f1,f2,f3,f4⟩,s10,s11,⟨g1,g2,g3,g4⟩,s13⟩:=s
 rcases hb with rfl | ⟨rfl,hb⟩
 ·rfl
 ·rw [hb]; rfl

def kR (s:Sem zk):zw:=[77,73,71,82,65,84,69,32,71,82,79,85,80,32]++s.2.1++[32,70,82,79,77,32]++s.2.2.1++[32,66,89,32]++s.2.2.2.1.getD 0 []++[32,83,85,77,32]++s.2.2.2.1.getD 1 []++nD [] s.2.2.2.2.2.2.2.2.1
def f6 (s:Sem zk):Bool:=decide (s.2.2.2.1.length=2)&&(bw s.2.2.2.2.2.2.2.2.1&&(zJ s.2.2.1&&(zJ (s.2.2.2.1.getD 0 [])&&zJ (s.2.2.2.1.getD 1 []))))
theorem H3 {s:Sem zk} (h:nm s) (o:s.1=[103,114,111,117,112]):∃ t,dd s=some (t,(s.1,s.2.1,s.2.2.1,s.2.2.2.1,[],[],[],[],s.2.2.2.2.2.2.2.2.1,[],[],dm,[]),f6 s,())∧t.length≤900000∧(f6 s=true→t=kR s):=by
 obtain ⟨c1,c2,c3⟩:=aZ h.chk h.cchk (w:=[]) (by simp)
 obtain ⟨d1,d2,d3⟩:=aZ h.whr h.cwhr (w:=[87,72,69,82,69]) (by simp)
 have ht:=h.sh.table
 have hr:=h.sh.role
 have ho:=h.sh.other
 have hk:=h.sh.key
 obtain ⟨q0,q1,q2,q3,q4,q5,_,_,_,_,q6,q7,q8⟩:=PI o
 have w1:=bm (s:=s.2.2.1) (by omega)
 have w2:=eA (s:=s.2.2.1) (by omega)
 by_cases hlen:s.2.2.2.1.length=2
 ·have l0:((↑(length s.2.2.2.1):Int) != 2)=false:=by rw [hlen]; rfl
  have n0:(s.2.2.2.1.getD 0 []).length≤1000:=by
   rw [aP,zP (by omega),cX]
   exact h.sh.names.2 _ (bP _)
  have n1:(s.2.2.2.1.getD 1 []).length≤1000:=by
   rw [aP,zP (by omega),cX]
   exact h.sh.names.2 _ (bP _)
  have i0:zR 0 (length s.2.2.2.1)=true:=by rw [hlen]; rfl
  have i1:zR 1 (length s.2.2.2.1)=true:=by rw [hlen]; rfl
  have g0:getD s.2.2.2.1 (toNat 0) (zi Sh.str)=s.2.2.2.1.getD 0 []:=rfl
  have g1:getD s.2.2.2.1 (toNat 1) (zi Sh.str)=s.2.2.2.1.getD 1 []:=rfl
  have w3:=bm (s:=s.2.2.2.1.getD 0 []) (by omega)
  have w4:=eA (s:=s.2.2.2.1.getD 0 []) (by omega)
  have w5:=bm (s:=s.2.2.2.1.getD 1 []) (by omega)
  have w6:=eA (s:=s.2.2.2.1.getD 1 []) (by omega)
  refine ⟨kR s,?_,by unfold kR; simp at n0 n1 ⊢; omega,fun _=>rfl⟩
  have hv:∃ b,(gm s).val=some (.inr (.tup [.str (kR s),.agg [.str s.1,.str s.2.1,.str s.2.2.1,.sl Sh.str s.2.2.2.1,.nils,.str [],.nils,.nils,.str (ze.op s.2.2.2.2.2.2.2.2.1),.int .i64 (ze.v s.2.2.2.2.2.2.2.2.1).1,.int .i64 (ze.v s.2.2.2.2.2.2.2.2.1).2.1,.str (ze.v s.2.2.2.2.2.2.2.2.1).2.2,.str (ze.s s.2.2.2.2.2.2.2.2.1),
    .sl Sh.expr (ze.l s.2.2.2.2.2.2.2.2.1),.nils,.nils,.str [],.int .i64 0,.int .i64 0,.str [],.str [],.nils,.str []],b],[]))∧(b=.bool (f6 s)∨(b=.kb false∧f6 s=false)):=by
   unfold f6 kR
   rw [zu hlen]
   simp only [gm,Tr.val,zn,c1,d1,q0,q1,q2,q3,q4,q5,q6,q7,q8,c2,w1,w2,g0,g1,w3,w4,w5,w6,l0,i0,i1,if_true,zV,if_false]
   generalize s.2.2.2.1.getD 0 []=a0 at n0
   generalize s.2.2.2.1.getD 1 []=a1 at n1
   iterate 8 rw [if_pos (zu (by simp; omega))]
   generalize bw s.2.2.2.2.2.2.2.2.1=b1
   generalize zJ s.2.2.1=b2
   generalize zJ a0=b3
   cases b1
   ·exact ⟨_,rfl,.inr ⟨rfl,rfl⟩⟩
   ·cases b2
    ·exact ⟨_,rfl,.inr ⟨rfl,rfl⟩⟩
    ·cases b3
     ·exact ⟨_,rfl,.inr ⟨rfl,rfl⟩⟩
     ·exact ⟨_,rfl,.inl rfl⟩
  obtain ⟨b,hv,hb⟩:=hv
  refine zY hv ?_
  clear hv
  generalize kR s=tx
  clear n0 n1 i0 i1 g0 g1 w3 w4 w5 w6
  obtain ⟨s1,s2,s3,s4,s5,s6,s7,s8,⟨f1,f2,f3,f4⟩,s10,s11,⟨g1,g2,g3,g4⟩,s13⟩:=s
  rcases hb with rfl | ⟨rfl,hb⟩
  ·rfl
  ·rw [hb]; rfl
 ·have l0:((↑(length s.2.2.2.1):Int) != 2)=true:=by
   simp only [bne_iff_ne]
   omega
  have hok:f6 s=false:=by unfold f6; rw [ao hlen]; rfl
  refine ⟨[],?_,by simp,fun hh=>by rw [hok] at hh; cases hh⟩
  rw [hok]
  refine zY (r:=(.tup [.str [],.agg [.str s.1,.str s.2.1,.str s.2.2.1,.sl Sh.str s.2.2.2.1,.nils,.str [],.nils,.nils,.str (ze.op s.2.2.2.2.2.2.2.2.1),.int .i64 (ze.v s.2.2.2.2.2.2.2.2.1).1,.int .i64 (ze.v s.2.2.2.2.2.2.2.2.1).2.1,.str (ze.v s.2.2.2.2.2.2.2.2.1).2.2,.str (ze.s s.2.2.2.2.2.2.2.2.1),
    .sl Sh.expr (ze.l s.2.2.2.2.2.2.2.2.1),.nils,.nils,.str [],.int .i64 0,.int .i64 0,.str [],.str [],.nils,.str []],.kb false],[])) ?_ ?_
  ·simp only [gm,Tr.val,zn,c1,d1,q0,q1,q2,q3,q4,q5,q6,q7,q8,l0,if_true,zV,if_false]
  ·obtain ⟨s1,s2,s3,s4,s5,s6,s7,s8,⟨f1,f2,f3,f4⟩,s10,s11,⟨g1,g2,g3,g4⟩,s13⟩:=s
   rfl

theorem fC {s:Sem zk} (h:∃ r,(gm s).val=some (.inr r)∧qI r):LB (dd s):=by
 obtain ⟨r,h1,t,own,ok,h2,h3,h4⟩:=h
 exact zek h1 h2 h3 h4
theorem Bl {s:Sem zk} {st:xx} (h1:(gm s).val=some (.inl st)) (h2:∃ r,cI lg 100000000 st=some r∧qI r):LB (dd s):=by
 obtain ⟨r,h2,t,own,ok,h3,h4,h5⟩:=h2
 refine ⟨t,own,ok,?_,h4,h5⟩
 unfold dd aA cL
 rw [h1]
 show (cI lg 100000000 st).bind _=_
 rw [h2]
 exact h3
theorem MQ {s:Sem zk} (h:nm s) (o:s.1=[105,110,115,101,114,116]):LB (dd s):=by
 obtain ⟨c1,c2,c3⟩:=aZ h.chk h.cchk (w:=[]) (by simp)
 obtain ⟨d1,d2,d3⟩:=aZ h.whr h.cwhr (w:=[87,72,69,82,69]) (by simp)
 have ht:=h.sh.table
 have hr:=h.sh.role
 have ho:=h.sh.other
 have hk:=h.sh.key
 have q0:(s.1==[99,114,101,97,116,101])=false:=by rw [o]; rfl
 have q1:(s.1==[100,114,111,112])=false:=by rw [o]; rfl
 have q2:(s.1==[105,110,115,101,114,116])=true:=by rw [o]; rfl
 refine Bl ?_ (zgM h)
 simp only [gm,Tr.val,zn,c1,d1,q0,q1,q2,if_true,zV,if_false]
theorem MT {s:Sem zk} (h:nm s) (o:s.1=[117,112,100,97,116,101]):LB (dd s):=by
 obtain ⟨c1,c2,c3⟩:=aZ h.chk h.cchk (w:=[]) (by simp)
 obtain ⟨d1,d2,d3⟩:=aZ h.whr h.cwhr (w:=[87,72,69,82,69]) (by simp)
 have ht:=h.sh.table
 have hr:=h.sh.role
 have ho:=h.sh.other
 have hk:=h.sh.key
 have q0:(s.1==[99,114,101,97,116,101])=false:=by rw [o]; rfl
 have q1:(s.1==[100,114,111,112])=false:=by rw [o]; rfl
 have q2:(s.1==[105,110,115,101,114,116])=false:=by rw [o]; rfl
 have q3:(s.1==[117,112,100,97,116,101])=true:=by rw [o]; rfl
 refine Bl ?_ (zgN h (nD [87,72,69,82,69] s.2.2.2.2.2.2.2.2.2.2.2.1) (bw s.2.2.2.2.2.2.2.2.2.2.2.1) d3)
 simp only [gm,Tr.val,zn,c1,d1,d2,q0,q1,q2,q3,if_true,zV,if_false]

theorem Jr {s:Sem zk} (h:nm s):LB (dd s):=by
 by_cases n0:s.1=[99,114,101,97,116,101]
 ·exact fC (MO h n0)
 by_cases n1:s.1=[100,114,111,112]
 ·exact fC (S1 h n1)
 by_cases n2:s.1=[105,110,115,101,114,116]
 ·exact MQ h n2
 by_cases n3:s.1=[117,112,100,97,116,101]
 ·exact MT h n3
 by_cases n4:s.1=[100,101,108,101,116,101]
 ·exact fC (MP h n4)
 by_cases n5:s.1=[115,101,108,101,99,116]
 ·exact fC (MR h n5)
 by_cases n6:s.1=[99,111,112,121]
 ·obtain ⟨t,h1,h2,_⟩:=Lp h n6
  exact ⟨t,_,_,h1,h2,dT h (.inl rfl) (.inr rfl) (.inr rfl) (.inr rfl) (.inl rfl) (.inr rfl) (.inr rfl) (.inr rfl)⟩
 by_cases n7:s.1=[106,111,105,110]
 ·obtain ⟨h1,h2⟩:=Lq h n7
  exact ⟨_,_,_,h1,h2,dT h (.inr rfl) (.inr rfl) (.inr rfl) (.inr rfl) (.inl rfl) (.inr rfl) (.inr rfl) (.inr rfl)⟩
 by_cases n8:s.1=[103,114,111,117,112]
 ·obtain ⟨t,h1,h2,_⟩:=H3 h n8
  exact ⟨t,_,_,h1,h2,dT h (.inl rfl) (.inr rfl) (.inr rfl) (.inr rfl) (.inl rfl) (.inr rfl) (.inr rfl) (.inr rfl)⟩
 by_cases n9:s.1=[114,101,97,100]
 ·exact fC (S3 h n9)
 by_cases n10:s.1=[119,114,105,116,101]
 ·exact fC (QA h n10)
 by_cases n11:s.1=[117,110,114,101,97,100]
 ·exact fC (MS h n11)
 by_cases n12:s.1=[117,110,119,114,105,116,101]
 ·exact fC (JN h n12)
 exact fC (S2 h n0 n1 n2 n3 n4 n5 n6 n7 n8 n9 n10 n11 n12)

theorem UT (p:Int→Bool):∀ s:zw,cy p s=s.length↔∀ c∈s,p c.toNat=true
 | []=>by simp [cy]
 | c::r=>by
  have h1:=wC p r
  have h2:=UT p r
  rw [cy]
  by_cases h:p c.toNat=true
  ·rw [if_pos h]
   simp [h,h2]
  ·rw [if_neg h]
   simp [h]

theorem zgB (p:Int→Bool) (s:zw):aI p p s=s.length↔∀ c∈s,p c.toNat=true:=by
 cases s with
 | nil=>simp [aI]
 | cons c r=>
  have h1:=wC p r
  have h2:=UT p r
  rw [aI]
  by_cases h:p c.toNat=true
  ·rw [if_pos h]
   simp [h,h2]
  ·rw [if_neg h]
   simp [h]

theorem SS:∀ s:zw,(bif (↑(length s):Int)==1 then decide (0≤Lib.indexByte [40,41,44,61,60,43,45,42] (List.headD s 0)) else false)=
  (bif s==[40] then true else bif s==[41] then true else bif s==[44] then true else bif s==[61] then true else bif s==[60] then true else bif s==[43] then true else bif s==[45] then true else s==[42])
 | []=>rfl
 | a::b::r=>by
  have e:((((a::b::r).length:Nat):Int)==1)=false:=bO.2 (by simp; omega)
  rw [e]
  simp
 | [c]=>by
  by_cases h1:c=40
  ·subst h1; rfl
  by_cases h2:c=41
  ·subst h2; rfl
  by_cases h3:c=44
  ·subst h3; rfl
  by_cases h4:c=61
  ·subst h4; rfl
  by_cases h5:c=60
  ·subst h5; rfl
  by_cases h6:c=43
  ·subst h6; rfl
  by_cases h7:c=45
  ·subst h7; rfl
  by_cases h8:c=42
  ·subst h8; rfl
  simp [Lib.indexByte,h1,h2,h3,h4,h5,h6,h7,h8,Ne.symm h1,Ne.symm h2,Ne.symm h3,Ne.symm h4,Ne.symm h5,Ne.symm h6,Ne.symm h7,Ne.symm h8]

theorem HA {t:Sem bM} (hl:t.2.length≤1000000):EV t=some (bR t,()):=by
 obtain ⟨k,s⟩:=t
 have hl:s.length≤1000000:=hl
 by_cases k1:k=(1:Int)
 ·subst k1
  refine zY (r:=(.bool (dC s),[])) ?_ ?_
  ·simp only [GO,Tr.val,uU hl,Az hl]
   rfl
  ·rfl
 by_cases k2:k=(2:Int)
 ·subst k2
  have hi:(GO ((2,s):Sem bM)).val=some (.inl (.h6 ((0:Nat):Int) ((2,s),()))):=rfl
  have hf:=lm (t:=tM) (Φ:=fun r=>r=(.kb false,[])) 1 (fun i=>.h6 (i:Int) ((2,s),())) (fun i=>zO (getD s i 0).toNat=true) s.length (by
   intro i hi _
   have hv:(tM (.h6 (i:Int) ((2,s),()))).val=if (!zO (getD s i 0).toNat)=true then some (.inr (.kb false,[])) else some (.inl (.h6 ((i+1:Nat):Int) ((2,s),()))):=by
    show (tM (.h6 _ _)).val=_
    unfold tM
    simp only [Tr.val,zM hi,zB hi,bd,eh,fx,if_true]
    rw [zt i (by unfold zA; omega)]
   by_cases h:zO (getD s i 0).toNat=true
   ·exact .inl ⟨h,ap.of (by rw [hv,if_neg (by rw [h]; simp)])⟩
   ·exact .inr ⟨h,_,ah.of (by rw [hv,if_pos (by simpa using h)]),rfl⟩)
  have hq:=ar (l:=s) (d:=0) (Q:=fun c=>zO c.toNat=true)
  have hr:=zgB zO s
  have ht:bR ((2,s):Sem bM)=(bif decide ((↑(length s):Int) ≥ 1) then bif decide ((↑(length s):Int)≤19) then (↑(aI zO zO s):Int)==(↑(length s):Int) else false else false):=rfl
  rw [ht]
  rcases hf with ⟨h1,h2⟩ | ⟨h1,r,h2,rfl⟩
  ·have e:((↑(aI zO zO s):Int)==(↑(length s):Int))=true:=by rw [hr.2 (hq.1 h1)]; simp
   rw [e]
   refine zD hi (h2.ends (ah.of (r:=(.bool (bif decide (1≤(s.length:Int)) then decide ((s.length:Int)≤19) else false),[])) ?_)) (by omega) ?_
   ·show (tM (.h6 _ _)).val=_
    unfold tM
    simp only [Tr.val,zH]
    rfl
   ·show some _=some _
    rw [show decide ((↑(length s):Int) ≥ 1)=decide (1≤(s.length:Int)) from rfl]
    cases decide ((s.length:Int)≤19) <;> rfl
  ·have e:((↑(aI zO zO s):Int)==(↑(length s):Int))=false:=by
    rw [bO]
    intro h
    exact h1 (hq.2 (hr.1 (by omega)))
   rw [e]
   refine zD hi h2 (by omega) ?_
   show some _=some _
   cases decide ((↑(length s):Int) ≥ 1) <;> cases decide ((↑(length s):Int)≤19) <;> rfl
 by_cases k3:k=(3:Int)
 ·subst k3
  refine zY (r:=(.bool (ce (2,0,s)),[])) ?_ ?_
  ·simp only [GO,Tr.val,j9 (v:=(2,0,s)) hl,mH (v:=(2,0,s)) hl]
   rfl
  ·rfl
 by_cases k4:k=(4:Int)
 ·subst k4
  have hs:=SS s
  refine zY (r:=(.bool _,[])) rfl ?_
  show some _=some _
  rw [show bR ((4,s):Sem bM)=_ from hs]
 have b1:(k==1)=false:=bO.2 k1
 have b2:(k==2)=false:=bO.2 k2
 have b3:(k==3)=false:=bO.2 k3
 have b4:(k==4)=false:=bO.2 k4
 have c1:((1:Int)==k)=false:=bO.2 (Ne.symm k1)
 have c2:((2:Int)==k)=false:=bO.2 (Ne.symm k2)
 have ht:bR ((k,s):Sem bM)=false:=by
  unfold bR
  simp [b3,b4,c1,c2]
 rw [ht]
 refine zY (r:=(.kb false,[])) ?_ rfl
 simp only [GO,Tr.val,b1,b2,b3,b4]
 rfl
theorem te {t:Sem bM} (hl:t.2.length≤1000000):gS t=true:=by unfold gS; rw [HA hl]; rfl
theorem wU {t:Sem bM} (hl:t.2.length≤1000000):kO t=bR t:=by unfold kO; rw [HA hl]; rfl

abbrev qK:=Option (List (Sem zq))
abbrev oL (o:qK):List (Sem zq):=o.getD []
abbrev hd3 (s:zw) (i:Int):qK→dN
 | none=>.h3 s i
 | some l=>.h3b s i l
abbrev Ok (s:zw) (i c f:Int) (z:zo [CP.d zq]):qK→dN
 | none=>.h11 s i c f z
 | some l=>.h11b s i c f z l
abbrev Ol (s:zw) (i c f:Int) (z:zo [CP.d zq]):qK→dN
 | none=>.h15 s i c f z
 | some l=>.h15b s i c f z l
abbrev IJ (s:zw) (i:Int) (z:zo [CP.d zq]):qK→dN
 | none=>.h20 s i z
 | some l=>.h20b s i z l
abbrev YH:aF:=(.tup [.nils,.kb false],[])
def Nc (r:aF) (b:Bool):Prop:=∃ l,az r.2 [Sh.sl zq,Sh.bool] r.1=some (l,b,())
theorem P9:Nc YH false:=⟨[],rfl⟩
def Ib (s:zw) (j:Nat) (t:Sem bM) (o:qK):dN ⊕ aF:=if bR t=true then .inl (hd3 s (j:Int) (some (oL o++[t]))) else .inr YH

theorem iX (s:zw) {j:Nat} (h:j < s.length):List.take (((j+1:Nat):Int).toNat - (j:Int).toNat) (List.drop (j:Int).toNat s)=[s[j]]:=by
 rw [bd,bd,show j+1 - j=1 by omega,dF h]
 rfl

theorem v20 {s:zw} {j:Nat} {acc:zw} (hl:s.length≤1000000) (hj:j < s.length) (ha:acc.length≤1000000):∀ {o:qK},(oL o).length≤1000000→(cF (IJ s (j:Int) ((3,acc),()) o)).val=some (
  if s[j]≠39 then .inl (IJ s ((j+1:Nat):Int) ((3,acc++[s[j]]),()) o)
  else if s[j+1]?=some 39 then .inl (IJ s ((j+2:Nat):Int) ((3,acc++[39]),()) o)
  else Ib s (j+1) (3,acc) o):=by
 intro o ho
 have w1:IntKind.i64.wrap ((j:Int)+1)=((j+1:Nat):Int):=zt j (by unfold zA; omega)
 have w2:IntKind.i64.wrap (((j+1:Nat):Int)+1)=((j+2:Nat):Int):=zt (j+1) (by unfold zA; omega)
 have g1:(decide (0≤(j:Int))&&decide ((j:Int)≤((j+1:Nat):Int))&&decide (((j+1:Nat):Int)≤(↑(length s):Int)))=true:=by simp; omega
 have g2:decide ((↑(length s):Int)≤(j:Int))=false:=ao (by omega)
 have g3:decide ((j:Int) ≥ (↑(length s):Int))=false:=ao (by omega)
 have hM:kO ((3,acc):Sem zq)=bR ((3,acc):Sem bM):=wU (t:=((3,acc):Sem bM)) ha
 have hMC:gS ((3,acc):Sem zq)=true:=te (t:=((3,acc):Sem bM)) ha
 have hS:(acc.length+[s[j]].length≤1099511627776):=by simp; omega
 by_cases c1:s[j]=39
 ·have b1:((↑s[j].toNat:Int) != 39)=false:=by simp [bne,pW.2 c1]
  have b2:((↑s[j].toNat:Int)==39)=true:=pW.2 c1
  by_cases c2:s[j+1]?=some 39
  ·obtain ⟨hj1,c3⟩:=cn.1 c2
   have b3:((↑s[j+1].toNat:Int)==39)=true:=pW.2 c3
   have d1:decide (((j+1:Nat):Int) < (↑(length s):Int))=true:=zu (by omega)
   rw [if_neg (by simpa using c1),if_pos c2]
   cases o with
   | none=>
    show (cF (.h20 _ _ _)).val=_
    simp only [cF,w1,w2,bQ s hj,iX s hj,zM hj,zB hj,zB hj1,d1,b1,b2,b3,bQ s hj1,Tr.val,zU,aq,dt,if_true,g1,zu hS]
    rw [c1]
   | some l=>
    show (cF (.h20b _ _ _ _)).val=_
    simp only [cF,w1,w2,bQ s hj,iX s hj,zM hj,zB hj,zB hj1,d1,b1,b2,b3,bQ s hj1,Tr.val,zU,aq,dt,if_true,g1,zu hS]
    rw [c1]
  ·rw [if_neg (by simpa using c1),if_neg c2]
   have e:(bif decide (((j+1:Nat):Int) < (↑(length s):Int)) then (↑(getD s ((j+1:Nat):Int).toNat 0).toNat:Int)==39 else false)=false:=by
    by_cases hj1:j+1 < s.length
    ·rw [zu (by omega),bQ s hj1]
     simp only [zU]
     rw [← ji,pW]
     intro h
     exact c2 (cn.2 ⟨hj1,h⟩)
    ·rw [ao (by omega)]; rfl
   have e2:(bif decide (((j+1:Nat):Int) < (↑(length s):Int)) then zR ((j+1:Nat):Int) (length s) else true)=true:=by
    by_cases hj1:j+1 < s.length
    ·rw [zB hj1]; cases decide (((j+1:Nat):Int) < (↑(length s):Int)) <;> rfl
    ·rw [ao (by omega)]; rfl
   unfold Ib
   cases o with
   | none=>
    show (cF (.h20 _ _ _)).val=_
    simp only [cF,w1,w2,bQ s hj,iX s hj,zM hj,zB hj,b1,b2,e,e2,Tr.val,zU,aq,dt,if_true,zV,if_false,g3,hMC,hM]
    by_cases m:bR ((3,acc):Sem bM)=true
    ·simp [m]
    ·simp [m]
   | some l=>
    have hl2:(l.length+[((3,acc):Sem zq)].length≤1073741824):=by have:l.length≤1000000:=ho; simp; omega
    show (cF (.h20b _ _ _ _)).val=_
    simp only [cF,w1,w2,bQ s hj,iX s hj,zM hj,zB hj,b1,b2,e,e2,Tr.val,zU,aq,dt,if_true,zV,if_false,g3,hMC,hM,zu hl2]
    by_cases m:bR ((3,acc):Sem bM)=true
    ·simp [m]
    ·simp [m]
 ·have b1:((↑s[j].toNat:Int) != 39)=true:=by simp only [bne,Bool.not_eq_true']; rw [← ji,pW]; exact c1
  have b2:((↑s[j].toNat:Int)==39)=false:=by rw [← ji,pW]; exact c1
  rw [if_pos c1]
  cases o with
  | none=>
   show (cF (.h20 _ _ _)).val=_
   simp only [cF,w1,w2,bQ s hj,iX s hj,zM hj,zB hj,b1,b2,Tr.val,zU,dt,if_true,zV,if_false,g1,zu hS]
  | some l=>
   show (cF (.h20b _ _ _ _)).val=_
   simp only [cF,w1,w2,bQ s hj,iX s hj,zM hj,zB hj,b1,b2,Tr.val,zU,dt,if_true,zV,if_false,g1,zu hS]

theorem zgL {s:zw} {acc:zw}:∀ {o:qK},(cF (IJ s (s.length:Int) ((3,acc),()) o)).val=some (.inr YH):=by
 intro o
 have g3:decide ((↑(length s):Int) ≥ (↑(length s):Int))=true:=zu (Int.le_refl _)
 cases o with
 | none=>
  show (cF (.h20 _ _ _)).val=_
  simp only [cF,zH,Tr.val,aq,if_true,zV,if_false,g3]
 | some l=>
  show (cF (.h20b _ _ _ _)).val=_
  simp only [cF,zH,Tr.val,aq,if_true,zV,if_false,g3]

theorem l20 {s:zw} {o:qK} (hl:s.length≤1000000) (ho:(oL o).length≤1000000):∀ (n j:Nat) (acc:zw),s.length - j≤n→j≤s.length→acc.length≤j→
  (eB (s.drop j)=none→ah cF (n+1) (IJ s (j:Int) ((3,acc),()) o) YH)∧
  (∀ t k,eB (s.drop j)=some (t,k)→∀ K r,(match Ib s (j+k) (3,acc++t) o with | .inl h=>ah cF K h r | .inr r'=>r'=r)→ah cF (K+k) (IJ s (j:Int) ((3,acc),()) o) r)
 | n, j,acc,hn,hj,ha=>by
  by_cases hlt:j < s.length
  ·have hv:=v20 (o:=o) (acc:=acc) hl hlt (by omega) ho
   rw [dF hlt]
   by_cases c1:s[j]=39
   ·rw [if_neg (by simpa using c1)] at hv
    by_cases c2:s[j+1]?=some 39
    ·rw [if_pos c2] at hv
     obtain ⟨hj1,c3⟩:=cn.1 c2
     obtain ⟨n,rfl⟩:∃ m,n=m+1:=⟨n - 1,by omega⟩
     obtain ⟨i1,i2⟩:=l20 hl ho n (j+2) (acc++[39]) (by omega) (by omega) (by simp; omega)
     rw [dF hj1,c1,c3,HR,show j+1+1=j+2 from rfl]
     refine ⟨fun h=>?_,fun t k h K r hr=>?_⟩
     ·rw [Option.map_eq_none_iff] at h
      exact ((ap.of hv).ends (i1 h))
     ·rw [cW] at h
      obtain ⟨⟨t',k'⟩,h1,h2⟩:=h
      simp only [ba] at h2
      obtain ⟨rfl,rfl⟩:=h2
      have:=i2 t' k' h1 K r (by rw [xD]; rw [show j+2+k'=j+(k'+2) by omega]; exact hr)
      exact ((ap.of hv).ends this).mono (by omega)
    ·rw [if_neg c2] at hv
     rw [c1,AY _ (by rw [List.head?_drop]; exact c2)]
     refine ⟨fun h=>(by cases h),fun t k h K r hr=>?_⟩
     simp only [bz,ba] at h
     obtain ⟨rfl,rfl⟩:=h
     rw [xG] at hr
     revert hv hr
     cases Ib s (j+1) (3,acc) o with
     | inl h=>intro hv hr; exact (ap.of hv).ends hr
     | inr r'=>intro hv hr; cases hr; exact (ah.of hv).mono (by omega)
   ·rw [if_pos c1] at hv
    obtain ⟨n,rfl⟩:∃ m,n=m+1:=⟨n - 1,by omega⟩
    obtain ⟨i1,i2⟩:=l20 hl ho n (j+1) (acc++[s[j]]) (by omega) (by omega) (by simp; omega)
    rw [Dn c1]
    refine ⟨fun h=>?_,fun t k h K r hr=>?_⟩
    ·rw [Option.map_eq_none_iff] at h
     exact ((ap.of hv).ends (i1 h))
    ·rw [cW] at h
     obtain ⟨⟨t',k'⟩,h1,h2⟩:=h
     simp only [ba] at h2
     obtain ⟨rfl,rfl⟩:=h2
     have:=i2 t' k' h1 K r (by rw [xD]; rw [show j+1+k'=j+(k'+1) by omega]; exact hr)
     exact ((ap.of hv).ends this).mono (by omega)
  ·obtain rfl:j=s.length:=by omega
   rw [ey]
   exact ⟨fun _=>(ah.of zgL).mono (by omega),fun t k h=>(by simp [eB] at h)⟩

theorem zgI {s:zw} {j:Nat} {c f:Int} {z:zo [CP.d zq]} (hl:s.length≤1000000) (hj:j < s.length) (hp:bl s[j].toNat=true):∀ {o:qK},(cF (Ok s (j:Int) c f z o)).val=some (.inl (Ok s ((j+1:Nat):Int) c f z o)):=by
 intro o
 have w1:IntKind.i64.wrap ((j:Int)+1)=((j+1:Nat):Int):=zt j (by unfold zA; omega)
 cases o with
 | none=>
  show (cF (.h11 _ _ _ _ _)).val=_
  simp only [cF,bQ s hj,zM hj,zB hj,pF,tk,hp,w1,Tr.val,zU,rQ,if_true]
 | some l=>
  show (cF (.h11b _ _ _ _ _ _)).val=_
  simp only [cF,bQ s hj,zM hj,zB hj,pF,tk,hp,w1,Tr.val,zU,rQ,if_true]

theorem zgH {s:zw} {j f:Nat} {c:UInt8} {z:zo [CP.d zq]} (hl:s.length≤1000000) (hj:j≤s.length) (hf:f≤j) (hp:∀ h:j < s.length,bl s[j].toNat=false) (h1:zO c.toNat=false) (h2:c≠39):
  ∀ {o:qK},(oL o).length≤1000000→(cF (Ok s (j:Int) (c.toNat:Int) (f:Int) z o)).val=some (Ib s j (1,List.take (j - f) (List.drop f s)) o):=by
 intro o ho
 have e1:(bif decide ((j:Int) < (↑(length s):Int)) then zR (j:Int) (length s)&&pE (↑(getD s (j:Int).toNat 0).toNat:Int) else true)=true:=by
  by_cases h:j < s.length
  ·rw [zB h,pF]; cases decide ((j:Int) < (↑(length s):Int)) <;> rfl
  ·rw [ao (by omega)]; rfl
 have e2:(bif decide ((j:Int) < (↑(length s):Int)) then uV (↑(getD s (j:Int).toNat 0).toNat:Int) else false)=false:=by
  by_cases h:j < s.length
  ·rw [bQ s h,tk,hp h]; cases decide ((j:Int) < (↑(length s):Int)) <;> rfl
  ·rw [ao (by omega)]; rfl
 have g1:(decide (0≤(f:Int))&&decide ((f:Int)≤(j:Int))&&decide ((j:Int)≤(↑(length s):Int)))=true:=by simp; omega
 have b2:((c.toNat:Int)==39)=false:=by rw [← ji,pW]; exact h2
 have hlen:(List.take (j - f) (List.drop f s)).length≤1000000:=by simp; omega
 have hM:kO ((1,List.take (j - f) (List.drop f s)):Sem zq)=bR (1,List.take (j - f) (List.drop f s)):=wU (t:=((1,List.take (j - f) (List.drop f s)):Sem bM)) hlen
 have hMC:gS ((1,List.take (j - f) (List.drop f s)):Sem zq)=true:=te (t:=((1,List.take (j - f) (List.drop f s)):Sem bM)) hlen
 unfold Ib
 cases o with
 | none=>
  show (cF (.h11 _ _ _ _ _)).val=_
  simp only [cF,e1,e2,g1,eh,fx,h1,b2,Tr.val,if_true,zV,if_false]
  simp only [bd,hMC,hM,if_true]
  generalize List.take (j - f) (List.drop f s)=T
  by_cases m:bR (1,T)=true
  ·simp [m]
  ·simp [m]
 | some l=>
  have hl2:(l.length+[((1,List.take (j - f) (List.drop f s)):Sem zq)].length≤1073741824):=by have:l.length≤1000000:=ho; simp; omega
  show (cF (.h11b _ _ _ _ _ _)).val=_
  simp only [cF,e1,e2,g1,eh,fx,h1,b2,Tr.val,if_true,zV,if_false]
  simp only [bd,hMC,hM,zu hl2,if_true]
  generalize List.take (j - f) (List.drop f s)=T
  by_cases m:bR (1,T)=true
  ·simp [m]
  ·simp [m]

theorem zgK {s:zw} {j:Nat} {c f:Int} {z:zo [CP.d zq]} (hl:s.length≤1000000) (hj:j < s.length) (hp:zO s[j].toNat=true):∀ {o:qK},(cF (Ol s (j:Int) c f z o)).val=some (.inl (Ol s ((j+1:Nat):Int) c f z o)):=by
 intro o
 have w1:IntKind.i64.wrap ((j:Int)+1)=((j+1:Nat):Int):=zt j (by unfold zA; omega)
 cases o with
 | none=>
  show (cF (.h15 _ _ _ _ _)).val=_
  simp only [cF,bQ s hj,zM hj,zB hj,eh,fx,hp,w1,Tr.val,zU,rQ,if_true]
 | some l=>
  show (cF (.h15b _ _ _ _ _ _)).val=_
  simp only [cF,bQ s hj,zM hj,zB hj,eh,fx,hp,w1,Tr.val,zU,rQ,if_true]

theorem zgJ {s:zw} {j f:Nat} {c:UInt8} {z:zo [CP.d zq]} (hl:s.length≤1000000) (hj:j≤s.length) (hf:f≤j) (hp:∀ h:j < s.length,zO s[j].toNat=false) (h2:c≠39):
  ∀ {o:qK},(oL o).length≤1000000→(cF (Ol s (j:Int) (c.toNat:Int) (f:Int) z o)).val=some (Ib s j (2,List.take (j - f) (List.drop f s)) o):=by
 intro o ho
 have e1:(bif decide ((j:Int) < (↑(length s):Int)) then zR (j:Int) (length s)&&fh (↑(getD s (j:Int).toNat 0).toNat:Int) else true)=true:=by
  by_cases h:j < s.length
  ·rw [zB h,eh]; cases decide ((j:Int) < (↑(length s):Int)) <;> rfl
  ·rw [ao (by omega)]; rfl
 have e2:(bif decide ((j:Int) < (↑(length s):Int)) then gh (↑(getD s (j:Int).toNat 0).toNat:Int) else false)=false:=by
  by_cases h:j < s.length
  ·rw [bQ s h,fx,hp h]; cases decide ((j:Int) < (↑(length s):Int)) <;> rfl
  ·rw [ao (by omega)]; rfl
 have g1:(decide (0≤(f:Int))&&decide ((f:Int)≤(j:Int))&&decide ((j:Int)≤(↑(length s):Int)))=true:=by simp; omega
 have b2:((c.toNat:Int)==39)=false:=by rw [← ji,pW]; exact h2
 have hlen:(List.take (j - f) (List.drop f s)).length≤1000000:=by simp; omega
 have hM:kO ((2,List.take (j - f) (List.drop f s)):Sem zq)=bR (2,List.take (j - f) (List.drop f s)):=wU (t:=((2,List.take (j - f) (List.drop f s)):Sem bM)) hlen
 have hMC:gS ((2,List.take (j - f) (List.drop f s)):Sem zq)=true:=te (t:=((2,List.take (j - f) (List.drop f s)):Sem bM)) hlen
 unfold Ib
 cases o with
 | none=>
  show (cF (.h15 _ _ _ _ _)).val=_
  simp only [cF,e1,e2,g1,b2,Tr.val,if_true,zV,if_false]
  simp only [bd,hMC,hM,if_true]
  generalize List.take (j - f) (List.drop f s)=T
  by_cases m:bR (2,T)=true
  ·simp [m]
  ·simp [m]
 | some l=>
  have hl2:(l.length+[((2,List.take (j - f) (List.drop f s)):Sem zq)].length≤1073741824):=by have:l.length≤1000000:=ho; simp; omega
  show (cF (.h15b _ _ _ _ _ _)).val=_
  simp only [cF,e1,e2,g1,b2,Tr.val,if_true,zV,if_false]
  simp only [bd,hMC,hM,zu hl2,if_true]
  generalize List.take (j - f) (List.drop f s)=T
  by_cases m:bR (2,T)=true
  ·simp [m]
  ·simp [m]

theorem Ei {p:Int→Bool} {s:zw} (st:Nat→dN) (hs:∀ j (hj:j < s.length),p s[j].toNat=true→(cF (st j)).val=some (.inl (st (j+1)))):∀ (n j:Nat),s.length - j≤n→j≤s.length→
  ap cF (cy p (s.drop j)) (st j) (st (j+cy p (s.drop j)))∧j+cy p (s.drop j)≤s.length∧∀ h:j+cy p (s.drop j) < s.length,p s[j+cy p (s.drop j)].toNat=false
 | n,j,hn,hj=>by
  by_cases hlt:j < s.length
  ·by_cases hp:p s[j].toNat=true
   ·obtain ⟨n,rfl⟩:∃ m,n=m+1:=⟨n - 1,by omega⟩
    have e:cy p (s.drop j)=cy p (s.drop (j+1))+1:=by rw [dF hlt,cy,if_pos hp]
    obtain ⟨i1,i2,i3⟩:=Ei st hs n (j+1) (by omega) (by omega)
    have e2:j+cy p (s.drop j)=j+1+cy p (s.drop (j+1)):=by omega
    refine ⟨?_,by omega,?_⟩
    ·rw [e2,e]
     exact ((ap.of (hs j hlt hp)).trans i1).mono (by omega)
    ·intro h
     simp only [e2] at h ⊢
     exact i3 h
   ·have e:cy p (s.drop j)=0:=by rw [dF hlt,cy,if_neg hp]
    rw [e]
    exact ⟨ap.refl _,by omega,fun _=>by simpa using hp⟩
  ·have e:cy p (s.drop j)=0:=by rw [xy (by omega)]; rfl
   rw [e]
   exact ⟨ap.refl _,by omega,fun h=>absurd h (by omega)⟩

theorem v3 {s:zw} {i:Nat} (hl:s.length≤1000000) (hi:i < s.length):∀ {o:qK},(oL o).length≤1000000→∃ z,(cF (hd3 s (i:Int) o)).val=some (
  if (bif (s[i].toNat:Int)==32 then true else (s[i].toNat:Int)==10)=true then .inl (hd3 s ((i+1:Nat):Int) o)
  else if aH s[i].toNat=true then .inl (Ok s ((i+1:Nat):Int) s[i].toNat i z o)
  else if zO s[i].toNat=true then .inl (Ol s ((i+1:Nat):Int) s[i].toNat i z o)
  else if s[i]=39 then .inl (IJ s ((i+1:Nat):Int) ((3,[]),()) o)
  else Ib s (i+1) (4,[s[i]]) o):=by
 intro o ho
 refine ⟨((4,[s[i]]),()),?_⟩
 have w1:IntKind.i64.wrap ((i:Int)+1)=((i+1:Nat):Int):=zt i (by unfold zA; omega)
 have g1:(decide (0≤(i:Int))&&decide ((i:Int)≤((i+1:Nat):Int))&&decide (((i+1:Nat):Int)≤(↑(length s):Int)))=true:=by simp; omega
 have hM:kO ((4,[s[i]]):Sem zq)=bR (4,[s[i]]):=wU (t:=((4,[s[i]]):Sem bM)) (by simp)
 have hMC:gS ((4,[s[i]]):Sem zq)=true:=te (t:=((4,[s[i]]):Sem bM)) (by simp)
 have h39:s[i]=39↔((s[i].toNat:Int)==39)=true:=pW.symm
 unfold Ib
 simp only [h39]
 cases o with
 | none=>
  show (cF (.h3 _ _)).val=_
  simp only [cF,w1,bQ s hi,iX s hi,zM hi,zB hi,g1,kP,mO,eh,fx,Tr.val,if_true,hMC,hM]
  repeat' split
  all_goals first | rfl | simp_all
 | some l=>
  have hl2:(l.length+[((4,[s[i]]):Sem zq)].length≤1073741824):=by have:l.length≤1000000:=ho; simp; omega
  show (cF (.h3b _ _ _)).val=_
  simp only [cF,w1,bQ s hi,iX s hi,zM hi,zB hi,g1,kP,mO,eh,fx,Tr.val,if_true,hMC,hM,zu hl2]
  repeat' split
  all_goals first | rfl | simp_all

theorem Mi {c:UInt8} (h:aH c.toNat=true):zO c.toNat=false∧c≠39:=by
 have h39:aH ((39:UInt8).toNat:Int)=false:=rfl
 constructor
 ·have h65:(65:Int)≤(c.toNat:Int):=by
   by_cases k:(65:Int)≤(c.toNat:Int)
   ·exact k
   ·exfalso
    have k1:decide ((c.toNat:Int) ≥ 97)=false:=ao (by omega)
    have k2:decide ((c.toNat:Int) ≥ 65)=false:=ao (by omega)
    unfold aH at h
    rw [k1,k2] at h
    cases h
  have k3:decide ((c.toNat:Int)≤57)=false:=ao (by omega)
  unfold zO
  rw [k3]
  cases decide ((c.toNat:Int) ≥ 48) <;> rfl
 ·rintro rfl
  rw [h39] at h
  cases h
theorem NE {c:UInt8} (h:zO c.toNat=true):c≠39:=by
 have h39:zO ((39:UInt8).toNat:Int)=false:=rfl
 rintro rfl
 rw [h39] at h
 cases h

theorem Ay {s:zw} (hl:s.length≤1000000):∀ (n i:Nat) (o:qK),s.length+1≤n+i→i≤s.length→(oL o).length≤i→∃ r,ah cF (3 * (s.length - i)+3) (hd3 s (i:Int) o) r∧Nc r (ue n (s.drop i) (oL o).length)
 | 0,i,o,h1,h2,h3=>by omega
 | n + 1,i,o,h1,h2,h3=>by
  by_cases hi:i < s.length
  ·obtain ⟨z,hv⟩:=v3 (o:=o) hl hi (by omega)
   rw [dF hi,ue]
   have hdrop:List.drop i s=s[i]::List.drop (i+1) s:=dF hi
   have next:∀ (j:Nat) (t:Sem bM),i < j→j≤s.length→∃ r,(match Ib s j t o with | .inl h=>ah cF (3 * (s.length - j)+3) h r | .inr r'=>r'=r)∧Nc r (if bR t=true then ue n (s.drop j) ((oL o).length+1) else false):=by
    intro j t hj1 hj2
    unfold Ib
    by_cases m:bR t=true
    ·rw [if_pos m,if_pos m]
     obtain ⟨r,a1,a2⟩:=Ay hl n j (some (oL o++[t])) (by omega) hj2 (by simp; omega)
     refine ⟨r,a1,?_⟩
     have:(oL (some (oL o++[t]))).length=(oL o).length+1:=by simp
     rw [this] at a2
     exact a2
    ·rw [if_neg m,if_neg m]
     exact ⟨YH,rfl,P9⟩
   by_cases c0:(bif (s[i].toNat:Int)==32 then true else (s[i].toNat:Int)==10)=true
   ·rw [if_pos c0] at hv ⊢
    obtain ⟨r,a1,a2⟩:=Ay hl n (i+1) o (by omega) (by omega) (by omega)
    exact ⟨r,((ap.of hv).ends a1).mono (by omega),a2⟩
   ·rw [if_neg c0] at hv ⊢
    unfold nN
    by_cases c1:aH s[i].toNat=true
    ·rw [if_pos c1] at hv ⊢
     obtain ⟨b1,b2⟩:=Mi c1
     obtain ⟨p1,p2,p3⟩:=Ei (p:=bl) (s:=s) (fun j=>Ok s (j:Int) (s[i].toNat:Int) (i:Int) z o) (fun j hj hp=>zgI hl hj hp) s.length (i+1) (by omega) (by omega)
     have hx:=zgH (z:=z) (c:=s[i]) (f:=i) hl p2 (by omega) p3 b1 b2 (o:=o) (by omega)
     rw [show i+1+cy bl (List.drop (i+1) s) - i=cy bl (List.drop (i+1) s)+1 by omega,hdrop] at hx
     obtain ⟨r,a1,a2⟩:=next (i+1+cy bl (List.drop (i+1) s)) (1,(s[i]::List.drop (i+1) s).take (cy bl (List.drop (i+1) s)+1)) (by omega) p2
     refine ⟨r,?_,?_⟩
     ·revert hx a1
      cases Ib s (i+1+cy bl (List.drop (i+1) s)) (1,(s[i]::List.drop (i+1) s).take (cy bl (List.drop (i+1) s)+1)) o with
      | inl h=>intro hx a1; exact (((ap.of hv).trans p1).ends ((ap.of hx).ends a1)).mono (by omega)
      | inr r'=>intro hx a1; cases a1; exact (((ap.of hv).trans p1).ends (ah.of hx)).mono (by omega)
     ·rw [← hdrop,B9]
      rw [show i+(cy bl (List.drop (i+1) s)+1)=i+1+cy bl (List.drop (i+1) s) by omega]
      rw [hdrop]
      exact a2
    ·rw [if_neg c1] at hv ⊢
     by_cases c2:zO s[i].toNat=true
     ·rw [if_pos c2] at hv ⊢
      have b2:=NE c2
      obtain ⟨p1,p2,p3⟩:=Ei (p:=zO) (s:=s) (fun j=>Ol s (j:Int) (s[i].toNat:Int) (i:Int) z o) (fun j hj hp=>zgK hl hj hp) s.length (i+1) (by omega) (by omega)
      have hx:=zgJ (z:=z) (c:=s[i]) (f:=i) hl p2 (by omega) p3 b2 (o:=o) (by omega)
      rw [show i+1+cy zO (List.drop (i+1) s) - i=cy zO (List.drop (i+1) s)+1 by omega,hdrop] at hx
      obtain ⟨r,a1,a2⟩:=next (i+1+cy zO (List.drop (i+1) s)) (2,(s[i]::List.drop (i+1) s).take (cy zO (List.drop (i+1) s)+1)) (by omega) p2
      refine ⟨r,?_,?_⟩
      ·revert hx a1
       cases Ib s (i+1+cy zO (List.drop (i+1) s)) (2,(s[i]::List.drop (i+1) s).take (cy zO (List.drop (i+1) s)+1)) o with
       | inl h=>intro hx a1; exact (((ap.of hv).trans p1).ends ((ap.of hx).ends a1)).mono (by omega)
       | inr r'=>intro hx a1; cases a1; exact (((ap.of hv).trans p1).ends (ah.of hx)).mono (by omega)
      ·rw [← hdrop,B9]
       rw [show i+(cy zO (List.drop (i+1) s)+1)=i+1+cy zO (List.drop (i+1) s) by omega]
       rw [hdrop]
       exact a2
     ·rw [if_neg c2] at hv ⊢
      by_cases c3:s[i]=39
      ·rw [if_pos c3] at hv ⊢
       obtain ⟨q1,q2⟩:=l20 (o:=o) hl (by omega) (s.length - (i+1)) (i+1) [] (bg _) (by omega) (by simp)
       cases hs:eB (List.drop (i+1) s) with
       | none=>
        have hm:bR ((0,[]):Sem bM)=false:=rfl
        simp only [hm,zV,if_false]
        exact ⟨YH,((ap.of hv).ends (q1 hs)).mono (by omega),P9⟩
       | some x=>
        obtain ⟨t,k⟩:=x
        obtain ⟨k1,k2,_⟩:=pP _ _ _ _ (bg _) hs
        have k2:k≤s.length - (i+1):=by simpa using k2
        obtain ⟨r,a1,a2⟩:=next (i+1+k) (3,t) (by omega) (by omega)
        refine ⟨r,((ap.of hv).ends (q2 t k hs _ r a1)).mono (by omega),?_⟩
        simp only
        rw [← hdrop,B9,show i+(k+1)=i+1+k by omega]
        exact a2
      ·rw [if_neg c3] at hv ⊢
       obtain ⟨r,a1,a2⟩:=next (i+1) (4,[s[i]]) (by omega) (by omega)
       refine ⟨r,?_,a2⟩
       revert hv a1
       cases Ib s (i+1) (4,[s[i]]) o with
       | inl h=>intro hv a1; exact ((ap.of hv).ends a1).mono (by omega)
       | inr r'=>intro hv a1; cases a1; exact (ah.of hv).mono (by omega)
  ·obtain rfl:i=s.length:=by omega
   rw [ey,ue]
   cases o with
   | none=>
    refine ⟨(.tup [.nils,.bool true],[]),(ah.of ?_).mono (by omega),[],rfl⟩
    show (cF (.h3 _ _)).val=_
    simp only [cF,zH,Tr.val]
    rfl
   | some l=>
    refine ⟨(.tup [.vec 0,.bool (decide ((↑l.length:Int)≤400))],[.vec zq l]),(ah.of ?_).mono (by omega),l,?_⟩
    ·show (cF (.h3b _ _ _)).val=_
     simp only [cF,zH,Tr.val]
     rfl
    ·have e:decide ((↑l.length:Int)≤400)=decide (l.length≤400):=by
      by_cases h:l.length≤400
      ·rw [zu h]; exact zu (by omega)
      ·rw [ao h]; exact ao (by omega)
     rw [e]
     rfl

theorem Hz {s:zw} (hl:s.length≤1000000):∃ l,EU s=some (l,(cut s).2==(0:Int),()):=by
 obtain ⟨r,h1,l,h2⟩:=Ay hl (s.length+1) 0 none (by omega) (by omega) (by simp)
 have h3:=xT (s.length+1) s 0 [] (by omega) (by omega) (by omega) (by simp)
 have hc:((cut s).2==(0:Int))=ue (s.length+1) (s.drop 0) ([]:List (Sem zq)).length:=h3
 refine ⟨l,?_⟩
 rw [hc]
 exact zD (s:=hd3 s ((0:Nat):Int) none) rfl h1 (by omega) h2
theorem P7 {s:zw} (hl:s.length≤1000000):ET s=true:=by
 obtain ⟨l,h⟩:=Hz hl
 unfold ET; rw [h]; rfl
theorem SP {s:zw} (hl:s.length≤1000000):(vZ s).2=((cut s).2==(0:Int)):=by
 obtain ⟨l,h⟩:=Hz hl
 unfold vZ; rw [h]; rfl
end Cad
