/- Words, names, runs of octets. Names. -/
import Derived.Test.YtiefilkilbdpgaaGreatDoorL06
namespace Cad
open Go Go.Proofs
open List (length)

def swT {β:Type} (leaf:β→zt) (s:zl):List (zl×β)→β→Tr zt
 | [],d=>.ok (leaf d)
 | (w,b)::r,d=>.br (s==w) (.ok (leaf b)) (swT leaf s r d)

def YX {β:Type} (s:zl):List (zl×β)→β→β
 | [],d=>d
 | (w,b)::r,d=>if s==w then b else YX s r d

theorem CR {β:Type} {leaf:β→zt} {s:zl} {d:β} {Φ:zt→Prop}:∀ (l:List (zl×β)),Φ (leaf (YX s l d))→(swT leaf s l d).Sat Φ
 | [],h=>h
 | (w,b)::r,h=>by
  refine ⟨fun hc=>?_,fun hc=>CR r ?_⟩
  ·simp only [YX] at h; rw [if_pos hc] at h; exact h
  ·simp only [YX] at h; rw [if_neg (by rw [hc]; simp)] at h; exact h

def OV:List (zl×Bool):=[([65,78,68],true),([79,82],true),([78,79,84],true),([73,83],true),([78,85,76,76],true),([84,82,85,69],true),([70,65,76,83,69],true),([67,82,69,65,84,69],true),([84,65,66,76,69],true),([73,78,84],true),([84,69,88,84],true),([66,79,79,76],true),([75,69,89],true),([85,78,73,81,85,69],true),([82,69,70,69,82,69,78,67,69,83],true),([67,72,69,67,75],true),([68,82,79,80],true),([73,78,83,69,82,84],true),([73,78,84,79],true),([86,65,76,85,69,83],true),([85,80,68,65,84,69],true),([83,69,84],true),([87,72,69,82,69],true),([68,69,76,69,84,69],true),([70,82,79,77],true),([83,69,76,69,67,84],true),([71,82,65,78,84],true),([82,69,65,68],true),([87,82,73,84,69],true),([79,78],true),([84,79],true),([82,69,86,79,75,69],true),([77,73,71,82,65,84,69],true),([67,79,80,89],true),([74,79,73,78],true),([71,82,79,85,80],true),([66,89],true),([83,85,77],true)]
def It:List (zl×Int):=[([108,105,116],0),([99,111,108],0),([110,111,116],1),([110,117,108,108],1),([97,110,100],2),([111,114],2),([61],2),([60],2),([43],2),([45],2)]

def oU (s:zl):Bool:=YX s OV false
def dq (s:zl):Int:=YX s It (-1)

def zQ (c:Int):Bool:=bif decide (c ≥ 48) then decide (c≤57) else false
def aF (c:Int):Bool:=bif decide (c ≥ 97) then
  bif decide (c≤122) then true else bif decide (c ≥ 65) then decide (c≤90) else false
 else bif decide (c ≥ 65) then decide (c≤90) else false
def bV (c:Int):Bool:=bif aF c then true else bif zQ c then true else c==95

noncomputable def oB:bq:=(((zcT.aut 270 Tryz.f270 1).aut 271 Tryz.f271 1).aut 269 Tryz.f269 1).aut 233 Tryz.f233 0
theorem kk:zm oB:=by
 refine iq (iq (iq (iq LJ ?_) ?_) ?_) ?_ <;> (refine ⟨?_,?_,?_,?_⟩ <;> kernel_rfl)

theorem zg8 (s:zl):run oB 0 (fun _=>{}) Tryz.f171.results.toList 400 (aA Tryz.f171) (af Tryz.f171.ntmps [.str s] [])=swT (fun b=>.ret (.kb b) []) s OV false:=by kernel_rfl
theorem zeO:zA oB.P 171 Tryz.f171 1:=aL (by kernel_rfl)
theorem za0:FK 171 (oP [.str] [.bool] fun x=>some (oU x.1,())):=by
 refine qH zeO fun x y hx C hC=>?_
 cases hx
 refine cB (n0:=0) kk zeO (fun id _=>hC id) (fun _=>{}) 400 ?_
 have e:gm ([Sh.str].map some) x=[.str x.1]:=rfl
 rw [e,zg8]
 exact CR OV rfl

theorem zhv (s:zl):run oB 0 (fun _=>{}) Tryz.f204.results.toList 400 (aA Tryz.f204) (af Tryz.f204.ntmps [.str s] [])=swT (fun b=>.ret (.int .i64 b) []) s It (-1):=by kernel_rfl
theorem ze9:zA oB.P 204 Tryz.f204 1:=aL (by kernel_rfl)
theorem zbq:FK 204 (oP [.str] [zg] fun x=>some (dq x.1,())):=by
 refine qH ze9 fun x y hx C hC=>?_
 cases hx
 refine cB (n0:=0) kk ze9 (fun id _=>hC id) (fun _=>{}) 400 ?_
 have e:gm ([Sh.str].map some) x=[.str x.1]:=rfl
 rw [e,zhv]
 exact CR It rfl

def fv (p:Int→Bool):zl→Nat
 | []=>0
 | c::r=>if p c.toNat then fv p r+1 else 0

def aw (f m:Int→Bool):zl→Nat
 | []=>0
 | c::r=>if f c.toNat then fv m r+1 else 0

theorem Reach.strLen {E:bq} {C:cr} {fn:FuncId} {todo:List Item} {st:St} {Q:AV→List AO→Prop} (j:Nat) (s:zl) (hj:st.tmps[j]?=some (.str s)) (h:s.length≤zE→Reach E C fn todo st Q):Reach E C fn todo st Q:=by
 intro b cs a w U ρ h1 h2 hc hW
 refine h ?_ b cs a w U ρ h1 h2 hc hW
 have hlt:j < a.tmps.toList.length:=by rw [← hc.tm.len]; exact (bP.1 hj).1
 have:=hc.tm.rv j _ _ hj (zI hlt)
 generalize a.tmps.toList[j]=v at this
 cases this with
 | str _ h=>exact h

abbrev Ed:Nat→zY:=fun _=>{slots:=[1,2,5]}
abbrev G7 (a b c d:AV) (s:zl) (n:Int):St:={
 tmps:=(tm 31 [(1,AV.str s),(2,AV.ptr 0 0),(5,AV.int .i64 n)]),
 heap:=[AO.box [a,b,c,d]] }
noncomputable abbrev Y2 (a b c d:AV) (p:Int→Bool) (s:zl) (n:Int):Tr zt:=
 Tr.chk (bif decide (n < ↑(length s)) then zF n (length s) else true)
  (Tr.br (bif decide (n < ↑(length s)) then p ↑(List.getD s n.toNat 0).toNat else false)
   (Tr.ok (zt.head 4 (zy Tryz.f234 4) (G7 a b c d s (IntKind.i64.wrap (n+1)))))
   (Tr.ok (zt.ret (AV.int .i64 n) [])))
theorem Rb:zA oB.P 234 Tryz.f234 2:=aL (by kernel_rfl)

theorem WB {C:cr} (hC:∀ id,0≤id→C.ρ0 id=none) (a b c d:AV) (p:Int→Bool) (s:zl)
  (hon:∀ n,run oB 0 Ed Tryz.f234.results.toList 300 (zy Tryz.f234 4) (G7 a b c d s n)=Y2 a b c d p s n) (hl:s.length≤zE):∀ (k i:Nat),s.length - i=k→i≤s.length→
  Reach oB C 234 (zy Tryz.f234 4) (G7 a b c d s i) (fun r h=>(r,h)=(.int .i64 ((i+fv p (s.drop i):Nat):Int),[]))
 | k,i,hk,hi=>by
  subst hk
  refine cB kk Rb hC Ed 300 ?_
  rw [hon]
  refine ⟨?_,fun h=>?_,fun h=>?_⟩
  ·by_cases hlt:i < s.length
   ·have:decide ((i:Int) < s.length)=true:=by simpa using hlt
    simp [zF,hlt]
   ·have:decide ((i:Int) < s.length)=false:=by simpa using hlt
    simp [hlt]
  ·have hlt:i < s.length:=by
    by_cases hlt:i < s.length
    ·exact hlt
    ·have:decide ((i:Int) < s.length)=false:=by simpa using hlt
     rw [this] at h; cases h
   have hd:decide ((i:Int) < s.length)=true:=by simpa using hlt
   rw [hd,ac s _ hlt,bA] at h
   rw [dB hlt]
   simp only [fv]
   rw [if_pos h,zH i (by omega),show i+(fv p (List.drop (i+1) s)+1)=(i+1)+fv p (List.drop (i+1) s) by omega]
   exact WB hC a b c d p s hon hl (s.length - (i+1)) (i+1) rfl (by omega)
  ·have:fv p (s.drop i)=0:=by
    by_cases hlt:i < s.length
    ·have hd:decide ((i:Int) < s.length)=true:=by simpa using hlt
     rw [hd,ac s _ hlt] at h
     rw [dB hlt]
     simp only [fv]
     rw [if_neg (by intro h'; rw [bA] at h; rw [h'] at h; cases h)]
    ·rw [yr (by omega)]; rfl
   rw [this]
   rfl
 termination_by k=>k

theorem zfI (s:zl) (n:Int):run oB 0 Ed Tryz.f234.results.toList 300 (zy Tryz.f234 4) (G7 (AV.int .i64 1) (AV.int .i64 16) (AV.clo (Fn.func 270) [] []) (AV.clo (Fn.func 269) [] []) s n)=Y2 (AV.int .i64 1) (AV.int .i64 16) (AV.clo (Fn.func 270) [] []) (AV.clo (Fn.func 269) [] []) bV s n:=by kernel_rfl
theorem zdg (s:zl):run oB 0 Ed Tryz.f234.results.toList 300 (aA Tryz.f234) (af Tryz.f234.ntmps [.agg [(AV.int .i64 1),(AV.int .i64 16),(AV.clo (Fn.func 270) [] []),(AV.clo (Fn.func 269) [] [])],.str s] [])=
 Tr.chk (bif s==[] then true else zF 0 (length s))
  (Tr.br (bif s==[] then true else !aF ↑(List.getD s (Int.toNat 0) 0).toNat) (Tr.ok (zt.ret (AV.int .i64 0) []))
   (Tr.ok (zt.head 4 (zy Tryz.f234 4) (G7 (AV.int .i64 1) (AV.int .i64 16) (AV.clo (Fn.func 270) [] []) (AV.clo (Fn.func 269) [] []) s 1)))):=by kernel_rfl
theorem Wx {C:cr} (hC:∀ id,0≤id→C.ρ0 id=none) (s:zl) (hl:s.length≤zE):Reach oB C 234 (aA Tryz.f234) (af Tryz.f234.ntmps [.agg [(AV.int .i64 1),(AV.int .i64 16),(AV.clo (Fn.func 270) [] []),(AV.clo (Fn.func 269) [] [])],.str s] []) (fun r h=>(r,h)=(.int .i64 (aw aF bV s:Nat),[])):=by
 refine cB (n0:=0) kk Rb hC Ed 300 ?_
 rw [zdg]
 cases s with
 | nil=>exact ⟨rfl,fun _=>rfl,fun h=>by cases h⟩
 | cons c r=>
  refine ⟨by simp [zF],fun h=>?_,fun h=>?_⟩
  ·have h':aF ↑c.toNat=false:=by simpa using h
   simp only [aw,h']
   rfl
  ·have h':aF ↑c.toNat=true:=by simpa using h
   have:=WB hC (AV.int .i64 1) (AV.int .i64 16) (AV.clo (Fn.func 270) [] []) (AV.clo (Fn.func 269) [] []) bV (c::r) (zfI (c::r)) hl _ 1 rfl (by simp)
   simp only [aw,h',if_true]
   rw [show 1+fv bV ((c::r).drop 1)=fv bV r+1 by simp [pf]] at this
   exact this

theorem zfJ (s:zl) (n:Int):run oB 0 Ed Tryz.f234.results.toList 300 (zy Tryz.f234 4) (G7 (AV.int .i64 2) (AV.int .i64 19) (AV.clo (Fn.func 271) [] []) (AV.clo (Fn.func 271) [] []) s n)=Y2 (AV.int .i64 2) (AV.int .i64 19) (AV.clo (Fn.func 271) [] []) (AV.clo (Fn.func 271) [] []) zQ s n:=by kernel_rfl
theorem zdh (s:zl):run oB 0 Ed Tryz.f234.results.toList 300 (aA Tryz.f234) (af Tryz.f234.ntmps [.agg [(AV.int .i64 2),(AV.int .i64 19),(AV.clo (Fn.func 271) [] []),(AV.clo (Fn.func 271) [] [])],.str s] [])=
 Tr.chk (bif s==[] then true else zF 0 (length s))
  (Tr.br (bif s==[] then true else !zQ ↑(List.getD s (Int.toNat 0) 0).toNat) (Tr.ok (zt.ret (AV.int .i64 0) []))
   (Tr.ok (zt.head 4 (zy Tryz.f234 4) (G7 (AV.int .i64 2) (AV.int .i64 19) (AV.clo (Fn.func 271) [] []) (AV.clo (Fn.func 271) [] []) s 1)))):=by kernel_rfl
theorem Wy {C:cr} (hC:∀ id,0≤id→C.ρ0 id=none) (s:zl) (hl:s.length≤zE):Reach oB C 234 (aA Tryz.f234) (af Tryz.f234.ntmps [.agg [(AV.int .i64 2),(AV.int .i64 19),(AV.clo (Fn.func 271) [] []),(AV.clo (Fn.func 271) [] [])],.str s] []) (fun r h=>(r,h)=(.int .i64 (aw zQ zQ s:Nat),[])):=by
 refine cB (n0:=0) kk Rb hC Ed 300 ?_
 rw [zdh]
 cases s with
 | nil=>exact ⟨rfl,fun _=>rfl,fun h=>by cases h⟩
 | cons c r=>
  refine ⟨by simp [zF],fun h=>?_,fun h=>?_⟩
  ·have h':zQ ↑c.toNat=false:=by simpa using h
   simp only [aw,h']
   rfl
  ·have h':zQ ↑c.toNat=true:=by simpa using h
   have:=WB hC (AV.int .i64 2) (AV.int .i64 19) (AV.clo (Fn.func 271) [] []) (AV.clo (Fn.func 271) [] []) zQ (c::r) (zfJ (c::r)) hl _ 1 rfl (by simp)
   simp only [aw,h',if_true]
   rw [show 1+fv zQ ((c::r).drop 1)=fv zQ r+1 by simp [pf]] at this
   exact this

def G65:cz [none,some .str]:=fun x h=>match x,h with
 | (.agg [.int .i64 1,.int .i64 16,.clo (.func 270) [] [],.clo (.func 269) [] []],s,_),[]=>.ok (.int .i64 (aw aF bV s:Nat),[])
 | (.agg [.int .i64 2,.int .i64 19,.clo (.func 271) [] [],.clo (.func 271) [] []],s,_),[]=>.ok (.int .i64 (aw zQ zQ s:Nat),[])
 | _,_=>.err

theorem zbA:FK 234 (zS [none,some .str] G65):=by
 refine bt Rb fun x h0 res hx C hC=>?_
 unfold G65 at hx
 split at hx
 ·simp only [Tr.val_ok,aq] at hx
  subst hx
  rename_i _ _ s u
  have e:gm [none,some Sh.str] (AV.agg [(AV.int .i64 1),(AV.int .i64 16),(AV.clo (Fn.func 270) [] []),(AV.clo (Fn.func 269) [] [])],s,u)=[AV.agg [(AV.int .i64 1),(AV.int .i64 16),(AV.clo (Fn.func 270) [] []),(AV.clo (Fn.func 269) [] [])],.str s]:=rfl
  rw [e]
  exact Reach.strLen 1 s rfl fun hl=>Wx hC s hl
 ·simp only [Tr.val_ok,aq] at hx
  subst hx
  rename_i _ _ s u
  have e:gm [none,some Sh.str] (AV.agg [(AV.int .i64 2),(AV.int .i64 19),(AV.clo (Fn.func 271) [] []),(AV.clo (Fn.func 271) [] [])],s,u)=[AV.agg [(AV.int .i64 2),(AV.int .i64 19),(AV.clo (Fn.func 271) [] []),(AV.clo (Fn.func 271) [] [])],.str s]:=rfl
  rw [e]
  exact Reach.strLen 1 s rfl fun hl=>Wy hC s hl
 ·simp at hx

abbrev dY:Sh:=.pr (.int .i64) .str

noncomputable def QF:bq:=((oB.add 171 (oP [.str] [.bool] fun x=>some (oU x.1,()))).add 204 (oP [.str] [zg] fun x=>some (dq x.1,()))).add 234 (zS [none,some .str] G65)
theorem DP:zm QF:=((kk.add za0).add zbq).add zbA

def mP (s:zl):Bool:=bif decide ((↑(length s):Int) ≥ 1) then
  bif decide ((↑(length s):Int)≤16) then (↑(aw aF bV s):Int)==↑(length s) else false
 else false

def g49 (x:zx ([dY].map some)):Option (zx ([Sh.bool].map some)):=if x.1.1=1 then some (mP x.1.2,()) else none

theorem zhr (s:zl):(run QF 0 Zb Tryz.f169.results.toList 400 (aA Tryz.f169) (af Tryz.f169.ntmps [.agg [.int .i64 1,.str s]] [])).val=some (.ret (.bool (mP s)) []):=by kernel_rfl
theorem ze5:zA QF.P 169 Tryz.f169 1:=aL (by kernel_rfl)
theorem zbj:FK 169 (oP [dY] [.bool] g49):=by
 refine qH ze5 fun x y hx C hC=>?_
 obtain ⟨⟨k,s⟩,u⟩:=x
 unfold g49 at hx
 split at hx
 ·rename_i hk
  have hk':k=1:=hk
  subst hk'
  cases hx
  have e:gm ([dY].map some) (((1,s),u):zx ([dY].map some))=[.agg [.int .i64 1,.str s]]:=rfl
  rw [e]
  exact nt (n0:=0) DP ze5 (fun id _=>hC id) (zhr s) rfl
 ·cases hx

noncomputable def zcU:bq:=QF.add 169 (oP [dY] [.bool] g49)
theorem LL:zm zcU:=DP.add zbj
noncomputable def zcV:bq:=zcU.aut 170 Tryz.f170 1
theorem LM:zm zcV:=iq LL (aL (by kernel_rfl))
noncomputable def JN:bq:=zcV.aut 92 Tryz.f92 1
theorem DR:zm JN:=iq LM (aL (by kernel_rfl))
end Cad
