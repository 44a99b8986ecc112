/- Words, names, runs of octets. Names. -/
import Derived.Test.YtiefilkilbdpgaaGreatDoorM06
namespace Cad
open Go Go.Proofs
open List (length)

def swT {β:Type} (leaf:β→zr) (s:zn):List (zn×β)→β→Tr zr
 | [],d=>.ok (leaf d)
 | (w,b)::r,d=>.br (s==w) (.ok (leaf b)) (swT leaf s r d)

def UW {β:Type} (s:zn):List (zn×β)→β→β
 | [],d=>d
 | (w,b)::r,d=>if s==w then b else UW s r d

theorem CJ {β:Type} {leaf:β→zr} {s:zn} {d:β} {Φ:zr→Prop}:∀ (l:List (zn×β)),Φ (leaf (UW s l d))→(swT leaf s l d).Sat Φ
 | [],h=>h
 | (w,b)::r,h=>by
  refine ⟨fun hc=>?_,fun hc=>CJ r ?_⟩
  ·simp only [UW] at h; rw [if_pos hc] at h; exact h
  ·simp only [UW] at h; rw [if_neg (by rw [hc]; simp)] at h; exact h

def Pg:List (zn×Bool):=[([65,78,68],true),([79,82],true),([78,79,84],true),([73,83],true),([78,85,76,76],true),([84,82,85,69],true),([70,65,76,83,69],true),([67,82,69,65,84,69],true),([84,65,66,76,69],true),([73,78,84],true),([84,69,88,84],true),([66,79,79,76],true),([75,69,89],true),([85,78,73,81,85,69],true),([82,69,70,69,82,69,78,67,69,83],true),([67,72,69,67,75],true),([68,82,79,80],true),([73,78,83,69,82,84],true),([73,78,84,79],true),([86,65,76,85,69,83],true),([85,80,68,65,84,69],true),([83,69,84],true),([87,72,69,82,69],true),([68,69,76,69,84,69],true),([70,82,79,77],true),([83,69,76,69,67,84],true),([71,82,65,78,84],true),([82,69,65,68],true),([87,82,73,84,69],true),([79,78],true),([84,79],true),([82,69,86,79,75,69],true),([77,73,71,82,65,84,69],true),([67,79,80,89],true),([74,79,73,78],true),([71,82,79,85,80],true),([66,89],true),([83,85,77],true)]
def Er:List (zn×Int):=[([108,105,116],0),([99,111,108],0),([110,111,116],1),([110,117,108,108],1),([97,110,100],2),([111,114],2),([61],2),([60],2),([43],2),([45],2)]

def wY (s:zn):Bool:=UW s Pg false
def cn (s:zn):Int:=UW s Er (-1)

def zQ (c:Int):Bool:=bif decide (c ≥ 48) then decide (c≤57) else false
def aA (c:Int):Bool:=bif decide (c ≥ 97) then
  bif decide (c≤122) then true else bif decide (c ≥ 65) then decide (c≤90) else false
 else bif decide (c ≥ 65) then decide (c≤90) else false
def bV (c:Int):Bool:=bif aA c then true else bif zQ c then true else c==95

noncomputable def om:bf:=(((zdo.aut 270 Tryz.f270 1).aut 271 Tryz.f271 1).aut 269 Tryz.f269 1).aut 233 Tryz.f233 0
theorem kd:zm om:=by
 refine io (io (io (io LW ?_) ?_) ?_) ?_ <;> (refine ⟨?_,?_,?_,?_⟩ <;> kernel_rfl)

theorem zhL (s:zn):run om 0 (fun _=>{}) Tryz.f171.results.toList 400 (au Tryz.f171) (z7 Tryz.f171.ntmps [.str s] [])=swT (fun b=>.ret (.kb b) []) s Pg false:=by kernel_rfl
theorem zfm:zA om.P 171 Tryz.f171 1:=aJ (by kernel_rfl)
theorem zbv:FK 171 (oB [.str] [.bool] fun x=>some (wY x.1,())):=by
 refine qj zfm fun x y hx C hC=>?_
 cases hx
 refine cz (n0:=0) kd zfm (fun id _=>hC id) (fun _=>{}) 400 ?_
 have e:f6 ([Sh.str].map some) x=[.str x.1]:=rfl
 rw [e,zhL]
 exact CJ Pg rfl

theorem zh8 (s:zn):run om 0 (fun _=>{}) Tryz.f204.results.toList 400 (au Tryz.f204) (z7 Tryz.f204.ntmps [.str s] [])=swT (fun b=>.ret (.int .i64 b) []) s Er (-1):=by kernel_rfl
theorem zfH:zA om.P 204 Tryz.f204 1:=aJ (by kernel_rfl)
theorem zbU:FK 204 (oB [.str] [zg] fun x=>some (cn x.1,())):=by
 refine qj zfH fun x y hx C hC=>?_
 cases hx
 refine cz (n0:=0) kd zfH (fun id _=>hC id) (fun _=>{}) 400 ?_
 have e:f6 ([Sh.str].map some) x=[.str x.1]:=rfl
 rw [e,zh8]
 exact CJ Er rfl

def fi (p:Int→Bool):zn→Nat
 | []=>0
 | c::r=>if p c.toNat then fi p r+1 else 0

def aq (f m:Int→Bool):zn→Nat
 | []=>0
 | c::r=>if f c.toNat then fi m r+1 else 0

theorem Reach.strLen {E:bf} {C:cq} {fn:FuncId} {todo:List Item} {st:St} {Q:AV→List AO→Prop} (j:Nat) (s:zn) (hj:st.tmps[j]?=some (.str s)) (h:s.length≤zF→Reach E C fn todo st Q):Reach E C fn todo st Q:=by
 intro b cs a w U ρ h1 h2 hc hW
 refine h ?_ b cs a w U ρ h1 h2 hc hW
 have hlt:j < a.tmps.toList.length:=by rw [← hc.tm.len]; exact (bG.1 hj).1
 have:=hc.tm.rv j _ _ hj (zI hlt)
 generalize a.tmps.toList[j]=v at this
 cases this with
 | str _ h=>exact h

abbrev Ec:Nat→zX:=fun _=>{slots:=[1,2,5]}
abbrev G5 (a b c d:AV) (s:zn) (n:Int):St:={
 tmps:=(tm 31 [(1,AV.str s),(2,AV.ptr 0 0),(5,AV.int .i64 n)]),
 heap:=[AO.box [a,b,c,d]] }
noncomputable abbrev Zv (a b c d:AV) (p:Int→Bool) (s:zn) (n:Int):Tr zr:=
 Tr.chk (bif decide (n < ↑(length s)) then zE n (length s) else true)
  (Tr.br (bif decide (n < ↑(length s)) then p ↑(List.getD s n.toNat 0).toNat else false)
   (Tr.ok (zr.head 4 (zx Tryz.f234 4) (G5 a b c d s (IntKind.i64.wrap (n+1)))))
   (Tr.ok (zr.ret (AV.int .i64 n) [])))
theorem RA:zA om.P 234 Tryz.f234 2:=aJ (by kernel_rfl)

theorem W3 {C:cq} (hC:∀ id,0≤id→C.ρ0 id=none) (a b c d:AV) (p:Int→Bool) (s:zn)
  (hon:∀ n,run om 0 Ec Tryz.f234.results.toList 300 (zx Tryz.f234 4) (G5 a b c d s n)=Zv a b c d p s n) (hl:s.length≤zF):∀ (k i:Nat),s.length - i=k→i≤s.length→
  Reach om C 234 (zx Tryz.f234 4) (G5 a b c d s i) (fun r h=>(r,h)=(.int .i64 ((i+fi p (s.drop i):Nat):Int),[]))
 | k,i,hk,hi=>by
  subst hk
  refine cz kd RA hC Ec 300 ?_
  rw [hon]
  refine ⟨?_,fun h=>?_,fun h=>?_⟩
  ·by_cases hlt:i < s.length
   ·have:decide ((i:Int) < s.length)=true:=by simpa using hlt
    simp [zE,hlt]
   ·have:decide ((i:Int) < s.length)=false:=by simpa using hlt
    simp [hlt]
  ·have hlt:i < s.length:=by
    by_cases hlt:i < s.length
    ·exact hlt
    ·have:decide ((i:Int) < s.length)=false:=by simpa using hlt
     rw [this] at h; cases h
   have hd:decide ((i:Int) < s.length)=true:=by simpa using hlt
   rw [hd,zY s _ hlt,bO] at h
   rw [dA hlt]
   simp only [fi]
   rw [if_pos h,zH i (by omega),show i+(fi p (List.drop (i+1) s)+1)=(i+1)+fi p (List.drop (i+1) s) by omega]
   exact W3 hC a b c d p s hon hl (s.length - (i+1)) (i+1) rfl (by omega)
  ·have:fi p (s.drop i)=0:=by
    by_cases hlt:i < s.length
    ·have hd:decide ((i:Int) < s.length)=true:=by simpa using hlt
     rw [hd,zY s _ hlt] at h
     rw [dA hlt]
     simp only [fi]
     rw [if_neg (by intro h'; rw [bO] at h; rw [h'] at h; cases h)]
    ·rw [yh (by omega)]; rfl
   rw [this]
   rfl
 termination_by k=>k

theorem zgg (s:zn) (n:Int):run om 0 Ec Tryz.f234.results.toList 300 (zx Tryz.f234 4) (G5 (AV.int .i64 1) (AV.int .i64 16) (AV.clo (Fn.func 270) [] []) (AV.clo (Fn.func 269) [] []) s n)=Zv (AV.int .i64 1) (AV.int .i64 16) (AV.clo (Fn.func 270) [] []) (AV.clo (Fn.func 269) [] []) bV s n:=by kernel_rfl
theorem zdL (s:zn):run om 0 Ec Tryz.f234.results.toList 300 (au Tryz.f234) (z7 Tryz.f234.ntmps [.agg [(AV.int .i64 1),(AV.int .i64 16),(AV.clo (Fn.func 270) [] []),(AV.clo (Fn.func 269) [] [])],.str s] [])=
 Tr.chk (bif s==[] then true else zE 0 (length s))
  (Tr.br (bif s==[] then true else !aA ↑(List.getD s (Int.toNat 0) 0).toNat) (Tr.ok (zr.ret (AV.int .i64 0) []))
   (Tr.ok (zr.head 4 (zx Tryz.f234 4) (G5 (AV.int .i64 1) (AV.int .i64 16) (AV.clo (Fn.func 270) [] []) (AV.clo (Fn.func 269) [] []) s 1)))):=by kernel_rfl
theorem WZ {C:cq} (hC:∀ id,0≤id→C.ρ0 id=none) (s:zn) (hl:s.length≤zF):Reach om C 234 (au Tryz.f234) (z7 Tryz.f234.ntmps [.agg [(AV.int .i64 1),(AV.int .i64 16),(AV.clo (Fn.func 270) [] []),(AV.clo (Fn.func 269) [] [])],.str s] []) (fun r h=>(r,h)=(.int .i64 (aq aA bV s:Nat),[])):=by
 refine cz (n0:=0) kd RA hC Ec 300 ?_
 rw [zdL]
 cases s with
 | nil=>exact ⟨rfl,fun _=>rfl,fun h=>by cases h⟩
 | cons c r=>
  refine ⟨by simp [zE],fun h=>?_,fun h=>?_⟩
  ·have h':aA ↑c.toNat=false:=by simpa using h
   simp only [aq,h']
   rfl
  ·have h':aA ↑c.toNat=true:=by simpa using h
   have:=W3 hC (AV.int .i64 1) (AV.int .i64 16) (AV.clo (Fn.func 270) [] []) (AV.clo (Fn.func 269) [] []) bV (c::r) (zgg (c::r)) hl _ 1 rfl (by simp)
   simp only [aq,h',if_true]
   rw [show 1+fi bV ((c::r).drop 1)=fi bV r+1 by simp [oT]] at this
   exact this

theorem zgh (s:zn) (n:Int):run om 0 Ec Tryz.f234.results.toList 300 (zx Tryz.f234 4) (G5 (AV.int .i64 2) (AV.int .i64 19) (AV.clo (Fn.func 271) [] []) (AV.clo (Fn.func 271) [] []) s n)=Zv (AV.int .i64 2) (AV.int .i64 19) (AV.clo (Fn.func 271) [] []) (AV.clo (Fn.func 271) [] []) zQ s n:=by kernel_rfl
theorem zdM (s:zn):run om 0 Ec Tryz.f234.results.toList 300 (au Tryz.f234) (z7 Tryz.f234.ntmps [.agg [(AV.int .i64 2),(AV.int .i64 19),(AV.clo (Fn.func 271) [] []),(AV.clo (Fn.func 271) [] [])],.str s] [])=
 Tr.chk (bif s==[] then true else zE 0 (length s))
  (Tr.br (bif s==[] then true else !zQ ↑(List.getD s (Int.toNat 0) 0).toNat) (Tr.ok (zr.ret (AV.int .i64 0) []))
   (Tr.ok (zr.head 4 (zx Tryz.f234 4) (G5 (AV.int .i64 2) (AV.int .i64 19) (AV.clo (Fn.func 271) [] []) (AV.clo (Fn.func 271) [] []) s 1)))):=by kernel_rfl
theorem W0 {C:cq} (hC:∀ id,0≤id→C.ρ0 id=none) (s:zn) (hl:s.length≤zF):Reach om C 234 (au Tryz.f234) (z7 Tryz.f234.ntmps [.agg [(AV.int .i64 2),(AV.int .i64 19),(AV.clo (Fn.func 271) [] []),(AV.clo (Fn.func 271) [] [])],.str s] []) (fun r h=>(r,h)=(.int .i64 (aq zQ zQ s:Nat),[])):=by
 refine cz (n0:=0) kd RA hC Ec 300 ?_
 rw [zdM]
 cases s with
 | nil=>exact ⟨rfl,fun _=>rfl,fun h=>by cases h⟩
 | cons c r=>
  refine ⟨by simp [zE],fun h=>?_,fun h=>?_⟩
  ·have h':zQ ↑c.toNat=false:=by simpa using h
   simp only [aq,h']
   rfl
  ·have h':zQ ↑c.toNat=true:=by simpa using h
   have:=W3 hC (AV.int .i64 2) (AV.int .i64 19) (AV.clo (Fn.func 271) [] []) (AV.clo (Fn.func 271) [] []) zQ (c::r) (zgh (c::r)) hl _ 1 rfl (by simp)
   simp only [aq,h',if_true]
   rw [show 1+fi zQ ((c::r).drop 1)=fi zQ r+1 by simp [oT]] at this
   exact this

def G65:cy [none,some .str]:=fun x h=>match x,h with
 | (.agg [.int .i64 1,.int .i64 16,.clo (.func 270) [] [],.clo (.func 269) [] []],s,_),[]=>.ok (.int .i64 (aq aA bV s:Nat),[])
 | (.agg [.int .i64 2,.int .i64 19,.clo (.func 271) [] [],.clo (.func 271) [] []],s,_),[]=>.ok (.int .i64 (aq zQ zQ s:Nat),[])
 | _,_=>.err

theorem zb4:FK 234 (zR [none,some .str] G65):=by
 refine bq RA fun x h0 res hx C hC=>?_
 unfold G65 at hx
 split at hx
 ·simp only [Tr.val_ok,ag] at hx
  subst hx
  rename_i _ _ s u
  have e:f6 [none,some Sh.str] (AV.agg [(AV.int .i64 1),(AV.int .i64 16),(AV.clo (Fn.func 270) [] []),(AV.clo (Fn.func 269) [] [])],s,u)=[AV.agg [(AV.int .i64 1),(AV.int .i64 16),(AV.clo (Fn.func 270) [] []),(AV.clo (Fn.func 269) [] [])],.str s]:=rfl
  rw [e]
  exact Reach.strLen 1 s rfl fun hl=>WZ hC s hl
 ·simp only [Tr.val_ok,ag] at hx
  subst hx
  rename_i _ _ s u
  have e:f6 [none,some Sh.str] (AV.agg [(AV.int .i64 2),(AV.int .i64 19),(AV.clo (Fn.func 271) [] []),(AV.clo (Fn.func 271) [] [])],s,u)=[AV.agg [(AV.int .i64 2),(AV.int .i64 19),(AV.clo (Fn.func 271) [] []),(AV.clo (Fn.func 271) [] [])],.str s]:=rfl
  rw [e]
  exact Reach.strLen 1 s rfl fun hl=>W0 hC s hl
 ·simp at hx

abbrev ed:Sh:=.pr (.int .i64) .str

noncomputable def Q2:bf:=((om.add 171 (oB [.str] [.bool] fun x=>some (wY x.1,()))).add 204 (oB [.str] [zg] fun x=>some (cn x.1,()))).add 234 (zR [none,some .str] G65)
theorem DL:zm Q2:=((kd.add zbv).add zbU).add zb4

def mC (s:zn):Bool:=bif decide ((↑(length s):Int) ≥ 1) then
  bif decide ((↑(length s):Int)≤16) then (↑(aq aA bV s):Int)==↑(length s) else false
 else false

def g49 (x:zw ([ed].map some)):Option (zw ([Sh.bool].map some)):=if x.1.1=1 then some (mC x.1.2,()) else none

theorem zh4 (s:zn):(run Q2 0 ZD Tryz.f169.results.toList 400 (au Tryz.f169) (z7 Tryz.f169.ntmps [.agg [.int .i64 1,.str s]] [])).val=some (.ret (.bool (mC s)) []):=by kernel_rfl
theorem zfD:zA Q2.P 169 Tryz.f169 1:=aJ (by kernel_rfl)
theorem zbO:FK 169 (oB [ed] [.bool] g49):=by
 refine qj zfD fun x y hx C hC=>?_
 obtain ⟨⟨k,s⟩,u⟩:=x
 unfold g49 at hx
 split at hx
 ·rename_i hk
  have hk':k=1:=hk
  subst hk'
  cases hx
  have e:f6 ([ed].map some) (((1,s),u):zw ([ed].map some))=[.agg [.int .i64 1,.str s]]:=rfl
  rw [e]
  exact nc (n0:=0) DL zfD (fun id _=>hC id) (zh4 s) rfl
 ·cases hx

noncomputable def zdp:bf:=Q2.add 169 (oB [ed] [.bool] g49)
theorem LZ:zm zdp:=DL.add zbO
noncomputable def zdq:bf:=zdp.aut 170 Tryz.f170 1
theorem L0:zm zdq:=io LZ (aJ (by kernel_rfl))
noncomputable def JT:bf:=zdq.aut 92 Tryz.f92 1
theorem DN:zm JT:=io L0 (aJ (by kernel_rfl))
end Cad
