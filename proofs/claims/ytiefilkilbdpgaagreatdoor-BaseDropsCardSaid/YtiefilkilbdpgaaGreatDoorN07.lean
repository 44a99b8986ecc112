/- Words, names, runs of octets. Names. -/
import Derived.Test.YtiefilkilbdpgaaGreatDoorN06
namespace Cad
open Go Go.Proofs
open List (length)

def swT {β:Type} (leaf:β→zt) (s:zp):List (zp×β)→β→Tr zt
 | [],d=>.ok (leaf d)
 | (w,b)::r,d=>.br (s==w) (.ok (leaf b)) (swT leaf s r d)

def YJ {β:Type} (s:zp):List (zp×β)→β→β
 | [],d=>d
 | (w,b)::r,d=>if s==w then b else YJ s r d

theorem CC {β:Type} {leaf:β→zt} {s:zp} {d:β} {Φ:zt→Prop}:∀ (l:List (zp×β)),Φ (leaf (YJ s l d))→(swT leaf s l d).Sat Φ
 | [],h=>h
 | (w,b)::r,h=>by
  refine ⟨fun hc=>?_,fun hc=>CC r ?_⟩
  ·simp only [YJ] at h; rw [if_pos hc] at h; exact h
  ·simp only [YJ] at h; rw [if_neg (by rw [hc]; simp)] at h; exact h

def OV:List (zp×Bool):=[([65,78,68],true),([79,82],true),([78,79,84],true),([73,83],true),([78,85,76,76],true),([84,82,85,69],true),([70,65,76,83,69],true),([67,82,69,65,84,69],true),([84,65,66,76,69],true),([73,78,84],true),([84,69,88,84],true),([66,79,79,76],true),([75,69,89],true),([85,78,73,81,85,69],true),([82,69,70,69,82,69,78,67,69,83],true),([67,72,69,67,75],true),([68,82,79,80],true),([73,78,83,69,82,84],true),([73,78,84,79],true),([86,65,76,85,69,83],true),([85,80,68,65,84,69],true),([83,69,84],true),([87,72,69,82,69],true),([68,69,76,69,84,69],true),([70,82,79,77],true),([83,69,76,69,67,84],true),([71,82,65,78,84],true),([82,69,65,68],true),([87,82,73,84,69],true),([79,78],true),([84,79],true),([82,69,86,79,75,69],true),([77,73,71,82,65,84,69],true),([67,79,80,89],true),([74,79,73,78],true),([71,82,79,85,80],true),([66,89],true),([83,85,77],true)]
def Il:List (zp×Int):=[([108,105,116],0),([99,111,108],0),([110,111,116],1),([110,117,108,108],1),([97,110,100],2),([111,114],2),([61],2),([60],2),([43],2),([45],2)]

def EA (s:zp):Bool:=YJ s OV false
def dH (s:zp):Int:=YJ s Il (-1)

def zV (c:Int):Bool:=bif decide (c ≥ 48) then decide (c≤57) else false
def aK (c:Int):Bool:=bif decide (c ≥ 97) then
  bif decide (c≤122) then true else bif decide (c ≥ 65) then decide (c≤90) else false
 else bif decide (c ≥ 65) then decide (c≤90) else false
def cm (c:Int):Bool:=bif aK c then true else bif zV c then true else c==95

noncomputable def o9:bx:=(((zcO.aut 270 Tryz.f270 1).aut 271 Tryz.f271 1).aut 269 Tryz.f269 1).aut 233 Tryz.f233 0
theorem kL:zl o9:=by
 refine iP (iP (iP (iP Lz ?_) ?_) ?_) ?_ <;> (refine ⟨?_,?_,?_,?_⟩ <;> kernel_rfl)

theorem zg5 (s:zp):run o9 0 (fun _=>{}) Tryz.f171.results.toList 400 (aC Tryz.f171) (ar Tryz.f171.ntmps [.str s] [])=swT (fun b=>.ret (.kb b) []) s OV false:=by kernel_rfl
theorem zeG:zA o9.P 171 Tryz.f171 1:=aS (by kernel_rfl)
theorem zaS:FK 171 (pn [.str] [.bool] fun x=>some (EA x.1,())):=by
 refine ra zeG fun x y hx C hC=>?_
 cases hx
 refine cM (n0:=0) kL zeG (fun id _=>hC id) (fun _=>{}) 400 ?_
 have e:gD ([Sh.str].map some) x=[.str x.1]:=rfl
 rw [e,zg5]
 exact CC OV rfl

theorem zhs (s:zp):run o9 0 (fun _=>{}) Tryz.f204.results.toList 400 (aC Tryz.f204) (ar Tryz.f204.ntmps [.str s] [])=swT (fun b=>.ret (.int .i64 b) []) s Il (-1):=by kernel_rfl
theorem ze2:zA o9.P 204 Tryz.f204 1:=aS (by kernel_rfl)
theorem zbh:FK 204 (pn [.str] [zg] fun x=>some (dH x.1,())):=by
 refine ra ze2 fun x y hx C hC=>?_
 cases hx
 refine cM (n0:=0) kL ze2 (fun id _=>hC id) (fun _=>{}) 400 ?_
 have e:gD ([Sh.str].map some) x=[.str x.1]:=rfl
 rw [e,zhs]
 exact CC Il rfl

def fF (p:Int→Bool):zp→Nat
 | []=>0
 | c::r=>if p c.toNat then fF p r+1 else 0

def aA (f m:Int→Bool):zp→Nat
 | []=>0
 | c::r=>if f c.toNat then fF m r+1 else 0

theorem Reach.strLen {E:bx} {C:cI} {fn:FuncId} {todo:List Item} {st:St} {Q:AV→List AO→Prop} (j:Nat) (s:zp) (hj:st.tmps[j]?=some (.str s)) (h:s.length≤zB→Reach E C fn todo st Q):Reach E C fn todo st Q:=by
 intro b cs a w U ρ h1 h2 hc hW
 refine h ?_ b cs a w U ρ h1 h2 hc hW
 have hlt:j < a.tmps.toList.length:=by rw [← hc.tm.len]; exact (bR.1 hj).1
 have:=hc.tm.rv j _ _ hj (zJ hlt)
 generalize a.tmps.toList[j]=v at this
 cases this with
 | str _ h=>exact h

abbrev D5:Nat→aj:=fun _=>{slots:=[1,2,5]}
abbrev GW (a b c d:AV) (s:zp) (n:Int):St:={
 tmps:=(tm 31 [(1,AV.str s),(2,AV.ptr 0 0),(5,AV.int .i64 n)]),
 heap:=[AO.box [a,b,c,d]] }
noncomputable abbrev YP (a b c d:AV) (p:Int→Bool) (s:zp) (n:Int):Tr zt:=
 Tr.chk (bif decide (n < ↑(length s)) then zI n (length s) else true)
  (Tr.br (bif decide (n < ↑(length s)) then p ↑(List.getD s n.toNat 0).toNat else false)
   (Tr.ok (zt.head 4 (zy Tryz.f234 4) (GW a b c d s (IntKind.i64.wrap (n+1)))))
   (Tr.ok (zt.ret (AV.int .i64 n) [])))
theorem QZ:zA o9.P 234 Tryz.f234 2:=aS (by kernel_rfl)

theorem V9 {C:cI} (hC:∀ id,0≤id→C.ρ0 id=none) (a b c d:AV) (p:Int→Bool) (s:zp)
  (hon:∀ n,run o9 0 D5 Tryz.f234.results.toList 300 (zy Tryz.f234 4) (GW a b c d s n)=YP a b c d p s n) (hl:s.length≤zB):∀ (k i:Nat),s.length - i=k→i≤s.length→
  Reach o9 C 234 (zy Tryz.f234 4) (GW a b c d s i) (fun r h=>(r,h)=(.int .i64 ((i+fF p (s.drop i):Nat):Int),[]))
 | k,i,hk,hi=>by
  subst hk
  refine cM kL QZ hC D5 300 ?_
  rw [hon]
  refine ⟨?_,fun h=>?_,fun h=>?_⟩
  ·by_cases hlt:i < s.length
   ·have:decide ((i:Int) < s.length)=true:=by simpa using hlt
    simp [zI,hlt]
   ·have:decide ((i:Int) < s.length)=false:=by simpa using hlt
    simp [hlt]
  ·have hlt:i < s.length:=by
    by_cases hlt:i < s.length
    ·exact hlt
    ·have:decide ((i:Int) < s.length)=false:=by simpa using hlt
     rw [this] at h; cases h
   have hd:decide ((i:Int) < s.length)=true:=by simpa using hlt
   rw [hd,ae s _ hlt,aR] at h
   rw [cX hlt]
   simp only [fF]
   rw [if_pos h,zD i (by omega),show i+(fF p (List.drop (i+1) s)+1)=(i+1)+fF p (List.drop (i+1) s) by omega]
   exact V9 hC a b c d p s hon hl (s.length - (i+1)) (i+1) rfl (by omega)
  ·have:fF p (s.drop i)=0:=by
    by_cases hlt:i < s.length
    ·have hd:decide ((i:Int) < s.length)=true:=by simpa using hlt
     rw [hd,ae s _ hlt] at h
     rw [cX hlt]
     simp only [fF]
     rw [if_neg (by intro h'; rw [aR] at h; rw [h'] at h; cases h)]
    ·rw [yB (by omega)]; rfl
   rw [this]
   rfl
 termination_by k=>k

theorem zfD (s:zp) (n:Int):run o9 0 D5 Tryz.f234.results.toList 300 (zy Tryz.f234 4) (GW (AV.int .i64 1) (AV.int .i64 16) (AV.clo (Fn.func 270) [] []) (AV.clo (Fn.func 269) [] []) s n)=YP (AV.int .i64 1) (AV.int .i64 16) (AV.clo (Fn.func 270) [] []) (AV.clo (Fn.func 269) [] []) cm s n:=by kernel_rfl
theorem zdd (s:zp):run o9 0 D5 Tryz.f234.results.toList 300 (aC Tryz.f234) (ar Tryz.f234.ntmps [.agg [(AV.int .i64 1),(AV.int .i64 16),(AV.clo (Fn.func 270) [] []),(AV.clo (Fn.func 269) [] [])],.str s] [])=
 Tr.chk (bif s==[] then true else zI 0 (length s))
  (Tr.br (bif s==[] then true else !aK ↑(List.getD s (Int.toNat 0) 0).toNat) (Tr.ok (zt.ret (AV.int .i64 0) []))
   (Tr.ok (zt.head 4 (zy Tryz.f234 4) (GW (AV.int .i64 1) (AV.int .i64 16) (AV.clo (Fn.func 270) [] []) (AV.clo (Fn.func 269) [] []) s 1)))):=by kernel_rfl
theorem V5 {C:cI} (hC:∀ id,0≤id→C.ρ0 id=none) (s:zp) (hl:s.length≤zB):Reach o9 C 234 (aC Tryz.f234) (ar Tryz.f234.ntmps [.agg [(AV.int .i64 1),(AV.int .i64 16),(AV.clo (Fn.func 270) [] []),(AV.clo (Fn.func 269) [] [])],.str s] []) (fun r h=>(r,h)=(.int .i64 (aA aK cm s:Nat),[])):=by
 refine cM (n0:=0) kL QZ hC D5 300 ?_
 rw [zdd]
 cases s with
 | nil=>exact ⟨rfl,fun _=>rfl,fun h=>by cases h⟩
 | cons c r=>
  refine ⟨by simp [zI],fun h=>?_,fun h=>?_⟩
  ·have h':aK ↑c.toNat=false:=by simpa using h
   simp only [aA,h']
   rfl
  ·have h':aK ↑c.toNat=true:=by simpa using h
   have:=V9 hC (AV.int .i64 1) (AV.int .i64 16) (AV.clo (Fn.func 270) [] []) (AV.clo (Fn.func 269) [] []) cm (c::r) (zfD (c::r)) hl _ 1 rfl (by simp)
   simp only [aA,h',if_true]
   rw [show 1+fF cm ((c::r).drop 1)=fF cm r+1 by simp [oB]] at this
   exact this

theorem zfE (s:zp) (n:Int):run o9 0 D5 Tryz.f234.results.toList 300 (zy Tryz.f234 4) (GW (AV.int .i64 2) (AV.int .i64 19) (AV.clo (Fn.func 271) [] []) (AV.clo (Fn.func 271) [] []) s n)=YP (AV.int .i64 2) (AV.int .i64 19) (AV.clo (Fn.func 271) [] []) (AV.clo (Fn.func 271) [] []) zV s n:=by kernel_rfl
theorem zde (s:zp):run o9 0 D5 Tryz.f234.results.toList 300 (aC Tryz.f234) (ar Tryz.f234.ntmps [.agg [(AV.int .i64 2),(AV.int .i64 19),(AV.clo (Fn.func 271) [] []),(AV.clo (Fn.func 271) [] [])],.str s] [])=
 Tr.chk (bif s==[] then true else zI 0 (length s))
  (Tr.br (bif s==[] then true else !zV ↑(List.getD s (Int.toNat 0) 0).toNat) (Tr.ok (zt.ret (AV.int .i64 0) []))
   (Tr.ok (zt.head 4 (zy Tryz.f234 4) (GW (AV.int .i64 2) (AV.int .i64 19) (AV.clo (Fn.func 271) [] []) (AV.clo (Fn.func 271) [] []) s 1)))):=by kernel_rfl
theorem V6 {C:cI} (hC:∀ id,0≤id→C.ρ0 id=none) (s:zp) (hl:s.length≤zB):Reach o9 C 234 (aC Tryz.f234) (ar Tryz.f234.ntmps [.agg [(AV.int .i64 2),(AV.int .i64 19),(AV.clo (Fn.func 271) [] []),(AV.clo (Fn.func 271) [] [])],.str s] []) (fun r h=>(r,h)=(.int .i64 (aA zV zV s:Nat),[])):=by
 refine cM (n0:=0) kL QZ hC D5 300 ?_
 rw [zde]
 cases s with
 | nil=>exact ⟨rfl,fun _=>rfl,fun h=>by cases h⟩
 | cons c r=>
  refine ⟨by simp [zI],fun h=>?_,fun h=>?_⟩
  ·have h':zV ↑c.toNat=false:=by simpa using h
   simp only [aA,h']
   rfl
  ·have h':zV ↑c.toNat=true:=by simpa using h
   have:=V9 hC (AV.int .i64 2) (AV.int .i64 19) (AV.clo (Fn.func 271) [] []) (AV.clo (Fn.func 271) [] []) zV (c::r) (zfE (c::r)) hl _ 1 rfl (by simp)
   simp only [aA,h',if_true]
   rw [show 1+fF zV ((c::r).drop 1)=fF zV r+1 by simp [oB]] at this
   exact this

def G65:cG [none,some .str]:=fun x h=>match x,h with
 | (.agg [.int .i64 1,.int .i64 16,.clo (.func 270) [] [],.clo (.func 269) [] []],s,_),[]=>.ok (.int .i64 (aA aK cm s:Nat),[])
 | (.agg [.int .i64 2,.int .i64 19,.clo (.func 271) [] [],.clo (.func 271) [] []],s,_),[]=>.ok (.int .i64 (aA zV zV s:Nat),[])
 | _,_=>.err

theorem zbr:FK 234 (zU [none,some .str] G65):=by
 refine bC QZ fun x h0 res hx C hC=>?_
 unfold G65 at hx
 split at hx
 ·simp only [Tr.val_ok,ap] at hx
  subst hx
  rename_i _ _ s u
  have e:gD [none,some Sh.str] (AV.agg [(AV.int .i64 1),(AV.int .i64 16),(AV.clo (Fn.func 270) [] []),(AV.clo (Fn.func 269) [] [])],s,u)=[AV.agg [(AV.int .i64 1),(AV.int .i64 16),(AV.clo (Fn.func 270) [] []),(AV.clo (Fn.func 269) [] [])],.str s]:=rfl
  rw [e]
  exact Reach.strLen 1 s rfl fun hl=>V5 hC s hl
 ·simp only [Tr.val_ok,ap] at hx
  subst hx
  rename_i _ _ s u
  have e:gD [none,some Sh.str] (AV.agg [(AV.int .i64 2),(AV.int .i64 19),(AV.clo (Fn.func 271) [] []),(AV.clo (Fn.func 271) [] [])],s,u)=[AV.agg [(AV.int .i64 2),(AV.int .i64 19),(AV.clo (Fn.func 271) [] []),(AV.clo (Fn.func 271) [] [])],.str s]:=rfl
  rw [e]
  exact Reach.strLen 1 s rfl fun hl=>V6 hC s hl
 ·simp at hx

abbrev eA:Sh:=.pr (.int .i64) .str

noncomputable def Qs:bx:=((o9.add 171 (pn [.str] [.bool] fun x=>some (EA x.1,()))).add 204 (pn [.str] [zg] fun x=>some (dH x.1,()))).add 234 (zU [none,some .str] G65)
theorem DD:zl Qs:=((kL.add zaS).add zbh).add zbr

def nv (s:zp):Bool:=bif decide ((↑(length s):Int) ≥ 1) then
  bif decide ((↑(length s):Int)≤16) then (↑(aA aK cm s):Int)==↑(length s) else false
 else false

def g49 (x:zx ([eA].map some)):Option (zx ([Sh.bool].map some)):=if x.1.1=1 then some (nv x.1.2,()) else none

theorem zho (s:zp):(run Qs 0 Y1 Tryz.f169.results.toList 400 (aC Tryz.f169) (ar Tryz.f169.ntmps [.agg [.int .i64 1,.str s]] [])).val=some (.ret (.bool (nv s)) []):=by kernel_rfl
theorem zeY:zA Qs.P 169 Tryz.f169 1:=aS (by kernel_rfl)
theorem zbb:FK 169 (pn [eA] [.bool] g49):=by
 refine ra zeY fun x y hx C hC=>?_
 obtain ⟨⟨k,s⟩,u⟩:=x
 unfold g49 at hx
 split at hx
 ·rename_i hk
  have hk':k=1:=hk
  subst hk'
  cases hx
  have e:gD ([eA].map some) (((1,s),u):zx ([eA].map some))=[.agg [.int .i64 1,.str s]]:=rfl
  rw [e]
  exact n5 (n0:=0) DD zeY (fun id _=>hC id) (zho s) rfl
 ·cases hx

noncomputable def zcP:bx:=Qs.add 169 (pn [eA] [.bool] g49)
theorem LB:zl zcP:=DD.add zbb
noncomputable def zcQ:bx:=zcP.aut 170 Tryz.f170 1
theorem LD:zl zcQ:=iP LB (aS (by kernel_rfl))
noncomputable def Jx:bx:=zcQ.aut 92 Tryz.f92 1
theorem DF:zl Jx:=iP LD (aS (by kernel_rfl))
end Cad
