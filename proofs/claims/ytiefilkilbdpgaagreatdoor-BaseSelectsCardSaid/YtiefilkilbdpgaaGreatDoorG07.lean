/- Words, names, runs of octets. Names. -/
import Derived.Test.YtiefilkilbdpgaaGreatDoorG06
namespace Cad
open Go Go.Proofs
open List (length)

def ZH {β:Type} (leaf:β→zp) (s:zn):List (zn×β)→β→Tr zp
 | [],d=>.ok (leaf d)
 | (w,b)::r,d=>.br (s==w) (.ok (leaf b)) (ZH leaf s r d)

def SB {β:Type} (s:zn):List (zn×β)→β→β
 | [],d=>d
 | (w,b)::r,d=>if s==w then b else SB s r d

theorem yw {β:Type} {leaf:β→zp} {s:zn} {d:β} {Φ:zp→Prop}:∀ (l:List (zn×β)),Φ (leaf (SB s l d))→(ZH leaf s l d).Sat Φ
 | [],h=>h
 | (w,b)::r,h=>by
  refine ⟨fun hc=>?_,fun hc=>yw r ?_⟩
  ·simp only [SB] at h; rw [if_pos hc] at h; exact h
  ·simp only [SB] at h; rw [if_neg (by rw [hc]; simp)] at h; exact h

def JI:List (zn×Bool):=[([65,78,68],true),([79,82],true),([78,79,84],true),([73,83],true),([78,85,76,76],true),([84,82,85,69],true),([70,65,76,83,69],true),([67,82,69,65,84,69],true),([84,65,66,76,69],true),([73,78,84],true),([84,69,88,84],true),([66,79,79,76],true),([75,69,89],true),([85,78,73,81,85,69],true),([82,69,70,69,82,69,78,67,69,83],true),([67,72,69,67,75],true),([68,82,79,80],true),([73,78,83,69,82,84],true),([73,78,84,79],true),([86,65,76,85,69,83],true),([85,80,68,65,84,69],true),([83,69,84],true),([87,72,69,82,69],true),([68,69,76,69,84,69],true),([70,82,79,77],true),([83,69,76,69,67,84],true),([71,82,65,78,84],true),([82,69,65,68],true),([87,82,73,84,69],true),([79,78],true),([84,79],true),([82,69,86,79,75,69],true),([77,73,71,82,65,84,69],true),([67,79,80,89],true),([74,79,73,78],true),([71,82,79,85,80],true),([66,89],true),([83,85,77],true)]
def D3:List (zn×Int):=[([108,105,116],0),([99,111,108],0),([110,111,116],1),([110,117,108,108],1),([97,110,100],2),([111,114],2),([61],2),([60],2),([43],2),([45],2)]

def Bj (s:zn):Bool:=SB s JI false
def cW (s:zn):Int:=SB s D3 (-1)

def zT (c:Int):Bool:=bif decide (c ≥ 48) then decide (c≤57) else false
def aS (c:Int):Bool:=bif decide (c ≥ 97) then
  bif decide (c≤122) then true else bif decide (c ≥ 65) then decide (c≤90) else false
 else bif decide (c ≥ 65) then decide (c≤90) else false
def cJ (c:Int):Bool:=bif aS c then true else bif zT c then true else c==95

noncomputable def mS:ba:=(((Wt.aut 270 Tryz.f270 1).aut 271 Tryz.f271 1).aut 269 Tryz.f269 1).aut 233 Tryz.f233 0
theorem jj:zm mS:=by
 refine gA (gA (gA (gA GL ?_) ?_) ?_) ?_ <;> (refine ⟨?_,?_,?_,?_⟩ <;> kernel_rfl)

theorem zao (s:zn):run mS 0 (fun _=>{}) Tryz.f171.results.toList 400 (ah Tryz.f171) (zU Tryz.f171.ntmps [.str s] [])=ZH (fun b=>.ret (.kb b) []) s JI false:=by kernel_rfl
theorem Yf:zz mS.P 171 Tryz.f171 1:=aG (by kernel_rfl)
theorem UA:FK 171 (m9 [.str] [.bool] fun x=>some (Bj x.1,())):=by
 refine oN Yf fun x y hx C hC=>?_
 cases hx
 refine cd (n0:=0) jj Yf (fun id _=>hC id) (fun _=>{}) 400 ?_
 have e:fm ([Sh.str].map some) x=[.str x.1]:=rfl
 rw [e,zao]
 exact yw JI rfl

theorem zaL (s:zn):run mS 0 (fun _=>{}) Tryz.f204.results.toList 400 (ah Tryz.f204) (zU Tryz.f204.ntmps [.str s] [])=ZH (fun b=>.ret (.int .i64 b) []) s D3 (-1):=by kernel_rfl
theorem YA:zz mS.P 204 Tryz.f204 1:=aG (by kernel_rfl)
theorem UZ:FK 204 (m9 [.str] [zg] fun x=>some (cW x.1,())):=by
 refine oN YA fun x y hx C hC=>?_
 cases hx
 refine cd (n0:=0) jj YA (fun id _=>hC id) (fun _=>{}) 400 ?_
 have e:fm ([Sh.str].map some) x=[.str x.1]:=rfl
 rw [e,zaL]
 exact yw D3 rfl

def iN (p:Int→Bool):zn→Nat
 | []=>0
 | c::r=>if p c.toNat then iN p r+1 else 0

def aA (f m:Int→Bool):zn→Nat
 | []=>0
 | c::r=>if f c.toNat then iN m r+1 else 0

theorem Reach.strLen {E:ba} {C:bW} {fn:FuncId} {todo:List Item} {st:St} {Q:AV→List AO→Prop} (j:Nat) (s:zn) (hj:st.tmps[j]?=some (.str s)) (h:s.length≤zD→Reach E C fn todo st Q):Reach E C fn todo st Q:=by
 intro b cs a w U ρ h1 h2 hc hW
 refine h ?_ b cs a w U ρ h1 h2 hc hW
 have hlt:j < a.tmps.toList.length:=by rw [← hc.tm.len]; exact (bw.1 hj).1
 have:=hc.tm.rv j _ _ hj (zJ hlt)
 generalize a.tmps.toList[j]=v at this
 cases this with
 | str _ h=>exact h

abbrev AP:Nat→zS:=fun _=>{slots:=[1,2,5]}
abbrev CV (a b c d:AV) (s:zn) (n:Int):St:={
 tmps:=(tm 31 [(1,AV.str s),(2,AV.ptr 0 0),(5,AV.int .i64 n)]),
 heap:=[AO.box [a,b,c,d]] }
noncomputable abbrev SH (a b c d:AV) (p:Int→Bool) (s:zn) (n:Int):Tr zp:=
 Tr.chk (bif decide (n < ↑(length s)) then zH n (length s) else true)
  (Tr.br (bif decide (n < ↑(length s)) then p ↑(List.getD s n.toNat 0).toNat else false)
   (Tr.ok (zp.head 4 (zx Tryz.f234 4) (CV a b c d s (IntKind.i64.wrap (n+1)))))
   (Tr.ok (zp.ret (AV.int .i64 n) [])))
theorem LP:zz mS.P 234 Tryz.f234 2:=aG (by kernel_rfl)

theorem Qk {C:bW} (hC:∀ id,0≤id→C.ρ0 id=none) (a b c d:AV) (p:Int→Bool) (s:zn)
  (hon:∀ n,run mS 0 AP Tryz.f234.results.toList 300 (zx Tryz.f234 4) (CV a b c d s n)=SH a b c d p s n) (hl:s.length≤zD):∀ (k i:Nat),s.length - i=k→i≤s.length→
  Reach mS C 234 (zx Tryz.f234 4) (CV a b c d s i) (fun r h=>(r,h)=(.int .i64 ((i+iN p (s.drop i):Nat):Int),[]))
 | k,i,hk,hi=>by
  subst hk
  refine cd jj LP hC AP 300 ?_
  rw [hon]
  refine ⟨?_,fun h=>?_,fun h=>?_⟩
  ·by_cases hlt:i < s.length
   ·have:decide ((i:Int) < s.length)=true:=by simpa using hlt
    simp [zH,hlt]
   ·have:decide ((i:Int) < s.length)=false:=by simpa using hlt
    simp [hlt]
  ·have hlt:i < s.length:=by
    by_cases hlt:i < s.length
    ·exact hlt
    ·have:decide ((i:Int) < s.length)=false:=by simpa using hlt
     rw [this] at h; cases h
   have hd:decide ((i:Int) < s.length)=true:=by simpa using hlt
   rw [hd,ag s _ hlt,bJ] at h
   rw [c6 hlt]
   simp only [iN]
   rw [if_pos h,zG i (by omega),show i+(iN p (List.drop (i+1) s)+1)=(i+1)+iN p (List.drop (i+1) s) by omega]
   exact Qk hC a b c d p s hon hl (s.length - (i+1)) (i+1) rfl (by omega)
  ·have:iN p (s.drop i)=0:=by
    by_cases hlt:i < s.length
    ·have hd:decide ((i:Int) < s.length)=true:=by simpa using hlt
     rw [hd,ag s _ hlt] at h
     rw [c6 hlt]
     simp only [iN]
     rw [if_neg (by intro h'; rw [bJ] at h; rw [h'] at h; cases h)]
    ·rw [vg (by omega)]; rfl
   rw [this]
   rfl
 termination_by k=>k

theorem Y9 (s:zn) (n:Int):run mS 0 AP Tryz.f234.results.toList 300 (zx Tryz.f234 4) (CV (AV.int .i64 1) (AV.int .i64 16) (AV.clo (Fn.func 270) [] []) (AV.clo (Fn.func 269) [] []) s n)=SH (AV.int .i64 1) (AV.int .i64 16) (AV.clo (Fn.func 270) [] []) (AV.clo (Fn.func 269) [] []) cJ s n:=by kernel_rfl
theorem WR (s:zn):run mS 0 AP Tryz.f234.results.toList 300 (ah Tryz.f234) (zU Tryz.f234.ntmps [.agg [(AV.int .i64 1),(AV.int .i64 16),(AV.clo (Fn.func 270) [] []),(AV.clo (Fn.func 269) [] [])],.str s] [])=
 Tr.chk (bif s==[] then true else zH 0 (length s))
  (Tr.br (bif s==[] then true else !aS ↑(List.getD s (Int.toNat 0) 0).toNat) (Tr.ok (zp.ret (AV.int .i64 0) []))
   (Tr.ok (zp.head 4 (zx Tryz.f234 4) (CV (AV.int .i64 1) (AV.int .i64 16) (AV.clo (Fn.func 270) [] []) (AV.clo (Fn.func 269) [] []) s 1)))):=by kernel_rfl
theorem Qg {C:bW} (hC:∀ id,0≤id→C.ρ0 id=none) (s:zn) (hl:s.length≤zD):Reach mS C 234 (ah Tryz.f234) (zU Tryz.f234.ntmps [.agg [(AV.int .i64 1),(AV.int .i64 16),(AV.clo (Fn.func 270) [] []),(AV.clo (Fn.func 269) [] [])],.str s] []) (fun r h=>(r,h)=(.int .i64 (aA aS cJ s:Nat),[])):=by
 refine cd (n0:=0) jj LP hC AP 300 ?_
 rw [WR]
 cases s with
 | nil=>exact ⟨rfl,fun _=>rfl,fun h=>by cases h⟩
 | cons c r=>
  refine ⟨by simp [zH],fun h=>?_,fun h=>?_⟩
  ·have h':aS ↑c.toNat=false:=by simpa using h
   simp only [aA,h']
   rfl
  ·have h':aS ↑c.toNat=true:=by simpa using h
   have:=Qk hC (AV.int .i64 1) (AV.int .i64 16) (AV.clo (Fn.func 270) [] []) (AV.clo (Fn.func 269) [] []) cJ (c::r) (Y9 (c::r)) hl _ 1 rfl (by simp)
   simp only [aA,h',if_true]
   rw [show 1+iN cJ ((c::r).drop 1)=iN cJ r+1 by simp [nr]] at this
   exact this

theorem Za (s:zn) (n:Int):run mS 0 AP Tryz.f234.results.toList 300 (zx Tryz.f234 4) (CV (AV.int .i64 2) (AV.int .i64 19) (AV.clo (Fn.func 271) [] []) (AV.clo (Fn.func 271) [] []) s n)=SH (AV.int .i64 2) (AV.int .i64 19) (AV.clo (Fn.func 271) [] []) (AV.clo (Fn.func 271) [] []) zT s n:=by kernel_rfl
theorem WS (s:zn):run mS 0 AP Tryz.f234.results.toList 300 (ah Tryz.f234) (zU Tryz.f234.ntmps [.agg [(AV.int .i64 2),(AV.int .i64 19),(AV.clo (Fn.func 271) [] []),(AV.clo (Fn.func 271) [] [])],.str s] [])=
 Tr.chk (bif s==[] then true else zH 0 (length s))
  (Tr.br (bif s==[] then true else !zT ↑(List.getD s (Int.toNat 0) 0).toNat) (Tr.ok (zp.ret (AV.int .i64 0) []))
   (Tr.ok (zp.head 4 (zx Tryz.f234 4) (CV (AV.int .i64 2) (AV.int .i64 19) (AV.clo (Fn.func 271) [] []) (AV.clo (Fn.func 271) [] []) s 1)))):=by kernel_rfl
theorem Qh {C:bW} (hC:∀ id,0≤id→C.ρ0 id=none) (s:zn) (hl:s.length≤zD):Reach mS C 234 (ah Tryz.f234) (zU Tryz.f234.ntmps [.agg [(AV.int .i64 2),(AV.int .i64 19),(AV.clo (Fn.func 271) [] []),(AV.clo (Fn.func 271) [] [])],.str s] []) (fun r h=>(r,h)=(.int .i64 (aA zT zT s:Nat),[])):=by
 refine cd (n0:=0) jj LP hC AP 300 ?_
 rw [WS]
 cases s with
 | nil=>exact ⟨rfl,fun _=>rfl,fun h=>by cases h⟩
 | cons c r=>
  refine ⟨by simp [zH],fun h=>?_,fun h=>?_⟩
  ·have h':zT ↑c.toNat=false:=by simpa using h
   simp only [aA,h']
   rfl
  ·have h':zT ↑c.toNat=true:=by simpa using h
   have:=Qk hC (AV.int .i64 2) (AV.int .i64 19) (AV.clo (Fn.func 271) [] []) (AV.clo (Fn.func 271) [] []) zT (c::r) (Za (c::r)) hl _ 1 rfl (by simp)
   simp only [aA,h',if_true]
   rw [show 1+iN zT ((c::r).drop 1)=iN zT r+1 by simp [nr]] at this
   exact this

def ZQ:b7 [none,some .str]:=fun x h=>match x,h with
 | (.agg [.int .i64 1,.int .i64 16,.clo (.func 270) [] [],.clo (.func 269) [] []],s,_),[]=>.ok (.int .i64 (aA aS cJ s:Nat),[])
 | (.agg [.int .i64 2,.int .i64 19,.clo (.func 271) [] [],.clo (.func 271) [] []],s,_),[]=>.ok (.int .i64 (aA zT zT s:Nat),[])
 | _,_=>.err

theorem Vb:FK 234 (zP [none,some .str] ZQ):=by
 refine bb LP fun x h0 res hx C hC=>?_
 unfold ZQ at hx
 split at hx
 ·simp only [Tr.val_ok,zZ] at hx
  subst hx
  rename_i _ _ s u
  have e:fm [none,some Sh.str] (AV.agg [(AV.int .i64 1),(AV.int .i64 16),(AV.clo (Fn.func 270) [] []),(AV.clo (Fn.func 269) [] [])],s,u)=[AV.agg [(AV.int .i64 1),(AV.int .i64 16),(AV.clo (Fn.func 270) [] []),(AV.clo (Fn.func 269) [] [])],.str s]:=rfl
  rw [e]
  exact Reach.strLen 1 s rfl fun hl=>Qg hC s hl
 ·simp only [Tr.val_ok,zZ] at hx
  subst hx
  rename_i _ _ s u
  have e:fm [none,some Sh.str] (AV.agg [(AV.int .i64 2),(AV.int .i64 19),(AV.clo (Fn.func 271) [] []),(AV.clo (Fn.func 271) [] [])],s,u)=[AV.agg [(AV.int .i64 2),(AV.int .i64 19),(AV.clo (Fn.func 271) [] []),(AV.clo (Fn.func 271) [] [])],.str s]:=rfl
  rw [e]
  exact Reach.strLen 1 s rfl fun hl=>Qh hC s hl
 ·simp at hx

abbrev dI:Sh:=.pr (.int .i64) .str

noncomputable def Lk:ba:=((mS.add 171 (m9 [.str] [.bool] fun x=>some (Bj x.1,()))).add 204 (m9 [.str] [zg] fun x=>some (cW x.1,()))).add 234 (zP [none,some .str] ZQ)
theorem As:zm Lk:=((jj.add UA).add UZ).add Vb

def pN (s:zn):Bool:=bif decide ((↑(length s):Int) ≥ 1) then
  bif decide ((↑(length s):Int)≤16) then (↑(aA aS cJ s):Int)==↑(length s) else false
 else false

def g49 (x:zw ([dI].map some)):Option (zw ([Sh.bool].map some)):=if x.1.1=1 then some (pN x.1.2,()) else none

theorem zaH (s:zn):(run Lk 0 SP Tryz.f169.results.toList 400 (ah Tryz.f169) (zU Tryz.f169.ntmps [.agg [.int .i64 1,.str s]] [])).val=some (.ret (.bool (pN s)) []):=by kernel_rfl
theorem Yw:zz Lk.P 169 Tryz.f169 1:=aG (by kernel_rfl)
theorem UT:FK 169 (m9 [dI] [.bool] g49):=by
 refine oN Yw fun x y hx C hC=>?_
 obtain ⟨⟨k,s⟩,u⟩:=x
 unfold g49 at hx
 split at hx
 ·rename_i hk
  have hk':k=1:=hk
  subst hk'
  cases hx
  have e:fm ([dI].map some) (((1,s),u):zw ([dI].map some))=[.agg [.int .i64 1,.str s]]:=rfl
  rw [e]
  exact lX (n0:=0) As Yw (fun id _=>hC id) (zaH s) rfl
 ·cases hx

noncomputable def Wu:ba:=Lk.add 169 (m9 [dI] [.bool] g49)
theorem GN:zm Wu:=As.add UT
noncomputable def Wv:ba:=Wu.aut 170 Tryz.f170 1
theorem GO:zm Wv:=gA GN (aG (by kernel_rfl))
noncomputable def E7:ba:=Wv.aut 92 Tryz.f92 1
theorem Au:zm E7:=gA GO (aG (by kernel_rfl))
end Cad
