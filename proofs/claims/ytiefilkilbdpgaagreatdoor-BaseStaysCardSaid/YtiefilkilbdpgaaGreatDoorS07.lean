/- Words, names, runs of octets. Names. -/
import Derived.Test.YtiefilkilbdpgaaGreatDoorS06
namespace Cad
open Go Go.Proofs
open List (length)

def swT {β:Type} (leaf:β→zt) (s:zo):List (zo×β)→β→Tr zt
 | [],d=>.ok (leaf d)
 | (w,b)::r,d=>.br (s==w) (.ok (leaf b)) (swT leaf s r d)

def X1 {β:Type} (s:zo):List (zo×β)→β→β
 | [],d=>d
 | (w,b)::r,d=>if s==w then b else X1 s r d

theorem BU {β:Type} {leaf:β→zt} {s:zo} {d:β} {Φ:zt→Prop}:∀ (l:List (zo×β)),Φ (leaf (X1 s l d))→(swT leaf s l d).Sat Φ
 | [],h=>h
 | (w,b)::r,h=>by
  refine ⟨fun hc=>?_,fun hc=>BU r ?_⟩
  ·simp only [X1] at h; rw [if_pos hc] at h; exact h
  ·simp only [X1] at h; rw [if_neg (by rw [hc]; simp)] at h; exact h

def N7:List (zo×Bool):=[([65,78,68],true),([79,82],true),([78,79,84],true),([73,83],true),([78,85,76,76],true),([84,82,85,69],true),([70,65,76,83,69],true),([67,82,69,65,84,69],true),([84,65,66,76,69],true),([73,78,84],true),([84,69,88,84],true),([66,79,79,76],true),([75,69,89],true),([85,78,73,81,85,69],true),([82,69,70,69,82,69,78,67,69,83],true),([67,72,69,67,75],true),([68,82,79,80],true),([73,78,83,69,82,84],true),([73,78,84,79],true),([86,65,76,85,69,83],true),([85,80,68,65,84,69],true),([83,69,84],true),([87,72,69,82,69],true),([68,69,76,69,84,69],true),([70,82,79,77],true),([83,69,76,69,67,84],true),([71,82,65,78,84],true),([82,69,65,68],true),([87,82,73,84,69],true),([79,78],true),([84,79],true),([82,69,86,79,75,69],true),([77,73,71,82,65,84,69],true),([67,79,80,89],true),([74,79,73,78],true),([71,82,79,85,80],true),([66,89],true),([83,85,77],true)]
def HB:List (zo×Int):=[([108,105,116],0),([99,111,108],0),([110,111,116],1),([110,117,108,108],1),([97,110,100],2),([111,114],2),([61],2),([60],2),([43],2),([45],2)]

def DR (s:zo):Bool:=X1 s N7 false
def dE (s:zo):Int:=X1 s HB (-1)

def zY (c:Int):Bool:=bif decide (c ≥ 48) then decide (c≤57) else false
def aU (c:Int):Bool:=bif decide (c ≥ 97) then
  bif decide (c≤122) then true else bif decide (c ≥ 65) then decide (c≤90) else false
 else bif decide (c ≥ 65) then decide (c≤90) else false
def cr (c:Int):Bool:=bif aU c then true else bif zY c then true else c==95

noncomputable def oQ:bt:=(((zb7.aut 270 Tryz.f270 1).aut 271 Tryz.f271 1).aut 269 Tryz.f269 1).aut 233 Tryz.f233 0
theorem kC:zl oQ:=by
 refine iI (iI (iI (iI KQ ?_) ?_) ?_) ?_ <;> (refine ⟨?_,?_,?_,?_⟩ <;> kernel_rfl)

theorem zgm (s:zo):run oQ 0 (fun _=>{}) Tryz.f171.results.toList 400 (aB Tryz.f171) (aq Tryz.f171.ntmps [.str s] [])=swT (fun b=>.ret (.kb b) []) s N7 false:=by kernel_rfl
theorem zd0:zA oQ.P 171 Tryz.f171 1:=aQ (by kernel_rfl)
theorem zaa:FK 171 (o7 [.str] [.bool] fun x=>some (DR x.1,())):=by
 refine qJ zd0 fun x y hx C hC=>?_
 cases hx
 refine cM (n0:=0) kC zd0 (fun id _=>hC id) (fun _=>{}) 400 ?_
 have e:gz ([Sh.str].map some) x=[.str x.1]:=rfl
 rw [e,zgm]
 exact BU N7 rfl

theorem zgJ (s:zo):run oQ 0 (fun _=>{}) Tryz.f204.results.toList 400 (aB Tryz.f204) (aq Tryz.f204.ntmps [.str s] [])=swT (fun b=>.ret (.int .i64 b) []) s HB (-1):=by kernel_rfl
theorem zem:zA oQ.P 204 Tryz.f204 1:=aQ (by kernel_rfl)
theorem zaA:FK 204 (o7 [.str] [zg] fun x=>some (dE x.1,())):=by
 refine qJ zem fun x y hx C hC=>?_
 cases hx
 refine cM (n0:=0) kC zem (fun id _=>hC id) (fun _=>{}) 400 ?_
 have e:gz ([Sh.str].map some) x=[.str x.1]:=rfl
 rw [e,zgJ]
 exact BU HB rfl

def fW (p:Int→Bool):zo→Nat
 | []=>0
 | c::r=>if p c.toNat then fW p r+1 else 0

def aD (f m:Int→Bool):zo→Nat
 | []=>0
 | c::r=>if f c.toNat then fW m r+1 else 0

theorem Reach.strLen {E:bt} {C:cH} {fn:FuncId} {todo:List Item} {st:St} {Q:AV→List AO→Prop} (j:Nat) (s:zo) (hj:st.tmps[j]?=some (.str s)) (h:s.length≤zC→Reach E C fn todo st Q):Reach E C fn todo st Q:=by
 intro b cs a w U ρ h1 h2 hc hW
 refine h ?_ b cs a w U ρ h1 h2 hc hW
 have hlt:j < a.tmps.toList.length:=by rw [← hc.tm.len]; exact (bM.1 hj).1
 have:=hc.tm.rv j _ _ hj (zJ hlt)
 generalize a.tmps.toList[j]=v at this
 cases this with
 | str _ h=>exact h

abbrev Dr:Nat→ah:=fun _=>{slots:=[1,2,5]}
abbrev Ga (a b c d:AV) (s:zo) (n:Int):St:={
 tmps:=(tm 31 [(1,AV.str s),(2,AV.ptr 0 0),(5,AV.int .i64 n)]),
 heap:=[AO.box [a,b,c,d]] }
noncomputable abbrev X7 (a b c d:AV) (p:Int→Bool) (s:zo) (n:Int):Tr zt:=
 Tr.chk (bif decide (n < ↑(length s)) then zI n (length s) else true)
  (Tr.br (bif decide (n < ↑(length s)) then p ↑(List.getD s n.toNat 0).toNat else false)
   (Tr.ok (zt.head 4 (zy Tryz.f234 4) (Ga a b c d s (IntKind.i64.wrap (n+1)))))
   (Tr.ok (zt.ret (AV.int .i64 n) [])))
theorem Qg:zA oQ.P 234 Tryz.f234 2:=aQ (by kernel_rfl)

theorem Vn {C:cH} (hC:∀ id,0≤id→C.ρ0 id=none) (a b c d:AV) (p:Int→Bool) (s:zo)
  (hon:∀ n,run oQ 0 Dr Tryz.f234.results.toList 300 (zy Tryz.f234 4) (Ga a b c d s n)=X7 a b c d p s n) (hl:s.length≤zC):∀ (k i:Nat),s.length - i=k→i≤s.length→
  Reach oQ C 234 (zy Tryz.f234 4) (Ga a b c d s i) (fun r h=>(r,h)=(.int .i64 ((i+fW p (s.drop i):Nat):Int),[]))
 | k,i,hk,hi=>by
  subst hk
  refine cM kC Qg hC Dr 300 ?_
  rw [hon]
  refine ⟨?_,fun h=>?_,fun h=>?_⟩
  ·by_cases hlt:i < s.length
   ·have:decide ((i:Int) < s.length)=true:=by simpa using hlt
    simp [zI,hlt]
   ·have:decide ((i:Int) < s.length)=false:=by simpa using hlt
    simp [hlt]
  ·have hlt:i < s.length:=by
    by_cases hlt:i < s.length
    ·exact hlt
    ·have:decide ((i:Int) < s.length)=false:=by simpa using hlt
     rw [this] at h; cases h
   have hd:decide ((i:Int) < s.length)=true:=by simpa using hlt
   rw [hd,ac s _ hlt,bR] at h
   rw [dw hlt]
   simp only [fW]
   rw [if_pos h,zD i (by omega),show i+(fW p (List.drop (i+1) s)+1)=(i+1)+fW p (List.drop (i+1) s) by omega]
   exact Vn hC a b c d p s hon hl (s.length - (i+1)) (i+1) rfl (by omega)
  ·have:fW p (s.drop i)=0:=by
    by_cases hlt:i < s.length
    ·have hd:decide ((i:Int) < s.length)=true:=by simpa using hlt
     rw [hd,ac s _ hlt] at h
     rw [dw hlt]
     simp only [fW]
     rw [if_neg (by intro h'; rw [bR] at h; rw [h'] at h; cases h)]
    ·rw [List.drop_eq_nil_of_le (by omega)]; rfl
   rw [this]
   rfl
 termination_by k=>k

theorem zeX (s:zo) (n:Int):run oQ 0 Dr Tryz.f234.results.toList 300 (zy Tryz.f234 4) (Ga (AV.int .i64 1) (AV.int .i64 16) (AV.clo (Fn.func 270) [] []) (AV.clo (Fn.func 269) [] []) s n)=X7 (AV.int .i64 1) (AV.int .i64 16) (AV.clo (Fn.func 270) [] []) (AV.clo (Fn.func 269) [] []) cr s n:=by kernel_rfl
theorem zcw (s:zo):run oQ 0 Dr Tryz.f234.results.toList 300 (aB Tryz.f234) (aq Tryz.f234.ntmps [.agg [(AV.int .i64 1),(AV.int .i64 16),(AV.clo (Fn.func 270) [] []),(AV.clo (Fn.func 269) [] [])],.str s] [])=
 Tr.chk (bif s==[] then true else zI 0 (length s))
  (Tr.br (bif s==[] then true else !aU ↑(List.getD s (Int.toNat 0) 0).toNat) (Tr.ok (zt.ret (AV.int .i64 0) []))
   (Tr.ok (zt.head 4 (zy Tryz.f234 4) (Ga (AV.int .i64 1) (AV.int .i64 16) (AV.clo (Fn.func 270) [] []) (AV.clo (Fn.func 269) [] []) s 1)))):=by kernel_rfl
theorem Vj {C:cH} (hC:∀ id,0≤id→C.ρ0 id=none) (s:zo) (hl:s.length≤zC):Reach oQ C 234 (aB Tryz.f234) (aq Tryz.f234.ntmps [.agg [(AV.int .i64 1),(AV.int .i64 16),(AV.clo (Fn.func 270) [] []),(AV.clo (Fn.func 269) [] [])],.str s] []) (fun r h=>(r,h)=(.int .i64 (aD aU cr s:Nat),[])):=by
 refine cM (n0:=0) kC Qg hC Dr 300 ?_
 rw [zcw]
 cases s with
 | nil=>exact ⟨rfl,fun _=>rfl,fun h=>by cases h⟩
 | cons c r=>
  refine ⟨by simp [zI],fun h=>?_,fun h=>?_⟩
  ·have h':aU ↑c.toNat=false:=by simpa using h
   simp only [aD,h']
   rfl
  ·have h':aU ↑c.toNat=true:=by simpa using h
   have:=Vn hC (AV.int .i64 1) (AV.int .i64 16) (AV.clo (Fn.func 270) [] []) (AV.clo (Fn.func 269) [] []) cr (c::r) (zeX (c::r)) hl _ 1 rfl (by simp)
   simp only [aD,h',if_true]
   rw [show 1+fW cr ((c::r).drop 1)=fW cr r+1 by simp [po]] at this
   exact this

theorem zeY (s:zo) (n:Int):run oQ 0 Dr Tryz.f234.results.toList 300 (zy Tryz.f234 4) (Ga (AV.int .i64 2) (AV.int .i64 19) (AV.clo (Fn.func 271) [] []) (AV.clo (Fn.func 271) [] []) s n)=X7 (AV.int .i64 2) (AV.int .i64 19) (AV.clo (Fn.func 271) [] []) (AV.clo (Fn.func 271) [] []) zY s n:=by kernel_rfl
theorem zcx (s:zo):run oQ 0 Dr Tryz.f234.results.toList 300 (aB Tryz.f234) (aq Tryz.f234.ntmps [.agg [(AV.int .i64 2),(AV.int .i64 19),(AV.clo (Fn.func 271) [] []),(AV.clo (Fn.func 271) [] [])],.str s] [])=
 Tr.chk (bif s==[] then true else zI 0 (length s))
  (Tr.br (bif s==[] then true else !zY ↑(List.getD s (Int.toNat 0) 0).toNat) (Tr.ok (zt.ret (AV.int .i64 0) []))
   (Tr.ok (zt.head 4 (zy Tryz.f234 4) (Ga (AV.int .i64 2) (AV.int .i64 19) (AV.clo (Fn.func 271) [] []) (AV.clo (Fn.func 271) [] []) s 1)))):=by kernel_rfl
theorem Vk {C:cH} (hC:∀ id,0≤id→C.ρ0 id=none) (s:zo) (hl:s.length≤zC):Reach oQ C 234 (aB Tryz.f234) (aq Tryz.f234.ntmps [.agg [(AV.int .i64 2),(AV.int .i64 19),(AV.clo (Fn.func 271) [] []),(AV.clo (Fn.func 271) [] [])],.str s] []) (fun r h=>(r,h)=(.int .i64 (aD zY zY s:Nat),[])):=by
 refine cM (n0:=0) kC Qg hC Dr 300 ?_
 rw [zcx]
 cases s with
 | nil=>exact ⟨rfl,fun _=>rfl,fun h=>by cases h⟩
 | cons c r=>
  refine ⟨by simp [zI],fun h=>?_,fun h=>?_⟩
  ·have h':zY ↑c.toNat=false:=by simpa using h
   simp only [aD,h']
   rfl
  ·have h':zY ↑c.toNat=true:=by simpa using h
   have:=Vn hC (AV.int .i64 2) (AV.int .i64 19) (AV.clo (Fn.func 271) [] []) (AV.clo (Fn.func 271) [] []) zY (c::r) (zeY (c::r)) hl _ 1 rfl (by simp)
   simp only [aD,h',if_true]
   rw [show 1+fW zY ((c::r).drop 1)=fW zY r+1 by simp [po]] at this
   exact this

def G65:cF [none,some .str]:=fun x h=>match x,h with
 | (.agg [.int .i64 1,.int .i64 16,.clo (.func 270) [] [],.clo (.func 269) [] []],s,_),[]=>.ok (.int .i64 (aD aU cr s:Nat),[])
 | (.agg [.int .i64 2,.int .i64 19,.clo (.func 271) [] [],.clo (.func 271) [] []],s,_),[]=>.ok (.int .i64 (aD zY zY s:Nat),[])
 | _,_=>.err

theorem zaK:FK 234 (zU [none,some .str] G65):=by
 refine bA Qg fun x h0 res hx C hC=>?_
 unfold G65 at hx
 split at hx
 ·simp only [Tr.val_ok,ao] at hx
  subst hx
  rename_i _ _ s u
  have e:gz [none,some Sh.str] (AV.agg [(AV.int .i64 1),(AV.int .i64 16),(AV.clo (Fn.func 270) [] []),(AV.clo (Fn.func 269) [] [])],s,u)=[AV.agg [(AV.int .i64 1),(AV.int .i64 16),(AV.clo (Fn.func 270) [] []),(AV.clo (Fn.func 269) [] [])],.str s]:=rfl
  rw [e]
  exact Reach.strLen 1 s rfl fun hl=>Vj hC s hl
 ·simp only [Tr.val_ok,ao] at hx
  subst hx
  rename_i _ _ s u
  have e:gz [none,some Sh.str] (AV.agg [(AV.int .i64 2),(AV.int .i64 19),(AV.clo (Fn.func 271) [] []),(AV.clo (Fn.func 271) [] [])],s,u)=[AV.agg [(AV.int .i64 2),(AV.int .i64 19),(AV.clo (Fn.func 271) [] []),(AV.clo (Fn.func 271) [] [])],.str s]:=rfl
  rw [e]
  exact Reach.strLen 1 s rfl fun hl=>Vk hC s hl
 ·simp at hx

abbrev ej:Sh:=.pr (.int .i64) .str

noncomputable def PK:bt:=((oQ.add 171 (o7 [.str] [.bool] fun x=>some (DR x.1,()))).add 204 (o7 [.str] [zg] fun x=>some (dE x.1,()))).add 234 (zU [none,some .str] G65)
theorem CZ:zl PK:=((kC.add zaa).add zaA).add zaK

def nd (s:zo):Bool:=bif decide ((↑(length s):Int) ≥ 1) then
  bif decide ((↑(length s):Int)≤16) then (↑(aD aU cr s):Int)==↑(length s) else false
 else false

def g49 (x:zw ([ej].map some)):Option (zw ([Sh.bool].map some)):=if x.1.1=1 then some (nd x.1.2,()) else none

theorem zgF (s:zo):(run PK 0 Yj Tryz.f169.results.toList 400 (aB Tryz.f169) (aq Tryz.f169.ntmps [.agg [.int .i64 1,.str s]] [])).val=some (.ret (.bool (nd s)) []):=by kernel_rfl
theorem zei:zA PK.P 169 Tryz.f169 1:=aQ (by kernel_rfl)
theorem zau:FK 169 (o7 [ej] [.bool] g49):=by
 refine qJ zei fun x y hx C hC=>?_
 obtain ⟨⟨k,s⟩,u⟩:=x
 unfold g49 at hx
 split at hx
 ·rename_i hk
  have hk':k=1:=hk
  subst hk'
  cases hx
  have e:gz ([ej].map some) (((1,s),u):zw ([ej].map some))=[.agg [.int .i64 1,.str s]]:=rfl
  rw [e]
  exact nK (n0:=0) CZ zei (fun id _=>hC id) (zgF s) rfl
 ·cases hx

noncomputable def zb8:bt:=PK.add 169 (o7 [ej] [.bool] g49)
theorem KS:zl zb8:=CZ.add zau
noncomputable def zb9:bt:=zb8.aut 170 Tryz.f170 1
theorem KT:zl zb9:=iI KS (aQ (by kernel_rfl))
noncomputable def IL:bt:=zb9.aut 92 Tryz.f92 1
theorem C1:zl IL:=iI KT (aQ (by kernel_rfl))
end Cad
