/- Words, names, runs of octets. Names. -/
import Derived.Test.YtiefilkilbdpgaaGreatDoorK06
namespace Cad
open Go Go.Proofs
open List (length)

def swT {β:Type} (leaf:β→zp) (s:zq):List (zq×β)→β→Tr zp
 | [],d=>.ok (leaf d)
 | (w,b)::r,d=>.br (s==w) (.ok (leaf b)) (swT leaf s r d)

def T3 {β:Type} (s:zq):List (zq×β)→β→β
 | [],d=>d
 | (w,b)::r,d=>if s==w then b else T3 s r d

theorem y6 {β:Type} {leaf:β→zp} {s:zq} {d:β} {Φ:zp→Prop}:∀ (l:List (zq×β)),Φ (leaf (T3 s l d))→(swT leaf s l d).Sat Φ
 | [],h=>h
 | (w,b)::r,h=>by
  refine ⟨fun hc=>?_,fun hc=>y6 r ?_⟩
  ·simp only [T3] at h; rw [if_pos hc] at h; exact h
  ·simp only [T3] at h; rw [if_neg (by rw [hc]; simp)] at h; exact h

def KP:List (zq×Bool):=[([65,78,68],true),([79,82],true),([78,79,84],true),([73,83],true),([78,85,76,76],true),([84,82,85,69],true),([70,65,76,83,69],true),([67,82,69,65,84,69],true),([84,65,66,76,69],true),([73,78,84],true),([84,69,88,84],true),([66,79,79,76],true),([75,69,89],true),([85,78,73,81,85,69],true),([82,69,70,69,82,69,78,67,69,83],true),([67,72,69,67,75],true),([68,82,79,80],true),([73,78,83,69,82,84],true),([73,78,84,79],true),([86,65,76,85,69,83],true),([85,80,68,65,84,69],true),([83,69,84],true),([87,72,69,82,69],true),([68,69,76,69,84,69],true),([70,82,79,77],true),([83,69,76,69,67,84],true),([71,82,65,78,84],true),([82,69,65,68],true),([87,82,73,84,69],true),([79,78],true),([84,79],true),([82,69,86,79,75,69],true),([77,73,71,82,65,84,69],true),([67,79,80,89],true),([74,79,73,78],true),([71,82,79,85,80],true),([66,89],true),([83,85,77],true)]
def E2:List (zq×Int):=[([108,105,116],0),([99,111,108],0),([110,111,116],1),([110,117,108,108],1),([97,110,100],2),([111,114],2),([61],2),([60],2),([43],2),([45],2)]

def BR (s:zq):Bool:=T3 s KP false
def cX (s:zq):Int:=T3 s E2 (-1)

def ay (c:Int):Bool:=bif decide (c ≥ 48) then decide (c≤57) else false
def bq (c:Int):Bool:=bif decide (c ≥ 97) then
  bif decide (c≤122) then true else bif decide (c ≥ 65) then decide (c≤90) else false
 else bif decide (c ≥ 65) then decide (c≤90) else false
def dt (c:Int):Bool:=bif bq c then true else bif ay c then true else c==95

noncomputable def na:bb:=(((XT.aut 270 Tryz.f270 1).aut 271 Tryz.f271 1).aut 269 Tryz.f269 1).aut 233 Tryz.f233 0
theorem jq:zm na:=by
 refine gC (gC (gC (gC H2 ?_) ?_) ?_) ?_ <;> (refine ⟨?_,?_,?_,?_⟩ <;> kernel_rfl)

theorem zbT (s:zq):run na 0 (fun _=>{}) Tryz.f171.results.toList 400 (ao Tryz.f171) (zU Tryz.f171.ntmps [.str s] [])=swT (fun b=>.ret (.kb b) []) s KP false:=by kernel_rfl
theorem ZD:zz na.P 171 Tryz.f171 1:=aG (by kernel_rfl)
theorem V3:FK 171 (nl [.str] [.bool] fun x=>some (BR x.1,())):=by
 refine oV ZD fun x y hx C hC=>?_
 cases hx
 refine ch (n0:=0) jq ZD (fun id _=>hC id) (fun _=>{}) 400 ?_
 have e:fv ([Sh.str].map some) x=[.str x.1]:=rfl
 rw [e,zbT]
 exact y6 KP rfl

theorem zcg (s:zq):run na 0 (fun _=>{}) Tryz.f204.results.toList 400 (ao Tryz.f204) (zU Tryz.f204.ntmps [.str s] [])=swT (fun b=>.ret (.int .i64 b) []) s E2 (-1):=by kernel_rfl
theorem ZY:zz na.P 204 Tryz.f204 1:=aG (by kernel_rfl)
theorem Wt:FK 204 (nl [.str] [zg] fun x=>some (cX x.1,())):=by
 refine oV ZY fun x y hx C hC=>?_
 cases hx
 refine ch (n0:=0) jq ZY (fun id _=>hC id) (fun _=>{}) 400 ?_
 have e:fv ([Sh.str].map some) x=[.str x.1]:=rfl
 rw [e,zcg]
 exact y6 E2 rfl

def nj (p:Int→Bool):zq→Nat
 | []=>0
 | c::r=>if p c.toNat then nj p r+1 else 0

def aH (f m:Int→Bool):zq→Nat
 | []=>0
 | c::r=>if f c.toNat then nj m r+1 else 0

theorem Reach.strLen {E:bb} {C:cd} {fn:FuncId} {todo:List Item} {st:St} {Q:AV→List AO→Prop} (j:Nat) (s:zq) (hj:st.tmps[j]?=some (.str s)) (h:s.length≤zD→Reach E C fn todo st Q):Reach E C fn todo st Q:=by
 intro b cs a w U ρ h1 h2 hc hW
 refine h ?_ b cs a w U ρ h1 h2 hc hW
 have hlt:j < a.tmps.toList.length:=by rw [← hc.tm.len]; exact (bD.1 hj).1
 have:=hc.tm.rv j _ _ hj (zI hlt)
 generalize a.tmps.toList[j]=v at this
 cases this with
 | str _ h=>exact h

abbrev Bq:Nat→zT:=fun _=>{slots:=[1,2,5]}
abbrev DI (a b c d:AV) (s:zq) (n:Int):St:={
 tmps:=(tm 31 [(1,AV.str s),(2,AV.ptr 0 0),(5,AV.int .i64 n)]),
 heap:=[AO.box [a,b,c,d]] }
noncomputable abbrev T9 (a b c d:AV) (p:Int→Bool) (s:zq) (n:Int):Tr zp:=
 Tr.chk (bif decide (n < ↑(length s)) then zJ n (length s) else true)
  (Tr.br (bif decide (n < ↑(length s)) then p ↑(List.getD s n.toNat 0).toNat else false)
   (Tr.ok (zp.head 4 (zw Tryz.f234 4) (DI a b c d s (IntKind.i64.wrap (n+1)))))
   (Tr.ok (zp.ret (AV.int .i64 n) [])))
theorem MZ:zz na.P 234 Tryz.f234 2:=aG (by kernel_rfl)

theorem RE {C:cd} (hC:∀ id,0≤id→C.ρ0 id=none) (a b c d:AV) (p:Int→Bool) (s:zq)
  (hon:∀ n,run na 0 Bq Tryz.f234.results.toList 300 (zw Tryz.f234 4) (DI a b c d s n)=T9 a b c d p s n) (hl:s.length≤zD):∀ (k i:Nat),s.length - i=k→i≤s.length→
  Reach na C 234 (zw Tryz.f234 4) (DI a b c d s i) (fun r h=>(r,h)=(.int .i64 ((i+nj p (s.drop i):Nat):Int),[]))
 | k,i,hk,hi=>by
  subst hk
  refine ch jq MZ hC Bq 300 ?_
  rw [hon]
  refine ⟨?_,fun h=>?_,fun h=>?_⟩
  ·by_cases hlt:i < s.length
   ·have:decide ((i:Int) < s.length)=true:=by simpa using hlt
    simp [zJ,hlt]
   ·have:decide ((i:Int) < s.length)=false:=by simpa using hlt
    simp [hlt]
  ·have hlt:i < s.length:=by
    by_cases hlt:i < s.length
    ·exact hlt
    ·have:decide ((i:Int) < s.length)=false:=by simpa using hlt
     rw [this] at h; cases h
   have hd:decide ((i:Int) < s.length)=true:=by simpa using hlt
   rw [hd,zZ s _ hlt,bG] at h
   rw [ez hlt]
   simp only [nj]
   rw [if_pos h,zG i (by omega),show i+(nj p (List.drop (i+1) s)+1)=(i+1)+nj p (List.drop (i+1) s) by omega]
   exact RE hC a b c d p s hon hl (s.length - (i+1)) (i+1) rfl (by omega)
  ·have:nj p (s.drop i)=0:=by
    by_cases hlt:i < s.length
    ·have hd:decide ((i:Int) < s.length)=true:=by simpa using hlt
     rw [hd,zZ s _ hlt] at h
     rw [ez hlt]
     simp only [nj]
     rw [if_neg (by intro h'; rw [bG] at h; rw [h'] at h; cases h)]
    ·rw [List.drop_eq_nil_of_le (by omega)]; rfl
   rw [this]
   rfl
 termination_by k=>k

theorem zax (s:zq) (n:Int):run na 0 Bq Tryz.f234.results.toList 300 (zw Tryz.f234 4) (DI (AV.int .i64 1) (AV.int .i64 16) (AV.clo (Fn.func 270) [] []) (AV.clo (Fn.func 269) [] []) s n)=T9 (AV.int .i64 1) (AV.int .i64 16) (AV.clo (Fn.func 270) [] []) (AV.clo (Fn.func 269) [] []) dt s n:=by kernel_rfl
theorem Yh (s:zq):run na 0 Bq Tryz.f234.results.toList 300 (ao Tryz.f234) (zU Tryz.f234.ntmps [.agg [(AV.int .i64 1),(AV.int .i64 16),(AV.clo (Fn.func 270) [] []),(AV.clo (Fn.func 269) [] [])],.str s] [])=
 Tr.chk (bif s==[] then true else zJ 0 (length s))
  (Tr.br (bif s==[] then true else !bq ↑(List.getD s (Int.toNat 0) 0).toNat) (Tr.ok (zp.ret (AV.int .i64 0) []))
   (Tr.ok (zp.head 4 (zw Tryz.f234 4) (DI (AV.int .i64 1) (AV.int .i64 16) (AV.clo (Fn.func 270) [] []) (AV.clo (Fn.func 269) [] []) s 1)))):=by kernel_rfl
theorem RA {C:cd} (hC:∀ id,0≤id→C.ρ0 id=none) (s:zq) (hl:s.length≤zD):Reach na C 234 (ao Tryz.f234) (zU Tryz.f234.ntmps [.agg [(AV.int .i64 1),(AV.int .i64 16),(AV.clo (Fn.func 270) [] []),(AV.clo (Fn.func 269) [] [])],.str s] []) (fun r h=>(r,h)=(.int .i64 (aH bq dt s:Nat),[])):=by
 refine ch (n0:=0) jq MZ hC Bq 300 ?_
 rw [Yh]
 cases s with
 | nil=>exact ⟨rfl,fun _=>rfl,fun h=>by cases h⟩
 | cons c r=>
  refine ⟨by simp [zJ],fun h=>?_,fun h=>?_⟩
  ·have h':bq ↑c.toNat=false:=by simpa using h
   simp only [aH,h']
   rfl
  ·have h':bq ↑c.toNat=true:=by simpa using h
   have:=RE hC (AV.int .i64 1) (AV.int .i64 16) (AV.clo (Fn.func 270) [] []) (AV.clo (Fn.func 269) [] []) dt (c::r) (zax (c::r)) hl _ 1 rfl (by simp)
   simp only [aH,h',if_true]
   rw [show 1+nj dt ((c::r).drop 1)=nj dt r+1 by simp [pZ]] at this
   exact this

theorem zay (s:zq) (n:Int):run na 0 Bq Tryz.f234.results.toList 300 (zw Tryz.f234 4) (DI (AV.int .i64 2) (AV.int .i64 19) (AV.clo (Fn.func 271) [] []) (AV.clo (Fn.func 271) [] []) s n)=T9 (AV.int .i64 2) (AV.int .i64 19) (AV.clo (Fn.func 271) [] []) (AV.clo (Fn.func 271) [] []) ay s n:=by kernel_rfl
theorem Yi (s:zq):run na 0 Bq Tryz.f234.results.toList 300 (ao Tryz.f234) (zU Tryz.f234.ntmps [.agg [(AV.int .i64 2),(AV.int .i64 19),(AV.clo (Fn.func 271) [] []),(AV.clo (Fn.func 271) [] [])],.str s] [])=
 Tr.chk (bif s==[] then true else zJ 0 (length s))
  (Tr.br (bif s==[] then true else !ay ↑(List.getD s (Int.toNat 0) 0).toNat) (Tr.ok (zp.ret (AV.int .i64 0) []))
   (Tr.ok (zp.head 4 (zw Tryz.f234 4) (DI (AV.int .i64 2) (AV.int .i64 19) (AV.clo (Fn.func 271) [] []) (AV.clo (Fn.func 271) [] []) s 1)))):=by kernel_rfl
theorem RB {C:cd} (hC:∀ id,0≤id→C.ρ0 id=none) (s:zq) (hl:s.length≤zD):Reach na C 234 (ao Tryz.f234) (zU Tryz.f234.ntmps [.agg [(AV.int .i64 2),(AV.int .i64 19),(AV.clo (Fn.func 271) [] []),(AV.clo (Fn.func 271) [] [])],.str s] []) (fun r h=>(r,h)=(.int .i64 (aH ay ay s:Nat),[])):=by
 refine ch (n0:=0) jq MZ hC Bq 300 ?_
 rw [Yi]
 cases s with
 | nil=>exact ⟨rfl,fun _=>rfl,fun h=>by cases h⟩
 | cons c r=>
  refine ⟨by simp [zJ],fun h=>?_,fun h=>?_⟩
  ·have h':ay ↑c.toNat=false:=by simpa using h
   simp only [aH,h']
   rfl
  ·have h':ay ↑c.toNat=true:=by simpa using h
   have:=RE hC (AV.int .i64 2) (AV.int .i64 19) (AV.clo (Fn.func 271) [] []) (AV.clo (Fn.func 271) [] []) ay (c::r) (zay (c::r)) hl _ 1 rfl (by simp)
   simp only [aH,h',if_true]
   rw [show 1+nj ay ((c::r).drop 1)=nj ay r+1 by simp [pZ]] at this
   exact this

def G65:cg [none,some .str]:=fun x h=>match x,h with
 | (.agg [.int .i64 1,.int .i64 16,.clo (.func 270) [] [],.clo (.func 269) [] []],s,_),[]=>.ok (.int .i64 (aH bq dt s:Nat),[])
 | (.agg [.int .i64 2,.int .i64 19,.clo (.func 271) [] [],.clo (.func 271) [] []],s,_),[]=>.ok (.int .i64 (aH ay ay s:Nat),[])
 | _,_=>.err

theorem WE:FK 234 (zP [none,some .str] G65):=by
 refine bc MZ fun x h0 res hx C hC=>?_
 unfold G65 at hx
 split at hx
 ·simp only [Tr.val_ok,ae] at hx
  subst hx
  rename_i _ _ s u
  have e:fv [none,some Sh.str] (AV.agg [(AV.int .i64 1),(AV.int .i64 16),(AV.clo (Fn.func 270) [] []),(AV.clo (Fn.func 269) [] [])],s,u)=[AV.agg [(AV.int .i64 1),(AV.int .i64 16),(AV.clo (Fn.func 270) [] []),(AV.clo (Fn.func 269) [] [])],.str s]:=rfl
  rw [e]
  exact Reach.strLen 1 s rfl fun hl=>RA hC s hl
 ·simp only [Tr.val_ok,ae] at hx
  subst hx
  rename_i _ _ s u
  have e:fv [none,some Sh.str] (AV.agg [(AV.int .i64 2),(AV.int .i64 19),(AV.clo (Fn.func 271) [] []),(AV.clo (Fn.func 271) [] [])],s,u)=[AV.agg [(AV.int .i64 2),(AV.int .i64 19),(AV.clo (Fn.func 271) [] []),(AV.clo (Fn.func 271) [] [])],.str s]:=rfl
  rw [e]
  exact Reach.strLen 1 s rfl fun hl=>RB hC s hl
 ·simp at hx

abbrev dY:Sh:=.pr (.int .i64) .str

noncomputable def Mx:bb:=((na.add 171 (nl [.str] [.bool] fun x=>some (BR x.1,()))).add 204 (nl [.str] [zg] fun x=>some (cX x.1,()))).add 234 (zP [none,some .str] G65)
theorem A4:zm Mx:=((jq.add V3).add Wt).add WE

def pT (s:zq):Bool:=bif decide ((↑(length s):Int) ≥ 1) then
  bif decide ((↑(length s):Int)≤16) then (↑(aH bq dt s):Int)==↑(length s) else false
 else false

def g49 (x:zu ([dY].map some)):Option (zu ([Sh.bool].map some)):=if x.1.1=1 then some (pT x.1.2,()) else none

theorem zcc (s:zq):(run Mx 0 Ui Tryz.f169.results.toList 400 (ao Tryz.f169) (zU Tryz.f169.ntmps [.agg [.int .i64 1,.str s]] [])).val=some (.ret (.bool (pT s)) []):=by kernel_rfl
theorem ZU:zz Mx.P 169 Tryz.f169 1:=aG (by kernel_rfl)
theorem Wn:FK 169 (nl [dY] [.bool] g49):=by
 refine oV ZU fun x y hx C hC=>?_
 obtain ⟨⟨k,s⟩,u⟩:=x
 unfold g49 at hx
 split at hx
 ·rename_i hk
  have hk':k=1:=hk
  subst hk'
  cases hx
  have e:fv ([dY].map some) (((1,s),u):zu ([dY].map some))=[.agg [.int .i64 1,.str s]]:=rfl
  rw [e]
  exact mi (n0:=0) A4 ZU (fun id _=>hC id) (zcc s) rfl
 ·cases hx

noncomputable def XU:bb:=Mx.add 169 (nl [dY] [.bool] g49)
theorem H4:zm XU:=A4.add Wn
noncomputable def XV:bb:=XU.aut 170 Tryz.f170 1
theorem H5:zm XV:=gC H4 (aG (by kernel_rfl))
noncomputable def Gd:bb:=XV.aut 92 Tryz.f92 1
theorem A6:zm Gd:=gC H5 (aG (by kernel_rfl))
end Cad
