/- Words, names, runs of octets. Names. -/
import Derived.Test.YtfgnbipebgibeaaGreatDoorG06
namespace Cad
open Go Go.Proofs

def swT {β:Type} (leaf:β→zD) (s:Str):List (Str×β)→β→Tr zD
 | [],d=>.ok (leaf d)
 | (w,b)::r,d=>.br (s==w) (.ok (leaf b)) (swT leaf s r d)

def swV {β:Type} (s:Str):List (Str×β)→β→β
 | [],d=>d
 | (w,b)::r,d=>if s==w then b else swV s r d

theorem zu2 {β:Type} {leaf:β→zD} {s:Str} {d:β} {Φ:zD→Prop}:∀ (l:List (Str×β)),Φ (leaf (swV s l d))→(swT leaf s l d).Sat Φ
 | [],h=>h
 | (w,b)::r,h=>by
  refine ⟨fun hc=>?_,fun hc=>zu2 r ?_⟩
  ·simp only [swV] at h; rw [if_pos hc] at h; exact h
  ·simp only [swV] at h; rw [if_neg (by rw [hc]; simp)] at h; exact h

def zqk:List (Str×Bool):=[([65,78,68],true),([79,82],true),([78,79,84],true),([73,83],true),([78,85,76,76],true),([84,82,85,69],true),([70,65,76,83,69],true),([67,82,69,65,84,69],true),([84,65,66,76,69],true),([73,78,84],true),([84,69,88,84],true),([66,79,79,76],true),([75,69,89],true),([85,78,73,81,85,69],true),([82,69,70,69,82,69,78,67,69,83],true),([67,72,69,67,75],true),([68,82,79,80],true),([73,78,83,69,82,84],true),([73,78,84,79],true),([86,65,76,85,69,83],true),([85,80,68,65,84,69],true),([83,69,84],true),([87,72,69,82,69],true),([68,69,76,69,84,69],true),([70,82,79,77],true),([83,69,76,69,67,84],true),([71,82,65,78,84],true),([82,69,65,68],true),([87,82,73,84,69],true),([79,78],true),([84,79],true),([82,69,86,79,75,69],true),([77,73,71,82,65,84,69],true),([67,79,80,89],true),([74,79,73,78],true),([71,82,79,85,80],true),([66,89],true),([83,85,77],true)]
def znL:List (Str×Int):=[([108,105,116],0),([99,111,108],0),([110,111,116],1),([110,117,108,108],1),([97,110,100],2),([111,114],2),([61],2),([60],2),([43],2),([45],2)]

def zeW (s:Str):Bool:=swV s zqk false
def zbn (s:Str):Int:=swV s znL (-1)

def zaq (c:Int):Bool:=bif decide (c ≥ 48) then decide (c≤57) else false
def zaE (c:Int):Bool:=bif decide (c ≥ 97) then
  bif decide (c≤122) then true else bif decide (c ≥ 65) then decide (c≤90) else false
 else bif decide (c ≥ 65) then decide (c≤90) else false
def zbd (c:Int):Bool:=bif zaE c then true else bif zaq c then true else c==95

noncomputable def zgK:Env:=(((zT1.aut 230 Tryz.f230 1).aut 231 Tryz.f231 1).aut 229 Tryz.f229 1).aut 187 Tryz.f187 0
theorem zhm:zi zgK:=by
 refine zfF (zfF (zfF (zfF zFO zbS ?_) zbS ?_) zbS ?_) zbS ?_ <;> (refine ⟨?_,?_,?_,?_⟩ <;> kernel_rfl)

theorem zXK (s:Str):run zgK 0 (fun _=>{}) Tryz.f89.results.toList 400 (zq Tryz.f89) (zp Tryz.f89.ntmps [.str s] [])=swT (fun b=>.ret (.kb b) []) s zqk false:=by kernel_rfl
theorem zQ9:zF zgK.P 89 Tryz.f89 1:=by refine ⟨?_,?_,?_,?_⟩ <;> kernel_rfl
theorem zVi:FOk zgK.P zgK.gl 89 (zkH [.str] [.bool] fun x=>some (zeW x.1,())):=by
 refine zmT zQ9 fun x y hx C hC=>?_
 cases hx
 refine zbL (n0:=0) zhm zbS zQ9 (fun id _=>hC id) (fun _=>{}) 400 ?_
 have e:avs ([Sh.str].map some) x=[.str x.1]:=rfl
 rw [e,zXK]
 exact zu2 zqk rfl

theorem zXJ (s:Str):run zgK 0 (fun _=>{}) Tryz.f224.results.toList 400 (zq Tryz.f224) (zp Tryz.f224.ntmps [.str s] [])=swT (fun b=>.ret (.int .i64 b) []) s znL (-1):=by kernel_rfl
theorem zSy:zF zgK.P 224 Tryz.f224 1:=by refine ⟨?_,?_,?_,?_⟩ <;> kernel_rfl
theorem zSx:FOk zgK.P zgK.gl 224 (zkH [.str] [zg] fun x=>some (zbn x.1,())):=by
 refine zmT zSy fun x y hx C hC=>?_
 cases hx
 refine zbL (n0:=0) zhm zbS zSy (fun id _=>hC id) (fun _=>{}) 400 ?_
 have e:avs ([Sh.str].map some) x=[.str x.1]:=rfl
 rw [e,zXJ]
 exact zu2 znL rfl

def zhx (p:Int→Bool):Str→Nat
 | []=>0
 | c::r=>if p c.toNat then zhx p r+1 else 0

def zaA (f m:Int→Bool):Str→Nat
 | []=>0
 | c::r=>if f c.toNat then zhx m r+1 else 0

theorem Reach.strLen {E:Env} {C:Ctx} {fn:FuncId} {todo:List Item} {st:St} {Q:AV→List AO→Prop} (j:Nat) (s:Str) (hj:st.tmps[j]?=some (.str s)) (h:s.length≤zI→Reach E C fn todo st Q):Reach E C fn todo st Q:=by
 intro b cs a w U ρ h1 h2 hc hW
 refine h ?_ b cs a w U ρ h1 h2 hc hW
 have hlt:j < a.tmps.toList.length:=by rw [← hc.tm.len]; exact (List.getElem?_eq_some_iff.1 hj).1
 have:=hc.tm.rv j _ _ hj (List.getElem?_eq_getElem hlt)
 generalize a.tmps.toList[j]=v at this
 cases this with
 | str _ h=>exact h

abbrev zxJ:Nat→zQ:=fun _=>{slots:=[1,2,5]}
abbrev zy3 (a b c d:AV) (s:Str) (n:Int):St:={
 tmps:=[AV.any,AV.str s,AV.ptr 0 0,AV.any,AV.any,AV.int .i64 n,AV.any,AV.any,AV.any,AV.any,
        AV.any,AV.any,AV.any,AV.any,AV.any,AV.any,AV.any,AV.any,AV.any,AV.any,AV.any,AV.any,AV.any,
        AV.any,AV.any,AV.any,AV.any,AV.any,AV.any,AV.any,AV.any],
 heap:=[AO.box [a,b,c,d]] }
noncomputable abbrev zOq (a b c d:AV) (p:Int→Bool) (s:Str) (n:Int):Tr zD:=
 Tr.chk (bif decide (n < ↑(List.length s)) then inB n (List.length s) else true)
  (Tr.br (bif decide (n < ↑(List.length s)) then p ↑(List.getD s n.toNat 0).toNat else false)
   (Tr.ok (zD.head 4 (zA Tryz.f188 4) (zy3 a b c d s (IntKind.i64.wrap (n+1)))))
   (Tr.ok (zD.ret (AV.int .i64 n) [])))
theorem zIe:zF zgK.P 188 Tryz.f188 2:=by refine ⟨?_,?_,?_,?_⟩ <;> kernel_rfl

theorem zML {C:Ctx} (hC:∀ id,0≤id→C.ρ0 id=none) (a b c d:AV) (p:Int→Bool) (s:Str)
  (hon:∀ n,run zgK 0 zxJ Tryz.f188.results.toList 300 (zA Tryz.f188 4) (zy3 a b c d s n)=zOq a b c d p s n) (hl:s.length≤zI):∀ (k i:Nat),s.length - i=k→i≤s.length→
  Reach zgK C 188 (zA Tryz.f188 4) (zy3 a b c d s i) (fun r h=>(r,h)=(.int .i64 ((i+zhx p (s.drop i):Nat):Int),[]))
 | k,i,hk,hi=>by
  subst hk
  refine zbL zhm zbS zIe hC zxJ 300 ?_
  rw [hon]
  refine ⟨?_,fun h=>?_,fun h=>?_⟩
  ·by_cases hlt:i < s.length
   ·have:decide ((i:Int) < s.length)=true:=by simpa using hlt
    simp [inB,hlt]
   ·have:decide ((i:Int) < s.length)=false:=by simpa using hlt
    simp [hlt]
  ·have hlt:i < s.length:=by
    by_cases hlt:i < s.length
    ·exact hlt
    ·have:decide ((i:Int) < s.length)=false:=by simpa using hlt
     rw [this] at h; cases h
   have hd:decide ((i:Int) < s.length)=true:=by simpa using hlt
   rw [hd,zaD s _ hlt,cond_true] at h
   rw [List.drop_eq_getElem_cons hlt]
   simp only [zhx]
   rw [if_pos h,zH i (by omega),show i+(zhx p (List.drop (i+1) s)+1)=(i+1)+zhx p (List.drop (i+1) s) by omega]
   exact zML hC a b c d p s hon hl (s.length - (i+1)) (i+1) rfl (by omega)
  ·have:zhx p (s.drop i)=0:=by
    by_cases hlt:i < s.length
    ·have hd:decide ((i:Int) < s.length)=true:=by simpa using hlt
     rw [hd,zaD s _ hlt] at h
     rw [List.drop_eq_getElem_cons hlt]
     simp only [zhx]
     rw [if_neg (by intro h'; rw [cond_true] at h; rw [h'] at h; cases h)]
    ·rw [List.drop_eq_nil_of_le (by omega)]; rfl
   rw [this]
   rfl
 termination_by k=>k

theorem zSo (s:Str) (n:Int):run zgK 0 zxJ Tryz.f188.results.toList 300 (zA Tryz.f188 4) (zy3 (AV.int .i64 1) (AV.int .i64 16) (AV.clo (Fn.func 230) [] []) (AV.clo (Fn.func 229) [] []) s n)=zOq (AV.int .i64 1) (AV.int .i64 16) (AV.clo (Fn.func 230) [] []) (AV.clo (Fn.func 229) [] []) zbd s n:=by kernel_rfl
theorem zQr (s:Str):run zgK 0 zxJ Tryz.f188.results.toList 300 (zq Tryz.f188) (zp Tryz.f188.ntmps [.agg [(AV.int .i64 1),(AV.int .i64 16),(AV.clo (Fn.func 230) [] []),(AV.clo (Fn.func 229) [] [])],.str s] [])=
 Tr.chk (bif s==[] then true else inB 0 (List.length s))
  (Tr.br (bif s==[] then true else !zaE ↑(List.getD s (Int.toNat 0) 0).toNat) (Tr.ok (zD.ret (AV.int .i64 0) []))
   (Tr.ok (zD.head 4 (zA Tryz.f188 4) (zy3 (AV.int .i64 1) (AV.int .i64 16) (AV.clo (Fn.func 230) [] []) (AV.clo (Fn.func 229) [] []) s 1)))):=by kernel_rfl
theorem zNT {C:Ctx} (hC:∀ id,0≤id→C.ρ0 id=none) (s:Str) (hl:s.length≤zI):Reach zgK C 188 (zq Tryz.f188) (zp Tryz.f188.ntmps [.agg [(AV.int .i64 1),(AV.int .i64 16),(AV.clo (Fn.func 230) [] []),(AV.clo (Fn.func 229) [] [])],.str s] []) (fun r h=>(r,h)=(.int .i64 (zaA zaE zbd s:Nat),[])):=by
 refine zbL (n0:=0) zhm zbS zIe hC zxJ 300 ?_
 rw [zQr]
 cases s with
 | nil=>exact ⟨rfl,fun _=>rfl,fun h=>by cases h⟩
 | cons c r=>
  refine ⟨by simp [inB],fun h=>?_,fun h=>?_⟩
  ·have h':zaE ↑c.toNat=false:=by simpa using h
   simp only [zaA,h']
   rfl
  ·have h':zaE ↑c.toNat=true:=by simpa using h
   have:=zML hC (AV.int .i64 1) (AV.int .i64 16) (AV.clo (Fn.func 230) [] []) (AV.clo (Fn.func 229) [] []) zbd (c::r) (zSo (c::r)) hl _ 1 rfl (by simp)
   simp only [zaA,h',if_true]
   rw [show 1+zhx zbd ((c::r).drop 1)=zhx zbd r+1 by simp [Nat.add_comm]] at this
   exact this

theorem zVU (s:Str) (n:Int):run zgK 0 zxJ Tryz.f188.results.toList 300 (zA Tryz.f188 4) (zy3 (AV.int .i64 2) (AV.int .i64 19) (AV.clo (Fn.func 231) [] []) (AV.clo (Fn.func 231) [] []) s n)=zOq (AV.int .i64 2) (AV.int .i64 19) (AV.clo (Fn.func 231) [] []) (AV.clo (Fn.func 231) [] []) zaq s n:=by kernel_rfl
theorem zUn (s:Str):run zgK 0 zxJ Tryz.f188.results.toList 300 (zq Tryz.f188) (zp Tryz.f188.ntmps [.agg [(AV.int .i64 2),(AV.int .i64 19),(AV.clo (Fn.func 231) [] []),(AV.clo (Fn.func 231) [] [])],.str s] [])=
 Tr.chk (bif s==[] then true else inB 0 (List.length s))
  (Tr.br (bif s==[] then true else !zaq ↑(List.getD s (Int.toNat 0) 0).toNat) (Tr.ok (zD.ret (AV.int .i64 0) []))
   (Tr.ok (zD.head 4 (zA Tryz.f188 4) (zy3 (AV.int .i64 2) (AV.int .i64 19) (AV.clo (Fn.func 231) [] []) (AV.clo (Fn.func 231) [] []) s 1)))):=by kernel_rfl
theorem zLB {C:Ctx} (hC:∀ id,0≤id→C.ρ0 id=none) (s:Str) (hl:s.length≤zI):Reach zgK C 188 (zq Tryz.f188) (zp Tryz.f188.ntmps [.agg [(AV.int .i64 2),(AV.int .i64 19),(AV.clo (Fn.func 231) [] []),(AV.clo (Fn.func 231) [] [])],.str s] []) (fun r h=>(r,h)=(.int .i64 (zaA zaq zaq s:Nat),[])):=by
 refine zbL (n0:=0) zhm zbS zIe hC zxJ 300 ?_
 rw [zUn]
 cases s with
 | nil=>exact ⟨rfl,fun _=>rfl,fun h=>by cases h⟩
 | cons c r=>
  refine ⟨by simp [inB],fun h=>?_,fun h=>?_⟩
  ·have h':zaq ↑c.toNat=false:=by simpa using h
   simp only [zaA,h']
   rfl
  ·have h':zaq ↑c.toNat=true:=by simpa using h
   have:=zML hC (AV.int .i64 2) (AV.int .i64 19) (AV.clo (Fn.func 231) [] []) (AV.clo (Fn.func 231) [] []) zaq (c::r) (zVU (c::r)) hl _ 1 rfl (by simp)
   simp only [zaA,h',if_true]
   rw [show 1+zhx zaq ((c::r).drop 1)=zhx zaq r+1 by simp [Nat.add_comm]] at this
   exact this

def G65:zdS [none,some .str]:=fun x h=>match x,h with
 | (.agg [.int .i64 1,.int .i64 16,.clo (.func 230) [] [],.clo (.func 229) [] []],s,_),[]=>.ok (.int .i64 (zaA zaE zbd s:Nat),[])
 | (.agg [.int .i64 2,.int .i64 19,.clo (.func 231) [] [],.clo (.func 231) [] []],s,_),[]=>.ok (.int .i64 (zaA zaq zaq s:Nat),[])
 | _,_=>.err

theorem zR3:FOk zgK.P zgK.gl 188 (zai [none,some .str] G65):=by
 refine zbC zIe fun x h0 res hx C hC=>?_
 unfold G65 at hx
 split at hx
 ·simp only [Tr.val_ok,Option.some.injEq] at hx
  subst hx
  rename_i _ _ s u
  have e:avs [none,some Sh.str] (AV.agg [(AV.int .i64 1),(AV.int .i64 16),(AV.clo (Fn.func 230) [] []),(AV.clo (Fn.func 229) [] [])],s,u)=[AV.agg [(AV.int .i64 1),(AV.int .i64 16),(AV.clo (Fn.func 230) [] []),(AV.clo (Fn.func 229) [] [])],.str s]:=rfl
  rw [e]
  exact Reach.strLen 1 s rfl fun hl=>zNT hC s hl
 ·simp only [Tr.val_ok,Option.some.injEq] at hx
  subst hx
  rename_i _ _ s u
  have e:avs [none,some Sh.str] (AV.agg [(AV.int .i64 2),(AV.int .i64 19),(AV.clo (Fn.func 231) [] []),(AV.clo (Fn.func 231) [] [])],s,u)=[AV.agg [(AV.int .i64 2),(AV.int .i64 19),(AV.clo (Fn.func 231) [] []),(AV.clo (Fn.func 231) [] [])],.str s]:=rfl
  rw [e]
  exact Reach.strLen 1 s rfl fun hl=>zLB hC s hl
 ·simp at hx
open Go Go.Proofs

abbrev zdx:Sh:=.pr (.int .i64) .str

noncomputable def zCj:Env:=((zgK.add 89 (zkH [.str] [.bool] fun x=>some (zeW x.1,()))).add 224 (zkH [.str] [zg] fun x=>some (zbn x.1,()))).add 188 (zai [none,some .str] G65)
theorem zwQ:zi zCj:=((zhm.add zVi).add zSx).add zR3

def ziZ (s:Str):Bool:=bif decide ((↑(List.length s):Int) ≥ 1) then
  bif decide ((↑(List.length s):Int)≤16) then (↑(zaA zaE zbd s):Int)==↑(List.length s) else false
 else false

def g49 (x:zo ([zdx].map some)):Option (zo ([Sh.bool].map some)):=if x.1.1=1 then some (ziZ x.1.2,()) else none

theorem zXO (s:Str):(run zCj 0 unr Tryz.f141.results.toList 400 (zq Tryz.f141) (zp Tryz.f141.ntmps [.agg [.int .i64 1,.str s]] [])).val=some (.ret (.bool (ziZ s)) []):=by kernel_rfl
theorem zUm:zF zCj.P 141 Tryz.f141 1:=by refine ⟨?_,?_,?_,?_⟩ <;> kernel_rfl
theorem zRx:FOk zCj.P zCj.gl 141 (zkH [zdx] [.bool] g49):=by
 refine zmT zUm fun x y hx C hC=>?_
 obtain ⟨⟨k,s⟩,u⟩:=x
 unfold g49 at hx
 split at hx
 ·rename_i hk
  have hk':k=1:=hk
  subst hk'
  cases hx
  have e:avs ([zdx].map some) (((1,s),u):zo ([zdx].map some))=[.agg [.int .i64 1,.str s]]:=rfl
  rw [e]
  exact zjM (n0:=0) zwQ zbS zUm (fun id _=>hC id) (zXO s) rfl
 ·cases hx

noncomputable def zQ1:Env:=zCj.add 141 (zkH [zdx] [.bool] g49)
theorem zD3:zi zQ1:=zwQ.add zRx
noncomputable def zRP:Env:=zQ1.aut 88 Tryz.f88 1
theorem zFq:zi zRP:=zfF zD3 zbS (by refine ⟨?_,?_,?_,?_⟩ <;> kernel_rfl)
noncomputable def zwU:Env:=zRP.aut 46 Tryz.f46 1
theorem zwz:zi zwU:=zfF zFq zbS (by refine ⟨?_,?_,?_,?_⟩ <;> kernel_rfl)
end Cad
