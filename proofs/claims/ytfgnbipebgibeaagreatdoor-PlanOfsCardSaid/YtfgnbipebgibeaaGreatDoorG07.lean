/- Words, names, runs of octets. Names. -/
import Derived.Test.YtfgnbipebgibeaaGreatDoorG06
namespace Cad
open Go Go.Proofs
open List (length)

def swT {β:Type} (leaf:β→zx) (s:zw):List (zw×β)→β→Tr zx
 | [],d=>.ok (leaf d)
 | (w,b)::r,d=>.br (s==w) (.ok (leaf b)) (swT leaf s r d)

def Lf {β:Type} (s:zw):List (zw×β)→β→β
 | [],d=>d
 | (w,b)::r,d=>if s==w then b else Lf s r d

theorem Fg {β:Type} {leaf:β→zx} {s:zw} {d:β} {Φ:zx→Prop}:∀ (l:List (zw×β)),Φ (leaf (Lf s l d))→(swT leaf s l d).Sat Φ
 | [],h=>h
 | (w,b)::r,h=>by
  refine ⟨fun hc=>?_,fun hc=>Fg r ?_⟩
  ·simp only [Lf] at h; rw [if_pos hc] at h; exact h
  ·simp only [Lf] at h; rw [if_neg (by rw [hc]; simp)] at h; exact h

def Bk:List (zw×Bool):=[([65,78,68],true),([79,82],true),([78,79,84],true),([73,83],true),([78,85,76,76],true),([84,82,85,69],true),([70,65,76,83,69],true),([67,82,69,65,84,69],true),([84,65,66,76,69],true),([73,78,84],true),([84,69,88,84],true),([66,79,79,76],true),([75,69,89],true),([85,78,73,81,85,69],true),([82,69,70,69,82,69,78,67,69,83],true),([67,72,69,67,75],true),([68,82,79,80],true),([73,78,83,69,82,84],true),([73,78,84,79],true),([86,65,76,85,69,83],true),([85,80,68,65,84,69],true),([83,69,84],true),([87,72,69,82,69],true),([68,69,76,69,84,69],true),([70,82,79,77],true),([83,69,76,69,67,84],true),([71,82,65,78,84],true),([82,69,65,68],true),([87,82,73,84,69],true),([79,78],true),([84,79],true),([82,69,86,79,75,69],true),([77,73,71,82,65,84,69],true),([67,79,80,89],true),([74,79,73,78],true),([71,82,79,85,80],true),([66,89],true),([83,85,77],true)]
def vW:List (zw×Int):=[([108,105,116],0),([99,111,108],0),([110,111,116],1),([110,117,108,108],1),([97,110,100],2),([111,114],2),([61],2),([60],2),([43],2),([45],2)]

def iB (s:zw):Bool:=Lf s Bk false
def cE (s:zw):Int:=Lf s vW (-1)

def zO (c:Int):Bool:=bif decide (c ≥ 48) then decide (c≤57) else false
def aH (c:Int):Bool:=bif decide (c ≥ 97) then
  bif decide (c≤122) then true else bif decide (c ≥ 65) then decide (c≤90) else false
 else bif decide (c ≥ 65) then decide (c≤90) else false
def bl (c:Int):Bool:=bif aH c then true else bif zO c then true else c==95

noncomputable def qY:bS:=(((zby.aut 230 Tryz.f230 1).aut 231 Tryz.f231 1).aut 229 Tryz.f229 1).aut 187 Tryz.f187 0
theorem lx:zy qY:=by
 refine jm (jm (jm (jm N2 ?_) ?_) ?_) ?_ <;> (refine ⟨?_,?_,?_,?_⟩ <;> kernel_rfl)

theorem zfk (s:zw):run qY 0 (fun _=>{}) Tryz.f89.results.toList 400 (bv Tryz.f89) (bc Tryz.f89.ntmps [.str s] [])=swT (fun b=>.ret (.kb b) []) s Bk false:=by kernel_rfl
theorem zda:zK qY.P 89 Tryz.f89 1:=bN (by kernel_rfl)
theorem zaa:FK 89 (rA [.str] [.bool] fun x=>some (iB x.1,())):=by
 refine tX zda fun x y hx C hC=>?_
 cases hx
 refine cT (n0:=0) lx zda (fun id _=>hC id) (fun _=>{}) 400 ?_
 have e:kF ([Sh.str].map some) x=[.str x.1]:=rfl
 rw [e,zfk]
 exact Fg Bk rfl

theorem zfH (s:zw):run qY 0 (fun _=>{}) Tryz.f224.results.toList 400 (bv Tryz.f224) (bc Tryz.f224.ntmps [.str s] [])=swT (fun b=>.ret (.int .i64 b) []) s vW (-1):=by kernel_rfl
theorem zdx:zK qY.P 224 Tryz.f224 1:=bN (by kernel_rfl)
theorem zaz:FK 224 (rA [.str] [zf] fun x=>some (cE x.1,())):=by
 refine tX zdx fun x y hx C hC=>?_
 cases hx
 refine cT (n0:=0) lx zdx (fun id _=>hC id) (fun _=>{}) 400 ?_
 have e:kF ([Sh.str].map some) x=[.str x.1]:=rfl
 rw [e,zfH]
 exact Fg vW rfl

def cy (p:Int→Bool):zw→Nat
 | []=>0
 | c::r=>if p c.toNat then cy p r+1 else 0

def aI (f m:Int→Bool):zw→Nat
 | []=>0
 | c::r=>if f c.toNat then cy m r+1 else 0

theorem Reach.strLen {E:bS} {C:dl} {fn:FuncId} {todo:List Item} {st:St} {Q:AV→List AO→Prop} (j:Nat) (s:zw) (hj:st.tmps[j]?=some (.str s)) (h:s.length≤zA→Reach E C fn todo st Q):Reach E C fn todo st Q:=by
 intro b cs a w U ρ h1 h2 hc hW
 refine h ?_ b cs a w U ρ h1 h2 hc hW
 have hlt:j < a.tmps.toList.length:=by rw [← hc.tm.len]; exact (cn.1 hj).1
 have:=hc.tm.rv j _ _ hj (zP hlt)
 generalize a.tmps.toList[j]=v at this
 cases this with
 | str _ h=>exact h

abbrev GW:Nat→aJ:=fun _=>{slots:=[1,2,5]}
abbrev JA (a b c d:AV) (s:zw) (n:Int):St:={
 tmps:=(tm 31 [(1,AV.str s),(2,AV.ptr 0 0),(5,AV.int .i64 n)]),
 heap:=[AO.box [a,b,c,d]] }
noncomputable abbrev Yr (a b c d:AV) (p:Int→Bool) (s:zw) (n:Int):Tr zx:=
 Tr.chk (bif decide (n < ↑(length s)) then zR n (length s) else true)
  (Tr.br (bif decide (n < ↑(length s)) then p ↑(List.getD s n.toNat 0).toNat else false)
   (Tr.ok (zx.head 4 (zI Tryz.f188 4) (JA a b c d s (IntKind.i64.wrap (n+1)))))
   (Tr.ok (zx.ret (AV.int .i64 n) [])))
theorem SA:zK qY.P 188 Tryz.f188 2:=bN (by kernel_rfl)

theorem WW {C:dl} (hC:∀ id,0≤id→C.ρ0 id=none) (a b c d:AV) (p:Int→Bool) (s:zw)
  (hon:∀ n,run qY 0 GW Tryz.f188.results.toList 300 (zI Tryz.f188 4) (JA a b c d s n)=Yr a b c d p s n) (hl:s.length≤zA):∀ (k i:Nat),s.length - i=k→i≤s.length→
  Reach qY C 188 (zI Tryz.f188 4) (JA a b c d s i) (fun r h=>(r,h)=(.int .i64 ((i+cy p (s.drop i):Nat):Int),[]))
 | k,i,hk,hi=>by
  subst hk
  refine cT lx SA hC GW 300 ?_
  rw [hon]
  refine ⟨?_,fun h=>?_,fun h=>?_⟩
  ·by_cases hlt:i < s.length
   ·have:decide ((i:Int) < s.length)=true:=by simpa using hlt
    simp [zR,hlt]
   ·have:decide ((i:Int) < s.length)=false:=by simpa using hlt
    simp [hlt]
  ·have hlt:i < s.length:=by
    by_cases hlt:i < s.length
    ·exact hlt
    ·have:decide ((i:Int) < s.length)=false:=by simpa using hlt
     rw [this] at h; cases h
   have hd:decide ((i:Int) < s.length)=true:=by simpa using hlt
   rw [hd,bt s _ hlt,zU] at h
   rw [dF hlt]
   simp only [cy]
   rw [if_pos h,zt i (by omega),show i+(cy p (List.drop (i+1) s)+1)=(i+1)+cy p (List.drop (i+1) s) by omega]
   exact WW hC a b c d p s hon hl (s.length - (i+1)) (i+1) rfl (by omega)
  ·have:cy p (s.drop i)=0:=by
    by_cases hlt:i < s.length
    ·have hd:decide ((i:Int) < s.length)=true:=by simpa using hlt
     rw [hd,bt s _ hlt] at h
     rw [dF hlt]
     simp only [cy]
     rw [if_neg (by intro h'; rw [zU] at h; rw [h'] at h; cases h)]
    ·rw [xy (by omega)]; rfl
   rw [this]
   rfl
 termination_by k=>k

theorem zd1 (s:zw) (n:Int):run qY 0 GW Tryz.f188.results.toList 300 (zI Tryz.f188 4) (JA (AV.int .i64 1) (AV.int .i64 16) (AV.clo (Fn.func 230) [] []) (AV.clo (Fn.func 229) [] []) s n)=Yr (AV.int .i64 1) (AV.int .i64 16) (AV.clo (Fn.func 230) [] []) (AV.clo (Fn.func 229) [] []) bl s n:=by kernel_rfl
theorem zbT (s:zw):run qY 0 GW Tryz.f188.results.toList 300 (bv Tryz.f188) (bc Tryz.f188.ntmps [.agg [(AV.int .i64 1),(AV.int .i64 16),(AV.clo (Fn.func 230) [] []),(AV.clo (Fn.func 229) [] [])],.str s] [])=
 Tr.chk (bif s==[] then true else zR 0 (length s))
  (Tr.br (bif s==[] then true else !aH ↑(List.getD s (Int.toNat 0) 0).toNat) (Tr.ok (zx.ret (AV.int .i64 0) []))
   (Tr.ok (zx.head 4 (zI Tryz.f188 4) (JA (AV.int .i64 1) (AV.int .i64 16) (AV.clo (Fn.func 230) [] []) (AV.clo (Fn.func 229) [] []) s 1)))):=by kernel_rfl
theorem WS {C:dl} (hC:∀ id,0≤id→C.ρ0 id=none) (s:zw) (hl:s.length≤zA):Reach qY C 188 (bv Tryz.f188) (bc Tryz.f188.ntmps [.agg [(AV.int .i64 1),(AV.int .i64 16),(AV.clo (Fn.func 230) [] []),(AV.clo (Fn.func 229) [] [])],.str s] []) (fun r h=>(r,h)=(.int .i64 (aI aH bl s:Nat),[])):=by
 refine cT (n0:=0) lx SA hC GW 300 ?_
 rw [zbT]
 cases s with
 | nil=>exact ⟨rfl,fun _=>rfl,fun h=>by cases h⟩
 | cons c r=>
  refine ⟨by simp [zR],fun h=>?_,fun h=>?_⟩
  ·have h':aH ↑c.toNat=false:=by simpa using h
   simp only [aI,h']
   rfl
  ·have h':aH ↑c.toNat=true:=by simpa using h
   have:=WW hC (AV.int .i64 1) (AV.int .i64 16) (AV.clo (Fn.func 230) [] []) (AV.clo (Fn.func 229) [] []) bl (c::r) (zd1 (c::r)) hl _ 1 rfl (by simp)
   simp only [aI,h',if_true]
   rw [show 1+cy bl ((c::r).drop 1)=cy bl r+1 by simp [qc]] at this
   exact this

theorem zd2 (s:zw) (n:Int):run qY 0 GW Tryz.f188.results.toList 300 (zI Tryz.f188 4) (JA (AV.int .i64 2) (AV.int .i64 19) (AV.clo (Fn.func 231) [] []) (AV.clo (Fn.func 231) [] []) s n)=Yr (AV.int .i64 2) (AV.int .i64 19) (AV.clo (Fn.func 231) [] []) (AV.clo (Fn.func 231) [] []) zO s n:=by kernel_rfl
theorem zbU (s:zw):run qY 0 GW Tryz.f188.results.toList 300 (bv Tryz.f188) (bc Tryz.f188.ntmps [.agg [(AV.int .i64 2),(AV.int .i64 19),(AV.clo (Fn.func 231) [] []),(AV.clo (Fn.func 231) [] [])],.str s] [])=
 Tr.chk (bif s==[] then true else zR 0 (length s))
  (Tr.br (bif s==[] then true else !zO ↑(List.getD s (Int.toNat 0) 0).toNat) (Tr.ok (zx.ret (AV.int .i64 0) []))
   (Tr.ok (zx.head 4 (zI Tryz.f188 4) (JA (AV.int .i64 2) (AV.int .i64 19) (AV.clo (Fn.func 231) [] []) (AV.clo (Fn.func 231) [] []) s 1)))):=by kernel_rfl
theorem WT {C:dl} (hC:∀ id,0≤id→C.ρ0 id=none) (s:zw) (hl:s.length≤zA):Reach qY C 188 (bv Tryz.f188) (bc Tryz.f188.ntmps [.agg [(AV.int .i64 2),(AV.int .i64 19),(AV.clo (Fn.func 231) [] []),(AV.clo (Fn.func 231) [] [])],.str s] []) (fun r h=>(r,h)=(.int .i64 (aI zO zO s:Nat),[])):=by
 refine cT (n0:=0) lx SA hC GW 300 ?_
 rw [zbU]
 cases s with
 | nil=>exact ⟨rfl,fun _=>rfl,fun h=>by cases h⟩
 | cons c r=>
  refine ⟨by simp [zR],fun h=>?_,fun h=>?_⟩
  ·have h':zO ↑c.toNat=false:=by simpa using h
   simp only [aI,h']
   rfl
  ·have h':zO ↑c.toNat=true:=by simpa using h
   have:=WW hC (AV.int .i64 2) (AV.int .i64 19) (AV.clo (Fn.func 231) [] []) (AV.clo (Fn.func 231) [] []) zO (c::r) (zd2 (c::r)) hl _ 1 rfl (by simp)
   simp only [aI,h',if_true]
   rw [show 1+cy zO ((c::r).drop 1)=cy zO r+1 by simp [qc]] at this
   exact this

def G65:ie [none,some .str]:=fun x h=>match x,h with
 | (.agg [.int .i64 1,.int .i64 16,.clo (.func 230) [] [],.clo (.func 229) [] []],s,_),[]=>.ok (.int .i64 (aI aH bl s:Nat),[])
 | (.agg [.int .i64 2,.int .i64 19,.clo (.func 231) [] [],.clo (.func 231) [] []],s,_),[]=>.ok (.int .i64 (aI zO zO s:Nat),[])
 | _,_=>.err

theorem zaK:FK 188 (bh [none,some .str] G65):=by
 refine dD SA fun x h0 res hx C hC=>?_
 unfold G65 at hx
 split at hx
 ·simp only [Tr.val_ok,bz] at hx
  subst hx
  rename_i _ _ s u
  have e:kF [none,some Sh.str] (AV.agg [(AV.int .i64 1),(AV.int .i64 16),(AV.clo (Fn.func 230) [] []),(AV.clo (Fn.func 229) [] [])],s,u)=[AV.agg [(AV.int .i64 1),(AV.int .i64 16),(AV.clo (Fn.func 230) [] []),(AV.clo (Fn.func 229) [] [])],.str s]:=rfl
  rw [e]
  exact Reach.strLen 1 s rfl fun hl=>WS hC s hl
 ·simp only [Tr.val_ok,bz] at hx
  subst hx
  rename_i _ _ s u
  have e:kF [none,some Sh.str] (AV.agg [(AV.int .i64 2),(AV.int .i64 19),(AV.clo (Fn.func 231) [] []),(AV.clo (Fn.func 231) [] [])],s,u)=[AV.agg [(AV.int .i64 2),(AV.int .i64 19),(AV.clo (Fn.func 231) [] []),(AV.clo (Fn.func 231) [] [])],.str s]:=rfl
  rw [e]
  exact Reach.strLen 1 s rfl fun hl=>WT hC s hl
 ·simp at hx

abbrev bM:Sh:=.pr (.int .i64) .str

noncomputable def R4:bS:=((qY.add 89 (rA [.str] [.bool] fun x=>some (iB x.1,()))).add 224 (rA [.str] [zf] fun x=>some (cE x.1,()))).add 188 (bh [none,some .str] G65)
theorem Gw:zy R4:=((lx.add zaa).add zaz).add zaK

def oN (s:zw):Bool:=bif decide ((↑(length s):Int) ≥ 1) then
  bif decide ((↑(length s):Int)≤16) then (↑(aI aH bl s):Int)==↑(length s) else false
 else false

def g49 (x:zC ([bM].map some)):Option (zC ([Sh.bool].map some)):=if x.1.1=1 then some (oN x.1.2,()) else none

theorem zfD (s:zw):(run R4 0 YI Tryz.f141.results.toList 400 (bv Tryz.f141) (bc Tryz.f141.ntmps [.agg [.int .i64 1,.str s]] [])).val=some (.ret (.bool (oN s)) []):=by kernel_rfl
theorem zdv:zK R4.P 141 Tryz.f141 1:=bN (by kernel_rfl)
theorem zat:FK 141 (rA [bM] [.bool] g49):=by
 refine tX zdv fun x y hx C hC=>?_
 obtain ⟨⟨k,s⟩,u⟩:=x
 unfold g49 at hx
 split at hx
 ·rename_i hk
  have hk':k=1:=hk
  subst hk'
  cases hx
  have e:kF ([bM].map some) (((1,s),u):zC ([bM].map some))=[.agg [.int .i64 1,.str s]]:=rfl
  rw [e]
  exact pK (n0:=0) Gw zdv (fun id _=>hC id) (zfD s) rfl
 ·cases hx

noncomputable def zbz:bS:=R4.add 141 (rA [bM] [.bool] g49)
theorem N6:zy zbz:=Gw.add zat
noncomputable def zbA:bS:=zbz.aut 88 Tryz.f88 1
theorem N7:zy zbA:=jm N6 (bN (by kernel_rfl))
noncomputable def L8:bS:=zbA.aut 46 Tryz.f46 1
theorem GA:zy L8:=jm N7 (bN (by kernel_rfl))
end Cad
