/- The program's environment: shapes, and the way functions are added. Functions from plain data to plain data. Places of columns. -/
import Derived.Test.YtiefilkilbdpgaaGreatDoorM05
import Derived.Test.YtiefilkilbdpgaaGreatDoorProg
namespace Cad
open Go

abbrev zg:Sh:=.int .i64
abbrev zf:Sh:=.pr (.int .i64) (.pr (.int .i64) .str)
abbrev zi:Sh:=.pr .str (.pr (.int .i64) .bool)
abbrev zp:Sh:=.pr (.int .i64) .str
abbrev zt:Sh:=.pr .str (.pr (.sl zi) (.pr (.int .i64) (.pr (.sl (.int .i64)) (.pr (.sl zp) .expr))))

abbrev zh:Sh:=.pr zt (.sl (.sl zf))

def Zn:Nat→Option Sh
 | 3=>some (.int .i64)
 | 34=>some zf
 | 37=>some .expr
 | 56=>some zi
 | 117=>some zp
 | 9=>some .str
 | 5=>some (.int .u8)
 | 205=>some (.pr (.int .i64) .str)
 | 78=>some (.pr .str .str)
 | 64=>some (.pr .str .expr)
 | 38=>some (.sl zf)
 | 54=>some (zh)
 | _=>none

abbrev jM:List Int:=[1,10,100,1000,10000,100000,1000000,10000000,100000000,1000000000,10000000000,100000000000,1000000000000,10000000000000,100000000000000,1000000000000000,10000000000000000,100000000000000000,1000000000000000000,10000000000000000000]

def JX:Nat→AV
 | 0=>.eptr [.str [73,78,84],.str [84,69,88,84],.str [66,79,79,76]] 0
 | 2=>.gint
 | 5=>.tab .u64 jM
 | _=>.any

abbrev FK (k:FuncId) (F:zD):Prop:=lF Go.Proofs.Tryz.prog JX k F

noncomputable def Xi:bf:={ P:=Go.Proofs.Tryz.prog,sh:=Zn,gl:=JX,F:=fun _=>none }

def bf.add (E:bf) (k:FuncId) (F:zD):bf:={ E with F:=fun j=>if j=k then some F else E.F j }

theorem zm.add {E:bf} {k:FuncId} {F:zD} (h:zm E) (hk:lF E.P E.gl k F):zm (E.add k F) where
 sh:=h.sh
 fs:=fun j F' hj=>by
  simp only [bf.add] at hj
  split at hj
  ·rename_i e; cases hj; rw [e]; exact hk
  ·exact h.fs j F' hj
 mix:=h.mix

def H5:List (Nat×zD)→Nat→Option zD→Option zD
 | [],_,d=>d
 | p::r,j,d=>if j=p.1 then some p.2 else H5 r j d
def bf.addL (E:bf) (l:List (Nat×zD)):bf:={ E with F:=fun j=>H5 l j (E.F j) }
def K1 (P:Program) (gl:Nat→AV):List (Nat×zD)→Prop
 | []=>True
 | p::r=>lF P gl p.1 p.2∧K1 P gl r
theorem gW {P:Program} {gl:Nat→AV}:K1 P gl []:=trivial
theorem fc {P:Program} {gl:Nat→AV} {k:Nat} {F:zD} {r:List (Nat×zD)} (h:lF P gl k F) (t:K1 P gl r):K1 P gl ((k,F)::r):=⟨h,t⟩
theorem zm.addL {E:bf} (h:zm E) {l:List (Nat×zD)} (hl:K1 E.P E.gl l):zm (E.addL l) where
 sh:=h.sh
 fs:=by
  intro k F
  show H5 l k (E.F k)=some F→lF E.P E.gl k F
  induction l with
  | nil=>exact h.fs k F
  | cons p r ih=>
   intro hk
   rw [H5] at hk
   split at hk
   ·rename_i e; cases hk; rw [e]; exact hl.1
   ·exact ih hl.2 hk
 mix:=h.mix

def iY (key:Nat):Nat→Code→List Item→Option (List Item)
 | 0,_,_=>none
 | n+1,c,k=>match c with
  | .seq a b=>match iY key n a (.code b::k) with
   | some r=>some r
   | none=>iY key n b k
  | .cond _ a b=>match iY key n a k with
   | some r=>some r
   | none=>iY key n b k
  | .block id c=>iY key n c (.inBlock id::k)
  | .loop c=>if dm c=key then some (.code c::.inLoop c::k) else iY key n c (.inLoop c::k)
  | .region id _ _=>if id+500000=key then some k else none
  | _=>none

def zx (f:Func) (key:Nat):List Item:=match f.body with
 | some c=>(iY key 1000 c []).getD []
 | none=>[]

def au (f:Func):List Item:=match f.body with
 | some c=>[.code c]
 | none=>[]

theorem Yr:Xi.P.follows .mixedOrders=true:=by kernel_rfl

def ZD:Nat→zX:=fun _=>{ unroll:=true }

def bS (E:bf) (f:Func) (ks:List (Option Sh)):cy ks:=fun x h=>
 (run E h.length ZD f.results.toList 4000 (au f) (z7 f.ntmps (f6 ks x) h)).bind fun
  | .ret v h'=>.ok (v,h')
  | _=>.err

theorem Tr.sat_of_val {α:Type} {Φ:α→Prop}:∀ {t:Tr α} {a:α},t.val=some a→Φ a→t.Sat Φ
 | .err,_,h,_=>by simp at h
 | .chk c t,a,h,ha=>by
  cases c
  ·simp [Tr.val] at h
  ·exact ⟨rfl,sat_of_val (t:=t) (by simpa [Tr.val] using h) ha⟩
 | .br c t f,a,h,ha=>by
  cases c
  ·exact ⟨fun h=>(by cases h),fun _=>sat_of_val (t:=f) (by simpa [Tr.val] using h) ha⟩
  ·exact ⟨fun _=>sat_of_val (t:=t) (by simpa [Tr.val] using h) ha,fun h=>(by cases h)⟩
 | .ok b,a,h,ha=>by simp [Tr.val] at h; subst h; exact ha

def zA (P:Program) (k:FuncId) (f:Func) (n:Nat):Prop:=P.funcs[k]?=some f∧(f.name == "runtime.NumGoroutine")=false∧f.body.isNone=false∧decide (n≤f.ntmps)=true

theorem aJ {P:Program} {k:FuncId} {f:Func} {n:Nat} (h:(P.funcs[k]?,f.name == "runtime.NumGoroutine",f.body.isNone,decide (n≤f.ntmps))=(some f,false,false,true)):zA P k f n:=by
 simp only [bu] at h
 exact ⟨h.1,h.2.1,h.2.2.1,h.2.2.2⟩

theorem nZ:∀ (ks:List (Option Sh)) (x:zw ks),(f6 ks x).length=ks.length
 | [],_=>rfl
 | some _::ks,x=>by simp [f6,nZ ks x.2]
 | none::ks,x=>by simp [f6,nZ ks x.2]

theorem cz {E:bf} {C:cq} {k:FuncId} {f:Func} {Q:AV→List AO→Prop} {n n0:Nat} (hE:zm E) (hf:zA E.P k f n) (hC:∀ id,n0≤id→C.ρ0 id=none) (keep:Nat→zX) (fuel:Nat)
  {todo:List Item} {st:St} (h:(run E n0 keep f.results.toList fuel todo st).Sat (gY E C k Q)):Reach E C k todo st Q:=
 AG hE hf.1 hC rfl fuel _ _ h

theorem QJ {E:bf} {k:FuncId} {f:Func} {Q:AV→List AO→Prop} {args:List AV} {h0:List AO} (hf:zA E.P k f args.length)
  (h:∀ C:cq,(∀ id,h0.length≤id→C.ρ0 id=none)→Reach E C k (au f) (z7 f.ntmps args h0) Q):Pl E k args h0 Q:=by
 obtain ⟨h1,h2,h3,h4⟩:=hf
 cases hb:f.body with
 | none=>rw [hb] at h3; cases h3
 | some c=>
  refine ⟨f,c,h1,hb,h2,dG h4,fun C hC=>?_⟩
  have:=h C hC
  simpa [au,hb] using this

theorem bq {P:Program} {gl:Nat→AV} {E:bf} {k:FuncId} {f:Func} {ks:List (Option Sh)} {G:cy ks} (hf:zA E.P k f ks.length)
  (h:∀ x h0 res,(G x h0).val=some res→∀ C:cq,(∀ id,h0.length≤id→C.ρ0 id=none)→Reach E C k (au f) (z7 f.ntmps (f6 ks x) h0) (fun r h=>(r,h)=res)) (qp:E.P=P:=by rfl) (qg:E.gl=gl:=by rfl):lF P gl k (zR ks G):=by
 subst qp qg
 exact K6 ⟨f,hf.1,hf.2.1,hf.2.2.1⟩ fun x h0 res hx=>QJ (by rw [nZ]; exact hf) (h x h0 res hx)

theorem aj {P:Program} {gl:Nat→AV} {E:bf} {k:FuncId} {f:Func} (ks:List (Option Sh)) (hE:zm E) (hf:zA E.P k f ks.length) (qp:E.P=P:=by rfl) (qg:E.gl=gl:=by rfl):lF P gl k (zR ks (bS E f ks)):=by
 subst qp qg
 refine bq hf fun x h0 res hx C hC=>cz hE hf hC ZD 4000 ?_
 unfold bS at hx
 simp only [Tr.val_bind,eO] at hx
 obtain ⟨l,hl,hres⟩:=hx
 refine Tr.sat_of_val hl ?_
 cases l with
 | ret v h'=>simp at hres; exact hres
 | head _ _ _=>simp at hres
 | fork _ _ _ _=>simp at hres

def UU (P:Program) (t:TypeId) (e:Sh):Bool:=match P.info? t with
 | some i=>i.size==e.size&&decide (0 < e.size)&&decide (i.bytes≤131072)&&(match i.zero with | some z=>z.cells.size==i.size | none=>false)
 | none=>false

theorem OV {P:Program} {t:TypeId} {e:Sh} (h:UU P t e=true):∃ i z,P.info? t=some i∧i.size=e.size∧0 < e.size∧i.bytes≤131072∧i.zero=some z∧z.cells.size=i.size:=by
 unfold UU at h
 split at h
 ·rename_i i hi
  simp only [aE,zZ,eQ] at h
  obtain ⟨⟨⟨h1,h2⟩,h3⟩,h4⟩:=h
  split at h4
  ·rename_i z hz
   exact ⟨i,z,hi,h1,h2,h3,hz,by simpa using h4⟩
  ·cases h4
 ·cases h

theorem LK:zm Xi where
 sh:=by
  intro t e h
  have hh:Zn t=some e:=h
  unfold Zn at hh
  split at hh
  all_goals first
   | (cases hh; exact OV (by kernel_rfl))
   | cases hh
 fs:=by intro k F h; cases h
 mix:=Yr

abbrev rn (E:bf) (n:Nat) (kp:Nat→zX) (f:Func) (a:List AV) (h:List AO):Tr zr:=run E n kp (Func.results f).toList 400 (au f) (z7 (Func.ntmps f) a h)
abbrev rh (E:bf) (n:Nat) (kp:Nat→zX) (f:Func) (k:Nat) (s:St):Tr zr:=run E n kp (Func.results f).toList 400 (zx f k) s

def iu (h:List AO):Nat→AO:=fun j=>h.getD j .dead

def zgs (h:List AO) (outs:List Sh):AV→Option (zw (outs.map some))
 | .tup rs=>jx (iu h) (fun i=>i) (outs.map some) rs
 | _=>none

def ae (h:List AO):(outs:List Sh)→AV→Option (zw (outs.map some))
 | [s],r=>match rP (iu h) s r with
  | some y=>some (y,())
  | none=>none
 | [],r=>zgs h [] r
 | s1::s2::ss,r=>zgs h (s1::s2::ss) r

def sn:(outs:List Sh)→zw (outs.map some)→AV
 | [s],y=>zz s y.1
 | outs,y=>.tup (f6 (outs.map some) y)

theorem mg {hp:Nat→AO} {f:Nat→Nat}:∀ (ss:List Sh) (args:List AV) (x:zw (ss.map some)),jx hp f (ss.map some) args=some x→bD hp (ss.map some) args=some ((f6 (ss.map some) x).map fun a=>(false,a))
 | [],[],_,_=>rfl
 | s::ss,a::as',x,h=>by
  have h':jx hp f (some s::ss.map some) (a::as')=some x:=h
  show bD hp (some s::ss.map some) (a::as')=_
  unfold jx at h'
  unfold bD
  split at h'
  ·rename_i y r hy hr
   cases h'
   rw [hy,mg ss as' r hr]
   rfl
  ·cases h'
 | [],_::_,_,h=>by simp [jx] at h
 | _::_,[],_,h=>by simp [jx] at h

theorem Reach.plain {E:bf} {C:cq} {fn:FuncId} {todo:List Item} {st:St} {outs:List Sh} {y:zw (outs.map some)} (hC:∀ id,C.ρ0 id=none)
  (h:Reach E C fn todo st (fun r h=>ae h outs r=some y)):Reach E C fn todo st (fun r h=>(r,h)=(sn outs y,[])):=by
 intro b cs a w U ρ h1 h2 hc hW
 obtain ⟨e,w',fr,⟨v,r,h',U',ρ',he,hq,hrv,hH,hnew,hr0,hWd⟩,hcm,hf,hl⟩:=h b cs a w U ρ h1 h2 hc hW
 refine ⟨e,w',fr,⟨v,_,_,fun b=>U' b∧b < C.w0.heap.size∧¬ C.B0 b,fun _=>none,he,rfl,?_,⟨fun id=>?_,fun id1 id2 b o=>?_,fun id b o=>?_⟩,fun _ _=>rfl,fun id v hv=>?_,⟨hWd.ext,hWd.same,fun b hb=>hWd.ub b hb.1,fun b hb hu=>hWd.u1 b hb hu.1,fun b hb hu hn=>⟨hWd.u2 b hb hu hn,hb,hn⟩,fun g=>(hWd.gl g).weak fun b hb=>hb.1⟩⟩,hcm,hf,hl⟩
 ·have hob:∀ id,aX w' U' ρ' id (iu h' id)∧∀ b,zM ρ' id (iu h' id) b→¬ (U' b∧b < C.w0.heap.size∧¬ C.B0 b):=by
   intro id
   refine ⟨hH.ob id,fun b ho hu=>?_⟩
   rcases hH.blk id b ho with hB | hB
   ·exact hu.2.2 hB
   ·omega
  have htup:∀ (outs:List Sh) (y:zw (outs.map some)) (rs:List AV),jx (iu h') (fun i=>i) (outs.map some) rs=some y→Rv w' U' ρ' (.tup rs) v→Rv w' (fun b=>U' b∧b < C.w0.heap.size∧¬ C.B0 b) (fun _=>none) (.tup (f6 (outs.map some) y)) v:=by
   intro outs y rs hy hrv
   cases hrv with
   | tup _ vs hl hr=>
   have:=(gO (w:=w') (U:=U') (ρ:=ρ') (U':=fun b=>U' b∧b < C.w0.heap.size∧¬ C.B0 b) (ρ':=fun _=>none) (hp:=iu h') (f:=fun i=>i) (fun b hb=>hb.1) (outs.map some) rs vs _ (mg outs rs y hy) ⟨hl,hr⟩ (fun id _=>hob id)
    (fun id hid=>by simp only [eJ,List.filter_map,rK] at hid; rw [List.filter_eq_nil_iff.2 (by simp)] at hid; simp [AV.idsL] at hid)).1
   simp only [rO,rK,zO,if_false,List.map_id'] at this
   exact .tup _ vs this.len this.rv
  match outs,y,hq with
  | [s],y,hq=>
   simp only [ae] at hq
   split at hq
   ·rename_i x hx
    cases hq
    exact uE hx hrv (fun b hb=>hb.1) (fun id _=>hob id)
   ·cases hq
  | [],y,hq=>
   simp only [ae] at hq
   cases r with
   | tup rs=>exact htup [] y _ hq hrv
   | _=>cases hq
  | s1::s2::ss,y,hq=>
   simp only [ae] at hq
   cases r with
   | tup rs=>exact htup _ y _ hq hrv
   | _=>cases hq
 ·simp [aX]
 ·obtain ⟨_,v,hv,_⟩:=o
  cases hv
 ·obtain ⟨_,v,hv,_⟩:=o
  cases hv
 ·rw [hC id] at hv; cases hv

theorem nc {E:bf} {C:cq} {k:FuncId} {f:Func} {Q:AV→List AO→Prop} {n n0:Nat} (hE:zm E) (hf:zA E.P k f n) (hC:∀ id,n0≤id→C.ρ0 id=none) {keep:Nat→zX} {fuel:Nat}
  {todo:List Item} {st:St} {l:zr} (h:(run E n0 keep f.results.toList fuel todo st).val=some l) (hl:gY E C k Q l):Reach E C k todo st Q:=
 cz hE hf hC keep fuel (Tr.sat_of_val h hl)

def N7 (ks outs:List Sh) (g:zw (ks.map some)→Option (zw (outs.map some))):cy (ks.map some):=fun x h=>match h with
 | []=>match g x with
  | some y=>.ok (sn outs y,[])
  | none=>.err
 | _=>.err

def oB (ks outs:List Sh) (g:zw (ks.map some)→Option (zw (outs.map some))):zD:=zR (ks.map some) (N7 ks outs g)

theorem qj {P:Program} {gl:Nat→AV} {E:bf} {k:FuncId} {f:Func} {ks outs:List Sh} {g:zw (ks.map some)→Option (zw (outs.map some))} (hf:zA E.P k f ks.length)
  (h:∀ x y,g x=some y→∀ C:cq,(∀ id,C.ρ0 id=none)→Reach E C k (au f) (z7 f.ntmps (f6 (ks.map some) x) []) (fun r h=>ae h outs r=some y)) (qp:E.P=P:=by rfl) (qg:E.gl=gl:=by rfl):lF P gl k (oB ks outs g):=by
 subst qp qg
 refine bq (by simpa using hf) fun x h0 res hx C hC=>?_
 unfold N7 at hx
 split at hx
 ·split at hx
  ·rename_i y hy
   simp only [Tr.val_ok,ag] at hx
   subst hx
   exact Reach.plain (fun id=>hC id (by simp)) (h x y hy C (fun id=>hC id (by simp)))
  ·simp at hx
 ·simp at hx

noncomputable abbrev bf.aut (E:bf) (k:Nat) (f:Func) (n:Nat):bf:=E.add k (zR (List.replicate n none) (bS E f (List.replicate n none)))

theorem io {E:bf} {k:Nat} {f:Func} {n:Nat} (hE:zm E) (hf:zA E.P k f n):zm (E.aut k f n):=
 hE.add (aj _ hE (by simpa using hf))

open Go Go.Proofs

theorem Reach.len {E:bf} {C:cq} {fn:FuncId} {todo:List Item} {st:St} {Q:AV→List AO→Prop} (j:Nat) (e:Sh) (l:List (Sem e)) (hj:st.tmps[j]?=some (.sl e l)) (h:l.length≤zF→Reach E C fn todo st Q):Reach E C fn todo st Q:=by
 intro b cs a w U ρ h1 h2 hc hW
 refine h ?_ b cs a w U ρ h1 h2 hc hW
 have hlt:j < a.tmps.toList.length:=by rw [← hc.tm.len]; exact (bG.1 hj).1
 have:=hc.tm.rv j _ _ hj (zI hlt)
 generalize a.tmps.toList[j]=v at this
 cases this with
 | sl0=>simp
 | sl _ _ _ _ _ _ _ hm=>exact hm

theorem zH (i:Nat) (h:i < zF):IntKind.i64.wrap (↑i+1)=((i+1:Nat):Int):=by
 have:zF=9223372036854775807:=rfl
 rw [rL]
 omega

theorem zY {α:Type} (l:List α) (d:α) {i:Nat} (h:i < l.length):l.getD (i:Int).toNat d=l[i]:=by
 simp [h]

def zS {α:Type} (p:α→Bool):List α→Nat→Int
 | [],_=>-1
 | x::r,i=>if p x then i else zS p r (i+1)

noncomputable def Bt:bf:=(Xi.aut 127 Tryz.f127 2).aut 209 Tryz.f209 2
theorem lU:zm Bt:=by
 refine io (io LK ?_) ?_ <;> (refine ⟨?_,?_,?_,?_⟩ <;> kernel_rfl)

abbrev Eb:Nat→zX:=fun _=>{slots:=[0,1,7,8]}
theorem NM:zA Bt.P 126 Tryz.f126 2:=aJ (by kernel_rfl)
abbrev tD (l:List (Sem zi)) (s:zn) (i:Int):St:={
    tmps:=
     (tm 19 [(0,AV.sl (Sh.str.pr ((Sh.int IntKind.i64).pr Sh.bool)) l),(1,AV.clo (Fn.func 127) [] [AV.ptr 0 0]),(7,AV.int .i64 ↑l.length),(8,AV.int .i64 i)]),
    heap:=[AO.box [AV.str s]] }

theorem Rb (l:List (Sem zi)) (s:zn):run Bt 1 Eb Tryz.f126.results.toList 300 (au Tryz.f126) (z7 Tryz.f126.ntmps [.sl zi l,.clo (.func 127) [] [.ptr 0 0]] [.box [.str s]])=.ok (.head 2 (zx Tryz.f126 2) (tD l s 0)):=by kernel_rfl

theorem RF (l:List (Sem zi)) (s:zn) (i:Int):run Bt 1 Eb Tryz.f126.results.toList 300 (zx Tryz.f126 2) (tD l s i)=
 Tr.br (decide (i < ↑l.length))
  (Tr.chk (zE i l.length)
   (Tr.br ((l.getD i.toNat (zj (Sh.str.pr ((Sh.int IntKind.i64).pr Sh.bool)))).1==s)
    (Tr.ok (zr.ret (AV.int .i64 i) [AO.box [AV.str s]]))
    (Tr.ok (zr.head 2 (zx Tryz.f126 2) (tD l s (IntKind.i64.wrap (i+1)))))))
  (Tr.ok (zr.ret (AV.int .i64 (-1)) [AO.box [AV.str s]])):=by kernel_rfl

theorem Hs {C:cq} (hC:∀ id,1≤id→C.ρ0 id=none) (l:List (Sem zi)) (s:zn) (hl:l.length≤zF):∀ (n i:Nat),l.length - i=n→i≤l.length→
  Reach Bt C 126 (zx Tryz.f126 2) (tD l s i) (fun r h=>(r,h)=(.int .i64 (zS (fun c=>c.1==s) (l.drop i) i),[.box [.str s]]))
 | n,i,hn,hi=>by
  subst hn
  refine cz lU NM hC Eb 300 ?_
  rw [RF]
  refine ⟨fun h=>⟨?_,fun hc=>?_,fun hc=>?_⟩,fun h=>?_⟩
  ·simp only [zZ] at h
   simp [zE]; omega
  ·simp only [zZ] at h
   have hlt:i < l.length:=by omega
   rw [zY l _ hlt] at hc
   rw [dA hlt]
   simp only [zS]
   rw [if_pos hc]
   rfl
  ·simp only [zZ] at h
   have hlt:i < l.length:=by omega
   rw [zY l _ hlt] at hc
   rw [dA hlt]
   simp only [zS]
   rw [if_neg (by rw [hc]; simp),zH i (by omega)]
   exact Hs hC l s hl (l.length - (i+1)) (i+1) rfl (by omega)
  ·simp only [decide_eq_false_iff_not] at h
   rw [yh (by omega)]
   rfl
 termination_by n=>n

abbrev tE (l:List (Sem zi)) (s:zn) (i:Int):St:={
    tmps:=
     (tm 19 [(0,AV.sl (Sh.str.pr ((Sh.int IntKind.i64).pr Sh.bool)) l),(1,AV.clo (Fn.func 209) [] [AV.ptr 0 0]),(7,AV.int .i64 ↑l.length),(8,AV.int .i64 i)]),
    heap:=[AO.box [AV.str s]] }

theorem Rc (l:List (Sem zi)) (s:zn):run Bt 1 Eb Tryz.f126.results.toList 300 (au Tryz.f126) (z7 Tryz.f126.ntmps [.sl zi l,.clo (.func 209) [] [.ptr 0 0]] [.box [.str s]])=.ok (.head 2 (zx Tryz.f126 2) (tE l s 0)):=by kernel_rfl

theorem RG (l:List (Sem zi)) (s:zn) (i:Int):run Bt 1 Eb Tryz.f126.results.toList 300 (zx Tryz.f126 2) (tE l s i)=
 Tr.br (decide (i < ↑l.length))
  (Tr.chk (zE i l.length)
   (Tr.br ((l.getD i.toNat (zj (Sh.str.pr ((Sh.int IntKind.i64).pr Sh.bool)))).1==s)
    (Tr.ok (zr.ret (AV.int .i64 i) [AO.box [AV.str s]]))
    (Tr.ok (zr.head 2 (zx Tryz.f126 2) (tE l s (IntKind.i64.wrap (i+1)))))))
  (Tr.ok (zr.ret (AV.int .i64 (-1)) [AO.box [AV.str s]])):=by kernel_rfl

theorem Ht {C:cq} (hC:∀ id,1≤id→C.ρ0 id=none) (l:List (Sem zi)) (s:zn) (hl:l.length≤zF):∀ (n i:Nat),l.length - i=n→i≤l.length→
  Reach Bt C 126 (zx Tryz.f126 2) (tE l s i) (fun r h=>(r,h)=(.int .i64 (zS (fun c=>c.1==s) (l.drop i) i),[.box [.str s]]))
 | n,i,hn,hi=>by
  subst hn
  refine cz lU NM hC Eb 300 ?_
  rw [RG]
  refine ⟨fun h=>⟨?_,fun hc=>?_,fun hc=>?_⟩,fun h=>?_⟩
  ·simp only [zZ] at h
   simp [zE]; omega
  ·simp only [zZ] at h
   have hlt:i < l.length:=by omega
   rw [zY l _ hlt] at hc
   rw [dA hlt]
   simp only [zS]
   rw [if_pos hc]
   rfl
  ·simp only [zZ] at h
   have hlt:i < l.length:=by omega
   rw [zY l _ hlt] at hc
   rw [dA hlt]
   simp only [zS]
   rw [if_neg (by rw [hc]; simp),zH i (by omega)]
   exact Ht hC l s hl (l.length - (i+1)) (i+1) rfl (by omega)
  ·simp only [decide_eq_false_iff_not] at h
   rw [yh (by omega)]
   rfl
 termination_by n=>n

def G27:cy [some (.sl zi),none]:=fun x h=>match x,h with
 | (l,.clo (.func 127) [] [.ptr 0 0],_),[.box [.str s]]=>.ok (.int .i64 (zS (fun c=>c.1==s) l 0),[.box [.str s]])
 | (l,.clo (.func 209) [] [.ptr 0 0],_),[.box [.str s]]=>.ok (.int .i64 (zS (fun c=>c.1==s) l 0),[.box [.str s]])
 | _,_=>.err

theorem zbw:FK 126 (zR [some (.sl zi),none] G27):=by
 refine bq NM fun x h0 res hx C hC=>?_
 unfold G27 at hx
 split at hx
 ·simp only [Tr.val_ok,ag] at hx
  subst hx
  rename_i _ _ l u s
  refine Reach.len 0 zi l rfl fun hl=>?_
  have e:f6 [some (.sl zi),none] (l,.clo (.func 127) [] [.ptr 0 0],u)=[.sl zi l,.clo (.func 127) [] [.ptr 0 0]]:=rfl
  rw [e]
  refine cz (n0:=1) lU NM hC Eb 300 ?_
  rw [Rb]
  exact Hs hC l s hl _ 0 rfl (by omega)
 ·simp only [Tr.val_ok,ag] at hx
  subst hx
  rename_i _ _ l u s
  refine Reach.len 0 zi l rfl fun hl=>?_
  have e:f6 [some (.sl zi),none] (l,.clo (.func 209) [] [.ptr 0 0],u)=[.sl zi l,.clo (.func 209) [] [.ptr 0 0]]:=rfl
  rw [e]
  refine cz (n0:=1) lU NM hC Eb 300 ?_
  rw [Rc]
  exact Ht hC l s hl _ 0 rfl (by omega)
 ·simp at hx

noncomputable def LU:bf:=Bt.add 126 (zR [some (.sl zi),none] G27)
theorem uX:zm LU:=lU.add zbw
noncomputable def zdo:bf:=(LU.add 73 (zR [some zt,some .str] (bS LU Tryz.f73 [some zt,some .str]))).add 148 (zR [some (.sl zi),some .str] (bS LU Tryz.f148 [some (.sl zi),some .str]))
theorem LW:zm zdo:=by
 refine (uX.add (aj _ uX ?_)).add (aj (E:=LU) _ uX ?_) <;> (refine ⟨?_,?_,?_,?_⟩ <;> kernel_rfl)
end Cad
