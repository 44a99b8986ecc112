/- The program's environment: shapes, and the way functions are added. Functions from plain data to plain data. Places of columns. -/
import Derived.Test.YtfgnbipebgibeaaGreatDoorG05
import Derived.Test.YtfgnbipebgibeaaGreatDoorProg
namespace Cad
open Go

abbrev zf:Sh:=.int .i64
abbrev zg:Sh:=.pr (.int .i64) (.pr (.int .i64) .str)
abbrev zh:Sh:=.pr .str (.pr (.int .i64) .bool)
abbrev zq:Sh:=.pr (.int .i64) .str
abbrev zl:Sh:=.pr .str (.pr (.sl zh) (.pr (.int .i64) (.pr (.sl (.int .i64)) (.pr (.sl zq) .expr))))

abbrev zj:Sh:=.pr zl (.sl (.sl zg))

def Yq:Nat→Option Sh
 | 3=>some (.int .i64)
 | 27=>some zg
 | 30=>some .expr
 | 63=>some zh
 | 94=>some zq
 | 9=>some .str
 | 5=>some (.int .u8)
 | 172=>some (.pr (.int .i64) .str)
 | 71=>some (.pr .str .str)
 | 73=>some (.pr .str .expr)
 | 31=>some (.sl zg)
 | 43=>some (zj)
 | _=>none

abbrev kX:List Int:=[1,10,100,1000,10000,100000,1000000,10000000,100000000,1000000000,10000000000,100000000000,1000000000000,10000000000000,100000000000000,1000000000000000,10000000000000000,100000000000000000,1000000000000000000,10000000000000000000]

def BC:Nat→AV
 | 0=>.eptr [.str [73,78,84],.str [84,69,88,84],.str [66,79,79,76]] 0
 | 2=>.gint
 | 5=>.tab .u64 kX
 | _=>.any

abbrev FK (k:FuncId) (F:zT):Prop:=nl Go.Proofs.Tryz.prog BC k F

noncomputable def R3:bS:={ P:=Go.Proofs.Tryz.prog,sh:=Yq,gl:=BC,F:=fun _=>none }

def bS.add (E:bS) (k:FuncId) (F:zT):bS:={ E with F:=fun j=>if j=k then some F else E.F j }

theorem zy.add {E:bS} {k:FuncId} {F:zT} (h:zy E) (hk:nl E.P E.gl k F):zy (E.add k F) where
 sh:=h.sh
 fs:=fun j F' hj=>by
  simp only [bS.add] at hj
  split at hj
  ·rename_i e; cases hj; rw [e]; exact hk
  ·exact h.fs j F' hj
 mix:=h.mix

def Ku:List (Nat×zT)→Nat→Option zT→Option zT
 | [],_,d=>d
 | p::r,j,d=>if j=p.1 then some p.2 else Ku r j d
def bS.addL (E:bS) (l:List (Nat×zT)):bS:={ E with F:=fun j=>Ku l j (E.F j) }
def M6 (P:Program) (gl:Nat→AV):List (Nat×zT)→Prop
 | []=>True
 | p::r=>nl P gl p.1 p.2∧M6 P gl r
theorem jp {P:Program} {gl:Nat→AV}:M6 P gl []:=trivial
theorem fc {P:Program} {gl:Nat→AV} {k:Nat} {F:zT} {r:List (Nat×zT)} (h:nl P gl k F) (t:M6 P gl r):M6 P gl ((k,F)::r):=⟨h,t⟩
theorem zy.addL {E:bS} (h:zy E) {l:List (Nat×zT)} (hl:M6 E.P E.gl l):zy (E.addL l) where
 sh:=h.sh
 fs:=by
  intro k F
  show Ku l k (E.F k)=some F→nl E.P E.gl k F
  induction l with
  | nil=>exact h.fs k F
  | cons p r ih=>
   intro hk
   rw [Ku] at hk
   split at hk
   ·rename_i e; cases hk; rw [e]; exact hl.1
   ·exact ih hl.2 hk
 mix:=h.mix

def jX (key:Nat):Nat→Code→List Item→Option (List Item)
 | 0,_,_=>none
 | n+1,c,k=>match c with
  | .seq a b=>match jX key n a (.code b::k) with
   | some r=>some r
   | none=>jX key n b k
  | .cond _ a b=>match jX key n a k with
   | some r=>some r
   | none=>jX key n b k
  | .block id c=>jX key n c (.inBlock id::k)
  | .loop c=>if dV c=key then some (.code c::.inLoop c::k) else jX key n c (.inLoop c::k)
  | .region id _ _=>if id+500000=key then some k else none
  | _=>none

def zI (f:Func) (key:Nat):List Item:=match f.body with
 | some c=>(jX key 1000 c []).getD []
 | none=>[]

def bv (f:Func):List Item:=match f.body with
 | some c=>[.code c]
 | none=>[]

theorem XZ:R3.P.follows .mixedOrders=true:=by kernel_rfl

def YI:Nat→aJ:=fun _=>{ unroll:=true }

def fF (E:bS) (f:Func) (ks:List (Option Sh)):ie ks:=fun x h=>
 (run E h.length YI f.results.toList 4000 (bv f) (bc f.ntmps (kF ks x) h)).bind fun
  | .ret v h'=>.ok (v,h')
  | _=>.err

theorem Tr.sat_of_val {α:Type} {Φ:α→Prop}:∀ {t:Tr α} {a:α},t.val=some a→Φ a→t.Sat Φ
 | .err,_,h,_=>by simp at h
 | .chk c t,a,h,ha=>by
  cases c
  ·simp [Tr.val] at h
  ·exact ⟨rfl,sat_of_val (t:=t) (by simpa [Tr.val] using h) ha⟩
 | .br c t f,a,h,ha=>by
  cases c
  ·exact ⟨fun h=>(by cases h),fun _=>sat_of_val (t:=f) (by simpa [Tr.val] using h) ha⟩
  ·exact ⟨fun _=>sat_of_val (t:=t) (by simpa [Tr.val] using h) ha,fun h=>(by cases h)⟩
 | .ok b,a,h,ha=>by simp [Tr.val] at h; subst h; exact ha

def zK (P:Program) (k:FuncId) (f:Func) (n:Nat):Prop:=P.funcs[k]?=some f∧(f.name == "runtime.NumGoroutine")=false∧f.body.isNone=false∧decide (n≤f.ntmps)=true

theorem bN {P:Program} {k:FuncId} {f:Func} {n:Nat} (h:(P.funcs[k]?,f.name == "runtime.NumGoroutine",f.body.isNone,decide (n≤f.ntmps))=(some f,false,false,true)):zK P k f n:=by
 simp only [ba] at h
 exact ⟨h.1,h.2.1,h.2.2.1,h.2.2.2⟩

theorem qM:∀ (ks:List (Option Sh)) (x:zC ks),(kF ks x).length=ks.length
 | [],_=>rfl
 | some _::ks,x=>by simp [kF,qM ks x.2]
 | none::ks,x=>by simp [kF,qM ks x.2]

theorem cT {E:bS} {C:dl} {k:FuncId} {f:Func} {Q:AV→List AO→Prop} {n n0:Nat} (hE:zy E) (hf:zK E.P k f n) (hC:∀ id,n0≤id→C.ρ0 id=none) (keep:Nat→aJ) (fuel:Nat)
  {todo:List Item} {st:St} (h:(run E n0 keep f.results.toList fuel todo st).Sat (iZ E C k Q)):Reach E C k todo st Q:=
 Dl hE hf.1 hC rfl fuel _ _ h

theorem RU {E:bS} {k:FuncId} {f:Func} {Q:AV→List AO→Prop} {args:List AV} {h0:List AO} (hf:zK E.P k f args.length)
  (h:∀ C:dl,(∀ id,h0.length≤id→C.ρ0 id=none)→Reach E C k (bv f) (bc f.ntmps args h0) Q):QK E k args h0 Q:=by
 obtain ⟨h1,h2,h3,h4⟩:=hf
 cases hb:f.body with
 | none=>rw [hb] at h3; cases h3
 | some c=>
  refine ⟨f,c,h1,hb,h2,jh h4,fun C hC=>?_⟩
  have:=h C hC
  simpa [bv,hb] using this

theorem dD {P:Program} {gl:Nat→AV} {E:bS} {k:FuncId} {f:Func} {ks:List (Option Sh)} {G:ie ks} (hf:zK E.P k f ks.length)
  (h:∀ x h0 res,(G x h0).val=some res→∀ C:dl,(∀ id,h0.length≤id→C.ρ0 id=none)→Reach E C k (bv f) (bc f.ntmps (kF ks x) h0) (fun r h=>(r,h)=res)) (qp:E.P=P:=by rfl) (qg:E.gl=gl:=by rfl):nl P gl k (bh ks G):=by
 subst qp qg
 exact M9 ⟨f,hf.1,hf.2.1,hf.2.2.1⟩ fun x h0 res hx=>RU (by rw [qM]; exact hf) (h x h0 res hx)

theorem cm {P:Program} {gl:Nat→AV} {E:bS} {k:FuncId} {f:Func} (ks:List (Option Sh)) (hE:zy E) (hf:zK E.P k f ks.length) (qp:E.P=P:=by rfl) (qg:E.gl=gl:=by rfl):nl P gl k (bh ks (fF E f ks)):=by
 subst qp qg
 refine dD hf fun x h0 res hx C hC=>cT hE hf hC YI 4000 ?_
 unfold fF at hx
 simp only [Tr.val_bind,fO] at hx
 obtain ⟨l,hl,hres⟩:=hx
 refine Tr.sat_of_val hl ?_
 cases l with
 | ret v h'=>simp at hres; exact hres
 | head _ _ _=>simp at hres
 | fork _ _ _ _=>simp at hres

def Vb (P:Program) (t:TypeId) (e:Sh):Bool:=match P.info? t with
 | some i=>i.size==e.size&&decide (0 < e.size)&&decide (i.bytes≤131072)&&(match i.zero with | some z=>z.cells.size==i.size | none=>false)
 | none=>false

theorem Qm {P:Program} {t:TypeId} {e:Sh} (h:Vb P t e=true):∃ i z,P.info? t=some i∧i.size=e.size∧0 < e.size∧i.bytes≤131072∧i.zero=some z∧z.cells.size=i.size:=by
 unfold Vb at h
 split at h
 ·rename_i i hi
  simp only [aV,aN,bb] at h
  obtain ⟨⟨⟨h1,h2⟩,h3⟩,h4⟩:=h
  split at h4
  ·rename_i z hz
   exact ⟨i,z,hi,h1,h2,h3,hz,by simpa using h4⟩
  ·cases h4
 ·cases h

theorem r7:zy R3 where
 sh:=by
  intro t e h
  have hh:Yq t=some e:=h
  unfold Yq at hh
  split at hh
  all_goals first
   | (cases hh; exact Qm (by kernel_rfl))
   | cases hh
 fs:=by intro k F h; cases h
 mix:=XZ

abbrev rn (E:bS) (n:Nat) (kp:Nat→aJ) (f:Func) (a:List AV) (h:List AO):Tr zx:=run E n kp (Func.results f).toList 400 (bv f) (bc (Func.ntmps f) a h)
abbrev rh (E:bS) (n:Nat) (kp:Nat→aJ) (f:Func) (k:Nat) (s:St):Tr zx:=run E n kp (Func.results f).toList 400 (zI f k) s

def jc (h:List AO):Nat→AO:=fun j=>h.getD j .dead

def zeb (h:List AO) (outs:List Sh):AV→Option (zC (outs.map some))
 | .tup rs=>kL (jc h) (fun i=>i) (outs.map some) rs
 | _=>none

def az (h:List AO):(outs:List Sh)→AV→Option (zC (outs.map some))
 | [s],r=>match vu (jc h) s r with
  | some y=>some (y,())
  | none=>none
 | [],r=>zeb h [] r
 | s1::s2::ss,r=>zeb h (s1::s2::ss) r

def v7:(outs:List Sh)→zC (outs.map some)→AV
 | [s],y=>zF s y.1
 | outs,y=>.tup (kF (outs.map some) y)

theorem nY {hp:Nat→AO} {f:Nat→Nat}:∀ (ss:List Sh) (args:List AV) (x:zC (ss.map some)),kL hp f (ss.map some) args=some x→bX hp (ss.map some) args=some ((kF (ss.map some) x).map fun a=>(false,a))
 | [],[],_,_=>rfl
 | s::ss,a::as',x,h=>by
  have h':kL hp f (some s::ss.map some) (a::as')=some x:=h
  show bX hp (some s::ss.map some) (a::as')=_
  unfold kL at h'
  unfold bX
  split at h'
  ·rename_i y r hy hr
   cases h'
   rw [hy,nY ss as' r hr]
   rfl
  ·cases h'
 | [],_::_,_,h=>by simp [kL] at h
 | _::_,[],_,h=>by simp [kL] at h

theorem Reach.plain {E:bS} {C:dl} {fn:FuncId} {todo:List Item} {st:St} {outs:List Sh} {y:zC (outs.map some)} (hC:∀ id,C.ρ0 id=none)
  (h:Reach E C fn todo st (fun r h=>az h outs r=some y)):Reach E C fn todo st (fun r h=>(r,h)=(v7 outs y,[])):=by
 intro b cs a w U ρ h1 h2 hc hW
 obtain ⟨e,w',fr,⟨v,r,h',U',ρ',he,hq,hrv,hH,hnew,hr0,hWd⟩,hcm,hf,hl⟩:=h b cs a w U ρ h1 h2 hc hW
 refine ⟨e,w',fr,⟨v,_,_,fun b=>U' b∧b < C.w0.heap.size∧¬ C.B0 b,fun _=>none,he,rfl,?_,⟨fun id=>?_,fun id1 id2 b o=>?_,fun id b o=>?_⟩,fun _ _=>rfl,fun id v hv=>?_,⟨hWd.ext,hWd.same,fun b hb=>hWd.ub b hb.1,fun b hb hu=>hWd.u1 b hb hu.1,fun b hb hu hn=>⟨hWd.u2 b hb hu hn,hb,hn⟩,fun g=>(hWd.gl g).weak fun b hb=>hb.1⟩⟩,hcm,hf,hl⟩
 ·have hob:∀ id,bE w' U' ρ' id (jc h' id)∧∀ b,ag ρ' id (jc h' id) b→¬ (U' b∧b < C.w0.heap.size∧¬ C.B0 b):=by
   intro id
   refine ⟨hH.ob id,fun b ho hu=>?_⟩
   rcases hH.blk id b ho with hB | hB
   ·exact hu.2.2 hB
   ·omega
  have htup:∀ (outs:List Sh) (y:zC (outs.map some)) (rs:List AV),kL (jc h') (fun i=>i) (outs.map some) rs=some y→Rv w' U' ρ' (.tup rs) v→Rv w' (fun b=>U' b∧b < C.w0.heap.size∧¬ C.B0 b) (fun _=>none) (.tup (kF (outs.map some) y)) v:=by
   intro outs y rs hy hrv
   cases hrv with
   | tup _ vs hl hr=>
   have:=(iS (w:=w') (U:=U') (ρ:=ρ') (U':=fun b=>U' b∧b < C.w0.heap.size∧¬ C.B0 b) (ρ':=fun _=>none) (hp:=jc h') (f:=fun i=>i) (fun b hb=>hb.1) (outs.map some) rs vs _ (nY outs rs y hy) ⟨hl,hr⟩ (fun id _=>hob id)
    (fun id hid=>by simp only [fu,List.filter_map,vn] at hid; rw [List.filter_eq_nil_iff.2 (by simp)] at hid; simp [AV.idsL] at hid)).1
   simp only [rR,vn,zV,if_false,List.map_id'] at this
   exact .tup _ vs this.len this.rv
  match outs,y,hq with
  | [s],y,hq=>
   simp only [az] at hq
   split at hq
   ·rename_i x hx
    cases hq
    exact xU hx hrv (fun b hb=>hb.1) (fun id _=>hob id)
   ·cases hq
  | [],y,hq=>
   simp only [az] at hq
   cases r with
   | tup rs=>exact htup [] y _ hq hrv
   | _=>cases hq
  | s1::s2::ss,y,hq=>
   simp only [az] at hq
   cases r with
   | tup rs=>exact htup _ y _ hq hrv
   | _=>cases hq
 ·simp [bE]
 ·obtain ⟨_,v,hv,_⟩:=o
  cases hv
 ·obtain ⟨_,v,hv,_⟩:=o
  cases hv
 ·rw [hC id] at hv; cases hv

theorem pK {E:bS} {C:dl} {k:FuncId} {f:Func} {Q:AV→List AO→Prop} {n n0:Nat} (hE:zy E) (hf:zK E.P k f n) (hC:∀ id,n0≤id→C.ρ0 id=none) {keep:Nat→aJ} {fuel:Nat}
  {todo:List Item} {st:St} {l:zx} (h:(run E n0 keep f.results.toList fuel todo st).val=some l) (hl:iZ E C k Q l):Reach E C k todo st Q:=
 cT hE hf hC keep fuel (Tr.sat_of_val h hl)

def PQ (ks outs:List Sh) (g:zC (ks.map some)→Option (zC (outs.map some))):ie (ks.map some):=fun x h=>match h with
 | []=>match g x with
  | some y=>.ok (v7 outs y,[])
  | none=>.err
 | _=>.err

def rA (ks outs:List Sh) (g:zC (ks.map some)→Option (zC (outs.map some))):zT:=bh (ks.map some) (PQ ks outs g)

theorem tX {P:Program} {gl:Nat→AV} {E:bS} {k:FuncId} {f:Func} {ks outs:List Sh} {g:zC (ks.map some)→Option (zC (outs.map some))} (hf:zK E.P k f ks.length)
  (h:∀ x y,g x=some y→∀ C:dl,(∀ id,C.ρ0 id=none)→Reach E C k (bv f) (bc f.ntmps (kF (ks.map some) x) []) (fun r h=>az h outs r=some y)) (qp:E.P=P:=by rfl) (qg:E.gl=gl:=by rfl):nl P gl k (rA ks outs g):=by
 subst qp qg
 refine dD (by simpa using hf) fun x h0 res hx C hC=>?_
 unfold PQ at hx
 split at hx
 ·split at hx
  ·rename_i y hy
   simp only [Tr.val_ok,bz] at hx
   subst hx
   exact Reach.plain (fun id=>hC id (by simp)) (h x y hy C (fun id=>hC id (by simp)))
  ·simp at hx
 ·simp at hx

noncomputable abbrev bS.aut (E:bS) (k:Nat) (f:Func) (n:Nat):bS:=E.add k (bh (List.replicate n none) (fF E f (List.replicate n none)))

theorem jm {E:bS} {k:Nat} {f:Func} {n:Nat} (hE:zy E) (hf:zK E.P k f n):zy (E.aut k f n):=
 hE.add (cm _ hE (by simpa using hf))

open Go Go.Proofs

theorem Reach.len {E:bS} {C:dl} {fn:FuncId} {todo:List Item} {st:St} {Q:AV→List AO→Prop} (j:Nat) (e:Sh) (l:List (Sem e)) (hj:st.tmps[j]?=some (.sl e l)) (h:l.length≤zA→Reach E C fn todo st Q):Reach E C fn todo st Q:=by
 intro b cs a w U ρ h1 h2 hc hW
 refine h ?_ b cs a w U ρ h1 h2 hc hW
 have hlt:j < a.tmps.toList.length:=by rw [← hc.tm.len]; exact (cn.1 hj).1
 have:=hc.tm.rv j _ _ hj (zP hlt)
 generalize a.tmps.toList[j]=v at this
 cases this with
 | sl0=>simp
 | sl _ _ _ _ _ _ _ hm=>exact hm

theorem zt (i:Nat) (h:i < zA):IntKind.i64.wrap (↑i+1)=((i+1:Nat):Int):=by
 have:zA=9223372036854775807:=rfl
 rw [fD]
 omega

theorem bt {α:Type} (l:List α) (d:α) {i:Nat} (h:i < l.length):l.getD (i:Int).toNat d=l[i]:=by
 simp [h]

def aj {α:Type} (p:α→Bool):List α→Nat→Int
 | [],_=>-1
 | x::r,i=>if p x then i else aj p r (i+1)

noncomputable def DW:bS:=(R3.aut 55 Tryz.f55 2).aut 225 Tryz.f225 2
theorem nG:zy DW:=by
 refine jm (jm r7 ?_) ?_ <;> (refine ⟨?_,?_,?_,?_⟩ <;> kernel_rfl)

abbrev GV:Nat→aJ:=fun _=>{slots:=[0,1,7,8]}
theorem Pr:zK DW.P 54 Tryz.f54 2:=bN (by kernel_rfl)
abbrev xj (l:List (Sem zh)) (s:zw) (i:Int):St:={
    tmps:=
     (tm 19 [(0,AV.sl (Sh.str.pr ((Sh.int IntKind.i64).pr Sh.bool)) l),(1,AV.clo (Fn.func 55) [] [AV.ptr 0 0]),(7,AV.int .i64 ↑l.length),(8,AV.int .i64 i)]),
    heap:=[AO.box [AV.str s]] }

theorem Sa (l:List (Sem zh)) (s:zw):run DW 1 GV Tryz.f54.results.toList 300 (bv Tryz.f54) (bc Tryz.f54.ntmps [.sl zh l,.clo (.func 55) [] [.ptr 0 0]] [.box [.str s]])=.ok (.head 2 (zI Tryz.f54 2) (xj l s 0)):=by kernel_rfl

theorem SD (l:List (Sem zh)) (s:zw) (i:Int):run DW 1 GV Tryz.f54.results.toList 300 (zI Tryz.f54 2) (xj l s i)=
 Tr.br (decide (i < ↑l.length))
  (Tr.chk (zR i l.length)
   (Tr.br ((l.getD i.toNat (zi (Sh.str.pr ((Sh.int IntKind.i64).pr Sh.bool)))).1==s)
    (Tr.ok (zx.ret (AV.int .i64 i) [AO.box [AV.str s]]))
    (Tr.ok (zx.head 2 (zI Tryz.f54 2) (xj l s (IntKind.i64.wrap (i+1)))))))
  (Tr.ok (zx.ret (AV.int .i64 (-1)) [AO.box [AV.str s]])):=by kernel_rfl

theorem J3 {C:dl} (hC:∀ id,1≤id→C.ρ0 id=none) (l:List (Sem zh)) (s:zw) (hl:l.length≤zA):∀ (n i:Nat),l.length - i=n→i≤l.length→
  Reach DW C 54 (zI Tryz.f54 2) (xj l s i) (fun r h=>(r,h)=(.int .i64 (aj (fun c=>c.1==s) (l.drop i) i),[.box [.str s]]))
 | n,i,hn,hi=>by
  subst hn
  refine cT nG Pr hC GV 300 ?_
  rw [SD]
  refine ⟨fun h=>⟨?_,fun hc=>?_,fun hc=>?_⟩,fun h=>?_⟩
  ·simp only [aN] at h
   simp [zR]; omega
  ·simp only [aN] at h
   have hlt:i < l.length:=by omega
   rw [bt l _ hlt] at hc
   rw [dF hlt]
   simp only [aj]
   rw [if_pos hc]
   rfl
  ·simp only [aN] at h
   have hlt:i < l.length:=by omega
   rw [bt l _ hlt] at hc
   rw [dF hlt]
   simp only [aj]
   rw [if_neg (by rw [hc]; simp),zt i (by omega)]
   exact J3 hC l s hl (l.length - (i+1)) (i+1) rfl (by omega)
  ·simp only [decide_eq_false_iff_not] at h
   rw [xy (by omega)]
   rfl
 termination_by n=>n

abbrev xk (l:List (Sem zh)) (s:zw) (i:Int):St:={
    tmps:=
     (tm 19 [(0,AV.sl (Sh.str.pr ((Sh.int IntKind.i64).pr Sh.bool)) l),(1,AV.clo (Fn.func 225) [] [AV.ptr 0 0]),(7,AV.int .i64 ↑l.length),(8,AV.int .i64 i)]),
    heap:=[AO.box [AV.str s]] }

theorem Sb (l:List (Sem zh)) (s:zw):run DW 1 GV Tryz.f54.results.toList 300 (bv Tryz.f54) (bc Tryz.f54.ntmps [.sl zh l,.clo (.func 225) [] [.ptr 0 0]] [.box [.str s]])=.ok (.head 2 (zI Tryz.f54 2) (xk l s 0)):=by kernel_rfl

theorem SE (l:List (Sem zh)) (s:zw) (i:Int):run DW 1 GV Tryz.f54.results.toList 300 (zI Tryz.f54 2) (xk l s i)=
 Tr.br (decide (i < ↑l.length))
  (Tr.chk (zR i l.length)
   (Tr.br ((l.getD i.toNat (zi (Sh.str.pr ((Sh.int IntKind.i64).pr Sh.bool)))).1==s)
    (Tr.ok (zx.ret (AV.int .i64 i) [AO.box [AV.str s]]))
    (Tr.ok (zx.head 2 (zI Tryz.f54 2) (xk l s (IntKind.i64.wrap (i+1)))))))
  (Tr.ok (zx.ret (AV.int .i64 (-1)) [AO.box [AV.str s]])):=by kernel_rfl

theorem J4 {C:dl} (hC:∀ id,1≤id→C.ρ0 id=none) (l:List (Sem zh)) (s:zw) (hl:l.length≤zA):∀ (n i:Nat),l.length - i=n→i≤l.length→
  Reach DW C 54 (zI Tryz.f54 2) (xk l s i) (fun r h=>(r,h)=(.int .i64 (aj (fun c=>c.1==s) (l.drop i) i),[.box [.str s]]))
 | n,i,hn,hi=>by
  subst hn
  refine cT nG Pr hC GV 300 ?_
  rw [SE]
  refine ⟨fun h=>⟨?_,fun hc=>?_,fun hc=>?_⟩,fun h=>?_⟩
  ·simp only [aN] at h
   simp [zR]; omega
  ·simp only [aN] at h
   have hlt:i < l.length:=by omega
   rw [bt l _ hlt] at hc
   rw [dF hlt]
   simp only [aj]
   rw [if_pos hc]
   rfl
  ·simp only [aN] at h
   have hlt:i < l.length:=by omega
   rw [bt l _ hlt] at hc
   rw [dF hlt]
   simp only [aj]
   rw [if_neg (by rw [hc]; simp),zt i (by omega)]
   exact J4 hC l s hl (l.length - (i+1)) (i+1) rfl (by omega)
  ·simp only [decide_eq_false_iff_not] at h
   rw [xy (by omega)]
   rfl
 termination_by n=>n

def G27:ie [some (.sl zh),none]:=fun x h=>match x,h with
 | (l,.clo (.func 55) [] [.ptr 0 0],_),[.box [.str s]]=>.ok (.int .i64 (aj (fun c=>c.1==s) l 0),[.box [.str s]])
 | (l,.clo (.func 225) [] [.ptr 0 0],_),[.box [.str s]]=>.ok (.int .i64 (aj (fun c=>c.1==s) l 0),[.box [.str s]])
 | _,_=>.err

theorem zab:FK 54 (bh [some (.sl zh),none] G27):=by
 refine dD Pr fun x h0 res hx C hC=>?_
 unfold G27 at hx
 split at hx
 ·simp only [Tr.val_ok,bz] at hx
  subst hx
  rename_i _ _ l u s
  refine Reach.len 0 zh l rfl fun hl=>?_
  have e:kF [some (.sl zh),none] (l,.clo (.func 55) [] [.ptr 0 0],u)=[.sl zh l,.clo (.func 55) [] [.ptr 0 0]]:=rfl
  rw [e]
  refine cT (n0:=1) nG Pr hC GV 300 ?_
  rw [Sa]
  exact J3 hC l s hl _ 0 rfl (by omega)
 ·simp only [Tr.val_ok,bz] at hx
  subst hx
  rename_i _ _ l u s
  refine Reach.len 0 zh l rfl fun hl=>?_
  have e:kF [some (.sl zh),none] (l,.clo (.func 225) [] [.ptr 0 0],u)=[.sl zh l,.clo (.func 225) [] [.ptr 0 0]]:=rfl
  rw [e]
  refine cT (n0:=1) nG Pr hC GV 300 ?_
  rw [Sb]
  exact J4 hC l s hl _ 0 rfl (by omega)
 ·simp at hx

noncomputable def N1:bS:=DW.add 54 (bh [some (.sl zh),none] G27)
theorem ym:zy N1:=nG.add zab
noncomputable def zby:bS:=(N1.add 20 (bh [some zl,some .str] (fF N1 Tryz.f20 [some zl,some .str]))).add 182 (bh [some (.sl zh),some .str] (fF N1 Tryz.f182 [some (.sl zh),some .str]))
theorem N2:zy zby:=by
 refine (ym.add (cm _ ym ?_)).add (cm (E:=N1) _ ym ?_) <;> (refine ⟨?_,?_,?_,?_⟩ <;> kernel_rfl)
end Cad
