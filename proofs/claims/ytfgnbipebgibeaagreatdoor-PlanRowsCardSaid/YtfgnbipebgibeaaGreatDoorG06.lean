/- The program's environment: shapes, and the way functions are added. Functions from plain data to plain data. Functions from plain data to plain data, where a guard holds; recursion. Functions from plain data and a function to plain data. Functions on a variable to which a pointer leads. Functions as the machine goes through them, round by round. Rounds with an invariant; what a variable's cells say. Loops: where they go, and where they end. Places of columns. -/
import Derived.Test.YtfgnbipebgibeaaGreatDoorG05
import Derived.Test.YtfgnbipebgibeaaGreatDoorProg
namespace Cad
open Go

abbrev zg:Sh:=.int .i64
abbrev zf:Sh:=.pr (.int .i64) (.pr (.int .i64) .str)
abbrev zh:Sh:=.pr .str (.pr (.int .i64) .bool)
abbrev zt:Sh:=.pr (.int .i64) .str
abbrev zn:Sh:=.pr .str (.pr (.sl zh) (.pr (.int .i64) (.pr (.sl (.int .i64)) (.pr (.sl zt) .expr))))

abbrev zk:Sh:=.pr zn (.sl (.sl zf))

def zN1:Nat→Option Sh
 | 3=>some (.int .i64)
 | 27=>some zf
 | 30=>some .expr
 | 63=>some zh
 | 94=>some zt
 | 9=>some .str
 | 172=>some (.pr (.int .i64) .str)
 | 71=>some (.pr .str .str)
 | 73=>some (.pr .str .expr)
 | 31=>some (.sl zf)
 | 43=>some (zk)
 | _=>none

abbrev zgO:List Int:=[1,10,100,1000,10000,100000,1000000,10000000,100000000,1000000000,10000000000,100000000000,1000000000000,10000000000000,100000000000000,1000000000000000,10000000000000000,100000000000000000,1000000000000000000,10000000000000000000]

def zrA:Nat→AV
 | 0=>.eptr [.str [73,78,84],.str [84,69,88,84],.str [66,79,79,76]] 0
 | 2=>.gint
 | 5=>.tab .u64 zgO
 | _=>.any

noncomputable def zNx:Env:={ P:=Go.Proofs.Tryz.prog,sh:=zN1,gl:=zrA,F:=fun _=>none }

def Env.add (E:Env) (k:FuncId) (F:zJ):Env:={ E with F:=fun j=>if j=k then some F else E.F j }

theorem zi.add {E:Env} {k:FuncId} {F:zJ} (h:zi E) (hk:FOk E.P E.gl k F):zi (E.add k F) where
 sh:=h.sh
 fs:=fun j F' hj=>by
  simp only [Env.add] at hj
  split at hj
  ·rename_i e; cases hj; rw [e]; exact hk
  ·exact h.fs j F' hj

def zgo (key:Nat):Nat→Code→List Item→Option (List Item)
 | 0,_,_=>none
 | n+1,c,k=>match c with
  | .seq a b=>match zgo key n a (.code b::k) with
   | some r=>some r
   | none=>zgo key n b k
  | .cond _ a b=>match zgo key n a k with
   | some r=>some r
   | none=>zgo key n b k
  | .block id c=>zgo key n c (.inBlock id::k)
  | .loop c=>if zck c=key then some (.code c::.inLoop c::k) else zgo key n c (.inLoop c::k)
  | .region id _ _=>if id+500000=key then some k else none
  | _=>none

def zA (f:Func) (key:Nat):List Item:=match f.body with
 | some c=>(zgo key 1000 c []).getD []
 | none=>[]

def zq (f:Func):List Item:=match f.body with
 | some c=>[.code c]
 | none=>[]

theorem zbS:zNx.P.follows .mixedOrders=true:=by kernel_rfl

def unr:Nat→zQ:=fun _=>{ unroll:=true }

def zbx (E:Env) (f:Func) (ks:List (Option Sh)):zdS ks:=fun x h=>
 (run E h.length unr f.results.toList 4000 (zq f) (zp f.ntmps (avs ks x) h)).bind fun
  | .ret v h'=>.ok (v,h')
  | _=>.err

theorem Tr.sat_of_val {α:Type} {Φ:α→Prop}:∀ {t:Tr α} {a:α},t.val=some a→Φ a→t.Sat Φ
 | .err,_,h,_=>by simp at h
 | .chk c t,a,h,ha=>by
  cases c
  ·simp [Tr.val] at h
  ·exact ⟨rfl,sat_of_val (t:=t) (by simpa [Tr.val] using h) ha⟩
 | .br c t f,a,h,ha=>by
  cases c
  ·exact ⟨fun h=>(by cases h),fun _=>sat_of_val (t:=f) (by simpa [Tr.val] using h) ha⟩
  ·exact ⟨fun _=>sat_of_val (t:=t) (by simpa [Tr.val] using h) ha,fun h=>(by cases h)⟩
 | .ok b,a,h,ha=>by simp [Tr.val] at h; subst h; exact ha

def zF (P:Program) (k:FuncId) (f:Func) (n:Nat):Prop:=P.funcs[k]?=some f∧(f.name == "runtime.NumGoroutine")=false∧f.body.isNone=false∧decide (n≤f.ntmps)=true

theorem zkG:∀ (ks:List (Option Sh)) (x:zo ks),(avs ks x).length=ks.length
 | [],_=>rfl
 | some _::ks,x=>by simp [avs,zkG ks x.2]
 | none::ks,x=>by simp [avs,zkG ks x.2]

theorem zbL {E:Env} {C:Ctx} {k:FuncId} {f:Func} {Q:AV→List AO→Prop} {n n0:Nat} (hE:zi E) (hm:E.P.follows .mixedOrders=true) (hf:zF E.P k f n) (hC:∀ id,n0≤id→C.ρ0 id=none) (keep:Nat→zQ) (fuel:Nat)
  {todo:List Item} {st:St} (h:(run E n0 keep f.results.toList fuel todo st).Sat (zfq E C k Q)):Reach E C k todo st Q:=
 zsH hE hm hf.1 hC rfl fuel _ _ h

theorem zJu {E:Env} {k:FuncId} {f:Func} {Q:AV→List AO→Prop} {args:List AV} {h0:List AO} (hf:zF E.P k f args.length)
  (h:∀ C:Ctx,(∀ id,h0.length≤id→C.ρ0 id=none)→Reach E C k (zq f) (zp f.ntmps args h0) Q):zIo E k args h0 Q:=by
 obtain ⟨h1,h2,h3,h4⟩:=hf
 cases hb:f.body with
 | none=>rw [hb] at h3; cases h3
 | some c=>
  refine ⟨f,c,h1,hb,h2,of_decide_eq_true h4,fun C hC=>?_⟩
  have:=h C hC
  simpa [zq,hb] using this

theorem zbC {E:Env} {k:FuncId} {f:Func} {ks:List (Option Sh)} {G:zdS ks} (hf:zF E.P k f ks.length)
  (h:∀ x h0 res,(G x h0).val=some res→∀ C:Ctx,(∀ id,h0.length≤id→C.ρ0 id=none)→Reach E C k (zq f) (zp f.ntmps (avs ks x) h0) (fun r h=>(r,h)=res)):FOk E.P E.gl k (zai ks G):=
 zG1 ⟨f,hf.1,hf.2.1,hf.2.2.1⟩ fun x h0 res hx=>zJu (by rw [zkG]; exact hf) (h x h0 res hx)

theorem zav {E:Env} {k:FuncId} {f:Func} (ks:List (Option Sh)) (hE:zi E) (hm:E.P.follows .mixedOrders=true) (hf:zF E.P k f ks.length):FOk E.P E.gl k (zai ks (zbx E f ks)):=by
 refine zbC hf fun x h0 res hx C hC=>zbL hE hm hf hC unr 4000 ?_
 unfold zbx at hx
 simp only [Tr.val_bind,Option.bind_eq_some_iff] at hx
 obtain ⟨l,hl,hres⟩:=hx
 refine Tr.sat_of_val hl ?_
 cases l with
 | ret v h'=>simp at hres; exact hres
 | head _ _ _=>simp at hres
 | fork _ _ _ _=>simp at hres

def zKi (P:Program) (t:TypeId) (e:Sh):Bool:=match P.info? t with
 | some i=>i.size==e.size&&decide (0 < e.size)&&decide (i.bytes≤131072)&&(match i.zero with | some z=>z.cells.size==i.size | none=>false)
 | none=>false

theorem zGW {P:Program} {t:TypeId} {e:Sh} (h:zKi P t e=true):∃ i z,P.info? t=some i∧i.size=e.size∧0 < e.size∧i.bytes≤131072∧i.zero=some z∧z.cells.size=i.size:=by
 unfold zKi at h
 split at h
 ·rename_i i hi
  simp only [Bool.and_eq_true,decide_eq_true_eq,beq_iff_eq] at h
  obtain ⟨⟨⟨h1,h2⟩,h3⟩,h4⟩:=h
  split at h4
  ·rename_i z hz
   exact ⟨i,z,hi,h1,h2,h3,hz,by simpa using h4⟩
  ·cases h4
 ·cases h

theorem zEk:zi zNx where
 sh:=by
  intro t e h
  have hh:zN1 t=some e:=h
  unfold zN1 at hh
  split at hh
  all_goals first
   | (cases hh; exact zGW (by kernel_rfl))
   | cases hh
 fs:=by intro k F h; cases h

open Go

def zft (h:List AO):Nat→AO:=fun j=>h.getD j .dead

def zTn (h:List AO) (outs:List Sh):AV→Option (zo (outs.map some))
 | .tup rs=>zgA (zft h) (fun i=>i) (outs.map some) rs
 | _=>none

def zac (h:List AO):(outs:List Sh)→AV→Option (zo (outs.map some))
 | [s],r=>match zn3 (zft h) s r with
  | some y=>some (y,())
  | none=>none
 | [],r=>zTn h [] r
 | s1::s2::ss,r=>zTn h (s1::s2::ss) r

def znO:(outs:List Sh)→zo (outs.map some)→AV
 | [s],y=>zx s y.1
 | outs,y=>.tup (avs (outs.map some) y)

theorem zi3 {hp:Nat→AO} {f:Nat→Nat}:∀ (ss:List Sh) (args:List AV) (x:zo (ss.map some)),zgA hp f (ss.map some) args=some x→za5 hp (ss.map some) args=some ((avs (ss.map some) x).map fun a=>(false,a))
 | [],[],_,_=>rfl
 | s::ss,a::as',x,h=>by
  have h':zgA hp f (some s::ss.map some) (a::as')=some x:=h
  show za5 hp (some s::ss.map some) (a::as')=_
  unfold zgA at h'
  unfold za5
  split at h'
  ·rename_i y r hy hr
   cases h'
   rw [hy,zi3 ss as' r hr]
   rfl
  ·cases h'
 | [],_::_,_,h=>by simp [zgA] at h
 | _::_,[],_,h=>by simp [zgA] at h

theorem Reach.plain {E:Env} {C:Ctx} {fn:FuncId} {todo:List Item} {st:St} {outs:List Sh} {y:zo (outs.map some)} (hC:∀ id,C.ρ0 id=none)
  (h:Reach E C fn todo st (fun r h=>zac h outs r=some y)):Reach E C fn todo st (fun r h=>(r,h)=(znO outs y,[])):=by
 intro b cs a w U ρ h1 h2 hc hW
 obtain ⟨e,w',fr,⟨v,r,h',U',ρ',he,hq,hrv,hH,hnew,hr0,hWd⟩,hcm,hf,hl⟩:=h b cs a w U ρ h1 h2 hc hW
 refine ⟨e,w',fr,⟨v,_,_,fun b=>U' b∧b < C.w0.heap.size∧¬ C.B0 b,fun _=>none,he,rfl,?_,⟨fun id=>?_,fun id1 id2 b o=>?_,fun id b o=>?_⟩,fun _ _=>rfl,fun id v hv=>?_,⟨hWd.ext,hWd.same,fun b hb=>hWd.ub b hb.1,fun b hb hu=>hWd.u1 b hb hu.1,fun b hb hu hn=>⟨hWd.u2 b hb hu hn,hb,hn⟩,fun g=>(hWd.gl g).weak fun b hb=>hb.1⟩⟩,hcm,hf,hl⟩
 ·have hob:∀ id,zaR w' U' ρ' id (zft h' id)∧∀ b,zW ρ' id (zft h' id) b→¬ (U' b∧b < C.w0.heap.size∧¬ C.B0 b):=by
   intro id
   refine ⟨hH.ob id,fun b ho hu=>?_⟩
   rcases hH.blk id b ho with hB | hB
   ·exact hu.2.2 hB
   ·omega
  have htup:∀ (outs:List Sh) (y:zo (outs.map some)) (rs:List AV),zgA (zft h') (fun i=>i) (outs.map some) rs=some y→Rv w' U' ρ' (.tup rs) v→Rv w' (fun b=>U' b∧b < C.w0.heap.size∧¬ C.B0 b) (fun _=>none) (.tup (avs (outs.map some) y)) v:=by
   intro outs y rs hy hrv
   cases hrv with
   | tup _ vs hl hr=>
   have:=(zfb (w:=w') (U:=U') (ρ:=ρ') (U':=fun b=>U' b∧b < C.w0.heap.size∧¬ C.B0 b) (ρ':=fun _=>none) (hp:=zft h') (f:=fun i=>i) (fun b hb=>hb.1) (outs.map some) rs vs _ (zi3 outs rs y hy) ⟨hl,hr⟩ (fun id _=>hob id)
    (fun id hid=>by simp only [zdj,List.filter_map,Function.comp_def] at hid; rw [List.filter_eq_nil_iff.2 (by simp)] at hid; simp [AV.idsL] at hid)).1
   simp only [List.map_map,Function.comp_def,Bool.false_eq_true,if_false,List.map_id'] at this
   exact .tup _ vs this.len this.rv
  match outs,y,hq with
  | [s],y,hq=>
   simp only [zac] at hq
   split at hq
   ·rename_i x hx
    cases hq
    exact zrB hx hrv (fun b hb=>hb.1) (fun id _=>hob id)
   ·cases hq
  | [],y,hq=>
   simp only [zac] at hq
   cases r with
   | tup rs=>exact htup [] y _ hq hrv
   | _=>cases hq
  | s1::s2::ss,y,hq=>
   simp only [zac] at hq
   cases r with
   | tup rs=>exact htup _ y _ hq hrv
   | _=>cases hq
 ·simp [zaR]
 ·obtain ⟨_,v,hv,_⟩:=o
  cases hv
 ·obtain ⟨_,v,hv,_⟩:=o
  cases hv
 ·rw [hC id] at hv; cases hv

theorem zjM {E:Env} {C:Ctx} {k:FuncId} {f:Func} {Q:AV→List AO→Prop} {n n0:Nat} (hE:zi E) (hm:E.P.follows .mixedOrders=true) (hf:zF E.P k f n) (hC:∀ id,n0≤id→C.ρ0 id=none) {keep:Nat→zQ} {fuel:Nat}
  {todo:List Item} {st:St} {l:zD} (h:(run E n0 keep f.results.toList fuel todo st).val=some l) (hl:zfq E C k Q l):Reach E C k todo st Q:=
 zbL hE hm hf hC keep fuel (Tr.sat_of_val h hl)

def zEK (ks outs:List Sh) (g:zo (ks.map some)→Option (zo (outs.map some))):zdS (ks.map some):=fun x h=>match h with
 | []=>match g x with
  | some y=>.ok (znO outs y,[])
  | none=>.err
 | _=>.err

def zkH (ks outs:List Sh) (g:zo (ks.map some)→Option (zo (outs.map some))):zJ:=zai (ks.map some) (zEK ks outs g)

theorem zmT {E:Env} {k:FuncId} {f:Func} {ks outs:List Sh} {g:zo (ks.map some)→Option (zo (outs.map some))} (hf:zF E.P k f ks.length)
  (h:∀ x y,g x=some y→∀ C:Ctx,(∀ id,C.ρ0 id=none)→Reach E C k (zq f) (zp f.ntmps (avs (ks.map some) x) []) (fun r h=>zac h outs r=some y)):FOk E.P E.gl k (zkH ks outs g):=by
 refine zbC (by simpa using hf) fun x h0 res hx C hC=>?_
 unfold zEK at hx
 split at hx
 ·split at hx
  ·rename_i y hy
   simp only [Tr.val_ok,Option.some.injEq] at hx
   subst hx
   exact Reach.plain (fun id=>hC id (by simp)) (h x y hy C (fun id=>hC id (by simp)))
  ·simp at hx
 ·simp at hx

noncomputable abbrev Env.aut (E:Env) (k:Nat) (f:Func) (n:Nat):Env:=E.add k (zai (List.replicate n none) (zbx E f (List.replicate n none)))

theorem zfF {E:Env} {k:Nat} {f:Func} {n:Nat} (hE:zi E) (hm:E.P.follows .mixedOrders=true) (hf:zF E.P k f n):zi (E.aut k f n):=
 hE.add (zav _ hE hm (by simpa using hf))

open Go

def ze5 (ks outs:List Sh) (c:zo (ks.map some)→Bool) (g:zo (ks.map some)→zo (outs.map some)):zdS (ks.map some):=fun x h=>match h with
 | []=>.chk (c x) (.ok (znO outs (g x),[]))
 | _=>.err

def zG (ks outs:List Sh) (c:zo (ks.map some)→Bool) (g:zo (ks.map some)→zo (outs.map some)):zJ:=zai (ks.map some) (ze5 ks outs c g)

theorem zT {E:Env} {k:FuncId} {f:Func} {ks outs:List Sh} {c:zo (ks.map some)→Bool} {g:zo (ks.map some)→zo (outs.map some)} (hf:zF E.P k f ks.length)
  (h:∀ x,c x=true→∀ C:Ctx,(∀ id,C.ρ0 id=none)→Reach E C k (zq f) (zp f.ntmps (avs (ks.map some) x) []) (fun r h=>zac h outs r=some (g x))):FOk E.P E.gl k (zG ks outs c g):=by
 refine zbC (by simpa using hf) fun x h0 res hx C hC=>?_
 unfold ze5 at hx
 split at hx
 ·simp only [Tr.val] at hx
  split at hx
  ·rename_i hc
   simp only [Option.some.injEq] at hx
   subst hx
   exact Reach.plain (fun id=>hC id (by simp)) (h x hc C (fun id=>hC id (by simp)))
  ·simp at hx
 ·simp at hx

theorem zt4 {P:Program} {gl:Nat→AV} {k:FuncId} {kinds:List (Option Sh)} {ι:Type} [Nonempty ι] {G:zdS kinds} {Gs:ι→zdS kinds} (h:∀ i,FOk P gl k (zai kinds (Gs i)))
  (hg:∀ x h0 res,(G x h0).val=some res→∃ i,(Gs i x h0).val=some res):FOk P gl k (zai kinds G):=by
 refine ⟨(h (Classical.choice inferInstance)).fn,?_⟩
 intro w U ρ hp n args vals f fp hv
 have:∃ i,(zai kinds (Gs i) args hp n).val=some f:=by
  unfold zai at hv ⊢
  split at hv
  ·rename_i ps hps
   simp only at hv ⊢
   split at hv
   ·rename_i hcond
    split at hv
    ·rename_i xs hxs
     simp only [Tr.val_bind,Option.bind_eq_some_iff] at hv
     obtain ⟨res,h1,h2⟩:=hv
     obtain ⟨i,hi⟩:=hg _ _ _ h1
     exact ⟨i,by simp only [hcond,if_true,Tr.val_bind,Option.bind_eq_some_iff]; exact ⟨res,hi,h2⟩⟩
    ·simp at hv
   ·simp at hv
  ·simp at hv
 obtain ⟨i,hi⟩:=this
 exact (h i).calls w U ρ hp n args vals f fp hi

def zA7 (ks outs:List Sh) (g:zo (ks.map some)→zo (outs.map some)):zdS (ks.map some):=fun x h=>match h with
 | []=>.ok (znO outs (g x),[])
 | _=>.err

def zaf (ks outs:List Sh) (g:zo (ks.map some)→zo (outs.map some)):zJ:=zai (ks.map some) (zA7 ks outs g)

theorem zKx {P:Program} {gl:Nat→AV} {k:FuncId} {ks outs:List Sh} {g:zo (ks.map some)→zo (outs.map some)} (h:FOk P gl k (zG ks outs (fun _=>true) g)):FOk P gl k (zaf ks outs g):=by
 refine zt4 (ι:=Unit) (Gs:=fun _=>ze5 ks outs (fun _=>true) g) (fun _=>h) fun x h0 res hv=>⟨(),?_⟩
 unfold zA7 at hv
 unfold ze5
 split at hv
 ·simpa [Tr.val] using hv
 ·simp at hv

theorem zN {E:Env} {k:FuncId} {f:Func} {ks outs:List Sh} {g:zo (ks.map some)→zo (outs.map some)} (hf:zF E.P k f ks.length)
  (h:∀ x,∀ C:Ctx,(∀ id,C.ρ0 id=none)→Reach E C k (zq f) (zp f.ntmps (avs (ks.map some) x) []) (fun r h=>zac h outs r=some (g x))):FOk E.P E.gl k (zaf ks outs g):=
 zKx (zT hf fun x _ C hC=>h x C hC)

def zBu (outs:List Sh):zD→Option (zo (outs.map some))
 | .ret v h=>zac h outs v
 | _=>none

theorem Tr.sat_of_res {E:Env} {C:Ctx} {fn:FuncId} {outs:List Sh} {y:zo (outs.map some)} {t:Tr zD} (h:t.val.bind (zBu outs)=some y):t.Sat (zfq E C fn (fun r h=>zac h outs r=some y)):=by
 rw [Option.bind_eq_some_iff] at h
 obtain ⟨l,h1,h2⟩:=h
 refine Tr.sat_of_val h1 ?_
 cases l with
 | ret v h=>exact h2
 | head _ _ _=>cases h2
 | fork _ _ _ _=>cases h2

theorem zar {E:Env} {C:Ctx} {k:FuncId} {f:Func} {outs:List Sh} {y:zo (outs.map some)} {n n0:Nat} (hE:zi E) (hm:E.P.follows .mixedOrders=true) (hf:zF E.P k f n) (hC:∀ id,n0≤id→C.ρ0 id=none) {keep:Nat→zQ} {fuel:Nat}
  {todo:List Item} {st:St} {t:Tr zD} (ht:run E n0 keep f.results.toList fuel todo st=t) (h:t.val.bind (zBu outs)=some y):Reach E C k todo st (fun r h=>zac h outs r=some y):=by
 refine zbL hE hm hf hC keep fuel ?_
 rw [ht]
 exact Tr.sat_of_res h

theorem ze.eta:∀ e:ze,ze.mk e.op e.v e.s e.l=e
 | .mk _ _ _ _=>rfl

structure zB (E E0:Env):Prop where
 p:E.P=E0.P
 g:E.gl=E0.gl

theorem zB.refl (E:Env):zB E E:=⟨rfl,rfl⟩
theorem zB.add {E E0:Env} (h:zB E E0) (k:FuncId) (F:zJ):zB (E.add k F) E0:=⟨h.p,h.g⟩
theorem zi.addS {E E0:Env} {k:FuncId} {F:zJ} (h:zi E) (s:zB E E0) (hk:FOk E0.P E0.gl k F):zi (E.add k F):=
 h.add (by rw [s.p,s.g]; exact hk)
theorem zm {E:Env} (h:E.P.follows .mixedOrders=true) (k:FuncId) (F:zJ):(E.add k F).P.follows .mixedOrders=true:=h

abbrev zz (e:ze):ze:=.mk e.op e.v e.s e.l
theorem zw (e:ze):zz e=e:=ze.eta e
open Go

def zkl:(ks:List Sh)→zo (ks.map some++[none])→zo (ks.map some)×AV
 | [],x=>((),x.1)
 | _::ks,x=>((x.1,(zkl ks x.2).1),(zkl ks x.2).2)

theorem zrq:∀ (ks:List Sh) (x:zo (ks.map some++[none])),avs (ks.map some++[none]) x=avs (ks.map some) (zkl ks x).1++[(zkl ks x).2]
 | [],_=>rfl
 | s::ks,x=>congrArg (zx s x.1 :: ·) (zrq ks x.2)

def zDG (k:Nat):AV→Bool
 | .clo (.func j) [] []=>j==k
 | _=>false

theorem zFi {k:Nat} {v:AV} (h:zDG k v=true):v=.clo (.func k) [] []:=by
 unfold zDG at h
 split at h
 ·rw [beq_iff_eq] at h; rw [h]
 ·cases h

abbrev zE3 (ks outs:List Sh):=Nat×(zo (ks.map some)→Bool)×(zo (ks.map some)→zo (outs.map some))

def zHz {ks outs:List Sh} (v:AV):List (zE3 ks outs)→Option ((zo (ks.map some)→Bool)×(zo (ks.map some)→zo (outs.map some)))
 | []=>none
 | (k,a)::r=>if zDG k v then some a else zHz v r

theorem zw8 {ks outs:List Sh} {v:AV} {a}:∀ {l:List (zE3 ks outs)},zHz v l=some a→∃ k,v=.clo (.func k) [] []∧(k,a)∈l
 | [],h=>by cases h
 | (k,b)::r,h=>by
  unfold zHz at h
  split at h
  ·rename_i hk
   cases h
   exact ⟨k,zFi hk,List.mem_cons_self ..⟩
  ·obtain ⟨j,h1,h2⟩:=zw8 h
   exact ⟨j,h1,List.mem_cons_of_mem _ h2⟩

def zBI (ks outs:List Sh) (l:List (zE3 ks outs)):zdS (ks.map some++[none]):=fun x h=>match h with
 | []=>match zHz (zkl ks x).2 l with
  | some (c,g)=>.chk (c (zkl ks x).1) (.ok (znO outs (g (zkl ks x).1),[]))
  | none=>.err
 | _=>.err

def zp2 (ks outs:List Sh) (l:List (zE3 ks outs)):zJ:=zai (ks.map some++[none]) (zBI ks outs l)

theorem zhP {E:Env} {k:FuncId} {f:Func} {ks outs:List Sh} {l:List (zE3 ks outs)} (hf:zF E.P k f (ks.length+1))
  (h:∀ j c g,(j,c,g)∈l→∀ x,c x=true→∀ C:Ctx,(∀ id,C.ρ0 id=none)→Reach E C k (zq f) (zp f.ntmps (avs (ks.map some) x++[.clo (.func j) [] []]) []) (fun r h=>zac h outs r=some (g x))):FOk E.P E.gl k (zp2 ks outs l):=by
 refine zbC (by simpa using hf) fun x h0 res hx C hC=>?_
 unfold zBI at hx
 split at hx
 ·split at hx
  ·rename_i c g hal
   obtain ⟨j,hv,hm⟩:=zw8 hal
   simp only [Tr.val] at hx
   split at hx
   ·rename_i hc
    simp only [Option.some.injEq] at hx
    subst hx
    rw [zrq,hv]
    exact Reach.plain (fun id=>hC id (by simp)) (h j c g hm _ hc C (fun id=>hC id (by simp)))
   ·simp at hx
  ·simp at hx
 ·simp at hx

open Go

inductive CP where
 | d (s:Sh)
 | nil
 | vec (e:Sh)

@[reducible] def zj:List CP→Type
 | []=>Unit
 | .d s::r=>Sem s×zj r
 | .nil::r=>zj r
 | .vec e::r=>List (Sem e)×zj r

def zcH:(n:Nat)→(ps:List CP)→zj ps→List AV
 | _,[],_=>[]
 | n,.d s::r,y=>zC s y.1++zcH n r y.2
 | n,.nil::r,y=>.nils::zcH n r y
 | n,.vec _::r,y=>.vec n::zcH (n+1) r y.2

def zdA:(ps:List CP)→zj ps→List AO
 | [],_=>[]
 | .d _::r,y=>zdA r y.2
 | .nil::r,y=>zdA r y
 | .vec e::r,y=>.vec e y.1::zdA r y.2

def zY (ps:List CP) (y:zj ps):List AO:=.box (zcH 1 ps y)::zdA ps y

def zat:List CP→Nat
 | []=>0
 | .vec _::r=>zat r+1
 | _::r=>zat r

theorem zaN:∀ (ps:List CP) (y:zj ps),(zdA ps y).length=zat ps
 | [],_=>rfl
 | .d _::r,y=>zaN r y.2
 | .nil::r,y=>zaN r y
 | .vec _::r,y=>congrArg (· + 1) (zaN r y.2)

def za8 (hp:Nat→AO):(n:Nat)→(ps:List CP)→List AV→Option (zj ps)
 | _,[],[]=>some ()
 | n,.d s::r,cs=>match zbb (fun _=>.dead) s cs with
  | some (x,cs')=>match za8 hp n r cs' with
   | some y=>some (x,y)
   | none=>none
  | none=>none
 | n,.nil::r,.nils::cs=>za8 hp n r cs
 | n,.vec e::r,.vec id::cs=>if id=n then match hp id with
   | .vec e' l=>if h:e'=e then match za8 hp (n+1) r cs with
     | some y=>some (h▸l,y)
     | none=>none
    else none
   | _=>none
  else none
 | _,_,_=>none

section
variable {w:World} {U:Nat→Prop} {ρ:Nat→Option Value}

theorem RvL.app {a b:List AV} {va vb:List Value} (h1:RvL w U ρ a va) (h2:RvL w U ρ b vb):RvL w U ρ (a++b) (va++vb) where
 len:=by simp [h1.len,h2.len]
 rv:=by
  intro j c v hc hv
  by_cases hj:j < a.length
  ·rw [List.getElem?_append_left hj] at hc
   rw [List.getElem?_append_left (by rw [← h1.len]; exact hj)] at hv
   exact h1.rv j c v hc hv
  ·rw [List.getElem?_append_right (by omega)] at hc
   rw [List.getElem?_append_right (by rw [← h1.len]; omega),← h1.len] at hv
   exact h2.rv _ c v hc hv

theorem RvL.tail {a:AV} {l:List AV} {v:Value} {vs:List Value} (h:RvL w U ρ (a::l) (v::vs)):RvL w U ρ l vs:=
 ⟨by have:=h.len; simpa using this,fun j c x hc hx=>h.rv (j+1) c x (by simpa using hc) (by simpa using hx)⟩

theorem RvL.consH {a:AV} {l:List AV} {v:Value} {vs:List Value} (h1:Rv w U ρ a v) (h2:RvL w U ρ l vs):RvL w U ρ (a::l) (v::vs) where
 len:=by simp [h2.len]
 rv:=by
  intro j c x hc hx
  cases j with
  | zero=>simp at hc hx; subst hc; subst hx; exact h1
  | succ j=>exact h2.rv j c x (by simpa using hc) (by simpa using hx)

theorem zc5 {hp:Nat→AO}:∀ (ps:List CP) (n:Nat) (cs:List AV) (y:zj ps) (vals:List Value),za8 hp n ps cs=some y→RvL w U ρ cs vals→
  RvL w U ρ (zcH n ps y) vals∧∀ (j:Nat) o,(zdA ps y)[j]?=some o→hp (n+j)=o
 | [],n,[],y,vals,h,hr=>⟨hr,by simp [zdA]⟩
 | [],n,_::_,y,vals,h,hr=>by simp [za8] at h
 | .d s::r,n,cs,y,vals,h,hr=>by
  unfold za8 at h
  split at h
  ·rename_i x cs' hi
   split at h
   ·rename_i y' hy
    cases h
    have hk:=zf6 (w:=w) (U:=U) (U':=U) (ρ:=ρ) (hp:=fun _=>.dead) (fun _ h=>h) s cs x cs' (fun j=>vals.getD j undef) hi
     (fun j c hc=>by
      have hlt:j < vals.length:=by rw [← hr.len]; exact (List.getElem?_eq_some_iff.1 hc).1
      have:=hr.rv j c vals[j] hc (List.getElem?_eq_getElem hlt)
      simpa [List.getD,List.getElem?_eq_getElem hlt] using this)
     (fun id _=>⟨trivial,fun b hb=>by simp [zW,AO.owns] at hb⟩)
    obtain ⟨k1,k2,k3⟩:=hk
    have hdrop:RvL w U ρ cs' (vals.drop s.size):=by
     refine ⟨by rw [k2]; simp [hr.len],fun j c v hc hv=>?_⟩
     rw [k2,List.getElem?_drop] at hc
     rw [List.getElem?_drop] at hv
     exact hr.rv _ c v hc hv
    obtain ⟨i1,i2⟩:=zc5 r n cs' y' (vals.drop s.size) hy hdrop
    refine ⟨?_,i2⟩
    have htake:RvL w U ρ (zC s x) (vals.take s.size):=by
     refine ⟨by rw [zU]; have:=hr.len; simp; omega,fun j c v hc hv=>?_⟩
     have hj:j < s.size:=by rw [← zU s x]; exact (List.getElem?_eq_some_iff.1 hc).1
     rw [List.getElem?_take,if_pos hj] at hv
     have:=k3 j c hc
     simpa [List.getD,hv] using this
    have:=htake.app i1
    rw [List.take_append_drop] at this
    exact this
   ·cases h
  ·cases h
 | .nil::r,n,.nils::cs,y,vals,h,hr=>by
  match vals,hr with
  | [],hr=>have:=hr.len; simp at this
  | v::vs,hr=>
   have hv:=hr.rv 0 _ v rfl rfl
   obtain ⟨i1,i2⟩:=zc5 r n cs y vs h hr.tail
   exact ⟨RvL.consH hv i1,i2⟩
 | .vec e::r,n,.vec id::cs,y,vals,h,hr=>by
  match vals,hr with
  | [],hr=>have:=hr.len; simp at this
  | v :: vs,hr=>
   have hv:=hr.rv 0 _ v rfl rfl
   unfold za8 at h
   split at h
   ·rename_i hid
    subst hid
    split at h
    ·rename_i e' l ho
     split at h
     ·rename_i he
      subst he
      split at h
      ·rename_i y' hy
       cases h
       obtain ⟨i1,i2⟩:=zc5 r (id+1) cs y' vs hy hr.tail
       refine ⟨RvL.consH hv i1,fun j o hj=>?_⟩
       cases j with
       | zero=>simp [zdA] at hj; subst hj; exact ho
       | succ j=>
        have:=i2 j o (by simpa [zdA] using hj)
        rw [← this]
        congr 1
        omega
      ·cases h
     ·cases h
    ·cases h
   ·cases h
 | .nil::_,_,[],_,_,h,_=>by simp [za8] at h
 | .vec _::_,_,[],_,_,h,_=>by simp [za8] at h
 | .nil::_,_,.any::_,_,_,h,_ | .nil::_,_,.kb _::_,_,_,h,_ | .nil::_,_,.bool _::_,_,_,h,_ | .nil::_,_,.int _ _::_,_,_,h,_ | .nil::_,_,.str _::_,_,_,h,_
 | .nil::_,_,.sl _ _::_,_,_,h,_ | .nil::_,_,.vec _::_,_,_,h,_ | .nil::_,_,.ptr _ _::_,_,_,h,_ | .nil::_,_,.vptr _ _ _ _::_,_,_,h,_ | .nil::_,_,.eptr _ _::_,_,_,h,_
 | .nil::_,_,.nilp::_,_,_,h,_ | .nil::_,_,.agg _::_,_,_,h,_ | .nil::_,_,.tup _::_,_,_,h,_ | .nil::_,_,.clo _ _ _::_,_,_,h,_ | .nil::_,_,.nilf::_,_,_,h,_
 | .nil::_,_,.mp _::_,_,_,h,_ | .nil::_,_,.ifc _::_,_,_,h,_ | .nil::_,_,.tab _ _::_,_,_,h,_ | .nil::_,_,.gint::_,_,_,h,_ | .nil::_,_,.vsuf _ _ _::_,_,_,h,_=>by simp [za8] at h
 | .vec _::_,_,.any::_,_,_,h,_ | .vec _::_,_,.kb _::_,_,_,h,_ | .vec _::_,_,.bool _::_,_,_,h,_ | .vec _::_,_,.int _ _::_,_,_,h,_ | .vec _::_,_,.str _::_,_,_,h,_
 | .vec _::_,_,.sl _ _::_,_,_,h,_ | .vec _::_,_,.nils::_,_,_,h,_ | .vec _::_,_,.ptr _ _::_,_,_,h,_ | .vec _::_,_,.vptr _ _ _ _::_,_,_,h,_ | .vec _::_,_,.eptr _ _::_,_,_,h,_
 | .vec _::_,_,.nilp::_,_,_,h,_ | .vec _::_,_,.agg _::_,_,_,h,_ | .vec _::_,_,.tup _::_,_,_,h,_ | .vec _::_,_,.clo _ _ _::_,_,_,h,_ | .vec _::_,_,.nilf::_,_,_,h,_
 | .vec _::_,_,.mp _::_,_,_,h,_ | .vec _::_,_,.ifc _::_,_,_,h,_ | .vec _::_,_,.tab _ _::_,_,_,h,_ | .vec _::_,_,.gint::_,_,_,h,_ | .vec _::_,_,.vsuf _ _ _::_,_,_,h,_=>by simp [za8] at h
end

theorem zfm.box {C:Ctx} {w:World} {U:Nat→Prop} {ρ:Nat→Option Value} {cs:List AV} {os:List AO} {ps:List CP} {y:zj ps} (hH:zfm C w U ρ (fun j=>((AO.box cs::os).getD j .dead))) (hl:os.length=zat ps)
  (hm:za8 (zft (.box cs::os)) 1 ps cs=some y):zfm C w U ρ (fun j=>(zY ps y).getD j .dead):=by
 have h0:zaR w U ρ 0 (.box cs):=hH.ob 0
 obtain ⟨b,T,vals,h1,h2,h3,h4,h5⟩:=h0
 obtain ⟨k1,k2⟩:=zc5 ps 1 cs y vals.toList hm h4
 have hobj:∀ id,id≠0→(zY ps y).getD id .dead=(AO.box cs::os).getD id .dead:=by
  intro id hid
  obtain ⟨j,rfl⟩:∃ j,id=j+1:=⟨id - 1,by omega⟩
  by_cases hj:j < (zdA ps y).length
  ·have:=k2 j _ (List.getElem?_eq_getElem hj)
   unfold zY
   simp only [List.getD_cons_succ]
   rw [List.getD_eq_getElem?_getD,List.getElem?_eq_getElem hj]
   simp only [zft,Nat.add_comm 1 j,List.getD_cons_succ] at this
   simpa using this.symm
  ·have h7:os.length≤j:=by rw [zaN] at hj; omega
   unfold zY
   simp only [List.getD_cons_succ]
   rw [List.getD_eq_getElem?_getD,List.getD_eq_getElem?_getD,List.getElem?_eq_none (by omega),List.getElem?_eq_none h7]
 have hown:∀ id b,zW ρ id ((zY ps y).getD id .dead) b→zW ρ id ((AO.box cs::os).getD id .dead) b:=by
  intro id b' ho
  by_cases hid:id=0
  ·subst hid
   obtain ⟨_,v,hv,hb⟩:=ho
   exact ⟨rfl,v,hv,hb⟩
  ·rw [hobj id hid] at ho; exact ho
 refine ⟨fun id=>?_,fun id1 id2 b' o1 o2=>hH.inj id1 id2 b' (hown _ _ o1) (hown _ _ o2),fun id b' o=>hH.blk id b' (hown _ _ o)⟩
 by_cases hid:id=0
 ·subst hid
  exact ⟨b,T,vals,h1,h2,h3,k1,h5⟩
 ·show zaR w U ρ id ((zY ps y).getD id .dead)
  rw [hobj id hid]
  exact hH.ob id

def ziN (ps:List CP) (outs:List Sh) (r:AV) (h:List AO):Option (zo (outs.map some)×zj ps):=match h with
 | .box cs::os=>if os.length=zat ps then match zac [] outs r,za8 (zft (.box cs::os)) 1 ps cs with
   | some a,some y=>some (a,y)
   | _,_=>none
  else none
 | _=>none

def zQL (ps:List CP) (ks outs:List Sh) (ps':List CP) (c:zj ps→zo (ks.map some)→Bool) (g:zj ps→zo (ks.map some)→zo (outs.map some)×zj ps'):zdS (none::ks.map some):=fun x h=>match x.1,h with
 | .ptr 0 0,.box cs::os=>if os.length=zat ps then match za8 (zft (.box cs::os)) 1 ps cs with
   | some y=>.chk (c y x.2) (.ok (znO outs (g y x.2).1,zY ps' (g y x.2).2))
   | none=>.err
  else .err
 | _,_=>.err

def zk0 (ps:List CP) (ks outs:List Sh) (ps':List CP) (c:zj ps→zo (ks.map some)→Bool) (g:zj ps→zo (ks.map some)→zo (outs.map some)×zj ps'):zJ:=zai (none::ks.map some) (zQL ps ks outs ps' c g)

theorem zj4 (ps:List CP) (y:zj ps):(zY ps y).length=zat ps+1:=by
 simp [zY,zaN]

theorem zs1 {w:World} {U:Nat→Prop} {ρ:Nat→Option Value} {outs:List Sh} {r:AV} {y:zo (outs.map some)} {v:Value} (h:zac [] outs r=some y) (hr:Rv w U ρ r v):Rv w U ρ (znO outs y) v:=by
 have hob:∀ id,zaR w U ρ id (zft [] id)∧∀ b,zW ρ id (zft [] id) b→¬ U b:=fun id=>⟨by simp [zft,zaR],fun b hb=>by simp [zft,zW,AO.owns] at hb⟩
 have htup:∀ (outs:List Sh) (y:zo (outs.map some)) (rs:List AV),zgA (zft []) (fun i=>i) (outs.map some) rs=some y→Rv w U ρ (.tup rs) v→Rv w U ρ (.tup (avs (outs.map some) y)) v:=by
  intro outs y rs hy hrv
  cases hrv with
  | tup _ vs hl hr2=>
  have:=(zfb (w:=w) (U:=U) (ρ:=ρ) (U':=U) (ρ':=ρ) (hp:=zft []) (f:=fun i=>i) (fun b hb=>hb) (outs.map some) rs vs _ (zi3 outs rs y hy) ⟨hl,hr2⟩ (fun id _=>hob id)
   (fun id _=>rfl)).1
  simp only [List.map_map,Function.comp_def,Bool.false_eq_true,if_false,List.map_id'] at this
  exact .tup _ vs this.len this.rv
 match outs,y,h with
 | [s],y,h=>
  simp only [zac] at h
  split at h
  ·rename_i x hx
   cases h
   exact zrB hx hr (fun b hb=>hb) (fun id _=>hob id)
  ·cases h
 | [],y,h=>
  simp only [zac] at h
  cases r with
  | tup rs=>exact htup [] y _ h hr
  | _=>cases h
 | s1::s2::ss,y,h=>
  simp only [zac] at h
  cases r with
  | tup rs=>exact htup _ y _ h hr
  | _=>cases h

theorem zHy {E:Env} {k:FuncId} {f:Func} {ps:List CP} {ks outs:List Sh} {ps':List CP} {c:zj ps→zo (ks.map some)→Bool} {g:zj ps→zo (ks.map some)→zo (outs.map some)×zj ps'} (hf:zF E.P k f (ks.length+1))
  (h:∀ y x,c y x=true→∀ C:Ctx,(∀ id,zat ps+1≤id→C.ρ0 id=none)→Reach E C k (zq f) (zp f.ntmps (.ptr 0 0::avs (ks.map some) x) (zY ps y)) (fun r h=>ziN ps' outs r h=some (g y x))):
  FOk E.P E.gl k (zk0 ps ks outs ps' c g):=by
 refine zbC (by simpa using hf) fun x h0 res hx C hC=>?_
 obtain ⟨x0,x⟩:=x
 unfold zQL at hx
 simp only at hx
 split at hx
 ·rename_i cs os
  split at hx
  ·rename_i hos
   split at hx
   ·rename_i y hy
    simp only [Tr.val] at hx
    split at hx
    ·rename_i hc
     simp only [Option.some.injEq] at hx
     subst hx
     have hR:=h y x hc C (fun id hid=>hC id (by simpa [hos] using hid))
     intro b cs' a w U ρ h1 h2 hcn hW
     have hH:zfm C w U ρ (fun j=>((AO.box cs::os).getD j .dead)):=hcn.hp
     have hcn':Cn C (zp f.ntmps (.ptr 0 0::avs (ks.map some) x) (zY ps y)) a w U ρ:=
      ⟨hcn.tm,hH.box hos hy,fun id hid=>hcn.new id (by have hid:(zY ps y).length≤id:=hid; rw [zj4] at hid; simpa [zp,hos] using hid),hcn.df,hcn.r0⟩
     obtain ⟨e,w',fr,⟨v,r,h',U',ρ',he,hq,hrv,hH',hnew,hr0,hWd⟩,hcm,hf',hl⟩:=hR b cs' a w U ρ h1 h2 hcn' hW
     unfold ziN at hq
     split at hq
     ·rename_i cs2 os2
      split at hq
      ·rename_i hos2
       split at hq
       ·rename_i a' y' ha' hy'
        simp only [Option.some.injEq] at hq
        refine ⟨e,w',fr,⟨v,_,_,U',ρ',he,by rw [← hq],zs1 ha' hrv,hH'.box hos2 hy',fun id hid=>hnew id (by rw [zj4] at hid; simpa [hos2] using hid),hr0,hWd⟩,hcm,hf',hl⟩
       ·cases hq
      ·cases hq
     ·cases hq
    ·simp at hx
   ·simp at hx
  ·simp at hx
 ·simp at hx

open Go

def tm (n:Nat) (l:List (Nat×AV)):List AV:=l.foldl (fun a p=>a.set p.1 p.2) (List.replicate n .any)

def zmF (E:Env) (n0:Nat) (keep:Nat→zQ) (f:Func) (gas:Nat):Nat→List Item→St→Option (AV×List AO)
 | 0,_,_=>none
 | n+1,K,st=>match (run E n0 keep f.results.toList gas K st).val with
  | some (.ret v h)=>some (v,h)
  | some (.head _ K' st')=>zmF E n0 keep f gas n K' st'
  | _=>none

theorem zmE {E:Env} {C:Ctx} {k:FuncId} {f:Func} {Q:AV→List AO→Prop} {m n0:Nat} (hE:zi E) (hm:E.P.follows .mixedOrders=true) (hf:zF E.P k f m) (hC:∀ id,n0≤id→C.ρ0 id=none) {keep:Nat→zQ} {gas:Nat}:
  ∀ (n:Nat) (K:List Item) (st:St) (r:AV×List AO),zmF E n0 keep f gas n K st=some r→Q r.1 r.2→Reach E C k K st Q
 | 0,_,_,_,h,_=>by cases h
 | n+1,K,st,r,h,hQ=>by
  unfold zmF at h
  split at h
  ·rename_i v h' hv
   cases h
   exact zjM hE hm hf hC hv hQ
  ·rename_i j K' st' hv
   exact zjM hE hm hf hC hv (zmE hE hm hf hC n K' st' r h hQ)
  ·cases h

def zad:(outs:List Sh)→zo (outs.map some)
 | []=>()
 | s::r=>(zl s,zad r)

def zdv:(ps:List CP)→zj ps
 | []=>()
 | .d s::r=>(zl s,zdv r)
 | .nil::r=>zdv r
 | .vec _::r=>([],zdv r)

def cpN:List Nat→(ps:List CP)→zj ps→List AV
 | _,[],_=>[]
 | n,.d s::r,y=>zC s y.1++cpN n r y.2
 | n,.nil::r,y=>.nils::cpN n r y
 | n,.vec _::r,y=>.vec (n.headD 0)::cpN n.tail r y.2

def itO (E:Env) (keep:Nat→zQ) (f:Func) (gas n:Nat) (ks outs:List Sh) (x:zo (ks.map some)):Option (zo (outs.map some)):=
 (zmF E 0 keep f gas n (zq f) (zp f.ntmps (avs (ks.map some) x) [])).bind fun r=>zac r.2 outs r.1

def zNp (ks outs:List Sh) (g:zo (ks.map some)→Option (zo (outs.map some))):zJ:=zG ks outs (fun x=>(g x).isSome) fun x=>(g x).getD (zad outs)

theorem zPy {E:Env} {k:FuncId} {f:Func} {ks outs:List Sh} {keep:Nat→zQ} {gas n:Nat} (hE:zi E) (hm:E.P.follows .mixedOrders=true) (hf:zF E.P k f ks.length):FOk E.P E.gl k (zNp ks outs (itO E keep f gas n ks outs)):=by
 refine zT hf fun x hc C hC=>?_
 rw [Option.isSome_iff_exists] at hc
 obtain ⟨y,hy⟩:=hc
 rw [hy]
 unfold itO at hy
 rw [Option.bind_eq_some_iff] at hy
 obtain ⟨r,h1,h2⟩:=hy
 exact zmE hE hm hf (fun id _=>hC id) n _ _ r h1 h2

def itB (E:Env) (keep:Nat→zQ) (f:Func) (gas n:Nat) (ps:List CP) (ks outs:List Sh) (ps':List CP) (y:zj ps) (x:zo (ks.map some)):Option (zo (outs.map some)×zj ps'):=
 (zmF E (zat ps+1) keep f gas n (zq f) (zp f.ntmps (.ptr 0 0::avs (ks.map some) x) (zY ps y))).bind fun r=>ziN ps' outs r.1 r.2

def zXH (ps:List CP) (ks outs:List Sh) (ps':List CP) (g:zj ps→zo (ks.map some)→Option (zo (outs.map some)×zj ps')):zJ:=
 zk0 ps ks outs ps' (fun y x=>(g y x).isSome) fun y x=>(g y x).getD (zad outs,zdv ps')

theorem zHX {E:Env} {k:FuncId} {f:Func} {ps:List CP} {ks outs:List Sh} {ps':List CP} {keep:Nat→zQ} {gas n:Nat} (hE:zi E) (hm:E.P.follows .mixedOrders=true) (hf:zF E.P k f (ks.length+1)):FOk E.P E.gl k (zXH ps ks outs ps' (itB E keep f gas n ps ks outs ps')):=by
 refine zHy hf fun y x hc C hC=>?_
 rw [Option.isSome_iff_exists] at hc
 obtain ⟨z,hz⟩:=hc
 rw [hz]
 unfold itB at hz
 rw [Option.bind_eq_some_iff] at hz
 obtain ⟨r,h1,h2⟩:=hz
 exact zmE hE hm hf hC n _ _ r h1 h2

theorem zIh {E:Env} {k:FuncId} {f:Func} {ks outs:List Sh} {keep:Nat→zQ} {gas n:Nat} {c:zo (ks.map some)→Bool} {g:zo (ks.map some)→zo (outs.map some)} (hE:zi E) (hm:E.P.follows .mixedOrders=true) (hf:zF E.P k f ks.length)
  (hc:∀ x,c x=(itO E keep f gas n ks outs x).isSome) (hg:∀ x,g x=(itO E keep f gas n ks outs x).getD (zad outs)):FOk E.P E.gl k (zG ks outs c g):=by
 obtain rfl:c=fun x=>(itO E keep f gas n ks outs x).isSome:=funext hc
 obtain rfl:g=fun x=>(itO E keep f gas n ks outs x).getD (zad outs):=funext hg
 exact zPy hE hm hf

theorem zDy {E:Env} {k:FuncId} {f:Func} {ps:List CP} {ks outs:List Sh} {ps':List CP} {keep:Nat→zQ} {gas n:Nat} {c:zj ps→zo (ks.map some)→Bool} {g:zj ps→zo (ks.map some)→zo (outs.map some)×zj ps'} (hE:zi E) (hm:E.P.follows .mixedOrders=true) (hf:zF E.P k f (ks.length+1))
  (hc:∀ y x,c y x=(itB E keep f gas n ps ks outs ps' y x).isSome) (hg:∀ y x,g y x=(itB E keep f gas n ps ks outs ps' y x).getD (zad outs,zdv ps')):FOk E.P E.gl k (zk0 ps ks outs ps' c g):=by
 obtain rfl:c=fun y x=>(itB E keep f gas n ps ks outs ps' y x).isSome:=funext fun y=>funext fun x=>hc y x
 obtain rfl:g=fun y x=>(itB E keep f gas n ps ks outs ps' y x).getD (zad outs,zdv ps'):=funext fun y=>funext fun x=>hg y x
 exact zHX hE hm hf

def zTD {α β R:Type} (f:β→Nat→α→β ⊕ R) (fin:β→R):List α→Nat→β→R
 | [],_,b=>fin b
 | x::r,i,b=>match f b i x with
  | .inl b'=>zTD f fin r (i+1) b'
  | .inr y=>y

abbrev Raw:=AV×List AO

def Tr.map {α β:Type} (f:α→β):Tr α→Tr β
 | .err=>.err
 | .chk c t=>.chk c (t.map f)
 | .br c t e=>.br c (t.map f) (e.map f)
 | .ok a=>.ok (f a)

theorem Tr.val_map {α β:Type} (f:α→β):∀ t:Tr α,(t.map f).val=t.val.map f
 | .err=>rfl
 | .chk c t=>by simp only [Tr.map,Tr.val,val_map f t]; split <;> rfl
 | .br c t e=>by simp only [Tr.map,Tr.val,val_map f t,val_map f e]; split <;> rfl
 | .ok _=>rfl

abbrev Tr.to {σ:Type} (s:σ):Tr (σ ⊕ Raw):=.ok (.inl s)
abbrev Tr.re {σ:Type} (v:AV) (h:List AO):Tr (σ ⊕ Raw):=.ok (.inr (v,h))

def zb8 {σ:Type} (t:σ→Tr (σ ⊕ Raw)):Nat→σ→Option Raw
 | 0,_=>none
 | n+1,s=>match (t s).val with
  | some (.inl s')=>zb8 t n s'
  | some (.inr r)=>some r
  | none=>none

def zbk {σ:Type} (t:σ→Tr (σ ⊕ Raw)) (n:Nat) (i:Tr (σ ⊕ Raw)):Option Raw:=match i.val with
 | some (.inl s)=>zb8 t n s
 | some (.inr r)=>some r
 | none=>none

def lf {σ:Type} (f:Func) (e:σ→Nat×St):σ ⊕ Raw→zD
 | .inl s=>.head (e s).1 (zA f (e s).1) (e s).2
 | .inr r=>.ret r.1 r.2

def e0:Empty→Nat×St:=fun x=>nomatch x
def t0:Empty→Tr (Empty ⊕ Raw):=fun x=>nomatch x

section
variable {σ:Type} {E:Env} {n0:Nat} {keep:Nat→zQ} {f:Func} {gas:Nat} {e:σ→Nat×St} {t:σ→Tr (σ ⊕ Raw)}

theorem zAx (hon:∀ s,run E n0 keep f.results.toList gas (zA f (e s).1) (e s).2=(t s).map (lf f e)):∀ (n:Nat) (s:σ),zmF E n0 keep f gas n (zA f (e s).1) (e s).2=zb8 t n s
 | 0,_=>rfl
 | n+1,s=>by
  rw [zmF,hon s,Tr.val_map,zb8]
  cases (t s).val with
  | none=>rfl
  | some l=>
   cases l with
   | inl s'=>exact zAx hon n s'
   | inr r=>rfl

theorem zkv (hon:∀ s,run E n0 keep f.results.toList gas (zA f (e s).1) (e s).2=(t s).map (lf f e)) {K:List Item} {st:St} {i:Tr (σ ⊕ Raw)} (hgo:run E n0 keep f.results.toList gas K st=i.map (lf f e)) (n:Nat):zmF E n0 keep f gas (n+1) K st=zbk t n i:=by
 rw [zmF,hgo,Tr.val_map,zbk]
 cases i.val with
 | none=>rfl
 | some l=>
  cases l with
  | inl s=>exact zAx hon n s
  | inr r=>rfl
end

def zaj {σ:Type} (outs:List Sh) (t:σ→Tr (σ ⊕ Raw)) (n:Nat) (i:Tr (σ ⊕ Raw)):Option (zo (outs.map some)):=(zbk t n i).bind fun r=>zac r.2 outs r.1

theorem zae {σ:Type} {E:Env} {k:FuncId} {f:Func} {ks outs:List Sh} {keep:Nat→zQ} {gas n:Nat} {e:σ→Nat×St} {t:σ→Tr (σ ⊕ Raw)} {i:zo (ks.map some)→Tr (σ ⊕ Raw)} {c:zo (ks.map some)→Bool} {g:zo (ks.map some)→zo (outs.map some)}
  (hE:zi E) (hm:E.P.follows .mixedOrders=true) (hf:zF E.P k f ks.length) (hgo:∀ x,run E 0 keep f.results.toList gas (zq f) (zp f.ntmps (avs (ks.map some) x) [])=(i x).map (lf f e))
  (hon:∀ s,run E 0 keep f.results.toList gas (zA f (e s).1) (e s).2=(t s).map (lf f e))
  (hc:∀ x,c x=(zaj outs t n (i x)).isSome) (hg:∀ x,g x=(zaj outs t n (i x)).getD (zad outs)):FOk E.P E.gl k (zG ks outs c g):=by
 have h:∀ x,itO E keep f gas (n+1) ks outs x=zaj outs t n (i x):=by
  intro x
  unfold itO zaj
  rw [zkv hon (hgo x)]
 exact zIh (n:=n+1) hE hm hf (fun x=>by rw [h,hc]) (fun x=>by rw [h,hg])

theorem on0 (E:Env) (n0:Nat) (keep:Nat→zQ) (f:Func) (gas:Nat):∀ s,run E n0 keep f.results.toList gas (zA f (e0 s).1) (e0 s).2=(t0 s).map (lf f e0):=fun s=>nomatch s

def zfE {σ:Type} (outs:List Sh) (ps':List CP) (t:σ→Tr (σ ⊕ Raw)) (n:Nat) (i:Tr (σ ⊕ Raw)):Option (zo (outs.map some)×zj ps'):=(zbk t n i).bind fun r=>ziN ps' outs r.1 r.2

theorem zgr {σ:Type} {E:Env} {k:FuncId} {f:Func} {ps:List CP} {ks outs:List Sh} {ps':List CP} {keep:Nat→zQ} {gas n:Nat} {e:σ→Nat×St} {t:σ→Tr (σ ⊕ Raw)} {i:zj ps→zo (ks.map some)→Tr (σ ⊕ Raw)} {c:zj ps→zo (ks.map some)→Bool} {g:zj ps→zo (ks.map some)→zo (outs.map some)×zj ps'}
  (hE:zi E) (hm:E.P.follows .mixedOrders=true) (hf:zF E.P k f (ks.length+1)) (hgo:∀ y x,run E (zat ps+1) keep f.results.toList gas (zq f) (zp f.ntmps (.ptr 0 0::avs (ks.map some) x) (zY ps y))=(i y x).map (lf f e))
  (hon:∀ s,run E (zat ps+1) keep f.results.toList gas (zA f (e s).1) (e s).2=(t s).map (lf f e))
  (hc:∀ y x,c y x=(zfE outs ps' t n (i y x)).isSome) (hg:∀ y x,g y x=(zfE outs ps' t n (i y x)).getD (zad outs,zdv ps')):FOk E.P E.gl k (zk0 ps ks outs ps' c g):=by
 have h:∀ y x,itB E keep f gas (n+1) ps ks outs ps' y x=zfE outs ps' t n (i y x):=by
  intro y x
  unfold itB zfE
  rw [zkv hon (hgo y x)]
 exact zDy (n:=n+1) hE hm hf (fun y x=>by rw [h,hc]) (fun y x=>by rw [h,hg])

open Go

theorem zBz (hp:Nat→AO) (e:Sh) (l:List (Sem e)):zns hp e (.sl e l)=some l:=by
 simp [zns]

theorem zfs (hp:Nat→AO):∀ (s:Sh) (x:Sem s) (r:List AV),zbb hp s (zC s x++r)=some (x,r)
 | .unit,_,_=>rfl
 | .bool,_,_=>rfl
 | .int k,n,r=>by simp [zC,zbb]
 | .str,_,_=>rfl
 | .sl e,l,r=>by
  show (match zns hp e (.sl e l) with | some l=>some (l,r) | none=>none)=_
  rw [zBz]
 | .pr a b,x,r=>by
  simp only [zC,zbb,List.append_assoc,zfs hp a,zfs hp b]
 | .expr,e,r=>by
  show zlD hp _=_
  simp only [zC,List.cons_append,List.nil_append,zlD,zBz]
  rw [show ze.mk e.op (e.v.1,e.v.2.1,e.v.2.2) e.s e.l=e from ze.eta e]

theorem ze6 {hp:Nat→AO}:∀ (ps:List CP) (n:Nat) (y:zj ps),(∀ (j:Nat) o,(zdA ps y)[j]?=some o→hp (n+j)=o)→za8 hp n ps (zcH n ps y)=some y
 | [],_,_,_=>rfl
 | .d s::r,n,y,h=>by
  simp only [zcH,za8,zfs]
  rw [ze6 r n y.2 h]
 | .nil::r,n,y,h=>by
  simp only [zcH,za8]
  exact ze6 r n y h
 | .vec e::r,n,y,h=>by
  have h0:=h 0 (.vec e y.1) rfl
  simp only [Nat.add_zero] at h0
  simp only [zcH,za8,if_true,h0,dite_true]
  rw [ze6 r (n+1) y.2 (fun j o hj=>by
   have:=h (j+1) o (by simpa [zdA] using hj)
   rw [← this]
   congr 1
   omega)]

theorem zbs {ps:List CP} {outs:List Sh} {r:AV} {a:zo (outs.map some)} (y:zj ps) (h:zac [] outs r=some a):ziN ps outs r (zY ps y)=some (a,y):=by
 unfold ziN zY
 simp only [zaN,if_true,h]
 rw [ze6 ps 1 y (fun j o hj=>by
  unfold zft
  rw [Nat.add_comm,List.getD_cons_succ,List.getD_eq_getElem?_getD,hj]
  rfl)]

section
variable {σ:Type} {t:σ→Tr (σ ⊕ Raw)}

theorem zdf {β:Type} (N:Nat) (st:β→Nat→σ) (I:β→Nat→Prop) (Φ:Raw→Prop) (M:Nat)
  (hstep:∀ b i,i < N→I b i→(∃ b',I b' (i+1)∧(t (st b i)).val=some (.inl (st b' (i+1))))∨∃ r,(t (st b i)).val=some (.inr r)∧Φ r)
  (hend:∀ b n,I b N→M≤n→∃ r,zb8 t n (st b N)=some r∧Φ r):
  ∀ (m i:Nat) (b:β) (n:Nat),N - i=m→i≤N→I b i→M+m≤n→∃ r,zb8 t n (st b i)=some r∧Φ r
 | 0,i,b,n,hm,hi,hI,hn=>by
  obtain rfl:i=N:=by omega
  exact hend b n hI (by omega)
 | m+1,i,b,n,hm,hi,hI,hn=>by
  obtain ⟨n,rfl⟩:∃ k,n=k+1:=⟨n - 1,by omega⟩
  rcases hstep b i (by omega) hI with ⟨b',hI',h⟩ | ⟨r,h1,h2⟩
  ·obtain ⟨r,h1,h2⟩:=zdf N st I Φ M hstep hend m (i+1) b' n (by omega) (by omega) hI' (by omega)
   exact ⟨r,by rw [zb8,h]; exact h1,h2⟩
  ·exact ⟨r,by rw [zb8,h1],h2⟩

theorem zcm {n:Nat} {s:σ}:zb8 t (n+1) s=match (t s).val with
  | some (.inl s')=>zb8 t n s'
  | some (.inr r)=>some r
  | none=>none:=rfl
end

open Go
section
variable {σ:Type} {t:σ→Tr (σ ⊕ Raw)}

def zaI (t:σ→Tr (σ ⊕ Raw)) (k:Nat) (s:σ) (r:Raw):Prop:=∀ n,k≤n→zb8 t n s=some r
def zaz (t:σ→Tr (σ ⊕ Raw)) (m:Nat) (s s':σ):Prop:=∀ k r,zaI t k s' r→zaI t (k+m) s r

theorem zaI.mono {k k':Nat} {s:σ} {r:Raw} (h:zaI t k s r) (hk:k≤k'):zaI t k' s r:=fun n hn=>h n (by omega)
theorem zaI.of {s:σ} {r:Raw} (h:(t s).val=some (.inr r)):zaI t 1 s r:=by
 intro n hn
 obtain ⟨n,rfl⟩:∃ k,n=k+1:=⟨n - 1,by omega⟩
 rw [zb8,h]
theorem zaz.of {s s':σ} (h:(t s).val=some (.inl s')):zaz t 1 s s':=by
 intro k r hr n hn
 obtain ⟨n,rfl⟩:∃ k,n=k+1:=⟨n - 1,by omega⟩
 rw [zb8,h]
 exact hr n (by omega)
theorem zaz.refl (s:σ):zaz t 0 s s:=fun _ _ h=>h
theorem zaz.trans {a b:Nat} {s s' s'':σ} (h1:zaz t a s s') (h2:zaz t b s' s''):zaz t (b+a) s s'':=fun k r h=>(h1 _ _ (h2 k r h)).mono (by omega)
theorem zaz.mono {a b:Nat} {s s':σ} (h:zaz t a s s') (hk:a≤b):zaz t b s s':=fun k r hr=>(h k r hr).mono (by omega)
theorem zaz.ends {a k:Nat} {s s':σ} {r:Raw} (h1:zaz t a s s') (h2:zaI t k s' r):zaI t (k+a) s r:=h1 k r h2

theorem zaz.all (m:Nat) (st:Nat→σ):∀ (N:Nat),(∀ i,i < N→zaz t m (st i) (st (i+1)))→zaz t (N * m) (st 0) (st N)
 | 0,_=>(zaz.refl _).mono (by omega)
 | N+1,h=>((zaz.all m st N fun i hi=>h i (by omega)).trans (h N (by omega))).mono (by rw [Nat.add_mul]; omega)

theorem For {Φ:Raw→Prop} (m:Nat) (st:Nat→σ) (P:Nat→Prop):∀ (N:Nat),(∀ i,i < N→(∀ j,j < i→P j)→(P i∧zaz t m (st i) (st (i+1)))∨(¬ P i∧∃ r,zaI t m (st i) r∧Φ r))→
  ((∀ i,i < N→P i)∧zaz t (N * m) (st 0) (st N))∨((¬ ∀ i,i < N→P i)∧∃ r,zaI t (N * m) (st 0) r∧Φ r)
 | 0,_=>.inl ⟨fun i hi=>absurd hi (by omega),(zaz.refl _).mono (by omega)⟩
 | N+1,h=>by
  rcases For m st P N fun i hi=>h i (by omega) with ⟨h1,h2⟩ | ⟨h1,r,h2,h3⟩
  ·rcases h N (by omega) h1 with ⟨h4,h5⟩ | ⟨h4,r,h5,h6⟩
   ·refine .inl ⟨fun i hi=>?_,(h2.trans h5).mono (by rw [Nat.add_mul]; omega)⟩
    rcases Nat.lt_succ_iff_lt_or_eq.1 hi with hi | rfl
    ·exact h1 i hi
    ·exact h4
   ·exact .inr ⟨fun h=>h4 (h N (by omega)),r,(h2.ends h5).mono (by rw [Nat.add_mul]; omega),h6⟩
  ·exact .inr ⟨fun h=>h1 fun i hi=>h i (by omega),r,h2.mono (by rw [Nat.add_mul]; omega),h3⟩

theorem zO {outs:List Sh} {n k:Nat} {i:Tr (σ ⊕ Raw)} {s:σ} {r:Raw} {y:zo (outs.map some)} (hi:i.val=some (.inl s)) (h:zaI t k s r) (hk:k≤n) (hr:zac r.2 outs r.1=some y):zaj outs t n i=some y:=by
 unfold zaj zbk
 rw [hi]
 show (zb8 t n s).bind _=_
 rw [h n hk]
 exact hr
theorem zg5 {outs:List Sh} {n:Nat} {i:Tr (σ ⊕ Raw)} {r:Raw} {y:zo (outs.map some)} (hi:i.val=some (.inr r)) (hr:zac r.2 outs r.1=some y):zaj outs t n i=some y:=by
 unfold zaj zbk
 rw [hi]
 exact hr
end
open Go Go.Proofs

theorem Reach.len {E:Env} {C:Ctx} {fn:FuncId} {todo:List Item} {st:St} {Q:AV→List AO→Prop} (j:Nat) (e:Sh) (l:List (Sem e)) (hj:st.tmps[j]?=some (.sl e l)) (h:l.length≤zI→Reach E C fn todo st Q):Reach E C fn todo st Q:=by
 intro b cs a w U ρ h1 h2 hc hW
 refine h ?_ b cs a w U ρ h1 h2 hc hW
 have hlt:j < a.tmps.toList.length:=by rw [← hc.tm.len]; exact (List.getElem?_eq_some_iff.1 hj).1
 have:=hc.tm.rv j _ _ hj (List.getElem?_eq_getElem hlt)
 generalize a.tmps.toList[j]=v at this
 cases this with
 | sl0=>simp
 | sl _ _ _ _ _ _ _ hm=>exact hm

theorem zH (i:Nat) (h:i < zI):IntKind.i64.wrap (↑i+1)=((i+1:Nat):Int):=by
 have:zI=9223372036854775807:=rfl
 rw [IntKind.wrap_i64]
 omega

theorem zaD {α:Type} (l:List α) (d:α) {i:Nat} (h:i < l.length):l.getD (i:Int).toNat d=l[i]:=by
 simp [List.getD_eq_getElem?_getD,h]

def zaa {α:Type} (p:α→Bool):List α→Nat→Int
 | [],_=>-1
 | x::r,i=>if p x then i else zaa p r (i+1)

noncomputable def zq4:Env:=(zNx.aut 55 Tryz.f55 2).aut 225 Tryz.f225 2
theorem ziT:zi zq4:=by
 refine zfF (zfF zEk zbS ?_) zbS ?_ <;> (refine ⟨?_,?_,?_,?_⟩ <;> kernel_rfl)

abbrev zwP:Nat→zQ:=fun _=>{slots:=[0,1,7,8]}
theorem zG0:zF zq4.P 54 Tryz.f54 2:=by refine ⟨?_,?_,?_,?_⟩ <;> kernel_rfl
abbrev zo7 (l:List (Sem zh)) (s:Str) (i:Int):St:={
    tmps:=
     [AV.sl (Sh.str.pr ((Sh.int IntKind.i64).pr Sh.bool)) l,AV.clo (Fn.func 55) [] [AV.ptr 0 0],AV.any,AV.any,
      AV.any,AV.any,AV.any,AV.int .i64 ↑l.length,AV.int .i64 i,AV.any,AV.any,AV.any,AV.any,
      AV.any,AV.any,AV.any,AV.any,AV.any,AV.any],
    heap:=[AO.box [AV.str s]] }

theorem zI1 (l:List (Sem zh)) (s:Str):run zq4 1 zwP Tryz.f54.results.toList 300 (zq Tryz.f54) (zp Tryz.f54.ntmps [.sl zh l,.clo (.func 55) [] [.ptr 0 0]] [.box [.str s]])=.ok (.head 2 (zA Tryz.f54 2) (zo7 l s 0)):=by kernel_rfl

theorem zJq (l:List (Sem zh)) (s:Str) (i:Int):run zq4 1 zwP Tryz.f54.results.toList 300 (zA Tryz.f54 2) (zo7 l s i)=
 Tr.br (decide (i < ↑l.length))
  (Tr.chk (inB i l.length)
   (Tr.br ((l.getD i.toNat (zl (Sh.str.pr ((Sh.int IntKind.i64).pr Sh.bool)))).1==s)
    (Tr.ok (zD.ret (AV.int .i64 i) [AO.box [AV.str s]]))
    (Tr.ok (zD.head 2 (zA Tryz.f54 2) (zo7 l s (IntKind.i64.wrap (i+1)))))))
  (Tr.ok (zD.ret (AV.int .i64 (-1)) [AO.box [AV.str s]])):=by kernel_rfl

theorem zA8 {C:Ctx} (hC:∀ id,1≤id→C.ρ0 id=none) (l:List (Sem zh)) (s:Str) (hl:l.length≤zI):∀ (n i:Nat),l.length - i=n→i≤l.length→
  Reach zq4 C 54 (zA Tryz.f54 2) (zo7 l s i) (fun r h=>(r,h)=(.int .i64 (zaa (fun c=>c.1==s) (l.drop i) i),[.box [.str s]]))
 | n,i,hn,hi=>by
  subst hn
  refine zbL ziT zbS zG0 hC zwP 300 ?_
  rw [zJq]
  refine ⟨fun h=>⟨?_,fun hc=>?_,fun hc=>?_⟩,fun h=>?_⟩
  ·simp only [decide_eq_true_eq] at h
   simp [inB]; omega
  ·simp only [decide_eq_true_eq] at h
   have hlt:i < l.length:=by omega
   rw [zaD l _ hlt] at hc
   rw [List.drop_eq_getElem_cons hlt]
   simp only [zaa]
   rw [if_pos hc]
   rfl
  ·simp only [decide_eq_true_eq] at h
   have hlt:i < l.length:=by omega
   rw [zaD l _ hlt] at hc
   rw [List.drop_eq_getElem_cons hlt]
   simp only [zaa]
   rw [if_neg (by rw [hc]; simp),zH i (by omega)]
   exact zA8 hC l s hl (l.length - (i+1)) (i+1) rfl (by omega)
  ·simp only [decide_eq_false_iff_not] at h
   rw [List.drop_eq_nil_of_le (by omega)]
   rfl
 termination_by n=>n

abbrev zop (l:List (Sem zh)) (s:Str) (i:Int):St:={
    tmps:=
     [AV.sl (Sh.str.pr ((Sh.int IntKind.i64).pr Sh.bool)) l,AV.clo (Fn.func 225) [] [AV.ptr 0 0],AV.any,AV.any,
      AV.any,AV.any,AV.any,AV.int .i64 ↑l.length,AV.int .i64 i,AV.any,AV.any,AV.any,AV.any,
      AV.any,AV.any,AV.any,AV.any,AV.any,AV.any],
    heap:=[AO.box [AV.str s]] }

theorem zHv (l:List (Sem zh)) (s:Str):run zq4 1 zwP Tryz.f54.results.toList 300 (zq Tryz.f54) (zp Tryz.f54.ntmps [.sl zh l,.clo (.func 225) [] [.ptr 0 0]] [.box [.str s]])=.ok (.head 2 (zA Tryz.f54 2) (zop l s 0)):=by kernel_rfl

theorem zH8 (l:List (Sem zh)) (s:Str) (i:Int):run zq4 1 zwP Tryz.f54.results.toList 300 (zA Tryz.f54 2) (zop l s i)=
 Tr.br (decide (i < ↑l.length))
  (Tr.chk (inB i l.length)
   (Tr.br ((l.getD i.toNat (zl (Sh.str.pr ((Sh.int IntKind.i64).pr Sh.bool)))).1==s)
    (Tr.ok (zD.ret (AV.int .i64 i) [AO.box [AV.str s]]))
    (Tr.ok (zD.head 2 (zA Tryz.f54 2) (zop l s (IntKind.i64.wrap (i+1)))))))
  (Tr.ok (zD.ret (AV.int .i64 (-1)) [AO.box [AV.str s]])):=by kernel_rfl

theorem zBo {C:Ctx} (hC:∀ id,1≤id→C.ρ0 id=none) (l:List (Sem zh)) (s:Str) (hl:l.length≤zI):∀ (n i:Nat),l.length - i=n→i≤l.length→
  Reach zq4 C 54 (zA Tryz.f54 2) (zop l s i) (fun r h=>(r,h)=(.int .i64 (zaa (fun c=>c.1==s) (l.drop i) i),[.box [.str s]]))
 | n,i,hn,hi=>by
  subst hn
  refine zbL ziT zbS zG0 hC zwP 300 ?_
  rw [zH8]
  refine ⟨fun h=>⟨?_,fun hc=>?_,fun hc=>?_⟩,fun h=>?_⟩
  ·simp only [decide_eq_true_eq] at h
   simp [inB]; omega
  ·simp only [decide_eq_true_eq] at h
   have hlt:i < l.length:=by omega
   rw [zaD l _ hlt] at hc
   rw [List.drop_eq_getElem_cons hlt]
   simp only [zaa]
   rw [if_pos hc]
   rfl
  ·simp only [decide_eq_true_eq] at h
   have hlt:i < l.length:=by omega
   rw [zaD l _ hlt] at hc
   rw [List.drop_eq_getElem_cons hlt]
   simp only [zaa]
   rw [if_neg (by rw [hc]; simp),zH i (by omega)]
   exact zBo hC l s hl (l.length - (i+1)) (i+1) rfl (by omega)
  ·simp only [decide_eq_false_iff_not] at h
   rw [List.drop_eq_nil_of_le (by omega)]
   rfl
 termination_by n=>n

def G27:zdS [some (.sl zh),none]:=fun x h=>match x,h with
 | (l,.clo (.func 55) [] [.ptr 0 0],_),[.box [.str s]]=>.ok (.int .i64 (zaa (fun c=>c.1==s) l 0),[.box [.str s]])
 | (l,.clo (.func 225) [] [.ptr 0 0],_),[.box [.str s]]=>.ok (.int .i64 (zaa (fun c=>c.1==s) l 0),[.box [.str s]])
 | _,_=>.err

theorem zUY:FOk zq4.P zq4.gl 54 (zai [some (.sl zh),none] G27):=by
 refine zbC zG0 fun x h0 res hx C hC=>?_
 unfold G27 at hx
 split at hx
 ·simp only [Tr.val_ok,Option.some.injEq] at hx
  subst hx
  rename_i _ _ l u s
  refine Reach.len 0 zh l rfl fun hl=>?_
  have e:avs [some (.sl zh),none] (l,.clo (.func 55) [] [.ptr 0 0],u)=[.sl zh l,.clo (.func 55) [] [.ptr 0 0]]:=rfl
  rw [e]
  refine zbL (n0:=1) ziT zbS zG0 hC zwP 300 ?_
  rw [zI1]
  exact zA8 hC l s hl _ 0 rfl (by omega)
 ·simp only [Tr.val_ok,Option.some.injEq] at hx
  subst hx
  rename_i _ _ l u s
  refine Reach.len 0 zh l rfl fun hl=>?_
  have e:avs [some (.sl zh),none] (l,.clo (.func 225) [] [.ptr 0 0],u)=[.sl zh l,.clo (.func 225) [] [.ptr 0 0]]:=rfl
  rw [e]
  refine zbL (n0:=1) ziT zbS zG0 hC zwP 300 ?_
  rw [zHv]
  exact zBo hC l s hl _ 0 rfl (by omega)
 ·simp at hx

noncomputable def zEC:Env:=zq4.add 54 (zai [some (.sl zh),none] G27)
theorem zrb:zi zEC:=ziT.add zUY
noncomputable def zT1:Env:=(zEC.add 20 (zai [some zn,some .str] (zbx zEC Tryz.f20 [some zn,some .str]))).add 182 (zai [some (.sl zh),some .str] (zbx zEC Tryz.f182 [some (.sl zh),some .str]))
theorem zFO:zi zT1:=by
 refine (zrb.add (zav _ zrb zbS ?_)).add (zav (E:=zEC) _ zrb zbS ?_) <;> (refine ⟨?_,?_,?_,?_⟩ <;> kernel_rfl)
end Cad
