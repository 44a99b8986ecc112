/- The program's environment: shapes, and the way functions are added. Functions from plain data to plain data. Places of columns. -/
import Derived.Test.YtiefilkilbdpgaaGreatDoorS05
import Derived.Test.YtiefilkilbdpgaaGreatDoorProg
namespace Cad
open Go

abbrev zg:Sh:=.int .i64
abbrev zf:Sh:=.pr (.int .i64) (.pr (.int .i64) .str)
abbrev zi:Sh:=.pr .str (.pr (.int .i64) .bool)
abbrev zq:Sh:=.pr (.int .i64) .str
abbrev zx:Sh:=.pr .str (.pr (.sl zi) (.pr (.int .i64) (.pr (.sl (.int .i64)) (.pr (.sl zq) .expr))))

abbrev zh:Sh:=.pr zx (.sl (.sl zf))

def XY:Nat→Option Sh
 | 3=>some (.int .i64)
 | 34=>some zf
 | 37=>some .expr
 | 56=>some zi
 | 117=>some zq
 | 9=>some .str
 | 5=>some (.int .u8)
 | 205=>some (.pr (.int .i64) .str)
 | 78=>some (.pr .str .str)
 | 64=>some (.pr .str .expr)
 | 38=>some (.sl zf)
 | 54=>some (zh)
 | _=>none

abbrev j9:List Int:=[1,10,100,1000,10000,100000,1000000,10000000,100000000,1000000000,10000000000,100000000000,1000000000000,10000000000000,100000000000000,1000000000000000,10000000000000000,100000000000000000,1000000000000000000,10000000000000000000]

def IR:Nat→AV
 | 0=>.eptr [.str [73,78,84],.str [84,69,88,84],.str [66,79,79,76]] 0
 | 2=>.gint
 | 5=>.tab .u64 j9
 | _=>.any

abbrev FK (k:FuncId) (F:zF):Prop:=mf Go.Proofs.Tryz.prog IR k F

noncomputable def VD:bt:={ P:=Go.Proofs.Tryz.prog,sh:=XY,gl:=IR,F:=fun _=>none }

def bt.add (E:bt) (k:FuncId) (F:zF):bt:={ E with F:=fun j=>if j=k then some F else E.F j }

theorem zl.add {E:bt} {k:FuncId} {F:zF} (h:zl E) (hk:mf E.P E.gl k F):zl (E.add k F) where
 sh:=h.sh
 fs:=fun j F' hj=>by
  simp only [bt.add] at hj
  split at hj
  ·rename_i e; cases hj; rw [e]; exact hk
  ·exact h.fs j F' hj
 mix:=h.mix

def Hc:List (Nat×zF)→Nat→Option zF→Option zF
 | [],_,d=>d
 | p::r,j,d=>if j=p.1 then some p.2 else Hc r j d
def bt.addL (E:bt) (l:List (Nat×zF)):bt:={ E with F:=fun j=>Hc l j (E.F j) }
def J0 (P:Program) (gl:Nat→AV):List (Nat×zF)→Prop
 | []=>True
 | p::r=>mf P gl p.1 p.2∧J0 P gl r
theorem jf {P:Program} {gl:Nat→AV}:J0 P gl []:=trivial
theorem fc {P:Program} {gl:Nat→AV} {k:Nat} {F:zF} {r:List (Nat×zF)} (h:mf P gl k F) (t:J0 P gl r):J0 P gl ((k,F)::r):=⟨h,t⟩
theorem zl.addL {E:bt} (h:zl E) {l:List (Nat×zF)} (hl:J0 E.P E.gl l):zl (E.addL l) where
 sh:=h.sh
 fs:=by
  intro k F
  show Hc l k (E.F k)=some F→mf E.P E.gl k F
  induction l with
  | nil=>exact h.fs k F
  | cons p r ih=>
   intro hk
   rw [Hc] at hk
   split at hk
   ·rename_i e; cases hk; rw [e]; exact hl.1
   ·exact ih hl.2 hk
 mix:=h.mix

def jq (key:Nat):Nat→Code→List Item→Option (List Item)
 | 0,_,_=>none
 | n+1,c,k=>match c with
  | .seq a b=>match jq key n a (.code b::k) with
   | some r=>some r
   | none=>jq key n b k
  | .cond _ a b=>match jq key n a k with
   | some r=>some r
   | none=>jq key n b k
  | .block id c=>jq key n c (.inBlock id::k)
  | .loop c=>if dC c=key then some (.code c::.inLoop c::k) else jq key n c (.inLoop c::k)
  | .region id _ _=>if id+500000=key then some k else none
  | _=>none

def zy (f:Func) (key:Nat):List Item:=match f.body with
 | some c=>(jq key 1000 c []).getD []
 | none=>[]

def aB (f:Func):List Item:=match f.body with
 | some c=>[.code c]
 | none=>[]

theorem WX:VD.P.follows .mixedOrders=true:=by kernel_rfl

def Yj:Nat→ah:=fun _=>{ unroll:=true }

def bZ (E:bt) (f:Func) (ks:List (Option Sh)):cF ks:=fun x h=>
 (run E h.length Yj f.results.toList 4000 (aB f) (aq f.ntmps (gz ks x) h)).bind fun
  | .ret v h'=>.ok (v,h')
  | _=>.err

theorem Tr.sat_of_val {α:Type} {Φ:α→Prop}:∀ {t:Tr α} {a:α},t.val=some a→Φ a→t.Sat Φ
 | .err,_,h,_=>by simp at h
 | .chk c t,a,h,ha=>by
  cases c
  ·simp [Tr.val] at h
  ·exact ⟨rfl,sat_of_val (t:=t) (by simpa [Tr.val] using h) ha⟩
 | .br c t f,a,h,ha=>by
  cases c
  ·exact ⟨fun h=>(by cases h),fun _=>sat_of_val (t:=f) (by simpa [Tr.val] using h) ha⟩
  ·exact ⟨fun _=>sat_of_val (t:=t) (by simpa [Tr.val] using h) ha,fun h=>(by cases h)⟩
 | .ok b,a,h,ha=>by simp [Tr.val] at h; subst h; exact ha

def zA (P:Program) (k:FuncId) (f:Func) (n:Nat):Prop:=P.funcs[k]?=some f∧(f.name == "runtime.NumGoroutine")=false∧f.body.isNone=false∧decide (n≤f.ntmps)=true

theorem aQ {P:Program} {k:FuncId} {f:Func} {n:Nat} (h:(P.funcs[k]?,f.name == "runtime.NumGoroutine",f.body.isNone,decide (n≤f.ntmps))=(some f,false,false,true)):zA P k f n:=by
 simp only [bC] at h
 exact ⟨h.1,h.2.1,h.2.2.1,h.2.2.2⟩

theorem oI:∀ (ks:List (Option Sh)) (x:zw ks),(gz ks x).length=ks.length
 | [],_=>rfl
 | some _::ks,x=>by simp [gz,oI ks x.2]
 | none::ks,x=>by simp [gz,oI ks x.2]

theorem cM {E:bt} {C:cH} {k:FuncId} {f:Func} {Q:AV→List AO→Prop} {n n0:Nat} (hE:zl E) (hf:zA E.P k f n) (hC:∀ id,n0≤id→C.ρ0 id=none) (keep:Nat→ah) (fuel:Nat)
  {todo:List Item} {st:St} (h:(run E n0 keep f.results.toList fuel todo st).Sat (ix E C k Q)):Reach E C k todo st Q:=
 Ak hE hf.1 hC rfl fuel _ _ h

theorem Pv {E:bt} {k:FuncId} {f:Func} {Q:AV→List AO→Prop} {args:List AV} {h0:List AO} (hf:zA E.P k f args.length)
  (h:∀ C:cH,(∀ id,h0.length≤id→C.ρ0 id=none)→Reach E C k (aB f) (aq f.ntmps args h0) Q):Oc E k args h0 Q:=by
 obtain ⟨h1,h2,h3,h4⟩:=hf
 cases hb:f.body with
 | none=>rw [hb] at h3; cases h3
 | some c=>
  refine ⟨f,c,h1,hb,h2,fb h4,fun C hC=>?_⟩
  have:=h C hC
  simpa [aB,hb] using this

theorem bA {P:Program} {gl:Nat→AV} {E:bt} {k:FuncId} {f:Func} {ks:List (Option Sh)} {G:cF ks} (hf:zA E.P k f ks.length)
  (h:∀ x h0 res,(G x h0).val=some res→∀ C:cH,(∀ id,h0.length≤id→C.ρ0 id=none)→Reach E C k (aB f) (aq f.ntmps (gz ks x) h0) (fun r h=>(r,h)=res)) (qp:E.P=P:=by rfl) (qg:E.gl=gl:=by rfl):mf P gl k (zU ks G):=by
 subst qp qg
 exact J5 ⟨f,hf.1,hf.2.1,hf.2.2.1⟩ fun x h0 res hx=>Pv (by rw [oI]; exact hf) (h x h0 res hx)

theorem au {P:Program} {gl:Nat→AV} {E:bt} {k:FuncId} {f:Func} (ks:List (Option Sh)) (hE:zl E) (hf:zA E.P k f ks.length) (qp:E.P=P:=by rfl) (qg:E.gl=gl:=by rfl):mf P gl k (zU ks (bZ E f ks)):=by
 subst qp qg
 refine bA hf fun x h0 res hx C hC=>cM hE hf hC Yj 4000 ?_
 unfold bZ at hx
 simp only [Tr.val_bind,eS] at hx
 obtain ⟨l,hl,hres⟩:=hx
 refine Tr.sat_of_val hl ?_
 cases l with
 | ret v h'=>simp at hres; exact hres
 | head _ _ _=>simp at hres
 | fork _ _ _ _=>simp at hres

def Tc (P:Program) (t:TypeId) (e:Sh):Bool:=match P.info? t with
 | some i=>i.size==e.size&&decide (0 < e.size)&&decide (i.bytes≤131072)&&(match i.zero with | some z=>z.cells.size==i.size | none=>false)
 | none=>false

theorem NP {P:Program} {t:TypeId} {e:Sh} (h:Tc P t e=true):∃ i z,P.info? t=some i∧i.size=e.size∧0 < e.size∧i.bytes≤131072∧i.zero=some z∧z.cells.size=i.size:=by
 unfold Tc at h
 split at h
 ·rename_i i hi
  simp only [aL,ae,eT] at h
  obtain ⟨⟨⟨h1,h2⟩,h3⟩,h4⟩:=h
  split at h4
  ·rename_i z hz
   exact ⟨i,z,hi,h1,h2,h3,hz,by simpa using h4⟩
  ·cases h4
 ·cases h

theorem CU:zl VD where
 sh:=by
  intro t e h
  have hh:XY t=some e:=h
  unfold XY at hh
  split at hh
  all_goals first
   | (cases hh; exact NP (by kernel_rfl))
   | cases hh
 fs:=by intro k F h; cases h
 mix:=WX

abbrev rn (E:bt) (n:Nat) (kp:Nat→ah) (f:Func) (a:List AV) (h:List AO):Tr zt:=run E n kp (Func.results f).toList 400 (aB f) (aq (Func.ntmps f) a h)
abbrev rh (E:bt) (n:Nat) (kp:Nat→ah) (f:Func) (k:Nat) (s:St):Tr zt:=run E n kp (Func.results f).toList 400 (zy f k) s

def iL (h:List AO):Nat→AO:=fun j=>h.getD j .dead

def zfb (h:List AO) (outs:List Sh):AV→Option (zw (outs.map some))
 | .tup rs=>jV (iL h) (fun i=>i) (outs.map some) rs
 | _=>none

def ap (h:List AO):(outs:List Sh)→AV→Option (zw (outs.map some))
 | [s],r=>match rZ (iL h) s r with
  | some y=>some (y,())
  | none=>none
 | [],r=>zfb h [] r
 | s1::s2::ss,r=>zfb h (s1::s2::ss) r

def sB:(outs:List Sh)→zw (outs.map some)→AV
 | [s],y=>zz s y.1
 | outs,y=>.tup (gz (outs.map some) y)

theorem mM {hp:Nat→AO} {f:Nat→Nat}:∀ (ss:List Sh) (args:List AV) (x:zw (ss.map some)),jV hp f (ss.map some) args=some x→bK hp (ss.map some) args=some ((gz (ss.map some) x).map fun a=>(false,a))
 | [],[],_,_=>rfl
 | s::ss,a::as',x,h=>by
  have h':jV hp f (some s::ss.map some) (a::as')=some x:=h
  show bK hp (some s::ss.map some) (a::as')=_
  unfold jV at h'
  unfold bK
  split at h'
  ·rename_i y r hy hr
   cases h'
   rw [hy,mM ss as' r hr]
   rfl
  ·cases h'
 | [],_::_,_,h=>by simp [jV] at h
 | _::_,[],_,h=>by simp [jV] at h

theorem Reach.plain {E:bt} {C:cH} {fn:FuncId} {todo:List Item} {st:St} {outs:List Sh} {y:zw (outs.map some)} (hC:∀ id,C.ρ0 id=none)
  (h:Reach E C fn todo st (fun r h=>ap h outs r=some y)):Reach E C fn todo st (fun r h=>(r,h)=(sB outs y,[])):=by
 intro b cs a w U ρ h1 h2 hc hW
 obtain ⟨e,w',fr,⟨v,r,h',U',ρ',he,hq,hrv,hH,hnew,hr0,hWd⟩,hcm,hf,hl⟩:=h b cs a w U ρ h1 h2 hc hW
 refine ⟨e,w',fr,⟨v,_,_,fun b=>U' b∧b < C.w0.heap.size∧¬ C.B0 b,fun _=>none,he,rfl,?_,⟨fun id=>?_,fun id1 id2 b o=>?_,fun id b o=>?_⟩,fun _ _=>rfl,fun id v hv=>?_,⟨hWd.ext,hWd.same,fun b hb=>hWd.ub b hb.1,fun b hb hu=>hWd.u1 b hb hu.1,fun b hb hu hn=>⟨hWd.u2 b hb hu hn,hb,hn⟩,fun g=>(hWd.gl g).weak fun b hb=>hb.1⟩⟩,hcm,hf,hl⟩
 ·have hob:∀ id,be w' U' ρ' id (iL h' id)∧∀ b,zO ρ' id (iL h' id) b→¬ (U' b∧b < C.w0.heap.size∧¬ C.B0 b):=by
   intro id
   refine ⟨hH.ob id,fun b ho hu=>?_⟩
   rcases hH.blk id b ho with hB | hB
   ·exact hu.2.2 hB
   ·omega
  have htup:∀ (outs:List Sh) (y:zw (outs.map some)) (rs:List AV),jV (iL h') (fun i=>i) (outs.map some) rs=some y→Rv w' U' ρ' (.tup rs) v→Rv w' (fun b=>U' b∧b < C.w0.heap.size∧¬ C.B0 b) (fun _=>none) (.tup (gz (outs.map some) y)) v:=by
   intro outs y rs hy hrv
   cases hrv with
   | tup _ vs hl hr=>
   have:=(il (w:=w') (U:=U') (ρ:=ρ') (U':=fun b=>U' b∧b < C.w0.heap.size∧¬ C.B0 b) (ρ':=fun _=>none) (hp:=iL h') (f:=fun i=>i) (fun b hb=>hb.1) (outs.map some) rs vs _ (mM outs rs y hy) ⟨hl,hr⟩ (fun id _=>hob id)
    (fun id hid=>by simp only [eO,List.filter_map,rV] at hid; rw [List.filter_eq_nil_iff.2 (by simp)] at hid; simp [AV.idsL] at hid)).1
   simp only [rY,rV,zH,if_false,List.map_id'] at this
   exact .tup _ vs this.len this.rv
  match outs,y,hq with
  | [s],y,hq=>
   simp only [ap] at hq
   split at hq
   ·rename_i x hx
    cases hq
    exact uD hx hrv (fun b hb=>hb.1) (fun id _=>hob id)
   ·cases hq
  | [],y,hq=>
   simp only [ap] at hq
   cases r with
   | tup rs=>exact htup [] y _ hq hrv
   | _=>cases hq
  | s1::s2::ss,y,hq=>
   simp only [ap] at hq
   cases r with
   | tup rs=>exact htup _ y _ hq hrv
   | _=>cases hq
 ·simp [be]
 ·obtain ⟨_,v,hv,_⟩:=o
  cases hv
 ·obtain ⟨_,v,hv,_⟩:=o
  cases hv
 ·rw [hC id] at hv; cases hv

theorem nK {E:bt} {C:cH} {k:FuncId} {f:Func} {Q:AV→List AO→Prop} {n n0:Nat} (hE:zl E) (hf:zA E.P k f n) (hC:∀ id,n0≤id→C.ρ0 id=none) {keep:Nat→ah} {fuel:Nat}
  {todo:List Item} {st:St} {l:zt} (h:(run E n0 keep f.results.toList fuel todo st).val=some l) (hl:ix E C k Q l):Reach E C k todo st Q:=
 cM hE hf hC keep fuel (Tr.sat_of_val h hl)

def M3 (ks outs:List Sh) (g:zw (ks.map some)→Option (zw (outs.map some))):cF (ks.map some):=fun x h=>match h with
 | []=>match g x with
  | some y=>.ok (sB outs y,[])
  | none=>.err
 | _=>.err

def o7 (ks outs:List Sh) (g:zw (ks.map some)→Option (zw (outs.map some))):zF:=zU (ks.map some) (M3 ks outs g)

theorem qJ {P:Program} {gl:Nat→AV} {E:bt} {k:FuncId} {f:Func} {ks outs:List Sh} {g:zw (ks.map some)→Option (zw (outs.map some))} (hf:zA E.P k f ks.length)
  (h:∀ x y,g x=some y→∀ C:cH,(∀ id,C.ρ0 id=none)→Reach E C k (aB f) (aq f.ntmps (gz (ks.map some) x) []) (fun r h=>ap h outs r=some y)) (qp:E.P=P:=by rfl) (qg:E.gl=gl:=by rfl):mf P gl k (o7 ks outs g):=by
 subst qp qg
 refine bA (by simpa using hf) fun x h0 res hx C hC=>?_
 unfold M3 at hx
 split at hx
 ·split at hx
  ·rename_i y hy
   simp only [Tr.val_ok,ao] at hx
   subst hx
   exact Reach.plain (fun id=>hC id (by simp)) (h x y hy C (fun id=>hC id (by simp)))
  ·simp at hx
 ·simp at hx

noncomputable abbrev bt.aut (E:bt) (k:Nat) (f:Func) (n:Nat):bt:=E.add k (zU (List.replicate n none) (bZ E f (List.replicate n none)))

theorem iI {E:bt} {k:Nat} {f:Func} {n:Nat} (hE:zl E) (hf:zA E.P k f n):zl (E.aut k f n):=
 hE.add (au _ hE (by simpa using hf))

open Go Go.Proofs

theorem Reach.len {E:bt} {C:cH} {fn:FuncId} {todo:List Item} {st:St} {Q:AV→List AO→Prop} (j:Nat) (e:Sh) (l:List (Sem e)) (hj:st.tmps[j]?=some (.sl e l)) (h:l.length≤zC→Reach E C fn todo st Q):Reach E C fn todo st Q:=by
 intro b cs a w U ρ h1 h2 hc hW
 refine h ?_ b cs a w U ρ h1 h2 hc hW
 have hlt:j < a.tmps.toList.length:=by rw [← hc.tm.len]; exact (bM.1 hj).1
 have:=hc.tm.rv j _ _ hj (zJ hlt)
 generalize a.tmps.toList[j]=v at this
 cases this with
 | sl0=>simp
 | sl _ _ _ _ _ _ _ hm=>exact hm

theorem zD (i:Nat) (h:i < zC):IntKind.i64.wrap (↑i+1)=((i+1:Nat):Int):=by
 have:zC=9223372036854775807:=rfl
 rw [ue]
 omega

theorem ac {α:Type} (l:List α) (d:α) {i:Nat} (h:i < l.length):l.getD (i:Int).toNat d=l[i]:=by
 simp [h]

def zL {α:Type} (p:α→Bool):List α→Nat→Int
 | [],_=>-1
 | x::r,i=>if p x then i else zL p r (i+1)

noncomputable def A0:bt:=(VD.aut 127 Tryz.f127 2).aut 209 Tryz.f209 2
theorem my:zl A0:=by
 refine iI (iI CU ?_) ?_ <;> (refine ⟨?_,?_,?_,?_⟩ <;> kernel_rfl)

abbrev Dq:Nat→ah:=fun _=>{slots:=[0,1,7,8]}
theorem MI:zA A0.P 126 Tryz.f126 2:=aQ (by kernel_rfl)
abbrev tL (l:List (Sem zi)) (s:zo) (i:Int):St:={
    tmps:=
     (tm 19 [(0,AV.sl (Sh.str.pr ((Sh.int IntKind.i64).pr Sh.bool)) l),(1,AV.clo (Fn.func 127) [] [AV.ptr 0 0]),(7,AV.int .i64 ↑l.length),(8,AV.int .i64 i)]),
    heap:=[AO.box [AV.str s]] }

theorem PU (l:List (Sem zi)) (s:zo):run A0 1 Dq Tryz.f126.results.toList 300 (aB Tryz.f126) (aq Tryz.f126.ntmps [.sl zi l,.clo (.func 127) [] [.ptr 0 0]] [.box [.str s]])=.ok (.head 2 (zy Tryz.f126 2) (tL l s 0)):=by kernel_rfl

theorem Ql (l:List (Sem zi)) (s:zo) (i:Int):run A0 1 Dq Tryz.f126.results.toList 300 (zy Tryz.f126 2) (tL l s i)=
 Tr.br (decide (i < ↑l.length))
  (Tr.chk (zI i l.length)
   (Tr.br ((l.getD i.toNat (zj (Sh.str.pr ((Sh.int IntKind.i64).pr Sh.bool)))).1==s)
    (Tr.ok (zt.ret (AV.int .i64 i) [AO.box [AV.str s]]))
    (Tr.ok (zt.head 2 (zy Tryz.f126 2) (tL l s (IntKind.i64.wrap (i+1)))))))
  (Tr.ok (zt.ret (AV.int .i64 (-1)) [AO.box [AV.str s]])):=by kernel_rfl

theorem Gy {C:cH} (hC:∀ id,1≤id→C.ρ0 id=none) (l:List (Sem zi)) (s:zo) (hl:l.length≤zC):∀ (n i:Nat),l.length - i=n→i≤l.length→
  Reach A0 C 126 (zy Tryz.f126 2) (tL l s i) (fun r h=>(r,h)=(.int .i64 (zL (fun c=>c.1==s) (l.drop i) i),[.box [.str s]]))
 | n,i,hn,hi=>by
  subst hn
  refine cM my MI hC Dq 300 ?_
  rw [Ql]
  refine ⟨fun h=>⟨?_,fun hc=>?_,fun hc=>?_⟩,fun h=>?_⟩
  ·simp only [ae] at h
   simp [zI]; omega
  ·simp only [ae] at h
   have hlt:i < l.length:=by omega
   rw [ac l _ hlt] at hc
   rw [dw hlt]
   simp only [zL]
   rw [if_pos hc]
   rfl
  ·simp only [ae] at h
   have hlt:i < l.length:=by omega
   rw [ac l _ hlt] at hc
   rw [dw hlt]
   simp only [zL]
   rw [if_neg (by rw [hc]; simp),zD i (by omega)]
   exact Gy hC l s hl (l.length - (i+1)) (i+1) rfl (by omega)
  ·simp only [decide_eq_false_iff_not] at h
   rw [List.drop_eq_nil_of_le (by omega)]
   rfl
 termination_by n=>n

abbrev tM (l:List (Sem zi)) (s:zo) (i:Int):St:={
    tmps:=
     (tm 19 [(0,AV.sl (Sh.str.pr ((Sh.int IntKind.i64).pr Sh.bool)) l),(1,AV.clo (Fn.func 209) [] [AV.ptr 0 0]),(7,AV.int .i64 ↑l.length),(8,AV.int .i64 i)]),
    heap:=[AO.box [AV.str s]] }

theorem PV (l:List (Sem zi)) (s:zo):run A0 1 Dq Tryz.f126.results.toList 300 (aB Tryz.f126) (aq Tryz.f126.ntmps [.sl zi l,.clo (.func 209) [] [.ptr 0 0]] [.box [.str s]])=.ok (.head 2 (zy Tryz.f126 2) (tM l s 0)):=by kernel_rfl

theorem Qm (l:List (Sem zi)) (s:zo) (i:Int):run A0 1 Dq Tryz.f126.results.toList 300 (zy Tryz.f126 2) (tM l s i)=
 Tr.br (decide (i < ↑l.length))
  (Tr.chk (zI i l.length)
   (Tr.br ((l.getD i.toNat (zj (Sh.str.pr ((Sh.int IntKind.i64).pr Sh.bool)))).1==s)
    (Tr.ok (zt.ret (AV.int .i64 i) [AO.box [AV.str s]]))
    (Tr.ok (zt.head 2 (zy Tryz.f126 2) (tM l s (IntKind.i64.wrap (i+1)))))))
  (Tr.ok (zt.ret (AV.int .i64 (-1)) [AO.box [AV.str s]])):=by kernel_rfl

theorem Gz {C:cH} (hC:∀ id,1≤id→C.ρ0 id=none) (l:List (Sem zi)) (s:zo) (hl:l.length≤zC):∀ (n i:Nat),l.length - i=n→i≤l.length→
  Reach A0 C 126 (zy Tryz.f126 2) (tM l s i) (fun r h=>(r,h)=(.int .i64 (zL (fun c=>c.1==s) (l.drop i) i),[.box [.str s]]))
 | n,i,hn,hi=>by
  subst hn
  refine cM my MI hC Dq 300 ?_
  rw [Qm]
  refine ⟨fun h=>⟨?_,fun hc=>?_,fun hc=>?_⟩,fun h=>?_⟩
  ·simp only [ae] at h
   simp [zI]; omega
  ·simp only [ae] at h
   have hlt:i < l.length:=by omega
   rw [ac l _ hlt] at hc
   rw [dw hlt]
   simp only [zL]
   rw [if_pos hc]
   rfl
  ·simp only [ae] at h
   have hlt:i < l.length:=by omega
   rw [ac l _ hlt] at hc
   rw [dw hlt]
   simp only [zL]
   rw [if_neg (by rw [hc]; simp),zD i (by omega)]
   exact Gz hC l s hl (l.length - (i+1)) (i+1) rfl (by omega)
  ·simp only [decide_eq_false_iff_not] at h
   rw [List.drop_eq_nil_of_le (by omega)]
   rfl
 termination_by n=>n

def G27:cF [some (.sl zi),none]:=fun x h=>match x,h with
 | (l,.clo (.func 127) [] [.ptr 0 0],_),[.box [.str s]]=>.ok (.int .i64 (zL (fun c=>c.1==s) l 0),[.box [.str s]])
 | (l,.clo (.func 209) [] [.ptr 0 0],_),[.box [.str s]]=>.ok (.int .i64 (zL (fun c=>c.1==s) l 0),[.box [.str s]])
 | _,_=>.err

theorem zab:FK 126 (zU [some (.sl zi),none] G27):=by
 refine bA MI fun x h0 res hx C hC=>?_
 unfold G27 at hx
 split at hx
 ·simp only [Tr.val_ok,ao] at hx
  subst hx
  rename_i _ _ l u s
  refine Reach.len 0 zi l rfl fun hl=>?_
  have e:gz [some (.sl zi),none] (l,.clo (.func 127) [] [.ptr 0 0],u)=[.sl zi l,.clo (.func 127) [] [.ptr 0 0]]:=rfl
  rw [e]
  refine cM (n0:=1) my MI hC Dq 300 ?_
  rw [PU]
  exact Gy hC l s hl _ 0 rfl (by omega)
 ·simp only [Tr.val_ok,ao] at hx
  subst hx
  rename_i _ _ l u s
  refine Reach.len 0 zi l rfl fun hl=>?_
  have e:gz [some (.sl zi),none] (l,.clo (.func 209) [] [.ptr 0 0],u)=[.sl zi l,.clo (.func 209) [] [.ptr 0 0]]:=rfl
  rw [e]
  refine cM (n0:=1) my MI hC Dq 300 ?_
  rw [PV]
  exact Gz hC l s hl _ 0 rfl (by omega)
 ·simp at hx

noncomputable def KP:bt:=A0.add 126 (zU [some (.sl zi),none] G27)
theorem uV:zl KP:=my.add zab
noncomputable def zb7:bt:=(KP.add 73 (zU [some zx,some .str] (bZ KP Tryz.f73 [some zx,some .str]))).add 148 (zU [some (.sl zi),some .str] (bZ KP Tryz.f148 [some (.sl zi),some .str]))
theorem KQ:zl zb7:=by
 refine (uV.add (au _ uV ?_)).add (au (E:=KP) _ uV ?_) <;> (refine ⟨?_,?_,?_,?_⟩ <;> kernel_rfl)
end Cad
