/- The program's environment: shapes, and the way functions are added. Functions from plain data to plain data. Places of columns. -/
import Derived.Test.YtiefilkilbdpgaaGreatDoorL05
import Derived.Test.YtiefilkilbdpgaaGreatDoorProg
namespace Cad
open Go

abbrev zg:Sh:=.int .i64
abbrev zf:Sh:=.pr (.int .i64) (.pr (.int .i64) .str)
abbrev zi:Sh:=.pr .str (.pr (.int .i64) .bool)
abbrev zq:Sh:=.pr (.int .i64) .str
abbrev zw:Sh:=.pr .str (.pr (.sl zi) (.pr (.int .i64) (.pr (.sl (.int .i64)) (.pr (.sl zq) .expr))))

abbrev zh:Sh:=.pr zw (.sl (.sl zf))

def YU:Nat→Option Sh
 | 3=>some (.int .i64)
 | 34=>some zf
 | 37=>some .expr
 | 56=>some zi
 | 117=>some zq
 | 9=>some .str
 | 5=>some (.int .u8)
 | 205=>some (.pr (.int .i64) .str)
 | 78=>some (.pr .str .str)
 | 64=>some (.pr .str .expr)
 | 38=>some (.sl zf)
 | 54=>some (zh)
 | _=>none

abbrev jN:List Int:=[1,10,100,1000,10000,100000,1000000,10000000,100000000,1000000000,10000000000,100000000000,1000000000000,10000000000000,100000000000000,1000000000000000,10000000000000000,100000000000000000,1000000000000000000,10000000000000000000]

def JR:Nat→AV
 | 0=>.eptr [.str [73,78,84],.str [84,69,88,84],.str [66,79,79,76]] 0
 | 2=>.gint
 | 5=>.tab .u64 jN
 | _=>.any

abbrev FK (k:FuncId) (F:zD):Prop:=lL Go.Proofs.Tryz.prog JR k F

noncomputable def WQ:bq:={ P:=Go.Proofs.Tryz.prog,sh:=YU,gl:=JR,F:=fun _=>none }

def bq.add (E:bq) (k:FuncId) (F:zD):bq:={ E with F:=fun j=>if j=k then some F else E.F j }

theorem zm.add {E:bq} {k:FuncId} {F:zD} (h:zm E) (hk:lL E.P E.gl k F):zm (E.add k F) where
 sh:=h.sh
 fs:=fun j F' hj=>by
  simp only [bq.add] at hj
  split at hj
  ·rename_i e; cases hj; rw [e]; exact hk
  ·exact h.fs j F' hj
 mix:=h.mix

def H4:List (Nat×zD)→Nat→Option zD→Option zD
 | [],_,d=>d
 | p::r,j,d=>if j=p.1 then some p.2 else H4 r j d
def bq.addL (E:bq) (l:List (Nat×zD)):bq:={ E with F:=fun j=>H4 l j (E.F j) }
def KT (P:Program) (gl:Nat→AV):List (Nat×zD)→Prop
 | []=>True
 | p::r=>lL P gl p.1 p.2∧KT P gl r
theorem gZ {P:Program} {gl:Nat→AV}:KT P gl []:=trivial
theorem fc {P:Program} {gl:Nat→AV} {k:Nat} {F:zD} {r:List (Nat×zD)} (h:lL P gl k F) (t:KT P gl r):KT P gl ((k,F)::r):=⟨h,t⟩
theorem zm.addL {E:bq} (h:zm E) {l:List (Nat×zD)} (hl:KT E.P E.gl l):zm (E.addL l) where
 sh:=h.sh
 fs:=by
  intro k F
  show H4 l k (E.F k)=some F→lL E.P E.gl k F
  induction l with
  | nil=>exact h.fs k F
  | cons p r ih=>
   intro hk
   rw [H4] at hk
   split at hk
   ·rename_i e; cases hk; rw [e]; exact hl.1
   ·exact ih hl.2 hk
 mix:=h.mix

def ja (key:Nat):Nat→Code→List Item→Option (List Item)
 | 0,_,_=>none
 | n+1,c,k=>match c with
  | .seq a b=>match ja key n a (.code b::k) with
   | some r=>some r
   | none=>ja key n b k
  | .cond _ a b=>match ja key n a k with
   | some r=>some r
   | none=>ja key n b k
  | .block id c=>ja key n c (.inBlock id::k)
  | .loop c=>if dn c=key then some (.code c::.inLoop c::k) else ja key n c (.inLoop c::k)
  | .region id _ _=>if id+500000=key then some k else none
  | _=>none

def zy (f:Func) (key:Nat):List Item:=match f.body with
 | some c=>(ja key 1000 c []).getD []
 | none=>[]

def aA (f:Func):List Item:=match f.body with
 | some c=>[.code c]
 | none=>[]

theorem XX:WQ.P.follows .mixedOrders=true:=by kernel_rfl

def Zb:Nat→zY:=fun _=>{ unroll:=true }

def bU (E:bq) (f:Func) (ks:List (Option Sh)):cz ks:=fun x h=>
 (run E h.length Zb f.results.toList 4000 (aA f) (af f.ntmps (gm ks x) h)).bind fun
  | .ret v h'=>.ok (v,h')
  | _=>.err

theorem Tr.sat_of_val {α:Type} {Φ:α→Prop}:∀ {t:Tr α} {a:α},t.val=some a→Φ a→t.Sat Φ
 | .err,_,h,_=>by simp at h
 | .chk c t,a,h,ha=>by
  cases c
  ·simp [Tr.val] at h
  ·exact ⟨rfl,sat_of_val (t:=t) (by simpa [Tr.val] using h) ha⟩
 | .br c t f,a,h,ha=>by
  cases c
  ·exact ⟨fun h=>(by cases h),fun _=>sat_of_val (t:=f) (by simpa [Tr.val] using h) ha⟩
  ·exact ⟨fun _=>sat_of_val (t:=t) (by simpa [Tr.val] using h) ha,fun h=>(by cases h)⟩
 | .ok b,a,h,ha=>by simp [Tr.val] at h; subst h; exact ha

def zA (P:Program) (k:FuncId) (f:Func) (n:Nat):Prop:=P.funcs[k]?=some f∧(f.name == "runtime.NumGoroutine")=false∧f.body.isNone=false∧decide (n≤f.ntmps)=true

theorem aL {P:Program} {k:FuncId} {f:Func} {n:Nat} (h:(P.funcs[k]?,f.name == "runtime.NumGoroutine",f.body.isNone,decide (n≤f.ntmps))=(some f,false,false,true)):zA P k f n:=by
 simp only [bv] at h
 exact ⟨h.1,h.2.1,h.2.2.1,h.2.2.2⟩

theorem oq:∀ (ks:List (Option Sh)) (x:zx ks),(gm ks x).length=ks.length
 | [],_=>rfl
 | some _::ks,x=>by simp [gm,oq ks x.2]
 | none::ks,x=>by simp [gm,oq ks x.2]

theorem cB {E:bq} {C:cr} {k:FuncId} {f:Func} {Q:AV→List AO→Prop} {n n0:Nat} (hE:zm E) (hf:zA E.P k f n) (hC:∀ id,n0≤id→C.ρ0 id=none) (keep:Nat→zY) (fuel:Nat)
  {todo:List Item} {st:St} (h:(run E n0 keep f.results.toList fuel todo st).Sat (g7 E C k Q)):Reach E C k todo st Q:=
 AS hE hf.1 hC rfl fuel _ _ h

theorem Qn {E:bq} {k:FuncId} {f:Func} {Q:AV→List AO→Prop} {args:List AV} {h0:List AO} (hf:zA E.P k f args.length)
  (h:∀ C:cr,(∀ id,h0.length≤id→C.ρ0 id=none)→Reach E C k (aA f) (af f.ntmps args h0) Q):O0 E k args h0 Q:=by
 obtain ⟨h1,h2,h3,h4⟩:=hf
 cases hb:f.body with
 | none=>rw [hb] at h3; cases h3
 | some c=>
  refine ⟨f,c,h1,hb,h2,dH h4,fun C hC=>?_⟩
  have:=h C hC
  simpa [aA,hb] using this

theorem bt {P:Program} {gl:Nat→AV} {E:bq} {k:FuncId} {f:Func} {ks:List (Option Sh)} {G:cz ks} (hf:zA E.P k f ks.length)
  (h:∀ x h0 res,(G x h0).val=some res→∀ C:cr,(∀ id,h0.length≤id→C.ρ0 id=none)→Reach E C k (aA f) (af f.ntmps (gm ks x) h0) (fun r h=>(r,h)=res)) (qp:E.P=P:=by rfl) (qg:E.gl=gl:=by rfl):lL P gl k (zS ks G):=by
 subst qp qg
 exact KY ⟨f,hf.1,hf.2.1,hf.2.2.1⟩ fun x h0 res hx=>Qn (by rw [oq]; exact hf) (h x h0 res hx)

theorem ap {P:Program} {gl:Nat→AV} {E:bq} {k:FuncId} {f:Func} (ks:List (Option Sh)) (hE:zm E) (hf:zA E.P k f ks.length) (qp:E.P=P:=by rfl) (qg:E.gl=gl:=by rfl):lL P gl k (zS ks (bU E f ks)):=by
 subst qp qg
 refine bt hf fun x h0 res hx C hC=>cB hE hf hC Zb 4000 ?_
 unfold bU at hx
 simp only [Tr.val_bind,eS] at hx
 obtain ⟨l,hl,hres⟩:=hx
 refine Tr.sat_of_val hl ?_
 cases l with
 | ret v h'=>simp at hres; exact hres
 | head _ _ _=>simp at hres
 | fork _ _ _ _=>simp at hres

def Uw (P:Program) (t:TypeId) (e:Sh):Bool:=match P.info? t with
 | some i=>i.size==e.size&&decide (0 < e.size)&&decide (i.bytes≤131072)&&(match i.zero with | some z=>z.cells.size==i.size | none=>false)
 | none=>false

theorem OD {P:Program} {t:TypeId} {e:Sh} (h:Uw P t e=true):∃ i z,P.info? t=some i∧i.size=e.size∧0 < e.size∧i.bytes≤131072∧i.zero=some z∧z.cells.size=i.size:=by
 unfold Uw at h
 split at h
 ·rename_i i hi
  simp only [aG,zW,ej] at h
  obtain ⟨⟨⟨h1,h2⟩,h3⟩,h4⟩:=h
  split at h4
  ·rename_i z hz
   exact ⟨i,z,hi,h1,h2,h3,hz,by simpa using h4⟩
  ·cases h4
 ·cases h

theorem Lv:zm WQ where
 sh:=by
  intro t e h
  have hh:YU t=some e:=h
  unfold YU at hh
  split at hh
  all_goals first
   | (cases hh; exact OD (by kernel_rfl))
   | cases hh
 fs:=by intro k F h; cases h
 mix:=XX

abbrev rn (E:bq) (n:Nat) (kp:Nat→zY) (f:Func) (a:List AV) (h:List AO):Tr zt:=run E n kp (Func.results f).toList 400 (aA f) (af (Func.ntmps f) a h)
abbrev rh (E:bq) (n:Nat) (kp:Nat→zY) (f:Func) (k:Nat) (s:St):Tr zt:=run E n kp (Func.results f).toList 400 (zy f k) s

def ix (h:List AO):Nat→AO:=fun j=>h.getD j .dead

def zfU (h:List AO) (outs:List Sh):AV→Option (zx (outs.map some))
 | .tup rs=>jC (ix h) (fun i=>i) (outs.map some) rs
 | _=>none

def ae (h:List AO):(outs:List Sh)→AV→Option (zx (outs.map some))
 | [s],r=>match r5 (ix h) s r with
  | some y=>some (y,())
  | none=>none
 | [],r=>zfU h [] r
 | s1::s2::ss,r=>zfU h (s1::s2::ss) r

def sE:(outs:List Sh)→zx (outs.map some)→AV
 | [s],y=>zz s y.1
 | outs,y=>.tup (gm (outs.map some) y)

theorem mv {hp:Nat→AO} {f:Nat→Nat}:∀ (ss:List Sh) (args:List AV) (x:zx (ss.map some)),jC hp f (ss.map some) args=some x→bB hp (ss.map some) args=some ((gm (ss.map some) x).map fun a=>(false,a))
 | [],[],_,_=>rfl
 | s::ss,a::as',x,h=>by
  have h':jC hp f (some s::ss.map some) (a::as')=some x:=h
  show bB hp (some s::ss.map some) (a::as')=_
  unfold jC at h'
  unfold bB
  split at h'
  ·rename_i y r hy hr
   cases h'
   rw [hy,mv ss as' r hr]
   rfl
  ·cases h'
 | [],_::_,_,h=>by simp [jC] at h
 | _::_,[],_,h=>by simp [jC] at h

theorem Reach.plain {E:bq} {C:cr} {fn:FuncId} {todo:List Item} {st:St} {outs:List Sh} {y:zx (outs.map some)} (hC:∀ id,C.ρ0 id=none)
  (h:Reach E C fn todo st (fun r h=>ae h outs r=some y)):Reach E C fn todo st (fun r h=>(r,h)=(sE outs y,[])):=by
 intro b cs a w U ρ h1 h2 hc hW
 obtain ⟨e,w',fr,⟨v,r,h',U',ρ',he,hq,hrv,hH,hnew,hr0,hWd⟩,hcm,hf,hl⟩:=h b cs a w U ρ h1 h2 hc hW
 refine ⟨e,w',fr,⟨v,_,_,fun b=>U' b∧b < C.w0.heap.size∧¬ C.B0 b,fun _=>none,he,rfl,?_,⟨fun id=>?_,fun id1 id2 b o=>?_,fun id b o=>?_⟩,fun _ _=>rfl,fun id v hv=>?_,⟨hWd.ext,hWd.same,fun b hb=>hWd.ub b hb.1,fun b hb hu=>hWd.u1 b hb hu.1,fun b hb hu hn=>⟨hWd.u2 b hb hu hn,hb,hn⟩,fun g=>(hWd.gl g).weak fun b hb=>hb.1⟩⟩,hcm,hf,hl⟩
 ·have hob:∀ id,bb w' U' ρ' id (ix h' id)∧∀ b,zO ρ' id (ix h' id) b→¬ (U' b∧b < C.w0.heap.size∧¬ C.B0 b):=by
   intro id
   refine ⟨hH.ob id,fun b ho hu=>?_⟩
   rcases hH.blk id b ho with hB | hB
   ·exact hu.2.2 hB
   ·omega
  have htup:∀ (outs:List Sh) (y:zx (outs.map some)) (rs:List AV),jC (ix h') (fun i=>i) (outs.map some) rs=some y→Rv w' U' ρ' (.tup rs) v→Rv w' (fun b=>U' b∧b < C.w0.heap.size∧¬ C.B0 b) (fun _=>none) (.tup (gm (outs.map some) y)) v:=by
   intro outs y rs hy hrv
   cases hrv with
   | tup _ vs hl hr=>
   have:=(gU (w:=w') (U:=U') (ρ:=ρ') (U':=fun b=>U' b∧b < C.w0.heap.size∧¬ C.B0 b) (ρ':=fun _=>none) (hp:=ix h') (f:=fun i=>i) (fun b hb=>hb.1) (outs.map some) rs vs _ (mv outs rs y hy) ⟨hl,hr⟩ (fun id _=>hob id)
    (fun id hid=>by simp only [eM,List.filter_map,rX] at hid; rw [List.filter_eq_nil_iff.2 (by simp)] at hid; simp [AV.idsL] at hid)).1
   simp only [rZ,rX,zN,if_false,List.map_id'] at this
   exact .tup _ vs this.len this.rv
  match outs,y,hq with
  | [s],y,hq=>
   simp only [ae] at hq
   split at hq
   ·rename_i x hx
    cases hq
    exact uP hx hrv (fun b hb=>hb.1) (fun id _=>hob id)
   ·cases hq
  | [],y,hq=>
   simp only [ae] at hq
   cases r with
   | tup rs=>exact htup [] y _ hq hrv
   | _=>cases hq
  | s1::s2::ss,y,hq=>
   simp only [ae] at hq
   cases r with
   | tup rs=>exact htup _ y _ hq hrv
   | _=>cases hq
 ·simp [bb]
 ·obtain ⟨_,v,hv,_⟩:=o
  cases hv
 ·obtain ⟨_,v,hv,_⟩:=o
  cases hv
 ·rw [hC id] at hv; cases hv

theorem nt {E:bq} {C:cr} {k:FuncId} {f:Func} {Q:AV→List AO→Prop} {n n0:Nat} (hE:zm E) (hf:zA E.P k f n) (hC:∀ id,n0≤id→C.ρ0 id=none) {keep:Nat→zY} {fuel:Nat}
  {todo:List Item} {st:St} {l:zt} (h:(run E n0 keep f.results.toList fuel todo st).val=some l) (hl:g7 E C k Q l):Reach E C k todo st Q:=
 cB hE hf hC keep fuel (Tr.sat_of_val h hl)

def NO (ks outs:List Sh) (g:zx (ks.map some)→Option (zx (outs.map some))):cz (ks.map some):=fun x h=>match h with
 | []=>match g x with
  | some y=>.ok (sE outs y,[])
  | none=>.err
 | _=>.err

def oP (ks outs:List Sh) (g:zx (ks.map some)→Option (zx (outs.map some))):zD:=zS (ks.map some) (NO ks outs g)

theorem qH {P:Program} {gl:Nat→AV} {E:bq} {k:FuncId} {f:Func} {ks outs:List Sh} {g:zx (ks.map some)→Option (zx (outs.map some))} (hf:zA E.P k f ks.length)
  (h:∀ x y,g x=some y→∀ C:cr,(∀ id,C.ρ0 id=none)→Reach E C k (aA f) (af f.ntmps (gm (ks.map some) x) []) (fun r h=>ae h outs r=some y)) (qp:E.P=P:=by rfl) (qg:E.gl=gl:=by rfl):lL P gl k (oP ks outs g):=by
 subst qp qg
 refine bt (by simpa using hf) fun x h0 res hx C hC=>?_
 unfold NO at hx
 split at hx
 ·split at hx
  ·rename_i y hy
   simp only [Tr.val_ok,aq] at hx
   subst hx
   exact Reach.plain (fun id=>hC id (by simp)) (h x y hy C (fun id=>hC id (by simp)))
  ·simp at hx
 ·simp at hx

noncomputable abbrev bq.aut (E:bq) (k:Nat) (f:Func) (n:Nat):bq:=E.add k (zS (List.replicate n none) (bU E f (List.replicate n none)))

theorem iq {E:bq} {k:Nat} {f:Func} {n:Nat} (hE:zm E) (hf:zA E.P k f n):zm (E.aut k f n):=
 hE.add (ap _ hE (by simpa using hf))

open Go Go.Proofs

theorem Reach.len {E:bq} {C:cr} {fn:FuncId} {todo:List Item} {st:St} {Q:AV→List AO→Prop} (j:Nat) (e:Sh) (l:List (Sem e)) (hj:st.tmps[j]?=some (.sl e l)) (h:l.length≤zE→Reach E C fn todo st Q):Reach E C fn todo st Q:=by
 intro b cs a w U ρ h1 h2 hc hW
 refine h ?_ b cs a w U ρ h1 h2 hc hW
 have hlt:j < a.tmps.toList.length:=by rw [← hc.tm.len]; exact (bP.1 hj).1
 have:=hc.tm.rv j _ _ hj (zI hlt)
 generalize a.tmps.toList[j]=v at this
 cases this with
 | sl0=>simp
 | sl _ _ _ _ _ _ _ hm=>exact hm

theorem zH (i:Nat) (h:i < zE):IntKind.i64.wrap (↑i+1)=((i+1:Nat):Int):=by
 have:zE=9223372036854775807:=rfl
 rw [ul]
 omega

theorem ac {α:Type} (l:List α) (d:α) {i:Nat} (h:i < l.length):l.getD (i:Int).toNat d=l[i]:=by
 simp [h]

def zR {α:Type} (p:α→Bool):List α→Nat→Int
 | [],_=>-1
 | x::r,i=>if p x then i else zR p r (i+1)

noncomputable def BE:bq:=(WQ.aut 127 Tryz.f127 2).aut 209 Tryz.f209 2
theorem mc:zm BE:=by
 refine iq (iq Lv ?_) ?_ <;> (refine ⟨?_,?_,?_,?_⟩ <;> kernel_rfl)

abbrev Ec:Nat→zY:=fun _=>{slots:=[0,1,7,8]}
theorem Ns:zA BE.P 126 Tryz.f126 2:=aL (by kernel_rfl)
abbrev tO (l:List (Sem zi)) (s:zl) (i:Int):St:={
    tmps:=
     (tm 19 [(0,AV.sl (Sh.str.pr ((Sh.int IntKind.i64).pr Sh.bool)) l),(1,AV.clo (Fn.func 127) [] [AV.ptr 0 0]),(7,AV.int .i64 ↑l.length),(8,AV.int .i64 i)]),
    heap:=[AO.box [AV.str s]] }

theorem QO (l:List (Sem zi)) (s:zl):run BE 1 Ec Tryz.f126.results.toList 300 (aA Tryz.f126) (af Tryz.f126.ntmps [.sl zi l,.clo (.func 127) [] [.ptr 0 0]] [.box [.str s]])=.ok (.head 2 (zy Tryz.f126 2) (tO l s 0)):=by kernel_rfl

theorem Rg (l:List (Sem zi)) (s:zl) (i:Int):run BE 1 Ec Tryz.f126.results.toList 300 (zy Tryz.f126 2) (tO l s i)=
 Tr.br (decide (i < ↑l.length))
  (Tr.chk (zF i l.length)
   (Tr.br ((l.getD i.toNat (zj (Sh.str.pr ((Sh.int IntKind.i64).pr Sh.bool)))).1==s)
    (Tr.ok (zt.ret (AV.int .i64 i) [AO.box [AV.str s]]))
    (Tr.ok (zt.head 2 (zy Tryz.f126 2) (tO l s (IntKind.i64.wrap (i+1)))))))
  (Tr.ok (zt.ret (AV.int .i64 (-1)) [AO.box [AV.str s]])):=by kernel_rfl

theorem Hu {C:cr} (hC:∀ id,1≤id→C.ρ0 id=none) (l:List (Sem zi)) (s:zl) (hl:l.length≤zE):∀ (n i:Nat),l.length - i=n→i≤l.length→
  Reach BE C 126 (zy Tryz.f126 2) (tO l s i) (fun r h=>(r,h)=(.int .i64 (zR (fun c=>c.1==s) (l.drop i) i),[.box [.str s]]))
 | n,i,hn,hi=>by
  subst hn
  refine cB mc Ns hC Ec 300 ?_
  rw [Rg]
  refine ⟨fun h=>⟨?_,fun hc=>?_,fun hc=>?_⟩,fun h=>?_⟩
  ·simp only [zW] at h
   simp [zF]; omega
  ·simp only [zW] at h
   have hlt:i < l.length:=by omega
   rw [ac l _ hlt] at hc
   rw [dB hlt]
   simp only [zR]
   rw [if_pos hc]
   rfl
  ·simp only [zW] at h
   have hlt:i < l.length:=by omega
   rw [ac l _ hlt] at hc
   rw [dB hlt]
   simp only [zR]
   rw [if_neg (by rw [hc]; simp),zH i (by omega)]
   exact Hu hC l s hl (l.length - (i+1)) (i+1) rfl (by omega)
  ·simp only [decide_eq_false_iff_not] at h
   rw [yr (by omega)]
   rfl
 termination_by n=>n

abbrev tP (l:List (Sem zi)) (s:zl) (i:Int):St:={
    tmps:=
     (tm 19 [(0,AV.sl (Sh.str.pr ((Sh.int IntKind.i64).pr Sh.bool)) l),(1,AV.clo (Fn.func 209) [] [AV.ptr 0 0]),(7,AV.int .i64 ↑l.length),(8,AV.int .i64 i)]),
    heap:=[AO.box [AV.str s]] }

theorem QP (l:List (Sem zi)) (s:zl):run BE 1 Ec Tryz.f126.results.toList 300 (aA Tryz.f126) (af Tryz.f126.ntmps [.sl zi l,.clo (.func 209) [] [.ptr 0 0]] [.box [.str s]])=.ok (.head 2 (zy Tryz.f126 2) (tP l s 0)):=by kernel_rfl

theorem Rh (l:List (Sem zi)) (s:zl) (i:Int):run BE 1 Ec Tryz.f126.results.toList 300 (zy Tryz.f126 2) (tP l s i)=
 Tr.br (decide (i < ↑l.length))
  (Tr.chk (zF i l.length)
   (Tr.br ((l.getD i.toNat (zj (Sh.str.pr ((Sh.int IntKind.i64).pr Sh.bool)))).1==s)
    (Tr.ok (zt.ret (AV.int .i64 i) [AO.box [AV.str s]]))
    (Tr.ok (zt.head 2 (zy Tryz.f126 2) (tP l s (IntKind.i64.wrap (i+1)))))))
  (Tr.ok (zt.ret (AV.int .i64 (-1)) [AO.box [AV.str s]])):=by kernel_rfl

theorem Hv {C:cr} (hC:∀ id,1≤id→C.ρ0 id=none) (l:List (Sem zi)) (s:zl) (hl:l.length≤zE):∀ (n i:Nat),l.length - i=n→i≤l.length→
  Reach BE C 126 (zy Tryz.f126 2) (tP l s i) (fun r h=>(r,h)=(.int .i64 (zR (fun c=>c.1==s) (l.drop i) i),[.box [.str s]]))
 | n,i,hn,hi=>by
  subst hn
  refine cB mc Ns hC Ec 300 ?_
  rw [Rh]
  refine ⟨fun h=>⟨?_,fun hc=>?_,fun hc=>?_⟩,fun h=>?_⟩
  ·simp only [zW] at h
   simp [zF]; omega
  ·simp only [zW] at h
   have hlt:i < l.length:=by omega
   rw [ac l _ hlt] at hc
   rw [dB hlt]
   simp only [zR]
   rw [if_pos hc]
   rfl
  ·simp only [zW] at h
   have hlt:i < l.length:=by omega
   rw [ac l _ hlt] at hc
   rw [dB hlt]
   simp only [zR]
   rw [if_neg (by rw [hc]; simp),zH i (by omega)]
   exact Hv hC l s hl (l.length - (i+1)) (i+1) rfl (by omega)
  ·simp only [decide_eq_false_iff_not] at h
   rw [yr (by omega)]
   rfl
 termination_by n=>n

def G27:cz [some (.sl zi),none]:=fun x h=>match x,h with
 | (l,.clo (.func 127) [] [.ptr 0 0],_),[.box [.str s]]=>.ok (.int .i64 (zR (fun c=>c.1==s) l 0),[.box [.str s]])
 | (l,.clo (.func 209) [] [.ptr 0 0],_),[.box [.str s]]=>.ok (.int .i64 (zR (fun c=>c.1==s) l 0),[.box [.str s]])
 | _,_=>.err

theorem za1:FK 126 (zS [some (.sl zi),none] G27):=by
 refine bt Ns fun x h0 res hx C hC=>?_
 unfold G27 at hx
 split at hx
 ·simp only [Tr.val_ok,aq] at hx
  subst hx
  rename_i _ _ l u s
  refine Reach.len 0 zi l rfl fun hl=>?_
  have e:gm [some (.sl zi),none] (l,.clo (.func 127) [] [.ptr 0 0],u)=[.sl zi l,.clo (.func 127) [] [.ptr 0 0]]:=rfl
  rw [e]
  refine cB (n0:=1) mc Ns hC Ec 300 ?_
  rw [QO]
  exact Hu hC l s hl _ 0 rfl (by omega)
 ·simp only [Tr.val_ok,aq] at hx
  subst hx
  rename_i _ _ l u s
  refine Reach.len 0 zi l rfl fun hl=>?_
  have e:gm [some (.sl zi),none] (l,.clo (.func 209) [] [.ptr 0 0],u)=[.sl zi l,.clo (.func 209) [] [.ptr 0 0]]:=rfl
  rw [e]
  refine cB (n0:=1) mc Ns hC Ec 300 ?_
  rw [QP]
  exact Hv hC l s hl _ 0 rfl (by omega)
 ·simp at hx

noncomputable def LH:bq:=BE.add 126 (zS [some (.sl zi),none] G27)
theorem vg:zm LH:=mc.add za1
noncomputable def zcT:bq:=(LH.add 73 (zS [some zw,some .str] (bU LH Tryz.f73 [some zw,some .str]))).add 148 (zS [some (.sl zi),some .str] (bU LH Tryz.f148 [some (.sl zi),some .str]))
theorem LJ:zm zcT:=by
 refine (vg.add (ap _ vg ?_)).add (ap (E:=LH) _ vg ?_) <;> (refine ⟨?_,?_,?_,?_⟩ <;> kernel_rfl)
end Cad
