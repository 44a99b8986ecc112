/- The program's environment: shapes, and the way functions are added. Functions from plain data to plain data. Places of columns. -/
import Derived.Test.YtiefilkilbdpgaaGreatDoorK05
import Derived.Test.YtiefilkilbdpgaaGreatDoorProg
namespace Cad
open Go

abbrev zg:Sh:=.int .i64
abbrev zf:Sh:=.pr (.int .i64) (.pr (.int .i64) .str)
abbrev zi:Sh:=.pr .str (.pr (.int .i64) .bool)
abbrev zo:Sh:=.pr (.int .i64) .str
abbrev zE:Sh:=.pr .str (.pr (.sl zi) (.pr (.int .i64) (.pr (.sl (.int .i64)) (.pr (.sl zo) .expr))))

abbrev zh:Sh:=.pr zE (.sl (.sl zf))

def TY:Nat→Option Sh
 | 3=>some (.int .i64)
 | 34=>some zf
 | 37=>some .expr
 | 56=>some zi
 | 117=>some zo
 | 9=>some .str
 | 5=>some (.int .u8)
 | 205=>some (.pr (.int .i64) .str)
 | 78=>some (.pr .str .str)
 | 64=>some (.pr .str .expr)
 | 38=>some (.sl zf)
 | 54=>some (zh)
 | _=>none

abbrev iT:List Int:=[1,10,100,1000,10000,100000,1000000,10000000,100000000,1000000000,10000000000,100000000000,1000000000000,10000000000000,100000000000000,1000000000000000,10000000000000000,100000000000000000,1000000000000000000,10000000000000000000]

def Gi:Nat→AV
 | 0=>.eptr [.str [73,78,84],.str [84,69,88,84],.str [66,79,79,76]] 0
 | 2=>.gint
 | 5=>.tab .u64 iT
 | _=>.any

abbrev FK (k:FuncId) (F:zB):Prop:=kJ Go.Proofs.Tryz.prog Gi k F

noncomputable def RU:bb:={ P:=Go.Proofs.Tryz.prog,sh:=TY,gl:=Gi,F:=fun _=>none }

def bb.add (E:bb) (k:FuncId) (F:zB):bb:={ E with F:=fun j=>if j=k then some F else E.F j }

theorem zm.add {E:bb} {k:FuncId} {F:zB} (h:zm E) (hk:kJ E.P E.gl k F):zm (E.add k F) where
 sh:=h.sh
 fs:=fun j F' hj=>by
  simp only [bb.add] at hj
  split at hj
  ·rename_i e; cases hj; rw [e]; exact hk
  ·exact h.fs j F' hj
 mix:=h.mix

def EE:List (Nat×zB)→Nat→Option zB→Option zB
 | [],_,d=>d
 | p::r,j,d=>if j=p.1 then some p.2 else EE r j d
def bb.addL (E:bb) (l:List (Nat×zB)):bb:={ E with F:=fun j=>EE l j (E.F j) }
def Hk (P:Program) (gl:Nat→AV):List (Nat×zB)→Prop
 | []=>True
 | p::r=>kJ P gl p.1 p.2∧Hk P gl r
theorem g6 {P:Program} {gl:Nat→AV}:Hk P gl []:=trivial
theorem fc {P:Program} {gl:Nat→AV} {k:Nat} {F:zB} {r:List (Nat×zB)} (h:kJ P gl k F) (t:Hk P gl r):Hk P gl ((k,F)::r):=⟨h,t⟩
theorem zm.addL {E:bb} (h:zm E) {l:List (Nat×zB)} (hl:Hk E.P E.gl l):zm (E.addL l) where
 sh:=h.sh
 fs:=by
  intro k F
  show EE l k (E.F k)=some F→kJ E.P E.gl k F
  induction l with
  | nil=>exact h.fs k F
  | cons p r ih=>
   intro hk
   rw [EE] at hk
   split at hk
   ·rename_i e; cases hk; rw [e]; exact hl.1
   ·exact ih hl.2 hk
 mix:=h.mix

def ib (key:Nat):Nat→Code→List Item→Option (List Item)
 | 0,_,_=>none
 | n+1,c,k=>match c with
  | .seq a b=>match ib key n a (.code b::k) with
   | some r=>some r
   | none=>ib key n b k
  | .cond _ a b=>match ib key n a k with
   | some r=>some r
   | none=>ib key n b k
  | .block id c=>ib key n c (.inBlock id::k)
  | .loop c=>if cV c=key then some (.code c::.inLoop c::k) else ib key n c (.inLoop c::k)
  | .region id _ _=>if id+500000=key then some k else none
  | _=>none

def zw (f:Func) (key:Nat):List Item:=match f.body with
 | some c=>(ib key 1000 c []).getD []
 | none=>[]

def ao (f:Func):List Item:=match f.body with
 | some c=>[.code c]
 | none=>[]

theorem S2:RU.P.follows .mixedOrders=true:=by kernel_rfl

def Ui:Nat→zT:=fun _=>{ unroll:=true }

def bH (E:bb) (f:Func) (ks:List (Option Sh)):cg ks:=fun x h=>
 (run E h.length Ui f.results.toList 4000 (ao f) (zU f.ntmps (fv ks x) h)).bind fun
  | .ret v h'=>.ok (v,h')
  | _=>.err

theorem Tr.sat_of_val {α:Type} {Φ:α→Prop}:∀ {t:Tr α} {a:α},t.val=some a→Φ a→t.Sat Φ
 | .err,_,h,_=>by simp at h
 | .chk c t,a,h,ha=>by
  cases c
  ·simp [Tr.val] at h
  ·exact ⟨rfl,sat_of_val (t:=t) (by simpa [Tr.val] using h) ha⟩
 | .br c t f,a,h,ha=>by
  cases c
  ·exact ⟨fun h=>(by cases h),fun _=>sat_of_val (t:=f) (by simpa [Tr.val] using h) ha⟩
  ·exact ⟨fun _=>sat_of_val (t:=t) (by simpa [Tr.val] using h) ha,fun h=>(by cases h)⟩
 | .ok b,a,h,ha=>by simp [Tr.val] at h; subst h; exact ha

def zz (P:Program) (k:FuncId) (f:Func) (n:Nat):Prop:=P.funcs[k]?=some f∧(f.name == "runtime.NumGoroutine")=false∧f.body.isNone=false∧decide (n≤f.ntmps)=true

theorem aG {P:Program} {k:FuncId} {f:Func} {n:Nat} (h:(P.funcs[k]?,f.name == "runtime.NumGoroutine",f.body.isNone,decide (n≤f.ntmps))=(some f,false,false,true)):zz P k f n:=by
 simp only [bm] at h
 exact ⟨h.1,h.2.1,h.2.2.1,h.2.2.2⟩

theorem mZ:∀ (ks:List (Option Sh)) (x:zu ks),(fv ks x).length=ks.length
 | [],_=>rfl
 | some _::ks,x=>by simp [fv,mZ ks x.2]
 | none::ks,x=>by simp [fv,mZ ks x.2]

theorem ch {E:bb} {C:cd} {k:FuncId} {f:Func} {Q:AV→List AO→Prop} {n n0:Nat} (hE:zm E) (hf:zz E.P k f n) (hC:∀ id,n0≤id→C.ρ0 id=none) (keep:Nat→zT) (fuel:Nat)
  {todo:List Item} {st:St} (h:(run E n0 keep f.results.toList fuel todo st).Sat (gm E C k Q)):Reach E C k todo st Q:=
 xj hE hf.1 hC rfl fuel _ _ h

theorem Mh {E:bb} {k:FuncId} {f:Func} {Q:AV→List AO→Prop} {args:List AV} {h0:List AO} (hf:zz E.P k f args.length)
  (h:∀ C:cd,(∀ id,h0.length≤id→C.ρ0 id=none)→Reach E C k (ao f) (zU f.ntmps args h0) Q):KT E k args h0 Q:=by
 obtain ⟨h1,h2,h3,h4⟩:=hf
 cases hb:f.body with
 | none=>rw [hb] at h3; cases h3
 | some c=>
  refine ⟨f,c,h1,hb,h2,hM h4,fun C hC=>?_⟩
  have:=h C hC
  simpa [ao,hb] using this

theorem bc {P:Program} {gl:Nat→AV} {E:bb} {k:FuncId} {f:Func} {ks:List (Option Sh)} {G:cg ks} (hf:zz E.P k f ks.length)
  (h:∀ x h0 res,(G x h0).val=some res→∀ C:cd,(∀ id,h0.length≤id→C.ρ0 id=none)→Reach E C k (ao f) (zU f.ntmps (fv ks x) h0) (fun r h=>(r,h)=res)) (qp:E.P=P:=by rfl) (qg:E.gl=gl:=by rfl):kJ P gl k (zP ks G):=by
 subst qp qg
 exact Hp ⟨f,hf.1,hf.2.1,hf.2.2.1⟩ fun x h0 res hx=>Mh (by rw [mZ]; exact hf) (h x h0 res hx)

theorem ac {P:Program} {gl:Nat→AV} {E:bb} {k:FuncId} {f:Func} (ks:List (Option Sh)) (hE:zm E) (hf:zz E.P k f ks.length) (qp:E.P=P:=by rfl) (qg:E.gl=gl:=by rfl):kJ P gl k (zP ks (bH E f ks)):=by
 subst qp qg
 refine bc hf fun x h0 res hx C hC=>ch hE hf hC Ui 4000 ?_
 unfold bH at hx
 simp only [Tr.val_bind,dT] at hx
 obtain ⟨l,hl,hres⟩:=hx
 refine Tr.sat_of_val hl ?_
 cases l with
 | ret v h'=>simp at hres; exact hres
 | head _ _ _=>simp at hres
 | fork _ _ _ _=>simp at hres

def PL (P:Program) (t:TypeId) (e:Sh):Bool:=match P.info? t with
 | some i=>i.size==e.size&&decide (0 < e.size)&&decide (i.bytes≤131072)&&(match i.zero with | some z=>z.cells.size==i.size | none=>false)
 | none=>false

theorem KB {P:Program} {t:TypeId} {e:Sh} (h:PL P t e=true):∃ i z,P.info? t=some i∧i.size=e.size∧0 < e.size∧i.bytes≤131072∧i.zero=some z∧z.cells.size=i.size:=by
 unfold PL at h
 split at h
 ·rename_i i hi
  simp only [aE,ah,eG] at h
  obtain ⟨⟨⟨h1,h2⟩,h3⟩,h4⟩:=h
  split at h4
  ·rename_i z hz
   exact ⟨i,z,hi,h1,h2,h3,hz,by simpa using h4⟩
  ·cases h4
 ·cases h

theorem HV:zm RU where
 sh:=by
  intro t e h
  have hh:TY t=some e:=h
  unfold TY at hh
  split at hh
  all_goals first
   | (cases hh; exact KB (by kernel_rfl))
   | cases hh
 fs:=by intro k F h; cases h
 mix:=S2

abbrev rn (E:bb) (n:Nat) (kp:Nat→zT) (f:Func) (a:List AV) (h:List AO):Tr zp:=run E n kp (Func.results f).toList 400 (ao f) (zU (Func.ntmps f) a h)
abbrev rh (E:bb) (n:Nat) (kp:Nat→zT) (f:Func) (k:Nat) (s:St):Tr zp:=run E n kp (Func.results f).toList 400 (zw f k) s

def gG (h:List AO):Nat→AO:=fun j=>h.getD j .dead

def zaJ (h:List AO) (outs:List Sh):AV→Option (zu (outs.map some))
 | .tup rs=>iH (gG h) (fun i=>i) (outs.map some) rs
 | _=>none

def zY (h:List AO):(outs:List Sh)→AV→Option (zu (outs.map some))
 | [s],r=>match p7 (gG h) s r with
  | some y=>some (y,())
  | none=>none
 | [],r=>zaJ h [] r
 | s1::s2::ss,r=>zaJ h (s1::s2::ss) r

def qA:(outs:List Sh)→zu (outs.map some)→AV
 | [s],y=>zy s y.1
 | outs,y=>.tup (fv (outs.map some) y)

theorem lw {hp:Nat→AO} {f:Nat→Nat}:∀ (ss:List Sh) (args:List AV) (x:zu (ss.map some)),iH hp f (ss.map some) args=some x→bn hp (ss.map some) args=some ((fv (ss.map some) x).map fun a=>(false,a))
 | [],[],_,_=>rfl
 | s::ss,a::as',x,h=>by
  have h':iH hp f (some s::ss.map some) (a::as')=some x:=h
  show bn hp (some s::ss.map some) (a::as')=_
  unfold iH at h'
  unfold bn
  split at h'
  ·rename_i y r hy hr
   cases h'
   rw [hy,lw ss as' r hr]
   rfl
  ·cases h'
 | [],_::_,_,h=>by simp [iH] at h
 | _::_,[],_,h=>by simp [iH] at h

theorem Reach.plain {E:bb} {C:cd} {fn:FuncId} {todo:List Item} {st:St} {outs:List Sh} {y:zu (outs.map some)} (hC:∀ id,C.ρ0 id=none)
  (h:Reach E C fn todo st (fun r h=>zY h outs r=some y)):Reach E C fn todo st (fun r h=>(r,h)=(qA outs y,[])):=by
 intro b cs a w U ρ h1 h2 hc hW
 obtain ⟨e,w',fr,⟨v,r,h',U',ρ',he,hq,hrv,hH,hnew,hr0,hWd⟩,hcm,hf,hl⟩:=h b cs a w U ρ h1 h2 hc hW
 refine ⟨e,w',fr,⟨v,_,_,fun b=>U' b∧b < C.w0.heap.size∧¬ C.B0 b,fun _=>none,he,rfl,?_,⟨fun id=>?_,fun id1 id2 b o=>?_,fun id b o=>?_⟩,fun _ _=>rfl,fun id v hv=>?_,⟨hWd.ext,hWd.same,fun b hb=>hWd.ub b hb.1,fun b hb hu=>hWd.u1 b hb hu.1,fun b hb hu hn=>⟨hWd.u2 b hb hu hn,hb,hn⟩,fun g=>(hWd.gl g).weak fun b hb=>hb.1⟩⟩,hcm,hf,hl⟩
 ·have hob:∀ id,aV w' U' ρ' id (gG h' id)∧∀ b,zN ρ' id (gG h' id) b→¬ (U' b∧b < C.w0.heap.size∧¬ C.B0 b):=by
   intro id
   refine ⟨hH.ob id,fun b ho hu=>?_⟩
   rcases hH.blk id b ho with hB | hB
   ·exact hu.2.2 hB
   ·omega
  have htup:∀ (outs:List Sh) (y:zu (outs.map some)) (rs:List AV),iH (gG h') (fun i=>i) (outs.map some) rs=some y→Rv w' U' ρ' (.tup rs) v→Rv w' (fun b=>U' b∧b < C.w0.heap.size∧¬ C.B0 b) (fun _=>none) (.tup (fv (outs.map some) y)) v:=by
   intro outs y rs hy hrv
   cases hrv with
   | tup _ vs hl hr=>
   have:=(f6 (w:=w') (U:=U') (ρ:=ρ') (U':=fun b=>U' b∧b < C.w0.heap.size∧¬ C.B0 b) (ρ':=fun _=>none) (hp:=gG h') (f:=fun i=>i) (fun b hb=>hb.1) (outs.map some) rs vs _ (lw outs rs y hy) ⟨hl,hr⟩ (fun id _=>hob id)
    (fun id hid=>by simp only [dP,List.filter_map,pX] at hid; rw [List.filter_eq_nil_iff.2 (by simp)] at hid; simp [AV.idsL] at hid)).1
   simp only [nD,pX,zR,if_false,List.map_id'] at this
   exact .tup _ vs this.len this.rv
  match outs,y,hq with
  | [s],y,hq=>
   simp only [zY] at hq
   split at hq
   ·rename_i x hx
    cases hq
    exact sy hx hrv (fun b hb=>hb.1) (fun id _=>hob id)
   ·cases hq
  | [],y,hq=>
   simp only [zY] at hq
   cases r with
   | tup rs=>exact htup [] y _ hq hrv
   | _=>cases hq
  | s1::s2::ss,y,hq=>
   simp only [zY] at hq
   cases r with
   | tup rs=>exact htup _ y _ hq hrv
   | _=>cases hq
 ·simp [aV]
 ·obtain ⟨_,v,hv,_⟩:=o
  cases hv
 ·obtain ⟨_,v,hv,_⟩:=o
  cases hv
 ·rw [hC id] at hv; cases hv

theorem mi {E:bb} {C:cd} {k:FuncId} {f:Func} {Q:AV→List AO→Prop} {n n0:Nat} (hE:zm E) (hf:zz E.P k f n) (hC:∀ id,n0≤id→C.ρ0 id=none) {keep:Nat→zT} {fuel:Nat}
  {todo:List Item} {st:St} {l:zp} (h:(run E n0 keep f.results.toList fuel todo st).val=some l) (hl:gm E C k Q l):Reach E C k todo st Q:=
 ch hE hf hC keep fuel (Tr.sat_of_val h hl)

def JU (ks outs:List Sh) (g:zu (ks.map some)→Option (zu (outs.map some))):cg (ks.map some):=fun x h=>match h with
 | []=>match g x with
  | some y=>.ok (qA outs y,[])
  | none=>.err
 | _=>.err

def nl (ks outs:List Sh) (g:zu (ks.map some)→Option (zu (outs.map some))):zB:=zP (ks.map some) (JU ks outs g)

theorem oV {P:Program} {gl:Nat→AV} {E:bb} {k:FuncId} {f:Func} {ks outs:List Sh} {g:zu (ks.map some)→Option (zu (outs.map some))} (hf:zz E.P k f ks.length)
  (h:∀ x y,g x=some y→∀ C:cd,(∀ id,C.ρ0 id=none)→Reach E C k (ao f) (zU f.ntmps (fv (ks.map some) x) []) (fun r h=>zY h outs r=some y)) (qp:E.P=P:=by rfl) (qg:E.gl=gl:=by rfl):kJ P gl k (nl ks outs g):=by
 subst qp qg
 refine bc (by simpa using hf) fun x h0 res hx C hC=>?_
 unfold JU at hx
 split at hx
 ·split at hx
  ·rename_i y hy
   simp only [Tr.val_ok,ae] at hx
   subst hx
   exact Reach.plain (fun id=>hC id (by simp)) (h x y hy C (fun id=>hC id (by simp)))
  ·simp at hx
 ·simp at hx

noncomputable abbrev bb.aut (E:bb) (k:Nat) (f:Func) (n:Nat):bb:=E.add k (zP (List.replicate n none) (bH E f (List.replicate n none)))

theorem gC {E:bb} {k:Nat} {f:Func} {n:Nat} (hE:zm E) (hf:zz E.P k f n):zm (E.aut k f n):=
 hE.add (ac _ hE (by simpa using hf))

open Go Go.Proofs

theorem Reach.len {E:bb} {C:cd} {fn:FuncId} {todo:List Item} {st:St} {Q:AV→List AO→Prop} (j:Nat) (e:Sh) (l:List (Sem e)) (hj:st.tmps[j]?=some (.sl e l)) (h:l.length≤zD→Reach E C fn todo st Q):Reach E C fn todo st Q:=by
 intro b cs a w U ρ h1 h2 hc hW
 refine h ?_ b cs a w U ρ h1 h2 hc hW
 have hlt:j < a.tmps.toList.length:=by rw [← hc.tm.len]; exact (bD.1 hj).1
 have:=hc.tm.rv j _ _ hj (zI hlt)
 generalize a.tmps.toList[j]=v at this
 cases this with
 | sl0=>simp
 | sl _ _ _ _ _ _ _ hm=>exact hm

theorem zG (i:Nat) (h:i < zD):IntKind.i64.wrap (↑i+1)=((i+1:Nat):Int):=by
 have:zD=9223372036854775807:=rfl
 rw [IntKind.wrap_i64]
 omega

theorem zZ {α:Type} (l:List α) (d:α) {i:Nat} (h:i < l.length):l.getD (i:Int).toNat d=l[i]:=by
 simp [h]

def zQ {α:Type} (p:α→Bool):List α→Nat→Int
 | [],_=>-1
 | x::r,i=>if p x then i else zQ p r (i+1)

noncomputable def xV:bb:=(RU.aut 127 Tryz.f127 2).aut 209 Tryz.f209 2
theorem kZ:zm xV:=by
 refine gC (gC HV ?_) ?_ <;> (refine ⟨?_,?_,?_,?_⟩ <;> kernel_rfl)

abbrev Bp:Nat→zT:=fun _=>{slots:=[0,1,7,8]}
theorem Jz:zz xV.P 126 Tryz.f126 2:=aG (by kernel_rfl)
abbrev rC (l:List (Sem zi)) (s:zq) (i:Int):St:={
    tmps:=
     (tm 19 [(0,AV.sl (Sh.str.pr ((Sh.int IntKind.i64).pr Sh.bool)) l),(1,AV.clo (Fn.func 127) [] [AV.ptr 0 0]),(7,AV.int .i64 ↑l.length),(8,AV.int .i64 i)]),
    heap:=[AO.box [AV.str s]] }

theorem MG (l:List (Sem zi)) (s:zq):run xV 1 Bp Tryz.f126.results.toList 300 (ao Tryz.f126) (zU Tryz.f126.ntmps [.sl zi l,.clo (.func 127) [] [.ptr 0 0]] [.box [.str s]])=.ok (.head 2 (zw Tryz.f126 2) (rC l s 0)):=by kernel_rfl

theorem M4 (l:List (Sem zi)) (s:zq) (i:Int):run xV 1 Bp Tryz.f126.results.toList 300 (zw Tryz.f126 2) (rC l s i)=
 Tr.br (decide (i < ↑l.length))
  (Tr.chk (zJ i l.length)
   (Tr.br ((l.getD i.toNat (zj (Sh.str.pr ((Sh.int IntKind.i64).pr Sh.bool)))).1==s)
    (Tr.ok (zp.ret (AV.int .i64 i) [AO.box [AV.str s]]))
    (Tr.ok (zp.head 2 (zw Tryz.f126 2) (rC l s (IntKind.i64.wrap (i+1)))))))
  (Tr.ok (zp.ret (AV.int .i64 (-1)) [AO.box [AV.str s]])):=by kernel_rfl

theorem D5 {C:cd} (hC:∀ id,1≤id→C.ρ0 id=none) (l:List (Sem zi)) (s:zq) (hl:l.length≤zD):∀ (n i:Nat),l.length - i=n→i≤l.length→
  Reach xV C 126 (zw Tryz.f126 2) (rC l s i) (fun r h=>(r,h)=(.int .i64 (zQ (fun c=>c.1==s) (l.drop i) i),[.box [.str s]]))
 | n,i,hn,hi=>by
  subst hn
  refine ch kZ Jz hC Bp 300 ?_
  rw [M4]
  refine ⟨fun h=>⟨?_,fun hc=>?_,fun hc=>?_⟩,fun h=>?_⟩
  ·simp only [ah] at h
   simp [zJ]; omega
  ·simp only [ah] at h
   have hlt:i < l.length:=by omega
   rw [zZ l _ hlt] at hc
   rw [ez hlt]
   simp only [zQ]
   rw [if_pos hc]
   rfl
  ·simp only [ah] at h
   have hlt:i < l.length:=by omega
   rw [zZ l _ hlt] at hc
   rw [ez hlt]
   simp only [zQ]
   rw [if_neg (by rw [hc]; simp),zG i (by omega)]
   exact D5 hC l s hl (l.length - (i+1)) (i+1) rfl (by omega)
  ·simp only [decide_eq_false_iff_not] at h
   rw [List.drop_eq_nil_of_le (by omega)]
   rfl
 termination_by n=>n

abbrev rD (l:List (Sem zi)) (s:zq) (i:Int):St:={
    tmps:=
     (tm 19 [(0,AV.sl (Sh.str.pr ((Sh.int IntKind.i64).pr Sh.bool)) l),(1,AV.clo (Fn.func 209) [] [AV.ptr 0 0]),(7,AV.int .i64 ↑l.length),(8,AV.int .i64 i)]),
    heap:=[AO.box [AV.str s]] }

theorem MH (l:List (Sem zi)) (s:zq):run xV 1 Bp Tryz.f126.results.toList 300 (ao Tryz.f126) (zU Tryz.f126.ntmps [.sl zi l,.clo (.func 209) [] [.ptr 0 0]] [.box [.str s]])=.ok (.head 2 (zw Tryz.f126 2) (rD l s 0)):=by kernel_rfl

theorem M5 (l:List (Sem zi)) (s:zq) (i:Int):run xV 1 Bp Tryz.f126.results.toList 300 (zw Tryz.f126 2) (rD l s i)=
 Tr.br (decide (i < ↑l.length))
  (Tr.chk (zJ i l.length)
   (Tr.br ((l.getD i.toNat (zj (Sh.str.pr ((Sh.int IntKind.i64).pr Sh.bool)))).1==s)
    (Tr.ok (zp.ret (AV.int .i64 i) [AO.box [AV.str s]]))
    (Tr.ok (zp.head 2 (zw Tryz.f126 2) (rD l s (IntKind.i64.wrap (i+1)))))))
  (Tr.ok (zp.ret (AV.int .i64 (-1)) [AO.box [AV.str s]])):=by kernel_rfl

theorem D6 {C:cd} (hC:∀ id,1≤id→C.ρ0 id=none) (l:List (Sem zi)) (s:zq) (hl:l.length≤zD):∀ (n i:Nat),l.length - i=n→i≤l.length→
  Reach xV C 126 (zw Tryz.f126 2) (rD l s i) (fun r h=>(r,h)=(.int .i64 (zQ (fun c=>c.1==s) (l.drop i) i),[.box [.str s]]))
 | n,i,hn,hi=>by
  subst hn
  refine ch kZ Jz hC Bp 300 ?_
  rw [M5]
  refine ⟨fun h=>⟨?_,fun hc=>?_,fun hc=>?_⟩,fun h=>?_⟩
  ·simp only [ah] at h
   simp [zJ]; omega
  ·simp only [ah] at h
   have hlt:i < l.length:=by omega
   rw [zZ l _ hlt] at hc
   rw [ez hlt]
   simp only [zQ]
   rw [if_pos hc]
   rfl
  ·simp only [ah] at h
   have hlt:i < l.length:=by omega
   rw [zZ l _ hlt] at hc
   rw [ez hlt]
   simp only [zQ]
   rw [if_neg (by rw [hc]; simp),zG i (by omega)]
   exact D6 hC l s hl (l.length - (i+1)) (i+1) rfl (by omega)
  ·simp only [decide_eq_false_iff_not] at h
   rw [List.drop_eq_nil_of_le (by omega)]
   rfl
 termination_by n=>n

def G27:cg [some (.sl zi),none]:=fun x h=>match x,h with
 | (l,.clo (.func 127) [] [.ptr 0 0],_),[.box [.str s]]=>.ok (.int .i64 (zQ (fun c=>c.1==s) l 0),[.box [.str s]])
 | (l,.clo (.func 209) [] [.ptr 0 0],_),[.box [.str s]]=>.ok (.int .i64 (zQ (fun c=>c.1==s) l 0),[.box [.str s]])
 | _,_=>.err

theorem V4:FK 126 (zP [some (.sl zi),none] G27):=by
 refine bc Jz fun x h0 res hx C hC=>?_
 unfold G27 at hx
 split at hx
 ·simp only [Tr.val_ok,ae] at hx
  subst hx
  rename_i _ _ l u s
  refine Reach.len 0 zi l rfl fun hl=>?_
  have e:fv [some (.sl zi),none] (l,.clo (.func 127) [] [.ptr 0 0],u)=[.sl zi l,.clo (.func 127) [] [.ptr 0 0]]:=rfl
  rw [e]
  refine ch (n0:=1) kZ Jz hC Bp 300 ?_
  rw [MG]
  exact D5 hC l s hl _ 0 rfl (by omega)
 ·simp only [Tr.val_ok,ae] at hx
  subst hx
  rename_i _ _ l u s
  refine Reach.len 0 zi l rfl fun hl=>?_
  have e:fv [some (.sl zi),none] (l,.clo (.func 209) [] [.ptr 0 0],u)=[.sl zi l,.clo (.func 209) [] [.ptr 0 0]]:=rfl
  rw [e]
  refine ch (n0:=1) kZ Jz hC Bp 300 ?_
  rw [MH]
  exact D6 hC l s hl _ 0 rfl (by omega)
 ·simp at hx

noncomputable def H1:bb:=xV.add 126 (zP [some (.sl zi),none] G27)
theorem sS:zm H1:=kZ.add V4
noncomputable def XT:bb:=(H1.add 73 (zP [some zE,some .str] (bH H1 Tryz.f73 [some zE,some .str]))).add 148 (zP [some (.sl zi),some .str] (bH H1 Tryz.f148 [some (.sl zi),some .str]))
theorem H2:zm XT:=by
 refine (sS.add (ac _ sS ?_)).add (ac (E:=H1) _ sS ?_) <;> (refine ⟨?_,?_,?_,?_⟩ <;> kernel_rfl)
end Cad
