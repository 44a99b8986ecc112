/- Expressions: which may be. Expressions: their values. Expressions: may, bounded. Expressions: types and values. What is asked of expressions holds. Checks; bounded tables. What is asked of checks and of bounded tables holds. Which tables may be. What is asked of tables holds. Which rows fit. What is asked of rows holds. -/
import Derived.Test.YtfgnbipebgibeaaGreatDoorG09
namespace Cad
open Go Go.Proofs

def zax (v:V):Bool:=v.1==0&&(v.2.1==0&&(v.2.2==[]&&true))
def avB:AV→Option Bool
 | .bool b=>some b
 | .kb b=>some b
 | _=>none

theorem Reach.toBool {E:Env} {C:Ctx} {fn:FuncId} {todo:List Item} {st:St} {b:Bool} {hp:List AO} (h:Reach E C fn todo st (fun r h=>avB r=some b∧h=hp)):Reach E C fn todo st (fun r h=>(r,h)=(.bool b,hp)):=by
 refine h.weaken fun r h' hq=>?_
 obtain ⟨h1,rfl⟩:=hq
 refine ⟨.bool b,rfl,fun w U ρ v hv=>?_⟩
 cases r <;> simp [avB] at h1 <;> subst h1 <;> cases hv <;> exact .bool _

def zO8 (g:ze→Int→Int→Bool×Int) (c:ze→Int→Int→Bool):zdS [none,some .expr,some zg]:=fun x h=>match x,h with
 | (.ptr 0 0,e,d,_),[.box [.int .i64 n]]=>.chk (c e d n) (.ok (.bool (g e d n).1,[.box [.int .i64 (g e d n).2]]))
 | _,_=>.err
def zyS (g:ze→Int→Int→Bool×Int) (c:ze→Int→Int→Bool):zJ:=zai [none,some .expr,some zg] (zO8 g c)
noncomputable def zzC (g:ze→Int→Int→Bool×Int) (c:ze→Int→Int→Bool):Env:=zd4.add 181 (zyS g c)
theorem zqF {g:ze→Int→Int→Bool×Int} {c:ze→Int→Int→Bool} (hg:FOk zd4.P zd4.gl 181 (zyS g c)):zi (zzC g c):=zsq.add hg
theorem zrl {g:ze→Int→Int→Bool×Int} {c:ze→Int→Int→Bool}:(zzC g c).P.follows .mixedOrders=true:=zm zsU _ _
abbrev zT9:Nat→zQ:=fun j=>if j=12 then { slots:=[0,2,73,74,75] } else { }
abbrev zu5 (i2:Int) (l73:LX) (i74:Int) (i75:Int) (ja0:Int):St:={ tmps:=[AV.ptr 0 0,ny,ai i2,ny,ny,ny,ny,ny,ny,ny,ny,ny,ny,ny,ny,ny,ny,ny,ny,ny,ny,ny,ny,ny,ny,ny,ny,ny,ny,ny,ny,ny,ny,ny,ny,ny,ny,ny,ny,ny,ny,ny,ny,ny,ny,ny,ny,ny,ny,ny,ny,ny,ny,ny,ny,ny,ny,ny,ny,ny,ny,ny,ny,ny,ny,ny,ny,ny,ny,ny,ny,ny,ny,AV.sl Sh.expr l73,ai i74,ai i75,ny,ny,ny,ny,ny,ny,ny,ny,ny,ny],heap:=[AO.box [ai ja0]] }
theorem zE9 (g:ze→Int→Int→Bool×Int) (c:ze→Int→Int→Bool):zF (zzC g c).P 181 Tryz.f181 3:=by refine ⟨?_,?_,?_,?_⟩ <;> kernel_rfl
theorem zXM (g:ze→Int→Int→Bool×Int) (c:ze→Int→Int→Bool) (e:ze) (d:Int) (n:Int):run (zzC g c) 1 zT9 (Func.results Tryz.f181).toList 400 (zq Tryz.f181) (zp (Func.ntmps Tryz.f181) [AV.ptr 0 0,zx Sh.expr e,ai d] [AO.box [ai n]])=Tr.br (bif decide (d > 12) then true else bif decide (IntKind.i64.wrap (n+1) > 60) then true else (↑e.l.length:Int) != zbn e.op) (Tr.ok (zD.ret (AV.kb false) [AO.box [ai (IntKind.i64.wrap (n+1))]])) (Tr.br (e.op==[108,105,116]) (Tr.ok (zD.ret (AV.bool (bif e.s==[] then zbj e.v else false)) [AO.box [ai (IntKind.i64.wrap (n+1))]])) (Tr.br (e.op==[99,111,108]) (Tr.ok (zD.ret (AV.bool (bif zax e.v then bif zcf e.s then !zeW e.s else false else false)) [AO.box [ai (IntKind.i64.wrap (n+1))]])) (Tr.br (bif !zax e.v then true else !e.s==[]) (Tr.ok (zD.ret (AV.kb false) [AO.box [ai (IntKind.i64.wrap (n+1))]])) (Tr.ok (zD.head 12 (zA Tryz.f181 12) (zu5 d e.l (↑e.l.length:Int) 0 (IntKind.i64.wrap (n+1)))))))):=by kernel_rfl
theorem zBl (g:ze→Int→Int→Bool×Int) (c:ze→Int→Int→Bool) (i2:Int) (l73:LX) (i74:Int) (i75:Int) (ja0:Int):run (zzC g c) 1 zT9 (Func.results Tryz.f181).toList 400 (zA Tryz.f181 12) (zu5 i2 l73 i74 i75 ja0)=Tr.br (decide (i75 < i74)) (Tr.chk (inB i75 l73.length) (Tr.chk (c (zz (l73.getD i75.toNat (zl Sh.expr))) (IntKind.i64.wrap (i2+1)) ja0) (Tr.br (!(g (zz (l73.getD i75.toNat (zl Sh.expr))) (IntKind.i64.wrap (i2+1)) ja0).1) (Tr.ok (zD.ret (AV.kb false) [AO.box [AV.int IntKind.i64 (g (zz (l73.getD i75.toNat (zl Sh.expr))) (IntKind.i64.wrap (i2+1)) ja0).2]])) (Tr.ok (zD.head 12 (zA Tryz.f181 12) (zu5 i2 l73 i74 (IntKind.i64.wrap (i75+1)) (g (zz (l73.getD i75.toNat (zl Sh.expr))) (IntKind.i64.wrap (i2+1)) ja0).2)))))) (Tr.ok (zD.ret (AV.kb true) [AO.box [ai ja0]])):=by kernel_rfl

def ziu (g:ze→Int→Int→Bool×Int) (d:Int):List ze→Int→Bool×Int
 | [],n=>(true,n)
 | x::r,n=>if (!(g x (IntKind.i64.wrap (d+1)) n).1)=true then (false,(g x (IntKind.i64.wrap (d+1)) n).2) else ziu g d r (g x (IntKind.i64.wrap (d+1)) n).2
def zpz (g:ze→Int→Int→Bool×Int) (c:ze→Int→Int→Bool) (d:Int):List ze→Int→Bool
 | [],_=>true
 | x::r,n=>if c x (IntKind.i64.wrap (d+1)) n=true then (if (!(g x (IntKind.i64.wrap (d+1)) n).1)=true then true else zpz g c d r (g x (IntKind.i64.wrap (d+1)) n).2) else false

theorem zWY {g:ze→Int→Int→Bool×Int} {c:ze→Int→Int→Bool} (hg:FOk zd4.P zd4.gl 181 (zyS g c)) {C:Ctx} (hC:∀ id,1≤id→C.ρ0 id=none) (d:Int) (l:List ze) (hl:l.length≤zI):
  ∀ (k i:Nat) (n:Int),l.length - i=k→i≤l.length→zpz g c d (l.drop i) n=true→Reach (zzC g c) C 181 (zA Tryz.f181 12) (zu5 d l l.length i n) (fun r h=>avB r=some (ziu g d (l.drop i) n).1∧h=[.box [.int .i64 (ziu g d (l.drop i) n).2]]):=by
 intro k
 induction k with
 | zero=>
  intro i n hk hi hc
  obtain rfl:i=l.length:=by omega
  refine zr (zqF hg) zrl (zE9 g c) hC (zBl g c _ _ _ _ _) ?_
  simp only [zP,Tr.val_brF,List.drop_length]
  exact ⟨rfl,rfl⟩
 | succ k IH=>
  intro i n hk hi hc
  have hlt:i < l.length:=by omega
  refine zr (zqF hg) zrl (zE9 g c) hC (zBl g c _ _ _ _ _) ?_
  rw [List.drop_eq_getElem_cons hlt] at hc ⊢
  rw [zpz] at hc
  have hc1:=zjV hc
  simp only [zV hlt,zK hlt,zaD l _ hlt,ze.eta,Tr.val_brT,Tr.val_chkT,hc1.1,zH i (by omega)]
  refine zhu (fun h=>?_) (fun h=>?_)
  ·rw [ziu,if_pos h]; exact ⟨rfl,rfl⟩
  ·rw [ziu,if_neg (zhb h)]
   have h2:=hc1.2
   rw [if_neg (zhb h)] at h2
   exact IH (i+1) _ (by omega) (by omega) h2

def zoi (g:ze→Int→Int→Bool×Int) (e:ze) (d n:Int):Bool×Int:=if (bif decide (d > 12) then true else bif decide (IntKind.i64.wrap (n+1) > 60) then true else (↑e.l.length:Int) != zbn e.op)=true then (false,IntKind.i64.wrap (n+1)) else if (e.op==[108,105,116])=true then (bif e.s==[] then zbj e.v else false,IntKind.i64.wrap (n+1)) else if (e.op==[99,111,108])=true then (bif zax e.v then bif zcf e.s then !zeW e.s else false else false,IntKind.i64.wrap (n+1)) else if (bif !zax e.v then true else !e.s==[])=true then (false,IntKind.i64.wrap (n+1)) else ziu g d e.l (IntKind.i64.wrap (n+1))
def zAQ (g:ze→Int→Int→Bool×Int) (c:ze→Int→Int→Bool) (e:ze) (d n:Int):Bool:=if (bif decide (d > 12) then true else bif decide (IntKind.i64.wrap (n+1) > 60) then true else (↑e.l.length:Int) != zbn e.op)=true then true else if (e.op==[108,105,116])=true then true else if (e.op==[99,111,108])=true then true else if (bif !zax e.v then true else !e.s==[])=true then true else zpz g c d e.l (IntKind.i64.wrap (n+1))

theorem zN6 {g:ze→Int→Int→Bool×Int} {c:ze→Int→Int→Bool} (hg:FOk zd4.P zd4.gl 181 (zyS g c)):FOk zd4.P zd4.gl 181 (zyS (zoi g) (zAQ g c)):=by
 refine zbC (E:=zzC g c) (zE9 g c) fun x h0 res hx C hC=>?_
 unfold zO8 at hx
 split at hx
 ·rename_i e d u n
  simp only [Tr.val] at hx
  split at hx
  ·rename_i hc
   simp only [Option.some.injEq] at hx
   subst hx
   refine Reach.toBool ?_
   refine zr (n0:=1) (zqF hg) zrl (zE9 g c) hC (zXM g c e d n) ?_
   generalize hy:zoi g e d n=y
   unfold zoi at hy
   unfold zAQ at hc
   repeat' (refine zhu (fun hsp=>?_) (fun hsp=>?_) <;> first | (rw [if_pos hsp] at hy hc) | (rw [if_neg (zhb hsp)] at hy hc))
   all_goals subst hy
   ·exact ⟨rfl,rfl⟩
   ·exact ⟨rfl,rfl⟩
   ·exact ⟨rfl,rfl⟩
   ·exact ⟨rfl,rfl⟩
   ·exact Reach.len 73 .expr e.l rfl fun hl=>zWY hg hC d e.l hl _ 0 _ rfl (Nat.zero_le _) hc
  ·simp at hx
 ·simp at hx

mutual
def zeb:Nat→ze→Int→Int→Bool×Int
 | 0=>fun _ _ _=>(false,0)
 | n+1=>zoi (zeb n)
def zmb:Nat→ze→Int→Int→Bool
 | 0=>fun _ _ _=>false
 | n+1=>zAQ (zeb n) (zmb n)
end
theorem zHm:∀ n,FOk zd4.P zd4.gl 181 (zyS (zeb n) (zmb n))
 | 0=>by
  have h:FOk zd4.P zd4.gl 181 (zai [none,some .expr,some zg] (fun _ _=>.err)):=zbC (zE9 (fun _ _ _=>(false,0)) (fun _ _ _=>false)) (E:=zd4) fun x h0 res hx=>by simp at hx
  refine zt4 (ι:=Unit) (Gs:=fun _ _ _=>.err) (fun _=>h) fun x h0 res hx=>?_
  unfold zO8 at hx
  split at hx
  ·simp [Tr.val,zmb] at hx
  ·simp at hx
 | n+1=>zN6 (zHm n)
def F37:zJ:=zyS (zeb 16) (zmb 16)
theorem zQY:FOk zd4.P zd4.gl 181 F37:=zHm 16

noncomputable def zc4:Env:=(zd4.add 181 F37)
theorem znv:zi zc4:=(zi.addS zsq (zB.refl zd4) zQY)
theorem znq:zc4.P.follows .mixedOrders=true:=(zm zsU _ _)
open Go Go.Proofs

abbrev zey:List (Str×AV):=[([97,110,100],.clo (.func 252) [] []),([111,114],.clo (.func 253) [] []),([110,111,116],.clo (.func 254) [] []),([61],.clo (.func 256) [] []),([60],.clo (.func 257) [] []),([43],.clo (.func 258) [] []),([45],.clo (.func 259) [] []),([110,117,108,108],.clo (.func 260) [] [])]
abbrev zX0:Nat→zQ:=fun _=>{ }
theorem zVC:zF zc4.P 218 Tryz.f218 0:=by refine ⟨?_,?_,?_,?_⟩ <;> kernel_rfl
theorem zWt:(run zc4 0 zX0 (Func.results Tryz.f218).toList 400 (zq Tryz.f218) (zp (Func.ntmps Tryz.f218) [] [])).val=some (zD.ret (AV.mp 0) [AO.fmap zey]):=by kernel_rfl
def G23:zdS []:=fun _ h=>match h with
 | []=>.ok (.mp 0,[.fmap zey])
 | _=>.err
def F23:zJ:=zai [] G23
theorem zSi:FOk zc4.P zc4.gl 218 F23:=by
 refine zbC zVC fun x h0 res hx C hC=>?_
 unfold G23 at hx
 split at hx
 ·simp only [Tr.val,Option.some.injEq] at hx
  subst hx
  exact zjM (n0:=0) znv znq zVC hC zWt rfl
 ·simp at hx

def opV (op:Str) (x y:V):V:=if (op==[97,110,100])=true then zsa x y else if (op==[111,114])=true then vOr x y else if (op==[110,111,116])=true then zAu x y else if (op==[61])=true then zgW x y else if (op==[60])=true then zkh x y else if (op==[43])=true then zkj x y else if (op==[45])=true then zgL x y else if (op==[110,117,108,108])=true then zua x y else (0,0,[])
def opC (op:Str):Bool:=if (op==[97,110,100])=true then true else if (op==[111,114])=true then true else if (op==[110,111,116])=true then true else if (op==[61])=true then true else if (op==[60])=true then true else if (op==[43])=true then true else if (op==[45])=true then true else if (op==[110,117,108,108])=true then true else false
def opL (op:Str) (x y:V) (h:List AO):Option zD:=if (op==[97,110,100])=true then some (.ret (zx zf (zsa x y)) h) else if (op==[111,114])=true then some (.ret (zx zf (vOr x y)) h) else if (op==[110,111,116])=true then some (.ret (zx zf (zAu x y)) h) else if (op==[61])=true then some (.ret (zx zf (zgW x y)) h) else if (op==[60])=true then some (.ret (zx zf (zkh x y)) h) else if (op==[43])=true then some (.ret (zx zf (zkj x y)) h) else if (op==[45])=true then some (.ret (zx zf (zgL x y)) h) else if (op==[110,117,108,108])=true then some (.ret (zx zf (zua x y)) h) else none

def zLN (g:List (Sem zh)→List (Sem zf)→ze→V) (c:List (Sem zh)→List (Sem zf)→ze→Bool):zdS [none,some .expr]:=fun x h=>match x,h with
 | (.agg [.sl (.pr .str (.pr (.int .i64) .bool)) cols,.sl (.pr (.int .i64) (.pr (.int .i64) .str)) row,.mp 0],e,_),[.fmap [(k1,.clo (.func 252) [] []),(k2,.clo (.func 253) [] []),(k3,.clo (.func 254) [] []),(k4,.clo (.func 256) [] []),(k5,.clo (.func 257) [] []),(k6,.clo (.func 258) [] []),(k7,.clo (.func 259) [] []),(k8,.clo (.func 260) [] [])]]=>
  .chk (k1==[97,110,100]&&(k2==[111,114]&&(k3==[110,111,116]&&(k4==[61]&&(k5==[60]&&(k6==[43]&&(k7==[45]&&(k8==[110,117,108,108])))))))) (.chk (c cols row e) (.ok (zx zf (g cols row e),[.fmap zey])))
 | _,_=>.err
def zCT (g:List (Sem zh)→List (Sem zf)→ze→V) (c:List (Sem zh)→List (Sem zf)→ze→Bool):zJ:=zai [none,some .expr] (zLN g c)
noncomputable def zyL (g:List (Sem zh)→List (Sem zf)→ze→V) (c:List (Sem zh)→List (Sem zf)→ze→Bool):Env:=zc4.add 219 (zCT g c)
theorem zpZ {g:List (Sem zh)→List (Sem zf)→ze→V} {c:List (Sem zh)→List (Sem zf)→ze→Bool} (hg:FOk zc4.P zc4.gl 219 (zCT g c)):zi (zyL g c):=znv.add hg
theorem zqp {g:List (Sem zh)→List (Sem zf)→ze→V} {c:List (Sem zh)→List (Sem zf)→ze→Bool}:(zyL g c).P.follows .mixedOrders=true:=zm znq _ _
theorem zFN (g:List (Sem zh)→List (Sem zf)→ze→V) (c:List (Sem zh)→List (Sem zf)→ze→Bool):zF (zyL g c).P 219 Tryz.f219 2:=by refine ⟨?_,?_,?_,?_⟩ <;> kernel_rfl
theorem zOl (g:List (Sem zh)→List (Sem zf)→ze→V) (c:List (Sem zh)→List (Sem zf)→ze→Bool) (cols:LC) (row:LV) (op:Str) (v:V) (s:Str):(run (zyL g c) 1 unr (Func.results Tryz.f219).toList 600 (zq Tryz.f219) (zp (Func.ntmps Tryz.f219) [AV.agg [AV.sl zh cols,AV.sl zf row,AV.mp 0],zx Sh.expr (.mk op v s [])] [AO.fmap zey])).val=if (op==[108,105,116])=true then some (.ret (zx zf v) [.fmap zey]) else if (op==[99,111,108])=true then (if (bif decide (zR cols s < 0) then true else decide (zR cols s ≥ (↑row.length:Int)))=true then some (.ret (zx zf (0,0,[])) [.fmap zey]) else if inB (zR cols s) row.length=true then some (.ret (zx zf (row.getD (Int.toNat (zR cols s)) (zl zf))) [.fmap zey]) else none) else opL op (0,0,[]) (0,0,[]) [.fmap zey]:=by kernel_rfl
theorem zNc (g:List (Sem zh)→List (Sem zf)→ze→V) (c:List (Sem zh)→List (Sem zf)→ze→Bool) (cols:LC) (row:LV) (op:Str) (v:V) (s:Str) (a:ze):(run (zyL g c) 1 unr (Func.results Tryz.f219).toList 600 (zq Tryz.f219) (zp (Func.ntmps Tryz.f219) [AV.agg [AV.sl zh cols,AV.sl zf row,AV.mp 0],zx Sh.expr (.mk op v s [a])] [AO.fmap zey])).val=if (op==[108,105,116])=true then some (.ret (zx zf v) [.fmap zey]) else if (op==[99,111,108])=true then (if (bif decide (zR cols s < 0) then true else decide (zR cols s ≥ (↑row.length:Int)))=true then some (.ret (zx zf (0,0,[])) [.fmap zey]) else if inB (zR cols s) row.length=true then some (.ret (zx zf (row.getD (Int.toNat (zR cols s)) (zl zf))) [.fmap zey]) else none) else if c cols row (.mk a.op a.v a.s a.l)=true then opL op (g cols row (.mk a.op a.v a.s a.l)) (0,0,[]) [.fmap zey] else none:=by kernel_rfl
theorem zN7 (g:List (Sem zh)→List (Sem zf)→ze→V) (c:List (Sem zh)→List (Sem zf)→ze→Bool) (cols:LC) (row:LV) (op:Str) (v:V) (s:Str) (a b:ze):(run (zyL g c) 1 unr (Func.results Tryz.f219).toList 600 (zq Tryz.f219) (zp (Func.ntmps Tryz.f219) [AV.agg [AV.sl zh cols,AV.sl zf row,AV.mp 0],zx Sh.expr (.mk op v s [a,b])] [AO.fmap zey])).val=if (op==[108,105,116])=true then some (.ret (zx zf v) [.fmap zey]) else if (op==[99,111,108])=true then (if (bif decide (zR cols s < 0) then true else decide (zR cols s ≥ (↑row.length:Int)))=true then some (.ret (zx zf (0,0,[])) [.fmap zey]) else if inB (zR cols s) row.length=true then some (.ret (zx zf (row.getD (Int.toNat (zR cols s)) (zl zf))) [.fmap zey]) else none) else if c cols row (.mk a.op a.v a.s a.l)=true then (if c cols row (.mk b.op b.v b.s b.l)=true then opL op (g cols row (.mk a.op a.v a.s a.l)) (g cols row (.mk b.op b.v b.s b.l)) [.fmap zey] else none) else none:=by kernel_rfl

theorem zjA {Φ:zD→Prop} {c:Bool} {a b:Option zD} (h1:c=true→zdH Φ a) (h2:c=false→zdH Φ b):zdH Φ (if c=true then a else b):=by
 cases c
 ·simpa using h2 rfl
 ·simpa using h1 rfl
theorem zny {E:Env} {C:Ctx} {k:FuncId} {f:Func} {Q:AV→List AO→Prop} {n n0:Nat} (hE:zi E) (hm:E.P.follows .mixedOrders=true) (hf:zF E.P k f n) (hC:∀ id,n0≤id→C.ρ0 id=none) {keep:Nat→zQ} {fuel:Nat}
  {todo:List Item} {st:St} {o:Option zD} (ht:(run E n0 keep f.results.toList fuel todo st).val=o) (h:zdH (zfq E C k Q) o):Reach E C k todo st Q:=
 zr hE hm hf hC rfl (by rw [ht]; exact h)

theorem zm7 {E:Env} {C:Ctx} {op:Str} {x y:V} {h:List AO} (hc:opC op=true):zdH (zfq E C 219 (fun r h'=>(r,h')=(zx zf (opV op x y),h))) (opL op x y h):=by
 generalize hy:opV op x y=z
 unfold opC at hc
 unfold opV at hy
 unfold opL
 repeat' (refine zjA (fun hsp=>?_) (fun hsp=>?_) <;> first | (rw [if_pos hsp] at hy; try rw [if_pos hsp] at hc) | (rw [if_neg (zhb hsp)] at hy; try rw [if_neg (zhb hsp)] at hc))
 all_goals first | (cases hc; done) | (subst hy; rfl)

def zjZ (g:List (Sem zh)→List (Sem zf)→ze→V) (cols:LC) (row:LV):ze→V
 | .mk op v s l=>if (op==[108,105,116])=true then v else
  if (op==[99,111,108])=true then (if (bif decide (zR cols s < 0) then true else decide (zR cols s ≥ (↑row.length:Int)))=true then (0,0,[]) else row.getD (Int.toNat (zR cols s)) (zl zf)) else
  match l with
  | []=>opV op (0,0,[]) (0,0,[])
  | [a]=>opV op (g cols row a) (0,0,[])
  | [a,b]=>opV op (g cols row a) (g cols row b)
  | _=>(0,0,[])
def zmd (c:List (Sem zh)→List (Sem zf)→ze→Bool) (cols:LC) (row:LV):ze→Bool
 | .mk _ _ _ (_::_::_::_)=>false
 | .mk op _ s l=>if (op==[108,105,116])=true then true else
  if (op==[99,111,108])=true then (if (bif decide (zR cols s < 0) then true else decide (zR cols s ≥ (↑row.length:Int)))=true then true else inB (zR cols s) row.length) else
  match l with
  | []=>opC op
  | [a]=>if c cols row a=true then opC op else false
  | [a,b]=>if c cols row a=true then (if c cols row b=true then opC op else false) else false
  | _=>false

theorem zO5 {g:List (Sem zh)→List (Sem zf)→ze→V} {c:List (Sem zh)→List (Sem zf)→ze→Bool} (hg:FOk zc4.P zc4.gl 219 (zCT g c)):FOk zc4.P zc4.gl 219 (zCT (zjZ g) (zmd c)):=by
 refine zbC (E:=zyL g c) (zFN g c) fun x h0 res hx C hC=>?_
 unfold zLN at hx
 split at hx
 ·rename_i cols row e u k1 k2 k3 k4 k5 k6 k7 k8
  simp only [Tr.val] at hx
  split at hx
  ·rename_i hk
   split at hx
   ·rename_i hc
    simp only [Bool.and_eq_true,beq_iff_eq] at hk
    obtain ⟨rfl,rfl,rfl,rfl,rfl,rfl,rfl,rfl⟩:=hk
    simp only [Option.some.injEq] at hx
    subst hx
    obtain ⟨op,v,s,l⟩:=e
    match l,hc with
    | [],hc=>
     refine zny (n0:=1) (zpZ hg) zqp (zFN g c) hC (zOl g c cols row op v s) ?_
     generalize hy:zjZ g cols row (.mk op v s [])=z
     rw [zmd] at hc
     rw [zjZ] at hy
     repeat' (first | (subst hy; exact zm7 hc) | refine zjA (fun hsp=>?_) (fun hsp=>?_) <;> first | (first | rw [if_pos hsp] at hy hc | rw [if_pos hsp] at hc | rw [if_pos hsp] at hy) | (first | rw [if_neg (zhb hsp)] at hy hc | rw [if_neg (zhb hsp)] at hc | rw [if_neg (zhb hsp)] at hy) | skip)
     all_goals first | (subst hy; exact zm7 hc) | (subst hy; rfl) | (rw [hc] at hsp; cases hsp)
    | [a],hc=>
     refine zny (n0:=1) (zpZ hg) zqp (zFN g c) hC (zNc g c cols row op v s a) ?_
     generalize hy:zjZ g cols row (.mk op v s [a])=z
     rw [zmd] at hc
     rw [zjZ] at hy
     simp only [ze.eta]
     repeat' (first | (subst hy; exact zm7 hc) | refine zjA (fun hsp=>?_) (fun hsp=>?_) <;> first | (first | rw [if_pos hsp] at hy hc | rw [if_pos hsp] at hc | rw [if_pos hsp] at hy) | (first | rw [if_neg (zhb hsp)] at hy hc | rw [if_neg (zhb hsp)] at hc | rw [if_neg (zhb hsp)] at hy) | skip)
     all_goals first | (subst hy; exact zm7 hc) | (subst hy; rfl) | (cases hc; done) | (rw [hc] at hsp; cases hsp)
    | [a,b],hc=>
     refine zny (n0:=1) (zpZ hg) zqp (zFN g c) hC (zN7 g c cols row op v s a b) ?_
     generalize hy:zjZ g cols row (.mk op v s [a,b])=z
     rw [zmd] at hc
     rw [zjZ] at hy
     simp only [ze.eta]
     repeat' (first | (subst hy; exact zm7 hc) | refine zjA (fun hsp=>?_) (fun hsp=>?_) <;> first | (first | rw [if_pos hsp] at hy hc | rw [if_pos hsp] at hc | rw [if_pos hsp] at hy) | (first | rw [if_neg (zhb hsp)] at hy hc | rw [if_neg (zhb hsp)] at hc | rw [if_neg (zhb hsp)] at hy) | skip)
     all_goals first | (subst hy; exact zm7 hc) | (subst hy; rfl) | (cases hc; done) | (rw [hc] at hsp; cases hsp)
    | _::_::_::_,hc=>
     cases hc
   ·simp at hx
  ·simp at hx
 ·simp at hx

mutual
def zbK:Nat→List (Sem zh)→List (Sem zf)→ze→V
 | 0=>fun _ _ _=>(0,0,[])
 | n+1=>zjZ (zbK n)
def zlN:Nat→List (Sem zh)→List (Sem zf)→ze→Bool
 | 0=>fun _ _ _=>false
 | n+1=>zmd (zlN n)
end
theorem zF5:∀ n,FOk zc4.P zc4.gl 219 (zCT (zbK n) (zlN n))
 | 0=>by
  have h:FOk zc4.P zc4.gl 219 (zai [none,some .expr] (fun _ _=>.err)):=zbC (zFN (fun _ _ _=>(0,0,[])) (fun _ _ _=>false)) (E:=zc4) fun x h0 res hx=>by simp at hx
  refine zt4 (ι:=Unit) (Gs:=fun _ _ _=>.err) (fun _=>h) fun x h0 res hx=>?_
  unfold zLN at hx
  split at hx
  ·simp [Tr.val,zlN] at hx
  ·simp at hx
 | n+1=>zO5 (zF5 n)
def F24:zJ:=zCT (zbK 16) (zlN 16)
theorem zUO:FOk zc4.P zc4.gl 219 F24:=zF5 16

noncomputable def zg1:Env:=((zc4.add 218 F23).add 219 F24)
theorem zmL:zi zg1:=(zi.addS (zi.addS znv (zB.refl zc4) zSi) ((zB.refl zc4).add _ _) zUO)
theorem znb:zg1.P.follows .mixedOrders=true:=(zm (zm znq _ _) _ _)
open Go Go.Proofs

abbrev zXF:Nat→zQ:=fun _=>{ }
theorem zQO:zF (zg1).P 125 Tryz.f125 1:=by refine ⟨?_,?_,?_,?_⟩ <;> kernel_rfl
theorem zWG (x0:Sem Sh.expr):run (zg1) 0 zXF (Func.results Tryz.f125).toList 400 (zq Tryz.f125) (zp (Func.ntmps Tryz.f125) [zx Sh.expr x0] [])=Tr.chk (zmb 16 (zz x0) 1 0) (Tr.ok (zD.ret (AV.bool (zeb 16 (zz x0) 1 0).1) [])):=by kernel_rfl
def zc1 (x0:Sem Sh.expr):Sem Sh.bool:=(zeb 16 x0 1 0).1
def znI (x0:Sem Sh.expr):Bool:=if zmb 16 x0 1 0=true then true else false
def F22:zJ:=zG [Sh.expr] [Sh.bool] (fun x=>znI x.1) fun x=>(zc1 x.1,())
theorem zLc:FOk (zg1).P (zg1).gl 125 F22:=by
 refine zT (zQO) fun x hc C hC=>?_
 unfold znI at hc
 refine zr zmL znb (zQO) (fun id _=>hC id) (zWG x.1) ?_
 generalize hy:zc1 x.1=y
 unfold zc1 at hy
 try simp only [ze.eta]
 repeat' (first | with_reducible refine obr hy hc (fun _ hy hc=>?_) (fun _ hy hc=>?_) | with_reducible refine zay hy (fun _ hy=>?_) (fun _ hy=>?_) | with_reducible refine zaZ hc (fun hc=>?_) | with_reducible refine zy ?_)
 all_goals (subst hy; first | rfl)

abbrev kp7:Nat→zQ:=fun _=>{ }
theorem ok7:zF (zg1).P 25 Tryz.f25 1:=by refine ⟨?_,?_,?_,?_⟩ <;> kernel_rfl
theorem go7 (x0:Sem Sh.expr):run (zg1) 0 kp7 (Func.results Tryz.f25).toList 400 (zq Tryz.f25) (zp (Func.ntmps Tryz.f25) [zx Sh.expr x0] [])=Tr.chk (zle 16 (zz x0) 14 80) (Tr.ok (zD.ret (AV.agg [AV.str (ze.op (zgt 16 (zz x0) 14 80).1),ai (ze.v (zgt 16 (zz x0) 14 80).1).1,ai (ze.v (zgt 16 (zz x0) 14 80).1).2.1,AV.str (ze.v (zgt 16 (zz x0) 14 80).1).2.2,AV.str (ze.s (zgt 16 (zz x0) 14 80).1),AV.sl Sh.expr (ze.l (zgt 16 (zz x0) 14 80).1)]) [])):=by kernel_rfl
def zdr (x0:Sem Sh.expr):Sem Sh.expr:=ze.mk (ze.op (zgt 16 x0 14 80).1) (ze.v (zgt 16 x0 14 80).1) (ze.s (zgt 16 x0 14 80).1) (ze.l (zgt 16 x0 14 80).1)
def zAL (x0:Sem Sh.expr):Bool:=if zle 16 x0 14 80=true then true else false
def F7:zJ:=zG [Sh.expr] [Sh.expr] (fun x=>zAL x.1) fun x=>(zdr x.1,())
theorem zVL:FOk (zg1).P (zg1).gl 25 F7:=by
 refine zT (ok7) fun x hc C hC=>?_
 unfold zAL at hc
 refine zr zmL znb (ok7) (fun id _=>hC id) (go7 x.1) ?_
 generalize hy:zdr x.1=y
 unfold zdr at hy
 try simp only [ze.eta]
 repeat' (first | with_reducible refine obr hy hc (fun _ hy hc=>?_) (fun _ hy hc=>?_) | with_reducible refine zay hy (fun _ hy=>?_) (fun _ hy=>?_) | with_reducible refine zaZ hc (fun hc=>?_) | with_reducible refine zy ?_)
 all_goals (subst hy; first | rfl)

noncomputable def zho:Env:=((zg1.add 125 F22).add 25 F7)
theorem zmH:zi zho:=(zi.addS (zi.addS zmL (zB.refl zg1) zLc) ((zB.refl zg1).add _ _) zVL)
theorem zmM:zho.P.follows .mixedOrders=true:=(zm (zm znb _ _) _ _)
open Go Go.Proofs

abbrev zXQ:Nat→zQ:=fun _=>{ }
theorem zUW:zF (zho).P 76 Tryz.f76 2:=by refine ⟨?_,?_,?_,?_⟩ <;> kernel_rfl
theorem zXP (x0:Sem Sh.expr) (x1:Sem zh.sl):run (zho) 0 zXQ (Func.results Tryz.f76).toList 400 (zq Tryz.f76) (zp (Func.ntmps Tryz.f76) [zx Sh.expr x0,zx zh.sl x1] [])=Tr.chk (znI (zz x0)) (Tr.br (!zc1 (zz x0)) (Tr.ok (zD.ret (AV.tup [ai 0,ai 1]) [])) (Tr.chk (zaC 16 (zz x0) x1) (Tr.ok (zD.ret (AV.tup [ai (zM 16 (zz x0) x1).1,ai (zM 16 (zz x0) x1).2]) [])))):=by kernel_rfl
def zcx (x0:Sem Sh.expr) (x1:Sem zh.sl):Sem zg×Sem zg:=if (!zc1 x0)=true then (0,1) else ((zM 16 x0 x1).1,(zM 16 x0 x1).2)
def zuX (x0:Sem Sh.expr) (x1:Sem zh.sl):Bool:=if znI x0=true then if (!zc1 x0)=true then true else if zaC 16 x0 x1=true then true else false else false
def F30:zJ:=zG [Sh.expr,zh.sl] [zg,zg] (fun x=>zuX x.1 x.2.1) fun x=>((zcx x.1 x.2.1).1,(zcx x.1 x.2.1).2,())
theorem zLt:FOk (zho).P (zho).gl 76 F30:=by
 refine zT (zUW) fun x hc C hC=>?_
 unfold zuX at hc
 refine zr zmH zmM (zUW) (fun id _=>hC id) (zXP x.1 x.2.1) ?_
 generalize hy:zcx x.1 x.2.1=y
 unfold zcx at hy
 try simp only [ze.eta]
 repeat' (first | with_reducible refine obr hy hc (fun _ hy hc=>?_) (fun _ hy hc=>?_) | with_reducible refine zay hy (fun _ hy=>?_) (fun _ hy=>?_) | with_reducible refine zaZ hc (fun hc=>?_) | with_reducible refine zy ?_)
 all_goals (subst hy; first | rfl)

abbrev zWy:Nat→zQ:=fun _=>{ }
theorem zTP:zF (zho).P 172 Tryz.f172 3:=by refine ⟨?_,?_,?_,?_⟩ <;> kernel_rfl
theorem zXm (x0:Sem Sh.expr) (x1:Sem zh.sl) (x2:Sem zf.sl):run (zho) 0 zWy (Func.results Tryz.f172).toList 400 (zq Tryz.f172) (zp (Func.ntmps Tryz.f172) [zx Sh.expr x0,zx zh.sl x1,zx zf.sl x2] [])=Tr.chk (znI (zz x0)) (Tr.br (!zc1 (zz x0)) (Tr.ok (zD.ret (AV.agg [ai 0,ai 0,AV.str []]) [])) (Tr.chk ([97,110,100]==[97,110,100]&&([111,114]==[111,114]&&([110,111,116]==[110,111,116]&&([61]==[61]&&([60]==[60]&&([43]==[43]&&([45]==[45]&&[110,117,108,108]==[110,117,108,108]))))))) (Tr.chk (zlN 16 x1 x2 (zz x0)) (Tr.ok (zD.ret (AV.agg [ai (zbK 16 x1 x2 (zz x0)).1,ai (zbK 16 x1 x2 (zz x0)).2.1,AV.str (zbK 16 x1 x2 (zz x0)).2.2]) []))))):=by kernel_rfl
def zez (x0:Sem Sh.expr) (x1:Sem zh.sl) (x2:Sem zf.sl):Sem zf:=if (!zc1 x0)=true then (0,0,[]) else zbK 16 x1 x2 x0
def ztK (x0:Sem Sh.expr) (x1:Sem zh.sl) (x2:Sem zf.sl):Bool:=if znI x0=true then if (!zc1 x0)=true then true else if ([97,110,100]==[97,110,100]&&([111,114]==[111,114]&&([110,111,116]==[110,111,116]&&([61]==[61]&&([60]==[60]&&([43]==[43]&&([45]==[45]&&[110,117,108,108]==[110,117,108,108])))))))=true then if zlN 16 x1 x2 x0=true then true else false else false else false
def F11:zJ:=zG [Sh.expr,zh.sl,zf.sl] [zf] (fun x=>ztK x.1 x.2.1 x.2.2.1) fun x=>(zez x.1 x.2.1 x.2.2.1,())
theorem zJ8:FOk (zho).P (zho).gl 172 F11:=by
 refine zT (zTP) fun x hc C hC=>?_
 unfold ztK at hc
 refine zr zmH zmM (zTP) (fun id _=>hC id) (zXm x.1 x.2.1 x.2.2.1) ?_
 generalize hy:zez x.1 x.2.1 x.2.2.1=y
 unfold zez at hy
 try simp only [ze.eta]
 repeat' (first | with_reducible refine obr hy hc (fun _ hy hc=>?_) (fun _ hy hc=>?_) | with_reducible refine zay hy (fun _ hy=>?_) (fun _ hy=>?_) | with_reducible refine zaZ hc (fun hc=>?_) | with_reducible refine zy ?_)
 all_goals (subst hy; first | rfl)

noncomputable def zgh:Env:=((zho.add 76 F30).add 172 F11)
theorem zCq:zi zgh:=(zi.addS (zi.addS zmH (zB.refl zho) zLt) ((zB.refl zho).add _ _) zJ8)
theorem zCn:zgh.P.follows .mixedOrders=true:=(zm (zm zmM _ _) _ _)
open Go Go.Proofs

theorem zhJ (d:Int) (h1:-1000≤d) (h2:d≤1000):IntKind.i64.wrap d=d:=by
 rw [IntKind.wrap_i64]; omega

theorem zsw {g:Sem Sh.expr→Sem zg→Sem zg→Sem Sh.expr×Sem zg} {c:Sem Sh.expr→Sem zg→Sem zg→Bool} {i1:Int} (h:∀ x n,0 < i1→c x (IntKind.i64.wrap (i1 - 1)) n=true) {a0:Str} {a1 a2:Int} {a3 a4 b0:Str} {b1 b2:Int} {b3 b4 d0:Str} {d1 d2:Int} {d3 d4:Str}:
  ∀ (l:List (Sem Sh.expr)) (i n:Int) (acc:List (Sem Sh.expr)),(acc.length:Int)≤i→zbM g c i1 a0 a1 a2 a3 a4 b0 b1 b2 b3 b4 d0 d1 d2 d3 d4 l i n acc=true
 | [],_,_,_,_=>rfl
 | x::r,i,n,acc,hi=>by
  rw [zbM]
  split
  ·rename_i hk
   have h3:i < 3∧i1 > 0:=by
    cases h1:decide (i < 3) <;> cases h2:decide (i1 > 0) <;> simp_all
   rw [if_pos (h x n h3.2),if_pos (by simp; omega)]
   exact zsw h r (i+1) _ _ (by simp; omega)
  ·rfl

theorem zyB {g:Sem Sh.expr→Sem zg→Sem zg→Sem Sh.expr×Sem zg} {c:Sem Sh.expr→Sem zg→Sem zg→Bool} {i1:Int} (h:∀ x n,0 < i1→c x (IntKind.i64.wrap (i1 - 1)) n=true) (e:ze) (n:Int):zwf g c e i1 n=true:=by
 have hl:=fun a0 a1 a2 a3 a4 b0 b1 b2 b3 b4 d0 d1 d2 d3 d4 l n=>zsw (g:=g) h (a0:=a0) (a1:=a1) (a2:=a2) (a3:=a3) (a4:=a4) (b0:=b0) (b1:=b1) (b2:=b2) (b3:=b3) (b4:=b4) (d0:=d0) (d1:=d1) (d2:=d2) (d3:=d3) (d4:=d4) l 0 n [] (by simp)
 unfold zwf
 repeat' split
 all_goals first
  | exact hl _ _ _ _ _ _ _ _ _ _ _ _ _ _ _ _ _
  | (exfalso; simp only [decide_eq_true_eq,Bool.and_eq_true,not_and] at *; omega)

theorem zre:∀ (N:Nat) (e:ze) (d n:Int),0≤d→d < N→N≤100→zle N e d n=true
 | 0,_,_,_,h1,h2,_=>by omega
 | N+1,e,d,n,h1,h2,h3=>by
  rw [zle]
  refine zyB (fun x m hd=>?_) e n
  rw [zhJ _ (by omega) (by omega)]
  exact zre N x (d - 1) m (by omega) (by omega) (by omega)

theorem zqL {g:ze→Int→Int→Bool×Int} {c:ze→Int→Int→Bool} {d:Int} (h:∀ x n,c x (IntKind.i64.wrap (d+1)) n=true):∀ (l:List ze) (n:Int),zpz g c d l n=true
 | [],_=>rfl
 | x::r,n=>by
  rw [zpz,if_pos (h x n)]
  split
  ·rfl
  ·exact zqL h r _

theorem zry:∀ (N:Nat) (e:ze) (d n:Int),0≤d→d≤13→14≤d+N→zmb N e d n=true
 | 0,_,_,_,_,_,_=>by omega
 | N+1,e,d,n,h1,h2,h3=>by
  rw [zmb]
  unfold zAQ
  by_cases hd:d > 12
  ·simp [hd]
  ·have hl:zpz (zeb N) (zmb N) d e.l (IntKind.i64.wrap (n+1))=true:=zqL (fun x m=>by
    rw [zhJ _ (by omega) (by omega)]
    exact zry N x (d+1) m (by omega) (by omega) (by omega)) _ _
   repeat' split
   all_goals first | rfl | exact hl

abbrev zmQ:ze:=.mk [] (0,0,[]) [] []

theorem zzj (N:Nat) (e:ze):zhD (N+1) e zmQ=true:=by
 rw [zhD]
 unfold zvp
 have hl:ztC (zgn N) (zhD N) e.l []=true:=by
  unfold ztC
  split
  ·rfl
  ·cases e.l <;> rfl
 show (bif e.op==[] then bif eqV e.v (0,0,[]) then bif e.s==[] then ztC (zgn N) (zhD N) e.l [] else true else true else true)=true
 rw [hl]
 cases e.op==[] <;> cases eqV e.v (0,0,[]) <;> cases e.s==[] <;> rfl

theorem zeq {α:Type} (p:α→Bool):∀ (l:List α) (i:Nat),zaa p l i=-1∨((i:Int)≤zaa p l i∧zaa p l i < i+l.length)
 | [],_=>.inl rfl
 | x::r,i=>by
  unfold zaa
  split
  ·exact .inr ⟨by omega,by simp; omega⟩
  ·rcases zeq p r (i+1) with h | ⟨h1,h2⟩
   ·exact .inl h
   ·exact .inr ⟨by omega,by simp; omega⟩

theorem zvu (l:List (Sem zh)) (s:Str):zR l s=-1∨(0≤zR l s∧zR l s < l.length):=by
 have:=zeq (fun c:Sem zh=>c.1==s) l 0
 unfold zR
 simpa using this

theorem zgF (op:Str):(zbn op=0∧(op=[108,105,116]∨op=[99,111,108]))∨(zbn op=1∧(op=[110,111,116]∨op=[110,117,108,108]))∨
  (zbn op=2∧(op=[97,110,100]∨op=[111,114]∨op=[61]∨op=[60]∨op=[43]∨op=[45]))∨zbn op=-1:=by
 unfold zbn znL
 simp only [swV]
 repeat' split
 all_goals simp_all

theorem znn {g:ze→Int→Int→Bool×Int} {e:ze} {d n:Int} (h:(zoi g e d n).1=true):(e.l.length:Int)=zbn e.op∧
  ((e.op=[108,105,116]∨e.op=[99,111,108])∨(ziu g d e.l (IntKind.i64.wrap (n+1))).1=true):=by
 unfold zoi at h
 split at h
 ·cases h
 ·rename_i h1
  have hl:(e.l.length:Int)=zbn e.op:=by
   cases h2:decide (d > 12) <;> cases h3:decide (IntKind.i64.wrap (n+1) > 60) <;> simp_all
  refine ⟨hl,?_⟩
  split at h
  ·rename_i h2; exact .inl (.inl (by simpa using h2))
  ·split at h
   ·rename_i h2; exact .inl (.inr (by simpa using h2))
   ·split at h
    ·cases h
    ·exact .inr h

theorem zlv {g:ze→Int→Int→Bool×Int} {d:Int}:∀ (l:List ze) (n:Int),(ziu g d l n).1=true→∀ x∈l,∃ m,(g x (IntKind.i64.wrap (d+1)) m).1=true
 | [],_,_,_,hx=>by simp at hx
 | y::r,n,h,x,hx=>by
  rw [ziu] at h
  split at h
  ·cases h
  ·rename_i hy
   rcases List.mem_cons.1 hx with rfl | hx
   ·exact ⟨n,by simpa using hy⟩
   ·exact zlv r _ h x hx

theorem znU {g:ze→List (Sem zh)→Int×Int} {c:ze→List (Sem zh)→Bool} {cols:List (Sem zh)} {op:Str} {a1 a2:Int} {a3 a4:Str} {w:List ze}:
    ∀ (l:List ze) (i:Int) (acc:List Int),(∀ x∈l,c x cols=true)→((acc.length:Int)+l.length)=zbn op→zdh g c cols op a1 a2 a3 a4 w l i acc=true
  | [], i,acc,_,hp=>by
    have hp:(acc.length:Int)=zbn op:=by simpa using hp
    have hcp:decide (zR cols a4 < 0)=true∨inB (zR cols a4) cols.length=true:=by
      rcases zvu cols a4 with h | ⟨h1,h2⟩
      · exact .inl (by rw [h]; rfl)
      · exact .inr (by simp [inB,h1,h2])
    have h2:op=[61]∨op=[60]→acc.length=2:=by
      rintro (rfl | rfl)
      · have:zbn [61]=2:=by decide
        omega
      · have:zbn [60]=2:=by decide
        omega
    unfold zdh
    repeat' split
    all_goals first
      | rfl
      | (exfalso; rcases hcp with h | h <;> simp_all; done)
      | (exfalso
         rename_i h7 h8
         have h9:=h2 (by simp_all)
         rw [h9] at h8
         exact h8 (by cases hA:(acc.getD (Int.toNat 0) (zl zg)==acc.getD (Int.toNat 1) (zl zg)) <;> cases hB:(acc.getD (Int.toNat 0) (zl zg)==0) <;> rfl))
  | x :: r,i,acc,hc,hp=>by
    have hle:zbn op≤2:=by rcases zgF op with h | h | h | h <;> omega
    rw [zdh,if_pos (hc x (by simp))]
    split
    · rfl
    · rw [if_pos (by simp at hp ⊢; omega)]
      exact znU r (i+1) _ (fun y hy=>hc y (by simp [hy])) (by simp at hp ⊢; omega)

theorem zmy:∀ (N:Nat) (e:ze) (d n:Int) (cols:List (Sem zh)),(zeb N e d n).1=true→zaC N e cols=true
 | 0,_,_,_,_,h=>by cases h
 | N+1,e,d,n,cols,h=>by
  rw [zeb] at h
  obtain ⟨hl,h2⟩:=znn h
  rw [zaC]
  unfold zoS
  refine znU e.l 0 [] (fun x hx=>?_) (by simpa using hl)
  rcases h2 with h2 | h2
  ·exfalso
   have:zbn e.op=0:=by
    rcases h2 with h2 | h2 <;> rw [h2] <;> decide
   rw [this] at hl
   have:e.l=[]:=List.eq_nil_of_length_eq_zero (by omega)
   rw [this] at hx; simp at hx
  ·obtain ⟨m,hm⟩:=zlv e.l _ h2 x hx
   exact zmy N x _ _ cols hm

theorem zpO:∀ (N:Nat) (e:ze) (d n:Int) (cols:List (Sem zh)) (row:List (Sem zf)),(zeb N e d n).1=true→zlN N cols row e=true
 | 0,_,_,_,_,_,h=>by cases h
 | N + 1,.mk op v s l,d,n,cols,row,h=>by
  rw [zeb] at h
  obtain ⟨hl,h2⟩:=znn h
  have hl:(l.length:Int)=zbn op:=hl
  have h2:(op=[108,105,116]∨op=[99,111,108])∨(ziu (zeb N) d l (IntKind.i64.wrap (n+1))).1=true:=h2
  have hx:∀ x∈l,(¬ (op=[108,105,116]∨op=[99,111,108]))→zlN N cols row x=true:=by
   intro x hx hno
   rcases h2 with h2 | h2
   ·exact (hno h2).elim
   ·obtain ⟨m,hm⟩:=zlv l _ h2 x hx
    exact zpO N x _ _ cols row hm
  have hcol:(if (bif decide (zR cols s < 0) then true else decide (zR cols s ≥ (↑row.length:Int)))=true then true else inB (zR cols s) row.length)=true:=by
   split
   ·rfl
   ·rename_i hh
    have h1:0≤zR cols s∧zR cols s < row.length:=by
     cases hq:decide (zR cols s < 0)
     ·rw [hq] at hh
      simp at hq hh
      exact ⟨hq,hh⟩
     ·rw [hq] at hh; simp at hh
    simp [inB,h1.1,h1.2]
  rw [zlN]
  rcases zgF op with ⟨hp,ho⟩ | ⟨hp,ho⟩ | ⟨hp,ho⟩ | hp
  ·have:l=[]:=List.eq_nil_of_length_eq_zero (by omega)
   subst this
   rcases ho with rfl | rfl
   ·rfl
   ·rw [zmd]; exact hcol
  ·match l,hl,hx with
   | [a],_,hx=>
    rcases ho with rfl | rfl
    ·rw [zmd]; exact (if_pos (hx a (by simp) (by decide))).trans rfl
    ·rw [zmd]; exact (if_pos (hx a (by simp) (by decide))).trans rfl
   | [],hl,_=>simp at hl; omega
   | _::_::_,hl,_=>simp at hl; omega
  ·match l,hl,hx with
   | [a,b],_,hx=>
    rcases ho with rfl | rfl | rfl | rfl | rfl | rfl <;>
     (rw [zmd]; exact (if_pos (hx a (by simp) (by decide))).trans ((if_pos (hx b (by simp) (by decide))).trans rfl))
   | [],hl,_=>simp at hl; omega
   | [_],hl,_=>simp at hl; omega
   | _::_::_::_,hl,_=>simp at hl; omega
  ·omega

theorem zkz (e:ze):znI e=true:=by
 unfold znI
 rw [if_pos (zry 16 e 1 0 (by omega) (by omega) (by omega))]
theorem zzE (e:ze):zAL e=true:=by
 unfold zAL
 rw [if_pos (zre 16 e 14 80 (by omega) (by omega) (by omega))]
theorem zx0 (e:ze) (cols:List (Sem zh)):zuX e cols=true:=by
 unfold zuX
 rw [if_pos (zkz e)]
 split
 ·rfl
 ·rename_i h
  rw [if_pos (zmy 16 e 1 0 cols (by simpa [zc1] using h))]
theorem zx2 (e:ze) (cols:List (Sem zh)) (row:List (Sem zf)):ztK e cols row=true:=by
 unfold ztK
 rw [if_pos (zkz e)]
 split
 ·rfl
 ·rename_i h
  rw [if_pos (by decide),if_pos (zpO 16 e 1 0 cols row (by simpa [zc1] using h))]

def zT2:zJ:=zaf [Sh.expr] [Sh.bool] fun x=>(zc1 x.1,())
theorem zOt:FOk zgh.P zgh.gl 125 zT2:=zdl zLc fun x=>zkz x.1
def F7t:zJ:=zaf [Sh.expr] [Sh.expr] fun x=>(zdr x.1,())
theorem zP0:FOk zgh.P zgh.gl 25 F7t:=zdl zVL fun x=>zzE x.1
def zQV:zJ:=zaf [Sh.expr,zh.sl] [zg,zg] fun x=>((zcx x.1 x.2.1).1,(zcx x.1 x.2.1).2,())
theorem zNf:FOk zgh.P zgh.gl 76 zQV:=zdl zLt fun x=>zx0 x.1 x.2.1
def zP1:zJ:=zaf [Sh.expr,zh.sl,zf.sl] [zf] fun x=>(zez x.1 x.2.1 x.2.2.1,())
theorem zLS:FOk zgh.P zgh.gl 172 zP1:=zdl zJ8 fun x=>zx2 x.1 x.2.1 x.2.2.1

noncomputable def zem:Env:=((((zgh.add 125 zT2).add 25 F7t).add 76 zQV).add 172 zP1)
theorem zeX:zi zem:=(zi.addS (zi.addS (zi.addS (zi.addS zCq (zB.refl zgh) zOt) ((zB.refl zgh).add _ _) zP0) (((zB.refl zgh).add _ _).add _ _) zNf) ((((zB.refl zgh).add _ _).add _ _).add _ _) zLS)
theorem zeM:zem.P.follows .mixedOrders=true:=(zm (zm (zm (zm zCn _ _) _ _) _ _) _ _)
open Go Go.Proofs

abbrev zW7:Nat→zQ:=fun _=>{ }
theorem zSC:zF (zem).P 48 Tryz.f48 2:=by refine ⟨?_,?_,?_,?_⟩ <;> kernel_rfl
theorem zWC (x0:Sem Sh.expr) (x1:Sem zh.sl):run (zem) 0 zW7 (Func.results Tryz.f48).toList 400 (zq Tryz.f48) (zp (Func.ntmps Tryz.f48) [zx Sh.expr x0,zx zh.sl x1] [])=Tr.chk (zhD 16 (zz x0) (ze.mk [] (0,0,[]) [] [])) (Tr.br (zgn 16 (zz x0) (ze.mk [] (0,0,[]) [] [])) (Tr.ok (zD.ret (ai 0) [])) (Tr.br (bif (zcx (zz x0) x1).2==0 then bif (zcx (zz x0) x1).1 != 3 then (zcx (zz x0) x1).1 != 0 else false else false) (Tr.ok (zD.ret (ai 5) [])) (Tr.ok (zD.ret (ai (zcx (zz x0) x1).2) [])))):=by kernel_rfl
def zdz (x0:Sem Sh.expr) (x1:Sem zh.sl):Sem zg:=(if zgn 16 x0 (ze.mk [] (0,0,[]) [] [])=true then 0 else if (bif (zcx x0 x1).2==0 then bif (zcx x0 x1).1 != 3 then (zcx x0 x1).1 != 0 else false else false)=true then 5 else (zcx x0 x1).2)
def zo9 (x0:Sem Sh.expr) (_:Sem zh.sl):Bool:=(if zhD 16 x0 (ze.mk [] (0,0,[]) [] [])=true then true else false)
def F19:zJ:=zG [Sh.expr,zh.sl] [zg] (fun x=>zo9 x.1 x.2.1) fun x=>(zdz x.1 x.2.1,())
theorem zKD:FOk (zem).P (zem).gl 48 F19:=by
 refine zT (zSC) fun x hc C hC=>?_
 unfold zo9 at hc
 refine zr zeX zeM (zSC) (fun id _=>hC id) (zWC x.1 x.2.1) ?_
 generalize hy:zdz x.1 x.2.1=y
 unfold zdz at hy
 try simp only [ze.eta]
 repeat' (first | with_reducible refine obr hy hc (fun _ hy hc=>?_) (fun _ hy hc=>?_) | with_reducible refine zay hy (fun _ hy=>?_) (fun _ hy=>?_) | with_reducible refine zaZ hc (fun hc=>?_) | with_reducible refine zy ?_)
 all_goals (subst hy; first | rfl)

abbrev kp5:Nat→zQ:=fun j=>if j=3 then { slots:=[1,2,3,4],prom:=[(3,some 3,zg)] } else if j=7 then { slots:=[1,2,3,5],prom:=[(3,some 4,zt)] } else { }
abbrev zHg (i4:Int) (ja0:TS) (ja1:LC) (ja2:Sem zg) (ja3:LI) (ja4:LF) (ja5:Str) (ja6:Int) (ja7:Int) (ja8:Str) (ja9:Str) (ja10:LX) (jb0:List UInt8) (jb2:Int) (jb5:List UInt8) (jb6:Int) (jb7:Int) (jb8:List UInt8) (jb9:List UInt8) (jc0:TS) (jc1:LC) (jc2:Sem zg) (jc5:Str) (jc6:Int) (jc7:Int) (jc8:Str) (jc9:Str) (jc10:LX) (lh_3:LI):St:={ tmps:=[ny,AV.ptr 0 0,AV.ptr 1 0,AV.ptr 2 0,ai i4,ny,ny,ny,ny,ny,ny,ny,ny,ny,ny,ny,ny,ny,ny,ny,ny,ny,ny,ny,ny,ny,ny,ny,ny,ny,ny,ny,ny,ny,ny,ny,ny,ny,ny,ny,ny,ny,ny,ny,ny,ny,ny,ny,ny,ny,ny,ny,ny,ny,ny,ny,ny,ny,ny,ny,ny,ny,ny,ny,ny,ny,ny,ny,ny,ny],heap:=[AO.box [AV.str ja0,AV.sl zh ja1,ai ja2,AV.sl zg ja3,AV.sl zt ja4,AV.str ja5,ai ja6,ai ja7,AV.str ja8,AV.str ja9,AV.sl Sh.expr ja10],AO.box [AV.str jb0,AV.nils,ai jb2,AV.nils,AV.nils,AV.str jb5,ai jb6,ai jb7,AV.str jb8,AV.str jb9,AV.nils],AO.box
 [AV.str jc0,AV.sl zh jc1,ai jc2,AV.vec 3,AV.nils,AV.str jc5,ai jc6,ai jc7,AV.str jc8,AV.str jc9,AV.sl Sh.expr jc10],AO.vec zg lh_3] }
theorem ok5:zF (zem).P 56 Tryz.f56 1:=by refine ⟨?_,?_,?_,?_⟩ <;> kernel_rfl
theorem go5 (x0:Sem zn):run (zem) 0 kp5 (Func.results Tryz.f56).toList 400 (zq Tryz.f56) (zp (Func.ntmps Tryz.f56) [zx zn x0] [])=Tr.ok (zD.head 3 (zA Tryz.f56 3) (zHg 0 x0.1 x0.2.1 x0.2.2.1 x0.2.2.2.1 x0.2.2.2.2.1 (ze.op x0.2.2.2.2.2) (ze.v x0.2.2.2.2.2).1 (ze.v x0.2.2.2.2.2).2.1 (ze.v x0.2.2.2.2.2).2.2 (ze.s x0.2.2.2.2.2) (ze.l x0.2.2.2.2.2) [] 0 [] 0 0 [] [] (zmV x0.1) (zke x0.2.1) x0.2.2.1 (ze.op (zdr (zz x0.2.2.2.2.2))) (ze.v (zdr (zz x0.2.2.2.2.2))).1 (ze.v (zdr (zz x0.2.2.2.2.2))).2.1 (ze.v (zdr (zz x0.2.2.2.2.2))).2.2 (ze.s (zdr (zz x0.2.2.2.2.2))) (ze.l (zdr (zz x0.2.2.2.2.2))) [])):=by kernel_rfl
abbrev zC4 (i5:Int) (ja0:TS) (ja1:LC) (ja2:Sem zg) (ja3:LI) (ja4:LF) (ja5:Str) (ja6:Int) (ja7:Int) (ja8:Str) (ja9:Str) (ja10:LX) (jb0:List UInt8) (jb2:Int) (jb5:List UInt8) (jb6:Int) (jb7:Int) (jb8:List UInt8) (jb9:List UInt8) (jc0:TS) (jc1:LC) (jc2:Sem zg) (jc5:Str) (jc6:Int) (jc7:Int) (jc8:Str) (jc9:Str) (jc10:LX) (lh_3:LI) (lh_4:LF):St:={ tmps:=[ny,AV.ptr 0 0,AV.ptr 1 0,AV.ptr 2 0,ny,ai i5,ny,ny,ny,ny,ny,ny,ny,ny,ny,ny,ny,ny,ny,ny,ny,ny,ny,ny,ny,ny,ny,ny,ny,ny,ny,ny,ny,ny,ny,ny,ny,ny,ny,ny,ny,ny,ny,ny,ny,ny,ny,ny,ny,ny,ny,ny,ny,ny,ny,ny,ny,ny,ny,ny,ny,ny,ny,ny,ny,ny,ny,ny,ny,ny],heap:=[AO.box [AV.str ja0,AV.sl zh ja1,ai ja2,AV.sl zg ja3,AV.sl zt ja4,AV.str ja5,ai ja6,ai ja7,AV.str ja8,AV.str ja9,AV.sl Sh.expr ja10],AO.box [AV.str jb0,AV.nils,ai jb2,AV.nils,AV.nils,AV.str jb5,ai jb6,ai jb7,AV.str jb8,AV.str jb9,AV.nils],AO.box
 [AV.str jc0,AV.sl zh jc1,ai jc2,AV.vec 3,AV.vec 4,AV.str jc5,ai jc6,ai jc7,AV.str jc8,AV.str jc9,AV.sl Sh.expr jc10],AO.vec zg lh_3,AO.vec zt lh_4] }
theorem zKC (i4:Int) (ja0:TS) (ja1:LC) (ja2:Sem zg) (ja3:LI) (ja4:LF) (ja5:Str) (ja6:Int) (ja7:Int) (ja8:Str) (ja9:Str) (ja10:LX) (jb0:List UInt8) (jb2:Int) (jb5:List UInt8) (jb6:Int) (jb7:Int) (jb8:List UInt8) (jb9:List UInt8) (jc0:TS) (jc1:LC) (jc2:Sem zg) (jc5:Str) (jc6:Int) (jc7:Int) (jc8:Str) (jc9:Str) (jc10:LX) (lh_3:LI):run (zem) 0 kp5 (Func.results Tryz.f56).toList 400 (zA Tryz.f56 3) (zHg i4 ja0 ja1 ja2 ja3 ja4 ja5 ja6 ja7 ja8 ja9 ja10 jb0 jb2 jb5 jb6 jb7 jb8 jb9 jc0 jc1 jc2 jc5 jc6 jc7 jc8 jc9 jc10 lh_3)=Tr.br (bif decide (i4 < (↑ja3.length:Int)) then decide (i4 < 10) else false) (Tr.chk (inB i4 ja3.length) (Tr.chk (decide (lh_3.length+[ja3.getD i4.toNat (zl zg)].length≤1073741824)) (Tr.ok (zD.head 3 (zA Tryz.f56 3) (zHg (IntKind.i64.wrap (i4+1)) ja0 ja1 ja2 ja3 ja4 ja5 ja6 ja7 ja8 ja9 ja10 jb0 jb2 jb5 jb6 jb7 jb8 jb9 jc0 jc1 jc2 jc5 jc6 jc7 jc8 jc9 jc10 (lh_3++[ja3.getD i4.toNat (zl zg)])))))) (Tr.ok (zD.head 7 (zA Tryz.f56 7) (zC4 0 ja0 ja1 ja2 ja3 ja4 ja5 ja6 ja7 ja8 ja9 ja10 jb0 jb2 jb5 jb6 jb7 jb8 jb9 jc0 jc1 jc2 jc5 jc6 jc7 jc8 jc9 jc10 lh_3 []))):=by kernel_rfl
theorem zKO (i5:Int) (ja0:TS) (ja1:LC) (ja2:Sem zg) (ja3:LI) (ja4:LF) (ja5:Str) (ja6:Int) (ja7:Int) (ja8:Str) (ja9:Str) (ja10:LX) (jb0:List UInt8) (jb2:Int) (jb5:List UInt8) (jb6:Int) (jb7:Int) (jb8:List UInt8) (jb9:List UInt8) (jc0:TS) (jc1:LC) (jc2:Sem zg) (jc5:Str) (jc6:Int) (jc7:Int) (jc8:Str) (jc9:Str) (jc10:LX) (lh_3:LI) (lh_4:LF):run (zem) 0 kp5 (Func.results Tryz.f56).toList 400 (zA Tryz.f56 7) (zC4 i5 ja0 ja1 ja2 ja3 ja4 ja5 ja6 ja7 ja8 ja9 ja10 jb0 jb2 jb5 jb6 jb7 jb8 jb9 jc0 jc1 jc2 jc5 jc6 jc7 jc8 jc9 jc10 lh_3 lh_4)=Tr.br (bif decide (i5 < (↑ja4.length:Int)) then decide (i5 < 10) else false) (Tr.chk (inB i5 ja4.length) (Tr.chk (inB i5 ja4.length) (Tr.chk (decide (lh_4.length+[((ja4.getD i5.toNat (zl zt)).1,zmV (ja4.getD i5.toNat (zl zt)).2)].length≤1073741824)) (Tr.ok (zD.head 7 (zA Tryz.f56 7) (zC4 (IntKind.i64.wrap (i5+1)) ja0 ja1 ja2 ja3 ja4 ja5 ja6 ja7 ja8 ja9 ja10 jb0 jb2 jb5 jb6 jb7 jb8 jb9 jc0 jc1 jc2 jc5 jc6 jc7 jc8 jc9 jc10 lh_3 (lh_4++[((ja4.getD i5.toNat (zl zt)).1,zmV (ja4.getD i5.toNat (zl zt)).2)]))))))) (Tr.ok (zD.ret (AV.agg [AV.str jc0,AV.sl zh jc1,ai jc2,AV.vec 0,AV.vec 1,AV.str jc5,ai jc6,ai jc7,AV.str jc8,AV.str jc9,AV.sl Sh.expr jc10])
 [AO.vec zg lh_3,AO.vec zt lh_4])):=by kernel_rfl
def zfr (ja0:TS) (ja1:LC) (ja2:Sem zg) (ja3:LI) (ja5:Str) (ja6:Int) (ja7:Int) (ja8:Str) (ja9:Str) (ja10:LX) (jb0:List UInt8) (jb2:Int) (jb5:List UInt8) (jb6:Int) (jb7:Int) (jb8:List UInt8) (jb9:List UInt8) (jc0:TS) (jc1:LC) (jc2:Sem zg) (jc5:Str) (jc6:Int) (jc7:Int) (jc8:Str) (jc9:Str) (jc10:LX) (lh_3:LI):List (Sem zt)→Int→List (Sem zt)→Sem zn
 | [],_,lh_4=>((jc0,jc1,jc2,lh_3,lh_4,ze.mk jc5 (jc6,jc7,jc8) jc9 jc10))
 | x::r,i5,lh_4=>(if decide (i5 < 10)=true then
 zfr ja0 ja1 ja2 ja3 ja5 ja6 ja7 ja8 ja9 ja10 jb0 jb2 jb5 jb6 jb7 jb8 jb9 jc0 jc1 jc2 jc5
  jc6 jc7 jc8 jc9 jc10 lh_3 r (i5+1) (lh_4++[(x.1,zmV x.2)])
else (jc0,jc1,jc2,lh_3,lh_4,ze.mk jc5 (jc6,jc7,jc8) jc9 jc10))
def zfD (ja0:TS) (ja1:LC) (ja2:Sem zg) (ja3:LI) (ja5:Str) (ja6:Int) (ja7:Int) (ja8:Str) (ja9:Str) (ja10:LX) (jb0:List UInt8) (jb2:Int) (jb5:List UInt8) (jb6:Int) (jb7:Int) (jb8:List UInt8) (jb9:List UInt8) (jc0:TS) (jc1:LC) (jc2:Sem zg) (jc5:Str) (jc6:Int) (jc7:Int) (jc8:Str) (jc9:Str) (jc10:LX) (lh_3:LI):List (Sem zt)→Int→List (Sem zt)→Bool
 | [],_,_=>(true)
 | x::r,i5,lh_4=>(if decide (i5 < 10)=true then
 if decide (lh_4.length+[(x.1,zmV x.2)].length≤1073741824)=true then
  zfD ja0 ja1 ja2 ja3 ja5 ja6 ja7 ja8 ja9 ja10 jb0 jb2 jb5 jb6 jb7 jb8 jb9 jc0 jc1 jc2 jc5
   jc6 jc7 jc8 jc9 jc10 lh_3 r (i5+1) (lh_4++[(x.1,zmV x.2)])
 else false
else true)
theorem zVc {C:Ctx} (hC:∀ id,C.ρ0 id=none) (ja0:TS) (ja1:LC) (ja2:Sem zg) (ja3:LI) (ja5:Str) (ja6:Int) (ja7:Int) (ja8:Str) (ja9:Str) (ja10:LX) (jb0:List UInt8) (jb2:Int) (jb5:List UInt8) (jb6:Int) (jb7:Int) (jb8:List UInt8) (jb9:List UInt8) (jc0:TS) (jc1:LC) (jc2:Sem zg) (jc5:Str) (jc6:Int) (jc7:Int) (jc8:Str) (jc9:Str) (jc10:LX) (lh_3:LI) (ja4:LF) (hl:ja4.length≤zI):∀ (m i:Nat) (lh_4:LF),ja4.length - i=m→i≤ja4.length→zfD ja0 ja1 ja2 ja3 ja5 ja6 ja7 ja8 ja9 ja10 jb0 jb2 jb5 jb6 jb7 jb8 jb9 jc0 jc1 jc2 jc5 jc6 jc7 jc8 jc9 jc10 lh_3 (ja4.drop i) i lh_4=true→
  Reach (zem) C 56 (zA Tryz.f56 7) (zC4 (i:Int) ja0 ja1 ja2 ja3 ja4 ja5 ja6 ja7 ja8 ja9 ja10 jb0 jb2 jb5 jb6 jb7 jb8 jb9 jc0 jc1 jc2 jc5 jc6 jc7 jc8 jc9 jc10 lh_3 lh_4) (fun r h=>zac h [zn] r=some (zfr ja0 ja1 ja2 ja3 ja5 ja6 ja7 ja8 ja9 ja10 jb0 jb2 jb5 jb6 jb7 jb8 jb9 jc0 jc1 jc2 jc5 jc6 jc7 jc8 jc9 jc10 lh_3 (ja4.drop i) i lh_4,())):=by
 intro m
 induction m with
 | zero=>
  intro i lh_4 hm hi hc
  obtain rfl:i=ja4.length:=by omega
  rw [List.drop_length] at hc ⊢
  refine zr zeX zeM (ok5) (fun id _=>hC id) (zKO _ _ _ _ _ _ _ _ _ _ _ _ _ _ _ _ _ _ _ _ _ _ _ _ _ _ _ _ _ _) ?_
  rw [zfD] at hc
  generalize hy:zfr ja0 ja1 ja2 ja3 ja5 ja6 ja7 ja8 ja9 ja10 jb0 jb2 jb5 jb6 jb7 jb8 jb9 jc0 jc1 jc2 jc5 jc6 jc7 jc8 jc9 jc10 lh_3 [] _ lh_4=y
  rw [zfr] at hy
  simp only [zP,cond_false,Tr.val_brF]
  repeat' (first | with_reducible refine obr hy hc (fun _ hy hc=>?_) (fun _ hy hc=>?_) | with_reducible refine zay hy (fun _ hy=>?_) (fun _ hy=>?_) | with_reducible refine zaZ hc (fun hc=>?_) | with_reducible refine zy ?_)
  all_goals (subst hy; first | (change Reach _ _ _ _ _ _; apply zzh hC <;> first | assumption | exact hc) | rfl)
 | succ m IH=>
  intro i lh_4 hm hi hc
  have hlt:i < ja4.length:=by omega
  have IH:=IH (i+1)
  have hcast:((i:Int)+1)=((i+1:Nat):Int):=by omega
  have hwr:=zH i (by omega)
  rw [List.drop_eq_getElem_cons hlt] at hc ⊢
  refine zr zeX zeM (ok5) (fun id _=>hC id) (zKO _ _ _ _ _ _ _ _ _ _ _ _ _ _ _ _ _ _ _ _ _ _ _ _ _ _ _ _ _ _) ?_
  rw [zfD] at hc
  generalize hy:zfr ja0 ja1 ja2 ja3 ja5 ja6 ja7 ja8 ja9 ja10 jb0 jb2 jb5 jb6 jb7 jb8 jb9 jc0 jc1 jc2 jc5 jc6 jc7 jc8 jc9 jc10 lh_3 (ja4[i]::ja4.drop (i+1)) (i:Int) lh_4=y
  rw [zfr] at hy
  simp only [zV hlt,zK hlt,zaD ja4 _ hlt,hwr,cond_true]
  clear hwr
  simp only [hcast] at hy
  try simp only [hcast] at hc
  repeat' (first | with_reducible refine obr hy hc (fun _ hy hc=>?_) (fun _ hy hc=>?_) | with_reducible refine zay hy (fun _ hy=>?_) (fun _ hy=>?_) | with_reducible refine zaZ hc (fun hc=>?_) | with_reducible refine zy ?_)
  all_goals (subst hy; first | (change Reach _ _ _ _ _ _; apply IH <;> first | omega | assumption) | (change Reach _ _ _ _ _ _; apply zzh hC <;> first | assumption | exact hc) | rfl)
theorem zyY {C:Ctx} (hC:∀ id,C.ρ0 id=none) (ja0:TS) (ja1:LC) (ja2:Sem zg) (ja3:LI) (ja5:Str) (ja6:Int) (ja7:Int) (ja8:Str) (ja9:Str) (ja10:LX) (jb0:List UInt8) (jb2:Int) (jb5:List UInt8) (jb6:Int) (jb7:Int) (jb8:List UInt8) (jb9:List UInt8) (jc0:TS) (jc1:LC) (jc2:Sem zg) (jc5:Str) (jc6:Int) (jc7:Int) (jc8:Str) (jc9:Str) (jc10:LX) (lh_3:LI) (ja4:LF) (lh_4:LF) (hc:zfD ja0 ja1 ja2 ja3 ja5 ja6 ja7 ja8 ja9 ja10 jb0 jb2 jb5 jb6 jb7 jb8 jb9 jc0 jc1 jc2 jc5 jc6 jc7 jc8 jc9 jc10 lh_3 ja4 0 lh_4=true):
  Reach (zem) C 56 (zA Tryz.f56 7) (zC4 0 ja0 ja1 ja2 ja3 ja4 ja5 ja6 ja7 ja8 ja9 ja10 jb0 jb2 jb5 jb6 jb7 jb8 jb9 jc0 jc1 jc2 jc5 jc6 jc7 jc8 jc9 jc10 lh_3 lh_4) (fun r h=>zac h [zn] r=some (zfr ja0 ja1 ja2 ja3 ja5 ja6 ja7 ja8 ja9 ja10 jb0 jb2 jb5 jb6 jb7 jb8 jb9 jc0 jc1 jc2 jc5 jc6 jc7 jc8 jc9 jc10 lh_3 ja4 0 lh_4,())):=
 Reach.lenB 0 4 (zg.pr Sh.str) ja4 rfl rfl fun hl=>zVc hC ja0 ja1 ja2 ja3 ja5 ja6 ja7 ja8 ja9 ja10 jb0 jb2 jb5 jb6 jb7 jb8 jb9 jc0 jc1 jc2 jc5 jc6 jc7 jc8 jc9 jc10 lh_3 ja4 hl _ 0 lh_4 rfl (Nat.zero_le _) hc
def zf9 (ja0:TS) (ja1:LC) (ja2:Sem zg) (ja4:LF) (ja5:Str) (ja6:Int) (ja7:Int) (ja8:Str) (ja9:Str) (ja10:LX) (jb0:List UInt8) (jb2:Int) (jb5:List UInt8) (jb6:Int) (jb7:Int) (jb8:List UInt8) (jb9:List UInt8) (jc0:TS) (jc1:LC) (jc2:Sem zg) (jc5:Str) (jc6:Int) (jc7:Int) (jc8:Str) (jc9:Str) (jc10:LX) (ja3:LI):List (Sem zg)→Int→List (Sem zg)→Sem zn
 | [],_,lh_3=>(zfr ja0 ja1 ja2 ja3 ja5 ja6 ja7 ja8 ja9 ja10 jb0 jb2 jb5 jb6 jb7 jb8 jb9 jc0 jc1 jc2 jc5
 jc6 jc7 jc8 jc9 jc10 lh_3 ja4 0 [])
 | x::r,i4,lh_3=>(if decide (i4 < 10)=true then
 zf9 ja0 ja1 ja2 ja4 ja5 ja6 ja7 ja8 ja9 ja10 jb0 jb2 jb5 jb6 jb7 jb8 jb9 jc0 jc1 jc2 jc5
  jc6 jc7 jc8 jc9 jc10 ja3 r (i4+1) (lh_3++[x])
else
 zfr ja0 ja1 ja2 ja3 ja5 ja6 ja7 ja8 ja9 ja10 jb0 jb2 jb5 jb6 jb7 jb8 jb9 jc0 jc1 jc2 jc5
  jc6 jc7 jc8 jc9 jc10 lh_3 ja4 0 [])
def zfI (ja0:TS) (ja1:LC) (ja2:Sem zg) (ja4:LF) (ja5:Str) (ja6:Int) (ja7:Int) (ja8:Str) (ja9:Str) (ja10:LX) (jb0:List UInt8) (jb2:Int) (jb5:List UInt8) (jb6:Int) (jb7:Int) (jb8:List UInt8) (jb9:List UInt8) (jc0:TS) (jc1:LC) (jc2:Sem zg) (jc5:Str) (jc6:Int) (jc7:Int) (jc8:Str) (jc9:Str) (jc10:LX) (ja3:LI):List (Sem zg)→Int→List (Sem zg)→Bool
 | [],_,lh_3=>(zfD ja0 ja1 ja2 ja3 ja5 ja6 ja7 ja8 ja9 ja10 jb0 jb2 jb5 jb6 jb7 jb8 jb9 jc0 jc1 jc2 jc5
 jc6 jc7 jc8 jc9 jc10 lh_3 ja4 0 [])
 | x::r,i4,lh_3=>(if decide (i4 < 10)=true then
 if decide (lh_3.length+[x].length≤1073741824)=true then
  zfI ja0 ja1 ja2 ja4 ja5 ja6 ja7 ja8 ja9 ja10 jb0 jb2 jb5 jb6 jb7 jb8 jb9 jc0 jc1 jc2 jc5
   jc6 jc7 jc8 jc9 jc10 ja3 r (i4+1) (lh_3++[x])
 else false
else
 zfD ja0 ja1 ja2 ja3 ja5 ja6 ja7 ja8 ja9 ja10 jb0 jb2 jb5 jb6 jb7 jb8 jb9 jc0 jc1 jc2 jc5
  jc6 jc7 jc8 jc9 jc10 lh_3 ja4 0 [])
theorem zUe {C:Ctx} (hC:∀ id,C.ρ0 id=none) (ja0:TS) (ja1:LC) (ja2:Sem zg) (ja4:LF) (ja5:Str) (ja6:Int) (ja7:Int) (ja8:Str) (ja9:Str) (ja10:LX) (jb0:List UInt8) (jb2:Int) (jb5:List UInt8) (jb6:Int) (jb7:Int) (jb8:List UInt8) (jb9:List UInt8) (jc0:TS) (jc1:LC) (jc2:Sem zg) (jc5:Str) (jc6:Int) (jc7:Int) (jc8:Str) (jc9:Str) (jc10:LX) (ja3:LI) (hl:ja3.length≤zI):∀ (m i:Nat) (lh_3:LI),ja3.length - i=m→i≤ja3.length→zfI ja0 ja1 ja2 ja4 ja5 ja6 ja7 ja8 ja9 ja10 jb0 jb2 jb5 jb6 jb7 jb8 jb9 jc0 jc1 jc2 jc5 jc6 jc7 jc8 jc9 jc10 ja3 (ja3.drop i) i lh_3=true→
  Reach (zem) C 56 (zA Tryz.f56 3) (zHg (i:Int) ja0 ja1 ja2 ja3 ja4 ja5 ja6 ja7 ja8 ja9 ja10 jb0 jb2 jb5 jb6 jb7 jb8 jb9 jc0 jc1 jc2 jc5 jc6 jc7 jc8 jc9 jc10 lh_3) (fun r h=>zac h [zn] r=some (zf9 ja0 ja1 ja2 ja4 ja5 ja6 ja7 ja8 ja9 ja10 jb0 jb2 jb5 jb6 jb7 jb8 jb9 jc0 jc1 jc2 jc5 jc6 jc7 jc8 jc9 jc10 ja3 (ja3.drop i) i lh_3,())):=by
 intro m
 induction m with
 | zero=>
  intro i lh_3 hm hi hc
  obtain rfl:i=ja3.length:=by omega
  rw [List.drop_length] at hc ⊢
  refine zr zeX zeM (ok5) (fun id _=>hC id) (zKC _ _ _ _ _ _ _ _ _ _ _ _ _ _ _ _ _ _ _ _ _ _ _ _ _ _ _ _ _) ?_
  rw [zfI] at hc
  generalize hy:zf9 ja0 ja1 ja2 ja4 ja5 ja6 ja7 ja8 ja9 ja10 jb0 jb2 jb5 jb6 jb7 jb8 jb9 jc0 jc1 jc2 jc5 jc6 jc7 jc8 jc9 jc10 ja3 [] _ lh_3=y
  rw [zf9] at hy
  simp only [zP,cond_false,Tr.val_brF]
  repeat' (first | with_reducible refine obr hy hc (fun _ hy hc=>?_) (fun _ hy hc=>?_) | with_reducible refine zay hy (fun _ hy=>?_) (fun _ hy=>?_) | with_reducible refine zaZ hc (fun hc=>?_) | with_reducible refine zy ?_)
  all_goals (subst hy; first | (change Reach _ _ _ _ _ _; apply zyY hC <;> first | assumption | exact hc) | rfl)
 | succ m IH=>
  intro i lh_3 hm hi hc
  have hlt:i < ja3.length:=by omega
  have IH:=IH (i+1)
  have hcast:((i:Int)+1)=((i+1:Nat):Int):=by omega
  have hwr:=zH i (by omega)
  rw [List.drop_eq_getElem_cons hlt] at hc ⊢
  refine zr zeX zeM (ok5) (fun id _=>hC id) (zKC _ _ _ _ _ _ _ _ _ _ _ _ _ _ _ _ _ _ _ _ _ _ _ _ _ _ _ _ _) ?_
  rw [zfI] at hc
  generalize hy:zf9 ja0 ja1 ja2 ja4 ja5 ja6 ja7 ja8 ja9 ja10 jb0 jb2 jb5 jb6 jb7 jb8 jb9 jc0 jc1 jc2 jc5 jc6 jc7 jc8 jc9 jc10 ja3 (ja3[i]::ja3.drop (i+1)) (i:Int) lh_3=y
  rw [zf9] at hy
  simp only [zV hlt,zK hlt,zaD ja3 _ hlt,hwr,cond_true]
  clear hwr
  simp only [hcast] at hy
  try simp only [hcast] at hc
  repeat' (first | with_reducible refine obr hy hc (fun _ hy hc=>?_) (fun _ hy hc=>?_) | with_reducible refine zay hy (fun _ hy=>?_) (fun _ hy=>?_) | with_reducible refine zaZ hc (fun hc=>?_) | with_reducible refine zy ?_)
  all_goals (subst hy; first | (change Reach _ _ _ _ _ _; apply IH <;> first | omega | assumption) | (change Reach _ _ _ _ _ _; apply zyY hC <;> first | assumption | exact hc) | rfl)
theorem zzh {C:Ctx} (hC:∀ id,C.ρ0 id=none) (ja0:TS) (ja1:LC) (ja2:Sem zg) (ja4:LF) (ja5:Str) (ja6:Int) (ja7:Int) (ja8:Str) (ja9:Str) (ja10:LX) (jb0:List UInt8) (jb2:Int) (jb5:List UInt8) (jb6:Int) (jb7:Int) (jb8:List UInt8) (jb9:List UInt8) (jc0:TS) (jc1:LC) (jc2:Sem zg) (jc5:Str) (jc6:Int) (jc7:Int) (jc8:Str) (jc9:Str) (jc10:LX) (ja3:LI) (lh_3:LI) (hc:zfI ja0 ja1 ja2 ja4 ja5 ja6 ja7 ja8 ja9 ja10 jb0 jb2 jb5 jb6 jb7 jb8 jb9 jc0 jc1 jc2 jc5 jc6 jc7 jc8 jc9 jc10 ja3 ja3 0 lh_3=true):
  Reach (zem) C 56 (zA Tryz.f56 3) (zHg 0 ja0 ja1 ja2 ja3 ja4 ja5 ja6 ja7 ja8 ja9 ja10 jb0 jb2 jb5 jb6 jb7 jb8 jb9 jc0 jc1 jc2 jc5 jc6 jc7 jc8 jc9 jc10 lh_3) (fun r h=>zac h [zn] r=some (zf9 ja0 ja1 ja2 ja4 ja5 ja6 ja7 ja8 ja9 ja10 jb0 jb2 jb5 jb6 jb7 jb8 jb9 jc0 jc1 jc2 jc5 jc6 jc7 jc8 jc9 jc10 ja3 ja3 0 lh_3,())):=
 Reach.lenB 0 3 (Sh.int IntKind.i64) ja3 rfl rfl fun hl=>zUe hC ja0 ja1 ja2 ja4 ja5 ja6 ja7 ja8 ja9 ja10 jb0 jb2 jb5 jb6 jb7 jb8 jb9 jc0 jc1 jc2 jc5 jc6 jc7 jc8 jc9 jc10 ja3 hl _ 0 lh_3 rfl (Nat.zero_le _) hc
def zmS (x0:Sem zn):Sem zn:=(zf9 x0.1 x0.2.1 x0.2.2.1 x0.2.2.2.2.1 (ze.op x0.2.2.2.2.2) (ze.v x0.2.2.2.2.2).1 (ze.v x0.2.2.2.2.2).2.1 (ze.v x0.2.2.2.2.2).2.2 (ze.s x0.2.2.2.2.2) (ze.l x0.2.2.2.2.2) [] 0 [] 0 0 [] [] (zmV x0.1) (zke x0.2.1) x0.2.2.1 (ze.op (zdr x0.2.2.2.2.2)) (ze.v (zdr x0.2.2.2.2.2)).1 (ze.v (zdr x0.2.2.2.2.2)).2.1 (ze.v (zdr x0.2.2.2.2.2)).2.2 (ze.s (zdr x0.2.2.2.2.2)) (ze.l (zdr x0.2.2.2.2.2)) x0.2.2.2.1 x0.2.2.2.1 0 [])
def zA1 (x0:Sem zn):Bool:=(zfI x0.1 x0.2.1 x0.2.2.1 x0.2.2.2.2.1 (ze.op x0.2.2.2.2.2) (ze.v x0.2.2.2.2.2).1 (ze.v x0.2.2.2.2.2).2.1 (ze.v x0.2.2.2.2.2).2.2 (ze.s x0.2.2.2.2.2) (ze.l x0.2.2.2.2.2) [] 0 [] 0 0 [] [] (zmV x0.1) (zke x0.2.1) x0.2.2.1 (ze.op (zdr x0.2.2.2.2.2)) (ze.v (zdr x0.2.2.2.2.2)).1 (ze.v (zdr x0.2.2.2.2.2)).2.1 (ze.v (zdr x0.2.2.2.2.2)).2.2 (ze.s (zdr x0.2.2.2.2.2)) (ze.l (zdr x0.2.2.2.2.2)) x0.2.2.2.1 x0.2.2.2.1 0 [])
def F5:zJ:=zG [zn] [zn] (fun x=>zA1 x.1) fun x=>(zmS x.1,())
theorem zRc:FOk (zem).P (zem).gl 56 F5:=by
 refine zT (ok5) fun x hc C hC=>?_
 unfold zA1 at hc
 refine zr zeX zeM (ok5) (fun id _=>hC id) (go5 x.1) ?_
 generalize hy:zmS x.1=y
 unfold zmS at hy
 try simp only [ze.eta]
 repeat' (first | with_reducible refine obr hy hc (fun _ hy hc=>?_) (fun _ hy hc=>?_) | with_reducible refine zay hy (fun _ hy=>?_) (fun _ hy=>?_) | with_reducible refine zaZ hc (fun hc=>?_) | with_reducible refine zy ?_)
 all_goals (subst hy; first | (change Reach _ _ _ _ _ _; apply zzh hC <;> first | assumption | exact hc) | (change Reach _ _ _ _ _ _; apply zyY hC <;> first | assumption | exact hc) | rfl)

noncomputable def zk7:Env:=((zem.add 48 F19).add 56 F5)
theorem zCY:zi zk7:=(zi.addS (zi.addS zeX (zB.refl zem) zKD) ((zB.refl zem).add _ _) zRc)
theorem zCA:zk7.P.follows .mixedOrders=true:=(zm (zm zeM _ _) _ _)
open Go Go.Proofs

theorem ztS (e:ze) (cols:List (Sem zh)):zo9 e cols=true:=by
 unfold zo9
 rw [if_pos (zzj 15 e)]
theorem zib {a0 a1 a2 a3 a4 a5 a6 a7 a8 a9 b0 b1 b2 b3 b4 b5 b6 d0 d1 d2 d3 d4 d5 d6 d7 d8 d9}:∀ (l:List (Sem zt)) (i:Int) (acc:List (Sem zt)),(acc.length:Int)≤i→zfD a0 a1 a2 a3 a4 a5 a6 a7 a8 a9 b0 b1 b2 b3 b4 b5 b6 d0 d1 d2 d3 d4 d5 d6 d7 d8 d9 l i acc=true
 | [],_,_,_=>rfl
 | x::r,i,acc,h=>by
  rw [zfD]
  split
  ·rename_i hi
   simp only [decide_eq_true_eq] at hi
   rw [if_pos (by simp; omega)]
   exact zib r (i+1) _ (by simp; omega)
  ·rfl
theorem zmo {a0 a1 a2 a3 a4 a5 a6 a7 a8 a9 b0 b1 b2 b3 b4 b5 b6 d0 d1 d2 d3 d4 d5 d6 d7 d8 d9}:∀ (l:List (Sem zg)) (i:Int) (acc:List (Sem zg)),(acc.length:Int)≤i→zfI a0 a1 a2 a3 a4 a5 a6 a7 a8 a9 b0 b1 b2 b3 b4 b5 b6 d0 d1 d2 d3 d4 d5 d6 d7 d8 d9 l i acc=true
 | [],_,_,_=>by rw [zfI]; exact zib _ _ _ (by simp)
 | x::r,i,acc,h=>by
  rw [zfI]
  split
  ·rename_i hi
   simp only [decide_eq_true_eq] at hi
   rw [if_pos (by simp; omega)]
   exact zmo r (i+1) _ (by simp; omega)
  ·exact zib _ _ _ (by simp)
theorem zzb (t:Sem zn):zA1 t=true:=by
 unfold zA1
 exact zmo _ _ _ (by simp)
def zSs:zJ:=zaf [Sh.expr,zh.sl] [zg] fun x=>(zdz x.1 x.2.1,())
theorem zMP:FOk zk7.P zk7.gl 48 zSs:=zdl zKD fun x=>ztS x.1 x.2.1
def F5t:zJ:=zaf [zn] [zn] fun x=>(zmS x.1,())
theorem zVu:FOk zk7.P zk7.gl 56 F5t:=zdl zRc fun x=>zzb x.1

noncomputable def zfn:Env:=((zk7.add 48 zSs).add 56 F5t)
theorem zd8:zi zfn:=(zi.addS (zi.addS zCY (zB.refl zk7) zMP) ((zB.refl zk7).add _ _) zVu)
theorem zd3:zfn.P.follows .mixedOrders=true:=(zm (zm zCA _ _) _ _)
open Go Go.Proofs

abbrev kp8:Nat→zQ:=fun j=>if j=4 then { slots:=[1,27,28,29] } else if j=11 then { slots:=[1,5,59,60,61] } else if j=17 then { slots:=[1,5,71,72,73] } else { }
abbrev zD7 (l27:LC) (i28:Int) (i29:Int) (ja0:TS) (ja1:LC) (ja2:Sem zg) (ja3:LI) (ja4:LF) (ja5:Str) (ja6:Int) (ja7:Int) (ja8:Str) (ja9:Str) (ja10:LX):St:={ tmps:=[ny,AV.ptr 0 0,ny,ny,ny,ny,ny,ny,ny,ny,ny,ny,ny,ny,ny,ny,ny,ny,ny,ny,ny,ny,ny,ny,ny,ny,ny,AV.sl zh l27,ai i28,ai i29,ny,ny,ny,ny,ny,ny,ny,ny,ny,ny,ny,ny,ny,ny,ny,ny,ny,ny,ny,ny,ny,ny,ny,ny,ny,ny,ny,ny,ny,ny,ny,ny,ny,ny,ny,ny,ny,ny,ny,ny,ny,ny,ny,ny,ny,ny,ny,ny,ny,ny,ny,ny,ny,ny,ny,ny,ny,ny,ny,ny,ny,ny,ny,ny,ny,ny,ny,ny,ny,ny,ny,ny,ny,ny,ny,ny,ny,ny,ny,ny],heap:=[AO.box [AV.str ja0,AV.sl zh ja1,ai ja2,AV.sl zg ja3,AV.sl zt ja4,AV.str ja5,ai ja6,ai ja7,AV.str ja8,AV.str ja9,AV.sl Sh.expr ja10]] }
theorem ok8:zF (zfn).P 18 Tryz.f18 1:=by refine ⟨?_,?_,?_,?_⟩ <;> kernel_rfl
theorem go8 (x0:Sem zn):run (zfn) 0 kp8 (Func.results Tryz.f18).toList 400 (zq Tryz.f18) (zp (Func.ntmps Tryz.f18) [zx zn x0] [])=Tr.br (bif !zaB x0.1 then true else bif decide ((↑(List.length x0.2.1):Int) < 1) then true else decide ((↑(List.length x0.2.1):Int) > 8)) (Tr.ok (zD.ret (AV.kb false) [])) (Tr.ok (zD.head 4 (zA Tryz.f18 4) (zD7 x0.2.1 (↑(List.length x0.2.1):Int) 0 x0.1 x0.2.1 x0.2.2.1 x0.2.2.2.1 x0.2.2.2.2.1 (ze.op x0.2.2.2.2.2) (ze.v x0.2.2.2.2.2).1 (ze.v x0.2.2.2.2.2).2.1 (ze.v x0.2.2.2.2.2).2.2 (ze.s x0.2.2.2.2.2) (ze.l x0.2.2.2.2.2)))):=by kernel_rfl
abbrev zxv (l59:LI) (i60:Int) (i61:Int) (ja0:TS) (ja1:LC) (ja2:Sem zg) (ja3:LI) (ja4:LF) (ja5:Str) (ja6:Int) (ja7:Int) (ja8:Str) (ja9:Str) (ja10:LX):St:={ tmps:=[ny,AV.ptr 0 0,ny,ny,ny,AV.clo (Fn.func 47) [] [AV.ptr 0 0],ny,ny,ny,ny,ny,ny,ny,ny,ny,ny,ny,ny,ny,ny,ny,ny,ny,ny,ny,ny,ny,ny,ny,ny,ny,ny,ny,ny,ny,ny,ny,ny,ny,ny,ny,ny,ny,ny,ny,ny,ny,ny,ny,ny,ny,ny,ny,ny,ny,ny,ny,ny,ny,AV.sl zg l59,ai i60,ai i61,ny,ny,ny,ny,ny,ny,ny,ny,ny,ny,ny,ny,ny,ny,ny,ny,ny,ny,ny,ny,ny,ny,ny,ny,ny,ny,ny,ny,ny,ny,ny,ny,ny,ny,ny,ny,ny,ny,ny,ny,ny,ny,ny,ny,ny,ny,ny,ny],heap:=[AO.box [AV.str ja0,AV.sl zh ja1,ai ja2,AV.sl zg ja3,AV.sl zt ja4,AV.str ja5,ai ja6,ai ja7,AV.str ja8,AV.str ja9,AV.sl Sh.expr ja10]] }
theorem zKV (l27:LC) (i28:Int) (i29:Int) (ja0:TS) (ja1:LC) (ja2:Sem zg) (ja3:LI) (ja4:LF) (ja5:Str) (ja6:Int) (ja7:Int) (ja8:Str) (ja9:Str) (ja10:LX):run (zfn) 0 kp8 (Func.results Tryz.f18).toList 400 (zA Tryz.f18 4) (zD7 l27 i28 i29 ja0 ja1 ja2 ja3 ja4 ja5 ja6 ja7 ja8 ja9 ja10)=Tr.br (decide (i29 < i28)) (Tr.chk (inB i29 l27.length) (Tr.br (bif !zaB (l27.getD i29.toNat (zl zh)).1 then true else bif decide ((l27.getD i29.toNat (zl zh)).2.1 < 1) then true else bif decide ((l27.getD i29.toNat (zl zh)).2.1 > 3) then true else zbF (ja0,ja1,ja2,ja3,ja4,ze.mk ja5 (ja6,ja7,ja8) ja9 ja10) (l27.getD i29.toNat (zl zh)).1 != i29) (Tr.ok (zD.ret (AV.kb false) [])) (Tr.ok (zD.head 4 (zA Tryz.f18 4) (zD7 l27 i28 (IntKind.i64.wrap (i29+1)) ja0 ja1 ja2 ja3 ja4 ja5 ja6 ja7 ja8 ja9 ja10))))) (Tr.ok (zD.head 11 (zA Tryz.f18 11) (zxv ja3 (↑ja3.length:Int) 0 ja0 ja1 ja2 ja3 ja4 ja5 ja6 ja7 ja8 ja9 ja10))):=by kernel_rfl
abbrev zx3 (l71:LF) (i72:Int) (i73:Int) (ja0:TS) (ja1:LC) (ja2:Sem zg) (ja3:LI) (ja4:LF) (ja5:Str) (ja6:Int) (ja7:Int) (ja8:Str) (ja9:Str) (ja10:LX):St:={ tmps:=[ny,AV.ptr 0 0,ny,ny,ny,AV.clo (Fn.func 47) [] [AV.ptr 0 0],ny,ny,ny,ny,ny,ny,ny,ny,ny,ny,ny,ny,ny,ny,ny,ny,ny,ny,ny,ny,ny,ny,ny,ny,ny,ny,ny,ny,ny,ny,ny,ny,ny,ny,ny,ny,ny,ny,ny,ny,ny,ny,ny,ny,ny,ny,ny,ny,ny,ny,ny,ny,ny,ny,ny,ny,ny,ny,ny,ny,ny,ny,ny,ny,ny,AV.sl zt l71,ai i72,ai i73,ny,ny,ny,ny,ny,ny,ny,ny,ny,ny,ny,ny,ny,ny,ny,ny,ny,ny,ny,ny,ny,ny,ny,ny,ny,ny,ny,ny,ny,ny,ny,ny,ny,ny,ny,ny],heap:=[AO.box [AV.str ja0,AV.sl zh ja1,ai ja2,AV.sl zg ja3,AV.sl zt ja4,AV.str ja5,ai ja6,ai ja7,AV.str ja8,AV.str ja9,AV.sl Sh.expr ja10]] }
theorem zEd (l59:LI) (i60:Int) (i61:Int) (ja0:TS) (ja1:LC) (ja2:Sem zg) (ja3:LI) (ja4:LF) (ja5:Str) (ja6:Int) (ja7:Int) (ja8:Str) (ja9:Str) (ja10:LX):run (zfn) 0 kp8 (Func.results Tryz.f18).toList 400 (zA Tryz.f18 11) (zxv l59 i60 i61 ja0 ja1 ja2 ja3 ja4 ja5 ja6 ja7 ja8 ja9 ja10)=Tr.br (decide (i61 < i60)) (Tr.chk (inB i61 l59.length) (Tr.br (!bif decide (l59.getD i61.toNat (zl zg) ≥ 0) then decide (l59.getD i61.toNat (zl zg) < (↑ja1.length:Int)) else false) (Tr.ok (zD.ret (AV.kb false) [])) (Tr.ok (zD.head 11 (zA Tryz.f18 11) (zxv l59 i60 (IntKind.i64.wrap (i61+1)) ja0 ja1 ja2 ja3 ja4 ja5 ja6 ja7 ja8 ja9 ja10))))) (Tr.ok (zD.head 17 (zA Tryz.f18 17) (zx3 ja4 (↑ja4.length:Int) 0 ja0 ja1 ja2 ja3 ja4 ja5 ja6 ja7 ja8 ja9 ja10))):=by kernel_rfl
theorem zEr (l71:LF) (i72:Int) (i73:Int) (ja0:TS) (ja1:LC) (ja2:Sem zg) (ja3:LI) (ja4:LF) (ja5:Str) (ja6:Int) (ja7:Int) (ja8:Str) (ja9:Str) (ja10:LX):run (zfn) 0 kp8 (Func.results Tryz.f18).toList 400 (zA Tryz.f18 17) (zx3 l71 i72 i73 ja0 ja1 ja2 ja3 ja4 ja5 ja6 ja7 ja8 ja9 ja10)=Tr.br (decide (i73 < i72)) (Tr.chk (inB i73 l71.length) (Tr.br (!bif decide ((l71.getD i73.toNat (zl zt)).1 ≥ 0) then decide ((l71.getD i73.toNat (zl zt)).1 < (↑ja1.length:Int)) else false) (Tr.ok (zD.ret (AV.kb false) [])) (Tr.br (!zaB (l71.getD i73.toNat (zl zt)).2) (Tr.ok (zD.ret (AV.kb false) [])) (Tr.ok (zD.head 17 (zA Tryz.f18 17) (zx3 l71 i72 (IntKind.i64.wrap (i73+1)) ja0 ja1 ja2 ja3 ja4 ja5 ja6 ja7 ja8 ja9 ja10)))))) (Tr.br (bif decide (ja2 ≥ 0) then decide (ja2 < (↑ja1.length:Int)) else false) (Tr.chk (inB ja2 ja1.length) (Tr.br (ja1.getD (Int.toNat ja2) (zl zh)).2.2 (Tr.ok (zD.ret (AV.bool (zdz (ze.mk ja5 (ja6,ja7,ja8) ja9 ja10) ja1==0)) [])) (Tr.ok (zD.ret (AV.kb false) [])))) (Tr.ok (zD.ret (AV.kb false) []))):=by kernel_rfl
def zcY (ja0:TS) (ja1:LC) (ja2:Sem zg) (ja3:LI) (ja4:LF) (ja5:Str) (ja6:Int) (ja7:Int) (ja8:Str) (ja9:Str) (ja10:LX):List (Sem zt)→Int→Sem Sh.bool
 | [],_=>(if (bif decide (ja2 ≥ 0) then decide (ja2 < (↑ja1.length:Int)) else false)=true then
 if (ja1.getD (Int.toNat ja2) (zl zh)).2.2=true then
  zdz (ze.mk ja5 (ja6,ja7,ja8) ja9 ja10) ja1==0
 else false
else false)
 | x::r,i73=>(if (!bif decide (x.1 ≥ 0) then decide (x.1 < (↑ja1.length:Int)) else false)=true then false
else if (!zaB x.2)=true then false else zcY ja0 ja1 ja2 ja3 ja4 ja5 ja6 ja7 ja8 ja9 ja10 r (i73+1))
def zek (ja0:TS) (ja1:LC) (ja2:Sem zg) (ja3:LI) (ja4:LF) (ja5:Str) (ja6:Int) (ja7:Int) (ja8:Str) (ja9:Str) (ja10:LX):List (Sem zt)→Int→Bool
 | [],_=>(if (bif decide (ja2 ≥ 0) then decide (ja2 < (↑ja1.length:Int)) else false)=true then if inB ja2 ja1.length=true then true else false
else true)
 | x::r,i73=>(if (!bif decide (x.1 ≥ 0) then decide (x.1 < (↑ja1.length:Int)) else false)=true then true
else if (!zaB x.2)=true then true else zek ja0 ja1 ja2 ja3 ja4 ja5 ja6 ja7 ja8 ja9 ja10 r (i73+1))
theorem zL2 {C:Ctx} (hC:∀ id,C.ρ0 id=none) (ja0:TS) (ja1:LC) (ja2:Sem zg) (ja3:LI) (ja4:LF) (ja5:Str) (ja6:Int) (ja7:Int) (ja8:Str) (ja9:Str) (ja10:LX) (l71:LF) (hl:l71.length≤zI):∀ (m i:Nat),l71.length - i=m→i≤l71.length→zek ja0 ja1 ja2 ja3 ja4 ja5 ja6 ja7 ja8 ja9 ja10 (l71.drop i) i=true→
  Reach (zfn) C 18 (zA Tryz.f18 17) (zx3 l71 (l71.length:Int) (i:Int) ja0 ja1 ja2 ja3 ja4 ja5 ja6 ja7 ja8 ja9 ja10) (fun r h=>zac h [Sh.bool] r=some (zcY ja0 ja1 ja2 ja3 ja4 ja5 ja6 ja7 ja8 ja9 ja10 (l71.drop i) i,())):=by
 intro m
 induction m with
 | zero=>
  intro i hm hi hc
  obtain rfl:i=l71.length:=by omega
  rw [List.drop_length] at hc ⊢
  refine zr zd8 zd3 (ok8) (fun id _=>hC id) (zEr _ _ _ _ _ _ _ _ _ _ _ _ _ _) ?_
  rw [zek] at hc
  generalize hy:zcY ja0 ja1 ja2 ja3 ja4 ja5 ja6 ja7 ja8 ja9 ja10 [] _=y
  rw [zcY] at hy
  simp only [zP,Tr.val_brF]
  repeat' (first | with_reducible refine obr hy hc (fun _ hy hc=>?_) (fun _ hy hc=>?_) | with_reducible refine zay hy (fun _ hy=>?_) (fun _ hy=>?_) | with_reducible refine zaZ hc (fun hc=>?_) | with_reducible refine zy ?_)
  all_goals (subst hy; first | (change Reach _ _ _ _ _ _; apply zrE hC <;> first | assumption | exact hc) | (change Reach _ _ _ _ _ _; apply zmp hC <;> first | assumption | exact hc) | rfl)
 | succ m IH=>
  intro i hm hi hc
  have hlt:i < l71.length:=by omega
  have IH:=IH (i+1)
  have hcast:((i:Int)+1)=((i+1:Nat):Int):=by omega
  have hwr:=zH i (by omega)
  rw [List.drop_eq_getElem_cons hlt] at hc ⊢
  refine zr zd8 zd3 (ok8) (fun id _=>hC id) (zEr _ _ _ _ _ _ _ _ _ _ _ _ _ _) ?_
  rw [zek] at hc
  generalize hy:zcY ja0 ja1 ja2 ja3 ja4 ja5 ja6 ja7 ja8 ja9 ja10 (l71[i]::l71.drop (i+1)) (i:Int)=y
  rw [zcY] at hy
  simp only [zV hlt,zK hlt,zaD l71 _ hlt,hwr,Tr.val_brT,Tr.val_chkT]
  clear hwr
  simp only [hcast] at hy
  try simp only [hcast] at hc
  repeat' (first | with_reducible refine obr hy hc (fun _ hy hc=>?_) (fun _ hy hc=>?_) | with_reducible refine zay hy (fun _ hy=>?_) (fun _ hy=>?_) | with_reducible refine zaZ hc (fun hc=>?_) | with_reducible refine zy ?_)
  all_goals (subst hy; first | (change Reach _ _ _ _ _ _; apply IH <;> first | omega | assumption) | (change Reach _ _ _ _ _ _; apply zrE hC <;> first | assumption | exact hc) | (change Reach _ _ _ _ _ _; apply zmp hC <;> first | assumption | exact hc) | rfl)
theorem zk9 {C:Ctx} (hC:∀ id,C.ρ0 id=none) (ja0:TS) (ja1:LC) (ja2:Sem zg) (ja3:LI) (ja4:LF) (ja5:Str) (ja6:Int) (ja7:Int) (ja8:Str) (ja9:Str) (ja10:LX) (l71:LF) (hc:zek ja0 ja1 ja2 ja3 ja4 ja5 ja6 ja7 ja8 ja9 ja10 l71 0=true):
  Reach (zfn) C 18 (zA Tryz.f18 17) (zx3 l71 (l71.length:Int) 0 ja0 ja1 ja2 ja3 ja4 ja5 ja6 ja7 ja8 ja9 ja10) (fun r h=>zac h [Sh.bool] r=some (zcY ja0 ja1 ja2 ja3 ja4 ja5 ja6 ja7 ja8 ja9 ja10 l71 0,())):=
 Reach.len 71 (zg.pr Sh.str) l71 rfl fun hl=>zL2 hC ja0 ja1 ja2 ja3 ja4 ja5 ja6 ja7 ja8 ja9 ja10 l71 hl _ 0 rfl (Nat.zero_le _) hc
def zcZ (ja0:TS) (ja1:LC) (ja2:Sem zg) (ja3:LI) (ja4:LF) (ja5:Str) (ja6:Int) (ja7:Int) (ja8:Str) (ja9:Str) (ja10:LX):List (Sem zg)→Int→Sem Sh.bool
 | [],_=>(zcY ja0 ja1 ja2 ja3 ja4 ja5 ja6 ja7 ja8 ja9 ja10 ja4 0)
 | x::r,i61=>(if (!bif decide (x ≥ 0) then decide (x < (↑ja1.length:Int)) else false)=true then false
else zcZ ja0 ja1 ja2 ja3 ja4 ja5 ja6 ja7 ja8 ja9 ja10 r (i61+1))
def zef (ja0:TS) (ja1:LC) (ja2:Sem zg) (ja3:LI) (ja4:LF) (ja5:Str) (ja6:Int) (ja7:Int) (ja8:Str) (ja9:Str) (ja10:LX):List (Sem zg)→Int→Bool
 | [],_=>(zek ja0 ja1 ja2 ja3 ja4 ja5 ja6 ja7 ja8 ja9 ja10 ja4 0)
 | x::r,i61=>(if (!bif decide (x ≥ 0) then decide (x < (↑ja1.length:Int)) else false)=true then true
else zef ja0 ja1 ja2 ja3 ja4 ja5 ja6 ja7 ja8 ja9 ja10 r (i61+1))
theorem zNM {C:Ctx} (hC:∀ id,C.ρ0 id=none) (ja0:TS) (ja1:LC) (ja2:Sem zg) (ja3:LI) (ja4:LF) (ja5:Str) (ja6:Int) (ja7:Int) (ja8:Str) (ja9:Str) (ja10:LX) (l59:LI) (hl:l59.length≤zI):∀ (m i:Nat),l59.length - i=m→i≤l59.length→zef ja0 ja1 ja2 ja3 ja4 ja5 ja6 ja7 ja8 ja9 ja10 (l59.drop i) i=true→
  Reach (zfn) C 18 (zA Tryz.f18 11) (zxv l59 (l59.length:Int) (i:Int) ja0 ja1 ja2 ja3 ja4 ja5 ja6 ja7 ja8 ja9 ja10) (fun r h=>zac h [Sh.bool] r=some (zcZ ja0 ja1 ja2 ja3 ja4 ja5 ja6 ja7 ja8 ja9 ja10 (l59.drop i) i,())):=by
 intro m
 induction m with
 | zero=>
  intro i hm hi hc
  obtain rfl:i=l59.length:=by omega
  rw [List.drop_length] at hc ⊢
  refine zr zd8 zd3 (ok8) (fun id _=>hC id) (zEd _ _ _ _ _ _ _ _ _ _ _ _ _ _) ?_
  rw [zef] at hc
  generalize hy:zcZ ja0 ja1 ja2 ja3 ja4 ja5 ja6 ja7 ja8 ja9 ja10 [] _=y
  rw [zcZ] at hy
  simp only [zP,Tr.val_brF]
  repeat' (first | with_reducible refine obr hy hc (fun _ hy hc=>?_) (fun _ hy hc=>?_) | with_reducible refine zay hy (fun _ hy=>?_) (fun _ hy=>?_) | with_reducible refine zaZ hc (fun hc=>?_) | with_reducible refine zy ?_)
  all_goals (subst hy; first | (change Reach _ _ _ _ _ _; apply zrE hC <;> first | assumption | exact hc) | (change Reach _ _ _ _ _ _; apply zk9 hC <;> first | assumption | exact hc) | rfl)
 | succ m IH=>
  intro i hm hi hc
  have hlt:i < l59.length:=by omega
  have IH:=IH (i+1)
  have hcast:((i:Int)+1)=((i+1:Nat):Int):=by omega
  have hwr:=zH i (by omega)
  rw [List.drop_eq_getElem_cons hlt] at hc ⊢
  refine zr zd8 zd3 (ok8) (fun id _=>hC id) (zEd _ _ _ _ _ _ _ _ _ _ _ _ _ _) ?_
  rw [zef] at hc
  generalize hy:zcZ ja0 ja1 ja2 ja3 ja4 ja5 ja6 ja7 ja8 ja9 ja10 (l59[i]::l59.drop (i+1)) (i:Int)=y
  rw [zcZ] at hy
  simp only [zV hlt,zK hlt,zaD l59 _ hlt,hwr,Tr.val_brT,Tr.val_chkT]
  clear hwr
  simp only [hcast] at hy
  try simp only [hcast] at hc
  repeat' (first | with_reducible refine obr hy hc (fun _ hy hc=>?_) (fun _ hy hc=>?_) | with_reducible refine zay hy (fun _ hy=>?_) (fun _ hy=>?_) | with_reducible refine zaZ hc (fun hc=>?_) | with_reducible refine zy ?_)
  all_goals (subst hy; first | (change Reach _ _ _ _ _ _; apply IH <;> first | omega | assumption) | (change Reach _ _ _ _ _ _; apply zrE hC <;> first | assumption | exact hc) | (change Reach _ _ _ _ _ _; apply zk9 hC <;> first | assumption | exact hc) | rfl)
theorem zmp {C:Ctx} (hC:∀ id,C.ρ0 id=none) (ja0:TS) (ja1:LC) (ja2:Sem zg) (ja3:LI) (ja4:LF) (ja5:Str) (ja6:Int) (ja7:Int) (ja8:Str) (ja9:Str) (ja10:LX) (l59:LI) (hc:zef ja0 ja1 ja2 ja3 ja4 ja5 ja6 ja7 ja8 ja9 ja10 l59 0=true):
  Reach (zfn) C 18 (zA Tryz.f18 11) (zxv l59 (l59.length:Int) 0 ja0 ja1 ja2 ja3 ja4 ja5 ja6 ja7 ja8 ja9 ja10) (fun r h=>zac h [Sh.bool] r=some (zcZ ja0 ja1 ja2 ja3 ja4 ja5 ja6 ja7 ja8 ja9 ja10 l59 0,())):=
 Reach.len 59 (Sh.int IntKind.i64) l59 rfl fun hl=>zNM hC ja0 ja1 ja2 ja3 ja4 ja5 ja6 ja7 ja8 ja9 ja10 l59 hl _ 0 rfl (Nat.zero_le _) hc
def zes (ja0:TS) (ja1:LC) (ja2:Sem zg) (ja3:LI) (ja4:LF) (ja5:Str) (ja6:Int) (ja7:Int) (ja8:Str) (ja9:Str) (ja10:LX):List (Sem zh)→Int→Sem Sh.bool
 | [],_=>(zcZ ja0 ja1 ja2 ja3 ja4 ja5 ja6 ja7 ja8 ja9 ja10 ja3 0)
 | x :: r,i29=>(if
  (bif !zaB x.1 then true
   else
    bif decide (x.2.1 < 1) then true
    else
     bif decide (x.2.1 > 3) then true
     else zbF (ja0,ja1,ja2,ja3,ja4,ze.mk ja5 (ja6,ja7,ja8) ja9 ja10) x.1 != i29)=
   true then
 false
else zes ja0 ja1 ja2 ja3 ja4 ja5 ja6 ja7 ja8 ja9 ja10 r (i29+1))
def zfG (ja0:TS) (ja1:LC) (ja2:Sem zg) (ja3:LI) (ja4:LF) (ja5:Str) (ja6:Int) (ja7:Int) (ja8:Str) (ja9:Str) (ja10:LX):List (Sem zh)→Int→Bool
 | [],_=>(zef ja0 ja1 ja2 ja3 ja4 ja5 ja6 ja7 ja8 ja9 ja10 ja3 0)
 | x :: r,i29=>(if
  (bif !zaB x.1 then true
   else
    bif decide (x.2.1 < 1) then true
    else
     bif decide (x.2.1 > 3) then true
     else zbF (ja0,ja1,ja2,ja3,ja4,ze.mk ja5 (ja6,ja7,ja8) ja9 ja10) x.1 != i29)=
   true then
 true
else zfG ja0 ja1 ja2 ja3 ja4 ja5 ja6 ja7 ja8 ja9 ja10 r (i29+1))
theorem zS5 {C:Ctx} (hC:∀ id,C.ρ0 id=none) (ja0:TS) (ja1:LC) (ja2:Sem zg) (ja3:LI) (ja4:LF) (ja5:Str) (ja6:Int) (ja7:Int) (ja8:Str) (ja9:Str) (ja10:LX) (l27:LC) (hl:l27.length≤zI):∀ (m i:Nat),l27.length - i=m→i≤l27.length→zfG ja0 ja1 ja2 ja3 ja4 ja5 ja6 ja7 ja8 ja9 ja10 (l27.drop i) i=true→
  Reach (zfn) C 18 (zA Tryz.f18 4) (zD7 l27 (l27.length:Int) (i:Int) ja0 ja1 ja2 ja3 ja4 ja5 ja6 ja7 ja8 ja9 ja10) (fun r h=>zac h [Sh.bool] r=some (zes ja0 ja1 ja2 ja3 ja4 ja5 ja6 ja7 ja8 ja9 ja10 (l27.drop i) i,())):=by
 intro m
 induction m with
 | zero=>
  intro i hm hi hc
  obtain rfl:i=l27.length:=by omega
  rw [List.drop_length] at hc ⊢
  refine zr zd8 zd3 (ok8) (fun id _=>hC id) (zKV _ _ _ _ _ _ _ _ _ _ _ _ _ _) ?_
  rw [zfG] at hc
  generalize hy:zes ja0 ja1 ja2 ja3 ja4 ja5 ja6 ja7 ja8 ja9 ja10 [] _=y
  rw [zes] at hy
  simp only [zP,Tr.val_brF]
  repeat' (first | with_reducible refine obr hy hc (fun _ hy hc=>?_) (fun _ hy hc=>?_) | with_reducible refine zay hy (fun _ hy=>?_) (fun _ hy=>?_) | with_reducible refine zaZ hc (fun hc=>?_) | with_reducible refine zy ?_)
  all_goals (subst hy; first | (change Reach _ _ _ _ _ _; apply zmp hC <;> first | assumption | exact hc) | (change Reach _ _ _ _ _ _; apply zk9 hC <;> first | assumption | exact hc) | rfl)
 | succ m IH=>
  intro i hm hi hc
  have hlt:i < l27.length:=by omega
  have IH:=IH (i+1)
  have hcast:((i:Int)+1)=((i+1:Nat):Int):=by omega
  have hwr:=zH i (by omega)
  rw [List.drop_eq_getElem_cons hlt] at hc ⊢
  refine zr zd8 zd3 (ok8) (fun id _=>hC id) (zKV _ _ _ _ _ _ _ _ _ _ _ _ _ _) ?_
  rw [zfG] at hc
  generalize hy:zes ja0 ja1 ja2 ja3 ja4 ja5 ja6 ja7 ja8 ja9 ja10 (l27[i]::l27.drop (i+1)) (i:Int)=y
  rw [zes] at hy
  simp only [zV hlt,zK hlt,zaD l27 _ hlt,hwr,Tr.val_brT,Tr.val_chkT]
  clear hwr
  simp only [hcast] at hy
  try simp only [hcast] at hc
  repeat' (first | with_reducible refine obr hy hc (fun _ hy hc=>?_) (fun _ hy hc=>?_) | with_reducible refine zay hy (fun _ hy=>?_) (fun _ hy=>?_) | with_reducible refine zaZ hc (fun hc=>?_) | with_reducible refine zy ?_)
  all_goals (subst hy; first | (change Reach _ _ _ _ _ _; apply IH <;> first | omega | assumption) | (change Reach _ _ _ _ _ _; apply zmp hC <;> first | assumption | exact hc) | (change Reach _ _ _ _ _ _; apply zk9 hC <;> first | assumption | exact hc) | rfl)
theorem zrE {C:Ctx} (hC:∀ id,C.ρ0 id=none) (ja0:TS) (ja1:LC) (ja2:Sem zg) (ja3:LI) (ja4:LF) (ja5:Str) (ja6:Int) (ja7:Int) (ja8:Str) (ja9:Str) (ja10:LX) (l27:LC) (hc:zfG ja0 ja1 ja2 ja3 ja4 ja5 ja6 ja7 ja8 ja9 ja10 l27 0=true):
  Reach (zfn) C 18 (zA Tryz.f18 4) (zD7 l27 (l27.length:Int) 0 ja0 ja1 ja2 ja3 ja4 ja5 ja6 ja7 ja8 ja9 ja10) (fun r h=>zac h [Sh.bool] r=some (zes ja0 ja1 ja2 ja3 ja4 ja5 ja6 ja7 ja8 ja9 ja10 l27 0,())):=
 Reach.len 27 (zh) l27 rfl fun hl=>zS5 hC ja0 ja1 ja2 ja3 ja4 ja5 ja6 ja7 ja8 ja9 ja10 l27 hl _ 0 rfl (Nat.zero_le _) hc
def zdi (x0:Sem zn):Sem Sh.bool:=(if (bif !zaB x0.1 then true else bif decide ((↑(List.length x0.2.1):Int) < 1) then true else decide ((↑(List.length x0.2.1):Int) > 8))=true then false else zes x0.1 x0.2.1 x0.2.2.1 x0.2.2.2.1 x0.2.2.2.2.1 (ze.op x0.2.2.2.2.2) (ze.v x0.2.2.2.2.2).1 (ze.v x0.2.2.2.2.2).2.1 (ze.v x0.2.2.2.2.2).2.2 (ze.s x0.2.2.2.2.2) (ze.l x0.2.2.2.2.2) x0.2.1 0)
def zAP (x0:Sem zn):Bool:=(if (bif !zaB x0.1 then true else bif decide ((↑(List.length x0.2.1):Int) < 1) then true else decide ((↑(List.length x0.2.1):Int) > 8))=true then true else zfG x0.1 x0.2.1 x0.2.2.1 x0.2.2.2.1 x0.2.2.2.2.1 (ze.op x0.2.2.2.2.2) (ze.v x0.2.2.2.2.2).1 (ze.v x0.2.2.2.2.2).2.1 (ze.v x0.2.2.2.2.2).2.2 (ze.s x0.2.2.2.2.2) (ze.l x0.2.2.2.2.2) x0.2.1 0)
def F8:zJ:=zG [zn] [Sh.bool] (fun x=>zAP x.1) fun x=>(zdi x.1,())
theorem zT4:FOk (zfn).P (zfn).gl 18 F8:=by
 refine zT (ok8) fun x hc C hC=>?_
 unfold zAP at hc
 refine zr zd8 zd3 (ok8) (fun id _=>hC id) (go8 x.1) ?_
 generalize hy:zdi x.1=y
 unfold zdi at hy
 try simp only [ze.eta]
 repeat' (first | with_reducible refine obr hy hc (fun _ hy hc=>?_) (fun _ hy hc=>?_) | with_reducible refine zay hy (fun _ hy=>?_) (fun _ hy=>?_) | with_reducible refine zaZ hc (fun hc=>?_) | with_reducible refine zy ?_)
 all_goals (subst hy; first | (change Reach _ _ _ _ _ _; apply zrE hC <;> first | assumption | exact hc) | (change Reach _ _ _ _ _ _; apply zmp hC <;> first | assumption | exact hc) | (change Reach _ _ _ _ _ _; apply zk9 hC <;> first | assumption | exact hc) | rfl)

noncomputable def zsz:Env:=(zfn.add 18 F8)
theorem zCf:zi zsz:=(zi.addS zd8 (zB.refl zfn) zT4)
theorem zBT:zsz.P.follows .mixedOrders=true:=(zm zd3 _ _)
open Go Go.Proofs

theorem zkd {a0 a1 a2 a3 a4 a5 a6 a7 a8 a9 b0}:∀ (l:List (Sem zt)) (i:Int),zek a0 a1 a2 a3 a4 a5 a6 a7 a8 a9 b0 l i=true
 | [],i=>by
  rw [zek]
  split
  ·rename_i h
   rw [if_pos]
   cases h1:decide (a2 ≥ 0) <;> simp_all [inB]
  ·rfl
 | x::r,i=>by
  rw [zek]
  repeat' split
  all_goals first | rfl | exact zkd r (i+1)
theorem zkc {a0 a1 a2 a3 a4 a5 a6 a7 a8 a9 b0}:∀ (l:List (Sem zg)) (i:Int),zef a0 a1 a2 a3 a4 a5 a6 a7 a8 a9 b0 l i=true
 | [],i=>by rw [zef]; exact zkd _ _
 | x::r,i=>by
  rw [zef]
  repeat' split
  all_goals first | rfl | exact zkc r (i+1)
theorem zlr {a0 a1 a2 a3 a4 a5 a6 a7 a8 a9 b0}:∀ (l:List (Sem zh)) (i:Int),zfG a0 a1 a2 a3 a4 a5 a6 a7 a8 a9 b0 l i=true
 | [],i=>by rw [zfG]; exact zkc _ _
 | x::r,i=>by
  rw [zfG]
  split
  ·rfl
  ·exact zlr r (i+1)
theorem zyb (t:Sem zn):zAP t=true:=by
 unfold zAP
 split
 ·rfl
 ·exact zlr _ _
def F8t:zJ:=zaf [zn] [Sh.bool] fun x=>(zdi x.1,())
theorem zRj:FOk zsz.P zsz.gl 18 F8t:=zdl zT4 fun x=>zyb x.1

noncomputable def zgy:Env:=(zsz.add 18 F8t)
theorem zfQ:zi zgy:=(zi.addS zCf (zB.refl zsz) zRj)
theorem zfX:zgy.P.follows .mixedOrders=true:=(zm zBT _ _)
open Go Go.Proofs

abbrev zMn:Nat→zQ:=fun j=>if j=4 then { slots:=[1,2,19,20,21] } else if j=10 then { slots:=[1,2,30,31] } else { }
abbrev zxV (l1:LV) (l19:LV) (i20:Int) (i21:Int) (ja0:TS) (ja1:LC) (ja2:Sem zg) (ja3:LI) (ja4:LF) (ja5:Str) (ja6:Int) (ja7:Int) (ja8:Str) (ja9:Str) (ja10:LX):St:={ tmps:=[ny,AV.sl zf l1,AV.ptr 0 0,ny,ny,ny,ny,ny,ny,ny,ny,ny,ny,ny,ny,ny,ny,ny,ny,AV.sl zf l19,ai i20,ai i21,ny,ny,ny,ny,ny,ny,ny,ny,ny,ny,ny,ny,ny,ny,ny,ny,ny,ny,ny,ny,ny,ny,ny,ny,ny,ny,ny,ny,ny,ny,ny,ny,ny,ny,ny,ny,ny,ny,ny,ny,ny,ny,ny,ny,ny,ny,ny,ny,ny,ny,ny,ny,ny,ny,ny,ny,ny],heap:=[AO.box [AV.str ja0,AV.sl zh ja1,ai ja2,AV.sl zg ja3,AV.sl zt ja4,AV.str ja5,ai ja6,ai ja7,AV.str ja8,AV.str ja9,AV.sl Sh.expr ja10]] }
theorem zBR:zF (zgy).P 121 Tryz.f121 2:=by refine ⟨?_,?_,?_,?_⟩ <;> kernel_rfl
theorem zW9 (x0:Sem zn) (x1:Sem zf.sl):run (zgy) 0 zMn (Func.results Tryz.f121).toList 400 (zq Tryz.f121) (zp (Func.ntmps Tryz.f121) [zx zn x0,zx zf.sl x1] [])=Tr.br (bif !zdi (x0.1,x0.2.1,x0.2.2.1,x0.2.2.2.1,x0.2.2.2.2.1,zz x0.2.2.2.2.2) then true else (↑(List.length x1):Int) != (↑(List.length x0.2.1):Int)) (Tr.ok (zD.ret (ai 1) [])) (Tr.ok (zD.head 4 (zA Tryz.f121 4) (zxV x1 x1 (↑(List.length x1):Int) 0 x0.1 x0.2.1 x0.2.2.1 x0.2.2.2.1 x0.2.2.2.2.1 (ze.op x0.2.2.2.2.2) (ze.v x0.2.2.2.2.2).1 (ze.v x0.2.2.2.2.2).2.1 (ze.v x0.2.2.2.2.2).2.2 (ze.s x0.2.2.2.2.2) (ze.l x0.2.2.2.2.2)))):=by kernel_rfl
abbrev zqj (l1:LV) (i30:Int) (i31:Int) (ja0:TS) (ja1:LC) (ja2:Sem zg) (ja3:LI) (ja4:LF) (ja5:Str) (ja6:Int) (ja7:Int) (ja8:Str) (ja9:Str) (ja10:LX):St:={ tmps:=[ny,AV.sl zf l1,AV.ptr 0 0,ny,ny,ny,ny,ny,ny,ny,ny,ny,ny,ny,ny,ny,ny,ny,ny,ny,ny,ny,ny,ny,ny,ny,ny,ny,ny,ny,ai i30,ai i31,ny,ny,ny,ny,ny,ny,ny,ny,ny,ny,ny,ny,ny,ny,ny,ny,ny,ny,ny,ny,ny,ny,ny,ny,ny,ny,ny,ny,ny,ny,ny,ny,ny,ny,ny,ny,ny,ny,ny,ny,ny,ny,ny,ny,ny,ny,ny],heap:=[AO.box [AV.str ja0,AV.sl zh ja1,ai ja2,AV.sl zg ja3,AV.sl zt ja4,AV.str ja5,ai ja6,ai ja7,AV.str ja8,AV.str ja9,AV.sl Sh.expr ja10]] }
theorem zFL (l1:LV) (l19:LV) (i20:Int) (i21:Int) (ja0:TS) (ja1:LC) (ja2:Sem zg) (ja3:LI) (ja4:LF) (ja5:Str) (ja6:Int) (ja7:Int) (ja8:Str) (ja9:Str) (ja10:LX):run (zgy) 0 zMn (Func.results Tryz.f121).toList 400 (zA Tryz.f121 4) (zxV l1 l19 i20 i21 ja0 ja1 ja2 ja3 ja4 ja5 ja6 ja7 ja8 ja9 ja10)=Tr.br (decide (i21 < i20)) (Tr.chk (inB i21 l19.length) (Tr.br (!zbj (l19.getD i21.toNat (zl zf))) (Tr.ok (zD.ret (ai 1) [])) (Tr.ok (zD.head 4 (zA Tryz.f121 4) (zxV l1 l19 i20 (IntKind.i64.wrap (i21+1)) ja0 ja1 ja2 ja3 ja4 ja5 ja6 ja7 ja8 ja9 ja10))))) (Tr.ok (zD.head 10 (zA Tryz.f121 10) (zqj l1 (↑l1.length:Int) 0 ja0 ja1 ja2 ja3 ja4 ja5 ja6 ja7 ja8 ja9 ja10))):=by kernel_rfl
theorem zAU (l1:LV) (i30:Int) (i31:Int) (ja0:TS) (ja1:LC) (ja2:Sem zg) (ja3:LI) (ja4:LF) (ja5:Str) (ja6:Int) (ja7:Int) (ja8:Str) (ja9:Str) (ja10:LX):run (zgy) 0 zMn (Func.results Tryz.f121).toList 400 (zA Tryz.f121 10) (zqj l1 i30 i31 ja0 ja1 ja2 ja3 ja4 ja5 ja6 ja7 ja8 ja9 ja10)=Tr.br (decide (i31 < i30)) (Tr.chk (inB i31 l1.length&&bif (l1.getD i31.toNat (zl zf)).1==0 then inB i31 ja1.length else true) (Tr.br (bif (l1.getD i31.toNat (zl zf)).1==0 then (ja1.getD i31.toNat (zl zh)).2.2 else false) (Tr.ok (zD.ret (ai 8) [])) (Tr.chk (inB i31 l1.length&&bif (l1.getD i31.toNat (zl zf)).1 != 0 then inB i31 l1.length&&inB i31 ja1.length else true) (Tr.br (bif (l1.getD i31.toNat (zl zf)).1 != 0 then (l1.getD i31.toNat (zl zf)).1 != (ja1.getD i31.toNat (zl zh)).2.1 else false) (Tr.ok (zD.ret (ai 5) [])) (Tr.ok (zD.head 10 (zA Tryz.f121 10) (zqj l1 i30 (IntKind.i64.wrap (i31+1)) ja0 ja1 ja2 ja3 ja4 ja5 ja6 ja7 ja8 ja9 ja10))))))) (Tr.br ((zez (ze.mk ja5 (ja6,ja7,ja8) ja9 ja10) ja1 l1).1==3&&((zez (ze.mk ja5 (ja6,ja7,ja8) ja9 ja10) ja1 l1).2.1==0&&((zez (ze.mk ja5 (ja6,ja7,ja8) ja9 ja10) ja1 l1).2.2==[]&&true))) (Tr.ok (zD.ret (ai 9) [])) (Tr.ok (zD.ret (ai 0) []))):=by kernel_rfl
def zc7 (ja0:TS) (ja1:LC) (ja2:Sem zg) (ja3:LI) (ja4:LF) (ja5:Str) (ja6:Int) (ja7:Int) (ja8:Str) (ja9:Str) (ja10:LX) (l1:LV):List (Sem zf)→Int→Sem zg
 | [],_=>(if
  ((zez (ze.mk ja5 (ja6,ja7,ja8) ja9 ja10) ja1 l1).1==3&&
    ((zez (ze.mk ja5 (ja6,ja7,ja8) ja9 ja10) ja1 l1).2.1==0&&
     ((zez (ze.mk ja5 (ja6,ja7,ja8) ja9 ja10) ja1 l1).2.2==[]&&true)))=
   true then
 9
else 0)
 | x::r,i31=>(if (bif x.1==0 then (ja1.getD i31.toNat (zl zh)).2.2 else false)=true then 8
else
 if (bif x.1 != 0 then x.1 != (ja1.getD i31.toNat (zl zh)).2.1 else false)=true then 5
 else zc7 ja0 ja1 ja2 ja3 ja4 ja5 ja6 ja7 ja8 ja9 ja10 l1 r (i31+1))
def zd9 (ja0:TS) (ja1:LC) (ja2:Sem zg) (ja3:LI) (ja4:LF) (ja5:Str) (ja6:Int) (ja7:Int) (ja8:Str) (ja9:Str) (ja10:LX) (l1:LV):List (Sem zf)→Int→Bool
 | [],_=>(true)
 | x::r,i31=>(if (inB i31 l1.length&&bif x.1==0 then inB i31 ja1.length else true)=true then
 if (bif x.1==0 then (ja1.getD i31.toNat (zl zh)).2.2 else false)=true then true
 else
  if (inB i31 l1.length&&bif x.1 != 0 then inB i31 l1.length&&inB i31 ja1.length else true)=true then
   if (bif x.1 != 0 then x.1 != (ja1.getD i31.toNat (zl zh)).2.1 else false)=true then true
   else zd9 ja0 ja1 ja2 ja3 ja4 ja5 ja6 ja7 ja8 ja9 ja10 l1 r (i31+1)
  else false
else false)
theorem zHY {C:Ctx} (hC:∀ id,C.ρ0 id=none) (ja0:TS) (ja1:LC) (ja2:Sem zg) (ja3:LI) (ja4:LF) (ja5:Str) (ja6:Int) (ja7:Int) (ja8:Str) (ja9:Str) (ja10:LX) (l1:LV) (hl:l1.length≤zI):∀ (m i:Nat),l1.length - i=m→i≤l1.length→zd9 ja0 ja1 ja2 ja3 ja4 ja5 ja6 ja7 ja8 ja9 ja10 l1 (l1.drop i) i=true→
  Reach (zgy) C 121 (zA Tryz.f121 10) (zqj l1 (l1.length:Int) (i:Int) ja0 ja1 ja2 ja3 ja4 ja5 ja6 ja7 ja8 ja9 ja10) (fun r h=>zac h [zg] r=some (zc7 ja0 ja1 ja2 ja3 ja4 ja5 ja6 ja7 ja8 ja9 ja10 l1 (l1.drop i) i,())):=by
 intro m
 induction m with
 | zero=>
  intro i hm hi hc
  obtain rfl:i=l1.length:=by omega
  rw [List.drop_length] at hc ⊢
  refine zr zfQ zfX (zBR) (fun id _=>hC id) (zAU _ _ _ _ _ _ _ _ _ _ _ _ _ _) ?_
  rw [zd9] at hc
  generalize hy:zc7 ja0 ja1 ja2 ja3 ja4 ja5 ja6 ja7 ja8 ja9 ja10 l1 [] _=y
  rw [zc7] at hy
  simp only [zP,Tr.val_brF]
  repeat' (first | with_reducible refine obr hy hc (fun _ hy hc=>?_) (fun _ hy hc=>?_) | with_reducible refine zay hy (fun _ hy=>?_) (fun _ hy=>?_) | with_reducible refine zaZ hc (fun hc=>?_) | with_reducible refine zy ?_)
  all_goals (subst hy; first | (change Reach _ _ _ _ _ _; apply zu3 hC <;> first | assumption | exact hc) | rfl)
 | succ m IH=>
  intro i hm hi hc
  have hlt:i < l1.length:=by omega
  have IH:=IH (i+1)
  have hcast:((i:Int)+1)=((i+1:Nat):Int):=by omega
  have hwr:=zH i (by omega)
  rw [List.drop_eq_getElem_cons hlt] at hc ⊢
  refine zr zfQ zfX (zBR) (fun id _=>hC id) (zAU _ _ _ _ _ _ _ _ _ _ _ _ _ _) ?_
  rw [zd9] at hc
  generalize hy:zc7 ja0 ja1 ja2 ja3 ja4 ja5 ja6 ja7 ja8 ja9 ja10 l1 (l1[i]::l1.drop (i+1)) (i:Int)=y
  rw [zc7] at hy
  simp only [zV hlt,zK hlt,zaD l1 _ hlt,hwr,Tr.val_brT]
  clear hwr
  try simp only [zK hlt] at hy
  simp only [hcast] at hy
  try simp only [zK hlt] at hc
  try simp only [hcast] at hc
  repeat' (first | with_reducible refine obr hy hc (fun _ hy hc=>?_) (fun _ hy hc=>?_) | with_reducible refine zay hy (fun _ hy=>?_) (fun _ hy=>?_) | with_reducible refine zaZ hc (fun hc=>?_) | with_reducible refine zy ?_)
  all_goals (subst hy; first | (change Reach _ _ _ _ _ _; apply IH <;> first | omega | assumption) | (change Reach _ _ _ _ _ _; apply zu3 hC <;> first | assumption | exact hc) | rfl)
theorem zrH {C:Ctx} (hC:∀ id,C.ρ0 id=none) (ja0:TS) (ja1:LC) (ja2:Sem zg) (ja3:LI) (ja4:LF) (ja5:Str) (ja6:Int) (ja7:Int) (ja8:Str) (ja9:Str) (ja10:LX) (l1:LV) (hc:zd9 ja0 ja1 ja2 ja3 ja4 ja5 ja6 ja7 ja8 ja9 ja10 l1 l1 0=true):
  Reach (zgy) C 121 (zA Tryz.f121 10) (zqj l1 (l1.length:Int) 0 ja0 ja1 ja2 ja3 ja4 ja5 ja6 ja7 ja8 ja9 ja10) (fun r h=>zac h [zg] r=some (zc7 ja0 ja1 ja2 ja3 ja4 ja5 ja6 ja7 ja8 ja9 ja10 l1 l1 0,())):=
 Reach.len 1 (zf) l1 rfl fun hl=>zHY hC ja0 ja1 ja2 ja3 ja4 ja5 ja6 ja7 ja8 ja9 ja10 l1 hl _ 0 rfl (Nat.zero_le _) hc
def zdk (l1:LV) (ja0:TS) (ja1:LC) (ja2:Sem zg) (ja3:LI) (ja4:LF) (ja5:Str) (ja6:Int) (ja7:Int) (ja8:Str) (ja9:Str) (ja10:LX):List (Sem zf)→Int→Sem zg
 | [],_=>(zc7 ja0 ja1 ja2 ja3 ja4 ja5 ja6 ja7 ja8 ja9 ja10 l1 l1 0)
 | x::r,i21=>(if (!zbj x)=true then 1 else zdk l1 ja0 ja1 ja2 ja3 ja4 ja5 ja6 ja7 ja8 ja9 ja10 r (i21+1))
def zer (l1:LV) (ja0:TS) (ja1:LC) (ja2:Sem zg) (ja3:LI) (ja4:LF) (ja5:Str) (ja6:Int) (ja7:Int) (ja8:Str) (ja9:Str) (ja10:LX):List (Sem zf)→Int→Bool
 | [],_=>(zd9 ja0 ja1 ja2 ja3 ja4 ja5 ja6 ja7 ja8 ja9 ja10 l1 l1 0)
 | x::r,i21=>(if (!zbj x)=true then true else zer l1 ja0 ja1 ja2 ja3 ja4 ja5 ja6 ja7 ja8 ja9 ja10 r (i21+1))
theorem zPq {C:Ctx} (hC:∀ id,C.ρ0 id=none) (l1:LV) (ja0:TS) (ja1:LC) (ja2:Sem zg) (ja3:LI) (ja4:LF) (ja5:Str) (ja6:Int) (ja7:Int) (ja8:Str) (ja9:Str) (ja10:LX) (l19:LV) (hl:l19.length≤zI):∀ (m i:Nat),l19.length - i=m→i≤l19.length→zer l1 ja0 ja1 ja2 ja3 ja4 ja5 ja6 ja7 ja8 ja9 ja10 (l19.drop i) i=true→
  Reach (zgy) C 121 (zA Tryz.f121 4) (zxV l1 l19 (l19.length:Int) (i:Int) ja0 ja1 ja2 ja3 ja4 ja5 ja6 ja7 ja8 ja9 ja10) (fun r h=>zac h [zg] r=some (zdk l1 ja0 ja1 ja2 ja3 ja4 ja5 ja6 ja7 ja8 ja9 ja10 (l19.drop i) i,())):=by
 intro m
 induction m with
 | zero=>
  intro i hm hi hc
  obtain rfl:i=l19.length:=by omega
  rw [List.drop_length] at hc ⊢
  refine zr zfQ zfX (zBR) (fun id _=>hC id) (zFL _ _ _ _ _ _ _ _ _ _ _ _ _ _ _) ?_
  rw [zer] at hc
  generalize hy:zdk l1 ja0 ja1 ja2 ja3 ja4 ja5 ja6 ja7 ja8 ja9 ja10 [] _=y
  rw [zdk] at hy
  simp only [zP,Tr.val_brF]
  repeat' (first | with_reducible refine obr hy hc (fun _ hy hc=>?_) (fun _ hy hc=>?_) | with_reducible refine zay hy (fun _ hy=>?_) (fun _ hy=>?_) | with_reducible refine zaZ hc (fun hc=>?_) | with_reducible refine zy ?_)
  all_goals (subst hy; first | (change Reach _ _ _ _ _ _; apply zrH hC <;> first | assumption | exact hc) | rfl)
 | succ m IH=>
  intro i hm hi hc
  have hlt:i < l19.length:=by omega
  have IH:=IH (i+1)
  have hcast:((i:Int)+1)=((i+1:Nat):Int):=by omega
  have hwr:=zH i (by omega)
  rw [List.drop_eq_getElem_cons hlt] at hc ⊢
  refine zr zfQ zfX (zBR) (fun id _=>hC id) (zFL _ _ _ _ _ _ _ _ _ _ _ _ _ _ _) ?_
  rw [zer] at hc
  generalize hy:zdk l1 ja0 ja1 ja2 ja3 ja4 ja5 ja6 ja7 ja8 ja9 ja10 (l19[i]::l19.drop (i+1)) (i:Int)=y
  rw [zdk] at hy
  simp only [zV hlt,zK hlt,zaD l19 _ hlt,hwr,Tr.val_brT,Tr.val_chkT]
  clear hwr
  try simp only [zK hlt] at hy
  simp only [hcast] at hy
  try simp only [zK hlt] at hc
  try simp only [hcast] at hc
  repeat' (first | with_reducible refine obr hy hc (fun _ hy hc=>?_) (fun _ hy hc=>?_) | with_reducible refine zay hy (fun _ hy=>?_) (fun _ hy=>?_) | with_reducible refine zaZ hc (fun hc=>?_) | with_reducible refine zy ?_)
  all_goals (subst hy; first | (change Reach _ _ _ _ _ _; apply IH <;> first | omega | assumption) | (change Reach _ _ _ _ _ _; apply zrH hC <;> first | assumption | exact hc) | rfl)
theorem zu3 {C:Ctx} (hC:∀ id,C.ρ0 id=none) (l1:LV) (ja0:TS) (ja1:LC) (ja2:Sem zg) (ja3:LI) (ja4:LF) (ja5:Str) (ja6:Int) (ja7:Int) (ja8:Str) (ja9:Str) (ja10:LX) (l19:LV) (hc:zer l1 ja0 ja1 ja2 ja3 ja4 ja5 ja6 ja7 ja8 ja9 ja10 l19 0=true):
  Reach (zgy) C 121 (zA Tryz.f121 4) (zxV l1 l19 (l19.length:Int) 0 ja0 ja1 ja2 ja3 ja4 ja5 ja6 ja7 ja8 ja9 ja10) (fun r h=>zac h [zg] r=some (zdk l1 ja0 ja1 ja2 ja3 ja4 ja5 ja6 ja7 ja8 ja9 ja10 l19 0,())):=
 Reach.len 19 (zf) l19 rfl fun hl=>zPq hC l1 ja0 ja1 ja2 ja3 ja4 ja5 ja6 ja7 ja8 ja9 ja10 l19 hl _ 0 rfl (Nat.zero_le _) hc
def zcL (x0:Sem zn) (x1:Sem zf.sl):Sem zg:=(if (bif !zdi x0 then true else (↑(List.length x1):Int) != (↑(List.length x0.2.1):Int))=true then 1 else zdk x1 x0.1 x0.2.1 x0.2.2.1 x0.2.2.2.1 x0.2.2.2.2.1 (ze.op x0.2.2.2.2.2) (ze.v x0.2.2.2.2.2).1 (ze.v x0.2.2.2.2.2).2.1 (ze.v x0.2.2.2.2.2).2.2 (ze.s x0.2.2.2.2.2) (ze.l x0.2.2.2.2.2) x1 0)
def zvv (x0:Sem zn) (x1:Sem zf.sl):Bool:=(if (bif !zdi x0 then true else (↑(List.length x1):Int) != (↑(List.length x0.2.1):Int))=true then true else zer x1 x0.1 x0.2.1 x0.2.2.1 x0.2.2.2.1 x0.2.2.2.2.1 (ze.op x0.2.2.2.2.2) (ze.v x0.2.2.2.2.2).1 (ze.v x0.2.2.2.2.2).2.1 (ze.v x0.2.2.2.2.2).2.2 (ze.s x0.2.2.2.2.2) (ze.l x0.2.2.2.2.2) x1 0)
def F10:zJ:=zG [zn,zf.sl] [zg] (fun x=>zvv x.1 x.2.1) fun x=>(zcL x.1 x.2.1,())
theorem zLs:FOk (zgy).P (zgy).gl 121 F10:=by
 refine zT (zBR) fun x hc C hC=>?_
 unfold zvv at hc
 refine zr zfQ zfX (zBR) (fun id _=>hC id) (zW9 x.1 x.2.1) ?_
 generalize hy:zcL x.1 x.2.1=y
 unfold zcL at hy
 try simp only [ze.eta]
 repeat' (first | with_reducible refine obr hy hc (fun _ hy hc=>?_) (fun _ hy hc=>?_) | with_reducible refine zay hy (fun _ hy=>?_) (fun _ hy=>?_) | with_reducible refine zaZ hc (fun hc=>?_) | with_reducible refine zy ?_)
 all_goals (subst hy; first | (change Reach _ _ _ _ _ _; apply zu3 hC <;> first | assumption | exact hc) | (change Reach _ _ _ _ _ _; apply zrH hC <;> first | assumption | exact hc) | rfl)

noncomputable def zsD:Env:=(zgy.add 121 F10)
theorem zC2:zi zsD:=(zi.addS zfQ (zB.refl zgy) zLs)
theorem zCu:zsD.P.follows .mixedOrders=true:=(zm zfX _ _)
open Go Go.Proofs

theorem zi2 {a0 a2 a3 a4 a5 a6 a7 a8 a9 b0} {cols:List (Sem zh)} {row:List (Sem zf)} (hl:row.length=cols.length):∀ (l:List (Sem zf)) (i:Nat),i+l.length=row.length→zd9 a0 cols a2 a3 a4 a5 a6 a7 a8 a9 b0 row l i=true
 | [],i,_=>rfl
 | x::r,i,h=>by
  have h1:i < row.length:=by simp at h; omega
  have h2:i < cols.length:=by omega
  have ih:=zi2 (a0:=a0) (a2:=a2) (a3:=a3) (a4:=a4) (a5:=a5) (a6:=a6) (a7:=a7) (a8:=a8) (a9:=a9) (b0:=b0) hl r (i+1) (by simp at h; omega)
  rw [zd9]
  simp only [zK h1,zK h2]
  rw [if_pos (by cases x.1==0 <;> rfl)]
  split
  ·rfl
  ·rw [if_pos (by cases x.1 != 0 <;> rfl)]
   split
   ·rfl
   ·exact ih
theorem zj7 {a0 a2 a3 a4 a5 a6 a7 a8 a9 b0} {cols:List (Sem zh)} {row:List (Sem zf)} (hl:row.length=cols.length):∀ (l:List (Sem zf)) (i:Int),zer row a0 cols a2 a3 a4 a5 a6 a7 a8 a9 b0 l i=true
 | [],i=>by rw [zer]; exact zi2 hl row 0 (by simp)
 | x::r,i=>by
  rw [zer]
  split
  ·rfl
  ·exact zj7 hl r (i+1)
theorem zwb (t:Sem zn) (row:List (Sem zf)):zvv t row=true:=by
 unfold zvv
 split
 ·rfl
 ·rename_i h
  refine zj7 ?_ _ _
  cases hm:zdi t
  ·rw [hm] at h; simp at h
  ·rw [hm] at h
   simp at h
   omega
def zQf:zJ:=zaf [zn,zf.sl] [zg] fun x=>(zcL x.1 x.2.1,())
theorem zOX:FOk zsD.P zsD.gl 121 zQf:=zdl zLs fun x=>zwb x.1 x.2.1

noncomputable def zd7:Env:=(zsD.add 121 zQf)
theorem zB7:zi zd7:=(zi.addS zC2 (zB.refl zsD) zOX)
theorem zCX:zd7.P.follows .mixedOrders=true:=(zm zCu _ _)
end Cad
