/- Expressions: which may be. Expressions: their values. Expressions: may, bounded. Expressions: types and values. What is asked of expressions holds. Checks; bounded tables. What is asked of checks and of bounded tables holds. Which tables may be. What is asked of tables holds. Which rows fit. What is asked of rows holds. The library's functions over texts. -/
import Derived.Test.YtiefilkilbdpgaaGreatDoorM09
namespace Cad
open Go Go.Proofs
open Int (toNat)
open List (length)

def nL (v:V):Bool:=v.1==0&&(v.2.1==0&&(v.2.2==[]&&true))
def avB:AV→Option Bool
 | .bool b=>some b
 | .kb b=>some b
 | _=>none

theorem Reach.toBool {E:bf} {C:cq} {fn:FuncId} {todo:List Item} {st:St} {b:Bool} {hp:List AO} (h:Reach E C fn todo st (fun r h=>avB r=some b∧h=hp)):Reach E C fn todo st (fun r h=>(r,h)=(.bool b,hp)):=by
 refine h.weaken fun r h' hq=>?_
 obtain ⟨h1,rfl⟩:=hq
 refine ⟨.bool b,rfl,fun w U ρ v hv=>?_⟩
 cases r <;> simp [avB] at h1 <;> subst h1 <;> cases hv <;> exact .bool _

def WW (g:ze→Int→Int→Bool×Int) (c:ze→Int→Int→Bool):cy [none,some .expr,some zg]:=fun x h=>match x,h with
 | (.ptr 0 0,e,d,_),[.box [.int .i64 n]]=>.chk (c e d n) (.ok (.bool (g e d n).1,[.box [.int .i64 (g e d n).2]]))
 | _,_=>.err
def Fj (g:ze→Int→Int→Bool×Int) (c:ze→Int→Int→Bool):zD:=zR [none,some .expr,some zg] (WW g c)
noncomputable def JJ (g:ze→Int→Int→Bool×Int) (c:ze→Int→Int→Bool):bf:=HD.add 137 (Fj g c)
theorem uQ {g:ze→Int→Int→Bool×Int} {c:ze→Int→Int→Bool} (hg:FK 137 (Fj g c)):zm (JJ g c):=yG.add hg
abbrev zeK:Nat→zX:=fun j=>if j=12 then { slots:=[0,2,73,74,75] } else { }
abbrev Cw (i2:Int) (l73:LX) (i74:Int) (i75:Int) (ja0:Int):St:={ tmps:=(tm 86 [(0,AV.ptr 0 0),(2,ai i2),(73,AV.sl Sh.expr l73),(74,ai i74),(75,ai i75)]),heap:=[AO.box [ai ja0]] }
theorem NQ (g:ze→Int→Int→Bool×Int) (c:ze→Int→Int→Bool):zA (JJ g c).P 137 Tryz.f137 3:=aJ (by kernel_rfl)
theorem zhS (g:ze→Int→Int→Bool×Int) (c:ze→Int→Int→Bool) (e:ze) (d:Int) (n:Int):rn (JJ g c) 1 zeK Tryz.f137 [AV.ptr 0 0,zz Sh.expr e,ai d] [AO.box [ai n]]=Tr.br (bif decide (d > 12) then true else bif decide (IntKind.i64.wrap (n+1) > 60) then true else (↑e.l.length:Int) != cn e.op) (Tr.ok (zr.ret (AV.kb false) [AO.box [ai (IntKind.i64.wrap (n+1))]])) (Tr.br (e.op==[108,105,116]) (Tr.ok (zr.ret (AV.bool (bif e.s==[] then fC e.v else false)) [AO.box [ai (IntKind.i64.wrap (n+1))]])) (Tr.br (e.op==[99,111,108]) (Tr.ok (zr.ret (AV.bool (bif nL e.v then bif gU e.s then !wY e.s else false else false)) [AO.box [ai (IntKind.i64.wrap (n+1))]])) (Tr.br (bif !nL e.v then true else !e.s==[]) (Tr.ok (zr.ret (AV.kb false) [AO.box [ai (IntKind.i64.wrap (n+1))]])) (Tr.ok (zr.head 12 (zx Tryz.f137 12) (Cw d e.l (↑e.l.length:Int) 0 (IntKind.i64.wrap (n+1)))))))):=by kernel_rfl
theorem Is (g:ze→Int→Int→Bool×Int) (c:ze→Int→Int→Bool) (i2:Int) (l73:LX) (i74:Int) (i75:Int) (ja0:Int):rh (JJ g c) 1 zeK Tryz.f137 12 (Cw i2 l73 i74 i75 ja0)=Tr.br (decide (i75 < i74)) (Tr.chk (zE i75 l73.length) (Tr.chk (c (zB (l73.getD i75.toNat (zj Sh.expr))) (IntKind.i64.wrap (i2+1)) ja0) (Tr.br (!(g (zB (l73.getD i75.toNat (zj Sh.expr))) (IntKind.i64.wrap (i2+1)) ja0).1) (Tr.ok (zr.ret (AV.kb false) [AO.box [AV.int IntKind.i64 (g (zB (l73.getD i75.toNat (zj Sh.expr))) (IntKind.i64.wrap (i2+1)) ja0).2]])) (Tr.ok (zr.head 12 (zx Tryz.f137 12) (Cw i2 l73 i74 (IntKind.i64.wrap (i75+1)) (g (zB (l73.getD i75.toNat (zj Sh.expr))) (IntKind.i64.wrap (i2+1)) ja0).2)))))) (Tr.ok (zr.ret (AV.kb true) [AO.box [ai ja0]])):=by kernel_rfl

def lH (g:ze→Int→Int→Bool×Int) (d:Int):List ze→Int→Bool×Int
 | [],n=>(true,n)
 | x::r,n=>if (!(g x (IntKind.i64.wrap (d+1)) n).1)=true then (false,(g x (IntKind.i64.wrap (d+1)) n).2) else lH g d r (g x (IntKind.i64.wrap (d+1)) n).2
def vW (g:ze→Int→Int→Bool×Int) (c:ze→Int→Int→Bool) (d:Int):List ze→Int→Bool
 | [],_=>true
 | x::r,n=>if c x (IntKind.i64.wrap (d+1)) n=true then (if (!(g x (IntKind.i64.wrap (d+1)) n).1)=true then true else vW g c d r (g x (IntKind.i64.wrap (d+1)) n).2) else false

theorem zg6 {g:ze→Int→Int→Bool×Int} {c:ze→Int→Int→Bool} (hg:FK 137 (Fj g c)) {C:cq} (hC:∀ id,1≤id→C.ρ0 id=none) (d:Int) (l:List ze) (hl:l.length≤zF):
  ∀ (k i:Nat) (n:Int),l.length - i=k→i≤l.length→vW g c d (l.drop i) n=true→Reach (JJ g c) C 137 (zx Tryz.f137 12) (Cw d l l.length i n) (fun r h=>avB r=some (lH g d (l.drop i) n).1∧h=[.box [.int .i64 (lH g d (l.drop i) n).2]]):=by
 intro k
 induction k with
 | zero=>
  intro i n hk hi hc
  obtain rfl:i=l.length:=by omega
  refine zk (uQ hg) (NQ g c) hC (Is g c _ _ _ _ _) ?_
  simp only [z8,Tr.val_brF,dg]
  exact ⟨rfl,rfl⟩
 | succ k IH=>
  intro i n hk hi hc
  have hlt:i < l.length:=by omega
  refine zk (uQ hg) (NQ g c) hC (Is g c _ _ _ _ _) ?_
  rw [dA hlt] at hc ⊢
  rw [vW] at hc
  have hc1:=mU hc
  simp only [zW hlt,zG hlt,zY l _ hlt,ze.eta,Tr.val_brT,Tr.val_chkT,hc1.1,zH i (by omega)]
  refine jU (fun h=>?_) (fun h=>?_)
  ·rw [lH,if_pos h]; exact ⟨rfl,rfl⟩
  ·rw [lH,if_neg (kk h)]
   have h2:=hc1.2
   rw [if_neg (kk h)] at h2
   exact IH (i+1) _ (by omega) (by omega) h2

def BW (g:ze→Int→Int→Bool×Int) (e:ze) (d n:Int):Bool×Int:=if (bif decide (d > 12) then true else bif decide (IntKind.i64.wrap (n+1) > 60) then true else (↑e.l.length:Int) != cn e.op)=true then (false,IntKind.i64.wrap (n+1)) else if (e.op==[108,105,116])=true then (bif e.s==[] then fC e.v else false,IntKind.i64.wrap (n+1)) else if (e.op==[99,111,108])=true then (bif nL e.v then bif gU e.s then !wY e.s else false else false,IntKind.i64.wrap (n+1)) else if (bif !nL e.v then true else !e.s==[])=true then (false,IntKind.i64.wrap (n+1)) else lH g d e.l (IntKind.i64.wrap (n+1))
def H7 (g:ze→Int→Int→Bool×Int) (c:ze→Int→Int→Bool) (e:ze) (d n:Int):Bool:=if (bif decide (d > 12) then true else bif decide (IntKind.i64.wrap (n+1) > 60) then true else (↑e.l.length:Int) != cn e.op)=true then true else if (e.op==[108,105,116])=true then true else if (e.op==[99,111,108])=true then true else if (bif !nL e.v then true else !e.s==[])=true then true else vW g c d e.l (IntKind.i64.wrap (n+1))

theorem V2 {g:ze→Int→Int→Bool×Int} {c:ze→Int→Int→Bool} (hg:FK 137 (Fj g c)):FK 137 (Fj (BW g) (H7 g c)):=by
 refine bq (E:=JJ g c) (NQ g c) fun x h0 res hx C hC=>?_
 unfold WW at hx
 split at hx
 ·rename_i e d u n
  simp only [Tr.val] at hx
  split at hx
  ·rename_i hc
   simp only [ag] at hx
   subst hx
   refine Reach.toBool ?_
   refine zk (n0:=1) (uQ hg) (NQ g c) hC (zhS g c e d n) ?_
   generalize hy:BW g e d n=y
   unfold BW at hy
   unfold H7 at hc
   repeat' (refine jU (fun hsp=>?_) (fun hsp=>?_) <;> first | (rw [if_pos hsp] at hy hc) | (rw [if_neg (kk hsp)] at hy hc))
   all_goals subst hy
   ·exact ⟨rfl,rfl⟩
   ·exact ⟨rfl,rfl⟩
   ·exact ⟨rfl,rfl⟩
   ·exact ⟨rfl,rfl⟩
   ·exact Reach.len 73 .expr e.l rfl fun hl=>zg6 hg hC d e.l hl _ 0 _ rfl (aD _) hc
  ·simp at hx
 ·simp at hx

mutual
def kj:Nat→ze→Int→Int→Bool×Int
 | 0=>fun _ _ _=>(false,0)
 | n+1=>BW (kj n)
def pu:Nat→ze→Int→Int→Bool
 | 0=>fun _ _ _=>false
 | n+1=>H7 (kj n) (pu n)
end
theorem KY:∀ n,FK 137 (Fj (kj n) (pu n))
 | 0=>by
  have h:FK 137 (zR [none,some .expr,some zg] (fun _ _=>.err)):=bq (NQ (fun _ _ _=>(false,0)) (fun _ _ _=>false)) (E:=HD) fun x h0 res hx=>by simp at hx
  refine AY (ι:=Unit) (Gs:=fun _ _ _=>.err) (fun _=>h) fun x h0 res hx=>?_
  unfold WW at hx
  split at hx
  ·simp [Tr.val,pu] at hx
  ·simp at hx
 | n+1=>V2 (KY n)
def F37:zD:=Fj (kj 16) (pu 16)
theorem zbC:FK 137 F37:=KY 16

noncomputable def yH:=HD.add 137 F37
theorem qE:zm yH:=yG.add zbC

abbrev f4:List (zn×AV):=[([97,110,100],.clo (.func 138) [] []),([111,114],.clo (.func 139) [] []),([110,111,116],.clo (.func 140) [] []),([61],.clo (.func 142) [] []),([60],.clo (.func 143) [] []),([43],.clo (.func 144) [] []),([45],.clo (.func 145) [] []),([110,117,108,108],.clo (.func 146) [] [])]
abbrev zi2:Nat→zX:=fun _=>{ }
theorem zfk:zA yH.P 86 Tryz.f86 0:=aJ (by kernel_rfl)
theorem zhJ:(run yH 0 zi2 (Func.results Tryz.f86).toList 400 (au Tryz.f86) (z7 (Func.ntmps Tryz.f86) [] [])).val=some (zr.ret (AV.mp 0) [AO.fmap f4]):=by kernel_rfl
def G23:cy []:=fun _ h=>match h with
 | []=>.ok (.mp 0,[.fmap f4])
 | _=>.err
def F23:zD:=zR [] G23
theorem zbs:FK 86 F23:=by
 refine bq zfk fun x h0 res hx C hC=>?_
 unfold G23 at hx
 split at hx
 ·simp only [Tr.val,ag] at hx
  subst hx
  exact nc (n0:=0) qE zfk hC zhJ rfl
 ·simp at hx

def ZB (op:zn) (x y:V):V:=if (op==[97,110,100])=true then R8 x y else if (op==[111,114])=true then vOr x y else if (op==[110,111,116])=true then Jm x y else if (op==[61])=true then CS x y else if (op==[60])=true then Jk x y else if (op==[43])=true then Jn x y else if (op==[45])=true then CT x y else if (op==[110,117,108,108])=true then CU x y else (0,0,[])
def opC (op:zn):Bool:=if (op==[97,110,100])=true then true else if (op==[111,114])=true then true else if (op==[110,111,116])=true then true else if (op==[61])=true then true else if (op==[60])=true then true else if (op==[43])=true then true else if (op==[45])=true then true else if (op==[110,117,108,108])=true then true else false
def opL (op:zn) (x y:V) (h:List AO):Option zr:=if (op==[97,110,100])=true then some (.ret (zz zf (R8 x y)) h) else if (op==[111,114])=true then some (.ret (zz zf (vOr x y)) h) else if (op==[110,111,116])=true then some (.ret (zz zf (Jm x y)) h) else if (op==[61])=true then some (.ret (zz zf (CS x y)) h) else if (op==[60])=true then some (.ret (zz zf (Jk x y)) h) else if (op==[43])=true then some (.ret (zz zf (Jn x y)) h) else if (op==[45])=true then some (.ret (zz zf (CT x y)) h) else if (op==[110,117,108,108])=true then some (.ret (zz zf (CU x y)) h) else none

def WV (g:List (Sem zi)→List (Sem zf)→ze→V) (c:List (Sem zi)→List (Sem zf)→ze→Bool):cy [none,some .expr]:=fun x h=>match x,h with
 | (.agg [.sl (.pr .str (.pr (.int .i64) .bool)) cols,.sl (.pr (.int .i64) (.pr (.int .i64) .str)) row,.mp 0],e,_),[.fmap [(k1,.clo (.func 138) [] []),(k2,.clo (.func 139) [] []),(k3,.clo (.func 140) [] []),(k4,.clo (.func 142) [] []),(k5,.clo (.func 143) [] []),(k6,.clo (.func 144) [] []),(k7,.clo (.func 145) [] []),(k8,.clo (.func 146) [] [])]]=>
  .chk (k1==[97,110,100]&&(k2==[111,114]&&(k3==[110,111,116]&&(k4==[61]&&(k5==[60]&&(k6==[43]&&(k7==[45]&&(k8==[110,117,108,108])))))))) (.chk (c cols row e) (.ok (zz zf (g cols row e),[.fmap f4])))
 | _,_=>.err
def Jp (g:List (Sem zi)→List (Sem zf)→ze→V) (c:List (Sem zi)→List (Sem zf)→ze→Bool):zD:=zR [none,some .expr] (WV g c)
noncomputable def JH (g:List (Sem zi)→List (Sem zf)→ze→V) (c:List (Sem zi)→List (Sem zf)→ze→Bool):bf:=yH.add 87 (Jp g c)
theorem uO {g:List (Sem zi)→List (Sem zf)→ze→V} {c:List (Sem zi)→List (Sem zf)→ze→Bool} (hg:FK 87 (Jp g c)):zm (JH g c):=qE.add hg
theorem NL (g:List (Sem zi)→List (Sem zf)→ze→V) (c:List (Sem zi)→List (Sem zf)→ze→Bool):zA (JH g c).P 87 Tryz.f87 2:=aJ (by kernel_rfl)
theorem XM (g:List (Sem zi)→List (Sem zf)→ze→V) (c:List (Sem zi)→List (Sem zf)→ze→Bool) (cols:LC) (row:LV) (op:zn) (v:V) (s:zn):(run (JH g c) 1 ZD (Func.results Tryz.f87).toList 600 (au Tryz.f87) (z7 (Func.ntmps Tryz.f87) [AV.agg [AV.sl zi cols,AV.sl zf row,AV.mp 0],zz Sh.expr (.mk op v s [])] [AO.fmap f4])).val=if (op==[108,105,116])=true then some (.ret (zz zf v) [.fmap f4]) else if (op==[99,111,108])=true then (if (bif decide (z6 cols s < 0) then true else decide (z6 cols s ≥ (↑row.length:Int)))=true then some (.ret (zz zf (0,0,[])) [.fmap f4]) else if zE (z6 cols s) row.length=true then some (.ret (zz zf (row.getD (toNat (z6 cols s)) (zj zf))) [.fmap f4]) else none) else opL op (0,0,[]) (0,0,[]) [.fmap f4]:=by kernel_rfl
theorem XN (g:List (Sem zi)→List (Sem zf)→ze→V) (c:List (Sem zi)→List (Sem zf)→ze→Bool) (cols:LC) (row:LV) (op:zn) (v:V) (s:zn) (a:ze):(run (JH g c) 1 ZD (Func.results Tryz.f87).toList 600 (au Tryz.f87) (z7 (Func.ntmps Tryz.f87) [AV.agg [AV.sl zi cols,AV.sl zf row,AV.mp 0],zz Sh.expr (.mk op v s [a])] [AO.fmap f4])).val=if (op==[108,105,116])=true then some (.ret (zz zf v) [.fmap f4]) else if (op==[99,111,108])=true then (if (bif decide (z6 cols s < 0) then true else decide (z6 cols s ≥ (↑row.length:Int)))=true then some (.ret (zz zf (0,0,[])) [.fmap f4]) else if zE (z6 cols s) row.length=true then some (.ret (zz zf (row.getD (toNat (z6 cols s)) (zj zf))) [.fmap f4]) else none) else if c cols row (.mk a.op a.v a.s a.l)=true then opL op (g cols row (.mk a.op a.v a.s a.l)) (0,0,[]) [.fmap f4] else none:=by kernel_rfl
theorem XO (g:List (Sem zi)→List (Sem zf)→ze→V) (c:List (Sem zi)→List (Sem zf)→ze→Bool) (cols:LC) (row:LV) (op:zn) (v:V) (s:zn) (a b:ze):(run (JH g c) 1 ZD (Func.results Tryz.f87).toList 600 (au Tryz.f87) (z7 (Func.ntmps Tryz.f87) [AV.agg [AV.sl zi cols,AV.sl zf row,AV.mp 0],zz Sh.expr (.mk op v s [a,b])] [AO.fmap f4])).val=if (op==[108,105,116])=true then some (.ret (zz zf v) [.fmap f4]) else if (op==[99,111,108])=true then (if (bif decide (z6 cols s < 0) then true else decide (z6 cols s ≥ (↑row.length:Int)))=true then some (.ret (zz zf (0,0,[])) [.fmap f4]) else if zE (z6 cols s) row.length=true then some (.ret (zz zf (row.getD (toNat (z6 cols s)) (zj zf))) [.fmap f4]) else none) else if c cols row (.mk a.op a.v a.s a.l)=true then (if c cols row (.mk b.op b.v b.s b.l)=true then opL op (g cols row (.mk a.op a.v a.s a.l)) (g cols row (.mk b.op b.v b.s b.l)) [.fmap f4] else none) else none:=by kernel_rfl

theorem mG {Φ:zr→Prop} {c:Bool} {a b:Option zr} (h1:c=true→eW Φ a) (h2:c=false→eW Φ b):eW Φ (if c=true then a else b):=by
 cases c
 ·simpa using h2 rfl
 ·simpa using h1 rfl
theorem rt {E:bf} {C:cq} {k:FuncId} {f:Func} {Q:AV→List AO→Prop} {n n0:Nat} (hE:zm E) (hf:zA E.P k f n) (hC:∀ id,n0≤id→C.ρ0 id=none) {keep:Nat→zX} {fuel:Nat}
  {todo:List Item} {st:St} {o:Option zr} (ht:(run E n0 keep f.results.toList fuel todo st).val=o) (h:eW (gY E C k Q) o):Reach E C k todo st Q:=
 zk hE hf hC rfl (by rw [ht]; exact h)

theorem qY {E:bf} {C:cq} {op:zn} {x y:V} {h:List AO} (hc:opC op=true):eW (gY E C 87 (fun r h'=>(r,h')=(zz zf (ZB op x y),h))) (opL op x y h):=by
 generalize hy:ZB op x y=z
 unfold opC at hc
 unfold ZB at hy
 unfold opL
 repeat' (refine mG (fun hsp=>?_) (fun hsp=>?_) <;> first | (rw [if_pos hsp] at hy; try rw [if_pos hsp] at hc) | (rw [if_neg (kk hsp)] at hy; try rw [if_neg (kk hsp)] at hc))
 all_goals first | (cases hc; done) | (subst hy; rfl)

def Fe (g:List (Sem zi)→List (Sem zf)→ze→V) (cols:LC) (row:LV):ze→V
 | .mk op v s l=>if (op==[108,105,116])=true then v else
  if (op==[99,111,108])=true then (if (bif decide (z6 cols s < 0) then true else decide (z6 cols s ≥ (↑row.length:Int)))=true then (0,0,[]) else row.getD (toNat (z6 cols s)) (zj zf)) else
  match l with
  | []=>ZB op (0,0,[]) (0,0,[])
  | [a]=>ZB op (g cols row a) (0,0,[])
  | [a,b]=>ZB op (g cols row a) (g cols row b)
  | _=>(0,0,[])
def qd (c:List (Sem zi)→List (Sem zf)→ze→Bool) (cols:LC) (row:LV):ze→Bool
 | .mk _ _ _ (_::_::_::_)=>false
 | .mk op _ s l=>if (op==[108,105,116])=true then true else
  if (op==[99,111,108])=true then (if (bif decide (z6 cols s < 0) then true else decide (z6 cols s ≥ (↑row.length:Int)))=true then true else zE (z6 cols s) row.length) else
  match l with
  | []=>opC op
  | [a]=>if c cols row a=true then opC op else false
  | [a,b]=>if c cols row a=true then (if c cols row b=true then opC op else false) else false
  | _=>false

theorem VR {g:List (Sem zi)→List (Sem zf)→ze→V} {c:List (Sem zi)→List (Sem zf)→ze→Bool} (hg:FK 87 (Jp g c)):FK 87 (Jp (Fe g) (qd c)):=by
 refine bq (E:=JH g c) (NL g c) fun x h0 res hx C hC=>?_
 unfold WV at hx
 split at hx
 ·rename_i cols row e u k1 k2 k3 k4 k5 k6 k7 k8
  simp only [Tr.val] at hx
  split at hx
  ·rename_i hk
   split at hx
   ·rename_i hc
    simp only [aE,eQ] at hk
    obtain ⟨rfl,rfl,rfl,rfl,rfl,rfl,rfl,rfl⟩:=hk
    simp only [ag] at hx
    subst hx
    obtain ⟨op,v,s,l⟩:=e
    match l,hc with
    | [],hc=>
     refine rt (n0:=1) (uO hg) (NL g c) hC (XM g c cols row op v s) ?_
     generalize hy:Fe g cols row (.mk op v s [])=z
     rw [qd] at hc
     rw [Fe] at hy
     repeat' (first | (subst hy; exact qY hc) | refine mG (fun hsp=>?_) (fun hsp=>?_) <;> first | (first | rw [if_pos hsp] at hy hc | rw [if_pos hsp] at hc | rw [if_pos hsp] at hy) | (first | rw [if_neg (kk hsp)] at hy hc | rw [if_neg (kk hsp)] at hc | rw [if_neg (kk hsp)] at hy) | skip)
     all_goals first | (subst hy; exact qY hc) | (subst hy; rfl) | (rw [hc] at hsp; cases hsp)
    | [a],hc=>
     refine rt (n0:=1) (uO hg) (NL g c) hC (XN g c cols row op v s a) ?_
     generalize hy:Fe g cols row (.mk op v s [a])=z
     rw [qd] at hc
     rw [Fe] at hy
     simp only [ze.eta]
     repeat' (first | (subst hy; exact qY hc) | refine mG (fun hsp=>?_) (fun hsp=>?_) <;> first | (first | rw [if_pos hsp] at hy hc | rw [if_pos hsp] at hc | rw [if_pos hsp] at hy) | (first | rw [if_neg (kk hsp)] at hy hc | rw [if_neg (kk hsp)] at hc | rw [if_neg (kk hsp)] at hy) | skip)
     all_goals first | (subst hy; exact qY hc) | (subst hy; rfl) | (cases hc; done) | (rw [hc] at hsp; cases hsp)
    | [a,b],hc=>
     refine rt (n0:=1) (uO hg) (NL g c) hC (XO g c cols row op v s a b) ?_
     generalize hy:Fe g cols row (.mk op v s [a,b])=z
     rw [qd] at hc
     rw [Fe] at hy
     simp only [ze.eta]
     repeat' (first | (subst hy; exact qY hc) | refine mG (fun hsp=>?_) (fun hsp=>?_) <;> first | (first | rw [if_pos hsp] at hy hc | rw [if_pos hsp] at hc | rw [if_pos hsp] at hy) | (first | rw [if_neg (kk hsp)] at hy hc | rw [if_neg (kk hsp)] at hc | rw [if_neg (kk hsp)] at hy) | skip)
     all_goals first | (subst hy; exact qY hc) | (subst hy; rfl) | (cases hc; done) | (rw [hc] at hsp; cases hsp)
    | _::_::_::_,hc=>
     cases hc
   ·simp at hx
  ·simp at hx
 ·simp at hx

mutual
def CV:Nat→List (Sem zi)→List (Sem zf)→ze→V
 | 0=>fun _ _ _=>(0,0,[])
 | n+1=>Fe (CV n)
def qc:Nat→List (Sem zi)→List (Sem zf)→ze→Bool
 | 0=>fun _ _ _=>false
 | n+1=>qd (qc n)
end
theorem KV:∀ n,FK 87 (Jp (CV n) (qc n))
 | 0=>by
  have h:FK 87 (zR [none,some .expr] (fun _ _=>.err)):=bq (NL (fun _ _ _=>(0,0,[])) (fun _ _ _=>false)) (E:=yH) fun x h0 res hx=>by simp at hx
  refine AY (ι:=Unit) (Gs:=fun _ _ _=>.err) (fun _=>h) fun x h0 res hx=>?_
  unfold WV at hx
  split at hx
  ·simp [Tr.val,qc] at hx
  ·simp at hx
 | n+1=>VR (KV n)
def F24:zD:=Jp (CV 16) (qc 16)
theorem zbt:FK 87 F24:=KV 16

noncomputable def yI:=yH.addL [(86,F23),(87,F24)]
theorem qF:zm yI:=qE.addL <| fc zbs <| fc zbt gW

abbrev zi1:Nat→zX:=fun _=>{ }
theorem zfj:zA (yI).P 85 Tryz.f85 1:=aJ (by kernel_rfl)
theorem zhI (x0:Sem Sh.expr):rn yI 0 zi1 Tryz.f85 [zz Sh.expr x0] []=Tr.chk (pu 16 (zB x0) 1 0) (Tr.ok (zr.ret (AV.bool (kj 16 (zB x0) 1 0).1) [])):=by kernel_rfl
def hY (x0:Sem Sh.expr):Sem Sh.bool:=(kj 16 x0 1 0).1
def rZ (x0:Sem Sh.expr):Bool:=if pu 16 x0 1 0=true then true else false
def F22:zD:=zC [Sh.expr] [Sh.bool] (fun x=>rZ x.1) fun x=>(hY x.1,())
theorem To:FK 85 F22:=by
 refine zN (zfj) fun x hc C hC=>?_
 unfold rZ at hc
 refine zk qF (zfj) (fun id _=>hC id) (zhI x.1) ?_
 generalize hy:hY x.1=y
 unfold hY at hy
 try simp only [ze.eta]
 repeat' (first | with_reducible refine eU hy hc (fun _ hy hc=>?_) (fun _ hy hc=>?_) | with_reducible refine aP hy (fun _ hy=>?_) (fun _ hy=>?_) | with_reducible refine bh hc (fun hc=>?_) | with_reducible refine zq ?_)
 all_goals (subst hy; first | rfl)

abbrev kp7:Nat→zX:=fun _=>{ }
theorem ok7:zA (yI).P 27 Tryz.f27 1:=aJ (by kernel_rfl)
theorem go7 (x0:Sem Sh.expr):rn yI 0 kp7 Tryz.f27 [zz Sh.expr x0] []=Tr.chk (pk 16 (zB x0) 14 80) (Tr.ok (zr.ret (AV.agg [AV.str (ze.op (gq 16 (zB x0) 14 80).1),ai (ze.v (gq 16 (zB x0) 14 80).1).1,ai (ze.v (gq 16 (zB x0) 14 80).1).2.1,AV.str (ze.v (gq 16 (zB x0) 14 80).1).2.2,AV.str (ze.s (gq 16 (zB x0) 14 80).1),AV.sl Sh.expr (ze.l (gq 16 (zB x0) 14 80).1)]) [])):=by kernel_rfl
def bg (x0:Sem Sh.expr):Sem Sh.expr:=ze.mk (ze.op (gq 16 x0 14 80).1) (ze.v (gq 16 x0 14 80).1) (ze.s (gq 16 x0 14 80).1) (ze.l (gq 16 x0 14 80).1)
def HC (x0:Sem Sh.expr):Bool:=if pk 16 x0 14 80=true then true else false
def F7:zD:=zC [Sh.expr] [Sh.expr] (fun x=>HC x.1) fun x=>(bg x.1,())
theorem zb8:FK 27 F7:=by
 refine zN (ok7) fun x hc C hC=>?_
 unfold HC at hc
 refine zk qF (ok7) (fun id _=>hC id) (go7 x.1) ?_
 generalize hy:bg x.1=y
 unfold bg at hy
 try simp only [ze.eta]
 repeat' (first | with_reducible refine eU hy hc (fun _ hy hc=>?_) (fun _ hy hc=>?_) | with_reducible refine aP hy (fun _ hy=>?_) (fun _ hy=>?_) | with_reducible refine bh hc (fun hc=>?_) | with_reducible refine zq ?_)
 all_goals (subst hy; first | rfl)

noncomputable def yJ:=yI.addL [(85,F22),(27,F7)]
theorem qG:zm yJ:=qF.addL <| fc To <| fc zb8 gW

abbrev zi3:Nat→zX:=fun _=>{ }
theorem zfn:zA (yJ).P 83 Tryz.f83 2:=aJ (by kernel_rfl)
theorem zhN (x0:Sem Sh.expr) (x1:Sem zi.sl):rn yJ 0 zi3 Tryz.f83 [zz Sh.expr x0,zz zi.sl x1] []=Tr.chk (rZ (zB x0)) (Tr.br (!hY (zB x0)) (Tr.ok (zr.ret (AV.tup [ai 0,ai 1]) [])) (Tr.chk (iH 16 (zB x0) x1) (Tr.ok (zr.ret (AV.tup [ai (gw 16 (zB x0) x1).1,ai (gw 16 (zB x0) x1).2]) [])))):=by kernel_rfl
def ba (x0:Sem Sh.expr) (x1:Sem zi.sl):Sem zg×Sem zg:=if (!hY x0)=true then (0,1) else ((gw 16 x0 x1).1,(gw 16 x0 x1).2)
def Bo (x0:Sem Sh.expr) (x1:Sem zi.sl):Bool:=if rZ x0=true then if (!hY x0)=true then true else if iH 16 x0 x1=true then true else false else false
def F30:zD:=zC [Sh.expr,zi.sl] [zg,zg] (fun x=>Bo x.1 x.2.1) fun x=>((ba x.1 x.2.1).1,(ba x.1 x.2.1).2,())
theorem Tp:FK 83 F30:=by
 refine zN (zfn) fun x hc C hC=>?_
 unfold Bo at hc
 refine zk qG (zfn) (fun id _=>hC id) (zhN x.1 x.2.1) ?_
 generalize hy:ba x.1 x.2.1=y
 unfold ba at hy
 try simp only [ze.eta]
 repeat' (first | with_reducible refine eU hy hc (fun _ hy hc=>?_) (fun _ hy hc=>?_) | with_reducible refine aP hy (fun _ hy=>?_) (fun _ hy=>?_) | with_reducible refine bh hc (fun hc=>?_) | with_reducible refine zq ?_)
 all_goals (subst hy; first | rfl)

abbrev ziZ:Nat→zX:=fun _=>{ }
theorem zfc:zA (yJ).P 48 Tryz.f48 3:=aJ (by kernel_rfl)
theorem zhA (x0:Sem Sh.expr) (x1:Sem zi.sl) (x2:Sem zf.sl):rn yJ 0 ziZ Tryz.f48 [zz Sh.expr x0,zz zi.sl x1,zz zf.sl x2] []=Tr.chk (rZ (zB x0)) (Tr.br (!hY (zB x0)) (Tr.ok (zr.ret (AV.agg [ai 0,ai 0,AV.str []]) [])) (Tr.chk ([97,110,100]==[97,110,100]&&([111,114]==[111,114]&&([110,111,116]==[110,111,116]&&([61]==[61]&&([60]==[60]&&([43]==[43]&&([45]==[45]&&[110,117,108,108]==[110,117,108,108]))))))) (Tr.chk (qc 16 x1 x2 (zB x0)) (Tr.ok (zr.ret (AV.agg [ai (CV 16 x1 x2 (zB x0)).1,ai (CV 16 x1 x2 (zB x0)).2.1,AV.str (CV 16 x1 x2 (zB x0)).2.2]) []))))):=by kernel_rfl
def f5 (x0:Sem Sh.expr) (x1:Sem zi.sl) (x2:Sem zf.sl):Sem zf:=if (!hY x0)=true then (0,0,[]) else CV 16 x1 x2 x0
def Bn (x0:Sem Sh.expr) (x1:Sem zi.sl) (x2:Sem zf.sl):Bool:=if rZ x0=true then if (!hY x0)=true then true else if ([97,110,100]==[97,110,100]&&([111,114]==[111,114]&&([110,111,116]==[110,111,116]&&([61]==[61]&&([60]==[60]&&([43]==[43]&&([45]==[45]&&[110,117,108,108]==[110,117,108,108])))))))=true then if qc 16 x1 x2 x0=true then true else false else false else false
def F11:zD:=zC [Sh.expr,zi.sl,zf.sl] [zf] (fun x=>Bn x.1 x.2.1 x.2.2.1) fun x=>(f5 x.1 x.2.1 x.2.2.1,())
theorem Tj:FK 48 F11:=by
 refine zN (zfc) fun x hc C hC=>?_
 unfold Bn at hc
 refine zk qG (zfc) (fun id _=>hC id) (zhA x.1 x.2.1 x.2.2.1) ?_
 generalize hy:f5 x.1 x.2.1 x.2.2.1=y
 unfold f5 at hy
 try simp only [ze.eta]
 repeat' (first | with_reducible refine eU hy hc (fun _ hy hc=>?_) (fun _ hy hc=>?_) | with_reducible refine aP hy (fun _ hy=>?_) (fun _ hy=>?_) | with_reducible refine bh hc (fun hc=>?_) | with_reducible refine zq ?_)
 all_goals (subst hy; first | rfl)

noncomputable def TH:=yJ.addL [(83,F30),(48,F11)]
theorem JO:zm TH:=qG.addL <| fc Tp <| fc Tj gW

theorem ll (d:Int) (h1:-1000≤d) (h2:d≤1000):IntKind.i64.wrap d=d:=by
 rw [rL]; omega

theorem Af {g:Sem Sh.expr→Sem zg→Sem zg→Sem Sh.expr×Sem zg} {c:Sem Sh.expr→Sem zg→Sem zg→Bool} {i1:Int} (h:∀ x n,0 < i1→c x (IntKind.i64.wrap (i1 - 1)) n=true) {a0:zn} {a1 a2:Int} {a3 a4 b0:zn} {b1 b2:Int} {b3 b4 d0:zn} {d1 d2:Int} {d3 d4:zn}:
  ∀ (l:List (Sem Sh.expr)) (i n:Int) (acc:List (Sem Sh.expr)),(acc.length:Int)≤i→cF g c i1 a0 a1 a2 a3 a4 b0 b1 b2 b3 b4 d0 d1 d2 d3 d4 l i n acc=true
 | [],_,_,_,_=>rfl
 | x::r,i,n,acc,hi=>by
  rw [cF]
  split
  ·rename_i hk
   have h3:i < 3∧i1 > 0:=by
    cases h1:decide (i < 3) <;> cases h2:decide (i1 > 0) <;> simp_all
   rw [if_pos (h x n h3.2),if_pos (by simp; omega)]
   exact Af h r (i+1) _ _ (by simp; omega)
  ·rfl

theorem F4 {g:Sem Sh.expr→Sem zg→Sem zg→Sem Sh.expr×Sem zg} {c:Sem Sh.expr→Sem zg→Sem zg→Bool} {i1:Int} (h:∀ x n,0 < i1→c x (IntKind.i64.wrap (i1 - 1)) n=true) (e:ze) (n:Int):D1 g c e i1 n=true:=by
 have hl:=fun a0 a1 a2 a3 a4 b0 b1 b2 b3 b4 d0 d1 d2 d3 d4 l n=>Af (g:=g) h (a0:=a0) (a1:=a1) (a2:=a2) (a3:=a3) (a4:=a4) (b0:=b0) (b1:=b1) (b2:=b2) (b3:=b3) (b4:=b4) (d0:=d0) (d1:=d1) (d2:=d2) (d3:=d3) (d4:=d4) l 0 n [] (by simp)
 unfold D1
 repeat' split
 all_goals first
  | exact hl _ _ _ _ _ _ _ _ _ _ _ _ _ _ _ _ _
  | (exfalso; simp only [zZ,aE,not_and] at *; omega)

theorem vF:∀ (N:Nat) (e:ze) (d n:Int),0≤d→d < N→N≤100→pk N e d n=true
 | 0,_,_,_,h1,h2,_=>by omega
 | N+1,e,d,n,h1,h2,h3=>by
  rw [pk]
  refine F4 (fun x m hd=>?_) e n
  rw [ll _ (by omega) (by omega)]
  exact vF N x (d - 1) m (by omega) (by omega) (by omega)

theorem vX {g:ze→Int→Int→Bool×Int} {c:ze→Int→Int→Bool} {d:Int} (h:∀ x n,c x (IntKind.i64.wrap (d+1)) n=true):∀ (l:List ze) (n:Int),vW g c d l n=true
 | [],_=>rfl
 | x::r,n=>by
  rw [vW,if_pos (h x n)]
  split
  ·rfl
  ·exact vX h r _

theorem vV:∀ (N:Nat) (e:ze) (d n:Int),0≤d→d≤13→14≤d+N→pu N e d n=true
 | 0,_,_,_,_,_,_=>by omega
 | N+1,e,d,n,h1,h2,h3=>by
  rw [pu]
  unfold H7
  by_cases hd:d > 12
  ·simp [hd]
  ·have hl:vW (kj N) (pu N) d e.l (IntKind.i64.wrap (n+1))=true:=vX (fun x m=>by
    rw [ll _ (by omega) (by omega)]
    exact vV N x (d+1) m (by omega) (by omega) (by omega)) _ _
   repeat' split
   all_goals first | rfl | exact hl

abbrev zjm:ze:=.mk [] (0,0,[]) [] []

theorem G3 (N:Nat) (e:ze):kY (N+1) e zjm=true:=by
 rw [kY]
 unfold CB
 have hl:Ac (sr N) (kY N) e.l []=true:=by
  unfold Ac
  split
  ·rfl
  ·cases e.l <;> rfl
 show (bif e.op==[] then bif eqV e.v (0,0,[]) then bif e.s==[] then Ac (sr N) (kY N) e.l [] else true else true else true)=true
 rw [hl]
 cases e.op==[] <;> cases eqV e.v (0,0,[]) <;> cases e.s==[] <;> rfl

theorem kP {α:Type} (p:α→Bool):∀ (l:List α) (i:Nat),zS p l i=-1∨((i:Int)≤zS p l i∧zS p l i < i+l.length)
 | [],_=>.inl rfl
 | x::r,i=>by
  unfold zS
  split
  ·exact .inr ⟨by omega,by simp; omega⟩
  ·rcases kP p r (i+1) with h | ⟨h1,h2⟩
   ·exact .inl h
   ·exact .inr ⟨by omega,by simp; omega⟩

theorem Bc (l:List (Sem zi)) (s:zn):z6 l s=-1∨(0≤z6 l s∧z6 l s < l.length):=by
 have:=kP (fun c:Sem zi=>c.1==s) l 0
 unfold z6
 simpa using this

theorem mi (op:zn):(cn op=0∧(op=[108,105,116]∨op=[99,111,108]))∨(cn op=1∧(op=[110,111,116]∨op=[110,117,108,108]))∨
  (cn op=2∧(op=[97,110,100]∨op=[111,114]∨op=[61]∨op=[60]∨op=[43]∨op=[45]))∨cn op=-1:=by
 unfold cn Er
 simp only [UW]
 repeat' split
 all_goals simp_all

theorem qX {g:ze→Int→Int→Bool×Int} {e:ze} {d n:Int} (h:(BW g e d n).1=true):(e.l.length:Int)=cn e.op∧
  ((e.op=[108,105,116]∨e.op=[99,111,108])∨(lH g d e.l (IntKind.i64.wrap (n+1))).1=true):=by
 unfold BW at h
 split at h
 ·cases h
 ·rename_i h1
  have hl:(e.l.length:Int)=cn e.op:=by
   cases h2:decide (d > 12) <;> cases h3:decide (IntKind.i64.wrap (n+1) > 60) <;> simp_all
  refine ⟨hl,?_⟩
  split at h
  ·rename_i h2; exact .inl (.inl (by simpa using h2))
  ·split at h
   ·rename_i h2; exact .inl (.inr (by simpa using h2))
   ·split at h
    ·cases h
    ·exact .inr h

theorem py {g:ze→Int→Int→Bool×Int} {d:Int}:∀ (l:List ze) (n:Int),(lH g d l n).1=true→∀ x∈l,∃ m,(g x (IntKind.i64.wrap (d+1)) m).1=true
 | [],_,_,_,hx=>by simp at hx
 | y::r,n,h,x,hx=>by
  rw [lH] at h
  split at h
  ·cases h
  ·rename_i hy
   rcases dW.1 hx with rfl | hx
   ·exact ⟨n,by simpa using hy⟩
   ·exact py r _ h x hx

theorem sA {g:ze→List (Sem zi)→Int×Int} {c:ze→List (Sem zi)→Bool} {cols:List (Sem zi)} {op:zn} {a1 a2:Int} {a3 a4:zn} {w:List ze}:
    ∀ (l:List ze) (i:Int) (acc:List Int),(∀ x∈l,c x cols=true)→((acc.length:Int)+l.length)=cn op→eM g c cols op a1 a2 a3 a4 w l i acc=true
  | [], i,acc,_,hp=>by
    have hp:(acc.length:Int)=cn op:=by simpa using hp
    have hcp:decide (z6 cols a4 < 0)=true∨zE (z6 cols a4) cols.length=true:=by
      rcases Bc cols a4 with h | ⟨h1,h2⟩
      · exact .inl (by rw [h]; rfl)
      · exact .inr (by simp [zE,h1,h2])
    have h2:op=[61]∨op=[60]→acc.length=2:=by
      rintro (rfl | rfl)
      · have:cn [61]=2:=by decide
        omega
      · have:cn [60]=2:=by decide
        omega
    unfold eM
    repeat' split
    all_goals first
      | rfl
      | (exfalso; rcases hcp with h | h <;> simp_all; done)
      | (exfalso
         rename_i h7 h8
         have h9:=h2 (by simp_all)
         rw [h9] at h8
         exact h8 (by cases hA:(acc.getD (toNat 0) (zj zg)==acc.getD (toNat 1) (zj zg)) <;> cases hB:(acc.getD (toNat 0) (zj zg)==0) <;> rfl))
  | x :: r,i,acc,hc,hp=>by
    have hle:cn op≤2:=by rcases mi op with h | h | h | h <;> omega
    rw [eM,if_pos (hc x (by simp))]
    split
    · rfl
    · rw [if_pos (by simp at hp ⊢; omega)]
      exact sA r (i+1) _ (fun y hy=>hc y (by simp [hy])) (by simp at hp ⊢; omega)

theorem qb:∀ (N:Nat) (e:ze) (d n:Int) (cols:List (Sem zi)),(kj N e d n).1=true→iH N e cols=true
 | 0,_,_,_,_,h=>by cases h
 | N+1,e,d,n,cols,h=>by
  rw [kj] at h
  obtain ⟨hl,h2⟩:=qX h
  rw [iH]
  unfold tG
  refine sA e.l 0 [] (fun x hx=>?_) (by simpa using hl)
  rcases h2 with h2 | h2
  ·exfalso
   have:cn e.op=0:=by
    rcases h2 with h2 | h2 <;> rw [h2] <;> decide
   rw [this] at hl
   have:e.l=[]:=Dg (by omega)
   rw [this] at hx; simp at hx
  ·obtain ⟨m,hm⟩:=py e.l _ h2 x hx
   exact qb N x _ _ cols hm

theorem xB:∀ (N:Nat) (e:ze) (d n:Int) (cols:List (Sem zi)) (row:List (Sem zf)),(kj N e d n).1=true→qc N cols row e=true
 | 0,_,_,_,_,_,h=>by cases h
 | N + 1,.mk op v s l,d,n,cols,row,h=>by
  rw [kj] at h
  obtain ⟨hl,h2⟩:=qX h
  have hl:(l.length:Int)=cn op:=hl
  have h2:(op=[108,105,116]∨op=[99,111,108])∨(lH (kj N) d l (IntKind.i64.wrap (n+1))).1=true:=h2
  have hx:∀ x∈l,(¬ (op=[108,105,116]∨op=[99,111,108]))→qc N cols row x=true:=by
   intro x hx hno
   rcases h2 with h2 | h2
   ·exact (hno h2).elim
   ·obtain ⟨m,hm⟩:=py l _ h2 x hx
    exact xB N x _ _ cols row hm
  have hcol:(if (bif decide (z6 cols s < 0) then true else decide (z6 cols s ≥ (↑row.length:Int)))=true then true else zE (z6 cols s) row.length)=true:=by
   split
   ·rfl
   ·rename_i hh
    have h1:0≤z6 cols s∧z6 cols s < row.length:=by
     cases hq:decide (z6 cols s < 0)
     ·rw [hq] at hh
      simp at hq hh
      exact ⟨hq,hh⟩
     ·rw [hq] at hh; simp at hh
    simp [zE,h1.1,h1.2]
  rw [qc]
  rcases mi op with ⟨hp,ho⟩ | ⟨hp,ho⟩ | ⟨hp,ho⟩ | hp
  ·have:l=[]:=Dg (by omega)
   subst this
   rcases ho with rfl | rfl
   ·rfl
   ·rw [qd]; exact hcol
  ·match l,hl,hx with
   | [a],_,hx=>
    rcases ho with rfl | rfl
    ·rw [qd]; exact (if_pos (hx a (by simp) (by decide))).trans rfl
    ·rw [qd]; exact (if_pos (hx a (by simp) (by decide))).trans rfl
   | [],hl,_=>simp at hl; omega
   | _::_::_,hl,_=>simp at hl; omega
  ·match l,hl,hx with
   | [a,b],_,hx=>
    rcases ho with rfl | rfl | rfl | rfl | rfl | rfl <;>
     (rw [qd]; exact (if_pos (hx a (by simp) (by decide))).trans ((if_pos (hx b (by simp) (by decide))).trans rfl))
   | [],hl,_=>simp at hl; omega
   | [_],hl,_=>simp at hl; omega
   | _::_::_::_,hl,_=>simp at hl; omega
  ·omega

theorem og (e:ze):rZ e=true:=by
 unfold rZ
 rw [if_pos (vV 16 e 1 0 (by omega) (by omega) (by omega))]
theorem FF (e:ze):HC e=true:=by
 unfold HC
 rw [if_pos (vF 16 e 14 80 (by omega) (by omega) (by omega))]
theorem DE (e:ze) (cols:List (Sem zi)):Bo e cols=true:=by
 unfold Bo
 rw [if_pos (og e)]
 split
 ·rfl
 ·rename_i h
  rw [if_pos (qb 16 e 1 0 cols (by simpa [hY] using h))]
theorem DD (e:ze) (cols:List (Sem zi)) (row:List (Sem zf)):Bn e cols row=true:=by
 unfold Bn
 rw [if_pos (og e)]
 split
 ·rfl
 ·rename_i h
  rw [if_pos (by decide),if_pos (xB 16 e 1 0 cols row (by simpa [hY] using h))]

def zaq:zD:=af [Sh.expr] [Sh.bool] fun x=>(hY x.1,())
theorem VO:FK 85 zaq:=eH To fun x=>og x.1
def F7t:zD:=af [Sh.expr] [Sh.expr] fun x=>(bg x.1,())
theorem zcf:FK 27 F7t:=eH zb8 fun x=>FF x.1
def zaw:zD:=af [Sh.expr,zi.sl] [zg,zg] fun x=>((ba x.1 x.2.1).1,(ba x.1 x.2.1).2,())
theorem VX:FK 83 zaw:=eH Tp fun x=>DE x.1 x.2.1
def ZV:zD:=af [Sh.expr,zi.sl,zf.sl] [zf] fun x=>(f5 x.1 x.2.1 x.2.2.1,())
theorem Vj:FK 48 ZV:=eH Tj fun x=>DD x.1 x.2.1 x.2.2.1

noncomputable def lv:=TH.addL [(85,zaq),(27,F7t),(83,zaw),(48,ZV)]
theorem gh:zm lv:=JO.addL <| fc VO <| fc zcf <| fc VX <| fc Vj gW

abbrev zi0:Nat→zX:=fun _=>{ }
theorem zfh:zA (lv).P 75 Tryz.f75 2:=aJ (by kernel_rfl)
theorem zhG (x0:Sem Sh.expr) (x1:Sem zi.sl):rn lv 0 zi0 Tryz.f75 [zz Sh.expr x0,zz zi.sl x1] []=Tr.chk (kY 16 (zB x0) (ze.mk [] (0,0,[]) [] [])) (Tr.br (sr 16 (zB x0) (ze.mk [] (0,0,[]) [] [])) (Tr.ok (zr.ret (ai 0) [])) (Tr.br (bif (ba (zB x0) x1).2==0 then bif (ba (zB x0) x1).1 != 3 then (ba (zB x0) x1).1 != 0 else false else false) (Tr.ok (zr.ret (ai 5) [])) (Tr.ok (zr.ret (ai (ba (zB x0) x1).2) [])))):=by kernel_rfl
def oF (x0:Sem Sh.expr) (x1:Sem zi.sl):Sem zg:=(if sr 16 x0 (ze.mk [] (0,0,[]) [] [])=true then 0 else if (bif (ba x0 x1).2==0 then bif (ba x0 x1).1 != 3 then (ba x0 x1).1 != 0 else false else false)=true then 5 else (ba x0 x1).2)
def tx (x0:Sem Sh.expr) (_:Sem zi.sl):Bool:=(if kY 16 x0 (ze.mk [] (0,0,[]) [] [])=true then true else false)
def F19:zD:=zC [Sh.expr,zi.sl] [zg] (fun x=>tx x.1 x.2.1) fun x=>(oF x.1 x.2.1,())
theorem Tn:FK 75 F19:=by
 refine zN (zfh) fun x hc C hC=>?_
 unfold tx at hc
 refine zk gh (zfh) (fun id _=>hC id) (zhG x.1 x.2.1) ?_
 generalize hy:oF x.1 x.2.1=y
 unfold oF at hy
 try simp only [ze.eta]
 repeat' (first | with_reducible refine eU hy hc (fun _ hy hc=>?_) (fun _ hy hc=>?_) | with_reducible refine aP hy (fun _ hy=>?_) (fun _ hy=>?_) | with_reducible refine bh hc (fun hc=>?_) | with_reducible refine zq ?_)
 all_goals (subst hy; first | rfl)

abbrev kp5:Nat→zX:=fun j=>if j=3 then { slots:=[1,2,3,4],prom:=[(3,some 3,zg)] } else if j=7 then { slots:=[1,2,3,5],prom:=[(3,some 4,zp)] } else { }
abbrev OM (i4:Int) (ja0:TS) (ja1:LC) (ja2:Sem zg) (ja3:LI) (ja4:LF) (ja5:zn) (ja6:Int) (ja7:Int) (ja8:zn) (ja9:zn) (ja10:LX) (jb0:List UInt8) (jb2:Int) (jb5:List UInt8) (jb6:Int) (jb7:Int) (jb8:List UInt8) (jb9:List UInt8) (jc0:TS) (jc1:LC) (jc2:Sem zg) (jc5:zn) (jc6:Int) (jc7:Int) (jc8:zn) (jc9:zn) (jc10:LX) (lh_3:LI):St:={ tmps:=(tm 70 [(1,AV.ptr 0 0),(2,AV.ptr 1 0),(3,AV.ptr 2 0),(4,ai i4)]),heap:=[AO.box [AV.str ja0,AV.sl zi ja1,ai ja2,AV.sl zg ja3,AV.sl zp ja4,AV.str ja5,ai ja6,ai ja7,AV.str ja8,AV.str ja9,AV.sl Sh.expr ja10],AO.box [AV.str jb0,AV.nils,ai jb2,AV.nils,AV.nils,AV.str jb5,ai jb6,ai jb7,AV.str jb8,AV.str jb9,AV.nils],AO.box [AV.str jc0,AV.sl zi jc1,ai jc2,AV.vec 3,AV.nils,AV.str jc5,ai jc6,ai jc7,AV.str jc8,AV.str jc9,AV.sl Sh.expr jc10],AO.vec zg lh_3] }
theorem ZA:zA (lv).P 63 Tryz.f63 1:=aJ (by kernel_rfl)
theorem go5 (x0:Sem zt):rn lv 0 kp5 Tryz.f63 [zz zt x0] []=Tr.ok (zr.head 3 (zx Tryz.f63 3) (OM 0 x0.1 x0.2.1 x0.2.2.1 x0.2.2.2.1 x0.2.2.2.2.1 (ze.op x0.2.2.2.2.2) (ze.v x0.2.2.2.2.2).1 (ze.v x0.2.2.2.2.2).2.1 (ze.v x0.2.2.2.2.2).2.2 (ze.s x0.2.2.2.2.2) (ze.l x0.2.2.2.2.2) [] 0 [] 0 0 [] [] (ry x0.1) (sb x0.2.1) x0.2.2.1 (ze.op (bg (zB x0.2.2.2.2.2))) (ze.v (bg (zB x0.2.2.2.2.2))).1 (ze.v (bg (zB x0.2.2.2.2.2))).2.1 (ze.v (bg (zB x0.2.2.2.2.2))).2.2 (ze.s (bg (zB x0.2.2.2.2.2))) (ze.l (bg (zB x0.2.2.2.2.2))) [])):=by kernel_rfl
abbrev ON (i5:Int) (ja0:TS) (ja1:LC) (ja2:Sem zg) (ja3:LI) (ja4:LF) (ja5:zn) (ja6:Int) (ja7:Int) (ja8:zn) (ja9:zn) (ja10:LX) (jb0:List UInt8) (jb2:Int) (jb5:List UInt8) (jb6:Int) (jb7:Int) (jb8:List UInt8) (jb9:List UInt8) (jc0:TS) (jc1:LC) (jc2:Sem zg) (jc5:zn) (jc6:Int) (jc7:Int) (jc8:zn) (jc9:zn) (jc10:LX) (lh_3:LI) (lh_4:LF):St:={ tmps:=(tm 70 [(1,AV.ptr 0 0),(2,AV.ptr 1 0),(3,AV.ptr 2 0),(5,ai i5)]),heap:=[AO.box [AV.str ja0,AV.sl zi ja1,ai ja2,AV.sl zg ja3,AV.sl zp ja4,AV.str ja5,ai ja6,ai ja7,AV.str ja8,AV.str ja9,AV.sl Sh.expr ja10],AO.box [AV.str jb0,AV.nils,ai jb2,AV.nils,AV.nils,AV.str jb5,ai jb6,ai jb7,AV.str jb8,AV.str jb9,AV.nils],AO.box [AV.str jc0,AV.sl zi jc1,ai jc2,AV.vec 3,AV.vec 4,AV.str jc5,ai jc6,ai jc7,AV.str jc8,AV.str jc9,AV.sl Sh.expr jc10],AO.vec zg lh_3,AO.vec zp lh_4] }
theorem UH (i4:Int) (ja0:TS) (ja1:LC) (ja2:Sem zg) (ja3:LI) (ja4:LF) (ja5:zn) (ja6:Int) (ja7:Int) (ja8:zn) (ja9:zn) (ja10:LX) (jb0:List UInt8) (jb2:Int) (jb5:List UInt8) (jb6:Int) (jb7:Int) (jb8:List UInt8) (jb9:List UInt8) (jc0:TS) (jc1:LC) (jc2:Sem zg) (jc5:zn) (jc6:Int) (jc7:Int) (jc8:zn) (jc9:zn) (jc10:LX) (lh_3:LI):rh lv 0 kp5 Tryz.f63 3 (OM i4 ja0 ja1 ja2 ja3 ja4 ja5 ja6 ja7 ja8 ja9 ja10 jb0 jb2 jb5 jb6 jb7 jb8 jb9 jc0 jc1 jc2 jc5 jc6 jc7 jc8 jc9 jc10 lh_3)=Tr.br (bif decide (i4 < (↑ja3.length:Int)) then decide (i4 < 10) else false) (Tr.chk (zE i4 ja3.length) (Tr.chk (decide (lh_3.length+[ja3.getD i4.toNat (zj zg)].length≤1073741824)) (Tr.ok (zr.head 3 (zx Tryz.f63 3) (OM (IntKind.i64.wrap (i4+1)) ja0 ja1 ja2 ja3 ja4 ja5 ja6 ja7 ja8 ja9 ja10 jb0 jb2 jb5 jb6 jb7 jb8 jb9 jc0 jc1 jc2 jc5 jc6 jc7 jc8 jc9 jc10 (lh_3++[ja3.getD i4.toNat (zj zg)])))))) (Tr.ok (zr.head 7 (zx Tryz.f63 7) (ON 0 ja0 ja1 ja2 ja3 ja4 ja5 ja6 ja7 ja8 ja9 ja10 jb0 jb2 jb5 jb6 jb7 jb8 jb9 jc0 jc1 jc2 jc5 jc6 jc7 jc8 jc9 jc10 lh_3 []))):=by kernel_rfl
theorem UI (i5:Int) (ja0:TS) (ja1:LC) (ja2:Sem zg) (ja3:LI) (ja4:LF) (ja5:zn) (ja6:Int) (ja7:Int) (ja8:zn) (ja9:zn) (ja10:LX) (jb0:List UInt8) (jb2:Int) (jb5:List UInt8) (jb6:Int) (jb7:Int) (jb8:List UInt8) (jb9:List UInt8) (jc0:TS) (jc1:LC) (jc2:Sem zg) (jc5:zn) (jc6:Int) (jc7:Int) (jc8:zn) (jc9:zn) (jc10:LX) (lh_3:LI) (lh_4:LF):rh lv 0 kp5 Tryz.f63 7 (ON i5 ja0 ja1 ja2 ja3 ja4 ja5 ja6 ja7 ja8 ja9 ja10 jb0 jb2 jb5 jb6 jb7 jb8 jb9 jc0 jc1 jc2 jc5 jc6 jc7 jc8 jc9 jc10 lh_3 lh_4)=Tr.br (bif decide (i5 < (↑ja4.length:Int)) then decide (i5 < 10) else false) (Tr.chk (zE i5 ja4.length) (Tr.chk (zE i5 ja4.length) (Tr.chk (decide (lh_4.length+[((ja4.getD i5.toNat (zj zp)).1,ry (ja4.getD i5.toNat (zj zp)).2)].length≤1073741824)) (Tr.ok (zr.head 7 (zx Tryz.f63 7) (ON (IntKind.i64.wrap (i5+1)) ja0 ja1 ja2 ja3 ja4 ja5 ja6 ja7 ja8 ja9 ja10 jb0 jb2 jb5 jb6 jb7 jb8 jb9 jc0 jc1 jc2 jc5 jc6 jc7 jc8 jc9 jc10 lh_3 (lh_4++[((ja4.getD i5.toNat (zj zp)).1,ry (ja4.getD i5.toNat (zj zp)).2)]))))))) (Tr.ok (zr.ret (AV.agg [AV.str jc0,AV.sl zi jc1,ai jc2,AV.vec 0,AV.vec 1,AV.str jc5,ai jc6,ai jc7,AV.str jc8,AV.str jc9,AV.sl Sh.expr jc10])
 [AO.vec zg lh_3,AO.vec zp lh_4])):=by kernel_rfl
def eF (ja0:TS) (ja1:LC) (ja2:Sem zg) (ja3:LI) (ja5:zn) (ja6:Int) (ja7:Int) (ja8:zn) (ja9:zn) (ja10:LX) (jb0:List UInt8) (jb2:Int) (jb5:List UInt8) (jb6:Int) (jb7:Int) (jb8:List UInt8) (jb9:List UInt8) (jc0:TS) (jc1:LC) (jc2:Sem zg) (jc5:zn) (jc6:Int) (jc7:Int) (jc8:zn) (jc9:zn) (jc10:LX) (lh_3:LI):List (Sem zp)→Int→List (Sem zp)→Sem zt
 | [],_,lh_4=>((jc0,jc1,jc2,lh_3,lh_4,ze.mk jc5 (jc6,jc7,jc8) jc9 jc10))
 | x::r,i5,lh_4=>(if decide (i5 < 10)=true then
 eF ja0 ja1 ja2 ja3 ja5 ja6 ja7 ja8 ja9 ja10 jb0 jb2 jb5 jb6 jb7 jb8 jb9 jc0 jc1 jc2 jc5
  jc6 jc7 jc8 jc9 jc10 lh_3 r (i5+1) (lh_4++[(x.1,ry x.2)])
else (jc0,jc1,jc2,lh_3,lh_4,ze.mk jc5 (jc6,jc7,jc8) jc9 jc10))
def iF (ja0:TS) (ja1:LC) (ja2:Sem zg) (ja3:LI) (ja5:zn) (ja6:Int) (ja7:Int) (ja8:zn) (ja9:zn) (ja10:LX) (jb0:List UInt8) (jb2:Int) (jb5:List UInt8) (jb6:Int) (jb7:Int) (jb8:List UInt8) (jb9:List UInt8) (jc0:TS) (jc1:LC) (jc2:Sem zg) (jc5:zn) (jc6:Int) (jc7:Int) (jc8:zn) (jc9:zn) (jc10:LX) (lh_3:LI):List (Sem zp)→Int→List (Sem zp)→Bool
 | [],_,_=>(true)
 | x::r,i5,lh_4=>(if decide (i5 < 10)=true then
 if decide (lh_4.length+[(x.1,ry x.2)].length≤1073741824)=true then
  iF ja0 ja1 ja2 ja3 ja5 ja6 ja7 ja8 ja9 ja10 jb0 jb2 jb5 jb6 jb7 jb8 jb9 jc0 jc1 jc2 jc5
   jc6 jc7 jc8 jc9 jc10 lh_3 r (i5+1) (lh_4++[(x.1,ry x.2)])
 else false
else true)
theorem zc0 {C:cq} (hC:∀ id,C.ρ0 id=none) (ja0:TS) (ja1:LC) (ja2:Sem zg) (ja3:LI) (ja5:zn) (ja6:Int) (ja7:Int) (ja8:zn) (ja9:zn) (ja10:LX) (jb0:List UInt8) (jb2:Int) (jb5:List UInt8) (jb6:Int) (jb7:Int) (jb8:List UInt8) (jb9:List UInt8) (jc0:TS) (jc1:LC) (jc2:Sem zg) (jc5:zn) (jc6:Int) (jc7:Int) (jc8:zn) (jc9:zn) (jc10:LX) (lh_3:LI) (ja4:LF) (hl:ja4.length≤zF):∀ (m i:Nat) (lh_4:LF),ja4.length - i=m→i≤ja4.length→iF ja0 ja1 ja2 ja3 ja5 ja6 ja7 ja8 ja9 ja10 jb0 jb2 jb5 jb6 jb7 jb8 jb9 jc0 jc1 jc2 jc5 jc6 jc7 jc8 jc9 jc10 lh_3 (ja4.drop i) i lh_4=true→
  Reach (lv) C 63 (zx Tryz.f63 7) (ON (i:Int) ja0 ja1 ja2 ja3 ja4 ja5 ja6 ja7 ja8 ja9 ja10 jb0 jb2 jb5 jb6 jb7 jb8 jb9 jc0 jc1 jc2 jc5 jc6 jc7 jc8 jc9 jc10 lh_3 lh_4) (fun r h=>ae h [zt] r=some (eF ja0 ja1 ja2 ja3 ja5 ja6 ja7 ja8 ja9 ja10 jb0 jb2 jb5 jb6 jb7 jb8 jb9 jc0 jc1 jc2 jc5 jc6 jc7 jc8 jc9 jc10 lh_3 (ja4.drop i) i lh_4,())):=by
 intro m
 induction m with
 | zero=>
  intro i lh_4 hm hi hc
  obtain rfl:i=ja4.length:=by omega
  rw [dg] at hc ⊢
  refine zk gh (ZA) (fun id _=>hC id) (UI _ _ _ _ _ _ _ _ _ _ _ _ _ _ _ _ _ _ _ _ _ _ _ _ _ _ _ _ _ _) ?_
  rw [iF] at hc
  generalize hy:eF ja0 ja1 ja2 ja3 ja5 ja6 ja7 ja8 ja9 ja10 jb0 jb2 jb5 jb6 jb7 jb8 jb9 jc0 jc1 jc2 jc5 jc6 jc7 jc8 jc9 jc10 lh_3 [] _ lh_4=y
  rw [eF] at hy
  simp only [z8,bR,Tr.val_brF]
  repeat' (first | with_reducible refine eU hy hc (fun _ hy hc=>?_) (fun _ hy hc=>?_) | with_reducible refine aP hy (fun _ hy=>?_) (fun _ hy=>?_) | with_reducible refine bh hc (fun hc=>?_) | with_reducible refine zq ?_)
  all_goals (subst hy; first | (change Reach _ _ _ _ _ _; apply Ft hC <;> first | assumption | exact hc) | rfl)
 | succ m IH=>
  intro i lh_4 hm hi hc
  have hlt:i < ja4.length:=by omega
  have IH:=IH (i+1)
  have hcast:((i:Int)+1)=((i+1:Nat):Int):=by omega
  have hwr:=zH i (by omega)
  rw [dA hlt] at hc ⊢
  refine zk gh (ZA) (fun id _=>hC id) (UI _ _ _ _ _ _ _ _ _ _ _ _ _ _ _ _ _ _ _ _ _ _ _ _ _ _ _ _ _ _) ?_
  rw [iF] at hc
  generalize hy:eF ja0 ja1 ja2 ja3 ja5 ja6 ja7 ja8 ja9 ja10 jb0 jb2 jb5 jb6 jb7 jb8 jb9 jc0 jc1 jc2 jc5 jc6 jc7 jc8 jc9 jc10 lh_3 (ja4[i]::ja4.drop (i+1)) (i:Int) lh_4=y
  rw [eF] at hy
  simp only [zW hlt,zG hlt,zY ja4 _ hlt,hwr,bO]
  clear hwr
  simp only [hcast] at hy
  try simp only [hcast] at hc
  repeat' (first | with_reducible refine eU hy hc (fun _ hy hc=>?_) (fun _ hy hc=>?_) | with_reducible refine aP hy (fun _ hy=>?_) (fun _ hy=>?_) | with_reducible refine bh hc (fun hc=>?_) | with_reducible refine zq ?_)
  all_goals (subst hy; first | (change Reach _ _ _ _ _ _; apply IH <;> first | omega | assumption) | (change Reach _ _ _ _ _ _; apply Ft hC <;> first | assumption | exact hc) | rfl)
theorem Fu {C:cq} (hC:∀ id,C.ρ0 id=none) (ja0:TS) (ja1:LC) (ja2:Sem zg) (ja3:LI) (ja5:zn) (ja6:Int) (ja7:Int) (ja8:zn) (ja9:zn) (ja10:LX) (jb0:List UInt8) (jb2:Int) (jb5:List UInt8) (jb6:Int) (jb7:Int) (jb8:List UInt8) (jb9:List UInt8) (jc0:TS) (jc1:LC) (jc2:Sem zg) (jc5:zn) (jc6:Int) (jc7:Int) (jc8:zn) (jc9:zn) (jc10:LX) (lh_3:LI) (ja4:LF) (lh_4:LF) (hc:iF ja0 ja1 ja2 ja3 ja5 ja6 ja7 ja8 ja9 ja10 jb0 jb2 jb5 jb6 jb7 jb8 jb9 jc0 jc1 jc2 jc5 jc6 jc7 jc8 jc9 jc10 lh_3 ja4 0 lh_4=true):
  Reach (lv) C 63 (zx Tryz.f63 7) (ON 0 ja0 ja1 ja2 ja3 ja4 ja5 ja6 ja7 ja8 ja9 ja10 jb0 jb2 jb5 jb6 jb7 jb8 jb9 jc0 jc1 jc2 jc5 jc6 jc7 jc8 jc9 jc10 lh_3 lh_4) (fun r h=>ae h [zt] r=some (eF ja0 ja1 ja2 ja3 ja5 ja6 ja7 ja8 ja9 ja10 jb0 jb2 jb5 jb6 jb7 jb8 jb9 jc0 jc1 jc2 jc5 jc6 jc7 jc8 jc9 jc10 lh_3 ja4 0 lh_4,())):=
 Reach.lenB 0 4 (zg.pr Sh.str) ja4 rfl rfl fun hl=>zc0 hC ja0 ja1 ja2 ja3 ja5 ja6 ja7 ja8 ja9 ja10 jb0 jb2 jb5 jb6 jb7 jb8 jb9 jc0 jc1 jc2 jc5 jc6 jc7 jc8 jc9 jc10 lh_3 ja4 hl _ 0 lh_4 rfl (aD _) hc
def dV (ja0:TS) (ja1:LC) (ja2:Sem zg) (ja4:LF) (ja5:zn) (ja6:Int) (ja7:Int) (ja8:zn) (ja9:zn) (ja10:LX) (jb0:List UInt8) (jb2:Int) (jb5:List UInt8) (jb6:Int) (jb7:Int) (jb8:List UInt8) (jb9:List UInt8) (jc0:TS) (jc1:LC) (jc2:Sem zg) (jc5:zn) (jc6:Int) (jc7:Int) (jc8:zn) (jc9:zn) (jc10:LX) (ja3:LI):List (Sem zg)→Int→List (Sem zg)→Sem zt
 | [],_,lh_3=>(eF ja0 ja1 ja2 ja3 ja5 ja6 ja7 ja8 ja9 ja10 jb0 jb2 jb5 jb6 jb7 jb8 jb9 jc0 jc1 jc2 jc5
 jc6 jc7 jc8 jc9 jc10 lh_3 ja4 0 [])
 | x::r,i4,lh_3=>(if decide (i4 < 10)=true then
 dV ja0 ja1 ja2 ja4 ja5 ja6 ja7 ja8 ja9 ja10 jb0 jb2 jb5 jb6 jb7 jb8 jb9 jc0 jc1 jc2 jc5
  jc6 jc7 jc8 jc9 jc10 ja3 r (i4+1) (lh_3++[x])
else
 eF ja0 ja1 ja2 ja3 ja5 ja6 ja7 ja8 ja9 ja10 jb0 jb2 jb5 jb6 jb7 jb8 jb9 jc0 jc1 jc2 jc5
  jc6 jc7 jc8 jc9 jc10 lh_3 ja4 0 [])
def iE (ja0:TS) (ja1:LC) (ja2:Sem zg) (ja4:LF) (ja5:zn) (ja6:Int) (ja7:Int) (ja8:zn) (ja9:zn) (ja10:LX) (jb0:List UInt8) (jb2:Int) (jb5:List UInt8) (jb6:Int) (jb7:Int) (jb8:List UInt8) (jb9:List UInt8) (jc0:TS) (jc1:LC) (jc2:Sem zg) (jc5:zn) (jc6:Int) (jc7:Int) (jc8:zn) (jc9:zn) (jc10:LX) (ja3:LI):List (Sem zg)→Int→List (Sem zg)→Bool
 | [],_,lh_3=>(iF ja0 ja1 ja2 ja3 ja5 ja6 ja7 ja8 ja9 ja10 jb0 jb2 jb5 jb6 jb7 jb8 jb9 jc0 jc1 jc2 jc5
 jc6 jc7 jc8 jc9 jc10 lh_3 ja4 0 [])
 | x::r,i4,lh_3=>(if decide (i4 < 10)=true then
 if decide (lh_3.length+[x].length≤1073741824)=true then
  iE ja0 ja1 ja2 ja4 ja5 ja6 ja7 ja8 ja9 ja10 jb0 jb2 jb5 jb6 jb7 jb8 jb9 jc0 jc1 jc2 jc5
   jc6 jc7 jc8 jc9 jc10 ja3 r (i4+1) (lh_3++[x])
 else false
else
 iF ja0 ja1 ja2 ja3 ja5 ja6 ja7 ja8 ja9 ja10 jb0 jb2 jb5 jb6 jb7 jb8 jb9 jc0 jc1 jc2 jc5
  jc6 jc7 jc8 jc9 jc10 lh_3 ja4 0 [])
theorem zcZ {C:cq} (hC:∀ id,C.ρ0 id=none) (ja0:TS) (ja1:LC) (ja2:Sem zg) (ja4:LF) (ja5:zn) (ja6:Int) (ja7:Int) (ja8:zn) (ja9:zn) (ja10:LX) (jb0:List UInt8) (jb2:Int) (jb5:List UInt8) (jb6:Int) (jb7:Int) (jb8:List UInt8) (jb9:List UInt8) (jc0:TS) (jc1:LC) (jc2:Sem zg) (jc5:zn) (jc6:Int) (jc7:Int) (jc8:zn) (jc9:zn) (jc10:LX) (ja3:LI) (hl:ja3.length≤zF):∀ (m i:Nat) (lh_3:LI),ja3.length - i=m→i≤ja3.length→iE ja0 ja1 ja2 ja4 ja5 ja6 ja7 ja8 ja9 ja10 jb0 jb2 jb5 jb6 jb7 jb8 jb9 jc0 jc1 jc2 jc5 jc6 jc7 jc8 jc9 jc10 ja3 (ja3.drop i) i lh_3=true→
  Reach (lv) C 63 (zx Tryz.f63 3) (OM (i:Int) ja0 ja1 ja2 ja3 ja4 ja5 ja6 ja7 ja8 ja9 ja10 jb0 jb2 jb5 jb6 jb7 jb8 jb9 jc0 jc1 jc2 jc5 jc6 jc7 jc8 jc9 jc10 lh_3) (fun r h=>ae h [zt] r=some (dV ja0 ja1 ja2 ja4 ja5 ja6 ja7 ja8 ja9 ja10 jb0 jb2 jb5 jb6 jb7 jb8 jb9 jc0 jc1 jc2 jc5 jc6 jc7 jc8 jc9 jc10 ja3 (ja3.drop i) i lh_3,())):=by
 intro m
 induction m with
 | zero=>
  intro i lh_3 hm hi hc
  obtain rfl:i=ja3.length:=by omega
  rw [dg] at hc ⊢
  refine zk gh (ZA) (fun id _=>hC id) (UH _ _ _ _ _ _ _ _ _ _ _ _ _ _ _ _ _ _ _ _ _ _ _ _ _ _ _ _ _) ?_
  rw [iE] at hc
  generalize hy:dV ja0 ja1 ja2 ja4 ja5 ja6 ja7 ja8 ja9 ja10 jb0 jb2 jb5 jb6 jb7 jb8 jb9 jc0 jc1 jc2 jc5 jc6 jc7 jc8 jc9 jc10 ja3 [] _ lh_3=y
  rw [dV] at hy
  simp only [z8,bR,Tr.val_brF]
  repeat' (first | with_reducible refine eU hy hc (fun _ hy hc=>?_) (fun _ hy hc=>?_) | with_reducible refine aP hy (fun _ hy=>?_) (fun _ hy=>?_) | with_reducible refine bh hc (fun hc=>?_) | with_reducible refine zq ?_)
  all_goals (subst hy; first | (change Reach _ _ _ _ _ _; apply Fu hC <;> first | assumption | exact hc) | rfl)
 | succ m IH=>
  intro i lh_3 hm hi hc
  have hlt:i < ja3.length:=by omega
  have IH:=IH (i+1)
  have hcast:((i:Int)+1)=((i+1:Nat):Int):=by omega
  have hwr:=zH i (by omega)
  rw [dA hlt] at hc ⊢
  refine zk gh (ZA) (fun id _=>hC id) (UH _ _ _ _ _ _ _ _ _ _ _ _ _ _ _ _ _ _ _ _ _ _ _ _ _ _ _ _ _) ?_
  rw [iE] at hc
  generalize hy:dV ja0 ja1 ja2 ja4 ja5 ja6 ja7 ja8 ja9 ja10 jb0 jb2 jb5 jb6 jb7 jb8 jb9 jc0 jc1 jc2 jc5 jc6 jc7 jc8 jc9 jc10 ja3 (ja3[i]::ja3.drop (i+1)) (i:Int) lh_3=y
  rw [dV] at hy
  simp only [zW hlt,zG hlt,zY ja3 _ hlt,hwr,bO]
  clear hwr
  simp only [hcast] at hy
  try simp only [hcast] at hc
  repeat' (first | with_reducible refine eU hy hc (fun _ hy hc=>?_) (fun _ hy hc=>?_) | with_reducible refine aP hy (fun _ hy=>?_) (fun _ hy=>?_) | with_reducible refine bh hc (fun hc=>?_) | with_reducible refine zq ?_)
  all_goals (subst hy; first | (change Reach _ _ _ _ _ _; apply IH <;> first | omega | assumption) | (change Reach _ _ _ _ _ _; apply Fu hC <;> first | assumption | exact hc) | rfl)
theorem Ft {C:cq} (hC:∀ id,C.ρ0 id=none) (ja0:TS) (ja1:LC) (ja2:Sem zg) (ja4:LF) (ja5:zn) (ja6:Int) (ja7:Int) (ja8:zn) (ja9:zn) (ja10:LX) (jb0:List UInt8) (jb2:Int) (jb5:List UInt8) (jb6:Int) (jb7:Int) (jb8:List UInt8) (jb9:List UInt8) (jc0:TS) (jc1:LC) (jc2:Sem zg) (jc5:zn) (jc6:Int) (jc7:Int) (jc8:zn) (jc9:zn) (jc10:LX) (ja3:LI) (lh_3:LI) (hc:iE ja0 ja1 ja2 ja4 ja5 ja6 ja7 ja8 ja9 ja10 jb0 jb2 jb5 jb6 jb7 jb8 jb9 jc0 jc1 jc2 jc5 jc6 jc7 jc8 jc9 jc10 ja3 ja3 0 lh_3=true):
  Reach (lv) C 63 (zx Tryz.f63 3) (OM 0 ja0 ja1 ja2 ja3 ja4 ja5 ja6 ja7 ja8 ja9 ja10 jb0 jb2 jb5 jb6 jb7 jb8 jb9 jc0 jc1 jc2 jc5 jc6 jc7 jc8 jc9 jc10 lh_3) (fun r h=>ae h [zt] r=some (dV ja0 ja1 ja2 ja4 ja5 ja6 ja7 ja8 ja9 ja10 jb0 jb2 jb5 jb6 jb7 jb8 jb9 jc0 jc1 jc2 jc5 jc6 jc7 jc8 jc9 jc10 ja3 ja3 0 lh_3,())):=
 Reach.lenB 0 3 (Sh.int IntKind.i64) ja3 rfl rfl fun hl=>zcZ hC ja0 ja1 ja2 ja4 ja5 ja6 ja7 ja8 ja9 ja10 jb0 jb2 jb5 jb6 jb7 jb8 jb9 jc0 jc1 jc2 jc5 jc6 jc7 jc8 jc9 jc10 ja3 hl _ 0 lh_3 rfl (aD _) hc
def iD (x0:Sem zt):Sem zt:=(dV x0.1 x0.2.1 x0.2.2.1 x0.2.2.2.2.1 (ze.op x0.2.2.2.2.2) (ze.v x0.2.2.2.2.2).1 (ze.v x0.2.2.2.2.2).2.1 (ze.v x0.2.2.2.2.2).2.2 (ze.s x0.2.2.2.2.2) (ze.l x0.2.2.2.2.2) [] 0 [] 0 0 [] [] (ry x0.1) (sb x0.2.1) x0.2.2.1 (ze.op (bg x0.2.2.2.2.2)) (ze.v (bg x0.2.2.2.2.2)).1 (ze.v (bg x0.2.2.2.2.2)).2.1 (ze.v (bg x0.2.2.2.2.2)).2.2 (ze.s (bg x0.2.2.2.2.2)) (ze.l (bg x0.2.2.2.2.2)) x0.2.2.2.1 x0.2.2.2.1 0 [])
def Je (x0:Sem zt):Bool:=(iE x0.1 x0.2.1 x0.2.2.1 x0.2.2.2.2.1 (ze.op x0.2.2.2.2.2) (ze.v x0.2.2.2.2.2).1 (ze.v x0.2.2.2.2.2).2.1 (ze.v x0.2.2.2.2.2).2.2 (ze.s x0.2.2.2.2.2) (ze.l x0.2.2.2.2.2) [] 0 [] 0 0 [] [] (ry x0.1) (sb x0.2.1) x0.2.2.1 (ze.op (bg x0.2.2.2.2.2)) (ze.v (bg x0.2.2.2.2.2)).1 (ze.v (bg x0.2.2.2.2.2)).2.1 (ze.v (bg x0.2.2.2.2.2)).2.2 (ze.s (bg x0.2.2.2.2.2)) (ze.l (bg x0.2.2.2.2.2)) x0.2.2.2.1 x0.2.2.2.1 0 [])
def F5:zD:=zC [zt] [zt] (fun x=>Je x.1) fun x=>(iD x.1,())
theorem zbP:FK 63 F5:=by
 refine zN (ZA) fun x hc C hC=>?_
 unfold Je at hc
 refine zk gh (ZA) (fun id _=>hC id) (go5 x.1) ?_
 generalize hy:iD x.1=y
 unfold iD at hy
 try simp only [ze.eta]
 repeat' (first | with_reducible refine eU hy hc (fun _ hy hc=>?_) (fun _ hy hc=>?_) | with_reducible refine aP hy (fun _ hy=>?_) (fun _ hy=>?_) | with_reducible refine bh hc (fun hc=>?_) | with_reducible refine zq ?_)
 all_goals (subst hy; first | (change Reach _ _ _ _ _ _; apply Ft hC <;> first | assumption | exact hc) | (change Reach _ _ _ _ _ _; apply Fu hC <;> first | assumption | exact hc) | rfl)

noncomputable def TI:=lv.addL [(75,F19),(63,F5)]
theorem JP:zm TI:=gh.addL <| fc Tn <| fc zbP gW

theorem Cy (e:ze) (cols:List (Sem zi)):tx e cols=true:=by
 unfold tx
 rw [if_pos (G3 15 e)]
theorem lc {a0 a1 a2 a3 a4 a5 a6 a7 a8 a9 b0 b1 b2 b3 b4 b5 b6 d0 d1 d2 d3 d4 d5 d6 d7 d8 d9}:∀ (l:List (Sem zp)) (i:Int) (acc:List (Sem zp)),(acc.length:Int)≤i→iF a0 a1 a2 a3 a4 a5 a6 a7 a8 a9 b0 b1 b2 b3 b4 b5 b6 d0 d1 d2 d3 d4 d5 d6 d7 d8 d9 l i acc=true
 | [],_,_,_=>rfl
 | x::r,i,acc,h=>by
  rw [iF]
  split
  ·rename_i hi
   simp only [zZ] at hi
   rw [if_pos (by simp; omega)]
   exact lc r (i+1) _ (by simp; omega)
  ·rfl
theorem p7 {a0 a1 a2 a3 a4 a5 a6 a7 a8 a9 b0 b1 b2 b3 b4 b5 b6 d0 d1 d2 d3 d4 d5 d6 d7 d8 d9}:∀ (l:List (Sem zg)) (i:Int) (acc:List (Sem zg)),(acc.length:Int)≤i→iE a0 a1 a2 a3 a4 a5 a6 a7 a8 a9 b0 b1 b2 b3 b4 b5 b6 d0 d1 d2 d3 d4 d5 d6 d7 d8 d9 l i acc=true
 | [],_,_,_=>by rw [iE]; exact lc _ _ _ (by simp)
 | x::r,i,acc,h=>by
  rw [iE]
  split
  ·rename_i hi
   simp only [zZ] at hi
   rw [if_pos (by simp; omega)]
   exact p7 r (i+1) _ (by simp; omega)
  ·exact lc _ _ _ (by simp)
theorem Hb (t:Sem zt):Je t=true:=by
 unfold Je
 exact p7 _ _ _ (by simp)
def zak:zD:=af [Sh.expr,zi.sl] [zg] fun x=>(oF x.1 x.2.1,())
theorem VI:FK 75 zak:=eH Tn fun x=>Cy x.1 x.2.1
def F5t:zD:=af [zt] [zt] fun x=>(iD x.1,())
theorem zbZ:FK 63 F5t:=eH zbP fun x=>Hb x.1

noncomputable def j7:=TI.addL [(75,zak),(63,F5t)]
theorem ft:zm j7:=JP.addL <| fc VI <| fc zbZ gW

abbrev kp8:Nat→zX:=fun j=>if j=4 then { slots:=[1,27,28,29] } else if j=11 then { slots:=[1,5,59,60,61] } else if j=17 then { slots:=[1,5,71,72,73] } else { }
abbrev OP (l27:LC) (i28:Int) (i29:Int) (ja0:TS) (ja1:LC) (ja2:Sem zg) (ja3:LI) (ja4:LF) (ja5:zn) (ja6:Int) (ja7:Int) (ja8:zn) (ja9:zn) (ja10:LX):St:={ tmps:=(tm 110 [(1,AV.ptr 0 0),(27,AV.sl zi l27),(28,ai i28),(29,ai i29)]),heap:=[AO.box [AV.str ja0,AV.sl zi ja1,ai ja2,AV.sl zg ja3,AV.sl zp ja4,AV.str ja5,ai ja6,ai ja7,AV.str ja8,AV.str ja9,AV.sl Sh.expr ja10]] }
theorem UG:zA (j7).P 55 Tryz.f55 1:=aJ (by kernel_rfl)
theorem go8 (x0:Sem zt):rn j7 0 kp8 Tryz.f55 [zz zt x0] []=Tr.br (bif !dp x0.1 then true else bif decide ((↑(length x0.2.1):Int) < 1) then true else decide ((↑(length x0.2.1):Int) > 8)) (Tr.ok (zr.ret (AV.kb false) [])) (Tr.ok (zr.head 4 (zx Tryz.f55 4) (OP x0.2.1 (↑(length x0.2.1):Int) 0 x0.1 x0.2.1 x0.2.2.1 x0.2.2.2.1 x0.2.2.2.2.1 (ze.op x0.2.2.2.2.2) (ze.v x0.2.2.2.2.2).1 (ze.v x0.2.2.2.2.2).2.1 (ze.v x0.2.2.2.2.2).2.2 (ze.s x0.2.2.2.2.2) (ze.l x0.2.2.2.2.2)))):=by kernel_rfl
abbrev EV (l59:LI) (i60:Int) (i61:Int) (ja0:TS) (ja1:LC) (ja2:Sem zg) (ja3:LI) (ja4:LF) (ja5:zn) (ja6:Int) (ja7:Int) (ja8:zn) (ja9:zn) (ja10:LX):St:={ tmps:=(tm 110 [(1,AV.ptr 0 0),(5,AV.clo (Fn.func 93) [] [AV.ptr 0 0]),(59,AV.sl zg l59),(60,ai i60),(61,ai i61)]),heap:=[AO.box [AV.str ja0,AV.sl zi ja1,ai ja2,AV.sl zg ja3,AV.sl zp ja4,AV.str ja5,ai ja6,ai ja7,AV.str ja8,AV.str ja9,AV.sl Sh.expr ja10]] }
theorem UK (l27:LC) (i28:Int) (i29:Int) (ja0:TS) (ja1:LC) (ja2:Sem zg) (ja3:LI) (ja4:LF) (ja5:zn) (ja6:Int) (ja7:Int) (ja8:zn) (ja9:zn) (ja10:LX):rh j7 0 kp8 Tryz.f55 4 (OP l27 i28 i29 ja0 ja1 ja2 ja3 ja4 ja5 ja6 ja7 ja8 ja9 ja10)=Tr.br (decide (i29 < i28)) (Tr.chk (zE i29 l27.length) (Tr.br (bif !dp (l27.getD i29.toNat (zj zi)).1 then true else bif decide ((l27.getD i29.toNat (zj zi)).2.1 < 1) then true else bif decide ((l27.getD i29.toNat (zj zi)).2.1 > 3) then true else ib (ja0,ja1,ja2,ja3,ja4,ze.mk ja5 (ja6,ja7,ja8) ja9 ja10) (l27.getD i29.toNat (zj zi)).1 != i29) (Tr.ok (zr.ret (AV.kb false) [])) (Tr.ok (zr.head 4 (zx Tryz.f55 4) (OP l27 i28 (IntKind.i64.wrap (i29+1)) ja0 ja1 ja2 ja3 ja4 ja5 ja6 ja7 ja8 ja9 ja10))))) (Tr.ok (zr.head 11 (zx Tryz.f55 11) (EV ja3 (↑ja3.length:Int) 0 ja0 ja1 ja2 ja3 ja4 ja5 ja6 ja7 ja8 ja9 ja10))):=by kernel_rfl
abbrev EW (l71:LF) (i72:Int) (i73:Int) (ja0:TS) (ja1:LC) (ja2:Sem zg) (ja3:LI) (ja4:LF) (ja5:zn) (ja6:Int) (ja7:Int) (ja8:zn) (ja9:zn) (ja10:LX):St:={ tmps:=(tm 110 [(1,AV.ptr 0 0),(5,AV.clo (Fn.func 93) [] [AV.ptr 0 0]),(71,AV.sl zp l71),(72,ai i72),(73,ai i73)]),heap:=[AO.box [AV.str ja0,AV.sl zi ja1,ai ja2,AV.sl zg ja3,AV.sl zp ja4,AV.str ja5,ai ja6,ai ja7,AV.str ja8,AV.str ja9,AV.sl Sh.expr ja10]] }
theorem N0 (l59:LI) (i60:Int) (i61:Int) (ja0:TS) (ja1:LC) (ja2:Sem zg) (ja3:LI) (ja4:LF) (ja5:zn) (ja6:Int) (ja7:Int) (ja8:zn) (ja9:zn) (ja10:LX):rh j7 0 kp8 Tryz.f55 11 (EV l59 i60 i61 ja0 ja1 ja2 ja3 ja4 ja5 ja6 ja7 ja8 ja9 ja10)=Tr.br (decide (i61 < i60)) (Tr.chk (zE i61 l59.length) (Tr.br (!bif decide (l59.getD i61.toNat (zj zg) ≥ 0) then decide (l59.getD i61.toNat (zj zg) < (↑ja1.length:Int)) else false) (Tr.ok (zr.ret (AV.kb false) [])) (Tr.ok (zr.head 11 (zx Tryz.f55 11) (EV l59 i60 (IntKind.i64.wrap (i61+1)) ja0 ja1 ja2 ja3 ja4 ja5 ja6 ja7 ja8 ja9 ja10))))) (Tr.ok (zr.head 17 (zx Tryz.f55 17) (EW ja4 (↑ja4.length:Int) 0 ja0 ja1 ja2 ja3 ja4 ja5 ja6 ja7 ja8 ja9 ja10))):=by kernel_rfl
theorem N1 (l71:LF) (i72:Int) (i73:Int) (ja0:TS) (ja1:LC) (ja2:Sem zg) (ja3:LI) (ja4:LF) (ja5:zn) (ja6:Int) (ja7:Int) (ja8:zn) (ja9:zn) (ja10:LX):rh j7 0 kp8 Tryz.f55 17 (EW l71 i72 i73 ja0 ja1 ja2 ja3 ja4 ja5 ja6 ja7 ja8 ja9 ja10)=Tr.br (decide (i73 < i72)) (Tr.chk (zE i73 l71.length) (Tr.br (!bif decide ((l71.getD i73.toNat (zj zp)).1 ≥ 0) then decide ((l71.getD i73.toNat (zj zp)).1 < (↑ja1.length:Int)) else false) (Tr.ok (zr.ret (AV.kb false) [])) (Tr.br (!dp (l71.getD i73.toNat (zj zp)).2) (Tr.ok (zr.ret (AV.kb false) [])) (Tr.ok (zr.head 17 (zx Tryz.f55 17) (EW l71 i72 (IntKind.i64.wrap (i73+1)) ja0 ja1 ja2 ja3 ja4 ja5 ja6 ja7 ja8 ja9 ja10)))))) (Tr.br (bif decide (ja2 ≥ 0) then decide (ja2 < (↑ja1.length:Int)) else false) (Tr.chk (zE ja2 ja1.length) (Tr.br (ja1.getD (toNat ja2) (zj zi)).2.2 (Tr.ok (zr.ret (AV.bool (oF (ze.mk ja5 (ja6,ja7,ja8) ja9 ja10) ja1==0)) [])) (Tr.ok (zr.ret (AV.kb false) [])))) (Tr.ok (zr.ret (AV.kb false) []))):=by kernel_rfl
def ef (ja0:TS) (ja1:LC) (ja2:Sem zg) (ja3:LI) (ja4:LF) (ja5:zn) (ja6:Int) (ja7:Int) (ja8:zn) (ja9:zn) (ja10:LX):List (Sem zp)→Int→Sem Sh.bool
 | [],_=>(if (bif decide (ja2 ≥ 0) then decide (ja2 < (↑ja1.length:Int)) else false)=true then
 if (ja1.getD (toNat ja2) (zj zi)).2.2=true then
  oF (ze.mk ja5 (ja6,ja7,ja8) ja9 ja10) ja1==0
 else false
else false)
 | x::r,i73=>(if (!bif decide (x.1 ≥ 0) then decide (x.1 < (↑ja1.length:Int)) else false)=true then false
else if (!dp x.2)=true then false else ef ja0 ja1 ja2 ja3 ja4 ja5 ja6 ja7 ja8 ja9 ja10 r (i73+1))
def fT (ja0:TS) (ja1:LC) (ja2:Sem zg) (ja3:LI) (ja4:LF) (ja5:zn) (ja6:Int) (ja7:Int) (ja8:zn) (ja9:zn) (ja10:LX):List (Sem zp)→Int→Bool
 | [],_=>(if (bif decide (ja2 ≥ 0) then decide (ja2 < (↑ja1.length:Int)) else false)=true then if zE ja2 ja1.length=true then true else false
else true)
 | x::r,i73=>(if (!bif decide (x.1 ≥ 0) then decide (x.1 < (↑ja1.length:Int)) else false)=true then true
else if (!dp x.2)=true then true else fT ja0 ja1 ja2 ja3 ja4 ja5 ja6 ja7 ja8 ja9 ja10 r (i73+1))
theorem W6 {C:cq} (hC:∀ id,C.ρ0 id=none) (ja0:TS) (ja1:LC) (ja2:Sem zg) (ja3:LI) (ja4:LF) (ja5:zn) (ja6:Int) (ja7:Int) (ja8:zn) (ja9:zn) (ja10:LX) (l71:LF) (hl:l71.length≤zF):∀ (m i:Nat),l71.length - i=m→i≤l71.length→fT ja0 ja1 ja2 ja3 ja4 ja5 ja6 ja7 ja8 ja9 ja10 (l71.drop i) i=true→
  Reach (j7) C 55 (zx Tryz.f55 17) (EW l71 (l71.length:Int) (i:Int) ja0 ja1 ja2 ja3 ja4 ja5 ja6 ja7 ja8 ja9 ja10) (fun r h=>ae h [Sh.bool] r=some (ef ja0 ja1 ja2 ja3 ja4 ja5 ja6 ja7 ja8 ja9 ja10 (l71.drop i) i,())):=by
 intro m
 induction m with
 | zero=>
  intro i hm hi hc
  obtain rfl:i=l71.length:=by omega
  rw [dg] at hc ⊢
  refine zk ft (UG) (fun id _=>hC id) (N1 _ _ _ _ _ _ _ _ _ _ _ _ _ _) ?_
  rw [fT] at hc
  generalize hy:ef ja0 ja1 ja2 ja3 ja4 ja5 ja6 ja7 ja8 ja9 ja10 [] _=y
  rw [ef] at hy
  simp only [z8,Tr.val_brF]
  repeat' (first | with_reducible refine eU hy hc (fun _ hy hc=>?_) (fun _ hy hc=>?_) | with_reducible refine aP hy (fun _ hy=>?_) (fun _ hy=>?_) | with_reducible refine bh hc (fun hc=>?_) | with_reducible refine zq ?_)
  all_goals (subst hy; first | (change Reach _ _ _ _ _ _; apply uj hC <;> first | assumption | exact hc) | (change Reach _ _ _ _ _ _; apply oX hC <;> first | assumption | exact hc) | rfl)
 | succ m IH=>
  intro i hm hi hc
  have hlt:i < l71.length:=by omega
  have IH:=IH (i+1)
  have hcast:((i:Int)+1)=((i+1:Nat):Int):=by omega
  have hwr:=zH i (by omega)
  rw [dA hlt] at hc ⊢
  refine zk ft (UG) (fun id _=>hC id) (N1 _ _ _ _ _ _ _ _ _ _ _ _ _ _) ?_
  rw [fT] at hc
  generalize hy:ef ja0 ja1 ja2 ja3 ja4 ja5 ja6 ja7 ja8 ja9 ja10 (l71[i]::l71.drop (i+1)) (i:Int)=y
  rw [ef] at hy
  simp only [zW hlt,zG hlt,zY l71 _ hlt,hwr,Tr.val_brT,Tr.val_chkT]
  clear hwr
  simp only [hcast] at hy
  try simp only [hcast] at hc
  repeat' (first | with_reducible refine eU hy hc (fun _ hy hc=>?_) (fun _ hy hc=>?_) | with_reducible refine aP hy (fun _ hy=>?_) (fun _ hy=>?_) | with_reducible refine bh hc (fun hc=>?_) | with_reducible refine zq ?_)
  all_goals (subst hy; first | (change Reach _ _ _ _ _ _; apply IH <;> first | omega | assumption) | (change Reach _ _ _ _ _ _; apply uj hC <;> first | assumption | exact hc) | (change Reach _ _ _ _ _ _; apply oX hC <;> first | assumption | exact hc) | rfl)
theorem oY {C:cq} (hC:∀ id,C.ρ0 id=none) (ja0:TS) (ja1:LC) (ja2:Sem zg) (ja3:LI) (ja4:LF) (ja5:zn) (ja6:Int) (ja7:Int) (ja8:zn) (ja9:zn) (ja10:LX) (l71:LF) (hc:fT ja0 ja1 ja2 ja3 ja4 ja5 ja6 ja7 ja8 ja9 ja10 l71 0=true):
  Reach (j7) C 55 (zx Tryz.f55 17) (EW l71 (l71.length:Int) 0 ja0 ja1 ja2 ja3 ja4 ja5 ja6 ja7 ja8 ja9 ja10) (fun r h=>ae h [Sh.bool] r=some (ef ja0 ja1 ja2 ja3 ja4 ja5 ja6 ja7 ja8 ja9 ja10 l71 0,())):=
 Reach.len 71 (zg.pr Sh.str) l71 rfl fun hl=>W6 hC ja0 ja1 ja2 ja3 ja4 ja5 ja6 ja7 ja8 ja9 ja10 l71 hl _ 0 rfl (aD _) hc
def ee (ja0:TS) (ja1:LC) (ja2:Sem zg) (ja3:LI) (ja4:LF) (ja5:zn) (ja6:Int) (ja7:Int) (ja8:zn) (ja9:zn) (ja10:LX):List (Sem zg)→Int→Sem Sh.bool
 | [],_=>(ef ja0 ja1 ja2 ja3 ja4 ja5 ja6 ja7 ja8 ja9 ja10 ja4 0)
 | x::r,i61=>(if (!bif decide (x ≥ 0) then decide (x < (↑ja1.length:Int)) else false)=true then false
else ee ja0 ja1 ja2 ja3 ja4 ja5 ja6 ja7 ja8 ja9 ja10 r (i61+1))
def fS (ja0:TS) (ja1:LC) (ja2:Sem zg) (ja3:LI) (ja4:LF) (ja5:zn) (ja6:Int) (ja7:Int) (ja8:zn) (ja9:zn) (ja10:LX):List (Sem zg)→Int→Bool
 | [],_=>(fT ja0 ja1 ja2 ja3 ja4 ja5 ja6 ja7 ja8 ja9 ja10 ja4 0)
 | x::r,i61=>(if (!bif decide (x ≥ 0) then decide (x < (↑ja1.length:Int)) else false)=true then true
else fS ja0 ja1 ja2 ja3 ja4 ja5 ja6 ja7 ja8 ja9 ja10 r (i61+1))
theorem W5 {C:cq} (hC:∀ id,C.ρ0 id=none) (ja0:TS) (ja1:LC) (ja2:Sem zg) (ja3:LI) (ja4:LF) (ja5:zn) (ja6:Int) (ja7:Int) (ja8:zn) (ja9:zn) (ja10:LX) (l59:LI) (hl:l59.length≤zF):∀ (m i:Nat),l59.length - i=m→i≤l59.length→fS ja0 ja1 ja2 ja3 ja4 ja5 ja6 ja7 ja8 ja9 ja10 (l59.drop i) i=true→
  Reach (j7) C 55 (zx Tryz.f55 11) (EV l59 (l59.length:Int) (i:Int) ja0 ja1 ja2 ja3 ja4 ja5 ja6 ja7 ja8 ja9 ja10) (fun r h=>ae h [Sh.bool] r=some (ee ja0 ja1 ja2 ja3 ja4 ja5 ja6 ja7 ja8 ja9 ja10 (l59.drop i) i,())):=by
 intro m
 induction m with
 | zero=>
  intro i hm hi hc
  obtain rfl:i=l59.length:=by omega
  rw [dg] at hc ⊢
  refine zk ft (UG) (fun id _=>hC id) (N0 _ _ _ _ _ _ _ _ _ _ _ _ _ _) ?_
  rw [fS] at hc
  generalize hy:ee ja0 ja1 ja2 ja3 ja4 ja5 ja6 ja7 ja8 ja9 ja10 [] _=y
  rw [ee] at hy
  simp only [z8,Tr.val_brF]
  repeat' (first | with_reducible refine eU hy hc (fun _ hy hc=>?_) (fun _ hy hc=>?_) | with_reducible refine aP hy (fun _ hy=>?_) (fun _ hy=>?_) | with_reducible refine bh hc (fun hc=>?_) | with_reducible refine zq ?_)
  all_goals (subst hy; first | (change Reach _ _ _ _ _ _; apply uj hC <;> first | assumption | exact hc) | (change Reach _ _ _ _ _ _; apply oY hC <;> first | assumption | exact hc) | rfl)
 | succ m IH=>
  intro i hm hi hc
  have hlt:i < l59.length:=by omega
  have IH:=IH (i+1)
  have hcast:((i:Int)+1)=((i+1:Nat):Int):=by omega
  have hwr:=zH i (by omega)
  rw [dA hlt] at hc ⊢
  refine zk ft (UG) (fun id _=>hC id) (N0 _ _ _ _ _ _ _ _ _ _ _ _ _ _) ?_
  rw [fS] at hc
  generalize hy:ee ja0 ja1 ja2 ja3 ja4 ja5 ja6 ja7 ja8 ja9 ja10 (l59[i]::l59.drop (i+1)) (i:Int)=y
  rw [ee] at hy
  simp only [zW hlt,zG hlt,zY l59 _ hlt,hwr,Tr.val_brT,Tr.val_chkT]
  clear hwr
  simp only [hcast] at hy
  try simp only [hcast] at hc
  repeat' (first | with_reducible refine eU hy hc (fun _ hy hc=>?_) (fun _ hy hc=>?_) | with_reducible refine aP hy (fun _ hy=>?_) (fun _ hy=>?_) | with_reducible refine bh hc (fun hc=>?_) | with_reducible refine zq ?_)
  all_goals (subst hy; first | (change Reach _ _ _ _ _ _; apply IH <;> first | omega | assumption) | (change Reach _ _ _ _ _ _; apply uj hC <;> first | assumption | exact hc) | (change Reach _ _ _ _ _ _; apply oY hC <;> first | assumption | exact hc) | rfl)
theorem oX {C:cq} (hC:∀ id,C.ρ0 id=none) (ja0:TS) (ja1:LC) (ja2:Sem zg) (ja3:LI) (ja4:LF) (ja5:zn) (ja6:Int) (ja7:Int) (ja8:zn) (ja9:zn) (ja10:LX) (l59:LI) (hc:fS ja0 ja1 ja2 ja3 ja4 ja5 ja6 ja7 ja8 ja9 ja10 l59 0=true):
  Reach (j7) C 55 (zx Tryz.f55 11) (EV l59 (l59.length:Int) 0 ja0 ja1 ja2 ja3 ja4 ja5 ja6 ja7 ja8 ja9 ja10) (fun r h=>ae h [Sh.bool] r=some (ee ja0 ja1 ja2 ja3 ja4 ja5 ja6 ja7 ja8 ja9 ja10 l59 0,())):=
 Reach.len 59 (Sh.int IntKind.i64) l59 rfl fun hl=>W5 hC ja0 ja1 ja2 ja3 ja4 ja5 ja6 ja7 ja8 ja9 ja10 l59 hl _ 0 rfl (aD _) hc
def fU (ja0:TS) (ja1:LC) (ja2:Sem zg) (ja3:LI) (ja4:LF) (ja5:zn) (ja6:Int) (ja7:Int) (ja8:zn) (ja9:zn) (ja10:LX):List (Sem zi)→Int→Sem Sh.bool
 | [],_=>(ee ja0 ja1 ja2 ja3 ja4 ja5 ja6 ja7 ja8 ja9 ja10 ja3 0)
 | x :: r,i29=>(if
  (bif !dp x.1 then true
   else
    bif decide (x.2.1 < 1) then true
    else
     bif decide (x.2.1 > 3) then true
     else ib (ja0,ja1,ja2,ja3,ja4,ze.mk ja5 (ja6,ja7,ja8) ja9 ja10) x.1 != i29)=
   true then
 false
else fU ja0 ja1 ja2 ja3 ja4 ja5 ja6 ja7 ja8 ja9 ja10 r (i29+1))
def iG (ja0:TS) (ja1:LC) (ja2:Sem zg) (ja3:LI) (ja4:LF) (ja5:zn) (ja6:Int) (ja7:Int) (ja8:zn) (ja9:zn) (ja10:LX):List (Sem zi)→Int→Bool
 | [],_=>(fS ja0 ja1 ja2 ja3 ja4 ja5 ja6 ja7 ja8 ja9 ja10 ja3 0)
 | x :: r,i29=>(if
  (bif !dp x.1 then true
   else
    bif decide (x.2.1 < 1) then true
    else
     bif decide (x.2.1 > 3) then true
     else ib (ja0,ja1,ja2,ja3,ja4,ze.mk ja5 (ja6,ja7,ja8) ja9 ja10) x.1 != i29)=
   true then
 true
else iG ja0 ja1 ja2 ja3 ja4 ja5 ja6 ja7 ja8 ja9 ja10 r (i29+1))
theorem zc2 {C:cq} (hC:∀ id,C.ρ0 id=none) (ja0:TS) (ja1:LC) (ja2:Sem zg) (ja3:LI) (ja4:LF) (ja5:zn) (ja6:Int) (ja7:Int) (ja8:zn) (ja9:zn) (ja10:LX) (l27:LC) (hl:l27.length≤zF):∀ (m i:Nat),l27.length - i=m→i≤l27.length→iG ja0 ja1 ja2 ja3 ja4 ja5 ja6 ja7 ja8 ja9 ja10 (l27.drop i) i=true→
  Reach (j7) C 55 (zx Tryz.f55 4) (OP l27 (l27.length:Int) (i:Int) ja0 ja1 ja2 ja3 ja4 ja5 ja6 ja7 ja8 ja9 ja10) (fun r h=>ae h [Sh.bool] r=some (fU ja0 ja1 ja2 ja3 ja4 ja5 ja6 ja7 ja8 ja9 ja10 (l27.drop i) i,())):=by
 intro m
 induction m with
 | zero=>
  intro i hm hi hc
  obtain rfl:i=l27.length:=by omega
  rw [dg] at hc ⊢
  refine zk ft (UG) (fun id _=>hC id) (UK _ _ _ _ _ _ _ _ _ _ _ _ _ _) ?_
  rw [iG] at hc
  generalize hy:fU ja0 ja1 ja2 ja3 ja4 ja5 ja6 ja7 ja8 ja9 ja10 [] _=y
  rw [fU] at hy
  simp only [z8,Tr.val_brF]
  repeat' (first | with_reducible refine eU hy hc (fun _ hy hc=>?_) (fun _ hy hc=>?_) | with_reducible refine aP hy (fun _ hy=>?_) (fun _ hy=>?_) | with_reducible refine bh hc (fun hc=>?_) | with_reducible refine zq ?_)
  all_goals (subst hy; first | (change Reach _ _ _ _ _ _; apply oX hC <;> first | assumption | exact hc) | (change Reach _ _ _ _ _ _; apply oY hC <;> first | assumption | exact hc) | rfl)
 | succ m IH=>
  intro i hm hi hc
  have hlt:i < l27.length:=by omega
  have IH:=IH (i+1)
  have hcast:((i:Int)+1)=((i+1:Nat):Int):=by omega
  have hwr:=zH i (by omega)
  rw [dA hlt] at hc ⊢
  refine zk ft (UG) (fun id _=>hC id) (UK _ _ _ _ _ _ _ _ _ _ _ _ _ _) ?_
  rw [iG] at hc
  generalize hy:fU ja0 ja1 ja2 ja3 ja4 ja5 ja6 ja7 ja8 ja9 ja10 (l27[i]::l27.drop (i+1)) (i:Int)=y
  rw [fU] at hy
  simp only [zW hlt,zG hlt,zY l27 _ hlt,hwr,Tr.val_brT,Tr.val_chkT]
  clear hwr
  simp only [hcast] at hy
  try simp only [hcast] at hc
  repeat' (first | with_reducible refine eU hy hc (fun _ hy hc=>?_) (fun _ hy hc=>?_) | with_reducible refine aP hy (fun _ hy=>?_) (fun _ hy=>?_) | with_reducible refine bh hc (fun hc=>?_) | with_reducible refine zq ?_)
  all_goals (subst hy; first | (change Reach _ _ _ _ _ _; apply IH <;> first | omega | assumption) | (change Reach _ _ _ _ _ _; apply oX hC <;> first | assumption | exact hc) | (change Reach _ _ _ _ _ _; apply oY hC <;> first | assumption | exact hc) | rfl)
theorem uj {C:cq} (hC:∀ id,C.ρ0 id=none) (ja0:TS) (ja1:LC) (ja2:Sem zg) (ja3:LI) (ja4:LF) (ja5:zn) (ja6:Int) (ja7:Int) (ja8:zn) (ja9:zn) (ja10:LX) (l27:LC) (hc:iG ja0 ja1 ja2 ja3 ja4 ja5 ja6 ja7 ja8 ja9 ja10 l27 0=true):
  Reach (j7) C 55 (zx Tryz.f55 4) (OP l27 (l27.length:Int) 0 ja0 ja1 ja2 ja3 ja4 ja5 ja6 ja7 ja8 ja9 ja10) (fun r h=>ae h [Sh.bool] r=some (fU ja0 ja1 ja2 ja3 ja4 ja5 ja6 ja7 ja8 ja9 ja10 l27 0,())):=
 Reach.len 27 (zi) l27 rfl fun hl=>zc2 hC ja0 ja1 ja2 ja3 ja4 ja5 ja6 ja7 ja8 ja9 ja10 l27 hl _ 0 rfl (aD _) hc
def gS (x0:Sem zt):Sem Sh.bool:=(if (bif !dp x0.1 then true else bif decide ((↑(length x0.2.1):Int) < 1) then true else decide ((↑(length x0.2.1):Int) > 8))=true then false else fU x0.1 x0.2.1 x0.2.2.1 x0.2.2.2.1 x0.2.2.2.2.1 (ze.op x0.2.2.2.2.2) (ze.v x0.2.2.2.2.2).1 (ze.v x0.2.2.2.2.2).2.1 (ze.v x0.2.2.2.2.2).2.2 (ze.s x0.2.2.2.2.2) (ze.l x0.2.2.2.2.2) x0.2.1 0)
def Jf (x0:Sem zt):Bool:=(if (bif !dp x0.1 then true else bif decide ((↑(length x0.2.1):Int) < 1) then true else decide ((↑(length x0.2.1):Int) > 8))=true then true else iG x0.1 x0.2.1 x0.2.2.1 x0.2.2.2.1 x0.2.2.2.2.1 (ze.op x0.2.2.2.2.2) (ze.v x0.2.2.2.2.2).1 (ze.v x0.2.2.2.2.2).2.1 (ze.v x0.2.2.2.2.2).2.2 (ze.s x0.2.2.2.2.2) (ze.l x0.2.2.2.2.2) x0.2.1 0)
def F8:zD:=zC [zt] [Sh.bool] (fun x=>Jf x.1) fun x=>(gS x.1,())
theorem zcg:FK 55 F8:=by
 refine zN (UG) fun x hc C hC=>?_
 unfold Jf at hc
 refine zk ft (UG) (fun id _=>hC id) (go8 x.1) ?_
 generalize hy:gS x.1=y
 unfold gS at hy
 try simp only [ze.eta]
 repeat' (first | with_reducible refine eU hy hc (fun _ hy hc=>?_) (fun _ hy hc=>?_) | with_reducible refine aP hy (fun _ hy=>?_) (fun _ hy=>?_) | with_reducible refine bh hc (fun hc=>?_) | with_reducible refine zq ?_)
 all_goals (subst hy; first | (change Reach _ _ _ _ _ _; apply uj hC <;> first | assumption | exact hc) | (change Reach _ _ _ _ _ _; apply oX hC <;> first | assumption | exact hc) | (change Reach _ _ _ _ _ _; apply oY hC <;> first | assumption | exact hc) | rfl)

noncomputable def TJ:=j7.add 55 F8
theorem JQ:zm TJ:=ft.add zcg

theorem nV {a0 a1 a2 a3 a4 a5 a6 a7 a8 a9 b0}:∀ (l:List (Sem zp)) (i:Int),fT a0 a1 a2 a3 a4 a5 a6 a7 a8 a9 b0 l i=true
 | [],i=>by
  rw [fT]
  split
  ·rename_i h
   rw [if_pos]
   cases h1:decide (a2 ≥ 0) <;> simp_all [zE]
  ·rfl
 | x::r,i=>by
  rw [fT]
  repeat' split
  all_goals first | rfl | exact nV r (i+1)
theorem nU {a0 a1 a2 a3 a4 a5 a6 a7 a8 a9 b0}:∀ (l:List (Sem zg)) (i:Int),fS a0 a1 a2 a3 a4 a5 a6 a7 a8 a9 b0 l i=true
 | [],i=>by rw [fS]; exact nV _ _
 | x::r,i=>by
  rw [fS]
  repeat' split
  all_goals first | rfl | exact nU r (i+1)
theorem p9 {a0 a1 a2 a3 a4 a5 a6 a7 a8 a9 b0}:∀ (l:List (Sem zi)) (i:Int),iG a0 a1 a2 a3 a4 a5 a6 a7 a8 a9 b0 l i=true
 | [],i=>by rw [iG]; exact nU _ _
 | x::r,i=>by
  rw [iG]
  split
  ·rfl
  ·exact p9 r (i+1)
theorem Hd (t:Sem zt):Jf t=true:=by
 unfold Jf
 split
 ·rfl
 ·exact p9 _ _
def F8t:zD:=af [zt] [Sh.bool] fun x=>(gS x.1,())
theorem zcr:FK 55 F8t:=eH zcg fun x=>Hd x.1

noncomputable def nG:=TJ.add 55 F8t
theorem iM:zm nG:=JQ.add zcr

abbrev X6:Nat→zX:=fun j=>if j=4 then { slots:=[1,2,19,20,21] } else if j=10 then { slots:=[1,2,30,31] } else { }
abbrev ET (l1:LV) (l19:LV) (i20:Int) (i21:Int) (ja0:TS) (ja1:LC) (ja2:Sem zg) (ja3:LI) (ja4:LF) (ja5:zn) (ja6:Int) (ja7:Int) (ja8:zn) (ja9:zn) (ja10:LX):St:={ tmps:=(tm 79 [(1,AV.sl zf l1),(2,AV.ptr 0 0),(19,AV.sl zf l19),(20,ai i20),(21,ai i21)]),heap:=[AO.box [AV.str ja0,AV.sl zi ja1,ai ja2,AV.sl zg ja3,AV.sl zp ja4,AV.str ja5,ai ja6,ai ja7,AV.str ja8,AV.str ja9,AV.sl Sh.expr ja10]] }
theorem J9:zA (nG).P 56 Tryz.f56 2:=aJ (by kernel_rfl)
theorem zhz (x0:Sem zt) (x1:Sem zf.sl):rn nG 0 X6 Tryz.f56 [zz zt x0,zz zf.sl x1] []=Tr.br (bif !gS (x0.1,x0.2.1,x0.2.2.1,x0.2.2.2.1,x0.2.2.2.2.1,zB x0.2.2.2.2.2) then true else (↑(length x1):Int) != (↑(length x0.2.1):Int)) (Tr.ok (zr.ret (ai 1) [])) (Tr.ok (zr.head 4 (zx Tryz.f56 4) (ET x1 x1 (↑(length x1):Int) 0 x0.1 x0.2.1 x0.2.2.1 x0.2.2.2.1 x0.2.2.2.2.1 (ze.op x0.2.2.2.2.2) (ze.v x0.2.2.2.2.2).1 (ze.v x0.2.2.2.2.2).2.1 (ze.v x0.2.2.2.2.2).2.2 (ze.s x0.2.2.2.2.2) (ze.l x0.2.2.2.2.2)))):=by kernel_rfl
abbrev w5 (l1:LV) (i30:Int) (i31:Int) (ja0:TS) (ja1:LC) (ja2:Sem zg) (ja3:LI) (ja4:LF) (ja5:zn) (ja6:Int) (ja7:Int) (ja8:zn) (ja9:zn) (ja10:LX):St:={ tmps:=(tm 79 [(1,AV.sl zf l1),(2,AV.ptr 0 0),(30,ai i30),(31,ai i31)]),heap:=[AO.box [AV.str ja0,AV.sl zi ja1,ai ja2,AV.sl zg ja3,AV.sl zp ja4,AV.str ja5,ai ja6,ai ja7,AV.str ja8,AV.str ja9,AV.sl Sh.expr ja10]] }
theorem NV (l1:LV) (l19:LV) (i20:Int) (i21:Int) (ja0:TS) (ja1:LC) (ja2:Sem zg) (ja3:LI) (ja4:LF) (ja5:zn) (ja6:Int) (ja7:Int) (ja8:zn) (ja9:zn) (ja10:LX):rh nG 0 X6 Tryz.f56 4 (ET l1 l19 i20 i21 ja0 ja1 ja2 ja3 ja4 ja5 ja6 ja7 ja8 ja9 ja10)=Tr.br (decide (i21 < i20)) (Tr.chk (zE i21 l19.length) (Tr.br (!fC (l19.getD i21.toNat (zj zf))) (Tr.ok (zr.ret (ai 1) [])) (Tr.ok (zr.head 4 (zx Tryz.f56 4) (ET l1 l19 i20 (IntKind.i64.wrap (i21+1)) ja0 ja1 ja2 ja3 ja4 ja5 ja6 ja7 ja8 ja9 ja10))))) (Tr.ok (zr.head 10 (zx Tryz.f56 10) (w5 l1 (↑l1.length:Int) 0 ja0 ja1 ja2 ja3 ja4 ja5 ja6 ja7 ja8 ja9 ja10))):=by kernel_rfl
theorem Im (l1:LV) (i30:Int) (i31:Int) (ja0:TS) (ja1:LC) (ja2:Sem zg) (ja3:LI) (ja4:LF) (ja5:zn) (ja6:Int) (ja7:Int) (ja8:zn) (ja9:zn) (ja10:LX):rh nG 0 X6 Tryz.f56 10 (w5 l1 i30 i31 ja0 ja1 ja2 ja3 ja4 ja5 ja6 ja7 ja8 ja9 ja10)=Tr.br (decide (i31 < i30)) (Tr.chk (zE i31 l1.length&&bif (l1.getD i31.toNat (zj zf)).1==0 then zE i31 ja1.length else true) (Tr.br (bif (l1.getD i31.toNat (zj zf)).1==0 then (ja1.getD i31.toNat (zj zi)).2.2 else false) (Tr.ok (zr.ret (ai 8) [])) (Tr.chk (zE i31 l1.length&&bif (l1.getD i31.toNat (zj zf)).1 != 0 then zE i31 l1.length&&zE i31 ja1.length else true) (Tr.br (bif (l1.getD i31.toNat (zj zf)).1 != 0 then (l1.getD i31.toNat (zj zf)).1 != (ja1.getD i31.toNat (zj zi)).2.1 else false) (Tr.ok (zr.ret (ai 5) [])) (Tr.ok (zr.head 10 (zx Tryz.f56 10) (w5 l1 i30 (IntKind.i64.wrap (i31+1)) ja0 ja1 ja2 ja3 ja4 ja5 ja6 ja7 ja8 ja9 ja10))))))) (Tr.br ((f5 (ze.mk ja5 (ja6,ja7,ja8) ja9 ja10) ja1 l1).1==3&&((f5 (ze.mk ja5 (ja6,ja7,ja8) ja9 ja10) ja1 l1).2.1==0&&((f5 (ze.mk ja5 (ja6,ja7,ja8) ja9 ja10) ja1 l1).2.2==[]&&true))) (Tr.ok (zr.ret (ai 9) [])) (Tr.ok (zr.ret (ai 0) []))):=by kernel_rfl
def gR (ja0:TS) (ja1:LC) (ja2:Sem zg) (ja3:LI) (ja4:LF) (ja5:zn) (ja6:Int) (ja7:Int) (ja8:zn) (ja9:zn) (ja10:LX) (l1:LV):List (Sem zf)→Int→Sem zg
 | [],_=>(if
  ((f5 (ze.mk ja5 (ja6,ja7,ja8) ja9 ja10) ja1 l1).1==3&&
    ((f5 (ze.mk ja5 (ja6,ja7,ja8) ja9 ja10) ja1 l1).2.1==0&&
     ((f5 (ze.mk ja5 (ja6,ja7,ja8) ja9 ja10) ja1 l1).2.2==[]&&true)))=
   true then
 9
else 0)
 | x::r,i31=>(if (bif x.1==0 then (ja1.getD i31.toNat (zj zi)).2.2 else false)=true then 8
else
 if (bif x.1 != 0 then x.1 != (ja1.getD i31.toNat (zj zi)).2.1 else false)=true then 5
 else gR ja0 ja1 ja2 ja3 ja4 ja5 ja6 ja7 ja8 ja9 ja10 l1 r (i31+1))
def fy (ja0:TS) (ja1:LC) (ja2:Sem zg) (ja3:LI) (ja4:LF) (ja5:zn) (ja6:Int) (ja7:Int) (ja8:zn) (ja9:zn) (ja10:LX) (l1:LV):List (Sem zf)→Int→Bool
 | [],_=>(true)
 | x::r,i31=>(if (zE i31 l1.length&&bif x.1==0 then zE i31 ja1.length else true)=true then
 if (bif x.1==0 then (ja1.getD i31.toNat (zj zi)).2.2 else false)=true then true
 else
  if (zE i31 l1.length&&bif x.1 != 0 then zE i31 l1.length&&zE i31 ja1.length else true)=true then
   if (bif x.1 != 0 then x.1 != (ja1.getD i31.toNat (zj zi)).2.1 else false)=true then true
   else fy ja0 ja1 ja2 ja3 ja4 ja5 ja6 ja7 ja8 ja9 ja10 l1 r (i31+1)
  else false
else false)
theorem Qv {C:cq} (hC:∀ id,C.ρ0 id=none) (ja0:TS) (ja1:LC) (ja2:Sem zg) (ja3:LI) (ja4:LF) (ja5:zn) (ja6:Int) (ja7:Int) (ja8:zn) (ja9:zn) (ja10:LX) (l1:LV) (hl:l1.length≤zF):∀ (m i:Nat),l1.length - i=m→i≤l1.length→fy ja0 ja1 ja2 ja3 ja4 ja5 ja6 ja7 ja8 ja9 ja10 l1 (l1.drop i) i=true→
  Reach (nG) C 56 (zx Tryz.f56 10) (w5 l1 (l1.length:Int) (i:Int) ja0 ja1 ja2 ja3 ja4 ja5 ja6 ja7 ja8 ja9 ja10) (fun r h=>ae h [zg] r=some (gR ja0 ja1 ja2 ja3 ja4 ja5 ja6 ja7 ja8 ja9 ja10 l1 (l1.drop i) i,())):=by
 intro m
 induction m with
 | zero=>
  intro i hm hi hc
  obtain rfl:i=l1.length:=by omega
  rw [dg] at hc ⊢
  refine zk iM (J9) (fun id _=>hC id) (Im _ _ _ _ _ _ _ _ _ _ _ _ _ _) ?_
  rw [fy] at hc
  generalize hy:gR ja0 ja1 ja2 ja3 ja4 ja5 ja6 ja7 ja8 ja9 ja10 l1 [] _=y
  rw [gR] at hy
  simp only [z8,Tr.val_brF]
  repeat' (first | with_reducible refine eU hy hc (fun _ hy hc=>?_) (fun _ hy hc=>?_) | with_reducible refine aP hy (fun _ hy=>?_) (fun _ hy=>?_) | with_reducible refine bh hc (fun hc=>?_) | with_reducible refine zq ?_)
  all_goals (subst hy; first | (change Reach _ _ _ _ _ _; apply A8 hC <;> first | assumption | exact hc) | rfl)
 | succ m IH=>
  intro i hm hi hc
  have hlt:i < l1.length:=by omega
  have IH:=IH (i+1)
  have hcast:((i:Int)+1)=((i+1:Nat):Int):=by omega
  have hwr:=zH i (by omega)
  rw [dA hlt] at hc ⊢
  refine zk iM (J9) (fun id _=>hC id) (Im _ _ _ _ _ _ _ _ _ _ _ _ _ _) ?_
  rw [fy] at hc
  generalize hy:gR ja0 ja1 ja2 ja3 ja4 ja5 ja6 ja7 ja8 ja9 ja10 l1 (l1[i]::l1.drop (i+1)) (i:Int)=y
  rw [gR] at hy
  simp only [zW hlt,zG hlt,zY l1 _ hlt,hwr,Tr.val_brT]
  clear hwr
  try simp only [zG hlt] at hy
  simp only [hcast] at hy
  try simp only [zG hlt] at hc
  try simp only [hcast] at hc
  repeat' (first | with_reducible refine eU hy hc (fun _ hy hc=>?_) (fun _ hy hc=>?_) | with_reducible refine aP hy (fun _ hy=>?_) (fun _ hy=>?_) | with_reducible refine bh hc (fun hc=>?_) | with_reducible refine zq ?_)
  all_goals (subst hy; first | (change Reach _ _ _ _ _ _; apply IH <;> first | omega | assumption) | (change Reach _ _ _ _ _ _; apply A8 hC <;> first | assumption | exact hc) | rfl)
theorem ui {C:cq} (hC:∀ id,C.ρ0 id=none) (ja0:TS) (ja1:LC) (ja2:Sem zg) (ja3:LI) (ja4:LF) (ja5:zn) (ja6:Int) (ja7:Int) (ja8:zn) (ja9:zn) (ja10:LX) (l1:LV) (hc:fy ja0 ja1 ja2 ja3 ja4 ja5 ja6 ja7 ja8 ja9 ja10 l1 l1 0=true):
  Reach (nG) C 56 (zx Tryz.f56 10) (w5 l1 (l1.length:Int) 0 ja0 ja1 ja2 ja3 ja4 ja5 ja6 ja7 ja8 ja9 ja10) (fun r h=>ae h [zg] r=some (gR ja0 ja1 ja2 ja3 ja4 ja5 ja6 ja7 ja8 ja9 ja10 l1 l1 0,())):=
 Reach.len 1 (zf) l1 rfl fun hl=>Qv hC ja0 ja1 ja2 ja3 ja4 ja5 ja6 ja7 ja8 ja9 ja10 l1 hl _ 0 rfl (aD _) hc
def jE (l1:LV) (ja0:TS) (ja1:LC) (ja2:Sem zg) (ja3:LI) (ja4:LF) (ja5:zn) (ja6:Int) (ja7:Int) (ja8:zn) (ja9:zn) (ja10:LX):List (Sem zf)→Int→Sem zg
 | [],_=>(gR ja0 ja1 ja2 ja3 ja4 ja5 ja6 ja7 ja8 ja9 ja10 l1 l1 0)
 | x::r,i21=>(if (!fC x)=true then 1 else jE l1 ja0 ja1 ja2 ja3 ja4 ja5 ja6 ja7 ja8 ja9 ja10 r (i21+1))
def fR (l1:LV) (ja0:TS) (ja1:LC) (ja2:Sem zg) (ja3:LI) (ja4:LF) (ja5:zn) (ja6:Int) (ja7:Int) (ja8:zn) (ja9:zn) (ja10:LX):List (Sem zf)→Int→Bool
 | [],_=>(fy ja0 ja1 ja2 ja3 ja4 ja5 ja6 ja7 ja8 ja9 ja10 l1 l1 0)
 | x::r,i21=>(if (!fC x)=true then true else fR l1 ja0 ja1 ja2 ja3 ja4 ja5 ja6 ja7 ja8 ja9 ja10 r (i21+1))
theorem W1 {C:cq} (hC:∀ id,C.ρ0 id=none) (l1:LV) (ja0:TS) (ja1:LC) (ja2:Sem zg) (ja3:LI) (ja4:LF) (ja5:zn) (ja6:Int) (ja7:Int) (ja8:zn) (ja9:zn) (ja10:LX) (l19:LV) (hl:l19.length≤zF):∀ (m i:Nat),l19.length - i=m→i≤l19.length→fR l1 ja0 ja1 ja2 ja3 ja4 ja5 ja6 ja7 ja8 ja9 ja10 (l19.drop i) i=true→
  Reach (nG) C 56 (zx Tryz.f56 4) (ET l1 l19 (l19.length:Int) (i:Int) ja0 ja1 ja2 ja3 ja4 ja5 ja6 ja7 ja8 ja9 ja10) (fun r h=>ae h [zg] r=some (jE l1 ja0 ja1 ja2 ja3 ja4 ja5 ja6 ja7 ja8 ja9 ja10 (l19.drop i) i,())):=by
 intro m
 induction m with
 | zero=>
  intro i hm hi hc
  obtain rfl:i=l19.length:=by omega
  rw [dg] at hc ⊢
  refine zk iM (J9) (fun id _=>hC id) (NV _ _ _ _ _ _ _ _ _ _ _ _ _ _ _) ?_
  rw [fR] at hc
  generalize hy:jE l1 ja0 ja1 ja2 ja3 ja4 ja5 ja6 ja7 ja8 ja9 ja10 [] _=y
  rw [jE] at hy
  simp only [z8,Tr.val_brF]
  repeat' (first | with_reducible refine eU hy hc (fun _ hy hc=>?_) (fun _ hy hc=>?_) | with_reducible refine aP hy (fun _ hy=>?_) (fun _ hy=>?_) | with_reducible refine bh hc (fun hc=>?_) | with_reducible refine zq ?_)
  all_goals (subst hy; first | (change Reach _ _ _ _ _ _; apply ui hC <;> first | assumption | exact hc) | rfl)
 | succ m IH=>
  intro i hm hi hc
  have hlt:i < l19.length:=by omega
  have IH:=IH (i+1)
  have hcast:((i:Int)+1)=((i+1:Nat):Int):=by omega
  have hwr:=zH i (by omega)
  rw [dA hlt] at hc ⊢
  refine zk iM (J9) (fun id _=>hC id) (NV _ _ _ _ _ _ _ _ _ _ _ _ _ _ _) ?_
  rw [fR] at hc
  generalize hy:jE l1 ja0 ja1 ja2 ja3 ja4 ja5 ja6 ja7 ja8 ja9 ja10 (l19[i]::l19.drop (i+1)) (i:Int)=y
  rw [jE] at hy
  simp only [zW hlt,zG hlt,zY l19 _ hlt,hwr,Tr.val_brT,Tr.val_chkT]
  clear hwr
  try simp only [zG hlt] at hy
  simp only [hcast] at hy
  try simp only [zG hlt] at hc
  try simp only [hcast] at hc
  repeat' (first | with_reducible refine eU hy hc (fun _ hy hc=>?_) (fun _ hy hc=>?_) | with_reducible refine aP hy (fun _ hy=>?_) (fun _ hy=>?_) | with_reducible refine bh hc (fun hc=>?_) | with_reducible refine zq ?_)
  all_goals (subst hy; first | (change Reach _ _ _ _ _ _; apply IH <;> first | omega | assumption) | (change Reach _ _ _ _ _ _; apply ui hC <;> first | assumption | exact hc) | rfl)
theorem A8 {C:cq} (hC:∀ id,C.ρ0 id=none) (l1:LV) (ja0:TS) (ja1:LC) (ja2:Sem zg) (ja3:LI) (ja4:LF) (ja5:zn) (ja6:Int) (ja7:Int) (ja8:zn) (ja9:zn) (ja10:LX) (l19:LV) (hc:fR l1 ja0 ja1 ja2 ja3 ja4 ja5 ja6 ja7 ja8 ja9 ja10 l19 0=true):
  Reach (nG) C 56 (zx Tryz.f56 4) (ET l1 l19 (l19.length:Int) 0 ja0 ja1 ja2 ja3 ja4 ja5 ja6 ja7 ja8 ja9 ja10) (fun r h=>ae h [zg] r=some (jE l1 ja0 ja1 ja2 ja3 ja4 ja5 ja6 ja7 ja8 ja9 ja10 l19 0,())):=
 Reach.len 19 (zf) l19 rfl fun hl=>W1 hC l1 ja0 ja1 ja2 ja3 ja4 ja5 ja6 ja7 ja8 ja9 ja10 l19 hl _ 0 rfl (aD _) hc
def jD (x0:Sem zt) (x1:Sem zf.sl):Sem zg:=(if (bif !gS x0 then true else (↑(length x1):Int) != (↑(length x0.2.1):Int))=true then 1 else jE x1 x0.1 x0.2.1 x0.2.2.1 x0.2.2.2.1 x0.2.2.2.2.1 (ze.op x0.2.2.2.2.2) (ze.v x0.2.2.2.2.2).1 (ze.v x0.2.2.2.2.2).2.1 (ze.v x0.2.2.2.2.2).2.2 (ze.s x0.2.2.2.2.2) (ze.l x0.2.2.2.2.2) x1 0)
def CN (x0:Sem zt) (x1:Sem zf.sl):Bool:=(if (bif !gS x0 then true else (↑(length x1):Int) != (↑(length x0.2.1):Int))=true then true else fR x1 x0.1 x0.2.1 x0.2.2.1 x0.2.2.2.1 x0.2.2.2.2.1 (ze.op x0.2.2.2.2.2) (ze.v x0.2.2.2.2.2).1 (ze.v x0.2.2.2.2.2).2.1 (ze.v x0.2.2.2.2.2).2.2 (ze.s x0.2.2.2.2.2) (ze.l x0.2.2.2.2.2) x1 0)
def F10:zD:=zC [zt,zf.sl] [zg] (fun x=>CN x.1 x.2.1) fun x=>(jD x.1 x.2.1,())
theorem Ti:FK 56 F10:=by
 refine zN (J9) fun x hc C hC=>?_
 unfold CN at hc
 refine zk iM (J9) (fun id _=>hC id) (zhz x.1 x.2.1) ?_
 generalize hy:jD x.1 x.2.1=y
 unfold jD at hy
 try simp only [ze.eta]
 repeat' (first | with_reducible refine eU hy hc (fun _ hy hc=>?_) (fun _ hy hc=>?_) | with_reducible refine aP hy (fun _ hy=>?_) (fun _ hy=>?_) | with_reducible refine bh hc (fun hc=>?_) | with_reducible refine zq ?_)
 all_goals (subst hy; first | (change Reach _ _ _ _ _ _; apply A8 hC <;> first | assumption | exact hc) | (change Reach _ _ _ _ _ _; apply ui hC <;> first | assumption | exact hc) | rfl)

noncomputable def TK:=nG.add 56 F10
theorem JR:zm TK:=iM.add Ti

theorem my {a0 a2 a3 a4 a5 a6 a7 a8 a9 b0} {cols:List (Sem zi)} {row:List (Sem zf)} (hl:row.length=cols.length):∀ (l:List (Sem zf)) (i:Nat),i+l.length=row.length→fy a0 cols a2 a3 a4 a5 a6 a7 a8 a9 b0 row l i=true
 | [],i,_=>rfl
 | x::r,i,h=>by
  have h1:i < row.length:=by simp at h; omega
  have h2:i < cols.length:=by omega
  have ih:=my (a0:=a0) (a2:=a2) (a3:=a3) (a4:=a4) (a5:=a5) (a6:=a6) (a7:=a7) (a8:=a8) (a9:=a9) (b0:=b0) hl r (i+1) (by simp at h; omega)
  rw [fy]
  simp only [zG h1,zG h2]
  rw [if_pos (by cases x.1==0 <;> rfl)]
  split
  ·rfl
  ·rw [if_pos (by cases x.1 != 0 <;> rfl)]
   split
   ·rfl
   ·exact ih
theorem nT {a0 a2 a3 a4 a5 a6 a7 a8 a9 b0} {cols:List (Sem zi)} {row:List (Sem zf)} (hl:row.length=cols.length):∀ (l:List (Sem zf)) (i:Int),fR row a0 cols a2 a3 a4 a5 a6 a7 a8 a9 b0 l i=true
 | [],i=>by rw [fR]; exact my hl row 0 (by simp)
 | x::r,i=>by
  rw [fR]
  split
  ·rfl
  ·exact nT hl r (i+1)
theorem Fc (t:Sem zt) (row:List (Sem zf)):CN t row=true:=by
 unfold CN
 split
 ·rfl
 ·rename_i h
  refine nT ?_ _ _
  cases hm:gS t
  ·rw [hm] at h; simp at h
  ·rw [hm] at h
   simp at h
   omega
def ZO:zD:=af [zt,zf.sl] [zg] fun x=>(jD x.1 x.2.1,())
theorem Vc:FK 56 ZO:=eH Ti fun x=>Fc x.1 x.2.1

noncomputable def uY:=TK.add 56 ZO
theorem JS:zm uY:=JR.add Vc

open Go.RowKit Go.Lib in
theorem Wr:FK 236 (zC [.str,.str] [.bool] (fun x=>x.2.1.length==1) fun x=>(decide (0≤Lib.indexByte x.1 (x.2.1.headD 0)),())):=by
 refine fq (E:=uY) ⟨Tryz.f236,by kernel_rfl,by kernel_rfl,by kernel_rfl⟩ fun x h0 res hx=>?_
 unfold gC at hx
 split at hx
 ·simp only [Tr.val] at hx
  split at hx
  ·rename_i hc
   simp only [ag] at hx
   subst hx
   obtain ⟨s,sub,u⟩:=x
   have hc:(sub.length==1)=true:=hc
   match sub,hc with
   | [c],_=>
    intro C w U ρ vals _ hr hH hnew hr0 hW
    have hl:=hr.len
    match vals,hl,hr with
    | [v1,v2],_,hr=>
     have h1:=hr.rv 0 (.str s) v1 rfl rfl
     have h2:=hr.rv 1 (.str [c]) v2 rfl rfl
     cases h1 with
     | str _ hs=>
     cases h2 with
     | str _ hs2=>
     refine (Tryz.strings_Contains_one ⟨s.toArray⟩ c w).mono ?_
     rintro e w' ⟨rfl,rfl⟩
     exact fj hH hnew hr0 hW (Below.refl _ _) (.bool _)
  ·cases hx
 ·simp at hx
def F63:zD:=zC [.str,.str] [.bool] (fun x=>x.2.1.length==1) fun x=>(decide (0≤Lib.indexByte x.1 (x.2.1.headD 0)),())
theorem zb3:FK 236 F63:=Wr

def F89:zD:=zC [.str] [.str] (fun x=>decide (x.1.length≤140737488355328)&&x.1.all fun b=>decide (b.toNat < 128)) fun x=>(Lib.toUpperA x.1,())
open Go.RowKit Go.Lib in
theorem zcq:FK 158 F89:=by
 refine fq (E:=uY) ⟨Tryz.f158,by kernel_rfl,by kernel_rfl,by kernel_rfl⟩ fun x h0 res hx=>?_
 unfold gC at hx
 split at hx
 ·simp only [Tr.val] at hx
  split at hx
  ·rename_i hc
   simp only [ag] at hx
   subst hx
   obtain ⟨s,u⟩:=x
   have hc:(decide (s.length≤140737488355328)&&s.all fun b=>decide (b.toNat < 128))=true:=hc
   simp only [aE,zZ] at hc
   obtain ⟨hc0,hc⟩:=hc
   intro C w U ρ vals _ hr hH hnew hr0 hW
   have hl:=hr.len
   match vals,hl,hr with
   | [v1],_,hr=>
    have h1:=hr.rv 0 (.str s) v1 rfl rfl
    cases h1 with
    | str _ hs=>
    refine (Tryz.strings_ToUpper_ascii ⟨s.toArray⟩ w (by simpa [ByteArray.size] using hc0) (fun j b hj=>?_)).mono ?_
    ·have hm:b∈s:=ig (by simpa using hj)
     simp only [cR,zZ] at hc
     exact hc b hm
    ·rintro e w' ⟨rfl,hb⟩
     have hbb:=fj (r:=.str (Lib.toUpperA s)) hH hnew hr0 hW hb (.str _ (by simpa [Lib.toUpperA] using hs))
     exact hbb
  ·cases hx
 ·simp at hx

def nv:Nat→Nat→zn
 | 0,_=>[]
 | f+1,n=>if n < 10 then [UInt8.ofNat (48+n)] else nv f (n / 10)++[UInt8.ofNat (48+n % 10)]
def nM (n:Int):zn:=if n < 0 then 45::nv 20 n.natAbs else nv 20 n.natAbs
theorem Bm:∀ (f n:Nat),n < 10 ^ f→0 < f→nv f n=Lib.decDigits n
 | 0,_,_,h=>by omega
 | f+1,n,h,_=>by
  rw [nv,Lib.decDigits]
  split
  ·rfl
  ·rename_i hn
   have hf:0 < f:=by
    cases f with
    | zero=>simp at h; omega
    | succ f=>omega
   rw [Bm f (n / 10) (by rw [Nat.pow_succ] at h; omega) hf]
theorem Ds:∀ (f n:Nat),(nv f n).length≤f
 | 0,_=>by simp [nv]
 | f+1,n=>by
  rw [nv]
  split
  ·simp
  ·have:=Ds f (n / 10)
   simp; omega
theorem Al (n:Int):(nM n).length≤21:=by
 unfold nM
 have:=Ds 20 n.natAbs
 split <;> simp <;> omega
theorem MT (n:Int) (h:bM .i64 n):Lib.itoa n=nM n:=by
 have h1:-9223372036854775808≤n:=h.1
 have h2:n≤9223372036854775807:=h.2
 unfold Lib.itoa nM
 split
 ·rw [Bm 20 _ (by omega) (by omega)]
 ·rw [Bm 20 _ (by omega) (by omega)]
  congr 1
  omega
def ZZ:zD:=zC [zg,zg] [.str] (fun x=>x.2.1==10) fun x=>(nM x.1,())
open Go.RowKit Go.Lib in
theorem Vn:FK 230 ZZ:=by
 refine fq (E:=uY) ⟨Tryz.f230,by kernel_rfl,by kernel_rfl,by kernel_rfl⟩ fun x h0 res hx=>?_
 unfold gC at hx
 split at hx
 ·simp only [Tr.val] at hx
  split at hx
  ·rename_i hc
   simp only [ag] at hx
   subst hx
   obtain ⟨n,b,u⟩:=x
   have hc:(b==10)=true:=hc
   simp only [eQ] at hc
   subst hc
   intro C w U ρ vals _ hr hH hnew hr0 hW
   have hl:=hr.len
   match vals,hl,hr with
   | [v1,v2],_,hr=>
    have h1:=hr.rv 0 (.int .i64 n) v1 rfl rfl
    have h2:=hr.rv 1 (.int .i64 10) v2 rfl rfl
    cases h1 with
    | int _ _ hn=>
    cases h2
    have h5:Rv w U (fun _=>none) (.tab .u64 jM) (.pointer (some ⟨5,0,none⟩)):=hW.gl 5
    have htab:Lib.TabIs Tryz.prog w "internal/strconv.uint64pow10" .u64 Lib.pow10Tab:=by
     cases h5 with
     | tab _ _ _ T fr hb hU=>
     have hg:Tryz.prog.globalNamed "internal/strconv.uint64pow10" = some 5:=by kernel_rfl
     have ht:Lib.pow10Tab=jM:=by decide +kernel
     unfold Lib.TabIs World.var?
     rw [hg,ht]
     simp only [Option.bind_some,hb]
    refine (Tryz.strconv_FormatInt_10 n hn.1 hn.2 w htab).mono ?_
    rintro e w' ⟨rfl,k,os,rfl⟩
    rw [MT n hn]
    exact fj (r:=.str (nM n)) hH hnew hr0 hW ⟨rfl,rfl,rfl,by show w.heap.size≤(w.heap++os).size; simp,fun j hj=>by show (w.heap++os)[j]?=w.heap[j]?; rw [Array.getElem?_append_left hj]⟩ (.str _ (by have:=Al n; unfold zF; omega))
  ·cases hx
 ·simp at hx

theorem pO (old new:zn):∀ (k:Nat) (s:zn),(Lib.replaceK old new k s).length≤s.length+k * new.length
 | 0,s=>by simp [Lib.replaceK]
 | k+1,s=>by
  rw [Lib.replaceK]
  split
  ·omega
  ·have:=pO old new k (s.drop ((Lib.index s old).toNat+old.length))
   simp only [ua,List.length_take,List.length_drop] at this ⊢
   rw [fE]
   omega
theorem je (s old new:zn):(Lib.replaceAll s old new).length≤s.length+(s.length+1) * new.length:=by
 unfold Lib.replaceAll Lib.replace
 split
 ·omega
 ·refine cC (pO old new _ s) ?_
  have hc:=Lib.count_le s old
  have:Lib.replaceNum s old (-1)=Lib.count s old:=by unfold Lib.replaceNum; rw [if_pos (.inl (by omega))]
  rw [this]
  have:=eP new.length hc
  omega
def pN (s old new:zn):Bool:=decide (s.length≤4000000000)&&(decide (1≤old.length)&&decide (new.length≤1000))
def Z0:zD:=zC [.str,.str,.str] [.str] (fun x=>pN x.1 x.2.1 x.2.2.1) fun x=>(Lib.replaceAll x.1 x.2.1 x.2.2.1,())
open Go.RowKit Go.Lib in
theorem Vo:FK 231 Z0:=by
 refine fq (E:=uY) ⟨Tryz.f231,by kernel_rfl,by kernel_rfl,by kernel_rfl⟩ fun x h0 res hx=>?_
 unfold gC at hx
 split at hx
 ·simp only [Tr.val] at hx
  split at hx
  ·rename_i hc
   simp only [ag] at hx
   subst hx
   obtain ⟨s,old,new,u⟩:=x
   have hc:pN s old new=true:=hc
   unfold pN at hc
   simp only [aE,zZ] at hc
   obtain ⟨hc1,hc2,hc3⟩:=hc
   intro C w U ρ vals _ hr hH hnew hr0 hW
   have hl:=hr.len
   match vals,hl,hr with
   | [v1,v2,v3],_,hr=>
    have h1:=hr.rv 0 (.str s) v1 rfl rfl
    have h2:=hr.rv 1 (.str old) v2 rfl rfl
    have h3:=hr.rv 2 (.str new) v3 rfl rfl
    cases h1 with
    | str _ hs1=>
    cases h2 with
    | str _ hs2=>
    cases h3 with
    | str _ hs3=>
    have hg1:Rv w U (fun _=>none) .gint (.pointer (some ⟨2,0,none⟩)):=hW.gl 2
    have hmm:∃ m:Int,w.cell? ⟨2,0,none⟩=some (.int .i64 m):=by
     cases hg1 with
     | gint m _ T fr _ hb _=>exact ⟨m,by simp [World.cell?,hb]⟩
    obtain ⟨m,hm⟩:=hmm
    have hcb:=Lib.countB_le (⟨old.toArray⟩:ByteArray) (by simpa [ByteArray.size] using hc2) s.length (⟨s.toArray⟩:ByteArray) (by simp [ByteArray.size])
    have hsz:(⟨s.toArray⟩:ByteArray).size=s.length:=by simp [ByteArray.size]
    have hnz:(⟨new.toArray⟩:ByteArray).size=new.length:=by simp [ByteArray.size]
    have hmul:Lib.countB (⟨s.toArray⟩:ByteArray) ⟨old.toArray⟩ * new.length≤4000000000 * 1000:=jX (by omega) hc3
    refine (Tryz.strings_ReplaceAll ⟨s.toArray⟩ ⟨old.toArray⟩ ⟨new.toArray⟩ m w (by rw [hsz]; omega) hm (by simpa [ByteArray.size] using hc2) (by rw [hsz,hnz]; omega)).mono ?_
    rintro e w' ⟨rfl,hbel⟩
    refine fj (r:=.str (Lib.replaceAll s old new)) hH hnew hr0 hW hbel (.str _ ?_)
    have hlen:=je s old new
    have hmul2:(s.length+1) * new.length≤4000000001 * 1000:=jX (by omega) hc3
    unfold zF
    omega
  ·cases hx
 ·simp at hx

def ZY:zD:=zC [.sl .str,.str] [.str] (fun x=>decide (x.1.length≤140737488355328)&&decide ((Lib.join x.1 x.2.1).length≤140737488355328)) fun x=>(Lib.join x.1 x.2.1,())
open Go.RowKit Go.Lib in
theorem Vm:FK 229 ZY:=by
 refine fq (E:=uY) ⟨Tryz.f229,by kernel_rfl,by kernel_rfl,by kernel_rfl⟩ fun x h0 res hx=>?_
 unfold gC at hx
 split at hx
 ·simp only [Tr.val] at hx
  split at hx
  ·rename_i hc
   simp only [ag] at hx
   subst hx
   obtain ⟨l,sep,u⟩:=x
   have hc:(decide (l.length≤140737488355328)&&decide ((Lib.join l sep).length≤140737488355328))=true:=hc
   simp only [aE,zZ] at hc
   obtain ⟨hc0,hc⟩:=hc
   have hms:zF=9223372036854775807:=rfl
   intro C w U ρ vals _ hr hH hnew hr0 hW
   have hl:=hr.len
   match vals,hl,hr with
   | [v1,v2],_,hr=>
    have h1:=hr.rv 0 (.sl .str l) v1 rfl rfl
    have h2:=hr.rv 1 (.str sep) v2 rfl rfl
    cases h2 with
    | str _ hs2=>
    generalize hl0:l=l0 at h1 hc hc0 hr
    cases h1 with
    | sl0 _ a c=>
     subst hl0
     refine (Tryz.strings_Join_none a c ⟨sep.toArray⟩ w).mono ?_
     rintro e w' ⟨rfl,rfl⟩
     exact fj (r:=.str []) hH hnew hr0 hW (Below.refl _ _) (.str _ (by simp))
    | sl _ _ b o c vals' hcc hm hb hU hcell hrr=>
     subst hl0
     have hx:∀ (j:Nat) x,(l.map fun s=>(⟨s.toArray⟩:ByteArray))[j]?=some x→w.cell? ⟨b,o+j,none⟩=some (.string x):=by
      intro j x hj
      simp only [de,c8] at hj
      obtain ⟨s,hs,rfl⟩:=hj
      obtain ⟨hlt,rfl⟩:=bG.1 hs
      have h3:=hcell j 0 hlt (by simp [Sh.size])
      have h4:=hrr j hlt 0 (.str l[j]) rfl
      simp only [Sh.size,Nat.mul_one,oU] at h3
      rw [h3]
      generalize vals' j 0=vv at h4
      cases h4
      rfl
     have hmap:(l.map fun s=>(⟨s.toArray⟩:ByteArray)).map (·.data.toList)=l:=by
      simp [rK]
     have hj:=Tryz.strings_Join b o c (l.map fun s=>(⟨s.toArray⟩:ByteArray)) ⟨sep.toArray⟩ w hx hb (by simpa using hc0) (by simpa using hcc) (by rw [hmap]; exact hc)
     rw [hmap] at hj
     simp only [yr] at hj
     refine hj.mono ?_
     rintro e w' ⟨rfl,hbel⟩
     exact fj (r:=.str (Lib.join l sep)) hH hnew hr0 hW hbel (.str _ (by omega))
  ·cases hx
 ·simp at hx

noncomputable def nH:=uY.addL [(236,F63),(158,F89),(230,ZZ),(231,Z0),(229,ZY)]
theorem gk:zm nH:=JS.addL <| fc zb3 <| fc zcq <| fc Vn <| fc Vo <| fc Vm gW
end Cad
