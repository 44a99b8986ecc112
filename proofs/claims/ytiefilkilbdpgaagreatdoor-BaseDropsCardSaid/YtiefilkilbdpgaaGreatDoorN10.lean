/- Expressions: which may be. Expressions: their values. Expressions: may, bounded. Expressions: types and values. What is asked of expressions holds. -/
import Derived.Test.YtiefilkilbdpgaaGreatDoorN09
namespace Cad
open Go Go.Proofs
open Int (toNat)
open List (length)

def wo (v:V):Bool:=v.1==0&&(v.2.1==0&&(v.2.2==[]&&true))
def avB:AV→Option Bool
 | .bool b=>some b
 | .kb b=>some b
 | _=>none

theorem Reach.toBool {E:bx} {C:cI} {fn:FuncId} {todo:List Item} {st:St} {b:Bool} {hp:List AO} (h:Reach E C fn todo st (fun r h=>avB r=some b∧h=hp)):Reach E C fn todo st (fun r h=>(r,h)=(.bool b,hp)):=by
 refine h.weaken fun r h' hq=>?_
 obtain ⟨h1,rfl⟩:=hq
 refine ⟨.bool b,rfl,fun w U ρ v hv=>?_⟩
 cases r <;> simp [avB] at h1 <;> subst h1 <;> cases hv <;> exact .bool _

def V2 (g:ze→Int→Int→Bool×Int) (c:ze→Int→Int→Bool):cG [none,some .expr,some zg]:=fun x h=>match x,h with
 | (.ptr 0 0,e,d,_),[.box [.int .i64 n]]=>.chk (c e d n) (.ok (.bool (g e d n).1,[.box [.int .i64 (g e d n).2]]))
 | _,_=>.err
def E1 (g:ze→Int→Int→Bool×Int) (c:ze→Int→Int→Bool):zF:=zU [none,some .expr,some zg] (V2 g c)
noncomputable def Jn (g:ze→Int→Int→Bool×Int) (c:ze→Int→Int→Bool):bx:=Hz.add 137 (E1 g c)
theorem vo {g:ze→Int→Int→Bool×Int} {c:ze→Int→Int→Bool} (hg:FK 137 (E1 g c)):zl (Jn g c):=yT.add hg
abbrev zd9:Nat→aj:=fun j=>if j=12 then { slots:=[0,2,73,74,75] } else { }
abbrev Cm (i2:Int) (l73:LX) (i74:Int) (i75:Int) (ja0:Int):St:={ tmps:=(tm 86 [(0,AV.ptr 0 0),(2,ai i2),(73,AV.sl Sh.expr l73),(74,ai i74),(75,ai i75)]),heap:=[AO.box [ai ja0]] }
theorem Ny (g:ze→Int→Int→Bool×Int) (c:ze→Int→Int→Bool):zA (Jn g c).P 137 Tryz.f137 3:=aS (by kernel_rfl)
theorem zhc (g:ze→Int→Int→Bool×Int) (c:ze→Int→Int→Bool) (e:ze) (d:Int) (n:Int):rn (Jn g c) 1 zd9 Tryz.f137 [AV.ptr 0 0,zz Sh.expr e,ai d] [AO.box [ai n]]=Tr.br (bif decide (d > 12) then true else bif decide (IntKind.i64.wrap (n+1) > 60) then true else (↑e.l.length:Int) != dH e.op) (Tr.ok (zt.ret (AV.kb false) [AO.box [ai (IntKind.i64.wrap (n+1))]])) (Tr.br (e.op==[108,105,116]) (Tr.ok (zt.ret (AV.bool (bif e.s==[] then gy e.v else false)) [AO.box [ai (IntKind.i64.wrap (n+1))]])) (Tr.br (e.op==[99,111,108]) (Tr.ok (zt.ret (AV.bool (bif wo e.v then bif lq e.s then !EA e.s else false else false)) [AO.box [ai (IntKind.i64.wrap (n+1))]])) (Tr.br (bif !wo e.v then true else !e.s==[]) (Tr.ok (zt.ret (AV.kb false) [AO.box [ai (IntKind.i64.wrap (n+1))]])) (Tr.ok (zt.head 12 (zy Tryz.f137 12) (Cm d e.l (↑e.l.length:Int) 0 (IntKind.i64.wrap (n+1)))))))):=by kernel_rfl
theorem Ih (g:ze→Int→Int→Bool×Int) (c:ze→Int→Int→Bool) (i2:Int) (l73:LX) (i74:Int) (i75:Int) (ja0:Int):rh (Jn g c) 1 zd9 Tryz.f137 12 (Cm i2 l73 i74 i75 ja0)=Tr.br (decide (i75 < i74)) (Tr.chk (zI i75 l73.length) (Tr.chk (c (zE (l73.getD i75.toNat (zj Sh.expr))) (IntKind.i64.wrap (i2+1)) ja0) (Tr.br (!(g (zE (l73.getD i75.toNat (zj Sh.expr))) (IntKind.i64.wrap (i2+1)) ja0).1) (Tr.ok (zt.ret (AV.kb false) [AO.box [AV.int IntKind.i64 (g (zE (l73.getD i75.toNat (zj Sh.expr))) (IntKind.i64.wrap (i2+1)) ja0).2]])) (Tr.ok (zt.head 12 (zy Tryz.f137 12) (Cm i2 l73 i74 (IntKind.i64.wrap (i75+1)) (g (zE (l73.getD i75.toNat (zj Sh.expr))) (IntKind.i64.wrap (i2+1)) ja0).2)))))) (Tr.ok (zt.ret (AV.kb true) [AO.box [ai ja0]])):=by kernel_rfl

def yi (g:ze→Int→Int→Bool×Int) (d:Int):List ze→Int→Bool×Int
 | [],n=>(true,n)
 | x::r,n=>if (!(g x (IntKind.i64.wrap (d+1)) n).1)=true then (false,(g x (IntKind.i64.wrap (d+1)) n).2) else yi g d r (g x (IntKind.i64.wrap (d+1)) n).2
def wz (g:ze→Int→Int→Bool×Int) (c:ze→Int→Int→Bool) (d:Int):List ze→Int→Bool
 | [],_=>true
 | x::r,n=>if c x (IntKind.i64.wrap (d+1)) n=true then (if (!(g x (IntKind.i64.wrap (d+1)) n).1)=true then true else wz g c d r (g x (IntKind.i64.wrap (d+1)) n).2) else false

theorem zgw {g:ze→Int→Int→Bool×Int} {c:ze→Int→Int→Bool} (hg:FK 137 (E1 g c)) {C:cI} (hC:∀ id,1≤id→C.ρ0 id=none) (d:Int) (l:List ze) (hl:l.length≤zB):
  ∀ (k i:Nat) (n:Int),l.length - i=k→i≤l.length→wz g c d (l.drop i) n=true→Reach (Jn g c) C 137 (zy Tryz.f137 12) (Cm d l l.length i n) (fun r h=>avB r=some (yi g d (l.drop i) n).1∧h=[.box [.int .i64 (yi g d (l.drop i) n).2]]):=by
 intro k
 induction k with
 | zero=>
  intro i n hk hi hc
  obtain rfl:i=l.length:=by omega
  refine zk (vo hg) (Ny g c) hC (Ih g c _ _ _ _ _) ?_
  simp only [zY,Tr.val_brF,cL]
  exact ⟨rfl,rfl⟩
 | succ k IH=>
  intro i n hk hi hc
  have hlt:i < l.length:=by omega
  refine zk (vo hg) (Ny g c) hC (Ih g c _ _ _ _ _) ?_
  rw [cX hlt] at hc ⊢
  rw [wz] at hc
  have hc1:=nP hc
  simp only [zT hlt,zC hlt,ae l _ hlt,ze.eta,Tr.val_brT,Tr.val_chkT,hc1.1,zD i (by omega)]
  refine kw (fun h=>?_) (fun h=>?_)
  ·rw [yi,if_pos h]; exact ⟨rfl,rfl⟩
  ·rw [yi,if_neg (kW h)]
   have h2:=hc1.2
   rw [if_neg (kW h)] at h2
   exact IH (i+1) _ (by omega) (by omega) h2

def Ed (g:ze→Int→Int→Bool×Int) (e:ze) (d n:Int):Bool×Int:=if (bif decide (d > 12) then true else bif decide (IntKind.i64.wrap (n+1) > 60) then true else (↑e.l.length:Int) != dH e.op)=true then (false,IntKind.i64.wrap (n+1)) else if (e.op==[108,105,116])=true then (bif e.s==[] then gy e.v else false,IntKind.i64.wrap (n+1)) else if (e.op==[99,111,108])=true then (bif wo e.v then bif lq e.s then !EA e.s else false else false,IntKind.i64.wrap (n+1)) else if (bif !wo e.v then true else !e.s==[])=true then (false,IntKind.i64.wrap (n+1)) else yi g d e.l (IntKind.i64.wrap (n+1))
def HZ (g:ze→Int→Int→Bool×Int) (c:ze→Int→Int→Bool) (e:ze) (d n:Int):Bool:=if (bif decide (d > 12) then true else bif decide (IntKind.i64.wrap (n+1) > 60) then true else (↑e.l.length:Int) != dH e.op)=true then true else if (e.op==[108,105,116])=true then true else if (e.op==[99,111,108])=true then true else if (bif !wo e.v then true else !e.s==[])=true then true else wz g c d e.l (IntKind.i64.wrap (n+1))

theorem U9 {g:ze→Int→Int→Bool×Int} {c:ze→Int→Int→Bool} (hg:FK 137 (E1 g c)):FK 137 (E1 (Ed g) (HZ g c)):=by
 refine bC (E:=Jn g c) (Ny g c) fun x h0 res hx C hC=>?_
 unfold V2 at hx
 split at hx
 ·rename_i e d u n
  simp only [Tr.val] at hx
  split at hx
  ·rename_i hc
   simp only [ap] at hx
   subst hx
   refine Reach.toBool ?_
   refine zk (n0:=1) (vo hg) (Ny g c) hC (zhc g c e d n) ?_
   generalize hy:Ed g e d n=y
   unfold Ed at hy
   unfold HZ at hc
   repeat' (refine kw (fun hsp=>?_) (fun hsp=>?_) <;> first | (rw [if_pos hsp] at hy hc) | (rw [if_neg (kW hsp)] at hy hc))
   all_goals subst hy
   ·exact ⟨rfl,rfl⟩
   ·exact ⟨rfl,rfl⟩
   ·exact ⟨rfl,rfl⟩
   ·exact ⟨rfl,rfl⟩
   ·exact Reach.len 73 .expr e.l rfl fun hl=>zgw hg hC d e.l hl _ 0 _ rfl (aV _) hc
  ·simp at hx
 ·simp at hx

mutual
def qj:Nat→ze→Int→Int→Bool×Int
 | 0=>fun _ _ _=>(false,0)
 | n+1=>Ed (qj n)
def qh:Nat→ze→Int→Int→Bool
 | 0=>fun _ _ _=>false
 | n+1=>HZ (qj n) (qh n)
end
theorem KF:∀ n,FK 137 (E1 (qj n) (qh n))
 | 0=>by
  have h:FK 137 (zU [none,some .expr,some zg] (fun _ _=>.err)):=bC (Ny (fun _ _ _=>(false,0)) (fun _ _ _=>false)) (E:=Hz) fun x h0 res hx=>by simp at hx
  refine A6 (ι:=Unit) (Gs:=fun _ _ _=>.err) (fun _=>h) fun x h0 res hx=>?_
  unfold V2 at hx
  split at hx
  ·simp [Tr.val,qh] at hx
  ·simp at hx
 | n+1=>U9 (KF n)
def F37:zF:=E1 (qj 16) (qh 16)
theorem zaZ:FK 137 F37:=KF 16

noncomputable def yU:=Hz.add 137 F37
theorem ry:zl yU:=yT.add zaZ

abbrev gB:List (zp×AV):=[([97,110,100],.clo (.func 138) [] []),([111,114],.clo (.func 139) [] []),([110,111,116],.clo (.func 140) [] []),([61],.clo (.func 142) [] []),([60],.clo (.func 143) [] []),([43],.clo (.func 144) [] []),([45],.clo (.func 145) [] []),([110,117,108,108],.clo (.func 146) [] [])]
abbrev zie:Nat→aj:=fun _=>{ }
theorem zeE:zA yU.P 86 Tryz.f86 0:=aS (by kernel_rfl)
theorem zg3:(run yU 0 zie (Func.results Tryz.f86).toList 400 (aC Tryz.f86) (ar (Func.ntmps Tryz.f86) [] [])).val=some (zt.ret (AV.mp 0) [AO.fmap gB]):=by kernel_rfl
def G23:cG []:=fun _ h=>match h with
 | []=>.ok (.mp 0,[.fmap gB])
 | _=>.err
def F23:zF:=zU [] G23
theorem zaP:FK 86 F23:=by
 refine bC zeE fun x h0 res hx C hC=>?_
 unfold G23 at hx
 split at hx
 ·simp only [Tr.val,ap] at hx
  subst hx
  exact n5 (n0:=0) ry zeE hC zg3 rfl
 ·simp at hx

def YZ (op:zp) (x y:V):V:=if (op==[97,110,100])=true then Rq x y else if (op==[111,114])=true then vOr x y else if (op==[110,111,116])=true then IW x y else if (op==[61])=true then CK x y else if (op==[60])=true then IU x y else if (op==[43])=true then IX x y else if (op==[45])=true then CL x y else if (op==[110,117,108,108])=true then CM x y else (0,0,[])
def opC (op:zp):Bool:=if (op==[97,110,100])=true then true else if (op==[111,114])=true then true else if (op==[110,111,116])=true then true else if (op==[61])=true then true else if (op==[60])=true then true else if (op==[43])=true then true else if (op==[45])=true then true else if (op==[110,117,108,108])=true then true else false
def opL (op:zp) (x y:V) (h:List AO):Option zt:=if (op==[97,110,100])=true then some (.ret (zz zf (Rq x y)) h) else if (op==[111,114])=true then some (.ret (zz zf (vOr x y)) h) else if (op==[110,111,116])=true then some (.ret (zz zf (IW x y)) h) else if (op==[61])=true then some (.ret (zz zf (CK x y)) h) else if (op==[60])=true then some (.ret (zz zf (IU x y)) h) else if (op==[43])=true then some (.ret (zz zf (IX x y)) h) else if (op==[45])=true then some (.ret (zz zf (CL x y)) h) else if (op==[110,117,108,108])=true then some (.ret (zz zf (CM x y)) h) else none

def V1 (g:List (Sem zi)→List (Sem zf)→ze→V) (c:List (Sem zi)→List (Sem zf)→ze→Bool):cG [none,some .expr]:=fun x h=>match x,h with
 | (.agg [.sl (.pr .str (.pr (.int .i64) .bool)) cols,.sl (.pr (.int .i64) (.pr (.int .i64) .str)) row,.mp 0],e,_),[.fmap [(k1,.clo (.func 138) [] []),(k2,.clo (.func 139) [] []),(k3,.clo (.func 140) [] []),(k4,.clo (.func 142) [] []),(k5,.clo (.func 143) [] []),(k6,.clo (.func 144) [] []),(k7,.clo (.func 145) [] []),(k8,.clo (.func 146) [] [])]]=>
  .chk (k1==[97,110,100]&&(k2==[111,114]&&(k3==[110,111,116]&&(k4==[61]&&(k5==[60]&&(k6==[43]&&(k7==[45]&&(k8==[110,117,108,108])))))))) (.chk (c cols row e) (.ok (zz zf (g cols row e),[.fmap gB])))
 | _,_=>.err
def IZ (g:List (Sem zi)→List (Sem zf)→ze→V) (c:List (Sem zi)→List (Sem zf)→ze→Bool):zF:=zU [none,some .expr] (V1 g c)
noncomputable def Jl (g:List (Sem zi)→List (Sem zf)→ze→V) (c:List (Sem zi)→List (Sem zf)→ze→Bool):bx:=yU.add 87 (IZ g c)
theorem vl {g:List (Sem zi)→List (Sem zf)→ze→V} {c:List (Sem zi)→List (Sem zf)→ze→Bool} (hg:FK 87 (IZ g c)):zl (Jl g c):=ry.add hg
theorem Nt (g:List (Sem zi)→List (Sem zf)→ze→V) (c:List (Sem zi)→List (Sem zf)→ze→Bool):zA (Jl g c).P 87 Tryz.f87 2:=aS (by kernel_rfl)
theorem WS (g:List (Sem zi)→List (Sem zf)→ze→V) (c:List (Sem zi)→List (Sem zf)→ze→Bool) (cols:LC) (row:LV) (op:zp) (v:V) (s:zp):(run (Jl g c) 1 Y1 (Func.results Tryz.f87).toList 600 (aC Tryz.f87) (ar (Func.ntmps Tryz.f87) [AV.agg [AV.sl zi cols,AV.sl zf row,AV.mp 0],zz Sh.expr (.mk op v s [])] [AO.fmap gB])).val=if (op==[108,105,116])=true then some (.ret (zz zf v) [.fmap gB]) else if (op==[99,111,108])=true then (if (bif decide (zM cols s < 0) then true else decide (zM cols s ≥ (↑row.length:Int)))=true then some (.ret (zz zf (0,0,[])) [.fmap gB]) else if zI (zM cols s) row.length=true then some (.ret (zz zf (row.getD (toNat (zM cols s)) (zj zf))) [.fmap gB]) else none) else opL op (0,0,[]) (0,0,[]) [.fmap gB]:=by kernel_rfl
theorem WT (g:List (Sem zi)→List (Sem zf)→ze→V) (c:List (Sem zi)→List (Sem zf)→ze→Bool) (cols:LC) (row:LV) (op:zp) (v:V) (s:zp) (a:ze):(run (Jl g c) 1 Y1 (Func.results Tryz.f87).toList 600 (aC Tryz.f87) (ar (Func.ntmps Tryz.f87) [AV.agg [AV.sl zi cols,AV.sl zf row,AV.mp 0],zz Sh.expr (.mk op v s [a])] [AO.fmap gB])).val=if (op==[108,105,116])=true then some (.ret (zz zf v) [.fmap gB]) else if (op==[99,111,108])=true then (if (bif decide (zM cols s < 0) then true else decide (zM cols s ≥ (↑row.length:Int)))=true then some (.ret (zz zf (0,0,[])) [.fmap gB]) else if zI (zM cols s) row.length=true then some (.ret (zz zf (row.getD (toNat (zM cols s)) (zj zf))) [.fmap gB]) else none) else if c cols row (.mk a.op a.v a.s a.l)=true then opL op (g cols row (.mk a.op a.v a.s a.l)) (0,0,[]) [.fmap gB] else none:=by kernel_rfl
theorem WU (g:List (Sem zi)→List (Sem zf)→ze→V) (c:List (Sem zi)→List (Sem zf)→ze→Bool) (cols:LC) (row:LV) (op:zp) (v:V) (s:zp) (a b:ze):(run (Jl g c) 1 Y1 (Func.results Tryz.f87).toList 600 (aC Tryz.f87) (ar (Func.ntmps Tryz.f87) [AV.agg [AV.sl zi cols,AV.sl zf row,AV.mp 0],zz Sh.expr (.mk op v s [a,b])] [AO.fmap gB])).val=if (op==[108,105,116])=true then some (.ret (zz zf v) [.fmap gB]) else if (op==[99,111,108])=true then (if (bif decide (zM cols s < 0) then true else decide (zM cols s ≥ (↑row.length:Int)))=true then some (.ret (zz zf (0,0,[])) [.fmap gB]) else if zI (zM cols s) row.length=true then some (.ret (zz zf (row.getD (toNat (zM cols s)) (zj zf))) [.fmap gB]) else none) else if c cols row (.mk a.op a.v a.s a.l)=true then (if c cols row (.mk b.op b.v b.s b.l)=true then opL op (g cols row (.mk a.op a.v a.s a.l)) (g cols row (.mk b.op b.v b.s b.l)) [.fmap gB] else none) else none:=by kernel_rfl

theorem nB {Φ:zt→Prop} {c:Bool} {a b:Option zt} (h1:c=true→fh Φ a) (h2:c=false→fh Φ b):fh Φ (if c=true then a else b):=by
 cases c
 ·simpa using h2 rfl
 ·simpa using h1 rfl
theorem r9 {E:bx} {C:cI} {k:FuncId} {f:Func} {Q:AV→List AO→Prop} {n n0:Nat} (hE:zl E) (hf:zA E.P k f n) (hC:∀ id,n0≤id→C.ρ0 id=none) {keep:Nat→aj} {fuel:Nat}
  {todo:List Item} {st:St} {o:Option zt} (ht:(run E n0 keep f.results.toList fuel todo st).val=o) (h:fh (iD E C k Q) o):Reach E C k todo st Q:=
 zk hE hf hC rfl (by rw [ht]; exact h)

theorem rR {E:bx} {C:cI} {op:zp} {x y:V} {h:List AO} (hc:opC op=true):fh (iD E C 87 (fun r h'=>(r,h')=(zz zf (YZ op x y),h))) (opL op x y h):=by
 generalize hy:YZ op x y=z
 unfold opC at hc
 unfold YZ at hy
 unfold opL
 repeat' (refine nB (fun hsp=>?_) (fun hsp=>?_) <;> first | (rw [if_pos hsp] at hy; try rw [if_pos hsp] at hc) | (rw [if_neg (kW hsp)] at hy; try rw [if_neg (kW hsp)] at hc))
 all_goals first | (cases hc; done) | (subst hy; rfl)

def EX (g:List (Sem zi)→List (Sem zf)→ze→V) (cols:LC) (row:LV):ze→V
 | .mk op v s l=>if (op==[108,105,116])=true then v else
  if (op==[99,111,108])=true then (if (bif decide (zM cols s < 0) then true else decide (zM cols s ≥ (↑row.length:Int)))=true then (0,0,[]) else row.getD (toNat (zM cols s)) (zj zf)) else
  match l with
  | []=>YZ op (0,0,[]) (0,0,[])
  | [a]=>YZ op (g cols row a) (0,0,[])
  | [a,b]=>YZ op (g cols row a) (g cols row b)
  | _=>(0,0,[])
def qU (c:List (Sem zi)→List (Sem zf)→ze→Bool) (cols:LC) (row:LV):ze→Bool
 | .mk _ _ _ (_::_::_::_)=>false
 | .mk op _ s l=>if (op==[108,105,116])=true then true else
  if (op==[99,111,108])=true then (if (bif decide (zM cols s < 0) then true else decide (zM cols s ≥ (↑row.length:Int)))=true then true else zI (zM cols s) row.length) else
  match l with
  | []=>opC op
  | [a]=>if c cols row a=true then opC op else false
  | [a,b]=>if c cols row a=true then (if c cols row b=true then opC op else false) else false
  | _=>false

theorem UW {g:List (Sem zi)→List (Sem zf)→ze→V} {c:List (Sem zi)→List (Sem zf)→ze→Bool} (hg:FK 87 (IZ g c)):FK 87 (IZ (EX g) (qU c)):=by
 refine bC (E:=Jl g c) (Nt g c) fun x h0 res hx C hC=>?_
 unfold V1 at hx
 split at hx
 ·rename_i cols row e u k1 k2 k3 k4 k5 k6 k7 k8
  simp only [Tr.val] at hx
  split at hx
  ·rename_i hk
   split at hx
   ·rename_i hc
    simp only [aM,eH] at hk
    obtain ⟨rfl,rfl,rfl,rfl,rfl,rfl,rfl,rfl⟩:=hk
    simp only [ap] at hx
    subst hx
    obtain ⟨op,v,s,l⟩:=e
    match l,hc with
    | [],hc=>
     refine r9 (n0:=1) (vl hg) (Nt g c) hC (WS g c cols row op v s) ?_
     generalize hy:EX g cols row (.mk op v s [])=z
     rw [qU] at hc
     rw [EX] at hy
     repeat' (first | (subst hy; exact rR hc) | refine nB (fun hsp=>?_) (fun hsp=>?_) <;> first | (first | rw [if_pos hsp] at hy hc | rw [if_pos hsp] at hc | rw [if_pos hsp] at hy) | (first | rw [if_neg (kW hsp)] at hy hc | rw [if_neg (kW hsp)] at hc | rw [if_neg (kW hsp)] at hy) | skip)
     all_goals first | (subst hy; exact rR hc) | (subst hy; rfl) | (rw [hc] at hsp; cases hsp)
    | [a],hc=>
     refine r9 (n0:=1) (vl hg) (Nt g c) hC (WT g c cols row op v s a) ?_
     generalize hy:EX g cols row (.mk op v s [a])=z
     rw [qU] at hc
     rw [EX] at hy
     simp only [ze.eta]
     repeat' (first | (subst hy; exact rR hc) | refine nB (fun hsp=>?_) (fun hsp=>?_) <;> first | (first | rw [if_pos hsp] at hy hc | rw [if_pos hsp] at hc | rw [if_pos hsp] at hy) | (first | rw [if_neg (kW hsp)] at hy hc | rw [if_neg (kW hsp)] at hc | rw [if_neg (kW hsp)] at hy) | skip)
     all_goals first | (subst hy; exact rR hc) | (subst hy; rfl) | (cases hc; done) | (rw [hc] at hsp; cases hsp)
    | [a,b],hc=>
     refine r9 (n0:=1) (vl hg) (Nt g c) hC (WU g c cols row op v s a b) ?_
     generalize hy:EX g cols row (.mk op v s [a,b])=z
     rw [qU] at hc
     rw [EX] at hy
     simp only [ze.eta]
     repeat' (first | (subst hy; exact rR hc) | refine nB (fun hsp=>?_) (fun hsp=>?_) <;> first | (first | rw [if_pos hsp] at hy hc | rw [if_pos hsp] at hc | rw [if_pos hsp] at hy) | (first | rw [if_neg (kW hsp)] at hy hc | rw [if_neg (kW hsp)] at hc | rw [if_neg (kW hsp)] at hy) | skip)
     all_goals first | (subst hy; exact rR hc) | (subst hy; rfl) | (cases hc; done) | (rw [hc] at hsp; cases hsp)
    | _::_::_::_,hc=>
     cases hc
   ·simp at hx
  ·simp at hx
 ·simp at hx

mutual
def G7:Nat→List (Sem zi)→List (Sem zf)→ze→V
 | 0=>fun _ _ _=>(0,0,[])
 | n+1=>EX (G7 n)
def qT:Nat→List (Sem zi)→List (Sem zf)→ze→Bool
 | 0=>fun _ _ _=>false
 | n+1=>qU (qT n)
end
theorem KD:∀ n,FK 87 (IZ (G7 n) (qT n))
 | 0=>by
  have h:FK 87 (zU [none,some .expr] (fun _ _=>.err)):=bC (Nt (fun _ _ _=>(0,0,[])) (fun _ _ _=>false)) (E:=yU) fun x h0 res hx=>by simp at hx
  refine A6 (ι:=Unit) (Gs:=fun _ _ _=>.err) (fun _=>h) fun x h0 res hx=>?_
  unfold V1 at hx
  split at hx
  ·simp [Tr.val,qT] at hx
  ·simp at hx
 | n+1=>UW (KD n)
def F24:zF:=IZ (G7 16) (qT 16)
theorem zaQ:FK 87 F24:=KD 16

noncomputable def yV:=yU.addL [(86,F23),(87,F24)]
theorem rz:zl yV:=ry.addL <| fc zaP <| fc zaQ jn

abbrev zid:Nat→aj:=fun _=>{ }
theorem zeD:zA (yV).P 85 Tryz.f85 1:=aS (by kernel_rfl)
theorem zg2 (x0:Sem Sh.expr):rn yV 0 zid Tryz.f85 [zz Sh.expr x0] []=Tr.chk (qh 16 (zE x0) 1 0) (Tr.ok (zt.ret (AV.bool (qj 16 (zE x0) 1 0).1) [])):=by kernel_rfl
def kf (x0:Sem Sh.expr):Sem Sh.bool:=(qj 16 x0 1 0).1
def sK (x0:Sem Sh.expr):Bool:=if qh 16 x0 1 0=true then true else false
def F22:zF:=zG [Sh.expr] [Sh.bool] (fun x=>sK x.1) fun x=>(kf x.1,())
theorem SC:FK 85 F22:=by
 refine zR (zeD) fun x hc C hC=>?_
 unfold sK at hc
 refine zk rz (zeD) (fun id _=>hC id) (zg2 x.1) ?_
 generalize hy:kf x.1=y
 unfold kf at hy
 try simp only [ze.eta]
 repeat' (first | with_reducible refine fe hy hc (fun _ hy hc=>?_) (fun _ hy hc=>?_) | with_reducible refine bd hy (fun _ hy=>?_) (fun _ hy=>?_) | with_reducible refine bz hc (fun hc=>?_) | with_reducible refine zr ?_)
 all_goals (subst hy; first | rfl)

abbrev kp7:Nat→aj:=fun _=>{ }
theorem ok7:zA (yV).P 27 Tryz.f27 1:=aS (by kernel_rfl)
theorem go7 (x0:Sem Sh.expr):rn yV 0 kp7 Tryz.f27 [zz Sh.expr x0] []=Tr.chk (p9 16 (zE x0) 14 80) (Tr.ok (zt.ret (AV.agg [AV.str (ze.op (lG 16 (zE x0) 14 80).1),ai (ze.v (lG 16 (zE x0) 14 80).1).1,ai (ze.v (lG 16 (zE x0) 14 80).1).2.1,AV.str (ze.v (lG 16 (zE x0) 14 80).1).2.2,AV.str (ze.s (lG 16 (zE x0) 14 80).1),AV.sl Sh.expr (ze.l (lG 16 (zE x0) 14 80).1)]) [])):=by kernel_rfl
def dY (x0:Sem Sh.expr):Sem Sh.expr:=ze.mk (ze.op (lG 16 x0 14 80).1) (ze.v (lG 16 x0 14 80).1) (ze.s (lG 16 x0 14 80).1) (ze.l (lG 16 x0 14 80).1)
def Hx (x0:Sem Sh.expr):Bool:=if p9 16 x0 14 80=true then true else false
def F7:zF:=zG [Sh.expr] [Sh.expr] (fun x=>Hx x.1) fun x=>(dY x.1,())
theorem zbv:FK 27 F7:=by
 refine zR (ok7) fun x hc C hC=>?_
 unfold Hx at hc
 refine zk rz (ok7) (fun id _=>hC id) (go7 x.1) ?_
 generalize hy:dY x.1=y
 unfold dY at hy
 try simp only [ze.eta]
 repeat' (first | with_reducible refine fe hy hc (fun _ hy hc=>?_) (fun _ hy hc=>?_) | with_reducible refine bd hy (fun _ hy=>?_) (fun _ hy=>?_) | with_reducible refine bz hc (fun hc=>?_) | with_reducible refine zr ?_)
 all_goals (subst hy; first | rfl)

noncomputable def yW:=yV.addL [(85,F22),(27,F7)]
theorem rA:zl yW:=rz.addL <| fc SC <| fc zbv jn

abbrev zif:Nat→aj:=fun _=>{ }
theorem zeH:zA (yW).P 83 Tryz.f83 2:=aS (by kernel_rfl)
theorem zg7 (x0:Sem Sh.expr) (x1:Sem zi.sl):rn yW 0 zif Tryz.f83 [zz Sh.expr x0,zz zi.sl x1] []=Tr.chk (sK (zE x0)) (Tr.br (!kf (zE x0)) (Tr.ok (zt.ret (AV.tup [ai 0,ai 1]) [])) (Tr.chk (jf 16 (zE x0) x1) (Tr.ok (zt.ret (AV.tup [ai (fM 16 (zE x0) x1).1,ai (fM 16 (zE x0) x1).2]) [])))):=by kernel_rfl
def bn (x0:Sem Sh.expr) (x1:Sem zi.sl):Sem zg×Sem zg:=if (!kf x0)=true then (0,1) else ((fM 16 x0 x1).1,(fM 16 x0 x1).2)
def Bw (x0:Sem Sh.expr) (x1:Sem zi.sl):Bool:=if sK x0=true then if (!kf x0)=true then true else if jf 16 x0 x1=true then true else false else false
def F30:zF:=zG [Sh.expr,zi.sl] [zg,zg] (fun x=>Bw x.1 x.2.1) fun x=>((bn x.1 x.2.1).1,(bn x.1 x.2.1).2,())
theorem SD:FK 83 F30:=by
 refine zR (zeH) fun x hc C hC=>?_
 unfold Bw at hc
 refine zk rA (zeH) (fun id _=>hC id) (zg7 x.1 x.2.1) ?_
 generalize hy:bn x.1 x.2.1=y
 unfold bn at hy
 try simp only [ze.eta]
 repeat' (first | with_reducible refine fe hy hc (fun _ hy hc=>?_) (fun _ hy hc=>?_) | with_reducible refine bd hy (fun _ hy=>?_) (fun _ hy=>?_) | with_reducible refine bz hc (fun hc=>?_) | with_reducible refine zr ?_)
 all_goals (subst hy; first | rfl)

abbrev zib:Nat→aj:=fun _=>{ }
theorem zew:zA (yW).P 48 Tryz.f48 3:=aS (by kernel_rfl)
theorem zgU (x0:Sem Sh.expr) (x1:Sem zi.sl) (x2:Sem zf.sl):rn yW 0 zib Tryz.f48 [zz Sh.expr x0,zz zi.sl x1,zz zf.sl x2] []=Tr.chk (sK (zE x0)) (Tr.br (!kf (zE x0)) (Tr.ok (zt.ret (AV.agg [ai 0,ai 0,AV.str []]) [])) (Tr.chk ([97,110,100]==[97,110,100]&&([111,114]==[111,114]&&([110,111,116]==[110,111,116]&&([61]==[61]&&([60]==[60]&&([43]==[43]&&([45]==[45]&&[110,117,108,108]==[110,117,108,108]))))))) (Tr.chk (qT 16 x1 x2 (zE x0)) (Tr.ok (zt.ret (AV.agg [ai (G7 16 x1 x2 (zE x0)).1,ai (G7 16 x1 x2 (zE x0)).2.1,AV.str (G7 16 x1 x2 (zE x0)).2.2]) []))))):=by kernel_rfl
def il (x0:Sem Sh.expr) (x1:Sem zi.sl) (x2:Sem zf.sl):Sem zf:=if (!kf x0)=true then (0,0,[]) else G7 16 x1 x2 x0
def Bv (x0:Sem Sh.expr) (x1:Sem zi.sl) (x2:Sem zf.sl):Bool:=if sK x0=true then if (!kf x0)=true then true else if ([97,110,100]==[97,110,100]&&([111,114]==[111,114]&&([110,111,116]==[110,111,116]&&([61]==[61]&&([60]==[60]&&([43]==[43]&&([45]==[45]&&[110,117,108,108]==[110,117,108,108])))))))=true then if qT 16 x1 x2 x0=true then true else false else false else false
def F11:zF:=zG [Sh.expr,zi.sl,zf.sl] [zf] (fun x=>Bv x.1 x.2.1 x.2.2.1) fun x=>(il x.1 x.2.1 x.2.2.1,())
theorem Sx:FK 48 F11:=by
 refine zR (zew) fun x hc C hC=>?_
 unfold Bv at hc
 refine zk rA (zew) (fun id _=>hC id) (zgU x.1 x.2.1 x.2.2.1) ?_
 generalize hy:il x.1 x.2.1 x.2.2.1=y
 unfold il at hy
 try simp only [ze.eta]
 repeat' (first | with_reducible refine fe hy hc (fun _ hy hc=>?_) (fun _ hy hc=>?_) | with_reducible refine bd hy (fun _ hy=>?_) (fun _ hy=>?_) | with_reducible refine bz hc (fun hc=>?_) | with_reducible refine zr ?_)
 all_goals (subst hy; first | rfl)

noncomputable def SW:=yW.addL [(83,F30),(48,F11)]
theorem Js:zl SW:=rA.addL <| fc SD <| fc Sx jn

theorem lY (d:Int) (h1:-1000≤d) (h2:d≤1000):IntKind.i64.wrap d=d:=by
 rw [uE]; omega

theorem Aq {g:Sem Sh.expr→Sem zg→Sem zg→Sem Sh.expr×Sem zg} {c:Sem Sh.expr→Sem zg→Sem zg→Bool} {i1:Int} (h:∀ x n,0 < i1→c x (IntKind.i64.wrap (i1 - 1)) n=true) {a0:zp} {a1 a2:Int} {a3 a4 b0:zp} {b1 b2:Int} {b3 b4 d0:zp} {d1 d2:Int} {d3 d4:zp}:
  ∀ (l:List (Sem Sh.expr)) (i n:Int) (acc:List (Sem Sh.expr)),(acc.length:Int)≤i→cR g c i1 a0 a1 a2 a3 a4 b0 b1 b2 b3 b4 d0 d1 d2 d3 d4 l i n acc=true
 | [],_,_,_,_=>rfl
 | x::r,i,n,acc,hi=>by
  rw [cR]
  split
  ·rename_i hk
   have h3:i < 3∧i1 > 0:=by
    cases h1:decide (i < 3) <;> cases h2:decide (i1 > 0) <;> simp_all
   rw [if_pos (h x n h3.2),if_pos (by simp; omega)]
   exact Aq h r (i+1) _ _ (by simp; omega)
  ·rfl

theorem FU {g:Sem Sh.expr→Sem zg→Sem zg→Sem Sh.expr×Sem zg} {c:Sem Sh.expr→Sem zg→Sem zg→Bool} {i1:Int} (h:∀ x n,0 < i1→c x (IntKind.i64.wrap (i1 - 1)) n=true) (e:ze) (n:Int):DU g c e i1 n=true:=by
 have hl:=fun a0 a1 a2 a3 a4 b0 b1 b2 b3 b4 d0 d1 d2 d3 d4 l n=>Aq (g:=g) h (a0:=a0) (a1:=a1) (a2:=a2) (a3:=a3) (a4:=a4) (b0:=b0) (b1:=b1) (b2:=b2) (b3:=b3) (b4:=b4) (d0:=d0) (d1:=d1) (d2:=d2) (d3:=d3) (d4:=d4) l 0 n [] (by simp)
 unfold DU
 repeat' split
 all_goals first
  | exact hl _ _ _ _ _ _ _ _ _ _ _ _ _ _ _ _ _
  | (exfalso; simp only [zZ,aM,not_and] at *; omega)

theorem wg:∀ (N:Nat) (e:ze) (d n:Int),0≤d→d < N→N≤100→p9 N e d n=true
 | 0,_,_,_,h1,h2,_=>by omega
 | N+1,e,d,n,h1,h2,h3=>by
  rw [p9]
  refine FU (fun x m hd=>?_) e n
  rw [lY _ (by omega) (by omega)]
  exact wg N x (d - 1) m (by omega) (by omega) (by omega)

theorem wA {g:ze→Int→Int→Bool×Int} {c:ze→Int→Int→Bool} {d:Int} (h:∀ x n,c x (IntKind.i64.wrap (d+1)) n=true):∀ (l:List ze) (n:Int),wz g c d l n=true
 | [],_=>rfl
 | x::r,n=>by
  rw [wz,if_pos (h x n)]
  split
  ·rfl
  ·exact wA h r _

theorem wy:∀ (N:Nat) (e:ze) (d n:Int),0≤d→d≤13→14≤d+N→qh N e d n=true
 | 0,_,_,_,_,_,_=>by omega
 | N+1,e,d,n,h1,h2,h3=>by
  rw [qh]
  unfold HZ
  by_cases hd:d > 12
  ·simp [hd]
  ·have hl:wz (qj N) (qh N) d e.l (IntKind.i64.wrap (n+1))=true:=wA (fun x m=>by
    rw [lY _ (by omega) (by omega)]
    exact wy N x (d+1) m (by omega) (by omega) (by omega)) _ _
   repeat' split
   all_goals first | rfl | exact hl

abbrev ziy:ze:=.mk [] (0,0,[]) [] []

theorem GU (N:Nat) (e:ze):lR (N+1) e ziy=true:=by
 rw [lR]
 unfold Cu
 have hl:An (tc N) (lR N) e.l []=true:=by
  unfold An
  split
  ·rfl
  ·cases e.l <;> rfl
 show (bif e.op==[] then bif eqV e.v (0,0,[]) then bif e.s==[] then An (tc N) (lR N) e.l [] else true else true else true)=true
 rw [hl]
 cases e.op==[] <;> cases eqV e.v (0,0,[]) <;> cases e.s==[] <;> rfl

theorem lJ {α:Type} (p:α→Bool):∀ (l:List α) (i:Nat),zL p l i=-1∨((i:Int)≤zL p l i∧zL p l i < i+l.length)
 | [],_=>.inl rfl
 | x::r,i=>by
  unfold zL
  split
  ·exact .inr ⟨by omega,by simp; omega⟩
  ·rcases lJ p r (i+1) with h | ⟨h1,h2⟩
   ·exact .inl h
   ·exact .inr ⟨by omega,by simp; omega⟩

theorem ly (l:List (Sem zi)) (s:zp):zM l s=-1∨(0≤zM l s∧zM l s < l.length):=by
 have:=lJ (fun c:Sem zi=>c.1==s) l 0
 unfold zM
 simpa using this

theorem m8 (op:zp):(dH op=0∧(op=[108,105,116]∨op=[99,111,108]))∨(dH op=1∧(op=[110,111,116]∨op=[110,117,108,108]))∨
  (dH op=2∧(op=[97,110,100]∨op=[111,114]∨op=[61]∨op=[60]∨op=[43]∨op=[45]))∨dH op=-1:=by
 unfold dH Il
 simp only [YJ]
 repeat' split
 all_goals simp_all

theorem rQ {g:ze→Int→Int→Bool×Int} {e:ze} {d n:Int} (h:(Ed g e d n).1=true):(e.l.length:Int)=dH e.op∧
  ((e.op=[108,105,116]∨e.op=[99,111,108])∨(yi g d e.l (IntKind.i64.wrap (n+1))).1=true):=by
 unfold Ed at h
 split at h
 ·cases h
 ·rename_i h1
  have hl:(e.l.length:Int)=dH e.op:=by
   cases h2:decide (d > 12) <;> cases h3:decide (IntKind.i64.wrap (n+1) > 60) <;> simp_all
  refine ⟨hl,?_⟩
  split at h
  ·rename_i h2; exact .inl (.inl (by simpa using h2))
  ·split at h
   ·rename_i h2; exact .inl (.inr (by simpa using h2))
   ·split at h
    ·cases h
    ·exact .inr h

theorem qi {g:ze→Int→Int→Bool×Int} {d:Int}:∀ (l:List ze) (n:Int),(yi g d l n).1=true→∀ x∈l,∃ m,(g x (IntKind.i64.wrap (d+1)) m).1=true
 | [],_,_,_,hx=>by simp at hx
 | y::r,n,h,x,hx=>by
  rw [yi] at h
  split at h
  ·cases h
  ·rename_i hy
   rcases c9.1 hx with rfl | hx
   ·exact ⟨n,by simpa using hy⟩
   ·exact qi r _ h x hx

theorem tr {g:ze→List (Sem zi)→Int×Int} {c:ze→List (Sem zi)→Bool} {cols:List (Sem zi)} {op:zp} {a1 a2:Int} {a3 a4:zp} {w:List ze}:
    ∀ (l:List ze) (i:Int) (acc:List Int),(∀ x∈l,c x cols=true)→((acc.length:Int)+l.length)=dH op→eZ g c cols op a1 a2 a3 a4 w l i acc=true
  | [], i,acc,_,hp=>by
    have hp:(acc.length:Int)=dH op:=by simpa using hp
    have hcp:decide (zM cols a4 < 0)=true∨zI (zM cols a4) cols.length=true:=by
      rcases ly cols a4 with h | ⟨h1,h2⟩
      · exact .inl (by rw [h]; rfl)
      · exact .inr (by simp [zI,h1,h2])
    have h2:op=[61]∨op=[60]→acc.length=2:=by
      rintro (rfl | rfl)
      · have:dH [61]=2:=by decide
        omega
      · have:dH [60]=2:=by decide
        omega
    unfold eZ
    repeat' split
    all_goals first
      | rfl
      | (exfalso; rcases hcp with h | h <;> simp_all; done)
      | (exfalso
         rename_i h7 h8
         have h9:=h2 (by simp_all)
         rw [h9] at h8
         exact h8 (by cases hA:(acc.getD (toNat 0) (zj zg)==acc.getD (toNat 1) (zj zg)) <;> cases hB:(acc.getD (toNat 0) (zj zg)==0) <;> rfl))
  | x :: r,i,acc,hc,hp=>by
    have hle:dH op≤2:=by rcases m8 op with h | h | h | h <;> omega
    rw [eZ,if_pos (hc x (by simp))]
    split
    · rfl
    · rw [if_pos (by simp at hp ⊢; omega)]
      exact tr r (i+1) _ (fun y hy=>hc y (by simp [hy])) (by simp at hp ⊢; omega)

theorem qS:∀ (N:Nat) (e:ze) (d n:Int) (cols:List (Sem zi)),(qj N e d n).1=true→jf N e cols=true
 | 0,_,_,_,_,h=>by cases h
 | N+1,e,d,n,cols,h=>by
  rw [qj] at h
  obtain ⟨hl,h2⟩:=rQ h
  rw [jf]
  unfold uk
  refine tr e.l 0 [] (fun x hx=>?_) (by simpa using hl)
  rcases h2 with h2 | h2
  ·exfalso
   have:dH e.op=0:=by
    rcases h2 with h2 | h2 <;> rw [h2] <;> decide
   rw [this] at hl
   have:e.l=[]:=C7 (by omega)
   rw [this] at hx; simp at hx
  ·obtain ⟨m,hm⟩:=qi e.l _ h2 x hx
   exact qS N x _ _ cols hm

theorem xO:∀ (N:Nat) (e:ze) (d n:Int) (cols:List (Sem zi)) (row:List (Sem zf)),(qj N e d n).1=true→qT N cols row e=true
 | 0,_,_,_,_,_,h=>by cases h
 | N + 1,.mk op v s l,d,n,cols,row,h=>by
  rw [qj] at h
  obtain ⟨hl,h2⟩:=rQ h
  have hl:(l.length:Int)=dH op:=hl
  have h2:(op=[108,105,116]∨op=[99,111,108])∨(yi (qj N) d l (IntKind.i64.wrap (n+1))).1=true:=h2
  have hx:∀ x∈l,(¬ (op=[108,105,116]∨op=[99,111,108]))→qT N cols row x=true:=by
   intro x hx hno
   rcases h2 with h2 | h2
   ·exact (hno h2).elim
   ·obtain ⟨m,hm⟩:=qi l _ h2 x hx
    exact xO N x _ _ cols row hm
  have hcol:(if (bif decide (zM cols s < 0) then true else decide (zM cols s ≥ (↑row.length:Int)))=true then true else zI (zM cols s) row.length)=true:=by
   split
   ·rfl
   ·rename_i hh
    have h1:0≤zM cols s∧zM cols s < row.length:=by
     cases hq:decide (zM cols s < 0)
     ·rw [hq] at hh
      simp at hq hh
      exact ⟨hq,hh⟩
     ·rw [hq] at hh; simp at hh
    simp [zI,h1.1,h1.2]
  rw [qT]
  rcases m8 op with ⟨hp,ho⟩ | ⟨hp,ho⟩ | ⟨hp,ho⟩ | hp
  ·have:l=[]:=C7 (by omega)
   subst this
   rcases ho with rfl | rfl
   ·rfl
   ·rw [qU]; exact hcol
  ·match l,hl,hx with
   | [a],_,hx=>
    rcases ho with rfl | rfl
    ·rw [qU]; exact (if_pos (hx a (by simp) (by decide))).trans rfl
    ·rw [qU]; exact (if_pos (hx a (by simp) (by decide))).trans rfl
   | [],hl,_=>simp at hl; omega
   | _::_::_,hl,_=>simp at hl; omega
  ·match l,hl,hx with
   | [a,b],_,hx=>
    rcases ho with rfl | rfl | rfl | rfl | rfl | rfl <;>
     (rw [qU]; exact (if_pos (hx a (by simp) (by decide))).trans ((if_pos (hx b (by simp) (by decide))).trans rfl))
   | [],hl,_=>simp at hl; omega
   | [_],hl,_=>simp at hl; omega
   | _::_::_::_,hl,_=>simp at hl; omega
  ·omega

theorem o7 (e:ze):sK e=true:=by
 unfold sK
 rw [if_pos (wy 16 e 1 0 (by omega) (by omega) (by omega))]
theorem Fu (e:ze):Hx e=true:=by
 unfold Hx
 rw [if_pos (wg 16 e 14 80 (by omega) (by omega) (by omega))]
theorem Dv (e:ze) (cols:List (Sem zi)):Bw e cols=true:=by
 unfold Bw
 rw [if_pos (o7 e)]
 split
 ·rfl
 ·rename_i h
  rw [if_pos (qS 16 e 1 0 cols (by simpa [kf] using h))]
theorem Du (e:ze) (cols:List (Sem zi)) (row:List (Sem zf)):Bv e cols row=true:=by
 unfold Bv
 rw [if_pos (o7 e)]
 split
 ·rfl
 ·rename_i h
  rw [if_pos (by decide),if_pos (xO 16 e 1 0 cols row (by simpa [kf] using h))]

def ZP:zF:=ay [Sh.expr] [Sh.bool] fun x=>(kf x.1,())
theorem UT:FK 85 ZP:=eR SC fun x=>o7 x.1
def F7t:zF:=ay [Sh.expr] [Sh.expr] fun x=>(dY x.1,())
theorem zbC:FK 27 F7t:=eR zbv fun x=>Fu x.1
def ZT:zF:=ay [Sh.expr,zi.sl] [zg,zg] fun x=>((bn x.1 x.2.1).1,(bn x.1 x.2.1).2,())
theorem UZ:FK 83 ZT:=eR SD fun x=>Dv x.1 x.2.1
def Zj:zF:=ay [Sh.expr,zi.sl,zf.sl] [zf] fun x=>(il x.1 x.2.1 x.2.2.1,())
theorem Un:FK 48 Zj:=eR Sx fun x=>Du x.1 x.2.1 x.2.2.1

noncomputable def mh:=SW.addL [(85,ZP),(27,F7t),(83,ZT),(48,Zj)]
theorem gL:zl mh:=Js.addL <| fc UT <| fc zbC <| fc UZ <| fc Un jn

abbrev zic:Nat→aj:=fun _=>{ }
theorem zeB:zA (mh).P 75 Tryz.f75 2:=aS (by kernel_rfl)
theorem zg0 (x0:Sem Sh.expr) (x1:Sem zi.sl):rn mh 0 zic Tryz.f75 [zz Sh.expr x0,zz zi.sl x1] []=Tr.chk (lR 16 (zE x0) (ze.mk [] (0,0,[]) [] [])) (Tr.br (tc 16 (zE x0) (ze.mk [] (0,0,[]) [] [])) (Tr.ok (zt.ret (ai 0) [])) (Tr.br (bif (bn (zE x0) x1).2==0 then bif (bn (zE x0) x1).1 != 3 then (bn (zE x0) x1).1 != 0 else false else false) (Tr.ok (zt.ret (ai 5) [])) (Tr.ok (zt.ret (ai (bn (zE x0) x1).2) [])))):=by kernel_rfl
def fI (x0:Sem Sh.expr) (x1:Sem zi.sl):Sem zg:=(if tc 16 x0 (ze.mk [] (0,0,[]) [] [])=true then 0 else if (bif (bn x0 x1).2==0 then bif (bn x0 x1).1 != 3 then (bn x0 x1).1 != 0 else false else false)=true then 5 else (bn x0 x1).2)
def ue (x0:Sem Sh.expr) (_:Sem zi.sl):Bool:=(if lR 16 x0 (ze.mk [] (0,0,[]) [] [])=true then true else false)
def F19:zF:=zG [Sh.expr,zi.sl] [zg] (fun x=>ue x.1 x.2.1) fun x=>(fI x.1 x.2.1,())
theorem SB:FK 75 F19:=by
 refine zR (zeB) fun x hc C hC=>?_
 unfold ue at hc
 refine zk gL (zeB) (fun id _=>hC id) (zg0 x.1 x.2.1) ?_
 generalize hy:fI x.1 x.2.1=y
 unfold fI at hy
 try simp only [ze.eta]
 repeat' (first | with_reducible refine fe hy hc (fun _ hy hc=>?_) (fun _ hy hc=>?_) | with_reducible refine bd hy (fun _ hy=>?_) (fun _ hy=>?_) | with_reducible refine bz hc (fun hc=>?_) | with_reducible refine zr ?_)
 all_goals (subst hy; first | rfl)

abbrev kp5:Nat→aj:=fun j=>if j=3 then { slots:=[1,2,3,4],prom:=[(3,some 3,zg)] } else if j=7 then { slots:=[1,2,3,5],prom:=[(3,some 4,zq)] } else { }
abbrev Oo (i4:Int) (ja0:TS) (ja1:LC) (ja2:Sem zg) (ja3:LI) (ja4:LF) (ja5:zp) (ja6:Int) (ja7:Int) (ja8:zp) (ja9:zp) (ja10:LX) (jb0:List UInt8) (jb2:Int) (jb5:List UInt8) (jb6:Int) (jb7:Int) (jb8:List UInt8) (jb9:List UInt8) (jc0:TS) (jc1:LC) (jc2:Sem zg) (jc5:zp) (jc6:Int) (jc7:Int) (jc8:zp) (jc9:zp) (jc10:LX) (lh_3:LI):St:={ tmps:=(tm 70 [(1,AV.ptr 0 0),(2,AV.ptr 1 0),(3,AV.ptr 2 0),(4,ai i4)]),heap:=[AO.box [AV.str ja0,AV.sl zi ja1,ai ja2,AV.sl zg ja3,AV.sl zq ja4,AV.str ja5,ai ja6,ai ja7,AV.str ja8,AV.str ja9,AV.sl Sh.expr ja10],AO.box [AV.str jb0,AV.nils,ai jb2,AV.nils,AV.nils,AV.str jb5,ai jb6,ai jb7,AV.str jb8,AV.str jb9,AV.nils],AO.box [AV.str jc0,AV.sl zi jc1,ai jc2,AV.vec 3,AV.nils,AV.str jc5,ai jc6,ai jc7,AV.str jc8,AV.str jc9,AV.sl Sh.expr jc10],AO.vec zg lh_3] }
theorem YY:zA (mh).P 63 Tryz.f63 1:=aS (by kernel_rfl)
theorem go5 (x0:Sem zw):rn mh 0 kp5 Tryz.f63 [zz zw x0] []=Tr.ok (zt.head 3 (zy Tryz.f63 3) (Oo 0 x0.1 x0.2.1 x0.2.2.1 x0.2.2.2.1 x0.2.2.2.2.1 (ze.op x0.2.2.2.2.2) (ze.v x0.2.2.2.2.2).1 (ze.v x0.2.2.2.2.2).2.1 (ze.v x0.2.2.2.2.2).2.2 (ze.s x0.2.2.2.2.2) (ze.l x0.2.2.2.2.2) [] 0 [] 0 0 [] [] (xr x0.1) (mY x0.2.1) x0.2.2.1 (ze.op (dY (zE x0.2.2.2.2.2))) (ze.v (dY (zE x0.2.2.2.2.2))).1 (ze.v (dY (zE x0.2.2.2.2.2))).2.1 (ze.v (dY (zE x0.2.2.2.2.2))).2.2 (ze.s (dY (zE x0.2.2.2.2.2))) (ze.l (dY (zE x0.2.2.2.2.2))) [])):=by kernel_rfl
abbrev Oq (i5:Int) (ja0:TS) (ja1:LC) (ja2:Sem zg) (ja3:LI) (ja4:LF) (ja5:zp) (ja6:Int) (ja7:Int) (ja8:zp) (ja9:zp) (ja10:LX) (jb0:List UInt8) (jb2:Int) (jb5:List UInt8) (jb6:Int) (jb7:Int) (jb8:List UInt8) (jb9:List UInt8) (jc0:TS) (jc1:LC) (jc2:Sem zg) (jc5:zp) (jc6:Int) (jc7:Int) (jc8:zp) (jc9:zp) (jc10:LX) (lh_3:LI) (lh_4:LF):St:={ tmps:=(tm 70 [(1,AV.ptr 0 0),(2,AV.ptr 1 0),(3,AV.ptr 2 0),(5,ai i5)]),heap:=[AO.box [AV.str ja0,AV.sl zi ja1,ai ja2,AV.sl zg ja3,AV.sl zq ja4,AV.str ja5,ai ja6,ai ja7,AV.str ja8,AV.str ja9,AV.sl Sh.expr ja10],AO.box [AV.str jb0,AV.nils,ai jb2,AV.nils,AV.nils,AV.str jb5,ai jb6,ai jb7,AV.str jb8,AV.str jb9,AV.nils],AO.box [AV.str jc0,AV.sl zi jc1,ai jc2,AV.vec 3,AV.vec 4,AV.str jc5,ai jc6,ai jc7,AV.str jc8,AV.str jc9,AV.sl Sh.expr jc10],AO.vec zg lh_3,AO.vec zq lh_4] }
theorem TM (i4:Int) (ja0:TS) (ja1:LC) (ja2:Sem zg) (ja3:LI) (ja4:LF) (ja5:zp) (ja6:Int) (ja7:Int) (ja8:zp) (ja9:zp) (ja10:LX) (jb0:List UInt8) (jb2:Int) (jb5:List UInt8) (jb6:Int) (jb7:Int) (jb8:List UInt8) (jb9:List UInt8) (jc0:TS) (jc1:LC) (jc2:Sem zg) (jc5:zp) (jc6:Int) (jc7:Int) (jc8:zp) (jc9:zp) (jc10:LX) (lh_3:LI):rh mh 0 kp5 Tryz.f63 3 (Oo i4 ja0 ja1 ja2 ja3 ja4 ja5 ja6 ja7 ja8 ja9 ja10 jb0 jb2 jb5 jb6 jb7 jb8 jb9 jc0 jc1 jc2 jc5 jc6 jc7 jc8 jc9 jc10 lh_3)=Tr.br (bif decide (i4 < (↑ja3.length:Int)) then decide (i4 < 10) else false) (Tr.chk (zI i4 ja3.length) (Tr.chk (decide (lh_3.length+[ja3.getD i4.toNat (zj zg)].length≤1073741824)) (Tr.ok (zt.head 3 (zy Tryz.f63 3) (Oo (IntKind.i64.wrap (i4+1)) ja0 ja1 ja2 ja3 ja4 ja5 ja6 ja7 ja8 ja9 ja10 jb0 jb2 jb5 jb6 jb7 jb8 jb9 jc0 jc1 jc2 jc5 jc6 jc7 jc8 jc9 jc10 (lh_3++[ja3.getD i4.toNat (zj zg)])))))) (Tr.ok (zt.head 7 (zy Tryz.f63 7) (Oq 0 ja0 ja1 ja2 ja3 ja4 ja5 ja6 ja7 ja8 ja9 ja10 jb0 jb2 jb5 jb6 jb7 jb8 jb9 jc0 jc1 jc2 jc5 jc6 jc7 jc8 jc9 jc10 lh_3 []))):=by kernel_rfl
theorem TN (i5:Int) (ja0:TS) (ja1:LC) (ja2:Sem zg) (ja3:LI) (ja4:LF) (ja5:zp) (ja6:Int) (ja7:Int) (ja8:zp) (ja9:zp) (ja10:LX) (jb0:List UInt8) (jb2:Int) (jb5:List UInt8) (jb6:Int) (jb7:Int) (jb8:List UInt8) (jb9:List UInt8) (jc0:TS) (jc1:LC) (jc2:Sem zg) (jc5:zp) (jc6:Int) (jc7:Int) (jc8:zp) (jc9:zp) (jc10:LX) (lh_3:LI) (lh_4:LF):rh mh 0 kp5 Tryz.f63 7 (Oq i5 ja0 ja1 ja2 ja3 ja4 ja5 ja6 ja7 ja8 ja9 ja10 jb0 jb2 jb5 jb6 jb7 jb8 jb9 jc0 jc1 jc2 jc5 jc6 jc7 jc8 jc9 jc10 lh_3 lh_4)=Tr.br (bif decide (i5 < (↑ja4.length:Int)) then decide (i5 < 10) else false) (Tr.chk (zI i5 ja4.length) (Tr.chk (zI i5 ja4.length) (Tr.chk (decide (lh_4.length+[((ja4.getD i5.toNat (zj zq)).1,xr (ja4.getD i5.toNat (zj zq)).2)].length≤1073741824)) (Tr.ok (zt.head 7 (zy Tryz.f63 7) (Oq (IntKind.i64.wrap (i5+1)) ja0 ja1 ja2 ja3 ja4 ja5 ja6 ja7 ja8 ja9 ja10 jb0 jb2 jb5 jb6 jb7 jb8 jb9 jc0 jc1 jc2 jc5 jc6 jc7 jc8 jc9 jc10 lh_3 (lh_4++[((ja4.getD i5.toNat (zj zq)).1,xr (ja4.getD i5.toNat (zj zq)).2)]))))))) (Tr.ok (zt.ret (AV.agg [AV.str jc0,AV.sl zi jc1,ai jc2,AV.vec 0,AV.vec 1,AV.str jc5,ai jc6,ai jc7,AV.str jc8,AV.str jc9,AV.sl Sh.expr jc10])
 [AO.vec zg lh_3,AO.vec zq lh_4])):=by kernel_rfl
def gk (ja0:TS) (ja1:LC) (ja2:Sem zg) (ja3:LI) (ja5:zp) (ja6:Int) (ja7:Int) (ja8:zp) (ja9:zp) (ja10:LX) (jb0:List UInt8) (jb2:Int) (jb5:List UInt8) (jb6:Int) (jb7:Int) (jb8:List UInt8) (jb9:List UInt8) (jc0:TS) (jc1:LC) (jc2:Sem zg) (jc5:zp) (jc6:Int) (jc7:Int) (jc8:zp) (jc9:zp) (jc10:LX) (lh_3:LI):List (Sem zq)→Int→List (Sem zq)→Sem zw
 | [],_,lh_4=>((jc0,jc1,jc2,lh_3,lh_4,ze.mk jc5 (jc6,jc7,jc8) jc9 jc10))
 | x::r,i5,lh_4=>(if decide (i5 < 10)=true then
 gk ja0 ja1 ja2 ja3 ja5 ja6 ja7 ja8 ja9 ja10 jb0 jb2 jb5 jb6 jb7 jb8 jb9 jc0 jc1 jc2 jc5
  jc6 jc7 jc8 jc9 jc10 lh_3 r (i5+1) (lh_4++[(x.1,xr x.2)])
else (jc0,jc1,jc2,lh_3,lh_4,ze.mk jc5 (jc6,jc7,jc8) jc9 jc10))
def jd (ja0:TS) (ja1:LC) (ja2:Sem zg) (ja3:LI) (ja5:zp) (ja6:Int) (ja7:Int) (ja8:zp) (ja9:zp) (ja10:LX) (jb0:List UInt8) (jb2:Int) (jb5:List UInt8) (jb6:Int) (jb7:Int) (jb8:List UInt8) (jb9:List UInt8) (jc0:TS) (jc1:LC) (jc2:Sem zg) (jc5:zp) (jc6:Int) (jc7:Int) (jc8:zp) (jc9:zp) (jc10:LX) (lh_3:LI):List (Sem zq)→Int→List (Sem zq)→Bool
 | [],_,_=>(true)
 | x::r,i5,lh_4=>(if decide (i5 < 10)=true then
 if decide (lh_4.length+[(x.1,xr x.2)].length≤1073741824)=true then
  jd ja0 ja1 ja2 ja3 ja5 ja6 ja7 ja8 ja9 ja10 jb0 jb2 jb5 jb6 jb7 jb8 jb9 jc0 jc1 jc2 jc5
   jc6 jc7 jc8 jc9 jc10 lh_3 r (i5+1) (lh_4++[(x.1,xr x.2)])
 else false
else true)
theorem zco {C:cI} (hC:∀ id,C.ρ0 id=none) (ja0:TS) (ja1:LC) (ja2:Sem zg) (ja3:LI) (ja5:zp) (ja6:Int) (ja7:Int) (ja8:zp) (ja9:zp) (ja10:LX) (jb0:List UInt8) (jb2:Int) (jb5:List UInt8) (jb6:Int) (jb7:Int) (jb8:List UInt8) (jb9:List UInt8) (jc0:TS) (jc1:LC) (jc2:Sem zg) (jc5:zp) (jc6:Int) (jc7:Int) (jc8:zp) (jc9:zp) (jc10:LX) (lh_3:LI) (ja4:LF) (hl:ja4.length≤zB):∀ (m i:Nat) (lh_4:LF),ja4.length - i=m→i≤ja4.length→jd ja0 ja1 ja2 ja3 ja5 ja6 ja7 ja8 ja9 ja10 jb0 jb2 jb5 jb6 jb7 jb8 jb9 jc0 jc1 jc2 jc5 jc6 jc7 jc8 jc9 jc10 lh_3 (ja4.drop i) i lh_4=true→
  Reach (mh) C 63 (zy Tryz.f63 7) (Oq (i:Int) ja0 ja1 ja2 ja3 ja4 ja5 ja6 ja7 ja8 ja9 ja10 jb0 jb2 jb5 jb6 jb7 jb8 jb9 jc0 jc1 jc2 jc5 jc6 jc7 jc8 jc9 jc10 lh_3 lh_4) (fun r h=>ah h [zw] r=some (gk ja0 ja1 ja2 ja3 ja5 ja6 ja7 ja8 ja9 ja10 jb0 jb2 jb5 jb6 jb7 jb8 jb9 jc0 jc1 jc2 jc5 jc6 jc7 jc8 jc9 jc10 lh_3 (ja4.drop i) i lh_4,())):=by
 intro m
 induction m with
 | zero=>
  intro i lh_4 hm hi hc
  obtain rfl:i=ja4.length:=by omega
  rw [cL] at hc ⊢
  refine zk gL (YY) (fun id _=>hC id) (TN _ _ _ _ _ _ _ _ _ _ _ _ _ _ _ _ _ _ _ _ _ _ _ _ _ _ _ _ _ _) ?_
  rw [jd] at hc
  generalize hy:gk ja0 ja1 ja2 ja3 ja5 ja6 ja7 ja8 ja9 ja10 jb0 jb2 jb5 jb6 jb7 jb8 jb9 jc0 jc1 jc2 jc5 jc6 jc7 jc8 jc9 jc10 lh_3 [] _ lh_4=y
  rw [gk] at hy
  simp only [zY,bb,Tr.val_brF]
  repeat' (first | with_reducible refine fe hy hc (fun _ hy hc=>?_) (fun _ hy hc=>?_) | with_reducible refine bd hy (fun _ hy=>?_) (fun _ hy=>?_) | with_reducible refine bz hc (fun hc=>?_) | with_reducible refine zr ?_)
  all_goals (subst hy; first | (change Reach _ _ _ _ _ _; apply Fb hC <;> first | assumption | exact hc) | rfl)
 | succ m IH=>
  intro i lh_4 hm hi hc
  have hlt:i < ja4.length:=by omega
  have IH:=IH (i+1)
  have hcast:((i:Int)+1)=((i+1:Nat):Int):=by omega
  have hwr:=zD i (by omega)
  rw [cX hlt] at hc ⊢
  refine zk gL (YY) (fun id _=>hC id) (TN _ _ _ _ _ _ _ _ _ _ _ _ _ _ _ _ _ _ _ _ _ _ _ _ _ _ _ _ _ _) ?_
  rw [jd] at hc
  generalize hy:gk ja0 ja1 ja2 ja3 ja5 ja6 ja7 ja8 ja9 ja10 jb0 jb2 jb5 jb6 jb7 jb8 jb9 jc0 jc1 jc2 jc5 jc6 jc7 jc8 jc9 jc10 lh_3 (ja4[i]::ja4.drop (i+1)) (i:Int) lh_4=y
  rw [gk] at hy
  simp only [zT hlt,zC hlt,ae ja4 _ hlt,hwr,aR]
  clear hwr
  simp only [hcast] at hy
  try simp only [hcast] at hc
  repeat' (first | with_reducible refine fe hy hc (fun _ hy hc=>?_) (fun _ hy hc=>?_) | with_reducible refine bd hy (fun _ hy=>?_) (fun _ hy=>?_) | with_reducible refine bz hc (fun hc=>?_) | with_reducible refine zr ?_)
  all_goals (subst hy; first | (change Reach _ _ _ _ _ _; apply IH <;> first | omega | assumption) | (change Reach _ _ _ _ _ _; apply Fb hC <;> first | assumption | exact hc) | rfl)
theorem Fc {C:cI} (hC:∀ id,C.ρ0 id=none) (ja0:TS) (ja1:LC) (ja2:Sem zg) (ja3:LI) (ja5:zp) (ja6:Int) (ja7:Int) (ja8:zp) (ja9:zp) (ja10:LX) (jb0:List UInt8) (jb2:Int) (jb5:List UInt8) (jb6:Int) (jb7:Int) (jb8:List UInt8) (jb9:List UInt8) (jc0:TS) (jc1:LC) (jc2:Sem zg) (jc5:zp) (jc6:Int) (jc7:Int) (jc8:zp) (jc9:zp) (jc10:LX) (lh_3:LI) (ja4:LF) (lh_4:LF) (hc:jd ja0 ja1 ja2 ja3 ja5 ja6 ja7 ja8 ja9 ja10 jb0 jb2 jb5 jb6 jb7 jb8 jb9 jc0 jc1 jc2 jc5 jc6 jc7 jc8 jc9 jc10 lh_3 ja4 0 lh_4=true):
  Reach (mh) C 63 (zy Tryz.f63 7) (Oq 0 ja0 ja1 ja2 ja3 ja4 ja5 ja6 ja7 ja8 ja9 ja10 jb0 jb2 jb5 jb6 jb7 jb8 jb9 jc0 jc1 jc2 jc5 jc6 jc7 jc8 jc9 jc10 lh_3 lh_4) (fun r h=>ah h [zw] r=some (gk ja0 ja1 ja2 ja3 ja5 ja6 ja7 ja8 ja9 ja10 jb0 jb2 jb5 jb6 jb7 jb8 jb9 jc0 jc1 jc2 jc5 jc6 jc7 jc8 jc9 jc10 lh_3 ja4 0 lh_4,())):=
 Reach.lenB 0 4 (zg.pr Sh.str) ja4 rfl rfl fun hl=>zco hC ja0 ja1 ja2 ja3 ja5 ja6 ja7 ja8 ja9 ja10 jb0 jb2 jb5 jb6 jb7 jb8 jb9 jc0 jc1 jc2 jc5 jc6 jc7 jc8 jc9 jc10 lh_3 ja4 hl _ 0 lh_4 rfl (aV _) hc
def fK (ja0:TS) (ja1:LC) (ja2:Sem zg) (ja4:LF) (ja5:zp) (ja6:Int) (ja7:Int) (ja8:zp) (ja9:zp) (ja10:LX) (jb0:List UInt8) (jb2:Int) (jb5:List UInt8) (jb6:Int) (jb7:Int) (jb8:List UInt8) (jb9:List UInt8) (jc0:TS) (jc1:LC) (jc2:Sem zg) (jc5:zp) (jc6:Int) (jc7:Int) (jc8:zp) (jc9:zp) (jc10:LX) (ja3:LI):List (Sem zg)→Int→List (Sem zg)→Sem zw
 | [],_,lh_3=>(gk ja0 ja1 ja2 ja3 ja5 ja6 ja7 ja8 ja9 ja10 jb0 jb2 jb5 jb6 jb7 jb8 jb9 jc0 jc1 jc2 jc5
 jc6 jc7 jc8 jc9 jc10 lh_3 ja4 0 [])
 | x::r,i4,lh_3=>(if decide (i4 < 10)=true then
 fK ja0 ja1 ja2 ja4 ja5 ja6 ja7 ja8 ja9 ja10 jb0 jb2 jb5 jb6 jb7 jb8 jb9 jc0 jc1 jc2 jc5
  jc6 jc7 jc8 jc9 jc10 ja3 r (i4+1) (lh_3++[x])
else
 gk ja0 ja1 ja2 ja3 ja5 ja6 ja7 ja8 ja9 ja10 jb0 jb2 jb5 jb6 jb7 jb8 jb9 jc0 jc1 jc2 jc5
  jc6 jc7 jc8 jc9 jc10 lh_3 ja4 0 [])
def jc (ja0:TS) (ja1:LC) (ja2:Sem zg) (ja4:LF) (ja5:zp) (ja6:Int) (ja7:Int) (ja8:zp) (ja9:zp) (ja10:LX) (jb0:List UInt8) (jb2:Int) (jb5:List UInt8) (jb6:Int) (jb7:Int) (jb8:List UInt8) (jb9:List UInt8) (jc0:TS) (jc1:LC) (jc2:Sem zg) (jc5:zp) (jc6:Int) (jc7:Int) (jc8:zp) (jc9:zp) (jc10:LX) (ja3:LI):List (Sem zg)→Int→List (Sem zg)→Bool
 | [],_,lh_3=>(jd ja0 ja1 ja2 ja3 ja5 ja6 ja7 ja8 ja9 ja10 jb0 jb2 jb5 jb6 jb7 jb8 jb9 jc0 jc1 jc2 jc5
 jc6 jc7 jc8 jc9 jc10 lh_3 ja4 0 [])
 | x::r,i4,lh_3=>(if decide (i4 < 10)=true then
 if decide (lh_3.length+[x].length≤1073741824)=true then
  jc ja0 ja1 ja2 ja4 ja5 ja6 ja7 ja8 ja9 ja10 jb0 jb2 jb5 jb6 jb7 jb8 jb9 jc0 jc1 jc2 jc5
   jc6 jc7 jc8 jc9 jc10 ja3 r (i4+1) (lh_3++[x])
 else false
else
 jd ja0 ja1 ja2 ja3 ja5 ja6 ja7 ja8 ja9 ja10 jb0 jb2 jb5 jb6 jb7 jb8 jb9 jc0 jc1 jc2 jc5
  jc6 jc7 jc8 jc9 jc10 lh_3 ja4 0 [])
theorem zcn {C:cI} (hC:∀ id,C.ρ0 id=none) (ja0:TS) (ja1:LC) (ja2:Sem zg) (ja4:LF) (ja5:zp) (ja6:Int) (ja7:Int) (ja8:zp) (ja9:zp) (ja10:LX) (jb0:List UInt8) (jb2:Int) (jb5:List UInt8) (jb6:Int) (jb7:Int) (jb8:List UInt8) (jb9:List UInt8) (jc0:TS) (jc1:LC) (jc2:Sem zg) (jc5:zp) (jc6:Int) (jc7:Int) (jc8:zp) (jc9:zp) (jc10:LX) (ja3:LI) (hl:ja3.length≤zB):∀ (m i:Nat) (lh_3:LI),ja3.length - i=m→i≤ja3.length→jc ja0 ja1 ja2 ja4 ja5 ja6 ja7 ja8 ja9 ja10 jb0 jb2 jb5 jb6 jb7 jb8 jb9 jc0 jc1 jc2 jc5 jc6 jc7 jc8 jc9 jc10 ja3 (ja3.drop i) i lh_3=true→
  Reach (mh) C 63 (zy Tryz.f63 3) (Oo (i:Int) ja0 ja1 ja2 ja3 ja4 ja5 ja6 ja7 ja8 ja9 ja10 jb0 jb2 jb5 jb6 jb7 jb8 jb9 jc0 jc1 jc2 jc5 jc6 jc7 jc8 jc9 jc10 lh_3) (fun r h=>ah h [zw] r=some (fK ja0 ja1 ja2 ja4 ja5 ja6 ja7 ja8 ja9 ja10 jb0 jb2 jb5 jb6 jb7 jb8 jb9 jc0 jc1 jc2 jc5 jc6 jc7 jc8 jc9 jc10 ja3 (ja3.drop i) i lh_3,())):=by
 intro m
 induction m with
 | zero=>
  intro i lh_3 hm hi hc
  obtain rfl:i=ja3.length:=by omega
  rw [cL] at hc ⊢
  refine zk gL (YY) (fun id _=>hC id) (TM _ _ _ _ _ _ _ _ _ _ _ _ _ _ _ _ _ _ _ _ _ _ _ _ _ _ _ _ _) ?_
  rw [jc] at hc
  generalize hy:fK ja0 ja1 ja2 ja4 ja5 ja6 ja7 ja8 ja9 ja10 jb0 jb2 jb5 jb6 jb7 jb8 jb9 jc0 jc1 jc2 jc5 jc6 jc7 jc8 jc9 jc10 ja3 [] _ lh_3=y
  rw [fK] at hy
  simp only [zY,bb,Tr.val_brF]
  repeat' (first | with_reducible refine fe hy hc (fun _ hy hc=>?_) (fun _ hy hc=>?_) | with_reducible refine bd hy (fun _ hy=>?_) (fun _ hy=>?_) | with_reducible refine bz hc (fun hc=>?_) | with_reducible refine zr ?_)
  all_goals (subst hy; first | (change Reach _ _ _ _ _ _; apply Fc hC <;> first | assumption | exact hc) | rfl)
 | succ m IH=>
  intro i lh_3 hm hi hc
  have hlt:i < ja3.length:=by omega
  have IH:=IH (i+1)
  have hcast:((i:Int)+1)=((i+1:Nat):Int):=by omega
  have hwr:=zD i (by omega)
  rw [cX hlt] at hc ⊢
  refine zk gL (YY) (fun id _=>hC id) (TM _ _ _ _ _ _ _ _ _ _ _ _ _ _ _ _ _ _ _ _ _ _ _ _ _ _ _ _ _) ?_
  rw [jc] at hc
  generalize hy:fK ja0 ja1 ja2 ja4 ja5 ja6 ja7 ja8 ja9 ja10 jb0 jb2 jb5 jb6 jb7 jb8 jb9 jc0 jc1 jc2 jc5 jc6 jc7 jc8 jc9 jc10 ja3 (ja3[i]::ja3.drop (i+1)) (i:Int) lh_3=y
  rw [fK] at hy
  simp only [zT hlt,zC hlt,ae ja3 _ hlt,hwr,aR]
  clear hwr
  simp only [hcast] at hy
  try simp only [hcast] at hc
  repeat' (first | with_reducible refine fe hy hc (fun _ hy hc=>?_) (fun _ hy hc=>?_) | with_reducible refine bd hy (fun _ hy=>?_) (fun _ hy=>?_) | with_reducible refine bz hc (fun hc=>?_) | with_reducible refine zr ?_)
  all_goals (subst hy; first | (change Reach _ _ _ _ _ _; apply IH <;> first | omega | assumption) | (change Reach _ _ _ _ _ _; apply Fc hC <;> first | assumption | exact hc) | rfl)
theorem Fb {C:cI} (hC:∀ id,C.ρ0 id=none) (ja0:TS) (ja1:LC) (ja2:Sem zg) (ja4:LF) (ja5:zp) (ja6:Int) (ja7:Int) (ja8:zp) (ja9:zp) (ja10:LX) (jb0:List UInt8) (jb2:Int) (jb5:List UInt8) (jb6:Int) (jb7:Int) (jb8:List UInt8) (jb9:List UInt8) (jc0:TS) (jc1:LC) (jc2:Sem zg) (jc5:zp) (jc6:Int) (jc7:Int) (jc8:zp) (jc9:zp) (jc10:LX) (ja3:LI) (lh_3:LI) (hc:jc ja0 ja1 ja2 ja4 ja5 ja6 ja7 ja8 ja9 ja10 jb0 jb2 jb5 jb6 jb7 jb8 jb9 jc0 jc1 jc2 jc5 jc6 jc7 jc8 jc9 jc10 ja3 ja3 0 lh_3=true):
  Reach (mh) C 63 (zy Tryz.f63 3) (Oo 0 ja0 ja1 ja2 ja3 ja4 ja5 ja6 ja7 ja8 ja9 ja10 jb0 jb2 jb5 jb6 jb7 jb8 jb9 jc0 jc1 jc2 jc5 jc6 jc7 jc8 jc9 jc10 lh_3) (fun r h=>ah h [zw] r=some (fK ja0 ja1 ja2 ja4 ja5 ja6 ja7 ja8 ja9 ja10 jb0 jb2 jb5 jb6 jb7 jb8 jb9 jc0 jc1 jc2 jc5 jc6 jc7 jc8 jc9 jc10 ja3 ja3 0 lh_3,())):=
 Reach.lenB 0 3 (Sh.int IntKind.i64) ja3 rfl rfl fun hl=>zcn hC ja0 ja1 ja2 ja4 ja5 ja6 ja7 ja8 ja9 ja10 jb0 jb2 jb5 jb6 jb7 jb8 jb9 jc0 jc1 jc2 jc5 jc6 jc7 jc8 jc9 jc10 ja3 hl _ 0 lh_3 rfl (aV _) hc
def ll (x0:Sem zw):Sem zw:=(fK x0.1 x0.2.1 x0.2.2.1 x0.2.2.2.2.1 (ze.op x0.2.2.2.2.2) (ze.v x0.2.2.2.2.2).1 (ze.v x0.2.2.2.2.2).2.1 (ze.v x0.2.2.2.2.2).2.2 (ze.s x0.2.2.2.2.2) (ze.l x0.2.2.2.2.2) [] 0 [] 0 0 [] [] (xr x0.1) (mY x0.2.1) x0.2.2.1 (ze.op (dY x0.2.2.2.2.2)) (ze.v (dY x0.2.2.2.2.2)).1 (ze.v (dY x0.2.2.2.2.2)).2.1 (ze.v (dY x0.2.2.2.2.2)).2.2 (ze.s (dY x0.2.2.2.2.2)) (ze.l (dY x0.2.2.2.2.2)) x0.2.2.2.1 x0.2.2.2.1 0 [])
def IP (x0:Sem zw):Bool:=(jc x0.1 x0.2.1 x0.2.2.1 x0.2.2.2.2.1 (ze.op x0.2.2.2.2.2) (ze.v x0.2.2.2.2.2).1 (ze.v x0.2.2.2.2.2).2.1 (ze.v x0.2.2.2.2.2).2.2 (ze.s x0.2.2.2.2.2) (ze.l x0.2.2.2.2.2) [] 0 [] 0 0 [] [] (xr x0.1) (mY x0.2.1) x0.2.2.1 (ze.op (dY x0.2.2.2.2.2)) (ze.v (dY x0.2.2.2.2.2)).1 (ze.v (dY x0.2.2.2.2.2)).2.1 (ze.v (dY x0.2.2.2.2.2)).2.2 (ze.s (dY x0.2.2.2.2.2)) (ze.l (dY x0.2.2.2.2.2)) x0.2.2.2.1 x0.2.2.2.1 0 [])
def F5:zF:=zG [zw] [zw] (fun x=>IP x.1) fun x=>(ll x.1,())
theorem zbc:FK 63 F5:=by
 refine zR (YY) fun x hc C hC=>?_
 unfold IP at hc
 refine zk gL (YY) (fun id _=>hC id) (go5 x.1) ?_
 generalize hy:ll x.1=y
 unfold ll at hy
 try simp only [ze.eta]
 repeat' (first | with_reducible refine fe hy hc (fun _ hy hc=>?_) (fun _ hy hc=>?_) | with_reducible refine bd hy (fun _ hy=>?_) (fun _ hy=>?_) | with_reducible refine bz hc (fun hc=>?_) | with_reducible refine zr ?_)
 all_goals (subst hy; first | (change Reach _ _ _ _ _ _; apply Fb hC <;> first | assumption | exact hc) | (change Reach _ _ _ _ _ _; apply Fc hC <;> first | assumption | exact hc) | rfl)

noncomputable def SX:=mh.addL [(75,F19),(63,F5)]
theorem Jt:zl SX:=gL.addL <| fc SB <| fc zbc jn

theorem Cp (e:ze) (cols:List (Sem zi)):ue e cols=true:=by
 unfold ue
 rw [if_pos (GU 15 e)]
theorem lU {a0 a1 a2 a3 a4 a5 a6 a7 a8 a9 b0 b1 b2 b3 b4 b5 b6 d0 d1 d2 d3 d4 d5 d6 d7 d8 d9}:∀ (l:List (Sem zq)) (i:Int) (acc:List (Sem zq)),(acc.length:Int)≤i→jd a0 a1 a2 a3 a4 a5 a6 a7 a8 a9 b0 b1 b2 b3 b4 b5 b6 d0 d1 d2 d3 d4 d5 d6 d7 d8 d9 l i acc=true
 | [],_,_,_=>rfl
 | x::r,i,acc,h=>by
  rw [jd]
  split
  ·rename_i hi
   simp only [zZ] at hi
   rw [if_pos (by simp; omega)]
   exact lU r (i+1) _ (by simp; omega)
  ·rfl
theorem qO {a0 a1 a2 a3 a4 a5 a6 a7 a8 a9 b0 b1 b2 b3 b4 b5 b6 d0 d1 d2 d3 d4 d5 d6 d7 d8 d9}:∀ (l:List (Sem zg)) (i:Int) (acc:List (Sem zg)),(acc.length:Int)≤i→jc a0 a1 a2 a3 a4 a5 a6 a7 a8 a9 b0 b1 b2 b3 b4 b5 b6 d0 d1 d2 d3 d4 d5 d6 d7 d8 d9 l i acc=true
 | [],_,_,_=>by rw [jc]; exact lU _ _ _ (by simp)
 | x::r,i,acc,h=>by
  rw [jc]
  split
  ·rename_i hi
   simp only [zZ] at hi
   rw [if_pos (by simp; omega)]
   exact qO r (i+1) _ (by simp; omega)
  ·exact lU _ _ _ (by simp)
theorem G2 (t:Sem zw):IP t=true:=by
 unfold IP
 exact qO _ _ _ (by simp)
def ZJ:zF:=ay [Sh.expr,zi.sl] [zg] fun x=>(fI x.1 x.2.1,())
theorem UN:FK 75 ZJ:=eR SB fun x=>Cp x.1 x.2.1
def F5t:zF:=ay [zw] [zw] fun x=>(ll x.1,())
theorem zbm:FK 63 F5t:=eR zbc fun x=>G2 x.1

noncomputable def kI:=SX.addL [(75,ZJ),(63,F5t)]
theorem fO:zl kI:=Jt.addL <| fc UN <| fc zbm jn

abbrev kp8:Nat→aj:=fun j=>if j=4 then { slots:=[1,27,28,29] } else if j=11 then { slots:=[1,5,59,60,61] } else if j=17 then { slots:=[1,5,71,72,73] } else { }
abbrev Ou (l27:LC) (i28:Int) (i29:Int) (ja0:TS) (ja1:LC) (ja2:Sem zg) (ja3:LI) (ja4:LF) (ja5:zp) (ja6:Int) (ja7:Int) (ja8:zp) (ja9:zp) (ja10:LX):St:={ tmps:=(tm 110 [(1,AV.ptr 0 0),(27,AV.sl zi l27),(28,ai i28),(29,ai i29)]),heap:=[AO.box [AV.str ja0,AV.sl zi ja1,ai ja2,AV.sl zg ja3,AV.sl zq ja4,AV.str ja5,ai ja6,ai ja7,AV.str ja8,AV.str ja9,AV.sl Sh.expr ja10]] }
theorem TL:zA (kI).P 55 Tryz.f55 1:=aS (by kernel_rfl)
theorem go8 (x0:Sem zw):rn kI 0 kp8 Tryz.f55 [zz zw x0] []=Tr.br (bif !bV x0.1 then true else bif decide ((↑(length x0.2.1):Int) < 1) then true else decide ((↑(length x0.2.1):Int) > 8)) (Tr.ok (zt.ret (AV.kb false) [])) (Tr.ok (zt.head 4 (zy Tryz.f55 4) (Ou x0.2.1 (↑(length x0.2.1):Int) 0 x0.1 x0.2.1 x0.2.2.1 x0.2.2.2.1 x0.2.2.2.2.1 (ze.op x0.2.2.2.2.2) (ze.v x0.2.2.2.2.2).1 (ze.v x0.2.2.2.2.2).2.1 (ze.v x0.2.2.2.2.2).2.2 (ze.s x0.2.2.2.2.2) (ze.l x0.2.2.2.2.2)))):=by kernel_rfl
abbrev EE (l59:LI) (i60:Int) (i61:Int) (ja0:TS) (ja1:LC) (ja2:Sem zg) (ja3:LI) (ja4:LF) (ja5:zp) (ja6:Int) (ja7:Int) (ja8:zp) (ja9:zp) (ja10:LX):St:={ tmps:=(tm 110 [(1,AV.ptr 0 0),(5,AV.clo (Fn.func 93) [] [AV.ptr 0 0]),(59,AV.sl zg l59),(60,ai i60),(61,ai i61)]),heap:=[AO.box [AV.str ja0,AV.sl zi ja1,ai ja2,AV.sl zg ja3,AV.sl zq ja4,AV.str ja5,ai ja6,ai ja7,AV.str ja8,AV.str ja9,AV.sl Sh.expr ja10]] }
theorem TP (l27:LC) (i28:Int) (i29:Int) (ja0:TS) (ja1:LC) (ja2:Sem zg) (ja3:LI) (ja4:LF) (ja5:zp) (ja6:Int) (ja7:Int) (ja8:zp) (ja9:zp) (ja10:LX):rh kI 0 kp8 Tryz.f55 4 (Ou l27 i28 i29 ja0 ja1 ja2 ja3 ja4 ja5 ja6 ja7 ja8 ja9 ja10)=Tr.br (decide (i29 < i28)) (Tr.chk (zI i29 l27.length) (Tr.br (bif !bV (l27.getD i29.toNat (zj zi)).1 then true else bif decide ((l27.getD i29.toNat (zj zi)).2.1 < 1) then true else bif decide ((l27.getD i29.toNat (zj zi)).2.1 > 3) then true else gW (ja0,ja1,ja2,ja3,ja4,ze.mk ja5 (ja6,ja7,ja8) ja9 ja10) (l27.getD i29.toNat (zj zi)).1 != i29) (Tr.ok (zt.ret (AV.kb false) [])) (Tr.ok (zt.head 4 (zy Tryz.f55 4) (Ou l27 i28 (IntKind.i64.wrap (i29+1)) ja0 ja1 ja2 ja3 ja4 ja5 ja6 ja7 ja8 ja9 ja10))))) (Tr.ok (zt.head 11 (zy Tryz.f55 11) (EE ja3 (↑ja3.length:Int) 0 ja0 ja1 ja2 ja3 ja4 ja5 ja6 ja7 ja8 ja9 ja10))):=by kernel_rfl
abbrev EF (l71:LF) (i72:Int) (i73:Int) (ja0:TS) (ja1:LC) (ja2:Sem zg) (ja3:LI) (ja4:LF) (ja5:zp) (ja6:Int) (ja7:Int) (ja8:zp) (ja9:zp) (ja10:LX):St:={ tmps:=(tm 110 [(1,AV.ptr 0 0),(5,AV.clo (Fn.func 93) [] [AV.ptr 0 0]),(71,AV.sl zq l71),(72,ai i72),(73,ai i73)]),heap:=[AO.box [AV.str ja0,AV.sl zi ja1,ai ja2,AV.sl zg ja3,AV.sl zq ja4,AV.str ja5,ai ja6,ai ja7,AV.str ja8,AV.str ja9,AV.sl Sh.expr ja10]] }
theorem NI (l59:LI) (i60:Int) (i61:Int) (ja0:TS) (ja1:LC) (ja2:Sem zg) (ja3:LI) (ja4:LF) (ja5:zp) (ja6:Int) (ja7:Int) (ja8:zp) (ja9:zp) (ja10:LX):rh kI 0 kp8 Tryz.f55 11 (EE l59 i60 i61 ja0 ja1 ja2 ja3 ja4 ja5 ja6 ja7 ja8 ja9 ja10)=Tr.br (decide (i61 < i60)) (Tr.chk (zI i61 l59.length) (Tr.br (!bif decide (l59.getD i61.toNat (zj zg) ≥ 0) then decide (l59.getD i61.toNat (zj zg) < (↑ja1.length:Int)) else false) (Tr.ok (zt.ret (AV.kb false) [])) (Tr.ok (zt.head 11 (zy Tryz.f55 11) (EE l59 i60 (IntKind.i64.wrap (i61+1)) ja0 ja1 ja2 ja3 ja4 ja5 ja6 ja7 ja8 ja9 ja10))))) (Tr.ok (zt.head 17 (zy Tryz.f55 17) (EF ja4 (↑ja4.length:Int) 0 ja0 ja1 ja2 ja3 ja4 ja5 ja6 ja7 ja8 ja9 ja10))):=by kernel_rfl
theorem NJ (l71:LF) (i72:Int) (i73:Int) (ja0:TS) (ja1:LC) (ja2:Sem zg) (ja3:LI) (ja4:LF) (ja5:zp) (ja6:Int) (ja7:Int) (ja8:zp) (ja9:zp) (ja10:LX):rh kI 0 kp8 Tryz.f55 17 (EF l71 i72 i73 ja0 ja1 ja2 ja3 ja4 ja5 ja6 ja7 ja8 ja9 ja10)=Tr.br (decide (i73 < i72)) (Tr.chk (zI i73 l71.length) (Tr.br (!bif decide ((l71.getD i73.toNat (zj zq)).1 ≥ 0) then decide ((l71.getD i73.toNat (zj zq)).1 < (↑ja1.length:Int)) else false) (Tr.ok (zt.ret (AV.kb false) [])) (Tr.br (!bV (l71.getD i73.toNat (zj zq)).2) (Tr.ok (zt.ret (AV.kb false) [])) (Tr.ok (zt.head 17 (zy Tryz.f55 17) (EF l71 i72 (IntKind.i64.wrap (i73+1)) ja0 ja1 ja2 ja3 ja4 ja5 ja6 ja7 ja8 ja9 ja10)))))) (Tr.br (bif decide (ja2 ≥ 0) then decide (ja2 < (↑ja1.length:Int)) else false) (Tr.chk (zI ja2 ja1.length) (Tr.br (ja1.getD (toNat ja2) (zj zi)).2.2 (Tr.ok (zt.ret (AV.bool (fI (ze.mk ja5 (ja6,ja7,ja8) ja9 ja10) ja1==0)) [])) (Tr.ok (zt.ret (AV.kb false) [])))) (Tr.ok (zt.ret (AV.kb false) []))):=by kernel_rfl
def eC (ja0:TS) (ja1:LC) (ja2:Sem zg) (ja3:LI) (ja4:LF) (ja5:zp) (ja6:Int) (ja7:Int) (ja8:zp) (ja9:zp) (ja10:LX):List (Sem zq)→Int→Sem Sh.bool
 | [],_=>(if (bif decide (ja2 ≥ 0) then decide (ja2 < (↑ja1.length:Int)) else false)=true then
 if (ja1.getD (toNat ja2) (zj zi)).2.2=true then
  fI (ze.mk ja5 (ja6,ja7,ja8) ja9 ja10) ja1==0
 else false
else false)
 | x::r,i73=>(if (!bif decide (x.1 ≥ 0) then decide (x.1 < (↑ja1.length:Int)) else false)=true then false
else if (!bV x.2)=true then false else eC ja0 ja1 ja2 ja3 ja4 ja5 ja6 ja7 ja8 ja9 ja10 r (i73+1))
def gq (ja0:TS) (ja1:LC) (ja2:Sem zg) (ja3:LI) (ja4:LF) (ja5:zp) (ja6:Int) (ja7:Int) (ja8:zp) (ja9:zp) (ja10:LX):List (Sem zq)→Int→Bool
 | [],_=>(if (bif decide (ja2 ≥ 0) then decide (ja2 < (↑ja1.length:Int)) else false)=true then if zI ja2 ja1.length=true then true else false
else true)
 | x::r,i73=>(if (!bif decide (x.1 ≥ 0) then decide (x.1 < (↑ja1.length:Int)) else false)=true then true
else if (!bV x.2)=true then true else gq ja0 ja1 ja2 ja3 ja4 ja5 ja6 ja7 ja8 ja9 ja10 r (i73+1))
theorem Wc {C:cI} (hC:∀ id,C.ρ0 id=none) (ja0:TS) (ja1:LC) (ja2:Sem zg) (ja3:LI) (ja4:LF) (ja5:zp) (ja6:Int) (ja7:Int) (ja8:zp) (ja9:zp) (ja10:LX) (l71:LF) (hl:l71.length≤zB):∀ (m i:Nat),l71.length - i=m→i≤l71.length→gq ja0 ja1 ja2 ja3 ja4 ja5 ja6 ja7 ja8 ja9 ja10 (l71.drop i) i=true→
  Reach (kI) C 55 (zy Tryz.f55 17) (EF l71 (l71.length:Int) (i:Int) ja0 ja1 ja2 ja3 ja4 ja5 ja6 ja7 ja8 ja9 ja10) (fun r h=>ah h [Sh.bool] r=some (eC ja0 ja1 ja2 ja3 ja4 ja5 ja6 ja7 ja8 ja9 ja10 (l71.drop i) i,())):=by
 intro m
 induction m with
 | zero=>
  intro i hm hi hc
  obtain rfl:i=l71.length:=by omega
  rw [cL] at hc ⊢
  refine zk fO (TL) (fun id _=>hC id) (NJ _ _ _ _ _ _ _ _ _ _ _ _ _ _) ?_
  rw [gq] at hc
  generalize hy:eC ja0 ja1 ja2 ja3 ja4 ja5 ja6 ja7 ja8 ja9 ja10 [] _=y
  rw [eC] at hy
  simp only [zY,Tr.val_brF]
  repeat' (first | with_reducible refine fe hy hc (fun _ hy hc=>?_) (fun _ hy hc=>?_) | with_reducible refine bd hy (fun _ hy=>?_) (fun _ hy=>?_) | with_reducible refine bz hc (fun hc=>?_) | with_reducible refine zr ?_)
  all_goals (subst hy; first | (change Reach _ _ _ _ _ _; apply uK hC <;> first | assumption | exact hc) | (change Reach _ _ _ _ _ _; apply pJ hC <;> first | assumption | exact hc) | rfl)
 | succ m IH=>
  intro i hm hi hc
  have hlt:i < l71.length:=by omega
  have IH:=IH (i+1)
  have hcast:((i:Int)+1)=((i+1:Nat):Int):=by omega
  have hwr:=zD i (by omega)
  rw [cX hlt] at hc ⊢
  refine zk fO (TL) (fun id _=>hC id) (NJ _ _ _ _ _ _ _ _ _ _ _ _ _ _) ?_
  rw [gq] at hc
  generalize hy:eC ja0 ja1 ja2 ja3 ja4 ja5 ja6 ja7 ja8 ja9 ja10 (l71[i]::l71.drop (i+1)) (i:Int)=y
  rw [eC] at hy
  simp only [zT hlt,zC hlt,ae l71 _ hlt,hwr,Tr.val_brT,Tr.val_chkT]
  clear hwr
  simp only [hcast] at hy
  try simp only [hcast] at hc
  repeat' (first | with_reducible refine fe hy hc (fun _ hy hc=>?_) (fun _ hy hc=>?_) | with_reducible refine bd hy (fun _ hy=>?_) (fun _ hy=>?_) | with_reducible refine bz hc (fun hc=>?_) | with_reducible refine zr ?_)
  all_goals (subst hy; first | (change Reach _ _ _ _ _ _; apply IH <;> first | omega | assumption) | (change Reach _ _ _ _ _ _; apply uK hC <;> first | assumption | exact hc) | (change Reach _ _ _ _ _ _; apply pJ hC <;> first | assumption | exact hc) | rfl)
theorem pK {C:cI} (hC:∀ id,C.ρ0 id=none) (ja0:TS) (ja1:LC) (ja2:Sem zg) (ja3:LI) (ja4:LF) (ja5:zp) (ja6:Int) (ja7:Int) (ja8:zp) (ja9:zp) (ja10:LX) (l71:LF) (hc:gq ja0 ja1 ja2 ja3 ja4 ja5 ja6 ja7 ja8 ja9 ja10 l71 0=true):
  Reach (kI) C 55 (zy Tryz.f55 17) (EF l71 (l71.length:Int) 0 ja0 ja1 ja2 ja3 ja4 ja5 ja6 ja7 ja8 ja9 ja10) (fun r h=>ah h [Sh.bool] r=some (eC ja0 ja1 ja2 ja3 ja4 ja5 ja6 ja7 ja8 ja9 ja10 l71 0,())):=
 Reach.len 71 (zg.pr Sh.str) l71 rfl fun hl=>Wc hC ja0 ja1 ja2 ja3 ja4 ja5 ja6 ja7 ja8 ja9 ja10 l71 hl _ 0 rfl (aV _) hc
def eB (ja0:TS) (ja1:LC) (ja2:Sem zg) (ja3:LI) (ja4:LF) (ja5:zp) (ja6:Int) (ja7:Int) (ja8:zp) (ja9:zp) (ja10:LX):List (Sem zg)→Int→Sem Sh.bool
 | [],_=>(eC ja0 ja1 ja2 ja3 ja4 ja5 ja6 ja7 ja8 ja9 ja10 ja4 0)
 | x::r,i61=>(if (!bif decide (x ≥ 0) then decide (x < (↑ja1.length:Int)) else false)=true then false
else eB ja0 ja1 ja2 ja3 ja4 ja5 ja6 ja7 ja8 ja9 ja10 r (i61+1))
def gp (ja0:TS) (ja1:LC) (ja2:Sem zg) (ja3:LI) (ja4:LF) (ja5:zp) (ja6:Int) (ja7:Int) (ja8:zp) (ja9:zp) (ja10:LX):List (Sem zg)→Int→Bool
 | [],_=>(gq ja0 ja1 ja2 ja3 ja4 ja5 ja6 ja7 ja8 ja9 ja10 ja4 0)
 | x::r,i61=>(if (!bif decide (x ≥ 0) then decide (x < (↑ja1.length:Int)) else false)=true then true
else gp ja0 ja1 ja2 ja3 ja4 ja5 ja6 ja7 ja8 ja9 ja10 r (i61+1))
theorem Wb {C:cI} (hC:∀ id,C.ρ0 id=none) (ja0:TS) (ja1:LC) (ja2:Sem zg) (ja3:LI) (ja4:LF) (ja5:zp) (ja6:Int) (ja7:Int) (ja8:zp) (ja9:zp) (ja10:LX) (l59:LI) (hl:l59.length≤zB):∀ (m i:Nat),l59.length - i=m→i≤l59.length→gp ja0 ja1 ja2 ja3 ja4 ja5 ja6 ja7 ja8 ja9 ja10 (l59.drop i) i=true→
  Reach (kI) C 55 (zy Tryz.f55 11) (EE l59 (l59.length:Int) (i:Int) ja0 ja1 ja2 ja3 ja4 ja5 ja6 ja7 ja8 ja9 ja10) (fun r h=>ah h [Sh.bool] r=some (eB ja0 ja1 ja2 ja3 ja4 ja5 ja6 ja7 ja8 ja9 ja10 (l59.drop i) i,())):=by
 intro m
 induction m with
 | zero=>
  intro i hm hi hc
  obtain rfl:i=l59.length:=by omega
  rw [cL] at hc ⊢
  refine zk fO (TL) (fun id _=>hC id) (NI _ _ _ _ _ _ _ _ _ _ _ _ _ _) ?_
  rw [gp] at hc
  generalize hy:eB ja0 ja1 ja2 ja3 ja4 ja5 ja6 ja7 ja8 ja9 ja10 [] _=y
  rw [eB] at hy
  simp only [zY,Tr.val_brF]
  repeat' (first | with_reducible refine fe hy hc (fun _ hy hc=>?_) (fun _ hy hc=>?_) | with_reducible refine bd hy (fun _ hy=>?_) (fun _ hy=>?_) | with_reducible refine bz hc (fun hc=>?_) | with_reducible refine zr ?_)
  all_goals (subst hy; first | (change Reach _ _ _ _ _ _; apply uK hC <;> first | assumption | exact hc) | (change Reach _ _ _ _ _ _; apply pK hC <;> first | assumption | exact hc) | rfl)
 | succ m IH=>
  intro i hm hi hc
  have hlt:i < l59.length:=by omega
  have IH:=IH (i+1)
  have hcast:((i:Int)+1)=((i+1:Nat):Int):=by omega
  have hwr:=zD i (by omega)
  rw [cX hlt] at hc ⊢
  refine zk fO (TL) (fun id _=>hC id) (NI _ _ _ _ _ _ _ _ _ _ _ _ _ _) ?_
  rw [gp] at hc
  generalize hy:eB ja0 ja1 ja2 ja3 ja4 ja5 ja6 ja7 ja8 ja9 ja10 (l59[i]::l59.drop (i+1)) (i:Int)=y
  rw [eB] at hy
  simp only [zT hlt,zC hlt,ae l59 _ hlt,hwr,Tr.val_brT,Tr.val_chkT]
  clear hwr
  simp only [hcast] at hy
  try simp only [hcast] at hc
  repeat' (first | with_reducible refine fe hy hc (fun _ hy hc=>?_) (fun _ hy hc=>?_) | with_reducible refine bd hy (fun _ hy=>?_) (fun _ hy=>?_) | with_reducible refine bz hc (fun hc=>?_) | with_reducible refine zr ?_)
  all_goals (subst hy; first | (change Reach _ _ _ _ _ _; apply IH <;> first | omega | assumption) | (change Reach _ _ _ _ _ _; apply uK hC <;> first | assumption | exact hc) | (change Reach _ _ _ _ _ _; apply pK hC <;> first | assumption | exact hc) | rfl)
theorem pJ {C:cI} (hC:∀ id,C.ρ0 id=none) (ja0:TS) (ja1:LC) (ja2:Sem zg) (ja3:LI) (ja4:LF) (ja5:zp) (ja6:Int) (ja7:Int) (ja8:zp) (ja9:zp) (ja10:LX) (l59:LI) (hc:gp ja0 ja1 ja2 ja3 ja4 ja5 ja6 ja7 ja8 ja9 ja10 l59 0=true):
  Reach (kI) C 55 (zy Tryz.f55 11) (EE l59 (l59.length:Int) 0 ja0 ja1 ja2 ja3 ja4 ja5 ja6 ja7 ja8 ja9 ja10) (fun r h=>ah h [Sh.bool] r=some (eB ja0 ja1 ja2 ja3 ja4 ja5 ja6 ja7 ja8 ja9 ja10 l59 0,())):=
 Reach.len 59 (Sh.int IntKind.i64) l59 rfl fun hl=>Wb hC ja0 ja1 ja2 ja3 ja4 ja5 ja6 ja7 ja8 ja9 ja10 l59 hl _ 0 rfl (aV _) hc
def gr (ja0:TS) (ja1:LC) (ja2:Sem zg) (ja3:LI) (ja4:LF) (ja5:zp) (ja6:Int) (ja7:Int) (ja8:zp) (ja9:zp) (ja10:LX):List (Sem zi)→Int→Sem Sh.bool
 | [],_=>(eB ja0 ja1 ja2 ja3 ja4 ja5 ja6 ja7 ja8 ja9 ja10 ja3 0)
 | x :: r,i29=>(if
  (bif !bV x.1 then true
   else
    bif decide (x.2.1 < 1) then true
    else
     bif decide (x.2.1 > 3) then true
     else gW (ja0,ja1,ja2,ja3,ja4,ze.mk ja5 (ja6,ja7,ja8) ja9 ja10) x.1 != i29)=
   true then
 false
else gr ja0 ja1 ja2 ja3 ja4 ja5 ja6 ja7 ja8 ja9 ja10 r (i29+1))
def je (ja0:TS) (ja1:LC) (ja2:Sem zg) (ja3:LI) (ja4:LF) (ja5:zp) (ja6:Int) (ja7:Int) (ja8:zp) (ja9:zp) (ja10:LX):List (Sem zi)→Int→Bool
 | [],_=>(gp ja0 ja1 ja2 ja3 ja4 ja5 ja6 ja7 ja8 ja9 ja10 ja3 0)
 | x :: r,i29=>(if
  (bif !bV x.1 then true
   else
    bif decide (x.2.1 < 1) then true
    else
     bif decide (x.2.1 > 3) then true
     else gW (ja0,ja1,ja2,ja3,ja4,ze.mk ja5 (ja6,ja7,ja8) ja9 ja10) x.1 != i29)=
   true then
 true
else je ja0 ja1 ja2 ja3 ja4 ja5 ja6 ja7 ja8 ja9 ja10 r (i29+1))
theorem zcq {C:cI} (hC:∀ id,C.ρ0 id=none) (ja0:TS) (ja1:LC) (ja2:Sem zg) (ja3:LI) (ja4:LF) (ja5:zp) (ja6:Int) (ja7:Int) (ja8:zp) (ja9:zp) (ja10:LX) (l27:LC) (hl:l27.length≤zB):∀ (m i:Nat),l27.length - i=m→i≤l27.length→je ja0 ja1 ja2 ja3 ja4 ja5 ja6 ja7 ja8 ja9 ja10 (l27.drop i) i=true→
  Reach (kI) C 55 (zy Tryz.f55 4) (Ou l27 (l27.length:Int) (i:Int) ja0 ja1 ja2 ja3 ja4 ja5 ja6 ja7 ja8 ja9 ja10) (fun r h=>ah h [Sh.bool] r=some (gr ja0 ja1 ja2 ja3 ja4 ja5 ja6 ja7 ja8 ja9 ja10 (l27.drop i) i,())):=by
 intro m
 induction m with
 | zero=>
  intro i hm hi hc
  obtain rfl:i=l27.length:=by omega
  rw [cL] at hc ⊢
  refine zk fO (TL) (fun id _=>hC id) (TP _ _ _ _ _ _ _ _ _ _ _ _ _ _) ?_
  rw [je] at hc
  generalize hy:gr ja0 ja1 ja2 ja3 ja4 ja5 ja6 ja7 ja8 ja9 ja10 [] _=y
  rw [gr] at hy
  simp only [zY,Tr.val_brF]
  repeat' (first | with_reducible refine fe hy hc (fun _ hy hc=>?_) (fun _ hy hc=>?_) | with_reducible refine bd hy (fun _ hy=>?_) (fun _ hy=>?_) | with_reducible refine bz hc (fun hc=>?_) | with_reducible refine zr ?_)
  all_goals (subst hy; first | (change Reach _ _ _ _ _ _; apply pJ hC <;> first | assumption | exact hc) | (change Reach _ _ _ _ _ _; apply pK hC <;> first | assumption | exact hc) | rfl)
 | succ m IH=>
  intro i hm hi hc
  have hlt:i < l27.length:=by omega
  have IH:=IH (i+1)
  have hcast:((i:Int)+1)=((i+1:Nat):Int):=by omega
  have hwr:=zD i (by omega)
  rw [cX hlt] at hc ⊢
  refine zk fO (TL) (fun id _=>hC id) (TP _ _ _ _ _ _ _ _ _ _ _ _ _ _) ?_
  rw [je] at hc
  generalize hy:gr ja0 ja1 ja2 ja3 ja4 ja5 ja6 ja7 ja8 ja9 ja10 (l27[i]::l27.drop (i+1)) (i:Int)=y
  rw [gr] at hy
  simp only [zT hlt,zC hlt,ae l27 _ hlt,hwr,Tr.val_brT,Tr.val_chkT]
  clear hwr
  simp only [hcast] at hy
  try simp only [hcast] at hc
  repeat' (first | with_reducible refine fe hy hc (fun _ hy hc=>?_) (fun _ hy hc=>?_) | with_reducible refine bd hy (fun _ hy=>?_) (fun _ hy=>?_) | with_reducible refine bz hc (fun hc=>?_) | with_reducible refine zr ?_)
  all_goals (subst hy; first | (change Reach _ _ _ _ _ _; apply IH <;> first | omega | assumption) | (change Reach _ _ _ _ _ _; apply pJ hC <;> first | assumption | exact hc) | (change Reach _ _ _ _ _ _; apply pK hC <;> first | assumption | exact hc) | rfl)
theorem uK {C:cI} (hC:∀ id,C.ρ0 id=none) (ja0:TS) (ja1:LC) (ja2:Sem zg) (ja3:LI) (ja4:LF) (ja5:zp) (ja6:Int) (ja7:Int) (ja8:zp) (ja9:zp) (ja10:LX) (l27:LC) (hc:je ja0 ja1 ja2 ja3 ja4 ja5 ja6 ja7 ja8 ja9 ja10 l27 0=true):
  Reach (kI) C 55 (zy Tryz.f55 4) (Ou l27 (l27.length:Int) 0 ja0 ja1 ja2 ja3 ja4 ja5 ja6 ja7 ja8 ja9 ja10) (fun r h=>ah h [Sh.bool] r=some (gr ja0 ja1 ja2 ja3 ja4 ja5 ja6 ja7 ja8 ja9 ja10 l27 0,())):=
 Reach.len 27 (zi) l27 rfl fun hl=>zcq hC ja0 ja1 ja2 ja3 ja4 ja5 ja6 ja7 ja8 ja9 ja10 l27 hl _ 0 rfl (aV _) hc
def gn (x0:Sem zw):Sem Sh.bool:=(if (bif !bV x0.1 then true else bif decide ((↑(length x0.2.1):Int) < 1) then true else decide ((↑(length x0.2.1):Int) > 8))=true then false else gr x0.1 x0.2.1 x0.2.2.1 x0.2.2.2.1 x0.2.2.2.2.1 (ze.op x0.2.2.2.2.2) (ze.v x0.2.2.2.2.2).1 (ze.v x0.2.2.2.2.2).2.1 (ze.v x0.2.2.2.2.2).2.2 (ze.s x0.2.2.2.2.2) (ze.l x0.2.2.2.2.2) x0.2.1 0)
def IQ (x0:Sem zw):Bool:=(if (bif !bV x0.1 then true else bif decide ((↑(length x0.2.1):Int) < 1) then true else decide ((↑(length x0.2.1):Int) > 8))=true then true else je x0.1 x0.2.1 x0.2.2.1 x0.2.2.2.1 x0.2.2.2.2.1 (ze.op x0.2.2.2.2.2) (ze.v x0.2.2.2.2.2).1 (ze.v x0.2.2.2.2.2).2.1 (ze.v x0.2.2.2.2.2).2.2 (ze.s x0.2.2.2.2.2) (ze.l x0.2.2.2.2.2) x0.2.1 0)
def F8:zF:=zG [zw] [Sh.bool] (fun x=>IQ x.1) fun x=>(gn x.1,())
theorem zbE:FK 55 F8:=by
 refine zR (TL) fun x hc C hC=>?_
 unfold IQ at hc
 refine zk fO (TL) (fun id _=>hC id) (go8 x.1) ?_
 generalize hy:gn x.1=y
 unfold gn at hy
 try simp only [ze.eta]
 repeat' (first | with_reducible refine fe hy hc (fun _ hy hc=>?_) (fun _ hy hc=>?_) | with_reducible refine bd hy (fun _ hy=>?_) (fun _ hy=>?_) | with_reducible refine bz hc (fun hc=>?_) | with_reducible refine zr ?_)
 all_goals (subst hy; first | (change Reach _ _ _ _ _ _; apply uK hC <;> first | assumption | exact hc) | (change Reach _ _ _ _ _ _; apply pJ hC <;> first | assumption | exact hc) | (change Reach _ _ _ _ _ _; apply pK hC <;> first | assumption | exact hc) | rfl)

noncomputable def SY:=kI.add 55 F8
theorem Ju:zl SY:=fO.add zbE

theorem oU {a0 a1 a2 a3 a4 a5 a6 a7 a8 a9 b0}:∀ (l:List (Sem zq)) (i:Int),gq a0 a1 a2 a3 a4 a5 a6 a7 a8 a9 b0 l i=true
 | [],i=>by
  rw [gq]
  split
  ·rename_i h
   rw [if_pos]
   cases h1:decide (a2 ≥ 0) <;> simp_all [zI]
  ·rfl
 | x::r,i=>by
  rw [gq]
  repeat' split
  all_goals first | rfl | exact oU r (i+1)
theorem oT {a0 a1 a2 a3 a4 a5 a6 a7 a8 a9 b0}:∀ (l:List (Sem zg)) (i:Int),gp a0 a1 a2 a3 a4 a5 a6 a7 a8 a9 b0 l i=true
 | [],i=>by rw [gp]; exact oU _ _
 | x::r,i=>by
  rw [gp]
  repeat' split
  all_goals first | rfl | exact oT r (i+1)
theorem qQ {a0 a1 a2 a3 a4 a5 a6 a7 a8 a9 b0}:∀ (l:List (Sem zi)) (i:Int),je a0 a1 a2 a3 a4 a5 a6 a7 a8 a9 b0 l i=true
 | [],i=>by rw [je]; exact oT _ _
 | x::r,i=>by
  rw [je]
  split
  ·rfl
  ·exact qQ r (i+1)
theorem G4 (t:Sem zw):IQ t=true:=by
 unfold IQ
 split
 ·rfl
 ·exact qQ _ _
def F8t:zF:=ay [zw] [Sh.bool] fun x=>(gn x.1,())
theorem zbP:FK 55 F8t:=eR zbE fun x=>G4 x.1

noncomputable def oH:=SY.add 55 F8t
theorem jk:zl oH:=Ju.add zbP

abbrev Xp:Nat→aj:=fun j=>if j=4 then { slots:=[1,2,19,20,21] } else if j=10 then { slots:=[1,2,30,31] } else { }
abbrev EC (l1:LV) (l19:LV) (i20:Int) (i21:Int) (ja0:TS) (ja1:LC) (ja2:Sem zg) (ja3:LI) (ja4:LF) (ja5:zp) (ja6:Int) (ja7:Int) (ja8:zp) (ja9:zp) (ja10:LX):St:={ tmps:=(tm 79 [(1,AV.sl zf l1),(2,AV.ptr 0 0),(19,AV.sl zf l19),(20,ai i20),(21,ai i21)]),heap:=[AO.box [AV.str ja0,AV.sl zi ja1,ai ja2,AV.sl zg ja3,AV.sl zq ja4,AV.str ja5,ai ja6,ai ja7,AV.str ja8,AV.str ja9,AV.sl Sh.expr ja10]] }
theorem JV:zA (oH).P 56 Tryz.f56 2:=aS (by kernel_rfl)
theorem zgT (x0:Sem zw) (x1:Sem zf.sl):rn oH 0 Xp Tryz.f56 [zz zw x0,zz zf.sl x1] []=Tr.br (bif !gn (x0.1,x0.2.1,x0.2.2.1,x0.2.2.2.1,x0.2.2.2.2.1,zE x0.2.2.2.2.2) then true else (↑(length x1):Int) != (↑(length x0.2.1):Int)) (Tr.ok (zt.ret (ai 1) [])) (Tr.ok (zt.head 4 (zy Tryz.f56 4) (EC x1 x1 (↑(length x1):Int) 0 x0.1 x0.2.1 x0.2.2.1 x0.2.2.2.1 x0.2.2.2.2.1 (ze.op x0.2.2.2.2.2) (ze.v x0.2.2.2.2.2).1 (ze.v x0.2.2.2.2.2).2.1 (ze.v x0.2.2.2.2.2).2.2 (ze.s x0.2.2.2.2.2) (ze.l x0.2.2.2.2.2)))):=by kernel_rfl
abbrev xj (l1:LV) (i30:Int) (i31:Int) (ja0:TS) (ja1:LC) (ja2:Sem zg) (ja3:LI) (ja4:LF) (ja5:zp) (ja6:Int) (ja7:Int) (ja8:zp) (ja9:zp) (ja10:LX):St:={ tmps:=(tm 79 [(1,AV.sl zf l1),(2,AV.ptr 0 0),(30,ai i30),(31,ai i31)]),heap:=[AO.box [AV.str ja0,AV.sl zi ja1,ai ja2,AV.sl zg ja3,AV.sl zq ja4,AV.str ja5,ai ja6,ai ja7,AV.str ja8,AV.str ja9,AV.sl Sh.expr ja10]] }
theorem ND (l1:LV) (l19:LV) (i20:Int) (i21:Int) (ja0:TS) (ja1:LC) (ja2:Sem zg) (ja3:LI) (ja4:LF) (ja5:zp) (ja6:Int) (ja7:Int) (ja8:zp) (ja9:zp) (ja10:LX):rh oH 0 Xp Tryz.f56 4 (EC l1 l19 i20 i21 ja0 ja1 ja2 ja3 ja4 ja5 ja6 ja7 ja8 ja9 ja10)=Tr.br (decide (i21 < i20)) (Tr.chk (zI i21 l19.length) (Tr.br (!gy (l19.getD i21.toNat (zj zf))) (Tr.ok (zt.ret (ai 1) [])) (Tr.ok (zt.head 4 (zy Tryz.f56 4) (EC l1 l19 i20 (IntKind.i64.wrap (i21+1)) ja0 ja1 ja2 ja3 ja4 ja5 ja6 ja7 ja8 ja9 ja10))))) (Tr.ok (zt.head 10 (zy Tryz.f56 10) (xj l1 (↑l1.length:Int) 0 ja0 ja1 ja2 ja3 ja4 ja5 ja6 ja7 ja8 ja9 ja10))):=by kernel_rfl
theorem Ic (l1:LV) (i30:Int) (i31:Int) (ja0:TS) (ja1:LC) (ja2:Sem zg) (ja3:LI) (ja4:LF) (ja5:zp) (ja6:Int) (ja7:Int) (ja8:zp) (ja9:zp) (ja10:LX):rh oH 0 Xp Tryz.f56 10 (xj l1 i30 i31 ja0 ja1 ja2 ja3 ja4 ja5 ja6 ja7 ja8 ja9 ja10)=Tr.br (decide (i31 < i30)) (Tr.chk (zI i31 l1.length&&bif (l1.getD i31.toNat (zj zf)).1==0 then zI i31 ja1.length else true) (Tr.br (bif (l1.getD i31.toNat (zj zf)).1==0 then (ja1.getD i31.toNat (zj zi)).2.2 else false) (Tr.ok (zt.ret (ai 8) [])) (Tr.chk (zI i31 l1.length&&bif (l1.getD i31.toNat (zj zf)).1 != 0 then zI i31 l1.length&&zI i31 ja1.length else true) (Tr.br (bif (l1.getD i31.toNat (zj zf)).1 != 0 then (l1.getD i31.toNat (zj zf)).1 != (ja1.getD i31.toNat (zj zi)).2.1 else false) (Tr.ok (zt.ret (ai 5) [])) (Tr.ok (zt.head 10 (zy Tryz.f56 10) (xj l1 i30 (IntKind.i64.wrap (i31+1)) ja0 ja1 ja2 ja3 ja4 ja5 ja6 ja7 ja8 ja9 ja10))))))) (Tr.br ((il (ze.mk ja5 (ja6,ja7,ja8) ja9 ja10) ja1 l1).1==3&&((il (ze.mk ja5 (ja6,ja7,ja8) ja9 ja10) ja1 l1).2.1==0&&((il (ze.mk ja5 (ja6,ja7,ja8) ja9 ja10) ja1 l1).2.2==[]&&true))) (Tr.ok (zt.ret (ai 9) [])) (Tr.ok (zt.ret (ai 0) []))):=by kernel_rfl
def iA (ja0:TS) (ja1:LC) (ja2:Sem zg) (ja3:LI) (ja4:LF) (ja5:zp) (ja6:Int) (ja7:Int) (ja8:zp) (ja9:zp) (ja10:LX) (l1:LV):List (Sem zf)→Int→Sem zg
 | [],_=>(if
  ((il (ze.mk ja5 (ja6,ja7,ja8) ja9 ja10) ja1 l1).1==3&&
    ((il (ze.mk ja5 (ja6,ja7,ja8) ja9 ja10) ja1 l1).2.1==0&&
     ((il (ze.mk ja5 (ja6,ja7,ja8) ja9 ja10) ja1 l1).2.2==[]&&true)))=
   true then
 9
else 0)
 | x::r,i31=>(if (bif x.1==0 then (ja1.getD i31.toNat (zj zi)).2.2 else false)=true then 8
else
 if (bif x.1 != 0 then x.1 != (ja1.getD i31.toNat (zj zi)).2.1 else false)=true then 5
 else iA ja0 ja1 ja2 ja3 ja4 ja5 ja6 ja7 ja8 ja9 ja10 l1 r (i31+1))
def fQ (ja0:TS) (ja1:LC) (ja2:Sem zg) (ja3:LI) (ja4:LF) (ja5:zp) (ja6:Int) (ja7:Int) (ja8:zp) (ja9:zp) (ja10:LX) (l1:LV):List (Sem zf)→Int→Bool
 | [],_=>(true)
 | x::r,i31=>(if (zI i31 l1.length&&bif x.1==0 then zI i31 ja1.length else true)=true then
 if (bif x.1==0 then (ja1.getD i31.toNat (zj zi)).2.2 else false)=true then true
 else
  if (zI i31 l1.length&&bif x.1 != 0 then zI i31 l1.length&&zI i31 ja1.length else true)=true then
   if (bif x.1 != 0 then x.1 != (ja1.getD i31.toNat (zj zi)).2.1 else false)=true then true
   else fQ ja0 ja1 ja2 ja3 ja4 ja5 ja6 ja7 ja8 ja9 ja10 l1 r (i31+1)
  else false
else false)
theorem P3 {C:cI} (hC:∀ id,C.ρ0 id=none) (ja0:TS) (ja1:LC) (ja2:Sem zg) (ja3:LI) (ja4:LF) (ja5:zp) (ja6:Int) (ja7:Int) (ja8:zp) (ja9:zp) (ja10:LX) (l1:LV) (hl:l1.length≤zB):∀ (m i:Nat),l1.length - i=m→i≤l1.length→fQ ja0 ja1 ja2 ja3 ja4 ja5 ja6 ja7 ja8 ja9 ja10 l1 (l1.drop i) i=true→
  Reach (oH) C 56 (zy Tryz.f56 10) (xj l1 (l1.length:Int) (i:Int) ja0 ja1 ja2 ja3 ja4 ja5 ja6 ja7 ja8 ja9 ja10) (fun r h=>ah h [zg] r=some (iA ja0 ja1 ja2 ja3 ja4 ja5 ja6 ja7 ja8 ja9 ja10 l1 (l1.drop i) i,())):=by
 intro m
 induction m with
 | zero=>
  intro i hm hi hc
  obtain rfl:i=l1.length:=by omega
  rw [cL] at hc ⊢
  refine zk jk (JV) (fun id _=>hC id) (Ic _ _ _ _ _ _ _ _ _ _ _ _ _ _) ?_
  rw [fQ] at hc
  generalize hy:iA ja0 ja1 ja2 ja3 ja4 ja5 ja6 ja7 ja8 ja9 ja10 l1 [] _=y
  rw [iA] at hy
  simp only [zY,Tr.val_brF]
  repeat' (first | with_reducible refine fe hy hc (fun _ hy hc=>?_) (fun _ hy hc=>?_) | with_reducible refine bd hy (fun _ hy=>?_) (fun _ hy=>?_) | with_reducible refine bz hc (fun hc=>?_) | with_reducible refine zr ?_)
  all_goals (subst hy; first | (change Reach _ _ _ _ _ _; apply Bb hC <;> first | assumption | exact hc) | rfl)
 | succ m IH=>
  intro i hm hi hc
  have hlt:i < l1.length:=by omega
  have IH:=IH (i+1)
  have hcast:((i:Int)+1)=((i+1:Nat):Int):=by omega
  have hwr:=zD i (by omega)
  rw [cX hlt] at hc ⊢
  refine zk jk (JV) (fun id _=>hC id) (Ic _ _ _ _ _ _ _ _ _ _ _ _ _ _) ?_
  rw [fQ] at hc
  generalize hy:iA ja0 ja1 ja2 ja3 ja4 ja5 ja6 ja7 ja8 ja9 ja10 l1 (l1[i]::l1.drop (i+1)) (i:Int)=y
  rw [iA] at hy
  simp only [zT hlt,zC hlt,ae l1 _ hlt,hwr,Tr.val_brT]
  clear hwr
  try simp only [zC hlt] at hy
  simp only [hcast] at hy
  try simp only [zC hlt] at hc
  try simp only [hcast] at hc
  repeat' (first | with_reducible refine fe hy hc (fun _ hy hc=>?_) (fun _ hy hc=>?_) | with_reducible refine bd hy (fun _ hy=>?_) (fun _ hy=>?_) | with_reducible refine bz hc (fun hc=>?_) | with_reducible refine zr ?_)
  all_goals (subst hy; first | (change Reach _ _ _ _ _ _; apply IH <;> first | omega | assumption) | (change Reach _ _ _ _ _ _; apply Bb hC <;> first | assumption | exact hc) | rfl)
theorem uJ {C:cI} (hC:∀ id,C.ρ0 id=none) (ja0:TS) (ja1:LC) (ja2:Sem zg) (ja3:LI) (ja4:LF) (ja5:zp) (ja6:Int) (ja7:Int) (ja8:zp) (ja9:zp) (ja10:LX) (l1:LV) (hc:fQ ja0 ja1 ja2 ja3 ja4 ja5 ja6 ja7 ja8 ja9 ja10 l1 l1 0=true):
  Reach (oH) C 56 (zy Tryz.f56 10) (xj l1 (l1.length:Int) 0 ja0 ja1 ja2 ja3 ja4 ja5 ja6 ja7 ja8 ja9 ja10) (fun r h=>ah h [zg] r=some (iA ja0 ja1 ja2 ja3 ja4 ja5 ja6 ja7 ja8 ja9 ja10 l1 l1 0,())):=
 Reach.len 1 (zf) l1 rfl fun hl=>P3 hC ja0 ja1 ja2 ja3 ja4 ja5 ja6 ja7 ja8 ja9 ja10 l1 hl _ 0 rfl (aV _) hc
def j8 (l1:LV) (ja0:TS) (ja1:LC) (ja2:Sem zg) (ja3:LI) (ja4:LF) (ja5:zp) (ja6:Int) (ja7:Int) (ja8:zp) (ja9:zp) (ja10:LX):List (Sem zf)→Int→Sem zg
 | [],_=>(iA ja0 ja1 ja2 ja3 ja4 ja5 ja6 ja7 ja8 ja9 ja10 l1 l1 0)
 | x::r,i21=>(if (!gy x)=true then 1 else j8 l1 ja0 ja1 ja2 ja3 ja4 ja5 ja6 ja7 ja8 ja9 ja10 r (i21+1))
def gm (l1:LV) (ja0:TS) (ja1:LC) (ja2:Sem zg) (ja3:LI) (ja4:LF) (ja5:zp) (ja6:Int) (ja7:Int) (ja8:zp) (ja9:zp) (ja10:LX):List (Sem zf)→Int→Bool
 | [],_=>(fQ ja0 ja1 ja2 ja3 ja4 ja5 ja6 ja7 ja8 ja9 ja10 l1 l1 0)
 | x::r,i21=>(if (!gy x)=true then true else gm l1 ja0 ja1 ja2 ja3 ja4 ja5 ja6 ja7 ja8 ja9 ja10 r (i21+1))
theorem V7 {C:cI} (hC:∀ id,C.ρ0 id=none) (l1:LV) (ja0:TS) (ja1:LC) (ja2:Sem zg) (ja3:LI) (ja4:LF) (ja5:zp) (ja6:Int) (ja7:Int) (ja8:zp) (ja9:zp) (ja10:LX) (l19:LV) (hl:l19.length≤zB):∀ (m i:Nat),l19.length - i=m→i≤l19.length→gm l1 ja0 ja1 ja2 ja3 ja4 ja5 ja6 ja7 ja8 ja9 ja10 (l19.drop i) i=true→
  Reach (oH) C 56 (zy Tryz.f56 4) (EC l1 l19 (l19.length:Int) (i:Int) ja0 ja1 ja2 ja3 ja4 ja5 ja6 ja7 ja8 ja9 ja10) (fun r h=>ah h [zg] r=some (j8 l1 ja0 ja1 ja2 ja3 ja4 ja5 ja6 ja7 ja8 ja9 ja10 (l19.drop i) i,())):=by
 intro m
 induction m with
 | zero=>
  intro i hm hi hc
  obtain rfl:i=l19.length:=by omega
  rw [cL] at hc ⊢
  refine zk jk (JV) (fun id _=>hC id) (ND _ _ _ _ _ _ _ _ _ _ _ _ _ _ _) ?_
  rw [gm] at hc
  generalize hy:j8 l1 ja0 ja1 ja2 ja3 ja4 ja5 ja6 ja7 ja8 ja9 ja10 [] _=y
  rw [j8] at hy
  simp only [zY,Tr.val_brF]
  repeat' (first | with_reducible refine fe hy hc (fun _ hy hc=>?_) (fun _ hy hc=>?_) | with_reducible refine bd hy (fun _ hy=>?_) (fun _ hy=>?_) | with_reducible refine bz hc (fun hc=>?_) | with_reducible refine zr ?_)
  all_goals (subst hy; first | (change Reach _ _ _ _ _ _; apply uJ hC <;> first | assumption | exact hc) | rfl)
 | succ m IH=>
  intro i hm hi hc
  have hlt:i < l19.length:=by omega
  have IH:=IH (i+1)
  have hcast:((i:Int)+1)=((i+1:Nat):Int):=by omega
  have hwr:=zD i (by omega)
  rw [cX hlt] at hc ⊢
  refine zk jk (JV) (fun id _=>hC id) (ND _ _ _ _ _ _ _ _ _ _ _ _ _ _ _) ?_
  rw [gm] at hc
  generalize hy:j8 l1 ja0 ja1 ja2 ja3 ja4 ja5 ja6 ja7 ja8 ja9 ja10 (l19[i]::l19.drop (i+1)) (i:Int)=y
  rw [j8] at hy
  simp only [zT hlt,zC hlt,ae l19 _ hlt,hwr,Tr.val_brT,Tr.val_chkT]
  clear hwr
  try simp only [zC hlt] at hy
  simp only [hcast] at hy
  try simp only [zC hlt] at hc
  try simp only [hcast] at hc
  repeat' (first | with_reducible refine fe hy hc (fun _ hy hc=>?_) (fun _ hy hc=>?_) | with_reducible refine bd hy (fun _ hy=>?_) (fun _ hy=>?_) | with_reducible refine bz hc (fun hc=>?_) | with_reducible refine zr ?_)
  all_goals (subst hy; first | (change Reach _ _ _ _ _ _; apply IH <;> first | omega | assumption) | (change Reach _ _ _ _ _ _; apply uJ hC <;> first | assumption | exact hc) | rfl)
theorem Bb {C:cI} (hC:∀ id,C.ρ0 id=none) (l1:LV) (ja0:TS) (ja1:LC) (ja2:Sem zg) (ja3:LI) (ja4:LF) (ja5:zp) (ja6:Int) (ja7:Int) (ja8:zp) (ja9:zp) (ja10:LX) (l19:LV) (hc:gm l1 ja0 ja1 ja2 ja3 ja4 ja5 ja6 ja7 ja8 ja9 ja10 l19 0=true):
  Reach (oH) C 56 (zy Tryz.f56 4) (EC l1 l19 (l19.length:Int) 0 ja0 ja1 ja2 ja3 ja4 ja5 ja6 ja7 ja8 ja9 ja10) (fun r h=>ah h [zg] r=some (j8 l1 ja0 ja1 ja2 ja3 ja4 ja5 ja6 ja7 ja8 ja9 ja10 l19 0,())):=
 Reach.len 19 (zf) l19 rfl fun hl=>V7 hC l1 ja0 ja1 ja2 ja3 ja4 ja5 ja6 ja7 ja8 ja9 ja10 l19 hl _ 0 rfl (aV _) hc
def j7 (x0:Sem zw) (x1:Sem zf.sl):Sem zg:=(if (bif !gn x0 then true else (↑(length x1):Int) != (↑(length x0.2.1):Int))=true then 1 else j8 x1 x0.1 x0.2.1 x0.2.2.1 x0.2.2.2.1 x0.2.2.2.2.1 (ze.op x0.2.2.2.2.2) (ze.v x0.2.2.2.2.2).1 (ze.v x0.2.2.2.2.2).2.1 (ze.v x0.2.2.2.2.2).2.2 (ze.s x0.2.2.2.2.2) (ze.l x0.2.2.2.2.2) x1 0)
def CG (x0:Sem zw) (x1:Sem zf.sl):Bool:=(if (bif !gn x0 then true else (↑(length x1):Int) != (↑(length x0.2.1):Int))=true then true else gm x1 x0.1 x0.2.1 x0.2.2.1 x0.2.2.2.1 x0.2.2.2.2.1 (ze.op x0.2.2.2.2.2) (ze.v x0.2.2.2.2.2).1 (ze.v x0.2.2.2.2.2).2.1 (ze.v x0.2.2.2.2.2).2.2 (ze.s x0.2.2.2.2.2) (ze.l x0.2.2.2.2.2) x1 0)
def F10:zF:=zG [zw,zf.sl] [zg] (fun x=>CG x.1 x.2.1) fun x=>(j7 x.1 x.2.1,())
theorem Sw:FK 56 F10:=by
 refine zR (JV) fun x hc C hC=>?_
 unfold CG at hc
 refine zk jk (JV) (fun id _=>hC id) (zgT x.1 x.2.1) ?_
 generalize hy:j7 x.1 x.2.1=y
 unfold j7 at hy
 try simp only [ze.eta]
 repeat' (first | with_reducible refine fe hy hc (fun _ hy hc=>?_) (fun _ hy hc=>?_) | with_reducible refine bd hy (fun _ hy=>?_) (fun _ hy=>?_) | with_reducible refine bz hc (fun hc=>?_) | with_reducible refine zr ?_)
 all_goals (subst hy; first | (change Reach _ _ _ _ _ _; apply Bb hC <;> first | assumption | exact hc) | (change Reach _ _ _ _ _ _; apply uJ hC <;> first | assumption | exact hc) | rfl)

noncomputable def SZ:=oH.add 56 F10
theorem Jv:zl SZ:=jk.add Sw

theorem nq {a0 a2 a3 a4 a5 a6 a7 a8 a9 b0} {cols:List (Sem zi)} {row:List (Sem zf)} (hl:row.length=cols.length):∀ (l:List (Sem zf)) (i:Nat),i+l.length=row.length→fQ a0 cols a2 a3 a4 a5 a6 a7 a8 a9 b0 row l i=true
 | [],i,_=>rfl
 | x::r,i,h=>by
  have h1:i < row.length:=by simp at h; omega
  have h2:i < cols.length:=by omega
  have ih:=nq (a0:=a0) (a2:=a2) (a3:=a3) (a4:=a4) (a5:=a5) (a6:=a6) (a7:=a7) (a8:=a8) (a9:=a9) (b0:=b0) hl r (i+1) (by simp at h; omega)
  rw [fQ]
  simp only [zC h1,zC h2]
  rw [if_pos (by cases x.1==0 <;> rfl)]
  split
  ·rfl
  ·rw [if_pos (by cases x.1 != 0 <;> rfl)]
   split
   ·rfl
   ·exact ih
theorem oS {a0 a2 a3 a4 a5 a6 a7 a8 a9 b0} {cols:List (Sem zi)} {row:List (Sem zf)} (hl:row.length=cols.length):∀ (l:List (Sem zf)) (i:Int),gm row a0 cols a2 a3 a4 a5 a6 a7 a8 a9 b0 l i=true
 | [],i=>by rw [gm]; exact nq hl row 0 (by simp)
 | x::r,i=>by
  rw [gm]
  split
  ·rfl
  ·exact oS hl r (i+1)
theorem ET (t:Sem zw) (row:List (Sem zf)):CG t row=true:=by
 unfold CG
 split
 ·rfl
 ·rename_i h
  refine oS ?_ _ _
  cases hm:gn t
  ·rw [hm] at h; simp at h
  ·rw [hm] at h
   simp at h
   omega
def Zc:zF:=ay [zw,zf.sl] [zg] fun x=>(j7 x.1 x.2.1,())
theorem Ug:FK 56 Zc:=eR Sw fun x=>ET x.1 x.2.1

noncomputable def vC:=SZ.add 56 Zc
theorem Jw:zl vC:=Jv.add Ug

open Go.RowKit Go.Lib in
theorem Vu:FK 236 (zG [.str,.str] [.bool] (fun x=>x.2.1.length==1) fun x=>(decide (0≤Lib.indexByte x.1 (x.2.1.headD 0)),())):=by
 refine fN (E:=vC) ⟨Tryz.f236,by kernel_rfl,by kernel_rfl,by kernel_rfl⟩ fun x h0 res hx=>?_
 unfold g8 at hx
 split at hx
 ·simp only [Tr.val] at hx
  split at hx
  ·rename_i hc
   simp only [ap] at hx
   subst hx
   obtain ⟨s,sub,u⟩:=x
   have hc:(sub.length==1)=true:=hc
   match sub,hc with
   | [c],_=>
    intro C w U ρ vals _ hr hH hnew hr0 hW
    have hl:=hr.len
    match vals,hl,hr with
    | [v1,v2],_,hr=>
     have h1:=hr.rv 0 (.str s) v1 rfl rfl
     have h2:=hr.rv 1 (.str [c]) v2 rfl rfl
     cases h1 with
     | str _ hs=>
     cases h2 with
     | str _ hs2=>
     refine (Tryz.strings_Contains_one ⟨s.toArray⟩ c w).mono ?_
     rintro e w' ⟨rfl,rfl⟩
     exact fG hH hnew hr0 hW (Below.refl _ _) (.bool _)
  ·cases hx
 ·simp at hx
def F63:zF:=zG [.str,.str] [.bool] (fun x=>x.2.1.length==1) fun x=>(decide (0≤Lib.indexByte x.1 (x.2.1.headD 0)),())
theorem zbq:FK 236 F63:=Vu

def F89:zF:=zG [.str] [.str] (fun x=>decide (x.1.length≤140737488355328)&&x.1.all fun b=>decide (b.toNat < 128)) fun x=>(Lib.toUpperA x.1,())
open Go.RowKit Go.Lib in
theorem zbO:FK 158 F89:=by
 refine fN (E:=vC) ⟨Tryz.f158,by kernel_rfl,by kernel_rfl,by kernel_rfl⟩ fun x h0 res hx=>?_
 unfold g8 at hx
 split at hx
 ·simp only [Tr.val] at hx
  split at hx
  ·rename_i hc
   simp only [ap] at hx
   subst hx
   obtain ⟨s,u⟩:=x
   have hc:(decide (s.length≤140737488355328)&&s.all fun b=>decide (b.toNat < 128))=true:=hc
   simp only [aM,zZ] at hc
   obtain ⟨hc0,hc⟩:=hc
   intro C w U ρ vals _ hr hH hnew hr0 hW
   have hl:=hr.len
   match vals,hl,hr with
   | [v1],_,hr=>
    have h1:=hr.rv 0 (.str s) v1 rfl rfl
    cases h1 with
    | str _ hs=>
    refine (Tryz.strings_ToUpper_ascii ⟨s.toArray⟩ w (by simpa [ByteArray.size] using hc0) (fun j b hj=>?_)).mono ?_
    ·have hm:b∈s:=iK (by simpa using hj)
     simp only [cY,zZ] at hc
     exact hc b hm
    ·rintro e w' ⟨rfl,hb⟩
     have hbb:=fG (r:=.str (Lib.toUpperA s)) hH hnew hr0 hW hb (.str _ (by simpa [Lib.toUpperA] using hs))
     exact hbb
  ·cases hx
 ·simp at hx

def oz:Nat→Nat→zp
 | 0,_=>[]
 | f+1,n=>if n < 10 then [UInt8.ofNat (48+n)] else oz f (n / 10)++[UInt8.ofNat (48+n % 10)]
def oN (n:Int):zp:=if n < 0 then 45::oz 20 n.natAbs else oz 20 n.natAbs
theorem Bt:∀ (f n:Nat),n < 10 ^ f→0 < f→oz f n=Lib.decDigits n
 | 0,_,_,h=>by omega
 | f+1,n,h,_=>by
  rw [oz,Lib.decDigits]
  split
  ·rfl
  ·rename_i hn
   have hf:0 < f:=by
    cases f with
    | zero=>simp at h; omega
    | succ f=>omega
   rw [Bt f (n / 10) (by rw [Nat.pow_succ] at h; omega) hf]
theorem Dj:∀ (f n:Nat),(oz f n).length≤f
 | 0,_=>by simp [oz]
 | f+1,n=>by
  rw [oz]
  split
  ·simp
  ·have:=Dj f (n / 10)
   simp; omega
theorem Ax (n:Int):(oN n).length≤21:=by
 unfold oN
 have:=Dj 20 n.natAbs
 split <;> simp <;> omega
theorem MG (n:Int) (h:cn .i64 n):Lib.itoa n=oN n:=by
 have h1:-9223372036854775808≤n:=h.1
 have h2:n≤9223372036854775807:=h.2
 unfold Lib.itoa oN
 split
 ·rw [Bt 20 _ (by omega) (by omega)]
 ·rw [Bt 20 _ (by omega) (by omega)]
  congr 1
  omega
def Zn:zF:=zG [zg,zg] [.str] (fun x=>x.2.1==10) fun x=>(oN x.1,())
open Go.RowKit Go.Lib in
theorem Ur:FK 230 Zn:=by
 refine fN (E:=vC) ⟨Tryz.f230,by kernel_rfl,by kernel_rfl,by kernel_rfl⟩ fun x h0 res hx=>?_
 unfold g8 at hx
 split at hx
 ·simp only [Tr.val] at hx
  split at hx
  ·rename_i hc
   simp only [ap] at hx
   subst hx
   obtain ⟨n,b,u⟩:=x
   have hc:(b==10)=true:=hc
   simp only [eH] at hc
   subst hc
   intro C w U ρ vals _ hr hH hnew hr0 hW
   have hl:=hr.len
   match vals,hl,hr with
   | [v1,v2],_,hr=>
    have h1:=hr.rv 0 (.int .i64 n) v1 rfl rfl
    have h2:=hr.rv 1 (.int .i64 10) v2 rfl rfl
    cases h1 with
    | int _ _ hn=>
    cases h2
    have h5:Rv w U (fun _=>none) (.tab .u64 kh) (.pointer (some ⟨5,0,none⟩)):=hW.gl 5
    have htab:Lib.TabIs Tryz.prog w "internal/strconv.uint64pow10" .u64 Lib.pow10Tab:=by
     cases h5 with
     | tab _ _ _ T fr hb hU=>
     have hg:Tryz.prog.globalNamed "internal/strconv.uint64pow10" = some 5:=by kernel_rfl
     have ht:Lib.pow10Tab=kh:=by decide +kernel
     unfold Lib.TabIs World.var?
     rw [hg,ht]
     simp only [Option.bind_some,hb]
    refine (Tryz.strconv_FormatInt_10 n hn.1 hn.2 w htab).mono ?_
    rintro e w' ⟨rfl,k,os,rfl⟩
    rw [MG n hn]
    exact fG (r:=.str (oN n)) hH hnew hr0 hW ⟨rfl,rfl,rfl,by show w.heap.size≤(w.heap++os).size; simp,fun j hj=>by show (w.heap++os)[j]?=w.heap[j]?; rw [Array.getElem?_append_left hj]⟩ (.str _ (by have:=Ax n; unfold zB; omega))
  ·cases hx
 ·simp at hx

theorem qB (old new:zp):∀ (k:Nat) (s:zp),(Lib.replaceK old new k s).length≤s.length+k * new.length
 | 0,s=>by simp [Lib.replaceK]
 | k+1,s=>by
  rw [Lib.replaceK]
  split
  ·omega
  ·have:=qB old new k (s.drop ((Lib.index s old).toNat+old.length))
   simp only [pE,sx,List.length_drop] at this ⊢
   rw [eu]
   omega
theorem jF (s old new:zp):(Lib.replaceAll s old new).length≤s.length+(s.length+1) * new.length:=by
 unfold Lib.replaceAll Lib.replace
 split
 ·omega
 ·refine cy (qB old new _ s) ?_
  have hc:=Lib.count_le s old
  have:Lib.replaceNum s old (-1)=Lib.count s old:=by unfold Lib.replaceNum; rw [if_pos (.inl (by omega))]
  rw [this]
  have:=cN new.length hc
  omega
def qA (s old new:zp):Bool:=decide (s.length≤4000000000)&&(decide (1≤old.length)&&decide (new.length≤1000))
def Zo:zF:=zG [.str,.str,.str] [.str] (fun x=>qA x.1 x.2.1 x.2.2.1) fun x=>(Lib.replaceAll x.1 x.2.1 x.2.2.1,())
open Go.RowKit Go.Lib in
theorem Us:FK 231 Zo:=by
 refine fN (E:=vC) ⟨Tryz.f231,by kernel_rfl,by kernel_rfl,by kernel_rfl⟩ fun x h0 res hx=>?_
 unfold g8 at hx
 split at hx
 ·simp only [Tr.val] at hx
  split at hx
  ·rename_i hc
   simp only [ap] at hx
   subst hx
   obtain ⟨s,old,new,u⟩:=x
   have hc:qA s old new=true:=hc
   unfold qA at hc
   simp only [aM,zZ] at hc
   obtain ⟨hc1,hc2,hc3⟩:=hc
   intro C w U ρ vals _ hr hH hnew hr0 hW
   have hl:=hr.len
   match vals,hl,hr with
   | [v1,v2,v3],_,hr=>
    have h1:=hr.rv 0 (.str s) v1 rfl rfl
    have h2:=hr.rv 1 (.str old) v2 rfl rfl
    have h3:=hr.rv 2 (.str new) v3 rfl rfl
    cases h1 with
    | str _ hs1=>
    cases h2 with
    | str _ hs2=>
    cases h3 with
    | str _ hs3=>
    have hg1:Rv w U (fun _=>none) .gint (.pointer (some ⟨2,0,none⟩)):=hW.gl 2
    have hmm:∃ m:Int,w.cell? ⟨2,0,none⟩=some (.int .i64 m):=by
     cases hg1 with
     | gint m _ T fr _ hb _=>exact ⟨m,by simp [World.cell?,hb]⟩
    obtain ⟨m,hm⟩:=hmm
    have hcb:=Lib.countB_le (⟨old.toArray⟩:ByteArray) (by simpa [ByteArray.size] using hc2) s.length (⟨s.toArray⟩:ByteArray) (by simp [ByteArray.size])
    have hsz:(⟨s.toArray⟩:ByteArray).size=s.length:=by simp [ByteArray.size]
    have hnz:(⟨new.toArray⟩:ByteArray).size=new.length:=by simp [ByteArray.size]
    have hmul:Lib.countB (⟨s.toArray⟩:ByteArray) ⟨old.toArray⟩ * new.length≤4000000000 * 1000:=jS (by omega) hc3
    refine (Tryz.strings_ReplaceAll ⟨s.toArray⟩ ⟨old.toArray⟩ ⟨new.toArray⟩ m w (by rw [hsz]; omega) hm (by simpa [ByteArray.size] using hc2) (by rw [hsz,hnz]; omega)).mono ?_
    rintro e w' ⟨rfl,hbel⟩
    refine fG (r:=.str (Lib.replaceAll s old new)) hH hnew hr0 hW hbel (.str _ ?_)
    have hlen:=jF s old new
    have hmul2:(s.length+1) * new.length≤4000000001 * 1000:=jS (by omega) hc3
    unfold zB
    omega
  ·cases hx
 ·simp at hx

def Zm:zF:=zG [.sl .str,.str] [.str] (fun x=>decide (x.1.length≤140737488355328)&&decide ((Lib.join x.1 x.2.1).length≤140737488355328)) fun x=>(Lib.join x.1 x.2.1,())
open Go.RowKit Go.Lib in
theorem Uq:FK 229 Zm:=by
 refine fN (E:=vC) ⟨Tryz.f229,by kernel_rfl,by kernel_rfl,by kernel_rfl⟩ fun x h0 res hx=>?_
 unfold g8 at hx
 split at hx
 ·simp only [Tr.val] at hx
  split at hx
  ·rename_i hc
   simp only [ap] at hx
   subst hx
   obtain ⟨l,sep,u⟩:=x
   have hc:(decide (l.length≤140737488355328)&&decide ((Lib.join l sep).length≤140737488355328))=true:=hc
   simp only [aM,zZ] at hc
   obtain ⟨hc0,hc⟩:=hc
   have hms:zB=9223372036854775807:=rfl
   intro C w U ρ vals _ hr hH hnew hr0 hW
   have hl:=hr.len
   match vals,hl,hr with
   | [v1,v2],_,hr=>
    have h1:=hr.rv 0 (.sl .str l) v1 rfl rfl
    have h2:=hr.rv 1 (.str sep) v2 rfl rfl
    cases h2 with
    | str _ hs2=>
    generalize hl0:l=l0 at h1 hc hc0 hr
    cases h1 with
    | sl0 _ a c=>
     subst hl0
     refine (Tryz.strings_Join_none a c ⟨sep.toArray⟩ w).mono ?_
     rintro e w' ⟨rfl,rfl⟩
     exact fG (r:=.str []) hH hnew hr0 hW (Below.refl _ _) (.str _ (by simp))
    | sl _ _ b o c vals' hcc hm hb hU hcell hrr=>
     subst hl0
     have hx:∀ (j:Nat) x,(l.map fun s=>(⟨s.toArray⟩:ByteArray))[j]?=some x→w.cell? ⟨b,o+j,none⟩=some (.string x):=by
      intro j x hj
      simp only [dh,dt] at hj
      obtain ⟨s,hs,rfl⟩:=hj
      obtain ⟨hlt,rfl⟩:=bR.1 hs
      have h3:=hcell j 0 hlt (by simp [Sh.size])
      have h4:=hrr j hlt 0 (.str l[j]) rfl
      simp only [Sh.size,Nat.mul_one,oC] at h3
      rw [h3]
      generalize vals' j 0=vv at h4
      cases h4
      rfl
     have hmap:(l.map fun s=>(⟨s.toArray⟩:ByteArray)).map (·.data.toList)=l:=by
      simp [sw]
     have hj:=Tryz.strings_Join b o c (l.map fun s=>(⟨s.toArray⟩:ByteArray)) ⟨sep.toArray⟩ w hx hb (by simpa using hc0) (by simpa using hcc) (by rw [hmap]; exact hc)
     rw [hmap] at hj
     simp only [yI] at hj
     refine hj.mono ?_
     rintro e w' ⟨rfl,hbel⟩
     exact fG (r:=.str (Lib.join l sep)) hH hnew hr0 hW hbel (.str _ (by omega))
  ·cases hx
 ·simp at hx

noncomputable def oI:=vC.addL [(236,F63),(158,F89),(230,Zn),(231,Zo),(229,Zm)]
theorem gM:zl oI:=Jw.addL <| fc zbq <| fc zbO <| fc Ur <| fc Us <| fc Uq jn
end Cad
