/- Expressions: which may be. Expressions: their values. Expressions: may, bounded. Expressions: types and values. What is asked of expressions holds. Checks; bounded tables. What is asked of checks and of bounded tables holds. Which tables may be. What is asked of tables holds. Which rows fit. What is asked of rows holds. The library's functions over texts. -/
import Derived.Test.YtiefilkilbdpgaaGreatDoorK09
namespace Cad
open Go Go.Proofs
open Int (toNat)
open List (length)

def tG (v:V):Bool:=v.1==0&&(v.2.1==0&&(v.2.2==[]&&true))
def avB:AV→Option Bool
 | .bool b=>some b
 | .kb b=>some b
 | _=>none

theorem Reach.toBool {E:bb} {C:cd} {fn:FuncId} {todo:List Item} {st:St} {b:Bool} {hp:List AO} (h:Reach E C fn todo st (fun r h=>avB r=some b∧h=hp)):Reach E C fn todo st (fun r h=>(r,h)=(.bool b,hp)):=by
 refine h.weaken fun r h' hq=>?_
 obtain ⟨h1,rfl⟩:=hq
 refine ⟨.bool b,rfl,fun w U ρ v hv=>?_⟩
 cases r <;> simp [avB] at h1 <;> subst h1 <;> cases hv <;> exact .bool _

def Rx (g:ze→Int→Int→Bool×Int) (c:ze→Int→Int→Bool):cg [none,some .expr,some zg]:=fun x h=>match x,h with
 | (.ptr 0 0,e,d,_),[.box [.int .i64 n]]=>.chk (c e d n) (.ok (.bool (g e d n).1,[.box [.int .i64 (g e d n).2]]))
 | _,_=>.err
def Ce (g:ze→Int→Int→Bool×Int) (c:ze→Int→Int→Bool):zB:=zP [none,some .expr,some zg] (Rx g c)
noncomputable def FZ (g:ze→Int→Int→Bool×Int) (c:ze→Int→Int→Bool):bb:=Ee.add 137 (Ce g c)
theorem sJ {g:ze→Int→Int→Bool×Int} {c:ze→Int→Int→Bool} (hg:FK 137 (Ce g c)):zm (FZ g c):=wk.add hg
abbrev Y7:Nat→zT:=fun j=>if j=12 then { slots:=[0,2,73,74,75] } else { }
abbrev yU (i2:Int) (l73:LX) (i74:Int) (i75:Int) (ja0:Int):St:={ tmps:=(tm 86 [(0,AV.ptr 0 0),(2,ai i2),(73,AV.sl Sh.expr l73),(74,ai i74),(75,ai i75)]),heap:=[AO.box [ai ja0]] }
theorem JD (g:ze→Int→Int→Bool×Int) (c:ze→Int→Int→Bool):zz (FZ g c).P 137 Tryz.f137 3:=aG (by kernel_rfl)
theorem zb0 (g:ze→Int→Int→Bool×Int) (c:ze→Int→Int→Bool) (e:ze) (d:Int) (n:Int):rn (FZ g c) 1 Y7 Tryz.f137 [AV.ptr 0 0,zy Sh.expr e,ai d] [AO.box [ai n]]=Tr.br (bif decide (d > 12) then true else bif decide (IntKind.i64.wrap (n+1) > 60) then true else (↑e.l.length:Int) != cX e.op) (Tr.ok (zp.ret (AV.kb false) [AO.box [ai (IntKind.i64.wrap (n+1))]])) (Tr.br (e.op==[108,105,116]) (Tr.ok (zp.ret (AV.bool (bif e.s==[] then gT e.v else false)) [AO.box [ai (IntKind.i64.wrap (n+1))]])) (Tr.br (e.op==[99,111,108]) (Tr.ok (zp.ret (AV.bool (bif tG e.v then bif mY e.s then !BR e.s else false else false)) [AO.box [ai (IntKind.i64.wrap (n+1))]])) (Tr.br (bif !tG e.v then true else !e.s==[]) (Tr.ok (zp.ret (AV.kb false) [AO.box [ai (IntKind.i64.wrap (n+1))]])) (Tr.ok (zp.head 12 (zw Tryz.f137 12) (yU d e.l (↑e.l.length:Int) 0 (IntKind.i64.wrap (n+1)))))))):=by kernel_rfl
theorem EX (g:ze→Int→Int→Bool×Int) (c:ze→Int→Int→Bool) (i2:Int) (l73:LX) (i74:Int) (i75:Int) (ja0:Int):rh (FZ g c) 1 Y7 Tryz.f137 12 (yU i2 l73 i74 i75 ja0)=Tr.br (decide (i75 < i74)) (Tr.chk (zJ i75 l73.length) (Tr.chk (c (zC (l73.getD i75.toNat (zj Sh.expr))) (IntKind.i64.wrap (i2+1)) ja0) (Tr.br (!(g (zC (l73.getD i75.toNat (zj Sh.expr))) (IntKind.i64.wrap (i2+1)) ja0).1) (Tr.ok (zp.ret (AV.kb false) [AO.box [AV.int IntKind.i64 (g (zC (l73.getD i75.toNat (zj Sh.expr))) (IntKind.i64.wrap (i2+1)) ja0).2]])) (Tr.ok (zp.head 12 (zw Tryz.f137 12) (yU i2 l73 i74 (IntKind.i64.wrap (i75+1)) (g (zC (l73.getD i75.toNat (zj Sh.expr))) (IntKind.i64.wrap (i2+1)) ja0).2)))))) (Tr.ok (zp.ret (AV.kb true) [AO.box [ai ja0]])):=by kernel_rfl

def vF (g:ze→Int→Int→Bool×Int) (d:Int):List ze→Int→Bool×Int
 | [],n=>(true,n)
 | x::r,n=>if (!(g x (IntKind.i64.wrap (d+1)) n).1)=true then (false,(g x (IntKind.i64.wrap (d+1)) n).2) else vF g d r (g x (IntKind.i64.wrap (d+1)) n).2
def tR (g:ze→Int→Int→Bool×Int) (c:ze→Int→Int→Bool) (d:Int):List ze→Int→Bool
 | [],_=>true
 | x::r,n=>if c x (IntKind.i64.wrap (d+1)) n=true then (if (!(g x (IntKind.i64.wrap (d+1)) n).1)=true then true else tR g c d r (g x (IntKind.i64.wrap (d+1)) n).2) else false

theorem zbm {g:ze→Int→Int→Bool×Int} {c:ze→Int→Int→Bool} (hg:FK 137 (Ce g c)) {C:cd} (hC:∀ id,1≤id→C.ρ0 id=none) (d:Int) (l:List ze) (hl:l.length≤zD):
  ∀ (k i:Nat) (n:Int),l.length - i=k→i≤l.length→tR g c d (l.drop i) n=true→Reach (FZ g c) C 137 (zw Tryz.f137 12) (yU d l l.length i n) (fun r h=>avB r=some (vF g d (l.drop i) n).1∧h=[.box [.int .i64 (vF g d (l.drop i) n).2]]):=by
 intro k
 induction k with
 | zero=>
  intro i n hk hi hc
  obtain rfl:i=l.length:=by omega
  refine zk (sJ hg) (JD g c) hC (EX g c _ _ _ _ _) ?_
  simp only [af,Tr.val_brF,dq]
  exact ⟨rfl,rfl⟩
 | succ k IH=>
  intro i n hk hi hc
  have hlt:i < l.length:=by omega
  refine zk (sJ hg) (JD g c) hC (EX g c _ _ _ _ _) ?_
  rw [ez hlt] at hc ⊢
  rw [tR] at hc
  have hc1:=lZ hc
  simp only [zV hlt,zF hlt,zZ l _ hlt,ze.eta,Tr.val_brT,Tr.val_chkT,hc1.1,zG i (by omega)]
  refine je (fun h=>?_) (fun h=>?_)
  ·rw [vF,if_pos h]; exact ⟨rfl,rfl⟩
  ·rw [vF,if_neg (jy h)]
   have h2:=hc1.2
   rw [if_neg (jy h)] at h2
   exact IH (i+1) _ (by omega) (by omega) h2

def Bz (g:ze→Int→Int→Bool×Int) (e:ze) (d n:Int):Bool×Int:=if (bif decide (d > 12) then true else bif decide (IntKind.i64.wrap (n+1) > 60) then true else (↑e.l.length:Int) != cX e.op)=true then (false,IntKind.i64.wrap (n+1)) else if (e.op==[108,105,116])=true then (bif e.s==[] then gT e.v else false,IntKind.i64.wrap (n+1)) else if (e.op==[99,111,108])=true then (bif tG e.v then bif mY e.s then !BR e.s else false else false,IntKind.i64.wrap (n+1)) else if (bif !tG e.v then true else !e.s==[])=true then (false,IntKind.i64.wrap (n+1)) else vF g d e.l (IntKind.i64.wrap (n+1))
def EG (g:ze→Int→Int→Bool×Int) (c:ze→Int→Int→Bool) (e:ze) (d n:Int):Bool:=if (bif decide (d > 12) then true else bif decide (IntKind.i64.wrap (n+1) > 60) then true else (↑e.l.length:Int) != cX e.op)=true then true else if (e.op==[108,105,116])=true then true else if (e.op==[99,111,108])=true then true else if (bif !tG e.v then true else !e.s==[])=true then true else tR g c d e.l (IntKind.i64.wrap (n+1))

theorem QL {g:ze→Int→Int→Bool×Int} {c:ze→Int→Int→Bool} (hg:FK 137 (Ce g c)):FK 137 (Ce (Bz g) (EG g c)):=by
 refine bc (E:=FZ g c) (JD g c) fun x h0 res hx C hC=>?_
 unfold Rx at hx
 split at hx
 ·rename_i e d u n
  simp only [Tr.val] at hx
  split at hx
  ·rename_i hc
   simp only [ae] at hx
   subst hx
   refine Reach.toBool ?_
   refine zk (n0:=1) (sJ hg) (JD g c) hC (zb0 g c e d n) ?_
   generalize hy:Bz g e d n=y
   unfold Bz at hy
   unfold EG at hc
   repeat' (refine je (fun hsp=>?_) (fun hsp=>?_) <;> first | (rw [if_pos hsp] at hy hc) | (rw [if_neg (jy hsp)] at hy hc))
   all_goals subst hy
   ·exact ⟨rfl,rfl⟩
   ·exact ⟨rfl,rfl⟩
   ·exact ⟨rfl,rfl⟩
   ·exact ⟨rfl,rfl⟩
   ·exact Reach.len 73 .expr e.l rfl fun hl=>zbm hg hC d e.l hl _ 0 _ rfl (be _) hc
  ·simp at hx
 ·simp at hx

mutual
def n8:Nat→ze→Int→Int→Bool×Int
 | 0=>fun _ _ _=>(false,0)
 | n+1=>Bz (n8 n)
def n6:Nat→ze→Int→Int→Bool
 | 0=>fun _ _ _=>false
 | n+1=>EG (n8 n) (n6 n)
end
theorem Hh:∀ n,FK 137 (Ce (n8 n) (n6 n))
 | 0=>by
  have h:FK 137 (zP [none,some .expr,some zg] (fun _ _=>.err)):=bc (JD (fun _ _ _=>(false,0)) (fun _ _ _=>false)) (E:=Ee) fun x h0 res hx=>by simp at hx
  refine xx (ι:=Unit) (Gs:=fun _ _ _=>.err) (fun _=>h) fun x h0 res hx=>?_
  unfold Rx at hx
  split at hx
  ·simp [Tr.val,n6] at hx
  ·simp at hx
 | n+1=>QL (Hh n)
def F37:zB:=Ce (n8 16) (n6 16)
theorem Wa:FK 137 F37:=Hh 16

noncomputable def wl:=Ee.add 137 F37
theorem pe:zm wl:=wk.add Wa

abbrev fu:List (zq×AV):=[([97,110,100],.clo (.func 138) [] []),([111,114],.clo (.func 139) [] []),([110,111,116],.clo (.func 140) [] []),([61],.clo (.func 142) [] []),([60],.clo (.func 143) [] []),([43],.clo (.func 144) [] []),([45],.clo (.func 145) [] []),([110,117,108,108],.clo (.func 146) [] [])]
abbrev zc6:Nat→zT:=fun _=>{ }
theorem ZB:zz wl.P 86 Tryz.f86 0:=aG (by kernel_rfl)
theorem zbR:(run wl 0 zc6 (Func.results Tryz.f86).toList 400 (ao Tryz.f86) (zU (Func.ntmps Tryz.f86) [] [])).val=some (zp.ret (AV.mp 0) [AO.fmap fu]):=by kernel_rfl
def G23:cg []:=fun _ h=>match h with
 | []=>.ok (.mp 0,[.fmap fu])
 | _=>.err
def F23:zB:=zP [] G23
theorem V0:FK 86 F23:=by
 refine bc ZB fun x h0 res hx C hC=>?_
 unfold G23 at hx
 split at hx
 ·simp only [Tr.val,ae] at hx
  subst hx
  exact mi (n0:=0) pe ZB hC zbR rfl
 ·simp at hx

def Ug (op:zq) (x y:V):V:=if (op==[97,110,100])=true then Nt x y else if (op==[111,114])=true then vOr x y else if (op==[110,111,116])=true then FA x y else if (op==[61])=true then Ac x y else if (op==[60])=true then Fy x y else if (op==[43])=true then FB x y else if (op==[45])=true then Ad x y else if (op==[110,117,108,108])=true then Ae x y else (0,0,[])
def opC (op:zq):Bool:=if (op==[97,110,100])=true then true else if (op==[111,114])=true then true else if (op==[110,111,116])=true then true else if (op==[61])=true then true else if (op==[60])=true then true else if (op==[43])=true then true else if (op==[45])=true then true else if (op==[110,117,108,108])=true then true else false
def opL (op:zq) (x y:V) (h:List AO):Option zp:=if (op==[97,110,100])=true then some (.ret (zy zf (Nt x y)) h) else if (op==[111,114])=true then some (.ret (zy zf (vOr x y)) h) else if (op==[110,111,116])=true then some (.ret (zy zf (FA x y)) h) else if (op==[61])=true then some (.ret (zy zf (Ac x y)) h) else if (op==[60])=true then some (.ret (zy zf (Fy x y)) h) else if (op==[43])=true then some (.ret (zy zf (FB x y)) h) else if (op==[45])=true then some (.ret (zy zf (Ad x y)) h) else if (op==[110,117,108,108])=true then some (.ret (zy zf (Ae x y)) h) else none

def Rw (g:List (Sem zi)→List (Sem zf)→ze→V) (c:List (Sem zi)→List (Sem zf)→ze→Bool):cg [none,some .expr]:=fun x h=>match x,h with
 | (.agg [.sl (.pr .str (.pr (.int .i64) .bool)) cols,.sl (.pr (.int .i64) (.pr (.int .i64) .str)) row,.mp 0],e,_),[.fmap [(k1,.clo (.func 138) [] []),(k2,.clo (.func 139) [] []),(k3,.clo (.func 140) [] []),(k4,.clo (.func 142) [] []),(k5,.clo (.func 143) [] []),(k6,.clo (.func 144) [] []),(k7,.clo (.func 145) [] []),(k8,.clo (.func 146) [] [])]]=>
  .chk (k1==[97,110,100]&&(k2==[111,114]&&(k3==[110,111,116]&&(k4==[61]&&(k5==[60]&&(k6==[43]&&(k7==[45]&&(k8==[110,117,108,108])))))))) (.chk (c cols row e) (.ok (zy zf (g cols row e),[.fmap fu])))
 | _,_=>.err
def FD (g:List (Sem zi)→List (Sem zf)→ze→V) (c:List (Sem zi)→List (Sem zf)→ze→Bool):zB:=zP [none,some .expr] (Rw g c)
noncomputable def FX (g:List (Sem zi)→List (Sem zf)→ze→V) (c:List (Sem zi)→List (Sem zf)→ze→Bool):bb:=wl.add 87 (FD g c)
theorem sH {g:List (Sem zi)→List (Sem zf)→ze→V} {c:List (Sem zi)→List (Sem zf)→ze→Bool} (hg:FK 87 (FD g c)):zm (FX g c):=pe.add hg
theorem Jy (g:List (Sem zi)→List (Sem zf)→ze→V) (c:List (Sem zi)→List (Sem zf)→ze→Bool):zz (FX g c).P 87 Tryz.f87 2:=aG (by kernel_rfl)
theorem Sl (g:List (Sem zi)→List (Sem zf)→ze→V) (c:List (Sem zi)→List (Sem zf)→ze→Bool) (cols:LC) (row:LV) (op:zq) (v:V) (s:zq):(run (FX g c) 1 Ui (Func.results Tryz.f87).toList 600 (ao Tryz.f87) (zU (Func.ntmps Tryz.f87) [AV.agg [AV.sl zi cols,AV.sl zf row,AV.mp 0],zy Sh.expr (.mk op v s [])] [AO.fmap fu])).val=if (op==[108,105,116])=true then some (.ret (zy zf v) [.fmap fu]) else if (op==[99,111,108])=true then (if (bif decide (aN cols s < 0) then true else decide (aN cols s ≥ (↑row.length:Int)))=true then some (.ret (zy zf (0,0,[])) [.fmap fu]) else if zJ (aN cols s) row.length=true then some (.ret (zy zf (row.getD (toNat (aN cols s)) (zj zf))) [.fmap fu]) else none) else opL op (0,0,[]) (0,0,[]) [.fmap fu]:=by kernel_rfl
theorem Sm (g:List (Sem zi)→List (Sem zf)→ze→V) (c:List (Sem zi)→List (Sem zf)→ze→Bool) (cols:LC) (row:LV) (op:zq) (v:V) (s:zq) (a:ze):(run (FX g c) 1 Ui (Func.results Tryz.f87).toList 600 (ao Tryz.f87) (zU (Func.ntmps Tryz.f87) [AV.agg [AV.sl zi cols,AV.sl zf row,AV.mp 0],zy Sh.expr (.mk op v s [a])] [AO.fmap fu])).val=if (op==[108,105,116])=true then some (.ret (zy zf v) [.fmap fu]) else if (op==[99,111,108])=true then (if (bif decide (aN cols s < 0) then true else decide (aN cols s ≥ (↑row.length:Int)))=true then some (.ret (zy zf (0,0,[])) [.fmap fu]) else if zJ (aN cols s) row.length=true then some (.ret (zy zf (row.getD (toNat (aN cols s)) (zj zf))) [.fmap fu]) else none) else if c cols row (.mk a.op a.v a.s a.l)=true then opL op (g cols row (.mk a.op a.v a.s a.l)) (0,0,[]) [.fmap fu] else none:=by kernel_rfl
theorem Sn (g:List (Sem zi)→List (Sem zf)→ze→V) (c:List (Sem zi)→List (Sem zf)→ze→Bool) (cols:LC) (row:LV) (op:zq) (v:V) (s:zq) (a b:ze):(run (FX g c) 1 Ui (Func.results Tryz.f87).toList 600 (ao Tryz.f87) (zU (Func.ntmps Tryz.f87) [AV.agg [AV.sl zi cols,AV.sl zf row,AV.mp 0],zy Sh.expr (.mk op v s [a,b])] [AO.fmap fu])).val=if (op==[108,105,116])=true then some (.ret (zy zf v) [.fmap fu]) else if (op==[99,111,108])=true then (if (bif decide (aN cols s < 0) then true else decide (aN cols s ≥ (↑row.length:Int)))=true then some (.ret (zy zf (0,0,[])) [.fmap fu]) else if zJ (aN cols s) row.length=true then some (.ret (zy zf (row.getD (toNat (aN cols s)) (zj zf))) [.fmap fu]) else none) else if c cols row (.mk a.op a.v a.s a.l)=true then (if c cols row (.mk b.op b.v b.s b.l)=true then opL op (g cols row (.mk a.op a.v a.s a.l)) (g cols row (.mk b.op b.v b.s b.l)) [.fmap fu] else none) else none:=by kernel_rfl

theorem lL {Φ:zp→Prop} {c:Bool} {a b:Option zp} (h1:c=true→eh Φ a) (h2:c=false→eh Φ b):eh Φ (if c=true then a else b):=by
 cases c
 ·simpa using h2 rfl
 ·simpa using h1 rfl
theorem pK {E:bb} {C:cd} {k:FuncId} {f:Func} {Q:AV→List AO→Prop} {n n0:Nat} (hE:zm E) (hf:zz E.P k f n) (hC:∀ id,n0≤id→C.ρ0 id=none) {keep:Nat→zT} {fuel:Nat}
  {todo:List Item} {st:St} {o:Option zp} (ht:(run E n0 keep f.results.toList fuel todo st).val=o) (h:eh (gm E C k Q) o):Reach E C k todo st Q:=
 zk hE hf hC rfl (by rw [ht]; exact h)

theorem pz {E:bb} {C:cd} {op:zq} {x y:V} {h:List AO} (hc:opC op=true):eh (gm E C 87 (fun r h'=>(r,h')=(zy zf (Ug op x y),h))) (opL op x y h):=by
 generalize hy:Ug op x y=z
 unfold opC at hc
 unfold Ug at hy
 unfold opL
 repeat' (refine lL (fun hsp=>?_) (fun hsp=>?_) <;> first | (rw [if_pos hsp] at hy; try rw [if_pos hsp] at hc) | (rw [if_neg (jy hsp)] at hy; try rw [if_neg (jy hsp)] at hc))
 all_goals first | (cases hc; done) | (subst hy; rfl)

def Ca (g:List (Sem zi)→List (Sem zf)→ze→V) (cols:LC) (row:LV):ze→V
 | .mk op v s l=>if (op==[108,105,116])=true then v else
  if (op==[99,111,108])=true then (if (bif decide (aN cols s < 0) then true else decide (aN cols s ≥ (↑row.length:Int)))=true then (0,0,[]) else row.getD (toNat (aN cols s)) (zj zf)) else
  match l with
  | []=>Ug op (0,0,[]) (0,0,[])
  | [a]=>Ug op (g cols row a) (0,0,[])
  | [a,b]=>Ug op (g cols row a) (g cols row b)
  | _=>(0,0,[])
def oP (c:List (Sem zi)→List (Sem zf)→ze→Bool) (cols:LC) (row:LV):ze→Bool
 | .mk _ _ _ (_::_::_::_)=>false
 | .mk op _ s l=>if (op==[108,105,116])=true then true else
  if (op==[99,111,108])=true then (if (bif decide (aN cols s < 0) then true else decide (aN cols s ≥ (↑row.length:Int)))=true then true else zJ (aN cols s) row.length) else
  match l with
  | []=>opC op
  | [a]=>if c cols row a=true then opC op else false
  | [a,b]=>if c cols row a=true then (if c cols row b=true then opC op else false) else false
  | _=>false

theorem QC {g:List (Sem zi)→List (Sem zf)→ze→V} {c:List (Sem zi)→List (Sem zf)→ze→Bool} (hg:FK 87 (FD g c)):FK 87 (FD (Ca g) (oP c)):=by
 refine bc (E:=FX g c) (Jy g c) fun x h0 res hx C hC=>?_
 unfold Rw at hx
 split at hx
 ·rename_i cols row e u k1 k2 k3 k4 k5 k6 k7 k8
  simp only [Tr.val] at hx
  split at hx
  ·rename_i hk
   split at hx
   ·rename_i hc
    simp only [aE,eG] at hk
    obtain ⟨rfl,rfl,rfl,rfl,rfl,rfl,rfl,rfl⟩:=hk
    simp only [ae] at hx
    subst hx
    obtain ⟨op,v,s,l⟩:=e
    match l,hc with
    | [],hc=>
     refine pK (n0:=1) (sH hg) (Jy g c) hC (Sl g c cols row op v s) ?_
     generalize hy:Ca g cols row (.mk op v s [])=z
     rw [oP] at hc
     rw [Ca] at hy
     repeat' (first | (subst hy; exact pz hc) | refine lL (fun hsp=>?_) (fun hsp=>?_) <;> first | (first | rw [if_pos hsp] at hy hc | rw [if_pos hsp] at hc | rw [if_pos hsp] at hy) | (first | rw [if_neg (jy hsp)] at hy hc | rw [if_neg (jy hsp)] at hc | rw [if_neg (jy hsp)] at hy) | skip)
     all_goals first | (subst hy; exact pz hc) | (subst hy; rfl) | (rw [hc] at hsp; cases hsp)
    | [a],hc=>
     refine pK (n0:=1) (sH hg) (Jy g c) hC (Sm g c cols row op v s a) ?_
     generalize hy:Ca g cols row (.mk op v s [a])=z
     rw [oP] at hc
     rw [Ca] at hy
     simp only [ze.eta]
     repeat' (first | (subst hy; exact pz hc) | refine lL (fun hsp=>?_) (fun hsp=>?_) <;> first | (first | rw [if_pos hsp] at hy hc | rw [if_pos hsp] at hc | rw [if_pos hsp] at hy) | (first | rw [if_neg (jy hsp)] at hy hc | rw [if_neg (jy hsp)] at hc | rw [if_neg (jy hsp)] at hy) | skip)
     all_goals first | (subst hy; exact pz hc) | (subst hy; rfl) | (cases hc; done) | (rw [hc] at hsp; cases hsp)
    | [a,b],hc=>
     refine pK (n0:=1) (sH hg) (Jy g c) hC (Sn g c cols row op v s a b) ?_
     generalize hy:Ca g cols row (.mk op v s [a,b])=z
     rw [oP] at hc
     rw [Ca] at hy
     simp only [ze.eta]
     repeat' (first | (subst hy; exact pz hc) | refine lL (fun hsp=>?_) (fun hsp=>?_) <;> first | (first | rw [if_pos hsp] at hy hc | rw [if_pos hsp] at hc | rw [if_pos hsp] at hy) | (first | rw [if_neg (jy hsp)] at hy hc | rw [if_neg (jy hsp)] at hc | rw [if_neg (jy hsp)] at hy) | skip)
     all_goals first | (subst hy; exact pz hc) | (subst hy; rfl) | (cases hc; done) | (rw [hc] at hsp; cases hsp)
    | _::_::_::_,hc=>
     cases hc
   ·simp at hx
  ·simp at hx
 ·simp at hx

mutual
def DT:Nat→List (Sem zi)→List (Sem zf)→ze→V
 | 0=>fun _ _ _=>(0,0,[])
 | n+1=>Ca (DT n)
def oO:Nat→List (Sem zi)→List (Sem zf)→ze→Bool
 | 0=>fun _ _ _=>false
 | n+1=>oP (oO n)
end
theorem Hf:∀ n,FK 87 (FD (DT n) (oO n))
 | 0=>by
  have h:FK 87 (zP [none,some .expr] (fun _ _=>.err)):=bc (Jy (fun _ _ _=>(0,0,[])) (fun _ _ _=>false)) (E:=wl) fun x h0 res hx=>by simp at hx
  refine xx (ι:=Unit) (Gs:=fun _ _ _=>.err) (fun _=>h) fun x h0 res hx=>?_
  unfold Rw at hx
  split at hx
  ·simp [Tr.val,oO] at hx
  ·simp at hx
 | n+1=>QC (Hf n)
def F24:zB:=FD (DT 16) (oO 16)
theorem V1:FK 87 F24:=Hf 16

noncomputable def wm:=wl.addL [(86,F23),(87,F24)]
theorem pf:zm wm:=pe.addL <| fc V0 <| fc V1 g6

abbrev zc5:Nat→zT:=fun _=>{ }
theorem ZA:zz (wm).P 85 Tryz.f85 1:=aG (by kernel_rfl)
theorem zbQ (x0:Sem Sh.expr):rn wm 0 zc5 Tryz.f85 [zy Sh.expr x0] []=Tr.chk (n6 16 (zC x0) 1 0) (Tr.ok (zp.ret (AV.bool (n8 16 (zC x0) 1 0).1) [])):=by kernel_rfl
def iR (x0:Sem Sh.expr):Sem Sh.bool:=(n8 16 x0 1 0).1
def qi (x0:Sem Sh.expr):Bool:=if n6 16 x0 1 0=true then true else false
def F22:zB:=zA [Sh.expr] [Sh.bool] (fun x=>qi x.1) fun x=>(iR x.1,())
theorem Oz:FK 85 F22:=by
 refine zM (ZA) fun x hc C hC=>?_
 unfold qi at hc
 refine zk pf (ZA) (fun id _=>hC id) (zbQ x.1) ?_
 generalize hy:iR x.1=y
 unfold iR at hy
 try simp only [ze.eta]
 repeat' (first | with_reducible refine ed hy hc (fun _ hy hc=>?_) (fun _ hy hc=>?_) | with_reducible refine aL hy (fun _ hy=>?_) (fun _ hy=>?_) | with_reducible refine aZ hc (fun hc=>?_) | with_reducible refine zn ?_)
 all_goals (subst hy; first | rfl)

abbrev kp7:Nat→zT:=fun _=>{ }
theorem ok7:zz (wm).P 27 Tryz.f27 1:=aG (by kernel_rfl)
theorem go7 (x0:Sem Sh.expr):rn wm 0 kp7 Tryz.f27 [zy Sh.expr x0] []=Tr.chk (nW 16 (zC x0) 14 80) (Tr.ok (zp.ret (AV.agg [AV.str (ze.op (jW 16 (zC x0) 14 80).1),ai (ze.v (jW 16 (zC x0) 14 80).1).1,ai (ze.v (jW 16 (zC x0) 14 80).1).2.1,AV.str (ze.v (jW 16 (zC x0) 14 80).1).2.2,AV.str (ze.s (jW 16 (zC x0) 14 80).1),AV.sl Sh.expr (ze.l (jW 16 (zC x0) 14 80).1)]) [])):=by kernel_rfl
def da (x0:Sem Sh.expr):Sem Sh.expr:=ze.mk (ze.op (jW 16 x0 14 80).1) (ze.v (jW 16 x0 14 80).1) (ze.s (jW 16 x0 14 80).1) (ze.l (jW 16 x0 14 80).1)
def Ec (x0:Sem Sh.expr):Bool:=if nW 16 x0 14 80=true then true else false
def F7:zB:=zA [Sh.expr] [Sh.expr] (fun x=>Ec x.1) fun x=>(da x.1,())
theorem WI:FK 27 F7:=by
 refine zM (ok7) fun x hc C hC=>?_
 unfold Ec at hc
 refine zk pf (ok7) (fun id _=>hC id) (go7 x.1) ?_
 generalize hy:da x.1=y
 unfold da at hy
 try simp only [ze.eta]
 repeat' (first | with_reducible refine ed hy hc (fun _ hy hc=>?_) (fun _ hy hc=>?_) | with_reducible refine aL hy (fun _ hy=>?_) (fun _ hy=>?_) | with_reducible refine aZ hc (fun hc=>?_) | with_reducible refine zn ?_)
 all_goals (subst hy; first | rfl)

noncomputable def wn:=wm.addL [(85,F22),(27,F7)]
theorem pg:zm wn:=pf.addL <| fc Oz <| fc WI g6

abbrev zc7:Nat→zT:=fun _=>{ }
theorem ZE:zz (wn).P 83 Tryz.f83 2:=aG (by kernel_rfl)
theorem zbV (x0:Sem Sh.expr) (x1:Sem zi.sl):rn wn 0 zc7 Tryz.f83 [zy Sh.expr x0,zy zi.sl x1] []=Tr.chk (qi (zC x0)) (Tr.br (!iR (zC x0)) (Tr.ok (zp.ret (AV.tup [ai 0,ai 1]) [])) (Tr.chk (gS 16 (zC x0) x1) (Tr.ok (zp.ret (AV.tup [ai (iq 16 (zC x0) x1).1,ai (iq 16 (zC x0) x1).2]) [])))):=by kernel_rfl
def hY (x0:Sem Sh.expr) (x1:Sem zi.sl):Sem zg×Sem zg:=if (!iR x0)=true then (0,1) else ((iq 16 x0 x1).1,(iq 16 x0 x1).2)
def xQ (x0:Sem Sh.expr) (x1:Sem zi.sl):Bool:=if qi x0=true then if (!iR x0)=true then true else if gS 16 x0 x1=true then true else false else false
def F30:zB:=zA [Sh.expr,zi.sl] [zg,zg] (fun x=>xQ x.1 x.2.1) fun x=>((hY x.1 x.2.1).1,(hY x.1 x.2.1).2,())
theorem OA:FK 83 F30:=by
 refine zM (ZE) fun x hc C hC=>?_
 unfold xQ at hc
 refine zk pg (ZE) (fun id _=>hC id) (zbV x.1 x.2.1) ?_
 generalize hy:hY x.1 x.2.1=y
 unfold hY at hy
 try simp only [ze.eta]
 repeat' (first | with_reducible refine ed hy hc (fun _ hy hc=>?_) (fun _ hy hc=>?_) | with_reducible refine aL hy (fun _ hy=>?_) (fun _ hy=>?_) | with_reducible refine aZ hc (fun hc=>?_) | with_reducible refine zn ?_)
 all_goals (subst hy; first | rfl)

abbrev zc3:Nat→zT:=fun _=>{ }
theorem Zt:zz (wn).P 48 Tryz.f48 3:=aG (by kernel_rfl)
theorem zbI (x0:Sem Sh.expr) (x1:Sem zi.sl) (x2:Sem zf.sl):rn wn 0 zc3 Tryz.f48 [zy Sh.expr x0,zy zi.sl x1,zy zf.sl x2] []=Tr.chk (qi (zC x0)) (Tr.br (!iR (zC x0)) (Tr.ok (zp.ret (AV.agg [ai 0,ai 0,AV.str []]) [])) (Tr.chk ([97,110,100]==[97,110,100]&&([111,114]==[111,114]&&([110,111,116]==[110,111,116]&&([61]==[61]&&([60]==[60]&&([43]==[43]&&([45]==[45]&&[110,117,108,108]==[110,117,108,108]))))))) (Tr.chk (oO 16 x1 x2 (zC x0)) (Tr.ok (zp.ret (AV.agg [ai (DT 16 x1 x2 (zC x0)).1,ai (DT 16 x1 x2 (zC x0)).2.1,AV.str (DT 16 x1 x2 (zC x0)).2.2]) []))))):=by kernel_rfl
def ky (x0:Sem Sh.expr) (x1:Sem zi.sl) (x2:Sem zf.sl):Sem zf:=if (!iR x0)=true then (0,0,[]) else DT 16 x1 x2 x0
def xP (x0:Sem Sh.expr) (x1:Sem zi.sl) (x2:Sem zf.sl):Bool:=if qi x0=true then if (!iR x0)=true then true else if ([97,110,100]==[97,110,100]&&([111,114]==[111,114]&&([110,111,116]==[110,111,116]&&([61]==[61]&&([60]==[60]&&([43]==[43]&&([45]==[45]&&[110,117,108,108]==[110,117,108,108])))))))=true then if oO 16 x1 x2 x0=true then true else false else false else false
def F11:zB:=zA [Sh.expr,zi.sl,zf.sl] [zf] (fun x=>xP x.1 x.2.1 x.2.2.1) fun x=>(ky x.1 x.2.1 x.2.2.1,())
theorem Ou:FK 48 F11:=by
 refine zM (Zt) fun x hc C hC=>?_
 unfold xP at hc
 refine zk pg (Zt) (fun id _=>hC id) (zbI x.1 x.2.1 x.2.2.1) ?_
 generalize hy:ky x.1 x.2.1 x.2.2.1=y
 unfold ky at hy
 try simp only [ze.eta]
 repeat' (first | with_reducible refine ed hy hc (fun _ hy hc=>?_) (fun _ hy hc=>?_) | with_reducible refine aL hy (fun _ hy=>?_) (fun _ hy=>?_) | with_reducible refine aZ hc (fun hc=>?_) | with_reducible refine zn ?_)
 all_goals (subst hy; first | rfl)

noncomputable def OR:=wn.addL [(83,F30),(48,F11)]
theorem F4:zm OR:=pg.addL <| fc OA <| fc Ou g6

theorem kk (d:Int) (h1:-1000≤d) (h2:d≤1000):IntKind.i64.wrap d=d:=by
 rw [IntKind.wrap_i64]; omega

theorem wW {g:Sem Sh.expr→Sem zg→Sem zg→Sem Sh.expr×Sem zg} {c:Sem Sh.expr→Sem zg→Sem zg→Bool} {i1:Int} (h:∀ x n,0 < i1→c x (IntKind.i64.wrap (i1 - 1)) n=true) {a0:zq} {a1 a2:Int} {a3 a4 b0:zq} {b1 b2:Int} {b3 b4 d0:zq} {d1 d2:Int} {d3 d4:zq}:
  ∀ (l:List (Sem Sh.expr)) (i n:Int) (acc:List (Sem Sh.expr)),(acc.length:Int)≤i→cm g c i1 a0 a1 a2 a3 a4 b0 b1 b2 b3 b4 d0 d1 d2 d3 d4 l i n acc=true
 | [],_,_,_,_=>rfl
 | x::r,i,n,acc,hi=>by
  rw [cm]
  split
  ·rename_i hk
   have h3:i < 3∧i1 > 0:=by
    cases h1:decide (i < 3) <;> cases h2:decide (i1 > 0) <;> simp_all
   rw [if_pos (h x n h3.2),if_pos (by simp; omega)]
   exact wW h r (i+1) _ _ (by simp; omega)
  ·rfl

theorem CT {g:Sem Sh.expr→Sem zg→Sem zg→Sem Sh.expr×Sem zg} {c:Sem Sh.expr→Sem zg→Sem zg→Bool} {i1:Int} (h:∀ x n,0 < i1→c x (IntKind.i64.wrap (i1 - 1)) n=true) (e:ze) (n:Int):Bj g c e i1 n=true:=by
 have hl:=fun a0 a1 a2 a3 a4 b0 b1 b2 b3 b4 d0 d1 d2 d3 d4 l n=>wW (g:=g) h (a0:=a0) (a1:=a1) (a2:=a2) (a3:=a3) (a4:=a4) (b0:=b0) (b1:=b1) (b2:=b2) (b3:=b3) (b4:=b4) (d0:=d0) (d1:=d1) (d2:=d2) (d3:=d3) (d4:=d4) l 0 n [] (by simp)
 unfold Bj
 repeat' split
 all_goals first
  | exact hl _ _ _ _ _ _ _ _ _ _ _ _ _ _ _ _ _
  | (exfalso; simp only [ah,aE,not_and] at *; omega)

theorem tv:∀ (N:Nat) (e:ze) (d n:Int),0≤d→d < N→N≤100→nW N e d n=true
 | 0,_,_,_,h1,h2,_=>by omega
 | N+1,e,d,n,h1,h2,h3=>by
  rw [nW]
  refine CT (fun x m hd=>?_) e n
  rw [kk _ (by omega) (by omega)]
  exact tv N x (d - 1) m (by omega) (by omega) (by omega)

theorem tS {g:ze→Int→Int→Bool×Int} {c:ze→Int→Int→Bool} {d:Int} (h:∀ x n,c x (IntKind.i64.wrap (d+1)) n=true):∀ (l:List ze) (n:Int),tR g c d l n=true
 | [],_=>rfl
 | x::r,n=>by
  rw [tR,if_pos (h x n)]
  split
  ·rfl
  ·exact tS h r _

theorem tQ:∀ (N:Nat) (e:ze) (d n:Int),0≤d→d≤13→14≤d+N→n6 N e d n=true
 | 0,_,_,_,_,_,_=>by omega
 | N+1,e,d,n,h1,h2,h3=>by
  rw [n6]
  unfold EG
  by_cases hd:d > 12
  ·simp [hd]
  ·have hl:tR (n8 N) (n6 N) d e.l (IntKind.i64.wrap (n+1))=true:=tS (fun x m=>by
    rw [kk _ (by omega) (by omega)]
    exact tQ N x (d+1) m (by omega) (by omega) (by omega)) _ _
   repeat' split
   all_goals first | rfl | exact hl

abbrev zdq:ze:=.mk [] (0,0,[]) [] []

theorem DF (N:Nat) (e:ze):j8 (N+1) e zdq=true:=by
 rw [j8]
 unfold yZ
 have hl:wS (qC N) (j8 N) e.l []=true:=by
  unfold wS
  split
  ·rfl
  ·cases e.l <;> rfl
 show (bif e.op==[] then bif eqV e.v (0,0,[]) then bif e.s==[] then wS (qC N) (j8 N) e.l [] else true else true else true)=true
 rw [hl]
 cases e.op==[] <;> cases eqV e.v (0,0,[]) <;> cases e.s==[] <;> rfl

theorem jZ {α:Type} (p:α→Bool):∀ (l:List α) (i:Nat),zQ p l i=-1∨((i:Int)≤zQ p l i∧zQ p l i < i+l.length)
 | [],_=>.inl rfl
 | x::r,i=>by
  unfold zQ
  split
  ·exact .inr ⟨by omega,by simp; omega⟩
  ·rcases jZ p r (i+1) with h | ⟨h1,h2⟩
   ·exact .inl h
   ·exact .inr ⟨by omega,by simp; omega⟩

theorem xG (l:List (Sem zi)) (s:zq):aN l s=-1∨(0≤aN l s∧aN l s < l.length):=by
 have:=jZ (fun c:Sem zi=>c.1==s) l 0
 unfold aN
 simpa using this

theorem ly (op:zq):(cX op=0∧(op=[108,105,116]∨op=[99,111,108]))∨(cX op=1∧(op=[110,111,116]∨op=[110,117,108,108]))∨
  (cX op=2∧(op=[97,110,100]∨op=[111,114]∨op=[61]∨op=[60]∨op=[43]∨op=[45]))∨cX op=-1:=by
 unfold cX E2
 simp only [T3]
 repeat' split
 all_goals simp_all

theorem py {g:ze→Int→Int→Bool×Int} {e:ze} {d n:Int} (h:(Bz g e d n).1=true):(e.l.length:Int)=cX e.op∧
  ((e.op=[108,105,116]∨e.op=[99,111,108])∨(vF g d e.l (IntKind.i64.wrap (n+1))).1=true):=by
 unfold Bz at h
 split at h
 ·cases h
 ·rename_i h1
  have hl:(e.l.length:Int)=cX e.op:=by
   cases h2:decide (d > 12) <;> cases h3:decide (IntKind.i64.wrap (n+1) > 60) <;> simp_all
  refine ⟨hl,?_⟩
  split at h
  ·rename_i h2; exact .inl (.inl (by simpa using h2))
  ·split at h
   ·rename_i h2; exact .inl (.inr (by simpa using h2))
   ·split at h
    ·cases h
    ·exact .inr h

theorem n7 {g:ze→Int→Int→Bool×Int} {d:Int}:∀ (l:List ze) (n:Int),(vF g d l n).1=true→∀ x∈l,∃ m,(g x (IntKind.i64.wrap (d+1)) m).1=true
 | [],_,_,_,hx=>by simp at hx
 | y::r,n,h,x,hx=>by
  rw [vF] at h
  split at h
  ·cases h
  ·rename_i hy
   rcases dV.1 hx with rfl | hx
   ·exact ⟨n,by simpa using hy⟩
   ·exact n7 r _ h x hx

theorem qI {g:ze→List (Sem zi)→Int×Int} {c:ze→List (Sem zi)→Bool} {cols:List (Sem zi)} {op:zq} {a1 a2:Int} {a3 a4:zq} {w:List ze}:
    ∀ (l:List ze) (i:Int) (acc:List Int),(∀ x∈l,c x cols=true)→((acc.length:Int)+l.length)=cX op→dS g c cols op a1 a2 a3 a4 w l i acc=true
  | [], i,acc,_,hp=>by
    have hp:(acc.length:Int)=cX op:=by simpa using hp
    have hcp:decide (aN cols a4 < 0)=true∨zJ (aN cols a4) cols.length=true:=by
      rcases xG cols a4 with h | ⟨h1,h2⟩
      · exact .inl (by rw [h]; rfl)
      · exact .inr (by simp [zJ,h1,h2])
    have h2:op=[61]∨op=[60]→acc.length=2:=by
      rintro (rfl | rfl)
      · have:cX [61]=2:=by decide
        omega
      · have:cX [60]=2:=by decide
        omega
    unfold dS
    repeat' split
    all_goals first
      | rfl
      | (exfalso; rcases hcp with h | h <;> simp_all; done)
      | (exfalso
         rename_i h7 h8
         have h9:=h2 (by simp_all)
         rw [h9] at h8
         exact h8 (by cases hA:(acc.getD (toNat 0) (zj zg)==acc.getD (toNat 1) (zj zg)) <;> cases hB:(acc.getD (toNat 0) (zj zg)==0) <;> rfl))
  | x :: r,i,acc,hc,hp=>by
    have hle:cX op≤2:=by rcases ly op with h | h | h | h <;> omega
    rw [dS,if_pos (hc x (by simp))]
    split
    · rfl
    · rw [if_pos (by simp at hp ⊢; omega)]
      exact qI r (i+1) _ (fun y hy=>hc y (by simp [hy])) (by simp at hp ⊢; omega)

theorem oN:∀ (N:Nat) (e:ze) (d n:Int) (cols:List (Sem zi)),(n8 N e d n).1=true→gS N e cols=true
 | 0,_,_,_,_,h=>by cases h
 | N+1,e,d,n,cols,h=>by
  rw [n8] at h
  obtain ⟨hl,h2⟩:=py h
  rw [gS]
  unfold rF
  refine qI e.l 0 [] (fun x hx=>?_) (by simpa using hl)
  rcases h2 with h2 | h2
  ·exfalso
   have:cX e.op=0:=by
    rcases h2 with h2 | h2 <;> rw [h2] <;> decide
   rw [this] at hl
   have:e.l=[]:=Aw (by omega)
   rw [this] at hx; simp at hx
  ·obtain ⟨m,hm⟩:=n7 e.l _ h2 x hx
   exact oN N x _ _ cols hm

theorem uW:∀ (N:Nat) (e:ze) (d n:Int) (cols:List (Sem zi)) (row:List (Sem zf)),(n8 N e d n).1=true→oO N cols row e=true
 | 0,_,_,_,_,_,h=>by cases h
 | N + 1,.mk op v s l,d,n,cols,row,h=>by
  rw [n8] at h
  obtain ⟨hl,h2⟩:=py h
  have hl:(l.length:Int)=cX op:=hl
  have h2:(op=[108,105,116]∨op=[99,111,108])∨(vF (n8 N) d l (IntKind.i64.wrap (n+1))).1=true:=h2
  have hx:∀ x∈l,(¬ (op=[108,105,116]∨op=[99,111,108]))→oO N cols row x=true:=by
   intro x hx hno
   rcases h2 with h2 | h2
   ·exact (hno h2).elim
   ·obtain ⟨m,hm⟩:=n7 l _ h2 x hx
    exact uW N x _ _ cols row hm
  have hcol:(if (bif decide (aN cols s < 0) then true else decide (aN cols s ≥ (↑row.length:Int)))=true then true else zJ (aN cols s) row.length)=true:=by
   split
   ·rfl
   ·rename_i hh
    have h1:0≤aN cols s∧aN cols s < row.length:=by
     cases hq:decide (aN cols s < 0)
     ·rw [hq] at hh
      simp at hq hh
      exact ⟨hq,hh⟩
     ·rw [hq] at hh; simp at hh
    simp [zJ,h1.1,h1.2]
  rw [oO]
  rcases ly op with ⟨hp,ho⟩ | ⟨hp,ho⟩ | ⟨hp,ho⟩ | hp
  ·have:l=[]:=Aw (by omega)
   subst this
   rcases ho with rfl | rfl
   ·rfl
   ·rw [oP]; exact hcol
  ·match l,hl,hx with
   | [a],_,hx=>
    rcases ho with rfl | rfl
    ·rw [oP]; exact (if_pos (hx a (by simp) (by decide))).trans rfl
    ·rw [oP]; exact (if_pos (hx a (by simp) (by decide))).trans rfl
   | [],hl,_=>simp at hl; omega
   | _::_::_,hl,_=>simp at hl; omega
  ·match l,hl,hx with
   | [a,b],_,hx=>
    rcases ho with rfl | rfl | rfl | rfl | rfl | rfl <;>
     (rw [oP]; exact (if_pos (hx a (by simp) (by decide))).trans ((if_pos (hx b (by simp) (by decide))).trans rfl))
   | [],hl,_=>simp at hl; omega
   | [_],hl,_=>simp at hl; omega
   | _::_::_::_,hl,_=>simp at hl; omega
  ·omega

theorem m8 (e:ze):qi e=true:=by
 unfold qi
 rw [if_pos (tQ 16 e 1 0 (by omega) (by omega) (by omega))]
theorem Cx (e:ze):Ec e=true:=by
 unfold Ec
 rw [if_pos (tv 16 e 14 80 (by omega) (by omega) (by omega))]
theorem AX (e:ze) (cols:List (Sem zi)):xQ e cols=true:=by
 unfold xQ
 rw [if_pos (m8 e)]
 split
 ·rfl
 ·rename_i h
  rw [if_pos (oN 16 e 1 0 cols (by simpa [iR] using h))]
theorem AW (e:ze) (cols:List (Sem zi)) (row:List (Sem zf)):xP e cols row=true:=by
 unfold xP
 rw [if_pos (m8 e)]
 split
 ·rfl
 ·rename_i h
  rw [if_pos (by decide),if_pos (uW 16 e 1 0 cols row (by simpa [iR] using h))]

def U6:zB:=zX [Sh.expr] [Sh.bool] fun x=>(iR x.1,())
theorem Qz:FK 85 U6:=dM Oz fun x=>m8 x.1
def F7t:zB:=zX [Sh.expr] [Sh.expr] fun x=>(da x.1,())
theorem WP:FK 27 F7t:=dM WI fun x=>Cx x.1
def Va:zB:=zX [Sh.expr,zi.sl] [zg,zg] fun x=>((hY x.1 x.2.1).1,(hY x.1 x.2.1).2,())
theorem QF:FK 83 Va:=dM OA fun x=>AX x.1 x.2.1
def UA:zB:=zX [Sh.expr,zi.sl,zf.sl] [zf] fun x=>(ky x.1 x.2.1 x.2.2.1,())
theorem P5:FK 48 UA:=dM Ou fun x=>AW x.1 x.2.1 x.2.2.1

noncomputable def kA:=OR.addL [(85,U6),(27,F7t),(83,Va),(48,UA)]
theorem fC:zm kA:=F4.addL <| fc Qz <| fc WP <| fc QF <| fc P5 g6

abbrev zc4:Nat→zT:=fun _=>{ }
theorem Zy:zz (kA).P 75 Tryz.f75 2:=aG (by kernel_rfl)
theorem zbO (x0:Sem Sh.expr) (x1:Sem zi.sl):rn kA 0 zc4 Tryz.f75 [zy Sh.expr x0,zy zi.sl x1] []=Tr.chk (j8 16 (zC x0) (ze.mk [] (0,0,[]) [] [])) (Tr.br (qC 16 (zC x0) (ze.mk [] (0,0,[]) [] [])) (Tr.ok (zp.ret (ai 0) [])) (Tr.br (bif (hY (zC x0) x1).2==0 then bif (hY (zC x0) x1).1 != 3 then (hY (zC x0) x1).1 != 0 else false else false) (Tr.ok (zp.ret (ai 5) [])) (Tr.ok (zp.ret (ai (hY (zC x0) x1).2) [])))):=by kernel_rfl
def nr (x0:Sem Sh.expr) (x1:Sem zi.sl):Sem zg:=(if qC 16 x0 (ze.mk [] (0,0,[]) [] [])=true then 0 else if (bif (hY x0 x1).2==0 then bif (hY x0 x1).1 != 3 then (hY x0 x1).1 != 0 else false else false)=true then 5 else (hY x0 x1).2)
def rz (x0:Sem Sh.expr) (_:Sem zi.sl):Bool:=(if j8 16 x0 (ze.mk [] (0,0,[]) [] [])=true then true else false)
def F19:zB:=zA [Sh.expr,zi.sl] [zg] (fun x=>rz x.1 x.2.1) fun x=>(nr x.1 x.2.1,())
theorem Oy:FK 75 F19:=by
 refine zM (Zy) fun x hc C hC=>?_
 unfold rz at hc
 refine zk fC (Zy) (fun id _=>hC id) (zbO x.1 x.2.1) ?_
 generalize hy:nr x.1 x.2.1=y
 unfold nr at hy
 try simp only [ze.eta]
 repeat' (first | with_reducible refine ed hy hc (fun _ hy hc=>?_) (fun _ hy hc=>?_) | with_reducible refine aL hy (fun _ hy=>?_) (fun _ hy=>?_) | with_reducible refine aZ hc (fun hc=>?_) | with_reducible refine zn ?_)
 all_goals (subst hy; first | rfl)

abbrev kp5:Nat→zT:=fun j=>if j=3 then { slots:=[1,2,3,4],prom:=[(3,some 3,zg)] } else if j=7 then { slots:=[1,2,3,5],prom:=[(3,some 4,zo)] } else { }
abbrev Ks (i4:Int) (ja0:TS) (ja1:LC) (ja2:Sem zg) (ja3:LI) (ja4:LF) (ja5:zq) (ja6:Int) (ja7:Int) (ja8:zq) (ja9:zq) (ja10:LX) (jb0:List UInt8) (jb2:Int) (jb5:List UInt8) (jb6:Int) (jb7:Int) (jb8:List UInt8) (jb9:List UInt8) (jc0:TS) (jc1:LC) (jc2:Sem zg) (jc5:zq) (jc6:Int) (jc7:Int) (jc8:zq) (jc9:zq) (jc10:LX) (lh_3:LI):St:={ tmps:=(tm 70 [(1,AV.ptr 0 0),(2,AV.ptr 1 0),(3,AV.ptr 2 0),(4,ai i4)]),heap:=[AO.box [AV.str ja0,AV.sl zi ja1,ai ja2,AV.sl zg ja3,AV.sl zo ja4,AV.str ja5,ai ja6,ai ja7,AV.str ja8,AV.str ja9,AV.sl Sh.expr ja10],AO.box [AV.str jb0,AV.nils,ai jb2,AV.nils,AV.nils,AV.str jb5,ai jb6,ai jb7,AV.str jb8,AV.str jb9,AV.nils],AO.box [AV.str jc0,AV.sl zi jc1,ai jc2,AV.vec 3,AV.nils,AV.str jc5,ai jc6,ai jc7,AV.str jc8,AV.str jc9,AV.sl Sh.expr jc10],AO.vec zg lh_3] }
theorem Uf:zz (kA).P 63 Tryz.f63 1:=aG (by kernel_rfl)
theorem go5 (x0:Sem zE):rn kA 0 kp5 Tryz.f63 [zy zE x0] []=Tr.ok (zp.head 3 (zw Tryz.f63 3) (Ks 0 x0.1 x0.2.1 x0.2.2.1 x0.2.2.2.1 x0.2.2.2.2.1 (ze.op x0.2.2.2.2.2) (ze.v x0.2.2.2.2.2).1 (ze.v x0.2.2.2.2.2).2.1 (ze.v x0.2.2.2.2.2).2.2 (ze.s x0.2.2.2.2.2) (ze.l x0.2.2.2.2.2) [] 0 [] 0 0 [] [] (uF x0.1) (ls x0.2.1) x0.2.2.1 (ze.op (da (zC x0.2.2.2.2.2))) (ze.v (da (zC x0.2.2.2.2.2))).1 (ze.v (da (zC x0.2.2.2.2.2))).2.1 (ze.v (da (zC x0.2.2.2.2.2))).2.2 (ze.s (da (zC x0.2.2.2.2.2))) (ze.l (da (zC x0.2.2.2.2.2))) [])):=by kernel_rfl
abbrev Kt (i5:Int) (ja0:TS) (ja1:LC) (ja2:Sem zg) (ja3:LI) (ja4:LF) (ja5:zq) (ja6:Int) (ja7:Int) (ja8:zq) (ja9:zq) (ja10:LX) (jb0:List UInt8) (jb2:Int) (jb5:List UInt8) (jb6:Int) (jb7:Int) (jb8:List UInt8) (jb9:List UInt8) (jc0:TS) (jc1:LC) (jc2:Sem zg) (jc5:zq) (jc6:Int) (jc7:Int) (jc8:zq) (jc9:zq) (jc10:LX) (lh_3:LI) (lh_4:LF):St:={ tmps:=(tm 70 [(1,AV.ptr 0 0),(2,AV.ptr 1 0),(3,AV.ptr 2 0),(5,ai i5)]),heap:=[AO.box [AV.str ja0,AV.sl zi ja1,ai ja2,AV.sl zg ja3,AV.sl zo ja4,AV.str ja5,ai ja6,ai ja7,AV.str ja8,AV.str ja9,AV.sl Sh.expr ja10],AO.box [AV.str jb0,AV.nils,ai jb2,AV.nils,AV.nils,AV.str jb5,ai jb6,ai jb7,AV.str jb8,AV.str jb9,AV.nils],AO.box [AV.str jc0,AV.sl zi jc1,ai jc2,AV.vec 3,AV.vec 4,AV.str jc5,ai jc6,ai jc7,AV.str jc8,AV.str jc9,AV.sl Sh.expr jc10],AO.vec zg lh_3,AO.vec zo lh_4] }
theorem PB (i4:Int) (ja0:TS) (ja1:LC) (ja2:Sem zg) (ja3:LI) (ja4:LF) (ja5:zq) (ja6:Int) (ja7:Int) (ja8:zq) (ja9:zq) (ja10:LX) (jb0:List UInt8) (jb2:Int) (jb5:List UInt8) (jb6:Int) (jb7:Int) (jb8:List UInt8) (jb9:List UInt8) (jc0:TS) (jc1:LC) (jc2:Sem zg) (jc5:zq) (jc6:Int) (jc7:Int) (jc8:zq) (jc9:zq) (jc10:LX) (lh_3:LI):rh kA 0 kp5 Tryz.f63 3 (Ks i4 ja0 ja1 ja2 ja3 ja4 ja5 ja6 ja7 ja8 ja9 ja10 jb0 jb2 jb5 jb6 jb7 jb8 jb9 jc0 jc1 jc2 jc5 jc6 jc7 jc8 jc9 jc10 lh_3)=Tr.br (bif decide (i4 < (↑ja3.length:Int)) then decide (i4 < 10) else false) (Tr.chk (zJ i4 ja3.length) (Tr.chk (decide (lh_3.length+[ja3.getD i4.toNat (zj zg)].length≤1073741824)) (Tr.ok (zp.head 3 (zw Tryz.f63 3) (Ks (IntKind.i64.wrap (i4+1)) ja0 ja1 ja2 ja3 ja4 ja5 ja6 ja7 ja8 ja9 ja10 jb0 jb2 jb5 jb6 jb7 jb8 jb9 jc0 jc1 jc2 jc5 jc6 jc7 jc8 jc9 jc10 (lh_3++[ja3.getD i4.toNat (zj zg)])))))) (Tr.ok (zp.head 7 (zw Tryz.f63 7) (Kt 0 ja0 ja1 ja2 ja3 ja4 ja5 ja6 ja7 ja8 ja9 ja10 jb0 jb2 jb5 jb6 jb7 jb8 jb9 jc0 jc1 jc2 jc5 jc6 jc7 jc8 jc9 jc10 lh_3 []))):=by kernel_rfl
theorem PC (i5:Int) (ja0:TS) (ja1:LC) (ja2:Sem zg) (ja3:LI) (ja4:LF) (ja5:zq) (ja6:Int) (ja7:Int) (ja8:zq) (ja9:zq) (ja10:LX) (jb0:List UInt8) (jb2:Int) (jb5:List UInt8) (jb6:Int) (jb7:Int) (jb8:List UInt8) (jb9:List UInt8) (jc0:TS) (jc1:LC) (jc2:Sem zg) (jc5:zq) (jc6:Int) (jc7:Int) (jc8:zq) (jc9:zq) (jc10:LX) (lh_3:LI) (lh_4:LF):rh kA 0 kp5 Tryz.f63 7 (Kt i5 ja0 ja1 ja2 ja3 ja4 ja5 ja6 ja7 ja8 ja9 ja10 jb0 jb2 jb5 jb6 jb7 jb8 jb9 jc0 jc1 jc2 jc5 jc6 jc7 jc8 jc9 jc10 lh_3 lh_4)=Tr.br (bif decide (i5 < (↑ja4.length:Int)) then decide (i5 < 10) else false) (Tr.chk (zJ i5 ja4.length) (Tr.chk (zJ i5 ja4.length) (Tr.chk (decide (lh_4.length+[((ja4.getD i5.toNat (zj zo)).1,uF (ja4.getD i5.toNat (zj zo)).2)].length≤1073741824)) (Tr.ok (zp.head 7 (zw Tryz.f63 7) (Kt (IntKind.i64.wrap (i5+1)) ja0 ja1 ja2 ja3 ja4 ja5 ja6 ja7 ja8 ja9 ja10 jb0 jb2 jb5 jb6 jb7 jb8 jb9 jc0 jc1 jc2 jc5 jc6 jc7 jc8 jc9 jc10 lh_3 (lh_4++[((ja4.getD i5.toNat (zj zo)).1,uF (ja4.getD i5.toNat (zj zo)).2)]))))))) (Tr.ok (zp.ret (AV.agg [AV.str jc0,AV.sl zi jc1,ai jc2,AV.vec 0,AV.vec 1,AV.str jc5,ai jc6,ai jc7,AV.str jc8,AV.str jc9,AV.sl Sh.expr jc10])
 [AO.vec zg lh_3,AO.vec zo lh_4])):=by kernel_rfl
def fe (ja0:TS) (ja1:LC) (ja2:Sem zg) (ja3:LI) (ja5:zq) (ja6:Int) (ja7:Int) (ja8:zq) (ja9:zq) (ja10:LX) (jb0:List UInt8) (jb2:Int) (jb5:List UInt8) (jb6:Int) (jb7:Int) (jb8:List UInt8) (jb9:List UInt8) (jc0:TS) (jc1:LC) (jc2:Sem zg) (jc5:zq) (jc6:Int) (jc7:Int) (jc8:zq) (jc9:zq) (jc10:LX) (lh_3:LI):List (Sem zo)→Int→List (Sem zo)→Sem zE
 | [],_,lh_4=>((jc0,jc1,jc2,lh_3,lh_4,ze.mk jc5 (jc6,jc7,jc8) jc9 jc10))
 | x::r,i5,lh_4=>(if decide (i5 < 10)=true then
 fe ja0 ja1 ja2 ja3 ja5 ja6 ja7 ja8 ja9 ja10 jb0 jb2 jb5 jb6 jb7 jb8 jb9 jc0 jc1 jc2 jc5
  jc6 jc7 jc8 jc9 jc10 lh_3 r (i5+1) (lh_4++[(x.1,uF x.2)])
else (jc0,jc1,jc2,lh_3,lh_4,ze.mk jc5 (jc6,jc7,jc8) jc9 jc10))
def gQ (ja0:TS) (ja1:LC) (ja2:Sem zg) (ja3:LI) (ja5:zq) (ja6:Int) (ja7:Int) (ja8:zq) (ja9:zq) (ja10:LX) (jb0:List UInt8) (jb2:Int) (jb5:List UInt8) (jb6:Int) (jb7:Int) (jb8:List UInt8) (jb9:List UInt8) (jc0:TS) (jc1:LC) (jc2:Sem zg) (jc5:zq) (jc6:Int) (jc7:Int) (jc8:zq) (jc9:zq) (jc10:LX) (lh_3:LI):List (Sem zo)→Int→List (Sem zo)→Bool
 | [],_,_=>(true)
 | x::r,i5,lh_4=>(if decide (i5 < 10)=true then
 if decide (lh_4.length+[(x.1,uF x.2)].length≤1073741824)=true then
  gQ ja0 ja1 ja2 ja3 ja5 ja6 ja7 ja8 ja9 ja10 jb0 jb2 jb5 jb6 jb7 jb8 jb9 jc0 jc1 jc2 jc5
   jc6 jc7 jc8 jc9 jc10 lh_3 r (i5+1) (lh_4++[(x.1,uF x.2)])
 else false
else true)
theorem Xy {C:cd} (hC:∀ id,C.ρ0 id=none) (ja0:TS) (ja1:LC) (ja2:Sem zg) (ja3:LI) (ja5:zq) (ja6:Int) (ja7:Int) (ja8:zq) (ja9:zq) (ja10:LX) (jb0:List UInt8) (jb2:Int) (jb5:List UInt8) (jb6:Int) (jb7:Int) (jb8:List UInt8) (jb9:List UInt8) (jc0:TS) (jc1:LC) (jc2:Sem zg) (jc5:zq) (jc6:Int) (jc7:Int) (jc8:zq) (jc9:zq) (jc10:LX) (lh_3:LI) (ja4:LF) (hl:ja4.length≤zD):∀ (m i:Nat) (lh_4:LF),ja4.length - i=m→i≤ja4.length→gQ ja0 ja1 ja2 ja3 ja5 ja6 ja7 ja8 ja9 ja10 jb0 jb2 jb5 jb6 jb7 jb8 jb9 jc0 jc1 jc2 jc5 jc6 jc7 jc8 jc9 jc10 lh_3 (ja4.drop i) i lh_4=true→
  Reach (kA) C 63 (zw Tryz.f63 7) (Kt (i:Int) ja0 ja1 ja2 ja3 ja4 ja5 ja6 ja7 ja8 ja9 ja10 jb0 jb2 jb5 jb6 jb7 jb8 jb9 jc0 jc1 jc2 jc5 jc6 jc7 jc8 jc9 jc10 lh_3 lh_4) (fun r h=>zY h [zE] r=some (fe ja0 ja1 ja2 ja3 ja5 ja6 ja7 ja8 ja9 ja10 jb0 jb2 jb5 jb6 jb7 jb8 jb9 jc0 jc1 jc2 jc5 jc6 jc7 jc8 jc9 jc10 lh_3 (ja4.drop i) i lh_4,())):=by
 intro m
 induction m with
 | zero=>
  intro i lh_4 hm hi hc
  obtain rfl:i=ja4.length:=by omega
  rw [dq] at hc ⊢
  refine zk fC (Uf) (fun id _=>hC id) (PC _ _ _ _ _ _ _ _ _ _ _ _ _ _ _ _ _ _ _ _ _ _ _ _ _ _ _ _ _ _) ?_
  rw [gQ] at hc
  generalize hy:fe ja0 ja1 ja2 ja3 ja5 ja6 ja7 ja8 ja9 ja10 jb0 jb2 jb5 jb6 jb7 jb8 jb9 jc0 jc1 jc2 jc5 jc6 jc7 jc8 jc9 jc10 lh_3 [] _ lh_4=y
  rw [fe] at hy
  simp only [af,bS,Tr.val_brF]
  repeat' (first | with_reducible refine ed hy hc (fun _ hy hc=>?_) (fun _ hy hc=>?_) | with_reducible refine aL hy (fun _ hy=>?_) (fun _ hy=>?_) | with_reducible refine aZ hc (fun hc=>?_) | with_reducible refine zn ?_)
  all_goals (subst hy; first | (change Reach _ _ _ _ _ _; apply Cl hC <;> first | assumption | exact hc) | rfl)
 | succ m IH=>
  intro i lh_4 hm hi hc
  have hlt:i < ja4.length:=by omega
  have IH:=IH (i+1)
  have hcast:((i:Int)+1)=((i+1:Nat):Int):=by omega
  have hwr:=zG i (by omega)
  rw [ez hlt] at hc ⊢
  refine zk fC (Uf) (fun id _=>hC id) (PC _ _ _ _ _ _ _ _ _ _ _ _ _ _ _ _ _ _ _ _ _ _ _ _ _ _ _ _ _ _) ?_
  rw [gQ] at hc
  generalize hy:fe ja0 ja1 ja2 ja3 ja5 ja6 ja7 ja8 ja9 ja10 jb0 jb2 jb5 jb6 jb7 jb8 jb9 jc0 jc1 jc2 jc5 jc6 jc7 jc8 jc9 jc10 lh_3 (ja4[i]::ja4.drop (i+1)) (i:Int) lh_4=y
  rw [fe] at hy
  simp only [zV hlt,zF hlt,zZ ja4 _ hlt,hwr,bG]
  clear hwr
  simp only [hcast] at hy
  try simp only [hcast] at hc
  repeat' (first | with_reducible refine ed hy hc (fun _ hy hc=>?_) (fun _ hy hc=>?_) | with_reducible refine aL hy (fun _ hy=>?_) (fun _ hy=>?_) | with_reducible refine aZ hc (fun hc=>?_) | with_reducible refine zn ?_)
  all_goals (subst hy; first | (change Reach _ _ _ _ _ _; apply IH <;> first | omega | assumption) | (change Reach _ _ _ _ _ _; apply Cl hC <;> first | assumption | exact hc) | rfl)
theorem Cm {C:cd} (hC:∀ id,C.ρ0 id=none) (ja0:TS) (ja1:LC) (ja2:Sem zg) (ja3:LI) (ja5:zq) (ja6:Int) (ja7:Int) (ja8:zq) (ja9:zq) (ja10:LX) (jb0:List UInt8) (jb2:Int) (jb5:List UInt8) (jb6:Int) (jb7:Int) (jb8:List UInt8) (jb9:List UInt8) (jc0:TS) (jc1:LC) (jc2:Sem zg) (jc5:zq) (jc6:Int) (jc7:Int) (jc8:zq) (jc9:zq) (jc10:LX) (lh_3:LI) (ja4:LF) (lh_4:LF) (hc:gQ ja0 ja1 ja2 ja3 ja5 ja6 ja7 ja8 ja9 ja10 jb0 jb2 jb5 jb6 jb7 jb8 jb9 jc0 jc1 jc2 jc5 jc6 jc7 jc8 jc9 jc10 lh_3 ja4 0 lh_4=true):
  Reach (kA) C 63 (zw Tryz.f63 7) (Kt 0 ja0 ja1 ja2 ja3 ja4 ja5 ja6 ja7 ja8 ja9 ja10 jb0 jb2 jb5 jb6 jb7 jb8 jb9 jc0 jc1 jc2 jc5 jc6 jc7 jc8 jc9 jc10 lh_3 lh_4) (fun r h=>zY h [zE] r=some (fe ja0 ja1 ja2 ja3 ja5 ja6 ja7 ja8 ja9 ja10 jb0 jb2 jb5 jb6 jb7 jb8 jb9 jc0 jc1 jc2 jc5 jc6 jc7 jc8 jc9 jc10 lh_3 ja4 0 lh_4,())):=
 Reach.lenB 0 4 (zg.pr Sh.str) ja4 rfl rfl fun hl=>Xy hC ja0 ja1 ja2 ja3 ja5 ja6 ja7 ja8 ja9 ja10 jb0 jb2 jb5 jb6 jb7 jb8 jb9 jc0 jc1 jc2 jc5 jc6 jc7 jc8 jc9 jc10 lh_3 ja4 hl _ 0 lh_4 rfl (be _) hc
def eD (ja0:TS) (ja1:LC) (ja2:Sem zg) (ja4:LF) (ja5:zq) (ja6:Int) (ja7:Int) (ja8:zq) (ja9:zq) (ja10:LX) (jb0:List UInt8) (jb2:Int) (jb5:List UInt8) (jb6:Int) (jb7:Int) (jb8:List UInt8) (jb9:List UInt8) (jc0:TS) (jc1:LC) (jc2:Sem zg) (jc5:zq) (jc6:Int) (jc7:Int) (jc8:zq) (jc9:zq) (jc10:LX) (ja3:LI):List (Sem zg)→Int→List (Sem zg)→Sem zE
 | [],_,lh_3=>(fe ja0 ja1 ja2 ja3 ja5 ja6 ja7 ja8 ja9 ja10 jb0 jb2 jb5 jb6 jb7 jb8 jb9 jc0 jc1 jc2 jc5
 jc6 jc7 jc8 jc9 jc10 lh_3 ja4 0 [])
 | x::r,i4,lh_3=>(if decide (i4 < 10)=true then
 eD ja0 ja1 ja2 ja4 ja5 ja6 ja7 ja8 ja9 ja10 jb0 jb2 jb5 jb6 jb7 jb8 jb9 jc0 jc1 jc2 jc5
  jc6 jc7 jc8 jc9 jc10 ja3 r (i4+1) (lh_3++[x])
else
 fe ja0 ja1 ja2 ja3 ja5 ja6 ja7 ja8 ja9 ja10 jb0 jb2 jb5 jb6 jb7 jb8 jb9 jc0 jc1 jc2 jc5
  jc6 jc7 jc8 jc9 jc10 lh_3 ja4 0 [])
def gP (ja0:TS) (ja1:LC) (ja2:Sem zg) (ja4:LF) (ja5:zq) (ja6:Int) (ja7:Int) (ja8:zq) (ja9:zq) (ja10:LX) (jb0:List UInt8) (jb2:Int) (jb5:List UInt8) (jb6:Int) (jb7:Int) (jb8:List UInt8) (jb9:List UInt8) (jc0:TS) (jc1:LC) (jc2:Sem zg) (jc5:zq) (jc6:Int) (jc7:Int) (jc8:zq) (jc9:zq) (jc10:LX) (ja3:LI):List (Sem zg)→Int→List (Sem zg)→Bool
 | [],_,lh_3=>(gQ ja0 ja1 ja2 ja3 ja5 ja6 ja7 ja8 ja9 ja10 jb0 jb2 jb5 jb6 jb7 jb8 jb9 jc0 jc1 jc2 jc5
 jc6 jc7 jc8 jc9 jc10 lh_3 ja4 0 [])
 | x::r,i4,lh_3=>(if decide (i4 < 10)=true then
 if decide (lh_3.length+[x].length≤1073741824)=true then
  gP ja0 ja1 ja2 ja4 ja5 ja6 ja7 ja8 ja9 ja10 jb0 jb2 jb5 jb6 jb7 jb8 jb9 jc0 jc1 jc2 jc5
   jc6 jc7 jc8 jc9 jc10 ja3 r (i4+1) (lh_3++[x])
 else false
else
 gQ ja0 ja1 ja2 ja3 ja5 ja6 ja7 ja8 ja9 ja10 jb0 jb2 jb5 jb6 jb7 jb8 jb9 jc0 jc1 jc2 jc5
  jc6 jc7 jc8 jc9 jc10 lh_3 ja4 0 [])
theorem Xx {C:cd} (hC:∀ id,C.ρ0 id=none) (ja0:TS) (ja1:LC) (ja2:Sem zg) (ja4:LF) (ja5:zq) (ja6:Int) (ja7:Int) (ja8:zq) (ja9:zq) (ja10:LX) (jb0:List UInt8) (jb2:Int) (jb5:List UInt8) (jb6:Int) (jb7:Int) (jb8:List UInt8) (jb9:List UInt8) (jc0:TS) (jc1:LC) (jc2:Sem zg) (jc5:zq) (jc6:Int) (jc7:Int) (jc8:zq) (jc9:zq) (jc10:LX) (ja3:LI) (hl:ja3.length≤zD):∀ (m i:Nat) (lh_3:LI),ja3.length - i=m→i≤ja3.length→gP ja0 ja1 ja2 ja4 ja5 ja6 ja7 ja8 ja9 ja10 jb0 jb2 jb5 jb6 jb7 jb8 jb9 jc0 jc1 jc2 jc5 jc6 jc7 jc8 jc9 jc10 ja3 (ja3.drop i) i lh_3=true→
  Reach (kA) C 63 (zw Tryz.f63 3) (Ks (i:Int) ja0 ja1 ja2 ja3 ja4 ja5 ja6 ja7 ja8 ja9 ja10 jb0 jb2 jb5 jb6 jb7 jb8 jb9 jc0 jc1 jc2 jc5 jc6 jc7 jc8 jc9 jc10 lh_3) (fun r h=>zY h [zE] r=some (eD ja0 ja1 ja2 ja4 ja5 ja6 ja7 ja8 ja9 ja10 jb0 jb2 jb5 jb6 jb7 jb8 jb9 jc0 jc1 jc2 jc5 jc6 jc7 jc8 jc9 jc10 ja3 (ja3.drop i) i lh_3,())):=by
 intro m
 induction m with
 | zero=>
  intro i lh_3 hm hi hc
  obtain rfl:i=ja3.length:=by omega
  rw [dq] at hc ⊢
  refine zk fC (Uf) (fun id _=>hC id) (PB _ _ _ _ _ _ _ _ _ _ _ _ _ _ _ _ _ _ _ _ _ _ _ _ _ _ _ _ _) ?_
  rw [gP] at hc
  generalize hy:eD ja0 ja1 ja2 ja4 ja5 ja6 ja7 ja8 ja9 ja10 jb0 jb2 jb5 jb6 jb7 jb8 jb9 jc0 jc1 jc2 jc5 jc6 jc7 jc8 jc9 jc10 ja3 [] _ lh_3=y
  rw [eD] at hy
  simp only [af,bS,Tr.val_brF]
  repeat' (first | with_reducible refine ed hy hc (fun _ hy hc=>?_) (fun _ hy hc=>?_) | with_reducible refine aL hy (fun _ hy=>?_) (fun _ hy=>?_) | with_reducible refine aZ hc (fun hc=>?_) | with_reducible refine zn ?_)
  all_goals (subst hy; first | (change Reach _ _ _ _ _ _; apply Cm hC <;> first | assumption | exact hc) | rfl)
 | succ m IH=>
  intro i lh_3 hm hi hc
  have hlt:i < ja3.length:=by omega
  have IH:=IH (i+1)
  have hcast:((i:Int)+1)=((i+1:Nat):Int):=by omega
  have hwr:=zG i (by omega)
  rw [ez hlt] at hc ⊢
  refine zk fC (Uf) (fun id _=>hC id) (PB _ _ _ _ _ _ _ _ _ _ _ _ _ _ _ _ _ _ _ _ _ _ _ _ _ _ _ _ _) ?_
  rw [gP] at hc
  generalize hy:eD ja0 ja1 ja2 ja4 ja5 ja6 ja7 ja8 ja9 ja10 jb0 jb2 jb5 jb6 jb7 jb8 jb9 jc0 jc1 jc2 jc5 jc6 jc7 jc8 jc9 jc10 ja3 (ja3[i]::ja3.drop (i+1)) (i:Int) lh_3=y
  rw [eD] at hy
  simp only [zV hlt,zF hlt,zZ ja3 _ hlt,hwr,bG]
  clear hwr
  simp only [hcast] at hy
  try simp only [hcast] at hc
  repeat' (first | with_reducible refine ed hy hc (fun _ hy hc=>?_) (fun _ hy hc=>?_) | with_reducible refine aL hy (fun _ hy=>?_) (fun _ hy=>?_) | with_reducible refine aZ hc (fun hc=>?_) | with_reducible refine zn ?_)
  all_goals (subst hy; first | (change Reach _ _ _ _ _ _; apply IH <;> first | omega | assumption) | (change Reach _ _ _ _ _ _; apply Cm hC <;> first | assumption | exact hc) | rfl)
theorem Cl {C:cd} (hC:∀ id,C.ρ0 id=none) (ja0:TS) (ja1:LC) (ja2:Sem zg) (ja4:LF) (ja5:zq) (ja6:Int) (ja7:Int) (ja8:zq) (ja9:zq) (ja10:LX) (jb0:List UInt8) (jb2:Int) (jb5:List UInt8) (jb6:Int) (jb7:Int) (jb8:List UInt8) (jb9:List UInt8) (jc0:TS) (jc1:LC) (jc2:Sem zg) (jc5:zq) (jc6:Int) (jc7:Int) (jc8:zq) (jc9:zq) (jc10:LX) (ja3:LI) (lh_3:LI) (hc:gP ja0 ja1 ja2 ja4 ja5 ja6 ja7 ja8 ja9 ja10 jb0 jb2 jb5 jb6 jb7 jb8 jb9 jc0 jc1 jc2 jc5 jc6 jc7 jc8 jc9 jc10 ja3 ja3 0 lh_3=true):
  Reach (kA) C 63 (zw Tryz.f63 3) (Ks 0 ja0 ja1 ja2 ja3 ja4 ja5 ja6 ja7 ja8 ja9 ja10 jb0 jb2 jb5 jb6 jb7 jb8 jb9 jc0 jc1 jc2 jc5 jc6 jc7 jc8 jc9 jc10 lh_3) (fun r h=>zY h [zE] r=some (eD ja0 ja1 ja2 ja4 ja5 ja6 ja7 ja8 ja9 ja10 jb0 jb2 jb5 jb6 jb7 jb8 jb9 jc0 jc1 jc2 jc5 jc6 jc7 jc8 jc9 jc10 ja3 ja3 0 lh_3,())):=
 Reach.lenB 0 3 (Sh.int IntKind.i64) ja3 rfl rfl fun hl=>Xx hC ja0 ja1 ja2 ja4 ja5 ja6 ja7 ja8 ja9 ja10 jb0 jb2 jb5 jb6 jb7 jb8 jb9 jc0 jc1 jc2 jc5 jc6 jc7 jc8 jc9 jc10 ja3 hl _ 0 lh_3 rfl (be _) hc
def jH (x0:Sem zE):Sem zE:=(eD x0.1 x0.2.1 x0.2.2.1 x0.2.2.2.2.1 (ze.op x0.2.2.2.2.2) (ze.v x0.2.2.2.2.2).1 (ze.v x0.2.2.2.2.2).2.1 (ze.v x0.2.2.2.2.2).2.2 (ze.s x0.2.2.2.2.2) (ze.l x0.2.2.2.2.2) [] 0 [] 0 0 [] [] (uF x0.1) (ls x0.2.1) x0.2.2.1 (ze.op (da x0.2.2.2.2.2)) (ze.v (da x0.2.2.2.2.2)).1 (ze.v (da x0.2.2.2.2.2)).2.1 (ze.v (da x0.2.2.2.2.2)).2.2 (ze.s (da x0.2.2.2.2.2)) (ze.l (da x0.2.2.2.2.2)) x0.2.2.2.1 x0.2.2.2.1 0 [])
def Fs (x0:Sem zE):Bool:=(gP x0.1 x0.2.1 x0.2.2.1 x0.2.2.2.2.1 (ze.op x0.2.2.2.2.2) (ze.v x0.2.2.2.2.2).1 (ze.v x0.2.2.2.2.2).2.1 (ze.v x0.2.2.2.2.2).2.2 (ze.s x0.2.2.2.2.2) (ze.l x0.2.2.2.2.2) [] 0 [] 0 0 [] [] (uF x0.1) (ls x0.2.1) x0.2.2.1 (ze.op (da x0.2.2.2.2.2)) (ze.v (da x0.2.2.2.2.2)).1 (ze.v (da x0.2.2.2.2.2)).2.1 (ze.v (da x0.2.2.2.2.2)).2.2 (ze.s (da x0.2.2.2.2.2)) (ze.l (da x0.2.2.2.2.2)) x0.2.2.2.1 x0.2.2.2.1 0 [])
def F5:zB:=zA [zE] [zE] (fun x=>Fs x.1) fun x=>(jH x.1,())
theorem Wo:FK 63 F5:=by
 refine zM (Uf) fun x hc C hC=>?_
 unfold Fs at hc
 refine zk fC (Uf) (fun id _=>hC id) (go5 x.1) ?_
 generalize hy:jH x.1=y
 unfold jH at hy
 try simp only [ze.eta]
 repeat' (first | with_reducible refine ed hy hc (fun _ hy hc=>?_) (fun _ hy hc=>?_) | with_reducible refine aL hy (fun _ hy=>?_) (fun _ hy=>?_) | with_reducible refine aZ hc (fun hc=>?_) | with_reducible refine zn ?_)
 all_goals (subst hy; first | (change Reach _ _ _ _ _ _; apply Cl hC <;> first | assumption | exact hc) | (change Reach _ _ _ _ _ _; apply Cm hC <;> first | assumption | exact hc) | rfl)

noncomputable def OS:=kA.addL [(75,F19),(63,F5)]
theorem F9:zm OS:=fC.addL <| fc Oy <| fc Wo g6

theorem yW (e:ze) (cols:List (Sem zi)):rz e cols=true:=by
 unfold rz
 rw [if_pos (DF 15 e)]
theorem kd {a0 a1 a2 a3 a4 a5 a6 a7 a8 a9 b0 b1 b2 b3 b4 b5 b6 d0 d1 d2 d3 d4 d5 d6 d7 d8 d9}:∀ (l:List (Sem zo)) (i:Int) (acc:List (Sem zo)),(acc.length:Int)≤i→gQ a0 a1 a2 a3 a4 a5 a6 a7 a8 a9 b0 b1 b2 b3 b4 b5 b6 d0 d1 d2 d3 d4 d5 d6 d7 d8 d9 l i acc=true
 | [],_,_,_=>rfl
 | x::r,i,acc,h=>by
  rw [gQ]
  split
  ·rename_i hi
   simp only [ah] at hi
   rw [if_pos (by simp; omega)]
   exact kd r (i+1) _ (by simp; omega)
  ·rfl
theorem oK {a0 a1 a2 a3 a4 a5 a6 a7 a8 a9 b0 b1 b2 b3 b4 b5 b6 d0 d1 d2 d3 d4 d5 d6 d7 d8 d9}:∀ (l:List (Sem zg)) (i:Int) (acc:List (Sem zg)),(acc.length:Int)≤i→gP a0 a1 a2 a3 a4 a5 a6 a7 a8 a9 b0 b1 b2 b3 b4 b5 b6 d0 d1 d2 d3 d4 d5 d6 d7 d8 d9 l i acc=true
 | [],_,_,_=>by rw [gP]; exact kd _ _ _ (by simp)
 | x::r,i,acc,h=>by
  rw [gP]
  split
  ·rename_i hi
   simp only [ah] at hi
   rw [if_pos (by simp; omega)]
   exact oK r (i+1) _ (by simp; omega)
  ·exact kd _ _ _ (by simp)
theorem DO (t:Sem zE):Fs t=true:=by
 unfold Fs
 exact oK _ _ _ (by simp)
def UZ:zB:=zX [Sh.expr,zi.sl] [zg] fun x=>(nr x.1 x.2.1,())
theorem Qu:FK 75 UZ:=dM Oy fun x=>yW x.1 x.2.1
def F5t:zB:=zX [zE] [zE] fun x=>(jH x.1,())
theorem Wy:FK 63 F5t:=dM Wo fun x=>DO x.1

noncomputable def jn:=OS.addL [(75,UZ),(63,F5t)]
theorem eH:zm jn:=F9.addL <| fc Qu <| fc Wy g6

abbrev kp8:Nat→zT:=fun j=>if j=4 then { slots:=[1,27,28,29] } else if j=11 then { slots:=[1,5,59,60,61] } else if j=17 then { slots:=[1,5,71,72,73] } else { }
abbrev Kv (l27:LC) (i28:Int) (i29:Int) (ja0:TS) (ja1:LC) (ja2:Sem zg) (ja3:LI) (ja4:LF) (ja5:zq) (ja6:Int) (ja7:Int) (ja8:zq) (ja9:zq) (ja10:LX):St:={ tmps:=(tm 110 [(1,AV.ptr 0 0),(27,AV.sl zi l27),(28,ai i28),(29,ai i29)]),heap:=[AO.box [AV.str ja0,AV.sl zi ja1,ai ja2,AV.sl zg ja3,AV.sl zo ja4,AV.str ja5,ai ja6,ai ja7,AV.str ja8,AV.str ja9,AV.sl Sh.expr ja10]] }
theorem PA:zz (jn).P 55 Tryz.f55 1:=aG (by kernel_rfl)
theorem go8 (x0:Sem zE):rn jn 0 kp8 Tryz.f55 [zy zE x0] []=Tr.br (bif !gr x0.1 then true else bif decide ((↑(length x0.2.1):Int) < 1) then true else decide ((↑(length x0.2.1):Int) > 8)) (Tr.ok (zp.ret (AV.kb false) [])) (Tr.ok (zp.head 4 (zw Tryz.f55 4) (Kv x0.2.1 (↑(length x0.2.1):Int) 0 x0.1 x0.2.1 x0.2.2.1 x0.2.2.2.1 x0.2.2.2.2.1 (ze.op x0.2.2.2.2.2) (ze.v x0.2.2.2.2.2).1 (ze.v x0.2.2.2.2.2).2.1 (ze.v x0.2.2.2.2.2).2.2 (ze.s x0.2.2.2.2.2) (ze.l x0.2.2.2.2.2)))):=by kernel_rfl
abbrev BV (l59:LI) (i60:Int) (i61:Int) (ja0:TS) (ja1:LC) (ja2:Sem zg) (ja3:LI) (ja4:LF) (ja5:zq) (ja6:Int) (ja7:Int) (ja8:zq) (ja9:zq) (ja10:LX):St:={ tmps:=(tm 110 [(1,AV.ptr 0 0),(5,AV.clo (Fn.func 93) [] [AV.ptr 0 0]),(59,AV.sl zg l59),(60,ai i60),(61,ai i61)]),heap:=[AO.box [AV.str ja0,AV.sl zi ja1,ai ja2,AV.sl zg ja3,AV.sl zo ja4,AV.str ja5,ai ja6,ai ja7,AV.str ja8,AV.str ja9,AV.sl Sh.expr ja10]] }
theorem PE (l27:LC) (i28:Int) (i29:Int) (ja0:TS) (ja1:LC) (ja2:Sem zg) (ja3:LI) (ja4:LF) (ja5:zq) (ja6:Int) (ja7:Int) (ja8:zq) (ja9:zq) (ja10:LX):rh jn 0 kp8 Tryz.f55 4 (Kv l27 i28 i29 ja0 ja1 ja2 ja3 ja4 ja5 ja6 ja7 ja8 ja9 ja10)=Tr.br (decide (i29 < i28)) (Tr.chk (zJ i29 l27.length) (Tr.br (bif !gr (l27.getD i29.toNat (zj zi)).1 then true else bif decide ((l27.getD i29.toNat (zj zi)).2.1 < 1) then true else bif decide ((l27.getD i29.toNat (zj zi)).2.1 > 3) then true else kg (ja0,ja1,ja2,ja3,ja4,ze.mk ja5 (ja6,ja7,ja8) ja9 ja10) (l27.getD i29.toNat (zj zi)).1 != i29) (Tr.ok (zp.ret (AV.kb false) [])) (Tr.ok (zp.head 4 (zw Tryz.f55 4) (Kv l27 i28 (IntKind.i64.wrap (i29+1)) ja0 ja1 ja2 ja3 ja4 ja5 ja6 ja7 ja8 ja9 ja10))))) (Tr.ok (zp.head 11 (zw Tryz.f55 11) (BV ja3 (↑ja3.length:Int) 0 ja0 ja1 ja2 ja3 ja4 ja5 ja6 ja7 ja8 ja9 ja10))):=by kernel_rfl
abbrev BW (l71:LF) (i72:Int) (i73:Int) (ja0:TS) (ja1:LC) (ja2:Sem zg) (ja3:LI) (ja4:LF) (ja5:zq) (ja6:Int) (ja7:Int) (ja8:zq) (ja9:zq) (ja10:LX):St:={ tmps:=(tm 110 [(1,AV.ptr 0 0),(5,AV.clo (Fn.func 93) [] [AV.ptr 0 0]),(71,AV.sl zo l71),(72,ai i72),(73,ai i73)]),heap:=[AO.box [AV.str ja0,AV.sl zi ja1,ai ja2,AV.sl zg ja3,AV.sl zo ja4,AV.str ja5,ai ja6,ai ja7,AV.str ja8,AV.str ja9,AV.sl Sh.expr ja10]] }
theorem JN (l59:LI) (i60:Int) (i61:Int) (ja0:TS) (ja1:LC) (ja2:Sem zg) (ja3:LI) (ja4:LF) (ja5:zq) (ja6:Int) (ja7:Int) (ja8:zq) (ja9:zq) (ja10:LX):rh jn 0 kp8 Tryz.f55 11 (BV l59 i60 i61 ja0 ja1 ja2 ja3 ja4 ja5 ja6 ja7 ja8 ja9 ja10)=Tr.br (decide (i61 < i60)) (Tr.chk (zJ i61 l59.length) (Tr.br (!bif decide (l59.getD i61.toNat (zj zg) ≥ 0) then decide (l59.getD i61.toNat (zj zg) < (↑ja1.length:Int)) else false) (Tr.ok (zp.ret (AV.kb false) [])) (Tr.ok (zp.head 11 (zw Tryz.f55 11) (BV l59 i60 (IntKind.i64.wrap (i61+1)) ja0 ja1 ja2 ja3 ja4 ja5 ja6 ja7 ja8 ja9 ja10))))) (Tr.ok (zp.head 17 (zw Tryz.f55 17) (BW ja4 (↑ja4.length:Int) 0 ja0 ja1 ja2 ja3 ja4 ja5 ja6 ja7 ja8 ja9 ja10))):=by kernel_rfl
theorem JO (l71:LF) (i72:Int) (i73:Int) (ja0:TS) (ja1:LC) (ja2:Sem zg) (ja3:LI) (ja4:LF) (ja5:zq) (ja6:Int) (ja7:Int) (ja8:zq) (ja9:zq) (ja10:LX):rh jn 0 kp8 Tryz.f55 17 (BW l71 i72 i73 ja0 ja1 ja2 ja3 ja4 ja5 ja6 ja7 ja8 ja9 ja10)=Tr.br (decide (i73 < i72)) (Tr.chk (zJ i73 l71.length) (Tr.br (!bif decide ((l71.getD i73.toNat (zj zo)).1 ≥ 0) then decide ((l71.getD i73.toNat (zj zo)).1 < (↑ja1.length:Int)) else false) (Tr.ok (zp.ret (AV.kb false) [])) (Tr.br (!gr (l71.getD i73.toNat (zj zo)).2) (Tr.ok (zp.ret (AV.kb false) [])) (Tr.ok (zp.head 17 (zw Tryz.f55 17) (BW l71 i72 (IntKind.i64.wrap (i73+1)) ja0 ja1 ja2 ja3 ja4 ja5 ja6 ja7 ja8 ja9 ja10)))))) (Tr.br (bif decide (ja2 ≥ 0) then decide (ja2 < (↑ja1.length:Int)) else false) (Tr.chk (zJ ja2 ja1.length) (Tr.br (ja1.getD (toNat ja2) (zj zi)).2.2 (Tr.ok (zp.ret (AV.bool (nr (ze.mk ja5 (ja6,ja7,ja8) ja9 ja10) ja1==0)) [])) (Tr.ok (zp.ret (AV.kb false) [])))) (Tr.ok (zp.ret (AV.kb false) []))):=by kernel_rfl
def fj (ja0:TS) (ja1:LC) (ja2:Sem zg) (ja3:LI) (ja4:LF) (ja5:zq) (ja6:Int) (ja7:Int) (ja8:zq) (ja9:zq) (ja10:LX):List (Sem zo)→Int→Sem Sh.bool
 | [],_=>(if (bif decide (ja2 ≥ 0) then decide (ja2 < (↑ja1.length:Int)) else false)=true then
 if (ja1.getD (toNat ja2) (zj zi)).2.2=true then
  nr (ze.mk ja5 (ja6,ja7,ja8) ja9 ja10) ja1==0
 else false
else false)
 | x::r,i73=>(if (!bif decide (x.1 ≥ 0) then decide (x.1 < (↑ja1.length:Int)) else false)=true then false
else if (!gr x.2)=true then false else fj ja0 ja1 ja2 ja3 ja4 ja5 ja6 ja7 ja8 ja9 ja10 r (i73+1))
def fh (ja0:TS) (ja1:LC) (ja2:Sem zg) (ja3:LI) (ja4:LF) (ja5:zq) (ja6:Int) (ja7:Int) (ja8:zq) (ja9:zq) (ja10:LX):List (Sem zo)→Int→Bool
 | [],_=>(if (bif decide (ja2 ≥ 0) then decide (ja2 < (↑ja1.length:Int)) else false)=true then if zJ ja2 ja1.length=true then true else false
else true)
 | x::r,i73=>(if (!bif decide (x.1 ≥ 0) then decide (x.1 < (↑ja1.length:Int)) else false)=true then true
else if (!gr x.2)=true then true else fh ja0 ja1 ja2 ja3 ja4 ja5 ja6 ja7 ja8 ja9 ja10 r (i73+1))
theorem RH {C:cd} (hC:∀ id,C.ρ0 id=none) (ja0:TS) (ja1:LC) (ja2:Sem zg) (ja3:LI) (ja4:LF) (ja5:zq) (ja6:Int) (ja7:Int) (ja8:zq) (ja9:zq) (ja10:LX) (l71:LF) (hl:l71.length≤zD):∀ (m i:Nat),l71.length - i=m→i≤l71.length→fh ja0 ja1 ja2 ja3 ja4 ja5 ja6 ja7 ja8 ja9 ja10 (l71.drop i) i=true→
  Reach (jn) C 55 (zw Tryz.f55 17) (BW l71 (l71.length:Int) (i:Int) ja0 ja1 ja2 ja3 ja4 ja5 ja6 ja7 ja8 ja9 ja10) (fun r h=>zY h [Sh.bool] r=some (fj ja0 ja1 ja2 ja3 ja4 ja5 ja6 ja7 ja8 ja9 ja10 (l71.drop i) i,())):=by
 intro m
 induction m with
 | zero=>
  intro i hm hi hc
  obtain rfl:i=l71.length:=by omega
  rw [dq] at hc ⊢
  refine zk eH (PA) (fun id _=>hC id) (JO _ _ _ _ _ _ _ _ _ _ _ _ _ _) ?_
  rw [fh] at hc
  generalize hy:fj ja0 ja1 ja2 ja3 ja4 ja5 ja6 ja7 ja8 ja9 ja10 [] _=y
  rw [fj] at hy
  simp only [af,Tr.val_brF]
  repeat' (first | with_reducible refine ed hy hc (fun _ hy hc=>?_) (fun _ hy hc=>?_) | with_reducible refine aL hy (fun _ hy=>?_) (fun _ hy=>?_) | with_reducible refine aZ hc (fun hc=>?_) | with_reducible refine zn ?_)
  all_goals (subst hy; first | (change Reach _ _ _ _ _ _; apply r9 hC <;> first | assumption | exact hc) | (change Reach _ _ _ _ _ _; apply nF hC <;> first | assumption | exact hc) | rfl)
 | succ m IH=>
  intro i hm hi hc
  have hlt:i < l71.length:=by omega
  have IH:=IH (i+1)
  have hcast:((i:Int)+1)=((i+1:Nat):Int):=by omega
  have hwr:=zG i (by omega)
  rw [ez hlt] at hc ⊢
  refine zk eH (PA) (fun id _=>hC id) (JO _ _ _ _ _ _ _ _ _ _ _ _ _ _) ?_
  rw [fh] at hc
  generalize hy:fj ja0 ja1 ja2 ja3 ja4 ja5 ja6 ja7 ja8 ja9 ja10 (l71[i]::l71.drop (i+1)) (i:Int)=y
  rw [fj] at hy
  simp only [zV hlt,zF hlt,zZ l71 _ hlt,hwr,Tr.val_brT,Tr.val_chkT]
  clear hwr
  simp only [hcast] at hy
  try simp only [hcast] at hc
  repeat' (first | with_reducible refine ed hy hc (fun _ hy hc=>?_) (fun _ hy hc=>?_) | with_reducible refine aL hy (fun _ hy=>?_) (fun _ hy=>?_) | with_reducible refine aZ hc (fun hc=>?_) | with_reducible refine zn ?_)
  all_goals (subst hy; first | (change Reach _ _ _ _ _ _; apply IH <;> first | omega | assumption) | (change Reach _ _ _ _ _ _; apply r9 hC <;> first | assumption | exact hc) | (change Reach _ _ _ _ _ _; apply nF hC <;> first | assumption | exact hc) | rfl)
theorem nG {C:cd} (hC:∀ id,C.ρ0 id=none) (ja0:TS) (ja1:LC) (ja2:Sem zg) (ja3:LI) (ja4:LF) (ja5:zq) (ja6:Int) (ja7:Int) (ja8:zq) (ja9:zq) (ja10:LX) (l71:LF) (hc:fh ja0 ja1 ja2 ja3 ja4 ja5 ja6 ja7 ja8 ja9 ja10 l71 0=true):
  Reach (jn) C 55 (zw Tryz.f55 17) (BW l71 (l71.length:Int) 0 ja0 ja1 ja2 ja3 ja4 ja5 ja6 ja7 ja8 ja9 ja10) (fun r h=>zY h [Sh.bool] r=some (fj ja0 ja1 ja2 ja3 ja4 ja5 ja6 ja7 ja8 ja9 ja10 l71 0,())):=
 Reach.len 71 (zg.pr Sh.str) l71 rfl fun hl=>RH hC ja0 ja1 ja2 ja3 ja4 ja5 ja6 ja7 ja8 ja9 ja10 l71 hl _ 0 rfl (be _) hc
def fi (ja0:TS) (ja1:LC) (ja2:Sem zg) (ja3:LI) (ja4:LF) (ja5:zq) (ja6:Int) (ja7:Int) (ja8:zq) (ja9:zq) (ja10:LX):List (Sem zg)→Int→Sem Sh.bool
 | [],_=>(fj ja0 ja1 ja2 ja3 ja4 ja5 ja6 ja7 ja8 ja9 ja10 ja4 0)
 | x::r,i61=>(if (!bif decide (x ≥ 0) then decide (x < (↑ja1.length:Int)) else false)=true then false
else fi ja0 ja1 ja2 ja3 ja4 ja5 ja6 ja7 ja8 ja9 ja10 r (i61+1))
def fg (ja0:TS) (ja1:LC) (ja2:Sem zg) (ja3:LI) (ja4:LF) (ja5:zq) (ja6:Int) (ja7:Int) (ja8:zq) (ja9:zq) (ja10:LX):List (Sem zg)→Int→Bool
 | [],_=>(fh ja0 ja1 ja2 ja3 ja4 ja5 ja6 ja7 ja8 ja9 ja10 ja4 0)
 | x::r,i61=>(if (!bif decide (x ≥ 0) then decide (x < (↑ja1.length:Int)) else false)=true then true
else fg ja0 ja1 ja2 ja3 ja4 ja5 ja6 ja7 ja8 ja9 ja10 r (i61+1))
theorem RG {C:cd} (hC:∀ id,C.ρ0 id=none) (ja0:TS) (ja1:LC) (ja2:Sem zg) (ja3:LI) (ja4:LF) (ja5:zq) (ja6:Int) (ja7:Int) (ja8:zq) (ja9:zq) (ja10:LX) (l59:LI) (hl:l59.length≤zD):∀ (m i:Nat),l59.length - i=m→i≤l59.length→fg ja0 ja1 ja2 ja3 ja4 ja5 ja6 ja7 ja8 ja9 ja10 (l59.drop i) i=true→
  Reach (jn) C 55 (zw Tryz.f55 11) (BV l59 (l59.length:Int) (i:Int) ja0 ja1 ja2 ja3 ja4 ja5 ja6 ja7 ja8 ja9 ja10) (fun r h=>zY h [Sh.bool] r=some (fi ja0 ja1 ja2 ja3 ja4 ja5 ja6 ja7 ja8 ja9 ja10 (l59.drop i) i,())):=by
 intro m
 induction m with
 | zero=>
  intro i hm hi hc
  obtain rfl:i=l59.length:=by omega
  rw [dq] at hc ⊢
  refine zk eH (PA) (fun id _=>hC id) (JN _ _ _ _ _ _ _ _ _ _ _ _ _ _) ?_
  rw [fg] at hc
  generalize hy:fi ja0 ja1 ja2 ja3 ja4 ja5 ja6 ja7 ja8 ja9 ja10 [] _=y
  rw [fi] at hy
  simp only [af,Tr.val_brF]
  repeat' (first | with_reducible refine ed hy hc (fun _ hy hc=>?_) (fun _ hy hc=>?_) | with_reducible refine aL hy (fun _ hy=>?_) (fun _ hy=>?_) | with_reducible refine aZ hc (fun hc=>?_) | with_reducible refine zn ?_)
  all_goals (subst hy; first | (change Reach _ _ _ _ _ _; apply r9 hC <;> first | assumption | exact hc) | (change Reach _ _ _ _ _ _; apply nG hC <;> first | assumption | exact hc) | rfl)
 | succ m IH=>
  intro i hm hi hc
  have hlt:i < l59.length:=by omega
  have IH:=IH (i+1)
  have hcast:((i:Int)+1)=((i+1:Nat):Int):=by omega
  have hwr:=zG i (by omega)
  rw [ez hlt] at hc ⊢
  refine zk eH (PA) (fun id _=>hC id) (JN _ _ _ _ _ _ _ _ _ _ _ _ _ _) ?_
  rw [fg] at hc
  generalize hy:fi ja0 ja1 ja2 ja3 ja4 ja5 ja6 ja7 ja8 ja9 ja10 (l59[i]::l59.drop (i+1)) (i:Int)=y
  rw [fi] at hy
  simp only [zV hlt,zF hlt,zZ l59 _ hlt,hwr,Tr.val_brT,Tr.val_chkT]
  clear hwr
  simp only [hcast] at hy
  try simp only [hcast] at hc
  repeat' (first | with_reducible refine ed hy hc (fun _ hy hc=>?_) (fun _ hy hc=>?_) | with_reducible refine aL hy (fun _ hy=>?_) (fun _ hy=>?_) | with_reducible refine aZ hc (fun hc=>?_) | with_reducible refine zn ?_)
  all_goals (subst hy; first | (change Reach _ _ _ _ _ _; apply IH <;> first | omega | assumption) | (change Reach _ _ _ _ _ _; apply r9 hC <;> first | assumption | exact hc) | (change Reach _ _ _ _ _ _; apply nG hC <;> first | assumption | exact hc) | rfl)
theorem nF {C:cd} (hC:∀ id,C.ρ0 id=none) (ja0:TS) (ja1:LC) (ja2:Sem zg) (ja3:LI) (ja4:LF) (ja5:zq) (ja6:Int) (ja7:Int) (ja8:zq) (ja9:zq) (ja10:LX) (l59:LI) (hc:fg ja0 ja1 ja2 ja3 ja4 ja5 ja6 ja7 ja8 ja9 ja10 l59 0=true):
  Reach (jn) C 55 (zw Tryz.f55 11) (BV l59 (l59.length:Int) 0 ja0 ja1 ja2 ja3 ja4 ja5 ja6 ja7 ja8 ja9 ja10) (fun r h=>zY h [Sh.bool] r=some (fi ja0 ja1 ja2 ja3 ja4 ja5 ja6 ja7 ja8 ja9 ja10 l59 0,())):=
 Reach.len 59 (Sh.int IntKind.i64) l59 rfl fun hl=>RG hC ja0 ja1 ja2 ja3 ja4 ja5 ja6 ja7 ja8 ja9 ja10 l59 hl _ 0 rfl (be _) hc
def ip (ja0:TS) (ja1:LC) (ja2:Sem zg) (ja3:LI) (ja4:LF) (ja5:zq) (ja6:Int) (ja7:Int) (ja8:zq) (ja9:zq) (ja10:LX):List (Sem zi)→Int→Sem Sh.bool
 | [],_=>(fi ja0 ja1 ja2 ja3 ja4 ja5 ja6 ja7 ja8 ja9 ja10 ja3 0)
 | x :: r,i29=>(if
  (bif !gr x.1 then true
   else
    bif decide (x.2.1 < 1) then true
    else
     bif decide (x.2.1 > 3) then true
     else kg (ja0,ja1,ja2,ja3,ja4,ze.mk ja5 (ja6,ja7,ja8) ja9 ja10) x.1 != i29)=
   true then
 false
else ip ja0 ja1 ja2 ja3 ja4 ja5 ja6 ja7 ja8 ja9 ja10 r (i29+1))
def gR (ja0:TS) (ja1:LC) (ja2:Sem zg) (ja3:LI) (ja4:LF) (ja5:zq) (ja6:Int) (ja7:Int) (ja8:zq) (ja9:zq) (ja10:LX):List (Sem zi)→Int→Bool
 | [],_=>(fg ja0 ja1 ja2 ja3 ja4 ja5 ja6 ja7 ja8 ja9 ja10 ja3 0)
 | x :: r,i29=>(if
  (bif !gr x.1 then true
   else
    bif decide (x.2.1 < 1) then true
    else
     bif decide (x.2.1 > 3) then true
     else kg (ja0,ja1,ja2,ja3,ja4,ze.mk ja5 (ja6,ja7,ja8) ja9 ja10) x.1 != i29)=
   true then
 true
else gR ja0 ja1 ja2 ja3 ja4 ja5 ja6 ja7 ja8 ja9 ja10 r (i29+1))
theorem XA {C:cd} (hC:∀ id,C.ρ0 id=none) (ja0:TS) (ja1:LC) (ja2:Sem zg) (ja3:LI) (ja4:LF) (ja5:zq) (ja6:Int) (ja7:Int) (ja8:zq) (ja9:zq) (ja10:LX) (l27:LC) (hl:l27.length≤zD):∀ (m i:Nat),l27.length - i=m→i≤l27.length→gR ja0 ja1 ja2 ja3 ja4 ja5 ja6 ja7 ja8 ja9 ja10 (l27.drop i) i=true→
  Reach (jn) C 55 (zw Tryz.f55 4) (Kv l27 (l27.length:Int) (i:Int) ja0 ja1 ja2 ja3 ja4 ja5 ja6 ja7 ja8 ja9 ja10) (fun r h=>zY h [Sh.bool] r=some (ip ja0 ja1 ja2 ja3 ja4 ja5 ja6 ja7 ja8 ja9 ja10 (l27.drop i) i,())):=by
 intro m
 induction m with
 | zero=>
  intro i hm hi hc
  obtain rfl:i=l27.length:=by omega
  rw [dq] at hc ⊢
  refine zk eH (PA) (fun id _=>hC id) (PE _ _ _ _ _ _ _ _ _ _ _ _ _ _) ?_
  rw [gR] at hc
  generalize hy:ip ja0 ja1 ja2 ja3 ja4 ja5 ja6 ja7 ja8 ja9 ja10 [] _=y
  rw [ip] at hy
  simp only [af,Tr.val_brF]
  repeat' (first | with_reducible refine ed hy hc (fun _ hy hc=>?_) (fun _ hy hc=>?_) | with_reducible refine aL hy (fun _ hy=>?_) (fun _ hy=>?_) | with_reducible refine aZ hc (fun hc=>?_) | with_reducible refine zn ?_)
  all_goals (subst hy; first | (change Reach _ _ _ _ _ _; apply nF hC <;> first | assumption | exact hc) | (change Reach _ _ _ _ _ _; apply nG hC <;> first | assumption | exact hc) | rfl)
 | succ m IH=>
  intro i hm hi hc
  have hlt:i < l27.length:=by omega
  have IH:=IH (i+1)
  have hcast:((i:Int)+1)=((i+1:Nat):Int):=by omega
  have hwr:=zG i (by omega)
  rw [ez hlt] at hc ⊢
  refine zk eH (PA) (fun id _=>hC id) (PE _ _ _ _ _ _ _ _ _ _ _ _ _ _) ?_
  rw [gR] at hc
  generalize hy:ip ja0 ja1 ja2 ja3 ja4 ja5 ja6 ja7 ja8 ja9 ja10 (l27[i]::l27.drop (i+1)) (i:Int)=y
  rw [ip] at hy
  simp only [zV hlt,zF hlt,zZ l27 _ hlt,hwr,Tr.val_brT,Tr.val_chkT]
  clear hwr
  simp only [hcast] at hy
  try simp only [hcast] at hc
  repeat' (first | with_reducible refine ed hy hc (fun _ hy hc=>?_) (fun _ hy hc=>?_) | with_reducible refine aL hy (fun _ hy=>?_) (fun _ hy=>?_) | with_reducible refine aZ hc (fun hc=>?_) | with_reducible refine zn ?_)
  all_goals (subst hy; first | (change Reach _ _ _ _ _ _; apply IH <;> first | omega | assumption) | (change Reach _ _ _ _ _ _; apply nF hC <;> first | assumption | exact hc) | (change Reach _ _ _ _ _ _; apply nG hC <;> first | assumption | exact hc) | rfl)
theorem r9 {C:cd} (hC:∀ id,C.ρ0 id=none) (ja0:TS) (ja1:LC) (ja2:Sem zg) (ja3:LI) (ja4:LF) (ja5:zq) (ja6:Int) (ja7:Int) (ja8:zq) (ja9:zq) (ja10:LX) (l27:LC) (hc:gR ja0 ja1 ja2 ja3 ja4 ja5 ja6 ja7 ja8 ja9 ja10 l27 0=true):
  Reach (jn) C 55 (zw Tryz.f55 4) (Kv l27 (l27.length:Int) 0 ja0 ja1 ja2 ja3 ja4 ja5 ja6 ja7 ja8 ja9 ja10) (fun r h=>zY h [Sh.bool] r=some (ip ja0 ja1 ja2 ja3 ja4 ja5 ja6 ja7 ja8 ja9 ja10 l27 0,())):=
 Reach.len 27 (zi) l27 rfl fun hl=>XA hC ja0 ja1 ja2 ja3 ja4 ja5 ja6 ja7 ja8 ja9 ja10 l27 hl _ 0 rfl (be _) hc
def kf (x0:Sem zE):Sem Sh.bool:=(if (bif !gr x0.1 then true else bif decide ((↑(length x0.2.1):Int) < 1) then true else decide ((↑(length x0.2.1):Int) > 8))=true then false else ip x0.1 x0.2.1 x0.2.2.1 x0.2.2.2.1 x0.2.2.2.2.1 (ze.op x0.2.2.2.2.2) (ze.v x0.2.2.2.2.2).1 (ze.v x0.2.2.2.2.2).2.1 (ze.v x0.2.2.2.2.2).2.2 (ze.s x0.2.2.2.2.2) (ze.l x0.2.2.2.2.2) x0.2.1 0)
def Ft (x0:Sem zE):Bool:=(if (bif !gr x0.1 then true else bif decide ((↑(length x0.2.1):Int) < 1) then true else decide ((↑(length x0.2.1):Int) > 8))=true then true else gR x0.1 x0.2.1 x0.2.2.1 x0.2.2.2.1 x0.2.2.2.2.1 (ze.op x0.2.2.2.2.2) (ze.v x0.2.2.2.2.2).1 (ze.v x0.2.2.2.2.2).2.1 (ze.v x0.2.2.2.2.2).2.2 (ze.s x0.2.2.2.2.2) (ze.l x0.2.2.2.2.2) x0.2.1 0)
def F8:zB:=zA [zE] [Sh.bool] (fun x=>Ft x.1) fun x=>(kf x.1,())
theorem WQ:FK 55 F8:=by
 refine zM (PA) fun x hc C hC=>?_
 unfold Ft at hc
 refine zk eH (PA) (fun id _=>hC id) (go8 x.1) ?_
 generalize hy:kf x.1=y
 unfold kf at hy
 try simp only [ze.eta]
 repeat' (first | with_reducible refine ed hy hc (fun _ hy hc=>?_) (fun _ hy hc=>?_) | with_reducible refine aL hy (fun _ hy=>?_) (fun _ hy=>?_) | with_reducible refine aZ hc (fun hc=>?_) | with_reducible refine zn ?_)
 all_goals (subst hy; first | (change Reach _ _ _ _ _ _; apply r9 hC <;> first | assumption | exact hc) | (change Reach _ _ _ _ _ _; apply nF hC <;> first | assumption | exact hc) | (change Reach _ _ _ _ _ _; apply nG hC <;> first | assumption | exact hc) | rfl)

noncomputable def OT:=jn.add 55 F8
theorem Ga:zm OT:=eH.add WQ

theorem mW {a0 a1 a2 a3 a4 a5 a6 a7 a8 a9 b0}:∀ (l:List (Sem zo)) (i:Int),fh a0 a1 a2 a3 a4 a5 a6 a7 a8 a9 b0 l i=true
 | [],i=>by
  rw [fh]
  split
  ·rename_i h
   rw [if_pos]
   cases h1:decide (a2 ≥ 0) <;> simp_all [zJ]
  ·rfl
 | x::r,i=>by
  rw [fh]
  repeat' split
  all_goals first | rfl | exact mW r (i+1)
theorem mU {a0 a1 a2 a3 a4 a5 a6 a7 a8 a9 b0}:∀ (l:List (Sem zg)) (i:Int),fg a0 a1 a2 a3 a4 a5 a6 a7 a8 a9 b0 l i=true
 | [],i=>by rw [fg]; exact mW _ _
 | x::r,i=>by
  rw [fg]
  repeat' split
  all_goals first | rfl | exact mU r (i+1)
theorem oM {a0 a1 a2 a3 a4 a5 a6 a7 a8 a9 b0}:∀ (l:List (Sem zi)) (i:Int),gR a0 a1 a2 a3 a4 a5 a6 a7 a8 a9 b0 l i=true
 | [],i=>by rw [gR]; exact mU _ _
 | x::r,i=>by
  rw [gR]
  split
  ·rfl
  ·exact oM r (i+1)
theorem DQ (t:Sem zE):Ft t=true:=by
 unfold Ft
 split
 ·rfl
 ·exact oM _ _
def F8t:zB:=zX [zE] [Sh.bool] fun x=>(kf x.1,())
theorem W1:FK 55 F8t:=dM WQ fun x=>DQ x.1

noncomputable def mG:=OT.add 55 F8t
theorem gY:zm mG:=Ga.add W1

abbrev SI:Nat→zT:=fun j=>if j=4 then { slots:=[1,2,19,20,21] } else if j=10 then { slots:=[1,2,30,31] } else { }
abbrev BT (l1:LV) (l19:LV) (i20:Int) (i21:Int) (ja0:TS) (ja1:LC) (ja2:Sem zg) (ja3:LI) (ja4:LF) (ja5:zq) (ja6:Int) (ja7:Int) (ja8:zq) (ja9:zq) (ja10:LX):St:={ tmps:=(tm 79 [(1,AV.sl zf l1),(2,AV.ptr 0 0),(19,AV.sl zf l19),(20,ai i20),(21,ai i21)]),heap:=[AO.box [AV.str ja0,AV.sl zi ja1,ai ja2,AV.sl zg ja3,AV.sl zo ja4,AV.str ja5,ai ja6,ai ja7,AV.str ja8,AV.str ja9,AV.sl Sh.expr ja10]] }
theorem Gy:zz (mG).P 56 Tryz.f56 2:=aG (by kernel_rfl)
theorem zbH (x0:Sem zE) (x1:Sem zf.sl):rn mG 0 SI Tryz.f56 [zy zE x0,zy zf.sl x1] []=Tr.br (bif !kf (x0.1,x0.2.1,x0.2.2.1,x0.2.2.2.1,x0.2.2.2.2.1,zC x0.2.2.2.2.2) then true else (↑(length x1):Int) != (↑(length x0.2.1):Int)) (Tr.ok (zp.ret (ai 1) [])) (Tr.ok (zp.head 4 (zw Tryz.f56 4) (BT x1 x1 (↑(length x1):Int) 0 x0.1 x0.2.1 x0.2.2.1 x0.2.2.2.1 x0.2.2.2.2.1 (ze.op x0.2.2.2.2.2) (ze.v x0.2.2.2.2.2).1 (ze.v x0.2.2.2.2.2).2.1 (ze.v x0.2.2.2.2.2).2.2 (ze.s x0.2.2.2.2.2) (ze.l x0.2.2.2.2.2)))):=by kernel_rfl
abbrev uy (l1:LV) (i30:Int) (i31:Int) (ja0:TS) (ja1:LC) (ja2:Sem zg) (ja3:LI) (ja4:LF) (ja5:zq) (ja6:Int) (ja7:Int) (ja8:zq) (ja9:zq) (ja10:LX):St:={ tmps:=(tm 79 [(1,AV.sl zf l1),(2,AV.ptr 0 0),(30,ai i30),(31,ai i31)]),heap:=[AO.box [AV.str ja0,AV.sl zi ja1,ai ja2,AV.sl zg ja3,AV.sl zo ja4,AV.str ja5,ai ja6,ai ja7,AV.str ja8,AV.str ja9,AV.sl Sh.expr ja10]] }
theorem JI (l1:LV) (l19:LV) (i20:Int) (i21:Int) (ja0:TS) (ja1:LC) (ja2:Sem zg) (ja3:LI) (ja4:LF) (ja5:zq) (ja6:Int) (ja7:Int) (ja8:zq) (ja9:zq) (ja10:LX):rh mG 0 SI Tryz.f56 4 (BT l1 l19 i20 i21 ja0 ja1 ja2 ja3 ja4 ja5 ja6 ja7 ja8 ja9 ja10)=Tr.br (decide (i21 < i20)) (Tr.chk (zJ i21 l19.length) (Tr.br (!gT (l19.getD i21.toNat (zj zf))) (Tr.ok (zp.ret (ai 1) [])) (Tr.ok (zp.head 4 (zw Tryz.f56 4) (BT l1 l19 i20 (IntKind.i64.wrap (i21+1)) ja0 ja1 ja2 ja3 ja4 ja5 ja6 ja7 ja8 ja9 ja10))))) (Tr.ok (zp.head 10 (zw Tryz.f56 10) (uy l1 (↑l1.length:Int) 0 ja0 ja1 ja2 ja3 ja4 ja5 ja6 ja7 ja8 ja9 ja10))):=by kernel_rfl
theorem ES (l1:LV) (i30:Int) (i31:Int) (ja0:TS) (ja1:LC) (ja2:Sem zg) (ja3:LI) (ja4:LF) (ja5:zq) (ja6:Int) (ja7:Int) (ja8:zq) (ja9:zq) (ja10:LX):rh mG 0 SI Tryz.f56 10 (uy l1 i30 i31 ja0 ja1 ja2 ja3 ja4 ja5 ja6 ja7 ja8 ja9 ja10)=Tr.br (decide (i31 < i30)) (Tr.chk (zJ i31 l1.length&&bif (l1.getD i31.toNat (zj zf)).1==0 then zJ i31 ja1.length else true) (Tr.br (bif (l1.getD i31.toNat (zj zf)).1==0 then (ja1.getD i31.toNat (zj zi)).2.2 else false) (Tr.ok (zp.ret (ai 8) [])) (Tr.chk (zJ i31 l1.length&&bif (l1.getD i31.toNat (zj zf)).1 != 0 then zJ i31 l1.length&&zJ i31 ja1.length else true) (Tr.br (bif (l1.getD i31.toNat (zj zf)).1 != 0 then (l1.getD i31.toNat (zj zf)).1 != (ja1.getD i31.toNat (zj zi)).2.1 else false) (Tr.ok (zp.ret (ai 5) [])) (Tr.ok (zp.head 10 (zw Tryz.f56 10) (uy l1 i30 (IntKind.i64.wrap (i31+1)) ja0 ja1 ja2 ja3 ja4 ja5 ja6 ja7 ja8 ja9 ja10))))))) (Tr.br ((ky (ze.mk ja5 (ja6,ja7,ja8) ja9 ja10) ja1 l1).1==3&&((ky (ze.mk ja5 (ja6,ja7,ja8) ja9 ja10) ja1 l1).2.1==0&&((ky (ze.mk ja5 (ja6,ja7,ja8) ja9 ja10) ja1 l1).2.2==[]&&true))) (Tr.ok (zp.ret (ai 9) [])) (Tr.ok (zp.ret (ai 0) []))):=by kernel_rfl
def gh (ja0:TS) (ja1:LC) (ja2:Sem zg) (ja3:LI) (ja4:LF) (ja5:zq) (ja6:Int) (ja7:Int) (ja8:zq) (ja9:zq) (ja10:LX) (l1:LV):List (Sem zf)→Int→Sem zg
 | [],_=>(if
  ((ky (ze.mk ja5 (ja6,ja7,ja8) ja9 ja10) ja1 l1).1==3&&
    ((ky (ze.mk ja5 (ja6,ja7,ja8) ja9 ja10) ja1 l1).2.1==0&&
     ((ky (ze.mk ja5 (ja6,ja7,ja8) ja9 ja10) ja1 l1).2.2==[]&&true)))=
   true then
 9
else 0)
 | x::r,i31=>(if (bif x.1==0 then (ja1.getD i31.toNat (zj zi)).2.2 else false)=true then 8
else
 if (bif x.1 != 0 then x.1 != (ja1.getD i31.toNat (zj zi)).2.1 else false)=true then 5
 else gh ja0 ja1 ja2 ja3 ja4 ja5 ja6 ja7 ja8 ja9 ja10 l1 r (i31+1))
def eK (ja0:TS) (ja1:LC) (ja2:Sem zg) (ja3:LI) (ja4:LF) (ja5:zq) (ja6:Int) (ja7:Int) (ja8:zq) (ja9:zq) (ja10:LX) (l1:LV):List (Sem zf)→Int→Bool
 | [],_=>(true)
 | x::r,i31=>(if (zJ i31 l1.length&&bif x.1==0 then zJ i31 ja1.length else true)=true then
 if (bif x.1==0 then (ja1.getD i31.toNat (zj zi)).2.2 else false)=true then true
 else
  if (zJ i31 l1.length&&bif x.1 != 0 then zJ i31 l1.length&&zJ i31 ja1.length else true)=true then
   if (bif x.1 != 0 then x.1 != (ja1.getD i31.toNat (zj zi)).2.1 else false)=true then true
   else eK ja0 ja1 ja2 ja3 ja4 ja5 ja6 ja7 ja8 ja9 ja10 l1 r (i31+1)
  else false
else false)
theorem L4 {C:cd} (hC:∀ id,C.ρ0 id=none) (ja0:TS) (ja1:LC) (ja2:Sem zg) (ja3:LI) (ja4:LF) (ja5:zq) (ja6:Int) (ja7:Int) (ja8:zq) (ja9:zq) (ja10:LX) (l1:LV) (hl:l1.length≤zD):∀ (m i:Nat),l1.length - i=m→i≤l1.length→eK ja0 ja1 ja2 ja3 ja4 ja5 ja6 ja7 ja8 ja9 ja10 l1 (l1.drop i) i=true→
  Reach (mG) C 56 (zw Tryz.f56 10) (uy l1 (l1.length:Int) (i:Int) ja0 ja1 ja2 ja3 ja4 ja5 ja6 ja7 ja8 ja9 ja10) (fun r h=>zY h [zg] r=some (gh ja0 ja1 ja2 ja3 ja4 ja5 ja6 ja7 ja8 ja9 ja10 l1 (l1.drop i) i,())):=by
 intro m
 induction m with
 | zero=>
  intro i hm hi hc
  obtain rfl:i=l1.length:=by omega
  rw [dq] at hc ⊢
  refine zk gY (Gy) (fun id _=>hC id) (ES _ _ _ _ _ _ _ _ _ _ _ _ _ _) ?_
  rw [eK] at hc
  generalize hy:gh ja0 ja1 ja2 ja3 ja4 ja5 ja6 ja7 ja8 ja9 ja10 l1 [] _=y
  rw [gh] at hy
  simp only [af,Tr.val_brF]
  repeat' (first | with_reducible refine ed hy hc (fun _ hy hc=>?_) (fun _ hy hc=>?_) | with_reducible refine aL hy (fun _ hy=>?_) (fun _ hy=>?_) | with_reducible refine aZ hc (fun hc=>?_) | with_reducible refine zn ?_)
  all_goals (subst hy; first | (change Reach _ _ _ _ _ _; apply xB hC <;> first | assumption | exact hc) | rfl)
 | succ m IH=>
  intro i hm hi hc
  have hlt:i < l1.length:=by omega
  have IH:=IH (i+1)
  have hcast:((i:Int)+1)=((i+1:Nat):Int):=by omega
  have hwr:=zG i (by omega)
  rw [ez hlt] at hc ⊢
  refine zk gY (Gy) (fun id _=>hC id) (ES _ _ _ _ _ _ _ _ _ _ _ _ _ _) ?_
  rw [eK] at hc
  generalize hy:gh ja0 ja1 ja2 ja3 ja4 ja5 ja6 ja7 ja8 ja9 ja10 l1 (l1[i]::l1.drop (i+1)) (i:Int)=y
  rw [gh] at hy
  simp only [zV hlt,zF hlt,zZ l1 _ hlt,hwr,Tr.val_brT]
  clear hwr
  try simp only [zF hlt] at hy
  simp only [hcast] at hy
  try simp only [zF hlt] at hc
  try simp only [hcast] at hc
  repeat' (first | with_reducible refine ed hy hc (fun _ hy hc=>?_) (fun _ hy hc=>?_) | with_reducible refine aL hy (fun _ hy=>?_) (fun _ hy=>?_) | with_reducible refine aZ hc (fun hc=>?_) | with_reducible refine zn ?_)
  all_goals (subst hy; first | (change Reach _ _ _ _ _ _; apply IH <;> first | omega | assumption) | (change Reach _ _ _ _ _ _; apply xB hC <;> first | assumption | exact hc) | rfl)
theorem r8 {C:cd} (hC:∀ id,C.ρ0 id=none) (ja0:TS) (ja1:LC) (ja2:Sem zg) (ja3:LI) (ja4:LF) (ja5:zq) (ja6:Int) (ja7:Int) (ja8:zq) (ja9:zq) (ja10:LX) (l1:LV) (hc:eK ja0 ja1 ja2 ja3 ja4 ja5 ja6 ja7 ja8 ja9 ja10 l1 l1 0=true):
  Reach (mG) C 56 (zw Tryz.f56 10) (uy l1 (l1.length:Int) 0 ja0 ja1 ja2 ja3 ja4 ja5 ja6 ja7 ja8 ja9 ja10) (fun r h=>zY h [zg] r=some (gh ja0 ja1 ja2 ja3 ja4 ja5 ja6 ja7 ja8 ja9 ja10 l1 l1 0,())):=
 Reach.len 1 (zf) l1 rfl fun hl=>L4 hC ja0 ja1 ja2 ja3 ja4 ja5 ja6 ja7 ja8 ja9 ja10 l1 hl _ 0 rfl (be _) hc
def iM (l1:LV) (ja0:TS) (ja1:LC) (ja2:Sem zg) (ja3:LI) (ja4:LF) (ja5:zq) (ja6:Int) (ja7:Int) (ja8:zq) (ja9:zq) (ja10:LX):List (Sem zf)→Int→Sem zg
 | [],_=>(gh ja0 ja1 ja2 ja3 ja4 ja5 ja6 ja7 ja8 ja9 ja10 l1 l1 0)
 | x::r,i21=>(if (!gT x)=true then 1 else iM l1 ja0 ja1 ja2 ja3 ja4 ja5 ja6 ja7 ja8 ja9 ja10 r (i21+1))
def ff (l1:LV) (ja0:TS) (ja1:LC) (ja2:Sem zg) (ja3:LI) (ja4:LF) (ja5:zq) (ja6:Int) (ja7:Int) (ja8:zq) (ja9:zq) (ja10:LX):List (Sem zf)→Int→Bool
 | [],_=>(eK ja0 ja1 ja2 ja3 ja4 ja5 ja6 ja7 ja8 ja9 ja10 l1 l1 0)
 | x::r,i21=>(if (!gT x)=true then true else ff l1 ja0 ja1 ja2 ja3 ja4 ja5 ja6 ja7 ja8 ja9 ja10 r (i21+1))
theorem RC {C:cd} (hC:∀ id,C.ρ0 id=none) (l1:LV) (ja0:TS) (ja1:LC) (ja2:Sem zg) (ja3:LI) (ja4:LF) (ja5:zq) (ja6:Int) (ja7:Int) (ja8:zq) (ja9:zq) (ja10:LX) (l19:LV) (hl:l19.length≤zD):∀ (m i:Nat),l19.length - i=m→i≤l19.length→ff l1 ja0 ja1 ja2 ja3 ja4 ja5 ja6 ja7 ja8 ja9 ja10 (l19.drop i) i=true→
  Reach (mG) C 56 (zw Tryz.f56 4) (BT l1 l19 (l19.length:Int) (i:Int) ja0 ja1 ja2 ja3 ja4 ja5 ja6 ja7 ja8 ja9 ja10) (fun r h=>zY h [zg] r=some (iM l1 ja0 ja1 ja2 ja3 ja4 ja5 ja6 ja7 ja8 ja9 ja10 (l19.drop i) i,())):=by
 intro m
 induction m with
 | zero=>
  intro i hm hi hc
  obtain rfl:i=l19.length:=by omega
  rw [dq] at hc ⊢
  refine zk gY (Gy) (fun id _=>hC id) (JI _ _ _ _ _ _ _ _ _ _ _ _ _ _ _) ?_
  rw [ff] at hc
  generalize hy:iM l1 ja0 ja1 ja2 ja3 ja4 ja5 ja6 ja7 ja8 ja9 ja10 [] _=y
  rw [iM] at hy
  simp only [af,Tr.val_brF]
  repeat' (first | with_reducible refine ed hy hc (fun _ hy hc=>?_) (fun _ hy hc=>?_) | with_reducible refine aL hy (fun _ hy=>?_) (fun _ hy=>?_) | with_reducible refine aZ hc (fun hc=>?_) | with_reducible refine zn ?_)
  all_goals (subst hy; first | (change Reach _ _ _ _ _ _; apply r8 hC <;> first | assumption | exact hc) | rfl)
 | succ m IH=>
  intro i hm hi hc
  have hlt:i < l19.length:=by omega
  have IH:=IH (i+1)
  have hcast:((i:Int)+1)=((i+1:Nat):Int):=by omega
  have hwr:=zG i (by omega)
  rw [ez hlt] at hc ⊢
  refine zk gY (Gy) (fun id _=>hC id) (JI _ _ _ _ _ _ _ _ _ _ _ _ _ _ _) ?_
  rw [ff] at hc
  generalize hy:iM l1 ja0 ja1 ja2 ja3 ja4 ja5 ja6 ja7 ja8 ja9 ja10 (l19[i]::l19.drop (i+1)) (i:Int)=y
  rw [iM] at hy
  simp only [zV hlt,zF hlt,zZ l19 _ hlt,hwr,Tr.val_brT,Tr.val_chkT]
  clear hwr
  try simp only [zF hlt] at hy
  simp only [hcast] at hy
  try simp only [zF hlt] at hc
  try simp only [hcast] at hc
  repeat' (first | with_reducible refine ed hy hc (fun _ hy hc=>?_) (fun _ hy hc=>?_) | with_reducible refine aL hy (fun _ hy=>?_) (fun _ hy=>?_) | with_reducible refine aZ hc (fun hc=>?_) | with_reducible refine zn ?_)
  all_goals (subst hy; first | (change Reach _ _ _ _ _ _; apply IH <;> first | omega | assumption) | (change Reach _ _ _ _ _ _; apply r8 hC <;> first | assumption | exact hc) | rfl)
theorem xB {C:cd} (hC:∀ id,C.ρ0 id=none) (l1:LV) (ja0:TS) (ja1:LC) (ja2:Sem zg) (ja3:LI) (ja4:LF) (ja5:zq) (ja6:Int) (ja7:Int) (ja8:zq) (ja9:zq) (ja10:LX) (l19:LV) (hc:ff l1 ja0 ja1 ja2 ja3 ja4 ja5 ja6 ja7 ja8 ja9 ja10 l19 0=true):
  Reach (mG) C 56 (zw Tryz.f56 4) (BT l1 l19 (l19.length:Int) 0 ja0 ja1 ja2 ja3 ja4 ja5 ja6 ja7 ja8 ja9 ja10) (fun r h=>zY h [zg] r=some (iM l1 ja0 ja1 ja2 ja3 ja4 ja5 ja6 ja7 ja8 ja9 ja10 l19 0,())):=
 Reach.len 19 (zf) l19 rfl fun hl=>RC hC l1 ja0 ja1 ja2 ja3 ja4 ja5 ja6 ja7 ja8 ja9 ja10 l19 hl _ 0 rfl (be _) hc
def iL (x0:Sem zE) (x1:Sem zf.sl):Sem zg:=(if (bif !kf x0 then true else (↑(length x1):Int) != (↑(length x0.2.1):Int))=true then 1 else iM x1 x0.1 x0.2.1 x0.2.2.1 x0.2.2.2.1 x0.2.2.2.2.1 (ze.op x0.2.2.2.2.2) (ze.v x0.2.2.2.2.2).1 (ze.v x0.2.2.2.2.2).2.1 (ze.v x0.2.2.2.2.2).2.2 (ze.s x0.2.2.2.2.2) (ze.l x0.2.2.2.2.2) x1 0)
def y8 (x0:Sem zE) (x1:Sem zf.sl):Bool:=(if (bif !kf x0 then true else (↑(length x1):Int) != (↑(length x0.2.1):Int))=true then true else ff x1 x0.1 x0.2.1 x0.2.2.1 x0.2.2.2.1 x0.2.2.2.2.1 (ze.op x0.2.2.2.2.2) (ze.v x0.2.2.2.2.2).1 (ze.v x0.2.2.2.2.2).2.1 (ze.v x0.2.2.2.2.2).2.2 (ze.s x0.2.2.2.2.2) (ze.l x0.2.2.2.2.2) x1 0)
def F10:zB:=zA [zE,zf.sl] [zg] (fun x=>y8 x.1 x.2.1) fun x=>(iL x.1 x.2.1,())
theorem Ot:FK 56 F10:=by
 refine zM (Gy) fun x hc C hC=>?_
 unfold y8 at hc
 refine zk gY (Gy) (fun id _=>hC id) (zbH x.1 x.2.1) ?_
 generalize hy:iL x.1 x.2.1=y
 unfold iL at hy
 try simp only [ze.eta]
 repeat' (first | with_reducible refine ed hy hc (fun _ hy hc=>?_) (fun _ hy hc=>?_) | with_reducible refine aL hy (fun _ hy=>?_) (fun _ hy=>?_) | with_reducible refine aZ hc (fun hc=>?_) | with_reducible refine zn ?_)
 all_goals (subst hy; first | (change Reach _ _ _ _ _ _; apply xB hC <;> first | assumption | exact hc) | (change Reach _ _ _ _ _ _; apply r8 hC <;> first | assumption | exact hc) | rfl)

noncomputable def OU:=mG.add 56 F10
theorem Gb:zm OU:=gY.add Ot

theorem lF {a0 a2 a3 a4 a5 a6 a7 a8 a9 b0} {cols:List (Sem zi)} {row:List (Sem zf)} (hl:row.length=cols.length):∀ (l:List (Sem zf)) (i:Nat),i+l.length=row.length→eK a0 cols a2 a3 a4 a5 a6 a7 a8 a9 b0 row l i=true
 | [],i,_=>rfl
 | x::r,i,h=>by
  have h1:i < row.length:=by simp at h; omega
  have h2:i < cols.length:=by omega
  have ih:=lF (a0:=a0) (a2:=a2) (a3:=a3) (a4:=a4) (a5:=a5) (a6:=a6) (a7:=a7) (a8:=a8) (a9:=a9) (b0:=b0) hl r (i+1) (by simp at h; omega)
  rw [eK]
  simp only [zF h1,zF h2]
  rw [if_pos (by cases x.1==0 <;> rfl)]
  split
  ·rfl
  ·rw [if_pos (by cases x.1 != 0 <;> rfl)]
   split
   ·rfl
   ·exact ih
theorem mT {a0 a2 a3 a4 a5 a6 a7 a8 a9 b0} {cols:List (Sem zi)} {row:List (Sem zf)} (hl:row.length=cols.length):∀ (l:List (Sem zf)) (i:Int),ff row a0 cols a2 a3 a4 a5 a6 a7 a8 a9 b0 l i=true
 | [],i=>by rw [ff]; exact lF hl row 0 (by simp)
 | x::r,i=>by
  rw [ff]
  split
  ·rfl
  ·exact mT hl r (i+1)
theorem B8 (t:Sem zE) (row:List (Sem zf)):y8 t row=true:=by
 unfold y8
 split
 ·rfl
 ·rename_i h
  refine mT ?_ _ _
  cases hm:kf t
  ·rw [hm] at h; simp at h
  ·rw [hm] at h
   simp at h
   omega
def Ut:zB:=zX [zE,zf.sl] [zg] fun x=>(iL x.1 x.2.1,())
theorem PY:FK 56 Ut:=dM Ot fun x=>B8 x.1 x.2.1

noncomputable def sT:=OU.add 56 Ut
theorem Gc:zm sT:=Gb.add PY

open Go.RowKit Go.Lib in
theorem Q4:FK 236 (zA [.str,.str] [.bool] (fun x=>x.2.1.length==1) fun x=>(decide (0≤Lib.indexByte x.1 (x.2.1.headD 0)),())):=by
 refine eE (E:=sT) ⟨Tryz.f236,by kernel_rfl,by kernel_rfl,by kernel_rfl⟩ fun x h0 res hx=>?_
 unfold fP at hx
 split at hx
 ·simp only [Tr.val] at hx
  split at hx
  ·rename_i hc
   simp only [ae] at hx
   subst hx
   obtain ⟨s,sub,u⟩:=x
   have hc:(sub.length==1)=true:=hc
   match sub,hc with
   | [c],_=>
    intro C w U ρ vals _ hr hH hnew hr0 hW
    have hl:=hr.len
    match vals,hl,hr with
    | [v1,v2],_,hr=>
     have h1:=hr.rv 0 (.str s) v1 rfl rfl
     have h2:=hr.rv 1 (.str [c]) v2 rfl rfl
     cases h1 with
     | str _ hs=>
     cases h2 with
     | str _ hs2=>
     refine (Tryz.strings_Contains_one ⟨s.toArray⟩ c w).mono ?_
     rintro e w' ⟨rfl,rfl⟩
     exact eB hH hnew hr0 hW (Below.refl _ _) (.bool _)
  ·cases hx
 ·simp at hx
def F63:zB:=zA [.str,.str] [.bool] (fun x=>x.2.1.length==1) fun x=>(decide (0≤Lib.indexByte x.1 (x.2.1.headD 0)),())
theorem WD:FK 236 F63:=Q4

def F89:zB:=zA [.str] [.str] (fun x=>decide (x.1.length≤140737488355328)&&x.1.all fun b=>decide (b.toNat < 128)) fun x=>(Lib.toUpperA x.1,())
open Go.RowKit Go.Lib in
theorem W0:FK 158 F89:=by
 refine eE (E:=sT) ⟨Tryz.f158,by kernel_rfl,by kernel_rfl,by kernel_rfl⟩ fun x h0 res hx=>?_
 unfold fP at hx
 split at hx
 ·simp only [Tr.val] at hx
  split at hx
  ·rename_i hc
   simp only [ae] at hx
   subst hx
   obtain ⟨s,u⟩:=x
   have hc:(decide (s.length≤140737488355328)&&s.all fun b=>decide (b.toNat < 128))=true:=hc
   simp only [aE,ah] at hc
   obtain ⟨hc0,hc⟩:=hc
   intro C w U ρ vals _ hr hH hnew hr0 hW
   have hl:=hr.len
   match vals,hl,hr with
   | [v1],_,hr=>
    have h1:=hr.rv 0 (.str s) v1 rfl rfl
    cases h1 with
    | str _ hs=>
    refine (Tryz.strings_ToUpper_ascii ⟨s.toArray⟩ w (by simpa [ByteArray.size] using hc0) (fun j b hj=>?_)).mono ?_
    ·have hm:b∈s:=gv (by simpa using hj)
     simp only [cA,ah] at hc
     exact hc b hm
    ·rintro e w' ⟨rfl,hb⟩
     have hbb:=eB (r:=.str (Lib.toUpperA s)) hH hnew hr0 hW hb (.str _ (by simpa [Lib.toUpperA] using hs))
     exact hbb
  ·cases hx
 ·simp at hx

def AJ:Nat→Nat→zq
 | 0,_=>[]
 | f+1,n=>if n < 10 then [UInt8.ofNat (48+n)] else AJ f (n / 10)++[UInt8.ofNat (48+n % 10)]
def qn (n:Int):zq:=if n < 0 then 45::AJ 20 n.natAbs else AJ 20 n.natAbs
theorem xO:∀ (f n:Nat),n < 10 ^ f→0 < f→AJ f n=Lib.decDigits n
 | 0,_,_,h=>by omega
 | f+1,n,h,_=>by
  rw [AJ,Lib.decDigits]
  split
  ·rfl
  ·rename_i hn
   have hf:0 < f:=by
    cases f with
    | zero=>simp at h; omega
    | succ f=>omega
   rw [xO f (n / 10) (by rw [Nat.pow_succ] at h; omega) hf]
theorem AK:∀ (f n:Nat),(AJ f n).length≤f
 | 0,_=>by simp [AJ]
 | f+1,n=>by
  rw [AJ]
  split
  ·simp
  ·have:=AK f (n / 10)
   simp; omega
theorem w5 (n:Int):(qn n).length≤21:=by
 unfold qn
 have:=AK 20 n.natAbs
 split <;> simp <;> omega
theorem IR (n:Int) (h:b7 .i64 n):Lib.itoa n=qn n:=by
 have h1:-9223372036854775808≤n:=h.1
 have h2:n≤9223372036854775807:=h.2
 unfold Lib.itoa qn
 split
 ·rw [xO 20 _ (by omega) (by omega)]
 ·rw [xO 20 _ (by omega) (by omega)]
  congr 1
  omega
def UE:zB:=zA [zg,zg] [.str] (fun x=>x.2.1==10) fun x=>(qn x.1,())
open Go.RowKit Go.Lib in
theorem P9:FK 230 UE:=by
 refine eE (E:=sT) ⟨Tryz.f230,by kernel_rfl,by kernel_rfl,by kernel_rfl⟩ fun x h0 res hx=>?_
 unfold fP at hx
 split at hx
 ·simp only [Tr.val] at hx
  split at hx
  ·rename_i hc
   simp only [ae] at hx
   subst hx
   obtain ⟨n,b,u⟩:=x
   have hc:(b==10)=true:=hc
   simp only [eG] at hc
   subst hc
   intro C w U ρ vals _ hr hH hnew hr0 hW
   have hl:=hr.len
   match vals,hl,hr with
   | [v1,v2],_,hr=>
    have h1:=hr.rv 0 (.int .i64 n) v1 rfl rfl
    have h2:=hr.rv 1 (.int .i64 10) v2 rfl rfl
    cases h1 with
    | int _ _ hn=>
    cases h2
    have h5:Rv w U (fun _=>none) (.tab .u64 iT) (.pointer (some ⟨5,0,none⟩)):=hW.gl 5
    have htab:Lib.TabIs Tryz.prog w "internal/strconv.uint64pow10" .u64 Lib.pow10Tab:=by
     cases h5 with
     | tab _ _ _ T fr hb hU=>
     have hg:Tryz.prog.globalNamed "internal/strconv.uint64pow10" = some 5:=by kernel_rfl
     have ht:Lib.pow10Tab=iT:=by decide +kernel
     unfold Lib.TabIs World.var?
     rw [hg,ht]
     simp only [Option.bind_some,hb]
    refine (Tryz.strconv_FormatInt_10 n hn.1 hn.2 w htab).mono ?_
    rintro e w' ⟨rfl,k,os,rfl⟩
    rw [IR n hn]
    exact eB (r:=.str (qn n)) hH hnew hr0 hW ⟨rfl,rfl,rfl,by show w.heap.size≤(w.heap++os).size; simp,fun j hj=>by show (w.heap++os)[j]?=w.heap[j]?; rw [Array.getElem?_append_left hj]⟩ (.str _ (by have:=w5 n; unfold zD; omega))
  ·cases hx
 ·simp at hx

theorem ox (old new:zq):∀ (k:Nat) (s:zq),(Lib.replaceK old new k s).length≤s.length+k * new.length
 | 0,s=>by simp [Lib.replaceK]
 | k+1,s=>by
  rw [Lib.replaceK]
  split
  ·omega
  ·have:=ox old new k (s.drop ((Lib.index s old).toNat+old.length))
   simp only [rT,List.length_take,List.length_drop] at this ⊢
   rw [eQ]
   omega
theorem ii (s old new:zq):(Lib.replaceAll s old new).length≤s.length+(s.length+1) * new.length:=by
 unfold Lib.replaceAll Lib.replace
 split
 ·omega
 ·refine dC (ox old new _ s) ?_
  have hc:=Lib.count_le s old
  have:Lib.replaceNum s old (-1)=Lib.count s old:=by unfold Lib.replaceNum; rw [if_pos (.inl (by omega))]
  rw [this]
  have:=dU new.length hc
  omega
def ow (s old new:zq):Bool:=decide (s.length≤4000000000)&&(decide (1≤old.length)&&decide (new.length≤1000))
def UF:zB:=zA [.str,.str,.str] [.str] (fun x=>ow x.1 x.2.1 x.2.2.1) fun x=>(Lib.replaceAll x.1 x.2.1 x.2.2.1,())
open Go.RowKit Go.Lib in
theorem Qa:FK 231 UF:=by
 refine eE (E:=sT) ⟨Tryz.f231,by kernel_rfl,by kernel_rfl,by kernel_rfl⟩ fun x h0 res hx=>?_
 unfold fP at hx
 split at hx
 ·simp only [Tr.val] at hx
  split at hx
  ·rename_i hc
   simp only [ae] at hx
   subst hx
   obtain ⟨s,old,new,u⟩:=x
   have hc:ow s old new=true:=hc
   unfold ow at hc
   simp only [aE,ah] at hc
   obtain ⟨hc1,hc2,hc3⟩:=hc
   intro C w U ρ vals _ hr hH hnew hr0 hW
   have hl:=hr.len
   match vals,hl,hr with
   | [v1,v2,v3],_,hr=>
    have h1:=hr.rv 0 (.str s) v1 rfl rfl
    have h2:=hr.rv 1 (.str old) v2 rfl rfl
    have h3:=hr.rv 2 (.str new) v3 rfl rfl
    cases h1 with
    | str _ hs1=>
    cases h2 with
    | str _ hs2=>
    cases h3 with
    | str _ hs3=>
    have hg1:Rv w U (fun _=>none) .gint (.pointer (some ⟨2,0,none⟩)):=hW.gl 2
    have hmm:∃ m:Int,w.cell? ⟨2,0,none⟩=some (.int .i64 m):=by
     cases hg1 with
     | gint m _ T fr _ hb _=>exact ⟨m,by simp [World.cell?,hb]⟩
    obtain ⟨m,hm⟩:=hmm
    have hcb:=Lib.countB_le (⟨old.toArray⟩:ByteArray) (by simpa [ByteArray.size] using hc2) s.length (⟨s.toArray⟩:ByteArray) (by simp [ByteArray.size])
    have hsz:(⟨s.toArray⟩:ByteArray).size=s.length:=by simp [ByteArray.size]
    have hnz:(⟨new.toArray⟩:ByteArray).size=new.length:=by simp [ByteArray.size]
    have hmul:Lib.countB (⟨s.toArray⟩:ByteArray) ⟨old.toArray⟩ * new.length≤4000000000 * 1000:=jh (by omega) hc3
    refine (Tryz.strings_ReplaceAll ⟨s.toArray⟩ ⟨old.toArray⟩ ⟨new.toArray⟩ m w (by rw [hsz]; omega) hm (by simpa [ByteArray.size] using hc2) (by rw [hsz,hnz]; omega)).mono ?_
    rintro e w' ⟨rfl,hbel⟩
    refine eB (r:=.str (Lib.replaceAll s old new)) hH hnew hr0 hW hbel (.str _ ?_)
    have hlen:=ii s old new
    have hmul2:(s.length+1) * new.length≤4000000001 * 1000:=jh (by omega) hc3
    unfold zD
    omega
  ·cases hx
 ·simp at hx

def UD:zB:=zA [.sl .str,.str] [.str] (fun x=>decide (x.1.length≤140737488355328)&&decide ((Lib.join x.1 x.2.1).length≤140737488355328)) fun x=>(Lib.join x.1 x.2.1,())
open Go.RowKit Go.Lib in
theorem P8:FK 229 UD:=by
 refine eE (E:=sT) ⟨Tryz.f229,by kernel_rfl,by kernel_rfl,by kernel_rfl⟩ fun x h0 res hx=>?_
 unfold fP at hx
 split at hx
 ·simp only [Tr.val] at hx
  split at hx
  ·rename_i hc
   simp only [ae] at hx
   subst hx
   obtain ⟨l,sep,u⟩:=x
   have hc:(decide (l.length≤140737488355328)&&decide ((Lib.join l sep).length≤140737488355328))=true:=hc
   simp only [aE,ah] at hc
   obtain ⟨hc0,hc⟩:=hc
   have hms:zD=9223372036854775807:=rfl
   intro C w U ρ vals _ hr hH hnew hr0 hW
   have hl:=hr.len
   match vals,hl,hr with
   | [v1,v2],_,hr=>
    have h1:=hr.rv 0 (.sl .str l) v1 rfl rfl
    have h2:=hr.rv 1 (.str sep) v2 rfl rfl
    cases h2 with
    | str _ hs2=>
    generalize hl0:l=l0 at h1 hc hc0 hr
    cases h1 with
    | sl0 _ a c=>
     subst hl0
     refine (Tryz.strings_Join_none a c ⟨sep.toArray⟩ w).mono ?_
     rintro e w' ⟨rfl,rfl⟩
     exact eB (r:=.str []) hH hnew hr0 hW (Below.refl _ _) (.str _ (by simp))
    | sl _ _ b o c vals' hcc hm hb hU hcell hrr=>
     subst hl0
     have hx:∀ (j:Nat) x,(l.map fun s=>(⟨s.toArray⟩:ByteArray))[j]?=some x→w.cell? ⟨b,o+j,none⟩=some (.string x):=by
      intro j x hj
      simp only [cL,c6] at hj
      obtain ⟨s,hs,rfl⟩:=hj
      obtain ⟨hlt,rfl⟩:=bD.1 hs
      have h3:=hcell j 0 hlt (by simp [Sh.size])
      have h4:=hrr j hlt 0 (.str l[j]) rfl
      simp only [Sh.size,Nat.mul_one,p0] at h3
      rw [h3]
      generalize vals' j 0=vv at h4
      cases h4
      rfl
     have hmap:(l.map fun s=>(⟨s.toArray⟩:ByteArray)).map (·.data.toList)=l:=by
      simp [pX]
     have hj:=Tryz.strings_Join b o c (l.map fun s=>(⟨s.toArray⟩:ByteArray)) ⟨sep.toArray⟩ w hx hb (by simpa using hc0) (by simpa using hcc) (by rw [hmap]; exact hc)
     rw [hmap] at hj
     simp only [v8] at hj
     refine hj.mono ?_
     rintro e w' ⟨rfl,hbel⟩
     exact eB (r:=.str (Lib.join l sep)) hH hnew hr0 hW hbel (.str _ (by omega))
  ·cases hx
 ·simp at hx

noncomputable def mH:=sT.addL [(236,F63),(158,F89),(230,UE),(231,UF),(229,UD)]
theorem fD:zm mH:=Gc.addL <| fc WD <| fc W0 <| fc P9 <| fc Qa <| fc P8 g6
end Cad
