/- Expressions: which may be. Expressions: their values. Expressions: may, bounded. Expressions: types and values. What is asked of expressions holds. Checks; bounded tables. What is asked of checks and of bounded tables holds. Which tables may be. What is asked of tables holds. Which rows fit. What is asked of rows holds. The library's functions over texts. -/
import Derived.Test.YtiefilkilbdpgaaGreatDoorL09
namespace Cad
open Go Go.Proofs
open Int (toNat)
open List (length)

def vW (v:V):Bool:=v.1==0&&(v.2.1==0&&(v.2.2==[]&&true))
def avB:AV→Option Bool
 | .bool b=>some b
 | .kb b=>some b
 | _=>none

theorem Reach.toBool {E:bq} {C:cr} {fn:FuncId} {todo:List Item} {st:St} {b:Bool} {hp:List AO} (h:Reach E C fn todo st (fun r h=>avB r=some b∧h=hp)):Reach E C fn todo st (fun r h=>(r,h)=(.bool b,hp)):=by
 refine h.weaken fun r h' hq=>?_
 obtain ⟨h1,rfl⟩:=hq
 refine ⟨.bool b,rfl,fun w U ρ v hv=>?_⟩
 cases r <;> simp [avB] at h1 <;> subst h1 <;> cases hv <;> exact .bool _

def Wu (g:ze→Int→Int→Bool×Int) (c:ze→Int→Int→Bool):cz [none,some .expr,some zg]:=fun x h=>match x,h with
 | (.ptr 0 0,e,d,_),[.box [.int .i64 n]]=>.chk (c e d n) (.ok (.bool (g e d n).1,[.box [.int .i64 (g e d n).2]]))
 | _,_=>.err
def Fl (g:ze→Int→Int→Bool×Int) (c:ze→Int→Int→Bool):zD:=zS [none,some .expr,some zg] (Wu g c)
noncomputable def JD (g:ze→Int→Int→Bool×Int) (c:ze→Int→Int→Bool):bq:=HE.add 137 (Fl g c)
theorem u4 {g:ze→Int→Int→Bool×Int} {c:ze→Int→Int→Bool} (hg:FK 137 (Fl g c)):zm (JD g c):=yO.add hg
abbrev zed:Nat→zY:=fun j=>if j=12 then { slots:=[0,2,73,74,75] } else { }
abbrev CD (i2:Int) (l73:LX) (i74:Int) (i75:Int) (ja0:Int):St:={ tmps:=(tm 86 [(0,AV.ptr 0 0),(2,ai i2),(73,AV.sl Sh.expr l73),(74,ai i74),(75,ai i75)]),heap:=[AO.box [ai ja0]] }
theorem Nw (g:ze→Int→Int→Bool×Int) (c:ze→Int→Int→Bool):zA (JD g c).P 137 Tryz.f137 3:=aL (by kernel_rfl)
theorem zhf (g:ze→Int→Int→Bool×Int) (c:ze→Int→Int→Bool) (e:ze) (d:Int) (n:Int):rn (JD g c) 1 zed Tryz.f137 [AV.ptr 0 0,zz Sh.expr e,ai d] [AO.box [ai n]]=Tr.br (bif decide (d > 12) then true else bif decide (IntKind.i64.wrap (n+1) > 60) then true else (↑e.l.length:Int) != dq e.op) (Tr.ok (zt.ret (AV.kb false) [AO.box [ai (IntKind.i64.wrap (n+1))]])) (Tr.br (e.op==[108,105,116]) (Tr.ok (zt.ret (AV.bool (bif e.s==[] then dS e.v else false)) [AO.box [ai (IntKind.i64.wrap (n+1))]])) (Tr.br (e.op==[99,111,108]) (Tr.ok (zt.ret (AV.bool (bif vW e.v then bif dA e.s then !oU e.s else false else false)) [AO.box [ai (IntKind.i64.wrap (n+1))]])) (Tr.br (bif !vW e.v then true else !e.s==[]) (Tr.ok (zt.ret (AV.kb false) [AO.box [ai (IntKind.i64.wrap (n+1))]])) (Tr.ok (zt.head 12 (zy Tryz.f137 12) (CD d e.l (↑e.l.length:Int) 0 (IntKind.i64.wrap (n+1)))))))):=by kernel_rfl
theorem Ip (g:ze→Int→Int→Bool×Int) (c:ze→Int→Int→Bool) (i2:Int) (l73:LX) (i74:Int) (i75:Int) (ja0:Int):rh (JD g c) 1 zed Tryz.f137 12 (CD i2 l73 i74 i75 ja0)=Tr.br (decide (i75 < i74)) (Tr.chk (zF i75 l73.length) (Tr.chk (c (zB (l73.getD i75.toNat (zj Sh.expr))) (IntKind.i64.wrap (i2+1)) ja0) (Tr.br (!(g (zB (l73.getD i75.toNat (zj Sh.expr))) (IntKind.i64.wrap (i2+1)) ja0).1) (Tr.ok (zt.ret (AV.kb false) [AO.box [AV.int IntKind.i64 (g (zB (l73.getD i75.toNat (zj Sh.expr))) (IntKind.i64.wrap (i2+1)) ja0).2]])) (Tr.ok (zt.head 12 (zy Tryz.f137 12) (CD i2 l73 i74 (IntKind.i64.wrap (i75+1)) (g (zB (l73.getD i75.toNat (zj Sh.expr))) (IntKind.i64.wrap (i2+1)) ja0).2)))))) (Tr.ok (zt.ret (AV.kb true) [AO.box [ai ja0]])):=by kernel_rfl

def pP (g:ze→Int→Int→Bool×Int) (d:Int):List ze→Int→Bool×Int
 | [],n=>(true,n)
 | x::r,n=>if (!(g x (IntKind.i64.wrap (d+1)) n).1)=true then (false,(g x (IntKind.i64.wrap (d+1)) n).2) else pP g d r (g x (IntKind.i64.wrap (d+1)) n).2
def we (g:ze→Int→Int→Bool×Int) (c:ze→Int→Int→Bool) (d:Int):List ze→Int→Bool
 | [],_=>true
 | x::r,n=>if c x (IntKind.i64.wrap (d+1)) n=true then (if (!(g x (IntKind.i64.wrap (d+1)) n).1)=true then true else we g c d r (g x (IntKind.i64.wrap (d+1)) n).2) else false

theorem zgv {g:ze→Int→Int→Bool×Int} {c:ze→Int→Int→Bool} (hg:FK 137 (Fl g c)) {C:cr} (hC:∀ id,1≤id→C.ρ0 id=none) (d:Int) (l:List ze) (hl:l.length≤zE):
  ∀ (k i:Nat) (n:Int),l.length - i=k→i≤l.length→we g c d (l.drop i) n=true→Reach (JD g c) C 137 (zy Tryz.f137 12) (CD d l l.length i n) (fun r h=>avB r=some (pP g d (l.drop i) n).1∧h=[.box [.int .i64 (pP g d (l.drop i) n).2]]):=by
 intro k
 induction k with
 | zero=>
  intro i n hk hi hc
  obtain rfl:i=l.length:=by omega
  refine zk (u4 hg) (Nw g c) hC (Ip g c _ _ _ _ _) ?_
  simp only [ag,Tr.val_brF,dj]
  exact ⟨rfl,rfl⟩
 | succ k IH=>
  intro i n hk hi hc
  have hlt:i < l.length:=by omega
  refine zk (u4 hg) (Nw g c) hC (Ip g c _ _ _ _ _) ?_
  rw [dB hlt] at hc ⊢
  rw [we] at hc
  have hc1:=nd hc
  simp only [zX hlt,zG hlt,ac l _ hlt,ze.eta,Tr.val_brT,Tr.val_chkT,hc1.1,zH i (by omega)]
  refine j0 (fun h=>?_) (fun h=>?_)
  ·rw [pP,if_pos h]; exact ⟨rfl,rfl⟩
  ·rw [pP,if_neg (kr h)]
   have h2:=hc1.2
   rw [if_neg (kr h)] at h2
   exact IH (i+1) _ (by omega) (by omega) h2

def wh (g:ze→Int→Int→Bool×Int) (e:ze) (d n:Int):Bool×Int:=if (bif decide (d > 12) then true else bif decide (IntKind.i64.wrap (n+1) > 60) then true else (↑e.l.length:Int) != dq e.op)=true then (false,IntKind.i64.wrap (n+1)) else if (e.op==[108,105,116])=true then (bif e.s==[] then dS e.v else false,IntKind.i64.wrap (n+1)) else if (e.op==[99,111,108])=true then (bif vW e.v then bif dA e.s then !oU e.s else false else false,IntKind.i64.wrap (n+1)) else if (bif !vW e.v then true else !e.s==[])=true then (false,IntKind.i64.wrap (n+1)) else pP g d e.l (IntKind.i64.wrap (n+1))
def H6 (g:ze→Int→Int→Bool×Int) (c:ze→Int→Int→Bool) (e:ze) (d n:Int):Bool:=if (bif decide (d > 12) then true else bif decide (IntKind.i64.wrap (n+1) > 60) then true else (↑e.l.length:Int) != dq e.op)=true then true else if (e.op==[108,105,116])=true then true else if (e.op==[99,111,108])=true then true else if (bif !vW e.v then true else !e.s==[])=true then true else we g c d e.l (IntKind.i64.wrap (n+1))

theorem VB {g:ze→Int→Int→Bool×Int} {c:ze→Int→Int→Bool} (hg:FK 137 (Fl g c)):FK 137 (Fl (wh g) (H6 g c)):=by
 refine bt (E:=JD g c) (Nw g c) fun x h0 res hx C hC=>?_
 unfold Wu at hx
 split at hx
 ·rename_i e d u n
  simp only [Tr.val] at hx
  split at hx
  ·rename_i hc
   simp only [aq] at hx
   subst hx
   refine Reach.toBool ?_
   refine zk (n0:=1) (u4 hg) (Nw g c) hC (zhf g c e d n) ?_
   generalize hy:wh g e d n=y
   unfold wh at hy
   unfold H6 at hc
   repeat' (refine j0 (fun hsp=>?_) (fun hsp=>?_) <;> first | (rw [if_pos hsp] at hy hc) | (rw [if_neg (kr hsp)] at hy hc))
   all_goals subst hy
   ·exact ⟨rfl,rfl⟩
   ·exact ⟨rfl,rfl⟩
   ·exact ⟨rfl,rfl⟩
   ·exact ⟨rfl,rfl⟩
   ·exact Reach.len 73 .expr e.l rfl fun hl=>zgv hg hC d e.l hl _ 0 _ rfl (aE _) hc
  ·simp at hx
 ·simp at hx

mutual
def mt:Nat→ze→Int→Int→Bool×Int
 | 0=>fun _ _ _=>(false,0)
 | n+1=>wh (mt n)
def pO:Nat→ze→Int→Int→Bool
 | 0=>fun _ _ _=>false
 | n+1=>H6 (mt n) (pO n)
end
theorem KQ:∀ n,FK 137 (Fl (mt n) (pO n))
 | 0=>by
  have h:FK 137 (zS [none,some .expr,some zg] (fun _ _=>.err)):=bt (Nw (fun _ _ _=>(false,0)) (fun _ _ _=>false)) (E:=HE) fun x h0 res hx=>by simp at hx
  refine A8 (ι:=Unit) (Gs:=fun _ _ _=>.err) (fun _=>h) fun x h0 res hx=>?_
  unfold Wu at hx
  split at hx
  ·simp [Tr.val,pO] at hx
  ·simp at hx
 | n+1=>VB (KQ n)
def F37:zD:=Fl (mt 16) (pO 16)
theorem za7:FK 137 F37:=KQ 16

noncomputable def yP:=HE.add 137 F37
theorem qT:zm yP:=yO.add za7

abbrev gk:List (zl×AV):=[([97,110,100],.clo (.func 138) [] []),([111,114],.clo (.func 139) [] []),([110,111,116],.clo (.func 140) [] []),([61],.clo (.func 142) [] []),([60],.clo (.func 143) [] []),([43],.clo (.func 144) [] []),([45],.clo (.func 145) [] []),([110,117,108,108],.clo (.func 146) [] [])]
abbrev zij:Nat→zY:=fun _=>{ }
theorem zeM:zA yP.P 86 Tryz.f86 0:=aL (by kernel_rfl)
theorem zg6:(run yP 0 zij (Func.results Tryz.f86).toList 400 (aA Tryz.f86) (af (Func.ntmps Tryz.f86) [] [])).val=some (zt.ret (AV.mp 0) [AO.fmap gk]):=by kernel_rfl
def G23:cz []:=fun _ h=>match h with
 | []=>.ok (.mp 0,[.fmap gk])
 | _=>.err
def F23:zD:=zS [] G23
theorem zaX:FK 86 F23:=by
 refine bt zeM fun x h0 res hx C hC=>?_
 unfold G23 at hx
 split at hx
 ·simp only [Tr.val,aq] at hx
  subst hx
  exact nt (n0:=0) qT zeM hC zg6 rfl
 ·simp at hx

def YH (op:zl) (x y:V):V:=if (op==[97,110,100])=true then RL x y else if (op==[111,114])=true then vOr x y else if (op==[110,111,116])=true then Ji x y else if (op==[61])=true then jW x y else if (op==[60])=true then Jg x y else if (op==[43])=true then Jj x y else if (op==[45])=true then CY x y else if (op==[110,117,108,108])=true then CZ x y else (0,0,[])
def opC (op:zl):Bool:=if (op==[97,110,100])=true then true else if (op==[111,114])=true then true else if (op==[110,111,116])=true then true else if (op==[61])=true then true else if (op==[60])=true then true else if (op==[43])=true then true else if (op==[45])=true then true else if (op==[110,117,108,108])=true then true else false
def opL (op:zl) (x y:V) (h:List AO):Option zt:=if (op==[97,110,100])=true then some (.ret (zz zf (RL x y)) h) else if (op==[111,114])=true then some (.ret (zz zf (vOr x y)) h) else if (op==[110,111,116])=true then some (.ret (zz zf (Ji x y)) h) else if (op==[61])=true then some (.ret (zz zf (jW x y)) h) else if (op==[60])=true then some (.ret (zz zf (Jg x y)) h) else if (op==[43])=true then some (.ret (zz zf (Jj x y)) h) else if (op==[45])=true then some (.ret (zz zf (CY x y)) h) else if (op==[110,117,108,108])=true then some (.ret (zz zf (CZ x y)) h) else none

def Wt (g:List (Sem zi)→List (Sem zf)→ze→V) (c:List (Sem zi)→List (Sem zf)→ze→Bool):cz [none,some .expr]:=fun x h=>match x,h with
 | (.agg [.sl (.pr .str (.pr (.int .i64) .bool)) cols,.sl (.pr (.int .i64) (.pr (.int .i64) .str)) row,.mp 0],e,_),[.fmap [(k1,.clo (.func 138) [] []),(k2,.clo (.func 139) [] []),(k3,.clo (.func 140) [] []),(k4,.clo (.func 142) [] []),(k5,.clo (.func 143) [] []),(k6,.clo (.func 144) [] []),(k7,.clo (.func 145) [] []),(k8,.clo (.func 146) [] [])]]=>
  .chk (k1==[97,110,100]&&(k2==[111,114]&&(k3==[110,111,116]&&(k4==[61]&&(k5==[60]&&(k6==[43]&&(k7==[45]&&(k8==[110,117,108,108])))))))) (.chk (c cols row e) (.ok (zz zf (g cols row e),[.fmap gk])))
 | _,_=>.err
def Jl (g:List (Sem zi)→List (Sem zf)→ze→V) (c:List (Sem zi)→List (Sem zf)→ze→Bool):zD:=zS [none,some .expr] (Wt g c)
noncomputable def JB (g:List (Sem zi)→List (Sem zf)→ze→V) (c:List (Sem zi)→List (Sem zf)→ze→Bool):bq:=yP.add 87 (Jl g c)
theorem uZ {g:List (Sem zi)→List (Sem zf)→ze→V} {c:List (Sem zi)→List (Sem zf)→ze→Bool} (hg:FK 87 (Jl g c)):zm (JB g c):=qT.add hg
theorem Nr (g:List (Sem zi)→List (Sem zf)→ze→V) (c:List (Sem zi)→List (Sem zf)→ze→Bool):zA (JB g c).P 87 Tryz.f87 2:=aL (by kernel_rfl)
theorem Xi (g:List (Sem zi)→List (Sem zf)→ze→V) (c:List (Sem zi)→List (Sem zf)→ze→Bool) (cols:LC) (row:LV) (op:zl) (v:V) (s:zl):(run (JB g c) 1 Zb (Func.results Tryz.f87).toList 600 (aA Tryz.f87) (af (Func.ntmps Tryz.f87) [AV.agg [AV.sl zi cols,AV.sl zf row,AV.mp 0],zz Sh.expr (.mk op v s [])] [AO.fmap gk])).val=if (op==[108,105,116])=true then some (.ret (zz zf v) [.fmap gk]) else if (op==[99,111,108])=true then (if (bif decide (au cols s < 0) then true else decide (au cols s ≥ (↑row.length:Int)))=true then some (.ret (zz zf (0,0,[])) [.fmap gk]) else if zF (au cols s) row.length=true then some (.ret (zz zf (row.getD (toNat (au cols s)) (zj zf))) [.fmap gk]) else none) else opL op (0,0,[]) (0,0,[]) [.fmap gk]:=by kernel_rfl
theorem Xj (g:List (Sem zi)→List (Sem zf)→ze→V) (c:List (Sem zi)→List (Sem zf)→ze→Bool) (cols:LC) (row:LV) (op:zl) (v:V) (s:zl) (a:ze):(run (JB g c) 1 Zb (Func.results Tryz.f87).toList 600 (aA Tryz.f87) (af (Func.ntmps Tryz.f87) [AV.agg [AV.sl zi cols,AV.sl zf row,AV.mp 0],zz Sh.expr (.mk op v s [a])] [AO.fmap gk])).val=if (op==[108,105,116])=true then some (.ret (zz zf v) [.fmap gk]) else if (op==[99,111,108])=true then (if (bif decide (au cols s < 0) then true else decide (au cols s ≥ (↑row.length:Int)))=true then some (.ret (zz zf (0,0,[])) [.fmap gk]) else if zF (au cols s) row.length=true then some (.ret (zz zf (row.getD (toNat (au cols s)) (zj zf))) [.fmap gk]) else none) else if c cols row (.mk a.op a.v a.s a.l)=true then opL op (g cols row (.mk a.op a.v a.s a.l)) (0,0,[]) [.fmap gk] else none:=by kernel_rfl
theorem Xk (g:List (Sem zi)→List (Sem zf)→ze→V) (c:List (Sem zi)→List (Sem zf)→ze→Bool) (cols:LC) (row:LV) (op:zl) (v:V) (s:zl) (a b:ze):(run (JB g c) 1 Zb (Func.results Tryz.f87).toList 600 (aA Tryz.f87) (af (Func.ntmps Tryz.f87) [AV.agg [AV.sl zi cols,AV.sl zf row,AV.mp 0],zz Sh.expr (.mk op v s [a,b])] [AO.fmap gk])).val=if (op==[108,105,116])=true then some (.ret (zz zf v) [.fmap gk]) else if (op==[99,111,108])=true then (if (bif decide (au cols s < 0) then true else decide (au cols s ≥ (↑row.length:Int)))=true then some (.ret (zz zf (0,0,[])) [.fmap gk]) else if zF (au cols s) row.length=true then some (.ret (zz zf (row.getD (toNat (au cols s)) (zj zf))) [.fmap gk]) else none) else if c cols row (.mk a.op a.v a.s a.l)=true then (if c cols row (.mk b.op b.v b.s b.l)=true then opL op (g cols row (.mk a.op a.v a.s a.l)) (g cols row (.mk b.op b.v b.s b.l)) [.fmap gk] else none) else none:=by kernel_rfl

theorem mS {Φ:zt→Prop} {c:Bool} {a b:Option zt} (h1:c=true→fe Φ a) (h2:c=false→fe Φ b):fe Φ (if c=true then a else b):=by
 cases c
 ·simpa using h2 rfl
 ·simpa using h1 rfl
theorem rI {E:bq} {C:cr} {k:FuncId} {f:Func} {Q:AV→List AO→Prop} {n n0:Nat} (hE:zm E) (hf:zA E.P k f n) (hC:∀ id,n0≤id→C.ρ0 id=none) {keep:Nat→zY} {fuel:Nat}
  {todo:List Item} {st:St} {o:Option zt} (ht:(run E n0 keep f.results.toList fuel todo st).val=o) (h:fe (g7 E C k Q) o):Reach E C k todo st Q:=
 zk hE hf hC rfl (by rw [ht]; exact h)

theorem ru {E:bq} {C:cr} {op:zl} {x y:V} {h:List AO} (hc:opC op=true):fe (g7 E C 87 (fun r h'=>(r,h')=(zz zf (YH op x y),h))) (opL op x y h):=by
 generalize hy:YH op x y=z
 unfold opC at hc
 unfold YH at hy
 unfold opL
 repeat' (refine mS (fun hsp=>?_) (fun hsp=>?_) <;> first | (rw [if_pos hsp] at hy; try rw [if_pos hsp] at hc) | (rw [if_neg (kr hsp)] at hy; try rw [if_neg (kr hsp)] at hc))
 all_goals first | (cases hc; done) | (subst hy; rfl)

def Fg (g:List (Sem zi)→List (Sem zf)→ze→V) (cols:LC) (row:LV):ze→V
 | .mk op v s l=>if (op==[108,105,116])=true then v else
  if (op==[99,111,108])=true then (if (bif decide (au cols s < 0) then true else decide (au cols s ≥ (↑row.length:Int)))=true then (0,0,[]) else row.getD (toNat (au cols s)) (zj zf)) else
  match l with
  | []=>YH op (0,0,[]) (0,0,[])
  | [a]=>YH op (g cols row a) (0,0,[])
  | [a,b]=>YH op (g cols row a) (g cols row b)
  | _=>(0,0,[])
def qB (c:List (Sem zi)→List (Sem zf)→ze→Bool) (cols:LC) (row:LV):ze→Bool
 | .mk _ _ _ (_::_::_::_)=>false
 | .mk op _ s l=>if (op==[108,105,116])=true then true else
  if (op==[99,111,108])=true then (if (bif decide (au cols s < 0) then true else decide (au cols s ≥ (↑row.length:Int)))=true then true else zF (au cols s) row.length) else
  match l with
  | []=>opC op
  | [a]=>if c cols row a=true then opC op else false
  | [a,b]=>if c cols row a=true then (if c cols row b=true then opC op else false) else false
  | _=>false

theorem Vr {g:List (Sem zi)→List (Sem zf)→ze→V} {c:List (Sem zi)→List (Sem zf)→ze→Bool} (hg:FK 87 (Jl g c)):FK 87 (Jl (Fg g) (qB c)):=by
 refine bt (E:=JB g c) (Nr g c) fun x h0 res hx C hC=>?_
 unfold Wt at hx
 split at hx
 ·rename_i cols row e u k1 k2 k3 k4 k5 k6 k7 k8
  simp only [Tr.val] at hx
  split at hx
  ·rename_i hk
   split at hx
   ·rename_i hc
    simp only [aG,ej] at hk
    obtain ⟨rfl,rfl,rfl,rfl,rfl,rfl,rfl,rfl⟩:=hk
    simp only [aq] at hx
    subst hx
    obtain ⟨op,v,s,l⟩:=e
    match l,hc with
    | [],hc=>
     refine rI (n0:=1) (uZ hg) (Nr g c) hC (Xi g c cols row op v s) ?_
     generalize hy:Fg g cols row (.mk op v s [])=z
     rw [qB] at hc
     rw [Fg] at hy
     repeat' (first | (subst hy; exact ru hc) | refine mS (fun hsp=>?_) (fun hsp=>?_) <;> first | (first | rw [if_pos hsp] at hy hc | rw [if_pos hsp] at hc | rw [if_pos hsp] at hy) | (first | rw [if_neg (kr hsp)] at hy hc | rw [if_neg (kr hsp)] at hc | rw [if_neg (kr hsp)] at hy) | skip)
     all_goals first | (subst hy; exact ru hc) | (subst hy; rfl) | (rw [hc] at hsp; cases hsp)
    | [a],hc=>
     refine rI (n0:=1) (uZ hg) (Nr g c) hC (Xj g c cols row op v s a) ?_
     generalize hy:Fg g cols row (.mk op v s [a])=z
     rw [qB] at hc
     rw [Fg] at hy
     simp only [ze.eta]
     repeat' (first | (subst hy; exact ru hc) | refine mS (fun hsp=>?_) (fun hsp=>?_) <;> first | (first | rw [if_pos hsp] at hy hc | rw [if_pos hsp] at hc | rw [if_pos hsp] at hy) | (first | rw [if_neg (kr hsp)] at hy hc | rw [if_neg (kr hsp)] at hc | rw [if_neg (kr hsp)] at hy) | skip)
     all_goals first | (subst hy; exact ru hc) | (subst hy; rfl) | (cases hc; done) | (rw [hc] at hsp; cases hsp)
    | [a,b],hc=>
     refine rI (n0:=1) (uZ hg) (Nr g c) hC (Xk g c cols row op v s a b) ?_
     generalize hy:Fg g cols row (.mk op v s [a,b])=z
     rw [qB] at hc
     rw [Fg] at hy
     simp only [ze.eta]
     repeat' (first | (subst hy; exact ru hc) | refine mS (fun hsp=>?_) (fun hsp=>?_) <;> first | (first | rw [if_pos hsp] at hy hc | rw [if_pos hsp] at hc | rw [if_pos hsp] at hy) | (first | rw [if_neg (kr hsp)] at hy hc | rw [if_neg (kr hsp)] at hc | rw [if_neg (kr hsp)] at hy) | skip)
     all_goals first | (subst hy; exact ru hc) | (subst hy; rfl) | (cases hc; done) | (rw [hc] at hsp; cases hsp)
    | _::_::_::_,hc=>
     cases hc
   ·simp at hx
  ·simp at hx
 ·simp at hx

mutual
def sZ:Nat→List (Sem zi)→List (Sem zf)→ze→V
 | 0=>fun _ _ _=>(0,0,[])
 | n+1=>Fg (sZ n)
def qA:Nat→List (Sem zi)→List (Sem zf)→ze→Bool
 | 0=>fun _ _ _=>false
 | n+1=>qB (qA n)
end
theorem KN:∀ n,FK 87 (Jl (sZ n) (qA n))
 | 0=>by
  have h:FK 87 (zS [none,some .expr] (fun _ _=>.err)):=bt (Nr (fun _ _ _=>(0,0,[])) (fun _ _ _=>false)) (E:=yP) fun x h0 res hx=>by simp at hx
  refine A8 (ι:=Unit) (Gs:=fun _ _ _=>.err) (fun _=>h) fun x h0 res hx=>?_
  unfold Wt at hx
  split at hx
  ·simp [Tr.val,qA] at hx
  ·simp at hx
 | n+1=>Vr (KN n)
def F24:zD:=Jl (sZ 16) (qA 16)
theorem zaY:FK 87 F24:=KN 16

noncomputable def yQ:=yP.addL [(86,F23),(87,F24)]
theorem qU:zm yQ:=qT.addL <| fc zaX <| fc zaY gZ

abbrev zii:Nat→zY:=fun _=>{ }
theorem zeL:zA (yQ).P 85 Tryz.f85 1:=aL (by kernel_rfl)
theorem zg5 (x0:Sem Sh.expr):rn yQ 0 zii Tryz.f85 [zz Sh.expr x0] []=Tr.chk (pO 16 (zB x0) 1 0) (Tr.ok (zt.ret (AV.bool (mt 16 (zB x0) 1 0).1) [])):=by kernel_rfl
def gg (x0:Sem Sh.expr):Sem Sh.bool:=(mt 16 x0 1 0).1
def sj (x0:Sem Sh.expr):Bool:=if pO 16 x0 1 0=true then true else false
def F22:zD:=zC [Sh.expr] [Sh.bool] (fun x=>sj x.1) fun x=>(gg x.1,())
theorem S2:FK 85 F22:=by
 refine zM (zeL) fun x hc C hC=>?_
 unfold sj at hc
 refine zk qU (zeL) (fun id _=>hC id) (zg5 x.1) ?_
 generalize hy:gg x.1=y
 unfold gg at hy
 try simp only [ze.eta]
 repeat' (first | with_reducible refine eY hy hc (fun _ hy hc=>?_) (fun _ hy hc=>?_) | with_reducible refine aR hy (fun _ hy=>?_) (fun _ hy=>?_) | with_reducible refine bm hc (fun hc=>?_) | with_reducible refine zr ?_)
 all_goals (subst hy; first | rfl)

abbrev kp7:Nat→zY:=fun _=>{ }
theorem ok7:zA (yQ).P 27 Tryz.f27 1:=aL (by kernel_rfl)
theorem go7 (x0:Sem Sh.expr):rn yQ 0 kp7 Tryz.f27 [zz Sh.expr x0] []=Tr.chk (pF 16 (zB x0) 14 80) (Tr.ok (zt.ret (AV.agg [AV.str (ze.op (jo 16 (zB x0) 14 80).1),ai (ze.v (jo 16 (zB x0) 14 80).1).1,ai (ze.v (jo 16 (zB x0) 14 80).1).2.1,AV.str (ze.v (jo 16 (zB x0) 14 80).1).2.2,AV.str (ze.s (jo 16 (zB x0) 14 80).1),AV.sl Sh.expr (ze.l (jo 16 (zB x0) 14 80).1)]) [])):=by kernel_rfl
def cA (x0:Sem Sh.expr):Sem Sh.expr:=ze.mk (ze.op (jo 16 x0 14 80).1) (ze.v (jo 16 x0 14 80).1) (ze.s (jo 16 x0 14 80).1) (ze.l (jo 16 x0 14 80).1)
def HC (x0:Sem Sh.expr):Bool:=if pF 16 x0 14 80=true then true else false
def F7:zD:=zC [Sh.expr] [Sh.expr] (fun x=>HC x.1) fun x=>(cA x.1,())
theorem zbE:FK 27 F7:=by
 refine zM (ok7) fun x hc C hC=>?_
 unfold HC at hc
 refine zk qU (ok7) (fun id _=>hC id) (go7 x.1) ?_
 generalize hy:cA x.1=y
 unfold cA at hy
 try simp only [ze.eta]
 repeat' (first | with_reducible refine eY hy hc (fun _ hy hc=>?_) (fun _ hy hc=>?_) | with_reducible refine aR hy (fun _ hy=>?_) (fun _ hy=>?_) | with_reducible refine bm hc (fun hc=>?_) | with_reducible refine zr ?_)
 all_goals (subst hy; first | rfl)

noncomputable def yR:=yQ.addL [(85,F22),(27,F7)]
theorem qV:zm yR:=qU.addL <| fc S2 <| fc zbE gZ

abbrev zik:Nat→zY:=fun _=>{ }
theorem zeP:zA (yR).P 83 Tryz.f83 2:=aL (by kernel_rfl)
theorem zha (x0:Sem Sh.expr) (x1:Sem zi.sl):rn yR 0 zik Tryz.f83 [zz Sh.expr x0,zz zi.sl x1] []=Tr.chk (sj (zB x0)) (Tr.br (!gg (zB x0)) (Tr.ok (zt.ret (AV.tup [ai 0,ai 1]) [])) (Tr.chk (gH 16 (zB x0) x1) (Tr.ok (zt.ret (AV.tup [ai (fa 16 (zB x0) x1).1,ai (fa 16 (zB x0) x1).2]) [])))):=by kernel_rfl
def bj (x0:Sem Sh.expr) (x1:Sem zi.sl):Sem zg×Sem zg:=if (!gg x0)=true then (0,1) else ((fa 16 x0 x1).1,(fa 16 x0 x1).2)
def Bz (x0:Sem Sh.expr) (x1:Sem zi.sl):Bool:=if sj x0=true then if (!gg x0)=true then true else if gH 16 x0 x1=true then true else false else false
def F30:zD:=zC [Sh.expr,zi.sl] [zg,zg] (fun x=>Bz x.1 x.2.1) fun x=>((bj x.1 x.2.1).1,(bj x.1 x.2.1).2,())
theorem S3:FK 83 F30:=by
 refine zM (zeP) fun x hc C hC=>?_
 unfold Bz at hc
 refine zk qV (zeP) (fun id _=>hC id) (zha x.1 x.2.1) ?_
 generalize hy:bj x.1 x.2.1=y
 unfold bj at hy
 try simp only [ze.eta]
 repeat' (first | with_reducible refine eY hy hc (fun _ hy hc=>?_) (fun _ hy hc=>?_) | with_reducible refine aR hy (fun _ hy=>?_) (fun _ hy=>?_) | with_reducible refine bm hc (fun hc=>?_) | with_reducible refine zr ?_)
 all_goals (subst hy; first | rfl)

abbrev zig:Nat→zY:=fun _=>{ }
theorem zeE:zA (yR).P 48 Tryz.f48 3:=aL (by kernel_rfl)
theorem zgX (x0:Sem Sh.expr) (x1:Sem zi.sl) (x2:Sem zf.sl):rn yR 0 zig Tryz.f48 [zz Sh.expr x0,zz zi.sl x1,zz zf.sl x2] []=Tr.chk (sj (zB x0)) (Tr.br (!gg (zB x0)) (Tr.ok (zt.ret (AV.agg [ai 0,ai 0,AV.str []]) [])) (Tr.chk ([97,110,100]==[97,110,100]&&([111,114]==[111,114]&&([110,111,116]==[110,111,116]&&([61]==[61]&&([60]==[60]&&([43]==[43]&&([45]==[45]&&[110,117,108,108]==[110,117,108,108]))))))) (Tr.chk (qA 16 x1 x2 (zB x0)) (Tr.ok (zt.ret (AV.agg [ai (sZ 16 x1 x2 (zB x0)).1,ai (sZ 16 x1 x2 (zB x0)).2.1,AV.str (sZ 16 x1 x2 (zB x0)).2.2]) []))))):=by kernel_rfl
def gM (x0:Sem Sh.expr) (x1:Sem zi.sl) (x2:Sem zf.sl):Sem zf:=if (!gg x0)=true then (0,0,[]) else sZ 16 x1 x2 x0
def By (x0:Sem Sh.expr) (x1:Sem zi.sl) (x2:Sem zf.sl):Bool:=if sj x0=true then if (!gg x0)=true then true else if ([97,110,100]==[97,110,100]&&([111,114]==[111,114]&&([110,111,116]==[110,111,116]&&([61]==[61]&&([60]==[60]&&([43]==[43]&&([45]==[45]&&[110,117,108,108]==[110,117,108,108])))))))=true then if qA 16 x1 x2 x0=true then true else false else false else false
def F11:zD:=zC [Sh.expr,zi.sl,zf.sl] [zf] (fun x=>By x.1 x.2.1 x.2.2.1) fun x=>(gM x.1 x.2.1 x.2.2.1,())
theorem SX:FK 48 F11:=by
 refine zM (zeE) fun x hc C hC=>?_
 unfold By at hc
 refine zk qV (zeE) (fun id _=>hC id) (zgX x.1 x.2.1 x.2.2.1) ?_
 generalize hy:gM x.1 x.2.1 x.2.2.1=y
 unfold gM at hy
 try simp only [ze.eta]
 repeat' (first | with_reducible refine eY hy hc (fun _ hy hc=>?_) (fun _ hy hc=>?_) | with_reducible refine aR hy (fun _ hy=>?_) (fun _ hy=>?_) | with_reducible refine bm hc (fun hc=>?_) | with_reducible refine zr ?_)
 all_goals (subst hy; first | rfl)

noncomputable def Tk:=yR.addL [(83,F30),(48,F11)]
theorem JI:zm Tk:=qV.addL <| fc S3 <| fc SX gZ

theorem lq (d:Int) (h1:-1000≤d) (h2:d≤1000):IntKind.i64.wrap d=d:=by
 rw [ul]; omega

theorem An {g:Sem Sh.expr→Sem zg→Sem zg→Sem Sh.expr×Sem zg} {c:Sem Sh.expr→Sem zg→Sem zg→Bool} {i1:Int} (h:∀ x n,0 < i1→c x (IntKind.i64.wrap (i1 - 1)) n=true) {a0:zl} {a1 a2:Int} {a3 a4 b0:zl} {b1 b2:Int} {b3 b4 d0:zl} {d1 d2:Int} {d3 d4:zl}:
  ∀ (l:List (Sem Sh.expr)) (i n:Int) (acc:List (Sem Sh.expr)),(acc.length:Int)≤i→cF g c i1 a0 a1 a2 a3 a4 b0 b1 b2 b3 b4 d0 d1 d2 d3 d4 l i n acc=true
 | [],_,_,_,_=>rfl
 | x::r,i,n,acc,hi=>by
  rw [cF]
  split
  ·rename_i hk
   have h3:i < 3∧i1 > 0:=by
    cases h1:decide (i < 3) <;> cases h2:decide (i1 > 0) <;> simp_all
   rw [if_pos (h x n h3.2),if_pos (by simp; omega)]
   exact An h r (i+1) _ _ (by simp; omega)
  ·rfl

theorem F9 {g:Sem Sh.expr→Sem zg→Sem zg→Sem Sh.expr×Sem zg} {c:Sem Sh.expr→Sem zg→Sem zg→Bool} {i1:Int} (h:∀ x n,0 < i1→c x (IntKind.i64.wrap (i1 - 1)) n=true) (e:ze) (n:Int):D5 g c e i1 n=true:=by
 have hl:=fun a0 a1 a2 a3 a4 b0 b1 b2 b3 b4 d0 d1 d2 d3 d4 l n=>An (g:=g) h (a0:=a0) (a1:=a1) (a2:=a2) (a3:=a3) (a4:=a4) (b0:=b0) (b1:=b1) (b2:=b2) (b3:=b3) (b4:=b4) (d0:=d0) (d1:=d1) (d2:=d2) (d3:=d3) (d4:=d4) l 0 n [] (by simp)
 unfold D5
 repeat' split
 all_goals first
  | exact hl _ _ _ _ _ _ _ _ _ _ _ _ _ _ _ _ _
  | (exfalso; simp only [zW,aG,not_and] at *; omega)

theorem vM:∀ (N:Nat) (e:ze) (d n:Int),0≤d→d < N→N≤100→pF N e d n=true
 | 0,_,_,_,h1,h2,_=>by omega
 | N+1,e,d,n,h1,h2,h3=>by
  rw [pF]
  refine F9 (fun x m hd=>?_) e n
  rw [lq _ (by omega) (by omega)]
  exact vM N x (d - 1) m (by omega) (by omega) (by omega)

theorem wg {g:ze→Int→Int→Bool×Int} {c:ze→Int→Int→Bool} {d:Int} (h:∀ x n,c x (IntKind.i64.wrap (d+1)) n=true):∀ (l:List ze) (n:Int),we g c d l n=true
 | [],_=>rfl
 | x::r,n=>by
  rw [we,if_pos (h x n)]
  split
  ·rfl
  ·exact wg h r _

theorem wd:∀ (N:Nat) (e:ze) (d n:Int),0≤d→d≤13→14≤d+N→pO N e d n=true
 | 0,_,_,_,_,_,_=>by omega
 | N+1,e,d,n,h1,h2,h3=>by
  rw [pO]
  unfold H6
  by_cases hd:d > 12
  ·simp [hd]
  ·have hl:we (mt N) (pO N) d e.l (IntKind.i64.wrap (n+1))=true:=wg (fun x m=>by
    rw [lq _ (by omega) (by omega)]
    exact wd N x (d+1) m (by omega) (by omega) (by omega)) _ _
   repeat' split
   all_goals first | rfl | exact hl

abbrev ziF:ze:=.mk [] (0,0,[]) [] []

theorem G4 (N:Nat) (e:ze):ld (N+1) e ziF=true:=by
 rw [ld]
 unfold CJ
 have hl:Ak (sG N) (ld N) e.l []=true:=by
  unfold Ak
  split
  ·rfl
  ·cases e.l <;> rfl
 show (bif e.op==[] then bif eqV e.v (0,0,[]) then bif e.s==[] then Ak (sG N) (ld N) e.l [] else true else true else true)=true
 rw [hl]
 cases e.op==[] <;> cases eqV e.v (0,0,[]) <;> cases e.s==[] <;> rfl

theorem kW {α:Type} (p:α→Bool):∀ (l:List α) (i:Nat),zR p l i=-1∨((i:Int)≤zR p l i∧zR p l i < i+l.length)
 | [],_=>.inl rfl
 | x::r,i=>by
  unfold zR
  split
  ·exact .inr ⟨by omega,by simp; omega⟩
  ·rcases kW p r (i+1) with h | ⟨h1,h2⟩
   ·exact .inl h
   ·exact .inr ⟨by omega,by simp; omega⟩

theorem Bm (l:List (Sem zi)) (s:zl):au l s=-1∨(0≤au l s∧au l s < l.length):=by
 have:=kW (fun c:Sem zi=>c.1==s) l 0
 unfold au
 simpa using this

theorem my (op:zl):(dq op=0∧(op=[108,105,116]∨op=[99,111,108]))∨(dq op=1∧(op=[110,111,116]∨op=[110,117,108,108]))∨
  (dq op=2∧(op=[97,110,100]∨op=[111,114]∨op=[61]∨op=[60]∨op=[43]∨op=[45]))∨dq op=-1:=by
 unfold dq It
 simp only [YX]
 repeat' split
 all_goals simp_all

theorem rt {g:ze→Int→Int→Bool×Int} {e:ze} {d n:Int} (h:(wh g e d n).1=true):(e.l.length:Int)=dq e.op∧
  ((e.op=[108,105,116]∨e.op=[99,111,108])∨(pP g d e.l (IntKind.i64.wrap (n+1))).1=true):=by
 unfold wh at h
 split at h
 ·cases h
 ·rename_i h1
  have hl:(e.l.length:Int)=dq e.op:=by
   cases h2:decide (d > 12) <;> cases h3:decide (IntKind.i64.wrap (n+1) > 60) <;> simp_all
  refine ⟨hl,?_⟩
  split at h
  ·rename_i h2; exact .inl (.inl (by simpa using h2))
  ·split at h
   ·rename_i h2; exact .inl (.inr (by simpa using h2))
   ·split at h
    ·cases h
    ·exact .inr h

theorem pQ {g:ze→Int→Int→Bool×Int} {d:Int}:∀ (l:List ze) (n:Int),(pP g d l n).1=true→∀ x∈l,∃ m,(g x (IntKind.i64.wrap (d+1)) m).1=true
 | [],_,_,_,hx=>by simp at hx
 | y::r,n,h,x,hx=>by
  rw [pP] at h
  split at h
  ·cases h
  ·rename_i hy
   rcases dT.1 hx with rfl | hx
   ·exact ⟨n,by simpa using hy⟩
   ·exact pQ r _ h x hx

theorem sM {g:ze→List (Sem zi)→Int×Int} {c:ze→List (Sem zi)→Bool} {cols:List (Sem zi)} {op:zl} {a1 a2:Int} {a3 a4:zl} {w:List ze}:
    ∀ (l:List ze) (i:Int) (acc:List Int),(∀ x∈l,c x cols=true)→((acc.length:Int)+l.length)=dq op→eR g c cols op a1 a2 a3 a4 w l i acc=true
  | [], i,acc,_,hp=>by
    have hp:(acc.length:Int)=dq op:=by simpa using hp
    have hcp:decide (au cols a4 < 0)=true∨zF (au cols a4) cols.length=true:=by
      rcases Bm cols a4 with h | ⟨h1,h2⟩
      · exact .inl (by rw [h]; rfl)
      · exact .inr (by simp [zF,h1,h2])
    have h2:op=[61]∨op=[60]→acc.length=2:=by
      rintro (rfl | rfl)
      · have:dq [61]=2:=by decide
        omega
      · have:dq [60]=2:=by decide
        omega
    unfold eR
    repeat' split
    all_goals first
      | rfl
      | (exfalso; rcases hcp with h | h <;> simp_all; done)
      | (exfalso
         rename_i h7 h8
         have h9:=h2 (by simp_all)
         rw [h9] at h8
         exact h8 (by cases hA:(acc.getD (toNat 0) (zj zg)==acc.getD (toNat 1) (zj zg)) <;> cases hB:(acc.getD (toNat 0) (zj zg)==0) <;> rfl))
  | x :: r,i,acc,hc,hp=>by
    have hle:dq op≤2:=by rcases my op with h | h | h | h <;> omega
    rw [eR,if_pos (hc x (by simp))]
    split
    · rfl
    · rw [if_pos (by simp at hp ⊢; omega)]
      exact sM r (i+1) _ (fun y hy=>hc y (by simp [hy])) (by simp at hp ⊢; omega)

theorem qz:∀ (N:Nat) (e:ze) (d n:Int) (cols:List (Sem zi)),(mt N e d n).1=true→gH N e cols=true
 | 0,_,_,_,_,h=>by cases h
 | N+1,e,d,n,cols,h=>by
  rw [mt] at h
  obtain ⟨hl,h2⟩:=rt h
  rw [gH]
  unfold tR
  refine sM e.l 0 [] (fun x hx=>?_) (by simpa using hl)
  rcases h2 with h2 | h2
  ·exfalso
   have:dq e.op=0:=by
    rcases h2 with h2 | h2 <;> rw [h2] <;> decide
   rw [this] at hl
   have:e.l=[]:=Di (by omega)
   rw [this] at hx; simp at hx
  ·obtain ⟨m,hm⟩:=pQ e.l _ h2 x hx
   exact qz N x _ _ cols hm

theorem xK:∀ (N:Nat) (e:ze) (d n:Int) (cols:List (Sem zi)) (row:List (Sem zf)),(mt N e d n).1=true→qA N cols row e=true
 | 0,_,_,_,_,_,h=>by cases h
 | N + 1,.mk op v s l,d,n,cols,row,h=>by
  rw [mt] at h
  obtain ⟨hl,h2⟩:=rt h
  have hl:(l.length:Int)=dq op:=hl
  have h2:(op=[108,105,116]∨op=[99,111,108])∨(pP (mt N) d l (IntKind.i64.wrap (n+1))).1=true:=h2
  have hx:∀ x∈l,(¬ (op=[108,105,116]∨op=[99,111,108]))→qA N cols row x=true:=by
   intro x hx hno
   rcases h2 with h2 | h2
   ·exact (hno h2).elim
   ·obtain ⟨m,hm⟩:=pQ l _ h2 x hx
    exact xK N x _ _ cols row hm
  have hcol:(if (bif decide (au cols s < 0) then true else decide (au cols s ≥ (↑row.length:Int)))=true then true else zF (au cols s) row.length)=true:=by
   split
   ·rfl
   ·rename_i hh
    have h1:0≤au cols s∧au cols s < row.length:=by
     cases hq:decide (au cols s < 0)
     ·rw [hq] at hh
      simp at hq hh
      exact ⟨hq,hh⟩
     ·rw [hq] at hh; simp at hh
    simp [zF,h1.1,h1.2]
  rw [qA]
  rcases my op with ⟨hp,ho⟩ | ⟨hp,ho⟩ | ⟨hp,ho⟩ | hp
  ·have:l=[]:=Di (by omega)
   subst this
   rcases ho with rfl | rfl
   ·rfl
   ·rw [qB]; exact hcol
  ·match l,hl,hx with
   | [a],_,hx=>
    rcases ho with rfl | rfl
    ·rw [qB]; exact (if_pos (hx a (by simp) (by decide))).trans rfl
    ·rw [qB]; exact (if_pos (hx a (by simp) (by decide))).trans rfl
   | [],hl,_=>simp at hl; omega
   | _::_::_,hl,_=>simp at hl; omega
  ·match l,hl,hx with
   | [a,b],_,hx=>
    rcases ho with rfl | rfl | rfl | rfl | rfl | rfl <;>
     (rw [qB]; exact (if_pos (hx a (by simp) (by decide))).trans ((if_pos (hx b (by simp) (by decide))).trans rfl))
   | [],hl,_=>simp at hl; omega
   | [_],hl,_=>simp at hl; omega
   | _::_::_::_,hl,_=>simp at hl; omega
  ·omega

theorem oy (e:ze):sj e=true:=by
 unfold sj
 rw [if_pos (wd 16 e 1 0 (by omega) (by omega) (by omega))]
theorem FH (e:ze):HC e=true:=by
 unfold HC
 rw [if_pos (vM 16 e 14 80 (by omega) (by omega) (by omega))]
theorem DI (e:ze) (cols:List (Sem zi)):Bz e cols=true:=by
 unfold Bz
 rw [if_pos (oy e)]
 split
 ·rfl
 ·rename_i h
  rw [if_pos (qz 16 e 1 0 cols (by simpa [gg] using h))]
theorem DH (e:ze) (cols:List (Sem zi)) (row:List (Sem zf)):By e cols row=true:=by
 unfold By
 rw [if_pos (oy e)]
 split
 ·rfl
 ·rename_i h
  rw [if_pos (by decide),if_pos (xK 16 e 1 0 cols row (by simpa [gg] using h))]

def ZX:zD:=ao [Sh.expr] [Sh.bool] fun x=>(gg x.1,())
theorem Vo:FK 85 ZX:=eG S2 fun x=>oy x.1
def F7t:zD:=ao [Sh.expr] [Sh.expr] fun x=>(cA x.1,())
theorem zbL:FK 27 F7t:=eG zbE fun x=>FH x.1
def Z3:zD:=ao [Sh.expr,zi.sl] [zg,zg] fun x=>((bj x.1 x.2.1).1,(bj x.1 x.2.1).2,())
theorem Vw:FK 83 Z3:=eG S3 fun x=>DI x.1 x.2.1
def Zt:zD:=ao [Sh.expr,zi.sl,zf.sl] [zf] fun x=>(gM x.1 x.2.1 x.2.2.1,())
theorem US:FK 48 Zt:=eG SX fun x=>DH x.1 x.2.1 x.2.2.1

noncomputable def lA:=Tk.addL [(85,ZX),(27,F7t),(83,Z3),(48,Zt)]
theorem gr:zm lA:=JI.addL <| fc Vo <| fc zbL <| fc Vw <| fc US gZ

abbrev zih:Nat→zY:=fun _=>{ }
theorem zeJ:zA (lA).P 75 Tryz.f75 2:=aL (by kernel_rfl)
theorem zg3 (x0:Sem Sh.expr) (x1:Sem zi.sl):rn lA 0 zih Tryz.f75 [zz Sh.expr x0,zz zi.sl x1] []=Tr.chk (ld 16 (zB x0) (ze.mk [] (0,0,[]) [] [])) (Tr.br (sG 16 (zB x0) (ze.mk [] (0,0,[]) [] [])) (Tr.ok (zt.ret (ai 0) [])) (Tr.br (bif (bj (zB x0) x1).2==0 then bif (bj (zB x0) x1).1 != 3 then (bj (zB x0) x1).1 != 0 else false else false) (Tr.ok (zt.ret (ai 5) [])) (Tr.ok (zt.ret (ai (bj (zB x0) x1).2) [])))):=by kernel_rfl
def oV (x0:Sem Sh.expr) (x1:Sem zi.sl):Sem zg:=(if sG 16 x0 (ze.mk [] (0,0,[]) [] [])=true then 0 else if (bif (bj x0 x1).2==0 then bif (bj x0 x1).1 != 3 then (bj x0 x1).1 != 0 else false else false)=true then 5 else (bj x0 x1).2)
def tL (x0:Sem Sh.expr) (_:Sem zi.sl):Bool:=(if ld 16 x0 (ze.mk [] (0,0,[]) [] [])=true then true else false)
def F19:zD:=zC [Sh.expr,zi.sl] [zg] (fun x=>tL x.1 x.2.1) fun x=>(oV x.1 x.2.1,())
theorem S1:FK 75 F19:=by
 refine zM (zeJ) fun x hc C hC=>?_
 unfold tL at hc
 refine zk gr (zeJ) (fun id _=>hC id) (zg3 x.1 x.2.1) ?_
 generalize hy:oV x.1 x.2.1=y
 unfold oV at hy
 try simp only [ze.eta]
 repeat' (first | with_reducible refine eY hy hc (fun _ hy hc=>?_) (fun _ hy hc=>?_) | with_reducible refine aR hy (fun _ hy=>?_) (fun _ hy=>?_) | with_reducible refine bm hc (fun hc=>?_) | with_reducible refine zr ?_)
 all_goals (subst hy; first | rfl)

abbrev kp5:Nat→zY:=fun j=>if j=3 then { slots:=[1,2,3,4],prom:=[(3,some 3,zg)] } else if j=7 then { slots:=[1,2,3,5],prom:=[(3,some 4,zq)] } else { }
abbrev Ov (i4:Int) (ja0:TS) (ja1:LC) (ja2:Sem zg) (ja3:LI) (ja4:LF) (ja5:zl) (ja6:Int) (ja7:Int) (ja8:zl) (ja9:zl) (ja10:LX) (jb0:List UInt8) (jb2:Int) (jb5:List UInt8) (jb6:Int) (jb7:Int) (jb8:List UInt8) (jb9:List UInt8) (jc0:TS) (jc1:LC) (jc2:Sem zg) (jc5:zl) (jc6:Int) (jc7:Int) (jc8:zl) (jc9:zl) (jc10:LX) (lh_3:LI):St:={ tmps:=(tm 70 [(1,AV.ptr 0 0),(2,AV.ptr 1 0),(3,AV.ptr 2 0),(4,ai i4)]),heap:=[AO.box [AV.str ja0,AV.sl zi ja1,ai ja2,AV.sl zg ja3,AV.sl zq ja4,AV.str ja5,ai ja6,ai ja7,AV.str ja8,AV.str ja9,AV.sl Sh.expr ja10],AO.box [AV.str jb0,AV.nils,ai jb2,AV.nils,AV.nils,AV.str jb5,ai jb6,ai jb7,AV.str jb8,AV.str jb9,AV.nils],AO.box [AV.str jc0,AV.sl zi jc1,ai jc2,AV.vec 3,AV.nils,AV.str jc5,ai jc6,ai jc7,AV.str jc8,AV.str jc9,AV.sl Sh.expr jc10],AO.vec zg lh_3] }
theorem Y9:zA (lA).P 63 Tryz.f63 1:=aL (by kernel_rfl)
theorem go5 (x0:Sem zw):rn lA 0 kp5 Tryz.f63 [zz zw x0] []=Tr.ok (zt.head 3 (zy Tryz.f63 3) (Ov 0 x0.1 x0.2.1 x0.2.2.1 x0.2.2.2.1 x0.2.2.2.2.1 (ze.op x0.2.2.2.2.2) (ze.v x0.2.2.2.2.2).1 (ze.v x0.2.2.2.2.2).2.1 (ze.v x0.2.2.2.2.2).2.2 (ze.s x0.2.2.2.2.2) (ze.l x0.2.2.2.2.2) [] 0 [] 0 0 [] [] (rL x0.1) (mr x0.2.1) x0.2.2.1 (ze.op (cA (zB x0.2.2.2.2.2))) (ze.v (cA (zB x0.2.2.2.2.2))).1 (ze.v (cA (zB x0.2.2.2.2.2))).2.1 (ze.v (cA (zB x0.2.2.2.2.2))).2.2 (ze.s (cA (zB x0.2.2.2.2.2))) (ze.l (cA (zB x0.2.2.2.2.2))) [])):=by kernel_rfl
abbrev Ow (i5:Int) (ja0:TS) (ja1:LC) (ja2:Sem zg) (ja3:LI) (ja4:LF) (ja5:zl) (ja6:Int) (ja7:Int) (ja8:zl) (ja9:zl) (ja10:LX) (jb0:List UInt8) (jb2:Int) (jb5:List UInt8) (jb6:Int) (jb7:Int) (jb8:List UInt8) (jb9:List UInt8) (jc0:TS) (jc1:LC) (jc2:Sem zg) (jc5:zl) (jc6:Int) (jc7:Int) (jc8:zl) (jc9:zl) (jc10:LX) (lh_3:LI) (lh_4:LF):St:={ tmps:=(tm 70 [(1,AV.ptr 0 0),(2,AV.ptr 1 0),(3,AV.ptr 2 0),(5,ai i5)]),heap:=[AO.box [AV.str ja0,AV.sl zi ja1,ai ja2,AV.sl zg ja3,AV.sl zq ja4,AV.str ja5,ai ja6,ai ja7,AV.str ja8,AV.str ja9,AV.sl Sh.expr ja10],AO.box [AV.str jb0,AV.nils,ai jb2,AV.nils,AV.nils,AV.str jb5,ai jb6,ai jb7,AV.str jb8,AV.str jb9,AV.nils],AO.box [AV.str jc0,AV.sl zi jc1,ai jc2,AV.vec 3,AV.vec 4,AV.str jc5,ai jc6,ai jc7,AV.str jc8,AV.str jc9,AV.sl Sh.expr jc10],AO.vec zg lh_3,AO.vec zq lh_4] }
theorem Uk (i4:Int) (ja0:TS) (ja1:LC) (ja2:Sem zg) (ja3:LI) (ja4:LF) (ja5:zl) (ja6:Int) (ja7:Int) (ja8:zl) (ja9:zl) (ja10:LX) (jb0:List UInt8) (jb2:Int) (jb5:List UInt8) (jb6:Int) (jb7:Int) (jb8:List UInt8) (jb9:List UInt8) (jc0:TS) (jc1:LC) (jc2:Sem zg) (jc5:zl) (jc6:Int) (jc7:Int) (jc8:zl) (jc9:zl) (jc10:LX) (lh_3:LI):rh lA 0 kp5 Tryz.f63 3 (Ov i4 ja0 ja1 ja2 ja3 ja4 ja5 ja6 ja7 ja8 ja9 ja10 jb0 jb2 jb5 jb6 jb7 jb8 jb9 jc0 jc1 jc2 jc5 jc6 jc7 jc8 jc9 jc10 lh_3)=Tr.br (bif decide (i4 < (↑ja3.length:Int)) then decide (i4 < 10) else false) (Tr.chk (zF i4 ja3.length) (Tr.chk (decide (lh_3.length+[ja3.getD i4.toNat (zj zg)].length≤1073741824)) (Tr.ok (zt.head 3 (zy Tryz.f63 3) (Ov (IntKind.i64.wrap (i4+1)) ja0 ja1 ja2 ja3 ja4 ja5 ja6 ja7 ja8 ja9 ja10 jb0 jb2 jb5 jb6 jb7 jb8 jb9 jc0 jc1 jc2 jc5 jc6 jc7 jc8 jc9 jc10 (lh_3++[ja3.getD i4.toNat (zj zg)])))))) (Tr.ok (zt.head 7 (zy Tryz.f63 7) (Ow 0 ja0 ja1 ja2 ja3 ja4 ja5 ja6 ja7 ja8 ja9 ja10 jb0 jb2 jb5 jb6 jb7 jb8 jb9 jc0 jc1 jc2 jc5 jc6 jc7 jc8 jc9 jc10 lh_3 []))):=by kernel_rfl
theorem Ul (i5:Int) (ja0:TS) (ja1:LC) (ja2:Sem zg) (ja3:LI) (ja4:LF) (ja5:zl) (ja6:Int) (ja7:Int) (ja8:zl) (ja9:zl) (ja10:LX) (jb0:List UInt8) (jb2:Int) (jb5:List UInt8) (jb6:Int) (jb7:Int) (jb8:List UInt8) (jb9:List UInt8) (jc0:TS) (jc1:LC) (jc2:Sem zg) (jc5:zl) (jc6:Int) (jc7:Int) (jc8:zl) (jc9:zl) (jc10:LX) (lh_3:LI) (lh_4:LF):rh lA 0 kp5 Tryz.f63 7 (Ow i5 ja0 ja1 ja2 ja3 ja4 ja5 ja6 ja7 ja8 ja9 ja10 jb0 jb2 jb5 jb6 jb7 jb8 jb9 jc0 jc1 jc2 jc5 jc6 jc7 jc8 jc9 jc10 lh_3 lh_4)=Tr.br (bif decide (i5 < (↑ja4.length:Int)) then decide (i5 < 10) else false) (Tr.chk (zF i5 ja4.length) (Tr.chk (zF i5 ja4.length) (Tr.chk (decide (lh_4.length+[((ja4.getD i5.toNat (zj zq)).1,rL (ja4.getD i5.toNat (zj zq)).2)].length≤1073741824)) (Tr.ok (zt.head 7 (zy Tryz.f63 7) (Ow (IntKind.i64.wrap (i5+1)) ja0 ja1 ja2 ja3 ja4 ja5 ja6 ja7 ja8 ja9 ja10 jb0 jb2 jb5 jb6 jb7 jb8 jb9 jc0 jc1 jc2 jc5 jc6 jc7 jc8 jc9 jc10 lh_3 (lh_4++[((ja4.getD i5.toNat (zj zq)).1,rL (ja4.getD i5.toNat (zj zq)).2)]))))))) (Tr.ok (zt.ret (AV.agg [AV.str jc0,AV.sl zi jc1,ai jc2,AV.vec 0,AV.vec 1,AV.str jc5,ai jc6,ai jc7,AV.str jc8,AV.str jc9,AV.sl Sh.expr jc10])
 [AO.vec zg lh_3,AO.vec zq lh_4])):=by kernel_rfl
def eB (ja0:TS) (ja1:LC) (ja2:Sem zg) (ja3:LI) (ja5:zl) (ja6:Int) (ja7:Int) (ja8:zl) (ja9:zl) (ja10:LX) (jb0:List UInt8) (jb2:Int) (jb5:List UInt8) (jb6:Int) (jb7:Int) (jb8:List UInt8) (jb9:List UInt8) (jc0:TS) (jc1:LC) (jc2:Sem zg) (jc5:zl) (jc6:Int) (jc7:Int) (jc8:zl) (jc9:zl) (jc10:LX) (lh_3:LI):List (Sem zq)→Int→List (Sem zq)→Sem zw
 | [],_,lh_4=>((jc0,jc1,jc2,lh_3,lh_4,ze.mk jc5 (jc6,jc7,jc8) jc9 jc10))
 | x::r,i5,lh_4=>(if decide (i5 < 10)=true then
 eB ja0 ja1 ja2 ja3 ja5 ja6 ja7 ja8 ja9 ja10 jb0 jb2 jb5 jb6 jb7 jb8 jb9 jc0 jc1 jc2 jc5
  jc6 jc7 jc8 jc9 jc10 lh_3 r (i5+1) (lh_4++[(x.1,rL x.2)])
else (jc0,jc1,jc2,lh_3,lh_4,ze.mk jc5 (jc6,jc7,jc8) jc9 jc10))
def iJ (ja0:TS) (ja1:LC) (ja2:Sem zg) (ja3:LI) (ja5:zl) (ja6:Int) (ja7:Int) (ja8:zl) (ja9:zl) (ja10:LX) (jb0:List UInt8) (jb2:Int) (jb5:List UInt8) (jb6:Int) (jb7:Int) (jb8:List UInt8) (jb9:List UInt8) (jc0:TS) (jc1:LC) (jc2:Sem zg) (jc5:zl) (jc6:Int) (jc7:Int) (jc8:zl) (jc9:zl) (jc10:LX) (lh_3:LI):List (Sem zq)→Int→List (Sem zq)→Bool
 | [],_,_=>(true)
 | x::r,i5,lh_4=>(if decide (i5 < 10)=true then
 if decide (lh_4.length+[(x.1,rL x.2)].length≤1073741824)=true then
  iJ ja0 ja1 ja2 ja3 ja5 ja6 ja7 ja8 ja9 ja10 jb0 jb2 jb5 jb6 jb7 jb8 jb9 jc0 jc1 jc2 jc5
   jc6 jc7 jc8 jc9 jc10 lh_3 r (i5+1) (lh_4++[(x.1,rL x.2)])
 else false
else true)
theorem zcw {C:cr} (hC:∀ id,C.ρ0 id=none) (ja0:TS) (ja1:LC) (ja2:Sem zg) (ja3:LI) (ja5:zl) (ja6:Int) (ja7:Int) (ja8:zl) (ja9:zl) (ja10:LX) (jb0:List UInt8) (jb2:Int) (jb5:List UInt8) (jb6:Int) (jb7:Int) (jb8:List UInt8) (jb9:List UInt8) (jc0:TS) (jc1:LC) (jc2:Sem zg) (jc5:zl) (jc6:Int) (jc7:Int) (jc8:zl) (jc9:zl) (jc10:LX) (lh_3:LI) (ja4:LF) (hl:ja4.length≤zE):∀ (m i:Nat) (lh_4:LF),ja4.length - i=m→i≤ja4.length→iJ ja0 ja1 ja2 ja3 ja5 ja6 ja7 ja8 ja9 ja10 jb0 jb2 jb5 jb6 jb7 jb8 jb9 jc0 jc1 jc2 jc5 jc6 jc7 jc8 jc9 jc10 lh_3 (ja4.drop i) i lh_4=true→
  Reach (lA) C 63 (zy Tryz.f63 7) (Ow (i:Int) ja0 ja1 ja2 ja3 ja4 ja5 ja6 ja7 ja8 ja9 ja10 jb0 jb2 jb5 jb6 jb7 jb8 jb9 jc0 jc1 jc2 jc5 jc6 jc7 jc8 jc9 jc10 lh_3 lh_4) (fun r h=>ae h [zw] r=some (eB ja0 ja1 ja2 ja3 ja5 ja6 ja7 ja8 ja9 ja10 jb0 jb2 jb5 jb6 jb7 jb8 jb9 jc0 jc1 jc2 jc5 jc6 jc7 jc8 jc9 jc10 lh_3 (ja4.drop i) i lh_4,())):=by
 intro m
 induction m with
 | zero=>
  intro i lh_4 hm hi hc
  obtain rfl:i=ja4.length:=by omega
  rw [dj] at hc ⊢
  refine zk gr (Y9) (fun id _=>hC id) (Ul _ _ _ _ _ _ _ _ _ _ _ _ _ _ _ _ _ _ _ _ _ _ _ _ _ _ _ _ _ _) ?_
  rw [iJ] at hc
  generalize hy:eB ja0 ja1 ja2 ja3 ja5 ja6 ja7 ja8 ja9 ja10 jb0 jb2 jb5 jb6 jb7 jb8 jb9 jc0 jc1 jc2 jc5 jc6 jc7 jc8 jc9 jc10 lh_3 [] _ lh_4=y
  rw [eB] at hy
  simp only [ag,bQ,Tr.val_brF]
  repeat' (first | with_reducible refine eY hy hc (fun _ hy hc=>?_) (fun _ hy hc=>?_) | with_reducible refine aR hy (fun _ hy=>?_) (fun _ hy=>?_) | with_reducible refine bm hc (fun hc=>?_) | with_reducible refine zr ?_)
  all_goals (subst hy; first | (change Reach _ _ _ _ _ _; apply Fw hC <;> first | assumption | exact hc) | rfl)
 | succ m IH=>
  intro i lh_4 hm hi hc
  have hlt:i < ja4.length:=by omega
  have IH:=IH (i+1)
  have hcast:((i:Int)+1)=((i+1:Nat):Int):=by omega
  have hwr:=zH i (by omega)
  rw [dB hlt] at hc ⊢
  refine zk gr (Y9) (fun id _=>hC id) (Ul _ _ _ _ _ _ _ _ _ _ _ _ _ _ _ _ _ _ _ _ _ _ _ _ _ _ _ _ _ _) ?_
  rw [iJ] at hc
  generalize hy:eB ja0 ja1 ja2 ja3 ja5 ja6 ja7 ja8 ja9 ja10 jb0 jb2 jb5 jb6 jb7 jb8 jb9 jc0 jc1 jc2 jc5 jc6 jc7 jc8 jc9 jc10 lh_3 (ja4[i]::ja4.drop (i+1)) (i:Int) lh_4=y
  rw [eB] at hy
  simp only [zX hlt,zG hlt,ac ja4 _ hlt,hwr,bA]
  clear hwr
  simp only [hcast] at hy
  try simp only [hcast] at hc
  repeat' (first | with_reducible refine eY hy hc (fun _ hy hc=>?_) (fun _ hy hc=>?_) | with_reducible refine aR hy (fun _ hy=>?_) (fun _ hy=>?_) | with_reducible refine bm hc (fun hc=>?_) | with_reducible refine zr ?_)
  all_goals (subst hy; first | (change Reach _ _ _ _ _ _; apply IH <;> first | omega | assumption) | (change Reach _ _ _ _ _ _; apply Fw hC <;> first | assumption | exact hc) | rfl)
theorem Fx {C:cr} (hC:∀ id,C.ρ0 id=none) (ja0:TS) (ja1:LC) (ja2:Sem zg) (ja3:LI) (ja5:zl) (ja6:Int) (ja7:Int) (ja8:zl) (ja9:zl) (ja10:LX) (jb0:List UInt8) (jb2:Int) (jb5:List UInt8) (jb6:Int) (jb7:Int) (jb8:List UInt8) (jb9:List UInt8) (jc0:TS) (jc1:LC) (jc2:Sem zg) (jc5:zl) (jc6:Int) (jc7:Int) (jc8:zl) (jc9:zl) (jc10:LX) (lh_3:LI) (ja4:LF) (lh_4:LF) (hc:iJ ja0 ja1 ja2 ja3 ja5 ja6 ja7 ja8 ja9 ja10 jb0 jb2 jb5 jb6 jb7 jb8 jb9 jc0 jc1 jc2 jc5 jc6 jc7 jc8 jc9 jc10 lh_3 ja4 0 lh_4=true):
  Reach (lA) C 63 (zy Tryz.f63 7) (Ow 0 ja0 ja1 ja2 ja3 ja4 ja5 ja6 ja7 ja8 ja9 ja10 jb0 jb2 jb5 jb6 jb7 jb8 jb9 jc0 jc1 jc2 jc5 jc6 jc7 jc8 jc9 jc10 lh_3 lh_4) (fun r h=>ae h [zw] r=some (eB ja0 ja1 ja2 ja3 ja5 ja6 ja7 ja8 ja9 ja10 jb0 jb2 jb5 jb6 jb7 jb8 jb9 jc0 jc1 jc2 jc5 jc6 jc7 jc8 jc9 jc10 lh_3 ja4 0 lh_4,())):=
 Reach.lenB 0 4 (zg.pr Sh.str) ja4 rfl rfl fun hl=>zcw hC ja0 ja1 ja2 ja3 ja5 ja6 ja7 ja8 ja9 ja10 jb0 jb2 jb5 jb6 jb7 jb8 jb9 jc0 jc1 jc2 jc5 jc6 jc7 jc8 jc9 jc10 lh_3 ja4 hl _ 0 lh_4 rfl (aE _) hc
def dR (ja0:TS) (ja1:LC) (ja2:Sem zg) (ja4:LF) (ja5:zl) (ja6:Int) (ja7:Int) (ja8:zl) (ja9:zl) (ja10:LX) (jb0:List UInt8) (jb2:Int) (jb5:List UInt8) (jb6:Int) (jb7:Int) (jb8:List UInt8) (jb9:List UInt8) (jc0:TS) (jc1:LC) (jc2:Sem zg) (jc5:zl) (jc6:Int) (jc7:Int) (jc8:zl) (jc9:zl) (jc10:LX) (ja3:LI):List (Sem zg)→Int→List (Sem zg)→Sem zw
 | [],_,lh_3=>(eB ja0 ja1 ja2 ja3 ja5 ja6 ja7 ja8 ja9 ja10 jb0 jb2 jb5 jb6 jb7 jb8 jb9 jc0 jc1 jc2 jc5
 jc6 jc7 jc8 jc9 jc10 lh_3 ja4 0 [])
 | x::r,i4,lh_3=>(if decide (i4 < 10)=true then
 dR ja0 ja1 ja2 ja4 ja5 ja6 ja7 ja8 ja9 ja10 jb0 jb2 jb5 jb6 jb7 jb8 jb9 jc0 jc1 jc2 jc5
  jc6 jc7 jc8 jc9 jc10 ja3 r (i4+1) (lh_3++[x])
else
 eB ja0 ja1 ja2 ja3 ja5 ja6 ja7 ja8 ja9 ja10 jb0 jb2 jb5 jb6 jb7 jb8 jb9 jc0 jc1 jc2 jc5
  jc6 jc7 jc8 jc9 jc10 lh_3 ja4 0 [])
def iI (ja0:TS) (ja1:LC) (ja2:Sem zg) (ja4:LF) (ja5:zl) (ja6:Int) (ja7:Int) (ja8:zl) (ja9:zl) (ja10:LX) (jb0:List UInt8) (jb2:Int) (jb5:List UInt8) (jb6:Int) (jb7:Int) (jb8:List UInt8) (jb9:List UInt8) (jc0:TS) (jc1:LC) (jc2:Sem zg) (jc5:zl) (jc6:Int) (jc7:Int) (jc8:zl) (jc9:zl) (jc10:LX) (ja3:LI):List (Sem zg)→Int→List (Sem zg)→Bool
 | [],_,lh_3=>(iJ ja0 ja1 ja2 ja3 ja5 ja6 ja7 ja8 ja9 ja10 jb0 jb2 jb5 jb6 jb7 jb8 jb9 jc0 jc1 jc2 jc5
 jc6 jc7 jc8 jc9 jc10 lh_3 ja4 0 [])
 | x::r,i4,lh_3=>(if decide (i4 < 10)=true then
 if decide (lh_3.length+[x].length≤1073741824)=true then
  iI ja0 ja1 ja2 ja4 ja5 ja6 ja7 ja8 ja9 ja10 jb0 jb2 jb5 jb6 jb7 jb8 jb9 jc0 jc1 jc2 jc5
   jc6 jc7 jc8 jc9 jc10 ja3 r (i4+1) (lh_3++[x])
 else false
else
 iJ ja0 ja1 ja2 ja3 ja5 ja6 ja7 ja8 ja9 ja10 jb0 jb2 jb5 jb6 jb7 jb8 jb9 jc0 jc1 jc2 jc5
  jc6 jc7 jc8 jc9 jc10 lh_3 ja4 0 [])
theorem zcv {C:cr} (hC:∀ id,C.ρ0 id=none) (ja0:TS) (ja1:LC) (ja2:Sem zg) (ja4:LF) (ja5:zl) (ja6:Int) (ja7:Int) (ja8:zl) (ja9:zl) (ja10:LX) (jb0:List UInt8) (jb2:Int) (jb5:List UInt8) (jb6:Int) (jb7:Int) (jb8:List UInt8) (jb9:List UInt8) (jc0:TS) (jc1:LC) (jc2:Sem zg) (jc5:zl) (jc6:Int) (jc7:Int) (jc8:zl) (jc9:zl) (jc10:LX) (ja3:LI) (hl:ja3.length≤zE):∀ (m i:Nat) (lh_3:LI),ja3.length - i=m→i≤ja3.length→iI ja0 ja1 ja2 ja4 ja5 ja6 ja7 ja8 ja9 ja10 jb0 jb2 jb5 jb6 jb7 jb8 jb9 jc0 jc1 jc2 jc5 jc6 jc7 jc8 jc9 jc10 ja3 (ja3.drop i) i lh_3=true→
  Reach (lA) C 63 (zy Tryz.f63 3) (Ov (i:Int) ja0 ja1 ja2 ja3 ja4 ja5 ja6 ja7 ja8 ja9 ja10 jb0 jb2 jb5 jb6 jb7 jb8 jb9 jc0 jc1 jc2 jc5 jc6 jc7 jc8 jc9 jc10 lh_3) (fun r h=>ae h [zw] r=some (dR ja0 ja1 ja2 ja4 ja5 ja6 ja7 ja8 ja9 ja10 jb0 jb2 jb5 jb6 jb7 jb8 jb9 jc0 jc1 jc2 jc5 jc6 jc7 jc8 jc9 jc10 ja3 (ja3.drop i) i lh_3,())):=by
 intro m
 induction m with
 | zero=>
  intro i lh_3 hm hi hc
  obtain rfl:i=ja3.length:=by omega
  rw [dj] at hc ⊢
  refine zk gr (Y9) (fun id _=>hC id) (Uk _ _ _ _ _ _ _ _ _ _ _ _ _ _ _ _ _ _ _ _ _ _ _ _ _ _ _ _ _) ?_
  rw [iI] at hc
  generalize hy:dR ja0 ja1 ja2 ja4 ja5 ja6 ja7 ja8 ja9 ja10 jb0 jb2 jb5 jb6 jb7 jb8 jb9 jc0 jc1 jc2 jc5 jc6 jc7 jc8 jc9 jc10 ja3 [] _ lh_3=y
  rw [dR] at hy
  simp only [ag,bQ,Tr.val_brF]
  repeat' (first | with_reducible refine eY hy hc (fun _ hy hc=>?_) (fun _ hy hc=>?_) | with_reducible refine aR hy (fun _ hy=>?_) (fun _ hy=>?_) | with_reducible refine bm hc (fun hc=>?_) | with_reducible refine zr ?_)
  all_goals (subst hy; first | (change Reach _ _ _ _ _ _; apply Fx hC <;> first | assumption | exact hc) | rfl)
 | succ m IH=>
  intro i lh_3 hm hi hc
  have hlt:i < ja3.length:=by omega
  have IH:=IH (i+1)
  have hcast:((i:Int)+1)=((i+1:Nat):Int):=by omega
  have hwr:=zH i (by omega)
  rw [dB hlt] at hc ⊢
  refine zk gr (Y9) (fun id _=>hC id) (Uk _ _ _ _ _ _ _ _ _ _ _ _ _ _ _ _ _ _ _ _ _ _ _ _ _ _ _ _ _) ?_
  rw [iI] at hc
  generalize hy:dR ja0 ja1 ja2 ja4 ja5 ja6 ja7 ja8 ja9 ja10 jb0 jb2 jb5 jb6 jb7 jb8 jb9 jc0 jc1 jc2 jc5 jc6 jc7 jc8 jc9 jc10 ja3 (ja3[i]::ja3.drop (i+1)) (i:Int) lh_3=y
  rw [dR] at hy
  simp only [zX hlt,zG hlt,ac ja3 _ hlt,hwr,bA]
  clear hwr
  simp only [hcast] at hy
  try simp only [hcast] at hc
  repeat' (first | with_reducible refine eY hy hc (fun _ hy hc=>?_) (fun _ hy hc=>?_) | with_reducible refine aR hy (fun _ hy=>?_) (fun _ hy=>?_) | with_reducible refine bm hc (fun hc=>?_) | with_reducible refine zr ?_)
  all_goals (subst hy; first | (change Reach _ _ _ _ _ _; apply IH <;> first | omega | assumption) | (change Reach _ _ _ _ _ _; apply Fx hC <;> first | assumption | exact hc) | rfl)
theorem Fw {C:cr} (hC:∀ id,C.ρ0 id=none) (ja0:TS) (ja1:LC) (ja2:Sem zg) (ja4:LF) (ja5:zl) (ja6:Int) (ja7:Int) (ja8:zl) (ja9:zl) (ja10:LX) (jb0:List UInt8) (jb2:Int) (jb5:List UInt8) (jb6:Int) (jb7:Int) (jb8:List UInt8) (jb9:List UInt8) (jc0:TS) (jc1:LC) (jc2:Sem zg) (jc5:zl) (jc6:Int) (jc7:Int) (jc8:zl) (jc9:zl) (jc10:LX) (ja3:LI) (lh_3:LI) (hc:iI ja0 ja1 ja2 ja4 ja5 ja6 ja7 ja8 ja9 ja10 jb0 jb2 jb5 jb6 jb7 jb8 jb9 jc0 jc1 jc2 jc5 jc6 jc7 jc8 jc9 jc10 ja3 ja3 0 lh_3=true):
  Reach (lA) C 63 (zy Tryz.f63 3) (Ov 0 ja0 ja1 ja2 ja3 ja4 ja5 ja6 ja7 ja8 ja9 ja10 jb0 jb2 jb5 jb6 jb7 jb8 jb9 jc0 jc1 jc2 jc5 jc6 jc7 jc8 jc9 jc10 lh_3) (fun r h=>ae h [zw] r=some (dR ja0 ja1 ja2 ja4 ja5 ja6 ja7 ja8 ja9 ja10 jb0 jb2 jb5 jb6 jb7 jb8 jb9 jc0 jc1 jc2 jc5 jc6 jc7 jc8 jc9 jc10 ja3 ja3 0 lh_3,())):=
 Reach.lenB 0 3 (Sh.int IntKind.i64) ja3 rfl rfl fun hl=>zcv hC ja0 ja1 ja2 ja4 ja5 ja6 ja7 ja8 ja9 ja10 jb0 jb2 jb5 jb6 jb7 jb8 jb9 jc0 jc1 jc2 jc5 jc6 jc7 jc8 jc9 jc10 ja3 hl _ 0 lh_3 rfl (aE _) hc
def iH (x0:Sem zw):Sem zw:=(dR x0.1 x0.2.1 x0.2.2.1 x0.2.2.2.2.1 (ze.op x0.2.2.2.2.2) (ze.v x0.2.2.2.2.2).1 (ze.v x0.2.2.2.2.2).2.1 (ze.v x0.2.2.2.2.2).2.2 (ze.s x0.2.2.2.2.2) (ze.l x0.2.2.2.2.2) [] 0 [] 0 0 [] [] (rL x0.1) (mr x0.2.1) x0.2.2.1 (ze.op (cA x0.2.2.2.2.2)) (ze.v (cA x0.2.2.2.2.2)).1 (ze.v (cA x0.2.2.2.2.2)).2.1 (ze.v (cA x0.2.2.2.2.2)).2.2 (ze.s (cA x0.2.2.2.2.2)) (ze.l (cA x0.2.2.2.2.2)) x0.2.2.2.1 x0.2.2.2.1 0 [])
def Jc (x0:Sem zw):Bool:=(iI x0.1 x0.2.1 x0.2.2.1 x0.2.2.2.2.1 (ze.op x0.2.2.2.2.2) (ze.v x0.2.2.2.2.2).1 (ze.v x0.2.2.2.2.2).2.1 (ze.v x0.2.2.2.2.2).2.2 (ze.s x0.2.2.2.2.2) (ze.l x0.2.2.2.2.2) [] 0 [] 0 0 [] [] (rL x0.1) (mr x0.2.1) x0.2.2.1 (ze.op (cA x0.2.2.2.2.2)) (ze.v (cA x0.2.2.2.2.2)).1 (ze.v (cA x0.2.2.2.2.2)).2.1 (ze.v (cA x0.2.2.2.2.2)).2.2 (ze.s (cA x0.2.2.2.2.2)) (ze.l (cA x0.2.2.2.2.2)) x0.2.2.2.1 x0.2.2.2.1 0 [])
def F5:zD:=zC [zw] [zw] (fun x=>Jc x.1) fun x=>(iH x.1,())
theorem zbl:FK 63 F5:=by
 refine zM (Y9) fun x hc C hC=>?_
 unfold Jc at hc
 refine zk gr (Y9) (fun id _=>hC id) (go5 x.1) ?_
 generalize hy:iH x.1=y
 unfold iH at hy
 try simp only [ze.eta]
 repeat' (first | with_reducible refine eY hy hc (fun _ hy hc=>?_) (fun _ hy hc=>?_) | with_reducible refine aR hy (fun _ hy=>?_) (fun _ hy=>?_) | with_reducible refine bm hc (fun hc=>?_) | with_reducible refine zr ?_)
 all_goals (subst hy; first | (change Reach _ _ _ _ _ _; apply Fw hC <;> first | assumption | exact hc) | (change Reach _ _ _ _ _ _; apply Fx hC <;> first | assumption | exact hc) | rfl)

noncomputable def Tl:=lA.addL [(75,F19),(63,F5)]
theorem JJ:zm Tl:=gr.addL <| fc S1 <| fc zbl gZ

theorem CF (e:ze) (cols:List (Sem zi)):tL e cols=true:=by
 unfold tL
 rw [if_pos (G4 15 e)]
theorem ll {a0 a1 a2 a3 a4 a5 a6 a7 a8 a9 b0 b1 b2 b3 b4 b5 b6 d0 d1 d2 d3 d4 d5 d6 d7 d8 d9}:∀ (l:List (Sem zq)) (i:Int) (acc:List (Sem zq)),(acc.length:Int)≤i→iJ a0 a1 a2 a3 a4 a5 a6 a7 a8 a9 b0 b1 b2 b3 b4 b5 b6 d0 d1 d2 d3 d4 d5 d6 d7 d8 d9 l i acc=true
 | [],_,_,_=>rfl
 | x::r,i,acc,h=>by
  rw [iJ]
  split
  ·rename_i hi
   simp only [zW] at hi
   rw [if_pos (by simp; omega)]
   exact ll r (i+1) _ (by simp; omega)
  ·rfl
theorem qu {a0 a1 a2 a3 a4 a5 a6 a7 a8 a9 b0 b1 b2 b3 b4 b5 b6 d0 d1 d2 d3 d4 d5 d6 d7 d8 d9}:∀ (l:List (Sem zg)) (i:Int) (acc:List (Sem zg)),(acc.length:Int)≤i→iI a0 a1 a2 a3 a4 a5 a6 a7 a8 a9 b0 b1 b2 b3 b4 b5 b6 d0 d1 d2 d3 d4 d5 d6 d7 d8 d9 l i acc=true
 | [],_,_,_=>by rw [iI]; exact ll _ _ _ (by simp)
 | x::r,i,acc,h=>by
  rw [iI]
  split
  ·rename_i hi
   simp only [zW] at hi
   rw [if_pos (by simp; omega)]
   exact qu r (i+1) _ (by simp; omega)
  ·exact ll _ _ _ (by simp)
theorem Hd (t:Sem zw):Jc t=true:=by
 unfold Jc
 exact qu _ _ _ (by simp)
def ZS:zD:=ao [Sh.expr,zi.sl] [zg] fun x=>(oV x.1 x.2.1,())
theorem Vj:FK 75 ZS:=eG S1 fun x=>CF x.1 x.2.1
def F5t:zD:=ao [zw] [zw] fun x=>(iH x.1,())
theorem zbv:FK 63 F5t:=eG zbl fun x=>Hd x.1

noncomputable def kh:=Tl.addL [(75,ZS),(63,F5t)]
theorem fB:zm kh:=JJ.addL <| fc Vj <| fc zbv gZ

abbrev kp8:Nat→zY:=fun j=>if j=4 then { slots:=[1,27,28,29] } else if j=11 then { slots:=[1,5,59,60,61] } else if j=17 then { slots:=[1,5,71,72,73] } else { }
abbrev Oy (l27:LC) (i28:Int) (i29:Int) (ja0:TS) (ja1:LC) (ja2:Sem zg) (ja3:LI) (ja4:LF) (ja5:zl) (ja6:Int) (ja7:Int) (ja8:zl) (ja9:zl) (ja10:LX):St:={ tmps:=(tm 110 [(1,AV.ptr 0 0),(27,AV.sl zi l27),(28,ai i28),(29,ai i29)]),heap:=[AO.box [AV.str ja0,AV.sl zi ja1,ai ja2,AV.sl zg ja3,AV.sl zq ja4,AV.str ja5,ai ja6,ai ja7,AV.str ja8,AV.str ja9,AV.sl Sh.expr ja10]] }
theorem Uj:zA (kh).P 55 Tryz.f55 1:=aL (by kernel_rfl)
theorem go8 (x0:Sem zw):rn kh 0 kp8 Tryz.f55 [zz zw x0] []=Tr.br (bif !cO x0.1 then true else bif decide ((↑(length x0.2.1):Int) < 1) then true else decide ((↑(length x0.2.1):Int) > 8)) (Tr.ok (zt.ret (AV.kb false) [])) (Tr.ok (zt.head 4 (zy Tryz.f55 4) (Oy x0.2.1 (↑(length x0.2.1):Int) 0 x0.1 x0.2.1 x0.2.2.1 x0.2.2.2.1 x0.2.2.2.2.1 (ze.op x0.2.2.2.2.2) (ze.v x0.2.2.2.2.2).1 (ze.v x0.2.2.2.2.2).2.1 (ze.v x0.2.2.2.2.2).2.2 (ze.s x0.2.2.2.2.2) (ze.l x0.2.2.2.2.2)))):=by kernel_rfl
abbrev EV (l59:LI) (i60:Int) (i61:Int) (ja0:TS) (ja1:LC) (ja2:Sem zg) (ja3:LI) (ja4:LF) (ja5:zl) (ja6:Int) (ja7:Int) (ja8:zl) (ja9:zl) (ja10:LX):St:={ tmps:=(tm 110 [(1,AV.ptr 0 0),(5,AV.clo (Fn.func 93) [] [AV.ptr 0 0]),(59,AV.sl zg l59),(60,ai i60),(61,ai i61)]),heap:=[AO.box [AV.str ja0,AV.sl zi ja1,ai ja2,AV.sl zg ja3,AV.sl zq ja4,AV.str ja5,ai ja6,ai ja7,AV.str ja8,AV.str ja9,AV.sl Sh.expr ja10]] }
theorem Un (l27:LC) (i28:Int) (i29:Int) (ja0:TS) (ja1:LC) (ja2:Sem zg) (ja3:LI) (ja4:LF) (ja5:zl) (ja6:Int) (ja7:Int) (ja8:zl) (ja9:zl) (ja10:LX):rh kh 0 kp8 Tryz.f55 4 (Oy l27 i28 i29 ja0 ja1 ja2 ja3 ja4 ja5 ja6 ja7 ja8 ja9 ja10)=Tr.br (decide (i29 < i28)) (Tr.chk (zF i29 l27.length) (Tr.br (bif !cO (l27.getD i29.toNat (zj zi)).1 then true else bif decide ((l27.getD i29.toNat (zj zi)).2.1 < 1) then true else bif decide ((l27.getD i29.toNat (zj zi)).2.1 > 3) then true else jV (ja0,ja1,ja2,ja3,ja4,ze.mk ja5 (ja6,ja7,ja8) ja9 ja10) (l27.getD i29.toNat (zj zi)).1 != i29) (Tr.ok (zt.ret (AV.kb false) [])) (Tr.ok (zt.head 4 (zy Tryz.f55 4) (Oy l27 i28 (IntKind.i64.wrap (i29+1)) ja0 ja1 ja2 ja3 ja4 ja5 ja6 ja7 ja8 ja9 ja10))))) (Tr.ok (zt.head 11 (zy Tryz.f55 11) (EV ja3 (↑ja3.length:Int) 0 ja0 ja1 ja2 ja3 ja4 ja5 ja6 ja7 ja8 ja9 ja10))):=by kernel_rfl
abbrev EW (l71:LF) (i72:Int) (i73:Int) (ja0:TS) (ja1:LC) (ja2:Sem zg) (ja3:LI) (ja4:LF) (ja5:zl) (ja6:Int) (ja7:Int) (ja8:zl) (ja9:zl) (ja10:LX):St:={ tmps:=(tm 110 [(1,AV.ptr 0 0),(5,AV.clo (Fn.func 93) [] [AV.ptr 0 0]),(71,AV.sl zq l71),(72,ai i72),(73,ai i73)]),heap:=[AO.box [AV.str ja0,AV.sl zi ja1,ai ja2,AV.sl zg ja3,AV.sl zq ja4,AV.str ja5,ai ja6,ai ja7,AV.str ja8,AV.str ja9,AV.sl Sh.expr ja10]] }
theorem NG (l59:LI) (i60:Int) (i61:Int) (ja0:TS) (ja1:LC) (ja2:Sem zg) (ja3:LI) (ja4:LF) (ja5:zl) (ja6:Int) (ja7:Int) (ja8:zl) (ja9:zl) (ja10:LX):rh kh 0 kp8 Tryz.f55 11 (EV l59 i60 i61 ja0 ja1 ja2 ja3 ja4 ja5 ja6 ja7 ja8 ja9 ja10)=Tr.br (decide (i61 < i60)) (Tr.chk (zF i61 l59.length) (Tr.br (!bif decide (l59.getD i61.toNat (zj zg) ≥ 0) then decide (l59.getD i61.toNat (zj zg) < (↑ja1.length:Int)) else false) (Tr.ok (zt.ret (AV.kb false) [])) (Tr.ok (zt.head 11 (zy Tryz.f55 11) (EV l59 i60 (IntKind.i64.wrap (i61+1)) ja0 ja1 ja2 ja3 ja4 ja5 ja6 ja7 ja8 ja9 ja10))))) (Tr.ok (zt.head 17 (zy Tryz.f55 17) (EW ja4 (↑ja4.length:Int) 0 ja0 ja1 ja2 ja3 ja4 ja5 ja6 ja7 ja8 ja9 ja10))):=by kernel_rfl
theorem NH (l71:LF) (i72:Int) (i73:Int) (ja0:TS) (ja1:LC) (ja2:Sem zg) (ja3:LI) (ja4:LF) (ja5:zl) (ja6:Int) (ja7:Int) (ja8:zl) (ja9:zl) (ja10:LX):rh kh 0 kp8 Tryz.f55 17 (EW l71 i72 i73 ja0 ja1 ja2 ja3 ja4 ja5 ja6 ja7 ja8 ja9 ja10)=Tr.br (decide (i73 < i72)) (Tr.chk (zF i73 l71.length) (Tr.br (!bif decide ((l71.getD i73.toNat (zj zq)).1 ≥ 0) then decide ((l71.getD i73.toNat (zj zq)).1 < (↑ja1.length:Int)) else false) (Tr.ok (zt.ret (AV.kb false) [])) (Tr.br (!cO (l71.getD i73.toNat (zj zq)).2) (Tr.ok (zt.ret (AV.kb false) [])) (Tr.ok (zt.head 17 (zy Tryz.f55 17) (EW l71 i72 (IntKind.i64.wrap (i73+1)) ja0 ja1 ja2 ja3 ja4 ja5 ja6 ja7 ja8 ja9 ja10)))))) (Tr.br (bif decide (ja2 ≥ 0) then decide (ja2 < (↑ja1.length:Int)) else false) (Tr.chk (zF ja2 ja1.length) (Tr.br (ja1.getD (toNat ja2) (zj zi)).2.2 (Tr.ok (zt.ret (AV.bool (oV (ze.mk ja5 (ja6,ja7,ja8) ja9 ja10) ja1==0)) [])) (Tr.ok (zt.ret (AV.kb false) [])))) (Tr.ok (zt.ret (AV.kb false) []))):=by kernel_rfl
def eb (ja0:TS) (ja1:LC) (ja2:Sem zg) (ja3:LI) (ja4:LF) (ja5:zl) (ja6:Int) (ja7:Int) (ja8:zl) (ja9:zl) (ja10:LX):List (Sem zq)→Int→Sem Sh.bool
 | [],_=>(if (bif decide (ja2 ≥ 0) then decide (ja2 < (↑ja1.length:Int)) else false)=true then
 if (ja1.getD (toNat ja2) (zj zi)).2.2=true then
  oV (ze.mk ja5 (ja6,ja7,ja8) ja9 ja10) ja1==0
 else false
else false)
 | x::r,i73=>(if (!bif decide (x.1 ≥ 0) then decide (x.1 < (↑ja1.length:Int)) else false)=true then false
else if (!cO x.2)=true then false else eb ja0 ja1 ja2 ja3 ja4 ja5 ja6 ja7 ja8 ja9 ja10 r (i73+1))
def f6 (ja0:TS) (ja1:LC) (ja2:Sem zg) (ja3:LI) (ja4:LF) (ja5:zl) (ja6:Int) (ja7:Int) (ja8:zl) (ja9:zl) (ja10:LX):List (Sem zq)→Int→Bool
 | [],_=>(if (bif decide (ja2 ≥ 0) then decide (ja2 < (↑ja1.length:Int)) else false)=true then if zF ja2 ja1.length=true then true else false
else true)
 | x::r,i73=>(if (!bif decide (x.1 ≥ 0) then decide (x.1 < (↑ja1.length:Int)) else false)=true then true
else if (!cO x.2)=true then true else f6 ja0 ja1 ja2 ja3 ja4 ja5 ja6 ja7 ja8 ja9 ja10 r (i73+1))
theorem WE {C:cr} (hC:∀ id,C.ρ0 id=none) (ja0:TS) (ja1:LC) (ja2:Sem zg) (ja3:LI) (ja4:LF) (ja5:zl) (ja6:Int) (ja7:Int) (ja8:zl) (ja9:zl) (ja10:LX) (l71:LF) (hl:l71.length≤zE):∀ (m i:Nat),l71.length - i=m→i≤l71.length→f6 ja0 ja1 ja2 ja3 ja4 ja5 ja6 ja7 ja8 ja9 ja10 (l71.drop i) i=true→
  Reach (kh) C 55 (zy Tryz.f55 17) (EW l71 (l71.length:Int) (i:Int) ja0 ja1 ja2 ja3 ja4 ja5 ja6 ja7 ja8 ja9 ja10) (fun r h=>ae h [Sh.bool] r=some (eb ja0 ja1 ja2 ja3 ja4 ja5 ja6 ja7 ja8 ja9 ja10 (l71.drop i) i,())):=by
 intro m
 induction m with
 | zero=>
  intro i hm hi hc
  obtain rfl:i=l71.length:=by omega
  rw [dj] at hc ⊢
  refine zk fB (Uj) (fun id _=>hC id) (NH _ _ _ _ _ _ _ _ _ _ _ _ _ _) ?_
  rw [f6] at hc
  generalize hy:eb ja0 ja1 ja2 ja3 ja4 ja5 ja6 ja7 ja8 ja9 ja10 [] _=y
  rw [eb] at hy
  simp only [ag,Tr.val_brF]
  repeat' (first | with_reducible refine eY hy hc (fun _ hy hc=>?_) (fun _ hy hc=>?_) | with_reducible refine aR hy (fun _ hy=>?_) (fun _ hy=>?_) | with_reducible refine bm hc (fun hc=>?_) | with_reducible refine zr ?_)
  all_goals (subst hy; first | (change Reach _ _ _ _ _ _; apply uv hC <;> first | assumption | exact hc) | (change Reach _ _ _ _ _ _; apply pi hC <;> first | assumption | exact hc) | rfl)
 | succ m IH=>
  intro i hm hi hc
  have hlt:i < l71.length:=by omega
  have IH:=IH (i+1)
  have hcast:((i:Int)+1)=((i+1:Nat):Int):=by omega
  have hwr:=zH i (by omega)
  rw [dB hlt] at hc ⊢
  refine zk fB (Uj) (fun id _=>hC id) (NH _ _ _ _ _ _ _ _ _ _ _ _ _ _) ?_
  rw [f6] at hc
  generalize hy:eb ja0 ja1 ja2 ja3 ja4 ja5 ja6 ja7 ja8 ja9 ja10 (l71[i]::l71.drop (i+1)) (i:Int)=y
  rw [eb] at hy
  simp only [zX hlt,zG hlt,ac l71 _ hlt,hwr,Tr.val_brT,Tr.val_chkT]
  clear hwr
  simp only [hcast] at hy
  try simp only [hcast] at hc
  repeat' (first | with_reducible refine eY hy hc (fun _ hy hc=>?_) (fun _ hy hc=>?_) | with_reducible refine aR hy (fun _ hy=>?_) (fun _ hy=>?_) | with_reducible refine bm hc (fun hc=>?_) | with_reducible refine zr ?_)
  all_goals (subst hy; first | (change Reach _ _ _ _ _ _; apply IH <;> first | omega | assumption) | (change Reach _ _ _ _ _ _; apply uv hC <;> first | assumption | exact hc) | (change Reach _ _ _ _ _ _; apply pi hC <;> first | assumption | exact hc) | rfl)
theorem pj {C:cr} (hC:∀ id,C.ρ0 id=none) (ja0:TS) (ja1:LC) (ja2:Sem zg) (ja3:LI) (ja4:LF) (ja5:zl) (ja6:Int) (ja7:Int) (ja8:zl) (ja9:zl) (ja10:LX) (l71:LF) (hc:f6 ja0 ja1 ja2 ja3 ja4 ja5 ja6 ja7 ja8 ja9 ja10 l71 0=true):
  Reach (kh) C 55 (zy Tryz.f55 17) (EW l71 (l71.length:Int) 0 ja0 ja1 ja2 ja3 ja4 ja5 ja6 ja7 ja8 ja9 ja10) (fun r h=>ae h [Sh.bool] r=some (eb ja0 ja1 ja2 ja3 ja4 ja5 ja6 ja7 ja8 ja9 ja10 l71 0,())):=
 Reach.len 71 (zg.pr Sh.str) l71 rfl fun hl=>WE hC ja0 ja1 ja2 ja3 ja4 ja5 ja6 ja7 ja8 ja9 ja10 l71 hl _ 0 rfl (aE _) hc
def dZ (ja0:TS) (ja1:LC) (ja2:Sem zg) (ja3:LI) (ja4:LF) (ja5:zl) (ja6:Int) (ja7:Int) (ja8:zl) (ja9:zl) (ja10:LX):List (Sem zg)→Int→Sem Sh.bool
 | [],_=>(eb ja0 ja1 ja2 ja3 ja4 ja5 ja6 ja7 ja8 ja9 ja10 ja4 0)
 | x::r,i61=>(if (!bif decide (x ≥ 0) then decide (x < (↑ja1.length:Int)) else false)=true then false
else dZ ja0 ja1 ja2 ja3 ja4 ja5 ja6 ja7 ja8 ja9 ja10 r (i61+1))
def f5 (ja0:TS) (ja1:LC) (ja2:Sem zg) (ja3:LI) (ja4:LF) (ja5:zl) (ja6:Int) (ja7:Int) (ja8:zl) (ja9:zl) (ja10:LX):List (Sem zg)→Int→Bool
 | [],_=>(f6 ja0 ja1 ja2 ja3 ja4 ja5 ja6 ja7 ja8 ja9 ja10 ja4 0)
 | x::r,i61=>(if (!bif decide (x ≥ 0) then decide (x < (↑ja1.length:Int)) else false)=true then true
else f5 ja0 ja1 ja2 ja3 ja4 ja5 ja6 ja7 ja8 ja9 ja10 r (i61+1))
theorem WD {C:cr} (hC:∀ id,C.ρ0 id=none) (ja0:TS) (ja1:LC) (ja2:Sem zg) (ja3:LI) (ja4:LF) (ja5:zl) (ja6:Int) (ja7:Int) (ja8:zl) (ja9:zl) (ja10:LX) (l59:LI) (hl:l59.length≤zE):∀ (m i:Nat),l59.length - i=m→i≤l59.length→f5 ja0 ja1 ja2 ja3 ja4 ja5 ja6 ja7 ja8 ja9 ja10 (l59.drop i) i=true→
  Reach (kh) C 55 (zy Tryz.f55 11) (EV l59 (l59.length:Int) (i:Int) ja0 ja1 ja2 ja3 ja4 ja5 ja6 ja7 ja8 ja9 ja10) (fun r h=>ae h [Sh.bool] r=some (dZ ja0 ja1 ja2 ja3 ja4 ja5 ja6 ja7 ja8 ja9 ja10 (l59.drop i) i,())):=by
 intro m
 induction m with
 | zero=>
  intro i hm hi hc
  obtain rfl:i=l59.length:=by omega
  rw [dj] at hc ⊢
  refine zk fB (Uj) (fun id _=>hC id) (NG _ _ _ _ _ _ _ _ _ _ _ _ _ _) ?_
  rw [f5] at hc
  generalize hy:dZ ja0 ja1 ja2 ja3 ja4 ja5 ja6 ja7 ja8 ja9 ja10 [] _=y
  rw [dZ] at hy
  simp only [ag,Tr.val_brF]
  repeat' (first | with_reducible refine eY hy hc (fun _ hy hc=>?_) (fun _ hy hc=>?_) | with_reducible refine aR hy (fun _ hy=>?_) (fun _ hy=>?_) | with_reducible refine bm hc (fun hc=>?_) | with_reducible refine zr ?_)
  all_goals (subst hy; first | (change Reach _ _ _ _ _ _; apply uv hC <;> first | assumption | exact hc) | (change Reach _ _ _ _ _ _; apply pj hC <;> first | assumption | exact hc) | rfl)
 | succ m IH=>
  intro i hm hi hc
  have hlt:i < l59.length:=by omega
  have IH:=IH (i+1)
  have hcast:((i:Int)+1)=((i+1:Nat):Int):=by omega
  have hwr:=zH i (by omega)
  rw [dB hlt] at hc ⊢
  refine zk fB (Uj) (fun id _=>hC id) (NG _ _ _ _ _ _ _ _ _ _ _ _ _ _) ?_
  rw [f5] at hc
  generalize hy:dZ ja0 ja1 ja2 ja3 ja4 ja5 ja6 ja7 ja8 ja9 ja10 (l59[i]::l59.drop (i+1)) (i:Int)=y
  rw [dZ] at hy
  simp only [zX hlt,zG hlt,ac l59 _ hlt,hwr,Tr.val_brT,Tr.val_chkT]
  clear hwr
  simp only [hcast] at hy
  try simp only [hcast] at hc
  repeat' (first | with_reducible refine eY hy hc (fun _ hy hc=>?_) (fun _ hy hc=>?_) | with_reducible refine aR hy (fun _ hy=>?_) (fun _ hy=>?_) | with_reducible refine bm hc (fun hc=>?_) | with_reducible refine zr ?_)
  all_goals (subst hy; first | (change Reach _ _ _ _ _ _; apply IH <;> first | omega | assumption) | (change Reach _ _ _ _ _ _; apply uv hC <;> first | assumption | exact hc) | (change Reach _ _ _ _ _ _; apply pj hC <;> first | assumption | exact hc) | rfl)
theorem pi {C:cr} (hC:∀ id,C.ρ0 id=none) (ja0:TS) (ja1:LC) (ja2:Sem zg) (ja3:LI) (ja4:LF) (ja5:zl) (ja6:Int) (ja7:Int) (ja8:zl) (ja9:zl) (ja10:LX) (l59:LI) (hc:f5 ja0 ja1 ja2 ja3 ja4 ja5 ja6 ja7 ja8 ja9 ja10 l59 0=true):
  Reach (kh) C 55 (zy Tryz.f55 11) (EV l59 (l59.length:Int) 0 ja0 ja1 ja2 ja3 ja4 ja5 ja6 ja7 ja8 ja9 ja10) (fun r h=>ae h [Sh.bool] r=some (dZ ja0 ja1 ja2 ja3 ja4 ja5 ja6 ja7 ja8 ja9 ja10 l59 0,())):=
 Reach.len 59 (Sh.int IntKind.i64) l59 rfl fun hl=>WD hC ja0 ja1 ja2 ja3 ja4 ja5 ja6 ja7 ja8 ja9 ja10 l59 hl _ 0 rfl (aE _) hc
def f7 (ja0:TS) (ja1:LC) (ja2:Sem zg) (ja3:LI) (ja4:LF) (ja5:zl) (ja6:Int) (ja7:Int) (ja8:zl) (ja9:zl) (ja10:LX):List (Sem zi)→Int→Sem Sh.bool
 | [],_=>(dZ ja0 ja1 ja2 ja3 ja4 ja5 ja6 ja7 ja8 ja9 ja10 ja3 0)
 | x :: r,i29=>(if
  (bif !cO x.1 then true
   else
    bif decide (x.2.1 < 1) then true
    else
     bif decide (x.2.1 > 3) then true
     else jV (ja0,ja1,ja2,ja3,ja4,ze.mk ja5 (ja6,ja7,ja8) ja9 ja10) x.1 != i29)=
   true then
 false
else f7 ja0 ja1 ja2 ja3 ja4 ja5 ja6 ja7 ja8 ja9 ja10 r (i29+1))
def iL (ja0:TS) (ja1:LC) (ja2:Sem zg) (ja3:LI) (ja4:LF) (ja5:zl) (ja6:Int) (ja7:Int) (ja8:zl) (ja9:zl) (ja10:LX):List (Sem zi)→Int→Bool
 | [],_=>(f5 ja0 ja1 ja2 ja3 ja4 ja5 ja6 ja7 ja8 ja9 ja10 ja3 0)
 | x :: r,i29=>(if
  (bif !cO x.1 then true
   else
    bif decide (x.2.1 < 1) then true
    else
     bif decide (x.2.1 > 3) then true
     else jV (ja0,ja1,ja2,ja3,ja4,ze.mk ja5 (ja6,ja7,ja8) ja9 ja10) x.1 != i29)=
   true then
 true
else iL ja0 ja1 ja2 ja3 ja4 ja5 ja6 ja7 ja8 ja9 ja10 r (i29+1))
theorem zcy {C:cr} (hC:∀ id,C.ρ0 id=none) (ja0:TS) (ja1:LC) (ja2:Sem zg) (ja3:LI) (ja4:LF) (ja5:zl) (ja6:Int) (ja7:Int) (ja8:zl) (ja9:zl) (ja10:LX) (l27:LC) (hl:l27.length≤zE):∀ (m i:Nat),l27.length - i=m→i≤l27.length→iL ja0 ja1 ja2 ja3 ja4 ja5 ja6 ja7 ja8 ja9 ja10 (l27.drop i) i=true→
  Reach (kh) C 55 (zy Tryz.f55 4) (Oy l27 (l27.length:Int) (i:Int) ja0 ja1 ja2 ja3 ja4 ja5 ja6 ja7 ja8 ja9 ja10) (fun r h=>ae h [Sh.bool] r=some (f7 ja0 ja1 ja2 ja3 ja4 ja5 ja6 ja7 ja8 ja9 ja10 (l27.drop i) i,())):=by
 intro m
 induction m with
 | zero=>
  intro i hm hi hc
  obtain rfl:i=l27.length:=by omega
  rw [dj] at hc ⊢
  refine zk fB (Uj) (fun id _=>hC id) (Un _ _ _ _ _ _ _ _ _ _ _ _ _ _) ?_
  rw [iL] at hc
  generalize hy:f7 ja0 ja1 ja2 ja3 ja4 ja5 ja6 ja7 ja8 ja9 ja10 [] _=y
  rw [f7] at hy
  simp only [ag,Tr.val_brF]
  repeat' (first | with_reducible refine eY hy hc (fun _ hy hc=>?_) (fun _ hy hc=>?_) | with_reducible refine aR hy (fun _ hy=>?_) (fun _ hy=>?_) | with_reducible refine bm hc (fun hc=>?_) | with_reducible refine zr ?_)
  all_goals (subst hy; first | (change Reach _ _ _ _ _ _; apply pi hC <;> first | assumption | exact hc) | (change Reach _ _ _ _ _ _; apply pj hC <;> first | assumption | exact hc) | rfl)
 | succ m IH=>
  intro i hm hi hc
  have hlt:i < l27.length:=by omega
  have IH:=IH (i+1)
  have hcast:((i:Int)+1)=((i+1:Nat):Int):=by omega
  have hwr:=zH i (by omega)
  rw [dB hlt] at hc ⊢
  refine zk fB (Uj) (fun id _=>hC id) (Un _ _ _ _ _ _ _ _ _ _ _ _ _ _) ?_
  rw [iL] at hc
  generalize hy:f7 ja0 ja1 ja2 ja3 ja4 ja5 ja6 ja7 ja8 ja9 ja10 (l27[i]::l27.drop (i+1)) (i:Int)=y
  rw [f7] at hy
  simp only [zX hlt,zG hlt,ac l27 _ hlt,hwr,Tr.val_brT,Tr.val_chkT]
  clear hwr
  simp only [hcast] at hy
  try simp only [hcast] at hc
  repeat' (first | with_reducible refine eY hy hc (fun _ hy hc=>?_) (fun _ hy hc=>?_) | with_reducible refine aR hy (fun _ hy=>?_) (fun _ hy=>?_) | with_reducible refine bm hc (fun hc=>?_) | with_reducible refine zr ?_)
  all_goals (subst hy; first | (change Reach _ _ _ _ _ _; apply IH <;> first | omega | assumption) | (change Reach _ _ _ _ _ _; apply pi hC <;> first | assumption | exact hc) | (change Reach _ _ _ _ _ _; apply pj hC <;> first | assumption | exact hc) | rfl)
theorem uv {C:cr} (hC:∀ id,C.ρ0 id=none) (ja0:TS) (ja1:LC) (ja2:Sem zg) (ja3:LI) (ja4:LF) (ja5:zl) (ja6:Int) (ja7:Int) (ja8:zl) (ja9:zl) (ja10:LX) (l27:LC) (hc:iL ja0 ja1 ja2 ja3 ja4 ja5 ja6 ja7 ja8 ja9 ja10 l27 0=true):
  Reach (kh) C 55 (zy Tryz.f55 4) (Oy l27 (l27.length:Int) 0 ja0 ja1 ja2 ja3 ja4 ja5 ja6 ja7 ja8 ja9 ja10) (fun r h=>ae h [Sh.bool] r=some (f7 ja0 ja1 ja2 ja3 ja4 ja5 ja6 ja7 ja8 ja9 ja10 l27 0,())):=
 Reach.len 27 (zi) l27 rfl fun hl=>zcy hC ja0 ja1 ja2 ja3 ja4 ja5 ja6 ja7 ja8 ja9 ja10 l27 hl _ 0 rfl (aE _) hc
def iK (x0:Sem zw):Sem Sh.bool:=(if (bif !cO x0.1 then true else bif decide ((↑(length x0.2.1):Int) < 1) then true else decide ((↑(length x0.2.1):Int) > 8))=true then false else f7 x0.1 x0.2.1 x0.2.2.1 x0.2.2.2.1 x0.2.2.2.2.1 (ze.op x0.2.2.2.2.2) (ze.v x0.2.2.2.2.2).1 (ze.v x0.2.2.2.2.2).2.1 (ze.v x0.2.2.2.2.2).2.2 (ze.s x0.2.2.2.2.2) (ze.l x0.2.2.2.2.2) x0.2.1 0)
def Jd (x0:Sem zw):Bool:=(if (bif !cO x0.1 then true else bif decide ((↑(length x0.2.1):Int) < 1) then true else decide ((↑(length x0.2.1):Int) > 8))=true then true else iL x0.1 x0.2.1 x0.2.2.1 x0.2.2.2.1 x0.2.2.2.2.1 (ze.op x0.2.2.2.2.2) (ze.v x0.2.2.2.2.2).1 (ze.v x0.2.2.2.2.2).2.1 (ze.v x0.2.2.2.2.2).2.2 (ze.s x0.2.2.2.2.2) (ze.l x0.2.2.2.2.2) x0.2.1 0)
def F8:zD:=zC [zw] [Sh.bool] (fun x=>Jd x.1) fun x=>(iK x.1,())
theorem zbM:FK 55 F8:=by
 refine zM (Uj) fun x hc C hC=>?_
 unfold Jd at hc
 refine zk fB (Uj) (fun id _=>hC id) (go8 x.1) ?_
 generalize hy:iK x.1=y
 unfold iK at hy
 try simp only [ze.eta]
 repeat' (first | with_reducible refine eY hy hc (fun _ hy hc=>?_) (fun _ hy hc=>?_) | with_reducible refine aR hy (fun _ hy=>?_) (fun _ hy=>?_) | with_reducible refine bm hc (fun hc=>?_) | with_reducible refine zr ?_)
 all_goals (subst hy; first | (change Reach _ _ _ _ _ _; apply uv hC <;> first | assumption | exact hc) | (change Reach _ _ _ _ _ _; apply pi hC <;> first | assumption | exact hc) | (change Reach _ _ _ _ _ _; apply pj hC <;> first | assumption | exact hc) | rfl)

noncomputable def Tm:=kh.add 55 F8
theorem JK:zm Tm:=fB.add zbM

theorem oh {a0 a1 a2 a3 a4 a5 a6 a7 a8 a9 b0}:∀ (l:List (Sem zq)) (i:Int),f6 a0 a1 a2 a3 a4 a5 a6 a7 a8 a9 b0 l i=true
 | [],i=>by
  rw [f6]
  split
  ·rename_i h
   rw [if_pos]
   cases h1:decide (a2 ≥ 0) <;> simp_all [zF]
  ·rfl
 | x::r,i=>by
  rw [f6]
  repeat' split
  all_goals first | rfl | exact oh r (i+1)
theorem og {a0 a1 a2 a3 a4 a5 a6 a7 a8 a9 b0}:∀ (l:List (Sem zg)) (i:Int),f5 a0 a1 a2 a3 a4 a5 a6 a7 a8 a9 b0 l i=true
 | [],i=>by rw [f5]; exact oh _ _
 | x::r,i=>by
  rw [f5]
  repeat' split
  all_goals first | rfl | exact og r (i+1)
theorem qw {a0 a1 a2 a3 a4 a5 a6 a7 a8 a9 b0}:∀ (l:List (Sem zi)) (i:Int),iL a0 a1 a2 a3 a4 a5 a6 a7 a8 a9 b0 l i=true
 | [],i=>by rw [iL]; exact og _ _
 | x::r,i=>by
  rw [iL]
  split
  ·rfl
  ·exact qw r (i+1)
theorem Hf (t:Sem zw):Jd t=true:=by
 unfold Jd
 split
 ·rfl
 ·exact qw _ _
def F8t:zD:=ao [zw] [Sh.bool] fun x=>(iK x.1,())
theorem zbX:FK 55 F8t:=eG zbM fun x=>Hf x.1

noncomputable def nU:=Tm.add 55 F8t
theorem iQ:zm nU:=JK.add zbX

abbrev XB:Nat→zY:=fun j=>if j=4 then { slots:=[1,2,19,20,21] } else if j=10 then { slots:=[1,2,30,31] } else { }
abbrev ET (l1:LV) (l19:LV) (i20:Int) (i21:Int) (ja0:TS) (ja1:LC) (ja2:Sem zg) (ja3:LI) (ja4:LF) (ja5:zl) (ja6:Int) (ja7:Int) (ja8:zl) (ja9:zl) (ja10:LX):St:={ tmps:=(tm 79 [(1,AV.sl zf l1),(2,AV.ptr 0 0),(19,AV.sl zf l19),(20,ai i20),(21,ai i21)]),heap:=[AO.box [AV.str ja0,AV.sl zi ja1,ai ja2,AV.sl zg ja3,AV.sl zq ja4,AV.str ja5,ai ja6,ai ja7,AV.str ja8,AV.str ja9,AV.sl Sh.expr ja10]] }
theorem J3:zA (nU).P 56 Tryz.f56 2:=aL (by kernel_rfl)
theorem zgW (x0:Sem zw) (x1:Sem zf.sl):rn nU 0 XB Tryz.f56 [zz zw x0,zz zf.sl x1] []=Tr.br (bif !iK (x0.1,x0.2.1,x0.2.2.1,x0.2.2.2.1,x0.2.2.2.2.1,zB x0.2.2.2.2.2) then true else (↑(length x1):Int) != (↑(length x0.2.1):Int)) (Tr.ok (zt.ret (ai 1) [])) (Tr.ok (zt.head 4 (zy Tryz.f56 4) (ET x1 x1 (↑(length x1):Int) 0 x0.1 x0.2.1 x0.2.2.1 x0.2.2.2.1 x0.2.2.2.2.1 (ze.op x0.2.2.2.2.2) (ze.v x0.2.2.2.2.2).1 (ze.v x0.2.2.2.2.2).2.1 (ze.v x0.2.2.2.2.2).2.2 (ze.s x0.2.2.2.2.2) (ze.l x0.2.2.2.2.2)))):=by kernel_rfl
abbrev xk (l1:LV) (i30:Int) (i31:Int) (ja0:TS) (ja1:LC) (ja2:Sem zg) (ja3:LI) (ja4:LF) (ja5:zl) (ja6:Int) (ja7:Int) (ja8:zl) (ja9:zl) (ja10:LX):St:={ tmps:=(tm 79 [(1,AV.sl zf l1),(2,AV.ptr 0 0),(30,ai i30),(31,ai i31)]),heap:=[AO.box [AV.str ja0,AV.sl zi ja1,ai ja2,AV.sl zg ja3,AV.sl zq ja4,AV.str ja5,ai ja6,ai ja7,AV.str ja8,AV.str ja9,AV.sl Sh.expr ja10]] }
theorem NB (l1:LV) (l19:LV) (i20:Int) (i21:Int) (ja0:TS) (ja1:LC) (ja2:Sem zg) (ja3:LI) (ja4:LF) (ja5:zl) (ja6:Int) (ja7:Int) (ja8:zl) (ja9:zl) (ja10:LX):rh nU 0 XB Tryz.f56 4 (ET l1 l19 i20 i21 ja0 ja1 ja2 ja3 ja4 ja5 ja6 ja7 ja8 ja9 ja10)=Tr.br (decide (i21 < i20)) (Tr.chk (zF i21 l19.length) (Tr.br (!dS (l19.getD i21.toNat (zj zf))) (Tr.ok (zt.ret (ai 1) [])) (Tr.ok (zt.head 4 (zy Tryz.f56 4) (ET l1 l19 i20 (IntKind.i64.wrap (i21+1)) ja0 ja1 ja2 ja3 ja4 ja5 ja6 ja7 ja8 ja9 ja10))))) (Tr.ok (zt.head 10 (zy Tryz.f56 10) (xk l1 (↑l1.length:Int) 0 ja0 ja1 ja2 ja3 ja4 ja5 ja6 ja7 ja8 ja9 ja10))):=by kernel_rfl
theorem Ij (l1:LV) (i30:Int) (i31:Int) (ja0:TS) (ja1:LC) (ja2:Sem zg) (ja3:LI) (ja4:LF) (ja5:zl) (ja6:Int) (ja7:Int) (ja8:zl) (ja9:zl) (ja10:LX):rh nU 0 XB Tryz.f56 10 (xk l1 i30 i31 ja0 ja1 ja2 ja3 ja4 ja5 ja6 ja7 ja8 ja9 ja10)=Tr.br (decide (i31 < i30)) (Tr.chk (zF i31 l1.length&&bif (l1.getD i31.toNat (zj zf)).1==0 then zF i31 ja1.length else true) (Tr.br (bif (l1.getD i31.toNat (zj zf)).1==0 then (ja1.getD i31.toNat (zj zi)).2.2 else false) (Tr.ok (zt.ret (ai 8) [])) (Tr.chk (zF i31 l1.length&&bif (l1.getD i31.toNat (zj zf)).1 != 0 then zF i31 l1.length&&zF i31 ja1.length else true) (Tr.br (bif (l1.getD i31.toNat (zj zf)).1 != 0 then (l1.getD i31.toNat (zj zf)).1 != (ja1.getD i31.toNat (zj zi)).2.1 else false) (Tr.ok (zt.ret (ai 5) [])) (Tr.ok (zt.head 10 (zy Tryz.f56 10) (xk l1 i30 (IntKind.i64.wrap (i31+1)) ja0 ja1 ja2 ja3 ja4 ja5 ja6 ja7 ja8 ja9 ja10))))))) (Tr.br ((gM (ze.mk ja5 (ja6,ja7,ja8) ja9 ja10) ja1 l1).1==3&&((gM (ze.mk ja5 (ja6,ja7,ja8) ja9 ja10) ja1 l1).2.1==0&&((gM (ze.mk ja5 (ja6,ja7,ja8) ja9 ja10) ja1 l1).2.2==[]&&true))) (Tr.ok (zt.ret (ai 9) [])) (Tr.ok (zt.ret (ai 0) []))):=by kernel_rfl
def eC (ja0:TS) (ja1:LC) (ja2:Sem zg) (ja3:LI) (ja4:LF) (ja5:zl) (ja6:Int) (ja7:Int) (ja8:zl) (ja9:zl) (ja10:LX) (l1:LV):List (Sem zf)→Int→Sem zg
 | [],_=>(if
  ((gM (ze.mk ja5 (ja6,ja7,ja8) ja9 ja10) ja1 l1).1==3&&
    ((gM (ze.mk ja5 (ja6,ja7,ja8) ja9 ja10) ja1 l1).2.1==0&&
     ((gM (ze.mk ja5 (ja6,ja7,ja8) ja9 ja10) ja1 l1).2.2==[]&&true)))=
   true then
 9
else 0)
 | x::r,i31=>(if (bif x.1==0 then (ja1.getD i31.toNat (zj zi)).2.2 else false)=true then 8
else
 if (bif x.1 != 0 then x.1 != (ja1.getD i31.toNat (zj zi)).2.1 else false)=true then 5
 else eC ja0 ja1 ja2 ja3 ja4 ja5 ja6 ja7 ja8 ja9 ja10 l1 r (i31+1))
def fD (ja0:TS) (ja1:LC) (ja2:Sem zg) (ja3:LI) (ja4:LF) (ja5:zl) (ja6:Int) (ja7:Int) (ja8:zl) (ja9:zl) (ja10:LX) (l1:LV):List (Sem zf)→Int→Bool
 | [],_=>(true)
 | x::r,i31=>(if (zF i31 l1.length&&bif x.1==0 then zF i31 ja1.length else true)=true then
 if (bif x.1==0 then (ja1.getD i31.toNat (zj zi)).2.2 else false)=true then true
 else
  if (zF i31 l1.length&&bif x.1 != 0 then zF i31 l1.length&&zF i31 ja1.length else true)=true then
   if (bif x.1 != 0 then x.1 != (ja1.getD i31.toNat (zj zi)).2.1 else false)=true then true
   else fD ja0 ja1 ja2 ja3 ja4 ja5 ja6 ja7 ja8 ja9 ja10 l1 r (i31+1)
  else false
else false)
theorem P9 {C:cr} (hC:∀ id,C.ρ0 id=none) (ja0:TS) (ja1:LC) (ja2:Sem zg) (ja3:LI) (ja4:LF) (ja5:zl) (ja6:Int) (ja7:Int) (ja8:zl) (ja9:zl) (ja10:LX) (l1:LV) (hl:l1.length≤zE):∀ (m i:Nat),l1.length - i=m→i≤l1.length→fD ja0 ja1 ja2 ja3 ja4 ja5 ja6 ja7 ja8 ja9 ja10 l1 (l1.drop i) i=true→
  Reach (nU) C 56 (zy Tryz.f56 10) (xk l1 (l1.length:Int) (i:Int) ja0 ja1 ja2 ja3 ja4 ja5 ja6 ja7 ja8 ja9 ja10) (fun r h=>ae h [zg] r=some (eC ja0 ja1 ja2 ja3 ja4 ja5 ja6 ja7 ja8 ja9 ja10 l1 (l1.drop i) i,())):=by
 intro m
 induction m with
 | zero=>
  intro i hm hi hc
  obtain rfl:i=l1.length:=by omega
  rw [dj] at hc ⊢
  refine zk iQ (J3) (fun id _=>hC id) (Ij _ _ _ _ _ _ _ _ _ _ _ _ _ _) ?_
  rw [fD] at hc
  generalize hy:eC ja0 ja1 ja2 ja3 ja4 ja5 ja6 ja7 ja8 ja9 ja10 l1 [] _=y
  rw [eC] at hy
  simp only [ag,Tr.val_brF]
  repeat' (first | with_reducible refine eY hy hc (fun _ hy hc=>?_) (fun _ hy hc=>?_) | with_reducible refine aR hy (fun _ hy=>?_) (fun _ hy=>?_) | with_reducible refine bm hc (fun hc=>?_) | with_reducible refine zr ?_)
  all_goals (subst hy; first | (change Reach _ _ _ _ _ _; apply Bg hC <;> first | assumption | exact hc) | rfl)
 | succ m IH=>
  intro i hm hi hc
  have hlt:i < l1.length:=by omega
  have IH:=IH (i+1)
  have hcast:((i:Int)+1)=((i+1:Nat):Int):=by omega
  have hwr:=zH i (by omega)
  rw [dB hlt] at hc ⊢
  refine zk iQ (J3) (fun id _=>hC id) (Ij _ _ _ _ _ _ _ _ _ _ _ _ _ _) ?_
  rw [fD] at hc
  generalize hy:eC ja0 ja1 ja2 ja3 ja4 ja5 ja6 ja7 ja8 ja9 ja10 l1 (l1[i]::l1.drop (i+1)) (i:Int)=y
  rw [eC] at hy
  simp only [zX hlt,zG hlt,ac l1 _ hlt,hwr,Tr.val_brT]
  clear hwr
  try simp only [zG hlt] at hy
  simp only [hcast] at hy
  try simp only [zG hlt] at hc
  try simp only [hcast] at hc
  repeat' (first | with_reducible refine eY hy hc (fun _ hy hc=>?_) (fun _ hy hc=>?_) | with_reducible refine aR hy (fun _ hy=>?_) (fun _ hy=>?_) | with_reducible refine bm hc (fun hc=>?_) | with_reducible refine zr ?_)
  all_goals (subst hy; first | (change Reach _ _ _ _ _ _; apply IH <;> first | omega | assumption) | (change Reach _ _ _ _ _ _; apply Bg hC <;> first | assumption | exact hc) | rfl)
theorem uu {C:cr} (hC:∀ id,C.ρ0 id=none) (ja0:TS) (ja1:LC) (ja2:Sem zg) (ja3:LI) (ja4:LF) (ja5:zl) (ja6:Int) (ja7:Int) (ja8:zl) (ja9:zl) (ja10:LX) (l1:LV) (hc:fD ja0 ja1 ja2 ja3 ja4 ja5 ja6 ja7 ja8 ja9 ja10 l1 l1 0=true):
  Reach (nU) C 56 (zy Tryz.f56 10) (xk l1 (l1.length:Int) 0 ja0 ja1 ja2 ja3 ja4 ja5 ja6 ja7 ja8 ja9 ja10) (fun r h=>ae h [zg] r=some (eC ja0 ja1 ja2 ja3 ja4 ja5 ja6 ja7 ja8 ja9 ja10 l1 l1 0,())):=
 Reach.len 1 (zf) l1 rfl fun hl=>P9 hC ja0 ja1 ja2 ja3 ja4 ja5 ja6 ja7 ja8 ja9 ja10 l1 hl _ 0 rfl (aE _) hc
def fZ (l1:LV) (ja0:TS) (ja1:LC) (ja2:Sem zg) (ja3:LI) (ja4:LF) (ja5:zl) (ja6:Int) (ja7:Int) (ja8:zl) (ja9:zl) (ja10:LX):List (Sem zf)→Int→Sem zg
 | [],_=>(eC ja0 ja1 ja2 ja3 ja4 ja5 ja6 ja7 ja8 ja9 ja10 l1 l1 0)
 | x::r,i21=>(if (!dS x)=true then 1 else fZ l1 ja0 ja1 ja2 ja3 ja4 ja5 ja6 ja7 ja8 ja9 ja10 r (i21+1))
def fY (l1:LV) (ja0:TS) (ja1:LC) (ja2:Sem zg) (ja3:LI) (ja4:LF) (ja5:zl) (ja6:Int) (ja7:Int) (ja8:zl) (ja9:zl) (ja10:LX):List (Sem zf)→Int→Bool
 | [],_=>(fD ja0 ja1 ja2 ja3 ja4 ja5 ja6 ja7 ja8 ja9 ja10 l1 l1 0)
 | x::r,i21=>(if (!dS x)=true then true else fY l1 ja0 ja1 ja2 ja3 ja4 ja5 ja6 ja7 ja8 ja9 ja10 r (i21+1))
theorem Wz {C:cr} (hC:∀ id,C.ρ0 id=none) (l1:LV) (ja0:TS) (ja1:LC) (ja2:Sem zg) (ja3:LI) (ja4:LF) (ja5:zl) (ja6:Int) (ja7:Int) (ja8:zl) (ja9:zl) (ja10:LX) (l19:LV) (hl:l19.length≤zE):∀ (m i:Nat),l19.length - i=m→i≤l19.length→fY l1 ja0 ja1 ja2 ja3 ja4 ja5 ja6 ja7 ja8 ja9 ja10 (l19.drop i) i=true→
  Reach (nU) C 56 (zy Tryz.f56 4) (ET l1 l19 (l19.length:Int) (i:Int) ja0 ja1 ja2 ja3 ja4 ja5 ja6 ja7 ja8 ja9 ja10) (fun r h=>ae h [zg] r=some (fZ l1 ja0 ja1 ja2 ja3 ja4 ja5 ja6 ja7 ja8 ja9 ja10 (l19.drop i) i,())):=by
 intro m
 induction m with
 | zero=>
  intro i hm hi hc
  obtain rfl:i=l19.length:=by omega
  rw [dj] at hc ⊢
  refine zk iQ (J3) (fun id _=>hC id) (NB _ _ _ _ _ _ _ _ _ _ _ _ _ _ _) ?_
  rw [fY] at hc
  generalize hy:fZ l1 ja0 ja1 ja2 ja3 ja4 ja5 ja6 ja7 ja8 ja9 ja10 [] _=y
  rw [fZ] at hy
  simp only [ag,Tr.val_brF]
  repeat' (first | with_reducible refine eY hy hc (fun _ hy hc=>?_) (fun _ hy hc=>?_) | with_reducible refine aR hy (fun _ hy=>?_) (fun _ hy=>?_) | with_reducible refine bm hc (fun hc=>?_) | with_reducible refine zr ?_)
  all_goals (subst hy; first | (change Reach _ _ _ _ _ _; apply uu hC <;> first | assumption | exact hc) | rfl)
 | succ m IH=>
  intro i hm hi hc
  have hlt:i < l19.length:=by omega
  have IH:=IH (i+1)
  have hcast:((i:Int)+1)=((i+1:Nat):Int):=by omega
  have hwr:=zH i (by omega)
  rw [dB hlt] at hc ⊢
  refine zk iQ (J3) (fun id _=>hC id) (NB _ _ _ _ _ _ _ _ _ _ _ _ _ _ _) ?_
  rw [fY] at hc
  generalize hy:fZ l1 ja0 ja1 ja2 ja3 ja4 ja5 ja6 ja7 ja8 ja9 ja10 (l19[i]::l19.drop (i+1)) (i:Int)=y
  rw [fZ] at hy
  simp only [zX hlt,zG hlt,ac l19 _ hlt,hwr,Tr.val_brT,Tr.val_chkT]
  clear hwr
  try simp only [zG hlt] at hy
  simp only [hcast] at hy
  try simp only [zG hlt] at hc
  try simp only [hcast] at hc
  repeat' (first | with_reducible refine eY hy hc (fun _ hy hc=>?_) (fun _ hy hc=>?_) | with_reducible refine aR hy (fun _ hy=>?_) (fun _ hy=>?_) | with_reducible refine bm hc (fun hc=>?_) | with_reducible refine zr ?_)
  all_goals (subst hy; first | (change Reach _ _ _ _ _ _; apply IH <;> first | omega | assumption) | (change Reach _ _ _ _ _ _; apply uu hC <;> first | assumption | exact hc) | rfl)
theorem Bg {C:cr} (hC:∀ id,C.ρ0 id=none) (l1:LV) (ja0:TS) (ja1:LC) (ja2:Sem zg) (ja3:LI) (ja4:LF) (ja5:zl) (ja6:Int) (ja7:Int) (ja8:zl) (ja9:zl) (ja10:LX) (l19:LV) (hc:fY l1 ja0 ja1 ja2 ja3 ja4 ja5 ja6 ja7 ja8 ja9 ja10 l19 0=true):
  Reach (nU) C 56 (zy Tryz.f56 4) (ET l1 l19 (l19.length:Int) 0 ja0 ja1 ja2 ja3 ja4 ja5 ja6 ja7 ja8 ja9 ja10) (fun r h=>ae h [zg] r=some (fZ l1 ja0 ja1 ja2 ja3 ja4 ja5 ja6 ja7 ja8 ja9 ja10 l19 0,())):=
 Reach.len 19 (zf) l19 rfl fun hl=>Wz hC l1 ja0 ja1 ja2 ja3 ja4 ja5 ja6 ja7 ja8 ja9 ja10 l19 hl _ 0 rfl (aE _) hc
def io (x0:Sem zw) (x1:Sem zf.sl):Sem zg:=(if (bif !iK x0 then true else (↑(length x1):Int) != (↑(length x0.2.1):Int))=true then 1 else fZ x1 x0.1 x0.2.1 x0.2.2.1 x0.2.2.2.1 x0.2.2.2.2.1 (ze.op x0.2.2.2.2.2) (ze.v x0.2.2.2.2.2).1 (ze.v x0.2.2.2.2.2).2.1 (ze.v x0.2.2.2.2.2).2.2 (ze.s x0.2.2.2.2.2) (ze.l x0.2.2.2.2.2) x1 0)
def CV (x0:Sem zw) (x1:Sem zf.sl):Bool:=(if (bif !iK x0 then true else (↑(length x1):Int) != (↑(length x0.2.1):Int))=true then true else fY x1 x0.1 x0.2.1 x0.2.2.1 x0.2.2.2.1 x0.2.2.2.2.1 (ze.op x0.2.2.2.2.2) (ze.v x0.2.2.2.2.2).1 (ze.v x0.2.2.2.2.2).2.1 (ze.v x0.2.2.2.2.2).2.2 (ze.s x0.2.2.2.2.2) (ze.l x0.2.2.2.2.2) x1 0)
def F10:zD:=zC [zw,zf.sl] [zg] (fun x=>CV x.1 x.2.1) fun x=>(io x.1 x.2.1,())
theorem SW:FK 56 F10:=by
 refine zM (J3) fun x hc C hC=>?_
 unfold CV at hc
 refine zk iQ (J3) (fun id _=>hC id) (zgW x.1 x.2.1) ?_
 generalize hy:io x.1 x.2.1=y
 unfold io at hy
 try simp only [ze.eta]
 repeat' (first | with_reducible refine eY hy hc (fun _ hy hc=>?_) (fun _ hy hc=>?_) | with_reducible refine aR hy (fun _ hy=>?_) (fun _ hy=>?_) | with_reducible refine bm hc (fun hc=>?_) | with_reducible refine zr ?_)
 all_goals (subst hy; first | (change Reach _ _ _ _ _ _; apply Bg hC <;> first | assumption | exact hc) | (change Reach _ _ _ _ _ _; apply uu hC <;> first | assumption | exact hc) | rfl)

noncomputable def Tn:=nU.add 56 F10
theorem JL:zm Tn:=iQ.add SW

theorem mJ {a0 a2 a3 a4 a5 a6 a7 a8 a9 b0} {cols:List (Sem zi)} {row:List (Sem zf)} (hl:row.length=cols.length):∀ (l:List (Sem zf)) (i:Nat),i+l.length=row.length→fD a0 cols a2 a3 a4 a5 a6 a7 a8 a9 b0 row l i=true
 | [],i,_=>rfl
 | x::r,i,h=>by
  have h1:i < row.length:=by simp at h; omega
  have h2:i < cols.length:=by omega
  have ih:=mJ (a0:=a0) (a2:=a2) (a3:=a3) (a4:=a4) (a5:=a5) (a6:=a6) (a7:=a7) (a8:=a8) (a9:=a9) (b0:=b0) hl r (i+1) (by simp at h; omega)
  rw [fD]
  simp only [zG h1,zG h2]
  rw [if_pos (by cases x.1==0 <;> rfl)]
  split
  ·rfl
  ·rw [if_pos (by cases x.1 != 0 <;> rfl)]
   split
   ·rfl
   ·exact ih
theorem oe {a0 a2 a3 a4 a5 a6 a7 a8 a9 b0} {cols:List (Sem zi)} {row:List (Sem zf)} (hl:row.length=cols.length):∀ (l:List (Sem zf)) (i:Int),fY row a0 cols a2 a3 a4 a5 a6 a7 a8 a9 b0 l i=true
 | [],i=>by rw [fY]; exact mJ hl row 0 (by simp)
 | x::r,i=>by
  rw [fY]
  split
  ·rfl
  ·exact oe hl r (i+1)
theorem Fc (t:Sem zw) (row:List (Sem zf)):CV t row=true:=by
 unfold CV
 split
 ·rfl
 ·rename_i h
  refine oe ?_ _ _
  cases hm:iK t
  ·rw [hm] at h; simp at h
  ·rw [hm] at h
   simp at h
   omega
def Zm:zD:=ao [zw,zf.sl] [zg] fun x=>(io x.1 x.2.1,())
theorem UL:FK 56 Zm:=eG SW fun x=>Fc x.1 x.2.1

noncomputable def vj:=Tn.add 56 Zm
theorem JM:zm vj:=JL.add UL

open Go.RowKit Go.Lib in
theorem VY:FK 236 (zC [.str,.str] [.bool] (fun x=>x.2.1.length==1) fun x=>(decide (0≤Lib.indexByte x.1 (x.2.1.headD 0)),())):=by
 refine fA (E:=vj) ⟨Tryz.f236,by kernel_rfl,by kernel_rfl,by kernel_rfl⟩ fun x h0 res hx=>?_
 unfold gG at hx
 split at hx
 ·simp only [Tr.val] at hx
  split at hx
  ·rename_i hc
   simp only [aq] at hx
   subst hx
   obtain ⟨s,sub,u⟩:=x
   have hc:(sub.length==1)=true:=hc
   match sub,hc with
   | [c],_=>
    intro C w U ρ vals _ hr hH hnew hr0 hW
    have hl:=hr.len
    match vals,hl,hr with
    | [v1,v2],_,hr=>
     have h1:=hr.rv 0 (.str s) v1 rfl rfl
     have h2:=hr.rv 1 (.str [c]) v2 rfl rfl
     cases h1 with
     | str _ hs=>
     cases h2 with
     | str _ hs2=>
     refine (Tryz.strings_Contains_one ⟨s.toArray⟩ c w).mono ?_
     rintro e w' ⟨rfl,rfl⟩
     exact fw hH hnew hr0 hW (Below.refl _ _) (.bool _)
  ·cases hx
 ·simp at hx
def F63:zD:=zC [.str,.str] [.bool] (fun x=>x.2.1.length==1) fun x=>(decide (0≤Lib.indexByte x.1 (x.2.1.headD 0)),())
theorem zbz:FK 236 F63:=VY

def F89:zD:=zC [.str] [.str] (fun x=>decide (x.1.length≤140737488355328)&&x.1.all fun b=>decide (b.toNat < 128)) fun x=>(Lib.toUpperA x.1,())
open Go.RowKit Go.Lib in
theorem zbW:FK 158 F89:=by
 refine fA (E:=vj) ⟨Tryz.f158,by kernel_rfl,by kernel_rfl,by kernel_rfl⟩ fun x h0 res hx=>?_
 unfold gG at hx
 split at hx
 ·simp only [Tr.val] at hx
  split at hx
  ·rename_i hc
   simp only [aq] at hx
   subst hx
   obtain ⟨s,u⟩:=x
   have hc:(decide (s.length≤140737488355328)&&s.all fun b=>decide (b.toNat < 128))=true:=hc
   simp only [aG,zW] at hc
   obtain ⟨hc0,hc⟩:=hc
   intro C w U ρ vals _ hr hH hnew hr0 hW
   have hl:=hr.len
   match vals,hl,hr with
   | [v1],_,hr=>
    have h1:=hr.rv 0 (.str s) v1 rfl rfl
    cases h1 with
    | str _ hs=>
    refine (Tryz.strings_ToUpper_ascii ⟨s.toArray⟩ w (by simpa [ByteArray.size] using hc0) (fun j b hj=>?_)).mono ?_
    ·have hm:b∈s:=ig (by simpa using hj)
     simp only [cL,zW] at hc
     exact hc b hm
    ·rintro e w' ⟨rfl,hb⟩
     have hbb:=fw (r:=.str (Lib.toUpperA s)) hH hnew hr0 hW hb (.str _ (by simpa [Lib.toUpperA] using hs))
     exact hbb
  ·cases hx
 ·simp at hx

def nL:Nat→Nat→zl
 | 0,_=>[]
 | f+1,n=>if n < 10 then [UInt8.ofNat (48+n)] else nL f (n / 10)++[UInt8.ofNat (48+n % 10)]
def nZ (n:Int):zl:=if n < 0 then 45::nL 20 n.natAbs else nL 20 n.natAbs
theorem Bx:∀ (f n:Nat),n < 10 ^ f→0 < f→nL f n=Lib.decDigits n
 | 0,_,_,h=>by omega
 | f+1,n,h,_=>by
  rw [nL,Lib.decDigits]
  split
  ·rfl
  ·rename_i hn
   have hf:0 < f:=by
    cases f with
    | zero=>simp at h; omega
    | succ f=>omega
   rw [Bx f (n / 10) (by rw [Nat.pow_succ] at h; omega) hf]
theorem Dw:∀ (f n:Nat),(nL f n).length≤f
 | 0,_=>by simp [nL]
 | f+1,n=>by
  rw [nL]
  split
  ·simp
  ·have:=Dw f (n / 10)
   simp; omega
theorem Au (n:Int):(nZ n).length≤21:=by
 unfold nZ
 have:=Dw 20 n.natAbs
 split <;> simp <;> omega
theorem MB (n:Int) (h:bx .i64 n):Lib.itoa n=nZ n:=by
 have h1:-9223372036854775808≤n:=h.1
 have h2:n≤9223372036854775807:=h.2
 unfold Lib.itoa nZ
 split
 ·rw [Bx 20 _ (by omega) (by omega)]
 ·rw [Bx 20 _ (by omega) (by omega)]
  congr 1
  omega
def Zx:zD:=zC [zg,zg] [.str] (fun x=>x.2.1==10) fun x=>(nZ x.1,())
open Go.RowKit Go.Lib in
theorem UW:FK 230 Zx:=by
 refine fA (E:=vj) ⟨Tryz.f230,by kernel_rfl,by kernel_rfl,by kernel_rfl⟩ fun x h0 res hx=>?_
 unfold gG at hx
 split at hx
 ·simp only [Tr.val] at hx
  split at hx
  ·rename_i hc
   simp only [aq] at hx
   subst hx
   obtain ⟨n,b,u⟩:=x
   have hc:(b==10)=true:=hc
   simp only [ej] at hc
   subst hc
   intro C w U ρ vals _ hr hH hnew hr0 hW
   have hl:=hr.len
   match vals,hl,hr with
   | [v1,v2],_,hr=>
    have h1:=hr.rv 0 (.int .i64 n) v1 rfl rfl
    have h2:=hr.rv 1 (.int .i64 10) v2 rfl rfl
    cases h1 with
    | int _ _ hn=>
    cases h2
    have h5:Rv w U (fun _=>none) (.tab .u64 jN) (.pointer (some ⟨5,0,none⟩)):=hW.gl 5
    have htab:Lib.TabIs Tryz.prog w "internal/strconv.uint64pow10" .u64 Lib.pow10Tab:=by
     cases h5 with
     | tab _ _ _ T fr hb hU=>
     have hg:Tryz.prog.globalNamed "internal/strconv.uint64pow10" = some 5:=by kernel_rfl
     have ht:Lib.pow10Tab=jN:=by decide +kernel
     unfold Lib.TabIs World.var?
     rw [hg,ht]
     simp only [Option.bind_some,hb]
    refine (Tryz.strconv_FormatInt_10 n hn.1 hn.2 w htab).mono ?_
    rintro e w' ⟨rfl,k,os,rfl⟩
    rw [MB n hn]
    exact fw (r:=.str (nZ n)) hH hnew hr0 hW ⟨rfl,rfl,rfl,by show w.heap.size≤(w.heap++os).size; simp,fun j hj=>by show (w.heap++os)[j]?=w.heap[j]?; rw [Array.getElem?_append_left hj]⟩ (.str _ (by have:=Au n; unfold zE; omega))
  ·cases hx
 ·simp at hx

theorem qe (old new:zl):∀ (k:Nat) (s:zl),(Lib.replaceK old new k s).length≤s.length+k * new.length
 | 0,s=>by simp [Lib.replaceK]
 | k+1,s=>by
  rw [Lib.replaceK]
  split
  ·omega
  ·have:=qe old new k (s.drop ((Lib.index s old).toNat+old.length))
   simp only [pd,List.length_take,List.length_drop] at this ⊢
   rw [fH]
   omega
theorem jh (s old new:zl):(Lib.replaceAll s old new).length≤s.length+(s.length+1) * new.length:=by
 unfold Lib.replaceAll Lib.replace
 split
 ·omega
 ·refine cM (qe old new _ s) ?_
  have hc:=Lib.count_le s old
  have:Lib.replaceNum s old (-1)=Lib.count s old:=by unfold Lib.replaceNum; rw [if_pos (.inl (by omega))]
  rw [this]
  have:=eT new.length hc
  omega
def qd (s old new:zl):Bool:=decide (s.length≤4000000000)&&(decide (1≤old.length)&&decide (new.length≤1000))
def Zy:zD:=zC [.str,.str,.str] [.str] (fun x=>qd x.1 x.2.1 x.2.2.1) fun x=>(Lib.replaceAll x.1 x.2.1 x.2.2.1,())
open Go.RowKit Go.Lib in
theorem UX:FK 231 Zy:=by
 refine fA (E:=vj) ⟨Tryz.f231,by kernel_rfl,by kernel_rfl,by kernel_rfl⟩ fun x h0 res hx=>?_
 unfold gG at hx
 split at hx
 ·simp only [Tr.val] at hx
  split at hx
  ·rename_i hc
   simp only [aq] at hx
   subst hx
   obtain ⟨s,old,new,u⟩:=x
   have hc:qd s old new=true:=hc
   unfold qd at hc
   simp only [aG,zW] at hc
   obtain ⟨hc1,hc2,hc3⟩:=hc
   intro C w U ρ vals _ hr hH hnew hr0 hW
   have hl:=hr.len
   match vals,hl,hr with
   | [v1,v2,v3],_,hr=>
    have h1:=hr.rv 0 (.str s) v1 rfl rfl
    have h2:=hr.rv 1 (.str old) v2 rfl rfl
    have h3:=hr.rv 2 (.str new) v3 rfl rfl
    cases h1 with
    | str _ hs1=>
    cases h2 with
    | str _ hs2=>
    cases h3 with
    | str _ hs3=>
    have hg1:Rv w U (fun _=>none) .gint (.pointer (some ⟨2,0,none⟩)):=hW.gl 2
    have hmm:∃ m:Int,w.cell? ⟨2,0,none⟩=some (.int .i64 m):=by
     cases hg1 with
     | gint m _ T fr _ hb _=>exact ⟨m,by simp [World.cell?,hb]⟩
    obtain ⟨m,hm⟩:=hmm
    have hcb:=Lib.countB_le (⟨old.toArray⟩:ByteArray) (by simpa [ByteArray.size] using hc2) s.length (⟨s.toArray⟩:ByteArray) (by simp [ByteArray.size])
    have hsz:(⟨s.toArray⟩:ByteArray).size=s.length:=by simp [ByteArray.size]
    have hnz:(⟨new.toArray⟩:ByteArray).size=new.length:=by simp [ByteArray.size]
    have hmul:Lib.countB (⟨s.toArray⟩:ByteArray) ⟨old.toArray⟩ * new.length≤4000000000 * 1000:=j5 (by omega) hc3
    refine (Tryz.strings_ReplaceAll ⟨s.toArray⟩ ⟨old.toArray⟩ ⟨new.toArray⟩ m w (by rw [hsz]; omega) hm (by simpa [ByteArray.size] using hc2) (by rw [hsz,hnz]; omega)).mono ?_
    rintro e w' ⟨rfl,hbel⟩
    refine fw (r:=.str (Lib.replaceAll s old new)) hH hnew hr0 hW hbel (.str _ ?_)
    have hlen:=jh s old new
    have hmul2:(s.length+1) * new.length≤4000000001 * 1000:=j5 (by omega) hc3
    unfold zE
    omega
  ·cases hx
 ·simp at hx

def Zw:zD:=zC [.sl .str,.str] [.str] (fun x=>decide (x.1.length≤140737488355328)&&decide ((Lib.join x.1 x.2.1).length≤140737488355328)) fun x=>(Lib.join x.1 x.2.1,())
open Go.RowKit Go.Lib in
theorem UV:FK 229 Zw:=by
 refine fA (E:=vj) ⟨Tryz.f229,by kernel_rfl,by kernel_rfl,by kernel_rfl⟩ fun x h0 res hx=>?_
 unfold gG at hx
 split at hx
 ·simp only [Tr.val] at hx
  split at hx
  ·rename_i hc
   simp only [aq] at hx
   subst hx
   obtain ⟨l,sep,u⟩:=x
   have hc:(decide (l.length≤140737488355328)&&decide ((Lib.join l sep).length≤140737488355328))=true:=hc
   simp only [aG,zW] at hc
   obtain ⟨hc0,hc⟩:=hc
   have hms:zE=9223372036854775807:=rfl
   intro C w U ρ vals _ hr hH hnew hr0 hW
   have hl:=hr.len
   match vals,hl,hr with
   | [v1,v2],_,hr=>
    have h1:=hr.rv 0 (.sl .str l) v1 rfl rfl
    have h2:=hr.rv 1 (.str sep) v2 rfl rfl
    cases h2 with
    | str _ hs2=>
    generalize hl0:l=l0 at h1 hc hc0 hr
    cases h1 with
    | sl0 _ a c=>
     subst hl0
     refine (Tryz.strings_Join_none a c ⟨sep.toArray⟩ w).mono ?_
     rintro e w' ⟨rfl,rfl⟩
     exact fw (r:=.str []) hH hnew hr0 hW (Below.refl _ _) (.str _ (by simp))
    | sl _ _ b o c vals' hcc hm hb hU hcell hrr=>
     subst hl0
     have hx:∀ (j:Nat) x,(l.map fun s=>(⟨s.toArray⟩:ByteArray))[j]?=some x→w.cell? ⟨b,o+j,none⟩=some (.string x):=by
      intro j x hj
      simp only [di,dc] at hj
      obtain ⟨s,hs,rfl⟩:=hj
      obtain ⟨hlt,rfl⟩:=bP.1 hs
      have h3:=hcell j 0 hlt (by simp [Sh.size])
      have h4:=hrr j hlt 0 (.str l[j]) rfl
      simp only [Sh.size,Nat.mul_one,pg] at h3
      rw [h3]
      generalize vals' j 0=vv at h4
      cases h4
      rfl
     have hmap:(l.map fun s=>(⟨s.toArray⟩:ByteArray)).map (·.data.toList)=l:=by
      simp [rX]
     have hj:=Tryz.strings_Join b o c (l.map fun s=>(⟨s.toArray⟩:ByteArray)) ⟨sep.toArray⟩ w hx hb (by simpa using hc0) (by simpa using hcc) (by rw [hmap]; exact hc)
     rw [hmap] at hj
     simp only [yE] at hj
     refine hj.mono ?_
     rintro e w' ⟨rfl,hbel⟩
     exact fw (r:=.str (Lib.join l sep)) hH hnew hr0 hW hbel (.str _ (by omega))
  ·cases hx
 ·simp at hx

noncomputable def nV:=vj.addL [(236,F63),(158,F89),(230,Zx),(231,Zy),(229,Zw)]
theorem gu:zm nV:=JM.addL <| fc zbz <| fc zbW <| fc UW <| fc UX <| fc UV gZ
end Cad
