/- Expressions: which may be. Expressions: their values. Expressions: may, bounded. Expressions: types and values. What is asked of expressions holds. -/
import Derived.Test.YtiefilkilbdpgaaGreatDoorS09
namespace Cad
open Go Go.Proofs
open Int (toNat)
open List (length)

def vR (v:V):Bool:=v.1==0&&(v.2.1==0&&(v.2.2==[]&&true))
def avB:AV→Option Bool
 | .bool b=>some b
 | .kb b=>some b
 | _=>none

theorem Reach.toBool {E:bt} {C:cH} {fn:FuncId} {todo:List Item} {st:St} {b:Bool} {hp:List AO} (h:Reach E C fn todo st (fun r h=>avB r=some b∧h=hp)):Reach E C fn todo st (fun r h=>(r,h)=(.bool b,hp)):=by
 refine h.weaken fun r h' hq=>?_
 obtain ⟨h1,rfl⟩:=hq
 refine ⟨.bool b,rfl,fun w U ρ v hv=>?_⟩
 cases r <;> simp [avB] at h1 <;> subst h1 <;> cases hv <;> exact .bool _

def Vg (g:ze→Int→Int→Bool×Int) (c:ze→Int→Int→Bool):cF [none,some .expr,some zg]:=fun x h=>match x,h with
 | (.ptr 0 0,e,d,_),[.box [.int .i64 n]]=>.chk (c e d n) (.ok (.bool (g e d n).1,[.box [.int .i64 (g e d n).2]]))
 | _,_=>.err
def Ej (g:ze→Int→Int→Bool×Int) (c:ze→Int→Int→Bool):zF:=zU [none,some .expr,some zg] (Vg g c)
noncomputable def Iz (g:ze→Int→Int→Bool×Int) (c:ze→Int→Int→Bool):bt:=GN.add 137 (Ej g c)
theorem uO {g:ze→Int→Int→Bool×Int} {c:ze→Int→Int→Bool} (hg:FK 137 (Ej g c)):zl (Iz g c):=yp.add hg
abbrev zds:Nat→ah:=fun j=>if j=12 then { slots:=[0,2,73,74,75] } else { }
abbrev BI (i2:Int) (l73:LX) (i74:Int) (i75:Int) (ja0:Int):St:={ tmps:=(tm 86 [(0,AV.ptr 0 0),(2,ai i2),(73,AV.sl Sh.expr l73),(74,ai i74),(75,ai i75)]),heap:=[AO.box [ai ja0]] }
theorem MM (g:ze→Int→Int→Bool×Int) (c:ze→Int→Int→Bool):zA (Iz g c).P 137 Tryz.f137 3:=aQ (by kernel_rfl)
theorem zgt (g:ze→Int→Int→Bool×Int) (c:ze→Int→Int→Bool) (e:ze) (d:Int) (n:Int):rn (Iz g c) 1 zds Tryz.f137 [AV.ptr 0 0,zz Sh.expr e,ai d] [AO.box [ai n]]=Tr.br (bif decide (d > 12) then true else bif decide (IntKind.i64.wrap (n+1) > 60) then true else (↑e.l.length:Int) != dE e.op) (Tr.ok (zt.ret (AV.kb false) [AO.box [ai (IntKind.i64.wrap (n+1))]])) (Tr.br (e.op==[108,105,116]) (Tr.ok (zt.ret (AV.bool (bif e.s==[] then gr e.v else false)) [AO.box [ai (IntKind.i64.wrap (n+1))]])) (Tr.br (e.op==[99,111,108]) (Tr.ok (zt.ret (AV.bool (bif vR e.v then bif md e.s then !DR e.s else false else false)) [AO.box [ai (IntKind.i64.wrap (n+1))]])) (Tr.br (bif !vR e.v then true else !e.s==[]) (Tr.ok (zt.ret (AV.kb false) [AO.box [ai (IntKind.i64.wrap (n+1))]])) (Tr.ok (zt.head 12 (zy Tryz.f137 12) (BI d e.l (↑e.l.length:Int) 0 (IntKind.i64.wrap (n+1)))))))):=by kernel_rfl
theorem Hx (g:ze→Int→Int→Bool×Int) (c:ze→Int→Int→Bool) (i2:Int) (l73:LX) (i74:Int) (i75:Int) (ja0:Int):rh (Iz g c) 1 zds Tryz.f137 12 (BI i2 l73 i74 i75 ja0)=Tr.br (decide (i75 < i74)) (Tr.chk (zI i75 l73.length) (Tr.chk (c (zE (l73.getD i75.toNat (zj Sh.expr))) (IntKind.i64.wrap (i2+1)) ja0) (Tr.br (!(g (zE (l73.getD i75.toNat (zj Sh.expr))) (IntKind.i64.wrap (i2+1)) ja0).1) (Tr.ok (zt.ret (AV.kb false) [AO.box [AV.int IntKind.i64 (g (zE (l73.getD i75.toNat (zj Sh.expr))) (IntKind.i64.wrap (i2+1)) ja0).2]])) (Tr.ok (zt.head 12 (zy Tryz.f137 12) (BI i2 l73 i74 (IntKind.i64.wrap (i75+1)) (g (zE (l73.getD i75.toNat (zj Sh.expr))) (IntKind.i64.wrap (i2+1)) ja0).2)))))) (Tr.ok (zt.ret (AV.kb true) [AO.box [ai ja0]])):=by kernel_rfl

def xM (g:ze→Int→Int→Bool×Int) (d:Int):List ze→Int→Bool×Int
 | [],n=>(true,n)
 | x::r,n=>if (!(g x (IntKind.i64.wrap (d+1)) n).1)=true then (false,(g x (IntKind.i64.wrap (d+1)) n).2) else xM g d r (g x (IntKind.i64.wrap (d+1)) n).2
def vZ (g:ze→Int→Int→Bool×Int) (c:ze→Int→Int→Bool) (d:Int):List ze→Int→Bool
 | [],_=>true
 | x::r,n=>if c x (IntKind.i64.wrap (d+1)) n=true then (if (!(g x (IntKind.i64.wrap (d+1)) n).1)=true then true else vZ g c d r (g x (IntKind.i64.wrap (d+1)) n).2) else false

theorem zfP {g:ze→Int→Int→Bool×Int} {c:ze→Int→Int→Bool} (hg:FK 137 (Ej g c)) {C:cH} (hC:∀ id,1≤id→C.ρ0 id=none) (d:Int) (l:List ze) (hl:l.length≤zC):
  ∀ (k i:Nat) (n:Int),l.length - i=k→i≤l.length→vZ g c d (l.drop i) n=true→Reach (Iz g c) C 137 (zy Tryz.f137 12) (BI d l l.length i n) (fun r h=>avB r=some (xM g d (l.drop i) n).1∧h=[.box [.int .i64 (xM g d (l.drop i) n).2]]):=by
 intro k
 induction k with
 | zero=>
  intro i n hk hi hc
  obtain rfl:i=l.length:=by omega
  refine zk (uO hg) (MM g c) hC (Hx g c _ _ _ _ _) ?_
  simp only [zX,Tr.val_brF,cL]
  exact ⟨rfl,rfl⟩
 | succ k IH=>
  intro i n hk hi hc
  have hlt:i < l.length:=by omega
  refine zk (uO hg) (MM g c) hC (Hx g c _ _ _ _ _) ?_
  rw [dw hlt] at hc ⊢
  rw [vZ] at hc
  have hc1:=nA hc
  simp only [zT hlt,zB hlt,ac l _ hlt,ze.eta,Tr.val_brT,Tr.val_chkT,hc1.1,zD i (by omega)]
  refine kk (fun h=>?_) (fun h=>?_)
  ·rw [xM,if_pos h]; exact ⟨rfl,rfl⟩
  ·rw [xM,if_neg (kJ h)]
   have h2:=hc1.2
   rw [if_neg (kJ h)] at h2
   exact IH (i+1) _ (by omega) (by omega) h2

def Dx (g:ze→Int→Int→Bool×Int) (e:ze) (d n:Int):Bool×Int:=if (bif decide (d > 12) then true else bif decide (IntKind.i64.wrap (n+1) > 60) then true else (↑e.l.length:Int) != dE e.op)=true then (false,IntKind.i64.wrap (n+1)) else if (e.op==[108,105,116])=true then (bif e.s==[] then gr e.v else false,IntKind.i64.wrap (n+1)) else if (e.op==[99,111,108])=true then (bif vR e.v then bif md e.s then !DR e.s else false else false,IntKind.i64.wrap (n+1)) else if (bif !vR e.v then true else !e.s==[])=true then (false,IntKind.i64.wrap (n+1)) else xM g d e.l (IntKind.i64.wrap (n+1))
def He (g:ze→Int→Int→Bool×Int) (c:ze→Int→Int→Bool) (e:ze) (d n:Int):Bool:=if (bif decide (d > 12) then true else bif decide (IntKind.i64.wrap (n+1) > 60) then true else (↑e.l.length:Int) != dE e.op)=true then true else if (e.op==[108,105,116])=true then true else if (e.op==[99,111,108])=true then true else if (bif !vR e.v then true else !e.s==[])=true then true else vZ g c d e.l (IntKind.i64.wrap (n+1))

theorem Um {g:ze→Int→Int→Bool×Int} {c:ze→Int→Int→Bool} (hg:FK 137 (Ej g c)):FK 137 (Ej (Dx g) (He g c)):=by
 refine bA (E:=Iz g c) (MM g c) fun x h0 res hx C hC=>?_
 unfold Vg at hx
 split at hx
 ·rename_i e d u n
  simp only [Tr.val] at hx
  split at hx
  ·rename_i hc
   simp only [ao] at hx
   subst hx
   refine Reach.toBool ?_
   refine zk (n0:=1) (uO hg) (MM g c) hC (zgt g c e d n) ?_
   generalize hy:Dx g e d n=y
   unfold Dx at hy
   unfold He at hc
   repeat' (refine kk (fun hsp=>?_) (fun hsp=>?_) <;> first | (rw [if_pos hsp] at hy hc) | (rw [if_neg (kJ hsp)] at hy hc))
   all_goals subst hy
   ·exact ⟨rfl,rfl⟩
   ·exact ⟨rfl,rfl⟩
   ·exact ⟨rfl,rfl⟩
   ·exact ⟨rfl,rfl⟩
   ·exact Reach.len 73 .expr e.l rfl fun hl=>zfP hg hC d e.l hl _ 0 _ rfl (aV _) hc
  ·simp at hx
 ·simp at hx

mutual
def pY:Nat→ze→Int→Int→Bool×Int
 | 0=>fun _ _ _=>(false,0)
 | n+1=>Dx (pY n)
def pW:Nat→ze→Int→Int→Bool
 | 0=>fun _ _ _=>false
 | n+1=>He (pY n) (pW n)
end
theorem JW:∀ n,FK 137 (Ej (pY n) (pW n))
 | 0=>by
  have h:FK 137 (zU [none,some .expr,some zg] (fun _ _=>.err)):=bA (MM (fun _ _ _=>(false,0)) (fun _ _ _=>false)) (E:=GN) fun x h0 res hx=>by simp at hx
  refine Ay (ι:=Unit) (Gs:=fun _ _ _=>.err) (fun _=>h) fun x h0 res hx=>?_
  unfold Vg at hx
  split at hx
  ·simp [Tr.val,pW] at hx
  ·simp at hx
 | n+1=>Um (JW n)
def F37:zF:=Ej (pY 16) (pW 16)
theorem zah:FK 137 F37:=JW 16

noncomputable def yq:=GN.add 137 F37
theorem qV:zl yq:=yp.add zah

abbrev gw:List (zo×AV):=[([97,110,100],.clo (.func 138) [] []),([111,114],.clo (.func 139) [] []),([110,111,116],.clo (.func 140) [] []),([61],.clo (.func 142) [] []),([60],.clo (.func 143) [] []),([43],.clo (.func 144) [] []),([45],.clo (.func 145) [] []),([110,117,108,108],.clo (.func 146) [] [])]
abbrev zhw:Nat→ah:=fun _=>{ }
theorem zdY:zA yq.P 86 Tryz.f86 0:=aQ (by kernel_rfl)
theorem zgk:(run yq 0 zhw (Func.results Tryz.f86).toList 400 (aB Tryz.f86) (aq (Func.ntmps Tryz.f86) [] [])).val=some (zt.ret (AV.mp 0) [AO.fmap gw]):=by kernel_rfl
def G23:cF []:=fun _ h=>match h with
 | []=>.ok (.mp 0,[.fmap gw])
 | _=>.err
def F23:zF:=zU [] G23
theorem Z7:FK 86 F23:=by
 refine bA zdY fun x h0 res hx C hC=>?_
 unfold G23 at hx
 split at hx
 ·simp only [Tr.val,ao] at hx
  subst hx
  exact nK (n0:=0) qV zdY hC zgk rfl
 ·simp at hx

def Yh (op:zo) (x y:V):V:=if (op==[97,110,100])=true then QH x y else if (op==[111,114])=true then vOr x y else if (op==[110,111,116])=true then H8 x y else if (op==[61])=true then B5 x y else if (op==[60])=true then H6 x y else if (op==[43])=true then H9 x y else if (op==[45])=true then B6 x y else if (op==[110,117,108,108])=true then B7 x y else (0,0,[])
def opC (op:zo):Bool:=if (op==[97,110,100])=true then true else if (op==[111,114])=true then true else if (op==[110,111,116])=true then true else if (op==[61])=true then true else if (op==[60])=true then true else if (op==[43])=true then true else if (op==[45])=true then true else if (op==[110,117,108,108])=true then true else false
def opL (op:zo) (x y:V) (h:List AO):Option zt:=if (op==[97,110,100])=true then some (.ret (zz zf (QH x y)) h) else if (op==[111,114])=true then some (.ret (zz zf (vOr x y)) h) else if (op==[110,111,116])=true then some (.ret (zz zf (H8 x y)) h) else if (op==[61])=true then some (.ret (zz zf (B5 x y)) h) else if (op==[60])=true then some (.ret (zz zf (H6 x y)) h) else if (op==[43])=true then some (.ret (zz zf (H9 x y)) h) else if (op==[45])=true then some (.ret (zz zf (B6 x y)) h) else if (op==[110,117,108,108])=true then some (.ret (zz zf (B7 x y)) h) else none

def Vf (g:List (Sem zi)→List (Sem zf)→ze→V) (c:List (Sem zi)→List (Sem zf)→ze→Bool):cF [none,some .expr]:=fun x h=>match x,h with
 | (.agg [.sl (.pr .str (.pr (.int .i64) .bool)) cols,.sl (.pr (.int .i64) (.pr (.int .i64) .str)) row,.mp 0],e,_),[.fmap [(k1,.clo (.func 138) [] []),(k2,.clo (.func 139) [] []),(k3,.clo (.func 140) [] []),(k4,.clo (.func 142) [] []),(k5,.clo (.func 143) [] []),(k6,.clo (.func 144) [] []),(k7,.clo (.func 145) [] []),(k8,.clo (.func 146) [] [])]]=>
  .chk (k1==[97,110,100]&&(k2==[111,114]&&(k3==[110,111,116]&&(k4==[61]&&(k5==[60]&&(k6==[43]&&(k7==[45]&&(k8==[110,117,108,108])))))))) (.chk (c cols row e) (.ok (zz zf (g cols row e),[.fmap gw])))
 | _,_=>.err
def Ib (g:List (Sem zi)→List (Sem zf)→ze→V) (c:List (Sem zi)→List (Sem zf)→ze→Bool):zF:=zU [none,some .expr] (Vf g c)
noncomputable def Ix (g:List (Sem zi)→List (Sem zf)→ze→V) (c:List (Sem zi)→List (Sem zf)→ze→Bool):bt:=yq.add 87 (Ib g c)
theorem uM {g:List (Sem zi)→List (Sem zf)→ze→V} {c:List (Sem zi)→List (Sem zf)→ze→Bool} (hg:FK 87 (Ib g c)):zl (Ix g c):=qV.add hg
theorem MH (g:List (Sem zi)→List (Sem zf)→ze→V) (c:List (Sem zi)→List (Sem zf)→ze→Bool):zA (Ix g c).P 87 Tryz.f87 2:=aQ (by kernel_rfl)
theorem V5 (g:List (Sem zi)→List (Sem zf)→ze→V) (c:List (Sem zi)→List (Sem zf)→ze→Bool) (cols:LC) (row:LV) (op:zo) (v:V) (s:zo):(run (Ix g c) 1 Yj (Func.results Tryz.f87).toList 600 (aB Tryz.f87) (aq (Func.ntmps Tryz.f87) [AV.agg [AV.sl zi cols,AV.sl zf row,AV.mp 0],zz Sh.expr (.mk op v s [])] [AO.fmap gw])).val=if (op==[108,105,116])=true then some (.ret (zz zf v) [.fmap gw]) else if (op==[99,111,108])=true then (if (bif decide (zM cols s < 0) then true else decide (zM cols s ≥ (↑row.length:Int)))=true then some (.ret (zz zf (0,0,[])) [.fmap gw]) else if zI (zM cols s) row.length=true then some (.ret (zz zf (row.getD (toNat (zM cols s)) (zj zf))) [.fmap gw]) else none) else opL op (0,0,[]) (0,0,[]) [.fmap gw]:=by kernel_rfl
theorem V6 (g:List (Sem zi)→List (Sem zf)→ze→V) (c:List (Sem zi)→List (Sem zf)→ze→Bool) (cols:LC) (row:LV) (op:zo) (v:V) (s:zo) (a:ze):(run (Ix g c) 1 Yj (Func.results Tryz.f87).toList 600 (aB Tryz.f87) (aq (Func.ntmps Tryz.f87) [AV.agg [AV.sl zi cols,AV.sl zf row,AV.mp 0],zz Sh.expr (.mk op v s [a])] [AO.fmap gw])).val=if (op==[108,105,116])=true then some (.ret (zz zf v) [.fmap gw]) else if (op==[99,111,108])=true then (if (bif decide (zM cols s < 0) then true else decide (zM cols s ≥ (↑row.length:Int)))=true then some (.ret (zz zf (0,0,[])) [.fmap gw]) else if zI (zM cols s) row.length=true then some (.ret (zz zf (row.getD (toNat (zM cols s)) (zj zf))) [.fmap gw]) else none) else if c cols row (.mk a.op a.v a.s a.l)=true then opL op (g cols row (.mk a.op a.v a.s a.l)) (0,0,[]) [.fmap gw] else none:=by kernel_rfl
theorem V7 (g:List (Sem zi)→List (Sem zf)→ze→V) (c:List (Sem zi)→List (Sem zf)→ze→Bool) (cols:LC) (row:LV) (op:zo) (v:V) (s:zo) (a b:ze):(run (Ix g c) 1 Yj (Func.results Tryz.f87).toList 600 (aB Tryz.f87) (aq (Func.ntmps Tryz.f87) [AV.agg [AV.sl zi cols,AV.sl zf row,AV.mp 0],zz Sh.expr (.mk op v s [a,b])] [AO.fmap gw])).val=if (op==[108,105,116])=true then some (.ret (zz zf v) [.fmap gw]) else if (op==[99,111,108])=true then (if (bif decide (zM cols s < 0) then true else decide (zM cols s ≥ (↑row.length:Int)))=true then some (.ret (zz zf (0,0,[])) [.fmap gw]) else if zI (zM cols s) row.length=true then some (.ret (zz zf (row.getD (toNat (zM cols s)) (zj zf))) [.fmap gw]) else none) else if c cols row (.mk a.op a.v a.s a.l)=true then (if c cols row (.mk b.op b.v b.s b.l)=true then opL op (g cols row (.mk a.op a.v a.s a.l)) (g cols row (.mk b.op b.v b.s b.l)) [.fmap gw] else none) else none:=by kernel_rfl

theorem ng {Φ:zt→Prop} {c:Bool} {a b:Option zt} (h1:c=true→eZ Φ a) (h2:c=false→eZ Φ b):eZ Φ (if c=true then a else b):=by
 cases c
 ·simpa using h2 rfl
 ·simpa using h1 rfl
theorem rK {E:bt} {C:cH} {k:FuncId} {f:Func} {Q:AV→List AO→Prop} {n n0:Nat} (hE:zl E) (hf:zA E.P k f n) (hC:∀ id,n0≤id→C.ρ0 id=none) {keep:Nat→ah} {fuel:Nat}
  {todo:List Item} {st:St} {o:Option zt} (ht:(run E n0 keep f.results.toList fuel todo st).val=o) (h:eZ (ix E C k Q) o):Reach E C k todo st Q:=
 zk hE hf hC rfl (by rw [ht]; exact h)

theorem rz {E:bt} {C:cH} {op:zo} {x y:V} {h:List AO} (hc:opC op=true):eZ (ix E C 87 (fun r h'=>(r,h')=(zz zf (Yh op x y),h))) (opL op x y h):=by
 generalize hy:Yh op x y=z
 unfold opC at hc
 unfold Yh at hy
 unfold opL
 repeat' (refine ng (fun hsp=>?_) (fun hsp=>?_) <;> first | (rw [if_pos hsp] at hy; try rw [if_pos hsp] at hc) | (rw [if_neg (kJ hsp)] at hy; try rw [if_neg (kJ hsp)] at hc))
 all_goals first | (cases hc; done) | (subst hy; rfl)

def Eg (g:List (Sem zi)→List (Sem zf)→ze→V) (cols:LC) (row:LV):ze→V
 | .mk op v s l=>if (op==[108,105,116])=true then v else
  if (op==[99,111,108])=true then (if (bif decide (zM cols s < 0) then true else decide (zM cols s ≥ (↑row.length:Int)))=true then (0,0,[]) else row.getD (toNat (zM cols s)) (zj zf)) else
  match l with
  | []=>Yh op (0,0,[]) (0,0,[])
  | [a]=>Yh op (g cols row a) (0,0,[])
  | [a,b]=>Yh op (g cols row a) (g cols row b)
  | _=>(0,0,[])
def qD (c:List (Sem zi)→List (Sem zf)→ze→Bool) (cols:LC) (row:LV):ze→Bool
 | .mk _ _ _ (_::_::_::_)=>false
 | .mk op _ s l=>if (op==[108,105,116])=true then true else
  if (op==[99,111,108])=true then (if (bif decide (zM cols s < 0) then true else decide (zM cols s ≥ (↑row.length:Int)))=true then true else zI (zM cols s) row.length) else
  match l with
  | []=>opC op
  | [a]=>if c cols row a=true then opC op else false
  | [a,b]=>if c cols row a=true then (if c cols row b=true then opC op else false) else false
  | _=>false

theorem Uc {g:List (Sem zi)→List (Sem zf)→ze→V} {c:List (Sem zi)→List (Sem zf)→ze→Bool} (hg:FK 87 (Ib g c)):FK 87 (Ib (Eg g) (qD c)):=by
 refine bA (E:=Ix g c) (MH g c) fun x h0 res hx C hC=>?_
 unfold Vf at hx
 split at hx
 ·rename_i cols row e u k1 k2 k3 k4 k5 k6 k7 k8
  simp only [Tr.val] at hx
  split at hx
  ·rename_i hk
   split at hx
   ·rename_i hc
    simp only [aL,eT] at hk
    obtain ⟨rfl,rfl,rfl,rfl,rfl,rfl,rfl,rfl⟩:=hk
    simp only [ao] at hx
    subst hx
    obtain ⟨op,v,s,l⟩:=e
    match l,hc with
    | [],hc=>
     refine rK (n0:=1) (uM hg) (MH g c) hC (V5 g c cols row op v s) ?_
     generalize hy:Eg g cols row (.mk op v s [])=z
     rw [qD] at hc
     rw [Eg] at hy
     repeat' (first | (subst hy; exact rz hc) | refine ng (fun hsp=>?_) (fun hsp=>?_) <;> first | (first | rw [if_pos hsp] at hy hc | rw [if_pos hsp] at hc | rw [if_pos hsp] at hy) | (first | rw [if_neg (kJ hsp)] at hy hc | rw [if_neg (kJ hsp)] at hc | rw [if_neg (kJ hsp)] at hy) | skip)
     all_goals first | (subst hy; exact rz hc) | (subst hy; rfl) | (rw [hc] at hsp; cases hsp)
    | [a],hc=>
     refine rK (n0:=1) (uM hg) (MH g c) hC (V6 g c cols row op v s a) ?_
     generalize hy:Eg g cols row (.mk op v s [a])=z
     rw [qD] at hc
     rw [Eg] at hy
     simp only [ze.eta]
     repeat' (first | (subst hy; exact rz hc) | refine ng (fun hsp=>?_) (fun hsp=>?_) <;> first | (first | rw [if_pos hsp] at hy hc | rw [if_pos hsp] at hc | rw [if_pos hsp] at hy) | (first | rw [if_neg (kJ hsp)] at hy hc | rw [if_neg (kJ hsp)] at hc | rw [if_neg (kJ hsp)] at hy) | skip)
     all_goals first | (subst hy; exact rz hc) | (subst hy; rfl) | (cases hc; done) | (rw [hc] at hsp; cases hsp)
    | [a,b],hc=>
     refine rK (n0:=1) (uM hg) (MH g c) hC (V7 g c cols row op v s a b) ?_
     generalize hy:Eg g cols row (.mk op v s [a,b])=z
     rw [qD] at hc
     rw [Eg] at hy
     simp only [ze.eta]
     repeat' (first | (subst hy; exact rz hc) | refine ng (fun hsp=>?_) (fun hsp=>?_) <;> first | (first | rw [if_pos hsp] at hy hc | rw [if_pos hsp] at hc | rw [if_pos hsp] at hy) | (first | rw [if_neg (kJ hsp)] at hy hc | rw [if_neg (kJ hsp)] at hc | rw [if_neg (kJ hsp)] at hy) | skip)
     all_goals first | (subst hy; exact rz hc) | (subst hy; rfl) | (cases hc; done) | (rw [hc] at hsp; cases hsp)
    | _::_::_::_,hc=>
     cases hc
   ·simp at hx
  ·simp at hx
 ·simp at hx

mutual
def Gk:Nat→List (Sem zi)→List (Sem zf)→ze→V
 | 0=>fun _ _ _=>(0,0,[])
 | n+1=>Eg (Gk n)
def qC:Nat→List (Sem zi)→List (Sem zf)→ze→Bool
 | 0=>fun _ _ _=>false
 | n+1=>qD (qC n)
end
theorem JU:∀ n,FK 87 (Ib (Gk n) (qC n))
 | 0=>by
  have h:FK 87 (zU [none,some .expr] (fun _ _=>.err)):=bA (MH (fun _ _ _=>(0,0,[])) (fun _ _ _=>false)) (E:=yq) fun x h0 res hx=>by simp at hx
  refine Ay (ι:=Unit) (Gs:=fun _ _ _=>.err) (fun _=>h) fun x h0 res hx=>?_
  unfold Vf at hx
  split at hx
  ·simp [Tr.val,qC] at hx
  ·simp at hx
 | n+1=>Uc (JU n)
def F24:zF:=Ib (Gk 16) (qC 16)
theorem Z8:FK 87 F24:=JU 16

noncomputable def yr:=yq.addL [(86,F23),(87,F24)]
theorem qW:zl yr:=qV.addL <| fc Z7 <| fc Z8 jf

abbrev zhv:Nat→ah:=fun _=>{ }
theorem zdX:zA (yr).P 85 Tryz.f85 1:=aQ (by kernel_rfl)
theorem zgj (x0:Sem Sh.expr):rn yr 0 zhv Tryz.f85 [zz Sh.expr x0] []=Tr.chk (pW 16 (zE x0) 1 0) (Tr.ok (zt.ret (AV.bool (pY 16 (zE x0) 1 0).1) [])):=by kernel_rfl
def j7 (x0:Sem Sh.expr):Sem Sh.bool:=(pY 16 x0 1 0).1
def si (x0:Sem Sh.expr):Bool:=if pW 16 x0 1 0=true then true else false
def F22:zF:=zG [Sh.expr] [Sh.bool] (fun x=>si x.1) fun x=>(j7 x.1,())
theorem RQ:FK 85 F22:=by
 refine zQ (zdX) fun x hc C hC=>?_
 unfold si at hc
 refine zk qW (zdX) (fun id _=>hC id) (zgj x.1) ?_
 generalize hy:j7 x.1=y
 unfold j7 at hy
 try simp only [ze.eta]
 repeat' (first | with_reducible refine eW hy hc (fun _ hy hc=>?_) (fun _ hy hc=>?_) | with_reducible refine ba hy (fun _ hy=>?_) (fun _ hy=>?_) | with_reducible refine bv hc (fun hc=>?_) | with_reducible refine zr ?_)
 all_goals (subst hy; first | rfl)

abbrev kp7:Nat→ah:=fun _=>{ }
theorem ok7:zA (yr).P 27 Tryz.f27 1:=aQ (by kernel_rfl)
theorem go7 (x0:Sem Sh.expr):rn yr 0 kp7 Tryz.f27 [zz Sh.expr x0] []=Tr.chk (pN 16 (zE x0) 14 80) (Tr.ok (zt.ret (AV.agg [AV.str (ze.op (lu 16 (zE x0) 14 80).1),ai (ze.v (lu 16 (zE x0) 14 80).1).1,ai (ze.v (lu 16 (zE x0) 14 80).1).2.1,AV.str (ze.v (lu 16 (zE x0) 14 80).1).2.2,AV.str (ze.s (lu 16 (zE x0) 14 80).1),AV.sl Sh.expr (ze.l (lu 16 (zE x0) 14 80).1)]) [])):=by kernel_rfl
def dX (x0:Sem Sh.expr):Sem Sh.expr:=ze.mk (ze.op (lu 16 x0 14 80).1) (ze.v (lu 16 x0 14 80).1) (ze.s (lu 16 x0 14 80).1) (ze.l (lu 16 x0 14 80).1)
def GM (x0:Sem Sh.expr):Bool:=if pN 16 x0 14 80=true then true else false
def F7:zF:=zG [Sh.expr] [Sh.expr] (fun x=>GM x.1) fun x=>(dX x.1,())
theorem zaO:FK 27 F7:=by
 refine zQ (ok7) fun x hc C hC=>?_
 unfold GM at hc
 refine zk qW (ok7) (fun id _=>hC id) (go7 x.1) ?_
 generalize hy:dX x.1=y
 unfold dX at hy
 try simp only [ze.eta]
 repeat' (first | with_reducible refine eW hy hc (fun _ hy hc=>?_) (fun _ hy hc=>?_) | with_reducible refine ba hy (fun _ hy=>?_) (fun _ hy=>?_) | with_reducible refine bv hc (fun hc=>?_) | with_reducible refine zr ?_)
 all_goals (subst hy; first | rfl)

noncomputable def yu:=yr.addL [(85,F22),(27,F7)]
theorem qX:zl yu:=qW.addL <| fc RQ <| fc zaO jf

abbrev zhx:Nat→ah:=fun _=>{ }
theorem zd1:zA (yu).P 83 Tryz.f83 2:=aQ (by kernel_rfl)
theorem zgo (x0:Sem Sh.expr) (x1:Sem zi.sl):rn yu 0 zhx Tryz.f83 [zz Sh.expr x0,zz zi.sl x1] []=Tr.chk (si (zE x0)) (Tr.br (!j7 (zE x0)) (Tr.ok (zt.ret (AV.tup [ai 0,ai 1]) [])) (Tr.chk (iX 16 (zE x0) x1) (Tr.ok (zt.ret (AV.tup [ai (fE 16 (zE x0) x1).1,ai (fE 16 (zE x0) x1).2]) [])))):=by kernel_rfl
def bg (x0:Sem Sh.expr) (x1:Sem zi.sl):Sem zg×Sem zg:=if (!j7 x0)=true then (0,1) else ((fE 16 x0 x1).1,(fE 16 x0 x1).2)
def AU (x0:Sem Sh.expr) (x1:Sem zi.sl):Bool:=if si x0=true then if (!j7 x0)=true then true else if iX 16 x0 x1=true then true else false else false
def F30:zF:=zG [Sh.expr,zi.sl] [zg,zg] (fun x=>AU x.1 x.2.1) fun x=>((bg x.1 x.2.1).1,(bg x.1 x.2.1).2,())
theorem RR:FK 83 F30:=by
 refine zQ (zd1) fun x hc C hC=>?_
 unfold AU at hc
 refine zk qX (zd1) (fun id _=>hC id) (zgo x.1 x.2.1) ?_
 generalize hy:bg x.1 x.2.1=y
 unfold bg at hy
 try simp only [ze.eta]
 repeat' (first | with_reducible refine eW hy hc (fun _ hy hc=>?_) (fun _ hy hc=>?_) | with_reducible refine ba hy (fun _ hy=>?_) (fun _ hy=>?_) | with_reducible refine bv hc (fun hc=>?_) | with_reducible refine zr ?_)
 all_goals (subst hy; first | rfl)

abbrev zht:Nat→ah:=fun _=>{ }
theorem zdQ:zA (yu).P 48 Tryz.f48 3:=aQ (by kernel_rfl)
theorem zgb (x0:Sem Sh.expr) (x1:Sem zi.sl) (x2:Sem zf.sl):rn yu 0 zht Tryz.f48 [zz Sh.expr x0,zz zi.sl x1,zz zf.sl x2] []=Tr.chk (si (zE x0)) (Tr.br (!j7 (zE x0)) (Tr.ok (zt.ret (AV.agg [ai 0,ai 0,AV.str []]) [])) (Tr.chk ([97,110,100]==[97,110,100]&&([111,114]==[111,114]&&([110,111,116]==[110,111,116]&&([61]==[61]&&([60]==[60]&&([43]==[43]&&([45]==[45]&&[110,117,108,108]==[110,117,108,108]))))))) (Tr.chk (qC 16 x1 x2 (zE x0)) (Tr.ok (zt.ret (AV.agg [ai (Gk 16 x1 x2 (zE x0)).1,ai (Gk 16 x1 x2 (zE x0)).2.1,AV.str (Gk 16 x1 x2 (zE x0)).2.2]) []))))):=by kernel_rfl
def hZ (x0:Sem Sh.expr) (x1:Sem zi.sl) (x2:Sem zf.sl):Sem zf:=if (!j7 x0)=true then (0,0,[]) else Gk 16 x1 x2 x0
def AT (x0:Sem Sh.expr) (x1:Sem zi.sl) (x2:Sem zf.sl):Bool:=if si x0=true then if (!j7 x0)=true then true else if ([97,110,100]==[97,110,100]&&([111,114]==[111,114]&&([110,111,116]==[110,111,116]&&([61]==[61]&&([60]==[60]&&([43]==[43]&&([45]==[45]&&[110,117,108,108]==[110,117,108,108])))))))=true then if qC 16 x1 x2 x0=true then true else false else false else false
def F11:zF:=zG [Sh.expr,zi.sl,zf.sl] [zf] (fun x=>AT x.1 x.2.1 x.2.2.1) fun x=>(hZ x.1 x.2.1 x.2.2.1,())
theorem RL:FK 48 F11:=by
 refine zQ (zdQ) fun x hc C hC=>?_
 unfold AT at hc
 refine zk qX (zdQ) (fun id _=>hC id) (zgb x.1 x.2.1 x.2.2.1) ?_
 generalize hy:hZ x.1 x.2.1 x.2.2.1=y
 unfold hZ at hy
 try simp only [ze.eta]
 repeat' (first | with_reducible refine eW hy hc (fun _ hy hc=>?_) (fun _ hy hc=>?_) | with_reducible refine ba hy (fun _ hy=>?_) (fun _ hy=>?_) | with_reducible refine bv hc (fun hc=>?_) | with_reducible refine zr ?_)
 all_goals (subst hy; first | rfl)

noncomputable def Sa:=yu.addL [(83,F30),(48,F11)]
theorem IF:zl Sa:=qX.addL <| fc RR <| fc RL jf

theorem lN (d:Int) (h1:-1000≤d) (h2:d≤1000):IntKind.i64.wrap d=d:=by
 rw [ue]; omega

theorem yZ {g:Sem Sh.expr→Sem zg→Sem zg→Sem Sh.expr×Sem zg} {c:Sem Sh.expr→Sem zg→Sem zg→Bool} {i1:Int} (h:∀ x n,0 < i1→c x (IntKind.i64.wrap (i1 - 1)) n=true) {a0:zo} {a1 a2:Int} {a3 a4 b0:zo} {b1 b2:Int} {b3 b4 d0:zo} {d1 d2:Int} {d3 d4:zo}:
  ∀ (l:List (Sem Sh.expr)) (i n:Int) (acc:List (Sem Sh.expr)),(acc.length:Int)≤i→cR g c i1 a0 a1 a2 a3 a4 b0 b1 b2 b3 b4 d0 d1 d2 d3 d4 l i n acc=true
 | [],_,_,_,_=>rfl
 | x::r,i,n,acc,hi=>by
  rw [cR]
  split
  ·rename_i hk
   have h3:i < 3∧i1 > 0:=by
    cases h1:decide (i < 3) <;> cases h2:decide (i1 > 0) <;> simp_all
   rw [if_pos (h x n h3.2),if_pos (by simp; omega)]
   exact yZ h r (i+1) _ _ (by simp; omega)
  ·rfl

theorem Fc {g:Sem Sh.expr→Sem zg→Sem zg→Sem Sh.expr×Sem zg} {c:Sem Sh.expr→Sem zg→Sem zg→Bool} {i1:Int} (h:∀ x n,0 < i1→c x (IntKind.i64.wrap (i1 - 1)) n=true) (e:ze) (n:Int):Dg g c e i1 n=true:=by
 have hl:=fun a0 a1 a2 a3 a4 b0 b1 b2 b3 b4 d0 d1 d2 d3 d4 l n=>yZ (g:=g) h (a0:=a0) (a1:=a1) (a2:=a2) (a3:=a3) (a4:=a4) (b0:=b0) (b1:=b1) (b2:=b2) (b3:=b3) (b4:=b4) (d0:=d0) (d1:=d1) (d2:=d2) (d3:=d3) (d4:=d4) l 0 n [] (by simp)
 unfold Dg
 repeat' split
 all_goals first
  | exact hl _ _ _ _ _ _ _ _ _ _ _ _ _ _ _ _ _
  | (exfalso; simp only [ae,aL,not_and] at *; omega)

theorem vK:∀ (N:Nat) (e:ze) (d n:Int),0≤d→d < N→N≤100→pN N e d n=true
 | 0,_,_,_,h1,h2,_=>by omega
 | N+1,e,d,n,h1,h2,h3=>by
  rw [pN]
  refine Fc (fun x m hd=>?_) e n
  rw [lN _ (by omega) (by omega)]
  exact vK N x (d - 1) m (by omega) (by omega) (by omega)

theorem v6 {g:ze→Int→Int→Bool×Int} {c:ze→Int→Int→Bool} {d:Int} (h:∀ x n,c x (IntKind.i64.wrap (d+1)) n=true):∀ (l:List ze) (n:Int),vZ g c d l n=true
 | [],_=>rfl
 | x::r,n=>by
  rw [vZ,if_pos (h x n)]
  split
  ·rfl
  ·exact v6 h r _

theorem vY:∀ (N:Nat) (e:ze) (d n:Int),0≤d→d≤13→14≤d+N→pW N e d n=true
 | 0,_,_,_,_,_,_=>by omega
 | N+1,e,d,n,h1,h2,h3=>by
  rw [pW]
  unfold He
  by_cases hd:d > 12
  ·simp [hd]
  ·have hl:vZ (pY N) (pW N) d e.l (IntKind.i64.wrap (n+1))=true:=v6 (fun x m=>by
    rw [lN _ (by omega) (by omega)]
    exact vY N x (d+1) m (by omega) (by omega) (by omega)) _ _
   repeat' split
   all_goals first | rfl | exact hl

abbrev zhQ:ze:=.mk [] (0,0,[]) [] []

theorem F4 (N:Nat) (e:ze):lG (N+1) e zhQ=true:=by
 rw [lG]
 unfold BN
 have hl:yW (sD N) (lG N) e.l []=true:=by
  unfold yW
  split
  ·rfl
  ·cases e.l <;> rfl
 show (bif e.op==[] then bif eqV e.v (0,0,[]) then bif e.s==[] then yW (sD N) (lG N) e.l [] else true else true else true)=true
 rw [hl]
 cases e.op==[] <;> cases eqV e.v (0,0,[]) <;> cases e.s==[] <;> rfl

theorem lx {α:Type} (p:α→Bool):∀ (l:List α) (i:Nat),zL p l i=-1∨((i:Int)≤zL p l i∧zL p l i < i+l.length)
 | [],_=>.inl rfl
 | x::r,i=>by
  unfold zL
  split
  ·exact .inr ⟨by omega,by simp; omega⟩
  ·rcases lx p r (i+1) with h | ⟨h1,h2⟩
   ·exact .inl h
   ·exact .inr ⟨by omega,by simp; omega⟩

theorem lh (l:List (Sem zi)) (s:zo):zM l s=-1∨(0≤zM l s∧zM l s < l.length):=by
 have:=lx (fun c:Sem zi=>c.1==s) l 0
 unfold zM
 simpa using this

theorem mP (op:zo):(dE op=0∧(op=[108,105,116]∨op=[99,111,108]))∨(dE op=1∧(op=[110,111,116]∨op=[110,117,108,108]))∨
  (dE op=2∧(op=[97,110,100]∨op=[111,114]∨op=[61]∨op=[60]∨op=[43]∨op=[45]))∨dE op=-1:=by
 unfold dE HB
 simp only [X1]
 repeat' split
 all_goals simp_all

theorem rx {g:ze→Int→Int→Bool×Int} {e:ze} {d n:Int} (h:(Dx g e d n).1=true):(e.l.length:Int)=dE e.op∧
  ((e.op=[108,105,116]∨e.op=[99,111,108])∨(xM g d e.l (IntKind.i64.wrap (n+1))).1=true):=by
 unfold Dx at h
 split at h
 ·cases h
 ·rename_i h1
  have hl:(e.l.length:Int)=dE e.op:=by
   cases h2:decide (d > 12) <;> cases h3:decide (IntKind.i64.wrap (n+1) > 60) <;> simp_all
  refine ⟨hl,?_⟩
  split at h
  ·rename_i h2; exact .inl (.inl (by simpa using h2))
  ·split at h
   ·rename_i h2; exact .inl (.inr (by simpa using h2))
   ·split at h
    ·cases h
    ·exact .inr h

theorem pX {g:ze→Int→Int→Bool×Int} {d:Int}:∀ (l:List ze) (n:Int),(xM g d l n).1=true→∀ x∈l,∃ m,(g x (IntKind.i64.wrap (d+1)) m).1=true
 | [],_,_,_,hx=>by simp at hx
 | y::r,n,h,x,hx=>by
  rw [xM] at h
  split at h
  ·cases h
  ·rename_i hy
   rcases cY.1 hx with rfl | hx
   ·exact ⟨n,by simpa using hy⟩
   ·exact pX r _ h x hx

theorem sM {g:ze→List (Sem zi)→Int×Int} {c:ze→List (Sem zi)→Bool} {cols:List (Sem zi)} {op:zo} {a1 a2:Int} {a3 a4:zo} {w:List ze}:
    ∀ (l:List ze) (i:Int) (acc:List Int),(∀ x∈l,c x cols=true)→((acc.length:Int)+l.length)=dE op→eR g c cols op a1 a2 a3 a4 w l i acc=true
  | [], i,acc,_,hp=>by
    have hp:(acc.length:Int)=dE op:=by simpa using hp
    have hcp:decide (zM cols a4 < 0)=true∨zI (zM cols a4) cols.length=true:=by
      rcases lh cols a4 with h | ⟨h1,h2⟩
      · exact .inl (by rw [h]; rfl)
      · exact .inr (by simp [zI,h1,h2])
    have h2:op=[61]∨op=[60]→acc.length=2:=by
      rintro (rfl | rfl)
      · have:dE [61]=2:=by decide
        omega
      · have:dE [60]=2:=by decide
        omega
    unfold eR
    repeat' split
    all_goals first
      | rfl
      | (exfalso; rcases hcp with h | h <;> simp_all; done)
      | (exfalso
         rename_i h7 h8
         have h9:=h2 (by simp_all)
         rw [h9] at h8
         exact h8 (by cases hA:(acc.getD (toNat 0) (zj zg)==acc.getD (toNat 1) (zj zg)) <;> cases hB:(acc.getD (toNat 0) (zj zg)==0) <;> rfl))
  | x :: r,i,acc,hc,hp=>by
    have hle:dE op≤2:=by rcases mP op with h | h | h | h <;> omega
    rw [eR,if_pos (hc x (by simp))]
    split
    · rfl
    · rw [if_pos (by simp at hp ⊢; omega)]
      exact sM r (i+1) _ (fun y hy=>hc y (by simp [hy])) (by simp at hp ⊢; omega)

theorem qB:∀ (N:Nat) (e:ze) (d n:Int) (cols:List (Sem zi)),(pY N e d n).1=true→iX N e cols=true
 | 0,_,_,_,_,h=>by cases h
 | N+1,e,d,n,cols,h=>by
  rw [pY] at h
  obtain ⟨hl,h2⟩:=rx h
  rw [iX]
  unfold tO
  refine sM e.l 0 [] (fun x hx=>?_) (by simpa using hl)
  rcases h2 with h2 | h2
  ·exfalso
   have:dE e.op=0:=by
    rcases h2 with h2 | h2 <;> rw [h2] <;> decide
   rw [this] at hl
   have:e.l=[]:=Ct (by omega)
   rw [this] at hx; simp at hx
  ·obtain ⟨m,hm⟩:=pX e.l _ h2 x hx
   exact qB N x _ _ cols hm

theorem xj:∀ (N:Nat) (e:ze) (d n:Int) (cols:List (Sem zi)) (row:List (Sem zf)),(pY N e d n).1=true→qC N cols row e=true
 | 0,_,_,_,_,_,h=>by cases h
 | N + 1,.mk op v s l,d,n,cols,row,h=>by
  rw [pY] at h
  obtain ⟨hl,h2⟩:=rx h
  have hl:(l.length:Int)=dE op:=hl
  have h2:(op=[108,105,116]∨op=[99,111,108])∨(xM (pY N) d l (IntKind.i64.wrap (n+1))).1=true:=h2
  have hx:∀ x∈l,(¬ (op=[108,105,116]∨op=[99,111,108]))→qC N cols row x=true:=by
   intro x hx hno
   rcases h2 with h2 | h2
   ·exact (hno h2).elim
   ·obtain ⟨m,hm⟩:=pX l _ h2 x hx
    exact xj N x _ _ cols row hm
  have hcol:(if (bif decide (zM cols s < 0) then true else decide (zM cols s ≥ (↑row.length:Int)))=true then true else zI (zM cols s) row.length)=true:=by
   split
   ·rfl
   ·rename_i hh
    have h1:0≤zM cols s∧zM cols s < row.length:=by
     cases hq:decide (zM cols s < 0)
     ·rw [hq] at hh
      simp at hq hh
      exact ⟨hq,hh⟩
     ·rw [hq] at hh; simp at hh
    simp [zI,h1.1,h1.2]
  rw [qC]
  rcases mP op with ⟨hp,ho⟩ | ⟨hp,ho⟩ | ⟨hp,ho⟩ | hp
  ·have:l=[]:=Ct (by omega)
   subst this
   rcases ho with rfl | rfl
   ·rfl
   ·rw [qD]; exact hcol
  ·match l,hl,hx with
   | [a],_,hx=>
    rcases ho with rfl | rfl
    ·rw [qD]; exact (if_pos (hx a (by simp) (by decide))).trans rfl
    ·rw [qD]; exact (if_pos (hx a (by simp) (by decide))).trans rfl
   | [],hl,_=>simp at hl; omega
   | _::_::_,hl,_=>simp at hl; omega
  ·match l,hl,hx with
   | [a,b],_,hx=>
    rcases ho with rfl | rfl | rfl | rfl | rfl | rfl <;>
     (rw [qD]; exact (if_pos (hx a (by simp) (by decide))).trans ((if_pos (hx b (by simp) (by decide))).trans rfl))
   | [],hl,_=>simp at hl; omega
   | [_],hl,_=>simp at hl; omega
   | _::_::_::_,hl,_=>simp at hl; omega
  ·omega

theorem oO (e:ze):si e=true:=by
 unfold si
 rw [if_pos (vY 16 e 1 0 (by omega) (by omega) (by omega))]
theorem EN (e:ze):GM e=true:=by
 unfold GM
 rw [if_pos (vK 16 e 14 80 (by omega) (by omega) (by omega))]
theorem CR (e:ze) (cols:List (Sem zi)):AU e cols=true:=by
 unfold AU
 rw [if_pos (oO e)]
 split
 ·rfl
 ·rename_i h
  rw [if_pos (qB 16 e 1 0 cols (by simpa [j7] using h))]
theorem CQ (e:ze) (cols:List (Sem zi)) (row:List (Sem zf)):AT e cols row=true:=by
 unfold AT
 rw [if_pos (oO e)]
 split
 ·rfl
 ·rename_i h
  rw [if_pos (by decide),if_pos (xj 16 e 1 0 cols row (by simpa [j7] using h))]

def Y7:zF:=aw [Sh.expr] [Sh.bool] fun x=>(j7 x.1,())
theorem T9:FK 85 Y7:=eI RQ fun x=>oO x.1
def F7t:zF:=aw [Sh.expr] [Sh.expr] fun x=>(dX x.1,())
theorem zaV:FK 27 F7t:=eI zaO fun x=>EN x.1
def Zb:zF:=aw [Sh.expr,zi.sl] [zg,zg] fun x=>((bg x.1 x.2.1).1,(bg x.1 x.2.1).2,())
theorem Uf:FK 83 Zb:=eI RR fun x=>CR x.1 x.2.1
def YB:zF:=aw [Sh.expr,zi.sl,zf.sl] [zf] fun x=>(hZ x.1 x.2.1 x.2.2.1,())
theorem Tz:FK 48 YB:=eI RL fun x=>CQ x.1 x.2.1 x.2.2.1

noncomputable def lV:=Sa.addL [(85,Y7),(27,F7t),(83,Zb),(48,YB)]
theorem gF:zl lV:=IF.addL <| fc T9 <| fc zaV <| fc Uf <| fc Tz jf

abbrev zhu:Nat→ah:=fun _=>{ }
theorem zdV:zA (lV).P 75 Tryz.f75 2:=aQ (by kernel_rfl)
theorem zgh (x0:Sem Sh.expr) (x1:Sem zi.sl):rn lV 0 zhu Tryz.f75 [zz Sh.expr x0,zz zi.sl x1] []=Tr.chk (lG 16 (zE x0) (ze.mk [] (0,0,[]) [] [])) (Tr.br (sD 16 (zE x0) (ze.mk [] (0,0,[]) [] [])) (Tr.ok (zt.ret (ai 0) [])) (Tr.br (bif (bg (zE x0) x1).2==0 then bif (bg (zE x0) x1).1 != 3 then (bg (zE x0) x1).1 != 0 else false else false) (Tr.ok (zt.ret (ai 5) [])) (Tr.ok (zt.ret (ai (bg (zE x0) x1).2) [])))):=by kernel_rfl
def fC (x0:Sem Sh.expr) (x1:Sem zi.sl):Sem zg:=(if sD 16 x0 (ze.mk [] (0,0,[]) [] [])=true then 0 else if (bif (bg x0 x1).2==0 then bif (bg x0 x1).1 != 3 then (bg x0 x1).1 != 0 else false else false)=true then 5 else (bg x0 x1).2)
def tI (x0:Sem Sh.expr) (_:Sem zi.sl):Bool:=(if lG 16 x0 (ze.mk [] (0,0,[]) [] [])=true then true else false)
def F19:zF:=zG [Sh.expr,zi.sl] [zg] (fun x=>tI x.1 x.2.1) fun x=>(fC x.1 x.2.1,())
theorem RP:FK 75 F19:=by
 refine zQ (zdV) fun x hc C hC=>?_
 unfold tI at hc
 refine zk gF (zdV) (fun id _=>hC id) (zgh x.1 x.2.1) ?_
 generalize hy:fC x.1 x.2.1=y
 unfold fC at hy
 try simp only [ze.eta]
 repeat' (first | with_reducible refine eW hy hc (fun _ hy hc=>?_) (fun _ hy hc=>?_) | with_reducible refine ba hy (fun _ hy=>?_) (fun _ hy=>?_) | with_reducible refine bv hc (fun hc=>?_) | with_reducible refine zr ?_)
 all_goals (subst hy; first | rfl)

abbrev kp5:Nat→ah:=fun j=>if j=3 then { slots:=[1,2,3,4],prom:=[(3,some 3,zg)] } else if j=7 then { slots:=[1,2,3,5],prom:=[(3,some 4,zq)] } else { }
abbrev NE (i4:Int) (ja0:TS) (ja1:LC) (ja2:Sem zg) (ja3:LI) (ja4:LF) (ja5:zo) (ja6:Int) (ja7:Int) (ja8:zo) (ja9:zo) (ja10:LX) (jb0:List UInt8) (jb2:Int) (jb5:List UInt8) (jb6:Int) (jb7:Int) (jb8:List UInt8) (jb9:List UInt8) (jc0:TS) (jc1:LC) (jc2:Sem zg) (jc5:zo) (jc6:Int) (jc7:Int) (jc8:zo) (jc9:zo) (jc10:LX) (lh_3:LI):St:={ tmps:=(tm 70 [(1,AV.ptr 0 0),(2,AV.ptr 1 0),(3,AV.ptr 2 0),(4,ai i4)]),heap:=[AO.box [AV.str ja0,AV.sl zi ja1,ai ja2,AV.sl zg ja3,AV.sl zq ja4,AV.str ja5,ai ja6,ai ja7,AV.str ja8,AV.str ja9,AV.sl Sh.expr ja10],AO.box [AV.str jb0,AV.nils,ai jb2,AV.nils,AV.nils,AV.str jb5,ai jb6,ai jb7,AV.str jb8,AV.str jb9,AV.nils],AO.box [AV.str jc0,AV.sl zi jc1,ai jc2,AV.vec 3,AV.nils,AV.str jc5,ai jc6,ai jc7,AV.str jc8,AV.str jc9,AV.sl Sh.expr jc10],AO.vec zg lh_3] }
theorem Yg:zA (lV).P 63 Tryz.f63 1:=aQ (by kernel_rfl)
theorem go5 (x0:Sem zx):rn lV 0 kp5 Tryz.f63 [zz zx x0] []=Tr.ok (zt.head 3 (zy Tryz.f63 3) (NE 0 x0.1 x0.2.1 x0.2.2.1 x0.2.2.2.1 x0.2.2.2.2.1 (ze.op x0.2.2.2.2.2) (ze.v x0.2.2.2.2.2).1 (ze.v x0.2.2.2.2.2).2.1 (ze.v x0.2.2.2.2.2).2.2 (ze.s x0.2.2.2.2.2) (ze.l x0.2.2.2.2.2) [] 0 [] 0 0 [] [] (wR x0.1) (mJ x0.2.1) x0.2.2.1 (ze.op (dX (zE x0.2.2.2.2.2))) (ze.v (dX (zE x0.2.2.2.2.2))).1 (ze.v (dX (zE x0.2.2.2.2.2))).2.1 (ze.v (dX (zE x0.2.2.2.2.2))).2.2 (ze.s (dX (zE x0.2.2.2.2.2))) (ze.l (dX (zE x0.2.2.2.2.2))) [])):=by kernel_rfl
abbrev NF (i5:Int) (ja0:TS) (ja1:LC) (ja2:Sem zg) (ja3:LI) (ja4:LF) (ja5:zo) (ja6:Int) (ja7:Int) (ja8:zo) (ja9:zo) (ja10:LX) (jb0:List UInt8) (jb2:Int) (jb5:List UInt8) (jb6:Int) (jb7:Int) (jb8:List UInt8) (jb9:List UInt8) (jc0:TS) (jc1:LC) (jc2:Sem zg) (jc5:zo) (jc6:Int) (jc7:Int) (jc8:zo) (jc9:zo) (jc10:LX) (lh_3:LI) (lh_4:LF):St:={ tmps:=(tm 70 [(1,AV.ptr 0 0),(2,AV.ptr 1 0),(3,AV.ptr 2 0),(5,ai i5)]),heap:=[AO.box [AV.str ja0,AV.sl zi ja1,ai ja2,AV.sl zg ja3,AV.sl zq ja4,AV.str ja5,ai ja6,ai ja7,AV.str ja8,AV.str ja9,AV.sl Sh.expr ja10],AO.box [AV.str jb0,AV.nils,ai jb2,AV.nils,AV.nils,AV.str jb5,ai jb6,ai jb7,AV.str jb8,AV.str jb9,AV.nils],AO.box [AV.str jc0,AV.sl zi jc1,ai jc2,AV.vec 3,AV.vec 4,AV.str jc5,ai jc6,ai jc7,AV.str jc8,AV.str jc9,AV.sl Sh.expr jc10],AO.vec zg lh_3,AO.vec zq lh_4] }
theorem S1 (i4:Int) (ja0:TS) (ja1:LC) (ja2:Sem zg) (ja3:LI) (ja4:LF) (ja5:zo) (ja6:Int) (ja7:Int) (ja8:zo) (ja9:zo) (ja10:LX) (jb0:List UInt8) (jb2:Int) (jb5:List UInt8) (jb6:Int) (jb7:Int) (jb8:List UInt8) (jb9:List UInt8) (jc0:TS) (jc1:LC) (jc2:Sem zg) (jc5:zo) (jc6:Int) (jc7:Int) (jc8:zo) (jc9:zo) (jc10:LX) (lh_3:LI):rh lV 0 kp5 Tryz.f63 3 (NE i4 ja0 ja1 ja2 ja3 ja4 ja5 ja6 ja7 ja8 ja9 ja10 jb0 jb2 jb5 jb6 jb7 jb8 jb9 jc0 jc1 jc2 jc5 jc6 jc7 jc8 jc9 jc10 lh_3)=Tr.br (bif decide (i4 < (↑ja3.length:Int)) then decide (i4 < 10) else false) (Tr.chk (zI i4 ja3.length) (Tr.chk (decide (lh_3.length+[ja3.getD i4.toNat (zj zg)].length≤1073741824)) (Tr.ok (zt.head 3 (zy Tryz.f63 3) (NE (IntKind.i64.wrap (i4+1)) ja0 ja1 ja2 ja3 ja4 ja5 ja6 ja7 ja8 ja9 ja10 jb0 jb2 jb5 jb6 jb7 jb8 jb9 jc0 jc1 jc2 jc5 jc6 jc7 jc8 jc9 jc10 (lh_3++[ja3.getD i4.toNat (zj zg)])))))) (Tr.ok (zt.head 7 (zy Tryz.f63 7) (NF 0 ja0 ja1 ja2 ja3 ja4 ja5 ja6 ja7 ja8 ja9 ja10 jb0 jb2 jb5 jb6 jb7 jb8 jb9 jc0 jc1 jc2 jc5 jc6 jc7 jc8 jc9 jc10 lh_3 []))):=by kernel_rfl
theorem S2 (i5:Int) (ja0:TS) (ja1:LC) (ja2:Sem zg) (ja3:LI) (ja4:LF) (ja5:zo) (ja6:Int) (ja7:Int) (ja8:zo) (ja9:zo) (ja10:LX) (jb0:List UInt8) (jb2:Int) (jb5:List UInt8) (jb6:Int) (jb7:Int) (jb8:List UInt8) (jb9:List UInt8) (jc0:TS) (jc1:LC) (jc2:Sem zg) (jc5:zo) (jc6:Int) (jc7:Int) (jc8:zo) (jc9:zo) (jc10:LX) (lh_3:LI) (lh_4:LF):rh lV 0 kp5 Tryz.f63 7 (NF i5 ja0 ja1 ja2 ja3 ja4 ja5 ja6 ja7 ja8 ja9 ja10 jb0 jb2 jb5 jb6 jb7 jb8 jb9 jc0 jc1 jc2 jc5 jc6 jc7 jc8 jc9 jc10 lh_3 lh_4)=Tr.br (bif decide (i5 < (↑ja4.length:Int)) then decide (i5 < 10) else false) (Tr.chk (zI i5 ja4.length) (Tr.chk (zI i5 ja4.length) (Tr.chk (decide (lh_4.length+[((ja4.getD i5.toNat (zj zq)).1,wR (ja4.getD i5.toNat (zj zq)).2)].length≤1073741824)) (Tr.ok (zt.head 7 (zy Tryz.f63 7) (NF (IntKind.i64.wrap (i5+1)) ja0 ja1 ja2 ja3 ja4 ja5 ja6 ja7 ja8 ja9 ja10 jb0 jb2 jb5 jb6 jb7 jb8 jb9 jc0 jc1 jc2 jc5 jc6 jc7 jc8 jc9 jc10 lh_3 (lh_4++[((ja4.getD i5.toNat (zj zq)).1,wR (ja4.getD i5.toNat (zj zq)).2)]))))))) (Tr.ok (zt.ret (AV.agg [AV.str jc0,AV.sl zi jc1,ai jc2,AV.vec 0,AV.vec 1,AV.str jc5,ai jc6,ai jc7,AV.str jc8,AV.str jc9,AV.sl Sh.expr jc10])
 [AO.vec zg lh_3,AO.vec zq lh_4])):=by kernel_rfl
def lK (ja0:TS) (ja1:LC) (ja2:Sem zg) (ja3:LI) (ja5:zo) (ja6:Int) (ja7:Int) (ja8:zo) (ja9:zo) (ja10:LX) (jb0:List UInt8) (jb2:Int) (jb5:List UInt8) (jb6:Int) (jb7:Int) (jb8:List UInt8) (jb9:List UInt8) (jc0:TS) (jc1:LC) (jc2:Sem zg) (jc5:zo) (jc6:Int) (jc7:Int) (jc8:zo) (jc9:zo) (jc10:LX) (lh_3:LI):List (Sem zq)→Int→List (Sem zq)→Sem zx
 | [],_,lh_4=>((jc0,jc1,jc2,lh_3,lh_4,ze.mk jc5 (jc6,jc7,jc8) jc9 jc10))
 | x::r,i5,lh_4=>(if decide (i5 < 10)=true then
 lK ja0 ja1 ja2 ja3 ja5 ja6 ja7 ja8 ja9 ja10 jb0 jb2 jb5 jb6 jb7 jb8 jb9 jc0 jc1 jc2 jc5
  jc6 jc7 jc8 jc9 jc10 lh_3 r (i5+1) (lh_4++[(x.1,wR x.2)])
else (jc0,jc1,jc2,lh_3,lh_4,ze.mk jc5 (jc6,jc7,jc8) jc9 jc10))
def iV (ja0:TS) (ja1:LC) (ja2:Sem zg) (ja3:LI) (ja5:zo) (ja6:Int) (ja7:Int) (ja8:zo) (ja9:zo) (ja10:LX) (jb0:List UInt8) (jb2:Int) (jb5:List UInt8) (jb6:Int) (jb7:Int) (jb8:List UInt8) (jb9:List UInt8) (jc0:TS) (jc1:LC) (jc2:Sem zg) (jc5:zo) (jc6:Int) (jc7:Int) (jc8:zo) (jc9:zo) (jc10:LX) (lh_3:LI):List (Sem zq)→Int→List (Sem zq)→Bool
 | [],_,_=>(true)
 | x::r,i5,lh_4=>(if decide (i5 < 10)=true then
 if decide (lh_4.length+[(x.1,wR x.2)].length≤1073741824)=true then
  iV ja0 ja1 ja2 ja3 ja5 ja6 ja7 ja8 ja9 ja10 jb0 jb2 jb5 jb6 jb7 jb8 jb9 jc0 jc1 jc2 jc5
   jc6 jc7 jc8 jc9 jc10 lh_3 r (i5+1) (lh_4++[(x.1,wR x.2)])
 else false
else true)
theorem zbH {C:cH} (hC:∀ id,C.ρ0 id=none) (ja0:TS) (ja1:LC) (ja2:Sem zg) (ja3:LI) (ja5:zo) (ja6:Int) (ja7:Int) (ja8:zo) (ja9:zo) (ja10:LX) (jb0:List UInt8) (jb2:Int) (jb5:List UInt8) (jb6:Int) (jb7:Int) (jb8:List UInt8) (jb9:List UInt8) (jc0:TS) (jc1:LC) (jc2:Sem zg) (jc5:zo) (jc6:Int) (jc7:Int) (jc8:zo) (jc9:zo) (jc10:LX) (lh_3:LI) (ja4:LF) (hl:ja4.length≤zC):∀ (m i:Nat) (lh_4:LF),ja4.length - i=m→i≤ja4.length→iV ja0 ja1 ja2 ja3 ja5 ja6 ja7 ja8 ja9 ja10 jb0 jb2 jb5 jb6 jb7 jb8 jb9 jc0 jc1 jc2 jc5 jc6 jc7 jc8 jc9 jc10 lh_3 (ja4.drop i) i lh_4=true→
  Reach (lV) C 63 (zy Tryz.f63 7) (NF (i:Int) ja0 ja1 ja2 ja3 ja4 ja5 ja6 ja7 ja8 ja9 ja10 jb0 jb2 jb5 jb6 jb7 jb8 jb9 jc0 jc1 jc2 jc5 jc6 jc7 jc8 jc9 jc10 lh_3 lh_4) (fun r h=>ap h [zx] r=some (lK ja0 ja1 ja2 ja3 ja5 ja6 ja7 ja8 ja9 ja10 jb0 jb2 jb5 jb6 jb7 jb8 jb9 jc0 jc1 jc2 jc5 jc6 jc7 jc8 jc9 jc10 lh_3 (ja4.drop i) i lh_4,())):=by
 intro m
 induction m with
 | zero=>
  intro i lh_4 hm hi hc
  obtain rfl:i=ja4.length:=by omega
  rw [cL] at hc ⊢
  refine zk gF (Yg) (fun id _=>hC id) (S2 _ _ _ _ _ _ _ _ _ _ _ _ _ _ _ _ _ _ _ _ _ _ _ _ _ _ _ _ _ _) ?_
  rw [iV] at hc
  generalize hy:lK ja0 ja1 ja2 ja3 ja5 ja6 ja7 ja8 ja9 ja10 jb0 jb2 jb5 jb6 jb7 jb8 jb9 jc0 jc1 jc2 jc5 jc6 jc7 jc8 jc9 jc10 lh_3 [] _ lh_4=y
  rw [lK] at hy
  simp only [zX,bQ,Tr.val_brF]
  repeat' (first | with_reducible refine eW hy hc (fun _ hy hc=>?_) (fun _ hy hc=>?_) | with_reducible refine ba hy (fun _ hy=>?_) (fun _ hy=>?_) | with_reducible refine bv hc (fun hc=>?_) | with_reducible refine zr ?_)
  all_goals (subst hy; first | (change Reach _ _ _ _ _ _; apply Eu hC <;> first | assumption | exact hc) | rfl)
 | succ m IH=>
  intro i lh_4 hm hi hc
  have hlt:i < ja4.length:=by omega
  have IH:=IH (i+1)
  have hcast:((i:Int)+1)=((i+1:Nat):Int):=by omega
  have hwr:=zD i (by omega)
  rw [dw hlt] at hc ⊢
  refine zk gF (Yg) (fun id _=>hC id) (S2 _ _ _ _ _ _ _ _ _ _ _ _ _ _ _ _ _ _ _ _ _ _ _ _ _ _ _ _ _ _) ?_
  rw [iV] at hc
  generalize hy:lK ja0 ja1 ja2 ja3 ja5 ja6 ja7 ja8 ja9 ja10 jb0 jb2 jb5 jb6 jb7 jb8 jb9 jc0 jc1 jc2 jc5 jc6 jc7 jc8 jc9 jc10 lh_3 (ja4[i]::ja4.drop (i+1)) (i:Int) lh_4=y
  rw [lK] at hy
  simp only [zT hlt,zB hlt,ac ja4 _ hlt,hwr,bR]
  clear hwr
  simp only [hcast] at hy
  try simp only [hcast] at hc
  repeat' (first | with_reducible refine eW hy hc (fun _ hy hc=>?_) (fun _ hy hc=>?_) | with_reducible refine ba hy (fun _ hy=>?_) (fun _ hy=>?_) | with_reducible refine bv hc (fun hc=>?_) | with_reducible refine zr ?_)
  all_goals (subst hy; first | (change Reach _ _ _ _ _ _; apply IH <;> first | omega | assumption) | (change Reach _ _ _ _ _ _; apply Eu hC <;> first | assumption | exact hc) | rfl)
theorem Ev {C:cH} (hC:∀ id,C.ρ0 id=none) (ja0:TS) (ja1:LC) (ja2:Sem zg) (ja3:LI) (ja5:zo) (ja6:Int) (ja7:Int) (ja8:zo) (ja9:zo) (ja10:LX) (jb0:List UInt8) (jb2:Int) (jb5:List UInt8) (jb6:Int) (jb7:Int) (jb8:List UInt8) (jb9:List UInt8) (jc0:TS) (jc1:LC) (jc2:Sem zg) (jc5:zo) (jc6:Int) (jc7:Int) (jc8:zo) (jc9:zo) (jc10:LX) (lh_3:LI) (ja4:LF) (lh_4:LF) (hc:iV ja0 ja1 ja2 ja3 ja5 ja6 ja7 ja8 ja9 ja10 jb0 jb2 jb5 jb6 jb7 jb8 jb9 jc0 jc1 jc2 jc5 jc6 jc7 jc8 jc9 jc10 lh_3 ja4 0 lh_4=true):
  Reach (lV) C 63 (zy Tryz.f63 7) (NF 0 ja0 ja1 ja2 ja3 ja4 ja5 ja6 ja7 ja8 ja9 ja10 jb0 jb2 jb5 jb6 jb7 jb8 jb9 jc0 jc1 jc2 jc5 jc6 jc7 jc8 jc9 jc10 lh_3 lh_4) (fun r h=>ap h [zx] r=some (lK ja0 ja1 ja2 ja3 ja5 ja6 ja7 ja8 ja9 ja10 jb0 jb2 jb5 jb6 jb7 jb8 jb9 jc0 jc1 jc2 jc5 jc6 jc7 jc8 jc9 jc10 lh_3 ja4 0 lh_4,())):=
 Reach.lenB 0 4 (zg.pr Sh.str) ja4 rfl rfl fun hl=>zbH hC ja0 ja1 ja2 ja3 ja5 ja6 ja7 ja8 ja9 ja10 jb0 jb2 jb5 jb6 jb7 jb8 jb9 jc0 jc1 jc2 jc5 jc6 jc7 jc8 jc9 jc10 lh_3 ja4 hl _ 0 lh_4 rfl (aV _) hc
def m6 (ja0:TS) (ja1:LC) (ja2:Sem zg) (ja4:LF) (ja5:zo) (ja6:Int) (ja7:Int) (ja8:zo) (ja9:zo) (ja10:LX) (jb0:List UInt8) (jb2:Int) (jb5:List UInt8) (jb6:Int) (jb7:Int) (jb8:List UInt8) (jb9:List UInt8) (jc0:TS) (jc1:LC) (jc2:Sem zg) (jc5:zo) (jc6:Int) (jc7:Int) (jc8:zo) (jc9:zo) (jc10:LX) (ja3:LI):List (Sem zg)→Int→List (Sem zg)→Sem zx
 | [],_,lh_3=>(lK ja0 ja1 ja2 ja3 ja5 ja6 ja7 ja8 ja9 ja10 jb0 jb2 jb5 jb6 jb7 jb8 jb9 jc0 jc1 jc2 jc5
 jc6 jc7 jc8 jc9 jc10 lh_3 ja4 0 [])
 | x::r,i4,lh_3=>(if decide (i4 < 10)=true then
 m6 ja0 ja1 ja2 ja4 ja5 ja6 ja7 ja8 ja9 ja10 jb0 jb2 jb5 jb6 jb7 jb8 jb9 jc0 jc1 jc2 jc5
  jc6 jc7 jc8 jc9 jc10 ja3 r (i4+1) (lh_3++[x])
else
 lK ja0 ja1 ja2 ja3 ja5 ja6 ja7 ja8 ja9 ja10 jb0 jb2 jb5 jb6 jb7 jb8 jb9 jc0 jc1 jc2 jc5
  jc6 jc7 jc8 jc9 jc10 lh_3 ja4 0 [])
def iU (ja0:TS) (ja1:LC) (ja2:Sem zg) (ja4:LF) (ja5:zo) (ja6:Int) (ja7:Int) (ja8:zo) (ja9:zo) (ja10:LX) (jb0:List UInt8) (jb2:Int) (jb5:List UInt8) (jb6:Int) (jb7:Int) (jb8:List UInt8) (jb9:List UInt8) (jc0:TS) (jc1:LC) (jc2:Sem zg) (jc5:zo) (jc6:Int) (jc7:Int) (jc8:zo) (jc9:zo) (jc10:LX) (ja3:LI):List (Sem zg)→Int→List (Sem zg)→Bool
 | [],_,lh_3=>(iV ja0 ja1 ja2 ja3 ja5 ja6 ja7 ja8 ja9 ja10 jb0 jb2 jb5 jb6 jb7 jb8 jb9 jc0 jc1 jc2 jc5
 jc6 jc7 jc8 jc9 jc10 lh_3 ja4 0 [])
 | x::r,i4,lh_3=>(if decide (i4 < 10)=true then
 if decide (lh_3.length+[x].length≤1073741824)=true then
  iU ja0 ja1 ja2 ja4 ja5 ja6 ja7 ja8 ja9 ja10 jb0 jb2 jb5 jb6 jb7 jb8 jb9 jc0 jc1 jc2 jc5
   jc6 jc7 jc8 jc9 jc10 ja3 r (i4+1) (lh_3++[x])
 else false
else
 iV ja0 ja1 ja2 ja3 ja5 ja6 ja7 ja8 ja9 ja10 jb0 jb2 jb5 jb6 jb7 jb8 jb9 jc0 jc1 jc2 jc5
  jc6 jc7 jc8 jc9 jc10 lh_3 ja4 0 [])
theorem zbG {C:cH} (hC:∀ id,C.ρ0 id=none) (ja0:TS) (ja1:LC) (ja2:Sem zg) (ja4:LF) (ja5:zo) (ja6:Int) (ja7:Int) (ja8:zo) (ja9:zo) (ja10:LX) (jb0:List UInt8) (jb2:Int) (jb5:List UInt8) (jb6:Int) (jb7:Int) (jb8:List UInt8) (jb9:List UInt8) (jc0:TS) (jc1:LC) (jc2:Sem zg) (jc5:zo) (jc6:Int) (jc7:Int) (jc8:zo) (jc9:zo) (jc10:LX) (ja3:LI) (hl:ja3.length≤zC):∀ (m i:Nat) (lh_3:LI),ja3.length - i=m→i≤ja3.length→iU ja0 ja1 ja2 ja4 ja5 ja6 ja7 ja8 ja9 ja10 jb0 jb2 jb5 jb6 jb7 jb8 jb9 jc0 jc1 jc2 jc5 jc6 jc7 jc8 jc9 jc10 ja3 (ja3.drop i) i lh_3=true→
  Reach (lV) C 63 (zy Tryz.f63 3) (NE (i:Int) ja0 ja1 ja2 ja3 ja4 ja5 ja6 ja7 ja8 ja9 ja10 jb0 jb2 jb5 jb6 jb7 jb8 jb9 jc0 jc1 jc2 jc5 jc6 jc7 jc8 jc9 jc10 lh_3) (fun r h=>ap h [zx] r=some (m6 ja0 ja1 ja2 ja4 ja5 ja6 ja7 ja8 ja9 ja10 jb0 jb2 jb5 jb6 jb7 jb8 jb9 jc0 jc1 jc2 jc5 jc6 jc7 jc8 jc9 jc10 ja3 (ja3.drop i) i lh_3,())):=by
 intro m
 induction m with
 | zero=>
  intro i lh_3 hm hi hc
  obtain rfl:i=ja3.length:=by omega
  rw [cL] at hc ⊢
  refine zk gF (Yg) (fun id _=>hC id) (S1 _ _ _ _ _ _ _ _ _ _ _ _ _ _ _ _ _ _ _ _ _ _ _ _ _ _ _ _ _) ?_
  rw [iU] at hc
  generalize hy:m6 ja0 ja1 ja2 ja4 ja5 ja6 ja7 ja8 ja9 ja10 jb0 jb2 jb5 jb6 jb7 jb8 jb9 jc0 jc1 jc2 jc5 jc6 jc7 jc8 jc9 jc10 ja3 [] _ lh_3=y
  rw [m6] at hy
  simp only [zX,bQ,Tr.val_brF]
  repeat' (first | with_reducible refine eW hy hc (fun _ hy hc=>?_) (fun _ hy hc=>?_) | with_reducible refine ba hy (fun _ hy=>?_) (fun _ hy=>?_) | with_reducible refine bv hc (fun hc=>?_) | with_reducible refine zr ?_)
  all_goals (subst hy; first | (change Reach _ _ _ _ _ _; apply Ev hC <;> first | assumption | exact hc) | rfl)
 | succ m IH=>
  intro i lh_3 hm hi hc
  have hlt:i < ja3.length:=by omega
  have IH:=IH (i+1)
  have hcast:((i:Int)+1)=((i+1:Nat):Int):=by omega
  have hwr:=zD i (by omega)
  rw [dw hlt] at hc ⊢
  refine zk gF (Yg) (fun id _=>hC id) (S1 _ _ _ _ _ _ _ _ _ _ _ _ _ _ _ _ _ _ _ _ _ _ _ _ _ _ _ _ _) ?_
  rw [iU] at hc
  generalize hy:m6 ja0 ja1 ja2 ja4 ja5 ja6 ja7 ja8 ja9 ja10 jb0 jb2 jb5 jb6 jb7 jb8 jb9 jc0 jc1 jc2 jc5 jc6 jc7 jc8 jc9 jc10 ja3 (ja3[i]::ja3.drop (i+1)) (i:Int) lh_3=y
  rw [m6] at hy
  simp only [zT hlt,zB hlt,ac ja3 _ hlt,hwr,bR]
  clear hwr
  simp only [hcast] at hy
  try simp only [hcast] at hc
  repeat' (first | with_reducible refine eW hy hc (fun _ hy hc=>?_) (fun _ hy hc=>?_) | with_reducible refine ba hy (fun _ hy=>?_) (fun _ hy=>?_) | with_reducible refine bv hc (fun hc=>?_) | with_reducible refine zr ?_)
  all_goals (subst hy; first | (change Reach _ _ _ _ _ _; apply IH <;> first | omega | assumption) | (change Reach _ _ _ _ _ _; apply Ev hC <;> first | assumption | exact hc) | rfl)
theorem Eu {C:cH} (hC:∀ id,C.ρ0 id=none) (ja0:TS) (ja1:LC) (ja2:Sem zg) (ja4:LF) (ja5:zo) (ja6:Int) (ja7:Int) (ja8:zo) (ja9:zo) (ja10:LX) (jb0:List UInt8) (jb2:Int) (jb5:List UInt8) (jb6:Int) (jb7:Int) (jb8:List UInt8) (jb9:List UInt8) (jc0:TS) (jc1:LC) (jc2:Sem zg) (jc5:zo) (jc6:Int) (jc7:Int) (jc8:zo) (jc9:zo) (jc10:LX) (ja3:LI) (lh_3:LI) (hc:iU ja0 ja1 ja2 ja4 ja5 ja6 ja7 ja8 ja9 ja10 jb0 jb2 jb5 jb6 jb7 jb8 jb9 jc0 jc1 jc2 jc5 jc6 jc7 jc8 jc9 jc10 ja3 ja3 0 lh_3=true):
  Reach (lV) C 63 (zy Tryz.f63 3) (NE 0 ja0 ja1 ja2 ja3 ja4 ja5 ja6 ja7 ja8 ja9 ja10 jb0 jb2 jb5 jb6 jb7 jb8 jb9 jc0 jc1 jc2 jc5 jc6 jc7 jc8 jc9 jc10 lh_3) (fun r h=>ap h [zx] r=some (m6 ja0 ja1 ja2 ja4 ja5 ja6 ja7 ja8 ja9 ja10 jb0 jb2 jb5 jb6 jb7 jb8 jb9 jc0 jc1 jc2 jc5 jc6 jc7 jc8 jc9 jc10 ja3 ja3 0 lh_3,())):=
 Reach.lenB 0 3 (Sh.int IntKind.i64) ja3 rfl rfl fun hl=>zbG hC ja0 ja1 ja2 ja4 ja5 ja6 ja7 ja8 ja9 ja10 jb0 jb2 jb5 jb6 jb7 jb8 jb9 jc0 jc1 jc2 jc5 jc6 jc7 jc8 jc9 jc10 ja3 hl _ 0 lh_3 rfl (aV _) hc
def N0 (x0:Sem zx):Sem zx:=(m6 x0.1 x0.2.1 x0.2.2.1 x0.2.2.2.2.1 (ze.op x0.2.2.2.2.2) (ze.v x0.2.2.2.2.2).1 (ze.v x0.2.2.2.2.2).2.1 (ze.v x0.2.2.2.2.2).2.2 (ze.s x0.2.2.2.2.2) (ze.l x0.2.2.2.2.2) [] 0 [] 0 0 [] [] (wR x0.1) (mJ x0.2.1) x0.2.2.1 (ze.op (dX x0.2.2.2.2.2)) (ze.v (dX x0.2.2.2.2.2)).1 (ze.v (dX x0.2.2.2.2.2)).2.1 (ze.v (dX x0.2.2.2.2.2)).2.2 (ze.s (dX x0.2.2.2.2.2)) (ze.l (dX x0.2.2.2.2.2)) x0.2.2.2.1 x0.2.2.2.1 0 [])
def H1 (x0:Sem zx):Bool:=(iU x0.1 x0.2.1 x0.2.2.1 x0.2.2.2.2.1 (ze.op x0.2.2.2.2.2) (ze.v x0.2.2.2.2.2).1 (ze.v x0.2.2.2.2.2).2.1 (ze.v x0.2.2.2.2.2).2.2 (ze.s x0.2.2.2.2.2) (ze.l x0.2.2.2.2.2) [] 0 [] 0 0 [] [] (wR x0.1) (mJ x0.2.1) x0.2.2.1 (ze.op (dX x0.2.2.2.2.2)) (ze.v (dX x0.2.2.2.2.2)).1 (ze.v (dX x0.2.2.2.2.2)).2.1 (ze.v (dX x0.2.2.2.2.2)).2.2 (ze.s (dX x0.2.2.2.2.2)) (ze.l (dX x0.2.2.2.2.2)) x0.2.2.2.1 x0.2.2.2.1 0 [])
def F5:zF:=zG [zx] [zx] (fun x=>H1 x.1) fun x=>(N0 x.1,())
theorem zav:FK 63 F5:=by
 refine zQ (Yg) fun x hc C hC=>?_
 unfold H1 at hc
 refine zk gF (Yg) (fun id _=>hC id) (go5 x.1) ?_
 generalize hy:N0 x.1=y
 unfold N0 at hy
 try simp only [ze.eta]
 repeat' (first | with_reducible refine eW hy hc (fun _ hy hc=>?_) (fun _ hy hc=>?_) | with_reducible refine ba hy (fun _ hy=>?_) (fun _ hy=>?_) | with_reducible refine bv hc (fun hc=>?_) | with_reducible refine zr ?_)
 all_goals (subst hy; first | (change Reach _ _ _ _ _ _; apply Eu hC <;> first | assumption | exact hc) | (change Reach _ _ _ _ _ _; apply Ev hC <;> first | assumption | exact hc) | rfl)

noncomputable def Sb:=lV.addL [(75,F19),(63,F5)]
theorem IG:zl Sb:=gF.addL <| fc RP <| fc zav jf

theorem BK (e:ze) (cols:List (Sem zi)):tI e cols=true:=by
 unfold tI
 rw [if_pos (F4 15 e)]
theorem lJ {a0 a1 a2 a3 a4 a5 a6 a7 a8 a9 b0 b1 b2 b3 b4 b5 b6 d0 d1 d2 d3 d4 d5 d6 d7 d8 d9}:∀ (l:List (Sem zq)) (i:Int) (acc:List (Sem zq)),(acc.length:Int)≤i→iV a0 a1 a2 a3 a4 a5 a6 a7 a8 a9 b0 b1 b2 b3 b4 b5 b6 d0 d1 d2 d3 d4 d5 d6 d7 d8 d9 l i acc=true
 | [],_,_,_=>rfl
 | x::r,i,acc,h=>by
  rw [iV]
  split
  ·rename_i hi
   simp only [ae] at hi
   rw [if_pos (by simp; omega)]
   exact lJ r (i+1) _ (by simp; omega)
  ·rfl
theorem qz {a0 a1 a2 a3 a4 a5 a6 a7 a8 a9 b0 b1 b2 b3 b4 b5 b6 d0 d1 d2 d3 d4 d5 d6 d7 d8 d9}:∀ (l:List (Sem zg)) (i:Int) (acc:List (Sem zg)),(acc.length:Int)≤i→iU a0 a1 a2 a3 a4 a5 a6 a7 a8 a9 b0 b1 b2 b3 b4 b5 b6 d0 d1 d2 d3 d4 d5 d6 d7 d8 d9 l i acc=true
 | [],_,_,_=>by rw [iU]; exact lJ _ _ _ (by simp)
 | x::r,i,acc,h=>by
  rw [iU]
  split
  ·rename_i hi
   simp only [ae] at hi
   rw [if_pos (by simp; omega)]
   exact qz r (i+1) _ (by simp; omega)
  ·exact lJ _ _ _ (by simp)
theorem Gg (t:Sem zx):H1 t=true:=by
 unfold H1
 exact qz _ _ _ (by simp)
def Y1:zF:=aw [Sh.expr,zi.sl] [zg] fun x=>(fC x.1 x.2.1,())
theorem T3:FK 75 Y1:=eI RP fun x=>BK x.1 x.2.1
def F5t:zF:=aw [zx] [zx] fun x=>(N0 x.1,())
theorem zaF:FK 63 F5t:=eI zav fun x=>Gg x.1

noncomputable def kx:=Sb.addL [(75,Y1),(63,F5t)]
theorem fI:zl kx:=IG.addL <| fc T3 <| fc zaF jf

abbrev kp8:Nat→ah:=fun j=>if j=4 then { slots:=[1,27,28,29] } else if j=11 then { slots:=[1,5,59,60,61] } else if j=17 then { slots:=[1,5,71,72,73] } else { }
abbrev NH (l27:LC) (i28:Int) (i29:Int) (ja0:TS) (ja1:LC) (ja2:Sem zg) (ja3:LI) (ja4:LF) (ja5:zo) (ja6:Int) (ja7:Int) (ja8:zo) (ja9:zo) (ja10:LX):St:={ tmps:=(tm 110 [(1,AV.ptr 0 0),(27,AV.sl zi l27),(28,ai i28),(29,ai i29)]),heap:=[AO.box [AV.str ja0,AV.sl zi ja1,ai ja2,AV.sl zg ja3,AV.sl zq ja4,AV.str ja5,ai ja6,ai ja7,AV.str ja8,AV.str ja9,AV.sl Sh.expr ja10]] }
theorem S0:zA (kx).P 55 Tryz.f55 1:=aQ (by kernel_rfl)
theorem go8 (x0:Sem zx):rn kx 0 kp8 Tryz.f55 [zz zx x0] []=Tr.br (bif !bU x0.1 then true else bif decide ((↑(length x0.2.1):Int) < 1) then true else decide ((↑(length x0.2.1):Int) > 8)) (Tr.ok (zt.ret (AV.kb false) [])) (Tr.ok (zt.head 4 (zy Tryz.f55 4) (NH x0.2.1 (↑(length x0.2.1):Int) 0 x0.1 x0.2.1 x0.2.2.1 x0.2.2.2.1 x0.2.2.2.2.1 (ze.op x0.2.2.2.2.2) (ze.v x0.2.2.2.2.2).1 (ze.v x0.2.2.2.2.2).2.1 (ze.v x0.2.2.2.2.2).2.2 (ze.s x0.2.2.2.2.2) (ze.l x0.2.2.2.2.2)))):=by kernel_rfl
abbrev DV (l59:LI) (i60:Int) (i61:Int) (ja0:TS) (ja1:LC) (ja2:Sem zg) (ja3:LI) (ja4:LF) (ja5:zo) (ja6:Int) (ja7:Int) (ja8:zo) (ja9:zo) (ja10:LX):St:={ tmps:=(tm 110 [(1,AV.ptr 0 0),(5,AV.clo (Fn.func 93) [] [AV.ptr 0 0]),(59,AV.sl zg l59),(60,ai i60),(61,ai i61)]),heap:=[AO.box [AV.str ja0,AV.sl zi ja1,ai ja2,AV.sl zg ja3,AV.sl zq ja4,AV.str ja5,ai ja6,ai ja7,AV.str ja8,AV.str ja9,AV.sl Sh.expr ja10]] }
theorem S4 (l27:LC) (i28:Int) (i29:Int) (ja0:TS) (ja1:LC) (ja2:Sem zg) (ja3:LI) (ja4:LF) (ja5:zo) (ja6:Int) (ja7:Int) (ja8:zo) (ja9:zo) (ja10:LX):rh kx 0 kp8 Tryz.f55 4 (NH l27 i28 i29 ja0 ja1 ja2 ja3 ja4 ja5 ja6 ja7 ja8 ja9 ja10)=Tr.br (decide (i29 < i28)) (Tr.chk (zI i29 l27.length) (Tr.br (bif !bU (l27.getD i29.toNat (zj zi)).1 then true else bif decide ((l27.getD i29.toNat (zj zi)).2.1 < 1) then true else bif decide ((l27.getD i29.toNat (zj zi)).2.1 > 3) then true else gQ (ja0,ja1,ja2,ja3,ja4,ze.mk ja5 (ja6,ja7,ja8) ja9 ja10) (l27.getD i29.toNat (zj zi)).1 != i29) (Tr.ok (zt.ret (AV.kb false) [])) (Tr.ok (zt.head 4 (zy Tryz.f55 4) (NH l27 i28 (IntKind.i64.wrap (i29+1)) ja0 ja1 ja2 ja3 ja4 ja5 ja6 ja7 ja8 ja9 ja10))))) (Tr.ok (zt.head 11 (zy Tryz.f55 11) (DV ja3 (↑ja3.length:Int) 0 ja0 ja1 ja2 ja3 ja4 ja5 ja6 ja7 ja8 ja9 ja10))):=by kernel_rfl
abbrev DW (l71:LF) (i72:Int) (i73:Int) (ja0:TS) (ja1:LC) (ja2:Sem zg) (ja3:LI) (ja4:LF) (ja5:zo) (ja6:Int) (ja7:Int) (ja8:zo) (ja9:zo) (ja10:LX):St:={ tmps:=(tm 110 [(1,AV.ptr 0 0),(5,AV.clo (Fn.func 93) [] [AV.ptr 0 0]),(71,AV.sl zq l71),(72,ai i72),(73,ai i73)]),heap:=[AO.box [AV.str ja0,AV.sl zi ja1,ai ja2,AV.sl zg ja3,AV.sl zq ja4,AV.str ja5,ai ja6,ai ja7,AV.str ja8,AV.str ja9,AV.sl Sh.expr ja10]] }
theorem MW (l59:LI) (i60:Int) (i61:Int) (ja0:TS) (ja1:LC) (ja2:Sem zg) (ja3:LI) (ja4:LF) (ja5:zo) (ja6:Int) (ja7:Int) (ja8:zo) (ja9:zo) (ja10:LX):rh kx 0 kp8 Tryz.f55 11 (DV l59 i60 i61 ja0 ja1 ja2 ja3 ja4 ja5 ja6 ja7 ja8 ja9 ja10)=Tr.br (decide (i61 < i60)) (Tr.chk (zI i61 l59.length) (Tr.br (!bif decide (l59.getD i61.toNat (zj zg) ≥ 0) then decide (l59.getD i61.toNat (zj zg) < (↑ja1.length:Int)) else false) (Tr.ok (zt.ret (AV.kb false) [])) (Tr.ok (zt.head 11 (zy Tryz.f55 11) (DV l59 i60 (IntKind.i64.wrap (i61+1)) ja0 ja1 ja2 ja3 ja4 ja5 ja6 ja7 ja8 ja9 ja10))))) (Tr.ok (zt.head 17 (zy Tryz.f55 17) (DW ja4 (↑ja4.length:Int) 0 ja0 ja1 ja2 ja3 ja4 ja5 ja6 ja7 ja8 ja9 ja10))):=by kernel_rfl
theorem MX (l71:LF) (i72:Int) (i73:Int) (ja0:TS) (ja1:LC) (ja2:Sem zg) (ja3:LI) (ja4:LF) (ja5:zo) (ja6:Int) (ja7:Int) (ja8:zo) (ja9:zo) (ja10:LX):rh kx 0 kp8 Tryz.f55 17 (DW l71 i72 i73 ja0 ja1 ja2 ja3 ja4 ja5 ja6 ja7 ja8 ja9 ja10)=Tr.br (decide (i73 < i72)) (Tr.chk (zI i73 l71.length) (Tr.br (!bif decide ((l71.getD i73.toNat (zj zq)).1 ≥ 0) then decide ((l71.getD i73.toNat (zj zq)).1 < (↑ja1.length:Int)) else false) (Tr.ok (zt.ret (AV.kb false) [])) (Tr.br (!bU (l71.getD i73.toNat (zj zq)).2) (Tr.ok (zt.ret (AV.kb false) [])) (Tr.ok (zt.head 17 (zy Tryz.f55 17) (DW l71 i72 (IntKind.i64.wrap (i73+1)) ja0 ja1 ja2 ja3 ja4 ja5 ja6 ja7 ja8 ja9 ja10)))))) (Tr.br (bif decide (ja2 ≥ 0) then decide (ja2 < (↑ja1.length:Int)) else false) (Tr.chk (zI ja2 ja1.length) (Tr.br (ja1.getD (toNat ja2) (zj zi)).2.2 (Tr.ok (zt.ret (AV.bool (fC (ze.mk ja5 (ja6,ja7,ja8) ja9 ja10) ja1==0)) [])) (Tr.ok (zt.ret (AV.kb false) [])))) (Tr.ok (zt.ret (AV.kb false) []))):=by kernel_rfl
def er (ja0:TS) (ja1:LC) (ja2:Sem zg) (ja3:LI) (ja4:LF) (ja5:zo) (ja6:Int) (ja7:Int) (ja8:zo) (ja9:zo) (ja10:LX):List (Sem zq)→Int→Sem Sh.bool
 | [],_=>(if (bif decide (ja2 ≥ 0) then decide (ja2 < (↑ja1.length:Int)) else false)=true then
 if (ja1.getD (toNat ja2) (zj zi)).2.2=true then
  fC (ze.mk ja5 (ja6,ja7,ja8) ja9 ja10) ja1==0
 else false
else false)
 | x::r,i73=>(if (!bif decide (x.1 ≥ 0) then decide (x.1 < (↑ja1.length:Int)) else false)=true then false
else if (!bU x.2)=true then false else er ja0 ja1 ja2 ja3 ja4 ja5 ja6 ja7 ja8 ja9 ja10 r (i73+1))
def gh (ja0:TS) (ja1:LC) (ja2:Sem zg) (ja3:LI) (ja4:LF) (ja5:zo) (ja6:Int) (ja7:Int) (ja8:zo) (ja9:zo) (ja10:LX):List (Sem zq)→Int→Bool
 | [],_=>(if (bif decide (ja2 ≥ 0) then decide (ja2 < (↑ja1.length:Int)) else false)=true then if zI ja2 ja1.length=true then true else false
else true)
 | x::r,i73=>(if (!bif decide (x.1 ≥ 0) then decide (x.1 < (↑ja1.length:Int)) else false)=true then true
else if (!bU x.2)=true then true else gh ja0 ja1 ja2 ja3 ja4 ja5 ja6 ja7 ja8 ja9 ja10 r (i73+1))
theorem Vq {C:cH} (hC:∀ id,C.ρ0 id=none) (ja0:TS) (ja1:LC) (ja2:Sem zg) (ja3:LI) (ja4:LF) (ja5:zo) (ja6:Int) (ja7:Int) (ja8:zo) (ja9:zo) (ja10:LX) (l71:LF) (hl:l71.length≤zC):∀ (m i:Nat),l71.length - i=m→i≤l71.length→gh ja0 ja1 ja2 ja3 ja4 ja5 ja6 ja7 ja8 ja9 ja10 (l71.drop i) i=true→
  Reach (kx) C 55 (zy Tryz.f55 17) (DW l71 (l71.length:Int) (i:Int) ja0 ja1 ja2 ja3 ja4 ja5 ja6 ja7 ja8 ja9 ja10) (fun r h=>ap h [Sh.bool] r=some (er ja0 ja1 ja2 ja3 ja4 ja5 ja6 ja7 ja8 ja9 ja10 (l71.drop i) i,())):=by
 intro m
 induction m with
 | zero=>
  intro i hm hi hc
  obtain rfl:i=l71.length:=by omega
  rw [cL] at hc ⊢
  refine zk fI (S0) (fun id _=>hC id) (MX _ _ _ _ _ _ _ _ _ _ _ _ _ _) ?_
  rw [gh] at hc
  generalize hy:er ja0 ja1 ja2 ja3 ja4 ja5 ja6 ja7 ja8 ja9 ja10 [] _=y
  rw [er] at hy
  simp only [zX,Tr.val_brF]
  repeat' (first | with_reducible refine eW hy hc (fun _ hy hc=>?_) (fun _ hy hc=>?_) | with_reducible refine ba hy (fun _ hy=>?_) (fun _ hy=>?_) | with_reducible refine bv hc (fun hc=>?_) | with_reducible refine zr ?_)
  all_goals (subst hy; first | (change Reach _ _ _ _ _ _; apply ul hC <;> first | assumption | exact hc) | (change Reach _ _ _ _ _ _; apply pq hC <;> first | assumption | exact hc) | rfl)
 | succ m IH=>
  intro i hm hi hc
  have hlt:i < l71.length:=by omega
  have IH:=IH (i+1)
  have hcast:((i:Int)+1)=((i+1:Nat):Int):=by omega
  have hwr:=zD i (by omega)
  rw [dw hlt] at hc ⊢
  refine zk fI (S0) (fun id _=>hC id) (MX _ _ _ _ _ _ _ _ _ _ _ _ _ _) ?_
  rw [gh] at hc
  generalize hy:er ja0 ja1 ja2 ja3 ja4 ja5 ja6 ja7 ja8 ja9 ja10 (l71[i]::l71.drop (i+1)) (i:Int)=y
  rw [er] at hy
  simp only [zT hlt,zB hlt,ac l71 _ hlt,hwr,Tr.val_brT,Tr.val_chkT]
  clear hwr
  simp only [hcast] at hy
  try simp only [hcast] at hc
  repeat' (first | with_reducible refine eW hy hc (fun _ hy hc=>?_) (fun _ hy hc=>?_) | with_reducible refine ba hy (fun _ hy=>?_) (fun _ hy=>?_) | with_reducible refine bv hc (fun hc=>?_) | with_reducible refine zr ?_)
  all_goals (subst hy; first | (change Reach _ _ _ _ _ _; apply IH <;> first | omega | assumption) | (change Reach _ _ _ _ _ _; apply ul hC <;> first | assumption | exact hc) | (change Reach _ _ _ _ _ _; apply pq hC <;> first | assumption | exact hc) | rfl)
theorem pt {C:cH} (hC:∀ id,C.ρ0 id=none) (ja0:TS) (ja1:LC) (ja2:Sem zg) (ja3:LI) (ja4:LF) (ja5:zo) (ja6:Int) (ja7:Int) (ja8:zo) (ja9:zo) (ja10:LX) (l71:LF) (hc:gh ja0 ja1 ja2 ja3 ja4 ja5 ja6 ja7 ja8 ja9 ja10 l71 0=true):
  Reach (kx) C 55 (zy Tryz.f55 17) (DW l71 (l71.length:Int) 0 ja0 ja1 ja2 ja3 ja4 ja5 ja6 ja7 ja8 ja9 ja10) (fun r h=>ap h [Sh.bool] r=some (er ja0 ja1 ja2 ja3 ja4 ja5 ja6 ja7 ja8 ja9 ja10 l71 0,())):=
 Reach.len 71 (zg.pr Sh.str) l71 rfl fun hl=>Vq hC ja0 ja1 ja2 ja3 ja4 ja5 ja6 ja7 ja8 ja9 ja10 l71 hl _ 0 rfl (aV _) hc
def ek (ja0:TS) (ja1:LC) (ja2:Sem zg) (ja3:LI) (ja4:LF) (ja5:zo) (ja6:Int) (ja7:Int) (ja8:zo) (ja9:zo) (ja10:LX):List (Sem zg)→Int→Sem Sh.bool
 | [],_=>(er ja0 ja1 ja2 ja3 ja4 ja5 ja6 ja7 ja8 ja9 ja10 ja4 0)
 | x::r,i61=>(if (!bif decide (x ≥ 0) then decide (x < (↑ja1.length:Int)) else false)=true then false
else ek ja0 ja1 ja2 ja3 ja4 ja5 ja6 ja7 ja8 ja9 ja10 r (i61+1))
def gg (ja0:TS) (ja1:LC) (ja2:Sem zg) (ja3:LI) (ja4:LF) (ja5:zo) (ja6:Int) (ja7:Int) (ja8:zo) (ja9:zo) (ja10:LX):List (Sem zg)→Int→Bool
 | [],_=>(gh ja0 ja1 ja2 ja3 ja4 ja5 ja6 ja7 ja8 ja9 ja10 ja4 0)
 | x::r,i61=>(if (!bif decide (x ≥ 0) then decide (x < (↑ja1.length:Int)) else false)=true then true
else gg ja0 ja1 ja2 ja3 ja4 ja5 ja6 ja7 ja8 ja9 ja10 r (i61+1))
theorem Vp {C:cH} (hC:∀ id,C.ρ0 id=none) (ja0:TS) (ja1:LC) (ja2:Sem zg) (ja3:LI) (ja4:LF) (ja5:zo) (ja6:Int) (ja7:Int) (ja8:zo) (ja9:zo) (ja10:LX) (l59:LI) (hl:l59.length≤zC):∀ (m i:Nat),l59.length - i=m→i≤l59.length→gg ja0 ja1 ja2 ja3 ja4 ja5 ja6 ja7 ja8 ja9 ja10 (l59.drop i) i=true→
  Reach (kx) C 55 (zy Tryz.f55 11) (DV l59 (l59.length:Int) (i:Int) ja0 ja1 ja2 ja3 ja4 ja5 ja6 ja7 ja8 ja9 ja10) (fun r h=>ap h [Sh.bool] r=some (ek ja0 ja1 ja2 ja3 ja4 ja5 ja6 ja7 ja8 ja9 ja10 (l59.drop i) i,())):=by
 intro m
 induction m with
 | zero=>
  intro i hm hi hc
  obtain rfl:i=l59.length:=by omega
  rw [cL] at hc ⊢
  refine zk fI (S0) (fun id _=>hC id) (MW _ _ _ _ _ _ _ _ _ _ _ _ _ _) ?_
  rw [gg] at hc
  generalize hy:ek ja0 ja1 ja2 ja3 ja4 ja5 ja6 ja7 ja8 ja9 ja10 [] _=y
  rw [ek] at hy
  simp only [zX,Tr.val_brF]
  repeat' (first | with_reducible refine eW hy hc (fun _ hy hc=>?_) (fun _ hy hc=>?_) | with_reducible refine ba hy (fun _ hy=>?_) (fun _ hy=>?_) | with_reducible refine bv hc (fun hc=>?_) | with_reducible refine zr ?_)
  all_goals (subst hy; first | (change Reach _ _ _ _ _ _; apply ul hC <;> first | assumption | exact hc) | (change Reach _ _ _ _ _ _; apply pt hC <;> first | assumption | exact hc) | rfl)
 | succ m IH=>
  intro i hm hi hc
  have hlt:i < l59.length:=by omega
  have IH:=IH (i+1)
  have hcast:((i:Int)+1)=((i+1:Nat):Int):=by omega
  have hwr:=zD i (by omega)
  rw [dw hlt] at hc ⊢
  refine zk fI (S0) (fun id _=>hC id) (MW _ _ _ _ _ _ _ _ _ _ _ _ _ _) ?_
  rw [gg] at hc
  generalize hy:ek ja0 ja1 ja2 ja3 ja4 ja5 ja6 ja7 ja8 ja9 ja10 (l59[i]::l59.drop (i+1)) (i:Int)=y
  rw [ek] at hy
  simp only [zT hlt,zB hlt,ac l59 _ hlt,hwr,Tr.val_brT,Tr.val_chkT]
  clear hwr
  simp only [hcast] at hy
  try simp only [hcast] at hc
  repeat' (first | with_reducible refine eW hy hc (fun _ hy hc=>?_) (fun _ hy hc=>?_) | with_reducible refine ba hy (fun _ hy=>?_) (fun _ hy=>?_) | with_reducible refine bv hc (fun hc=>?_) | with_reducible refine zr ?_)
  all_goals (subst hy; first | (change Reach _ _ _ _ _ _; apply IH <;> first | omega | assumption) | (change Reach _ _ _ _ _ _; apply ul hC <;> first | assumption | exact hc) | (change Reach _ _ _ _ _ _; apply pt hC <;> first | assumption | exact hc) | rfl)
theorem pq {C:cH} (hC:∀ id,C.ρ0 id=none) (ja0:TS) (ja1:LC) (ja2:Sem zg) (ja3:LI) (ja4:LF) (ja5:zo) (ja6:Int) (ja7:Int) (ja8:zo) (ja9:zo) (ja10:LX) (l59:LI) (hc:gg ja0 ja1 ja2 ja3 ja4 ja5 ja6 ja7 ja8 ja9 ja10 l59 0=true):
  Reach (kx) C 55 (zy Tryz.f55 11) (DV l59 (l59.length:Int) 0 ja0 ja1 ja2 ja3 ja4 ja5 ja6 ja7 ja8 ja9 ja10) (fun r h=>ap h [Sh.bool] r=some (ek ja0 ja1 ja2 ja3 ja4 ja5 ja6 ja7 ja8 ja9 ja10 l59 0,())):=
 Reach.len 59 (Sh.int IntKind.i64) l59 rfl fun hl=>Vp hC ja0 ja1 ja2 ja3 ja4 ja5 ja6 ja7 ja8 ja9 ja10 l59 hl _ 0 rfl (aV _) hc
def gk (ja0:TS) (ja1:LC) (ja2:Sem zg) (ja3:LI) (ja4:LF) (ja5:zo) (ja6:Int) (ja7:Int) (ja8:zo) (ja9:zo) (ja10:LX):List (Sem zi)→Int→Sem Sh.bool
 | [],_=>(ek ja0 ja1 ja2 ja3 ja4 ja5 ja6 ja7 ja8 ja9 ja10 ja3 0)
 | x :: r,i29=>(if
  (bif !bU x.1 then true
   else
    bif decide (x.2.1 < 1) then true
    else
     bif decide (x.2.1 > 3) then true
     else gQ (ja0,ja1,ja2,ja3,ja4,ze.mk ja5 (ja6,ja7,ja8) ja9 ja10) x.1 != i29)=
   true then
 false
else gk ja0 ja1 ja2 ja3 ja4 ja5 ja6 ja7 ja8 ja9 ja10 r (i29+1))
def iW (ja0:TS) (ja1:LC) (ja2:Sem zg) (ja3:LI) (ja4:LF) (ja5:zo) (ja6:Int) (ja7:Int) (ja8:zo) (ja9:zo) (ja10:LX):List (Sem zi)→Int→Bool
 | [],_=>(gg ja0 ja1 ja2 ja3 ja4 ja5 ja6 ja7 ja8 ja9 ja10 ja3 0)
 | x :: r,i29=>(if
  (bif !bU x.1 then true
   else
    bif decide (x.2.1 < 1) then true
    else
     bif decide (x.2.1 > 3) then true
     else gQ (ja0,ja1,ja2,ja3,ja4,ze.mk ja5 (ja6,ja7,ja8) ja9 ja10) x.1 != i29)=
   true then
 true
else iW ja0 ja1 ja2 ja3 ja4 ja5 ja6 ja7 ja8 ja9 ja10 r (i29+1))
theorem zbJ {C:cH} (hC:∀ id,C.ρ0 id=none) (ja0:TS) (ja1:LC) (ja2:Sem zg) (ja3:LI) (ja4:LF) (ja5:zo) (ja6:Int) (ja7:Int) (ja8:zo) (ja9:zo) (ja10:LX) (l27:LC) (hl:l27.length≤zC):∀ (m i:Nat),l27.length - i=m→i≤l27.length→iW ja0 ja1 ja2 ja3 ja4 ja5 ja6 ja7 ja8 ja9 ja10 (l27.drop i) i=true→
  Reach (kx) C 55 (zy Tryz.f55 4) (NH l27 (l27.length:Int) (i:Int) ja0 ja1 ja2 ja3 ja4 ja5 ja6 ja7 ja8 ja9 ja10) (fun r h=>ap h [Sh.bool] r=some (gk ja0 ja1 ja2 ja3 ja4 ja5 ja6 ja7 ja8 ja9 ja10 (l27.drop i) i,())):=by
 intro m
 induction m with
 | zero=>
  intro i hm hi hc
  obtain rfl:i=l27.length:=by omega
  rw [cL] at hc ⊢
  refine zk fI (S0) (fun id _=>hC id) (S4 _ _ _ _ _ _ _ _ _ _ _ _ _ _) ?_
  rw [iW] at hc
  generalize hy:gk ja0 ja1 ja2 ja3 ja4 ja5 ja6 ja7 ja8 ja9 ja10 [] _=y
  rw [gk] at hy
  simp only [zX,Tr.val_brF]
  repeat' (first | with_reducible refine eW hy hc (fun _ hy hc=>?_) (fun _ hy hc=>?_) | with_reducible refine ba hy (fun _ hy=>?_) (fun _ hy=>?_) | with_reducible refine bv hc (fun hc=>?_) | with_reducible refine zr ?_)
  all_goals (subst hy; first | (change Reach _ _ _ _ _ _; apply pq hC <;> first | assumption | exact hc) | (change Reach _ _ _ _ _ _; apply pt hC <;> first | assumption | exact hc) | rfl)
 | succ m IH=>
  intro i hm hi hc
  have hlt:i < l27.length:=by omega
  have IH:=IH (i+1)
  have hcast:((i:Int)+1)=((i+1:Nat):Int):=by omega
  have hwr:=zD i (by omega)
  rw [dw hlt] at hc ⊢
  refine zk fI (S0) (fun id _=>hC id) (S4 _ _ _ _ _ _ _ _ _ _ _ _ _ _) ?_
  rw [iW] at hc
  generalize hy:gk ja0 ja1 ja2 ja3 ja4 ja5 ja6 ja7 ja8 ja9 ja10 (l27[i]::l27.drop (i+1)) (i:Int)=y
  rw [gk] at hy
  simp only [zT hlt,zB hlt,ac l27 _ hlt,hwr,Tr.val_brT,Tr.val_chkT]
  clear hwr
  simp only [hcast] at hy
  try simp only [hcast] at hc
  repeat' (first | with_reducible refine eW hy hc (fun _ hy hc=>?_) (fun _ hy hc=>?_) | with_reducible refine ba hy (fun _ hy=>?_) (fun _ hy=>?_) | with_reducible refine bv hc (fun hc=>?_) | with_reducible refine zr ?_)
  all_goals (subst hy; first | (change Reach _ _ _ _ _ _; apply IH <;> first | omega | assumption) | (change Reach _ _ _ _ _ _; apply pq hC <;> first | assumption | exact hc) | (change Reach _ _ _ _ _ _; apply pt hC <;> first | assumption | exact hc) | rfl)
theorem ul {C:cH} (hC:∀ id,C.ρ0 id=none) (ja0:TS) (ja1:LC) (ja2:Sem zg) (ja3:LI) (ja4:LF) (ja5:zo) (ja6:Int) (ja7:Int) (ja8:zo) (ja9:zo) (ja10:LX) (l27:LC) (hc:iW ja0 ja1 ja2 ja3 ja4 ja5 ja6 ja7 ja8 ja9 ja10 l27 0=true):
  Reach (kx) C 55 (zy Tryz.f55 4) (NH l27 (l27.length:Int) 0 ja0 ja1 ja2 ja3 ja4 ja5 ja6 ja7 ja8 ja9 ja10) (fun r h=>ap h [Sh.bool] r=some (gk ja0 ja1 ja2 ja3 ja4 ja5 ja6 ja7 ja8 ja9 ja10 l27 0,())):=
 Reach.len 27 (zi) l27 rfl fun hl=>zbJ hC ja0 ja1 ja2 ja3 ja4 ja5 ja6 ja7 ja8 ja9 ja10 l27 hl _ 0 rfl (aV _) hc
def gq (x0:Sem zx):Sem Sh.bool:=(if (bif !bU x0.1 then true else bif decide ((↑(length x0.2.1):Int) < 1) then true else decide ((↑(length x0.2.1):Int) > 8))=true then false else gk x0.1 x0.2.1 x0.2.2.1 x0.2.2.2.1 x0.2.2.2.2.1 (ze.op x0.2.2.2.2.2) (ze.v x0.2.2.2.2.2).1 (ze.v x0.2.2.2.2.2).2.1 (ze.v x0.2.2.2.2.2).2.2 (ze.s x0.2.2.2.2.2) (ze.l x0.2.2.2.2.2) x0.2.1 0)
def H2 (x0:Sem zx):Bool:=(if (bif !bU x0.1 then true else bif decide ((↑(length x0.2.1):Int) < 1) then true else decide ((↑(length x0.2.1):Int) > 8))=true then true else iW x0.1 x0.2.1 x0.2.2.1 x0.2.2.2.1 x0.2.2.2.2.1 (ze.op x0.2.2.2.2.2) (ze.v x0.2.2.2.2.2).1 (ze.v x0.2.2.2.2.2).2.1 (ze.v x0.2.2.2.2.2).2.2 (ze.s x0.2.2.2.2.2) (ze.l x0.2.2.2.2.2) x0.2.1 0)
def F8:zF:=zG [zx] [Sh.bool] (fun x=>H2 x.1) fun x=>(gq x.1,())
theorem zaW:FK 55 F8:=by
 refine zQ (S0) fun x hc C hC=>?_
 unfold H2 at hc
 refine zk fI (S0) (fun id _=>hC id) (go8 x.1) ?_
 generalize hy:gq x.1=y
 unfold gq at hy
 try simp only [ze.eta]
 repeat' (first | with_reducible refine eW hy hc (fun _ hy hc=>?_) (fun _ hy hc=>?_) | with_reducible refine ba hy (fun _ hy=>?_) (fun _ hy=>?_) | with_reducible refine bv hc (fun hc=>?_) | with_reducible refine zr ?_)
 all_goals (subst hy; first | (change Reach _ _ _ _ _ _; apply ul hC <;> first | assumption | exact hc) | (change Reach _ _ _ _ _ _; apply pq hC <;> first | assumption | exact hc) | (change Reach _ _ _ _ _ _; apply pt hC <;> first | assumption | exact hc) | rfl)

noncomputable def Sc:=kx.add 55 F8
theorem II:zl Sc:=fI.add zaW

theorem oG {a0 a1 a2 a3 a4 a5 a6 a7 a8 a9 b0}:∀ (l:List (Sem zq)) (i:Int),gh a0 a1 a2 a3 a4 a5 a6 a7 a8 a9 b0 l i=true
 | [],i=>by
  rw [gh]
  split
  ·rename_i h
   rw [if_pos]
   cases h1:decide (a2 ≥ 0) <;> simp_all [zI]
  ·rfl
 | x::r,i=>by
  rw [gh]
  repeat' split
  all_goals first | rfl | exact oG r (i+1)
theorem oF {a0 a1 a2 a3 a4 a5 a6 a7 a8 a9 b0}:∀ (l:List (Sem zg)) (i:Int),gg a0 a1 a2 a3 a4 a5 a6 a7 a8 a9 b0 l i=true
 | [],i=>by rw [gg]; exact oG _ _
 | x::r,i=>by
  rw [gg]
  repeat' split
  all_goals first | rfl | exact oF r (i+1)
theorem qA {a0 a1 a2 a3 a4 a5 a6 a7 a8 a9 b0}:∀ (l:List (Sem zi)) (i:Int),iW a0 a1 a2 a3 a4 a5 a6 a7 a8 a9 b0 l i=true
 | [],i=>by rw [iW]; exact oF _ _
 | x::r,i=>by
  rw [iW]
  split
  ·rfl
  ·exact qA r (i+1)
theorem Gh (t:Sem zx):H2 t=true:=by
 unfold H2
 split
 ·rfl
 ·exact qA _ _
def F8t:zF:=aw [zx] [Sh.bool] fun x=>(gq x.1,())
theorem za7:FK 55 F8t:=eI zaW fun x=>Gh x.1

noncomputable def oq:=Sc.add 55 F8t
theorem jc:zl oq:=II.add za7

abbrev WA:Nat→ah:=fun j=>if j=4 then { slots:=[1,2,19,20,21] } else if j=10 then { slots:=[1,2,30,31] } else { }
abbrev DT (l1:LV) (l19:LV) (i20:Int) (i21:Int) (ja0:TS) (ja1:LC) (ja2:Sem zg) (ja3:LI) (ja4:LF) (ja5:zo) (ja6:Int) (ja7:Int) (ja8:zo) (ja9:zo) (ja10:LX):St:={ tmps:=(tm 79 [(1,AV.sl zf l1),(2,AV.ptr 0 0),(19,AV.sl zf l19),(20,ai i20),(21,ai i21)]),heap:=[AO.box [AV.str ja0,AV.sl zi ja1,ai ja2,AV.sl zg ja3,AV.sl zq ja4,AV.str ja5,ai ja6,ai ja7,AV.str ja8,AV.str ja9,AV.sl Sh.expr ja10]] }
theorem I9:zA (oq).P 56 Tryz.f56 2:=aQ (by kernel_rfl)
theorem zga (x0:Sem zx) (x1:Sem zf.sl):rn oq 0 WA Tryz.f56 [zz zx x0,zz zf.sl x1] []=Tr.br (bif !gq (x0.1,x0.2.1,x0.2.2.1,x0.2.2.2.1,x0.2.2.2.2.1,zE x0.2.2.2.2.2) then true else (↑(length x1):Int) != (↑(length x0.2.1):Int)) (Tr.ok (zt.ret (ai 1) [])) (Tr.ok (zt.head 4 (zy Tryz.f56 4) (DT x1 x1 (↑(length x1):Int) 0 x0.1 x0.2.1 x0.2.2.1 x0.2.2.2.1 x0.2.2.2.2.1 (ze.op x0.2.2.2.2.2) (ze.v x0.2.2.2.2.2).1 (ze.v x0.2.2.2.2.2).2.1 (ze.v x0.2.2.2.2.2).2.2 (ze.s x0.2.2.2.2.2) (ze.l x0.2.2.2.2.2)))):=by kernel_rfl
abbrev wK (l1:LV) (i30:Int) (i31:Int) (ja0:TS) (ja1:LC) (ja2:Sem zg) (ja3:LI) (ja4:LF) (ja5:zo) (ja6:Int) (ja7:Int) (ja8:zo) (ja9:zo) (ja10:LX):St:={ tmps:=(tm 79 [(1,AV.sl zf l1),(2,AV.ptr 0 0),(30,ai i30),(31,ai i31)]),heap:=[AO.box [AV.str ja0,AV.sl zi ja1,ai ja2,AV.sl zg ja3,AV.sl zq ja4,AV.str ja5,ai ja6,ai ja7,AV.str ja8,AV.str ja9,AV.sl Sh.expr ja10]] }
theorem MR (l1:LV) (l19:LV) (i20:Int) (i21:Int) (ja0:TS) (ja1:LC) (ja2:Sem zg) (ja3:LI) (ja4:LF) (ja5:zo) (ja6:Int) (ja7:Int) (ja8:zo) (ja9:zo) (ja10:LX):rh oq 0 WA Tryz.f56 4 (DT l1 l19 i20 i21 ja0 ja1 ja2 ja3 ja4 ja5 ja6 ja7 ja8 ja9 ja10)=Tr.br (decide (i21 < i20)) (Tr.chk (zI i21 l19.length) (Tr.br (!gr (l19.getD i21.toNat (zj zf))) (Tr.ok (zt.ret (ai 1) [])) (Tr.ok (zt.head 4 (zy Tryz.f56 4) (DT l1 l19 i20 (IntKind.i64.wrap (i21+1)) ja0 ja1 ja2 ja3 ja4 ja5 ja6 ja7 ja8 ja9 ja10))))) (Tr.ok (zt.head 10 (zy Tryz.f56 10) (wK l1 (↑l1.length:Int) 0 ja0 ja1 ja2 ja3 ja4 ja5 ja6 ja7 ja8 ja9 ja10))):=by kernel_rfl
theorem Hs (l1:LV) (i30:Int) (i31:Int) (ja0:TS) (ja1:LC) (ja2:Sem zg) (ja3:LI) (ja4:LF) (ja5:zo) (ja6:Int) (ja7:Int) (ja8:zo) (ja9:zo) (ja10:LX):rh oq 0 WA Tryz.f56 10 (wK l1 i30 i31 ja0 ja1 ja2 ja3 ja4 ja5 ja6 ja7 ja8 ja9 ja10)=Tr.br (decide (i31 < i30)) (Tr.chk (zI i31 l1.length&&bif (l1.getD i31.toNat (zj zf)).1==0 then zI i31 ja1.length else true) (Tr.br (bif (l1.getD i31.toNat (zj zf)).1==0 then (ja1.getD i31.toNat (zj zi)).2.2 else false) (Tr.ok (zt.ret (ai 8) [])) (Tr.chk (zI i31 l1.length&&bif (l1.getD i31.toNat (zj zf)).1 != 0 then zI i31 l1.length&&zI i31 ja1.length else true) (Tr.br (bif (l1.getD i31.toNat (zj zf)).1 != 0 then (l1.getD i31.toNat (zj zf)).1 != (ja1.getD i31.toNat (zj zi)).2.1 else false) (Tr.ok (zt.ret (ai 5) [])) (Tr.ok (zt.head 10 (zy Tryz.f56 10) (wK l1 i30 (IntKind.i64.wrap (i31+1)) ja0 ja1 ja2 ja3 ja4 ja5 ja6 ja7 ja8 ja9 ja10))))))) (Tr.br ((hZ (ze.mk ja5 (ja6,ja7,ja8) ja9 ja10) ja1 l1).1==3&&((hZ (ze.mk ja5 (ja6,ja7,ja8) ja9 ja10) ja1 l1).2.1==0&&((hZ (ze.mk ja5 (ja6,ja7,ja8) ja9 ja10) ja1 l1).2.2==[]&&true))) (Tr.ok (zt.ret (ai 9) [])) (Tr.ok (zt.ret (ai 0) []))):=by kernel_rfl
def iu (ja0:TS) (ja1:LC) (ja2:Sem zg) (ja3:LI) (ja4:LF) (ja5:zo) (ja6:Int) (ja7:Int) (ja8:zo) (ja9:zo) (ja10:LX) (l1:LV):List (Sem zf)→Int→Sem zg
 | [],_=>(if
  ((hZ (ze.mk ja5 (ja6,ja7,ja8) ja9 ja10) ja1 l1).1==3&&
    ((hZ (ze.mk ja5 (ja6,ja7,ja8) ja9 ja10) ja1 l1).2.1==0&&
     ((hZ (ze.mk ja5 (ja6,ja7,ja8) ja9 ja10) ja1 l1).2.2==[]&&true)))=
   true then
 9
else 0)
 | x::r,i31=>(if (bif x.1==0 then (ja1.getD i31.toNat (zj zi)).2.2 else false)=true then 8
else
 if (bif x.1 != 0 then x.1 != (ja1.getD i31.toNat (zj zi)).2.1 else false)=true then 5
 else iu ja0 ja1 ja2 ja3 ja4 ja5 ja6 ja7 ja8 ja9 ja10 l1 r (i31+1))
def fK (ja0:TS) (ja1:LC) (ja2:Sem zg) (ja3:LI) (ja4:LF) (ja5:zo) (ja6:Int) (ja7:Int) (ja8:zo) (ja9:zo) (ja10:LX) (l1:LV):List (Sem zf)→Int→Bool
 | [],_=>(true)
 | x::r,i31=>(if (zI i31 l1.length&&bif x.1==0 then zI i31 ja1.length else true)=true then
 if (bif x.1==0 then (ja1.getD i31.toNat (zj zi)).2.2 else false)=true then true
 else
  if (zI i31 l1.length&&bif x.1 != 0 then zI i31 l1.length&&zI i31 ja1.length else true)=true then
   if (bif x.1 != 0 then x.1 != (ja1.getD i31.toNat (zj zi)).2.1 else false)=true then true
   else fK ja0 ja1 ja2 ja3 ja4 ja5 ja6 ja7 ja8 ja9 ja10 l1 r (i31+1)
  else false
else false)
theorem Pj {C:cH} (hC:∀ id,C.ρ0 id=none) (ja0:TS) (ja1:LC) (ja2:Sem zg) (ja3:LI) (ja4:LF) (ja5:zo) (ja6:Int) (ja7:Int) (ja8:zo) (ja9:zo) (ja10:LX) (l1:LV) (hl:l1.length≤zC):∀ (m i:Nat),l1.length - i=m→i≤l1.length→fK ja0 ja1 ja2 ja3 ja4 ja5 ja6 ja7 ja8 ja9 ja10 l1 (l1.drop i) i=true→
  Reach (oq) C 56 (zy Tryz.f56 10) (wK l1 (l1.length:Int) (i:Int) ja0 ja1 ja2 ja3 ja4 ja5 ja6 ja7 ja8 ja9 ja10) (fun r h=>ap h [zg] r=some (iu ja0 ja1 ja2 ja3 ja4 ja5 ja6 ja7 ja8 ja9 ja10 l1 (l1.drop i) i,())):=by
 intro m
 induction m with
 | zero=>
  intro i hm hi hc
  obtain rfl:i=l1.length:=by omega
  rw [cL] at hc ⊢
  refine zk jc (I9) (fun id _=>hC id) (Hs _ _ _ _ _ _ _ _ _ _ _ _ _ _) ?_
  rw [fK] at hc
  generalize hy:iu ja0 ja1 ja2 ja3 ja4 ja5 ja6 ja7 ja8 ja9 ja10 l1 [] _=y
  rw [iu] at hy
  simp only [zX,Tr.val_brF]
  repeat' (first | with_reducible refine eW hy hc (fun _ hy hc=>?_) (fun _ hy hc=>?_) | with_reducible refine ba hy (fun _ hy=>?_) (fun _ hy=>?_) | with_reducible refine bv hc (fun hc=>?_) | with_reducible refine zr ?_)
  all_goals (subst hy; first | (change Reach _ _ _ _ _ _; apply AC hC <;> first | assumption | exact hc) | rfl)
 | succ m IH=>
  intro i hm hi hc
  have hlt:i < l1.length:=by omega
  have IH:=IH (i+1)
  have hcast:((i:Int)+1)=((i+1:Nat):Int):=by omega
  have hwr:=zD i (by omega)
  rw [dw hlt] at hc ⊢
  refine zk jc (I9) (fun id _=>hC id) (Hs _ _ _ _ _ _ _ _ _ _ _ _ _ _) ?_
  rw [fK] at hc
  generalize hy:iu ja0 ja1 ja2 ja3 ja4 ja5 ja6 ja7 ja8 ja9 ja10 l1 (l1[i]::l1.drop (i+1)) (i:Int)=y
  rw [iu] at hy
  simp only [zT hlt,zB hlt,ac l1 _ hlt,hwr,Tr.val_brT]
  clear hwr
  try simp only [zB hlt] at hy
  simp only [hcast] at hy
  try simp only [zB hlt] at hc
  try simp only [hcast] at hc
  repeat' (first | with_reducible refine eW hy hc (fun _ hy hc=>?_) (fun _ hy hc=>?_) | with_reducible refine ba hy (fun _ hy=>?_) (fun _ hy=>?_) | with_reducible refine bv hc (fun hc=>?_) | with_reducible refine zr ?_)
  all_goals (subst hy; first | (change Reach _ _ _ _ _ _; apply IH <;> first | omega | assumption) | (change Reach _ _ _ _ _ _; apply AC hC <;> first | assumption | exact hc) | rfl)
theorem uk {C:cH} (hC:∀ id,C.ρ0 id=none) (ja0:TS) (ja1:LC) (ja2:Sem zg) (ja3:LI) (ja4:LF) (ja5:zo) (ja6:Int) (ja7:Int) (ja8:zo) (ja9:zo) (ja10:LX) (l1:LV) (hc:fK ja0 ja1 ja2 ja3 ja4 ja5 ja6 ja7 ja8 ja9 ja10 l1 l1 0=true):
  Reach (oq) C 56 (zy Tryz.f56 10) (wK l1 (l1.length:Int) 0 ja0 ja1 ja2 ja3 ja4 ja5 ja6 ja7 ja8 ja9 ja10) (fun r h=>ap h [zg] r=some (iu ja0 ja1 ja2 ja3 ja4 ja5 ja6 ja7 ja8 ja9 ja10 l1 l1 0,())):=
 Reach.len 1 (zf) l1 rfl fun hl=>Pj hC ja0 ja1 ja2 ja3 ja4 ja5 ja6 ja7 ja8 ja9 ja10 l1 hl _ 0 rfl (aV _) hc
def j3 (l1:LV) (ja0:TS) (ja1:LC) (ja2:Sem zg) (ja3:LI) (ja4:LF) (ja5:zo) (ja6:Int) (ja7:Int) (ja8:zo) (ja9:zo) (ja10:LX):List (Sem zf)→Int→Sem zg
 | [],_=>(iu ja0 ja1 ja2 ja3 ja4 ja5 ja6 ja7 ja8 ja9 ja10 l1 l1 0)
 | x::r,i21=>(if (!gr x)=true then 1 else j3 l1 ja0 ja1 ja2 ja3 ja4 ja5 ja6 ja7 ja8 ja9 ja10 r (i21+1))
def gf (l1:LV) (ja0:TS) (ja1:LC) (ja2:Sem zg) (ja3:LI) (ja4:LF) (ja5:zo) (ja6:Int) (ja7:Int) (ja8:zo) (ja9:zo) (ja10:LX):List (Sem zf)→Int→Bool
 | [],_=>(fK ja0 ja1 ja2 ja3 ja4 ja5 ja6 ja7 ja8 ja9 ja10 l1 l1 0)
 | x::r,i21=>(if (!gr x)=true then true else gf l1 ja0 ja1 ja2 ja3 ja4 ja5 ja6 ja7 ja8 ja9 ja10 r (i21+1))
theorem Vl {C:cH} (hC:∀ id,C.ρ0 id=none) (l1:LV) (ja0:TS) (ja1:LC) (ja2:Sem zg) (ja3:LI) (ja4:LF) (ja5:zo) (ja6:Int) (ja7:Int) (ja8:zo) (ja9:zo) (ja10:LX) (l19:LV) (hl:l19.length≤zC):∀ (m i:Nat),l19.length - i=m→i≤l19.length→gf l1 ja0 ja1 ja2 ja3 ja4 ja5 ja6 ja7 ja8 ja9 ja10 (l19.drop i) i=true→
  Reach (oq) C 56 (zy Tryz.f56 4) (DT l1 l19 (l19.length:Int) (i:Int) ja0 ja1 ja2 ja3 ja4 ja5 ja6 ja7 ja8 ja9 ja10) (fun r h=>ap h [zg] r=some (j3 l1 ja0 ja1 ja2 ja3 ja4 ja5 ja6 ja7 ja8 ja9 ja10 (l19.drop i) i,())):=by
 intro m
 induction m with
 | zero=>
  intro i hm hi hc
  obtain rfl:i=l19.length:=by omega
  rw [cL] at hc ⊢
  refine zk jc (I9) (fun id _=>hC id) (MR _ _ _ _ _ _ _ _ _ _ _ _ _ _ _) ?_
  rw [gf] at hc
  generalize hy:j3 l1 ja0 ja1 ja2 ja3 ja4 ja5 ja6 ja7 ja8 ja9 ja10 [] _=y
  rw [j3] at hy
  simp only [zX,Tr.val_brF]
  repeat' (first | with_reducible refine eW hy hc (fun _ hy hc=>?_) (fun _ hy hc=>?_) | with_reducible refine ba hy (fun _ hy=>?_) (fun _ hy=>?_) | with_reducible refine bv hc (fun hc=>?_) | with_reducible refine zr ?_)
  all_goals (subst hy; first | (change Reach _ _ _ _ _ _; apply uk hC <;> first | assumption | exact hc) | rfl)
 | succ m IH=>
  intro i hm hi hc
  have hlt:i < l19.length:=by omega
  have IH:=IH (i+1)
  have hcast:((i:Int)+1)=((i+1:Nat):Int):=by omega
  have hwr:=zD i (by omega)
  rw [dw hlt] at hc ⊢
  refine zk jc (I9) (fun id _=>hC id) (MR _ _ _ _ _ _ _ _ _ _ _ _ _ _ _) ?_
  rw [gf] at hc
  generalize hy:j3 l1 ja0 ja1 ja2 ja3 ja4 ja5 ja6 ja7 ja8 ja9 ja10 (l19[i]::l19.drop (i+1)) (i:Int)=y
  rw [j3] at hy
  simp only [zT hlt,zB hlt,ac l19 _ hlt,hwr,Tr.val_brT,Tr.val_chkT]
  clear hwr
  try simp only [zB hlt] at hy
  simp only [hcast] at hy
  try simp only [zB hlt] at hc
  try simp only [hcast] at hc
  repeat' (first | with_reducible refine eW hy hc (fun _ hy hc=>?_) (fun _ hy hc=>?_) | with_reducible refine ba hy (fun _ hy=>?_) (fun _ hy=>?_) | with_reducible refine bv hc (fun hc=>?_) | with_reducible refine zr ?_)
  all_goals (subst hy; first | (change Reach _ _ _ _ _ _; apply IH <;> first | omega | assumption) | (change Reach _ _ _ _ _ _; apply uk hC <;> first | assumption | exact hc) | rfl)
theorem AC {C:cH} (hC:∀ id,C.ρ0 id=none) (l1:LV) (ja0:TS) (ja1:LC) (ja2:Sem zg) (ja3:LI) (ja4:LF) (ja5:zo) (ja6:Int) (ja7:Int) (ja8:zo) (ja9:zo) (ja10:LX) (l19:LV) (hc:gf l1 ja0 ja1 ja2 ja3 ja4 ja5 ja6 ja7 ja8 ja9 ja10 l19 0=true):
  Reach (oq) C 56 (zy Tryz.f56 4) (DT l1 l19 (l19.length:Int) 0 ja0 ja1 ja2 ja3 ja4 ja5 ja6 ja7 ja8 ja9 ja10) (fun r h=>ap h [zg] r=some (j3 l1 ja0 ja1 ja2 ja3 ja4 ja5 ja6 ja7 ja8 ja9 ja10 l19 0,())):=
 Reach.len 19 (zf) l19 rfl fun hl=>Vl hC l1 ja0 ja1 ja2 ja3 ja4 ja5 ja6 ja7 ja8 ja9 ja10 l19 hl _ 0 rfl (aV _) hc
def j0 (x0:Sem zx) (x1:Sem zf.sl):Sem zg:=(if (bif !gq x0 then true else (↑(length x1):Int) != (↑(length x0.2.1):Int))=true then 1 else j3 x1 x0.1 x0.2.1 x0.2.2.1 x0.2.2.2.1 x0.2.2.2.2.1 (ze.op x0.2.2.2.2.2) (ze.v x0.2.2.2.2.2).1 (ze.v x0.2.2.2.2.2).2.1 (ze.v x0.2.2.2.2.2).2.2 (ze.s x0.2.2.2.2.2) (ze.l x0.2.2.2.2.2) x1 0)
def BY (x0:Sem zx) (x1:Sem zf.sl):Bool:=(if (bif !gq x0 then true else (↑(length x1):Int) != (↑(length x0.2.1):Int))=true then true else gf x1 x0.1 x0.2.1 x0.2.2.1 x0.2.2.2.1 x0.2.2.2.2.1 (ze.op x0.2.2.2.2.2) (ze.v x0.2.2.2.2.2).1 (ze.v x0.2.2.2.2.2).2.1 (ze.v x0.2.2.2.2.2).2.2 (ze.s x0.2.2.2.2.2) (ze.l x0.2.2.2.2.2) x1 0)
def F10:zF:=zG [zx,zf.sl] [zg] (fun x=>BY x.1 x.2.1) fun x=>(j0 x.1 x.2.1,())
theorem RK:FK 56 F10:=by
 refine zQ (I9) fun x hc C hC=>?_
 unfold BY at hc
 refine zk jc (I9) (fun id _=>hC id) (zga x.1 x.2.1) ?_
 generalize hy:j0 x.1 x.2.1=y
 unfold j0 at hy
 try simp only [ze.eta]
 repeat' (first | with_reducible refine eW hy hc (fun _ hy hc=>?_) (fun _ hy hc=>?_) | with_reducible refine ba hy (fun _ hy=>?_) (fun _ hy=>?_) | with_reducible refine bv hc (fun hc=>?_) | with_reducible refine zr ?_)
 all_goals (subst hy; first | (change Reach _ _ _ _ _ _; apply AC hC <;> first | assumption | exact hc) | (change Reach _ _ _ _ _ _; apply uk hC <;> first | assumption | exact hc) | rfl)

noncomputable def Sd:=oq.add 56 F10
theorem IJ:zl Sd:=jc.add RK

theorem m7 {a0 a2 a3 a4 a5 a6 a7 a8 a9 b0} {cols:List (Sem zi)} {row:List (Sem zf)} (hl:row.length=cols.length):∀ (l:List (Sem zf)) (i:Nat),i+l.length=row.length→fK a0 cols a2 a3 a4 a5 a6 a7 a8 a9 b0 row l i=true
 | [],i,_=>rfl
 | x::r,i,h=>by
  have h1:i < row.length:=by simp at h; omega
  have h2:i < cols.length:=by omega
  have ih:=m7 (a0:=a0) (a2:=a2) (a3:=a3) (a4:=a4) (a5:=a5) (a6:=a6) (a7:=a7) (a8:=a8) (a9:=a9) (b0:=b0) hl r (i+1) (by simp at h; omega)
  rw [fK]
  simp only [zB h1,zB h2]
  rw [if_pos (by cases x.1==0 <;> rfl)]
  split
  ·rfl
  ·rw [if_pos (by cases x.1 != 0 <;> rfl)]
   split
   ·rfl
   ·exact ih
theorem oE {a0 a2 a3 a4 a5 a6 a7 a8 a9 b0} {cols:List (Sem zi)} {row:List (Sem zf)} (hl:row.length=cols.length):∀ (l:List (Sem zf)) (i:Int),gf row a0 cols a2 a3 a4 a5 a6 a7 a8 a9 b0 l i=true
 | [],i=>by rw [gf]; exact m7 hl row 0 (by simp)
 | x::r,i=>by
  rw [gf]
  split
  ·rfl
  ·exact oE hl r (i+1)
theorem Eb (t:Sem zx) (row:List (Sem zf)):BY t row=true:=by
 unfold BY
 split
 ·rfl
 ·rename_i h
  refine oE ?_ _ _
  cases hm:gq t
  ·rw [hm] at h; simp at h
  ·rw [hm] at h
   simp at h
   omega
def Yu:zF:=aw [zx,zf.sl] [zg] fun x=>(j0 x.1 x.2.1,())
theorem Ts:FK 56 Yu:=eI RK fun x=>Eb x.1 x.2.1

noncomputable def uW:=Sd.add 56 Yu
theorem IK:zl uW:=IJ.add Ts

open Go.RowKit Go.Lib in
theorem UH:FK 236 (zG [.str,.str] [.bool] (fun x=>x.2.1.length==1) fun x=>(decide (0≤Lib.indexByte x.1 (x.2.1.headD 0)),())):=by
 refine fF (E:=uW) ⟨Tryz.f236,by kernel_rfl,by kernel_rfl,by kernel_rfl⟩ fun x h0 res hx=>?_
 unfold gX at hx
 split at hx
 ·simp only [Tr.val] at hx
  split at hx
  ·rename_i hc
   simp only [ao] at hx
   subst hx
   obtain ⟨s,sub,u⟩:=x
   have hc:(sub.length==1)=true:=hc
   match sub,hc with
   | [c],_=>
    intro C w U ρ vals _ hr hH hnew hr0 hW
    have hl:=hr.len
    match vals,hl,hr with
    | [v1,v2],_,hr=>
     have h1:=hr.rv 0 (.str s) v1 rfl rfl
     have h2:=hr.rv 1 (.str [c]) v2 rfl rfl
     cases h1 with
     | str _ hs=>
     cases h2 with
     | str _ hs2=>
     refine (Tryz.strings_Contains_one ⟨s.toArray⟩ c w).mono ?_
     rintro e w' ⟨rfl,rfl⟩
     exact fA hH hnew hr0 hW (Below.refl _ _) (.bool _)
  ·cases hx
 ·simp at hx
def F63:zF:=zG [.str,.str] [.bool] (fun x=>x.2.1.length==1) fun x=>(decide (0≤Lib.indexByte x.1 (x.2.1.headD 0)),())
theorem zaJ:FK 236 F63:=UH

def F89:zF:=zG [.str] [.str] (fun x=>decide (x.1.length≤140737488355328)&&x.1.all fun b=>decide (b.toNat < 128)) fun x=>(Lib.toUpperA x.1,())
open Go.RowKit Go.Lib in
theorem za6:FK 158 F89:=by
 refine fF (E:=uW) ⟨Tryz.f158,by kernel_rfl,by kernel_rfl,by kernel_rfl⟩ fun x h0 res hx=>?_
 unfold gX at hx
 split at hx
 ·simp only [Tr.val] at hx
  split at hx
  ·rename_i hc
   simp only [ao] at hx
   subst hx
   obtain ⟨s,u⟩:=x
   have hc:(decide (s.length≤140737488355328)&&s.all fun b=>decide (b.toNat < 128))=true:=hc
   simp only [aL,ae] at hc
   obtain ⟨hc0,hc⟩:=hc
   intro C w U ρ vals _ hr hH hnew hr0 hW
   have hl:=hr.len
   match vals,hl,hr with
   | [v1],_,hr=>
    have h1:=hr.rv 0 (.str s) v1 rfl rfl
    cases h1 with
    | str _ hs=>
    refine (Tryz.strings_ToUpper_ascii ⟨s.toArray⟩ w (by simpa [ByteArray.size] using hc0) (fun j b hj=>?_)).mono ?_
    ·have hm:b∈s:=iE (by simpa using hj)
     simp only [cX,ae] at hc
     exact hc b hm
    ·rintro e w' ⟨rfl,hb⟩
     have hbb:=fA (r:=.str (Lib.toUpperA s)) hH hnew hr0 hW hb (.str _ (by simpa [Lib.toUpperA] using hs))
     exact hbb
  ·cases hx
 ·simp at hx

def n6:Nat→Nat→zo
 | 0,_=>[]
 | f+1,n=>if n < 10 then [UInt8.ofNat (48+n)] else n6 f (n / 10)++[UInt8.ofNat (48+n % 10)]
def ox (n:Int):zo:=if n < 0 then 45::n6 20 n.natAbs else n6 20 n.natAbs
theorem AS:∀ (f n:Nat),n < 10 ^ f→0 < f→n6 f n=Lib.decDigits n
 | 0,_,_,h=>by omega
 | f+1,n,h,_=>by
  rw [n6,Lib.decDigits]
  split
  ·rfl
  ·rename_i hn
   have hf:0 < f:=by
    cases f with
    | zero=>simp at h; omega
    | succ f=>omega
   rw [AS f (n / 10) (by rw [Nat.pow_succ] at h; omega) hf]
theorem CF:∀ (f n:Nat),(n6 f n).length≤f
 | 0,_=>by simp [n6]
 | f+1,n=>by
  rw [n6]
  split
  ·simp
  ·have:=CF f (n / 10)
   simp; omega
theorem y6 (n:Int):(ox n).length≤21:=by
 unfold ox
 have:=CF 20 n.natAbs
 split <;> simp <;> omega
theorem LW (n:Int) (h:ch .i64 n):Lib.itoa n=ox n:=by
 have h1:-9223372036854775808≤n:=h.1
 have h2:n≤9223372036854775807:=h.2
 unfold Lib.itoa ox
 split
 ·rw [AS 20 _ (by omega) (by omega)]
 ·rw [AS 20 _ (by omega) (by omega)]
  congr 1
  omega
def YF:zF:=zG [zg,zg] [.str] (fun x=>x.2.1==10) fun x=>(ox x.1,())
open Go.RowKit Go.Lib in
theorem TD:FK 230 YF:=by
 refine fF (E:=uW) ⟨Tryz.f230,by kernel_rfl,by kernel_rfl,by kernel_rfl⟩ fun x h0 res hx=>?_
 unfold gX at hx
 split at hx
 ·simp only [Tr.val] at hx
  split at hx
  ·rename_i hc
   simp only [ao] at hx
   subst hx
   obtain ⟨n,b,u⟩:=x
   have hc:(b==10)=true:=hc
   simp only [eT] at hc
   subst hc
   intro C w U ρ vals _ hr hH hnew hr0 hW
   have hl:=hr.len
   match vals,hl,hr with
   | [v1,v2],_,hr=>
    have h1:=hr.rv 0 (.int .i64 n) v1 rfl rfl
    have h2:=hr.rv 1 (.int .i64 10) v2 rfl rfl
    cases h1 with
    | int _ _ hn=>
    cases h2
    have h5:Rv w U (fun _=>none) (.tab .u64 j9) (.pointer (some ⟨5,0,none⟩)):=hW.gl 5
    have htab:Lib.TabIs Tryz.prog w "internal/strconv.uint64pow10" .u64 Lib.pow10Tab:=by
     cases h5 with
     | tab _ _ _ T fr hb hU=>
     have hg:Tryz.prog.globalNamed "internal/strconv.uint64pow10" = some 5:=by kernel_rfl
     have ht:Lib.pow10Tab=j9:=by decide +kernel
     unfold Lib.TabIs World.var?
     rw [hg,ht]
     simp only [Option.bind_some,hb]
    refine (Tryz.strconv_FormatInt_10 n hn.1 hn.2 w htab).mono ?_
    rintro e w' ⟨rfl,k,os,rfl⟩
    rw [LW n hn]
    exact fA (r:=.str (ox n)) hH hnew hr0 hW ⟨rfl,rfl,rfl,by show w.heap.size≤(w.heap++os).size; simp,fun j hj=>by show (w.heap++os)[j]?=w.heap[j]?; rw [Array.getElem?_append_left hj]⟩ (.str _ (by have:=y6 n; unfold zC; omega))
  ·cases hx
 ·simp at hx

theorem qj (old new:zo):∀ (k:Nat) (s:zo),(Lib.replaceK old new k s).length≤s.length+k * new.length
 | 0,s=>by simp [Lib.replaceK]
 | k+1,s=>by
  rw [Lib.replaceK]
  split
  ·omega
  ·have:=qj old new k (s.drop ((Lib.index s old).toNat+old.length))
   simp only [pk,rW,List.length_drop] at this ⊢
   rw [ee]
   omega
theorem jx (s old new:zo):(Lib.replaceAll s old new).length≤s.length+(s.length+1) * new.length:=by
 unfold Lib.replaceAll Lib.replace
 split
 ·omega
 ·refine cv (qj old new _ s) ?_
  have hc:=Lib.count_le s old
  have:Lib.replaceNum s old (-1)=Lib.count s old:=by unfold Lib.replaceNum; rw [if_pos (.inl (by omega))]
  rw [this]
  have:=cN new.length hc
  omega
def qi (s old new:zo):Bool:=decide (s.length≤4000000000)&&(decide (1≤old.length)&&decide (new.length≤1000))
def YG:zF:=zG [.str,.str,.str] [.str] (fun x=>qi x.1 x.2.1 x.2.2.1) fun x=>(Lib.replaceAll x.1 x.2.1 x.2.2.1,())
open Go.RowKit Go.Lib in
theorem TE:FK 231 YG:=by
 refine fF (E:=uW) ⟨Tryz.f231,by kernel_rfl,by kernel_rfl,by kernel_rfl⟩ fun x h0 res hx=>?_
 unfold gX at hx
 split at hx
 ·simp only [Tr.val] at hx
  split at hx
  ·rename_i hc
   simp only [ao] at hx
   subst hx
   obtain ⟨s,old,new,u⟩:=x
   have hc:qi s old new=true:=hc
   unfold qi at hc
   simp only [aL,ae] at hc
   obtain ⟨hc1,hc2,hc3⟩:=hc
   intro C w U ρ vals _ hr hH hnew hr0 hW
   have hl:=hr.len
   match vals,hl,hr with
   | [v1,v2,v3],_,hr=>
    have h1:=hr.rv 0 (.str s) v1 rfl rfl
    have h2:=hr.rv 1 (.str old) v2 rfl rfl
    have h3:=hr.rv 2 (.str new) v3 rfl rfl
    cases h1 with
    | str _ hs1=>
    cases h2 with
    | str _ hs2=>
    cases h3 with
    | str _ hs3=>
    have hg1:Rv w U (fun _=>none) .gint (.pointer (some ⟨2,0,none⟩)):=hW.gl 2
    have hmm:∃ m:Int,w.cell? ⟨2,0,none⟩=some (.int .i64 m):=by
     cases hg1 with
     | gint m _ T fr _ hb _=>exact ⟨m,by simp [World.cell?,hb]⟩
    obtain ⟨m,hm⟩:=hmm
    have hcb:=Lib.countB_le (⟨old.toArray⟩:ByteArray) (by simpa [ByteArray.size] using hc2) s.length (⟨s.toArray⟩:ByteArray) (by simp [ByteArray.size])
    have hsz:(⟨s.toArray⟩:ByteArray).size=s.length:=by simp [ByteArray.size]
    have hnz:(⟨new.toArray⟩:ByteArray).size=new.length:=by simp [ByteArray.size]
    have hmul:Lib.countB (⟨s.toArray⟩:ByteArray) ⟨old.toArray⟩ * new.length≤4000000000 * 1000:=jN (by omega) hc3
    refine (Tryz.strings_ReplaceAll ⟨s.toArray⟩ ⟨old.toArray⟩ ⟨new.toArray⟩ m w (by rw [hsz]; omega) hm (by simpa [ByteArray.size] using hc2) (by rw [hsz,hnz]; omega)).mono ?_
    rintro e w' ⟨rfl,hbel⟩
    refine fA (r:=.str (Lib.replaceAll s old new)) hH hnew hr0 hW hbel (.str _ ?_)
    have hlen:=jx s old new
    have hmul2:(s.length+1) * new.length≤4000000001 * 1000:=jN (by omega) hc3
    unfold zC
    omega
  ·cases hx
 ·simp at hx

def YE:zF:=zG [.sl .str,.str] [.str] (fun x=>decide (x.1.length≤140737488355328)&&decide ((Lib.join x.1 x.2.1).length≤140737488355328)) fun x=>(Lib.join x.1 x.2.1,())
open Go.RowKit Go.Lib in
theorem TC:FK 229 YE:=by
 refine fF (E:=uW) ⟨Tryz.f229,by kernel_rfl,by kernel_rfl,by kernel_rfl⟩ fun x h0 res hx=>?_
 unfold gX at hx
 split at hx
 ·simp only [Tr.val] at hx
  split at hx
  ·rename_i hc
   simp only [ao] at hx
   subst hx
   obtain ⟨l,sep,u⟩:=x
   have hc:(decide (l.length≤140737488355328)&&decide ((Lib.join l sep).length≤140737488355328))=true:=hc
   simp only [aL,ae] at hc
   obtain ⟨hc0,hc⟩:=hc
   have hms:zC=9223372036854775807:=rfl
   intro C w U ρ vals _ hr hH hnew hr0 hW
   have hl:=hr.len
   match vals,hl,hr with
   | [v1,v2],_,hr=>
    have h1:=hr.rv 0 (.sl .str l) v1 rfl rfl
    have h2:=hr.rv 1 (.str sep) v2 rfl rfl
    cases h2 with
    | str _ hs2=>
    generalize hl0:l=l0 at h1 hc hc0 hr
    cases h1 with
    | sl0 _ a c=>
     subst hl0
     refine (Tryz.strings_Join_none a c ⟨sep.toArray⟩ w).mono ?_
     rintro e w' ⟨rfl,rfl⟩
     exact fA (r:=.str []) hH hnew hr0 hW (Below.refl _ _) (.str _ (by simp))
    | sl _ _ b o c vals' hcc hm hb hU hcell hrr=>
     subst hl0
     have hx:∀ (j:Nat) x,(l.map fun s=>(⟨s.toArray⟩:ByteArray))[j]?=some x→w.cell? ⟨b,o+j,none⟩=some (.string x):=by
      intro j x hj
      simp only [de,dI] at hj
      obtain ⟨s,hs,rfl⟩:=hj
      obtain ⟨hlt,rfl⟩:=bM.1 hs
      have h3:=hcell j 0 hlt (by simp [Sh.size])
      have h4:=hrr j hlt 0 (.str l[j]) rfl
      simp only [Sh.size,Nat.mul_one,oh] at h3
      rw [h3]
      generalize vals' j 0=vv at h4
      cases h4
      rfl
     have hmap:(l.map fun s=>(⟨s.toArray⟩:ByteArray)).map (·.data.toList)=l:=by
      simp [rV]
     have hj:=Tryz.strings_Join b o c (l.map fun s=>(⟨s.toArray⟩:ByteArray)) ⟨sep.toArray⟩ w hx hb (by simpa using hc0) (by simpa using hcc) (by rw [hmap]; exact hc)
     rw [hmap] at hj
     simp only [ye] at hj
     refine hj.mono ?_
     rintro e w' ⟨rfl,hbel⟩
     exact fA (r:=.str (Lib.join l sep)) hH hnew hr0 hW hbel (.str _ (by omega))
  ·cases hx
 ·simp at hx

noncomputable def ot:=uW.addL [(236,F63),(158,F89),(230,YF),(231,YG),(229,YE)]
theorem gG:zl ot:=IK.addL <| fc zaJ <| fc za6 <| fc TD <| fc TE <| fc TC jf
end Cad
