/- Expressions: which may be. Expressions: their values. Expressions: may, bounded. Expressions: types and values. What is asked of expressions holds. Checks; bounded tables. What is asked of checks and of bounded tables holds. Which tables may be. What is asked of tables holds. Which rows fit. What is asked of rows holds. The library's functions over texts. -/
import Derived.Test.YtfgnbipebgibeaaGreatDoorG09
namespace Cad
open Go Go.Proofs
open Int (toNat)
open List (length)

def aU (v:V):Bool:=v.1==0&&(v.2.1==0&&(v.2.2==[]&&true))
def avB:AV→Option Bool
 | .bool b=>some b
 | .kb b=>some b
 | _=>none

theorem Reach.toBool {E:bS} {C:dl} {fn:FuncId} {todo:List Item} {st:St} {b:Bool} {hp:List AO} (h:Reach E C fn todo st (fun r h=>avB r=some b∧h=hp)):Reach E C fn todo st (fun r h=>(r,h)=(.bool b,hp)):=by
 refine h.weaken fun r h' hq=>?_
 obtain ⟨h1,rfl⟩:=hq
 refine ⟨.bool b,rfl,fun w U ρ v hv=>?_⟩
 cases r <;> simp [avB] at h1 <;> subst h1 <;> cases hv <;> exact .bool _

def WN (g:ze→Int→Int→Bool×Int) (c:ze→Int→Int→Bool):ie [none,some .expr,some zf]:=fun x h=>match x,h with
 | (.ptr 0 0,e,d,_),[.box [.int .i64 n]]=>.chk (c e d n) (.ok (.bool (g e d n).1,[.box [.int .i64 (g e d n).2]]))
 | _,_=>.err
def H4 (g:ze→Int→Int→Bool×Int) (c:ze→Int→Int→Bool):zT:=bh [none,some .expr,some zf] (WN g c)
noncomputable def LW (g:ze→Int→Int→Bool×Int) (c:ze→Int→Int→Bool):bS:=J9.add 181 (H4 g c)
theorem x9 {g:ze→Int→Int→Bool×Int} {c:ze→Int→Int→Bool} (hg:FK 181 (H4 g c)):zy (LW g c):=Cg.add hg
abbrev zcu:Nat→aJ:=fun j=>if j=12 then { slots:=[0,2,73,74,75] } else { }
abbrev E4 (i2:Int) (l73:LX) (i74:Int) (i75:Int) (ja0:Int):St:={ tmps:=(tm 86 [(0,AV.ptr 0 0),(2,ai i2),(73,AV.sl Sh.expr l73),(74,ai i74),(75,ai i75)]),heap:=[AO.box [ai ja0]] }
theorem Pt (g:ze→Int→Int→Bool×Int) (c:ze→Int→Int→Bool):zK (LW g c).P 181 Tryz.f181 3:=bN (by kernel_rfl)
theorem zfr (g:ze→Int→Int→Bool×Int) (c:ze→Int→Int→Bool) (e:ze) (d:Int) (n:Int):rn (LW g c) 1 zcu Tryz.f181 [AV.ptr 0 0,zF Sh.expr e,ai d] [AO.box [ai n]]=Tr.br (bif decide (d > 12) then true else bif decide (IntKind.i64.wrap (n+1) > 60) then true else (↑e.l.length:Int) != cE e.op) (Tr.ok (zx.ret (AV.kb false) [AO.box [ai (IntKind.i64.wrap (n+1))]])) (Tr.br (e.op==[108,105,116]) (Tr.ok (zx.ret (AV.bool (bif e.s==[] then ce e.v else false)) [AO.box [ai (IntKind.i64.wrap (n+1))]])) (Tr.br (e.op==[99,111,108]) (Tr.ok (zx.ret (AV.bool (bif aU e.v then bif dC e.s then !iB e.s else false else false)) [AO.box [ai (IntKind.i64.wrap (n+1))]])) (Tr.br (bif !aU e.v then true else !e.s==[]) (Tr.ok (zx.ret (AV.kb false) [AO.box [ai (IntKind.i64.wrap (n+1))]])) (Tr.ok (zx.head 12 (zI Tryz.f181 12) (E4 d e.l (↑e.l.length:Int) 0 (IntKind.i64.wrap (n+1)))))))):=by kernel_rfl
theorem KG (g:ze→Int→Int→Bool×Int) (c:ze→Int→Int→Bool) (i2:Int) (l73:LX) (i74:Int) (i75:Int) (ja0:Int):rh (LW g c) 1 zcu Tryz.f181 12 (E4 i2 l73 i74 i75 ja0)=Tr.br (decide (i75 < i74)) (Tr.chk (zR i75 l73.length) (Tr.chk (c (zm (l73.getD i75.toNat (zi Sh.expr))) (IntKind.i64.wrap (i2+1)) ja0) (Tr.br (!(g (zm (l73.getD i75.toNat (zi Sh.expr))) (IntKind.i64.wrap (i2+1)) ja0).1) (Tr.ok (zx.ret (AV.kb false) [AO.box [AV.int IntKind.i64 (g (zm (l73.getD i75.toNat (zi Sh.expr))) (IntKind.i64.wrap (i2+1)) ja0).2]])) (Tr.ok (zx.head 12 (zI Tryz.f181 12) (E4 i2 l73 i74 (IntKind.i64.wrap (i75+1)) (g (zm (l73.getD i75.toNat (zi Sh.expr))) (IntKind.i64.wrap (i2+1)) ja0).2)))))) (Tr.ok (zx.ret (AV.kb true) [AO.box [ai ja0]])):=by kernel_rfl

def nr (g:ze→Int→Int→Bool×Int) (d:Int):List ze→Int→Bool×Int
 | [],n=>(true,n)
 | x::r,n=>if (!(g x (IntKind.i64.wrap (d+1)) n).1)=true then (false,(g x (IntKind.i64.wrap (d+1)) n).2) else nr g d r (g x (IntKind.i64.wrap (d+1)) n).2
def yS (g:ze→Int→Int→Bool×Int) (c:ze→Int→Int→Bool) (d:Int):List ze→Int→Bool
 | [],_=>true
 | x::r,n=>if c x (IntKind.i64.wrap (d+1)) n=true then (if (!(g x (IntKind.i64.wrap (d+1)) n).1)=true then true else yS g c d r (g x (IntKind.i64.wrap (d+1)) n).2) else false

theorem zeB {g:ze→Int→Int→Bool×Int} {c:ze→Int→Int→Bool} (hg:FK 181 (H4 g c)) {C:dl} (hC:∀ id,1≤id→C.ρ0 id=none) (d:Int) (l:List ze) (hl:l.length≤zA):
  ∀ (k i:Nat) (n:Int),l.length - i=k→i≤l.length→yS g c d (l.drop i) n=true→Reach (LW g c) C 181 (zI Tryz.f181 12) (E4 d l l.length i n) (fun r h=>avB r=some (nr g d (l.drop i) n).1∧h=[.box [.int .i64 (nr g d (l.drop i) n).2]]):=by
 intro k
 induction k with
 | zero=>
  intro i n hk hi hc
  obtain rfl:i=l.length:=by omega
  refine zr (x9 hg) (Pt g c) hC (KG g c _ _ _ _ _) ?_
  simp only [zH,Tr.val_brF,ey]
  exact ⟨rfl,rfl⟩
 | succ k IH=>
  intro i n hk hi hc
  have hlt:i < l.length:=by omega
  refine zr (x9 hg) (Pt g c) hC (KG g c _ _ _ _ _) ?_
  rw [dF hlt] at hc ⊢
  rw [yS] at hc
  have hc1:=o7 hc
  simp only [zM hlt,zB hlt,bt l _ hlt,ze.eta,Tr.val_brT,Tr.val_chkT,hc1.1,zt i (by omega)]
  refine ln (fun h=>?_) (fun h=>?_)
  ·rw [nr,if_pos h]; exact ⟨rfl,rfl⟩
  ·rw [nr,if_neg (lH h)]
   have h2:=hc1.2
   rw [if_neg (lH h)] at h2
   exact IH (i+1) _ (by omega) (by omega) h2

def wm (g:ze→Int→Int→Bool×Int) (e:ze) (d n:Int):Bool×Int:=if (bif decide (d > 12) then true else bif decide (IntKind.i64.wrap (n+1) > 60) then true else (↑e.l.length:Int) != cE e.op)=true then (false,IntKind.i64.wrap (n+1)) else if (e.op==[108,105,116])=true then (bif e.s==[] then ce e.v else false,IntKind.i64.wrap (n+1)) else if (e.op==[99,111,108])=true then (bif aU e.v then bif dC e.s then !iB e.s else false else false,IntKind.i64.wrap (n+1)) else if (bif !aU e.v then true else !e.s==[])=true then (false,IntKind.i64.wrap (n+1)) else nr g d e.l (IntKind.i64.wrap (n+1))
def Kw (g:ze→Int→Int→Bool×Int) (c:ze→Int→Int→Bool) (e:ze) (d n:Int):Bool:=if (bif decide (d > 12) then true else bif decide (IntKind.i64.wrap (n+1) > 60) then true else (↑e.l.length:Int) != cE e.op)=true then true else if (e.op==[108,105,116])=true then true else if (e.op==[99,111,108])=true then true else if (bif !aU e.v then true else !e.s==[])=true then true else yS g c d e.l (IntKind.i64.wrap (n+1))

theorem V3 {g:ze→Int→Int→Bool×Int} {c:ze→Int→Int→Bool} (hg:FK 181 (H4 g c)):FK 181 (H4 (wm g) (Kw g c)):=by
 refine dD (E:=LW g c) (Pt g c) fun x h0 res hx C hC=>?_
 unfold WN at hx
 split at hx
 ·rename_i e d u n
  simp only [Tr.val] at hx
  split at hx
  ·rename_i hc
   simp only [bz] at hx
   subst hx
   refine Reach.toBool ?_
   refine zr (n0:=1) (x9 hg) (Pt g c) hC (zfr g c e d n) ?_
   generalize hy:wm g e d n=y
   unfold wm at hy
   unfold Kw at hc
   repeat' (refine ln (fun hsp=>?_) (fun hsp=>?_) <;> first | (rw [if_pos hsp] at hy hc) | (rw [if_neg (lH hsp)] at hy hc))
   all_goals subst hy
   ·exact ⟨rfl,rfl⟩
   ·exact ⟨rfl,rfl⟩
   ·exact ⟨rfl,rfl⟩
   ·exact ⟨rfl,rfl⟩
   ·exact Reach.len 73 .expr e.l rfl fun hl=>zeB hg hC d e.l hl _ 0 _ rfl (aK _) hc
  ·simp at hx
 ·simp at hx

mutual
def gB:Nat→ze→Int→Int→Bool×Int
 | 0=>fun _ _ _=>(false,0)
 | n+1=>wm (gB n)
def sE:Nat→ze→Int→Int→Bool
 | 0=>fun _ _ _=>false
 | n+1=>Kw (gB n) (sE n)
end
theorem M4:∀ n,FK 181 (H4 (gB n) (sE n))
 | 0=>by
  have h:FK 181 (bh [none,some .expr,some zf] (fun _ _=>.err)):=dD (Pt (fun _ _ _=>(false,0)) (fun _ _ _=>false)) (E:=J9) fun x h0 res hx=>by simp at hx
  refine Dw (ι:=Unit) (Gs:=fun _ _ _=>.err) (fun _=>h) fun x h0 res hx=>?_
  unfold WN at hx
  split at hx
  ·simp [Tr.val,sE] at hx
  ·simp at hx
 | n+1=>V3 (M4 n)
def F37:zT:=H4 (gB 16) (sE 16)
theorem zah:FK 181 F37:=M4 16

noncomputable def Ch:=J9.add 181 F37
theorem ul:zy Ch:=Cg.add zah

abbrev hY:List (zw×AV):=[([97,110,100],.clo (.func 252) [] []),([111,114],.clo (.func 253) [] []),([110,111,116],.clo (.func 254) [] []),([61],.clo (.func 256) [] []),([60],.clo (.func 257) [] []),([43],.clo (.func 258) [] []),([45],.clo (.func 259) [] []),([110,117,108,108],.clo (.func 260) [] [])]
abbrev zge:Nat→aJ:=fun _=>{ }
theorem zc8:zK Ch.P 218 Tryz.f218 0:=bN (by kernel_rfl)
theorem zfi:(run Ch 0 zge (Func.results Tryz.f218).toList 400 (bv Tryz.f218) (bc (Func.ntmps Tryz.f218) [] [])).val=some (zx.ret (AV.mp 0) [AO.fmap hY]):=by kernel_rfl
def G23:ie []:=fun _ h=>match h with
 | []=>.ok (.mp 0,[.fmap hY])
 | _=>.err
def F23:zT:=bh [] G23
theorem Z7:FK 218 F23:=by
 refine dD zc8 fun x h0 res hx C hC=>?_
 unfold G23 at hx
 split at hx
 ·simp only [Tr.val,bz] at hx
  subst hx
  exact pK (n0:=0) ul zc8 hC zfi rfl
 ·simp at hx

def YD (op:zw) (x y:V):V:=if (op==[97,110,100])=true then BM x y else if (op==[111,114])=true then QI x y else if (op==[110,111,116])=true then Ln x y else if (op==[61])=true then lh x y else if (op==[60])=true then qF x y else if (op==[43])=true then qG x y else if (op==[45])=true then ll x y else if (op==[110,117,108,108])=true then Fy x y else (0,0,[])
def opC (op:zw):Bool:=if (op==[97,110,100])=true then true else if (op==[111,114])=true then true else if (op==[110,111,116])=true then true else if (op==[61])=true then true else if (op==[60])=true then true else if (op==[43])=true then true else if (op==[45])=true then true else if (op==[110,117,108,108])=true then true else false
def opL (op:zw) (x y:V) (h:List AO):Option zx:=if (op==[97,110,100])=true then some (.ret (zF zg (BM x y)) h) else if (op==[111,114])=true then some (.ret (zF zg (QI x y)) h) else if (op==[110,111,116])=true then some (.ret (zF zg (Ln x y)) h) else if (op==[61])=true then some (.ret (zF zg (lh x y)) h) else if (op==[60])=true then some (.ret (zF zg (qF x y)) h) else if (op==[43])=true then some (.ret (zF zg (qG x y)) h) else if (op==[45])=true then some (.ret (zF zg (ll x y)) h) else if (op==[110,117,108,108])=true then some (.ret (zF zg (Fy x y)) h) else none

def WM (g:List (Sem zh)→List (Sem zg)→ze→V) (c:List (Sem zh)→List (Sem zg)→ze→Bool):ie [none,some .expr]:=fun x h=>match x,h with
 | (.agg [.sl (.pr .str (.pr (.int .i64) .bool)) cols,.sl (.pr (.int .i64) (.pr (.int .i64) .str)) row,.mp 0],e,_),[.fmap [(k1,.clo (.func 252) [] []),(k2,.clo (.func 253) [] []),(k3,.clo (.func 254) [] []),(k4,.clo (.func 256) [] []),(k5,.clo (.func 257) [] []),(k6,.clo (.func 258) [] []),(k7,.clo (.func 259) [] []),(k8,.clo (.func 260) [] [])]]=>
  .chk (k1==[97,110,100]&&(k2==[111,114]&&(k3==[110,111,116]&&(k4==[61]&&(k5==[60]&&(k6==[43]&&(k7==[45]&&(k8==[110,117,108,108])))))))) (.chk (c cols row e) (.ok (zF zg (g cols row e),[.fmap hY])))
 | _,_=>.err
def Lr (g:List (Sem zh)→List (Sem zg)→ze→V) (c:List (Sem zh)→List (Sem zg)→ze→Bool):zT:=bh [none,some .expr] (WM g c)
noncomputable def LR (g:List (Sem zh)→List (Sem zg)→ze→V) (c:List (Sem zh)→List (Sem zg)→ze→Bool):bS:=Ch.add 219 (Lr g c)
theorem x7 {g:List (Sem zh)→List (Sem zg)→ze→V} {c:List (Sem zh)→List (Sem zg)→ze→Bool} (hg:FK 219 (Lr g c)):zy (LR g c):=ul.add hg
theorem Pq (g:List (Sem zh)→List (Sem zg)→ze→V) (c:List (Sem zh)→List (Sem zg)→ze→Bool):zK (LR g c).P 219 Tryz.f219 2:=bN (by kernel_rfl)
theorem Xt (g:List (Sem zh)→List (Sem zg)→ze→V) (c:List (Sem zh)→List (Sem zg)→ze→Bool) (cols:LC) (row:LV) (op:zw) (v:V) (s:zw):(run (LR g c) 1 YI (Func.results Tryz.f219).toList 600 (bv Tryz.f219) (bc (Func.ntmps Tryz.f219) [AV.agg [AV.sl zh cols,AV.sl zg row,AV.mp 0],zF Sh.expr (.mk op v s [])] [AO.fmap hY])).val=if (op==[108,105,116])=true then some (.ret (zF zg v) [.fmap hY]) else if (op==[99,111,108])=true then (if (bif decide (zQ cols s < 0) then true else decide (zQ cols s ≥ (↑row.length:Int)))=true then some (.ret (zF zg (0,0,[])) [.fmap hY]) else if zR (zQ cols s) row.length=true then some (.ret (zF zg (row.getD (toNat (zQ cols s)) (zi zg))) [.fmap hY]) else none) else opL op (0,0,[]) (0,0,[]) [.fmap hY]:=by kernel_rfl
theorem Xu (g:List (Sem zh)→List (Sem zg)→ze→V) (c:List (Sem zh)→List (Sem zg)→ze→Bool) (cols:LC) (row:LV) (op:zw) (v:V) (s:zw) (a:ze):(run (LR g c) 1 YI (Func.results Tryz.f219).toList 600 (bv Tryz.f219) (bc (Func.ntmps Tryz.f219) [AV.agg [AV.sl zh cols,AV.sl zg row,AV.mp 0],zF Sh.expr (.mk op v s [a])] [AO.fmap hY])).val=if (op==[108,105,116])=true then some (.ret (zF zg v) [.fmap hY]) else if (op==[99,111,108])=true then (if (bif decide (zQ cols s < 0) then true else decide (zQ cols s ≥ (↑row.length:Int)))=true then some (.ret (zF zg (0,0,[])) [.fmap hY]) else if zR (zQ cols s) row.length=true then some (.ret (zF zg (row.getD (toNat (zQ cols s)) (zi zg))) [.fmap hY]) else none) else if c cols row (.mk a.op a.v a.s a.l)=true then opL op (g cols row (.mk a.op a.v a.s a.l)) (0,0,[]) [.fmap hY] else none:=by kernel_rfl
theorem Xv (g:List (Sem zh)→List (Sem zg)→ze→V) (c:List (Sem zh)→List (Sem zg)→ze→Bool) (cols:LC) (row:LV) (op:zw) (v:V) (s:zw) (a b:ze):(run (LR g c) 1 YI (Func.results Tryz.f219).toList 600 (bv Tryz.f219) (bc (Func.ntmps Tryz.f219) [AV.agg [AV.sl zh cols,AV.sl zg row,AV.mp 0],zF Sh.expr (.mk op v s [a,b])] [AO.fmap hY])).val=if (op==[108,105,116])=true then some (.ret (zF zg v) [.fmap hY]) else if (op==[99,111,108])=true then (if (bif decide (zQ cols s < 0) then true else decide (zQ cols s ≥ (↑row.length:Int)))=true then some (.ret (zF zg (0,0,[])) [.fmap hY]) else if zR (zQ cols s) row.length=true then some (.ret (zF zg (row.getD (toNat (zQ cols s)) (zi zg))) [.fmap hY]) else none) else if c cols row (.mk a.op a.v a.s a.l)=true then (if c cols row (.mk b.op b.v b.s b.l)=true then opL op (g cols row (.mk a.op a.v a.s a.l)) (g cols row (.mk b.op b.v b.s b.l)) [.fmap hY] else none) else none:=by kernel_rfl

theorem oS {Φ:zx→Prop} {c:Bool} {a b:Option zx} (h1:c=true→fN Φ a) (h2:c=false→fN Φ b):fN Φ (if c=true then a else b):=by
 cases c
 ·simpa using h2 rfl
 ·simpa using h1 rfl
theorem uX {E:bS} {C:dl} {k:FuncId} {f:Func} {Q:AV→List AO→Prop} {n n0:Nat} (hE:zy E) (hf:zK E.P k f n) (hC:∀ id,n0≤id→C.ρ0 id=none) {keep:Nat→aJ} {fuel:Nat}
  {todo:List Item} {st:St} {o:Option zx} (ht:(run E n0 keep f.results.toList fuel todo st).val=o) (h:fN (iZ E C k Q) o):Reach E C k todo st Q:=
 zr hE hf hC rfl (by rw [ht]; exact h)

theorem uJ {E:bS} {C:dl} {op:zw} {x y:V} {h:List AO} (hc:opC op=true):fN (iZ E C 219 (fun r h'=>(r,h')=(zF zg (YD op x y),h))) (opL op x y h):=by
 generalize hy:YD op x y=z
 unfold opC at hc
 unfold YD at hy
 unfold opL
 repeat' (refine oS (fun hsp=>?_) (fun hsp=>?_) <;> first | (rw [if_pos hsp] at hy; try rw [if_pos hsp] at hc) | (rw [if_neg (lH hsp)] at hy; try rw [if_neg (lH hsp)] at hc))
 all_goals first | (cases hc; done) | (subst hy; rfl)

def pZ (g:List (Sem zh)→List (Sem zg)→ze→V) (cols:LC) (row:LV):ze→V
 | .mk op v s l=>if (op==[108,105,116])=true then v else
  if (op==[99,111,108])=true then (if (bif decide (zQ cols s < 0) then true else decide (zQ cols s ≥ (↑row.length:Int)))=true then (0,0,[]) else row.getD (toNat (zQ cols s)) (zi zg)) else
  match l with
  | []=>YD op (0,0,[]) (0,0,[])
  | [a]=>YD op (g cols row a) (0,0,[])
  | [a,b]=>YD op (g cols row a) (g cols row b)
  | _=>(0,0,[])
def tT (c:List (Sem zh)→List (Sem zg)→ze→Bool) (cols:LC) (row:LV):ze→Bool
 | .mk _ _ _ (_::_::_::_)=>false
 | .mk op _ s l=>if (op==[108,105,116])=true then true else
  if (op==[99,111,108])=true then (if (bif decide (zQ cols s < 0) then true else decide (zQ cols s ≥ (↑row.length:Int)))=true then true else zR (zQ cols s) row.length) else
  match l with
  | []=>opC op
  | [a]=>if c cols row a=true then opC op else false
  | [a,b]=>if c cols row a=true then (if c cols row b=true then opC op else false) else false
  | _=>false

theorem VR {g:List (Sem zh)→List (Sem zg)→ze→V} {c:List (Sem zh)→List (Sem zg)→ze→Bool} (hg:FK 219 (Lr g c)):FK 219 (Lr (pZ g) (tT c)):=by
 refine dD (E:=LR g c) (Pq g c) fun x h0 res hx C hC=>?_
 unfold WM at hx
 split at hx
 ·rename_i cols row e u k1 k2 k3 k4 k5 k6 k7 k8
  simp only [Tr.val] at hx
  split at hx
  ·rename_i hk
   split at hx
   ·rename_i hc
    simp only [aV,bb] at hk
    obtain ⟨rfl,rfl,rfl,rfl,rfl,rfl,rfl,rfl⟩:=hk
    simp only [bz] at hx
    subst hx
    obtain ⟨op,v,s,l⟩:=e
    match l,hc with
    | [],hc=>
     refine uX (n0:=1) (x7 hg) (Pq g c) hC (Xt g c cols row op v s) ?_
     generalize hy:pZ g cols row (.mk op v s [])=z
     rw [tT] at hc
     rw [pZ] at hy
     repeat' (first | (subst hy; exact uJ hc) | refine oS (fun hsp=>?_) (fun hsp=>?_) <;> first | (first | rw [if_pos hsp] at hy hc | rw [if_pos hsp] at hc | rw [if_pos hsp] at hy) | (first | rw [if_neg (lH hsp)] at hy hc | rw [if_neg (lH hsp)] at hc | rw [if_neg (lH hsp)] at hy) | skip)
     all_goals first | (subst hy; exact uJ hc) | (subst hy; rfl) | (rw [hc] at hsp; cases hsp)
    | [a],hc=>
     refine uX (n0:=1) (x7 hg) (Pq g c) hC (Xu g c cols row op v s a) ?_
     generalize hy:pZ g cols row (.mk op v s [a])=z
     rw [tT] at hc
     rw [pZ] at hy
     simp only [ze.eta]
     repeat' (first | (subst hy; exact uJ hc) | refine oS (fun hsp=>?_) (fun hsp=>?_) <;> first | (first | rw [if_pos hsp] at hy hc | rw [if_pos hsp] at hc | rw [if_pos hsp] at hy) | (first | rw [if_neg (lH hsp)] at hy hc | rw [if_neg (lH hsp)] at hc | rw [if_neg (lH hsp)] at hy) | skip)
     all_goals first | (subst hy; exact uJ hc) | (subst hy; rfl) | (cases hc; done) | (rw [hc] at hsp; cases hsp)
    | [a,b],hc=>
     refine uX (n0:=1) (x7 hg) (Pq g c) hC (Xv g c cols row op v s a b) ?_
     generalize hy:pZ g cols row (.mk op v s [a,b])=z
     rw [tT] at hc
     rw [pZ] at hy
     simp only [ze.eta]
     repeat' (first | (subst hy; exact uJ hc) | refine oS (fun hsp=>?_) (fun hsp=>?_) <;> first | (first | rw [if_pos hsp] at hy hc | rw [if_pos hsp] at hc | rw [if_pos hsp] at hy) | (first | rw [if_neg (lH hsp)] at hy hc | rw [if_neg (lH hsp)] at hc | rw [if_neg (lH hsp)] at hy) | skip)
     all_goals first | (subst hy; exact uJ hc) | (subst hy; rfl) | (cases hc; done) | (rw [hc] at hsp; cases hsp)
    | _::_::_::_,hc=>
     cases hc
   ·simp at hx
  ·simp at hx
 ·simp at hx

mutual
def cS:Nat→List (Sem zh)→List (Sem zg)→ze→V
 | 0=>fun _ _ _=>(0,0,[])
 | n+1=>pZ (cS n)
def tS:Nat→List (Sem zh)→List (Sem zg)→ze→Bool
 | 0=>fun _ _ _=>false
 | n+1=>tT (tS n)
end
theorem M2:∀ n,FK 219 (Lr (cS n) (tS n))
 | 0=>by
  have h:FK 219 (bh [none,some .expr] (fun _ _=>.err)):=dD (Pq (fun _ _ _=>(0,0,[])) (fun _ _ _=>false)) (E:=Ch) fun x h0 res hx=>by simp at hx
  refine Dw (ι:=Unit) (Gs:=fun _ _ _=>.err) (fun _=>h) fun x h0 res hx=>?_
  unfold WM at hx
  split at hx
  ·simp [Tr.val,tS] at hx
  ·simp at hx
 | n+1=>VR (M2 n)
def F24:zT:=Lr (cS 16) (tS 16)
theorem Z8:FK 219 F24:=M2 16

noncomputable def Ci:=Ch.addL [(218,F23),(219,F24)]
theorem um:zy Ci:=ul.addL <| fc Z7 <| fc Z8 jp

abbrev zgd:Nat→aJ:=fun _=>{ }
theorem zc7:zK (Ci).P 125 Tryz.f125 1:=bN (by kernel_rfl)
theorem zfh (x0:Sem Sh.expr):rn Ci 0 zgd Tryz.f125 [zF Sh.expr x0] []=Tr.chk (sE 16 (zm x0) 1 0) (Tr.ok (zx.ret (AV.bool (gB 16 (zm x0) 1 0).1) [])):=by kernel_rfl
def cM (x0:Sem Sh.expr):Sem Sh.bool:=(gB 16 x0 1 0).1
def vC (x0:Sem Sh.expr):Bool:=if sE 16 x0 1 0=true then true else false
def F22:zT:=zN [Sh.expr] [Sh.bool] (fun x=>vC x.1) fun x=>(cM x.1,())
theorem TX:FK 125 F22:=by
 refine au (zc7) fun x hc C hC=>?_
 unfold vC at hc
 refine zr um (zc7) (fun id _=>hC id) (zfh x.1) ?_
 generalize hy:cM x.1=y
 unfold cM at hy
 try simp only [ze.eta]
 repeat' (first | with_reducible refine jk hy hc (fun _ hy hc=>?_) (fun _ hy hc=>?_) | with_reducible refine bF hy (fun _ hy=>?_) (fun _ hy=>?_) | with_reducible refine cQ hc (fun hc=>?_) | with_reducible refine zz ?_)
 all_goals (subst hy; first | rfl)

abbrev kp7:Nat→aJ:=fun _=>{ }
theorem ok7:zK (Ci).P 25 Tryz.f25 1:=bN (by kernel_rfl)
theorem go7 (x0:Sem Sh.expr):rn Ci 0 kp7 Tryz.f25 [zF Sh.expr x0] []=Tr.chk (si 16 (zm x0) 14 80) (Tr.ok (zx.ret (AV.agg [AV.str (ze.op (kx 16 (zm x0) 14 80).1),ai (ze.v (kx 16 (zm x0) 14 80).1).1,ai (ze.v (kx 16 (zm x0) 14 80).1).2.1,AV.str (ze.v (kx 16 (zm x0) 14 80).1).2.2,AV.str (ze.s (kx 16 (zm x0) 14 80).1),AV.sl Sh.expr (ze.l (kx 16 (zm x0) 14 80).1)]) [])):=by kernel_rfl
def cY (x0:Sem Sh.expr):Sem Sh.expr:=ze.mk (ze.op (kx 16 x0 14 80).1) (ze.v (kx 16 x0 14 80).1) (ze.s (kx 16 x0 14 80).1) (ze.l (kx 16 x0 14 80).1)
def J7 (x0:Sem Sh.expr):Bool:=if si 16 x0 14 80=true then true else false
def F7:zT:=zN [Sh.expr] [Sh.expr] (fun x=>J7 x.1) fun x=>(cY x.1,())
theorem zaO:FK 25 F7:=by
 refine au (ok7) fun x hc C hC=>?_
 unfold J7 at hc
 refine zr um (ok7) (fun id _=>hC id) (go7 x.1) ?_
 generalize hy:cY x.1=y
 unfold cY at hy
 try simp only [ze.eta]
 repeat' (first | with_reducible refine jk hy hc (fun _ hy hc=>?_) (fun _ hy hc=>?_) | with_reducible refine bF hy (fun _ hy=>?_) (fun _ hy=>?_) | with_reducible refine cQ hc (fun hc=>?_) | with_reducible refine zz ?_)
 all_goals (subst hy; first | rfl)

noncomputable def Cj:=Ci.addL [(125,F22),(25,F7)]
theorem un:zy Cj:=um.addL <| fc TX <| fc zaO jp

abbrev zgf:Nat→aJ:=fun _=>{ }
theorem zdb:zK (Cj).P 76 Tryz.f76 2:=bN (by kernel_rfl)
theorem zfm (x0:Sem Sh.expr) (x1:Sem zh.sl):rn Cj 0 zgf Tryz.f76 [zF Sh.expr x0,zF zh.sl x1] []=Tr.chk (vC (zm x0)) (Tr.br (!cM (zm x0)) (Tr.ok (zx.ret (AV.tup [ai 0,ai 1]) [])) (Tr.chk (aW 16 (zm x0) x1) (Tr.ok (zx.ret (AV.tup [ai (zL 16 (zm x0) x1).1,ai (zL 16 (zm x0) x1).2]) [])))):=by kernel_rfl
def bD (x0:Sem Sh.expr) (x1:Sem zh.sl):Sem zf×Sem zf:=if (!cM x0)=true then (0,1) else ((zL 16 x0 x1).1,(zL 16 x0 x1).2)
def DR (x0:Sem Sh.expr) (x1:Sem zh.sl):Bool:=if vC x0=true then if (!cM x0)=true then true else if aW 16 x0 x1=true then true else false else false
def F30:zT:=zN [Sh.expr,zh.sl] [zf,zf] (fun x=>DR x.1 x.2.1) fun x=>((bD x.1 x.2.1).1,(bD x.1 x.2.1).2,())
theorem TY:FK 76 F30:=by
 refine au (zdb) fun x hc C hC=>?_
 unfold DR at hc
 refine zr un (zdb) (fun id _=>hC id) (zfm x.1 x.2.1) ?_
 generalize hy:bD x.1 x.2.1=y
 unfold bD at hy
 try simp only [ze.eta]
 repeat' (first | with_reducible refine jk hy hc (fun _ hy hc=>?_) (fun _ hy hc=>?_) | with_reducible refine bF hy (fun _ hy=>?_) (fun _ hy=>?_) | with_reducible refine cQ hc (fun hc=>?_) | with_reducible refine zz ?_)
 all_goals (subst hy; first | rfl)

abbrev zgb:Nat→aJ:=fun _=>{ }
theorem zc0:zK (Cj).P 172 Tryz.f172 3:=bN (by kernel_rfl)
theorem ze9 (x0:Sem Sh.expr) (x1:Sem zh.sl) (x2:Sem zg.sl):rn Cj 0 zgb Tryz.f172 [zF Sh.expr x0,zF zh.sl x1,zF zg.sl x2] []=Tr.chk (vC (zm x0)) (Tr.br (!cM (zm x0)) (Tr.ok (zx.ret (AV.agg [ai 0,ai 0,AV.str []]) [])) (Tr.chk ([97,110,100]==[97,110,100]&&([111,114]==[111,114]&&([110,111,116]==[110,111,116]&&([61]==[61]&&([60]==[60]&&([43]==[43]&&([45]==[45]&&[110,117,108,108]==[110,117,108,108]))))))) (Tr.chk (tS 16 x1 x2 (zm x0)) (Tr.ok (zx.ret (AV.agg [ai (cS 16 x1 x2 (zm x0)).1,ai (cS 16 x1 x2 (zm x0)).2.1,AV.str (cS 16 x1 x2 (zm x0)).2.2]) []))))):=by kernel_rfl
def ia (x0:Sem Sh.expr) (x1:Sem zh.sl) (x2:Sem zg.sl):Sem zg:=if (!cM x0)=true then (0,0,[]) else cS 16 x1 x2 x0
def DP (x0:Sem Sh.expr) (x1:Sem zh.sl) (x2:Sem zg.sl):Bool:=if vC x0=true then if (!cM x0)=true then true else if ([97,110,100]==[97,110,100]&&([111,114]==[111,114]&&([110,111,116]==[110,111,116]&&([61]==[61]&&([60]==[60]&&([43]==[43]&&([45]==[45]&&[110,117,108,108]==[110,117,108,108])))))))=true then if tS 16 x1 x2 x0=true then true else false else false else false
def F11:zT:=zN [Sh.expr,zh.sl,zg.sl] [zg] (fun x=>DP x.1 x.2.1 x.2.2.1) fun x=>(ia x.1 x.2.1 x.2.2.1,())
theorem TR:FK 172 F11:=by
 refine au (zc0) fun x hc C hC=>?_
 unfold DP at hc
 refine zr un (zc0) (fun id _=>hC id) (ze9 x.1 x.2.1 x.2.2.1) ?_
 generalize hy:ia x.1 x.2.1 x.2.2.1=y
 unfold ia at hy
 try simp only [ze.eta]
 repeat' (first | with_reducible refine jk hy hc (fun _ hy hc=>?_) (fun _ hy hc=>?_) | with_reducible refine bF hy (fun _ hy=>?_) (fun _ hy=>?_) | with_reducible refine cQ hc (fun hc=>?_) | with_reducible refine zz ?_)
 all_goals (subst hy; first | rfl)

noncomputable def T8:=Cj.addL [(76,F30),(172,F11)]
theorem L2:zy T8:=un.addL <| fc TY <| fc TR jp

theorem iE (d:Int) (h1:-1000≤d) (h2:d≤1000):IntKind.i64.wrap d=d:=by
 rw [fD]; omega

theorem CI {g:Sem Sh.expr→Sem zf→Sem zf→Sem Sh.expr×Sem zf} {c:Sem Sh.expr→Sem zf→Sem zf→Bool} {i1:Int} (h:∀ x n,0 < i1→c x (IntKind.i64.wrap (i1 - 1)) n=true) {a0:zw} {a1 a2:Int} {a3 a4 b0:zw} {b1 b2:Int} {b3 b4 d0:zw} {d1 d2:Int} {d3 d4:zw}:
  ∀ (l:List (Sem Sh.expr)) (i n:Int) (acc:List (Sem Sh.expr)),(acc.length:Int)≤i→cZ g c i1 a0 a1 a2 a3 a4 b0 b1 b2 b3 b4 d0 d1 d2 d3 d4 l i n acc=true
 | [],_,_,_,_=>rfl
 | x::r,i,n,acc,hi=>by
  rw [cZ]
  split
  ·rename_i hk
   have h3:i < 3∧i1 > 0:=by
    cases h1:decide (i < 3) <;> cases h2:decide (i1 > 0) <;> simp_all
   rw [if_pos (h x n h3.2),if_pos (by simp; omega)]
   exact CI h r (i+1) _ _ (by simp; omega)
  ·rfl

theorem ID {g:Sem Sh.expr→Sem zf→Sem zf→Sem Sh.expr×Sem zf} {c:Sem Sh.expr→Sem zf→Sem zf→Bool} {i1:Int} (h:∀ x n,0 < i1→c x (IntKind.i64.wrap (i1 - 1)) n=true) (e:ze) (n:Int):GJ g c e i1 n=true:=by
 have hl:=fun a0 a1 a2 a3 a4 b0 b1 b2 b3 b4 d0 d1 d2 d3 d4 l n=>CI (g:=g) h (a0:=a0) (a1:=a1) (a2:=a2) (a3:=a3) (a4:=a4) (b0:=b0) (b1:=b1) (b2:=b2) (b3:=b3) (b4:=b4) (d0:=d0) (d1:=d1) (d2:=d2) (d3:=d3) (d4:=d4) l 0 n [] (by simp)
 unfold GJ
 repeat' split
 all_goals first
  | exact hl _ _ _ _ _ _ _ _ _ _ _ _ _ _ _ _ _
  | (exfalso; simp only [aN,aV,not_and] at *; omega)

theorem yr:∀ (N:Nat) (e:ze) (d n:Int),0≤d→d < N→N≤100→si N e d n=true
 | 0,_,_,_,h1,h2,_=>by omega
 | N+1,e,d,n,h1,h2,h3=>by
  rw [si]
  refine ID (fun x m hd=>?_) e n
  rw [iE _ (by omega) (by omega)]
  exact yr N x (d - 1) m (by omega) (by omega) (by omega)

theorem yT {g:ze→Int→Int→Bool×Int} {c:ze→Int→Int→Bool} {d:Int} (h:∀ x n,c x (IntKind.i64.wrap (d+1)) n=true):∀ (l:List ze) (n:Int),yS g c d l n=true
 | [],_=>rfl
 | x::r,n=>by
  rw [yS,if_pos (h x n)]
  split
  ·rfl
  ·exact yT h r _

theorem yR:∀ (N:Nat) (e:ze) (d n:Int),0≤d→d≤13→14≤d+N→sE N e d n=true
 | 0,_,_,_,_,_,_=>by omega
 | N+1,e,d,n,h1,h2,h3=>by
  rw [sE]
  unfold Kw
  by_cases hd:d > 12
  ·simp [hd]
  ·have hl:yS (gB N) (sE N) d e.l (IntKind.i64.wrap (n+1))=true:=yT (fun x m=>by
    rw [iE _ (by omega) (by omega)]
    exact yR N x (d+1) m (by omega) (by omega) (by omega)) _ _
   repeat' split
   all_goals first | rfl | exact hl

abbrev uI:ze:=.mk [] (0,0,[]) [] []

theorem Jw (N:Nat) (e:ze):gW (N+1) e uI=true:=by
 rw [gW]
 unfold E8
 have hl:vE (eQ N) (gW N) e.l []=true:=by
  unfold vE
  split
  ·rfl
  ·cases e.l <;> rfl
 show (bif e.op==[] then bif QG e.v (0,0,[]) then bif e.s==[] then vE (eQ N) (gW N) e.l [] else true else true else true)=true
 rw [hl]
 cases e.op==[] <;> cases QG e.v (0,0,[]) <;> cases e.s==[] <;> rfl

theorem gJ {α:Type} (p:α→Bool):∀ (l:List α) (i:Nat),aj p l i=-1∨((i:Int)≤aj p l i∧aj p l i < i+l.length)
 | [],_=>.inl rfl
 | x::r,i=>by
  unfold aj
  split
  ·exact .inr ⟨by omega,by simp; omega⟩
  ·rcases gJ p r (i+1) with h | ⟨h1,h2⟩
   ·exact .inl h
   ·exact .inr ⟨by omega,by simp; omega⟩

theorem DJ (l:List (Sem zh)) (s:zw):zQ l s=-1∨(0≤zQ l s∧zQ l s < l.length):=by
 have:=gJ (fun c:Sem zh=>c.1==s) l 0
 unfold zQ
 simpa using this

theorem kM (op:zw):(cE op=0∧(op=[108,105,116]∨op=[99,111,108]))∨(cE op=1∧(op=[110,111,116]∨op=[110,117,108,108]))∨
  (cE op=2∧(op=[97,110,100]∨op=[111,114]∨op=[61]∨op=[60]∨op=[43]∨op=[45]))∨cE op=-1:=by
 unfold cE vW
 simp only [Lf]
 repeat' split
 all_goals simp_all

theorem uH {g:ze→Int→Int→Bool×Int} {e:ze} {d n:Int} (h:(wm g e d n).1=true):(e.l.length:Int)=cE e.op∧
  ((e.op=[108,105,116]∨e.op=[99,111,108])∨(nr g d e.l (IntKind.i64.wrap (n+1))).1=true):=by
 unfold wm at h
 split at h
 ·cases h
 ·rename_i h1
  have hl:(e.l.length:Int)=cE e.op:=by
   cases h2:decide (d > 12) <;> cases h3:decide (IntKind.i64.wrap (n+1) > 60) <;> simp_all
  refine ⟨hl,?_⟩
  split at h
  ·rename_i h2; exact .inl (.inl (by simpa using h2))
  ·split at h
   ·rename_i h2; exact .inl (.inr (by simpa using h2))
   ·split at h
    ·cases h
    ·exact .inr h

theorem sF {g:ze→Int→Int→Bool×Int} {d:Int}:∀ (l:List ze) (n:Int),(nr g d l n).1=true→∀ x∈l,∃ m,(g x (IntKind.i64.wrap (d+1)) m).1=true
 | [],_,_,_,hx=>by simp at hx
 | y::r,n,h,x,hx=>by
  rw [nr] at h
  split at h
  ·cases h
  ·rename_i hy
   rcases dQ.1 hx with rfl | hx
   ·exact ⟨n,by simpa using hy⟩
   ·exact sF r _ h x hx

theorem wh {g:ze→List (Sem zh)→Int×Int} {c:ze→List (Sem zh)→Bool} {cols:List (Sem zh)} {op:zw} {a1 a2:Int} {a3 a4:zw} {w:List ze}:
    ∀ (l:List ze) (i:Int) (acc:List Int),(∀ x∈l,c x cols=true)→((acc.length:Int)+l.length)=cE op→fB g c cols op a1 a2 a3 a4 w l i acc=true
  | [], i,acc,_,hp=>by
    have hp:(acc.length:Int)=cE op:=by simpa using hp
    have hcp:decide (zQ cols a4 < 0)=true∨zR (zQ cols a4) cols.length=true:=by
      rcases DJ cols a4 with h | ⟨h1,h2⟩
      · exact .inl (by rw [h]; rfl)
      · exact .inr (by simp [zR,h1,h2])
    have h2:op=[61]∨op=[60]→acc.length=2:=by
      rintro (rfl | rfl)
      · have:cE [61]=2:=by decide
        omega
      · have:cE [60]=2:=by decide
        omega
    unfold fB
    repeat' split
    all_goals first
      | rfl
      | (exfalso; rcases hcp with h | h <;> simp_all; done)
      | (exfalso
         rename_i h7 h8
         have h9:=h2 (by simp_all)
         rw [h9] at h8
         exact h8 (by cases hA:(acc.getD (toNat 0) (zi zf)==acc.getD (toNat 1) (zi zf)) <;> cases hB:(acc.getD (toNat 0) (zi zf)==0) <;> rfl))
  | x :: r,i,acc,hc,hp=>by
    have hle:cE op≤2:=by rcases kM op with h | h | h | h <;> omega
    rw [fB,if_pos (hc x (by simp))]
    split
    · rfl
    · rw [if_pos (by simp at hp ⊢; omega)]
      exact wh r (i+1) _ (fun y hy=>hc y (by simp [hy])) (by simp at hp ⊢; omega)

theorem tR:∀ (N:Nat) (e:ze) (d n:Int) (cols:List (Sem zh)),(gB N e d n).1=true→aW N e cols=true
 | 0,_,_,_,_,h=>by cases h
 | N+1,e,d,n,cols,h=>by
  rw [gB] at h
  obtain ⟨hl,h2⟩:=uH h
  rw [aW]
  unfold xp
  refine wh e.l 0 [] (fun x hx=>?_) (by simpa using hl)
  rcases h2 with h2 | h2
  ·exfalso
   have:cE e.op=0:=by
    rcases h2 with h2 | h2 <;> rw [h2] <;> decide
   rw [this] at hl
   have:e.l=[]:=t7 (by omega)
   rw [this] at hx; simp at hx
  ·obtain ⟨m,hm⟩:=sF e.l _ h2 x hx
   exact tR N x _ _ cols hm

theorem Bi:∀ (N:Nat) (e:ze) (d n:Int) (cols:List (Sem zh)) (row:List (Sem zg)),(gB N e d n).1=true→tS N cols row e=true
 | 0,_,_,_,_,_,h=>by cases h
 | N + 1,.mk op v s l,d,n,cols,row,h=>by
  rw [gB] at h
  obtain ⟨hl,h2⟩:=uH h
  have hl:(l.length:Int)=cE op:=hl
  have h2:(op=[108,105,116]∨op=[99,111,108])∨(nr (gB N) d l (IntKind.i64.wrap (n+1))).1=true:=h2
  have hx:∀ x∈l,(¬ (op=[108,105,116]∨op=[99,111,108]))→tS N cols row x=true:=by
   intro x hx hno
   rcases h2 with h2 | h2
   ·exact (hno h2).elim
   ·obtain ⟨m,hm⟩:=sF l _ h2 x hx
    exact Bi N x _ _ cols row hm
  have hcol:(if (bif decide (zQ cols s < 0) then true else decide (zQ cols s ≥ (↑row.length:Int)))=true then true else zR (zQ cols s) row.length)=true:=by
   split
   ·rfl
   ·rename_i hh
    have h1:0≤zQ cols s∧zQ cols s < row.length:=by
     cases hq:decide (zQ cols s < 0)
     ·rw [hq] at hh
      simp at hq hh
      exact ⟨hq,hh⟩
     ·rw [hq] at hh; simp at hh
    simp [zR,h1.1,h1.2]
  rw [tS]
  rcases kM op with ⟨hp,ho⟩ | ⟨hp,ho⟩ | ⟨hp,ho⟩ | hp
  ·have:l=[]:=t7 (by omega)
   subst this
   rcases ho with rfl | rfl
   ·rfl
   ·rw [tT]; exact hcol
  ·match l,hl,hx with
   | [a],_,hx=>
    rcases ho with rfl | rfl
    ·rw [tT]; exact (if_pos (hx a (by simp) (by decide))).trans rfl
    ·rw [tT]; exact (if_pos (hx a (by simp) (by decide))).trans rfl
   | [],hl,_=>simp at hl; omega
   | _::_::_,hl,_=>simp at hl; omega
  ·match l,hl,hx with
   | [a,b],_,hx=>
    rcases ho with rfl | rfl | rfl | rfl | rfl | rfl <;>
     (rw [tT]; exact (if_pos (hx a (by simp) (by decide))).trans ((if_pos (hx b (by simp) (by decide))).trans rfl))
   | [],hl,_=>simp at hl; omega
   | [_],hl,_=>simp at hl; omega
   | _::_::_::_,hl,_=>simp at hl; omega
  ·omega

theorem qT (e:ze):vC e=true:=by
 unfold vC
 rw [if_pos (yR 16 e 1 0 (by omega) (by omega) (by omega))]
theorem Ij (e:ze):J7 e=true:=by
 unfold J7
 rw [if_pos (yr 16 e 14 80 (by omega) (by omega) (by omega))]
theorem Gi (e:ze) (cols:List (Sem zh)):DR e cols=true:=by
 unfold DR
 rw [if_pos (qT e)]
 split
 ·rfl
 ·rename_i h
  rw [if_pos (tR 16 e 1 0 cols (by simpa [cM] using h))]
theorem Gh (e:ze) (cols:List (Sem zh)) (row:List (Sem zg)):DP e cols row=true:=by
 unfold DP
 rw [if_pos (qT e)]
 split
 ·rfl
 ·rename_i h
  rw [if_pos (by decide),if_pos (Bi 16 e 1 0 cols row (by simpa [cM] using h))]

def Zd:zT:=aD [Sh.expr] [Sh.bool] fun x=>(cM x.1,())
theorem VP:FK 125 Zd:=fq TX fun x=>qT x.1
def F7t:zT:=aD [Sh.expr] [Sh.expr] fun x=>(cY x.1,())
theorem zaW:FK 25 F7t:=fq zaO fun x=>Ij x.1
def Zj:zT:=aD [Sh.expr,zh.sl] [zf,zf] fun x=>((bD x.1 x.2.1).1,(bD x.1 x.2.1).2,())
theorem VX:FK 76 Zj:=fq TY fun x=>Gi x.1 x.2.1
def YT:zT:=aD [Sh.expr,zh.sl,zg.sl] [zg] fun x=>(ia x.1 x.2.1 x.2.2.1,())
theorem Vt:FK 172 YT:=fq TR fun x=>Gh x.1 x.2.1 x.2.2.1

noncomputable def m7:=T8.addL [(125,Zd),(25,F7t),(76,Zj),(172,YT)]
theorem iq:zy m7:=L2.addL <| fc VP <| fc zaW <| fc VX <| fc Vt jp

abbrev zgc:Nat→aJ:=fun _=>{ }
theorem zc5:zK (m7).P 48 Tryz.f48 2:=bN (by kernel_rfl)
theorem zff (x0:Sem Sh.expr) (x1:Sem zh.sl):rn m7 0 zgc Tryz.f48 [zF Sh.expr x0,zF zh.sl x1] []=Tr.chk (gW 16 (zm x0) (ze.mk [] (0,0,[]) [] [])) (Tr.br (eQ 16 (zm x0) (ze.mk [] (0,0,[]) [] [])) (Tr.ok (zx.ret (ai 0) [])) (Tr.br (bif (bD (zm x0) x1).2==0 then bif (bD (zm x0) x1).1 != 3 then (bD (zm x0) x1).1 != 0 else false else false) (Tr.ok (zx.ret (ai 5) [])) (Tr.ok (zx.ret (ai (bD (zm x0) x1).2) [])))):=by kernel_rfl
def ej (x0:Sem Sh.expr) (x1:Sem zh.sl):Sem zf:=(if eQ 16 x0 (ze.mk [] (0,0,[]) [] [])=true then 0 else if (bif (bD x0 x1).2==0 then bif (bD x0 x1).1 != 3 then (bD x0 x1).1 != 0 else false else false)=true then 5 else (bD x0 x1).2)
def xf (x0:Sem Sh.expr) (_:Sem zh.sl):Bool:=(if gW 16 x0 (ze.mk [] (0,0,[]) [] [])=true then true else false)
def F19:zT:=zN [Sh.expr,zh.sl] [zf] (fun x=>xf x.1 x.2.1) fun x=>(ej x.1 x.2.1,())
theorem TW:FK 48 F19:=by
 refine au (zc5) fun x hc C hC=>?_
 unfold xf at hc
 refine zr iq (zc5) (fun id _=>hC id) (zff x.1 x.2.1) ?_
 generalize hy:ej x.1 x.2.1=y
 unfold ej at hy
 try simp only [ze.eta]
 repeat' (first | with_reducible refine jk hy hc (fun _ hy hc=>?_) (fun _ hy hc=>?_) | with_reducible refine bF hy (fun _ hy=>?_) (fun _ hy=>?_) | with_reducible refine cQ hc (fun hc=>?_) | with_reducible refine zz ?_)
 all_goals (subst hy; first | rfl)

abbrev kp5:Nat→aJ:=fun j=>if j=3 then { slots:=[1,2,3,4],prom:=[(3,some 3,zf)] } else if j=7 then { slots:=[1,2,3,5],prom:=[(3,some 4,zq)] } else { }
abbrev Qh (i4:Int) (ja0:TS) (ja1:LC) (ja2:Sem zf) (ja3:LI) (ja4:LF) (ja5:zw) (ja6:Int) (ja7:Int) (ja8:zw) (ja9:zw) (ja10:LX) (jb0:List UInt8) (jb2:Int) (jb5:List UInt8) (jb6:Int) (jb7:Int) (jb8:List UInt8) (jb9:List UInt8) (jc0:TS) (jc1:LC) (jc2:Sem zf) (jc5:zw) (jc6:Int) (jc7:Int) (jc8:zw) (jc9:zw) (jc10:LX) (lh_3:LI):St:={ tmps:=(tm 70 [(1,AV.ptr 0 0),(2,AV.ptr 1 0),(3,AV.ptr 2 0),(4,ai i4)]),heap:=[AO.box [AV.str ja0,AV.sl zh ja1,ai ja2,AV.sl zf ja3,AV.sl zq ja4,AV.str ja5,ai ja6,ai ja7,AV.str ja8,AV.str ja9,AV.sl Sh.expr ja10],AO.box [AV.str jb0,AV.nils,ai jb2,AV.nils,AV.nils,AV.str jb5,ai jb6,ai jb7,AV.str jb8,AV.str jb9,AV.nils],AO.box [AV.str jc0,AV.sl zh jc1,ai jc2,AV.vec 3,AV.nils,AV.str jc5,ai jc6,ai jc7,AV.str jc8,AV.str jc9,AV.sl Sh.expr jc10],AO.vec zf lh_3] }
theorem YC:zK (m7).P 56 Tryz.f56 1:=bN (by kernel_rfl)
theorem go5 (x0:Sem zl):rn m7 0 kp5 Tryz.f56 [zF zl x0] []=Tr.ok (zx.head 3 (zI Tryz.f56 3) (Qh 0 x0.1 x0.2.1 x0.2.2.1 x0.2.2.2.1 x0.2.2.2.2.1 (ze.op x0.2.2.2.2.2) (ze.v x0.2.2.2.2.2).1 (ze.v x0.2.2.2.2.2).2.1 (ze.v x0.2.2.2.2.2).2.2 (ze.s x0.2.2.2.2.2) (ze.l x0.2.2.2.2.2) [] 0 [] 0 0 [] [] (u4 x0.1) (qo x0.2.1) x0.2.2.1 (ze.op (cY (zm x0.2.2.2.2.2))) (ze.v (cY (zm x0.2.2.2.2.2))).1 (ze.v (cY (zm x0.2.2.2.2.2))).2.1 (ze.v (cY (zm x0.2.2.2.2.2))).2.2 (ze.s (cY (zm x0.2.2.2.2.2))) (ze.l (cY (zm x0.2.2.2.2.2))) [])):=by kernel_rfl
abbrev Qi (i5:Int) (ja0:TS) (ja1:LC) (ja2:Sem zf) (ja3:LI) (ja4:LF) (ja5:zw) (ja6:Int) (ja7:Int) (ja8:zw) (ja9:zw) (ja10:LX) (jb0:List UInt8) (jb2:Int) (jb5:List UInt8) (jb6:Int) (jb7:Int) (jb8:List UInt8) (jb9:List UInt8) (jc0:TS) (jc1:LC) (jc2:Sem zf) (jc5:zw) (jc6:Int) (jc7:Int) (jc8:zw) (jc9:zw) (jc10:LX) (lh_3:LI) (lh_4:LF):St:={ tmps:=(tm 70 [(1,AV.ptr 0 0),(2,AV.ptr 1 0),(3,AV.ptr 2 0),(5,ai i5)]),heap:=[AO.box [AV.str ja0,AV.sl zh ja1,ai ja2,AV.sl zf ja3,AV.sl zq ja4,AV.str ja5,ai ja6,ai ja7,AV.str ja8,AV.str ja9,AV.sl Sh.expr ja10],AO.box [AV.str jb0,AV.nils,ai jb2,AV.nils,AV.nils,AV.str jb5,ai jb6,ai jb7,AV.str jb8,AV.str jb9,AV.nils],AO.box [AV.str jc0,AV.sl zh jc1,ai jc2,AV.vec 3,AV.vec 4,AV.str jc5,ai jc6,ai jc7,AV.str jc8,AV.str jc9,AV.sl Sh.expr jc10],AO.vec zf lh_3,AO.vec zq lh_4] }
theorem U5 (i4:Int) (ja0:TS) (ja1:LC) (ja2:Sem zf) (ja3:LI) (ja4:LF) (ja5:zw) (ja6:Int) (ja7:Int) (ja8:zw) (ja9:zw) (ja10:LX) (jb0:List UInt8) (jb2:Int) (jb5:List UInt8) (jb6:Int) (jb7:Int) (jb8:List UInt8) (jb9:List UInt8) (jc0:TS) (jc1:LC) (jc2:Sem zf) (jc5:zw) (jc6:Int) (jc7:Int) (jc8:zw) (jc9:zw) (jc10:LX) (lh_3:LI):rh m7 0 kp5 Tryz.f56 3 (Qh i4 ja0 ja1 ja2 ja3 ja4 ja5 ja6 ja7 ja8 ja9 ja10 jb0 jb2 jb5 jb6 jb7 jb8 jb9 jc0 jc1 jc2 jc5 jc6 jc7 jc8 jc9 jc10 lh_3)=Tr.br (bif decide (i4 < (↑ja3.length:Int)) then decide (i4 < 10) else false) (Tr.chk (zR i4 ja3.length) (Tr.chk (decide (lh_3.length+[ja3.getD i4.toNat (zi zf)].length≤1073741824)) (Tr.ok (zx.head 3 (zI Tryz.f56 3) (Qh (IntKind.i64.wrap (i4+1)) ja0 ja1 ja2 ja3 ja4 ja5 ja6 ja7 ja8 ja9 ja10 jb0 jb2 jb5 jb6 jb7 jb8 jb9 jc0 jc1 jc2 jc5 jc6 jc7 jc8 jc9 jc10 (lh_3++[ja3.getD i4.toNat (zi zf)])))))) (Tr.ok (zx.head 7 (zI Tryz.f56 7) (Qi 0 ja0 ja1 ja2 ja3 ja4 ja5 ja6 ja7 ja8 ja9 ja10 jb0 jb2 jb5 jb6 jb7 jb8 jb9 jc0 jc1 jc2 jc5 jc6 jc7 jc8 jc9 jc10 lh_3 []))):=by kernel_rfl
theorem U6 (i5:Int) (ja0:TS) (ja1:LC) (ja2:Sem zf) (ja3:LI) (ja4:LF) (ja5:zw) (ja6:Int) (ja7:Int) (ja8:zw) (ja9:zw) (ja10:LX) (jb0:List UInt8) (jb2:Int) (jb5:List UInt8) (jb6:Int) (jb7:Int) (jb8:List UInt8) (jb9:List UInt8) (jc0:TS) (jc1:LC) (jc2:Sem zf) (jc5:zw) (jc6:Int) (jc7:Int) (jc8:zw) (jc9:zw) (jc10:LX) (lh_3:LI) (lh_4:LF):rh m7 0 kp5 Tryz.f56 7 (Qi i5 ja0 ja1 ja2 ja3 ja4 ja5 ja6 ja7 ja8 ja9 ja10 jb0 jb2 jb5 jb6 jb7 jb8 jb9 jc0 jc1 jc2 jc5 jc6 jc7 jc8 jc9 jc10 lh_3 lh_4)=Tr.br (bif decide (i5 < (↑ja4.length:Int)) then decide (i5 < 10) else false) (Tr.chk (zR i5 ja4.length) (Tr.chk (zR i5 ja4.length) (Tr.chk (decide (lh_4.length+[((ja4.getD i5.toNat (zi zq)).1,u4 (ja4.getD i5.toNat (zi zq)).2)].length≤1073741824)) (Tr.ok (zx.head 7 (zI Tryz.f56 7) (Qi (IntKind.i64.wrap (i5+1)) ja0 ja1 ja2 ja3 ja4 ja5 ja6 ja7 ja8 ja9 ja10 jb0 jb2 jb5 jb6 jb7 jb8 jb9 jc0 jc1 jc2 jc5 jc6 jc7 jc8 jc9 jc10 lh_3 (lh_4++[((ja4.getD i5.toNat (zi zq)).1,u4 (ja4.getD i5.toNat (zi zq)).2)]))))))) (Tr.ok (zx.ret (AV.agg [AV.str jc0,AV.sl zh jc1,ai jc2,AV.vec 0,AV.vec 1,AV.str jc5,ai jc6,ai jc7,AV.str jc8,AV.str jc9,AV.sl Sh.expr jc10])
 [AO.vec zf lh_3,AO.vec zq lh_4])):=by kernel_rfl
def jf (ja0:TS) (ja1:LC) (ja2:Sem zf) (ja3:LI) (ja5:zw) (ja6:Int) (ja7:Int) (ja8:zw) (ja9:zw) (ja10:LX) (jb0:List UInt8) (jb2:Int) (jb5:List UInt8) (jb6:Int) (jb7:Int) (jb8:List UInt8) (jb9:List UInt8) (jc0:TS) (jc1:LC) (jc2:Sem zf) (jc5:zw) (jc6:Int) (jc7:Int) (jc8:zw) (jc9:zw) (jc10:LX) (lh_3:LI):List (Sem zq)→Int→List (Sem zq)→Sem zl
 | [],_,lh_4=>((jc0,jc1,jc2,lh_3,lh_4,ze.mk jc5 (jc6,jc7,jc8) jc9 jc10))
 | x::r,i5,lh_4=>(if decide (i5 < 10)=true then
 jf ja0 ja1 ja2 ja3 ja5 ja6 ja7 ja8 ja9 ja10 jb0 jb2 jb5 jb6 jb7 jb8 jb9 jc0 jc1 jc2 jc5
  jc6 jc7 jc8 jc9 jc10 lh_3 r (i5+1) (lh_4++[(x.1,u4 x.2)])
else (jc0,jc1,jc2,lh_3,lh_4,ze.mk jc5 (jc6,jc7,jc8) jc9 jc10))
def jv (ja0:TS) (ja1:LC) (ja2:Sem zf) (ja3:LI) (ja5:zw) (ja6:Int) (ja7:Int) (ja8:zw) (ja9:zw) (ja10:LX) (jb0:List UInt8) (jb2:Int) (jb5:List UInt8) (jb6:Int) (jb7:Int) (jb8:List UInt8) (jb9:List UInt8) (jc0:TS) (jc1:LC) (jc2:Sem zf) (jc5:zw) (jc6:Int) (jc7:Int) (jc8:zw) (jc9:zw) (jc10:LX) (lh_3:LI):List (Sem zq)→Int→List (Sem zq)→Bool
 | [],_,_=>(true)
 | x::r,i5,lh_4=>(if decide (i5 < 10)=true then
 if decide (lh_4.length+[(x.1,u4 x.2)].length≤1073741824)=true then
  jv ja0 ja1 ja2 ja3 ja5 ja6 ja7 ja8 ja9 ja10 jb0 jb2 jb5 jb6 jb7 jb8 jb9 jc0 jc1 jc2 jc5
   jc6 jc7 jc8 jc9 jc10 lh_3 r (i5+1) (lh_4++[(x.1,u4 x.2)])
 else false
else true)
theorem zbi {C:dl} (hC:∀ id,C.ρ0 id=none) (ja0:TS) (ja1:LC) (ja2:Sem zf) (ja3:LI) (ja5:zw) (ja6:Int) (ja7:Int) (ja8:zw) (ja9:zw) (ja10:LX) (jb0:List UInt8) (jb2:Int) (jb5:List UInt8) (jb6:Int) (jb7:Int) (jb8:List UInt8) (jb9:List UInt8) (jc0:TS) (jc1:LC) (jc2:Sem zf) (jc5:zw) (jc6:Int) (jc7:Int) (jc8:zw) (jc9:zw) (jc10:LX) (lh_3:LI) (ja4:LF) (hl:ja4.length≤zA):∀ (m i:Nat) (lh_4:LF),ja4.length - i=m→i≤ja4.length→jv ja0 ja1 ja2 ja3 ja5 ja6 ja7 ja8 ja9 ja10 jb0 jb2 jb5 jb6 jb7 jb8 jb9 jc0 jc1 jc2 jc5 jc6 jc7 jc8 jc9 jc10 lh_3 (ja4.drop i) i lh_4=true→
  Reach (m7) C 56 (zI Tryz.f56 7) (Qi (i:Int) ja0 ja1 ja2 ja3 ja4 ja5 ja6 ja7 ja8 ja9 ja10 jb0 jb2 jb5 jb6 jb7 jb8 jb9 jc0 jc1 jc2 jc5 jc6 jc7 jc8 jc9 jc10 lh_3 lh_4) (fun r h=>az h [zl] r=some (jf ja0 ja1 ja2 ja3 ja5 ja6 ja7 ja8 ja9 ja10 jb0 jb2 jb5 jb6 jb7 jb8 jb9 jc0 jc1 jc2 jc5 jc6 jc7 jc8 jc9 jc10 lh_3 (ja4.drop i) i lh_4,())):=by
 intro m
 induction m with
 | zero=>
  intro i lh_4 hm hi hc
  obtain rfl:i=ja4.length:=by omega
  rw [ey] at hc ⊢
  refine zr iq (YC) (fun id _=>hC id) (U6 _ _ _ _ _ _ _ _ _ _ _ _ _ _ _ _ _ _ _ _ _ _ _ _ _ _ _ _ _ _) ?_
  rw [jv] at hc
  generalize hy:jf ja0 ja1 ja2 ja3 ja5 ja6 ja7 ja8 ja9 ja10 jb0 jb2 jb5 jb6 jb7 jb8 jb9 jc0 jc1 jc2 jc5 jc6 jc7 jc8 jc9 jc10 lh_3 [] _ lh_4=y
  rw [jf] at hy
  simp only [zH,aq,Tr.val_brF]
  repeat' (first | with_reducible refine jk hy hc (fun _ hy hc=>?_) (fun _ hy hc=>?_) | with_reducible refine bF hy (fun _ hy=>?_) (fun _ hy=>?_) | with_reducible refine cQ hc (fun hc=>?_) | with_reducible refine zz ?_)
  all_goals (subst hy; first | (change Reach _ _ _ _ _ _; apply Ic hC <;> first | assumption | exact hc) | rfl)
 | succ m IH=>
  intro i lh_4 hm hi hc
  have hlt:i < ja4.length:=by omega
  have IH:=IH (i+1)
  have hcast:((i:Int)+1)=((i+1:Nat):Int):=by omega
  have hwr:=zt i (by omega)
  rw [dF hlt] at hc ⊢
  refine zr iq (YC) (fun id _=>hC id) (U6 _ _ _ _ _ _ _ _ _ _ _ _ _ _ _ _ _ _ _ _ _ _ _ _ _ _ _ _ _ _) ?_
  rw [jv] at hc
  generalize hy:jf ja0 ja1 ja2 ja3 ja5 ja6 ja7 ja8 ja9 ja10 jb0 jb2 jb5 jb6 jb7 jb8 jb9 jc0 jc1 jc2 jc5 jc6 jc7 jc8 jc9 jc10 lh_3 (ja4[i]::ja4.drop (i+1)) (i:Int) lh_4=y
  rw [jf] at hy
  simp only [zM hlt,zB hlt,bt ja4 _ hlt,hwr,zU]
  clear hwr
  simp only [hcast] at hy
  try simp only [hcast] at hc
  repeat' (first | with_reducible refine jk hy hc (fun _ hy hc=>?_) (fun _ hy hc=>?_) | with_reducible refine bF hy (fun _ hy=>?_) (fun _ hy=>?_) | with_reducible refine cQ hc (fun hc=>?_) | with_reducible refine zz ?_)
  all_goals (subst hy; first | (change Reach _ _ _ _ _ _; apply IH <;> first | omega | assumption) | (change Reach _ _ _ _ _ _; apply Ic hC <;> first | assumption | exact hc) | rfl)
theorem Id {C:dl} (hC:∀ id,C.ρ0 id=none) (ja0:TS) (ja1:LC) (ja2:Sem zf) (ja3:LI) (ja5:zw) (ja6:Int) (ja7:Int) (ja8:zw) (ja9:zw) (ja10:LX) (jb0:List UInt8) (jb2:Int) (jb5:List UInt8) (jb6:Int) (jb7:Int) (jb8:List UInt8) (jb9:List UInt8) (jc0:TS) (jc1:LC) (jc2:Sem zf) (jc5:zw) (jc6:Int) (jc7:Int) (jc8:zw) (jc9:zw) (jc10:LX) (lh_3:LI) (ja4:LF) (lh_4:LF) (hc:jv ja0 ja1 ja2 ja3 ja5 ja6 ja7 ja8 ja9 ja10 jb0 jb2 jb5 jb6 jb7 jb8 jb9 jc0 jc1 jc2 jc5 jc6 jc7 jc8 jc9 jc10 lh_3 ja4 0 lh_4=true):
  Reach (m7) C 56 (zI Tryz.f56 7) (Qi 0 ja0 ja1 ja2 ja3 ja4 ja5 ja6 ja7 ja8 ja9 ja10 jb0 jb2 jb5 jb6 jb7 jb8 jb9 jc0 jc1 jc2 jc5 jc6 jc7 jc8 jc9 jc10 lh_3 lh_4) (fun r h=>az h [zl] r=some (jf ja0 ja1 ja2 ja3 ja5 ja6 ja7 ja8 ja9 ja10 jb0 jb2 jb5 jb6 jb7 jb8 jb9 jc0 jc1 jc2 jc5 jc6 jc7 jc8 jc9 jc10 lh_3 ja4 0 lh_4,())):=
 Reach.lenB 0 4 (zf.pr Sh.str) ja4 rfl rfl fun hl=>zbi hC ja0 ja1 ja2 ja3 ja5 ja6 ja7 ja8 ja9 ja10 jb0 jb2 jb5 jb6 jb7 jb8 jb9 jc0 jc1 jc2 jc5 jc6 jc7 jc8 jc9 jc10 lh_3 ja4 hl _ 0 lh_4 rfl (aK _) hc
def ki (ja0:TS) (ja1:LC) (ja2:Sem zf) (ja4:LF) (ja5:zw) (ja6:Int) (ja7:Int) (ja8:zw) (ja9:zw) (ja10:LX) (jb0:List UInt8) (jb2:Int) (jb5:List UInt8) (jb6:Int) (jb7:Int) (jb8:List UInt8) (jb9:List UInt8) (jc0:TS) (jc1:LC) (jc2:Sem zf) (jc5:zw) (jc6:Int) (jc7:Int) (jc8:zw) (jc9:zw) (jc10:LX) (ja3:LI):List (Sem zf)→Int→List (Sem zf)→Sem zl
 | [],_,lh_3=>(jf ja0 ja1 ja2 ja3 ja5 ja6 ja7 ja8 ja9 ja10 jb0 jb2 jb5 jb6 jb7 jb8 jb9 jc0 jc1 jc2 jc5
 jc6 jc7 jc8 jc9 jc10 lh_3 ja4 0 [])
 | x::r,i4,lh_3=>(if decide (i4 < 10)=true then
 ki ja0 ja1 ja2 ja4 ja5 ja6 ja7 ja8 ja9 ja10 jb0 jb2 jb5 jb6 jb7 jb8 jb9 jc0 jc1 jc2 jc5
  jc6 jc7 jc8 jc9 jc10 ja3 r (i4+1) (lh_3++[x])
else
 jf ja0 ja1 ja2 ja3 ja5 ja6 ja7 ja8 ja9 ja10 jb0 jb2 jb5 jb6 jb7 jb8 jb9 jc0 jc1 jc2 jc5
  jc6 jc7 jc8 jc9 jc10 lh_3 ja4 0 [])
def ju (ja0:TS) (ja1:LC) (ja2:Sem zf) (ja4:LF) (ja5:zw) (ja6:Int) (ja7:Int) (ja8:zw) (ja9:zw) (ja10:LX) (jb0:List UInt8) (jb2:Int) (jb5:List UInt8) (jb6:Int) (jb7:Int) (jb8:List UInt8) (jb9:List UInt8) (jc0:TS) (jc1:LC) (jc2:Sem zf) (jc5:zw) (jc6:Int) (jc7:Int) (jc8:zw) (jc9:zw) (jc10:LX) (ja3:LI):List (Sem zf)→Int→List (Sem zf)→Bool
 | [],_,lh_3=>(jv ja0 ja1 ja2 ja3 ja5 ja6 ja7 ja8 ja9 ja10 jb0 jb2 jb5 jb6 jb7 jb8 jb9 jc0 jc1 jc2 jc5
 jc6 jc7 jc8 jc9 jc10 lh_3 ja4 0 [])
 | x::r,i4,lh_3=>(if decide (i4 < 10)=true then
 if decide (lh_3.length+[x].length≤1073741824)=true then
  ju ja0 ja1 ja2 ja4 ja5 ja6 ja7 ja8 ja9 ja10 jb0 jb2 jb5 jb6 jb7 jb8 jb9 jc0 jc1 jc2 jc5
   jc6 jc7 jc8 jc9 jc10 ja3 r (i4+1) (lh_3++[x])
 else false
else
 jv ja0 ja1 ja2 ja3 ja5 ja6 ja7 ja8 ja9 ja10 jb0 jb2 jb5 jb6 jb7 jb8 jb9 jc0 jc1 jc2 jc5
  jc6 jc7 jc8 jc9 jc10 lh_3 ja4 0 [])
theorem zbh {C:dl} (hC:∀ id,C.ρ0 id=none) (ja0:TS) (ja1:LC) (ja2:Sem zf) (ja4:LF) (ja5:zw) (ja6:Int) (ja7:Int) (ja8:zw) (ja9:zw) (ja10:LX) (jb0:List UInt8) (jb2:Int) (jb5:List UInt8) (jb6:Int) (jb7:Int) (jb8:List UInt8) (jb9:List UInt8) (jc0:TS) (jc1:LC) (jc2:Sem zf) (jc5:zw) (jc6:Int) (jc7:Int) (jc8:zw) (jc9:zw) (jc10:LX) (ja3:LI) (hl:ja3.length≤zA):∀ (m i:Nat) (lh_3:LI),ja3.length - i=m→i≤ja3.length→ju ja0 ja1 ja2 ja4 ja5 ja6 ja7 ja8 ja9 ja10 jb0 jb2 jb5 jb6 jb7 jb8 jb9 jc0 jc1 jc2 jc5 jc6 jc7 jc8 jc9 jc10 ja3 (ja3.drop i) i lh_3=true→
  Reach (m7) C 56 (zI Tryz.f56 3) (Qh (i:Int) ja0 ja1 ja2 ja3 ja4 ja5 ja6 ja7 ja8 ja9 ja10 jb0 jb2 jb5 jb6 jb7 jb8 jb9 jc0 jc1 jc2 jc5 jc6 jc7 jc8 jc9 jc10 lh_3) (fun r h=>az h [zl] r=some (ki ja0 ja1 ja2 ja4 ja5 ja6 ja7 ja8 ja9 ja10 jb0 jb2 jb5 jb6 jb7 jb8 jb9 jc0 jc1 jc2 jc5 jc6 jc7 jc8 jc9 jc10 ja3 (ja3.drop i) i lh_3,())):=by
 intro m
 induction m with
 | zero=>
  intro i lh_3 hm hi hc
  obtain rfl:i=ja3.length:=by omega
  rw [ey] at hc ⊢
  refine zr iq (YC) (fun id _=>hC id) (U5 _ _ _ _ _ _ _ _ _ _ _ _ _ _ _ _ _ _ _ _ _ _ _ _ _ _ _ _ _) ?_
  rw [ju] at hc
  generalize hy:ki ja0 ja1 ja2 ja4 ja5 ja6 ja7 ja8 ja9 ja10 jb0 jb2 jb5 jb6 jb7 jb8 jb9 jc0 jc1 jc2 jc5 jc6 jc7 jc8 jc9 jc10 ja3 [] _ lh_3=y
  rw [ki] at hy
  simp only [zH,aq,Tr.val_brF]
  repeat' (first | with_reducible refine jk hy hc (fun _ hy hc=>?_) (fun _ hy hc=>?_) | with_reducible refine bF hy (fun _ hy=>?_) (fun _ hy=>?_) | with_reducible refine cQ hc (fun hc=>?_) | with_reducible refine zz ?_)
  all_goals (subst hy; first | (change Reach _ _ _ _ _ _; apply Id hC <;> first | assumption | exact hc) | rfl)
 | succ m IH=>
  intro i lh_3 hm hi hc
  have hlt:i < ja3.length:=by omega
  have IH:=IH (i+1)
  have hcast:((i:Int)+1)=((i+1:Nat):Int):=by omega
  have hwr:=zt i (by omega)
  rw [dF hlt] at hc ⊢
  refine zr iq (YC) (fun id _=>hC id) (U5 _ _ _ _ _ _ _ _ _ _ _ _ _ _ _ _ _ _ _ _ _ _ _ _ _ _ _ _ _) ?_
  rw [ju] at hc
  generalize hy:ki ja0 ja1 ja2 ja4 ja5 ja6 ja7 ja8 ja9 ja10 jb0 jb2 jb5 jb6 jb7 jb8 jb9 jc0 jc1 jc2 jc5 jc6 jc7 jc8 jc9 jc10 ja3 (ja3[i]::ja3.drop (i+1)) (i:Int) lh_3=y
  rw [ki] at hy
  simp only [zM hlt,zB hlt,bt ja3 _ hlt,hwr,zU]
  clear hwr
  simp only [hcast] at hy
  try simp only [hcast] at hc
  repeat' (first | with_reducible refine jk hy hc (fun _ hy hc=>?_) (fun _ hy hc=>?_) | with_reducible refine bF hy (fun _ hy=>?_) (fun _ hy=>?_) | with_reducible refine cQ hc (fun hc=>?_) | with_reducible refine zz ?_)
  all_goals (subst hy; first | (change Reach _ _ _ _ _ _; apply IH <;> first | omega | assumption) | (change Reach _ _ _ _ _ _; apply Id hC <;> first | assumption | exact hc) | rfl)
theorem Ic {C:dl} (hC:∀ id,C.ρ0 id=none) (ja0:TS) (ja1:LC) (ja2:Sem zf) (ja4:LF) (ja5:zw) (ja6:Int) (ja7:Int) (ja8:zw) (ja9:zw) (ja10:LX) (jb0:List UInt8) (jb2:Int) (jb5:List UInt8) (jb6:Int) (jb7:Int) (jb8:List UInt8) (jb9:List UInt8) (jc0:TS) (jc1:LC) (jc2:Sem zf) (jc5:zw) (jc6:Int) (jc7:Int) (jc8:zw) (jc9:zw) (jc10:LX) (ja3:LI) (lh_3:LI) (hc:ju ja0 ja1 ja2 ja4 ja5 ja6 ja7 ja8 ja9 ja10 jb0 jb2 jb5 jb6 jb7 jb8 jb9 jc0 jc1 jc2 jc5 jc6 jc7 jc8 jc9 jc10 ja3 ja3 0 lh_3=true):
  Reach (m7) C 56 (zI Tryz.f56 3) (Qh 0 ja0 ja1 ja2 ja3 ja4 ja5 ja6 ja7 ja8 ja9 ja10 jb0 jb2 jb5 jb6 jb7 jb8 jb9 jc0 jc1 jc2 jc5 jc6 jc7 jc8 jc9 jc10 lh_3) (fun r h=>az h [zl] r=some (ki ja0 ja1 ja2 ja4 ja5 ja6 ja7 ja8 ja9 ja10 jb0 jb2 jb5 jb6 jb7 jb8 jb9 jc0 jc1 jc2 jc5 jc6 jc7 jc8 jc9 jc10 ja3 ja3 0 lh_3,())):=
 Reach.lenB 0 3 (Sh.int IntKind.i64) ja3 rfl rfl fun hl=>zbh hC ja0 ja1 ja2 ja4 ja5 ja6 ja7 ja8 ja9 ja10 jb0 jb2 jb5 jb6 jb7 jb8 jb9 jc0 jc1 jc2 jc5 jc6 jc7 jc8 jc9 jc10 ja3 hl _ 0 lh_3 rfl (aK _) hc
def u6 (x0:Sem zl):Sem zl:=(ki x0.1 x0.2.1 x0.2.2.1 x0.2.2.2.2.1 (ze.op x0.2.2.2.2.2) (ze.v x0.2.2.2.2.2).1 (ze.v x0.2.2.2.2.2).2.1 (ze.v x0.2.2.2.2.2).2.2 (ze.s x0.2.2.2.2.2) (ze.l x0.2.2.2.2.2) [] 0 [] 0 0 [] [] (u4 x0.1) (qo x0.2.1) x0.2.2.1 (ze.op (cY x0.2.2.2.2.2)) (ze.v (cY x0.2.2.2.2.2)).1 (ze.v (cY x0.2.2.2.2.2)).2.1 (ze.v (cY x0.2.2.2.2.2)).2.2 (ze.s (cY x0.2.2.2.2.2)) (ze.l (cY x0.2.2.2.2.2)) x0.2.2.2.1 x0.2.2.2.1 0 [])
def Lh (x0:Sem zl):Bool:=(ju x0.1 x0.2.1 x0.2.2.1 x0.2.2.2.2.1 (ze.op x0.2.2.2.2.2) (ze.v x0.2.2.2.2.2).1 (ze.v x0.2.2.2.2.2).2.1 (ze.v x0.2.2.2.2.2).2.2 (ze.s x0.2.2.2.2.2) (ze.l x0.2.2.2.2.2) [] 0 [] 0 0 [] [] (u4 x0.1) (qo x0.2.1) x0.2.2.1 (ze.op (cY x0.2.2.2.2.2)) (ze.v (cY x0.2.2.2.2.2)).1 (ze.v (cY x0.2.2.2.2.2)).2.1 (ze.v (cY x0.2.2.2.2.2)).2.2 (ze.s (cY x0.2.2.2.2.2)) (ze.l (cY x0.2.2.2.2.2)) x0.2.2.2.1 x0.2.2.2.1 0 [])
def F5:zT:=zN [zl] [zl] (fun x=>Lh x.1) fun x=>(u6 x.1,())
theorem zau:FK 56 F5:=by
 refine au (YC) fun x hc C hC=>?_
 unfold Lh at hc
 refine zr iq (YC) (fun id _=>hC id) (go5 x.1) ?_
 generalize hy:u6 x.1=y
 unfold u6 at hy
 try simp only [ze.eta]
 repeat' (first | with_reducible refine jk hy hc (fun _ hy hc=>?_) (fun _ hy hc=>?_) | with_reducible refine bF hy (fun _ hy=>?_) (fun _ hy=>?_) | with_reducible refine cQ hc (fun hc=>?_) | with_reducible refine zz ?_)
 all_goals (subst hy; first | (change Reach _ _ _ _ _ _; apply Ic hC <;> first | assumption | exact hc) | (change Reach _ _ _ _ _ _; apply Id hC <;> first | assumption | exact hc) | rfl)

noncomputable def T9:=m7.addL [(48,F19),(56,F5)]
theorem L3:zy T9:=iq.addL <| fc TW <| fc zau jp

theorem E5 (e:ze) (cols:List (Sem zh)):xf e cols=true:=by
 unfold xf
 rw [if_pos (Jw 15 e)]
theorem mU {a0 a1 a2 a3 a4 a5 a6 a7 a8 a9 b0 b1 b2 b3 b4 b5 b6 d0 d1 d2 d3 d4 d5 d6 d7 d8 d9}:∀ (l:List (Sem zq)) (i:Int) (acc:List (Sem zq)),(acc.length:Int)≤i→jv a0 a1 a2 a3 a4 a5 a6 a7 a8 a9 b0 b1 b2 b3 b4 b5 b6 d0 d1 d2 d3 d4 d5 d6 d7 d8 d9 l i acc=true
 | [],_,_,_=>rfl
 | x::r,i,acc,h=>by
  rw [jv]
  split
  ·rename_i hi
   simp only [aN] at hi
   rw [if_pos (by simp; omega)]
   exact mU r (i+1) _ (by simp; omega)
  ·rfl
theorem tN {a0 a1 a2 a3 a4 a5 a6 a7 a8 a9 b0 b1 b2 b3 b4 b5 b6 d0 d1 d2 d3 d4 d5 d6 d7 d8 d9}:∀ (l:List (Sem zf)) (i:Int) (acc:List (Sem zf)),(acc.length:Int)≤i→ju a0 a1 a2 a3 a4 a5 a6 a7 a8 a9 b0 b1 b2 b3 b4 b5 b6 d0 d1 d2 d3 d4 d5 d6 d7 d8 d9 l i acc=true
 | [],_,_,_=>by rw [ju]; exact mU _ _ _ (by simp)
 | x::r,i,acc,h=>by
  rw [ju]
  split
  ·rename_i hi
   simp only [aN] at hi
   rw [if_pos (by simp; omega)]
   exact tN r (i+1) _ (by simp; omega)
  ·exact mU _ _ _ (by simp)
theorem JJ (t:Sem zl):Lh t=true:=by
 unfold Lh
 exact tN _ _ _ (by simp)
def Za:zT:=aD [Sh.expr,zh.sl] [zf] fun x=>(ej x.1 x.2.1,())
theorem VM:FK 48 Za:=fq TW fun x=>E5 x.1 x.2.1
def F5t:zT:=aD [zl] [zl] fun x=>(u6 x.1,())
theorem zaF:FK 56 F5t:=fq zau fun x=>JJ x.1

noncomputable def lw:=T9.addL [(48,Za),(56,F5t)]
theorem gr:zy lw:=L3.addL <| fc VM <| fc zaF jp

abbrev kp8:Nat→aJ:=fun j=>if j=4 then { slots:=[1,27,28,29] } else if j=11 then { slots:=[1,5,59,60,61] } else if j=17 then { slots:=[1,5,71,72,73] } else { }
abbrev Qk (l27:LC) (i28:Int) (i29:Int) (ja0:TS) (ja1:LC) (ja2:Sem zf) (ja3:LI) (ja4:LF) (ja5:zw) (ja6:Int) (ja7:Int) (ja8:zw) (ja9:zw) (ja10:LX):St:={ tmps:=(tm 110 [(1,AV.ptr 0 0),(27,AV.sl zh l27),(28,ai i28),(29,ai i29)]),heap:=[AO.box [AV.str ja0,AV.sl zh ja1,ai ja2,AV.sl zf ja3,AV.sl zq ja4,AV.str ja5,ai ja6,ai ja7,AV.str ja8,AV.str ja9,AV.sl Sh.expr ja10]] }
theorem U4:zK (lw).P 18 Tryz.f18 1:=bN (by kernel_rfl)
theorem go8 (x0:Sem zl):rn lw 0 kp8 Tryz.f18 [zF zl x0] []=Tr.br (bif !zJ x0.1 then true else bif decide ((↑(length x0.2.1):Int) < 1) then true else decide ((↑(length x0.2.1):Int) > 8)) (Tr.ok (zx.ret (AV.kb false) [])) (Tr.ok (zx.head 4 (zI Tryz.f18 4) (Qk x0.2.1 (↑(length x0.2.1):Int) 0 x0.1 x0.2.1 x0.2.2.1 x0.2.2.2.1 x0.2.2.2.2.1 (ze.op x0.2.2.2.2.2) (ze.v x0.2.2.2.2.2).1 (ze.v x0.2.2.2.2.2).2.1 (ze.v x0.2.2.2.2.2).2.2 (ze.s x0.2.2.2.2.2) (ze.l x0.2.2.2.2.2)))):=by kernel_rfl
abbrev HM (l59:LI) (i60:Int) (i61:Int) (ja0:TS) (ja1:LC) (ja2:Sem zf) (ja3:LI) (ja4:LF) (ja5:zw) (ja6:Int) (ja7:Int) (ja8:zw) (ja9:zw) (ja10:LX):St:={ tmps:=(tm 110 [(1,AV.ptr 0 0),(5,AV.clo (Fn.func 47) [] [AV.ptr 0 0]),(59,AV.sl zf l59),(60,ai i60),(61,ai i61)]),heap:=[AO.box [AV.str ja0,AV.sl zh ja1,ai ja2,AV.sl zf ja3,AV.sl zq ja4,AV.str ja5,ai ja6,ai ja7,AV.str ja8,AV.str ja9,AV.sl Sh.expr ja10]] }
theorem U8 (l27:LC) (i28:Int) (i29:Int) (ja0:TS) (ja1:LC) (ja2:Sem zf) (ja3:LI) (ja4:LF) (ja5:zw) (ja6:Int) (ja7:Int) (ja8:zw) (ja9:zw) (ja10:LX):rh lw 0 kp8 Tryz.f18 4 (Qk l27 i28 i29 ja0 ja1 ja2 ja3 ja4 ja5 ja6 ja7 ja8 ja9 ja10)=Tr.br (decide (i29 < i28)) (Tr.chk (zR i29 l27.length) (Tr.br (bif !zJ (l27.getD i29.toNat (zi zh)).1 then true else bif decide ((l27.getD i29.toNat (zi zh)).2.1 < 1) then true else bif decide ((l27.getD i29.toNat (zi zh)).2.1 > 3) then true else ae (ja0,ja1,ja2,ja3,ja4,ze.mk ja5 (ja6,ja7,ja8) ja9 ja10) (l27.getD i29.toNat (zi zh)).1 != i29) (Tr.ok (zx.ret (AV.kb false) [])) (Tr.ok (zx.head 4 (zI Tryz.f18 4) (Qk l27 i28 (IntKind.i64.wrap (i29+1)) ja0 ja1 ja2 ja3 ja4 ja5 ja6 ja7 ja8 ja9 ja10))))) (Tr.ok (zx.head 11 (zI Tryz.f18 11) (HM ja3 (↑ja3.length:Int) 0 ja0 ja1 ja2 ja3 ja4 ja5 ja6 ja7 ja8 ja9 ja10))):=by kernel_rfl
abbrev HN (l71:LF) (i72:Int) (i73:Int) (ja0:TS) (ja1:LC) (ja2:Sem zf) (ja3:LI) (ja4:LF) (ja5:zw) (ja6:Int) (ja7:Int) (ja8:zw) (ja9:zw) (ja10:LX):St:={ tmps:=(tm 110 [(1,AV.ptr 0 0),(5,AV.clo (Fn.func 47) [] [AV.ptr 0 0]),(71,AV.sl zq l71),(72,ai i72),(73,ai i73)]),heap:=[AO.box [AV.str ja0,AV.sl zh ja1,ai ja2,AV.sl zf ja3,AV.sl zq ja4,AV.str ja5,ai ja6,ai ja7,AV.str ja8,AV.str ja9,AV.sl Sh.expr ja10]] }
theorem PD (l59:LI) (i60:Int) (i61:Int) (ja0:TS) (ja1:LC) (ja2:Sem zf) (ja3:LI) (ja4:LF) (ja5:zw) (ja6:Int) (ja7:Int) (ja8:zw) (ja9:zw) (ja10:LX):rh lw 0 kp8 Tryz.f18 11 (HM l59 i60 i61 ja0 ja1 ja2 ja3 ja4 ja5 ja6 ja7 ja8 ja9 ja10)=Tr.br (decide (i61 < i60)) (Tr.chk (zR i61 l59.length) (Tr.br (!bif decide (l59.getD i61.toNat (zi zf) ≥ 0) then decide (l59.getD i61.toNat (zi zf) < (↑ja1.length:Int)) else false) (Tr.ok (zx.ret (AV.kb false) [])) (Tr.ok (zx.head 11 (zI Tryz.f18 11) (HM l59 i60 (IntKind.i64.wrap (i61+1)) ja0 ja1 ja2 ja3 ja4 ja5 ja6 ja7 ja8 ja9 ja10))))) (Tr.ok (zx.head 17 (zI Tryz.f18 17) (HN ja4 (↑ja4.length:Int) 0 ja0 ja1 ja2 ja3 ja4 ja5 ja6 ja7 ja8 ja9 ja10))):=by kernel_rfl
theorem PE (l71:LF) (i72:Int) (i73:Int) (ja0:TS) (ja1:LC) (ja2:Sem zf) (ja3:LI) (ja4:LF) (ja5:zw) (ja6:Int) (ja7:Int) (ja8:zw) (ja9:zw) (ja10:LX):rh lw 0 kp8 Tryz.f18 17 (HN l71 i72 i73 ja0 ja1 ja2 ja3 ja4 ja5 ja6 ja7 ja8 ja9 ja10)=Tr.br (decide (i73 < i72)) (Tr.chk (zR i73 l71.length) (Tr.br (!bif decide ((l71.getD i73.toNat (zi zq)).1 ≥ 0) then decide ((l71.getD i73.toNat (zi zq)).1 < (↑ja1.length:Int)) else false) (Tr.ok (zx.ret (AV.kb false) [])) (Tr.br (!zJ (l71.getD i73.toNat (zi zq)).2) (Tr.ok (zx.ret (AV.kb false) [])) (Tr.ok (zx.head 17 (zI Tryz.f18 17) (HN l71 i72 (IntKind.i64.wrap (i73+1)) ja0 ja1 ja2 ja3 ja4 ja5 ja6 ja7 ja8 ja9 ja10)))))) (Tr.br (bif decide (ja2 ≥ 0) then decide (ja2 < (↑ja1.length:Int)) else false) (Tr.chk (zR ja2 ja1.length) (Tr.br (ja1.getD (toNat ja2) (zi zh)).2.2 (Tr.ok (zx.ret (AV.bool (ej (ze.mk ja5 (ja6,ja7,ja8) ja9 ja10) ja1==0)) [])) (Tr.ok (zx.ret (AV.kb false) [])))) (Tr.ok (zx.ret (AV.kb false) []))):=by kernel_rfl
def eT (ja0:TS) (ja1:LC) (ja2:Sem zf) (ja3:LI) (ja4:LF) (ja5:zw) (ja6:Int) (ja7:Int) (ja8:zw) (ja9:zw) (ja10:LX):List (Sem zq)→Int→Sem Sh.bool
 | [],_=>(if (bif decide (ja2 ≥ 0) then decide (ja2 < (↑ja1.length:Int)) else false)=true then
 if (ja1.getD (toNat ja2) (zi zh)).2.2=true then
  ej (ze.mk ja5 (ja6,ja7,ja8) ja9 ja10) ja1==0
 else false
else false)
 | x::r,i73=>(if (!bif decide (x.1 ≥ 0) then decide (x.1 < (↑ja1.length:Int)) else false)=true then false
else if (!zJ x.2)=true then false else eT ja0 ja1 ja2 ja3 ja4 ja5 ja6 ja7 ja8 ja9 ja10 r (i73+1))
def g6 (ja0:TS) (ja1:LC) (ja2:Sem zf) (ja3:LI) (ja4:LF) (ja5:zw) (ja6:Int) (ja7:Int) (ja8:zw) (ja9:zw) (ja10:LX):List (Sem zq)→Int→Bool
 | [],_=>(if (bif decide (ja2 ≥ 0) then decide (ja2 < (↑ja1.length:Int)) else false)=true then if zR ja2 ja1.length=true then true else false
else true)
 | x::r,i73=>(if (!bif decide (x.1 ≥ 0) then decide (x.1 < (↑ja1.length:Int)) else false)=true then true
else if (!zJ x.2)=true then true else g6 ja0 ja1 ja2 ja3 ja4 ja5 ja6 ja7 ja8 ja9 ja10 r (i73+1))
theorem WZ {C:dl} (hC:∀ id,C.ρ0 id=none) (ja0:TS) (ja1:LC) (ja2:Sem zf) (ja3:LI) (ja4:LF) (ja5:zw) (ja6:Int) (ja7:Int) (ja8:zw) (ja9:zw) (ja10:LX) (l71:LF) (hl:l71.length≤zA):∀ (m i:Nat),l71.length - i=m→i≤l71.length→g6 ja0 ja1 ja2 ja3 ja4 ja5 ja6 ja7 ja8 ja9 ja10 (l71.drop i) i=true→
  Reach (lw) C 18 (zI Tryz.f18 17) (HN l71 (l71.length:Int) (i:Int) ja0 ja1 ja2 ja3 ja4 ja5 ja6 ja7 ja8 ja9 ja10) (fun r h=>az h [Sh.bool] r=some (eT ja0 ja1 ja2 ja3 ja4 ja5 ja6 ja7 ja8 ja9 ja10 (l71.drop i) i,())):=by
 intro m
 induction m with
 | zero=>
  intro i hm hi hc
  obtain rfl:i=l71.length:=by omega
  rw [ey] at hc ⊢
  refine zr gr (U4) (fun id _=>hC id) (PE _ _ _ _ _ _ _ _ _ _ _ _ _ _) ?_
  rw [g6] at hc
  generalize hy:eT ja0 ja1 ja2 ja3 ja4 ja5 ja6 ja7 ja8 ja9 ja10 [] _=y
  rw [eT] at hy
  simp only [zH,Tr.val_brF]
  repeat' (first | with_reducible refine jk hy hc (fun _ hy hc=>?_) (fun _ hy hc=>?_) | with_reducible refine bF hy (fun _ hy=>?_) (fun _ hy=>?_) | with_reducible refine cQ hc (fun hc=>?_) | with_reducible refine zz ?_)
  all_goals (subst hy; first | (change Reach _ _ _ _ _ _; apply xN hC <;> first | assumption | exact hc) | (change Reach _ _ _ _ _ _; apply rT hC <;> first | assumption | exact hc) | rfl)
 | succ m IH=>
  intro i hm hi hc
  have hlt:i < l71.length:=by omega
  have IH:=IH (i+1)
  have hcast:((i:Int)+1)=((i+1:Nat):Int):=by omega
  have hwr:=zt i (by omega)
  rw [dF hlt] at hc ⊢
  refine zr gr (U4) (fun id _=>hC id) (PE _ _ _ _ _ _ _ _ _ _ _ _ _ _) ?_
  rw [g6] at hc
  generalize hy:eT ja0 ja1 ja2 ja3 ja4 ja5 ja6 ja7 ja8 ja9 ja10 (l71[i]::l71.drop (i+1)) (i:Int)=y
  rw [eT] at hy
  simp only [zM hlt,zB hlt,bt l71 _ hlt,hwr,Tr.val_brT,Tr.val_chkT]
  clear hwr
  simp only [hcast] at hy
  try simp only [hcast] at hc
  repeat' (first | with_reducible refine jk hy hc (fun _ hy hc=>?_) (fun _ hy hc=>?_) | with_reducible refine bF hy (fun _ hy=>?_) (fun _ hy=>?_) | with_reducible refine cQ hc (fun hc=>?_) | with_reducible refine zz ?_)
  all_goals (subst hy; first | (change Reach _ _ _ _ _ _; apply IH <;> first | omega | assumption) | (change Reach _ _ _ _ _ _; apply xN hC <;> first | assumption | exact hc) | (change Reach _ _ _ _ _ _; apply rT hC <;> first | assumption | exact hc) | rfl)
theorem rU {C:dl} (hC:∀ id,C.ρ0 id=none) (ja0:TS) (ja1:LC) (ja2:Sem zf) (ja3:LI) (ja4:LF) (ja5:zw) (ja6:Int) (ja7:Int) (ja8:zw) (ja9:zw) (ja10:LX) (l71:LF) (hc:g6 ja0 ja1 ja2 ja3 ja4 ja5 ja6 ja7 ja8 ja9 ja10 l71 0=true):
  Reach (lw) C 18 (zI Tryz.f18 17) (HN l71 (l71.length:Int) 0 ja0 ja1 ja2 ja3 ja4 ja5 ja6 ja7 ja8 ja9 ja10) (fun r h=>az h [Sh.bool] r=some (eT ja0 ja1 ja2 ja3 ja4 ja5 ja6 ja7 ja8 ja9 ja10 l71 0,())):=
 Reach.len 71 (zf.pr Sh.str) l71 rfl fun hl=>WZ hC ja0 ja1 ja2 ja3 ja4 ja5 ja6 ja7 ja8 ja9 ja10 l71 hl _ 0 rfl (aK _) hc
def eS (ja0:TS) (ja1:LC) (ja2:Sem zf) (ja3:LI) (ja4:LF) (ja5:zw) (ja6:Int) (ja7:Int) (ja8:zw) (ja9:zw) (ja10:LX):List (Sem zf)→Int→Sem Sh.bool
 | [],_=>(eT ja0 ja1 ja2 ja3 ja4 ja5 ja6 ja7 ja8 ja9 ja10 ja4 0)
 | x::r,i61=>(if (!bif decide (x ≥ 0) then decide (x < (↑ja1.length:Int)) else false)=true then false
else eS ja0 ja1 ja2 ja3 ja4 ja5 ja6 ja7 ja8 ja9 ja10 r (i61+1))
def gZ (ja0:TS) (ja1:LC) (ja2:Sem zf) (ja3:LI) (ja4:LF) (ja5:zw) (ja6:Int) (ja7:Int) (ja8:zw) (ja9:zw) (ja10:LX):List (Sem zf)→Int→Bool
 | [],_=>(g6 ja0 ja1 ja2 ja3 ja4 ja5 ja6 ja7 ja8 ja9 ja10 ja4 0)
 | x::r,i61=>(if (!bif decide (x ≥ 0) then decide (x < (↑ja1.length:Int)) else false)=true then true
else gZ ja0 ja1 ja2 ja3 ja4 ja5 ja6 ja7 ja8 ja9 ja10 r (i61+1))
theorem WY {C:dl} (hC:∀ id,C.ρ0 id=none) (ja0:TS) (ja1:LC) (ja2:Sem zf) (ja3:LI) (ja4:LF) (ja5:zw) (ja6:Int) (ja7:Int) (ja8:zw) (ja9:zw) (ja10:LX) (l59:LI) (hl:l59.length≤zA):∀ (m i:Nat),l59.length - i=m→i≤l59.length→gZ ja0 ja1 ja2 ja3 ja4 ja5 ja6 ja7 ja8 ja9 ja10 (l59.drop i) i=true→
  Reach (lw) C 18 (zI Tryz.f18 11) (HM l59 (l59.length:Int) (i:Int) ja0 ja1 ja2 ja3 ja4 ja5 ja6 ja7 ja8 ja9 ja10) (fun r h=>az h [Sh.bool] r=some (eS ja0 ja1 ja2 ja3 ja4 ja5 ja6 ja7 ja8 ja9 ja10 (l59.drop i) i,())):=by
 intro m
 induction m with
 | zero=>
  intro i hm hi hc
  obtain rfl:i=l59.length:=by omega
  rw [ey] at hc ⊢
  refine zr gr (U4) (fun id _=>hC id) (PD _ _ _ _ _ _ _ _ _ _ _ _ _ _) ?_
  rw [gZ] at hc
  generalize hy:eS ja0 ja1 ja2 ja3 ja4 ja5 ja6 ja7 ja8 ja9 ja10 [] _=y
  rw [eS] at hy
  simp only [zH,Tr.val_brF]
  repeat' (first | with_reducible refine jk hy hc (fun _ hy hc=>?_) (fun _ hy hc=>?_) | with_reducible refine bF hy (fun _ hy=>?_) (fun _ hy=>?_) | with_reducible refine cQ hc (fun hc=>?_) | with_reducible refine zz ?_)
  all_goals (subst hy; first | (change Reach _ _ _ _ _ _; apply xN hC <;> first | assumption | exact hc) | (change Reach _ _ _ _ _ _; apply rU hC <;> first | assumption | exact hc) | rfl)
 | succ m IH=>
  intro i hm hi hc
  have hlt:i < l59.length:=by omega
  have IH:=IH (i+1)
  have hcast:((i:Int)+1)=((i+1:Nat):Int):=by omega
  have hwr:=zt i (by omega)
  rw [dF hlt] at hc ⊢
  refine zr gr (U4) (fun id _=>hC id) (PD _ _ _ _ _ _ _ _ _ _ _ _ _ _) ?_
  rw [gZ] at hc
  generalize hy:eS ja0 ja1 ja2 ja3 ja4 ja5 ja6 ja7 ja8 ja9 ja10 (l59[i]::l59.drop (i+1)) (i:Int)=y
  rw [eS] at hy
  simp only [zM hlt,zB hlt,bt l59 _ hlt,hwr,Tr.val_brT,Tr.val_chkT]
  clear hwr
  simp only [hcast] at hy
  try simp only [hcast] at hc
  repeat' (first | with_reducible refine jk hy hc (fun _ hy hc=>?_) (fun _ hy hc=>?_) | with_reducible refine bF hy (fun _ hy=>?_) (fun _ hy=>?_) | with_reducible refine cQ hc (fun hc=>?_) | with_reducible refine zz ?_)
  all_goals (subst hy; first | (change Reach _ _ _ _ _ _; apply IH <;> first | omega | assumption) | (change Reach _ _ _ _ _ _; apply xN hC <;> first | assumption | exact hc) | (change Reach _ _ _ _ _ _; apply rU hC <;> first | assumption | exact hc) | rfl)
theorem rT {C:dl} (hC:∀ id,C.ρ0 id=none) (ja0:TS) (ja1:LC) (ja2:Sem zf) (ja3:LI) (ja4:LF) (ja5:zw) (ja6:Int) (ja7:Int) (ja8:zw) (ja9:zw) (ja10:LX) (l59:LI) (hc:gZ ja0 ja1 ja2 ja3 ja4 ja5 ja6 ja7 ja8 ja9 ja10 l59 0=true):
  Reach (lw) C 18 (zI Tryz.f18 11) (HM l59 (l59.length:Int) 0 ja0 ja1 ja2 ja3 ja4 ja5 ja6 ja7 ja8 ja9 ja10) (fun r h=>az h [Sh.bool] r=some (eS ja0 ja1 ja2 ja3 ja4 ja5 ja6 ja7 ja8 ja9 ja10 l59 0,())):=
 Reach.len 59 (Sh.int IntKind.i64) l59 rfl fun hl=>WY hC ja0 ja1 ja2 ja3 ja4 ja5 ja6 ja7 ja8 ja9 ja10 l59 hl _ 0 rfl (aK _) hc
def g7 (ja0:TS) (ja1:LC) (ja2:Sem zf) (ja3:LI) (ja4:LF) (ja5:zw) (ja6:Int) (ja7:Int) (ja8:zw) (ja9:zw) (ja10:LX):List (Sem zh)→Int→Sem Sh.bool
 | [],_=>(eS ja0 ja1 ja2 ja3 ja4 ja5 ja6 ja7 ja8 ja9 ja10 ja3 0)
 | x :: r,i29=>(if
  (bif !zJ x.1 then true
   else
    bif decide (x.2.1 < 1) then true
    else
     bif decide (x.2.1 > 3) then true
     else ae (ja0,ja1,ja2,ja3,ja4,ze.mk ja5 (ja6,ja7,ja8) ja9 ja10) x.1 != i29)=
   true then
 false
else g7 ja0 ja1 ja2 ja3 ja4 ja5 ja6 ja7 ja8 ja9 ja10 r (i29+1))
def jw (ja0:TS) (ja1:LC) (ja2:Sem zf) (ja3:LI) (ja4:LF) (ja5:zw) (ja6:Int) (ja7:Int) (ja8:zw) (ja9:zw) (ja10:LX):List (Sem zh)→Int→Bool
 | [],_=>(gZ ja0 ja1 ja2 ja3 ja4 ja5 ja6 ja7 ja8 ja9 ja10 ja3 0)
 | x :: r,i29=>(if
  (bif !zJ x.1 then true
   else
    bif decide (x.2.1 < 1) then true
    else
     bif decide (x.2.1 > 3) then true
     else ae (ja0,ja1,ja2,ja3,ja4,ze.mk ja5 (ja6,ja7,ja8) ja9 ja10) x.1 != i29)=
   true then
 true
else jw ja0 ja1 ja2 ja3 ja4 ja5 ja6 ja7 ja8 ja9 ja10 r (i29+1))
theorem zbk {C:dl} (hC:∀ id,C.ρ0 id=none) (ja0:TS) (ja1:LC) (ja2:Sem zf) (ja3:LI) (ja4:LF) (ja5:zw) (ja6:Int) (ja7:Int) (ja8:zw) (ja9:zw) (ja10:LX) (l27:LC) (hl:l27.length≤zA):∀ (m i:Nat),l27.length - i=m→i≤l27.length→jw ja0 ja1 ja2 ja3 ja4 ja5 ja6 ja7 ja8 ja9 ja10 (l27.drop i) i=true→
  Reach (lw) C 18 (zI Tryz.f18 4) (Qk l27 (l27.length:Int) (i:Int) ja0 ja1 ja2 ja3 ja4 ja5 ja6 ja7 ja8 ja9 ja10) (fun r h=>az h [Sh.bool] r=some (g7 ja0 ja1 ja2 ja3 ja4 ja5 ja6 ja7 ja8 ja9 ja10 (l27.drop i) i,())):=by
 intro m
 induction m with
 | zero=>
  intro i hm hi hc
  obtain rfl:i=l27.length:=by omega
  rw [ey] at hc ⊢
  refine zr gr (U4) (fun id _=>hC id) (U8 _ _ _ _ _ _ _ _ _ _ _ _ _ _) ?_
  rw [jw] at hc
  generalize hy:g7 ja0 ja1 ja2 ja3 ja4 ja5 ja6 ja7 ja8 ja9 ja10 [] _=y
  rw [g7] at hy
  simp only [zH,Tr.val_brF]
  repeat' (first | with_reducible refine jk hy hc (fun _ hy hc=>?_) (fun _ hy hc=>?_) | with_reducible refine bF hy (fun _ hy=>?_) (fun _ hy=>?_) | with_reducible refine cQ hc (fun hc=>?_) | with_reducible refine zz ?_)
  all_goals (subst hy; first | (change Reach _ _ _ _ _ _; apply rT hC <;> first | assumption | exact hc) | (change Reach _ _ _ _ _ _; apply rU hC <;> first | assumption | exact hc) | rfl)
 | succ m IH=>
  intro i hm hi hc
  have hlt:i < l27.length:=by omega
  have IH:=IH (i+1)
  have hcast:((i:Int)+1)=((i+1:Nat):Int):=by omega
  have hwr:=zt i (by omega)
  rw [dF hlt] at hc ⊢
  refine zr gr (U4) (fun id _=>hC id) (U8 _ _ _ _ _ _ _ _ _ _ _ _ _ _) ?_
  rw [jw] at hc
  generalize hy:g7 ja0 ja1 ja2 ja3 ja4 ja5 ja6 ja7 ja8 ja9 ja10 (l27[i]::l27.drop (i+1)) (i:Int)=y
  rw [g7] at hy
  simp only [zM hlt,zB hlt,bt l27 _ hlt,hwr,Tr.val_brT,Tr.val_chkT]
  clear hwr
  simp only [hcast] at hy
  try simp only [hcast] at hc
  repeat' (first | with_reducible refine jk hy hc (fun _ hy hc=>?_) (fun _ hy hc=>?_) | with_reducible refine bF hy (fun _ hy=>?_) (fun _ hy=>?_) | with_reducible refine cQ hc (fun hc=>?_) | with_reducible refine zz ?_)
  all_goals (subst hy; first | (change Reach _ _ _ _ _ _; apply IH <;> first | omega | assumption) | (change Reach _ _ _ _ _ _; apply rT hC <;> first | assumption | exact hc) | (change Reach _ _ _ _ _ _; apply rU hC <;> first | assumption | exact hc) | rfl)
theorem xN {C:dl} (hC:∀ id,C.ρ0 id=none) (ja0:TS) (ja1:LC) (ja2:Sem zf) (ja3:LI) (ja4:LF) (ja5:zw) (ja6:Int) (ja7:Int) (ja8:zw) (ja9:zw) (ja10:LX) (l27:LC) (hc:jw ja0 ja1 ja2 ja3 ja4 ja5 ja6 ja7 ja8 ja9 ja10 l27 0=true):
  Reach (lw) C 18 (zI Tryz.f18 4) (Qk l27 (l27.length:Int) 0 ja0 ja1 ja2 ja3 ja4 ja5 ja6 ja7 ja8 ja9 ja10) (fun r h=>az h [Sh.bool] r=some (g7 ja0 ja1 ja2 ja3 ja4 ja5 ja6 ja7 ja8 ja9 ja10 l27 0,())):=
 Reach.len 27 (zh) l27 rfl fun hl=>zbk hC ja0 ja1 ja2 ja3 ja4 ja5 ja6 ja7 ja8 ja9 ja10 l27 hl _ 0 rfl (aK _) hc
def eD (x0:Sem zl):Sem Sh.bool:=(if (bif !zJ x0.1 then true else bif decide ((↑(length x0.2.1):Int) < 1) then true else decide ((↑(length x0.2.1):Int) > 8))=true then false else g7 x0.1 x0.2.1 x0.2.2.1 x0.2.2.2.1 x0.2.2.2.2.1 (ze.op x0.2.2.2.2.2) (ze.v x0.2.2.2.2.2).1 (ze.v x0.2.2.2.2.2).2.1 (ze.v x0.2.2.2.2.2).2.2 (ze.s x0.2.2.2.2.2) (ze.l x0.2.2.2.2.2) x0.2.1 0)
def Li (x0:Sem zl):Bool:=(if (bif !zJ x0.1 then true else bif decide ((↑(length x0.2.1):Int) < 1) then true else decide ((↑(length x0.2.1):Int) > 8))=true then true else jw x0.1 x0.2.1 x0.2.2.1 x0.2.2.2.1 x0.2.2.2.2.1 (ze.op x0.2.2.2.2.2) (ze.v x0.2.2.2.2.2).1 (ze.v x0.2.2.2.2.2).2.1 (ze.v x0.2.2.2.2.2).2.2 (ze.s x0.2.2.2.2.2) (ze.l x0.2.2.2.2.2) x0.2.1 0)
def F8:zT:=zN [zl] [Sh.bool] (fun x=>Li x.1) fun x=>(eD x.1,())
theorem zaX:FK 18 F8:=by
 refine au (U4) fun x hc C hC=>?_
 unfold Li at hc
 refine zr gr (U4) (fun id _=>hC id) (go8 x.1) ?_
 generalize hy:eD x.1=y
 unfold eD at hy
 try simp only [ze.eta]
 repeat' (first | with_reducible refine jk hy hc (fun _ hy hc=>?_) (fun _ hy hc=>?_) | with_reducible refine bF hy (fun _ hy=>?_) (fun _ hy=>?_) | with_reducible refine cQ hc (fun hc=>?_) | with_reducible refine zz ?_)
 all_goals (subst hy; first | (change Reach _ _ _ _ _ _; apply xN hC <;> first | assumption | exact hc) | (change Reach _ _ _ _ _ _; apply rT hC <;> first | assumption | exact hc) | (change Reach _ _ _ _ _ _; apply rU hC <;> first | assumption | exact hc) | rfl)

noncomputable def Ua:=lw.add 18 F8
theorem L4:zy Ua:=gr.add zaX

theorem qD {a0 a1 a2 a3 a4 a5 a6 a7 a8 a9 b0}:∀ (l:List (Sem zq)) (i:Int),g6 a0 a1 a2 a3 a4 a5 a6 a7 a8 a9 b0 l i=true
 | [],i=>by
  rw [g6]
  split
  ·rename_i h
   rw [if_pos]
   cases h1:decide (a2 ≥ 0) <;> simp_all [zR]
  ·rfl
 | x::r,i=>by
  rw [g6]
  repeat' split
  all_goals first | rfl | exact qD r (i+1)
theorem qC {a0 a1 a2 a3 a4 a5 a6 a7 a8 a9 b0}:∀ (l:List (Sem zf)) (i:Int),gZ a0 a1 a2 a3 a4 a5 a6 a7 a8 a9 b0 l i=true
 | [],i=>by rw [gZ]; exact qD _ _
 | x::r,i=>by
  rw [gZ]
  repeat' split
  all_goals first | rfl | exact qC r (i+1)
theorem tO {a0 a1 a2 a3 a4 a5 a6 a7 a8 a9 b0}:∀ (l:List (Sem zh)) (i:Int),jw a0 a1 a2 a3 a4 a5 a6 a7 a8 a9 b0 l i=true
 | [],i=>by rw [jw]; exact qC _ _
 | x::r,i=>by
  rw [jw]
  split
  ·rfl
  ·exact tO r (i+1)
theorem JK (t:Sem zl):Li t=true:=by
 unfold Li
 split
 ·rfl
 ·exact tO _ _
def F8t:zT:=aD [zl] [Sh.bool] fun x=>(eD x.1,())
theorem za5:FK 18 F8t:=fq zaX fun x=>JK x.1

noncomputable def qf:=Ua.add 18 F8t
theorem jA:zy qf:=L4.add za5

abbrev XK:Nat→aJ:=fun j=>if j=4 then { slots:=[1,2,19,20,21] } else if j=10 then { slots:=[1,2,30,31] } else { }
abbrev HK (l1:LV) (l19:LV) (i20:Int) (i21:Int) (ja0:TS) (ja1:LC) (ja2:Sem zf) (ja3:LI) (ja4:LF) (ja5:zw) (ja6:Int) (ja7:Int) (ja8:zw) (ja9:zw) (ja10:LX):St:={ tmps:=(tm 79 [(1,AV.sl zg l1),(2,AV.ptr 0 0),(19,AV.sl zg l19),(20,ai i20),(21,ai i21)]),heap:=[AO.box [AV.str ja0,AV.sl zh ja1,ai ja2,AV.sl zf ja3,AV.sl zq ja4,AV.str ja5,ai ja6,ai ja7,AV.str ja8,AV.str ja9,AV.sl Sh.expr ja10]] }
theorem Mn:zK (qf).P 121 Tryz.f121 2:=bN (by kernel_rfl)
theorem ze8 (x0:Sem zl) (x1:Sem zg.sl):rn qf 0 XK Tryz.f121 [zF zl x0,zF zg.sl x1] []=Tr.br (bif !eD (x0.1,x0.2.1,x0.2.2.1,x0.2.2.2.1,x0.2.2.2.2.1,zm x0.2.2.2.2.2) then true else (↑(length x1):Int) != (↑(length x0.2.1):Int)) (Tr.ok (zx.ret (ai 1) [])) (Tr.ok (zx.head 4 (zI Tryz.f121 4) (HK x1 x1 (↑(length x1):Int) 0 x0.1 x0.2.1 x0.2.2.1 x0.2.2.2.1 x0.2.2.2.2.1 (ze.op x0.2.2.2.2.2) (ze.v x0.2.2.2.2.2).1 (ze.v x0.2.2.2.2.2).2.1 (ze.v x0.2.2.2.2.2).2.2 (ze.s x0.2.2.2.2.2) (ze.l x0.2.2.2.2.2)))):=by kernel_rfl
abbrev AM (l1:LV) (i30:Int) (i31:Int) (ja0:TS) (ja1:LC) (ja2:Sem zf) (ja3:LI) (ja4:LF) (ja5:zw) (ja6:Int) (ja7:Int) (ja8:zw) (ja9:zw) (ja10:LX):St:={ tmps:=(tm 79 [(1,AV.sl zg l1),(2,AV.ptr 0 0),(30,ai i30),(31,ai i31)]),heap:=[AO.box [AV.str ja0,AV.sl zh ja1,ai ja2,AV.sl zf ja3,AV.sl zq ja4,AV.str ja5,ai ja6,ai ja7,AV.str ja8,AV.str ja9,AV.sl Sh.expr ja10]] }
theorem Pz (l1:LV) (l19:LV) (i20:Int) (i21:Int) (ja0:TS) (ja1:LC) (ja2:Sem zf) (ja3:LI) (ja4:LF) (ja5:zw) (ja6:Int) (ja7:Int) (ja8:zw) (ja9:zw) (ja10:LX):rh qf 0 XK Tryz.f121 4 (HK l1 l19 i20 i21 ja0 ja1 ja2 ja3 ja4 ja5 ja6 ja7 ja8 ja9 ja10)=Tr.br (decide (i21 < i20)) (Tr.chk (zR i21 l19.length) (Tr.br (!ce (l19.getD i21.toNat (zi zg))) (Tr.ok (zx.ret (ai 1) [])) (Tr.ok (zx.head 4 (zI Tryz.f121 4) (HK l1 l19 i20 (IntKind.i64.wrap (i21+1)) ja0 ja1 ja2 ja3 ja4 ja5 ja6 ja7 ja8 ja9 ja10))))) (Tr.ok (zx.head 10 (zI Tryz.f121 10) (AM l1 (↑l1.length:Int) 0 ja0 ja1 ja2 ja3 ja4 ja5 ja6 ja7 ja8 ja9 ja10))):=by kernel_rfl
theorem KD (l1:LV) (i30:Int) (i31:Int) (ja0:TS) (ja1:LC) (ja2:Sem zf) (ja3:LI) (ja4:LF) (ja5:zw) (ja6:Int) (ja7:Int) (ja8:zw) (ja9:zw) (ja10:LX):rh qf 0 XK Tryz.f121 10 (AM l1 i30 i31 ja0 ja1 ja2 ja3 ja4 ja5 ja6 ja7 ja8 ja9 ja10)=Tr.br (decide (i31 < i30)) (Tr.chk (zR i31 l1.length&&bif (l1.getD i31.toNat (zi zg)).1==0 then zR i31 ja1.length else true) (Tr.br (bif (l1.getD i31.toNat (zi zg)).1==0 then (ja1.getD i31.toNat (zi zh)).2.2 else false) (Tr.ok (zx.ret (ai 8) [])) (Tr.chk (zR i31 l1.length&&bif (l1.getD i31.toNat (zi zg)).1 != 0 then zR i31 l1.length&&zR i31 ja1.length else true) (Tr.br (bif (l1.getD i31.toNat (zi zg)).1 != 0 then (l1.getD i31.toNat (zi zg)).1 != (ja1.getD i31.toNat (zi zh)).2.1 else false) (Tr.ok (zx.ret (ai 5) [])) (Tr.ok (zx.head 10 (zI Tryz.f121 10) (AM l1 i30 (IntKind.i64.wrap (i31+1)) ja0 ja1 ja2 ja3 ja4 ja5 ja6 ja7 ja8 ja9 ja10))))))) (Tr.br ((ia (ze.mk ja5 (ja6,ja7,ja8) ja9 ja10) ja1 l1).1==3&&((ia (ze.mk ja5 (ja6,ja7,ja8) ja9 ja10) ja1 l1).2.1==0&&((ia (ze.mk ja5 (ja6,ja7,ja8) ja9 ja10) ja1 l1).2.2==[]&&true))) (Tr.ok (zx.ret (ai 9) [])) (Tr.ok (zx.ret (ai 0) []))):=by kernel_rfl
def fj (ja0:TS) (ja1:LC) (ja2:Sem zf) (ja3:LI) (ja4:LF) (ja5:zw) (ja6:Int) (ja7:Int) (ja8:zw) (ja9:zw) (ja10:LX) (l1:LV):List (Sem zg)→Int→Sem zf
 | [],_=>(if
  ((ia (ze.mk ja5 (ja6,ja7,ja8) ja9 ja10) ja1 l1).1==3&&
    ((ia (ze.mk ja5 (ja6,ja7,ja8) ja9 ja10) ja1 l1).2.1==0&&
     ((ia (ze.mk ja5 (ja6,ja7,ja8) ja9 ja10) ja1 l1).2.2==[]&&true)))=
   true then
 9
else 0)
 | x::r,i31=>(if (bif x.1==0 then (ja1.getD i31.toNat (zi zh)).2.2 else false)=true then 8
else
 if (bif x.1 != 0 then x.1 != (ja1.getD i31.toNat (zi zh)).2.1 else false)=true then 5
 else fj ja0 ja1 ja2 ja3 ja4 ja5 ja6 ja7 ja8 ja9 ja10 l1 r (i31+1))
def gz (ja0:TS) (ja1:LC) (ja2:Sem zf) (ja3:LI) (ja4:LF) (ja5:zw) (ja6:Int) (ja7:Int) (ja8:zw) (ja9:zw) (ja10:LX) (l1:LV):List (Sem zg)→Int→Bool
 | [],_=>(true)
 | x::r,i31=>(if (zR i31 l1.length&&bif x.1==0 then zR i31 ja1.length else true)=true then
 if (bif x.1==0 then (ja1.getD i31.toNat (zi zh)).2.2 else false)=true then true
 else
  if (zR i31 l1.length&&bif x.1 != 0 then zR i31 l1.length&&zR i31 ja1.length else true)=true then
   if (bif x.1 != 0 then x.1 != (ja1.getD i31.toNat (zi zh)).2.1 else false)=true then true
   else gz ja0 ja1 ja2 ja3 ja4 ja5 ja6 ja7 ja8 ja9 ja10 l1 r (i31+1)
  else false
else false)
theorem RJ {C:dl} (hC:∀ id,C.ρ0 id=none) (ja0:TS) (ja1:LC) (ja2:Sem zf) (ja3:LI) (ja4:LF) (ja5:zw) (ja6:Int) (ja7:Int) (ja8:zw) (ja9:zw) (ja10:LX) (l1:LV) (hl:l1.length≤zA):∀ (m i:Nat),l1.length - i=m→i≤l1.length→gz ja0 ja1 ja2 ja3 ja4 ja5 ja6 ja7 ja8 ja9 ja10 l1 (l1.drop i) i=true→
  Reach (qf) C 121 (zI Tryz.f121 10) (AM l1 (l1.length:Int) (i:Int) ja0 ja1 ja2 ja3 ja4 ja5 ja6 ja7 ja8 ja9 ja10) (fun r h=>az h [zf] r=some (fj ja0 ja1 ja2 ja3 ja4 ja5 ja6 ja7 ja8 ja9 ja10 l1 (l1.drop i) i,())):=by
 intro m
 induction m with
 | zero=>
  intro i hm hi hc
  obtain rfl:i=l1.length:=by omega
  rw [ey] at hc ⊢
  refine zr jA (Mn) (fun id _=>hC id) (KD _ _ _ _ _ _ _ _ _ _ _ _ _ _) ?_
  rw [gz] at hc
  generalize hy:fj ja0 ja1 ja2 ja3 ja4 ja5 ja6 ja7 ja8 ja9 ja10 l1 [] _=y
  rw [fj] at hy
  simp only [zH,Tr.val_brF]
  repeat' (first | with_reducible refine jk hy hc (fun _ hy hc=>?_) (fun _ hy hc=>?_) | with_reducible refine bF hy (fun _ hy=>?_) (fun _ hy=>?_) | with_reducible refine cQ hc (fun hc=>?_) | with_reducible refine zz ?_)
  all_goals (subst hy; first | (change Reach _ _ _ _ _ _; apply DE hC <;> first | assumption | exact hc) | rfl)
 | succ m IH=>
  intro i hm hi hc
  have hlt:i < l1.length:=by omega
  have IH:=IH (i+1)
  have hcast:((i:Int)+1)=((i+1:Nat):Int):=by omega
  have hwr:=zt i (by omega)
  rw [dF hlt] at hc ⊢
  refine zr jA (Mn) (fun id _=>hC id) (KD _ _ _ _ _ _ _ _ _ _ _ _ _ _) ?_
  rw [gz] at hc
  generalize hy:fj ja0 ja1 ja2 ja3 ja4 ja5 ja6 ja7 ja8 ja9 ja10 l1 (l1[i]::l1.drop (i+1)) (i:Int)=y
  rw [fj] at hy
  simp only [zM hlt,zB hlt,bt l1 _ hlt,hwr,Tr.val_brT]
  clear hwr
  try simp only [zB hlt] at hy
  simp only [hcast] at hy
  try simp only [zB hlt] at hc
  try simp only [hcast] at hc
  repeat' (first | with_reducible refine jk hy hc (fun _ hy hc=>?_) (fun _ hy hc=>?_) | with_reducible refine bF hy (fun _ hy=>?_) (fun _ hy=>?_) | with_reducible refine cQ hc (fun hc=>?_) | with_reducible refine zz ?_)
  all_goals (subst hy; first | (change Reach _ _ _ _ _ _; apply IH <;> first | omega | assumption) | (change Reach _ _ _ _ _ _; apply DE hC <;> first | assumption | exact hc) | rfl)
theorem xM {C:dl} (hC:∀ id,C.ρ0 id=none) (ja0:TS) (ja1:LC) (ja2:Sem zf) (ja3:LI) (ja4:LF) (ja5:zw) (ja6:Int) (ja7:Int) (ja8:zw) (ja9:zw) (ja10:LX) (l1:LV) (hc:gz ja0 ja1 ja2 ja3 ja4 ja5 ja6 ja7 ja8 ja9 ja10 l1 l1 0=true):
  Reach (qf) C 121 (zI Tryz.f121 10) (AM l1 (l1.length:Int) 0 ja0 ja1 ja2 ja3 ja4 ja5 ja6 ja7 ja8 ja9 ja10) (fun r h=>az h [zf] r=some (fj ja0 ja1 ja2 ja3 ja4 ja5 ja6 ja7 ja8 ja9 ja10 l1 l1 0,())):=
 Reach.len 1 (zg) l1 rfl fun hl=>RJ hC ja0 ja1 ja2 ja3 ja4 ja5 ja6 ja7 ja8 ja9 ja10 l1 hl _ 0 rfl (aK _) hc
def fA (l1:LV) (ja0:TS) (ja1:LC) (ja2:Sem zf) (ja3:LI) (ja4:LF) (ja5:zw) (ja6:Int) (ja7:Int) (ja8:zw) (ja9:zw) (ja10:LX):List (Sem zg)→Int→Sem zf
 | [],_=>(fj ja0 ja1 ja2 ja3 ja4 ja5 ja6 ja7 ja8 ja9 ja10 l1 l1 0)
 | x::r,i21=>(if (!ce x)=true then 1 else fA l1 ja0 ja1 ja2 ja3 ja4 ja5 ja6 ja7 ja8 ja9 ja10 r (i21+1))
def gY (l1:LV) (ja0:TS) (ja1:LC) (ja2:Sem zf) (ja3:LI) (ja4:LF) (ja5:zw) (ja6:Int) (ja7:Int) (ja8:zw) (ja9:zw) (ja10:LX):List (Sem zg)→Int→Bool
 | [],_=>(gz ja0 ja1 ja2 ja3 ja4 ja5 ja6 ja7 ja8 ja9 ja10 l1 l1 0)
 | x::r,i21=>(if (!ce x)=true then true else gY l1 ja0 ja1 ja2 ja3 ja4 ja5 ja6 ja7 ja8 ja9 ja10 r (i21+1))
theorem WU {C:dl} (hC:∀ id,C.ρ0 id=none) (l1:LV) (ja0:TS) (ja1:LC) (ja2:Sem zf) (ja3:LI) (ja4:LF) (ja5:zw) (ja6:Int) (ja7:Int) (ja8:zw) (ja9:zw) (ja10:LX) (l19:LV) (hl:l19.length≤zA):∀ (m i:Nat),l19.length - i=m→i≤l19.length→gY l1 ja0 ja1 ja2 ja3 ja4 ja5 ja6 ja7 ja8 ja9 ja10 (l19.drop i) i=true→
  Reach (qf) C 121 (zI Tryz.f121 4) (HK l1 l19 (l19.length:Int) (i:Int) ja0 ja1 ja2 ja3 ja4 ja5 ja6 ja7 ja8 ja9 ja10) (fun r h=>az h [zf] r=some (fA l1 ja0 ja1 ja2 ja3 ja4 ja5 ja6 ja7 ja8 ja9 ja10 (l19.drop i) i,())):=by
 intro m
 induction m with
 | zero=>
  intro i hm hi hc
  obtain rfl:i=l19.length:=by omega
  rw [ey] at hc ⊢
  refine zr jA (Mn) (fun id _=>hC id) (Pz _ _ _ _ _ _ _ _ _ _ _ _ _ _ _) ?_
  rw [gY] at hc
  generalize hy:fA l1 ja0 ja1 ja2 ja3 ja4 ja5 ja6 ja7 ja8 ja9 ja10 [] _=y
  rw [fA] at hy
  simp only [zH,Tr.val_brF]
  repeat' (first | with_reducible refine jk hy hc (fun _ hy hc=>?_) (fun _ hy hc=>?_) | with_reducible refine bF hy (fun _ hy=>?_) (fun _ hy=>?_) | with_reducible refine cQ hc (fun hc=>?_) | with_reducible refine zz ?_)
  all_goals (subst hy; first | (change Reach _ _ _ _ _ _; apply xM hC <;> first | assumption | exact hc) | rfl)
 | succ m IH=>
  intro i hm hi hc
  have hlt:i < l19.length:=by omega
  have IH:=IH (i+1)
  have hcast:((i:Int)+1)=((i+1:Nat):Int):=by omega
  have hwr:=zt i (by omega)
  rw [dF hlt] at hc ⊢
  refine zr jA (Mn) (fun id _=>hC id) (Pz _ _ _ _ _ _ _ _ _ _ _ _ _ _ _) ?_
  rw [gY] at hc
  generalize hy:fA l1 ja0 ja1 ja2 ja3 ja4 ja5 ja6 ja7 ja8 ja9 ja10 (l19[i]::l19.drop (i+1)) (i:Int)=y
  rw [fA] at hy
  simp only [zM hlt,zB hlt,bt l19 _ hlt,hwr,Tr.val_brT,Tr.val_chkT]
  clear hwr
  try simp only [zB hlt] at hy
  simp only [hcast] at hy
  try simp only [zB hlt] at hc
  try simp only [hcast] at hc
  repeat' (first | with_reducible refine jk hy hc (fun _ hy hc=>?_) (fun _ hy hc=>?_) | with_reducible refine bF hy (fun _ hy=>?_) (fun _ hy=>?_) | with_reducible refine cQ hc (fun hc=>?_) | with_reducible refine zz ?_)
  all_goals (subst hy; first | (change Reach _ _ _ _ _ _; apply IH <;> first | omega | assumption) | (change Reach _ _ _ _ _ _; apply xM hC <;> first | assumption | exact hc) | rfl)
theorem DE {C:dl} (hC:∀ id,C.ρ0 id=none) (l1:LV) (ja0:TS) (ja1:LC) (ja2:Sem zf) (ja3:LI) (ja4:LF) (ja5:zw) (ja6:Int) (ja7:Int) (ja8:zw) (ja9:zw) (ja10:LX) (l19:LV) (hc:gY l1 ja0 ja1 ja2 ja3 ja4 ja5 ja6 ja7 ja8 ja9 ja10 l19 0=true):
  Reach (qf) C 121 (zI Tryz.f121 4) (HK l1 l19 (l19.length:Int) 0 ja0 ja1 ja2 ja3 ja4 ja5 ja6 ja7 ja8 ja9 ja10) (fun r h=>az h [zf] r=some (fA l1 ja0 ja1 ja2 ja3 ja4 ja5 ja6 ja7 ja8 ja9 ja10 l19 0,())):=
 Reach.len 19 (zg) l19 rfl fun hl=>WU hC l1 ja0 ja1 ja2 ja3 ja4 ja5 ja6 ja7 ja8 ja9 ja10 l19 hl _ 0 rfl (aK _) hc
def eC (x0:Sem zl) (x1:Sem zg.sl):Sem zf:=(if (bif !eD x0 then true else (↑(length x1):Int) != (↑(length x0.2.1):Int))=true then 1 else fA x1 x0.1 x0.2.1 x0.2.2.1 x0.2.2.2.1 x0.2.2.2.2.1 (ze.op x0.2.2.2.2.2) (ze.v x0.2.2.2.2.2).1 (ze.v x0.2.2.2.2.2).2.1 (ze.v x0.2.2.2.2.2).2.2 (ze.s x0.2.2.2.2.2) (ze.l x0.2.2.2.2.2) x1 0)
def Fs (x0:Sem zl) (x1:Sem zg.sl):Bool:=(if (bif !eD x0 then true else (↑(length x1):Int) != (↑(length x0.2.1):Int))=true then true else gY x1 x0.1 x0.2.1 x0.2.2.1 x0.2.2.2.1 x0.2.2.2.2.1 (ze.op x0.2.2.2.2.2) (ze.v x0.2.2.2.2.2).1 (ze.v x0.2.2.2.2.2).2.1 (ze.v x0.2.2.2.2.2).2.2 (ze.s x0.2.2.2.2.2) (ze.l x0.2.2.2.2.2) x1 0)
def F10:zT:=zN [zl,zg.sl] [zf] (fun x=>Fs x.1 x.2.1) fun x=>(eC x.1 x.2.1,())
theorem TQ:FK 121 F10:=by
 refine au (Mn) fun x hc C hC=>?_
 unfold Fs at hc
 refine zr jA (Mn) (fun id _=>hC id) (ze8 x.1 x.2.1) ?_
 generalize hy:eC x.1 x.2.1=y
 unfold eC at hy
 try simp only [ze.eta]
 repeat' (first | with_reducible refine jk hy hc (fun _ hy hc=>?_) (fun _ hy hc=>?_) | with_reducible refine bF hy (fun _ hy=>?_) (fun _ hy=>?_) | with_reducible refine cQ hc (fun hc=>?_) | with_reducible refine zz ?_)
 all_goals (subst hy; first | (change Reach _ _ _ _ _ _; apply DE hC <;> first | assumption | exact hc) | (change Reach _ _ _ _ _ _; apply xM hC <;> first | assumption | exact hc) | rfl)

noncomputable def Ub:=qf.add 121 F10
theorem L5:zy Ub:=jA.add TQ

theorem oF {a0 a2 a3 a4 a5 a6 a7 a8 a9 b0} {cols:List (Sem zh)} {row:List (Sem zg)} (hl:row.length=cols.length):∀ (l:List (Sem zg)) (i:Nat),i+l.length=row.length→gz a0 cols a2 a3 a4 a5 a6 a7 a8 a9 b0 row l i=true
 | [],i,_=>rfl
 | x::r,i,h=>by
  have h1:i < row.length:=by simp at h; omega
  have h2:i < cols.length:=by omega
  have ih:=oF (a0:=a0) (a2:=a2) (a3:=a3) (a4:=a4) (a5:=a5) (a6:=a6) (a7:=a7) (a8:=a8) (a9:=a9) (b0:=b0) hl r (i+1) (by simp at h; omega)
  rw [gz]
  simp only [zB h1,zB h2]
  rw [if_pos (by cases x.1==0 <;> rfl)]
  split
  ·rfl
  ·rw [if_pos (by cases x.1 != 0 <;> rfl)]
   split
   ·rfl
   ·exact ih
theorem qB {a0 a2 a3 a4 a5 a6 a7 a8 a9 b0} {cols:List (Sem zh)} {row:List (Sem zg)} (hl:row.length=cols.length):∀ (l:List (Sem zg)) (i:Int),gY row a0 cols a2 a3 a4 a5 a6 a7 a8 a9 b0 l i=true
 | [],i=>by rw [gY]; exact oF hl row 0 (by simp)
 | x::r,i=>by
  rw [gY]
  split
  ·rfl
  ·exact qB hl r (i+1)
theorem HZ (t:Sem zl) (row:List (Sem zg)):Fs t row=true:=by
 unfold Fs
 split
 ·rfl
 ·rename_i h
  refine qB ?_ _ _
  cases hm:eD t
  ·rw [hm] at h; simp at h
  ·rw [hm] at h
   simp at h
   omega
def YO:zT:=aD [zl,zg.sl] [zf] fun x=>(eC x.1 x.2.1,())
theorem Vo:FK 121 YO:=fq TQ fun x=>HZ x.1 x.2.1

noncomputable def yn:=Ub.add 121 YO
theorem L6:zy yn:=L5.add Vo

open Go.RowKit Go.Lib in
theorem Wl:FK 186 (zN [.str,.str] [.bool] (fun x=>x.2.1.length==1) fun x=>(decide (0≤Lib.indexByte x.1 (x.2.1.headD 0)),())):=by
 refine ic (E:=yn) ⟨Tryz.f186,by kernel_rfl,by kernel_rfl,by kernel_rfl⟩ fun x h0 res hx=>?_
 unfold iI at hx
 split at hx
 ·simp only [Tr.val] at hx
  split at hx
  ·rename_i hc
   simp only [bz] at hx
   subst hx
   obtain ⟨s,sub,u⟩:=x
   have hc:(sub.length==1)=true:=hc
   match sub,hc with
   | [c],_=>
    intro C w U ρ vals _ hr hH hnew hr0 hW
    have hl:=hr.len
    match vals,hl,hr with
    | [v1,v2],_,hr=>
     have h1:=hr.rv 0 (.str s) v1 rfl rfl
     have h2:=hr.rv 1 (.str [c]) v2 rfl rfl
     cases h1 with
     | str _ hs=>
     cases h2 with
     | str _ hs2=>
     refine (Tryz.strings_Contains_one ⟨s.toArray⟩ c w).mono ?_
     rintro e w' ⟨rfl,rfl⟩
     exact gn hH hnew hr0 hW (Below.refl _ _) (.bool _)
  ·cases hx
 ·simp at hx
def F63:zT:=zN [.str,.str] [.bool] (fun x=>x.2.1.length==1) fun x=>(decide (0≤Lib.indexByte x.1 (x.2.1.headD 0)),())
theorem zaJ:FK 186 F63:=Wl

def F89:zT:=zN [.str] [.str] (fun x=>decide (x.1.length≤140737488355328)&&x.1.all fun b=>decide (b.toNat < 128)) fun x=>(Lib.toUpperA x.1,())
open Go.RowKit Go.Lib in
theorem za3:FK 161 F89:=by
 refine ic (E:=yn) ⟨Tryz.f161,by kernel_rfl,by kernel_rfl,by kernel_rfl⟩ fun x h0 res hx=>?_
 unfold iI at hx
 split at hx
 ·simp only [Tr.val] at hx
  split at hx
  ·rename_i hc
   simp only [bz] at hx
   subst hx
   obtain ⟨s,u⟩:=x
   have hc:(decide (s.length≤140737488355328)&&s.all fun b=>decide (b.toNat < 128))=true:=hc
   simp only [aV,aN] at hc
   obtain ⟨hc0,hc⟩:=hc
   intro C w U ρ vals _ hr hH hnew hr0 hW
   have hl:=hr.len
   match vals,hl,hr with
   | [v1],_,hr=>
    have h1:=hr.rv 0 (.str s) v1 rfl rfl
    cases h1 with
    | str _ hs=>
    refine (Tryz.strings_ToUpper_ascii ⟨s.toArray⟩ w (by simpa [ByteArray.size] using hc0) (fun j b hj=>?_)).mono ?_
    ·have hm:b∈s:=kC (by simpa using hj)
     simp only [fE,aN] at hc
     exact hc b hm
    ·rintro e w' ⟨rfl,hb⟩
     have hbb:=gn (r:=.str (Lib.toUpperA s)) hH hnew hr0 hW hb (.str _ (by simpa [Lib.toUpperA] using hs))
     exact hbb
  ·cases hx
 ·simp at hx

def mr:Nat→Nat→zw
 | 0,_=>[]
 | f+1,n=>if n < 10 then [UInt8.ofNat (48+n)] else mr f (n / 10)++[UInt8.ofNat (48+n % 10)]
def ql (n:Int):zw:=if n < 0 then 45::mr 20 n.natAbs else mr 20 n.natAbs
theorem DO:∀ (f n:Nat),n < 10 ^ f→0 < f→mr f n=Lib.decDigits n
 | 0,_,_,h=>by omega
 | f+1,n,h,_=>by
  rw [mr,Lib.decDigits]
  split
  ·rfl
  ·rename_i hn
   have hf:0 < f:=by
    cases f with
    | zero=>simp at h; omega
    | succ f=>omega
   rw [DO f (n / 10) (by rw [xJ] at h; omega) hf]
theorem xW:∀ (f n:Nat),(mr f n).length≤f
 | 0,_=>by simp [mr]
 | f+1,n=>by
  rw [mr]
  split
  ·simp
  ·have:=xW f (n / 10)
   simp; omega
theorem CS (n:Int):(ql n).length≤21:=by
 unfold ql
 have:=xW 20 n.natAbs
 split <;> simp <;> omega
theorem OI (n:Int) (h:cV .i64 n):Lib.itoa n=ql n:=by
 have h1:-9223372036854775808≤n:=h.1
 have h2:n≤9223372036854775807:=h.2
 unfold Lib.itoa ql
 split
 ·rw [DO 20 _ (by omega) (by omega)]
 ·rw [DO 20 _ (by omega) (by omega)]
  congr 1
  omega
def YV:zT:=zN [zf,zf] [.str] (fun x=>x.2.1==10) fun x=>(ql x.1,())
open Go.RowKit Go.Lib in
theorem Vv:FK 213 YV:=by
 refine ic (E:=yn) ⟨Tryz.f213,by kernel_rfl,by kernel_rfl,by kernel_rfl⟩ fun x h0 res hx=>?_
 unfold iI at hx
 split at hx
 ·simp only [Tr.val] at hx
  split at hx
  ·rename_i hc
   simp only [bz] at hx
   subst hx
   obtain ⟨n,b,u⟩:=x
   have hc:(b==10)=true:=hc
   simp only [bb] at hc
   subst hc
   intro C w U ρ vals _ hr hH hnew hr0 hW
   have hl:=hr.len
   match vals,hl,hr with
   | [v1,v2],_,hr=>
    have h1:=hr.rv 0 (.int .i64 n) v1 rfl rfl
    have h2:=hr.rv 1 (.int .i64 10) v2 rfl rfl
    cases h1 with
    | int _ _ hn=>
    cases h2
    have h5:Rv w U (fun _=>none) (.tab .u64 kX) (.pointer (some ⟨5,0,none⟩)):=hW.gl 5
    have htab:Lib.TabIs Tryz.prog w "internal/strconv.uint64pow10" .u64 Lib.pow10Tab:=by
     cases h5 with
     | tab _ _ _ T fr hb hU=>
     have hg:Tryz.prog.globalNamed "internal/strconv.uint64pow10" = some 5:=by kernel_rfl
     have ht:Lib.pow10Tab=kX:=by decide +kernel
     unfold Lib.TabIs World.var?
     rw [hg,ht]
     simp only [Option.bind_some,hb]
    refine (Tryz.strconv_FormatInt_10 n hn.1 hn.2 w htab).mono ?_
    rintro e w' ⟨rfl,k,os,rfl⟩
    rw [OI n hn]
    exact gn (r:=.str (ql n)) hH hnew hr0 hW ⟨rfl,rfl,rfl,by show w.heap.size≤(w.heap++os).size; simp,fun j hj=>by show (w.heap++os)[j]?=w.heap[j]?; rw [Array.getElem?_append_left hj]⟩ (.str _ (by have:=CS n; unfold zA; omega))
  ·cases hx
 ·simp at hx

theorem tu (old new:zw):∀ (k:Nat) (s:zw),(Lib.replaceK old new k s).length≤s.length+k * new.length
 | 0,s=>by simp [Lib.replaceK]
 | k+1,s=>by
  rw [Lib.replaceK]
  split
  ·omega
  ·have:=tu old new k (s.drop ((Lib.index s old).toNat+old.length))
   simp only [iM,List.length_take,List.length_drop] at this ⊢
   rw [gF]
   omega
theorem kf (s old new:zw):(Lib.replaceAll s old new).length≤s.length+(s.length+1) * new.length:=by
 unfold Lib.replaceAll Lib.replace
 split
 ·omega
 ·refine eX (tu old new _ s) ?_
  have hc:=Lib.count_le s old
  have:Lib.replaceNum s old (-1)=Lib.count s old:=by unfold Lib.replaceNum; rw [if_pos (.inl (by omega))]
  rw [this]
  have:=fP new.length hc
  omega
def tt (s old new:zw):Bool:=decide (s.length≤4000000000)&&(decide (1≤old.length)&&decide (new.length≤1000))
def YW:zT:=zN [.str,.str,.str] [.str] (fun x=>tt x.1 x.2.1 x.2.2.1) fun x=>(Lib.replaceAll x.1 x.2.1 x.2.2.1,())
open Go.RowKit Go.Lib in
theorem Vw:FK 214 YW:=by
 refine ic (E:=yn) ⟨Tryz.f214,by kernel_rfl,by kernel_rfl,by kernel_rfl⟩ fun x h0 res hx=>?_
 unfold iI at hx
 split at hx
 ·simp only [Tr.val] at hx
  split at hx
  ·rename_i hc
   simp only [bz] at hx
   subst hx
   obtain ⟨s,old,new,u⟩:=x
   have hc:tt s old new=true:=hc
   unfold tt at hc
   simp only [aV,aN] at hc
   obtain ⟨hc1,hc2,hc3⟩:=hc
   intro C w U ρ vals _ hr hH hnew hr0 hW
   have hl:=hr.len
   match vals,hl,hr with
   | [v1,v2,v3],_,hr=>
    have h1:=hr.rv 0 (.str s) v1 rfl rfl
    have h2:=hr.rv 1 (.str old) v2 rfl rfl
    have h3:=hr.rv 2 (.str new) v3 rfl rfl
    cases h1 with
    | str _ hs1=>
    cases h2 with
    | str _ hs2=>
    cases h3 with
    | str _ hs3=>
    have hg1:Rv w U (fun _=>none) .gint (.pointer (some ⟨2,0,none⟩)):=hW.gl 2
    have hmm:∃ m:Int,w.cell? ⟨2,0,none⟩=some (.int .i64 m):=by
     cases hg1 with
     | gint m _ T fr _ hb _=>exact ⟨m,by simp [World.cell?,hb]⟩
    obtain ⟨m,hm⟩:=hmm
    have hcb:=Lib.countB_le (⟨old.toArray⟩:ByteArray) (by simpa [ByteArray.size] using hc2) s.length (⟨s.toArray⟩:ByteArray) (by simp [ByteArray.size])
    have hsz:(⟨s.toArray⟩:ByteArray).size=s.length:=by simp [ByteArray.size]
    have hnz:(⟨new.toArray⟩:ByteArray).size=new.length:=by simp [ByteArray.size]
    have hmul:Lib.countB (⟨s.toArray⟩:ByteArray) ⟨old.toArray⟩ * new.length≤4000000000 * 1000:=Ca (by omega) hc3
    refine (Tryz.strings_ReplaceAll ⟨s.toArray⟩ ⟨old.toArray⟩ ⟨new.toArray⟩ m w (by rw [hsz]; omega) hm (by simpa [ByteArray.size] using hc2) (by rw [hsz,hnz]; omega)).mono ?_
    rintro e w' ⟨rfl,hbel⟩
    refine gn (r:=.str (Lib.replaceAll s old new)) hH hnew hr0 hW hbel (.str _ ?_)
    have hlen:=kf s old new
    have hmul2:(s.length+1) * new.length≤4000000001 * 1000:=Ca (by omega) hc3
    unfold zA
    omega
  ·cases hx
 ·simp at hx

def YU:zT:=zN [.sl .str,.str] [.str] (fun x=>decide (x.1.length≤140737488355328)&&decide ((Lib.join x.1 x.2.1).length≤140737488355328)) fun x=>(Lib.join x.1 x.2.1,())
open Go.RowKit Go.Lib in
theorem Vu:FK 212 YU:=by
 refine ic (E:=yn) ⟨Tryz.f212,by kernel_rfl,by kernel_rfl,by kernel_rfl⟩ fun x h0 res hx=>?_
 unfold iI at hx
 split at hx
 ·simp only [Tr.val] at hx
  split at hx
  ·rename_i hc
   simp only [bz] at hx
   subst hx
   obtain ⟨l,sep,u⟩:=x
   have hc:(decide (l.length≤140737488355328)&&decide ((Lib.join l sep).length≤140737488355328))=true:=hc
   simp only [aV,aN] at hc
   obtain ⟨hc0,hc⟩:=hc
   have hms:zA=9223372036854775807:=rfl
   intro C w U ρ vals _ hr hH hnew hr0 hW
   have hl:=hr.len
   match vals,hl,hr with
   | [v1,v2],_,hr=>
    have h1:=hr.rv 0 (.sl .str l) v1 rfl rfl
    have h2:=hr.rv 1 (.str sep) v2 rfl rfl
    cases h2 with
    | str _ hs2=>
    generalize hl0:l=l0 at h1 hc hc0 hr
    cases h1 with
    | sl0 _ a c=>
     subst hl0
     refine (Tryz.strings_Join_none a c ⟨sep.toArray⟩ w).mono ?_
     rintro e w' ⟨rfl,rfl⟩
     exact gn (r:=.str []) hH hnew hr0 hW (Below.refl _ _) (.str _ (by simp))
    | sl _ _ b o c vals' hcc hm hb hU hcell hrr=>
     subst hl0
     have hx:∀ (j:Nat) x,(l.map fun s=>(⟨s.toArray⟩:ByteArray))[j]?=some x→w.cell? ⟨b,o+j,none⟩=some (.string x):=by
      intro j x hj
      simp only [dP,cW] at hj
      obtain ⟨s,hs,rfl⟩:=hj
      obtain ⟨hlt,rfl⟩:=cn.1 hs
      have h3:=hcell j 0 hlt (by simp [Sh.size])
      have h4:=hrr j hlt 0 (.str l[j]) rfl
      simp only [Sh.size,Nat.mul_one,vt] at h3
      rw [h3]
      generalize vals' j 0=vv at h4
      cases h4
      rfl
     have hmap:(l.map fun s=>(⟨s.toArray⟩:ByteArray)).map (·.data.toList)=l:=by
      simp [vn]
     have hj:=Tryz.strings_Join b o c (l.map fun s=>(⟨s.toArray⟩:ByteArray)) ⟨sep.toArray⟩ w hx hb (by simpa using hc0) (by simpa using hcc) (by rw [hmap]; exact hc)
     rw [hmap] at hj
     simp only [dI] at hj
     refine hj.mono ?_
     rintro e w' ⟨rfl,hbel⟩
     exact gn (r:=.str (Lib.join l sep)) hH hnew hr0 hW hbel (.str _ (by omega))
  ·cases hx
 ·simp at hx

noncomputable def qh:=yn.addL [(186,F63),(161,F89),(213,YV),(214,YW),(212,YU)]
theorem ir:zy qh:=L6.addL <| fc zaJ <| fc za3 <| fc Vv <| fc Vw <| fc Vu jp
end Cad
