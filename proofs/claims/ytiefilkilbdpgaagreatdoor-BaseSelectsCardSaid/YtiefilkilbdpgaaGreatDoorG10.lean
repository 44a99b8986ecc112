/- Expressions: which may be. Expressions: their values. Expressions: may, bounded. Expressions: types and values. What is asked of expressions holds. Checks; bounded tables. What is asked of checks and of bounded tables holds. Which tables may be. What is asked of tables holds. Which rows fit. What is asked of rows holds. The library's functions over texts. -/
import Derived.Test.YtiefilkilbdpgaaGreatDoorG09
namespace Cad
open Go Go.Proofs
open Int (toNat)
open List (length)

def tc (v:V):Bool:=v.1==0&&(v.2.1==0&&(v.2.2==[]&&true))
def ZV:AV→Option Bool
 | .bool b=>some b
 | .kb b=>some b
 | _=>none

theorem Reach.toBool {E:ba} {C:bW} {fn:FuncId} {todo:List Item} {st:St} {b:Bool} {hp:List AO} (h:Reach E C fn todo st (fun r h=>ZV r=some b∧h=hp)):Reach E C fn todo st (fun r h=>(r,h)=(.bool b,hp)):=by
 refine h.weaken fun r h' hq=>?_
 obtain ⟨h1,rfl⟩:=hq
 refine ⟨.bool b,rfl,fun w U ρ v hv=>?_⟩
 cases r <;> simp [ZV] at h1 <;> subst h1 <;> cases hv <;> exact .bool _

def Qe (g:ze→Int→Int→Bool×Int) (c:ze→Int→Int→Bool):b7 [none,some .expr,some zg]:=fun x h=>match x,h with
 | (.ptr 0 0,e,d,_),[.box [.int .i64 n]]=>.chk (c e d n) (.ok (.bool (g e d n).1,[.box [.int .i64 (g e d n).2]]))
 | _,_=>.err
def BG (g:ze→Int→Int→Bool×Int) (c:ze→Int→Int→Bool):zB:=zP [none,some .expr,some zg] (Qe g c)
noncomputable def EW (g:ze→Int→Int→Bool×Int) (c:ze→Int→Int→Bool):ba:=Dn.add 137 (BG g c)
theorem sm {g:ze→Int→Int→Bool×Int} {c:ze→Int→Int→Bool} (hg:FK 137 (BG g c)):zm (EW g c):=vI.add hg
abbrev XJ:Nat→zS:=fun j=>if j=12 then { slots:=[0,2,73,74,75] } else { }
abbrev yi (i2:Int) (l73:LX) (i74:Int) (i75:Int) (ja0:Int):St:={ tmps:=(tm 86 [(0,AV.ptr 0 0),(2,ai i2),(73,AV.sl Sh.expr l73),(74,ai i74),(75,ai i75)]),heap:=[AO.box [ai ja0]] }
theorem Ip (g:ze→Int→Int→Bool×Int) (c:ze→Int→Int→Bool):zz (EW g c).P 137 Tryz.f137 3:=aG (by kernel_rfl)
theorem zav (g:ze→Int→Int→Bool×Int) (c:ze→Int→Int→Bool) (e:ze) (d:Int) (n:Int):rn (EW g c) 1 XJ Tryz.f137 [AV.ptr 0 0,zy Sh.expr e,ai d] [AO.box [ai n]]=Tr.br (bif decide (d > 12) then true else bif decide (IntKind.i64.wrap (n+1) > 60) then true else (↑e.l.length:Int) != cW e.op) (Tr.ok (zp.ret (AV.kb false) [AO.box [ai (IntKind.i64.wrap (n+1))]])) (Tr.br (e.op==[108,105,116]) (Tr.ok (zp.ret (AV.bool (bif e.s==[] then gP e.v else false)) [AO.box [ai (IntKind.i64.wrap (n+1))]])) (Tr.br (e.op==[99,111,108]) (Tr.ok (zp.ret (AV.bool (bif tc e.v then bif mI e.s then !Bj e.s else false else false)) [AO.box [ai (IntKind.i64.wrap (n+1))]])) (Tr.br (bif !tc e.v then true else !e.s==[]) (Tr.ok (zp.ret (AV.kb false) [AO.box [ai (IntKind.i64.wrap (n+1))]])) (Tr.ok (zp.head 12 (zx Tryz.f137 12) (yi d e.l (↑e.l.length:Int) 0 (IntKind.i64.wrap (n+1)))))))):=by kernel_rfl
theorem DZ (g:ze→Int→Int→Bool×Int) (c:ze→Int→Int→Bool) (i2:Int) (l73:LX) (i74:Int) (i75:Int) (ja0:Int):rh (EW g c) 1 XJ Tryz.f137 12 (yi i2 l73 i74 i75 ja0)=Tr.br (decide (i75 < i74)) (Tr.chk (zH i75 l73.length) (Tr.chk (c (zC (l73.getD i75.toNat (zj Sh.expr))) (IntKind.i64.wrap (i2+1)) ja0) (Tr.br (!(g (zC (l73.getD i75.toNat (zj Sh.expr))) (IntKind.i64.wrap (i2+1)) ja0).1) (Tr.ok (zp.ret (AV.kb false) [AO.box [AV.int IntKind.i64 (g (zC (l73.getD i75.toNat (zj Sh.expr))) (IntKind.i64.wrap (i2+1)) ja0).2]])) (Tr.ok (zp.head 12 (zx Tryz.f137 12) (yi i2 l73 i74 (IntKind.i64.wrap (i75+1)) (g (zC (l73.getD i75.toNat (zj Sh.expr))) (IntKind.i64.wrap (i2+1)) ja0).2)))))) (Tr.ok (zp.ret (AV.kb true) [AO.box [ai ja0]])):=by kernel_rfl

def uS (g:ze→Int→Int→Bool×Int) (d:Int):List ze→Int→Bool×Int
 | [],n=>(true,n)
 | x::r,n=>if (!(g x (IntKind.i64.wrap (d+1)) n).1)=true then (false,(g x (IntKind.i64.wrap (d+1)) n).2) else uS g d r (g x (IntKind.i64.wrap (d+1)) n).2
def tq (g:ze→Int→Int→Bool×Int) (c:ze→Int→Int→Bool) (d:Int):List ze→Int→Bool
 | [],_=>true
 | x::r,n=>if c x (IntKind.i64.wrap (d+1)) n=true then (if (!(g x (IntKind.i64.wrap (d+1)) n).1)=true then true else tq g c d r (g x (IntKind.i64.wrap (d+1)) n).2) else false

theorem ZT {g:ze→Int→Int→Bool×Int} {c:ze→Int→Int→Bool} (hg:FK 137 (BG g c)) {C:bW} (hC:∀ id,1≤id→C.ρ0 id=none) (d:Int) (l:List ze) (hl:l.length≤zD):
  ∀ (k i:Nat) (n:Int),l.length - i=k→i≤l.length→tq g c d (l.drop i) n=true→Reach (EW g c) C 137 (zx Tryz.f137 12) (yi d l l.length i n) (fun r h=>ZV r=some (uS g d (l.drop i) n).1∧h=[.box [.int .i64 (uS g d (l.drop i) n).2]]):=by
 intro k
 induction k with
 | zero=>
  intro i n hk hi hc
  obtain rfl:i=l.length:=by omega
  refine zk (sm hg) (Ip g c) hC (DZ g c _ _ _ _ _) ?_
  simp only [ap,Tr.val_brF,cQ]
  exact ⟨rfl,rfl⟩
 | succ k IH=>
  intro i n hk hi hc
  have hlt:i < l.length:=by omega
  refine zk (sm hg) (Ip g c) hC (DZ g c _ _ _ _ _) ?_
  rw [c6 hlt] at hc ⊢
  rw [tq] at hc
  have hc1:=lK hc
  simp only [aH hlt,zN hlt,ag l _ hlt,ze.eta,Tr.val_brT,Tr.val_chkT,hc1.1,zG i (by omega)]
  refine iX (fun h=>?_) (fun h=>?_)
  ·rw [uS,if_pos h]; exact ⟨rfl,rfl⟩
  ·rw [uS,if_neg (jq h)]
   have h2:=hc1.2
   rw [if_neg (jq h)] at h2
   exact IH (i+1) _ (by omega) (by omega) h2

def AZ (g:ze→Int→Int→Bool×Int) (e:ze) (d n:Int):Bool×Int:=if (bif decide (d > 12) then true else bif decide (IntKind.i64.wrap (n+1) > 60) then true else (↑e.l.length:Int) != cW e.op)=true then (false,IntKind.i64.wrap (n+1)) else if (e.op==[108,105,116])=true then (bif e.s==[] then gP e.v else false,IntKind.i64.wrap (n+1)) else if (e.op==[99,111,108])=true then (bif tc e.v then bif mI e.s then !Bj e.s else false else false,IntKind.i64.wrap (n+1)) else if (bif !tc e.v then true else !e.s==[])=true then (false,IntKind.i64.wrap (n+1)) else uS g d e.l (IntKind.i64.wrap (n+1))
def DI (g:ze→Int→Int→Bool×Int) (c:ze→Int→Int→Bool) (e:ze) (d n:Int):Bool:=if (bif decide (d > 12) then true else bif decide (IntKind.i64.wrap (n+1) > 60) then true else (↑e.l.length:Int) != cW e.op)=true then true else if (e.op==[108,105,116])=true then true else if (e.op==[99,111,108])=true then true else if (bif !tc e.v then true else !e.s==[])=true then true else tq g c d e.l (IntKind.i64.wrap (n+1))

theorem Pt {g:ze→Int→Int→Bool×Int} {c:ze→Int→Int→Bool} (hg:FK 137 (BG g c)):FK 137 (BG (AZ g) (DI g c)):=by
 refine bb (E:=EW g c) (Ip g c) fun x h0 res hx C hC=>?_
 unfold Qe at hx
 split at hx
 ·rename_i e d u n
  simp only [Tr.val] at hx
  split at hx
  ·rename_i hc
   simp only [zZ] at hx
   subst hx
   refine Reach.toBool ?_
   refine zk (n0:=1) (sm hg) (Ip g c) hC (zav g c e d n) ?_
   generalize hy:AZ g e d n=y
   unfold AZ at hy
   unfold DI at hc
   repeat' (refine iX (fun hsp=>?_) (fun hsp=>?_) <;> first | (rw [if_pos hsp] at hy hc) | (rw [if_neg (jq hsp)] at hy hc))
   all_goals subst hy
   ·exact ⟨rfl,rfl⟩
   ·exact ⟨rfl,rfl⟩
   ·exact ⟨rfl,rfl⟩
   ·exact ⟨rfl,rfl⟩
   ·exact Reach.len 73 .expr e.l rfl fun hl=>ZT hg hC d e.l hl _ 0 _ rfl (aZ _) hc
  ·simp at hx
 ·simp at hx

mutual
def nV:Nat→ze→Int→Int→Bool×Int
 | 0=>fun _ _ _=>(false,0)
 | n+1=>AZ (nV n)
def nT:Nat→ze→Int→Int→Bool
 | 0=>fun _ _ _=>false
 | n+1=>DI (nV n) (nT n)
end
theorem FW:∀ n,FK 137 (BG (nV n) (nT n))
 | 0=>by
  have h:FK 137 (zP [none,some .expr,some zg] (fun _ _=>.err)):=bb (Ip (fun _ _ _=>(false,0)) (fun _ _ _=>false)) (E:=Dn) fun x h0 res hx=>by simp at hx
  refine wS (ι:=Unit) (Gs:=fun _ _ _=>.err) (fun _=>h) fun x h0 res hx=>?_
  unfold Qe at hx
  split at hx
  ·simp [Tr.val,nT] at hx
  ·simp at hx
 | n+1=>Pt (FW n)
def F37:zB:=BG (nV 16) (nT 16)
theorem UH:FK 137 F37:=FW 16

noncomputable def vJ:=Dn.add 137 F37
theorem o7:zm vJ:=vI.add UH

abbrev fj:List (zn×AV):=[([97,110,100],.clo (.func 138) [] []),([111,114],.clo (.func 139) [] []),([110,111,116],.clo (.func 140) [] []),([61],.clo (.func 142) [] []),([60],.clo (.func 143) [] []),([43],.clo (.func 144) [] []),([45],.clo (.func 145) [] []),([110,117,108,108],.clo (.func 146) [] [])]
abbrev zbz:Nat→zS:=fun _=>{ }
theorem Yd:zz vJ.P 86 Tryz.f86 0:=aG (by kernel_rfl)
theorem zam:(run vJ 0 zbz (Func.results Tryz.f86).toList 400 (ah Tryz.f86) (zU (Func.ntmps Tryz.f86) [] [])).val=some (zp.ret (AV.mp 0) [AO.fmap fj]):=by kernel_rfl
def G23:b7 []:=fun _ h=>match h with
 | []=>.ok (.mp 0,[.fmap fj])
 | _=>.err
def F23:zB:=zP [] G23
theorem Ux:FK 86 F23:=by
 refine bb Yd fun x h0 res hx C hC=>?_
 unfold G23 at hx
 split at hx
 ·simp only [Tr.val,zZ] at hx
  subst hx
  exact lX (n0:=0) o7 Yd hC zam rfl
 ·simp at hx

def SO (op:zn) (x y:V):V:=if (op==[97,110,100])=true then Mk x y else if (op==[111,114])=true then ZI x y else if (op==[110,111,116])=true then Ez x y else if (op==[61])=true then yB x y else if (op==[60])=true then Ex x y else if (op==[43])=true then EA x y else if (op==[45])=true then yC x y else if (op==[110,117,108,108])=true then yD x y else (0,0,[])
def Zf (op:zn):Bool:=if (op==[97,110,100])=true then true else if (op==[111,114])=true then true else if (op==[110,111,116])=true then true else if (op==[61])=true then true else if (op==[60])=true then true else if (op==[43])=true then true else if (op==[45])=true then true else if (op==[110,117,108,108])=true then true else false
def Zg (op:zn) (x y:V) (h:List AO):Option zp:=if (op==[97,110,100])=true then some (.ret (zy zf (Mk x y)) h) else if (op==[111,114])=true then some (.ret (zy zf (ZI x y)) h) else if (op==[110,111,116])=true then some (.ret (zy zf (Ez x y)) h) else if (op==[61])=true then some (.ret (zy zf (yB x y)) h) else if (op==[60])=true then some (.ret (zy zf (Ex x y)) h) else if (op==[43])=true then some (.ret (zy zf (EA x y)) h) else if (op==[45])=true then some (.ret (zy zf (yC x y)) h) else if (op==[110,117,108,108])=true then some (.ret (zy zf (yD x y)) h) else none

def Qd (g:List (Sem zi)→List (Sem zf)→ze→V) (c:List (Sem zi)→List (Sem zf)→ze→Bool):b7 [none,some .expr]:=fun x h=>match x,h with
 | (.agg [.sl (.pr .str (.pr (.int .i64) .bool)) cols,.sl (.pr (.int .i64) (.pr (.int .i64) .str)) row,.mp 0],e,_),[.fmap [(k1,.clo (.func 138) [] []),(k2,.clo (.func 139) [] []),(k3,.clo (.func 140) [] []),(k4,.clo (.func 142) [] []),(k5,.clo (.func 143) [] []),(k6,.clo (.func 144) [] []),(k7,.clo (.func 145) [] []),(k8,.clo (.func 146) [] [])]]=>
  .chk (k1==[97,110,100]&&(k2==[111,114]&&(k3==[110,111,116]&&(k4==[61]&&(k5==[60]&&(k6==[43]&&(k7==[45]&&(k8==[110,117,108,108])))))))) (.chk (c cols row e) (.ok (zy zf (g cols row e),[.fmap fj])))
 | _,_=>.err
def EC (g:List (Sem zi)→List (Sem zf)→ze→V) (c:List (Sem zi)→List (Sem zf)→ze→Bool):zB:=zP [none,some .expr] (Qd g c)
noncomputable def EU (g:List (Sem zi)→List (Sem zf)→ze→V) (c:List (Sem zi)→List (Sem zf)→ze→Bool):ba:=vJ.add 87 (EC g c)
theorem sj {g:List (Sem zi)→List (Sem zf)→ze→V} {c:List (Sem zi)→List (Sem zf)→ze→Bool} (hg:FK 87 (EC g c)):zm (EU g c):=o7.add hg
theorem Ij (g:List (Sem zi)→List (Sem zf)→ze→V) (c:List (Sem zi)→List (Sem zf)→ze→Bool):zz (EU g c).P 87 Tryz.f87 2:=aG (by kernel_rfl)
theorem QX (g:List (Sem zi)→List (Sem zf)→ze→V) (c:List (Sem zi)→List (Sem zf)→ze→Bool) (cols:LC) (row:LV) (op:zn) (v:V) (s:zn):(run (EU g c) 1 SP (Func.results Tryz.f87).toList 600 (ah Tryz.f87) (zU (Func.ntmps Tryz.f87) [AV.agg [AV.sl zi cols,AV.sl zf row,AV.mp 0],zy Sh.expr (.mk op v s [])] [AO.fmap fj])).val=if (op==[108,105,116])=true then some (.ret (zy zf v) [.fmap fj]) else if (op==[99,111,108])=true then (if (bif decide (aN cols s < 0) then true else decide (aN cols s ≥ (↑row.length:Int)))=true then some (.ret (zy zf (0,0,[])) [.fmap fj]) else if zH (aN cols s) row.length=true then some (.ret (zy zf (row.getD (toNat (aN cols s)) (zj zf))) [.fmap fj]) else none) else Zg op (0,0,[]) (0,0,[]) [.fmap fj]:=by kernel_rfl
theorem QY (g:List (Sem zi)→List (Sem zf)→ze→V) (c:List (Sem zi)→List (Sem zf)→ze→Bool) (cols:LC) (row:LV) (op:zn) (v:V) (s:zn) (a:ze):(run (EU g c) 1 SP (Func.results Tryz.f87).toList 600 (ah Tryz.f87) (zU (Func.ntmps Tryz.f87) [AV.agg [AV.sl zi cols,AV.sl zf row,AV.mp 0],zy Sh.expr (.mk op v s [a])] [AO.fmap fj])).val=if (op==[108,105,116])=true then some (.ret (zy zf v) [.fmap fj]) else if (op==[99,111,108])=true then (if (bif decide (aN cols s < 0) then true else decide (aN cols s ≥ (↑row.length:Int)))=true then some (.ret (zy zf (0,0,[])) [.fmap fj]) else if zH (aN cols s) row.length=true then some (.ret (zy zf (row.getD (toNat (aN cols s)) (zj zf))) [.fmap fj]) else none) else if c cols row (.mk a.op a.v a.s a.l)=true then Zg op (g cols row (.mk a.op a.v a.s a.l)) (0,0,[]) [.fmap fj] else none:=by kernel_rfl
theorem QZ (g:List (Sem zi)→List (Sem zf)→ze→V) (c:List (Sem zi)→List (Sem zf)→ze→Bool) (cols:LC) (row:LV) (op:zn) (v:V) (s:zn) (a b:ze):(run (EU g c) 1 SP (Func.results Tryz.f87).toList 600 (ah Tryz.f87) (zU (Func.ntmps Tryz.f87) [AV.agg [AV.sl zi cols,AV.sl zf row,AV.mp 0],zy Sh.expr (.mk op v s [a,b])] [AO.fmap fj])).val=if (op==[108,105,116])=true then some (.ret (zy zf v) [.fmap fj]) else if (op==[99,111,108])=true then (if (bif decide (aN cols s < 0) then true else decide (aN cols s ≥ (↑row.length:Int)))=true then some (.ret (zy zf (0,0,[])) [.fmap fj]) else if zH (aN cols s) row.length=true then some (.ret (zy zf (row.getD (toNat (aN cols s)) (zj zf))) [.fmap fj]) else none) else if c cols row (.mk a.op a.v a.s a.l)=true then (if c cols row (.mk b.op b.v b.s b.l)=true then Zg op (g cols row (.mk a.op a.v a.s a.l)) (g cols row (.mk b.op b.v b.s b.l)) [.fmap fj] else none) else none:=by kernel_rfl

theorem lx {Φ:zp→Prop} {c:Bool} {a b:Option zp} (h1:c=true→ed Φ a) (h2:c=false→ed Φ b):ed Φ (if c=true then a else b):=by
 cases c
 ·simpa using h2 rfl
 ·simpa using h1 rfl
theorem pF {E:ba} {C:bW} {k:FuncId} {f:Func} {Q:AV→List AO→Prop} {n n0:Nat} (hE:zm E) (hf:zz E.P k f n) (hC:∀ id,n0≤id→C.ρ0 id=none) {keep:Nat→zS} {fuel:Nat}
  {todo:List Item} {st:St} {o:Option zp} (ht:(run E n0 keep f.results.toList fuel todo st).val=o) (h:ed (f8 E C k Q) o):Reach E C k todo st Q:=
 zk hE hf hC rfl (by rw [ht]; exact h)

theorem pq {E:ba} {C:bW} {op:zn} {x y:V} {h:List AO} (hc:Zf op=true):ed (f8 E C 87 (fun r h'=>(r,h')=(zy zf (SO op x y),h))) (Zg op x y h):=by
 generalize hy:SO op x y=z
 unfold Zf at hc
 unfold SO at hy
 unfold Zg
 repeat' (refine lx (fun hsp=>?_) (fun hsp=>?_) <;> first | (rw [if_pos hsp] at hy; try rw [if_pos hsp] at hc) | (rw [if_neg (jq hsp)] at hy; try rw [if_neg (jq hsp)] at hc))
 all_goals first | (cases hc; done) | (subst hy; rfl)

def BA (g:List (Sem zi)→List (Sem zf)→ze→V) (cols:LC) (row:LV):ze→V
 | .mk op v s l=>if (op==[108,105,116])=true then v else
  if (op==[99,111,108])=true then (if (bif decide (aN cols s < 0) then true else decide (aN cols s ≥ (↑row.length:Int)))=true then (0,0,[]) else row.getD (toNat (aN cols s)) (zj zf)) else
  match l with
  | []=>SO op (0,0,[]) (0,0,[])
  | [a]=>SO op (g cols row a) (0,0,[])
  | [a,b]=>SO op (g cols row a) (g cols row b)
  | _=>(0,0,[])
def oI (c:List (Sem zi)→List (Sem zf)→ze→Bool) (cols:LC) (row:LV):ze→Bool
 | .mk _ _ _ (_::_::_::_)=>false
 | .mk op _ s l=>if (op==[108,105,116])=true then true else
  if (op==[99,111,108])=true then (if (bif decide (aN cols s < 0) then true else decide (aN cols s ≥ (↑row.length:Int)))=true then true else zH (aN cols s) row.length) else
  match l with
  | []=>Zf op
  | [a]=>if c cols row a=true then Zf op else false
  | [a,b]=>if c cols row a=true then (if c cols row b=true then Zf op else false) else false
  | _=>false

theorem Pl {g:List (Sem zi)→List (Sem zf)→ze→V} {c:List (Sem zi)→List (Sem zf)→ze→Bool} (hg:FK 87 (EC g c)):FK 87 (EC (BA g) (oI c)):=by
 refine bb (E:=EU g c) (Ij g c) fun x h0 res hx C hC=>?_
 unfold Qd at hx
 split at hx
 ·rename_i cols row e u k1 k2 k3 k4 k5 k6 k7 k8
  simp only [Tr.val] at hx
  split at hx
  ·rename_i hk
   split at hx
   ·rename_i hc
    simp only [aC,ee] at hk
    obtain ⟨rfl,rfl,rfl,rfl,rfl,rfl,rfl,rfl⟩:=hk
    simp only [zZ] at hx
    subst hx
    obtain ⟨op,v,s,l⟩:=e
    match l,hc with
    | [],hc=>
     refine pF (n0:=1) (sj hg) (Ij g c) hC (QX g c cols row op v s) ?_
     generalize hy:BA g cols row (.mk op v s [])=z
     rw [oI] at hc
     rw [BA] at hy
     repeat' (first | (subst hy; exact pq hc) | refine lx (fun hsp=>?_) (fun hsp=>?_) <;> first | (first | rw [if_pos hsp] at hy hc | rw [if_pos hsp] at hc | rw [if_pos hsp] at hy) | (first | rw [if_neg (jq hsp)] at hy hc | rw [if_neg (jq hsp)] at hc | rw [if_neg (jq hsp)] at hy) | skip)
     all_goals first | (subst hy; exact pq hc) | (subst hy; rfl) | (rw [hc] at hsp; cases hsp)
    | [a],hc=>
     refine pF (n0:=1) (sj hg) (Ij g c) hC (QY g c cols row op v s a) ?_
     generalize hy:BA g cols row (.mk op v s [a])=z
     rw [oI] at hc
     rw [BA] at hy
     simp only [ze.eta]
     repeat' (first | (subst hy; exact pq hc) | refine lx (fun hsp=>?_) (fun hsp=>?_) <;> first | (first | rw [if_pos hsp] at hy hc | rw [if_pos hsp] at hc | rw [if_pos hsp] at hy) | (first | rw [if_neg (jq hsp)] at hy hc | rw [if_neg (jq hsp)] at hc | rw [if_neg (jq hsp)] at hy) | skip)
     all_goals first | (subst hy; exact pq hc) | (subst hy; rfl) | (cases hc; done) | (rw [hc] at hsp; cases hsp)
    | [a,b],hc=>
     refine pF (n0:=1) (sj hg) (Ij g c) hC (QZ g c cols row op v s a b) ?_
     generalize hy:BA g cols row (.mk op v s [a,b])=z
     rw [oI] at hc
     rw [BA] at hy
     simp only [ze.eta]
     repeat' (first | (subst hy; exact pq hc) | refine lx (fun hsp=>?_) (fun hsp=>?_) <;> first | (first | rw [if_pos hsp] at hy hc | rw [if_pos hsp] at hc | rw [if_pos hsp] at hy) | (first | rw [if_neg (jq hsp)] at hy hc | rw [if_neg (jq hsp)] at hc | rw [if_neg (jq hsp)] at hy) | skip)
     all_goals first | (subst hy; exact pq hc) | (subst hy; rfl) | (cases hc; done) | (rw [hc] at hsp; cases hsp)
    | _::_::_::_,hc=>
     cases hc
   ·simp at hx
  ·simp at hx
 ·simp at hx

mutual
def C3:Nat→List (Sem zi)→List (Sem zf)→ze→V
 | 0=>fun _ _ _=>(0,0,[])
 | n+1=>BA (C3 n)
def oH:Nat→List (Sem zi)→List (Sem zf)→ze→Bool
 | 0=>fun _ _ _=>false
 | n+1=>oI (oH n)
end
theorem FU:∀ n,FK 87 (EC (C3 n) (oH n))
 | 0=>by
  have h:FK 87 (zP [none,some .expr] (fun _ _=>.err)):=bb (Ij (fun _ _ _=>(0,0,[])) (fun _ _ _=>false)) (E:=vJ) fun x h0 res hx=>by simp at hx
  refine wS (ι:=Unit) (Gs:=fun _ _ _=>.err) (fun _=>h) fun x h0 res hx=>?_
  unfold Qd at hx
  split at hx
  ·simp [Tr.val,oH] at hx
  ·simp at hx
 | n+1=>Pl (FU n)
def F24:zB:=EC (C3 16) (oH 16)
theorem Uy:FK 87 F24:=FU 16

noncomputable def vK:=vJ.addL [(86,F23),(87,F24)]
theorem o8:zm vK:=o7.addL <| fc Ux <| fc Uy gX

abbrev zby:Nat→zS:=fun _=>{ }
theorem Yc:zz (vK).P 85 Tryz.f85 1:=aG (by kernel_rfl)
theorem zal (x0:Sem Sh.expr):rn vK 0 zby Tryz.f85 [zy Sh.expr x0] []=Tr.chk (nT 16 (zC x0) 1 0) (Tr.ok (zp.ret (AV.bool (nV 16 (zC x0) 1 0).1) [])):=by kernel_rfl
def iL (x0:Sem Sh.expr):Sem Sh.bool:=(nV 16 x0 1 0).1
def qa (x0:Sem Sh.expr):Bool:=if nT 16 x0 1 0=true then true else false
def F22:zB:=zA [Sh.expr] [Sh.bool] (fun x=>qa x.1) fun x=>(iL x.1,())
theorem Np:FK 85 F22:=by
 refine zL (Yc) fun x hc C hC=>?_
 unfold qa at hc
 refine zk o8 (Yc) (fun id _=>hC id) (zal x.1) ?_
 generalize hy:iL x.1=y
 unfold iL at hy
 try simp only [ze.eta]
 repeat' (first | with_reducible refine ea hy hc (fun _ hy hc=>?_) (fun _ hy hc=>?_) | with_reducible refine aM hy (fun _ hy=>?_) (fun _ hy=>?_) | with_reducible refine aX hc (fun hc=>?_) | with_reducible refine zo ?_)
 all_goals (subst hy; first | rfl)

abbrev kp7:Nat→zS:=fun _=>{ }
theorem ok7:zz (vK).P 27 Tryz.f27 1:=aG (by kernel_rfl)
theorem go7 (x0:Sem Sh.expr):rn vK 0 kp7 Tryz.f27 [zy Sh.expr x0] []=Tr.chk (nN 16 (zC x0) 14 80) (Tr.ok (zp.ret (AV.agg [AV.str (ze.op (jN 16 (zC x0) 14 80).1),ai (ze.v (jN 16 (zC x0) 14 80).1).1,ai (ze.v (jN 16 (zC x0) 14 80).1).2.1,AV.str (ze.v (jN 16 (zC x0) 14 80).1).2.2,AV.str (ze.s (jN 16 (zC x0) 14 80).1),AV.sl Sh.expr (ze.l (jN 16 (zC x0) 14 80).1)]) [])):=by kernel_rfl
def dd (x0:Sem Sh.expr):Sem Sh.expr:=ze.mk (ze.op (jN 16 x0 14 80).1) (ze.v (jN 16 x0 14 80).1) (ze.s (jN 16 x0 14 80).1) (ze.l (jN 16 x0 14 80).1)
def Dm (x0:Sem Sh.expr):Bool:=if nN 16 x0 14 80=true then true else false
def F7:zB:=zA [Sh.expr] [Sh.expr] (fun x=>Dm x.1) fun x=>(dd x.1,())
theorem Vg:FK 27 F7:=by
 refine zL (ok7) fun x hc C hC=>?_
 unfold Dm at hc
 refine zk o8 (ok7) (fun id _=>hC id) (go7 x.1) ?_
 generalize hy:dd x.1=y
 unfold dd at hy
 try simp only [ze.eta]
 repeat' (first | with_reducible refine ea hy hc (fun _ hy hc=>?_) (fun _ hy hc=>?_) | with_reducible refine aM hy (fun _ hy=>?_) (fun _ hy=>?_) | with_reducible refine aX hc (fun hc=>?_) | with_reducible refine zo ?_)
 all_goals (subst hy; first | rfl)

noncomputable def vL:=vK.addL [(85,F22),(27,F7)]
theorem o9:zm vL:=o8.addL <| fc Np <| fc Vg gX

abbrev zbA:Nat→zS:=fun _=>{ }
theorem Yg:zz (vL).P 83 Tryz.f83 2:=aG (by kernel_rfl)
theorem zaq (x0:Sem Sh.expr) (x1:Sem zi.sl):rn vL 0 zbA Tryz.f83 [zy Sh.expr x0,zy zi.sl x1] []=Tr.chk (qa (zC x0)) (Tr.br (!iL (zC x0)) (Tr.ok (zp.ret (AV.tup [ai 0,ai 1]) [])) (Tr.chk (gO 16 (zC x0) x1) (Tr.ok (zp.ret (AV.tup [ai (il 16 (zC x0) x1).1,ai (il 16 (zC x0) x1).2]) [])))):=by kernel_rfl
def be (x0:Sem Sh.expr) (x1:Sem zi.sl):Sem zg×Sem zg:=if (!iL x0)=true then (0,1) else ((il 16 x0 x1).1,(il 16 x0 x1).2)
def xk (x0:Sem Sh.expr) (x1:Sem zi.sl):Bool:=if qa x0=true then if (!iL x0)=true then true else if gO 16 x0 x1=true then true else false else false
def F30:zB:=zA [Sh.expr,zi.sl] [zg,zg] (fun x=>xk x.1 x.2.1) fun x=>((be x.1 x.2.1).1,(be x.1 x.2.1).2,())
theorem Nq:FK 83 F30:=by
 refine zL (Yg) fun x hc C hC=>?_
 unfold xk at hc
 refine zk o9 (Yg) (fun id _=>hC id) (zaq x.1 x.2.1) ?_
 generalize hy:be x.1 x.2.1=y
 unfold be at hy
 try simp only [ze.eta]
 repeat' (first | with_reducible refine ea hy hc (fun _ hy hc=>?_) (fun _ hy hc=>?_) | with_reducible refine aM hy (fun _ hy=>?_) (fun _ hy=>?_) | with_reducible refine aX hc (fun hc=>?_) | with_reducible refine zo ?_)
 all_goals (subst hy; first | rfl)

abbrev zbw:Nat→zS:=fun _=>{ }
theorem X5:zz (vL).P 48 Tryz.f48 3:=aG (by kernel_rfl)
theorem zad (x0:Sem Sh.expr) (x1:Sem zi.sl) (x2:Sem zf.sl):rn vL 0 zbw Tryz.f48 [zy Sh.expr x0,zy zi.sl x1,zy zf.sl x2] []=Tr.chk (qa (zC x0)) (Tr.br (!iL (zC x0)) (Tr.ok (zp.ret (AV.agg [ai 0,ai 0,AV.str []]) [])) (Tr.chk ([97,110,100]==[97,110,100]&&([111,114]==[111,114]&&([110,111,116]==[110,111,116]&&([61]==[61]&&([60]==[60]&&([43]==[43]&&([45]==[45]&&[110,117,108,108]==[110,117,108,108]))))))) (Tr.chk (oH 16 x1 x2 (zC x0)) (Tr.ok (zp.ret (AV.agg [ai (C3 16 x1 x2 (zC x0)).1,ai (C3 16 x1 x2 (zC x0)).2.1,AV.str (C3 16 x1 x2 (zC x0)).2.2]) []))))):=by kernel_rfl
def g8 (x0:Sem Sh.expr) (x1:Sem zi.sl) (x2:Sem zf.sl):Sem zf:=if (!iL x0)=true then (0,0,[]) else C3 16 x1 x2 x0
def xj (x0:Sem Sh.expr) (x1:Sem zi.sl) (x2:Sem zf.sl):Bool:=if qa x0=true then if (!iL x0)=true then true else if ([97,110,100]==[97,110,100]&&([111,114]==[111,114]&&([110,111,116]==[110,111,116]&&([61]==[61]&&([60]==[60]&&([43]==[43]&&([45]==[45]&&[110,117,108,108]==[110,117,108,108])))))))=true then if oH 16 x1 x2 x0=true then true else false else false else false
def F11:zB:=zA [Sh.expr,zi.sl,zf.sl] [zf] (fun x=>xj x.1 x.2.1 x.2.2.1) fun x=>(g8 x.1 x.2.1 x.2.2.1,())
theorem Nk:FK 48 F11:=by
 refine zL (X5) fun x hc C hC=>?_
 unfold xj at hc
 refine zk o9 (X5) (fun id _=>hC id) (zad x.1 x.2.1 x.2.2.1) ?_
 generalize hy:g8 x.1 x.2.1 x.2.2.1=y
 unfold g8 at hy
 try simp only [ze.eta]
 repeat' (first | with_reducible refine ea hy hc (fun _ hy hc=>?_) (fun _ hy hc=>?_) | with_reducible refine aM hy (fun _ hy=>?_) (fun _ hy=>?_) | with_reducible refine aX hc (fun hc=>?_) | with_reducible refine zo ?_)
 all_goals (subst hy; first | rfl)

noncomputable def NE:=vL.addL [(83,F30),(48,F11)]
theorem E2:zm NE:=o9.addL <| fc Nq <| fc Nk gX

theorem j7 (d:Int) (h1:-1000≤d) (h2:d≤1000):IntKind.i64.wrap d=d:=by
 rw [IntKind.wrap_i64]; omega

theorem wl {g:Sem Sh.expr→Sem zg→Sem zg→Sem Sh.expr×Sem zg} {c:Sem Sh.expr→Sem zg→Sem zg→Bool} {i1:Int} (h:∀ x n,0 < i1→c x (IntKind.i64.wrap (i1 - 1)) n=true) {a0:zn} {a1 a2:Int} {a3 a4 b0:zn} {b1 b2:Int} {b3 b4 d0:zn} {d1 d2:Int} {d3 d4:zn}:
  ∀ (l:List (Sem Sh.expr)) (i n:Int) (acc:List (Sem Sh.expr)),(acc.length:Int)≤i→ch g c i1 a0 a1 a2 a3 a4 b0 b1 b2 b3 b4 d0 d1 d2 d3 d4 l i n acc=true
 | [],_,_,_,_=>rfl
 | x::r,i,n,acc,hi=>by
  rw [ch]
  split
  ·rename_i hk
   have h3:i < 3∧i1 > 0:=by
    cases h1:decide (i < 3) <;> cases h2:decide (i1 > 0) <;> simp_all
   rw [if_pos (h x n h3.2),if_pos (by simp; omega)]
   exact wl h r (i+1) _ _ (by simp; omega)
  ·rfl

theorem Cd {g:Sem Sh.expr→Sem zg→Sem zg→Sem Sh.expr×Sem zg} {c:Sem Sh.expr→Sem zg→Sem zg→Bool} {i1:Int} (h:∀ x n,0 < i1→c x (IntKind.i64.wrap (i1 - 1)) n=true) (e:ze) (n:Int):AH g c e i1 n=true:=by
 have hl:=fun a0 a1 a2 a3 a4 b0 b1 b2 b3 b4 d0 d1 d2 d3 d4 l n=>wl (g:=g) h (a0:=a0) (a1:=a1) (a2:=a2) (a3:=a3) (a4:=a4) (b0:=b0) (b1:=b1) (b2:=b2) (b3:=b3) (b4:=b4) (d0:=d0) (d1:=d1) (d2:=d2) (d3:=d3) (d4:=d4) l 0 n [] (by simp)
 unfold AH
 repeat' split
 all_goals first
  | exact hl _ _ _ _ _ _ _ _ _ _ _ _ _ _ _ _ _
  | (exfalso; simp only [ae,aC,not_and] at *; omega)

theorem sV:∀ (N:Nat) (e:ze) (d n:Int),0≤d→d < N→N≤100→nN N e d n=true
 | 0,_,_,_,h1,h2,_=>by omega
 | N+1,e,d,n,h1,h2,h3=>by
  rw [nN]
  refine Cd (fun x m hd=>?_) e n
  rw [j7 _ (by omega) (by omega)]
  exact sV N x (d - 1) m (by omega) (by omega) (by omega)

theorem tr {g:ze→Int→Int→Bool×Int} {c:ze→Int→Int→Bool} {d:Int} (h:∀ x n,c x (IntKind.i64.wrap (d+1)) n=true):∀ (l:List ze) (n:Int),tq g c d l n=true
 | [],_=>rfl
 | x::r,n=>by
  rw [tq,if_pos (h x n)]
  split
  ·rfl
  ·exact tr h r _

theorem tp:∀ (N:Nat) (e:ze) (d n:Int),0≤d→d≤13→14≤d+N→nT N e d n=true
 | 0,_,_,_,_,_,_=>by omega
 | N+1,e,d,n,h1,h2,h3=>by
  rw [nT]
  unfold DI
  by_cases hd:d > 12
  ·simp [hd]
  ·have hl:tq (nV N) (nT N) d e.l (IntKind.i64.wrap (n+1))=true:=tr (fun x m=>by
    rw [j7 _ (by omega) (by omega)]
    exact tp N x (d+1) m (by omega) (by omega) (by omega)) _ _
   repeat' split
   all_goals first | rfl | exact hl

abbrev zbS:ze:=.mk [] (0,0,[]) [] []

theorem CU (N:Nat) (e:ze):jW (N+1) e zbS=true:=by
 rw [jW]
 unfold yn
 have hl:wi (qt N) (jW N) e.l []=true:=by
  unfold wi
  split
  ·rfl
  ·cases e.l <;> rfl
 show (bif e.op==[] then bif ZD e.v (0,0,[]) then bif e.s==[] then wi (qt N) (jW N) e.l [] else true else true else true)=true
 rw [hl]
 cases e.op==[] <;> cases ZD e.v (0,0,[]) <;> cases e.s==[] <;> rfl

theorem jQ {α:Type} (p:α→Bool):∀ (l:List α) (i:Nat),zQ p l i=-1∨((i:Int)≤zQ p l i∧zQ p l i < i+l.length)
 | [],_=>.inl rfl
 | x::r,i=>by
  unfold zQ
  split
  ·exact .inr ⟨by omega,by simp; omega⟩
  ·rcases jQ p r (i+1) with h | ⟨h1,h2⟩
   ·exact .inl h
   ·exact .inr ⟨by omega,by simp; omega⟩

theorem w6 (l:List (Sem zi)) (s:zn):aN l s=-1∨(0≤aN l s∧aN l s < l.length):=by
 have:=jQ (fun c:Sem zi=>c.1==s) l 0
 unfold aN
 simpa using this

theorem kZ (op:zn):(cW op=0∧(op=[108,105,116]∨op=[99,111,108]))∨(cW op=1∧(op=[110,111,116]∨op=[110,117,108,108]))∨
  (cW op=2∧(op=[97,110,100]∨op=[111,114]∨op=[61]∨op=[60]∨op=[43]∨op=[45]))∨cW op=-1:=by
 unfold cW D3
 simp only [SB]
 repeat' split
 all_goals simp_all

theorem pp {g:ze→Int→Int→Bool×Int} {e:ze} {d n:Int} (h:(AZ g e d n).1=true):(e.l.length:Int)=cW e.op∧
  ((e.op=[108,105,116]∨e.op=[99,111,108])∨(uS g d e.l (IntKind.i64.wrap (n+1))).1=true):=by
 unfold AZ at h
 split at h
 ·cases h
 ·rename_i h1
  have hl:(e.l.length:Int)=cW e.op:=by
   cases h2:decide (d > 12) <;> cases h3:decide (IntKind.i64.wrap (n+1) > 60) <;> simp_all
  refine ⟨hl,?_⟩
  split at h
  ·rename_i h2; exact .inl (.inl (by simpa using h2))
  ·split at h
   ·rename_i h2; exact .inl (.inr (by simpa using h2))
   ·split at h
    ·cases h
    ·exact .inr h

theorem nU {g:ze→Int→Int→Bool×Int} {d:Int}:∀ (l:List ze) (n:Int),(uS g d l n).1=true→∀ x∈l,∃ m,(g x (IntKind.i64.wrap (d+1)) m).1=true
 | [],_,_,_,hx=>by simp at hx
 | y::r,n,h,x,hx=>by
  rw [uS] at h
  split at h
  ·cases h
  ·rename_i hy
   rcases eE.1 hx with rfl | hx
   ·exact ⟨n,by simpa using hy⟩
   ·exact nU r _ h x hx

theorem qz {g:ze→List (Sem zi)→Int×Int} {c:ze→List (Sem zi)→Bool} {cols:List (Sem zi)} {op:zn} {a1 a2:Int} {a3 a4:zn} {w:List ze}:
    ∀ (l:List ze) (i:Int) (acc:List Int),(∀ x∈l,c x cols=true)→((acc.length:Int)+l.length)=cW op→dS g c cols op a1 a2 a3 a4 w l i acc=true
  | [], i,acc,_,hp=>by
    have hp:(acc.length:Int)=cW op:=by simpa using hp
    have hcp:decide (aN cols a4 < 0)=true∨zH (aN cols a4) cols.length=true:=by
      rcases w6 cols a4 with h | ⟨h1,h2⟩
      · exact .inl (by rw [h]; rfl)
      · exact .inr (by simp [zH,h1,h2])
    have h2:op=[61]∨op=[60]→acc.length=2:=by
      rintro (rfl | rfl)
      · have:cW [61]=2:=by decide
        omega
      · have:cW [60]=2:=by decide
        omega
    unfold dS
    repeat' split
    all_goals first
      | rfl
      | (exfalso; rcases hcp with h | h <;> simp_all; done)
      | (exfalso
         rename_i h7 h8
         have h9:=h2 (by simp_all)
         rw [h9] at h8
         exact h8 (by cases hA:(acc.getD (toNat 0) (zj zg)==acc.getD (toNat 1) (zj zg)) <;> cases hB:(acc.getD (toNat 0) (zj zg)==0) <;> rfl))
  | x :: r,i,acc,hc,hp=>by
    have hle:cW op≤2:=by rcases kZ op with h | h | h | h <;> omega
    rw [dS,if_pos (hc x (by simp))]
    split
    · rfl
    · rw [if_pos (by simp at hp ⊢; omega)]
      exact qz r (i+1) _ (fun y hy=>hc y (by simp [hy])) (by simp at hp ⊢; omega)

theorem oG:∀ (N:Nat) (e:ze) (d n:Int) (cols:List (Sem zi)),(nV N e d n).1=true→gO N e cols=true
 | 0,_,_,_,_,h=>by cases h
 | N+1,e,d,n,cols,h=>by
  rw [nV] at h
  obtain ⟨hl,h2⟩:=pp h
  rw [gO]
  unfold ro
  refine qz e.l 0 [] (fun x hx=>?_) (by simpa using hl)
  rcases h2 with h2 | h2
  ·exfalso
   have:cW e.op=0:=by
    rcases h2 with h2 | h2 <;> rw [h2] <;> decide
   rw [this] at hl
   have:e.l=[]:=yV (by omega)
   rw [this] at hx; simp at hx
  ·obtain ⟨m,hm⟩:=nU e.l _ h2 x hx
   exact oG N x _ _ cols hm

theorem ut:∀ (N:Nat) (e:ze) (d n:Int) (cols:List (Sem zi)) (row:List (Sem zf)),(nV N e d n).1=true→oH N cols row e=true
 | 0,_,_,_,_,_,h=>by cases h
 | N + 1,.mk op v s l,d,n,cols,row,h=>by
  rw [nV] at h
  obtain ⟨hl,h2⟩:=pp h
  have hl:(l.length:Int)=cW op:=hl
  have h2:(op=[108,105,116]∨op=[99,111,108])∨(uS (nV N) d l (IntKind.i64.wrap (n+1))).1=true:=h2
  have hx:∀ x∈l,(¬ (op=[108,105,116]∨op=[99,111,108]))→oH N cols row x=true:=by
   intro x hx hno
   rcases h2 with h2 | h2
   ·exact (hno h2).elim
   ·obtain ⟨m,hm⟩:=nU l _ h2 x hx
    exact ut N x _ _ cols row hm
  have hcol:(if (bif decide (aN cols s < 0) then true else decide (aN cols s ≥ (↑row.length:Int)))=true then true else zH (aN cols s) row.length)=true:=by
   split
   ·rfl
   ·rename_i hh
    have h1:0≤aN cols s∧aN cols s < row.length:=by
     cases hq:decide (aN cols s < 0)
     ·rw [hq] at hh
      simp at hq hh
      exact ⟨hq,hh⟩
     ·rw [hq] at hh; simp at hh
    simp [zH,h1.1,h1.2]
  rw [oH]
  rcases kZ op with ⟨hp,ho⟩ | ⟨hp,ho⟩ | ⟨hp,ho⟩ | hp
  ·have:l=[]:=yV (by omega)
   subst this
   rcases ho with rfl | rfl
   ·rfl
   ·rw [oI]; exact hcol
  ·match l,hl,hx with
   | [a],_,hx=>
    rcases ho with rfl | rfl
    ·rw [oI]; exact (if_pos (hx a (by simp) (by decide))).trans rfl
    ·rw [oI]; exact (if_pos (hx a (by simp) (by decide))).trans rfl
   | [],hl,_=>simp at hl; omega
   | _::_::_,hl,_=>simp at hl; omega
  ·match l,hl,hx with
   | [a,b],_,hx=>
    rcases ho with rfl | rfl | rfl | rfl | rfl | rfl <;>
     (rw [oI]; exact (if_pos (hx a (by simp) (by decide))).trans ((if_pos (hx b (by simp) (by decide))).trans rfl))
   | [],hl,_=>simp at hl; omega
   | [_],hl,_=>simp at hl; omega
   | _::_::_::_,hl,_=>simp at hl; omega
  ·omega

theorem mQ (e:ze):qa e=true:=by
 unfold qa
 rw [if_pos (tp 16 e 1 0 (by omega) (by omega) (by omega))]
theorem BS (e:ze):Dm e=true:=by
 unfold Dm
 rw [if_pos (sV 16 e 14 80 (by omega) (by omega) (by omega))]
theorem Al (e:ze) (cols:List (Sem zi)):xk e cols=true:=by
 unfold xk
 rw [if_pos (mQ e)]
 split
 ·rfl
 ·rename_i h
  rw [if_pos (oG 16 e 1 0 cols (by simpa [iL] using h))]
theorem Ak (e:ze) (cols:List (Sem zi)) (row:List (Sem zf)):xj e cols row=true:=by
 unfold xj
 rw [if_pos (mQ e)]
 split
 ·rfl
 ·rename_i h
  rw [if_pos (by decide),if_pos (ut 16 e 1 0 cols row (by simpa [iL] using h))]

def TB:zB:=zW [Sh.expr] [Sh.bool] fun x=>(iL x.1,())
theorem Pi:FK 85 TB:=dL Np fun x=>mQ x.1
def F7t:zB:=zW [Sh.expr] [Sh.expr] fun x=>(dd x.1,())
theorem Vn:FK 27 F7t:=dL Vg fun x=>BS x.1
def TF:zB:=zW [Sh.expr,zi.sl] [zg,zg] fun x=>((be x.1 x.2.1).1,(be x.1 x.2.1).2,())
theorem Po:FK 83 TF:=dL Nq fun x=>Al x.1 x.2.1
def S7:zB:=zW [Sh.expr,zi.sl,zf.sl] [zf] fun x=>(g8 x.1 x.2.1 x.2.2.1,())
theorem OP:FK 48 S7:=dL Nk fun x=>Ak x.1 x.2.1 x.2.2.1

noncomputable def ki:=NE.addL [(85,TB),(27,F7t),(83,TF),(48,S7)]
theorem fx:zm ki:=E2.addL <| fc Pi <| fc Vn <| fc Po <| fc OP gX

abbrev zbx:Nat→zS:=fun _=>{ }
theorem Ya:zz (ki).P 75 Tryz.f75 2:=aG (by kernel_rfl)
theorem zaj (x0:Sem Sh.expr) (x1:Sem zi.sl):rn ki 0 zbx Tryz.f75 [zy Sh.expr x0,zy zi.sl x1] []=Tr.chk (jW 16 (zC x0) (ze.mk [] (0,0,[]) [] [])) (Tr.br (qt 16 (zC x0) (ze.mk [] (0,0,[]) [] [])) (Tr.ok (zp.ret (ai 0) [])) (Tr.br (bif (be (zC x0) x1).2==0 then bif (be (zC x0) x1).1 != 3 then (be (zC x0) x1).1 != 0 else false else false) (Tr.ok (zp.ret (ai 5) [])) (Tr.ok (zp.ret (ai (be (zC x0) x1).2) [])))):=by kernel_rfl
def nc (x0:Sem Sh.expr) (x1:Sem zi.sl):Sem zg:=(if qt 16 x0 (ze.mk [] (0,0,[]) [] [])=true then 0 else if (bif (be x0 x1).2==0 then bif (be x0 x1).1 != 3 then (be x0 x1).1 != 0 else false else false)=true then 5 else (be x0 x1).2)
def ra (x0:Sem Sh.expr) (_:Sem zi.sl):Bool:=(if jW 16 x0 (ze.mk [] (0,0,[]) [] [])=true then true else false)
def F19:zB:=zA [Sh.expr,zi.sl] [zg] (fun x=>ra x.1 x.2.1) fun x=>(nc x.1 x.2.1,())
theorem No:FK 75 F19:=by
 refine zL (Ya) fun x hc C hC=>?_
 unfold ra at hc
 refine zk fx (Ya) (fun id _=>hC id) (zaj x.1 x.2.1) ?_
 generalize hy:nc x.1 x.2.1=y
 unfold nc at hy
 try simp only [ze.eta]
 repeat' (first | with_reducible refine ea hy hc (fun _ hy hc=>?_) (fun _ hy hc=>?_) | with_reducible refine aM hy (fun _ hy=>?_) (fun _ hy=>?_) | with_reducible refine aX hc (fun hc=>?_) | with_reducible refine zo ?_)
 all_goals (subst hy; first | rfl)

abbrev kp5:Nat→zS:=fun j=>if j=3 then { slots:=[1,2,3,4],prom:=[(3,some 3,zg)] } else if j=7 then { slots:=[1,2,3,5],prom:=[(3,some 4,zr)] } else { }
abbrev Jd (i4:Int) (ja0:TS) (ja1:LC) (ja2:Sem zg) (ja3:LI) (ja4:LF) (ja5:zn) (ja6:Int) (ja7:Int) (ja8:zn) (ja9:zn) (ja10:LX) (jb0:List UInt8) (jb2:Int) (jb5:List UInt8) (jb6:Int) (jb7:Int) (jb8:List UInt8) (jb9:List UInt8) (jc0:TS) (jc1:LC) (jc2:Sem zg) (jc5:zn) (jc6:Int) (jc7:Int) (jc8:zn) (jc9:zn) (jc10:LX) (lh_3:LI):St:={ tmps:=(tm 70 [(1,AV.ptr 0 0),(2,AV.ptr 1 0),(3,AV.ptr 2 0),(4,ai i4)]),heap:=[AO.box [AV.str ja0,AV.sl zi ja1,ai ja2,AV.sl zg ja3,AV.sl zr ja4,AV.str ja5,ai ja6,ai ja7,AV.str ja8,AV.str ja9,AV.sl Sh.expr ja10],AO.box [AV.str jb0,AV.nils,ai jb2,AV.nils,AV.nils,AV.str jb5,ai jb6,ai jb7,AV.str jb8,AV.str jb9,AV.nils],AO.box [AV.str jc0,AV.sl zi jc1,ai jc2,AV.vec 3,AV.nils,AV.str jc5,ai jc6,ai jc7,AV.str jc8,AV.str jc9,AV.sl Sh.expr jc10],AO.vec zg lh_3] }
theorem SN:zz (ki).P 63 Tryz.f63 1:=aG (by kernel_rfl)
theorem go5 (x0:Sem zE):rn ki 0 kp5 Tryz.f63 [zy zE x0] []=Tr.ok (zp.head 3 (zx Tryz.f63 3) (Jd 0 x0.1 x0.2.1 x0.2.2.1 x0.2.2.2.1 x0.2.2.2.2.1 (ze.op x0.2.2.2.2.2) (ze.v x0.2.2.2.2.2).1 (ze.v x0.2.2.2.2.2).2.1 (ze.v x0.2.2.2.2.2).2.2 (ze.s x0.2.2.2.2.2) (ze.l x0.2.2.2.2.2) [] 0 [] 0 0 [] [] (ue x0.1) (kV x0.2.1) x0.2.2.1 (ze.op (dd (zC x0.2.2.2.2.2))) (ze.v (dd (zC x0.2.2.2.2.2))).1 (ze.v (dd (zC x0.2.2.2.2.2))).2.1 (ze.v (dd (zC x0.2.2.2.2.2))).2.2 (ze.s (dd (zC x0.2.2.2.2.2))) (ze.l (dd (zC x0.2.2.2.2.2))) [])):=by kernel_rfl
abbrev Je (i5:Int) (ja0:TS) (ja1:LC) (ja2:Sem zg) (ja3:LI) (ja4:LF) (ja5:zn) (ja6:Int) (ja7:Int) (ja8:zn) (ja9:zn) (ja10:LX) (jb0:List UInt8) (jb2:Int) (jb5:List UInt8) (jb6:Int) (jb7:Int) (jb8:List UInt8) (jb9:List UInt8) (jc0:TS) (jc1:LC) (jc2:Sem zg) (jc5:zn) (jc6:Int) (jc7:Int) (jc8:zn) (jc9:zn) (jc10:LX) (lh_3:LI) (lh_4:LF):St:={ tmps:=(tm 70 [(1,AV.ptr 0 0),(2,AV.ptr 1 0),(3,AV.ptr 2 0),(5,ai i5)]),heap:=[AO.box [AV.str ja0,AV.sl zi ja1,ai ja2,AV.sl zg ja3,AV.sl zr ja4,AV.str ja5,ai ja6,ai ja7,AV.str ja8,AV.str ja9,AV.sl Sh.expr ja10],AO.box [AV.str jb0,AV.nils,ai jb2,AV.nils,AV.nils,AV.str jb5,ai jb6,ai jb7,AV.str jb8,AV.str jb9,AV.nils],AO.box [AV.str jc0,AV.sl zi jc1,ai jc2,AV.vec 3,AV.vec 4,AV.str jc5,ai jc6,ai jc7,AV.str jc8,AV.str jc9,AV.sl Sh.expr jc10],AO.vec zg lh_3,AO.vec zr lh_4] }
theorem Ok (i4:Int) (ja0:TS) (ja1:LC) (ja2:Sem zg) (ja3:LI) (ja4:LF) (ja5:zn) (ja6:Int) (ja7:Int) (ja8:zn) (ja9:zn) (ja10:LX) (jb0:List UInt8) (jb2:Int) (jb5:List UInt8) (jb6:Int) (jb7:Int) (jb8:List UInt8) (jb9:List UInt8) (jc0:TS) (jc1:LC) (jc2:Sem zg) (jc5:zn) (jc6:Int) (jc7:Int) (jc8:zn) (jc9:zn) (jc10:LX) (lh_3:LI):rh ki 0 kp5 Tryz.f63 3 (Jd i4 ja0 ja1 ja2 ja3 ja4 ja5 ja6 ja7 ja8 ja9 ja10 jb0 jb2 jb5 jb6 jb7 jb8 jb9 jc0 jc1 jc2 jc5 jc6 jc7 jc8 jc9 jc10 lh_3)=Tr.br (bif decide (i4 < (↑ja3.length:Int)) then decide (i4 < 10) else false) (Tr.chk (zH i4 ja3.length) (Tr.chk (decide (lh_3.length+[ja3.getD i4.toNat (zj zg)].length≤1073741824)) (Tr.ok (zp.head 3 (zx Tryz.f63 3) (Jd (IntKind.i64.wrap (i4+1)) ja0 ja1 ja2 ja3 ja4 ja5 ja6 ja7 ja8 ja9 ja10 jb0 jb2 jb5 jb6 jb7 jb8 jb9 jc0 jc1 jc2 jc5 jc6 jc7 jc8 jc9 jc10 (lh_3++[ja3.getD i4.toNat (zj zg)])))))) (Tr.ok (zp.head 7 (zx Tryz.f63 7) (Je 0 ja0 ja1 ja2 ja3 ja4 ja5 ja6 ja7 ja8 ja9 ja10 jb0 jb2 jb5 jb6 jb7 jb8 jb9 jc0 jc1 jc2 jc5 jc6 jc7 jc8 jc9 jc10 lh_3 []))):=by kernel_rfl
theorem Ol (i5:Int) (ja0:TS) (ja1:LC) (ja2:Sem zg) (ja3:LI) (ja4:LF) (ja5:zn) (ja6:Int) (ja7:Int) (ja8:zn) (ja9:zn) (ja10:LX) (jb0:List UInt8) (jb2:Int) (jb5:List UInt8) (jb6:Int) (jb7:Int) (jb8:List UInt8) (jb9:List UInt8) (jc0:TS) (jc1:LC) (jc2:Sem zg) (jc5:zn) (jc6:Int) (jc7:Int) (jc8:zn) (jc9:zn) (jc10:LX) (lh_3:LI) (lh_4:LF):rh ki 0 kp5 Tryz.f63 7 (Je i5 ja0 ja1 ja2 ja3 ja4 ja5 ja6 ja7 ja8 ja9 ja10 jb0 jb2 jb5 jb6 jb7 jb8 jb9 jc0 jc1 jc2 jc5 jc6 jc7 jc8 jc9 jc10 lh_3 lh_4)=Tr.br (bif decide (i5 < (↑ja4.length:Int)) then decide (i5 < 10) else false) (Tr.chk (zH i5 ja4.length) (Tr.chk (zH i5 ja4.length) (Tr.chk (decide (lh_4.length+[((ja4.getD i5.toNat (zj zr)).1,ue (ja4.getD i5.toNat (zj zr)).2)].length≤1073741824)) (Tr.ok (zp.head 7 (zx Tryz.f63 7) (Je (IntKind.i64.wrap (i5+1)) ja0 ja1 ja2 ja3 ja4 ja5 ja6 ja7 ja8 ja9 ja10 jb0 jb2 jb5 jb6 jb7 jb8 jb9 jc0 jc1 jc2 jc5 jc6 jc7 jc8 jc9 jc10 lh_3 (lh_4++[((ja4.getD i5.toNat (zj zr)).1,ue (ja4.getD i5.toNat (zj zr)).2)]))))))) (Tr.ok (zp.ret (AV.agg [AV.str jc0,AV.sl zi jc1,ai jc2,AV.vec 0,AV.vec 1,AV.str jc5,ai jc6,ai jc7,AV.str jc8,AV.str jc9,AV.sl Sh.expr jc10])
 [AO.vec zg lh_3,AO.vec zr lh_4])):=by kernel_rfl
def gn (ja0:TS) (ja1:LC) (ja2:Sem zg) (ja3:LI) (ja5:zn) (ja6:Int) (ja7:Int) (ja8:zn) (ja9:zn) (ja10:LX) (jb0:List UInt8) (jb2:Int) (jb5:List UInt8) (jb6:Int) (jb7:Int) (jb8:List UInt8) (jb9:List UInt8) (jc0:TS) (jc1:LC) (jc2:Sem zg) (jc5:zn) (jc6:Int) (jc7:Int) (jc8:zn) (jc9:zn) (jc10:LX) (lh_3:LI):List (Sem zr)→Int→List (Sem zr)→Sem zE
 | [],_,lh_4=>((jc0,jc1,jc2,lh_3,lh_4,ze.mk jc5 (jc6,jc7,jc8) jc9 jc10))
 | x::r,i5,lh_4=>(if decide (i5 < 10)=true then
 gn ja0 ja1 ja2 ja3 ja5 ja6 ja7 ja8 ja9 ja10 jb0 jb2 jb5 jb6 jb7 jb8 jb9 jc0 jc1 jc2 jc5
  jc6 jc7 jc8 jc9 jc10 lh_3 r (i5+1) (lh_4++[(x.1,ue x.2)])
else (jc0,jc1,jc2,lh_3,lh_4,ze.mk jc5 (jc6,jc7,jc8) jc9 jc10))
def gM (ja0:TS) (ja1:LC) (ja2:Sem zg) (ja3:LI) (ja5:zn) (ja6:Int) (ja7:Int) (ja8:zn) (ja9:zn) (ja10:LX) (jb0:List UInt8) (jb2:Int) (jb5:List UInt8) (jb6:Int) (jb7:Int) (jb8:List UInt8) (jb9:List UInt8) (jc0:TS) (jc1:LC) (jc2:Sem zg) (jc5:zn) (jc6:Int) (jc7:Int) (jc8:zn) (jc9:zn) (jc10:LX) (lh_3:LI):List (Sem zr)→Int→List (Sem zr)→Bool
 | [],_,_=>(true)
 | x::r,i5,lh_4=>(if decide (i5 < 10)=true then
 if decide (lh_4.length+[(x.1,ue x.2)].length≤1073741824)=true then
  gM ja0 ja1 ja2 ja3 ja5 ja6 ja7 ja8 ja9 ja10 jb0 jb2 jb5 jb6 jb7 jb8 jb9 jc0 jc1 jc2 jc5
   jc6 jc7 jc8 jc9 jc10 lh_3 r (i5+1) (lh_4++[(x.1,ue x.2)])
 else false
else true)
theorem V6 {C:bW} (hC:∀ id,C.ρ0 id=none) (ja0:TS) (ja1:LC) (ja2:Sem zg) (ja3:LI) (ja5:zn) (ja6:Int) (ja7:Int) (ja8:zn) (ja9:zn) (ja10:LX) (jb0:List UInt8) (jb2:Int) (jb5:List UInt8) (jb6:Int) (jb7:Int) (jb8:List UInt8) (jb9:List UInt8) (jc0:TS) (jc1:LC) (jc2:Sem zg) (jc5:zn) (jc6:Int) (jc7:Int) (jc8:zn) (jc9:zn) (jc10:LX) (lh_3:LI) (ja4:LF) (hl:ja4.length≤zD):∀ (m i:Nat) (lh_4:LF),ja4.length - i=m→i≤ja4.length→gM ja0 ja1 ja2 ja3 ja5 ja6 ja7 ja8 ja9 ja10 jb0 jb2 jb5 jb6 jb7 jb8 jb9 jc0 jc1 jc2 jc5 jc6 jc7 jc8 jc9 jc10 lh_3 (ja4.drop i) i lh_4=true→
  Reach (ki) C 63 (zx Tryz.f63 7) (Je (i:Int) ja0 ja1 ja2 ja3 ja4 ja5 ja6 ja7 ja8 ja9 ja10 jb0 jb2 jb5 jb6 jb7 jb8 jb9 jc0 jc1 jc2 jc5 jc6 jc7 jc8 jc9 jc10 lh_3 lh_4) (fun r h=>zX h [zE] r=some (gn ja0 ja1 ja2 ja3 ja5 ja6 ja7 ja8 ja9 ja10 jb0 jb2 jb5 jb6 jb7 jb8 jb9 jc0 jc1 jc2 jc5 jc6 jc7 jc8 jc9 jc10 lh_3 (ja4.drop i) i lh_4,())):=by
 intro m
 induction m with
 | zero=>
  intro i lh_4 hm hi hc
  obtain rfl:i=ja4.length:=by omega
  rw [cQ] at hc ⊢
  refine zk fx (SN) (fun id _=>hC id) (Ol _ _ _ _ _ _ _ _ _ _ _ _ _ _ _ _ _ _ _ _ _ _ _ _ _ _ _ _ _ _) ?_
  rw [gM] at hc
  generalize hy:gn ja0 ja1 ja2 ja3 ja5 ja6 ja7 ja8 ja9 ja10 jb0 jb2 jb5 jb6 jb7 jb8 jb9 jc0 jc1 jc2 jc5 jc6 jc7 jc8 jc9 jc10 lh_3 [] _ lh_4=y
  rw [gn] at hy
  simp only [ap,cZ,Tr.val_brF]
  repeat' (first | with_reducible refine ea hy hc (fun _ hy hc=>?_) (fun _ hy hc=>?_) | with_reducible refine aM hy (fun _ hy=>?_) (fun _ hy=>?_) | with_reducible refine aX hc (fun hc=>?_) | with_reducible refine zo ?_)
  all_goals (subst hy; first | (change Reach _ _ _ _ _ _; apply BL hC <;> first | assumption | exact hc) | rfl)
 | succ m IH=>
  intro i lh_4 hm hi hc
  have hlt:i < ja4.length:=by omega
  have IH:=IH (i+1)
  have hcast:((i:Int)+1)=((i+1:Nat):Int):=by omega
  have hwr:=zG i (by omega)
  rw [c6 hlt] at hc ⊢
  refine zk fx (SN) (fun id _=>hC id) (Ol _ _ _ _ _ _ _ _ _ _ _ _ _ _ _ _ _ _ _ _ _ _ _ _ _ _ _ _ _ _) ?_
  rw [gM] at hc
  generalize hy:gn ja0 ja1 ja2 ja3 ja5 ja6 ja7 ja8 ja9 ja10 jb0 jb2 jb5 jb6 jb7 jb8 jb9 jc0 jc1 jc2 jc5 jc6 jc7 jc8 jc9 jc10 lh_3 (ja4[i]::ja4.drop (i+1)) (i:Int) lh_4=y
  rw [gn] at hy
  simp only [aH hlt,zN hlt,ag ja4 _ hlt,hwr,bJ]
  clear hwr
  simp only [hcast] at hy
  try simp only [hcast] at hc
  repeat' (first | with_reducible refine ea hy hc (fun _ hy hc=>?_) (fun _ hy hc=>?_) | with_reducible refine aM hy (fun _ hy=>?_) (fun _ hy=>?_) | with_reducible refine aX hc (fun hc=>?_) | with_reducible refine zo ?_)
  all_goals (subst hy; first | (change Reach _ _ _ _ _ _; apply IH <;> first | omega | assumption) | (change Reach _ _ _ _ _ _; apply BL hC <;> first | assumption | exact hc) | rfl)
theorem BM {C:bW} (hC:∀ id,C.ρ0 id=none) (ja0:TS) (ja1:LC) (ja2:Sem zg) (ja3:LI) (ja5:zn) (ja6:Int) (ja7:Int) (ja8:zn) (ja9:zn) (ja10:LX) (jb0:List UInt8) (jb2:Int) (jb5:List UInt8) (jb6:Int) (jb7:Int) (jb8:List UInt8) (jb9:List UInt8) (jc0:TS) (jc1:LC) (jc2:Sem zg) (jc5:zn) (jc6:Int) (jc7:Int) (jc8:zn) (jc9:zn) (jc10:LX) (lh_3:LI) (ja4:LF) (lh_4:LF) (hc:gM ja0 ja1 ja2 ja3 ja5 ja6 ja7 ja8 ja9 ja10 jb0 jb2 jb5 jb6 jb7 jb8 jb9 jc0 jc1 jc2 jc5 jc6 jc7 jc8 jc9 jc10 lh_3 ja4 0 lh_4=true):
  Reach (ki) C 63 (zx Tryz.f63 7) (Je 0 ja0 ja1 ja2 ja3 ja4 ja5 ja6 ja7 ja8 ja9 ja10 jb0 jb2 jb5 jb6 jb7 jb8 jb9 jc0 jc1 jc2 jc5 jc6 jc7 jc8 jc9 jc10 lh_3 lh_4) (fun r h=>zX h [zE] r=some (gn ja0 ja1 ja2 ja3 ja5 ja6 ja7 ja8 ja9 ja10 jb0 jb2 jb5 jb6 jb7 jb8 jb9 jc0 jc1 jc2 jc5 jc6 jc7 jc8 jc9 jc10 lh_3 ja4 0 lh_4,())):=
 Reach.lenB 0 4 (zg.pr Sh.str) ja4 rfl rfl fun hl=>V6 hC ja0 ja1 ja2 ja3 ja5 ja6 ja7 ja8 ja9 ja10 jb0 jb2 jb5 jb6 jb7 jb8 jb9 jc0 jc1 jc2 jc5 jc6 jc7 jc8 jc9 jc10 lh_3 ja4 hl _ 0 lh_4 rfl (aZ _) hc
def gm (ja0:TS) (ja1:LC) (ja2:Sem zg) (ja4:LF) (ja5:zn) (ja6:Int) (ja7:Int) (ja8:zn) (ja9:zn) (ja10:LX) (jb0:List UInt8) (jb2:Int) (jb5:List UInt8) (jb6:Int) (jb7:Int) (jb8:List UInt8) (jb9:List UInt8) (jc0:TS) (jc1:LC) (jc2:Sem zg) (jc5:zn) (jc6:Int) (jc7:Int) (jc8:zn) (jc9:zn) (jc10:LX) (ja3:LI):List (Sem zg)→Int→List (Sem zg)→Sem zE
 | [],_,lh_3=>(gn ja0 ja1 ja2 ja3 ja5 ja6 ja7 ja8 ja9 ja10 jb0 jb2 jb5 jb6 jb7 jb8 jb9 jc0 jc1 jc2 jc5
 jc6 jc7 jc8 jc9 jc10 lh_3 ja4 0 [])
 | x::r,i4,lh_3=>(if decide (i4 < 10)=true then
 gm ja0 ja1 ja2 ja4 ja5 ja6 ja7 ja8 ja9 ja10 jb0 jb2 jb5 jb6 jb7 jb8 jb9 jc0 jc1 jc2 jc5
  jc6 jc7 jc8 jc9 jc10 ja3 r (i4+1) (lh_3++[x])
else
 gn ja0 ja1 ja2 ja3 ja5 ja6 ja7 ja8 ja9 ja10 jb0 jb2 jb5 jb6 jb7 jb8 jb9 jc0 jc1 jc2 jc5
  jc6 jc7 jc8 jc9 jc10 lh_3 ja4 0 [])
def gL (ja0:TS) (ja1:LC) (ja2:Sem zg) (ja4:LF) (ja5:zn) (ja6:Int) (ja7:Int) (ja8:zn) (ja9:zn) (ja10:LX) (jb0:List UInt8) (jb2:Int) (jb5:List UInt8) (jb6:Int) (jb7:Int) (jb8:List UInt8) (jb9:List UInt8) (jc0:TS) (jc1:LC) (jc2:Sem zg) (jc5:zn) (jc6:Int) (jc7:Int) (jc8:zn) (jc9:zn) (jc10:LX) (ja3:LI):List (Sem zg)→Int→List (Sem zg)→Bool
 | [],_,lh_3=>(gM ja0 ja1 ja2 ja3 ja5 ja6 ja7 ja8 ja9 ja10 jb0 jb2 jb5 jb6 jb7 jb8 jb9 jc0 jc1 jc2 jc5
 jc6 jc7 jc8 jc9 jc10 lh_3 ja4 0 [])
 | x::r,i4,lh_3=>(if decide (i4 < 10)=true then
 if decide (lh_3.length+[x].length≤1073741824)=true then
  gL ja0 ja1 ja2 ja4 ja5 ja6 ja7 ja8 ja9 ja10 jb0 jb2 jb5 jb6 jb7 jb8 jb9 jc0 jc1 jc2 jc5
   jc6 jc7 jc8 jc9 jc10 ja3 r (i4+1) (lh_3++[x])
 else false
else
 gM ja0 ja1 ja2 ja3 ja5 ja6 ja7 ja8 ja9 ja10 jb0 jb2 jb5 jb6 jb7 jb8 jb9 jc0 jc1 jc2 jc5
  jc6 jc7 jc8 jc9 jc10 lh_3 ja4 0 [])
theorem V5 {C:bW} (hC:∀ id,C.ρ0 id=none) (ja0:TS) (ja1:LC) (ja2:Sem zg) (ja4:LF) (ja5:zn) (ja6:Int) (ja7:Int) (ja8:zn) (ja9:zn) (ja10:LX) (jb0:List UInt8) (jb2:Int) (jb5:List UInt8) (jb6:Int) (jb7:Int) (jb8:List UInt8) (jb9:List UInt8) (jc0:TS) (jc1:LC) (jc2:Sem zg) (jc5:zn) (jc6:Int) (jc7:Int) (jc8:zn) (jc9:zn) (jc10:LX) (ja3:LI) (hl:ja3.length≤zD):∀ (m i:Nat) (lh_3:LI),ja3.length - i=m→i≤ja3.length→gL ja0 ja1 ja2 ja4 ja5 ja6 ja7 ja8 ja9 ja10 jb0 jb2 jb5 jb6 jb7 jb8 jb9 jc0 jc1 jc2 jc5 jc6 jc7 jc8 jc9 jc10 ja3 (ja3.drop i) i lh_3=true→
  Reach (ki) C 63 (zx Tryz.f63 3) (Jd (i:Int) ja0 ja1 ja2 ja3 ja4 ja5 ja6 ja7 ja8 ja9 ja10 jb0 jb2 jb5 jb6 jb7 jb8 jb9 jc0 jc1 jc2 jc5 jc6 jc7 jc8 jc9 jc10 lh_3) (fun r h=>zX h [zE] r=some (gm ja0 ja1 ja2 ja4 ja5 ja6 ja7 ja8 ja9 ja10 jb0 jb2 jb5 jb6 jb7 jb8 jb9 jc0 jc1 jc2 jc5 jc6 jc7 jc8 jc9 jc10 ja3 (ja3.drop i) i lh_3,())):=by
 intro m
 induction m with
 | zero=>
  intro i lh_3 hm hi hc
  obtain rfl:i=ja3.length:=by omega
  rw [cQ] at hc ⊢
  refine zk fx (SN) (fun id _=>hC id) (Ok _ _ _ _ _ _ _ _ _ _ _ _ _ _ _ _ _ _ _ _ _ _ _ _ _ _ _ _ _) ?_
  rw [gL] at hc
  generalize hy:gm ja0 ja1 ja2 ja4 ja5 ja6 ja7 ja8 ja9 ja10 jb0 jb2 jb5 jb6 jb7 jb8 jb9 jc0 jc1 jc2 jc5 jc6 jc7 jc8 jc9 jc10 ja3 [] _ lh_3=y
  rw [gm] at hy
  simp only [ap,cZ,Tr.val_brF]
  repeat' (first | with_reducible refine ea hy hc (fun _ hy hc=>?_) (fun _ hy hc=>?_) | with_reducible refine aM hy (fun _ hy=>?_) (fun _ hy=>?_) | with_reducible refine aX hc (fun hc=>?_) | with_reducible refine zo ?_)
  all_goals (subst hy; first | (change Reach _ _ _ _ _ _; apply BM hC <;> first | assumption | exact hc) | rfl)
 | succ m IH=>
  intro i lh_3 hm hi hc
  have hlt:i < ja3.length:=by omega
  have IH:=IH (i+1)
  have hcast:((i:Int)+1)=((i+1:Nat):Int):=by omega
  have hwr:=zG i (by omega)
  rw [c6 hlt] at hc ⊢
  refine zk fx (SN) (fun id _=>hC id) (Ok _ _ _ _ _ _ _ _ _ _ _ _ _ _ _ _ _ _ _ _ _ _ _ _ _ _ _ _ _) ?_
  rw [gL] at hc
  generalize hy:gm ja0 ja1 ja2 ja4 ja5 ja6 ja7 ja8 ja9 ja10 jb0 jb2 jb5 jb6 jb7 jb8 jb9 jc0 jc1 jc2 jc5 jc6 jc7 jc8 jc9 jc10 ja3 (ja3[i]::ja3.drop (i+1)) (i:Int) lh_3=y
  rw [gm] at hy
  simp only [aH hlt,zN hlt,ag ja3 _ hlt,hwr,bJ]
  clear hwr
  simp only [hcast] at hy
  try simp only [hcast] at hc
  repeat' (first | with_reducible refine ea hy hc (fun _ hy hc=>?_) (fun _ hy hc=>?_) | with_reducible refine aM hy (fun _ hy=>?_) (fun _ hy=>?_) | with_reducible refine aX hc (fun hc=>?_) | with_reducible refine zo ?_)
  all_goals (subst hy; first | (change Reach _ _ _ _ _ _; apply IH <;> first | omega | assumption) | (change Reach _ _ _ _ _ _; apply BM hC <;> first | assumption | exact hc) | rfl)
theorem BL {C:bW} (hC:∀ id,C.ρ0 id=none) (ja0:TS) (ja1:LC) (ja2:Sem zg) (ja4:LF) (ja5:zn) (ja6:Int) (ja7:Int) (ja8:zn) (ja9:zn) (ja10:LX) (jb0:List UInt8) (jb2:Int) (jb5:List UInt8) (jb6:Int) (jb7:Int) (jb8:List UInt8) (jb9:List UInt8) (jc0:TS) (jc1:LC) (jc2:Sem zg) (jc5:zn) (jc6:Int) (jc7:Int) (jc8:zn) (jc9:zn) (jc10:LX) (ja3:LI) (lh_3:LI) (hc:gL ja0 ja1 ja2 ja4 ja5 ja6 ja7 ja8 ja9 ja10 jb0 jb2 jb5 jb6 jb7 jb8 jb9 jc0 jc1 jc2 jc5 jc6 jc7 jc8 jc9 jc10 ja3 ja3 0 lh_3=true):
  Reach (ki) C 63 (zx Tryz.f63 3) (Jd 0 ja0 ja1 ja2 ja3 ja4 ja5 ja6 ja7 ja8 ja9 ja10 jb0 jb2 jb5 jb6 jb7 jb8 jb9 jc0 jc1 jc2 jc5 jc6 jc7 jc8 jc9 jc10 lh_3) (fun r h=>zX h [zE] r=some (gm ja0 ja1 ja2 ja4 ja5 ja6 ja7 ja8 ja9 ja10 jb0 jb2 jb5 jb6 jb7 jb8 jb9 jc0 jc1 jc2 jc5 jc6 jc7 jc8 jc9 jc10 ja3 ja3 0 lh_3,())):=
 Reach.lenB 0 3 (Sh.int IntKind.i64) ja3 rfl rfl fun hl=>V5 hC ja0 ja1 ja2 ja4 ja5 ja6 ja7 ja8 ja9 ja10 jb0 jb2 jb5 jb6 jb7 jb8 jb9 jc0 jc1 jc2 jc5 jc6 jc7 jc8 jc9 jc10 ja3 hl _ 0 lh_3 rfl (aZ _) hc
def mi (x0:Sem zE):Sem zE:=(gm x0.1 x0.2.1 x0.2.2.1 x0.2.2.2.2.1 (ze.op x0.2.2.2.2.2) (ze.v x0.2.2.2.2.2).1 (ze.v x0.2.2.2.2.2).2.1 (ze.v x0.2.2.2.2.2).2.2 (ze.s x0.2.2.2.2.2) (ze.l x0.2.2.2.2.2) [] 0 [] 0 0 [] [] (ue x0.1) (kV x0.2.1) x0.2.2.1 (ze.op (dd x0.2.2.2.2.2)) (ze.v (dd x0.2.2.2.2.2)).1 (ze.v (dd x0.2.2.2.2.2)).2.1 (ze.v (dd x0.2.2.2.2.2)).2.2 (ze.s (dd x0.2.2.2.2.2)) (ze.l (dd x0.2.2.2.2.2)) x0.2.2.2.1 x0.2.2.2.1 0 [])
def Et (x0:Sem zE):Bool:=(gL x0.1 x0.2.1 x0.2.2.1 x0.2.2.2.2.1 (ze.op x0.2.2.2.2.2) (ze.v x0.2.2.2.2.2).1 (ze.v x0.2.2.2.2.2).2.1 (ze.v x0.2.2.2.2.2).2.2 (ze.s x0.2.2.2.2.2) (ze.l x0.2.2.2.2.2) [] 0 [] 0 0 [] [] (ue x0.1) (kV x0.2.1) x0.2.2.1 (ze.op (dd x0.2.2.2.2.2)) (ze.v (dd x0.2.2.2.2.2)).1 (ze.v (dd x0.2.2.2.2.2)).2.1 (ze.v (dd x0.2.2.2.2.2)).2.2 (ze.s (dd x0.2.2.2.2.2)) (ze.l (dd x0.2.2.2.2.2)) x0.2.2.2.1 x0.2.2.2.1 0 [])
def F5:zB:=zA [zE] [zE] (fun x=>Et x.1) fun x=>(mi x.1,())
theorem UU:FK 63 F5:=by
 refine zL (SN) fun x hc C hC=>?_
 unfold Et at hc
 refine zk fx (SN) (fun id _=>hC id) (go5 x.1) ?_
 generalize hy:mi x.1=y
 unfold mi at hy
 try simp only [ze.eta]
 repeat' (first | with_reducible refine ea hy hc (fun _ hy hc=>?_) (fun _ hy hc=>?_) | with_reducible refine aM hy (fun _ hy=>?_) (fun _ hy=>?_) | with_reducible refine aX hc (fun hc=>?_) | with_reducible refine zo ?_)
 all_goals (subst hy; first | (change Reach _ _ _ _ _ _; apply BL hC <;> first | assumption | exact hc) | (change Reach _ _ _ _ _ _; apply BM hC <;> first | assumption | exact hc) | rfl)

noncomputable def NF:=ki.addL [(75,F19),(63,F5)]
theorem E3:zm NF:=fx.addL <| fc No <| fc UU gX

theorem yk (e:ze) (cols:List (Sem zi)):ra e cols=true:=by
 unfold ra
 rw [if_pos (CU 15 e)]
theorem jZ {a0 a1 a2 a3 a4 a5 a6 a7 a8 a9 b0 b1 b2 b3 b4 b5 b6 d0 d1 d2 d3 d4 d5 d6 d7 d8 d9}:∀ (l:List (Sem zr)) (i:Int) (acc:List (Sem zr)),(acc.length:Int)≤i→gM a0 a1 a2 a3 a4 a5 a6 a7 a8 a9 b0 b1 b2 b3 b4 b5 b6 d0 d1 d2 d3 d4 d5 d6 d7 d8 d9 l i acc=true
 | [],_,_,_=>rfl
 | x::r,i,acc,h=>by
  rw [gM]
  split
  ·rename_i hi
   simp only [ae] at hi
   rw [if_pos (by simp; omega)]
   exact jZ r (i+1) _ (by simp; omega)
  ·rfl
theorem oC {a0 a1 a2 a3 a4 a5 a6 a7 a8 a9 b0 b1 b2 b3 b4 b5 b6 d0 d1 d2 d3 d4 d5 d6 d7 d8 d9}:∀ (l:List (Sem zg)) (i:Int) (acc:List (Sem zg)),(acc.length:Int)≤i→gL a0 a1 a2 a3 a4 a5 a6 a7 a8 a9 b0 b1 b2 b3 b4 b5 b6 d0 d1 d2 d3 d4 d5 d6 d7 d8 d9 l i acc=true
 | [],_,_,_=>by rw [gL]; exact jZ _ _ _ (by simp)
 | x::r,i,acc,h=>by
  rw [gL]
  split
  ·rename_i hi
   simp only [ae] at hi
   rw [if_pos (by simp; omega)]
   exact oC r (i+1) _ (by simp; omega)
  ·exact jZ _ _ _ (by simp)
theorem CX (t:Sem zE):Et t=true:=by
 unfold Et
 exact oC _ _ _ (by simp)
def Tw:zB:=zW [Sh.expr,zi.sl] [zg] fun x=>(nc x.1 x.2.1,())
theorem Pd:FK 75 Tw:=dL No fun x=>yk x.1 x.2.1
def F5t:zB:=zW [zE] [zE] fun x=>(mi x.1,())
theorem U6:FK 63 F5t:=dL UU fun x=>CX x.1

noncomputable def jg:=NF.addL [(75,Tw),(63,F5t)]
theorem eF:zm jg:=E3.addL <| fc Pd <| fc U6 gX

abbrev ZF:Nat→zS:=fun j=>if j=4 then { slots:=[1,27,28,29] } else if j=11 then { slots:=[1,5,59,60,61] } else if j=17 then { slots:=[1,5,71,72,73] } else { }
abbrev Jg (l27:LC) (i28:Int) (i29:Int) (ja0:TS) (ja1:LC) (ja2:Sem zg) (ja3:LI) (ja4:LF) (ja5:zn) (ja6:Int) (ja7:Int) (ja8:zn) (ja9:zn) (ja10:LX):St:={ tmps:=(tm 110 [(1,AV.ptr 0 0),(27,AV.sl zi l27),(28,ai i28),(29,ai i29)]),heap:=[AO.box [AV.str ja0,AV.sl zi ja1,ai ja2,AV.sl zg ja3,AV.sl zr ja4,AV.str ja5,ai ja6,ai ja7,AV.str ja8,AV.str ja9,AV.sl Sh.expr ja10]] }
theorem Oj:zz (jg).P 55 Tryz.f55 1:=aG (by kernel_rfl)
theorem go8 (x0:Sem zE):rn jg 0 ZF Tryz.f55 [zy zE x0] []=Tr.br (bif !gk x0.1 then true else bif decide ((↑(length x0.2.1):Int) < 1) then true else decide ((↑(length x0.2.1):Int) > 8)) (Tr.ok (zp.ret (AV.kb false) [])) (Tr.ok (zp.head 4 (zx Tryz.f55 4) (Jg x0.2.1 (↑(length x0.2.1):Int) 0 x0.1 x0.2.1 x0.2.2.1 x0.2.2.2.1 x0.2.2.2.2.1 (ze.op x0.2.2.2.2.2) (ze.v x0.2.2.2.2.2).1 (ze.v x0.2.2.2.2.2).2.1 (ze.v x0.2.2.2.2.2).2.2 (ze.s x0.2.2.2.2.2) (ze.l x0.2.2.2.2.2)))):=by kernel_rfl
abbrev Bn (l59:LI) (i60:Int) (i61:Int) (ja0:TS) (ja1:LC) (ja2:Sem zg) (ja3:LI) (ja4:LF) (ja5:zn) (ja6:Int) (ja7:Int) (ja8:zn) (ja9:zn) (ja10:LX):St:={ tmps:=(tm 110 [(1,AV.ptr 0 0),(5,AV.clo (Fn.func 93) [] [AV.ptr 0 0]),(59,AV.sl zg l59),(60,ai i60),(61,ai i61)]),heap:=[AO.box [AV.str ja0,AV.sl zi ja1,ai ja2,AV.sl zg ja3,AV.sl zr ja4,AV.str ja5,ai ja6,ai ja7,AV.str ja8,AV.str ja9,AV.sl Sh.expr ja10]] }
theorem On (l27:LC) (i28:Int) (i29:Int) (ja0:TS) (ja1:LC) (ja2:Sem zg) (ja3:LI) (ja4:LF) (ja5:zn) (ja6:Int) (ja7:Int) (ja8:zn) (ja9:zn) (ja10:LX):rh jg 0 ZF Tryz.f55 4 (Jg l27 i28 i29 ja0 ja1 ja2 ja3 ja4 ja5 ja6 ja7 ja8 ja9 ja10)=Tr.br (decide (i29 < i28)) (Tr.chk (zH i29 l27.length) (Tr.br (bif !gk (l27.getD i29.toNat (zj zi)).1 then true else bif decide ((l27.getD i29.toNat (zj zi)).2.1 < 1) then true else bif decide ((l27.getD i29.toNat (zj zi)).2.1 > 3) then true else j4 (ja0,ja1,ja2,ja3,ja4,ze.mk ja5 (ja6,ja7,ja8) ja9 ja10) (l27.getD i29.toNat (zj zi)).1 != i29) (Tr.ok (zp.ret (AV.kb false) [])) (Tr.ok (zp.head 4 (zx Tryz.f55 4) (Jg l27 i28 (IntKind.i64.wrap (i29+1)) ja0 ja1 ja2 ja3 ja4 ja5 ja6 ja7 ja8 ja9 ja10))))) (Tr.ok (zp.head 11 (zx Tryz.f55 11) (Bn ja3 (↑ja3.length:Int) 0 ja0 ja1 ja2 ja3 ja4 ja5 ja6 ja7 ja8 ja9 ja10))):=by kernel_rfl
abbrev Bo (l71:LF) (i72:Int) (i73:Int) (ja0:TS) (ja1:LC) (ja2:Sem zg) (ja3:LI) (ja4:LF) (ja5:zn) (ja6:Int) (ja7:Int) (ja8:zn) (ja9:zn) (ja10:LX):St:={ tmps:=(tm 110 [(1,AV.ptr 0 0),(5,AV.clo (Fn.func 93) [] [AV.ptr 0 0]),(71,AV.sl zr l71),(72,ai i72),(73,ai i73)]),heap:=[AO.box [AV.str ja0,AV.sl zi ja1,ai ja2,AV.sl zg ja3,AV.sl zr ja4,AV.str ja5,ai ja6,ai ja7,AV.str ja8,AV.str ja9,AV.sl Sh.expr ja10]] }
theorem Iz (l59:LI) (i60:Int) (i61:Int) (ja0:TS) (ja1:LC) (ja2:Sem zg) (ja3:LI) (ja4:LF) (ja5:zn) (ja6:Int) (ja7:Int) (ja8:zn) (ja9:zn) (ja10:LX):rh jg 0 ZF Tryz.f55 11 (Bn l59 i60 i61 ja0 ja1 ja2 ja3 ja4 ja5 ja6 ja7 ja8 ja9 ja10)=Tr.br (decide (i61 < i60)) (Tr.chk (zH i61 l59.length) (Tr.br (!bif decide (l59.getD i61.toNat (zj zg) ≥ 0) then decide (l59.getD i61.toNat (zj zg) < (↑ja1.length:Int)) else false) (Tr.ok (zp.ret (AV.kb false) [])) (Tr.ok (zp.head 11 (zx Tryz.f55 11) (Bn l59 i60 (IntKind.i64.wrap (i61+1)) ja0 ja1 ja2 ja3 ja4 ja5 ja6 ja7 ja8 ja9 ja10))))) (Tr.ok (zp.head 17 (zx Tryz.f55 17) (Bo ja4 (↑ja4.length:Int) 0 ja0 ja1 ja2 ja3 ja4 ja5 ja6 ja7 ja8 ja9 ja10))):=by kernel_rfl
theorem IA (l71:LF) (i72:Int) (i73:Int) (ja0:TS) (ja1:LC) (ja2:Sem zg) (ja3:LI) (ja4:LF) (ja5:zn) (ja6:Int) (ja7:Int) (ja8:zn) (ja9:zn) (ja10:LX):rh jg 0 ZF Tryz.f55 17 (Bo l71 i72 i73 ja0 ja1 ja2 ja3 ja4 ja5 ja6 ja7 ja8 ja9 ja10)=Tr.br (decide (i73 < i72)) (Tr.chk (zH i73 l71.length) (Tr.br (!bif decide ((l71.getD i73.toNat (zj zr)).1 ≥ 0) then decide ((l71.getD i73.toNat (zj zr)).1 < (↑ja1.length:Int)) else false) (Tr.ok (zp.ret (AV.kb false) [])) (Tr.br (!gk (l71.getD i73.toNat (zj zr)).2) (Tr.ok (zp.ret (AV.kb false) [])) (Tr.ok (zp.head 17 (zx Tryz.f55 17) (Bo l71 i72 (IntKind.i64.wrap (i73+1)) ja0 ja1 ja2 ja3 ja4 ja5 ja6 ja7 ja8 ja9 ja10)))))) (Tr.br (bif decide (ja2 ≥ 0) then decide (ja2 < (↑ja1.length:Int)) else false) (Tr.chk (zH ja2 ja1.length) (Tr.br (ja1.getD (toNat ja2) (zj zi)).2.2 (Tr.ok (zp.ret (AV.bool (nc (ze.mk ja5 (ja6,ja7,ja8) ja9 ja10) ja1==0)) [])) (Tr.ok (zp.ret (AV.kb false) [])))) (Tr.ok (zp.ret (AV.kb false) []))):=by kernel_rfl
def ff (ja0:TS) (ja1:LC) (ja2:Sem zg) (ja3:LI) (ja4:LF) (ja5:zn) (ja6:Int) (ja7:Int) (ja8:zn) (ja9:zn) (ja10:LX):List (Sem zr)→Int→Sem Sh.bool
 | [],_=>(if (bif decide (ja2 ≥ 0) then decide (ja2 < (↑ja1.length:Int)) else false)=true then
 if (ja1.getD (toNat ja2) (zj zi)).2.2=true then
  nc (ze.mk ja5 (ja6,ja7,ja8) ja9 ja10) ja1==0
 else false
else false)
 | x::r,i73=>(if (!bif decide (x.1 ≥ 0) then decide (x.1 < (↑ja1.length:Int)) else false)=true then false
else if (!gk x.2)=true then false else ff ja0 ja1 ja2 ja3 ja4 ja5 ja6 ja7 ja8 ja9 ja10 r (i73+1))
def fb (ja0:TS) (ja1:LC) (ja2:Sem zg) (ja3:LI) (ja4:LF) (ja5:zn) (ja6:Int) (ja7:Int) (ja8:zn) (ja9:zn) (ja10:LX):List (Sem zr)→Int→Bool
 | [],_=>(if (bif decide (ja2 ≥ 0) then decide (ja2 < (↑ja1.length:Int)) else false)=true then if zH ja2 ja1.length=true then true else false
else true)
 | x::r,i73=>(if (!bif decide (x.1 ≥ 0) then decide (x.1 < (↑ja1.length:Int)) else false)=true then true
else if (!gk x.2)=true then true else fb ja0 ja1 ja2 ja3 ja4 ja5 ja6 ja7 ja8 ja9 ja10 r (i73+1))
theorem Qn {C:bW} (hC:∀ id,C.ρ0 id=none) (ja0:TS) (ja1:LC) (ja2:Sem zg) (ja3:LI) (ja4:LF) (ja5:zn) (ja6:Int) (ja7:Int) (ja8:zn) (ja9:zn) (ja10:LX) (l71:LF) (hl:l71.length≤zD):∀ (m i:Nat),l71.length - i=m→i≤l71.length→fb ja0 ja1 ja2 ja3 ja4 ja5 ja6 ja7 ja8 ja9 ja10 (l71.drop i) i=true→
  Reach (jg) C 55 (zx Tryz.f55 17) (Bo l71 (l71.length:Int) (i:Int) ja0 ja1 ja2 ja3 ja4 ja5 ja6 ja7 ja8 ja9 ja10) (fun r h=>zX h [Sh.bool] r=some (ff ja0 ja1 ja2 ja3 ja4 ja5 ja6 ja7 ja8 ja9 ja10 (l71.drop i) i,())):=by
 intro m
 induction m with
 | zero=>
  intro i hm hi hc
  obtain rfl:i=l71.length:=by omega
  rw [cQ] at hc ⊢
  refine zk eF (Oj) (fun id _=>hC id) (IA _ _ _ _ _ _ _ _ _ _ _ _ _ _) ?_
  rw [fb] at hc
  generalize hy:ff ja0 ja1 ja2 ja3 ja4 ja5 ja6 ja7 ja8 ja9 ja10 [] _=y
  rw [ff] at hy
  simp only [ap,Tr.val_brF]
  repeat' (first | with_reducible refine ea hy hc (fun _ hy hc=>?_) (fun _ hy hc=>?_) | with_reducible refine aM hy (fun _ hy=>?_) (fun _ hy=>?_) | with_reducible refine aX hc (fun hc=>?_) | with_reducible refine zo ?_)
  all_goals (subst hy; first | (change Reach _ _ _ _ _ _; apply rJ hC <;> first | assumption | exact hc) | (change Reach _ _ _ _ _ _; apply nt hC <;> first | assumption | exact hc) | rfl)
 | succ m IH=>
  intro i hm hi hc
  have hlt:i < l71.length:=by omega
  have IH:=IH (i+1)
  have hcast:((i:Int)+1)=((i+1:Nat):Int):=by omega
  have hwr:=zG i (by omega)
  rw [c6 hlt] at hc ⊢
  refine zk eF (Oj) (fun id _=>hC id) (IA _ _ _ _ _ _ _ _ _ _ _ _ _ _) ?_
  rw [fb] at hc
  generalize hy:ff ja0 ja1 ja2 ja3 ja4 ja5 ja6 ja7 ja8 ja9 ja10 (l71[i]::l71.drop (i+1)) (i:Int)=y
  rw [ff] at hy
  simp only [aH hlt,zN hlt,ag l71 _ hlt,hwr,Tr.val_brT,Tr.val_chkT]
  clear hwr
  simp only [hcast] at hy
  try simp only [hcast] at hc
  repeat' (first | with_reducible refine ea hy hc (fun _ hy hc=>?_) (fun _ hy hc=>?_) | with_reducible refine aM hy (fun _ hy=>?_) (fun _ hy=>?_) | with_reducible refine aX hc (fun hc=>?_) | with_reducible refine zo ?_)
  all_goals (subst hy; first | (change Reach _ _ _ _ _ _; apply IH <;> first | omega | assumption) | (change Reach _ _ _ _ _ _; apply rJ hC <;> first | assumption | exact hc) | (change Reach _ _ _ _ _ _; apply nt hC <;> first | assumption | exact hc) | rfl)
theorem nu {C:bW} (hC:∀ id,C.ρ0 id=none) (ja0:TS) (ja1:LC) (ja2:Sem zg) (ja3:LI) (ja4:LF) (ja5:zn) (ja6:Int) (ja7:Int) (ja8:zn) (ja9:zn) (ja10:LX) (l71:LF) (hc:fb ja0 ja1 ja2 ja3 ja4 ja5 ja6 ja7 ja8 ja9 ja10 l71 0=true):
  Reach (jg) C 55 (zx Tryz.f55 17) (Bo l71 (l71.length:Int) 0 ja0 ja1 ja2 ja3 ja4 ja5 ja6 ja7 ja8 ja9 ja10) (fun r h=>zX h [Sh.bool] r=some (ff ja0 ja1 ja2 ja3 ja4 ja5 ja6 ja7 ja8 ja9 ja10 l71 0,())):=
 Reach.len 71 (zg.pr Sh.str) l71 rfl fun hl=>Qn hC ja0 ja1 ja2 ja3 ja4 ja5 ja6 ja7 ja8 ja9 ja10 l71 hl _ 0 rfl (aZ _) hc
def fe (ja0:TS) (ja1:LC) (ja2:Sem zg) (ja3:LI) (ja4:LF) (ja5:zn) (ja6:Int) (ja7:Int) (ja8:zn) (ja9:zn) (ja10:LX):List (Sem zg)→Int→Sem Sh.bool
 | [],_=>(ff ja0 ja1 ja2 ja3 ja4 ja5 ja6 ja7 ja8 ja9 ja10 ja4 0)
 | x::r,i61=>(if (!bif decide (x ≥ 0) then decide (x < (↑ja1.length:Int)) else false)=true then false
else fe ja0 ja1 ja2 ja3 ja4 ja5 ja6 ja7 ja8 ja9 ja10 r (i61+1))
def fa (ja0:TS) (ja1:LC) (ja2:Sem zg) (ja3:LI) (ja4:LF) (ja5:zn) (ja6:Int) (ja7:Int) (ja8:zn) (ja9:zn) (ja10:LX):List (Sem zg)→Int→Bool
 | [],_=>(fb ja0 ja1 ja2 ja3 ja4 ja5 ja6 ja7 ja8 ja9 ja10 ja4 0)
 | x::r,i61=>(if (!bif decide (x ≥ 0) then decide (x < (↑ja1.length:Int)) else false)=true then true
else fa ja0 ja1 ja2 ja3 ja4 ja5 ja6 ja7 ja8 ja9 ja10 r (i61+1))
theorem Qm {C:bW} (hC:∀ id,C.ρ0 id=none) (ja0:TS) (ja1:LC) (ja2:Sem zg) (ja3:LI) (ja4:LF) (ja5:zn) (ja6:Int) (ja7:Int) (ja8:zn) (ja9:zn) (ja10:LX) (l59:LI) (hl:l59.length≤zD):∀ (m i:Nat),l59.length - i=m→i≤l59.length→fa ja0 ja1 ja2 ja3 ja4 ja5 ja6 ja7 ja8 ja9 ja10 (l59.drop i) i=true→
  Reach (jg) C 55 (zx Tryz.f55 11) (Bn l59 (l59.length:Int) (i:Int) ja0 ja1 ja2 ja3 ja4 ja5 ja6 ja7 ja8 ja9 ja10) (fun r h=>zX h [Sh.bool] r=some (fe ja0 ja1 ja2 ja3 ja4 ja5 ja6 ja7 ja8 ja9 ja10 (l59.drop i) i,())):=by
 intro m
 induction m with
 | zero=>
  intro i hm hi hc
  obtain rfl:i=l59.length:=by omega
  rw [cQ] at hc ⊢
  refine zk eF (Oj) (fun id _=>hC id) (Iz _ _ _ _ _ _ _ _ _ _ _ _ _ _) ?_
  rw [fa] at hc
  generalize hy:fe ja0 ja1 ja2 ja3 ja4 ja5 ja6 ja7 ja8 ja9 ja10 [] _=y
  rw [fe] at hy
  simp only [ap,Tr.val_brF]
  repeat' (first | with_reducible refine ea hy hc (fun _ hy hc=>?_) (fun _ hy hc=>?_) | with_reducible refine aM hy (fun _ hy=>?_) (fun _ hy=>?_) | with_reducible refine aX hc (fun hc=>?_) | with_reducible refine zo ?_)
  all_goals (subst hy; first | (change Reach _ _ _ _ _ _; apply rJ hC <;> first | assumption | exact hc) | (change Reach _ _ _ _ _ _; apply nu hC <;> first | assumption | exact hc) | rfl)
 | succ m IH=>
  intro i hm hi hc
  have hlt:i < l59.length:=by omega
  have IH:=IH (i+1)
  have hcast:((i:Int)+1)=((i+1:Nat):Int):=by omega
  have hwr:=zG i (by omega)
  rw [c6 hlt] at hc ⊢
  refine zk eF (Oj) (fun id _=>hC id) (Iz _ _ _ _ _ _ _ _ _ _ _ _ _ _) ?_
  rw [fa] at hc
  generalize hy:fe ja0 ja1 ja2 ja3 ja4 ja5 ja6 ja7 ja8 ja9 ja10 (l59[i]::l59.drop (i+1)) (i:Int)=y
  rw [fe] at hy
  simp only [aH hlt,zN hlt,ag l59 _ hlt,hwr,Tr.val_brT,Tr.val_chkT]
  clear hwr
  simp only [hcast] at hy
  try simp only [hcast] at hc
  repeat' (first | with_reducible refine ea hy hc (fun _ hy hc=>?_) (fun _ hy hc=>?_) | with_reducible refine aM hy (fun _ hy=>?_) (fun _ hy=>?_) | with_reducible refine aX hc (fun hc=>?_) | with_reducible refine zo ?_)
  all_goals (subst hy; first | (change Reach _ _ _ _ _ _; apply IH <;> first | omega | assumption) | (change Reach _ _ _ _ _ _; apply rJ hC <;> first | assumption | exact hc) | (change Reach _ _ _ _ _ _; apply nu hC <;> first | assumption | exact hc) | rfl)
theorem nt {C:bW} (hC:∀ id,C.ρ0 id=none) (ja0:TS) (ja1:LC) (ja2:Sem zg) (ja3:LI) (ja4:LF) (ja5:zn) (ja6:Int) (ja7:Int) (ja8:zn) (ja9:zn) (ja10:LX) (l59:LI) (hc:fa ja0 ja1 ja2 ja3 ja4 ja5 ja6 ja7 ja8 ja9 ja10 l59 0=true):
  Reach (jg) C 55 (zx Tryz.f55 11) (Bn l59 (l59.length:Int) 0 ja0 ja1 ja2 ja3 ja4 ja5 ja6 ja7 ja8 ja9 ja10) (fun r h=>zX h [Sh.bool] r=some (fe ja0 ja1 ja2 ja3 ja4 ja5 ja6 ja7 ja8 ja9 ja10 l59 0,())):=
 Reach.len 59 (Sh.int IntKind.i64) l59 rfl fun hl=>Qm hC ja0 ja1 ja2 ja3 ja4 ja5 ja6 ja7 ja8 ja9 ja10 l59 hl _ 0 rfl (aZ _) hc
def ij (ja0:TS) (ja1:LC) (ja2:Sem zg) (ja3:LI) (ja4:LF) (ja5:zn) (ja6:Int) (ja7:Int) (ja8:zn) (ja9:zn) (ja10:LX):List (Sem zi)→Int→Sem Sh.bool
 | [],_=>(fe ja0 ja1 ja2 ja3 ja4 ja5 ja6 ja7 ja8 ja9 ja10 ja3 0)
 | x :: r,i29=>(if
  (bif !gk x.1 then true
   else
    bif decide (x.2.1 < 1) then true
    else
     bif decide (x.2.1 > 3) then true
     else j4 (ja0,ja1,ja2,ja3,ja4,ze.mk ja5 (ja6,ja7,ja8) ja9 ja10) x.1 != i29)=
   true then
 false
else ij ja0 ja1 ja2 ja3 ja4 ja5 ja6 ja7 ja8 ja9 ja10 r (i29+1))
def gN (ja0:TS) (ja1:LC) (ja2:Sem zg) (ja3:LI) (ja4:LF) (ja5:zn) (ja6:Int) (ja7:Int) (ja8:zn) (ja9:zn) (ja10:LX):List (Sem zi)→Int→Bool
 | [],_=>(fa ja0 ja1 ja2 ja3 ja4 ja5 ja6 ja7 ja8 ja9 ja10 ja3 0)
 | x :: r,i29=>(if
  (bif !gk x.1 then true
   else
    bif decide (x.2.1 < 1) then true
    else
     bif decide (x.2.1 > 3) then true
     else j4 (ja0,ja1,ja2,ja3,ja4,ze.mk ja5 (ja6,ja7,ja8) ja9 ja10) x.1 != i29)=
   true then
 true
else gN ja0 ja1 ja2 ja3 ja4 ja5 ja6 ja7 ja8 ja9 ja10 r (i29+1))
theorem V8 {C:bW} (hC:∀ id,C.ρ0 id=none) (ja0:TS) (ja1:LC) (ja2:Sem zg) (ja3:LI) (ja4:LF) (ja5:zn) (ja6:Int) (ja7:Int) (ja8:zn) (ja9:zn) (ja10:LX) (l27:LC) (hl:l27.length≤zD):∀ (m i:Nat),l27.length - i=m→i≤l27.length→gN ja0 ja1 ja2 ja3 ja4 ja5 ja6 ja7 ja8 ja9 ja10 (l27.drop i) i=true→
  Reach (jg) C 55 (zx Tryz.f55 4) (Jg l27 (l27.length:Int) (i:Int) ja0 ja1 ja2 ja3 ja4 ja5 ja6 ja7 ja8 ja9 ja10) (fun r h=>zX h [Sh.bool] r=some (ij ja0 ja1 ja2 ja3 ja4 ja5 ja6 ja7 ja8 ja9 ja10 (l27.drop i) i,())):=by
 intro m
 induction m with
 | zero=>
  intro i hm hi hc
  obtain rfl:i=l27.length:=by omega
  rw [cQ] at hc ⊢
  refine zk eF (Oj) (fun id _=>hC id) (On _ _ _ _ _ _ _ _ _ _ _ _ _ _) ?_
  rw [gN] at hc
  generalize hy:ij ja0 ja1 ja2 ja3 ja4 ja5 ja6 ja7 ja8 ja9 ja10 [] _=y
  rw [ij] at hy
  simp only [ap,Tr.val_brF]
  repeat' (first | with_reducible refine ea hy hc (fun _ hy hc=>?_) (fun _ hy hc=>?_) | with_reducible refine aM hy (fun _ hy=>?_) (fun _ hy=>?_) | with_reducible refine aX hc (fun hc=>?_) | with_reducible refine zo ?_)
  all_goals (subst hy; first | (change Reach _ _ _ _ _ _; apply nt hC <;> first | assumption | exact hc) | (change Reach _ _ _ _ _ _; apply nu hC <;> first | assumption | exact hc) | rfl)
 | succ m IH=>
  intro i hm hi hc
  have hlt:i < l27.length:=by omega
  have IH:=IH (i+1)
  have hcast:((i:Int)+1)=((i+1:Nat):Int):=by omega
  have hwr:=zG i (by omega)
  rw [c6 hlt] at hc ⊢
  refine zk eF (Oj) (fun id _=>hC id) (On _ _ _ _ _ _ _ _ _ _ _ _ _ _) ?_
  rw [gN] at hc
  generalize hy:ij ja0 ja1 ja2 ja3 ja4 ja5 ja6 ja7 ja8 ja9 ja10 (l27[i]::l27.drop (i+1)) (i:Int)=y
  rw [ij] at hy
  simp only [aH hlt,zN hlt,ag l27 _ hlt,hwr,Tr.val_brT,Tr.val_chkT]
  clear hwr
  simp only [hcast] at hy
  try simp only [hcast] at hc
  repeat' (first | with_reducible refine ea hy hc (fun _ hy hc=>?_) (fun _ hy hc=>?_) | with_reducible refine aM hy (fun _ hy=>?_) (fun _ hy=>?_) | with_reducible refine aX hc (fun hc=>?_) | with_reducible refine zo ?_)
  all_goals (subst hy; first | (change Reach _ _ _ _ _ _; apply IH <;> first | omega | assumption) | (change Reach _ _ _ _ _ _; apply nt hC <;> first | assumption | exact hc) | (change Reach _ _ _ _ _ _; apply nu hC <;> first | assumption | exact hc) | rfl)
theorem rJ {C:bW} (hC:∀ id,C.ρ0 id=none) (ja0:TS) (ja1:LC) (ja2:Sem zg) (ja3:LI) (ja4:LF) (ja5:zn) (ja6:Int) (ja7:Int) (ja8:zn) (ja9:zn) (ja10:LX) (l27:LC) (hc:gN ja0 ja1 ja2 ja3 ja4 ja5 ja6 ja7 ja8 ja9 ja10 l27 0=true):
  Reach (jg) C 55 (zx Tryz.f55 4) (Jg l27 (l27.length:Int) 0 ja0 ja1 ja2 ja3 ja4 ja5 ja6 ja7 ja8 ja9 ja10) (fun r h=>zX h [Sh.bool] r=some (ij ja0 ja1 ja2 ja3 ja4 ja5 ja6 ja7 ja8 ja9 ja10 l27 0,())):=
 Reach.len 27 (zi) l27 rfl fun hl=>V8 hC ja0 ja1 ja2 ja3 ja4 ja5 ja6 ja7 ja8 ja9 ja10 l27 hl _ 0 rfl (aZ _) hc
def j3 (x0:Sem zE):Sem Sh.bool:=(if (bif !gk x0.1 then true else bif decide ((↑(length x0.2.1):Int) < 1) then true else decide ((↑(length x0.2.1):Int) > 8))=true then false else ij x0.1 x0.2.1 x0.2.2.1 x0.2.2.2.1 x0.2.2.2.2.1 (ze.op x0.2.2.2.2.2) (ze.v x0.2.2.2.2.2).1 (ze.v x0.2.2.2.2.2).2.1 (ze.v x0.2.2.2.2.2).2.2 (ze.s x0.2.2.2.2.2) (ze.l x0.2.2.2.2.2) x0.2.1 0)
def Eu (x0:Sem zE):Bool:=(if (bif !gk x0.1 then true else bif decide ((↑(length x0.2.1):Int) < 1) then true else decide ((↑(length x0.2.1):Int) > 8))=true then true else gN x0.1 x0.2.1 x0.2.2.1 x0.2.2.2.1 x0.2.2.2.2.1 (ze.op x0.2.2.2.2.2) (ze.v x0.2.2.2.2.2).1 (ze.v x0.2.2.2.2.2).2.1 (ze.v x0.2.2.2.2.2).2.2 (ze.s x0.2.2.2.2.2) (ze.l x0.2.2.2.2.2) x0.2.1 0)
def F8:zB:=zA [zE] [Sh.bool] (fun x=>Eu x.1) fun x=>(j3 x.1,())
theorem Vo:FK 55 F8:=by
 refine zL (Oj) fun x hc C hC=>?_
 unfold Eu at hc
 refine zk eF (Oj) (fun id _=>hC id) (go8 x.1) ?_
 generalize hy:j3 x.1=y
 unfold j3 at hy
 try simp only [ze.eta]
 repeat' (first | with_reducible refine ea hy hc (fun _ hy hc=>?_) (fun _ hy hc=>?_) | with_reducible refine aM hy (fun _ hy=>?_) (fun _ hy=>?_) | with_reducible refine aX hc (fun hc=>?_) | with_reducible refine zo ?_)
 all_goals (subst hy; first | (change Reach _ _ _ _ _ _; apply rJ hC <;> first | assumption | exact hc) | (change Reach _ _ _ _ _ _; apply nt hC <;> first | assumption | exact hc) | (change Reach _ _ _ _ _ _; apply nu hC <;> first | assumption | exact hc) | rfl)

noncomputable def NG:=jg.add 55 F8
theorem E4:zm NG:=eF.add Vo

theorem mG {a0 a1 a2 a3 a4 a5 a6 a7 a8 a9 b0}:∀ (l:List (Sem zr)) (i:Int),fb a0 a1 a2 a3 a4 a5 a6 a7 a8 a9 b0 l i=true
 | [],i=>by
  rw [fb]
  split
  ·rename_i h
   rw [if_pos]
   cases h1:decide (a2 ≥ 0) <;> simp_all [zH]
  ·rfl
 | x::r,i=>by
  rw [fb]
  repeat' split
  all_goals first | rfl | exact mG r (i+1)
theorem mF {a0 a1 a2 a3 a4 a5 a6 a7 a8 a9 b0}:∀ (l:List (Sem zg)) (i:Int),fa a0 a1 a2 a3 a4 a5 a6 a7 a8 a9 b0 l i=true
 | [],i=>by rw [fa]; exact mG _ _
 | x::r,i=>by
  rw [fa]
  repeat' split
  all_goals first | rfl | exact mF r (i+1)
theorem oE {a0 a1 a2 a3 a4 a5 a6 a7 a8 a9 b0}:∀ (l:List (Sem zi)) (i:Int),gN a0 a1 a2 a3 a4 a5 a6 a7 a8 a9 b0 l i=true
 | [],i=>by rw [gN]; exact mF _ _
 | x::r,i=>by
  rw [gN]
  split
  ·rfl
  ·exact oE r (i+1)
theorem CZ (t:Sem zE):Eu t=true:=by
 unfold Eu
 split
 ·rfl
 ·exact oE _ _
def F8t:zB:=zW [zE] [Sh.bool] fun x=>(j3 x.1,())
theorem Vz:FK 55 F8t:=dL Vo fun x=>CZ x.1

noncomputable def ms:=NG.add 55 F8t
theorem gU:zm ms:=E4.add Vz

abbrev Rg:Nat→zS:=fun j=>if j=4 then { slots:=[1,2,19,20,21] } else if j=10 then { slots:=[1,2,30,31] } else { }
abbrev Bl (l1:LV) (l19:LV) (i20:Int) (i21:Int) (ja0:TS) (ja1:LC) (ja2:Sem zg) (ja3:LI) (ja4:LF) (ja5:zn) (ja6:Int) (ja7:Int) (ja8:zn) (ja9:zn) (ja10:LX):St:={ tmps:=(tm 79 [(1,AV.sl zf l1),(2,AV.ptr 0 0),(19,AV.sl zf l19),(20,ai i20),(21,ai i21)]),heap:=[AO.box [AV.str ja0,AV.sl zi ja1,ai ja2,AV.sl zg ja3,AV.sl zr ja4,AV.str ja5,ai ja6,ai ja7,AV.str ja8,AV.str ja9,AV.sl Sh.expr ja10]] }
theorem Fo:zz (ms).P 56 Tryz.f56 2:=aG (by kernel_rfl)
theorem zac (x0:Sem zE) (x1:Sem zf.sl):rn ms 0 Rg Tryz.f56 [zy zE x0,zy zf.sl x1] []=Tr.br (bif !j3 (x0.1,x0.2.1,x0.2.2.1,x0.2.2.2.1,x0.2.2.2.2.1,zC x0.2.2.2.2.2) then true else (↑(length x1):Int) != (↑(length x0.2.1):Int)) (Tr.ok (zp.ret (ai 1) [])) (Tr.ok (zp.head 4 (zx Tryz.f56 4) (Bl x1 x1 (↑(length x1):Int) 0 x0.1 x0.2.1 x0.2.2.1 x0.2.2.2.1 x0.2.2.2.2.1 (ze.op x0.2.2.2.2.2) (ze.v x0.2.2.2.2.2).1 (ze.v x0.2.2.2.2.2).2.1 (ze.v x0.2.2.2.2.2).2.2 (ze.s x0.2.2.2.2.2) (ze.l x0.2.2.2.2.2)))):=by kernel_rfl
abbrev tY (l1:LV) (i30:Int) (i31:Int) (ja0:TS) (ja1:LC) (ja2:Sem zg) (ja3:LI) (ja4:LF) (ja5:zn) (ja6:Int) (ja7:Int) (ja8:zn) (ja9:zn) (ja10:LX):St:={ tmps:=(tm 79 [(1,AV.sl zf l1),(2,AV.ptr 0 0),(30,ai i30),(31,ai i31)]),heap:=[AO.box [AV.str ja0,AV.sl zi ja1,ai ja2,AV.sl zg ja3,AV.sl zr ja4,AV.str ja5,ai ja6,ai ja7,AV.str ja8,AV.str ja9,AV.sl Sh.expr ja10]] }
theorem Iu (l1:LV) (l19:LV) (i20:Int) (i21:Int) (ja0:TS) (ja1:LC) (ja2:Sem zg) (ja3:LI) (ja4:LF) (ja5:zn) (ja6:Int) (ja7:Int) (ja8:zn) (ja9:zn) (ja10:LX):rh ms 0 Rg Tryz.f56 4 (Bl l1 l19 i20 i21 ja0 ja1 ja2 ja3 ja4 ja5 ja6 ja7 ja8 ja9 ja10)=Tr.br (decide (i21 < i20)) (Tr.chk (zH i21 l19.length) (Tr.br (!gP (l19.getD i21.toNat (zj zf))) (Tr.ok (zp.ret (ai 1) [])) (Tr.ok (zp.head 4 (zx Tryz.f56 4) (Bl l1 l19 i20 (IntKind.i64.wrap (i21+1)) ja0 ja1 ja2 ja3 ja4 ja5 ja6 ja7 ja8 ja9 ja10))))) (Tr.ok (zp.head 10 (zx Tryz.f56 10) (tY l1 (↑l1.length:Int) 0 ja0 ja1 ja2 ja3 ja4 ja5 ja6 ja7 ja8 ja9 ja10))):=by kernel_rfl
theorem DU (l1:LV) (i30:Int) (i31:Int) (ja0:TS) (ja1:LC) (ja2:Sem zg) (ja3:LI) (ja4:LF) (ja5:zn) (ja6:Int) (ja7:Int) (ja8:zn) (ja9:zn) (ja10:LX):rh ms 0 Rg Tryz.f56 10 (tY l1 i30 i31 ja0 ja1 ja2 ja3 ja4 ja5 ja6 ja7 ja8 ja9 ja10)=Tr.br (decide (i31 < i30)) (Tr.chk (zH i31 l1.length&&bif (l1.getD i31.toNat (zj zf)).1==0 then zH i31 ja1.length else true) (Tr.br (bif (l1.getD i31.toNat (zj zf)).1==0 then (ja1.getD i31.toNat (zj zi)).2.2 else false) (Tr.ok (zp.ret (ai 8) [])) (Tr.chk (zH i31 l1.length&&bif (l1.getD i31.toNat (zj zf)).1 != 0 then zH i31 l1.length&&zH i31 ja1.length else true) (Tr.br (bif (l1.getD i31.toNat (zj zf)).1 != 0 then (l1.getD i31.toNat (zj zf)).1 != (ja1.getD i31.toNat (zj zi)).2.1 else false) (Tr.ok (zp.ret (ai 5) [])) (Tr.ok (zp.head 10 (zx Tryz.f56 10) (tY l1 i30 (IntKind.i64.wrap (i31+1)) ja0 ja1 ja2 ja3 ja4 ja5 ja6 ja7 ja8 ja9 ja10))))))) (Tr.br ((g8 (ze.mk ja5 (ja6,ja7,ja8) ja9 ja10) ja1 l1).1==3&&((g8 (ze.mk ja5 (ja6,ja7,ja8) ja9 ja10) ja1 l1).2.1==0&&((g8 (ze.mk ja5 (ja6,ja7,ja8) ja9 ja10) ja1 l1).2.2==[]&&true))) (Tr.ok (zp.ret (ai 9) [])) (Tr.ok (zp.ret (ai 0) []))):=by kernel_rfl
def fZ (ja0:TS) (ja1:LC) (ja2:Sem zg) (ja3:LI) (ja4:LF) (ja5:zn) (ja6:Int) (ja7:Int) (ja8:zn) (ja9:zn) (ja10:LX) (l1:LV):List (Sem zf)→Int→Sem zg
 | [],_=>(if
  ((g8 (ze.mk ja5 (ja6,ja7,ja8) ja9 ja10) ja1 l1).1==3&&
    ((g8 (ze.mk ja5 (ja6,ja7,ja8) ja9 ja10) ja1 l1).2.1==0&&
     ((g8 (ze.mk ja5 (ja6,ja7,ja8) ja9 ja10) ja1 l1).2.2==[]&&true)))=
   true then
 9
else 0)
 | x::r,i31=>(if (bif x.1==0 then (ja1.getD i31.toNat (zj zi)).2.2 else false)=true then 8
else
 if (bif x.1 != 0 then x.1 != (ja1.getD i31.toNat (zj zi)).2.1 else false)=true then 5
 else fZ ja0 ja1 ja2 ja3 ja4 ja5 ja6 ja7 ja8 ja9 ja10 l1 r (i31+1))
def eJ (ja0:TS) (ja1:LC) (ja2:Sem zg) (ja3:LI) (ja4:LF) (ja5:zn) (ja6:Int) (ja7:Int) (ja8:zn) (ja9:zn) (ja10:LX) (l1:LV):List (Sem zf)→Int→Bool
 | [],_=>(true)
 | x::r,i31=>(if (zH i31 l1.length&&bif x.1==0 then zH i31 ja1.length else true)=true then
 if (bif x.1==0 then (ja1.getD i31.toNat (zj zi)).2.2 else false)=true then true
 else
  if (zH i31 l1.length&&bif x.1 != 0 then zH i31 l1.length&&zH i31 ja1.length else true)=true then
   if (bif x.1 != 0 then x.1 != (ja1.getD i31.toNat (zj zi)).2.1 else false)=true then true
   else eJ ja0 ja1 ja2 ja3 ja4 ja5 ja6 ja7 ja8 ja9 ja10 l1 r (i31+1)
  else false
else false)
theorem KO {C:bW} (hC:∀ id,C.ρ0 id=none) (ja0:TS) (ja1:LC) (ja2:Sem zg) (ja3:LI) (ja4:LF) (ja5:zn) (ja6:Int) (ja7:Int) (ja8:zn) (ja9:zn) (ja10:LX) (l1:LV) (hl:l1.length≤zD):∀ (m i:Nat),l1.length - i=m→i≤l1.length→eJ ja0 ja1 ja2 ja3 ja4 ja5 ja6 ja7 ja8 ja9 ja10 l1 (l1.drop i) i=true→
  Reach (ms) C 56 (zx Tryz.f56 10) (tY l1 (l1.length:Int) (i:Int) ja0 ja1 ja2 ja3 ja4 ja5 ja6 ja7 ja8 ja9 ja10) (fun r h=>zX h [zg] r=some (fZ ja0 ja1 ja2 ja3 ja4 ja5 ja6 ja7 ja8 ja9 ja10 l1 (l1.drop i) i,())):=by
 intro m
 induction m with
 | zero=>
  intro i hm hi hc
  obtain rfl:i=l1.length:=by omega
  rw [cQ] at hc ⊢
  refine zk gU (Fo) (fun id _=>hC id) (DU _ _ _ _ _ _ _ _ _ _ _ _ _ _) ?_
  rw [eJ] at hc
  generalize hy:fZ ja0 ja1 ja2 ja3 ja4 ja5 ja6 ja7 ja8 ja9 ja10 l1 [] _=y
  rw [fZ] at hy
  simp only [ap,Tr.val_brF]
  repeat' (first | with_reducible refine ea hy hc (fun _ hy hc=>?_) (fun _ hy hc=>?_) | with_reducible refine aM hy (fun _ hy=>?_) (fun _ hy=>?_) | with_reducible refine aX hc (fun hc=>?_) | with_reducible refine zo ?_)
  all_goals (subst hy; first | (change Reach _ _ _ _ _ _; apply wX hC <;> first | assumption | exact hc) | rfl)
 | succ m IH=>
  intro i hm hi hc
  have hlt:i < l1.length:=by omega
  have IH:=IH (i+1)
  have hcast:((i:Int)+1)=((i+1:Nat):Int):=by omega
  have hwr:=zG i (by omega)
  rw [c6 hlt] at hc ⊢
  refine zk gU (Fo) (fun id _=>hC id) (DU _ _ _ _ _ _ _ _ _ _ _ _ _ _) ?_
  rw [eJ] at hc
  generalize hy:fZ ja0 ja1 ja2 ja3 ja4 ja5 ja6 ja7 ja8 ja9 ja10 l1 (l1[i]::l1.drop (i+1)) (i:Int)=y
  rw [fZ] at hy
  simp only [aH hlt,zN hlt,ag l1 _ hlt,hwr,Tr.val_brT]
  clear hwr
  try simp only [zN hlt] at hy
  simp only [hcast] at hy
  try simp only [zN hlt] at hc
  try simp only [hcast] at hc
  repeat' (first | with_reducible refine ea hy hc (fun _ hy hc=>?_) (fun _ hy hc=>?_) | with_reducible refine aM hy (fun _ hy=>?_) (fun _ hy=>?_) | with_reducible refine aX hc (fun hc=>?_) | with_reducible refine zo ?_)
  all_goals (subst hy; first | (change Reach _ _ _ _ _ _; apply IH <;> first | omega | assumption) | (change Reach _ _ _ _ _ _; apply wX hC <;> first | assumption | exact hc) | rfl)
theorem rI {C:bW} (hC:∀ id,C.ρ0 id=none) (ja0:TS) (ja1:LC) (ja2:Sem zg) (ja3:LI) (ja4:LF) (ja5:zn) (ja6:Int) (ja7:Int) (ja8:zn) (ja9:zn) (ja10:LX) (l1:LV) (hc:eJ ja0 ja1 ja2 ja3 ja4 ja5 ja6 ja7 ja8 ja9 ja10 l1 l1 0=true):
  Reach (ms) C 56 (zx Tryz.f56 10) (tY l1 (l1.length:Int) 0 ja0 ja1 ja2 ja3 ja4 ja5 ja6 ja7 ja8 ja9 ja10) (fun r h=>zX h [zg] r=some (fZ ja0 ja1 ja2 ja3 ja4 ja5 ja6 ja7 ja8 ja9 ja10 l1 l1 0,())):=
 Reach.len 1 (zf) l1 rfl fun hl=>KO hC ja0 ja1 ja2 ja3 ja4 ja5 ja6 ja7 ja8 ja9 ja10 l1 hl _ 0 rfl (aZ _) hc
def iH (l1:LV) (ja0:TS) (ja1:LC) (ja2:Sem zg) (ja3:LI) (ja4:LF) (ja5:zn) (ja6:Int) (ja7:Int) (ja8:zn) (ja9:zn) (ja10:LX):List (Sem zf)→Int→Sem zg
 | [],_=>(fZ ja0 ja1 ja2 ja3 ja4 ja5 ja6 ja7 ja8 ja9 ja10 l1 l1 0)
 | x::r,i21=>(if (!gP x)=true then 1 else iH l1 ja0 ja1 ja2 ja3 ja4 ja5 ja6 ja7 ja8 ja9 ja10 r (i21+1))
def e9 (l1:LV) (ja0:TS) (ja1:LC) (ja2:Sem zg) (ja3:LI) (ja4:LF) (ja5:zn) (ja6:Int) (ja7:Int) (ja8:zn) (ja9:zn) (ja10:LX):List (Sem zf)→Int→Bool
 | [],_=>(eJ ja0 ja1 ja2 ja3 ja4 ja5 ja6 ja7 ja8 ja9 ja10 l1 l1 0)
 | x::r,i21=>(if (!gP x)=true then true else e9 l1 ja0 ja1 ja2 ja3 ja4 ja5 ja6 ja7 ja8 ja9 ja10 r (i21+1))
theorem Qi {C:bW} (hC:∀ id,C.ρ0 id=none) (l1:LV) (ja0:TS) (ja1:LC) (ja2:Sem zg) (ja3:LI) (ja4:LF) (ja5:zn) (ja6:Int) (ja7:Int) (ja8:zn) (ja9:zn) (ja10:LX) (l19:LV) (hl:l19.length≤zD):∀ (m i:Nat),l19.length - i=m→i≤l19.length→e9 l1 ja0 ja1 ja2 ja3 ja4 ja5 ja6 ja7 ja8 ja9 ja10 (l19.drop i) i=true→
  Reach (ms) C 56 (zx Tryz.f56 4) (Bl l1 l19 (l19.length:Int) (i:Int) ja0 ja1 ja2 ja3 ja4 ja5 ja6 ja7 ja8 ja9 ja10) (fun r h=>zX h [zg] r=some (iH l1 ja0 ja1 ja2 ja3 ja4 ja5 ja6 ja7 ja8 ja9 ja10 (l19.drop i) i,())):=by
 intro m
 induction m with
 | zero=>
  intro i hm hi hc
  obtain rfl:i=l19.length:=by omega
  rw [cQ] at hc ⊢
  refine zk gU (Fo) (fun id _=>hC id) (Iu _ _ _ _ _ _ _ _ _ _ _ _ _ _ _) ?_
  rw [e9] at hc
  generalize hy:iH l1 ja0 ja1 ja2 ja3 ja4 ja5 ja6 ja7 ja8 ja9 ja10 [] _=y
  rw [iH] at hy
  simp only [ap,Tr.val_brF]
  repeat' (first | with_reducible refine ea hy hc (fun _ hy hc=>?_) (fun _ hy hc=>?_) | with_reducible refine aM hy (fun _ hy=>?_) (fun _ hy=>?_) | with_reducible refine aX hc (fun hc=>?_) | with_reducible refine zo ?_)
  all_goals (subst hy; first | (change Reach _ _ _ _ _ _; apply rI hC <;> first | assumption | exact hc) | rfl)
 | succ m IH=>
  intro i hm hi hc
  have hlt:i < l19.length:=by omega
  have IH:=IH (i+1)
  have hcast:((i:Int)+1)=((i+1:Nat):Int):=by omega
  have hwr:=zG i (by omega)
  rw [c6 hlt] at hc ⊢
  refine zk gU (Fo) (fun id _=>hC id) (Iu _ _ _ _ _ _ _ _ _ _ _ _ _ _ _) ?_
  rw [e9] at hc
  generalize hy:iH l1 ja0 ja1 ja2 ja3 ja4 ja5 ja6 ja7 ja8 ja9 ja10 (l19[i]::l19.drop (i+1)) (i:Int)=y
  rw [iH] at hy
  simp only [aH hlt,zN hlt,ag l19 _ hlt,hwr,Tr.val_brT,Tr.val_chkT]
  clear hwr
  try simp only [zN hlt] at hy
  simp only [hcast] at hy
  try simp only [zN hlt] at hc
  try simp only [hcast] at hc
  repeat' (first | with_reducible refine ea hy hc (fun _ hy hc=>?_) (fun _ hy hc=>?_) | with_reducible refine aM hy (fun _ hy=>?_) (fun _ hy=>?_) | with_reducible refine aX hc (fun hc=>?_) | with_reducible refine zo ?_)
  all_goals (subst hy; first | (change Reach _ _ _ _ _ _; apply IH <;> first | omega | assumption) | (change Reach _ _ _ _ _ _; apply rI hC <;> first | assumption | exact hc) | rfl)
theorem wX {C:bW} (hC:∀ id,C.ρ0 id=none) (l1:LV) (ja0:TS) (ja1:LC) (ja2:Sem zg) (ja3:LI) (ja4:LF) (ja5:zn) (ja6:Int) (ja7:Int) (ja8:zn) (ja9:zn) (ja10:LX) (l19:LV) (hc:e9 l1 ja0 ja1 ja2 ja3 ja4 ja5 ja6 ja7 ja8 ja9 ja10 l19 0=true):
  Reach (ms) C 56 (zx Tryz.f56 4) (Bl l1 l19 (l19.length:Int) 0 ja0 ja1 ja2 ja3 ja4 ja5 ja6 ja7 ja8 ja9 ja10) (fun r h=>zX h [zg] r=some (iH l1 ja0 ja1 ja2 ja3 ja4 ja5 ja6 ja7 ja8 ja9 ja10 l19 0,())):=
 Reach.len 19 (zf) l19 rfl fun hl=>Qi hC l1 ja0 ja1 ja2 ja3 ja4 ja5 ja6 ja7 ja8 ja9 ja10 l19 hl _ 0 rfl (aZ _) hc
def iG (x0:Sem zE) (x1:Sem zf.sl):Sem zg:=(if (bif !j3 x0 then true else (↑(length x1):Int) != (↑(length x0.2.1):Int))=true then 1 else iH x1 x0.1 x0.2.1 x0.2.2.1 x0.2.2.2.1 x0.2.2.2.2.1 (ze.op x0.2.2.2.2.2) (ze.v x0.2.2.2.2.2).1 (ze.v x0.2.2.2.2.2).2.1 (ze.v x0.2.2.2.2.2).2.2 (ze.s x0.2.2.2.2.2) (ze.l x0.2.2.2.2.2) x1 0)
def yz (x0:Sem zE) (x1:Sem zf.sl):Bool:=(if (bif !j3 x0 then true else (↑(length x1):Int) != (↑(length x0.2.1):Int))=true then true else e9 x1 x0.1 x0.2.1 x0.2.2.1 x0.2.2.2.1 x0.2.2.2.2.1 (ze.op x0.2.2.2.2.2) (ze.v x0.2.2.2.2.2).1 (ze.v x0.2.2.2.2.2).2.1 (ze.v x0.2.2.2.2.2).2.2 (ze.s x0.2.2.2.2.2) (ze.l x0.2.2.2.2.2) x1 0)
def F10:zB:=zA [zE,zf.sl] [zg] (fun x=>yz x.1 x.2.1) fun x=>(iG x.1 x.2.1,())
theorem Nj:FK 56 F10:=by
 refine zL (Fo) fun x hc C hC=>?_
 unfold yz at hc
 refine zk gU (Fo) (fun id _=>hC id) (zac x.1 x.2.1) ?_
 generalize hy:iG x.1 x.2.1=y
 unfold iG at hy
 try simp only [ze.eta]
 repeat' (first | with_reducible refine ea hy hc (fun _ hy hc=>?_) (fun _ hy hc=>?_) | with_reducible refine aM hy (fun _ hy=>?_) (fun _ hy=>?_) | with_reducible refine aX hc (fun hc=>?_) | with_reducible refine zo ?_)
 all_goals (subst hy; first | (change Reach _ _ _ _ _ _; apply wX hC <;> first | assumption | exact hc) | (change Reach _ _ _ _ _ _; apply rI hC <;> first | assumption | exact hc) | rfl)

noncomputable def NH:=ms.add 56 F10
theorem E5:zm NH:=gU.add Nj

theorem ln {a0 a2 a3 a4 a5 a6 a7 a8 a9 b0} {cols:List (Sem zi)} {row:List (Sem zf)} (hl:row.length=cols.length):∀ (l:List (Sem zf)) (i:Nat),i+l.length=row.length→eJ a0 cols a2 a3 a4 a5 a6 a7 a8 a9 b0 row l i=true
 | [],i,_=>rfl
 | x::r,i,h=>by
  have h1:i < row.length:=by simp at h; omega
  have h2:i < cols.length:=by omega
  have ih:=ln (a0:=a0) (a2:=a2) (a3:=a3) (a4:=a4) (a5:=a5) (a6:=a6) (a7:=a7) (a8:=a8) (a9:=a9) (b0:=b0) hl r (i+1) (by simp at h; omega)
  rw [eJ]
  simp only [zN h1,zN h2]
  rw [if_pos (by cases x.1==0 <;> rfl)]
  split
  ·rfl
  ·rw [if_pos (by cases x.1 != 0 <;> rfl)]
   split
   ·rfl
   ·exact ih
theorem mE {a0 a2 a3 a4 a5 a6 a7 a8 a9 b0} {cols:List (Sem zi)} {row:List (Sem zf)} (hl:row.length=cols.length):∀ (l:List (Sem zf)) (i:Int),e9 row a0 cols a2 a3 a4 a5 a6 a7 a8 a9 b0 l i=true
 | [],i=>by rw [e9]; exact ln hl row 0 (by simp)
 | x::r,i=>by
  rw [e9]
  split
  ·rfl
  ·exact mE hl r (i+1)
theorem By (t:Sem zE) (row:List (Sem zf)):yz t row=true:=by
 unfold yz
 split
 ·rfl
 ·rename_i h
  refine mE ?_ _ _
  cases hm:j3 t
  ·rw [hm] at h; simp at h
  ·rw [hm] at h
   simp at h
   omega
def S0:zB:=zW [zE,zf.sl] [zg] fun x=>(iG x.1 x.2.1,())
theorem OI:FK 56 S0:=dL Nj fun x=>By x.1 x.2.1

noncomputable def sy:=NH.add 56 S0
theorem E6:zm sy:=E5.add OI

open Go.RowKit Go.Lib in
theorem PM:FK 236 (zA [.str,.str] [.bool] (fun x=>x.2.1.length==1) fun x=>(decide (0≤Lib.indexByte x.1 (x.2.1.headD 0)),())):=by
 refine eB (E:=sy) ⟨Tryz.f236,by kernel_rfl,by kernel_rfl,by kernel_rfl⟩ fun x h0 res hx=>?_
 unfold fJ at hx
 split at hx
 ·simp only [Tr.val] at hx
  split at hx
  ·rename_i hc
   simp only [zZ] at hx
   subst hx
   obtain ⟨s,sub,u⟩:=x
   have hc:(sub.length==1)=true:=hc
   match sub,hc with
   | [c],_=>
    intro C w U ρ vals _ hr hH hnew hr0 hW
    have hl:=hr.len
    match vals,hl,hr with
    | [v1,v2],_,hr=>
     have h1:=hr.rv 0 (.str s) v1 rfl rfl
     have h2:=hr.rv 1 (.str [c]) v2 rfl rfl
     cases h1 with
     | str _ hs=>
     cases h2 with
     | str _ hs2=>
     refine (Tryz.strings_Contains_one ⟨s.toArray⟩ c w).mono ?_
     rintro e w' ⟨rfl,rfl⟩
     exact ex hH hnew hr0 hW (Below.refl _ _) (.bool _)
  ·cases hx
 ·simp at hx
def F63:zB:=zA [.str,.str] [.bool] (fun x=>x.2.1.length==1) fun x=>(decide (0≤Lib.indexByte x.1 (x.2.1.headD 0)),())
theorem Va:FK 236 F63:=PM

def F89:zB:=zA [.str] [.str] (fun x=>decide (x.1.length≤140737488355328)&&x.1.all fun b=>decide (b.toNat < 128)) fun x=>(Lib.toUpperA x.1,())
open Go.RowKit Go.Lib in
theorem Vy:FK 158 F89:=by
 refine eB (E:=sy) ⟨Tryz.f158,by kernel_rfl,by kernel_rfl,by kernel_rfl⟩ fun x h0 res hx=>?_
 unfold fJ at hx
 split at hx
 ·simp only [Tr.val] at hx
  split at hx
  ·rename_i hc
   simp only [zZ] at hx
   subst hx
   obtain ⟨s,u⟩:=x
   have hc:(decide (s.length≤140737488355328)&&s.all fun b=>decide (b.toNat < 128))=true:=hc
   simp only [aC,ae] at hc
   obtain ⟨hc0,hc⟩:=hc
   intro C w U ρ vals _ hr hH hnew hr0 hW
   have hl:=hr.len
   match vals,hl,hr with
   | [v1],_,hr=>
    have h1:=hr.rv 0 (.str s) v1 rfl rfl
    cases h1 with
    | str _ hs=>
    refine (Tryz.strings_ToUpper_ascii ⟨s.toArray⟩ w (by simpa [ByteArray.size] using hc0) (fun j b hj=>?_)).mono ?_
    ·have hm:b∈s:=gu (by simpa using hj)
     simp only [cH,ae] at hc
     exact hc b hm
    ·rintro e w' ⟨rfl,hb⟩
     have hbb:=ex (r:=.str (Lib.toUpperA s)) hH hnew hr0 hW hb (.str _ (by simpa [Lib.toUpperA] using hs))
     exact hbb
  ·cases hx
 ·simp at hx

def y8:Nat→Nat→zn
 | 0,_=>[]
 | f+1,n=>if n < 10 then [UInt8.ofNat (48+n)] else y8 f (n / 10)++[UInt8.ofNat (48+n % 10)]
def qe (n:Int):zn:=if n < 0 then 45::y8 20 n.natAbs else y8 20 n.natAbs
theorem xi:∀ (f n:Nat),n < 10 ^ f→0 < f→y8 f n=Lib.decDigits n
 | 0,_,_,h=>by omega
 | f+1,n,h,_=>by
  rw [y8,Lib.decDigits]
  split
  ·rfl
  ·rename_i hn
   have hf:0 < f:=by
    cases f with
    | zero=>simp at h; omega
    | succ f=>omega
   rw [xi f (n / 10) (by rw [Nat.pow_succ] at h; omega) hf]
theorem y9:∀ (f n:Nat),(y8 f n).length≤f
 | 0,_=>by simp [y8]
 | f+1,n=>by
  rw [y8]
  split
  ·simp
  ·have:=y9 f (n / 10)
   simp; omega
theorem wt (n:Int):(qe n).length≤21:=by
 unfold qe
 have:=y9 20 n.natAbs
 split <;> simp <;> omega
theorem Hy (n:Int) (h:bU .i64 n):Lib.itoa n=qe n:=by
 have h1:-9223372036854775808≤n:=h.1
 have h2:n≤9223372036854775807:=h.2
 unfold Lib.itoa qe
 split
 ·rw [xi 20 _ (by omega) (by omega)]
 ·rw [xi 20 _ (by omega) (by omega)]
  congr 1
  omega
def Tb:zB:=zA [zg,zg] [.str] (fun x=>x.2.1==10) fun x=>(qe x.1,())
open Go.RowKit Go.Lib in
theorem OT:FK 230 Tb:=by
 refine eB (E:=sy) ⟨Tryz.f230,by kernel_rfl,by kernel_rfl,by kernel_rfl⟩ fun x h0 res hx=>?_
 unfold fJ at hx
 split at hx
 ·simp only [Tr.val] at hx
  split at hx
  ·rename_i hc
   simp only [zZ] at hx
   subst hx
   obtain ⟨n,b,u⟩:=x
   have hc:(b==10)=true:=hc
   simp only [ee] at hc
   subst hc
   intro C w U ρ vals _ hr hH hnew hr0 hW
   have hl:=hr.len
   match vals,hl,hr with
   | [v1,v2],_,hr=>
    have h1:=hr.rv 0 (.int .i64 n) v1 rfl rfl
    have h2:=hr.rv 1 (.int .i64 10) v2 rfl rfl
    cases h1 with
    | int _ _ hn=>
    cases h2
    have h5:Rv w U (fun _=>none) (.tab .u64 iO) (.pointer (some ⟨5,0,none⟩)):=hW.gl 5
    have htab:Lib.TabIs Tryz.prog w "internal/strconv.uint64pow10" .u64 Lib.pow10Tab:=by
     cases h5 with
     | tab _ _ _ T fr hb hU=>
     have hg:Tryz.prog.globalNamed "internal/strconv.uint64pow10" = some 5:=by kernel_rfl
     have ht:Lib.pow10Tab=iO:=by decide +kernel
     unfold Lib.TabIs World.var?
     rw [hg,ht]
     simp only [Option.bind_some,hb]
    refine (Tryz.strconv_FormatInt_10 n hn.1 hn.2 w htab).mono ?_
    rintro e w' ⟨rfl,k,os,rfl⟩
    rw [Hy n hn]
    exact ex (r:=.str (qe n)) hH hnew hr0 hW ⟨rfl,rfl,rfl,by show w.heap.size≤(w.heap++os).size; simp,fun j hj=>by show (w.heap++os)[j]?=w.heap[j]?; rw [Array.getElem?_append_left hj]⟩ (.str _ (by have:=wt n; unfold zD; omega))
  ·cases hx
 ·simp at hx

theorem ol (old new:zn):∀ (k:Nat) (s:zn),(Lib.replaceK old new k s).length≤s.length+k * new.length
 | 0,s=>by simp [Lib.replaceK]
 | k+1,s=>by
  rw [Lib.replaceK]
  split
  ·omega
  ·have:=ol old new k (s.drop ((Lib.index s old).toNat+old.length))
   simp only [nl,List.length_take,List.length_drop] at this ⊢
   rw [eP]
   omega
theorem ic (s old new:zn):(Lib.replaceAll s old new).length≤s.length+(s.length+1) * new.length:=by
 unfold Lib.replaceAll Lib.replace
 split
 ·omega
 ·refine g7 (ol old new _ s) ?_
  have hc:=Lib.count_le s old
  have:Lib.replaceNum s old (-1)=Lib.count s old:=by unfold Lib.replaceNum; rw [if_pos (.inl (by omega))]
  rw [this]
  have:=eD new.length hc
  omega
def oh (s old new:zn):Bool:=decide (s.length≤4000000000)&&(decide (1≤old.length)&&decide (new.length≤1000))
def Tc:zB:=zA [.str,.str,.str] [.str] (fun x=>oh x.1 x.2.1 x.2.2.1) fun x=>(Lib.replaceAll x.1 x.2.1 x.2.2.1,())
open Go.RowKit Go.Lib in
theorem OU:FK 231 Tc:=by
 refine eB (E:=sy) ⟨Tryz.f231,by kernel_rfl,by kernel_rfl,by kernel_rfl⟩ fun x h0 res hx=>?_
 unfold fJ at hx
 split at hx
 ·simp only [Tr.val] at hx
  split at hx
  ·rename_i hc
   simp only [zZ] at hx
   subst hx
   obtain ⟨s,old,new,u⟩:=x
   have hc:oh s old new=true:=hc
   unfold oh at hc
   simp only [aC,ae] at hc
   obtain ⟨hc1,hc2,hc3⟩:=hc
   intro C w U ρ vals _ hr hH hnew hr0 hW
   have hl:=hr.len
   match vals,hl,hr with
   | [v1,v2,v3],_,hr=>
    have h1:=hr.rv 0 (.str s) v1 rfl rfl
    have h2:=hr.rv 1 (.str old) v2 rfl rfl
    have h3:=hr.rv 2 (.str new) v3 rfl rfl
    cases h1 with
    | str _ hs1=>
    cases h2 with
    | str _ hs2=>
    cases h3 with
    | str _ hs3=>
    have hg1:Rv w U (fun _=>none) .gint (.pointer (some ⟨2,0,none⟩)):=hW.gl 2
    have hmm:∃ m:Int,w.cell? ⟨2,0,none⟩=some (.int .i64 m):=by
     cases hg1 with
     | gint m _ T fr _ hb _=>exact ⟨m,by simp [World.cell?,hb]⟩
    obtain ⟨m,hm⟩:=hmm
    have hcb:=Lib.countB_le (⟨old.toArray⟩:ByteArray) (by simpa [ByteArray.size] using hc2) s.length (⟨s.toArray⟩:ByteArray) (by simp [ByteArray.size])
    have hsz:(⟨s.toArray⟩:ByteArray).size=s.length:=by simp [ByteArray.size]
    have hnz:(⟨new.toArray⟩:ByteArray).size=new.length:=by simp [ByteArray.size]
    have hmul:Lib.countB (⟨s.toArray⟩:ByteArray) ⟨old.toArray⟩ * new.length≤4000000000 * 1000:=ja (by omega) hc3
    refine (Tryz.strings_ReplaceAll ⟨s.toArray⟩ ⟨old.toArray⟩ ⟨new.toArray⟩ m w (by rw [hsz]; omega) hm (by simpa [ByteArray.size] using hc2) (by rw [hsz,hnz]; omega)).mono ?_
    rintro e w' ⟨rfl,hbel⟩
    refine ex (r:=.str (Lib.replaceAll s old new)) hH hnew hr0 hW hbel (.str _ ?_)
    have hlen:=ic s old new
    have hmul2:(s.length+1) * new.length≤4000000001 * 1000:=ja (by omega) hc3
    unfold zD
    omega
  ·cases hx
 ·simp at hx

def Ta:zB:=zA [.sl .str,.str] [.str] (fun x=>decide (x.1.length≤140737488355328)&&decide ((Lib.join x.1 x.2.1).length≤140737488355328)) fun x=>(Lib.join x.1 x.2.1,())
open Go.RowKit Go.Lib in
theorem OS:FK 229 Ta:=by
 refine eB (E:=sy) ⟨Tryz.f229,by kernel_rfl,by kernel_rfl,by kernel_rfl⟩ fun x h0 res hx=>?_
 unfold fJ at hx
 split at hx
 ·simp only [Tr.val] at hx
  split at hx
  ·rename_i hc
   simp only [zZ] at hx
   subst hx
   obtain ⟨l,sep,u⟩:=x
   have hc:(decide (l.length≤140737488355328)&&decide ((Lib.join l sep).length≤140737488355328))=true:=hc
   simp only [aC,ae] at hc
   obtain ⟨hc0,hc⟩:=hc
   have hms:zD=9223372036854775807:=rfl
   intro C w U ρ vals _ hr hH hnew hr0 hW
   have hl:=hr.len
   match vals,hl,hr with
   | [v1,v2],_,hr=>
    have h1:=hr.rv 0 (.sl .str l) v1 rfl rfl
    have h2:=hr.rv 1 (.str sep) v2 rfl rfl
    cases h2 with
    | str _ hs2=>
    generalize hl0:l=l0 at h1 hc hc0 hr
    cases h1 with
    | sl0 _ a c=>
     subst hl0
     refine (Tryz.strings_Join_none a c ⟨sep.toArray⟩ w).mono ?_
     rintro e w' ⟨rfl,rfl⟩
     exact ex (r:=.str []) hH hnew hr0 hW (Below.refl _ _) (.str _ (by simp))
    | sl _ _ b o c vals' hcc hm hb hU hcell hrr=>
     subst hl0
     have hx:∀ (j:Nat) x,(l.map fun s=>(⟨s.toArray⟩:ByteArray))[j]?=some x→w.cell? ⟨b,o+j,none⟩=some (.string x):=by
      intro j x hj
      simp only [cP,cG] at hj
      obtain ⟨s,hs,rfl⟩:=hj
      obtain ⟨hlt,rfl⟩:=bw.1 hs
      have h3:=hcell j 0 hlt (by simp [Sh.size])
      have h4:=hrr j hlt 0 (.str l[j]) rfl
      simp only [Sh.size,Nat.mul_one,pV] at h3
      rw [h3]
      generalize vals' j 0=vv at h4
      cases h4
      rfl
     have hmap:(l.map fun s=>(⟨s.toArray⟩:ByteArray)).map (·.data.toList)=l:=by
      simp [np]
     have hj:=Tryz.strings_Join b o c (l.map fun s=>(⟨s.toArray⟩:ByteArray)) ⟨sep.toArray⟩ w hx hb (by simpa using hc0) (by simpa using hcc) (by rw [hmap]; exact hc)
     rw [hmap] at hj
     simp only [vw] at hj
     refine hj.mono ?_
     rintro e w' ⟨rfl,hbel⟩
     exact ex (r:=.str (Lib.join l sep)) hH hnew hr0 hW hbel (.str _ (by omega))
  ·cases hx
 ·simp at hx

noncomputable def mt:=sy.addL [(236,F63),(158,F89),(230,Tb),(231,Tc),(229,Ta)]
theorem fy:zm mt:=E6.addL <| fc Va <| fc Vy <| fc OT <| fc OU <| fc OS gX
end Cad
