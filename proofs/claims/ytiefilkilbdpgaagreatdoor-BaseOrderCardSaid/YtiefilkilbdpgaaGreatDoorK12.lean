/- Statements: what a CREATE has. Functions on a variable to which a pointer leads. Functions as the machine goes through them, round by round. Rounds with an invariant; what a variable's cells say. Statements: their parts, their texts. Statements: their texts. Statements that may be. Bases: small things. Bases: few. Bases: few, and where a table is. Bases: few tables; has. Tables with rows: has. Tables with rows: has, check. Tables with rows: check; bases: bound. Bases: check. Loops: where they go, and where they end. -/
import Derived.Test.YtiefilkilbdpgaaGreatDoorK11
namespace Cad
open Go Go.Proofs
open Int (toNat)
open List (getD)
open List (length)
set_option maxHeartbeats 4000000

abbrev zde:Nat→zT:=fun _=>{ }
theorem zac:zz (fV).P 150 Tryz.f150 1:=aG (by kernel_rfl)
theorem zcu (x0:Sem zx):rn fV 0 zde Tryz.f150 [zy zx x0] []=Tr.ok (zp.ret (AV.bool (bif bif decide ((↑(length x0.2.2.2.2.1):Int) < 1) then true else decide ((↑(length x0.2.2.2.2.1):Int) > 8) then false else bif !decide (zQ (fun x => !iA x) x0.2.2.2.2.1 0 ≥ 0) then bif bL x0.2.2.2.2.2.1 then bif bif decide ((↑(length x0.2.2.2.2.2.2.1):Int) < 0) then true else decide ((↑(length x0.2.2.2.2.2.2.1):Int) > 8) then false else bif !decide (zQ (fun x => !bL x) x0.2.2.2.2.2.2.1 0 ≥ 0) then bif bif decide ((↑(length x0.2.2.2.2.2.2.2.1):Int) < 0) then true else decide ((↑(length x0.2.2.2.2.2.2.2.1):Int) > 8) then false else bif !decide (zQ (fun x => !qz x) x0.2.2.2.2.2.2.2.1 0 ≥ 0) then m9 (zC x0.2.2.2.2.2.2.2.2.1) else false else false else false else false)) []):=by kernel_rfl
def gF (x0:Sem zx):Sem Sh.bool:=(bif bif decide ((↑(length x0.2.2.2.2.1):Int) < 1) then true else decide ((↑(length x0.2.2.2.2.1):Int) > 8) then false else bif !decide (zQ (fun x => !iA x) x0.2.2.2.2.1 0 ≥ 0) then bif bL x0.2.2.2.2.2.1 then bif bif decide ((↑(length x0.2.2.2.2.2.2.1):Int) < 0) then true else decide ((↑(length x0.2.2.2.2.2.2.1):Int) > 8) then false else bif !decide (zQ (fun x => !bL x) x0.2.2.2.2.2.2.1 0 ≥ 0) then bif bif decide ((↑(length x0.2.2.2.2.2.2.2.1):Int) < 0) then true else decide ((↑(length x0.2.2.2.2.2.2.2.1):Int) > 8) then false else bif !decide (zQ (fun x => !qz x) x0.2.2.2.2.2.2.2.1 0 ≥ 0) then m9 x0.2.2.2.2.2.2.2.2.1 else false else false else false else false)
def F81:zB:=zX [zx] [Sh.bool] fun x=>(gF x.1,())
theorem WS:FK 150 F81:=by
 refine zO (zac) fun x C hC=>?_
 refine zk dm (zac) (fun id _=>hC id) (zcu x.1) ?_
 generalize hy:gF x.1=y
 unfold gF at hy
 try simp only [ze.eta]
 repeat' (first | with_reducible refine aL hy (fun _ hy=>?_) (fun _ hy=>?_) | with_reducible refine zn ?_)
 all_goals first | (cases hc; done) | (subst hy; first | rfl)

abbrev Zp:Nat→zT:=fun j=>if j=3 then { slots:=[1,5,8,9,10],prom:=[(5,none,.str)] } else { }
abbrev BZ (l8:List (Sem (Sh.str.pr Sh.expr))) (i9:Int) (i10:Int) (lh_0:LS):St:={ tmps:=(tm 23 [(1,AV.clo (Fn.func 162) [] []),(5,AV.vec 0),(8,AV.sl (Sh.str.pr Sh.expr) l8),(9,ai i9),(10,ai i10)]),heap:=[AO.vec Sh.str lh_0] }
theorem M1:zz (fV).P 164 Tryz.f164 2:=aG (by kernel_rfl)
theorem zcE (x0:Sem aJ.sl):rn fV 0 Zp Tryz.f164 [zy aJ.sl x0,AV.clo (Fn.func 162) [] []] []=Tr.ok (zp.head 3 (zw Tryz.f164 3) (BZ x0 (↑(length x0):Int) 0 [])):=by kernel_rfl
theorem JS (l8:List (Sem (Sh.str.pr Sh.expr))) (i9:Int) (i10:Int) (lh_0:LS):rh fV 0 Zp Tryz.f164 3 (BZ l8 i9 i10 lh_0)=Tr.br (decide (i10 < i9)) (Tr.chk (zJ i10 l8.length) (Tr.chk (im ((l8.getD i10.toNat (zj (Sh.str.pr Sh.expr))).1,ze.mk (ze.op (l8.getD i10.toNat (zj (Sh.str.pr Sh.expr))).2) (ze.v (l8.getD i10.toNat (zj (Sh.str.pr Sh.expr))).2) (ze.s (l8.getD i10.toNat (zj (Sh.str.pr Sh.expr))).2) (ze.l (l8.getD i10.toNat (zj (Sh.str.pr Sh.expr))).2))) (Tr.chk (decide (lh_0.length+[dv ((l8.getD i10.toNat (zj (Sh.str.pr Sh.expr))).1,ze.mk (ze.op (l8.getD i10.toNat (zj (Sh.str.pr Sh.expr))).2) (ze.v (l8.getD i10.toNat (zj (Sh.str.pr Sh.expr))).2) (ze.s (l8.getD i10.toNat (zj (Sh.str.pr Sh.expr))).2) (ze.l (l8.getD i10.toNat (zj (Sh.str.pr Sh.expr))).2))].length≤1073741824)) (Tr.ok (zp.head 3 (zw Tryz.f164 3) (BZ l8 i9 (IntKind.i64.wrap (i10+1)) (lh_0++[dv ((l8.getD i10.toNat (zj (Sh.str.pr Sh.expr))).1,ze.mk (ze.op (l8.getD i10.toNat (zj (Sh.str.pr Sh.expr))).2) (ze.v (l8.getD i10.toNat (zj (Sh.str.pr Sh.expr))).2) (ze.s (l8.getD i10.toNat (zj (Sh.str.pr Sh.expr))).2) (ze.l (l8.getD i10.toNat (zj (Sh.str.pr Sh.expr))).2))]))))))) (Tr.chk (decide (lh_0.length≤140737488355328)&&decide ((Lib.join lh_0 [32,44,32]).length≤140737488355328))
 (Tr.ok (zp.ret (AV.str (Lib.join lh_0 [32,44,32])) []))):=by kernel_rfl
def cq:List (Sem (Sh.str.pr Sh.expr))→Int→List (Sem Sh.str)→Sem Sh.str
 | [],_,lh_0=>(Lib.join lh_0 [32,44,32])
 | x::r,i10,lh_0=>(cq r (i10+1) (lh_0++[dv x]))
def cG:List (Sem (Sh.str.pr Sh.expr))→Int→List (Sem Sh.str)→Bool
 | [],_,lh_0=>(if (decide (lh_0.length≤140737488355328)&&decide ((Lib.join lh_0 [32,44,32]).length≤140737488355328))=true then true else false)
 | x::r,i10,lh_0=>(if im x=true then if decide (lh_0.length+[dv x].length≤1073741824)=true then cG r (i10+1) (lh_0++[dv x]) else false
else false)
theorem RK {C:cd} (hC:∀ id,C.ρ0 id=none) (l8:List (Sem (Sh.str.pr Sh.expr))) (hl:l8.length≤zD):∀ (m i:Nat) (lh_0:LS),l8.length - i=m→i≤l8.length→cG (l8.drop i) i lh_0=true→
  Reach (fV) C 164 (zw Tryz.f164 3) (BZ l8 (l8.length:Int) (i:Int) lh_0) (fun r h=>zY h [Sh.str] r=some (cq (l8.drop i) i lh_0,())):=by
 intro m
 induction m with
 | zero=>
  intro i lh_0 hm hi hc
  obtain rfl:i=l8.length:=by omega
  rw [dq] at hc ⊢
  refine zk dm (M1) (fun id _=>hC id) (JS _ _ _ _) ?_
  rw [cG] at hc
  generalize hy:cq [] _ lh_0=y
  rw [cq] at hy
  simp only [ze.eta,af,Tr.val_brF]
  repeat' (first | with_reducible refine ed hy hc (fun _ hy hc=>?_) (fun _ hy hc=>?_) | with_reducible refine aL hy (fun _ hy=>?_) (fun _ hy=>?_) | with_reducible refine aZ hc (fun hc=>?_) | with_reducible refine zn ?_)
  all_goals first | (cases hc; done) | (subst hy; first | rfl)
 | succ m IH=>
  intro i lh_0 hm hi hc
  have hlt:i < l8.length:=by omega
  have IH:=IH (i+1)
  have hcast:((i:Int)+1)=((i+1:Nat):Int):=by omega
  have hwr:=zG i (by omega)
  rw [ez hlt] at hc ⊢
  refine zk dm (M1) (fun id _=>hC id) (JS _ _ _ _) ?_
  rw [cG] at hc
  generalize hy:cq (l8[i]::l8.drop (i+1)) (i:Int) lh_0=y
  rw [cq] at hy
  simp only [ze.eta,zV hlt,zF hlt,zZ l8 _ hlt,hwr,Tr.val_brT,Tr.val_chkT]
  clear hwr
  try simp only [zF hlt] at hy
  simp only [hcast] at hy
  try simp only [zF hlt] at hc
  try simp only [hcast] at hc
  repeat' (first | with_reducible refine ed hy hc (fun _ hy hc=>?_) (fun _ hy hc=>?_) | with_reducible refine aL hy (fun _ hy=>?_) (fun _ hy=>?_) | with_reducible refine aZ hc (fun hc=>?_) | with_reducible refine zn ?_)
  all_goals first | (cases hc; done) | (subst hy; first | (change Reach _ _ _ _ _ _; apply IH <;> first | omega | assumption) | rfl)
theorem Mc {C:cd} (hC:∀ id,C.ρ0 id=none) (l8:List (Sem (Sh.str.pr Sh.expr))) (lh_0:LS) (hc:cG l8 0 lh_0=true):
  Reach (fV) C 164 (zw Tryz.f164 3) (BZ l8 (l8.length:Int) 0 lh_0) (fun r h=>zY h [Sh.str] r=some (cq l8 0 lh_0,())):=
 Reach.len 8 (Sh.str.pr Sh.expr) l8 rfl fun hl=>RK hC l8 hl _ 0 lh_0 rfl (be _) hc
def jB (x0:Sem aJ.sl):Sem Sh.str:=(cq x0 0 [])
def jC (x0:Sem aJ.sl):Bool:=(cG x0 0 [])
def F95:zB:=uf [aJ.sl] [Sh.str] [(162,(fun x=>jC x.1),fun x=>(jB x.1,()))]
theorem W7:FK 164 F95:=by
 refine jN (M1) fun j c g hm x hc C hC=>?_
 simp only [bF,bm] at hm
 obtain ⟨rfl,rfl,rfl⟩:=hm
 replace hc:jC x.1=true:=hc
 unfold jC at hc
 refine zk dm (M1) (fun id _=>hC id) (zcE x.1) ?_
 generalize hy:jB x.1=y
 unfold jB at hy
 repeat' (first | with_reducible refine ed hy hc (fun _ hy hc=>?_) (fun _ hy hc=>?_) | with_reducible refine aL hy (fun _ hy=>?_) (fun _ hy=>?_) | with_reducible refine aZ hc (fun hc=>?_) | with_reducible refine zn ?_)
 all_goals first | (cases hc; done) | (subst hy; first | (change Reach _ _ _ _ _ _; apply Mc hC <;> first | assumption | exact hc) | rfl)

abbrev S0:Nat→zT:=fun j=>if j=5 then { slots:=[1,3,24,25,26] } else if j=10 then { slots:=[1,3,37,38,39] } else { }
abbrev BX (s3:zq) (l24:LS) (i25:Int) (i26:Int) (ja0:TS) (ja1:TS) (ja2:TS) (ja3:LS) (ja4:LC) (ja5:TS) (ja6:LS) (ja7:List (Sem (Sh.str.pr Sh.str))) (ja8:zq) (ja9:Int) (ja10:Int) (ja11:zq) (ja12:zq) (ja13:LX) (ja14:LV) (ja15:List (Sem (Sh.str.pr Sh.expr))) (ja16:zq) (ja17:Int) (ja18:Int) (ja19:zq) (ja20:zq) (ja21:LX) (ja22:TS):St:={ tmps:=(tm 59 [(1,AV.ptr 0 0),(3,AV.str s3),(24,AV.sl Sh.str l24),(25,ai i25),(26,ai i26)]),heap:=[AO.box [AV.str ja0,AV.str ja1,AV.str ja2,AV.sl Sh.str ja3,AV.sl zi ja4,AV.str ja5,AV.sl Sh.str ja6,AV.sl (Sh.str.pr Sh.str) ja7,AV.str ja8,ai ja9,ai ja10,AV.str ja11,AV.str ja12,AV.sl Sh.expr ja13,AV.sl zf ja14,AV.sl (Sh.str.pr Sh.expr) ja15,AV.str ja16,ai ja17,ai ja18,AV.str ja19,AV.str ja20,AV.sl Sh.expr ja21,AV.str ja22]] }
theorem Gz:zz (fV).P 159 Tryz.f159 1:=aG (by kernel_rfl)
theorem zcz (x0:Sem zx):rn fV 0 S0 Tryz.f159 [zy zx x0] []=Tr.chk (decide ([67,82,69,65,84,69,32,84,65,66,76,69,32].length+length x0.2.1≤1099511627776)) (Tr.chk (decide (length ([67,82,69,65,84,69,32,84,65,66,76,69,32]++x0.2.1)+[32,40,32].length≤1099511627776)) (Tr.chk (gV x0.2.2.2.2.1) (Tr.chk (decide (length ([67,82,69,65,84,69,32,84,65,66,76,69,32]++x0.2.1++[32,40,32])+length (cT x0.2.2.2.2.1)≤1099511627776)) (Tr.chk (decide ([32,44,32,75,69,89,32,40,32].length+length x0.2.2.2.2.2.1≤1099511627776)) (Tr.chk (decide (length ([32,44,32,75,69,89,32,40,32]++x0.2.2.2.2.2.1)+[32,41].length≤1099511627776)) (Tr.chk (decide (length ([67,82,69,65,84,69,32,84,65,66,76,69,32]++x0.2.1++[32,40,32]++cT x0.2.2.2.2.1)+length ([32,44,32,75,69,89,32,40,32]++x0.2.2.2.2.2.1++[32,41])≤1099511627776)) (Tr.ok (zp.head 5 (zw Tryz.f159 5) (BX ([67,82,69,65,84,69,32,84,65,66,76,69,32]++x0.2.1++[32,40,32]++cT x0.2.2.2.2.1++([32,44,32,75,69,89,32,40,32]++x0.2.2.2.2.2.1++[32,41])) x0.2.2.2.2.2.2.1 (↑(length x0.2.2.2.2.2.2.1):Int) 0 x0.1 x0.2.1 x0.2.2.1 x0.2.2.2.1 x0.2.2.2.2.1 x0.2.2.2.2.2.1 x0.2.2.2.2.2.2.1 x0.2.2.2.2.2.2.2.1
 (ze.op x0.2.2.2.2.2.2.2.2.1) (ze.v x0.2.2.2.2.2.2.2.2.1).1 (ze.v x0.2.2.2.2.2.2.2.2.1).2.1 (ze.v x0.2.2.2.2.2.2.2.2.1).2.2 (ze.s x0.2.2.2.2.2.2.2.2.1) (ze.l x0.2.2.2.2.2.2.2.2.1) x0.2.2.2.2.2.2.2.2.2.1 x0.2.2.2.2.2.2.2.2.2.2.1 (ze.op x0.2.2.2.2.2.2.2.2.2.2.2.1) (ze.v x0.2.2.2.2.2.2.2.2.2.2.2.1).1 (ze.v x0.2.2.2.2.2.2.2.2.2.2.2.1).2.1 (ze.v x0.2.2.2.2.2.2.2.2.2.2.2.1).2.2 (ze.s x0.2.2.2.2.2.2.2.2.2.2.2.1) (ze.l x0.2.2.2.2.2.2.2.2.2.2.2.1) x0.2.2.2.2.2.2.2.2.2.2.2.2))))))))):=by kernel_rfl
abbrev uE (s3:zq) (l37:List (Sem (Sh.str.pr Sh.str))) (i38:Int) (i39:Int) (ja0:TS) (ja1:TS) (ja2:TS) (ja3:LS) (ja4:LC) (ja5:TS) (ja6:LS) (ja7:List (Sem (Sh.str.pr Sh.str))) (ja8:zq) (ja9:Int) (ja10:Int) (ja11:zq) (ja12:zq) (ja13:LX) (ja14:LV) (ja15:List (Sem (Sh.str.pr Sh.expr))) (ja16:zq) (ja17:Int) (ja18:Int) (ja19:zq) (ja20:zq) (ja21:LX) (ja22:TS):St:={ tmps:=(tm 59 [(1,AV.ptr 0 0),(3,AV.str s3),(37,AV.sl (Sh.str.pr Sh.str) l37),(38,ai i38),(39,ai i39)]),heap:=[AO.box [AV.str ja0,AV.str ja1,AV.str ja2,AV.sl Sh.str ja3,AV.sl zi ja4,AV.str ja5,AV.sl Sh.str ja6,AV.sl (Sh.str.pr Sh.str) ja7,AV.str ja8,ai ja9,ai ja10,AV.str ja11,AV.str ja12,AV.sl Sh.expr ja13,AV.sl zf ja14,AV.sl (Sh.str.pr Sh.expr) ja15,AV.str ja16,ai ja17,ai ja18,AV.str ja19,AV.str ja20,AV.sl Sh.expr ja21,AV.str ja22]] }
theorem JP (s3:zq) (l24:LS) (i25:Int) (i26:Int) (ja0:TS) (ja1:TS) (ja2:TS) (ja3:LS) (ja4:LC) (ja5:TS) (ja6:LS) (ja7:List (Sem (Sh.str.pr Sh.str))) (ja8:zq) (ja9:Int) (ja10:Int) (ja11:zq) (ja12:zq) (ja13:LX) (ja14:LV) (ja15:List (Sem (Sh.str.pr Sh.expr))) (ja16:zq) (ja17:Int) (ja18:Int) (ja19:zq) (ja20:zq) (ja21:LX) (ja22:TS):rh fV 0 S0 Tryz.f159 5 (BX s3 l24 i25 i26 ja0 ja1 ja2 ja3 ja4 ja5 ja6 ja7 ja8 ja9 ja10 ja11 ja12 ja13 ja14 ja15 ja16 ja17 ja18 ja19 ja20 ja21 ja22)=Tr.br (decide (i26 < i25)) (Tr.chk (zJ i26 l24.length) (Tr.chk (decide ([32,44,32,85,78,73,81,85,69,32,40,32].length+length (l24.getD i26.toNat (zj Sh.str))≤1099511627776)) (Tr.chk (decide (length ([32,44,32,85,78,73,81,85,69,32,40,32]++l24.getD i26.toNat (zj Sh.str))+[32,41].length≤1099511627776)) (Tr.chk (decide (length s3+length ([32,44,32,85,78,73,81,85,69,32,40,32]++l24.getD i26.toNat (zj Sh.str)++[32,41])≤1099511627776)) (Tr.ok (zp.head 5 (zw Tryz.f159 5) (BX (s3++([32,44,32,85,78,73,81,85,69,32,40,32]++l24.getD i26.toNat (zj Sh.str)++[32,41])) l24 i25
 (IntKind.i64.wrap (i26+1)) ja0 ja1 ja2 ja3 ja4 ja5 ja6 ja7 ja8 ja9 ja10 ja11 ja12 ja13 ja14 ja15 ja16 ja17 ja18 ja19 ja20 ja21 ja22))))))) (Tr.ok (zp.head 10 (zw Tryz.f159 10) (uE s3 ja7 (↑ja7.length:Int) 0 ja0 ja1 ja2 ja3 ja4 ja5 ja6 ja7 ja8 ja9 ja10 ja11 ja12 ja13 ja14 ja15 ja16 ja17 ja18 ja19 ja20 ja21 ja22))):=by kernel_rfl
theorem EZ (s3:zq) (l37:List (Sem (Sh.str.pr Sh.str))) (i38:Int) (i39:Int) (ja0:TS) (ja1:TS) (ja2:TS) (ja3:LS) (ja4:LC) (ja5:TS) (ja6:LS) (ja7:List (Sem (Sh.str.pr Sh.str))) (ja8:zq) (ja9:Int) (ja10:Int) (ja11:zq) (ja12:zq) (ja13:LX) (ja14:LV) (ja15:List (Sem (Sh.str.pr Sh.expr))) (ja16:zq) (ja17:Int) (ja18:Int) (ja19:zq) (ja20:zq) (ja21:LX) (ja22:TS):rh fV 0 S0 Tryz.f159 10 (uE s3 l37 i38 i39 ja0 ja1 ja2 ja3 ja4 ja5 ja6 ja7 ja8 ja9 ja10 ja11 ja12 ja13 ja14 ja15 ja16 ja17 ja18 ja19 ja20 ja21 ja22)=Tr.br (decide (i39 < i38)) (Tr.chk (zJ i39 l37.length) (Tr.chk (decide ([32,44,32,82,69,70,69,82,69,78,67,69,83,32,40,32].length+length (l37.getD i39.toNat (zj (Sh.str.pr Sh.str))).1≤1099511627776)) (Tr.chk (decide (length ([32,44,32,82,69,70,69,82,69,78,67,69,83,32,40,32]++(l37.getD i39.toNat (zj (Sh.str.pr Sh.str))).1)+[32,41,32].length≤1099511627776)) (Tr.chk (decide (length ([32,44,32,82,69,70,69,82,69,78,67,69,83,32,40,32]++(l37.getD i39.toNat (zj (Sh.str.pr Sh.str))).1++[32,41,32])+length (l37.getD i39.toNat (zj (Sh.str.pr Sh.str))).2≤1099511627776)) (Tr.chk (decide (length s3+length
 ([32,44,32,82,69,70,69,82,69,78,67,69,83,32,40,32]++(l37.getD i39.toNat (zj (Sh.str.pr Sh.str))).1++[32,41,32]++(l37.getD i39.toNat (zj (Sh.str.pr Sh.str))).2)≤1099511627776)) (Tr.ok (zp.head 10 (zw Tryz.f159 10) (uE (s3++([32,44,32,82,69,70,69,82,69,78,67,69,83,32,40,32]++(l37.getD i39.toNat (zj (Sh.str.pr Sh.str))).1++[32,41,32]++(l37.getD i39.toNat (zj (Sh.str.pr Sh.str))).2)) l37 i38 (IntKind.i64.wrap (i39+1)) ja0 ja1 ja2 ja3 ja4 ja5 ja6 ja7 ja8 ja9 ja10 ja11 ja12 ja13 ja14 ja15 ja16 ja17 ja18 ja19 ja20 ja21 ja22)))))))) (Tr.chk (jS [32,44,32] (ze.mk ja8 (ja9,ja10,ja11) ja12 ja13)) (Tr.chk (decide (length s3+length (gp [32,44,32] (ze.mk ja8 (ja9,ja10,ja11) ja12 ja13))≤1099511627776)) (Tr.chk (decide (length (s3++gp [32,44,32] (ze.mk ja8 (ja9,ja10,ja11) ja12 ja13))+[32,41].length≤1099511627776)) (Tr.ok (zp.ret (AV.str (s3++gp [32,44,32] (ze.mk ja8 (ja9,ja10,ja11) ja12 ja13)++[32,41])) []))))):=by kernel_rfl
def ck (ja0:TS) (ja1:TS) (ja2:TS) (ja3:LS) (ja4:LC) (ja5:TS) (ja6:LS) (ja7:List (Sem (Sh.str.pr Sh.str))) (ja8:zq) (ja9:Int) (ja10:Int) (ja11:zq) (ja12:zq) (ja13:LX) (ja14:LV) (ja15:List (Sem (Sh.str.pr Sh.expr))) (ja16:zq) (ja17:Int) (ja18:Int) (ja19:zq) (ja20:zq) (ja21:LX) (ja22:TS):List (Sem (Sh.str.pr Sh.str))→Int→zq→Sem Sh.str
 | [],_,s3=>(s3++gp [32,44,32] (ze.mk ja8 (ja9,ja10,ja11) ja12 ja13)++[32,41])
 | x::r,i39,s3=>(ck ja0 ja1 ja2 ja3 ja4 ja5 ja6 ja7 ja8 ja9 ja10 ja11 ja12 ja13 ja14 ja15 ja16 ja17 ja18 ja19
 ja20 ja21 ja22 r (i39+1) (s3++([32,44,32,82,69,70,69,82,69,78,67,69,83,32,40,32]++x.1++[32,41,32]++x.2)))
def cD (ja0:TS) (ja1:TS) (ja2:TS) (ja3:LS) (ja4:LC) (ja5:TS) (ja6:LS) (ja7:List (Sem (Sh.str.pr Sh.str))) (ja8:zq) (ja9:Int) (ja10:Int) (ja11:zq) (ja12:zq) (ja13:LX) (ja14:LV) (ja15:List (Sem (Sh.str.pr Sh.expr))) (ja16:zq) (ja17:Int) (ja18:Int) (ja19:zq) (ja20:zq) (ja21:LX) (ja22:TS):List (Sem (Sh.str.pr Sh.str))→Int→zq→Bool
 | [],_,s3=>(if jS [32,44,32] (ze.mk ja8 (ja9,ja10,ja11) ja12 ja13)=true then
 if decide (length s3+length (gp [32,44,32] (ze.mk ja8 (ja9,ja10,ja11) ja12 ja13))≤1099511627776)=true then
  if
    decide (length (s3++gp [32,44,32] (ze.mk ja8 (ja9,ja10,ja11) ja12 ja13))+[32,41].length≤1099511627776)=
     true then
   true
  else false
 else false
else false)
 | x::r,i39,s3=>(if decide ([32,44,32,82,69,70,69,82,69,78,67,69,83,32,40,32].length+length x.1≤1099511627776)=true then
 if decide (length ([32,44,32,82,69,70,69,82,69,78,67,69,83,32,40,32]++x.1)+[32,41,32].length≤1099511627776)=true then
  if
    decide (length ([32,44,32,82,69,70,69,82,69,78,67,69,83,32,40,32]++x.1++[32,41,32])+length x.2≤1099511627776)=
     true then
   if
     decide
       (length s3+length ([32,44,32,82,69,70,69,82,69,78,67,69,83,32,40,32]++x.1++[32,41,32]++x.2)≤
        1099511627776)=
      true then
    cD ja0 ja1 ja2 ja3 ja4 ja5 ja6 ja7 ja8 ja9 ja10 ja11 ja12 ja13 ja14 ja15 ja16 ja17
     ja18 ja19 ja20 ja21 ja22 r (i39+1)
     (s3++([32,44,32,82,69,70,69,82,69,78,67,69,83,32,40,32]++x.1++[32,41,32]++x.2))
   else false
  else false
 else false
else false)
theorem Ma {C:cd} (hC:∀ id,C.ρ0 id=none) (ja0:TS) (ja1:TS) (ja2:TS) (ja3:LS) (ja4:LC) (ja5:TS) (ja6:LS) (ja7:List (Sem (Sh.str.pr Sh.str))) (ja8:zq) (ja9:Int) (ja10:Int) (ja11:zq) (ja12:zq) (ja13:LX) (ja14:LV) (ja15:List (Sem (Sh.str.pr Sh.expr))) (ja16:zq) (ja17:Int) (ja18:Int) (ja19:zq) (ja20:zq) (ja21:LX) (ja22:TS) (l37:List (Sem (Sh.str.pr Sh.str))) (hl:l37.length≤zD):∀ (m i:Nat) (s3:zq),l37.length - i=m→i≤l37.length→cD ja0 ja1 ja2 ja3 ja4 ja5 ja6 ja7 ja8 ja9 ja10 ja11 ja12 ja13 ja14 ja15 ja16 ja17 ja18 ja19 ja20 ja21 ja22 (l37.drop i) i s3=true→
  Reach (fV) C 159 (zw Tryz.f159 10) (uE s3 l37 (l37.length:Int) (i:Int) ja0 ja1 ja2 ja3 ja4 ja5 ja6 ja7 ja8 ja9 ja10 ja11 ja12 ja13 ja14 ja15 ja16 ja17 ja18 ja19 ja20 ja21 ja22) (fun r h=>zY h [Sh.str] r=some (ck ja0 ja1 ja2 ja3 ja4 ja5 ja6 ja7 ja8 ja9 ja10 ja11 ja12 ja13 ja14 ja15 ja16 ja17 ja18 ja19 ja20 ja21 ja22 (l37.drop i) i s3,())):=by
 intro m
 induction m with
 | zero=>
  intro i s3 hm hi hc
  obtain rfl:i=l37.length:=by omega
  rw [dq] at hc ⊢
  refine zk dm (Gz) (fun id _=>hC id) (EZ _ _ _ _ _ _ _ _ _ _ _ _ _ _ _ _ _ _ _ _ _ _ _ _ _ _ _) ?_
  rw [cD] at hc
  generalize hy:ck ja0 ja1 ja2 ja3 ja4 ja5 ja6 ja7 ja8 ja9 ja10 ja11 ja12 ja13 ja14 ja15 ja16 ja17 ja18 ja19 ja20 ja21 ja22 [] _ s3=y
  rw [ck] at hy
  simp only [af,Tr.val_brF]
  repeat' (first | with_reducible refine ed hy hc (fun _ hy hc=>?_) (fun _ hy hc=>?_) | with_reducible refine aL hy (fun _ hy=>?_) (fun _ hy=>?_) | with_reducible refine aZ hc (fun hc=>?_) | with_reducible refine zn ?_)
  all_goals first | (cases hc; done) | (subst hy; first | (change Reach _ _ _ _ _ _; apply xC hC <;> first | assumption | exact hc) | rfl)
 | succ m IH=>
  intro i s3 hm hi hc
  have hlt:i < l37.length:=by omega
  have IH:=IH (i+1)
  have hcast:((i:Int)+1)=((i+1:Nat):Int):=by omega
  have hwr:=zG i (by omega)
  rw [ez hlt] at hc ⊢
  refine zk dm (Gz) (fun id _=>hC id) (EZ _ _ _ _ _ _ _ _ _ _ _ _ _ _ _ _ _ _ _ _ _ _ _ _ _ _ _) ?_
  rw [cD] at hc
  generalize hy:ck ja0 ja1 ja2 ja3 ja4 ja5 ja6 ja7 ja8 ja9 ja10 ja11 ja12 ja13 ja14 ja15 ja16 ja17 ja18 ja19 ja20 ja21 ja22 (l37[i]::l37.drop (i+1)) (i:Int) s3=y
  rw [ck] at hy
  simp only [zV hlt,zF hlt,zZ l37 _ hlt,hwr,Tr.val_brT,Tr.val_chkT]
  clear hwr
  try simp only [zF hlt] at hy
  simp only [hcast] at hy
  try simp only [zF hlt] at hc
  try simp only [hcast] at hc
  repeat' (first | with_reducible refine ed hy hc (fun _ hy hc=>?_) (fun _ hy hc=>?_) | with_reducible refine aL hy (fun _ hy=>?_) (fun _ hy=>?_) | with_reducible refine aZ hc (fun hc=>?_) | with_reducible refine zn ?_)
  all_goals first | (cases hc; done) | (subst hy; first | (change Reach _ _ _ _ _ _; apply IH <;> first | omega | assumption) | (change Reach _ _ _ _ _ _; apply xC hC <;> first | assumption | exact hc) | rfl)
theorem sb {C:cd} (hC:∀ id,C.ρ0 id=none) (ja0:TS) (ja1:TS) (ja2:TS) (ja3:LS) (ja4:LC) (ja5:TS) (ja6:LS) (ja7:List (Sem (Sh.str.pr Sh.str))) (ja8:zq) (ja9:Int) (ja10:Int) (ja11:zq) (ja12:zq) (ja13:LX) (ja14:LV) (ja15:List (Sem (Sh.str.pr Sh.expr))) (ja16:zq) (ja17:Int) (ja18:Int) (ja19:zq) (ja20:zq) (ja21:LX) (ja22:TS) (l37:List (Sem (Sh.str.pr Sh.str))) (s3:zq) (hc:cD ja0 ja1 ja2 ja3 ja4 ja5 ja6 ja7 ja8 ja9 ja10 ja11 ja12 ja13 ja14 ja15 ja16 ja17 ja18 ja19 ja20 ja21 ja22 l37 0 s3=true):
  Reach (fV) C 159 (zw Tryz.f159 10) (uE s3 l37 (l37.length:Int) 0 ja0 ja1 ja2 ja3 ja4 ja5 ja6 ja7 ja8 ja9 ja10 ja11 ja12 ja13 ja14 ja15 ja16 ja17 ja18 ja19 ja20 ja21 ja22) (fun r h=>zY h [Sh.str] r=some (ck ja0 ja1 ja2 ja3 ja4 ja5 ja6 ja7 ja8 ja9 ja10 ja11 ja12 ja13 ja14 ja15 ja16 ja17 ja18 ja19 ja20 ja21 ja22 l37 0 s3,())):=
 Reach.len 37 (Sh.str.pr Sh.str) l37 rfl fun hl=>Ma hC ja0 ja1 ja2 ja3 ja4 ja5 ja6 ja7 ja8 ja9 ja10 ja11 ja12 ja13 ja14 ja15 ja16 ja17 ja18 ja19 ja20 ja21 ja22 l37 hl _ 0 s3 rfl (be _) hc
def cU (ja0:TS) (ja1:TS) (ja2:TS) (ja3:LS) (ja4:LC) (ja5:TS) (ja6:LS) (ja7:List (Sem (Sh.str.pr Sh.str))) (ja8:zq) (ja9:Int) (ja10:Int) (ja11:zq) (ja12:zq) (ja13:LX) (ja14:LV) (ja15:List (Sem (Sh.str.pr Sh.expr))) (ja16:zq) (ja17:Int) (ja18:Int) (ja19:zq) (ja20:zq) (ja21:LX) (ja22:TS):List (Sem Sh.str)→Int→zq→Sem Sh.str
 | [],_,s3=>(ck ja0 ja1 ja2 ja3 ja4 ja5 ja6 ja7 ja8 ja9 ja10 ja11 ja12 ja13 ja14 ja15 ja16 ja17 ja18 ja19
 ja20 ja21 ja22 ja7 0 s3)
 | x::r,i26,s3=>(cU ja0 ja1 ja2 ja3 ja4 ja5 ja6 ja7 ja8 ja9 ja10 ja11 ja12 ja13 ja14 ja15 ja16 ja17 ja18 ja19
 ja20 ja21 ja22 r (i26+1) (s3++([32,44,32,85,78,73,81,85,69,32,40,32]++x++[32,41])))
def c9 (ja0:TS) (ja1:TS) (ja2:TS) (ja3:LS) (ja4:LC) (ja5:TS) (ja6:LS) (ja7:List (Sem (Sh.str.pr Sh.str))) (ja8:zq) (ja9:Int) (ja10:Int) (ja11:zq) (ja12:zq) (ja13:LX) (ja14:LV) (ja15:List (Sem (Sh.str.pr Sh.expr))) (ja16:zq) (ja17:Int) (ja18:Int) (ja19:zq) (ja20:zq) (ja21:LX) (ja22:TS):List (Sem Sh.str)→Int→zq→Bool
 | [],_,s3=>(cD ja0 ja1 ja2 ja3 ja4 ja5 ja6 ja7 ja8 ja9 ja10 ja11 ja12 ja13 ja14 ja15 ja16 ja17 ja18
 ja19 ja20 ja21 ja22 ja7 0 s3)
 | x::r,i26,s3=>(if decide ([32,44,32,85,78,73,81,85,69,32,40,32].length+length x≤1099511627776)=true then
 if decide (length ([32,44,32,85,78,73,81,85,69,32,40,32]++x)+[32,41].length≤1099511627776)=true then
  if decide (length s3+length ([32,44,32,85,78,73,81,85,69,32,40,32]++x++[32,41])≤1099511627776)=true then
   c9 ja0 ja1 ja2 ja3 ja4 ja5 ja6 ja7 ja8 ja9 ja10 ja11 ja12 ja13 ja14 ja15 ja16 ja17 ja18
    ja19 ja20 ja21 ja22 r (i26+1) (s3++([32,44,32,85,78,73,81,85,69,32,40,32]++x++[32,41]))
  else false
 else false
else false)
theorem RI {C:cd} (hC:∀ id,C.ρ0 id=none) (ja0:TS) (ja1:TS) (ja2:TS) (ja3:LS) (ja4:LC) (ja5:TS) (ja6:LS) (ja7:List (Sem (Sh.str.pr Sh.str))) (ja8:zq) (ja9:Int) (ja10:Int) (ja11:zq) (ja12:zq) (ja13:LX) (ja14:LV) (ja15:List (Sem (Sh.str.pr Sh.expr))) (ja16:zq) (ja17:Int) (ja18:Int) (ja19:zq) (ja20:zq) (ja21:LX) (ja22:TS) (l24:LS) (hl:l24.length≤zD):∀ (m i:Nat) (s3:zq),l24.length - i=m→i≤l24.length→c9 ja0 ja1 ja2 ja3 ja4 ja5 ja6 ja7 ja8 ja9 ja10 ja11 ja12 ja13 ja14 ja15 ja16 ja17 ja18 ja19 ja20 ja21 ja22 (l24.drop i) i s3=true→
  Reach (fV) C 159 (zw Tryz.f159 5) (BX s3 l24 (l24.length:Int) (i:Int) ja0 ja1 ja2 ja3 ja4 ja5 ja6 ja7 ja8 ja9 ja10 ja11 ja12 ja13 ja14 ja15 ja16 ja17 ja18 ja19 ja20 ja21 ja22) (fun r h=>zY h [Sh.str] r=some (cU ja0 ja1 ja2 ja3 ja4 ja5 ja6 ja7 ja8 ja9 ja10 ja11 ja12 ja13 ja14 ja15 ja16 ja17 ja18 ja19 ja20 ja21 ja22 (l24.drop i) i s3,())):=by
 intro m
 induction m with
 | zero=>
  intro i s3 hm hi hc
  obtain rfl:i=l24.length:=by omega
  rw [dq] at hc ⊢
  refine zk dm (Gz) (fun id _=>hC id) (JP _ _ _ _ _ _ _ _ _ _ _ _ _ _ _ _ _ _ _ _ _ _ _ _ _ _ _) ?_
  rw [c9] at hc
  generalize hy:cU ja0 ja1 ja2 ja3 ja4 ja5 ja6 ja7 ja8 ja9 ja10 ja11 ja12 ja13 ja14 ja15 ja16 ja17 ja18 ja19 ja20 ja21 ja22 [] _ s3=y
  rw [cU] at hy
  simp only [af,Tr.val_brF]
  repeat' (first | with_reducible refine ed hy hc (fun _ hy hc=>?_) (fun _ hy hc=>?_) | with_reducible refine aL hy (fun _ hy=>?_) (fun _ hy=>?_) | with_reducible refine aZ hc (fun hc=>?_) | with_reducible refine zn ?_)
  all_goals first | (cases hc; done) | (subst hy; first | (change Reach _ _ _ _ _ _; apply sb hC <;> first | assumption | exact hc) | rfl)
 | succ m IH=>
  intro i s3 hm hi hc
  have hlt:i < l24.length:=by omega
  have IH:=IH (i+1)
  have hcast:((i:Int)+1)=((i+1:Nat):Int):=by omega
  have hwr:=zG i (by omega)
  rw [ez hlt] at hc ⊢
  refine zk dm (Gz) (fun id _=>hC id) (JP _ _ _ _ _ _ _ _ _ _ _ _ _ _ _ _ _ _ _ _ _ _ _ _ _ _ _) ?_
  rw [c9] at hc
  generalize hy:cU ja0 ja1 ja2 ja3 ja4 ja5 ja6 ja7 ja8 ja9 ja10 ja11 ja12 ja13 ja14 ja15 ja16 ja17 ja18 ja19 ja20 ja21 ja22 (l24[i]::l24.drop (i+1)) (i:Int) s3=y
  rw [cU] at hy
  simp only [zV hlt,zF hlt,zZ l24 _ hlt,hwr,Tr.val_brT,Tr.val_chkT]
  clear hwr
  try simp only [zF hlt] at hy
  simp only [hcast] at hy
  try simp only [zF hlt] at hc
  try simp only [hcast] at hc
  repeat' (first | with_reducible refine ed hy hc (fun _ hy hc=>?_) (fun _ hy hc=>?_) | with_reducible refine aL hy (fun _ hy=>?_) (fun _ hy=>?_) | with_reducible refine aZ hc (fun hc=>?_) | with_reducible refine zn ?_)
  all_goals first | (cases hc; done) | (subst hy; first | (change Reach _ _ _ _ _ _; apply IH <;> first | omega | assumption) | (change Reach _ _ _ _ _ _; apply sb hC <;> first | assumption | exact hc) | rfl)
theorem xC {C:cd} (hC:∀ id,C.ρ0 id=none) (ja0:TS) (ja1:TS) (ja2:TS) (ja3:LS) (ja4:LC) (ja5:TS) (ja6:LS) (ja7:List (Sem (Sh.str.pr Sh.str))) (ja8:zq) (ja9:Int) (ja10:Int) (ja11:zq) (ja12:zq) (ja13:LX) (ja14:LV) (ja15:List (Sem (Sh.str.pr Sh.expr))) (ja16:zq) (ja17:Int) (ja18:Int) (ja19:zq) (ja20:zq) (ja21:LX) (ja22:TS) (l24:LS) (s3:zq) (hc:c9 ja0 ja1 ja2 ja3 ja4 ja5 ja6 ja7 ja8 ja9 ja10 ja11 ja12 ja13 ja14 ja15 ja16 ja17 ja18 ja19 ja20 ja21 ja22 l24 0 s3=true):
  Reach (fV) C 159 (zw Tryz.f159 5) (BX s3 l24 (l24.length:Int) 0 ja0 ja1 ja2 ja3 ja4 ja5 ja6 ja7 ja8 ja9 ja10 ja11 ja12 ja13 ja14 ja15 ja16 ja17 ja18 ja19 ja20 ja21 ja22) (fun r h=>zY h [Sh.str] r=some (cU ja0 ja1 ja2 ja3 ja4 ja5 ja6 ja7 ja8 ja9 ja10 ja11 ja12 ja13 ja14 ja15 ja16 ja17 ja18 ja19 ja20 ja21 ja22 l24 0 s3,())):=
 Reach.len 24 (Sh.str) l24 rfl fun hl=>RI hC ja0 ja1 ja2 ja3 ja4 ja5 ja6 ja7 ja8 ja9 ja10 ja11 ja12 ja13 ja14 ja15 ja16 ja17 ja18 ja19 ja20 ja21 ja22 l24 hl _ 0 s3 rfl (be _) hc
def lO (x0:Sem zx):Sem Sh.str:=(cU x0.1 x0.2.1 x0.2.2.1 x0.2.2.2.1 x0.2.2.2.2.1 x0.2.2.2.2.2.1 x0.2.2.2.2.2.2.1 x0.2.2.2.2.2.2.2.1 (ze.op x0.2.2.2.2.2.2.2.2.1) (ze.v x0.2.2.2.2.2.2.2.2.1).1 (ze.v x0.2.2.2.2.2.2.2.2.1).2.1 (ze.v x0.2.2.2.2.2.2.2.2.1).2.2 (ze.s x0.2.2.2.2.2.2.2.2.1) (ze.l x0.2.2.2.2.2.2.2.2.1) x0.2.2.2.2.2.2.2.2.2.1 x0.2.2.2.2.2.2.2.2.2.2.1 (ze.op x0.2.2.2.2.2.2.2.2.2.2.2.1) (ze.v x0.2.2.2.2.2.2.2.2.2.2.2.1).1 (ze.v x0.2.2.2.2.2.2.2.2.2.2.2.1).2.1 (ze.v x0.2.2.2.2.2.2.2.2.2.2.2.1).2.2 (ze.s x0.2.2.2.2.2.2.2.2.2.2.2.1) (ze.l x0.2.2.2.2.2.2.2.2.2.2.2.1) x0.2.2.2.2.2.2.2.2.2.2.2.2 x0.2.2.2.2.2.2.1 0 ([67,82,69,65,84,69,32,84,65,66,76,69,32]++x0.2.1++[32,40,32]++cT x0.2.2.2.2.1++([32,44,32,75,69,89,32,40,32]++x0.2.2.2.2.2.1++[32,41])))
def kY (x0:Sem zx):Bool:=(if decide ([67,82,69,65,84,69,32,84,65,66,76,69,32].length+length x0.2.1≤1099511627776)=true then if decide (length ([67,82,69,65,84,69,32,84,65,66,76,69,32]++x0.2.1)+[32,40,32].length≤1099511627776)=true then if gV x0.2.2.2.2.1=true then if decide (length ([67,82,69,65,84,69,32,84,65,66,76,69,32]++x0.2.1++[32,40,32])+length (cT x0.2.2.2.2.1)≤1099511627776)=true then if decide ([32,44,32,75,69,89,32,40,32].length+length x0.2.2.2.2.2.1≤1099511627776)=true then if decide (length ([32,44,32,75,69,89,32,40,32]++x0.2.2.2.2.2.1)+[32,41].length≤1099511627776)=true then if decide (length ([67,82,69,65,84,69,32,84,65,66,76,69,32]++x0.2.1++[32,40,32]++cT x0.2.2.2.2.1)+length ([32,44,32,75,69,89,32,40,32]++x0.2.2.2.2.2.1++[32,41])≤1099511627776)=true then c9 x0.1 x0.2.1 x0.2.2.1 x0.2.2.2.1 x0.2.2.2.2.1 x0.2.2.2.2.2.1 x0.2.2.2.2.2.2.1 x0.2.2.2.2.2.2.2.1 (ze.op x0.2.2.2.2.2.2.2.2.1) (ze.v x0.2.2.2.2.2.2.2.2.1).1 (ze.v x0.2.2.2.2.2.2.2.2.1).2.1 (ze.v x0.2.2.2.2.2.2.2.2.1).2.2 (ze.s x0.2.2.2.2.2.2.2.2.1) (ze.l x0.2.2.2.2.2.2.2.2.1) x0.2.2.2.2.2.2.2.2.2.1 x0.2.2.2.2.2.2.2.2.2.2.1 (ze.op x0.2.2.2.2.2.2.2.2.2.2.2.1) (ze.v x0.2.2.2.2.2.2.2.2.2.2.2.1).1 (ze.v x0.2.2.2.2.2.2.2.2.2.2.2.1).2.1
 (ze.v x0.2.2.2.2.2.2.2.2.2.2.2.1).2.2 (ze.s x0.2.2.2.2.2.2.2.2.2.2.2.1) (ze.l x0.2.2.2.2.2.2.2.2.2.2.2.1) x0.2.2.2.2.2.2.2.2.2.2.2.2 x0.2.2.2.2.2.2.1 0 ([67,82,69,65,84,69,32,84,65,66,76,69,32]++x0.2.1++[32,40,32]++cT x0.2.2.2.2.1++([32,44,32,75,69,89,32,40,32]++x0.2.2.2.2.2.1++[32,41])) else false else false else false else false else false else false else false)
def F90:zB:=zA [zx] [Sh.str] (fun x=>kY x.1) fun x=>(lO x.1,())
theorem W2:FK 159 F90:=by
 refine zM (Gz) fun x hc C hC=>?_
 unfold kY at hc
 refine zk dm (Gz) (fun id _=>hC id) (zcz x.1) ?_
 generalize hy:lO x.1=y
 unfold lO at hy
 try simp only [ze.eta,zt]
 repeat' (first | with_reducible refine ed hy hc (fun _ hy hc=>?_) (fun _ hy hc=>?_) | with_reducible refine aL hy (fun _ hy=>?_) (fun _ hy=>?_) | with_reducible refine aZ hc (fun hc=>?_) | with_reducible refine zn ?_)
 all_goals first | (cases hc; done) | (subst hy; first | (change Reach _ _ _ _ _ _; apply xC hC <;> first | assumption | exact hc) | (change Reach _ _ _ _ _ _; apply sb hC <;> first | assumption | exact hc) | rfl)

noncomputable def wo:=fV.addL [(150,F81),(164,F95),(159,F90)]
theorem ph:zm wo:=dm.addL <| fc WS <| fc W7 <| fc W2 g6
open Go

inductive CP where
 | d (s:Sh)
 | nil
 | vec (e:Sh)

@[reducible] def zr:List CP→Type
 | []=>Unit
 | .d s::r=>Sem s×zr r
 | .nil::r=>zr r
 | .vec e::r=>List (Sem e)×zr r

def eR:(n:Nat)→(ps:List CP)→zr ps→List AV
 | _,[],_=>[]
 | n,.d s::r,y=>zl s y.1++eR n r y.2
 | n,.nil::r,y=>.nils::eR n r y
 | n,.vec _::r,y=>.vec n::eR (n+1) r y.2

def eS:(ps:List CP)→zr ps→List AO
 | [],_=>[]
 | .d _::r,y=>eS r y.2
 | .nil::r,y=>eS r y
 | .vec e::r,y=>.vec e y.1::eS r y.2

def bE (ps:List CP) (y:zr ps):List AO:=.box (eR 1 ps y)::eS ps y

def au:List CP→Nat
 | []=>0
 | .vec _::r=>au r+1
 | _::r=>au r

theorem bf:∀ (ps:List CP) (y:zr ps),(eS ps y).length=au ps
 | [],_=>rfl
 | .d _::r,y=>bf r y.2
 | .nil::r,y=>bf r y
 | .vec _::r,y=>congrArg (· + 1) (bf r y.2)

def bT (hp:Nat→AO):(n:Nat)→(ps:List CP)→List AV→Option (zr ps)
 | _,[],[]=>some ()
 | n,.d s::r,cs=>match bM (fun _=>.dead) s cs with
  | some (x,cs')=>match bT hp n r cs' with
   | some y=>some (x,y)
   | none=>none
  | none=>none
 | n,.nil::r,.nils::cs=>bT hp n r cs
 | n,.vec e::r,.vec id::cs=>if id=n then match hp id with
   | .vec e' l=>if h:e'=e then match bT hp (n+1) r cs with
     | some y=>some (h▸l,y)
     | none=>none
    else none
   | _=>none
  else none
 | _,_,_=>none

section
variable {w:World} {U:Nat→Prop} {ρ:Nat→Option Value}

theorem ce.app {a b:List AV} {va vb:List Value} (h1:ce w U ρ a va) (h2:ce w U ρ b vb):ce w U ρ (a++b) (va++vb) where
 len:=by simp [h1.len,h2.len]
 rv:=by
  intro j c v hc hv
  by_cases hj:j < a.length
  ·rw [iw hj] at hc
   rw [iw (by rw [← h1.len]; exact hj)] at hv
   exact h1.rv j c v hc hv
  ·rw [jg (by omega)] at hc
   rw [jg (by rw [← h1.len]; omega),← h1.len] at hv
   exact h2.rv _ c v hc hv

theorem ce.tail {a:AV} {l:List AV} {v:Value} {vs:List Value} (h:ce w U ρ (a::l) (v::vs)):ce w U ρ l vs:=
 ⟨by have:=h.len; simpa using this,fun j c x hc hx=>h.rv (j+1) c x (by simpa using hc) (by simpa using hx)⟩

theorem ce.consH {a:AV} {l:List AV} {v:Value} {vs:List Value} (h1:Rv w U ρ a v) (h2:ce w U ρ l vs):ce w U ρ (a::l) (v::vs) where
 len:=by simp [h2.len]
 rv:=by
  intro j c x hc hx
  cases j with
  | zero=>simp at hc hx; subst hc; subst hx; exact h1
  | succ j=>exact h2.rv j c x (by simpa using hc) (by simpa using hx)

theorem dE {hp:Nat→AO}:∀ (ps:List CP) (n:Nat) (cs:List AV) (y:zr ps) (vals:List Value),bT hp n ps cs=some y→ce w U ρ cs vals→
  ce w U ρ (eR n ps y) vals∧∀ (j:Nat) o,(eS ps y)[j]?=some o→hp (n+j)=o
 | [],n,[],y,vals,h,hr=>⟨hr,by simp [eS]⟩
 | [],n,_::_,y,vals,h,hr=>by simp [bT] at h
 | .d s::r,n,cs,y,vals,h,hr=>by
  unfold bT at h
  split at h
  ·rename_i x cs' hi
   split at h
   ·rename_i y' hy
    cases h
    have hk:=fH (w:=w) (U:=U) (U':=U) (ρ:=ρ) (hp:=fun _=>.dead) (fun _ h=>h) s cs x cs' (fun j=>vals.getD j undef) hi
     (fun j c hc=>by
      have hlt:j < vals.length:=by rw [← hr.len]; exact (bD.1 hc).1
      have:=hr.rv j c vals[j] hc (zI hlt)
      simpa [getD,zI hlt] using this)
     (fun id _=>⟨trivial,fun b hb=>by simp [zN,AO.owns] at hb⟩)
    obtain ⟨k1,k2,k3⟩:=hk
    have hdrop:ce w U ρ cs' (vals.drop s.size):=by
     refine ⟨by rw [k2]; simp [hr.len],fun j c v hc hv=>?_⟩
     rw [k2,kU] at hc
     rw [kU] at hv
     exact hr.rv _ c v hc hv
    obtain ⟨i1,i2⟩:=dE r n cs' y' (vals.drop s.size) hy hdrop
    refine ⟨?_,i2⟩
    have htake:ce w U ρ (zl s x) (vals.take s.size):=by
     refine ⟨by rw [zL]; have:=hr.len; simp; omega,fun j c v hc hv=>?_⟩
     have hj:j < s.size:=by rw [← zL s x]; exact (bD.1 hc).1
     rw [vZ,if_pos hj] at hv
     have:=k3 j c hc
     simpa [getD,hv] using this
    have:=htake.app i1
    rw [List.take_append_drop] at this
    exact this
   ·cases h
  ·cases h
 | .nil::r,n,.nils::cs,y,vals,h,hr=>by
  match vals,hr with
  | [],hr=>have:=hr.len; simp at this
  | v::vs,hr=>
   have hv:=hr.rv 0 _ v rfl rfl
   obtain ⟨i1,i2⟩:=dE r n cs y vs h hr.tail
   exact ⟨ce.consH hv i1,i2⟩
 | .vec e::r,n,.vec id::cs,y,vals,h,hr=>by
  match vals,hr with
  | [],hr=>have:=hr.len; simp at this
  | v :: vs,hr=>
   have hv:=hr.rv 0 _ v rfl rfl
   unfold bT at h
   split at h
   ·rename_i hid
    subst hid
    split at h
    ·rename_i e' l ho
     split at h
     ·rename_i he
      subst he
      split at h
      ·rename_i y' hy
       cases h
       obtain ⟨i1,i2⟩:=dE r (id+1) cs y' vs hy hr.tail
       refine ⟨ce.consH hv i1,fun j o hj=>?_⟩
       cases j with
       | zero=>simp [eS] at hj; subst hj; exact ho
       | succ j=>
        have:=i2 j o (by simpa [eS] using hj)
        rw [← this]
        congr 1
        omega
      ·cases h
     ·cases h
    ·cases h
   ·cases h
 | .nil::_,_,[],_,_,h,_=>by simp [bT] at h
 | .vec _::_,_,[],_,_,h,_=>by simp [bT] at h
 | .nil::_,_,.any::_,_,_,h,_ | .nil::_,_,.kb _::_,_,_,h,_ | .nil::_,_,.bool _::_,_,_,h,_ | .nil::_,_,.int _ _::_,_,_,h,_ | .nil::_,_,.str _::_,_,_,h,_
 | .nil::_,_,.sl _ _::_,_,_,h,_ | .nil::_,_,.vec _::_,_,_,h,_ | .nil::_,_,.ptr _ _::_,_,_,h,_ | .nil::_,_,.vptr _ _ _ _::_,_,_,h,_ | .nil::_,_,.eptr _ _::_,_,_,h,_
 | .nil::_,_,.nilp::_,_,_,h,_ | .nil::_,_,.agg _::_,_,_,h,_ | .nil::_,_,.tup _::_,_,_,h,_ | .nil::_,_,.clo _ _ _::_,_,_,h,_ | .nil::_,_,.nilf::_,_,_,h,_
 | .nil::_,_,.mp _::_,_,_,h,_ | .nil::_,_,.ifc _::_,_,_,h,_ | .nil::_,_,.tab _ _::_,_,_,h,_ | .nil::_,_,.gint::_,_,_,h,_ | .nil::_,_,.vsuf _ _ _::_,_,_,h,_=>by simp [bT] at h
 | .vec _::_,_,.any::_,_,_,h,_ | .vec _::_,_,.kb _::_,_,_,h,_ | .vec _::_,_,.bool _::_,_,_,h,_ | .vec _::_,_,.int _ _::_,_,_,h,_ | .vec _::_,_,.str _::_,_,_,h,_
 | .vec _::_,_,.sl _ _::_,_,_,h,_ | .vec _::_,_,.nils::_,_,_,h,_ | .vec _::_,_,.ptr _ _::_,_,_,h,_ | .vec _::_,_,.vptr _ _ _ _::_,_,_,h,_ | .vec _::_,_,.eptr _ _::_,_,_,h,_
 | .vec _::_,_,.nilp::_,_,_,h,_ | .vec _::_,_,.agg _::_,_,_,h,_ | .vec _::_,_,.tup _::_,_,_,h,_ | .vec _::_,_,.clo _ _ _::_,_,_,h,_ | .vec _::_,_,.nilf::_,_,_,h,_
 | .vec _::_,_,.mp _::_,_,_,h,_ | .vec _::_,_,.ifc _::_,_,_,h,_ | .vec _::_,_,.tab _ _::_,_,_,h,_ | .vec _::_,_,.gint::_,_,_,h,_ | .vec _::_,_,.vsuf _ _ _::_,_,_,h,_=>by simp [bT] at h
end

theorem fQ.box {C:cd} {w:World} {U:Nat→Prop} {ρ:Nat→Option Value} {cs:List AV} {os:List AO} {ps:List CP} {y:zr ps} (hH:fQ C w U ρ (fun j=>((AO.box cs::os).getD j .dead))) (hl:os.length=au ps)
  (hm:bT (gG (.box cs::os)) 1 ps cs=some y):fQ C w U ρ (fun j=>(bE ps y).getD j .dead):=by
 have h0:aV w U ρ 0 (.box cs):=hH.ob 0
 obtain ⟨b,T,vals,h1,h2,h3,h4,h5⟩:=h0
 obtain ⟨k1,k2⟩:=dE ps 1 cs y vals.toList hm h4
 have hobj:∀ id,id≠0→(bE ps y).getD id .dead=(AO.box cs::os).getD id .dead:=by
  intro id hid
  obtain ⟨j,rfl⟩:∃ j,id=j+1:=⟨id - 1,by omega⟩
  by_cases hj:j < (eS ps y).length
  ·have:=k2 j _ (zI hj)
   unfold bE
   simp only [vY]
   rw [aB,zI hj]
   simp only [gG,pZ 1 j,vY] at this
   simpa using this.symm
  ·have h7:os.length≤j:=by rw [bf] at hj; omega
   unfold bE
   simp only [vY]
   rw [aB,aB,cz (by omega),cz h7]
 have hown:∀ id b,zN ρ id ((bE ps y).getD id .dead) b→zN ρ id ((AO.box cs::os).getD id .dead) b:=by
  intro id b' ho
  by_cases hid:id=0
  ·subst hid
   obtain ⟨_,v,hv,hb⟩:=ho
   exact ⟨rfl,v,hv,hb⟩
  ·rw [hobj id hid] at ho; exact ho
 refine ⟨fun id=>?_,fun id1 id2 b' o1 o2=>hH.inj id1 id2 b' (hown _ _ o1) (hown _ _ o2),fun id b' o=>hH.blk id b' (hown _ _ o)⟩
 by_cases hid:id=0
 ·subst hid
  exact ⟨b,T,vals,h1,h2,h3,k1,h5⟩
 ·show aV w U ρ id ((bE ps y).getD id .dead)
  rw [hobj id hid]
  exact hH.ob id

def xF (ps:List CP) (outs:List Sh) (r:AV) (h:List AO):Option (zu (outs.map some)×zr ps):=match h with
 | .box cs::os=>if os.length=au ps then match zY [] outs r,bT (gG (.box cs::os)) 1 ps cs with
   | some a,some y=>some (a,y)
   | _,_=>none
  else none
 | _=>none

def XC (ps:List CP) (ks outs:List Sh) (ps':List CP) (c:zr ps→zu (ks.map some)→Bool) (g:zr ps→zu (ks.map some)→zu (outs.map some)×zr ps'):cg (none::ks.map some):=fun x h=>match x.1,h with
 | .ptr 0 0,.box cs::os=>if os.length=au ps then match bT (gG (.box cs::os)) 1 ps cs with
   | some y=>.chk (c y x.2) (.ok (qA outs (g y x.2).1,bE ps' (g y x.2).2))
   | none=>.err
  else .err
 | _,_=>.err

def vn (ps:List CP) (ks outs:List Sh) (ps':List CP) (c:zr ps→zu (ks.map some)→Bool) (g:zr ps→zu (ks.map some)→zu (outs.map some)×zr ps'):zB:=zP (none::ks.map some) (XC ps ks outs ps' c g)

theorem mE (ps:List CP) (y:zr ps):(bE ps y).length=au ps+1:=by
 simp [bE,bf]

theorem xi {w:World} {U:Nat→Prop} {ρ:Nat→Option Value} {outs:List Sh} {r:AV} {y:zu (outs.map some)} {v:Value} (h:zY [] outs r=some y) (hr:Rv w U ρ r v):Rv w U ρ (qA outs y) v:=by
 have hob:∀ id,aV w U ρ id (gG [] id)∧∀ b,zN ρ id (gG [] id) b→¬ U b:=fun id=>⟨by simp [gG,aV],fun b hb=>by simp [gG,zN,AO.owns] at hb⟩
 have htup:∀ (outs:List Sh) (y:zu (outs.map some)) (rs:List AV),iH (gG []) (fun i=>i) (outs.map some) rs=some y→Rv w U ρ (.tup rs) v→Rv w U ρ (.tup (fv (outs.map some) y)) v:=by
  intro outs y rs hy hrv
  cases hrv with
  | tup _ vs hl hr2=>
  have:=(f6 (w:=w) (U:=U) (ρ:=ρ) (U':=U) (ρ':=ρ) (hp:=gG []) (f:=fun i=>i) (fun b hb=>hb) (outs.map some) rs vs _ (lw outs rs y hy) ⟨hl,hr2⟩ (fun id _=>hob id)
   (fun id _=>rfl)).1
  simp only [nD,pX,zR,if_false,List.map_id'] at this
  exact .tup _ vs this.len this.rv
 match outs,y,h with
 | [s],y,h=>
  simp only [zY] at h
  split at h
  ·rename_i x hx
   cases h
   exact sy hx hr (fun b hb=>hb) (fun id _=>hob id)
  ·cases h
 | [],y,h=>
  simp only [zY] at h
  cases r with
  | tup rs=>exact htup [] y _ h hr
  | _=>cases h
 | s1::s2::ss,y,h=>
  simp only [zY] at h
  cases r with
  | tup rs=>exact htup _ y _ h hr
  | _=>cases h

theorem LW {P:Program} {gl:Nat→AV} {E:bb} {k:FuncId} {f:Func} {ps:List CP} {ks outs:List Sh} {ps':List CP} {c:zr ps→zu (ks.map some)→Bool} {g:zr ps→zu (ks.map some)→zu (outs.map some)×zr ps'} (hf:zz E.P k f (ks.length+1))
  (h:∀ y x,c y x=true→∀ C:cd,(∀ id,au ps+1≤id→C.ρ0 id=none)→Reach E C k (ao f) (zU f.ntmps (.ptr 0 0::fv (ks.map some) x) (bE ps y)) (fun r h=>xF ps' outs r h=some (g y x))) (qp:E.P=P:=by rfl) (qg:E.gl=gl:=by rfl):
  kJ P gl k (vn ps ks outs ps' c g):=by
 subst qp qg
 refine bc (by simpa using hf) fun x h0 res hx C hC=>?_
 obtain ⟨x0,x⟩:=x
 unfold XC at hx
 simp only at hx
 split at hx
 ·rename_i cs os
  split at hx
  ·rename_i hos
   split at hx
   ·rename_i y hy
    simp only [Tr.val] at hx
    split at hx
    ·rename_i hc
     simp only [ae] at hx
     subst hx
     have hR:=h y x hc C (fun id hid=>hC id (by simpa [hos] using hid))
     intro b cs' a w U ρ h1 h2 hcn hW
     have hH:fQ C w U ρ (fun j=>((AO.box cs::os).getD j .dead)):=hcn.hp
     have hcn':Cn C (zU f.ntmps (.ptr 0 0::fv (ks.map some) x) (bE ps y)) a w U ρ:=
      ⟨hcn.tm,hH.box hos hy,fun id hid=>hcn.new id (by have hid:(bE ps y).length≤id:=hid; rw [mE] at hid; simpa [zU,hos] using hid),hcn.df,hcn.r0⟩
     obtain ⟨e,w',fr,⟨v,r,h',U',ρ',he,hq,hrv,hH',hnew,hr0,hWd⟩,hcm,hf',hl⟩:=hR b cs' a w U ρ h1 h2 hcn' hW
     unfold xF at hq
     split at hq
     ·rename_i cs2 os2
      split at hq
      ·rename_i hos2
       split at hq
       ·rename_i a' y' ha' hy'
        simp only [ae] at hq
        refine ⟨e,w',fr,⟨v,_,_,U',ρ',he,by rw [← hq],xi ha' hrv,hH'.box hos2 hy',fun id hid=>hnew id (by rw [mE] at hid; simpa [hos2] using hid),hr0,hWd⟩,hcm,hf',hl⟩
       ·cases hq
      ·cases hq
     ·cases hq
    ·simp at hx
   ·simp at hx
  ·simp at hx
 ·simp at hx


def n5 (E:bb) (n0:Nat) (keep:Nat→zT) (f:Func) (gas:Nat):Nat→List Item→St→Option (AV×List AO)
 | 0,_,_=>none
 | n+1,K,st=>match (run E n0 keep f.results.toList gas K st).val with
  | some (.ret v h)=>some (v,h)
  | some (.head _ K' st')=>n5 E n0 keep f gas n K' st'
  | _=>none

theorem js {E:bb} {C:cd} {k:FuncId} {f:Func} {Q:AV→List AO→Prop} {m n0:Nat} (hE:zm E) (hf:zz E.P k f m) (hC:∀ id,n0≤id→C.ρ0 id=none) {keep:Nat→zT} {gas:Nat}:
  ∀ (n:Nat) (K:List Item) (st:St) (r:AV×List AO),n5 E n0 keep f gas n K st=some r→Q r.1 r.2→Reach E C k K st Q
 | 0,_,_,_,h,_=>by cases h
 | n+1,K,st,r,h,hQ=>by
  unfold n5 at h
  split at h
  ·rename_i v h' hv
   cases h
   exact mi hE hf hC hv hQ
  ·rename_i j K' st' hv
   exact mi hE hf hC hv (js hE hf hC n K' st' r h hQ)
  ·cases h

def bK:(outs:List Sh)→zu (outs.map some)
 | []=>()
 | s::r=>(zj s,bK r)

def eT:(ps:List CP)→zr ps
 | []=>()
 | .d s::r=>(zj s,eT r)
 | .nil::r=>eT r
 | .vec _::r=>([],eT r)

def bu:List Nat→(ps:List CP)→zr ps→List AV
 | _,[],_=>[]
 | n,.d s::r,y=>zl s y.1++bu n r y.2
 | n,.nil::r,y=>.nils::bu n r y
 | n,.vec _::r,y=>.vec (n.headD 0)::bu n.tail r y.2

def Pf (E:bb) (keep:Nat→zT) (f:Func) (gas n:Nat) (ks outs:List Sh) (x:zu (ks.map some)):Option (zu (outs.map some)):=
 (n5 E 0 keep f gas n (ao f) (zU f.ntmps (fv (ks.map some) x) [])).bind fun r=>zY r.2 outs r.1

def TM (ks outs:List Sh) (g:zu (ks.map some)→Option (zu (outs.map some))):zB:=zA ks outs (fun x=>(g x).isSome) fun x=>(g x).getD (bK outs)

theorem Ru {P:Program} {gl:Nat→AV} {E:bb} {k:FuncId} {f:Func} {ks outs:List Sh} {keep:Nat→zT} {gas n:Nat} (hE:zm E) (hf:zz E.P k f ks.length) (qp:E.P=P:=by rfl) (qg:E.gl=gl:=by rfl):kJ P gl k (TM ks outs (Pf E keep f gas n ks outs)):=by
 subst qp qg
 refine zM hf fun x hc C hC=>?_
 rw [Option.isSome_iff_exists] at hc
 obtain ⟨y,hy⟩:=hc
 rw [hy]
 unfold Pf at hy
 rw [dT] at hy
 obtain ⟨r,h1,h2⟩:=hy
 exact js hE hf (fun id _=>hC id) n _ _ r h1 h2

def Pe (E:bb) (keep:Nat→zT) (f:Func) (gas n:Nat) (ps:List CP) (ks outs:List Sh) (ps':List CP) (y:zr ps) (x:zu (ks.map some)):Option (zu (outs.map some)×zr ps'):=
 (n5 E (au ps+1) keep f gas n (ao f) (zU f.ntmps (.ptr 0 0::fv (ks.map some) x) (bE ps y))).bind fun r=>xF ps' outs r.1 r.2

def zbp (ps:List CP) (ks outs:List Sh) (ps':List CP) (g:zr ps→zu (ks.map some)→Option (zu (outs.map some)×zr ps')):zB:=
 vn ps ks outs ps' (fun y x=>(g y x).isSome) fun y x=>(g y x).getD (bK outs,eT ps')

theorem LY {P:Program} {gl:Nat→AV} {E:bb} {k:FuncId} {f:Func} {ps:List CP} {ks outs:List Sh} {ps':List CP} {keep:Nat→zT} {gas n:Nat} (hE:zm E) (hf:zz E.P k f (ks.length+1)) (qp:E.P=P:=by rfl) (qg:E.gl=gl:=by rfl):kJ P gl k (zbp ps ks outs ps' (Pe E keep f gas n ps ks outs ps')):=by
 subst qp qg
 refine LW hf fun y x hc C hC=>?_
 rw [Option.isSome_iff_exists] at hc
 obtain ⟨z,hz⟩:=hc
 rw [hz]
 unfold Pe at hz
 rw [dT] at hz
 obtain ⟨r,h1,h2⟩:=hz
 exact js hE hf hC n _ _ r h1 h2

theorem LZ {P:Program} {gl:Nat→AV} {E:bb} {k:FuncId} {f:Func} {ks outs:List Sh} {keep:Nat→zT} {gas n:Nat} {c:zu (ks.map some)→Bool} {g:zu (ks.map some)→zu (outs.map some)} (hE:zm E) (hf:zz E.P k f ks.length)
  (hc:∀ x,c x=(Pf E keep f gas n ks outs x).isSome) (hg:∀ x,g x=(Pf E keep f gas n ks outs x).getD (bK outs)) (qp:E.P=P:=by rfl) (qg:E.gl=gl:=by rfl):kJ P gl k (zA ks outs c g):=by
 subst qp qg
 obtain rfl:c=fun x=>(Pf E keep f gas n ks outs x).isSome:=funext hc
 obtain rfl:g=fun x=>(Pf E keep f gas n ks outs x).getD (bK outs):=funext hg
 exact Ru hE hf

theorem Hn {P:Program} {gl:Nat→AV} {E:bb} {k:FuncId} {f:Func} {ps:List CP} {ks outs:List Sh} {ps':List CP} {keep:Nat→zT} {gas n:Nat} {c:zr ps→zu (ks.map some)→Bool} {g:zr ps→zu (ks.map some)→zu (outs.map some)×zr ps'} (hE:zm E) (hf:zz E.P k f (ks.length+1))
  (hc:∀ y x,c y x=(Pe E keep f gas n ps ks outs ps' y x).isSome) (hg:∀ y x,g y x=(Pe E keep f gas n ps ks outs ps' y x).getD (bK outs,eT ps')) (qp:E.P=P:=by rfl) (qg:E.gl=gl:=by rfl):kJ P gl k (vn ps ks outs ps' c g):=by
 subst qp qg
 obtain rfl:c=fun y x=>(Pe E keep f gas n ps ks outs ps' y x).isSome:=funext fun y=>funext fun x=>hc y x
 obtain rfl:g=fun y x=>(Pe E keep f gas n ps ks outs ps' y x).getD (bK outs,eT ps'):=funext fun y=>funext fun x=>hg y x
 exact LY hE hf

abbrev ag:=AV×List AO

def Tr.map {α β:Type} (f:α→β):Tr α→Tr β
 | .err=>.err
 | .chk c t=>.chk c (t.map f)
 | .br c t e=>.br c (t.map f) (e.map f)
 | .ok a=>.ok (f a)

theorem Tr.val_map {α β:Type} (f:α→β):∀ t:Tr α,(t.map f).val=t.val.map f
 | .err=>rfl
 | .chk c t=>by simp only [Tr.map,Tr.val,val_map f t]; split <;> rfl
 | .br c t e=>by simp only [Tr.map,Tr.val,val_map f t,val_map f e]; split <;> rfl
 | .ok _=>rfl

abbrev Tr.to {σ:Type} (s:σ):Tr (σ ⊕ ag):=.ok (.inl s)
abbrev Tr.re {σ:Type} (v:AV) (h:List AO):Tr (σ ⊕ ag):=.ok (.inr (v,h))

def dh {σ:Type} (t:σ→Tr (σ ⊕ ag)):Nat→σ→Option ag
 | 0,_=>none
 | n+1,s=>match (t s).val with
  | some (.inl s')=>dh t n s'
  | some (.inr r)=>some r
  | none=>none

def cx {σ:Type} (t:σ→Tr (σ ⊕ ag)) (n:Nat) (i:Tr (σ ⊕ ag)):Option ag:=match i.val with
 | some (.inl s)=>dh t n s
 | some (.inr r)=>some r
 | none=>none

def lf {σ:Type} (f:Func) (e:σ→Nat×St):σ ⊕ ag→zp
 | .inl s=>.head (e s).1 (zw f (e s).1) (e s).2
 | .inr r=>.ret r.1 r.2

def e0:Empty→Nat×St:=fun x=>nomatch x
def t0:Empty→Tr (Empty ⊕ ag):=fun x=>nomatch x

section
variable {σ:Type} {E:bb} {n0:Nat} {keep:Nat→zT} {f:Func} {gas:Nat} {e:σ→Nat×St} {t:σ→Tr (σ ⊕ ag)}

theorem Ez (hon:∀ s,run E n0 keep f.results.toList gas (zw f (e s).1) (e s).2=(t s).map (lf f e)):∀ (n:Nat) (s:σ),n5 E n0 keep f gas n (zw f (e s).1) (e s).2=dh t n s
 | 0,_=>rfl
 | n+1,s=>by
  rw [n5,hon s,Tr.val_map,dh]
  cases (t s).val with
  | none=>rfl
  | some l=>
   cases l with
   | inl s'=>exact Ez hon n s'
   | inr r=>rfl

theorem ie (hon:∀ s,run E n0 keep f.results.toList gas (zw f (e s).1) (e s).2=(t s).map (lf f e)) {K:List Item} {st:St} {i:Tr (σ ⊕ ag)} (hgo:run E n0 keep f.results.toList gas K st=i.map (lf f e)) (n:Nat):n5 E n0 keep f gas (n+1) K st=cx t n i:=by
 rw [n5,hgo,Tr.val_map,cx]
 cases i.val with
 | none=>rfl
 | some l=>
  cases l with
  | inl s=>exact Ez hon n s
  | inr r=>rfl
end

def ap {σ:Type} (outs:List Sh) (t:σ→Tr (σ ⊕ ag)) (n:Nat) (i:Tr (σ ⊕ ag)):Option (zu (outs.map some)):=(cx t n i).bind fun r=>zY r.2 outs r.1

theorem hJ {P:Program} {gl:Nat→AV} {σ:Type} {E:bb} {k:FuncId} {f:Func} {ks outs:List Sh} {keep:Nat→zT} {gas n:Nat} {e:σ→Nat×St} {t:σ→Tr (σ ⊕ ag)} {i:zu (ks.map some)→Tr (σ ⊕ ag)} {c:zu (ks.map some)→Bool} {g:zu (ks.map some)→zu (outs.map some)}
  (hE:zm E) (hf:zz E.P k f ks.length) (hgo:∀ x,run E 0 keep f.results.toList gas (ao f) (zU f.ntmps (fv (ks.map some) x) [])=(i x).map (lf f e))
  (hon:∀ s,run E 0 keep f.results.toList gas (zw f (e s).1) (e s).2=(t s).map (lf f e))
  (hc:∀ x,c x=(ap outs t n (i x)).isSome) (hg:∀ x,g x=(ap outs t n (i x)).getD (bK outs)) (qp:E.P=P:=by rfl) (qg:E.gl=gl:=by rfl):kJ P gl k (zA ks outs c g):=by
 subst qp qg
 have h:∀ x,Pf E keep f gas (n+1) ks outs x=ap outs t n (i x):=by
  intro x
  unfold Pf ap
  rw [ie hon (hgo x)]
 exact LZ (n:=n+1) hE hf (fun x=>by rw [h,hc]) (fun x=>by rw [h,hg])

abbrev k0:Nat→zT:=fun _=>{ }
abbrev kP:List (Nat×List Nat)→Nat→zT
 | [],_=>{ }
 | p::r,j=>if j=p.1 then { slots:=p.2 } else kP r j
def o1 {a:Sh} (o:Option (zu [some a])):Sem a:=(o.getD (bK [a])).1
def o2 {a b:Sh} (o:Option (zu [some a,some b])):Sem a×Sem b:=((o.getD (bK [a,b])).1,(o.getD (bK [a,b])).2.1)
def o3 {a b c:Sh} (o:Option (zu [some a,some b,some c])):Sem a×Sem b×Sem c:=((o.getD (bK [a,b,c])).1,(o.getD (bK [a,b,c])).2.1,(o.getD (bK [a,b,c])).2.2.1)
def FT (ks outs:List Sh) (o:zu (ks.map some)→Option (zu (outs.map some))):zB:=zA ks outs (fun x=>(o x).isSome) fun x=>(o x).getD (bK outs)
theorem zm.T1 {P:Program} {gl:Nat→AV} {σ:Type} {E:bb} {k:FuncId} {f:Func} {ks outs:List Sh} {keep:Nat→zT} {n:Nat} {e:σ→Nat×St} {t:σ→Tr (σ ⊕ ag)} {i:zu (ks.map some)→Tr (σ ⊕ ag)} (hE:zm E) (gas:Nat:=400)
  (hf:(E.P.funcs[k]?,f.name == "runtime.NumGoroutine",f.body.isNone,decide (ks.length≤f.ntmps))=(some f,false,false,true):=by kernel_rfl)
  (hgo:∀ x,run E 0 keep f.results.toList gas (ao f) (zU f.ntmps (fv (ks.map some) x) [])=(i x).map (lf f e):=by intro x; kernel_rfl)
  (hon:∀ s,run E 0 keep f.results.toList gas (zw f (e s).1) (e s).2=(t s).map (lf f e):=by intro s; cases s <;> kernel_rfl) (qp:E.P=P:=by rfl) (qg:E.gl=gl:=by rfl):kJ P gl k (FT ks outs fun x=>ap outs t n (i x)):=by
 subst qp qg
 exact hJ hE (aG hf) hgo hon (fun _=>rfl) fun _=>rfl

theorem G8 (E:bb) (n0:Nat) (keep:Nat→zT) (f:Func) (gas:Nat):∀ s,run E n0 keep f.results.toList gas (zw f (e0 s).1) (e0 s).2=(t0 s).map (lf f e0):=fun s=>nomatch s

def vG {σ:Type} (outs:List Sh) (ps':List CP) (t:σ→Tr (σ ⊕ ag)) (n:Nat) (i:Tr (σ ⊕ ag)):Option (zu (outs.map some)×zr ps'):=(cx t n i).bind fun r=>xF ps' outs r.1 r.2

theorem oU {P:Program} {gl:Nat→AV} {σ:Type} {E:bb} {k:FuncId} {f:Func} {ps:List CP} {ks outs:List Sh} {ps':List CP} {keep:Nat→zT} {gas n:Nat} {e:σ→Nat×St} {t:σ→Tr (σ ⊕ ag)} {i:zr ps→zu (ks.map some)→Tr (σ ⊕ ag)} {c:zr ps→zu (ks.map some)→Bool} {g:zr ps→zu (ks.map some)→zu (outs.map some)×zr ps'}
  (hE:zm E) (hf:zz E.P k f (ks.length+1)) (hgo:∀ y x,run E (au ps+1) keep f.results.toList gas (ao f) (zU f.ntmps (.ptr 0 0::fv (ks.map some) x) (bE ps y))=(i y x).map (lf f e))
  (hon:∀ s,run E (au ps+1) keep f.results.toList gas (zw f (e s).1) (e s).2=(t s).map (lf f e))
  (hc:∀ y x,c y x=(vG outs ps' t n (i y x)).isSome) (hg:∀ y x,g y x=(vG outs ps' t n (i y x)).getD (bK outs,eT ps')) (qp:E.P=P:=by rfl) (qg:E.gl=gl:=by rfl):kJ P gl k (vn ps ks outs ps' c g):=by
 subst qp qg
 have h:∀ y x,Pe E keep f gas (n+1) ps ks outs ps' y x=vG outs ps' t n (i y x):=by
  intro y x
  unfold Pe vG
  rw [ie hon (hgo y x)]
 exact Hn (n:=n+1) hE hf (fun y x=>by rw [h,hc]) (fun y x=>by rw [h,hg])


section
variable {σ:Type} {t:σ→Tr (σ ⊕ ag)}

theorem ju {β:Type} (N:Nat) (st:β→Nat→σ) (I:β→Nat→Prop) (Φ:ag→Prop) (M:Nat)
  (hstep:∀ b i,i < N→I b i→(∃ b',I b' (i+1)∧(t (st b i)).val=some (.inl (st b' (i+1))))∨∃ r,(t (st b i)).val=some (.inr r)∧Φ r)
  (hend:∀ b n,I b N→M≤n→∃ r,dh t n (st b N)=some r∧Φ r):
  ∀ (m i:Nat) (b:β) (n:Nat),N - i=m→i≤N→I b i→M+m≤n→∃ r,dh t n (st b i)=some r∧Φ r
 | 0,i,b,n,hm,hi,hI,hn=>by
  obtain rfl:i=N:=by omega
  exact hend b n hI (by omega)
 | m+1,i,b,n,hm,hi,hI,hn=>by
  obtain ⟨n,rfl⟩:∃ k,n=k+1:=⟨n - 1,by omega⟩
  rcases hstep b i (by omega) hI with ⟨b',hI',h⟩ | ⟨r,h1,h2⟩
  ·obtain ⟨r,h1,h2⟩:=ju N st I Φ M hstep hend m (i+1) b' n (by omega) (by omega) hI' (by omega)
   exact ⟨r,by rw [dh,h]; exact h1,h2⟩
  ·exact ⟨r,by rw [dh,h1],h2⟩

theorem jt {n:Nat} {s:σ}:dh t (n+1) s=match (t s).val with
  | some (.inl s')=>dh t n s'
  | some (.inr r)=>some r
  | none=>none:=rfl
end


abbrev I4:Nat→zT:=fun _=>{ }
theorem Tc:zz wo.P 89 Tryz.f89 1:=aG (by kernel_rfl)
def dp (x0:Sem zx) (_:ze) (_:ze) (_:Sem aJ.sl×Sem (Sh.expr.pr Sh.str)) (_:Sem zf.sl×Sem (aJ.sl.pr (Sh.expr.pr Sh.str))) (_:Sem Sh.str×Sem (Sh.str.sl.pr (zi.sl.pr (Sh.str.pr (Sh.str.sl.pr (bI.sl.pr (Sh.expr.pr (zf.sl.pr (aJ.sl.pr (Sh.expr.pr Sh.str)))))))))) (a5:Bool) (_:Sem Sh.expr×Sem (zf.sl.pr (aJ.sl.pr (Sh.expr.pr Sh.str)))) (a7:Sem Sh.str×Sem (Sh.str.pr (Sh.str.pr (Sh.str.sl.pr (zi.sl.pr (Sh.str.pr (Sh.str.sl.pr (bI.sl.pr (Sh.expr.pr (zf.sl.pr (aJ.sl.pr (Sh.expr.pr Sh.str)))))))))))) (a8:Sem Sh.str×Sem (Sh.str.pr (Sh.str.pr (Sh.str.sl.pr (zi.sl.pr (Sh.str.pr (Sh.str.sl.pr (bI.sl.pr (Sh.expr.pr (zf.sl.pr (aJ.sl.pr (Sh.expr.pr Sh.str)))))))))))) (_:Int) (_:Int) (a11:Bool) (a12:Sem Sh.str×Sem (Sh.str.pr (Sh.str.pr (Sh.str.sl.pr (zi.sl.pr (Sh.str.pr (Sh.str.sl.pr (bI.sl.pr (Sh.expr.pr (zf.sl.pr (aJ.sl.pr (Sh.expr.pr Sh.str)))))))))))) (_:Int) (_:Int) (_:Sem Sh.bool) (a16:Bool) (_:Sem Sh.expr×Sem Sh.str) (a18:Sem Sh.str×Sem (Sh.str.pr (Sh.str.pr (Sh.str.sl.pr (zi.sl.pr (Sh.str.pr (Sh.str.sl.pr (bI.sl.pr (Sh.expr.pr (zf.sl.pr (aJ.sl.pr (Sh.expr.pr Sh.str)))))))))))) (a19:Bool) (a20:Sem Sh.str×Sem (Sh.str.pr (Sh.str.pr (Sh.str.sl.pr (zi.sl.pr (Sh.str.pr (Sh.str.sl.pr (bI.sl.pr (Sh.expr.pr (zf.sl.pr (aJ.sl.pr (Sh.expr.pr Sh.str)))))))))))) (_:Sem Sh.bool) (a22:Bool) (_:Sem zf.sl×Sem (aJ.sl.pr (Sh.expr.pr Sh.str))) (a24:Sem Sh.str×Sem (Sh.str.pr (Sh.str.pr (Sh.str.sl.pr (zi.sl.pr (Sh.str.pr (Sh.str.sl.pr (bI.sl.pr (Sh.expr.pr (zf.sl.pr (aJ.sl.pr (Sh.expr.pr Sh.str)))))))))))) (_:Sem Sh.bool) (_:Int) (_:Int) (_:Sem Sh.bool) (_:Bool) (a30:Bool) (_:Sem Sh.str×Sem (Sh.str.pr (Sh.str.pr (Sh.str.sl.pr (zi.sl.pr (Sh.str.pr (Sh.str.sl.pr (bI.sl.pr (Sh.expr.pr (zf.sl.pr (aJ.sl.pr (Sh.expr.pr Sh.str)))))))))))) (a32:Bool) (a33:Sem Sh.bool) (a34:Bool) (a35:Sem Sh.str×Sem (Sh.str.pr (Sh.str.pr (Sh.str.sl.pr (zi.sl.pr (Sh.str.pr (Sh.str.sl.pr (bI.sl.pr (Sh.expr.pr (zf.sl.pr (aJ.sl.pr (Sh.expr.pr Sh.str)))))))))))) (a36:Bool):Tr (Empty ⊕ ag):=
 Tr.br (x0.1==[99,114,101,97,116,101]) (Tr.chk (bif a5 then cO a7 else true) (Tr.re (AV.bool (bif a5 then eC a7 else false)) [])) (Tr.br (x0.1==[100,114,111,112]) (Tr.chk (bif bL x0.2.1 then cO a8 else true) (Tr.re (AV.bool (bif bL x0.2.1 then eC a8 else false)) [])) (Tr.br (x0.1==[105,110,115,101,114,116]) (Tr.chk (bif a11 then cO a12 else true) (Tr.re (AV.bool (bif a11 then eC a12 else false)) [])) (Tr.br (x0.1==[117,112,100,97,116,101]) (Tr.chk (bif a16 then cO a18 else true) (Tr.re (AV.bool (bif a16 then eC a18 else false)) [])) (Tr.br (x0.1==[100,101,108,101,116,101]) (Tr.chk (bif a19 then cO a20 else true) (Tr.re (AV.bool (bif a19 then eC a20 else false)) [])) (Tr.br (x0.1==[115,101,108,101,99,116]) (Tr.chk (bif a19 then cO a20 else true) (Tr.re (AV.bool (bif a19 then eC a20 else false)) [])) (Tr.br (x0.1==[114,101,97,100]) (Tr.chk (bif a22 then cO a24 else true) (Tr.re (AV.bool (bif a22 then eC a24 else false)) [])) (Tr.br (x0.1==[119,114,105,116,101]) (Tr.chk (bif a22 then cO a24 else true) (Tr.re (AV.bool (bif a22 then eC a24 else false)) [])) (Tr.br (x0.1==[117,110,114,101,97,100]) (Tr.chk (bif a22 then cO a24 else true) (Tr.re (AV.bool (bif a22 then eC a24 else false)) [])) (Tr.br (x0.1==[117,110,119,114,105,116,101])
 (Tr.chk (bif a22 then cO a24 else true) (Tr.re (AV.bool (bif a22 then eC a24 else false)) [])) (Tr.br (x0.1==[99,111,112,121]) (Tr.chk (bif a30 then a32 else true) (Tr.re (AV.bool (bif a30 then a33 else false)) [])) (Tr.br (x0.1==[106,111,105,110]) (Tr.chk (bif a34 then cO a35 else true) (Tr.re (AV.bool (bif a34 then eC a35 else false)) [])) (Tr.br (x0.1==[103,114,111,117,112]) (Tr.chk (bif a36 then a32 else true) (Tr.re (AV.bool (bif a36 then a33 else false)) [])) (Tr.re (AV.kb false) [])))))))))))))
def dX (x0:Sem zx):Tr (Empty ⊕ ag):=
 let a0:=zC x0.2.2.2.2.2.2.2.2.1
 let a1:=zC x0.2.2.2.2.2.2.2.2.2.2.2.1
 let a2:=(x0.2.2.2.2.2.2.2.2.2.2.1,a1,x0.2.2.2.2.2.2.2.2.2.2.2.2)
 let a3:=(x0.2.2.2.2.2.2.2.2.2.1,a2)
 let a4:=(x0.2.2.1,x0.2.2.2.1,x0.2.2.2.2.1,x0.2.2.2.2.2.1,x0.2.2.2.2.2.2.1,x0.2.2.2.2.2.2.2.1,a0,a3)
 let a5:=bif bL x0.2.1 then gF (x0.1,x0.2.1,a4) else false
 let a6:=(ze.mk [] (0,0,[]) [] [],a3)
 let a7:=(x0.1,[],x0.2.2.1,x0.2.2.2.1,[],[],[],[],a6)
 let a8:=(x0.1,[],a4)
 let a9:=(↑(length x0.2.2.2.2.2.2.2.2.2.1):Int)
 let a10:=zQ (fun x => !gT x) x0.2.2.2.2.2.2.2.2.2.1 0
 let a11:=bif bL x0.2.1 then bif bif decide (a9 < 1) then true else decide (a9 > 12) then false else !decide (a10 ≥ 0) else false
 let a12:=(x0.1,[],x0.2.2.1,x0.2.2.2.1,x0.2.2.2.2.1,x0.2.2.2.2.2.1,x0.2.2.2.2.2.2.1,x0.2.2.2.2.2.2.2.1,a0,[],a2)
 let a13:=(↑(length x0.2.2.2.2.2.2.2.2.2.2.1):Int)
 let a14:=zQ (fun x => !uI x) x0.2.2.2.2.2.2.2.2.2.2.1 0
 let a15:=m9 a1
 let a16:=bif bL x0.2.1 then bif bif decide (a13 < 1) then true else decide (a13 > 8) then false else bif !decide (a14 ≥ 0) then a15 else false else false
 let a17:=(ze.mk [] (0,0,[]) [] [],x0.2.2.2.2.2.2.2.2.2.2.2.2)
 let a18:=(x0.1,[],x0.2.2.1,x0.2.2.2.1,x0.2.2.2.2.1,x0.2.2.2.2.2.1,x0.2.2.2.2.2.2.1,x0.2.2.2.2.2.2.2.1,a0,x0.2.2.2.2.2.2.2.2.2.1,[],a17)
 let a19:=bif bL x0.2.1 then a15 else false
 let a20:=(x0.1,[],x0.2.2.1,x0.2.2.2.1,x0.2.2.2.2.1,x0.2.2.2.2.2.1,x0.2.2.2.2.2.2.1,x0.2.2.2.2.2.2.2.1,a0,x0.2.2.2.2.2.2.2.2.2.1,x0.2.2.2.2.2.2.2.2.2.2.1,a17)
 let a21:=bL x0.2.2.2.2.2.2.2.2.2.2.2.2
 let a22:=bif bL x0.2.1 then a21 else false
 let a23:=(x0.2.2.2.2.2.2.2.2.2.1,x0.2.2.2.2.2.2.2.2.2.2.1,a1,[])
 let a24:=(x0.1,[],x0.2.2.1,x0.2.2.2.1,x0.2.2.2.2.1,x0.2.2.2.2.2.1,x0.2.2.2.2.2.2.1,x0.2.2.2.2.2.2.2.1,a0,a23)
 let a25:=bL x0.2.2.1
 let a26:=(↑(length x0.2.2.2.1):Int)
 let a27:=zQ (fun x => !bL x) x0.2.2.2.1 0
 let a28:=m9 a0
 let a29:=bif !decide (a27 ≥ 0) then a28 else false
 let a30:=bif bL x0.2.1 then bif a25 then bif bif decide (a26 < 1) then true else decide (a26 > 8) then false else a29 else false else false
 let a31:=(x0.1,[],[],[],x0.2.2.2.2.1,x0.2.2.2.2.2.1,x0.2.2.2.2.2.2.1,x0.2.2.2.2.2.2.2.1,a6)
 let a32:=cO a31
 let a33:=eC a31
 let a34:=bif bL x0.2.1 then bif a25 then bif bL x0.2.2.2.2.2.1 then bif a21 then a28 else false else false else false else false
 let a35:=(x0.1,[],[],x0.2.2.2.1,x0.2.2.2.2.1,[],x0.2.2.2.2.2.2.1,x0.2.2.2.2.2.2.2.1,ze.mk [] (0,0,[]) [] [],a23)
 let a36:=bif bL x0.2.1 then bif a25 then bif bif decide (a26 < 2) then true else decide (a26 > 2) then false else a29 else false else false
 dp x0 a0 a1 a2 a3 a4 a5 a6 a7 a8 a9 a10 a11 a12 a13 a14 a15 a16 a17 a18 a19 a20 a21 a22 a23 a24 a25 a26 a27 a28 a29 a30 a31 a32 a33 a34 a35 a36
theorem R6 (x0:Sem zx):rn wo 0 I4 Tryz.f89 [zy zx x0] []=(dX x0).map (lf Tryz.f89 e0):=by kernel_rfl
def rA (x0:Sem zx):Option (zu (List.map some [Sh.bool])):=ap [Sh.bool] t0 100000000 (dX x0)
def iK (x0:Sem zx):Bool:=(rA x0).isSome
def il (x0:Sem zx):Sem Sh.bool:=(fun r:zu (List.map some [Sh.bool])=>r.1) ((rA x0).getD (bK [Sh.bool]))
def NI:zB:=zA [zx] [Sh.bool] (fun x=>iK x.1) fun x=>(il x.1,())
theorem K6:FK 89 NI:=hJ (ks:=[zx]) (outs:=[Sh.bool]) (keep:=I4) (gas:=400) (n:=100000000) (e:=e0) (t:=t0) (i:=fun x=>dX x.1) ph Tc (fun x=>R6 x.1) (G8 _ _ _ _ _) (fun _=>by kernel_rfl) (fun _=>by kernel_rfl)

abbrev I5:Nat→zT:=fun _=>{ }
theorem Td:zz wo.P 90 Tryz.f90 1:=aG (by kernel_rfl)
def yk (x0:Sem zx) (a0:Bool) (a1:zq) (a2:zq) (a3:zq) (a4:zq) (_:ze) (_:ze) (a7:Sem Sh.str×Sem (Sh.str.pr (Sh.str.pr (Sh.str.sl.pr (zi.sl.pr (Sh.str.pr (Sh.str.sl.pr (bI.sl.pr (Sh.expr.pr (zf.sl.pr (aJ.sl.pr (Sh.expr.pr Sh.str)))))))))))) (a8:zq) (a9:zq) (a10:TS) (a11:zq) (a12:zq) (a13:zq) (a14:TS) (a15:Bool) (a16:zq) (a17:TS) (a18:zq) (a19:zq) (a20:zq) (a21:zq) (a22:zq) (a23:zq) (a24:List UInt8) (a25:List UInt8) (a26:zq) (a27:zq) (a28:zq) (a29:zq) (a30:zq) (a31:zq) (a32:TS) (a33:zq) (a34:Bool) (a35:zq) (a36:TS) (a37:zq) (a38:zq) (a39:zq) (a40:zq) (a41:zq) (a42:TS) (a43:zq) (a44:zq) (a45:TS) (a46:zq):Tr (Empty ⊕ ag):=Tr.chk a0 (Tr.chk (decide ([77,73,71,82,65,84,69,32].length+(Lib.toUpperA x0.1).length≤1099511627776)) (Tr.chk (decide (length a1+[32].length≤1099511627776)) (Tr.chk (decide (length a2+length x0.2.1≤1099511627776)) (Tr.chk (decide (length a3+[32,70,82,79,77,32].length≤1099511627776)) (Tr.chk (decide (length a4+length x0.2.2.1≤1099511627776)) (Tr.br (x0.1==[99,114,101,97,116,101]) (Tr.chk (kY a7) (Tr.re (AV.str (lO a7)) []))
 (Tr.br (x0.1==[100,114,111,112]) (Tr.chk (decide ([68,82,79,80,32,84,65,66,76,69,32].length+length x0.2.1≤1099511627776)) (Tr.re (AV.str ([68,82,79,80,32,84,65,66,76,69,32]++x0.2.1)) [])) (Tr.br (x0.1==[105,110,115,101,114,116]) (Tr.chk (decide ([73,78,83,69,82,84,32,73,78,84,79,32].length+length x0.2.1≤1099511627776)) (Tr.chk (decide (length a8+[32,86,65,76,85,69,83,32,40,32].length≤1099511627776)) (Tr.chk (jK x0.2.2.2.2.2.2.2.2.2.1) (Tr.chk (decide (length a9+length a10≤1099511627776)) (Tr.chk (decide (length a11+[32,41].length≤1099511627776)) (Tr.re (AV.str (a11++[32,41])) [])))))) (Tr.br (x0.1==[117,112,100,97,116,101]) (Tr.chk (decide ([85,80,68,65,84,69,32].length+length x0.2.1≤1099511627776)) (Tr.chk (decide (length a12+[32,83,69,84,32].length≤1099511627776)) (Tr.chk (jC x0.2.2.2.2.2.2.2.2.2.2.1) (Tr.chk (decide (length a13+length a14≤1099511627776)) (Tr.chk a15 (Tr.chk (decide (length a16+length a17≤1099511627776)) (Tr.re (AV.str (a16++a17)) []))))))) (Tr.br (x0.1==[100,101,108,101,116,101]) (Tr.chk (decide ([68,69,76,69,84,69,32,70,82,79,77,32].length+length x0.2.1≤1099511627776)) (Tr.chk a15 (Tr.chk (decide (length a18+length a17≤1099511627776)) (Tr.re (AV.str (a18++a17)) []))))
 (Tr.br (x0.1==[115,101,108,101,99,116]) (Tr.chk (decide ([83,69,76,69,67,84,32,42,32,70,82,79,77,32].length+length x0.2.1≤1099511627776)) (Tr.chk a15 (Tr.chk (decide (length a19+length a17≤1099511627776)) (Tr.re (AV.str (a19++a17)) [])))) (Tr.br (x0.1==[114,101,97,100]) (Tr.chk a0 (Tr.chk (decide ([71,82,65,78,84,32].length+(Lib.toUpperA x0.1).length≤1099511627776)) (Tr.chk (decide (length a20+[32,79,78,32].length≤1099511627776)) (Tr.chk (decide (length a21+length x0.2.1≤1099511627776)) (Tr.chk (decide (length a22+[32,84,79,32].length≤1099511627776)) (Tr.chk (decide (length a23+length x0.2.2.2.2.2.2.2.2.2.2.2.2≤1099511627776)) (Tr.re (AV.str (a23++x0.2.2.2.2.2.2.2.2.2.2.2.2)) []))))))) (Tr.br (x0.1==[119,114,105,116,101]) (Tr.chk a0 (Tr.chk (decide ([71,82,65,78,84,32].length+(Lib.toUpperA x0.1).length≤1099511627776)) (Tr.chk (decide (length a20+[32,79,78,32].length≤1099511627776)) (Tr.chk (decide (length a21+length x0.2.1≤1099511627776)) (Tr.chk (decide (length a22+[32,84,79,32].length≤1099511627776)) (Tr.chk (decide (length a23+length x0.2.2.2.2.2.2.2.2.2.2.2.2≤1099511627776)) (Tr.re (AV.str (a23++x0.2.2.2.2.2.2.2.2.2.2.2.2)) []))))))) (Tr.br (x0.1==[117,110,114,101,97,100]) (Tr.chk
 (decide (0≤2)&&decide (2≤(↑(length x0.1):Int))&&decide ((↑(length x0.1):Int)≤(↑(length x0.1):Int))) (Tr.chk (decide (a24.length≤140737488355328)&&a24.all fun b=>decide (b.toNat < 128)) (Tr.chk (decide ([82,69,86,79,75,69,32].length+a25.length≤1099511627776)) (Tr.chk (decide (length a26+[32,79,78,32].length≤1099511627776)) (Tr.chk (decide (length a27+length x0.2.1≤1099511627776)) (Tr.chk (decide (length a28+[32,70,82,79,77,32].length≤1099511627776)) (Tr.chk (decide (length a29+length x0.2.2.2.2.2.2.2.2.2.2.2.2≤1099511627776)) (Tr.re (AV.str (a29++x0.2.2.2.2.2.2.2.2.2.2.2.2)) [])))))))) (Tr.br (x0.1==[117,110,119,114,105,116,101]) (Tr.chk (decide (0≤2)&&decide (2≤(↑(length x0.1):Int))&&decide ((↑(length x0.1):Int)≤(↑(length x0.1):Int))) (Tr.chk (decide (a24.length≤140737488355328)&&a24.all fun b=>decide (b.toNat < 128)) (Tr.chk (decide ([82,69,86,79,75,69,32].length+a25.length≤1099511627776)) (Tr.chk (decide (length a26+[32,79,78,32].length≤1099511627776)) (Tr.chk (decide (length a27+length x0.2.1≤1099511627776)) (Tr.chk (decide (length a28+[32,70,82,79,77,32].length≤1099511627776)) (Tr.chk (decide (length a29+length x0.2.2.2.2.2.2.2.2.2.2.2.2≤1099511627776)) (Tr.re (AV.str (a29++x0.2.2.2.2.2.2.2.2.2.2.2.2)) [])))))))) (Tr.br (x0.1==[99,111,112,121])
 (Tr.chk (decide (length a30+[32,40,32].length≤1099511627776)) (Tr.chk (jG x0.2.2.2.1) (Tr.chk (decide (length a31+length a32≤1099511627776)) (Tr.chk (decide (length a33+[32,41].length≤1099511627776)) (Tr.chk a34 (Tr.chk (decide (length a35+length a36≤1099511627776)) (Tr.re (AV.str (a35++a36)) []))))))) (Tr.br (x0.1==[106,111,105,110]) (Tr.chk (decide (length a30+[32,44,32].length≤1099511627776)) (Tr.chk (decide (length a37+length x0.2.2.2.2.2.2.2.2.2.2.2.2≤1099511627776)) (Tr.chk (decide (length a38+[32,79,78,32].length≤1099511627776)) (Tr.chk (decide (length a39+length x0.2.2.2.2.2.1≤1099511627776)) (Tr.chk a34 (Tr.chk (decide (length a40+length a36≤1099511627776)) (Tr.re (AV.str (a40++a36)) []))))))) (Tr.chk (decide (length a30+[32,66,89,32].length≤1099511627776)) (Tr.chk (zJ 0 (length x0.2.2.2.1)) (Tr.chk (decide (length a41+length a42≤1099511627776)) (Tr.chk (decide (length a43+[32,83,85,77,32].length≤1099511627776)) (Tr.chk (zJ 1 (length x0.2.2.2.1)) (Tr.chk (decide (length a44+length a45≤1099511627776)) (Tr.chk a34 (Tr.chk (decide (length a46+length a36≤1099511627776)) (Tr.re (AV.str (a46++a36)) []))))))))))))))))))))))))))
def tF (x0:Sem zx):Tr (Empty ⊕ ag):=
 let a0:=decide (length x0.1≤140737488355328)&&List.all x0.1 fun b=>decide (b.toNat < 128)
 let a1:=[77,73,71,82,65,84,69,32]++Lib.toUpperA x0.1
 let a2:=a1++[32]
 let a3:=a2++x0.2.1
 let a4:=a3++[32,70,82,79,77,32]
 let a5:=zC x0.2.2.2.2.2.2.2.2.1
 let a6:=zC x0.2.2.2.2.2.2.2.2.2.2.2.1
 let a7:=(x0.1,x0.2.1,x0.2.2.1,x0.2.2.2.1,x0.2.2.2.2.1,x0.2.2.2.2.2.1,x0.2.2.2.2.2.2.1,x0.2.2.2.2.2.2.2.1,a5,x0.2.2.2.2.2.2.2.2.2.1,x0.2.2.2.2.2.2.2.2.2.2.1,a6,x0.2.2.2.2.2.2.2.2.2.2.2.2)
 let a8:=[73,78,83,69,82,84,32,73,78,84,79,32]++x0.2.1
 let a9:=a8++[32,86,65,76,85,69,83,32,40,32]
 let a10:=jJ x0.2.2.2.2.2.2.2.2.2.1
 let a11:=a9++a10
 let a12:=[85,80,68,65,84,69,32]++x0.2.1
 let a13:=a12++[32,83,69,84,32]
 let a14:=jB x0.2.2.2.2.2.2.2.2.2.2.1
 let a15:=uY a6
 let a16:=a13++a14
 let a17:=xu a6
 let a18:=[68,69,76,69,84,69,32,70,82,79,77,32]++x0.2.1
 let a19:=[83,69,76,69,67,84,32,42,32,70,82,79,77,32]++x0.2.1
 let a20:=[71,82,65,78,84,32]++Lib.toUpperA x0.1
 let a21:=a20++[32,79,78,32]
 let a22:=a21++x0.2.1
 let a23:=a22++[32,84,79,32]
 let a24:=List.take ((↑(length x0.1):Int).toNat - toNat 2) (List.drop (toNat 2) x0.1)
 let a25:=Lib.toUpperA a24
 let a26:=[82,69,86,79,75,69,32]++a25
 let a27:=a26++[32,79,78,32]
 let a28:=a27++x0.2.1
 let a29:=a28++[32,70,82,79,77,32]
 let a30:=a4++x0.2.2.1
 let a31:=a30++[32,40,32]
 let a32:=jF x0.2.2.2.1
 let a33:=a31++a32
 let a34:=jS [32] a5
 let a35:=a33++[32,41]
 let a36:=gp [32] a5
 let a37:=a30++[32,44,32]
 let a38:=a37++x0.2.2.2.2.2.2.2.2.2.2.2.2
 let a39:=a38++[32,79,78,32]
 let a40:=a39++x0.2.2.2.2.2.1
 let a41:=a30++[32,66,89,32]
 let a42:=getD x0.2.2.2.1 (toNat 0) (zj Sh.str)
 let a43:=a41++a42
 let a44:=a43++[32,83,85,77,32]
 let a45:=getD x0.2.2.2.1 (toNat 1) (zj Sh.str)
 let a46:=a44++a45
 yk x0 a0 a1 a2 a3 a4 a5 a6 a7 a8 a9 a10 a11 a12 a13 a14 a15 a16 a17 a18 a19 a20 a21 a22 a23 a24 a25 a26 a27 a28 a29 a30 a31 a32 a33 a34 a35 a36 a37 a38 a39 a40 a41 a42 a43 a44 a45 a46
theorem R7 (x0:Sem zx):rn wo 0 I5 Tryz.f90 [zy zx x0] []=(tF x0).map (lf Tryz.f90 e0):=by kernel_rfl
def DE (x0:Sem zx):Option (zu (List.map some [Sh.str])):=ap [Sh.str] t0 100000000 (tF x0)
def pM (x0:Sem zx):Bool:=(DE x0).isSome
def mQ (x0:Sem zx):Sem Sh.str:=(fun r:zu (List.map some [Sh.str])=>r.1) ((DE x0).getD (bK [Sh.str]))
def NJ:zB:=zA [zx] [Sh.str] (fun x=>pM x.1) fun x=>(mQ x.1,())
theorem K7:FK 90 NJ:=hJ (ks:=[zx]) (outs:=[Sh.str]) (keep:=I5) (gas:=400) (n:=100000000) (e:=e0) (t:=t0) (i:=fun x=>tF x.1) ph Td (fun x=>R7 x.1) (G8 _ _ _ _ _) (fun _=>by kernel_rfl) (fun _=>by kernel_rfl)

noncomputable def Eg:=wo.addL [(89,NI),(90,NJ)]
theorem wq:zm Eg:=ph.addL <| fc K6 <| fc K7 g6

abbrev zda:Nat→zT:=fun _=>{ }
theorem ZW:zz (Eg).P 52 Tryz.f52 1:=aG (by kernel_rfl)
theorem zce (x0:Sem zx):rn Eg 0 zda Tryz.f52 [zy zx x0] []=Tr.chk (iK (vt x0)) (Tr.br (!il (vt x0)) (Tr.ok (zp.ret (AV.tup [AV.str [],ai 1]) [])) (Tr.chk (pM (vt x0)) (Tr.chk (HE (mQ (vt x0))) (Tr.br ((cut (mQ (vt x0))).2 != 0) (Tr.ok (zp.ret (AV.tup [AV.str [],ai 1]) [])) (Tr.ok (zp.ret (AV.tup [AV.str (mQ (vt x0)),ai 0]) [])))))):=by kernel_rfl
def pP (x0:Sem zx):Sem Sh.str×Sem zg:=(if (!il x0)=true then ([],1) else if ((cut (mQ x0)).2 != 0)=true then ([],1) else (mQ x0,0))
def oI (x0:Sem zx):Bool:=(if iK x0=true then if (!il x0)=true then true else if pM x0=true then if HE (mQ x0)=true then true else false else false else false)
def F52:zB:=zA [zx] [Sh.str,zg] (fun x=>oI x.1) fun x=>((pP x.1).1,(pP x.1).2,())
theorem Wr:FK 52 F52:=by
 refine zM (ZW) fun x hc C hC=>?_
 unfold oI at hc
 refine zk wq (ZW) (fun id _=>hC id) (zce x.1) ?_
 generalize hy:pP x.1=y
 unfold pP at hy
 try simp only [Ep]
 repeat' (first | with_reducible refine ed hy hc (fun _ hy hc=>?_) (fun _ hy hc=>?_) | with_reducible refine aL hy (fun _ hy=>?_) (fun _ hy=>?_) | with_reducible refine aZ hc (fun hc=>?_) | with_reducible refine zn ?_)
 all_goals first | (cases hc; done) | (subst hy; first | rfl)

noncomputable def Eh:=Eg.add 52 F52
theorem ws:zm Eh:=wq.add Wr

abbrev zc8:Nat→zT:=fun _=>{ }
theorem ZF:zz (Eh).P 23 Tryz.f23 1:=aG (by kernel_rfl)
theorem zbW (x0:Sem zx):rn Eh 0 zc8 Tryz.f23 [zy zx x0] []=Tr.chk (oI (vt x0)) (Tr.ok (zp.ret (AV.bool ((pP (vt x0)).2==0)) [])):=by kernel_rfl
def jE (x0:Sem zx):Sem Sh.bool:=((pP x0).2==0)
def nt (x0:Sem zx):Bool:=(if oI x0=true then true else false)
def F31:zB:=zA [zx] [Sh.bool] (fun x=>nt x.1) fun x=>(jE x.1,())
theorem V6:FK 23 F31:=by
 refine zM (ZF) fun x hc C hC=>?_
 unfold nt at hc
 refine zk ws (ZF) (fun id _=>hC id) (zbW x.1) ?_
 generalize hy:jE x.1=y
 unfold jE at hy
 try simp only [Ep]
 repeat' (first | with_reducible refine ed hy hc (fun _ hy hc=>?_) (fun _ hy hc=>?_) | with_reducible refine aL hy (fun _ hy=>?_) (fun _ hy=>?_) | with_reducible refine aZ hc (fun hc=>?_) | with_reducible refine zn ?_)
 all_goals first | (cases hc; done) | (subst hy; first | rfl)

noncomputable def kB:=Eh.add 23 F31
theorem fF:zm kB:=ws.add V6

noncomputable def VP:zB:=zP (List.replicate 2 none) (bH kB Tryz.f37 (List.replicate 2 none))
theorem Rn:FK 37 VP:=ac _ fF (aG (by kernel_rfl))

abbrev Y4:Nat→zT:=fun _=>{ }
theorem Px:zz (kB).P 24 Tryz.f24 1:=aG (by kernel_rfl)
theorem X7 (x0:TS):rn kB 0 Y4 Tryz.f24 [zy Sh.str x0] []=Tr.br (decide ((↑(length x0):Int) > 20)) (Tr.chk (decide (0≤0)&&decide (0≤20)&&decide (20≤(↑(length x0):Int))) (Tr.ok (zp.ret (AV.str (List.take (toNat 20 - toNat 0) (List.drop (toNat 0) x0))) []))) (Tr.ok (zp.ret (AV.str x0) [])):=by kernel_rfl
def aO (x0:TS):Sem Sh.str:=(if decide ((↑(length x0):Int) > 20)=true then List.take (toNat 20 - toNat 0) (List.drop (toNat 0) x0) else x0)
def dr (x0:TS):Bool:=(if decide ((↑(length x0):Int) > 20)=true then if (decide (0≤0)&&decide (0≤20)&&decide (20≤(↑(length x0):Int)))=true then true else false else true)
def U5:zB:=zA [Sh.str] [Sh.str] (fun x=>dr x.1) fun x=>(aO x.1,())
theorem Qy:FK 24 U5:=by
 refine zM (Px) fun x hc C hC=>?_
 unfold dr at hc
 refine zk fF (Px) (fun id _=>hC id) (X7 x.1) ?_
 generalize hy:aO x.1=y
 unfold aO at hy
 try simp only [ze.eta]
 repeat' (first | with_reducible refine ed hy hc (fun _ hy hc=>?_) (fun _ hy hc=>?_) | with_reducible refine aL hy (fun _ hy=>?_) (fun _ hy=>?_) | with_reducible refine aZ hc (fun hc=>?_) | with_reducible refine zn ?_)
 all_goals first | (cases hc; done) | (subst hy; first | rfl)

abbrev SW:Nat→zT:=fun _=>{ }
theorem Jx:zz (kB).P 102 Tryz.f102 3:=aG (by kernel_rfl)
theorem Se (x0:Sem zf.sl) (x1:Sem zg) (x2:Sem zf):rn kB 0 SW Tryz.f102 [zy zf.sl x0,zy zg x1,zy zf x2] []=Tr.chk (bif decide (x1 ≥ 0) then bif decide (x1 < (↑(length x0):Int)) then zJ x1 (length x0) else true else true) (Tr.ok (zp.ret (AV.bool (bif decide (x1 ≥ 0) then bif decide (x1 < (↑(length x0):Int)) then (getD x0 (toNat x1) (zj zf)).1==x2.1&&((getD x0 (toNat x1) (zj zf)).2.1==x2.2.1&&((getD x0 (toNat x1) (zj zf)).2.2==x2.2.2&&true)) else false else false)) [])):=by kernel_rfl
def j7 (x0:Sem zf.sl) (x1:Sem zg) (x2:Sem zf):Sem Sh.bool:=(bif decide (x1 ≥ 0) then bif decide (x1 < (↑(length x0):Int)) then (getD x0 (toNat x1) (zj zf)).1==x2.1&&((getD x0 (toNat x1) (zj zf)).2.1==x2.2.1&&((getD x0 (toNat x1) (zj zf)).2.2==x2.2.2&&true)) else false else false)
def rr (x0:Sem zf.sl) (x1:Sem zg) (_:Sem zf):Bool:=(if (bif decide (x1 ≥ 0) then bif decide (x1 < (↑(length x0):Int)) then zJ x1 (length x0) else true else true)=true then true else false)
def N8:zB:=zA [zf.sl,zg,zf] [Sh.bool] (fun x=>rr x.1 x.2.1 x.2.2.1) fun x=>(j7 x.1 x.2.1 x.2.2.1,())
theorem DX:FK 102 N8:=by
 refine zM (Jx) fun x hc C hC=>?_
 unfold rr at hc
 refine zk fF (Jx) (fun id _=>hC id) (Se x.1 x.2.1 x.2.2.1) ?_
 generalize hy:j7 x.1 x.2.1 x.2.2.1=y
 unfold j7 at hy
 try simp only [ze.eta]
 repeat' (first | with_reducible refine ed hy hc (fun _ hy hc=>?_) (fun _ hy hc=>?_) | with_reducible refine aL hy (fun _ hy=>?_) (fun _ hy=>?_) | with_reducible refine aZ hc (fun hc=>?_) | with_reducible refine zn ?_)
 all_goals first | (cases hc; done) | (subst hy; first | rfl)

abbrev Pj:Nat→zT:=fun j=>if j=2 then { slots:=[0,1,5] } else { }
abbrev uB (l0:List (Sem zh)) (s1:TS) (i5:Int):St:={ tmps:=(tm 21 [(0,AV.sl zh l0),(1,AV.str s1),(5,ai i5)]),heap:=[] }
theorem EK:zz (kB).P 69 Tryz.f69 2:=aG (by kernel_rfl)
theorem X5 (x0:Sem zh.sl) (x1:TS):rn kB 0 Pj Tryz.f69 [zy zh.sl x0,zy Sh.str x1] []=Tr.ok (zp.head 2 (zw Tryz.f69 2) (uB x0 x1 0)):=by kernel_rfl
theorem EU (l0:List (Sem zh)) (s1:TS) (i5:Int):rh kB 0 Pj Tryz.f69 2 (uB l0 s1 i5)=Tr.br (decide (i5 < (↑l0.length:Int))) (Tr.chk (zJ i5 l0.length) (Tr.br ((l0.getD i5.toNat (zj zh)).1.1==s1) (Tr.ok (zp.ret (ai i5) [])) (Tr.ok (zp.head 2 (zw Tryz.f69 2) (uB l0 s1 (IntKind.i64.wrap (i5+1))))))) (Tr.ok (zp.ret (ai (-1)) [])):=by kernel_rfl
def f8 (s1:TS):List
 (Sem zh)→Int→Sem zg
 | [],_=>(-1)
 | x::r,i5=>(if (x.1.1==s1)=true then i5 else f8 s1 r (i5+1))
theorem L7 {C:cd} (hC:∀ id,C.ρ0 id=none) (s1:TS) (l0:List
 (Sem zh)) (hl:l0.length≤zD):∀ (m i:Nat),l0.length - i=m→i≤l0.length→
  Reach (kB) C 69 (zw Tryz.f69 2) (uB l0 s1 (i:Int)) (fun r h=>zY h [zg] r=some (f8 s1 (l0.drop i) i,())):=by
 intro m
 induction m with
 | zero=>
  intro i hm hi
  obtain rfl:i=l0.length:=by omega
  rw [dq]
  refine zk fF (EK) (fun id _=>hC id) (EU _ _ _) ?_
  generalize hy:f8 s1 [] _=y
  rw [f8] at hy
  simp only [af,Tr.val_brF]
  repeat' (first | with_reducible refine aL hy (fun _ hy=>?_) (fun _ hy=>?_) | with_reducible refine zn ?_)
  all_goals first | (cases hc; done) | (subst hy; first | rfl)
 | succ m IH=>
  intro i hm hi
  have hlt:i < l0.length:=by omega
  have IH:=IH (i+1)
  have hcast:((i:Int)+1)=((i+1:Nat):Int):=by omega
  have hwr:=zG i (by omega)
  rw [ez hlt]
  refine zk fF (EK) (fun id _=>hC id) (EU _ _ _) ?_
  generalize hy:f8 s1 (l0[i]::l0.drop (i+1)) (i:Int)=y
  rw [f8] at hy
  simp only [zV hlt,zF hlt,zZ l0 _ hlt,hwr,Tr.val_brT,Tr.val_chkT]
  clear hwr
  try simp only [zF hlt] at hy
  simp only [hcast] at hy
  repeat' (first | with_reducible refine aL hy (fun _ hy=>?_) (fun _ hy=>?_) | with_reducible refine zn ?_)
  all_goals first | (cases hc; done) | (subst hy; first | (change Reach _ _ _ _ _ _; apply IH <;> first | omega | assumption) | rfl)
theorem Hv {C:cd} (hC:∀ id,C.ρ0 id=none) (s1:TS) (l0:List
 (Sem zh)):
  Reach (kB) C 69 (zw Tryz.f69 2) (uB l0 s1 0) (fun r h=>zY h [zg] r=some (f8 s1 l0 0,())):=
 Reach.len 0 zh l0 rfl fun hl=>L7 hC s1 l0 hl _ 0 rfl (be _)
def Dy (x0:Sem zh.sl) (x1:TS):Sem zg:=(f8 x1 x0 0)
def UR:zB:=zX [zh.sl,Sh.str] [zg] fun x=>(Dy x.1 x.2.1,())
theorem Qm:FK 69 UR:=by
 refine zO (EK) fun x C hC=>?_
 refine zk fF (EK) (fun id _=>hC id) (X5 x.1 x.2.1) ?_
 generalize hy:Dy x.1 x.2.1=y
 unfold Dy at hy
 try simp only [ze.eta]
 repeat' (first | with_reducible refine aL hy (fun _ hy=>?_) (fun _ hy=>?_) | with_reducible refine zn ?_)
 all_goals first | (cases hc; done) | (subst hy; first | (change Reach _ _ _ _ _ _; apply Hv hC <;> first | assumption | exact hc) | rfl)

noncomputable def mI:=kB.addL [(37,VP),(24,U5),(102,N8),(69,UR)]
theorem gZ:zm mI:=fF.addL <| fc Rn <| fc Qy <| fc DX <| fc Qm g6

theorem yN (x:Sem (Sh.sl zf)) (c:Int) (v:Sem zf):rr x c v=true:=by
 unfold rr
 by_cases h1:(c:Int) ≥ 0
 ·by_cases h2:c < (length x:Int)
  ·have h3:zJ c (length x)=true:=by simp [zJ]; exact ⟨h1,h2⟩
   simp [bx h1,bx h2,h3]
  ·simp [bx h1,eO h2]
 ·simp [eO h1]
def N9:zB:=zX [Sh.sl zf,zg,zf] [Sh.bool] fun x=>(j7 x.1 x.2.1 x.2.2.1,())
theorem Ly:FK 102 N9:=dM DX fun x=>yN x.1 x.2.1 x.2.2.1

abbrev Pl:Nat→zT:=fun j=>if j=3 then { slots:=[0,3,4],prom:=[(3,none,.str)] } else { }
abbrev uC (l0:LS) (i4:Int) (lh_0:LS):St:={ tmps:=(tm 24 [(0,AV.sl Sh.str l0),(3,AV.vec 0),(4,ai i4)]),heap:=[AO.vec Sh.str lh_0] }
theorem EL:zz (mI).P 25 Tryz.f25 1:=aG (by kernel_rfl)
theorem X8 (x0:Sem Sh.str.sl):rn mI 0 Pl Tryz.f25 [zy Sh.str.sl x0] []=Tr.ok (zp.head 3 (zw Tryz.f25 3) (uC x0 0 [])):=by kernel_rfl
theorem EV (l0:LS) (i4:Int) (lh_0:LS):rh mI 0 Pl Tryz.f25 3 (uC l0 i4 lh_0)=Tr.br (bif decide (i4 < (↑l0.length:Int)) then decide (i4 < 10) else false) (Tr.chk (zJ i4 l0.length) (Tr.chk (dr (l0.getD i4.toNat (zj Sh.str))) (Tr.chk (decide (lh_0.length+[aO (l0.getD i4.toNat (zj Sh.str))].length≤1073741824)) (Tr.ok (zp.head 3 (zw Tryz.f25 3) (uC l0 (IntKind.i64.wrap (i4+1)) (lh_0++[aO (l0.getD i4.toNat (zj Sh.str))]))))))) (Tr.ok (zp.ret (AV.vec 0) [AO.vec Sh.str lh_0])):=by kernel_rfl
def cW:List (Sem Sh.str)→Int→List (Sem Sh.str)→Sem Sh.str.sl
 | [],_,lh_0=>(lh_0)
 | x::r,i4,lh_0=>(if decide (i4 < 10)=true then cW r (i4+1) (lh_0++[aO x]) else lh_0)
def dH:List (Sem Sh.str)→Int→List (Sem Sh.str)→Bool
 | [],_,_=>(true)
 | x::r,i4,lh_0=>(if decide (i4 < 10)=true then
 if dr x=true then if decide (lh_0.length+[aO x].length≤1073741824)=true then dH r (i4+1) (lh_0++[aO x]) else false else false
else true)
theorem L8 {C:cd} (hC:∀ id,C.ρ0 id=none) (l0:LS) (hl:l0.length≤zD):∀ (m i:Nat) (lh_0:LS),l0.length - i=m→i≤l0.length→dH (l0.drop i) i lh_0=true→
  Reach (mI) C 25 (zw Tryz.f25 3) (uC l0 (i:Int) lh_0) (fun r h=>zY h [Sh.str.sl] r=some (cW (l0.drop i) i lh_0,())):=by
 intro m
 induction m with
 | zero=>
  intro i lh_0 hm hi hc
  obtain rfl:i=l0.length:=by omega
  rw [dq] at hc ⊢
  refine zk gZ (EL) (fun id _=>hC id) (EV _ _ _) ?_
  rw [dH] at hc
  generalize hy:cW [] _ lh_0=y
  rw [cW] at hy
  simp only [af,bS,Tr.val_brF]
  repeat' (first | with_reducible refine ed hy hc (fun _ hy hc=>?_) (fun _ hy hc=>?_) | with_reducible refine aL hy (fun _ hy=>?_) (fun _ hy=>?_) | with_reducible refine aZ hc (fun hc=>?_) | with_reducible refine zn ?_)
  all_goals first | (cases hc; done) | (subst hy; first | rfl)
 | succ m IH=>
  intro i lh_0 hm hi hc
  have hlt:i < l0.length:=by omega
  have IH:=IH (i+1)
  have hcast:((i:Int)+1)=((i+1:Nat):Int):=by omega
  have hwr:=zG i (by omega)
  rw [ez hlt] at hc ⊢
  refine zk gZ (EL) (fun id _=>hC id) (EV _ _ _) ?_
  rw [dH] at hc
  generalize hy:cW (l0[i]::l0.drop (i+1)) (i:Int) lh_0=y
  rw [cW] at hy
  simp only [zV hlt,zF hlt,zZ l0 _ hlt,hwr,bG]
  clear hwr
  try simp only [zF hlt] at hy
  simp only [hcast] at hy
  try simp only [zF hlt] at hc
  try simp only [hcast] at hc
  repeat' (first | with_reducible refine ed hy hc (fun _ hy hc=>?_) (fun _ hy hc=>?_) | with_reducible refine aL hy (fun _ hy=>?_) (fun _ hy=>?_) | with_reducible refine aZ hc (fun hc=>?_) | with_reducible refine zn ?_)
  all_goals first | (cases hc; done) | (subst hy; first | (change Reach _ _ _ _ _ _; apply IH <;> first | omega | assumption) | rfl)
theorem Hx {C:cd} (hC:∀ id,C.ρ0 id=none) (l0:LS) (lh_0:LS) (hc:dH l0 0 lh_0=true):
  Reach (mI) C 25 (zw Tryz.f25 3) (uC l0 0 lh_0) (fun r h=>zY h [Sh.str.sl] r=some (cW l0 0 lh_0,())):=
 Reach.len 0 (Sh.str) l0 rfl fun hl=>L8 hC l0 hl _ 0 lh_0 rfl (be _) hc
def eW (x0:Sem Sh.str.sl):Sem Sh.str.sl:=(cW x0 0 [])
def lr (x0:Sem Sh.str.sl):Bool:=(dH x0 0 [])
def U8:zB:=zA [Sh.str.sl] [Sh.str.sl] (fun x=>lr x.1) fun x=>(eW x.1,())
theorem QB:FK 25 U8:=by
 refine zM (EL) fun x hc C hC=>?_
 unfold lr at hc
 refine zk gZ (EL) (fun id _=>hC id) (X8 x.1) ?_
 generalize hy:eW x.1=y
 unfold eW at hy
 try simp only [ze.eta]
 repeat' (first | with_reducible refine ed hy hc (fun _ hy hc=>?_) (fun _ hy hc=>?_) | with_reducible refine aL hy (fun _ hy=>?_) (fun _ hy=>?_) | with_reducible refine aZ hc (fun hc=>?_) | with_reducible refine zn ?_)
 all_goals first | (cases hc; done) | (subst hy; first | (change Reach _ _ _ _ _ _; apply Hx hC <;> first | assumption | exact hc) | rfl)

abbrev ry (s:zq) (l:List (Sem zh)) (i:Int):St:={ tmps:=[.sl zh l,.clo (.func 37) [] [.ptr 0 0],.any,.any,.any,.any,.any,.int .i64 l.length,.int .i64 i,.any,.any,.any,.any,.any,.any,.any,.any,.any,.any],heap:=[.box [.str s]] }
theorem It (s:zq) (l:List (Sem zh)):run mI 1 kM Tryz.f36.results.toList 300 (ao Tryz.f36) (zU Tryz.f36.ntmps [.sl zh l,.clo (.func 37) [] [.ptr 0 0]] [.box [.str s]])=.ok (.head 2 (zw Tryz.f36 2) (ry s l 0)):=by kernel_rfl
theorem JR (s:zq) (l:List (Sem zh)) (i:Int):run mI 1 kM Tryz.f36.results.toList 300 (zw Tryz.f36 2) (ry s l i)=gq (K:=zw Tryz.f36 2) (e:=zh) l (fun x=>x.1.1==s) (ry s l) [.box [.str s]] i:=by kernel_rfl

theorem JF:zz mI.P 36 Tryz.f36 2:=aG (by kernel_rfl)
def Xq:cg [some (.sl zh),none]:=fun x h=>match x,h with
 | (l,.clo (.func 37) [] [.ptr 0 0],_),[.box [.str s]]=>.ok (.int .i64 (zQ (fun x=>x.1.1==s) l 0),[.box [.str s]])
 | _,_=>.err
def VO:zB:=zP [some (.sl zh),none] Xq
theorem Rm:FK 36 VO:=by
 refine bc JF fun x h0 res hx C hC=>?_
 unfold Xq at hx
 split at hx
 ·rename_i l u s
  simp only [Tr.val_ok,ae] at hx
  subst hx
  refine Reach.len 0 zh l rfl fun hl=>?_
  refine zk (n0:=1) gZ JF hC (It s l) ?_
  exact dR l (fun x=>x.1.1==s) (ry s l) gZ JF hC (JR s l) hl _ 0 rfl (be _)
 ·simp at hx

noncomputable def A2:=mI.addL [(102,N9),(25,U8),(36,VO)]
theorem pi:zm A2:=gZ.addL <| fc Ly <| fc QB <| fc Rm g6

noncomputable def N7:zB:=zP (List.replicate 3 none) (bH A2 Tryz.f101 (List.replicate 3 none))
theorem Lw:FK 101 N7:=ac _ pi (aG (by kernel_rfl))

abbrev Zc:Nat→zT:=fun _=>{ }
theorem Pz:zz (A2).P 16 Tryz.f16 2:=aG (by kernel_rfl)
theorem Ye (x0:Sem zh.sl) (x1:TS):rn A2 0 Zc Tryz.f16 [zy zh.sl x0,zy Sh.str x1] []=Tr.ok (zp.ret (ai (zQ (fun x=>x.1.1==x1) x0 0)) []):=by kernel_rfl
def ar (x0:Sem zh.sl) (x1:TS):Sem zg:=(zQ (fun x=>x.1.1==x1) x0 0)
def Vr:zB:=zX [zh.sl,Sh.str] [zg] fun x=>(ar x.1 x.2.1,())
theorem QX:FK 16 Vr:=by
 refine zO (Pz) fun x C hC=>?_
 refine zk pi (Pz) (fun id _=>hC id) (Ye x.1 x.2.1) ?_
 generalize hy:ar x.1 x.2.1=y
 unfold ar at hy
 try simp only [ze.eta]
 repeat' (first | with_reducible refine aL hy (fun _ hy=>?_) (fun _ hy=>?_) | with_reducible refine zn ?_)
 all_goals first | (cases hc; done) | (subst hy; first | rfl)

noncomputable def A3:=A2.addL [(101,N7),(16,Vr)]
theorem pj:zm A3:=pi.addL <| fc Lw <| fc QX g6

abbrev mo (c a b:Int) (s:zq) (l:List (Sem (Sh.sl zf))) (i:Int):St:={ tmps:=[.sl (Sh.sl zf) l,.clo (.func 101) [] [.ptr 0 0,.ptr 1 0],.any,.any,.any,.any,.any,.int .i64 l.length,.int .i64 i,.any,.any,.any,.any,.any,.any,.any,.any,.any,.any],heap:=[.box [.int .i64 c],.box [.int .i64 a,.int .i64 b,.str s]] }
theorem CW (c a b:Int) (s:zq) (l:List (Sem (Sh.sl zf))):run A3 2 kM Tryz.f88.results.toList 300 (ao Tryz.f88) (zU Tryz.f88.ntmps [.sl (Sh.sl zf) l,.clo (.func 101) [] [.ptr 0 0,.ptr 1 0]] [.box [.int .i64 c],.box [.int .i64 a,.int .i64 b,.str s]])=.ok (.head 2 (zw Tryz.f88 2) (mo c a b s l 0)):=by kernel_rfl
theorem Dg (c a b:Int) (s:zq) (l:List (Sem (Sh.sl zf))) (i:Int):run A3 2 kM Tryz.f88.results.toList 300 (zw Tryz.f88 2) (mo c a b s l i)=gq (K:=zw Tryz.f88 2) (e:=(Sh.sl zf)) l (fun x=>j7 x c (a,b,s)) (mo c a b s l) [.box [.int .i64 c],.box [.int .i64 a,.int .i64 b,.str s]] i:=by kernel_rfl

theorem De:zz A3.P 88 Tryz.f88 2:=aG (by kernel_rfl)
def OH:cg [some (.sl (Sh.sl zf)),none]:=fun x h=>match x,h with
 | (l,.clo (.func 101) [] [.ptr 0 0,.ptr 1 0],_),[.box [.int .i64 c],.box [.int .i64 a,.int .i64 b,.str s]]=>.ok (.int .i64 (zQ (fun x=>j7 x c (a,b,s)) l 0),[.box [.int .i64 c],.box [.int .i64 a,.int .i64 b,.str s]])
 | _,_=>.err
def Og:zB:=zP [some (.sl (Sh.sl zf)),none] OH
theorem LJ:FK 88 Og:=by
 refine bc De fun x h0 res hx C hC=>?_
 unfold OH at hx
 split at hx
 ·rename_i l u c a b s
  simp only [Tr.val_ok,ae] at hx
  subst hx
  refine Reach.len 0 (Sh.sl zf) l rfl fun hl=>?_
  refine zk (n0:=2) pj De hC (CW c a b s l) ?_
  exact dR l (fun x=>j7 x c (a,b,s)) (mo c a b s l) pj De hC (Dg c a b s l) hl _ 0 rfl (be _)
 ·simp at hx

noncomputable def H3:=A3.add 88 Og
theorem wt:zm H3:=pj.add LJ

noncomputable def N6:zB:=zP (List.replicate 2 none) (bH H3 Tryz.f100 (List.replicate 2 none))
theorem Lv:FK 100 N6:=ac _ wt (aG (by kernel_rfl))

noncomputable def Ei:=H3.add 100 N6
theorem pk:zm Ei:=wt.add Lv
noncomputable section

abbrev SN:Nat→zT:=fun _=>{ }
theorem Jr:zz (Ei).P 59 Tryz.f59 3:=aG (by kernel_rfl)
theorem R8 (x0:Sem zh) (x1:Sem zg) (x2:Sem zf):rn Ei 0 SN Tryz.f59 [zy zh x0,zy zg x1,zy zf x2] []=Tr.ok (zp.ret (AV.bool (decide (zQ (fun x=>j7 x x1 x2) x0.2 0 ≥ 0))) []):=by kernel_rfl
def kN (x0:Sem zh) (x1:Sem zg) (x2:Sem zf):Sem Sh.bool:=(decide (zQ (fun x=>j7 x x1 x2) x0.2 0 ≥ 0))
def NL:zB:=zX [zh,zg,zf] [Sh.bool] fun x=>(kN x.1 x.2.1 x.2.2.1,())
theorem K9:FK 59 NL:=by
 refine zO (Jr) fun x C hC=>?_
 refine zk pk (Jr) (fun id _=>hC id) (R8 x.1 x.2.1 x.2.2.1) ?_
 generalize hy:kN x.1 x.2.1 x.2.2.1=y
 unfold kN at hy
 try simp only [ze.eta]
 repeat' (first | with_reducible refine aL hy (fun _ hy=>?_) (fun _ hy=>?_) | with_reducible refine zn ?_)
 all_goals first | (cases hc; done) | (subst hy; first | rfl)

abbrev SL:=kP [(3,[1,5,11,12,13])]
inductive vN where
 | h3 (i1:Sem zg) (l11:List (Sem zf.sl)) (i12:Int) (i13:Int) (mh_0:List ((Int×Int×zq)×Int))
abbrev XJ:vN→Nat×St
 | .h3 i1 l11 i12 i13 mh_0=>(3,⟨tm 37 [(1,ai i1),(5,AV.mp 0),(11,AV.sl zf.sl l11),(12,ai i12),(13,ai i13)],[AO.vmap false mh_0]⟩)
def Pd (x0:Sem zh) (x1:Sem zg):Tr (vN ⊕ ag):=Tr.to (vN.h3 x1 x0.2 (↑(length x0.2):Int) 0 [])
def qH:vN→Tr (vN ⊕ ag)
 | .h3 i1 l11 i12 i13 mh_0=>
  let a0:=l11.getD i13.toNat (zj zf.sl)
  let a1:=getD a0 (toNat i1) (zj zf)
  let a2:=(↑(iv mh_0 a1):Int)
  let a3:=gk mh_0 a1
  let a4:=gu a3 a2.toNat (IntKind.i64.wrap (ef mh_0 a1+1))
  let a5:=ef a4 a1
  Tr.br (decide (i13 < i12))
  (Tr.chk (zJ i13 l11.length)
   (Tr.chk (zJ i1 (length a0)) (Tr.chk (decide (mh_0.length≤1073741824)) (Tr.chk (zJ a2 a3.length) (Tr.br (bif a1.1 != 0 then decide (a5 > 1) else false) (Tr.re (AV.kb true) []) (Tr.to (vN.h3 i1 l11 i12 (IntKind.i64.wrap (i13+1)) a4)))))))
  (Tr.re (AV.kb false) [])
def rt (x0:Sem zh) (x1:Sem zg):=ap [Sh.bool] qH 100000000 (Pd x0 x1)
def mg (x0:Sem zh) (x1:Sem zg):=(rt x0 x1).isSome
def pJ (x0:Sem zh) (x1:Sem zg):=o1 (rt x0 x1)
def NK:=FT [zh,zg] [Sh.bool] fun x=>rt x.1 x.2.1
theorem K8:FK 57 NK:=pk.T1 (f:=Tryz.f57) (keep:=SL) (e:=XJ)

def OV:=Ei.addL [(59,NL),(57,NK)]
theorem pl:zm OV:=pk.addL <| fc K9 <| fc K8 g6
end
noncomputable section

abbrev Zi:=kP [(6,[1,18,19,20]),(15,[1,39,40,41]),(21,[1,8])]
inductive vd where
 | h6 (l18:List (Sem zf.sl)) (i19:Int) (i20:Int) (z0:zr [CP.d zh])
 | h15 (l39:LI) (i40:Int) (i41:Int) (z0:zr [CP.d zh])
 | h21 (i8:Int) (z0:zr [CP.d zh])
abbrev zbz:vd→Nat×St
 | .h6 l18 i19 i20 z0=>(6,⟨tm 79 [(1,AV.ptr 0 0),(18,AV.sl zf.sl l18),(19,ai i19),(20,ai i20)],[AO.box (bu [] [CP.d zh] z0)]⟩)
 | .h15 l39 i40 i41 z0=>(15,⟨tm 79 [(1,AV.ptr 0 0),(39,AV.sl zg l39),(40,ai i40),(41,ai i41)],[AO.box (bu [] [CP.d zh] z0)]⟩)
 | .h21 i8 z0=>(21,⟨tm 79 [(1,AV.ptr 0 0),(8,ai i8)],[AO.box (bu [] [CP.d zh] z0)]⟩)
def Gq (x0:Sem zh):Tr (vd ⊕ ag):=Tr.br (!kf (x0.1.1,x0.1.2.1,x0.1.2.2.1,x0.1.2.2.2.1,x0.1.2.2.2.2.1,zC x0.1.2.2.2.2.2)) (Tr.re (ai 1) []) (Tr.br (decide ((↑(length x0.2):Int) > 200)) (Tr.re (ai 13) []) (Tr.to (vd.h6 x0.2 (↑(length x0.2):Int) 0 (x0,()))))
def eM:vd→Tr (vd ⊕ ag)
 | .h6 l18 i19 i20 z0=>
  let a0:=(z0.1.1.1,z0.1.1.2.1,z0.1.1.2.2.1,z0.1.1.2.2.2.1,z0.1.1.2.2.2.2.1,zC z0.1.1.2.2.2.2.2)
  let a1:=iL a0 (l18.getD i20.toNat (zj zf.sl))
  let a2:=(a0,z0.1.2)
  Tr.br (decide (i20 < i19))
  (Tr.chk (zJ i20 l18.length) (Tr.br (a1 != 0) (Tr.re (ai a1) []) (Tr.to (vd.h6 l18 i19 (IntKind.i64.wrap (i20+1)) z0))))
  (Tr.chk (mg a2 z0.1.1.2.2.1)
   (Tr.br (pJ a2 z0.1.1.2.2.1) (Tr.re (ai 7) []) (Tr.to (vd.h15 z0.1.1.2.2.2.1 (↑(length z0.1.1.2.2.2.1):Int) 0 z0))))
 | .h15 l39 i40 i41 z0=>
  let a0:=((z0.1.1.1,z0.1.1.2.1,z0.1.1.2.2.1,z0.1.1.2.2.2.1,z0.1.1.2.2.2.2.1,zC z0.1.1.2.2.2.2.2),z0.1.2)
  let a1:=l39.getD i41.toNat (zj zg)
  Tr.br (decide (i41 < i40))
  (Tr.chk (zJ i41 l39.length)
   (Tr.chk (mg a0 a1) (Tr.br (pJ a0 a1) (Tr.re (ai 7) []) (Tr.to (vd.h15 l39 i40 (IntKind.i64.wrap (i41+1)) z0)))))
  (Tr.to (vd.h21 1 z0))
 | .h21 i8 z0=>
  let a0:=(↑(length z0.1.2):Int)
  let a1:=IntKind.i64.wrap (i8 - 1)
  let a2:=getD z0.1.2 a1.toNat (zj zf.sl)
  let a3:=getD z0.1.2 i8.toNat (zj zf.sl)
  let a4:=aP (getD a2 (toNat z0.1.1.2.2.1) (zj zf)) (getD a3 (toNat z0.1.1.2.2.1) (zj zf))
  Tr.br (decide (i8 < a0))
  (Tr.chk (zJ a1 (length z0.1.2))
   (Tr.chk (zJ z0.1.1.2.2.1 (length a2)) (Tr.chk (zJ i8 (length z0.1.2)) (Tr.chk (zJ z0.1.1.2.2.1 (length a3)) (Tr.br (decide (a4 ≥ 0)) (Tr.re (ai 15) []) (Tr.to (vd.h21 (IntKind.i64.wrap (i8+1)) z0)))))))
  (Tr.re (ai 0) [])
def j6 (x0:Sem zh):=ap [zg] eM 100000000 (Gq x0)
def mf (x0:Sem zh):=(j6 x0).isSome
def pI (x0:Sem zh):=o1 (j6 x0)
def Vx:=FT [zh] [zg] fun x=>j6 x.1
theorem Q5:FK 29 Vx:=pl.T1 (f:=Tryz.f29) (keep:=Zi) (e:=zbz)

abbrev Zj:=kP [(2,[0,11,12,13]),(5,[0,4,11,12,13,19,20,21]),(11,[0,4,6,7,11,12,13,19,20,21,32,33,34])]
inductive ve where
 | h2 (l0:List (Sem zh)) (l11:List (Sem zh)) (i12:Int) (i13:Int)
 | h5 (l0:List (Sem zh)) (l11:List (Sem zh)) (i12:Int) (i13:Int) (l19:LF) (i20:Int) (i21:Int) (z0:zr [CP.d zh])
 | h11 (l0:List (Sem zh)) (i7:Sem zg) (l11:List (Sem zh)) (i12:Int) (i13:Int) (l19:LF) (i20:Int) (i21:Int) (l32:List (Sem zf.sl)) (i33:Int) (i34:Int) (z0:zr [CP.d zh]) (z1:zr [CP.d zo])
abbrev zbA:ve→Nat×St
 | .h2 l0 l11 i12 i13=>(2,⟨tm 64 [(0,AV.sl zh l0),(11,AV.sl zh l11),(12,ai i12),(13,ai i13)],[]⟩)
 | .h5 l0 l11 i12 i13 l19 i20 i21 z0=>(5,⟨tm 64 [(0,AV.sl zh l0),(4,AV.ptr 0 0),(11,AV.sl zh l11),(12,ai i12),(13,ai i13),(19,AV.sl zo l19),(20,ai i20),(21,ai i21)],[AO.box (bu [] [CP.d zh] z0)]⟩)
 | .h11 l0 i7 l11 i12 i13 l19 i20 i21 l32 i33 i34 z0 z1=>(11,⟨tm 64 [(0,AV.sl zh l0),(4,AV.ptr 0 0),(6,AV.ptr 1 0),(7,ai i7),(11,AV.sl zh l11),(12,ai i12),(13,ai i13),(19,AV.sl zo l19),(20,ai i20),(21,ai i21),(32,AV.sl zf.sl l32),(33,ai i33),(34,ai i34)],[AO.box (bu [] [CP.d zh] z0),AO.box (bu [] [CP.d zo] z1)]⟩)
def YU (x0:Sem zh.sl):Tr (ve ⊕ ag):=Tr.to (ve.h2 x0 x0 (↑(length x0):Int) 0)
def ep:ve→Tr (ve ⊕ ag)
 | .h2 l0 l11 i12 i13=>
  let a0:=l11.getD i13.toNat (zj zh)
  Tr.br (decide (i13 < i12))
  (Tr.chk (zJ i13 l11.length) (Tr.to (ve.h5 l0 l11 i12 i13 a0.1.2.2.2.2.1 (↑(length a0.1.2.2.2.2.1):Int) 0 (a0,()))))
  (Tr.re (AV.kb true) [])
 | .h5 l0 l11 i12 i13 l19 i20 i21 z0=>
  let a0:=l19.getD i21.toNat (zj zo)
  let a1:=ar l0 a0.2
  Tr.br (decide (i21 < i20))
  (Tr.chk (zJ i21 l19.length)
   (Tr.br (decide (a1 < 0)) (Tr.re (AV.kb false) []) (Tr.to (ve.h11 l0 a1 l11 i12 i13 l19 i20 i21 z0.1.2 (↑(length z0.1.2):Int) 0 z0 (a0,())))))
  (Tr.to (ve.h2 l0 l11 i12 (IntKind.i64.wrap (i13+1))))
 | .h11 l0 i7 l11 i12 i13 l19 i20 i21 l32 i33 i34 z0 z1=>
  let a0:=l32.getD i34.toNat (zj zf.sl)
  let a1:=getD a0 (toNat z1.1.1) (zj zf)
  let a2:=a1.1 != 0
  let a3:=l0.getD (toNat i7) (zj zh)
  Tr.br (decide (i34 < i33))
  (Tr.chk (zJ i34 l32.length)
   (Tr.chk (zJ z1.1.1 (length a0)) (Tr.chk (bif a2 then zJ i7 l0.length&&zJ i7 l0.length else true) (Tr.br (bif a2 then !kN ((a3.1.1,a3.1.2.1,a3.1.2.2.1,a3.1.2.2.2.1,a3.1.2.2.2.2.1,zC a3.1.2.2.2.2.2),a3.2) a3.1.2.2.1 a1 else false) (Tr.re (AV.kb false) []) (Tr.to (ve.h11 l0 i7 l11 i12 i13 l19 i20 i21 l32 i33 (IntKind.i64.wrap (i34+1)) z0 z1))))))
  (Tr.to (ve.h5 l0 l11 i12 i13 l19 i20 (IntKind.i64.wrap (i21+1)) z0))
def nI (x0:Sem zh.sl):=ap [Sh.bool] ep 100000000 (YU x0)
def lM (x0:Sem zh.sl):=(nI x0).isSome
def oX (x0:Sem zh.sl):=o1 (nI x0)
def Vy:=FT [zh.sl] [Sh.bool] fun x=>nI x.1
theorem Q6:FK 30 Vy:=pl.T1 (f:=Tryz.f30) (keep:=Zj) (e:=zbA)

def OW:=OV.addL [(29,Vx),(30,Vy)]
theorem wu:zm OW:=pl.addL <| fc Q5 <| fc Q6 g6
end
noncomputable section

abbrev Y6:=kP [(4,[0,3]),(9,[0,30,31,32])]
inductive Ao where
 | h4 (l0:List (Sem zh)) (i3:Int)
 | h9 (l0:List (Sem zh)) (l30:List (Sem zh)) (i31:Int) (i32:Int)
abbrev zbt:Ao→Nat×St
 | .h4 l0 i3=>(4,⟨tm 45 [(0,AV.sl zh l0),(3,ai i3)],[]⟩)
 | .h9 l0 l30 i31 i32=>(9,⟨tm 45 [(0,AV.sl zh l0),(30,AV.sl zh l30),(31,ai i31),(32,ai i32)],[]⟩)
def ML (x0:Sem zh.sl):Tr (Ao ⊕ ag):=Tr.br (decide ((↑(length x0):Int) > 12)) (Tr.re (ai 13) []) (Tr.to (Ao.h4 x0 1))
def ka:Ao→Tr (Ao ⊕ ag)
 | .h4 l0 i3=>
  let a0:=IntKind.i64.wrap (i3 - 1)
  let a1:=l0.getD a0.toNat (zj zh)
  let a2:=l0.getD i3.toNat (zj zh)
  Tr.br (decide (i3 < (↑l0.length:Int)))
  (Tr.chk (zJ a0 l0.length)
   (Tr.chk (zJ i3 l0.length) (Tr.br (!Op.bytesLess a1.1.1 a2.1.1) (Tr.re (ai 15) []) (Tr.to (Ao.h4 l0 (IntKind.i64.wrap (i3+1)))))))
  (Tr.to (Ao.h9 l0 l0 (↑l0.length:Int) 0))
 | .h9 l0 l30 i31 i32=>
  let a0:=l30.getD i32.toNat (zj zh)
  let a1:=((a0.1.1,a0.1.2.1,a0.1.2.2.1,a0.1.2.2.2.1,a0.1.2.2.2.2.1,zC a0.1.2.2.2.2.2),a0.2)
  let a2:=pI a1
  Tr.br (decide (i32 < i31))
  (Tr.chk (zJ i32 l30.length)
   (Tr.chk (mf a1) (Tr.br (a2 != 0) (Tr.re (ai a2) []) (Tr.to (Ao.h9 l0 l30 i31 (IntKind.i64.wrap (i32+1)))))))
  (Tr.chk (lM l0) (Tr.br (!oX l0) (Tr.re (ai 10) []) (Tr.re (ai 0) [])))
def nK (x0:Sem zh.sl):=ap [zg] ka 100000000 (ML x0)
def nJ (x0:Sem zh.sl):=(nK x0).isSome
def iQ (x0:Sem zh.sl):=o1 (nK x0)
def Ve:=FT [zh.sl] [zg] fun x=>nK x.1
theorem QJ:FK 11 Ve:=wu.T1 (f:=Tryz.f11) (keep:=Y6) (e:=zbt)

def eU:=OW.add 11 Ve
theorem bB:zm eU:=wu.add QJ
end
section
variable {σ:Type} {t:σ→Tr (σ ⊕ ag)}

def bv (t:σ→Tr (σ ⊕ ag)) (k:Nat) (s:σ) (r:ag):Prop:=∀ n,k≤n→dh t n s=some r
def aM (t:σ→Tr (σ ⊕ ag)) (m:Nat) (s s':σ):Prop:=∀ k r,bv t k s' r→bv t (k+m) s r

theorem bv.mono {k k':Nat} {s:σ} {r:ag} (h:bv t k s r) (hk:k≤k'):bv t k' s r:=fun n hn=>h n (by omega)
theorem bv.of {s:σ} {r:ag} (h:(t s).val=some (.inr r)):bv t 1 s r:=by
 intro n hn
 obtain ⟨n,rfl⟩:∃ k,n=k+1:=⟨n - 1,by omega⟩
 rw [dh,h]
theorem aM.of {s s':σ} (h:(t s).val=some (.inl s')):aM t 1 s s':=by
 intro k r hr n hn
 obtain ⟨n,rfl⟩:∃ k,n=k+1:=⟨n - 1,by omega⟩
 rw [dh,h]
 exact hr n (by omega)
theorem aM.refl (s:σ):aM t 0 s s:=fun _ _ h=>h
theorem aM.trans {a b:Nat} {s s' s'':σ} (h1:aM t a s s') (h2:aM t b s' s''):aM t (b+a) s s'':=fun k r h=>(h1 _ _ (h2 k r h)).mono (by omega)
theorem aM.mono {a b:Nat} {s s':σ} (h:aM t a s s') (hk:a≤b):aM t b s s':=fun k r hr=>(h k r hr).mono (by omega)
theorem aM.ends {a k:Nat} {s s':σ} {r:ag} (h1:aM t a s s') (h2:bv t k s' r):bv t (k+a) s r:=h1 k r h2

theorem aM.all (m:Nat) (st:Nat→σ):∀ (N:Nat),(∀ i,i < N→aM t m (st i) (st (i+1)))→aM t (N * m) (st 0) (st N)
 | 0,_=>(aM.refl _).mono (by omega)
 | N+1,h=>((aM.all m st N fun i hi=>h i (by omega)).trans (h N (by omega))).mono (by rw [kv]; omega)

theorem Hq {Φ:ag→Prop} (m:Nat) (st:Nat→σ) (P:Nat→Prop):∀ (N:Nat),(∀ i,i < N→(∀ j,j < i→P j)→(P i∧aM t m (st i) (st (i+1)))∨(¬ P i∧∃ r,bv t m (st i) r∧Φ r))→
  ((∀ i,i < N→P i)∧aM t (N * m) (st 0) (st N))∨((¬ ∀ i,i < N→P i)∧∃ r,bv t (N * m) (st 0) r∧Φ r)
 | 0,_=>.inl ⟨fun i hi=>absurd hi (by omega),(aM.refl _).mono (by omega)⟩
 | N+1,h=>by
  rcases Hq m st P N fun i hi=>h i (by omega) with ⟨h1,h2⟩ | ⟨h1,r,h2,h3⟩
  ·rcases h N (by omega) h1 with ⟨h4,h5⟩ | ⟨h4,r,h5,h6⟩
   ·refine .inl ⟨fun i hi=>?_,(h2.trans h5).mono (by rw [kv]; omega)⟩
    rcases Nat.lt_succ_iff_lt_or_eq.1 hi with hi | rfl
    ·exact h1 i hi
    ·exact h4
   ·exact .inr ⟨fun h=>h4 (h N (by omega)),r,(h2.ends h5).mono (by rw [kv]; omega),h6⟩
  ·exact .inr ⟨fun h=>h1 fun i hi=>h i (by omega),r,h2.mono (by rw [kv]; omega),h3⟩

theorem bC {outs:List Sh} {n k:Nat} {i:Tr (σ ⊕ ag)} {s:σ} {r:ag} {y:zu (outs.map some)} (hi:i.val=some (.inl s)) (h:bv t k s r) (hk:k≤n) (hr:zY r.2 outs r.1=some y):ap outs t n i=some y:=by
 unfold ap cx
 rw [hi]
 show (dh t n s).bind _=_
 rw [h n hk]
 exact hr
theorem f4 {outs:List Sh} {n:Nat} {i:Tr (σ ⊕ ag)} {r:ag} {y:zu (outs.map some)} (hi:i.val=some (.inr r)) (hr:zY r.2 outs r.1=some y):ap outs t n i=some y:=by
 unfold ap cx
 rw [hi]
 exact hr
end
end Cad
