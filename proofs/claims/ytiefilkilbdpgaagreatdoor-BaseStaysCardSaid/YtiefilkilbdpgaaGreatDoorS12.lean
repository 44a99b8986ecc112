/- Statements: what a CREATE has. Functions on a variable to which a pointer leads. Functions as the machine goes through them, round by round. -/
import Derived.Test.YtiefilkilbdpgaaGreatDoorS11
namespace Cad
open Go Go.Proofs
open Int (toNat)
open List (getD)
open List (length)
set_option maxHeartbeats 4000000

abbrev zhE:Nat→ah:=fun _=>{ }
theorem zeB:zA (ic).P 150 Tryz.f150 1:=aQ (by kernel_rfl)
theorem zgX (x0:Sem zm):rn ic 0 zhE Tryz.f150 [zz zm x0] []=Tr.ok (zt.ret (AV.bool (bif bif decide ((↑(length x0.2.2.2.2.1):Int) < 1) then true else decide ((↑(length x0.2.2.2.2.1):Int) > 8) then false else bif !decide (zL (fun x => !g7 x) x0.2.2.2.2.1 0 ≥ 0) then bif bE x0.2.2.2.2.2.1 then bif bif decide ((↑(length x0.2.2.2.2.2.2.1):Int) < 0) then true else decide ((↑(length x0.2.2.2.2.2.2.1):Int) > 8) then false else bif !decide (zL (fun x => !bE x) x0.2.2.2.2.2.2.1 0 ≥ 0) then bif bif decide ((↑(length x0.2.2.2.2.2.2.2.1):Int) < 0) then true else decide ((↑(length x0.2.2.2.2.2.2.2.1):Int) > 8) then false else bif !decide (zL (fun x => !mX x) x0.2.2.2.2.2.2.2.1 0 ≥ 0) then oP (zE x0.2.2.2.2.2.2.2.2.1) else false else false else false else false)) []):=by kernel_rfl
def eL (x0:Sem zm):Sem Sh.bool:=(bif bif decide ((↑(length x0.2.2.2.2.1):Int) < 1) then true else decide ((↑(length x0.2.2.2.2.1):Int) > 8) then false else bif !decide (zL (fun x => !g7 x) x0.2.2.2.2.1 0 ≥ 0) then bif bE x0.2.2.2.2.2.1 then bif bif decide ((↑(length x0.2.2.2.2.2.2.1):Int) < 0) then true else decide ((↑(length x0.2.2.2.2.2.2.1):Int) > 8) then false else bif !decide (zL (fun x => !bE x) x0.2.2.2.2.2.2.1 0 ≥ 0) then bif bif decide ((↑(length x0.2.2.2.2.2.2.2.1):Int) < 0) then true else decide ((↑(length x0.2.2.2.2.2.2.2.1):Int) > 8) then false else bif !decide (zL (fun x => !mX x) x0.2.2.2.2.2.2.2.1 0 ≥ 0) then oP x0.2.2.2.2.2.2.2.2.1 else false else false else false else false)
def F81:zF:=aw [zm] [Sh.bool] fun x=>(eL x.1,())
theorem zaY:FK 150 F81:=by
 refine zS (zeB) fun x C hC=>?_
 refine zk ec (zeB) (fun id _=>hC id) (zgX x.1) ?_
 generalize hy:eL x.1=y
 unfold eL at hy
 try simp only [ze.eta]
 repeat' (first | with_reducible refine ba hy (fun _ hy=>?_) (fun _ hy=>?_) | with_reducible refine zr ?_)
 all_goals first | (cases hc; done) | (subst hy; first | rfl)

abbrev zdL:Nat→ah:=fun j=>if j=3 then { slots:=[1,5,8,9,10],prom:=[(5,none,.str)] } else { }
abbrev DZ (l8:List (Sem (Sh.str.pr Sh.expr))) (i9:Int) (i10:Int) (lh_0:LS):St:={ tmps:=(tm 23 [(1,AV.clo (Fn.func 162) [] []),(5,AV.vec 0),(8,AV.sl (Sh.str.pr Sh.expr) l8),(9,ai i9),(10,ai i10)]),heap:=[AO.vec Sh.str lh_0] }
theorem Qi:zA (ic).P 164 Tryz.f164 2:=aQ (by kernel_rfl)
theorem zg7 (x0:Sem aN.sl):rn ic 0 zdL Tryz.f164 [zz aN.sl x0,AV.clo (Fn.func 162) [] []] []=Tr.ok (zt.head 3 (zy Tryz.f164 3) (DZ x0 (↑(length x0):Int) 0 [])):=by kernel_rfl
theorem M1 (l8:List (Sem (Sh.str.pr Sh.expr))) (i9:Int) (i10:Int) (lh_0:LS):rh ic 0 zdL Tryz.f164 3 (DZ l8 i9 i10 lh_0)=Tr.br (decide (i10 < i9)) (Tr.chk (zI i10 l8.length) (Tr.chk (jz ((l8.getD i10.toNat (zj (Sh.str.pr Sh.expr))).1,ze.mk (ze.op (l8.getD i10.toNat (zj (Sh.str.pr Sh.expr))).2) (ze.v (l8.getD i10.toNat (zj (Sh.str.pr Sh.expr))).2) (ze.s (l8.getD i10.toNat (zj (Sh.str.pr Sh.expr))).2) (ze.l (l8.getD i10.toNat (zj (Sh.str.pr Sh.expr))).2))) (Tr.chk (decide (lh_0.length+[ei ((l8.getD i10.toNat (zj (Sh.str.pr Sh.expr))).1,ze.mk (ze.op (l8.getD i10.toNat (zj (Sh.str.pr Sh.expr))).2) (ze.v (l8.getD i10.toNat (zj (Sh.str.pr Sh.expr))).2) (ze.s (l8.getD i10.toNat (zj (Sh.str.pr Sh.expr))).2) (ze.l (l8.getD i10.toNat (zj (Sh.str.pr Sh.expr))).2))].length≤1073741824)) (Tr.ok (zt.head 3 (zy Tryz.f164 3) (DZ l8 i9 (IntKind.i64.wrap (i10+1)) (lh_0++[ei ((l8.getD i10.toNat (zj (Sh.str.pr Sh.expr))).1,ze.mk (ze.op (l8.getD i10.toNat (zj (Sh.str.pr Sh.expr))).2) (ze.v (l8.getD i10.toNat (zj (Sh.str.pr Sh.expr))).2) (ze.s (l8.getD i10.toNat (zj (Sh.str.pr Sh.expr))).2) (ze.l (l8.getD i10.toNat (zj (Sh.str.pr Sh.expr))).2))]))))))) (Tr.chk (decide (lh_0.length≤140737488355328)&&decide ((Lib.join lh_0 [32,44,32]).length≤140737488355328))
 (Tr.ok (zt.ret (AV.str (Lib.join lh_0 [32,44,32])) []))):=by kernel_rfl
def cT:List (Sem (Sh.str.pr Sh.expr))→Int→List (Sem Sh.str)→Sem Sh.str
 | [],_,lh_0=>(Lib.join lh_0 [32,44,32])
 | x::r,i10,lh_0=>(cT r (i10+1) (lh_0++[ei x]))
def dk:List (Sem (Sh.str.pr Sh.expr))→Int→List (Sem Sh.str)→Bool
 | [],_,lh_0=>(if (decide (lh_0.length≤140737488355328)&&decide ((Lib.join lh_0 [32,44,32]).length≤140737488355328))=true then true else false)
 | x::r,i10,lh_0=>(if jz x=true then if decide (lh_0.length+[ei x].length≤1073741824)=true then dk r (i10+1) (lh_0++[ei x]) else false
else false)
theorem Vt {C:cH} (hC:∀ id,C.ρ0 id=none) (l8:List (Sem (Sh.str.pr Sh.expr))) (hl:l8.length≤zC):∀ (m i:Nat) (lh_0:LS),l8.length - i=m→i≤l8.length→dk (l8.drop i) i lh_0=true→
  Reach (ic) C 164 (zy Tryz.f164 3) (DZ l8 (l8.length:Int) (i:Int) lh_0) (fun r h=>ap h [Sh.str] r=some (cT (l8.drop i) i lh_0,())):=by
 intro m
 induction m with
 | zero=>
  intro i lh_0 hm hi hc
  obtain rfl:i=l8.length:=by omega
  rw [cL] at hc ⊢
  refine zk ec (Qi) (fun id _=>hC id) (M1 _ _ _ _) ?_
  rw [dk] at hc
  generalize hy:cT [] _ lh_0=y
  rw [cT] at hy
  simp only [ze.eta,zX,Tr.val_brF]
  repeat' (first | with_reducible refine eW hy hc (fun _ hy hc=>?_) (fun _ hy hc=>?_) | with_reducible refine ba hy (fun _ hy=>?_) (fun _ hy=>?_) | with_reducible refine bv hc (fun hc=>?_) | with_reducible refine zr ?_)
  all_goals first | (cases hc; done) | (subst hy; first | rfl)
 | succ m IH=>
  intro i lh_0 hm hi hc
  have hlt:i < l8.length:=by omega
  have IH:=IH (i+1)
  have hcast:((i:Int)+1)=((i+1:Nat):Int):=by omega
  have hwr:=zD i (by omega)
  rw [dw hlt] at hc ⊢
  refine zk ec (Qi) (fun id _=>hC id) (M1 _ _ _ _) ?_
  rw [dk] at hc
  generalize hy:cT (l8[i]::l8.drop (i+1)) (i:Int) lh_0=y
  rw [cT] at hy
  simp only [ze.eta,zT hlt,zB hlt,ac l8 _ hlt,hwr,Tr.val_brT,Tr.val_chkT]
  clear hwr
  try simp only [zB hlt] at hy
  simp only [hcast] at hy
  try simp only [zB hlt] at hc
  try simp only [hcast] at hc
  repeat' (first | with_reducible refine eW hy hc (fun _ hy hc=>?_) (fun _ hy hc=>?_) | with_reducible refine ba hy (fun _ hy=>?_) (fun _ hy=>?_) | with_reducible refine bv hc (fun hc=>?_) | with_reducible refine zr ?_)
  all_goals first | (cases hc; done) | (subst hy; first | (change Reach _ _ _ _ _ _; apply IH <;> first | omega | assumption) | rfl)
theorem Pr {C:cH} (hC:∀ id,C.ρ0 id=none) (l8:List (Sem (Sh.str.pr Sh.expr))) (lh_0:LS) (hc:dk l8 0 lh_0=true):
  Reach (ic) C 164 (zy Tryz.f164 3) (DZ l8 (l8.length:Int) 0 lh_0) (fun r h=>ap h [Sh.str] r=some (cT l8 0 lh_0,())):=
 Reach.len 8 (Sh.str.pr Sh.expr) l8 rfl fun hl=>Vt hC l8 hl _ 0 lh_0 rfl (aV _) hc
def kN (x0:Sem aN.sl):Sem Sh.str:=(cT x0 0 [])
def kO (x0:Sem aN.sl):Bool:=(dk x0 0 [])
def F95:zF:=wm [aN.sl] [Sh.str] [(162,(fun x=>kO x.1),fun x=>(kN x.1,()))]
theorem zbd:FK 164 F95:=by
 refine kY (Qi) fun j c g hm x hc C hC=>?_
 simp only [bO,bC] at hm
 obtain ⟨rfl,rfl,rfl⟩:=hm
 replace hc:kO x.1=true:=hc
 unfold kO at hc
 refine zk ec (Qi) (fun id _=>hC id) (zg7 x.1) ?_
 generalize hy:kN x.1=y
 unfold kN at hy
 repeat' (first | with_reducible refine eW hy hc (fun _ hy hc=>?_) (fun _ hy hc=>?_) | with_reducible refine ba hy (fun _ hy=>?_) (fun _ hy=>?_) | with_reducible refine bv hc (fun hc=>?_) | with_reducible refine zr ?_)
 all_goals first | (cases hc; done) | (subst hy; first | (change Reach _ _ _ _ _ _; apply Pr hC <;> first | assumption | exact hc) | rfl)

abbrev WS:Nat→ah:=fun j=>if j=5 then { slots:=[1,3,24,25,26] } else if j=10 then { slots:=[1,3,37,38,39] } else { }
abbrev DX (s3:zo) (l24:LS) (i25:Int) (i26:Int) (ja0:TS) (ja1:TS) (ja2:TS) (ja3:LS) (ja4:LC) (ja5:TS) (ja6:LS) (ja7:List (Sem (Sh.str.pr Sh.str))) (ja8:zo) (ja9:Int) (ja10:Int) (ja11:zo) (ja12:zo) (ja13:LX) (ja14:LV) (ja15:List (Sem (Sh.str.pr Sh.expr))) (ja16:zo) (ja17:Int) (ja18:Int) (ja19:zo) (ja20:zo) (ja21:LX) (ja22:TS):St:={ tmps:=(tm 59 [(1,AV.ptr 0 0),(3,AV.str s3),(24,AV.sl Sh.str l24),(25,ai i25),(26,ai i26)]),heap:=[AO.box [AV.str ja0,AV.str ja1,AV.str ja2,AV.sl Sh.str ja3,AV.sl zi ja4,AV.str ja5,AV.sl Sh.str ja6,AV.sl (Sh.str.pr Sh.str) ja7,AV.str ja8,ai ja9,ai ja10,AV.str ja11,AV.str ja12,AV.sl Sh.expr ja13,AV.sl zf ja14,AV.sl (Sh.str.pr Sh.expr) ja15,AV.str ja16,ai ja17,ai ja18,AV.str ja19,AV.str ja20,AV.sl Sh.expr ja21,AV.str ja22]] }
theorem Ja:zA (ic).P 159 Tryz.f159 1:=aQ (by kernel_rfl)
theorem zg2 (x0:Sem zm):rn ic 0 WS Tryz.f159 [zz zm x0] []=Tr.chk (decide ([67,82,69,65,84,69,32,84,65,66,76,69,32].length+length x0.2.1≤1099511627776)) (Tr.chk (decide (length ([67,82,69,65,84,69,32,84,65,66,76,69,32]++x0.2.1)+[32,40,32].length≤1099511627776)) (Tr.chk (iZ x0.2.2.2.2.1) (Tr.chk (decide (length ([67,82,69,65,84,69,32,84,65,66,76,69,32]++x0.2.1++[32,40,32])+length (dA x0.2.2.2.2.1)≤1099511627776)) (Tr.chk (decide ([32,44,32,75,69,89,32,40,32].length+length x0.2.2.2.2.2.1≤1099511627776)) (Tr.chk (decide (length ([32,44,32,75,69,89,32,40,32]++x0.2.2.2.2.2.1)+[32,41].length≤1099511627776)) (Tr.chk (decide (length ([67,82,69,65,84,69,32,84,65,66,76,69,32]++x0.2.1++[32,40,32]++dA x0.2.2.2.2.1)+length ([32,44,32,75,69,89,32,40,32]++x0.2.2.2.2.2.1++[32,41])≤1099511627776)) (Tr.ok (zt.head 5 (zy Tryz.f159 5) (DX ([67,82,69,65,84,69,32,84,65,66,76,69,32]++x0.2.1++[32,40,32]++dA x0.2.2.2.2.1++([32,44,32,75,69,89,32,40,32]++x0.2.2.2.2.2.1++[32,41])) x0.2.2.2.2.2.2.1 (↑(length x0.2.2.2.2.2.2.1):Int) 0 x0.1 x0.2.1 x0.2.2.1 x0.2.2.2.1 x0.2.2.2.2.1 x0.2.2.2.2.2.1 x0.2.2.2.2.2.2.1 x0.2.2.2.2.2.2.2.1
 (ze.op x0.2.2.2.2.2.2.2.2.1) (ze.v x0.2.2.2.2.2.2.2.2.1).1 (ze.v x0.2.2.2.2.2.2.2.2.1).2.1 (ze.v x0.2.2.2.2.2.2.2.2.1).2.2 (ze.s x0.2.2.2.2.2.2.2.2.1) (ze.l x0.2.2.2.2.2.2.2.2.1) x0.2.2.2.2.2.2.2.2.2.1 x0.2.2.2.2.2.2.2.2.2.2.1 (ze.op x0.2.2.2.2.2.2.2.2.2.2.2.1) (ze.v x0.2.2.2.2.2.2.2.2.2.2.2.1).1 (ze.v x0.2.2.2.2.2.2.2.2.2.2.2.1).2.1 (ze.v x0.2.2.2.2.2.2.2.2.2.2.2.1).2.2 (ze.s x0.2.2.2.2.2.2.2.2.2.2.2.1) (ze.l x0.2.2.2.2.2.2.2.2.2.2.2.1) x0.2.2.2.2.2.2.2.2.2.2.2.2))))))))):=by kernel_rfl
abbrev wQ (s3:zo) (l37:List (Sem (Sh.str.pr Sh.str))) (i38:Int) (i39:Int) (ja0:TS) (ja1:TS) (ja2:TS) (ja3:LS) (ja4:LC) (ja5:TS) (ja6:LS) (ja7:List (Sem (Sh.str.pr Sh.str))) (ja8:zo) (ja9:Int) (ja10:Int) (ja11:zo) (ja12:zo) (ja13:LX) (ja14:LV) (ja15:List (Sem (Sh.str.pr Sh.expr))) (ja16:zo) (ja17:Int) (ja18:Int) (ja19:zo) (ja20:zo) (ja21:LX) (ja22:TS):St:={ tmps:=(tm 59 [(1,AV.ptr 0 0),(3,AV.str s3),(37,AV.sl (Sh.str.pr Sh.str) l37),(38,ai i38),(39,ai i39)]),heap:=[AO.box [AV.str ja0,AV.str ja1,AV.str ja2,AV.sl Sh.str ja3,AV.sl zi ja4,AV.str ja5,AV.sl Sh.str ja6,AV.sl (Sh.str.pr Sh.str) ja7,AV.str ja8,ai ja9,ai ja10,AV.str ja11,AV.str ja12,AV.sl Sh.expr ja13,AV.sl zf ja14,AV.sl (Sh.str.pr Sh.expr) ja15,AV.str ja16,ai ja17,ai ja18,AV.str ja19,AV.str ja20,AV.sl Sh.expr ja21,AV.str ja22]] }
theorem MY (s3:zo) (l24:LS) (i25:Int) (i26:Int) (ja0:TS) (ja1:TS) (ja2:TS) (ja3:LS) (ja4:LC) (ja5:TS) (ja6:LS) (ja7:List (Sem (Sh.str.pr Sh.str))) (ja8:zo) (ja9:Int) (ja10:Int) (ja11:zo) (ja12:zo) (ja13:LX) (ja14:LV) (ja15:List (Sem (Sh.str.pr Sh.expr))) (ja16:zo) (ja17:Int) (ja18:Int) (ja19:zo) (ja20:zo) (ja21:LX) (ja22:TS):rh ic 0 WS Tryz.f159 5 (DX s3 l24 i25 i26 ja0 ja1 ja2 ja3 ja4 ja5 ja6 ja7 ja8 ja9 ja10 ja11 ja12 ja13 ja14 ja15 ja16 ja17 ja18 ja19 ja20 ja21 ja22)=Tr.br (decide (i26 < i25)) (Tr.chk (zI i26 l24.length) (Tr.chk (decide ([32,44,32,85,78,73,81,85,69,32,40,32].length+length (l24.getD i26.toNat (zj Sh.str))≤1099511627776)) (Tr.chk (decide (length ([32,44,32,85,78,73,81,85,69,32,40,32]++l24.getD i26.toNat (zj Sh.str))+[32,41].length≤1099511627776)) (Tr.chk (decide (length s3+length ([32,44,32,85,78,73,81,85,69,32,40,32]++l24.getD i26.toNat (zj Sh.str)++[32,41])≤1099511627776)) (Tr.ok (zt.head 5 (zy Tryz.f159 5) (DX (s3++([32,44,32,85,78,73,81,85,69,32,40,32]++l24.getD i26.toNat (zj Sh.str)++[32,41])) l24 i25
 (IntKind.i64.wrap (i26+1)) ja0 ja1 ja2 ja3 ja4 ja5 ja6 ja7 ja8 ja9 ja10 ja11 ja12 ja13 ja14 ja15 ja16 ja17 ja18 ja19 ja20 ja21 ja22))))))) (Tr.ok (zt.head 10 (zy Tryz.f159 10) (wQ s3 ja7 (↑ja7.length:Int) 0 ja0 ja1 ja2 ja3 ja4 ja5 ja6 ja7 ja8 ja9 ja10 ja11 ja12 ja13 ja14 ja15 ja16 ja17 ja18 ja19 ja20 ja21 ja22))):=by kernel_rfl
theorem Hz (s3:zo) (l37:List (Sem (Sh.str.pr Sh.str))) (i38:Int) (i39:Int) (ja0:TS) (ja1:TS) (ja2:TS) (ja3:LS) (ja4:LC) (ja5:TS) (ja6:LS) (ja7:List (Sem (Sh.str.pr Sh.str))) (ja8:zo) (ja9:Int) (ja10:Int) (ja11:zo) (ja12:zo) (ja13:LX) (ja14:LV) (ja15:List (Sem (Sh.str.pr Sh.expr))) (ja16:zo) (ja17:Int) (ja18:Int) (ja19:zo) (ja20:zo) (ja21:LX) (ja22:TS):rh ic 0 WS Tryz.f159 10 (wQ s3 l37 i38 i39 ja0 ja1 ja2 ja3 ja4 ja5 ja6 ja7 ja8 ja9 ja10 ja11 ja12 ja13 ja14 ja15 ja16 ja17 ja18 ja19 ja20 ja21 ja22)=Tr.br (decide (i39 < i38)) (Tr.chk (zI i39 l37.length) (Tr.chk (decide ([32,44,32,82,69,70,69,82,69,78,67,69,83,32,40,32].length+length (l37.getD i39.toNat (zj (Sh.str.pr Sh.str))).1≤1099511627776)) (Tr.chk (decide (length ([32,44,32,82,69,70,69,82,69,78,67,69,83,32,40,32]++(l37.getD i39.toNat (zj (Sh.str.pr Sh.str))).1)+[32,41,32].length≤1099511627776)) (Tr.chk (decide (length ([32,44,32,82,69,70,69,82,69,78,67,69,83,32,40,32]++(l37.getD i39.toNat (zj (Sh.str.pr Sh.str))).1++[32,41,32])+length (l37.getD i39.toNat (zj (Sh.str.pr Sh.str))).2≤1099511627776)) (Tr.chk (decide (length s3+length
 ([32,44,32,82,69,70,69,82,69,78,67,69,83,32,40,32]++(l37.getD i39.toNat (zj (Sh.str.pr Sh.str))).1++[32,41,32]++(l37.getD i39.toNat (zj (Sh.str.pr Sh.str))).2)≤1099511627776)) (Tr.ok (zt.head 10 (zy Tryz.f159 10) (wQ (s3++([32,44,32,82,69,70,69,82,69,78,67,69,83,32,40,32]++(l37.getD i39.toNat (zj (Sh.str.pr Sh.str))).1++[32,41,32]++(l37.getD i39.toNat (zj (Sh.str.pr Sh.str))).2)) l37 i38 (IntKind.i64.wrap (i39+1)) ja0 ja1 ja2 ja3 ja4 ja5 ja6 ja7 ja8 ja9 ja10 ja11 ja12 ja13 ja14 ja15 ja16 ja17 ja18 ja19 ja20 ja21 ja22)))))))) (Tr.chk (ll [32,44,32] (ze.mk ja8 (ja9,ja10,ja11) ja12 ja13)) (Tr.chk (decide (length s3+length (iz [32,44,32] (ze.mk ja8 (ja9,ja10,ja11) ja12 ja13))≤1099511627776)) (Tr.chk (decide (length (s3++iz [32,44,32] (ze.mk ja8 (ja9,ja10,ja11) ja12 ja13))+[32,41].length≤1099511627776)) (Tr.ok (zt.ret (AV.str (s3++iz [32,44,32] (ze.mk ja8 (ja9,ja10,ja11) ja12 ja13)++[32,41])) []))))):=by kernel_rfl
def cQ (ja0:TS) (ja1:TS) (ja2:TS) (ja3:LS) (ja4:LC) (ja5:TS) (ja6:LS) (ja7:List (Sem (Sh.str.pr Sh.str))) (ja8:zo) (ja9:Int) (ja10:Int) (ja11:zo) (ja12:zo) (ja13:LX) (ja14:LV) (ja15:List (Sem (Sh.str.pr Sh.expr))) (ja16:zo) (ja17:Int) (ja18:Int) (ja19:zo) (ja20:zo) (ja21:LX) (ja22:TS):List (Sem (Sh.str.pr Sh.str))→Int→zo→Sem Sh.str
 | [],_,s3=>(s3++iz [32,44,32] (ze.mk ja8 (ja9,ja10,ja11) ja12 ja13)++[32,41])
 | x::r,i39,s3=>(cQ ja0 ja1 ja2 ja3 ja4 ja5 ja6 ja7 ja8 ja9 ja10 ja11 ja12 ja13 ja14 ja15 ja16 ja17 ja18 ja19
 ja20 ja21 ja22 r (i39+1) (s3++([32,44,32,82,69,70,69,82,69,78,67,69,83,32,40,32]++x.1++[32,41,32]++x.2)))
def dj (ja0:TS) (ja1:TS) (ja2:TS) (ja3:LS) (ja4:LC) (ja5:TS) (ja6:LS) (ja7:List (Sem (Sh.str.pr Sh.str))) (ja8:zo) (ja9:Int) (ja10:Int) (ja11:zo) (ja12:zo) (ja13:LX) (ja14:LV) (ja15:List (Sem (Sh.str.pr Sh.expr))) (ja16:zo) (ja17:Int) (ja18:Int) (ja19:zo) (ja20:zo) (ja21:LX) (ja22:TS):List (Sem (Sh.str.pr Sh.str))→Int→zo→Bool
 | [],_,s3=>(if ll [32,44,32] (ze.mk ja8 (ja9,ja10,ja11) ja12 ja13)=true then
 if decide (length s3+length (iz [32,44,32] (ze.mk ja8 (ja9,ja10,ja11) ja12 ja13))≤1099511627776)=true then
  if
    decide (length (s3++iz [32,44,32] (ze.mk ja8 (ja9,ja10,ja11) ja12 ja13))+[32,41].length≤1099511627776)=
     true then
   true
  else false
 else false
else false)
 | x::r,i39,s3=>(if decide ([32,44,32,82,69,70,69,82,69,78,67,69,83,32,40,32].length+length x.1≤1099511627776)=true then
 if decide (length ([32,44,32,82,69,70,69,82,69,78,67,69,83,32,40,32]++x.1)+[32,41,32].length≤1099511627776)=true then
  if
    decide (length ([32,44,32,82,69,70,69,82,69,78,67,69,83,32,40,32]++x.1++[32,41,32])+length x.2≤1099511627776)=
     true then
   if
     decide
       (length s3+length ([32,44,32,82,69,70,69,82,69,78,67,69,83,32,40,32]++x.1++[32,41,32]++x.2)≤
        1099511627776)=
      true then
    dj ja0 ja1 ja2 ja3 ja4 ja5 ja6 ja7 ja8 ja9 ja10 ja11 ja12 ja13 ja14 ja15 ja16 ja17
     ja18 ja19 ja20 ja21 ja22 r (i39+1)
     (s3++([32,44,32,82,69,70,69,82,69,78,67,69,83,32,40,32]++x.1++[32,41,32]++x.2))
   else false
  else false
 else false
else false)
theorem Pp {C:cH} (hC:∀ id,C.ρ0 id=none) (ja0:TS) (ja1:TS) (ja2:TS) (ja3:LS) (ja4:LC) (ja5:TS) (ja6:LS) (ja7:List (Sem (Sh.str.pr Sh.str))) (ja8:zo) (ja9:Int) (ja10:Int) (ja11:zo) (ja12:zo) (ja13:LX) (ja14:LV) (ja15:List (Sem (Sh.str.pr Sh.expr))) (ja16:zo) (ja17:Int) (ja18:Int) (ja19:zo) (ja20:zo) (ja21:LX) (ja22:TS) (l37:List (Sem (Sh.str.pr Sh.str))) (hl:l37.length≤zC):∀ (m i:Nat) (s3:zo),l37.length - i=m→i≤l37.length→dj ja0 ja1 ja2 ja3 ja4 ja5 ja6 ja7 ja8 ja9 ja10 ja11 ja12 ja13 ja14 ja15 ja16 ja17 ja18 ja19 ja20 ja21 ja22 (l37.drop i) i s3=true→
  Reach (ic) C 159 (zy Tryz.f159 10) (wQ s3 l37 (l37.length:Int) (i:Int) ja0 ja1 ja2 ja3 ja4 ja5 ja6 ja7 ja8 ja9 ja10 ja11 ja12 ja13 ja14 ja15 ja16 ja17 ja18 ja19 ja20 ja21 ja22) (fun r h=>ap h [Sh.str] r=some (cQ ja0 ja1 ja2 ja3 ja4 ja5 ja6 ja7 ja8 ja9 ja10 ja11 ja12 ja13 ja14 ja15 ja16 ja17 ja18 ja19 ja20 ja21 ja22 (l37.drop i) i s3,())):=by
 intro m
 induction m with
 | zero=>
  intro i s3 hm hi hc
  obtain rfl:i=l37.length:=by omega
  rw [cL] at hc ⊢
  refine zk ec (Ja) (fun id _=>hC id) (Hz _ _ _ _ _ _ _ _ _ _ _ _ _ _ _ _ _ _ _ _ _ _ _ _ _ _ _) ?_
  rw [dj] at hc
  generalize hy:cQ ja0 ja1 ja2 ja3 ja4 ja5 ja6 ja7 ja8 ja9 ja10 ja11 ja12 ja13 ja14 ja15 ja16 ja17 ja18 ja19 ja20 ja21 ja22 [] _ s3=y
  rw [cQ] at hy
  simp only [zX,Tr.val_brF]
  repeat' (first | with_reducible refine eW hy hc (fun _ hy hc=>?_) (fun _ hy hc=>?_) | with_reducible refine ba hy (fun _ hy=>?_) (fun _ hy=>?_) | with_reducible refine bv hc (fun hc=>?_) | with_reducible refine zr ?_)
  all_goals first | (cases hc; done) | (subst hy; first | (change Reach _ _ _ _ _ _; apply AD hC <;> first | assumption | exact hc) | rfl)
 | succ m IH=>
  intro i s3 hm hi hc
  have hlt:i < l37.length:=by omega
  have IH:=IH (i+1)
  have hcast:((i:Int)+1)=((i+1:Nat):Int):=by omega
  have hwr:=zD i (by omega)
  rw [dw hlt] at hc ⊢
  refine zk ec (Ja) (fun id _=>hC id) (Hz _ _ _ _ _ _ _ _ _ _ _ _ _ _ _ _ _ _ _ _ _ _ _ _ _ _ _) ?_
  rw [dj] at hc
  generalize hy:cQ ja0 ja1 ja2 ja3 ja4 ja5 ja6 ja7 ja8 ja9 ja10 ja11 ja12 ja13 ja14 ja15 ja16 ja17 ja18 ja19 ja20 ja21 ja22 (l37[i]::l37.drop (i+1)) (i:Int) s3=y
  rw [cQ] at hy
  simp only [zT hlt,zB hlt,ac l37 _ hlt,hwr,Tr.val_brT,Tr.val_chkT]
  clear hwr
  try simp only [zB hlt] at hy
  simp only [hcast] at hy
  try simp only [zB hlt] at hc
  try simp only [hcast] at hc
  repeat' (first | with_reducible refine eW hy hc (fun _ hy hc=>?_) (fun _ hy hc=>?_) | with_reducible refine ba hy (fun _ hy=>?_) (fun _ hy=>?_) | with_reducible refine bv hc (fun hc=>?_) | with_reducible refine zr ?_)
  all_goals first | (cases hc; done) | (subst hy; first | (change Reach _ _ _ _ _ _; apply IH <;> first | omega | assumption) | (change Reach _ _ _ _ _ _; apply AD hC <;> first | assumption | exact hc) | rfl)
theorem um {C:cH} (hC:∀ id,C.ρ0 id=none) (ja0:TS) (ja1:TS) (ja2:TS) (ja3:LS) (ja4:LC) (ja5:TS) (ja6:LS) (ja7:List (Sem (Sh.str.pr Sh.str))) (ja8:zo) (ja9:Int) (ja10:Int) (ja11:zo) (ja12:zo) (ja13:LX) (ja14:LV) (ja15:List (Sem (Sh.str.pr Sh.expr))) (ja16:zo) (ja17:Int) (ja18:Int) (ja19:zo) (ja20:zo) (ja21:LX) (ja22:TS) (l37:List (Sem (Sh.str.pr Sh.str))) (s3:zo) (hc:dj ja0 ja1 ja2 ja3 ja4 ja5 ja6 ja7 ja8 ja9 ja10 ja11 ja12 ja13 ja14 ja15 ja16 ja17 ja18 ja19 ja20 ja21 ja22 l37 0 s3=true):
  Reach (ic) C 159 (zy Tryz.f159 10) (wQ s3 l37 (l37.length:Int) 0 ja0 ja1 ja2 ja3 ja4 ja5 ja6 ja7 ja8 ja9 ja10 ja11 ja12 ja13 ja14 ja15 ja16 ja17 ja18 ja19 ja20 ja21 ja22) (fun r h=>ap h [Sh.str] r=some (cQ ja0 ja1 ja2 ja3 ja4 ja5 ja6 ja7 ja8 ja9 ja10 ja11 ja12 ja13 ja14 ja15 ja16 ja17 ja18 ja19 ja20 ja21 ja22 l37 0 s3,())):=
 Reach.len 37 (Sh.str.pr Sh.str) l37 rfl fun hl=>Pp hC ja0 ja1 ja2 ja3 ja4 ja5 ja6 ja7 ja8 ja9 ja10 ja11 ja12 ja13 ja14 ja15 ja16 ja17 ja18 ja19 ja20 ja21 ja22 l37 hl _ 0 s3 rfl (aV _) hc
def dB (ja0:TS) (ja1:TS) (ja2:TS) (ja3:LS) (ja4:LC) (ja5:TS) (ja6:LS) (ja7:List (Sem (Sh.str.pr Sh.str))) (ja8:zo) (ja9:Int) (ja10:Int) (ja11:zo) (ja12:zo) (ja13:LX) (ja14:LV) (ja15:List (Sem (Sh.str.pr Sh.expr))) (ja16:zo) (ja17:Int) (ja18:Int) (ja19:zo) (ja20:zo) (ja21:LX) (ja22:TS):List (Sem Sh.str)→Int→zo→Sem Sh.str
 | [],_,s3=>(cQ ja0 ja1 ja2 ja3 ja4 ja5 ja6 ja7 ja8 ja9 ja10 ja11 ja12 ja13 ja14 ja15 ja16 ja17 ja18 ja19
 ja20 ja21 ja22 ja7 0 s3)
 | x::r,i26,s3=>(dB ja0 ja1 ja2 ja3 ja4 ja5 ja6 ja7 ja8 ja9 ja10 ja11 ja12 ja13 ja14 ja15 ja16 ja17 ja18 ja19
 ja20 ja21 ja22 r (i26+1) (s3++([32,44,32,85,78,73,81,85,69,32,40,32]++x++[32,41])))
def dQ (ja0:TS) (ja1:TS) (ja2:TS) (ja3:LS) (ja4:LC) (ja5:TS) (ja6:LS) (ja7:List (Sem (Sh.str.pr Sh.str))) (ja8:zo) (ja9:Int) (ja10:Int) (ja11:zo) (ja12:zo) (ja13:LX) (ja14:LV) (ja15:List (Sem (Sh.str.pr Sh.expr))) (ja16:zo) (ja17:Int) (ja18:Int) (ja19:zo) (ja20:zo) (ja21:LX) (ja22:TS):List (Sem Sh.str)→Int→zo→Bool
 | [],_,s3=>(dj ja0 ja1 ja2 ja3 ja4 ja5 ja6 ja7 ja8 ja9 ja10 ja11 ja12 ja13 ja14 ja15 ja16 ja17 ja18
 ja19 ja20 ja21 ja22 ja7 0 s3)
 | x::r,i26,s3=>(if decide ([32,44,32,85,78,73,81,85,69,32,40,32].length+length x≤1099511627776)=true then
 if decide (length ([32,44,32,85,78,73,81,85,69,32,40,32]++x)+[32,41].length≤1099511627776)=true then
  if decide (length s3+length ([32,44,32,85,78,73,81,85,69,32,40,32]++x++[32,41])≤1099511627776)=true then
   dQ ja0 ja1 ja2 ja3 ja4 ja5 ja6 ja7 ja8 ja9 ja10 ja11 ja12 ja13 ja14 ja15 ja16 ja17 ja18
    ja19 ja20 ja21 ja22 r (i26+1) (s3++([32,44,32,85,78,73,81,85,69,32,40,32]++x++[32,41]))
  else false
 else false
else false)
theorem Vr {C:cH} (hC:∀ id,C.ρ0 id=none) (ja0:TS) (ja1:TS) (ja2:TS) (ja3:LS) (ja4:LC) (ja5:TS) (ja6:LS) (ja7:List (Sem (Sh.str.pr Sh.str))) (ja8:zo) (ja9:Int) (ja10:Int) (ja11:zo) (ja12:zo) (ja13:LX) (ja14:LV) (ja15:List (Sem (Sh.str.pr Sh.expr))) (ja16:zo) (ja17:Int) (ja18:Int) (ja19:zo) (ja20:zo) (ja21:LX) (ja22:TS) (l24:LS) (hl:l24.length≤zC):∀ (m i:Nat) (s3:zo),l24.length - i=m→i≤l24.length→dQ ja0 ja1 ja2 ja3 ja4 ja5 ja6 ja7 ja8 ja9 ja10 ja11 ja12 ja13 ja14 ja15 ja16 ja17 ja18 ja19 ja20 ja21 ja22 (l24.drop i) i s3=true→
  Reach (ic) C 159 (zy Tryz.f159 5) (DX s3 l24 (l24.length:Int) (i:Int) ja0 ja1 ja2 ja3 ja4 ja5 ja6 ja7 ja8 ja9 ja10 ja11 ja12 ja13 ja14 ja15 ja16 ja17 ja18 ja19 ja20 ja21 ja22) (fun r h=>ap h [Sh.str] r=some (dB ja0 ja1 ja2 ja3 ja4 ja5 ja6 ja7 ja8 ja9 ja10 ja11 ja12 ja13 ja14 ja15 ja16 ja17 ja18 ja19 ja20 ja21 ja22 (l24.drop i) i s3,())):=by
 intro m
 induction m with
 | zero=>
  intro i s3 hm hi hc
  obtain rfl:i=l24.length:=by omega
  rw [cL] at hc ⊢
  refine zk ec (Ja) (fun id _=>hC id) (MY _ _ _ _ _ _ _ _ _ _ _ _ _ _ _ _ _ _ _ _ _ _ _ _ _ _ _) ?_
  rw [dQ] at hc
  generalize hy:dB ja0 ja1 ja2 ja3 ja4 ja5 ja6 ja7 ja8 ja9 ja10 ja11 ja12 ja13 ja14 ja15 ja16 ja17 ja18 ja19 ja20 ja21 ja22 [] _ s3=y
  rw [dB] at hy
  simp only [zX,Tr.val_brF]
  repeat' (first | with_reducible refine eW hy hc (fun _ hy hc=>?_) (fun _ hy hc=>?_) | with_reducible refine ba hy (fun _ hy=>?_) (fun _ hy=>?_) | with_reducible refine bv hc (fun hc=>?_) | with_reducible refine zr ?_)
  all_goals first | (cases hc; done) | (subst hy; first | (change Reach _ _ _ _ _ _; apply um hC <;> first | assumption | exact hc) | rfl)
 | succ m IH=>
  intro i s3 hm hi hc
  have hlt:i < l24.length:=by omega
  have IH:=IH (i+1)
  have hcast:((i:Int)+1)=((i+1:Nat):Int):=by omega
  have hwr:=zD i (by omega)
  rw [dw hlt] at hc ⊢
  refine zk ec (Ja) (fun id _=>hC id) (MY _ _ _ _ _ _ _ _ _ _ _ _ _ _ _ _ _ _ _ _ _ _ _ _ _ _ _) ?_
  rw [dQ] at hc
  generalize hy:dB ja0 ja1 ja2 ja3 ja4 ja5 ja6 ja7 ja8 ja9 ja10 ja11 ja12 ja13 ja14 ja15 ja16 ja17 ja18 ja19 ja20 ja21 ja22 (l24[i]::l24.drop (i+1)) (i:Int) s3=y
  rw [dB] at hy
  simp only [zT hlt,zB hlt,ac l24 _ hlt,hwr,Tr.val_brT,Tr.val_chkT]
  clear hwr
  try simp only [zB hlt] at hy
  simp only [hcast] at hy
  try simp only [zB hlt] at hc
  try simp only [hcast] at hc
  repeat' (first | with_reducible refine eW hy hc (fun _ hy hc=>?_) (fun _ hy hc=>?_) | with_reducible refine ba hy (fun _ hy=>?_) (fun _ hy=>?_) | with_reducible refine bv hc (fun hc=>?_) | with_reducible refine zr ?_)
  all_goals first | (cases hc; done) | (subst hy; first | (change Reach _ _ _ _ _ _; apply IH <;> first | omega | assumption) | (change Reach _ _ _ _ _ _; apply um hC <;> first | assumption | exact hc) | rfl)
theorem AD {C:cH} (hC:∀ id,C.ρ0 id=none) (ja0:TS) (ja1:TS) (ja2:TS) (ja3:LS) (ja4:LC) (ja5:TS) (ja6:LS) (ja7:List (Sem (Sh.str.pr Sh.str))) (ja8:zo) (ja9:Int) (ja10:Int) (ja11:zo) (ja12:zo) (ja13:LX) (ja14:LV) (ja15:List (Sem (Sh.str.pr Sh.expr))) (ja16:zo) (ja17:Int) (ja18:Int) (ja19:zo) (ja20:zo) (ja21:LX) (ja22:TS) (l24:LS) (s3:zo) (hc:dQ ja0 ja1 ja2 ja3 ja4 ja5 ja6 ja7 ja8 ja9 ja10 ja11 ja12 ja13 ja14 ja15 ja16 ja17 ja18 ja19 ja20 ja21 ja22 l24 0 s3=true):
  Reach (ic) C 159 (zy Tryz.f159 5) (DX s3 l24 (l24.length:Int) 0 ja0 ja1 ja2 ja3 ja4 ja5 ja6 ja7 ja8 ja9 ja10 ja11 ja12 ja13 ja14 ja15 ja16 ja17 ja18 ja19 ja20 ja21 ja22) (fun r h=>ap h [Sh.str] r=some (dB ja0 ja1 ja2 ja3 ja4 ja5 ja6 ja7 ja8 ja9 ja10 ja11 ja12 ja13 ja14 ja15 ja16 ja17 ja18 ja19 ja20 ja21 ja22 l24 0 s3,())):=
 Reach.len 24 (Sh.str) l24 rfl fun hl=>Vr hC ja0 ja1 ja2 ja3 ja4 ja5 ja6 ja7 ja8 ja9 ja10 ja11 ja12 ja13 ja14 ja15 ja16 ja17 ja18 ja19 ja20 ja21 ja22 l24 hl _ 0 s3 rfl (aV _) hc
def ni (x0:Sem zm):Sem Sh.str:=(dB x0.1 x0.2.1 x0.2.2.1 x0.2.2.2.1 x0.2.2.2.2.1 x0.2.2.2.2.2.1 x0.2.2.2.2.2.2.1 x0.2.2.2.2.2.2.2.1 (ze.op x0.2.2.2.2.2.2.2.2.1) (ze.v x0.2.2.2.2.2.2.2.2.1).1 (ze.v x0.2.2.2.2.2.2.2.2.1).2.1 (ze.v x0.2.2.2.2.2.2.2.2.1).2.2 (ze.s x0.2.2.2.2.2.2.2.2.1) (ze.l x0.2.2.2.2.2.2.2.2.1) x0.2.2.2.2.2.2.2.2.2.1 x0.2.2.2.2.2.2.2.2.2.2.1 (ze.op x0.2.2.2.2.2.2.2.2.2.2.2.1) (ze.v x0.2.2.2.2.2.2.2.2.2.2.2.1).1 (ze.v x0.2.2.2.2.2.2.2.2.2.2.2.1).2.1 (ze.v x0.2.2.2.2.2.2.2.2.2.2.2.1).2.2 (ze.s x0.2.2.2.2.2.2.2.2.2.2.2.1) (ze.l x0.2.2.2.2.2.2.2.2.2.2.2.1) x0.2.2.2.2.2.2.2.2.2.2.2.2 x0.2.2.2.2.2.2.1 0 ([67,82,69,65,84,69,32,84,65,66,76,69,32]++x0.2.1++[32,40,32]++dA x0.2.2.2.2.1++([32,44,32,75,69,89,32,40,32]++x0.2.2.2.2.2.1++[32,41])))
def mv (x0:Sem zm):Bool:=(if decide ([67,82,69,65,84,69,32,84,65,66,76,69,32].length+length x0.2.1≤1099511627776)=true then if decide (length ([67,82,69,65,84,69,32,84,65,66,76,69,32]++x0.2.1)+[32,40,32].length≤1099511627776)=true then if iZ x0.2.2.2.2.1=true then if decide (length ([67,82,69,65,84,69,32,84,65,66,76,69,32]++x0.2.1++[32,40,32])+length (dA x0.2.2.2.2.1)≤1099511627776)=true then if decide ([32,44,32,75,69,89,32,40,32].length+length x0.2.2.2.2.2.1≤1099511627776)=true then if decide (length ([32,44,32,75,69,89,32,40,32]++x0.2.2.2.2.2.1)+[32,41].length≤1099511627776)=true then if decide (length ([67,82,69,65,84,69,32,84,65,66,76,69,32]++x0.2.1++[32,40,32]++dA x0.2.2.2.2.1)+length ([32,44,32,75,69,89,32,40,32]++x0.2.2.2.2.2.1++[32,41])≤1099511627776)=true then dQ x0.1 x0.2.1 x0.2.2.1 x0.2.2.2.1 x0.2.2.2.2.1 x0.2.2.2.2.2.1 x0.2.2.2.2.2.2.1 x0.2.2.2.2.2.2.2.1 (ze.op x0.2.2.2.2.2.2.2.2.1) (ze.v x0.2.2.2.2.2.2.2.2.1).1 (ze.v x0.2.2.2.2.2.2.2.2.1).2.1 (ze.v x0.2.2.2.2.2.2.2.2.1).2.2 (ze.s x0.2.2.2.2.2.2.2.2.1) (ze.l x0.2.2.2.2.2.2.2.2.1) x0.2.2.2.2.2.2.2.2.2.1 x0.2.2.2.2.2.2.2.2.2.2.1 (ze.op x0.2.2.2.2.2.2.2.2.2.2.2.1) (ze.v x0.2.2.2.2.2.2.2.2.2.2.2.1).1 (ze.v x0.2.2.2.2.2.2.2.2.2.2.2.1).2.1
 (ze.v x0.2.2.2.2.2.2.2.2.2.2.2.1).2.2 (ze.s x0.2.2.2.2.2.2.2.2.2.2.2.1) (ze.l x0.2.2.2.2.2.2.2.2.2.2.2.1) x0.2.2.2.2.2.2.2.2.2.2.2.2 x0.2.2.2.2.2.2.1 0 ([67,82,69,65,84,69,32,84,65,66,76,69,32]++x0.2.1++[32,40,32]++dA x0.2.2.2.2.1++([32,44,32,75,69,89,32,40,32]++x0.2.2.2.2.2.1++[32,41])) else false else false else false else false else false else false else false)
def F90:zF:=zG [zm] [Sh.str] (fun x=>mv x.1) fun x=>(ni x.1,())
theorem za8:FK 159 F90:=by
 refine zQ (Ja) fun x hc C hC=>?_
 unfold mv at hc
 refine zk ec (Ja) (fun id _=>hC id) (zg2 x.1) ?_
 generalize hy:ni x.1=y
 unfold ni at hy
 try simp only [ze.eta,zp]
 repeat' (first | with_reducible refine eW hy hc (fun _ hy hc=>?_) (fun _ hy hc=>?_) | with_reducible refine ba hy (fun _ hy=>?_) (fun _ hy=>?_) | with_reducible refine bv hc (fun hc=>?_) | with_reducible refine zr ?_)
 all_goals first | (cases hc; done) | (subst hy; first | (change Reach _ _ _ _ _ _; apply AD hC <;> first | assumption | exact hc) | (change Reach _ _ _ _ _ _; apply um hC <;> first | assumption | exact hc) | rfl)

noncomputable def yv:=ic.addL [(150,F81),(164,F95),(159,F90)]
theorem qY:zl yv:=ec.addL <| fc zaY <| fc zbd <| fc za8 jf
open Go

inductive CP where
 | d (s:Sh)
 | nil
 | vec (e:Sh)

@[reducible] def zu:List CP→Type
 | []=>Unit
 | .d s::r=>Sem s×zu r
 | .nil::r=>zu r
 | .vec e::r=>List (Sem e)×zu r

def fO:(n:Nat)→(ps:List CP)→zu ps→List AV
 | _,[],_=>[]
 | n,.d s::r,y=>zn s y.1++fO n r y.2
 | n,.nil::r,y=>.nils::fO n r y
 | n,.vec _::r,y=>.vec n::fO (n+1) r y.2

def fP:(ps:List CP)→zu ps→List AO
 | [],_=>[]
 | .d _::r,y=>fP r y.2
 | .nil::r,y=>fP r y
 | .vec e::r,y=>.vec e y.1::fP r y.2

def cg (ps:List CP) (y:zu ps):List AO:=.box (fO 1 ps y)::fP ps y

def aE:List CP→Nat
 | []=>0
 | .vec _::r=>aE r+1
 | _::r=>aE r

theorem bD:∀ (ps:List CP) (y:zu ps),(fP ps y).length=aE ps
 | [],_=>rfl
 | .d _::r,y=>bD r y.2
 | .nil::r,y=>bD r y
 | .vec _::r,y=>congrArg (· + 1) (bD r y.2)

def cw (hp:Nat→AO):(n:Nat)→(ps:List CP)→List AV→Option (zu ps)
 | _,[],[]=>some ()
 | n,.d s::r,cs=>match cm (fun _=>.dead) s cs with
  | some (x,cs')=>match cw hp n r cs' with
   | some y=>some (x,y)
   | none=>none
  | none=>none
 | n,.nil::r,.nils::cs=>cw hp n r cs
 | n,.vec e::r,.vec id::cs=>if id=n then match hp id with
   | .vec e' l=>if h:e'=e then match cw hp (n+1) r cs with
     | some y=>some (h▸l,y)
     | none=>none
    else none
   | _=>none
  else none
 | _,_,_=>none

section
variable {w:World} {U:Nat→Prop} {ρ:Nat→Option Value}

theorem cK.app {a b:List AV} {va vb:List Value} (h1:cK w U ρ a va) (h2:cK w U ρ b vb):cK w U ρ (a++b) (va++vb) where
 len:=by simp [h1.len,h2.len]
 rv:=by
  intro j c v hc hv
  by_cases hj:j < a.length
  ·rw [j6 hj] at hc
   rw [j6 (by rw [← h1.len]; exact hj)] at hv
   exact h1.rv j c v hc hv
  ·rw [lc (by omega)] at hc
   rw [lc (by rw [← h1.len]; omega),← h1.len] at hv
   exact h2.rv _ c v hc hv

theorem cK.tail {a:AV} {l:List AV} {v:Value} {vs:List Value} (h:cK w U ρ (a::l) (v::vs)):cK w U ρ l vs:=
 ⟨by have:=h.len; simpa using this,fun j c x hc hx=>h.rv (j+1) c x (by simpa using hc) (by simpa using hx)⟩

theorem cK.consH {a:AV} {l:List AV} {v:Value} {vs:List Value} (h1:Rv w U ρ a v) (h2:cK w U ρ l vs):cK w U ρ (a::l) (v::vs) where
 len:=by simp [h2.len]
 rv:=by
  intro j c x hc hx
  cases j with
  | zero=>simp at hc hx; subst hc; subst hx; exact h1
  | succ j=>exact h2.rv j c x (by simpa using hc) (by simpa using hx)

theorem eB {hp:Nat→AO}:∀ (ps:List CP) (n:Nat) (cs:List AV) (y:zu ps) (vals:List Value),cw hp n ps cs=some y→cK w U ρ cs vals→
  cK w U ρ (fO n ps y) vals∧∀ (j:Nat) o,(fP ps y)[j]?=some o→hp (n+j)=o
 | [],n,[],y,vals,h,hr=>⟨hr,by simp [fP]⟩
 | [],n,_::_,y,vals,h,hr=>by simp [cw] at h
 | .d s::r,n,cs,y,vals,h,hr=>by
  unfold cw at h
  split at h
  ·rename_i x cs' hi
   split at h
   ·rename_i y' hy
    cases h
    have hk:=gK (w:=w) (U:=U) (U':=U) (ρ:=ρ) (hp:=fun _=>.dead) (fun _ h=>h) s cs x cs' (fun j=>vals.getD j undef) hi
     (fun j c hc=>by
      have hlt:j < vals.length:=by rw [← hr.len]; exact (bM.1 hc).1
      have:=hr.rv j c vals[j] hc (zJ hlt)
      simpa [getD,zJ hlt] using this)
     (fun id _=>⟨trivial,fun b hb=>by simp [zO,AO.owns] at hb⟩)
    obtain ⟨k1,k2,k3⟩:=hk
    have hdrop:cK w U ρ cs' (vals.drop s.size):=by
     refine ⟨by rw [k2]; simp [hr.len],fun j c v hc hv=>?_⟩
     rw [k2,jI] at hc
     rw [jI] at hv
     exact hr.rv _ c v hc hv
    obtain ⟨i1,i2⟩:=eB r n cs' y' (vals.drop s.size) hy hdrop
    refine ⟨?_,i2⟩
    have htake:cK w U ρ (zn s x) (vals.take s.size):=by
     refine ⟨by rw [zN]; have:=hr.len; simp; omega,fun j c v hc hv=>?_⟩
     have hj:j < s.size:=by rw [← zN s x]; exact (bM.1 hc).1
     rw [uc,if_pos hj] at hv
     have:=k3 j c hc
     simpa [getD,hv] using this
    have:=htake.app i1
    rw [List.take_append_drop] at this
    exact this
   ·cases h
  ·cases h
 | .nil::r,n,.nils::cs,y,vals,h,hr=>by
  match vals,hr with
  | [],hr=>have:=hr.len; simp at this
  | v::vs,hr=>
   have hv:=hr.rv 0 _ v rfl rfl
   obtain ⟨i1,i2⟩:=eB r n cs y vs h hr.tail
   exact ⟨cK.consH hv i1,i2⟩
 | .vec e::r,n,.vec id::cs,y,vals,h,hr=>by
  match vals,hr with
  | [],hr=>have:=hr.len; simp at this
  | v :: vs,hr=>
   have hv:=hr.rv 0 _ v rfl rfl
   unfold cw at h
   split at h
   ·rename_i hid
    subst hid
    split at h
    ·rename_i e' l ho
     split at h
     ·rename_i he
      subst he
      split at h
      ·rename_i y' hy
       cases h
       obtain ⟨i1,i2⟩:=eB r (id+1) cs y' vs hy hr.tail
       refine ⟨cK.consH hv i1,fun j o hj=>?_⟩
       cases j with
       | zero=>simp [fP] at hj; subst hj; exact ho
       | succ j=>
        have:=i2 j o (by simpa [fP] using hj)
        rw [← this]
        congr 1
        omega
      ·cases h
     ·cases h
    ·cases h
   ·cases h
 | .nil::_,_,[],_,_,h,_=>by simp [cw] at h
 | .vec _::_,_,[],_,_,h,_=>by simp [cw] at h
 | .nil::_,_,.any::_,_,_,h,_ | .nil::_,_,.kb _::_,_,_,h,_ | .nil::_,_,.bool _::_,_,_,h,_ | .nil::_,_,.int _ _::_,_,_,h,_ | .nil::_,_,.str _::_,_,_,h,_
 | .nil::_,_,.sl _ _::_,_,_,h,_ | .nil::_,_,.vec _::_,_,_,h,_ | .nil::_,_,.ptr _ _::_,_,_,h,_ | .nil::_,_,.vptr _ _ _ _::_,_,_,h,_ | .nil::_,_,.eptr _ _::_,_,_,h,_
 | .nil::_,_,.nilp::_,_,_,h,_ | .nil::_,_,.agg _::_,_,_,h,_ | .nil::_,_,.tup _::_,_,_,h,_ | .nil::_,_,.clo _ _ _::_,_,_,h,_ | .nil::_,_,.nilf::_,_,_,h,_
 | .nil::_,_,.mp _::_,_,_,h,_ | .nil::_,_,.ifc _::_,_,_,h,_ | .nil::_,_,.tab _ _::_,_,_,h,_ | .nil::_,_,.gint::_,_,_,h,_ | .nil::_,_,.vsuf _ _ _::_,_,_,h,_=>by simp [cw] at h
 | .vec _::_,_,.any::_,_,_,h,_ | .vec _::_,_,.kb _::_,_,_,h,_ | .vec _::_,_,.bool _::_,_,_,h,_ | .vec _::_,_,.int _ _::_,_,_,h,_ | .vec _::_,_,.str _::_,_,_,h,_
 | .vec _::_,_,.sl _ _::_,_,_,h,_ | .vec _::_,_,.nils::_,_,_,h,_ | .vec _::_,_,.ptr _ _::_,_,_,h,_ | .vec _::_,_,.vptr _ _ _ _::_,_,_,h,_ | .vec _::_,_,.eptr _ _::_,_,_,h,_
 | .vec _::_,_,.nilp::_,_,_,h,_ | .vec _::_,_,.agg _::_,_,_,h,_ | .vec _::_,_,.tup _::_,_,_,h,_ | .vec _::_,_,.clo _ _ _::_,_,_,h,_ | .vec _::_,_,.nilf::_,_,_,h,_
 | .vec _::_,_,.mp _::_,_,_,h,_ | .vec _::_,_,.ifc _::_,_,_,h,_ | .vec _::_,_,.tab _ _::_,_,_,h,_ | .vec _::_,_,.gint::_,_,_,h,_ | .vec _::_,_,.vsuf _ _ _::_,_,_,h,_=>by simp [cw] at h
end

theorem gY.box {C:cH} {w:World} {U:Nat→Prop} {ρ:Nat→Option Value} {cs:List AV} {os:List AO} {ps:List CP} {y:zu ps} (hH:gY C w U ρ (fun j=>((AO.box cs::os).getD j .dead))) (hl:os.length=aE ps)
  (hm:cw (iL (.box cs::os)) 1 ps cs=some y):gY C w U ρ (fun j=>(cg ps y).getD j .dead):=by
 have h0:be w U ρ 0 (.box cs):=hH.ob 0
 obtain ⟨b,T,vals,h1,h2,h3,h4,h5⟩:=h0
 obtain ⟨k1,k2⟩:=eB ps 1 cs y vals.toList hm h4
 have hobj:∀ id,id≠0→(cg ps y).getD id .dead=(AO.box cs::os).getD id .dead:=by
  intro id hid
  obtain ⟨j,rfl⟩:∃ j,id=j+1:=⟨id - 1,by omega⟩
  by_cases hj:j < (fP ps y).length
  ·have:=k2 j _ (zJ hj)
   unfold cg
   simp only [x6]
   rw [aJ,zJ hj]
   simp only [iL,po 1 j,x6] at this
   simpa using this.symm
  ·have h7:os.length≤j:=by rw [bD] at hj; omega
   unfold cg
   simp only [x6]
   rw [aJ,aJ,dd (by omega),dd h7]
 have hown:∀ id b,zO ρ id ((cg ps y).getD id .dead) b→zO ρ id ((AO.box cs::os).getD id .dead) b:=by
  intro id b' ho
  by_cases hid:id=0
  ·subst hid
   obtain ⟨_,v,hv,hb⟩:=ho
   exact ⟨rfl,v,hv,hb⟩
  ·rw [hobj id hid] at ho; exact ho
 refine ⟨fun id=>?_,fun id1 id2 b' o1 o2=>hH.inj id1 id2 b' (hown _ _ o1) (hown _ _ o2),fun id b' o=>hH.blk id b' (hown _ _ o)⟩
 by_cases hid:id=0
 ·subst hid
  exact ⟨b,T,vals,h1,h2,h3,k1,h5⟩
 ·show be w U ρ id ((cg ps y).getD id .dead)
  rw [hobj id hid]
  exact hH.ob id

def AE (ps:List CP) (outs:List Sh) (r:AV) (h:List AO):Option (zw (outs.map some)×zu ps):=match h with
 | .box cs::os=>if os.length=aE ps then match ap [] outs r,cw (iL (.box cs::os)) 1 ps cs with
   | some a,some y=>some (a,y)
   | _,_=>none
  else none
 | _=>none

def zbL (ps:List CP) (ks outs:List Sh) (ps':List CP) (c:zu ps→zw (ks.map some)→Bool) (g:zu ps→zw (ks.map some)→zw (outs.map some)×zu ps'):cF (none::ks.map some):=fun x h=>match x.1,h with
 | .ptr 0 0,.box cs::os=>if os.length=aE ps then match cw (iL (.box cs::os)) 1 ps cs with
   | some y=>.chk (c y x.2) (.ok (sB outs (g y x.2).1,cg ps' (g y x.2).2))
   | none=>.err
  else .err
 | _,_=>.err

def xx (ps:List CP) (ks outs:List Sh) (ps':List CP) (c:zu ps→zw (ks.map some)→Bool) (g:zu ps→zw (ks.map some)→zw (outs.map some)×zu ps'):zF:=zU (none::ks.map some) (zbL ps ks outs ps' c g)

theorem om (ps:List CP) (y:zu ps):(cg ps y).length=aE ps+1:=by
 simp [cg,bD]

theorem Aj {w:World} {U:Nat→Prop} {ρ:Nat→Option Value} {outs:List Sh} {r:AV} {y:zw (outs.map some)} {v:Value} (h:ap [] outs r=some y) (hr:Rv w U ρ r v):Rv w U ρ (sB outs y) v:=by
 have hob:∀ id,be w U ρ id (iL [] id)∧∀ b,zO ρ id (iL [] id) b→¬ U b:=fun id=>⟨by simp [iL,be],fun b hb=>by simp [iL,zO,AO.owns] at hb⟩
 have htup:∀ (outs:List Sh) (y:zw (outs.map some)) (rs:List AV),jV (iL []) (fun i=>i) (outs.map some) rs=some y→Rv w U ρ (.tup rs) v→Rv w U ρ (.tup (gz (outs.map some) y)) v:=by
  intro outs y rs hy hrv
  cases hrv with
  | tup _ vs hl hr2=>
  have:=(il (w:=w) (U:=U) (ρ:=ρ) (U':=U) (ρ':=ρ) (hp:=iL []) (f:=fun i=>i) (fun b hb=>hb) (outs.map some) rs vs _ (mM outs rs y hy) ⟨hl,hr2⟩ (fun id _=>hob id)
   (fun id _=>rfl)).1
  simp only [rY,rV,zH,if_false,List.map_id'] at this
  exact .tup _ vs this.len this.rv
 match outs,y,h with
 | [s],y,h=>
  simp only [ap] at h
  split at h
  ·rename_i x hx
   cases h
   exact uD hx hr (fun b hb=>hb) (fun id _=>hob id)
  ·cases h
 | [],y,h=>
  simp only [ap] at h
  cases r with
  | tup rs=>exact htup [] y _ h hr
  | _=>cases h
 | s1::s2::ss,y,h=>
  simp only [ap] at h
  cases r with
  | tup rs=>exact htup _ y _ h hr
  | _=>cases h

theorem Pb {P:Program} {gl:Nat→AV} {E:bt} {k:FuncId} {f:Func} {ps:List CP} {ks outs:List Sh} {ps':List CP} {c:zu ps→zw (ks.map some)→Bool} {g:zu ps→zw (ks.map some)→zw (outs.map some)×zu ps'} (hf:zA E.P k f (ks.length+1))
  (h:∀ y x,c y x=true→∀ C:cH,(∀ id,aE ps+1≤id→C.ρ0 id=none)→Reach E C k (aB f) (aq f.ntmps (.ptr 0 0::gz (ks.map some) x) (cg ps y)) (fun r h=>AE ps' outs r h=some (g y x))) (qp:E.P=P:=by rfl) (qg:E.gl=gl:=by rfl):
  mf P gl k (xx ps ks outs ps' c g):=by
 subst qp qg
 refine bA (by simpa using hf) fun x h0 res hx C hC=>?_
 obtain ⟨x0,x⟩:=x
 unfold zbL at hx
 simp only at hx
 split at hx
 ·rename_i cs os
  split at hx
  ·rename_i hos
   split at hx
   ·rename_i y hy
    simp only [Tr.val] at hx
    split at hx
    ·rename_i hc
     simp only [ao] at hx
     subst hx
     have hR:=h y x hc C (fun id hid=>hC id (by simpa [hos] using hid))
     intro b cs' a w U ρ h1 h2 hcn hW
     have hH:gY C w U ρ (fun j=>((AO.box cs::os).getD j .dead)):=hcn.hp
     have hcn':Cn C (aq f.ntmps (.ptr 0 0::gz (ks.map some) x) (cg ps y)) a w U ρ:=
      ⟨hcn.tm,hH.box hos hy,fun id hid=>hcn.new id (by have hid:(cg ps y).length≤id:=hid; rw [om] at hid; simpa [aq,hos] using hid),hcn.df,hcn.r0⟩
     obtain ⟨e,w',fr,⟨v,r,h',U',ρ',he,hq,hrv,hH',hnew,hr0,hWd⟩,hcm,hf',hl⟩:=hR b cs' a w U ρ h1 h2 hcn' hW
     unfold AE at hq
     split at hq
     ·rename_i cs2 os2
      split at hq
      ·rename_i hos2
       split at hq
       ·rename_i a' y' ha' hy'
        simp only [ao] at hq
        refine ⟨e,w',fr,⟨v,_,_,U',ρ',he,by rw [← hq],Aj ha' hrv,hH'.box hos2 hy',fun id hid=>hnew id (by rw [om] at hid; simpa [hos2] using hid),hr0,hWd⟩,hcm,hf',hl⟩
       ·cases hq
      ·cases hq
     ·cases hq
    ·simp at hx
   ·simp at hx
  ·simp at hx
 ·simp at hx


def pR (E:bt) (n0:Nat) (keep:Nat→ah) (f:Func) (gas:Nat):Nat→List Item→St→Option (AV×List AO)
 | 0,_,_=>none
 | n+1,K,st=>match (run E n0 keep f.results.toList gas K st).val with
  | some (.ret v h)=>some (v,h)
  | some (.head _ K' st')=>pR E n0 keep f gas n K' st'
  | _=>none

theorem kH {E:bt} {C:cH} {k:FuncId} {f:Func} {Q:AV→List AO→Prop} {m n0:Nat} (hE:zl E) (hf:zA E.P k f m) (hC:∀ id,n0≤id→C.ρ0 id=none) {keep:Nat→ah} {gas:Nat}:
  ∀ (n:Nat) (K:List Item) (st:St) (r:AV×List AO),pR E n0 keep f gas n K st=some r→Q r.1 r.2→Reach E C k K st Q
 | 0,_,_,_,h,_=>by cases h
 | n+1,K,st,r,h,hQ=>by
  unfold pR at h
  split at h
  ·rename_i v h' hv
   cases h
   exact nK hE hf hC hv hQ
  ·rename_i j K' st' hv
   exact nK hE hf hC hv (kH hE hf hC n K' st' r h hQ)
  ·cases h

def ck:(outs:List Sh)→zw (outs.map some)
 | []=>()
 | s::r=>(zj s,ck r)

def fR:(ps:List CP)→zu ps
 | []=>()
 | .d s::r=>(zj s,fR r)
 | .nil::r=>fR r
 | .vec _::r=>([],fR r)

def bJ:List Nat→(ps:List CP)→zu ps→List AV
 | _,[],_=>[]
 | n,.d s::r,y=>zn s y.1++bJ n r y.2
 | n,.nil::r,y=>.nils::bJ n r y
 | n,.vec _::r,y=>.vec (n.headD 0)::bJ n.tail r y.2

def SB (E:bt) (keep:Nat→ah) (f:Func) (gas n:Nat) (ks outs:List Sh) (x:zw (ks.map some)):Option (zw (outs.map some)):=
 (pR E 0 keep f gas n (aB f) (aq f.ntmps (gz (ks.map some) x) [])).bind fun r=>ap r.2 outs r.1

def XJ (ks outs:List Sh) (g:zw (ks.map some)→Option (zw (outs.map some))):zF:=zG ks outs (fun x=>(g x).isSome) fun x=>(g x).getD (ck outs)

theorem Ve {P:Program} {gl:Nat→AV} {E:bt} {k:FuncId} {f:Func} {ks outs:List Sh} {keep:Nat→ah} {gas n:Nat} (hE:zl E) (hf:zA E.P k f ks.length) (qp:E.P=P:=by rfl) (qg:E.gl=gl:=by rfl):mf P gl k (XJ ks outs (SB E keep f gas n ks outs)):=by
 subst qp qg
 refine zQ hf fun x hc C hC=>?_
 rw [Option.isSome_iff_exists] at hc
 obtain ⟨y,hy⟩:=hc
 rw [hy]
 unfold SB at hy
 rw [eS] at hy
 obtain ⟨r,h1,h2⟩:=hy
 exact kH hE hf (fun id _=>hC id) n _ _ r h1 h2

def SA (E:bt) (keep:Nat→ah) (f:Func) (gas n:Nat) (ps:List CP) (ks outs:List Sh) (ps':List CP) (y:zu ps) (x:zw (ks.map some)):Option (zw (outs.map some)×zu ps'):=
 (pR E (aE ps+1) keep f gas n (aB f) (aq f.ntmps (.ptr 0 0::gz (ks.map some) x) (cg ps y))).bind fun r=>AE ps' outs r.1 r.2

def zfS (ps:List CP) (ks outs:List Sh) (ps':List CP) (g:zu ps→zw (ks.map some)→Option (zw (outs.map some)×zu ps')):zF:=
 xx ps ks outs ps' (fun y x=>(g y x).isSome) fun y x=>(g y x).getD (ck outs,fR ps')

theorem Pc {P:Program} {gl:Nat→AV} {E:bt} {k:FuncId} {f:Func} {ps:List CP} {ks outs:List Sh} {ps':List CP} {keep:Nat→ah} {gas n:Nat} (hE:zl E) (hf:zA E.P k f (ks.length+1)) (qp:E.P=P:=by rfl) (qg:E.gl=gl:=by rfl):mf P gl k (zfS ps ks outs ps' (SA E keep f gas n ps ks outs ps')):=by
 subst qp qg
 refine Pb hf fun y x hc C hC=>?_
 rw [Option.isSome_iff_exists] at hc
 obtain ⟨z,hz⟩:=hc
 rw [hz]
 unfold SA at hz
 rw [eS] at hz
 obtain ⟨r,h1,h2⟩:=hz
 exact kH hE hf hC n _ _ r h1 h2

theorem Pd {P:Program} {gl:Nat→AV} {E:bt} {k:FuncId} {f:Func} {ks outs:List Sh} {keep:Nat→ah} {gas n:Nat} {c:zw (ks.map some)→Bool} {g:zw (ks.map some)→zw (outs.map some)} (hE:zl E) (hf:zA E.P k f ks.length)
  (hc:∀ x,c x=(SB E keep f gas n ks outs x).isSome) (hg:∀ x,g x=(SB E keep f gas n ks outs x).getD (ck outs)) (qp:E.P=P:=by rfl) (qg:E.gl=gl:=by rfl):mf P gl k (zG ks outs c g):=by
 subst qp qg
 obtain rfl:c=fun x=>(SB E keep f gas n ks outs x).isSome:=funext hc
 obtain rfl:g=fun x=>(SB E keep f gas n ks outs x).getD (ck outs):=funext hg
 exact Ve hE hf

theorem J3 {P:Program} {gl:Nat→AV} {E:bt} {k:FuncId} {f:Func} {ps:List CP} {ks outs:List Sh} {ps':List CP} {keep:Nat→ah} {gas n:Nat} {c:zu ps→zw (ks.map some)→Bool} {g:zu ps→zw (ks.map some)→zw (outs.map some)×zu ps'} (hE:zl E) (hf:zA E.P k f (ks.length+1))
  (hc:∀ y x,c y x=(SA E keep f gas n ps ks outs ps' y x).isSome) (hg:∀ y x,g y x=(SA E keep f gas n ps ks outs ps' y x).getD (ck outs,fR ps')) (qp:E.P=P:=by rfl) (qg:E.gl=gl:=by rfl):mf P gl k (xx ps ks outs ps' c g):=by
 subst qp qg
 obtain rfl:c=fun y x=>(SA E keep f gas n ps ks outs ps' y x).isSome:=funext fun y=>funext fun x=>hc y x
 obtain rfl:g=fun y x=>(SA E keep f gas n ps ks outs ps' y x).getD (ck outs,fR ps'):=funext fun y=>funext fun x=>hg y x
 exact Pc hE hf

abbrev aj:=AV×List AO

def Tr.map {α β:Type} (f:α→β):Tr α→Tr β
 | .err=>.err
 | .chk c t=>.chk c (t.map f)
 | .br c t e=>.br c (t.map f) (e.map f)
 | .ok a=>.ok (f a)

theorem Tr.val_map {α β:Type} (f:α→β):∀ t:Tr α,(t.map f).val=t.val.map f
 | .err=>rfl
 | .chk c t=>by simp only [Tr.map,Tr.val,val_map f t]; split <;> rfl
 | .br c t e=>by simp only [Tr.map,Tr.val,val_map f t,val_map f e]; split <;> rfl
 | .ok _=>rfl

abbrev Tr.to {σ:Type} (s:σ):Tr (σ ⊕ aj):=.ok (.inl s)
abbrev Tr.re {σ:Type} (v:AV) (h:List AO):Tr (σ ⊕ aj):=.ok (.inr (v,h))

def bl {σ:Type} (t:σ→Tr (σ ⊕ aj)):Nat→σ→Option aj
 | 0,_=>none
 | n+1,s=>match (t s).val with
  | some (.inl s')=>bl t n s'
  | some (.inr r)=>some r
  | none=>none

def bh {σ:Type} (t:σ→Tr (σ ⊕ aj)) (n:Nat) (i:Tr (σ ⊕ aj)):Option aj:=match i.val with
 | some (.inl s)=>bl t n s
 | some (.inr r)=>some r
 | none=>none

def lf {σ:Type} (f:Func) (e:σ→Nat×St):σ ⊕ aj→zt
 | .inl s=>.head (e s).1 (zy f (e s).1) (e s).2
 | .inr r=>.ret r.1 r.2

def e0:Empty→Nat×St:=fun x=>nomatch x
def t0:Empty→Tr (Empty ⊕ aj):=fun x=>nomatch x

section
variable {σ:Type} {E:bt} {n0:Nat} {keep:Nat→ah} {f:Func} {gas:Nat} {e:σ→Nat×St} {t:σ→Tr (σ ⊕ aj)}

theorem G8 (hon:∀ s,run E n0 keep f.results.toList gas (zy f (e s).1) (e s).2=(t s).map (lf f e)):∀ (n:Nat) (s:σ),pR E n0 keep f gas n (zy f (e s).1) (e s).2=bl t n s
 | 0,_=>rfl
 | n+1,s=>by
  rw [pR,hon s,Tr.val_map,bl]
  cases (t s).val with
  | none=>rfl
  | some l=>
   cases l with
   | inl s'=>exact G8 hon n s'
   | inr r=>rfl

theorem js (hon:∀ s,run E n0 keep f.results.toList gas (zy f (e s).1) (e s).2=(t s).map (lf f e)) {K:List Item} {st:St} {i:Tr (σ ⊕ aj)} (hgo:run E n0 keep f.results.toList gas K st=i.map (lf f e)) (n:Nat):pR E n0 keep f gas (n+1) K st=bh t n i:=by
 rw [pR,hgo,Tr.val_map,bh]
 cases i.val with
 | none=>rfl
 | some l=>
  cases l with
  | inl s=>exact G8 hon n s
  | inr r=>rfl
end

def zW {σ:Type} (outs:List Sh) (t:σ→Tr (σ ⊕ aj)) (n:Nat) (i:Tr (σ ⊕ aj)):Option (zw (outs.map some)):=(bh t n i).bind fun r=>ap r.2 outs r.1

theorem ji {P:Program} {gl:Nat→AV} {σ:Type} {E:bt} {k:FuncId} {f:Func} {ks outs:List Sh} {keep:Nat→ah} {gas n:Nat} {e:σ→Nat×St} {t:σ→Tr (σ ⊕ aj)} {i:zw (ks.map some)→Tr (σ ⊕ aj)} {c:zw (ks.map some)→Bool} {g:zw (ks.map some)→zw (outs.map some)}
  (hE:zl E) (hf:zA E.P k f ks.length) (hgo:∀ x,run E 0 keep f.results.toList gas (aB f) (aq f.ntmps (gz (ks.map some) x) [])=(i x).map (lf f e))
  (hon:∀ s,run E 0 keep f.results.toList gas (zy f (e s).1) (e s).2=(t s).map (lf f e))
  (hc:∀ x,c x=(zW outs t n (i x)).isSome) (hg:∀ x,g x=(zW outs t n (i x)).getD (ck outs)) (qp:E.P=P:=by rfl) (qg:E.gl=gl:=by rfl):mf P gl k (zG ks outs c g):=by
 subst qp qg
 have h:∀ x,SB E keep f gas (n+1) ks outs x=zW outs t n (i x):=by
  intro x
  unfold SB zW
  rw [js hon (hgo x)]
 exact Pd (n:=n+1) hE hf (fun x=>by rw [h,hc]) (fun x=>by rw [h,hg])

abbrev k0:Nat→ah:=fun _=>{ }
abbrev lz:List (Nat×List Nat)→Nat→ah
 | [],_=>{ }
 | p::r,j=>if j=p.1 then { slots:=p.2 } else lz r j
def o1 {a:Sh} (o:Option (zw [some a])):Sem a:=(o.getD (ck [a])).1
def o2 {a b:Sh} (o:Option (zw [some a,some b])):Sem a×Sem b:=((o.getD (ck [a,b])).1,(o.getD (ck [a,b])).2.1)
def o3 {a b c:Sh} (o:Option (zw [some a,some b,some c])):Sem a×Sem b×Sem c:=((o.getD (ck [a,b,c])).1,(o.getD (ck [a,b,c])).2.1,(o.getD (ck [a,b,c])).2.2.1)
def FT (ks outs:List Sh) (o:zw (ks.map some)→Option (zw (outs.map some))):zF:=zG ks outs (fun x=>(o x).isSome) fun x=>(o x).getD (ck outs)
theorem zl.T1 {P:Program} {gl:Nat→AV} {σ:Type} {E:bt} {k:FuncId} {f:Func} {ks outs:List Sh} {keep:Nat→ah} {n:Nat} {e:σ→Nat×St} {t:σ→Tr (σ ⊕ aj)} {i:zw (ks.map some)→Tr (σ ⊕ aj)} (hE:zl E) (gas:Nat:=400)
  (hf:(E.P.funcs[k]?,f.name == "runtime.NumGoroutine",f.body.isNone,decide (ks.length≤f.ntmps))=(some f,false,false,true):=by kernel_rfl)
  (hgo:∀ x,run E 0 keep f.results.toList gas (aB f) (aq f.ntmps (gz (ks.map some) x) [])=(i x).map (lf f e):=by intro x; kernel_rfl)
  (hon:∀ s,run E 0 keep f.results.toList gas (zy f (e s).1) (e s).2=(t s).map (lf f e):=by intro s; cases s <;> kernel_rfl) (qp:E.P=P:=by rfl) (qg:E.gl=gl:=by rfl):mf P gl k (FT ks outs fun x=>zW outs t n (i x)):=by
 subst qp qg
 exact ji hE (aQ hf) hgo hon (fun _=>rfl) fun _=>rfl

theorem JN (E:bt) (n0:Nat) (keep:Nat→ah) (f:Func) (gas:Nat):∀ s,run E n0 keep f.results.toList gas (zy f (e0 s).1) (e0 s).2=(t0 s).map (lf f e0):=fun s=>nomatch s

def xN {σ:Type} (outs:List Sh) (ps':List CP) (t:σ→Tr (σ ⊕ aj)) (n:Nat) (i:Tr (σ ⊕ aj)):Option (zw (outs.map some)×zu ps'):=(bh t n i).bind fun r=>AE ps' outs r.1 r.2

theorem qI {P:Program} {gl:Nat→AV} {σ:Type} {E:bt} {k:FuncId} {f:Func} {ps:List CP} {ks outs:List Sh} {ps':List CP} {keep:Nat→ah} {gas n:Nat} {e:σ→Nat×St} {t:σ→Tr (σ ⊕ aj)} {i:zu ps→zw (ks.map some)→Tr (σ ⊕ aj)} {c:zu ps→zw (ks.map some)→Bool} {g:zu ps→zw (ks.map some)→zw (outs.map some)×zu ps'}
  (hE:zl E) (hf:zA E.P k f (ks.length+1)) (hgo:∀ y x,run E (aE ps+1) keep f.results.toList gas (aB f) (aq f.ntmps (.ptr 0 0::gz (ks.map some) x) (cg ps y))=(i y x).map (lf f e))
  (hon:∀ s,run E (aE ps+1) keep f.results.toList gas (zy f (e s).1) (e s).2=(t s).map (lf f e))
  (hc:∀ y x,c y x=(xN outs ps' t n (i y x)).isSome) (hg:∀ y x,g y x=(xN outs ps' t n (i y x)).getD (ck outs,fR ps')) (qp:E.P=P:=by rfl) (qg:E.gl=gl:=by rfl):mf P gl k (xx ps ks outs ps' c g):=by
 subst qp qg
 have h:∀ y x,SA E keep f gas (n+1) ps ks outs ps' y x=xN outs ps' t n (i y x):=by
  intro y x
  unfold SA xN
  rw [js hon (hgo y x)]
 exact J3 (n:=n+1) hE hf (fun y x=>by rw [h,hc]) (fun y x=>by rw [h,hg])


section
variable {σ:Type} {t:σ→Tr (σ ⊕ aj)}

theorem pT {β:Type} (N:Nat) (st:β→Nat→σ) (I:β→Nat→Prop) (Φ:aj→Prop) (M:Nat)
  (hstep:∀ b i,i < N→I b i→(∃ b',I b' (i+1)∧(t (st b i)).val=some (.inl (st b' (i+1))))∨∃ r,(t (st b i)).val=some (.inr r)∧Φ r)
  (hend:∀ b n,I b N→M≤n→∃ r,bl t n (st b N)=some r∧Φ r):
  ∀ (m i:Nat) (b:β) (n:Nat),N - i=m→i≤N→I b i→M+m≤n→∃ r,bl t n (st b i)=some r∧Φ r
 | 0,i,b,n,hm,hi,hI,hn=>by
  obtain rfl:i=N:=by omega
  exact hend b n hI (by omega)
 | m+1,i,b,n,hm,hi,hI,hn=>by
  obtain ⟨n,rfl⟩:∃ k,n=k+1:=⟨n - 1,by omega⟩
  rcases hstep b i (by omega) hI with ⟨b',hI',h⟩ | ⟨r,h1,h2⟩
  ·obtain ⟨r,h1,h2⟩:=pT N st I Φ M hstep hend m (i+1) b' n (by omega) (by omega) hI' (by omega)
   exact ⟨r,by rw [bl,h]; exact h1,h2⟩
  ·exact ⟨r,by rw [bl,h1],h2⟩

theorem rr {n:Nat} {s:σ}:bl t (n+1) s=match (t s).val with
  | some (.inl s')=>bl t n s'
  | some (.inr r)=>some r
  | none=>none:=rfl
end


abbrev Mc:Nat→ah:=fun _=>{ }
theorem Xa:zA yv.P 89 Tryz.f89 1:=aQ (by kernel_rfl)
def dR (x0:Sem zm) (_:ze) (_:ze) (_:Sem aN.sl×Sem (Sh.expr.pr Sh.str)) (_:Sem zf.sl×Sem (aN.sl.pr (Sh.expr.pr Sh.str))) (_:Sem Sh.str×Sem (Sh.str.sl.pr (zi.sl.pr (Sh.str.pr (Sh.str.sl.pr (bI.sl.pr (Sh.expr.pr (zf.sl.pr (aN.sl.pr (Sh.expr.pr Sh.str)))))))))) (a5:Bool) (_:Sem Sh.expr×Sem (zf.sl.pr (aN.sl.pr (Sh.expr.pr Sh.str)))) (a7:Sem Sh.str×Sem (Sh.str.pr (Sh.str.pr (Sh.str.sl.pr (zi.sl.pr (Sh.str.pr (Sh.str.sl.pr (bI.sl.pr (Sh.expr.pr (zf.sl.pr (aN.sl.pr (Sh.expr.pr Sh.str)))))))))))) (a8:Sem Sh.str×Sem (Sh.str.pr (Sh.str.pr (Sh.str.sl.pr (zi.sl.pr (Sh.str.pr (Sh.str.sl.pr (bI.sl.pr (Sh.expr.pr (zf.sl.pr (aN.sl.pr (Sh.expr.pr Sh.str)))))))))))) (_:Int) (_:Int) (a11:Bool) (a12:Sem Sh.str×Sem (Sh.str.pr (Sh.str.pr (Sh.str.sl.pr (zi.sl.pr (Sh.str.pr (Sh.str.sl.pr (bI.sl.pr (Sh.expr.pr (zf.sl.pr (aN.sl.pr (Sh.expr.pr Sh.str)))))))))))) (_:Int) (_:Int) (_:Sem Sh.bool) (a16:Bool) (_:Sem Sh.expr×Sem Sh.str) (a18:Sem Sh.str×Sem (Sh.str.pr (Sh.str.pr (Sh.str.sl.pr (zi.sl.pr (Sh.str.pr (Sh.str.sl.pr (bI.sl.pr (Sh.expr.pr (zf.sl.pr (aN.sl.pr (Sh.expr.pr Sh.str)))))))))))) (a19:Bool) (a20:Sem Sh.str×Sem (Sh.str.pr (Sh.str.pr (Sh.str.sl.pr (zi.sl.pr (Sh.str.pr (Sh.str.sl.pr (bI.sl.pr (Sh.expr.pr (zf.sl.pr (aN.sl.pr (Sh.expr.pr Sh.str)))))))))))) (_:Sem Sh.bool) (a22:Bool) (_:Sem zf.sl×Sem (aN.sl.pr (Sh.expr.pr Sh.str))) (a24:Sem Sh.str×Sem (Sh.str.pr (Sh.str.pr (Sh.str.sl.pr (zi.sl.pr (Sh.str.pr (Sh.str.sl.pr (bI.sl.pr (Sh.expr.pr (zf.sl.pr (aN.sl.pr (Sh.expr.pr Sh.str)))))))))))) (_:Sem Sh.bool) (_:Int) (_:Int) (_:Sem Sh.bool) (_:Bool) (a30:Bool) (_:Sem Sh.str×Sem (Sh.str.pr (Sh.str.pr (Sh.str.sl.pr (zi.sl.pr (Sh.str.pr (Sh.str.sl.pr (bI.sl.pr (Sh.expr.pr (zf.sl.pr (aN.sl.pr (Sh.expr.pr Sh.str)))))))))))) (a32:Bool) (a33:Sem Sh.bool) (a34:Bool) (a35:Sem Sh.str×Sem (Sh.str.pr (Sh.str.pr (Sh.str.sl.pr (zi.sl.pr (Sh.str.pr (Sh.str.sl.pr (bI.sl.pr (Sh.expr.pr (zf.sl.pr (aN.sl.pr (Sh.expr.pr Sh.str)))))))))))) (a36:Bool):Tr (Empty ⊕ aj):=
 Tr.br (x0.1==[99,114,101,97,116,101]) (Tr.chk (bif a5 then dt a7 else true) (Tr.re (AV.bool (bif a5 then fD a7 else false)) [])) (Tr.br (x0.1==[100,114,111,112]) (Tr.chk (bif bE x0.2.1 then dt a8 else true) (Tr.re (AV.bool (bif bE x0.2.1 then fD a8 else false)) [])) (Tr.br (x0.1==[105,110,115,101,114,116]) (Tr.chk (bif a11 then dt a12 else true) (Tr.re (AV.bool (bif a11 then fD a12 else false)) [])) (Tr.br (x0.1==[117,112,100,97,116,101]) (Tr.chk (bif a16 then dt a18 else true) (Tr.re (AV.bool (bif a16 then fD a18 else false)) [])) (Tr.br (x0.1==[100,101,108,101,116,101]) (Tr.chk (bif a19 then dt a20 else true) (Tr.re (AV.bool (bif a19 then fD a20 else false)) [])) (Tr.br (x0.1==[115,101,108,101,99,116]) (Tr.chk (bif a19 then dt a20 else true) (Tr.re (AV.bool (bif a19 then fD a20 else false)) [])) (Tr.br (x0.1==[114,101,97,100]) (Tr.chk (bif a22 then dt a24 else true) (Tr.re (AV.bool (bif a22 then fD a24 else false)) [])) (Tr.br (x0.1==[119,114,105,116,101]) (Tr.chk (bif a22 then dt a24 else true) (Tr.re (AV.bool (bif a22 then fD a24 else false)) [])) (Tr.br (x0.1==[117,110,114,101,97,100]) (Tr.chk (bif a22 then dt a24 else true) (Tr.re (AV.bool (bif a22 then fD a24 else false)) [])) (Tr.br (x0.1==[117,110,119,114,105,116,101])
 (Tr.chk (bif a22 then dt a24 else true) (Tr.re (AV.bool (bif a22 then fD a24 else false)) [])) (Tr.br (x0.1==[99,111,112,121]) (Tr.chk (bif a30 then a32 else true) (Tr.re (AV.bool (bif a30 then a33 else false)) [])) (Tr.br (x0.1==[106,111,105,110]) (Tr.chk (bif a34 then dt a35 else true) (Tr.re (AV.bool (bif a34 then fD a35 else false)) [])) (Tr.br (x0.1==[103,114,111,117,112]) (Tr.chk (bif a36 then a32 else true) (Tr.re (AV.bool (bif a36 then a33 else false)) [])) (Tr.re (AV.kb false) [])))))))))))))
def eD (x0:Sem zm):Tr (Empty ⊕ aj):=
 let a0:=zE x0.2.2.2.2.2.2.2.2.1
 let a1:=zE x0.2.2.2.2.2.2.2.2.2.2.2.1
 let a2:=(x0.2.2.2.2.2.2.2.2.2.2.1,a1,x0.2.2.2.2.2.2.2.2.2.2.2.2)
 let a3:=(x0.2.2.2.2.2.2.2.2.2.1,a2)
 let a4:=(x0.2.2.1,x0.2.2.2.1,x0.2.2.2.2.1,x0.2.2.2.2.2.1,x0.2.2.2.2.2.2.1,x0.2.2.2.2.2.2.2.1,a0,a3)
 let a5:=bif bE x0.2.1 then eL (x0.1,x0.2.1,a4) else false
 let a6:=(ze.mk [] (0,0,[]) [] [],a3)
 let a7:=(x0.1,[],x0.2.2.1,x0.2.2.2.1,[],[],[],[],a6)
 let a8:=(x0.1,[],a4)
 let a9:=(↑(length x0.2.2.2.2.2.2.2.2.2.1):Int)
 let a10:=zL (fun x => !gr x) x0.2.2.2.2.2.2.2.2.2.1 0
 let a11:=bif bE x0.2.1 then bif bif decide (a9 < 1) then true else decide (a9 > 12) then false else !decide (a10 ≥ 0) else false
 let a12:=(x0.1,[],x0.2.2.1,x0.2.2.2.1,x0.2.2.2.2.1,x0.2.2.2.2.2.1,x0.2.2.2.2.2.2.1,x0.2.2.2.2.2.2.2.1,a0,[],a2)
 let a13:=(↑(length x0.2.2.2.2.2.2.2.2.2.2.1):Int)
 let a14:=zL (fun x => !wW x) x0.2.2.2.2.2.2.2.2.2.2.1 0
 let a15:=oP a1
 let a16:=bif bE x0.2.1 then bif bif decide (a13 < 1) then true else decide (a13 > 8) then false else bif !decide (a14 ≥ 0) then a15 else false else false
 let a17:=(ze.mk [] (0,0,[]) [] [],x0.2.2.2.2.2.2.2.2.2.2.2.2)
 let a18:=(x0.1,[],x0.2.2.1,x0.2.2.2.1,x0.2.2.2.2.1,x0.2.2.2.2.2.1,x0.2.2.2.2.2.2.1,x0.2.2.2.2.2.2.2.1,a0,x0.2.2.2.2.2.2.2.2.2.1,[],a17)
 let a19:=bif bE x0.2.1 then a15 else false
 let a20:=(x0.1,[],x0.2.2.1,x0.2.2.2.1,x0.2.2.2.2.1,x0.2.2.2.2.2.1,x0.2.2.2.2.2.2.1,x0.2.2.2.2.2.2.2.1,a0,x0.2.2.2.2.2.2.2.2.2.1,x0.2.2.2.2.2.2.2.2.2.2.1,a17)
 let a21:=bE x0.2.2.2.2.2.2.2.2.2.2.2.2
 let a22:=bif bE x0.2.1 then a21 else false
 let a23:=(x0.2.2.2.2.2.2.2.2.2.1,x0.2.2.2.2.2.2.2.2.2.2.1,a1,[])
 let a24:=(x0.1,[],x0.2.2.1,x0.2.2.2.1,x0.2.2.2.2.1,x0.2.2.2.2.2.1,x0.2.2.2.2.2.2.1,x0.2.2.2.2.2.2.2.1,a0,a23)
 let a25:=bE x0.2.2.1
 let a26:=(↑(length x0.2.2.2.1):Int)
 let a27:=zL (fun x => !bE x) x0.2.2.2.1 0
 let a28:=oP a0
 let a29:=bif !decide (a27 ≥ 0) then a28 else false
 let a30:=bif bE x0.2.1 then bif a25 then bif bif decide (a26 < 1) then true else decide (a26 > 8) then false else a29 else false else false
 let a31:=(x0.1,[],[],[],x0.2.2.2.2.1,x0.2.2.2.2.2.1,x0.2.2.2.2.2.2.1,x0.2.2.2.2.2.2.2.1,a6)
 let a32:=dt a31
 let a33:=fD a31
 let a34:=bif bE x0.2.1 then bif a25 then bif bE x0.2.2.2.2.2.1 then bif a21 then a28 else false else false else false else false
 let a35:=(x0.1,[],[],x0.2.2.2.1,x0.2.2.2.2.1,[],x0.2.2.2.2.2.2.1,x0.2.2.2.2.2.2.2.1,ze.mk [] (0,0,[]) [] [],a23)
 let a36:=bif bE x0.2.1 then bif a25 then bif bif decide (a26 < 2) then true else decide (a26 > 2) then false else a29 else false else false
 dR x0 a0 a1 a2 a3 a4 a5 a6 a7 a8 a9 a10 a11 a12 a13 a14 a15 a16 a17 a18 a19 a20 a21 a22 a23 a24 a25 a26 a27 a28 a29 a30 a31 a32 a33 a34 a35 a36
theorem VQ (x0:Sem zm):rn yv 0 Mc Tryz.f89 [zz zm x0] []=(eD x0).map (lf Tryz.f89 e0):=by kernel_rfl
def tJ (x0:Sem zm):Option (zw (List.map some [Sh.bool])):=zW [Sh.bool] t0 100000000 (eD x0)
def jZ (x0:Sem zm):Bool:=(tJ x0).isSome
def f7 (x0:Sem zm):Sem Sh.bool:=(fun r:zw (List.map some [Sh.bool])=>r.1) ((tJ x0).getD (ck [Sh.bool]))
def Q0:zF:=zG [zm] [Sh.bool] (fun x=>jZ x.1) fun x=>(f7 x.1,())
theorem Oq:FK 89 Q0:=ji (ks:=[zm]) (outs:=[Sh.bool]) (keep:=Mc) (gas:=400) (n:=100000000) (e:=e0) (t:=t0) (i:=fun x=>eD x.1) qY Xa (fun x=>VQ x.1) (JN _ _ _ _ _) (fun _=>by kernel_rfl) (fun _=>by kernel_rfl)

abbrev Md:Nat→ah:=fun _=>{ }
theorem Xb:zA yv.P 90 Tryz.f90 1:=aQ (by kernel_rfl)
def Bh (x0:Sem zm) (a0:Bool) (a1:zo) (a2:zo) (a3:zo) (a4:zo) (_:ze) (_:ze) (a7:Sem Sh.str×Sem (Sh.str.pr (Sh.str.pr (Sh.str.sl.pr (zi.sl.pr (Sh.str.pr (Sh.str.sl.pr (bI.sl.pr (Sh.expr.pr (zf.sl.pr (aN.sl.pr (Sh.expr.pr Sh.str)))))))))))) (a8:zo) (a9:zo) (a10:TS) (a11:zo) (a12:zo) (a13:zo) (a14:TS) (a15:Bool) (a16:zo) (a17:TS) (a18:zo) (a19:zo) (a20:zo) (a21:zo) (a22:zo) (a23:zo) (a24:List UInt8) (a25:List UInt8) (a26:zo) (a27:zo) (a28:zo) (a29:zo) (a30:zo) (a31:zo) (a32:TS) (a33:zo) (a34:Bool) (a35:zo) (a36:TS) (a37:zo) (a38:zo) (a39:zo) (a40:zo) (a41:zo) (a42:TS) (a43:zo) (a44:zo) (a45:TS) (a46:zo):Tr (Empty ⊕ aj):=Tr.chk a0 (Tr.chk (decide ([77,73,71,82,65,84,69,32].length+(Lib.toUpperA x0.1).length≤1099511627776)) (Tr.chk (decide (length a1+[32].length≤1099511627776)) (Tr.chk (decide (length a2+length x0.2.1≤1099511627776)) (Tr.chk (decide (length a3+[32,70,82,79,77,32].length≤1099511627776)) (Tr.chk (decide (length a4+length x0.2.2.1≤1099511627776)) (Tr.br (x0.1==[99,114,101,97,116,101]) (Tr.chk (mv a7) (Tr.re (AV.str (ni a7)) []))
 (Tr.br (x0.1==[100,114,111,112]) (Tr.chk (decide ([68,82,79,80,32,84,65,66,76,69,32].length+length x0.2.1≤1099511627776)) (Tr.re (AV.str ([68,82,79,80,32,84,65,66,76,69,32]++x0.2.1)) [])) (Tr.br (x0.1==[105,110,115,101,114,116]) (Tr.chk (decide ([73,78,83,69,82,84,32,73,78,84,79,32].length+length x0.2.1≤1099511627776)) (Tr.chk (decide (length a8+[32,86,65,76,85,69,83,32,40,32].length≤1099511627776)) (Tr.chk (kU x0.2.2.2.2.2.2.2.2.2.1) (Tr.chk (decide (length a9+length a10≤1099511627776)) (Tr.chk (decide (length a11+[32,41].length≤1099511627776)) (Tr.re (AV.str (a11++[32,41])) [])))))) (Tr.br (x0.1==[117,112,100,97,116,101]) (Tr.chk (decide ([85,80,68,65,84,69,32].length+length x0.2.1≤1099511627776)) (Tr.chk (decide (length a12+[32,83,69,84,32].length≤1099511627776)) (Tr.chk (kO x0.2.2.2.2.2.2.2.2.2.2.1) (Tr.chk (decide (length a13+length a14≤1099511627776)) (Tr.chk a15 (Tr.chk (decide (length a16+length a17≤1099511627776)) (Tr.re (AV.str (a16++a17)) []))))))) (Tr.br (x0.1==[100,101,108,101,116,101]) (Tr.chk (decide ([68,69,76,69,84,69,32,70,82,79,77,32].length+length x0.2.1≤1099511627776)) (Tr.chk a15 (Tr.chk (decide (length a18+length a17≤1099511627776)) (Tr.re (AV.str (a18++a17)) []))))
 (Tr.br (x0.1==[115,101,108,101,99,116]) (Tr.chk (decide ([83,69,76,69,67,84,32,42,32,70,82,79,77,32].length+length x0.2.1≤1099511627776)) (Tr.chk a15 (Tr.chk (decide (length a19+length a17≤1099511627776)) (Tr.re (AV.str (a19++a17)) [])))) (Tr.br (x0.1==[114,101,97,100]) (Tr.chk a0 (Tr.chk (decide ([71,82,65,78,84,32].length+(Lib.toUpperA x0.1).length≤1099511627776)) (Tr.chk (decide (length a20+[32,79,78,32].length≤1099511627776)) (Tr.chk (decide (length a21+length x0.2.1≤1099511627776)) (Tr.chk (decide (length a22+[32,84,79,32].length≤1099511627776)) (Tr.chk (decide (length a23+length x0.2.2.2.2.2.2.2.2.2.2.2.2≤1099511627776)) (Tr.re (AV.str (a23++x0.2.2.2.2.2.2.2.2.2.2.2.2)) []))))))) (Tr.br (x0.1==[119,114,105,116,101]) (Tr.chk a0 (Tr.chk (decide ([71,82,65,78,84,32].length+(Lib.toUpperA x0.1).length≤1099511627776)) (Tr.chk (decide (length a20+[32,79,78,32].length≤1099511627776)) (Tr.chk (decide (length a21+length x0.2.1≤1099511627776)) (Tr.chk (decide (length a22+[32,84,79,32].length≤1099511627776)) (Tr.chk (decide (length a23+length x0.2.2.2.2.2.2.2.2.2.2.2.2≤1099511627776)) (Tr.re (AV.str (a23++x0.2.2.2.2.2.2.2.2.2.2.2.2)) []))))))) (Tr.br (x0.1==[117,110,114,101,97,100]) (Tr.chk
 (decide (0≤2)&&decide (2≤(↑(length x0.1):Int))&&decide ((↑(length x0.1):Int)≤(↑(length x0.1):Int))) (Tr.chk (decide (a24.length≤140737488355328)&&a24.all fun b=>decide (b.toNat < 128)) (Tr.chk (decide ([82,69,86,79,75,69,32].length+a25.length≤1099511627776)) (Tr.chk (decide (length a26+[32,79,78,32].length≤1099511627776)) (Tr.chk (decide (length a27+length x0.2.1≤1099511627776)) (Tr.chk (decide (length a28+[32,70,82,79,77,32].length≤1099511627776)) (Tr.chk (decide (length a29+length x0.2.2.2.2.2.2.2.2.2.2.2.2≤1099511627776)) (Tr.re (AV.str (a29++x0.2.2.2.2.2.2.2.2.2.2.2.2)) [])))))))) (Tr.br (x0.1==[117,110,119,114,105,116,101]) (Tr.chk (decide (0≤2)&&decide (2≤(↑(length x0.1):Int))&&decide ((↑(length x0.1):Int)≤(↑(length x0.1):Int))) (Tr.chk (decide (a24.length≤140737488355328)&&a24.all fun b=>decide (b.toNat < 128)) (Tr.chk (decide ([82,69,86,79,75,69,32].length+a25.length≤1099511627776)) (Tr.chk (decide (length a26+[32,79,78,32].length≤1099511627776)) (Tr.chk (decide (length a27+length x0.2.1≤1099511627776)) (Tr.chk (decide (length a28+[32,70,82,79,77,32].length≤1099511627776)) (Tr.chk (decide (length a29+length x0.2.2.2.2.2.2.2.2.2.2.2.2≤1099511627776)) (Tr.re (AV.str (a29++x0.2.2.2.2.2.2.2.2.2.2.2.2)) [])))))))) (Tr.br (x0.1==[99,111,112,121])
 (Tr.chk (decide (length a30+[32,40,32].length≤1099511627776)) (Tr.chk (kR x0.2.2.2.1) (Tr.chk (decide (length a31+length a32≤1099511627776)) (Tr.chk (decide (length a33+[32,41].length≤1099511627776)) (Tr.chk a34 (Tr.chk (decide (length a35+length a36≤1099511627776)) (Tr.re (AV.str (a35++a36)) []))))))) (Tr.br (x0.1==[106,111,105,110]) (Tr.chk (decide (length a30+[32,44,32].length≤1099511627776)) (Tr.chk (decide (length a37+length x0.2.2.2.2.2.2.2.2.2.2.2.2≤1099511627776)) (Tr.chk (decide (length a38+[32,79,78,32].length≤1099511627776)) (Tr.chk (decide (length a39+length x0.2.2.2.2.2.1≤1099511627776)) (Tr.chk a34 (Tr.chk (decide (length a40+length a36≤1099511627776)) (Tr.re (AV.str (a40++a36)) []))))))) (Tr.chk (decide (length a30+[32,66,89,32].length≤1099511627776)) (Tr.chk (zI 0 (length x0.2.2.2.1)) (Tr.chk (decide (length a41+length a42≤1099511627776)) (Tr.chk (decide (length a43+[32,83,85,77,32].length≤1099511627776)) (Tr.chk (zI 1 (length x0.2.2.2.1)) (Tr.chk (decide (length a44+length a45≤1099511627776)) (Tr.chk a34 (Tr.chk (decide (length a46+length a36≤1099511627776)) (Tr.re (AV.str (a46++a36)) []))))))))))))))))))))))))))
def vQ (x0:Sem zm):Tr (Empty ⊕ aj):=
 let a0:=decide (length x0.1≤140737488355328)&&List.all x0.1 fun b=>decide (b.toNat < 128)
 let a1:=[77,73,71,82,65,84,69,32]++Lib.toUpperA x0.1
 let a2:=a1++[32]
 let a3:=a2++x0.2.1
 let a4:=a3++[32,70,82,79,77,32]
 let a5:=zE x0.2.2.2.2.2.2.2.2.1
 let a6:=zE x0.2.2.2.2.2.2.2.2.2.2.2.1
 let a7:=(x0.1,x0.2.1,x0.2.2.1,x0.2.2.2.1,x0.2.2.2.2.1,x0.2.2.2.2.2.1,x0.2.2.2.2.2.2.1,x0.2.2.2.2.2.2.2.1,a5,x0.2.2.2.2.2.2.2.2.2.1,x0.2.2.2.2.2.2.2.2.2.2.1,a6,x0.2.2.2.2.2.2.2.2.2.2.2.2)
 let a8:=[73,78,83,69,82,84,32,73,78,84,79,32]++x0.2.1
 let a9:=a8++[32,86,65,76,85,69,83,32,40,32]
 let a10:=kT x0.2.2.2.2.2.2.2.2.2.1
 let a11:=a9++a10
 let a12:=[85,80,68,65,84,69,32]++x0.2.1
 let a13:=a12++[32,83,69,84,32]
 let a14:=kN x0.2.2.2.2.2.2.2.2.2.2.1
 let a15:=xl a6
 let a16:=a13++a14
 let a17:=Av a6
 let a18:=[68,69,76,69,84,69,32,70,82,79,77,32]++x0.2.1
 let a19:=[83,69,76,69,67,84,32,42,32,70,82,79,77,32]++x0.2.1
 let a20:=[71,82,65,78,84,32]++Lib.toUpperA x0.1
 let a21:=a20++[32,79,78,32]
 let a22:=a21++x0.2.1
 let a23:=a22++[32,84,79,32]
 let a24:=List.take ((↑(length x0.1):Int).toNat - toNat 2) (List.drop (toNat 2) x0.1)
 let a25:=Lib.toUpperA a24
 let a26:=[82,69,86,79,75,69,32]++a25
 let a27:=a26++[32,79,78,32]
 let a28:=a27++x0.2.1
 let a29:=a28++[32,70,82,79,77,32]
 let a30:=a4++x0.2.2.1
 let a31:=a30++[32,40,32]
 let a32:=kQ x0.2.2.2.1
 let a33:=a31++a32
 let a34:=ll [32] a5
 let a35:=a33++[32,41]
 let a36:=iz [32] a5
 let a37:=a30++[32,44,32]
 let a38:=a37++x0.2.2.2.2.2.2.2.2.2.2.2.2
 let a39:=a38++[32,79,78,32]
 let a40:=a39++x0.2.2.2.2.2.1
 let a41:=a30++[32,66,89,32]
 let a42:=getD x0.2.2.2.1 (toNat 0) (zj Sh.str)
 let a43:=a41++a42
 let a44:=a43++[32,83,85,77,32]
 let a45:=getD x0.2.2.2.1 (toNat 1) (zj Sh.str)
 let a46:=a44++a45
 Bh x0 a0 a1 a2 a3 a4 a5 a6 a7 a8 a9 a10 a11 a12 a13 a14 a15 a16 a17 a18 a19 a20 a21 a22 a23 a24 a25 a26 a27 a28 a29 a30 a31 a32 a33 a34 a35 a36 a37 a38 a39 a40 a41 a42 a43 a44 a45 a46
theorem VR (x0:Sem zm):rn yv 0 Md Tryz.f90 [zz zm x0] []=(vQ x0).map (lf Tryz.f90 e0):=by kernel_rfl
def F3 (x0:Sem zm):Option (zw (List.map some [Sh.str])):=zW [Sh.str] t0 100000000 (vQ x0)
def rM (x0:Sem zm):Bool:=(F3 x0).isSome
def oB (x0:Sem zm):Sem Sh.str:=(fun r:zw (List.map some [Sh.str])=>r.1) ((F3 x0).getD (ck [Sh.str]))
def Q1:zF:=zG [zm] [Sh.str] (fun x=>rM x.1) fun x=>(oB x.1,())
theorem Ot:FK 90 Q1:=ji (ks:=[zm]) (outs:=[Sh.str]) (keep:=Md) (gas:=400) (n:=100000000) (e:=e0) (t:=t0) (i:=fun x=>vQ x.1) qY Xb (fun x=>VR x.1) (JN _ _ _ _ _) (fun _=>by kernel_rfl) (fun _=>by kernel_rfl)

noncomputable def GO:=yv.addL [(89,Q0),(90,Q1)]
theorem yw:zl GO:=qY.addL <| fc Oq <| fc Ot jf

abbrev zhB:Nat→ah:=fun _=>{ }
theorem zek:zA (GO).P 52 Tryz.f52 1:=aQ (by kernel_rfl)
theorem zgH (x0:Sem zm):rn GO 0 zhB Tryz.f52 [zz zm x0] []=Tr.chk (jZ (xE x0)) (Tr.br (!f7 (xE x0)) (Tr.ok (zt.ret (AV.tup [AV.str [],ai 1]) [])) (Tr.chk (rM (xE x0)) (Tr.chk (Kn (oB (xE x0))) (Tr.br ((cut (oB (xE x0))).2 != 0) (Tr.ok (zt.ret (AV.tup [AV.str [],ai 1]) [])) (Tr.ok (zt.ret (AV.tup [AV.str (oB (xE x0)),ai 0]) [])))))):=by kernel_rfl
def pd (x0:Sem zm):Sem Sh.str×Sem zg:=(if (!f7 x0)=true then ([],1) else if ((cut (oB x0)).2 != 0)=true then ([],1) else (oB x0,0))
def qw (x0:Sem zm):Bool:=(if jZ x0=true then if (!f7 x0)=true then true else if rM x0=true then if Kn (oB x0)=true then true else false else false else false)
def F52:zF:=zG [zm] [Sh.str,zg] (fun x=>qw x.1) fun x=>((pd x.1).1,(pd x.1).2,())
theorem zay:FK 52 F52:=by
 refine zQ (zek) fun x hc C hC=>?_
 unfold qw at hc
 refine zk yw (zek) (fun id _=>hC id) (zgH x.1) ?_
 generalize hy:pd x.1=y
 unfold pd at hy
 try simp only [GY]
 repeat' (first | with_reducible refine eW hy hc (fun _ hy hc=>?_) (fun _ hy hc=>?_) | with_reducible refine ba hy (fun _ hy=>?_) (fun _ hy=>?_) | with_reducible refine bv hc (fun hc=>?_) | with_reducible refine zr ?_)
 all_goals first | (cases hc; done) | (subst hy; first | rfl)

noncomputable def GP:=GO.add 52 F52
theorem yx:zl GP:=yw.add zay

abbrev zhy:Nat→ah:=fun _=>{ }
theorem zd2:zA (GP).P 23 Tryz.f23 1:=aQ (by kernel_rfl)
theorem zgp (x0:Sem zm):rn GP 0 zhy Tryz.f23 [zz zm x0] []=Tr.chk (qw (xE x0)) (Tr.ok (zt.ret (AV.bool ((pd (xE x0)).2==0)) [])):=by kernel_rfl
def eU (x0:Sem zm):Sem Sh.bool:=((pd x0).2==0)
def pc (x0:Sem zm):Bool:=(if qw x0=true then true else false)
def F31:zF:=zG [zm] [Sh.bool] (fun x=>pc x.1) fun x=>(eU x.1,())
theorem zad:FK 23 F31:=by
 refine zQ (zd2) fun x hc C hC=>?_
 unfold pc at hc
 refine zk yx (zd2) (fun id _=>hC id) (zgp x.1) ?_
 generalize hy:eU x.1=y
 unfold eU at hy
 try simp only [GY]
 repeat' (first | with_reducible refine eW hy hc (fun _ hy hc=>?_) (fun _ hy hc=>?_) | with_reducible refine ba hy (fun _ hy=>?_) (fun _ hy=>?_) | with_reducible refine bv hc (fun hc=>?_) | with_reducible refine zr ?_)
 all_goals first | (cases hc; done) | (subst hy; first | rfl)

noncomputable def lW:=GP.add 23 F31
theorem gI:zl lW:=yx.add zad

noncomputable def ZW:zF:=zU (List.replicate 2 none) (bZ lW Tryz.f37 (List.replicate 2 none))
theorem U7:FK 37 ZW:=au _ gI (aQ (by kernel_rfl))

abbrev zdp:Nat→ah:=fun _=>{ }
theorem SX:zA (lW).P 24 Tryz.f24 1:=aQ (by kernel_rfl)
theorem zcl (x0:TS):rn lW 0 zdp Tryz.f24 [zz Sh.str x0] []=Tr.br (decide ((↑(length x0):Int) > 20)) (Tr.chk (decide (0≤0)&&decide (0≤20)&&decide (20≤(↑(length x0):Int))) (Tr.ok (zt.ret (AV.str (List.take (toNat 20 - toNat 0) (List.drop (toNat 0) x0))) []))) (Tr.ok (zt.ret (AV.str x0) [])):=by kernel_rfl
def bu (x0:TS):Sem Sh.str:=(if decide ((↑(length x0):Int) > 20)=true then List.take (toNat 20 - toNat 0) (List.drop (toNat 0) x0) else x0)
def ef (x0:TS):Bool:=(if decide ((↑(length x0):Int) > 20)=true then if (decide (0≤0)&&decide (0≤20)&&decide (20≤(↑(length x0):Int)))=true then true else false else true)
def Y6:zF:=zG [Sh.str] [Sh.str] (fun x=>ef x.1) fun x=>(bu x.1,())
theorem T8:FK 24 Y6:=by
 refine zQ (SX) fun x hc C hC=>?_
 unfold ef at hc
 refine zk gI (SX) (fun id _=>hC id) (zcl x.1) ?_
 generalize hy:bu x.1=y
 unfold bu at hy
 try simp only [ze.eta]
 repeat' (first | with_reducible refine eW hy hc (fun _ hy hc=>?_) (fun _ hy hc=>?_) | with_reducible refine ba hy (fun _ hy=>?_) (fun _ hy=>?_) | with_reducible refine bv hc (fun hc=>?_) | with_reducible refine zr ?_)
 all_goals first | (cases hc; done) | (subst hy; first | rfl)

abbrev WO:Nat→ah:=fun _=>{ }
theorem MG:zA (lW).P 102 Tryz.f102 3:=aQ (by kernel_rfl)
theorem VZ (x0:Sem zf.sl) (x1:Sem zg) (x2:Sem zf):rn lW 0 WO Tryz.f102 [zz zf.sl x0,zz zg x1,zz zf x2] []=Tr.chk (bif decide (x1 ≥ 0) then bif decide (x1 < (↑(length x0):Int)) then zI x1 (length x0) else true else true) (Tr.ok (zt.ret (AV.bool (bif decide (x1 ≥ 0) then bif decide (x1 < (↑(length x0):Int)) then (getD x0 (toNat x1) (zj zf)).1==x2.1&&((getD x0 (toNat x1) (zj zf)).2.1==x2.2.1&&((getD x0 (toNat x1) (zj zf)).2.2==x2.2.2&&true)) else false else false)) [])):=by kernel_rfl
def lF (x0:Sem zf.sl) (x1:Sem zg) (x2:Sem zf):Sem Sh.bool:=(bif decide (x1 ≥ 0) then bif decide (x1 < (↑(length x0):Int)) then (getD x0 (toNat x1) (zj zf)).1==x2.1&&((getD x0 (toNat x1) (zj zf)).2.1==x2.2.1&&((getD x0 (toNat x1) (zj zf)).2.2==x2.2.2&&true)) else false else false)
def tD (x0:Sem zf.sl) (x1:Sem zg) (_:Sem zf):Bool:=(if (bif decide (x1 ≥ 0) then bif decide (x1 < (↑(length x0):Int)) then zI x1 (length x0) else true else true)=true then true else false)
def Rr:zF:=zG [zf.sl,zg,zf] [Sh.bool] (fun x=>tD x.1 x.2.1 x.2.2.1) fun x=>(lF x.1 x.2.1 x.2.2.1,())
theorem Gp:FK 102 Rr:=by
 refine zQ (MG) fun x hc C hC=>?_
 unfold tD at hc
 refine zk gI (MG) (fun id _=>hC id) (VZ x.1 x.2.1 x.2.2.1) ?_
 generalize hy:lF x.1 x.2.1 x.2.2.1=y
 unfold lF at hy
 try simp only [ze.eta]
 repeat' (first | with_reducible refine eW hy hc (fun _ hy hc=>?_) (fun _ hy hc=>?_) | with_reducible refine ba hy (fun _ hy=>?_) (fun _ hy=>?_) | with_reducible refine bv hc (fun hc=>?_) | with_reducible refine zr ?_)
 all_goals first | (cases hc; done) | (subst hy; first | rfl)

abbrev SE:Nat→ah:=fun j=>if j=2 then { slots:=[0,1,5] } else { }
abbrev wN (l0:List (Sem zh)) (s1:TS) (i5:Int):St:={ tmps:=(tm 21 [(0,AV.sl zh l0),(1,AV.str s1),(5,ai i5)]),heap:=[] }
theorem Hk:zA (lW).P 69 Tryz.f69 2:=aQ (by kernel_rfl)
theorem zcj (x0:Sem zh.sl) (x1:TS):rn lW 0 SE Tryz.f69 [zz zh.sl x0,zz Sh.str x1] []=Tr.ok (zt.head 2 (zy Tryz.f69 2) (wN x0 x1 0)):=by kernel_rfl
theorem Hu (l0:List (Sem zh)) (s1:TS) (i5:Int):rh lW 0 SE Tryz.f69 2 (wN l0 s1 i5)=Tr.br (decide (i5 < (↑l0.length:Int))) (Tr.chk (zI i5 l0.length) (Tr.br ((l0.getD i5.toNat (zj zh)).1.1==s1) (Tr.ok (zt.ret (ai i5) [])) (Tr.ok (zt.head 2 (zy Tryz.f69 2) (wN l0 s1 (IntKind.i64.wrap (i5+1))))))) (Tr.ok (zt.ret (ai (-1)) [])):=by kernel_rfl
def im (s1:TS):List
 (Sem zh)→Int→Sem zg
 | [],_=>(-1)
 | x::r,i5=>(if (x.1.1==s1)=true then i5 else im s1 r (i5+1))
theorem Pm {C:cH} (hC:∀ id,C.ρ0 id=none) (s1:TS) (l0:List
 (Sem zh)) (hl:l0.length≤zC):∀ (m i:Nat),l0.length - i=m→i≤l0.length→
  Reach (lW) C 69 (zy Tryz.f69 2) (wN l0 s1 (i:Int)) (fun r h=>ap h [zg] r=some (im s1 (l0.drop i) i,())):=by
 intro m
 induction m with
 | zero=>
  intro i hm hi
  obtain rfl:i=l0.length:=by omega
  rw [cL]
  refine zk gI (Hk) (fun id _=>hC id) (Hu _ _ _) ?_
  generalize hy:im s1 [] _=y
  rw [im] at hy
  simp only [zX,Tr.val_brF]
  repeat' (first | with_reducible refine ba hy (fun _ hy=>?_) (fun _ hy=>?_) | with_reducible refine zr ?_)
  all_goals first | (cases hc; done) | (subst hy; first | rfl)
 | succ m IH=>
  intro i hm hi
  have hlt:i < l0.length:=by omega
  have IH:=IH (i+1)
  have hcast:((i:Int)+1)=((i+1:Nat):Int):=by omega
  have hwr:=zD i (by omega)
  rw [dw hlt]
  refine zk gI (Hk) (fun id _=>hC id) (Hu _ _ _) ?_
  generalize hy:im s1 (l0[i]::l0.drop (i+1)) (i:Int)=y
  rw [im] at hy
  simp only [zT hlt,zB hlt,ac l0 _ hlt,hwr,Tr.val_brT,Tr.val_chkT]
  clear hwr
  try simp only [zB hlt] at hy
  simp only [hcast] at hy
  repeat' (first | with_reducible refine ba hy (fun _ hy=>?_) (fun _ hy=>?_) | with_reducible refine zr ?_)
  all_goals first | (cases hc; done) | (subst hy; first | (change Reach _ _ _ _ _ _; apply IH <;> first | omega | assumption) | rfl)
theorem Kb {C:cH} (hC:∀ id,C.ρ0 id=none) (s1:TS) (l0:List
 (Sem zh)):
  Reach (lW) C 69 (zy Tryz.f69 2) (wN l0 s1 0) (fun r h=>ap h [zg] r=some (im s1 l0 0,())):=
 Reach.len 0 zh l0 rfl fun hl=>Pm hC s1 l0 hl _ 0 rfl (aV _)
def FX (x0:Sem zh.sl) (x1:TS):Sem zg:=(im x1 x0 0)
def YS:zF:=aw [zh.sl,Sh.str] [zg] fun x=>(FX x.1 x.2.1,())
theorem TQ:FK 69 YS:=by
 refine zS (Hk) fun x C hC=>?_
 refine zk gI (Hk) (fun id _=>hC id) (zcj x.1 x.2.1) ?_
 generalize hy:FX x.1 x.2.1=y
 unfold FX at hy
 try simp only [ze.eta]
 repeat' (first | with_reducible refine ba hy (fun _ hy=>?_) (fun _ hy=>?_) | with_reducible refine zr ?_)
 all_goals first | (cases hc; done) | (subst hy; first | (change Reach _ _ _ _ _ _; apply Kb hC <;> first | assumption | exact hc) | rfl)

noncomputable def ou:=lW.addL [(37,ZW),(24,Y6),(102,Rr),(69,YS)]
theorem jd:zl ou:=gI.addL <| fc U7 <| fc T8 <| fc Gp <| fc TQ jf

theorem BD (x:Sem (Sh.sl zf)) (c:Int) (v:Sem zf):tD x c v=true:=by
 unfold tD
 by_cases h1:(c:Int) ≥ 0
 ·by_cases h2:c < (length x:Int)
  ·have h3:zI c (length x)=true:=by simp [zI]; exact ⟨h1,h2⟩
   simp [ay h1,ay h2,h3]
  ·simp [ay h1,cu h2]
 ·simp [cu h1]
def Rs:zF:=aw [Sh.sl zf,zg,zf] [Sh.bool] fun x=>(lF x.1 x.2.1 x.2.2.1,())
theorem OU:FK 102 Rs:=eI Gp fun x=>BD x.1 x.2.1 x.2.2.1

abbrev SG:Nat→ah:=fun j=>if j=3 then { slots:=[0,3,4],prom:=[(3,none,.str)] } else { }
abbrev wO (l0:LS) (i4:Int) (lh_0:LS):St:={ tmps:=(tm 24 [(0,AV.sl Sh.str l0),(3,AV.vec 0),(4,ai i4)]),heap:=[AO.vec Sh.str lh_0] }
theorem Hl:zA (ou).P 25 Tryz.f25 1:=aQ (by kernel_rfl)
theorem zcm (x0:Sem Sh.str.sl):rn ou 0 SG Tryz.f25 [zz Sh.str.sl x0] []=Tr.ok (zt.head 3 (zy Tryz.f25 3) (wO x0 0 [])):=by kernel_rfl
theorem Hv (l0:LS) (i4:Int) (lh_0:LS):rh ou 0 SG Tryz.f25 3 (wO l0 i4 lh_0)=Tr.br (bif decide (i4 < (↑l0.length:Int)) then decide (i4 < 10) else false) (Tr.chk (zI i4 l0.length) (Tr.chk (ef (l0.getD i4.toNat (zj Sh.str))) (Tr.chk (decide (lh_0.length+[bu (l0.getD i4.toNat (zj Sh.str))].length≤1073741824)) (Tr.ok (zt.head 3 (zy Tryz.f25 3) (wO l0 (IntKind.i64.wrap (i4+1)) (lh_0++[bu (l0.getD i4.toNat (zj Sh.str))]))))))) (Tr.ok (zt.ret (AV.vec 0) [AO.vec Sh.str lh_0])):=by kernel_rfl
def dD:List (Sem Sh.str)→Int→List (Sem Sh.str)→Sem Sh.str.sl
 | [],_,lh_0=>(lh_0)
 | x::r,i4,lh_0=>(if decide (i4 < 10)=true then dD r (i4+1) (lh_0++[bu x]) else lh_0)
def eF:List (Sem Sh.str)→Int→List (Sem Sh.str)→Bool
 | [],_,_=>(true)
 | x::r,i4,lh_0=>(if decide (i4 < 10)=true then
 if ef x=true then if decide (lh_0.length+[bu x].length≤1073741824)=true then eF r (i4+1) (lh_0++[bu x]) else false else false
else true)
theorem Pn {C:cH} (hC:∀ id,C.ρ0 id=none) (l0:LS) (hl:l0.length≤zC):∀ (m i:Nat) (lh_0:LS),l0.length - i=m→i≤l0.length→eF (l0.drop i) i lh_0=true→
  Reach (ou) C 25 (zy Tryz.f25 3) (wO l0 (i:Int) lh_0) (fun r h=>ap h [Sh.str.sl] r=some (dD (l0.drop i) i lh_0,())):=by
 intro m
 induction m with
 | zero=>
  intro i lh_0 hm hi hc
  obtain rfl:i=l0.length:=by omega
  rw [cL] at hc ⊢
  refine zk jd (Hl) (fun id _=>hC id) (Hv _ _ _) ?_
  rw [eF] at hc
  generalize hy:dD [] _ lh_0=y
  rw [dD] at hy
  simp only [zX,bQ,Tr.val_brF]
  repeat' (first | with_reducible refine eW hy hc (fun _ hy hc=>?_) (fun _ hy hc=>?_) | with_reducible refine ba hy (fun _ hy=>?_) (fun _ hy=>?_) | with_reducible refine bv hc (fun hc=>?_) | with_reducible refine zr ?_)
  all_goals first | (cases hc; done) | (subst hy; first | rfl)
 | succ m IH=>
  intro i lh_0 hm hi hc
  have hlt:i < l0.length:=by omega
  have IH:=IH (i+1)
  have hcast:((i:Int)+1)=((i+1:Nat):Int):=by omega
  have hwr:=zD i (by omega)
  rw [dw hlt] at hc ⊢
  refine zk jd (Hl) (fun id _=>hC id) (Hv _ _ _) ?_
  rw [eF] at hc
  generalize hy:dD (l0[i]::l0.drop (i+1)) (i:Int) lh_0=y
  rw [dD] at hy
  simp only [zT hlt,zB hlt,ac l0 _ hlt,hwr,bR]
  clear hwr
  try simp only [zB hlt] at hy
  simp only [hcast] at hy
  try simp only [zB hlt] at hc
  try simp only [hcast] at hc
  repeat' (first | with_reducible refine eW hy hc (fun _ hy hc=>?_) (fun _ hy hc=>?_) | with_reducible refine ba hy (fun _ hy=>?_) (fun _ hy=>?_) | with_reducible refine bv hc (fun hc=>?_) | with_reducible refine zr ?_)
  all_goals first | (cases hc; done) | (subst hy; first | (change Reach _ _ _ _ _ _; apply IH <;> first | omega | assumption) | rfl)
theorem Kd {C:cH} (hC:∀ id,C.ρ0 id=none) (l0:LS) (lh_0:LS) (hc:eF l0 0 lh_0=true):
  Reach (ou) C 25 (zy Tryz.f25 3) (wO l0 0 lh_0) (fun r h=>ap h [Sh.str.sl] r=some (dD l0 0 lh_0,())):=
 Reach.len 0 (Sh.str) l0 rfl fun hl=>Pn hC l0 hl _ 0 lh_0 rfl (aV _) hc
def fU (x0:Sem Sh.str.sl):Sem Sh.str.sl:=(dD x0 0 [])
def mI (x0:Sem Sh.str.sl):Bool:=(eF x0 0 [])
def Y9:zF:=zG [Sh.str.sl] [Sh.str.sl] (fun x=>mI x.1) fun x=>(fU x.1,())
theorem Ub:FK 25 Y9:=by
 refine zQ (Hl) fun x hc C hC=>?_
 unfold mI at hc
 refine zk jd (Hl) (fun id _=>hC id) (zcm x.1) ?_
 generalize hy:fU x.1=y
 unfold fU at hy
 try simp only [ze.eta]
 repeat' (first | with_reducible refine eW hy hc (fun _ hy hc=>?_) (fun _ hy hc=>?_) | with_reducible refine ba hy (fun _ hy=>?_) (fun _ hy=>?_) | with_reducible refine bv hc (fun hc=>?_) | with_reducible refine zr ?_)
 all_goals first | (cases hc; done) | (subst hy; first | (change Reach _ _ _ _ _ _; apply Kd hC <;> first | assumption | exact hc) | rfl)

abbrev tH (s:zo) (l:List (Sem zh)) (i:Int):St:={ tmps:=[.sl zh l,.clo (.func 37) [] [.ptr 0 0],.any,.any,.any,.any,.any,.int .i64 l.length,.int .i64 i,.any,.any,.any,.any,.any,.any,.any,.any,.any,.any],heap:=[.box [.str s]] }
theorem Ln (s:zo) (l:List (Sem zh)):run ou 1 mg Tryz.f36.results.toList 300 (aB Tryz.f36) (aq Tryz.f36.ntmps [.sl zh l,.clo (.func 37) [] [.ptr 0 0]] [.box [.str s]])=.ok (.head 2 (zy Tryz.f36 2) (tH s l 0)):=by kernel_rfl
theorem M0 (s:zo) (l:List (Sem zh)) (i:Int):run ou 1 mg Tryz.f36.results.toList 300 (zy Tryz.f36 2) (tH s l i)=iA (K:=zy Tryz.f36 2) (e:=zh) l (fun x=>x.1.1==s) (tH s l) [.box [.str s]] i:=by kernel_rfl

theorem MO:zA ou.P 36 Tryz.f36 2:=aQ (by kernel_rfl)
def zby:cF [some (.sl zh),none]:=fun x h=>match x,h with
 | (l,.clo (.func 37) [] [.ptr 0 0],_),[.box [.str s]]=>.ok (.int .i64 (zL (fun x=>x.1.1==s) l 0),[.box [.str s]])
 | _,_=>.err
def ZV:zF:=zU [some (.sl zh),none] zby
theorem U6:FK 36 ZV:=by
 refine bA MO fun x h0 res hx C hC=>?_
 unfold zby at hx
 split at hx
 ·rename_i l u s
  simp only [Tr.val_ok,ao] at hx
  subst hx
  refine Reach.len 0 zh l rfl fun hl=>?_
  refine zk (n0:=1) jd MO hC (Ln s l) ?_
  exact eQ l (fun x=>x.1.1==s) (tH s l) jd MO hC (M0 s l) hl _ 0 rfl (aV _)
 ·simp at hx

noncomputable def CX:=ou.addL [(102,Rs),(25,Y9),(36,ZV)]
theorem qZ:zl CX:=jd.addL <| fc OU <| fc Ub <| fc U6 jf

noncomputable def Rq:zF:=zU (List.replicate 3 none) (bZ CX Tryz.f101 (List.replicate 3 none))
theorem OT:FK 101 Rq:=au _ qZ (aQ (by kernel_rfl))

abbrev zdy:Nat→ah:=fun _=>{ }
theorem SZ:zA (CX).P 16 Tryz.f16 2:=aQ (by kernel_rfl)
theorem zct (x0:Sem zh.sl) (x1:TS):rn CX 0 zdy Tryz.f16 [zz zh.sl x0,zz Sh.str x1] []=Tr.ok (zt.ret (ai (zL (fun x=>x.1.1==x1) x0 0)) []):=by kernel_rfl
def zR (x0:Sem zh.sl) (x1:TS):Sem zg:=(zL (fun x=>x.1.1==x1) x0 0)
def Zv:zF:=aw [zh.sl,Sh.str] [zg] fun x=>(zR x.1 x.2.1,())
theorem UA:FK 16 Zv:=by
 refine zS (SZ) fun x C hC=>?_
 refine zk qZ (SZ) (fun id _=>hC id) (zct x.1 x.2.1) ?_
 generalize hy:zR x.1 x.2.1=y
 unfold zR at hy
 try simp only [ze.eta]
 repeat' (first | with_reducible refine ba hy (fun _ hy=>?_) (fun _ hy=>?_) | with_reducible refine zr ?_)
 all_goals first | (cases hc; done) | (subst hy; first | rfl)

noncomputable def CY:=CX.addL [(101,Rq),(16,Zv)]
theorem ra:zl CY:=qZ.addL <| fc OT <| fc UA jf

abbrev nP (c a b:Int) (s:zo) (l:List (Sem (Sh.sl zf))) (i:Int):St:={ tmps:=[.sl (Sh.sl zf) l,.clo (.func 101) [] [.ptr 0 0,.ptr 1 0],.any,.any,.any,.any,.any,.int .i64 l.length,.int .i64 i,.any,.any,.any,.any,.any,.any,.any,.any,.any,.any],heap:=[.box [.int .i64 c],.box [.int .i64 a,.int .i64 b,.str s]] }
theorem Fe (c a b:Int) (s:zo) (l:List (Sem (Sh.sl zf))):run CY 2 mg Tryz.f88.results.toList 300 (aB Tryz.f88) (aq Tryz.f88.ntmps [.sl (Sh.sl zf) l,.clo (.func 101) [] [.ptr 0 0,.ptr 1 0]] [.box [.int .i64 c],.box [.int .i64 a,.int .i64 b,.str s]])=.ok (.head 2 (zy Tryz.f88 2) (nP c a b s l 0)):=by kernel_rfl
theorem Fz (c a b:Int) (s:zo) (l:List (Sem (Sh.sl zf))) (i:Int):run CY 2 mg Tryz.f88.results.toList 300 (zy Tryz.f88 2) (nP c a b s l i)=iA (K:=zy Tryz.f88 2) (e:=(Sh.sl zf)) l (fun x=>lF x c (a,b,s)) (nP c a b s l) [.box [.int .i64 c],.box [.int .i64 a,.int .i64 b,.str s]] i:=by kernel_rfl

theorem Fx:zA CY.P 88 Tryz.f88 2:=aQ (by kernel_rfl)
def RZ:cF [some (.sl (Sh.sl zf)),none]:=fun x h=>match x,h with
 | (l,.clo (.func 101) [] [.ptr 0 0,.ptr 1 0],_),[.box [.int .i64 c],.box [.int .i64 a,.int .i64 b,.str s]]=>.ok (.int .i64 (zL (fun x=>lF x c (a,b,s)) l 0),[.box [.int .i64 c],.box [.int .i64 a,.int .i64 b,.str s]])
 | _,_=>.err
def RA:zF:=zU [some (.sl (Sh.sl zf)),none] RZ
theorem O1:FK 88 RA:=by
 refine bA Fx fun x h0 res hx C hC=>?_
 unfold RZ at hx
 split at hx
 ·rename_i l u c a b s
  simp only [Tr.val_ok,ao] at hx
  subst hx
  refine Reach.len 0 (Sh.sl zf) l rfl fun hl=>?_
  refine zk (n0:=2) ra Fx hC (Fe c a b s l) ?_
  exact eQ l (fun x=>lF x c (a,b,s)) (nP c a b s l) ra Fx hC (Fz c a b s l) hl _ 0 rfl (aV _)
 ·simp at hx

noncomputable def KR:=CY.add 88 RA
theorem yz:zl KR:=ra.add O1

noncomputable def Rp:zF:=zU (List.replicate 2 none) (bZ KR Tryz.f100 (List.replicate 2 none))
theorem OS:FK 100 Rp:=au _ yz (aQ (by kernel_rfl))

noncomputable def GQ:=KR.add 100 Rp
theorem rb:zl GQ:=yz.add OS
noncomputable section

abbrev WE:Nat→ah:=fun _=>{ }
theorem MA:zA (GQ).P 59 Tryz.f59 3:=aQ (by kernel_rfl)
theorem VT (x0:Sem zh) (x1:Sem zg) (x2:Sem zf):rn GQ 0 WE Tryz.f59 [zz zh x0,zz zg x1,zz zf x2] []=Tr.ok (zt.ret (AV.bool (decide (zL (fun x=>lF x x1 x2) x0.2 0 ≥ 0))) []):=by kernel_rfl
def mh (x0:Sem zh) (x1:Sem zg) (x2:Sem zf):Sem Sh.bool:=(decide (zL (fun x=>lF x x1 x2) x0.2 0 ≥ 0))
def Q3:zF:=aw [zh,zg,zf] [Sh.bool] fun x=>(mh x.1 x.2.1 x.2.2.1,())
theorem Ov:FK 59 Q3:=by
 refine zS (MA) fun x C hC=>?_
 refine zk rb (MA) (fun id _=>hC id) (VT x.1 x.2.1 x.2.2.1) ?_
 generalize hy:mh x.1 x.2.1 x.2.2.1=y
 unfold mh at hy
 try simp only [ze.eta]
 repeat' (first | with_reducible refine ba hy (fun _ hy=>?_) (fun _ hy=>?_) | with_reducible refine zr ?_)
 all_goals first | (cases hc; done) | (subst hy; first | rfl)

abbrev WD:=lz [(3,[1,5,11,12,13])]
inductive xT where
 | h3 (i1:Sem zg) (l11:List (Sem zf.sl)) (i12:Int) (i13:Int) (mh_0:List ((Int×Int×zo)×Int))
abbrev zbW:xT→Nat×St
 | .h3 i1 l11 i12 i13 mh_0=>(3,⟨tm 37 [(1,ai i1),(5,AV.mp 0),(11,AV.sl zf.sl l11),(12,ai i12),(13,ai i13)],[AO.vmap false mh_0]⟩)
def Sx (x0:Sem zh) (x1:Sem zg):Tr (xT ⊕ aj):=Tr.to (xT.h3 x1 x0.2 (↑(length x0.2):Int) 0 [])
def sH:xT→Tr (xT ⊕ aj)
 | .h3 i1 l11 i12 i13 mh_0=>
  let a0:=l11.getD i13.toNat (zj zf.sl)
  let a1:=getD a0 (toNat i1) (zj zf)
  let a2:=(↑(jE mh_0 a1):Int)
  let a3:=iw mh_0 a1
  let a4:=iD a3 a2.toNat (IntKind.i64.wrap (eY mh_0 a1+1))
  let a5:=eY a4 a1
  Tr.br (decide (i13 < i12))
  (Tr.chk (zI i13 l11.length)
   (Tr.chk (zI i1 (length a0)) (Tr.chk (decide (mh_0.length≤1073741824)) (Tr.chk (zI a2 a3.length) (Tr.br (bif a1.1 != 0 then decide (a5 > 1) else false) (Tr.re (AV.kb true) []) (Tr.to (xT.h3 i1 l11 i12 (IntKind.i64.wrap (i13+1)) a4)))))))
  (Tr.re (AV.kb false) [])
def tE (x0:Sem zh) (x1:Sem zg):=zW [Sh.bool] sH 100000000 (Sx x0 x1)
def nH (x0:Sem zh) (x1:Sem zg):=(tE x0 x1).isSome
def rI (x0:Sem zh) (x1:Sem zg):=o1 (tE x0 x1)
def Q2:=FT [zh,zg] [Sh.bool] fun x=>tE x.1 x.2.1
theorem Ou:FK 57 Q2:=rb.T1 (f:=Tryz.f57) (keep:=WD) (e:=zbW)

def Se:=GQ.addL [(59,Q3),(57,Q2)]
theorem rc:zl Se:=rb.addL <| fc Ov <| fc Ou jf
end
noncomputable section

abbrev zdE:=lz [(6,[1,18,19,20]),(15,[1,39,40,41]),(21,[1,8])]
inductive xq where
 | h6 (l18:List (Sem zf.sl)) (i19:Int) (i20:Int) (z0:zu [CP.d zh])
 | h15 (l39:LI) (i40:Int) (i41:Int) (z0:zu [CP.d zh])
 | h21 (i8:Int) (z0:zu [CP.d zh])
abbrev zf3:xq→Nat×St
 | .h6 l18 i19 i20 z0=>(6,⟨tm 79 [(1,AV.ptr 0 0),(18,AV.sl zf.sl l18),(19,ai i19),(20,ai i20)],[AO.box (bJ [] [CP.d zh] z0)]⟩)
 | .h15 l39 i40 i41 z0=>(15,⟨tm 79 [(1,AV.ptr 0 0),(39,AV.sl zg l39),(40,ai i40),(41,ai i41)],[AO.box (bJ [] [CP.d zh] z0)]⟩)
 | .h21 i8 z0=>(21,⟨tm 79 [(1,AV.ptr 0 0),(8,ai i8)],[AO.box (bJ [] [CP.d zh] z0)]⟩)
def IZ (x0:Sem zh):Tr (xq ⊕ aj):=Tr.br (!gq (x0.1.1,x0.1.2.1,x0.1.2.2.1,x0.1.2.2.2.1,x0.1.2.2.2.2.1,zE x0.1.2.2.2.2.2)) (Tr.re (ai 1) []) (Tr.br (decide ((↑(length x0.2):Int) > 200)) (Tr.re (ai 13) []) (Tr.to (xq.h6 x0.2 (↑(length x0.2):Int) 0 (x0,()))))
def fM:xq→Tr (xq ⊕ aj)
 | .h6 l18 i19 i20 z0=>
  let a0:=(z0.1.1.1,z0.1.1.2.1,z0.1.1.2.2.1,z0.1.1.2.2.2.1,z0.1.1.2.2.2.2.1,zE z0.1.1.2.2.2.2.2)
  let a1:=j0 a0 (l18.getD i20.toNat (zj zf.sl))
  let a2:=(a0,z0.1.2)
  Tr.br (decide (i20 < i19))
  (Tr.chk (zI i20 l18.length) (Tr.br (a1 != 0) (Tr.re (ai a1) []) (Tr.to (xq.h6 l18 i19 (IntKind.i64.wrap (i20+1)) z0))))
  (Tr.chk (nH a2 z0.1.1.2.2.1)
   (Tr.br (rI a2 z0.1.1.2.2.1) (Tr.re (ai 7) []) (Tr.to (xq.h15 z0.1.1.2.2.2.1 (↑(length z0.1.1.2.2.2.1):Int) 0 z0))))
 | .h15 l39 i40 i41 z0=>
  let a0:=((z0.1.1.1,z0.1.1.2.1,z0.1.1.2.2.1,z0.1.1.2.2.2.1,z0.1.1.2.2.2.2.1,zE z0.1.1.2.2.2.2.2),z0.1.2)
  let a1:=l39.getD i41.toNat (zj zg)
  Tr.br (decide (i41 < i40))
  (Tr.chk (zI i41 l39.length)
   (Tr.chk (nH a0 a1) (Tr.br (rI a0 a1) (Tr.re (ai 7) []) (Tr.to (xq.h15 l39 i40 (IntKind.i64.wrap (i41+1)) z0)))))
  (Tr.to (xq.h21 1 z0))
 | .h21 i8 z0=>
  let a0:=(↑(length z0.1.2):Int)
  let a1:=IntKind.i64.wrap (i8 - 1)
  let a2:=getD z0.1.2 a1.toNat (zj zf.sl)
  let a3:=getD z0.1.2 i8.toNat (zj zf.sl)
  let a4:=bc (getD a2 (toNat z0.1.1.2.2.1) (zj zf)) (getD a3 (toNat z0.1.1.2.2.1) (zj zf))
  Tr.br (decide (i8 < a0))
  (Tr.chk (zI a1 (length z0.1.2))
   (Tr.chk (zI z0.1.1.2.2.1 (length a2)) (Tr.chk (zI i8 (length z0.1.2)) (Tr.chk (zI z0.1.1.2.2.1 (length a3)) (Tr.br (decide (a4 ≥ 0)) (Tr.re (ai 15) []) (Tr.to (xq.h21 (IntKind.i64.wrap (i8+1)) z0)))))))
  (Tr.re (ai 0) [])
def lE (x0:Sem zh):=zW [zg] fM 100000000 (IZ x0)
def nG (x0:Sem zh):=(lE x0).isSome
def rH (x0:Sem zh):=o1 (lE x0)
def ZB:=FT [zh] [zg] fun x=>lE x.1
theorem UI:FK 29 ZB:=rc.T1 (f:=Tryz.f29) (keep:=zdE) (e:=zf3)

abbrev zdF:=lz [(2,[0,11,12,13]),(5,[0,4,11,12,13,19,20,21]),(11,[0,4,6,7,11,12,13,19,20,21,32,33,34])]
inductive xr where
 | h2 (l0:List (Sem zh)) (l11:List (Sem zh)) (i12:Int) (i13:Int)
 | h5 (l0:List (Sem zh)) (l11:List (Sem zh)) (i12:Int) (i13:Int) (l19:LF) (i20:Int) (i21:Int) (z0:zu [CP.d zh])
 | h11 (l0:List (Sem zh)) (i7:Sem zg) (l11:List (Sem zh)) (i12:Int) (i13:Int) (l19:LF) (i20:Int) (i21:Int) (l32:List (Sem zf.sl)) (i33:Int) (i34:Int) (z0:zu [CP.d zh]) (z1:zu [CP.d zq])
abbrev zf4:xr→Nat×St
 | .h2 l0 l11 i12 i13=>(2,⟨tm 64 [(0,AV.sl zh l0),(11,AV.sl zh l11),(12,ai i12),(13,ai i13)],[]⟩)
 | .h5 l0 l11 i12 i13 l19 i20 i21 z0=>(5,⟨tm 64 [(0,AV.sl zh l0),(4,AV.ptr 0 0),(11,AV.sl zh l11),(12,ai i12),(13,ai i13),(19,AV.sl zq l19),(20,ai i20),(21,ai i21)],[AO.box (bJ [] [CP.d zh] z0)]⟩)
 | .h11 l0 i7 l11 i12 i13 l19 i20 i21 l32 i33 i34 z0 z1=>(11,⟨tm 64 [(0,AV.sl zh l0),(4,AV.ptr 0 0),(6,AV.ptr 1 0),(7,ai i7),(11,AV.sl zh l11),(12,ai i12),(13,ai i13),(19,AV.sl zq l19),(20,ai i20),(21,ai i21),(32,AV.sl zf.sl l32),(33,ai i33),(34,ai i34)],[AO.box (bJ [] [CP.d zh] z0),AO.box (bJ [] [CP.d zq] z1)]⟩)
def zdb (x0:Sem zh.sl):Tr (xr ⊕ aj):=Tr.to (xr.h2 x0 x0 (↑(length x0):Int) 0)
def fj:xr→Tr (xr ⊕ aj)
 | .h2 l0 l11 i12 i13=>
  let a0:=l11.getD i13.toNat (zj zh)
  Tr.br (decide (i13 < i12))
  (Tr.chk (zI i13 l11.length) (Tr.to (xr.h5 l0 l11 i12 i13 a0.1.2.2.2.2.1 (↑(length a0.1.2.2.2.2.1):Int) 0 (a0,()))))
  (Tr.re (AV.kb true) [])
 | .h5 l0 l11 i12 i13 l19 i20 i21 z0=>
  let a0:=l19.getD i21.toNat (zj zq)
  let a1:=zR l0 a0.2
  Tr.br (decide (i21 < i20))
  (Tr.chk (zI i21 l19.length)
   (Tr.br (decide (a1 < 0)) (Tr.re (AV.kb false) []) (Tr.to (xr.h11 l0 a1 l11 i12 i13 l19 i20 i21 z0.1.2 (↑(length z0.1.2):Int) 0 z0 (a0,())))))
  (Tr.to (xr.h2 l0 l11 i12 (IntKind.i64.wrap (i13+1))))
 | .h11 l0 i7 l11 i12 i13 l19 i20 i21 l32 i33 i34 z0 z1=>
  let a0:=l32.getD i34.toNat (zj zf.sl)
  let a1:=getD a0 (toNat z1.1.1) (zj zf)
  let a2:=a1.1 != 0
  let a3:=l0.getD (toNat i7) (zj zh)
  Tr.br (decide (i34 < i33))
  (Tr.chk (zI i34 l32.length)
   (Tr.chk (zI z1.1.1 (length a0)) (Tr.chk (bif a2 then zI i7 l0.length&&zI i7 l0.length else true) (Tr.br (bif a2 then !mh ((a3.1.1,a3.1.2.1,a3.1.2.2.1,a3.1.2.2.2.1,a3.1.2.2.2.2.1,zE a3.1.2.2.2.2.2),a3.2) a3.1.2.2.1 a1 else false) (Tr.re (AV.kb false) []) (Tr.to (xr.h11 l0 i7 l11 i12 i13 l19 i20 i21 l32 i33 (IntKind.i64.wrap (i34+1)) z0 z1))))))
  (Tr.to (xr.h5 l0 l11 i12 i13 l19 i20 (IntKind.i64.wrap (i21+1)) z0))
def pu (x0:Sem zh.sl):=zW [Sh.bool] fj 100000000 (zdb x0)
def nh (x0:Sem zh.sl):=(pu x0).isSome
def qL (x0:Sem zh.sl):=o1 (pu x0)
def ZC:=FT [zh.sl] [Sh.bool] fun x=>pu x.1
theorem UJ:FK 30 ZC:=rc.T1 (f:=Tryz.f30) (keep:=zdF) (e:=zf4)

def Sf:=Se.addL [(29,ZB),(30,ZC)]
theorem yA:zl Sf:=rc.addL <| fc UI <| fc UJ jf
end
noncomputable section

abbrev zdr:=lz [(4,[0,3]),(9,[0,30,31,32])]
inductive Ci where
 | h4 (l0:List (Sem zh)) (i3:Int)
 | h9 (l0:List (Sem zh)) (l30:List (Sem zh)) (i31:Int) (i32:Int)
abbrev zfW:Ci→Nat×St
 | .h4 l0 i3=>(4,⟨tm 45 [(0,AV.sl zh l0),(3,ai i3)],[]⟩)
 | .h9 l0 l30 i31 i32=>(9,⟨tm 45 [(0,AV.sl zh l0),(30,AV.sl zh l30),(31,ai i31),(32,ai i32)],[]⟩)
def P0 (x0:Sem zh.sl):Tr (Ci ⊕ aj):=Tr.br (decide ((↑(length x0):Int) > 12)) (Tr.re (ai 13) []) (Tr.to (Ci.h4 x0 1))
def lI:Ci→Tr (Ci ⊕ aj)
 | .h4 l0 i3=>
  let a0:=IntKind.i64.wrap (i3 - 1)
  let a1:=l0.getD a0.toNat (zj zh)
  let a2:=l0.getD i3.toNat (zj zh)
  Tr.br (decide (i3 < (↑l0.length:Int)))
  (Tr.chk (zI a0 l0.length)
   (Tr.chk (zI i3 l0.length) (Tr.br (!Op.bytesLess a1.1.1 a2.1.1) (Tr.re (ai 15) []) (Tr.to (Ci.h4 l0 (IntKind.i64.wrap (i3+1)))))))
  (Tr.to (Ci.h9 l0 l0 (↑l0.length:Int) 0))
 | .h9 l0 l30 i31 i32=>
  let a0:=l30.getD i32.toNat (zj zh)
  let a1:=((a0.1.1,a0.1.2.1,a0.1.2.2.1,a0.1.2.2.2.1,a0.1.2.2.2.2.1,zE a0.1.2.2.2.2.2),a0.2)
  let a2:=rH a1
  Tr.br (decide (i32 < i31))
  (Tr.chk (zI i32 l30.length)
   (Tr.chk (nG a1) (Tr.br (a2 != 0) (Tr.re (ai a2) []) (Tr.to (Ci.h9 l0 l30 i31 (IntKind.i64.wrap (i32+1)))))))
  (Tr.chk (nh l0) (Tr.br (!qL l0) (Tr.re (ai 10) []) (Tr.re (ai 0) [])))
def py (x0:Sem zh.sl):=zW [zg] lI 100000000 (P0 x0)
def lg (x0:Sem zh.sl):=(py x0).isSome
def fx (x0:Sem zh.sl):=o1 (py x0)
def Zf:=FT [zh.sl] [zg] fun x=>py x.1
theorem Uj:FK 11 Zf:=yA.T1 (f:=Tryz.f11) (keep:=zdr) (e:=zfW)

def fS:=Sf.add 11 Zf
theorem bX:zl fS:=yA.add Uj
end
section
variable {σ:Type} {t:σ→Tr (σ ⊕ aj)}

def bq (t:σ→Tr (σ ⊕ aj)) (k:Nat) (s:σ) (r:aj):Prop:=∀ n,k≤n→bl t n s=some r
def aF (t:σ→Tr (σ ⊕ aj)) (m:Nat) (s s':σ):Prop:=∀ k r,bq t k s' r→bq t (k+m) s r

theorem bq.mono {k k':Nat} {s:σ} {r:aj} (h:bq t k s r) (hk:k≤k'):bq t k' s r:=fun n hn=>h n (by omega)
theorem bq.of {s:σ} {r:aj} (h:(t s).val=some (.inr r)):bq t 1 s r:=by
 intro n hn
 obtain ⟨n,rfl⟩:∃ k,n=k+1:=⟨n - 1,by omega⟩
 rw [bl,h]
theorem aF.of {s s':σ} (h:(t s).val=some (.inl s')):aF t 1 s s':=by
 intro k r hr n hn
 obtain ⟨n,rfl⟩:∃ k,n=k+1:=⟨n - 1,by omega⟩
 rw [bl,h]
 exact hr n (by omega)
theorem aF.refl (s:σ):aF t 0 s s:=fun _ _ h=>h
theorem aF.trans {a b:Nat} {s s' s'':σ} (h1:aF t a s s') (h2:aF t b s' s''):aF t (b+a) s s'':=fun k r h=>(h1 _ _ (h2 k r h)).mono (by omega)
theorem aF.mono {a b:Nat} {s s':σ} (h:aF t a s s') (hk:a≤b):aF t b s s':=fun k r hr=>(h k r hr).mono (by omega)
theorem aF.ends {a k:Nat} {s s':σ} {r:aj} (h1:aF t a s s') (h2:bq t k s' r):bq t (k+a) s r:=h1 k r h2

theorem aF.all (m:Nat) (st:Nat→σ):∀ (N:Nat),(∀ i,i < N→aF t m (st i) (st (i+1)))→aF t (N * m) (st 0) (st N)
 | 0,_=>(aF.refl _).mono (by omega)
 | N+1,h=>((aF.all m st N fun i hi=>h i (by omega)).trans (h N (by omega))).mono (by rw [lS]; omega)

theorem Ic {Φ:aj→Prop} (m:Nat) (st:Nat→σ) (P:Nat→Prop):∀ (N:Nat),(∀ i,i < N→(∀ j,j < i→P j)→(P i∧aF t m (st i) (st (i+1)))∨(¬ P i∧∃ r,bq t m (st i) r∧Φ r))→
  ((∀ i,i < N→P i)∧aF t (N * m) (st 0) (st N))∨((¬ ∀ i,i < N→P i)∧∃ r,bq t (N * m) (st 0) r∧Φ r)
 | 0,_=>.inl ⟨fun i hi=>absurd hi (by omega),(aF.refl _).mono (by omega)⟩
 | N+1,h=>by
  rcases Ic m st P N fun i hi=>h i (by omega) with ⟨h1,h2⟩ | ⟨h1,r,h2,h3⟩
  ·rcases h N (by omega) h1 with ⟨h4,h5⟩ | ⟨h4,r,h5,h6⟩
   ·refine .inl ⟨fun i hi=>?_,(h2.trans h5).mono (by rw [lS]; omega)⟩
    rcases Nat.lt_succ_iff_lt_or_eq.1 hi with hi | rfl
    ·exact h1 i hi
    ·exact h4
   ·exact .inr ⟨fun h=>h4 (h N (by omega)),r,(h2.ends h5).mono (by rw [lS]; omega),h6⟩
  ·exact .inr ⟨fun h=>h1 fun i hi=>h i (by omega),r,h2.mono (by rw [lS]; omega),h3⟩

theorem bb {outs:List Sh} {n k:Nat} {i:Tr (σ ⊕ aj)} {s:σ} {r:aj} {y:zw (outs.map some)} (hi:i.val=some (.inl s)) (h:bq t k s r) (hk:k≤n) (hr:ap r.2 outs r.1=some y):zW outs t n i=some y:=by
 unfold zW bh
 rw [hi]
 show (bl t n s).bind _=_
 rw [h n hk]
 exact hr
theorem jv {outs:List Sh} {n:Nat} {i:Tr (σ ⊕ aj)} {r:aj} {y:zw (outs.map some)} (hi:i.val=some (.inr r)) (hr:ap r.2 outs r.1=some y):zW outs t n i=some y:=by
 unfold zW bh
 rw [hi]
 exact hr
end
end Cad
