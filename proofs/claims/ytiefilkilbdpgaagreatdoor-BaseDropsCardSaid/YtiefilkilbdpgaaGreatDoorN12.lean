/- Statements: what a CREATE has. Functions on a variable to which a pointer leads. Functions as the machine goes through them, round by round. -/
import Derived.Test.YtiefilkilbdpgaaGreatDoorN11
namespace Cad
open Go Go.Proofs
open Int (toNat)
open List (getD)
open List (length)
set_option maxHeartbeats 4000000

abbrev zil:Nat→aj:=fun _=>{ }
theorem zfh:zA (im).P 150 Tryz.f150 1:=aS (by kernel_rfl)
theorem zhG (x0:Sem zo):rn im 0 zil Tryz.f150 [zz zo x0] []=Tr.ok (zt.ret (AV.bool (bif bif decide ((↑(length x0.2.2.2.2.1):Int) < 1) then true else decide ((↑(length x0.2.2.2.2.1):Int) > 8) then false else bif !decide (zL (fun x => !hZ x) x0.2.2.2.2.1 0 ≥ 0) then bif bt x0.2.2.2.2.2.1 then bif bif decide ((↑(length x0.2.2.2.2.2.2.1):Int) < 0) then true else decide ((↑(length x0.2.2.2.2.2.2.1):Int) > 8) then false else bif !decide (zL (fun x => !bt x) x0.2.2.2.2.2.2.1 0 ≥ 0) then bif bif decide ((↑(length x0.2.2.2.2.2.2.2.1):Int) < 0) then true else decide ((↑(length x0.2.2.2.2.2.2.2.1):Int) > 8) then false else bif !decide (zL (fun x => !ni x) x0.2.2.2.2.2.2.2.1 0 ≥ 0) then o8 (zE x0.2.2.2.2.2.2.2.2.1) else false else false else false else false)) []):=by kernel_rfl
def eU (x0:Sem zo):Sem Sh.bool:=(bif bif decide ((↑(length x0.2.2.2.2.1):Int) < 1) then true else decide ((↑(length x0.2.2.2.2.1):Int) > 8) then false else bif !decide (zL (fun x => !hZ x) x0.2.2.2.2.1 0 ≥ 0) then bif bt x0.2.2.2.2.2.1 then bif bif decide ((↑(length x0.2.2.2.2.2.2.1):Int) < 0) then true else decide ((↑(length x0.2.2.2.2.2.2.1):Int) > 8) then false else bif !decide (zL (fun x => !bt x) x0.2.2.2.2.2.2.1 0 ≥ 0) then bif bif decide ((↑(length x0.2.2.2.2.2.2.2.1):Int) < 0) then true else decide ((↑(length x0.2.2.2.2.2.2.2.1):Int) > 8) then false else bif !decide (zL (fun x => !ni x) x0.2.2.2.2.2.2.2.1 0 ≥ 0) then o8 x0.2.2.2.2.2.2.2.2.1 else false else false else false else false)
def F81:zF:=ay [zo] [Sh.bool] fun x=>(eU x.1,())
theorem zbG:FK 150 F81:=by
 refine zS (zfh) fun x C hC=>?_
 refine zk ej (zfh) (fun id _=>hC id) (zhG x.1) ?_
 generalize hy:eU x.1=y
 unfold eU at hy
 try simp only [ze.eta]
 repeat' (first | with_reducible refine bd hy (fun _ hy=>?_) (fun _ hy=>?_) | with_reducible refine zr ?_)
 all_goals first | (cases hc; done) | (subst hy; first | rfl)

abbrev zes:Nat→aj:=fun j=>if j=3 then { slots:=[1,5,8,9,10],prom:=[(5,none,.str)] } else { }
abbrev EI (l8:List (Sem (Sh.str.pr Sh.expr))) (i9:Int) (i10:Int) (lh_0:LS):St:={ tmps:=(tm 23 [(1,AV.clo (Fn.func 162) [] []),(5,AV.vec 0),(8,AV.sl (Sh.str.pr Sh.expr) l8),(9,ai i9),(10,ai i10)]),heap:=[AO.vec Sh.str lh_0] }
theorem Q1:zA (im).P 164 Tryz.f164 2:=aS (by kernel_rfl)
theorem zhQ (x0:Sem aN.sl):rn im 0 zes Tryz.f164 [zz aN.sl x0,AV.clo (Fn.func 162) [] []] []=Tr.ok (zt.head 3 (zy Tryz.f164 3) (EI x0 (↑(length x0):Int) 0 [])):=by kernel_rfl
theorem NN (l8:List (Sem (Sh.str.pr Sh.expr))) (i9:Int) (i10:Int) (lh_0:LS):rh im 0 zes Tryz.f164 3 (EI l8 i9 i10 lh_0)=Tr.br (decide (i10 < i9)) (Tr.chk (zI i10 l8.length) (Tr.chk (jH ((l8.getD i10.toNat (zj (Sh.str.pr Sh.expr))).1,ze.mk (ze.op (l8.getD i10.toNat (zj (Sh.str.pr Sh.expr))).2) (ze.v (l8.getD i10.toNat (zj (Sh.str.pr Sh.expr))).2) (ze.s (l8.getD i10.toNat (zj (Sh.str.pr Sh.expr))).2) (ze.l (l8.getD i10.toNat (zj (Sh.str.pr Sh.expr))).2))) (Tr.chk (decide (lh_0.length+[ez ((l8.getD i10.toNat (zj (Sh.str.pr Sh.expr))).1,ze.mk (ze.op (l8.getD i10.toNat (zj (Sh.str.pr Sh.expr))).2) (ze.v (l8.getD i10.toNat (zj (Sh.str.pr Sh.expr))).2) (ze.s (l8.getD i10.toNat (zj (Sh.str.pr Sh.expr))).2) (ze.l (l8.getD i10.toNat (zj (Sh.str.pr Sh.expr))).2))].length≤1073741824)) (Tr.ok (zt.head 3 (zy Tryz.f164 3) (EI l8 i9 (IntKind.i64.wrap (i10+1)) (lh_0++[ez ((l8.getD i10.toNat (zj (Sh.str.pr Sh.expr))).1,ze.mk (ze.op (l8.getD i10.toNat (zj (Sh.str.pr Sh.expr))).2) (ze.v (l8.getD i10.toNat (zj (Sh.str.pr Sh.expr))).2) (ze.s (l8.getD i10.toNat (zj (Sh.str.pr Sh.expr))).2) (ze.l (l8.getD i10.toNat (zj (Sh.str.pr Sh.expr))).2))]))))))) (Tr.chk (decide (lh_0.length≤140737488355328)&&decide ((Lib.join lh_0 [32,44,32]).length≤140737488355328))
 (Tr.ok (zt.ret (AV.str (Lib.join lh_0 [32,44,32])) []))):=by kernel_rfl
def cT:List (Sem (Sh.str.pr Sh.expr))→Int→List (Sem Sh.str)→Sem Sh.str
 | [],_,lh_0=>(Lib.join lh_0 [32,44,32])
 | x::r,i10,lh_0=>(cT r (i10+1) (lh_0++[ez x]))
def dk:List (Sem (Sh.str.pr Sh.expr))→Int→List (Sem Sh.str)→Bool
 | [],_,lh_0=>(if (decide (lh_0.length≤140737488355328)&&decide ((Lib.join lh_0 [32,44,32]).length≤140737488355328))=true then true else false)
 | x::r,i10,lh_0=>(if jH x=true then if decide (lh_0.length+[ez x].length≤1073741824)=true then dk r (i10+1) (lh_0++[ez x]) else false
else false)
theorem Wg {C:cI} (hC:∀ id,C.ρ0 id=none) (l8:List (Sem (Sh.str.pr Sh.expr))) (hl:l8.length≤zB):∀ (m i:Nat) (lh_0:LS),l8.length - i=m→i≤l8.length→dk (l8.drop i) i lh_0=true→
  Reach (im) C 164 (zy Tryz.f164 3) (EI l8 (l8.length:Int) (i:Int) lh_0) (fun r h=>ah h [Sh.str] r=some (cT (l8.drop i) i lh_0,())):=by
 intro m
 induction m with
 | zero=>
  intro i lh_0 hm hi hc
  obtain rfl:i=l8.length:=by omega
  rw [cL] at hc ⊢
  refine zk ej (Q1) (fun id _=>hC id) (NN _ _ _ _) ?_
  rw [dk] at hc
  generalize hy:cT [] _ lh_0=y
  rw [cT] at hy
  simp only [ze.eta,zY,Tr.val_brF]
  repeat' (first | with_reducible refine fe hy hc (fun _ hy hc=>?_) (fun _ hy hc=>?_) | with_reducible refine bd hy (fun _ hy=>?_) (fun _ hy=>?_) | with_reducible refine bz hc (fun hc=>?_) | with_reducible refine zr ?_)
  all_goals first | (cases hc; done) | (subst hy; first | rfl)
 | succ m IH=>
  intro i lh_0 hm hi hc
  have hlt:i < l8.length:=by omega
  have IH:=IH (i+1)
  have hcast:((i:Int)+1)=((i+1:Nat):Int):=by omega
  have hwr:=zD i (by omega)
  rw [cX hlt] at hc ⊢
  refine zk ej (Q1) (fun id _=>hC id) (NN _ _ _ _) ?_
  rw [dk] at hc
  generalize hy:cT (l8[i]::l8.drop (i+1)) (i:Int) lh_0=y
  rw [cT] at hy
  simp only [ze.eta,zT hlt,zC hlt,ae l8 _ hlt,hwr,Tr.val_brT,Tr.val_chkT]
  clear hwr
  try simp only [zC hlt] at hy
  simp only [hcast] at hy
  try simp only [zC hlt] at hc
  try simp only [hcast] at hc
  repeat' (first | with_reducible refine fe hy hc (fun _ hy hc=>?_) (fun _ hy hc=>?_) | with_reducible refine bd hy (fun _ hy=>?_) (fun _ hy=>?_) | with_reducible refine bz hc (fun hc=>?_) | with_reducible refine zr ?_)
  all_goals first | (cases hc; done) | (subst hy; first | (change Reach _ _ _ _ _ _; apply IH <;> first | omega | assumption) | rfl)
theorem Qb {C:cI} (hC:∀ id,C.ρ0 id=none) (l8:List (Sem (Sh.str.pr Sh.expr))) (lh_0:LS) (hc:dk l8 0 lh_0=true):
  Reach (im) C 164 (zy Tryz.f164 3) (EI l8 (l8.length:Int) 0 lh_0) (fun r h=>ah h [Sh.str] r=some (cT l8 0 lh_0,())):=
 Reach.len 8 (Sh.str.pr Sh.expr) l8 rfl fun hl=>Wg hC l8 hl _ 0 lh_0 rfl (aV _) hc
def k9 (x0:Sem aN.sl):Sem Sh.str:=(cT x0 0 [])
def lc (x0:Sem aN.sl):Bool:=(dk x0 0 [])
def F95:zF:=wP [aN.sl] [Sh.str] [(162,(fun x=>lc x.1),fun x=>(k9 x.1,()))]
theorem zbV:FK 164 F95:=by
 refine ls (Q1) fun j c g hm x hc C hC=>?_
 simp only [bL,bv] at hm
 obtain ⟨rfl,rfl,rfl⟩:=hm
 replace hc:lc x.1=true:=hc
 unfold lc at hc
 refine zk ej (Q1) (fun id _=>hC id) (zhQ x.1) ?_
 generalize hy:k9 x.1=y
 unfold k9 at hy
 repeat' (first | with_reducible refine fe hy hc (fun _ hy hc=>?_) (fun _ hy hc=>?_) | with_reducible refine bd hy (fun _ hy=>?_) (fun _ hy=>?_) | with_reducible refine bz hc (fun hc=>?_) | with_reducible refine zr ?_)
 all_goals first | (cases hc; done) | (subst hy; first | (change Reach _ _ _ _ _ _; apply Qb hC <;> first | assumption | exact hc) | rfl)

abbrev XH:Nat→aj:=fun j=>if j=5 then { slots:=[1,3,24,25,26] } else if j=10 then { slots:=[1,3,37,38,39] } else { }
abbrev EG (s3:zp) (l24:LS) (i25:Int) (i26:Int) (ja0:TS) (ja1:TS) (ja2:TS) (ja3:LS) (ja4:LC) (ja5:TS) (ja6:LS) (ja7:List (Sem (Sh.str.pr Sh.str))) (ja8:zp) (ja9:Int) (ja10:Int) (ja11:zp) (ja12:zp) (ja13:LX) (ja14:LV) (ja15:List (Sem (Sh.str.pr Sh.expr))) (ja16:zp) (ja17:Int) (ja18:Int) (ja19:zp) (ja20:zp) (ja21:LX) (ja22:TS):St:={ tmps:=(tm 59 [(1,AV.ptr 0 0),(3,AV.str s3),(24,AV.sl Sh.str l24),(25,ai i25),(26,ai i26)]),heap:=[AO.box [AV.str ja0,AV.str ja1,AV.str ja2,AV.sl Sh.str ja3,AV.sl zi ja4,AV.str ja5,AV.sl Sh.str ja6,AV.sl (Sh.str.pr Sh.str) ja7,AV.str ja8,ai ja9,ai ja10,AV.str ja11,AV.str ja12,AV.sl Sh.expr ja13,AV.sl zf ja14,AV.sl (Sh.str.pr Sh.expr) ja15,AV.str ja16,ai ja17,ai ja18,AV.str ja19,AV.str ja20,AV.sl Sh.expr ja21,AV.str ja22]] }
theorem JW:zA (im).P 159 Tryz.f159 1:=aS (by kernel_rfl)
theorem zhL (x0:Sem zo):rn im 0 XH Tryz.f159 [zz zo x0] []=Tr.chk (decide ([67,82,69,65,84,69,32,84,65,66,76,69,32].length+length x0.2.1≤1099511627776)) (Tr.chk (decide (length ([67,82,69,65,84,69,32,84,65,66,76,69,32]++x0.2.1)+[32,40,32].length≤1099511627776)) (Tr.chk (jh x0.2.2.2.2.1) (Tr.chk (decide (length ([67,82,69,65,84,69,32,84,65,66,76,69,32]++x0.2.1++[32,40,32])+length (dB x0.2.2.2.2.1)≤1099511627776)) (Tr.chk (decide ([32,44,32,75,69,89,32,40,32].length+length x0.2.2.2.2.2.1≤1099511627776)) (Tr.chk (decide (length ([32,44,32,75,69,89,32,40,32]++x0.2.2.2.2.2.1)+[32,41].length≤1099511627776)) (Tr.chk (decide (length ([67,82,69,65,84,69,32,84,65,66,76,69,32]++x0.2.1++[32,40,32]++dB x0.2.2.2.2.1)+length ([32,44,32,75,69,89,32,40,32]++x0.2.2.2.2.2.1++[32,41])≤1099511627776)) (Tr.ok (zt.head 5 (zy Tryz.f159 5) (EG ([67,82,69,65,84,69,32,84,65,66,76,69,32]++x0.2.1++[32,40,32]++dB x0.2.2.2.2.1++([32,44,32,75,69,89,32,40,32]++x0.2.2.2.2.2.1++[32,41])) x0.2.2.2.2.2.2.1 (↑(length x0.2.2.2.2.2.2.1):Int) 0 x0.1 x0.2.1 x0.2.2.1 x0.2.2.2.1 x0.2.2.2.2.1 x0.2.2.2.2.2.1 x0.2.2.2.2.2.2.1 x0.2.2.2.2.2.2.2.1
 (ze.op x0.2.2.2.2.2.2.2.2.1) (ze.v x0.2.2.2.2.2.2.2.2.1).1 (ze.v x0.2.2.2.2.2.2.2.2.1).2.1 (ze.v x0.2.2.2.2.2.2.2.2.1).2.2 (ze.s x0.2.2.2.2.2.2.2.2.1) (ze.l x0.2.2.2.2.2.2.2.2.1) x0.2.2.2.2.2.2.2.2.2.1 x0.2.2.2.2.2.2.2.2.2.2.1 (ze.op x0.2.2.2.2.2.2.2.2.2.2.2.1) (ze.v x0.2.2.2.2.2.2.2.2.2.2.2.1).1 (ze.v x0.2.2.2.2.2.2.2.2.2.2.2.1).2.1 (ze.v x0.2.2.2.2.2.2.2.2.2.2.2.1).2.2 (ze.s x0.2.2.2.2.2.2.2.2.2.2.2.1) (ze.l x0.2.2.2.2.2.2.2.2.2.2.2.1) x0.2.2.2.2.2.2.2.2.2.2.2.2))))))))):=by kernel_rfl
abbrev xq (s3:zp) (l37:List (Sem (Sh.str.pr Sh.str))) (i38:Int) (i39:Int) (ja0:TS) (ja1:TS) (ja2:TS) (ja3:LS) (ja4:LC) (ja5:TS) (ja6:LS) (ja7:List (Sem (Sh.str.pr Sh.str))) (ja8:zp) (ja9:Int) (ja10:Int) (ja11:zp) (ja12:zp) (ja13:LX) (ja14:LV) (ja15:List (Sem (Sh.str.pr Sh.expr))) (ja16:zp) (ja17:Int) (ja18:Int) (ja19:zp) (ja20:zp) (ja21:LX) (ja22:TS):St:={ tmps:=(tm 59 [(1,AV.ptr 0 0),(3,AV.str s3),(37,AV.sl (Sh.str.pr Sh.str) l37),(38,ai i38),(39,ai i39)]),heap:=[AO.box [AV.str ja0,AV.str ja1,AV.str ja2,AV.sl Sh.str ja3,AV.sl zi ja4,AV.str ja5,AV.sl Sh.str ja6,AV.sl (Sh.str.pr Sh.str) ja7,AV.str ja8,ai ja9,ai ja10,AV.str ja11,AV.str ja12,AV.sl Sh.expr ja13,AV.sl zf ja14,AV.sl (Sh.str.pr Sh.expr) ja15,AV.str ja16,ai ja17,ai ja18,AV.str ja19,AV.str ja20,AV.sl Sh.expr ja21,AV.str ja22]] }
theorem NK (s3:zp) (l24:LS) (i25:Int) (i26:Int) (ja0:TS) (ja1:TS) (ja2:TS) (ja3:LS) (ja4:LC) (ja5:TS) (ja6:LS) (ja7:List (Sem (Sh.str.pr Sh.str))) (ja8:zp) (ja9:Int) (ja10:Int) (ja11:zp) (ja12:zp) (ja13:LX) (ja14:LV) (ja15:List (Sem (Sh.str.pr Sh.expr))) (ja16:zp) (ja17:Int) (ja18:Int) (ja19:zp) (ja20:zp) (ja21:LX) (ja22:TS):rh im 0 XH Tryz.f159 5 (EG s3 l24 i25 i26 ja0 ja1 ja2 ja3 ja4 ja5 ja6 ja7 ja8 ja9 ja10 ja11 ja12 ja13 ja14 ja15 ja16 ja17 ja18 ja19 ja20 ja21 ja22)=Tr.br (decide (i26 < i25)) (Tr.chk (zI i26 l24.length) (Tr.chk (decide ([32,44,32,85,78,73,81,85,69,32,40,32].length+length (l24.getD i26.toNat (zj Sh.str))≤1099511627776)) (Tr.chk (decide (length ([32,44,32,85,78,73,81,85,69,32,40,32]++l24.getD i26.toNat (zj Sh.str))+[32,41].length≤1099511627776)) (Tr.chk (decide (length s3+length ([32,44,32,85,78,73,81,85,69,32,40,32]++l24.getD i26.toNat (zj Sh.str)++[32,41])≤1099511627776)) (Tr.ok (zt.head 5 (zy Tryz.f159 5) (EG (s3++([32,44,32,85,78,73,81,85,69,32,40,32]++l24.getD i26.toNat (zj Sh.str)++[32,41])) l24 i25
 (IntKind.i64.wrap (i26+1)) ja0 ja1 ja2 ja3 ja4 ja5 ja6 ja7 ja8 ja9 ja10 ja11 ja12 ja13 ja14 ja15 ja16 ja17 ja18 ja19 ja20 ja21 ja22))))))) (Tr.ok (zt.head 10 (zy Tryz.f159 10) (xq s3 ja7 (↑ja7.length:Int) 0 ja0 ja1 ja2 ja3 ja4 ja5 ja6 ja7 ja8 ja9 ja10 ja11 ja12 ja13 ja14 ja15 ja16 ja17 ja18 ja19 ja20 ja21 ja22))):=by kernel_rfl
theorem Ij (s3:zp) (l37:List (Sem (Sh.str.pr Sh.str))) (i38:Int) (i39:Int) (ja0:TS) (ja1:TS) (ja2:TS) (ja3:LS) (ja4:LC) (ja5:TS) (ja6:LS) (ja7:List (Sem (Sh.str.pr Sh.str))) (ja8:zp) (ja9:Int) (ja10:Int) (ja11:zp) (ja12:zp) (ja13:LX) (ja14:LV) (ja15:List (Sem (Sh.str.pr Sh.expr))) (ja16:zp) (ja17:Int) (ja18:Int) (ja19:zp) (ja20:zp) (ja21:LX) (ja22:TS):rh im 0 XH Tryz.f159 10 (xq s3 l37 i38 i39 ja0 ja1 ja2 ja3 ja4 ja5 ja6 ja7 ja8 ja9 ja10 ja11 ja12 ja13 ja14 ja15 ja16 ja17 ja18 ja19 ja20 ja21 ja22)=Tr.br (decide (i39 < i38)) (Tr.chk (zI i39 l37.length) (Tr.chk (decide ([32,44,32,82,69,70,69,82,69,78,67,69,83,32,40,32].length+length (l37.getD i39.toNat (zj (Sh.str.pr Sh.str))).1≤1099511627776)) (Tr.chk (decide (length ([32,44,32,82,69,70,69,82,69,78,67,69,83,32,40,32]++(l37.getD i39.toNat (zj (Sh.str.pr Sh.str))).1)+[32,41,32].length≤1099511627776)) (Tr.chk (decide (length ([32,44,32,82,69,70,69,82,69,78,67,69,83,32,40,32]++(l37.getD i39.toNat (zj (Sh.str.pr Sh.str))).1++[32,41,32])+length (l37.getD i39.toNat (zj (Sh.str.pr Sh.str))).2≤1099511627776)) (Tr.chk (decide (length s3+length
 ([32,44,32,82,69,70,69,82,69,78,67,69,83,32,40,32]++(l37.getD i39.toNat (zj (Sh.str.pr Sh.str))).1++[32,41,32]++(l37.getD i39.toNat (zj (Sh.str.pr Sh.str))).2)≤1099511627776)) (Tr.ok (zt.head 10 (zy Tryz.f159 10) (xq (s3++([32,44,32,82,69,70,69,82,69,78,67,69,83,32,40,32]++(l37.getD i39.toNat (zj (Sh.str.pr Sh.str))).1++[32,41,32]++(l37.getD i39.toNat (zj (Sh.str.pr Sh.str))).2)) l37 i38 (IntKind.i64.wrap (i39+1)) ja0 ja1 ja2 ja3 ja4 ja5 ja6 ja7 ja8 ja9 ja10 ja11 ja12 ja13 ja14 ja15 ja16 ja17 ja18 ja19 ja20 ja21 ja22)))))))) (Tr.chk (lz [32,44,32] (ze.mk ja8 (ja9,ja10,ja11) ja12 ja13)) (Tr.chk (decide (length s3+length (iF [32,44,32] (ze.mk ja8 (ja9,ja10,ja11) ja12 ja13))≤1099511627776)) (Tr.chk (decide (length (s3++iF [32,44,32] (ze.mk ja8 (ja9,ja10,ja11) ja12 ja13))+[32,41].length≤1099511627776)) (Tr.ok (zt.ret (AV.str (s3++iF [32,44,32] (ze.mk ja8 (ja9,ja10,ja11) ja12 ja13)++[32,41])) []))))):=by kernel_rfl
def cQ (ja0:TS) (ja1:TS) (ja2:TS) (ja3:LS) (ja4:LC) (ja5:TS) (ja6:LS) (ja7:List (Sem (Sh.str.pr Sh.str))) (ja8:zp) (ja9:Int) (ja10:Int) (ja11:zp) (ja12:zp) (ja13:LX) (ja14:LV) (ja15:List (Sem (Sh.str.pr Sh.expr))) (ja16:zp) (ja17:Int) (ja18:Int) (ja19:zp) (ja20:zp) (ja21:LX) (ja22:TS):List (Sem (Sh.str.pr Sh.str))→Int→zp→Sem Sh.str
 | [],_,s3=>(s3++iF [32,44,32] (ze.mk ja8 (ja9,ja10,ja11) ja12 ja13)++[32,41])
 | x::r,i39,s3=>(cQ ja0 ja1 ja2 ja3 ja4 ja5 ja6 ja7 ja8 ja9 ja10 ja11 ja12 ja13 ja14 ja15 ja16 ja17 ja18 ja19
 ja20 ja21 ja22 r (i39+1) (s3++([32,44,32,82,69,70,69,82,69,78,67,69,83,32,40,32]++x.1++[32,41,32]++x.2)))
def dj (ja0:TS) (ja1:TS) (ja2:TS) (ja3:LS) (ja4:LC) (ja5:TS) (ja6:LS) (ja7:List (Sem (Sh.str.pr Sh.str))) (ja8:zp) (ja9:Int) (ja10:Int) (ja11:zp) (ja12:zp) (ja13:LX) (ja14:LV) (ja15:List (Sem (Sh.str.pr Sh.expr))) (ja16:zp) (ja17:Int) (ja18:Int) (ja19:zp) (ja20:zp) (ja21:LX) (ja22:TS):List (Sem (Sh.str.pr Sh.str))→Int→zp→Bool
 | [],_,s3=>(if lz [32,44,32] (ze.mk ja8 (ja9,ja10,ja11) ja12 ja13)=true then
 if decide (length s3+length (iF [32,44,32] (ze.mk ja8 (ja9,ja10,ja11) ja12 ja13))≤1099511627776)=true then
  if
    decide (length (s3++iF [32,44,32] (ze.mk ja8 (ja9,ja10,ja11) ja12 ja13))+[32,41].length≤1099511627776)=
     true then
   true
  else false
 else false
else false)
 | x::r,i39,s3=>(if decide ([32,44,32,82,69,70,69,82,69,78,67,69,83,32,40,32].length+length x.1≤1099511627776)=true then
 if decide (length ([32,44,32,82,69,70,69,82,69,78,67,69,83,32,40,32]++x.1)+[32,41,32].length≤1099511627776)=true then
  if
    decide (length ([32,44,32,82,69,70,69,82,69,78,67,69,83,32,40,32]++x.1++[32,41,32])+length x.2≤1099511627776)=
     true then
   if
     decide
       (length s3+length ([32,44,32,82,69,70,69,82,69,78,67,69,83,32,40,32]++x.1++[32,41,32]++x.2)≤
        1099511627776)=
      true then
    dj ja0 ja1 ja2 ja3 ja4 ja5 ja6 ja7 ja8 ja9 ja10 ja11 ja12 ja13 ja14 ja15 ja16 ja17
     ja18 ja19 ja20 ja21 ja22 r (i39+1)
     (s3++([32,44,32,82,69,70,69,82,69,78,67,69,83,32,40,32]++x.1++[32,41,32]++x.2))
   else false
  else false
 else false
else false)
theorem P9 {C:cI} (hC:∀ id,C.ρ0 id=none) (ja0:TS) (ja1:TS) (ja2:TS) (ja3:LS) (ja4:LC) (ja5:TS) (ja6:LS) (ja7:List (Sem (Sh.str.pr Sh.str))) (ja8:zp) (ja9:Int) (ja10:Int) (ja11:zp) (ja12:zp) (ja13:LX) (ja14:LV) (ja15:List (Sem (Sh.str.pr Sh.expr))) (ja16:zp) (ja17:Int) (ja18:Int) (ja19:zp) (ja20:zp) (ja21:LX) (ja22:TS) (l37:List (Sem (Sh.str.pr Sh.str))) (hl:l37.length≤zB):∀ (m i:Nat) (s3:zp),l37.length - i=m→i≤l37.length→dj ja0 ja1 ja2 ja3 ja4 ja5 ja6 ja7 ja8 ja9 ja10 ja11 ja12 ja13 ja14 ja15 ja16 ja17 ja18 ja19 ja20 ja21 ja22 (l37.drop i) i s3=true→
  Reach (im) C 159 (zy Tryz.f159 10) (xq s3 l37 (l37.length:Int) (i:Int) ja0 ja1 ja2 ja3 ja4 ja5 ja6 ja7 ja8 ja9 ja10 ja11 ja12 ja13 ja14 ja15 ja16 ja17 ja18 ja19 ja20 ja21 ja22) (fun r h=>ah h [Sh.str] r=some (cQ ja0 ja1 ja2 ja3 ja4 ja5 ja6 ja7 ja8 ja9 ja10 ja11 ja12 ja13 ja14 ja15 ja16 ja17 ja18 ja19 ja20 ja21 ja22 (l37.drop i) i s3,())):=by
 intro m
 induction m with
 | zero=>
  intro i s3 hm hi hc
  obtain rfl:i=l37.length:=by omega
  rw [cL] at hc ⊢
  refine zk ej (JW) (fun id _=>hC id) (Ij _ _ _ _ _ _ _ _ _ _ _ _ _ _ _ _ _ _ _ _ _ _ _ _ _ _ _) ?_
  rw [dj] at hc
  generalize hy:cQ ja0 ja1 ja2 ja3 ja4 ja5 ja6 ja7 ja8 ja9 ja10 ja11 ja12 ja13 ja14 ja15 ja16 ja17 ja18 ja19 ja20 ja21 ja22 [] _ s3=y
  rw [cQ] at hy
  simp only [zY,Tr.val_brF]
  repeat' (first | with_reducible refine fe hy hc (fun _ hy hc=>?_) (fun _ hy hc=>?_) | with_reducible refine bd hy (fun _ hy=>?_) (fun _ hy=>?_) | with_reducible refine bz hc (fun hc=>?_) | with_reducible refine zr ?_)
  all_goals first | (cases hc; done) | (subst hy; first | (change Reach _ _ _ _ _ _; apply Bc hC <;> first | assumption | exact hc) | rfl)
 | succ m IH=>
  intro i s3 hm hi hc
  have hlt:i < l37.length:=by omega
  have IH:=IH (i+1)
  have hcast:((i:Int)+1)=((i+1:Nat):Int):=by omega
  have hwr:=zD i (by omega)
  rw [cX hlt] at hc ⊢
  refine zk ej (JW) (fun id _=>hC id) (Ij _ _ _ _ _ _ _ _ _ _ _ _ _ _ _ _ _ _ _ _ _ _ _ _ _ _ _) ?_
  rw [dj] at hc
  generalize hy:cQ ja0 ja1 ja2 ja3 ja4 ja5 ja6 ja7 ja8 ja9 ja10 ja11 ja12 ja13 ja14 ja15 ja16 ja17 ja18 ja19 ja20 ja21 ja22 (l37[i]::l37.drop (i+1)) (i:Int) s3=y
  rw [cQ] at hy
  simp only [zT hlt,zC hlt,ae l37 _ hlt,hwr,Tr.val_brT,Tr.val_chkT]
  clear hwr
  try simp only [zC hlt] at hy
  simp only [hcast] at hy
  try simp only [zC hlt] at hc
  try simp only [hcast] at hc
  repeat' (first | with_reducible refine fe hy hc (fun _ hy hc=>?_) (fun _ hy hc=>?_) | with_reducible refine bd hy (fun _ hy=>?_) (fun _ hy=>?_) | with_reducible refine bz hc (fun hc=>?_) | with_reducible refine zr ?_)
  all_goals first | (cases hc; done) | (subst hy; first | (change Reach _ _ _ _ _ _; apply IH <;> first | omega | assumption) | (change Reach _ _ _ _ _ _; apply Bc hC <;> first | assumption | exact hc) | rfl)
theorem uL {C:cI} (hC:∀ id,C.ρ0 id=none) (ja0:TS) (ja1:TS) (ja2:TS) (ja3:LS) (ja4:LC) (ja5:TS) (ja6:LS) (ja7:List (Sem (Sh.str.pr Sh.str))) (ja8:zp) (ja9:Int) (ja10:Int) (ja11:zp) (ja12:zp) (ja13:LX) (ja14:LV) (ja15:List (Sem (Sh.str.pr Sh.expr))) (ja16:zp) (ja17:Int) (ja18:Int) (ja19:zp) (ja20:zp) (ja21:LX) (ja22:TS) (l37:List (Sem (Sh.str.pr Sh.str))) (s3:zp) (hc:dj ja0 ja1 ja2 ja3 ja4 ja5 ja6 ja7 ja8 ja9 ja10 ja11 ja12 ja13 ja14 ja15 ja16 ja17 ja18 ja19 ja20 ja21 ja22 l37 0 s3=true):
  Reach (im) C 159 (zy Tryz.f159 10) (xq s3 l37 (l37.length:Int) 0 ja0 ja1 ja2 ja3 ja4 ja5 ja6 ja7 ja8 ja9 ja10 ja11 ja12 ja13 ja14 ja15 ja16 ja17 ja18 ja19 ja20 ja21 ja22) (fun r h=>ah h [Sh.str] r=some (cQ ja0 ja1 ja2 ja3 ja4 ja5 ja6 ja7 ja8 ja9 ja10 ja11 ja12 ja13 ja14 ja15 ja16 ja17 ja18 ja19 ja20 ja21 ja22 l37 0 s3,())):=
 Reach.len 37 (Sh.str.pr Sh.str) l37 rfl fun hl=>P9 hC ja0 ja1 ja2 ja3 ja4 ja5 ja6 ja7 ja8 ja9 ja10 ja11 ja12 ja13 ja14 ja15 ja16 ja17 ja18 ja19 ja20 ja21 ja22 l37 hl _ 0 s3 rfl (aV _) hc
def dC (ja0:TS) (ja1:TS) (ja2:TS) (ja3:LS) (ja4:LC) (ja5:TS) (ja6:LS) (ja7:List (Sem (Sh.str.pr Sh.str))) (ja8:zp) (ja9:Int) (ja10:Int) (ja11:zp) (ja12:zp) (ja13:LX) (ja14:LV) (ja15:List (Sem (Sh.str.pr Sh.expr))) (ja16:zp) (ja17:Int) (ja18:Int) (ja19:zp) (ja20:zp) (ja21:LX) (ja22:TS):List (Sem Sh.str)→Int→zp→Sem Sh.str
 | [],_,s3=>(cQ ja0 ja1 ja2 ja3 ja4 ja5 ja6 ja7 ja8 ja9 ja10 ja11 ja12 ja13 ja14 ja15 ja16 ja17 ja18 ja19
 ja20 ja21 ja22 ja7 0 s3)
 | x::r,i26,s3=>(dC ja0 ja1 ja2 ja3 ja4 ja5 ja6 ja7 ja8 ja9 ja10 ja11 ja12 ja13 ja14 ja15 ja16 ja17 ja18 ja19
 ja20 ja21 ja22 r (i26+1) (s3++([32,44,32,85,78,73,81,85,69,32,40,32]++x++[32,41])))
def dX (ja0:TS) (ja1:TS) (ja2:TS) (ja3:LS) (ja4:LC) (ja5:TS) (ja6:LS) (ja7:List (Sem (Sh.str.pr Sh.str))) (ja8:zp) (ja9:Int) (ja10:Int) (ja11:zp) (ja12:zp) (ja13:LX) (ja14:LV) (ja15:List (Sem (Sh.str.pr Sh.expr))) (ja16:zp) (ja17:Int) (ja18:Int) (ja19:zp) (ja20:zp) (ja21:LX) (ja22:TS):List (Sem Sh.str)→Int→zp→Bool
 | [],_,s3=>(dj ja0 ja1 ja2 ja3 ja4 ja5 ja6 ja7 ja8 ja9 ja10 ja11 ja12 ja13 ja14 ja15 ja16 ja17 ja18
 ja19 ja20 ja21 ja22 ja7 0 s3)
 | x::r,i26,s3=>(if decide ([32,44,32,85,78,73,81,85,69,32,40,32].length+length x≤1099511627776)=true then
 if decide (length ([32,44,32,85,78,73,81,85,69,32,40,32]++x)+[32,41].length≤1099511627776)=true then
  if decide (length s3+length ([32,44,32,85,78,73,81,85,69,32,40,32]++x++[32,41])≤1099511627776)=true then
   dX ja0 ja1 ja2 ja3 ja4 ja5 ja6 ja7 ja8 ja9 ja10 ja11 ja12 ja13 ja14 ja15 ja16 ja17 ja18
    ja19 ja20 ja21 ja22 r (i26+1) (s3++([32,44,32,85,78,73,81,85,69,32,40,32]++x++[32,41]))
  else false
 else false
else false)
theorem We {C:cI} (hC:∀ id,C.ρ0 id=none) (ja0:TS) (ja1:TS) (ja2:TS) (ja3:LS) (ja4:LC) (ja5:TS) (ja6:LS) (ja7:List (Sem (Sh.str.pr Sh.str))) (ja8:zp) (ja9:Int) (ja10:Int) (ja11:zp) (ja12:zp) (ja13:LX) (ja14:LV) (ja15:List (Sem (Sh.str.pr Sh.expr))) (ja16:zp) (ja17:Int) (ja18:Int) (ja19:zp) (ja20:zp) (ja21:LX) (ja22:TS) (l24:LS) (hl:l24.length≤zB):∀ (m i:Nat) (s3:zp),l24.length - i=m→i≤l24.length→dX ja0 ja1 ja2 ja3 ja4 ja5 ja6 ja7 ja8 ja9 ja10 ja11 ja12 ja13 ja14 ja15 ja16 ja17 ja18 ja19 ja20 ja21 ja22 (l24.drop i) i s3=true→
  Reach (im) C 159 (zy Tryz.f159 5) (EG s3 l24 (l24.length:Int) (i:Int) ja0 ja1 ja2 ja3 ja4 ja5 ja6 ja7 ja8 ja9 ja10 ja11 ja12 ja13 ja14 ja15 ja16 ja17 ja18 ja19 ja20 ja21 ja22) (fun r h=>ah h [Sh.str] r=some (dC ja0 ja1 ja2 ja3 ja4 ja5 ja6 ja7 ja8 ja9 ja10 ja11 ja12 ja13 ja14 ja15 ja16 ja17 ja18 ja19 ja20 ja21 ja22 (l24.drop i) i s3,())):=by
 intro m
 induction m with
 | zero=>
  intro i s3 hm hi hc
  obtain rfl:i=l24.length:=by omega
  rw [cL] at hc ⊢
  refine zk ej (JW) (fun id _=>hC id) (NK _ _ _ _ _ _ _ _ _ _ _ _ _ _ _ _ _ _ _ _ _ _ _ _ _ _ _) ?_
  rw [dX] at hc
  generalize hy:dC ja0 ja1 ja2 ja3 ja4 ja5 ja6 ja7 ja8 ja9 ja10 ja11 ja12 ja13 ja14 ja15 ja16 ja17 ja18 ja19 ja20 ja21 ja22 [] _ s3=y
  rw [dC] at hy
  simp only [zY,Tr.val_brF]
  repeat' (first | with_reducible refine fe hy hc (fun _ hy hc=>?_) (fun _ hy hc=>?_) | with_reducible refine bd hy (fun _ hy=>?_) (fun _ hy=>?_) | with_reducible refine bz hc (fun hc=>?_) | with_reducible refine zr ?_)
  all_goals first | (cases hc; done) | (subst hy; first | (change Reach _ _ _ _ _ _; apply uL hC <;> first | assumption | exact hc) | rfl)
 | succ m IH=>
  intro i s3 hm hi hc
  have hlt:i < l24.length:=by omega
  have IH:=IH (i+1)
  have hcast:((i:Int)+1)=((i+1:Nat):Int):=by omega
  have hwr:=zD i (by omega)
  rw [cX hlt] at hc ⊢
  refine zk ej (JW) (fun id _=>hC id) (NK _ _ _ _ _ _ _ _ _ _ _ _ _ _ _ _ _ _ _ _ _ _ _ _ _ _ _) ?_
  rw [dX] at hc
  generalize hy:dC ja0 ja1 ja2 ja3 ja4 ja5 ja6 ja7 ja8 ja9 ja10 ja11 ja12 ja13 ja14 ja15 ja16 ja17 ja18 ja19 ja20 ja21 ja22 (l24[i]::l24.drop (i+1)) (i:Int) s3=y
  rw [dC] at hy
  simp only [zT hlt,zC hlt,ae l24 _ hlt,hwr,Tr.val_brT,Tr.val_chkT]
  clear hwr
  try simp only [zC hlt] at hy
  simp only [hcast] at hy
  try simp only [zC hlt] at hc
  try simp only [hcast] at hc
  repeat' (first | with_reducible refine fe hy hc (fun _ hy hc=>?_) (fun _ hy hc=>?_) | with_reducible refine bd hy (fun _ hy=>?_) (fun _ hy=>?_) | with_reducible refine bz hc (fun hc=>?_) | with_reducible refine zr ?_)
  all_goals first | (cases hc; done) | (subst hy; first | (change Reach _ _ _ _ _ _; apply IH <;> first | omega | assumption) | (change Reach _ _ _ _ _ _; apply uL hC <;> first | assumption | exact hc) | rfl)
theorem Bc {C:cI} (hC:∀ id,C.ρ0 id=none) (ja0:TS) (ja1:TS) (ja2:TS) (ja3:LS) (ja4:LC) (ja5:TS) (ja6:LS) (ja7:List (Sem (Sh.str.pr Sh.str))) (ja8:zp) (ja9:Int) (ja10:Int) (ja11:zp) (ja12:zp) (ja13:LX) (ja14:LV) (ja15:List (Sem (Sh.str.pr Sh.expr))) (ja16:zp) (ja17:Int) (ja18:Int) (ja19:zp) (ja20:zp) (ja21:LX) (ja22:TS) (l24:LS) (s3:zp) (hc:dX ja0 ja1 ja2 ja3 ja4 ja5 ja6 ja7 ja8 ja9 ja10 ja11 ja12 ja13 ja14 ja15 ja16 ja17 ja18 ja19 ja20 ja21 ja22 l24 0 s3=true):
  Reach (im) C 159 (zy Tryz.f159 5) (EG s3 l24 (l24.length:Int) 0 ja0 ja1 ja2 ja3 ja4 ja5 ja6 ja7 ja8 ja9 ja10 ja11 ja12 ja13 ja14 ja15 ja16 ja17 ja18 ja19 ja20 ja21 ja22) (fun r h=>ah h [Sh.str] r=some (dC ja0 ja1 ja2 ja3 ja4 ja5 ja6 ja7 ja8 ja9 ja10 ja11 ja12 ja13 ja14 ja15 ja16 ja17 ja18 ja19 ja20 ja21 ja22 l24 0 s3,())):=
 Reach.len 24 (Sh.str) l24 rfl fun hl=>We hC ja0 ja1 ja2 ja3 ja4 ja5 ja6 ja7 ja8 ja9 ja10 ja11 ja12 ja13 ja14 ja15 ja16 ja17 ja18 ja19 ja20 ja21 ja22 l24 hl _ 0 s3 rfl (aV _) hc
def nD (x0:Sem zo):Sem Sh.str:=(dC x0.1 x0.2.1 x0.2.2.1 x0.2.2.2.1 x0.2.2.2.2.1 x0.2.2.2.2.2.1 x0.2.2.2.2.2.2.1 x0.2.2.2.2.2.2.2.1 (ze.op x0.2.2.2.2.2.2.2.2.1) (ze.v x0.2.2.2.2.2.2.2.2.1).1 (ze.v x0.2.2.2.2.2.2.2.2.1).2.1 (ze.v x0.2.2.2.2.2.2.2.2.1).2.2 (ze.s x0.2.2.2.2.2.2.2.2.1) (ze.l x0.2.2.2.2.2.2.2.2.1) x0.2.2.2.2.2.2.2.2.2.1 x0.2.2.2.2.2.2.2.2.2.2.1 (ze.op x0.2.2.2.2.2.2.2.2.2.2.2.1) (ze.v x0.2.2.2.2.2.2.2.2.2.2.2.1).1 (ze.v x0.2.2.2.2.2.2.2.2.2.2.2.1).2.1 (ze.v x0.2.2.2.2.2.2.2.2.2.2.2.1).2.2 (ze.s x0.2.2.2.2.2.2.2.2.2.2.2.1) (ze.l x0.2.2.2.2.2.2.2.2.2.2.2.1) x0.2.2.2.2.2.2.2.2.2.2.2.2 x0.2.2.2.2.2.2.1 0 ([67,82,69,65,84,69,32,84,65,66,76,69,32]++x0.2.1++[32,40,32]++dB x0.2.2.2.2.1++([32,44,32,75,69,89,32,40,32]++x0.2.2.2.2.2.1++[32,41])))
def mJ (x0:Sem zo):Bool:=(if decide ([67,82,69,65,84,69,32,84,65,66,76,69,32].length+length x0.2.1≤1099511627776)=true then if decide (length ([67,82,69,65,84,69,32,84,65,66,76,69,32]++x0.2.1)+[32,40,32].length≤1099511627776)=true then if jh x0.2.2.2.2.1=true then if decide (length ([67,82,69,65,84,69,32,84,65,66,76,69,32]++x0.2.1++[32,40,32])+length (dB x0.2.2.2.2.1)≤1099511627776)=true then if decide ([32,44,32,75,69,89,32,40,32].length+length x0.2.2.2.2.2.1≤1099511627776)=true then if decide (length ([32,44,32,75,69,89,32,40,32]++x0.2.2.2.2.2.1)+[32,41].length≤1099511627776)=true then if decide (length ([67,82,69,65,84,69,32,84,65,66,76,69,32]++x0.2.1++[32,40,32]++dB x0.2.2.2.2.1)+length ([32,44,32,75,69,89,32,40,32]++x0.2.2.2.2.2.1++[32,41])≤1099511627776)=true then dX x0.1 x0.2.1 x0.2.2.1 x0.2.2.2.1 x0.2.2.2.2.1 x0.2.2.2.2.2.1 x0.2.2.2.2.2.2.1 x0.2.2.2.2.2.2.2.1 (ze.op x0.2.2.2.2.2.2.2.2.1) (ze.v x0.2.2.2.2.2.2.2.2.1).1 (ze.v x0.2.2.2.2.2.2.2.2.1).2.1 (ze.v x0.2.2.2.2.2.2.2.2.1).2.2 (ze.s x0.2.2.2.2.2.2.2.2.1) (ze.l x0.2.2.2.2.2.2.2.2.1) x0.2.2.2.2.2.2.2.2.2.1 x0.2.2.2.2.2.2.2.2.2.2.1 (ze.op x0.2.2.2.2.2.2.2.2.2.2.2.1) (ze.v x0.2.2.2.2.2.2.2.2.2.2.2.1).1 (ze.v x0.2.2.2.2.2.2.2.2.2.2.2.1).2.1
 (ze.v x0.2.2.2.2.2.2.2.2.2.2.2.1).2.2 (ze.s x0.2.2.2.2.2.2.2.2.2.2.2.1) (ze.l x0.2.2.2.2.2.2.2.2.2.2.2.1) x0.2.2.2.2.2.2.2.2.2.2.2.2 x0.2.2.2.2.2.2.1 0 ([67,82,69,65,84,69,32,84,65,66,76,69,32]++x0.2.1++[32,40,32]++dB x0.2.2.2.2.1++([32,44,32,75,69,89,32,40,32]++x0.2.2.2.2.2.1++[32,41])) else false else false else false else false else false else false else false)
def F90:zF:=zG [zo] [Sh.str] (fun x=>mJ x.1) fun x=>(nD x.1,())
theorem zbQ:FK 159 F90:=by
 refine zR (JW) fun x hc C hC=>?_
 unfold mJ at hc
 refine zk ej (JW) (fun id _=>hC id) (zhL x.1) ?_
 generalize hy:nD x.1=y
 unfold nD at hy
 try simp only [ze.eta,zm]
 repeat' (first | with_reducible refine fe hy hc (fun _ hy hc=>?_) (fun _ hy hc=>?_) | with_reducible refine bd hy (fun _ hy=>?_) (fun _ hy=>?_) | with_reducible refine bz hc (fun hc=>?_) | with_reducible refine zr ?_)
 all_goals first | (cases hc; done) | (subst hy; first | (change Reach _ _ _ _ _ _; apply Bc hC <;> first | assumption | exact hc) | (change Reach _ _ _ _ _ _; apply uL hC <;> first | assumption | exact hc) | rfl)

noncomputable def yX:=im.addL [(150,F81),(164,F95),(159,F90)]
theorem rB:zl yX:=ej.addL <| fc zbG <| fc zbV <| fc zbQ jn
open Go

inductive CP where
 | d (s:Sh)
 | nil
 | vec (e:Sh)

@[reducible] def zu:List CP→Type
 | []=>Unit
 | .d s::r=>Sem s×zu r
 | .nil::r=>zu r
 | .vec e::r=>List (Sem e)×zu r

def fU:(n:Nat)→(ps:List CP)→zu ps→List AV
 | _,[],_=>[]
 | n,.d s::r,y=>zn s y.1++fU n r y.2
 | n,.nil::r,y=>.nils::fU n r y
 | n,.vec _::r,y=>.vec n::fU (n+1) r y.2

def fV:(ps:List CP)→zu ps→List AO
 | [],_=>[]
 | .d _::r,y=>fV r y.2
 | .nil::r,y=>fV r y
 | .vec e::r,y=>.vec e y.1::fV r y.2

def cj (ps:List CP) (y:zu ps):List AO:=.box (fU 1 ps y)::fV ps y

def aF:List CP→Nat
 | []=>0
 | .vec _::r=>aF r+1
 | _::r=>aF r

theorem bE:∀ (ps:List CP) (y:zu ps),(fV ps y).length=aF ps
 | [],_=>rfl
 | .d _::r,y=>bE r y.2
 | .nil::r,y=>bE r y
 | .vec _::r,y=>congrArg (· + 1) (bE r y.2)

def cz (hp:Nat→AO):(n:Nat)→(ps:List CP)→List AV→Option (zu ps)
 | _,[],[]=>some ()
 | n,.d s::r,cs=>match cr (fun _=>.dead) s cs with
  | some (x,cs')=>match cz hp n r cs' with
   | some y=>some (x,y)
   | none=>none
  | none=>none
 | n,.nil::r,.nils::cs=>cz hp n r cs
 | n,.vec e::r,.vec id::cs=>if id=n then match hp id with
   | .vec e' l=>if h:e'=e then match cz hp (n+1) r cs with
     | some y=>some (h▸l,y)
     | none=>none
    else none
   | _=>none
  else none
 | _,_,_=>none

section
variable {w:World} {U:Nat→Prop} {ρ:Nat→Option Value}

theorem cK.app {a b:List AV} {va vb:List Value} (h1:cK w U ρ a va) (h2:cK w U ρ b vb):cK w U ρ (a++b) (va++vb) where
 len:=by simp [h1.len,h2.len]
 rv:=by
  intro j c v hc hv
  by_cases hj:j < a.length
  ·rw [kd hj] at hc
   rw [kd (by rw [← h1.len]; exact hj)] at hv
   exact h1.rv j c v hc hv
  ·rw [lw (by omega)] at hc
   rw [lw (by rw [← h1.len]; omega),← h1.len] at hv
   exact h2.rv _ c v hc hv

theorem cK.tail {a:AV} {l:List AV} {v:Value} {vs:List Value} (h:cK w U ρ (a::l) (v::vs)):cK w U ρ l vs:=
 ⟨by have:=h.len; simpa using this,fun j c x hc hx=>h.rv (j+1) c x (by simpa using hc) (by simpa using hx)⟩

theorem cK.consH {a:AV} {l:List AV} {v:Value} {vs:List Value} (h1:Rv w U ρ a v) (h2:cK w U ρ l vs):cK w U ρ (a::l) (v::vs) where
 len:=by simp [h2.len]
 rv:=by
  intro j c x hc hx
  cases j with
  | zero=>simp at hc hx; subst hc; subst hx; exact h1
  | succ j=>exact h2.rv j c x (by simpa using hc) (by simpa using hx)

theorem eJ {hp:Nat→AO}:∀ (ps:List CP) (n:Nat) (cs:List AV) (y:zu ps) (vals:List Value),cz hp n ps cs=some y→cK w U ρ cs vals→
  cK w U ρ (fU n ps y) vals∧∀ (j:Nat) o,(fV ps y)[j]?=some o→hp (n+j)=o
 | [],n,[],y,vals,h,hr=>⟨hr,by simp [fV]⟩
 | [],n,_::_,y,vals,h,hr=>by simp [cz] at h
 | .d s::r,n,cs,y,vals,h,hr=>by
  unfold cz at h
  split at h
  ·rename_i x cs' hi
   split at h
   ·rename_i y' hy
    cases h
    have hk:=gQ (w:=w) (U:=U) (U':=U) (ρ:=ρ) (hp:=fun _=>.dead) (fun _ h=>h) s cs x cs' (fun j=>vals.getD j undef) hi
     (fun j c hc=>by
      have hlt:j < vals.length:=by rw [← hr.len]; exact (bR.1 hc).1
      have:=hr.rv j c vals[j] hc (zJ hlt)
      simpa [getD,zJ hlt] using this)
     (fun id _=>⟨trivial,fun b hb=>by simp [zP,AO.owns] at hb⟩)
    obtain ⟨k1,k2,k3⟩:=hk
    have hdrop:cK w U ρ cs' (vals.drop s.size):=by
     refine ⟨by rw [k2]; simp [hr.len],fun j c v hc hv=>?_⟩
     rw [k2,jO] at hc
     rw [jO] at hv
     exact hr.rv _ c v hc hv
    obtain ⟨i1,i2⟩:=eJ r n cs' y' (vals.drop s.size) hy hdrop
    refine ⟨?_,i2⟩
    have htake:cK w U ρ (zn s x) (vals.take s.size):=by
     refine ⟨by rw [zN]; have:=hr.len; simp; omega,fun j c v hc hv=>?_⟩
     have hj:j < s.size:=by rw [← zN s x]; exact (bR.1 hc).1
     rw [uC,if_pos hj] at hv
     have:=k3 j c hc
     simpa [getD,hv] using this
    have:=htake.app i1
    rw [List.take_append_drop] at this
    exact this
   ·cases h
  ·cases h
 | .nil::r,n,.nils::cs,y,vals,h,hr=>by
  match vals,hr with
  | [],hr=>have:=hr.len; simp at this
  | v::vs,hr=>
   have hv:=hr.rv 0 _ v rfl rfl
   obtain ⟨i1,i2⟩:=eJ r n cs y vs h hr.tail
   exact ⟨cK.consH hv i1,i2⟩
 | .vec e::r,n,.vec id::cs,y,vals,h,hr=>by
  match vals,hr with
  | [],hr=>have:=hr.len; simp at this
  | v :: vs,hr=>
   have hv:=hr.rv 0 _ v rfl rfl
   unfold cz at h
   split at h
   ·rename_i hid
    subst hid
    split at h
    ·rename_i e' l ho
     split at h
     ·rename_i he
      subst he
      split at h
      ·rename_i y' hy
       cases h
       obtain ⟨i1,i2⟩:=eJ r (id+1) cs y' vs hy hr.tail
       refine ⟨cK.consH hv i1,fun j o hj=>?_⟩
       cases j with
       | zero=>simp [fV] at hj; subst hj; exact ho
       | succ j=>
        have:=i2 j o (by simpa [fV] using hj)
        rw [← this]
        congr 1
        omega
      ·cases h
     ·cases h
    ·cases h
   ·cases h
 | .nil::_,_,[],_,_,h,_=>by simp [cz] at h
 | .vec _::_,_,[],_,_,h,_=>by simp [cz] at h
 | .nil::_,_,.any::_,_,_,h,_ | .nil::_,_,.kb _::_,_,_,h,_ | .nil::_,_,.bool _::_,_,_,h,_ | .nil::_,_,.int _ _::_,_,_,h,_ | .nil::_,_,.str _::_,_,_,h,_
 | .nil::_,_,.sl _ _::_,_,_,h,_ | .nil::_,_,.vec _::_,_,_,h,_ | .nil::_,_,.ptr _ _::_,_,_,h,_ | .nil::_,_,.vptr _ _ _ _::_,_,_,h,_ | .nil::_,_,.eptr _ _::_,_,_,h,_
 | .nil::_,_,.nilp::_,_,_,h,_ | .nil::_,_,.agg _::_,_,_,h,_ | .nil::_,_,.tup _::_,_,_,h,_ | .nil::_,_,.clo _ _ _::_,_,_,h,_ | .nil::_,_,.nilf::_,_,_,h,_
 | .nil::_,_,.mp _::_,_,_,h,_ | .nil::_,_,.ifc _::_,_,_,h,_ | .nil::_,_,.tab _ _::_,_,_,h,_ | .nil::_,_,.gint::_,_,_,h,_ | .nil::_,_,.vsuf _ _ _::_,_,_,h,_=>by simp [cz] at h
 | .vec _::_,_,.any::_,_,_,h,_ | .vec _::_,_,.kb _::_,_,_,h,_ | .vec _::_,_,.bool _::_,_,_,h,_ | .vec _::_,_,.int _ _::_,_,_,h,_ | .vec _::_,_,.str _::_,_,_,h,_
 | .vec _::_,_,.sl _ _::_,_,_,h,_ | .vec _::_,_,.nils::_,_,_,h,_ | .vec _::_,_,.ptr _ _::_,_,_,h,_ | .vec _::_,_,.vptr _ _ _ _::_,_,_,h,_ | .vec _::_,_,.eptr _ _::_,_,_,h,_
 | .vec _::_,_,.nilp::_,_,_,h,_ | .vec _::_,_,.agg _::_,_,_,h,_ | .vec _::_,_,.tup _::_,_,_,h,_ | .vec _::_,_,.clo _ _ _::_,_,_,h,_ | .vec _::_,_,.nilf::_,_,_,h,_
 | .vec _::_,_,.mp _::_,_,_,h,_ | .vec _::_,_,.ifc _::_,_,_,h,_ | .vec _::_,_,.tab _ _::_,_,_,h,_ | .vec _::_,_,.gint::_,_,_,h,_ | .vec _::_,_,.vsuf _ _ _::_,_,_,h,_=>by simp [cz] at h
end

theorem hJ.box {C:cI} {w:World} {U:Nat→Prop} {ρ:Nat→Option Value} {cs:List AV} {os:List AO} {ps:List CP} {y:zu ps} (hH:hJ C w U ρ (fun j=>((AO.box cs::os).getD j .dead))) (hl:os.length=aF ps)
  (hm:cz (iT (.box cs::os)) 1 ps cs=some y):hJ C w U ρ (fun j=>(cj ps y).getD j .dead):=by
 have h0:bg w U ρ 0 (.box cs):=hH.ob 0
 obtain ⟨b,T,vals,h1,h2,h3,h4,h5⟩:=h0
 obtain ⟨k1,k2⟩:=eJ ps 1 cs y vals.toList hm h4
 have hobj:∀ id,id≠0→(cj ps y).getD id .dead=(AO.box cs::os).getD id .dead:=by
  intro id hid
  obtain ⟨j,rfl⟩:∃ j,id=j+1:=⟨id - 1,by omega⟩
  by_cases hj:j < (fV ps y).length
  ·have:=k2 j _ (zJ hj)
   unfold cj
   simp only [yE]
   rw [aH,zJ hj]
   simp only [iT,oB 1 j,yE] at this
   simpa using this.symm
  ·have h7:os.length≤j:=by rw [bE] at hj; omega
   unfold cj
   simp only [yE]
   rw [aH,aH,dg (by omega),dg h7]
 have hown:∀ id b,zP ρ id ((cj ps y).getD id .dead) b→zP ρ id ((AO.box cs::os).getD id .dead) b:=by
  intro id b' ho
  by_cases hid:id=0
  ·subst hid
   obtain ⟨_,v,hv,hb⟩:=ho
   exact ⟨rfl,v,hv,hb⟩
  ·rw [hobj id hid] at ho; exact ho
 refine ⟨fun id=>?_,fun id1 id2 b' o1 o2=>hH.inj id1 id2 b' (hown _ _ o1) (hown _ _ o2),fun id b' o=>hH.blk id b' (hown _ _ o)⟩
 by_cases hid:id=0
 ·subst hid
  exact ⟨b,T,vals,h1,h2,h3,k1,h5⟩
 ·show bg w U ρ id ((cj ps y).getD id .dead)
  rw [hobj id hid]
  exact hH.ob id

def Bf (ps:List CP) (outs:List Sh) (r:AV) (h:List AO):Option (zx (outs.map some)×zu ps):=match h with
 | .box cs::os=>if os.length=aF ps then match ah [] outs r,cz (iT (.box cs::os)) 1 ps cs with
   | some a,some y=>some (a,y)
   | _,_=>none
  else none
 | _=>none

def zct (ps:List CP) (ks outs:List Sh) (ps':List CP) (c:zu ps→zx (ks.map some)→Bool) (g:zu ps→zx (ks.map some)→zx (outs.map some)×zu ps'):cG (none::ks.map some):=fun x h=>match x.1,h with
 | .ptr 0 0,.box cs::os=>if os.length=aF ps then match cz (iT (.box cs::os)) 1 ps cs with
   | some y=>.chk (c y x.2) (.ok (s6 outs (g y x.2).1,cj ps' (g y x.2).2))
   | none=>.err
  else .err
 | _,_=>.err

def xY (ps:List CP) (ks outs:List Sh) (ps':List CP) (c:zu ps→zx (ks.map some)→Bool) (g:zu ps→zx (ks.map some)→zx (outs.map some)×zu ps'):zF:=zU (none::ks.map some) (zct ps ks outs ps' c g)

theorem oE (ps:List CP) (y:zu ps):(cj ps y).length=aF ps+1:=by
 simp [cj,bE]

theorem AN {w:World} {U:Nat→Prop} {ρ:Nat→Option Value} {outs:List Sh} {r:AV} {y:zx (outs.map some)} {v:Value} (h:ah [] outs r=some y) (hr:Rv w U ρ r v):Rv w U ρ (s6 outs y) v:=by
 have hob:∀ id,bg w U ρ id (iT [] id)∧∀ b,zP ρ id (iT [] id) b→¬ U b:=fun id=>⟨by simp [iT,bg],fun b hb=>by simp [iT,zP,AO.owns] at hb⟩
 have htup:∀ (outs:List Sh) (y:zx (outs.map some)) (rs:List AV),j0 (iT []) (fun i=>i) (outs.map some) rs=some y→Rv w U ρ (.tup rs) v→Rv w U ρ (.tup (gD (outs.map some) y)) v:=by
  intro outs y rs hy hrv
  cases hrv with
  | tup _ vs hl hr2=>
  have:=(iv (w:=w) (U:=U) (ρ:=ρ) (U':=U) (ρ':=ρ) (hp:=iT []) (f:=fun i=>i) (fun b hb=>hb) (outs.map some) rs vs _ (m6 outs rs y hy) ⟨hl,hr2⟩ (fun id _=>hob id)
   (fun id _=>rfl)).1
  simp only [sA,sw,zH,if_false,List.map_id'] at this
  exact .tup _ vs this.len this.rv
 match outs,y,h with
 | [s],y,h=>
  simp only [ah] at h
  split at h
  ·rename_i x hx
   cases h
   exact u4 hx hr (fun b hb=>hb) (fun id _=>hob id)
  ·cases h
 | [],y,h=>
  simp only [ah] at h
  cases r with
  | tup rs=>exact htup [] y _ h hr
  | _=>cases h
 | s1::s2::ss,y,h=>
  simp only [ah] at h
  cases r with
  | tup rs=>exact htup _ y _ h hr
  | _=>cases h

theorem PW {P:Program} {gl:Nat→AV} {E:bx} {k:FuncId} {f:Func} {ps:List CP} {ks outs:List Sh} {ps':List CP} {c:zu ps→zx (ks.map some)→Bool} {g:zu ps→zx (ks.map some)→zx (outs.map some)×zu ps'} (hf:zA E.P k f (ks.length+1))
  (h:∀ y x,c y x=true→∀ C:cI,(∀ id,aF ps+1≤id→C.ρ0 id=none)→Reach E C k (aC f) (ar f.ntmps (.ptr 0 0::gD (ks.map some) x) (cj ps y)) (fun r h=>Bf ps' outs r h=some (g y x))) (qp:E.P=P:=by rfl) (qg:E.gl=gl:=by rfl):
  mv P gl k (xY ps ks outs ps' c g):=by
 subst qp qg
 refine bC (by simpa using hf) fun x h0 res hx C hC=>?_
 obtain ⟨x0,x⟩:=x
 unfold zct at hx
 simp only at hx
 split at hx
 ·rename_i cs os
  split at hx
  ·rename_i hos
   split at hx
   ·rename_i y hy
    simp only [Tr.val] at hx
    split at hx
    ·rename_i hc
     simp only [ap] at hx
     subst hx
     have hR:=h y x hc C (fun id hid=>hC id (by simpa [hos] using hid))
     intro b cs' a w U ρ h1 h2 hcn hW
     have hH:hJ C w U ρ (fun j=>((AO.box cs::os).getD j .dead)):=hcn.hp
     have hcn':Cn C (ar f.ntmps (.ptr 0 0::gD (ks.map some) x) (cj ps y)) a w U ρ:=
      ⟨hcn.tm,hH.box hos hy,fun id hid=>hcn.new id (by have hid:(cj ps y).length≤id:=hid; rw [oE] at hid; simpa [ar,hos] using hid),hcn.df,hcn.r0⟩
     obtain ⟨e,w',fr,⟨v,r,h',U',ρ',he,hq,hrv,hH',hnew,hr0,hWd⟩,hcm,hf',hl⟩:=hR b cs' a w U ρ h1 h2 hcn' hW
     unfold Bf at hq
     split at hq
     ·rename_i cs2 os2
      split at hq
      ·rename_i hos2
       split at hq
       ·rename_i a' y' ha' hy'
        simp only [ap] at hq
        refine ⟨e,w',fr,⟨v,_,_,U',ρ',he,by rw [← hq],AN ha' hrv,hH'.box hos2 hy',fun id hid=>hnew id (by rw [oE] at hid; simpa [hos2] using hid),hr0,hWd⟩,hcm,hf',hl⟩
       ·cases hq
      ·cases hq
     ·cases hq
    ·simp at hx
   ·simp at hx
  ·simp at hx
 ·simp at hx


def qd (E:bx) (n0:Nat) (keep:Nat→aj) (f:Func) (gas:Nat):Nat→List Item→St→Option (AV×List AO)
 | 0,_,_=>none
 | n+1,K,st=>match (run E n0 keep f.results.toList gas K st).val with
  | some (.ret v h)=>some (v,h)
  | some (.head _ K' st')=>qd E n0 keep f gas n K' st'
  | _=>none

theorem kQ {E:bx} {C:cI} {k:FuncId} {f:Func} {Q:AV→List AO→Prop} {m n0:Nat} (hE:zl E) (hf:zA E.P k f m) (hC:∀ id,n0≤id→C.ρ0 id=none) {keep:Nat→aj} {gas:Nat}:
  ∀ (n:Nat) (K:List Item) (st:St) (r:AV×List AO),qd E n0 keep f gas n K st=some r→Q r.1 r.2→Reach E C k K st Q
 | 0,_,_,_,h,_=>by cases h
 | n+1,K,st,r,h,hQ=>by
  unfold qd at h
  split at h
  ·rename_i v h' hv
   cases h
   exact n5 hE hf hC hv hQ
  ·rename_i j K' st' hv
   exact n5 hE hf hC hv (kQ hE hf hC n K' st' r h hQ)
  ·cases h

def cq:(outs:List Sh)→zx (outs.map some)
 | []=>()
 | s::r=>(zj s,cq r)

def fX:(ps:List CP)→zu ps
 | []=>()
 | .d s::r=>(zj s,fX r)
 | .nil::r=>fX r
 | .vec _::r=>([],fX r)

def bK:List Nat→(ps:List CP)→zu ps→List AV
 | _,[],_=>[]
 | n,.d s::r,y=>zn s y.1++bK n r y.2
 | n,.nil::r,y=>.nils::bK n r y
 | n,.vec _::r,y=>.vec (n.headD 0)::bK n.tail r y.2

def Tm (E:bx) (keep:Nat→aj) (f:Func) (gas n:Nat) (ks outs:List Sh) (x:zx (ks.map some)):Option (zx (outs.map some)):=
 (qd E 0 keep f gas n (aC f) (ar f.ntmps (gD (ks.map some) x) [])).bind fun r=>ah r.2 outs r.1

def Yt (ks outs:List Sh) (g:zx (ks.map some)→Option (zx (outs.map some))):zF:=zG ks outs (fun x=>(g x).isSome) fun x=>(g x).getD (cq outs)

theorem VZ {P:Program} {gl:Nat→AV} {E:bx} {k:FuncId} {f:Func} {ks outs:List Sh} {keep:Nat→aj} {gas n:Nat} (hE:zl E) (hf:zA E.P k f ks.length) (qp:E.P=P:=by rfl) (qg:E.gl=gl:=by rfl):mv P gl k (Yt ks outs (Tm E keep f gas n ks outs)):=by
 subst qp qg
 refine zR hf fun x hc C hC=>?_
 rw [Option.isSome_iff_exists] at hc
 obtain ⟨y,hy⟩:=hc
 rw [hy]
 unfold Tm at hy
 rw [fa] at hy
 obtain ⟨r,h1,h2⟩:=hy
 exact kQ hE hf (fun id _=>hC id) n _ _ r h1 h2

def Tl (E:bx) (keep:Nat→aj) (f:Func) (gas n:Nat) (ps:List CP) (ks outs:List Sh) (ps':List CP) (y:zu ps) (x:zx (ks.map some)):Option (zx (outs.map some)×zu ps'):=
 (qd E (aF ps+1) keep f gas n (aC f) (ar f.ntmps (.ptr 0 0::gD (ks.map some) x) (cj ps y))).bind fun r=>Bf ps' outs r.1 r.2

def zgz (ps:List CP) (ks outs:List Sh) (ps':List CP) (g:zu ps→zx (ks.map some)→Option (zx (outs.map some)×zu ps')):zF:=
 xY ps ks outs ps' (fun y x=>(g y x).isSome) fun y x=>(g y x).getD (cq outs,fX ps')

theorem PX {P:Program} {gl:Nat→AV} {E:bx} {k:FuncId} {f:Func} {ps:List CP} {ks outs:List Sh} {ps':List CP} {keep:Nat→aj} {gas n:Nat} (hE:zl E) (hf:zA E.P k f (ks.length+1)) (qp:E.P=P:=by rfl) (qg:E.gl=gl:=by rfl):mv P gl k (zgz ps ks outs ps' (Tl E keep f gas n ps ks outs ps')):=by
 subst qp qg
 refine PW hf fun y x hc C hC=>?_
 rw [Option.isSome_iff_exists] at hc
 obtain ⟨z,hz⟩:=hc
 rw [hz]
 unfold Tl at hz
 rw [fa] at hz
 obtain ⟨r,h1,h2⟩:=hz
 exact kQ hE hf hC n _ _ r h1 h2

theorem PY {P:Program} {gl:Nat→AV} {E:bx} {k:FuncId} {f:Func} {ks outs:List Sh} {keep:Nat→aj} {gas n:Nat} {c:zx (ks.map some)→Bool} {g:zx (ks.map some)→zx (outs.map some)} (hE:zl E) (hf:zA E.P k f ks.length)
  (hc:∀ x,c x=(Tm E keep f gas n ks outs x).isSome) (hg:∀ x,g x=(Tm E keep f gas n ks outs x).getD (cq outs)) (qp:E.P=P:=by rfl) (qg:E.gl=gl:=by rfl):mv P gl k (zG ks outs c g):=by
 subst qp qg
 obtain rfl:c=fun x=>(Tm E keep f gas n ks outs x).isSome:=funext hc
 obtain rfl:g=fun x=>(Tm E keep f gas n ks outs x).getD (cq outs):=funext hg
 exact VZ hE hf

theorem KM {P:Program} {gl:Nat→AV} {E:bx} {k:FuncId} {f:Func} {ps:List CP} {ks outs:List Sh} {ps':List CP} {keep:Nat→aj} {gas n:Nat} {c:zu ps→zx (ks.map some)→Bool} {g:zu ps→zx (ks.map some)→zx (outs.map some)×zu ps'} (hE:zl E) (hf:zA E.P k f (ks.length+1))
  (hc:∀ y x,c y x=(Tl E keep f gas n ps ks outs ps' y x).isSome) (hg:∀ y x,g y x=(Tl E keep f gas n ps ks outs ps' y x).getD (cq outs,fX ps')) (qp:E.P=P:=by rfl) (qg:E.gl=gl:=by rfl):mv P gl k (xY ps ks outs ps' c g):=by
 subst qp qg
 obtain rfl:c=fun y x=>(Tl E keep f gas n ps ks outs ps' y x).isSome:=funext fun y=>funext fun x=>hc y x
 obtain rfl:g=fun y x=>(Tl E keep f gas n ps ks outs ps' y x).getD (cq outs,fX ps'):=funext fun y=>funext fun x=>hg y x
 exact PX hE hf

abbrev ao:=AV×List AO

def Tr.map {α β:Type} (f:α→β):Tr α→Tr β
 | .err=>.err
 | .chk c t=>.chk c (t.map f)
 | .br c t e=>.br c (t.map f) (e.map f)
 | .ok a=>.ok (f a)

theorem Tr.val_map {α β:Type} (f:α→β):∀ t:Tr α,(t.map f).val=t.val.map f
 | .err=>rfl
 | .chk c t=>by simp only [Tr.map,Tr.val,val_map f t]; split <;> rfl
 | .br c t e=>by simp only [Tr.map,Tr.val,val_map f t,val_map f e]; split <;> rfl
 | .ok _=>rfl

abbrev Tr.to {σ:Type} (s:σ):Tr (σ ⊕ ao):=.ok (.inl s)
abbrev Tr.re {σ:Type} (v:AV) (h:List AO):Tr (σ ⊕ ao):=.ok (.inr (v,h))

def bw {σ:Type} (t:σ→Tr (σ ⊕ ao)):Nat→σ→Option ao
 | 0,_=>none
 | n+1,s=>match (t s).val with
  | some (.inl s')=>bw t n s'
  | some (.inr r)=>some r
  | none=>none

def bl {σ:Type} (t:σ→Tr (σ ⊕ ao)) (n:Nat) (i:Tr (σ ⊕ ao)):Option ao:=match i.val with
 | some (.inl s)=>bw t n s
 | some (.inr r)=>some r
 | none=>none

def lf {σ:Type} (f:Func) (e:σ→Nat×St):σ ⊕ ao→zt
 | .inl s=>.head (e s).1 (zy f (e s).1) (e s).2
 | .inr r=>.ret r.1 r.2

def e0:Empty→Nat×St:=fun x=>nomatch x
def t0:Empty→Tr (Empty ⊕ ao):=fun x=>nomatch x

section
variable {σ:Type} {E:bx} {n0:Nat} {keep:Nat→aj} {f:Func} {gas:Nat} {e:σ→Nat×St} {t:σ→Tr (σ ⊕ ao)}

theorem HT (hon:∀ s,run E n0 keep f.results.toList gas (zy f (e s).1) (e s).2=(t s).map (lf f e)):∀ (n:Nat) (s:σ),qd E n0 keep f gas n (zy f (e s).1) (e s).2=bw t n s
 | 0,_=>rfl
 | n+1,s=>by
  rw [qd,hon s,Tr.val_map,bw]
  cases (t s).val with
  | none=>rfl
  | some l=>
   cases l with
   | inl s'=>exact HT hon n s'
   | inr r=>rfl

theorem jB (hon:∀ s,run E n0 keep f.results.toList gas (zy f (e s).1) (e s).2=(t s).map (lf f e)) {K:List Item} {st:St} {i:Tr (σ ⊕ ao)} (hgo:run E n0 keep f.results.toList gas K st=i.map (lf f e)) (n:Nat):qd E n0 keep f gas (n+1) K st=bl t n i:=by
 rw [qd,hgo,Tr.val_map,bl]
 cases i.val with
 | none=>rfl
 | some l=>
  cases l with
  | inl s=>exact HT hon n s
  | inr r=>rfl
end

def zW {σ:Type} (outs:List Sh) (t:σ→Tr (σ ⊕ ao)) (n:Nat) (i:Tr (σ ⊕ ao)):Option (zx (outs.map some)):=(bl t n i).bind fun r=>ah r.2 outs r.1

theorem jq {P:Program} {gl:Nat→AV} {σ:Type} {E:bx} {k:FuncId} {f:Func} {ks outs:List Sh} {keep:Nat→aj} {gas n:Nat} {e:σ→Nat×St} {t:σ→Tr (σ ⊕ ao)} {i:zx (ks.map some)→Tr (σ ⊕ ao)} {c:zx (ks.map some)→Bool} {g:zx (ks.map some)→zx (outs.map some)}
  (hE:zl E) (hf:zA E.P k f ks.length) (hgo:∀ x,run E 0 keep f.results.toList gas (aC f) (ar f.ntmps (gD (ks.map some) x) [])=(i x).map (lf f e))
  (hon:∀ s,run E 0 keep f.results.toList gas (zy f (e s).1) (e s).2=(t s).map (lf f e))
  (hc:∀ x,c x=(zW outs t n (i x)).isSome) (hg:∀ x,g x=(zW outs t n (i x)).getD (cq outs)) (qp:E.P=P:=by rfl) (qg:E.gl=gl:=by rfl):mv P gl k (zG ks outs c g):=by
 subst qp qg
 have h:∀ x,Tm E keep f gas (n+1) ks outs x=zW outs t n (i x):=by
  intro x
  unfold Tm zW
  rw [jB hon (hgo x)]
 exact PY (n:=n+1) hE hf (fun x=>by rw [h,hc]) (fun x=>by rw [h,hg])

abbrev k0:Nat→aj:=fun _=>{ }
abbrev mn:List (Nat×List Nat)→Nat→aj
 | [],_=>{ }
 | p::r,j=>if j=p.1 then { slots:=p.2 } else mn r j
def o1 {a:Sh} (o:Option (zx [some a])):Sem a:=(o.getD (cq [a])).1
def o2 {a b:Sh} (o:Option (zx [some a,some b])):Sem a×Sem b:=((o.getD (cq [a,b])).1,(o.getD (cq [a,b])).2.1)
def o3 {a b c:Sh} (o:Option (zx [some a,some b,some c])):Sem a×Sem b×Sem c:=((o.getD (cq [a,b,c])).1,(o.getD (cq [a,b,c])).2.1,(o.getD (cq [a,b,c])).2.2.1)
def FT (ks outs:List Sh) (o:zx (ks.map some)→Option (zx (outs.map some))):zF:=zG ks outs (fun x=>(o x).isSome) fun x=>(o x).getD (cq outs)
theorem zl.T1 {P:Program} {gl:Nat→AV} {σ:Type} {E:bx} {k:FuncId} {f:Func} {ks outs:List Sh} {keep:Nat→aj} {n:Nat} {e:σ→Nat×St} {t:σ→Tr (σ ⊕ ao)} {i:zx (ks.map some)→Tr (σ ⊕ ao)} (hE:zl E) (gas:Nat:=400)
  (hf:(E.P.funcs[k]?,f.name == "runtime.NumGoroutine",f.body.isNone,decide (ks.length≤f.ntmps))=(some f,false,false,true):=by kernel_rfl)
  (hgo:∀ x,run E 0 keep f.results.toList gas (aC f) (ar f.ntmps (gD (ks.map some) x) [])=(i x).map (lf f e):=by intro x; kernel_rfl)
  (hon:∀ s,run E 0 keep f.results.toList gas (zy f (e s).1) (e s).2=(t s).map (lf f e):=by intro s; cases s <;> kernel_rfl) (qp:E.P=P:=by rfl) (qg:E.gl=gl:=by rfl):mv P gl k (FT ks outs fun x=>zW outs t n (i x)):=by
 subst qp qg
 exact jq hE (aS hf) hgo hon (fun _=>rfl) fun _=>rfl

theorem Kw (E:bx) (n0:Nat) (keep:Nat→aj) (f:Func) (gas:Nat):∀ s,run E n0 keep f.results.toList gas (zy f (e0 s).1) (e0 s).2=(t0 s).map (lf f e0):=fun s=>nomatch s

def yj {σ:Type} (outs:List Sh) (ps':List CP) (t:σ→Tr (σ ⊕ ao)) (n:Nat) (i:Tr (σ ⊕ ao)):Option (zx (outs.map some)×zu ps'):=(bl t n i).bind fun r=>Bf ps' outs r.1 r.2

theorem qZ {P:Program} {gl:Nat→AV} {σ:Type} {E:bx} {k:FuncId} {f:Func} {ps:List CP} {ks outs:List Sh} {ps':List CP} {keep:Nat→aj} {gas n:Nat} {e:σ→Nat×St} {t:σ→Tr (σ ⊕ ao)} {i:zu ps→zx (ks.map some)→Tr (σ ⊕ ao)} {c:zu ps→zx (ks.map some)→Bool} {g:zu ps→zx (ks.map some)→zx (outs.map some)×zu ps'}
  (hE:zl E) (hf:zA E.P k f (ks.length+1)) (hgo:∀ y x,run E (aF ps+1) keep f.results.toList gas (aC f) (ar f.ntmps (.ptr 0 0::gD (ks.map some) x) (cj ps y))=(i y x).map (lf f e))
  (hon:∀ s,run E (aF ps+1) keep f.results.toList gas (zy f (e s).1) (e s).2=(t s).map (lf f e))
  (hc:∀ y x,c y x=(yj outs ps' t n (i y x)).isSome) (hg:∀ y x,g y x=(yj outs ps' t n (i y x)).getD (cq outs,fX ps')) (qp:E.P=P:=by rfl) (qg:E.gl=gl:=by rfl):mv P gl k (xY ps ks outs ps' c g):=by
 subst qp qg
 have h:∀ y x,Tl E keep f gas (n+1) ps ks outs ps' y x=yj outs ps' t n (i y x):=by
  intro y x
  unfold Tl yj
  rw [jB hon (hgo y x)]
 exact KM (n:=n+1) hE hf (fun y x=>by rw [h,hc]) (fun y x=>by rw [h,hg])


section
variable {σ:Type} {t:σ→Tr (σ ⊕ ao)}

theorem kS {β:Type} (N:Nat) (st:β→Nat→σ) (I:β→Nat→Prop) (Φ:ao→Prop) (M:Nat)
  (hstep:∀ b i,i < N→I b i→(∃ b',I b' (i+1)∧(t (st b i)).val=some (.inl (st b' (i+1))))∨∃ r,(t (st b i)).val=some (.inr r)∧Φ r)
  (hend:∀ b n,I b N→M≤n→∃ r,bw t n (st b N)=some r∧Φ r):
  ∀ (m i:Nat) (b:β) (n:Nat),N - i=m→i≤N→I b i→M+m≤n→∃ r,bw t n (st b i)=some r∧Φ r
 | 0,i,b,n,hm,hi,hI,hn=>by
  obtain rfl:i=N:=by omega
  exact hend b n hI (by omega)
 | m+1,i,b,n,hm,hi,hI,hn=>by
  obtain ⟨n,rfl⟩:∃ k,n=k+1:=⟨n - 1,by omega⟩
  rcases hstep b i (by omega) hI with ⟨b',hI',h⟩ | ⟨r,h1,h2⟩
  ·obtain ⟨r,h1,h2⟩:=kS N st I Φ M hstep hend m (i+1) b' n (by omega) (by omega) hI' (by omega)
   exact ⟨r,by rw [bw,h]; exact h1,h2⟩
  ·exact ⟨r,by rw [bw,h1],h2⟩

theorem kR {n:Nat} {s:σ}:bw t (n+1) s=match (t s).val with
  | some (.inl s')=>bw t n s'
  | some (.inr r)=>some r
  | none=>none:=rfl
end


abbrev MV:Nat→aj:=fun _=>{ }
theorem XU:zA yX.P 89 Tryz.f89 1:=aS (by kernel_rfl)
def dF (x0:Sem zo) (_:ze) (_:ze) (_:Sem aN.sl×Sem (Sh.expr.pr Sh.str)) (_:Sem zf.sl×Sem (aN.sl.pr (Sh.expr.pr Sh.str))) (_:Sem Sh.str×Sem (Sh.str.sl.pr (zi.sl.pr (Sh.str.pr (Sh.str.sl.pr (bJ.sl.pr (Sh.expr.pr (zf.sl.pr (aN.sl.pr (Sh.expr.pr Sh.str)))))))))) (a5:Bool) (_:Sem Sh.expr×Sem (zf.sl.pr (aN.sl.pr (Sh.expr.pr Sh.str)))) (a7:Sem Sh.str×Sem (Sh.str.pr (Sh.str.pr (Sh.str.sl.pr (zi.sl.pr (Sh.str.pr (Sh.str.sl.pr (bJ.sl.pr (Sh.expr.pr (zf.sl.pr (aN.sl.pr (Sh.expr.pr Sh.str)))))))))))) (a8:Sem Sh.str×Sem (Sh.str.pr (Sh.str.pr (Sh.str.sl.pr (zi.sl.pr (Sh.str.pr (Sh.str.sl.pr (bJ.sl.pr (Sh.expr.pr (zf.sl.pr (aN.sl.pr (Sh.expr.pr Sh.str)))))))))))) (_:Int) (_:Int) (a11:Bool) (a12:Sem Sh.str×Sem (Sh.str.pr (Sh.str.pr (Sh.str.sl.pr (zi.sl.pr (Sh.str.pr (Sh.str.sl.pr (bJ.sl.pr (Sh.expr.pr (zf.sl.pr (aN.sl.pr (Sh.expr.pr Sh.str)))))))))))) (_:Int) (_:Int) (_:Sem Sh.bool) (a16:Bool) (_:Sem Sh.expr×Sem Sh.str) (a18:Sem Sh.str×Sem (Sh.str.pr (Sh.str.pr (Sh.str.sl.pr (zi.sl.pr (Sh.str.pr (Sh.str.sl.pr (bJ.sl.pr (Sh.expr.pr (zf.sl.pr (aN.sl.pr (Sh.expr.pr Sh.str)))))))))))) (a19:Bool) (a20:Sem Sh.str×Sem (Sh.str.pr (Sh.str.pr (Sh.str.sl.pr (zi.sl.pr (Sh.str.pr (Sh.str.sl.pr (bJ.sl.pr (Sh.expr.pr (zf.sl.pr (aN.sl.pr (Sh.expr.pr Sh.str)))))))))))) (_:Sem Sh.bool) (a22:Bool) (_:Sem zf.sl×Sem (aN.sl.pr (Sh.expr.pr Sh.str))) (a24:Sem Sh.str×Sem (Sh.str.pr (Sh.str.pr (Sh.str.sl.pr (zi.sl.pr (Sh.str.pr (Sh.str.sl.pr (bJ.sl.pr (Sh.expr.pr (zf.sl.pr (aN.sl.pr (Sh.expr.pr Sh.str)))))))))))) (_:Sem Sh.bool) (_:Int) (_:Int) (_:Sem Sh.bool) (_:Bool) (a30:Bool) (_:Sem Sh.str×Sem (Sh.str.pr (Sh.str.pr (Sh.str.sl.pr (zi.sl.pr (Sh.str.pr (Sh.str.sl.pr (bJ.sl.pr (Sh.expr.pr (zf.sl.pr (aN.sl.pr (Sh.expr.pr Sh.str)))))))))))) (a32:Bool) (a33:Sem Sh.bool) (a34:Bool) (a35:Sem Sh.str×Sem (Sh.str.pr (Sh.str.pr (Sh.str.sl.pr (zi.sl.pr (Sh.str.pr (Sh.str.sl.pr (bJ.sl.pr (Sh.expr.pr (zf.sl.pr (aN.sl.pr (Sh.expr.pr Sh.str)))))))))))) (a36:Bool):Tr (Empty ⊕ ao):=
 Tr.br (x0.1==[99,114,101,97,116,101]) (Tr.chk (bif a5 then dv a7 else true) (Tr.re (AV.bool (bif a5 then fJ a7 else false)) [])) (Tr.br (x0.1==[100,114,111,112]) (Tr.chk (bif bt x0.2.1 then dv a8 else true) (Tr.re (AV.bool (bif bt x0.2.1 then fJ a8 else false)) [])) (Tr.br (x0.1==[105,110,115,101,114,116]) (Tr.chk (bif a11 then dv a12 else true) (Tr.re (AV.bool (bif a11 then fJ a12 else false)) [])) (Tr.br (x0.1==[117,112,100,97,116,101]) (Tr.chk (bif a16 then dv a18 else true) (Tr.re (AV.bool (bif a16 then fJ a18 else false)) [])) (Tr.br (x0.1==[100,101,108,101,116,101]) (Tr.chk (bif a19 then dv a20 else true) (Tr.re (AV.bool (bif a19 then fJ a20 else false)) [])) (Tr.br (x0.1==[115,101,108,101,99,116]) (Tr.chk (bif a19 then dv a20 else true) (Tr.re (AV.bool (bif a19 then fJ a20 else false)) [])) (Tr.br (x0.1==[114,101,97,100]) (Tr.chk (bif a22 then dv a24 else true) (Tr.re (AV.bool (bif a22 then fJ a24 else false)) [])) (Tr.br (x0.1==[119,114,105,116,101]) (Tr.chk (bif a22 then dv a24 else true) (Tr.re (AV.bool (bif a22 then fJ a24 else false)) [])) (Tr.br (x0.1==[117,110,114,101,97,100]) (Tr.chk (bif a22 then dv a24 else true) (Tr.re (AV.bool (bif a22 then fJ a24 else false)) [])) (Tr.br (x0.1==[117,110,119,114,105,116,101])
 (Tr.chk (bif a22 then dv a24 else true) (Tr.re (AV.bool (bif a22 then fJ a24 else false)) [])) (Tr.br (x0.1==[99,111,112,121]) (Tr.chk (bif a30 then a32 else true) (Tr.re (AV.bool (bif a30 then a33 else false)) [])) (Tr.br (x0.1==[106,111,105,110]) (Tr.chk (bif a34 then dv a35 else true) (Tr.re (AV.bool (bif a34 then fJ a35 else false)) [])) (Tr.br (x0.1==[103,114,111,117,112]) (Tr.chk (bif a36 then a32 else true) (Tr.re (AV.bool (bif a36 then a33 else false)) [])) (Tr.re (AV.kb false) [])))))))))))))
def ew (x0:Sem zo):Tr (Empty ⊕ ao):=
 let a0:=zE x0.2.2.2.2.2.2.2.2.1
 let a1:=zE x0.2.2.2.2.2.2.2.2.2.2.2.1
 let a2:=(x0.2.2.2.2.2.2.2.2.2.2.1,a1,x0.2.2.2.2.2.2.2.2.2.2.2.2)
 let a3:=(x0.2.2.2.2.2.2.2.2.2.1,a2)
 let a4:=(x0.2.2.1,x0.2.2.2.1,x0.2.2.2.2.1,x0.2.2.2.2.2.1,x0.2.2.2.2.2.2.1,x0.2.2.2.2.2.2.2.1,a0,a3)
 let a5:=bif bt x0.2.1 then eU (x0.1,x0.2.1,a4) else false
 let a6:=(ze.mk [] (0,0,[]) [] [],a3)
 let a7:=(x0.1,[],x0.2.2.1,x0.2.2.2.1,[],[],[],[],a6)
 let a8:=(x0.1,[],a4)
 let a9:=(↑(length x0.2.2.2.2.2.2.2.2.2.1):Int)
 let a10:=zL (fun x => !gy x) x0.2.2.2.2.2.2.2.2.2.1 0
 let a11:=bif bt x0.2.1 then bif bif decide (a9 < 1) then true else decide (a9 > 12) then false else !decide (a10 ≥ 0) else false
 let a12:=(x0.1,[],x0.2.2.1,x0.2.2.2.1,x0.2.2.2.2.1,x0.2.2.2.2.2.1,x0.2.2.2.2.2.2.1,x0.2.2.2.2.2.2.2.1,a0,[],a2)
 let a13:=(↑(length x0.2.2.2.2.2.2.2.2.2.2.1):Int)
 let a14:=zL (fun x => !xx x) x0.2.2.2.2.2.2.2.2.2.2.1 0
 let a15:=o8 a1
 let a16:=bif bt x0.2.1 then bif bif decide (a13 < 1) then true else decide (a13 > 8) then false else bif !decide (a14 ≥ 0) then a15 else false else false
 let a17:=(ze.mk [] (0,0,[]) [] [],x0.2.2.2.2.2.2.2.2.2.2.2.2)
 let a18:=(x0.1,[],x0.2.2.1,x0.2.2.2.1,x0.2.2.2.2.1,x0.2.2.2.2.2.1,x0.2.2.2.2.2.2.1,x0.2.2.2.2.2.2.2.1,a0,x0.2.2.2.2.2.2.2.2.2.1,[],a17)
 let a19:=bif bt x0.2.1 then a15 else false
 let a20:=(x0.1,[],x0.2.2.1,x0.2.2.2.1,x0.2.2.2.2.1,x0.2.2.2.2.2.1,x0.2.2.2.2.2.2.1,x0.2.2.2.2.2.2.2.1,a0,x0.2.2.2.2.2.2.2.2.2.1,x0.2.2.2.2.2.2.2.2.2.2.1,a17)
 let a21:=bt x0.2.2.2.2.2.2.2.2.2.2.2.2
 let a22:=bif bt x0.2.1 then a21 else false
 let a23:=(x0.2.2.2.2.2.2.2.2.2.1,x0.2.2.2.2.2.2.2.2.2.2.1,a1,[])
 let a24:=(x0.1,[],x0.2.2.1,x0.2.2.2.1,x0.2.2.2.2.1,x0.2.2.2.2.2.1,x0.2.2.2.2.2.2.1,x0.2.2.2.2.2.2.2.1,a0,a23)
 let a25:=bt x0.2.2.1
 let a26:=(↑(length x0.2.2.2.1):Int)
 let a27:=zL (fun x => !bt x) x0.2.2.2.1 0
 let a28:=o8 a0
 let a29:=bif !decide (a27 ≥ 0) then a28 else false
 let a30:=bif bt x0.2.1 then bif a25 then bif bif decide (a26 < 1) then true else decide (a26 > 8) then false else a29 else false else false
 let a31:=(x0.1,[],[],[],x0.2.2.2.2.1,x0.2.2.2.2.2.1,x0.2.2.2.2.2.2.1,x0.2.2.2.2.2.2.2.1,a6)
 let a32:=dv a31
 let a33:=fJ a31
 let a34:=bif bt x0.2.1 then bif a25 then bif bt x0.2.2.2.2.2.1 then bif a21 then a28 else false else false else false else false
 let a35:=(x0.1,[],[],x0.2.2.2.1,x0.2.2.2.2.1,[],x0.2.2.2.2.2.2.1,x0.2.2.2.2.2.2.2.1,ze.mk [] (0,0,[]) [] [],a23)
 let a36:=bif bt x0.2.1 then bif a25 then bif bif decide (a26 < 2) then true else decide (a26 > 2) then false else a29 else false else false
 dF x0 a0 a1 a2 a3 a4 a5 a6 a7 a8 a9 a10 a11 a12 a13 a14 a15 a16 a17 a18 a19 a20 a21 a22 a23 a24 a25 a26 a27 a28 a29 a30 a31 a32 a33 a34 a35 a36
theorem WE (x0:Sem zo):rn yX 0 MV Tryz.f89 [zz zo x0] []=(ew x0).map (lf Tryz.f89 e0):=by kernel_rfl
def uf (x0:Sem zo):Option (zx (List.map some [Sh.bool])):=zW [Sh.bool] t0 100000000 (ew x0)
def j6 (x0:Sem zo):Bool:=(uf x0).isSome
def eP (x0:Sem zo):Sem Sh.bool:=(fun r:zx (List.map some [Sh.bool])=>r.1) ((uf x0).getD (cq [Sh.bool]))
def RK:zF:=zG [zo] [Sh.bool] (fun x=>j6 x.1) fun x=>(eP x.1,())
theorem Pd:FK 89 RK:=jq (ks:=[zo]) (outs:=[Sh.bool]) (keep:=MV) (gas:=400) (n:=100000000) (e:=e0) (t:=t0) (i:=fun x=>ew x.1) rB XU (fun x=>WE x.1) (Kw _ _ _ _ _) (fun _=>by kernel_rfl) (fun _=>by kernel_rfl)

abbrev MW:Nat→aj:=fun _=>{ }
theorem XV:zA yX.P 90 Tryz.f90 1:=aS (by kernel_rfl)
def wn (x0:Sem zo) (a0:Bool) (a1:zp) (a2:zp) (a3:zp) (a4:zp) (_:ze) (_:ze) (a7:Sem Sh.str×Sem (Sh.str.pr (Sh.str.pr (Sh.str.sl.pr (zi.sl.pr (Sh.str.pr (Sh.str.sl.pr (bJ.sl.pr (Sh.expr.pr (zf.sl.pr (aN.sl.pr (Sh.expr.pr Sh.str)))))))))))) (a8:zp) (a9:zp) (a10:TS) (a11:zp) (a12:zp) (a13:zp) (a14:TS) (a15:Bool) (a16:zp) (a17:TS) (a18:zp) (a19:zp) (a20:zp) (a21:zp) (a22:zp) (a23:zp) (a24:List UInt8) (a25:List UInt8) (a26:zp) (a27:zp) (a28:zp) (a29:zp) (a30:zp) (a31:zp) (a32:TS) (a33:zp) (a34:Bool) (a35:zp) (a36:TS) (a37:zp) (a38:zp) (a39:zp) (a40:zp) (a41:zp) (a42:TS) (a43:zp) (a44:zp) (a45:TS) (a46:zp):Tr (Empty ⊕ ao):=Tr.chk a0 (Tr.chk (decide ([77,73,71,82,65,84,69,32].length+(Lib.toUpperA x0.1).length≤1099511627776)) (Tr.chk (decide (length a1+[32].length≤1099511627776)) (Tr.chk (decide (length a2+length x0.2.1≤1099511627776)) (Tr.chk (decide (length a3+[32,70,82,79,77,32].length≤1099511627776)) (Tr.chk (decide (length a4+length x0.2.2.1≤1099511627776)) (Tr.br (x0.1==[99,114,101,97,116,101]) (Tr.chk (mJ a7) (Tr.re (AV.str (nD a7)) []))
 (Tr.br (x0.1==[100,114,111,112]) (Tr.chk (decide ([68,82,79,80,32,84,65,66,76,69,32].length+length x0.2.1≤1099511627776)) (Tr.re (AV.str ([68,82,79,80,32,84,65,66,76,69,32]++x0.2.1)) [])) (Tr.br (x0.1==[105,110,115,101,114,116]) (Tr.chk (decide ([73,78,83,69,82,84,32,73,78,84,79,32].length+length x0.2.1≤1099511627776)) (Tr.chk (decide (length a8+[32,86,65,76,85,69,83,32,40,32].length≤1099511627776)) (Tr.chk (lp x0.2.2.2.2.2.2.2.2.2.1) (Tr.chk (decide (length a9+length a10≤1099511627776)) (Tr.chk (decide (length a11+[32,41].length≤1099511627776)) (Tr.re (AV.str (a11++[32,41])) [])))))) (Tr.br (x0.1==[117,112,100,97,116,101]) (Tr.chk (decide ([85,80,68,65,84,69,32].length+length x0.2.1≤1099511627776)) (Tr.chk (decide (length a12+[32,83,69,84,32].length≤1099511627776)) (Tr.chk (lc x0.2.2.2.2.2.2.2.2.2.2.1) (Tr.chk (decide (length a13+length a14≤1099511627776)) (Tr.chk a15 (Tr.chk (decide (length a16+length a17≤1099511627776)) (Tr.re (AV.str (a16++a17)) []))))))) (Tr.br (x0.1==[100,101,108,101,116,101]) (Tr.chk (decide ([68,69,76,69,84,69,32,70,82,79,77,32].length+length x0.2.1≤1099511627776)) (Tr.chk a15 (Tr.chk (decide (length a18+length a17≤1099511627776)) (Tr.re (AV.str (a18++a17)) []))))
 (Tr.br (x0.1==[115,101,108,101,99,116]) (Tr.chk (decide ([83,69,76,69,67,84,32,42,32,70,82,79,77,32].length+length x0.2.1≤1099511627776)) (Tr.chk a15 (Tr.chk (decide (length a19+length a17≤1099511627776)) (Tr.re (AV.str (a19++a17)) [])))) (Tr.br (x0.1==[114,101,97,100]) (Tr.chk a0 (Tr.chk (decide ([71,82,65,78,84,32].length+(Lib.toUpperA x0.1).length≤1099511627776)) (Tr.chk (decide (length a20+[32,79,78,32].length≤1099511627776)) (Tr.chk (decide (length a21+length x0.2.1≤1099511627776)) (Tr.chk (decide (length a22+[32,84,79,32].length≤1099511627776)) (Tr.chk (decide (length a23+length x0.2.2.2.2.2.2.2.2.2.2.2.2≤1099511627776)) (Tr.re (AV.str (a23++x0.2.2.2.2.2.2.2.2.2.2.2.2)) []))))))) (Tr.br (x0.1==[119,114,105,116,101]) (Tr.chk a0 (Tr.chk (decide ([71,82,65,78,84,32].length+(Lib.toUpperA x0.1).length≤1099511627776)) (Tr.chk (decide (length a20+[32,79,78,32].length≤1099511627776)) (Tr.chk (decide (length a21+length x0.2.1≤1099511627776)) (Tr.chk (decide (length a22+[32,84,79,32].length≤1099511627776)) (Tr.chk (decide (length a23+length x0.2.2.2.2.2.2.2.2.2.2.2.2≤1099511627776)) (Tr.re (AV.str (a23++x0.2.2.2.2.2.2.2.2.2.2.2.2)) []))))))) (Tr.br (x0.1==[117,110,114,101,97,100]) (Tr.chk
 (decide (0≤2)&&decide (2≤(↑(length x0.1):Int))&&decide ((↑(length x0.1):Int)≤(↑(length x0.1):Int))) (Tr.chk (decide (a24.length≤140737488355328)&&a24.all fun b=>decide (b.toNat < 128)) (Tr.chk (decide ([82,69,86,79,75,69,32].length+a25.length≤1099511627776)) (Tr.chk (decide (length a26+[32,79,78,32].length≤1099511627776)) (Tr.chk (decide (length a27+length x0.2.1≤1099511627776)) (Tr.chk (decide (length a28+[32,70,82,79,77,32].length≤1099511627776)) (Tr.chk (decide (length a29+length x0.2.2.2.2.2.2.2.2.2.2.2.2≤1099511627776)) (Tr.re (AV.str (a29++x0.2.2.2.2.2.2.2.2.2.2.2.2)) [])))))))) (Tr.br (x0.1==[117,110,119,114,105,116,101]) (Tr.chk (decide (0≤2)&&decide (2≤(↑(length x0.1):Int))&&decide ((↑(length x0.1):Int)≤(↑(length x0.1):Int))) (Tr.chk (decide (a24.length≤140737488355328)&&a24.all fun b=>decide (b.toNat < 128)) (Tr.chk (decide ([82,69,86,79,75,69,32].length+a25.length≤1099511627776)) (Tr.chk (decide (length a26+[32,79,78,32].length≤1099511627776)) (Tr.chk (decide (length a27+length x0.2.1≤1099511627776)) (Tr.chk (decide (length a28+[32,70,82,79,77,32].length≤1099511627776)) (Tr.chk (decide (length a29+length x0.2.2.2.2.2.2.2.2.2.2.2.2≤1099511627776)) (Tr.re (AV.str (a29++x0.2.2.2.2.2.2.2.2.2.2.2.2)) [])))))))) (Tr.br (x0.1==[99,111,112,121])
 (Tr.chk (decide (length a30+[32,40,32].length≤1099511627776)) (Tr.chk (lh x0.2.2.2.1) (Tr.chk (decide (length a31+length a32≤1099511627776)) (Tr.chk (decide (length a33+[32,41].length≤1099511627776)) (Tr.chk a34 (Tr.chk (decide (length a35+length a36≤1099511627776)) (Tr.re (AV.str (a35++a36)) []))))))) (Tr.br (x0.1==[106,111,105,110]) (Tr.chk (decide (length a30+[32,44,32].length≤1099511627776)) (Tr.chk (decide (length a37+length x0.2.2.2.2.2.2.2.2.2.2.2.2≤1099511627776)) (Tr.chk (decide (length a38+[32,79,78,32].length≤1099511627776)) (Tr.chk (decide (length a39+length x0.2.2.2.2.2.1≤1099511627776)) (Tr.chk a34 (Tr.chk (decide (length a40+length a36≤1099511627776)) (Tr.re (AV.str (a40++a36)) []))))))) (Tr.chk (decide (length a30+[32,66,89,32].length≤1099511627776)) (Tr.chk (zI 0 (length x0.2.2.2.1)) (Tr.chk (decide (length a41+length a42≤1099511627776)) (Tr.chk (decide (length a43+[32,83,85,77,32].length≤1099511627776)) (Tr.chk (zI 1 (length x0.2.2.2.1)) (Tr.chk (decide (length a44+length a45≤1099511627776)) (Tr.chk a34 (Tr.chk (decide (length a46+length a36≤1099511627776)) (Tr.re (AV.str (a46++a36)) []))))))))))))))))))))))))))
def oM (x0:Sem zo):Tr (Empty ⊕ ao):=
 let a0:=decide (length x0.1≤140737488355328)&&List.all x0.1 fun b=>decide (b.toNat < 128)
 let a1:=[77,73,71,82,65,84,69,32]++Lib.toUpperA x0.1
 let a2:=a1++[32]
 let a3:=a2++x0.2.1
 let a4:=a3++[32,70,82,79,77,32]
 let a5:=zE x0.2.2.2.2.2.2.2.2.1
 let a6:=zE x0.2.2.2.2.2.2.2.2.2.2.2.1
 let a7:=(x0.1,x0.2.1,x0.2.2.1,x0.2.2.2.1,x0.2.2.2.2.1,x0.2.2.2.2.2.1,x0.2.2.2.2.2.2.1,x0.2.2.2.2.2.2.2.1,a5,x0.2.2.2.2.2.2.2.2.2.1,x0.2.2.2.2.2.2.2.2.2.2.1,a6,x0.2.2.2.2.2.2.2.2.2.2.2.2)
 let a8:=[73,78,83,69,82,84,32,73,78,84,79,32]++x0.2.1
 let a9:=a8++[32,86,65,76,85,69,83,32,40,32]
 let a10:=ln x0.2.2.2.2.2.2.2.2.2.1
 let a11:=a9++a10
 let a12:=[85,80,68,65,84,69,32]++x0.2.1
 let a13:=a12++[32,83,69,84,32]
 let a14:=k9 x0.2.2.2.2.2.2.2.2.2.2.1
 let a15:=xQ a6
 let a16:=a13++a14
 let a17:=A3 a6
 let a18:=[68,69,76,69,84,69,32,70,82,79,77,32]++x0.2.1
 let a19:=[83,69,76,69,67,84,32,42,32,70,82,79,77,32]++x0.2.1
 let a20:=[71,82,65,78,84,32]++Lib.toUpperA x0.1
 let a21:=a20++[32,79,78,32]
 let a22:=a21++x0.2.1
 let a23:=a22++[32,84,79,32]
 let a24:=List.take ((↑(length x0.1):Int).toNat - toNat 2) (List.drop (toNat 2) x0.1)
 let a25:=Lib.toUpperA a24
 let a26:=[82,69,86,79,75,69,32]++a25
 let a27:=a26++[32,79,78,32]
 let a28:=a27++x0.2.1
 let a29:=a28++[32,70,82,79,77,32]
 let a30:=a4++x0.2.2.1
 let a31:=a30++[32,40,32]
 let a32:=lg x0.2.2.2.1
 let a33:=a31++a32
 let a34:=lz [32] a5
 let a35:=a33++[32,41]
 let a36:=iF [32] a5
 let a37:=a30++[32,44,32]
 let a38:=a37++x0.2.2.2.2.2.2.2.2.2.2.2.2
 let a39:=a38++[32,79,78,32]
 let a40:=a39++x0.2.2.2.2.2.1
 let a41:=a30++[32,66,89,32]
 let a42:=getD x0.2.2.2.1 (toNat 0) (zj Sh.str)
 let a43:=a41++a42
 let a44:=a43++[32,83,85,77,32]
 let a45:=getD x0.2.2.2.1 (toNat 1) (zj Sh.str)
 let a46:=a44++a45
 wn x0 a0 a1 a2 a3 a4 a5 a6 a7 a8 a9 a10 a11 a12 a13 a14 a15 a16 a17 a18 a19 a20 a21 a22 a23 a24 a25 a26 a27 a28 a29 a30 a31 a32 a33 a34 a35 a36 a37 a38 a39 a40 a41 a42 a43 a44 a45 a46
theorem WF (x0:Sem zo):rn yX 0 MW Tryz.f90 [zz zo x0] []=(oM x0).map (lf Tryz.f90 e0):=by kernel_rfl
def Ct (x0:Sem zo):Option (zx (List.map some [Sh.str])):=zW [Sh.str] t0 100000000 (oM x0)
def se (x0:Sem zo):Bool:=(Ct x0).isSome
def gg (x0:Sem zo):Sem Sh.str:=(fun r:zx (List.map some [Sh.str])=>r.1) ((Ct x0).getD (cq [Sh.str]))
def RL:zF:=zG [zo] [Sh.str] (fun x=>se x.1) fun x=>(gg x.1,())
theorem Pe:FK 90 RL:=jq (ks:=[zo]) (outs:=[Sh.str]) (keep:=MW) (gas:=400) (n:=100000000) (e:=e0) (t:=t0) (i:=fun x=>oM x.1) rB XV (fun x=>WF x.1) (Kw _ _ _ _ _) (fun _=>by kernel_rfl) (fun _=>by kernel_rfl)

noncomputable def HA:=yX.addL [(89,RK),(90,RL)]
theorem yY:zl HA:=rB.addL <| fc Pd <| fc Pe jn

abbrev zii:Nat→aj:=fun _=>{ }
theorem ze0:zA (HA).P 52 Tryz.f52 1:=aS (by kernel_rfl)
theorem zhq (x0:Sem zo):rn HA 0 zii Tryz.f52 [zz zo x0] []=Tr.chk (j6 (x6 x0)) (Tr.br (!eP (x6 x0)) (Tr.ok (zt.ret (AV.tup [AV.str [],ai 1]) [])) (Tr.chk (se (x6 x0)) (Tr.chk (K7 (gg (x6 x0))) (Tr.br ((cut (gg (x6 x0))).2 != 0) (Tr.ok (zt.ret (AV.tup [AV.str [],ai 1]) [])) (Tr.ok (zt.ret (AV.tup [AV.str (gg (x6 x0)),ai 0]) [])))))):=by kernel_rfl
def nj (x0:Sem zo):Sem Sh.str×Sem zg:=(if (!eP x0)=true then ([],1) else if ((cut (gg x0)).2 != 0)=true then ([],1) else (gg x0,0))
def qM (x0:Sem zo):Bool:=(if j6 x0=true then if (!eP x0)=true then true else if se x0=true then if K7 (gg x0)=true then true else false else false else false)
def F52:zF:=zG [zo] [Sh.str,zg] (fun x=>qM x.1) fun x=>((nj x.1).1,(nj x.1).2,())
theorem zbf:FK 52 F52:=by
 refine zR (ze0) fun x hc C hC=>?_
 unfold qM at hc
 refine zk yY (ze0) (fun id _=>hC id) (zhq x.1) ?_
 generalize hy:nj x.1=y
 unfold nj at hy
 try simp only [HJ]
 repeat' (first | with_reducible refine fe hy hc (fun _ hy hc=>?_) (fun _ hy hc=>?_) | with_reducible refine bd hy (fun _ hy=>?_) (fun _ hy=>?_) | with_reducible refine bz hc (fun hc=>?_) | with_reducible refine zr ?_)
 all_goals first | (cases hc; done) | (subst hy; first | rfl)

noncomputable def HB:=HA.add 52 F52
theorem yZ:zl HB:=yY.add zbf

abbrev zig:Nat→aj:=fun _=>{ }
theorem zeI:zA (HB).P 23 Tryz.f23 1:=aS (by kernel_rfl)
theorem zg8 (x0:Sem zo):rn HB 0 zig Tryz.f23 [zz zo x0] []=Tr.chk (qM (x6 x0)) (Tr.ok (zt.ret (AV.bool ((nj (x6 x0)).2==0)) [])):=by kernel_rfl
def dO (x0:Sem zo):Sem Sh.bool:=((nj x0).2==0)
def pt (x0:Sem zo):Bool:=(if qM x0=true then true else false)
def F31:zF:=zG [zo] [Sh.bool] (fun x=>pt x.1) fun x=>(dO x.1,())
theorem zaV:FK 23 F31:=by
 refine zR (zeI) fun x hc C hC=>?_
 unfold pt at hc
 refine zk yZ (zeI) (fun id _=>hC id) (zg8 x.1) ?_
 generalize hy:dO x.1=y
 unfold dO at hy
 try simp only [HJ]
 repeat' (first | with_reducible refine fe hy hc (fun _ hy hc=>?_) (fun _ hy hc=>?_) | with_reducible refine bd hy (fun _ hy=>?_) (fun _ hy=>?_) | with_reducible refine bz hc (fun hc=>?_) | with_reducible refine zr ?_)
 all_goals first | (cases hc; done) | (subst hy; first | rfl)

noncomputable def mi:=HB.add 23 F31
theorem gO:zl mi:=yZ.add zaV

noncomputable def zaE:zF:=zU (List.replicate 2 none) (bZ mi Tryz.f37 (List.replicate 2 none))
theorem VR:FK 37 zaE:=aw _ gO (aS (by kernel_rfl))

abbrev zd6:Nat→aj:=fun _=>{ }
theorem TI:zA (mi).P 24 Tryz.f24 1:=aS (by kernel_rfl)
theorem zc2 (x0:TS):rn mi 0 zd6 Tryz.f24 [zz Sh.str x0] []=Tr.br (decide ((↑(length x0):Int) > 20)) (Tr.chk (decide (0≤0)&&decide (0≤20)&&decide (20≤(↑(length x0):Int))) (Tr.ok (zt.ret (AV.str (List.take (toNat 20 - toNat 0) (List.drop (toNat 0) x0))) []))) (Tr.ok (zt.ret (AV.str x0) [])):=by kernel_rfl
def bP (x0:TS):Sem Sh.str:=(if decide ((↑(length x0):Int) > 20)=true then List.take (toNat 20 - toNat 0) (List.drop (toNat 0) x0) else x0)
def ex (x0:TS):Bool:=(if decide ((↑(length x0):Int) > 20)=true then if (decide (0≤0)&&decide (0≤20)&&decide (20≤(↑(length x0):Int)))=true then true else false else true)
def ZO:zF:=zG [Sh.str] [Sh.str] (fun x=>ex x.1) fun x=>(bP x.1,())
theorem US:FK 24 ZO:=by
 refine zR (TI) fun x hc C hC=>?_
 unfold ex at hc
 refine zk gO (TI) (fun id _=>hC id) (zc2 x.1) ?_
 generalize hy:bP x.1=y
 unfold bP at hy
 try simp only [ze.eta]
 repeat' (first | with_reducible refine fe hy hc (fun _ hy hc=>?_) (fun _ hy hc=>?_) | with_reducible refine bd hy (fun _ hy=>?_) (fun _ hy=>?_) | with_reducible refine bz hc (fun hc=>?_) | with_reducible refine zr ?_)
 all_goals first | (cases hc; done) | (subst hy; first | rfl)

abbrev XD:Nat→aj:=fun _=>{ }
theorem Ns:zA (mi).P 102 Tryz.f102 3:=aS (by kernel_rfl)
theorem WM (x0:Sem zf.sl) (x1:Sem zg) (x2:Sem zf):rn mi 0 XD Tryz.f102 [zz zf.sl x0,zz zg x1,zz zf x2] []=Tr.chk (bif decide (x1 ≥ 0) then bif decide (x1 < (↑(length x0):Int)) then zI x1 (length x0) else true else true) (Tr.ok (zt.ret (AV.bool (bif decide (x1 ≥ 0) then bif decide (x1 < (↑(length x0):Int)) then (getD x0 (toNat x1) (zj zf)).1==x2.1&&((getD x0 (toNat x1) (zj zf)).2.1==x2.2.1&&((getD x0 (toNat x1) (zj zf)).2.2==x2.2.2&&true)) else false else false)) [])):=by kernel_rfl
def lQ (x0:Sem zf.sl) (x1:Sem zg) (x2:Sem zf):Sem Sh.bool:=(bif decide (x1 ≥ 0) then bif decide (x1 < (↑(length x0):Int)) then (getD x0 (toNat x1) (zj zf)).1==x2.1&&((getD x0 (toNat x1) (zj zf)).2.1==x2.2.1&&((getD x0 (toNat x1) (zj zf)).2.2==x2.2.2&&true)) else false else false)
def t7 (x0:Sem zf.sl) (x1:Sem zg) (_:Sem zf):Bool:=(if (bif decide (x1 ≥ 0) then bif decide (x1 < (↑(length x0):Int)) then zI x1 (length x0) else true else true)=true then true else false)
def Sc:zF:=zG [zf.sl,zg,zf] [Sh.bool] (fun x=>t7 x.1 x.2.1 x.2.2.1) fun x=>(lQ x.1 x.2.1 x.2.2.1,())
theorem Hb:FK 102 Sc:=by
 refine zR (Ns) fun x hc C hC=>?_
 unfold t7 at hc
 refine zk gO (Ns) (fun id _=>hC id) (WM x.1 x.2.1 x.2.2.1) ?_
 generalize hy:lQ x.1 x.2.1 x.2.2.1=y
 unfold lQ at hy
 try simp only [ze.eta]
 repeat' (first | with_reducible refine fe hy hc (fun _ hy hc=>?_) (fun _ hy hc=>?_) | with_reducible refine bd hy (fun _ hy=>?_) (fun _ hy=>?_) | with_reducible refine bz hc (fun hc=>?_) | with_reducible refine zr ?_)
 all_goals first | (cases hc; done) | (subst hy; first | rfl)

abbrev Tp:Nat→aj:=fun j=>if j=2 then { slots:=[0,1,5] } else { }
abbrev xm (l0:List (Sem zh)) (s1:TS) (i5:Int):St:={ tmps:=(tm 21 [(0,AV.sl zh l0),(1,AV.str s1),(5,ai i5)]),heap:=[] }
theorem H4:zA (mi).P 69 Tryz.f69 2:=aS (by kernel_rfl)
theorem zc0 (x0:Sem zh.sl) (x1:TS):rn mi 0 Tp Tryz.f69 [zz zh.sl x0,zz Sh.str x1] []=Tr.ok (zt.head 2 (zy Tryz.f69 2) (xm x0 x1 0)):=by kernel_rfl
theorem Ie (l0:List (Sem zh)) (s1:TS) (i5:Int):rh mi 0 Tp Tryz.f69 2 (xm l0 s1 i5)=Tr.br (decide (i5 < (↑l0.length:Int))) (Tr.chk (zI i5 l0.length) (Tr.br ((l0.getD i5.toNat (zj zh)).1.1==s1) (Tr.ok (zt.ret (ai i5) [])) (Tr.ok (zt.head 2 (zy Tryz.f69 2) (xm l0 s1 (IntKind.i64.wrap (i5+1))))))) (Tr.ok (zt.ret (ai (-1)) [])):=by kernel_rfl
def iw (s1:TS):List
 (Sem zh)→Int→Sem zg
 | [],_=>(-1)
 | x::r,i5=>(if (x.1.1==s1)=true then i5 else iw s1 r (i5+1))
theorem P6 {C:cI} (hC:∀ id,C.ρ0 id=none) (s1:TS) (l0:List
 (Sem zh)) (hl:l0.length≤zB):∀ (m i:Nat),l0.length - i=m→i≤l0.length→
  Reach (mi) C 69 (zy Tryz.f69 2) (xm l0 s1 (i:Int)) (fun r h=>ah h [zg] r=some (iw s1 (l0.drop i) i,())):=by
 intro m
 induction m with
 | zero=>
  intro i hm hi
  obtain rfl:i=l0.length:=by omega
  rw [cL]
  refine zk gO (H4) (fun id _=>hC id) (Ie _ _ _) ?_
  generalize hy:iw s1 [] _=y
  rw [iw] at hy
  simp only [zY,Tr.val_brF]
  repeat' (first | with_reducible refine bd hy (fun _ hy=>?_) (fun _ hy=>?_) | with_reducible refine zr ?_)
  all_goals first | (cases hc; done) | (subst hy; first | rfl)
 | succ m IH=>
  intro i hm hi
  have hlt:i < l0.length:=by omega
  have IH:=IH (i+1)
  have hcast:((i:Int)+1)=((i+1:Nat):Int):=by omega
  have hwr:=zD i (by omega)
  rw [cX hlt]
  refine zk gO (H4) (fun id _=>hC id) (Ie _ _ _) ?_
  generalize hy:iw s1 (l0[i]::l0.drop (i+1)) (i:Int)=y
  rw [iw] at hy
  simp only [zT hlt,zC hlt,ae l0 _ hlt,hwr,Tr.val_brT,Tr.val_chkT]
  clear hwr
  try simp only [zC hlt] at hy
  simp only [hcast] at hy
  repeat' (first | with_reducible refine bd hy (fun _ hy=>?_) (fun _ hy=>?_) | with_reducible refine zr ?_)
  all_goals first | (cases hc; done) | (subst hy; first | (change Reach _ _ _ _ _ _; apply IH <;> first | omega | assumption) | rfl)
theorem KU {C:cI} (hC:∀ id,C.ρ0 id=none) (s1:TS) (l0:List
 (Sem zh)):
  Reach (mi) C 69 (zy Tryz.f69 2) (xm l0 s1 0) (fun r h=>ah h [zg] r=some (iw s1 l0 0,())):=
 Reach.len 0 zh l0 rfl fun hl=>P6 hC s1 l0 hl _ 0 rfl (aV _)
def GN (x0:Sem zh.sl) (x1:TS):Sem zg:=(iw x1 x0 0)
def ZA:zF:=ay [zh.sl,Sh.str] [zg] fun x=>(GN x.1 x.2.1,())
theorem UE:FK 69 ZA:=by
 refine zS (H4) fun x C hC=>?_
 refine zk gO (H4) (fun id _=>hC id) (zc0 x.1 x.2.1) ?_
 generalize hy:GN x.1 x.2.1=y
 unfold GN at hy
 try simp only [ze.eta]
 repeat' (first | with_reducible refine bd hy (fun _ hy=>?_) (fun _ hy=>?_) | with_reducible refine zr ?_)
 all_goals first | (cases hc; done) | (subst hy; first | (change Reach _ _ _ _ _ _; apply KU hC <;> first | assumption | exact hc) | rfl)

noncomputable def oJ:=mi.addL [(37,zaE),(24,ZO),(102,Sc),(69,ZA)]
theorem jl:zl oJ:=gO.addL <| fc VR <| fc US <| fc Hb <| fc UE jn

theorem Ch (x:Sem (Sh.sl zf)) (c:Int) (v:Sem zf):t7 x c v=true:=by
 unfold t7
 by_cases h1:(c:Int) ≥ 0
 ·by_cases h2:c < (length x:Int)
  ·have h3:zI c (length x)=true:=by simp [zI]; exact ⟨h1,h2⟩
   simp [aq h1,aq h2,h3]
  ·simp [aq h1,cx h2]
 ·simp [cx h1]
def Sd:zF:=ay [Sh.sl zf,zg,zf] [Sh.bool] fun x=>(lQ x.1 x.2.1 x.2.2.1,())
theorem PF:FK 102 Sd:=eR Hb fun x=>Ch x.1 x.2.1 x.2.2.1

abbrev Ts:Nat→aj:=fun j=>if j=3 then { slots:=[0,3,4],prom:=[(3,none,.str)] } else { }
abbrev xn (l0:LS) (i4:Int) (lh_0:LS):St:={ tmps:=(tm 24 [(0,AV.sl Sh.str l0),(3,AV.vec 0),(4,ai i4)]),heap:=[AO.vec Sh.str lh_0] }
theorem H5:zA (oJ).P 25 Tryz.f25 1:=aS (by kernel_rfl)
theorem zc3 (x0:Sem Sh.str.sl):rn oJ 0 Ts Tryz.f25 [zz Sh.str.sl x0] []=Tr.ok (zt.head 3 (zy Tryz.f25 3) (xn x0 0 [])):=by kernel_rfl
theorem If (l0:LS) (i4:Int) (lh_0:LS):rh oJ 0 Ts Tryz.f25 3 (xn l0 i4 lh_0)=Tr.br (bif decide (i4 < (↑l0.length:Int)) then decide (i4 < 10) else false) (Tr.chk (zI i4 l0.length) (Tr.chk (ex (l0.getD i4.toNat (zj Sh.str))) (Tr.chk (decide (lh_0.length+[bP (l0.getD i4.toNat (zj Sh.str))].length≤1073741824)) (Tr.ok (zt.head 3 (zy Tryz.f25 3) (xn l0 (IntKind.i64.wrap (i4+1)) (lh_0++[bP (l0.getD i4.toNat (zj Sh.str))]))))))) (Tr.ok (zt.ret (AV.vec 0) [AO.vec Sh.str lh_0])):=by kernel_rfl
def dG:List (Sem Sh.str)→Int→List (Sem Sh.str)→Sem Sh.str.sl
 | [],_,lh_0=>(lh_0)
 | x::r,i4,lh_0=>(if decide (i4 < 10)=true then dG r (i4+1) (lh_0++[bP x]) else lh_0)
def eM:List (Sem Sh.str)→Int→List (Sem Sh.str)→Bool
 | [],_,_=>(true)
 | x::r,i4,lh_0=>(if decide (i4 < 10)=true then
 if ex x=true then if decide (lh_0.length+[bP x].length≤1073741824)=true then eM r (i4+1) (lh_0++[bP x]) else false else false
else true)
theorem P7 {C:cI} (hC:∀ id,C.ρ0 id=none) (l0:LS) (hl:l0.length≤zB):∀ (m i:Nat) (lh_0:LS),l0.length - i=m→i≤l0.length→eM (l0.drop i) i lh_0=true→
  Reach (oJ) C 25 (zy Tryz.f25 3) (xn l0 (i:Int) lh_0) (fun r h=>ah h [Sh.str.sl] r=some (dG (l0.drop i) i lh_0,())):=by
 intro m
 induction m with
 | zero=>
  intro i lh_0 hm hi hc
  obtain rfl:i=l0.length:=by omega
  rw [cL] at hc ⊢
  refine zk jl (H5) (fun id _=>hC id) (If _ _ _) ?_
  rw [eM] at hc
  generalize hy:dG [] _ lh_0=y
  rw [dG] at hy
  simp only [zY,bb,Tr.val_brF]
  repeat' (first | with_reducible refine fe hy hc (fun _ hy hc=>?_) (fun _ hy hc=>?_) | with_reducible refine bd hy (fun _ hy=>?_) (fun _ hy=>?_) | with_reducible refine bz hc (fun hc=>?_) | with_reducible refine zr ?_)
  all_goals first | (cases hc; done) | (subst hy; first | rfl)
 | succ m IH=>
  intro i lh_0 hm hi hc
  have hlt:i < l0.length:=by omega
  have IH:=IH (i+1)
  have hcast:((i:Int)+1)=((i+1:Nat):Int):=by omega
  have hwr:=zD i (by omega)
  rw [cX hlt] at hc ⊢
  refine zk jl (H5) (fun id _=>hC id) (If _ _ _) ?_
  rw [eM] at hc
  generalize hy:dG (l0[i]::l0.drop (i+1)) (i:Int) lh_0=y
  rw [dG] at hy
  simp only [zT hlt,zC hlt,ae l0 _ hlt,hwr,aR]
  clear hwr
  try simp only [zC hlt] at hy
  simp only [hcast] at hy
  try simp only [zC hlt] at hc
  try simp only [hcast] at hc
  repeat' (first | with_reducible refine fe hy hc (fun _ hy hc=>?_) (fun _ hy hc=>?_) | with_reducible refine bd hy (fun _ hy=>?_) (fun _ hy=>?_) | with_reducible refine bz hc (fun hc=>?_) | with_reducible refine zr ?_)
  all_goals first | (cases hc; done) | (subst hy; first | (change Reach _ _ _ _ _ _; apply IH <;> first | omega | assumption) | rfl)
theorem KW {C:cI} (hC:∀ id,C.ρ0 id=none) (l0:LS) (lh_0:LS) (hc:eM l0 0 lh_0=true):
  Reach (oJ) C 25 (zy Tryz.f25 3) (xn l0 0 lh_0) (fun r h=>ah h [Sh.str.sl] r=some (dG l0 0 lh_0,())):=
 Reach.len 0 (Sh.str) l0 rfl fun hl=>P7 hC l0 hl _ 0 lh_0 rfl (aV _) hc
def f4 (x0:Sem Sh.str.sl):Sem Sh.str.sl:=(dG x0 0 [])
def mX (x0:Sem Sh.str.sl):Bool:=(eM x0 0 [])
def ZR:zF:=zG [Sh.str.sl] [Sh.str.sl] (fun x=>mX x.1) fun x=>(f4 x.1,())
theorem UV:FK 25 ZR:=by
 refine zR (H5) fun x hc C hC=>?_
 unfold mX at hc
 refine zk jl (H5) (fun id _=>hC id) (zc3 x.1) ?_
 generalize hy:f4 x.1=y
 unfold f4 at hy
 try simp only [ze.eta]
 repeat' (first | with_reducible refine fe hy hc (fun _ hy hc=>?_) (fun _ hy hc=>?_) | with_reducible refine bd hy (fun _ hy=>?_) (fun _ hy=>?_) | with_reducible refine bz hc (fun hc=>?_) | with_reducible refine zr ?_)
 all_goals first | (cases hc; done) | (subst hy; first | (change Reach _ _ _ _ _ _; apply KW hC <;> first | assumption | exact hc) | rfl)

abbrev ud (s:zp) (l:List (Sem zh)) (i:Int):St:={ tmps:=[.sl zh l,.clo (.func 37) [] [.ptr 0 0],.any,.any,.any,.any,.any,.int .i64 l.length,.int .i64 i,.any,.any,.any,.any,.any,.any,.any,.any,.any,.any],heap:=[.box [.str s]] }
theorem Me (s:zp) (l:List (Sem zh)):run oJ 1 mw Tryz.f36.results.toList 300 (aC Tryz.f36) (ar Tryz.f36.ntmps [.sl zh l,.clo (.func 37) [] [.ptr 0 0]] [.box [.str s]])=.ok (.head 2 (zy Tryz.f36 2) (ud s l 0)):=by kernel_rfl
theorem NM (s:zp) (l:List (Sem zh)) (i:Int):run oJ 1 mw Tryz.f36.results.toList 300 (zy Tryz.f36 2) (ud s l i)=iG (K:=zy Tryz.f36 2) (e:=zh) l (fun x=>x.1.1==s) (ud s l) [.box [.str s]] i:=by kernel_rfl

theorem NA:zA oJ.P 36 Tryz.f36 2:=aS (by kernel_rfl)
def zcf:cG [some (.sl zh),none]:=fun x h=>match x,h with
 | (l,.clo (.func 37) [] [.ptr 0 0],_),[.box [.str s]]=>.ok (.int .i64 (zL (fun x=>x.1.1==s) l 0),[.box [.str s]])
 | _,_=>.err
def zaD:zF:=zU [some (.sl zh),none] zcf
theorem VQ:FK 36 zaD:=by
 refine bC NA fun x h0 res hx C hC=>?_
 unfold zcf at hx
 split at hx
 ·rename_i l u s
  simp only [Tr.val_ok,ap] at hx
  subst hx
  refine Reach.len 0 zh l rfl fun hl=>?_
  refine zk (n0:=1) jl NA hC (Me s l) ?_
  exact eY l (fun x=>x.1.1==s) (ud s l) jl NA hC (NM s l) hl _ 0 rfl (aV _)
 ·simp at hx

noncomputable def DB:=oJ.addL [(102,Sd),(25,ZR),(36,zaD)]
theorem rC:zl DB:=jl.addL <| fc PF <| fc UV <| fc VQ jn

noncomputable def Sb:zF:=zU (List.replicate 3 none) (bZ DB Tryz.f101 (List.replicate 3 none))
theorem PE:FK 101 Sb:=aw _ rC (aS (by kernel_rfl))

abbrev zef:Nat→aj:=fun _=>{ }
theorem TK:zA (DB).P 16 Tryz.f16 2:=aS (by kernel_rfl)
theorem zda (x0:Sem zh.sl) (x1:TS):rn DB 0 zef Tryz.f16 [zz zh.sl x0,zz Sh.str x1] []=Tr.ok (zt.ret (ai (zL (fun x=>x.1.1==x1) x0 0)) []):=by kernel_rfl
def zO (x0:Sem zh.sl) (x1:TS):Sem zg:=(zL (fun x=>x.1.1==x1) x0 0)
def zad:zF:=ay [zh.sl,Sh.str] [zg] fun x=>(zO x.1 x.2.1,())
theorem Vn:FK 16 zad:=by
 refine zS (TK) fun x C hC=>?_
 refine zk rC (TK) (fun id _=>hC id) (zda x.1 x.2.1) ?_
 generalize hy:zO x.1 x.2.1=y
 unfold zO at hy
 try simp only [ze.eta]
 repeat' (first | with_reducible refine bd hy (fun _ hy=>?_) (fun _ hy=>?_) | with_reducible refine zr ?_)
 all_goals first | (cases hc; done) | (subst hy; first | rfl)

noncomputable def DC:=DB.addL [(101,Sb),(16,zad)]
theorem rD:zl DC:=rC.addL <| fc PE <| fc Vn jn

abbrev og (c a b:Int) (s:zp) (l:List (Sem (Sh.sl zf))) (i:Int):St:={ tmps:=[.sl (Sh.sl zf) l,.clo (.func 101) [] [.ptr 0 0,.ptr 1 0],.any,.any,.any,.any,.any,.int .i64 l.length,.int .i64 i,.any,.any,.any,.any,.any,.any,.any,.any,.any,.any],heap:=[.box [.int .i64 c],.box [.int .i64 a,.int .i64 b,.str s]] }
theorem FY (c a b:Int) (s:zp) (l:List (Sem (Sh.sl zf))):run DC 2 mw Tryz.f88.results.toList 300 (aC Tryz.f88) (ar Tryz.f88.ntmps [.sl (Sh.sl zf) l,.clo (.func 101) [] [.ptr 0 0,.ptr 1 0]] [.box [.int .i64 c],.box [.int .i64 a,.int .i64 b,.str s]])=.ok (.head 2 (zy Tryz.f88 2) (og c a b s l 0)):=by kernel_rfl
theorem Gp (c a b:Int) (s:zp) (l:List (Sem (Sh.sl zf))) (i:Int):run DC 2 mw Tryz.f88.results.toList 300 (zy Tryz.f88 2) (og c a b s l i)=iG (K:=zy Tryz.f88 2) (e:=(Sh.sl zf)) l (fun x=>lQ x c (a,b,s)) (og c a b s l) [.box [.int .i64 c],.box [.int .i64 a,.int .i64 b,.str s]] i:=by kernel_rfl

theorem Gm:zA DC.P 88 Tryz.f88 2:=aS (by kernel_rfl)
def SK:cG [some (.sl (Sh.sl zf)),none]:=fun x h=>match x,h with
 | (l,.clo (.func 101) [] [.ptr 0 0,.ptr 1 0],_),[.box [.int .i64 c],.box [.int .i64 a,.int .i64 b,.str s]]=>.ok (.int .i64 (zL (fun x=>lQ x c (a,b,s)) l 0),[.box [.int .i64 c],.box [.int .i64 a,.int .i64 b,.str s]])
 | _,_=>.err
def Sl:zF:=zU [some (.sl (Sh.sl zf)),none] SK
theorem PM:FK 88 Sl:=by
 refine bC Gm fun x h0 res hx C hC=>?_
 unfold SK at hx
 split at hx
 ·rename_i l u c a b s
  simp only [Tr.val_ok,ap] at hx
  subst hx
  refine Reach.len 0 (Sh.sl zf) l rfl fun hl=>?_
  refine zk (n0:=2) rD Gm hC (FY c a b s l) ?_
  exact eY l (fun x=>lQ x c (a,b,s)) (og c a b s l) rD Gm hC (Gp c a b s l) hl _ 0 rfl (aV _)
 ·simp at hx

noncomputable def LA:=DC.add 88 Sl
theorem y0:zl LA:=rD.add PM

noncomputable def Sa:zF:=zU (List.replicate 2 none) (bZ LA Tryz.f100 (List.replicate 2 none))
theorem PD:FK 100 Sa:=aw _ y0 (aS (by kernel_rfl))

noncomputable def HC:=LA.add 100 Sa
theorem rE:zl HC:=y0.add PD
noncomputable section

abbrev Xt:Nat→aj:=fun _=>{ }
theorem Nm:zA (HC).P 59 Tryz.f59 3:=aS (by kernel_rfl)
theorem WG (x0:Sem zh) (x1:Sem zg) (x2:Sem zf):rn HC 0 Xt Tryz.f59 [zz zh x0,zz zg x1,zz zf x2] []=Tr.ok (zt.ret (AV.bool (decide (zL (fun x=>lQ x x1 x2) x0.2 0 ≥ 0))) []):=by kernel_rfl
def my (x0:Sem zh) (x1:Sem zg) (x2:Sem zf):Sem Sh.bool:=(decide (zL (fun x=>lQ x x1 x2) x0.2 0 ≥ 0))
def RN:zF:=ay [zh,zg,zf] [Sh.bool] fun x=>(my x.1 x.2.1 x.2.2.1,())
theorem Pg:FK 59 RN:=by
 refine zS (Nm) fun x C hC=>?_
 refine zk rE (Nm) (fun id _=>hC id) (WG x.1 x.2.1 x.2.2.1) ?_
 generalize hy:my x.1 x.2.1 x.2.2.1=y
 unfold my at hy
 try simp only [ze.eta]
 repeat' (first | with_reducible refine bd hy (fun _ hy=>?_) (fun _ hy=>?_) | with_reducible refine zr ?_)
 all_goals first | (cases hc; done) | (subst hy; first | rfl)

abbrev Xs:=mn [(3,[1,5,11,12,13])]
inductive yq where
 | h3 (i1:Sem zg) (l11:List (Sem zf.sl)) (i12:Int) (i13:Int) (mh_0:List ((Int×Int×zp)×Int))
abbrev zcD:yq→Nat×St
 | .h3 i1 l11 i12 i13 mh_0=>(3,⟨tm 37 [(1,ai i1),(5,AV.mp 0),(11,AV.sl zf.sl l11),(12,ai i12),(13,ai i13)],[AO.vmap false mh_0]⟩)
def Ti (x0:Sem zh) (x1:Sem zg):Tr (yq ⊕ ao):=Tr.to (yq.h3 x1 x0.2 (↑(length x0.2):Int) 0 [])
def th:yq→Tr (yq ⊕ ao)
 | .h3 i1 l11 i12 i13 mh_0=>
  let a0:=l11.getD i13.toNat (zj zf.sl)
  let a1:=getD a0 (toNat i1) (zj zf)
  let a2:=(↑(jL mh_0 a1):Int)
  let a3:=iC mh_0 a1
  let a4:=iJ a3 a2.toNat (IntKind.i64.wrap (fg mh_0 a1+1))
  let a5:=fg a4 a1
  Tr.br (decide (i13 < i12))
  (Tr.chk (zI i13 l11.length)
   (Tr.chk (zI i1 (length a0)) (Tr.chk (decide (mh_0.length≤1073741824)) (Tr.chk (zI a2 a3.length) (Tr.br (bif a1.1 != 0 then decide (a5 > 1) else false) (Tr.re (AV.kb true) []) (Tr.to (yq.h3 i1 l11 i12 (IntKind.i64.wrap (i13+1)) a4)))))))
  (Tr.re (AV.kb false) [])
def t8 (x0:Sem zh) (x1:Sem zg):=zW [Sh.bool] th 100000000 (Ti x0 x1)
def nX (x0:Sem zh) (x1:Sem zg):=(t8 x0 x1).isSome
def r7 (x0:Sem zh) (x1:Sem zg):=o1 (t8 x0 x1)
def RM:=FT [zh,zg] [Sh.bool] fun x=>t8 x.1 x.2.1
theorem Pf:FK 57 RM:=rE.T1 (f:=Tryz.f57) (keep:=Xs) (e:=zcD)

def S0:=HC.addL [(59,RN),(57,RM)]
theorem rF:zl S0:=rE.addL <| fc Pg <| fc Pf jn
end
noncomputable section

abbrev zel:=mn [(6,[1,18,19,20]),(15,[1,39,40,41]),(21,[1,8])]
inductive xT where
 | h6 (l18:List (Sem zf.sl)) (i19:Int) (i20:Int) (z0:zu [CP.d zh])
 | h15 (l39:LI) (i40:Int) (i41:Int) (z0:zu [CP.d zh])
 | h21 (i8:Int) (z0:zu [CP.d zh])
abbrev zgL:xT→Nat×St
 | .h6 l18 i19 i20 z0=>(6,⟨tm 79 [(1,AV.ptr 0 0),(18,AV.sl zf.sl l18),(19,ai i19),(20,ai i20)],[AO.box (bK [] [CP.d zh] z0)]⟩)
 | .h15 l39 i40 i41 z0=>(15,⟨tm 79 [(1,AV.ptr 0 0),(39,AV.sl zg l39),(40,ai i40),(41,ai i41)],[AO.box (bK [] [CP.d zh] z0)]⟩)
 | .h21 i8 z0=>(21,⟨tm 79 [(1,AV.ptr 0 0),(8,ai i8)],[AO.box (bK [] [CP.d zh] z0)]⟩)
def JK (x0:Sem zh):Tr (xT ⊕ ao):=Tr.br (!gn (x0.1.1,x0.1.2.1,x0.1.2.2.1,x0.1.2.2.2.1,x0.1.2.2.2.2.1,zE x0.1.2.2.2.2.2)) (Tr.re (ai 1) []) (Tr.br (decide ((↑(length x0.2):Int) > 200)) (Tr.re (ai 13) []) (Tr.to (xT.h6 x0.2 (↑(length x0.2):Int) 0 (x0,()))))
def fS:xT→Tr (xT ⊕ ao)
 | .h6 l18 i19 i20 z0=>
  let a0:=(z0.1.1.1,z0.1.1.2.1,z0.1.1.2.2.1,z0.1.1.2.2.2.1,z0.1.1.2.2.2.2.1,zE z0.1.1.2.2.2.2.2)
  let a1:=j7 a0 (l18.getD i20.toNat (zj zf.sl))
  let a2:=(a0,z0.1.2)
  Tr.br (decide (i20 < i19))
  (Tr.chk (zI i20 l18.length) (Tr.br (a1 != 0) (Tr.re (ai a1) []) (Tr.to (xT.h6 l18 i19 (IntKind.i64.wrap (i20+1)) z0))))
  (Tr.chk (nX a2 z0.1.1.2.2.1)
   (Tr.br (r7 a2 z0.1.1.2.2.1) (Tr.re (ai 7) []) (Tr.to (xT.h15 z0.1.1.2.2.2.1 (↑(length z0.1.1.2.2.2.1):Int) 0 z0))))
 | .h15 l39 i40 i41 z0=>
  let a0:=((z0.1.1.1,z0.1.1.2.1,z0.1.1.2.2.1,z0.1.1.2.2.2.1,z0.1.1.2.2.2.2.1,zE z0.1.1.2.2.2.2.2),z0.1.2)
  let a1:=l39.getD i41.toNat (zj zg)
  Tr.br (decide (i41 < i40))
  (Tr.chk (zI i41 l39.length)
   (Tr.chk (nX a0 a1) (Tr.br (r7 a0 a1) (Tr.re (ai 7) []) (Tr.to (xT.h15 l39 i40 (IntKind.i64.wrap (i41+1)) z0)))))
  (Tr.to (xT.h21 1 z0))
 | .h21 i8 z0=>
  let a0:=(↑(length z0.1.2):Int)
  let a1:=IntKind.i64.wrap (i8 - 1)
  let a2:=getD z0.1.2 a1.toNat (zj zf.sl)
  let a3:=getD z0.1.2 i8.toNat (zj zf.sl)
  let a4:=be (getD a2 (toNat z0.1.1.2.2.1) (zj zf)) (getD a3 (toNat z0.1.1.2.2.1) (zj zf))
  Tr.br (decide (i8 < a0))
  (Tr.chk (zI a1 (length z0.1.2))
   (Tr.chk (zI z0.1.1.2.2.1 (length a2)) (Tr.chk (zI i8 (length z0.1.2)) (Tr.chk (zI z0.1.1.2.2.1 (length a3)) (Tr.br (decide (a4 ≥ 0)) (Tr.re (ai 15) []) (Tr.to (xT.h21 (IntKind.i64.wrap (i8+1)) z0)))))))
  (Tr.re (ai 0) [])
def lP (x0:Sem zh):=zW [zg] fS 100000000 (JK x0)
def nW (x0:Sem zh):=(lP x0).isSome
def r6 (x0:Sem zh):=o1 (lP x0)
def zaj:=FT [zh] [zg] fun x=>lP x.1
theorem Vv:FK 29 zaj:=rF.T1 (f:=Tryz.f29) (keep:=zel) (e:=zgL)

abbrev zem:=mn [(2,[0,11,12,13]),(5,[0,4,11,12,13,19,20,21]),(11,[0,4,6,7,11,12,13,19,20,21,32,33,34])]
inductive xU where
 | h2 (l0:List (Sem zh)) (l11:List (Sem zh)) (i12:Int) (i13:Int)
 | h5 (l0:List (Sem zh)) (l11:List (Sem zh)) (i12:Int) (i13:Int) (l19:LF) (i20:Int) (i21:Int) (z0:zu [CP.d zh])
 | h11 (l0:List (Sem zh)) (i7:Sem zg) (l11:List (Sem zh)) (i12:Int) (i13:Int) (l19:LF) (i20:Int) (i21:Int) (l32:List (Sem zf.sl)) (i33:Int) (i34:Int) (z0:zu [CP.d zh]) (z1:zu [CP.d zq])
abbrev zgM:xU→Nat×St
 | .h2 l0 l11 i12 i13=>(2,⟨tm 64 [(0,AV.sl zh l0),(11,AV.sl zh l11),(12,ai i12),(13,ai i13)],[]⟩)
 | .h5 l0 l11 i12 i13 l19 i20 i21 z0=>(5,⟨tm 64 [(0,AV.sl zh l0),(4,AV.ptr 0 0),(11,AV.sl zh l11),(12,ai i12),(13,ai i13),(19,AV.sl zq l19),(20,ai i20),(21,ai i21)],[AO.box (bK [] [CP.d zh] z0)]⟩)
 | .h11 l0 i7 l11 i12 i13 l19 i20 i21 l32 i33 i34 z0 z1=>(11,⟨tm 64 [(0,AV.sl zh l0),(4,AV.ptr 0 0),(6,AV.ptr 1 0),(7,ai i7),(11,AV.sl zh l11),(12,ai i12),(13,ai i13),(19,AV.sl zq l19),(20,ai i20),(21,ai i21),(32,AV.sl zf.sl l32),(33,ai i33),(34,ai i34)],[AO.box (bK [] [CP.d zh] z0),AO.box (bK [] [CP.d zq] z1)]⟩)
def zdS (x0:Sem zh.sl):Tr (xU ⊕ ao):=Tr.to (xU.h2 x0 x0 (↑(length x0):Int) 0)
def fu:xU→Tr (xU ⊕ ao)
 | .h2 l0 l11 i12 i13=>
  let a0:=l11.getD i13.toNat (zj zh)
  Tr.br (decide (i13 < i12))
  (Tr.chk (zI i13 l11.length) (Tr.to (xU.h5 l0 l11 i12 i13 a0.1.2.2.2.2.1 (↑(length a0.1.2.2.2.2.1):Int) 0 (a0,()))))
  (Tr.re (AV.kb true) [])
 | .h5 l0 l11 i12 i13 l19 i20 i21 z0=>
  let a0:=l19.getD i21.toNat (zj zq)
  let a1:=zO l0 a0.2
  Tr.br (decide (i21 < i20))
  (Tr.chk (zI i21 l19.length)
   (Tr.br (decide (a1 < 0)) (Tr.re (AV.kb false) []) (Tr.to (xU.h11 l0 a1 l11 i12 i13 l19 i20 i21 z0.1.2 (↑(length z0.1.2):Int) 0 z0 (a0,())))))
  (Tr.to (xU.h2 l0 l11 i12 (IntKind.i64.wrap (i13+1))))
 | .h11 l0 i7 l11 i12 i13 l19 i20 i21 l32 i33 i34 z0 z1=>
  let a0:=l32.getD i34.toNat (zj zf.sl)
  let a1:=getD a0 (toNat z1.1.1) (zj zf)
  let a2:=a1.1 != 0
  let a3:=l0.getD (toNat i7) (zj zh)
  Tr.br (decide (i34 < i33))
  (Tr.chk (zI i34 l32.length)
   (Tr.chk (zI z1.1.1 (length a0)) (Tr.chk (bif a2 then zI i7 l0.length&&zI i7 l0.length else true) (Tr.br (bif a2 then !my ((a3.1.1,a3.1.2.1,a3.1.2.2.1,a3.1.2.2.2.1,a3.1.2.2.2.2.1,zE a3.1.2.2.2.2.2),a3.2) a3.1.2.2.1 a1 else false) (Tr.re (AV.kb false) []) (Tr.to (xU.h11 l0 i7 l11 i12 i13 l19 i20 i21 l32 i33 (IntKind.i64.wrap (i34+1)) z0 z1))))))
  (Tr.to (xU.h5 l0 l11 i12 i13 l19 i20 (IntKind.i64.wrap (i21+1)) z0))
def pL (x0:Sem zh.sl):=zW [Sh.bool] fu 100000000 (zdS x0)
def nC (x0:Sem zh.sl):=(pL x0).isSome
def rc (x0:Sem zh.sl):=o1 (pL x0)
def zak:=FT [zh.sl] [Sh.bool] fun x=>pL x.1
theorem Vw:FK 30 zak:=rF.T1 (f:=Tryz.f30) (keep:=zem) (e:=zgM)

def S1:=S0.addL [(29,zaj),(30,zak)]
theorem y1:zl S1:=rF.addL <| fc Vv <| fc Vw jn
end
noncomputable section

abbrev zd8:=mn [(4,[0,3]),(9,[0,30,31,32])]
inductive CY where
 | h4 (l0:List (Sem zh)) (i3:Int)
 | h9 (l0:List (Sem zh)) (l30:List (Sem zh)) (i31:Int) (i32:Int)
abbrev zgE:CY→Nat×St
 | .h4 l0 i3=>(4,⟨tm 45 [(0,AV.sl zh l0),(3,ai i3)],[]⟩)
 | .h9 l0 l30 i31 i32=>(9,⟨tm 45 [(0,AV.sl zh l0),(30,AV.sl zh l30),(31,ai i31),(32,ai i32)],[]⟩)
def QI (x0:Sem zh.sl):Tr (CY ⊕ ao):=Tr.br (decide ((↑(length x0):Int) > 12)) (Tr.re (ai 13) []) (Tr.to (CY.h4 x0 1))
def lT:CY→Tr (CY ⊕ ao)
 | .h4 l0 i3=>
  let a0:=IntKind.i64.wrap (i3 - 1)
  let a1:=l0.getD a0.toNat (zj zh)
  let a2:=l0.getD i3.toNat (zj zh)
  Tr.br (decide (i3 < (↑l0.length:Int)))
  (Tr.chk (zI a0 l0.length)
   (Tr.chk (zI i3 l0.length) (Tr.br (!Op.bytesLess a1.1.1 a2.1.1) (Tr.re (ai 15) []) (Tr.to (CY.h4 l0 (IntKind.i64.wrap (i3+1)))))))
  (Tr.to (CY.h9 l0 l0 (↑l0.length:Int) 0))
 | .h9 l0 l30 i31 i32=>
  let a0:=l30.getD i32.toNat (zj zh)
  let a1:=((a0.1.1,a0.1.2.1,a0.1.2.2.1,a0.1.2.2.2.1,a0.1.2.2.2.2.1,zE a0.1.2.2.2.2.2),a0.2)
  let a2:=r6 a1
  Tr.br (decide (i32 < i31))
  (Tr.chk (zI i32 l30.length)
   (Tr.chk (nW a1) (Tr.br (a2 != 0) (Tr.re (ai a2) []) (Tr.to (CY.h9 l0 l30 i31 (IntKind.i64.wrap (i32+1)))))))
  (Tr.chk (nC l0) (Tr.br (!rc l0) (Tr.re (ai 10) []) (Tr.re (ai 0) [])))
def pM (x0:Sem zh.sl):=zW [zg] lT 100000000 (QI x0)
def tH (x0:Sem zh.sl):=(pM x0).isSome
def jt (x0:Sem zh.sl):=o1 (pM x0)
def ZX:=FT [zh.sl] [zg] fun x=>pM x.1
theorem U6:FK 11 ZX:=y1.T1 (f:=Tryz.f11) (keep:=zd8) (e:=zgE)

def fY:=S1.add 11 ZX
theorem bY:zl fY:=y1.add U6
end
section
variable {σ:Type} {t:σ→Tr (σ ⊕ ao)}

def bG (t:σ→Tr (σ ⊕ ao)) (k:Nat) (s:σ) (r:ao):Prop:=∀ n,k≤n→bw t n s=some r
def aG (t:σ→Tr (σ ⊕ ao)) (m:Nat) (s s':σ):Prop:=∀ k r,bG t k s' r→bG t (k+m) s r

theorem bG.mono {k k':Nat} {s:σ} {r:ao} (h:bG t k s r) (hk:k≤k'):bG t k' s r:=fun n hn=>h n (by omega)
theorem bG.of {s:σ} {r:ao} (h:(t s).val=some (.inr r)):bG t 1 s r:=by
 intro n hn
 obtain ⟨n,rfl⟩:∃ k,n=k+1:=⟨n - 1,by omega⟩
 rw [bw,h]
theorem aG.of {s s':σ} (h:(t s).val=some (.inl s')):aG t 1 s s':=by
 intro k r hr n hn
 obtain ⟨n,rfl⟩:∃ k,n=k+1:=⟨n - 1,by omega⟩
 rw [bw,h]
 exact hr n (by omega)
theorem aG.refl (s:σ):aG t 0 s s:=fun _ _ h=>h
theorem aG.trans {a b:Nat} {s s' s'':σ} (h1:aG t a s s') (h2:aG t b s' s''):aG t (b+a) s s'':=fun k r h=>(h1 _ _ (h2 k r h)).mono (by omega)
theorem aG.mono {a b:Nat} {s s':σ} (h:aG t a s s') (hk:a≤b):aG t b s s':=fun k r hr=>(h k r hr).mono (by omega)
theorem aG.ends {a k:Nat} {s s':σ} {r:ao} (h1:aG t a s s') (h2:bG t k s' r):bG t (k+a) s r:=h1 k r h2

theorem aG.all (m:Nat) (st:Nat→σ):∀ (N:Nat),(∀ i,i < N→aG t m (st i) (st (i+1)))→aG t (N * m) (st 0) (st N)
 | 0,_=>(aG.refl _).mono (by omega)
 | N+1,h=>((aG.all m st N fun i hi=>h i (by omega)).trans (h N (by omega))).mono (by rw [me]; omega)

theorem I0 {Φ:ao→Prop} (m:Nat) (st:Nat→σ) (P:Nat→Prop):∀ (N:Nat),(∀ i,i < N→(∀ j,j < i→P j)→(P i∧aG t m (st i) (st (i+1)))∨(¬ P i∧∃ r,bG t m (st i) r∧Φ r))→
  ((∀ i,i < N→P i)∧aG t (N * m) (st 0) (st N))∨((¬ ∀ i,i < N→P i)∧∃ r,bG t (N * m) (st 0) r∧Φ r)
 | 0,_=>.inl ⟨fun i hi=>absurd hi (by omega),(aG.refl _).mono (by omega)⟩
 | N+1,h=>by
  rcases I0 m st P N fun i hi=>h i (by omega) with ⟨h1,h2⟩ | ⟨h1,r,h2,h3⟩
  ·rcases h N (by omega) h1 with ⟨h4,h5⟩ | ⟨h4,r,h5,h6⟩
   ·refine .inl ⟨fun i hi=>?_,(h2.trans h5).mono (by rw [me]; omega)⟩
    rcases Nat.lt_succ_iff_lt_or_eq.1 hi with hi | rfl
    ·exact h1 i hi
    ·exact h4
   ·exact .inr ⟨fun h=>h4 (h N (by omega)),r,(h2.ends h5).mono (by rw [me]; omega),h6⟩
  ·exact .inr ⟨fun h=>h1 fun i hi=>h i (by omega),r,h2.mono (by rw [me]; omega),h3⟩

theorem bj {outs:List Sh} {n k:Nat} {i:Tr (σ ⊕ ao)} {s:σ} {r:ao} {y:zx (outs.map some)} (hi:i.val=some (.inl s)) (h:bG t k s r) (hk:k≤n) (hr:ah r.2 outs r.1=some y):zW outs t n i=some y:=by
 unfold zW bl
 rw [hi]
 show (bw t n s).bind _=_
 rw [h n hk]
 exact hr
theorem iu {outs:List Sh} {n:Nat} {i:Tr (σ ⊕ ao)} {r:ao} {y:zx (outs.map some)} (hi:i.val=some (.inr r)) (hr:ah r.2 outs r.1=some y):zW outs t n i=some y:=by
 unfold zW bl
 rw [hi]
 exact hr
end
end Cad
