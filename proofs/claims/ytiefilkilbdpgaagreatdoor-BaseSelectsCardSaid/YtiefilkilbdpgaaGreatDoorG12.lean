/- Statements: what a CREATE has. Functions on a variable to which a pointer leads. Functions as the machine goes through them, round by round. Rounds with an invariant; what a variable's cells say. Statements: their parts, their texts. Statements: their texts. Statements that may be. Bases: small things. Bases: few. Bases: few, and where a table is. Bases: few tables; has. Tables with rows: has. Tables with rows: has, check. Tables with rows: check; bases: bound. Bases: check. Loops: where they go, and where they end. -/
import Derived.Test.YtiefilkilbdpgaaGreatDoorG11
namespace Cad
open Go Go.Proofs
open Int (toNat)
open List (getD)
open List (length)
set_option maxHeartbeats 4000000

abbrev zbG:Nat→zS:=fun _=>{ }
theorem YO:zz (fP).P 150 Tryz.f150 1:=aG (by kernel_rfl)
theorem zaZ (x0:Sem zq):rn fP 0 zbG Tryz.f150 [zy zq x0] []=Tr.ok (zp.ret (AV.bool (bif bif decide ((↑(length x0.2.2.2.2.1):Int) < 1) then true else decide ((↑(length x0.2.2.2.2.1):Int) > 8) then false else bif !decide (zQ (fun x => !iv x) x0.2.2.2.2.1 0 ≥ 0) then bif bF x0.2.2.2.2.2.1 then bif bif decide ((↑(length x0.2.2.2.2.2.2.1):Int) < 0) then true else decide ((↑(length x0.2.2.2.2.2.2.1):Int) > 8) then false else bif !decide (zQ (fun x => !bF x) x0.2.2.2.2.2.2.1 0 ≥ 0) then bif bif decide ((↑(length x0.2.2.2.2.2.2.2.1):Int) < 0) then true else decide ((↑(length x0.2.2.2.2.2.2.2.1):Int) > 8) then false else bif !decide (zQ (fun x => !qn x) x0.2.2.2.2.2.2.2.1 0 ≥ 0) then mR (zC x0.2.2.2.2.2.2.2.2.1) else false else false else false else false)) []):=by kernel_rfl
def gD (x0:Sem zq):Sem Sh.bool:=(bif bif decide ((↑(length x0.2.2.2.2.1):Int) < 1) then true else decide ((↑(length x0.2.2.2.2.1):Int) > 8) then false else bif !decide (zQ (fun x => !iv x) x0.2.2.2.2.1 0 ≥ 0) then bif bF x0.2.2.2.2.2.1 then bif bif decide ((↑(length x0.2.2.2.2.2.2.1):Int) < 0) then true else decide ((↑(length x0.2.2.2.2.2.2.1):Int) > 8) then false else bif !decide (zQ (fun x => !bF x) x0.2.2.2.2.2.2.1 0 ≥ 0) then bif bif decide ((↑(length x0.2.2.2.2.2.2.2.1):Int) < 0) then true else decide ((↑(length x0.2.2.2.2.2.2.2.1):Int) > 8) then false else bif !decide (zQ (fun x => !qn x) x0.2.2.2.2.2.2.2.1 0 ≥ 0) then mR x0.2.2.2.2.2.2.2.2.1 else false else false else false else false)
def F81:zB:=zW [zq] [Sh.bool] fun x=>(gD x.1,())
theorem Vq:FK 150 F81:=by
 refine zO (YO) fun x C hC=>?_
 refine zk dk (YO) (fun id _=>hC id) (zaZ x.1) ?_
 generalize hy:gD x.1=y
 unfold gD at hy
 try simp only [ze.eta]
 repeat' (first | with_reducible refine aM hy (fun _ hy=>?_) (fun _ hy=>?_) | with_reducible refine zo ?_)
 all_goals first | (cases hc; done) | (subst hy; first | rfl)

abbrev X0:Nat→zS:=fun j=>if j=3 then { slots:=[1,5,8,9,10],prom:=[(5,none,.str)] } else { }
abbrev Br (l8:List (Sem (Sh.str.pr Sh.expr))) (i9:Int) (i10:Int) (lh_0:LS):St:={ tmps:=(tm 23 [(1,AV.clo (Fn.func 162) [] []),(5,AV.vec 0),(8,AV.sl (Sh.str.pr Sh.expr) l8),(9,ai i9),(10,ai i10)]),heap:=[AO.vec Sh.str lh_0] }
theorem LR:zz (fP).P 164 Tryz.f164 2:=aG (by kernel_rfl)
theorem za9 (x0:Sem aF.sl):rn fP 0 X0 Tryz.f164 [zy aF.sl x0,AV.clo (Fn.func 162) [] []] []=Tr.ok (zp.head 3 (zx Tryz.f164 3) (Br x0 (↑(length x0):Int) 0 [])):=by kernel_rfl
theorem IE (l8:List (Sem (Sh.str.pr Sh.expr))) (i9:Int) (i10:Int) (lh_0:LS):rh fP 0 X0 Tryz.f164 3 (Br l8 i9 i10 lh_0)=Tr.br (decide (i10 < i9)) (Tr.chk (zH i10 l8.length) (Tr.chk (ig ((l8.getD i10.toNat (zj (Sh.str.pr Sh.expr))).1,ze.mk (ze.op (l8.getD i10.toNat (zj (Sh.str.pr Sh.expr))).2) (ze.v (l8.getD i10.toNat (zj (Sh.str.pr Sh.expr))).2) (ze.s (l8.getD i10.toNat (zj (Sh.str.pr Sh.expr))).2) (ze.l (l8.getD i10.toNat (zj (Sh.str.pr Sh.expr))).2))) (Tr.chk (decide (lh_0.length+[dt ((l8.getD i10.toNat (zj (Sh.str.pr Sh.expr))).1,ze.mk (ze.op (l8.getD i10.toNat (zj (Sh.str.pr Sh.expr))).2) (ze.v (l8.getD i10.toNat (zj (Sh.str.pr Sh.expr))).2) (ze.s (l8.getD i10.toNat (zj (Sh.str.pr Sh.expr))).2) (ze.l (l8.getD i10.toNat (zj (Sh.str.pr Sh.expr))).2))].length≤1073741824)) (Tr.ok (zp.head 3 (zx Tryz.f164 3) (Br l8 i9 (IntKind.i64.wrap (i10+1)) (lh_0++[dt ((l8.getD i10.toNat (zj (Sh.str.pr Sh.expr))).1,ze.mk (ze.op (l8.getD i10.toNat (zj (Sh.str.pr Sh.expr))).2) (ze.v (l8.getD i10.toNat (zj (Sh.str.pr Sh.expr))).2) (ze.s (l8.getD i10.toNat (zj (Sh.str.pr Sh.expr))).2) (ze.l (l8.getD i10.toNat (zj (Sh.str.pr Sh.expr))).2))]))))))) (Tr.chk (decide (lh_0.length≤140737488355328)&&decide ((Lib.join lh_0 [32,44,32]).length≤140737488355328))
 (Tr.ok (zp.ret (AV.str (Lib.join lh_0 [32,44,32])) []))):=by kernel_rfl
def ck:List (Sem (Sh.str.pr Sh.expr))→Int→List (Sem Sh.str)→Sem Sh.str
 | [],_,lh_0=>(Lib.join lh_0 [32,44,32])
 | x::r,i10,lh_0=>(ck r (i10+1) (lh_0++[dt x]))
def cA:List (Sem (Sh.str.pr Sh.expr))→Int→List (Sem Sh.str)→Bool
 | [],_,lh_0=>(if (decide (lh_0.length≤140737488355328)&&decide ((Lib.join lh_0 [32,44,32]).length≤140737488355328))=true then true else false)
 | x::r,i10,lh_0=>(if ig x=true then if decide (lh_0.length+[dt x].length≤1073741824)=true then cA r (i10+1) (lh_0++[dt x]) else false
else false)
theorem Qq {C:bW} (hC:∀ id,C.ρ0 id=none) (l8:List (Sem (Sh.str.pr Sh.expr))) (hl:l8.length≤zD):∀ (m i:Nat) (lh_0:LS),l8.length - i=m→i≤l8.length→cA (l8.drop i) i lh_0=true→
  Reach (fP) C 164 (zx Tryz.f164 3) (Br l8 (l8.length:Int) (i:Int) lh_0) (fun r h=>zX h [Sh.str] r=some (ck (l8.drop i) i lh_0,())):=by
 intro m
 induction m with
 | zero=>
  intro i lh_0 hm hi hc
  obtain rfl:i=l8.length:=by omega
  rw [cQ] at hc ⊢
  refine zk dk (LR) (fun id _=>hC id) (IE _ _ _ _) ?_
  rw [cA] at hc
  generalize hy:ck [] _ lh_0=y
  rw [ck] at hy
  simp only [ze.eta,ap,Tr.val_brF]
  repeat' (first | with_reducible refine ea hy hc (fun _ hy hc=>?_) (fun _ hy hc=>?_) | with_reducible refine aM hy (fun _ hy=>?_) (fun _ hy=>?_) | with_reducible refine aX hc (fun hc=>?_) | with_reducible refine zo ?_)
  all_goals first | (cases hc; done) | (subst hy; first | rfl)
 | succ m IH=>
  intro i lh_0 hm hi hc
  have hlt:i < l8.length:=by omega
  have IH:=IH (i+1)
  have hcast:((i:Int)+1)=((i+1:Nat):Int):=by omega
  have hwr:=zG i (by omega)
  rw [c6 hlt] at hc ⊢
  refine zk dk (LR) (fun id _=>hC id) (IE _ _ _ _) ?_
  rw [cA] at hc
  generalize hy:ck (l8[i]::l8.drop (i+1)) (i:Int) lh_0=y
  rw [ck] at hy
  simp only [ze.eta,aH hlt,zN hlt,ag l8 _ hlt,hwr,Tr.val_brT,Tr.val_chkT]
  clear hwr
  try simp only [zN hlt] at hy
  simp only [hcast] at hy
  try simp only [zN hlt] at hc
  try simp only [hcast] at hc
  repeat' (first | with_reducible refine ea hy hc (fun _ hy hc=>?_) (fun _ hy hc=>?_) | with_reducible refine aM hy (fun _ hy=>?_) (fun _ hy=>?_) | with_reducible refine aX hc (fun hc=>?_) | with_reducible refine zo ?_)
  all_goals first | (cases hc; done) | (subst hy; first | (change Reach _ _ _ _ _ _; apply IH <;> first | omega | assumption) | rfl)
theorem KW {C:bW} (hC:∀ id,C.ρ0 id=none) (l8:List (Sem (Sh.str.pr Sh.expr))) (lh_0:LS) (hc:cA l8 0 lh_0=true):
  Reach (fP) C 164 (zx Tryz.f164 3) (Br l8 (l8.length:Int) 0 lh_0) (fun r h=>zX h [Sh.str] r=some (ck l8 0 lh_0,())):=
 Reach.len 8 (Sh.str.pr Sh.expr) l8 rfl fun hl=>Qq hC l8 hl _ 0 lh_0 rfl (aZ _) hc
def jt (x0:Sem aF.sl):Sem Sh.str:=(ck x0 0 [])
def ju (x0:Sem aF.sl):Bool:=(cA x0 0 [])
def F95:zB:=tI [aF.sl] [Sh.str] [(162,(fun x=>ju x.1),fun x=>(jt x.1,()))]
theorem VF:FK 164 F95:=by
 refine jD (LR) fun j c g hm x hc C hC=>?_
 simp only [bz,bp] at hm
 obtain ⟨rfl,rfl,rfl⟩:=hm
 replace hc:ju x.1=true:=hc
 unfold ju at hc
 refine zk dk (LR) (fun id _=>hC id) (za9 x.1) ?_
 generalize hy:jt x.1=y
 unfold jt at hy
 repeat' (first | with_reducible refine ea hy hc (fun _ hy hc=>?_) (fun _ hy hc=>?_) | with_reducible refine aM hy (fun _ hy=>?_) (fun _ hy=>?_) | with_reducible refine aX hc (fun hc=>?_) | with_reducible refine zo ?_)
 all_goals first | (cases hc; done) | (subst hy; first | (change Reach _ _ _ _ _ _; apply KW hC <;> first | assumption | exact hc) | rfl)

abbrev Rx:Nat→zS:=fun j=>if j=5 then { slots:=[1,3,24,25,26] } else if j=10 then { slots:=[1,3,37,38,39] } else { }
abbrev Bp (s3:zn) (l24:LS) (i25:Int) (i26:Int) (ja0:TS) (ja1:TS) (ja2:TS) (ja3:LS) (ja4:LC) (ja5:TS) (ja6:LS) (ja7:List (Sem (Sh.str.pr Sh.str))) (ja8:zn) (ja9:Int) (ja10:Int) (ja11:zn) (ja12:zn) (ja13:LX) (ja14:LV) (ja15:List (Sem (Sh.str.pr Sh.expr))) (ja16:zn) (ja17:Int) (ja18:Int) (ja19:zn) (ja20:zn) (ja21:LX) (ja22:TS):St:={ tmps:=(tm 59 [(1,AV.ptr 0 0),(3,AV.str s3),(24,AV.sl Sh.str l24),(25,ai i25),(26,ai i26)]),heap:=[AO.box [AV.str ja0,AV.str ja1,AV.str ja2,AV.sl Sh.str ja3,AV.sl zi ja4,AV.str ja5,AV.sl Sh.str ja6,AV.sl (Sh.str.pr Sh.str) ja7,AV.str ja8,ai ja9,ai ja10,AV.str ja11,AV.str ja12,AV.sl Sh.expr ja13,AV.sl zf ja14,AV.sl (Sh.str.pr Sh.expr) ja15,AV.str ja16,ai ja17,ai ja18,AV.str ja19,AV.str ja20,AV.sl Sh.expr ja21,AV.str ja22]] }
theorem Fp:zz (fP).P 159 Tryz.f159 1:=aG (by kernel_rfl)
theorem za4 (x0:Sem zq):rn fP 0 Rx Tryz.f159 [zy zq x0] []=Tr.chk (decide ([67,82,69,65,84,69,32,84,65,66,76,69,32].length+length x0.2.1≤1099511627776)) (Tr.chk (decide (length ([67,82,69,65,84,69,32,84,65,66,76,69,32]++x0.2.1)+[32,40,32].length≤1099511627776)) (Tr.chk (gR x0.2.2.2.2.1) (Tr.chk (decide (length ([67,82,69,65,84,69,32,84,65,66,76,69,32]++x0.2.1++[32,40,32])+length (cS x0.2.2.2.2.1)≤1099511627776)) (Tr.chk (decide ([32,44,32,75,69,89,32,40,32].length+length x0.2.2.2.2.2.1≤1099511627776)) (Tr.chk (decide (length ([32,44,32,75,69,89,32,40,32]++x0.2.2.2.2.2.1)+[32,41].length≤1099511627776)) (Tr.chk (decide (length ([67,82,69,65,84,69,32,84,65,66,76,69,32]++x0.2.1++[32,40,32]++cS x0.2.2.2.2.1)+length ([32,44,32,75,69,89,32,40,32]++x0.2.2.2.2.2.1++[32,41])≤1099511627776)) (Tr.ok (zp.head 5 (zx Tryz.f159 5) (Bp ([67,82,69,65,84,69,32,84,65,66,76,69,32]++x0.2.1++[32,40,32]++cS x0.2.2.2.2.1++([32,44,32,75,69,89,32,40,32]++x0.2.2.2.2.2.1++[32,41])) x0.2.2.2.2.2.2.1 (↑(length x0.2.2.2.2.2.2.1):Int) 0 x0.1 x0.2.1 x0.2.2.1 x0.2.2.2.1 x0.2.2.2.2.1 x0.2.2.2.2.2.1 x0.2.2.2.2.2.2.1 x0.2.2.2.2.2.2.2.1
 (ze.op x0.2.2.2.2.2.2.2.2.1) (ze.v x0.2.2.2.2.2.2.2.2.1).1 (ze.v x0.2.2.2.2.2.2.2.2.1).2.1 (ze.v x0.2.2.2.2.2.2.2.2.1).2.2 (ze.s x0.2.2.2.2.2.2.2.2.1) (ze.l x0.2.2.2.2.2.2.2.2.1) x0.2.2.2.2.2.2.2.2.2.1 x0.2.2.2.2.2.2.2.2.2.2.1 (ze.op x0.2.2.2.2.2.2.2.2.2.2.2.1) (ze.v x0.2.2.2.2.2.2.2.2.2.2.2.1).1 (ze.v x0.2.2.2.2.2.2.2.2.2.2.2.1).2.1 (ze.v x0.2.2.2.2.2.2.2.2.2.2.2.1).2.2 (ze.s x0.2.2.2.2.2.2.2.2.2.2.2.1) (ze.l x0.2.2.2.2.2.2.2.2.2.2.2.1) x0.2.2.2.2.2.2.2.2.2.2.2.2))))))))):=by kernel_rfl
abbrev ud (s3:zn) (l37:List (Sem (Sh.str.pr Sh.str))) (i38:Int) (i39:Int) (ja0:TS) (ja1:TS) (ja2:TS) (ja3:LS) (ja4:LC) (ja5:TS) (ja6:LS) (ja7:List (Sem (Sh.str.pr Sh.str))) (ja8:zn) (ja9:Int) (ja10:Int) (ja11:zn) (ja12:zn) (ja13:LX) (ja14:LV) (ja15:List (Sem (Sh.str.pr Sh.expr))) (ja16:zn) (ja17:Int) (ja18:Int) (ja19:zn) (ja20:zn) (ja21:LX) (ja22:TS):St:={ tmps:=(tm 59 [(1,AV.ptr 0 0),(3,AV.str s3),(37,AV.sl (Sh.str.pr Sh.str) l37),(38,ai i38),(39,ai i39)]),heap:=[AO.box [AV.str ja0,AV.str ja1,AV.str ja2,AV.sl Sh.str ja3,AV.sl zi ja4,AV.str ja5,AV.sl Sh.str ja6,AV.sl (Sh.str.pr Sh.str) ja7,AV.str ja8,ai ja9,ai ja10,AV.str ja11,AV.str ja12,AV.sl Sh.expr ja13,AV.sl zf ja14,AV.sl (Sh.str.pr Sh.expr) ja15,AV.str ja16,ai ja17,ai ja18,AV.str ja19,AV.str ja20,AV.sl Sh.expr ja21,AV.str ja22]] }
theorem IB (s3:zn) (l24:LS) (i25:Int) (i26:Int) (ja0:TS) (ja1:TS) (ja2:TS) (ja3:LS) (ja4:LC) (ja5:TS) (ja6:LS) (ja7:List (Sem (Sh.str.pr Sh.str))) (ja8:zn) (ja9:Int) (ja10:Int) (ja11:zn) (ja12:zn) (ja13:LX) (ja14:LV) (ja15:List (Sem (Sh.str.pr Sh.expr))) (ja16:zn) (ja17:Int) (ja18:Int) (ja19:zn) (ja20:zn) (ja21:LX) (ja22:TS):rh fP 0 Rx Tryz.f159 5 (Bp s3 l24 i25 i26 ja0 ja1 ja2 ja3 ja4 ja5 ja6 ja7 ja8 ja9 ja10 ja11 ja12 ja13 ja14 ja15 ja16 ja17 ja18 ja19 ja20 ja21 ja22)=Tr.br (decide (i26 < i25)) (Tr.chk (zH i26 l24.length) (Tr.chk (decide ([32,44,32,85,78,73,81,85,69,32,40,32].length+length (l24.getD i26.toNat (zj Sh.str))≤1099511627776)) (Tr.chk (decide (length ([32,44,32,85,78,73,81,85,69,32,40,32]++l24.getD i26.toNat (zj Sh.str))+[32,41].length≤1099511627776)) (Tr.chk (decide (length s3+length ([32,44,32,85,78,73,81,85,69,32,40,32]++l24.getD i26.toNat (zj Sh.str)++[32,41])≤1099511627776)) (Tr.ok (zp.head 5 (zx Tryz.f159 5) (Bp (s3++([32,44,32,85,78,73,81,85,69,32,40,32]++l24.getD i26.toNat (zj Sh.str)++[32,41])) l24 i25
 (IntKind.i64.wrap (i26+1)) ja0 ja1 ja2 ja3 ja4 ja5 ja6 ja7 ja8 ja9 ja10 ja11 ja12 ja13 ja14 ja15 ja16 ja17 ja18 ja19 ja20 ja21 ja22))))))) (Tr.ok (zp.head 10 (zx Tryz.f159 10) (ud s3 ja7 (↑ja7.length:Int) 0 ja0 ja1 ja2 ja3 ja4 ja5 ja6 ja7 ja8 ja9 ja10 ja11 ja12 ja13 ja14 ja15 ja16 ja17 ja18 ja19 ja20 ja21 ja22))):=by kernel_rfl
theorem D1 (s3:zn) (l37:List (Sem (Sh.str.pr Sh.str))) (i38:Int) (i39:Int) (ja0:TS) (ja1:TS) (ja2:TS) (ja3:LS) (ja4:LC) (ja5:TS) (ja6:LS) (ja7:List (Sem (Sh.str.pr Sh.str))) (ja8:zn) (ja9:Int) (ja10:Int) (ja11:zn) (ja12:zn) (ja13:LX) (ja14:LV) (ja15:List (Sem (Sh.str.pr Sh.expr))) (ja16:zn) (ja17:Int) (ja18:Int) (ja19:zn) (ja20:zn) (ja21:LX) (ja22:TS):rh fP 0 Rx Tryz.f159 10 (ud s3 l37 i38 i39 ja0 ja1 ja2 ja3 ja4 ja5 ja6 ja7 ja8 ja9 ja10 ja11 ja12 ja13 ja14 ja15 ja16 ja17 ja18 ja19 ja20 ja21 ja22)=Tr.br (decide (i39 < i38)) (Tr.chk (zH i39 l37.length) (Tr.chk (decide ([32,44,32,82,69,70,69,82,69,78,67,69,83,32,40,32].length+length (l37.getD i39.toNat (zj (Sh.str.pr Sh.str))).1≤1099511627776)) (Tr.chk (decide (length ([32,44,32,82,69,70,69,82,69,78,67,69,83,32,40,32]++(l37.getD i39.toNat (zj (Sh.str.pr Sh.str))).1)+[32,41,32].length≤1099511627776)) (Tr.chk (decide (length ([32,44,32,82,69,70,69,82,69,78,67,69,83,32,40,32]++(l37.getD i39.toNat (zj (Sh.str.pr Sh.str))).1++[32,41,32])+length (l37.getD i39.toNat (zj (Sh.str.pr Sh.str))).2≤1099511627776)) (Tr.chk (decide (length s3+length
 ([32,44,32,82,69,70,69,82,69,78,67,69,83,32,40,32]++(l37.getD i39.toNat (zj (Sh.str.pr Sh.str))).1++[32,41,32]++(l37.getD i39.toNat (zj (Sh.str.pr Sh.str))).2)≤1099511627776)) (Tr.ok (zp.head 10 (zx Tryz.f159 10) (ud (s3++([32,44,32,82,69,70,69,82,69,78,67,69,83,32,40,32]++(l37.getD i39.toNat (zj (Sh.str.pr Sh.str))).1++[32,41,32]++(l37.getD i39.toNat (zj (Sh.str.pr Sh.str))).2)) l37 i38 (IntKind.i64.wrap (i39+1)) ja0 ja1 ja2 ja3 ja4 ja5 ja6 ja7 ja8 ja9 ja10 ja11 ja12 ja13 ja14 ja15 ja16 ja17 ja18 ja19 ja20 ja21 ja22)))))))) (Tr.chk (jJ [32,44,32] (ze.mk ja8 (ja9,ja10,ja11) ja12 ja13)) (Tr.chk (decide (length s3+length (gg [32,44,32] (ze.mk ja8 (ja9,ja10,ja11) ja12 ja13))≤1099511627776)) (Tr.chk (decide (length (s3++gg [32,44,32] (ze.mk ja8 (ja9,ja10,ja11) ja12 ja13))+[32,41].length≤1099511627776)) (Tr.ok (zp.ret (AV.str (s3++gg [32,44,32] (ze.mk ja8 (ja9,ja10,ja11) ja12 ja13)++[32,41])) []))))):=by kernel_rfl
def cg (ja0:TS) (ja1:TS) (ja2:TS) (ja3:LS) (ja4:LC) (ja5:TS) (ja6:LS) (ja7:List (Sem (Sh.str.pr Sh.str))) (ja8:zn) (ja9:Int) (ja10:Int) (ja11:zn) (ja12:zn) (ja13:LX) (ja14:LV) (ja15:List (Sem (Sh.str.pr Sh.expr))) (ja16:zn) (ja17:Int) (ja18:Int) (ja19:zn) (ja20:zn) (ja21:LX) (ja22:TS):List (Sem (Sh.str.pr Sh.str))→Int→zn→Sem Sh.str
 | [],_,s3=>(s3++gg [32,44,32] (ze.mk ja8 (ja9,ja10,ja11) ja12 ja13)++[32,41])
 | x::r,i39,s3=>(cg ja0 ja1 ja2 ja3 ja4 ja5 ja6 ja7 ja8 ja9 ja10 ja11 ja12 ja13 ja14 ja15 ja16 ja17 ja18 ja19
 ja20 ja21 ja22 r (i39+1) (s3++([32,44,32,82,69,70,69,82,69,78,67,69,83,32,40,32]++x.1++[32,41,32]++x.2)))
def cx (ja0:TS) (ja1:TS) (ja2:TS) (ja3:LS) (ja4:LC) (ja5:TS) (ja6:LS) (ja7:List (Sem (Sh.str.pr Sh.str))) (ja8:zn) (ja9:Int) (ja10:Int) (ja11:zn) (ja12:zn) (ja13:LX) (ja14:LV) (ja15:List (Sem (Sh.str.pr Sh.expr))) (ja16:zn) (ja17:Int) (ja18:Int) (ja19:zn) (ja20:zn) (ja21:LX) (ja22:TS):List (Sem (Sh.str.pr Sh.str))→Int→zn→Bool
 | [],_,s3=>(if jJ [32,44,32] (ze.mk ja8 (ja9,ja10,ja11) ja12 ja13)=true then
 if decide (length s3+length (gg [32,44,32] (ze.mk ja8 (ja9,ja10,ja11) ja12 ja13))≤1099511627776)=true then
  if
    decide (length (s3++gg [32,44,32] (ze.mk ja8 (ja9,ja10,ja11) ja12 ja13))+[32,41].length≤1099511627776)=
     true then
   true
  else false
 else false
else false)
 | x::r,i39,s3=>(if decide ([32,44,32,82,69,70,69,82,69,78,67,69,83,32,40,32].length+length x.1≤1099511627776)=true then
 if decide (length ([32,44,32,82,69,70,69,82,69,78,67,69,83,32,40,32]++x.1)+[32,41,32].length≤1099511627776)=true then
  if
    decide (length ([32,44,32,82,69,70,69,82,69,78,67,69,83,32,40,32]++x.1++[32,41,32])+length x.2≤1099511627776)=
     true then
   if
     decide
       (length s3+length ([32,44,32,82,69,70,69,82,69,78,67,69,83,32,40,32]++x.1++[32,41,32]++x.2)≤
        1099511627776)=
      true then
    cx ja0 ja1 ja2 ja3 ja4 ja5 ja6 ja7 ja8 ja9 ja10 ja11 ja12 ja13 ja14 ja15 ja16 ja17
     ja18 ja19 ja20 ja21 ja22 r (i39+1)
     (s3++([32,44,32,82,69,70,69,82,69,78,67,69,83,32,40,32]++x.1++[32,41,32]++x.2))
   else false
  else false
 else false
else false)
theorem KU {C:bW} (hC:∀ id,C.ρ0 id=none) (ja0:TS) (ja1:TS) (ja2:TS) (ja3:LS) (ja4:LC) (ja5:TS) (ja6:LS) (ja7:List (Sem (Sh.str.pr Sh.str))) (ja8:zn) (ja9:Int) (ja10:Int) (ja11:zn) (ja12:zn) (ja13:LX) (ja14:LV) (ja15:List (Sem (Sh.str.pr Sh.expr))) (ja16:zn) (ja17:Int) (ja18:Int) (ja19:zn) (ja20:zn) (ja21:LX) (ja22:TS) (l37:List (Sem (Sh.str.pr Sh.str))) (hl:l37.length≤zD):∀ (m i:Nat) (s3:zn),l37.length - i=m→i≤l37.length→cx ja0 ja1 ja2 ja3 ja4 ja5 ja6 ja7 ja8 ja9 ja10 ja11 ja12 ja13 ja14 ja15 ja16 ja17 ja18 ja19 ja20 ja21 ja22 (l37.drop i) i s3=true→
  Reach (fP) C 159 (zx Tryz.f159 10) (ud s3 l37 (l37.length:Int) (i:Int) ja0 ja1 ja2 ja3 ja4 ja5 ja6 ja7 ja8 ja9 ja10 ja11 ja12 ja13 ja14 ja15 ja16 ja17 ja18 ja19 ja20 ja21 ja22) (fun r h=>zX h [Sh.str] r=some (cg ja0 ja1 ja2 ja3 ja4 ja5 ja6 ja7 ja8 ja9 ja10 ja11 ja12 ja13 ja14 ja15 ja16 ja17 ja18 ja19 ja20 ja21 ja22 (l37.drop i) i s3,())):=by
 intro m
 induction m with
 | zero=>
  intro i s3 hm hi hc
  obtain rfl:i=l37.length:=by omega
  rw [cQ] at hc ⊢
  refine zk dk (Fp) (fun id _=>hC id) (D1 _ _ _ _ _ _ _ _ _ _ _ _ _ _ _ _ _ _ _ _ _ _ _ _ _ _ _) ?_
  rw [cx] at hc
  generalize hy:cg ja0 ja1 ja2 ja3 ja4 ja5 ja6 ja7 ja8 ja9 ja10 ja11 ja12 ja13 ja14 ja15 ja16 ja17 ja18 ja19 ja20 ja21 ja22 [] _ s3=y
  rw [cg] at hy
  simp only [ap,Tr.val_brF]
  repeat' (first | with_reducible refine ea hy hc (fun _ hy hc=>?_) (fun _ hy hc=>?_) | with_reducible refine aM hy (fun _ hy=>?_) (fun _ hy=>?_) | with_reducible refine aX hc (fun hc=>?_) | with_reducible refine zo ?_)
  all_goals first | (cases hc; done) | (subst hy; first | (change Reach _ _ _ _ _ _; apply wY hC <;> first | assumption | exact hc) | rfl)
 | succ m IH=>
  intro i s3 hm hi hc
  have hlt:i < l37.length:=by omega
  have IH:=IH (i+1)
  have hcast:((i:Int)+1)=((i+1:Nat):Int):=by omega
  have hwr:=zG i (by omega)
  rw [c6 hlt] at hc ⊢
  refine zk dk (Fp) (fun id _=>hC id) (D1 _ _ _ _ _ _ _ _ _ _ _ _ _ _ _ _ _ _ _ _ _ _ _ _ _ _ _) ?_
  rw [cx] at hc
  generalize hy:cg ja0 ja1 ja2 ja3 ja4 ja5 ja6 ja7 ja8 ja9 ja10 ja11 ja12 ja13 ja14 ja15 ja16 ja17 ja18 ja19 ja20 ja21 ja22 (l37[i]::l37.drop (i+1)) (i:Int) s3=y
  rw [cg] at hy
  simp only [aH hlt,zN hlt,ag l37 _ hlt,hwr,Tr.val_brT,Tr.val_chkT]
  clear hwr
  try simp only [zN hlt] at hy
  simp only [hcast] at hy
  try simp only [zN hlt] at hc
  try simp only [hcast] at hc
  repeat' (first | with_reducible refine ea hy hc (fun _ hy hc=>?_) (fun _ hy hc=>?_) | with_reducible refine aM hy (fun _ hy=>?_) (fun _ hy=>?_) | with_reducible refine aX hc (fun hc=>?_) | with_reducible refine zo ?_)
  all_goals first | (cases hc; done) | (subst hy; first | (change Reach _ _ _ _ _ _; apply IH <;> first | omega | assumption) | (change Reach _ _ _ _ _ _; apply wY hC <;> first | assumption | exact hc) | rfl)
theorem rK {C:bW} (hC:∀ id,C.ρ0 id=none) (ja0:TS) (ja1:TS) (ja2:TS) (ja3:LS) (ja4:LC) (ja5:TS) (ja6:LS) (ja7:List (Sem (Sh.str.pr Sh.str))) (ja8:zn) (ja9:Int) (ja10:Int) (ja11:zn) (ja12:zn) (ja13:LX) (ja14:LV) (ja15:List (Sem (Sh.str.pr Sh.expr))) (ja16:zn) (ja17:Int) (ja18:Int) (ja19:zn) (ja20:zn) (ja21:LX) (ja22:TS) (l37:List (Sem (Sh.str.pr Sh.str))) (s3:zn) (hc:cx ja0 ja1 ja2 ja3 ja4 ja5 ja6 ja7 ja8 ja9 ja10 ja11 ja12 ja13 ja14 ja15 ja16 ja17 ja18 ja19 ja20 ja21 ja22 l37 0 s3=true):
  Reach (fP) C 159 (zx Tryz.f159 10) (ud s3 l37 (l37.length:Int) 0 ja0 ja1 ja2 ja3 ja4 ja5 ja6 ja7 ja8 ja9 ja10 ja11 ja12 ja13 ja14 ja15 ja16 ja17 ja18 ja19 ja20 ja21 ja22) (fun r h=>zX h [Sh.str] r=some (cg ja0 ja1 ja2 ja3 ja4 ja5 ja6 ja7 ja8 ja9 ja10 ja11 ja12 ja13 ja14 ja15 ja16 ja17 ja18 ja19 ja20 ja21 ja22 l37 0 s3,())):=
 Reach.len 37 (Sh.str.pr Sh.str) l37 rfl fun hl=>KU hC ja0 ja1 ja2 ja3 ja4 ja5 ja6 ja7 ja8 ja9 ja10 ja11 ja12 ja13 ja14 ja15 ja16 ja17 ja18 ja19 ja20 ja21 ja22 l37 hl _ 0 s3 rfl (aZ _) hc
def cT (ja0:TS) (ja1:TS) (ja2:TS) (ja3:LS) (ja4:LC) (ja5:TS) (ja6:LS) (ja7:List (Sem (Sh.str.pr Sh.str))) (ja8:zn) (ja9:Int) (ja10:Int) (ja11:zn) (ja12:zn) (ja13:LX) (ja14:LV) (ja15:List (Sem (Sh.str.pr Sh.expr))) (ja16:zn) (ja17:Int) (ja18:Int) (ja19:zn) (ja20:zn) (ja21:LX) (ja22:TS):List (Sem Sh.str)→Int→zn→Sem Sh.str
 | [],_,s3=>(cg ja0 ja1 ja2 ja3 ja4 ja5 ja6 ja7 ja8 ja9 ja10 ja11 ja12 ja13 ja14 ja15 ja16 ja17 ja18 ja19
 ja20 ja21 ja22 ja7 0 s3)
 | x::r,i26,s3=>(cT ja0 ja1 ja2 ja3 ja4 ja5 ja6 ja7 ja8 ja9 ja10 ja11 ja12 ja13 ja14 ja15 ja16 ja17 ja18 ja19
 ja20 ja21 ja22 r (i26+1) (s3++([32,44,32,85,78,73,81,85,69,32,40,32]++x++[32,41])))
def c8 (ja0:TS) (ja1:TS) (ja2:TS) (ja3:LS) (ja4:LC) (ja5:TS) (ja6:LS) (ja7:List (Sem (Sh.str.pr Sh.str))) (ja8:zn) (ja9:Int) (ja10:Int) (ja11:zn) (ja12:zn) (ja13:LX) (ja14:LV) (ja15:List (Sem (Sh.str.pr Sh.expr))) (ja16:zn) (ja17:Int) (ja18:Int) (ja19:zn) (ja20:zn) (ja21:LX) (ja22:TS):List (Sem Sh.str)→Int→zn→Bool
 | [],_,s3=>(cx ja0 ja1 ja2 ja3 ja4 ja5 ja6 ja7 ja8 ja9 ja10 ja11 ja12 ja13 ja14 ja15 ja16 ja17 ja18
 ja19 ja20 ja21 ja22 ja7 0 s3)
 | x::r,i26,s3=>(if decide ([32,44,32,85,78,73,81,85,69,32,40,32].length+length x≤1099511627776)=true then
 if decide (length ([32,44,32,85,78,73,81,85,69,32,40,32]++x)+[32,41].length≤1099511627776)=true then
  if decide (length s3+length ([32,44,32,85,78,73,81,85,69,32,40,32]++x++[32,41])≤1099511627776)=true then
   c8 ja0 ja1 ja2 ja3 ja4 ja5 ja6 ja7 ja8 ja9 ja10 ja11 ja12 ja13 ja14 ja15 ja16 ja17 ja18
    ja19 ja20 ja21 ja22 r (i26+1) (s3++([32,44,32,85,78,73,81,85,69,32,40,32]++x++[32,41]))
  else false
 else false
else false)
theorem Qo {C:bW} (hC:∀ id,C.ρ0 id=none) (ja0:TS) (ja1:TS) (ja2:TS) (ja3:LS) (ja4:LC) (ja5:TS) (ja6:LS) (ja7:List (Sem (Sh.str.pr Sh.str))) (ja8:zn) (ja9:Int) (ja10:Int) (ja11:zn) (ja12:zn) (ja13:LX) (ja14:LV) (ja15:List (Sem (Sh.str.pr Sh.expr))) (ja16:zn) (ja17:Int) (ja18:Int) (ja19:zn) (ja20:zn) (ja21:LX) (ja22:TS) (l24:LS) (hl:l24.length≤zD):∀ (m i:Nat) (s3:zn),l24.length - i=m→i≤l24.length→c8 ja0 ja1 ja2 ja3 ja4 ja5 ja6 ja7 ja8 ja9 ja10 ja11 ja12 ja13 ja14 ja15 ja16 ja17 ja18 ja19 ja20 ja21 ja22 (l24.drop i) i s3=true→
  Reach (fP) C 159 (zx Tryz.f159 5) (Bp s3 l24 (l24.length:Int) (i:Int) ja0 ja1 ja2 ja3 ja4 ja5 ja6 ja7 ja8 ja9 ja10 ja11 ja12 ja13 ja14 ja15 ja16 ja17 ja18 ja19 ja20 ja21 ja22) (fun r h=>zX h [Sh.str] r=some (cT ja0 ja1 ja2 ja3 ja4 ja5 ja6 ja7 ja8 ja9 ja10 ja11 ja12 ja13 ja14 ja15 ja16 ja17 ja18 ja19 ja20 ja21 ja22 (l24.drop i) i s3,())):=by
 intro m
 induction m with
 | zero=>
  intro i s3 hm hi hc
  obtain rfl:i=l24.length:=by omega
  rw [cQ] at hc ⊢
  refine zk dk (Fp) (fun id _=>hC id) (IB _ _ _ _ _ _ _ _ _ _ _ _ _ _ _ _ _ _ _ _ _ _ _ _ _ _ _) ?_
  rw [c8] at hc
  generalize hy:cT ja0 ja1 ja2 ja3 ja4 ja5 ja6 ja7 ja8 ja9 ja10 ja11 ja12 ja13 ja14 ja15 ja16 ja17 ja18 ja19 ja20 ja21 ja22 [] _ s3=y
  rw [cT] at hy
  simp only [ap,Tr.val_brF]
  repeat' (first | with_reducible refine ea hy hc (fun _ hy hc=>?_) (fun _ hy hc=>?_) | with_reducible refine aM hy (fun _ hy=>?_) (fun _ hy=>?_) | with_reducible refine aX hc (fun hc=>?_) | with_reducible refine zo ?_)
  all_goals first | (cases hc; done) | (subst hy; first | (change Reach _ _ _ _ _ _; apply rK hC <;> first | assumption | exact hc) | rfl)
 | succ m IH=>
  intro i s3 hm hi hc
  have hlt:i < l24.length:=by omega
  have IH:=IH (i+1)
  have hcast:((i:Int)+1)=((i+1:Nat):Int):=by omega
  have hwr:=zG i (by omega)
  rw [c6 hlt] at hc ⊢
  refine zk dk (Fp) (fun id _=>hC id) (IB _ _ _ _ _ _ _ _ _ _ _ _ _ _ _ _ _ _ _ _ _ _ _ _ _ _ _) ?_
  rw [c8] at hc
  generalize hy:cT ja0 ja1 ja2 ja3 ja4 ja5 ja6 ja7 ja8 ja9 ja10 ja11 ja12 ja13 ja14 ja15 ja16 ja17 ja18 ja19 ja20 ja21 ja22 (l24[i]::l24.drop (i+1)) (i:Int) s3=y
  rw [cT] at hy
  simp only [aH hlt,zN hlt,ag l24 _ hlt,hwr,Tr.val_brT,Tr.val_chkT]
  clear hwr
  try simp only [zN hlt] at hy
  simp only [hcast] at hy
  try simp only [zN hlt] at hc
  try simp only [hcast] at hc
  repeat' (first | with_reducible refine ea hy hc (fun _ hy hc=>?_) (fun _ hy hc=>?_) | with_reducible refine aM hy (fun _ hy=>?_) (fun _ hy=>?_) | with_reducible refine aX hc (fun hc=>?_) | with_reducible refine zo ?_)
  all_goals first | (cases hc; done) | (subst hy; first | (change Reach _ _ _ _ _ _; apply IH <;> first | omega | assumption) | (change Reach _ _ _ _ _ _; apply rK hC <;> first | assumption | exact hc) | rfl)
theorem wY {C:bW} (hC:∀ id,C.ρ0 id=none) (ja0:TS) (ja1:TS) (ja2:TS) (ja3:LS) (ja4:LC) (ja5:TS) (ja6:LS) (ja7:List (Sem (Sh.str.pr Sh.str))) (ja8:zn) (ja9:Int) (ja10:Int) (ja11:zn) (ja12:zn) (ja13:LX) (ja14:LV) (ja15:List (Sem (Sh.str.pr Sh.expr))) (ja16:zn) (ja17:Int) (ja18:Int) (ja19:zn) (ja20:zn) (ja21:LX) (ja22:TS) (l24:LS) (s3:zn) (hc:c8 ja0 ja1 ja2 ja3 ja4 ja5 ja6 ja7 ja8 ja9 ja10 ja11 ja12 ja13 ja14 ja15 ja16 ja17 ja18 ja19 ja20 ja21 ja22 l24 0 s3=true):
  Reach (fP) C 159 (zx Tryz.f159 5) (Bp s3 l24 (l24.length:Int) 0 ja0 ja1 ja2 ja3 ja4 ja5 ja6 ja7 ja8 ja9 ja10 ja11 ja12 ja13 ja14 ja15 ja16 ja17 ja18 ja19 ja20 ja21 ja22) (fun r h=>zX h [Sh.str] r=some (cT ja0 ja1 ja2 ja3 ja4 ja5 ja6 ja7 ja8 ja9 ja10 ja11 ja12 ja13 ja14 ja15 ja16 ja17 ja18 ja19 ja20 ja21 ja22 l24 0 s3,())):=
 Reach.len 24 (Sh.str) l24 rfl fun hl=>Qo hC ja0 ja1 ja2 ja3 ja4 ja5 ja6 ja7 ja8 ja9 ja10 ja11 ja12 ja13 ja14 ja15 ja16 ja17 ja18 ja19 ja20 ja21 ja22 l24 hl _ 0 s3 rfl (aZ _) hc
def lz (x0:Sem zq):Sem Sh.str:=(cT x0.1 x0.2.1 x0.2.2.1 x0.2.2.2.1 x0.2.2.2.2.1 x0.2.2.2.2.2.1 x0.2.2.2.2.2.2.1 x0.2.2.2.2.2.2.2.1 (ze.op x0.2.2.2.2.2.2.2.2.1) (ze.v x0.2.2.2.2.2.2.2.2.1).1 (ze.v x0.2.2.2.2.2.2.2.2.1).2.1 (ze.v x0.2.2.2.2.2.2.2.2.1).2.2 (ze.s x0.2.2.2.2.2.2.2.2.1) (ze.l x0.2.2.2.2.2.2.2.2.1) x0.2.2.2.2.2.2.2.2.2.1 x0.2.2.2.2.2.2.2.2.2.2.1 (ze.op x0.2.2.2.2.2.2.2.2.2.2.2.1) (ze.v x0.2.2.2.2.2.2.2.2.2.2.2.1).1 (ze.v x0.2.2.2.2.2.2.2.2.2.2.2.1).2.1 (ze.v x0.2.2.2.2.2.2.2.2.2.2.2.1).2.2 (ze.s x0.2.2.2.2.2.2.2.2.2.2.2.1) (ze.l x0.2.2.2.2.2.2.2.2.2.2.2.1) x0.2.2.2.2.2.2.2.2.2.2.2.2 x0.2.2.2.2.2.2.1 0 ([67,82,69,65,84,69,32,84,65,66,76,69,32]++x0.2.1++[32,40,32]++cS x0.2.2.2.2.1++([32,44,32,75,69,89,32,40,32]++x0.2.2.2.2.2.1++[32,41])))
def kJ (x0:Sem zq):Bool:=(if decide ([67,82,69,65,84,69,32,84,65,66,76,69,32].length+length x0.2.1≤1099511627776)=true then if decide (length ([67,82,69,65,84,69,32,84,65,66,76,69,32]++x0.2.1)+[32,40,32].length≤1099511627776)=true then if gR x0.2.2.2.2.1=true then if decide (length ([67,82,69,65,84,69,32,84,65,66,76,69,32]++x0.2.1++[32,40,32])+length (cS x0.2.2.2.2.1)≤1099511627776)=true then if decide ([32,44,32,75,69,89,32,40,32].length+length x0.2.2.2.2.2.1≤1099511627776)=true then if decide (length ([32,44,32,75,69,89,32,40,32]++x0.2.2.2.2.2.1)+[32,41].length≤1099511627776)=true then if decide (length ([67,82,69,65,84,69,32,84,65,66,76,69,32]++x0.2.1++[32,40,32]++cS x0.2.2.2.2.1)+length ([32,44,32,75,69,89,32,40,32]++x0.2.2.2.2.2.1++[32,41])≤1099511627776)=true then c8 x0.1 x0.2.1 x0.2.2.1 x0.2.2.2.1 x0.2.2.2.2.1 x0.2.2.2.2.2.1 x0.2.2.2.2.2.2.1 x0.2.2.2.2.2.2.2.1 (ze.op x0.2.2.2.2.2.2.2.2.1) (ze.v x0.2.2.2.2.2.2.2.2.1).1 (ze.v x0.2.2.2.2.2.2.2.2.1).2.1 (ze.v x0.2.2.2.2.2.2.2.2.1).2.2 (ze.s x0.2.2.2.2.2.2.2.2.1) (ze.l x0.2.2.2.2.2.2.2.2.1) x0.2.2.2.2.2.2.2.2.2.1 x0.2.2.2.2.2.2.2.2.2.2.1 (ze.op x0.2.2.2.2.2.2.2.2.2.2.2.1) (ze.v x0.2.2.2.2.2.2.2.2.2.2.2.1).1 (ze.v x0.2.2.2.2.2.2.2.2.2.2.2.1).2.1
 (ze.v x0.2.2.2.2.2.2.2.2.2.2.2.1).2.2 (ze.s x0.2.2.2.2.2.2.2.2.2.2.2.1) (ze.l x0.2.2.2.2.2.2.2.2.2.2.2.1) x0.2.2.2.2.2.2.2.2.2.2.2.2 x0.2.2.2.2.2.2.1 0 ([67,82,69,65,84,69,32,84,65,66,76,69,32]++x0.2.1++[32,40,32]++cS x0.2.2.2.2.1++([32,44,32,75,69,89,32,40,32]++x0.2.2.2.2.2.1++[32,41])) else false else false else false else false else false else false else false)
def F90:zB:=zA [zq] [Sh.str] (fun x=>kJ x.1) fun x=>(lz x.1,())
theorem VA:FK 159 F90:=by
 refine zL (Fp) fun x hc C hC=>?_
 unfold kJ at hc
 refine zk dk (Fp) (fun id _=>hC id) (za4 x.1) ?_
 generalize hy:lz x.1=y
 unfold lz at hy
 try simp only [ze.eta,zt]
 repeat' (first | with_reducible refine ea hy hc (fun _ hy hc=>?_) (fun _ hy hc=>?_) | with_reducible refine aM hy (fun _ hy=>?_) (fun _ hy=>?_) | with_reducible refine aX hc (fun hc=>?_) | with_reducible refine zo ?_)
 all_goals first | (cases hc; done) | (subst hy; first | (change Reach _ _ _ _ _ _; apply wY hC <;> first | assumption | exact hc) | (change Reach _ _ _ _ _ _; apply rK hC <;> first | assumption | exact hc) | rfl)

noncomputable def vM:=fP.addL [(150,F81),(164,F95),(159,F90)]
theorem pb:zm vM:=dk.addL <| fc Vq <| fc VF <| fc VA gX
open Go

inductive CP where
 | d (s:Sh)
 | nil
 | vec (e:Sh)

@[reducible] def zu:List CP→Type
 | []=>Unit
 | .d s::r=>Sem s×zu r
 | .nil::r=>zu r
 | .vec e::r=>List (Sem e)×zu r

def eQ:(n:Nat)→(ps:List CP)→zu ps→List AV
 | _,[],_=>[]
 | n,.d s::r,y=>zl s y.1++eQ n r y.2
 | n,.nil::r,y=>.nils::eQ n r y
 | n,.vec _::r,y=>.vec n::eQ (n+1) r y.2

def eR:(ps:List CP)→zu ps→List AO
 | [],_=>[]
 | .d _::r,y=>eR r y.2
 | .nil::r,y=>eR r y
 | .vec e::r,y=>.vec e y.1::eR r y.2

def bx (ps:List CP) (y:zu ps):List AO:=.box (eQ 1 ps y)::eR ps y

def ao:List CP→Nat
 | []=>0
 | .vec _::r=>ao r+1
 | _::r=>ao r

theorem bd:∀ (ps:List CP) (y:zu ps),(eR ps y).length=ao ps
 | [],_=>rfl
 | .d _::r,y=>bd r y.2
 | .nil::r,y=>bd r y
 | .vec _::r,y=>congrArg (· + 1) (bd r y.2)

def bN (hp:Nat→AO):(n:Nat)→(ps:List CP)→List AV→Option (zu ps)
 | _,[],[]=>some ()
 | n,.d s::r,cs=>match bG (fun _=>.dead) s cs with
  | some (x,cs')=>match bN hp n r cs' with
   | some y=>some (x,y)
   | none=>none
  | none=>none
 | n,.nil::r,.nils::cs=>bN hp n r cs
 | n,.vec e::r,.vec id::cs=>if id=n then match hp id with
   | .vec e' l=>if h:e'=e then match bN hp (n+1) r cs with
     | some y=>some (h▸l,y)
     | none=>none
    else none
   | _=>none
  else none
 | _,_,_=>none

section
variable {w:World} {U:Nat→Prop} {ρ:Nat→Option Value}

theorem bY.app {a b:List AV} {va vb:List Value} (h1:bY w U ρ a va) (h2:bY w U ρ b vb):bY w U ρ (a++b) (va++vb) where
 len:=by simp [h1.len,h2.len]
 rv:=by
  intro j c v hc hv
  by_cases hj:j < a.length
  ·rw [iK hj] at hc
   rw [iK (by rw [← h1.len]; exact hj)] at hv
   exact h1.rv j c v hc hv
  ·rw [jG (by omega)] at hc
   rw [jG (by rw [← h1.len]; omega),← h1.len] at hv
   exact h2.rv _ c v hc hv

theorem bY.tail {a:AV} {l:List AV} {v:Value} {vs:List Value} (h:bY w U ρ (a::l) (v::vs)):bY w U ρ l vs:=
 ⟨by have:=h.len; simpa using this,fun j c x hc hx=>h.rv (j+1) c x (by simpa using hc) (by simpa using hx)⟩

theorem bY.consH {a:AV} {l:List AV} {v:Value} {vs:List Value} (h1:Rv w U ρ a v) (h2:bY w U ρ l vs):bY w U ρ (a::l) (v::vs) where
 len:=by simp [h2.len]
 rv:=by
  intro j c x hc hx
  cases j with
  | zero=>simp at hc hx; subst hc; subst hx; exact h1
  | succ j=>exact h2.rv j c x (by simpa using hc) (by simpa using hx)

theorem dB {hp:Nat→AO}:∀ (ps:List CP) (n:Nat) (cs:List AV) (y:zu ps) (vals:List Value),bN hp n ps cs=some y→bY w U ρ cs vals→
  bY w U ρ (eQ n ps y) vals∧∀ (j:Nat) o,(eR ps y)[j]?=some o→hp (n+j)=o
 | [],n,[],y,vals,h,hr=>⟨hr,by simp [eR]⟩
 | [],n,_::_,y,vals,h,hr=>by simp [bN] at h
 | .d s::r,n,cs,y,vals,h,hr=>by
  unfold bN at h
  split at h
  ·rename_i x cs' hi
   split at h
   ·rename_i y' hy
    cases h
    have hk:=fD (w:=w) (U:=U) (U':=U) (ρ:=ρ) (hp:=fun _=>.dead) (fun _ h=>h) s cs x cs' (fun j=>vals.getD j undef) hi
     (fun j c hc=>by
      have hlt:j < vals.length:=by rw [← hr.len]; exact (bw.1 hc).1
      have:=hr.rv j c vals[j] hc (zJ hlt)
      simpa [getD,zJ hlt] using this)
     (fun id _=>⟨trivial,fun b hb=>by simp [zM,AO.owns] at hb⟩)
    obtain ⟨k1,k2,k3⟩:=hk
    have hdrop:bY w U ρ cs' (vals.drop s.size):=by
     refine ⟨by rw [k2]; simp [hr.len],fun j c v hc hv=>?_⟩
     rw [k2,ml] at hc
     rw [ml] at hv
     exact hr.rv _ c v hc hv
    obtain ⟨i1,i2⟩:=dB r n cs' y' (vals.drop s.size) hy hdrop
    refine ⟨?_,i2⟩
    have htake:bY w U ρ (zl s x) (vals.take s.size):=by
     refine ⟨by rw [zK]; have:=hr.len; simp; omega,fun j c v hc hv=>?_⟩
     have hj:j < s.size:=by rw [← zK s x]; exact (bw.1 hc).1
     rw [vq,if_pos hj] at hv
     have:=k3 j c hc
     simpa [getD,hv] using this
    have:=htake.app i1
    rw [List.take_append_drop] at this
    exact this
   ·cases h
  ·cases h
 | .nil::r,n,.nils::cs,y,vals,h,hr=>by
  match vals,hr with
  | [],hr=>have:=hr.len; simp at this
  | v::vs,hr=>
   have hv:=hr.rv 0 _ v rfl rfl
   obtain ⟨i1,i2⟩:=dB r n cs y vs h hr.tail
   exact ⟨bY.consH hv i1,i2⟩
 | .vec e::r,n,.vec id::cs,y,vals,h,hr=>by
  match vals,hr with
  | [],hr=>have:=hr.len; simp at this
  | v :: vs,hr=>
   have hv:=hr.rv 0 _ v rfl rfl
   unfold bN at h
   split at h
   ·rename_i hid
    subst hid
    split at h
    ·rename_i e' l ho
     split at h
     ·rename_i he
      subst he
      split at h
      ·rename_i y' hy
       cases h
       obtain ⟨i1,i2⟩:=dB r (id+1) cs y' vs hy hr.tail
       refine ⟨bY.consH hv i1,fun j o hj=>?_⟩
       cases j with
       | zero=>simp [eR] at hj; subst hj; exact ho
       | succ j=>
        have:=i2 j o (by simpa [eR] using hj)
        rw [← this]
        congr 1
        omega
      ·cases h
     ·cases h
    ·cases h
   ·cases h
 | .nil::_,_,[],_,_,h,_=>by simp [bN] at h
 | .vec _::_,_,[],_,_,h,_=>by simp [bN] at h
 | .nil::_,_,.any::_,_,_,h,_ | .nil::_,_,.kb _::_,_,_,h,_ | .nil::_,_,.bool _::_,_,_,h,_ | .nil::_,_,.int _ _::_,_,_,h,_ | .nil::_,_,.str _::_,_,_,h,_
 | .nil::_,_,.sl _ _::_,_,_,h,_ | .nil::_,_,.vec _::_,_,_,h,_ | .nil::_,_,.ptr _ _::_,_,_,h,_ | .nil::_,_,.vptr _ _ _ _::_,_,_,h,_ | .nil::_,_,.eptr _ _::_,_,_,h,_
 | .nil::_,_,.nilp::_,_,_,h,_ | .nil::_,_,.agg _::_,_,_,h,_ | .nil::_,_,.tup _::_,_,_,h,_ | .nil::_,_,.clo _ _ _::_,_,_,h,_ | .nil::_,_,.nilf::_,_,_,h,_
 | .nil::_,_,.mp _::_,_,_,h,_ | .nil::_,_,.ifc _::_,_,_,h,_ | .nil::_,_,.tab _ _::_,_,_,h,_ | .nil::_,_,.gint::_,_,_,h,_ | .nil::_,_,.vsuf _ _ _::_,_,_,h,_=>by simp [bN] at h
 | .vec _::_,_,.any::_,_,_,h,_ | .vec _::_,_,.kb _::_,_,_,h,_ | .vec _::_,_,.bool _::_,_,_,h,_ | .vec _::_,_,.int _ _::_,_,_,h,_ | .vec _::_,_,.str _::_,_,_,h,_
 | .vec _::_,_,.sl _ _::_,_,_,h,_ | .vec _::_,_,.nils::_,_,_,h,_ | .vec _::_,_,.ptr _ _::_,_,_,h,_ | .vec _::_,_,.vptr _ _ _ _::_,_,_,h,_ | .vec _::_,_,.eptr _ _::_,_,_,h,_
 | .vec _::_,_,.nilp::_,_,_,h,_ | .vec _::_,_,.agg _::_,_,_,h,_ | .vec _::_,_,.tup _::_,_,_,h,_ | .vec _::_,_,.clo _ _ _::_,_,_,h,_ | .vec _::_,_,.nilf::_,_,_,h,_
 | .vec _::_,_,.mp _::_,_,_,h,_ | .vec _::_,_,.ifc _::_,_,_,h,_ | .vec _::_,_,.tab _ _::_,_,_,h,_ | .vec _::_,_,.gint::_,_,_,h,_ | .vec _::_,_,.vsuf _ _ _::_,_,_,h,_=>by simp [bN] at h
end

theorem fK.box {C:bW} {w:World} {U:Nat→Prop} {ρ:Nat→Option Value} {cs:List AV} {os:List AO} {ps:List CP} {y:zu ps} (hH:fK C w U ρ (fun j=>((AO.box cs::os).getD j .dead))) (hl:os.length=ao ps)
  (hm:bN (gE (.box cs::os)) 1 ps cs=some y):fK C w U ρ (fun j=>(bx ps y).getD j .dead):=by
 have h0:aU w U ρ 0 (.box cs):=hH.ob 0
 obtain ⟨b,T,vals,h1,h2,h3,h4,h5⟩:=h0
 obtain ⟨k1,k2⟩:=dB ps 1 cs y vals.toList hm h4
 have hobj:∀ id,id≠0→(bx ps y).getD id .dead=(AO.box cs::os).getD id .dead:=by
  intro id hid
  obtain ⟨j,rfl⟩:∃ j,id=j+1:=⟨id - 1,by omega⟩
  by_cases hj:j < (eR ps y).length
  ·have:=k2 j _ (zJ hj)
   unfold bx
   simp only [vo]
   rw [aJ,zJ hj]
   simp only [gE,nr 1 j,vo] at this
   simpa using this.symm
  ·have h7:os.length≤j:=by rw [bd] at hj; omega
   unfold bx
   simp only [vo]
   rw [aJ,aJ,dn (by omega),dn h7]
 have hown:∀ id b,zM ρ id ((bx ps y).getD id .dead) b→zM ρ id ((AO.box cs::os).getD id .dead) b:=by
  intro id b' ho
  by_cases hid:id=0
  ·subst hid
   obtain ⟨_,v,hv,hb⟩:=ho
   exact ⟨rfl,v,hv,hb⟩
  ·rw [hobj id hid] at ho; exact ho
 refine ⟨fun id=>?_,fun id1 id2 b' o1 o2=>hH.inj id1 id2 b' (hown _ _ o1) (hown _ _ o2),fun id b' o=>hH.blk id b' (hown _ _ o)⟩
 by_cases hid:id=0
 ·subst hid
  exact ⟨b,T,vals,h1,h2,h3,k1,h5⟩
 ·show aU w U ρ id ((bx ps y).getD id .dead)
  rw [hobj id hid]
  exact hH.ob id

def w5 (ps:List CP) (outs:List Sh) (r:AV) (h:List AO):Option (zw (outs.map some)×zu ps):=match h with
 | .box cs::os=>if os.length=ao ps then match zX [] outs r,bN (gE (.box cs::os)) 1 ps cs with
   | some a,some y=>some (a,y)
   | _,_=>none
  else none
 | _=>none

def Wb (ps:List CP) (ks outs:List Sh) (ps':List CP) (c:zu ps→zw (ks.map some)→Bool) (g:zu ps→zw (ks.map some)→zw (outs.map some)×zu ps'):b7 (none::ks.map some):=fun x h=>match x.1,h with
 | .ptr 0 0,.box cs::os=>if os.length=ao ps then match bN (gE (.box cs::os)) 1 ps cs with
   | some y=>.chk (c y x.2) (.ok (qo outs (g y x.2).1,bx ps' (g y x.2).2))
   | none=>.err
  else .err
 | _,_=>.err

def uG (ps:List CP) (ks outs:List Sh) (ps':List CP) (c:zu ps→zw (ks.map some)→Bool) (g:zu ps→zw (ks.map some)→zw (outs.map some)×zu ps'):zB:=zP (none::ks.map some) (Wb ps ks outs ps' c g)

theorem mo (ps:List CP) (y:zu ps):(bx ps y).length=ao ps+1:=by
 simp [bx,bd]

theorem wF {w:World} {U:Nat→Prop} {ρ:Nat→Option Value} {outs:List Sh} {r:AV} {y:zw (outs.map some)} {v:Value} (h:zX [] outs r=some y) (hr:Rv w U ρ r v):Rv w U ρ (qo outs y) v:=by
 have hob:∀ id,aU w U ρ id (gE [] id)∧∀ b,zM ρ id (gE [] id) b→¬ U b:=fun id=>⟨by simp [gE,aU],fun b hb=>by simp [gE,zM,AO.owns] at hb⟩
 have htup:∀ (outs:List Sh) (y:zw (outs.map some)) (rs:List AV),iC (gE []) (fun i=>i) (outs.map some) rs=some y→Rv w U ρ (.tup rs) v→Rv w U ρ (.tup (fm (outs.map some) y)) v:=by
  intro outs y rs hy hrv
  cases hrv with
  | tup _ vs hl hr2=>
  have:=(fT (w:=w) (U:=U) (ρ:=ρ) (U':=U) (ρ':=ρ) (hp:=gE []) (f:=fun i=>i) (fun b hb=>hb) (outs.map some) rs vs _ (kX outs rs y hy) ⟨hl,hr2⟩ (fun id _=>hob id)
   (fun id _=>rfl)).1
  simp only [pU,np,aI,if_false,List.map_id'] at this
  exact .tup _ vs this.len this.rv
 match outs,y,h with
 | [s],y,h=>
  simp only [zX] at h
  split at h
  ·rename_i x hx
   cases h
   exact r7 hx hr (fun b hb=>hb) (fun id _=>hob id)
  ·cases h
 | [],y,h=>
  simp only [zX] at h
  cases r with
  | tup rs=>exact htup [] y _ h hr
  | _=>cases h
 | s1::s2::ss,y,h=>
  simp only [zX] at h
  cases r with
  | tup rs=>exact htup _ y _ h hr
  | _=>cases h

theorem KH {P:Program} {gl:Nat→AV} {E:ba} {k:FuncId} {f:Func} {ps:List CP} {ks outs:List Sh} {ps':List CP} {c:zu ps→zw (ks.map some)→Bool} {g:zu ps→zw (ks.map some)→zw (outs.map some)×zu ps'} (hf:zz E.P k f (ks.length+1))
  (h:∀ y x,c y x=true→∀ C:bW,(∀ id,ao ps+1≤id→C.ρ0 id=none)→Reach E C k (ah f) (zU f.ntmps (.ptr 0 0::fm (ks.map some) x) (bx ps y)) (fun r h=>w5 ps' outs r h=some (g y x))) (qp:E.P=P:=by rfl) (qg:E.gl=gl:=by rfl):
  kx P gl k (uG ps ks outs ps' c g):=by
 subst qp qg
 refine bb (by simpa using hf) fun x h0 res hx C hC=>?_
 obtain ⟨x0,x⟩:=x
 unfold Wb at hx
 simp only at hx
 split at hx
 ·rename_i cs os
  split at hx
  ·rename_i hos
   split at hx
   ·rename_i y hy
    simp only [Tr.val] at hx
    split at hx
    ·rename_i hc
     simp only [zZ] at hx
     subst hx
     have hR:=h y x hc C (fun id hid=>hC id (by simpa [hos] using hid))
     intro b cs' a w U ρ h1 h2 hcn hW
     have hH:fK C w U ρ (fun j=>((AO.box cs::os).getD j .dead)):=hcn.hp
     have hcn':Cn C (zU f.ntmps (.ptr 0 0::fm (ks.map some) x) (bx ps y)) a w U ρ:=
      ⟨hcn.tm,hH.box hos hy,fun id hid=>hcn.new id (by have hid:(bx ps y).length≤id:=hid; rw [mo] at hid; simpa [zU,hos] using hid),hcn.df,hcn.r0⟩
     obtain ⟨e,w',fr,⟨v,r,h',U',ρ',he,hq,hrv,hH',hnew,hr0,hWd⟩,hcm,hf',hl⟩:=hR b cs' a w U ρ h1 h2 hcn' hW
     unfold w5 at hq
     split at hq
     ·rename_i cs2 os2
      split at hq
      ·rename_i hos2
       split at hq
       ·rename_i a' y' ha' hy'
        simp only [zZ] at hq
        refine ⟨e,w',fr,⟨v,_,_,U',ρ',he,by rw [← hq],wF ha' hrv,hH'.box hos2 hy',fun id hid=>hnew id (by rw [mo] at hid; simpa [hos2] using hid),hr0,hWd⟩,hcm,hf',hl⟩
       ·cases hq
      ·cases hq
     ·cases hq
    ·simp at hx
   ·simp at hx
  ·simp at hx
 ·simp at hx


def nS (E:ba) (n0:Nat) (keep:Nat→zS) (f:Func) (gas:Nat):Nat→List Item→St→Option (AV×List AO)
 | 0,_,_=>none
 | n+1,K,st=>match (run E n0 keep f.results.toList gas K st).val with
  | some (.ret v h)=>some (v,h)
  | some (.head _ K' st')=>nS E n0 keep f gas n K' st'
  | _=>none

theorem jm {E:ba} {C:bW} {k:FuncId} {f:Func} {Q:AV→List AO→Prop} {m n0:Nat} (hE:zm E) (hf:zz E.P k f m) (hC:∀ id,n0≤id→C.ρ0 id=none) {keep:Nat→zS} {gas:Nat}:
  ∀ (n:Nat) (K:List Item) (st:St) (r:AV×List AO),nS E n0 keep f gas n K st=some r→Q r.1 r.2→Reach E C k K st Q
 | 0,_,_,_,h,_=>by cases h
 | n+1,K,st,r,h,hQ=>by
  unfold nS at h
  split at h
  ·rename_i v h' hv
   cases h
   exact lX hE hf hC hv hQ
  ·rename_i j K' st' hv
   exact lX hE hf hC hv (jm hE hf hC n K' st' r h hQ)
  ·cases h

def bD:(outs:List Sh)→zw (outs.map some)
 | []=>()
 | s::r=>(zj s,bD r)

def eS:(ps:List CP)→zu ps
 | []=>()
 | .d s::r=>(zj s,eS r)
 | .nil::r=>eS r
 | .vec _::r=>([],eS r)

def bn:List Nat→(ps:List CP)→zu ps→List AV
 | _,[],_=>[]
 | n,.d s::r,y=>zl s y.1++bn n r y.2
 | n,.nil::r,y=>.nils::bn n r y
 | n,.vec _::r,y=>.vec (n.headD 0)::bn n.tail r y.2

def NY (E:ba) (keep:Nat→zS) (f:Func) (gas n:Nat) (ks outs:List Sh) (x:zw (ks.map some)):Option (zw (outs.map some)):=
 (nS E 0 keep f gas n (ah f) (zU f.ntmps (fm (ks.map some) x) [])).bind fun r=>zX r.2 outs r.1

def Sm (ks outs:List Sh) (g:zw (ks.map some)→Option (zw (outs.map some))):zB:=zA ks outs (fun x=>(g x).isSome) fun x=>(g x).getD (bD outs)

theorem Qc {P:Program} {gl:Nat→AV} {E:ba} {k:FuncId} {f:Func} {ks outs:List Sh} {keep:Nat→zS} {gas n:Nat} (hE:zm E) (hf:zz E.P k f ks.length) (qp:E.P=P:=by rfl) (qg:E.gl=gl:=by rfl):kx P gl k (Sm ks outs (NY E keep f gas n ks outs)):=by
 subst qp qg
 refine zL hf fun x hc C hC=>?_
 rw [Option.isSome_iff_exists] at hc
 obtain ⟨y,hy⟩:=hc
 rw [hy]
 unfold NY at hy
 rw [dT] at hy
 obtain ⟨r,h1,h2⟩:=hy
 exact jm hE hf (fun id _=>hC id) n _ _ r h1 h2

def NX (E:ba) (keep:Nat→zS) (f:Func) (gas n:Nat) (ps:List CP) (ks outs:List Sh) (ps':List CP) (y:zu ps) (x:zw (ks.map some)):Option (zw (outs.map some)×zu ps'):=
 (nS E (ao ps+1) keep f gas n (ah f) (zU f.ntmps (.ptr 0 0::fm (ks.map some) x) (bx ps y))).bind fun r=>w5 ps' outs r.1 r.2

def ZW (ps:List CP) (ks outs:List Sh) (ps':List CP) (g:zu ps→zw (ks.map some)→Option (zw (outs.map some)×zu ps')):zB:=
 uG ps ks outs ps' (fun y x=>(g y x).isSome) fun y x=>(g y x).getD (bD outs,eS ps')

theorem KI {P:Program} {gl:Nat→AV} {E:ba} {k:FuncId} {f:Func} {ps:List CP} {ks outs:List Sh} {ps':List CP} {keep:Nat→zS} {gas n:Nat} (hE:zm E) (hf:zz E.P k f (ks.length+1)) (qp:E.P=P:=by rfl) (qg:E.gl=gl:=by rfl):kx P gl k (ZW ps ks outs ps' (NX E keep f gas n ps ks outs ps')):=by
 subst qp qg
 refine KH hf fun y x hc C hC=>?_
 rw [Option.isSome_iff_exists] at hc
 obtain ⟨z,hz⟩:=hc
 rw [hz]
 unfold NX at hz
 rw [dT] at hz
 obtain ⟨r,h1,h2⟩:=hz
 exact jm hE hf hC n _ _ r h1 h2

theorem KJ {P:Program} {gl:Nat→AV} {E:ba} {k:FuncId} {f:Func} {ks outs:List Sh} {keep:Nat→zS} {gas n:Nat} {c:zw (ks.map some)→Bool} {g:zw (ks.map some)→zw (outs.map some)} (hE:zm E) (hf:zz E.P k f ks.length)
  (hc:∀ x,c x=(NY E keep f gas n ks outs x).isSome) (hg:∀ x,g x=(NY E keep f gas n ks outs x).getD (bD outs)) (qp:E.P=P:=by rfl) (qg:E.gl=gl:=by rfl):kx P gl k (zA ks outs c g):=by
 subst qp qg
 obtain rfl:c=fun x=>(NY E keep f gas n ks outs x).isSome:=funext hc
 obtain rfl:g=fun x=>(NY E keep f gas n ks outs x).getD (bD outs):=funext hg
 exact Qc hE hf

theorem F1 {P:Program} {gl:Nat→AV} {E:ba} {k:FuncId} {f:Func} {ps:List CP} {ks outs:List Sh} {ps':List CP} {keep:Nat→zS} {gas n:Nat} {c:zu ps→zw (ks.map some)→Bool} {g:zu ps→zw (ks.map some)→zw (outs.map some)×zu ps'} (hE:zm E) (hf:zz E.P k f (ks.length+1))
  (hc:∀ y x,c y x=(NX E keep f gas n ps ks outs ps' y x).isSome) (hg:∀ y x,g y x=(NX E keep f gas n ps ks outs ps' y x).getD (bD outs,eS ps')) (qp:E.P=P:=by rfl) (qg:E.gl=gl:=by rfl):kx P gl k (uG ps ks outs ps' c g):=by
 subst qp qg
 obtain rfl:c=fun y x=>(NX E keep f gas n ps ks outs ps' y x).isSome:=funext fun y=>funext fun x=>hc y x
 obtain rfl:g=fun y x=>(NX E keep f gas n ps ks outs ps' y x).getD (bD outs,eS ps'):=funext fun y=>funext fun x=>hg y x
 exact KI hE hf

abbrev au:=AV×List AO

def Tr.map {α β:Type} (f:α→β):Tr α→Tr β
 | .err=>.err
 | .chk c t=>.chk c (t.map f)
 | .br c t e=>.br c (t.map f) (e.map f)
 | .ok a=>.ok (f a)

theorem Tr.val_map {α β:Type} (f:α→β):∀ t:Tr α,(t.map f).val=t.val.map f
 | .err=>rfl
 | .chk c t=>by simp only [Tr.map,Tr.val,val_map f t]; split <;> rfl
 | .br c t e=>by simp only [Tr.map,Tr.val,val_map f t,val_map f e]; split <;> rfl
 | .ok _=>rfl

abbrev Tr.to {σ:Type} (s:σ):Tr (σ ⊕ au):=.ok (.inl s)
abbrev Tr.re {σ:Type} (v:AV) (h:List AO):Tr (σ ⊕ au):=.ok (.inr (v,h))

def bE {σ:Type} (t:σ→Tr (σ ⊕ au)):Nat→σ→Option au
 | 0,_=>none
 | n+1,s=>match (t s).val with
  | some (.inl s')=>bE t n s'
  | some (.inr r)=>some r
  | none=>none

def cM {σ:Type} (t:σ→Tr (σ ⊕ au)) (n:Nat) (i:Tr (σ ⊕ au)):Option au:=match i.val with
 | some (.inl s)=>bE t n s
 | some (.inr r)=>some r
 | none=>none

def lf {σ:Type} (f:Func) (e:σ→Nat×St):σ ⊕ au→zp
 | .inl s=>.head (e s).1 (zx f (e s).1) (e s).2
 | .inr r=>.ret r.1 r.2

def e0:Empty→Nat×St:=fun x=>nomatch x
def t0:Empty→Tr (Empty ⊕ au):=fun x=>nomatch x

section
variable {σ:Type} {E:ba} {n0:Nat} {keep:Nat→zS} {f:Func} {gas:Nat} {e:σ→Nat×St} {t:σ→Tr (σ ⊕ au)}

theorem DB (hon:∀ s,run E n0 keep f.results.toList gas (zx f (e s).1) (e s).2=(t s).map (lf f e)):∀ (n:Nat) (s:σ),nS E n0 keep f gas n (zx f (e s).1) (e s).2=bE t n s
 | 0,_=>rfl
 | n+1,s=>by
  rw [nS,hon s,Tr.val_map,bE]
  cases (t s).val with
  | none=>rfl
  | some l=>
   cases l with
   | inl s'=>exact DB hon n s'
   | inr r=>rfl

theorem hZ (hon:∀ s,run E n0 keep f.results.toList gas (zx f (e s).1) (e s).2=(t s).map (lf f e)) {K:List Item} {st:St} {i:Tr (σ ⊕ au)} (hgo:run E n0 keep f.results.toList gas K st=i.map (lf f e)) (n:Nat):nS E n0 keep f gas (n+1) K st=cM t n i:=by
 rw [nS,hgo,Tr.val_map,cM]
 cases i.val with
 | none=>rfl
 | some l=>
  cases l with
  | inl s=>exact DB hon n s
  | inr r=>rfl
end

def aq {σ:Type} (outs:List Sh) (t:σ→Tr (σ ⊕ au)) (n:Nat) (i:Tr (σ ⊕ au)):Option (zw (outs.map some)):=(cM t n i).bind fun r=>zX r.2 outs r.1

theorem g5 {P:Program} {gl:Nat→AV} {σ:Type} {E:ba} {k:FuncId} {f:Func} {ks outs:List Sh} {keep:Nat→zS} {gas n:Nat} {e:σ→Nat×St} {t:σ→Tr (σ ⊕ au)} {i:zw (ks.map some)→Tr (σ ⊕ au)} {c:zw (ks.map some)→Bool} {g:zw (ks.map some)→zw (outs.map some)}
  (hE:zm E) (hf:zz E.P k f ks.length) (hgo:∀ x,run E 0 keep f.results.toList gas (ah f) (zU f.ntmps (fm (ks.map some) x) [])=(i x).map (lf f e))
  (hon:∀ s,run E 0 keep f.results.toList gas (zx f (e s).1) (e s).2=(t s).map (lf f e))
  (hc:∀ x,c x=(aq outs t n (i x)).isSome) (hg:∀ x,g x=(aq outs t n (i x)).getD (bD outs)) (qp:E.P=P:=by rfl) (qg:E.gl=gl:=by rfl):kx P gl k (zA ks outs c g):=by
 subst qp qg
 have h:∀ x,NY E keep f gas (n+1) ks outs x=aq outs t n (i x):=by
  intro x
  unfold NY aq
  rw [hZ hon (hgo x)]
 exact KJ (n:=n+1) hE hf (fun x=>by rw [h,hc]) (fun x=>by rw [h,hg])

abbrev k0:Nat→zS:=fun _=>{ }
abbrev my:List (Nat×List Nat)→Nat→zS
 | [],_=>{ }
 | p::r,j=>if j=p.1 then { slots:=p.2 } else my r j
def o1 {a:Sh} (o:Option (zw [some a])):Sem a:=(o.getD (bD [a])).1
def o2 {a b:Sh} (o:Option (zw [some a,some b])):Sem a×Sem b:=((o.getD (bD [a,b])).1,(o.getD (bD [a,b])).2.1)
def o3 {a b c:Sh} (o:Option (zw [some a,some b,some c])):Sem a×Sem b×Sem c:=((o.getD (bD [a,b,c])).1,(o.getD (bD [a,b,c])).2.1,(o.getD (bD [a,b,c])).2.2.1)
def FT (ks outs:List Sh) (o:zw (ks.map some)→Option (zw (outs.map some))):zB:=zA ks outs (fun x=>(o x).isSome) fun x=>(o x).getD (bD outs)
theorem zm.T1 {P:Program} {gl:Nat→AV} {σ:Type} {E:ba} {k:FuncId} {f:Func} {ks outs:List Sh} {keep:Nat→zS} {n:Nat} {e:σ→Nat×St} {t:σ→Tr (σ ⊕ au)} {i:zw (ks.map some)→Tr (σ ⊕ au)} (hE:zm E) (gas:Nat:=400)
  (hf:(E.P.funcs[k]?,f.name == "runtime.NumGoroutine",f.body.isNone,decide (ks.length≤f.ntmps))=(some f,false,false,true):=by kernel_rfl)
  (hgo:∀ x,run E 0 keep f.results.toList gas (ah f) (zU f.ntmps (fm (ks.map some) x) [])=(i x).map (lf f e):=by intro x; kernel_rfl)
  (hon:∀ s,run E 0 keep f.results.toList gas (zx f (e s).1) (e s).2=(t s).map (lf f e):=by intro s; cases s <;> kernel_rfl) (qp:E.P=P:=by rfl) (qg:E.gl=gl:=by rfl):kx P gl k (FT ks outs fun x=>aq outs t n (i x)):=by
 subst qp qg
 exact g5 hE (aG hf) hgo hon (fun _=>rfl) fun _=>rfl

theorem FO (E:ba) (n0:Nat) (keep:Nat→zS) (f:Func) (gas:Nat):∀ s,run E n0 keep f.results.toList gas (zx f (e0 s).1) (e0 s).2=(t0 s).map (lf f e0):=fun s=>nomatch s

def uT {σ:Type} (outs:List Sh) (ps':List CP) (t:σ→Tr (σ ⊕ au)) (n:Nat) (i:Tr (σ ⊕ au)):Option (zw (outs.map some)×zu ps'):=(cM t n i).bind fun r=>w5 ps' outs r.1 r.2

theorem oM {P:Program} {gl:Nat→AV} {σ:Type} {E:ba} {k:FuncId} {f:Func} {ps:List CP} {ks outs:List Sh} {ps':List CP} {keep:Nat→zS} {gas n:Nat} {e:σ→Nat×St} {t:σ→Tr (σ ⊕ au)} {i:zu ps→zw (ks.map some)→Tr (σ ⊕ au)} {c:zu ps→zw (ks.map some)→Bool} {g:zu ps→zw (ks.map some)→zw (outs.map some)×zu ps'}
  (hE:zm E) (hf:zz E.P k f (ks.length+1)) (hgo:∀ y x,run E (ao ps+1) keep f.results.toList gas (ah f) (zU f.ntmps (.ptr 0 0::fm (ks.map some) x) (bx ps y))=(i y x).map (lf f e))
  (hon:∀ s,run E (ao ps+1) keep f.results.toList gas (zx f (e s).1) (e s).2=(t s).map (lf f e))
  (hc:∀ y x,c y x=(uT outs ps' t n (i y x)).isSome) (hg:∀ y x,g y x=(uT outs ps' t n (i y x)).getD (bD outs,eS ps')) (qp:E.P=P:=by rfl) (qg:E.gl=gl:=by rfl):kx P gl k (uG ps ks outs ps' c g):=by
 subst qp qg
 have h:∀ y x,NX E keep f gas (n+1) ps ks outs ps' y x=uT outs ps' t n (i y x):=by
  intro y x
  unfold NX uT
  rw [hZ hon (hgo y x)]
 exact F1 (n:=n+1) hE hf (fun y x=>by rw [h,hc]) (fun y x=>by rw [h,hg])


section
variable {σ:Type} {t:σ→Tr (σ ⊕ au)}

theorem jo {β:Type} (N:Nat) (st:β→Nat→σ) (I:β→Nat→Prop) (Φ:au→Prop) (M:Nat)
  (hstep:∀ b i,i < N→I b i→(∃ b',I b' (i+1)∧(t (st b i)).val=some (.inl (st b' (i+1))))∨∃ r,(t (st b i)).val=some (.inr r)∧Φ r)
  (hend:∀ b n,I b N→M≤n→∃ r,bE t n (st b N)=some r∧Φ r):
  ∀ (m i:Nat) (b:β) (n:Nat),N - i=m→i≤N→I b i→M+m≤n→∃ r,bE t n (st b i)=some r∧Φ r
 | 0,i,b,n,hm,hi,hI,hn=>by
  obtain rfl:i=N:=by omega
  exact hend b n hI (by omega)
 | m+1,i,b,n,hm,hi,hI,hn=>by
  obtain ⟨n,rfl⟩:∃ k,n=k+1:=⟨n - 1,by omega⟩
  rcases hstep b i (by omega) hI with ⟨b',hI',h⟩ | ⟨r,h1,h2⟩
  ·obtain ⟨r,h1,h2⟩:=jo N st I Φ M hstep hend m (i+1) b' n (by omega) (by omega) hI' (by omega)
   exact ⟨r,by rw [bE,h]; exact h1,h2⟩
  ·exact ⟨r,by rw [bE,h1],h2⟩

theorem jn {n:Nat} {s:σ}:bE t (n+1) s=match (t s).val with
  | some (.inl s')=>bE t n s'
  | some (.inr r)=>some r
  | none=>none:=rfl
end


abbrev HL:Nat→zS:=fun _=>{ }
theorem RL:zz vM.P 89 Tryz.f89 1:=aG (by kernel_rfl)
def dm (x0:Sem zq) (_:ze) (_:ze) (_:Sem aF.sl×Sem (Sh.expr.pr Sh.str)) (_:Sem zf.sl×Sem (aF.sl.pr (Sh.expr.pr Sh.str))) (_:Sem Sh.str×Sem (Sh.str.sl.pr (zi.sl.pr (Sh.str.pr (Sh.str.sl.pr (bu.sl.pr (Sh.expr.pr (zf.sl.pr (aF.sl.pr (Sh.expr.pr Sh.str)))))))))) (a5:Bool) (_:Sem Sh.expr×Sem (zf.sl.pr (aF.sl.pr (Sh.expr.pr Sh.str)))) (a7:Sem Sh.str×Sem (Sh.str.pr (Sh.str.pr (Sh.str.sl.pr (zi.sl.pr (Sh.str.pr (Sh.str.sl.pr (bu.sl.pr (Sh.expr.pr (zf.sl.pr (aF.sl.pr (Sh.expr.pr Sh.str)))))))))))) (a8:Sem Sh.str×Sem (Sh.str.pr (Sh.str.pr (Sh.str.sl.pr (zi.sl.pr (Sh.str.pr (Sh.str.sl.pr (bu.sl.pr (Sh.expr.pr (zf.sl.pr (aF.sl.pr (Sh.expr.pr Sh.str)))))))))))) (_:Int) (_:Int) (a11:Bool) (a12:Sem Sh.str×Sem (Sh.str.pr (Sh.str.pr (Sh.str.sl.pr (zi.sl.pr (Sh.str.pr (Sh.str.sl.pr (bu.sl.pr (Sh.expr.pr (zf.sl.pr (aF.sl.pr (Sh.expr.pr Sh.str)))))))))))) (_:Int) (_:Int) (_:Sem Sh.bool) (a16:Bool) (_:Sem Sh.expr×Sem Sh.str) (a18:Sem Sh.str×Sem (Sh.str.pr (Sh.str.pr (Sh.str.sl.pr (zi.sl.pr (Sh.str.pr (Sh.str.sl.pr (bu.sl.pr (Sh.expr.pr (zf.sl.pr (aF.sl.pr (Sh.expr.pr Sh.str)))))))))))) (a19:Bool) (a20:Sem Sh.str×Sem (Sh.str.pr (Sh.str.pr (Sh.str.sl.pr (zi.sl.pr (Sh.str.pr (Sh.str.sl.pr (bu.sl.pr (Sh.expr.pr (zf.sl.pr (aF.sl.pr (Sh.expr.pr Sh.str)))))))))))) (_:Sem Sh.bool) (a22:Bool) (_:Sem zf.sl×Sem (aF.sl.pr (Sh.expr.pr Sh.str))) (a24:Sem Sh.str×Sem (Sh.str.pr (Sh.str.pr (Sh.str.sl.pr (zi.sl.pr (Sh.str.pr (Sh.str.sl.pr (bu.sl.pr (Sh.expr.pr (zf.sl.pr (aF.sl.pr (Sh.expr.pr Sh.str)))))))))))) (_:Sem Sh.bool) (_:Int) (_:Int) (_:Sem Sh.bool) (_:Bool) (a30:Bool) (_:Sem Sh.str×Sem (Sh.str.pr (Sh.str.pr (Sh.str.sl.pr (zi.sl.pr (Sh.str.pr (Sh.str.sl.pr (bu.sl.pr (Sh.expr.pr (zf.sl.pr (aF.sl.pr (Sh.expr.pr Sh.str)))))))))))) (a32:Bool) (a33:Sem Sh.bool) (a34:Bool) (a35:Sem Sh.str×Sem (Sh.str.pr (Sh.str.pr (Sh.str.sl.pr (zi.sl.pr (Sh.str.pr (Sh.str.sl.pr (bu.sl.pr (Sh.expr.pr (zf.sl.pr (aF.sl.pr (Sh.expr.pr Sh.str)))))))))))) (a36:Bool):Tr (Empty ⊕ au):=
 Tr.br (x0.1==[99,114,101,97,116,101]) (Tr.chk (bif a5 then cN a7 else true) (Tr.re (AV.bool (bif a5 then ey a7 else false)) [])) (Tr.br (x0.1==[100,114,111,112]) (Tr.chk (bif bF x0.2.1 then cN a8 else true) (Tr.re (AV.bool (bif bF x0.2.1 then ey a8 else false)) [])) (Tr.br (x0.1==[105,110,115,101,114,116]) (Tr.chk (bif a11 then cN a12 else true) (Tr.re (AV.bool (bif a11 then ey a12 else false)) [])) (Tr.br (x0.1==[117,112,100,97,116,101]) (Tr.chk (bif a16 then cN a18 else true) (Tr.re (AV.bool (bif a16 then ey a18 else false)) [])) (Tr.br (x0.1==[100,101,108,101,116,101]) (Tr.chk (bif a19 then cN a20 else true) (Tr.re (AV.bool (bif a19 then ey a20 else false)) [])) (Tr.br (x0.1==[115,101,108,101,99,116]) (Tr.chk (bif a19 then cN a20 else true) (Tr.re (AV.bool (bif a19 then ey a20 else false)) [])) (Tr.br (x0.1==[114,101,97,100]) (Tr.chk (bif a22 then cN a24 else true) (Tr.re (AV.bool (bif a22 then ey a24 else false)) [])) (Tr.br (x0.1==[119,114,105,116,101]) (Tr.chk (bif a22 then cN a24 else true) (Tr.re (AV.bool (bif a22 then ey a24 else false)) [])) (Tr.br (x0.1==[117,110,114,101,97,100]) (Tr.chk (bif a22 then cN a24 else true) (Tr.re (AV.bool (bif a22 then ey a24 else false)) [])) (Tr.br (x0.1==[117,110,119,114,105,116,101])
 (Tr.chk (bif a22 then cN a24 else true) (Tr.re (AV.bool (bif a22 then ey a24 else false)) [])) (Tr.br (x0.1==[99,111,112,121]) (Tr.chk (bif a30 then a32 else true) (Tr.re (AV.bool (bif a30 then a33 else false)) [])) (Tr.br (x0.1==[106,111,105,110]) (Tr.chk (bif a34 then cN a35 else true) (Tr.re (AV.bool (bif a34 then ey a35 else false)) [])) (Tr.br (x0.1==[103,114,111,117,112]) (Tr.chk (bif a36 then a32 else true) (Tr.re (AV.bool (bif a36 then a33 else false)) [])) (Tr.re (AV.kb false) [])))))))))))))
def dW (x0:Sem zq):Tr (Empty ⊕ au):=
 let a0:=zC x0.2.2.2.2.2.2.2.2.1
 let a1:=zC x0.2.2.2.2.2.2.2.2.2.2.2.1
 let a2:=(x0.2.2.2.2.2.2.2.2.2.2.1,a1,x0.2.2.2.2.2.2.2.2.2.2.2.2)
 let a3:=(x0.2.2.2.2.2.2.2.2.2.1,a2)
 let a4:=(x0.2.2.1,x0.2.2.2.1,x0.2.2.2.2.1,x0.2.2.2.2.2.1,x0.2.2.2.2.2.2.1,x0.2.2.2.2.2.2.2.1,a0,a3)
 let a5:=bif bF x0.2.1 then gD (x0.1,x0.2.1,a4) else false
 let a6:=(ze.mk [] (0,0,[]) [] [],a3)
 let a7:=(x0.1,[],x0.2.2.1,x0.2.2.2.1,[],[],[],[],a6)
 let a8:=(x0.1,[],a4)
 let a9:=(↑(length x0.2.2.2.2.2.2.2.2.2.1):Int)
 let a10:=zQ (fun x => !gP x) x0.2.2.2.2.2.2.2.2.2.1 0
 let a11:=bif bF x0.2.1 then bif bif decide (a9 < 1) then true else decide (a9 > 12) then false else !decide (a10 ≥ 0) else false
 let a12:=(x0.1,[],x0.2.2.1,x0.2.2.2.1,x0.2.2.2.2.1,x0.2.2.2.2.2.1,x0.2.2.2.2.2.2.1,x0.2.2.2.2.2.2.2.1,a0,[],a2)
 let a13:=(↑(length x0.2.2.2.2.2.2.2.2.2.2.1):Int)
 let a14:=zQ (fun x => !ui x) x0.2.2.2.2.2.2.2.2.2.2.1 0
 let a15:=mR a1
 let a16:=bif bF x0.2.1 then bif bif decide (a13 < 1) then true else decide (a13 > 8) then false else bif !decide (a14 ≥ 0) then a15 else false else false
 let a17:=(ze.mk [] (0,0,[]) [] [],x0.2.2.2.2.2.2.2.2.2.2.2.2)
 let a18:=(x0.1,[],x0.2.2.1,x0.2.2.2.1,x0.2.2.2.2.1,x0.2.2.2.2.2.1,x0.2.2.2.2.2.2.1,x0.2.2.2.2.2.2.2.1,a0,x0.2.2.2.2.2.2.2.2.2.1,[],a17)
 let a19:=bif bF x0.2.1 then a15 else false
 let a20:=(x0.1,[],x0.2.2.1,x0.2.2.2.1,x0.2.2.2.2.1,x0.2.2.2.2.2.1,x0.2.2.2.2.2.2.1,x0.2.2.2.2.2.2.2.1,a0,x0.2.2.2.2.2.2.2.2.2.1,x0.2.2.2.2.2.2.2.2.2.2.1,a17)
 let a21:=bF x0.2.2.2.2.2.2.2.2.2.2.2.2
 let a22:=bif bF x0.2.1 then a21 else false
 let a23:=(x0.2.2.2.2.2.2.2.2.2.1,x0.2.2.2.2.2.2.2.2.2.2.1,a1,[])
 let a24:=(x0.1,[],x0.2.2.1,x0.2.2.2.1,x0.2.2.2.2.1,x0.2.2.2.2.2.1,x0.2.2.2.2.2.2.1,x0.2.2.2.2.2.2.2.1,a0,a23)
 let a25:=bF x0.2.2.1
 let a26:=(↑(length x0.2.2.2.1):Int)
 let a27:=zQ (fun x => !bF x) x0.2.2.2.1 0
 let a28:=mR a0
 let a29:=bif !decide (a27 ≥ 0) then a28 else false
 let a30:=bif bF x0.2.1 then bif a25 then bif bif decide (a26 < 1) then true else decide (a26 > 8) then false else a29 else false else false
 let a31:=(x0.1,[],[],[],x0.2.2.2.2.1,x0.2.2.2.2.2.1,x0.2.2.2.2.2.2.1,x0.2.2.2.2.2.2.2.1,a6)
 let a32:=cN a31
 let a33:=ey a31
 let a34:=bif bF x0.2.1 then bif a25 then bif bF x0.2.2.2.2.2.1 then bif a21 then a28 else false else false else false else false
 let a35:=(x0.1,[],[],x0.2.2.2.1,x0.2.2.2.2.1,[],x0.2.2.2.2.2.2.1,x0.2.2.2.2.2.2.2.1,ze.mk [] (0,0,[]) [] [],a23)
 let a36:=bif bF x0.2.1 then bif a25 then bif bif decide (a26 < 2) then true else decide (a26 > 2) then false else a29 else false else false
 dm x0 a0 a1 a2 a3 a4 a5 a6 a7 a8 a9 a10 a11 a12 a13 a14 a15 a16 a17 a18 a19 a20 a21 a22 a23 a24 a25 a26 a27 a28 a29 a30 a31 a32 a33 a34 a35 a36
theorem QJ (x0:Sem zq):rn vM 0 HL Tryz.f89 [zy zq x0] []=(dW x0).map (lf Tryz.f89 e0):=by kernel_rfl
def rb (x0:Sem zq):Option (zw (List.map some [Sh.bool])):=aq [Sh.bool] t0 100000000 (dW x0)
def iF (x0:Sem zq):Bool:=(rb x0).isSome
def ez (x0:Sem zq):Sem Sh.bool:=(fun r:zw (List.map some [Sh.bool])=>r.1) ((rb x0).getD (bD [Sh.bool]))
def MA:zB:=zA [zq] [Sh.bool] (fun x=>iF x.1) fun x=>(ez x.1,())
theorem JZ:FK 89 MA:=g5 (ks:=[zq]) (outs:=[Sh.bool]) (keep:=HL) (gas:=400) (n:=100000000) (e:=e0) (t:=t0) (i:=fun x=>dW x.1) pb RL (fun x=>QJ x.1) (FO _ _ _ _ _) (fun _=>by kernel_rfl) (fun _=>by kernel_rfl)

abbrev HM:Nat→zS:=fun _=>{ }
theorem RM:zz vM.P 90 Tryz.f90 1:=aG (by kernel_rfl)
def pl (x0:Sem zq) (a0:Bool) (a1:zn) (a2:zn) (a3:zn) (a4:zn) (_:ze) (_:ze) (a7:Sem Sh.str×Sem (Sh.str.pr (Sh.str.pr (Sh.str.sl.pr (zi.sl.pr (Sh.str.pr (Sh.str.sl.pr (bu.sl.pr (Sh.expr.pr (zf.sl.pr (aF.sl.pr (Sh.expr.pr Sh.str)))))))))))) (a8:zn) (a9:zn) (a10:TS) (a11:zn) (a12:zn) (a13:zn) (a14:TS) (a15:Bool) (a16:zn) (a17:TS) (a18:zn) (a19:zn) (a20:zn) (a21:zn) (a22:zn) (a23:zn) (a24:List UInt8) (a25:List UInt8) (a26:zn) (a27:zn) (a28:zn) (a29:zn) (a30:zn) (a31:zn) (a32:TS) (a33:zn) (a34:Bool) (a35:zn) (a36:TS) (a37:zn) (a38:zn) (a39:zn) (a40:zn) (a41:zn) (a42:TS) (a43:zn) (a44:zn) (a45:TS) (a46:zn):Tr (Empty ⊕ au):=Tr.chk a0 (Tr.chk (decide ([77,73,71,82,65,84,69,32].length+(Lib.toUpperA x0.1).length≤1099511627776)) (Tr.chk (decide (length a1+[32].length≤1099511627776)) (Tr.chk (decide (length a2+length x0.2.1≤1099511627776)) (Tr.chk (decide (length a3+[32,70,82,79,77,32].length≤1099511627776)) (Tr.chk (decide (length a4+length x0.2.2.1≤1099511627776)) (Tr.br (x0.1==[99,114,101,97,116,101]) (Tr.chk (kJ a7) (Tr.re (AV.str (lz a7)) []))
 (Tr.br (x0.1==[100,114,111,112]) (Tr.chk (decide ([68,82,79,80,32,84,65,66,76,69,32].length+length x0.2.1≤1099511627776)) (Tr.re (AV.str ([68,82,79,80,32,84,65,66,76,69,32]++x0.2.1)) [])) (Tr.br (x0.1==[105,110,115,101,114,116]) (Tr.chk (decide ([73,78,83,69,82,84,32,73,78,84,79,32].length+length x0.2.1≤1099511627776)) (Tr.chk (decide (length a8+[32,86,65,76,85,69,83,32,40,32].length≤1099511627776)) (Tr.chk (jA x0.2.2.2.2.2.2.2.2.2.1) (Tr.chk (decide (length a9+length a10≤1099511627776)) (Tr.chk (decide (length a11+[32,41].length≤1099511627776)) (Tr.re (AV.str (a11++[32,41])) [])))))) (Tr.br (x0.1==[117,112,100,97,116,101]) (Tr.chk (decide ([85,80,68,65,84,69,32].length+length x0.2.1≤1099511627776)) (Tr.chk (decide (length a12+[32,83,69,84,32].length≤1099511627776)) (Tr.chk (ju x0.2.2.2.2.2.2.2.2.2.2.1) (Tr.chk (decide (length a13+length a14≤1099511627776)) (Tr.chk a15 (Tr.chk (decide (length a16+length a17≤1099511627776)) (Tr.re (AV.str (a16++a17)) []))))))) (Tr.br (x0.1==[100,101,108,101,116,101]) (Tr.chk (decide ([68,69,76,69,84,69,32,70,82,79,77,32].length+length x0.2.1≤1099511627776)) (Tr.chk a15 (Tr.chk (decide (length a18+length a17≤1099511627776)) (Tr.re (AV.str (a18++a17)) []))))
 (Tr.br (x0.1==[115,101,108,101,99,116]) (Tr.chk (decide ([83,69,76,69,67,84,32,42,32,70,82,79,77,32].length+length x0.2.1≤1099511627776)) (Tr.chk a15 (Tr.chk (decide (length a19+length a17≤1099511627776)) (Tr.re (AV.str (a19++a17)) [])))) (Tr.br (x0.1==[114,101,97,100]) (Tr.chk a0 (Tr.chk (decide ([71,82,65,78,84,32].length+(Lib.toUpperA x0.1).length≤1099511627776)) (Tr.chk (decide (length a20+[32,79,78,32].length≤1099511627776)) (Tr.chk (decide (length a21+length x0.2.1≤1099511627776)) (Tr.chk (decide (length a22+[32,84,79,32].length≤1099511627776)) (Tr.chk (decide (length a23+length x0.2.2.2.2.2.2.2.2.2.2.2.2≤1099511627776)) (Tr.re (AV.str (a23++x0.2.2.2.2.2.2.2.2.2.2.2.2)) []))))))) (Tr.br (x0.1==[119,114,105,116,101]) (Tr.chk a0 (Tr.chk (decide ([71,82,65,78,84,32].length+(Lib.toUpperA x0.1).length≤1099511627776)) (Tr.chk (decide (length a20+[32,79,78,32].length≤1099511627776)) (Tr.chk (decide (length a21+length x0.2.1≤1099511627776)) (Tr.chk (decide (length a22+[32,84,79,32].length≤1099511627776)) (Tr.chk (decide (length a23+length x0.2.2.2.2.2.2.2.2.2.2.2.2≤1099511627776)) (Tr.re (AV.str (a23++x0.2.2.2.2.2.2.2.2.2.2.2.2)) []))))))) (Tr.br (x0.1==[117,110,114,101,97,100]) (Tr.chk
 (decide (0≤2)&&decide (2≤(↑(length x0.1):Int))&&decide ((↑(length x0.1):Int)≤(↑(length x0.1):Int))) (Tr.chk (decide (a24.length≤140737488355328)&&a24.all fun b=>decide (b.toNat < 128)) (Tr.chk (decide ([82,69,86,79,75,69,32].length+a25.length≤1099511627776)) (Tr.chk (decide (length a26+[32,79,78,32].length≤1099511627776)) (Tr.chk (decide (length a27+length x0.2.1≤1099511627776)) (Tr.chk (decide (length a28+[32,70,82,79,77,32].length≤1099511627776)) (Tr.chk (decide (length a29+length x0.2.2.2.2.2.2.2.2.2.2.2.2≤1099511627776)) (Tr.re (AV.str (a29++x0.2.2.2.2.2.2.2.2.2.2.2.2)) [])))))))) (Tr.br (x0.1==[117,110,119,114,105,116,101]) (Tr.chk (decide (0≤2)&&decide (2≤(↑(length x0.1):Int))&&decide ((↑(length x0.1):Int)≤(↑(length x0.1):Int))) (Tr.chk (decide (a24.length≤140737488355328)&&a24.all fun b=>decide (b.toNat < 128)) (Tr.chk (decide ([82,69,86,79,75,69,32].length+a25.length≤1099511627776)) (Tr.chk (decide (length a26+[32,79,78,32].length≤1099511627776)) (Tr.chk (decide (length a27+length x0.2.1≤1099511627776)) (Tr.chk (decide (length a28+[32,70,82,79,77,32].length≤1099511627776)) (Tr.chk (decide (length a29+length x0.2.2.2.2.2.2.2.2.2.2.2.2≤1099511627776)) (Tr.re (AV.str (a29++x0.2.2.2.2.2.2.2.2.2.2.2.2)) [])))))))) (Tr.br (x0.1==[99,111,112,121])
 (Tr.chk (decide (length a30+[32,40,32].length≤1099511627776)) (Tr.chk (jx x0.2.2.2.1) (Tr.chk (decide (length a31+length a32≤1099511627776)) (Tr.chk (decide (length a33+[32,41].length≤1099511627776)) (Tr.chk a34 (Tr.chk (decide (length a35+length a36≤1099511627776)) (Tr.re (AV.str (a35++a36)) []))))))) (Tr.br (x0.1==[106,111,105,110]) (Tr.chk (decide (length a30+[32,44,32].length≤1099511627776)) (Tr.chk (decide (length a37+length x0.2.2.2.2.2.2.2.2.2.2.2.2≤1099511627776)) (Tr.chk (decide (length a38+[32,79,78,32].length≤1099511627776)) (Tr.chk (decide (length a39+length x0.2.2.2.2.2.1≤1099511627776)) (Tr.chk a34 (Tr.chk (decide (length a40+length a36≤1099511627776)) (Tr.re (AV.str (a40++a36)) []))))))) (Tr.chk (decide (length a30+[32,66,89,32].length≤1099511627776)) (Tr.chk (zH 0 (length x0.2.2.2.1)) (Tr.chk (decide (length a41+length a42≤1099511627776)) (Tr.chk (decide (length a43+[32,83,85,77,32].length≤1099511627776)) (Tr.chk (zH 1 (length x0.2.2.2.1)) (Tr.chk (decide (length a44+length a45≤1099511627776)) (Tr.chk a34 (Tr.chk (decide (length a46+length a36≤1099511627776)) (Tr.re (AV.str (a46++a36)) []))))))))))))))))))))))))))
def kl (x0:Sem zq):Tr (Empty ⊕ au):=
 let a0:=decide (length x0.1≤140737488355328)&&List.all x0.1 fun b=>decide (b.toNat < 128)
 let a1:=[77,73,71,82,65,84,69,32]++Lib.toUpperA x0.1
 let a2:=a1++[32]
 let a3:=a2++x0.2.1
 let a4:=a3++[32,70,82,79,77,32]
 let a5:=zC x0.2.2.2.2.2.2.2.2.1
 let a6:=zC x0.2.2.2.2.2.2.2.2.2.2.2.1
 let a7:=(x0.1,x0.2.1,x0.2.2.1,x0.2.2.2.1,x0.2.2.2.2.1,x0.2.2.2.2.2.1,x0.2.2.2.2.2.2.1,x0.2.2.2.2.2.2.2.1,a5,x0.2.2.2.2.2.2.2.2.2.1,x0.2.2.2.2.2.2.2.2.2.2.1,a6,x0.2.2.2.2.2.2.2.2.2.2.2.2)
 let a8:=[73,78,83,69,82,84,32,73,78,84,79,32]++x0.2.1
 let a9:=a8++[32,86,65,76,85,69,83,32,40,32]
 let a10:=jz x0.2.2.2.2.2.2.2.2.2.1
 let a11:=a9++a10
 let a12:=[85,80,68,65,84,69,32]++x0.2.1
 let a13:=a12++[32,83,69,84,32]
 let a14:=jt x0.2.2.2.2.2.2.2.2.2.2.1
 let a15:=uv a6
 let a16:=a13++a14
 let a17:=lu a6
 let a18:=[68,69,76,69,84,69,32,70,82,79,77,32]++x0.2.1
 let a19:=[83,69,76,69,67,84,32,42,32,70,82,79,77,32]++x0.2.1
 let a20:=[71,82,65,78,84,32]++Lib.toUpperA x0.1
 let a21:=a20++[32,79,78,32]
 let a22:=a21++x0.2.1
 let a23:=a22++[32,84,79,32]
 let a24:=List.take ((↑(length x0.1):Int).toNat - toNat 2) (List.drop (toNat 2) x0.1)
 let a25:=Lib.toUpperA a24
 let a26:=[82,69,86,79,75,69,32]++a25
 let a27:=a26++[32,79,78,32]
 let a28:=a27++x0.2.1
 let a29:=a28++[32,70,82,79,77,32]
 let a30:=a4++x0.2.2.1
 let a31:=a30++[32,40,32]
 let a32:=jw x0.2.2.2.1
 let a33:=a31++a32
 let a34:=jJ [32] a5
 let a35:=a33++[32,41]
 let a36:=gg [32] a5
 let a37:=a30++[32,44,32]
 let a38:=a37++x0.2.2.2.2.2.2.2.2.2.2.2.2
 let a39:=a38++[32,79,78,32]
 let a40:=a39++x0.2.2.2.2.2.1
 let a41:=a30++[32,66,89,32]
 let a42:=getD x0.2.2.2.1 (toNat 0) (zj Sh.str)
 let a43:=a41++a42
 let a44:=a43++[32,83,85,77,32]
 let a45:=getD x0.2.2.2.1 (toNat 1) (zj Sh.str)
 let a46:=a44++a45
 pl x0 a0 a1 a2 a3 a4 a5 a6 a7 a8 a9 a10 a11 a12 a13 a14 a15 a16 a17 a18 a19 a20 a21 a22 a23 a24 a25 a26 a27 a28 a29 a30 a31 a32 a33 a34 a35 a36 a37 a38 a39 a40 a41 a42 a43 a44 a45 a46
theorem QK (x0:Sem zq):rn vM 0 HM Tryz.f90 [zy zq x0] []=(kl x0).map (lf Tryz.f90 e0):=by kernel_rfl
def ym (x0:Sem zq):Option (zw (List.map some [Sh.str])):=aq [Sh.str] t0 100000000 (kl x0)
def pI (x0:Sem zq):Bool:=(ym x0).isSome
def eH (x0:Sem zq):Sem Sh.str:=(fun r:zw (List.map some [Sh.str])=>r.1) ((ym x0).getD (bD [Sh.str]))
def MB:zB:=zA [zq] [Sh.str] (fun x=>pI x.1) fun x=>(eH x.1,())
theorem J0:FK 90 MB:=g5 (ks:=[zq]) (outs:=[Sh.str]) (keep:=HM) (gas:=400) (n:=100000000) (e:=e0) (t:=t0) (i:=fun x=>kl x.1) pb RM (fun x=>QK x.1) (FO _ _ _ _ _) (fun _=>by kernel_rfl) (fun _=>by kernel_rfl)

noncomputable def Do:=vM.addL [(89,MA),(90,MB)]
theorem vN:zm Do:=pb.addL <| fc JZ <| fc J0 gX

abbrev zbD:Nat→zS:=fun _=>{ }
theorem Yy:zz (Do).P 52 Tryz.f52 1:=aG (by kernel_rfl)
theorem zaJ (x0:Sem zq):rn Do 0 zbD Tryz.f52 [zy zq x0] []=Tr.chk (iF (uK x0)) (Tr.br (!ez (uK x0)) (Tr.ok (zp.ret (AV.tup [AV.str [],ai 1]) [])) (Tr.chk (pI (uK x0)) (Tr.chk (Gl (eH (uK x0))) (Tr.br ((cut (eH (uK x0))).2 != 0) (Tr.ok (zp.ret (AV.tup [AV.str [],ai 1]) [])) (Tr.ok (zp.ret (AV.tup [AV.str (eH (uK x0)),ai 0]) [])))))):=by kernel_rfl
def ng (x0:Sem zq):Sem Sh.str×Sem zg:=(if (!ez x0)=true then ([],1) else if ((cut (eH x0)).2 != 0)=true then ([],1) else (eH x0,0))
def oA (x0:Sem zq):Bool:=(if iF x0=true then if (!ez x0)=true then true else if pI x0=true then if Gl (eH x0)=true then true else false else false else false)
def F52:zB:=zA [zq] [Sh.str,zg] (fun x=>oA x.1) fun x=>((ng x.1).1,(ng x.1).2,())
theorem UX:FK 52 F52:=by
 refine zL (Yy) fun x hc C hC=>?_
 unfold oA at hc
 refine zk vN (Yy) (fun id _=>hC id) (zaJ x.1) ?_
 generalize hy:ng x.1=y
 unfold ng at hy
 try simp only [Dx]
 repeat' (first | with_reducible refine ea hy hc (fun _ hy hc=>?_) (fun _ hy hc=>?_) | with_reducible refine aM hy (fun _ hy=>?_) (fun _ hy=>?_) | with_reducible refine aX hc (fun hc=>?_) | with_reducible refine zo ?_)
 all_goals first | (cases hc; done) | (subst hy; first | rfl)

noncomputable def Dp:=Do.add 52 F52
theorem vO:zm Dp:=vN.add UX

abbrev zbB:Nat→zS:=fun _=>{ }
theorem Yh:zz (Dp).P 23 Tryz.f23 1:=aG (by kernel_rfl)
theorem zar (x0:Sem zq):rn Dp 0 zbB Tryz.f23 [zy zq x0] []=Tr.chk (oA (uK x0)) (Tr.ok (zp.ret (AV.bool ((ng (uK x0)).2==0)) [])):=by kernel_rfl
def fk (x0:Sem zq):Sem Sh.bool:=((ng x0).2==0)
def nf (x0:Sem zq):Bool:=(if oA x0=true then true else false)
def F31:zB:=zA [zq] [Sh.bool] (fun x=>nf x.1) fun x=>(fk x.1,())
theorem UD:FK 23 F31:=by
 refine zL (Yh) fun x hc C hC=>?_
 unfold nf at hc
 refine zk vO (Yh) (fun id _=>hC id) (zar x.1) ?_
 generalize hy:fk x.1=y
 unfold fk at hy
 try simp only [Dx]
 repeat' (first | with_reducible refine ea hy hc (fun _ hy hc=>?_) (fun _ hy hc=>?_) | with_reducible refine aM hy (fun _ hy=>?_) (fun _ hy=>?_) | with_reducible refine aX hc (fun hc=>?_) | with_reducible refine zo ?_)
 all_goals first | (cases hc; done) | (subst hy; first | rfl)

noncomputable def kj:=Dp.add 23 F31
theorem fB:zm kj:=vO.add UD

noncomputable def Um:zB:=zP (List.replicate 2 none) (bA kj Tryz.f37 (List.replicate 2 none))
theorem P5:FK 37 Um:=zY _ fB (aG (by kernel_rfl))

abbrev XG:Nat→zS:=fun _=>{ }
theorem Og:zz (kj).P 24 Tryz.f24 1:=aG (by kernel_rfl)
theorem WH (x0:TS):rn kj 0 XG Tryz.f24 [zy Sh.str x0] []=Tr.br (decide ((↑(length x0):Int) > 20)) (Tr.chk (decide (0≤0)&&decide (0≤20)&&decide (20≤(↑(length x0):Int))) (Tr.ok (zp.ret (AV.str (List.take (toNat 20 - toNat 0) (List.drop (toNat 0) x0))) []))) (Tr.ok (zp.ret (AV.str x0) [])):=by kernel_rfl
def bl (x0:TS):Sem Sh.str:=(if decide ((↑(length x0):Int) > 20)=true then List.take (toNat 20 - toNat 0) (List.drop (toNat 0) x0) else x0)
def dq (x0:TS):Bool:=(if decide ((↑(length x0):Int) > 20)=true then if (decide (0≤0)&&decide (0≤20)&&decide (20≤(↑(length x0):Int)))=true then true else false else true)
def TA:zB:=zA [Sh.str] [Sh.str] (fun x=>dq x.1) fun x=>(bl x.1,())
theorem Ph:FK 24 TA:=by
 refine zL (Og) fun x hc C hC=>?_
 unfold dq at hc
 refine zk fB (Og) (fun id _=>hC id) (WH x.1) ?_
 generalize hy:bl x.1=y
 unfold bl at hy
 try simp only [ze.eta]
 repeat' (first | with_reducible refine ea hy hc (fun _ hy hc=>?_) (fun _ hy hc=>?_) | with_reducible refine aM hy (fun _ hy=>?_) (fun _ hy=>?_) | with_reducible refine aX hc (fun hc=>?_) | with_reducible refine zo ?_)
 all_goals first | (cases hc; done) | (subst hy; first | rfl)

abbrev Rs:Nat→zS:=fun _=>{ }
theorem Ii:zz (kj).P 102 Tryz.f102 3:=aG (by kernel_rfl)
theorem QR (x0:Sem zf.sl) (x1:Sem zg) (x2:Sem zf):rn kj 0 Rs Tryz.f102 [zy zf.sl x0,zy zg x1,zy zf x2] []=Tr.chk (bif decide (x1 ≥ 0) then bif decide (x1 < (↑(length x0):Int)) then zH x1 (length x0) else true else true) (Tr.ok (zp.ret (AV.bool (bif decide (x1 ≥ 0) then bif decide (x1 < (↑(length x0):Int)) then (getD x0 (toNat x1) (zj zf)).1==x2.1&&((getD x0 (toNat x1) (zj zf)).2.1==x2.2.1&&((getD x0 (toNat x1) (zj zf)).2.2==x2.2.2&&true)) else false else false)) [])):=by kernel_rfl
def jV (x0:Sem zf.sl) (x1:Sem zg) (x2:Sem zf):Sem Sh.bool:=(bif decide (x1 ≥ 0) then bif decide (x1 < (↑(length x0):Int)) then (getD x0 (toNat x1) (zj zf)).1==x2.1&&((getD x0 (toNat x1) (zj zf)).2.1==x2.2.1&&((getD x0 (toNat x1) (zj zf)).2.2==x2.2.2&&true)) else false else false)
def qV (x0:Sem zf.sl) (x1:Sem zg) (_:Sem zf):Bool:=(if (bif decide (x1 ≥ 0) then bif decide (x1 < (↑(length x0):Int)) then zH x1 (length x0) else true else true)=true then true else false)
def M0:zB:=zA [zf.sl,zg,zf] [Sh.bool] (fun x=>qV x.1 x.2.1 x.2.2.1) fun x=>(jV x.1 x.2.1 x.2.2.1,())
theorem C7:FK 102 M0:=by
 refine zL (Ii) fun x hc C hC=>?_
 unfold qV at hc
 refine zk fB (Ii) (fun id _=>hC id) (QR x.1 x.2.1 x.2.2.1) ?_
 generalize hy:jV x.1 x.2.1 x.2.2.1=y
 unfold jV at hy
 try simp only [ze.eta]
 repeat' (first | with_reducible refine ea hy hc (fun _ hy hc=>?_) (fun _ hy hc=>?_) | with_reducible refine aM hy (fun _ hy=>?_) (fun _ hy=>?_) | with_reducible refine aX hc (fun hc=>?_) | with_reducible refine zo ?_)
 all_goals first | (cases hc; done) | (subst hy; first | rfl)

abbrev N2:Nat→zS:=fun j=>if j=2 then { slots:=[0,1,5] } else { }
abbrev t8 (l0:List (Sem zh)) (s1:TS) (i5:Int):St:={ tmps:=(tm 21 [(0,AV.sl zh l0),(1,AV.str s1),(5,ai i5)]),heap:=[] }
theorem DM:zz (kj).P 69 Tryz.f69 2:=aG (by kernel_rfl)
theorem WF (x0:Sem zh.sl) (x1:TS):rn kj 0 N2 Tryz.f69 [zy zh.sl x0,zy Sh.str x1] []=Tr.ok (zp.head 2 (zx Tryz.f69 2) (t8 x0 x1 0)):=by kernel_rfl
theorem DW (l0:List (Sem zh)) (s1:TS) (i5:Int):rh kj 0 N2 Tryz.f69 2 (t8 l0 s1 i5)=Tr.br (decide (i5 < (↑l0.length:Int))) (Tr.chk (zH i5 l0.length) (Tr.br ((l0.getD i5.toNat (zj zh)).1.1==s1) (Tr.ok (zp.ret (ai i5) [])) (Tr.ok (zp.head 2 (zx Tryz.f69 2) (t8 l0 s1 (IntKind.i64.wrap (i5+1))))))) (Tr.ok (zp.ret (ai (-1)) [])):=by kernel_rfl
def fV (s1:TS):List
 (Sem zh)→Int→Sem zg
 | [],_=>(-1)
 | x::r,i5=>(if (x.1.1==s1)=true then i5 else fV s1 r (i5+1))
theorem KR {C:bW} (hC:∀ id,C.ρ0 id=none) (s1:TS) (l0:List
 (Sem zh)) (hl:l0.length≤zD):∀ (m i:Nat),l0.length - i=m→i≤l0.length→
  Reach (kj) C 69 (zx Tryz.f69 2) (t8 l0 s1 (i:Int)) (fun r h=>zX h [zg] r=some (fV s1 (l0.drop i) i,())):=by
 intro m
 induction m with
 | zero=>
  intro i hm hi
  obtain rfl:i=l0.length:=by omega
  rw [cQ]
  refine zk fB (DM) (fun id _=>hC id) (DW _ _ _) ?_
  generalize hy:fV s1 [] _=y
  rw [fV] at hy
  simp only [ap,Tr.val_brF]
  repeat' (first | with_reducible refine aM hy (fun _ hy=>?_) (fun _ hy=>?_) | with_reducible refine zo ?_)
  all_goals first | (cases hc; done) | (subst hy; first | rfl)
 | succ m IH=>
  intro i hm hi
  have hlt:i < l0.length:=by omega
  have IH:=IH (i+1)
  have hcast:((i:Int)+1)=((i+1:Nat):Int):=by omega
  have hwr:=zG i (by omega)
  rw [c6 hlt]
  refine zk fB (DM) (fun id _=>hC id) (DW _ _ _) ?_
  generalize hy:fV s1 (l0[i]::l0.drop (i+1)) (i:Int)=y
  rw [fV] at hy
  simp only [aH hlt,zN hlt,ag l0 _ hlt,hwr,Tr.val_brT,Tr.val_chkT]
  clear hwr
  try simp only [zN hlt] at hy
  simp only [hcast] at hy
  repeat' (first | with_reducible refine aM hy (fun _ hy=>?_) (fun _ hy=>?_) | with_reducible refine zo ?_)
  all_goals first | (cases hc; done) | (subst hy; first | (change Reach _ _ _ _ _ _; apply IH <;> first | omega | assumption) | rfl)
theorem Gc {C:bW} (hC:∀ id,C.ρ0 id=none) (s1:TS) (l0:List
 (Sem zh)):
  Reach (kj) C 69 (zx Tryz.f69 2) (t8 l0 s1 0) (fun r h=>zX h [zg] r=some (fV s1 l0 0,())):=
 Reach.len 0 zh l0 rfl fun hl=>KR hC s1 l0 hl _ 0 rfl (aZ _)
def CO (x0:Sem zh.sl) (x1:TS):Sem zg:=(fV x1 x0 0)
def Tn:zB:=zW [zh.sl,Sh.str] [zg] fun x=>(CO x.1 x.2.1,())
theorem O5:FK 69 Tn:=by
 refine zO (DM) fun x C hC=>?_
 refine zk fB (DM) (fun id _=>hC id) (WF x.1 x.2.1) ?_
 generalize hy:CO x.1 x.2.1=y
 unfold CO at hy
 try simp only [ze.eta]
 repeat' (first | with_reducible refine aM hy (fun _ hy=>?_) (fun _ hy=>?_) | with_reducible refine zo ?_)
 all_goals first | (cases hc; done) | (subst hy; first | (change Reach _ _ _ _ _ _; apply Gc hC <;> first | assumption | exact hc) | rfl)

noncomputable def mu:=kj.addL [(37,Um),(24,TA),(102,M0),(69,Tn)]
theorem gV:zm mu:=fB.addL <| fc P5 <| fc Ph <| fc C7 <| fc O5 gX

theorem x9 (x:Sem (Sh.sl zf)) (c:Int) (v:Sem zf):qV x c v=true:=by
 unfold qV
 by_cases h1:(c:Int) ≥ 0
 ·by_cases h2:c < (length x:Int)
  ·have h3:zH c (length x)=true:=by simp [zH]; exact ⟨h1,h2⟩
   simp [dc h1,dc h2,h3]
  ·simp [dc h1,decide_eq_false h2]
 ·simp [decide_eq_false h1]
def M1:zB:=zW [Sh.sl zf,zg,zf] [Sh.bool] fun x=>(jV x.1 x.2.1 x.2.2.1,())
theorem Kq:FK 102 M1:=dL C7 fun x=>x9 x.1 x.2.1 x.2.2.1

abbrev N4:Nat→zS:=fun j=>if j=3 then { slots:=[0,3,4],prom:=[(3,none,.str)] } else { }
abbrev ua (l0:LS) (i4:Int) (lh_0:LS):St:={ tmps:=(tm 24 [(0,AV.sl Sh.str l0),(3,AV.vec 0),(4,ai i4)]),heap:=[AO.vec Sh.str lh_0] }
theorem DN:zz (mu).P 25 Tryz.f25 1:=aG (by kernel_rfl)
theorem WI (x0:Sem Sh.str.sl):rn mu 0 N4 Tryz.f25 [zy Sh.str.sl x0] []=Tr.ok (zp.head 3 (zx Tryz.f25 3) (ua x0 0 [])):=by kernel_rfl
theorem DX (l0:LS) (i4:Int) (lh_0:LS):rh mu 0 N4 Tryz.f25 3 (ua l0 i4 lh_0)=Tr.br (bif decide (i4 < (↑l0.length:Int)) then decide (i4 < 10) else false) (Tr.chk (zH i4 l0.length) (Tr.chk (dq (l0.getD i4.toNat (zj Sh.str))) (Tr.chk (decide (lh_0.length+[bl (l0.getD i4.toNat (zj Sh.str))].length≤1073741824)) (Tr.ok (zp.head 3 (zx Tryz.f25 3) (ua l0 (IntKind.i64.wrap (i4+1)) (lh_0++[bl (l0.getD i4.toNat (zj Sh.str))]))))))) (Tr.ok (zp.ret (AV.vec 0) [AO.vec Sh.str lh_0])):=by kernel_rfl
def cV:List (Sem Sh.str)→Int→List (Sem Sh.str)→Sem Sh.str.sl
 | [],_,lh_0=>(lh_0)
 | x::r,i4,lh_0=>(if decide (i4 < 10)=true then cV r (i4+1) (lh_0++[bl x]) else lh_0)
def dF:List (Sem Sh.str)→Int→List (Sem Sh.str)→Bool
 | [],_,_=>(true)
 | x::r,i4,lh_0=>(if decide (i4 < 10)=true then
 if dq x=true then if decide (lh_0.length+[bl x].length≤1073741824)=true then dF r (i4+1) (lh_0++[bl x]) else false else false
else true)
theorem KS {C:bW} (hC:∀ id,C.ρ0 id=none) (l0:LS) (hl:l0.length≤zD):∀ (m i:Nat) (lh_0:LS),l0.length - i=m→i≤l0.length→dF (l0.drop i) i lh_0=true→
  Reach (mu) C 25 (zx Tryz.f25 3) (ua l0 (i:Int) lh_0) (fun r h=>zX h [Sh.str.sl] r=some (cV (l0.drop i) i lh_0,())):=by
 intro m
 induction m with
 | zero=>
  intro i lh_0 hm hi hc
  obtain rfl:i=l0.length:=by omega
  rw [cQ] at hc ⊢
  refine zk gV (DN) (fun id _=>hC id) (DX _ _ _) ?_
  rw [dF] at hc
  generalize hy:cV [] _ lh_0=y
  rw [cV] at hy
  simp only [ap,cZ,Tr.val_brF]
  repeat' (first | with_reducible refine ea hy hc (fun _ hy hc=>?_) (fun _ hy hc=>?_) | with_reducible refine aM hy (fun _ hy=>?_) (fun _ hy=>?_) | with_reducible refine aX hc (fun hc=>?_) | with_reducible refine zo ?_)
  all_goals first | (cases hc; done) | (subst hy; first | rfl)
 | succ m IH=>
  intro i lh_0 hm hi hc
  have hlt:i < l0.length:=by omega
  have IH:=IH (i+1)
  have hcast:((i:Int)+1)=((i+1:Nat):Int):=by omega
  have hwr:=zG i (by omega)
  rw [c6 hlt] at hc ⊢
  refine zk gV (DN) (fun id _=>hC id) (DX _ _ _) ?_
  rw [dF] at hc
  generalize hy:cV (l0[i]::l0.drop (i+1)) (i:Int) lh_0=y
  rw [cV] at hy
  simp only [aH hlt,zN hlt,ag l0 _ hlt,hwr,bJ]
  clear hwr
  try simp only [zN hlt] at hy
  simp only [hcast] at hy
  try simp only [zN hlt] at hc
  try simp only [hcast] at hc
  repeat' (first | with_reducible refine ea hy hc (fun _ hy hc=>?_) (fun _ hy hc=>?_) | with_reducible refine aM hy (fun _ hy=>?_) (fun _ hy=>?_) | with_reducible refine aX hc (fun hc=>?_) | with_reducible refine zo ?_)
  all_goals first | (cases hc; done) | (subst hy; first | (change Reach _ _ _ _ _ _; apply IH <;> first | omega | assumption) | rfl)
theorem Ge {C:bW} (hC:∀ id,C.ρ0 id=none) (l0:LS) (lh_0:LS) (hc:dF l0 0 lh_0=true):
  Reach (mu) C 25 (zx Tryz.f25 3) (ua l0 0 lh_0) (fun r h=>zX h [Sh.str.sl] r=some (cV l0 0 lh_0,())):=
 Reach.len 0 (Sh.str) l0 rfl fun hl=>KS hC l0 hl _ 0 lh_0 rfl (aZ _) hc
def eV (x0:Sem Sh.str.sl):Sem Sh.str.sl:=(cV x0 0 [])
def kU (x0:Sem Sh.str.sl):Bool:=(dF x0 0 [])
def TD:zB:=zA [Sh.str.sl] [Sh.str.sl] (fun x=>kU x.1) fun x=>(eV x.1,())
theorem Pk:FK 25 TD:=by
 refine zL (DN) fun x hc C hC=>?_
 unfold kU at hc
 refine zk gV (DN) (fun id _=>hC id) (WI x.1) ?_
 generalize hy:eV x.1=y
 unfold eV at hy
 try simp only [ze.eta]
 repeat' (first | with_reducible refine ea hy hc (fun _ hy hc=>?_) (fun _ hy hc=>?_) | with_reducible refine aM hy (fun _ hy=>?_) (fun _ hy=>?_) | with_reducible refine aX hc (fun hc=>?_) | with_reducible refine zo ?_)
 all_goals first | (cases hc; done) | (subst hy; first | (change Reach _ _ _ _ _ _; apply Ge hC <;> first | assumption | exact hc) | rfl)

abbrev qZ (s:zn) (l:List (Sem zh)) (i:Int):St:={ tmps:=[.sl zh l,.clo (.func 37) [] [.ptr 0 0],.any,.any,.any,.any,.any,.int .i64 l.length,.int .i64 i,.any,.any,.any,.any,.any,.any,.any,.any,.any,.any],heap:=[.box [.str s]] }
theorem G9 (s:zn) (l:List (Sem zh)):run mu 1 kz Tryz.f36.results.toList 300 (ah Tryz.f36) (zU Tryz.f36.ntmps [.sl zh l,.clo (.func 37) [] [.ptr 0 0]] [.box [.str s]])=.ok (.head 2 (zx Tryz.f36 2) (qZ s l 0)):=by kernel_rfl
theorem ID (s:zn) (l:List (Sem zh)) (i:Int):run mu 1 kz Tryz.f36.results.toList 300 (zx Tryz.f36 2) (qZ s l i)=gh (K:=zx Tryz.f36 2) (e:=zh) l (fun x=>x.1.1==s) (qZ s l) [.box [.str s]] i:=by kernel_rfl

theorem Ir:zz mu.P 36 Tryz.f36 2:=aG (by kernel_rfl)
def VY:b7 [some (.sl zh),none]:=fun x h=>match x,h with
 | (l,.clo (.func 37) [] [.ptr 0 0],_),[.box [.str s]]=>.ok (.int .i64 (zQ (fun x=>x.1.1==s) l 0),[.box [.str s]])
 | _,_=>.err
def Ul:zB:=zP [some (.sl zh),none] VY
theorem P4:FK 36 Ul:=by
 refine bb Ir fun x h0 res hx C hC=>?_
 unfold VY at hx
 split at hx
 ·rename_i l u s
  simp only [Tr.val_ok,zZ] at hx
  subst hx
  refine Reach.len 0 zh l rfl fun hl=>?_
  refine zk (n0:=1) gV Ir hC (G9 s l) ?_
  exact dR l (fun x=>x.1.1==s) (qZ s l) gV Ir hC (ID s l) hl _ 0 rfl (aZ _)
 ·simp at hx

noncomputable def Aq:=mu.addL [(102,M1),(25,TD),(36,Ul)]
theorem pc:zm Aq:=gV.addL <| fc Kq <| fc Pk <| fc P4 gX

noncomputable def MZ:zB:=zP (List.replicate 3 none) (bA Aq Tryz.f101 (List.replicate 3 none))
theorem Kp:FK 101 MZ:=zY _ pc (aG (by kernel_rfl))

abbrev XO:Nat→zS:=fun _=>{ }
theorem Oi:zz (Aq).P 16 Tryz.f16 2:=aG (by kernel_rfl)
theorem WO (x0:Sem zh.sl) (x1:TS):rn Aq 0 XO Tryz.f16 [zy zh.sl x0,zy Sh.str x1] []=Tr.ok (zp.ret (ai (zQ (fun x=>x.1.1==x1) x0 0)) []):=by kernel_rfl
def aE (x0:Sem zh.sl) (x1:TS):Sem zg:=(zQ (fun x=>x.1.1==x1) x0 0)
def TX:zB:=zW [zh.sl,Sh.str] [zg] fun x=>(aE x.1 x.2.1,())
theorem PG:FK 16 TX:=by
 refine zO (Oi) fun x C hC=>?_
 refine zk pc (Oi) (fun id _=>hC id) (WO x.1 x.2.1) ?_
 generalize hy:aE x.1 x.2.1=y
 unfold aE at hy
 try simp only [ze.eta]
 repeat' (first | with_reducible refine aM hy (fun _ hy=>?_) (fun _ hy=>?_) | with_reducible refine zo ?_)
 all_goals first | (cases hc; done) | (subst hy; first | rfl)

noncomputable def Ar:=Aq.addL [(101,MZ),(16,TX)]
theorem pd:zm Ar:=pc.addL <| fc Kp <| fc PG gX

abbrev l7 (c a b:Int) (s:zn) (l:List (Sem (Sh.sl zf))) (i:Int):St:={ tmps:=[.sl (Sh.sl zf) l,.clo (.func 101) [] [.ptr 0 0,.ptr 1 0],.any,.any,.any,.any,.any,.int .i64 l.length,.int .i64 i,.any,.any,.any,.any,.any,.any,.any,.any,.any,.any],heap:=[.box [.int .i64 c],.box [.int .i64 a,.int .i64 b,.str s]] }
theorem Cg (c a b:Int) (s:zn) (l:List (Sem (Sh.sl zf))):run Ar 2 kz Tryz.f88.results.toList 300 (ah Tryz.f88) (zU Tryz.f88.ntmps [.sl (Sh.sl zf) l,.clo (.func 101) [] [.ptr 0 0,.ptr 1 0]] [.box [.int .i64 c],.box [.int .i64 a,.int .i64 b,.str s]])=.ok (.head 2 (zx Tryz.f88 2) (l7 c a b s l 0)):=by kernel_rfl
theorem CA (c a b:Int) (s:zn) (l:List (Sem (Sh.sl zf))) (i:Int):run Ar 2 kz Tryz.f88.results.toList 300 (zx Tryz.f88 2) (l7 c a b s l i)=gh (K:=zx Tryz.f88 2) (e:=(Sh.sl zf)) l (fun x=>jV x c (a,b,s)) (l7 c a b s l) [.box [.int .i64 c],.box [.int .i64 a,.int .i64 b,.str s]] i:=by kernel_rfl

theorem Cy:zz Ar.P 88 Tryz.f88 2:=aG (by kernel_rfl)
def Nx:b7 [some (.sl (Sh.sl zf)),none]:=fun x h=>match x,h with
 | (l,.clo (.func 101) [] [.ptr 0 0,.ptr 1 0],_),[.box [.int .i64 c],.box [.int .i64 a,.int .i64 b,.str s]]=>.ok (.int .i64 (zQ (fun x=>jV x c (a,b,s)) l 0),[.box [.int .i64 c],.box [.int .i64 a,.int .i64 b,.str s]])
 | _,_=>.err
def M8:zB:=zP [some (.sl (Sh.sl zf)),none] Nx
theorem Kx:FK 88 M8:=by
 refine bb Cy fun x h0 res hx C hC=>?_
 unfold Nx at hx
 split at hx
 ·rename_i l u c a b s
  simp only [Tr.val_ok,zZ] at hx
  subst hx
  refine Reach.len 0 (Sh.sl zf) l rfl fun hl=>?_
  refine zk (n0:=2) pd Cy hC (Cg c a b s l) ?_
  exact dR l (fun x=>jV x c (a,b,s)) (l7 c a b s l) pd Cy hC (CA c a b s l) hl _ 0 rfl (aZ _)
 ·simp at hx

noncomputable def GM:=Ar.add 88 M8
theorem vP:zm GM:=pd.add Kx

noncomputable def MY:zB:=zP (List.replicate 2 none) (bA GM Tryz.f100 (List.replicate 2 none))
theorem Ko:FK 100 MY:=zY _ vP (aG (by kernel_rfl))

noncomputable def Dq:=GM.add 100 MY
theorem pe:zm Dq:=vP.add Ko
noncomputable section

abbrev Rj:Nat→zS:=fun _=>{ }
theorem Ic:zz (Dq).P 59 Tryz.f59 3:=aG (by kernel_rfl)
theorem QL (x0:Sem zh) (x1:Sem zg) (x2:Sem zf):rn Dq 0 Rj Tryz.f59 [zy zh x0,zy zg x1,zy zf x2] []=Tr.ok (zp.ret (AV.bool (decide (zQ (fun x=>jV x x1 x2) x0.2 0 ≥ 0))) []):=by kernel_rfl
def kA (x0:Sem zh) (x1:Sem zg) (x2:Sem zf):Sem Sh.bool:=(decide (zQ (fun x=>jV x x1 x2) x0.2 0 ≥ 0))
def MD:zB:=zW [zh,zg,zf] [Sh.bool] fun x=>(kA x.1 x.2.1 x.2.2.1,())
theorem J2:FK 59 MD:=by
 refine zO (Ic) fun x C hC=>?_
 refine zk pe (Ic) (fun id _=>hC id) (QL x.1 x.2.1 x.2.2.1) ?_
 generalize hy:kA x.1 x.2.1 x.2.2.1=y
 unfold kA at hy
 try simp only [ze.eta]
 repeat' (first | with_reducible refine aM hy (fun _ hy=>?_) (fun _ hy=>?_) | with_reducible refine zo ?_)
 all_goals first | (cases hc; done) | (subst hy; first | rfl)

abbrev Ri:=my [(3,[1,5,11,12,13])]
inductive u0 where
 | h3 (i1:Sem zg) (l11:List (Sem zf.sl)) (i12:Int) (i13:Int) (mh_0:List ((Int×Int×zn)×Int))
abbrev Wj:u0→Nat×St
 | .h3 i1 l11 i12 i13 mh_0=>(3,⟨tm 37 [(1,ai i1),(5,AV.mp 0),(11,AV.sl zf.sl l11),(12,ai i12),(13,ai i13)],[AO.vmap false mh_0]⟩)
def NW (x0:Sem zh) (x1:Sem zg):Tr (u0 ⊕ au):=Tr.to (u0.h3 x1 x0.2 (↑(length x0.2):Int) 0 [])
def qy:u0→Tr (u0 ⊕ au)
 | .h3 i1 l11 i12 i13 mh_0=>
  let a0:=l11.getD i13.toNat (zj zf.sl)
  let a1:=getD a0 (toNat i1) (zj zf)
  let a2:=(↑(ip mh_0 a1):Int)
  let a3:=f4 mh_0 a1
  let a4:=gr a3 a2.toNat (IntKind.i64.wrap (ec mh_0 a1+1))
  let a5:=ec a4 a1
  Tr.br (decide (i13 < i12))
  (Tr.chk (zH i13 l11.length)
   (Tr.chk (zH i1 (length a0)) (Tr.chk (decide (mh_0.length≤1073741824)) (Tr.chk (zH a2 a3.length) (Tr.br (bif a1.1 != 0 then decide (a5 > 1) else false) (Tr.re (AV.kb true) []) (Tr.to (u0.h3 i1 l11 i12 (IntKind.i64.wrap (i13+1)) a4)))))))
  (Tr.re (AV.kb false) [])
def qW (x0:Sem zh) (x1:Sem zg):=aq [Sh.bool] qy 100000000 (NW x0 x1)
def lU (x0:Sem zh) (x1:Sem zg):=(qW x0 x1).isSome
def pD (x0:Sem zh) (x1:Sem zg):=o1 (qW x0 x1)
def MC:=FT [zh,zg] [Sh.bool] fun x=>qW x.1 x.2.1
theorem J1:FK 57 MC:=pe.T1 (f:=Tryz.f57) (keep:=Ri) (e:=Wj)

def NI:=Dq.addL [(59,MD),(57,MC)]
theorem pf:zm NI:=pe.addL <| fc J2 <| fc J1 gX
end
noncomputable section

abbrev XT:=my [(6,[1,18,19,20]),(15,[1,39,40,41]),(21,[1,8])]
inductive uA where
 | h6 (l18:List (Sem zf.sl)) (i19:Int) (i20:Int) (z0:zu [CP.d zh])
 | h15 (l39:LI) (i40:Int) (i41:Int) (z0:zu [CP.d zh])
 | h21 (i8:Int) (z0:zu [CP.d zh])
abbrev Z4:uA→Nat×St
 | .h6 l18 i19 i20 z0=>(6,⟨tm 79 [(1,AV.ptr 0 0),(18,AV.sl zf.sl l18),(19,ai i19),(20,ai i20)],[AO.box (bn [] [CP.d zh] z0)]⟩)
 | .h15 l39 i40 i41 z0=>(15,⟨tm 79 [(1,AV.ptr 0 0),(39,AV.sl zg l39),(40,ai i40),(41,ai i41)],[AO.box (bn [] [CP.d zh] z0)]⟩)
 | .h21 i8 z0=>(21,⟨tm 79 [(1,AV.ptr 0 0),(8,ai i8)],[AO.box (bn [] [CP.d zh] z0)]⟩)
def Fi (x0:Sem zh):Tr (uA ⊕ au):=Tr.br (!j3 (x0.1.1,x0.1.2.1,x0.1.2.2.1,x0.1.2.2.2.1,x0.1.2.2.2.2.1,zC x0.1.2.2.2.2.2)) (Tr.re (ai 1) []) (Tr.br (decide ((↑(length x0.2):Int) > 200)) (Tr.re (ai 13) []) (Tr.to (uA.h6 x0.2 (↑(length x0.2):Int) 0 (x0,()))))
def eL:uA→Tr (uA ⊕ au)
 | .h6 l18 i19 i20 z0=>
  let a0:=(z0.1.1.1,z0.1.1.2.1,z0.1.1.2.2.1,z0.1.1.2.2.2.1,z0.1.1.2.2.2.2.1,zC z0.1.1.2.2.2.2.2)
  let a1:=iG a0 (l18.getD i20.toNat (zj zf.sl))
  let a2:=(a0,z0.1.2)
  Tr.br (decide (i20 < i19))
  (Tr.chk (zH i20 l18.length) (Tr.br (a1 != 0) (Tr.re (ai a1) []) (Tr.to (uA.h6 l18 i19 (IntKind.i64.wrap (i20+1)) z0))))
  (Tr.chk (lU a2 z0.1.1.2.2.1)
   (Tr.br (pD a2 z0.1.1.2.2.1) (Tr.re (ai 7) []) (Tr.to (uA.h15 z0.1.1.2.2.2.1 (↑(length z0.1.1.2.2.2.1):Int) 0 z0))))
 | .h15 l39 i40 i41 z0=>
  let a0:=((z0.1.1.1,z0.1.1.2.1,z0.1.1.2.2.1,z0.1.1.2.2.2.1,z0.1.1.2.2.2.2.1,zC z0.1.1.2.2.2.2.2),z0.1.2)
  let a1:=l39.getD i41.toNat (zj zg)
  Tr.br (decide (i41 < i40))
  (Tr.chk (zH i41 l39.length)
   (Tr.chk (lU a0 a1) (Tr.br (pD a0 a1) (Tr.re (ai 7) []) (Tr.to (uA.h15 l39 i40 (IntKind.i64.wrap (i41+1)) z0)))))
  (Tr.to (uA.h21 1 z0))
 | .h21 i8 z0=>
  let a0:=(↑(length z0.1.2):Int)
  let a1:=IntKind.i64.wrap (i8 - 1)
  let a2:=getD z0.1.2 a1.toNat (zj zf.sl)
  let a3:=getD z0.1.2 i8.toNat (zj zf.sl)
  let a4:=bM (getD a2 (toNat z0.1.1.2.2.1) (zj zf)) (getD a3 (toNat z0.1.1.2.2.1) (zj zf))
  Tr.br (decide (i8 < a0))
  (Tr.chk (zH a1 (length z0.1.2))
   (Tr.chk (zH z0.1.1.2.2.1 (length a2)) (Tr.chk (zH i8 (length z0.1.2)) (Tr.chk (zH z0.1.1.2.2.1 (length a3)) (Tr.br (decide (a4 ≥ 0)) (Tr.re (ai 15) []) (Tr.to (uA.h21 (IntKind.i64.wrap (i8+1)) z0)))))))
  (Tr.re (ai 0) [])
def jU (x0:Sem zh):=aq [zg] eL 100000000 (Fi x0)
def qU (x0:Sem zh):=(jU x0).isSome
def x8 (x0:Sem zh):=o1 (jU x0)
def T4:=FT [zh] [zg] fun x=>jU x.1
theorem PN:FK 29 T4:=pf.T1 (f:=Tryz.f29) (keep:=XT) (e:=Z4)

abbrev XU:=my [(2,[0,11,12,13]),(5,[0,4,11,12,13,19,20,21]),(11,[0,4,6,7,11,12,13,19,20,21,32,33,34])]
inductive uB where
 | h2 (l0:List (Sem zh)) (l11:List (Sem zh)) (i12:Int) (i13:Int)
 | h5 (l0:List (Sem zh)) (l11:List (Sem zh)) (i12:Int) (i13:Int) (l19:LF) (i20:Int) (i21:Int) (z0:zu [CP.d zh])
 | h11 (l0:List (Sem zh)) (i7:Sem zg) (l11:List (Sem zh)) (i12:Int) (i13:Int) (l19:LF) (i20:Int) (i21:Int) (l32:List (Sem zf.sl)) (i33:Int) (i34:Int) (z0:zu [CP.d zh]) (z1:zu [CP.d zr])
abbrev Z5:uB→Nat×St
 | .h2 l0 l11 i12 i13=>(2,⟨tm 64 [(0,AV.sl zh l0),(11,AV.sl zh l11),(12,ai i12),(13,ai i13)],[]⟩)
 | .h5 l0 l11 i12 i13 l19 i20 i21 z0=>(5,⟨tm 64 [(0,AV.sl zh l0),(4,AV.ptr 0 0),(11,AV.sl zh l11),(12,ai i12),(13,ai i13),(19,AV.sl zr l19),(20,ai i20),(21,ai i21)],[AO.box (bn [] [CP.d zh] z0)]⟩)
 | .h11 l0 i7 l11 i12 i13 l19 i20 i21 l32 i33 i34 z0 z1=>(11,⟨tm 64 [(0,AV.sl zh l0),(4,AV.ptr 0 0),(6,AV.ptr 1 0),(7,ai i7),(11,AV.sl zh l11),(12,ai i12),(13,ai i13),(19,AV.sl zr l19),(20,ai i20),(21,ai i21),(32,AV.sl zf.sl l32),(33,ai i33),(34,ai i34)],[AO.box (bn [] [CP.d zh] z0),AO.box (bn [] [CP.d zr] z1)]⟩)
def Xv (x0:Sem zh.sl):Tr (uB ⊕ au):=Tr.to (uB.h2 x0 x0 (↑(length x0):Int) 0)
def ej:uB→Tr (uB ⊕ au)
 | .h2 l0 l11 i12 i13=>
  let a0:=l11.getD i13.toNat (zj zh)
  Tr.br (decide (i13 < i12))
  (Tr.chk (zH i13 l11.length) (Tr.to (uB.h5 l0 l11 i12 i13 a0.1.2.2.2.2.1 (↑(length a0.1.2.2.2.2.1):Int) 0 (a0,()))))
  (Tr.re (AV.kb true) [])
 | .h5 l0 l11 i12 i13 l19 i20 i21 z0=>
  let a0:=l19.getD i21.toNat (zj zr)
  let a1:=aE l0 a0.2
  Tr.br (decide (i21 < i20))
  (Tr.chk (zH i21 l19.length)
   (Tr.br (decide (a1 < 0)) (Tr.re (AV.kb false) []) (Tr.to (uB.h11 l0 a1 l11 i12 i13 l19 i20 i21 z0.1.2 (↑(length z0.1.2):Int) 0 z0 (a0,())))))
  (Tr.to (uB.h2 l0 l11 i12 (IntKind.i64.wrap (i13+1))))
 | .h11 l0 i7 l11 i12 i13 l19 i20 i21 l32 i33 i34 z0 z1=>
  let a0:=l32.getD i34.toNat (zj zf.sl)
  let a1:=getD a0 (toNat z1.1.1) (zj zf)
  let a2:=a1.1 != 0
  let a3:=l0.getD (toNat i7) (zj zh)
  Tr.br (decide (i34 < i33))
  (Tr.chk (zH i34 l32.length)
   (Tr.chk (zH z1.1.1 (length a0)) (Tr.chk (bif a2 then zH i7 l0.length&&zH i7 l0.length else true) (Tr.br (bif a2 then !kA ((a3.1.1,a3.1.2.1,a3.1.2.2.1,a3.1.2.2.2.1,a3.1.2.2.2.2.1,zC a3.1.2.2.2.2.2),a3.2) a3.1.2.2.1 a1 else false) (Tr.re (AV.kb false) []) (Tr.to (uB.h11 l0 i7 l11 i12 i13 l19 i20 i21 l32 i33 (IntKind.i64.wrap (i34+1)) z0 z1))))))
  (Tr.to (uB.h5 l0 l11 i12 i13 l19 i20 (IntKind.i64.wrap (i21+1)) z0))
def nv (x0:Sem zh.sl):=aq [Sh.bool] ej 100000000 (Xv x0)
def ly (x0:Sem zh.sl):=(nv x0).isSome
def oP (x0:Sem zh.sl):=o1 (nv x0)
def T5:=FT [zh.sl] [Sh.bool] fun x=>nv x.1
theorem PO:FK 30 T5:=pf.T1 (f:=Tryz.f30) (keep:=XU) (e:=Z5)

def NJ:=NI.addL [(29,T4),(30,T5)]
theorem vQ:zm NJ:=pf.addL <| fc PN <| fc PO gX
end
noncomputable section

abbrev XI:=my [(4,[0,3]),(9,[0,30,31,32])]
inductive yN where
 | h4 (l0:List (Sem zh)) (i3:Int)
 | h9 (l0:List (Sem zh)) (l30:List (Sem zh)) (i31:Int) (i32:Int)
abbrev ZZ:yN→Nat×St
 | .h4 l0 i3=>(4,⟨tm 45 [(0,AV.sl zh l0),(3,ai i3)],[]⟩)
 | .h9 l0 l30 i31 i32=>(9,⟨tm 45 [(0,AV.sl zh l0),(30,AV.sl zh l30),(31,ai i31),(32,ai i32)],[]⟩)
def Ly (x0:Sem zh.sl):Tr (yN ⊕ au):=Tr.br (decide ((↑(length x0):Int) > 12)) (Tr.re (ai 13) []) (Tr.to (yN.h4 x0 1))
def jY:yN→Tr (yN ⊕ au)
 | .h4 l0 i3=>
  let a0:=IntKind.i64.wrap (i3 - 1)
  let a1:=l0.getD a0.toNat (zj zh)
  let a2:=l0.getD i3.toNat (zj zh)
  Tr.br (decide (i3 < (↑l0.length:Int)))
  (Tr.chk (zH a0 l0.length)
   (Tr.chk (zH i3 l0.length) (Tr.br (!Op.bytesLess a1.1.1 a2.1.1) (Tr.re (ai 15) []) (Tr.to (yN.h4 l0 (IntKind.i64.wrap (i3+1)))))))
  (Tr.to (yN.h9 l0 l0 (↑l0.length:Int) 0))
 | .h9 l0 l30 i31 i32=>
  let a0:=l30.getD i32.toNat (zj zh)
  let a1:=((a0.1.1,a0.1.2.1,a0.1.2.2.1,a0.1.2.2.2.1,a0.1.2.2.2.2.1,zC a0.1.2.2.2.2.2),a0.2)
  let a2:=x8 a1
  Tr.br (decide (i32 < i31))
  (Tr.chk (zH i32 l30.length)
   (Tr.chk (qU a1) (Tr.br (a2 != 0) (Tr.re (ai a2) []) (Tr.to (yN.h9 l0 l30 i31 (IntKind.i64.wrap (i32+1)))))))
  (Tr.chk (ly l0) (Tr.br (!oP l0) (Tr.re (ai 10) []) (Tr.re (ai 0) [])))
def nz (x0:Sem zh.sl):=aq [zg] jY 100000000 (Ly x0)
def qL (x0:Sem zh.sl):=(nz x0).isSome
def mK (x0:Sem zh.sl):=o1 (nz x0)
def TI:=FT [zh.sl] [zg] fun x=>nz x.1
theorem Pr:FK 11 TI:=vQ.T1 (f:=Tryz.f11) (keep:=XI) (e:=ZZ)

def eT:=NJ.add 11 TI
theorem bv:zm eT:=vQ.add Pr
end
section
variable {σ:Type} {t:σ→Tr (σ ⊕ au)}

def eM (t:σ→Tr (σ ⊕ au)) (k:Nat) (s:σ) (r:au):Prop:=∀ n,k≤n→bE t n s=some r
def cY (t:σ→Tr (σ ⊕ au)) (m:Nat) (s s':σ):Prop:=∀ k r,eM t k s' r→eM t (k+m) s r

theorem eM.mono {k k':Nat} {s:σ} {r:au} (h:eM t k s r) (hk:k≤k'):eM t k' s r:=fun n hn=>h n (by omega)
theorem eM.of {s:σ} {r:au} (h:(t s).val=some (.inr r)):eM t 1 s r:=by
 intro n hn
 obtain ⟨n,rfl⟩:∃ k,n=k+1:=⟨n - 1,by omega⟩
 rw [bE,h]
theorem cY.of {s s':σ} (h:(t s).val=some (.inl s')):cY t 1 s s':=by
 intro k r hr n hn
 obtain ⟨n,rfl⟩:∃ k,n=k+1:=⟨n - 1,by omega⟩
 rw [bE,h]
 exact hr n (by omega)
theorem cY.refl (s:σ):cY t 0 s s:=fun _ _ h=>h
theorem cY.trans {a b:Nat} {s s' s'':σ} (h1:cY t a s s') (h2:cY t b s' s''):cY t (b+a) s s'':=fun k r h=>(h1 _ _ (h2 k r h)).mono (by omega)
theorem cY.mono {a b:Nat} {s s':σ} (h:cY t a s s') (hk:a≤b):cY t b s s':=fun k r hr=>(h k r hr).mono (by omega)
theorem cY.ends {a k:Nat} {s s':σ} {r:au} (h1:cY t a s s') (h2:eM t k s' r):eM t (k+a) s r:=h1 k r h2

theorem cY.all (m:Nat) (st:Nat→σ):∀ (N:Nat),(∀ i,i < N→cY t m (st i) (st (i+1)))→cY t (N * m) (st 0) (st N)
 | 0,_=>(cY.refl _).mono (by omega)
 | N+1,h=>((cY.all m st N fun i hi=>h i (by omega)).trans (h N (by omega))).mono (by rw [ke]; omega)

theorem JK {Φ:au→Prop} (m:Nat) (st:Nat→σ) (P:Nat→Prop):∀ (N:Nat),(∀ i,i < N→(∀ j,j < i→P j)→(P i∧cY t m (st i) (st (i+1)))∨(¬ P i∧∃ r,eM t m (st i) r∧Φ r))→
  ((∀ i,i < N→P i)∧cY t (N * m) (st 0) (st N))∨((¬ ∀ i,i < N→P i)∧∃ r,eM t (N * m) (st 0) r∧Φ r)
 | 0,_=>.inl ⟨fun i hi=>absurd hi (by omega),(cY.refl _).mono (by omega)⟩
 | N+1,h=>by
  rcases JK m st P N fun i hi=>h i (by omega) with ⟨h1,h2⟩ | ⟨h1,r,h2,h3⟩
  ·rcases h N (by omega) h1 with ⟨h4,h5⟩ | ⟨h4,r,h5,h6⟩
   ·refine .inl ⟨fun i hi=>?_,(h2.trans h5).mono (by rw [ke]; omega)⟩
    rcases Nat.lt_succ_iff_lt_or_eq.1 hi with hi | rfl
    ·exact h1 i hi
    ·exact h4
   ·exact .inr ⟨fun h=>h4 (h N (by omega)),r,(h2.ends h5).mono (by rw [ke]; omega),h6⟩
  ·exact .inr ⟨fun h=>h1 fun i hi=>h i (by omega),r,h2.mono (by rw [ke]; omega),h3⟩

theorem dP {outs:List Sh} {n k:Nat} {i:Tr (σ ⊕ au)} {s:σ} {r:au} {y:zw (outs.map some)} (hi:i.val=some (.inl s)) (h:eM t k s r) (hk:k≤n) (hr:zX r.2 outs r.1=some y):aq outs t n i=some y:=by
 unfold aq cM
 rw [hi]
 show (bE t n s).bind _=_
 rw [h n hk]
 exact hr
theorem A3 {outs:List Sh} {n:Nat} {i:Tr (σ ⊕ au)} {r:au} {y:zw (outs.map some)} (hi:i.val=some (.inr r)) (hr:zX r.2 outs r.1=some y):aq outs t n i=some y:=by
 unfold aq cM
 rw [hi]
 exact hr
end
end Cad
