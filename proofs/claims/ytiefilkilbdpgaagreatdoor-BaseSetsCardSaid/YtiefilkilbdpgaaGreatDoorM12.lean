/- Statements: what a CREATE has. Functions on a variable to which a pointer leads. Functions as the machine goes through them, round by round. Rounds with an invariant; what a variable's cells say. Statements: their parts, their texts. Statements: their texts. Statements that may be. Bases: small things. Bases: few. Bases: few, and where a table is. Bases: few tables; has. Tables with rows: has. Tables with rows: has, check. Tables with rows: check; bases: bound. Bases: check. Loops: where they go, and where they end. -/
import Derived.Test.YtiefilkilbdpgaaGreatDoorM11
namespace Cad
open Go Go.Proofs
open Int (toNat)
open List (getD)
open List (length)
set_option maxHeartbeats 4000000

abbrev zi9:Nat→zX:=fun _=>{ }
theorem zfV:zA (gI).P 150 Tryz.f150 1:=aJ (by kernel_rfl)
theorem zim (x0:Sem zy):rn gI 0 zi9 Tryz.f150 [zz zy x0] []=Tr.ok (zr.ret (AV.bool (bif bif decide ((↑(length x0.2.2.2.2.1):Int) < 1) then true else decide ((↑(length x0.2.2.2.2.1):Int) > 8) then false else bif !decide (zS (fun x => !js x) x0.2.2.2.2.1 0 ≥ 0) then bif aT x0.2.2.2.2.2.1 then bif bif decide ((↑(length x0.2.2.2.2.2.2.1):Int) < 0) then true else decide ((↑(length x0.2.2.2.2.2.2.1):Int) > 8) then false else bif !decide (zS (fun x => !aT x) x0.2.2.2.2.2.2.1 0 ≥ 0) then bif bif decide ((↑(length x0.2.2.2.2.2.2.2.1):Int) < 0) then true else decide ((↑(length x0.2.2.2.2.2.2.2.1):Int) > 8) then false else bif !decide (zS (fun x => !sm x) x0.2.2.2.2.2.2.2.1 0 ≥ 0) then dl (zB x0.2.2.2.2.2.2.2.2.1) else false else false else false else false)) []):=by kernel_rfl
def ir (x0:Sem zy):Sem Sh.bool:=(bif bif decide ((↑(length x0.2.2.2.2.1):Int) < 1) then true else decide ((↑(length x0.2.2.2.2.1):Int) > 8) then false else bif !decide (zS (fun x => !js x) x0.2.2.2.2.1 0 ≥ 0) then bif aT x0.2.2.2.2.2.1 then bif bif decide ((↑(length x0.2.2.2.2.2.2.1):Int) < 0) then true else decide ((↑(length x0.2.2.2.2.2.2.1):Int) > 8) then false else bif !decide (zS (fun x => !aT x) x0.2.2.2.2.2.2.1 0 ≥ 0) then bif bif decide ((↑(length x0.2.2.2.2.2.2.2.1):Int) < 0) then true else decide ((↑(length x0.2.2.2.2.2.2.2.1):Int) > 8) then false else bif !decide (zS (fun x => !sm x) x0.2.2.2.2.2.2.2.1 0 ≥ 0) then dl x0.2.2.2.2.2.2.2.2.1 else false else false else false else false)
def F81:zD:=af [zy] [Sh.bool] fun x=>(ir x.1,())
theorem zci:FK 150 F81:=by
 refine zP (zfV) fun x C hC=>?_
 refine zk dP (zfV) (fun id _=>hC id) (zim x.1) ?_
 generalize hy:ir x.1=y
 unfold ir at hy
 try simp only [ze.eta]
 repeat' (first | with_reducible refine aP hy (fun _ hy=>?_) (fun _ hy=>?_) | with_reducible refine zq ?_)
 all_goals first | (cases hc; done) | (subst hy; first | rfl)

abbrev ze7:Nat→zX:=fun j=>if j=3 then { slots:=[1,5,8,9,10],prom:=[(5,none,.str)] } else { }
abbrev EZ (l8:List (Sem (Sh.str.pr Sh.expr))) (i9:Int) (i10:Int) (lh_0:LS):St:={ tmps:=(tm 23 [(1,AV.clo (Fn.func 162) [] []),(5,AV.vec 0),(8,AV.sl (Sh.str.pr Sh.expr) l8),(9,ai i9),(10,ai i10)]),heap:=[AO.vec Sh.str lh_0] }
theorem RC:zA (gI).P 164 Tryz.f164 2:=aJ (by kernel_rfl)
theorem zix (x0:Sem aQ.sl):rn gI 0 ze7 Tryz.f164 [zz aQ.sl x0,AV.clo (Fn.func 162) [] []] []=Tr.ok (zr.head 3 (zx Tryz.f164 3) (EZ x0 (↑(length x0):Int) 0 [])):=by kernel_rfl
theorem N5 (l8:List (Sem (Sh.str.pr Sh.expr))) (i9:Int) (i10:Int) (lh_0:LS):rh gI 0 ze7 Tryz.f164 3 (EZ l8 i9 i10 lh_0)=Tr.br (decide (i10 < i9)) (Tr.chk (zE i10 l8.length) (Tr.chk (jg ((l8.getD i10.toNat (zj (Sh.str.pr Sh.expr))).1,ze.mk (ze.op (l8.getD i10.toNat (zj (Sh.str.pr Sh.expr))).2) (ze.v (l8.getD i10.toNat (zj (Sh.str.pr Sh.expr))).2) (ze.s (l8.getD i10.toNat (zj (Sh.str.pr Sh.expr))).2) (ze.l (l8.getD i10.toNat (zj (Sh.str.pr Sh.expr))).2))) (Tr.chk (decide (lh_0.length+[cK ((l8.getD i10.toNat (zj (Sh.str.pr Sh.expr))).1,ze.mk (ze.op (l8.getD i10.toNat (zj (Sh.str.pr Sh.expr))).2) (ze.v (l8.getD i10.toNat (zj (Sh.str.pr Sh.expr))).2) (ze.s (l8.getD i10.toNat (zj (Sh.str.pr Sh.expr))).2) (ze.l (l8.getD i10.toNat (zj (Sh.str.pr Sh.expr))).2))].length≤1073741824)) (Tr.ok (zr.head 3 (zx Tryz.f164 3) (EZ l8 i9 (IntKind.i64.wrap (i10+1)) (lh_0++[cK ((l8.getD i10.toNat (zj (Sh.str.pr Sh.expr))).1,ze.mk (ze.op (l8.getD i10.toNat (zj (Sh.str.pr Sh.expr))).2) (ze.v (l8.getD i10.toNat (zj (Sh.str.pr Sh.expr))).2) (ze.s (l8.getD i10.toNat (zj (Sh.str.pr Sh.expr))).2) (ze.l (l8.getD i10.toNat (zj (Sh.str.pr Sh.expr))).2))]))))))) (Tr.chk (decide (lh_0.length≤140737488355328)&&decide ((Lib.join lh_0 [32,44,32]).length≤140737488355328))
 (Tr.ok (zr.ret (AV.str (Lib.join lh_0 [32,44,32])) []))):=by kernel_rfl
def cH:List (Sem (Sh.str.pr Sh.expr))→Int→List (Sem Sh.str)→Sem Sh.str
 | [],_,lh_0=>(Lib.join lh_0 [32,44,32])
 | x::r,i10,lh_0=>(cH r (i10+1) (lh_0++[cK x]))
def bF:List (Sem (Sh.str.pr Sh.expr))→Int→List (Sem Sh.str)→Bool
 | [],_,lh_0=>(if (decide (lh_0.length≤140737488355328)&&decide ((Lib.join lh_0 [32,44,32]).length≤140737488355328))=true then true else false)
 | x::r,i10,lh_0=>(if jg x=true then if decide (lh_0.length+[cK x].length≤1073741824)=true then bF r (i10+1) (lh_0++[cK x]) else false
else false)
theorem W9 {C:cq} (hC:∀ id,C.ρ0 id=none) (l8:List (Sem (Sh.str.pr Sh.expr))) (hl:l8.length≤zF):∀ (m i:Nat) (lh_0:LS),l8.length - i=m→i≤l8.length→bF (l8.drop i) i lh_0=true→
  Reach (gI) C 164 (zx Tryz.f164 3) (EZ l8 (l8.length:Int) (i:Int) lh_0) (fun r h=>ae h [Sh.str] r=some (cH (l8.drop i) i lh_0,())):=by
 intro m
 induction m with
 | zero=>
  intro i lh_0 hm hi hc
  obtain rfl:i=l8.length:=by omega
  rw [dg] at hc ⊢
  refine zk dP (RC) (fun id _=>hC id) (N5 _ _ _ _) ?_
  rw [bF] at hc
  generalize hy:cH [] _ lh_0=y
  rw [cH] at hy
  simp only [ze.eta,z8,Tr.val_brF]
  repeat' (first | with_reducible refine eU hy hc (fun _ hy hc=>?_) (fun _ hy hc=>?_) | with_reducible refine aP hy (fun _ hy=>?_) (fun _ hy=>?_) | with_reducible refine bh hc (fun hc=>?_) | with_reducible refine zq ?_)
  all_goals first | (cases hc; done) | (subst hy; first | rfl)
 | succ m IH=>
  intro i lh_0 hm hi hc
  have hlt:i < l8.length:=by omega
  have IH:=IH (i+1)
  have hcast:((i:Int)+1)=((i+1:Nat):Int):=by omega
  have hwr:=zH i (by omega)
  rw [dA hlt] at hc ⊢
  refine zk dP (RC) (fun id _=>hC id) (N5 _ _ _ _) ?_
  rw [bF] at hc
  generalize hy:cH (l8[i]::l8.drop (i+1)) (i:Int) lh_0=y
  rw [cH] at hy
  simp only [ze.eta,zW hlt,zG hlt,zY l8 _ hlt,hwr,Tr.val_brT,Tr.val_chkT]
  clear hwr
  try simp only [zG hlt] at hy
  simp only [hcast] at hy
  try simp only [zG hlt] at hc
  try simp only [hcast] at hc
  repeat' (first | with_reducible refine eU hy hc (fun _ hy hc=>?_) (fun _ hy hc=>?_) | with_reducible refine aP hy (fun _ hy=>?_) (fun _ hy=>?_) | with_reducible refine bh hc (fun hc=>?_) | with_reducible refine zq ?_)
  all_goals first | (cases hc; done) | (subst hy; first | (change Reach _ _ _ _ _ _; apply IH <;> first | omega | assumption) | rfl)
theorem QD {C:cq} (hC:∀ id,C.ρ0 id=none) (l8:List (Sem (Sh.str.pr Sh.expr))) (lh_0:LS) (hc:bF l8 0 lh_0=true):
  Reach (gI) C 164 (zx Tryz.f164 3) (EZ l8 (l8.length:Int) 0 lh_0) (fun r h=>ae h [Sh.str] r=some (cH l8 0 lh_0,())):=
 Reach.len 8 (Sh.str.pr Sh.expr) l8 rfl fun hl=>W9 hC l8 hl _ 0 lh_0 rfl (aD _) hc
def jh (x0:Sem aQ.sl):Sem Sh.str:=(cH x0 0 [])
def iR (x0:Sem aQ.sl):Bool:=(bF x0 0 [])
def F95:zD:=wk [aQ.sl] [Sh.str] [(162,(fun x=>iR x.1),fun x=>(jh x.1,()))]
theorem zcy:FK 164 F95:=by
 refine kC (RC) fun j c g hm x hc C hC=>?_
 simp only [bN,bu] at hm
 obtain ⟨rfl,rfl,rfl⟩:=hm
 replace hc:iR x.1=true:=hc
 unfold iR at hc
 refine zk dP (RC) (fun id _=>hC id) (zix x.1) ?_
 generalize hy:jh x.1=y
 unfold jh at hy
 repeat' (first | with_reducible refine eU hy hc (fun _ hy hc=>?_) (fun _ hy hc=>?_) | with_reducible refine aP hy (fun _ hy=>?_) (fun _ hy=>?_) | with_reducible refine bh hc (fun hc=>?_) | with_reducible refine zq ?_)
 all_goals first | (cases hc; done) | (subst hy; first | (change Reach _ _ _ _ _ _; apply QD hC <;> first | assumption | exact hc) | rfl)

abbrev Yo:Nat→zX:=fun j=>if j=5 then { slots:=[1,3,24,25,26] } else if j=10 then { slots:=[1,3,37,38,39] } else { }
abbrev EX (s3:zn) (l24:LS) (i25:Int) (i26:Int) (ja0:TS) (ja1:TS) (ja2:TS) (ja3:LS) (ja4:LC) (ja5:TS) (ja6:LS) (ja7:List (Sem (Sh.str.pr Sh.str))) (ja8:zn) (ja9:Int) (ja10:Int) (ja11:zn) (ja12:zn) (ja13:LX) (ja14:LV) (ja15:List (Sem (Sh.str.pr Sh.expr))) (ja16:zn) (ja17:Int) (ja18:Int) (ja19:zn) (ja20:zn) (ja21:LX) (ja22:TS):St:={ tmps:=(tm 59 [(1,AV.ptr 0 0),(3,AV.str s3),(24,AV.sl Sh.str l24),(25,ai i25),(26,ai i26)]),heap:=[AO.box [AV.str ja0,AV.str ja1,AV.str ja2,AV.sl Sh.str ja3,AV.sl zi ja4,AV.str ja5,AV.sl Sh.str ja6,AV.sl (Sh.str.pr Sh.str) ja7,AV.str ja8,ai ja9,ai ja10,AV.str ja11,AV.str ja12,AV.sl Sh.expr ja13,AV.sl zf ja14,AV.sl (Sh.str.pr Sh.expr) ja15,AV.str ja16,ai ja17,ai ja18,AV.str ja19,AV.str ja20,AV.sl Sh.expr ja21,AV.str ja22]] }
theorem Ka:zA (gI).P 159 Tryz.f159 1:=aJ (by kernel_rfl)
theorem zis (x0:Sem zy):rn gI 0 Yo Tryz.f159 [zz zy x0] []=Tr.chk (decide ([67,82,69,65,84,69,32,84,65,66,76,69,32].length+length x0.2.1≤1099511627776)) (Tr.chk (decide (length ([67,82,69,65,84,69,32,84,65,66,76,69,32]++x0.2.1)+[32,40,32].length≤1099511627776)) (Tr.chk (iJ x0.2.2.2.2.1) (Tr.chk (decide (length ([67,82,69,65,84,69,32,84,65,66,76,69,32]++x0.2.1++[32,40,32])+length (dj x0.2.2.2.2.1)≤1099511627776)) (Tr.chk (decide ([32,44,32,75,69,89,32,40,32].length+length x0.2.2.2.2.2.1≤1099511627776)) (Tr.chk (decide (length ([32,44,32,75,69,89,32,40,32]++x0.2.2.2.2.2.1)+[32,41].length≤1099511627776)) (Tr.chk (decide (length ([67,82,69,65,84,69,32,84,65,66,76,69,32]++x0.2.1++[32,40,32]++dj x0.2.2.2.2.1)+length ([32,44,32,75,69,89,32,40,32]++x0.2.2.2.2.2.1++[32,41])≤1099511627776)) (Tr.ok (zr.head 5 (zx Tryz.f159 5) (EX ([67,82,69,65,84,69,32,84,65,66,76,69,32]++x0.2.1++[32,40,32]++dj x0.2.2.2.2.1++([32,44,32,75,69,89,32,40,32]++x0.2.2.2.2.2.1++[32,41])) x0.2.2.2.2.2.2.1 (↑(length x0.2.2.2.2.2.2.1):Int) 0 x0.1 x0.2.1 x0.2.2.1 x0.2.2.2.1 x0.2.2.2.2.1 x0.2.2.2.2.2.1 x0.2.2.2.2.2.2.1 x0.2.2.2.2.2.2.2.1
 (ze.op x0.2.2.2.2.2.2.2.2.1) (ze.v x0.2.2.2.2.2.2.2.2.1).1 (ze.v x0.2.2.2.2.2.2.2.2.1).2.1 (ze.v x0.2.2.2.2.2.2.2.2.1).2.2 (ze.s x0.2.2.2.2.2.2.2.2.1) (ze.l x0.2.2.2.2.2.2.2.2.1) x0.2.2.2.2.2.2.2.2.2.1 x0.2.2.2.2.2.2.2.2.2.2.1 (ze.op x0.2.2.2.2.2.2.2.2.2.2.2.1) (ze.v x0.2.2.2.2.2.2.2.2.2.2.2.1).1 (ze.v x0.2.2.2.2.2.2.2.2.2.2.2.1).2.1 (ze.v x0.2.2.2.2.2.2.2.2.2.2.2.1).2.2 (ze.s x0.2.2.2.2.2.2.2.2.2.2.2.1) (ze.l x0.2.2.2.2.2.2.2.2.2.2.2.1) x0.2.2.2.2.2.2.2.2.2.2.2.2))))))))):=by kernel_rfl
abbrev xf (s3:zn) (l37:List (Sem (Sh.str.pr Sh.str))) (i38:Int) (i39:Int) (ja0:TS) (ja1:TS) (ja2:TS) (ja3:LS) (ja4:LC) (ja5:TS) (ja6:LS) (ja7:List (Sem (Sh.str.pr Sh.str))) (ja8:zn) (ja9:Int) (ja10:Int) (ja11:zn) (ja12:zn) (ja13:LX) (ja14:LV) (ja15:List (Sem (Sh.str.pr Sh.expr))) (ja16:zn) (ja17:Int) (ja18:Int) (ja19:zn) (ja20:zn) (ja21:LX) (ja22:TS):St:={ tmps:=(tm 59 [(1,AV.ptr 0 0),(3,AV.str s3),(37,AV.sl (Sh.str.pr Sh.str) l37),(38,ai i38),(39,ai i39)]),heap:=[AO.box [AV.str ja0,AV.str ja1,AV.str ja2,AV.sl Sh.str ja3,AV.sl zi ja4,AV.str ja5,AV.sl Sh.str ja6,AV.sl (Sh.str.pr Sh.str) ja7,AV.str ja8,ai ja9,ai ja10,AV.str ja11,AV.str ja12,AV.sl Sh.expr ja13,AV.sl zf ja14,AV.sl (Sh.str.pr Sh.expr) ja15,AV.str ja16,ai ja17,ai ja18,AV.str ja19,AV.str ja20,AV.sl Sh.expr ja21,AV.str ja22]] }
theorem N2 (s3:zn) (l24:LS) (i25:Int) (i26:Int) (ja0:TS) (ja1:TS) (ja2:TS) (ja3:LS) (ja4:LC) (ja5:TS) (ja6:LS) (ja7:List (Sem (Sh.str.pr Sh.str))) (ja8:zn) (ja9:Int) (ja10:Int) (ja11:zn) (ja12:zn) (ja13:LX) (ja14:LV) (ja15:List (Sem (Sh.str.pr Sh.expr))) (ja16:zn) (ja17:Int) (ja18:Int) (ja19:zn) (ja20:zn) (ja21:LX) (ja22:TS):rh gI 0 Yo Tryz.f159 5 (EX s3 l24 i25 i26 ja0 ja1 ja2 ja3 ja4 ja5 ja6 ja7 ja8 ja9 ja10 ja11 ja12 ja13 ja14 ja15 ja16 ja17 ja18 ja19 ja20 ja21 ja22)=Tr.br (decide (i26 < i25)) (Tr.chk (zE i26 l24.length) (Tr.chk (decide ([32,44,32,85,78,73,81,85,69,32,40,32].length+length (l24.getD i26.toNat (zj Sh.str))≤1099511627776)) (Tr.chk (decide (length ([32,44,32,85,78,73,81,85,69,32,40,32]++l24.getD i26.toNat (zj Sh.str))+[32,41].length≤1099511627776)) (Tr.chk (decide (length s3+length ([32,44,32,85,78,73,81,85,69,32,40,32]++l24.getD i26.toNat (zj Sh.str)++[32,41])≤1099511627776)) (Tr.ok (zr.head 5 (zx Tryz.f159 5) (EX (s3++([32,44,32,85,78,73,81,85,69,32,40,32]++l24.getD i26.toNat (zj Sh.str)++[32,41])) l24 i25
 (IntKind.i64.wrap (i26+1)) ja0 ja1 ja2 ja3 ja4 ja5 ja6 ja7 ja8 ja9 ja10 ja11 ja12 ja13 ja14 ja15 ja16 ja17 ja18 ja19 ja20 ja21 ja22))))))) (Tr.ok (zr.head 10 (zx Tryz.f159 10) (xf s3 ja7 (↑ja7.length:Int) 0 ja0 ja1 ja2 ja3 ja4 ja5 ja6 ja7 ja8 ja9 ja10 ja11 ja12 ja13 ja14 ja15 ja16 ja17 ja18 ja19 ja20 ja21 ja22))):=by kernel_rfl
theorem Iu (s3:zn) (l37:List (Sem (Sh.str.pr Sh.str))) (i38:Int) (i39:Int) (ja0:TS) (ja1:TS) (ja2:TS) (ja3:LS) (ja4:LC) (ja5:TS) (ja6:LS) (ja7:List (Sem (Sh.str.pr Sh.str))) (ja8:zn) (ja9:Int) (ja10:Int) (ja11:zn) (ja12:zn) (ja13:LX) (ja14:LV) (ja15:List (Sem (Sh.str.pr Sh.expr))) (ja16:zn) (ja17:Int) (ja18:Int) (ja19:zn) (ja20:zn) (ja21:LX) (ja22:TS):rh gI 0 Yo Tryz.f159 10 (xf s3 l37 i38 i39 ja0 ja1 ja2 ja3 ja4 ja5 ja6 ja7 ja8 ja9 ja10 ja11 ja12 ja13 ja14 ja15 ja16 ja17 ja18 ja19 ja20 ja21 ja22)=Tr.br (decide (i39 < i38)) (Tr.chk (zE i39 l37.length) (Tr.chk (decide ([32,44,32,82,69,70,69,82,69,78,67,69,83,32,40,32].length+length (l37.getD i39.toNat (zj (Sh.str.pr Sh.str))).1≤1099511627776)) (Tr.chk (decide (length ([32,44,32,82,69,70,69,82,69,78,67,69,83,32,40,32]++(l37.getD i39.toNat (zj (Sh.str.pr Sh.str))).1)+[32,41,32].length≤1099511627776)) (Tr.chk (decide (length ([32,44,32,82,69,70,69,82,69,78,67,69,83,32,40,32]++(l37.getD i39.toNat (zj (Sh.str.pr Sh.str))).1++[32,41,32])+length (l37.getD i39.toNat (zj (Sh.str.pr Sh.str))).2≤1099511627776)) (Tr.chk (decide (length s3+length
 ([32,44,32,82,69,70,69,82,69,78,67,69,83,32,40,32]++(l37.getD i39.toNat (zj (Sh.str.pr Sh.str))).1++[32,41,32]++(l37.getD i39.toNat (zj (Sh.str.pr Sh.str))).2)≤1099511627776)) (Tr.ok (zr.head 10 (zx Tryz.f159 10) (xf (s3++([32,44,32,82,69,70,69,82,69,78,67,69,83,32,40,32]++(l37.getD i39.toNat (zj (Sh.str.pr Sh.str))).1++[32,41,32]++(l37.getD i39.toNat (zj (Sh.str.pr Sh.str))).2)) l37 i38 (IntKind.i64.wrap (i39+1)) ja0 ja1 ja2 ja3 ja4 ja5 ja6 ja7 ja8 ja9 ja10 ja11 ja12 ja13 ja14 ja15 ja16 ja17 ja18 ja19 ja20 ja21 ja22)))))))) (Tr.chk (kJ [32,44,32] (ze.mk ja8 (ja9,ja10,ja11) ja12 ja13)) (Tr.chk (decide (length s3+length (hP [32,44,32] (ze.mk ja8 (ja9,ja10,ja11) ja12 ja13))≤1099511627776)) (Tr.chk (decide (length (s3++hP [32,44,32] (ze.mk ja8 (ja9,ja10,ja11) ja12 ja13))+[32,41].length≤1099511627776)) (Tr.ok (zr.ret (AV.str (s3++hP [32,44,32] (ze.mk ja8 (ja9,ja10,ja11) ja12 ja13)++[32,41])) []))))):=by kernel_rfl
def cE (ja0:TS) (ja1:TS) (ja2:TS) (ja3:LS) (ja4:LC) (ja5:TS) (ja6:LS) (ja7:List (Sem (Sh.str.pr Sh.str))) (ja8:zn) (ja9:Int) (ja10:Int) (ja11:zn) (ja12:zn) (ja13:LX) (ja14:LV) (ja15:List (Sem (Sh.str.pr Sh.expr))) (ja16:zn) (ja17:Int) (ja18:Int) (ja19:zn) (ja20:zn) (ja21:LX) (ja22:TS):List (Sem (Sh.str.pr Sh.str))→Int→zn→Sem Sh.str
 | [],_,s3=>(s3++hP [32,44,32] (ze.mk ja8 (ja9,ja10,ja11) ja12 ja13)++[32,41])
 | x::r,i39,s3=>(cE ja0 ja1 ja2 ja3 ja4 ja5 ja6 ja7 ja8 ja9 ja10 ja11 ja12 ja13 ja14 ja15 ja16 ja17 ja18 ja19
 ja20 ja21 ja22 r (i39+1) (s3++([32,44,32,82,69,70,69,82,69,78,67,69,83,32,40,32]++x.1++[32,41,32]++x.2)))
def cU (ja0:TS) (ja1:TS) (ja2:TS) (ja3:LS) (ja4:LC) (ja5:TS) (ja6:LS) (ja7:List (Sem (Sh.str.pr Sh.str))) (ja8:zn) (ja9:Int) (ja10:Int) (ja11:zn) (ja12:zn) (ja13:LX) (ja14:LV) (ja15:List (Sem (Sh.str.pr Sh.expr))) (ja16:zn) (ja17:Int) (ja18:Int) (ja19:zn) (ja20:zn) (ja21:LX) (ja22:TS):List (Sem (Sh.str.pr Sh.str))→Int→zn→Bool
 | [],_,s3=>(if kJ [32,44,32] (ze.mk ja8 (ja9,ja10,ja11) ja12 ja13)=true then
 if decide (length s3+length (hP [32,44,32] (ze.mk ja8 (ja9,ja10,ja11) ja12 ja13))≤1099511627776)=true then
  if
    decide (length (s3++hP [32,44,32] (ze.mk ja8 (ja9,ja10,ja11) ja12 ja13))+[32,41].length≤1099511627776)=
     true then
   true
  else false
 else false
else false)
 | x::r,i39,s3=>(if decide ([32,44,32,82,69,70,69,82,69,78,67,69,83,32,40,32].length+length x.1≤1099511627776)=true then
 if decide (length ([32,44,32,82,69,70,69,82,69,78,67,69,83,32,40,32]++x.1)+[32,41,32].length≤1099511627776)=true then
  if
    decide (length ([32,44,32,82,69,70,69,82,69,78,67,69,83,32,40,32]++x.1++[32,41,32])+length x.2≤1099511627776)=
     true then
   if
     decide
       (length s3+length ([32,44,32,82,69,70,69,82,69,78,67,69,83,32,40,32]++x.1++[32,41,32]++x.2)≤
        1099511627776)=
      true then
    cU ja0 ja1 ja2 ja3 ja4 ja5 ja6 ja7 ja8 ja9 ja10 ja11 ja12 ja13 ja14 ja15 ja16 ja17
     ja18 ja19 ja20 ja21 ja22 r (i39+1)
     (s3++([32,44,32,82,69,70,69,82,69,78,67,69,83,32,40,32]++x.1++[32,41,32]++x.2))
   else false
  else false
 else false
else false)
theorem QB {C:cq} (hC:∀ id,C.ρ0 id=none) (ja0:TS) (ja1:TS) (ja2:TS) (ja3:LS) (ja4:LC) (ja5:TS) (ja6:LS) (ja7:List (Sem (Sh.str.pr Sh.str))) (ja8:zn) (ja9:Int) (ja10:Int) (ja11:zn) (ja12:zn) (ja13:LX) (ja14:LV) (ja15:List (Sem (Sh.str.pr Sh.expr))) (ja16:zn) (ja17:Int) (ja18:Int) (ja19:zn) (ja20:zn) (ja21:LX) (ja22:TS) (l37:List (Sem (Sh.str.pr Sh.str))) (hl:l37.length≤zF):∀ (m i:Nat) (s3:zn),l37.length - i=m→i≤l37.length→cU ja0 ja1 ja2 ja3 ja4 ja5 ja6 ja7 ja8 ja9 ja10 ja11 ja12 ja13 ja14 ja15 ja16 ja17 ja18 ja19 ja20 ja21 ja22 (l37.drop i) i s3=true→
  Reach (gI) C 159 (zx Tryz.f159 10) (xf s3 l37 (l37.length:Int) (i:Int) ja0 ja1 ja2 ja3 ja4 ja5 ja6 ja7 ja8 ja9 ja10 ja11 ja12 ja13 ja14 ja15 ja16 ja17 ja18 ja19 ja20 ja21 ja22) (fun r h=>ae h [Sh.str] r=some (cE ja0 ja1 ja2 ja3 ja4 ja5 ja6 ja7 ja8 ja9 ja10 ja11 ja12 ja13 ja14 ja15 ja16 ja17 ja18 ja19 ja20 ja21 ja22 (l37.drop i) i s3,())):=by
 intro m
 induction m with
 | zero=>
  intro i s3 hm hi hc
  obtain rfl:i=l37.length:=by omega
  rw [dg] at hc ⊢
  refine zk dP (Ka) (fun id _=>hC id) (Iu _ _ _ _ _ _ _ _ _ _ _ _ _ _ _ _ _ _ _ _ _ _ _ _ _ _ _) ?_
  rw [cU] at hc
  generalize hy:cE ja0 ja1 ja2 ja3 ja4 ja5 ja6 ja7 ja8 ja9 ja10 ja11 ja12 ja13 ja14 ja15 ja16 ja17 ja18 ja19 ja20 ja21 ja22 [] _ s3=y
  rw [cE] at hy
  simp only [z8,Tr.val_brF]
  repeat' (first | with_reducible refine eU hy hc (fun _ hy hc=>?_) (fun _ hy hc=>?_) | with_reducible refine aP hy (fun _ hy=>?_) (fun _ hy=>?_) | with_reducible refine bh hc (fun hc=>?_) | with_reducible refine zq ?_)
  all_goals first | (cases hc; done) | (subst hy; first | (change Reach _ _ _ _ _ _; apply A9 hC <;> first | assumption | exact hc) | rfl)
 | succ m IH=>
  intro i s3 hm hi hc
  have hlt:i < l37.length:=by omega
  have IH:=IH (i+1)
  have hcast:((i:Int)+1)=((i+1:Nat):Int):=by omega
  have hwr:=zH i (by omega)
  rw [dA hlt] at hc ⊢
  refine zk dP (Ka) (fun id _=>hC id) (Iu _ _ _ _ _ _ _ _ _ _ _ _ _ _ _ _ _ _ _ _ _ _ _ _ _ _ _) ?_
  rw [cU] at hc
  generalize hy:cE ja0 ja1 ja2 ja3 ja4 ja5 ja6 ja7 ja8 ja9 ja10 ja11 ja12 ja13 ja14 ja15 ja16 ja17 ja18 ja19 ja20 ja21 ja22 (l37[i]::l37.drop (i+1)) (i:Int) s3=y
  rw [cE] at hy
  simp only [zW hlt,zG hlt,zY l37 _ hlt,hwr,Tr.val_brT,Tr.val_chkT]
  clear hwr
  try simp only [zG hlt] at hy
  simp only [hcast] at hy
  try simp only [zG hlt] at hc
  try simp only [hcast] at hc
  repeat' (first | with_reducible refine eU hy hc (fun _ hy hc=>?_) (fun _ hy hc=>?_) | with_reducible refine aP hy (fun _ hy=>?_) (fun _ hy=>?_) | with_reducible refine bh hc (fun hc=>?_) | with_reducible refine zq ?_)
  all_goals first | (cases hc; done) | (subst hy; first | (change Reach _ _ _ _ _ _; apply IH <;> first | omega | assumption) | (change Reach _ _ _ _ _ _; apply A9 hC <;> first | assumption | exact hc) | rfl)
theorem uk {C:cq} (hC:∀ id,C.ρ0 id=none) (ja0:TS) (ja1:TS) (ja2:TS) (ja3:LS) (ja4:LC) (ja5:TS) (ja6:LS) (ja7:List (Sem (Sh.str.pr Sh.str))) (ja8:zn) (ja9:Int) (ja10:Int) (ja11:zn) (ja12:zn) (ja13:LX) (ja14:LV) (ja15:List (Sem (Sh.str.pr Sh.expr))) (ja16:zn) (ja17:Int) (ja18:Int) (ja19:zn) (ja20:zn) (ja21:LX) (ja22:TS) (l37:List (Sem (Sh.str.pr Sh.str))) (s3:zn) (hc:cU ja0 ja1 ja2 ja3 ja4 ja5 ja6 ja7 ja8 ja9 ja10 ja11 ja12 ja13 ja14 ja15 ja16 ja17 ja18 ja19 ja20 ja21 ja22 l37 0 s3=true):
  Reach (gI) C 159 (zx Tryz.f159 10) (xf s3 l37 (l37.length:Int) 0 ja0 ja1 ja2 ja3 ja4 ja5 ja6 ja7 ja8 ja9 ja10 ja11 ja12 ja13 ja14 ja15 ja16 ja17 ja18 ja19 ja20 ja21 ja22) (fun r h=>ae h [Sh.str] r=some (cE ja0 ja1 ja2 ja3 ja4 ja5 ja6 ja7 ja8 ja9 ja10 ja11 ja12 ja13 ja14 ja15 ja16 ja17 ja18 ja19 ja20 ja21 ja22 l37 0 s3,())):=
 Reach.len 37 (Sh.str.pr Sh.str) l37 rfl fun hl=>QB hC ja0 ja1 ja2 ja3 ja4 ja5 ja6 ja7 ja8 ja9 ja10 ja11 ja12 ja13 ja14 ja15 ja16 ja17 ja18 ja19 ja20 ja21 ja22 l37 hl _ 0 s3 rfl (aD _) hc
def dk (ja0:TS) (ja1:TS) (ja2:TS) (ja3:LS) (ja4:LC) (ja5:TS) (ja6:LS) (ja7:List (Sem (Sh.str.pr Sh.str))) (ja8:zn) (ja9:Int) (ja10:Int) (ja11:zn) (ja12:zn) (ja13:LX) (ja14:LV) (ja15:List (Sem (Sh.str.pr Sh.expr))) (ja16:zn) (ja17:Int) (ja18:Int) (ja19:zn) (ja20:zn) (ja21:LX) (ja22:TS):List (Sem Sh.str)→Int→zn→Sem Sh.str
 | [],_,s3=>(cE ja0 ja1 ja2 ja3 ja4 ja5 ja6 ja7 ja8 ja9 ja10 ja11 ja12 ja13 ja14 ja15 ja16 ja17 ja18 ja19
 ja20 ja21 ja22 ja7 0 s3)
 | x::r,i26,s3=>(dk ja0 ja1 ja2 ja3 ja4 ja5 ja6 ja7 ja8 ja9 ja10 ja11 ja12 ja13 ja14 ja15 ja16 ja17 ja18 ja19
 ja20 ja21 ja22 r (i26+1) (s3++([32,44,32,85,78,73,81,85,69,32,40,32]++x++[32,41])))
def dD (ja0:TS) (ja1:TS) (ja2:TS) (ja3:LS) (ja4:LC) (ja5:TS) (ja6:LS) (ja7:List (Sem (Sh.str.pr Sh.str))) (ja8:zn) (ja9:Int) (ja10:Int) (ja11:zn) (ja12:zn) (ja13:LX) (ja14:LV) (ja15:List (Sem (Sh.str.pr Sh.expr))) (ja16:zn) (ja17:Int) (ja18:Int) (ja19:zn) (ja20:zn) (ja21:LX) (ja22:TS):List (Sem Sh.str)→Int→zn→Bool
 | [],_,s3=>(cU ja0 ja1 ja2 ja3 ja4 ja5 ja6 ja7 ja8 ja9 ja10 ja11 ja12 ja13 ja14 ja15 ja16 ja17 ja18
 ja19 ja20 ja21 ja22 ja7 0 s3)
 | x::r,i26,s3=>(if decide ([32,44,32,85,78,73,81,85,69,32,40,32].length+length x≤1099511627776)=true then
 if decide (length ([32,44,32,85,78,73,81,85,69,32,40,32]++x)+[32,41].length≤1099511627776)=true then
  if decide (length s3+length ([32,44,32,85,78,73,81,85,69,32,40,32]++x++[32,41])≤1099511627776)=true then
   dD ja0 ja1 ja2 ja3 ja4 ja5 ja6 ja7 ja8 ja9 ja10 ja11 ja12 ja13 ja14 ja15 ja16 ja17 ja18
    ja19 ja20 ja21 ja22 r (i26+1) (s3++([32,44,32,85,78,73,81,85,69,32,40,32]++x++[32,41]))
  else false
 else false
else false)
theorem W7 {C:cq} (hC:∀ id,C.ρ0 id=none) (ja0:TS) (ja1:TS) (ja2:TS) (ja3:LS) (ja4:LC) (ja5:TS) (ja6:LS) (ja7:List (Sem (Sh.str.pr Sh.str))) (ja8:zn) (ja9:Int) (ja10:Int) (ja11:zn) (ja12:zn) (ja13:LX) (ja14:LV) (ja15:List (Sem (Sh.str.pr Sh.expr))) (ja16:zn) (ja17:Int) (ja18:Int) (ja19:zn) (ja20:zn) (ja21:LX) (ja22:TS) (l24:LS) (hl:l24.length≤zF):∀ (m i:Nat) (s3:zn),l24.length - i=m→i≤l24.length→dD ja0 ja1 ja2 ja3 ja4 ja5 ja6 ja7 ja8 ja9 ja10 ja11 ja12 ja13 ja14 ja15 ja16 ja17 ja18 ja19 ja20 ja21 ja22 (l24.drop i) i s3=true→
  Reach (gI) C 159 (zx Tryz.f159 5) (EX s3 l24 (l24.length:Int) (i:Int) ja0 ja1 ja2 ja3 ja4 ja5 ja6 ja7 ja8 ja9 ja10 ja11 ja12 ja13 ja14 ja15 ja16 ja17 ja18 ja19 ja20 ja21 ja22) (fun r h=>ae h [Sh.str] r=some (dk ja0 ja1 ja2 ja3 ja4 ja5 ja6 ja7 ja8 ja9 ja10 ja11 ja12 ja13 ja14 ja15 ja16 ja17 ja18 ja19 ja20 ja21 ja22 (l24.drop i) i s3,())):=by
 intro m
 induction m with
 | zero=>
  intro i s3 hm hi hc
  obtain rfl:i=l24.length:=by omega
  rw [dg] at hc ⊢
  refine zk dP (Ka) (fun id _=>hC id) (N2 _ _ _ _ _ _ _ _ _ _ _ _ _ _ _ _ _ _ _ _ _ _ _ _ _ _ _) ?_
  rw [dD] at hc
  generalize hy:dk ja0 ja1 ja2 ja3 ja4 ja5 ja6 ja7 ja8 ja9 ja10 ja11 ja12 ja13 ja14 ja15 ja16 ja17 ja18 ja19 ja20 ja21 ja22 [] _ s3=y
  rw [dk] at hy
  simp only [z8,Tr.val_brF]
  repeat' (first | with_reducible refine eU hy hc (fun _ hy hc=>?_) (fun _ hy hc=>?_) | with_reducible refine aP hy (fun _ hy=>?_) (fun _ hy=>?_) | with_reducible refine bh hc (fun hc=>?_) | with_reducible refine zq ?_)
  all_goals first | (cases hc; done) | (subst hy; first | (change Reach _ _ _ _ _ _; apply uk hC <;> first | assumption | exact hc) | rfl)
 | succ m IH=>
  intro i s3 hm hi hc
  have hlt:i < l24.length:=by omega
  have IH:=IH (i+1)
  have hcast:((i:Int)+1)=((i+1:Nat):Int):=by omega
  have hwr:=zH i (by omega)
  rw [dA hlt] at hc ⊢
  refine zk dP (Ka) (fun id _=>hC id) (N2 _ _ _ _ _ _ _ _ _ _ _ _ _ _ _ _ _ _ _ _ _ _ _ _ _ _ _) ?_
  rw [dD] at hc
  generalize hy:dk ja0 ja1 ja2 ja3 ja4 ja5 ja6 ja7 ja8 ja9 ja10 ja11 ja12 ja13 ja14 ja15 ja16 ja17 ja18 ja19 ja20 ja21 ja22 (l24[i]::l24.drop (i+1)) (i:Int) s3=y
  rw [dk] at hy
  simp only [zW hlt,zG hlt,zY l24 _ hlt,hwr,Tr.val_brT,Tr.val_chkT]
  clear hwr
  try simp only [zG hlt] at hy
  simp only [hcast] at hy
  try simp only [zG hlt] at hc
  try simp only [hcast] at hc
  repeat' (first | with_reducible refine eU hy hc (fun _ hy hc=>?_) (fun _ hy hc=>?_) | with_reducible refine aP hy (fun _ hy=>?_) (fun _ hy=>?_) | with_reducible refine bh hc (fun hc=>?_) | with_reducible refine zq ?_)
  all_goals first | (cases hc; done) | (subst hy; first | (change Reach _ _ _ _ _ _; apply IH <;> first | omega | assumption) | (change Reach _ _ _ _ _ _; apply uk hC <;> first | assumption | exact hc) | rfl)
theorem A9 {C:cq} (hC:∀ id,C.ρ0 id=none) (ja0:TS) (ja1:TS) (ja2:TS) (ja3:LS) (ja4:LC) (ja5:TS) (ja6:LS) (ja7:List (Sem (Sh.str.pr Sh.str))) (ja8:zn) (ja9:Int) (ja10:Int) (ja11:zn) (ja12:zn) (ja13:LX) (ja14:LV) (ja15:List (Sem (Sh.str.pr Sh.expr))) (ja16:zn) (ja17:Int) (ja18:Int) (ja19:zn) (ja20:zn) (ja21:LX) (ja22:TS) (l24:LS) (s3:zn) (hc:dD ja0 ja1 ja2 ja3 ja4 ja5 ja6 ja7 ja8 ja9 ja10 ja11 ja12 ja13 ja14 ja15 ja16 ja17 ja18 ja19 ja20 ja21 ja22 l24 0 s3=true):
  Reach (gI) C 159 (zx Tryz.f159 5) (EX s3 l24 (l24.length:Int) 0 ja0 ja1 ja2 ja3 ja4 ja5 ja6 ja7 ja8 ja9 ja10 ja11 ja12 ja13 ja14 ja15 ja16 ja17 ja18 ja19 ja20 ja21 ja22) (fun r h=>ae h [Sh.str] r=some (dk ja0 ja1 ja2 ja3 ja4 ja5 ja6 ja7 ja8 ja9 ja10 ja11 ja12 ja13 ja14 ja15 ja16 ja17 ja18 ja19 ja20 ja21 ja22 l24 0 s3,())):=
 Reach.len 24 (Sh.str) l24 rfl fun hl=>W7 hC ja0 ja1 ja2 ja3 ja4 ja5 ja6 ja7 ja8 ja9 ja10 ja11 ja12 ja13 ja14 ja15 ja16 ja17 ja18 ja19 ja20 ja21 ja22 l24 hl _ 0 s3 rfl (aD _) hc
def mI (x0:Sem zy):Sem Sh.str:=(dk x0.1 x0.2.1 x0.2.2.1 x0.2.2.2.1 x0.2.2.2.2.1 x0.2.2.2.2.2.1 x0.2.2.2.2.2.2.1 x0.2.2.2.2.2.2.2.1 (ze.op x0.2.2.2.2.2.2.2.2.1) (ze.v x0.2.2.2.2.2.2.2.2.1).1 (ze.v x0.2.2.2.2.2.2.2.2.1).2.1 (ze.v x0.2.2.2.2.2.2.2.2.1).2.2 (ze.s x0.2.2.2.2.2.2.2.2.1) (ze.l x0.2.2.2.2.2.2.2.2.1) x0.2.2.2.2.2.2.2.2.2.1 x0.2.2.2.2.2.2.2.2.2.2.1 (ze.op x0.2.2.2.2.2.2.2.2.2.2.2.1) (ze.v x0.2.2.2.2.2.2.2.2.2.2.2.1).1 (ze.v x0.2.2.2.2.2.2.2.2.2.2.2.1).2.1 (ze.v x0.2.2.2.2.2.2.2.2.2.2.2.1).2.2 (ze.s x0.2.2.2.2.2.2.2.2.2.2.2.1) (ze.l x0.2.2.2.2.2.2.2.2.2.2.2.1) x0.2.2.2.2.2.2.2.2.2.2.2.2 x0.2.2.2.2.2.2.1 0 ([67,82,69,65,84,69,32,84,65,66,76,69,32]++x0.2.1++[32,40,32]++dj x0.2.2.2.2.1++([32,44,32,75,69,89,32,40,32]++x0.2.2.2.2.2.1++[32,41])))
def lT (x0:Sem zy):Bool:=(if decide ([67,82,69,65,84,69,32,84,65,66,76,69,32].length+length x0.2.1≤1099511627776)=true then if decide (length ([67,82,69,65,84,69,32,84,65,66,76,69,32]++x0.2.1)+[32,40,32].length≤1099511627776)=true then if iJ x0.2.2.2.2.1=true then if decide (length ([67,82,69,65,84,69,32,84,65,66,76,69,32]++x0.2.1++[32,40,32])+length (dj x0.2.2.2.2.1)≤1099511627776)=true then if decide ([32,44,32,75,69,89,32,40,32].length+length x0.2.2.2.2.2.1≤1099511627776)=true then if decide (length ([32,44,32,75,69,89,32,40,32]++x0.2.2.2.2.2.1)+[32,41].length≤1099511627776)=true then if decide (length ([67,82,69,65,84,69,32,84,65,66,76,69,32]++x0.2.1++[32,40,32]++dj x0.2.2.2.2.1)+length ([32,44,32,75,69,89,32,40,32]++x0.2.2.2.2.2.1++[32,41])≤1099511627776)=true then dD x0.1 x0.2.1 x0.2.2.1 x0.2.2.2.1 x0.2.2.2.2.1 x0.2.2.2.2.2.1 x0.2.2.2.2.2.2.1 x0.2.2.2.2.2.2.2.1 (ze.op x0.2.2.2.2.2.2.2.2.1) (ze.v x0.2.2.2.2.2.2.2.2.1).1 (ze.v x0.2.2.2.2.2.2.2.2.1).2.1 (ze.v x0.2.2.2.2.2.2.2.2.1).2.2 (ze.s x0.2.2.2.2.2.2.2.2.1) (ze.l x0.2.2.2.2.2.2.2.2.1) x0.2.2.2.2.2.2.2.2.2.1 x0.2.2.2.2.2.2.2.2.2.2.1 (ze.op x0.2.2.2.2.2.2.2.2.2.2.2.1) (ze.v x0.2.2.2.2.2.2.2.2.2.2.2.1).1 (ze.v x0.2.2.2.2.2.2.2.2.2.2.2.1).2.1
 (ze.v x0.2.2.2.2.2.2.2.2.2.2.2.1).2.2 (ze.s x0.2.2.2.2.2.2.2.2.2.2.2.1) (ze.l x0.2.2.2.2.2.2.2.2.2.2.2.1) x0.2.2.2.2.2.2.2.2.2.2.2.2 x0.2.2.2.2.2.2.1 0 ([67,82,69,65,84,69,32,84,65,66,76,69,32]++x0.2.1++[32,40,32]++dj x0.2.2.2.2.1++([32,44,32,75,69,89,32,40,32]++x0.2.2.2.2.2.1++[32,41])) else false else false else false else false else false else false else false)
def F90:zD:=zC [zy] [Sh.str] (fun x=>lT x.1) fun x=>(mI x.1,())
theorem zct:FK 159 F90:=by
 refine zN (Ka) fun x hc C hC=>?_
 unfold lT at hc
 refine zk dP (Ka) (fun id _=>hC id) (zis x.1) ?_
 generalize hy:mI x.1=y
 unfold mI at hy
 try simp only [ze.eta,zo]
 repeat' (first | with_reducible refine eU hy hc (fun _ hy hc=>?_) (fun _ hy hc=>?_) | with_reducible refine aP hy (fun _ hy=>?_) (fun _ hy=>?_) | with_reducible refine bh hc (fun hc=>?_) | with_reducible refine zq ?_)
 all_goals first | (cases hc; done) | (subst hy; first | (change Reach _ _ _ _ _ _; apply A9 hC <;> first | assumption | exact hc) | (change Reach _ _ _ _ _ _; apply uk hC <;> first | assumption | exact hc) | rfl)

noncomputable def yK:=gI.addL [(150,F81),(164,F95),(159,F90)]
theorem qH:zm yK:=dP.addL <| fc zci <| fc zcy <| fc zct gW
open Go

inductive CP where
 | d (s:Sh)
 | nil
 | vec (e:Sh)

@[reducible] def zu:List CP→Type
 | []=>Unit
 | .d s::r=>Sem s×zu r
 | .nil::r=>zu r
 | .vec e::r=>List (Sem e)×zu r

def fF:(n:Nat)→(ps:List CP)→zu ps→List AV
 | _,[],_=>[]
 | n,.d s::r,y=>zl s y.1++fF n r y.2
 | n,.nil::r,y=>.nils::fF n r y
 | n,.vec _::r,y=>.vec n::fF (n+1) r y.2

def fG:(ps:List CP)→zu ps→List AO
 | [],_=>[]
 | .d _::r,y=>fG r y.2
 | .nil::r,y=>fG r y
 | .vec e::r,y=>.vec e y.1::fG r y.2

def bQ (ps:List CP) (y:zu ps):List AO:=.box (fF 1 ps y)::fG ps y

def ay:List CP→Nat
 | []=>0
 | .vec _::r=>ay r+1
 | _::r=>ay r

theorem bw:∀ (ps:List CP) (y:zu ps),(fG ps y).length=ay ps
 | [],_=>rfl
 | .d _::r,y=>bw r y.2
 | .nil::r,y=>bw r y
 | .vec _::r,y=>congrArg (· + 1) (bw r y.2)

def ce (hp:Nat→AO):(n:Nat)→(ps:List CP)→List AV→Option (zu ps)
 | _,[],[]=>some ()
 | n,.d s::r,cs=>match bW (fun _=>.dead) s cs with
  | some (x,cs')=>match ce hp n r cs' with
   | some y=>some (x,y)
   | none=>none
  | none=>none
 | n,.nil::r,.nils::cs=>ce hp n r cs
 | n,.vec e::r,.vec id::cs=>if id=n then match hp id with
   | .vec e' l=>if h:e'=e then match ce hp (n+1) r cs with
     | some y=>some (h▸l,y)
     | none=>none
    else none
   | _=>none
  else none
 | _,_,_=>none

section
variable {w:World} {U:Nat→Prop} {ρ:Nat→Option Value}

theorem cr.app {a b:List AV} {va vb:List Value} (h1:cr w U ρ a va) (h2:cr w U ρ b vb):cr w U ρ (a++b) (va++vb) where
 len:=by simp [h1.len,h2.len]
 rv:=by
  intro j c v hc hv
  by_cases hj:j < a.length
  ·rw [jG hj] at hc
   rw [jG (by rw [← h1.len]; exact hj)] at hv
   exact h1.rv j c v hc hv
  ·rw [kF (by omega)] at hc
   rw [kF (by rw [← h1.len]; omega),← h1.len] at hv
   exact h2.rv _ c v hc hv

theorem cr.tail {a:AV} {l:List AV} {v:Value} {vs:List Value} (h:cr w U ρ (a::l) (v::vs)):cr w U ρ l vs:=
 ⟨by have:=h.len; simpa using this,fun j c x hc hx=>h.rv (j+1) c x (by simpa using hc) (by simpa using hx)⟩

theorem cr.consH {a:AV} {l:List AV} {v:Value} {vs:List Value} (h1:Rv w U ρ a v) (h2:cr w U ρ l vs):cr w U ρ (a::l) (v::vs) where
 len:=by simp [h2.len]
 rv:=by
  intro j c x hc hx
  cases j with
  | zero=>simp at hc hx; subst hc; subst hx; exact h1
  | succ j=>exact h2.rv j c x (by simpa using hc) (by simpa using hx)

theorem ew {hp:Nat→AO}:∀ (ps:List CP) (n:Nat) (cs:List AV) (y:zu ps) (vals:List Value),ce hp n ps cs=some y→cr w U ρ cs vals→
  cr w U ρ (fF n ps y) vals∧∀ (j:Nat) o,(fG ps y)[j]?=some o→hp (n+j)=o
 | [],n,[],y,vals,h,hr=>⟨hr,by simp [fG]⟩
 | [],n,_::_,y,vals,h,hr=>by simp [ce] at h
 | .d s::r,n,cs,y,vals,h,hr=>by
  unfold ce at h
  split at h
  ·rename_i x cs' hi
   split at h
   ·rename_i y' hy
    cases h
    have hk:=gr (w:=w) (U:=U) (U':=U) (ρ:=ρ) (hp:=fun _=>.dead) (fun _ h=>h) s cs x cs' (fun j=>vals.getD j undef) hi
     (fun j c hc=>by
      have hlt:j < vals.length:=by rw [← hr.len]; exact (bG.1 hc).1
      have:=hr.rv j c vals[j] hc (zI hlt)
      simpa [getD,zI hlt] using this)
     (fun id _=>⟨trivial,fun b hb=>by simp [zM,AO.owns] at hb⟩)
    obtain ⟨k1,k2,k3⟩:=hk
    have hdrop:cr w U ρ cs' (vals.drop s.size):=by
     refine ⟨by rw [k2]; simp [hr.len],fun j c v hc hv=>?_⟩
     rw [k2,nA] at hc
     rw [nA] at hv
     exact hr.rv _ c v hc hv
    obtain ⟨i1,i2⟩:=ew r n cs' y' (vals.drop s.size) hy hdrop
    refine ⟨?_,i2⟩
    have htake:cr w U ρ (zl s x) (vals.take s.size):=by
     refine ⟨by rw [zL]; have:=hr.len; simp; omega,fun j c v hc hv=>?_⟩
     have hj:j < s.size:=by rw [← zL s x]; exact (bG.1 hc).1
     rw [yo,if_pos hj] at hv
     have:=k3 j c hc
     simpa [getD,hv] using this
    have:=htake.app i1
    rw [List.take_append_drop] at this
    exact this
   ·cases h
  ·cases h
 | .nil::r,n,.nils::cs,y,vals,h,hr=>by
  match vals,hr with
  | [],hr=>have:=hr.len; simp at this
  | v::vs,hr=>
   have hv:=hr.rv 0 _ v rfl rfl
   obtain ⟨i1,i2⟩:=ew r n cs y vs h hr.tail
   exact ⟨cr.consH hv i1,i2⟩
 | .vec e::r,n,.vec id::cs,y,vals,h,hr=>by
  match vals,hr with
  | [],hr=>have:=hr.len; simp at this
  | v :: vs,hr=>
   have hv:=hr.rv 0 _ v rfl rfl
   unfold ce at h
   split at h
   ·rename_i hid
    subst hid
    split at h
    ·rename_i e' l ho
     split at h
     ·rename_i he
      subst he
      split at h
      ·rename_i y' hy
       cases h
       obtain ⟨i1,i2⟩:=ew r (id+1) cs y' vs hy hr.tail
       refine ⟨cr.consH hv i1,fun j o hj=>?_⟩
       cases j with
       | zero=>simp [fG] at hj; subst hj; exact ho
       | succ j=>
        have:=i2 j o (by simpa [fG] using hj)
        rw [← this]
        congr 1
        omega
      ·cases h
     ·cases h
    ·cases h
   ·cases h
 | .nil::_,_,[],_,_,h,_=>by simp [ce] at h
 | .vec _::_,_,[],_,_,h,_=>by simp [ce] at h
 | .nil::_,_,.any::_,_,_,h,_ | .nil::_,_,.kb _::_,_,_,h,_ | .nil::_,_,.bool _::_,_,_,h,_ | .nil::_,_,.int _ _::_,_,_,h,_ | .nil::_,_,.str _::_,_,_,h,_
 | .nil::_,_,.sl _ _::_,_,_,h,_ | .nil::_,_,.vec _::_,_,_,h,_ | .nil::_,_,.ptr _ _::_,_,_,h,_ | .nil::_,_,.vptr _ _ _ _::_,_,_,h,_ | .nil::_,_,.eptr _ _::_,_,_,h,_
 | .nil::_,_,.nilp::_,_,_,h,_ | .nil::_,_,.agg _::_,_,_,h,_ | .nil::_,_,.tup _::_,_,_,h,_ | .nil::_,_,.clo _ _ _::_,_,_,h,_ | .nil::_,_,.nilf::_,_,_,h,_
 | .nil::_,_,.mp _::_,_,_,h,_ | .nil::_,_,.ifc _::_,_,_,h,_ | .nil::_,_,.tab _ _::_,_,_,h,_ | .nil::_,_,.gint::_,_,_,h,_ | .nil::_,_,.vsuf _ _ _::_,_,_,h,_=>by simp [ce] at h
 | .vec _::_,_,.any::_,_,_,h,_ | .vec _::_,_,.kb _::_,_,_,h,_ | .vec _::_,_,.bool _::_,_,_,h,_ | .vec _::_,_,.int _ _::_,_,_,h,_ | .vec _::_,_,.str _::_,_,_,h,_
 | .vec _::_,_,.sl _ _::_,_,_,h,_ | .vec _::_,_,.nils::_,_,_,h,_ | .vec _::_,_,.ptr _ _::_,_,_,h,_ | .vec _::_,_,.vptr _ _ _ _::_,_,_,h,_ | .vec _::_,_,.eptr _ _::_,_,_,h,_
 | .vec _::_,_,.nilp::_,_,_,h,_ | .vec _::_,_,.agg _::_,_,_,h,_ | .vec _::_,_,.tup _::_,_,_,h,_ | .vec _::_,_,.clo _ _ _::_,_,_,h,_ | .vec _::_,_,.nilf::_,_,_,h,_
 | .vec _::_,_,.mp _::_,_,_,h,_ | .vec _::_,_,.ifc _::_,_,_,h,_ | .vec _::_,_,.tab _ _::_,_,_,h,_ | .vec _::_,_,.gint::_,_,_,h,_ | .vec _::_,_,.vsuf _ _ _::_,_,_,h,_=>by simp [ce] at h
end

theorem gD.box {C:cq} {w:World} {U:Nat→Prop} {ρ:Nat→Option Value} {cs:List AV} {os:List AO} {ps:List CP} {y:zu ps} (hH:gD C w U ρ (fun j=>((AO.box cs::os).getD j .dead))) (hl:os.length=ay ps)
  (hm:ce (iu (.box cs::os)) 1 ps cs=some y):gD C w U ρ (fun j=>(bQ ps y).getD j .dead):=by
 have h0:aX w U ρ 0 (.box cs):=hH.ob 0
 obtain ⟨b,T,vals,h1,h2,h3,h4,h5⟩:=h0
 obtain ⟨k1,k2⟩:=ew ps 1 cs y vals.toList hm h4
 have hobj:∀ id,id≠0→(bQ ps y).getD id .dead=(AO.box cs::os).getD id .dead:=by
  intro id hid
  obtain ⟨j,rfl⟩:∃ j,id=j+1:=⟨id - 1,by omega⟩
  by_cases hj:j < (fG ps y).length
  ·have:=k2 j _ (zI hj)
   unfold bQ
   simp only [yl]
   rw [aB,zI hj]
   simp only [iu,oT 1 j,yl] at this
   simpa using this.symm
  ·have h7:os.length≤j:=by rw [bw] at hj; omega
   unfold bQ
   simp only [yl]
   rw [aB,aB,dd (by omega),dd h7]
 have hown:∀ id b,zM ρ id ((bQ ps y).getD id .dead) b→zM ρ id ((AO.box cs::os).getD id .dead) b:=by
  intro id b' ho
  by_cases hid:id=0
  ·subst hid
   obtain ⟨_,v,hv,hb⟩:=ho
   exact ⟨rfl,v,hv,hb⟩
  ·rw [hobj id hid] at ho; exact ho
 refine ⟨fun id=>?_,fun id1 id2 b' o1 o2=>hH.inj id1 id2 b' (hown _ _ o1) (hown _ _ o2),fun id b' o=>hH.blk id b' (hown _ _ o)⟩
 by_cases hid:id=0
 ·subst hid
  exact ⟨b,T,vals,h1,h2,h3,k1,h5⟩
 ·show aX w U ρ id ((bQ ps y).getD id .dead)
  rw [hobj id hid]
  exact hH.ob id

def Bb (ps:List CP) (outs:List Sh) (r:AV) (h:List AO):Option (zw (outs.map some)×zu ps):=match h with
 | .box cs::os=>if os.length=ay ps then match ae [] outs r,ce (iu (.box cs::os)) 1 ps cs with
   | some a,some y=>some (a,y)
   | _,_=>none
  else none
 | _=>none

def zc4 (ps:List CP) (ks outs:List Sh) (ps':List CP) (c:zu ps→zw (ks.map some)→Bool) (g:zu ps→zw (ks.map some)→zw (outs.map some)×zu ps'):cy (none::ks.map some):=fun x h=>match x.1,h with
 | .ptr 0 0,.box cs::os=>if os.length=ay ps then match ce (iu (.box cs::os)) 1 ps cs with
   | some y=>.chk (c y x.2) (.ok (sn outs (g y x.2).1,bQ ps' (g y x.2).2))
   | none=>.err
  else .err
 | _,_=>.err

def xM (ps:List CP) (ks outs:List Sh) (ps':List CP) (c:zu ps→zw (ks.map some)→Bool) (g:zu ps→zw (ks.map some)→zw (outs.map some)×zu ps'):zD:=zR (none::ks.map some) (zc4 ps ks outs ps' c g)

theorem nD (ps:List CP) (y:zu ps):(bQ ps y).length=ay ps+1:=by
 simp [bQ,bw]

theorem AF {w:World} {U:Nat→Prop} {ρ:Nat→Option Value} {outs:List Sh} {r:AV} {y:zw (outs.map some)} {v:Value} (h:ae [] outs r=some y) (hr:Rv w U ρ r v):Rv w U ρ (sn outs y) v:=by
 have hob:∀ id,aX w U ρ id (iu [] id)∧∀ b,zM ρ id (iu [] id) b→¬ U b:=fun id=>⟨by simp [iu,aX],fun b hb=>by simp [iu,zM,AO.owns] at hb⟩
 have htup:∀ (outs:List Sh) (y:zw (outs.map some)) (rs:List AV),jx (iu []) (fun i=>i) (outs.map some) rs=some y→Rv w U ρ (.tup rs) v→Rv w U ρ (.tup (f6 (outs.map some) y)) v:=by
  intro outs y rs hy hrv
  cases hrv with
  | tup _ vs hl hr2=>
  have:=(gO (w:=w) (U:=U) (ρ:=ρ) (U':=U) (ρ':=ρ) (hp:=iu []) (f:=fun i=>i) (fun b hb=>hb) (outs.map some) rs vs _ (mg outs rs y hy) ⟨hl,hr2⟩ (fun id _=>hob id)
   (fun id _=>rfl)).1
  simp only [rO,rK,zO,if_false,List.map_id'] at this
  exact .tup _ vs this.len this.rv
 match outs,y,h with
 | [s],y,h=>
  simp only [ae] at h
  split at h
  ·rename_i x hx
   cases h
   exact uE hx hr (fun b hb=>hb) (fun id _=>hob id)
  ·cases h
 | [],y,h=>
  simp only [ae] at h
  cases r with
  | tup rs=>exact htup [] y _ h hr
  | _=>cases h
 | s1::s2::ss,y,h=>
  simp only [ae] at h
  cases r with
  | tup rs=>exact htup _ y _ h hr
  | _=>cases h

theorem Qn {P:Program} {gl:Nat→AV} {E:bf} {k:FuncId} {f:Func} {ps:List CP} {ks outs:List Sh} {ps':List CP} {c:zu ps→zw (ks.map some)→Bool} {g:zu ps→zw (ks.map some)→zw (outs.map some)×zu ps'} (hf:zA E.P k f (ks.length+1))
  (h:∀ y x,c y x=true→∀ C:cq,(∀ id,ay ps+1≤id→C.ρ0 id=none)→Reach E C k (au f) (z7 f.ntmps (.ptr 0 0::f6 (ks.map some) x) (bQ ps y)) (fun r h=>Bb ps' outs r h=some (g y x))) (qp:E.P=P:=by rfl) (qg:E.gl=gl:=by rfl):
  lF P gl k (xM ps ks outs ps' c g):=by
 subst qp qg
 refine bq (by simpa using hf) fun x h0 res hx C hC=>?_
 obtain ⟨x0,x⟩:=x
 unfold zc4 at hx
 simp only at hx
 split at hx
 ·rename_i cs os
  split at hx
  ·rename_i hos
   split at hx
   ·rename_i y hy
    simp only [Tr.val] at hx
    split at hx
    ·rename_i hc
     simp only [ag] at hx
     subst hx
     have hR:=h y x hc C (fun id hid=>hC id (by simpa [hos] using hid))
     intro b cs' a w U ρ h1 h2 hcn hW
     have hH:gD C w U ρ (fun j=>((AO.box cs::os).getD j .dead)):=hcn.hp
     have hcn':Cn C (z7 f.ntmps (.ptr 0 0::f6 (ks.map some) x) (bQ ps y)) a w U ρ:=
      ⟨hcn.tm,hH.box hos hy,fun id hid=>hcn.new id (by have hid:(bQ ps y).length≤id:=hid; rw [nD] at hid; simpa [z7,hos] using hid),hcn.df,hcn.r0⟩
     obtain ⟨e,w',fr,⟨v,r,h',U',ρ',he,hq,hrv,hH',hnew,hr0,hWd⟩,hcm,hf',hl⟩:=hR b cs' a w U ρ h1 h2 hcn' hW
     unfold Bb at hq
     split at hq
     ·rename_i cs2 os2
      split at hq
      ·rename_i hos2
       split at hq
       ·rename_i a' y' ha' hy'
        simp only [ag] at hq
        refine ⟨e,w',fr,⟨v,_,_,U',ρ',he,by rw [← hq],AF ha' hrv,hH'.box hos2 hy',fun id hid=>hnew id (by rw [nD] at hid; simpa [hos2] using hid),hr0,hWd⟩,hcm,hf',hl⟩
       ·cases hq
      ·cases hq
     ·cases hq
    ·simp at hx
   ·simp at hx
  ·simp at hx
 ·simp at hx


def po (E:bf) (n0:Nat) (keep:Nat→zX) (f:Func) (gas:Nat):Nat→List Item→St→Option (AV×List AO)
 | 0,_,_=>none
 | n+1,K,st=>match (run E n0 keep f.results.toList gas K st).val with
  | some (.ret v h)=>some (v,h)
  | some (.head _ K' st')=>po E n0 keep f gas n K' st'
  | _=>none

theorem kh {E:bf} {C:cq} {k:FuncId} {f:Func} {Q:AV→List AO→Prop} {m n0:Nat} (hE:zm E) (hf:zA E.P k f m) (hC:∀ id,n0≤id→C.ρ0 id=none) {keep:Nat→zX} {gas:Nat}:
  ∀ (n:Nat) (K:List Item) (st:St) (r:AV×List AO),po E n0 keep f gas n K st=some r→Q r.1 r.2→Reach E C k K st Q
 | 0,_,_,_,h,_=>by cases h
 | n+1,K,st,r,h,hQ=>by
  unfold po at h
  split at h
  ·rename_i v h' hv
   cases h
   exact nc hE hf hC hv hQ
  ·rename_i j K' st' hv
   exact nc hE hf hC hv (kh hE hf hC n K' st' r h hQ)
  ·cases h

def bT:(outs:List Sh)→zw (outs.map some)
 | []=>()
 | s::r=>(zj s,bT r)

def fH:(ps:List CP)→zu ps
 | []=>()
 | .d s::r=>(zj s,fH r)
 | .nil::r=>fH r
 | .vec _::r=>([],fH r)

def bb:List Nat→(ps:List CP)→zu ps→List AV
 | _,[],_=>[]
 | n,.d s::r,y=>zl s y.1++bb n r y.2
 | n,.nil::r,y=>.nils::bb n r y
 | n,.vec _::r,y=>.vec (n.headD 0)::bb n.tail r y.2

def Uk (E:bf) (keep:Nat→zX) (f:Func) (gas n:Nat) (ks outs:List Sh) (x:zw (ks.map some)):Option (zw (outs.map some)):=
 (po E 0 keep f gas n (au f) (z7 f.ntmps (f6 (ks.map some) x) [])).bind fun r=>ae r.2 outs r.1

def Zc (ks outs:List Sh) (g:zw (ks.map some)→Option (zw (outs.map some))):zD:=zC ks outs (fun x=>(g x).isSome) fun x=>(g x).getD (bT outs)

theorem WU {P:Program} {gl:Nat→AV} {E:bf} {k:FuncId} {f:Func} {ks outs:List Sh} {keep:Nat→zX} {gas n:Nat} (hE:zm E) (hf:zA E.P k f ks.length) (qp:E.P=P:=by rfl) (qg:E.gl=gl:=by rfl):lF P gl k (Zc ks outs (Uk E keep f gas n ks outs)):=by
 subst qp qg
 refine zN hf fun x hc C hC=>?_
 rw [Option.isSome_iff_exists] at hc
 obtain ⟨y,hy⟩:=hc
 rw [hy]
 unfold Uk at hy
 rw [eO] at hy
 obtain ⟨r,h1,h2⟩:=hy
 exact kh hE hf (fun id _=>hC id) n _ _ r h1 h2

def Uj (E:bf) (keep:Nat→zX) (f:Func) (gas n:Nat) (ps:List CP) (ks outs:List Sh) (ps':List CP) (y:zu ps) (x:zw (ks.map some)):Option (zw (outs.map some)×zu ps'):=
 (po E (ay ps+1) keep f gas n (au f) (z7 f.ntmps (.ptr 0 0::f6 (ks.map some) x) (bQ ps y))).bind fun r=>Bb ps' outs r.1 r.2

def zg9 (ps:List CP) (ks outs:List Sh) (ps':List CP) (g:zu ps→zw (ks.map some)→Option (zw (outs.map some)×zu ps')):zD:=
 xM ps ks outs ps' (fun y x=>(g y x).isSome) fun y x=>(g y x).getD (bT outs,fH ps')

theorem Qo {P:Program} {gl:Nat→AV} {E:bf} {k:FuncId} {f:Func} {ps:List CP} {ks outs:List Sh} {ps':List CP} {keep:Nat→zX} {gas n:Nat} (hE:zm E) (hf:zA E.P k f (ks.length+1)) (qp:E.P=P:=by rfl) (qg:E.gl=gl:=by rfl):lF P gl k (zg9 ps ks outs ps' (Uj E keep f gas n ps ks outs ps')):=by
 subst qp qg
 refine Qn hf fun y x hc C hC=>?_
 rw [Option.isSome_iff_exists] at hc
 obtain ⟨z,hz⟩:=hc
 rw [hz]
 unfold Uj at hz
 rw [eO] at hz
 obtain ⟨r,h1,h2⟩:=hz
 exact kh hE hf hC n _ _ r h1 h2

theorem Qp {P:Program} {gl:Nat→AV} {E:bf} {k:FuncId} {f:Func} {ks outs:List Sh} {keep:Nat→zX} {gas n:Nat} {c:zw (ks.map some)→Bool} {g:zw (ks.map some)→zw (outs.map some)} (hE:zm E) (hf:zA E.P k f ks.length)
  (hc:∀ x,c x=(Uk E keep f gas n ks outs x).isSome) (hg:∀ x,g x=(Uk E keep f gas n ks outs x).getD (bT outs)) (qp:E.P=P:=by rfl) (qg:E.gl=gl:=by rfl):lF P gl k (zC ks outs c g):=by
 subst qp qg
 obtain rfl:c=fun x=>(Uk E keep f gas n ks outs x).isSome:=funext hc
 obtain rfl:g=fun x=>(Uk E keep f gas n ks outs x).getD (bT outs):=funext hg
 exact WU hE hf

theorem K4 {P:Program} {gl:Nat→AV} {E:bf} {k:FuncId} {f:Func} {ps:List CP} {ks outs:List Sh} {ps':List CP} {keep:Nat→zX} {gas n:Nat} {c:zu ps→zw (ks.map some)→Bool} {g:zu ps→zw (ks.map some)→zw (outs.map some)×zu ps'} (hE:zm E) (hf:zA E.P k f (ks.length+1))
  (hc:∀ y x,c y x=(Uj E keep f gas n ps ks outs ps' y x).isSome) (hg:∀ y x,g y x=(Uj E keep f gas n ps ks outs ps' y x).getD (bT outs,fH ps')) (qp:E.P=P:=by rfl) (qg:E.gl=gl:=by rfl):lF P gl k (xM ps ks outs ps' c g):=by
 subst qp qg
 obtain rfl:c=fun y x=>(Uj E keep f gas n ps ks outs ps' y x).isSome:=funext fun y=>funext fun x=>hc y x
 obtain rfl:g=fun y x=>(Uj E keep f gas n ps ks outs ps' y x).getD (bT outs,fH ps'):=funext fun y=>funext fun x=>hg y x
 exact Qo hE hf

abbrev zV:=AV×List AO

def Tr.map {α β:Type} (f:α→β):Tr α→Tr β
 | .err=>.err
 | .chk c t=>.chk c (t.map f)
 | .br c t e=>.br c (t.map f) (e.map f)
 | .ok a=>.ok (f a)

theorem Tr.val_map {α β:Type} (f:α→β):∀ t:Tr α,(t.map f).val=t.val.map f
 | .err=>rfl
 | .chk c t=>by simp only [Tr.map,Tr.val,val_map f t]; split <;> rfl
 | .br c t e=>by simp only [Tr.map,Tr.val,val_map f t,val_map f e]; split <;> rfl
 | .ok _=>rfl

abbrev Tr.to {σ:Type} (s:σ):Tr (σ ⊕ zV):=.ok (.inl s)
abbrev Tr.re {σ:Type} (v:AV) (h:List AO):Tr (σ ⊕ zV):=.ok (.inr (v,h))

def bU {σ:Type} (t:σ→Tr (σ ⊕ zV)):Nat→σ→Option zV
 | 0,_=>none
 | n+1,s=>match (t s).val with
  | some (.inl s')=>bU t n s'
  | some (.inr r)=>some r
  | none=>none

def cd {σ:Type} (t:σ→Tr (σ ⊕ zV)) (n:Nat) (i:Tr (σ ⊕ zV)):Option zV:=match i.val with
 | some (.inl s)=>bU t n s
 | some (.inr r)=>some r
 | none=>none

def lf {σ:Type} (f:Func) (e:σ→Nat×St):σ ⊕ zV→zr
 | .inl s=>.head (e s).1 (zx f (e s).1) (e s).2
 | .inr r=>.ret r.1 r.2

def e0:Empty→Nat×St:=fun x=>nomatch x
def t0:Empty→Tr (Empty ⊕ zV):=fun x=>nomatch x

section
variable {σ:Type} {E:bf} {n0:Nat} {keep:Nat→zX} {f:Func} {gas:Nat} {e:σ→Nat×St} {t:σ→Tr (σ ⊕ zV)}

theorem H1 (hon:∀ s,run E n0 keep f.results.toList gas (zx f (e s).1) (e s).2=(t s).map (lf f e)):∀ (n:Nat) (s:σ),po E n0 keep f gas n (zx f (e s).1) (e s).2=bU t n s
 | 0,_=>rfl
 | n+1,s=>by
  rw [po,hon s,Tr.val_map,bU]
  cases (t s).val with
  | none=>rfl
  | some l=>
   cases l with
   | inl s'=>exact H1 hon n s'
   | inr r=>rfl

theorem ja (hon:∀ s,run E n0 keep f.results.toList gas (zx f (e s).1) (e s).2=(t s).map (lf f e)) {K:List Item} {st:St} {i:Tr (σ ⊕ zV)} (hgo:run E n0 keep f.results.toList gas K st=i.map (lf f e)) (n:Nat):po E n0 keep f gas (n+1) K st=cd t n i:=by
 rw [po,hgo,Tr.val_map,cd]
 cases i.val with
 | none=>rfl
 | some l=>
  cases l with
  | inl s=>exact H1 hon n s
  | inr r=>rfl
end

def zT {σ:Type} (outs:List Sh) (t:σ→Tr (σ ⊕ zV)) (n:Nat) (i:Tr (σ ⊕ zV)):Option (zw (outs.map some)):=(cd t n i).bind fun r=>ae r.2 outs r.1

theorem gX {P:Program} {gl:Nat→AV} {σ:Type} {E:bf} {k:FuncId} {f:Func} {ks outs:List Sh} {keep:Nat→zX} {gas n:Nat} {e:σ→Nat×St} {t:σ→Tr (σ ⊕ zV)} {i:zw (ks.map some)→Tr (σ ⊕ zV)} {c:zw (ks.map some)→Bool} {g:zw (ks.map some)→zw (outs.map some)}
  (hE:zm E) (hf:zA E.P k f ks.length) (hgo:∀ x,run E 0 keep f.results.toList gas (au f) (z7 f.ntmps (f6 (ks.map some) x) [])=(i x).map (lf f e))
  (hon:∀ s,run E 0 keep f.results.toList gas (zx f (e s).1) (e s).2=(t s).map (lf f e))
  (hc:∀ x,c x=(zT outs t n (i x)).isSome) (hg:∀ x,g x=(zT outs t n (i x)).getD (bT outs)) (qp:E.P=P:=by rfl) (qg:E.gl=gl:=by rfl):lF P gl k (zC ks outs c g):=by
 subst qp qg
 have h:∀ x,Uk E keep f gas (n+1) ks outs x=zT outs t n (i x):=by
  intro x
  unfold Uk zT
  rw [ja hon (hgo x)]
 exact Qp (n:=n+1) hE hf (fun x=>by rw [h,hc]) (fun x=>by rw [h,hg])

abbrev k0:Nat→zX:=fun _=>{ }
abbrev jJ:List (Nat×List Nat)→Nat→zX
 | [],_=>{ }
 | p::r,j=>if j=p.1 then { slots:=p.2 } else jJ r j
def o1 {a:Sh} (o:Option (zw [some a])):Sem a:=(o.getD (bT [a])).1
def o2 {a b:Sh} (o:Option (zw [some a,some b])):Sem a×Sem b:=((o.getD (bT [a,b])).1,(o.getD (bT [a,b])).2.1)
def o3 {a b c:Sh} (o:Option (zw [some a,some b,some c])):Sem a×Sem b×Sem c:=((o.getD (bT [a,b,c])).1,(o.getD (bT [a,b,c])).2.1,(o.getD (bT [a,b,c])).2.2.1)
def FT (ks outs:List Sh) (o:zw (ks.map some)→Option (zw (outs.map some))):zD:=zC ks outs (fun x=>(o x).isSome) fun x=>(o x).getD (bT outs)
theorem zm.T1 {P:Program} {gl:Nat→AV} {σ:Type} {E:bf} {k:FuncId} {f:Func} {ks outs:List Sh} {keep:Nat→zX} {n:Nat} {e:σ→Nat×St} {t:σ→Tr (σ ⊕ zV)} {i:zw (ks.map some)→Tr (σ ⊕ zV)} (hE:zm E) (gas:Nat:=400)
  (hf:(E.P.funcs[k]?,f.name == "runtime.NumGoroutine",f.body.isNone,decide (ks.length≤f.ntmps))=(some f,false,false,true):=by kernel_rfl)
  (hgo:∀ x,run E 0 keep f.results.toList gas (au f) (z7 f.ntmps (f6 (ks.map some) x) [])=(i x).map (lf f e):=by intro x; kernel_rfl)
  (hon:∀ s,run E 0 keep f.results.toList gas (zx f (e s).1) (e s).2=(t s).map (lf f e):=by intro s; cases s <;> kernel_rfl) (qp:E.P=P:=by rfl) (qg:E.gl=gl:=by rfl):lF P gl k (FT ks outs fun x=>zT outs t n (i x)):=by
 subst qp qg
 exact gX hE (aJ hf) hgo hon (fun _=>rfl) fun _=>rfl

theorem KO (E:bf) (n0:Nat) (keep:Nat→zX) (f:Func) (gas:Nat):∀ s,run E n0 keep f.results.toList gas (zx f (e0 s).1) (e0 s).2=(t0 s).map (lf f e0):=fun s=>nomatch s

def xZ {σ:Type} (outs:List Sh) (ps':List CP) (t:σ→Tr (σ ⊕ zV)) (n:Nat) (i:Tr (σ ⊕ zV)):Option (zw (outs.map some)×zu ps'):=(cd t n i).bind fun r=>Bb ps' outs r.1 r.2

theorem qi {P:Program} {gl:Nat→AV} {σ:Type} {E:bf} {k:FuncId} {f:Func} {ps:List CP} {ks outs:List Sh} {ps':List CP} {keep:Nat→zX} {gas n:Nat} {e:σ→Nat×St} {t:σ→Tr (σ ⊕ zV)} {i:zu ps→zw (ks.map some)→Tr (σ ⊕ zV)} {c:zu ps→zw (ks.map some)→Bool} {g:zu ps→zw (ks.map some)→zw (outs.map some)×zu ps'}
  (hE:zm E) (hf:zA E.P k f (ks.length+1)) (hgo:∀ y x,run E (ay ps+1) keep f.results.toList gas (au f) (z7 f.ntmps (.ptr 0 0::f6 (ks.map some) x) (bQ ps y))=(i y x).map (lf f e))
  (hon:∀ s,run E (ay ps+1) keep f.results.toList gas (zx f (e s).1) (e s).2=(t s).map (lf f e))
  (hc:∀ y x,c y x=(xZ outs ps' t n (i y x)).isSome) (hg:∀ y x,g y x=(xZ outs ps' t n (i y x)).getD (bT outs,fH ps')) (qp:E.P=P:=by rfl) (qg:E.gl=gl:=by rfl):lF P gl k (xM ps ks outs ps' c g):=by
 subst qp qg
 have h:∀ y x,Uj E keep f gas (n+1) ps ks outs ps' y x=xZ outs ps' t n (i y x):=by
  intro y x
  unfold Uj xZ
  rw [ja hon (hgo y x)]
 exact K4 (n:=n+1) hE hf (fun y x=>by rw [h,hc]) (fun y x=>by rw [h,hg])


section
variable {σ:Type} {t:σ→Tr (σ ⊕ zV)}

theorem pp {β:Type} (N:Nat) (st:β→Nat→σ) (I:β→Nat→Prop) (Φ:zV→Prop) (M:Nat)
  (hstep:∀ b i,i < N→I b i→(∃ b',I b' (i+1)∧(t (st b i)).val=some (.inl (st b' (i+1))))∨∃ r,(t (st b i)).val=some (.inr r)∧Φ r)
  (hend:∀ b n,I b N→M≤n→∃ r,bU t n (st b N)=some r∧Φ r):
  ∀ (m i:Nat) (b:β) (n:Nat),N - i=m→i≤N→I b i→M+m≤n→∃ r,bU t n (st b i)=some r∧Φ r
 | 0,i,b,n,hm,hi,hI,hn=>by
  obtain rfl:i=N:=by omega
  exact hend b n hI (by omega)
 | m+1,i,b,n,hm,hi,hI,hn=>by
  obtain ⟨n,rfl⟩:∃ k,n=k+1:=⟨n - 1,by omega⟩
  rcases hstep b i (by omega) hI with ⟨b',hI',h⟩ | ⟨r,h1,h2⟩
  ·obtain ⟨r,h1,h2⟩:=pp N st I Φ M hstep hend m (i+1) b' n (by omega) (by omega) hI' (by omega)
   exact ⟨r,by rw [bU,h]; exact h1,h2⟩
  ·exact ⟨r,by rw [bU,h1],h2⟩

theorem qU {n:Nat} {s:σ}:bU t (n+1) s=match (t s).val with
  | some (.inl s')=>bU t n s'
  | some (.inr r)=>some r
  | none=>none:=rfl
end


abbrev M9:Nat→zX:=fun _=>{ }
theorem YC:zA yK.P 89 Tryz.f89 1:=aJ (by kernel_rfl)
def dn (x0:Sem zy) (_:ze) (_:ze) (_:Sem aQ.sl×Sem (Sh.expr.pr Sh.str)) (_:Sem zf.sl×Sem (aQ.sl.pr (Sh.expr.pr Sh.str))) (_:Sem Sh.str×Sem (Sh.str.sl.pr (zi.sl.pr (Sh.str.pr (Sh.str.sl.pr (b7.sl.pr (Sh.expr.pr (zf.sl.pr (aQ.sl.pr (Sh.expr.pr Sh.str)))))))))) (a5:Bool) (_:Sem Sh.expr×Sem (zf.sl.pr (aQ.sl.pr (Sh.expr.pr Sh.str)))) (a7:Sem Sh.str×Sem (Sh.str.pr (Sh.str.pr (Sh.str.sl.pr (zi.sl.pr (Sh.str.pr (Sh.str.sl.pr (b7.sl.pr (Sh.expr.pr (zf.sl.pr (aQ.sl.pr (Sh.expr.pr Sh.str)))))))))))) (a8:Sem Sh.str×Sem (Sh.str.pr (Sh.str.pr (Sh.str.sl.pr (zi.sl.pr (Sh.str.pr (Sh.str.sl.pr (b7.sl.pr (Sh.expr.pr (zf.sl.pr (aQ.sl.pr (Sh.expr.pr Sh.str)))))))))))) (_:Int) (_:Int) (a11:Bool) (a12:Sem Sh.str×Sem (Sh.str.pr (Sh.str.pr (Sh.str.sl.pr (zi.sl.pr (Sh.str.pr (Sh.str.sl.pr (b7.sl.pr (Sh.expr.pr (zf.sl.pr (aQ.sl.pr (Sh.expr.pr Sh.str)))))))))))) (_:Int) (_:Int) (_:Sem Sh.bool) (a16:Bool) (_:Sem Sh.expr×Sem Sh.str) (a18:Sem Sh.str×Sem (Sh.str.pr (Sh.str.pr (Sh.str.sl.pr (zi.sl.pr (Sh.str.pr (Sh.str.sl.pr (b7.sl.pr (Sh.expr.pr (zf.sl.pr (aQ.sl.pr (Sh.expr.pr Sh.str)))))))))))) (a19:Bool) (a20:Sem Sh.str×Sem (Sh.str.pr (Sh.str.pr (Sh.str.sl.pr (zi.sl.pr (Sh.str.pr (Sh.str.sl.pr (b7.sl.pr (Sh.expr.pr (zf.sl.pr (aQ.sl.pr (Sh.expr.pr Sh.str)))))))))))) (_:Sem Sh.bool) (a22:Bool) (_:Sem zf.sl×Sem (aQ.sl.pr (Sh.expr.pr Sh.str))) (a24:Sem Sh.str×Sem (Sh.str.pr (Sh.str.pr (Sh.str.sl.pr (zi.sl.pr (Sh.str.pr (Sh.str.sl.pr (b7.sl.pr (Sh.expr.pr (zf.sl.pr (aQ.sl.pr (Sh.expr.pr Sh.str)))))))))))) (_:Sem Sh.bool) (_:Int) (_:Int) (_:Sem Sh.bool) (_:Bool) (a30:Bool) (_:Sem Sh.str×Sem (Sh.str.pr (Sh.str.pr (Sh.str.sl.pr (zi.sl.pr (Sh.str.pr (Sh.str.sl.pr (b7.sl.pr (Sh.expr.pr (zf.sl.pr (aQ.sl.pr (Sh.expr.pr Sh.str)))))))))))) (a32:Bool) (a33:Sem Sh.bool) (a34:Bool) (a35:Sem Sh.str×Sem (Sh.str.pr (Sh.str.pr (Sh.str.sl.pr (zi.sl.pr (Sh.str.pr (Sh.str.sl.pr (b7.sl.pr (Sh.expr.pr (zf.sl.pr (aQ.sl.pr (Sh.expr.pr Sh.str)))))))))))) (a36:Bool):Tr (Empty ⊕ zV):=
 Tr.br (x0.1==[99,114,101,97,116,101]) (Tr.chk (bif a5 then dc a7 else true) (Tr.re (AV.bool (bif a5 then fk a7 else false)) [])) (Tr.br (x0.1==[100,114,111,112]) (Tr.chk (bif aT x0.2.1 then dc a8 else true) (Tr.re (AV.bool (bif aT x0.2.1 then fk a8 else false)) [])) (Tr.br (x0.1==[105,110,115,101,114,116]) (Tr.chk (bif a11 then dc a12 else true) (Tr.re (AV.bool (bif a11 then fk a12 else false)) [])) (Tr.br (x0.1==[117,112,100,97,116,101]) (Tr.chk (bif a16 then dc a18 else true) (Tr.re (AV.bool (bif a16 then fk a18 else false)) [])) (Tr.br (x0.1==[100,101,108,101,116,101]) (Tr.chk (bif a19 then dc a20 else true) (Tr.re (AV.bool (bif a19 then fk a20 else false)) [])) (Tr.br (x0.1==[115,101,108,101,99,116]) (Tr.chk (bif a19 then dc a20 else true) (Tr.re (AV.bool (bif a19 then fk a20 else false)) [])) (Tr.br (x0.1==[114,101,97,100]) (Tr.chk (bif a22 then dc a24 else true) (Tr.re (AV.bool (bif a22 then fk a24 else false)) [])) (Tr.br (x0.1==[119,114,105,116,101]) (Tr.chk (bif a22 then dc a24 else true) (Tr.re (AV.bool (bif a22 then fk a24 else false)) [])) (Tr.br (x0.1==[117,110,114,101,97,100]) (Tr.chk (bif a22 then dc a24 else true) (Tr.re (AV.bool (bif a22 then fk a24 else false)) [])) (Tr.br (x0.1==[117,110,119,114,105,116,101])
 (Tr.chk (bif a22 then dc a24 else true) (Tr.re (AV.bool (bif a22 then fk a24 else false)) [])) (Tr.br (x0.1==[99,111,112,121]) (Tr.chk (bif a30 then a32 else true) (Tr.re (AV.bool (bif a30 then a33 else false)) [])) (Tr.br (x0.1==[106,111,105,110]) (Tr.chk (bif a34 then dc a35 else true) (Tr.re (AV.bool (bif a34 then fk a35 else false)) [])) (Tr.br (x0.1==[103,114,111,117,112]) (Tr.chk (bif a36 then a32 else true) (Tr.re (AV.bool (bif a36 then a33 else false)) [])) (Tr.re (AV.kb false) [])))))))))))))
def dX (x0:Sem zy):Tr (Empty ⊕ zV):=
 let a0:=zB x0.2.2.2.2.2.2.2.2.1
 let a1:=zB x0.2.2.2.2.2.2.2.2.2.2.2.1
 let a2:=(x0.2.2.2.2.2.2.2.2.2.2.1,a1,x0.2.2.2.2.2.2.2.2.2.2.2.2)
 let a3:=(x0.2.2.2.2.2.2.2.2.2.1,a2)
 let a4:=(x0.2.2.1,x0.2.2.2.1,x0.2.2.2.2.1,x0.2.2.2.2.2.1,x0.2.2.2.2.2.2.1,x0.2.2.2.2.2.2.2.1,a0,a3)
 let a5:=bif aT x0.2.1 then ir (x0.1,x0.2.1,a4) else false
 let a6:=(ze.mk [] (0,0,[]) [] [],a3)
 let a7:=(x0.1,[],x0.2.2.1,x0.2.2.2.1,[],[],[],[],a6)
 let a8:=(x0.1,[],a4)
 let a9:=(↑(length x0.2.2.2.2.2.2.2.2.2.1):Int)
 let a10:=zS (fun x => !fC x) x0.2.2.2.2.2.2.2.2.2.1 0
 let a11:=bif aT x0.2.1 then bif bif decide (a9 < 1) then true else decide (a9 > 12) then false else !decide (a10 ≥ 0) else false
 let a12:=(x0.1,[],x0.2.2.1,x0.2.2.2.1,x0.2.2.2.2.1,x0.2.2.2.2.2.1,x0.2.2.2.2.2.2.1,x0.2.2.2.2.2.2.2.1,a0,[],a2)
 let a13:=(↑(length x0.2.2.2.2.2.2.2.2.2.2.1):Int)
 let a14:=zS (fun x => !nQ x) x0.2.2.2.2.2.2.2.2.2.2.1 0
 let a15:=dl a1
 let a16:=bif aT x0.2.1 then bif bif decide (a13 < 1) then true else decide (a13 > 8) then false else bif !decide (a14 ≥ 0) then a15 else false else false
 let a17:=(ze.mk [] (0,0,[]) [] [],x0.2.2.2.2.2.2.2.2.2.2.2.2)
 let a18:=(x0.1,[],x0.2.2.1,x0.2.2.2.1,x0.2.2.2.2.1,x0.2.2.2.2.2.1,x0.2.2.2.2.2.2.1,x0.2.2.2.2.2.2.2.1,a0,x0.2.2.2.2.2.2.2.2.2.1,[],a17)
 let a19:=bif aT x0.2.1 then a15 else false
 let a20:=(x0.1,[],x0.2.2.1,x0.2.2.2.1,x0.2.2.2.2.1,x0.2.2.2.2.2.1,x0.2.2.2.2.2.2.1,x0.2.2.2.2.2.2.2.1,a0,x0.2.2.2.2.2.2.2.2.2.1,x0.2.2.2.2.2.2.2.2.2.2.1,a17)
 let a21:=aT x0.2.2.2.2.2.2.2.2.2.2.2.2
 let a22:=bif aT x0.2.1 then a21 else false
 let a23:=(x0.2.2.2.2.2.2.2.2.2.1,x0.2.2.2.2.2.2.2.2.2.2.1,a1,[])
 let a24:=(x0.1,[],x0.2.2.1,x0.2.2.2.1,x0.2.2.2.2.1,x0.2.2.2.2.2.1,x0.2.2.2.2.2.2.1,x0.2.2.2.2.2.2.2.1,a0,a23)
 let a25:=aT x0.2.2.1
 let a26:=(↑(length x0.2.2.2.1):Int)
 let a27:=zS (fun x => !aT x) x0.2.2.2.1 0
 let a28:=dl a0
 let a29:=bif !decide (a27 ≥ 0) then a28 else false
 let a30:=bif aT x0.2.1 then bif a25 then bif bif decide (a26 < 1) then true else decide (a26 > 8) then false else a29 else false else false
 let a31:=(x0.1,[],[],[],x0.2.2.2.2.1,x0.2.2.2.2.2.1,x0.2.2.2.2.2.2.1,x0.2.2.2.2.2.2.2.1,a6)
 let a32:=dc a31
 let a33:=fk a31
 let a34:=bif aT x0.2.1 then bif a25 then bif aT x0.2.2.2.2.2.1 then bif a21 then a28 else false else false else false else false
 let a35:=(x0.1,[],[],x0.2.2.2.1,x0.2.2.2.2.1,[],x0.2.2.2.2.2.2.1,x0.2.2.2.2.2.2.2.1,ze.mk [] (0,0,[]) [] [],a23)
 let a36:=bif aT x0.2.1 then bif a25 then bif bif decide (a26 < 2) then true else decide (a26 > 2) then false else a29 else false else false
 dn x0 a0 a1 a2 a3 a4 a5 a6 a7 a8 a9 a10 a11 a12 a13 a14 a15 a16 a17 a18 a19 a20 a21 a22 a23 a24 a25 a26 a27 a28 a29 a30 a31 a32 a33 a34 a35 a36
theorem Xy (x0:Sem zy):rn yK 0 M9 Tryz.f89 [zz zy x0] []=(dX x0).map (lf Tryz.f89 e0):=by kernel_rfl
def tA (x0:Sem zy):Option (zw (List.map some [Sh.bool])):=zT [Sh.bool] t0 100000000 (dX x0)
def jC (x0:Sem zy):Bool:=(tA x0).isSome
def eC (x0:Sem zy):Sem Sh.bool:=(fun r:zw (List.map some [Sh.bool])=>r.1) ((tA x0).getD (bT [Sh.bool]))
def Su:zD:=zC [zy] [Sh.bool] (fun x=>jC x.1) fun x=>(eC x.1,())
theorem PA:FK 89 Su:=gX (ks:=[zy]) (outs:=[Sh.bool]) (keep:=M9) (gas:=400) (n:=100000000) (e:=e0) (t:=t0) (i:=fun x=>dX x.1) qH YC (fun x=>Xy x.1) (KO _ _ _ _ _) (fun _=>by kernel_rfl) (fun _=>by kernel_rfl)

abbrev Na:Nat→zX:=fun _=>{ }
theorem YD:zA yK.P 90 Tryz.f90 1:=aJ (by kernel_rfl)
def qR (x0:Sem zy) (a0:Bool) (a1:zn) (a2:zn) (a3:zn) (a4:zn) (_:ze) (_:ze) (a7:Sem Sh.str×Sem (Sh.str.pr (Sh.str.pr (Sh.str.sl.pr (zi.sl.pr (Sh.str.pr (Sh.str.sl.pr (b7.sl.pr (Sh.expr.pr (zf.sl.pr (aQ.sl.pr (Sh.expr.pr Sh.str)))))))))))) (a8:zn) (a9:zn) (a10:TS) (a11:zn) (a12:zn) (a13:zn) (a14:TS) (a15:Bool) (a16:zn) (a17:TS) (a18:zn) (a19:zn) (a20:zn) (a21:zn) (a22:zn) (a23:zn) (a24:List UInt8) (a25:List UInt8) (a26:zn) (a27:zn) (a28:zn) (a29:zn) (a30:zn) (a31:zn) (a32:TS) (a33:zn) (a34:Bool) (a35:zn) (a36:TS) (a37:zn) (a38:zn) (a39:zn) (a40:zn) (a41:zn) (a42:TS) (a43:zn) (a44:zn) (a45:TS) (a46:zn):Tr (Empty ⊕ zV):=Tr.chk a0 (Tr.chk (decide ([77,73,71,82,65,84,69,32].length+(Lib.toUpperA x0.1).length≤1099511627776)) (Tr.chk (decide (length a1+[32].length≤1099511627776)) (Tr.chk (decide (length a2+length x0.2.1≤1099511627776)) (Tr.chk (decide (length a3+[32,70,82,79,77,32].length≤1099511627776)) (Tr.chk (decide (length a4+length x0.2.2.1≤1099511627776)) (Tr.br (x0.1==[99,114,101,97,116,101]) (Tr.chk (lT a7) (Tr.re (AV.str (mI a7)) []))
 (Tr.br (x0.1==[100,114,111,112]) (Tr.chk (decide ([68,82,79,80,32,84,65,66,76,69,32].length+length x0.2.1≤1099511627776)) (Tr.re (AV.str ([68,82,79,80,32,84,65,66,76,69,32]++x0.2.1)) [])) (Tr.br (x0.1==[105,110,115,101,114,116]) (Tr.chk (decide ([73,78,83,69,82,84,32,73,78,84,79,32].length+length x0.2.1≤1099511627776)) (Tr.chk (decide (length a8+[32,86,65,76,85,69,83,32,40,32].length≤1099511627776)) (Tr.chk (ky x0.2.2.2.2.2.2.2.2.2.1) (Tr.chk (decide (length a9+length a10≤1099511627776)) (Tr.chk (decide (length a11+[32,41].length≤1099511627776)) (Tr.re (AV.str (a11++[32,41])) [])))))) (Tr.br (x0.1==[117,112,100,97,116,101]) (Tr.chk (decide ([85,80,68,65,84,69,32].length+length x0.2.1≤1099511627776)) (Tr.chk (decide (length a12+[32,83,69,84,32].length≤1099511627776)) (Tr.chk (iR x0.2.2.2.2.2.2.2.2.2.2.1) (Tr.chk (decide (length a13+length a14≤1099511627776)) (Tr.chk a15 (Tr.chk (decide (length a16+length a17≤1099511627776)) (Tr.re (AV.str (a16++a17)) []))))))) (Tr.br (x0.1==[100,101,108,101,116,101]) (Tr.chk (decide ([68,69,76,69,84,69,32,70,82,79,77,32].length+length x0.2.1≤1099511627776)) (Tr.chk a15 (Tr.chk (decide (length a18+length a17≤1099511627776)) (Tr.re (AV.str (a18++a17)) []))))
 (Tr.br (x0.1==[115,101,108,101,99,116]) (Tr.chk (decide ([83,69,76,69,67,84,32,42,32,70,82,79,77,32].length+length x0.2.1≤1099511627776)) (Tr.chk a15 (Tr.chk (decide (length a19+length a17≤1099511627776)) (Tr.re (AV.str (a19++a17)) [])))) (Tr.br (x0.1==[114,101,97,100]) (Tr.chk a0 (Tr.chk (decide ([71,82,65,78,84,32].length+(Lib.toUpperA x0.1).length≤1099511627776)) (Tr.chk (decide (length a20+[32,79,78,32].length≤1099511627776)) (Tr.chk (decide (length a21+length x0.2.1≤1099511627776)) (Tr.chk (decide (length a22+[32,84,79,32].length≤1099511627776)) (Tr.chk (decide (length a23+length x0.2.2.2.2.2.2.2.2.2.2.2.2≤1099511627776)) (Tr.re (AV.str (a23++x0.2.2.2.2.2.2.2.2.2.2.2.2)) []))))))) (Tr.br (x0.1==[119,114,105,116,101]) (Tr.chk a0 (Tr.chk (decide ([71,82,65,78,84,32].length+(Lib.toUpperA x0.1).length≤1099511627776)) (Tr.chk (decide (length a20+[32,79,78,32].length≤1099511627776)) (Tr.chk (decide (length a21+length x0.2.1≤1099511627776)) (Tr.chk (decide (length a22+[32,84,79,32].length≤1099511627776)) (Tr.chk (decide (length a23+length x0.2.2.2.2.2.2.2.2.2.2.2.2≤1099511627776)) (Tr.re (AV.str (a23++x0.2.2.2.2.2.2.2.2.2.2.2.2)) []))))))) (Tr.br (x0.1==[117,110,114,101,97,100]) (Tr.chk
 (decide (0≤2)&&decide (2≤(↑(length x0.1):Int))&&decide ((↑(length x0.1):Int)≤(↑(length x0.1):Int))) (Tr.chk (decide (a24.length≤140737488355328)&&a24.all fun b=>decide (b.toNat < 128)) (Tr.chk (decide ([82,69,86,79,75,69,32].length+a25.length≤1099511627776)) (Tr.chk (decide (length a26+[32,79,78,32].length≤1099511627776)) (Tr.chk (decide (length a27+length x0.2.1≤1099511627776)) (Tr.chk (decide (length a28+[32,70,82,79,77,32].length≤1099511627776)) (Tr.chk (decide (length a29+length x0.2.2.2.2.2.2.2.2.2.2.2.2≤1099511627776)) (Tr.re (AV.str (a29++x0.2.2.2.2.2.2.2.2.2.2.2.2)) [])))))))) (Tr.br (x0.1==[117,110,119,114,105,116,101]) (Tr.chk (decide (0≤2)&&decide (2≤(↑(length x0.1):Int))&&decide ((↑(length x0.1):Int)≤(↑(length x0.1):Int))) (Tr.chk (decide (a24.length≤140737488355328)&&a24.all fun b=>decide (b.toNat < 128)) (Tr.chk (decide ([82,69,86,79,75,69,32].length+a25.length≤1099511627776)) (Tr.chk (decide (length a26+[32,79,78,32].length≤1099511627776)) (Tr.chk (decide (length a27+length x0.2.1≤1099511627776)) (Tr.chk (decide (length a28+[32,70,82,79,77,32].length≤1099511627776)) (Tr.chk (decide (length a29+length x0.2.2.2.2.2.2.2.2.2.2.2.2≤1099511627776)) (Tr.re (AV.str (a29++x0.2.2.2.2.2.2.2.2.2.2.2.2)) [])))))))) (Tr.br (x0.1==[99,111,112,121])
 (Tr.chk (decide (length a30+[32,40,32].length≤1099511627776)) (Tr.chk (kv x0.2.2.2.1) (Tr.chk (decide (length a31+length a32≤1099511627776)) (Tr.chk (decide (length a33+[32,41].length≤1099511627776)) (Tr.chk a34 (Tr.chk (decide (length a35+length a36≤1099511627776)) (Tr.re (AV.str (a35++a36)) []))))))) (Tr.br (x0.1==[106,111,105,110]) (Tr.chk (decide (length a30+[32,44,32].length≤1099511627776)) (Tr.chk (decide (length a37+length x0.2.2.2.2.2.2.2.2.2.2.2.2≤1099511627776)) (Tr.chk (decide (length a38+[32,79,78,32].length≤1099511627776)) (Tr.chk (decide (length a39+length x0.2.2.2.2.2.1≤1099511627776)) (Tr.chk a34 (Tr.chk (decide (length a40+length a36≤1099511627776)) (Tr.re (AV.str (a40++a36)) []))))))) (Tr.chk (decide (length a30+[32,66,89,32].length≤1099511627776)) (Tr.chk (zE 0 (length x0.2.2.2.1)) (Tr.chk (decide (length a41+length a42≤1099511627776)) (Tr.chk (decide (length a43+[32,83,85,77,32].length≤1099511627776)) (Tr.chk (zE 1 (length x0.2.2.2.1)) (Tr.chk (decide (length a44+length a45≤1099511627776)) (Tr.chk a34 (Tr.chk (decide (length a46+length a36≤1099511627776)) (Tr.re (AV.str (a46++a36)) []))))))))))))))))))))))))))
def ly (x0:Sem zy):Tr (Empty ⊕ zV):=
 let a0:=decide (length x0.1≤140737488355328)&&List.all x0.1 fun b=>decide (b.toNat < 128)
 let a1:=[77,73,71,82,65,84,69,32]++Lib.toUpperA x0.1
 let a2:=a1++[32]
 let a3:=a2++x0.2.1
 let a4:=a3++[32,70,82,79,77,32]
 let a5:=zB x0.2.2.2.2.2.2.2.2.1
 let a6:=zB x0.2.2.2.2.2.2.2.2.2.2.2.1
 let a7:=(x0.1,x0.2.1,x0.2.2.1,x0.2.2.2.1,x0.2.2.2.2.1,x0.2.2.2.2.2.1,x0.2.2.2.2.2.2.1,x0.2.2.2.2.2.2.2.1,a5,x0.2.2.2.2.2.2.2.2.2.1,x0.2.2.2.2.2.2.2.2.2.2.1,a6,x0.2.2.2.2.2.2.2.2.2.2.2.2)
 let a8:=[73,78,83,69,82,84,32,73,78,84,79,32]++x0.2.1
 let a9:=a8++[32,86,65,76,85,69,83,32,40,32]
 let a10:=kx x0.2.2.2.2.2.2.2.2.2.1
 let a11:=a9++a10
 let a12:=[85,80,68,65,84,69,32]++x0.2.1
 let a13:=a12++[32,83,69,84,32]
 let a14:=jh x0.2.2.2.2.2.2.2.2.2.2.1
 let a15:=xD a6
 let a16:=a13++a14
 let a17:=fe a6
 let a18:=[68,69,76,69,84,69,32,70,82,79,77,32]++x0.2.1
 let a19:=[83,69,76,69,67,84,32,42,32,70,82,79,77,32]++x0.2.1
 let a20:=[71,82,65,78,84,32]++Lib.toUpperA x0.1
 let a21:=a20++[32,79,78,32]
 let a22:=a21++x0.2.1
 let a23:=a22++[32,84,79,32]
 let a24:=List.take ((↑(length x0.1):Int).toNat - toNat 2) (List.drop (toNat 2) x0.1)
 let a25:=Lib.toUpperA a24
 let a26:=[82,69,86,79,75,69,32]++a25
 let a27:=a26++[32,79,78,32]
 let a28:=a27++x0.2.1
 let a29:=a28++[32,70,82,79,77,32]
 let a30:=a4++x0.2.2.1
 let a31:=a30++[32,40,32]
 let a32:=kr x0.2.2.2.1
 let a33:=a31++a32
 let a34:=kJ [32] a5
 let a35:=a33++[32,41]
 let a36:=hP [32] a5
 let a37:=a30++[32,44,32]
 let a38:=a37++x0.2.2.2.2.2.2.2.2.2.2.2.2
 let a39:=a38++[32,79,78,32]
 let a40:=a39++x0.2.2.2.2.2.1
 let a41:=a30++[32,66,89,32]
 let a42:=getD x0.2.2.2.1 (toNat 0) (zj Sh.str)
 let a43:=a41++a42
 let a44:=a43++[32,83,85,77,32]
 let a45:=getD x0.2.2.2.1 (toNat 1) (zj Sh.str)
 let a46:=a44++a45
 qR x0 a0 a1 a2 a3 a4 a5 a6 a7 a8 a9 a10 a11 a12 a13 a14 a15 a16 a17 a18 a19 a20 a21 a22 a23 a24 a25 a26 a27 a28 a29 a30 a31 a32 a33 a34 a35 a36 a37 a38 a39 a40 a41 a42 a43 a44 a45 a46
theorem Xz (x0:Sem zy):rn yK 0 Na Tryz.f90 [zz zy x0] []=(ly x0).map (lf Tryz.f90 e0):=by kernel_rfl
def CA (x0:Sem zy):Option (zw (List.map some [Sh.str])):=zT [Sh.str] t0 100000000 (ly x0)
def rz (x0:Sem zy):Bool:=(CA x0).isSome
def fw (x0:Sem zy):Sem Sh.str:=(fun r:zw (List.map some [Sh.str])=>r.1) ((CA x0).getD (bT [Sh.str]))
def Sv:zD:=zC [zy] [Sh.str] (fun x=>rz x.1) fun x=>(fw x.1,())
theorem PB:FK 90 Sv:=gX (ks:=[zy]) (outs:=[Sh.str]) (keep:=Na) (gas:=400) (n:=100000000) (e:=e0) (t:=t0) (i:=fun x=>ly x.1) qH YD (fun x=>Xz x.1) (KO _ _ _ _ _) (fun _=>by kernel_rfl) (fun _=>by kernel_rfl)

noncomputable def HE:=yK.addL [(89,Su),(90,Sv)]
theorem yL:zm HE:=qH.addL <| fc PA <| fc PB gW

abbrev zi6:Nat→zX:=fun _=>{ }
theorem zfF:zA (HE).P 52 Tryz.f52 1:=aJ (by kernel_rfl)
theorem zh6 (x0:Sem zy):rn HE 0 zi6 Tryz.f52 [zz zy x0] []=Tr.chk (jC (xQ x0)) (Tr.br (!eC (xQ x0)) (Tr.ok (zr.ret (AV.tup [AV.str [],ai 1]) [])) (Tr.chk (rz (xQ x0)) (Tr.chk (Ll (fw (xQ x0))) (Tr.br ((cut (fw (xQ x0))).2 != 0) (Tr.ok (zr.ret (AV.tup [AV.str [],ai 1]) [])) (Tr.ok (zr.ret (AV.tup [AV.str (fw (xQ x0)),ai 0]) [])))))):=by kernel_rfl
def oI (x0:Sem zy):Sem Sh.str×Sem zg:=(if (!eC x0)=true then ([],1) else if ((cut (fw x0)).2 != 0)=true then ([],1) else (fw x0,0))
def pZ (x0:Sem zy):Bool:=(if jC x0=true then if (!eC x0)=true then true else if rz x0=true then if Ll (fw x0)=true then true else false else false else false)
def F52:zD:=zC [zy] [Sh.str,zg] (fun x=>pZ x.1) fun x=>((oI x.1).1,(oI x.1).2,())
theorem zbS:FK 52 F52:=by
 refine zN (zfF) fun x hc C hC=>?_
 unfold pZ at hc
 refine zk yL (zfF) (fun id _=>hC id) (zh6 x.1) ?_
 generalize hy:oI x.1=y
 unfold oI at hy
 try simp only [HN]
 repeat' (first | with_reducible refine eU hy hc (fun _ hy hc=>?_) (fun _ hy hc=>?_) | with_reducible refine aP hy (fun _ hy=>?_) (fun _ hy=>?_) | with_reducible refine bh hc (fun hc=>?_) | with_reducible refine zq ?_)
 all_goals first | (cases hc; done) | (subst hy; first | rfl)

noncomputable def HF:=HE.add 52 F52
theorem yM:zm HF:=yL.add zbS

abbrev zi4:Nat→zX:=fun _=>{ }
theorem zfo:zA (HF).P 23 Tryz.f23 1:=aJ (by kernel_rfl)
theorem zhO (x0:Sem zy):rn HF 0 zi4 Tryz.f23 [zz zy x0] []=Tr.chk (pZ (xQ x0)) (Tr.ok (zr.ret (AV.bool ((oI (xQ x0)).2==0)) [])):=by kernel_rfl
def fx (x0:Sem zy):Sem Sh.bool:=((oI x0).2==0)
def oH (x0:Sem zy):Bool:=(if pZ x0=true then true else false)
def F31:zD:=zC [zy] [Sh.bool] (fun x=>oH x.1) fun x=>(fx x.1,())
theorem zby:FK 23 F31:=by
 refine zN (zfo) fun x hc C hC=>?_
 unfold oH at hc
 refine zk yM (zfo) (fun id _=>hC id) (zhO x.1) ?_
 generalize hy:fx x.1=y
 unfold fx at hy
 try simp only [HN]
 repeat' (first | with_reducible refine eU hy hc (fun _ hy hc=>?_) (fun _ hy hc=>?_) | with_reducible refine aP hy (fun _ hy=>?_) (fun _ hy=>?_) | with_reducible refine bh hc (fun hc=>?_) | with_reducible refine zq ?_)
 all_goals first | (cases hc; done) | (subst hy; first | rfl)

noncomputable def lw:=HF.add 23 F31
theorem gn:zm lw:=yM.add zby

noncomputable def zbh:zD:=zR (List.replicate 2 none) (bS lw Tryz.f37 (List.replicate 2 none))
theorem WN:FK 37 zbh:=aj _ gn (aJ (by kernel_rfl))

abbrev zeF:Nat→zX:=fun _=>{ }
theorem UD:zA (lw).P 24 Tryz.f24 1:=aJ (by kernel_rfl)
theorem zdB (x0:TS):rn lw 0 zeF Tryz.f24 [zz Sh.str x0] []=Tr.br (decide ((↑(length x0):Int) > 20)) (Tr.chk (decide (0≤0)&&decide (0≤20)&&decide (20≤(↑(length x0):Int))) (Tr.ok (zr.ret (AV.str (List.take (toNat 20 - toNat 0) (List.drop (toNat 0) x0))) []))) (Tr.ok (zr.ret (AV.str x0) [])):=by kernel_rfl
def cN (x0:TS):Sem Sh.str:=(if decide ((↑(length x0):Int) > 20)=true then List.take (toNat 20 - toNat 0) (List.drop (toNat 0) x0) else x0)
def dY (x0:TS):Bool:=(if decide ((↑(length x0):Int) > 20)=true then if (decide (0≤0)&&decide (0≤20)&&decide (20≤(↑(length x0):Int)))=true then true else false else true)
def zap:zD:=zC [Sh.str] [Sh.str] (fun x=>dY x.1) fun x=>(cN x.1,())
theorem VN:FK 24 zap:=by
 refine zN (UD) fun x hc C hC=>?_
 unfold dY at hc
 refine zk gn (UD) (fun id _=>hC id) (zdB x.1) ?_
 generalize hy:cN x.1=y
 unfold cN at hy
 try simp only [ze.eta]
 repeat' (first | with_reducible refine eU hy hc (fun _ hy hc=>?_) (fun _ hy hc=>?_) | with_reducible refine aP hy (fun _ hy=>?_) (fun _ hy=>?_) | with_reducible refine bh hc (fun hc=>?_) | with_reducible refine zq ?_)
 all_goals first | (cases hc; done) | (subst hy; first | rfl)

abbrev Yk:Nat→zX:=fun _=>{ }
theorem NK:zA (lw).P 102 Tryz.f102 3:=aJ (by kernel_rfl)
theorem XG (x0:Sem zf.sl) (x1:Sem zg) (x2:Sem zf):rn lw 0 Yk Tryz.f102 [zz zf.sl x0,zz zg x1,zz zf x2] []=Tr.chk (bif decide (x1 ≥ 0) then bif decide (x1 < (↑(length x0):Int)) then zE x1 (length x0) else true else true) (Tr.ok (zr.ret (AV.bool (bif decide (x1 ≥ 0) then bif decide (x1 < (↑(length x0):Int)) then (getD x0 (toNat x1) (zj zf)).1==x2.1&&((getD x0 (toNat x1) (zj zf)).2.1==x2.2.1&&((getD x0 (toNat x1) (zj zf)).2.2==x2.2.2&&true)) else false else false)) [])):=by kernel_rfl
def kX (x0:Sem zf.sl) (x1:Sem zg) (x2:Sem zf):Sem Sh.bool:=(bif decide (x1 ≥ 0) then bif decide (x1 < (↑(length x0):Int)) then (getD x0 (toNat x1) (zj zf)).1==x2.1&&((getD x0 (toNat x1) (zj zf)).2.1==x2.2.1&&((getD x0 (toNat x1) (zj zf)).2.2==x2.2.2&&true)) else false else false)
def tp (x0:Sem zf.sl) (x1:Sem zg) (_:Sem zf):Bool:=(if (bif decide (x1 ≥ 0) then bif decide (x1 < (↑(length x0):Int)) then zE x1 (length x0) else true else true)=true then true else false)
def S0:zD:=zC [zf.sl,zg,zf] [Sh.bool] (fun x=>tp x.1 x.2.1 x.2.2.1) fun x=>(kX x.1 x.2.1 x.2.2.1,())
theorem Hj:FK 102 S0:=by
 refine zN (NK) fun x hc C hC=>?_
 unfold tp at hc
 refine zk gn (NK) (fun id _=>hC id) (XG x.1 x.2.1 x.2.2.1) ?_
 generalize hy:kX x.1 x.2.1 x.2.2.1=y
 unfold kX at hy
 try simp only [ze.eta]
 repeat' (first | with_reducible refine eU hy hc (fun _ hy hc=>?_) (fun _ hy hc=>?_) | with_reducible refine aP hy (fun _ hy=>?_) (fun _ hy=>?_) | with_reducible refine bh hc (fun hc=>?_) | with_reducible refine zq ?_)
 all_goals first | (cases hc; done) | (subst hy; first | rfl)

abbrev Un:Nat→zX:=fun j=>if j=2 then { slots:=[0,1,5] } else { }
abbrev w8 (l0:List (Sem zh)) (s1:TS) (i5:Int):St:={ tmps:=(tm 21 [(0,AV.sl zh l0),(1,AV.str s1),(5,ai i5)]),heap:=[] }
theorem Ie:zA (lw).P 69 Tryz.f69 2:=aJ (by kernel_rfl)
theorem zdz (x0:Sem zh.sl) (x1:TS):rn lw 0 Un Tryz.f69 [zz zh.sl x0,zz Sh.str x1] []=Tr.ok (zr.head 2 (zx Tryz.f69 2) (w8 x0 x1 0)):=by kernel_rfl
theorem Ip (l0:List (Sem zh)) (s1:TS) (i5:Int):rh lw 0 Un Tryz.f69 2 (w8 l0 s1 i5)=Tr.br (decide (i5 < (↑l0.length:Int))) (Tr.chk (zE i5 l0.length) (Tr.br ((l0.getD i5.toNat (zj zh)).1.1==s1) (Tr.ok (zr.ret (ai i5) [])) (Tr.ok (zr.head 2 (zx Tryz.f69 2) (w8 l0 s1 (IntKind.i64.wrap (i5+1))))))) (Tr.ok (zr.ret (ai (-1)) [])):=by kernel_rfl
def dK (s1:TS):List
 (Sem zh)→Int→Sem zg
 | [],_=>(-1)
 | x::r,i5=>(if (x.1.1==s1)=true then i5 else dK s1 r (i5+1))
theorem Qy {C:cq} (hC:∀ id,C.ρ0 id=none) (s1:TS) (l0:List
 (Sem zh)) (hl:l0.length≤zF):∀ (m i:Nat),l0.length - i=m→i≤l0.length→
  Reach (lw) C 69 (zx Tryz.f69 2) (w8 l0 s1 (i:Int)) (fun r h=>ae h [zg] r=some (dK s1 (l0.drop i) i,())):=by
 intro m
 induction m with
 | zero=>
  intro i hm hi
  obtain rfl:i=l0.length:=by omega
  rw [dg]
  refine zk gn (Ie) (fun id _=>hC id) (Ip _ _ _) ?_
  generalize hy:dK s1 [] _=y
  rw [dK] at hy
  simp only [z8,Tr.val_brF]
  repeat' (first | with_reducible refine aP hy (fun _ hy=>?_) (fun _ hy=>?_) | with_reducible refine zq ?_)
  all_goals first | (cases hc; done) | (subst hy; first | rfl)
 | succ m IH=>
  intro i hm hi
  have hlt:i < l0.length:=by omega
  have IH:=IH (i+1)
  have hcast:((i:Int)+1)=((i+1:Nat):Int):=by omega
  have hwr:=zH i (by omega)
  rw [dA hlt]
  refine zk gn (Ie) (fun id _=>hC id) (Ip _ _ _) ?_
  generalize hy:dK s1 (l0[i]::l0.drop (i+1)) (i:Int)=y
  rw [dK] at hy
  simp only [zW hlt,zG hlt,zY l0 _ hlt,hwr,Tr.val_brT,Tr.val_chkT]
  clear hwr
  try simp only [zG hlt] at hy
  simp only [hcast] at hy
  repeat' (first | with_reducible refine aP hy (fun _ hy=>?_) (fun _ hy=>?_) | with_reducible refine zq ?_)
  all_goals first | (cases hc; done) | (subst hy; first | (change Reach _ _ _ _ _ _; apply IH <;> first | omega | assumption) | rfl)
theorem Ld {C:cq} (hC:∀ id,C.ρ0 id=none) (s1:TS) (l0:List
 (Sem zh)):
  Reach (lw) C 69 (zx Tryz.f69 2) (w8 l0 s1 0) (fun r h=>ae h [zg] r=some (dK s1 l0 0,())):=
 Reach.len 0 zh l0 rfl fun hl=>Qy hC s1 l0 hl _ 0 rfl (aD _)
def wR (x0:Sem zh.sl) (x1:TS):Sem zg:=(dK x1 x0 0)
def zac:zD:=af [zh.sl,Sh.str] [zg] fun x=>(wR x.1 x.2.1,())
theorem VA:FK 69 zac:=by
 refine zP (Ie) fun x C hC=>?_
 refine zk gn (Ie) (fun id _=>hC id) (zdz x.1 x.2.1) ?_
 generalize hy:wR x.1 x.2.1=y
 unfold wR at hy
 try simp only [ze.eta]
 repeat' (first | with_reducible refine aP hy (fun _ hy=>?_) (fun _ hy=>?_) | with_reducible refine zq ?_)
 all_goals first | (cases hc; done) | (subst hy; first | (change Reach _ _ _ _ _ _; apply Ld hC <;> first | assumption | exact hc) | rfl)

noncomputable def nI:=lw.addL [(37,zbh),(24,zap),(102,S0),(69,zac)]
theorem iN:zm nI:=gn.addL <| fc WN <| fc VN <| fc Hj <| fc VA gW

theorem Cq (x:Sem (Sh.sl zf)) (c:Int) (v:Sem zf):tp x c v=true:=by
 unfold tp
 by_cases h1:(c:Int) ≥ 0
 ·by_cases h2:c < (length x:Int)
  ·have h3:zE c (length x)=true:=by simp [zE]; exact ⟨h1,h2⟩
   simp [aZ h1,aZ h2,h3]
  ·simp [aZ h1,er h2]
 ·simp [er h1]
def S1:zD:=af [Sh.sl zf,zg,zf] [Sh.bool] fun x=>(kX x.1 x.2.1 x.2.2.1,())
theorem P6:FK 102 S1:=eH Hj fun x=>Cq x.1 x.2.1 x.2.2.1

abbrev Up:Nat→zX:=fun j=>if j=3 then { slots:=[0,3,4],prom:=[(3,none,.str)] } else { }
abbrev w9 (l0:LS) (i4:Int) (lh_0:LS):St:={ tmps:=(tm 24 [(0,AV.sl Sh.str l0),(3,AV.vec 0),(4,ai i4)]),heap:=[AO.vec Sh.str lh_0] }
theorem If:zA (nI).P 25 Tryz.f25 1:=aJ (by kernel_rfl)
theorem zdC (x0:Sem Sh.str.sl):rn nI 0 Up Tryz.f25 [zz Sh.str.sl x0] []=Tr.ok (zr.head 3 (zx Tryz.f25 3) (w9 x0 0 [])):=by kernel_rfl
theorem Iq (l0:LS) (i4:Int) (lh_0:LS):rh nI 0 Up Tryz.f25 3 (w9 l0 i4 lh_0)=Tr.br (bif decide (i4 < (↑l0.length:Int)) then decide (i4 < 10) else false) (Tr.chk (zE i4 l0.length) (Tr.chk (dY (l0.getD i4.toNat (zj Sh.str))) (Tr.chk (decide (lh_0.length+[cN (l0.getD i4.toNat (zj Sh.str))].length≤1073741824)) (Tr.ok (zr.head 3 (zx Tryz.f25 3) (w9 l0 (IntKind.i64.wrap (i4+1)) (lh_0++[cN (l0.getD i4.toNat (zj Sh.str))]))))))) (Tr.ok (zr.ret (AV.vec 0) [AO.vec Sh.str lh_0])):=by kernel_rfl
def fv:List (Sem Sh.str)→Int→List (Sem Sh.str)→Sem Sh.str.sl
 | [],_,lh_0=>(lh_0)
 | x::r,i4,lh_0=>(if decide (i4 < 10)=true then fv r (i4+1) (lh_0++[cN x]) else lh_0)
def ez:List (Sem Sh.str)→Int→List (Sem Sh.str)→Bool
 | [],_,_=>(true)
 | x::r,i4,lh_0=>(if decide (i4 < 10)=true then
 if dY x=true then if decide (lh_0.length+[cN x].length≤1073741824)=true then ez r (i4+1) (lh_0++[cN x]) else false else false
else true)
theorem Qz {C:cq} (hC:∀ id,C.ρ0 id=none) (l0:LS) (hl:l0.length≤zF):∀ (m i:Nat) (lh_0:LS),l0.length - i=m→i≤l0.length→ez (l0.drop i) i lh_0=true→
  Reach (nI) C 25 (zx Tryz.f25 3) (w9 l0 (i:Int) lh_0) (fun r h=>ae h [Sh.str.sl] r=some (fv (l0.drop i) i lh_0,())):=by
 intro m
 induction m with
 | zero=>
  intro i lh_0 hm hi hc
  obtain rfl:i=l0.length:=by omega
  rw [dg] at hc ⊢
  refine zk iN (If) (fun id _=>hC id) (Iq _ _ _) ?_
  rw [ez] at hc
  generalize hy:fv [] _ lh_0=y
  rw [fv] at hy
  simp only [z8,bR,Tr.val_brF]
  repeat' (first | with_reducible refine eU hy hc (fun _ hy hc=>?_) (fun _ hy hc=>?_) | with_reducible refine aP hy (fun _ hy=>?_) (fun _ hy=>?_) | with_reducible refine bh hc (fun hc=>?_) | with_reducible refine zq ?_)
  all_goals first | (cases hc; done) | (subst hy; first | rfl)
 | succ m IH=>
  intro i lh_0 hm hi hc
  have hlt:i < l0.length:=by omega
  have IH:=IH (i+1)
  have hcast:((i:Int)+1)=((i+1:Nat):Int):=by omega
  have hwr:=zH i (by omega)
  rw [dA hlt] at hc ⊢
  refine zk iN (If) (fun id _=>hC id) (Iq _ _ _) ?_
  rw [ez] at hc
  generalize hy:fv (l0[i]::l0.drop (i+1)) (i:Int) lh_0=y
  rw [fv] at hy
  simp only [zW hlt,zG hlt,zY l0 _ hlt,hwr,bO]
  clear hwr
  try simp only [zG hlt] at hy
  simp only [hcast] at hy
  try simp only [zG hlt] at hc
  try simp only [hcast] at hc
  repeat' (first | with_reducible refine eU hy hc (fun _ hy hc=>?_) (fun _ hy hc=>?_) | with_reducible refine aP hy (fun _ hy=>?_) (fun _ hy=>?_) | with_reducible refine bh hc (fun hc=>?_) | with_reducible refine zq ?_)
  all_goals first | (cases hc; done) | (subst hy; first | (change Reach _ _ _ _ _ _; apply IH <;> first | omega | assumption) | rfl)
theorem Lf {C:cq} (hC:∀ id,C.ρ0 id=none) (l0:LS) (lh_0:LS) (hc:ez l0 0 lh_0=true):
  Reach (nI) C 25 (zx Tryz.f25 3) (w9 l0 0 lh_0) (fun r h=>ae h [Sh.str.sl] r=some (fv l0 0 lh_0,())):=
 Reach.len 0 (Sh.str) l0 rfl fun hl=>Qz hC l0 hl _ 0 lh_0 rfl (aD _) hc
def kR (x0:Sem Sh.str.sl):Sem Sh.str.sl:=(fv x0 0 [])
def md (x0:Sem Sh.str.sl):Bool:=(ez x0 0 [])
def zas:zD:=zC [Sh.str.sl] [Sh.str.sl] (fun x=>md x.1) fun x=>(kR x.1,())
theorem VQ:FK 25 zas:=by
 refine zN (If) fun x hc C hC=>?_
 unfold md at hc
 refine zk iN (If) (fun id _=>hC id) (zdC x.1) ?_
 generalize hy:kR x.1=y
 unfold kR at hy
 try simp only [ze.eta]
 repeat' (first | with_reducible refine eU hy hc (fun _ hy hc=>?_) (fun _ hy hc=>?_) | with_reducible refine aP hy (fun _ hy=>?_) (fun _ hy=>?_) | with_reducible refine bh hc (fun hc=>?_) | with_reducible refine zq ?_)
 all_goals first | (cases hc; done) | (subst hy; first | (change Reach _ _ _ _ _ _; apply Lf hC <;> first | assumption | exact hc) | rfl)

abbrev tw (s:zn) (l:List (Sem zh)) (i:Int):St:={ tmps:=[.sl zh l,.clo (.func 37) [] [.ptr 0 0],.any,.any,.any,.any,.any,.int .i64 l.length,.int .i64 i,.any,.any,.any,.any,.any,.any,.any,.any,.any,.any],heap:=[.box [.str s]] }
theorem Mt (s:zn) (l:List (Sem zh)):run nI 1 lG Tryz.f36.results.toList 300 (au Tryz.f36) (z7 Tryz.f36.ntmps [.sl zh l,.clo (.func 37) [] [.ptr 0 0]] [.box [.str s]])=.ok (.head 2 (zx Tryz.f36 2) (tw s l 0)):=by kernel_rfl
theorem N4 (s:zn) (l:List (Sem zh)) (i:Int):run nI 1 lG Tryz.f36.results.toList 300 (zx Tryz.f36 2) (tw s l i)=hZ (K:=zx Tryz.f36 2) (e:=zh) l (fun x=>x.1.1==s) (tw s l) [.box [.str s]] i:=by kernel_rfl

theorem NS:zA nI.P 36 Tryz.f36 2:=aJ (by kernel_rfl)
def zcR:cy [some (.sl zh),none]:=fun x h=>match x,h with
 | (l,.clo (.func 37) [] [.ptr 0 0],_),[.box [.str s]]=>.ok (.int .i64 (zS (fun x=>x.1.1==s) l 0),[.box [.str s]])
 | _,_=>.err
def zbg:zD:=zR [some (.sl zh),none] zcR
theorem WM:FK 36 zbg:=by
 refine bq NS fun x h0 res hx C hC=>?_
 unfold zcR at hx
 split at hx
 ·rename_i l u s
  simp only [Tr.val_ok,ag] at hx
  subst hx
  refine Reach.len 0 zh l rfl fun hl=>?_
  refine zk (n0:=1) iN NS hC (Mt s l) ?_
  exact eL l (fun x=>x.1.1==s) (tw s l) iN NS hC (N4 s l) hl _ 0 rfl (aD _)
 ·simp at hx

noncomputable def DJ:=nI.addL [(102,S1),(25,zas),(36,zbg)]
theorem qI:zm DJ:=iN.addL <| fc P6 <| fc VQ <| fc WM gW

noncomputable def SZ:zD:=zR (List.replicate 3 none) (bS DJ Tryz.f101 (List.replicate 3 none))
theorem P5:FK 101 SZ:=aj _ qI (aJ (by kernel_rfl))

abbrev zeQ:Nat→zX:=fun _=>{ }
theorem UF:zA (DJ).P 16 Tryz.f16 2:=aJ (by kernel_rfl)
theorem zdI (x0:Sem zh.sl) (x1:TS):rn DJ 0 zeQ Tryz.f16 [zz zh.sl x0,zz Sh.str x1] []=Tr.ok (zr.ret (ai (zS (fun x=>x.1.1==x1) x0 0)) []):=by kernel_rfl
def aF (x0:Sem zh.sl) (x1:TS):Sem zg:=(zS (fun x=>x.1.1==x1) x0 0)
def zaN:zD:=af [zh.sl,Sh.str] [zg] fun x=>(aF x.1 x.2.1,())
theorem Wg:FK 16 zaN:=by
 refine zP (UF) fun x C hC=>?_
 refine zk qI (UF) (fun id _=>hC id) (zdI x.1 x.2.1) ?_
 generalize hy:aF x.1 x.2.1=y
 unfold aF at hy
 try simp only [ze.eta]
 repeat' (first | with_reducible refine aP hy (fun _ hy=>?_) (fun _ hy=>?_) | with_reducible refine zq ?_)
 all_goals first | (cases hc; done) | (subst hy; first | rfl)

noncomputable def DK:=DJ.addL [(101,SZ),(16,zaN)]
theorem qJ:zm DK:=qI.addL <| fc P5 <| fc Wg gW

abbrev nh (c a b:Int) (s:zn) (l:List (Sem (Sh.sl zf))) (i:Int):St:={ tmps:=[.sl (Sh.sl zf) l,.clo (.func 101) [] [.ptr 0 0,.ptr 1 0],.any,.any,.any,.any,.any,.int .i64 l.length,.int .i64 i,.any,.any,.any,.any,.any,.any,.any,.any,.any,.any],heap:=[.box [.int .i64 c],.box [.int .i64 a,.int .i64 b,.str s]] }
theorem Ga (c a b:Int) (s:zn) (l:List (Sem (Sh.sl zf))):run DK 2 lG Tryz.f88.results.toList 300 (au Tryz.f88) (z7 Tryz.f88.ntmps [.sl (Sh.sl zf) l,.clo (.func 101) [] [.ptr 0 0,.ptr 1 0]] [.box [.int .i64 c],.box [.int .i64 a,.int .i64 b,.str s]])=.ok (.head 2 (zx Tryz.f88 2) (nh c a b s l 0)):=by kernel_rfl
theorem Gy (c a b:Int) (s:zn) (l:List (Sem (Sh.sl zf))) (i:Int):run DK 2 lG Tryz.f88.results.toList 300 (zx Tryz.f88 2) (nh c a b s l i)=hZ (K:=zx Tryz.f88 2) (e:=(Sh.sl zf)) l (fun x=>kX x c (a,b,s)) (nh c a b s l) [.box [.int .i64 c],.box [.int .i64 a,.int .i64 b,.str s]] i:=by kernel_rfl

theorem Gw:zA DK.P 88 Tryz.f88 2:=aJ (by kernel_rfl)
def Tw:cy [some (.sl (Sh.sl zf)),none]:=fun x h=>match x,h with
 | (l,.clo (.func 101) [] [.ptr 0 0,.ptr 1 0],_),[.box [.int .i64 c],.box [.int .i64 a,.int .i64 b,.str s]]=>.ok (.int .i64 (zS (fun x=>kX x c (a,b,s)) l 0),[.box [.int .i64 c],.box [.int .i64 a,.int .i64 b,.str s]])
 | _,_=>.err
def S8:zD:=zR [some (.sl (Sh.sl zf)),none] Tw
theorem Qd:FK 88 S8:=by
 refine bq Gw fun x h0 res hx C hC=>?_
 unfold Tw at hx
 split at hx
 ·rename_i l u c a b s
  simp only [Tr.val_ok,ag] at hx
  subst hx
  refine Reach.len 0 (Sh.sl zf) l rfl fun hl=>?_
  refine zk (n0:=2) qJ Gw hC (Ga c a b s l) ?_
  exact eL l (fun x=>kX x c (a,b,s)) (nh c a b s l) qJ Gw hC (Gy c a b s l) hl _ 0 rfl (aD _)
 ·simp at hx

noncomputable def LY:=DK.add 88 S8
theorem yN:zm LY:=qJ.add Qd

noncomputable def SY:zD:=zR (List.replicate 2 none) (bS LY Tryz.f100 (List.replicate 2 none))
theorem P4:FK 100 SY:=aj _ yN (aJ (by kernel_rfl))

noncomputable def HG:=LY.add 100 SY
theorem qK:zm HG:=yN.add P4
noncomputable section

abbrev Ya:Nat→zX:=fun _=>{ }
theorem NE:zA (HG).P 59 Tryz.f59 3:=aJ (by kernel_rfl)
theorem XA (x0:Sem zh) (x1:Sem zg) (x2:Sem zf):rn HG 0 Ya Tryz.f59 [zz zh x0,zz zg x1,zz zf x2] []=Tr.ok (zr.ret (AV.bool (decide (zS (fun x=>kX x x1 x2) x0.2 0 ≥ 0))) []):=by kernel_rfl
def lI (x0:Sem zh) (x1:Sem zg) (x2:Sem zf):Sem Sh.bool:=(decide (zS (fun x=>kX x x1 x2) x0.2 0 ≥ 0))
def Sx:zD:=af [zh,zg,zf] [Sh.bool] fun x=>(lI x.1 x.2.1 x.2.2.1,())
theorem PD:FK 59 Sx:=by
 refine zP (NE) fun x C hC=>?_
 refine zk qK (NE) (fun id _=>hC id) (XA x.1 x.2.1 x.2.2.1) ?_
 generalize hy:lI x.1 x.2.1 x.2.2.1=y
 unfold lI at hy
 try simp only [ze.eta]
 repeat' (first | with_reducible refine aP hy (fun _ hy=>?_) (fun _ hy=>?_) | with_reducible refine zq ?_)
 all_goals first | (cases hc; done) | (subst hy; first | rfl)

abbrev X9:=jJ [(3,[1,5,11,12,13])]
inductive x6 where
 | h3 (i1:Sem zg) (l11:List (Sem zf.sl)) (i12:Int) (i13:Int) (mh_0:List ((Int×Int×zn)×Int))
abbrev zdd:x6→Nat×St
 | .h3 i1 l11 i12 i13 mh_0=>(3,⟨tm 37 [(1,ai i1),(5,AV.mp 0),(11,AV.sl zf.sl l11),(12,ai i12),(13,ai i13)],[AO.vmap false mh_0]⟩)
def Ua (x0:Sem zh) (x1:Sem zg):Tr (x6 ⊕ zV):=Tr.to (x6.h3 x1 x0.2 (↑(length x0.2):Int) 0 [])
def sx:x6→Tr (x6 ⊕ zV)
 | .h3 i1 l11 i12 i13 mh_0=>
  let a0:=l11.getD i13.toNat (zj zf.sl)
  let a1:=getD a0 (toNat i1) (zj zf)
  let a2:=(↑(jm mh_0 a1):Int)
  let a3:=gT mh_0 a1
  let a4:=ie a3 a2.toNat (IntKind.i64.wrap (eV mh_0 a1+1))
  let a5:=eV a4 a1
  Tr.br (decide (i13 < i12))
  (Tr.chk (zE i13 l11.length)
   (Tr.chk (zE i1 (length a0)) (Tr.chk (decide (mh_0.length≤1073741824)) (Tr.chk (zE a2 a3.length) (Tr.br (bif a1.1 != 0 then decide (a5 > 1) else false) (Tr.re (AV.kb true) []) (Tr.to (x6.h3 i1 l11 i12 (IntKind.i64.wrap (i13+1)) a4)))))))
  (Tr.re (AV.kb false) [])
def tq (x0:Sem zh) (x1:Sem zg):=zT [Sh.bool] sx 100000000 (Ua x0 x1)
def m9 (x0:Sem zh) (x1:Sem zg):=(tq x0 x1).isSome
def rq (x0:Sem zh) (x1:Sem zg):=o1 (tq x0 x1)
def Sw:=FT [zh,zg] [Sh.bool] fun x=>tq x.1 x.2.1
theorem PC:FK 57 Sw:=qK.T1 (f:=Tryz.f57) (keep:=X9) (e:=zdd)

def TL:=HG.addL [(59,Sx),(57,Sw)]
theorem qL:zm TL:=qK.addL <| fc PD <| fc PC gW
end
noncomputable section

abbrev ze0:=jJ [(6,[1,18,19,20]),(15,[1,39,40,41]),(21,[1,8])]
inductive xH where
 | h6 (l18:List (Sem zf.sl)) (i19:Int) (i20:Int) (z0:zu [CP.d zh])
 | h15 (l39:LI) (i40:Int) (i41:Int) (z0:zu [CP.d zh])
 | h21 (i8:Int) (z0:zu [CP.d zh])
abbrev zhr:xH→Nat×St
 | .h6 l18 i19 i20 z0=>(6,⟨tm 79 [(1,AV.ptr 0 0),(18,AV.sl zf.sl l18),(19,ai i19),(20,ai i20)],[AO.box (bb [] [CP.d zh] z0)]⟩)
 | .h15 l39 i40 i41 z0=>(15,⟨tm 79 [(1,AV.ptr 0 0),(39,AV.sl zg l39),(40,ai i40),(41,ai i41)],[AO.box (bb [] [CP.d zh] z0)]⟩)
 | .h21 i8 z0=>(21,⟨tm 79 [(1,AV.ptr 0 0),(8,ai i8)],[AO.box (bb [] [CP.d zh] z0)]⟩)
def J4 (x0:Sem zh):Tr (xH ⊕ zV):=Tr.br (!gS (x0.1.1,x0.1.2.1,x0.1.2.2.1,x0.1.2.2.2.1,x0.1.2.2.2.2.1,zB x0.1.2.2.2.2.2)) (Tr.re (ai 1) []) (Tr.br (decide ((↑(length x0.2):Int) > 200)) (Tr.re (ai 13) []) (Tr.to (xH.h6 x0.2 (↑(length x0.2):Int) 0 (x0,()))))
def fB:xH→Tr (xH ⊕ zV)
 | .h6 l18 i19 i20 z0=>
  let a0:=(z0.1.1.1,z0.1.1.2.1,z0.1.1.2.2.1,z0.1.1.2.2.2.1,z0.1.1.2.2.2.2.1,zB z0.1.1.2.2.2.2.2)
  let a1:=jD a0 (l18.getD i20.toNat (zj zf.sl))
  let a2:=(a0,z0.1.2)
  Tr.br (decide (i20 < i19))
  (Tr.chk (zE i20 l18.length) (Tr.br (a1 != 0) (Tr.re (ai a1) []) (Tr.to (xH.h6 l18 i19 (IntKind.i64.wrap (i20+1)) z0))))
  (Tr.chk (m9 a2 z0.1.1.2.2.1)
   (Tr.br (rq a2 z0.1.1.2.2.1) (Tr.re (ai 7) []) (Tr.to (xH.h15 z0.1.1.2.2.2.1 (↑(length z0.1.1.2.2.2.1):Int) 0 z0))))
 | .h15 l39 i40 i41 z0=>
  let a0:=((z0.1.1.1,z0.1.1.2.1,z0.1.1.2.2.1,z0.1.1.2.2.2.1,z0.1.1.2.2.2.2.1,zB z0.1.1.2.2.2.2.2),z0.1.2)
  let a1:=l39.getD i41.toNat (zj zg)
  Tr.br (decide (i41 < i40))
  (Tr.chk (zE i41 l39.length)
   (Tr.chk (m9 a0 a1) (Tr.br (rq a0 a1) (Tr.re (ai 7) []) (Tr.to (xH.h15 l39 i40 (IntKind.i64.wrap (i41+1)) z0)))))
  (Tr.to (xH.h21 1 z0))
 | .h21 i8 z0=>
  let a0:=(↑(length z0.1.2):Int)
  let a1:=IntKind.i64.wrap (i8 - 1)
  let a2:=getD z0.1.2 a1.toNat (zj zf.sl)
  let a3:=getD z0.1.2 i8.toNat (zj zf.sl)
  let a4:=aR (getD a2 (toNat z0.1.1.2.2.1) (zj zf)) (getD a3 (toNat z0.1.1.2.2.1) (zj zf))
  Tr.br (decide (i8 < a0))
  (Tr.chk (zE a1 (length z0.1.2))
   (Tr.chk (zE z0.1.1.2.2.1 (length a2)) (Tr.chk (zE i8 (length z0.1.2)) (Tr.chk (zE z0.1.1.2.2.1 (length a3)) (Tr.br (decide (a4 ≥ 0)) (Tr.re (ai 15) []) (Tr.to (xH.h21 (IntKind.i64.wrap (i8+1)) z0)))))))
  (Tr.re (ai 0) [])
def kW (x0:Sem zh):=zT [zg] fB 100000000 (J4 x0)
def m8 (x0:Sem zh):=(kW x0).isSome
def rp (x0:Sem zh):=o1 (kW x0)
def zaY:=FT [zh] [zg] fun x=>kW x.1
theorem Wu:FK 29 zaY:=qL.T1 (f:=Tryz.f29) (keep:=ze0) (e:=zhr)

abbrev ze1:=jJ [(2,[0,11,12,13]),(5,[0,4,11,12,13,19,20,21]),(11,[0,4,6,7,11,12,13,19,20,21,32,33,34])]
inductive xI where
 | h2 (l0:List (Sem zh)) (l11:List (Sem zh)) (i12:Int) (i13:Int)
 | h5 (l0:List (Sem zh)) (l11:List (Sem zh)) (i12:Int) (i13:Int) (l19:LF) (i20:Int) (i21:Int) (z0:zu [CP.d zh])
 | h11 (l0:List (Sem zh)) (i7:Sem zg) (l11:List (Sem zh)) (i12:Int) (i13:Int) (l19:LF) (i20:Int) (i21:Int) (l32:List (Sem zf.sl)) (i33:Int) (i34:Int) (z0:zu [CP.d zh]) (z1:zu [CP.d zp])
abbrev zhs:xI→Nat×St
 | .h2 l0 l11 i12 i13=>(2,⟨tm 64 [(0,AV.sl zh l0),(11,AV.sl zh l11),(12,ai i12),(13,ai i13)],[]⟩)
 | .h5 l0 l11 i12 i13 l19 i20 i21 z0=>(5,⟨tm 64 [(0,AV.sl zh l0),(4,AV.ptr 0 0),(11,AV.sl zh l11),(12,ai i12),(13,ai i13),(19,AV.sl zp l19),(20,ai i20),(21,ai i21)],[AO.box (bb [] [CP.d zh] z0)]⟩)
 | .h11 l0 i7 l11 i12 i13 l19 i20 i21 l32 i33 i34 z0 z1=>(11,⟨tm 64 [(0,AV.sl zh l0),(4,AV.ptr 0 0),(6,AV.ptr 1 0),(7,ai i7),(11,AV.sl zh l11),(12,ai i12),(13,ai i13),(19,AV.sl zp l19),(20,ai i20),(21,ai i21),(32,AV.sl zf.sl l32),(33,ai i33),(34,ai i34)],[AO.box (bb [] [CP.d zh] z0),AO.box (bb [] [CP.d zp] z1)]⟩)
def zeq (x0:Sem zh.sl):Tr (xI ⊕ zV):=Tr.to (xI.h2 x0 x0 (↑(length x0):Int) 0)
def fa:xI→Tr (xI ⊕ zV)
 | .h2 l0 l11 i12 i13=>
  let a0:=l11.getD i13.toNat (zj zh)
  Tr.br (decide (i13 < i12))
  (Tr.chk (zE i13 l11.length) (Tr.to (xI.h5 l0 l11 i12 i13 a0.1.2.2.2.2.1 (↑(length a0.1.2.2.2.2.1):Int) 0 (a0,()))))
  (Tr.re (AV.kb true) [])
 | .h5 l0 l11 i12 i13 l19 i20 i21 z0=>
  let a0:=l19.getD i21.toNat (zj zp)
  let a1:=aF l0 a0.2
  Tr.br (decide (i21 < i20))
  (Tr.chk (zE i21 l19.length)
   (Tr.br (decide (a1 < 0)) (Tr.re (AV.kb false) []) (Tr.to (xI.h11 l0 a1 l11 i12 i13 l19 i20 i21 z0.1.2 (↑(length z0.1.2):Int) 0 z0 (a0,())))))
  (Tr.to (xI.h2 l0 l11 i12 (IntKind.i64.wrap (i13+1))))
 | .h11 l0 i7 l11 i12 i13 l19 i20 i21 l32 i33 i34 z0 z1=>
  let a0:=l32.getD i34.toNat (zj zf.sl)
  let a1:=getD a0 (toNat z1.1.1) (zj zf)
  let a2:=a1.1 != 0
  let a3:=l0.getD (toNat i7) (zj zh)
  Tr.br (decide (i34 < i33))
  (Tr.chk (zE i34 l32.length)
   (Tr.chk (zE z1.1.1 (length a0)) (Tr.chk (bif a2 then zE i7 l0.length&&zE i7 l0.length else true) (Tr.br (bif a2 then !lI ((a3.1.1,a3.1.2.1,a3.1.2.2.1,a3.1.2.2.2.1,a3.1.2.2.2.2.1,zB a3.1.2.2.2.2.2),a3.2) a3.1.2.2.1 a1 else false) (Tr.re (AV.kb false) []) (Tr.to (xI.h11 l0 i7 l11 i12 i13 l19 i20 i21 l32 i33 (IntKind.i64.wrap (i34+1)) z0 z1))))))
  (Tr.to (xI.h5 l0 l11 i12 i13 l19 i20 (IntKind.i64.wrap (i21+1)) z0))
def oZ (x0:Sem zh.sl):=zT [Sh.bool] fa 100000000 (zeq x0)
def mH (x0:Sem zh.sl):=(oZ x0).isSome
def qm (x0:Sem zh.sl):=o1 (oZ x0)
def zaZ:=FT [zh.sl] [Sh.bool] fun x=>oZ x.1
theorem Wv:FK 30 zaZ:=qL.T1 (f:=Tryz.f30) (keep:=ze1) (e:=zhs)

def TM:=TL.addL [(29,zaY),(30,zaZ)]
theorem yO:zm TM:=qL.addL <| fc Wu <| fc Wv gW
end
noncomputable section

abbrev zeJ:=jJ [(4,[0,3]),(9,[0,30,31,32])]
inductive C8 where
 | h4 (l0:List (Sem zh)) (i3:Int)
 | h9 (l0:List (Sem zh)) (l30:List (Sem zh)) (i31:Int) (i32:Int)
abbrev zhg:C8→Nat×St
 | .h4 l0 i3=>(4,⟨tm 45 [(0,AV.sl zh l0),(3,ai i3)],[]⟩)
 | .h9 l0 l30 i31 i32=>(9,⟨tm 45 [(0,AV.sl zh l0),(30,AV.sl zh l30),(31,ai i31),(32,ai i32)],[]⟩)
def Rh (x0:Sem zh.sl):Tr (C8 ⊕ zV):=Tr.br (decide ((↑(length x0):Int) > 12)) (Tr.re (ai 13) []) (Tr.to (C8.h4 x0 1))
def k9:C8→Tr (C8 ⊕ zV)
 | .h4 l0 i3=>
  let a0:=IntKind.i64.wrap (i3 - 1)
  let a1:=l0.getD a0.toNat (zj zh)
  let a2:=l0.getD i3.toNat (zj zh)
  Tr.br (decide (i3 < (↑l0.length:Int)))
  (Tr.chk (zE a0 l0.length)
   (Tr.chk (zE i3 l0.length) (Tr.br (!Op.bytesLess a1.1.1 a2.1.1) (Tr.re (ai 15) []) (Tr.to (C8.h4 l0 (IntKind.i64.wrap (i3+1)))))))
  (Tr.to (C8.h9 l0 l0 (↑l0.length:Int) 0))
 | .h9 l0 l30 i31 i32=>
  let a0:=l30.getD i32.toNat (zj zh)
  let a1:=((a0.1.1,a0.1.2.1,a0.1.2.2.1,a0.1.2.2.2.1,a0.1.2.2.2.2.1,zB a0.1.2.2.2.2.2),a0.2)
  let a2:=rp a1
  Tr.br (decide (i32 < i31))
  (Tr.chk (zE i32 l30.length)
   (Tr.chk (m8 a1) (Tr.br (a2 != 0) (Tr.re (ai a2) []) (Tr.to (C8.h9 l0 l30 i31 (IntKind.i64.wrap (i32+1)))))))
  (Tr.chk (mH l0) (Tr.br (!qm l0) (Tr.re (ai 10) []) (Tr.re (ai 0) [])))
def o4 (x0:Sem zh.sl):=zT [zg] k9 100000000 (Rh x0)
def sP (x0:Sem zh.sl):=(o4 x0).isSome
def n5 (x0:Sem zh.sl):=o1 (o4 x0)
def zaz:=FT [zh.sl] [zg] fun x=>o4 x.1
theorem V0:FK 11 zaz:=yO.T1 (f:=Tryz.f11) (keep:=zeJ) (e:=zhg)

def fI:=TM.add 11 zaz
theorem bK:zm fI:=yO.add V0
end
section
variable {σ:Type} {t:σ→Tr (σ ⊕ zV)}

def bL (t:σ→Tr (σ ⊕ zV)) (k:Nat) (s:σ) (r:zV):Prop:=∀ n,k≤n→bU t n s=some r
def aI (t:σ→Tr (σ ⊕ zV)) (m:Nat) (s s':σ):Prop:=∀ k r,bL t k s' r→bL t (k+m) s r

theorem bL.mono {k k':Nat} {s:σ} {r:zV} (h:bL t k s r) (hk:k≤k'):bL t k' s r:=fun n hn=>h n (by omega)
theorem bL.of {s:σ} {r:zV} (h:(t s).val=some (.inr r)):bL t 1 s r:=by
 intro n hn
 obtain ⟨n,rfl⟩:∃ k,n=k+1:=⟨n - 1,by omega⟩
 rw [bU,h]
theorem aI.of {s s':σ} (h:(t s).val=some (.inl s')):aI t 1 s s':=by
 intro k r hr n hn
 obtain ⟨n,rfl⟩:∃ k,n=k+1:=⟨n - 1,by omega⟩
 rw [bU,h]
 exact hr n (by omega)
theorem aI.refl (s:σ):aI t 0 s s:=fun _ _ h=>h
theorem aI.trans {a b:Nat} {s s' s'':σ} (h1:aI t a s s') (h2:aI t b s' s''):aI t (b+a) s s'':=fun k r h=>(h1 _ _ (h2 k r h)).mono (by omega)
theorem aI.mono {a b:Nat} {s s':σ} (h:aI t a s s') (hk:a≤b):aI t b s s':=fun k r hr=>(h k r hr).mono (by omega)
theorem aI.ends {a k:Nat} {s s':σ} {r:zV} (h1:aI t a s s') (h2:bL t k s' r):bL t (k+a) s r:=h1 k r h2

theorem aI.all (m:Nat) (st:Nat→σ):∀ (N:Nat),(∀ i,i < N→aI t m (st i) (st (i+1)))→aI t (N * m) (st 0) (st N)
 | 0,_=>(aI.refl _).mono (by omega)
 | N+1,h=>((aI.all m st N fun i hi=>h i (by omega)).trans (h N (by omega))).mono (by rw [lr]; omega)

theorem K7 {Φ:zV→Prop} (m:Nat) (st:Nat→σ) (P:Nat→Prop):∀ (N:Nat),(∀ i,i < N→(∀ j,j < i→P j)→(P i∧aI t m (st i) (st (i+1)))∨(¬ P i∧∃ r,bL t m (st i) r∧Φ r))→
  ((∀ i,i < N→P i)∧aI t (N * m) (st 0) (st N))∨((¬ ∀ i,i < N→P i)∧∃ r,bL t (N * m) (st 0) r∧Φ r)
 | 0,_=>.inl ⟨fun i hi=>absurd hi (by omega),(aI.refl _).mono (by omega)⟩
 | N+1,h=>by
  rcases K7 m st P N fun i hi=>h i (by omega) with ⟨h1,h2⟩ | ⟨h1,r,h2,h3⟩
  ·rcases h N (by omega) h1 with ⟨h4,h5⟩ | ⟨h4,r,h5,h6⟩
   ·refine .inl ⟨fun i hi=>?_,(h2.trans h5).mono (by rw [lr]; omega)⟩
    rcases Nat.lt_succ_iff_lt_or_eq.1 hi with hi | rfl
    ·exact h1 i hi
    ·exact h4
   ·exact .inr ⟨fun h=>h4 (h N (by omega)),r,(h2.ends h5).mono (by rw [lr]; omega),h6⟩
  ·exact .inr ⟨fun h=>h1 fun i hi=>h i (by omega),r,h2.mono (by rw [lr]; omega),h3⟩

theorem bn {outs:List Sh} {n k:Nat} {i:Tr (σ ⊕ zV)} {s:σ} {r:zV} {y:zw (outs.map some)} (hi:i.val=some (.inl s)) (h:bL t k s r) (hk:k≤n) (hr:ae r.2 outs r.1=some y):zT outs t n i=some y:=by
 unfold zT cd
 rw [hi]
 show (bU t n s).bind _=_
 rw [h n hk]
 exact hr
theorem gN {outs:List Sh} {n:Nat} {i:Tr (σ ⊕ zV)} {r:zV} {y:zw (outs.map some)} (hi:i.val=some (.inr r)) (hr:ae r.2 outs r.1=some y):zT outs t n i=some y:=by
 unfold zT cd
 rw [hi]
 exact hr
end
end Cad
