/- Statements: what a CREATE has. Functions on a variable to which a pointer leads. Functions as the machine goes through them, round by round. Rounds with an invariant; what a variable's cells say. Statements: their parts, their texts. Statements: their texts. Statements that may be. Bases: small things. Bases: few. Bases: few, and where a table is. Bases: few tables; has. Tables with rows: has. Tables with rows: has, check. Tables with rows: check; bases: bound. Bases: check. Loops: where they go, and where they end. -/
import Derived.Test.YtiefilkilbdpgaaGreatDoorL11
namespace Cad
open Go Go.Proofs
open Int (toNat)
open List (getD)
open List (length)
set_option maxHeartbeats 4000000

abbrev zis:Nat→zY:=fun _=>{ }
theorem zfn:zA (gO).P 150 Tryz.f150 1:=aL (by kernel_rfl)
theorem zhJ (x0:Sem zp):rn gO 0 zis Tryz.f150 [zz zp x0] []=Tr.ok (zt.ret (AV.bool (bif bif decide ((↑(length x0.2.2.2.2.1):Int) < 1) then true else decide ((↑(length x0.2.2.2.2.1):Int) > 8) then false else bif !decide (zR (fun x => !js x) x0.2.2.2.2.1 0 ≥ 0) then bif bL x0.2.2.2.2.2.1 then bif bif decide ((↑(length x0.2.2.2.2.2.2.1):Int) < 0) then true else decide ((↑(length x0.2.2.2.2.2.2.1):Int) > 8) then false else bif !decide (zR (fun x => !bL x) x0.2.2.2.2.2.2.1 0 ≥ 0) then bif bif decide ((↑(length x0.2.2.2.2.2.2.2.1):Int) < 0) then true else decide ((↑(length x0.2.2.2.2.2.2.2.1):Int) > 8) then false else bif !decide (zR (fun x => !sD x) x0.2.2.2.2.2.2.2.1 0 ≥ 0) then kQ (zB x0.2.2.2.2.2.2.2.2.1) else false else false else false else false)) []):=by kernel_rfl
def iw (x0:Sem zp):Sem Sh.bool:=(bif bif decide ((↑(length x0.2.2.2.2.1):Int) < 1) then true else decide ((↑(length x0.2.2.2.2.1):Int) > 8) then false else bif !decide (zR (fun x => !js x) x0.2.2.2.2.1 0 ≥ 0) then bif bL x0.2.2.2.2.2.1 then bif bif decide ((↑(length x0.2.2.2.2.2.2.1):Int) < 0) then true else decide ((↑(length x0.2.2.2.2.2.2.1):Int) > 8) then false else bif !decide (zR (fun x => !bL x) x0.2.2.2.2.2.2.1 0 ≥ 0) then bif bif decide ((↑(length x0.2.2.2.2.2.2.2.1):Int) < 0) then true else decide ((↑(length x0.2.2.2.2.2.2.2.1):Int) > 8) then false else bif !decide (zR (fun x => !sD x) x0.2.2.2.2.2.2.2.1 0 ≥ 0) then kQ x0.2.2.2.2.2.2.2.2.1 else false else false else false else false)
def F81:zD:=ao [zp] [Sh.bool] fun x=>(iw x.1,())
theorem zbO:FK 150 F81:=by
 refine zP (zfn) fun x C hC=>?_
 refine zk dP (zfn) (fun id _=>hC id) (zhJ x.1) ?_
 generalize hy:iw x.1=y
 unfold iw at hy
 try simp only [ze.eta]
 repeat' (first | with_reducible refine aR hy (fun _ hy=>?_) (fun _ hy=>?_) | with_reducible refine zr ?_)
 all_goals first | (cases hc; done) | (subst hy; first | rfl)

abbrev zez:Nat→zY:=fun j=>if j=3 then { slots:=[1,5,8,9,10],prom:=[(5,none,.str)] } else { }
abbrev EZ (l8:List (Sem (Sh.str.pr Sh.expr))) (i9:Int) (i10:Int) (lh_0:LS):St:={ tmps:=(tm 23 [(1,AV.clo (Fn.func 162) [] []),(5,AV.vec 0),(8,AV.sl (Sh.str.pr Sh.expr) l8),(9,ai i9),(10,ai i10)]),heap:=[AO.vec Sh.str lh_0] }
theorem Rd:zA (gO).P 164 Tryz.f164 2:=aL (by kernel_rfl)
theorem zhT (x0:Sem aK.sl):rn gO 0 zez Tryz.f164 [zz aK.sl x0,AV.clo (Fn.func 162) [] []] []=Tr.ok (zt.head 3 (zy Tryz.f164 3) (EZ x0 (↑(length x0):Int) 0 [])):=by kernel_rfl
theorem NL (l8:List (Sem (Sh.str.pr Sh.expr))) (i9:Int) (i10:Int) (lh_0:LS):rh gO 0 zez Tryz.f164 3 (EZ l8 i9 i10 lh_0)=Tr.br (decide (i10 < i9)) (Tr.chk (zF i10 l8.length) (Tr.chk (jj ((l8.getD i10.toNat (zj (Sh.str.pr Sh.expr))).1,ze.mk (ze.op (l8.getD i10.toNat (zj (Sh.str.pr Sh.expr))).2) (ze.v (l8.getD i10.toNat (zj (Sh.str.pr Sh.expr))).2) (ze.s (l8.getD i10.toNat (zj (Sh.str.pr Sh.expr))).2) (ze.l (l8.getD i10.toNat (zj (Sh.str.pr Sh.expr))).2))) (Tr.chk (decide (lh_0.length+[dX ((l8.getD i10.toNat (zj (Sh.str.pr Sh.expr))).1,ze.mk (ze.op (l8.getD i10.toNat (zj (Sh.str.pr Sh.expr))).2) (ze.v (l8.getD i10.toNat (zj (Sh.str.pr Sh.expr))).2) (ze.s (l8.getD i10.toNat (zj (Sh.str.pr Sh.expr))).2) (ze.l (l8.getD i10.toNat (zj (Sh.str.pr Sh.expr))).2))].length≤1073741824)) (Tr.ok (zt.head 3 (zy Tryz.f164 3) (EZ l8 i9 (IntKind.i64.wrap (i10+1)) (lh_0++[dX ((l8.getD i10.toNat (zj (Sh.str.pr Sh.expr))).1,ze.mk (ze.op (l8.getD i10.toNat (zj (Sh.str.pr Sh.expr))).2) (ze.v (l8.getD i10.toNat (zj (Sh.str.pr Sh.expr))).2) (ze.s (l8.getD i10.toNat (zj (Sh.str.pr Sh.expr))).2) (ze.l (l8.getD i10.toNat (zj (Sh.str.pr Sh.expr))).2))]))))))) (Tr.chk (decide (lh_0.length≤140737488355328)&&decide ((Lib.join lh_0 [32,44,32]).length≤140737488355328))
 (Tr.ok (zt.ret (AV.str (Lib.join lh_0 [32,44,32])) []))):=by kernel_rfl
def cH:List (Sem (Sh.str.pr Sh.expr))→Int→List (Sem Sh.str)→Sem Sh.str
 | [],_,lh_0=>(Lib.join lh_0 [32,44,32])
 | x::r,i10,lh_0=>(cH r (i10+1) (lh_0++[dX x]))
def cZ:List (Sem (Sh.str.pr Sh.expr))→Int→List (Sem Sh.str)→Bool
 | [],_,lh_0=>(if (decide (lh_0.length≤140737488355328)&&decide ((Lib.join lh_0 [32,44,32]).length≤140737488355328))=true then true else false)
 | x::r,i10,lh_0=>(if jj x=true then if decide (lh_0.length+[dX x].length≤1073741824)=true then cZ r (i10+1) (lh_0++[dX x]) else false
else false)
theorem WH {C:cr} (hC:∀ id,C.ρ0 id=none) (l8:List (Sem (Sh.str.pr Sh.expr))) (hl:l8.length≤zE):∀ (m i:Nat) (lh_0:LS),l8.length - i=m→i≤l8.length→cZ (l8.drop i) i lh_0=true→
  Reach (gO) C 164 (zy Tryz.f164 3) (EZ l8 (l8.length:Int) (i:Int) lh_0) (fun r h=>ae h [Sh.str] r=some (cH (l8.drop i) i lh_0,())):=by
 intro m
 induction m with
 | zero=>
  intro i lh_0 hm hi hc
  obtain rfl:i=l8.length:=by omega
  rw [dj] at hc ⊢
  refine zk dP (Rd) (fun id _=>hC id) (NL _ _ _ _) ?_
  rw [cZ] at hc
  generalize hy:cH [] _ lh_0=y
  rw [cH] at hy
  simp only [ze.eta,ag,Tr.val_brF]
  repeat' (first | with_reducible refine eY hy hc (fun _ hy hc=>?_) (fun _ hy hc=>?_) | with_reducible refine aR hy (fun _ hy=>?_) (fun _ hy=>?_) | with_reducible refine bm hc (fun hc=>?_) | with_reducible refine zr ?_)
  all_goals first | (cases hc; done) | (subst hy; first | rfl)
 | succ m IH=>
  intro i lh_0 hm hi hc
  have hlt:i < l8.length:=by omega
  have IH:=IH (i+1)
  have hcast:((i:Int)+1)=((i+1:Nat):Int):=by omega
  have hwr:=zH i (by omega)
  rw [dB hlt] at hc ⊢
  refine zk dP (Rd) (fun id _=>hC id) (NL _ _ _ _) ?_
  rw [cZ] at hc
  generalize hy:cH (l8[i]::l8.drop (i+1)) (i:Int) lh_0=y
  rw [cH] at hy
  simp only [ze.eta,zX hlt,zG hlt,ac l8 _ hlt,hwr,Tr.val_brT,Tr.val_chkT]
  clear hwr
  try simp only [zG hlt] at hy
  simp only [hcast] at hy
  try simp only [zG hlt] at hc
  try simp only [hcast] at hc
  repeat' (first | with_reducible refine eY hy hc (fun _ hy hc=>?_) (fun _ hy hc=>?_) | with_reducible refine aR hy (fun _ hy=>?_) (fun _ hy=>?_) | with_reducible refine bm hc (fun hc=>?_) | with_reducible refine zr ?_)
  all_goals first | (cases hc; done) | (subst hy; first | (change Reach _ _ _ _ _ _; apply IH <;> first | omega | assumption) | rfl)
theorem Qh {C:cr} (hC:∀ id,C.ρ0 id=none) (l8:List (Sem (Sh.str.pr Sh.expr))) (lh_0:LS) (hc:cZ l8 0 lh_0=true):
  Reach (gO) C 164 (zy Tryz.f164 3) (EZ l8 (l8.length:Int) 0 lh_0) (fun r h=>ae h [Sh.str] r=some (cH l8 0 lh_0,())):=
 Reach.len 8 (Sh.str.pr Sh.expr) l8 rfl fun hl=>WH hC l8 hl _ 0 lh_0 rfl (aE _) hc
def ky (x0:Sem aK.sl):Sem Sh.str:=(cH x0 0 [])
def kz (x0:Sem aK.sl):Bool:=(cZ x0 0 [])
def F95:zD:=wy [aK.sl] [Sh.str] [(162,(fun x=>kz x.1),fun x=>(ky x.1,()))]
theorem zb3:FK 164 F95:=by
 refine kJ (Rd) fun j c g hm x hc C hC=>?_
 simp only [bd,bv] at hm
 obtain ⟨rfl,rfl,rfl⟩:=hm
 replace hc:kz x.1=true:=hc
 unfold kz at hc
 refine zk dP (Rd) (fun id _=>hC id) (zhT x.1) ?_
 generalize hy:ky x.1=y
 unfold ky at hy
 repeat' (first | with_reducible refine eY hy hc (fun _ hy hc=>?_) (fun _ hy hc=>?_) | with_reducible refine aR hy (fun _ hy=>?_) (fun _ hy=>?_) | with_reducible refine bm hc (fun hc=>?_) | with_reducible refine zr ?_)
 all_goals first | (cases hc; done) | (subst hy; first | (change Reach _ _ _ _ _ _; apply Qh hC <;> first | assumption | exact hc) | rfl)

abbrev XS:Nat→zY:=fun j=>if j=5 then { slots:=[1,3,24,25,26] } else if j=10 then { slots:=[1,3,37,38,39] } else { }
abbrev EX (s3:zl) (l24:LS) (i25:Int) (i26:Int) (ja0:TS) (ja1:TS) (ja2:TS) (ja3:LS) (ja4:LC) (ja5:TS) (ja6:LS) (ja7:List (Sem (Sh.str.pr Sh.str))) (ja8:zl) (ja9:Int) (ja10:Int) (ja11:zl) (ja12:zl) (ja13:LX) (ja14:LV) (ja15:List (Sem (Sh.str.pr Sh.expr))) (ja16:zl) (ja17:Int) (ja18:Int) (ja19:zl) (ja20:zl) (ja21:LX) (ja22:TS):St:={ tmps:=(tm 59 [(1,AV.ptr 0 0),(3,AV.str s3),(24,AV.sl Sh.str l24),(25,ai i25),(26,ai i26)]),heap:=[AO.box [AV.str ja0,AV.str ja1,AV.str ja2,AV.sl Sh.str ja3,AV.sl zi ja4,AV.str ja5,AV.sl Sh.str ja6,AV.sl (Sh.str.pr Sh.str) ja7,AV.str ja8,ai ja9,ai ja10,AV.str ja11,AV.str ja12,AV.sl Sh.expr ja13,AV.sl zf ja14,AV.sl (Sh.str.pr Sh.expr) ja15,AV.str ja16,ai ja17,ai ja18,AV.str ja19,AV.str ja20,AV.sl Sh.expr ja21,AV.str ja22]] }
theorem J4:zA (gO).P 159 Tryz.f159 1:=aL (by kernel_rfl)
theorem zhO (x0:Sem zp):rn gO 0 XS Tryz.f159 [zz zp x0] []=Tr.chk (decide ([67,82,69,65,84,69,32,84,65,66,76,69,32].length+length x0.2.1≤1099511627776)) (Tr.chk (decide (length ([67,82,69,65,84,69,32,84,65,66,76,69,32]++x0.2.1)+[32,40,32].length≤1099511627776)) (Tr.chk (iN x0.2.2.2.2.1) (Tr.chk (decide (length ([67,82,69,65,84,69,32,84,65,66,76,69,32]++x0.2.1++[32,40,32])+length (dl x0.2.2.2.2.1)≤1099511627776)) (Tr.chk (decide ([32,44,32,75,69,89,32,40,32].length+length x0.2.2.2.2.2.1≤1099511627776)) (Tr.chk (decide (length ([32,44,32,75,69,89,32,40,32]++x0.2.2.2.2.2.1)+[32,41].length≤1099511627776)) (Tr.chk (decide (length ([67,82,69,65,84,69,32,84,65,66,76,69,32]++x0.2.1++[32,40,32]++dl x0.2.2.2.2.1)+length ([32,44,32,75,69,89,32,40,32]++x0.2.2.2.2.2.1++[32,41])≤1099511627776)) (Tr.ok (zt.head 5 (zy Tryz.f159 5) (EX ([67,82,69,65,84,69,32,84,65,66,76,69,32]++x0.2.1++[32,40,32]++dl x0.2.2.2.2.1++([32,44,32,75,69,89,32,40,32]++x0.2.2.2.2.2.1++[32,41])) x0.2.2.2.2.2.2.1 (↑(length x0.2.2.2.2.2.2.1):Int) 0 x0.1 x0.2.1 x0.2.2.1 x0.2.2.2.1 x0.2.2.2.2.1 x0.2.2.2.2.2.1 x0.2.2.2.2.2.2.1 x0.2.2.2.2.2.2.2.1
 (ze.op x0.2.2.2.2.2.2.2.2.1) (ze.v x0.2.2.2.2.2.2.2.2.1).1 (ze.v x0.2.2.2.2.2.2.2.2.1).2.1 (ze.v x0.2.2.2.2.2.2.2.2.1).2.2 (ze.s x0.2.2.2.2.2.2.2.2.1) (ze.l x0.2.2.2.2.2.2.2.2.1) x0.2.2.2.2.2.2.2.2.2.1 x0.2.2.2.2.2.2.2.2.2.2.1 (ze.op x0.2.2.2.2.2.2.2.2.2.2.2.1) (ze.v x0.2.2.2.2.2.2.2.2.2.2.2.1).1 (ze.v x0.2.2.2.2.2.2.2.2.2.2.2.1).2.1 (ze.v x0.2.2.2.2.2.2.2.2.2.2.2.1).2.2 (ze.s x0.2.2.2.2.2.2.2.2.2.2.2.1) (ze.l x0.2.2.2.2.2.2.2.2.2.2.2.1) x0.2.2.2.2.2.2.2.2.2.2.2.2))))))))):=by kernel_rfl
abbrev xr (s3:zl) (l37:List (Sem (Sh.str.pr Sh.str))) (i38:Int) (i39:Int) (ja0:TS) (ja1:TS) (ja2:TS) (ja3:LS) (ja4:LC) (ja5:TS) (ja6:LS) (ja7:List (Sem (Sh.str.pr Sh.str))) (ja8:zl) (ja9:Int) (ja10:Int) (ja11:zl) (ja12:zl) (ja13:LX) (ja14:LV) (ja15:List (Sem (Sh.str.pr Sh.expr))) (ja16:zl) (ja17:Int) (ja18:Int) (ja19:zl) (ja20:zl) (ja21:LX) (ja22:TS):St:={ tmps:=(tm 59 [(1,AV.ptr 0 0),(3,AV.str s3),(37,AV.sl (Sh.str.pr Sh.str) l37),(38,ai i38),(39,ai i39)]),heap:=[AO.box [AV.str ja0,AV.str ja1,AV.str ja2,AV.sl Sh.str ja3,AV.sl zi ja4,AV.str ja5,AV.sl Sh.str ja6,AV.sl (Sh.str.pr Sh.str) ja7,AV.str ja8,ai ja9,ai ja10,AV.str ja11,AV.str ja12,AV.sl Sh.expr ja13,AV.sl zf ja14,AV.sl (Sh.str.pr Sh.expr) ja15,AV.str ja16,ai ja17,ai ja18,AV.str ja19,AV.str ja20,AV.sl Sh.expr ja21,AV.str ja22]] }
theorem NI (s3:zl) (l24:LS) (i25:Int) (i26:Int) (ja0:TS) (ja1:TS) (ja2:TS) (ja3:LS) (ja4:LC) (ja5:TS) (ja6:LS) (ja7:List (Sem (Sh.str.pr Sh.str))) (ja8:zl) (ja9:Int) (ja10:Int) (ja11:zl) (ja12:zl) (ja13:LX) (ja14:LV) (ja15:List (Sem (Sh.str.pr Sh.expr))) (ja16:zl) (ja17:Int) (ja18:Int) (ja19:zl) (ja20:zl) (ja21:LX) (ja22:TS):rh gO 0 XS Tryz.f159 5 (EX s3 l24 i25 i26 ja0 ja1 ja2 ja3 ja4 ja5 ja6 ja7 ja8 ja9 ja10 ja11 ja12 ja13 ja14 ja15 ja16 ja17 ja18 ja19 ja20 ja21 ja22)=Tr.br (decide (i26 < i25)) (Tr.chk (zF i26 l24.length) (Tr.chk (decide ([32,44,32,85,78,73,81,85,69,32,40,32].length+length (l24.getD i26.toNat (zj Sh.str))≤1099511627776)) (Tr.chk (decide (length ([32,44,32,85,78,73,81,85,69,32,40,32]++l24.getD i26.toNat (zj Sh.str))+[32,41].length≤1099511627776)) (Tr.chk (decide (length s3+length ([32,44,32,85,78,73,81,85,69,32,40,32]++l24.getD i26.toNat (zj Sh.str)++[32,41])≤1099511627776)) (Tr.ok (zt.head 5 (zy Tryz.f159 5) (EX (s3++([32,44,32,85,78,73,81,85,69,32,40,32]++l24.getD i26.toNat (zj Sh.str)++[32,41])) l24 i25
 (IntKind.i64.wrap (i26+1)) ja0 ja1 ja2 ja3 ja4 ja5 ja6 ja7 ja8 ja9 ja10 ja11 ja12 ja13 ja14 ja15 ja16 ja17 ja18 ja19 ja20 ja21 ja22))))))) (Tr.ok (zt.head 10 (zy Tryz.f159 10) (xr s3 ja7 (↑ja7.length:Int) 0 ja0 ja1 ja2 ja3 ja4 ja5 ja6 ja7 ja8 ja9 ja10 ja11 ja12 ja13 ja14 ja15 ja16 ja17 ja18 ja19 ja20 ja21 ja22))):=by kernel_rfl
theorem Ir (s3:zl) (l37:List (Sem (Sh.str.pr Sh.str))) (i38:Int) (i39:Int) (ja0:TS) (ja1:TS) (ja2:TS) (ja3:LS) (ja4:LC) (ja5:TS) (ja6:LS) (ja7:List (Sem (Sh.str.pr Sh.str))) (ja8:zl) (ja9:Int) (ja10:Int) (ja11:zl) (ja12:zl) (ja13:LX) (ja14:LV) (ja15:List (Sem (Sh.str.pr Sh.expr))) (ja16:zl) (ja17:Int) (ja18:Int) (ja19:zl) (ja20:zl) (ja21:LX) (ja22:TS):rh gO 0 XS Tryz.f159 10 (xr s3 l37 i38 i39 ja0 ja1 ja2 ja3 ja4 ja5 ja6 ja7 ja8 ja9 ja10 ja11 ja12 ja13 ja14 ja15 ja16 ja17 ja18 ja19 ja20 ja21 ja22)=Tr.br (decide (i39 < i38)) (Tr.chk (zF i39 l37.length) (Tr.chk (decide ([32,44,32,82,69,70,69,82,69,78,67,69,83,32,40,32].length+length (l37.getD i39.toNat (zj (Sh.str.pr Sh.str))).1≤1099511627776)) (Tr.chk (decide (length ([32,44,32,82,69,70,69,82,69,78,67,69,83,32,40,32]++(l37.getD i39.toNat (zj (Sh.str.pr Sh.str))).1)+[32,41,32].length≤1099511627776)) (Tr.chk (decide (length ([32,44,32,82,69,70,69,82,69,78,67,69,83,32,40,32]++(l37.getD i39.toNat (zj (Sh.str.pr Sh.str))).1++[32,41,32])+length (l37.getD i39.toNat (zj (Sh.str.pr Sh.str))).2≤1099511627776)) (Tr.chk (decide (length s3+length
 ([32,44,32,82,69,70,69,82,69,78,67,69,83,32,40,32]++(l37.getD i39.toNat (zj (Sh.str.pr Sh.str))).1++[32,41,32]++(l37.getD i39.toNat (zj (Sh.str.pr Sh.str))).2)≤1099511627776)) (Tr.ok (zt.head 10 (zy Tryz.f159 10) (xr (s3++([32,44,32,82,69,70,69,82,69,78,67,69,83,32,40,32]++(l37.getD i39.toNat (zj (Sh.str.pr Sh.str))).1++[32,41,32]++(l37.getD i39.toNat (zj (Sh.str.pr Sh.str))).2)) l37 i38 (IntKind.i64.wrap (i39+1)) ja0 ja1 ja2 ja3 ja4 ja5 ja6 ja7 ja8 ja9 ja10 ja11 ja12 ja13 ja14 ja15 ja16 ja17 ja18 ja19 ja20 ja21 ja22)))))))) (Tr.chk (kO [32,44,32] (ze.mk ja8 (ja9,ja10,ja11) ja12 ja13)) (Tr.chk (decide (length s3+length (hP [32,44,32] (ze.mk ja8 (ja9,ja10,ja11) ja12 ja13))≤1099511627776)) (Tr.chk (decide (length (s3++hP [32,44,32] (ze.mk ja8 (ja9,ja10,ja11) ja12 ja13))+[32,41].length≤1099511627776)) (Tr.ok (zt.ret (AV.str (s3++hP [32,44,32] (ze.mk ja8 (ja9,ja10,ja11) ja12 ja13)++[32,41])) []))))):=by kernel_rfl
def cE (ja0:TS) (ja1:TS) (ja2:TS) (ja3:LS) (ja4:LC) (ja5:TS) (ja6:LS) (ja7:List (Sem (Sh.str.pr Sh.str))) (ja8:zl) (ja9:Int) (ja10:Int) (ja11:zl) (ja12:zl) (ja13:LX) (ja14:LV) (ja15:List (Sem (Sh.str.pr Sh.expr))) (ja16:zl) (ja17:Int) (ja18:Int) (ja19:zl) (ja20:zl) (ja21:LX) (ja22:TS):List (Sem (Sh.str.pr Sh.str))→Int→zl→Sem Sh.str
 | [],_,s3=>(s3++hP [32,44,32] (ze.mk ja8 (ja9,ja10,ja11) ja12 ja13)++[32,41])
 | x::r,i39,s3=>(cE ja0 ja1 ja2 ja3 ja4 ja5 ja6 ja7 ja8 ja9 ja10 ja11 ja12 ja13 ja14 ja15 ja16 ja17 ja18 ja19
 ja20 ja21 ja22 r (i39+1) (s3++([32,44,32,82,69,70,69,82,69,78,67,69,83,32,40,32]++x.1++[32,41,32]++x.2)))
def cT (ja0:TS) (ja1:TS) (ja2:TS) (ja3:LS) (ja4:LC) (ja5:TS) (ja6:LS) (ja7:List (Sem (Sh.str.pr Sh.str))) (ja8:zl) (ja9:Int) (ja10:Int) (ja11:zl) (ja12:zl) (ja13:LX) (ja14:LV) (ja15:List (Sem (Sh.str.pr Sh.expr))) (ja16:zl) (ja17:Int) (ja18:Int) (ja19:zl) (ja20:zl) (ja21:LX) (ja22:TS):List (Sem (Sh.str.pr Sh.str))→Int→zl→Bool
 | [],_,s3=>(if kO [32,44,32] (ze.mk ja8 (ja9,ja10,ja11) ja12 ja13)=true then
 if decide (length s3+length (hP [32,44,32] (ze.mk ja8 (ja9,ja10,ja11) ja12 ja13))≤1099511627776)=true then
  if
    decide (length (s3++hP [32,44,32] (ze.mk ja8 (ja9,ja10,ja11) ja12 ja13))+[32,41].length≤1099511627776)=
     true then
   true
  else false
 else false
else false)
 | x::r,i39,s3=>(if decide ([32,44,32,82,69,70,69,82,69,78,67,69,83,32,40,32].length+length x.1≤1099511627776)=true then
 if decide (length ([32,44,32,82,69,70,69,82,69,78,67,69,83,32,40,32]++x.1)+[32,41,32].length≤1099511627776)=true then
  if
    decide (length ([32,44,32,82,69,70,69,82,69,78,67,69,83,32,40,32]++x.1++[32,41,32])+length x.2≤1099511627776)=
     true then
   if
     decide
       (length s3+length ([32,44,32,82,69,70,69,82,69,78,67,69,83,32,40,32]++x.1++[32,41,32]++x.2)≤
        1099511627776)=
      true then
    cT ja0 ja1 ja2 ja3 ja4 ja5 ja6 ja7 ja8 ja9 ja10 ja11 ja12 ja13 ja14 ja15 ja16 ja17
     ja18 ja19 ja20 ja21 ja22 r (i39+1)
     (s3++([32,44,32,82,69,70,69,82,69,78,67,69,83,32,40,32]++x.1++[32,41,32]++x.2))
   else false
  else false
 else false
else false)
theorem Qf {C:cr} (hC:∀ id,C.ρ0 id=none) (ja0:TS) (ja1:TS) (ja2:TS) (ja3:LS) (ja4:LC) (ja5:TS) (ja6:LS) (ja7:List (Sem (Sh.str.pr Sh.str))) (ja8:zl) (ja9:Int) (ja10:Int) (ja11:zl) (ja12:zl) (ja13:LX) (ja14:LV) (ja15:List (Sem (Sh.str.pr Sh.expr))) (ja16:zl) (ja17:Int) (ja18:Int) (ja19:zl) (ja20:zl) (ja21:LX) (ja22:TS) (l37:List (Sem (Sh.str.pr Sh.str))) (hl:l37.length≤zE):∀ (m i:Nat) (s3:zl),l37.length - i=m→i≤l37.length→cT ja0 ja1 ja2 ja3 ja4 ja5 ja6 ja7 ja8 ja9 ja10 ja11 ja12 ja13 ja14 ja15 ja16 ja17 ja18 ja19 ja20 ja21 ja22 (l37.drop i) i s3=true→
  Reach (gO) C 159 (zy Tryz.f159 10) (xr s3 l37 (l37.length:Int) (i:Int) ja0 ja1 ja2 ja3 ja4 ja5 ja6 ja7 ja8 ja9 ja10 ja11 ja12 ja13 ja14 ja15 ja16 ja17 ja18 ja19 ja20 ja21 ja22) (fun r h=>ae h [Sh.str] r=some (cE ja0 ja1 ja2 ja3 ja4 ja5 ja6 ja7 ja8 ja9 ja10 ja11 ja12 ja13 ja14 ja15 ja16 ja17 ja18 ja19 ja20 ja21 ja22 (l37.drop i) i s3,())):=by
 intro m
 induction m with
 | zero=>
  intro i s3 hm hi hc
  obtain rfl:i=l37.length:=by omega
  rw [dj] at hc ⊢
  refine zk dP (J4) (fun id _=>hC id) (Ir _ _ _ _ _ _ _ _ _ _ _ _ _ _ _ _ _ _ _ _ _ _ _ _ _ _ _) ?_
  rw [cT] at hc
  generalize hy:cE ja0 ja1 ja2 ja3 ja4 ja5 ja6 ja7 ja8 ja9 ja10 ja11 ja12 ja13 ja14 ja15 ja16 ja17 ja18 ja19 ja20 ja21 ja22 [] _ s3=y
  rw [cE] at hy
  simp only [ag,Tr.val_brF]
  repeat' (first | with_reducible refine eY hy hc (fun _ hy hc=>?_) (fun _ hy hc=>?_) | with_reducible refine aR hy (fun _ hy=>?_) (fun _ hy=>?_) | with_reducible refine bm hc (fun hc=>?_) | with_reducible refine zr ?_)
  all_goals first | (cases hc; done) | (subst hy; first | (change Reach _ _ _ _ _ _; apply Bh hC <;> first | assumption | exact hc) | rfl)
 | succ m IH=>
  intro i s3 hm hi hc
  have hlt:i < l37.length:=by omega
  have IH:=IH (i+1)
  have hcast:((i:Int)+1)=((i+1:Nat):Int):=by omega
  have hwr:=zH i (by omega)
  rw [dB hlt] at hc ⊢
  refine zk dP (J4) (fun id _=>hC id) (Ir _ _ _ _ _ _ _ _ _ _ _ _ _ _ _ _ _ _ _ _ _ _ _ _ _ _ _) ?_
  rw [cT] at hc
  generalize hy:cE ja0 ja1 ja2 ja3 ja4 ja5 ja6 ja7 ja8 ja9 ja10 ja11 ja12 ja13 ja14 ja15 ja16 ja17 ja18 ja19 ja20 ja21 ja22 (l37[i]::l37.drop (i+1)) (i:Int) s3=y
  rw [cE] at hy
  simp only [zX hlt,zG hlt,ac l37 _ hlt,hwr,Tr.val_brT,Tr.val_chkT]
  clear hwr
  try simp only [zG hlt] at hy
  simp only [hcast] at hy
  try simp only [zG hlt] at hc
  try simp only [hcast] at hc
  repeat' (first | with_reducible refine eY hy hc (fun _ hy hc=>?_) (fun _ hy hc=>?_) | with_reducible refine aR hy (fun _ hy=>?_) (fun _ hy=>?_) | with_reducible refine bm hc (fun hc=>?_) | with_reducible refine zr ?_)
  all_goals first | (cases hc; done) | (subst hy; first | (change Reach _ _ _ _ _ _; apply IH <;> first | omega | assumption) | (change Reach _ _ _ _ _ _; apply Bh hC <;> first | assumption | exact hc) | rfl)
theorem uw {C:cr} (hC:∀ id,C.ρ0 id=none) (ja0:TS) (ja1:TS) (ja2:TS) (ja3:LS) (ja4:LC) (ja5:TS) (ja6:LS) (ja7:List (Sem (Sh.str.pr Sh.str))) (ja8:zl) (ja9:Int) (ja10:Int) (ja11:zl) (ja12:zl) (ja13:LX) (ja14:LV) (ja15:List (Sem (Sh.str.pr Sh.expr))) (ja16:zl) (ja17:Int) (ja18:Int) (ja19:zl) (ja20:zl) (ja21:LX) (ja22:TS) (l37:List (Sem (Sh.str.pr Sh.str))) (s3:zl) (hc:cT ja0 ja1 ja2 ja3 ja4 ja5 ja6 ja7 ja8 ja9 ja10 ja11 ja12 ja13 ja14 ja15 ja16 ja17 ja18 ja19 ja20 ja21 ja22 l37 0 s3=true):
  Reach (gO) C 159 (zy Tryz.f159 10) (xr s3 l37 (l37.length:Int) 0 ja0 ja1 ja2 ja3 ja4 ja5 ja6 ja7 ja8 ja9 ja10 ja11 ja12 ja13 ja14 ja15 ja16 ja17 ja18 ja19 ja20 ja21 ja22) (fun r h=>ae h [Sh.str] r=some (cE ja0 ja1 ja2 ja3 ja4 ja5 ja6 ja7 ja8 ja9 ja10 ja11 ja12 ja13 ja14 ja15 ja16 ja17 ja18 ja19 ja20 ja21 ja22 l37 0 s3,())):=
 Reach.len 37 (Sh.str.pr Sh.str) l37 rfl fun hl=>Qf hC ja0 ja1 ja2 ja3 ja4 ja5 ja6 ja7 ja8 ja9 ja10 ja11 ja12 ja13 ja14 ja15 ja16 ja17 ja18 ja19 ja20 ja21 ja22 l37 hl _ 0 s3 rfl (aE _) hc
def dm (ja0:TS) (ja1:TS) (ja2:TS) (ja3:LS) (ja4:LC) (ja5:TS) (ja6:LS) (ja7:List (Sem (Sh.str.pr Sh.str))) (ja8:zl) (ja9:Int) (ja10:Int) (ja11:zl) (ja12:zl) (ja13:LX) (ja14:LV) (ja15:List (Sem (Sh.str.pr Sh.expr))) (ja16:zl) (ja17:Int) (ja18:Int) (ja19:zl) (ja20:zl) (ja21:LX) (ja22:TS):List (Sem Sh.str)→Int→zl→Sem Sh.str
 | [],_,s3=>(cE ja0 ja1 ja2 ja3 ja4 ja5 ja6 ja7 ja8 ja9 ja10 ja11 ja12 ja13 ja14 ja15 ja16 ja17 ja18 ja19
 ja20 ja21 ja22 ja7 0 s3)
 | x::r,i26,s3=>(dm ja0 ja1 ja2 ja3 ja4 ja5 ja6 ja7 ja8 ja9 ja10 ja11 ja12 ja13 ja14 ja15 ja16 ja17 ja18 ja19
 ja20 ja21 ja22 r (i26+1) (s3++([32,44,32,85,78,73,81,85,69,32,40,32]++x++[32,41])))
def dD (ja0:TS) (ja1:TS) (ja2:TS) (ja3:LS) (ja4:LC) (ja5:TS) (ja6:LS) (ja7:List (Sem (Sh.str.pr Sh.str))) (ja8:zl) (ja9:Int) (ja10:Int) (ja11:zl) (ja12:zl) (ja13:LX) (ja14:LV) (ja15:List (Sem (Sh.str.pr Sh.expr))) (ja16:zl) (ja17:Int) (ja18:Int) (ja19:zl) (ja20:zl) (ja21:LX) (ja22:TS):List (Sem Sh.str)→Int→zl→Bool
 | [],_,s3=>(cT ja0 ja1 ja2 ja3 ja4 ja5 ja6 ja7 ja8 ja9 ja10 ja11 ja12 ja13 ja14 ja15 ja16 ja17 ja18
 ja19 ja20 ja21 ja22 ja7 0 s3)
 | x::r,i26,s3=>(if decide ([32,44,32,85,78,73,81,85,69,32,40,32].length+length x≤1099511627776)=true then
 if decide (length ([32,44,32,85,78,73,81,85,69,32,40,32]++x)+[32,41].length≤1099511627776)=true then
  if decide (length s3+length ([32,44,32,85,78,73,81,85,69,32,40,32]++x++[32,41])≤1099511627776)=true then
   dD ja0 ja1 ja2 ja3 ja4 ja5 ja6 ja7 ja8 ja9 ja10 ja11 ja12 ja13 ja14 ja15 ja16 ja17 ja18
    ja19 ja20 ja21 ja22 r (i26+1) (s3++([32,44,32,85,78,73,81,85,69,32,40,32]++x++[32,41]))
  else false
 else false
else false)
theorem WF {C:cr} (hC:∀ id,C.ρ0 id=none) (ja0:TS) (ja1:TS) (ja2:TS) (ja3:LS) (ja4:LC) (ja5:TS) (ja6:LS) (ja7:List (Sem (Sh.str.pr Sh.str))) (ja8:zl) (ja9:Int) (ja10:Int) (ja11:zl) (ja12:zl) (ja13:LX) (ja14:LV) (ja15:List (Sem (Sh.str.pr Sh.expr))) (ja16:zl) (ja17:Int) (ja18:Int) (ja19:zl) (ja20:zl) (ja21:LX) (ja22:TS) (l24:LS) (hl:l24.length≤zE):∀ (m i:Nat) (s3:zl),l24.length - i=m→i≤l24.length→dD ja0 ja1 ja2 ja3 ja4 ja5 ja6 ja7 ja8 ja9 ja10 ja11 ja12 ja13 ja14 ja15 ja16 ja17 ja18 ja19 ja20 ja21 ja22 (l24.drop i) i s3=true→
  Reach (gO) C 159 (zy Tryz.f159 5) (EX s3 l24 (l24.length:Int) (i:Int) ja0 ja1 ja2 ja3 ja4 ja5 ja6 ja7 ja8 ja9 ja10 ja11 ja12 ja13 ja14 ja15 ja16 ja17 ja18 ja19 ja20 ja21 ja22) (fun r h=>ae h [Sh.str] r=some (dm ja0 ja1 ja2 ja3 ja4 ja5 ja6 ja7 ja8 ja9 ja10 ja11 ja12 ja13 ja14 ja15 ja16 ja17 ja18 ja19 ja20 ja21 ja22 (l24.drop i) i s3,())):=by
 intro m
 induction m with
 | zero=>
  intro i s3 hm hi hc
  obtain rfl:i=l24.length:=by omega
  rw [dj] at hc ⊢
  refine zk dP (J4) (fun id _=>hC id) (NI _ _ _ _ _ _ _ _ _ _ _ _ _ _ _ _ _ _ _ _ _ _ _ _ _ _ _) ?_
  rw [dD] at hc
  generalize hy:dm ja0 ja1 ja2 ja3 ja4 ja5 ja6 ja7 ja8 ja9 ja10 ja11 ja12 ja13 ja14 ja15 ja16 ja17 ja18 ja19 ja20 ja21 ja22 [] _ s3=y
  rw [dm] at hy
  simp only [ag,Tr.val_brF]
  repeat' (first | with_reducible refine eY hy hc (fun _ hy hc=>?_) (fun _ hy hc=>?_) | with_reducible refine aR hy (fun _ hy=>?_) (fun _ hy=>?_) | with_reducible refine bm hc (fun hc=>?_) | with_reducible refine zr ?_)
  all_goals first | (cases hc; done) | (subst hy; first | (change Reach _ _ _ _ _ _; apply uw hC <;> first | assumption | exact hc) | rfl)
 | succ m IH=>
  intro i s3 hm hi hc
  have hlt:i < l24.length:=by omega
  have IH:=IH (i+1)
  have hcast:((i:Int)+1)=((i+1:Nat):Int):=by omega
  have hwr:=zH i (by omega)
  rw [dB hlt] at hc ⊢
  refine zk dP (J4) (fun id _=>hC id) (NI _ _ _ _ _ _ _ _ _ _ _ _ _ _ _ _ _ _ _ _ _ _ _ _ _ _ _) ?_
  rw [dD] at hc
  generalize hy:dm ja0 ja1 ja2 ja3 ja4 ja5 ja6 ja7 ja8 ja9 ja10 ja11 ja12 ja13 ja14 ja15 ja16 ja17 ja18 ja19 ja20 ja21 ja22 (l24[i]::l24.drop (i+1)) (i:Int) s3=y
  rw [dm] at hy
  simp only [zX hlt,zG hlt,ac l24 _ hlt,hwr,Tr.val_brT,Tr.val_chkT]
  clear hwr
  try simp only [zG hlt] at hy
  simp only [hcast] at hy
  try simp only [zG hlt] at hc
  try simp only [hcast] at hc
  repeat' (first | with_reducible refine eY hy hc (fun _ hy hc=>?_) (fun _ hy hc=>?_) | with_reducible refine aR hy (fun _ hy=>?_) (fun _ hy=>?_) | with_reducible refine bm hc (fun hc=>?_) | with_reducible refine zr ?_)
  all_goals first | (cases hc; done) | (subst hy; first | (change Reach _ _ _ _ _ _; apply IH <;> first | omega | assumption) | (change Reach _ _ _ _ _ _; apply uw hC <;> first | assumption | exact hc) | rfl)
theorem Bh {C:cr} (hC:∀ id,C.ρ0 id=none) (ja0:TS) (ja1:TS) (ja2:TS) (ja3:LS) (ja4:LC) (ja5:TS) (ja6:LS) (ja7:List (Sem (Sh.str.pr Sh.str))) (ja8:zl) (ja9:Int) (ja10:Int) (ja11:zl) (ja12:zl) (ja13:LX) (ja14:LV) (ja15:List (Sem (Sh.str.pr Sh.expr))) (ja16:zl) (ja17:Int) (ja18:Int) (ja19:zl) (ja20:zl) (ja21:LX) (ja22:TS) (l24:LS) (s3:zl) (hc:dD ja0 ja1 ja2 ja3 ja4 ja5 ja6 ja7 ja8 ja9 ja10 ja11 ja12 ja13 ja14 ja15 ja16 ja17 ja18 ja19 ja20 ja21 ja22 l24 0 s3=true):
  Reach (gO) C 159 (zy Tryz.f159 5) (EX s3 l24 (l24.length:Int) 0 ja0 ja1 ja2 ja3 ja4 ja5 ja6 ja7 ja8 ja9 ja10 ja11 ja12 ja13 ja14 ja15 ja16 ja17 ja18 ja19 ja20 ja21 ja22) (fun r h=>ae h [Sh.str] r=some (dm ja0 ja1 ja2 ja3 ja4 ja5 ja6 ja7 ja8 ja9 ja10 ja11 ja12 ja13 ja14 ja15 ja16 ja17 ja18 ja19 ja20 ja21 ja22 l24 0 s3,())):=
 Reach.len 24 (Sh.str) l24 rfl fun hl=>WF hC ja0 ja1 ja2 ja3 ja4 ja5 ja6 ja7 ja8 ja9 ja10 ja11 ja12 ja13 ja14 ja15 ja16 ja17 ja18 ja19 ja20 ja21 ja22 l24 hl _ 0 s3 rfl (aE _) hc
def mW (x0:Sem zp):Sem Sh.str:=(dm x0.1 x0.2.1 x0.2.2.1 x0.2.2.2.1 x0.2.2.2.2.1 x0.2.2.2.2.2.1 x0.2.2.2.2.2.2.1 x0.2.2.2.2.2.2.2.1 (ze.op x0.2.2.2.2.2.2.2.2.1) (ze.v x0.2.2.2.2.2.2.2.2.1).1 (ze.v x0.2.2.2.2.2.2.2.2.1).2.1 (ze.v x0.2.2.2.2.2.2.2.2.1).2.2 (ze.s x0.2.2.2.2.2.2.2.2.1) (ze.l x0.2.2.2.2.2.2.2.2.1) x0.2.2.2.2.2.2.2.2.2.1 x0.2.2.2.2.2.2.2.2.2.2.1 (ze.op x0.2.2.2.2.2.2.2.2.2.2.2.1) (ze.v x0.2.2.2.2.2.2.2.2.2.2.2.1).1 (ze.v x0.2.2.2.2.2.2.2.2.2.2.2.1).2.1 (ze.v x0.2.2.2.2.2.2.2.2.2.2.2.1).2.2 (ze.s x0.2.2.2.2.2.2.2.2.2.2.2.1) (ze.l x0.2.2.2.2.2.2.2.2.2.2.2.1) x0.2.2.2.2.2.2.2.2.2.2.2.2 x0.2.2.2.2.2.2.1 0 ([67,82,69,65,84,69,32,84,65,66,76,69,32]++x0.2.1++[32,40,32]++dl x0.2.2.2.2.1++([32,44,32,75,69,89,32,40,32]++x0.2.2.2.2.2.1++[32,41])))
def ma (x0:Sem zp):Bool:=(if decide ([67,82,69,65,84,69,32,84,65,66,76,69,32].length+length x0.2.1≤1099511627776)=true then if decide (length ([67,82,69,65,84,69,32,84,65,66,76,69,32]++x0.2.1)+[32,40,32].length≤1099511627776)=true then if iN x0.2.2.2.2.1=true then if decide (length ([67,82,69,65,84,69,32,84,65,66,76,69,32]++x0.2.1++[32,40,32])+length (dl x0.2.2.2.2.1)≤1099511627776)=true then if decide ([32,44,32,75,69,89,32,40,32].length+length x0.2.2.2.2.2.1≤1099511627776)=true then if decide (length ([32,44,32,75,69,89,32,40,32]++x0.2.2.2.2.2.1)+[32,41].length≤1099511627776)=true then if decide (length ([67,82,69,65,84,69,32,84,65,66,76,69,32]++x0.2.1++[32,40,32]++dl x0.2.2.2.2.1)+length ([32,44,32,75,69,89,32,40,32]++x0.2.2.2.2.2.1++[32,41])≤1099511627776)=true then dD x0.1 x0.2.1 x0.2.2.1 x0.2.2.2.1 x0.2.2.2.2.1 x0.2.2.2.2.2.1 x0.2.2.2.2.2.2.1 x0.2.2.2.2.2.2.2.1 (ze.op x0.2.2.2.2.2.2.2.2.1) (ze.v x0.2.2.2.2.2.2.2.2.1).1 (ze.v x0.2.2.2.2.2.2.2.2.1).2.1 (ze.v x0.2.2.2.2.2.2.2.2.1).2.2 (ze.s x0.2.2.2.2.2.2.2.2.1) (ze.l x0.2.2.2.2.2.2.2.2.1) x0.2.2.2.2.2.2.2.2.2.1 x0.2.2.2.2.2.2.2.2.2.2.1 (ze.op x0.2.2.2.2.2.2.2.2.2.2.2.1) (ze.v x0.2.2.2.2.2.2.2.2.2.2.2.1).1 (ze.v x0.2.2.2.2.2.2.2.2.2.2.2.1).2.1
 (ze.v x0.2.2.2.2.2.2.2.2.2.2.2.1).2.2 (ze.s x0.2.2.2.2.2.2.2.2.2.2.2.1) (ze.l x0.2.2.2.2.2.2.2.2.2.2.2.1) x0.2.2.2.2.2.2.2.2.2.2.2.2 x0.2.2.2.2.2.2.1 0 ([67,82,69,65,84,69,32,84,65,66,76,69,32]++x0.2.1++[32,40,32]++dl x0.2.2.2.2.1++([32,44,32,75,69,89,32,40,32]++x0.2.2.2.2.2.1++[32,41])) else false else false else false else false else false else false else false)
def F90:zD:=zC [zp] [Sh.str] (fun x=>ma x.1) fun x=>(mW x.1,())
theorem zbY:FK 159 F90:=by
 refine zM (J4) fun x hc C hC=>?_
 unfold ma at hc
 refine zk dP (J4) (fun id _=>hC id) (zhO x.1) ?_
 generalize hy:mW x.1=y
 unfold mW at hy
 try simp only [ze.eta,zn]
 repeat' (first | with_reducible refine eY hy hc (fun _ hy hc=>?_) (fun _ hy hc=>?_) | with_reducible refine aR hy (fun _ hy=>?_) (fun _ hy=>?_) | with_reducible refine bm hc (fun hc=>?_) | with_reducible refine zr ?_)
 all_goals first | (cases hc; done) | (subst hy; first | (change Reach _ _ _ _ _ _; apply Bh hC <;> first | assumption | exact hc) | (change Reach _ _ _ _ _ _; apply uw hC <;> first | assumption | exact hc) | rfl)

noncomputable def yS:=gO.addL [(150,F81),(164,F95),(159,F90)]
theorem qW:zm yS:=dP.addL <| fc zbO <| fc zb3 <| fc zbY gZ
open Go

inductive CP where
 | d (s:Sh)
 | nil
 | vec (e:Sh)

@[reducible] def zu:List CP→Type
 | []=>Unit
 | .d s::r=>Sem s×zu r
 | .nil::r=>zu r
 | .vec e::r=>List (Sem e)×zu r

def fI:(n:Nat)→(ps:List CP)→zu ps→List AV
 | _,[],_=>[]
 | n,.d s::r,y=>zo s y.1++fI n r y.2
 | n,.nil::r,y=>.nils::fI n r y
 | n,.vec _::r,y=>.vec n::fI (n+1) r y.2

def fJ:(ps:List CP)→zu ps→List AO
 | [],_=>[]
 | .d _::r,y=>fJ r y.2
 | .nil::r,y=>fJ r y
 | .vec e::r,y=>.vec e y.1::fJ r y.2

def bT (ps:List CP) (y:zu ps):List AO:=.box (fI 1 ps y)::fJ ps y

def aC:List CP→Nat
 | []=>0
 | .vec _::r=>aC r+1
 | _::r=>aC r

theorem bw:∀ (ps:List CP) (y:zu ps),(fJ ps y).length=aC ps
 | [],_=>rfl
 | .d _::r,y=>bw r y.2
 | .nil::r,y=>bw r y
 | .vec _::r,y=>congrArg (· + 1) (bw r y.2)

def cg (hp:Nat→AO):(n:Nat)→(ps:List CP)→List AV→Option (zu ps)
 | _,[],[]=>some ()
 | n,.d s::r,cs=>match bX (fun _=>.dead) s cs with
  | some (x,cs')=>match cg hp n r cs' with
   | some y=>some (x,y)
   | none=>none
  | none=>none
 | n,.nil::r,.nils::cs=>cg hp n r cs
 | n,.vec e::r,.vec id::cs=>if id=n then match hp id with
   | .vec e' l=>if h:e'=e then match cg hp (n+1) r cs with
     | some y=>some (h▸l,y)
     | none=>none
    else none
   | _=>none
  else none
 | _,_,_=>none

section
variable {w:World} {U:Nat→Prop} {ρ:Nat→Option Value}

theorem cu.app {a b:List AV} {va vb:List Value} (h1:cu w U ρ a va) (h2:cu w U ρ b vb):cu w U ρ (a++b) (va++vb) where
 len:=by simp [h1.len,h2.len]
 rv:=by
  intro j c v hc hv
  by_cases hj:j < a.length
  ·rw [jK hj] at hc
   rw [jK (by rw [← h1.len]; exact hj)] at hv
   exact h1.rv j c v hc hv
  ·rw [kM (by omega)] at hc
   rw [kM (by rw [← h1.len]; omega),← h1.len] at hv
   exact h2.rv _ c v hc hv

theorem cu.tail {a:AV} {l:List AV} {v:Value} {vs:List Value} (h:cu w U ρ (a::l) (v::vs)):cu w U ρ l vs:=
 ⟨by have:=h.len; simpa using this,fun j c x hc hx=>h.rv (j+1) c x (by simpa using hc) (by simpa using hx)⟩

theorem cu.consH {a:AV} {l:List AV} {v:Value} {vs:List Value} (h1:Rv w U ρ a v) (h2:cu w U ρ l vs):cu w U ρ (a::l) (v::vs) where
 len:=by simp [h2.len]
 rv:=by
  intro j c x hc hx
  cases j with
  | zero=>simp at hc hx; subst hc; subst hx; exact h1
  | succ j=>exact h2.rv j c x (by simpa using hc) (by simpa using hx)

theorem ep {hp:Nat→AO}:∀ (ps:List CP) (n:Nat) (cs:List AV) (y:zu ps) (vals:List Value),cg hp n ps cs=some y→cu w U ρ cs vals→
  cu w U ρ (fI n ps y) vals∧∀ (j:Nat) o,(fJ ps y)[j]?=some o→hp (n+j)=o
 | [],n,[],y,vals,h,hr=>⟨hr,by simp [fJ]⟩
 | [],n,_::_,y,vals,h,hr=>by simp [cg] at h
 | .d s::r,n,cs,y,vals,h,hr=>by
  unfold cg at h
  split at h
  ·rename_i x cs' hi
   split at h
   ·rename_i y' hy
    cases h
    have hk:=gz (w:=w) (U:=U) (U':=U) (ρ:=ρ) (hp:=fun _=>.dead) (fun _ h=>h) s cs x cs' (fun j=>vals.getD j undef) hi
     (fun j c hc=>by
      have hlt:j < vals.length:=by rw [← hr.len]; exact (bP.1 hc).1
      have:=hr.rv j c vals[j] hc (zI hlt)
      simpa [getD,zI hlt] using this)
     (fun id _=>⟨trivial,fun b hb=>by simp [zO,AO.owns] at hb⟩)
    obtain ⟨k1,k2,k3⟩:=hk
    have hdrop:cu w U ρ cs' (vals.drop s.size):=by
     refine ⟨by rw [k2]; simp [hr.len],fun j c v hc hv=>?_⟩
     rw [k2,nP] at hc
     rw [nP] at hv
     exact hr.rv _ c v hc hv
    obtain ⟨i1,i2⟩:=ep r n cs' y' (vals.drop s.size) hy hdrop
    refine ⟨?_,i2⟩
    have htake:cu w U ρ (zo s x) (vals.take s.size):=by
     refine ⟨by rw [zL]; have:=hr.len; simp; omega,fun j c v hc hv=>?_⟩
     have hj:j < s.size:=by rw [← zL s x]; exact (bP.1 hc).1
     rw [yA,if_pos hj] at hv
     have:=k3 j c hc
     simpa [getD,hv] using this
    have:=htake.app i1
    rw [List.take_append_drop] at this
    exact this
   ·cases h
  ·cases h
 | .nil::r,n,.nils::cs,y,vals,h,hr=>by
  match vals,hr with
  | [],hr=>have:=hr.len; simp at this
  | v::vs,hr=>
   have hv:=hr.rv 0 _ v rfl rfl
   obtain ⟨i1,i2⟩:=ep r n cs y vs h hr.tail
   exact ⟨cu.consH hv i1,i2⟩
 | .vec e::r,n,.vec id::cs,y,vals,h,hr=>by
  match vals,hr with
  | [],hr=>have:=hr.len; simp at this
  | v :: vs,hr=>
   have hv:=hr.rv 0 _ v rfl rfl
   unfold cg at h
   split at h
   ·rename_i hid
    subst hid
    split at h
    ·rename_i e' l ho
     split at h
     ·rename_i he
      subst he
      split at h
      ·rename_i y' hy
       cases h
       obtain ⟨i1,i2⟩:=ep r (id+1) cs y' vs hy hr.tail
       refine ⟨cu.consH hv i1,fun j o hj=>?_⟩
       cases j with
       | zero=>simp [fJ] at hj; subst hj; exact ho
       | succ j=>
        have:=i2 j o (by simpa [fJ] using hj)
        rw [← this]
        congr 1
        omega
      ·cases h
     ·cases h
    ·cases h
   ·cases h
 | .nil::_,_,[],_,_,h,_=>by simp [cg] at h
 | .vec _::_,_,[],_,_,h,_=>by simp [cg] at h
 | .nil::_,_,.any::_,_,_,h,_ | .nil::_,_,.kb _::_,_,_,h,_ | .nil::_,_,.bool _::_,_,_,h,_ | .nil::_,_,.int _ _::_,_,_,h,_ | .nil::_,_,.str _::_,_,_,h,_
 | .nil::_,_,.sl _ _::_,_,_,h,_ | .nil::_,_,.vec _::_,_,_,h,_ | .nil::_,_,.ptr _ _::_,_,_,h,_ | .nil::_,_,.vptr _ _ _ _::_,_,_,h,_ | .nil::_,_,.eptr _ _::_,_,_,h,_
 | .nil::_,_,.nilp::_,_,_,h,_ | .nil::_,_,.agg _::_,_,_,h,_ | .nil::_,_,.tup _::_,_,_,h,_ | .nil::_,_,.clo _ _ _::_,_,_,h,_ | .nil::_,_,.nilf::_,_,_,h,_
 | .nil::_,_,.mp _::_,_,_,h,_ | .nil::_,_,.ifc _::_,_,_,h,_ | .nil::_,_,.tab _ _::_,_,_,h,_ | .nil::_,_,.gint::_,_,_,h,_ | .nil::_,_,.vsuf _ _ _::_,_,_,h,_=>by simp [cg] at h
 | .vec _::_,_,.any::_,_,_,h,_ | .vec _::_,_,.kb _::_,_,_,h,_ | .vec _::_,_,.bool _::_,_,_,h,_ | .vec _::_,_,.int _ _::_,_,_,h,_ | .vec _::_,_,.str _::_,_,_,h,_
 | .vec _::_,_,.sl _ _::_,_,_,h,_ | .vec _::_,_,.nils::_,_,_,h,_ | .vec _::_,_,.ptr _ _::_,_,_,h,_ | .vec _::_,_,.vptr _ _ _ _::_,_,_,h,_ | .vec _::_,_,.eptr _ _::_,_,_,h,_
 | .vec _::_,_,.nilp::_,_,_,h,_ | .vec _::_,_,.agg _::_,_,_,h,_ | .vec _::_,_,.tup _::_,_,_,h,_ | .vec _::_,_,.clo _ _ _::_,_,_,h,_ | .vec _::_,_,.nilf::_,_,_,h,_
 | .vec _::_,_,.mp _::_,_,_,h,_ | .vec _::_,_,.ifc _::_,_,_,h,_ | .vec _::_,_,.tab _ _::_,_,_,h,_ | .vec _::_,_,.gint::_,_,_,h,_ | .vec _::_,_,.vsuf _ _ _::_,_,_,h,_=>by simp [cg] at h
end

theorem gI.box {C:cr} {w:World} {U:Nat→Prop} {ρ:Nat→Option Value} {cs:List AV} {os:List AO} {ps:List CP} {y:zu ps} (hH:gI C w U ρ (fun j=>((AO.box cs::os).getD j .dead))) (hl:os.length=aC ps)
  (hm:cg (ix (.box cs::os)) 1 ps cs=some y):gI C w U ρ (fun j=>(bT ps y).getD j .dead):=by
 have h0:bb w U ρ 0 (.box cs):=hH.ob 0
 obtain ⟨b,T,vals,h1,h2,h3,h4,h5⟩:=h0
 obtain ⟨k1,k2⟩:=ep ps 1 cs y vals.toList hm h4
 have hobj:∀ id,id≠0→(bT ps y).getD id .dead=(AO.box cs::os).getD id .dead:=by
  intro id hid
  obtain ⟨j,rfl⟩:∃ j,id=j+1:=⟨id - 1,by omega⟩
  by_cases hj:j < (fJ ps y).length
  ·have:=k2 j _ (zI hj)
   unfold bT
   simp only [yx]
   rw [aD,zI hj]
   simp only [ix,pf 1 j,yx] at this
   simpa using this.symm
  ·have h7:os.length≤j:=by rw [bw] at hj; omega
   unfold bT
   simp only [yx]
   rw [aD,aD,dh (by omega),dh h7]
 have hown:∀ id b,zO ρ id ((bT ps y).getD id .dead) b→zO ρ id ((AO.box cs::os).getD id .dead) b:=by
  intro id b' ho
  by_cases hid:id=0
  ·subst hid
   obtain ⟨_,v,hv,hb⟩:=ho
   exact ⟨rfl,v,hv,hb⟩
  ·rw [hobj id hid] at ho; exact ho
 refine ⟨fun id=>?_,fun id1 id2 b' o1 o2=>hH.inj id1 id2 b' (hown _ _ o1) (hown _ _ o2),fun id b' o=>hH.blk id b' (hown _ _ o)⟩
 by_cases hid:id=0
 ·subst hid
  exact ⟨b,T,vals,h1,h2,h3,k1,h5⟩
 ·show bb w U ρ id ((bT ps y).getD id .dead)
  rw [hobj id hid]
  exact hH.ob id

def Bl (ps:List CP) (outs:List Sh) (r:AV) (h:List AO):Option (zx (outs.map some)×zu ps):=match h with
 | .box cs::os=>if os.length=aC ps then match ae [] outs r,cg (ix (.box cs::os)) 1 ps cs with
   | some a,some y=>some (a,y)
   | _,_=>none
  else none
 | _=>none

def zcB (ps:List CP) (ks outs:List Sh) (ps':List CP) (c:zu ps→zx (ks.map some)→Bool) (g:zu ps→zx (ks.map some)→zx (outs.map some)×zu ps'):cz (none::ks.map some):=fun x h=>match x.1,h with
 | .ptr 0 0,.box cs::os=>if os.length=aC ps then match cg (ix (.box cs::os)) 1 ps cs with
   | some y=>.chk (c y x.2) (.ok (sE outs (g y x.2).1,bT ps' (g y x.2).2))
   | none=>.err
  else .err
 | _,_=>.err

def xW (ps:List CP) (ks outs:List Sh) (ps':List CP) (c:zu ps→zx (ks.map some)→Bool) (g:zu ps→zx (ks.map some)→zx (outs.map some)×zu ps'):zD:=zS (none::ks.map some) (zcB ps ks outs ps' c g)

theorem nS (ps:List CP) (y:zu ps):(bT ps y).length=aC ps+1:=by
 simp [bT,bw]

theorem AR {w:World} {U:Nat→Prop} {ρ:Nat→Option Value} {outs:List Sh} {r:AV} {y:zx (outs.map some)} {v:Value} (h:ae [] outs r=some y) (hr:Rv w U ρ r v):Rv w U ρ (sE outs y) v:=by
 have hob:∀ id,bb w U ρ id (ix [] id)∧∀ b,zO ρ id (ix [] id) b→¬ U b:=fun id=>⟨by simp [ix,bb],fun b hb=>by simp [ix,zO,AO.owns] at hb⟩
 have htup:∀ (outs:List Sh) (y:zx (outs.map some)) (rs:List AV),jC (ix []) (fun i=>i) (outs.map some) rs=some y→Rv w U ρ (.tup rs) v→Rv w U ρ (.tup (gm (outs.map some) y)) v:=by
  intro outs y rs hy hrv
  cases hrv with
  | tup _ vs hl hr2=>
  have:=(gU (w:=w) (U:=U) (ρ:=ρ) (U':=U) (ρ':=ρ) (hp:=ix []) (f:=fun i=>i) (fun b hb=>hb) (outs.map some) rs vs _ (mv outs rs y hy) ⟨hl,hr2⟩ (fun id _=>hob id)
   (fun id _=>rfl)).1
  simp only [rZ,rX,zN,if_false,List.map_id'] at this
  exact .tup _ vs this.len this.rv
 match outs,y,h with
 | [s],y,h=>
  simp only [ae] at h
  split at h
  ·rename_i x hx
   cases h
   exact uP hx hr (fun b hb=>hb) (fun id _=>hob id)
  ·cases h
 | [],y,h=>
  simp only [ae] at h
  cases r with
  | tup rs=>exact htup [] y _ h hr
  | _=>cases h
 | s1::s2::ss,y,h=>
  simp only [ae] at h
  cases r with
  | tup rs=>exact htup _ y _ h hr
  | _=>cases h

theorem P1 {P:Program} {gl:Nat→AV} {E:bq} {k:FuncId} {f:Func} {ps:List CP} {ks outs:List Sh} {ps':List CP} {c:zu ps→zx (ks.map some)→Bool} {g:zu ps→zx (ks.map some)→zx (outs.map some)×zu ps'} (hf:zA E.P k f (ks.length+1))
  (h:∀ y x,c y x=true→∀ C:cr,(∀ id,aC ps+1≤id→C.ρ0 id=none)→Reach E C k (aA f) (af f.ntmps (.ptr 0 0::gm (ks.map some) x) (bT ps y)) (fun r h=>Bl ps' outs r h=some (g y x))) (qp:E.P=P:=by rfl) (qg:E.gl=gl:=by rfl):
  lL P gl k (xW ps ks outs ps' c g):=by
 subst qp qg
 refine bt (by simpa using hf) fun x h0 res hx C hC=>?_
 obtain ⟨x0,x⟩:=x
 unfold zcB at hx
 simp only at hx
 split at hx
 ·rename_i cs os
  split at hx
  ·rename_i hos
   split at hx
   ·rename_i y hy
    simp only [Tr.val] at hx
    split at hx
    ·rename_i hc
     simp only [aq] at hx
     subst hx
     have hR:=h y x hc C (fun id hid=>hC id (by simpa [hos] using hid))
     intro b cs' a w U ρ h1 h2 hcn hW
     have hH:gI C w U ρ (fun j=>((AO.box cs::os).getD j .dead)):=hcn.hp
     have hcn':Cn C (af f.ntmps (.ptr 0 0::gm (ks.map some) x) (bT ps y)) a w U ρ:=
      ⟨hcn.tm,hH.box hos hy,fun id hid=>hcn.new id (by have hid:(bT ps y).length≤id:=hid; rw [nS] at hid; simpa [af,hos] using hid),hcn.df,hcn.r0⟩
     obtain ⟨e,w',fr,⟨v,r,h',U',ρ',he,hq,hrv,hH',hnew,hr0,hWd⟩,hcm,hf',hl⟩:=hR b cs' a w U ρ h1 h2 hcn' hW
     unfold Bl at hq
     split at hq
     ·rename_i cs2 os2
      split at hq
      ·rename_i hos2
       split at hq
       ·rename_i a' y' ha' hy'
        simp only [aq] at hq
        refine ⟨e,w',fr,⟨v,_,_,U',ρ',he,by rw [← hq],AR ha' hrv,hH'.box hos2 hy',fun id hid=>hnew id (by rw [nS] at hid; simpa [hos2] using hid),hr0,hWd⟩,hcm,hf',hl⟩
       ·cases hq
      ·cases hq
     ·cases hq
    ·simp at hx
   ·simp at hx
  ·simp at hx
 ·simp at hx


def pK (E:bq) (n0:Nat) (keep:Nat→zY) (f:Func) (gas:Nat):Nat→List Item→St→Option (AV×List AO)
 | 0,_,_=>none
 | n+1,K,st=>match (run E n0 keep f.results.toList gas K st).val with
  | some (.ret v h)=>some (v,h)
  | some (.head _ K' st')=>pK E n0 keep f gas n K' st'
  | _=>none

theorem km {E:bq} {C:cr} {k:FuncId} {f:Func} {Q:AV→List AO→Prop} {m n0:Nat} (hE:zm E) (hf:zA E.P k f m) (hC:∀ id,n0≤id→C.ρ0 id=none) {keep:Nat→zY} {gas:Nat}:
  ∀ (n:Nat) (K:List Item) (st:St) (r:AV×List AO),pK E n0 keep f gas n K st=some r→Q r.1 r.2→Reach E C k K st Q
 | 0,_,_,_,h,_=>by cases h
 | n+1,K,st,r,h,hQ=>by
  unfold pK at h
  split at h
  ·rename_i v h' hv
   cases h
   exact nt hE hf hC hv hQ
  ·rename_i j K' st' hv
   exact nt hE hf hC hv (km hE hf hC n K' st' r h hQ)
  ·cases h

def bF:(outs:List Sh)→zx (outs.map some)
 | []=>()
 | s::r=>(zj s,bF r)

def fK:(ps:List CP)→zu ps
 | []=>()
 | .d s::r=>(zj s,fK r)
 | .nil::r=>fK r
 | .vec _::r=>([],fK r)

def bh:List Nat→(ps:List CP)→zu ps→List AV
 | _,[],_=>[]
 | n,.d s::r,y=>zo s y.1++bh n r y.2
 | n,.nil::r,y=>.nils::bh n r y
 | n,.vec _::r,y=>.vec (n.headD 0)::bh n.tail r y.2

def TW (E:bq) (keep:Nat→zY) (f:Func) (gas n:Nat) (ks outs:List Sh) (x:zx (ks.map some)):Option (zx (outs.map some)):=
 (pK E 0 keep f gas n (aA f) (af f.ntmps (gm (ks.map some) x) [])).bind fun r=>ae r.2 outs r.1

def YJ (ks outs:List Sh) (g:zx (ks.map some)→Option (zx (outs.map some))):zD:=zC ks outs (fun x=>(g x).isSome) fun x=>(g x).getD (bF outs)

theorem Ws {P:Program} {gl:Nat→AV} {E:bq} {k:FuncId} {f:Func} {ks outs:List Sh} {keep:Nat→zY} {gas n:Nat} (hE:zm E) (hf:zA E.P k f ks.length) (qp:E.P=P:=by rfl) (qg:E.gl=gl:=by rfl):lL P gl k (YJ ks outs (TW E keep f gas n ks outs)):=by
 subst qp qg
 refine zM hf fun x hc C hC=>?_
 rw [Option.isSome_iff_exists] at hc
 obtain ⟨y,hy⟩:=hc
 rw [hy]
 unfold TW at hy
 rw [eS] at hy
 obtain ⟨r,h1,h2⟩:=hy
 exact km hE hf (fun id _=>hC id) n _ _ r h1 h2

def TV (E:bq) (keep:Nat→zY) (f:Func) (gas n:Nat) (ps:List CP) (ks outs:List Sh) (ps':List CP) (y:zu ps) (x:zx (ks.map some)):Option (zx (outs.map some)×zu ps'):=
 (pK E (aC ps+1) keep f gas n (aA f) (af f.ntmps (.ptr 0 0::gm (ks.map some) x) (bT ps y))).bind fun r=>Bl ps' outs r.1 r.2

def zgy (ps:List CP) (ks outs:List Sh) (ps':List CP) (g:zu ps→zx (ks.map some)→Option (zx (outs.map some)×zu ps')):zD:=
 xW ps ks outs ps' (fun y x=>(g y x).isSome) fun y x=>(g y x).getD (bF outs,fK ps')

theorem P2 {P:Program} {gl:Nat→AV} {E:bq} {k:FuncId} {f:Func} {ps:List CP} {ks outs:List Sh} {ps':List CP} {keep:Nat→zY} {gas n:Nat} (hE:zm E) (hf:zA E.P k f (ks.length+1)) (qp:E.P=P:=by rfl) (qg:E.gl=gl:=by rfl):lL P gl k (zgy ps ks outs ps' (TV E keep f gas n ps ks outs ps')):=by
 subst qp qg
 refine P1 hf fun y x hc C hC=>?_
 rw [Option.isSome_iff_exists] at hc
 obtain ⟨z,hz⟩:=hc
 rw [hz]
 unfold TV at hz
 rw [eS] at hz
 obtain ⟨r,h1,h2⟩:=hz
 exact km hE hf hC n _ _ r h1 h2

theorem P3 {P:Program} {gl:Nat→AV} {E:bq} {k:FuncId} {f:Func} {ks outs:List Sh} {keep:Nat→zY} {gas n:Nat} {c:zx (ks.map some)→Bool} {g:zx (ks.map some)→zx (outs.map some)} (hE:zm E) (hf:zA E.P k f ks.length)
  (hc:∀ x,c x=(TW E keep f gas n ks outs x).isSome) (hg:∀ x,g x=(TW E keep f gas n ks outs x).getD (bF outs)) (qp:E.P=P:=by rfl) (qg:E.gl=gl:=by rfl):lL P gl k (zC ks outs c g):=by
 subst qp qg
 obtain rfl:c=fun x=>(TW E keep f gas n ks outs x).isSome:=funext hc
 obtain rfl:g=fun x=>(TW E keep f gas n ks outs x).getD (bF outs):=funext hg
 exact Ws hE hf

theorem KW {P:Program} {gl:Nat→AV} {E:bq} {k:FuncId} {f:Func} {ps:List CP} {ks outs:List Sh} {ps':List CP} {keep:Nat→zY} {gas n:Nat} {c:zu ps→zx (ks.map some)→Bool} {g:zu ps→zx (ks.map some)→zx (outs.map some)×zu ps'} (hE:zm E) (hf:zA E.P k f (ks.length+1))
  (hc:∀ y x,c y x=(TV E keep f gas n ps ks outs ps' y x).isSome) (hg:∀ y x,g y x=(TV E keep f gas n ps ks outs ps' y x).getD (bF outs,fK ps')) (qp:E.P=P:=by rfl) (qg:E.gl=gl:=by rfl):lL P gl k (xW ps ks outs ps' c g):=by
 subst qp qg
 obtain rfl:c=fun y x=>(TV E keep f gas n ps ks outs ps' y x).isSome:=funext fun y=>funext fun x=>hc y x
 obtain rfl:g=fun y x=>(TV E keep f gas n ps ks outs ps' y x).getD (bF outs,fK ps'):=funext fun y=>funext fun x=>hg y x
 exact P2 hE hf

abbrev zV:=AV×List AO

def Tr.map {α β:Type} (f:α→β):Tr α→Tr β
 | .err=>.err
 | .chk c t=>.chk c (t.map f)
 | .br c t e=>.br c (t.map f) (e.map f)
 | .ok a=>.ok (f a)

theorem Tr.val_map {α β:Type} (f:α→β):∀ t:Tr α,(t.map f).val=t.val.map f
 | .err=>rfl
 | .chk c t=>by simp only [Tr.map,Tr.val,val_map f t]; split <;> rfl
 | .br c t e=>by simp only [Tr.map,Tr.val,val_map f t,val_map f e]; split <;> rfl
 | .ok _=>rfl

abbrev Tr.to {σ:Type} (s:σ):Tr (σ ⊕ zV):=.ok (.inl s)
abbrev Tr.re {σ:Type} (v:AV) (h:List AO):Tr (σ ⊕ zV):=.ok (.inr (v,h))

def bJ {σ:Type} (t:σ→Tr (σ ⊕ zV)):Nat→σ→Option zV
 | 0,_=>none
 | n+1,s=>match (t s).val with
  | some (.inl s')=>bJ t n s'
  | some (.inr r)=>some r
  | none=>none

def bW {σ:Type} (t:σ→Tr (σ ⊕ zV)) (n:Nat) (i:Tr (σ ⊕ zV)):Option zV:=match i.val with
 | some (.inl s)=>bJ t n s
 | some (.inr r)=>some r
 | none=>none

def lf {σ:Type} (f:Func) (e:σ→Nat×St):σ ⊕ zV→zt
 | .inl s=>.head (e s).1 (zy f (e s).1) (e s).2
 | .inr r=>.ret r.1 r.2

def e0:Empty→Nat×St:=fun x=>nomatch x
def t0:Empty→Tr (Empty ⊕ zV):=fun x=>nomatch x

section
variable {σ:Type} {E:bq} {n0:Nat} {keep:Nat→zY} {f:Func} {gas:Nat} {e:σ→Nat×St} {t:σ→Tr (σ ⊕ zV)}

theorem HZ (hon:∀ s,run E n0 keep f.results.toList gas (zy f (e s).1) (e s).2=(t s).map (lf f e)):∀ (n:Nat) (s:σ),pK E n0 keep f gas n (zy f (e s).1) (e s).2=bJ t n s
 | 0,_=>rfl
 | n+1,s=>by
  rw [pK,hon s,Tr.val_map,bJ]
  cases (t s).val with
  | none=>rfl
  | some l=>
   cases l with
   | inl s'=>exact HZ hon n s'
   | inr r=>rfl

theorem jd (hon:∀ s,run E n0 keep f.results.toList gas (zy f (e s).1) (e s).2=(t s).map (lf f e)) {K:List Item} {st:St} {i:Tr (σ ⊕ zV)} (hgo:run E n0 keep f.results.toList gas K st=i.map (lf f e)) (n:Nat):pK E n0 keep f gas (n+1) K st=bW t n i:=by
 rw [pK,hgo,Tr.val_map,bW]
 cases i.val with
 | none=>rfl
 | some l=>
  cases l with
  | inl s=>exact HZ hon n s
  | inr r=>rfl
end

def zT {σ:Type} (outs:List Sh) (t:σ→Tr (σ ⊕ zV)) (n:Nat) (i:Tr (σ ⊕ zV)):Option (zx (outs.map some)):=(bW t n i).bind fun r=>ae r.2 outs r.1

theorem g6 {P:Program} {gl:Nat→AV} {σ:Type} {E:bq} {k:FuncId} {f:Func} {ks outs:List Sh} {keep:Nat→zY} {gas n:Nat} {e:σ→Nat×St} {t:σ→Tr (σ ⊕ zV)} {i:zx (ks.map some)→Tr (σ ⊕ zV)} {c:zx (ks.map some)→Bool} {g:zx (ks.map some)→zx (outs.map some)}
  (hE:zm E) (hf:zA E.P k f ks.length) (hgo:∀ x,run E 0 keep f.results.toList gas (aA f) (af f.ntmps (gm (ks.map some) x) [])=(i x).map (lf f e))
  (hon:∀ s,run E 0 keep f.results.toList gas (zy f (e s).1) (e s).2=(t s).map (lf f e))
  (hc:∀ x,c x=(zT outs t n (i x)).isSome) (hg:∀ x,g x=(zT outs t n (i x)).getD (bF outs)) (qp:E.P=P:=by rfl) (qg:E.gl=gl:=by rfl):lL P gl k (zC ks outs c g):=by
 subst qp qg
 have h:∀ x,TW E keep f gas (n+1) ks outs x=zT outs t n (i x):=by
  intro x
  unfold TW zT
  rw [jd hon (hgo x)]
 exact P3 (n:=n+1) hE hf (fun x=>by rw [h,hc]) (fun x=>by rw [h,hg])

abbrev k0:Nat→zY:=fun _=>{ }
abbrev jL:List (Nat×List Nat)→Nat→zY
 | [],_=>{ }
 | p::r,j=>if j=p.1 then { slots:=p.2 } else jL r j
def o1 {a:Sh} (o:Option (zx [some a])):Sem a:=(o.getD (bF [a])).1
def o2 {a b:Sh} (o:Option (zx [some a,some b])):Sem a×Sem b:=((o.getD (bF [a,b])).1,(o.getD (bF [a,b])).2.1)
def o3 {a b c:Sh} (o:Option (zx [some a,some b,some c])):Sem a×Sem b×Sem c:=((o.getD (bF [a,b,c])).1,(o.getD (bF [a,b,c])).2.1,(o.getD (bF [a,b,c])).2.2.1)
def FT (ks outs:List Sh) (o:zx (ks.map some)→Option (zx (outs.map some))):zD:=zC ks outs (fun x=>(o x).isSome) fun x=>(o x).getD (bF outs)
theorem zm.T1 {P:Program} {gl:Nat→AV} {σ:Type} {E:bq} {k:FuncId} {f:Func} {ks outs:List Sh} {keep:Nat→zY} {n:Nat} {e:σ→Nat×St} {t:σ→Tr (σ ⊕ zV)} {i:zx (ks.map some)→Tr (σ ⊕ zV)} (hE:zm E) (gas:Nat:=400)
  (hf:(E.P.funcs[k]?,f.name == "runtime.NumGoroutine",f.body.isNone,decide (ks.length≤f.ntmps))=(some f,false,false,true):=by kernel_rfl)
  (hgo:∀ x,run E 0 keep f.results.toList gas (aA f) (af f.ntmps (gm (ks.map some) x) [])=(i x).map (lf f e):=by intro x; kernel_rfl)
  (hon:∀ s,run E 0 keep f.results.toList gas (zy f (e s).1) (e s).2=(t s).map (lf f e):=by intro s; cases s <;> kernel_rfl) (qp:E.P=P:=by rfl) (qg:E.gl=gl:=by rfl):lL P gl k (FT ks outs fun x=>zT outs t n (i x)):=by
 subst qp qg
 exact g6 hE (aL hf) hgo hon (fun _=>rfl) fun _=>rfl

theorem KG (E:bq) (n0:Nat) (keep:Nat→zY) (f:Func) (gas:Nat):∀ s,run E n0 keep f.results.toList gas (zy f (e0 s).1) (e0 s).2=(t0 s).map (lf f e0):=fun s=>nomatch s

def yf {σ:Type} (outs:List Sh) (ps':List CP) (t:σ→Tr (σ ⊕ zV)) (n:Nat) (i:Tr (σ ⊕ zV)):Option (zx (outs.map some)×zu ps'):=(bW t n i).bind fun r=>Bl ps' outs r.1 r.2

theorem qG {P:Program} {gl:Nat→AV} {σ:Type} {E:bq} {k:FuncId} {f:Func} {ps:List CP} {ks outs:List Sh} {ps':List CP} {keep:Nat→zY} {gas n:Nat} {e:σ→Nat×St} {t:σ→Tr (σ ⊕ zV)} {i:zu ps→zx (ks.map some)→Tr (σ ⊕ zV)} {c:zu ps→zx (ks.map some)→Bool} {g:zu ps→zx (ks.map some)→zx (outs.map some)×zu ps'}
  (hE:zm E) (hf:zA E.P k f (ks.length+1)) (hgo:∀ y x,run E (aC ps+1) keep f.results.toList gas (aA f) (af f.ntmps (.ptr 0 0::gm (ks.map some) x) (bT ps y))=(i y x).map (lf f e))
  (hon:∀ s,run E (aC ps+1) keep f.results.toList gas (zy f (e s).1) (e s).2=(t s).map (lf f e))
  (hc:∀ y x,c y x=(yf outs ps' t n (i y x)).isSome) (hg:∀ y x,g y x=(yf outs ps' t n (i y x)).getD (bF outs,fK ps')) (qp:E.P=P:=by rfl) (qg:E.gl=gl:=by rfl):lL P gl k (xW ps ks outs ps' c g):=by
 subst qp qg
 have h:∀ y x,TV E keep f gas (n+1) ps ks outs ps' y x=yf outs ps' t n (i y x):=by
  intro y x
  unfold TV yf
  rw [jd hon (hgo y x)]
 exact KW (n:=n+1) hE hf (fun y x=>by rw [h,hc]) (fun y x=>by rw [h,hg])


section
variable {σ:Type} {t:σ→Tr (σ ⊕ zV)}

theorem kq {β:Type} (N:Nat) (st:β→Nat→σ) (I:β→Nat→Prop) (Φ:zV→Prop) (M:Nat)
  (hstep:∀ b i,i < N→I b i→(∃ b',I b' (i+1)∧(t (st b i)).val=some (.inl (st b' (i+1))))∨∃ r,(t (st b i)).val=some (.inr r)∧Φ r)
  (hend:∀ b n,I b N→M≤n→∃ r,bJ t n (st b N)=some r∧Φ r):
  ∀ (m i:Nat) (b:β) (n:Nat),N - i=m→i≤N→I b i→M+m≤n→∃ r,bJ t n (st b i)=some r∧Φ r
 | 0,i,b,n,hm,hi,hI,hn=>by
  obtain rfl:i=N:=by omega
  exact hend b n hI (by omega)
 | m+1,i,b,n,hm,hi,hI,hn=>by
  obtain ⟨n,rfl⟩:∃ k,n=k+1:=⟨n - 1,by omega⟩
  rcases hstep b i (by omega) hI with ⟨b',hI',h⟩ | ⟨r,h1,h2⟩
  ·obtain ⟨r,h1,h2⟩:=kq N st I Φ M hstep hend m (i+1) b' n (by omega) (by omega) hI' (by omega)
   exact ⟨r,by rw [bJ,h]; exact h1,h2⟩
  ·exact ⟨r,by rw [bJ,h1],h2⟩

theorem ko {n:Nat} {s:σ}:bJ t (n+1) s=match (t s).val with
  | some (.inl s')=>bJ t n s'
  | some (.inr r)=>some r
  | none=>none:=rfl
end


abbrev MS:Nat→zY:=fun _=>{ }
theorem X8:zA yS.P 89 Tryz.f89 1:=aL (by kernel_rfl)
def dE (x0:Sem zp) (_:ze) (_:ze) (_:Sem aK.sl×Sem (Sh.expr.pr Sh.str)) (_:Sem zf.sl×Sem (aK.sl.pr (Sh.expr.pr Sh.str))) (_:Sem Sh.str×Sem (Sh.str.sl.pr (zi.sl.pr (Sh.str.pr (Sh.str.sl.pr (bG.sl.pr (Sh.expr.pr (zf.sl.pr (aK.sl.pr (Sh.expr.pr Sh.str)))))))))) (a5:Bool) (_:Sem Sh.expr×Sem (zf.sl.pr (aK.sl.pr (Sh.expr.pr Sh.str)))) (a7:Sem Sh.str×Sem (Sh.str.pr (Sh.str.pr (Sh.str.sl.pr (zi.sl.pr (Sh.str.pr (Sh.str.sl.pr (bG.sl.pr (Sh.expr.pr (zf.sl.pr (aK.sl.pr (Sh.expr.pr Sh.str)))))))))))) (a8:Sem Sh.str×Sem (Sh.str.pr (Sh.str.pr (Sh.str.sl.pr (zi.sl.pr (Sh.str.pr (Sh.str.sl.pr (bG.sl.pr (Sh.expr.pr (zf.sl.pr (aK.sl.pr (Sh.expr.pr Sh.str)))))))))))) (_:Int) (_:Int) (a11:Bool) (a12:Sem Sh.str×Sem (Sh.str.pr (Sh.str.pr (Sh.str.sl.pr (zi.sl.pr (Sh.str.pr (Sh.str.sl.pr (bG.sl.pr (Sh.expr.pr (zf.sl.pr (aK.sl.pr (Sh.expr.pr Sh.str)))))))))))) (_:Int) (_:Int) (_:Sem Sh.bool) (a16:Bool) (_:Sem Sh.expr×Sem Sh.str) (a18:Sem Sh.str×Sem (Sh.str.pr (Sh.str.pr (Sh.str.sl.pr (zi.sl.pr (Sh.str.pr (Sh.str.sl.pr (bG.sl.pr (Sh.expr.pr (zf.sl.pr (aK.sl.pr (Sh.expr.pr Sh.str)))))))))))) (a19:Bool) (a20:Sem Sh.str×Sem (Sh.str.pr (Sh.str.pr (Sh.str.sl.pr (zi.sl.pr (Sh.str.pr (Sh.str.sl.pr (bG.sl.pr (Sh.expr.pr (zf.sl.pr (aK.sl.pr (Sh.expr.pr Sh.str)))))))))))) (_:Sem Sh.bool) (a22:Bool) (_:Sem zf.sl×Sem (aK.sl.pr (Sh.expr.pr Sh.str))) (a24:Sem Sh.str×Sem (Sh.str.pr (Sh.str.pr (Sh.str.sl.pr (zi.sl.pr (Sh.str.pr (Sh.str.sl.pr (bG.sl.pr (Sh.expr.pr (zf.sl.pr (aK.sl.pr (Sh.expr.pr Sh.str)))))))))))) (_:Sem Sh.bool) (_:Int) (_:Int) (_:Sem Sh.bool) (_:Bool) (a30:Bool) (_:Sem Sh.str×Sem (Sh.str.pr (Sh.str.pr (Sh.str.sl.pr (zi.sl.pr (Sh.str.pr (Sh.str.sl.pr (bG.sl.pr (Sh.expr.pr (zf.sl.pr (aK.sl.pr (Sh.expr.pr Sh.str)))))))))))) (a32:Bool) (a33:Sem Sh.bool) (a34:Bool) (a35:Sem Sh.str×Sem (Sh.str.pr (Sh.str.pr (Sh.str.sl.pr (zi.sl.pr (Sh.str.pr (Sh.str.sl.pr (bG.sl.pr (Sh.expr.pr (zf.sl.pr (aK.sl.pr (Sh.expr.pr Sh.str)))))))))))) (a36:Bool):Tr (Empty ⊕ zV):=
 Tr.br (x0.1==[99,114,101,97,116,101]) (Tr.chk (bif a5 then dg a7 else true) (Tr.re (AV.bool (bif a5 then fx a7 else false)) [])) (Tr.br (x0.1==[100,114,111,112]) (Tr.chk (bif bL x0.2.1 then dg a8 else true) (Tr.re (AV.bool (bif bL x0.2.1 then fx a8 else false)) [])) (Tr.br (x0.1==[105,110,115,101,114,116]) (Tr.chk (bif a11 then dg a12 else true) (Tr.re (AV.bool (bif a11 then fx a12 else false)) [])) (Tr.br (x0.1==[117,112,100,97,116,101]) (Tr.chk (bif a16 then dg a18 else true) (Tr.re (AV.bool (bif a16 then fx a18 else false)) [])) (Tr.br (x0.1==[100,101,108,101,116,101]) (Tr.chk (bif a19 then dg a20 else true) (Tr.re (AV.bool (bif a19 then fx a20 else false)) [])) (Tr.br (x0.1==[115,101,108,101,99,116]) (Tr.chk (bif a19 then dg a20 else true) (Tr.re (AV.bool (bif a19 then fx a20 else false)) [])) (Tr.br (x0.1==[114,101,97,100]) (Tr.chk (bif a22 then dg a24 else true) (Tr.re (AV.bool (bif a22 then fx a24 else false)) [])) (Tr.br (x0.1==[119,114,105,116,101]) (Tr.chk (bif a22 then dg a24 else true) (Tr.re (AV.bool (bif a22 then fx a24 else false)) [])) (Tr.br (x0.1==[117,110,114,101,97,100]) (Tr.chk (bif a22 then dg a24 else true) (Tr.re (AV.bool (bif a22 then fx a24 else false)) [])) (Tr.br (x0.1==[117,110,119,114,105,116,101])
 (Tr.chk (bif a22 then dg a24 else true) (Tr.re (AV.bool (bif a22 then fx a24 else false)) [])) (Tr.br (x0.1==[99,111,112,121]) (Tr.chk (bif a30 then a32 else true) (Tr.re (AV.bool (bif a30 then a33 else false)) [])) (Tr.br (x0.1==[106,111,105,110]) (Tr.chk (bif a34 then dg a35 else true) (Tr.re (AV.bool (bif a34 then fx a35 else false)) [])) (Tr.br (x0.1==[103,114,111,117,112]) (Tr.chk (bif a36 then a32 else true) (Tr.re (AV.bool (bif a36 then a33 else false)) [])) (Tr.re (AV.kb false) [])))))))))))))
def eu (x0:Sem zp):Tr (Empty ⊕ zV):=
 let a0:=zB x0.2.2.2.2.2.2.2.2.1
 let a1:=zB x0.2.2.2.2.2.2.2.2.2.2.2.1
 let a2:=(x0.2.2.2.2.2.2.2.2.2.2.1,a1,x0.2.2.2.2.2.2.2.2.2.2.2.2)
 let a3:=(x0.2.2.2.2.2.2.2.2.2.1,a2)
 let a4:=(x0.2.2.1,x0.2.2.2.1,x0.2.2.2.2.1,x0.2.2.2.2.2.1,x0.2.2.2.2.2.2.1,x0.2.2.2.2.2.2.2.1,a0,a3)
 let a5:=bif bL x0.2.1 then iw (x0.1,x0.2.1,a4) else false
 let a6:=(ze.mk [] (0,0,[]) [] [],a3)
 let a7:=(x0.1,[],x0.2.2.1,x0.2.2.2.1,[],[],[],[],a6)
 let a8:=(x0.1,[],a4)
 let a9:=(↑(length x0.2.2.2.2.2.2.2.2.2.1):Int)
 let a10:=zR (fun x => !dS x) x0.2.2.2.2.2.2.2.2.2.1 0
 let a11:=bif bL x0.2.1 then bif bif decide (a9 < 1) then true else decide (a9 > 12) then false else !decide (a10 ≥ 0) else false
 let a12:=(x0.1,[],x0.2.2.1,x0.2.2.2.1,x0.2.2.2.2.1,x0.2.2.2.2.2.1,x0.2.2.2.2.2.2.1,x0.2.2.2.2.2.2.2.1,a0,[],a2)
 let a13:=(↑(length x0.2.2.2.2.2.2.2.2.2.2.1):Int)
 let a14:=zR (fun x => !xx x) x0.2.2.2.2.2.2.2.2.2.2.1 0
 let a15:=kQ a1
 let a16:=bif bL x0.2.1 then bif bif decide (a13 < 1) then true else decide (a13 > 8) then false else bif !decide (a14 ≥ 0) then a15 else false else false
 let a17:=(ze.mk [] (0,0,[]) [] [],x0.2.2.2.2.2.2.2.2.2.2.2.2)
 let a18:=(x0.1,[],x0.2.2.1,x0.2.2.2.1,x0.2.2.2.2.1,x0.2.2.2.2.2.1,x0.2.2.2.2.2.2.1,x0.2.2.2.2.2.2.2.1,a0,x0.2.2.2.2.2.2.2.2.2.1,[],a17)
 let a19:=bif bL x0.2.1 then a15 else false
 let a20:=(x0.1,[],x0.2.2.1,x0.2.2.2.1,x0.2.2.2.2.1,x0.2.2.2.2.2.1,x0.2.2.2.2.2.2.1,x0.2.2.2.2.2.2.2.1,a0,x0.2.2.2.2.2.2.2.2.2.1,x0.2.2.2.2.2.2.2.2.2.2.1,a17)
 let a21:=bL x0.2.2.2.2.2.2.2.2.2.2.2.2
 let a22:=bif bL x0.2.1 then a21 else false
 let a23:=(x0.2.2.2.2.2.2.2.2.2.1,x0.2.2.2.2.2.2.2.2.2.2.1,a1,[])
 let a24:=(x0.1,[],x0.2.2.1,x0.2.2.2.1,x0.2.2.2.2.1,x0.2.2.2.2.2.1,x0.2.2.2.2.2.2.1,x0.2.2.2.2.2.2.2.1,a0,a23)
 let a25:=bL x0.2.2.1
 let a26:=(↑(length x0.2.2.2.1):Int)
 let a27:=zR (fun x => !bL x) x0.2.2.2.1 0
 let a28:=kQ a0
 let a29:=bif !decide (a27 ≥ 0) then a28 else false
 let a30:=bif bL x0.2.1 then bif a25 then bif bif decide (a26 < 1) then true else decide (a26 > 8) then false else a29 else false else false
 let a31:=(x0.1,[],[],[],x0.2.2.2.2.1,x0.2.2.2.2.2.1,x0.2.2.2.2.2.2.1,x0.2.2.2.2.2.2.2.1,a6)
 let a32:=dg a31
 let a33:=fx a31
 let a34:=bif bL x0.2.1 then bif a25 then bif bL x0.2.2.2.2.2.1 then bif a21 then a28 else false else false else false else false
 let a35:=(x0.1,[],[],x0.2.2.2.1,x0.2.2.2.2.1,[],x0.2.2.2.2.2.2.1,x0.2.2.2.2.2.2.2.1,ze.mk [] (0,0,[]) [] [],a23)
 let a36:=bif bL x0.2.1 then bif a25 then bif bif decide (a26 < 2) then true else decide (a26 > 2) then false else a29 else false else false
 dE x0 a0 a1 a2 a3 a4 a5 a6 a7 a8 a9 a10 a11 a12 a13 a14 a15 a16 a17 a18 a19 a20 a21 a22 a23 a24 a25 a26 a27 a28 a29 a30 a31 a32 a33 a34 a35 a36
theorem W4 (x0:Sem zp):rn yS 0 MS Tryz.f89 [zz zp x0] []=(eu x0).map (lf Tryz.f89 e0):=by kernel_rfl
def tM (x0:Sem zp):Option (zx (List.map some [Sh.bool])):=zT [Sh.bool] t0 100000000 (eu x0)
def jG (x0:Sem zp):Bool:=(tM x0).isSome
def eZ (x0:Sem zp):Sem Sh.bool:=(fun r:zx (List.map some [Sh.bool])=>r.1) ((tM x0).getD (bF [Sh.bool]))
def R7:zD:=zC [zp] [Sh.bool] (fun x=>jG x.1) fun x=>(eZ x.1,())
theorem Pf:FK 89 R7:=g6 (ks:=[zp]) (outs:=[Sh.bool]) (keep:=MS) (gas:=400) (n:=100000000) (e:=e0) (t:=t0) (i:=fun x=>eu x.1) qW X8 (fun x=>W4 x.1) (KG _ _ _ _ _) (fun _=>by kernel_rfl) (fun _=>by kernel_rfl)

abbrev MT:Nat→zY:=fun _=>{ }
theorem X9:zA yS.P 90 Tryz.f90 1:=aL (by kernel_rfl)
def ro (x0:Sem zp) (a0:Bool) (a1:zl) (a2:zl) (a3:zl) (a4:zl) (_:ze) (_:ze) (a7:Sem Sh.str×Sem (Sh.str.pr (Sh.str.pr (Sh.str.sl.pr (zi.sl.pr (Sh.str.pr (Sh.str.sl.pr (bG.sl.pr (Sh.expr.pr (zf.sl.pr (aK.sl.pr (Sh.expr.pr Sh.str)))))))))))) (a8:zl) (a9:zl) (a10:TS) (a11:zl) (a12:zl) (a13:zl) (a14:TS) (a15:Bool) (a16:zl) (a17:TS) (a18:zl) (a19:zl) (a20:zl) (a21:zl) (a22:zl) (a23:zl) (a24:List UInt8) (a25:List UInt8) (a26:zl) (a27:zl) (a28:zl) (a29:zl) (a30:zl) (a31:zl) (a32:TS) (a33:zl) (a34:Bool) (a35:zl) (a36:TS) (a37:zl) (a38:zl) (a39:zl) (a40:zl) (a41:zl) (a42:TS) (a43:zl) (a44:zl) (a45:TS) (a46:zl):Tr (Empty ⊕ zV):=Tr.chk a0 (Tr.chk (decide ([77,73,71,82,65,84,69,32].length+(Lib.toUpperA x0.1).length≤1099511627776)) (Tr.chk (decide (length a1+[32].length≤1099511627776)) (Tr.chk (decide (length a2+length x0.2.1≤1099511627776)) (Tr.chk (decide (length a3+[32,70,82,79,77,32].length≤1099511627776)) (Tr.chk (decide (length a4+length x0.2.2.1≤1099511627776)) (Tr.br (x0.1==[99,114,101,97,116,101]) (Tr.chk (ma a7) (Tr.re (AV.str (mW a7)) []))
 (Tr.br (x0.1==[100,114,111,112]) (Tr.chk (decide ([68,82,79,80,32,84,65,66,76,69,32].length+length x0.2.1≤1099511627776)) (Tr.re (AV.str ([68,82,79,80,32,84,65,66,76,69,32]++x0.2.1)) [])) (Tr.br (x0.1==[105,110,115,101,114,116]) (Tr.chk (decide ([73,78,83,69,82,84,32,73,78,84,79,32].length+length x0.2.1≤1099511627776)) (Tr.chk (decide (length a8+[32,86,65,76,85,69,83,32,40,32].length≤1099511627776)) (Tr.chk (kF x0.2.2.2.2.2.2.2.2.2.1) (Tr.chk (decide (length a9+length a10≤1099511627776)) (Tr.chk (decide (length a11+[32,41].length≤1099511627776)) (Tr.re (AV.str (a11++[32,41])) [])))))) (Tr.br (x0.1==[117,112,100,97,116,101]) (Tr.chk (decide ([85,80,68,65,84,69,32].length+length x0.2.1≤1099511627776)) (Tr.chk (decide (length a12+[32,83,69,84,32].length≤1099511627776)) (Tr.chk (kz x0.2.2.2.2.2.2.2.2.2.2.1) (Tr.chk (decide (length a13+length a14≤1099511627776)) (Tr.chk a15 (Tr.chk (decide (length a16+length a17≤1099511627776)) (Tr.re (AV.str (a16++a17)) []))))))) (Tr.br (x0.1==[100,101,108,101,116,101]) (Tr.chk (decide ([68,69,76,69,84,69,32,70,82,79,77,32].length+length x0.2.1≤1099511627776)) (Tr.chk a15 (Tr.chk (decide (length a18+length a17≤1099511627776)) (Tr.re (AV.str (a18++a17)) []))))
 (Tr.br (x0.1==[115,101,108,101,99,116]) (Tr.chk (decide ([83,69,76,69,67,84,32,42,32,70,82,79,77,32].length+length x0.2.1≤1099511627776)) (Tr.chk a15 (Tr.chk (decide (length a19+length a17≤1099511627776)) (Tr.re (AV.str (a19++a17)) [])))) (Tr.br (x0.1==[114,101,97,100]) (Tr.chk a0 (Tr.chk (decide ([71,82,65,78,84,32].length+(Lib.toUpperA x0.1).length≤1099511627776)) (Tr.chk (decide (length a20+[32,79,78,32].length≤1099511627776)) (Tr.chk (decide (length a21+length x0.2.1≤1099511627776)) (Tr.chk (decide (length a22+[32,84,79,32].length≤1099511627776)) (Tr.chk (decide (length a23+length x0.2.2.2.2.2.2.2.2.2.2.2.2≤1099511627776)) (Tr.re (AV.str (a23++x0.2.2.2.2.2.2.2.2.2.2.2.2)) []))))))) (Tr.br (x0.1==[119,114,105,116,101]) (Tr.chk a0 (Tr.chk (decide ([71,82,65,78,84,32].length+(Lib.toUpperA x0.1).length≤1099511627776)) (Tr.chk (decide (length a20+[32,79,78,32].length≤1099511627776)) (Tr.chk (decide (length a21+length x0.2.1≤1099511627776)) (Tr.chk (decide (length a22+[32,84,79,32].length≤1099511627776)) (Tr.chk (decide (length a23+length x0.2.2.2.2.2.2.2.2.2.2.2.2≤1099511627776)) (Tr.re (AV.str (a23++x0.2.2.2.2.2.2.2.2.2.2.2.2)) []))))))) (Tr.br (x0.1==[117,110,114,101,97,100]) (Tr.chk
 (decide (0≤2)&&decide (2≤(↑(length x0.1):Int))&&decide ((↑(length x0.1):Int)≤(↑(length x0.1):Int))) (Tr.chk (decide (a24.length≤140737488355328)&&a24.all fun b=>decide (b.toNat < 128)) (Tr.chk (decide ([82,69,86,79,75,69,32].length+a25.length≤1099511627776)) (Tr.chk (decide (length a26+[32,79,78,32].length≤1099511627776)) (Tr.chk (decide (length a27+length x0.2.1≤1099511627776)) (Tr.chk (decide (length a28+[32,70,82,79,77,32].length≤1099511627776)) (Tr.chk (decide (length a29+length x0.2.2.2.2.2.2.2.2.2.2.2.2≤1099511627776)) (Tr.re (AV.str (a29++x0.2.2.2.2.2.2.2.2.2.2.2.2)) [])))))))) (Tr.br (x0.1==[117,110,119,114,105,116,101]) (Tr.chk (decide (0≤2)&&decide (2≤(↑(length x0.1):Int))&&decide ((↑(length x0.1):Int)≤(↑(length x0.1):Int))) (Tr.chk (decide (a24.length≤140737488355328)&&a24.all fun b=>decide (b.toNat < 128)) (Tr.chk (decide ([82,69,86,79,75,69,32].length+a25.length≤1099511627776)) (Tr.chk (decide (length a26+[32,79,78,32].length≤1099511627776)) (Tr.chk (decide (length a27+length x0.2.1≤1099511627776)) (Tr.chk (decide (length a28+[32,70,82,79,77,32].length≤1099511627776)) (Tr.chk (decide (length a29+length x0.2.2.2.2.2.2.2.2.2.2.2.2≤1099511627776)) (Tr.re (AV.str (a29++x0.2.2.2.2.2.2.2.2.2.2.2.2)) [])))))))) (Tr.br (x0.1==[99,111,112,121])
 (Tr.chk (decide (length a30+[32,40,32].length≤1099511627776)) (Tr.chk (kC x0.2.2.2.1) (Tr.chk (decide (length a31+length a32≤1099511627776)) (Tr.chk (decide (length a33+[32,41].length≤1099511627776)) (Tr.chk a34 (Tr.chk (decide (length a35+length a36≤1099511627776)) (Tr.re (AV.str (a35++a36)) []))))))) (Tr.br (x0.1==[106,111,105,110]) (Tr.chk (decide (length a30+[32,44,32].length≤1099511627776)) (Tr.chk (decide (length a37+length x0.2.2.2.2.2.2.2.2.2.2.2.2≤1099511627776)) (Tr.chk (decide (length a38+[32,79,78,32].length≤1099511627776)) (Tr.chk (decide (length a39+length x0.2.2.2.2.2.1≤1099511627776)) (Tr.chk a34 (Tr.chk (decide (length a40+length a36≤1099511627776)) (Tr.re (AV.str (a40++a36)) []))))))) (Tr.chk (decide (length a30+[32,66,89,32].length≤1099511627776)) (Tr.chk (zF 0 (length x0.2.2.2.1)) (Tr.chk (decide (length a41+length a42≤1099511627776)) (Tr.chk (decide (length a43+[32,83,85,77,32].length≤1099511627776)) (Tr.chk (zF 1 (length x0.2.2.2.1)) (Tr.chk (decide (length a44+length a45≤1099511627776)) (Tr.chk a34 (Tr.chk (decide (length a46+length a36≤1099511627776)) (Tr.re (AV.str (a46++a36)) []))))))))))))))))))))))))))
def lD (x0:Sem zp):Tr (Empty ⊕ zV):=
 let a0:=decide (length x0.1≤140737488355328)&&List.all x0.1 fun b=>decide (b.toNat < 128)
 let a1:=[77,73,71,82,65,84,69,32]++Lib.toUpperA x0.1
 let a2:=a1++[32]
 let a3:=a2++x0.2.1
 let a4:=a3++[32,70,82,79,77,32]
 let a5:=zB x0.2.2.2.2.2.2.2.2.1
 let a6:=zB x0.2.2.2.2.2.2.2.2.2.2.2.1
 let a7:=(x0.1,x0.2.1,x0.2.2.1,x0.2.2.2.1,x0.2.2.2.2.1,x0.2.2.2.2.2.1,x0.2.2.2.2.2.2.1,x0.2.2.2.2.2.2.2.1,a5,x0.2.2.2.2.2.2.2.2.2.1,x0.2.2.2.2.2.2.2.2.2.2.1,a6,x0.2.2.2.2.2.2.2.2.2.2.2.2)
 let a8:=[73,78,83,69,82,84,32,73,78,84,79,32]++x0.2.1
 let a9:=a8++[32,86,65,76,85,69,83,32,40,32]
 let a10:=kE x0.2.2.2.2.2.2.2.2.2.1
 let a11:=a9++a10
 let a12:=[85,80,68,65,84,69,32]++x0.2.1
 let a13:=a12++[32,83,69,84,32]
 let a14:=ky x0.2.2.2.2.2.2.2.2.2.2.1
 let a15:=xM a6
 let a16:=a13++a14
 let a17:=kG a6
 let a18:=[68,69,76,69,84,69,32,70,82,79,77,32]++x0.2.1
 let a19:=[83,69,76,69,67,84,32,42,32,70,82,79,77,32]++x0.2.1
 let a20:=[71,82,65,78,84,32]++Lib.toUpperA x0.1
 let a21:=a20++[32,79,78,32]
 let a22:=a21++x0.2.1
 let a23:=a22++[32,84,79,32]
 let a24:=List.take ((↑(length x0.1):Int).toNat - toNat 2) (List.drop (toNat 2) x0.1)
 let a25:=Lib.toUpperA a24
 let a26:=[82,69,86,79,75,69,32]++a25
 let a27:=a26++[32,79,78,32]
 let a28:=a27++x0.2.1
 let a29:=a28++[32,70,82,79,77,32]
 let a30:=a4++x0.2.2.1
 let a31:=a30++[32,40,32]
 let a32:=kB x0.2.2.2.1
 let a33:=a31++a32
 let a34:=kO [32] a5
 let a35:=a33++[32,41]
 let a36:=hP [32] a5
 let a37:=a30++[32,44,32]
 let a38:=a37++x0.2.2.2.2.2.2.2.2.2.2.2.2
 let a39:=a38++[32,79,78,32]
 let a40:=a39++x0.2.2.2.2.2.1
 let a41:=a30++[32,66,89,32]
 let a42:=getD x0.2.2.2.1 (toNat 0) (zj Sh.str)
 let a43:=a41++a42
 let a44:=a43++[32,83,85,77,32]
 let a45:=getD x0.2.2.2.1 (toNat 1) (zj Sh.str)
 let a46:=a44++a45
 ro x0 a0 a1 a2 a3 a4 a5 a6 a7 a8 a9 a10 a11 a12 a13 a14 a15 a16 a17 a18 a19 a20 a21 a22 a23 a24 a25 a26 a27 a28 a29 a30 a31 a32 a33 a34 a35 a36 a37 a38 a39 a40 a41 a42 a43 a44 a45 a46
theorem W5 (x0:Sem zp):rn yS 0 MT Tryz.f90 [zz zp x0] []=(lD x0).map (lf Tryz.f90 e0):=by kernel_rfl
def CI (x0:Sem zp):Option (zx (List.map some [Sh.str])):=zT [Sh.str] t0 100000000 (lD x0)
def rM (x0:Sem zp):Bool:=(CI x0).isSome
def fi (x0:Sem zp):Sem Sh.str:=(fun r:zx (List.map some [Sh.str])=>r.1) ((CI x0).getD (bF [Sh.str]))
def R8:zD:=zC [zp] [Sh.str] (fun x=>rM x.1) fun x=>(fi x.1,())
theorem Pg:FK 90 R8:=g6 (ks:=[zp]) (outs:=[Sh.str]) (keep:=MT) (gas:=400) (n:=100000000) (e:=e0) (t:=t0) (i:=fun x=>lD x.1) qW X9 (fun x=>W5 x.1) (KG _ _ _ _ _) (fun _=>by kernel_rfl) (fun _=>by kernel_rfl)

noncomputable def HF:=yS.addL [(89,R7),(90,R8)]
theorem yT:zm HF:=qW.addL <| fc Pf <| fc Pg gZ

abbrev zio:Nat→zY:=fun _=>{ }
theorem ze7:zA (HF).P 52 Tryz.f52 1:=aL (by kernel_rfl)
theorem zht (x0:Sem zp):rn HF 0 zio Tryz.f52 [zz zp x0] []=Tr.chk (jG (x3 x0)) (Tr.br (!eZ (x3 x0)) (Tr.ok (zt.ret (AV.tup [AV.str [],ai 1]) [])) (Tr.chk (rM (x3 x0)) (Tr.chk (Lg (fi (x3 x0))) (Tr.br ((cut (fi (x3 x0))).2 != 0) (Tr.ok (zt.ret (AV.tup [AV.str [],ai 1]) [])) (Tr.ok (zt.ret (AV.tup [AV.str (fi (x3 x0)),ai 0]) [])))))):=by kernel_rfl
def oY (x0:Sem zp):Sem Sh.str×Sem zg:=(if (!eZ x0)=true then ([],1) else if ((cut (fi x0)).2 != 0)=true then ([],1) else (fi x0,0))
def qr (x0:Sem zp):Bool:=(if jG x0=true then if (!eZ x0)=true then true else if rM x0=true then if Lg (fi x0)=true then true else false else false else false)
def F52:zD:=zC [zp] [Sh.str,zg] (fun x=>qr x.1) fun x=>((oY x.1).1,(oY x.1).2,())
theorem zbo:FK 52 F52:=by
 refine zM (ze7) fun x hc C hC=>?_
 unfold qr at hc
 refine zk yT (ze7) (fun id _=>hC id) (zht x.1) ?_
 generalize hy:oY x.1=y
 unfold oY at hy
 try simp only [HO]
 repeat' (first | with_reducible refine eY hy hc (fun _ hy hc=>?_) (fun _ hy hc=>?_) | with_reducible refine aR hy (fun _ hy=>?_) (fun _ hy=>?_) | with_reducible refine bm hc (fun hc=>?_) | with_reducible refine zr ?_)
 all_goals first | (cases hc; done) | (subst hy; first | rfl)

noncomputable def HG:=HF.add 52 F52
theorem yU:zm HG:=yT.add zbo

abbrev zil:Nat→zY:=fun _=>{ }
theorem zeQ:zA (HG).P 23 Tryz.f23 1:=aL (by kernel_rfl)
theorem zhb (x0:Sem zp):rn HG 0 zil Tryz.f23 [zz zp x0] []=Tr.chk (qr (x3 x0)) (Tr.ok (zt.ret (AV.bool ((oY (x3 x0)).2==0)) [])):=by kernel_rfl
def fj (x0:Sem zp):Sem Sh.bool:=((oY x0).2==0)
def oX (x0:Sem zp):Bool:=(if qr x0=true then true else false)
def F31:zD:=zC [zp] [Sh.bool] (fun x=>oX x.1) fun x=>(fj x.1,())
theorem za3:FK 23 F31:=by
 refine zM (zeQ) fun x hc C hC=>?_
 unfold oX at hc
 refine zk yU (zeQ) (fun id _=>hC id) (zhb x.1) ?_
 generalize hy:fj x.1=y
 unfold fj at hy
 try simp only [HO]
 repeat' (first | with_reducible refine eY hy hc (fun _ hy hc=>?_) (fun _ hy hc=>?_) | with_reducible refine aR hy (fun _ hy=>?_) (fun _ hy=>?_) | with_reducible refine bm hc (fun hc=>?_) | with_reducible refine zr ?_)
 all_goals first | (cases hc; done) | (subst hy; first | rfl)

noncomputable def lB:=HG.add 23 F31
theorem gw:zm lB:=yU.add za3

noncomputable def zaM:zD:=zS (List.replicate 2 none) (bU lB Tryz.f37 (List.replicate 2 none))
theorem Wk:FK 37 zaM:=ap _ gw (aL (by kernel_rfl))

abbrev zd8:Nat→zY:=fun _=>{ }
theorem Ug:zA (lB).P 24 Tryz.f24 1:=aL (by kernel_rfl)
theorem zc6 (x0:TS):rn lB 0 zd8 Tryz.f24 [zz Sh.str x0] []=Tr.br (decide ((↑(length x0):Int) > 20)) (Tr.chk (decide (0≤0)&&decide (0≤20)&&decide (20≤(↑(length x0):Int))) (Tr.ok (zt.ret (AV.str (List.take (toNat 20 - toNat 0) (List.drop (toNat 0) x0))) []))) (Tr.ok (zt.ret (AV.str x0) [])):=by kernel_rfl
def bl (x0:TS):Sem Sh.str:=(if decide ((↑(length x0):Int) > 20)=true then List.take (toNat 20 - toNat 0) (List.drop (toNat 0) x0) else x0)
def dU (x0:TS):Bool:=(if decide ((↑(length x0):Int) > 20)=true then if (decide (0≤0)&&decide (0≤20)&&decide (20≤(↑(length x0):Int)))=true then true else false else true)
def ZW:zD:=zC [Sh.str] [Sh.str] (fun x=>dU x.1) fun x=>(bl x.1,())
theorem Vn:FK 24 ZW:=by
 refine zM (Ug) fun x hc C hC=>?_
 unfold dU at hc
 refine zk gw (Ug) (fun id _=>hC id) (zc6 x.1) ?_
 generalize hy:bl x.1=y
 unfold bl at hy
 try simp only [ze.eta]
 repeat' (first | with_reducible refine eY hy hc (fun _ hy hc=>?_) (fun _ hy hc=>?_) | with_reducible refine aR hy (fun _ hy=>?_) (fun _ hy=>?_) | with_reducible refine bm hc (fun hc=>?_) | with_reducible refine zr ?_)
 all_goals first | (cases hc; done) | (subst hy; first | rfl)

abbrev XO:Nat→zY:=fun _=>{ }
theorem Nq:zA (lB).P 102 Tryz.f102 3:=aL (by kernel_rfl)
theorem Xc (x0:Sem zf.sl) (x1:Sem zg) (x2:Sem zf):rn lB 0 XO Tryz.f102 [zz zf.sl x0,zz zg x1,zz zf x2] []=Tr.chk (bif decide (x1 ≥ 0) then bif decide (x1 < (↑(length x0):Int)) then zF x1 (length x0) else true else true) (Tr.ok (zt.ret (AV.bool (bif decide (x1 ≥ 0) then bif decide (x1 < (↑(length x0):Int)) then (getD x0 (toNat x1) (zj zf)).1==x2.1&&((getD x0 (toNat x1) (zj zf)).2.1==x2.2.1&&((getD x0 (toNat x1) (zj zf)).2.2==x2.2.2&&true)) else false else false)) [])):=by kernel_rfl
def lc (x0:Sem zf.sl) (x1:Sem zg) (x2:Sem zf):Sem Sh.bool:=(bif decide (x1 ≥ 0) then bif decide (x1 < (↑(length x0):Int)) then (getD x0 (toNat x1) (zj zf)).1==x2.1&&((getD x0 (toNat x1) (zj zf)).2.1==x2.2.1&&((getD x0 (toNat x1) (zj zf)).2.2==x2.2.2&&true)) else false else false)
def tF (x0:Sem zf.sl) (x1:Sem zg) (_:Sem zf):Bool:=(if (bif decide (x1 ≥ 0) then bif decide (x1 < (↑(length x0):Int)) then zF x1 (length x0) else true else true)=true then true else false)
def SD:zD:=zC [zf.sl,zg,zf] [Sh.bool] (fun x=>tF x.1 x.2.1 x.2.2.1) fun x=>(lc x.1 x.2.1 x.2.2.1,())
theorem Hl:FK 102 SD:=by
 refine zM (Nq) fun x hc C hC=>?_
 unfold tF at hc
 refine zk gw (Nq) (fun id _=>hC id) (Xc x.1 x.2.1 x.2.2.1) ?_
 generalize hy:lc x.1 x.2.1 x.2.2.1=y
 unfold lc at hy
 try simp only [ze.eta]
 repeat' (first | with_reducible refine eY hy hc (fun _ hy hc=>?_) (fun _ hy hc=>?_) | with_reducible refine aR hy (fun _ hy=>?_) (fun _ hy=>?_) | with_reducible refine bm hc (fun hc=>?_) | with_reducible refine zr ?_)
 all_goals first | (cases hc; done) | (subst hy; first | rfl)

abbrev TZ:Nat→zY:=fun j=>if j=2 then { slots:=[0,1,5] } else { }
abbrev xn (l0:List (Sem zh)) (s1:TS) (i5:Int):St:={ tmps:=(tm 21 [(0,AV.sl zh l0),(1,AV.str s1),(5,ai i5)]),heap:=[] }
theorem Ib:zA (lB).P 69 Tryz.f69 2:=aL (by kernel_rfl)
theorem zc4 (x0:Sem zh.sl) (x1:TS):rn lB 0 TZ Tryz.f69 [zz zh.sl x0,zz Sh.str x1] []=Tr.ok (zt.head 2 (zy Tryz.f69 2) (xn x0 x1 0)):=by kernel_rfl
theorem Il (l0:List (Sem zh)) (s1:TS) (i5:Int):rh lB 0 TZ Tryz.f69 2 (xn l0 s1 i5)=Tr.br (decide (i5 < (↑l0.length:Int))) (Tr.chk (zF i5 l0.length) (Tr.br ((l0.getD i5.toNat (zj zh)).1.1==s1) (Tr.ok (zt.ret (ai i5) [])) (Tr.ok (zt.head 2 (zy Tryz.f69 2) (xn l0 s1 (IntKind.i64.wrap (i5+1))))))) (Tr.ok (zt.ret (ai (-1)) [])):=by kernel_rfl
def dK (s1:TS):List
 (Sem zh)→Int→Sem zg
 | [],_=>(-1)
 | x::r,i5=>(if (x.1.1==s1)=true then i5 else dK s1 r (i5+1))
theorem Qc {C:cr} (hC:∀ id,C.ρ0 id=none) (s1:TS) (l0:List
 (Sem zh)) (hl:l0.length≤zE):∀ (m i:Nat),l0.length - i=m→i≤l0.length→
  Reach (lB) C 69 (zy Tryz.f69 2) (xn l0 s1 (i:Int)) (fun r h=>ae h [zg] r=some (dK s1 (l0.drop i) i,())):=by
 intro m
 induction m with
 | zero=>
  intro i hm hi
  obtain rfl:i=l0.length:=by omega
  rw [dj]
  refine zk gw (Ib) (fun id _=>hC id) (Il _ _ _) ?_
  generalize hy:dK s1 [] _=y
  rw [dK] at hy
  simp only [ag,Tr.val_brF]
  repeat' (first | with_reducible refine aR hy (fun _ hy=>?_) (fun _ hy=>?_) | with_reducible refine zr ?_)
  all_goals first | (cases hc; done) | (subst hy; first | rfl)
 | succ m IH=>
  intro i hm hi
  have hlt:i < l0.length:=by omega
  have IH:=IH (i+1)
  have hcast:((i:Int)+1)=((i+1:Nat):Int):=by omega
  have hwr:=zH i (by omega)
  rw [dB hlt]
  refine zk gw (Ib) (fun id _=>hC id) (Il _ _ _) ?_
  generalize hy:dK s1 (l0[i]::l0.drop (i+1)) (i:Int)=y
  rw [dK] at hy
  simp only [zX hlt,zG hlt,ac l0 _ hlt,hwr,Tr.val_brT,Tr.val_chkT]
  clear hwr
  try simp only [zG hlt] at hy
  simp only [hcast] at hy
  repeat' (first | with_reducible refine aR hy (fun _ hy=>?_) (fun _ hy=>?_) | with_reducible refine zr ?_)
  all_goals first | (cases hc; done) | (subst hy; first | (change Reach _ _ _ _ _ _; apply IH <;> first | omega | assumption) | rfl)
theorem K4 {C:cr} (hC:∀ id,C.ρ0 id=none) (s1:TS) (l0:List
 (Sem zh)):
  Reach (lB) C 69 (zy Tryz.f69 2) (xn l0 s1 0) (fun r h=>ae h [zg] r=some (dK s1 l0 0,())):=
 Reach.len 0 zh l0 rfl fun hl=>Qc hC s1 l0 hl _ 0 rfl (aE _)
def w9 (x0:Sem zh.sl) (x1:TS):Sem zg:=(dK x1 x0 0)
def ZK:zD:=ao [zh.sl,Sh.str] [zg] fun x=>(w9 x.1 x.2.1,())
theorem Vb:FK 69 ZK:=by
 refine zP (Ib) fun x C hC=>?_
 refine zk gw (Ib) (fun id _=>hC id) (zc4 x.1 x.2.1) ?_
 generalize hy:w9 x.1 x.2.1=y
 unfold w9 at hy
 try simp only [ze.eta]
 repeat' (first | with_reducible refine aR hy (fun _ hy=>?_) (fun _ hy=>?_) | with_reducible refine zr ?_)
 all_goals first | (cases hc; done) | (subst hy; first | (change Reach _ _ _ _ _ _; apply K4 hC <;> first | assumption | exact hc) | rfl)

noncomputable def nW:=lB.addL [(37,zaM),(24,ZW),(102,SD),(69,ZK)]
theorem iR:zm nW:=gw.addL <| fc Wk <| fc Vn <| fc Hl <| fc Vb gZ

theorem Cy (x:Sem (Sh.sl zf)) (c:Int) (v:Sem zf):tF x c v=true:=by
 unfold tF
 by_cases h1:(c:Int) ≥ 0
 ·by_cases h2:c < (length x:Int)
  ·have h3:zF c (length x)=true:=by simp [zF]; exact ⟨h1,h2⟩
   simp [ba h1,ba h2,h3]
  ·simp [ba h1,ei h2]
 ·simp [ei h1]
def SE:zD:=ao [Sh.sl zf,zg,zf] [Sh.bool] fun x=>(lc x.1 x.2.1 x.2.2.1,())
theorem PK:FK 102 SE:=eG Hl fun x=>Cy x.1 x.2.1 x.2.2.1

abbrev T3:Nat→zY:=fun j=>if j=3 then { slots:=[0,3,4],prom:=[(3,none,.str)] } else { }
abbrev xp (l0:LS) (i4:Int) (lh_0:LS):St:={ tmps:=(tm 24 [(0,AV.sl Sh.str l0),(3,AV.vec 0),(4,ai i4)]),heap:=[AO.vec Sh.str lh_0] }
theorem Ic:zA (nW).P 25 Tryz.f25 1:=aL (by kernel_rfl)
theorem zc7 (x0:Sem Sh.str.sl):rn nW 0 T3 Tryz.f25 [zz Sh.str.sl x0] []=Tr.ok (zt.head 3 (zy Tryz.f25 3) (xp x0 0 [])):=by kernel_rfl
theorem Im (l0:LS) (i4:Int) (lh_0:LS):rh nW 0 T3 Tryz.f25 3 (xp l0 i4 lh_0)=Tr.br (bif decide (i4 < (↑l0.length:Int)) then decide (i4 < 10) else false) (Tr.chk (zF i4 l0.length) (Tr.chk (dU (l0.getD i4.toNat (zj Sh.str))) (Tr.chk (decide (lh_0.length+[bl (l0.getD i4.toNat (zj Sh.str))].length≤1073741824)) (Tr.ok (zt.head 3 (zy Tryz.f25 3) (xp l0 (IntKind.i64.wrap (i4+1)) (lh_0++[bl (l0.getD i4.toNat (zj Sh.str))]))))))) (Tr.ok (zt.ret (AV.vec 0) [AO.vec Sh.str lh_0])):=by kernel_rfl
def dp:List (Sem Sh.str)→Int→List (Sem Sh.str)→Sem Sh.str.sl
 | [],_,lh_0=>(lh_0)
 | x::r,i4,lh_0=>(if decide (i4 < 10)=true then dp r (i4+1) (lh_0++[bl x]) else lh_0)
def ex:List (Sem Sh.str)→Int→List (Sem Sh.str)→Bool
 | [],_,_=>(true)
 | x::r,i4,lh_0=>(if decide (i4 < 10)=true then
 if dU x=true then if decide (lh_0.length+[bl x].length≤1073741824)=true then ex r (i4+1) (lh_0++[bl x]) else false else false
else true)
theorem Qd {C:cr} (hC:∀ id,C.ρ0 id=none) (l0:LS) (hl:l0.length≤zE):∀ (m i:Nat) (lh_0:LS),l0.length - i=m→i≤l0.length→ex (l0.drop i) i lh_0=true→
  Reach (nW) C 25 (zy Tryz.f25 3) (xp l0 (i:Int) lh_0) (fun r h=>ae h [Sh.str.sl] r=some (dp (l0.drop i) i lh_0,())):=by
 intro m
 induction m with
 | zero=>
  intro i lh_0 hm hi hc
  obtain rfl:i=l0.length:=by omega
  rw [dj] at hc ⊢
  refine zk iR (Ic) (fun id _=>hC id) (Im _ _ _) ?_
  rw [ex] at hc
  generalize hy:dp [] _ lh_0=y
  rw [dp] at hy
  simp only [ag,bQ,Tr.val_brF]
  repeat' (first | with_reducible refine eY hy hc (fun _ hy hc=>?_) (fun _ hy hc=>?_) | with_reducible refine aR hy (fun _ hy=>?_) (fun _ hy=>?_) | with_reducible refine bm hc (fun hc=>?_) | with_reducible refine zr ?_)
  all_goals first | (cases hc; done) | (subst hy; first | rfl)
 | succ m IH=>
  intro i lh_0 hm hi hc
  have hlt:i < l0.length:=by omega
  have IH:=IH (i+1)
  have hcast:((i:Int)+1)=((i+1:Nat):Int):=by omega
  have hwr:=zH i (by omega)
  rw [dB hlt] at hc ⊢
  refine zk iR (Ic) (fun id _=>hC id) (Im _ _ _) ?_
  rw [ex] at hc
  generalize hy:dp (l0[i]::l0.drop (i+1)) (i:Int) lh_0=y
  rw [dp] at hy
  simp only [zX hlt,zG hlt,ac l0 _ hlt,hwr,bA]
  clear hwr
  try simp only [zG hlt] at hy
  simp only [hcast] at hy
  try simp only [zG hlt] at hc
  try simp only [hcast] at hc
  repeat' (first | with_reducible refine eY hy hc (fun _ hy hc=>?_) (fun _ hy hc=>?_) | with_reducible refine aR hy (fun _ hy=>?_) (fun _ hy=>?_) | with_reducible refine bm hc (fun hc=>?_) | with_reducible refine zr ?_)
  all_goals first | (cases hc; done) | (subst hy; first | (change Reach _ _ _ _ _ _; apply IH <;> first | omega | assumption) | rfl)
theorem K6 {C:cr} (hC:∀ id,C.ρ0 id=none) (l0:LS) (lh_0:LS) (hc:ex l0 0 lh_0=true):
  Reach (nW) C 25 (zy Tryz.f25 3) (xp l0 0 lh_0) (fun r h=>ae h [Sh.str.sl] r=some (dp l0 0 lh_0,())):=
 Reach.len 0 (Sh.str) l0 rfl fun hl=>Qd hC l0 hl _ 0 lh_0 rfl (aE _) hc
def fO (x0:Sem Sh.str.sl):Sem Sh.str.sl:=(dp x0 0 [])
def mo (x0:Sem Sh.str.sl):Bool:=(ex x0 0 [])
def ZZ:zD:=zC [Sh.str.sl] [Sh.str.sl] (fun x=>mo x.1) fun x=>(fO x.1,())
theorem Vq:FK 25 ZZ:=by
 refine zM (Ic) fun x hc C hC=>?_
 unfold mo at hc
 refine zk iR (Ic) (fun id _=>hC id) (zc7 x.1) ?_
 generalize hy:fO x.1=y
 unfold fO at hy
 try simp only [ze.eta]
 repeat' (first | with_reducible refine eY hy hc (fun _ hy hc=>?_) (fun _ hy hc=>?_) | with_reducible refine aR hy (fun _ hy=>?_) (fun _ hy=>?_) | with_reducible refine bm hc (fun hc=>?_) | with_reducible refine zr ?_)
 all_goals first | (cases hc; done) | (subst hy; first | (change Reach _ _ _ _ _ _; apply K6 hC <;> first | assumption | exact hc) | rfl)

abbrev tK (s:zl) (l:List (Sem zh)) (i:Int):St:={ tmps:=[.sl zh l,.clo (.func 37) [] [.ptr 0 0],.any,.any,.any,.any,.any,.int .i64 l.length,.int .i64 i,.any,.any,.any,.any,.any,.any,.any,.any,.any,.any],heap:=[.box [.str s]] }
theorem Md (s:zl) (l:List (Sem zh)):run nW 1 lO Tryz.f36.results.toList 300 (aA Tryz.f36) (af Tryz.f36.ntmps [.sl zh l,.clo (.func 37) [] [.ptr 0 0]] [.box [.str s]])=.ok (.head 2 (zy Tryz.f36 2) (tK s l 0)):=by kernel_rfl
theorem NK (s:zl) (l:List (Sem zh)) (i:Int):run nW 1 lO Tryz.f36.results.toList 300 (zy Tryz.f36 2) (tK s l i)=hZ (K:=zy Tryz.f36 2) (e:=zh) l (fun x=>x.1.1==s) (tK s l) [.box [.str s]] i:=by kernel_rfl

theorem Ny:zA nW.P 36 Tryz.f36 2:=aL (by kernel_rfl)
def zcn:cz [some (.sl zh),none]:=fun x h=>match x,h with
 | (l,.clo (.func 37) [] [.ptr 0 0],_),[.box [.str s]]=>.ok (.int .i64 (zR (fun x=>x.1.1==s) l 0),[.box [.str s]])
 | _,_=>.err
def zaL:zD:=zS [some (.sl zh),none] zcn
theorem Wj:FK 36 zaL:=by
 refine bt Ny fun x h0 res hx C hC=>?_
 unfold zcn at hx
 split at hx
 ·rename_i l u s
  simp only [Tr.val_ok,aq] at hx
  subst hx
  refine Reach.len 0 zh l rfl fun hl=>?_
  refine zk (n0:=1) iR Ny hC (Md s l) ?_
  exact eP l (fun x=>x.1.1==s) (tK s l) iR Ny hC (NK s l) hl _ 0 rfl (aE _)
 ·simp at hx

noncomputable def DN:=nW.addL [(102,SE),(25,ZZ),(36,zaL)]
theorem qX:zm DN:=iR.addL <| fc PK <| fc Vq <| fc Wj gZ

noncomputable def SC:zD:=zS (List.replicate 3 none) (bU DN Tryz.f101 (List.replicate 3 none))
theorem PJ:FK 101 SC:=ap _ qX (aL (by kernel_rfl))

abbrev zei:Nat→zY:=fun _=>{ }
theorem Ui:zA (DN).P 16 Tryz.f16 2:=aL (by kernel_rfl)
theorem zdd (x0:Sem zh.sl) (x1:TS):rn DN 0 zei Tryz.f16 [zz zh.sl x0,zz Sh.str x1] []=Tr.ok (zt.ret (ai (zR (fun x=>x.1.1==x1) x0 0)) []):=by kernel_rfl
def aj (x0:Sem zh.sl) (x1:TS):Sem zg:=(zR (fun x=>x.1.1==x1) x0 0)
def zaj:zD:=ao [zh.sl,Sh.str] [zg] fun x=>(aj x.1 x.2.1,())
theorem VN:FK 16 zaj:=by
 refine zP (Ui) fun x C hC=>?_
 refine zk qX (Ui) (fun id _=>hC id) (zdd x.1 x.2.1) ?_
 generalize hy:aj x.1 x.2.1=y
 unfold aj at hy
 try simp only [ze.eta]
 repeat' (first | with_reducible refine aR hy (fun _ hy=>?_) (fun _ hy=>?_) | with_reducible refine zr ?_)
 all_goals first | (cases hc; done) | (subst hy; first | rfl)

noncomputable def DO:=DN.addL [(101,SC),(16,zaj)]
theorem qY:zm DO:=qX.addL <| fc PJ <| fc VN gZ

abbrev nA (c a b:Int) (s:zl) (l:List (Sem (Sh.sl zf))) (i:Int):St:={ tmps:=[.sl (Sh.sl zf) l,.clo (.func 101) [] [.ptr 0 0,.ptr 1 0],.any,.any,.any,.any,.any,.int .i64 l.length,.int .i64 i,.any,.any,.any,.any,.any,.any,.any,.any,.any,.any],heap:=[.box [.int .i64 c],.box [.int .i64 a,.int .i64 b,.str s]] }
theorem Gc (c a b:Int) (s:zl) (l:List (Sem (Sh.sl zf))):run DO 2 lO Tryz.f88.results.toList 300 (aA Tryz.f88) (af Tryz.f88.ntmps [.sl (Sh.sl zf) l,.clo (.func 101) [] [.ptr 0 0,.ptr 1 0]] [.box [.int .i64 c],.box [.int .i64 a,.int .i64 b,.str s]])=.ok (.head 2 (zy Tryz.f88 2) (nA c a b s l 0)):=by kernel_rfl
theorem Gz (c a b:Int) (s:zl) (l:List (Sem (Sh.sl zf))) (i:Int):run DO 2 lO Tryz.f88.results.toList 300 (zy Tryz.f88 2) (nA c a b s l i)=hZ (K:=zy Tryz.f88 2) (e:=(Sh.sl zf)) l (fun x=>lc x c (a,b,s)) (nA c a b s l) [.box [.int .i64 c],.box [.int .i64 a,.int .i64 b,.str s]] i:=by kernel_rfl

theorem Gx:zA DO.P 88 Tryz.f88 2:=aL (by kernel_rfl)
def Ta:cz [some (.sl (Sh.sl zf)),none]:=fun x h=>match x,h with
 | (l,.clo (.func 101) [] [.ptr 0 0,.ptr 1 0],_),[.box [.int .i64 c],.box [.int .i64 a,.int .i64 b,.str s]]=>.ok (.int .i64 (zR (fun x=>lc x c (a,b,s)) l 0),[.box [.int .i64 c],.box [.int .i64 a,.int .i64 b,.str s]])
 | _,_=>.err
def SL:zD:=zS [some (.sl (Sh.sl zf)),none] Ta
theorem PR:FK 88 SL:=by
 refine bt Gx fun x h0 res hx C hC=>?_
 unfold Ta at hx
 split at hx
 ·rename_i l u c a b s
  simp only [Tr.val_ok,aq] at hx
  subst hx
  refine Reach.len 0 (Sh.sl zf) l rfl fun hl=>?_
  refine zk (n0:=2) qY Gx hC (Gc c a b s l) ?_
  exact eP l (fun x=>lc x c (a,b,s)) (nA c a b s l) qY Gx hC (Gz c a b s l) hl _ 0 rfl (aE _)
 ·simp at hx

noncomputable def LK:=DO.add 88 SL
theorem yV:zm LK:=qY.add PR

noncomputable def SB:zD:=zS (List.replicate 2 none) (bU LK Tryz.f100 (List.replicate 2 none))
theorem PI:FK 100 SB:=ap _ yV (aL (by kernel_rfl))

noncomputable def HH:=LK.add 100 SB
theorem qZ:zm HH:=yV.add PI
noncomputable section

abbrev XF:Nat→zY:=fun _=>{ }
theorem Nk:zA (HH).P 59 Tryz.f59 3:=aL (by kernel_rfl)
theorem W6 (x0:Sem zh) (x1:Sem zg) (x2:Sem zf):rn HH 0 XF Tryz.f59 [zz zh x0,zz zg x1,zz zf x2] []=Tr.ok (zt.ret (AV.bool (decide (zR (fun x=>lc x x1 x2) x0.2 0 ≥ 0))) []):=by kernel_rfl
def lP (x0:Sem zh) (x1:Sem zg) (x2:Sem zf):Sem Sh.bool:=(decide (zR (fun x=>lc x x1 x2) x0.2 0 ≥ 0))
def Sa:zD:=ao [zh,zg,zf] [Sh.bool] fun x=>(lP x.1 x.2.1 x.2.2.1,())
theorem Pi:FK 59 Sa:=by
 refine zP (Nk) fun x C hC=>?_
 refine zk qZ (Nk) (fun id _=>hC id) (W6 x.1 x.2.1 x.2.2.1) ?_
 generalize hy:lP x.1 x.2.1 x.2.2.1=y
 unfold lP at hy
 try simp only [ze.eta]
 repeat' (first | with_reducible refine aR hy (fun _ hy=>?_) (fun _ hy=>?_) | with_reducible refine zr ?_)
 all_goals first | (cases hc; done) | (subst hy; first | rfl)

abbrev XE:=jL [(3,[1,5,11,12,13])]
inductive yl where
 | h3 (i1:Sem zg) (l11:List (Sem zf.sl)) (i12:Int) (i13:Int) (mh_0:List ((Int×Int×zl)×Int))
abbrev zcJ:yl→Nat×St
 | .h3 i1 l11 i12 i13 mh_0=>(3,⟨tm 37 [(1,ai i1),(5,AV.mp 0),(11,AV.sl zf.sl l11),(12,ai i12),(13,ai i13)],[AO.vmap false mh_0]⟩)
def TL (x0:Sem zh) (x1:Sem zg):Tr (yl ⊕ zV):=Tr.to (yl.h3 x1 x0.2 (↑(length x0.2):Int) 0 [])
def sK:yl→Tr (yl ⊕ zV)
 | .h3 i1 l11 i12 i13 mh_0=>
  let a0:=l11.getD i13.toNat (zj zf.sl)
  let a1:=getD a0 (toNat i1) (zj zf)
  let a2:=(↑(jn mh_0 a1):Int)
  let a3:=gX mh_0 a1
  let a4:=ic a3 a2.toNat (IntKind.i64.wrap (fb mh_0 a1+1))
  let a5:=fb a4 a1
  Tr.br (decide (i13 < i12))
  (Tr.chk (zF i13 l11.length)
   (Tr.chk (zF i1 (length a0)) (Tr.chk (decide (mh_0.length≤1073741824)) (Tr.chk (zF a2 a3.length) (Tr.br (bif a1.1 != 0 then decide (a5 > 1) else false) (Tr.re (AV.kb true) []) (Tr.to (yl.h3 i1 l11 i12 (IntKind.i64.wrap (i13+1)) a4)))))))
  (Tr.re (AV.kb false) [])
def tG (x0:Sem zh) (x1:Sem zg):=zT [Sh.bool] sK 100000000 (TL x0 x1)
def nq (x0:Sem zh) (x1:Sem zg):=(tG x0 x1).isSome
def rG (x0:Sem zh) (x1:Sem zg):=o1 (tG x0 x1)
def R9:=FT [zh,zg] [Sh.bool] fun x=>tG x.1 x.2.1
theorem Ph:FK 57 R9:=qZ.T1 (f:=Tryz.f57) (keep:=XE) (e:=zcJ)

def To:=HH.addL [(59,Sa),(57,R9)]
theorem ra:zm To:=qZ.addL <| fc Pi <| fc Ph gZ
end
noncomputable section

abbrev zes:=jL [(6,[1,18,19,20]),(15,[1,39,40,41]),(21,[1,8])]
inductive xR where
 | h6 (l18:List (Sem zf.sl)) (i19:Int) (i20:Int) (z0:zu [CP.d zh])
 | h15 (l39:LI) (i40:Int) (i41:Int) (z0:zu [CP.d zh])
 | h21 (i8:Int) (z0:zu [CP.d zh])
abbrev zgO:xR→Nat×St
 | .h6 l18 i19 i20 z0=>(6,⟨tm 79 [(1,AV.ptr 0 0),(18,AV.sl zf.sl l18),(19,ai i19),(20,ai i20)],[AO.box (bh [] [CP.d zh] z0)]⟩)
 | .h15 l39 i40 i41 z0=>(15,⟨tm 79 [(1,AV.ptr 0 0),(39,AV.sl zg l39),(40,ai i40),(41,ai i41)],[AO.box (bh [] [CP.d zh] z0)]⟩)
 | .h21 i8 z0=>(21,⟨tm 79 [(1,AV.ptr 0 0),(8,ai i8)],[AO.box (bh [] [CP.d zh] z0)]⟩)
def JY (x0:Sem zh):Tr (xR ⊕ zV):=Tr.br (!iK (x0.1.1,x0.1.2.1,x0.1.2.2.1,x0.1.2.2.2.1,x0.1.2.2.2.2.1,zB x0.1.2.2.2.2.2)) (Tr.re (ai 1) []) (Tr.br (decide ((↑(length x0.2):Int) > 200)) (Tr.re (ai 13) []) (Tr.to (xR.h6 x0.2 (↑(length x0.2):Int) 0 (x0,()))))
def fG:xR→Tr (xR ⊕ zV)
 | .h6 l18 i19 i20 z0=>
  let a0:=(z0.1.1.1,z0.1.1.2.1,z0.1.1.2.2.1,z0.1.1.2.2.2.1,z0.1.1.2.2.2.2.1,zB z0.1.1.2.2.2.2.2)
  let a1:=io a0 (l18.getD i20.toNat (zj zf.sl))
  let a2:=(a0,z0.1.2)
  Tr.br (decide (i20 < i19))
  (Tr.chk (zF i20 l18.length) (Tr.br (a1 != 0) (Tr.re (ai a1) []) (Tr.to (xR.h6 l18 i19 (IntKind.i64.wrap (i20+1)) z0))))
  (Tr.chk (nq a2 z0.1.1.2.2.1)
   (Tr.br (rG a2 z0.1.1.2.2.1) (Tr.re (ai 7) []) (Tr.to (xR.h15 z0.1.1.2.2.2.1 (↑(length z0.1.1.2.2.2.1):Int) 0 z0))))
 | .h15 l39 i40 i41 z0=>
  let a0:=((z0.1.1.1,z0.1.1.2.1,z0.1.1.2.2.1,z0.1.1.2.2.2.1,z0.1.1.2.2.2.2.1,zB z0.1.1.2.2.2.2.2),z0.1.2)
  let a1:=l39.getD i41.toNat (zj zg)
  Tr.br (decide (i41 < i40))
  (Tr.chk (zF i41 l39.length)
   (Tr.chk (nq a0 a1) (Tr.br (rG a0 a1) (Tr.re (ai 7) []) (Tr.to (xR.h15 l39 i40 (IntKind.i64.wrap (i41+1)) z0)))))
  (Tr.to (xR.h21 1 z0))
 | .h21 i8 z0=>
  let a0:=(↑(length z0.1.2):Int)
  let a1:=IntKind.i64.wrap (i8 - 1)
  let a2:=getD z0.1.2 a1.toNat (zj zf.sl)
  let a3:=getD z0.1.2 i8.toNat (zj zf.sl)
  let a4:=aS (getD a2 (toNat z0.1.1.2.2.1) (zj zf)) (getD a3 (toNat z0.1.1.2.2.1) (zj zf))
  Tr.br (decide (i8 < a0))
  (Tr.chk (zF a1 (length z0.1.2))
   (Tr.chk (zF z0.1.1.2.2.1 (length a2)) (Tr.chk (zF i8 (length z0.1.2)) (Tr.chk (zF z0.1.1.2.2.1 (length a3)) (Tr.br (decide (a4 ≥ 0)) (Tr.re (ai 15) []) (Tr.to (xR.h21 (IntKind.i64.wrap (i8+1)) z0)))))))
  (Tr.re (ai 0) [])
def k9 (x0:Sem zh):=zT [zg] fG 100000000 (JY x0)
def np (x0:Sem zh):=(k9 x0).isSome
def rF (x0:Sem zh):=o1 (k9 x0)
def zau:=FT [zh] [zg] fun x=>k9 x.1
theorem V1:FK 29 zau:=ra.T1 (f:=Tryz.f29) (keep:=zes) (e:=zgO)

abbrev zet:=jL [(2,[0,11,12,13]),(5,[0,4,11,12,13,19,20,21]),(11,[0,4,6,7,11,12,13,19,20,21,32,33,34])]
inductive xS where
 | h2 (l0:List (Sem zh)) (l11:List (Sem zh)) (i12:Int) (i13:Int)
 | h5 (l0:List (Sem zh)) (l11:List (Sem zh)) (i12:Int) (i13:Int) (l19:LF) (i20:Int) (i21:Int) (z0:zu [CP.d zh])
 | h11 (l0:List (Sem zh)) (i7:Sem zg) (l11:List (Sem zh)) (i12:Int) (i13:Int) (l19:LF) (i20:Int) (i21:Int) (l32:List (Sem zf.sl)) (i33:Int) (i34:Int) (z0:zu [CP.d zh]) (z1:zu [CP.d zq])
abbrev zgP:xS→Nat×St
 | .h2 l0 l11 i12 i13=>(2,⟨tm 64 [(0,AV.sl zh l0),(11,AV.sl zh l11),(12,ai i12),(13,ai i13)],[]⟩)
 | .h5 l0 l11 i12 i13 l19 i20 i21 z0=>(5,⟨tm 64 [(0,AV.sl zh l0),(4,AV.ptr 0 0),(11,AV.sl zh l11),(12,ai i12),(13,ai i13),(19,AV.sl zq l19),(20,ai i20),(21,ai i21)],[AO.box (bh [] [CP.d zh] z0)]⟩)
 | .h11 l0 i7 l11 i12 i13 l19 i20 i21 l32 i33 i34 z0 z1=>(11,⟨tm 64 [(0,AV.sl zh l0),(4,AV.ptr 0 0),(6,AV.ptr 1 0),(7,ai i7),(11,AV.sl zh l11),(12,ai i12),(13,ai i13),(19,AV.sl zq l19),(20,ai i20),(21,ai i21),(32,AV.sl zf.sl l32),(33,ai i33),(34,ai i34)],[AO.box (bh [] [CP.d zh] z0),AO.box (bh [] [CP.d zq] z1)]⟩)
def zdW (x0:Sem zh.sl):Tr (xS ⊕ zV):=Tr.to (xS.h2 x0 x0 (↑(length x0):Int) 0)
def fk:xS→Tr (xS ⊕ zV)
 | .h2 l0 l11 i12 i13=>
  let a0:=l11.getD i13.toNat (zj zh)
  Tr.br (decide (i13 < i12))
  (Tr.chk (zF i13 l11.length) (Tr.to (xS.h5 l0 l11 i12 i13 a0.1.2.2.2.2.1 (↑(length a0.1.2.2.2.2.1):Int) 0 (a0,()))))
  (Tr.re (AV.kb true) [])
 | .h5 l0 l11 i12 i13 l19 i20 i21 z0=>
  let a0:=l19.getD i21.toNat (zj zq)
  let a1:=aj l0 a0.2
  Tr.br (decide (i21 < i20))
  (Tr.chk (zF i21 l19.length)
   (Tr.br (decide (a1 < 0)) (Tr.re (AV.kb false) []) (Tr.to (xS.h11 l0 a1 l11 i12 i13 l19 i20 i21 z0.1.2 (↑(length z0.1.2):Int) 0 z0 (a0,())))))
  (Tr.to (xS.h2 l0 l11 i12 (IntKind.i64.wrap (i13+1))))
 | .h11 l0 i7 l11 i12 i13 l19 i20 i21 l32 i33 i34 z0 z1=>
  let a0:=l32.getD i34.toNat (zj zf.sl)
  let a1:=getD a0 (toNat z1.1.1) (zj zf)
  let a2:=a1.1 != 0
  let a3:=l0.getD (toNat i7) (zj zh)
  Tr.br (decide (i34 < i33))
  (Tr.chk (zF i34 l32.length)
   (Tr.chk (zF z1.1.1 (length a0)) (Tr.chk (bif a2 then zF i7 l0.length&&zF i7 l0.length else true) (Tr.br (bif a2 then !lP ((a3.1.1,a3.1.2.1,a3.1.2.2.1,a3.1.2.2.2.1,a3.1.2.2.2.2.1,zB a3.1.2.2.2.2.2),a3.2) a3.1.2.2.1 a1 else false) (Tr.re (AV.kb false) []) (Tr.to (xS.h11 l0 i7 l11 i12 i13 l19 i20 i21 l32 i33 (IntKind.i64.wrap (i34+1)) z0 z1))))))
  (Tr.to (xS.h5 l0 l11 i12 i13 l19 i20 (IntKind.i64.wrap (i21+1)) z0))
def pk (x0:Sem zh.sl):=zT [Sh.bool] fk 100000000 (zdW x0)
def mT (x0:Sem zh.sl):=(pk x0).isSome
def qJ (x0:Sem zh.sl):=o1 (pk x0)
def zav:=FT [zh.sl] [Sh.bool] fun x=>pk x.1
theorem V2:FK 30 zav:=ra.T1 (f:=Tryz.f30) (keep:=zet) (e:=zgP)

def Tp:=To.addL [(29,zau),(30,zav)]
theorem yW:zm Tp:=ra.addL <| fc V1 <| fc V2 gZ
end
noncomputable section

abbrev zec:=jL [(4,[0,3]),(9,[0,30,31,32])]
inductive Da where
 | h4 (l0:List (Sem zh)) (i3:Int)
 | h9 (l0:List (Sem zh)) (l30:List (Sem zh)) (i31:Int) (i32:Int)
abbrev zgE:Da→Nat×St
 | .h4 l0 i3=>(4,⟨tm 45 [(0,AV.sl zh l0),(3,ai i3)],[]⟩)
 | .h9 l0 l30 i31 i32=>(9,⟨tm 45 [(0,AV.sl zh l0),(30,AV.sl zh l30),(31,ai i31),(32,ai i32)],[]⟩)
def QT (x0:Sem zh.sl):Tr (Da ⊕ zV):=Tr.br (decide ((↑(length x0):Int) > 12)) (Tr.re (ai 13) []) (Tr.to (Da.h4 x0 1))
def lh:Da→Tr (Da ⊕ zV)
 | .h4 l0 i3=>
  let a0:=IntKind.i64.wrap (i3 - 1)
  let a1:=l0.getD a0.toNat (zj zh)
  let a2:=l0.getD i3.toNat (zj zh)
  Tr.br (decide (i3 < (↑l0.length:Int)))
  (Tr.chk (zF a0 l0.length)
   (Tr.chk (zF i3 l0.length) (Tr.br (!Op.bytesLess a1.1.1 a2.1.1) (Tr.re (ai 15) []) (Tr.to (Da.h4 l0 (IntKind.i64.wrap (i3+1)))))))
  (Tr.to (Da.h9 l0 l0 (↑l0.length:Int) 0))
 | .h9 l0 l30 i31 i32=>
  let a0:=l30.getD i32.toNat (zj zh)
  let a1:=((a0.1.1,a0.1.2.1,a0.1.2.2.1,a0.1.2.2.2.1,a0.1.2.2.2.2.1,zB a0.1.2.2.2.2.2),a0.2)
  let a2:=rF a1
  Tr.br (decide (i32 < i31))
  (Tr.chk (zF i32 l30.length)
   (Tr.chk (np a1) (Tr.br (a2 != 0) (Tr.re (ai a2) []) (Tr.to (Da.h9 l0 l30 i31 (IntKind.i64.wrap (i32+1)))))))
  (Tr.chk (mT l0) (Tr.br (!qJ l0) (Tr.re (ai 10) []) (Tr.re (ai 0) [])))
def pl (x0:Sem zh.sl):=zT [zg] lh 100000000 (QT x0)
def td (x0:Sem zh.sl):=(pl x0).isSome
def lZ (x0:Sem zh.sl):=o1 (pl x0)
def Z6:=FT [zh.sl] [zg] fun x=>pl x.1
theorem Vz:FK 11 Z6:=yW.T1 (f:=Tryz.f11) (keep:=zec) (e:=zgE)

def fM:=Tp.add 11 Z6
theorem bM:zm fM:=yW.add Vz
end
section
variable {σ:Type} {t:σ→Tr (σ ⊕ zV)}

def bS (t:σ→Tr (σ ⊕ zV)) (k:Nat) (s:σ) (r:zV):Prop:=∀ n,k≤n→bJ t n s=some r
def aQ (t:σ→Tr (σ ⊕ zV)) (m:Nat) (s s':σ):Prop:=∀ k r,bS t k s' r→bS t (k+m) s r

theorem bS.mono {k k':Nat} {s:σ} {r:zV} (h:bS t k s r) (hk:k≤k'):bS t k' s r:=fun n hn=>h n (by omega)
theorem bS.of {s:σ} {r:zV} (h:(t s).val=some (.inr r)):bS t 1 s r:=by
 intro n hn
 obtain ⟨n,rfl⟩:∃ k,n=k+1:=⟨n - 1,by omega⟩
 rw [bJ,h]
theorem aQ.of {s s':σ} (h:(t s).val=some (.inl s')):aQ t 1 s s':=by
 intro k r hr n hn
 obtain ⟨n,rfl⟩:∃ k,n=k+1:=⟨n - 1,by omega⟩
 rw [bJ,h]
 exact hr n (by omega)
theorem aQ.refl (s:σ):aQ t 0 s s:=fun _ _ h=>h
theorem aQ.trans {a b:Nat} {s s' s'':σ} (h1:aQ t a s s') (h2:aQ t b s' s''):aQ t (b+a) s s'':=fun k r h=>(h1 _ _ (h2 k r h)).mono (by omega)
theorem aQ.mono {a b:Nat} {s s':σ} (h:aQ t a s s') (hk:a≤b):aQ t b s s':=fun k r hr=>(h k r hr).mono (by omega)
theorem aQ.ends {a k:Nat} {s s':σ} {r:zV} (h1:aQ t a s s') (h2:bS t k s' r):bS t (k+a) s r:=h1 k r h2

theorem aQ.all (m:Nat) (st:Nat→σ):∀ (N:Nat),(∀ i,i < N→aQ t m (st i) (st (i+1)))→aQ t (N * m) (st 0) (st N)
 | 0,_=>(aQ.refl _).mono (by omega)
 | N+1,h=>((aQ.all m st N fun i hi=>h i (by omega)).trans (h N (by omega))).mono (by rw [lw]; omega)

theorem KZ {Φ:zV→Prop} (m:Nat) (st:Nat→σ) (P:Nat→Prop):∀ (N:Nat),(∀ i,i < N→(∀ j,j < i→P j)→(P i∧aQ t m (st i) (st (i+1)))∨(¬ P i∧∃ r,bS t m (st i) r∧Φ r))→
  ((∀ i,i < N→P i)∧aQ t (N * m) (st 0) (st N))∨((¬ ∀ i,i < N→P i)∧∃ r,bS t (N * m) (st 0) r∧Φ r)
 | 0,_=>.inl ⟨fun i hi=>absurd hi (by omega),(aQ.refl _).mono (by omega)⟩
 | N+1,h=>by
  rcases KZ m st P N fun i hi=>h i (by omega) with ⟨h1,h2⟩ | ⟨h1,r,h2,h3⟩
  ·rcases h N (by omega) h1 with ⟨h4,h5⟩ | ⟨h4,r,h5,h6⟩
   ·refine .inl ⟨fun i hi=>?_,(h2.trans h5).mono (by rw [lw]; omega)⟩
    rcases Nat.lt_succ_iff_lt_or_eq.1 hi with hi | rfl
    ·exact h1 i hi
    ·exact h4
   ·exact .inr ⟨fun h=>h4 (h N (by omega)),r,(h2.ends h5).mono (by rw [lw]; omega),h6⟩
  ·exact .inr ⟨fun h=>h1 fun i hi=>h i (by omega),r,h2.mono (by rw [lw]; omega),h3⟩

theorem bN {outs:List Sh} {n k:Nat} {i:Tr (σ ⊕ zV)} {s:σ} {r:zV} {y:zx (outs.map some)} (hi:i.val=some (.inl s)) (h:bS t k s r) (hk:k≤n) (hr:ae r.2 outs r.1=some y):zT outs t n i=some y:=by
 unfold zT bW
 rw [hi]
 show (bJ t n s).bind _=_
 rw [h n hk]
 exact hr
theorem gT {outs:List Sh} {n:Nat} {i:Tr (σ ⊕ zV)} {r:zV} {y:zx (outs.map some)} (hi:i.val=some (.inr r)) (hr:ae r.2 outs r.1=some y):zT outs t n i=some y:=by
 unfold zT bW
 rw [hi]
 exact hr
end
end Cad
