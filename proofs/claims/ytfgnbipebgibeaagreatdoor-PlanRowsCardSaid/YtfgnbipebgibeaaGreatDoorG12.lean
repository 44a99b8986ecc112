/- Statements: what a CREATE has. Statements: their parts, their texts. Statements: their texts. Statements that may be. Bases: small things. Bases: few. Bases: few, and where a table is. Bases: few tables; has. Tables with rows: has. Tables with rows: has, check. Tables with rows: check; bases: bound. Bases: check. Plans: places. Plans: what is there. -/
import Derived.Test.YtfgnbipebgibeaaGreatDoorG11
import Derived.Test.YtfgnbipebgibeaaGreatDoorG06
namespace Cad
open Go Go.Proofs
set_option maxHeartbeats 4000000

abbrev zXg:Nat→zQ:=fun _=>{ }
theorem zU2:zF (zcl).P 152 Tryz.f152 1:=by refine ⟨?_,?_,?_,?_⟩ <;> kernel_rfl
theorem zX9 (x0:Sem zu):run (zcl) 0 zXg (Func.results Tryz.f152).toList 400 (zq Tryz.f152) (zp (Func.ntmps Tryz.f152) [zx zu x0] [])=Tr.ok (zD.ret (AV.bool (bif bif decide ((↑(List.length x0.2.2.2.2.1):Int) < 1) then true else decide ((↑(List.length x0.2.2.2.2.1):Int) > 8) then false else bif !decide (zaa (fun x => !zgH x) x0.2.2.2.2.1 0 ≥ 0) then bif zbp x0.2.2.2.2.2.1 then bif bif decide ((↑(List.length x0.2.2.2.2.2.2.1):Int) < 0) then true else decide ((↑(List.length x0.2.2.2.2.2.2.1):Int) > 8) then false else bif !decide (zaa (fun x => !zbp x) x0.2.2.2.2.2.2.1 0 ≥ 0) then bif bif decide ((↑(List.length x0.2.2.2.2.2.2.2.1):Int) < 0) then true else decide ((↑(List.length x0.2.2.2.2.2.2.2.1):Int) > 8) then false else bif !decide (zaa (fun x => !zn4 x) x0.2.2.2.2.2.2.2.1 0 ≥ 0) then zkF (zz x0.2.2.2.2.2.2.2.2.1) else false else false else false else false)) []):=by kernel_rfl
def zfK (x0:Sem zu):Sem Sh.bool:=(bif bif decide ((↑(List.length x0.2.2.2.2.1):Int) < 1) then true else decide ((↑(List.length x0.2.2.2.2.1):Int) > 8) then false else bif !decide (zaa (fun x => !zgH x) x0.2.2.2.2.1 0 ≥ 0) then bif zbp x0.2.2.2.2.2.1 then bif bif decide ((↑(List.length x0.2.2.2.2.2.2.1):Int) < 0) then true else decide ((↑(List.length x0.2.2.2.2.2.2.1):Int) > 8) then false else bif !decide (zaa (fun x => !zbp x) x0.2.2.2.2.2.2.1 0 ≥ 0) then bif bif decide ((↑(List.length x0.2.2.2.2.2.2.2.1):Int) < 0) then true else decide ((↑(List.length x0.2.2.2.2.2.2.2.1):Int) > 8) then false else bif !decide (zaa (fun x => !zn4 x) x0.2.2.2.2.2.2.2.1 0 ≥ 0) then zkF x0.2.2.2.2.2.2.2.2.1 else false else false else false else false)
def F81:zJ:=zaf [zu] [Sh.bool] fun x=>(zfK x.1,())
theorem zSv:FOk (zcl).P (zcl).gl 152 F81:=by
 refine zN (zU2) fun x C hC=>?_
 refine zr zcO zcQ (zU2) (fun id _=>hC id) (zX9 x.1) ?_
 generalize hy:zfK x.1=y
 unfold zfK at hy
 try simp only [ze.eta]
 repeat' (first | with_reducible refine zay hy (fun _ hy=>?_) (fun _ hy=>?_) | with_reducible refine zy ?_)
 all_goals first | (cases hc; done) | (subst hy; first | rfl)

abbrev zQE:Nat→zQ:=fun j=>if j=3 then { slots:=[1,5,8,9,10],prom:=[(5,none,.str)] } else { }
abbrev zxs (l8:List (Sem (Sh.str.pr Sh.expr))) (i9:Int) (i10:Int) (lh_0:LS):St:={ tmps:=[ny,AV.clo (Fn.func 165) [] [],ny,ny,ny,AV.vec 0,ny,ny,AV.sl (Sh.str.pr Sh.expr) l8,ai i9,ai i10,ny,ny,ny,ny,ny,ny,ny,ny,ny,ny,ny,ny],heap:=[AO.vec Sh.str lh_0] }
theorem zI6:zF (zcl).P 167 Tryz.f167 2:=by refine ⟨?_,?_,?_,?_⟩ <;> kernel_rfl
theorem zXr (x0:Sem zan.sl):run (zcl) 0 zQE (Func.results Tryz.f167).toList 400 (zq Tryz.f167) (zp (Func.ntmps Tryz.f167) [zx zan.sl x0,AV.clo (Fn.func 165) [] []] [])=Tr.ok (zD.head 3 (zA Tryz.f167 3) (zxs x0 (↑(List.length x0):Int) 0 [])):=by kernel_rfl
theorem zD9 (l8:List (Sem (Sh.str.pr Sh.expr))) (i9:Int) (i10:Int) (lh_0:LS):run (zcl) 0 zQE (Func.results Tryz.f167).toList 400 (zA Tryz.f167 3) (zxs l8 i9 i10 lh_0)=Tr.br (decide (i10 < i9)) (Tr.chk (inB i10 l8.length) (Tr.chk (zf4 ((l8.getD i10.toNat (zl (Sh.str.pr Sh.expr))).1,ze.mk (ze.op (l8.getD i10.toNat (zl (Sh.str.pr Sh.expr))).2) (ze.v (l8.getD i10.toNat (zl (Sh.str.pr Sh.expr))).2) (ze.s (l8.getD i10.toNat (zl (Sh.str.pr Sh.expr))).2) (ze.l (l8.getD i10.toNat (zl (Sh.str.pr Sh.expr))).2))) (Tr.chk (decide (lh_0.length+[zc0 ((l8.getD i10.toNat (zl (Sh.str.pr Sh.expr))).1,ze.mk (ze.op (l8.getD i10.toNat (zl (Sh.str.pr Sh.expr))).2) (ze.v (l8.getD i10.toNat (zl (Sh.str.pr Sh.expr))).2) (ze.s (l8.getD i10.toNat (zl (Sh.str.pr Sh.expr))).2) (ze.l (l8.getD i10.toNat (zl (Sh.str.pr Sh.expr))).2))].length≤1073741824)) (Tr.ok (zD.head 3 (zA Tryz.f167 3) (zxs l8 i9 (IntKind.i64.wrap (i10+1)) (lh_0++[zc0 ((l8.getD i10.toNat (zl (Sh.str.pr Sh.expr))).1,ze.mk (ze.op (l8.getD i10.toNat (zl (Sh.str.pr Sh.expr))).2) (ze.v (l8.getD i10.toNat (zl (Sh.str.pr Sh.expr))).2) (ze.s (l8.getD i10.toNat (zl (Sh.str.pr Sh.expr))).2) (ze.l (l8.getD i10.toNat (zl (Sh.str.pr Sh.expr))).2))]))))))) (Tr.chk (decide (lh_0.length≤140737488355328)&&decide ((Lib.join lh_0 [32,44,32]).length≤140737488355328))
 (Tr.ok (zD.ret (AV.str (Lib.join lh_0 [32,44,32])) []))):=by kernel_rfl
def zbV:List (Sem (Sh.str.pr Sh.expr))→Int→List (Sem Sh.str)→Sem Sh.str
 | [],_,lh_0=>(Lib.join lh_0 [32,44,32])
 | x::r,i10,lh_0=>(zbV r (i10+1) (lh_0++[zc0 x]))
def zcc:List (Sem (Sh.str.pr Sh.expr))→Int→List (Sem Sh.str)→Bool
 | [],_,lh_0=>(if (decide (lh_0.length≤140737488355328)&&decide ((Lib.join lh_0 [32,44,32]).length≤140737488355328))=true then true else false)
 | x::r,i10,lh_0=>(if zf4 x=true then if decide (lh_0.length+[zc0 x].length≤1073741824)=true then zcc r (i10+1) (lh_0++[zc0 x]) else false
else false)
theorem zMl {C:Ctx} (hC:∀ id,C.ρ0 id=none) (l8:List (Sem (Sh.str.pr Sh.expr))) (hl:l8.length≤zI):∀ (m i:Nat) (lh_0:LS),l8.length - i=m→i≤l8.length→zcc (l8.drop i) i lh_0=true→
  Reach (zcl) C 167 (zA Tryz.f167 3) (zxs l8 (l8.length:Int) (i:Int) lh_0) (fun r h=>zac h [Sh.str] r=some (zbV (l8.drop i) i lh_0,())):=by
 intro m
 induction m with
 | zero=>
  intro i lh_0 hm hi hc
  obtain rfl:i=l8.length:=by omega
  rw [List.drop_length] at hc ⊢
  refine zr zcO zcQ (zI6) (fun id _=>hC id) (zD9 _ _ _ _) ?_
  rw [zcc] at hc
  generalize hy:zbV [] _ lh_0=y
  rw [zbV] at hy
  simp only [ze.eta,zP,Tr.val_brF]
  repeat' (first | with_reducible refine obr hy hc (fun _ hy hc=>?_) (fun _ hy hc=>?_) | with_reducible refine zay hy (fun _ hy=>?_) (fun _ hy=>?_) | with_reducible refine zaZ hc (fun hc=>?_) | with_reducible refine zy ?_)
  all_goals first | (cases hc; done) | (subst hy; first | rfl)
 | succ m IH=>
  intro i lh_0 hm hi hc
  have hlt:i < l8.length:=by omega
  have IH:=IH (i+1)
  have hcast:((i:Int)+1)=((i+1:Nat):Int):=by omega
  have hwr:=zH i (by omega)
  rw [List.drop_eq_getElem_cons hlt] at hc ⊢
  refine zr zcO zcQ (zI6) (fun id _=>hC id) (zD9 _ _ _ _) ?_
  rw [zcc] at hc
  generalize hy:zbV (l8[i]::l8.drop (i+1)) (i:Int) lh_0=y
  rw [zbV] at hy
  simp only [ze.eta,zV hlt,zK hlt,zaD l8 _ hlt,hwr,Tr.val_brT,Tr.val_chkT]
  clear hwr
  try simp only [zK hlt] at hy
  simp only [hcast] at hy
  try simp only [zK hlt] at hc
  try simp only [hcast] at hc
  repeat' (first | with_reducible refine obr hy hc (fun _ hy hc=>?_) (fun _ hy hc=>?_) | with_reducible refine zay hy (fun _ hy=>?_) (fun _ hy=>?_) | with_reducible refine zaZ hc (fun hc=>?_) | with_reducible refine zy ?_)
  all_goals first | (cases hc; done) | (subst hy; first | (change Reach _ _ _ _ _ _; apply IH <;> first | omega | assumption) | rfl)
theorem zId {C:Ctx} (hC:∀ id,C.ρ0 id=none) (l8:List (Sem (Sh.str.pr Sh.expr))) (lh_0:LS) (hc:zcc l8 0 lh_0=true):
  Reach (zcl) C 167 (zA Tryz.f167 3) (zxs l8 (l8.length:Int) 0 lh_0) (fun r h=>zac h [Sh.str] r=some (zbV l8 0 lh_0,())):=
 Reach.len 8 (Sh.str.pr Sh.expr) l8 rfl fun hl=>zMl hC l8 hl _ 0 lh_0 rfl (Nat.zero_le _) hc
def zhr (x0:Sem zan.sl):Sem Sh.str:=(zbV x0 0 [])
def zhd (x0:Sem zan.sl):Bool:=(zcc x0 0 [])
def F95:zJ:=zp2 [zan.sl] [Sh.str] [(165,(fun x=>zhd x.1),fun x=>(zhr x.1,()))]
theorem zS6:FOk (zcl).P (zcl).gl 167 F95:=by
 refine zhP (zI6) fun j c g hm x hc C hC=>?_
 simp only [List.mem_singleton,Prod.mk.injEq] at hm
 obtain ⟨rfl,rfl,rfl⟩:=hm
 replace hc:zhd x.1=true:=hc
 unfold zhd at hc
 refine zr zcO zcQ (zI6) (fun id _=>hC id) (zXr x.1) ?_
 generalize hy:zhr x.1=y
 unfold zhr at hy
 repeat' (first | with_reducible refine obr hy hc (fun _ hy hc=>?_) (fun _ hy hc=>?_) | with_reducible refine zay hy (fun _ hy=>?_) (fun _ hy=>?_) | with_reducible refine zaZ hc (fun hc=>?_) | with_reducible refine zy ?_)
 all_goals first | (cases hc; done) | (subst hy; first | (change Reach _ _ _ _ _ _; apply zId hC <;> first | assumption | exact hc) | rfl)

abbrev zL0:Nat→zQ:=fun j=>if j=5 then { slots:=[1,3,24,25,26] } else if j=10 then { slots:=[1,3,37,38,39] } else { }
abbrev zwW (s3:Str) (l24:LS) (i25:Int) (i26:Int) (ja0:TS) (ja1:TS) (ja2:TS) (ja3:LS) (ja4:LC) (ja5:TS) (ja6:LS) (ja7:List (Sem (Sh.str.pr Sh.str))) (ja8:Str) (ja9:Int) (ja10:Int) (ja11:Str) (ja12:Str) (ja13:LX) (ja14:LV) (ja15:List (Sem (Sh.str.pr Sh.expr))) (ja16:Str) (ja17:Int) (ja18:Int) (ja19:Str) (ja20:Str) (ja21:LX) (ja22:TS):St:={ tmps:=[ny,AV.ptr 0 0,ny,AV.str s3,ny,ny,ny,ny,ny,ny,ny,ny,ny,ny,ny,ny,ny,ny,ny,ny,ny,ny,ny,ny,AV.sl Sh.str l24,ai i25,ai i26,ny,ny,ny,ny,ny,ny,ny,ny,ny,ny,ny,ny,ny,ny,ny,ny,ny,ny,ny,ny,ny,ny,ny,ny,ny,ny,ny,ny,ny,ny,ny,ny],heap:=[AO.box [AV.str ja0,AV.str ja1,AV.str ja2,AV.sl Sh.str ja3,AV.sl zh ja4,AV.str ja5,AV.sl Sh.str ja6,AV.sl (Sh.str.pr Sh.str) ja7,AV.str ja8,ai ja9,ai ja10,AV.str ja11,AV.str ja12,AV.sl Sh.expr ja13,AV.sl zf ja14,AV.sl (Sh.str.pr Sh.expr) ja15,AV.str ja16,ai ja17,ai ja18,AV.str ja19,AV.str ja20,AV.sl Sh.expr ja21,AV.str ja22]] }
theorem zCc:zF (zcl).P 162 Tryz.f162 1:=by refine ⟨?_,?_,?_,?_⟩ <;> kernel_rfl
theorem zXk (x0:Sem zu):run (zcl) 0 zL0 (Func.results Tryz.f162).toList 400 (zq Tryz.f162) (zp (Func.ntmps Tryz.f162) [zx zu x0] [])=Tr.chk (decide ([67,82,69,65,84,69,32,84,65,66,76,69,32].length+List.length x0.2.1≤1099511627776)) (Tr.chk (decide (List.length ([67,82,69,65,84,69,32,84,65,66,76,69,32]++x0.2.1)+[32,40,32].length≤1099511627776)) (Tr.chk (zf0 x0.2.2.2.2.1) (Tr.chk (decide (List.length ([67,82,69,65,84,69,32,84,65,66,76,69,32]++x0.2.1++[32,40,32])+List.length (zcr x0.2.2.2.2.1)≤1099511627776)) (Tr.chk (decide ([32,44,32,75,69,89,32,40,32].length+List.length x0.2.2.2.2.2.1≤1099511627776)) (Tr.chk (decide (List.length ([32,44,32,75,69,89,32,40,32]++x0.2.2.2.2.2.1)+[32,41].length≤1099511627776)) (Tr.chk (decide (List.length ([67,82,69,65,84,69,32,84,65,66,76,69,32]++x0.2.1++[32,40,32]++zcr x0.2.2.2.2.1)+List.length ([32,44,32,75,69,89,32,40,32]++x0.2.2.2.2.2.1++[32,41])≤1099511627776)) (Tr.ok (zD.head 5 (zA Tryz.f162 5) (zwW ([67,82,69,65,84,69,32,84,65,66,76,69,32]++x0.2.1++[32,40,32]++zcr x0.2.2.2.2.1++([32,44,32,75,69,89,32,40,32]++x0.2.2.2.2.2.1++[32,41])) x0.2.2.2.2.2.2.1 (↑(List.length x0.2.2.2.2.2.2.1):Int) 0 x0.1 x0.2.1 x0.2.2.1 x0.2.2.2.1 x0.2.2.2.2.1 x0.2.2.2.2.2.1 x0.2.2.2.2.2.2.1 x0.2.2.2.2.2.2.2.1
 (ze.op x0.2.2.2.2.2.2.2.2.1) (ze.v x0.2.2.2.2.2.2.2.2.1).1 (ze.v x0.2.2.2.2.2.2.2.2.1).2.1 (ze.v x0.2.2.2.2.2.2.2.2.1).2.2 (ze.s x0.2.2.2.2.2.2.2.2.1) (ze.l x0.2.2.2.2.2.2.2.2.1) x0.2.2.2.2.2.2.2.2.2.1 x0.2.2.2.2.2.2.2.2.2.2.1 (ze.op x0.2.2.2.2.2.2.2.2.2.2.2.1) (ze.v x0.2.2.2.2.2.2.2.2.2.2.2.1).1 (ze.v x0.2.2.2.2.2.2.2.2.2.2.2.1).2.1 (ze.v x0.2.2.2.2.2.2.2.2.2.2.2.1).2.2 (ze.s x0.2.2.2.2.2.2.2.2.2.2.2.1) (ze.l x0.2.2.2.2.2.2.2.2.2.2.2.1) x0.2.2.2.2.2.2.2.2.2.2.2.2))))))))):=by kernel_rfl
abbrev zq5 (s3:Str) (l37:List (Sem (Sh.str.pr Sh.str))) (i38:Int) (i39:Int) (ja0:TS) (ja1:TS) (ja2:TS) (ja3:LS) (ja4:LC) (ja5:TS) (ja6:LS) (ja7:List (Sem (Sh.str.pr Sh.str))) (ja8:Str) (ja9:Int) (ja10:Int) (ja11:Str) (ja12:Str) (ja13:LX) (ja14:LV) (ja15:List (Sem (Sh.str.pr Sh.expr))) (ja16:Str) (ja17:Int) (ja18:Int) (ja19:Str) (ja20:Str) (ja21:LX) (ja22:TS):St:={ tmps:=[ny,AV.ptr 0 0,ny,AV.str s3,ny,ny,ny,ny,ny,ny,ny,ny,ny,ny,ny,ny,ny,ny,ny,ny,ny,ny,ny,ny,ny,ny,ny,ny,ny,ny,ny,ny,ny,ny,ny,ny,ny,AV.sl (Sh.str.pr Sh.str) l37,ai i38,ai i39,ny,ny,ny,ny,ny,ny,ny,ny,ny,ny,ny,ny,ny,ny,ny,ny,ny,ny,ny],heap:=[AO.box [AV.str ja0,AV.str ja1,AV.str ja2,AV.sl Sh.str ja3,AV.sl zh ja4,AV.str ja5,AV.sl Sh.str ja6,AV.sl (Sh.str.pr Sh.str) ja7,AV.str ja8,ai ja9,ai ja10,AV.str ja11,AV.str ja12,AV.sl Sh.expr ja13,AV.sl zf ja14,AV.sl (Sh.str.pr Sh.expr) ja15,AV.str ja16,ai ja17,ai ja18,AV.str ja19,AV.str ja20,AV.sl Sh.expr ja21,AV.str ja22]] }
theorem zGq (s3:Str) (l24:LS) (i25:Int) (i26:Int) (ja0:TS) (ja1:TS) (ja2:TS) (ja3:LS) (ja4:LC) (ja5:TS) (ja6:LS) (ja7:List (Sem (Sh.str.pr Sh.str))) (ja8:Str) (ja9:Int) (ja10:Int) (ja11:Str) (ja12:Str) (ja13:LX) (ja14:LV) (ja15:List (Sem (Sh.str.pr Sh.expr))) (ja16:Str) (ja17:Int) (ja18:Int) (ja19:Str) (ja20:Str) (ja21:LX) (ja22:TS):run (zcl) 0 zL0 (Func.results Tryz.f162).toList 400 (zA Tryz.f162 5) (zwW s3 l24 i25 i26 ja0 ja1 ja2 ja3 ja4 ja5 ja6 ja7 ja8 ja9 ja10 ja11 ja12 ja13 ja14 ja15 ja16 ja17 ja18 ja19 ja20 ja21 ja22)=Tr.br (decide (i26 < i25)) (Tr.chk (inB i26 l24.length) (Tr.chk (decide ([32,44,32,85,78,73,81,85,69,32,40,32].length+List.length (l24.getD i26.toNat (zl Sh.str))≤1099511627776)) (Tr.chk (decide (List.length ([32,44,32,85,78,73,81,85,69,32,40,32]++l24.getD i26.toNat (zl Sh.str))+[32,41].length≤1099511627776)) (Tr.chk (decide (List.length s3+List.length ([32,44,32,85,78,73,81,85,69,32,40,32]++l24.getD i26.toNat (zl Sh.str)++[32,41])≤1099511627776)) (Tr.ok (zD.head 5 (zA Tryz.f162 5) (zwW (s3++([32,44,32,85,78,73,81,85,69,32,40,32]++l24.getD i26.toNat (zl Sh.str)++[32,41])) l24 i25
 (IntKind.i64.wrap (i26+1)) ja0 ja1 ja2 ja3 ja4 ja5 ja6 ja7 ja8 ja9 ja10 ja11 ja12 ja13 ja14 ja15 ja16 ja17 ja18 ja19 ja20 ja21 ja22))))))) (Tr.ok (zD.head 10 (zA Tryz.f162 10) (zq5 s3 ja7 (↑ja7.length:Int) 0 ja0 ja1 ja2 ja3 ja4 ja5 ja6 ja7 ja8 ja9 ja10 ja11 ja12 ja13 ja14 ja15 ja16 ja17 ja18 ja19 ja20 ja21 ja22))):=by kernel_rfl
theorem zAk (s3:Str) (l37:List (Sem (Sh.str.pr Sh.str))) (i38:Int) (i39:Int) (ja0:TS) (ja1:TS) (ja2:TS) (ja3:LS) (ja4:LC) (ja5:TS) (ja6:LS) (ja7:List (Sem (Sh.str.pr Sh.str))) (ja8:Str) (ja9:Int) (ja10:Int) (ja11:Str) (ja12:Str) (ja13:LX) (ja14:LV) (ja15:List (Sem (Sh.str.pr Sh.expr))) (ja16:Str) (ja17:Int) (ja18:Int) (ja19:Str) (ja20:Str) (ja21:LX) (ja22:TS):run (zcl) 0 zL0 (Func.results Tryz.f162).toList 400 (zA Tryz.f162 10) (zq5 s3 l37 i38 i39 ja0 ja1 ja2 ja3 ja4 ja5 ja6 ja7 ja8 ja9 ja10 ja11 ja12 ja13 ja14 ja15 ja16 ja17 ja18 ja19 ja20 ja21 ja22)=Tr.br (decide (i39 < i38)) (Tr.chk (inB i39 l37.length) (Tr.chk (decide ([32,44,32,82,69,70,69,82,69,78,67,69,83,32,40,32].length+List.length (l37.getD i39.toNat (zl (Sh.str.pr Sh.str))).1≤1099511627776)) (Tr.chk (decide (List.length ([32,44,32,82,69,70,69,82,69,78,67,69,83,32,40,32]++(l37.getD i39.toNat (zl (Sh.str.pr Sh.str))).1)+[32,41,32].length≤1099511627776)) (Tr.chk (decide (List.length ([32,44,32,82,69,70,69,82,69,78,67,69,83,32,40,32]++(l37.getD i39.toNat (zl (Sh.str.pr Sh.str))).1++[32,41,32])+List.length (l37.getD i39.toNat (zl (Sh.str.pr Sh.str))).2≤1099511627776)) (Tr.chk (decide (List.length s3+List.length
 ([32,44,32,82,69,70,69,82,69,78,67,69,83,32,40,32]++(l37.getD i39.toNat (zl (Sh.str.pr Sh.str))).1++[32,41,32]++(l37.getD i39.toNat (zl (Sh.str.pr Sh.str))).2)≤1099511627776)) (Tr.ok (zD.head 10 (zA Tryz.f162 10) (zq5 (s3++([32,44,32,82,69,70,69,82,69,78,67,69,83,32,40,32]++(l37.getD i39.toNat (zl (Sh.str.pr Sh.str))).1++[32,41,32]++(l37.getD i39.toNat (zl (Sh.str.pr Sh.str))).2)) l37 i38 (IntKind.i64.wrap (i39+1)) ja0 ja1 ja2 ja3 ja4 ja5 ja6 ja7 ja8 ja9 ja10 ja11 ja12 ja13 ja14 ja15 ja16 ja17 ja18 ja19 ja20 ja21 ja22)))))))) (Tr.chk (zhE [32,44,32] (ze.mk ja8 (ja9,ja10,ja11) ja12 ja13)) (Tr.chk (decide (List.length s3+List.length (zfu [32,44,32] (ze.mk ja8 (ja9,ja10,ja11) ja12 ja13))≤1099511627776)) (Tr.chk (decide (List.length (s3++zfu [32,44,32] (ze.mk ja8 (ja9,ja10,ja11) ja12 ja13))+[32,41].length≤1099511627776)) (Tr.ok (zD.ret (AV.str (s3++zfu [32,44,32] (ze.mk ja8 (ja9,ja10,ja11) ja12 ja13)++[32,41])) []))))):=by kernel_rfl
def zbP (ja0:TS) (ja1:TS) (ja2:TS) (ja3:LS) (ja4:LC) (ja5:TS) (ja6:LS) (ja7:List (Sem (Sh.str.pr Sh.str))) (ja8:Str) (ja9:Int) (ja10:Int) (ja11:Str) (ja12:Str) (ja13:LX) (ja14:LV) (ja15:List (Sem (Sh.str.pr Sh.expr))) (ja16:Str) (ja17:Int) (ja18:Int) (ja19:Str) (ja20:Str) (ja21:LX) (ja22:TS):List (Sem (Sh.str.pr Sh.str))→Int→Str→Sem Sh.str
 | [],_,s3=>(s3++zfu [32,44,32] (ze.mk ja8 (ja9,ja10,ja11) ja12 ja13)++[32,41])
 | x::r,i39,s3=>(zbP ja0 ja1 ja2 ja3 ja4 ja5 ja6 ja7 ja8 ja9 ja10 ja11 ja12 ja13 ja14 ja15 ja16 ja17 ja18 ja19
 ja20 ja21 ja22 r (i39+1) (s3++([32,44,32,82,69,70,69,82,69,78,67,69,83,32,40,32]++x.1++[32,41,32]++x.2)))
def zb5 (ja0:TS) (ja1:TS) (ja2:TS) (ja3:LS) (ja4:LC) (ja5:TS) (ja6:LS) (ja7:List (Sem (Sh.str.pr Sh.str))) (ja8:Str) (ja9:Int) (ja10:Int) (ja11:Str) (ja12:Str) (ja13:LX) (ja14:LV) (ja15:List (Sem (Sh.str.pr Sh.expr))) (ja16:Str) (ja17:Int) (ja18:Int) (ja19:Str) (ja20:Str) (ja21:LX) (ja22:TS):List (Sem (Sh.str.pr Sh.str))→Int→Str→Bool
 | [],_,s3=>(if zhE [32,44,32] (ze.mk ja8 (ja9,ja10,ja11) ja12 ja13)=true then
 if decide (List.length s3+List.length (zfu [32,44,32] (ze.mk ja8 (ja9,ja10,ja11) ja12 ja13))≤1099511627776)=true then
  if
    decide (List.length (s3++zfu [32,44,32] (ze.mk ja8 (ja9,ja10,ja11) ja12 ja13))+[32,41].length≤1099511627776)=
     true then
   true
  else false
 else false
else false)
 | x::r,i39,s3=>(if decide ([32,44,32,82,69,70,69,82,69,78,67,69,83,32,40,32].length+List.length x.1≤1099511627776)=true then
 if decide (List.length ([32,44,32,82,69,70,69,82,69,78,67,69,83,32,40,32]++x.1)+[32,41,32].length≤1099511627776)=true then
  if
    decide (List.length ([32,44,32,82,69,70,69,82,69,78,67,69,83,32,40,32]++x.1++[32,41,32])+List.length x.2≤1099511627776)=
     true then
   if
     decide
       (List.length s3+List.length ([32,44,32,82,69,70,69,82,69,78,67,69,83,32,40,32]++x.1++[32,41,32]++x.2)≤
        1099511627776)=
      true then
    zb5 ja0 ja1 ja2 ja3 ja4 ja5 ja6 ja7 ja8 ja9 ja10 ja11 ja12 ja13 ja14 ja15 ja16 ja17
     ja18 ja19 ja20 ja21 ja22 r (i39+1)
     (s3++([32,44,32,82,69,70,69,82,69,78,67,69,83,32,40,32]++x.1++[32,41,32]++x.2))
   else false
  else false
 else false
else false)
theorem zIl {C:Ctx} (hC:∀ id,C.ρ0 id=none) (ja0:TS) (ja1:TS) (ja2:TS) (ja3:LS) (ja4:LC) (ja5:TS) (ja6:LS) (ja7:List (Sem (Sh.str.pr Sh.str))) (ja8:Str) (ja9:Int) (ja10:Int) (ja11:Str) (ja12:Str) (ja13:LX) (ja14:LV) (ja15:List (Sem (Sh.str.pr Sh.expr))) (ja16:Str) (ja17:Int) (ja18:Int) (ja19:Str) (ja20:Str) (ja21:LX) (ja22:TS) (l37:List (Sem (Sh.str.pr Sh.str))) (hl:l37.length≤zI):∀ (m i:Nat) (s3:Str),l37.length - i=m→i≤l37.length→zb5 ja0 ja1 ja2 ja3 ja4 ja5 ja6 ja7 ja8 ja9 ja10 ja11 ja12 ja13 ja14 ja15 ja16 ja17 ja18 ja19 ja20 ja21 ja22 (l37.drop i) i s3=true→
  Reach (zcl) C 162 (zA Tryz.f162 10) (zq5 s3 l37 (l37.length:Int) (i:Int) ja0 ja1 ja2 ja3 ja4 ja5 ja6 ja7 ja8 ja9 ja10 ja11 ja12 ja13 ja14 ja15 ja16 ja17 ja18 ja19 ja20 ja21 ja22) (fun r h=>zac h [Sh.str] r=some (zbP ja0 ja1 ja2 ja3 ja4 ja5 ja6 ja7 ja8 ja9 ja10 ja11 ja12 ja13 ja14 ja15 ja16 ja17 ja18 ja19 ja20 ja21 ja22 (l37.drop i) i s3,())):=by
 intro m
 induction m with
 | zero=>
  intro i s3 hm hi hc
  obtain rfl:i=l37.length:=by omega
  rw [List.drop_length] at hc ⊢
  refine zr zcO zcQ (zCc) (fun id _=>hC id) (zAk _ _ _ _ _ _ _ _ _ _ _ _ _ _ _ _ _ _ _ _ _ _ _ _ _ _ _) ?_
  rw [zb5] at hc
  generalize hy:zbP ja0 ja1 ja2 ja3 ja4 ja5 ja6 ja7 ja8 ja9 ja10 ja11 ja12 ja13 ja14 ja15 ja16 ja17 ja18 ja19 ja20 ja21 ja22 [] _ s3=y
  rw [zbP] at hy
  simp only [zP,Tr.val_brF]
  repeat' (first | with_reducible refine obr hy hc (fun _ hy hc=>?_) (fun _ hy hc=>?_) | with_reducible refine zay hy (fun _ hy=>?_) (fun _ hy=>?_) | with_reducible refine zaZ hc (fun hc=>?_) | with_reducible refine zy ?_)
  all_goals first | (cases hc; done) | (subst hy; first | (change Reach _ _ _ _ _ _; apply zvR hC <;> first | assumption | exact hc) | rfl)
 | succ m IH=>
  intro i s3 hm hi hc
  have hlt:i < l37.length:=by omega
  have IH:=IH (i+1)
  have hcast:((i:Int)+1)=((i+1:Nat):Int):=by omega
  have hwr:=zH i (by omega)
  rw [List.drop_eq_getElem_cons hlt] at hc ⊢
  refine zr zcO zcQ (zCc) (fun id _=>hC id) (zAk _ _ _ _ _ _ _ _ _ _ _ _ _ _ _ _ _ _ _ _ _ _ _ _ _ _ _) ?_
  rw [zb5] at hc
  generalize hy:zbP ja0 ja1 ja2 ja3 ja4 ja5 ja6 ja7 ja8 ja9 ja10 ja11 ja12 ja13 ja14 ja15 ja16 ja17 ja18 ja19 ja20 ja21 ja22 (l37[i]::l37.drop (i+1)) (i:Int) s3=y
  rw [zbP] at hy
  simp only [zV hlt,zK hlt,zaD l37 _ hlt,hwr,Tr.val_brT,Tr.val_chkT]
  clear hwr
  try simp only [zK hlt] at hy
  simp only [hcast] at hy
  try simp only [zK hlt] at hc
  try simp only [hcast] at hc
  repeat' (first | with_reducible refine obr hy hc (fun _ hy hc=>?_) (fun _ hy hc=>?_) | with_reducible refine zay hy (fun _ hy=>?_) (fun _ hy=>?_) | with_reducible refine zaZ hc (fun hc=>?_) | with_reducible refine zy ?_)
  all_goals first | (cases hc; done) | (subst hy; first | (change Reach _ _ _ _ _ _; apply IH <;> first | omega | assumption) | (change Reach _ _ _ _ _ _; apply zvR hC <;> first | assumption | exact hc) | rfl)
theorem zqu {C:Ctx} (hC:∀ id,C.ρ0 id=none) (ja0:TS) (ja1:TS) (ja2:TS) (ja3:LS) (ja4:LC) (ja5:TS) (ja6:LS) (ja7:List (Sem (Sh.str.pr Sh.str))) (ja8:Str) (ja9:Int) (ja10:Int) (ja11:Str) (ja12:Str) (ja13:LX) (ja14:LV) (ja15:List (Sem (Sh.str.pr Sh.expr))) (ja16:Str) (ja17:Int) (ja18:Int) (ja19:Str) (ja20:Str) (ja21:LX) (ja22:TS) (l37:List (Sem (Sh.str.pr Sh.str))) (s3:Str) (hc:zb5 ja0 ja1 ja2 ja3 ja4 ja5 ja6 ja7 ja8 ja9 ja10 ja11 ja12 ja13 ja14 ja15 ja16 ja17 ja18 ja19 ja20 ja21 ja22 l37 0 s3=true):
  Reach (zcl) C 162 (zA Tryz.f162 10) (zq5 s3 l37 (l37.length:Int) 0 ja0 ja1 ja2 ja3 ja4 ja5 ja6 ja7 ja8 ja9 ja10 ja11 ja12 ja13 ja14 ja15 ja16 ja17 ja18 ja19 ja20 ja21 ja22) (fun r h=>zac h [Sh.str] r=some (zbP ja0 ja1 ja2 ja3 ja4 ja5 ja6 ja7 ja8 ja9 ja10 ja11 ja12 ja13 ja14 ja15 ja16 ja17 ja18 ja19 ja20 ja21 ja22 l37 0 s3,())):=
 Reach.len 37 (Sh.str.pr Sh.str) l37 rfl fun hl=>zIl hC ja0 ja1 ja2 ja3 ja4 ja5 ja6 ja7 ja8 ja9 ja10 ja11 ja12 ja13 ja14 ja15 ja16 ja17 ja18 ja19 ja20 ja21 ja22 l37 hl _ 0 s3 rfl (Nat.zero_le _) hc
def zco (ja0:TS) (ja1:TS) (ja2:TS) (ja3:LS) (ja4:LC) (ja5:TS) (ja6:LS) (ja7:List (Sem (Sh.str.pr Sh.str))) (ja8:Str) (ja9:Int) (ja10:Int) (ja11:Str) (ja12:Str) (ja13:LX) (ja14:LV) (ja15:List (Sem (Sh.str.pr Sh.expr))) (ja16:Str) (ja17:Int) (ja18:Int) (ja19:Str) (ja20:Str) (ja21:LX) (ja22:TS):List (Sem Sh.str)→Int→Str→Sem Sh.str
 | [],_,s3=>(zbP ja0 ja1 ja2 ja3 ja4 ja5 ja6 ja7 ja8 ja9 ja10 ja11 ja12 ja13 ja14 ja15 ja16 ja17 ja18 ja19
 ja20 ja21 ja22 ja7 0 s3)
 | x::r,i26,s3=>(zco ja0 ja1 ja2 ja3 ja4 ja5 ja6 ja7 ja8 ja9 ja10 ja11 ja12 ja13 ja14 ja15 ja16 ja17 ja18 ja19
 ja20 ja21 ja22 r (i26+1) (s3++([32,44,32,85,78,73,81,85,69,32,40,32]++x++[32,41])))
def zcE (ja0:TS) (ja1:TS) (ja2:TS) (ja3:LS) (ja4:LC) (ja5:TS) (ja6:LS) (ja7:List (Sem (Sh.str.pr Sh.str))) (ja8:Str) (ja9:Int) (ja10:Int) (ja11:Str) (ja12:Str) (ja13:LX) (ja14:LV) (ja15:List (Sem (Sh.str.pr Sh.expr))) (ja16:Str) (ja17:Int) (ja18:Int) (ja19:Str) (ja20:Str) (ja21:LX) (ja22:TS):List (Sem Sh.str)→Int→Str→Bool
 | [],_,s3=>(zb5 ja0 ja1 ja2 ja3 ja4 ja5 ja6 ja7 ja8 ja9 ja10 ja11 ja12 ja13 ja14 ja15 ja16 ja17 ja18
 ja19 ja20 ja21 ja22 ja7 0 s3)
 | x::r,i26,s3=>(if decide ([32,44,32,85,78,73,81,85,69,32,40,32].length+List.length x≤1099511627776)=true then
 if decide (List.length ([32,44,32,85,78,73,81,85,69,32,40,32]++x)+[32,41].length≤1099511627776)=true then
  if decide (List.length s3+List.length ([32,44,32,85,78,73,81,85,69,32,40,32]++x++[32,41])≤1099511627776)=true then
   zcE ja0 ja1 ja2 ja3 ja4 ja5 ja6 ja7 ja8 ja9 ja10 ja11 ja12 ja13 ja14 ja15 ja16 ja17 ja18
    ja19 ja20 ja21 ja22 r (i26+1) (s3++([32,44,32,85,78,73,81,85,69,32,40,32]++x++[32,41]))
  else false
 else false
else false)
theorem zNS {C:Ctx} (hC:∀ id,C.ρ0 id=none) (ja0:TS) (ja1:TS) (ja2:TS) (ja3:LS) (ja4:LC) (ja5:TS) (ja6:LS) (ja7:List (Sem (Sh.str.pr Sh.str))) (ja8:Str) (ja9:Int) (ja10:Int) (ja11:Str) (ja12:Str) (ja13:LX) (ja14:LV) (ja15:List (Sem (Sh.str.pr Sh.expr))) (ja16:Str) (ja17:Int) (ja18:Int) (ja19:Str) (ja20:Str) (ja21:LX) (ja22:TS) (l24:LS) (hl:l24.length≤zI):∀ (m i:Nat) (s3:Str),l24.length - i=m→i≤l24.length→zcE ja0 ja1 ja2 ja3 ja4 ja5 ja6 ja7 ja8 ja9 ja10 ja11 ja12 ja13 ja14 ja15 ja16 ja17 ja18 ja19 ja20 ja21 ja22 (l24.drop i) i s3=true→
  Reach (zcl) C 162 (zA Tryz.f162 5) (zwW s3 l24 (l24.length:Int) (i:Int) ja0 ja1 ja2 ja3 ja4 ja5 ja6 ja7 ja8 ja9 ja10 ja11 ja12 ja13 ja14 ja15 ja16 ja17 ja18 ja19 ja20 ja21 ja22) (fun r h=>zac h [Sh.str] r=some (zco ja0 ja1 ja2 ja3 ja4 ja5 ja6 ja7 ja8 ja9 ja10 ja11 ja12 ja13 ja14 ja15 ja16 ja17 ja18 ja19 ja20 ja21 ja22 (l24.drop i) i s3,())):=by
 intro m
 induction m with
 | zero=>
  intro i s3 hm hi hc
  obtain rfl:i=l24.length:=by omega
  rw [List.drop_length] at hc ⊢
  refine zr zcO zcQ (zCc) (fun id _=>hC id) (zGq _ _ _ _ _ _ _ _ _ _ _ _ _ _ _ _ _ _ _ _ _ _ _ _ _ _ _) ?_
  rw [zcE] at hc
  generalize hy:zco ja0 ja1 ja2 ja3 ja4 ja5 ja6 ja7 ja8 ja9 ja10 ja11 ja12 ja13 ja14 ja15 ja16 ja17 ja18 ja19 ja20 ja21 ja22 [] _ s3=y
  rw [zco] at hy
  simp only [zP,Tr.val_brF]
  repeat' (first | with_reducible refine obr hy hc (fun _ hy hc=>?_) (fun _ hy hc=>?_) | with_reducible refine zay hy (fun _ hy=>?_) (fun _ hy=>?_) | with_reducible refine zaZ hc (fun hc=>?_) | with_reducible refine zy ?_)
  all_goals first | (cases hc; done) | (subst hy; first | (change Reach _ _ _ _ _ _; apply zqu hC <;> first | assumption | exact hc) | rfl)
 | succ m IH=>
  intro i s3 hm hi hc
  have hlt:i < l24.length:=by omega
  have IH:=IH (i+1)
  have hcast:((i:Int)+1)=((i+1:Nat):Int):=by omega
  have hwr:=zH i (by omega)
  rw [List.drop_eq_getElem_cons hlt] at hc ⊢
  refine zr zcO zcQ (zCc) (fun id _=>hC id) (zGq _ _ _ _ _ _ _ _ _ _ _ _ _ _ _ _ _ _ _ _ _ _ _ _ _ _ _) ?_
  rw [zcE] at hc
  generalize hy:zco ja0 ja1 ja2 ja3 ja4 ja5 ja6 ja7 ja8 ja9 ja10 ja11 ja12 ja13 ja14 ja15 ja16 ja17 ja18 ja19 ja20 ja21 ja22 (l24[i]::l24.drop (i+1)) (i:Int) s3=y
  rw [zco] at hy
  simp only [zV hlt,zK hlt,zaD l24 _ hlt,hwr,Tr.val_brT,Tr.val_chkT]
  clear hwr
  try simp only [zK hlt] at hy
  simp only [hcast] at hy
  try simp only [zK hlt] at hc
  try simp only [hcast] at hc
  repeat' (first | with_reducible refine obr hy hc (fun _ hy hc=>?_) (fun _ hy hc=>?_) | with_reducible refine zay hy (fun _ hy=>?_) (fun _ hy=>?_) | with_reducible refine zaZ hc (fun hc=>?_) | with_reducible refine zy ?_)
  all_goals first | (cases hc; done) | (subst hy; first | (change Reach _ _ _ _ _ _; apply IH <;> first | omega | assumption) | (change Reach _ _ _ _ _ _; apply zqu hC <;> first | assumption | exact hc) | rfl)
theorem zvR {C:Ctx} (hC:∀ id,C.ρ0 id=none) (ja0:TS) (ja1:TS) (ja2:TS) (ja3:LS) (ja4:LC) (ja5:TS) (ja6:LS) (ja7:List (Sem (Sh.str.pr Sh.str))) (ja8:Str) (ja9:Int) (ja10:Int) (ja11:Str) (ja12:Str) (ja13:LX) (ja14:LV) (ja15:List (Sem (Sh.str.pr Sh.expr))) (ja16:Str) (ja17:Int) (ja18:Int) (ja19:Str) (ja20:Str) (ja21:LX) (ja22:TS) (l24:LS) (s3:Str) (hc:zcE ja0 ja1 ja2 ja3 ja4 ja5 ja6 ja7 ja8 ja9 ja10 ja11 ja12 ja13 ja14 ja15 ja16 ja17 ja18 ja19 ja20 ja21 ja22 l24 0 s3=true):
  Reach (zcl) C 162 (zA Tryz.f162 5) (zwW s3 l24 (l24.length:Int) 0 ja0 ja1 ja2 ja3 ja4 ja5 ja6 ja7 ja8 ja9 ja10 ja11 ja12 ja13 ja14 ja15 ja16 ja17 ja18 ja19 ja20 ja21 ja22) (fun r h=>zac h [Sh.str] r=some (zco ja0 ja1 ja2 ja3 ja4 ja5 ja6 ja7 ja8 ja9 ja10 ja11 ja12 ja13 ja14 ja15 ja16 ja17 ja18 ja19 ja20 ja21 ja22 l24 0 s3,())):=
 Reach.len 24 (Sh.str) l24 rfl fun hl=>zNS hC ja0 ja1 ja2 ja3 ja4 ja5 ja6 ja7 ja8 ja9 ja10 ja11 ja12 ja13 ja14 ja15 ja16 ja17 ja18 ja19 ja20 ja21 ja22 l24 hl _ 0 s3 rfl (Nat.zero_le _) hc
def zjK (x0:Sem zu):Sem Sh.str:=(zco x0.1 x0.2.1 x0.2.2.1 x0.2.2.2.1 x0.2.2.2.2.1 x0.2.2.2.2.2.1 x0.2.2.2.2.2.2.1 x0.2.2.2.2.2.2.2.1 (ze.op x0.2.2.2.2.2.2.2.2.1) (ze.v x0.2.2.2.2.2.2.2.2.1).1 (ze.v x0.2.2.2.2.2.2.2.2.1).2.1 (ze.v x0.2.2.2.2.2.2.2.2.1).2.2 (ze.s x0.2.2.2.2.2.2.2.2.1) (ze.l x0.2.2.2.2.2.2.2.2.1) x0.2.2.2.2.2.2.2.2.2.1 x0.2.2.2.2.2.2.2.2.2.2.1 (ze.op x0.2.2.2.2.2.2.2.2.2.2.2.1) (ze.v x0.2.2.2.2.2.2.2.2.2.2.2.1).1 (ze.v x0.2.2.2.2.2.2.2.2.2.2.2.1).2.1 (ze.v x0.2.2.2.2.2.2.2.2.2.2.2.1).2.2 (ze.s x0.2.2.2.2.2.2.2.2.2.2.2.1) (ze.l x0.2.2.2.2.2.2.2.2.2.2.2.1) x0.2.2.2.2.2.2.2.2.2.2.2.2 x0.2.2.2.2.2.2.1 0 ([67,82,69,65,84,69,32,84,65,66,76,69,32]++x0.2.1++[32,40,32]++zcr x0.2.2.2.2.1++([32,44,32,75,69,89,32,40,32]++x0.2.2.2.2.2.1++[32,41])))
def ziW (x0:Sem zu):Bool:=(if decide ([67,82,69,65,84,69,32,84,65,66,76,69,32].length+List.length x0.2.1≤1099511627776)=true then if decide (List.length ([67,82,69,65,84,69,32,84,65,66,76,69,32]++x0.2.1)+[32,40,32].length≤1099511627776)=true then if zf0 x0.2.2.2.2.1=true then if decide (List.length ([67,82,69,65,84,69,32,84,65,66,76,69,32]++x0.2.1++[32,40,32])+List.length (zcr x0.2.2.2.2.1)≤1099511627776)=true then if decide ([32,44,32,75,69,89,32,40,32].length+List.length x0.2.2.2.2.2.1≤1099511627776)=true then if decide (List.length ([32,44,32,75,69,89,32,40,32]++x0.2.2.2.2.2.1)+[32,41].length≤1099511627776)=true then if decide (List.length ([67,82,69,65,84,69,32,84,65,66,76,69,32]++x0.2.1++[32,40,32]++zcr x0.2.2.2.2.1)+List.length ([32,44,32,75,69,89,32,40,32]++x0.2.2.2.2.2.1++[32,41])≤1099511627776)=true then zcE x0.1 x0.2.1 x0.2.2.1 x0.2.2.2.1 x0.2.2.2.2.1 x0.2.2.2.2.2.1 x0.2.2.2.2.2.2.1 x0.2.2.2.2.2.2.2.1 (ze.op x0.2.2.2.2.2.2.2.2.1) (ze.v x0.2.2.2.2.2.2.2.2.1).1 (ze.v x0.2.2.2.2.2.2.2.2.1).2.1 (ze.v x0.2.2.2.2.2.2.2.2.1).2.2 (ze.s x0.2.2.2.2.2.2.2.2.1) (ze.l x0.2.2.2.2.2.2.2.2.1) x0.2.2.2.2.2.2.2.2.2.1 x0.2.2.2.2.2.2.2.2.2.2.1 (ze.op x0.2.2.2.2.2.2.2.2.2.2.2.1) (ze.v x0.2.2.2.2.2.2.2.2.2.2.2.1).1 (ze.v x0.2.2.2.2.2.2.2.2.2.2.2.1).2.1
 (ze.v x0.2.2.2.2.2.2.2.2.2.2.2.1).2.2 (ze.s x0.2.2.2.2.2.2.2.2.2.2.2.1) (ze.l x0.2.2.2.2.2.2.2.2.2.2.2.1) x0.2.2.2.2.2.2.2.2.2.2.2.2 x0.2.2.2.2.2.2.1 0 ([67,82,69,65,84,69,32,84,65,66,76,69,32]++x0.2.1++[32,40,32]++zcr x0.2.2.2.2.1++([32,44,32,75,69,89,32,40,32]++x0.2.2.2.2.2.1++[32,41])) else false else false else false else false else false else false else false)
def F90:zJ:=zG [zu] [Sh.str] (fun x=>ziW x.1) fun x=>(zjK x.1,())
theorem zRg:FOk (zcl).P (zcl).gl 162 F90:=by
 refine zT (zCc) fun x hc C hC=>?_
 unfold ziW at hc
 refine zr zcO zcQ (zCc) (fun id _=>hC id) (zXk x.1) ?_
 generalize hy:zjK x.1=y
 unfold zjK at hy
 try simp only [ze.eta,zw]
 repeat' (first | with_reducible refine obr hy hc (fun _ hy hc=>?_) (fun _ hy hc=>?_) | with_reducible refine zay hy (fun _ hy=>?_) (fun _ hy=>?_) | with_reducible refine zaZ hc (fun hc=>?_) | with_reducible refine zy ?_)
 all_goals first | (cases hc; done) | (subst hy; first | (change Reach _ _ _ _ _ _; apply zvR hC <;> first | assumption | exact hc) | (change Reach _ _ _ _ _ _; apply zqu hC <;> first | assumption | exact hc) | rfl)

noncomputable def zhp:Env:=(((zcl.add 152 F81).add 167 F95).add 162 F90)
theorem znm:zi zhp:=(zi.addS (zi.addS (zi.addS zcO (zB.refl zcl) zSv) ((zB.refl zcl).add _ _) zS6) (((zB.refl zcl).add _ _).add _ _) zRg)
theorem zmO:zhp.P.follows .mixedOrders=true:=(zm (zm (zm zcQ _ _) _ _) _ _)
open Go Go.Proofs
set_option maxHeartbeats 4000000

abbrev zEf:Nat→zQ:=fun _=>{ }
theorem zLJ:zF zhp.P 118 Tryz.f118 1:=by refine ⟨?_,?_,?_,?_⟩ <;> kernel_rfl
def zcT (x0:Sem zu) (_:ze) (_:ze) (_:Sem zan.sl×Sem (Sh.expr.pr Sh.str)) (_:Sem zf.sl×Sem (zan.sl.pr (Sh.expr.pr Sh.str))) (_:Sem Sh.str×Sem (Sh.str.sl.pr (zh.sl.pr (Sh.str.pr (Sh.str.sl.pr (zaT.sl.pr (Sh.expr.pr (zf.sl.pr (zan.sl.pr (Sh.expr.pr Sh.str)))))))))) (a5:Bool) (_:Sem Sh.expr×Sem (zf.sl.pr (zan.sl.pr (Sh.expr.pr Sh.str)))) (a7:Sem Sh.str×Sem (Sh.str.pr (Sh.str.pr (Sh.str.sl.pr (zh.sl.pr (Sh.str.pr (Sh.str.sl.pr (zaT.sl.pr (Sh.expr.pr (zf.sl.pr (zan.sl.pr (Sh.expr.pr Sh.str)))))))))))) (a8:Sem Sh.str×Sem (Sh.str.pr (Sh.str.pr (Sh.str.sl.pr (zh.sl.pr (Sh.str.pr (Sh.str.sl.pr (zaT.sl.pr (Sh.expr.pr (zf.sl.pr (zan.sl.pr (Sh.expr.pr Sh.str)))))))))))) (_:Int) (_:Int) (a11:Bool) (a12:Sem Sh.str×Sem (Sh.str.pr (Sh.str.pr (Sh.str.sl.pr (zh.sl.pr (Sh.str.pr (Sh.str.sl.pr (zaT.sl.pr (Sh.expr.pr (zf.sl.pr (zan.sl.pr (Sh.expr.pr Sh.str)))))))))))) (_:Int) (_:Int) (_:Sem Sh.bool) (a16:Bool) (_:Sem Sh.expr×Sem Sh.str) (a18:Sem Sh.str×Sem (Sh.str.pr (Sh.str.pr (Sh.str.sl.pr (zh.sl.pr (Sh.str.pr (Sh.str.sl.pr (zaT.sl.pr (Sh.expr.pr (zf.sl.pr (zan.sl.pr (Sh.expr.pr Sh.str)))))))))))) (a19:Bool) (a20:Sem Sh.str×Sem (Sh.str.pr (Sh.str.pr (Sh.str.sl.pr (zh.sl.pr (Sh.str.pr (Sh.str.sl.pr (zaT.sl.pr (Sh.expr.pr (zf.sl.pr (zan.sl.pr (Sh.expr.pr Sh.str)))))))))))) (_:Sem Sh.bool) (a22:Bool) (_:Sem zf.sl×Sem (zan.sl.pr (Sh.expr.pr Sh.str))) (a24:Sem Sh.str×Sem (Sh.str.pr (Sh.str.pr (Sh.str.sl.pr (zh.sl.pr (Sh.str.pr (Sh.str.sl.pr (zaT.sl.pr (Sh.expr.pr (zf.sl.pr (zan.sl.pr (Sh.expr.pr Sh.str)))))))))))) (_:Sem Sh.bool) (_:Int) (_:Int) (_:Sem Sh.bool) (_:Bool) (a30:Bool) (_:Sem Sh.str×Sem (Sh.str.pr (Sh.str.pr (Sh.str.sl.pr (zh.sl.pr (Sh.str.pr (Sh.str.sl.pr (zaT.sl.pr (Sh.expr.pr (zf.sl.pr (zan.sl.pr (Sh.expr.pr Sh.str)))))))))))) (a32:Bool) (a33:Sem Sh.bool) (a34:Bool) (a35:Sem Sh.str×Sem (Sh.str.pr (Sh.str.pr (Sh.str.sl.pr (zh.sl.pr (Sh.str.pr (Sh.str.sl.pr (zaT.sl.pr (Sh.expr.pr (zf.sl.pr (zan.sl.pr (Sh.expr.pr Sh.str)))))))))))) (a36:Bool):Tr (Empty ⊕ Raw):=
 Tr.br (x0.1==[99,114,101,97,116,101]) (Tr.chk (bif a5 then zci a7 else true) (Tr.re (AV.bool (bif a5 then zdR a7 else false)) [])) (Tr.br (x0.1==[100,114,111,112]) (Tr.chk (bif zbp x0.2.1 then zci a8 else true) (Tr.re (AV.bool (bif zbp x0.2.1 then zdR a8 else false)) [])) (Tr.br (x0.1==[105,110,115,101,114,116]) (Tr.chk (bif a11 then zci a12 else true) (Tr.re (AV.bool (bif a11 then zdR a12 else false)) [])) (Tr.br (x0.1==[117,112,100,97,116,101]) (Tr.chk (bif a16 then zci a18 else true) (Tr.re (AV.bool (bif a16 then zdR a18 else false)) [])) (Tr.br (x0.1==[100,101,108,101,116,101]) (Tr.chk (bif a19 then zci a20 else true) (Tr.re (AV.bool (bif a19 then zdR a20 else false)) [])) (Tr.br (x0.1==[115,101,108,101,99,116]) (Tr.chk (bif a19 then zci a20 else true) (Tr.re (AV.bool (bif a19 then zdR a20 else false)) [])) (Tr.br (x0.1==[114,101,97,100]) (Tr.chk (bif a22 then zci a24 else true) (Tr.re (AV.bool (bif a22 then zdR a24 else false)) [])) (Tr.br (x0.1==[119,114,105,116,101]) (Tr.chk (bif a22 then zci a24 else true) (Tr.re (AV.bool (bif a22 then zdR a24 else false)) [])) (Tr.br (x0.1==[117,110,114,101,97,100]) (Tr.chk (bif a22 then zci a24 else true) (Tr.re (AV.bool (bif a22 then zdR a24 else false)) [])) (Tr.br (x0.1==[117,110,119,114,105,116,101])
 (Tr.chk (bif a22 then zci a24 else true) (Tr.re (AV.bool (bif a22 then zdR a24 else false)) [])) (Tr.br (x0.1==[99,111,112,121]) (Tr.chk (bif a30 then a32 else true) (Tr.re (AV.bool (bif a30 then a33 else false)) [])) (Tr.br (x0.1==[106,111,105,110]) (Tr.chk (bif a34 then zci a35 else true) (Tr.re (AV.bool (bif a34 then zdR a35 else false)) [])) (Tr.br (x0.1==[103,114,111,117,112]) (Tr.chk (bif a36 then a32 else true) (Tr.re (AV.bool (bif a36 then a33 else false)) [])) (Tr.re (AV.kb false) [])))))))))))))
def zdw (x0:Sem zu):Tr (Empty ⊕ Raw):=
 let a0:=zz x0.2.2.2.2.2.2.2.2.1
 let a1:=zz x0.2.2.2.2.2.2.2.2.2.2.2.1
 let a2:=(x0.2.2.2.2.2.2.2.2.2.2.1,a1,x0.2.2.2.2.2.2.2.2.2.2.2.2)
 let a3:=(x0.2.2.2.2.2.2.2.2.2.1,a2)
 let a4:=(x0.2.2.1,x0.2.2.2.1,x0.2.2.2.2.1,x0.2.2.2.2.2.1,x0.2.2.2.2.2.2.1,x0.2.2.2.2.2.2.2.1,a0,a3)
 let a5:=bif zbp x0.2.1 then zfK (x0.1,x0.2.1,a4) else false
 let a6:=(ze.mk [] (0,0,[]) [] [],a3)
 let a7:=(x0.1,[],x0.2.2.1,x0.2.2.2.1,[],[],[],[],a6)
 let a8:=(x0.1,[],a4)
 let a9:=(↑(List.length x0.2.2.2.2.2.2.2.2.2.1):Int)
 let a10:=zaa (fun x => !zbj x) x0.2.2.2.2.2.2.2.2.2.1 0
 let a11:=bif zbp x0.2.1 then bif bif decide (a9 < 1) then true else decide (a9 > 12) then false else !decide (a10 ≥ 0) else false
 let a12:=(x0.1,[],x0.2.2.1,x0.2.2.2.1,x0.2.2.2.2.1,x0.2.2.2.2.2.1,x0.2.2.2.2.2.2.1,x0.2.2.2.2.2.2.2.1,a0,[],a2)
 let a13:=(↑(List.length x0.2.2.2.2.2.2.2.2.2.2.1):Int)
 let a14:=zaa (fun x => !zqW x) x0.2.2.2.2.2.2.2.2.2.2.1 0
 let a15:=zkF a1
 let a16:=bif zbp x0.2.1 then bif bif decide (a13 < 1) then true else decide (a13 > 8) then false else bif !decide (a14 ≥ 0) then a15 else false else false
 let a17:=(ze.mk [] (0,0,[]) [] [],x0.2.2.2.2.2.2.2.2.2.2.2.2)
 let a18:=(x0.1,[],x0.2.2.1,x0.2.2.2.1,x0.2.2.2.2.1,x0.2.2.2.2.2.1,x0.2.2.2.2.2.2.1,x0.2.2.2.2.2.2.2.1,a0,x0.2.2.2.2.2.2.2.2.2.1,[],a17)
 let a19:=bif zbp x0.2.1 then a15 else false
 let a20:=(x0.1,[],x0.2.2.1,x0.2.2.2.1,x0.2.2.2.2.1,x0.2.2.2.2.2.1,x0.2.2.2.2.2.2.1,x0.2.2.2.2.2.2.2.1,a0,x0.2.2.2.2.2.2.2.2.2.1,x0.2.2.2.2.2.2.2.2.2.2.1,a17)
 let a21:=zbp x0.2.2.2.2.2.2.2.2.2.2.2.2
 let a22:=bif zbp x0.2.1 then a21 else false
 let a23:=(x0.2.2.2.2.2.2.2.2.2.1,x0.2.2.2.2.2.2.2.2.2.2.1,a1,[])
 let a24:=(x0.1,[],x0.2.2.1,x0.2.2.2.1,x0.2.2.2.2.1,x0.2.2.2.2.2.1,x0.2.2.2.2.2.2.1,x0.2.2.2.2.2.2.2.1,a0,a23)
 let a25:=zbp x0.2.2.1
 let a26:=(↑(List.length x0.2.2.2.1):Int)
 let a27:=zaa (fun x => !zbp x) x0.2.2.2.1 0
 let a28:=zkF a0
 let a29:=bif !decide (a27 ≥ 0) then a28 else false
 let a30:=bif zbp x0.2.1 then bif a25 then bif bif decide (a26 < 1) then true else decide (a26 > 8) then false else a29 else false else false
 let a31:=(x0.1,[],[],[],x0.2.2.2.2.1,x0.2.2.2.2.2.1,x0.2.2.2.2.2.2.1,x0.2.2.2.2.2.2.2.1,a6)
 let a32:=zci a31
 let a33:=zdR a31
 let a34:=bif zbp x0.2.1 then bif a25 then bif zbp x0.2.2.2.2.2.1 then bif a21 then a28 else false else false else false else false
 let a35:=(x0.1,[],[],x0.2.2.2.1,x0.2.2.2.2.1,[],x0.2.2.2.2.2.2.1,x0.2.2.2.2.2.2.2.1,ze.mk [] (0,0,[]) [] [],a23)
 let a36:=bif zbp x0.2.1 then bif a25 then bif bif decide (a26 < 2) then true else decide (a26 > 2) then false else a29 else false else false
 zcT x0 a0 a1 a2 a3 a4 a5 a6 a7 a8 a9 a10 a11 a12 a13 a14 a15 a16 a17 a18 a19 a20 a21 a22 a23 a24 a25 a26 a27 a28 a29 a30 a31 a32 a33 a34 a35 a36
theorem zPF (x0:Sem zu):run zhp 0 zEf (Func.results Tryz.f118).toList 400 (zq Tryz.f118) (zp (Func.ntmps Tryz.f118) [zx zu x0] [])=(zdw x0).map (lf Tryz.f118 e0):=by kernel_rfl
def zph (x0:Sem zu):Option (zo (List.map some [Sh.bool])):=zaj [Sh.bool] t0 100000000 (zdw x0)
def zgD (x0:Sem zu):Bool:=(zph x0).isSome
def zdW (x0:Sem zu):Sem Sh.bool:=(fun r:zo (List.map some [Sh.bool])=>r.1) ((zph x0).getD (zad [Sh.bool]))
def zJX:zJ:=zG [zu] [Sh.bool] (fun x=>zgD x.1) fun x=>(zdW x.1,())
theorem zIw:FOk zhp.P zhp.gl 118 zJX:=zae (ks:=[zu]) (outs:=[Sh.bool]) (keep:=zEf) (gas:=400) (n:=100000000) (e:=e0) (t:=t0) (i:=fun x=>zdw x.1) znm zmO zLJ (fun x=>zPF x.1) (on0 _ _ _ _ _) (fun _=>by kernel_rfl) (fun _=>by kernel_rfl)

abbrev zDV:Nat→zQ:=fun _=>{ }
theorem zO1:zF zhp.P 119 Tryz.f119 1:=by refine ⟨?_,?_,?_,?_⟩ <;> kernel_rfl
def zuQ (x0:Sem zu) (a0:Bool) (a1:Str) (a2:Str) (a3:Str) (a4:Str) (_:ze) (_:ze) (a7:Sem Sh.str×Sem (Sh.str.pr (Sh.str.pr (Sh.str.sl.pr (zh.sl.pr (Sh.str.pr (Sh.str.sl.pr (zaT.sl.pr (Sh.expr.pr (zf.sl.pr (zan.sl.pr (Sh.expr.pr Sh.str)))))))))))) (a8:Str) (a9:Str) (a10:TS) (a11:Str) (a12:Str) (a13:Str) (a14:TS) (a15:Bool) (a16:Str) (a17:TS) (a18:Str) (a19:Str) (a20:Str) (a21:Str) (a22:Str) (a23:Str) (a24:List UInt8) (a25:List UInt8) (a26:Str) (a27:Str) (a28:Str) (a29:Str) (a30:Str) (a31:Str) (a32:TS) (a33:Str) (a34:Bool) (a35:Str) (a36:TS) (a37:Str) (a38:Str) (a39:Str) (a40:Str) (a41:Str) (a42:TS) (a43:Str) (a44:Str) (a45:TS) (a46:Str):Tr (Empty ⊕ Raw):=Tr.chk a0 (Tr.chk (decide ([77,73,71,82,65,84,69,32].length+(Lib.toUpperA x0.1).length≤1099511627776)) (Tr.chk (decide (List.length a1+[32].length≤1099511627776)) (Tr.chk (decide (List.length a2+List.length x0.2.1≤1099511627776)) (Tr.chk (decide (List.length a3+[32,70,82,79,77,32].length≤1099511627776)) (Tr.chk (decide (List.length a4+List.length x0.2.2.1≤1099511627776)) (Tr.br (x0.1==[99,114,101,97,116,101]) (Tr.chk (ziW a7) (Tr.re (AV.str (zjK a7)) []))
 (Tr.br (x0.1==[100,114,111,112]) (Tr.chk (decide ([68,82,79,80,32,84,65,66,76,69,32].length+List.length x0.2.1≤1099511627776)) (Tr.re (AV.str ([68,82,79,80,32,84,65,66,76,69,32]++x0.2.1)) [])) (Tr.br (x0.1==[105,110,115,101,114,116]) (Tr.chk (decide ([73,78,83,69,82,84,32,73,78,84,79,32].length+List.length x0.2.1≤1099511627776)) (Tr.chk (decide (List.length a8+[32,86,65,76,85,69,83,32,40,32].length≤1099511627776)) (Tr.chk (zhq x0.2.2.2.2.2.2.2.2.2.1) (Tr.chk (decide (List.length a9+List.length a10≤1099511627776)) (Tr.chk (decide (List.length a11+[32,41].length≤1099511627776)) (Tr.re (AV.str (a11++[32,41])) [])))))) (Tr.br (x0.1==[117,112,100,97,116,101]) (Tr.chk (decide ([85,80,68,65,84,69,32].length+List.length x0.2.1≤1099511627776)) (Tr.chk (decide (List.length a12+[32,83,69,84,32].length≤1099511627776)) (Tr.chk (zhd x0.2.2.2.2.2.2.2.2.2.2.1) (Tr.chk (decide (List.length a13+List.length a14≤1099511627776)) (Tr.chk a15 (Tr.chk (decide (List.length a16+List.length a17≤1099511627776)) (Tr.re (AV.str (a16++a17)) []))))))) (Tr.br (x0.1==[100,101,108,101,116,101]) (Tr.chk (decide ([68,69,76,69,84,69,32,70,82,79,77,32].length+List.length x0.2.1≤1099511627776)) (Tr.chk a15 (Tr.chk (decide (List.length a18+List.length a17≤1099511627776)) (Tr.re (AV.str (a18++a17)) []))))
 (Tr.br (x0.1==[115,101,108,101,99,116]) (Tr.chk (decide ([83,69,76,69,67,84,32,42,32,70,82,79,77,32].length+List.length x0.2.1≤1099511627776)) (Tr.chk a15 (Tr.chk (decide (List.length a19+List.length a17≤1099511627776)) (Tr.re (AV.str (a19++a17)) [])))) (Tr.br (x0.1==[114,101,97,100]) (Tr.chk a0 (Tr.chk (decide ([71,82,65,78,84,32].length+(Lib.toUpperA x0.1).length≤1099511627776)) (Tr.chk (decide (List.length a20+[32,79,78,32].length≤1099511627776)) (Tr.chk (decide (List.length a21+List.length x0.2.1≤1099511627776)) (Tr.chk (decide (List.length a22+[32,84,79,32].length≤1099511627776)) (Tr.chk (decide (List.length a23+List.length x0.2.2.2.2.2.2.2.2.2.2.2.2≤1099511627776)) (Tr.re (AV.str (a23++x0.2.2.2.2.2.2.2.2.2.2.2.2)) []))))))) (Tr.br (x0.1==[119,114,105,116,101]) (Tr.chk a0 (Tr.chk (decide ([71,82,65,78,84,32].length+(Lib.toUpperA x0.1).length≤1099511627776)) (Tr.chk (decide (List.length a20+[32,79,78,32].length≤1099511627776)) (Tr.chk (decide (List.length a21+List.length x0.2.1≤1099511627776)) (Tr.chk (decide (List.length a22+[32,84,79,32].length≤1099511627776)) (Tr.chk (decide (List.length a23+List.length x0.2.2.2.2.2.2.2.2.2.2.2.2≤1099511627776)) (Tr.re (AV.str (a23++x0.2.2.2.2.2.2.2.2.2.2.2.2)) []))))))) (Tr.br (x0.1==[117,110,114,101,97,100]) (Tr.chk
 (decide (0≤2)&&decide (2≤(↑(List.length x0.1):Int))&&decide ((↑(List.length x0.1):Int)≤(↑(List.length x0.1):Int))) (Tr.chk (decide (a24.length≤140737488355328)&&a24.all fun b=>decide (b.toNat < 128)) (Tr.chk (decide ([82,69,86,79,75,69,32].length+a25.length≤1099511627776)) (Tr.chk (decide (List.length a26+[32,79,78,32].length≤1099511627776)) (Tr.chk (decide (List.length a27+List.length x0.2.1≤1099511627776)) (Tr.chk (decide (List.length a28+[32,70,82,79,77,32].length≤1099511627776)) (Tr.chk (decide (List.length a29+List.length x0.2.2.2.2.2.2.2.2.2.2.2.2≤1099511627776)) (Tr.re (AV.str (a29++x0.2.2.2.2.2.2.2.2.2.2.2.2)) [])))))))) (Tr.br (x0.1==[117,110,119,114,105,116,101]) (Tr.chk (decide (0≤2)&&decide (2≤(↑(List.length x0.1):Int))&&decide ((↑(List.length x0.1):Int)≤(↑(List.length x0.1):Int))) (Tr.chk (decide (a24.length≤140737488355328)&&a24.all fun b=>decide (b.toNat < 128)) (Tr.chk (decide ([82,69,86,79,75,69,32].length+a25.length≤1099511627776)) (Tr.chk (decide (List.length a26+[32,79,78,32].length≤1099511627776)) (Tr.chk (decide (List.length a27+List.length x0.2.1≤1099511627776)) (Tr.chk (decide (List.length a28+[32,70,82,79,77,32].length≤1099511627776)) (Tr.chk (decide (List.length a29+List.length x0.2.2.2.2.2.2.2.2.2.2.2.2≤1099511627776)) (Tr.re (AV.str (a29++x0.2.2.2.2.2.2.2.2.2.2.2.2)) [])))))))) (Tr.br (x0.1==[99,111,112,121])
 (Tr.chk (decide (List.length a30+[32,40,32].length≤1099511627776)) (Tr.chk (zhy x0.2.2.2.1) (Tr.chk (decide (List.length a31+List.length a32≤1099511627776)) (Tr.chk (decide (List.length a33+[32,41].length≤1099511627776)) (Tr.chk a34 (Tr.chk (decide (List.length a35+List.length a36≤1099511627776)) (Tr.re (AV.str (a35++a36)) []))))))) (Tr.br (x0.1==[106,111,105,110]) (Tr.chk (decide (List.length a30+[32,44,32].length≤1099511627776)) (Tr.chk (decide (List.length a37+List.length x0.2.2.2.2.2.2.2.2.2.2.2.2≤1099511627776)) (Tr.chk (decide (List.length a38+[32,79,78,32].length≤1099511627776)) (Tr.chk (decide (List.length a39+List.length x0.2.2.2.2.2.1≤1099511627776)) (Tr.chk a34 (Tr.chk (decide (List.length a40+List.length a36≤1099511627776)) (Tr.re (AV.str (a40++a36)) []))))))) (Tr.chk (decide (List.length a30+[32,66,89,32].length≤1099511627776)) (Tr.chk (inB 0 (List.length x0.2.2.2.1)) (Tr.chk (decide (List.length a41+List.length a42≤1099511627776)) (Tr.chk (decide (List.length a43+[32,83,85,77,32].length≤1099511627776)) (Tr.chk (inB 1 (List.length x0.2.2.2.1)) (Tr.chk (decide (List.length a44+List.length a45≤1099511627776)) (Tr.chk a34 (Tr.chk (decide (List.length a46+List.length a36≤1099511627776)) (Tr.re (AV.str (a46++a36)) []))))))))))))))))))))))))))
def zpQ (x0:Sem zu):Tr (Empty ⊕ Raw):=
 let a0:=decide (List.length x0.1≤140737488355328)&&List.all x0.1 fun b=>decide (b.toNat < 128)
 let a1:=[77,73,71,82,65,84,69,32]++Lib.toUpperA x0.1
 let a2:=a1++[32]
 let a3:=a2++x0.2.1
 let a4:=a3++[32,70,82,79,77,32]
 let a5:=zz x0.2.2.2.2.2.2.2.2.1
 let a6:=zz x0.2.2.2.2.2.2.2.2.2.2.2.1
 let a7:=(x0.1,x0.2.1,x0.2.2.1,x0.2.2.2.1,x0.2.2.2.2.1,x0.2.2.2.2.2.1,x0.2.2.2.2.2.2.1,x0.2.2.2.2.2.2.2.1,a5,x0.2.2.2.2.2.2.2.2.2.1,x0.2.2.2.2.2.2.2.2.2.2.1,a6,x0.2.2.2.2.2.2.2.2.2.2.2.2)
 let a8:=[73,78,83,69,82,84,32,73,78,84,79,32]++x0.2.1
 let a9:=a8++[32,86,65,76,85,69,83,32,40,32]
 let a10:=zg6 x0.2.2.2.2.2.2.2.2.2.1
 let a11:=a9++a10
 let a12:=[85,80,68,65,84,69,32]++x0.2.1
 let a13:=a12++[32,83,69,84,32]
 let a14:=zhr x0.2.2.2.2.2.2.2.2.2.2.1
 let a15:=zpk a6
 let a16:=a13++a14
 let a17:=zsC a6
 let a18:=[68,69,76,69,84,69,32,70,82,79,77,32]++x0.2.1
 let a19:=[83,69,76,69,67,84,32,42,32,70,82,79,77,32]++x0.2.1
 let a20:=[71,82,65,78,84,32]++Lib.toUpperA x0.1
 let a21:=a20++[32,79,78,32]
 let a22:=a21++x0.2.1
 let a23:=a22++[32,84,79,32]
 let a24:=List.take ((↑(List.length x0.1):Int).toNat - Int.toNat 2) (List.drop (Int.toNat 2) x0.1)
 let a25:=Lib.toUpperA a24
 let a26:=[82,69,86,79,75,69,32]++a25
 let a27:=a26++[32,79,78,32]
 let a28:=a27++x0.2.1
 let a29:=a28++[32,70,82,79,77,32]
 let a30:=a4++x0.2.2.1
 let a31:=a30++[32,40,32]
 let a32:=zhl x0.2.2.2.1
 let a33:=a31++a32
 let a34:=zhE [32] a5
 let a35:=a33++[32,41]
 let a36:=zfu [32] a5
 let a37:=a30++[32,44,32]
 let a38:=a37++x0.2.2.2.2.2.2.2.2.2.2.2.2
 let a39:=a38++[32,79,78,32]
 let a40:=a39++x0.2.2.2.2.2.1
 let a41:=a30++[32,66,89,32]
 let a42:=List.getD x0.2.2.2.1 (Int.toNat 0) (zl Sh.str)
 let a43:=a41++a42
 let a44:=a43++[32,83,85,77,32]
 let a45:=List.getD x0.2.2.2.1 (Int.toNat 1) (zl Sh.str)
 let a46:=a44++a45
 zuQ x0 a0 a1 a2 a3 a4 a5 a6 a7 a8 a9 a10 a11 a12 a13 a14 a15 a16 a17 a18 a19 a20 a21 a22 a23 a24 a25 a26 a27 a28 a29 a30 a31 a32 a33 a34 a35 a36 a37 a38 a39 a40 a41 a42 a43 a44 a45 a46
theorem zMc (x0:Sem zu):run zhp 0 zDV (Func.results Tryz.f119).toList 400 (zq Tryz.f119) (zp (Func.ntmps Tryz.f119) [zx zu x0] [])=(zpQ x0).map (lf Tryz.f119 e0):=by kernel_rfl
def zzn (x0:Sem zu):Option (zo (List.map some [Sh.str])):=zaj [Sh.str] t0 100000000 (zpQ x0)
def zm5 (x0:Sem zu):Bool:=(zzn x0).isSome
def zki (x0:Sem zu):Sem Sh.str:=(fun r:zo (List.map some [Sh.str])=>r.1) ((zzn x0).getD (zad [Sh.str]))
def zK3:zJ:=zG [zu] [Sh.str] (fun x=>zm5 x.1) fun x=>(zki x.1,())
theorem zHI:FOk zhp.P zhp.gl 119 zK3:=zae (ks:=[zu]) (outs:=[Sh.str]) (keep:=zDV) (gas:=400) (n:=100000000) (e:=e0) (t:=t0) (i:=fun x=>zpQ x.1) znm zmO zO1 (fun x=>zMc x.1) (on0 _ _ _ _ _) (fun _=>by kernel_rfl) (fun _=>by kernel_rfl)

noncomputable def zod:Env:=((zhp.add 118 zJX).add 119 zK3)
theorem zsK:zi zod:=(zi.addS (zi.addS znm (zB.refl zhp) zIw) ((zB.refl zhp).add _ _) zHI)
theorem zsr:zod.P.follows .mixedOrders=true:=(zm (zm zmO _ _) _ _)
open Go Go.Proofs
set_option maxHeartbeats 4000000

abbrev zWJ:Nat→zQ:=fun _=>{ }
theorem zP2:zF (zod).P 70 Tryz.f70 1:=by refine ⟨?_,?_,?_,?_⟩ <;> kernel_rfl
theorem zXf (x0:Sem zu):run (zod) 0 zWJ (Func.results Tryz.f70).toList 400 (zq Tryz.f70) (zp (Func.ntmps Tryz.f70) [zx zu x0] [])=Tr.chk (zgD (zr1 x0)) (Tr.br (!zdW (zr1 x0)) (Tr.ok (zD.ret (AV.tup [AV.str [],ai 1]) [])) (Tr.chk (zm5 (zr1 x0)) (Tr.chk (zFQ (zki (zr1 x0))) (Tr.br ((cut (zki (zr1 x0))).2 != 0) (Tr.ok (zD.ret (AV.tup [AV.str [],ai 1]) [])) (Tr.ok (zD.ret (AV.tup [AV.str (zki (zr1 x0)),ai 0]) [])))))):=by kernel_rfl
def zkV (x0:Sem zu):Sem Sh.str×Sem zg:=(if (!zdW x0)=true then ([],1) else if ((cut (zki x0)).2 != 0)=true then ([],1) else (zki x0,0))
def zmf (x0:Sem zu):Bool:=(if zgD x0=true then if (!zdW x0)=true then true else if zm5 x0=true then if zFQ (zki x0)=true then true else false else false else false)
def F52:zJ:=zG [zu] [Sh.str,zg] (fun x=>zmf x.1) fun x=>((zkV x.1).1,(zkV x.1).2,())
theorem zQo:FOk (zod).P (zod).gl 70 F52:=by
 refine zT (zP2) fun x hc C hC=>?_
 unfold zmf at hc
 refine zr zsK zsr (zP2) (fun id _=>hC id) (zXf x.1) ?_
 generalize hy:zkV x.1=y
 unfold zkV at hy
 try simp only [zBC]
 repeat' (first | with_reducible refine obr hy hc (fun _ hy hc=>?_) (fun _ hy hc=>?_) | with_reducible refine zay hy (fun _ hy=>?_) (fun _ hy=>?_) | with_reducible refine zaZ hc (fun hc=>?_) | with_reducible refine zy ?_)
 all_goals first | (cases hc; done) | (subst hy; first | rfl)

noncomputable def znP:Env:=(zod.add 70 F52)
theorem ztD:zi znP:=(zi.addS zsK (zB.refl zod) zQo)
theorem zsy:znP.P.follows .mixedOrders=true:=(zm zsr _ _)
open Go Go.Proofs
set_option maxHeartbeats 4000000

abbrev zWZ:Nat→zQ:=fun _=>{ }
theorem zVy:zF (znP).P 33 Tryz.f33 1:=by refine ⟨?_,?_,?_,?_⟩ <;> kernel_rfl
theorem zWr (x0:Sem zu):run (znP) 0 zWZ (Func.results Tryz.f33).toList 400 (zq Tryz.f33) (zp (Func.ntmps Tryz.f33) [zx zu x0] [])=Tr.chk (zmf (zr1 x0)) (Tr.ok (zD.ret (AV.bool ((zkV (zr1 x0)).2==0)) [])):=by kernel_rfl
def zfd (x0:Sem zu):Sem Sh.bool:=((zkV x0).2==0)
def zhY (x0:Sem zu):Bool:=(if zmf x0=true then true else false)
def F31:zJ:=zG [zu] [Sh.bool] (fun x=>zhY x.1) fun x=>(zfd x.1,())
theorem zRb:FOk (znP).P (znP).gl 33 F31:=by
 refine zT (zVy) fun x hc C hC=>?_
 unfold zhY at hc
 refine zr ztD zsy (zVy) (fun id _=>hC id) (zWr x.1) ?_
 generalize hy:zfd x.1=y
 unfold zfd at hy
 try simp only [zBC]
 repeat' (first | with_reducible refine obr hy hc (fun _ hy hc=>?_) (fun _ hy hc=>?_) | with_reducible refine zay hy (fun _ hy=>?_) (fun _ hy=>?_) | with_reducible refine zaZ hc (fun hc=>?_) | with_reducible refine zy ?_)
 all_goals first | (cases hc; done) | (subst hy; first | rfl)

noncomputable def zcJ:Env:=(znP.add 33 F31)
theorem zeJ:zi zcJ:=(zi.addS ztD (zB.refl znP) zRb)
theorem ze1:zcJ.P.follows .mixedOrders=true:=(zm zsy _ _)
open Go Go.Proofs
set_option maxHeartbeats 4000000

noncomputable def zUq:zJ:=zai (List.replicate 2 none) (zbx zcJ Tryz.f92 (List.replicate 2 none))
theorem zLW:FOk zcJ.P zcJ.gl 92 zUq:=zav _ zeJ ze1 (by refine ⟨?_,?_,?_,?_⟩ <;> kernel_rfl)

abbrev zRn:Nat→zQ:=fun _=>{ }
theorem zK5:zF (zcJ).P 22 Tryz.f22 1:=by refine ⟨?_,?_,?_,?_⟩ <;> kernel_rfl
theorem zTJ (x0:TS):run (zcJ) 0 zRn (Func.results Tryz.f22).toList 400 (zq Tryz.f22) (zp (Func.ntmps Tryz.f22) [zx Sh.str x0] [])=Tr.br (decide ((↑(List.length x0):Int) > 20)) (Tr.chk (decide (0≤0)&&decide (0≤20)&&decide (20≤(↑(List.length x0):Int))) (Tr.ok (zD.ret (AV.str (List.take (Int.toNat 20 - Int.toNat 0) (List.drop (Int.toNat 0) x0))) []))) (Tr.ok (zD.ret (AV.str x0) [])):=by kernel_rfl
def zbu (x0:TS):Sem Sh.str:=(if decide ((↑(List.length x0):Int) > 20)=true then List.take (Int.toNat 20 - Int.toNat 0) (List.drop (Int.toNat 0) x0) else x0)
def zcV (x0:TS):Bool:=(if decide ((↑(List.length x0):Int) > 20)=true then if (decide (0≤0)&&decide (0≤20)&&decide (20≤(↑(List.length x0):Int)))=true then true else false else true)
def zSJ:zJ:=zG [Sh.str] [Sh.str] (fun x=>zcV x.1) fun x=>(zbu x.1,())
theorem zLO:FOk (zcJ).P (zcJ).gl 22 zSJ:=by
 refine zT (zK5) fun x hc C hC=>?_
 unfold zcV at hc
 refine zr zeJ ze1 (zK5) (fun id _=>hC id) (zTJ x.1) ?_
 generalize hy:zbu x.1=y
 unfold zbu at hy
 try simp only [ze.eta]
 repeat' (first | with_reducible refine obr hy hc (fun _ hy hc=>?_) (fun _ hy hc=>?_) | with_reducible refine zay hy (fun _ hy=>?_) (fun _ hy=>?_) | with_reducible refine zaZ hc (fun hc=>?_) | with_reducible refine zy ?_)
 all_goals first | (cases hc; done) | (subst hy; first | rfl)

abbrev zMZ:Nat→zQ:=fun _=>{ }
theorem zEQ:zF (zcJ).P 180 Tryz.f180 3:=by refine ⟨?_,?_,?_,?_⟩ <;> kernel_rfl
theorem zNg (x0:Sem zf.sl) (x1:Sem zg) (x2:Sem zf):run (zcJ) 0 zMZ (Func.results Tryz.f180).toList 400 (zq Tryz.f180) (zp (Func.ntmps Tryz.f180) [zx zf.sl x0,zx zg x1,zx zf x2] [])=Tr.chk (bif decide (x1 ≥ 0) then bif decide (x1 < (↑(List.length x0):Int)) then inB x1 (List.length x0) else true else true) (Tr.ok (zD.ret (AV.bool (bif decide (x1 ≥ 0) then bif decide (x1 < (↑(List.length x0):Int)) then (List.getD x0 (Int.toNat x1) (zl zf)).1==x2.1&&((List.getD x0 (Int.toNat x1) (zl zf)).2.1==x2.2.1&&((List.getD x0 (Int.toNat x1) (zl zf)).2.2==x2.2.2&&true)) else false else false)) [])):=by kernel_rfl
def zbT (x0:Sem zf.sl) (x1:Sem zg) (x2:Sem zf):Sem Sh.bool:=(bif decide (x1 ≥ 0) then bif decide (x1 < (↑(List.length x0):Int)) then (List.getD x0 (Int.toNat x1) (zl zf)).1==x2.1&&((List.getD x0 (Int.toNat x1) (zl zf)).2.1==x2.2.1&&((List.getD x0 (Int.toNat x1) (zl zf)).2.2==x2.2.2&&true)) else false else false)
def zoG (x0:Sem zf.sl) (x1:Sem zg) (_:Sem zf):Bool:=(if (bif decide (x1 ≥ 0) then bif decide (x1 < (↑(List.length x0):Int)) then inB x1 (List.length x0) else true else true)=true then true else false)
def zK0:zJ:=zG [zf.sl,zg,zf] [Sh.bool] (fun x=>zoG x.1 x.2.1 x.2.2.1) fun x=>(zbT x.1 x.2.1 x.2.2.1,())
theorem zAG:FOk (zcJ).P (zcJ).gl 180 zK0:=by
 refine zT (zEQ) fun x hc C hC=>?_
 unfold zoG at hc
 refine zr zeJ ze1 (zEQ) (fun id _=>hC id) (zNg x.1 x.2.1 x.2.2.1) ?_
 generalize hy:zbT x.1 x.2.1 x.2.2.1=y
 unfold zbT at hy
 try simp only [ze.eta]
 repeat' (first | with_reducible refine obr hy hc (fun _ hy hc=>?_) (fun _ hy hc=>?_) | with_reducible refine zay hy (fun _ hy=>?_) (fun _ hy=>?_) | with_reducible refine zaZ hc (fun hc=>?_) | with_reducible refine zy ?_)
 all_goals first | (cases hc; done) | (subst hy; first | rfl)

abbrev zJ5:Nat→zQ:=fun j=>if j=2 then { slots:=[0,1,5] } else { }
abbrev zrD (l0:List (Sem zk)) (s1:TS) (i5:Int):St:={ tmps:=[AV.sl zk l0,AV.str s1,ny,ny,ny,ai i5,ny,ny,ny,ny,ny,ny,ny,ny,ny,ny,ny,ny,ny,ny,ny],heap:=[] }
theorem zBH:zF (zcJ).P 13 Tryz.f13 2:=by refine ⟨?_,?_,?_,?_⟩ <;> kernel_rfl
theorem zRp (x0:Sem zk.sl) (x1:TS):run (zcJ) 0 zJ5 (Func.results Tryz.f13).toList 400 (zq Tryz.f13) (zp (Func.ntmps Tryz.f13) [zx zk.sl x0,zx Sh.str x1] [])=Tr.ok (zD.head 2 (zA Tryz.f13 2) (zrD x0 x1 0)):=by kernel_rfl
theorem zBw (l0:List (Sem zk)) (s1:TS) (i5:Int):run (zcJ) 0 zJ5 (Func.results Tryz.f13).toList 400 (zA Tryz.f13 2) (zrD l0 s1 i5)=Tr.br (decide (i5 < (↑l0.length:Int))) (Tr.chk (inB i5 l0.length) (Tr.br ((l0.getD i5.toNat (zl zk)).1.1==s1) (Tr.ok (zD.ret (ai i5) [])) (Tr.ok (zD.head 2 (zA Tryz.f13 2) (zrD l0 s1 (IntKind.i64.wrap (i5+1))))))) (Tr.ok (zD.ret (ai (-1)) [])):=by kernel_rfl
def zdE (s1:TS):List
 (Sem zk)→Int→Sem zg
 | [],_=>(-1)
 | x::r,i5=>(if (x.1.1==s1)=true then i5 else zdE s1 r (i5+1))
theorem zJr {C:Ctx} (hC:∀ id,C.ρ0 id=none) (s1:TS) (l0:List
 (Sem zk)) (hl:l0.length≤zI):∀ (m i:Nat),l0.length - i=m→i≤l0.length→
  Reach (zcJ) C 13 (zA Tryz.f13 2) (zrD l0 s1 (i:Int)) (fun r h=>zac h [zg] r=some (zdE s1 (l0.drop i) i,())):=by
 intro m
 induction m with
 | zero=>
  intro i hm hi
  obtain rfl:i=l0.length:=by omega
  rw [List.drop_length]
  refine zr zeJ ze1 (zBH) (fun id _=>hC id) (zBw _ _ _) ?_
  generalize hy:zdE s1 [] _=y
  rw [zdE] at hy
  simp only [zP,Tr.val_brF]
  repeat' (first | with_reducible refine zay hy (fun _ hy=>?_) (fun _ hy=>?_) | with_reducible refine zy ?_)
  all_goals first | (cases hc; done) | (subst hy; first | rfl)
 | succ m IH=>
  intro i hm hi
  have hlt:i < l0.length:=by omega
  have IH:=IH (i+1)
  have hcast:((i:Int)+1)=((i+1:Nat):Int):=by omega
  have hwr:=zH i (by omega)
  rw [List.drop_eq_getElem_cons hlt]
  refine zr zeJ ze1 (zBH) (fun id _=>hC id) (zBw _ _ _) ?_
  generalize hy:zdE s1 (l0[i]::l0.drop (i+1)) (i:Int)=y
  rw [zdE] at hy
  simp only [zV hlt,zK hlt,zaD l0 _ hlt,hwr,Tr.val_brT,Tr.val_chkT]
  clear hwr
  try simp only [zK hlt] at hy
  simp only [hcast] at hy
  repeat' (first | with_reducible refine zay hy (fun _ hy=>?_) (fun _ hy=>?_) | with_reducible refine zy ?_)
  all_goals first | (cases hc; done) | (subst hy; first | (change Reach _ _ _ _ _ _; apply IH <;> first | omega | assumption) | rfl)
theorem zGx {C:Ctx} (hC:∀ id,C.ρ0 id=none) (s1:TS) (l0:List
 (Sem zk)):
  Reach (zcJ) C 13 (zA Tryz.f13 2) (zrD l0 s1 0) (fun r h=>zac h [zg] r=some (zdE s1 l0 0,())):=
 Reach.len 0 zk l0 rfl fun hl=>zJr hC s1 l0 hl _ 0 rfl (Nat.zero_le _)
def zqH (x0:Sem zk.sl) (x1:TS):Sem zg:=(zdE x1 x0 0)
def zUS:zJ:=zaf [zk.sl,Sh.str] [zg] fun x=>(zqH x.1 x.2.1,())
theorem zOp:FOk (zcJ).P (zcJ).gl 13 zUS:=by
 refine zN (zBH) fun x C hC=>?_
 refine zr zeJ ze1 (zBH) (fun id _=>hC id) (zRp x.1 x.2.1) ?_
 generalize hy:zqH x.1 x.2.1=y
 unfold zqH at hy
 try simp only [ze.eta]
 repeat' (first | with_reducible refine zay hy (fun _ hy=>?_) (fun _ hy=>?_) | with_reducible refine zy ?_)
 all_goals first | (cases hc; done) | (subst hy; first | (change Reach _ _ _ _ _ _; apply zGx hC <;> first | assumption | exact hc) | rfl)

noncomputable def zdX:Env:=((((zcJ.add 92 zUq).add 22 zSJ).add 180 zK0).add 13 zUS)
theorem zf1:zi zdX:=(zi.addS (zi.addS (zi.addS (zi.addS zeJ (zB.refl zcJ) zLW) ((zB.refl zcJ).add _ _) zLO) (((zB.refl zcJ).add _ _).add _ _) zAG) ((((zB.refl zcJ).add _ _).add _ _).add _ _) zOp)
theorem zfM:zdX.P.follows .mixedOrders=true:=(zm (zm (zm (zm ze1 _ _) _ _) _ _) _ _)
open Go Go.Proofs
set_option maxHeartbeats 4000000

theorem zt0 (x:Sem (Sh.sl zf)) (c:Int) (v:Sem zf):zoG x c v=true:=by
 unfold zoG
 by_cases h1:(c:Int) ≥ 0
 ·by_cases h2:c < (List.length x:Int)
  ·have h3:inB c (List.length x)=true:=by simp [inB]; exact ⟨h1,h2⟩
   simp [decide_eq_true h1,decide_eq_true h2,h3]
  ·simp [decide_eq_true h1,decide_eq_false h2]
 ·simp [decide_eq_false h1]
def zKw:zJ:=zaf [Sh.sl zf,zg,zf] [Sh.bool] fun x=>(zbT x.1 x.2.1 x.2.2.1,())
theorem zIn:FOk zdX.P zdX.gl 180 zKw:=zdl zAG fun x=>zt0 x.1 x.2.1 x.2.2.1

abbrev zKA:Nat→zQ:=fun j=>if j=3 then { slots:=[0,3,4],prom:=[(3,none,.str)] } else { }
abbrev zpv (l0:LS) (i4:Int) (lh_0:LS):St:={ tmps:=[AV.sl Sh.str l0,ny,ny,AV.vec 0,ai i4,ny,ny,ny,ny,ny,ny,ny,ny,ny,ny,ny,ny,ny,ny,ny,ny,ny,ny,ny],heap:=[AO.vec Sh.str lh_0] }
theorem zAc:zF (zdX).P 23 Tryz.f23 1:=by refine ⟨?_,?_,?_,?_⟩ <;> kernel_rfl
theorem zUT (x0:Sem Sh.str.sl):run (zdX) 0 zKA (Func.results Tryz.f23).toList 400 (zq Tryz.f23) (zp (Func.ntmps Tryz.f23) [zx Sh.str.sl x0] [])=Tr.ok (zD.head 3 (zA Tryz.f23 3) (zpv x0 0 [])):=by kernel_rfl
theorem zAB (l0:LS) (i4:Int) (lh_0:LS):run (zdX) 0 zKA (Func.results Tryz.f23).toList 400 (zA Tryz.f23 3) (zpv l0 i4 lh_0)=Tr.br (bif decide (i4 < (↑l0.length:Int)) then decide (i4 < 10) else false) (Tr.chk (inB i4 l0.length) (Tr.chk (zcV (l0.getD i4.toNat (zl Sh.str))) (Tr.chk (decide (lh_0.length+[zbu (l0.getD i4.toNat (zl Sh.str))].length≤1073741824)) (Tr.ok (zD.head 3 (zA Tryz.f23 3) (zpv l0 (IntKind.i64.wrap (i4+1)) (lh_0++[zbu (l0.getD i4.toNat (zl Sh.str))]))))))) (Tr.ok (zD.ret (AV.vec 0) [AO.vec Sh.str lh_0])):=by kernel_rfl
def zcw:List (Sem Sh.str)→Int→List (Sem Sh.str)→Sem Sh.str.sl
 | [],_,lh_0=>(lh_0)
 | x::r,i4,lh_0=>(if decide (i4 < 10)=true then zcw r (i4+1) (lh_0++[zbu x]) else lh_0)
def zc9:List (Sem Sh.str)→Int→List (Sem Sh.str)→Bool
 | [],_,_=>(true)
 | x::r,i4,lh_0=>(if decide (i4 < 10)=true then
 if zcV x=true then if decide (lh_0.length+[zbu x].length≤1073741824)=true then zc9 r (i4+1) (lh_0++[zbu x]) else false else false
else true)
theorem zHD {C:Ctx} (hC:∀ id,C.ρ0 id=none) (l0:LS) (hl:l0.length≤zI):∀ (m i:Nat) (lh_0:LS),l0.length - i=m→i≤l0.length→zc9 (l0.drop i) i lh_0=true→
  Reach (zdX) C 23 (zA Tryz.f23 3) (zpv l0 (i:Int) lh_0) (fun r h=>zac h [Sh.str.sl] r=some (zcw (l0.drop i) i lh_0,())):=by
 intro m
 induction m with
 | zero=>
  intro i lh_0 hm hi hc
  obtain rfl:i=l0.length:=by omega
  rw [List.drop_length] at hc ⊢
  refine zr zf1 zfM (zAc) (fun id _=>hC id) (zAB _ _ _) ?_
  rw [zc9] at hc
  generalize hy:zcw [] _ lh_0=y
  rw [zcw] at hy
  simp only [zP,cond_false,Tr.val_brF]
  repeat' (first | with_reducible refine obr hy hc (fun _ hy hc=>?_) (fun _ hy hc=>?_) | with_reducible refine zay hy (fun _ hy=>?_) (fun _ hy=>?_) | with_reducible refine zaZ hc (fun hc=>?_) | with_reducible refine zy ?_)
  all_goals first | (cases hc; done) | (subst hy; first | rfl)
 | succ m IH=>
  intro i lh_0 hm hi hc
  have hlt:i < l0.length:=by omega
  have IH:=IH (i+1)
  have hcast:((i:Int)+1)=((i+1:Nat):Int):=by omega
  have hwr:=zH i (by omega)
  rw [List.drop_eq_getElem_cons hlt] at hc ⊢
  refine zr zf1 zfM (zAc) (fun id _=>hC id) (zAB _ _ _) ?_
  rw [zc9] at hc
  generalize hy:zcw (l0[i]::l0.drop (i+1)) (i:Int) lh_0=y
  rw [zcw] at hy
  simp only [zV hlt,zK hlt,zaD l0 _ hlt,hwr,cond_true]
  clear hwr
  try simp only [zK hlt] at hy
  simp only [hcast] at hy
  try simp only [zK hlt] at hc
  try simp only [hcast] at hc
  repeat' (first | with_reducible refine obr hy hc (fun _ hy hc=>?_) (fun _ hy hc=>?_) | with_reducible refine zay hy (fun _ hy=>?_) (fun _ hy=>?_) | with_reducible refine zaZ hc (fun hc=>?_) | with_reducible refine zy ?_)
  all_goals first | (cases hc; done) | (subst hy; first | (change Reach _ _ _ _ _ _; apply IH <;> first | omega | assumption) | rfl)
theorem zFl {C:Ctx} (hC:∀ id,C.ρ0 id=none) (l0:LS) (lh_0:LS) (hc:zc9 l0 0 lh_0=true):
  Reach (zdX) C 23 (zA Tryz.f23 3) (zpv l0 0 lh_0) (fun r h=>zac h [Sh.str.sl] r=some (zcw l0 0 lh_0,())):=
 Reach.len 0 (Sh.str) l0 rfl fun hl=>zHD hC l0 hl _ 0 lh_0 rfl (Nat.zero_le _) hc
def zfC (x0:Sem Sh.str.sl):Sem Sh.str.sl:=(zcw x0 0 [])
def ziR (x0:Sem Sh.str.sl):Bool:=(zc9 x0 0 [])
def zTZ:zJ:=zG [Sh.str.sl] [Sh.str.sl] (fun x=>ziR x.1) fun x=>(zfC x.1,())
theorem zPN:FOk (zdX).P (zdX).gl 23 zTZ:=by
 refine zT (zAc) fun x hc C hC=>?_
 unfold ziR at hc
 refine zr zf1 zfM (zAc) (fun id _=>hC id) (zUT x.1) ?_
 generalize hy:zfC x.1=y
 unfold zfC at hy
 try simp only [ze.eta]
 repeat' (first | with_reducible refine obr hy hc (fun _ hy hc=>?_) (fun _ hy hc=>?_) | with_reducible refine zay hy (fun _ hy=>?_) (fun _ hy=>?_) | with_reducible refine zaZ hc (fun hc=>?_) | with_reducible refine zy ?_)
 all_goals first | (cases hc; done) | (subst hy; first | (change Reach _ _ _ _ _ _; apply zFl hC <;> first | assumption | exact hc) | rfl)

abbrev zoZ (s:Str) (l:List (Sem zk)) (i:Int):St:={ tmps:=[.sl zk l,.clo (.func 92) [] [.ptr 0 0],.any,.any,.any,.any,.any,.int .i64 l.length,.int .i64 i,.any,.any,.any,.any,.any,.any,.any,.any,.any,.any],heap:=[.box [.str s]] }
theorem zFX (s:Str) (l:List (Sem zk)):run zdX 1 zis Tryz.f91.results.toList 300 (zq Tryz.f91) (zp Tryz.f91.ntmps [.sl zk l,.clo (.func 92) [] [.ptr 0 0]] [.box [.str s]])=.ok (.head 2 (zA Tryz.f91 2) (zoZ s l 0)):=by kernel_rfl
theorem zHi (s:Str) (l:List (Sem zk)) (i:Int):run zdX 1 zis Tryz.f91.results.toList 300 (zA Tryz.f91 2) (zoZ s l i)=zfp (K:=zA Tryz.f91 2) (e:=zk) l (fun x=>x.1.1==s) (zoZ s l) [.box [.str s]] i:=by kernel_rfl

theorem zEs:zF zdX.P 91 Tryz.f91 2:=by refine ⟨?_,?_,?_,?_⟩ <;> kernel_rfl
def zRA:zdS [some (.sl zk),none]:=fun x h=>match x,h with
 | (l,.clo (.func 92) [] [.ptr 0 0],_),[.box [.str s]]=>.ok (.int .i64 (zaa (fun x=>x.1.1==s) l 0),[.box [.str s]])
 | _,_=>.err
def zWi:zJ:=zai [some (.sl zk),none] zRA
theorem zMW:FOk zdX.P zdX.gl 91 zWi:=by
 refine zbC zEs fun x h0 res hx C hC=>?_
 unfold zRA at hx
 split at hx
 ·rename_i l u s
  simp only [Tr.val_ok,Option.some.injEq] at hx
  subst hx
  refine Reach.len 0 zk l rfl fun hl=>?_
  refine zr (n0:=1) zf1 zfM zEs hC (zFX s l) ?_
  exact zdg l (fun x=>x.1.1==s) (zoZ s l) zf1 zfM zEs hC (zHi s l) hl _ 0 rfl (Nat.zero_le _)
 ·simp at hx

noncomputable def zik:Env:=(((zdX.add 180 zKw).add 23 zTZ).add 91 zWi)
theorem zmJ:zi zik:=(zi.addS (zi.addS (zi.addS zf1 (zB.refl zdX) zIn) ((zB.refl zdX).add _ _) zPN) (((zB.refl zdX).add _ _).add _ _) zMW)
theorem zm4:zik.P.follows .mixedOrders=true:=(zm (zm (zm zfM _ _) _ _) _ _)
open Go Go.Proofs
set_option maxHeartbeats 4000000

noncomputable def zLk:zJ:=zai (List.replicate 3 none) (zbx zik Tryz.f179 (List.replicate 3 none))
theorem zJa:FOk zik.P zik.gl 179 zLk:=zav _ zmJ zm4 (by refine ⟨?_,?_,?_,?_⟩ <;> kernel_rfl)

abbrev zUB:Nat→zQ:=fun _=>{ }
theorem zKh:zF (zik).P 51 Tryz.f51 2:=by refine ⟨?_,?_,?_,?_⟩ <;> kernel_rfl
theorem zSn (x0:Sem zk.sl) (x1:TS):run (zik) 0 zUB (Func.results Tryz.f51).toList 400 (zq Tryz.f51) (zp (Func.ntmps Tryz.f51) [zx zk.sl x0,zx Sh.str x1] [])=Tr.ok (zD.ret (ai (zaa (fun x=>x.1.1==x1) x0 0)) []):=by kernel_rfl
def zak (x0:Sem zk.sl) (x1:TS):Sem zg:=(zaa (fun x=>x.1.1==x1) x0 0)
def zT8:zJ:=zaf [zk.sl,Sh.str] [zg] fun x=>(zak x.1 x.2.1,())
theorem zNK:FOk (zik).P (zik).gl 51 zT8:=by
 refine zN (zKh) fun x C hC=>?_
 refine zr zmJ zm4 (zKh) (fun id _=>hC id) (zSn x.1 x.2.1) ?_
 generalize hy:zak x.1 x.2.1=y
 unfold zak at hy
 try simp only [ze.eta]
 repeat' (first | with_reducible refine zay hy (fun _ hy=>?_) (fun _ hy=>?_) | with_reducible refine zy ?_)
 all_goals first | (cases hc; done) | (subst hy; first | rfl)

noncomputable def zl9:Env:=((zik.add 179 zLk).add 51 zT8)
theorem zne:zi zl9:=(zi.addS (zi.addS zmJ (zB.refl zik) zJa) ((zB.refl zik).add _ _) zNK)
theorem znk:zl9.P.follows .mixedOrders=true:=(zm (zm zm4 _ _) _ _)
open Go Go.Proofs
set_option maxHeartbeats 4000000

abbrev zjR (c a b:Int) (s:Str) (l:List (Sem (Sh.sl zf))) (i:Int):St:={ tmps:=[.sl (Sh.sl zf) l,.clo (.func 179) [] [.ptr 0 0,.ptr 1 0],.any,.any,.any,.any,.any,.int .i64 l.length,.int .i64 i,.any,.any,.any,.any,.any,.any,.any,.any,.any,.any],heap:=[.box [.int .i64 c],.box [.int .i64 a,.int .i64 b,.str s]] }
theorem zyJ (c a b:Int) (s:Str) (l:List (Sem (Sh.sl zf))):run zl9 2 zis Tryz.f223.results.toList 300 (zq Tryz.f223) (zp Tryz.f223.ntmps [.sl (Sh.sl zf) l,.clo (.func 179) [] [.ptr 0 0,.ptr 1 0]] [.box [.int .i64 c],.box [.int .i64 a,.int .i64 b,.str s]])=.ok (.head 2 (zA Tryz.f223 2) (zjR c a b s l 0)):=by kernel_rfl
theorem zy8 (c a b:Int) (s:Str) (l:List (Sem (Sh.sl zf))) (i:Int):run zl9 2 zis Tryz.f223.results.toList 300 (zA Tryz.f223 2) (zjR c a b s l i)=zfp (K:=zA Tryz.f223 2) (e:=(Sh.sl zf)) l (fun x=>zbT x c (a,b,s)) (zjR c a b s l) [.box [.int .i64 c],.box [.int .i64 a,.int .i64 b,.str s]] i:=by kernel_rfl

theorem zyy:zF zl9.P 223 Tryz.f223 2:=by refine ⟨?_,?_,?_,?_⟩ <;> kernel_rfl
def zKc:zdS [some (.sl (Sh.sl zf)),none]:=fun x h=>match x,h with
 | (l,.clo (.func 179) [] [.ptr 0 0,.ptr 1 0],_),[.box [.int .i64 c],.box [.int .i64 a,.int .i64 b,.str s]]=>.ok (.int .i64 (zaa (fun x=>zbT x c (a,b,s)) l 0),[.box [.int .i64 c],.box [.int .i64 a,.int .i64 b,.str s]])
 | _,_=>.err
def zKo:zJ:=zai [some (.sl (Sh.sl zf)),none] zKc
theorem zIJ:FOk zl9.P zl9.gl 223 zKo:=by
 refine zbC zyy fun x h0 res hx C hC=>?_
 unfold zKc at hx
 split at hx
 ·rename_i l u c a b s
  simp only [Tr.val_ok,Option.some.injEq] at hx
  subst hx
  refine Reach.len 0 (Sh.sl zf) l rfl fun hl=>?_
  refine zr (n0:=2) zne znk zyy hC (zyJ c a b s l) ?_
  exact zdg l (fun x=>zbT x c (a,b,s)) (zjR c a b s l) zne znk zyy hC (zy8 c a b s l) hl _ 0 rfl (Nat.zero_le _)
 ·simp at hx

noncomputable def zpG:Env:=(zl9.add 223 zKo)
theorem zsT:zi zpG:=(zi.addS zne (zB.refl zl9) zIJ)
theorem zsn:zpG.P.follows .mixedOrders=true:=(zm znk _ _)
open Go Go.Proofs
set_option maxHeartbeats 4000000

noncomputable def zKL:zJ:=zai (List.replicate 2 none) (zbx zpG Tryz.f178 (List.replicate 2 none))
theorem zIO:FOk zpG.P zpG.gl 178 zKL:=zav _ zsT zsn (by refine ⟨?_,?_,?_,?_⟩ <;> kernel_rfl)

noncomputable def zgx:Env:=(zpG.add 178 zKL)
theorem zm6:zi zgx:=(zi.addS zsT (zB.refl zpG) zIO)
theorem znh:zgx.P.follows .mixedOrders=true:=(zm zsn _ _)
open Go Go.Proofs
noncomputable section
set_option maxHeartbeats 4000000

abbrev zPJ:Nat→zQ:=fun _=>{ }
theorem zD2:zF (zgx).P 124 Tryz.f124 3:=by refine ⟨?_,?_,?_,?_⟩ <;> kernel_rfl
theorem zMK (x0:Sem zk) (x1:Sem zg) (x2:Sem zf):run (zgx) 0 zPJ (Func.results Tryz.f124).toList 400 (zq Tryz.f124) (zp (Func.ntmps Tryz.f124) [zx zk x0,zx zg x1,zx zf x2] [])=Tr.ok (zD.ret (AV.bool (decide (zaa (fun x=>zbT x x1 x2) x0.2 0 ≥ 0))) []):=by kernel_rfl
def zdU (x0:Sem zk) (x1:Sem zg) (x2:Sem zf):Sem Sh.bool:=(decide (zaa (fun x=>zbT x x1 x2) x0.2 0 ≥ 0))
def zKB:zJ:=zaf [zk,zg,zf] [Sh.bool] fun x=>(zdU x.1 x.2.1 x.2.2.1,())
theorem zJk:FOk (zgx).P (zgx).gl 124 zKB:=by
 refine zN (zD2) fun x C hC=>?_
 refine zr zm6 znh (zD2) (fun id _=>hC id) (zMK x.1 x.2.1 x.2.2.1) ?_
 generalize hy:zdU x.1 x.2.1 x.2.2.1=y
 unfold zdU at hy
 try simp only [ze.eta]
 repeat' (first | with_reducible refine zay hy (fun _ hy=>?_) (fun _ hy=>?_) | with_reducible refine zy ?_)
 all_goals first | (cases hc; done) | (subst hy; first | rfl)

abbrev zzS:Nat→zQ:=fun j=>if j=3 then { slots:=[1,5,11,12,13] } else { }
inductive zn6 where
 | h3 (i1:Sem zg) (l11:List (Sem zf.sl)) (i12:Int) (i13:Int) (mh_0:List ((Int×Int×Str)×Int))
abbrev zxo:zn6→Nat×St
 | .h3 i1 l11 i12 i13 mh_0=>(3,⟨tm 37 [(1,ai i1),(5,AV.mp 0),(11,AV.sl zf.sl l11),(12,ai i12),(13,ai i13)],[AO.vmap false mh_0]⟩)
theorem zMp:zF zgx.P 122 Tryz.f122 2:=by refine ⟨?_,?_,?_,?_⟩ <;> kernel_rfl
def zAY (x0:Sem zk) (x1:Sem zg):Tr (zn6 ⊕ Raw):=Tr.to (zn6.h3 x1 x0.2 (↑(List.length x0.2):Int) 0 [])
def zpt (i1:Sem zg) (l11:List (Sem zf.sl)) (i12:Int) (i13:Int) (mh_0:List ((Int×Int×Str)×Int)) (a0:Sem zf.sl) (a1:Sem zf) (a2:Int) (a3:List ((Int×Int×Str)×Int)) (a4:List ((Int×Int×Str)×Int)) (a5:Int):Tr (zn6 ⊕ Raw):=Tr.br (decide (i13 < i12)) (Tr.chk (inB i13 l11.length) (Tr.chk (inB i1 (List.length a0)) (Tr.chk (decide (mh_0.length≤1073741824)) (Tr.chk (inB a2 a3.length) (Tr.br (bif a1.1 != 0 then decide (a5 > 1) else false) (Tr.re (AV.kb true) []) (Tr.to (zn6.h3 i1 l11 i12 (IntKind.i64.wrap (i13+1)) a4))))))) (Tr.re (AV.kb false) [])
def zlS (i1:Sem zg) (l11:List (Sem zf.sl)) (i12:Int) (i13:Int) (mh_0:List ((Int×Int×Str)×Int)):Tr (zn6 ⊕ Raw):=
 let a0:=l11.getD i13.toNat (zl zf.sl)
 let a1:=List.getD a0 (Int.toNat i1) (zl zf)
 let a2:=(↑(zgb mh_0 a1):Int)
 let a3:=zfk mh_0 a1
 let a4:=zfw a3 a2.toNat (IntKind.i64.wrap (zdB mh_0 a1+1))
 let a5:=zdB a4 a1
 zpt i1 l11 i12 i13 mh_0 a0 a1 a2 a3 a4 a5
theorem zMu (x0:Sem zk) (x1:Sem zg):run zgx 0 zzS (Func.results Tryz.f122).toList 400 (zq Tryz.f122) (zp (Func.ntmps Tryz.f122) [zx zk x0,zx zg x1] [])=(zAY x0 x1).map (lf Tryz.f122 zxo):=by kernel_rfl
def zwy:zn6→Tr (zn6 ⊕ Raw)
 | .h3 i1 l11 i12 i13 mh_0=>zlS i1 l11 i12 i13 mh_0
theorem zNv:∀ s,run zgx 0 zzS (Func.results Tryz.f122).toList 400 (zA Tryz.f122 (zxo s).1) (zxo s).2=(zwy s).map (lf Tryz.f122 zxo) | .h3 i1 l11 i12 i13 mh_0=>by kernel_rfl
def zvi (x0:Sem zk) (x1:Sem zg):Option (zo (List.map some [Sh.bool])):=zaj [Sh.bool] zwy 100000000 (zAY x0 x1)
def zhK (x0:Sem zk) (x1:Sem zg):Bool:=(zvi x0 x1).isSome
def zkC (x0:Sem zk) (x1:Sem zg):Sem Sh.bool:=(fun r:zo (List.map some [Sh.bool])=>r.1) ((zvi x0 x1).getD (zad [Sh.bool]))
def zKq:zJ:=zG [zk,zg] [Sh.bool] (fun x=>zhK x.1 x.2.1) fun x=>(zkC x.1 x.2.1,())
theorem zIX:FOk zgx.P zgx.gl 122 zKq:=zae (ks:=[zk,zg]) (outs:=[Sh.bool]) (keep:=zzS) (gas:=400) (n:=100000000) (e:=zxo) (t:=zwy) (i:=fun x=>zAY x.1 x.2.1) zm6 znh zMp (fun x=>zMu x.1 x.2.1) zNv (fun _=>by kernel_rfl) (fun _=>by kernel_rfl)

def zgf:Env:=((zgx.add 124 zKB).add 122 zKq)
theorem zna:zi zgf:=(zi.addS (zi.addS zm6 (zB.refl zgx) zJk) ((zB.refl zgx).add _ _) zIX)
theorem znj:zgf.P.follows .mixedOrders=true:=(zm (zm znh _ _) _ _)
end
open Go Go.Proofs
noncomputable section
set_option maxHeartbeats 4000000

abbrev zHq:Nat→zQ:=fun j=>if j=6 then { slots:=[1,18,19,20] } else if j=15 then { slots:=[1,39,40,41] } else if j=21 then { slots:=[1,8] } else { }
inductive zjX where
 | h6 (l18:List (Sem zf.sl)) (i19:Int) (i20:Int) (z0:zj [CP.d zk])
 | h15 (l39:LI) (i40:Int) (i41:Int) (z0:zj [CP.d zk])
 | h21 (i8:Int) (z0:zj [CP.d zk])
abbrev zGh:zjX→Nat×St
 | .h6 l18 i19 i20 z0=>(6,⟨tm 79 [(1,AV.ptr 0 0),(18,AV.sl zf.sl l18),(19,ai i19),(20,ai i20)],[AO.box (cpN [] [CP.d zk] z0)]⟩)
 | .h15 l39 i40 i41 z0=>(15,⟨tm 79 [(1,AV.ptr 0 0),(39,AV.sl zg l39),(40,ai i40),(41,ai i41)],[AO.box (cpN [] [CP.d zk] z0)]⟩)
 | .h21 i8 z0=>(21,⟨tm 79 [(1,AV.ptr 0 0),(8,ai i8)],[AO.box (cpN [] [CP.d zk] z0)]⟩)
theorem zU8:zF zgf.P 71 Tryz.f71 1:=by refine ⟨?_,?_,?_,?_⟩ <;> kernel_rfl
def zwY (x0:Sem zk):Tr (zjX ⊕ Raw):=Tr.br (!zdi (x0.1.1,x0.1.2.1,x0.1.2.2.1,x0.1.2.2.2.1,x0.1.2.2.2.2.1,zz x0.1.2.2.2.2.2)) (Tr.re (ai 1) []) (Tr.br (decide ((↑(List.length x0.2):Int) > 200)) (Tr.re (ai 13) []) (Tr.to (zjX.h6 x0.2 (↑(List.length x0.2):Int) 0 (x0,()))))
def zuI (l18:List (Sem zf.sl)) (i19:Int) (i20:Int) (z0:zj [CP.d zk]) (_:Sem Sh.str×Sem (zh.sl.pr (zg.pr (zg.sl.pr (zt.sl.pr Sh.expr))))) (a1:Sem zg) (a2:Sem zn×Sem zf.sl.sl):Tr (zjX ⊕ Raw):=Tr.br (decide (i20 < i19)) (Tr.chk (inB i20 l18.length) (Tr.br (a1 != 0) (Tr.re (ai a1) []) (Tr.to (zjX.h6 l18 i19 (IntKind.i64.wrap (i20+1)) z0)))) (Tr.chk (zhK a2 z0.1.1.2.2.1) (Tr.br (zkC a2 z0.1.1.2.2.1) (Tr.re (ai 7) []) (Tr.to (zjX.h15 z0.1.1.2.2.2.1 (↑(List.length z0.1.1.2.2.2.1):Int) 0 z0))))
def zrI (l18:List (Sem zf.sl)) (i19:Int) (i20:Int) (z0:zj [CP.d zk]):Tr (zjX ⊕ Raw):=
 let a0:=(z0.1.1.1,z0.1.1.2.1,z0.1.1.2.2.1,z0.1.1.2.2.2.1,z0.1.1.2.2.2.2.1,zz z0.1.1.2.2.2.2.2)
 let a1:=zcL a0 (l18.getD i20.toNat (zl zf.sl))
 let a2:=(a0,z0.1.2)
 zuI l18 i19 i20 z0 a0 a1 a2
def zq9 (l39:LI) (i40:Int) (i41:Int) (z0:zj [CP.d zk]) (a0:Sem zn×Sem zf.sl.sl) (a1:Sem zg):Tr (zjX ⊕ Raw):=Tr.br (decide (i41 < i40)) (Tr.chk (inB i41 l39.length) (Tr.chk (zhK a0 a1) (Tr.br (zkC a0 a1) (Tr.re (ai 7) []) (Tr.to (zjX.h15 l39 i40 (IntKind.i64.wrap (i41+1)) z0))))) (Tr.to (zjX.h21 1 z0))
def zk2 (l39:LI) (i40:Int) (i41:Int) (z0:zj [CP.d zk]):Tr (zjX ⊕ Raw):=
 let a0:=((z0.1.1.1,z0.1.1.2.1,z0.1.1.2.2.1,z0.1.1.2.2.2.1,z0.1.1.2.2.2.2.1,zz z0.1.1.2.2.2.2.2),z0.1.2)
 let a1:=l39.getD i41.toNat (zl zg)
 zq9 l39 i40 i41 z0 a0 a1
def zpw (i8:Int) (z0:zj [CP.d zk]) (a0:Int) (a1:Int) (a2:Sem zf.sl) (a3:Sem zf.sl) (a4:Sem zg):Tr (zjX ⊕ Raw):=Tr.br (decide (i8 < a0)) (Tr.chk (inB a1 (List.length z0.1.2)) (Tr.chk (inB z0.1.1.2.2.1 (List.length a2)) (Tr.chk (inB i8 (List.length z0.1.2)) (Tr.chk (inB z0.1.1.2.2.1 (List.length a3)) (Tr.br (decide (a4 ≥ 0)) (Tr.re (ai 15) []) (Tr.to (zjX.h21 (IntKind.i64.wrap (i8+1)) z0))))))) (Tr.re (ai 0) [])
def zlL (i8:Int) (z0:zj [CP.d zk]):Tr (zjX ⊕ Raw):=
 let a0:=(↑(List.length z0.1.2):Int)
 let a1:=IntKind.i64.wrap (i8 - 1)
 let a2:=List.getD z0.1.2 a1.toNat (zl zf.sl)
 let a3:=List.getD z0.1.2 i8.toNat (zl zf.sl)
 let a4:=zb1 (List.getD a2 (Int.toNat z0.1.1.2.2.1) (zl zf)) (List.getD a3 (Int.toNat z0.1.1.2.2.1) (zl zf))
 zpw i8 z0 a0 a1 a2 a3 a4
theorem zTG (x0:Sem zk):run zgf 0 zHq (Func.results Tryz.f71).toList 400 (zq Tryz.f71) (zp (Func.ntmps Tryz.f71) [zx zk x0] [])=(zwY x0).map (lf Tryz.f71 zGh):=by kernel_rfl
def zl7:zjX→Tr (zjX ⊕ Raw)
 | .h6 l18 i19 i20 z0=>zrI l18 i19 i20 z0
 | .h15 l39 i40 i41 z0=>zk2 l39 i40 i41 z0
 | .h21 i8 z0=>zlL i8 z0
theorem zRB:∀ s,run zgf 0 zHq (Func.results Tryz.f71).toList 400 (zA Tryz.f71 (zGh s).1) (zGh s).2=(zl7 s).map (lf Tryz.f71 zGh) | .h6 l18 i19 i20 z0=>by kernel_rfl | .h15 l39 i40 i41 z0=>by kernel_rfl | .h21 i8 z0=>by kernel_rfl
def zju (x0:Sem zk):Option (zo (List.map some [zg])):=zaj [zg] zl7 100000000 (zwY x0)
def zpc (x0:Sem zk):Bool:=(zju x0).isSome
def zt6 (x0:Sem zk):Sem zg:=(fun r:zo (List.map some [zg])=>r.1) ((zju x0).getD (zad [zg]))
def zWh:zJ:=zG [zk] [zg] (fun x=>zpc x.1) fun x=>(zt6 x.1,())
theorem zLy:FOk zgf.P zgf.gl 71 zWh:=zae (ks:=[zk]) (outs:=[zg]) (keep:=zHq) (gas:=400) (n:=100000000) (e:=zGh) (t:=zl7) (i:=fun x=>zwY x.1) zna znj zU8 (fun x=>zTG x.1) zRB (fun _=>by kernel_rfl) (fun _=>by kernel_rfl)

abbrev zFh:Nat→zQ:=fun j=>if j=2 then { slots:=[0,11,12,13] } else if j=5 then { slots:=[0,4,11,12,13,19,20,21] } else if j=11 then { slots:=[0,4,6,7,11,12,13,19,20,21,32,33,34] } else { }
inductive zj2 where
 | h2 (l0:List (Sem zk)) (l11:List (Sem zk)) (i12:Int) (i13:Int)
 | h5 (l0:List (Sem zk)) (l11:List (Sem zk)) (i12:Int) (i13:Int) (l19:LF) (i20:Int) (i21:Int) (z0:zj [CP.d zk])
 | h11 (l0:List (Sem zk)) (i7:Sem zg) (l11:List (Sem zk)) (i12:Int) (i13:Int) (l19:LF) (i20:Int) (i21:Int) (l32:List (Sem zf.sl)) (i33:Int) (i34:Int) (z0:zj [CP.d zk]) (z1:zj [CP.d zt])
abbrev zHs:zj2→Nat×St
 | .h2 l0 l11 i12 i13=>(2,⟨tm 64 [(0,AV.sl zk l0),(11,AV.sl zk l11),(12,ai i12),(13,ai i13)],[]⟩)
 | .h5 l0 l11 i12 i13 l19 i20 i21 z0=>(5,⟨tm 64 [(0,AV.sl zk l0),(4,AV.ptr 0 0),(11,AV.sl zk l11),(12,ai i12),(13,ai i13),(19,AV.sl zt l19),(20,ai i20),(21,ai i21)],[AO.box (cpN [] [CP.d zk] z0)]⟩)
 | .h11 l0 i7 l11 i12 i13 l19 i20 i21 l32 i33 i34 z0 z1=>(11,⟨tm 64 [(0,AV.sl zk l0),(4,AV.ptr 0 0),(6,AV.ptr 1 0),(7,ai i7),(11,AV.sl zk l11),(12,ai i12),(13,ai i13),(19,AV.sl zt l19),(20,ai i20),(21,ai i21),(32,AV.sl zf.sl l32),(33,ai i33),(34,ai i34)],[AO.box (cpN [] [CP.d zk] z0),AO.box (cpN [] [CP.d zt] z1)]⟩)
theorem zSu:zF zgf.P 72 Tryz.f72 1:=by refine ⟨?_,?_,?_,?_⟩ <;> kernel_rfl
def zIP (x0:Sem zk.sl):Tr (zj2 ⊕ Raw):=Tr.to (zj2.h2 x0 x0 (↑(List.length x0):Int) 0)
def zu1 (l0:List (Sem zk)) (l11:List (Sem zk)) (i12:Int) (i13:Int) (a0:Sem zk):Tr (zj2 ⊕ Raw):=Tr.br (decide (i13 < i12)) (Tr.chk (inB i13 l11.length) (Tr.to (zj2.h5 l0 l11 i12 i13 a0.1.2.2.2.2.1 (↑(List.length a0.1.2.2.2.2.1):Int) 0 (a0,())))) (Tr.re (AV.kb true) [])
def zqN (l0:List (Sem zk)) (l11:List (Sem zk)) (i12:Int) (i13:Int):Tr (zj2 ⊕ Raw):=
 let a0:=l11.getD i13.toNat (zl zk)
 zu1 l0 l11 i12 i13 a0
def zu7 (l0:List (Sem zk)) (l11:List (Sem zk)) (i12:Int) (i13:Int) (l19:LF) (i20:Int) (i21:Int) (z0:zj [CP.d zk]) (a0:Sem zt) (a1:Sem zg):Tr (zj2 ⊕ Raw):=Tr.br (decide (i21 < i20)) (Tr.chk (inB i21 l19.length) (Tr.br (decide (a1 < 0)) (Tr.re (AV.kb false) []) (Tr.to (zj2.h11 l0 a1 l11 i12 i13 l19 i20 i21 z0.1.2 (↑(List.length z0.1.2):Int) 0 z0 (a0,()))))) (Tr.to (zj2.h2 l0 l11 i12 (IntKind.i64.wrap (i13+1))))
def zqZ (l0:List (Sem zk)) (l11:List (Sem zk)) (i12:Int) (i13:Int) (l19:LF) (i20:Int) (i21:Int) (z0:zj [CP.d zk]):Tr (zj2 ⊕ Raw):=
 let a0:=l19.getD i21.toNat (zl zt)
 let a1:=zak l0 a0.2
 zu7 l0 l11 i12 i13 l19 i20 i21 z0 a0 a1
def zp6 (l0:List (Sem zk)) (i7:Sem zg) (l11:List (Sem zk)) (i12:Int) (i13:Int) (l19:LF) (i20:Int) (i21:Int) (l32:List (Sem zf.sl)) (i33:Int) (i34:Int) (z0:zj [CP.d zk]) (z1:zj [CP.d zt]) (a0:Sem zf.sl) (a1:Sem zf) (a2:Bool) (a3:Sem zk):Tr (zj2 ⊕ Raw):=Tr.br (decide (i34 < i33)) (Tr.chk (inB i34 l32.length) (Tr.chk (inB z1.1.1 (List.length a0)) (Tr.chk (bif a2 then inB i7 l0.length&&inB i7 l0.length else true) (Tr.br (bif a2 then !zdU ((a3.1.1,a3.1.2.1,a3.1.2.2.1,a3.1.2.2.2.1,a3.1.2.2.2.2.1,zz a3.1.2.2.2.2.2),a3.2) a3.1.2.2.1 a1 else false) (Tr.re (AV.kb false) []) (Tr.to (zj2.h11 l0 i7 l11 i12 i13 l19 i20 i21 l32 i33 (IntKind.i64.wrap (i34+1)) z0 z1)))))) (Tr.to (zj2.h5 l0 l11 i12 i13 l19 i20 (IntKind.i64.wrap (i21+1)) z0))
def zli (l0:List (Sem zk)) (i7:Sem zg) (l11:List (Sem zk)) (i12:Int) (i13:Int) (l19:LF) (i20:Int) (i21:Int) (l32:List (Sem zf.sl)) (i33:Int) (i34:Int) (z0:zj [CP.d zk]) (z1:zj [CP.d zt]):Tr (zj2 ⊕ Raw):=
 let a0:=l32.getD i34.toNat (zl zf.sl)
 let a1:=List.getD a0 (Int.toNat z1.1.1) (zl zf)
 let a2:=a1.1 != 0
 let a3:=l0.getD (Int.toNat i7) (zl zk)
 zp6 l0 i7 l11 i12 i13 l19 i20 i21 l32 i33 i34 z0 z1 a0 a1 a2 a3
theorem zPX (x0:Sem zk.sl):run zgf 0 zFh (Func.results Tryz.f72).toList 400 (zq Tryz.f72) (zp (Func.ntmps Tryz.f72) [zx zk.sl x0] [])=(zIP x0).map (lf Tryz.f72 zHs):=by kernel_rfl
def zjW:zj2→Tr (zj2 ⊕ Raw)
 | .h2 l0 l11 i12 i13=>zqN l0 l11 i12 i13
 | .h5 l0 l11 i12 i13 l19 i20 i21 z0=>zqZ l0 l11 i12 i13 l19 i20 i21 z0
 | .h11 l0 i7 l11 i12 i13 l19 i20 i21 l32 i33 i34 z0 z1=>zli l0 i7 l11 i12 i13 l19 i20 i21 l32 i33 i34 z0 z1
theorem zVv:∀ s,run zgf 0 zFh (Func.results Tryz.f72).toList 400 (zA Tryz.f72 (zHs s).1) (zHs s).2=(zjW s).map (lf Tryz.f72 zHs) | .h2 l0 l11 i12 i13=>by kernel_rfl | .h5 l0 l11 i12 i13 l19 i20 i21 z0=>by kernel_rfl | .h11 l0 i7 l11 i12 i13 l19 i20 i21 l32 i33 i34 z0 z1=>by kernel_rfl
def zuf (x0:Sem zk.sl):Option (zo (List.map some [Sh.bool])):=zaj [Sh.bool] zjW 100000000 (zIP x0)
def zoT (x0:Sem zk.sl):Bool:=(zuf x0).isSome
def zt9 (x0:Sem zk.sl):Sem Sh.bool:=(fun r:zo (List.map some [Sh.bool])=>r.1) ((zuf x0).getD (zad [Sh.bool]))
def zPV:zJ:=zG [zk.sl] [Sh.bool] (fun x=>zoT x.1) fun x=>(zt9 x.1,())
theorem zPG:FOk zgf.P zgf.gl 72 zPV:=zae (ks:=[zk.sl]) (outs:=[Sh.bool]) (keep:=zFh) (gas:=400) (n:=100000000) (e:=zHs) (t:=zjW) (i:=fun x=>zIP x.1) zna znj zSu (fun x=>zPX x.1) zVv (fun _=>by kernel_rfl) (fun _=>by kernel_rfl)

def zk8:Env:=((zgf.add 71 zWh).add 72 zPV)
theorem zs2:zi zk8:=(zi.addS (zi.addS zna (zB.refl zgf) zLy) ((zB.refl zgf).add _ _) zPG)
theorem zsA:zk8.P.follows .mixedOrders=true:=(zm (zm znj _ _) _ _)
end
open Go Go.Proofs
noncomputable section
set_option maxHeartbeats 4000000

abbrev zFZ:Nat→zQ:=fun j=>if j=4 then { slots:=[0,3] } else if j=9 then { slots:=[0,30,31,32] } else { }
inductive zon where
 | h4 (l0:List (Sem zk)) (i3:Int)
 | h9 (l0:List (Sem zk)) (l30:List (Sem zk)) (i31:Int) (i32:Int)
abbrev zDW:zon→Nat×St
 | .h4 l0 i3=>(4,⟨tm 45 [(0,AV.sl zk l0),(3,ai i3)],[]⟩)
 | .h9 l0 l30 i31 i32=>(9,⟨tm 45 [(0,AV.sl zk l0),(30,AV.sl zk l30),(31,ai i31),(32,ai i32)],[]⟩)
theorem zTA:zF zk8.P 34 Tryz.f34 1:=by refine ⟨?_,?_,?_,?_⟩ <;> kernel_rfl
def zCk (x0:Sem zk.sl):Tr (zon ⊕ Raw):=Tr.br (decide ((↑(List.length x0):Int) > 12)) (Tr.re (ai 13) []) (Tr.to (zon.h4 x0 1))
def zuT (l0:List (Sem zk)) (i3:Int) (a0:Int) (a1:Sem zk) (a2:Sem zk):Tr (zon ⊕ Raw):=Tr.br (decide (i3 < (↑l0.length:Int))) (Tr.chk (inB a0 l0.length) (Tr.chk (inB i3 l0.length) (Tr.br (!Op.bytesLess a1.1.1 a2.1.1) (Tr.re (ai 15) []) (Tr.to (zon.h4 l0 (IntKind.i64.wrap (i3+1))))))) (Tr.to (zon.h9 l0 l0 (↑l0.length:Int) 0))
def zpA (l0:List (Sem zk)) (i3:Int):Tr (zon ⊕ Raw):=
 let a0:=IntKind.i64.wrap (i3 - 1)
 let a1:=l0.getD a0.toNat (zl zk)
 let a2:=l0.getD i3.toNat (zl zk)
 zuT l0 i3 a0 a1 a2
def zvW (l0:List (Sem zk)) (l30:List (Sem zk)) (i31:Int) (i32:Int) (_:Sem zk) (a1:Sem zn×Sem zf.sl.sl) (a2:Sem zg):Tr (zon ⊕ Raw):=Tr.br (decide (i32 < i31)) (Tr.chk (inB i32 l30.length) (Tr.chk (zpc a1) (Tr.br (a2 != 0) (Tr.re (ai a2) []) (Tr.to (zon.h9 l0 l30 i31 (IntKind.i64.wrap (i32+1))))))) (Tr.chk (zoT l0) (Tr.br (!zt9 l0) (Tr.re (ai 10) []) (Tr.re (ai 0) [])))
def zqr (l0:List (Sem zk)) (l30:List (Sem zk)) (i31:Int) (i32:Int):Tr (zon ⊕ Raw):=
 let a0:=l30.getD i32.toNat (zl zk)
 let a1:=((a0.1.1,a0.1.2.1,a0.1.2.2.1,a0.1.2.2.2.1,a0.1.2.2.2.2.1,zz a0.1.2.2.2.2.2),a0.2)
 let a2:=zt6 a1
 zvW l0 l30 i31 i32 a0 a1 a2
theorem zPQ (x0:Sem zk.sl):run zk8 0 zFZ (Func.results Tryz.f34).toList 400 (zq Tryz.f34) (zp (Func.ntmps Tryz.f34) [zx zk.sl x0] [])=(zCk x0).map (lf Tryz.f34 zDW):=by kernel_rfl
def ztV:zon→Tr (zon ⊕ Raw)
 | .h4 l0 i3=>zpA l0 i3
 | .h9 l0 l30 i31 i32=>zqr l0 l30 i31 i32
theorem zSe:∀ s,run zk8 0 zFZ (Func.results Tryz.f34).toList 400 (zA Tryz.f34 (zDW s).1) (zDW s).2=(ztV s).map (lf Tryz.f34 zDW) | .h4 l0 i3=>by kernel_rfl | .h9 l0 l30 i31 i32=>by kernel_rfl
def zpb (x0:Sem zk.sl):Option (zo (List.map some [zg])):=zaj [zg] ztV 100000000 (zCk x0)
def ze2 (x0:Sem zk.sl):Bool:=(zpb x0).isSome
def zf3 (x0:Sem zk.sl):Sem zg:=(fun r:zo (List.map some [zg])=>r.1) ((zpb x0).getD (zad [zg]))
def zQs:zJ:=zG [zk.sl] [zg] (fun x=>ze2 x.1) fun x=>(zf3 x.1,())
theorem zMx:FOk zk8.P zk8.gl 34 zQs:=zae (ks:=[zk.sl]) (outs:=[zg]) (keep:=zFZ) (gas:=400) (n:=100000000) (e:=zDW) (t:=ztV) (i:=fun x=>zCk x.1) zs2 zsA zTA (fun x=>zPQ x.1) zSe (fun _=>by kernel_rfl) (fun _=>by kernel_rfl)

def zbo:Env:=(zk8.add 34 zQs)
theorem zb3:zi zbo:=(zi.addS zs2 (zB.refl zk8) zMx)
theorem zb2:zbo.P.follows .mixedOrders=true:=(zm zsA _ _)
end
open Go Go.Proofs
set_option maxHeartbeats 4000000
abbrev zas:Sh:=.pr .str (.pr .str (.pr .str (.pr zn (.pr (.sl zg) zg))))
abbrev zal:List CP:=[.d (.sl zk),.d zu,.d zn,.d zn,.d .str,.d .str,.d .str,.d .str,.nil,.d zg,.nil,.nil,.d .expr,.nil,.d zg]
abbrev zX:List CP:=[.d (.sl zk),.d zu,.d zn,.d zn,.d .str,.d .str,.d .str,.d .str,.vec zh,.d zg,.nil,.nil,.d .expr,.d (.sl zg),.d zg]

abbrev zKR:Nat→zQ:=fun j=>if j=2 then { slots:=[0,1,7,8] } else { }
abbrev zq6 (l0:LI) (i1:Sem zg) (i7:Int) (i8:Int):St:={ tmps:=[AV.sl zg l0,ai i1,ny,ny,ny,ny,ny,ai i7,ai i8,ny,ny,ny,ny,ny,ny,ny,ny,ny,ny],heap:=[] }
theorem zAI:zF (zbo).P 67 Tryz.f67 2:=by refine ⟨?_,?_,?_,?_⟩ <;> kernel_rfl
theorem zTb (x0:Sem zg.sl) (x1:Sem zg):run (zbo) 0 zKR (Func.results Tryz.f67).toList 400 (zq Tryz.f67) (zp (Func.ntmps Tryz.f67) [zx zg.sl x0,zx zg x1] [])=Tr.ok (zD.head 2 (zA Tryz.f67 2) (zq6 x0 x1 (↑(List.length x0):Int) 0)):=by kernel_rfl
theorem zBe (l0:LI) (i1:Sem zg) (i7:Int) (i8:Int):run (zbo) 0 zKR (Func.results Tryz.f67).toList 400 (zA Tryz.f67 2) (zq6 l0 i1 i7 i8)=Tr.br (decide (i8 < i7)) (Tr.chk (inB i8 l0.length) (Tr.br (i1==l0.getD i8.toNat (zl zg)) (Tr.ok (zD.ret (ai i8) [])) (Tr.ok (zD.head 2 (zA Tryz.f67 2) (zq6 l0 i1 i7 (IntKind.i64.wrap (i8+1))))))) (Tr.ok (zD.ret (ai (-1)) [])):=by kernel_rfl
def zej (i1:Sem zg):List (Sem zg)→Int→Sem zg
 | [],_=>(-1)
 | x::r,i8=>(if (i1==x)=true then i8 else zej i1 r (i8+1))
theorem zHJ {C:Ctx} (hC:∀ id,C.ρ0 id=none) (i1:Sem zg) (l0:LI) (hl:l0.length≤zI):∀ (m i:Nat),l0.length - i=m→i≤l0.length→
  Reach (zbo) C 67 (zA Tryz.f67 2) (zq6 l0 i1 (l0.length:Int) (i:Int)) (fun r h=>zac h [zg] r=some (zej i1 (l0.drop i) i,())):=by
 intro m
 induction m with
 | zero=>
  intro i hm hi
  obtain rfl:i=l0.length:=by omega
  rw [List.drop_length]
  refine zr zb3 zb2 (zAI) (fun id _=>hC id) (zBe _ _ _ _) ?_
  generalize hy:zej i1 [] _=y
  rw [zej] at hy
  simp only [zP,Tr.val_brF]
  repeat' (first | with_reducible refine zay hy (fun _ hy=>?_) (fun _ hy=>?_) | with_reducible refine zy ?_)
  all_goals first | (cases hc; done) | (subst hy; first | rfl)
 | succ m IH=>
  intro i hm hi
  have hlt:i < l0.length:=by omega
  have IH:=IH (i+1)
  have hcast:((i:Int)+1)=((i+1:Nat):Int):=by omega
  have hwr:=zH i (by omega)
  rw [List.drop_eq_getElem_cons hlt]
  refine zr zb3 zb2 (zAI) (fun id _=>hC id) (zBe _ _ _ _) ?_
  generalize hy:zej i1 (l0[i]::l0.drop (i+1)) (i:Int)=y
  rw [zej] at hy
  simp only [zV hlt,zK hlt,zaD l0 _ hlt,hwr,Tr.val_brT,Tr.val_chkT]
  clear hwr
  try simp only [zK hlt] at hy
  simp only [hcast] at hy
  repeat' (first | with_reducible refine zay hy (fun _ hy=>?_) (fun _ hy=>?_) | with_reducible refine zy ?_)
  all_goals first | (cases hc; done) | (subst hy; first | (change Reach _ _ _ _ _ _; apply IH <;> first | omega | assumption) | rfl)
theorem zFa {C:Ctx} (hC:∀ id,C.ρ0 id=none) (i1:Sem zg) (l0:LI):
  Reach (zbo) C 67 (zA Tryz.f67 2) (zq6 l0 i1 (l0.length:Int) 0) (fun r h=>zac h [zg] r=some (zej i1 l0 0,())):=
 Reach.len 0 (Sh.int IntKind.i64) l0 rfl fun hl=>zHJ hC i1 l0 hl _ 0 rfl (Nat.zero_le _)
def zix (x0:Sem zg.sl) (x1:Sem zg):Sem zg:=(zej x1 x0 0)
def zRI:zJ:=zaf [zg.sl,zg] [zg] fun x=>(zix x.1 x.2.1,())
theorem zMO:FOk (zbo).P (zbo).gl 67 zRI:=by
 refine zN (zAI) fun x C hC=>?_
 refine zr zb3 zb2 (zAI) (fun id _=>hC id) (zTb x.1 x.2.1) ?_
 generalize hy:zix x.1 x.2.1=y
 unfold zix at hy
 try simp only [ze.eta]
 repeat' (first | with_reducible refine zay hy (fun _ hy=>?_) (fun _ hy=>?_) | with_reducible refine zy ?_)
 all_goals first | (cases hc; done) | (subst hy; first | (change Reach _ _ _ _ _ _; apply zFa hC <;> first | assumption | exact hc) | rfl)

abbrev zLr:Nat→zQ:=fun j=>if j=2 then { slots:=[0,1,7,8] } else { }
abbrev zqx (l0:LS) (s1:TS) (i7:Int) (i8:Int):St:={ tmps:=[AV.sl Sh.str l0,AV.str s1,ny,ny,ny,ny,ny,ai i7,ai i8,ny,ny,ny,ny,ny,ny,ny,ny,ny,ny],heap:=[] }
theorem zz5:zF (zbo).P 90 Tryz.f90 2:=by refine ⟨?_,?_,?_,?_⟩ <;> kernel_rfl
theorem zVH (x0:Sem Sh.str.sl) (x1:TS):run (zbo) 0 zLr (Func.results Tryz.f90).toList 400 (zq Tryz.f90) (zp (Func.ntmps Tryz.f90) [zx Sh.str.sl x0,zx Sh.str x1] [])=Tr.ok (zD.head 2 (zA Tryz.f90 2) (zqx x0 x1 (↑(List.length x0):Int) 0)):=by kernel_rfl
theorem zA5 (l0:LS) (s1:TS) (i7:Int) (i8:Int):run (zbo) 0 zLr (Func.results Tryz.f90).toList 400 (zA Tryz.f90 2) (zqx l0 s1 i7 i8)=Tr.br (decide (i8 < i7)) (Tr.chk (inB i8 l0.length) (Tr.br (s1==l0.getD i8.toNat (zl Sh.str)) (Tr.ok (zD.ret (ai i8) [])) (Tr.ok (zD.head 2 (zA Tryz.f90 2) (zqx l0 s1 i7 (IntKind.i64.wrap (i8+1))))))) (Tr.ok (zD.ret (ai (-1)) [])):=by kernel_rfl
def zgJ (s1:TS):List (Sem Sh.str)→Int→Sem zg
 | [],_=>(-1)
 | x::r,i8=>(if (s1==x)=true then i8 else zgJ s1 r (i8+1))
theorem zJp {C:Ctx} (hC:∀ id,C.ρ0 id=none) (s1:TS) (l0:LS) (hl:l0.length≤zI):∀ (m i:Nat),l0.length - i=m→i≤l0.length→
  Reach (zbo) C 90 (zA Tryz.f90 2) (zqx l0 s1 (l0.length:Int) (i:Int)) (fun r h=>zac h [zg] r=some (zgJ s1 (l0.drop i) i,())):=by
 intro m
 induction m with
 | zero=>
  intro i hm hi
  obtain rfl:i=l0.length:=by omega
  rw [List.drop_length]
  refine zr zb3 zb2 (zz5) (fun id _=>hC id) (zA5 _ _ _ _) ?_
  generalize hy:zgJ s1 [] _=y
  rw [zgJ] at hy
  simp only [zP,Tr.val_brF]
  repeat' (first | with_reducible refine zay hy (fun _ hy=>?_) (fun _ hy=>?_) | with_reducible refine zy ?_)
  all_goals first | (cases hc; done) | (subst hy; first | rfl)
 | succ m IH=>
  intro i hm hi
  have hlt:i < l0.length:=by omega
  have IH:=IH (i+1)
  have hcast:((i:Int)+1)=((i+1:Nat):Int):=by omega
  have hwr:=zH i (by omega)
  rw [List.drop_eq_getElem_cons hlt]
  refine zr zb3 zb2 (zz5) (fun id _=>hC id) (zA5 _ _ _ _) ?_
  generalize hy:zgJ s1 (l0[i]::l0.drop (i+1)) (i:Int)=y
  rw [zgJ] at hy
  simp only [zV hlt,zK hlt,zaD l0 _ hlt,hwr,Tr.val_brT,Tr.val_chkT]
  clear hwr
  try simp only [zK hlt] at hy
  simp only [hcast] at hy
  repeat' (first | with_reducible refine zay hy (fun _ hy=>?_) (fun _ hy=>?_) | with_reducible refine zy ?_)
  all_goals first | (cases hc; done) | (subst hy; first | (change Reach _ _ _ _ _ _; apply IH <;> first | omega | assumption) | rfl)
theorem zD8 {C:Ctx} (hC:∀ id,C.ρ0 id=none) (s1:TS) (l0:LS):
  Reach (zbo) C 90 (zA Tryz.f90 2) (zqx l0 s1 (l0.length:Int) 0) (fun r h=>zac h [zg] r=some (zgJ s1 l0 0,())):=
 Reach.len 0 (Sh.str) l0 rfl fun hl=>zJp hC s1 l0 hl _ 0 rfl (Nat.zero_le _)
def zwa (x0:Sem Sh.str.sl) (x1:TS):Sem zg:=(zgJ x1 x0 0)
def zV2:zJ:=zaf [Sh.str.sl,Sh.str] [zg] fun x=>(zwa x.1 x.2.1,())
theorem zNd:FOk (zbo).P (zbo).gl 90 zV2:=by
 refine zN (zz5) fun x C hC=>?_
 refine zr zb3 zb2 (zz5) (fun id _=>hC id) (zVH x.1 x.2.1) ?_
 generalize hy:zwa x.1 x.2.1=y
 unfold zwa at hy
 try simp only [ze.eta]
 repeat' (first | with_reducible refine zay hy (fun _ hy=>?_) (fun _ hy=>?_) | with_reducible refine zy ?_)
 all_goals first | (cases hc; done) | (subst hy; first | (change Reach _ _ _ _ _ _; apply zD8 hC <;> first | assumption | exact hc) | rfl)

abbrev zEM:Nat→zQ:=fun j=>if j=2 then { slots:=[0,3,7,8] } else { }
abbrev zlW (l0:LF) (i7:Int) (i8:Int) (ja0:Sem zg) (ja1:TS):St:={ tmps:=[AV.sl zt l0,ny,ny,AV.ptr 0 0,ny,ny,ny,ai i7,ai i8,ny,ny,ny,ny,ny,ny,ny,ny,ny,ny],heap:=[AO.box [ai ja0,AV.str ja1]] }
theorem zvG:zF (zbo).P 117 Tryz.f117 2:=by refine ⟨?_,?_,?_,?_⟩ <;> kernel_rfl
theorem zNQ (x0:Sem zt.sl) (x1:Sem zt):run (zbo) 0 zEM (Func.results Tryz.f117).toList 400 (zq Tryz.f117) (zp (Func.ntmps Tryz.f117) [zx zt.sl x0,zx zt x1] [])=Tr.ok (zD.head 2 (zA Tryz.f117 2) (zlW x0 (↑(List.length x0):Int) 0 x1.1 x1.2)):=by kernel_rfl
theorem zv6 (l0:LF) (i7:Int) (i8:Int) (ja0:Sem zg) (ja1:TS):run (zbo) 0 zEM (Func.results Tryz.f117).toList 400 (zA Tryz.f117 2) (zlW l0 i7 i8 ja0 ja1)=Tr.br (decide (i8 < i7)) (Tr.chk (inB i8 l0.length) (Tr.br (ja0==(l0.getD i8.toNat (zl zt)).1&&(ja1==(l0.getD i8.toNat (zl zt)).2&&true)) (Tr.ok (zD.ret (ai i8) [])) (Tr.ok (zD.head 2 (zA Tryz.f117 2) (zlW l0 i7 (IntKind.i64.wrap (i8+1)) ja0 ja1))))) (Tr.ok (zD.ret (ai (-1)) [])):=by kernel_rfl
def zgv (ja0:Sem zg) (ja1:TS):List (Sem zt)→Int→Sem zg
 | [],_=>(-1)
 | x::r,i8=>(if (ja0==x.1&&(ja1==x.2&&true))=true then i8 else zgv ja0 ja1 r (i8+1))
theorem zFk {C:Ctx} (hC:∀ id,C.ρ0 id=none) (ja0:Sem zg) (ja1:TS) (l0:LF) (hl:l0.length≤zI):∀ (m i:Nat),l0.length - i=m→i≤l0.length→
  Reach (zbo) C 117 (zA Tryz.f117 2) (zlW l0 (l0.length:Int) (i:Int) ja0 ja1) (fun r h=>zac h [zg] r=some (zgv ja0 ja1 (l0.drop i) i,())):=by
 intro m
 induction m with
 | zero=>
  intro i hm hi
  obtain rfl:i=l0.length:=by omega
  rw [List.drop_length]
  refine zr zb3 zb2 (zvG) (fun id _=>hC id) (zv6 _ _ _ _ _) ?_
  generalize hy:zgv ja0 ja1 [] _=y
  rw [zgv] at hy
  simp only [zP,Tr.val_brF]
  repeat' (first | with_reducible refine zay hy (fun _ hy=>?_) (fun _ hy=>?_) | with_reducible refine zy ?_)
  all_goals first | (cases hc; done) | (subst hy; first | rfl)
 | succ m IH=>
  intro i hm hi
  have hlt:i < l0.length:=by omega
  have IH:=IH (i+1)
  have hcast:((i:Int)+1)=((i+1:Nat):Int):=by omega
  have hwr:=zH i (by omega)
  rw [List.drop_eq_getElem_cons hlt]
  refine zr zb3 zb2 (zvG) (fun id _=>hC id) (zv6 _ _ _ _ _) ?_
  generalize hy:zgv ja0 ja1 (l0[i]::l0.drop (i+1)) (i:Int)=y
  rw [zgv] at hy
  simp only [zV hlt,zK hlt,zaD l0 _ hlt,hwr,Tr.val_brT,Tr.val_chkT]
  clear hwr
  try simp only [zK hlt] at hy
  simp only [hcast] at hy
  repeat' (first | with_reducible refine zay hy (fun _ hy=>?_) (fun _ hy=>?_) | with_reducible refine zy ?_)
  all_goals first | (cases hc; done) | (subst hy; first | (change Reach _ _ _ _ _ _; apply IH <;> first | omega | assumption) | rfl)
theorem zCZ {C:Ctx} (hC:∀ id,C.ρ0 id=none) (ja0:Sem zg) (ja1:TS) (l0:LF):
  Reach (zbo) C 117 (zA Tryz.f117 2) (zlW l0 (l0.length:Int) 0 ja0 ja1) (fun r h=>zac h [zg] r=some (zgv ja0 ja1 l0 0,())):=
 Reach.len 0 (zg.pr Sh.str) l0 rfl fun hl=>zFk hC ja0 ja1 l0 hl _ 0 rfl (Nat.zero_le _)
def zwZ (x0:Sem zt.sl) (x1:Sem zt):Sem zg:=(zgv x1.1 x1.2 x0 0)
def zLp:zJ:=zaf [zt.sl,zt] [zg] fun x=>(zwZ x.1 x.2.1,())
theorem zHH:FOk (zbo).P (zbo).gl 117 zLp:=by
 refine zN (zvG) fun x C hC=>?_
 refine zr zb3 zb2 (zvG) (fun id _=>hC id) (zNQ x.1 x.2.1) ?_
 generalize hy:zwZ x.1 x.2.1=y
 unfold zwZ at hy
 try simp only [ze.eta]
 repeat' (first | with_reducible refine zay hy (fun _ hy=>?_) (fun _ hy=>?_) | with_reducible refine zy ?_)
 all_goals first | (cases hc; done) | (subst hy; first | (change Reach _ _ _ _ _ _; apply zCZ hC <;> first | assumption | exact hc) | rfl)

abbrev zRH:Nat→zQ:=fun _=>{ }
theorem zLh:zF (zbo).P 16 Tryz.f16 1:=by refine ⟨?_,?_,?_,?_⟩ <;> kernel_rfl
theorem zUb (x0:Sem zas):run (zbo) 0 zRH (Func.results Tryz.f16).toList 400 (zq Tryz.f16) (zp (Func.ntmps Tryz.f16) [zx zas x0] [])=Tr.br (x0.2.2.1==[]) (Tr.ok (zD.ret (AV.sl Sh.str [x0.2.1]) [])) (Tr.ok (zD.ret (AV.sl Sh.str [x0.2.1,x0.2.2.1]) [])):=by kernel_rfl
def zhi (x0:Sem zas):Sem Sh.str.sl:=(if (x0.2.2.1==[])=true then [x0.2.1] else [x0.2.1,x0.2.2.1])
def zSW:zJ:=zaf [zas] [Sh.str.sl] fun x=>(zhi x.1,())
theorem zOx:FOk (zbo).P (zbo).gl 16 zSW:=by
 refine zN (zLh) fun x C hC=>?_
 refine zr zb3 zb2 (zLh) (fun id _=>hC id) (zUb x.1) ?_
 generalize hy:zhi x.1=y
 unfold zhi at hy
 try simp only [ze.eta]
 repeat' (first | with_reducible refine zay hy (fun _ hy=>?_) (fun _ hy=>?_) | with_reducible refine zy ?_)
 all_goals first | (cases hc; done) | (subst hy; first | rfl)

noncomputable def zKY:zJ:=zai (List.replicate 2 none) (zbx zbo Tryz.f115 (List.replicate 2 none))
theorem zJt:FOk zbo.P zbo.gl 115 zKY:=zav _ zb3 zb2 (by refine ⟨?_,?_,?_,?_⟩ <;> kernel_rfl)

noncomputable def zeA:Env:=(((((zbo.add 67 zRI).add 90 zV2).add 117 zLp).add 16 zSW).add 115 zKY)
theorem zjr:zi zeA:=(zi.addS (zi.addS (zi.addS (zi.addS (zi.addS zb3 (zB.refl zbo) zMO) ((zB.refl zbo).add _ _) zNd) (((zB.refl zbo).add _ _).add _ _) zHH) ((((zB.refl zbo).add _ _).add _ _).add _ _) zOx) (((((zB.refl zbo).add _ _).add _ _).add _ _).add _ _) zJt)
theorem zjF:zeA.P.follows .mixedOrders=true:=(zm (zm (zm (zm (zm zb2 _ _) _ _) _ _) _ _) _ _)
open Go Go.Proofs
set_option maxHeartbeats 4000000

abbrev zPD:Nat→zQ:=fun _=>{ }
theorem zDJ:zF (zeA).P 116 Tryz.f116 2:=by refine ⟨?_,?_,?_,?_⟩ <;> kernel_rfl
theorem zMU (x0:Sem zg.sl) (x1:Sem zg):run (zeA) 0 zPD (Func.results Tryz.f116).toList 400 (zq Tryz.f116) (zp (Func.ntmps Tryz.f116) [zx zg.sl x0,zx zg x1] [])=Tr.ok (zD.ret (AV.bool (decide (zix x0 x1 ≥ 0))) []):=by kernel_rfl
def zqY (x0:Sem zg.sl) (x1:Sem zg):Sem Sh.bool:=(decide (zix x0 x1 ≥ 0))
def zKy:zJ:=zaf [zg.sl,zg] [Sh.bool] fun x=>(zqY x.1 x.2.1,())
theorem zJe:FOk (zeA).P (zeA).gl 116 zKy:=by
 refine zN (zDJ) fun x C hC=>?_
 refine zr zjr zjF (zDJ) (fun id _=>hC id) (zMU x.1 x.2.1) ?_
 generalize hy:zqY x.1 x.2.1=y
 unfold zqY at hy
 try simp only [ze.eta]
 repeat' (first | with_reducible refine zay hy (fun _ hy=>?_) (fun _ hy=>?_) | with_reducible refine zy ?_)
 all_goals first | (cases hc; done) | (subst hy; first | rfl)

abbrev zP6:Nat→zQ:=fun _=>{ }
theorem zKj:zF (zeA).P 50 Tryz.f50 2:=by refine ⟨?_,?_,?_,?_⟩ <;> kernel_rfl
theorem zRN (x0:Sem Sh.str.sl) (x1:TS):run (zeA) 0 zP6 (Func.results Tryz.f50).toList 400 (zq Tryz.f50) (zp (Func.ntmps Tryz.f50) [zx Sh.str.sl x0,zx Sh.str x1] [])=Tr.ok (zD.ret (AV.bool (decide (zwa x0 x1 ≥ 0))) []):=by kernel_rfl
def zhF (x0:Sem Sh.str.sl) (x1:TS):Sem Sh.bool:=(decide (zwa x0 x1 ≥ 0))
def zVm:zJ:=zaf [Sh.str.sl,Sh.str] [Sh.bool] fun x=>(zhF x.1 x.2.1,())
theorem zOf:FOk (zeA).P (zeA).gl 50 zVm:=by
 refine zN (zKj) fun x C hC=>?_
 refine zr zjr zjF (zKj) (fun id _=>hC id) (zRN x.1 x.2.1) ?_
 generalize hy:zhF x.1 x.2.1=y
 unfold zhF at hy
 try simp only [ze.eta]
 repeat' (first | with_reducible refine zay hy (fun _ hy=>?_) (fun _ hy=>?_) | with_reducible refine zy ?_)
 all_goals first | (cases hc; done) | (subst hy; first | rfl)

abbrev zSI:Nat→zQ:=fun _=>{ }
theorem zKn:zF (zeA).P 68 Tryz.f68 2:=by refine ⟨?_,?_,?_,?_⟩ <;> kernel_rfl
theorem zSw (x0:Sem zt.sl) (x1:Sem zt):run (zeA) 0 zSI (Func.results Tryz.f68).toList 400 (zq Tryz.f68) (zp (Func.ntmps Tryz.f68) [zx zt.sl x0,zx zt x1] [])=Tr.ok (zD.ret (AV.bool (decide (zwZ x0 x1 ≥ 0))) []):=by kernel_rfl
def zvz (x0:Sem zt.sl) (x1:Sem zt):Sem Sh.bool:=(decide (zwZ x0 x1 ≥ 0))
def zRD:zJ:=zaf [zt.sl,zt] [Sh.bool] fun x=>(zvz x.1 x.2.1,())
theorem zLY:FOk (zeA).P (zeA).gl 68 zRD:=by
 refine zN (zKn) fun x C hC=>?_
 refine zr zjr zjF (zKn) (fun id _=>hC id) (zSw x.1 x.2.1) ?_
 generalize hy:zvz x.1 x.2.1=y
 unfold zvz at hy
 try simp only [ze.eta]
 repeat' (first | with_reducible refine zay hy (fun _ hy=>?_) (fun _ hy=>?_) | with_reducible refine zy ?_)
 all_goals first | (cases hc; done) | (subst hy; first | rfl)

noncomputable def zk5:Env:=(((zeA.add 116 zKy).add 50 zVm).add 68 zRD)
theorem ztx:zi zk5:=(zi.addS (zi.addS (zi.addS zjr (zB.refl zeA) zJe) ((zB.refl zeA).add _ _) zOf) (((zB.refl zeA).add _ _).add _ _) zLY)
theorem zsS:zk5.P.follows .mixedOrders=true:=(zm (zm (zm zjF _ _) _ _) _ _)
end Cad
