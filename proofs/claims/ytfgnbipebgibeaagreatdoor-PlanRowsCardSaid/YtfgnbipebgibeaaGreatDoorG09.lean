/- The library's functions. Values: what may be. Values: what they say. Loops; values in order. Values: order, equal, sums. Values: less; bounded ones. Bounded rows, bounded columns. What is total; lists of types. Names, places. Names, types. Expressions: their types. Expressions: bounded ones; the same ones. -/
import Derived.Test.YtfgnbipebgibeaaGreatDoorG07
import Derived.Test.YtfgnbipebgibeaaGreatDoorG08
import Derived.Test.YtfgnbipebgibeaaGreatDoorG06
namespace Cad
open Go Go.Proofs Go.RowKit Go.Lib

theorem Ext.below {w w':World} (h:Below w.heap.size w w'):Ext w w':=
 ⟨h.size,h.os,h.output,h.tape,fun a ha=>World.frozen?_of_block (h.block a.block ha)⟩

theorem zdQ {E:Env} {C:Ctx} {w w':World} {U:Nat→Prop} {r:AV} {v:Value} {h0:List AO} {ρ:Nat→Option Value} (hH:zfm C w U ρ (fun j=>h0.getD j .dead)) (hnew:∀ id,h0.length≤id→ρ id=none)
  (hr0:∀ id v,C.ρ0 id=some v→ρ id=some v) (hW:Wd E.gl C w U) (hb:Below w.heap.size w w') (hr:Rv w' U ρ r v):zGZ E C (fun r' h=>(r',h)=(r,h0)) (.returned v) w':=by
 have hk:∀ b,b < w.heap.size→w'.heap[b]?=w.heap[b]?:=hb.block
 refine ⟨v,r,h0,U,ρ,rfl,rfl,hr,⟨fun id=>?_,hH.inj,hH.blk⟩,hnew,hr0,⟨hW.ext.trans (Ext.below hb),fun b hb' hn=>?_,fun b hu=>Nat.lt_of_lt_of_le (hW.ub b hu) hb.size,hW.u1,hW.u2,fun g=>?_⟩⟩
 ·exact (hH.ob id).mono hb.size (fun b hb' _=>hk b hb') (fun _ _ h=>h) (fun _ _ h=>h) (fun b ho=>⟨hk b ((hH.ob id).inU ho).2,((hH.ob id).inU ho).1⟩)
 ·rw [hk b (Nat.lt_of_lt_of_le hb' hW.ext.sz)]; exact hW.same b hb' hn
 ·exact (hW.gl g).mono hb.size (fun b hb' _=>hk b hb') (fun _ _ h=>h) (fun _ _ h=>h)

noncomputable def zIW:Env:=zwU.aut 197 Tryz.f197 1
theorem zUI:zF zwU.P 197 Tryz.f197 1:=by refine ⟨?_,?_,?_,?_⟩ <;> kernel_rfl
theorem zDZ:zi zIW:=zfF zwz zbS zUI

def zyA (c:Int):Bool:=bif decide (c < 32) then true else decide (c > 126)

theorem zWW (c:Int):((zai (List.replicate 1 none) (zbx zwU Tryz.f197 (List.replicate 1 none))) [.int .i32 c] (fun _=>.dead) 0).val=some { val:=.bool (zyA c) }:=by kernel_rfl

theorem zMN (w:World) (U:Nat→Prop) (hgl:zr0 zwU.gl w U) (hub:∀ b,U b→b < w.heap.size):PredGrows Tryz.prog 197 #[] (fun r=>zyA r) w:=by
 intro W x hx hB
 have hF:FOk zwU.P zwU.gl 197 (zai (List.replicate 1 none) (zbx zwU Tryz.f197 (List.replicate 1 none))):=zav _ zwz zbS zUI
 have hr:RvL W U (fun _=>none) [.int .i32 (x:Int)] [.int .i32 (x:Int)]:=by
  refine ⟨rfl,fun j c v hc hv=>?_⟩
  cases j with
  | zero=>
   simp at hc hv; subst hc; subst hv
   refine .int _ _ ⟨?_,?_⟩
   ·show (-2147483648:Int)≤x; omega
   ·show (x:Int)≤2147483647; omega
  | succ j=>simp at hc
 have:=(hF.calls W U (fun _=>none) (fun _=>.dead) 0 [.int .i32 (x:Int)] [.int .i32 (x:Int)] _ [] (zWW x) hr (fun b hb=>Nat.lt_of_lt_of_le (hub b hb) hB.size) (fun g=>(hgl g).mono hB.size (fun b hb _=>hB.block b hb) (fun _ _ h=>h) (fun _ _ h=>h)) ⟨by simp,by simp⟩ (by simp [AV.idsL,AV.ids]) (by simp) (by simp)).1
 refine this.mono ?_
 rintro e w' ⟨v,U',ρ',rfl,hef⟩
 have hv:=hef.val
 cases hv
 exact ⟨rfl,⟨hef.ext.os,hef.ext.tape,hef.ext.out,hef.ext.sz,fun b hb=>hef.same b hb (by simp)⟩⟩

def zlf (s:Str):Int:=Lib.idxFunc (fun r=>zyA r) true ⟨s.toArray⟩

def G36:zdS [some .str,none]:=fun x h=>match x,h with
 | (s,.clo (.func 197) [] [],_),[]=>.ok (.int .i64 (zlf s),[])
 | _,_=>.err

theorem zWD:Go.Proofs.Enters Tryz.prog 197:=by
  cases hb:Tryz.f197.body with
  | none => have:Tryz.f197.body.isNone=false:=by kernel_rfl
            rw [hb] at this; cases this
  | some c=>exact Go.Proofs.enters_of (fn:=Tryz.f197) (by kernel_rfl) (by kernel_rfl) hb

theorem zRl:FOk zIW.P zIW.gl 198 (zai [some .str,none] G36):=by
 refine zeP ⟨Tryz.f198,by kernel_rfl,by kernel_rfl,by kernel_rfl⟩ fun x h0 res hx=>?_
 unfold G36 at hx
 split at hx
 ·rename_i s u
  simp only [Tr.val_ok,Option.some.injEq] at hx
  subst hx
  intro C w U ρ vals _ hr hH hnew hr0 hW
  have hl:=hr.len
  match vals,hl,hr with
  | [v1,v2],_,hr=>
   have h1:=hr.rv 0 (.str s) v1 rfl rfl
   have h2:=hr.rv 1 (.clo (.func 197) [] []) v2 rfl rfl
   cases h1 with
   | str _ hs=>
   cases h2 with
   | clo _ _ _ vf vc hf hc _ _=>
   have hf':vf=[]:=List.eq_nil_of_length_eq_zero hf.symm
   have hc':vc=[]:=List.eq_nil_of_length_eq_zero hc.symm
   subst hf'; subst hc'
   have:=Tryz.strings_IndexFunc_grows 197 #[] zWD (fun r=>zyA r) ⟨s.toArray⟩ w (zMN w U hW.gl hW.ub)
   refine this.mono ?_
   rintro e w' ⟨rfl,hb⟩
   refine zdQ hH hnew hr0 hW hb (.int _ _ ?_)
   have hrg:=Lib.idxFunc_range (fun r=>zyA r) true ⟨s.toArray⟩
   have hsz:(⟨s.toArray⟩:ByteArray).size=s.length:=by simp [ByteArray.size]
   have hm:zI=9223372036854775807:=rfl
   rw [hsz] at hrg
   change zlf s=-1∨(0≤zlf s∧zlf s < s.length) at hrg
   refine ⟨?_,?_⟩
   ·show (-9223372036854775808:Int)≤_; omega
   ·show _≤(9223372036854775807:Int); omega
 ·simp at hx

noncomputable def zcK:Env:=zIW.add 198 (zai [some .str,none] G36)
theorem zfO:zi zcK:=zDZ.add zRl
theorem zfY:zcK.P.follows .mixedOrders=true:=zbS
open Go Go.Proofs
abbrev TS:=Sem Sh.str
abbrev LX:=List (Sem Sh.expr)
abbrev LC:=List (Sem zh)
abbrev LS:=List (Sem Sh.str)
abbrev LV:=List (Sem zf)
abbrev LI:=List (Sem zg)
abbrev LF:=List (Sem zt)

abbrev V:=Sem zf

def zbj (x0:Sem zf):Sem Sh.bool:=if (x0.1==0)=true then if (x0.2.1 != 0)=true then false else x0.2.2==[] else if (x0.1==1)=true then x0.2.2==[] else if (x0.1==2)=true then bif x0.2.1==0 then bif decide ((↑(List.length x0.2.2):Int)≤40) then decide (zlf x0.2.2 < 0) else false else false else if (x0.1==3)=true then bif x0.2.1==0 then x0.2.2==[] else bif x0.2.1==1 then x0.2.2==[] else false else false
theorem zS9:zF zcK.P 154 Tryz.f154 1:=by refine ⟨?_,?_,?_,?_⟩ <;> kernel_rfl
theorem zWz (x0:Sem zf):run zcK 0 (fun _=>{ }) (Func.results Tryz.f154).toList 400 (zq Tryz.f154) (zp (Func.ntmps Tryz.f154) [zx zf x0] [])=Tr.br (x0.1==0) (Tr.br (x0.2.1 != 0) (Tr.ok (zD.ret (AV.kb false) [])) (Tr.ok (zD.ret (AV.bool (x0.2.2==[])) []))) (Tr.br (x0.1==1) (Tr.ok (zD.ret (AV.bool (x0.2.2==[])) [])) (Tr.br (x0.1==2) (Tr.ok (zD.ret (AV.bool (bif x0.2.1==0 then bif decide ((↑(List.length x0.2.2):Int)≤40) then decide (zlf x0.2.2 < 0) else false else false)) [])) (Tr.br (x0.1==3) (Tr.ok (zD.ret (AV.bool (bif x0.2.1==0 then x0.2.2==[] else bif x0.2.1==1 then x0.2.2==[] else false)) [])) (Tr.ok (zD.ret (AV.kb false) []))))):=by kernel_rfl
def F21:zJ:=zaf [zf] [Sh.bool] fun x=>(zbj x.1,())
theorem zUa:FOk zcK.P zcK.gl 154 F21:=by
 refine zN zS9 fun x C hC=>?_
 refine zar zfO zfY zS9 (fun id _=>hC id) (zWz x.1) ?_
 simp only [Tr.val,zbj]
 repeat' split
 all_goals rfl

def zao (x0:Sem zg):Sem zf:=if (x0==0)=true then (0,0,[]) else (3,IntKind.i64.wrap (x0 - 1),[])
theorem zQN:zF zcK.P 277 Tryz.f277 1:=by refine ⟨?_,?_,?_,?_⟩ <;> kernel_rfl
theorem zXN (x0:Sem zg):run zcK 0 (fun _=>{ }) (Func.results Tryz.f277).toList 400 (zq Tryz.f277) (zp (Func.ntmps Tryz.f277) [zx zg x0] [])=Tr.br (x0==0) (Tr.ok (zD.ret (AV.agg [ai 0,ai 0,AV.str []]) [])) (Tr.ok (zD.ret (AV.agg [ai 3,ai (IntKind.i64.wrap (x0 - 1)),AV.str []]) [])):=by kernel_rfl
def F57:zJ:=zaf [zg] [zf] fun x=>(zao x.1,())
theorem zSB:FOk zcK.P zcK.gl 277 F57:=by
 refine zN zQN fun x C hC=>?_
 refine zar zfO zfY zQN (fun id _=>hC id) (zXN x.1) ?_
 simp only [Tr.val,zao]
 repeat' split
 all_goals rfl

noncomputable def zUf:zJ:=zai (List.replicate 1 none) (zbx zcK Tryz.f220 (List.replicate 1 none))
theorem zPh:FOk zcK.P zcK.gl 220 zUf:=zav _ zfO zfY (by refine ⟨?_,?_,?_,?_⟩ <;> kernel_rfl)

noncomputable def zU4:zJ:=zai (List.replicate 1 none) (zbx zcK Tryz.f221 (List.replicate 1 none))
theorem zMi:FOk zcK.P zcK.gl 221 zU4:=zav _ zfO zfY (by refine ⟨?_,?_,?_,?_⟩ <;> kernel_rfl)

noncomputable def zQG:zJ:=zai (List.replicate 1 none) (zbx zcK Tryz.f222 (List.replicate 1 none))
theorem zOA:FOk zcK.P zcK.gl 222 zQG:=zav _ zfO zfY (by refine ⟨?_,?_,?_,?_⟩ <;> kernel_rfl)

noncomputable def zbH:Env:=(((((zcK.add 154 F21).add 277 F57).add 220 zUf).add 221 zU4).add 222 zQG)
theorem zeH:zi zbH:=(zi.addS (zi.addS (zi.addS (zi.addS (zi.addS zfO (zB.refl zcK) zUa) ((zB.refl zcK).add _ _) zSB) (((zB.refl zcK).add _ _).add _ _) zPh) ((((zB.refl zcK).add _ _).add _ _).add _ _) zMi) (((((zB.refl zcK).add _ _).add _ _).add _ _).add _ _) zOA)
theorem zeI:zbH.P.follows .mixedOrders=true:=(zm (zm (zm (zm (zm zfY _ _) _ _) _ _) _ _) _ _)
open Go Go.Proofs

def zam (x0:Sem zf):Sem zf:=if (!zbj x0)=true then (0,0,[]) else x0
theorem zT3:zF zbH.P 173 Tryz.f173 1:=by refine ⟨?_,?_,?_,?_⟩ <;> kernel_rfl
theorem zX4 (x0:Sem zf):run zbH 0 (fun _=>{ }) (Func.results Tryz.f173).toList 400 (zq Tryz.f173) (zp (Func.ntmps Tryz.f173) [zx zf x0] [])=Tr.br (!zbj x0) (Tr.ok (zD.ret (AV.agg [ai 0,ai 0,AV.str []]) [])) (Tr.ok (zD.ret (AV.agg [ai x0.1,ai x0.2.1,AV.str x0.2.2]) [])):=by kernel_rfl
def F61:zJ:=zaf [zf] [zf] fun x=>(zam x.1,())
theorem zTW:FOk zbH.P zbH.gl 173 F61:=by
 refine zN zT3 fun x C hC=>?_
 refine zar zeH zeI zT3 (fun id _=>hC id) (zX4 x.1) ?_
 simp only [Tr.val,zam]
 repeat' split
 all_goals rfl

def zcp (x0:Sem zf):Sem zg:=if (bif x0.1 != 3 then true else !zbj x0)=true then 0 else IntKind.i64.wrap (1+x0.2.1)
theorem zQk:zF zbH.P 215 Tryz.f215 1:=by refine ⟨?_,?_,?_,?_⟩ <;> kernel_rfl
theorem zXu (x0:Sem zf):run zbH 0 (fun _=>{ }) (Func.results Tryz.f215).toList 400 (zq Tryz.f215) (zp (Func.ntmps Tryz.f215) [zx zf x0] [])=Tr.br (bif x0.1 != 3 then true else !zbj x0) (Tr.ok (zD.ret (ai 0) [])) (Tr.ok (zD.ret (ai (IntKind.i64.wrap (1+x0.2.1))) [])):=by kernel_rfl
def F56:zJ:=zaf [zf] [zg] fun x=>(zcp x.1,())
theorem zPU:FOk zbH.P zbH.gl 215 F56:=by
 refine zN zQk fun x C hC=>?_
 refine zar zeH zeI zQk (fun id _=>hC id) (zXu x.1) ?_
 simp only [Tr.val,zcp]
 repeat' split
 all_goals rfl

def zbJ (x0:Sem Sh.bool):Sem zf:=if x0=true then zao 2 else zao 1
theorem zUw:zF zbH.P 279 Tryz.f279 1:=by refine ⟨?_,?_,?_,?_⟩ <;> kernel_rfl
theorem zXz (x0:Sem Sh.bool):run zbH 0 (fun _=>{ }) (Func.results Tryz.f279).toList 400 (zq Tryz.f279) (zp (Func.ntmps Tryz.f279) [zx Sh.bool x0] [])=Tr.br x0 (Tr.ok (zD.ret (AV.agg [ai (zao 2).1,ai (zao 2).2.1,AV.str (zao 2).2.2]) [])) (Tr.ok (zD.ret (AV.agg [ai (zao 1).1,ai (zao 1).2.1,AV.str (zao 1).2.2]) [])):=by kernel_rfl
def F59:zJ:=zaf [Sh.bool] [zf] fun x=>(zbJ x.1,())
theorem zVx:FOk zbH.P zbH.gl 279 F59:=by
 refine zN zUw fun x C hC=>?_
 refine zar zeH zeI zUw (fun id _=>hC id) (zXz x.1) ?_
 simp only [Tr.val,zbJ]
 repeat' split
 all_goals rfl

def zu0 (x0:Sem zg) (x1:Sem zg):Sem zg:=if (x0 != x0)=true then if (x1 != x1)=true then 0 else -1 else if (x1 != x1)=true then 1 else if decide (x0 < x1)=true then -1 else if decide (x0 > x1)=true then 1 else 0
theorem zTK:zF zbH.P 175 Tryz.f175 2:=by refine ⟨?_,?_,?_,?_⟩ <;> kernel_rfl
theorem zWM (x0:Sem zg) (x1:Sem zg):run zbH 0 (fun _=>{ }) (Func.results Tryz.f175).toList 400 (zq Tryz.f175) (zp (Func.ntmps Tryz.f175) [zx zg x0,zx zg x1] [])=Tr.br (x0 != x0) (Tr.br (x1 != x1) (Tr.ok (zD.ret (ai 0) [])) (Tr.ok (zD.ret (ai (-1)) []))) (Tr.br (x1 != x1) (Tr.ok (zD.ret (ai 1) [])) (Tr.br (decide (x0 < x1)) (Tr.ok (zD.ret (ai (-1)) [])) (Tr.br (decide (x0 > x1)) (Tr.ok (zD.ret (ai 1) [])) (Tr.ok (zD.ret (ai 0) []))))):=by kernel_rfl
def F71:zJ:=zaf [zg,zg] [zg] fun x=>(zu0 x.1 x.2.1,())
theorem zVM:FOk zbH.P zbH.gl 175 F71:=by
 refine zN zTK fun x C hC=>?_
 refine zar zeH zeI zTK (fun id _=>hC id) (zWM x.1 x.2.1) ?_
 simp only [Tr.val,zu0]
 repeat' split
 all_goals rfl

def zlH (x0:Sem zg) (x1:Sem zg):Sem zg:=if (x0 != x0)=true then if (x1 != x1)=true then 0 else -1 else if (x1 != x1)=true then 1 else if decide (x0 < x1)=true then -1 else if decide (x0 > x1)=true then 1 else 0
theorem zRr:zF zbH.P 176 Tryz.f176 2:=by refine ⟨?_,?_,?_,?_⟩ <;> kernel_rfl
theorem zWn (x0:Sem zg) (x1:Sem zg):run zbH 0 (fun _=>{ }) (Func.results Tryz.f176).toList 400 (zq Tryz.f176) (zp (Func.ntmps Tryz.f176) [zx zg x0,zx zg x1] [])=Tr.br (x0 != x0) (Tr.br (x1 != x1) (Tr.ok (zD.ret (ai 0) [])) (Tr.ok (zD.ret (ai (-1)) []))) (Tr.br (x1 != x1) (Tr.ok (zD.ret (ai 1) [])) (Tr.br (decide (x0 < x1)) (Tr.ok (zD.ret (ai (-1)) [])) (Tr.br (decide (x0 > x1)) (Tr.ok (zD.ret (ai 1) [])) (Tr.ok (zD.ret (ai 0) []))))):=by kernel_rfl
def F72:zJ:=zaf [zg,zg] [zg] fun x=>(zlH x.1 x.2.1,())
theorem zQ4:FOk zbH.P zbH.gl 176 F72:=by
 refine zN zRr fun x C hC=>?_
 refine zar zeH zeI zRr (fun id _=>hC id) (zWn x.1 x.2.1) ?_
 simp only [Tr.val,zlH]
 repeat' split
 all_goals rfl

def zt1 (x0:Sem Sh.str) (x1:Sem Sh.str):Sem zg:=if (!x0==x0)=true then if (!x1==x1)=true then 0 else -1 else if (!x1==x1)=true then 1 else if Op.bytesLess x0 x1=true then -1 else if (!(Op.bytesLess x0 x1||x0==x1))=true then 1 else 0
theorem zQb:zF zbH.P 177 Tryz.f177 2:=by refine ⟨?_,?_,?_,?_⟩ <;> kernel_rfl
theorem zWP (x0:Sem Sh.str) (x1:Sem Sh.str):run zbH 0 (fun _=>{ }) (Func.results Tryz.f177).toList 400 (zq Tryz.f177) (zp (Func.ntmps Tryz.f177) [zx Sh.str x0,zx Sh.str x1] [])=Tr.br (!x0==x0) (Tr.br (!x1==x1) (Tr.ok (zD.ret (ai 0) [])) (Tr.ok (zD.ret (ai (-1)) []))) (Tr.br (!x1==x1) (Tr.ok (zD.ret (ai 1) [])) (Tr.br (Op.bytesLess x0 x1) (Tr.ok (zD.ret (ai (-1)) [])) (Tr.br (!(Op.bytesLess x0 x1||x0==x1)) (Tr.ok (zD.ret (ai 1) [])) (Tr.ok (zD.ret (ai 0) []))))):=by kernel_rfl
def F73:zJ:=zaf [Sh.str,Sh.str] [zg] fun x=>(zt1 x.1 x.2.1,())
theorem zRU:FOk zbH.P zbH.gl 177 F73:=by
 refine zN zQb fun x C hC=>?_
 refine zar zeH zeI zQb (fun id _=>hC id) (zWP x.1 x.2.1) ?_
 simp only [Tr.val,zt1]
 repeat' split
 all_goals rfl

noncomputable def zbv:Env:=((((((zbH.add 173 F61).add 215 F56).add 279 F59).add 175 F71).add 176 F72).add 177 F73)
theorem zcR:zi zbv:=(zi.addS (zi.addS (zi.addS (zi.addS (zi.addS (zi.addS zeH (zB.refl zbH) zTW) ((zB.refl zbH).add _ _) zPU) (((zB.refl zbH).add _ _).add _ _) zVx) ((((zB.refl zbH).add _ _).add _ _).add _ _) zVM) (((((zB.refl zbH).add _ _).add _ _).add _ _).add _ _) zQ4) ((((((zB.refl zbH).add _ _).add _ _).add _ _).add _ _).add _ _) zRU)
theorem zcN:zbv.P.follows .mixedOrders=true:=(zm (zm (zm (zm (zm (zm zeI _ _) _ _) _ _) _ _) _ _) _ _)
open Go Go.Proofs

theorem zqo {E:Env} {C:Ctx} {k:FuncId} {f:Func} {Q:AV→List AO→Prop} {n n0:Nat} (hE:zi E) (hm:E.P.follows .mixedOrders=true) (hf:zF E.P k f n) (hC:∀ id,n0≤id→C.ρ0 id=none) {keep:Nat→zQ} {fuel:Nat}
  {todo:List Item} {st:St} {t:Tr zD} {l:zD} (ht:run E n0 keep f.results.toList fuel todo st=t) (h:t.val=some l) (hl:zfq E C k Q l):Reach E C k todo st Q:=
 zbL hE hm hf hC keep fuel (by rw [ht]; exact Tr.sat_of_val h hl)

def zdH {α:Type} (Φ:α→Prop):Option α→Prop
 | some a=>Φ a
 | none=>False

theorem zr {E:Env} {C:Ctx} {k:FuncId} {f:Func} {Q:AV→List AO→Prop} {n n0:Nat} (hE:zi E) (hm:E.P.follows .mixedOrders=true) (hf:zF E.P k f n) (hC:∀ id,n0≤id→C.ρ0 id=none) {keep:Nat→zQ} {fuel:Nat}
  {todo:List Item} {st:St} {t:Tr zD} (ht:run E n0 keep f.results.toList fuel todo st=t) (h:zdH (zfq E C k Q) t.val):Reach E C k todo st Q:=by
 cases hv:t.val with
 | none=>rw [hv] at h; exact h.elim
 | some l=>rw [hv] at h; exact zqo hE hm hf hC ht hv h

def zxp {α β R:Type} (f:β→Nat→α→β ⊕ R) (fin:β→R):List α→Nat→β→R
 | [],_,b=>fin b
 | x::r,i,b=>match f b i x with
  | .inl b'=>zxp f fin r (i+1) b'
  | .inr y=>y

def zII {E:Env} {C:Ctx} {k:FuncId} {K:List Item} {β R:Type} (st:β→Nat→St) (Q:R→AV→List AO→Prop) (b:β) (i:Nat):β ⊕ R→Prop
 | .inl b'=>∀ q,Reach E C k K (st b' (i+1)) q→Reach E C k K (st b i) q
 | .inr y=>Reach E C k K (st b i) (Q y)

theorem zp9 {E:Env} {C:Ctx} {k:FuncId} {K:List Item} {α β R:Type} (l:List α) (st:β→Nat→St) (f:β→Nat→α→β ⊕ R) (fin:β→R) (Q:R→AV→List AO→Prop) (I:β→Nat→Prop)
  (hstep:∀ b i (hi:i < l.length),I b i→zII (E:=E) (C:=C) (k:=k) (K:=K) st Q b i (f b i l[i])∧∀ b',f b i l[i]=.inl b'→I b' (i+1))
  (hend:∀ b,I b l.length→Reach E C k K (st b l.length) (Q (fin b))):∀ (m i:Nat) (b:β),l.length - i=m→i≤l.length→I b i→Reach E C k K (st b i) (Q (zxp f fin (l.drop i) i b))
 | 0,i,b,hm,hi,hI=>by
  have:i=l.length:=by omega
  subst this
  rw [List.drop_length]
  exact hend b hI
 | m+1,i,b,hm,hi,hI=>by
  have hlt:i < l.length:=by omega
  rw [List.drop_eq_getElem_cons hlt]
  obtain ⟨h1,h2⟩:=hstep b i hlt hI
  simp only [zxp]
  cases hf:f b i l[i] with
  | inl b'=>
   rw [hf] at h1
   exact h1 _ (zp9 l st f fin Q I hstep hend m (i+1) b' (by omega) (by omega) (h2 b' hf))
  | inr y=>
   rw [hf] at h1
   exact h1

theorem zV {i n:Nat} (h:i < n):decide ((i:Int) < (n:Int))=true:=by simpa using h
theorem zP (n:Nat):decide ((n:Int) < (n:Int))=false:=by simp
theorem zK {i n:Nat} (h:i < n):inB (i:Int) n=true:=by simp [inB,h]

def orI:List Int→Int
 | []=>0
 | x::r=>if x != 0 then x else orI r

abbrev zR0:Nat→zQ:=fun j=>if j=3 then { slots:=[3,6,7,8] } else { }
abbrev zBD (i3:Int) (l6:List (Sem zg)) (i7:Int) (i8:Int):St:={ tmps:=[ny,ny,ny,ai i3,ny,ny,AV.sl (Sh.int IntKind.i64) l6,ai i7,ai i8,ny,ny,ny,ny,ny,ny,ny,ny,ny],heap:=[] }
theorem zG3:zF zbv.P 174 Tryz.f174 1:=by refine ⟨?_,?_,?_,?_⟩ <;> kernel_rfl
theorem zXo (k:List (Sem zg)):run zbv 0 zR0 (Func.results Tryz.f174).toList 400 (zq Tryz.f174) (zp (Func.ntmps Tryz.f174) [AV.sl zg k] [])=Tr.ok (zD.head 3 (zA Tryz.f174 3) (zBD 0 k (↑k.length) 0)):=by kernel_rfl
theorem zya (i3:Int) (l6:List (Sem zg)) (i7:Int) (i8:Int):run zbv 0 zR0 (Func.results Tryz.f174).toList 400 (zA Tryz.f174 3) (zBD i3 l6 i7 i8)=Tr.br (decide (i8 < i7)) (Tr.chk (inB i8 l6.length) (Tr.br (l6.getD i8.toNat (zl (Sh.int IntKind.i64)) != i3) (Tr.ok (zD.ret (ai (l6.getD i8.toNat (zl (Sh.int IntKind.i64)))) [])) (Tr.ok (zD.head 3 (zA Tryz.f174 3) (zBD i3 l6 i7 (IntKind.i64.wrap (i8+1))))))) (Tr.ok (zD.ret (ai i3) [])):=by kernel_rfl

def f70:Unit→Nat→Int→Unit ⊕ Int:=fun _ _ x=>if x != 0 then .inr x else .inl ()
theorem zGU:∀ (l:List Int) (i:Nat),zxp f70 (fun _=>0) l i ()=orI l
 | [],_=>rfl
 | x::r,i=>by
  simp only [zxp,f70,orI]
  split
  ·rename_i h; split at h <;> simp_all [zGU r (i+1)]
  ·rename_i h; split at h <;> simp_all

def F70:zJ:=zaf [.sl zg] [zg] fun x=>(orI x.1,())
theorem zVb:FOk zbv.P zbv.gl 174 F70:=by
 refine zN zG3 fun x C hC=>?_
 obtain ⟨l,u⟩:=x
 refine Reach.len 0 zg l rfl fun hl=>?_
 refine zqo zcR zcN zG3 (fun id _=>hC id) (zXo l) rfl ?_
 have:=zp9 (E:=zbv) (C:=C) (k:=174) (K:=zA Tryz.f174 3) l (fun (_:Unit) i=>zBD 0 l l.length i) f70 (fun _=>(0:Int)) (fun y r h=>zac h [zg] r=some (y,())) (fun _ _=>True)
  (fun b i hi _=>⟨by
   unfold f70
   split
   ·rename_i h
    refine zr zcR zcN zG3 (fun id _=>hC id) (zya _ _ _ _) ?_
    simp only [Tr.val,zV hi,zK hi,zaD l _ hi,h,if_true]
    rfl
   ·rename_i h
    intro q hq
    refine zr zcR zcN zG3 (fun id _=>hC id) (zya _ _ _ _) ?_
    simp only [Tr.val,zV hi,zK hi,zaD l _ hi,h,if_true,zH i (by omega)]
    exact hq,fun _ _=>trivial⟩)
  (fun b _=>by
   refine zr zcR zcN zG3 (fun id _=>hC id) (zya _ _ _ _) ?_
   simp only [Tr.val,zP]
   rfl) _ 0 () rfl (by omega) trivial
 rw [zGU] at this
 exact this

def zcA (x0:Sem zf) (x1:Sem zf):Sem Sh.bool:=bif (zam x0).1 != 0 then (zam x0).1==(zam x1).1 else false
theorem zTp:zF zbv.P 278 Tryz.f278 2:=by refine ⟨?_,?_,?_,?_⟩ <;> kernel_rfl
theorem zX8 (x0:Sem zf) (x1:Sem zf):run zbv 0 (fun _=>{ }) (Func.results Tryz.f278).toList 400 (zq Tryz.f278) (zp (Func.ntmps Tryz.f278) [zx zf x0,zx zf x1] [])=Tr.ok (zD.ret (AV.bool (bif (zam x0).1 != 0 then (zam x0).1==(zam x1).1 else false)) []):=by kernel_rfl
def F58:zJ:=zaf [zf,zf] [Sh.bool] fun x=>(zcA x.1 x.2.1,())
theorem zVY:FOk zbv.P zbv.gl 278 F58:=by
 refine zN zTp fun x C hC=>?_
 refine zar zcR zcN zTp (fun id _=>hC id) (zX8 x.1 x.2.1) ?_
 simp only [Tr.val,zcA]
 repeat' split
 all_goals rfl

def zsa (x0:Sem zf) (x1:Sem zf):Sem zf:=if (bif zcp x0==1 then true else zcp x1==1)=true then zao 1 else if (bif zcp x0==2 then zcp x1==2 else false)=true then zao 2 else zao 0
theorem zQR:zF zbv.P 252 Tryz.f252 2:=by refine ⟨?_,?_,?_,?_⟩ <;> kernel_rfl
theorem zWv (x0:Sem zf) (x1:Sem zf):run zbv 0 (fun _=>{ }) (Func.results Tryz.f252).toList 400 (zq Tryz.f252) (zp (Func.ntmps Tryz.f252) [zx zf x0,zx zf x1] [])=Tr.br (bif zcp x0==1 then true else zcp x1==1) (Tr.ok (zD.ret (AV.agg [ai (zao 1).1,ai (zao 1).2.1,AV.str (zao 1).2.2]) [])) (Tr.br (bif zcp x0==2 then zcp x1==2 else false) (Tr.ok (zD.ret (AV.agg [ai (zao 2).1,ai (zao 2).2.1,AV.str (zao 2).2.2]) [])) (Tr.ok (zD.ret (AV.agg [ai (zao 0).1,ai (zao 0).2.1,AV.str (zao 0).2.2]) []))):=by kernel_rfl
def F38:zJ:=zaf [zf,zf] [zf] fun x=>(zsa x.1 x.2.1,())
theorem zUl:FOk zbv.P zbv.gl 252 F38:=by
 refine zN zQR fun x C hC=>?_
 refine zar zcR zcN zQR (fun id _=>hC id) (zWv x.1 x.2.1) ?_
 simp only [Tr.val,zsa]
 repeat' split
 all_goals rfl

def vOr (x0:Sem zf) (x1:Sem zf):Sem zf:=if (bif zcp x0==2 then true else zcp x1==2)=true then zao 2 else if (bif zcp x0==1 then zcp x1==1 else false)=true then zao 1 else zao 0
theorem zUX:zF zbv.P 253 Tryz.f253 2:=by refine ⟨?_,?_,?_,?_⟩ <;> kernel_rfl
theorem zXi (x0:Sem zf) (x1:Sem zf):run zbv 0 (fun _=>{ }) (Func.results Tryz.f253).toList 400 (zq Tryz.f253) (zp (Func.ntmps Tryz.f253) [zx zf x0,zx zf x1] [])=Tr.br (bif zcp x0==2 then true else zcp x1==2) (Tr.ok (zD.ret (AV.agg [ai (zao 2).1,ai (zao 2).2.1,AV.str (zao 2).2.2]) [])) (Tr.br (bif zcp x0==1 then zcp x1==1 else false) (Tr.ok (zD.ret (AV.agg [ai (zao 1).1,ai (zao 1).2.1,AV.str (zao 1).2.2]) [])) (Tr.ok (zD.ret (AV.agg [ai (zao 0).1,ai (zao 0).2.1,AV.str (zao 0).2.2]) []))):=by kernel_rfl
def F39:zJ:=zaf [zf,zf] [zf] fun x=>(vOr x.1 x.2.1,())
theorem zWc:FOk zbv.P zbv.gl 253 F39:=by
 refine zN zUX fun x C hC=>?_
 refine zar zcR zcN zUX (fun id _=>hC id) (zXi x.1 x.2.1) ?_
 simp only [Tr.val,vOr]
 repeat' split
 all_goals rfl

def zol (x0:Sem zf):Sem zf:=if (zcp x0==2)=true then zao 1 else if (zcp x0==1)=true then zao 2 else zao 0
theorem zVE:zF zbv.P 255 Tryz.f255 1:=by refine ⟨?_,?_,?_,?_⟩ <;> kernel_rfl
theorem zWF (x0:Sem zf):run zbv 0 (fun _=>{ }) (Func.results Tryz.f255).toList 400 (zq Tryz.f255) (zp (Func.ntmps Tryz.f255) [zx zf x0] [])=Tr.br (zcp x0==2) (Tr.ok (zD.ret (AV.agg [ai (zao 1).1,ai (zao 1).2.1,AV.str (zao 1).2.2]) [])) (Tr.br (zcp x0==1) (Tr.ok (zD.ret (AV.agg [ai (zao 2).1,ai (zao 2).2.1,AV.str (zao 2).2.2]) [])) (Tr.ok (zD.ret (AV.agg [ai (zao 0).1,ai (zao 0).2.1,AV.str (zao 0).2.2]) []))):=by kernel_rfl
def F41:zJ:=zaf [zf] [zf] fun x=>(zol x.1,())
theorem zVA:FOk zbv.P zbv.gl 255 F41:=by
 refine zN zVE fun x C hC=>?_
 refine zar zcR zcN zVE (fun id _=>hC id) (zWF x.1) ?_
 simp only [Tr.val,zol]
 repeat' split
 all_goals rfl

def ze8 (x0:Sem zf):Sem zf:=zbJ ((zam x0).1==0)
theorem zTt:zF zbv.P 261 Tryz.f261 1:=by refine ⟨?_,?_,?_,?_⟩ <;> kernel_rfl
theorem zXR (x0:Sem zf):run zbv 0 (fun _=>{ }) (Func.results Tryz.f261).toList 400 (zq Tryz.f261) (zp (Func.ntmps Tryz.f261) [zx zf x0] [])=Tr.ok (zD.ret (AV.agg [ai (zbJ ((zam x0).1==0)).1,ai (zbJ ((zam x0).1==0)).2.1,AV.str (zbJ ((zam x0).1==0)).2.2]) []):=by kernel_rfl
def F47:zJ:=zaf [zf] [zf] fun x=>(ze8 x.1,())
theorem zRo:FOk zbv.P zbv.gl 261 F47:=by
 refine zN zTt fun x C hC=>?_
 refine zar zcR zcN zTt (fun id _=>hC id) (zXR x.1) ?_
 simp only [Tr.val,ze8]
 repeat' split
 all_goals rfl

noncomputable def zbI:Env:=((((((zbv.add 174 F70).add 278 F58).add 252 F38).add 253 F39).add 255 F41).add 261 F47)
theorem zeK:zi zbI:=(zi.addS (zi.addS (zi.addS (zi.addS (zi.addS (zi.addS zcR (zB.refl zbv) zVb) ((zB.refl zbv).add _ _) zVY) (((zB.refl zbv).add _ _).add _ _) zUl) ((((zB.refl zbv).add _ _).add _ _).add _ _) zWc) (((((zB.refl zbv).add _ _).add _ _).add _ _).add _ _) zVA) ((((((zB.refl zbv).add _ _).add _ _).add _ _).add _ _).add _ _) zRo)
theorem zeU:zbI.P.follows .mixedOrders=true:=(zm (zm (zm (zm (zm (zm zcN _ _) _ _) _ _) _ _) _ _) _ _)
open Go Go.Proofs

def zb1 (x0:Sem zf) (x1:Sem zf):Sem zg:=orI [zu0 (zam x0).1 (zam x1).1,zlH (zam x0).2.1 (zam x1).2.1,zt1 (zam x0).2.2 (zam x1).2.2]
theorem zUy:zF zbI.P 123 Tryz.f123 2:=by refine ⟨?_,?_,?_,?_⟩ <;> kernel_rfl
theorem zXS (x0:Sem zf) (x1:Sem zf):run zbI 0 (fun _=>{ }) (Func.results Tryz.f123).toList 400 (zq Tryz.f123) (zp (Func.ntmps Tryz.f123) [zx zf x0,zx zf x1] [])=Tr.ok (zD.ret (AV.int IntKind.i64 (orI [zu0 (zam x0).1 (zam x1).1,zlH (zam x0).2.1 (zam x1).2.1,zt1 (zam x0).2.2 (zam x1).2.2])) []):=by kernel_rfl
def F60:zJ:=zaf [zf,zf] [zg] fun x=>(zb1 x.1 x.2.1,())
theorem zTI:FOk zbI.P zbI.gl 123 F60:=by
 refine zN zUy fun x C hC=>?_
 refine zar zeK zeU zUy (fun id _=>hC id) (zXS x.1 x.2.1) ?_
 simp only [Tr.val,zb1]
 repeat' split
 all_goals rfl

def zgW (x0:Sem zf) (x1:Sem zf):Sem zf:=if (!zcA x0 x1)=true then (0,0,[]) else zbJ (x0.1==x1.1&&(x0.2.1==x1.2.1&&(x0.2.2==x1.2.2&&true)))
theorem zUt:zF zbI.P 256 Tryz.f256 2:=by refine ⟨?_,?_,?_,?_⟩ <;> kernel_rfl
theorem zXj (x0:Sem zf) (x1:Sem zf):run zbI 0 (fun _=>{ }) (Func.results Tryz.f256).toList 400 (zq Tryz.f256) (zp (Func.ntmps Tryz.f256) [zx zf x0,zx zf x1] [])=Tr.br (!zcA x0 x1) (Tr.ok (zD.ret (AV.agg [ai 0,ai 0,AV.str []]) [])) (Tr.ok (zD.ret (AV.agg [ai (zbJ (x0.1==x1.1&&(x0.2.1==x1.2.1&&(x0.2.2==x1.2.2&&true)))).1,ai (zbJ (x0.1==x1.1&&(x0.2.1==x1.2.1&&(x0.2.2==x1.2.2&&true)))).2.1,AV.str (zbJ (x0.1==x1.1&&(x0.2.1==x1.2.1&&(x0.2.2==x1.2.2&&true)))).2.2]) [])):=by kernel_rfl
def F42:zJ:=zaf [zf,zf] [zf] fun x=>(zgW x.1 x.2.1,())
theorem zQZ:FOk zbI.P zbI.gl 256 F42:=by
 refine zN zUt fun x C hC=>?_
 refine zar zeK zeU zUt (fun id _=>hC id) (zXj x.1 x.2.1) ?_
 simp only [Tr.val,zgW]
 repeat' split
 all_goals rfl

def zkj (x0:Sem zf) (x1:Sem zf):Sem zf:=if (bif !zcA x0 x1 then true else x0.1 != 1)=true then (0,0,[]) else if (bif decide (x1.2.1 > 0) then bif decide (IntKind.i64.wrap (x0.2.1+x1.2.1) < x0.2.1) then true else bif decide (x1.2.1 < 0) then decide (IntKind.i64.wrap (x0.2.1+x1.2.1) > x0.2.1) else false else bif decide (x1.2.1 < 0) then decide (IntKind.i64.wrap (x0.2.1+x1.2.1) > x0.2.1) else false)=true then (0,0,[]) else (1,IntKind.i64.wrap (x0.2.1+x1.2.1),[])
theorem zVN:zF zbI.P 258 Tryz.f258 2:=by refine ⟨?_,?_,?_,?_⟩ <;> kernel_rfl
theorem zWs (x0:Sem zf) (x1:Sem zf):run zbI 0 (fun _=>{ }) (Func.results Tryz.f258).toList 400 (zq Tryz.f258) (zp (Func.ntmps Tryz.f258) [zx zf x0,zx zf x1] [])=Tr.br (bif !zcA x0 x1 then true else x0.1 != 1) (Tr.ok (zD.ret (AV.agg [ai 0,ai 0,AV.str []]) [])) (Tr.br (bif decide (x1.2.1 > 0) then bif decide (IntKind.i64.wrap (x0.2.1+x1.2.1) < x0.2.1) then true else bif decide (x1.2.1 < 0) then decide (IntKind.i64.wrap (x0.2.1+x1.2.1) > x0.2.1) else false else bif decide (x1.2.1 < 0) then decide (IntKind.i64.wrap (x0.2.1+x1.2.1) > x0.2.1) else false) (Tr.ok (zD.ret (AV.agg [ai 0,ai 0,AV.str []]) [])) (Tr.ok (zD.ret (AV.agg [ai 1,ai (IntKind.i64.wrap (x0.2.1+x1.2.1)),AV.str []]) []))):=by kernel_rfl
def F44:zJ:=zaf [zf,zf] [zf] fun x=>(zkj x.1 x.2.1,())
theorem zSr:FOk zbI.P zbI.gl 258 F44:=by
 refine zN zVN fun x C hC=>?_
 refine zar zeK zeU zVN (fun id _=>hC id) (zWs x.1 x.2.1) ?_
 simp only [Tr.val,zkj]
 repeat' split
 all_goals rfl

def zgL (x0:Sem zf) (x1:Sem zf):Sem zf:=if (bif !zcA x0 x1 then true else x0.1 != 1)=true then (0,0,[]) else if (bif decide (x1.2.1 > 0) then bif decide (IntKind.i64.wrap (x0.2.1 - x1.2.1) > x0.2.1) then true else bif decide (x1.2.1 < 0) then decide (IntKind.i64.wrap (x0.2.1 - x1.2.1) < x0.2.1) else false else bif decide (x1.2.1 < 0) then decide (IntKind.i64.wrap (x0.2.1 - x1.2.1) < x0.2.1) else false)=true then (0,0,[]) else (1,IntKind.i64.wrap (x0.2.1 - x1.2.1),[])
theorem zPR:zF zbI.P 259 Tryz.f259 2:=by refine ⟨?_,?_,?_,?_⟩ <;> kernel_rfl
theorem zWX (x0:Sem zf) (x1:Sem zf):run zbI 0 (fun _=>{ }) (Func.results Tryz.f259).toList 400 (zq Tryz.f259) (zp (Func.ntmps Tryz.f259) [zx zf x0,zx zf x1] [])=Tr.br (bif !zcA x0 x1 then true else x0.1 != 1) (Tr.ok (zD.ret (AV.agg [ai 0,ai 0,AV.str []]) [])) (Tr.br (bif decide (x1.2.1 > 0) then bif decide (IntKind.i64.wrap (x0.2.1 - x1.2.1) > x0.2.1) then true else bif decide (x1.2.1 < 0) then decide (IntKind.i64.wrap (x0.2.1 - x1.2.1) < x0.2.1) else false else bif decide (x1.2.1 < 0) then decide (IntKind.i64.wrap (x0.2.1 - x1.2.1) < x0.2.1) else false) (Tr.ok (zD.ret (AV.agg [ai 0,ai 0,AV.str []]) [])) (Tr.ok (zD.ret (AV.agg [ai 1,ai (IntKind.i64.wrap (x0.2.1 - x1.2.1)),AV.str []]) []))):=by kernel_rfl
def F45:zJ:=zaf [zf,zf] [zf] fun x=>(zgL x.1 x.2.1,())
theorem zP3:FOk zbI.P zbI.gl 259 F45:=by
 refine zN zPR fun x C hC=>?_
 refine zar zeK zeU zPR (fun id _=>hC id) (zWX x.1 x.2.1) ?_
 simp only [Tr.val,zgL]
 repeat' split
 all_goals rfl

def zAu (x0:Sem zf) (_:Sem zf):Sem zf:=zol x0
theorem zSh:zF zbI.P 254 Tryz.f254 2:=by refine ⟨?_,?_,?_,?_⟩ <;> kernel_rfl
theorem zXq (x0:Sem zf) (x1:Sem zf):run zbI 0 (fun _=>{ }) (Func.results Tryz.f254).toList 400 (zq Tryz.f254) (zp (Func.ntmps Tryz.f254) [zx zf x0,zx zf x1] [])=Tr.ok (zD.ret (AV.agg [ai (zol x0).1,ai (zol x0).2.1,AV.str (zol x0).2.2]) []):=by kernel_rfl
def F40:zJ:=zaf [zf,zf] [zf] fun x=>(zAu x.1 x.2.1,())
theorem zTv:FOk zbI.P zbI.gl 254 F40:=by
 refine zN zSh fun x C hC=>?_
 refine zar zeK zeU zSh (fun id _=>hC id) (zXq x.1 x.2.1) ?_
 simp only [Tr.val,zAu]
 repeat' split
 all_goals rfl

def zua (x0:Sem zf) (_:Sem zf):Sem zf:=ze8 x0
theorem zRT:zF zbI.P 260 Tryz.f260 2:=by refine ⟨?_,?_,?_,?_⟩ <;> kernel_rfl
theorem zW1 (x0:Sem zf) (x1:Sem zf):run zbI 0 (fun _=>{ }) (Func.results Tryz.f260).toList 400 (zq Tryz.f260) (zp (Func.ntmps Tryz.f260) [zx zf x0,zx zf x1] [])=Tr.ok (zD.ret (AV.agg [ai (ze8 x0).1,ai (ze8 x0).2.1,AV.str (ze8 x0).2.2]) []):=by kernel_rfl
def F46:zJ:=zaf [zf,zf] [zf] fun x=>(zua x.1 x.2.1,())
theorem zQC:FOk zbI.P zbI.gl 260 F46:=by
 refine zN zRT fun x C hC=>?_
 refine zar zeK zeU zRT (fun id _=>hC id) (zW1 x.1 x.2.1) ?_
 simp only [Tr.val,zua]
 repeat' split
 all_goals rfl

noncomputable def zcy:Env:=((((((zbI.add 123 F60).add 256 F42).add 258 F44).add 259 F45).add 254 F40).add 260 F46)
theorem zfT:zi zcy:=(zi.addS (zi.addS (zi.addS (zi.addS (zi.addS (zi.addS zeK (zB.refl zbI) zTI) ((zB.refl zbI).add _ _) zQZ) (((zB.refl zbI).add _ _).add _ _) zSr) ((((zB.refl zbI).add _ _).add _ _).add _ _) zP3) (((((zB.refl zbI).add _ _).add _ _).add _ _).add _ _) zTv) ((((((zB.refl zbI).add _ _).add _ _).add _ _).add _ _).add _ _) zQC)
theorem zfZ:zcy.P.follows .mixedOrders=true:=(zm (zm (zm (zm (zm (zm zeU _ _) _ _) _ _) _ _) _ _) _ _)
open Go Go.Proofs

def zkh (x0:Sem zf) (x1:Sem zf):Sem zf:=if (!zcA x0 x1)=true then (0,0,[]) else zbJ (decide (zb1 x0 x1 < 0))
theorem zUr:zF zcy.P 257 Tryz.f257 2:=by refine ⟨?_,?_,?_,?_⟩ <;> kernel_rfl
theorem zXt (x0:Sem zf) (x1:Sem zf):run zcy 0 (fun _=>{ }) (Func.results Tryz.f257).toList 400 (zq Tryz.f257) (zp (Func.ntmps Tryz.f257) [zx zf x0,zx zf x1] [])=Tr.br (!zcA x0 x1) (Tr.ok (zD.ret (AV.agg [ai 0,ai 0,AV.str []]) [])) (Tr.ok (zD.ret (AV.agg [ai (zbJ (decide (zb1 x0 x1 < 0))).1,ai (zbJ (decide (zb1 x0 x1 < 0))).2.1,AV.str (zbJ (decide (zb1 x0 x1 < 0))).2.2]) [])):=by kernel_rfl
def F43:zJ:=zaf [zf,zf] [zf] fun x=>(zkh x.1 x.2.1,())
theorem zRz:FOk zcy.P zcy.gl 257 F43:=by
 refine zN zUr fun x C hC=>?_
 refine zar zfT zfZ zUr (fun id _=>hC id) (zXt x.1 x.2.1) ?_
 simp only [Tr.val,zkh]
 repeat' split
 all_goals rfl

def zr2 (x0:Sem zf):Sem zf:=if decide ((↑(List.length x0.2.2):Int) > 60)=true then (x0.1,x0.2.1,List.take (Int.toNat 60 - Int.toNat 0) (List.drop (Int.toNat 0) x0.2.2)) else x0
def zsI (x0:Sem zf):Bool:=bif decide ((↑(List.length x0.2.2):Int) > 60) then decide (0≤0)&&decide (0≤60)&&decide (60≤(↑(List.length x0.2.2):Int)) else true
theorem zRe:zF zcy.P 58 Tryz.f58 1:=by refine ⟨?_,?_,?_,?_⟩ <;> kernel_rfl
theorem zWN (x0:Sem zf):run zcy 0 (fun _=>{ }) (Func.results Tryz.f58).toList 400 (zq Tryz.f58) (zp (Func.ntmps Tryz.f58) [zx zf x0] [])=Tr.br (decide ((↑(List.length x0.2.2):Int) > 60)) (Tr.chk (decide (0≤0)&&decide (0≤60)&&decide (60≤(↑(List.length x0.2.2):Int))) (Tr.ok (zD.ret (AV.agg [ai x0.1,ai x0.2.1,AV.str (List.take (Int.toNat 60 - Int.toNat 0) (List.drop (Int.toNat 0) x0.2.2))]) []))) (Tr.ok (zD.ret (AV.agg [ai x0.1,ai x0.2.1,AV.str x0.2.2]) [])):=by kernel_rfl
def F14:zJ:=zG [zf] [zf] (fun x=>zsI x.1) fun x=>(zr2 x.1,())
theorem zKk:FOk zcy.P zcy.gl 58 F14:=by
 refine zT zRe fun x hx C hC=>?_
 refine zar zfT zfZ zRe (fun id _=>hC id) (zWN x.1) ?_
 simp only [zsI,Bool.cond_eq_ite] at hx
 simp only [Tr.val,zr2]
 repeat' split
 all_goals first | rfl | simp_all

def zmV (x0:Sem Sh.str):Sem Sh.str:=if decide ((↑(List.length x0):Int) > 20)=true then List.take (Int.toNat 20 - Int.toNat 0) (List.drop (Int.toNat 0) x0) else x0
def zz6 (x0:Sem Sh.str):Bool:=bif decide ((↑(List.length x0):Int) > 20) then decide (0≤0)&&decide (0≤20)&&decide (20≤(↑(List.length x0):Int)) else true
theorem zRy:zF zcy.P 99 Tryz.f99 1:=by refine ⟨?_,?_,?_,?_⟩ <;> kernel_rfl
theorem zWl (x0:Sem Sh.str):run zcy 0 (fun _=>{ }) (Func.results Tryz.f99).toList 400 (zq Tryz.f99) (zp (Func.ntmps Tryz.f99) [zx Sh.str x0] [])=Tr.br (decide ((↑(List.length x0):Int) > 20)) (Tr.chk (decide (0≤0)&&decide (0≤20)&&decide (20≤(↑(List.length x0):Int))) (Tr.ok (zD.ret (AV.str (List.take (Int.toNat 20 - Int.toNat 0) (List.drop (Int.toNat 0) x0))) []))) (Tr.ok (zD.ret (AV.str x0) [])):=by kernel_rfl
def F12:zJ:=zG [Sh.str] [Sh.str] (fun x=>zz6 x.1) fun x=>(zmV x.1,())
theorem zKJ:FOk zcy.P zcy.gl 99 F12:=by
 refine zT zRy fun x hx C hC=>?_
 refine zar zfT zfZ zRy (fun id _=>hC id) (zWl x.1) ?_
 simp only [zz6,Bool.cond_eq_ite] at hx
 simp only [Tr.val,zmV]
 repeat' split
 all_goals first | rfl | simp_all

noncomputable def F79:zJ:=zai (List.replicate 2 none) (zbx zcy Tryz.f227 (List.replicate 2 none))
theorem zT0:FOk zcy.P zcy.gl 227 F79:=zav _ zfT zfZ (by refine ⟨?_,?_,?_,?_⟩ <;> kernel_rfl)

noncomputable def F18:zJ:=zai (List.replicate 2 none) (zbx zcy Tryz.f47 (List.replicate 2 none))
theorem zUg:FOk zcy.P zcy.gl 47 F18:=zav _ zfT zfZ (by refine ⟨?_,?_,?_,?_⟩ <;> kernel_rfl)

noncomputable def zeh:Env:=(((((zcy.add 257 F43).add 58 F14).add 99 F12).add 227 F79).add 47 F18)
theorem zeD:zi zeh:=(zi.addS (zi.addS (zi.addS (zi.addS (zi.addS zfT (zB.refl zcy) zRz) ((zB.refl zcy).add _ _) zKk) (((zB.refl zcy).add _ _).add _ _) zKJ) ((((zB.refl zcy).add _ _).add _ _).add _ _) zT0) (((((zB.refl zcy).add _ _).add _ _).add _ _).add _ _) zUg)
theorem ze0:zeh.P.follows .mixedOrders=true:=(zm (zm (zm (zm (zm zfZ _ _) _ _) _ _) _ _) _ _)
open Go Go.Proofs

theorem Reach.lenB {E:Env} {C:Ctx} {fn:FuncId} {todo:List Item} {st:St} {Q:AV→List AO→Prop} (id c:Nat) (e:Sh) (l:List (Sem e)) {cs:List AV} (h1:st.heap[id]?=some (.box cs)) (h2:cs[c]?=some (.sl e l)) (h:l.length≤zI→Reach E C fn todo st Q):Reach E C fn todo st Q:=by
 intro b cs' a w U ρ q1 q2 hc hW
 refine h ?_ b cs' a w U ρ q1 q2 hc hW
 have ho:=hc.hp.ob id
 rw [show st.hp id=.box cs by simp [St.hp,List.getD_eq_getElem?_getD,h1]] at ho
 obtain ⟨bk,T,vals,_,_,_,hr,_⟩:=ho
 have hlt:c < vals.toList.length:=by rw [← hr.len]; exact (List.getElem?_eq_some_iff.1 h2).1
 have:=hr.rv c _ _ h2 (List.getElem?_eq_getElem hlt)
 generalize vals.toList[c]=v at this
 cases this with
 | sl0=>simp
 | sl _ _ _ _ _ _ _ hm=>exact hm

abbrev kp6:Nat→zQ:=fun j=>if j=3 then { slots:=[0,3,4],prom:=[(3,none,zf)] } else { }
abbrev zEJ (l0:List (Sem zf)) (i4:Int) (lh_0:List (Sem zf)):St:={ tmps:=[AV.sl zf l0,ny,ny,AV.vec 0,ai i4,ny,ny,ny,ny,ny,ny,ny,ny,ny,ny,ny,ny,ny,ny,ny,ny,ny,ny,ny],heap:=[AO.vec zf lh_0] }
theorem ok6:zF zeh.P 26 Tryz.f26 1:=by refine ⟨?_,?_,?_,?_⟩ <;> kernel_rfl
theorem go6 (x0:Sem zf.sl):run zeh 0 kp6 (Func.results Tryz.f26).toList 400 (zq Tryz.f26) (zp (Func.ntmps Tryz.f26) [zx zf.sl x0] [])=Tr.ok (zD.head 3 (zA Tryz.f26 3) (zEJ x0 0 [])):=by kernel_rfl
theorem zKU (l0:List (Sem zf)) (i4:Int) (lh_0:List (Sem zf)):run zeh 0 kp6 (Func.results Tryz.f26).toList 400 (zA Tryz.f26 3) (zEJ l0 i4 lh_0)=Tr.br (bif decide (i4 < (↑l0.length:Int)) then decide (i4 < 14) else false) (Tr.chk (inB i4 l0.length) (Tr.chk (zsI (l0.getD i4.toNat (zl zf))) (Tr.chk (decide (lh_0.length+[zr2 (l0.getD i4.toNat (zl zf))].length≤1073741824)) (Tr.ok (zD.head 3 (zA Tryz.f26 3) (zEJ l0 (IntKind.i64.wrap (i4+1)) (lh_0++[zr2 (l0.getD i4.toNat (zl zf))]))))))) (Tr.ok (zD.ret (AV.vec 0) [AO.vec zf lh_0])):=by kernel_rfl
def ze4:List (Sem zf)→Int→List (Sem zf)→Sem zf.sl
 | [],_,lh_0=>lh_0
 | x::r,i4,lh_0=>if decide (i4 < 14)=true then ze4 r (i4+1) (lh_0++[zr2 x]) else lh_0
def zfg:List (Sem zf)→Int→List (Sem zf)→Bool
 | [],_,_=>true
 | x::r,i4,lh_0=>if decide (i4 < 14)=true then zsI x&&(decide (lh_0.length+[zr2 x].length≤1073741824)&&zfg r (i4+1) (lh_0++[zr2 x])) else true
theorem zRZ {C:Ctx} (hC:∀ id,C.ρ0 id=none) (l0:List (Sem zf)) (hl:l0.length≤zI):∀ (m i:Nat) (lh_0:List (Sem zf)),l0.length - i=m→i≤l0.length→zfg (l0.drop i) i lh_0=true→
  Reach zeh C 26 (zA Tryz.f26 3) (zEJ l0 (i:Int) lh_0) (fun r h=>zac h [zf.sl] r=some (ze4 (l0.drop i) i lh_0,())):=by
 intro m
 induction m with
 | zero=>
  intro i lh_0 hm hi hc
  obtain rfl:i=l0.length:=by omega
  rw [List.drop_length] at hc ⊢
  refine zr zeD ze0 ok6 (fun id _=>hC id) (zKU _ _ _) ?_
  simp only [zfg] at hc
  simp only [Tr.val,zP,cond_false,ze4]
  repeat' split
  all_goals first | rfl | simp_all
 | succ m IH=>
  intro i lh_0 hm hi hc
  have hlt:i < l0.length:=by omega
  have IH:=IH (i+1)
  have hcast:((i:Int)+1)=((i+1:Nat):Int):=by omega
  have hwr:=zH i (by omega)
  rw [List.drop_eq_getElem_cons hlt] at hc ⊢
  refine zr zeD ze0 ok6 (fun id _=>hC id) (zKU _ _ _) ?_
  simp only [zfg] at hc
  simp only [Tr.val,zV hlt,zK hlt,zaD l0 _ hlt,hwr,cond_true,if_true,ze4]
  clear hwr
  (try simp only [hcast] at hc ⊢)
  repeat' split
  all_goals first | (change Reach _ _ _ _ _ _; apply IH <;> first | omega | assumption | (clear IH; simp_all)) | rfl | (clear IH; simp_all)
theorem zPi {C:Ctx} (hC:∀ id,C.ρ0 id=none) (l0:List (Sem zf)) (lh_0:List (Sem zf)) (hc:zfg l0 0 lh_0=true):
  Reach zeh C 26 (zA Tryz.f26 3) (zEJ l0 0 lh_0) (fun r h=>zac h [zf.sl] r=some (ze4 l0 0 lh_0,())):=
 Reach.len 0 (zf) l0 rfl fun hl=>zRZ hC l0 hl _ 0 lh_0 rfl (Nat.zero_le _) hc
def zj5 (x0:Sem zf.sl):Sem zf.sl:=ze4 x0 0 []
def zE8 (x0:Sem zf.sl):Bool:=zfg x0 0 []
def F6:zJ:=zG [zf.sl] [zf.sl] (fun x=>zE8 x.1) fun x=>(zj5 x.1,())
theorem zSt:FOk zeh.P zeh.gl 26 F6:=by
 refine zT ok6 fun x hx C hC=>?_
 simp only [zE8] at hx
 refine zr zeD ze0 ok6 (fun id _=>hC id) (go6 x.1) ?_
 simp only [Tr.val,zj5]
 repeat' split
 all_goals first | (change Reach _ _ _ _ _ _; apply zPi hC <;> first | assumption | simp_all) | rfl | simp_all

abbrev zTM:Nat→zQ:=fun j=>if j=3 then { slots:=[0,3,4],prom:=[(3,none,zh)] } else { }
abbrev ztl (l0:List (Sem zh)) (i4:Int) (lh_0:List (Sem zh)):St:={ tmps:=[AV.sl zh l0,ny,ny,AV.vec 0,ai i4,ny,ny,ny,ny,ny,ny,ny,ny,ny,ny,ny,ny,ny,ny,ny,ny,ny,ny,ny,ny,ny,ny,ny,ny,ny,ny,ny,ny],heap:=[AO.vec zh lh_0] }
theorem zHO:zF zeh.P 24 Tryz.f24 1:=by refine ⟨?_,?_,?_,?_⟩ <;> kernel_rfl
theorem zXI (x0:Sem zh.sl):run zeh 0 zTM (Func.results Tryz.f24).toList 400 (zq Tryz.f24) (zp (Func.ntmps Tryz.f24) [zx zh.sl x0] [])=Tr.ok (zD.head 3 (zA Tryz.f24 3) (ztl x0 0 [])):=by kernel_rfl
theorem zFf (l0:List (Sem zh)) (i4:Int) (lh_0:List (Sem zh)):run zeh 0 zTM (Func.results Tryz.f24).toList 400 (zA Tryz.f24 3) (ztl l0 i4 lh_0)=Tr.br (bif decide (i4 < (↑l0.length:Int)) then decide (i4 < 9) else false) (Tr.chk (inB i4 l0.length) (Tr.br (decide ((↑(List.length (l0.getD i4.toNat (zl zh)).1):Int) > 20)) (Tr.chk (decide (0≤0)&&decide (0≤20)&&decide (20≤(↑(List.length (l0.getD i4.toNat (zl zh)).1):Int))) (Tr.chk (decide (lh_0.length+[(List.take (Int.toNat 20 - Int.toNat 0) (List.drop (Int.toNat 0) (l0.getD i4.toNat (zl zh)).1),(l0.getD i4.toNat (zl zh)).2)].length≤1073741824)) (Tr.ok (zD.head 3 (zA Tryz.f24 3) (ztl l0 (IntKind.i64.wrap (i4+1)) (lh_0++[(List.take (Int.toNat 20 - Int.toNat 0) (List.drop (Int.toNat 0) (l0.getD i4.toNat (zl zh)).1),(l0.getD i4.toNat (zl zh)).2)])))))) (Tr.chk (decide (lh_0.length+[l0.getD i4.toNat (zl zh)].length≤1073741824)) (Tr.ok (zD.head 3 (zA Tryz.f24 3) (ztl l0 (IntKind.i64.wrap (i4+1)) (lh_0++[l0.getD i4.toNat (zl zh)]))))))) (Tr.ok (zD.ret (AV.vec 0) [AO.vec zh lh_0])):=by kernel_rfl
def zdo:List (Sem zh)→Int→List (Sem zh)→Sem zh.sl
 | [],_,lh_0=>lh_0
 | x::r,i4,lh_0=>if decide (i4 < 9)=true then
 if decide ((↑(List.length x.1):Int) > 20)=true then
  zdo r (i4+1) (lh_0++[(List.take (Int.toNat 20 - Int.toNat 0) (List.drop (Int.toNat 0) x.1),x.2)])
 else zdo r (i4+1) (lh_0++[x])
else lh_0
def zeg:List (Sem zh)→Int→List (Sem zh)→Bool
 | [],_,_=>true
 | x::r,i4,lh_0=>if decide (i4 < 9)=true then
 if decide ((↑(List.length x.1):Int) > 20)=true then
  decide (0≤0)&&decide (0≤20)&&decide (20≤(↑(List.length x.1):Int))&&
   (decide (lh_0.length+[(List.take (Int.toNat 20 - Int.toNat 0) (List.drop (Int.toNat 0) x.1),x.2)].length≤1073741824)&&
    zeg r (i4+1) (lh_0++[(List.take (Int.toNat 20 - Int.toNat 0) (List.drop (Int.toNat 0) x.1),x.2)]))
 else decide (lh_0.length+[x].length≤1073741824)&&zeg r (i4+1) (lh_0++[x])
else true
theorem zM0 {C:Ctx} (hC:∀ id,C.ρ0 id=none) (l0:List (Sem zh)) (hl:l0.length≤zI):∀ (m i:Nat) (lh_0:List (Sem zh)),l0.length - i=m→i≤l0.length→zeg (l0.drop i) i lh_0=true→
  Reach zeh C 24 (zA Tryz.f24 3) (ztl l0 (i:Int) lh_0) (fun r h=>zac h [zh.sl] r=some (zdo (l0.drop i) i lh_0,())):=by
 intro m
 induction m with
 | zero=>
  intro i lh_0 hm hi hc
  obtain rfl:i=l0.length:=by omega
  rw [List.drop_length] at hc ⊢
  refine zr zeD ze0 zHO (fun id _=>hC id) (zFf _ _ _) ?_
  simp only [zeg] at hc
  simp only [Tr.val,zP,cond_false,zdo]
  repeat' split
  all_goals first | rfl | simp_all
 | succ m IH=>
  intro i lh_0 hm hi hc
  have hlt:i < l0.length:=by omega
  have IH:=IH (i+1)
  have hcast:((i:Int)+1)=((i+1:Nat):Int):=by omega
  have hwr:=zH i (by omega)
  rw [List.drop_eq_getElem_cons hlt] at hc ⊢
  refine zr zeD ze0 zHO (fun id _=>hC id) (zFf _ _ _) ?_
  simp only [zeg] at hc
  simp only [Tr.val,zV hlt,zK hlt,zaD l0 _ hlt,hwr,cond_true,if_true,zdo]
  clear hwr
  (try simp only [hcast] at hc ⊢)
  repeat' split
  all_goals first | (change Reach _ _ _ _ _ _; apply IH <;> first | omega | assumption | (clear IH; simp_all)) | rfl | (clear IH; simp_all)
theorem zH4 {C:Ctx} (hC:∀ id,C.ρ0 id=none) (l0:List (Sem zh)) (lh_0:List (Sem zh)) (hc:zeg l0 0 lh_0=true):
  Reach zeh C 24 (zA Tryz.f24 3) (ztl l0 0 lh_0) (fun r h=>zac h [zh.sl] r=some (zdo l0 0 lh_0,())):=
 Reach.len 0 (zh) l0 rfl fun hl=>zM0 hC l0 hl _ 0 lh_0 rfl (Nat.zero_le _) hc
def zke (x0:Sem zh.sl):Sem zh.sl:=zdo x0 0 []
def zFW (x0:Sem zh.sl):Bool:=zeg x0 0 []
def F13:zJ:=zG [zh.sl] [zh.sl] (fun x=>zFW x.1) fun x=>(zke x.1,())
theorem zK4:FOk zeh.P zeh.gl 24 F13:=by
 refine zT zHO fun x hx C hC=>?_
 simp only [zFW] at hx
 refine zr zeD ze0 zHO (fun id _=>hC id) (zXI x.1) ?_
 simp only [Tr.val,zke]
 repeat' split
 all_goals first | (change Reach _ _ _ _ _ _; apply zH4 hC <;> first | assumption | simp_all) | rfl | simp_all

noncomputable def zdI:Env:=((zeh.add 26 F6).add 24 F13)
theorem zmR:zi zdI:=(zi.addS (zi.addS zeD (zB.refl zeh) zSt) ((zB.refl zeh).add _ _) zK4)
theorem znw:zdI.P.follows .mixedOrders=true:=(zm (zm ze0 _ _) _ _)
open Go Go.Proofs

theorem zdl {P:Program} {gl:Nat→AV} {k:FuncId} {ks outs:List Sh} {c:zo (ks.map some)→Bool} {g:zo (ks.map some)→zo (outs.map some)} (h:FOk P gl k (zG ks outs c g)) (hc:∀ x,c x=true):FOk P gl k (zaf ks outs g):=
 zKx (by rwa [show c=fun _=>true from funext hc] at h)

theorem zpL (v:V):zsI v=true:=by
 unfold zsI
 cases h:decide ((↑(List.length v.2.2):Int) > 60)
 ·rfl
 ·simp only [decide_eq_true_eq] at h
  simp only [cond_true,Bool.and_eq_true,decide_eq_true_eq]
  omega
theorem zzB (s:Str):zz6 s=true:=by
 unfold zz6
 cases h:decide ((↑(List.length s):Int) > 20)
 ·rfl
 ·simp only [decide_eq_true_eq] at h
  simp only [cond_true,Bool.and_eq_true,decide_eq_true_eq]
  omega
theorem zj8:∀ (l:List (Sem zf)) (i:Int) (a:List (Sem zf)),(a.length:Int)≤i→zfg l i a=true
 | [],_,_,_=>rfl
 | x::r,i,a,h=>by
  simp only [zfg,zpL]
  split
  ·rename_i hi
   simp only [decide_eq_true_eq] at hi
   rw [zj8 r (i+1) _ (by simp; omega)]
   simp; omega
  ·rfl
theorem zgM:∀ (l:List (Sem zh)) (i:Int) (a:List (Sem zh)),(a.length:Int)≤i→zeg l i a=true
 | [],_,_,_=>rfl
 | x::r,i,a,h=>by
  simp only [zeg]
  split
  ·rename_i hi
   simp only [decide_eq_true_eq] at hi
   split
   ·rename_i hx
    simp only [decide_eq_true_eq] at hx
    rw [zgM r (i+1) _ (by simp; omega)]
    simp; omega
   ·rw [zgM r (i+1) _ (by simp; omega)]
    simp; omega
  ·rfl
def zUp:zJ:=zaf [zf] [zf] fun x=>(zr2 x.1,())
theorem zO9:FOk zdI.P zdI.gl 58 zUp:=zdl zKk fun x=>zpL x.1
def zRG:zJ:=zaf [Sh.str] [Sh.str] fun x=>(zmV x.1,())
theorem zNH:FOk zdI.P zdI.gl 99 zRG:=zdl zKJ fun x=>zzB x.1
def F6t:zJ:=zaf [zf.sl] [zf.sl] fun x=>(zj5 x.1,())
theorem zVs:FOk zdI.P zdI.gl 26 F6t:=zdl zSt fun x=>zj8 x.1 0 [] (by simp)
def zSa:zJ:=zaf [zh.sl] [zh.sl] fun x=>(zke x.1,())
theorem zPM:FOk zdI.P zdI.gl 24 zSa:=zdl zK4 fun x=>zgM x.1 0 [] (by simp)

abbrev zis:Nat→zQ:=fun _=>{ slots:=[0,1,7,8] }
def zfp {K:List Item} {e:Sh} (l:List (Sem e)) (p:Sem e→Bool) (st:Int→St) (h0:List AO) (i:Int):Tr zD:=.br (decide (i < (l.length:Int))) (.chk (inB i l.length) (.br (p (l.getD i.toNat (zl e))) (.ok (.ret (.int .i64 i) h0)) (.ok (.head 2 K (st (IntKind.i64.wrap (i+1))))))) (.ok (.ret (.int .i64 (-1)) h0))

theorem zdg {E:Env} {C:Ctx} {k:FuncId} {f:Func} {n n0:Nat} {keep:Nat→zQ} {fuel:Nat} {K:List Item} {e:Sh} (l:List (Sem e)) (p:Sem e→Bool) (st:Int→St) {h0:List AO}
  (hE:zi E) (hm:E.P.follows .mixedOrders=true) (hf:zF E.P k f n) (hC:∀ id,n0≤id→C.ρ0 id=none)
  (hon:∀ i,run E n0 keep f.results.toList fuel K (st i)=zfp (K:=K) l p st h0 i) (hl:l.length≤zI):∀ (m i:Nat),l.length - i=m→i≤l.length→
  Reach E C k K (st i) (fun r h=>(r,h)=(.int .i64 (zaa p (l.drop i) i),h0)):=by
 intro m
 induction m with
 | zero=>
  intro i hm' hi
  obtain rfl:i=l.length:=by omega
  refine zr hE hm hf hC (hon _) ?_
  simp only [zfp,Tr.val,zP,List.drop_length]
  rfl
 | succ m IH=>
  intro i hm' hi
  have hlt:i < l.length:=by omega
  refine zr hE hm hf hC (hon _) ?_
  rw [List.drop_eq_getElem_cons hlt]
  simp only [zfp,Tr.val,zV hlt,zK hlt,zaD l _ hlt,zH i (by omega),if_true,zaa]
  split
  ·rfl
  ·exact IH (i+1) (by omega) (by omega)

abbrev zo0 (t:Int) (l:List (Sem zg)) (i:Int):St:={ tmps:=[.sl zg l,.clo (.func 227) [] [.ptr 0 0],.any,.any,.any,.any,.any,.int .i64 l.length,.int .i64 i,.any,.any,.any,.any,.any,.any,.any,.any,.any,.any],heap:=[.box [.int .i64 t]] }
theorem zDN (t:Int) (l:List (Sem zg)):run zdI 1 zis Tryz.f262.results.toList 300 (zq Tryz.f262) (zp Tryz.f262.ntmps [.sl zg l,.clo (.func 227) [] [.ptr 0 0]] [.box [.int .i64 t]])=.ok (.head 2 (zA Tryz.f262 2) (zo0 t l 0)):=by kernel_rfl
theorem zDj (t:Int) (l:List (Sem zg)) (i:Int):run zdI 1 zis Tryz.f262.results.toList 300 (zA Tryz.f262 2) (zo0 t l i)=zfp (K:=zA Tryz.f262 2) (e:=zg) l (fun x=>bif x != t then x != 0 else false) (zo0 t l) [.box [.int .i64 t]] i:=by kernel_rfl

theorem zEI:zF zdI.P 262 Tryz.f262 2:=by refine ⟨?_,?_,?_,?_⟩ <;> kernel_rfl
def zRL:zdS [some (.sl zg),none]:=fun x h=>match x,h with
 | (l,.clo (.func 227) [] [.ptr 0 0],_),[.box [.int .i64 t]]=>.ok (.int .i64 (zaa (fun x=>bif x != t then x != 0 else false) l 0),[.box [.int .i64 t]])
 | _,_=>.err
def zSN:zJ:=zai [some (.sl zg),none] zRL
theorem zMq:FOk zdI.P zdI.gl 262 zSN:=by
 refine zbC zEI fun x h0 res hx C hC=>?_
 unfold zRL at hx
 split at hx
 ·rename_i l u t
  simp only [Tr.val_ok,Option.some.injEq] at hx
  subst hx
  refine Reach.len 0 zg l rfl fun hl=>?_
  refine zr (n0:=1) zmR znw zEI hC (zDN t l) ?_
  exact zdg l (fun x=>bif x != t then x != 0 else false) (zo0 t l) zmR znw zEI hC (zDj t l) hl _ 0 rfl (Nat.zero_le _)
 ·simp at hx

noncomputable def zdu:Env:=(((((zdI.add 58 zUp).add 99 zRG).add 26 F6t).add 24 zSa).add 262 zSN)
theorem zg0:zi zdu:=(zi.addS (zi.addS (zi.addS (zi.addS (zi.addS zmR (zB.refl zdI) zO9) ((zB.refl zdI).add _ _) zNH) (((zB.refl zdI).add _ _).add _ _) zVs) ((((zB.refl zdI).add _ _).add _ _).add _ _) zPM) (((((zB.refl zdI).add _ _).add _ _).add _ _).add _ _) zMq)
theorem zhw:zdu.P.follows .mixedOrders=true:=(zm (zm (zm (zm (zm znw _ _) _ _) _ _) _ _) _ _)
open Go Go.Proofs

noncomputable def F78:zJ:=zai [some (.sl zg),none] (zbx zdu Tryz.f226 [some (.sl zg),none])
theorem zTr:FOk zdu.P zdu.gl 226 F78:=zav _ zg0 zhw (by refine ⟨?_,?_,?_,?_⟩ <;> kernel_rfl)

def zcf (x0:Sem Sh.str):Sem Sh.bool:=ziZ x0
theorem zQe:zF zdu.P 88 Tryz.f88 1:=by refine ⟨?_,?_,?_,?_⟩ <;> kernel_rfl
theorem zXT (x0:Sem Sh.str):run zdu 0 (fun _=>{ }) (Func.results Tryz.f88).toList 400 (zq Tryz.f88) (zp (Func.ntmps Tryz.f88) [zx Sh.str x0] [])=Tr.ok (zD.ret (AV.bool (ziZ x0)) []):=by kernel_rfl
def F25:zJ:=zaf [Sh.str] [Sh.bool] fun x=>(zcf x.1,())
theorem zRi:FOk zdu.P zdu.gl 88 F25:=by
 refine zN zQe fun x C hC=>?_
 refine zar zg0 zhw zQe (fun id _=>hC id) (zXT x.1) ?_
 simp only [Tr.val,zcf]
 repeat' split
 all_goals rfl

def zbF (x0:Sem zn) (x1:Sem Sh.str):Sem zg:=zaa (fun c=>c.1==x1) x0.2.1 0
theorem zRt:zF zdu.P 20 Tryz.f20 2:=by refine ⟨?_,?_,?_,?_⟩ <;> kernel_rfl
theorem zXW (x0:Sem zn) (x1:Sem Sh.str):run zdu 0 (fun _=>{ }) (Func.results Tryz.f20).toList 400 (zq Tryz.f20) (zp (Func.ntmps Tryz.f20) [zx zn x0,zx Sh.str x1] [])=Tr.ok (zD.ret (ai (zaa (fun c=>c.1==x1) x0.2.1 0)) []):=by kernel_rfl
def F17:zJ:=zaf [zn,Sh.str] [zg] fun x=>(zbF x.1 x.2.1,())
theorem zUi:FOk zdu.P zdu.gl 20 F17:=by
 refine zN zRt fun x C hC=>?_
 refine zar zg0 zhw zRt (fun id _=>hC id) (zXW x.1 x.2.1) ?_
 simp only [Tr.val,zbF]
 repeat' split
 all_goals rfl

def zR (x0:Sem zh.sl) (x1:Sem Sh.str):Sem zg:=zaa (fun c=>c.1==x1) x0 0
theorem zRu:zF zdu.P 182 Tryz.f182 2:=by refine ⟨?_,?_,?_,?_⟩ <;> kernel_rfl
theorem zWI (x0:Sem zh.sl) (x1:Sem Sh.str):run zdu 0 (fun _=>{ }) (Func.results Tryz.f182).toList 400 (zq Tryz.f182) (zp (Func.ntmps Tryz.f182) [zx zh.sl x0,zx Sh.str x1] [])=Tr.ok (zD.ret (ai (zaa (fun c=>c.1==x1) x0 0)) []):=by kernel_rfl
def F48:zJ:=zaf [zh.sl,Sh.str] [zg] fun x=>(zR x.1 x.2.1,())
theorem zT6:FOk zdu.P zdu.gl 182 F48:=by
 refine zN zRu fun x C hC=>?_
 refine zar zg0 zhw zRu (fun id _=>hC id) (zWI x.1 x.2.1) ?_
 simp only [Tr.val,zR]
 repeat' split
 all_goals rfl

noncomputable def zg2:Env:=((((zdu.add 226 F78).add 88 F25).add 20 F17).add 182 F48)
theorem znc:zi zg2:=(zi.addS (zi.addS (zi.addS (zi.addS zg0 (zB.refl zdu) zTr) ((zB.refl zdu).add _ _) zRi) (((zB.refl zdu).add _ _).add _ _) zUi) ((((zB.refl zdu).add _ _).add _ _).add _ _) zT6)
theorem zm9:zg2.P.follows .mixedOrders=true:=(zm (zm (zm (zm zhw _ _) _ _) _ _) _ _)
open Go Go.Proofs

def zgR (x0:Sem zg.sl) (x1:Sem zg):Sem Sh.bool := !decide (zaa (fun x=>bif x != x1 then x != 0 else false) x0 0 ≥ 0)
theorem zRa:zF zg2.P 183 Tryz.f183 2:=by refine ⟨?_,?_,?_,?_⟩ <;> kernel_rfl
theorem zXV (x0:Sem zg.sl) (x1:Sem zg):run zg2 0 (fun _=>{ }) (Func.results Tryz.f183).toList 400 (zq Tryz.f183) (zp (Func.ntmps Tryz.f183) [zx zg.sl x0,zx zg x1] [])=Tr.ok (zD.ret (AV.bool !decide (zaa (fun x=>bif x != x1 then x != 0 else false) x0 0 ≥ 0)) []):=by kernel_rfl
def F66:zJ:=zaf [zg.sl,zg] [Sh.bool] fun x=>(zgR x.1 x.2.1,())
theorem zVP:FOk zg2.P zg2.gl 183 F66:=by
 refine zN zRa fun x C hC=>?_
 refine zar znc zm9 zRa (fun id _=>hC id) (zXV x.1 x.2.1) ?_
 simp only [Tr.val,zgR]
 repeat' split
 all_goals rfl

def zaB (x0:Sem Sh.str):Sem Sh.bool:=bif zcf x0 then !zeW x0 else false
theorem zTF:zF zg2.P 46 Tryz.f46 1:=by refine ⟨?_,?_,?_,?_⟩ <;> kernel_rfl
theorem zWw (x0:Sem Sh.str):run zg2 0 (fun _=>{ }) (Func.results Tryz.f46).toList 400 (zq Tryz.f46) (zp (Func.ntmps Tryz.f46) [zx Sh.str x0] [])=Tr.ok (zD.ret (AV.bool (bif zcf x0 then !zeW x0 else false)) []):=by kernel_rfl
def F16:zJ:=zaf [Sh.str] [Sh.bool] fun x=>(zaB x.1,())
theorem zQK:FOk zg2.P zg2.gl 46 F16:=by
 refine zN zTF fun x C hC=>?_
 refine zar znc zm9 zTF (fun id _=>hC id) (zWw x.1) ?_
 simp only [Tr.val,zaB]
 repeat' split
 all_goals rfl

noncomputable def zfc:Env:=((zg2.add 183 F66).add 46 F16)
theorem zs6:zi zfc:=(zi.addS (zi.addS znc (zB.refl zg2) zVP) ((zB.refl zg2).add _ _) zQK)
theorem ztI:zfc.P.follows .mixedOrders=true:=(zm (zm zm9 _ _) _ _)
open Go Go.Proofs
theorem zdK {P:Program} {gl:Nat→AV} {k:FuncId} {ks outs:List Sh} {c:zo (ks.map some)→Bool} {g:zo (ks.map some)→zo (outs.map some)} (hf:∃ fn,P.funcs[k]?=some fn∧(fn.name == "runtime.NumGoroutine")=false∧fn.body.isNone=false) (hc:∀ x,c x=false):FOk P gl k (zG ks outs c g):=by
 refine ⟨hf,?_⟩
 intro w U ρ hp n args vals f fp hv
 exfalso
 unfold zG zai at hv
 split at hv
 ·simp only at hv
  split at hv
  ·split at hv
   ·simp only [Tr.val_bind,Option.bind_eq_some_iff] at hv
    obtain ⟨res,h1,h2⟩:=hv
    unfold ze5 at h1
    split at h1
    ·simp only [Tr.val,hc] at h1
     simp at h1
    ·simp at h1
   ·simp at hv
  ·simp at hv
 ·simp at hv
theorem zhu {Φ:zD→Prop} {c:Bool} {t f:Tr zD} (h1:c=true→zdH Φ t.val) (h2:c=false→zdH Φ f.val):zdH Φ (Tr.br c t f).val:=by
 cases c
 ·simpa [Tr.val] using h2 rfl
 ·simpa [Tr.val] using h1 rfl
theorem zhn {Φ:zD→Prop} {c:Bool} {t:Tr zD} (hc:c=true) (h:zdH Φ t.val):zdH Φ (Tr.chk c t).val:=by
 subst hc
 simpa [Tr.val] using h
theorem zy {Φ:zD→Prop} {t:Tr zD} (h:zdH Φ t.val):zdH Φ (Tr.chk true t).val:=h
theorem zhb {c:Bool} (h:c=false):¬ c=true:=by rw [h]; simp
theorem zjV {c g:Bool} (h:(if c=true then g else false)=true):c=true∧g=true:=by
 split at h
 ·exact ⟨‹_›,h⟩
 ·cases h
theorem obr {Φ:zD→Prop} {c:Bool} {t f:Tr zD} {α:Sort _} {a b y:α} {p q:Bool} (hy:(if c=true then a else b)=y) (hc:(if c=true then p else q)=true) (h1:c=true→a=y→p=true→zdH Φ t.val) (h2:c=false→b=y→q=true→zdH Φ f.val):zdH Φ (Tr.br c t f).val:=
 zhu (fun h=>h1 h (by rwa [if_pos h] at hy) (by rwa [if_pos h] at hc)) (fun h=>h2 h (by rwa [if_neg (zhb h)] at hy) (by rwa [if_neg (zhb h)] at hc))
theorem zay {Φ:zD→Prop} {c:Bool} {t f:Tr zD} {α:Sort _} {a b y:α} (hy:(if c=true then a else b)=y) (h1:c=true→a=y→zdH Φ t.val) (h2:c=false→b=y→zdH Φ f.val):zdH Φ (Tr.br c t f).val:=
 zhu (fun h=>h1 h (by rwa [if_pos h] at hy)) (fun h=>h2 h (by rwa [if_neg (zhb h)] at hy))
theorem zaZ {Φ:zD→Prop} {c g:Bool} {t:Tr zD} (hc:(if c=true then g else false)=true) (h:g=true→zdH Φ t.val):zdH Φ (Tr.chk c t).val:=
 zhn (zjV hc).1 (h (zjV hc).2)
theorem Tr.val_brT {α:Type} (t f:Tr α):(Tr.br true t f).val=t.val:=rfl
theorem Tr.val_brF {α:Type} (t f:Tr α):(Tr.br false t f).val=f.val:=rfl
theorem Tr.val_chkT {α:Type} (t:Tr α):(Tr.chk true t).val=t.val:=rfl
instance:Inhabited ze:=⟨.mk [] (0,0,[]) [] []⟩
instance (s:Sh):Inhabited (Sem s):=⟨zl s⟩

noncomputable def zuc (g:Sem Sh.expr→Sem (Sh.sl zh)→Sem zg×Sem zg) (c:Sem Sh.expr→Sem (Sh.sl zh)→Bool):Env:=zfc.add 126 (zG [Sh.expr,Sh.sl zh] [zg,zg] (fun x=>c x.1 x.2.1) fun x=>((g x.1 x.2.1).1,(g x.1 x.2.1).2,()))
theorem zrN {g:Sem Sh.expr→Sem (Sh.sl zh)→Sem zg×Sem zg} {c:Sem Sh.expr→Sem (Sh.sl zh)→Bool} (hg:FOk zfc.P zfc.gl 126 (zG [Sh.expr,Sh.sl zh] [zg,zg] (fun x=>c x.1 x.2.1) fun x=>((g x.1 x.2.1).1,(g x.1 x.2.1).2,()))):zi (zuc g c):=zs6.add hg
theorem zqz {g:Sem Sh.expr→Sem (Sh.sl zh)→Sem zg×Sem zg} {c:Sem Sh.expr→Sem (Sh.sl zh)→Bool}:(zuc g c).P.follows .mixedOrders=true:=zm ztI _ _
abbrev zLj:Nat→zQ:=fun j=>if j=3 then { slots:=[1,2,6,15,16,17],prom:=[(6,none,zg)] } else { }
abbrev zpj (l1:LC) (l15:LX) (i16:Int) (i17:Int) (ja0:Str) (ja1:Int) (ja2:Int) (ja3:Str) (ja4:Str) (ja5:LX) (lh_1:LI):St:={ tmps:=[ny,AV.sl zh l1,AV.ptr 0 0,ny,ny,ny,AV.vec 1,ny,ny,ny,ny,ny,ny,ny,ny,AV.sl Sh.expr l15,ai i16,ai i17,ny,ny,ny,ny,ny,ny,ny,ny,ny,ny,ny,ny,ny,ny,ny,ny,ny,ny,ny,ny,ny,ny,ny,ny,ny,ny,ny,ny,ny,ny,ny,ny,ny,ny,ny,ny,ny,ny,ny,ny,ny,ny,ny,ny,ny,ny,ny,ny,ny,ny,ny,ny,ny,ny,ny,ny,ny,ny,ny,ny,ny,ny,ny,ny,ny,ny,ny,ny,ny,ny,ny,ny,ny],heap:=[AO.box [AV.str ja0,ai ja1,ai ja2,AV.str ja3,AV.str ja4,AV.sl Sh.expr ja5],AO.vec zg lh_1] }
theorem zrR (g:Sem Sh.expr→Sem (Sh.sl zh)→Sem zg×Sem zg) (c:Sem Sh.expr→Sem (Sh.sl zh)→Bool):zF (zuc g c).P 126 Tryz.f126 2:=by refine ⟨?_,?_,?_,?_⟩ <;> kernel_rfl
theorem zTe (g:Sem Sh.expr→Sem (Sh.sl zh)→Sem zg×Sem zg) (c:Sem Sh.expr→Sem (Sh.sl zh)→Bool) (x0:Sem Sh.expr) (x1:Sem zh.sl):run (zuc g c) 0 zLj (Func.results Tryz.f126).toList 400 (zq Tryz.f126) (zp (Func.ntmps Tryz.f126) [zx Sh.expr x0,zx zh.sl x1] [])=Tr.ok (zD.head 3 (zA Tryz.f126 3) (zpj x1 (ze.l x0) (↑(ze.l x0).length:Int) 0 (ze.op x0) (ze.v x0).1 (ze.v x0).2.1 (ze.v x0).2.2 (ze.s x0) (ze.l x0) [])):=by kernel_rfl
theorem zzX (g:Sem Sh.expr→Sem (Sh.sl zh)→Sem zg×Sem zg) (c:Sem Sh.expr→Sem (Sh.sl zh)→Bool) (l1:LC) (l15:LX) (i16:Int) (i17:Int) (ja0:Str) (ja1:Int) (ja2:Int) (ja3:Str) (ja4:Str) (ja5:LX) (lh_1:LI):run (zuc g c) 0 zLj (Func.results Tryz.f126).toList 400 (zA Tryz.f126 3) (zpj l1 l15 i16 i17 ja0 ja1 ja2 ja3 ja4 ja5 lh_1)=Tr.br (decide (i17 < i16)) (Tr.chk (inB i17 l15.length) (Tr.chk (c (zz (l15.getD i17.toNat (zl Sh.expr))) l1) (Tr.br ((g (zz (l15.getD i17.toNat (zl Sh.expr))) l1).2 != 0) (Tr.ok (zD.ret (AV.tup [ai 0,AV.int IntKind.i64 (g (zz (l15.getD i17.toNat (zl Sh.expr))) l1).2]) [])) (Tr.chk (decide (lh_1.length+[(g (zz (l15.getD i17.toNat (zl Sh.expr))) l1).1].length≤1073741824)) (Tr.ok (zD.head 3 (zA Tryz.f126 3) (zpj l1 l15 i16 (IntKind.i64.wrap (i17+1)) ja0 ja1 ja2 ja3 ja4 ja5 (lh_1++[(g (zz (l15.getD i17.toNat (zl Sh.expr))) l1).1])))))))) (Tr.br (ja0==[108,105,116]) (Tr.ok (zD.ret (AV.tup [ai ja1,ai 0]) [])) (Tr.br (ja0==[99,111,108]) (Tr.br (decide (zR l1 ja4 < 0)) (Tr.ok (zD.ret (AV.tup [ai 0,ai 4]) [])) (Tr.chk (inB (zR l1 ja4) l1.length) (Tr.ok (zD.ret (AV.tup [ai (l1.getD (Int.toNat (zR l1 ja4)) (zl zh)).2.1,ai 0]) [])))) (Tr.br (ja0==[110,111,116])
 (Tr.br (!zgR lh_1 3) (Tr.ok (zD.ret (AV.tup [ai 0,ai 5]) [])) (Tr.ok (zD.ret (AV.tup [ai 3,ai 0]) []))) (Tr.br (ja0==[97,110,100]) (Tr.br (!zgR lh_1 3) (Tr.ok (zD.ret (AV.tup [ai 0,ai 5]) [])) (Tr.ok (zD.ret (AV.tup [ai 3,ai 0]) []))) (Tr.br (ja0==[111,114]) (Tr.br (!zgR lh_1 3) (Tr.ok (zD.ret (AV.tup [ai 0,ai 5]) [])) (Tr.ok (zD.ret (AV.tup [ai 3,ai 0]) []))) (Tr.br (ja0==[61]) (Tr.chk (inB 0 lh_1.length&&(decide (Int.toNat 0 < lh_1.length)&&(inB 1 lh_1.length&&(decide (Int.toNat 1 < lh_1.length)&&bif lh_1.getD (Int.toNat 0) (zl zg)==lh_1.getD (Int.toNat 1) (zl zg) then true else inB 0 lh_1.length&&(decide (Int.toNat 0 < lh_1.length)&&bif lh_1.getD (Int.toNat 0) (zl zg)==0 then true else inB 1 lh_1.length&&decide (Int.toNat 1 < lh_1.length)))))) (Tr.br (!bif lh_1.getD (Int.toNat 0) (zl zg)==lh_1.getD (Int.toNat 1) (zl zg) then true else bif lh_1.getD (Int.toNat 0) (zl zg)==0 then true else lh_1.getD (Int.toNat 1) (zl zg)==0) (Tr.ok (zD.ret (AV.tup [ai 0,ai 5]) [])) (Tr.ok (zD.ret (AV.tup [ai 3,ai 0]) [])))) (Tr.br (ja0==[60]) (Tr.chk (inB 0 lh_1.length&&(decide (Int.toNat 0 < lh_1.length)&&(inB 1 lh_1.length&&(decide (Int.toNat 1 < lh_1.length)&&
 bif lh_1.getD (Int.toNat 0) (zl zg)==lh_1.getD (Int.toNat 1) (zl zg) then true else inB 0 lh_1.length&&(decide (Int.toNat 0 < lh_1.length)&&bif lh_1.getD (Int.toNat 0) (zl zg)==0 then true else inB 1 lh_1.length&&decide (Int.toNat 1 < lh_1.length)))))) (Tr.br (!bif lh_1.getD (Int.toNat 0) (zl zg)==lh_1.getD (Int.toNat 1) (zl zg) then true else bif lh_1.getD (Int.toNat 0) (zl zg)==0 then true else lh_1.getD (Int.toNat 1) (zl zg)==0) (Tr.ok (zD.ret (AV.tup [ai 0,ai 5]) [])) (Tr.ok (zD.ret (AV.tup [ai 3,ai 0]) [])))) (Tr.br (ja0==[43]) (Tr.br (!zgR lh_1 1) (Tr.ok (zD.ret (AV.tup [ai 0,ai 5]) [])) (Tr.ok (zD.ret (AV.tup [ai 1,ai 0]) []))) (Tr.br (ja0==[45]) (Tr.br (!zgR lh_1 1) (Tr.ok (zD.ret (AV.tup [ai 0,ai 5]) [])) (Tr.ok (zD.ret (AV.tup [ai 1,ai 0]) []))) (Tr.ok (zD.ret (AV.tup [ai 3,ai 0]) []))))))))))):=by kernel_rfl
def zah (g:Sem Sh.expr→Sem (Sh.sl zh)→Sem zg×Sem zg) (c:Sem Sh.expr→Sem (Sh.sl zh)→Bool) (l1:LC) (ja0:Str) (ja1:Int) (ja2:Int) (ja3:Str) (ja4:Str) (ja5:LX):List (Sem Sh.expr)→Int→List (Sem zg)→Sem zg×Sem zg
 | [],_,lh_1=>if (ja0==[108,105,116])=true then (ja1,0)
else
 if (ja0==[99,111,108])=true then
  if decide (zR l1 ja4 < 0)=true then (0,4)
  else ((l1.getD (Int.toNat (zR l1 ja4)) (zl zh)).2.1,0)
 else
  if (ja0==[110,111,116])=true then if (!zgR lh_1 3)=true then (0,5) else (3,0)
  else
   if (ja0==[97,110,100])=true then if (!zgR lh_1 3)=true then (0,5) else (3,0)
   else
    if (ja0==[111,114])=true then if (!zgR lh_1 3)=true then (0,5) else (3,0)
    else
     if (ja0==[61])=true then
      if
        (!bif lh_1.getD (Int.toNat 0) (zl zg)==lh_1.getD (Int.toNat 1) (zl zg) then true
          else bif lh_1.getD (Int.toNat 0) (zl zg)==0 then true else lh_1.getD (Int.toNat 1) (zl zg)==0)=
         true then
       (0,5)
      else (3,0)
     else
      if (ja0==[60])=true then
       if
         (!bif lh_1.getD (Int.toNat 0) (zl zg)==lh_1.getD (Int.toNat 1) (zl zg) then true
           else
            bif lh_1.getD (Int.toNat 0) (zl zg)==0 then true else lh_1.getD (Int.toNat 1) (zl zg)==0)=
          true then
        (0,5)
       else (3,0)
      else
       if (ja0==[43])=true then if (!zgR lh_1 1)=true then (0,5) else (1,0)
       else if (ja0==[45])=true then if (!zgR lh_1 1)=true then (0,5) else (1,0) else (3,0)
 | x::r,i17,lh_1=>if ((g x l1).2 != 0)=true then (0,(g x l1).2) else zah g c l1 ja0 ja1 ja2 ja3 ja4 ja5 r (i17+1) (lh_1++[(g x l1).1])
def zdh (g:Sem Sh.expr→Sem (Sh.sl zh)→Sem zg×Sem zg) (c:Sem Sh.expr→Sem (Sh.sl zh)→Bool) (l1:LC) (ja0:Str) (ja1:Int) (ja2:Int) (ja3:Str) (ja4:Str) (ja5:LX):List (Sem Sh.expr)→Int→List (Sem zg)→Bool
 | [],_,lh_1=>if (ja0==[108,105,116])=true then true
else
 if (ja0==[99,111,108])=true then
  if decide (zR l1 ja4 < 0)=true then true else if inB (zR l1 ja4) l1.length=true then true else false
 else
  if (ja0==[110,111,116])=true then true
  else
   if (ja0==[97,110,100])=true then true
   else
    if (ja0==[111,114])=true then true
    else
     if (ja0 == [61])=true then
      if
        (inB 0 lh_1.length&&
          (decide (Int.toNat 0 < lh_1.length)&&
           (inB 1 lh_1.length&&
            (decide (Int.toNat 1 < lh_1.length)&&
             bif lh_1.getD (Int.toNat 0) (zl zg)==lh_1.getD (Int.toNat 1) (zl zg) then true
             else
              inB 0 lh_1.length&&
               (decide (Int.toNat 0 < lh_1.length)&&
                bif lh_1.getD (Int.toNat 0) (zl zg)==0 then true
                else inB 1 lh_1.length&&decide (Int.toNat 1 < lh_1.length))))))=
         true then
       true
      else false
     else
      if (ja0 == [60])=true then
       if
         (inB 0 lh_1.length&&
           (decide (Int.toNat 0 < lh_1.length)&&
            (inB 1 lh_1.length&&
             (decide (Int.toNat 1 < lh_1.length)&&
              bif lh_1.getD (Int.toNat 0) (zl zg)==lh_1.getD (Int.toNat 1) (zl zg) then true
              else
               inB 0 lh_1.length&&
                (decide (Int.toNat 0 < lh_1.length)&&
                 bif lh_1.getD (Int.toNat 0) (zl zg)==0 then true
                 else inB 1 lh_1.length&&decide (Int.toNat 1 < lh_1.length))))))=
          true then
        true
       else false
      else true
 | x::r,i17,lh_1=>if c x l1=true then
 if ((g x l1).2 != 0)=true then true
 else
  if decide (lh_1.length+[(g x l1).1].length≤1073741824)=true then
   zdh g c l1 ja0 ja1 ja2 ja3 ja4 ja5 r (i17+1) (lh_1++[(g x l1).1])
  else false
else false
theorem zH6 (g:Sem Sh.expr→Sem (Sh.sl zh)→Sem zg×Sem zg) (c:Sem Sh.expr→Sem (Sh.sl zh)→Bool) (hg:FOk zfc.P zfc.gl 126 (zG [Sh.expr,Sh.sl zh] [zg,zg] (fun x=>c x.1 x.2.1) fun x=>((g x.1 x.2.1).1,(g x.1 x.2.1).2,()))) {C:Ctx} (hC:∀ id,C.ρ0 id=none) (l1:LC) (ja0:Str) (ja1:Int) (ja2:Int) (ja3:Str) (ja4:Str) (ja5:LX) (l15:LX) (hl:l15.length≤zI):∀ (m i:Nat) (lh_1:LI),l15.length - i=m→i≤l15.length→zdh g c l1 ja0 ja1 ja2 ja3 ja4 ja5 (l15.drop i) i lh_1=true→
  Reach (zuc g c) C 126 (zA Tryz.f126 3) (zpj l1 l15 (l15.length:Int) (i:Int) ja0 ja1 ja2 ja3 ja4 ja5 lh_1) (fun r h=>zac h [zg,zg] r=some ((zah g c l1 ja0 ja1 ja2 ja3 ja4 ja5 (l15.drop i) i lh_1).1,(zah g c l1 ja0 ja1 ja2 ja3 ja4 ja5 (l15.drop i) i lh_1).2,())):=by
 intro m
 induction m with
 | zero=>
  intro i lh_1 hm hi hc
  obtain rfl:i=l15.length:=by omega
  rw [List.drop_length] at hc ⊢
  refine zr (zrN hg) zqz (zrR g c) (fun id _=>hC id) (zzX g c _ _ _ _ _ _ _ _ _ _ _) ?_
  rw [zdh] at hc
  generalize hy:zah g c l1 ja0 ja1 ja2 ja3 ja4 ja5 [] _ lh_1=y
  rw [zah] at hy
  simp only [ze.eta,zP,Tr.val_brF]
  repeat' (first | with_reducible refine obr hy hc (fun _ hy hc=>?_) (fun _ hy hc=>?_) | with_reducible refine zay hy (fun _ hy=>?_) (fun _ hy=>?_) | with_reducible refine zaZ hc (fun hc=>?_) | with_reducible refine zy ?_)
  all_goals (subst hy; first | rfl)
 | succ m IH=>
  intro i lh_1 hm hi hc
  have hlt:i < l15.length:=by omega
  have IH:=IH (i+1)
  have hcast:((i:Int)+1)=((i+1:Nat):Int):=by omega
  have hwr:=zH i (by omega)
  rw [List.drop_eq_getElem_cons hlt] at hc ⊢
  refine zr (zrN hg) zqz (zrR g c) (fun id _=>hC id) (zzX g c _ _ _ _ _ _ _ _ _ _ _) ?_
  rw [zdh] at hc
  generalize hy:zah g c l1 ja0 ja1 ja2 ja3 ja4 ja5 (l15[i]::l15.drop (i+1)) (i:Int) lh_1=y
  rw [zah] at hy
  simp only [ze.eta,zV hlt,zK hlt,zaD l15 _ hlt,hwr,Tr.val_brT,Tr.val_chkT]
  clear hwr
  simp only [hcast] at hy
  try simp only [hcast] at hc
  repeat' (first | with_reducible refine obr hy hc (fun _ hy hc=>?_) (fun _ hy hc=>?_) | with_reducible refine zay hy (fun _ hy=>?_) (fun _ hy=>?_) | with_reducible refine zaZ hc (fun hc=>?_) | with_reducible refine zy ?_)
  all_goals (subst hy; first | (change Reach _ _ _ _ _ _; apply IH <;> first | omega | assumption) | rfl)
theorem zGw (g:Sem Sh.expr→Sem (Sh.sl zh)→Sem zg×Sem zg) (c:Sem Sh.expr→Sem (Sh.sl zh)→Bool) (hg:FOk zfc.P zfc.gl 126 (zG [Sh.expr,Sh.sl zh] [zg,zg] (fun x=>c x.1 x.2.1) fun x=>((g x.1 x.2.1).1,(g x.1 x.2.1).2,()))) {C:Ctx} (hC:∀ id,C.ρ0 id=none) (l1:LC) (ja0:Str) (ja1:Int) (ja2:Int) (ja3:Str) (ja4:Str) (ja5:LX) (l15:LX) (lh_1:LI) (hc:zdh g c l1 ja0 ja1 ja2 ja3 ja4 ja5 l15 0 lh_1=true):
  Reach (zuc g c) C 126 (zA Tryz.f126 3) (zpj l1 l15 (l15.length:Int) 0 ja0 ja1 ja2 ja3 ja4 ja5 lh_1) (fun r h=>zac h [zg,zg] r=some ((zah g c l1 ja0 ja1 ja2 ja3 ja4 ja5 l15 0 lh_1).1,(zah g c l1 ja0 ja1 ja2 ja3 ja4 ja5 l15 0 lh_1).2,())):=
 Reach.len 15 (Sh.expr) l15 rfl fun hl=>zH6 g c hg hC l1 ja0 ja1 ja2 ja3 ja4 ja5 l15 hl _ 0 lh_1 rfl (Nat.zero_le _) hc
def zmU (g:Sem Sh.expr→Sem (Sh.sl zh)→Sem zg×Sem zg) (c:Sem Sh.expr→Sem (Sh.sl zh)→Bool) (x0:Sem Sh.expr) (x1:Sem zh.sl):Sem zg×Sem zg:=zah g c x1 (ze.op x0) (ze.v x0).1 (ze.v x0).2.1 (ze.v x0).2.2 (ze.s x0) (ze.l x0) (ze.l x0) 0 []
def zoS (g:Sem Sh.expr→Sem (Sh.sl zh)→Sem zg×Sem zg) (c:Sem Sh.expr→Sem (Sh.sl zh)→Bool) (x0:Sem Sh.expr) (x1:Sem zh.sl):Bool:=zdh g c x1 (ze.op x0) (ze.v x0).1 (ze.v x0).2.1 (ze.v x0).2.2 (ze.s x0) (ze.l x0) (ze.l x0) 0 []
def zWS (g:Sem Sh.expr→Sem (Sh.sl zh)→Sem zg×Sem zg) (c:Sem Sh.expr→Sem (Sh.sl zh)→Bool):zJ:=zG [Sh.expr,zh.sl] [zg,zg] (fun x=>zoS g c x.1 x.2.1) fun x=>((zmU g c x.1 x.2.1).1,(zmU g c x.1 x.2.1).2,())
theorem zMI (g:Sem Sh.expr→Sem (Sh.sl zh)→Sem zg×Sem zg) (c:Sem Sh.expr→Sem (Sh.sl zh)→Bool) (hg:FOk zfc.P zfc.gl 126 (zG [Sh.expr,Sh.sl zh] [zg,zg] (fun x=>c x.1 x.2.1) fun x=>((g x.1 x.2.1).1,(g x.1 x.2.1).2,()))):FOk (zuc g c).P (zuc g c).gl 126 (zWS g c):=by
 refine zT (zrR g c) fun x hc C hC=>?_
 unfold zoS at hc
 refine zr (zrN hg) zqz (zrR g c) (fun id _=>hC id) (zTe g c x.1 x.2.1) ?_
 generalize hy:zmU g c x.1 x.2.1=y
 unfold zmU at hy
 try simp only [ze.eta,zw]
 repeat' (first | with_reducible refine obr hy hc (fun _ hy hc=>?_) (fun _ hy hc=>?_) | with_reducible refine zay hy (fun _ hy=>?_) (fun _ hy=>?_) | with_reducible refine zaZ hc (fun hc=>?_) | with_reducible refine zy ?_)
 all_goals (subst hy; first | (change Reach _ _ _ _ _ _; apply zGw g c hg hC <;> first | assumption | exact hc) | rfl)
mutual
def zM:Nat→Sem Sh.expr→Sem (Sh.sl zh)→Sem zg×Sem zg
 | 0=>fun _ _=>default
 | n+1=>zmU (zM n) (zaC n)
def zaC:Nat→Sem Sh.expr→Sem (Sh.sl zh)→Bool
 | 0=>fun _ _=>false
 | n+1=>zoS (zM n) (zaC n)
end
theorem zDB:∀ n,FOk zfc.P zfc.gl 126 (zG [Sh.expr,Sh.sl zh] [zg,zg] (fun x=>zaC n x.1 x.2.1) fun x=>((zM n x.1 x.2.1).1,(zM n x.1 x.2.1).2,()))
 | 0=>zdK ⟨Tryz.f126,(zrR default default).1,(zrR default default).2.1,(zrR default default).2.2.1⟩ (fun _=>rfl)
 | n+1=>zMI (zM n) (zaC n) (zDB n)
def F51:zJ:=zG [Sh.expr,Sh.sl zh] [zg,zg] (fun x=>zaC 16 x.1 x.2.1) fun x=>((zM 16 x.1 x.2.1).1,(zM 16 x.1 x.2.1).2,())
theorem zTO:FOk zfc.P zfc.gl 126 F51:=zDB 16

noncomputable def zbg:Env:=(zfc.add 126 F51)
theorem zjg:zi zbg:=(zi.addS zs6 (zB.refl zfc) zTO)
theorem zjD:zbg.P.follows .mixedOrders=true:=(zm ztI _ _)
open Go Go.Proofs

noncomputable def zum (g:Sem Sh.expr→Sem zg→Sem zg→Sem Sh.expr×Sem zg) (c:Sem Sh.expr→Sem zg→Sem zg→Bool):Env:=zbg.add 57 (zG [Sh.expr,zg,zg] [Sh.expr,zg] (fun x=>c x.1 x.2.1 x.2.2.1) fun x=>((g x.1 x.2.1 x.2.2.1).1,(g x.1 x.2.1 x.2.2.1).2,()))
theorem zrG {g:Sem Sh.expr→Sem zg→Sem zg→Sem Sh.expr×Sem zg} {c:Sem Sh.expr→Sem zg→Sem zg→Bool} (hg:FOk zbg.P zbg.gl 57 (zG [Sh.expr,zg,zg] [Sh.expr,zg] (fun x=>c x.1 x.2.1 x.2.2.1) fun x=>((g x.1 x.2.1 x.2.2.1).1,(g x.1 x.2.1 x.2.2.1).2,()))):zi (zum g c):=zjg.add hg
theorem zrM {g:Sem Sh.expr→Sem zg→Sem zg→Sem Sh.expr×Sem zg} {c:Sem Sh.expr→Sem zg→Sem zg→Bool}:(zum g c).P.follows .mixedOrders=true:=zm zjD _ _
abbrev zKl:Nat→zQ:=fun j=>if j=10 then { slots:=[1,2,3,6,8,9],prom:=[(8,some 5,Sh.expr)] } else { }
abbrev zdP (i1:Sem zg) (i2:Int) (i9:Int) (ja0:Str) (ja1:Int) (ja2:Int) (ja3:Str) (ja4:Str) (ja5:LX) (jb0:List UInt8) (jb1:Int) (jb2:Int) (jb3:List UInt8) (jb4:List UInt8) (jc0:List UInt8) (jc1:Int) (jc2:Int) (jc3:List UInt8) (jc4:List UInt8) (lh_3:LX):St:={ tmps:=[ny,ai i1,ai i2,AV.ptr 0 0,ny,ny,AV.ptr 1 0,ny,AV.ptr 2 0,ai i9,ny,ny,ny,ny,ny,ny,ny,ny,ny,ny,ny,ny,ny,ny,ny,ny,ny,ny,ny,ny,ny,ny,ny,ny,ny,ny,ny,ny,ny,ny,ny,ny,ny,ny,ny,ny,ny,ny,ny,ny,ny,ny,ny,ny,ny,ny,ny,ny,ny,ny,ny,ny,ny,ny,ny,ny,ny,ny,ny,ny,ny,ny,ny,ny,ny,ny,ny,ny,ny,ny,ny,ny,ny,ny,ny,ny,ny,ny],heap:=[AO.box [AV.str ja0,ai ja1,ai ja2,AV.str ja3,AV.str ja4,AV.sl Sh.expr ja5],AO.box [AV.str jb0,ai jb1,ai jb2,AV.str jb3,AV.str jb4,AV.nils],AO.box [AV.str jc0,ai jc1,ai jc2,AV.str jc3,AV.str jc4,AV.vec 3],AO.vec Sh.expr lh_3] }
theorem zrc (g:Sem Sh.expr→Sem zg→Sem zg→Sem Sh.expr×Sem zg) (c:Sem Sh.expr→Sem zg→Sem zg→Bool):zF (zum g c).P 57 Tryz.f57 3:=by refine ⟨?_,?_,?_,?_⟩ <;> kernel_rfl
theorem zSj (g:Sem Sh.expr→Sem zg→Sem zg→Sem Sh.expr×Sem zg) (c:Sem Sh.expr→Sem zg→Sem zg→Bool) (x0:Sem Sh.expr) (x1:Sem zg) (x2:Sem zg):run (zum g c) 0 zKl (Func.results Tryz.f57).toList 400 (zq Tryz.f57) (zp (Func.ntmps Tryz.f57) [zx Sh.expr x0,zx zg x1,zx zg x2] [])=Tr.br (decide ((↑(List.length (ze.op x0)):Int) > 8)) (Tr.chk (decide (0≤0)&&decide (0≤8)&&decide (8≤(↑(List.length (ze.op x0)):Int))) (Tr.br (decide ((↑(List.length (ze.s x0)):Int) > 20)) (Tr.chk (decide (0≤0)&&decide (0≤20)&&decide (20≤(↑(List.length (ze.s x0)):Int))) (Tr.br (decide ((↑(List.length (ze.v x0).2.2):Int) > 45)) (Tr.chk (decide (0≤0)&&decide (0≤45)&&decide (45≤(↑(List.length (ze.v x0).2.2):Int))) (Tr.ok (zD.head 10 (zA Tryz.f57 10) (zdP x1 (IntKind.i64.wrap (x2 - 1)) 0 (ze.op x0) (ze.v x0).1 (ze.v x0).2.1 (ze.v x0).2.2 (ze.s x0) (ze.l x0) [] 0 0 [] [] (List.take (Int.toNat 8 - Int.toNat 0) (List.drop (Int.toNat 0) (ze.op x0))) (ze.v x0).1 (ze.v x0).2.1 (List.take (Int.toNat 45 - Int.toNat 0) (List.drop (Int.toNat 0) (ze.v x0).2.2)) (List.take (Int.toNat 20 - Int.toNat 0) (List.drop (Int.toNat 0) (ze.s x0))) [])))) (Tr.ok (zD.head 10 (zA Tryz.f57 10) (zdP x1 (IntKind.i64.wrap (x2 - 1)) 0 (ze.op x0) (ze.v x0).1 (ze.v x0).2.1 (ze.v x0).2.2 (ze.s x0) (ze.l x0) [] 0
 0 [] [] (List.take (Int.toNat 8 - Int.toNat 0) (List.drop (Int.toNat 0) (ze.op x0))) (ze.v x0).1 (ze.v x0).2.1 (ze.v x0).2.2 (List.take (Int.toNat 20 - Int.toNat 0) (List.drop (Int.toNat 0) (ze.s x0))) []))))) (Tr.br (decide ((↑(List.length (ze.v x0).2.2):Int) > 45)) (Tr.chk (decide (0≤0)&&decide (0≤45)&&decide (45≤(↑(List.length (ze.v x0).2.2):Int))) (Tr.ok (zD.head 10 (zA Tryz.f57 10) (zdP x1 (IntKind.i64.wrap (x2 - 1)) 0 (ze.op x0) (ze.v x0).1 (ze.v x0).2.1 (ze.v x0).2.2 (ze.s x0) (ze.l x0) [] 0 0 [] [] (List.take (Int.toNat 8 - Int.toNat 0) (List.drop (Int.toNat 0) (ze.op x0))) (ze.v x0).1 (ze.v x0).2.1 (List.take (Int.toNat 45 - Int.toNat 0) (List.drop (Int.toNat 0) (ze.v x0).2.2)) (ze.s x0) [])))) (Tr.ok (zD.head 10 (zA Tryz.f57 10) (zdP x1 (IntKind.i64.wrap (x2 - 1)) 0 (ze.op x0) (ze.v x0).1 (ze.v x0).2.1 (ze.v x0).2.2 (ze.s x0) (ze.l x0) [] 0 0 [] [] (List.take (Int.toNat 8 - Int.toNat 0) (List.drop (Int.toNat 0) (ze.op x0))) (ze.v x0).1 (ze.v x0).2.1 (ze.v x0).2.2 (ze.s x0) [])))))) (Tr.br (decide ((↑(List.length (ze.s x0)):Int) > 20)) (Tr.chk (decide (0≤0)&&decide (0≤20)&&decide (20≤(↑(List.length (ze.s x0)):Int))) (Tr.br (decide ((↑(List.length (ze.v x0).2.2):Int) > 45)) (Tr.chk (decide (0≤0)&&decide (0≤45)&&decide (45≤(↑(List.length (ze.v x0).2.2):Int))) (Tr.ok (zD.head 10 (zA Tryz.f57 10)
 (zdP x1 (IntKind.i64.wrap (x2 - 1)) 0 (ze.op x0) (ze.v x0).1 (ze.v x0).2.1 (ze.v x0).2.2 (ze.s x0) (ze.l x0) [] 0 0 [] [] (ze.op x0) (ze.v x0).1 (ze.v x0).2.1 (List.take (Int.toNat 45 - Int.toNat 0) (List.drop (Int.toNat 0) (ze.v x0).2.2)) (List.take (Int.toNat 20 - Int.toNat 0) (List.drop (Int.toNat 0) (ze.s x0))) [])))) (Tr.ok (zD.head 10 (zA Tryz.f57 10) (zdP x1 (IntKind.i64.wrap (x2 - 1)) 0 (ze.op x0) (ze.v x0).1 (ze.v x0).2.1 (ze.v x0).2.2 (ze.s x0) (ze.l x0) [] 0 0 [] [] (ze.op x0) (ze.v x0).1 (ze.v x0).2.1 (ze.v x0).2.2 (List.take (Int.toNat 20 - Int.toNat 0) (List.drop (Int.toNat 0) (ze.s x0))) []))))) (Tr.br (decide ((↑(List.length (ze.v x0).2.2):Int) > 45)) (Tr.chk (decide (0≤0)&&decide (0≤45)&&decide (45≤(↑(List.length (ze.v x0).2.2):Int))) (Tr.ok (zD.head 10 (zA Tryz.f57 10) (zdP x1 (IntKind.i64.wrap (x2 - 1)) 0 (ze.op x0) (ze.v x0).1 (ze.v x0).2.1 (ze.v x0).2.2 (ze.s x0) (ze.l x0) [] 0 0 [] [] (ze.op x0) (ze.v x0).1 (ze.v x0).2.1 (List.take (Int.toNat 45 - Int.toNat 0) (List.drop (Int.toNat 0) (ze.v x0).2.2)) (ze.s x0) [])))) (Tr.ok (zD.head 10 (zA Tryz.f57 10) (zdP x1 (IntKind.i64.wrap (x2 - 1)) 0 (ze.op x0) (ze.v x0).1 (ze.v x0).2.1 (ze.v x0).2.2 (ze.s x0) (ze.l x0) [] 0 0 [] [] (ze.op x0) (ze.v x0).1 (ze.v x0).2.1 (ze.v x0).2.2 (ze.s x0) []))))):=by kernel_rfl
theorem zxN (g:Sem Sh.expr→Sem zg→Sem zg→Sem Sh.expr×Sem zg) (c:Sem Sh.expr→Sem zg→Sem zg→Bool) (i1:Sem zg) (i2:Int) (i9:Int) (ja0:Str) (ja1:Int) (ja2:Int) (ja3:Str) (ja4:Str) (ja5:LX) (jb0:List UInt8) (jb1:Int) (jb2:Int) (jb3:List UInt8) (jb4:List UInt8) (jc0:List UInt8) (jc1:Int) (jc2:Int) (jc3:List UInt8) (jc4:List UInt8) (lh_3:LX):run (zum g c) 0 zKl (Func.results Tryz.f57).toList 400 (zA Tryz.f57 10) (zdP i1 i2 i9 ja0 ja1 ja2 ja3 ja4 ja5 jb0 jb1 jb2 jb3 jb4 jc0 jc1 jc2 jc3 jc4 lh_3)=Tr.br (bif decide (i9 < (↑ja5.length:Int)) then bif decide (i9 < 3) then bif decide (i1 > 0) then decide (i2 > 0) else false else false else false) (Tr.chk (inB i9 ja5.length) (Tr.chk (c (zz (ja5.getD i9.toNat (zl Sh.expr))) (IntKind.i64.wrap (i1 - 1)) i2) (Tr.chk (decide (lh_3.length+[ze.mk (ze.op (g (zz (ja5.getD i9.toNat (zl Sh.expr))) (IntKind.i64.wrap (i1 - 1)) i2).1) (ze.v (g (zz (ja5.getD i9.toNat (zl Sh.expr))) (IntKind.i64.wrap (i1 - 1)) i2).1) (ze.s (g (zz (ja5.getD i9.toNat (zl Sh.expr))) (IntKind.i64.wrap (i1 - 1)) i2).1) (ze.l (g (zz (ja5.getD i9.toNat (zl Sh.expr))) (IntKind.i64.wrap (i1 - 1)) i2).1)].length≤1073741824)) (Tr.ok (zD.head 10 (zA Tryz.f57 10) (zdP i1 (g (zz (ja5.getD i9.toNat (zl Sh.expr))) (IntKind.i64.wrap (i1 - 1)) i2).2
 (IntKind.i64.wrap (i9+1)) ja0 ja1 ja2 ja3 ja4 ja5 jb0 jb1 jb2 jb3 jb4 jc0 jc1 jc2 jc3 jc4 (lh_3++[ze.mk (ze.op (g (zz (ja5.getD i9.toNat (zl Sh.expr))) (IntKind.i64.wrap (i1 - 1)) i2).1) (ze.v (g (zz (ja5.getD i9.toNat (zl Sh.expr))) (IntKind.i64.wrap (i1 - 1)) i2).1) (ze.s (g (zz (ja5.getD i9.toNat (zl Sh.expr))) (IntKind.i64.wrap (i1 - 1)) i2).1) (ze.l (g (zz (ja5.getD i9.toNat (zl Sh.expr))) (IntKind.i64.wrap (i1 - 1)) i2).1)]))))))) (Tr.ok (zD.ret (AV.tup [AV.agg [AV.str jc0,ai jc1,ai jc2,AV.str jc3,AV.str jc4,AV.vec 0],ai i2]) [AO.vec Sh.expr lh_3])):=by kernel_rfl
def zbe (g:Sem Sh.expr→Sem zg→Sem zg→Sem Sh.expr×Sem zg) (c:Sem Sh.expr→Sem zg→Sem zg→Bool) (i1:Sem zg) (ja0:Str) (ja1:Int) (ja2:Int) (ja3:Str) (ja4:Str) (jb0:List UInt8) (jb1:Int) (jb2:Int) (jb3:List UInt8) (jb4:List UInt8) (jc0:List UInt8) (jc1:Int) (jc2:Int) (jc3:List UInt8) (jc4:List UInt8):List (Sem Sh.expr)→Int→Int→List (Sem Sh.expr)→Sem Sh.expr×Sem zg
 | [],_,i2,lh_3=>(ze.mk jc0 (jc1,jc2,jc3) jc4 lh_3,i2)
 | x::r,i9,i2,lh_3=>if (bif decide (i9 < 3) then bif decide (i1 > 0) then decide (i2 > 0) else false else false)=true then
 zbe g c i1 ja0 ja1 ja2 ja3 ja4 jb0 jb1 jb2 jb3 jb4 jc0 jc1 jc2 jc3 jc4 r (i9+1)
  (g x (IntKind.i64.wrap (i1 - 1)) i2).2 (lh_3++[(g x (IntKind.i64.wrap (i1 - 1)) i2).1])
else (ze.mk jc0 (jc1,jc2,jc3) jc4 lh_3,i2)
def zbM (g:Sem Sh.expr→Sem zg→Sem zg→Sem Sh.expr×Sem zg) (c:Sem Sh.expr→Sem zg→Sem zg→Bool) (i1:Sem zg) (ja0:Str) (ja1:Int) (ja2:Int) (ja3:Str) (ja4:Str) (jb0:List UInt8) (jb1:Int) (jb2:Int) (jb3:List UInt8) (jb4:List UInt8) (jc0:List UInt8) (jc1:Int) (jc2:Int) (jc3:List UInt8) (jc4:List UInt8):List (Sem Sh.expr)→Int→Int→List (Sem Sh.expr)→Bool
 | [],_,_,_=>true
 | x::r,i9,i2,lh_3=>if (bif decide (i9 < 3) then bif decide (i1 > 0) then decide (i2 > 0) else false else false)=true then
 if c x (IntKind.i64.wrap (i1 - 1)) i2=true then
  if decide (lh_3.length+[(g x (IntKind.i64.wrap (i1 - 1)) i2).1].length≤1073741824)=true then
   zbM g c i1 ja0 ja1 ja2 ja3 ja4 jb0 jb1 jb2 jb3 jb4 jc0 jc1 jc2 jc3 jc4 r (i9+1)
    (g x (IntKind.i64.wrap (i1 - 1)) i2).2 (lh_3++[(g x (IntKind.i64.wrap (i1 - 1)) i2).1])
  else false
 else false
else true
theorem zFv (g:Sem Sh.expr→Sem zg→Sem zg→Sem Sh.expr×Sem zg) (c:Sem Sh.expr→Sem zg→Sem zg→Bool) (hg:FOk zbg.P zbg.gl 57 (zG [Sh.expr,zg,zg] [Sh.expr,zg] (fun x=>c x.1 x.2.1 x.2.2.1) fun x=>((g x.1 x.2.1 x.2.2.1).1,(g x.1 x.2.1 x.2.2.1).2,()))) {C:Ctx} (hC:∀ id,C.ρ0 id=none) (i1:Sem zg) (ja0:Str) (ja1:Int) (ja2:Int) (ja3:Str) (ja4:Str) (jb0:List UInt8) (jb1:Int) (jb2:Int) (jb3:List UInt8) (jb4:List UInt8) (jc0:List UInt8) (jc1:Int) (jc2:Int) (jc3:List UInt8) (jc4:List UInt8) (ja5:LX) (hl:ja5.length≤zI):∀ (m i:Nat) (i2:Int) (lh_3:LX),ja5.length - i=m→i≤ja5.length→zbM g c i1 ja0 ja1 ja2 ja3 ja4 jb0 jb1 jb2 jb3 jb4 jc0 jc1 jc2 jc3 jc4 (ja5.drop i) i i2 lh_3=true→
  Reach (zum g c) C 57 (zA Tryz.f57 10) (zdP i1 i2 (i:Int) ja0 ja1 ja2 ja3 ja4 ja5 jb0 jb1 jb2 jb3 jb4 jc0 jc1 jc2 jc3 jc4 lh_3) (fun r h=>zac h [Sh.expr,zg] r=some ((zbe g c i1 ja0 ja1 ja2 ja3 ja4 jb0 jb1 jb2 jb3 jb4 jc0 jc1 jc2 jc3 jc4 (ja5.drop i) i i2 lh_3).1,(zbe g c i1 ja0 ja1 ja2 ja3 ja4 jb0 jb1 jb2 jb3 jb4 jc0 jc1 jc2 jc3 jc4 (ja5.drop i) i i2 lh_3).2,())):=by
 intro m
 induction m with
 | zero=>
  intro i i2 lh_3 hm hi hc
  obtain rfl:i=ja5.length:=by omega
  rw [List.drop_length] at hc ⊢
  refine zr (zrG hg) zrM (zrc g c) (fun id _=>hC id) (zxN g c _ _ _ _ _ _ _ _ _ _ _ _ _ _ _ _ _ _ _ _) ?_
  rw [zbM] at hc
  generalize hy:zbe g c i1 ja0 ja1 ja2 ja3 ja4 jb0 jb1 jb2 jb3 jb4 jc0 jc1 jc2 jc3 jc4 [] _ i2 lh_3=y
  rw [zbe] at hy
  simp only [ze.eta,zP,cond_false,Tr.val_brF]
  repeat' (first | with_reducible refine obr hy hc (fun _ hy hc=>?_) (fun _ hy hc=>?_) | with_reducible refine zay hy (fun _ hy=>?_) (fun _ hy=>?_) | with_reducible refine zaZ hc (fun hc=>?_) | with_reducible refine zy ?_)
  all_goals (subst hy; first | rfl)
 | succ m IH=>
  intro i i2 lh_3 hm hi hc
  have hlt:i < ja5.length:=by omega
  have IH:=IH (i+1)
  have hcast:((i:Int)+1)=((i+1:Nat):Int):=by omega
  have hwr:=zH i (by omega)
  rw [List.drop_eq_getElem_cons hlt] at hc ⊢
  refine zr (zrG hg) zrM (zrc g c) (fun id _=>hC id) (zxN g c _ _ _ _ _ _ _ _ _ _ _ _ _ _ _ _ _ _ _ _) ?_
  rw [zbM] at hc
  generalize hy:zbe g c i1 ja0 ja1 ja2 ja3 ja4 jb0 jb1 jb2 jb3 jb4 jc0 jc1 jc2 jc3 jc4 (ja5[i]::ja5.drop (i+1)) (i:Int) i2 lh_3=y
  rw [zbe] at hy
  simp only [ze.eta,zV hlt,zK hlt,zaD ja5 _ hlt,hwr,cond_true]
  clear hwr
  simp only [hcast] at hy
  try simp only [hcast] at hc
  repeat' (first | with_reducible refine obr hy hc (fun _ hy hc=>?_) (fun _ hy hc=>?_) | with_reducible refine zay hy (fun _ hy=>?_) (fun _ hy=>?_) | with_reducible refine zaZ hc (fun hc=>?_) | with_reducible refine zy ?_)
  all_goals (subst hy; first | (change Reach _ _ _ _ _ _; apply IH <;> first | omega | assumption) | rfl)
theorem zCW (g:Sem Sh.expr→Sem zg→Sem zg→Sem Sh.expr×Sem zg) (c:Sem Sh.expr→Sem zg→Sem zg→Bool) (hg:FOk zbg.P zbg.gl 57 (zG [Sh.expr,zg,zg] [Sh.expr,zg] (fun x=>c x.1 x.2.1 x.2.2.1) fun x=>((g x.1 x.2.1 x.2.2.1).1,(g x.1 x.2.1 x.2.2.1).2,()))) {C:Ctx} (hC:∀ id,C.ρ0 id=none) (i1:Sem zg) (ja0:Str) (ja1:Int) (ja2:Int) (ja3:Str) (ja4:Str) (jb0:List UInt8) (jb1:Int) (jb2:Int) (jb3:List UInt8) (jb4:List UInt8) (jc0:List UInt8) (jc1:Int) (jc2:Int) (jc3:List UInt8) (jc4:List UInt8) (ja5:LX) (i2:Int) (lh_3:LX) (hc:zbM g c i1 ja0 ja1 ja2 ja3 ja4 jb0 jb1 jb2 jb3 jb4 jc0 jc1 jc2 jc3 jc4 ja5 0 i2 lh_3=true):
  Reach (zum g c) C 57 (zA Tryz.f57 10) (zdP i1 i2 0 ja0 ja1 ja2 ja3 ja4 ja5 jb0 jb1 jb2 jb3 jb4 jc0 jc1 jc2 jc3 jc4 lh_3) (fun r h=>zac h [Sh.expr,zg] r=some ((zbe g c i1 ja0 ja1 ja2 ja3 ja4 jb0 jb1 jb2 jb3 jb4 jc0 jc1 jc2 jc3 jc4 ja5 0 i2 lh_3).1,(zbe g c i1 ja0 ja1 ja2 ja3 ja4 jb0 jb1 jb2 jb3 jb4 jc0 jc1 jc2 jc3 jc4 ja5 0 i2 lh_3).2,())):=
 Reach.lenB 0 5 (Sh.expr) ja5 rfl rfl fun hl=>zFv g c hg hC i1 ja0 ja1 ja2 ja3 ja4 jb0 jb1 jb2 jb3 jb4 jc0 jc1 jc2 jc3 jc4 ja5 hl _ 0 i2 lh_3 rfl (Nat.zero_le _) hc
def zv1 (g:Sem Sh.expr→Sem zg→Sem zg→Sem Sh.expr×Sem zg) (c:Sem Sh.expr→Sem zg→Sem zg→Bool) (x0:Sem Sh.expr) (x1:Sem zg) (x2:Sem zg):Sem Sh.expr×Sem zg:=if decide ((↑(List.length (ze.op x0)):Int) > 8)=true then if decide ((↑(List.length (ze.s x0)):Int) > 20)=true then if decide ((↑(List.length (ze.v x0).2.2):Int) > 45)=true then zbe g c x1 (ze.op x0) (ze.v x0).1 (ze.v x0).2.1 (ze.v x0).2.2 (ze.s x0) [] 0 0 [] [] (List.take (Int.toNat 8 - Int.toNat 0) (List.drop (Int.toNat 0) (ze.op x0))) (ze.v x0).1 (ze.v x0).2.1 (List.take (Int.toNat 45 - Int.toNat 0) (List.drop (Int.toNat 0) (ze.v x0).2.2)) (List.take (Int.toNat 20 - Int.toNat 0) (List.drop (Int.toNat 0) (ze.s x0))) (ze.l x0) 0 (IntKind.i64.wrap (x2 - 1)) [] else zbe g c x1 (ze.op x0) (ze.v x0).1 (ze.v x0).2.1 (ze.v x0).2.2 (ze.s x0) [] 0 0 [] [] (List.take (Int.toNat 8 - Int.toNat 0) (List.drop (Int.toNat 0) (ze.op x0))) (ze.v x0).1 (ze.v x0).2.1 (ze.v x0).2.2 (List.take (Int.toNat 20 - Int.toNat 0) (List.drop (Int.toNat 0) (ze.s x0))) (ze.l x0) 0 (IntKind.i64.wrap (x2 - 1)) [] else if decide ((↑(List.length (ze.v x0).2.2):Int) > 45)=true then zbe g c x1 (ze.op x0) (ze.v x0).1 (ze.v x0).2.1 (ze.v x0).2.2 (ze.s x0) [] 0 0 [] [] (List.take (Int.toNat 8 - Int.toNat 0) (List.drop (Int.toNat 0) (ze.op x0))) (ze.v x0).1 (ze.v x0).2.1
 (List.take (Int.toNat 45 - Int.toNat 0) (List.drop (Int.toNat 0) (ze.v x0).2.2)) (ze.s x0) (ze.l x0) 0 (IntKind.i64.wrap (x2 - 1)) [] else zbe g c x1 (ze.op x0) (ze.v x0).1 (ze.v x0).2.1 (ze.v x0).2.2 (ze.s x0) [] 0 0 [] [] (List.take (Int.toNat 8 - Int.toNat 0) (List.drop (Int.toNat 0) (ze.op x0))) (ze.v x0).1 (ze.v x0).2.1 (ze.v x0).2.2 (ze.s x0) (ze.l x0) 0 (IntKind.i64.wrap (x2 - 1)) [] else if decide ((↑(List.length (ze.s x0)):Int) > 20)=true then if decide ((↑(List.length (ze.v x0).2.2):Int) > 45)=true then zbe g c x1 (ze.op x0) (ze.v x0).1 (ze.v x0).2.1 (ze.v x0).2.2 (ze.s x0) [] 0 0 [] [] (ze.op x0) (ze.v x0).1 (ze.v x0).2.1 (List.take (Int.toNat 45 - Int.toNat 0) (List.drop (Int.toNat 0) (ze.v x0).2.2)) (List.take (Int.toNat 20 - Int.toNat 0) (List.drop (Int.toNat 0) (ze.s x0))) (ze.l x0) 0 (IntKind.i64.wrap (x2 - 1)) [] else zbe g c x1 (ze.op x0) (ze.v x0).1 (ze.v x0).2.1 (ze.v x0).2.2 (ze.s x0) [] 0 0 [] [] (ze.op x0) (ze.v x0).1 (ze.v x0).2.1 (ze.v x0).2.2 (List.take (Int.toNat 20 - Int.toNat 0) (List.drop (Int.toNat 0) (ze.s x0))) (ze.l x0) 0 (IntKind.i64.wrap (x2 - 1)) [] else if decide ((↑(List.length (ze.v x0).2.2):Int) > 45)=true then zbe g c x1 (ze.op x0) (ze.v x0).1 (ze.v x0).2.1 (ze.v x0).2.2 (ze.s x0) [] 0 0 [] [] (ze.op x0) (ze.v x0).1
 (ze.v x0).2.1 (List.take (Int.toNat 45 - Int.toNat 0) (List.drop (Int.toNat 0) (ze.v x0).2.2)) (ze.s x0) (ze.l x0) 0 (IntKind.i64.wrap (x2 - 1)) [] else zbe g c x1 (ze.op x0) (ze.v x0).1 (ze.v x0).2.1 (ze.v x0).2.2 (ze.s x0) [] 0 0 [] [] (ze.op x0) (ze.v x0).1 (ze.v x0).2.1 (ze.v x0).2.2 (ze.s x0) (ze.l x0) 0 (IntKind.i64.wrap (x2 - 1)) []
def zwf (g:Sem Sh.expr→Sem zg→Sem zg→Sem Sh.expr×Sem zg) (c:Sem Sh.expr→Sem zg→Sem zg→Bool) (x0:Sem Sh.expr) (x1:Sem zg) (x2:Sem zg):Bool:=if decide ((↑(List.length (ze.op x0)):Int) > 8)=true then if (decide (0≤0)&&decide (0≤8)&&decide (8≤(↑(List.length (ze.op x0)):Int)))=true then if decide ((↑(List.length (ze.s x0)):Int) > 20)=true then if (decide (0≤0)&&decide (0≤20)&&decide (20≤(↑(List.length (ze.s x0)):Int)))=true then if decide ((↑(List.length (ze.v x0).2.2):Int) > 45)=true then if (decide (0≤0)&&decide (0≤45)&&decide (45≤(↑(List.length (ze.v x0).2.2):Int)))=true then zbM g c x1 (ze.op x0) (ze.v x0).1 (ze.v x0).2.1 (ze.v x0).2.2 (ze.s x0) [] 0 0 [] [] (List.take (Int.toNat 8 - Int.toNat 0) (List.drop (Int.toNat 0) (ze.op x0))) (ze.v x0).1 (ze.v x0).2.1 (List.take (Int.toNat 45 - Int.toNat 0) (List.drop (Int.toNat 0) (ze.v x0).2.2)) (List.take (Int.toNat 20 - Int.toNat 0) (List.drop (Int.toNat 0) (ze.s x0))) (ze.l x0) 0 (IntKind.i64.wrap (x2 - 1)) [] else false else zbM g c x1 (ze.op x0) (ze.v x0).1 (ze.v x0).2.1 (ze.v x0).2.2 (ze.s x0) [] 0 0 [] [] (List.take (Int.toNat 8 - Int.toNat 0) (List.drop (Int.toNat 0) (ze.op x0))) (ze.v x0).1 (ze.v x0).2.1 (ze.v x0).2.2
 (List.take (Int.toNat 20 - Int.toNat 0) (List.drop (Int.toNat 0) (ze.s x0))) (ze.l x0) 0 (IntKind.i64.wrap (x2 - 1)) [] else false else if decide ((↑(List.length (ze.v x0).2.2):Int) > 45)=true then if (decide (0≤0)&&decide (0≤45)&&decide (45≤(↑(List.length (ze.v x0).2.2):Int)))=true then zbM g c x1 (ze.op x0) (ze.v x0).1 (ze.v x0).2.1 (ze.v x0).2.2 (ze.s x0) [] 0 0 [] [] (List.take (Int.toNat 8 - Int.toNat 0) (List.drop (Int.toNat 0) (ze.op x0))) (ze.v x0).1 (ze.v x0).2.1 (List.take (Int.toNat 45 - Int.toNat 0) (List.drop (Int.toNat 0) (ze.v x0).2.2)) (ze.s x0) (ze.l x0) 0 (IntKind.i64.wrap (x2 - 1)) [] else false else zbM g c x1 (ze.op x0) (ze.v x0).1 (ze.v x0).2.1 (ze.v x0).2.2 (ze.s x0) [] 0 0 [] [] (List.take (Int.toNat 8 - Int.toNat 0) (List.drop (Int.toNat 0) (ze.op x0))) (ze.v x0).1 (ze.v x0).2.1 (ze.v x0).2.2 (ze.s x0) (ze.l x0) 0 (IntKind.i64.wrap (x2 - 1)) [] else false else if decide ((↑(List.length (ze.s x0)):Int) > 20)=true then if (decide (0≤0)&&decide (0≤20)&&decide (20≤(↑(List.length (ze.s x0)):Int)))=true then if decide ((↑(List.length (ze.v x0).2.2):Int) > 45)=true then if (decide (0≤0)&&decide (0≤45)&&decide (45≤(↑(List.length (ze.v x0).2.2):Int)))=true then zbM g c x1 (ze.op x0) (ze.v x0).1 (ze.v x0).2.1 (ze.v x0).2.2 (ze.s x0) [] 0 0 [] [] (ze.op x0) (ze.v x0).1
 (ze.v x0).2.1 (List.take (Int.toNat 45 - Int.toNat 0) (List.drop (Int.toNat 0) (ze.v x0).2.2)) (List.take (Int.toNat 20 - Int.toNat 0) (List.drop (Int.toNat 0) (ze.s x0))) (ze.l x0) 0 (IntKind.i64.wrap (x2 - 1)) [] else false else zbM g c x1 (ze.op x0) (ze.v x0).1 (ze.v x0).2.1 (ze.v x0).2.2 (ze.s x0) [] 0 0 [] [] (ze.op x0) (ze.v x0).1 (ze.v x0).2.1 (ze.v x0).2.2 (List.take (Int.toNat 20 - Int.toNat 0) (List.drop (Int.toNat 0) (ze.s x0))) (ze.l x0) 0 (IntKind.i64.wrap (x2 - 1)) [] else false else if decide ((↑(List.length (ze.v x0).2.2):Int) > 45)=true then if (decide (0≤0)&&decide (0≤45)&&decide (45≤(↑(List.length (ze.v x0).2.2):Int)))=true then zbM g c x1 (ze.op x0) (ze.v x0).1 (ze.v x0).2.1 (ze.v x0).2.2 (ze.s x0) [] 0 0 [] [] (ze.op x0) (ze.v x0).1 (ze.v x0).2.1 (List.take (Int.toNat 45 - Int.toNat 0) (List.drop (Int.toNat 0) (ze.v x0).2.2)) (ze.s x0) (ze.l x0) 0 (IntKind.i64.wrap (x2 - 1)) [] else false else zbM g c x1 (ze.op x0) (ze.v x0).1 (ze.v x0).2.1 (ze.v x0).2.2 (ze.s x0) [] 0 0 [] [] (ze.op x0) (ze.v x0).1 (ze.v x0).2.1 (ze.v x0).2.2 (ze.s x0) (ze.l x0) 0 (IntKind.i64.wrap (x2 - 1)) []
def zWB (g:Sem Sh.expr→Sem zg→Sem zg→Sem Sh.expr×Sem zg) (c:Sem Sh.expr→Sem zg→Sem zg→Bool):zJ:=zG [Sh.expr,zg,zg] [Sh.expr,zg] (fun x=>zwf g c x.1 x.2.1 x.2.2.1) fun x=>((zv1 g c x.1 x.2.1 x.2.2.1).1,(zv1 g c x.1 x.2.1 x.2.2.1).2,())
theorem zMT (g:Sem Sh.expr→Sem zg→Sem zg→Sem Sh.expr×Sem zg) (c:Sem Sh.expr→Sem zg→Sem zg→Bool) (hg:FOk zbg.P zbg.gl 57 (zG [Sh.expr,zg,zg] [Sh.expr,zg] (fun x=>c x.1 x.2.1 x.2.2.1) fun x=>((g x.1 x.2.1 x.2.2.1).1,(g x.1 x.2.1 x.2.2.1).2,()))):FOk (zum g c).P (zum g c).gl 57 (zWB g c):=by
 refine zT (zrc g c) fun x hc C hC=>?_
 unfold zwf at hc
 refine zr (zrG hg) zrM (zrc g c) (fun id _=>hC id) (zSj g c x.1 x.2.1 x.2.2.1) ?_
 generalize hy:zv1 g c x.1 x.2.1 x.2.2.1=y
 unfold zv1 at hy
 try simp only [ze.eta,zw]
 repeat' (first | with_reducible refine obr hy hc (fun _ hy hc=>?_) (fun _ hy hc=>?_) | with_reducible refine zay hy (fun _ hy=>?_) (fun _ hy=>?_) | with_reducible refine zaZ hc (fun hc=>?_) | with_reducible refine zy ?_)
 all_goals (subst hy; first | (change Reach _ _ _ _ _ _; apply zCW g c hg hC <;> first | assumption | exact hc) | rfl)
mutual
def zgt:Nat→Sem Sh.expr→Sem zg→Sem zg→Sem Sh.expr×Sem zg
 | 0=>fun _ _ _=>default
 | n+1=>zv1 (zgt n) (zle n)
def zle:Nat→Sem Sh.expr→Sem zg→Sem zg→Bool
 | 0=>fun _ _ _=>false
 | n+1=>zwf (zgt n) (zle n)
end
theorem zEm:∀ n,FOk zbg.P zbg.gl 57 (zG [Sh.expr,zg,zg] [Sh.expr,zg] (fun x=>zle n x.1 x.2.1 x.2.2.1) fun x=>((zgt n x.1 x.2.1 x.2.2.1).1,(zgt n x.1 x.2.1 x.2.2.1).2,()))
 | 0=>zdK ⟨Tryz.f57,(zrc default default).1,(zrc default default).2.1,(zrc default default).2.2.1⟩ (fun _=>rfl)
 | n+1=>zMT (zgt n) (zle n) (zEm n)
def F15:zJ:=zG [Sh.expr,zg,zg] [Sh.expr,zg] (fun x=>zle 16 x.1 x.2.1 x.2.2.1) fun x=>((zgt 16 x.1 x.2.1 x.2.2.1).1,(zgt 16 x.1 x.2.1 x.2.2.1).2,())
theorem zVo:FOk zbg.P zbg.gl 57 F15:=zEm 16

def eqL (g:ze→ze→Bool):List ze→List ze→Bool
 | x::r,y::s=>if (!g x y)=true then false else eqL g r s
 | _,_=>true
def zIi (g c:ze→ze→Bool):List ze→List ze→Bool
 | x::r,y::s=>if c x y=true then (if (!g x y)=true then true else zIi g c r s) else false
 | _,_=>true

noncomputable def zzf (g c:ze→ze→Bool):Env:=zbg.add 87 (zG [.expr,.expr] [.bool] (fun x=>c x.1 x.2.1) (fun x=>(g x.1 x.2.1,())))
theorem zqt {g c:ze→ze→Bool} (hg:FOk zbg.P zbg.gl 87 (zG [.expr,.expr] [.bool] (fun x=>c x.1 x.2.1) (fun x=>(g x.1 x.2.1,())))):zi (zzf g c):=zjg.add hg
theorem zqh {g c:ze→ze→Bool}:(zzf g c).P.follows .mixedOrders=true:=zm zjD _ _
abbrev zVR:Nat→zQ:=fun j=>if j=4 then { slots:=[1,2,15,16,17] } else { }
abbrev zAE (l1:List ze) (l15:List ze) (i16:Int) (i17:Int):St:={ tmps:=[ny,AV.sl Sh.expr l1,AV.clo (Fn.func 87) [] [],ny,ny,ny,ny,ny,ny,ny,ny,ny,ny,ny,ny,AV.sl Sh.expr l15,ai i16,ai i17,ny,ny,ny,ny,ny,ny,ny,ny,ny,ny,ny,ny,ny,ny],heap:=[] }
theorem zIf (g c:ze→ze→Bool):zF (zzf g c).P 140 Tryz.f140 3:=by refine ⟨?_,?_,?_,?_⟩ <;> kernel_rfl
theorem zXs (g c:ze→ze→Bool) (l:List ze) (m:List ze):run (zzf g c) 0 zVR (Func.results Tryz.f140).toList 400 (zq Tryz.f140) (zp (Func.ntmps Tryz.f140) [AV.sl Sh.expr l,AV.sl Sh.expr m,AV.clo (Fn.func 87) [] []] [])=Tr.br ((↑l.length:Int) != (↑m.length:Int)) (Tr.ok (zD.ret (AV.kb false) [])) (Tr.ok (zD.head 4 (zA Tryz.f140 4) (zAE m l (↑l.length:Int) 0))):=by kernel_rfl
theorem zFe (g c:ze→ze→Bool) (l1:List ze) (l15:List ze) (i16:Int) (i17:Int):run (zzf g c) 0 zVR (Func.results Tryz.f140).toList 400 (zA Tryz.f140 4) (zAE l1 l15 i16 i17)=Tr.br (decide (i17 < i16)) (Tr.chk (inB i17 l15.length) (Tr.chk (inB i17 l1.length) (Tr.chk (c (zz (l15.getD i17.toNat (zl Sh.expr))) (zz (l1.getD i17.toNat (zl Sh.expr)))) (Tr.br (!g (zz (l15.getD i17.toNat (zl Sh.expr))) (zz (l1.getD i17.toNat (zl Sh.expr)))) (Tr.ok (zD.ret (AV.kb false) [])) (Tr.ok (zD.head 4 (zA Tryz.f140 4) (zAE l1 l15 i16 (IntKind.i64.wrap (i17+1))))))))) (Tr.ok (zD.ret (AV.kb true) [])):=by kernel_rfl

theorem zXp {g c:ze→ze→Bool} (hg:FOk zbg.P zbg.gl 87 (zG [.expr,.expr] [.bool] (fun x=>c x.1 x.2.1) (fun x=>(g x.1 x.2.1,())))) {C:Ctx} (hC:∀ id,0≤id→C.ρ0 id=none) (l m:List ze) (hlm:l.length=m.length) (hl:l.length≤zI):
  ∀ (k i:Nat),l.length - i=k→i≤l.length→zIi g c (l.drop i) (m.drop i)=true→Reach (zzf g c) C 140 (zA Tryz.f140 4) (zAE m l l.length i) (fun r h=>(r,h)=(.kb (eqL g (l.drop i) (m.drop i)),[])):=by
 intro k
 induction k with
 | zero=>
  intro i hk hi hc
  obtain rfl:i=l.length:=by omega
  refine zr (zqt hg) zqh (zIf g c) hC (zFe g c _ _ _ _) ?_
  simp only [zP,Tr.val_brF,List.drop_length]
  rfl
 | succ k IH=>
  intro i hk hi hc
  have hlt:i < l.length:=by omega
  have hlt':i < m.length:=by omega
  refine zr (zqt hg) zqh (zIf g c) hC (zFe g c _ _ _ _) ?_
  rw [List.drop_eq_getElem_cons hlt,List.drop_eq_getElem_cons hlt'] at hc ⊢
  rw [zIi] at hc
  have hc1:=zjV hc
  simp only [zV hlt,zK hlt,zK hlt',zaD l _ hlt,zaD m _ hlt',ze.eta,Tr.val_brT,Tr.val_chkT,hc1.1,zH i (by omega)]
  refine zhu (fun h=>?_) (fun h=>?_)
  ·rw [eqL,if_pos h]; rfl
  ·rw [eqL,if_neg (zhb h)]
   have h2:=hc1.2
   rw [if_neg (zhb h)] at h2
   exact IH (i+1) (by omega) (by omega) h2

def zG4 (g:ze→ze→Bool) (l m:List ze):Bool:=if ((↑l.length:Int) != (↑m.length:Int))=true then false else eqL g l m
def ztC (g c:ze→ze→Bool) (l m:List ze):Bool:=if ((↑l.length:Int) != (↑m.length:Int))=true then true else zIi g c l m
def G50 (g c:ze→ze→Bool):zdS [some (.sl .expr),some (.sl .expr),none]:=fun x h=>match x,h with
 | (l,m,.clo (.func 87) [] [],_),[]=>.chk (ztC g c l m) (.ok (.bool (zG4 g l m),[]))
 | _,_=>.err
def F50 (g c:ze→ze→Bool):zJ:=zai [some (.sl .expr),some (.sl .expr),none] (G50 g c)

theorem Reach.weaken {E:Env} {C:Ctx} {fn:FuncId} {todo:List Item} {st:St} {Q Q':AV→List AO→Prop} (h:Reach E C fn todo st Q) (hq:∀ r h,Q r h→∃ r',Q' r' h∧∀ w U ρ v,Rv w U ρ r v→Rv w U ρ r' v):Reach E C fn todo st Q':=by
 intro b cs a w U ρ h1 h2 hc hW
 obtain ⟨e,w',fr,⟨v,r,h',U',ρ',he,hq1,hrv,hrest⟩,hcm⟩:=h b cs a w U ρ h1 h2 hc hW
 obtain ⟨r',hq2,hrr⟩:=hq r h' hq1
 exact ⟨e,w',fr,⟨v,r',h',U',ρ',he,hq2,hrr _ _ _ _ hrv,hrest⟩,hcm⟩

theorem zQl {g c:ze→ze→Bool} (hg:FOk zbg.P zbg.gl 87 (zG [.expr,.expr] [.bool] (fun x=>c x.1 x.2.1) (fun x=>(g x.1 x.2.1,())))):FOk zbg.P zbg.gl 140 (F50 g c):=by
 refine zbC (E:=zzf g c) (zIf g c) fun x h0 res hx C hC=>?_
 unfold G50 at hx
 split at hx
 ·rename_i l m u
  simp only [Tr.val] at hx
  split at hx
  ·rename_i hc
   simp only [Option.some.injEq] at hx
   subst hx
   refine Reach.len 0 .expr l rfl fun hl=>?_
   refine Reach.weaken (Q:=fun r h=>(r,h)=(.kb (zG4 g l m),[])) ?_ ?_
   ·refine zr (n0:=0) (zqt hg) zqh (zIf g c) hC (zXs g c l m) ?_
    unfold ztC at hc
    unfold zG4
    refine zhu (fun h=>?_) (fun h=>?_)
    ·rw [if_pos h]; rfl
    ·rw [if_neg (zhb h)] at hc ⊢
     have:(l.length:Int)=m.length:=by simpa using h
     have:l.length=m.length:=by omega
     exact zXp hg hC l m this hl _ 0 rfl (Nat.zero_le _) hc
   ·rintro r h hq
    cases hq
    refine ⟨_,rfl,fun w U ρ v hv=>?_⟩
    cases hv
    exact .bool _
  ·simp at hx
 ·simp at hx

noncomputable def zEa (g c:ze→ze→Bool):Env:=zbg.add 140 (F50 g c)
theorem zGj {g c:ze→ze→Bool} (hg:FOk zbg.P zbg.gl 87 (zG [.expr,.expr] [.bool] (fun x=>c x.1 x.2.1) (fun x=>(g x.1 x.2.1,())))):zi (zEa g c):=zjg.add (zQl hg)
theorem zFK {g c:ze→ze→Bool}:(zEa g c).P.follows .mixedOrders=true:=zm zjD _ _
def eqV (a b:V):Bool:=a.1==b.1&&(a.2.1==b.2.1&&(a.2.2==b.2.2&&true))
def zxO (g:ze→ze→Bool) (a b:ze):Bool:=bif a.op==b.op then bif eqV a.v b.v then bif a.s==b.s then zG4 g a.l b.l else false else false else false
def zvp (g c:ze→ze→Bool) (a b:ze):Bool:=bif a.op==b.op then bif eqV a.v b.v then bif a.s==b.s then ztC g c a.l b.l else true else true else true
theorem zEo (g c:ze→ze→Bool):zF (zEa g c).P 87 Tryz.f87 2:=by refine ⟨?_,?_,?_,?_⟩ <;> kernel_rfl
theorem zW2 (g c:ze→ze→Bool) (l:ze) (m:ze):run (zEa g c) 0 (fun _=>{}) (Func.results Tryz.f87).toList 400 (zq Tryz.f87) (zp (Func.ntmps Tryz.f87) [zx Sh.expr l,zx Sh.expr m] [])=Tr.chk (zvp g c l m) (Tr.ok (zD.ret (AV.bool (zxO g l m)) [])):=by kernel_rfl
theorem zMt {g c:ze→ze→Bool} (hg:FOk zbg.P zbg.gl 87 (zG [.expr,.expr] [.bool] (fun x=>c x.1 x.2.1) (fun x=>(g x.1 x.2.1,())))):FOk zbg.P zbg.gl 87 (zG [.expr,.expr] [.bool] (fun x=>zvp g c x.1 x.2.1) (fun x=>(zxO g x.1 x.2.1,()))):=by
 refine zT (E:=zEa g c) (zEo g c) fun x hx C hC=>?_
 refine zr (n0:=0) (zGj hg) zFK (zEo g c) (fun id _=>hC id) (zW2 g c x.1 x.2.1) ?_
 exact zhn hx rfl
mutual
def zgn:Nat→ze→ze→Bool
 | 0=>fun _ _=>false
 | n+1=>zxO (zgn n)
def zhD:Nat→ze→ze→Bool
 | 0=>fun _ _=>false
 | n+1=>zvp (zgn n) (zhD n)
end
theorem zEZ:∀ n,FOk zbg.P zbg.gl 87 (zG [.expr,.expr] [.bool] (fun x=>zhD n x.1 x.2.1) (fun x=>(zgn n x.1 x.2.1,())))
 | 0=>zdK ⟨Tryz.f87,(zEo (fun _ _=>false) (fun _ _=>false)).1,(zEo (fun _ _=>false) (fun _ _=>false)).2.1,(zEo (fun _ _=>false) (fun _ _=>false)).2.2.1⟩ (fun _=>rfl)
 | n+1=>zMt (zEZ n)
def F29:zJ:=zG [.expr,.expr] [.bool] (fun x=>zhD 16 x.1 x.2.1) (fun x=>(zgn 16 x.1 x.2.1,()))
theorem zSP:FOk zbg.P zbg.gl 87 F29:=zEZ 16

noncomputable def zd4:Env:=((zbg.add 57 F15).add 87 F29)
theorem zsq:zi zd4:=(zi.addS (zi.addS zjg (zB.refl zbg) zVo) ((zB.refl zbg).add _ _) zSP)
theorem zsU:zd4.P.follows .mixedOrders=true:=(zm (zm zjD _ _) _ _)
end Cad
