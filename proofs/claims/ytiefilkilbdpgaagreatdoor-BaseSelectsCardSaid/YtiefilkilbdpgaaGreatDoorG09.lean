/- The library's functions. Functions from plain data to plain data, where a guard holds; recursion. Values: what may be. Values: what they say. Loops; values in order. Values: order, equal, sums. Values: less; bounded ones. Bounded rows, bounded columns. What is total; lists of types. Names, places. Names, types. Expressions: their types. Expressions: bounded ones; the same ones. -/
import Derived.Test.YtiefilkilbdpgaaGreatDoorG07
import Derived.Test.YtiefilkilbdpgaaGreatDoorG08
import Derived.Test.YtiefilkilbdpgaaGreatDoorG06
namespace Cad
open Go Go.Proofs Go.RowKit Go.Lib
open Int (toNat)
open List (length)

theorem iI.below {w w':World} (h:Below w.heap.size w w'):iI w w':=
 ⟨h.size,h.os,h.output,h.tape,fun a ha=>yW (h.block a.block ha)⟩

theorem ex {E:ba} {C:bW} {w w':World} {U:Nat→Prop} {r:AV} {v:Value} {h0:List AO} {ρ:Nat→Option Value} (hH:fK C w U ρ (fun j=>h0.getD j .dead)) (hnew:∀ id,h0.length≤id→ρ id=none)
  (hr0:∀ id v,C.ρ0 id=some v→ρ id=some v) (hW:Wd E.gl C w U) (hb:Below w.heap.size w w') (hr:Rv w' U ρ r v):F4 E C (fun r' h=>(r',h)=(r,h0)) (.returned v) w':=by
 have hk:∀ b,b < w.heap.size→w'.heap[b]?=w.heap[b]?:=hb.block
 refine ⟨v,r,h0,U,ρ,rfl,rfl,hr,⟨fun id=>?_,hH.inj,hH.blk⟩,hnew,hr0,⟨hW.ext.trans (iI.below hb),fun b hb' hn=>?_,fun b hu=>j9 (hW.ub b hu) hb.size,hW.u1,hW.u2,fun g=>?_⟩⟩
 ·exact (hH.ob id).mono hb.size (fun b hb' _=>hk b hb') (fun _ _ h=>h) (fun _ _ h=>h) (fun b ho=>⟨hk b ((hH.ob id).inU ho).2,((hH.ob id).inU ho).1⟩)
 ·rw [hk b (j9 hb' hW.ext.sz)]; exact hW.same b hb' hn
 ·exact (hW.gl g).mono hb.size (fun b hb' _=>hk b hb') (fun _ _ h=>h) (fun _ _ h=>h)

noncomputable def Qz:ba:=E7.aut 172 Tryz.f172 1
theorem Yi:zz E7.P 172 Tryz.f172 1:=aG (by kernel_rfl)
theorem GP:zm Qz:=gA Au Yi

def Ia (c:Int):Bool:=bif decide (c < 32) then true else decide (c > 126)

theorem zau (c:Int):((zP (List.replicate 1 none) (bA E7 Tryz.f172 (List.replicate 1 none))) [.int .i32 c] (fun _=>.dead) 0).val=some { val:=.bool (Ia c) }:=by kernel_rfl

theorem So (w:World) (U:Nat→Prop) (hgl:uy E7.gl w U) (hub:∀ b,U b→b < w.heap.size):PredGrows Tryz.prog 172 #[] (fun r=>Ia r) w:=by
 intro W x hx hB
 have hF:FK 172 (zP (List.replicate 1 none) (bA E7 Tryz.f172 (List.replicate 1 none))):=zY _ Au Yi
 have hr:bY W U (fun _=>none) [.int .i32 (x:Int)] [.int .i32 (x:Int)]:=by
  refine ⟨rfl,fun j c v hc hv=>?_⟩
  cases j with
  | zero=>
   simp at hc hv; subst hc; subst hv
   refine .int _ _ ⟨?_,?_⟩
   ·show (-2147483648:Int)≤x; omega
   ·show (x:Int)≤2147483647; omega
  | succ j=>simp at hc
 have:=(hF.calls W U (fun _=>none) (fun _=>.dead) 0 [.int .i32 (x:Int)] [.int .i32 (x:Int)] _ [] (zau x) hr (fun b hb=>j9 (hub b hb) hB.size) (fun g=>(hgl g).mono hB.size (fun b hb _=>hB.block b hb) (fun _ _ h=>h) (fun _ _ h=>h)) ⟨by simp,by simp⟩ (by simp [AV.idsL,AV.ids]) (by simp) (by simp)).1
 refine this.mono ?_
 rintro e w' ⟨v,U',ρ',rfl,hef⟩
 have hv:=hef.val
 cases hv
 exact ⟨rfl,⟨hef.ext.os,hef.ext.tape,hef.ext.out,hef.ext.sz,fun b hb=>hef.same b hb (by simp)⟩⟩

def wy (s:zn):Int:=Lib.idxFunc (fun r=>Ia r) true ⟨s.toArray⟩

def ZP:b7 [some .str,none]:=fun x h=>match x,h with
 | (s,.clo (.func 172) [] [],_),[]=>.ok (.int .i64 (wy s),[])
 | _,_=>.err

theorem Z9:Go.Proofs.Enters Tryz.prog 172:=by
  cases hb:Tryz.f172.body with
  | none => have:Tryz.f172.body.isNone=false:=by kernel_rfl
            rw [hb] at this; cases this
  | some c=>exact Go.Proofs.enters_of (fn:=Tryz.f172) (by kernel_rfl) (by kernel_rfl) hb

theorem UG:FK 173 (zP [some .str,none] ZP):=by
 refine eB (E:=Qz) ⟨Tryz.f173,by kernel_rfl,by kernel_rfl,by kernel_rfl⟩ fun x h0 res hx=>?_
 unfold ZP at hx
 split at hx
 ·rename_i s u
  simp only [Tr.val_ok,zZ] at hx
  subst hx
  intro C w U ρ vals _ hr hH hnew hr0 hW
  have hl:=hr.len
  match vals,hl,hr with
  | [v1,v2],_,hr=>
   have h1:=hr.rv 0 (.str s) v1 rfl rfl
   have h2:=hr.rv 1 (.clo (.func 172) [] []) v2 rfl rfl
   cases h1 with
   | str _ hs=>
   cases h2 with
   | clo _ _ _ vf vc hf hc _ _=>
   have hf':vf=[]:=yV hf.symm
   have hc':vc=[]:=yV hc.symm
   subst hf'; subst hc'
   have:=Tryz.strings_IndexFunc_grows 172 #[] Z9 (fun r=>Ia r) ⟨s.toArray⟩ w (So w U hW.gl hW.ub)
   refine this.mono ?_
   rintro e w' ⟨rfl,hb⟩
   refine ex hH hnew hr0 hW hb (.int _ _ ?_)
   have hrg:=Lib.idxFunc_range (fun r=>Ia r) true ⟨s.toArray⟩
   have hsz:(⟨s.toArray⟩:ByteArray).size=s.length:=by simp [ByteArray.size]
   have hm:zD=9223372036854775807:=rfl
   rw [hsz] at hrg
   change wy s=-1∨(0≤wy s∧wy s < s.length) at hrg
   refine ⟨?_,?_⟩
   ·show (-9223372036854775808:Int)≤_; omega
   ·show _≤(9223372036854775807:Int); omega
 ·simp at hx

noncomputable def nG:ba:=Qz.add 173 (zP [some .str,none] ZP)
theorem gS:zm nG:=GP.add UG
open Go

def fJ (ks outs:List Sh) (c:zw (ks.map some)→Bool) (g:zw (ks.map some)→zw (outs.map some)):b7 (ks.map some):=fun x h=>match h with
 | []=>.chk (c x) (.ok (qo outs (g x),[]))
 | _=>.err

def zA (ks outs:List Sh) (c:zw (ks.map some)→Bool) (g:zw (ks.map some)→zw (outs.map some)):zB:=zP (ks.map some) (fJ ks outs c g)

theorem zL {P:Program} {gl:Nat→AV} {E:ba} {k:FuncId} {f:Func} {ks outs:List Sh} {c:zw (ks.map some)→Bool} {g:zw (ks.map some)→zw (outs.map some)} (hf:zz E.P k f ks.length)
  (h:∀ x,c x=true→∀ C:bW,(∀ id,C.ρ0 id=none)→Reach E C k (ah f) (zU f.ntmps (fm (ks.map some) x) []) (fun r h=>zX h outs r=some (g x))) (qp:E.P=P:=by rfl) (qg:E.gl=gl:=by rfl):kx P gl k (zA ks outs c g):=by
 subst qp qg
 refine bb (by simpa using hf) fun x h0 res hx C hC=>?_
 unfold fJ at hx
 split at hx
 ·simp only [Tr.val] at hx
  split at hx
  ·rename_i hc
   simp only [zZ] at hx
   subst hx
   exact Reach.plain (fun id=>hC id (by simp)) (h x hc C (fun id=>hC id (by simp)))
  ·simp at hx
 ·simp at hx

theorem wS {P:Program} {gl:Nat→AV} {k:FuncId} {kinds:List (Option Sh)} {ι:Type} [Nonempty ι] {G:b7 kinds} {Gs:ι→b7 kinds} (h:∀ i,kx P gl k (zP kinds (Gs i)))
  (hg:∀ x h0 res,(G x h0).val=some res→∃ i,(Gs i x h0).val=some res):kx P gl k (zP kinds G):=by
 refine ⟨(h (Classical.choice inferInstance)).fn,?_⟩
 intro w U ρ hp n args vals f fp hv
 have:∃ i,(zP kinds (Gs i) args hp n).val=some f:=by
  unfold zP at hv ⊢
  split at hv
  ·rename_i ps hps
   simp only at hv ⊢
   split at hv
   ·rename_i hcond
    split at hv
    ·rename_i xs hxs
     simp only [Tr.val_bind,dT] at hv
     obtain ⟨res,h1,h2⟩:=hv
     obtain ⟨i,hi⟩:=hg _ _ _ h1
     exact ⟨i,by simp only [hcond,if_true,Tr.val_bind,dT]; exact ⟨res,hi,h2⟩⟩
    ·simp at hv
   ·simp at hv
  ·simp at hv
 obtain ⟨i,hi⟩:=this
 exact (h i).calls w U ρ hp n args vals f fp hi

def D5 (ks outs:List Sh) (g:zw (ks.map some)→zw (outs.map some)):b7 (ks.map some):=fun x h=>match h with
 | []=>.ok (qo outs (g x),[])
 | _=>.err

def zW (ks outs:List Sh) (g:zw (ks.map some)→zw (outs.map some)):zB:=zP (ks.map some) (D5 ks outs g)

theorem Nt {P:Program} {gl:Nat→AV} {k:FuncId} {ks outs:List Sh} {g:zw (ks.map some)→zw (outs.map some)} (h:kx P gl k (zA ks outs (fun _=>true) g)):kx P gl k (zW ks outs g):=by
 refine wS (ι:=Unit) (Gs:=fun _=>fJ ks outs (fun _=>true) g) (fun _=>h) fun x h0 res hv=>⟨(),?_⟩
 unfold D5 at hv
 unfold fJ
 split at hv
 ·simpa [Tr.val] using hv
 ·simp at hv

theorem zO {P:Program} {gl:Nat→AV} {E:ba} {k:FuncId} {f:Func} {ks outs:List Sh} {g:zw (ks.map some)→zw (outs.map some)} (hf:zz E.P k f ks.length)
  (h:∀ x,∀ C:bW,(∀ id,C.ρ0 id=none)→Reach E C k (ah f) (zU f.ntmps (fm (ks.map some) x) []) (fun r h=>zX h outs r=some (g x))) (qp:E.P=P:=by rfl) (qg:E.gl=gl:=by rfl):kx P gl k (zW ks outs g):=by
 subst qp qg
 exact Nt (zL hf fun x _ C hC=>h x C hC)

def DE (outs:List Sh):zp→Option (zw (outs.map some))
 | .ret v h=>zX h outs v
 | _=>none

theorem Tr.sat_of_res {E:ba} {C:bW} {fn:FuncId} {outs:List Sh} {y:zw (outs.map some)} {t:Tr zp} (h:t.val.bind (DE outs)=some y):t.Sat (f8 E C fn (fun r h=>zX h outs r=some y)):=by
 rw [dT] at h
 obtain ⟨l,h1,h2⟩:=h
 refine Tr.sat_of_val h1 ?_
 cases l with
 | ret v h=>exact h2
 | head _ _ _=>cases h2
 | fork _ _ _ _=>cases h2

theorem aj {E:ba} {C:bW} {k:FuncId} {f:Func} {outs:List Sh} {y:zw (outs.map some)} {n n0:Nat} (hE:zm E) (hf:zz E.P k f n) (hC:∀ id,n0≤id→C.ρ0 id=none) {keep:Nat→zS} {fuel:Nat}
  {todo:List Item} {st:St} {t:Tr zp} (ht:run E n0 keep f.results.toList fuel todo st=t) (h:t.val.bind (DE outs)=some y):Reach E C k todo st (fun r h=>zX h outs r=some y):=by
 refine cd hE hf hC keep fuel ?_
 rw [ht]
 exact Tr.sat_of_res h

theorem ze.eta:∀ e:ze,ze.mk e.op e.v e.s e.l=e
 | .mk _ _ _ _=>rfl

structure yR (E E0:ba):Prop where
 p:E.P=E0.P
 g:E.gl=E0.gl

theorem yR.refl (E:ba):yR E E:=⟨rfl,rfl⟩
theorem yR.add {E E0:ba} (h:yR E E0) (k:FuncId) (F:zB):yR (E.add k F) E0:=⟨h.p,h.g⟩
abbrev zC (e:ze):ze:=.mk e.op e.v e.s e.l
theorem zt (e:ze):zC e=e:=ze.eta e
open Go Go.Proofs
abbrev TS:=Sem Sh.str
abbrev LX:=List (Sem Sh.expr)
abbrev LC:=List (Sem zi)
abbrev LS:=List (Sem Sh.str)
abbrev LV:=List (Sem zf)
abbrev LI:=List (Sem zg)
abbrev LF:=List (Sem zr)

abbrev V:=Sem zf

def gP (x0:Sem zf):Sem Sh.bool:=if (x0.1==0)=true then if (x0.2.1 != 0)=true then false else x0.2.2==[] else if (x0.1==1)=true then x0.2.2==[] else if (x0.1==2)=true then bif x0.2.1==0 then bif decide ((↑(length x0.2.2):Int)≤40) then decide (wy x0.2.2 < 0) else false else false else if (x0.1==3)=true then bif x0.2.1==0 then x0.2.2==[] else bif x0.2.1==1 then x0.2.2==[] else false else false
theorem Yb:zz nG.P 94 Tryz.f94 1:=aG (by kernel_rfl)
theorem zak (x0:Sem zf):rn nG 0 (fun _=>{ }) Tryz.f94 [zy zf x0] []=Tr.br (x0.1==0) (Tr.br (x0.2.1 != 0) (Tr.ok (zp.ret (AV.kb false) [])) (Tr.ok (zp.ret (AV.bool (x0.2.2==[])) []))) (Tr.br (x0.1==1) (Tr.ok (zp.ret (AV.bool (x0.2.2==[])) [])) (Tr.br (x0.1==2) (Tr.ok (zp.ret (AV.bool (bif x0.2.1==0 then bif decide ((↑(length x0.2.2):Int)≤40) then decide (wy x0.2.2 < 0) else false else false)) [])) (Tr.br (x0.1==3) (Tr.ok (zp.ret (AV.bool (bif x0.2.1==0 then x0.2.2==[] else bif x0.2.1==1 then x0.2.2==[] else false)) [])) (Tr.ok (zp.ret (AV.kb false) []))))):=by kernel_rfl
def F21:zB:=zW [zf] [Sh.bool] fun x=>(gP x.1,())
theorem Uw:FK 94 F21:=by
 refine zO Yb fun x C hC=>?_
 refine aj gS Yb (fun id _=>hC id) (zak x.1) ?_
 simp only [Tr.val,gP]
 repeat' split
 all_goals rfl

def ar (x0:Sem zg):Sem zf:=if (x0==0)=true then (0,0,[]) else (3,IntKind.i64.wrap (x0 - 1),[])
theorem YC:zz nG.P 206 Tryz.f206 1:=aG (by kernel_rfl)
theorem zaN (x0:Sem zg):rn nG 0 (fun _=>{ }) Tryz.f206 [zy zg x0] []=Tr.br (x0==0) (Tr.ok (zp.ret (AV.agg [ai 0,ai 0,AV.str []]) [])) (Tr.ok (zp.ret (AV.agg [ai 3,ai (IntKind.i64.wrap (x0 - 1)),AV.str []]) [])):=by kernel_rfl
def F57:zB:=zW [zg] [zf] fun x=>(ar x.1,())
theorem U3:FK 206 F57:=by
 refine zO YC fun x C hC=>?_
 refine aj gS YC (fun id _=>hC id) (zaN x.1) ?_
 simp only [Tr.val,ar]
 repeat' split
 all_goals rfl

noncomputable def SR:zB:=zP (List.replicate 1 none) (bA nG Tryz.f174 (List.replicate 1 none))
theorem Oz:FK 174 SR:=zY _ gS (aG (by kernel_rfl))

noncomputable def SS:zB:=zP (List.replicate 1 none) (bA nG Tryz.f175 (List.replicate 1 none))
theorem OA:FK 175 SS:=zY _ gS (aG (by kernel_rfl))

noncomputable def ST:zB:=zP (List.replicate 1 none) (bA nG Tryz.f176 (List.replicate 1 none))
theorem OB:FK 176 ST:=zY _ gS (aG (by kernel_rfl))

noncomputable def iw:=nG.addL [(94,F21),(206,F57),(174,SR),(175,SS),(176,ST)]
theorem fu:zm iw:=gS.addL <| fc Uw <| fc U3 <| fc Oz <| fc OA <| fc OB gX

def bf (x0:Sem zf):Sem zf:=if (!gP x0)=true then (0,0,[]) else x0
theorem YG:zz iw.P 95 Tryz.f95 1:=aG (by kernel_rfl)
theorem zaR (x0:Sem zf):rn iw 0 (fun _=>{ }) Tryz.f95 [zy zf x0] []=Tr.br (!gP x0) (Tr.ok (zp.ret (AV.agg [ai 0,ai 0,AV.str []]) [])) (Tr.ok (zp.ret (AV.agg [ai x0.1,ai x0.2.1,AV.str x0.2.2]) [])):=by kernel_rfl
def F61:zB:=zW [zf] [zf] fun x=>(bf x.1,())
theorem U9:FK 95 F61:=by
 refine zO YG fun x C hC=>?_
 refine aj fu YG (fun id _=>hC id) (zaR x.1) ?_
 simp only [Tr.val,bf]
 repeat' split
 all_goals rfl

def dw (x0:Sem zf):Sem zg:=if (bif x0.1 != 3 then true else !gP x0)=true then 0 else IntKind.i64.wrap (1+x0.2.1)
theorem YB:zz iw.P 205 Tryz.f205 1:=aG (by kernel_rfl)
theorem zaM (x0:Sem zf):rn iw 0 (fun _=>{ }) Tryz.f205 [zy zf x0] []=Tr.br (bif x0.1 != 3 then true else !gP x0) (Tr.ok (zp.ret (ai 0) [])) (Tr.ok (zp.ret (ai (IntKind.i64.wrap (1+x0.2.1))) [])):=by kernel_rfl
def F56:zB:=zW [zf] [zg] fun x=>(dw x.1,())
theorem U2:FK 205 F56:=by
 refine zO YB fun x C hC=>?_
 refine aj fu YB (fun id _=>hC id) (zaM x.1) ?_
 simp only [Tr.val,dw]
 repeat' split
 all_goals rfl

def cC (x0:Sem Sh.bool):Sem zf:=if x0=true then ar 2 else ar 1
theorem YE:zz iw.P 208 Tryz.f208 1:=aG (by kernel_rfl)
theorem zaP (x0:Sem Sh.bool):rn iw 0 (fun _=>{ }) Tryz.f208 [zy Sh.bool x0] []=Tr.br x0 (Tr.ok (zp.ret (AV.agg [ai (ar 2).1,ai (ar 2).2.1,AV.str (ar 2).2.2]) [])) (Tr.ok (zp.ret (AV.agg [ai (ar 1).1,ai (ar 1).2.1,AV.str (ar 1).2.2]) [])):=by kernel_rfl
def F59:zB:=zW [Sh.bool] [zf] fun x=>(cC x.1,())
theorem U5:FK 208 F59:=by
 refine zO YE fun x C hC=>?_
 refine aj fu YE (fun id _=>hC id) (zaP x.1) ?_
 simp only [Tr.val,cC]
 repeat' split
 all_goals rfl

def EN (x0:Sem zg) (x1:Sem zg):Sem zg:=if (x0 != x0)=true then if (x1 != x1)=true then 0 else -1 else if (x1 != x1)=true then 1 else if decide (x0 < x1)=true then -1 else if decide (x0 > x1)=true then 1 else 0
theorem YI:zz iw.P 97 Tryz.f97 2:=aG (by kernel_rfl)
theorem zaV (x0:Sem zg) (x1:Sem zg):rn iw 0 (fun _=>{ }) Tryz.f97 [zy zg x0,zy zg x1] []=Tr.br (x0 != x0) (Tr.br (x1 != x1) (Tr.ok (zp.ret (ai 0) [])) (Tr.ok (zp.ret (ai (-1)) []))) (Tr.br (x1 != x1) (Tr.ok (zp.ret (ai 1) [])) (Tr.br (decide (x0 < x1)) (Tr.ok (zp.ret (ai (-1)) [])) (Tr.br (decide (x0 > x1)) (Tr.ok (zp.ret (ai 1) [])) (Tr.ok (zp.ret (ai 0) []))))):=by kernel_rfl
def F71:zB:=zW [zg,zg] [zg] fun x=>(EN x.1 x.2.1,())
theorem Vi:FK 97 F71:=by
 refine zO YI fun x C hC=>?_
 refine aj fu YI (fun id _=>hC id) (zaV x.1 x.2.1) ?_
 simp only [Tr.val,EN]
 repeat' split
 all_goals rfl

def vC (x0:Sem zg) (x1:Sem zg):Sem zg:=if (x0 != x0)=true then if (x1 != x1)=true then 0 else -1 else if (x1 != x1)=true then 1 else if decide (x0 < x1)=true then -1 else if decide (x0 > x1)=true then 1 else 0
theorem YJ:zz iw.P 98 Tryz.f98 2:=aG (by kernel_rfl)
theorem zaW (x0:Sem zg) (x1:Sem zg):rn iw 0 (fun _=>{ }) Tryz.f98 [zy zg x0,zy zg x1] []=Tr.br (x0 != x0) (Tr.br (x1 != x1) (Tr.ok (zp.ret (ai 0) [])) (Tr.ok (zp.ret (ai (-1)) []))) (Tr.br (x1 != x1) (Tr.ok (zp.ret (ai 1) [])) (Tr.br (decide (x0 < x1)) (Tr.ok (zp.ret (ai (-1)) [])) (Tr.br (decide (x0 > x1)) (Tr.ok (zp.ret (ai 1) [])) (Tr.ok (zp.ret (ai 0) []))))):=by kernel_rfl
def F72:zB:=zW [zg,zg] [zg] fun x=>(vC x.1 x.2.1,())
theorem Vj:FK 98 F72:=by
 refine zO YJ fun x C hC=>?_
 refine aj fu YJ (fun id _=>hC id) (zaW x.1 x.2.1) ?_
 simp only [Tr.val,vC]
 repeat' split
 all_goals rfl

def w8 (x0:Sem Sh.str) (x1:Sem Sh.str):Sem zg:=if (!x0==x0)=true then if (!x1==x1)=true then 0 else -1 else if (!x1==x1)=true then 1 else if Op.bytesLess x0 x1=true then -1 else if (!(Op.bytesLess x0 x1||x0==x1))=true then 1 else 0
theorem YK:zz iw.P 99 Tryz.f99 2:=aG (by kernel_rfl)
theorem zaX (x0:Sem Sh.str) (x1:Sem Sh.str):rn iw 0 (fun _=>{ }) Tryz.f99 [zy Sh.str x0,zy Sh.str x1] []=Tr.br (!x0==x0) (Tr.br (!x1==x1) (Tr.ok (zp.ret (ai 0) [])) (Tr.ok (zp.ret (ai (-1)) []))) (Tr.br (!x1==x1) (Tr.ok (zp.ret (ai 1) [])) (Tr.br (Op.bytesLess x0 x1) (Tr.ok (zp.ret (ai (-1)) [])) (Tr.br (!(Op.bytesLess x0 x1||x0==x1)) (Tr.ok (zp.ret (ai 1) [])) (Tr.ok (zp.ret (ai 0) []))))):=by kernel_rfl
def F73:zB:=zW [Sh.str,Sh.str] [zg] fun x=>(w8 x.1 x.2.1,())
theorem Vk:FK 99 F73:=by
 refine zO YK fun x C hC=>?_
 refine aj fu YK (fun id _=>hC id) (zaX x.1 x.2.1) ?_
 simp only [Tr.val,w8]
 repeat' split
 all_goals rfl

noncomputable def gv:=iw.addL [(95,F61),(205,F56),(208,F59),(97,F71),(98,F72),(99,F73)]
theorem di:zm gv:=fu.addL <| fc U9 <| fc U2 <| fc U5 <| fc Vi <| fc Vj <| fc Vk gX

theorem tU {E:ba} {C:bW} {k:FuncId} {f:Func} {Q:AV→List AO→Prop} {n n0:Nat} (hE:zm E) (hf:zz E.P k f n) (hC:∀ id,n0≤id→C.ρ0 id=none) {keep:Nat→zS} {fuel:Nat}
  {todo:List Item} {st:St} {t:Tr zp} {l:zp} (ht:run E n0 keep f.results.toList fuel todo st=t) (h:t.val=some l) (hl:f8 E C k Q l):Reach E C k todo st Q:=
 cd hE hf hC keep fuel (by rw [ht]; exact Tr.sat_of_val h hl)

def ed {α:Type} (Φ:α→Prop):Option α→Prop
 | some a=>Φ a
 | none=>False

theorem zk {E:ba} {C:bW} {k:FuncId} {f:Func} {Q:AV→List AO→Prop} {n n0:Nat} (hE:zm E) (hf:zz E.P k f n) (hC:∀ id,n0≤id→C.ρ0 id=none) {keep:Nat→zS} {fuel:Nat}
  {todo:List Item} {st:St} {t:Tr zp} (ht:run E n0 keep f.results.toList fuel todo st=t) (h:ed (f8 E C k Q) t.val):Reach E C k todo st Q:=by
 cases hv:t.val with
 | none=>rw [hv] at h; exact h.elim
 | some l=>rw [hv] at h; exact tU hE hf hC ht hv h

def AI {α β R:Type} (f:β→Nat→α→β ⊕ R) (fin:β→R):List α→Nat→β→R
 | [],_,b=>fin b
 | x::r,i,b=>match f b i x with
  | .inl b'=>AI f fin r (i+1) b'
  | .inr y=>y

def KL {E:ba} {C:bW} {k:FuncId} {K:List Item} {β R:Type} (st:β→Nat→St) (Q:R→AV→List AO→Prop) (b:β) (i:Nat):β ⊕ R→Prop
 | .inl b'=>∀ q,Reach E C k K (st b' (i+1)) q→Reach E C k K (st b i) q
 | .inr y=>Reach E C k K (st b i) (Q y)

theorem tV {E:ba} {C:bW} {k:FuncId} {K:List Item} {α β R:Type} (l:List α) (st:β→Nat→St) (f:β→Nat→α→β ⊕ R) (fin:β→R) (Q:R→AV→List AO→Prop) (I:β→Nat→Prop)
  (hstep:∀ b i (hi:i < l.length),I b i→KL (E:=E) (C:=C) (k:=k) (K:=K) st Q b i (f b i l[i])∧∀ b',f b i l[i]=.inl b'→I b' (i+1))
  (hend:∀ b,I b l.length→Reach E C k K (st b l.length) (Q (fin b))):∀ (m i:Nat) (b:β),l.length - i=m→i≤l.length→I b i→Reach E C k K (st b i) (Q (AI f fin (l.drop i) i b))
 | 0,i,b,hm,hi,hI=>by
  have:i=l.length:=by omega
  subst this
  rw [cQ]
  exact hend b hI
 | m+1,i,b,hm,hi,hI=>by
  have hlt:i < l.length:=by omega
  rw [c6 hlt]
  obtain ⟨h1,h2⟩:=hstep b i hlt hI
  simp only [AI]
  cases hf:f b i l[i] with
  | inl b'=>
   rw [hf] at h1
   exact h1 _ (tV l st f fin Q I hstep hend m (i+1) b' (by omega) (by omega) (h2 b' hf))
  | inr y=>
   rw [hf] at h1
   exact h1

theorem aH {i n:Nat} (h:i < n):decide ((i:Int) < (n:Int))=true:=by simpa using h
theorem ap (n:Nat):decide ((n:Int) < (n:Int))=false:=by simp
theorem zN {i n:Nat} (h:i < n):zH (i:Int) n=true:=by simp [zH,h]

def Oo:List Int→Int
 | []=>0
 | x::r=>if x != 0 then x else Oo r

abbrev XS:Nat→zS:=fun j=>if j=3 then { slots:=[3,6,7,8] } else { }
abbrev En (i3:Int) (l6:List (Sem zg)) (i7:Int) (i8:Int):St:={ tmps:=(tm 18 [(3,ai i3),(6,AV.sl (Sh.int IntKind.i64) l6),(7,ai i7),(8,ai i8)]),heap:=[] }
theorem Iq:zz gv.P 96 Tryz.f96 1:=aG (by kernel_rfl)
theorem zaU (k:List (Sem zg)):rn gv 0 XS Tryz.f96 [AV.sl zg k] []=Tr.ok (zp.head 3 (zx Tryz.f96 3) (En 0 k (↑k.length) 0)):=by kernel_rfl
theorem CB (i3:Int) (l6:List (Sem zg)) (i7:Int) (i8:Int):rh gv 0 XS Tryz.f96 3 (En i3 l6 i7 i8)=Tr.br (decide (i8 < i7)) (Tr.chk (zH i8 l6.length) (Tr.br (l6.getD i8.toNat (zj (Sh.int IntKind.i64)) != i3) (Tr.ok (zp.ret (ai (l6.getD i8.toNat (zj (Sh.int IntKind.i64)))) [])) (Tr.ok (zp.head 3 (zx Tryz.f96 3) (En i3 l6 i7 (IntKind.i64.wrap (i8+1))))))) (Tr.ok (zp.ret (ai i3) [])):=by kernel_rfl

def ZE:Unit→Nat→Int→Unit ⊕ Int:=fun _ _ x=>if x != 0 then .inr x else .inl ()
theorem G6:∀ (l:List Int) (i:Nat),AI ZE (fun _=>0) l i ()=Oo l
 | [],_=>rfl
 | x::r,i=>by
  simp only [AI,ZE,Oo]
  split
  ·rename_i h; split at h <;> simp_all [G6 r (i+1)]
  ·rename_i h; split at h <;> simp_all

def F70:zB:=zW [.sl zg] [zg] fun x=>(Oo x.1,())
theorem Vh:FK 96 F70:=by
 refine zO Iq fun x C hC=>?_
 obtain ⟨l,u⟩:=x
 refine Reach.len 0 zg l rfl fun hl=>?_
 refine tU di Iq (fun id _=>hC id) (zaU l) rfl ?_
 have:=tV (E:=gv) (C:=C) (k:=96) (K:=zx Tryz.f96 3) l (fun (_:Unit) i=>En 0 l l.length i) ZE (fun _=>(0:Int)) (fun y r h=>zX h [zg] r=some (y,())) (fun _ _=>True)
  (fun b i hi _=>⟨by
   unfold ZE
   split
   ·rename_i h
    refine zk di Iq (fun id _=>hC id) (CB _ _ _ _) ?_
    simp only [Tr.val,aH hi,zN hi,ag l _ hi,h,if_true]
    rfl
   ·rename_i h
    intro q hq
    refine zk di Iq (fun id _=>hC id) (CB _ _ _ _) ?_
    simp only [Tr.val,aH hi,zN hi,ag l _ hi,h,if_true,zG i (by omega)]
    exact hq,fun _ _=>trivial⟩)
  (fun b _=>by
   refine zk di Iq (fun id _=>hC id) (CB _ _ _ _) ?_
   simp only [Tr.val,ap]
   rfl) _ 0 () rfl (by omega) trivial
 rw [G6] at this
 exact this

def iU (x0:Sem zf) (x1:Sem zf):Sem Sh.bool:=bif (bf x0).1 != 0 then (bf x0).1==(bf x1).1 else false
theorem YD:zz gv.P 207 Tryz.f207 2:=aG (by kernel_rfl)
theorem zaO (x0:Sem zf) (x1:Sem zf):rn gv 0 (fun _=>{ }) Tryz.f207 [zy zf x0,zy zf x1] []=Tr.ok (zp.ret (AV.bool (bif (bf x0).1 != 0 then (bf x0).1==(bf x1).1 else false)) []):=by kernel_rfl
def F58:zB:=zW [zf,zf] [Sh.bool] fun x=>(iU x.1 x.2.1,())
theorem U4:FK 207 F58:=by
 refine zO YD fun x C hC=>?_
 refine aj di YD (fun id _=>hC id) (zaO x.1 x.2.1) ?_
 simp only [Tr.val,iU]
 repeat' split
 all_goals rfl

def Mk (x0:Sem zf) (x1:Sem zf):Sem zf:=if (bif dw x0==1 then true else dw x1==1)=true then ar 1 else if (bif dw x0==2 then dw x1==2 else false)=true then ar 2 else ar 0
theorem Yj:zz gv.P 138 Tryz.f138 2:=aG (by kernel_rfl)
theorem zaw (x0:Sem zf) (x1:Sem zf):rn gv 0 (fun _=>{ }) Tryz.f138 [zy zf x0,zy zf x1] []=Tr.br (bif dw x0==1 then true else dw x1==1) (Tr.ok (zp.ret (AV.agg [ai (ar 1).1,ai (ar 1).2.1,AV.str (ar 1).2.2]) [])) (Tr.br (bif dw x0==2 then dw x1==2 else false) (Tr.ok (zp.ret (AV.agg [ai (ar 2).1,ai (ar 2).2.1,AV.str (ar 2).2.2]) [])) (Tr.ok (zp.ret (AV.agg [ai (ar 0).1,ai (ar 0).2.1,AV.str (ar 0).2.2]) []))):=by kernel_rfl
def F38:zB:=zW [zf,zf] [zf] fun x=>(Mk x.1 x.2.1,())
theorem UI:FK 138 F38:=by
 refine zO Yj fun x C hC=>?_
 refine aj di Yj (fun id _=>hC id) (zaw x.1 x.2.1) ?_
 simp only [Tr.val,Mk]
 repeat' split
 all_goals rfl

def ZI (x0:Sem zf) (x1:Sem zf):Sem zf:=if (bif dw x0==2 then true else dw x1==2)=true then ar 2 else if (bif dw x0==1 then dw x1==1 else false)=true then ar 1 else ar 0
theorem Yk:zz gv.P 139 Tryz.f139 2:=aG (by kernel_rfl)
theorem zax (x0:Sem zf) (x1:Sem zf):rn gv 0 (fun _=>{ }) Tryz.f139 [zy zf x0,zy zf x1] []=Tr.br (bif dw x0==2 then true else dw x1==2) (Tr.ok (zp.ret (AV.agg [ai (ar 2).1,ai (ar 2).2.1,AV.str (ar 2).2.2]) [])) (Tr.br (bif dw x0==1 then dw x1==1 else false) (Tr.ok (zp.ret (AV.agg [ai (ar 1).1,ai (ar 1).2.1,AV.str (ar 1).2.2]) [])) (Tr.ok (zp.ret (AV.agg [ai (ar 0).1,ai (ar 0).2.1,AV.str (ar 0).2.2]) []))):=by kernel_rfl
def F39:zB:=zW [zf,zf] [zf] fun x=>(ZI x.1 x.2.1,())
theorem UJ:FK 139 F39:=by
 refine zO Yk fun x C hC=>?_
 refine aj di Yk (fun id _=>hC id) (zax x.1 x.2.1) ?_
 simp only [Tr.val,ZI]
 repeat' split
 all_goals rfl

def FJ (x0:Sem zf):Sem zf:=if (dw x0==2)=true then ar 1 else if (dw x0==1)=true then ar 2 else ar 0
theorem Ym:zz gv.P 141 Tryz.f141 1:=aG (by kernel_rfl)
theorem zaz (x0:Sem zf):rn gv 0 (fun _=>{ }) Tryz.f141 [zy zf x0] []=Tr.br (dw x0==2) (Tr.ok (zp.ret (AV.agg [ai (ar 1).1,ai (ar 1).2.1,AV.str (ar 1).2.2]) [])) (Tr.br (dw x0==1) (Tr.ok (zp.ret (AV.agg [ai (ar 2).1,ai (ar 2).2.1,AV.str (ar 2).2.2]) [])) (Tr.ok (zp.ret (AV.agg [ai (ar 0).1,ai (ar 0).2.1,AV.str (ar 0).2.2]) []))):=by kernel_rfl
def F41:zB:=zW [zf] [zf] fun x=>(FJ x.1,())
theorem UL:FK 141 F41:=by
 refine zO Ym fun x C hC=>?_
 refine aj di Ym (fun id _=>hC id) (zaz x.1) ?_
 simp only [Tr.val,FJ]
 repeat' split
 all_goals rfl

def mb (x0:Sem zf):Sem zf:=cC ((bf x0).1==0)
theorem Yt:zz gv.P 147 Tryz.f147 1:=aG (by kernel_rfl)
theorem zaF (x0:Sem zf):rn gv 0 (fun _=>{ }) Tryz.f147 [zy zf x0] []=Tr.ok (zp.ret (AV.agg [ai (cC ((bf x0).1==0)).1,ai (cC ((bf x0).1==0)).2.1,AV.str (cC ((bf x0).1==0)).2.2]) []):=by kernel_rfl
def F47:zB:=zW [zf] [zf] fun x=>(mb x.1,())
theorem UR:FK 147 F47:=by
 refine zO Yt fun x C hC=>?_
 refine aj di Yt (fun id _=>hC id) (zaF x.1) ?_
 simp only [Tr.val,mb]
 repeat' split
 all_goals rfl

noncomputable def ix:=gv.addL [(96,F70),(207,F58),(138,F38),(139,F39),(141,F41),(147,F47)]
theorem fv:zm ix:=di.addL <| fc Vh <| fc U4 <| fc UI <| fc UJ <| fc UL <| fc UR gX

def bM (x0:Sem zf) (x1:Sem zf):Sem zg:=Oo [EN (bf x0).1 (bf x1).1,vC (bf x0).2.1 (bf x1).2.1,w8 (bf x0).2.2 (bf x1).2.2]
theorem YF:zz ix.P 58 Tryz.f58 2:=aG (by kernel_rfl)
theorem zaQ (x0:Sem zf) (x1:Sem zf):rn ix 0 (fun _=>{ }) Tryz.f58 [zy zf x0,zy zf x1] []=Tr.ok (zp.ret (AV.int IntKind.i64 (Oo [EN (bf x0).1 (bf x1).1,vC (bf x0).2.1 (bf x1).2.1,w8 (bf x0).2.2 (bf x1).2.2])) []):=by kernel_rfl
def F60:zB:=zW [zf,zf] [zg] fun x=>(bM x.1 x.2.1,())
theorem U8:FK 58 F60:=by
 refine zO YF fun x C hC=>?_
 refine aj fv YF (fun id _=>hC id) (zaQ x.1 x.2.1) ?_
 simp only [Tr.val,bM]
 repeat' split
 all_goals rfl

def yB (x0:Sem zf) (x1:Sem zf):Sem zf:=if (!iU x0 x1)=true then (0,0,[]) else cC (x0.1==x1.1&&(x0.2.1==x1.2.1&&(x0.2.2==x1.2.2&&true)))
theorem Yn:zz ix.P 142 Tryz.f142 2:=aG (by kernel_rfl)
theorem zaA (x0:Sem zf) (x1:Sem zf):rn ix 0 (fun _=>{ }) Tryz.f142 [zy zf x0,zy zf x1] []=Tr.br (!iU x0 x1) (Tr.ok (zp.ret (AV.agg [ai 0,ai 0,AV.str []]) [])) (Tr.ok (zp.ret (AV.agg [ai (cC (x0.1==x1.1&&(x0.2.1==x1.2.1&&(x0.2.2==x1.2.2&&true)))).1,ai (cC (x0.1==x1.1&&(x0.2.1==x1.2.1&&(x0.2.2==x1.2.2&&true)))).2.1,AV.str (cC (x0.1==x1.1&&(x0.2.1==x1.2.1&&(x0.2.2==x1.2.2&&true)))).2.2]) [])):=by kernel_rfl
def F42:zB:=zW [zf,zf] [zf] fun x=>(yB x.1 x.2.1,())
theorem UM:FK 142 F42:=by
 refine zO Yn fun x C hC=>?_
 refine aj fv Yn (fun id _=>hC id) (zaA x.1 x.2.1) ?_
 simp only [Tr.val,yB]
 repeat' split
 all_goals rfl

def EA (x0:Sem zf) (x1:Sem zf):Sem zf:=if (bif !iU x0 x1 then true else x0.1 != 1)=true then (0,0,[]) else if (bif decide (x1.2.1 > 0) then bif decide (IntKind.i64.wrap (x0.2.1+x1.2.1) < x0.2.1) then true else bif decide (x1.2.1 < 0) then decide (IntKind.i64.wrap (x0.2.1+x1.2.1) > x0.2.1) else false else bif decide (x1.2.1 < 0) then decide (IntKind.i64.wrap (x0.2.1+x1.2.1) > x0.2.1) else false)=true then (0,0,[]) else (1,IntKind.i64.wrap (x0.2.1+x1.2.1),[])
theorem Yq:zz ix.P 144 Tryz.f144 2:=aG (by kernel_rfl)
theorem zaC (x0:Sem zf) (x1:Sem zf):rn ix 0 (fun _=>{ }) Tryz.f144 [zy zf x0,zy zf x1] []=Tr.br (bif !iU x0 x1 then true else x0.1 != 1) (Tr.ok (zp.ret (AV.agg [ai 0,ai 0,AV.str []]) [])) (Tr.br (bif decide (x1.2.1 > 0) then bif decide (IntKind.i64.wrap (x0.2.1+x1.2.1) < x0.2.1) then true else bif decide (x1.2.1 < 0) then decide (IntKind.i64.wrap (x0.2.1+x1.2.1) > x0.2.1) else false else bif decide (x1.2.1 < 0) then decide (IntKind.i64.wrap (x0.2.1+x1.2.1) > x0.2.1) else false) (Tr.ok (zp.ret (AV.agg [ai 0,ai 0,AV.str []]) [])) (Tr.ok (zp.ret (AV.agg [ai 1,ai (IntKind.i64.wrap (x0.2.1+x1.2.1)),AV.str []]) []))):=by kernel_rfl
def F44:zB:=zW [zf,zf] [zf] fun x=>(EA x.1 x.2.1,())
theorem UO:FK 144 F44:=by
 refine zO Yq fun x C hC=>?_
 refine aj fv Yq (fun id _=>hC id) (zaC x.1 x.2.1) ?_
 simp only [Tr.val,EA]
 repeat' split
 all_goals rfl

def yC (x0:Sem zf) (x1:Sem zf):Sem zf:=if (bif !iU x0 x1 then true else x0.1 != 1)=true then (0,0,[]) else if (bif decide (x1.2.1 > 0) then bif decide (IntKind.i64.wrap (x0.2.1 - x1.2.1) > x0.2.1) then true else bif decide (x1.2.1 < 0) then decide (IntKind.i64.wrap (x0.2.1 - x1.2.1) < x0.2.1) else false else bif decide (x1.2.1 < 0) then decide (IntKind.i64.wrap (x0.2.1 - x1.2.1) < x0.2.1) else false)=true then (0,0,[]) else (1,IntKind.i64.wrap (x0.2.1 - x1.2.1),[])
theorem Yr:zz ix.P 145 Tryz.f145 2:=aG (by kernel_rfl)
theorem zaD (x0:Sem zf) (x1:Sem zf):rn ix 0 (fun _=>{ }) Tryz.f145 [zy zf x0,zy zf x1] []=Tr.br (bif !iU x0 x1 then true else x0.1 != 1) (Tr.ok (zp.ret (AV.agg [ai 0,ai 0,AV.str []]) [])) (Tr.br (bif decide (x1.2.1 > 0) then bif decide (IntKind.i64.wrap (x0.2.1 - x1.2.1) > x0.2.1) then true else bif decide (x1.2.1 < 0) then decide (IntKind.i64.wrap (x0.2.1 - x1.2.1) < x0.2.1) else false else bif decide (x1.2.1 < 0) then decide (IntKind.i64.wrap (x0.2.1 - x1.2.1) < x0.2.1) else false) (Tr.ok (zp.ret (AV.agg [ai 0,ai 0,AV.str []]) [])) (Tr.ok (zp.ret (AV.agg [ai 1,ai (IntKind.i64.wrap (x0.2.1 - x1.2.1)),AV.str []]) []))):=by kernel_rfl
def F45:zB:=zW [zf,zf] [zf] fun x=>(yC x.1 x.2.1,())
theorem UP:FK 145 F45:=by
 refine zO Yr fun x C hC=>?_
 refine aj fv Yr (fun id _=>hC id) (zaD x.1 x.2.1) ?_
 simp only [Tr.val,yC]
 repeat' split
 all_goals rfl

def Ez (x0:Sem zf) (_:Sem zf):Sem zf:=FJ x0
theorem Yl:zz ix.P 140 Tryz.f140 2:=aG (by kernel_rfl)
theorem zay (x0:Sem zf) (x1:Sem zf):rn ix 0 (fun _=>{ }) Tryz.f140 [zy zf x0,zy zf x1] []=Tr.ok (zp.ret (AV.agg [ai (FJ x0).1,ai (FJ x0).2.1,AV.str (FJ x0).2.2]) []):=by kernel_rfl
def F40:zB:=zW [zf,zf] [zf] fun x=>(Ez x.1 x.2.1,())
theorem UK:FK 140 F40:=by
 refine zO Yl fun x C hC=>?_
 refine aj fv Yl (fun id _=>hC id) (zay x.1 x.2.1) ?_
 simp only [Tr.val,Ez]
 repeat' split
 all_goals rfl

def yD (x0:Sem zf) (_:Sem zf):Sem zf:=mb x0
theorem Ys:zz ix.P 146 Tryz.f146 2:=aG (by kernel_rfl)
theorem zaE (x0:Sem zf) (x1:Sem zf):rn ix 0 (fun _=>{ }) Tryz.f146 [zy zf x0,zy zf x1] []=Tr.ok (zp.ret (AV.agg [ai (mb x0).1,ai (mb x0).2.1,AV.str (mb x0).2.2]) []):=by kernel_rfl
def F46:zB:=zW [zf,zf] [zf] fun x=>(yD x.1 x.2.1,())
theorem UQ:FK 146 F46:=by
 refine zO Ys fun x C hC=>?_
 refine aj fv Ys (fun id _=>hC id) (zaE x.1 x.2.1) ?_
 simp only [Tr.val,yD]
 repeat' split
 all_goals rfl

noncomputable def mr:=ix.addL [(58,F60),(142,F42),(144,F44),(145,F45),(140,F40),(146,F46)]
theorem gT:zm mr:=fv.addL <| fc U8 <| fc UM <| fc UO <| fc UP <| fc UK <| fc UQ gX

def Ex (x0:Sem zf) (x1:Sem zf):Sem zf:=if (!iU x0 x1)=true then (0,0,[]) else cC (decide (bM x0 x1 < 0))
theorem Yp:zz mr.P 143 Tryz.f143 2:=aG (by kernel_rfl)
theorem zaB (x0:Sem zf) (x1:Sem zf):rn mr 0 (fun _=>{ }) Tryz.f143 [zy zf x0,zy zf x1] []=Tr.br (!iU x0 x1) (Tr.ok (zp.ret (AV.agg [ai 0,ai 0,AV.str []]) [])) (Tr.ok (zp.ret (AV.agg [ai (cC (decide (bM x0 x1 < 0))).1,ai (cC (decide (bM x0 x1 < 0))).2.1,AV.str (cC (decide (bM x0 x1 < 0))).2.2]) [])):=by kernel_rfl
def F43:zB:=zW [zf,zf] [zf] fun x=>(Ex x.1 x.2.1,())
theorem UN:FK 143 F43:=by
 refine zO Yp fun x C hC=>?_
 refine aj gT Yp (fun id _=>hC id) (zaB x.1 x.2.1) ?_
 simp only [Tr.val,Ex]
 repeat' split
 all_goals rfl

def Bz (x0:Sem zf):Sem zf:=if decide ((↑(length x0.2.2):Int) > 60)=true then (x0.1,x0.2.1,List.take (toNat 60 - toNat 0) (List.drop (toNat 0) x0.2.2)) else x0
def wL (x0:Sem zf):Bool:=bif decide ((↑(length x0.2.2):Int) > 60) then decide (0≤0)&&decide (0≤60)&&decide (60≤(↑(length x0.2.2):Int)) else true
theorem X7:zz mr.P 54 Tryz.f54 1:=aG (by kernel_rfl)
theorem zag (x0:Sem zf):rn mr 0 (fun _=>{ }) Tryz.f54 [zy zf x0] []=Tr.br (decide ((↑(length x0.2.2):Int) > 60)) (Tr.chk (decide (0≤0)&&decide (0≤60)&&decide (60≤(↑(length x0.2.2):Int))) (Tr.ok (zp.ret (AV.agg [ai x0.1,ai x0.2.1,AV.str (List.take (toNat 60 - toNat 0) (List.drop (toNat 0) x0.2.2))]) []))) (Tr.ok (zp.ret (AV.agg [ai x0.1,ai x0.2.1,AV.str x0.2.2]) [])):=by kernel_rfl
def F14:zB:=zA [zf] [zf] (fun x=>wL x.1) fun x=>(Bz x.1,())
theorem Nn:FK 54 F14:=by
 refine zL X7 fun x hx C hC=>?_
 refine aj gT X7 (fun id _=>hC id) (zag x.1) ?_
 simp only [wL,Bool.cond_eq_ite] at hx
 simp only [Tr.val,Bz]
 repeat' split
 all_goals first | rfl | simp_all

def ue (x0:Sem Sh.str):Sem Sh.str:=if decide ((↑(length x0):Int) > 20)=true then List.take (toNat 20 - toNat 0) (List.drop (toNat 0) x0) else x0
def Eo (x0:Sem Sh.str):Bool:=bif decide ((↑(length x0):Int) > 20) then decide (0≤0)&&decide (0≤20)&&decide (20≤(↑(length x0):Int)) else true
theorem X6:zz mr.P 117 Tryz.f117 1:=aG (by kernel_rfl)
theorem zae (x0:Sem Sh.str):rn mr 0 (fun _=>{ }) Tryz.f117 [zy Sh.str x0] []=Tr.br (decide ((↑(length x0):Int) > 20)) (Tr.chk (decide (0≤0)&&decide (0≤20)&&decide (20≤(↑(length x0):Int))) (Tr.ok (zp.ret (AV.str (List.take (toNat 20 - toNat 0) (List.drop (toNat 0) x0))) []))) (Tr.ok (zp.ret (AV.str x0) [])):=by kernel_rfl
def F12:zB:=zA [Sh.str] [Sh.str] (fun x=>Eo x.1) fun x=>(ue x.1,())
theorem Nl:FK 117 F12:=by
 refine zL X6 fun x hx C hC=>?_
 refine aj gT X6 (fun id _=>hC id) (zae x.1) ?_
 simp only [Eo,Bool.cond_eq_ite] at hx
 simp only [Tr.val,ue]
 repeat' split
 all_goals first | rfl | simp_all

noncomputable def F79:zB:=zP (List.replicate 2 none) (bA mr Tryz.f251 (List.replicate 2 none))
theorem Vm:FK 251 F79:=zY _ gT (aG (by kernel_rfl))

noncomputable def F18:zB:=zP (List.replicate 2 none) (bA mr Tryz.f93 (List.replicate 2 none))
theorem Uv:FK 93 F18:=zY _ gT (aG (by kernel_rfl))

noncomputable def kh:=mr.addL [(143,F43),(54,F14),(117,F12),(251,F79),(93,F18)]
theorem fw:zm kh:=gT.addL <| fc UN <| fc Nn <| fc Nl <| fc Vm <| fc Uv gX

theorem Reach.lenB {E:ba} {C:bW} {fn:FuncId} {todo:List Item} {st:St} {Q:AV→List AO→Prop} (id c:Nat) (e:Sh) (l:List (Sem e)) {cs:List AV} (h1:st.heap[id]?=some (.box cs)) (h2:cs[c]?=some (.sl e l)) (h:l.length≤zD→Reach E C fn todo st Q):Reach E C fn todo st Q:=by
 intro b cs' a w U ρ q1 q2 hc hW
 refine h ?_ b cs' a w U ρ q1 q2 hc hW
 have ho:=hc.hp.ob id
 rw [show st.hp id=.box cs by simp [St.hp,h1]] at ho
 obtain ⟨bk,T,vals,_,_,_,hr,_⟩:=ho
 have hlt:c < vals.toList.length:=by rw [← hr.len]; exact (bw.1 h2).1
 have:=hr.rv c _ _ h2 (zJ hlt)
 generalize vals.toList[c]=v at this
 cases this with
 | sl0=>simp
 | sl _ _ _ _ _ _ _ hm=>exact hm

abbrev kp6:Nat→zS:=fun j=>if j=3 then { slots:=[0,3,4],prom:=[(3,none,zf)] } else { }
abbrev Jf (l0:List (Sem zf)) (i4:Int) (lh_0:List (Sem zf)):St:={ tmps:=(tm 24 [(0,AV.sl zf l0),(3,AV.vec 0),(4,ai i4)]),heap:=[AO.vec zf lh_0] }
theorem ZG:zz kh.P 28 Tryz.f28 1:=aG (by kernel_rfl)
theorem go6 (x0:Sem zf.sl):rn kh 0 kp6 Tryz.f28 [zy zf.sl x0] []=Tr.ok (zp.head 3 (zx Tryz.f28 3) (Jf x0 0 [])):=by kernel_rfl
theorem Om (l0:List (Sem zf)) (i4:Int) (lh_0:List (Sem zf)):rh kh 0 kp6 Tryz.f28 3 (Jf l0 i4 lh_0)=Tr.br (bif decide (i4 < (↑l0.length:Int)) then decide (i4 < 14) else false) (Tr.chk (zH i4 l0.length) (Tr.chk (wL (l0.getD i4.toNat (zj zf))) (Tr.chk (decide (lh_0.length+[Bz (l0.getD i4.toNat (zj zf))].length≤1073741824)) (Tr.ok (zp.head 3 (zx Tryz.f28 3) (Jf l0 (IntKind.i64.wrap (i4+1)) (lh_0++[Bz (l0.getD i4.toNat (zj zf))]))))))) (Tr.ok (zp.ret (AV.vec 0) [AO.vec zf lh_0])):=by kernel_rfl
def iB:List (Sem zf)→Int→List (Sem zf)→Sem zf.sl
 | [],_,lh_0=>lh_0
 | x::r,i4,lh_0=>if decide (i4 < 14)=true then iB r (i4+1) (lh_0++[Bz x]) else lh_0
def fR:List (Sem zf)→Int→List (Sem zf)→Bool
 | [],_,_=>true
 | x::r,i4,lh_0=>if decide (i4 < 14)=true then wL x&&(decide (lh_0.length+[Bz x].length≤1073741824)&&fR r (i4+1) (lh_0++[Bz x])) else true
theorem V7 {C:bW} (hC:∀ id,C.ρ0 id=none) (l0:List (Sem zf)) (hl:l0.length≤zD):∀ (m i:Nat) (lh_0:List (Sem zf)),l0.length - i=m→i≤l0.length→fR (l0.drop i) i lh_0=true→
  Reach kh C 28 (zx Tryz.f28 3) (Jf l0 (i:Int) lh_0) (fun r h=>zX h [zf.sl] r=some (iB (l0.drop i) i lh_0,())):=by
 intro m
 induction m with
 | zero=>
  intro i lh_0 hm hi hc
  obtain rfl:i=l0.length:=by omega
  rw [cQ] at hc ⊢
  refine zk fw ZG (fun id _=>hC id) (Om _ _ _) ?_
  simp only [fR] at hc
  simp only [Tr.val,ap,cZ,iB]
  repeat' split
  all_goals first | rfl | simp_all
 | succ m IH=>
  intro i lh_0 hm hi hc
  have hlt:i < l0.length:=by omega
  have IH:=IH (i+1)
  have hcast:((i:Int)+1)=((i+1:Nat):Int):=by omega
  have hwr:=zG i (by omega)
  rw [c6 hlt] at hc ⊢
  refine zk fw ZG (fun id _=>hC id) (Om _ _ _) ?_
  simp only [fR] at hc
  simp only [Tr.val,aH hlt,zN hlt,ag l0 _ hlt,hwr,bJ,if_true,iB]
  clear hwr
  (try simp only [hcast] at hc ⊢)
  repeat' split
  all_goals first | (change Reach _ _ _ _ _ _; apply IH <;> first | omega | assumption | (clear IH; simp_all)) | rfl | (clear IH; simp_all)
theorem Ql {C:bW} (hC:∀ id,C.ρ0 id=none) (l0:List (Sem zf)) (lh_0:List (Sem zf)) (hc:fR l0 0 lh_0=true):
  Reach kh C 28 (zx Tryz.f28 3) (Jf l0 0 lh_0) (fun r h=>zX h [zf.sl] r=some (iB l0 0 lh_0,())):=
 Reach.len 0 (zf) l0 rfl fun hl=>V7 hC l0 hl _ 0 lh_0 rfl (aZ _) hc
def jp (x0:Sem zf.sl):Sem zf.sl:=iB x0 0 []
def H3 (x0:Sem zf.sl):Bool:=fR x0 0 []
def F6:zB:=zA [zf.sl] [zf.sl] (fun x=>H3 x.1) fun x=>(jp x.1,())
theorem U7:FK 28 F6:=by
 refine zL ZG fun x hx C hC=>?_
 simp only [H3] at hx
 refine zk fw ZG (fun id _=>hC id) (go6 x.1) ?_
 simp only [Tr.val,jp]
 repeat' split
 all_goals first | (change Reach _ _ _ _ _ _; apply Ql hC <;> first | assumption | simp_all) | rfl | simp_all

abbrev XE:Nat→zS:=fun j=>if j=3 then { slots:=[0,3,4],prom:=[(3,none,zi)] } else { }
abbrev wH (l0:List (Sem zi)) (i4:Int) (lh_0:List (Sem zi)):St:={ tmps:=(tm 33 [(0,AV.sl zi l0),(3,AV.vec 0),(4,ai i4)]),heap:=[AO.vec zi lh_0] }
theorem LL:zz kh.P 26 Tryz.f26 1:=aG (by kernel_rfl)
theorem zaf (x0:Sem zi.sl):rn kh 0 XE Tryz.f26 [zy zi.sl x0] []=Tr.ok (zp.head 3 (zx Tryz.f26 3) (wH x0 0 [])):=by kernel_rfl
theorem Iv (l0:List (Sem zi)) (i4:Int) (lh_0:List (Sem zi)):rh kh 0 XE Tryz.f26 3 (wH l0 i4 lh_0)=Tr.br (bif decide (i4 < (↑l0.length:Int)) then decide (i4 < 9) else false) (Tr.chk (zH i4 l0.length) (Tr.br (decide ((↑(length (l0.getD i4.toNat (zj zi)).1):Int) > 20)) (Tr.chk (decide (0≤0)&&decide (0≤20)&&decide (20≤(↑(length (l0.getD i4.toNat (zj zi)).1):Int))) (Tr.chk (decide (lh_0.length+[(List.take (toNat 20 - toNat 0) (List.drop (toNat 0) (l0.getD i4.toNat (zj zi)).1),(l0.getD i4.toNat (zj zi)).2)].length≤1073741824)) (Tr.ok (zp.head 3 (zx Tryz.f26 3) (wH l0 (IntKind.i64.wrap (i4+1)) (lh_0++[(List.take (toNat 20 - toNat 0) (List.drop (toNat 0) (l0.getD i4.toNat (zj zi)).1),(l0.getD i4.toNat (zj zi)).2)])))))) (Tr.chk (decide (lh_0.length+[l0.getD i4.toNat (zj zi)].length≤1073741824)) (Tr.ok (zp.head 3 (zx Tryz.f26 3) (wH l0 (IntKind.i64.wrap (i4+1)) (lh_0++[l0.getD i4.toNat (zj zi)]))))))) (Tr.ok (zp.ret (AV.vec 0) [AO.vec zi lh_0])):=by kernel_rfl
def fI:List (Sem zi)→Int→List (Sem zi)→Sem zi.sl
 | [],_,lh_0=>lh_0
 | x::r,i4,lh_0=>if decide (i4 < 9)=true then
 if decide ((↑(length x.1):Int) > 20)=true then
  fI r (i4+1) (lh_0++[(List.take (toNat 20 - toNat 0) (List.drop (toNat 0) x.1),x.2)])
 else fI r (i4+1) (lh_0++[x])
else lh_0
def eW:List (Sem zi)→Int→List (Sem zi)→Bool
 | [],_,_=>true
 | x::r,i4,lh_0=>if decide (i4 < 9)=true then
 if decide ((↑(length x.1):Int) > 20)=true then
  decide (0≤0)&&decide (0≤20)&&decide (20≤(↑(length x.1):Int))&&
   (decide (lh_0.length+[(List.take (toNat 20 - toNat 0) (List.drop (toNat 0) x.1),x.2)].length≤1073741824)&&
    eW r (i4+1) (lh_0++[(List.take (toNat 20 - toNat 0) (List.drop (toNat 0) x.1),x.2)]))
 else decide (lh_0.length+[x].length≤1073741824)&&eW r (i4+1) (lh_0++[x])
else true
theorem Qj {C:bW} (hC:∀ id,C.ρ0 id=none) (l0:List (Sem zi)) (hl:l0.length≤zD):∀ (m i:Nat) (lh_0:List (Sem zi)),l0.length - i=m→i≤l0.length→eW (l0.drop i) i lh_0=true→
  Reach kh C 26 (zx Tryz.f26 3) (wH l0 (i:Int) lh_0) (fun r h=>zX h [zi.sl] r=some (fI (l0.drop i) i lh_0,())):=by
 intro m
 induction m with
 | zero=>
  intro i lh_0 hm hi hc
  obtain rfl:i=l0.length:=by omega
  rw [cQ] at hc ⊢
  refine zk fw LL (fun id _=>hC id) (Iv _ _ _) ?_
  simp only [eW] at hc
  simp only [Tr.val,ap,cZ,fI]
  repeat' split
  all_goals first | rfl | simp_all
 | succ m IH=>
  intro i lh_0 hm hi hc
  have hlt:i < l0.length:=by omega
  have IH:=IH (i+1)
  have hcast:((i:Int)+1)=((i+1:Nat):Int):=by omega
  have hwr:=zG i (by omega)
  rw [c6 hlt] at hc ⊢
  refine zk fw LL (fun id _=>hC id) (Iv _ _ _) ?_
  simp only [eW] at hc
  simp only [Tr.val,aH hlt,zN hlt,ag l0 _ hlt,hwr,bJ,if_true,fI]
  clear hwr
  (try simp only [hcast] at hc ⊢)
  repeat' split
  all_goals first | (change Reach _ _ _ _ _ _; apply IH <;> first | omega | assumption | (clear IH; simp_all)) | rfl | (clear IH; simp_all)
theorem KQ {C:bW} (hC:∀ id,C.ρ0 id=none) (l0:List (Sem zi)) (lh_0:List (Sem zi)) (hc:eW l0 0 lh_0=true):
  Reach kh C 26 (zx Tryz.f26 3) (wH l0 0 lh_0) (fun r h=>zX h [zi.sl] r=some (fI l0 0 lh_0,())):=
 Reach.len 0 (zi) l0 rfl fun hl=>Qj hC l0 hl _ 0 lh_0 rfl (aZ _) hc
def kV (x0:Sem zi.sl):Sem zi.sl:=fI x0 0 []
def H2 (x0:Sem zi.sl):Bool:=eW x0 0 []
def F13:zB:=zA [zi.sl] [zi.sl] (fun x=>H2 x.1) fun x=>(kV x.1,())
theorem Nm:FK 26 F13:=by
 refine zL LL fun x hx C hC=>?_
 simp only [H2] at hx
 refine zk fw LL (fun id _=>hC id) (zaf x.1) ?_
 simp only [Tr.val,kV]
 repeat' split
 all_goals first | (change Reach _ _ _ _ _ _; apply KQ hC <;> first | assumption | simp_all) | rfl | simp_all

noncomputable def Ao:=kh.addL [(28,F6),(26,F13)]
theorem o5:zm Ao:=fw.addL <| fc U7 <| fc Nm gX

theorem dL {P:Program} {gl:Nat→AV} {k:FuncId} {ks outs:List Sh} {c:zw (ks.map some)→Bool} {g:zw (ks.map some)→zw (outs.map some)} (h:kx P gl k (zA ks outs c g)) (hc:∀ x,c x=true):kx P gl k (zW ks outs g):=
 Nt (by rwa [show c=fun _=>true from funext hc] at h)

theorem ur (v:V):wL v=true:=by
 unfold wL
 cases h:decide ((↑(length v.2.2):Int) > 60)
 ·rfl
 ·simp only [ae] at h
  simp only [bJ,aC,ae]
  omega
theorem CT (s:zn):Eo s=true:=by
 unfold Eo
 cases h:decide ((↑(length s):Int) > 20)
 ·rfl
 ·simp only [ae] at h
  simp only [bJ,aC,ae]
  omega
theorem mA:∀ (l:List (Sem zf)) (i:Int) (a:List (Sem zf)),(a.length:Int)≤i→fR l i a=true
 | [],_,_,_=>rfl
 | x::r,i,a,h=>by
  simp only [fR,ur]
  split
  ·rename_i hi
   simp only [ae] at hi
   rw [mA r (i+1) _ (by simp; omega)]
   simp; omega
  ·rfl
theorem iM:∀ (l:List (Sem zi)) (i:Int) (a:List (Sem zi)),(a.length:Int)≤i→eW l i a=true
 | [],_,_,_=>rfl
 | x::r,i,a,h=>by
  simp only [eW]
  split
  ·rename_i hi
   simp only [ae] at hi
   split
   ·rename_i hx
    simp only [ae] at hx
    rw [iM r (i+1) _ (by simp; omega)]
    simp; omega
   ·rw [iM r (i+1) _ (by simp; omega)]
    simp; omega
  ·rfl
def Tt:zB:=zW [zf] [zf] fun x=>(Bz x.1,())
theorem O9:FK 54 Tt:=dL Nn fun x=>ur x.1
def Tf:zB:=zW [Sh.str] [Sh.str] fun x=>(ue x.1,())
theorem OX:FK 117 Tf:=dL Nl fun x=>CT x.1
def F6t:zB:=zW [zf.sl] [zf.sl] fun x=>(jp x.1,())
theorem Ve:FK 28 F6t:=dL U7 fun x=>mA x.1 0 [] (by simp)
def To:zB:=zW [zi.sl] [zi.sl] fun x=>(kV x.1,())
theorem O6:FK 26 To:=dL Nm fun x=>iM x.1 0 [] (by simp)

abbrev kz:Nat→zS:=fun _=>{ slots:=[0,1,7,8] }
def gh {K:List Item} {e:Sh} (l:List (Sem e)) (p:Sem e→Bool) (st:Int→St) (h0:List AO) (i:Int):Tr zp:=.br (decide (i < (l.length:Int))) (.chk (zH i l.length) (.br (p (l.getD i.toNat (zj e))) (.ok (.ret (.int .i64 i) h0)) (.ok (.head 2 K (st (IntKind.i64.wrap (i+1))))))) (.ok (.ret (.int .i64 (-1)) h0))

theorem dR {E:ba} {C:bW} {k:FuncId} {f:Func} {n n0:Nat} {keep:Nat→zS} {fuel:Nat} {K:List Item} {e:Sh} (l:List (Sem e)) (p:Sem e→Bool) (st:Int→St) {h0:List AO}
  (hE:zm E) (hf:zz E.P k f n) (hC:∀ id,n0≤id→C.ρ0 id=none)
  (hon:∀ i,run E n0 keep f.results.toList fuel K (st i)=gh (K:=K) l p st h0 i) (hl:l.length≤zD):∀ (m i:Nat),l.length - i=m→i≤l.length→
  Reach E C k K (st i) (fun r h=>(r,h)=(.int .i64 (zQ p (l.drop i) i),h0)):=by
 intro m
 induction m with
 | zero=>
  intro i hE.mix' hi
  obtain rfl:i=l.length:=by omega
  refine zk hE hf hC (hon _) ?_
  simp only [gh,Tr.val,ap,cQ]
  rfl
 | succ m IH=>
  intro i hE.mix' hi
  have hlt:i < l.length:=by omega
  refine zk hE hf hC (hon _) ?_
  rw [c6 hlt]
  simp only [gh,Tr.val,aH hlt,zN hlt,ag l _ hlt,zG i (by omega),if_true,zQ]
  split
  ·rfl
  ·exact IH (i+1) (by omega) (by omega)

abbrev qX (t:Int) (l:List (Sem zg)) (i:Int):St:={ tmps:=[.sl zg l,.clo (.func 251) [] [.ptr 0 0],.any,.any,.any,.any,.any,.int .i64 l.length,.int .i64 i,.any,.any,.any,.any,.any,.any,.any,.any,.any,.any],heap:=[.box [.int .i64 t]] }
theorem G7 (t:Int) (l:List (Sem zg)):run Ao 1 kz Tryz.f278.results.toList 300 (ah Tryz.f278) (zU Tryz.f278.ntmps [.sl zg l,.clo (.func 251) [] [.ptr 0 0]] [.box [.int .i64 t]])=.ok (.head 2 (zx Tryz.f278 2) (qX t l 0)):=by kernel_rfl
theorem It (t:Int) (l:List (Sem zg)) (i:Int):run Ao 1 kz Tryz.f278.results.toList 300 (zx Tryz.f278 2) (qX t l i)=gh (K:=zx Tryz.f278 2) (e:=zg) l (fun x=>bif x != t then x != 0 else false) (qX t l) [.box [.int .i64 t]] i:=by kernel_rfl

theorem Ib:zz Ao.P 278 Tryz.f278 2:=aG (by kernel_rfl)
def VM:b7 [some (.sl zg),none]:=fun x h=>match x,h with
 | (l,.clo (.func 251) [] [.ptr 0 0],_),[.box [.int .i64 t]]=>.ok (.int .i64 (zQ (fun x=>bif x != t then x != 0 else false) l 0),[.box [.int .i64 t]])
 | _,_=>.err
def SU:zB:=zP [some (.sl zg),none] VM
theorem OC:FK 278 SU:=by
 refine bb Ib fun x h0 res hx C hC=>?_
 unfold VM at hx
 split at hx
 ·rename_i l u t
  simp only [Tr.val_ok,zZ] at hx
  subst hx
  refine Reach.len 0 zg l rfl fun hl=>?_
  refine zk (n0:=1) o5 Ib hC (G7 t l) ?_
  exact dR l (fun x=>bif x != t then x != 0 else false) (qX t l) o5 Ib hC (It t l) hl _ 0 rfl (aZ _)
 ·simp at hx

noncomputable def nH:=Ao.addL [(54,Tt),(117,Tf),(28,F6t),(26,To),(278,SU)]
theorem jf:zm nH:=o5.addL <| fc O9 <| fc OX <| fc Ve <| fc O6 <| fc OC gX

noncomputable def F78:zB:=zP [some (.sl zg),none] (bA nH Tryz.f250 [some (.sl zg),none])
theorem Vl:FK 250 F78:=zY _ jf (aG (by kernel_rfl))

def mI (x0:Sem Sh.str):Sem Sh.bool:=pN x0
theorem Ye:zz nH.P 170 Tryz.f170 1:=aG (by kernel_rfl)
theorem zan (x0:Sem Sh.str):rn nH 0 (fun _=>{ }) Tryz.f170 [zy Sh.str x0] []=Tr.ok (zp.ret (AV.bool (pN x0)) []):=by kernel_rfl
def F25:zB:=zW [Sh.str] [Sh.bool] fun x=>(mI x.1,())
theorem Uz:FK 170 F25:=by
 refine zO Ye fun x C hC=>?_
 refine aj jf Ye (fun id _=>hC id) (zan x.1) ?_
 simp only [Tr.val,mI]
 repeat' split
 all_goals rfl

def j4 (x0:Sem zE) (x1:Sem Sh.str):Sem zg:=zQ (fun c=>c.1==x1) x0.2.1 0
theorem X9:zz nH.P 73 Tryz.f73 2:=aG (by kernel_rfl)
theorem zai (x0:Sem zE) (x1:Sem Sh.str):rn nH 0 (fun _=>{ }) Tryz.f73 [zy zE x0,zy Sh.str x1] []=Tr.ok (zp.ret (ai (zQ (fun c=>c.1==x1) x0.2.1 0)) []):=by kernel_rfl
def F17:zB:=zW [zE,Sh.str] [zg] fun x=>(j4 x.1 x.2.1,())
theorem Uu:FK 73 F17:=by
 refine zO X9 fun x C hC=>?_
 refine aj jf X9 (fun id _=>hC id) (zai x.1 x.2.1) ?_
 simp only [Tr.val,j4]
 repeat' split
 all_goals rfl

def aN (x0:Sem zi.sl) (x1:Sem Sh.str):Sem zg:=zQ (fun c=>c.1==x1) x0 0
theorem Yv:zz nH.P 148 Tryz.f148 2:=aG (by kernel_rfl)
theorem zaG (x0:Sem zi.sl) (x1:Sem Sh.str):rn nH 0 (fun _=>{ }) Tryz.f148 [zy zi.sl x0,zy Sh.str x1] []=Tr.ok (zp.ret (ai (zQ (fun c=>c.1==x1) x0 0)) []):=by kernel_rfl
def F48:zB:=zW [zi.sl,Sh.str] [zg] fun x=>(aN x.1 x.2.1,())
theorem US:FK 148 F48:=by
 refine zO Yv fun x C hC=>?_
 refine aj jf Yv (fun id _=>hC id) (zaG x.1 x.2.1) ?_
 simp only [Tr.val,aN]
 repeat' split
 all_goals rfl

noncomputable def vG:=nH.addL [(250,F78),(170,F25),(73,F17),(148,F48)]
theorem o6:zm vG:=jf.addL <| fc Vl <| fc Uz <| fc Uu <| fc US gX

def qD (x0:Sem zg.sl) (x1:Sem zg):Sem Sh.bool := !decide (zQ (fun x=>bif x != x1 then x != 0 else false) x0 0 ≥ 0)
theorem YH:zz vG.P 203 Tryz.f203 2:=aG (by kernel_rfl)
theorem zaS (x0:Sem zg.sl) (x1:Sem zg):rn vG 0 (fun _=>{ }) Tryz.f203 [zy zg.sl x0,zy zg x1] []=Tr.ok (zp.ret (AV.bool !decide (zQ (fun x=>bif x != x1 then x != 0 else false) x0 0 ≥ 0)) []):=by kernel_rfl
def F66:zB:=zW [zg.sl,zg] [Sh.bool] fun x=>(qD x.1 x.2.1,())
theorem Vc:FK 203 F66:=by
 refine zO YH fun x C hC=>?_
 refine aj o6 YH (fun id _=>hC id) (zaS x.1 x.2.1) ?_
 simp only [Tr.val,qD]
 repeat' split
 all_goals rfl

def gk (x0:Sem Sh.str):Sem Sh.bool:=bif mI x0 then !Bj x0 else false
theorem X8:zz vG.P 92 Tryz.f92 1:=aG (by kernel_rfl)
theorem zah (x0:Sem Sh.str):rn vG 0 (fun _=>{ }) Tryz.f92 [zy Sh.str x0] []=Tr.ok (zp.ret (AV.bool (bif mI x0 then !Bj x0 else false)) []):=by kernel_rfl
def F16:zB:=zW [Sh.str] [Sh.bool] fun x=>(gk x.1,())
theorem Ut:FK 92 F16:=by
 refine zO X8 fun x C hC=>?_
 refine aj o6 X8 (fun id _=>hC id) (zah x.1) ?_
 simp only [Tr.val,gk]
 repeat' split
 all_goals rfl

noncomputable def GJ:=vG.addL [(203,F66),(92,F16)]
theorem vH:zm GJ:=o6.addL <| fc Vc <| fc Ut gX
theorem cO {P:Program} {gl:Nat→AV} {k:FuncId} {ks outs:List Sh} {c:zw (ks.map some)→Bool} {g:zw (ks.map some)→zw (outs.map some)} (hf:∃ fn,P.funcs[k]?=some fn∧(fn.name == "runtime.NumGoroutine")=false∧fn.body.isNone=false) (hc:∀ x,c x=false):kx P gl k (zA ks outs c g):=by
 refine ⟨hf,?_⟩
 intro w U ρ hp n args vals f fp hv
 exfalso
 unfold zA zP at hv
 split at hv
 ·simp only at hv
  split at hv
  ·split at hv
   ·simp only [Tr.val_bind,dT] at hv
    obtain ⟨res,h1,h2⟩:=hv
    unfold fJ at h1
    split at h1
    ·simp only [Tr.val,hc] at h1
     simp at h1
    ·simp at h1
   ·simp at hv
  ·simp at hv
 ·simp at hv
theorem iX {Φ:zp→Prop} {c:Bool} {t f:Tr zp} (h1:c=true→ed Φ t.val) (h2:c=false→ed Φ f.val):ed Φ (Tr.br c t f).val:=by
 cases c
 ·simpa [Tr.val] using h2 rfl
 ·simpa [Tr.val] using h1 rfl
theorem cu {Φ:zp→Prop} {c:Bool} {t:Tr zp} (hc:c=true) (h:ed Φ t.val):ed Φ (Tr.chk c t).val:=by
 subst hc
 simpa [Tr.val] using h
theorem zo {Φ:zp→Prop} {t:Tr zp} (h:ed Φ t.val):ed Φ (Tr.chk true t).val:=h
theorem jq {c:Bool} (h:c=false):¬ c=true:=by rw [h]; simp
theorem lK {c g:Bool} (h:(if c=true then g else false)=true):c=true∧g=true:=by
 split at h
 ·exact ⟨‹_›,h⟩
 ·cases h
theorem ea {Φ:zp→Prop} {c:Bool} {t f:Tr zp} {α:Sort _} {a b y:α} {p q:Bool} (hy:(if c=true then a else b)=y) (hc:(if c=true then p else q)=true) (h1:c=true→a=y→p=true→ed Φ t.val) (h2:c=false→b=y→q=true→ed Φ f.val):ed Φ (Tr.br c t f).val:=
 iX (fun h=>h1 h (by rwa [if_pos h] at hy) (by rwa [if_pos h] at hc)) (fun h=>h2 h (by rwa [if_neg (jq h)] at hy) (by rwa [if_neg (jq h)] at hc))
theorem aM {Φ:zp→Prop} {c:Bool} {t f:Tr zp} {α:Sort _} {a b y:α} (hy:(if c=true then a else b)=y) (h1:c=true→a=y→ed Φ t.val) (h2:c=false→b=y→ed Φ f.val):ed Φ (Tr.br c t f).val:=
 iX (fun h=>h1 h (by rwa [if_pos h] at hy)) (fun h=>h2 h (by rwa [if_neg (jq h)] at hy))
theorem aX {Φ:zp→Prop} {c g:Bool} {t:Tr zp} (hc:(if c=true then g else false)=true) (h:g=true→ed Φ t.val):ed Φ (Tr.chk c t).val:=
 cu (lK hc).1 (h (lK hc).2)
theorem Tr.val_brT {α:Type} (t f:Tr α):(Tr.br true t f).val=t.val:=rfl
theorem Tr.val_brF {α:Type} (t f:Tr α):(Tr.br false t f).val=f.val:=rfl
theorem Tr.val_chkT {α:Type} (t:Tr α):(Tr.chk true t).val=t.val:=rfl
instance:Inhabited ze:=⟨.mk [] (0,0,[]) [] []⟩
instance (s:Sh):Inhabited (Sem s):=⟨zj s⟩

noncomputable def EY (g:Sem Sh.expr→Sem (Sh.sl zi)→Sem zg×Sem zg) (c:Sem Sh.expr→Sem (Sh.sl zi)→Bool):ba:=GJ.add 136 (zA [Sh.expr,Sh.sl zi] [zg,zg] (fun x=>c x.1 x.2.1) fun x=>((g x.1 x.2.1).1,(g x.1 x.2.1).2,()))
theorem sq {g:Sem Sh.expr→Sem (Sh.sl zi)→Sem zg×Sem zg} {c:Sem Sh.expr→Sem (Sh.sl zi)→Bool} (hg:FK 136 (zA [Sh.expr,Sh.sl zi] [zg,zg] (fun x=>c x.1 x.2.1) fun x=>((g x.1 x.2.1).1,(g x.1 x.2.1).2,()))):zm (EY g c):=vH.add hg
abbrev N8:Nat→zS:=fun j=>if j=3 then { slots:=[1,2,6,15,16,17],prom:=[(6,none,zg)] } else { }
abbrev uc (l1:LC) (l15:LX) (i16:Int) (i17:Int) (ja0:zn) (ja1:Int) (ja2:Int) (ja3:zn) (ja4:zn) (ja5:LX) (lh_1:LI):St:={ tmps:=(tm 91 [(1,AV.sl zi l1),(2,AV.ptr 0 0),(6,AV.vec 1),(15,AV.sl Sh.expr l15),(16,ai i16),(17,ai i17)]),heap:=[AO.box [AV.str ja0,ai ja1,ai ja2,AV.str ja3,AV.str ja4,AV.sl Sh.expr ja5],AO.vec zg lh_1] }
theorem tC (g:Sem Sh.expr→Sem (Sh.sl zi)→Sem zg×Sem zg) (c:Sem Sh.expr→Sem (Sh.sl zi)→Bool):zz (EY g c).P 136 Tryz.f136 2:=aG (by kernel_rfl)
theorem WP (g:Sem Sh.expr→Sem (Sh.sl zi)→Sem zg×Sem zg) (c:Sem Sh.expr→Sem (Sh.sl zi)→Bool) (x0:Sem Sh.expr) (x1:Sem zi.sl):rn (EY g c) 0 N8 Tryz.f136 [zy Sh.expr x0,zy zi.sl x1] []=Tr.ok (zp.head 3 (zx Tryz.f136 3) (uc x1 (ze.l x0) (↑(ze.l x0).length:Int) 0 (ze.op x0) (ze.v x0).1 (ze.v x0).2.1 (ze.v x0).2.2 (ze.s x0) (ze.l x0) [])):=by kernel_rfl
theorem D0 (g:Sem Sh.expr→Sem (Sh.sl zi)→Sem zg×Sem zg) (c:Sem Sh.expr→Sem (Sh.sl zi)→Bool) (l1:LC) (l15:LX) (i16:Int) (i17:Int) (ja0:zn) (ja1:Int) (ja2:Int) (ja3:zn) (ja4:zn) (ja5:LX) (lh_1:LI):rh (EY g c) 0 N8 Tryz.f136 3 (uc l1 l15 i16 i17 ja0 ja1 ja2 ja3 ja4 ja5 lh_1)=Tr.br (decide (i17 < i16)) (Tr.chk (zH i17 l15.length) (Tr.chk (c (zC (l15.getD i17.toNat (zj Sh.expr))) l1) (Tr.br ((g (zC (l15.getD i17.toNat (zj Sh.expr))) l1).2 != 0) (Tr.ok (zp.ret (AV.tup [ai 0,AV.int IntKind.i64 (g (zC (l15.getD i17.toNat (zj Sh.expr))) l1).2]) [])) (Tr.chk (decide (lh_1.length+[(g (zC (l15.getD i17.toNat (zj Sh.expr))) l1).1].length≤1073741824)) (Tr.ok (zp.head 3 (zx Tryz.f136 3) (uc l1 l15 i16 (IntKind.i64.wrap (i17+1)) ja0 ja1 ja2 ja3 ja4 ja5 (lh_1++[(g (zC (l15.getD i17.toNat (zj Sh.expr))) l1).1])))))))) (Tr.br (ja0==[108,105,116]) (Tr.ok (zp.ret (AV.tup [ai ja1,ai 0]) [])) (Tr.br (ja0==[99,111,108]) (Tr.br (decide (aN l1 ja4 < 0)) (Tr.ok (zp.ret (AV.tup [ai 0,ai 4]) [])) (Tr.chk (zH (aN l1 ja4) l1.length) (Tr.ok (zp.ret (AV.tup [ai (l1.getD (toNat (aN l1 ja4)) (zj zi)).2.1,ai 0]) [])))) (Tr.br (ja0==[110,111,116])
 (Tr.br (!qD lh_1 3) (Tr.ok (zp.ret (AV.tup [ai 0,ai 5]) [])) (Tr.ok (zp.ret (AV.tup [ai 3,ai 0]) []))) (Tr.br (ja0==[97,110,100]) (Tr.br (!qD lh_1 3) (Tr.ok (zp.ret (AV.tup [ai 0,ai 5]) [])) (Tr.ok (zp.ret (AV.tup [ai 3,ai 0]) []))) (Tr.br (ja0==[111,114]) (Tr.br (!qD lh_1 3) (Tr.ok (zp.ret (AV.tup [ai 0,ai 5]) [])) (Tr.ok (zp.ret (AV.tup [ai 3,ai 0]) []))) (Tr.br (ja0==[61]) (Tr.chk (zH 0 lh_1.length&&(decide (toNat 0 < lh_1.length)&&(zH 1 lh_1.length&&(decide (toNat 1 < lh_1.length)&&bif lh_1.getD (toNat 0) (zj zg)==lh_1.getD (toNat 1) (zj zg) then true else zH 0 lh_1.length&&(decide (toNat 0 < lh_1.length)&&bif lh_1.getD (toNat 0) (zj zg)==0 then true else zH 1 lh_1.length&&decide (toNat 1 < lh_1.length)))))) (Tr.br (!bif lh_1.getD (toNat 0) (zj zg)==lh_1.getD (toNat 1) (zj zg) then true else bif lh_1.getD (toNat 0) (zj zg)==0 then true else lh_1.getD (toNat 1) (zj zg)==0) (Tr.ok (zp.ret (AV.tup [ai 0,ai 5]) [])) (Tr.ok (zp.ret (AV.tup [ai 3,ai 0]) [])))) (Tr.br (ja0==[60]) (Tr.chk (zH 0 lh_1.length&&(decide (toNat 0 < lh_1.length)&&(zH 1 lh_1.length&&(decide (toNat 1 < lh_1.length)&&
 bif lh_1.getD (toNat 0) (zj zg)==lh_1.getD (toNat 1) (zj zg) then true else zH 0 lh_1.length&&(decide (toNat 0 < lh_1.length)&&bif lh_1.getD (toNat 0) (zj zg)==0 then true else zH 1 lh_1.length&&decide (toNat 1 < lh_1.length)))))) (Tr.br (!bif lh_1.getD (toNat 0) (zj zg)==lh_1.getD (toNat 1) (zj zg) then true else bif lh_1.getD (toNat 0) (zj zg)==0 then true else lh_1.getD (toNat 1) (zj zg)==0) (Tr.ok (zp.ret (AV.tup [ai 0,ai 5]) [])) (Tr.ok (zp.ret (AV.tup [ai 3,ai 0]) [])))) (Tr.br (ja0==[43]) (Tr.br (!qD lh_1 1) (Tr.ok (zp.ret (AV.tup [ai 0,ai 5]) [])) (Tr.ok (zp.ret (AV.tup [ai 1,ai 0]) []))) (Tr.br (ja0==[45]) (Tr.br (!qD lh_1 1) (Tr.ok (zp.ret (AV.tup [ai 0,ai 5]) [])) (Tr.ok (zp.ret (AV.tup [ai 1,ai 0]) []))) (Tr.ok (zp.ret (AV.tup [ai 3,ai 0]) []))))))))))):=by kernel_rfl
def ek (g:Sem Sh.expr→Sem (Sh.sl zi)→Sem zg×Sem zg) (c:Sem Sh.expr→Sem (Sh.sl zi)→Bool) (l1:LC) (ja0:zn) (ja1:Int) (ja2:Int) (ja3:zn) (ja4:zn) (ja5:LX):List (Sem Sh.expr)→Int→List (Sem zg)→Sem zg×Sem zg
 | [],_,lh_1=>if (ja0==[108,105,116])=true then (ja1,0)
else
 if (ja0==[99,111,108])=true then
  if decide (aN l1 ja4 < 0)=true then (0,4)
  else ((l1.getD (toNat (aN l1 ja4)) (zj zi)).2.1,0)
 else
  if (ja0==[110,111,116])=true then if (!qD lh_1 3)=true then (0,5) else (3,0)
  else
   if (ja0==[97,110,100])=true then if (!qD lh_1 3)=true then (0,5) else (3,0)
   else
    if (ja0==[111,114])=true then if (!qD lh_1 3)=true then (0,5) else (3,0)
    else
     if (ja0==[61])=true then
      if
        (!bif lh_1.getD (toNat 0) (zj zg)==lh_1.getD (toNat 1) (zj zg) then true
          else bif lh_1.getD (toNat 0) (zj zg)==0 then true else lh_1.getD (toNat 1) (zj zg)==0)=
         true then
       (0,5)
      else (3,0)
     else
      if (ja0==[60])=true then
       if
         (!bif lh_1.getD (toNat 0) (zj zg)==lh_1.getD (toNat 1) (zj zg) then true
           else
            bif lh_1.getD (toNat 0) (zj zg)==0 then true else lh_1.getD (toNat 1) (zj zg)==0)=
          true then
        (0,5)
       else (3,0)
      else
       if (ja0==[43])=true then if (!qD lh_1 1)=true then (0,5) else (1,0)
       else if (ja0==[45])=true then if (!qD lh_1 1)=true then (0,5) else (1,0) else (3,0)
 | x::r,i17,lh_1=>if ((g x l1).2 != 0)=true then (0,(g x l1).2) else ek g c l1 ja0 ja1 ja2 ja3 ja4 ja5 r (i17+1) (lh_1++[(g x l1).1])
def dS (g:Sem Sh.expr→Sem (Sh.sl zi)→Sem zg×Sem zg) (c:Sem Sh.expr→Sem (Sh.sl zi)→Bool) (l1:LC) (ja0:zn) (ja1:Int) (ja2:Int) (ja3:zn) (ja4:zn) (ja5:LX):List (Sem Sh.expr)→Int→List (Sem zg)→Bool
 | [],_,lh_1=>if (ja0==[108,105,116])=true then true
else
 if (ja0==[99,111,108])=true then
  if decide (aN l1 ja4 < 0)=true then true else if zH (aN l1 ja4) l1.length=true then true else false
 else
  if (ja0==[110,111,116])=true then true
  else
   if (ja0==[97,110,100])=true then true
   else
    if (ja0==[111,114])=true then true
    else
     if (ja0 == [61])=true then
      if
        (zH 0 lh_1.length&&
          (decide (toNat 0 < lh_1.length)&&
           (zH 1 lh_1.length&&
            (decide (toNat 1 < lh_1.length)&&
             bif lh_1.getD (toNat 0) (zj zg)==lh_1.getD (toNat 1) (zj zg) then true
             else
              zH 0 lh_1.length&&
               (decide (toNat 0 < lh_1.length)&&
                bif lh_1.getD (toNat 0) (zj zg)==0 then true
                else zH 1 lh_1.length&&decide (toNat 1 < lh_1.length))))))=
         true then
       true
      else false
     else
      if (ja0 == [60])=true then
       if
         (zH 0 lh_1.length&&
           (decide (toNat 0 < lh_1.length)&&
            (zH 1 lh_1.length&&
             (decide (toNat 1 < lh_1.length)&&
              bif lh_1.getD (toNat 0) (zj zg)==lh_1.getD (toNat 1) (zj zg) then true
              else
               zH 0 lh_1.length&&
                (decide (toNat 0 < lh_1.length)&&
                 bif lh_1.getD (toNat 0) (zj zg)==0 then true
                 else zH 1 lh_1.length&&decide (toNat 1 < lh_1.length))))))=
          true then
        true
       else false
      else true
 | x::r,i17,lh_1=>if c x l1=true then
 if ((g x l1).2 != 0)=true then true
 else
  if decide (lh_1.length+[(g x l1).1].length≤1073741824)=true then
   dS g c l1 ja0 ja1 ja2 ja3 ja4 ja5 r (i17+1) (lh_1++[(g x l1).1])
  else false
else false
theorem KT (g:Sem Sh.expr→Sem (Sh.sl zi)→Sem zg×Sem zg) (c:Sem Sh.expr→Sem (Sh.sl zi)→Bool) (hg:FK 136 (zA [Sh.expr,Sh.sl zi] [zg,zg] (fun x=>c x.1 x.2.1) fun x=>((g x.1 x.2.1).1,(g x.1 x.2.1).2,()))) {C:bW} (hC:∀ id,C.ρ0 id=none) (l1:LC) (ja0:zn) (ja1:Int) (ja2:Int) (ja3:zn) (ja4:zn) (ja5:LX) (l15:LX) (hl:l15.length≤zD):∀ (m i:Nat) (lh_1:LI),l15.length - i=m→i≤l15.length→dS g c l1 ja0 ja1 ja2 ja3 ja4 ja5 (l15.drop i) i lh_1=true→
  Reach (EY g c) C 136 (zx Tryz.f136 3) (uc l1 l15 (l15.length:Int) (i:Int) ja0 ja1 ja2 ja3 ja4 ja5 lh_1) (fun r h=>zX h [zg,zg] r=some ((ek g c l1 ja0 ja1 ja2 ja3 ja4 ja5 (l15.drop i) i lh_1).1,(ek g c l1 ja0 ja1 ja2 ja3 ja4 ja5 (l15.drop i) i lh_1).2,())):=by
 intro m
 induction m with
 | zero=>
  intro i lh_1 hm hi hc
  obtain rfl:i=l15.length:=by omega
  rw [cQ] at hc ⊢
  refine zk (sq hg) (tC g c) (fun id _=>hC id) (D0 g c _ _ _ _ _ _ _ _ _ _ _) ?_
  rw [dS] at hc
  generalize hy:ek g c l1 ja0 ja1 ja2 ja3 ja4 ja5 [] _ lh_1=y
  rw [ek] at hy
  simp only [ze.eta,ap,Tr.val_brF]
  repeat' (first | with_reducible refine ea hy hc (fun _ hy hc=>?_) (fun _ hy hc=>?_) | with_reducible refine aM hy (fun _ hy=>?_) (fun _ hy=>?_) | with_reducible refine aX hc (fun hc=>?_) | with_reducible refine zo ?_)
  all_goals (subst hy; first | rfl)
 | succ m IH=>
  intro i lh_1 hm hi hc
  have hlt:i < l15.length:=by omega
  have IH:=IH (i+1)
  have hcast:((i:Int)+1)=((i+1:Nat):Int):=by omega
  have hwr:=zG i (by omega)
  rw [c6 hlt] at hc ⊢
  refine zk (sq hg) (tC g c) (fun id _=>hC id) (D0 g c _ _ _ _ _ _ _ _ _ _ _) ?_
  rw [dS] at hc
  generalize hy:ek g c l1 ja0 ja1 ja2 ja3 ja4 ja5 (l15[i]::l15.drop (i+1)) (i:Int) lh_1=y
  rw [ek] at hy
  simp only [ze.eta,aH hlt,zN hlt,ag l15 _ hlt,hwr,Tr.val_brT,Tr.val_chkT]
  clear hwr
  simp only [hcast] at hy
  try simp only [hcast] at hc
  repeat' (first | with_reducible refine ea hy hc (fun _ hy hc=>?_) (fun _ hy hc=>?_) | with_reducible refine aM hy (fun _ hy=>?_) (fun _ hy=>?_) | with_reducible refine aX hc (fun hc=>?_) | with_reducible refine zo ?_)
  all_goals (subst hy; first | (change Reach _ _ _ _ _ _; apply IH <;> first | omega | assumption) | rfl)
theorem Gf (g:Sem Sh.expr→Sem (Sh.sl zi)→Sem zg×Sem zg) (c:Sem Sh.expr→Sem (Sh.sl zi)→Bool) (hg:FK 136 (zA [Sh.expr,Sh.sl zi] [zg,zg] (fun x=>c x.1 x.2.1) fun x=>((g x.1 x.2.1).1,(g x.1 x.2.1).2,()))) {C:bW} (hC:∀ id,C.ρ0 id=none) (l1:LC) (ja0:zn) (ja1:Int) (ja2:Int) (ja3:zn) (ja4:zn) (ja5:LX) (l15:LX) (lh_1:LI) (hc:dS g c l1 ja0 ja1 ja2 ja3 ja4 ja5 l15 0 lh_1=true):
  Reach (EY g c) C 136 (zx Tryz.f136 3) (uc l1 l15 (l15.length:Int) 0 ja0 ja1 ja2 ja3 ja4 ja5 lh_1) (fun r h=>zX h [zg,zg] r=some ((ek g c l1 ja0 ja1 ja2 ja3 ja4 ja5 l15 0 lh_1).1,(ek g c l1 ja0 ja1 ja2 ja3 ja4 ja5 l15 0 lh_1).2,())):=
 Reach.len 15 (Sh.expr) l15 rfl fun hl=>KT g c hg hC l1 ja0 ja1 ja2 ja3 ja4 ja5 l15 hl _ 0 lh_1 rfl (aZ _) hc
def up (g:Sem Sh.expr→Sem (Sh.sl zi)→Sem zg×Sem zg) (c:Sem Sh.expr→Sem (Sh.sl zi)→Bool) (x0:Sem Sh.expr) (x1:Sem zi.sl):Sem zg×Sem zg:=ek g c x1 (ze.op x0) (ze.v x0).1 (ze.v x0).2.1 (ze.v x0).2.2 (ze.s x0) (ze.l x0) (ze.l x0) 0 []
def ro (g:Sem Sh.expr→Sem (Sh.sl zi)→Sem zg×Sem zg) (c:Sem Sh.expr→Sem (Sh.sl zi)→Bool) (x0:Sem Sh.expr) (x1:Sem zi.sl):Bool:=dS g c x1 (ze.op x0) (ze.v x0).1 (ze.v x0).2.1 (ze.v x0).2.2 (ze.s x0) (ze.l x0) (ze.l x0) 0 []
def ZL (g:Sem Sh.expr→Sem (Sh.sl zi)→Sem zg×Sem zg) (c:Sem Sh.expr→Sem (Sh.sl zi)→Bool):zB:=zA [Sh.expr,zi.sl] [zg,zg] (fun x=>ro g c x.1 x.2.1) fun x=>((up g c x.1 x.2.1).1,(up g c x.1 x.2.1).2,())
theorem PH (g:Sem Sh.expr→Sem (Sh.sl zi)→Sem zg×Sem zg) (c:Sem Sh.expr→Sem (Sh.sl zi)→Bool) (hg:FK 136 (zA [Sh.expr,Sh.sl zi] [zg,zg] (fun x=>c x.1 x.2.1) fun x=>((g x.1 x.2.1).1,(g x.1 x.2.1).2,()))):FK 136 (ZL g c):=by
 refine zL (tC g c) fun x hc C hC=>?_
 unfold ro at hc
 refine zk (sq hg) (tC g c) (fun id _=>hC id) (WP g c x.1 x.2.1) ?_
 generalize hy:up g c x.1 x.2.1=y
 unfold up at hy
 try simp only [ze.eta,zt]
 repeat' (first | with_reducible refine ea hy hc (fun _ hy hc=>?_) (fun _ hy hc=>?_) | with_reducible refine aM hy (fun _ hy=>?_) (fun _ hy=>?_) | with_reducible refine aX hc (fun hc=>?_) | with_reducible refine zo ?_)
 all_goals (subst hy; first | (change Reach _ _ _ _ _ _; apply Gf g c hg hC <;> first | assumption | exact hc) | rfl)
mutual
def il:Nat→Sem Sh.expr→Sem (Sh.sl zi)→Sem zg×Sem zg
 | 0=>fun _ _=>default
 | n+1=>up (il n) (gO n)
def gO:Nat→Sem Sh.expr→Sem (Sh.sl zi)→Bool
 | 0=>fun _ _=>false
 | n+1=>ro (il n) (gO n)
end
theorem FX:∀ n,FK 136 (zA [Sh.expr,Sh.sl zi] [zg,zg] (fun x=>gO n x.1 x.2.1) fun x=>((il n x.1 x.2.1).1,(il n x.1 x.2.1).2,()))
 | 0=>cO ⟨Tryz.f136,(tC default default).1,(tC default default).2.1,(tC default default).2.2.1⟩ (fun _=>rfl)
 | n+1=>PH (il n) (gO n) (FX n)
def F51:zB:=zA [Sh.expr,Sh.sl zi] [zg,zg] (fun x=>gO 16 x.1 x.2.1) fun x=>((il 16 x.1 x.2.1).1,(il 16 x.1 x.2.1).2,())
theorem UW:FK 136 F51:=FX 16

noncomputable def Ap:=GJ.add 136 F51
theorem lA:zm Ap:=vH.add UW

noncomputable def ET (g:Sem Sh.expr→Sem zg→Sem zg→Sem Sh.expr×Sem zg) (c:Sem Sh.expr→Sem zg→Sem zg→Bool):ba:=Ap.add 53 (zA [Sh.expr,zg,zg] [Sh.expr,zg] (fun x=>c x.1 x.2.1 x.2.2.1) fun x=>((g x.1 x.2.1 x.2.2.1).1,(g x.1 x.2.1 x.2.2.1).2,()))
theorem sf {g:Sem Sh.expr→Sem zg→Sem zg→Sem Sh.expr×Sem zg} {c:Sem Sh.expr→Sem zg→Sem zg→Bool} (hg:FK 53 (zA [Sh.expr,zg,zg] [Sh.expr,zg] (fun x=>c x.1 x.2.1 x.2.2.1) fun x=>((g x.1 x.2.1 x.2.2.1).1,(g x.1 x.2.1 x.2.2.1).2,()))):zm (ET g c):=lA.add hg
abbrev N3:Nat→zS:=fun j=>if j=10 then { slots:=[1,2,3,6,8,9],prom:=[(8,some 5,Sh.expr)] } else { }
abbrev er (i1:Sem zg) (i2:Int) (i9:Int) (ja0:zn) (ja1:Int) (ja2:Int) (ja3:zn) (ja4:zn) (ja5:LX) (jb0:List UInt8) (jb1:Int) (jb2:Int) (jb3:List UInt8) (jb4:List UInt8) (jc0:List UInt8) (jc1:Int) (jc2:Int) (jc3:List UInt8) (jc4:List UInt8) (lh_3:LX):St:={ tmps:=(tm 88 [(1,ai i1),(2,ai i2),(3,AV.ptr 0 0),(6,AV.ptr 1 0),(8,AV.ptr 2 0),(9,ai i9)]),heap:=[AO.box [AV.str ja0,ai ja1,ai ja2,AV.str ja3,AV.str ja4,AV.sl Sh.expr ja5],AO.box [AV.str jb0,ai jb1,ai jb2,AV.str jb3,AV.str jb4,AV.nils],AO.box [AV.str jc0,ai jc1,ai jc2,AV.str jc3,AV.str jc4,AV.vec 3],AO.vec Sh.expr lh_3] }
theorem tA (g:Sem Sh.expr→Sem zg→Sem zg→Sem Sh.expr×Sem zg) (c:Sem Sh.expr→Sem zg→Sem zg→Bool):zz (ET g c).P 53 Tryz.f53 3:=aG (by kernel_rfl)
theorem WG (g:Sem Sh.expr→Sem zg→Sem zg→Sem Sh.expr×Sem zg) (c:Sem Sh.expr→Sem zg→Sem zg→Bool) (x0:Sem Sh.expr) (x1:Sem zg) (x2:Sem zg):rn (ET g c) 0 N3 Tryz.f53 [zy Sh.expr x0,zy zg x1,zy zg x2] []=Tr.br (decide ((↑(length (ze.op x0)):Int) > 8)) (Tr.chk (decide (0≤0)&&decide (0≤8)&&decide (8≤(↑(length (ze.op x0)):Int))) (Tr.br (decide ((↑(length (ze.s x0)):Int) > 20)) (Tr.chk (decide (0≤0)&&decide (0≤20)&&decide (20≤(↑(length (ze.s x0)):Int))) (Tr.br (decide ((↑(length (ze.v x0).2.2):Int) > 45)) (Tr.chk (decide (0≤0)&&decide (0≤45)&&decide (45≤(↑(length (ze.v x0).2.2):Int))) (Tr.ok (zp.head 10 (zx Tryz.f53 10) (er x1 (IntKind.i64.wrap (x2 - 1)) 0 (ze.op x0) (ze.v x0).1 (ze.v x0).2.1 (ze.v x0).2.2 (ze.s x0) (ze.l x0) [] 0 0 [] [] (List.take (toNat 8 - toNat 0) (List.drop (toNat 0) (ze.op x0))) (ze.v x0).1 (ze.v x0).2.1 (List.take (toNat 45 - toNat 0) (List.drop (toNat 0) (ze.v x0).2.2)) (List.take (toNat 20 - toNat 0) (List.drop (toNat 0) (ze.s x0))) [])))) (Tr.ok (zp.head 10 (zx Tryz.f53 10) (er x1 (IntKind.i64.wrap (x2 - 1)) 0 (ze.op x0) (ze.v x0).1 (ze.v x0).2.1 (ze.v x0).2.2 (ze.s x0) (ze.l x0) [] 0
 0 [] [] (List.take (toNat 8 - toNat 0) (List.drop (toNat 0) (ze.op x0))) (ze.v x0).1 (ze.v x0).2.1 (ze.v x0).2.2 (List.take (toNat 20 - toNat 0) (List.drop (toNat 0) (ze.s x0))) []))))) (Tr.br (decide ((↑(length (ze.v x0).2.2):Int) > 45)) (Tr.chk (decide (0≤0)&&decide (0≤45)&&decide (45≤(↑(length (ze.v x0).2.2):Int))) (Tr.ok (zp.head 10 (zx Tryz.f53 10) (er x1 (IntKind.i64.wrap (x2 - 1)) 0 (ze.op x0) (ze.v x0).1 (ze.v x0).2.1 (ze.v x0).2.2 (ze.s x0) (ze.l x0) [] 0 0 [] [] (List.take (toNat 8 - toNat 0) (List.drop (toNat 0) (ze.op x0))) (ze.v x0).1 (ze.v x0).2.1 (List.take (toNat 45 - toNat 0) (List.drop (toNat 0) (ze.v x0).2.2)) (ze.s x0) [])))) (Tr.ok (zp.head 10 (zx Tryz.f53 10) (er x1 (IntKind.i64.wrap (x2 - 1)) 0 (ze.op x0) (ze.v x0).1 (ze.v x0).2.1 (ze.v x0).2.2 (ze.s x0) (ze.l x0) [] 0 0 [] [] (List.take (toNat 8 - toNat 0) (List.drop (toNat 0) (ze.op x0))) (ze.v x0).1 (ze.v x0).2.1 (ze.v x0).2.2 (ze.s x0) [])))))) (Tr.br (decide ((↑(length (ze.s x0)):Int) > 20)) (Tr.chk (decide (0≤0)&&decide (0≤20)&&decide (20≤(↑(length (ze.s x0)):Int))) (Tr.br (decide ((↑(length (ze.v x0).2.2):Int) > 45)) (Tr.chk (decide (0≤0)&&decide (0≤45)&&decide (45≤(↑(length (ze.v x0).2.2):Int))) (Tr.ok (zp.head 10 (zx Tryz.f53 10)
 (er x1 (IntKind.i64.wrap (x2 - 1)) 0 (ze.op x0) (ze.v x0).1 (ze.v x0).2.1 (ze.v x0).2.2 (ze.s x0) (ze.l x0) [] 0 0 [] [] (ze.op x0) (ze.v x0).1 (ze.v x0).2.1 (List.take (toNat 45 - toNat 0) (List.drop (toNat 0) (ze.v x0).2.2)) (List.take (toNat 20 - toNat 0) (List.drop (toNat 0) (ze.s x0))) [])))) (Tr.ok (zp.head 10 (zx Tryz.f53 10) (er x1 (IntKind.i64.wrap (x2 - 1)) 0 (ze.op x0) (ze.v x0).1 (ze.v x0).2.1 (ze.v x0).2.2 (ze.s x0) (ze.l x0) [] 0 0 [] [] (ze.op x0) (ze.v x0).1 (ze.v x0).2.1 (ze.v x0).2.2 (List.take (toNat 20 - toNat 0) (List.drop (toNat 0) (ze.s x0))) []))))) (Tr.br (decide ((↑(length (ze.v x0).2.2):Int) > 45)) (Tr.chk (decide (0≤0)&&decide (0≤45)&&decide (45≤(↑(length (ze.v x0).2.2):Int))) (Tr.ok (zp.head 10 (zx Tryz.f53 10) (er x1 (IntKind.i64.wrap (x2 - 1)) 0 (ze.op x0) (ze.v x0).1 (ze.v x0).2.1 (ze.v x0).2.2 (ze.s x0) (ze.l x0) [] 0 0 [] [] (ze.op x0) (ze.v x0).1 (ze.v x0).2.1 (List.take (toNat 45 - toNat 0) (List.drop (toNat 0) (ze.v x0).2.2)) (ze.s x0) [])))) (Tr.ok (zp.head 10 (zx Tryz.f53 10) (er x1 (IntKind.i64.wrap (x2 - 1)) 0 (ze.op x0) (ze.v x0).1 (ze.v x0).2.1 (ze.v x0).2.2 (ze.s x0) (ze.l x0) [] 0 0 [] [] (ze.op x0) (ze.v x0).1 (ze.v x0).2.1 (ze.v x0).2.2 (ze.s x0) []))))):=by kernel_rfl
theorem A1 (g:Sem Sh.expr→Sem zg→Sem zg→Sem Sh.expr×Sem zg) (c:Sem Sh.expr→Sem zg→Sem zg→Bool) (i1:Sem zg) (i2:Int) (i9:Int) (ja0:zn) (ja1:Int) (ja2:Int) (ja3:zn) (ja4:zn) (ja5:LX) (jb0:List UInt8) (jb1:Int) (jb2:Int) (jb3:List UInt8) (jb4:List UInt8) (jc0:List UInt8) (jc1:Int) (jc2:Int) (jc3:List UInt8) (jc4:List UInt8) (lh_3:LX):rh (ET g c) 0 N3 Tryz.f53 10 (er i1 i2 i9 ja0 ja1 ja2 ja3 ja4 ja5 jb0 jb1 jb2 jb3 jb4 jc0 jc1 jc2 jc3 jc4 lh_3)=Tr.br (bif decide (i9 < (↑ja5.length:Int)) then bif decide (i9 < 3) then bif decide (i1 > 0) then decide (i2 > 0) else false else false else false) (Tr.chk (zH i9 ja5.length) (Tr.chk (c (zC (ja5.getD i9.toNat (zj Sh.expr))) (IntKind.i64.wrap (i1 - 1)) i2) (Tr.chk (decide (lh_3.length+[ze.mk (ze.op (g (zC (ja5.getD i9.toNat (zj Sh.expr))) (IntKind.i64.wrap (i1 - 1)) i2).1) (ze.v (g (zC (ja5.getD i9.toNat (zj Sh.expr))) (IntKind.i64.wrap (i1 - 1)) i2).1) (ze.s (g (zC (ja5.getD i9.toNat (zj Sh.expr))) (IntKind.i64.wrap (i1 - 1)) i2).1) (ze.l (g (zC (ja5.getD i9.toNat (zj Sh.expr))) (IntKind.i64.wrap (i1 - 1)) i2).1)].length≤1073741824)) (Tr.ok (zp.head 10 (zx Tryz.f53 10) (er i1 (g (zC (ja5.getD i9.toNat (zj Sh.expr))) (IntKind.i64.wrap (i1 - 1)) i2).2
 (IntKind.i64.wrap (i9+1)) ja0 ja1 ja2 ja3 ja4 ja5 jb0 jb1 jb2 jb3 jb4 jc0 jc1 jc2 jc3 jc4 (lh_3++[ze.mk (ze.op (g (zC (ja5.getD i9.toNat (zj Sh.expr))) (IntKind.i64.wrap (i1 - 1)) i2).1) (ze.v (g (zC (ja5.getD i9.toNat (zj Sh.expr))) (IntKind.i64.wrap (i1 - 1)) i2).1) (ze.s (g (zC (ja5.getD i9.toNat (zj Sh.expr))) (IntKind.i64.wrap (i1 - 1)) i2).1) (ze.l (g (zC (ja5.getD i9.toNat (zj Sh.expr))) (IntKind.i64.wrap (i1 - 1)) i2).1)]))))))) (Tr.ok (zp.ret (AV.tup [AV.agg [AV.str jc0,ai jc1,ai jc2,AV.str jc3,AV.str jc4,AV.vec 0],ai i2]) [AO.vec Sh.expr lh_3])):=by kernel_rfl
def bQ (g:Sem Sh.expr→Sem zg→Sem zg→Sem Sh.expr×Sem zg) (c:Sem Sh.expr→Sem zg→Sem zg→Bool) (i1:Sem zg) (ja0:zn) (ja1:Int) (ja2:Int) (ja3:zn) (ja4:zn) (jb0:List UInt8) (jb1:Int) (jb2:Int) (jb3:List UInt8) (jb4:List UInt8) (jc0:List UInt8) (jc1:Int) (jc2:Int) (jc3:List UInt8) (jc4:List UInt8):List (Sem Sh.expr)→Int→Int→List (Sem Sh.expr)→Sem Sh.expr×Sem zg
 | [],_,i2,lh_3=>(ze.mk jc0 (jc1,jc2,jc3) jc4 lh_3,i2)
 | x::r,i9,i2,lh_3=>if (bif decide (i9 < 3) then bif decide (i1 > 0) then decide (i2 > 0) else false else false)=true then
 bQ g c i1 ja0 ja1 ja2 ja3 ja4 jb0 jb1 jb2 jb3 jb4 jc0 jc1 jc2 jc3 jc4 r (i9+1)
  (g x (IntKind.i64.wrap (i1 - 1)) i2).2 (lh_3++[(g x (IntKind.i64.wrap (i1 - 1)) i2).1])
else (ze.mk jc0 (jc1,jc2,jc3) jc4 lh_3,i2)
def ch (g:Sem Sh.expr→Sem zg→Sem zg→Sem Sh.expr×Sem zg) (c:Sem Sh.expr→Sem zg→Sem zg→Bool) (i1:Sem zg) (ja0:zn) (ja1:Int) (ja2:Int) (ja3:zn) (ja4:zn) (jb0:List UInt8) (jb1:Int) (jb2:Int) (jb3:List UInt8) (jb4:List UInt8) (jc0:List UInt8) (jc1:Int) (jc2:Int) (jc3:List UInt8) (jc4:List UInt8):List (Sem Sh.expr)→Int→Int→List (Sem Sh.expr)→Bool
 | [],_,_,_=>true
 | x::r,i9,i2,lh_3=>if (bif decide (i9 < 3) then bif decide (i1 > 0) then decide (i2 > 0) else false else false)=true then
 if c x (IntKind.i64.wrap (i1 - 1)) i2=true then
  if decide (lh_3.length+[(g x (IntKind.i64.wrap (i1 - 1)) i2).1].length≤1073741824)=true then
   ch g c i1 ja0 ja1 ja2 ja3 ja4 jb0 jb1 jb2 jb3 jb4 jc0 jc1 jc2 jc3 jc4 r (i9+1)
    (g x (IntKind.i64.wrap (i1 - 1)) i2).2 (lh_3++[(g x (IntKind.i64.wrap (i1 - 1)) i2).1])
  else false
 else false
else true
theorem Gd (g:Sem Sh.expr→Sem zg→Sem zg→Sem Sh.expr×Sem zg) (c:Sem Sh.expr→Sem zg→Sem zg→Bool) (hg:FK 53 (zA [Sh.expr,zg,zg] [Sh.expr,zg] (fun x=>c x.1 x.2.1 x.2.2.1) fun x=>((g x.1 x.2.1 x.2.2.1).1,(g x.1 x.2.1 x.2.2.1).2,()))) {C:bW} (hC:∀ id,C.ρ0 id=none) (i1:Sem zg) (ja0:zn) (ja1:Int) (ja2:Int) (ja3:zn) (ja4:zn) (jb0:List UInt8) (jb1:Int) (jb2:Int) (jb3:List UInt8) (jb4:List UInt8) (jc0:List UInt8) (jc1:Int) (jc2:Int) (jc3:List UInt8) (jc4:List UInt8) (ja5:LX) (hl:ja5.length≤zD):∀ (m i:Nat) (i2:Int) (lh_3:LX),ja5.length - i=m→i≤ja5.length→ch g c i1 ja0 ja1 ja2 ja3 ja4 jb0 jb1 jb2 jb3 jb4 jc0 jc1 jc2 jc3 jc4 (ja5.drop i) i i2 lh_3=true→
  Reach (ET g c) C 53 (zx Tryz.f53 10) (er i1 i2 (i:Int) ja0 ja1 ja2 ja3 ja4 ja5 jb0 jb1 jb2 jb3 jb4 jc0 jc1 jc2 jc3 jc4 lh_3) (fun r h=>zX h [Sh.expr,zg] r=some ((bQ g c i1 ja0 ja1 ja2 ja3 ja4 jb0 jb1 jb2 jb3 jb4 jc0 jc1 jc2 jc3 jc4 (ja5.drop i) i i2 lh_3).1,(bQ g c i1 ja0 ja1 ja2 ja3 ja4 jb0 jb1 jb2 jb3 jb4 jc0 jc1 jc2 jc3 jc4 (ja5.drop i) i i2 lh_3).2,())):=by
 intro m
 induction m with
 | zero=>
  intro i i2 lh_3 hm hi hc
  obtain rfl:i=ja5.length:=by omega
  rw [cQ] at hc ⊢
  refine zk (sf hg) (tA g c) (fun id _=>hC id) (A1 g c _ _ _ _ _ _ _ _ _ _ _ _ _ _ _ _ _ _ _ _) ?_
  rw [ch] at hc
  generalize hy:bQ g c i1 ja0 ja1 ja2 ja3 ja4 jb0 jb1 jb2 jb3 jb4 jc0 jc1 jc2 jc3 jc4 [] _ i2 lh_3=y
  rw [bQ] at hy
  simp only [ze.eta,ap,cZ,Tr.val_brF]
  repeat' (first | with_reducible refine ea hy hc (fun _ hy hc=>?_) (fun _ hy hc=>?_) | with_reducible refine aM hy (fun _ hy=>?_) (fun _ hy=>?_) | with_reducible refine aX hc (fun hc=>?_) | with_reducible refine zo ?_)
  all_goals (subst hy; first | rfl)
 | succ m IH=>
  intro i i2 lh_3 hm hi hc
  have hlt:i < ja5.length:=by omega
  have IH:=IH (i+1)
  have hcast:((i:Int)+1)=((i+1:Nat):Int):=by omega
  have hwr:=zG i (by omega)
  rw [c6 hlt] at hc ⊢
  refine zk (sf hg) (tA g c) (fun id _=>hC id) (A1 g c _ _ _ _ _ _ _ _ _ _ _ _ _ _ _ _ _ _ _ _) ?_
  rw [ch] at hc
  generalize hy:bQ g c i1 ja0 ja1 ja2 ja3 ja4 jb0 jb1 jb2 jb3 jb4 jc0 jc1 jc2 jc3 jc4 (ja5[i]::ja5.drop (i+1)) (i:Int) i2 lh_3=y
  rw [bQ] at hy
  simp only [ze.eta,aH hlt,zN hlt,ag ja5 _ hlt,hwr,bJ]
  clear hwr
  simp only [hcast] at hy
  try simp only [hcast] at hc
  repeat' (first | with_reducible refine ea hy hc (fun _ hy hc=>?_) (fun _ hy hc=>?_) | with_reducible refine aM hy (fun _ hy=>?_) (fun _ hy=>?_) | with_reducible refine aX hc (fun hc=>?_) | with_reducible refine zo ?_)
  all_goals (subst hy; first | (change Reach _ _ _ _ _ _; apply IH <;> first | omega | assumption) | rfl)
theorem EJ (g:Sem Sh.expr→Sem zg→Sem zg→Sem Sh.expr×Sem zg) (c:Sem Sh.expr→Sem zg→Sem zg→Bool) (hg:FK 53 (zA [Sh.expr,zg,zg] [Sh.expr,zg] (fun x=>c x.1 x.2.1 x.2.2.1) fun x=>((g x.1 x.2.1 x.2.2.1).1,(g x.1 x.2.1 x.2.2.1).2,()))) {C:bW} (hC:∀ id,C.ρ0 id=none) (i1:Sem zg) (ja0:zn) (ja1:Int) (ja2:Int) (ja3:zn) (ja4:zn) (jb0:List UInt8) (jb1:Int) (jb2:Int) (jb3:List UInt8) (jb4:List UInt8) (jc0:List UInt8) (jc1:Int) (jc2:Int) (jc3:List UInt8) (jc4:List UInt8) (ja5:LX) (i2:Int) (lh_3:LX) (hc:ch g c i1 ja0 ja1 ja2 ja3 ja4 jb0 jb1 jb2 jb3 jb4 jc0 jc1 jc2 jc3 jc4 ja5 0 i2 lh_3=true):
  Reach (ET g c) C 53 (zx Tryz.f53 10) (er i1 i2 0 ja0 ja1 ja2 ja3 ja4 ja5 jb0 jb1 jb2 jb3 jb4 jc0 jc1 jc2 jc3 jc4 lh_3) (fun r h=>zX h [Sh.expr,zg] r=some ((bQ g c i1 ja0 ja1 ja2 ja3 ja4 jb0 jb1 jb2 jb3 jb4 jc0 jc1 jc2 jc3 jc4 ja5 0 i2 lh_3).1,(bQ g c i1 ja0 ja1 ja2 ja3 ja4 jb0 jb1 jb2 jb3 jb4 jc0 jc1 jc2 jc3 jc4 ja5 0 i2 lh_3).2,())):=
 Reach.lenB 0 5 (Sh.expr) ja5 rfl rfl fun hl=>Gd g c hg hC i1 ja0 ja1 ja2 ja3 ja4 jb0 jb1 jb2 jb3 jb4 jc0 jc1 jc2 jc3 jc4 ja5 hl _ 0 i2 lh_3 rfl (aZ _) hc
def Cc (g:Sem Sh.expr→Sem zg→Sem zg→Sem Sh.expr×Sem zg) (c:Sem Sh.expr→Sem zg→Sem zg→Bool) (x0:Sem Sh.expr) (x1:Sem zg) (x2:Sem zg):Sem Sh.expr×Sem zg:=if decide ((↑(length (ze.op x0)):Int) > 8)=true then if decide ((↑(length (ze.s x0)):Int) > 20)=true then if decide ((↑(length (ze.v x0).2.2):Int) > 45)=true then bQ g c x1 (ze.op x0) (ze.v x0).1 (ze.v x0).2.1 (ze.v x0).2.2 (ze.s x0) [] 0 0 [] [] (List.take (toNat 8 - toNat 0) (List.drop (toNat 0) (ze.op x0))) (ze.v x0).1 (ze.v x0).2.1 (List.take (toNat 45 - toNat 0) (List.drop (toNat 0) (ze.v x0).2.2)) (List.take (toNat 20 - toNat 0) (List.drop (toNat 0) (ze.s x0))) (ze.l x0) 0 (IntKind.i64.wrap (x2 - 1)) [] else bQ g c x1 (ze.op x0) (ze.v x0).1 (ze.v x0).2.1 (ze.v x0).2.2 (ze.s x0) [] 0 0 [] [] (List.take (toNat 8 - toNat 0) (List.drop (toNat 0) (ze.op x0))) (ze.v x0).1 (ze.v x0).2.1 (ze.v x0).2.2 (List.take (toNat 20 - toNat 0) (List.drop (toNat 0) (ze.s x0))) (ze.l x0) 0 (IntKind.i64.wrap (x2 - 1)) [] else if decide ((↑(length (ze.v x0).2.2):Int) > 45)=true then bQ g c x1 (ze.op x0) (ze.v x0).1 (ze.v x0).2.1 (ze.v x0).2.2 (ze.s x0) [] 0 0 [] [] (List.take (toNat 8 - toNat 0) (List.drop (toNat 0) (ze.op x0))) (ze.v x0).1 (ze.v x0).2.1
 (List.take (toNat 45 - toNat 0) (List.drop (toNat 0) (ze.v x0).2.2)) (ze.s x0) (ze.l x0) 0 (IntKind.i64.wrap (x2 - 1)) [] else bQ g c x1 (ze.op x0) (ze.v x0).1 (ze.v x0).2.1 (ze.v x0).2.2 (ze.s x0) [] 0 0 [] [] (List.take (toNat 8 - toNat 0) (List.drop (toNat 0) (ze.op x0))) (ze.v x0).1 (ze.v x0).2.1 (ze.v x0).2.2 (ze.s x0) (ze.l x0) 0 (IntKind.i64.wrap (x2 - 1)) [] else if decide ((↑(length (ze.s x0)):Int) > 20)=true then if decide ((↑(length (ze.v x0).2.2):Int) > 45)=true then bQ g c x1 (ze.op x0) (ze.v x0).1 (ze.v x0).2.1 (ze.v x0).2.2 (ze.s x0) [] 0 0 [] [] (ze.op x0) (ze.v x0).1 (ze.v x0).2.1 (List.take (toNat 45 - toNat 0) (List.drop (toNat 0) (ze.v x0).2.2)) (List.take (toNat 20 - toNat 0) (List.drop (toNat 0) (ze.s x0))) (ze.l x0) 0 (IntKind.i64.wrap (x2 - 1)) [] else bQ g c x1 (ze.op x0) (ze.v x0).1 (ze.v x0).2.1 (ze.v x0).2.2 (ze.s x0) [] 0 0 [] [] (ze.op x0) (ze.v x0).1 (ze.v x0).2.1 (ze.v x0).2.2 (List.take (toNat 20 - toNat 0) (List.drop (toNat 0) (ze.s x0))) (ze.l x0) 0 (IntKind.i64.wrap (x2 - 1)) [] else if decide ((↑(length (ze.v x0).2.2):Int) > 45)=true then bQ g c x1 (ze.op x0) (ze.v x0).1 (ze.v x0).2.1 (ze.v x0).2.2 (ze.s x0) [] 0 0 [] [] (ze.op x0) (ze.v x0).1
 (ze.v x0).2.1 (List.take (toNat 45 - toNat 0) (List.drop (toNat 0) (ze.v x0).2.2)) (ze.s x0) (ze.l x0) 0 (IntKind.i64.wrap (x2 - 1)) [] else bQ g c x1 (ze.op x0) (ze.v x0).1 (ze.v x0).2.1 (ze.v x0).2.2 (ze.s x0) [] 0 0 [] [] (ze.op x0) (ze.v x0).1 (ze.v x0).2.1 (ze.v x0).2.2 (ze.s x0) (ze.l x0) 0 (IntKind.i64.wrap (x2 - 1)) []
def AH (g:Sem Sh.expr→Sem zg→Sem zg→Sem Sh.expr×Sem zg) (c:Sem Sh.expr→Sem zg→Sem zg→Bool) (x0:Sem Sh.expr) (x1:Sem zg) (x2:Sem zg):Bool:=if decide ((↑(length (ze.op x0)):Int) > 8)=true then if (decide (0≤0)&&decide (0≤8)&&decide (8≤(↑(length (ze.op x0)):Int)))=true then if decide ((↑(length (ze.s x0)):Int) > 20)=true then if (decide (0≤0)&&decide (0≤20)&&decide (20≤(↑(length (ze.s x0)):Int)))=true then if decide ((↑(length (ze.v x0).2.2):Int) > 45)=true then if (decide (0≤0)&&decide (0≤45)&&decide (45≤(↑(length (ze.v x0).2.2):Int)))=true then ch g c x1 (ze.op x0) (ze.v x0).1 (ze.v x0).2.1 (ze.v x0).2.2 (ze.s x0) [] 0 0 [] [] (List.take (toNat 8 - toNat 0) (List.drop (toNat 0) (ze.op x0))) (ze.v x0).1 (ze.v x0).2.1 (List.take (toNat 45 - toNat 0) (List.drop (toNat 0) (ze.v x0).2.2)) (List.take (toNat 20 - toNat 0) (List.drop (toNat 0) (ze.s x0))) (ze.l x0) 0 (IntKind.i64.wrap (x2 - 1)) [] else false else ch g c x1 (ze.op x0) (ze.v x0).1 (ze.v x0).2.1 (ze.v x0).2.2 (ze.s x0) [] 0 0 [] [] (List.take (toNat 8 - toNat 0) (List.drop (toNat 0) (ze.op x0))) (ze.v x0).1 (ze.v x0).2.1 (ze.v x0).2.2
 (List.take (toNat 20 - toNat 0) (List.drop (toNat 0) (ze.s x0))) (ze.l x0) 0 (IntKind.i64.wrap (x2 - 1)) [] else false else if decide ((↑(length (ze.v x0).2.2):Int) > 45)=true then if (decide (0≤0)&&decide (0≤45)&&decide (45≤(↑(length (ze.v x0).2.2):Int)))=true then ch g c x1 (ze.op x0) (ze.v x0).1 (ze.v x0).2.1 (ze.v x0).2.2 (ze.s x0) [] 0 0 [] [] (List.take (toNat 8 - toNat 0) (List.drop (toNat 0) (ze.op x0))) (ze.v x0).1 (ze.v x0).2.1 (List.take (toNat 45 - toNat 0) (List.drop (toNat 0) (ze.v x0).2.2)) (ze.s x0) (ze.l x0) 0 (IntKind.i64.wrap (x2 - 1)) [] else false else ch g c x1 (ze.op x0) (ze.v x0).1 (ze.v x0).2.1 (ze.v x0).2.2 (ze.s x0) [] 0 0 [] [] (List.take (toNat 8 - toNat 0) (List.drop (toNat 0) (ze.op x0))) (ze.v x0).1 (ze.v x0).2.1 (ze.v x0).2.2 (ze.s x0) (ze.l x0) 0 (IntKind.i64.wrap (x2 - 1)) [] else false else if decide ((↑(length (ze.s x0)):Int) > 20)=true then if (decide (0≤0)&&decide (0≤20)&&decide (20≤(↑(length (ze.s x0)):Int)))=true then if decide ((↑(length (ze.v x0).2.2):Int) > 45)=true then if (decide (0≤0)&&decide (0≤45)&&decide (45≤(↑(length (ze.v x0).2.2):Int)))=true then ch g c x1 (ze.op x0) (ze.v x0).1 (ze.v x0).2.1 (ze.v x0).2.2 (ze.s x0) [] 0 0 [] [] (ze.op x0) (ze.v x0).1
 (ze.v x0).2.1 (List.take (toNat 45 - toNat 0) (List.drop (toNat 0) (ze.v x0).2.2)) (List.take (toNat 20 - toNat 0) (List.drop (toNat 0) (ze.s x0))) (ze.l x0) 0 (IntKind.i64.wrap (x2 - 1)) [] else false else ch g c x1 (ze.op x0) (ze.v x0).1 (ze.v x0).2.1 (ze.v x0).2.2 (ze.s x0) [] 0 0 [] [] (ze.op x0) (ze.v x0).1 (ze.v x0).2.1 (ze.v x0).2.2 (List.take (toNat 20 - toNat 0) (List.drop (toNat 0) (ze.s x0))) (ze.l x0) 0 (IntKind.i64.wrap (x2 - 1)) [] else false else if decide ((↑(length (ze.v x0).2.2):Int) > 45)=true then if (decide (0≤0)&&decide (0≤45)&&decide (45≤(↑(length (ze.v x0).2.2):Int)))=true then ch g c x1 (ze.op x0) (ze.v x0).1 (ze.v x0).2.1 (ze.v x0).2.2 (ze.s x0) [] 0 0 [] [] (ze.op x0) (ze.v x0).1 (ze.v x0).2.1 (List.take (toNat 45 - toNat 0) (List.drop (toNat 0) (ze.v x0).2.2)) (ze.s x0) (ze.l x0) 0 (IntKind.i64.wrap (x2 - 1)) [] else false else ch g c x1 (ze.op x0) (ze.v x0).1 (ze.v x0).2.1 (ze.v x0).2.2 (ze.s x0) [] 0 0 [] [] (ze.op x0) (ze.v x0).1 (ze.v x0).2.1 (ze.v x0).2.2 (ze.s x0) (ze.l x0) 0 (IntKind.i64.wrap (x2 - 1)) []
def ZK (g:Sem Sh.expr→Sem zg→Sem zg→Sem Sh.expr×Sem zg) (c:Sem Sh.expr→Sem zg→Sem zg→Bool):zB:=zA [Sh.expr,zg,zg] [Sh.expr,zg] (fun x=>AH g c x.1 x.2.1 x.2.2.1) fun x=>((Cc g c x.1 x.2.1 x.2.2.1).1,(Cc g c x.1 x.2.1 x.2.2.1).2,())
theorem Pb (g:Sem Sh.expr→Sem zg→Sem zg→Sem Sh.expr×Sem zg) (c:Sem Sh.expr→Sem zg→Sem zg→Bool) (hg:FK 53 (zA [Sh.expr,zg,zg] [Sh.expr,zg] (fun x=>c x.1 x.2.1 x.2.2.1) fun x=>((g x.1 x.2.1 x.2.2.1).1,(g x.1 x.2.1 x.2.2.1).2,()))):FK 53 (ZK g c):=by
 refine zL (tA g c) fun x hc C hC=>?_
 unfold AH at hc
 refine zk (sf hg) (tA g c) (fun id _=>hC id) (WG g c x.1 x.2.1 x.2.2.1) ?_
 generalize hy:Cc g c x.1 x.2.1 x.2.2.1=y
 unfold Cc at hy
 try simp only [ze.eta,zt]
 repeat' (first | with_reducible refine ea hy hc (fun _ hy hc=>?_) (fun _ hy hc=>?_) | with_reducible refine aM hy (fun _ hy=>?_) (fun _ hy=>?_) | with_reducible refine aX hc (fun hc=>?_) | with_reducible refine zo ?_)
 all_goals (subst hy; first | (change Reach _ _ _ _ _ _; apply EJ g c hg hC <;> first | assumption | exact hc) | rfl)
mutual
def jN:Nat→Sem Sh.expr→Sem zg→Sem zg→Sem Sh.expr×Sem zg
 | 0=>fun _ _ _=>default
 | n+1=>Cc (jN n) (nN n)
def nN:Nat→Sem Sh.expr→Sem zg→Sem zg→Bool
 | 0=>fun _ _ _=>false
 | n+1=>AH (jN n) (nN n)
end
theorem FS:∀ n,FK 53 (zA [Sh.expr,zg,zg] [Sh.expr,zg] (fun x=>nN n x.1 x.2.1 x.2.2.1) fun x=>((jN n x.1 x.2.1 x.2.2.1).1,(jN n x.1 x.2.1 x.2.2.1).2,()))
 | 0=>cO ⟨Tryz.f53,(tA default default).1,(tA default default).2.1,(tA default default).2.2.1⟩ (fun _=>rfl)
 | n+1=>Pb (jN n) (nN n) (FS n)
def F15:zB:=zA [Sh.expr,zg,zg] [Sh.expr,zg] (fun x=>nN 16 x.1 x.2.1 x.2.2.1) fun x=>((jN 16 x.1 x.2.1 x.2.2.1).1,(jN 16 x.1 x.2.1 x.2.2.1).2,())
theorem Us:FK 53 F15:=FS 16

def Wx (g:ze→ze→Bool):List ze→List ze→Bool
 | x::r,y::s=>if (!g x y)=true then false else Wx g r s
 | _,_=>true
def Ln (g c:ze→ze→Bool):List ze→List ze→Bool
 | x::r,y::s=>if c x y=true then (if (!g x y)=true then true else Ln g c r s) else false
 | _,_=>true

noncomputable def EX (g c:ze→ze→Bool):ba:=Ap.add 128 (zA [.expr,.expr] [.bool] (fun x=>c x.1 x.2.1) (fun x=>(g x.1 x.2.1,())))
theorem sn {g c:ze→ze→Bool} (hg:FK 128 (zA [.expr,.expr] [.bool] (fun x=>c x.1 x.2.1) (fun x=>(g x.1 x.2.1,())))):zm (EX g c):=lA.add hg
abbrev XN:Nat→zS:=fun j=>if j=4 then { slots:=[1,2,15,16,17] } else { }
abbrev Em (l1:List ze) (l15:List ze) (i16:Int) (i17:Int):St:={ tmps:=(tm 32 [(1,AV.sl Sh.expr l1),(2,AV.clo (Fn.func 128) [] []),(15,AV.sl Sh.expr l15),(16,ai i16),(17,ai i17)]),heap:=[] }
theorem LN (g c:ze→ze→Bool):zz (EX g c).P 196 Tryz.f196 3:=aG (by kernel_rfl)
theorem zaI (g c:ze→ze→Bool) (l:List ze) (m:List ze):rn (EX g c) 0 XN Tryz.f196 [AV.sl Sh.expr l,AV.sl Sh.expr m,AV.clo (Fn.func 128) [] []] []=Tr.br ((↑l.length:Int) != (↑m.length:Int)) (Tr.ok (zp.ret (AV.kb false) [])) (Tr.ok (zp.head 4 (zx Tryz.f196 4) (Em m l (↑l.length:Int) 0))):=by kernel_rfl
theorem Iy (g c:ze→ze→Bool) (l1:List ze) (l15:List ze) (i16:Int) (i17:Int):rh (EX g c) 0 XN Tryz.f196 4 (Em l1 l15 i16 i17)=Tr.br (decide (i17 < i16)) (Tr.chk (zH i17 l15.length) (Tr.chk (zH i17 l1.length) (Tr.chk (c (zC (l15.getD i17.toNat (zj Sh.expr))) (zC (l1.getD i17.toNat (zj Sh.expr)))) (Tr.br (!g (zC (l15.getD i17.toNat (zj Sh.expr))) (zC (l1.getD i17.toNat (zj Sh.expr)))) (Tr.ok (zp.ret (AV.kb false) [])) (Tr.ok (zp.head 4 (zx Tryz.f196 4) (Em l1 l15 i16 (IntKind.i64.wrap (i17+1))))))))) (Tr.ok (zp.ret (AV.kb true) [])):=by kernel_rfl

theorem ZU {g c:ze→ze→Bool} (hg:FK 128 (zA [.expr,.expr] [.bool] (fun x=>c x.1 x.2.1) (fun x=>(g x.1 x.2.1,())))) {C:bW} (hC:∀ id,0≤id→C.ρ0 id=none) (l m:List ze) (hlm:l.length=m.length) (hl:l.length≤zD):
  ∀ (k i:Nat),l.length - i=k→i≤l.length→Ln g c (l.drop i) (m.drop i)=true→Reach (EX g c) C 196 (zx Tryz.f196 4) (Em m l l.length i) (fun r h=>(r,h)=(.kb (Wx g (l.drop i) (m.drop i)),[])):=by
 intro k
 induction k with
 | zero=>
  intro i hk hi hc
  obtain rfl:i=l.length:=by omega
  refine zk (sn hg) (LN g c) hC (Iy g c _ _ _ _) ?_
  simp only [ap,Tr.val_brF,cQ]
  rfl
 | succ k IH=>
  intro i hk hi hc
  have hlt:i < l.length:=by omega
  have hlt':i < m.length:=by omega
  refine zk (sn hg) (LN g c) hC (Iy g c _ _ _ _) ?_
  rw [c6 hlt,c6 hlt'] at hc ⊢
  rw [Ln] at hc
  have hc1:=lK hc
  simp only [aH hlt,zN hlt,zN hlt',ag l _ hlt,ag m _ hlt',ze.eta,Tr.val_brT,Tr.val_chkT,hc1.1,zG i (by omega)]
  refine iX (fun h=>?_) (fun h=>?_)
  ·rw [Wx,if_pos h]; rfl
  ·rw [Wx,if_neg (jq h)]
   have h2:=hc1.2
   rw [if_neg (jq h)] at h2
   exact IH (i+1) (by omega) (by omega) h2

def Lo (g:ze→ze→Bool) (l m:List ze):Bool:=if ((↑l.length:Int) != (↑m.length:Int))=true then false else Wx g l m
def wi (g c:ze→ze→Bool) (l m:List ze):Bool:=if ((↑l.length:Int) != (↑m.length:Int))=true then true else Ln g c l m
def G50 (g c:ze→ze→Bool):b7 [some (.sl .expr),some (.sl .expr),none]:=fun x h=>match x,h with
 | (l,m,.clo (.func 128) [] [],_),[]=>.chk (wi g c l m) (.ok (.bool (Lo g l m),[]))
 | _,_=>.err
def F50 (g c:ze→ze→Bool):zB:=zP [some (.sl .expr),some (.sl .expr),none] (G50 g c)

theorem Reach.weaken {E:ba} {C:bW} {fn:FuncId} {todo:List Item} {st:St} {Q Q':AV→List AO→Prop} (h:Reach E C fn todo st Q) (hq:∀ r h,Q r h→∃ r',Q' r' h∧∀ w U ρ v,Rv w U ρ r v→Rv w U ρ r' v):Reach E C fn todo st Q':=by
 intro b cs a w U ρ h1 h2 hc hW
 obtain ⟨e,w',fr,⟨v,r,h',U',ρ',he,hq1,hrv,hrest⟩,hcm⟩:=h b cs a w U ρ h1 h2 hc hW
 obtain ⟨r',hq2,hrr⟩:=hq r h' hq1
 exact ⟨e,w',fr,⟨v,r',h',U',ρ',he,hq2,hrr _ _ _ _ hrv,hrest⟩,hcm⟩

theorem UV {g c:ze→ze→Bool} (hg:FK 128 (zA [.expr,.expr] [.bool] (fun x=>c x.1 x.2.1) (fun x=>(g x.1 x.2.1,())))):FK 196 (F50 g c):=by
 refine bb (E:=EX g c) (LN g c) fun x h0 res hx C hC=>?_
 unfold G50 at hx
 split at hx
 ·rename_i l m u
  simp only [Tr.val] at hx
  split at hx
  ·rename_i hc
   simp only [zZ] at hx
   subst hx
   refine Reach.len 0 .expr l rfl fun hl=>?_
   refine Reach.weaken (Q:=fun r h=>(r,h)=(.kb (Lo g l m),[])) ?_ ?_
   ·refine zk (n0:=0) (sn hg) (LN g c) hC (zaI g c l m) ?_
    unfold wi at hc
    unfold Lo
    refine iX (fun h=>?_) (fun h=>?_)
    ·rw [if_pos h]; rfl
    ·rw [if_neg (jq h)] at hc ⊢
     have:(l.length:Int)=m.length:=by simpa using h
     have:l.length=m.length:=by omega
     exact ZU hg hC l m this hl _ 0 rfl (aZ _) hc
   ·rintro r h hq
    cases hq
    refine ⟨_,rfl,fun w U ρ v hv=>?_⟩
    cases hv
    exact .bool _
  ·simp at hx
 ·simp at hx

noncomputable def Lj (g c:ze→ze→Bool):ba:=Ap.add 196 (F50 g c)
theorem GC {g c:ze→ze→Bool} (hg:FK 128 (zA [.expr,.expr] [.bool] (fun x=>c x.1 x.2.1) (fun x=>(g x.1 x.2.1,())))):zm (Lj g c):=lA.add (UV hg)
def ZD (a b:V):Bool:=a.1==b.1&&(a.2.1==b.2.1&&(a.2.2==b.2.2&&true))
def Ji (g:ze→ze→Bool) (a b:ze):Bool:=bif a.op==b.op then bif ZD a.v b.v then bif a.s==b.s then Lo g a.l b.l else false else false else false
def yn (g c:ze→ze→Bool) (a b:ze):Bool:=bif a.op==b.op then bif ZD a.v b.v then bif a.s==b.s then wi g c a.l b.l else true else true else true
theorem Im (g c:ze→ze→Bool):zz (Lj g c).P 128 Tryz.f128 2:=aG (by kernel_rfl)
theorem zap (g c:ze→ze→Bool) (l:ze) (m:ze):rn (Lj g c) 0 (fun _=>{}) Tryz.f128 [zy Sh.expr l,zy Sh.expr m] []=Tr.chk (yn g c l m) (Tr.ok (zp.ret (AV.bool (Ji g l m)) [])):=by kernel_rfl
theorem Pn {g c:ze→ze→Bool} (hg:FK 128 (zA [.expr,.expr] [.bool] (fun x=>c x.1 x.2.1) (fun x=>(g x.1 x.2.1,())))):FK 128 (zA [.expr,.expr] [.bool] (fun x=>yn g c x.1 x.2.1) (fun x=>(Ji g x.1 x.2.1,()))):=by
 refine zL (E:=Lj g c) (Im g c) fun x hx C hC=>?_
 refine zk (n0:=0) (GC hg) (Im g c) (fun id _=>hC id) (zap g c x.1 x.2.1) ?_
 exact cu hx rfl
mutual
def qt:Nat→ze→ze→Bool
 | 0=>fun _ _=>false
 | n+1=>Ji (qt n)
def jW:Nat→ze→ze→Bool
 | 0=>fun _ _=>false
 | n+1=>yn (qt n) (jW n)
end
theorem FV:∀ n,FK 128 (zA [.expr,.expr] [.bool] (fun x=>jW n x.1 x.2.1) (fun x=>(qt n x.1 x.2.1,())))
 | 0=>cO ⟨Tryz.f128,(Im (fun _ _=>false) (fun _ _=>false)).1,(Im (fun _ _=>false) (fun _ _=>false)).2.1,(Im (fun _ _=>false) (fun _ _=>false)).2.2.1⟩ (fun _=>rfl)
 | n+1=>Pn (FV n)
def F29:zB:=zA [.expr,.expr] [.bool] (fun x=>jW 16 x.1 x.2.1) (fun x=>(qt 16 x.1 x.2.1,()))
theorem UC:FK 128 F29:=FV 16

noncomputable def Dn:=Ap.addL [(53,F15),(128,F29)]
theorem vI:zm Dn:=lA.addL <| fc Us <| fc UC gX
end Cad
