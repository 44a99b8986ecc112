/- The library's functions. Functions from plain data to plain data, where a guard holds; recursion. Values: what may be. Values: what they say. Loops; values in order. Values: order, equal, sums. Values: less; bounded ones. Bounded rows, bounded columns. What is total; lists of types. Names, places. Names, types. Expressions: their types. Expressions: bounded ones; the same ones. -/
import Derived.Test.YtfgnbipebgibeaaGreatDoorG07
import Derived.Test.YtfgnbipebgibeaaGreatDoorG08
import Derived.Test.YtfgnbipebgibeaaGreatDoorG06
namespace Cad
open Go Go.Proofs Go.RowKit Go.Lib
open Int (toNat)
open List (length)

theorem kS.below {w w':World} (h:Below w.heap.size w w'):kS w w':=
 ⟨h.size,h.os,h.output,h.tape,fun a ha=>FW (h.block a.block ha)⟩

theorem gn {E:bS} {C:dl} {w w':World} {U:Nat→Prop} {r:AV} {v:Value} {h0:List AO} {ρ:Nat→Option Value} (hH:iL C w U ρ (fun j=>h0.getD j .dead)) (hnew:∀ id,h0.length≤id→ρ id=none)
  (hr0:∀ id v,C.ρ0 id=some v→ρ id=some v) (hW:Wd E.gl C w U) (hb:Below w.heap.size w w') (hr:Rv w' U ρ r v):Nd E C (fun r' h=>(r',h)=(r,h0)) (.returned v) w':=by
 have hk:∀ b,b < w.heap.size→w'.heap[b]?=w.heap[b]?:=hb.block
 refine ⟨v,r,h0,U,ρ,rfl,rfl,hr,⟨fun id=>?_,hH.inj,hH.blk⟩,hnew,hr0,⟨hW.ext.trans (kS.below hb),fun b hb' hn=>?_,fun b hu=>nB (hW.ub b hu) hb.size,hW.u1,hW.u2,fun g=>?_⟩⟩
 ·exact (hH.ob id).mono hb.size (fun b hb' _=>hk b hb') (fun _ _ h=>h) (fun _ _ h=>h) (fun b ho=>⟨hk b ((hH.ob id).inU ho).2,((hH.ob id).inU ho).1⟩)
 ·rw [hk b (nB hb' hW.ext.sz)]; exact hW.same b hb' hn
 ·exact (hW.gl g).mono hb.size (fun b hb' _=>hk b hb') (fun _ _ h=>h) (fun _ _ h=>h)

noncomputable def Xb:bS:=L8.aut 197 Tryz.f197 1
theorem zdg:zK L8.P 197 Tryz.f197 1:=bN (by kernel_rfl)
theorem N8:zy Xb:=jm GA zdg

def I0 (c:Int):Bool:=bif decide (c < 32) then true else decide (c > 126)

theorem zfq (c:Int):((bh (List.replicate 1 none) (fF L8 Tryz.f197 (List.replicate 1 none))) [.int .i32 c] (fun _=>.dead) 0).val=some { val:=.bool (I0 c) }:=by kernel_rfl

theorem Yl (w:World) (U:Nat→Prop) (hgl:Bo L8.gl w U) (hub:∀ b,U b→b < w.heap.size):PredGrows Tryz.prog 197 #[] (fun r=>I0 r) w:=by
 intro W x hx hB
 have hF:FK 197 (bh (List.replicate 1 none) (fF L8 Tryz.f197 (List.replicate 1 none))):=cm _ GA zdg
 have hr:dh W U (fun _=>none) [.int .i32 (x:Int)] [.int .i32 (x:Int)]:=by
  refine ⟨rfl,fun j c v hc hv=>?_⟩
  cases j with
  | zero=>
   simp at hc hv; subst hc; subst hv
   refine .int _ _ ⟨?_,?_⟩
   ·show (-2147483648:Int)≤x; omega
   ·show (x:Int)≤2147483647; omega
  | succ j=>simp at hc
 have:=(hF.calls W U (fun _=>none) (fun _=>.dead) 0 [.int .i32 (x:Int)] [.int .i32 (x:Int)] _ [] (zfq x) hr (fun b hb=>nB (hub b hb) hB.size) (fun g=>(hgl g).mono hB.size (fun b hb _=>hB.block b hb) (fun _ _ h=>h) (fun _ _ h=>h)) ⟨by simp,by simp⟩ (by simp [AV.idsL,AV.ids]) (by simp) (by simp)).1
 refine this.mono ?_
 rintro e w' ⟨v,U',ρ',rfl,hef⟩
 have hv:=hef.val
 cases hv
 exact ⟨rfl,⟨hef.ext.os,hef.ext.tape,hef.ext.out,hef.ext.sz,fun b hb=>hef.same b hb (by simp)⟩⟩

def sH (s:zw):Int:=Lib.idxFunc (fun r=>I0 r) true ⟨s.toArray⟩

def G36:ie [some .str,none]:=fun x h=>match x,h with
 | (s,.clo (.func 197) [] [],_),[]=>.ok (.int .i64 (sH s),[])
 | _,_=>.err

theorem ze5:Go.Proofs.Enters Tryz.prog 197:=by
  cases hb:Tryz.f197.body with
  | none => have:Tryz.f197.body.isNone=false:=by kernel_rfl
            rw [hb] at this; cases this
  | some c=>exact Go.Proofs.enters_of (fn:=Tryz.f197) (by kernel_rfl) (by kernel_rfl) hb

theorem zag:FK 198 (bh [some .str,none] G36):=by
 refine ic (E:=Xb) ⟨Tryz.f198,by kernel_rfl,by kernel_rfl,by kernel_rfl⟩ fun x h0 res hx=>?_
 unfold G36 at hx
 split at hx
 ·rename_i s u
  simp only [Tr.val_ok,bz] at hx
  subst hx
  intro C w U ρ vals _ hr hH hnew hr0 hW
  have hl:=hr.len
  match vals,hl,hr with
  | [v1,v2],_,hr=>
   have h1:=hr.rv 0 (.str s) v1 rfl rfl
   have h2:=hr.rv 1 (.clo (.func 197) [] []) v2 rfl rfl
   cases h1 with
   | str _ hs=>
   cases h2 with
   | clo _ _ _ vf vc hf hc _ _=>
   have hf':vf=[]:=t7 hf.symm
   have hc':vc=[]:=t7 hc.symm
   subst hf'; subst hc'
   have:=Tryz.strings_IndexFunc_grows 197 #[] ze5 (fun r=>I0 r) ⟨s.toArray⟩ w (Yl w U hW.gl hW.ub)
   refine this.mono ?_
   rintro e w' ⟨rfl,hb⟩
   refine gn hH hnew hr0 hW hb (.int _ _ ?_)
   have hrg:=Lib.idxFunc_range (fun r=>I0 r) true ⟨s.toArray⟩
   have hsz:(⟨s.toArray⟩:ByteArray).size=s.length:=by simp [ByteArray.size]
   have hm:zA=9223372036854775807:=rfl
   rw [hsz] at hrg
   change sH s=-1∨(0≤sH s∧sH s < s.length) at hrg
   refine ⟨?_,?_⟩
   ·show (-9223372036854775808:Int)≤_; omega
   ·show _≤(9223372036854775807:Int); omega
 ·simp at hx

noncomputable def r8:bS:=Xb.add 198 (bh [some .str,none] G36)
theorem jy:zy r8:=N8.add zag
open Go

def iI (ks outs:List Sh) (c:zC (ks.map some)→Bool) (g:zC (ks.map some)→zC (outs.map some)):ie (ks.map some):=fun x h=>match h with
 | []=>.chk (c x) (.ok (v7 outs (g x),[]))
 | _=>.err

def zN (ks outs:List Sh) (c:zC (ks.map some)→Bool) (g:zC (ks.map some)→zC (outs.map some)):zT:=bh (ks.map some) (iI ks outs c g)

theorem au {P:Program} {gl:Nat→AV} {E:bS} {k:FuncId} {f:Func} {ks outs:List Sh} {c:zC (ks.map some)→Bool} {g:zC (ks.map some)→zC (outs.map some)} (hf:zK E.P k f ks.length)
  (h:∀ x,c x=true→∀ C:dl,(∀ id,C.ρ0 id=none)→Reach E C k (bv f) (bc f.ntmps (kF (ks.map some) x) []) (fun r h=>az h outs r=some (g x))) (qp:E.P=P:=by rfl) (qg:E.gl=gl:=by rfl):nl P gl k (zN ks outs c g):=by
 subst qp qg
 refine dD (by simpa using hf) fun x h0 res hx C hC=>?_
 unfold iI at hx
 split at hx
 ·simp only [Tr.val] at hx
  split at hx
  ·rename_i hc
   simp only [bz] at hx
   subst hx
   exact Reach.plain (fun id=>hC id (by simp)) (h x hc C (fun id=>hC id (by simp)))
  ·simp at hx
 ·simp at hx

theorem Dw {P:Program} {gl:Nat→AV} {k:FuncId} {kinds:List (Option Sh)} {ι:Type} [Nonempty ι] {G:ie kinds} {Gs:ι→ie kinds} (h:∀ i,nl P gl k (bh kinds (Gs i)))
  (hg:∀ x h0 res,(G x h0).val=some res→∃ i,(Gs i x h0).val=some res):nl P gl k (bh kinds G):=by
 refine ⟨(h (Classical.choice inferInstance)).fn,?_⟩
 intro w U ρ hp n args vals f fp hv
 have:∃ i,(bh kinds (Gs i) args hp n).val=some f:=by
  unfold bh at hv ⊢
  split at hv
  ·rename_i ps hps
   simp only at hv ⊢
   split at hv
   ·rename_i hcond
    split at hv
    ·rename_i xs hxs
     simp only [Tr.val_bind,fO] at hv
     obtain ⟨res,h1,h2⟩:=hv
     obtain ⟨i,hi⟩:=hg _ _ _ h1
     exact ⟨i,by simp only [hcond,if_true,Tr.val_bind,fO]; exact ⟨res,hi,h2⟩⟩
    ·simp at hv
   ·simp at hv
  ·simp at hv
 obtain ⟨i,hi⟩:=this
 exact (h i).calls w U ρ hp n args vals f fp hi

def KN (ks outs:List Sh) (g:zC (ks.map some)→zC (outs.map some)):ie (ks.map some):=fun x h=>match h with
 | []=>.ok (v7 outs (g x),[])
 | _=>.err

def aD (ks outs:List Sh) (g:zC (ks.map some)→zC (outs.map some)):zT:=bh (ks.map some) (KN ks outs g)

theorem TZ {P:Program} {gl:Nat→AV} {k:FuncId} {ks outs:List Sh} {g:zC (ks.map some)→zC (outs.map some)} (h:nl P gl k (zN ks outs (fun _=>true) g)):nl P gl k (aD ks outs g):=by
 refine Dw (ι:=Unit) (Gs:=fun _=>iI ks outs (fun _=>true) g) (fun _=>h) fun x h0 res hv=>⟨(),?_⟩
 unfold KN at hv
 unfold iI
 split at hv
 ·simpa [Tr.val] using hv
 ·simp at hv

theorem zW {P:Program} {gl:Nat→AV} {E:bS} {k:FuncId} {f:Func} {ks outs:List Sh} {g:zC (ks.map some)→zC (outs.map some)} (hf:zK E.P k f ks.length)
  (h:∀ x,∀ C:dl,(∀ id,C.ρ0 id=none)→Reach E C k (bv f) (bc f.ntmps (kF (ks.map some) x) []) (fun r h=>az h outs r=some (g x))) (qp:E.P=P:=by rfl) (qg:E.gl=gl:=by rfl):nl P gl k (aD ks outs g):=by
 subst qp qg
 exact TZ (au hf fun x _ C hC=>h x C hC)

def Ks (outs:List Sh):zx→Option (zC (outs.map some))
 | .ret v h=>az h outs v
 | _=>none

theorem Tr.sat_of_res {E:bS} {C:dl} {fn:FuncId} {outs:List Sh} {y:zC (outs.map some)} {t:Tr zx} (h:t.val.bind (Ks outs)=some y):t.Sat (iZ E C fn (fun r h=>az h outs r=some y)):=by
 rw [fO] at h
 obtain ⟨l,h1,h2⟩:=h
 refine Tr.sat_of_val h1 ?_
 cases l with
 | ret v h=>exact h2
 | head _ _ _=>cases h2
 | fork _ _ _ _=>cases h2

theorem aQ {E:bS} {C:dl} {k:FuncId} {f:Func} {outs:List Sh} {y:zC (outs.map some)} {n n0:Nat} (hE:zy E) (hf:zK E.P k f n) (hC:∀ id,n0≤id→C.ρ0 id=none) {keep:Nat→aJ} {fuel:Nat}
  {todo:List Item} {st:St} {t:Tr zx} (ht:run E n0 keep f.results.toList fuel todo st=t) (h:t.val.bind (Ks outs)=some y):Reach E C k todo st (fun r h=>az h outs r=some y):=by
 refine cT hE hf hC keep fuel ?_
 rw [ht]
 exact Tr.sat_of_res h

theorem ze.eta:∀ e:ze,ze.mk e.op e.v e.s e.l=e
 | .mk _ _ _ _=>rfl

structure FP (E E0:bS):Prop where
 p:E.P=E0.P
 g:E.gl=E0.gl

theorem FP.refl (E:bS):FP E E:=⟨rfl,rfl⟩
theorem FP.add {E E0:bS} (h:FP E E0) (k:FuncId) (F:zT):FP (E.add k F) E0:=⟨h.p,h.g⟩
abbrev zm (e:ze):ze:=.mk e.op e.v e.s e.l
theorem zn (e:ze):zm e=e:=ze.eta e
open Go Go.Proofs
abbrev TS:=Sem Sh.str
abbrev LX:=List (Sem Sh.expr)
abbrev LC:=List (Sem zh)
abbrev LS:=List (Sem Sh.str)
abbrev LV:=List (Sem zg)
abbrev LI:=List (Sem zf)
abbrev LF:=List (Sem zq)

abbrev V:=Sem zg

def ce (x0:Sem zg):Sem Sh.bool:=if (x0.1==0)=true then if (x0.2.1 != 0)=true then false else x0.2.2==[] else if (x0.1==1)=true then x0.2.2==[] else if (x0.1==2)=true then bif x0.2.1==0 then bif decide ((↑(length x0.2.2):Int)≤40) then decide (sH x0.2.2 < 0) else false else false else if (x0.1==3)=true then bif x0.2.1==0 then x0.2.2==[] else bif x0.2.1==1 then x0.2.2==[] else false else false
theorem zc6:zK r8.P 154 Tryz.f154 1:=bN (by kernel_rfl)
theorem zfg (x0:Sem zg):rn r8 0 (fun _=>{ }) Tryz.f154 [zF zg x0] []=Tr.br (x0.1==0) (Tr.br (x0.2.1 != 0) (Tr.ok (zx.ret (AV.kb false) [])) (Tr.ok (zx.ret (AV.bool (x0.2.2==[])) []))) (Tr.br (x0.1==1) (Tr.ok (zx.ret (AV.bool (x0.2.2==[])) [])) (Tr.br (x0.1==2) (Tr.ok (zx.ret (AV.bool (bif x0.2.1==0 then bif decide ((↑(length x0.2.2):Int)≤40) then decide (sH x0.2.2 < 0) else false else false)) [])) (Tr.br (x0.1==3) (Tr.ok (zx.ret (AV.bool (bif x0.2.1==0 then x0.2.2==[] else bif x0.2.1==1 then x0.2.2==[] else false)) [])) (Tr.ok (zx.ret (AV.kb false) []))))):=by kernel_rfl
def F21:zT:=aD [zg] [Sh.bool] fun x=>(ce x.1,())
theorem Z6:FK 154 F21:=by
 refine zW zc6 fun x C hC=>?_
 refine aQ jy zc6 (fun id _=>hC id) (zfg x.1) ?_
 simp only [Tr.val,ce]
 repeat' split
 all_goals rfl

def aO (x0:Sem zf):Sem zg:=if (x0==0)=true then (0,0,[]) else (3,IntKind.i64.wrap (x0 - 1),[])
theorem zdz:zK r8.P 277 Tryz.f277 1:=bN (by kernel_rfl)
theorem zfJ (x0:Sem zf):rn r8 0 (fun _=>{ }) Tryz.f277 [zF zf x0] []=Tr.br (x0==0) (Tr.ok (zx.ret (AV.agg [ai 0,ai 0,AV.str []]) [])) (Tr.ok (zx.ret (AV.agg [ai 3,ai (IntKind.i64.wrap (x0 - 1)),AV.str []]) [])):=by kernel_rfl
def F57:zT:=aD [zf] [zg] fun x=>(aO x.1,())
theorem zaB:FK 277 F57:=by
 refine zW zdz fun x C hC=>?_
 refine aQ jy zdz (fun id _=>hC id) (zfJ x.1) ?_
 simp only [Tr.val,aO]
 repeat' split
 all_goals rfl

noncomputable def YJ:zT:=bh (List.replicate 1 none) (fF r8 Tryz.f220 (List.replicate 1 none))
theorem Vj:FK 220 YJ:=cm _ jy (bN (by kernel_rfl))

noncomputable def YK:zT:=bh (List.replicate 1 none) (fF r8 Tryz.f221 (List.replicate 1 none))
theorem Vk:FK 221 YK:=cm _ jy (bN (by kernel_rfl))

noncomputable def YL:zT:=bh (List.replicate 1 none) (fF r8 Tryz.f222 (List.replicate 1 none))
theorem Vl:FK 222 YL:=cm _ jy (bN (by kernel_rfl))

noncomputable def kG:=r8.addL [(154,F21),(277,F57),(220,YJ),(221,YK),(222,YL)]
theorem im:zy kG:=jy.addL <| fc Z6 <| fc zaB <| fc Vj <| fc Vk <| fc Vl jp

def aM (x0:Sem zg):Sem zg:=if (!ce x0)=true then (0,0,[]) else x0
theorem zdD:zK kG.P 173 Tryz.f173 1:=bN (by kernel_rfl)
theorem zfN (x0:Sem zg):rn kG 0 (fun _=>{ }) Tryz.f173 [zF zg x0] []=Tr.br (!ce x0) (Tr.ok (zx.ret (AV.agg [ai 0,ai 0,AV.str []]) [])) (Tr.ok (zx.ret (AV.agg [ai x0.1,ai x0.2.1,AV.str x0.2.2]) [])):=by kernel_rfl
def F61:zT:=aD [zg] [zg] fun x=>(aM x.1,())
theorem zaI:FK 173 F61:=by
 refine zW zdD fun x C hC=>?_
 refine aQ im zdD (fun id _=>hC id) (zfN x.1) ?_
 simp only [Tr.val,aM]
 repeat' split
 all_goals rfl

def dB (x0:Sem zg):Sem zf:=if (bif x0.1 != 3 then true else !ce x0)=true then 0 else IntKind.i64.wrap (1+x0.2.1)
theorem zdy:zK kG.P 215 Tryz.f215 1:=bN (by kernel_rfl)
theorem zfI (x0:Sem zg):rn kG 0 (fun _=>{ }) Tryz.f215 [zF zg x0] []=Tr.br (bif x0.1 != 3 then true else !ce x0) (Tr.ok (zx.ret (ai 0) [])) (Tr.ok (zx.ret (ai (IntKind.i64.wrap (1+x0.2.1))) [])):=by kernel_rfl
def F56:zT:=aD [zg] [zf] fun x=>(dB x.1,())
theorem zaA:FK 215 F56:=by
 refine zW zdy fun x C hC=>?_
 refine aQ im zdy (fun id _=>hC id) (zfI x.1) ?_
 simp only [Tr.val,dB]
 repeat' split
 all_goals rfl

def cR (x0:Sem Sh.bool):Sem zg:=if x0=true then aO 2 else aO 1
theorem zdB:zK kG.P 279 Tryz.f279 1:=bN (by kernel_rfl)
theorem zfL (x0:Sem Sh.bool):rn kG 0 (fun _=>{ }) Tryz.f279 [zF Sh.bool x0] []=Tr.br x0 (Tr.ok (zx.ret (AV.agg [ai (aO 2).1,ai (aO 2).2.1,AV.str (aO 2).2.2]) [])) (Tr.ok (zx.ret (AV.agg [ai (aO 1).1,ai (aO 1).2.1,AV.str (aO 1).2.2]) [])):=by kernel_rfl
def F59:zT:=aD [Sh.bool] [zg] fun x=>(cR x.1,())
theorem zaD:FK 279 F59:=by
 refine zW zdB fun x C hC=>?_
 refine aQ im zdB (fun id _=>hC id) (zfL x.1) ?_
 simp only [Tr.val,cR]
 repeat' split
 all_goals rfl

def DL (x0:Sem zf) (x1:Sem zf):Sem zf:=if (x0 != x0)=true then if (x1 != x1)=true then 0 else -1 else if (x1 != x1)=true then 1 else if decide (x0 < x1)=true then -1 else if decide (x0 > x1)=true then 1 else 0
theorem zdG:zK kG.P 175 Tryz.f175 2:=bN (by kernel_rfl)
theorem zfR (x0:Sem zf) (x1:Sem zf):rn kG 0 (fun _=>{ }) Tryz.f175 [zF zf x0,zF zf x1] []=Tr.br (x0 != x0) (Tr.br (x1 != x1) (Tr.ok (zx.ret (ai 0) [])) (Tr.ok (zx.ret (ai (-1)) []))) (Tr.br (x1 != x1) (Tr.ok (zx.ret (ai 1) [])) (Tr.br (decide (x0 < x1)) (Tr.ok (zx.ret (ai (-1)) [])) (Tr.br (decide (x0 > x1)) (Tr.ok (zx.ret (ai 1) [])) (Tr.ok (zx.ret (ai 0) []))))):=by kernel_rfl
def F71:zT:=aD [zf,zf] [zf] fun x=>(DL x.1 x.2.1,())
theorem zaQ:FK 175 F71:=by
 refine zW zdG fun x C hC=>?_
 refine aQ im zdG (fun id _=>hC id) (zfR x.1 x.2.1) ?_
 simp only [Tr.val,DL]
 repeat' split
 all_goals rfl

def rZ (x0:Sem zf) (x1:Sem zf):Sem zf:=if (x0 != x0)=true then if (x1 != x1)=true then 0 else -1 else if (x1 != x1)=true then 1 else if decide (x0 < x1)=true then -1 else if decide (x0 > x1)=true then 1 else 0
theorem zdH:zK kG.P 176 Tryz.f176 2:=bN (by kernel_rfl)
theorem zfS (x0:Sem zf) (x1:Sem zf):rn kG 0 (fun _=>{ }) Tryz.f176 [zF zf x0,zF zf x1] []=Tr.br (x0 != x0) (Tr.br (x1 != x1) (Tr.ok (zx.ret (ai 0) [])) (Tr.ok (zx.ret (ai (-1)) []))) (Tr.br (x1 != x1) (Tr.ok (zx.ret (ai 1) [])) (Tr.br (decide (x0 < x1)) (Tr.ok (zx.ret (ai (-1)) [])) (Tr.br (decide (x0 > x1)) (Tr.ok (zx.ret (ai 1) [])) (Tr.ok (zx.ret (ai 0) []))))):=by kernel_rfl
def F72:zT:=aD [zf,zf] [zf] fun x=>(rZ x.1 x.2.1,())
theorem zaR:FK 176 F72:=by
 refine zW zdH fun x C hC=>?_
 refine aQ im zdH (fun id _=>hC id) (zfS x.1 x.2.1) ?_
 simp only [Tr.val,rZ]
 repeat' split
 all_goals rfl

def DM (x0:Sem Sh.str) (x1:Sem Sh.str):Sem zf:=if (!x0==x0)=true then if (!x1==x1)=true then 0 else -1 else if (!x1==x1)=true then 1 else if Op.bytesLess x0 x1=true then -1 else if (!(Op.bytesLess x0 x1||x0==x1))=true then 1 else 0
theorem zdI:zK kG.P 177 Tryz.f177 2:=bN (by kernel_rfl)
theorem zfT (x0:Sem Sh.str) (x1:Sem Sh.str):rn kG 0 (fun _=>{ }) Tryz.f177 [zF Sh.str x0,zF Sh.str x1] []=Tr.br (!x0==x0) (Tr.br (!x1==x1) (Tr.ok (zx.ret (ai 0) [])) (Tr.ok (zx.ret (ai (-1)) []))) (Tr.br (!x1==x1) (Tr.ok (zx.ret (ai 1) [])) (Tr.br (Op.bytesLess x0 x1) (Tr.ok (zx.ret (ai (-1)) [])) (Tr.br (!(Op.bytesLess x0 x1||x0==x1)) (Tr.ok (zx.ret (ai 1) [])) (Tr.ok (zx.ret (ai 0) []))))):=by kernel_rfl
def F73:zT:=aD [Sh.str,Sh.str] [zf] fun x=>(DM x.1 x.2.1,())
theorem zaS:FK 177 F73:=by
 refine zW zdI fun x C hC=>?_
 refine aQ im zdI (fun id _=>hC id) (zfT x.1 x.2.1) ?_
 simp only [Tr.val,DM]
 repeat' split
 all_goals rfl

noncomputable def jj:=kG.addL [(173,F61),(215,F56),(279,F59),(175,F71),(176,F72),(177,F73)]
theorem eF:zy jj:=im.addL <| fc zaI <| fc zaA <| fc zaD <| fc zaQ <| fc zaR <| fc zaS jp

theorem AF {E:bS} {C:dl} {k:FuncId} {f:Func} {Q:AV→List AO→Prop} {n n0:Nat} (hE:zy E) (hf:zK E.P k f n) (hC:∀ id,n0≤id→C.ρ0 id=none) {keep:Nat→aJ} {fuel:Nat}
  {todo:List Item} {st:St} {t:Tr zx} {l:zx} (ht:run E n0 keep f.results.toList fuel todo st=t) (h:t.val=some l) (hl:iZ E C k Q l):Reach E C k todo st Q:=
 cT hE hf hC keep fuel (by rw [ht]; exact Tr.sat_of_val h hl)

def fN {α:Type} (Φ:α→Prop):Option α→Prop
 | some a=>Φ a
 | none=>False

theorem zr {E:bS} {C:dl} {k:FuncId} {f:Func} {Q:AV→List AO→Prop} {n n0:Nat} (hE:zy E) (hf:zK E.P k f n) (hC:∀ id,n0≤id→C.ρ0 id=none) {keep:Nat→aJ} {fuel:Nat}
  {todo:List Item} {st:St} {t:Tr zx} (ht:run E n0 keep f.results.toList fuel todo st=t) (h:fN (iZ E C k Q) t.val):Reach E C k todo st Q:=by
 cases hv:t.val with
 | none=>rw [hv] at h; exact h.elim
 | some l=>rw [hv] at h; exact AF hE hf hC ht hv h

def GK {α β R:Type} (f:β→Nat→α→β ⊕ R) (fin:β→R):List α→Nat→β→R
 | [],_,b=>fin b
 | x::r,i,b=>match f b i x with
  | .inl b'=>GK f fin r (i+1) b'
  | .inr y=>y

def RB {E:bS} {C:dl} {k:FuncId} {K:List Item} {β R:Type} (st:β→Nat→St) (Q:R→AV→List AO→Prop) (b:β) (i:Nat):β ⊕ R→Prop
 | .inl b'=>∀ q,Reach E C k K (st b' (i+1)) q→Reach E C k K (st b i) q
 | .inr y=>Reach E C k K (st b i) (Q y)

theorem AG {E:bS} {C:dl} {k:FuncId} {K:List Item} {α β R:Type} (l:List α) (st:β→Nat→St) (f:β→Nat→α→β ⊕ R) (fin:β→R) (Q:R→AV→List AO→Prop) (I:β→Nat→Prop)
  (hstep:∀ b i (hi:i < l.length),I b i→RB (E:=E) (C:=C) (k:=k) (K:=K) st Q b i (f b i l[i])∧∀ b',f b i l[i]=.inl b'→I b' (i+1))
  (hend:∀ b,I b l.length→Reach E C k K (st b l.length) (Q (fin b))):∀ (m i:Nat) (b:β),l.length - i=m→i≤l.length→I b i→Reach E C k K (st b i) (Q (GK f fin (l.drop i) i b))
 | 0,i,b,hm,hi,hI=>by
  have:i=l.length:=by omega
  subst this
  rw [ey]
  exact hend b hI
 | m+1,i,b,hm,hi,hI=>by
  have hlt:i < l.length:=by omega
  rw [dF hlt]
  obtain ⟨h1,h2⟩:=hstep b i hlt hI
  simp only [GK]
  cases hf:f b i l[i] with
  | inl b'=>
   rw [hf] at h1
   exact h1 _ (AG l st f fin Q I hstep hend m (i+1) b' (by omega) (by omega) (h2 b' hf))
  | inr y=>
   rw [hf] at h1
   exact h1

theorem zM {i n:Nat} (h:i < n):decide ((i:Int) < (n:Int))=true:=by simpa using h
theorem zH (n:Nat):decide ((n:Int) < (n:Int))=false:=by simp
theorem zB {i n:Nat} (h:i < n):zR (i:Int) n=true:=by simp [zR,h]

def PK:List Int→Int
 | []=>0
 | x::r=>if x != 0 then x else PK r

abbrev zcK:Nat→aJ:=fun j=>if j=3 then { slots:=[3,6,7,8] } else { }
abbrev Lc (i3:Int) (l6:List (Sem zf)) (i7:Int) (i8:Int):St:={ tmps:=(tm 18 [(3,ai i3),(6,AV.sl (Sh.int IntKind.i64) l6),(7,ai i7),(8,ai i8)]),heap:=[] }
theorem Pu:zK jj.P 174 Tryz.f174 1:=bN (by kernel_rfl)
theorem zfQ (k:List (Sem zf)):rn jj 0 zcK Tryz.f174 [AV.sl zf k] []=Tr.ok (zx.head 3 (zI Tryz.f174 3) (Lc 0 k (↑k.length) 0)):=by kernel_rfl
theorem I4 (i3:Int) (l6:List (Sem zf)) (i7:Int) (i8:Int):rh jj 0 zcK Tryz.f174 3 (Lc i3 l6 i7 i8)=Tr.br (decide (i8 < i7)) (Tr.chk (zR i8 l6.length) (Tr.br (l6.getD i8.toNat (zi (Sh.int IntKind.i64)) != i3) (Tr.ok (zx.ret (ai (l6.getD i8.toNat (zi (Sh.int IntKind.i64)))) [])) (Tr.ok (zx.head 3 (zI Tryz.f174 3) (Lc i3 l6 i7 (IntKind.i64.wrap (i8+1))))))) (Tr.ok (zx.ret (ai i3) [])):=by kernel_rfl

def f70:Unit→Nat→Int→Unit ⊕ Int:=fun _ _ x=>if x != 0 then .inr x else .inl ()
theorem Oe:∀ (l:List Int) (i:Nat),GK f70 (fun _=>0) l i ()=PK l
 | [],_=>rfl
 | x::r,i=>by
  simp only [GK,f70,PK]
  split
  ·rename_i h; split at h <;> simp_all [Oe r (i+1)]
  ·rename_i h; split at h <;> simp_all

def F70:zT:=aD [.sl zf] [zf] fun x=>(PK x.1,())
theorem zaP:FK 174 F70:=by
 refine zW Pu fun x C hC=>?_
 obtain ⟨l,u⟩:=x
 refine Reach.len 0 zf l rfl fun hl=>?_
 refine AF eF Pu (fun id _=>hC id) (zfQ l) rfl ?_
 have:=AG (E:=jj) (C:=C) (k:=174) (K:=zI Tryz.f174 3) l (fun (_:Unit) i=>Lc 0 l l.length i) f70 (fun _=>(0:Int)) (fun y r h=>az h [zf] r=some (y,())) (fun _ _=>True)
  (fun b i hi _=>⟨by
   unfold f70
   split
   ·rename_i h
    refine zr eF Pu (fun id _=>hC id) (I4 _ _ _ _) ?_
    simp only [Tr.val,zM hi,zB hi,bt l _ hi,h,if_true]
    rfl
   ·rename_i h
    intro q hq
    refine zr eF Pu (fun id _=>hC id) (I4 _ _ _ _) ?_
    simp only [Tr.val,zM hi,zB hi,bt l _ hi,h,if_true,zt i (by omega)]
    exact hq,fun _ _=>trivial⟩)
  (fun b _=>by
   refine zr eF Pu (fun id _=>hC id) (I4 _ _ _ _) ?_
   simp only [Tr.val,zH]
   rfl) _ 0 () rfl (by omega) trivial
 rw [Oe] at this
 exact this

def eu (x0:Sem zg) (x1:Sem zg):Sem Sh.bool:=bif (aM x0).1 != 0 then (aM x0).1==(aM x1).1 else false
theorem zdA:zK jj.P 278 Tryz.f278 2:=bN (by kernel_rfl)
theorem zfK (x0:Sem zg) (x1:Sem zg):rn jj 0 (fun _=>{ }) Tryz.f278 [zF zg x0,zF zg x1] []=Tr.ok (zx.ret (AV.bool (bif (aM x0).1 != 0 then (aM x0).1==(aM x1).1 else false)) []):=by kernel_rfl
def F58:zT:=aD [zg,zg] [Sh.bool] fun x=>(eu x.1 x.2.1,())
theorem zaC:FK 278 F58:=by
 refine zW zdA fun x C hC=>?_
 refine aQ eF zdA (fun id _=>hC id) (zfK x.1 x.2.1) ?_
 simp only [Tr.val,eu]
 repeat' split
 all_goals rfl

def BM (x0:Sem zg) (x1:Sem zg):Sem zg:=if (bif dB x0==1 then true else dB x1==1)=true then aO 1 else if (bif dB x0==2 then dB x1==2 else false)=true then aO 2 else aO 0
theorem zdj:zK jj.P 252 Tryz.f252 2:=bN (by kernel_rfl)
theorem zfs (x0:Sem zg) (x1:Sem zg):rn jj 0 (fun _=>{ }) Tryz.f252 [zF zg x0,zF zg x1] []=Tr.br (bif dB x0==1 then true else dB x1==1) (Tr.ok (zx.ret (AV.agg [ai (aO 1).1,ai (aO 1).2.1,AV.str (aO 1).2.2]) [])) (Tr.br (bif dB x0==2 then dB x1==2 else false) (Tr.ok (zx.ret (AV.agg [ai (aO 2).1,ai (aO 2).2.1,AV.str (aO 2).2.2]) [])) (Tr.ok (zx.ret (AV.agg [ai (aO 0).1,ai (aO 0).2.1,AV.str (aO 0).2.2]) []))):=by kernel_rfl
def F38:zT:=aD [zg,zg] [zg] fun x=>(BM x.1 x.2.1,())
theorem zai:FK 252 F38:=by
 refine zW zdj fun x C hC=>?_
 refine aQ eF zdj (fun id _=>hC id) (zfs x.1 x.2.1) ?_
 simp only [Tr.val,BM]
 repeat' split
 all_goals rfl

def QI (x0:Sem zg) (x1:Sem zg):Sem zg:=if (bif dB x0==2 then true else dB x1==2)=true then aO 2 else if (bif dB x0==1 then dB x1==1 else false)=true then aO 1 else aO 0
theorem zdk:zK jj.P 253 Tryz.f253 2:=bN (by kernel_rfl)
theorem zft (x0:Sem zg) (x1:Sem zg):rn jj 0 (fun _=>{ }) Tryz.f253 [zF zg x0,zF zg x1] []=Tr.br (bif dB x0==2 then true else dB x1==2) (Tr.ok (zx.ret (AV.agg [ai (aO 2).1,ai (aO 2).2.1,AV.str (aO 2).2.2]) [])) (Tr.br (bif dB x0==1 then dB x1==1 else false) (Tr.ok (zx.ret (AV.agg [ai (aO 1).1,ai (aO 1).2.1,AV.str (aO 1).2.2]) [])) (Tr.ok (zx.ret (AV.agg [ai (aO 0).1,ai (aO 0).2.1,AV.str (aO 0).2.2]) []))):=by kernel_rfl
def F39:zT:=aD [zg,zg] [zg] fun x=>(QI x.1 x.2.1,())
theorem zaj:FK 253 F39:=by
 refine zW zdk fun x C hC=>?_
 refine aQ eF zdk (fun id _=>hC id) (zft x.1 x.2.1) ?_
 simp only [Tr.val,QI]
 repeat' split
 all_goals rfl

def wq (x0:Sem zg):Sem zg:=if (dB x0==2)=true then aO 1 else if (dB x0==1)=true then aO 2 else aO 0
theorem zdm:zK jj.P 255 Tryz.f255 1:=bN (by kernel_rfl)
theorem zfv (x0:Sem zg):rn jj 0 (fun _=>{ }) Tryz.f255 [zF zg x0] []=Tr.br (dB x0==2) (Tr.ok (zx.ret (AV.agg [ai (aO 1).1,ai (aO 1).2.1,AV.str (aO 1).2.2]) [])) (Tr.br (dB x0==1) (Tr.ok (zx.ret (AV.agg [ai (aO 2).1,ai (aO 2).2.1,AV.str (aO 2).2.2]) [])) (Tr.ok (zx.ret (AV.agg [ai (aO 0).1,ai (aO 0).2.1,AV.str (aO 0).2.2]) []))):=by kernel_rfl
def F41:zT:=aD [zg] [zg] fun x=>(wq x.1,())
theorem zal:FK 255 F41:=by
 refine zW zdm fun x C hC=>?_
 refine aQ eF zdm (fun id _=>hC id) (zfv x.1) ?_
 simp only [Tr.val,wq]
 repeat' split
 all_goals rfl

def iK (x0:Sem zg):Sem zg:=cR ((aM x0).1==0)
theorem zdt:zK jj.P 261 Tryz.f261 1:=bN (by kernel_rfl)
theorem zfB (x0:Sem zg):rn jj 0 (fun _=>{ }) Tryz.f261 [zF zg x0] []=Tr.ok (zx.ret (AV.agg [ai (cR ((aM x0).1==0)).1,ai (cR ((aM x0).1==0)).2.1,AV.str (cR ((aM x0).1==0)).2.2]) []):=by kernel_rfl
def F47:zT:=aD [zg] [zg] fun x=>(iK x.1,())
theorem zar:FK 261 F47:=by
 refine zW zdt fun x C hC=>?_
 refine aQ eF zdt (fun id _=>hC id) (zfB x.1) ?_
 simp only [Tr.val,iK]
 repeat' split
 all_goals rfl

noncomputable def kH:=jj.addL [(174,F70),(278,F58),(252,F38),(253,F39),(255,F41),(261,F47)]
theorem io:zy kH:=eF.addL <| fc zaP <| fc zaC <| fc zai <| fc zaj <| fc zal <| fc zar jp

def dq (x0:Sem zg) (x1:Sem zg):Sem zf:=PK [DL (aM x0).1 (aM x1).1,rZ (aM x0).2.1 (aM x1).2.1,DM (aM x0).2.2 (aM x1).2.2]
theorem zdC:zK kH.P 123 Tryz.f123 2:=bN (by kernel_rfl)
theorem zfM (x0:Sem zg) (x1:Sem zg):rn kH 0 (fun _=>{ }) Tryz.f123 [zF zg x0,zF zg x1] []=Tr.ok (zx.ret (AV.int IntKind.i64 (PK [DL (aM x0).1 (aM x1).1,rZ (aM x0).2.1 (aM x1).2.1,DM (aM x0).2.2 (aM x1).2.2])) []):=by kernel_rfl
def F60:zT:=aD [zg,zg] [zf] fun x=>(dq x.1 x.2.1,())
theorem zaH:FK 123 F60:=by
 refine zW zdC fun x C hC=>?_
 refine aQ io zdC (fun id _=>hC id) (zfM x.1 x.2.1) ?_
 simp only [Tr.val,dq]
 repeat' split
 all_goals rfl

def lh (x0:Sem zg) (x1:Sem zg):Sem zg:=if (!eu x0 x1)=true then (0,0,[]) else cR (x0.1==x1.1&&(x0.2.1==x1.2.1&&(x0.2.2==x1.2.2&&true)))
theorem zdn:zK kH.P 256 Tryz.f256 2:=bN (by kernel_rfl)
theorem zfw (x0:Sem zg) (x1:Sem zg):rn kH 0 (fun _=>{ }) Tryz.f256 [zF zg x0,zF zg x1] []=Tr.br (!eu x0 x1) (Tr.ok (zx.ret (AV.agg [ai 0,ai 0,AV.str []]) [])) (Tr.ok (zx.ret (AV.agg [ai (cR (x0.1==x1.1&&(x0.2.1==x1.2.1&&(x0.2.2==x1.2.2&&true)))).1,ai (cR (x0.1==x1.1&&(x0.2.1==x1.2.1&&(x0.2.2==x1.2.2&&true)))).2.1,AV.str (cR (x0.1==x1.1&&(x0.2.1==x1.2.1&&(x0.2.2==x1.2.2&&true)))).2.2]) [])):=by kernel_rfl
def F42:zT:=aD [zg,zg] [zg] fun x=>(lh x.1 x.2.1,())
theorem zam:FK 256 F42:=by
 refine zW zdn fun x C hC=>?_
 refine aQ io zdn (fun id _=>hC id) (zfw x.1 x.2.1) ?_
 simp only [Tr.val,lh]
 repeat' split
 all_goals rfl

def qG (x0:Sem zg) (x1:Sem zg):Sem zg:=if (bif !eu x0 x1 then true else x0.1 != 1)=true then (0,0,[]) else if (bif decide (x1.2.1 > 0) then bif decide (IntKind.i64.wrap (x0.2.1+x1.2.1) < x0.2.1) then true else bif decide (x1.2.1 < 0) then decide (IntKind.i64.wrap (x0.2.1+x1.2.1) > x0.2.1) else false else bif decide (x1.2.1 < 0) then decide (IntKind.i64.wrap (x0.2.1+x1.2.1) > x0.2.1) else false)=true then (0,0,[]) else (1,IntKind.i64.wrap (x0.2.1+x1.2.1),[])
theorem zdq:zK kH.P 258 Tryz.f258 2:=bN (by kernel_rfl)
theorem zfy (x0:Sem zg) (x1:Sem zg):rn kH 0 (fun _=>{ }) Tryz.f258 [zF zg x0,zF zg x1] []=Tr.br (bif !eu x0 x1 then true else x0.1 != 1) (Tr.ok (zx.ret (AV.agg [ai 0,ai 0,AV.str []]) [])) (Tr.br (bif decide (x1.2.1 > 0) then bif decide (IntKind.i64.wrap (x0.2.1+x1.2.1) < x0.2.1) then true else bif decide (x1.2.1 < 0) then decide (IntKind.i64.wrap (x0.2.1+x1.2.1) > x0.2.1) else false else bif decide (x1.2.1 < 0) then decide (IntKind.i64.wrap (x0.2.1+x1.2.1) > x0.2.1) else false) (Tr.ok (zx.ret (AV.agg [ai 0,ai 0,AV.str []]) [])) (Tr.ok (zx.ret (AV.agg [ai 1,ai (IntKind.i64.wrap (x0.2.1+x1.2.1)),AV.str []]) []))):=by kernel_rfl
def F44:zT:=aD [zg,zg] [zg] fun x=>(qG x.1 x.2.1,())
theorem zao:FK 258 F44:=by
 refine zW zdq fun x C hC=>?_
 refine aQ io zdq (fun id _=>hC id) (zfy x.1 x.2.1) ?_
 simp only [Tr.val,qG]
 repeat' split
 all_goals rfl

def ll (x0:Sem zg) (x1:Sem zg):Sem zg:=if (bif !eu x0 x1 then true else x0.1 != 1)=true then (0,0,[]) else if (bif decide (x1.2.1 > 0) then bif decide (IntKind.i64.wrap (x0.2.1 - x1.2.1) > x0.2.1) then true else bif decide (x1.2.1 < 0) then decide (IntKind.i64.wrap (x0.2.1 - x1.2.1) < x0.2.1) else false else bif decide (x1.2.1 < 0) then decide (IntKind.i64.wrap (x0.2.1 - x1.2.1) < x0.2.1) else false)=true then (0,0,[]) else (1,IntKind.i64.wrap (x0.2.1 - x1.2.1),[])
theorem zdr:zK kH.P 259 Tryz.f259 2:=bN (by kernel_rfl)
theorem zfz (x0:Sem zg) (x1:Sem zg):rn kH 0 (fun _=>{ }) Tryz.f259 [zF zg x0,zF zg x1] []=Tr.br (bif !eu x0 x1 then true else x0.1 != 1) (Tr.ok (zx.ret (AV.agg [ai 0,ai 0,AV.str []]) [])) (Tr.br (bif decide (x1.2.1 > 0) then bif decide (IntKind.i64.wrap (x0.2.1 - x1.2.1) > x0.2.1) then true else bif decide (x1.2.1 < 0) then decide (IntKind.i64.wrap (x0.2.1 - x1.2.1) < x0.2.1) else false else bif decide (x1.2.1 < 0) then decide (IntKind.i64.wrap (x0.2.1 - x1.2.1) < x0.2.1) else false) (Tr.ok (zx.ret (AV.agg [ai 0,ai 0,AV.str []]) [])) (Tr.ok (zx.ret (AV.agg [ai 1,ai (IntKind.i64.wrap (x0.2.1 - x1.2.1)),AV.str []]) []))):=by kernel_rfl
def F45:zT:=aD [zg,zg] [zg] fun x=>(ll x.1 x.2.1,())
theorem zap:FK 259 F45:=by
 refine zW zdr fun x C hC=>?_
 refine aQ io zdr (fun id _=>hC id) (zfz x.1 x.2.1) ?_
 simp only [Tr.val,ll]
 repeat' split
 all_goals rfl

def Ln (x0:Sem zg) (_:Sem zg):Sem zg:=wq x0
theorem zdl:zK kH.P 254 Tryz.f254 2:=bN (by kernel_rfl)
theorem zfu (x0:Sem zg) (x1:Sem zg):rn kH 0 (fun _=>{ }) Tryz.f254 [zF zg x0,zF zg x1] []=Tr.ok (zx.ret (AV.agg [ai (wq x0).1,ai (wq x0).2.1,AV.str (wq x0).2.2]) []):=by kernel_rfl
def F40:zT:=aD [zg,zg] [zg] fun x=>(Ln x.1 x.2.1,())
theorem zak:FK 254 F40:=by
 refine zW zdl fun x C hC=>?_
 refine aQ io zdl (fun id _=>hC id) (zfu x.1 x.2.1) ?_
 simp only [Tr.val,Ln]
 repeat' split
 all_goals rfl

def Fy (x0:Sem zg) (_:Sem zg):Sem zg:=iK x0
theorem zds:zK kH.P 260 Tryz.f260 2:=bN (by kernel_rfl)
theorem zfA (x0:Sem zg) (x1:Sem zg):rn kH 0 (fun _=>{ }) Tryz.f260 [zF zg x0,zF zg x1] []=Tr.ok (zx.ret (AV.agg [ai (iK x0).1,ai (iK x0).2.1,AV.str (iK x0).2.2]) []):=by kernel_rfl
def F46:zT:=aD [zg,zg] [zg] fun x=>(Fy x.1 x.2.1,())
theorem zaq:FK 260 F46:=by
 refine zW zds fun x C hC=>?_
 refine aQ io zds (fun id _=>hC id) (zfA x.1 x.2.1) ?_
 simp only [Tr.val,Fy]
 repeat' split
 all_goals rfl

noncomputable def qe:=kH.addL [(123,F60),(256,F42),(258,F44),(259,F45),(254,F40),(260,F46)]
theorem jz:zy qe:=io.addL <| fc zaH <| fc zam <| fc zao <| fc zap <| fc zak <| fc zaq jp

def qF (x0:Sem zg) (x1:Sem zg):Sem zg:=if (!eu x0 x1)=true then (0,0,[]) else cR (decide (dq x0 x1 < 0))
theorem zdp:zK qe.P 257 Tryz.f257 2:=bN (by kernel_rfl)
theorem zfx (x0:Sem zg) (x1:Sem zg):rn qe 0 (fun _=>{ }) Tryz.f257 [zF zg x0,zF zg x1] []=Tr.br (!eu x0 x1) (Tr.ok (zx.ret (AV.agg [ai 0,ai 0,AV.str []]) [])) (Tr.ok (zx.ret (AV.agg [ai (cR (decide (dq x0 x1 < 0))).1,ai (cR (decide (dq x0 x1 < 0))).2.1,AV.str (cR (decide (dq x0 x1 < 0))).2.2]) [])):=by kernel_rfl
def F43:zT:=aD [zg,zg] [zg] fun x=>(qF x.1 x.2.1,())
theorem zan:FK 257 F43:=by
 refine zW zdp fun x C hC=>?_
 refine aQ jz zdp (fun id _=>hC id) (zfx x.1 x.2.1) ?_
 simp only [Tr.val,qF]
 repeat' split
 all_goals rfl

def BN (x0:Sem zg):Sem zg:=if decide ((↑(length x0.2.2):Int) > 60)=true then (x0.1,x0.2.1,List.take (toNat 60 - toNat 0) (List.drop (toNat 0) x0.2.2)) else x0
def Dr (x0:Sem zg):Bool:=bif decide ((↑(length x0.2.2):Int) > 60) then decide (0≤0)&&decide (0≤60)&&decide (60≤(↑(length x0.2.2):Int)) else true
theorem zc2:zK qe.P 58 Tryz.f58 1:=bN (by kernel_rfl)
theorem zfc (x0:Sem zg):rn qe 0 (fun _=>{ }) Tryz.f58 [zF zg x0] []=Tr.br (decide ((↑(length x0.2.2):Int) > 60)) (Tr.chk (decide (0≤0)&&decide (0≤60)&&decide (60≤(↑(length x0.2.2):Int))) (Tr.ok (zx.ret (AV.agg [ai x0.1,ai x0.2.1,AV.str (List.take (toNat 60 - toNat 0) (List.drop (toNat 0) x0.2.2))]) []))) (Tr.ok (zx.ret (AV.agg [ai x0.1,ai x0.2.1,AV.str x0.2.2]) [])):=by kernel_rfl
def F14:zT:=zN [zg] [zg] (fun x=>Dr x.1) fun x=>(BN x.1,())
theorem TV:FK 58 F14:=by
 refine au zc2 fun x hx C hC=>?_
 refine aQ jz zc2 (fun id _=>hC id) (zfc x.1) ?_
 simp only [Dr,Bool.cond_eq_ite] at hx
 simp only [Tr.val,BN]
 repeat' split
 all_goals first | rfl | simp_all

def u4 (x0:Sem Sh.str):Sem Sh.str:=if decide ((↑(length x0):Int) > 20)=true then List.take (toNat 20 - toNat 0) (List.drop (toNat 0) x0) else x0
def Ld (x0:Sem Sh.str):Bool:=bif decide ((↑(length x0):Int) > 20) then decide (0≤0)&&decide (0≤20)&&decide (20≤(↑(length x0):Int)) else true
theorem zc1:zK qe.P 99 Tryz.f99 1:=bN (by kernel_rfl)
theorem zfa (x0:Sem Sh.str):rn qe 0 (fun _=>{ }) Tryz.f99 [zF Sh.str x0] []=Tr.br (decide ((↑(length x0):Int) > 20)) (Tr.chk (decide (0≤0)&&decide (0≤20)&&decide (20≤(↑(length x0):Int))) (Tr.ok (zx.ret (AV.str (List.take (toNat 20 - toNat 0) (List.drop (toNat 0) x0))) []))) (Tr.ok (zx.ret (AV.str x0) [])):=by kernel_rfl
def F12:zT:=zN [Sh.str] [Sh.str] (fun x=>Ld x.1) fun x=>(u4 x.1,())
theorem TT:FK 99 F12:=by
 refine au zc1 fun x hx C hC=>?_
 refine aQ jz zc1 (fun id _=>hC id) (zfa x.1) ?_
 simp only [Ld,Bool.cond_eq_ite] at hx
 simp only [Tr.val,u4]
 repeat' split
 all_goals first | rfl | simp_all

noncomputable def F79:zT:=bh (List.replicate 2 none) (fF qe Tryz.f227 (List.replicate 2 none))
theorem zaU:FK 227 F79:=cm _ jz (bN (by kernel_rfl))

noncomputable def F18:zT:=bh (List.replicate 2 none) (fF qe Tryz.f47 (List.replicate 2 none))
theorem Z5:FK 47 F18:=cm _ jz (bN (by kernel_rfl))

noncomputable def m4:=qe.addL [(257,F43),(58,F14),(99,F12),(227,F79),(47,F18)]
theorem ip:zy m4:=jz.addL <| fc zan <| fc TV <| fc TT <| fc zaU <| fc Z5 jp

theorem Reach.lenB {E:bS} {C:dl} {fn:FuncId} {todo:List Item} {st:St} {Q:AV→List AO→Prop} (id c:Nat) (e:Sh) (l:List (Sem e)) {cs:List AV} (h1:st.heap[id]?=some (.box cs)) (h2:cs[c]?=some (.sl e l)) (h:l.length≤zA→Reach E C fn todo st Q):Reach E C fn todo st Q:=by
 intro b cs' a w U ρ q1 q2 hc hW
 refine h ?_ b cs' a w U ρ q1 q2 hc hW
 have ho:=hc.hp.ob id
 rw [show st.hp id=.box cs by simp [St.hp,h1]] at ho
 obtain ⟨bk,T,vals,_,_,_,hr,_⟩:=ho
 have hlt:c < vals.toList.length:=by rw [← hr.len]; exact (cn.1 h2).1
 have:=hr.rv c _ _ h2 (zP hlt)
 generalize vals.toList[c]=v at this
 cases this with
 | sl0=>simp
 | sl _ _ _ _ _ _ _ hm=>exact hm

abbrev kp6:Nat→aJ:=fun j=>if j=3 then { slots:=[0,3,4],prom:=[(3,none,zg)] } else { }
abbrev Qj (l0:List (Sem zg)) (i4:Int) (lh_0:List (Sem zg)):St:={ tmps:=(tm 24 [(0,AV.sl zg l0),(3,AV.vec 0),(4,ai i4)]),heap:=[AO.vec zg lh_0] }
theorem ok6:zK m4.P 26 Tryz.f26 1:=bN (by kernel_rfl)
theorem go6 (x0:Sem zg.sl):rn m4 0 kp6 Tryz.f26 [zF zg.sl x0] []=Tr.ok (zx.head 3 (zI Tryz.f26 3) (Qj x0 0 [])):=by kernel_rfl
theorem U7 (l0:List (Sem zg)) (i4:Int) (lh_0:List (Sem zg)):rh m4 0 kp6 Tryz.f26 3 (Qj l0 i4 lh_0)=Tr.br (bif decide (i4 < (↑l0.length:Int)) then decide (i4 < 14) else false) (Tr.chk (zR i4 l0.length) (Tr.chk (Dr (l0.getD i4.toNat (zi zg))) (Tr.chk (decide (lh_0.length+[BN (l0.getD i4.toNat (zi zg))].length≤1073741824)) (Tr.ok (zx.head 3 (zI Tryz.f26 3) (Qj l0 (IntKind.i64.wrap (i4+1)) (lh_0++[BN (l0.getD i4.toNat (zi zg))]))))))) (Tr.ok (zx.ret (AV.vec 0) [AO.vec zg lh_0])):=by kernel_rfl
def iH:List (Sem zg)→Int→List (Sem zg)→Sem zg.sl
 | [],_,lh_0=>lh_0
 | x::r,i4,lh_0=>if decide (i4 < 14)=true then iH r (i4+1) (lh_0++[BN x]) else lh_0
def iQ:List (Sem zg)→Int→List (Sem zg)→Bool
 | [],_,_=>true
 | x::r,i4,lh_0=>if decide (i4 < 14)=true then Dr x&&(decide (lh_0.length+[BN x].length≤1073741824)&&iQ r (i4+1) (lh_0++[BN x])) else true
theorem zbj {C:dl} (hC:∀ id,C.ρ0 id=none) (l0:List (Sem zg)) (hl:l0.length≤zA):∀ (m i:Nat) (lh_0:List (Sem zg)),l0.length - i=m→i≤l0.length→iQ (l0.drop i) i lh_0=true→
  Reach m4 C 26 (zI Tryz.f26 3) (Qj l0 (i:Int) lh_0) (fun r h=>az h [zg.sl] r=some (iH (l0.drop i) i lh_0,())):=by
 intro m
 induction m with
 | zero=>
  intro i lh_0 hm hi hc
  obtain rfl:i=l0.length:=by omega
  rw [ey] at hc ⊢
  refine zr ip ok6 (fun id _=>hC id) (U7 _ _ _) ?_
  simp only [iQ] at hc
  simp only [Tr.val,zH,aq,iH]
  repeat' split
  all_goals first | rfl | simp_all
 | succ m IH=>
  intro i lh_0 hm hi hc
  have hlt:i < l0.length:=by omega
  have IH:=IH (i+1)
  have hcast:((i:Int)+1)=((i+1:Nat):Int):=by omega
  have hwr:=zt i (by omega)
  rw [dF hlt] at hc ⊢
  refine zr ip ok6 (fun id _=>hC id) (U7 _ _ _) ?_
  simp only [iQ] at hc
  simp only [Tr.val,zM hlt,zB hlt,bt l0 _ hlt,hwr,zU,if_true,iH]
  clear hwr
  (try simp only [hcast] at hc ⊢)
  repeat' split
  all_goals first | (change Reach _ _ _ _ _ _; apply IH <;> first | omega | assumption | (clear IH; simp_all)) | rfl | (clear IH; simp_all)
theorem WX {C:dl} (hC:∀ id,C.ρ0 id=none) (l0:List (Sem zg)) (lh_0:List (Sem zg)) (hc:iQ l0 0 lh_0=true):
  Reach m4 C 26 (zI Tryz.f26 3) (Qj l0 0 lh_0) (fun r h=>az h [zg.sl] r=some (iH l0 0 lh_0,())):=
 Reach.len 0 (zg) l0 rfl fun hl=>zbj hC l0 hl _ 0 lh_0 rfl (aK _) hc
def lE (x0:Sem zg.sl):Sem zg.sl:=iH x0 0 []
def O6 (x0:Sem zg.sl):Bool:=iQ x0 0 []
def F6:zT:=zN [zg.sl] [zg.sl] (fun x=>O6 x.1) fun x=>(lE x.1,())
theorem zaG:FK 26 F6:=by
 refine au ok6 fun x hx C hC=>?_
 simp only [O6] at hx
 refine zr ip ok6 (fun id _=>hC id) (go6 x.1) ?_
 simp only [Tr.val,lE]
 repeat' split
 all_goals first | (change Reach _ _ _ _ _ _; apply WX hC <;> first | assumption | simp_all) | rfl | simp_all

abbrev zcl:Nat→aJ:=fun j=>if j=3 then { slots:=[0,3,4],prom:=[(3,none,zh)] } else { }
abbrev Dm (l0:List (Sem zh)) (i4:Int) (lh_0:List (Sem zh)):St:={ tmps:=(tm 33 [(0,AV.sl zh l0),(3,AV.vec 0),(4,ai i4)]),heap:=[AO.vec zh lh_0] }
theorem Sw:zK m4.P 24 Tryz.f24 1:=bN (by kernel_rfl)
theorem zfb (x0:Sem zh.sl):rn m4 0 zcl Tryz.f24 [zF zh.sl x0] []=Tr.ok (zx.head 3 (zI Tryz.f24 3) (Dm x0 0 [])):=by kernel_rfl
theorem PA (l0:List (Sem zh)) (i4:Int) (lh_0:List (Sem zh)):rh m4 0 zcl Tryz.f24 3 (Dm l0 i4 lh_0)=Tr.br (bif decide (i4 < (↑l0.length:Int)) then decide (i4 < 9) else false) (Tr.chk (zR i4 l0.length) (Tr.br (decide ((↑(length (l0.getD i4.toNat (zi zh)).1):Int) > 20)) (Tr.chk (decide (0≤0)&&decide (0≤20)&&decide (20≤(↑(length (l0.getD i4.toNat (zi zh)).1):Int))) (Tr.chk (decide (lh_0.length+[(List.take (toNat 20 - toNat 0) (List.drop (toNat 0) (l0.getD i4.toNat (zi zh)).1),(l0.getD i4.toNat (zi zh)).2)].length≤1073741824)) (Tr.ok (zx.head 3 (zI Tryz.f24 3) (Dm l0 (IntKind.i64.wrap (i4+1)) (lh_0++[(List.take (toNat 20 - toNat 0) (List.drop (toNat 0) (l0.getD i4.toNat (zi zh)).1),(l0.getD i4.toNat (zi zh)).2)])))))) (Tr.chk (decide (lh_0.length+[l0.getD i4.toNat (zi zh)].length≤1073741824)) (Tr.ok (zx.head 3 (zI Tryz.f24 3) (Dm l0 (IntKind.i64.wrap (i4+1)) (lh_0++[l0.getD i4.toNat (zi zh)]))))))) (Tr.ok (zx.ret (AV.vec 0) [AO.vec zh lh_0])):=by kernel_rfl
def ft:List (Sem zh)→Int→List (Sem zh)→Sem zh.sl
 | [],_,lh_0=>lh_0
 | x::r,i4,lh_0=>if decide (i4 < 9)=true then
 if decide ((↑(length x.1):Int) > 20)=true then
  ft r (i4+1) (lh_0++[(List.take (toNat 20 - toNat 0) (List.drop (toNat 0) x.1),x.2)])
 else ft r (i4+1) (lh_0++[x])
else lh_0
def gL:List (Sem zh)→Int→List (Sem zh)→Bool
 | [],_,_=>true
 | x::r,i4,lh_0=>if decide (i4 < 9)=true then
 if decide ((↑(length x.1):Int) > 20)=true then
  decide (0≤0)&&decide (0≤20)&&decide (20≤(↑(length x.1):Int))&&
   (decide (lh_0.length+[(List.take (toNat 20 - toNat 0) (List.drop (toNat 0) x.1),x.2)].length≤1073741824)&&
    gL r (i4+1) (lh_0++[(List.take (toNat 20 - toNat 0) (List.drop (toNat 0) x.1),x.2)]))
 else decide (lh_0.length+[x].length≤1073741824)&&gL r (i4+1) (lh_0++[x])
else true
theorem WV {C:dl} (hC:∀ id,C.ρ0 id=none) (l0:List (Sem zh)) (hl:l0.length≤zA):∀ (m i:Nat) (lh_0:List (Sem zh)),l0.length - i=m→i≤l0.length→gL (l0.drop i) i lh_0=true→
  Reach m4 C 24 (zI Tryz.f24 3) (Dm l0 (i:Int) lh_0) (fun r h=>az h [zh.sl] r=some (ft (l0.drop i) i lh_0,())):=by
 intro m
 induction m with
 | zero=>
  intro i lh_0 hm hi hc
  obtain rfl:i=l0.length:=by omega
  rw [ey] at hc ⊢
  refine zr ip Sw (fun id _=>hC id) (PA _ _ _) ?_
  simp only [gL] at hc
  simp only [Tr.val,zH,aq,ft]
  repeat' split
  all_goals first | rfl | simp_all
 | succ m IH=>
  intro i lh_0 hm hi hc
  have hlt:i < l0.length:=by omega
  have IH:=IH (i+1)
  have hcast:((i:Int)+1)=((i+1:Nat):Int):=by omega
  have hwr:=zt i (by omega)
  rw [dF hlt] at hc ⊢
  refine zr ip Sw (fun id _=>hC id) (PA _ _ _) ?_
  simp only [gL] at hc
  simp only [Tr.val,zM hlt,zB hlt,bt l0 _ hlt,hwr,zU,if_true,ft]
  clear hwr
  (try simp only [hcast] at hc ⊢)
  repeat' split
  all_goals first | (change Reach _ _ _ _ _ _; apply IH <;> first | omega | assumption | (clear IH; simp_all)) | rfl | (clear IH; simp_all)
theorem RK {C:dl} (hC:∀ id,C.ρ0 id=none) (l0:List (Sem zh)) (lh_0:List (Sem zh)) (hc:gL l0 0 lh_0=true):
  Reach m4 C 24 (zI Tryz.f24 3) (Dm l0 0 lh_0) (fun r h=>az h [zh.sl] r=some (ft l0 0 lh_0,())):=
 Reach.len 0 (zh) l0 rfl fun hl=>WV hC l0 hl _ 0 lh_0 rfl (aK _) hc
def qo (x0:Sem zh.sl):Sem zh.sl:=ft x0 0 []
def O5 (x0:Sem zh.sl):Bool:=gL x0 0 []
def F13:zT:=zN [zh.sl] [zh.sl] (fun x=>O5 x.1) fun x=>(qo x.1,())
theorem TU:FK 24 F13:=by
 refine au Sw fun x hx C hC=>?_
 simp only [O5] at hx
 refine zr ip Sw (fun id _=>hC id) (zfb x.1) ?_
 simp only [Tr.val,qo]
 repeat' split
 all_goals first | (change Reach _ _ _ _ _ _; apply RK hC <;> first | assumption | simp_all) | rfl | simp_all

noncomputable def Gl:=m4.addL [(26,F6),(24,F13)]
theorem uj:zy Gl:=ip.addL <| fc zaG <| fc TU jp

theorem fq {P:Program} {gl:Nat→AV} {k:FuncId} {ks outs:List Sh} {c:zC (ks.map some)→Bool} {g:zC (ks.map some)→zC (outs.map some)} (h:nl P gl k (zN ks outs c g)) (hc:∀ x,c x=true):nl P gl k (aD ks outs g):=
 TZ (by rwa [show c=fun _=>true from funext hc] at h)

theorem Bh (v:V):Dr v=true:=by
 unfold Dr
 cases h:decide ((↑(length v.2.2):Int) > 60)
 ·rfl
 ·simp only [aN] at h
  simp only [zU,aV,aN]
  omega
theorem Jv (s:zw):Ld s=true:=by
 unfold Ld
 cases h:decide ((↑(length s):Int) > 20)
 ·rfl
 ·simp only [aN] at h
  simp only [zU,aV,aN]
  omega
theorem qq:∀ (l:List (Sem zg)) (i:Int) (a:List (Sem zg)),(a.length:Int)≤i→iQ l i a=true
 | [],_,_,_=>rfl
 | x::r,i,a,h=>by
  simp only [iQ,Bh]
  split
  ·rename_i hi
   simp only [aN] at hi
   rw [qq r (i+1) _ (by simp; omega)]
   simp; omega
  ·rfl
theorem kW:∀ (l:List (Sem zh)) (i:Int) (a:List (Sem zh)),(a.length:Int)≤i→gL l i a=true
 | [],_,_,_=>rfl
 | x::r,i,a,h=>by
  simp only [gL]
  split
  ·rename_i hi
   simp only [aN] at hi
   split
   ·rename_i hx
    simp only [aN] at hx
    rw [kW r (i+1) _ (by simp; omega)]
    simp; omega
   ·rw [kW r (i+1) _ (by simp; omega)]
    simp; omega
  ·rfl
def Y7:zT:=aD [zg] [zg] fun x=>(BN x.1,())
theorem VG:FK 58 Y7:=fq TV fun x=>Bh x.1
def Y0:zT:=aD [Sh.str] [Sh.str] fun x=>(u4 x.1,())
theorem VA:FK 99 Y0:=fq TT fun x=>Jv x.1
def F6t:zT:=aD [zg.sl] [zg.sl] fun x=>(lE x.1,())
theorem zaN:FK 26 F6t:=fq zaG fun x=>qq x.1 0 [] (by simp)
def Y3:zT:=aD [zh.sl] [zh.sl] fun x=>(qo x.1,())
theorem VD:FK 24 Y3:=fq TU fun x=>kW x.1 0 [] (by simp)

abbrev BF:Nat→aJ:=fun _=>{ slots:=[0,1,7,8] }
def nU {K:List Item} {e:Sh} (l:List (Sem e)) (p:Sem e→Bool) (st:Int→St) (h0:List AO) (i:Int):Tr zx:=.br (decide (i < (l.length:Int))) (.chk (zR i l.length) (.br (p (l.getD i.toNat (zi e))) (.ok (.ret (.int .i64 i) h0)) (.ok (.head 2 K (st (IntKind.i64.wrap (i+1))))))) (.ok (.ret (.int .i64 (-1)) h0))

theorem lU {E:bS} {C:dl} {k:FuncId} {f:Func} {n n0:Nat} {keep:Nat→aJ} {fuel:Nat} {K:List Item} {e:Sh} (l:List (Sem e)) (p:Sem e→Bool) (st:Int→St) {h0:List AO}
  (hE:zy E) (hf:zK E.P k f n) (hC:∀ id,n0≤id→C.ρ0 id=none)
  (hon:∀ i,run E n0 keep f.results.toList fuel K (st i)=nU (K:=K) l p st h0 i) (hl:l.length≤zA):∀ (m i:Nat),l.length - i=m→i≤l.length→
  Reach E C k K (st i) (fun r h=>(r,h)=(.int .i64 (aj p (l.drop i) i),h0)):=by
 intro m
 induction m with
 | zero=>
  intro i hE.mix' hi
  obtain rfl:i=l.length:=by omega
  refine zr hE hf hC (hon _) ?_
  simp only [nU,Tr.val,zH,ey]
  rfl
 | succ m IH=>
  intro i hE.mix' hi
  have hlt:i < l.length:=by omega
  refine zr hE hf hC (hon _) ?_
  rw [dF hlt]
  simp only [nU,Tr.val,zM hlt,zB hlt,bt l _ hlt,zt i (by omega),if_true,aj]
  split
  ·rfl
  ·exact IH (i+1) (by omega) (by omega)

abbrev w8 (t:Int) (l:List (Sem zf)) (i:Int):St:={ tmps:=[.sl zf l,.clo (.func 227) [] [.ptr 0 0],.any,.any,.any,.any,.any,.int .i64 l.length,.int .i64 i,.any,.any,.any,.any,.any,.any,.any,.any,.any,.any],heap:=[.box [.int .i64 t]] }
theorem Og (t:Int) (l:List (Sem zf)):run Gl 1 BF Tryz.f262.results.toList 300 (bv Tryz.f262) (bc Tryz.f262.ntmps [.sl zf l,.clo (.func 227) [] [.ptr 0 0]] [.box [.int .i64 t]])=.ok (.head 2 (zI Tryz.f262 2) (w8 t l 0)):=by kernel_rfl
theorem Py (t:Int) (l:List (Sem zf)) (i:Int):run Gl 1 BF Tryz.f262.results.toList 300 (zI Tryz.f262 2) (w8 t l i)=nU (K:=zI Tryz.f262 2) (e:=zf) l (fun x=>bif x != t then x != 0 else false) (w8 t l) [.box [.int .i64 t]] i:=by kernel_rfl

theorem Pk:zK Gl.P 262 Tryz.f262 2:=bN (by kernel_rfl)
def zbc:ie [some (.sl zf),none]:=fun x h=>match x,h with
 | (l,.clo (.func 227) [] [.ptr 0 0],_),[.box [.int .i64 t]]=>.ok (.int .i64 (aj (fun x=>bif x != t then x != 0 else false) l 0),[.box [.int .i64 t]])
 | _,_=>.err
def YM:zT:=bh [some (.sl zf),none] zbc
theorem Vm:FK 262 YM:=by
 refine dD Pk fun x h0 res hx C hC=>?_
 unfold zbc at hx
 split at hx
 ·rename_i l u t
  simp only [Tr.val_ok,bz] at hx
  subst hx
  refine Reach.len 0 zf l rfl fun hl=>?_
  refine zr (n0:=1) uj Pk hC (Og t l) ?_
  exact lU l (fun x=>bif x != t then x != 0 else false) (w8 t l) uj Pk hC (Py t l) hl _ 0 rfl (aK _)
 ·simp at hx

noncomputable def r9:=Gl.addL [(58,Y7),(99,Y0),(26,F6t),(24,Y3),(262,YM)]
theorem lv:zy r9:=uj.addL <| fc VG <| fc VA <| fc zaN <| fc VD <| fc Vm jp

noncomputable def F78:zT:=bh [some (.sl zf),none] (fF r9 Tryz.f226 [some (.sl zf),none])
theorem zaT:FK 226 F78:=cm _ lv (bN (by kernel_rfl))

def dC (x0:Sem Sh.str):Sem Sh.bool:=oN x0
theorem zc9:zK r9.P 88 Tryz.f88 1:=bN (by kernel_rfl)
theorem zfj (x0:Sem Sh.str):rn r9 0 (fun _=>{ }) Tryz.f88 [zF Sh.str x0] []=Tr.ok (zx.ret (AV.bool (oN x0)) []):=by kernel_rfl
def F25:zT:=aD [Sh.str] [Sh.bool] fun x=>(dC x.1,())
theorem Z9:FK 88 F25:=by
 refine zW zc9 fun x C hC=>?_
 refine aQ lv zc9 (fun id _=>hC id) (zfj x.1) ?_
 simp only [Tr.val,dC]
 repeat' split
 all_goals rfl

def ae (x0:Sem zl) (x1:Sem Sh.str):Sem zf:=aj (fun c=>c.1==x1) x0.2.1 0
theorem zc4:zK r9.P 20 Tryz.f20 2:=bN (by kernel_rfl)
theorem zfe (x0:Sem zl) (x1:Sem Sh.str):rn r9 0 (fun _=>{ }) Tryz.f20 [zF zl x0,zF Sh.str x1] []=Tr.ok (zx.ret (ai (aj (fun c=>c.1==x1) x0.2.1 0)) []):=by kernel_rfl
def F17:zT:=aD [zl,Sh.str] [zf] fun x=>(ae x.1 x.2.1,())
theorem Z4:FK 20 F17:=by
 refine zW zc4 fun x C hC=>?_
 refine aQ lv zc4 (fun id _=>hC id) (zfe x.1 x.2.1) ?_
 simp only [Tr.val,ae]
 repeat' split
 all_goals rfl

def zQ (x0:Sem zh.sl) (x1:Sem Sh.str):Sem zf:=aj (fun c=>c.1==x1) x0 0
theorem zdu:zK r9.P 182 Tryz.f182 2:=bN (by kernel_rfl)
theorem zfC (x0:Sem zh.sl) (x1:Sem Sh.str):rn r9 0 (fun _=>{ }) Tryz.f182 [zF zh.sl x0,zF Sh.str x1] []=Tr.ok (zx.ret (ai (aj (fun c=>c.1==x1) x0 0)) []):=by kernel_rfl
def F48:zT:=aD [zh.sl,Sh.str] [zf] fun x=>(zQ x.1 x.2.1,())
theorem zas:FK 182 F48:=by
 refine zW zdu fun x C hC=>?_
 refine aQ lv zdu (fun id _=>hC id) (zfC x.1 x.2.1) ?_
 simp only [Tr.val,zQ]
 repeat' split
 all_goals rfl

noncomputable def Ce:=r9.addL [(226,F78),(88,F25),(20,F17),(182,F48)]
theorem uk:zy Ce:=lv.addL <| fc zaT <| fc Z9 <| fc Z4 <| fc zas jp

def kU (x0:Sem zf.sl) (x1:Sem zf):Sem Sh.bool := !decide (aj (fun x=>bif x != x1 then x != 0 else false) x0 0 ≥ 0)
theorem zdE:zK Ce.P 183 Tryz.f183 2:=bN (by kernel_rfl)
theorem zfO (x0:Sem zf.sl) (x1:Sem zf):rn Ce 0 (fun _=>{ }) Tryz.f183 [zF zf.sl x0,zF zf x1] []=Tr.ok (zx.ret (AV.bool !decide (aj (fun x=>bif x != x1 then x != 0 else false) x0 0 ≥ 0)) []):=by kernel_rfl
def F66:zT:=aD [zf.sl,zf] [Sh.bool] fun x=>(kU x.1 x.2.1,())
theorem zaL:FK 183 F66:=by
 refine zW zdE fun x C hC=>?_
 refine aQ uk zdE (fun id _=>hC id) (zfO x.1 x.2.1) ?_
 simp only [Tr.val,kU]
 repeat' split
 all_goals rfl

def zJ (x0:Sem Sh.str):Sem Sh.bool:=bif dC x0 then !iB x0 else false
theorem zc3:zK Ce.P 46 Tryz.f46 1:=bN (by kernel_rfl)
theorem zfd (x0:Sem Sh.str):rn Ce 0 (fun _=>{ }) Tryz.f46 [zF Sh.str x0] []=Tr.ok (zx.ret (AV.bool (bif dC x0 then !iB x0 else false)) []):=by kernel_rfl
def F16:zT:=aD [Sh.str] [Sh.bool] fun x=>(zJ x.1,())
theorem Z3:FK 46 F16:=by
 refine zW zc3 fun x C hC=>?_
 refine aQ uk zc3 (fun id _=>hC id) (zfd x.1) ?_
 simp only [Tr.val,zJ]
 repeat' split
 all_goals rfl

noncomputable def N0:=Ce.addL [(183,F66),(46,F16)]
theorem Cf:zy N0:=uk.addL <| fc zaL <| fc Z3 jp
theorem eW {P:Program} {gl:Nat→AV} {k:FuncId} {ks outs:List Sh} {c:zC (ks.map some)→Bool} {g:zC (ks.map some)→zC (outs.map some)} (hf:∃ fn,P.funcs[k]?=some fn∧(fn.name == "runtime.NumGoroutine")=false∧fn.body.isNone=false) (hc:∀ x,c x=false):nl P gl k (zN ks outs c g):=by
 refine ⟨hf,?_⟩
 intro w U ρ hp n args vals f fp hv
 exfalso
 unfold zN bh at hv
 split at hv
 ·simp only at hv
  split at hv
  ·split at hv
   ·simp only [Tr.val_bind,fO] at hv
    obtain ⟨res,h1,h2⟩:=hv
    unfold iI at h1
    split at h1
    ·simp only [Tr.val,hc] at h1
     simp at h1
    ·simp at h1
   ·simp at hv
  ·simp at hv
 ·simp at hv
theorem ln {Φ:zx→Prop} {c:Bool} {t f:Tr zx} (h1:c=true→fN Φ t.val) (h2:c=false→fN Φ f.val):fN Φ (Tr.br c t f).val:=by
 cases c
 ·simpa [Tr.val] using h2 rfl
 ·simpa [Tr.val] using h1 rfl
theorem lp {Φ:zx→Prop} {c:Bool} {t:Tr zx} (hc:c=true) (h:fN Φ t.val):fN Φ (Tr.chk c t).val:=by
 subst hc
 simpa [Tr.val] using h
theorem zz {Φ:zx→Prop} {t:Tr zx} (h:fN Φ t.val):fN Φ (Tr.chk true t).val:=h
theorem lH {c:Bool} (h:c=false):¬ c=true:=by rw [h]; simp
theorem o7 {c g:Bool} (h:(if c=true then g else false)=true):c=true∧g=true:=by
 split at h
 ·exact ⟨‹_›,h⟩
 ·cases h
theorem jk {Φ:zx→Prop} {c:Bool} {t f:Tr zx} {α:Sort _} {a b y:α} {p q:Bool} (hy:(if c=true then a else b)=y) (hc:(if c=true then p else q)=true) (h1:c=true→a=y→p=true→fN Φ t.val) (h2:c=false→b=y→q=true→fN Φ f.val):fN Φ (Tr.br c t f).val:=
 ln (fun h=>h1 h (by rwa [if_pos h] at hy) (by rwa [if_pos h] at hc)) (fun h=>h2 h (by rwa [if_neg (lH h)] at hy) (by rwa [if_neg (lH h)] at hc))
theorem bF {Φ:zx→Prop} {c:Bool} {t f:Tr zx} {α:Sort _} {a b y:α} (hy:(if c=true then a else b)=y) (h1:c=true→a=y→fN Φ t.val) (h2:c=false→b=y→fN Φ f.val):fN Φ (Tr.br c t f).val:=
 ln (fun h=>h1 h (by rwa [if_pos h] at hy)) (fun h=>h2 h (by rwa [if_neg (lH h)] at hy))
theorem cQ {Φ:zx→Prop} {c g:Bool} {t:Tr zx} (hc:(if c=true then g else false)=true) (h:g=true→fN Φ t.val):fN Φ (Tr.chk c t).val:=
 lp (o7 hc).1 (h (o7 hc).2)
theorem Tr.val_brT {α:Type} (t f:Tr α):(Tr.br true t f).val=t.val:=rfl
theorem Tr.val_brF {α:Type} (t f:Tr α):(Tr.br false t f).val=f.val:=rfl
theorem Tr.val_chkT {α:Type} (t:Tr α):(Tr.chk true t).val=t.val:=rfl
instance:Inhabited ze:=⟨.mk [] (0,0,[]) [] []⟩
instance (s:Sh):Inhabited (Sem s):=⟨zi s⟩

noncomputable def LZ (g:Sem Sh.expr→Sem (Sh.sl zh)→Sem zf×Sem zf) (c:Sem Sh.expr→Sem (Sh.sl zh)→Bool):bS:=N0.add 126 (zN [Sh.expr,Sh.sl zh] [zf,zf] (fun x=>c x.1 x.2.1) fun x=>((g x.1 x.2.1).1,(g x.1 x.2.1).2,()))
theorem yf {g:Sem Sh.expr→Sem (Sh.sl zh)→Sem zf×Sem zf} {c:Sem Sh.expr→Sem (Sh.sl zh)→Bool} (hg:FK 126 (zN [Sh.expr,Sh.sl zh] [zf,zf] (fun x=>c x.1 x.2.1) fun x=>((g x.1 x.2.1).1,(g x.1 x.2.1).2,()))):zy (LZ g c):=Cf.add hg
abbrev UQ:Nat→aJ:=fun j=>if j=3 then { slots:=[1,2,6,15,16,17],prom:=[(6,none,zf)] } else { }
abbrev AR (l1:LC) (l15:LX) (i16:Int) (i17:Int) (ja0:zw) (ja1:Int) (ja2:Int) (ja3:zw) (ja4:zw) (ja5:LX) (lh_1:LI):St:={ tmps:=(tm 91 [(1,AV.sl zh l1),(2,AV.ptr 0 0),(6,AV.vec 1),(15,AV.sl Sh.expr l15),(16,ai i16),(17,ai i17)]),heap:=[AO.box [AV.str ja0,ai ja1,ai ja2,AV.str ja3,AV.str ja4,AV.sl Sh.expr ja5],AO.vec zf lh_1] }
theorem y4 (g:Sem Sh.expr→Sem (Sh.sl zh)→Sem zf×Sem zf) (c:Sem Sh.expr→Sem (Sh.sl zh)→Bool):zK (LZ g c).P 126 Tryz.f126 2:=bN (by kernel_rfl)
theorem zbS (g:Sem Sh.expr→Sem (Sh.sl zh)→Sem zf×Sem zf) (c:Sem Sh.expr→Sem (Sh.sl zh)→Bool) (x0:Sem Sh.expr) (x1:Sem zh.sl):rn (LZ g c) 0 UQ Tryz.f126 [zF Sh.expr x0,zF zh.sl x1] []=Tr.ok (zx.head 3 (zI Tryz.f126 3) (AR x1 (ze.l x0) (↑(ze.l x0).length:Int) 0 (ze.op x0) (ze.v x0).1 (ze.v x0).2.1 (ze.v x0).2.2 (ze.s x0) (ze.l x0) [])):=by kernel_rfl
theorem KH (g:Sem Sh.expr→Sem (Sh.sl zh)→Sem zf×Sem zf) (c:Sem Sh.expr→Sem (Sh.sl zh)→Bool) (l1:LC) (l15:LX) (i16:Int) (i17:Int) (ja0:zw) (ja1:Int) (ja2:Int) (ja3:zw) (ja4:zw) (ja5:LX) (lh_1:LI):rh (LZ g c) 0 UQ Tryz.f126 3 (AR l1 l15 i16 i17 ja0 ja1 ja2 ja3 ja4 ja5 lh_1)=Tr.br (decide (i17 < i16)) (Tr.chk (zR i17 l15.length) (Tr.chk (c (zm (l15.getD i17.toNat (zi Sh.expr))) l1) (Tr.br ((g (zm (l15.getD i17.toNat (zi Sh.expr))) l1).2 != 0) (Tr.ok (zx.ret (AV.tup [ai 0,AV.int IntKind.i64 (g (zm (l15.getD i17.toNat (zi Sh.expr))) l1).2]) [])) (Tr.chk (decide (lh_1.length+[(g (zm (l15.getD i17.toNat (zi Sh.expr))) l1).1].length≤1073741824)) (Tr.ok (zx.head 3 (zI Tryz.f126 3) (AR l1 l15 i16 (IntKind.i64.wrap (i17+1)) ja0 ja1 ja2 ja3 ja4 ja5 (lh_1++[(g (zm (l15.getD i17.toNat (zi Sh.expr))) l1).1])))))))) (Tr.br (ja0==[108,105,116]) (Tr.ok (zx.ret (AV.tup [ai ja1,ai 0]) [])) (Tr.br (ja0==[99,111,108]) (Tr.br (decide (zQ l1 ja4 < 0)) (Tr.ok (zx.ret (AV.tup [ai 0,ai 4]) [])) (Tr.chk (zR (zQ l1 ja4) l1.length) (Tr.ok (zx.ret (AV.tup [ai (l1.getD (toNat (zQ l1 ja4)) (zi zh)).2.1,ai 0]) [])))) (Tr.br (ja0==[110,111,116])
 (Tr.br (!kU lh_1 3) (Tr.ok (zx.ret (AV.tup [ai 0,ai 5]) [])) (Tr.ok (zx.ret (AV.tup [ai 3,ai 0]) []))) (Tr.br (ja0==[97,110,100]) (Tr.br (!kU lh_1 3) (Tr.ok (zx.ret (AV.tup [ai 0,ai 5]) [])) (Tr.ok (zx.ret (AV.tup [ai 3,ai 0]) []))) (Tr.br (ja0==[111,114]) (Tr.br (!kU lh_1 3) (Tr.ok (zx.ret (AV.tup [ai 0,ai 5]) [])) (Tr.ok (zx.ret (AV.tup [ai 3,ai 0]) []))) (Tr.br (ja0==[61]) (Tr.chk (zR 0 lh_1.length&&(decide (toNat 0 < lh_1.length)&&(zR 1 lh_1.length&&(decide (toNat 1 < lh_1.length)&&bif lh_1.getD (toNat 0) (zi zf)==lh_1.getD (toNat 1) (zi zf) then true else zR 0 lh_1.length&&(decide (toNat 0 < lh_1.length)&&bif lh_1.getD (toNat 0) (zi zf)==0 then true else zR 1 lh_1.length&&decide (toNat 1 < lh_1.length)))))) (Tr.br (!bif lh_1.getD (toNat 0) (zi zf)==lh_1.getD (toNat 1) (zi zf) then true else bif lh_1.getD (toNat 0) (zi zf)==0 then true else lh_1.getD (toNat 1) (zi zf)==0) (Tr.ok (zx.ret (AV.tup [ai 0,ai 5]) [])) (Tr.ok (zx.ret (AV.tup [ai 3,ai 0]) [])))) (Tr.br (ja0==[60]) (Tr.chk (zR 0 lh_1.length&&(decide (toNat 0 < lh_1.length)&&(zR 1 lh_1.length&&(decide (toNat 1 < lh_1.length)&&
 bif lh_1.getD (toNat 0) (zi zf)==lh_1.getD (toNat 1) (zi zf) then true else zR 0 lh_1.length&&(decide (toNat 0 < lh_1.length)&&bif lh_1.getD (toNat 0) (zi zf)==0 then true else zR 1 lh_1.length&&decide (toNat 1 < lh_1.length)))))) (Tr.br (!bif lh_1.getD (toNat 0) (zi zf)==lh_1.getD (toNat 1) (zi zf) then true else bif lh_1.getD (toNat 0) (zi zf)==0 then true else lh_1.getD (toNat 1) (zi zf)==0) (Tr.ok (zx.ret (AV.tup [ai 0,ai 5]) [])) (Tr.ok (zx.ret (AV.tup [ai 3,ai 0]) [])))) (Tr.br (ja0==[43]) (Tr.br (!kU lh_1 1) (Tr.ok (zx.ret (AV.tup [ai 0,ai 5]) [])) (Tr.ok (zx.ret (AV.tup [ai 1,ai 0]) []))) (Tr.br (ja0==[45]) (Tr.br (!kU lh_1 1) (Tr.ok (zx.ret (AV.tup [ai 0,ai 5]) [])) (Tr.ok (zx.ret (AV.tup [ai 1,ai 0]) []))) (Tr.ok (zx.ret (AV.tup [ai 3,ai 0]) []))))))))))):=by kernel_rfl
def aE (g:Sem Sh.expr→Sem (Sh.sl zh)→Sem zf×Sem zf) (c:Sem Sh.expr→Sem (Sh.sl zh)→Bool) (l1:LC) (ja0:zw) (ja1:Int) (ja2:Int) (ja3:zw) (ja4:zw) (ja5:LX):List (Sem Sh.expr)→Int→List (Sem zf)→Sem zf×Sem zf
 | [],_,lh_1=>if (ja0==[108,105,116])=true then (ja1,0)
else
 if (ja0==[99,111,108])=true then
  if decide (zQ l1 ja4 < 0)=true then (0,4)
  else ((l1.getD (toNat (zQ l1 ja4)) (zi zh)).2.1,0)
 else
  if (ja0==[110,111,116])=true then if (!kU lh_1 3)=true then (0,5) else (3,0)
  else
   if (ja0==[97,110,100])=true then if (!kU lh_1 3)=true then (0,5) else (3,0)
   else
    if (ja0==[111,114])=true then if (!kU lh_1 3)=true then (0,5) else (3,0)
    else
     if (ja0==[61])=true then
      if
        (!bif lh_1.getD (toNat 0) (zi zf)==lh_1.getD (toNat 1) (zi zf) then true
          else bif lh_1.getD (toNat 0) (zi zf)==0 then true else lh_1.getD (toNat 1) (zi zf)==0)=
         true then
       (0,5)
      else (3,0)
     else
      if (ja0==[60])=true then
       if
         (!bif lh_1.getD (toNat 0) (zi zf)==lh_1.getD (toNat 1) (zi zf) then true
           else
            bif lh_1.getD (toNat 0) (zi zf)==0 then true else lh_1.getD (toNat 1) (zi zf)==0)=
          true then
        (0,5)
       else (3,0)
      else
       if (ja0==[43])=true then if (!kU lh_1 1)=true then (0,5) else (1,0)
       else if (ja0==[45])=true then if (!kU lh_1 1)=true then (0,5) else (1,0) else (3,0)
 | x::r,i17,lh_1=>if ((g x l1).2 != 0)=true then (0,(g x l1).2) else aE g c l1 ja0 ja1 ja2 ja3 ja4 ja5 r (i17+1) (lh_1++[(g x l1).1])
def fB (g:Sem Sh.expr→Sem (Sh.sl zh)→Sem zf×Sem zf) (c:Sem Sh.expr→Sem (Sh.sl zh)→Bool) (l1:LC) (ja0:zw) (ja1:Int) (ja2:Int) (ja3:zw) (ja4:zw) (ja5:LX):List (Sem Sh.expr)→Int→List (Sem zf)→Bool
 | [],_,lh_1=>if (ja0==[108,105,116])=true then true
else
 if (ja0==[99,111,108])=true then
  if decide (zQ l1 ja4 < 0)=true then true else if zR (zQ l1 ja4) l1.length=true then true else false
 else
  if (ja0==[110,111,116])=true then true
  else
   if (ja0==[97,110,100])=true then true
   else
    if (ja0==[111,114])=true then true
    else
     if (ja0 == [61])=true then
      if
        (zR 0 lh_1.length&&
          (decide (toNat 0 < lh_1.length)&&
           (zR 1 lh_1.length&&
            (decide (toNat 1 < lh_1.length)&&
             bif lh_1.getD (toNat 0) (zi zf)==lh_1.getD (toNat 1) (zi zf) then true
             else
              zR 0 lh_1.length&&
               (decide (toNat 0 < lh_1.length)&&
                bif lh_1.getD (toNat 0) (zi zf)==0 then true
                else zR 1 lh_1.length&&decide (toNat 1 < lh_1.length))))))=
         true then
       true
      else false
     else
      if (ja0 == [60])=true then
       if
         (zR 0 lh_1.length&&
           (decide (toNat 0 < lh_1.length)&&
            (zR 1 lh_1.length&&
             (decide (toNat 1 < lh_1.length)&&
              bif lh_1.getD (toNat 0) (zi zf)==lh_1.getD (toNat 1) (zi zf) then true
              else
               zR 0 lh_1.length&&
                (decide (toNat 0 < lh_1.length)&&
                 bif lh_1.getD (toNat 0) (zi zf)==0 then true
                 else zR 1 lh_1.length&&decide (toNat 1 < lh_1.length))))))=
          true then
        true
       else false
      else true
 | x::r,i17,lh_1=>if c x l1=true then
 if ((g x l1).2 != 0)=true then true
 else
  if decide (lh_1.length+[(g x l1).1].length≤1073741824)=true then
   fB g c l1 ja0 ja1 ja2 ja3 ja4 ja5 r (i17+1) (lh_1++[(g x l1).1])
  else false
else false
theorem RN (g:Sem Sh.expr→Sem (Sh.sl zh)→Sem zf×Sem zf) (c:Sem Sh.expr→Sem (Sh.sl zh)→Bool) (hg:FK 126 (zN [Sh.expr,Sh.sl zh] [zf,zf] (fun x=>c x.1 x.2.1) fun x=>((g x.1 x.2.1).1,(g x.1 x.2.1).2,()))) {C:dl} (hC:∀ id,C.ρ0 id=none) (l1:LC) (ja0:zw) (ja1:Int) (ja2:Int) (ja3:zw) (ja4:zw) (ja5:LX) (l15:LX) (hl:l15.length≤zA):∀ (m i:Nat) (lh_1:LI),l15.length - i=m→i≤l15.length→fB g c l1 ja0 ja1 ja2 ja3 ja4 ja5 (l15.drop i) i lh_1=true→
  Reach (LZ g c) C 126 (zI Tryz.f126 3) (AR l1 l15 (l15.length:Int) (i:Int) ja0 ja1 ja2 ja3 ja4 ja5 lh_1) (fun r h=>az h [zf,zf] r=some ((aE g c l1 ja0 ja1 ja2 ja3 ja4 ja5 (l15.drop i) i lh_1).1,(aE g c l1 ja0 ja1 ja2 ja3 ja4 ja5 (l15.drop i) i lh_1).2,())):=by
 intro m
 induction m with
 | zero=>
  intro i lh_1 hm hi hc
  obtain rfl:i=l15.length:=by omega
  rw [ey] at hc ⊢
  refine zr (yf hg) (y4 g c) (fun id _=>hC id) (KH g c _ _ _ _ _ _ _ _ _ _ _) ?_
  rw [fB] at hc
  generalize hy:aE g c l1 ja0 ja1 ja2 ja3 ja4 ja5 [] _ lh_1=y
  rw [aE] at hy
  simp only [ze.eta,zH,Tr.val_brF]
  repeat' (first | with_reducible refine jk hy hc (fun _ hy hc=>?_) (fun _ hy hc=>?_) | with_reducible refine bF hy (fun _ hy=>?_) (fun _ hy=>?_) | with_reducible refine cQ hc (fun hc=>?_) | with_reducible refine zz ?_)
  all_goals (subst hy; first | rfl)
 | succ m IH=>
  intro i lh_1 hm hi hc
  have hlt:i < l15.length:=by omega
  have IH:=IH (i+1)
  have hcast:((i:Int)+1)=((i+1:Nat):Int):=by omega
  have hwr:=zt i (by omega)
  rw [dF hlt] at hc ⊢
  refine zr (yf hg) (y4 g c) (fun id _=>hC id) (KH g c _ _ _ _ _ _ _ _ _ _ _) ?_
  rw [fB] at hc
  generalize hy:aE g c l1 ja0 ja1 ja2 ja3 ja4 ja5 (l15[i]::l15.drop (i+1)) (i:Int) lh_1=y
  rw [aE] at hy
  simp only [ze.eta,zM hlt,zB hlt,bt l15 _ hlt,hwr,Tr.val_brT,Tr.val_chkT]
  clear hwr
  simp only [hcast] at hy
  try simp only [hcast] at hc
  repeat' (first | with_reducible refine jk hy hc (fun _ hy hc=>?_) (fun _ hy hc=>?_) | with_reducible refine bF hy (fun _ hy=>?_) (fun _ hy=>?_) | with_reducible refine cQ hc (fun hc=>?_) | with_reducible refine zz ?_)
  all_goals (subst hy; first | (change Reach _ _ _ _ _ _; apply IH <;> first | omega | assumption) | rfl)
theorem Nq (g:Sem Sh.expr→Sem (Sh.sl zh)→Sem zf×Sem zf) (c:Sem Sh.expr→Sem (Sh.sl zh)→Bool) (hg:FK 126 (zN [Sh.expr,Sh.sl zh] [zf,zf] (fun x=>c x.1 x.2.1) fun x=>((g x.1 x.2.1).1,(g x.1 x.2.1).2,()))) {C:dl} (hC:∀ id,C.ρ0 id=none) (l1:LC) (ja0:zw) (ja1:Int) (ja2:Int) (ja3:zw) (ja4:zw) (ja5:LX) (l15:LX) (lh_1:LI) (hc:fB g c l1 ja0 ja1 ja2 ja3 ja4 ja5 l15 0 lh_1=true):
  Reach (LZ g c) C 126 (zI Tryz.f126 3) (AR l1 l15 (l15.length:Int) 0 ja0 ja1 ja2 ja3 ja4 ja5 lh_1) (fun r h=>az h [zf,zf] r=some ((aE g c l1 ja0 ja1 ja2 ja3 ja4 ja5 l15 0 lh_1).1,(aE g c l1 ja0 ja1 ja2 ja3 ja4 ja5 l15 0 lh_1).2,())):=
 Reach.len 15 (Sh.expr) l15 rfl fun hl=>RN g c hg hC l1 ja0 ja1 ja2 ja3 ja4 ja5 l15 hl _ 0 lh_1 rfl (aK _) hc
def ve (g:Sem Sh.expr→Sem (Sh.sl zh)→Sem zf×Sem zf) (c:Sem Sh.expr→Sem (Sh.sl zh)→Bool) (x0:Sem Sh.expr) (x1:Sem zh.sl):Sem zf×Sem zf:=aE g c x1 (ze.op x0) (ze.v x0).1 (ze.v x0).2.1 (ze.v x0).2.2 (ze.s x0) (ze.l x0) (ze.l x0) 0 []
def xp (g:Sem Sh.expr→Sem (Sh.sl zh)→Sem zf×Sem zf) (c:Sem Sh.expr→Sem (Sh.sl zh)→Bool) (x0:Sem Sh.expr) (x1:Sem zh.sl):Bool:=fB g c x1 (ze.op x0) (ze.v x0).1 (ze.v x0).2.1 (ze.v x0).2.2 (ze.s x0) (ze.l x0) (ze.l x0) 0 []
def zet (g:Sem Sh.expr→Sem (Sh.sl zh)→Sem zf×Sem zf) (c:Sem Sh.expr→Sem (Sh.sl zh)→Bool):zT:=zN [Sh.expr,zh.sl] [zf,zf] (fun x=>xp g c x.1 x.2.1) fun x=>((ve g c x.1 x.2.1).1,(ve g c x.1 x.2.1).2,())
theorem Wg (g:Sem Sh.expr→Sem (Sh.sl zh)→Sem zf×Sem zf) (c:Sem Sh.expr→Sem (Sh.sl zh)→Bool) (hg:FK 126 (zN [Sh.expr,Sh.sl zh] [zf,zf] (fun x=>c x.1 x.2.1) fun x=>((g x.1 x.2.1).1,(g x.1 x.2.1).2,()))):FK 126 (zet g c):=by
 refine au (y4 g c) fun x hc C hC=>?_
 unfold xp at hc
 refine zr (yf hg) (y4 g c) (fun id _=>hC id) (zbS g c x.1 x.2.1) ?_
 generalize hy:ve g c x.1 x.2.1=y
 unfold ve at hy
 try simp only [ze.eta,zn]
 repeat' (first | with_reducible refine jk hy hc (fun _ hy hc=>?_) (fun _ hy hc=>?_) | with_reducible refine bF hy (fun _ hy=>?_) (fun _ hy=>?_) | with_reducible refine cQ hc (fun hc=>?_) | with_reducible refine zz ?_)
 all_goals (subst hy; first | (change Reach _ _ _ _ _ _; apply Nq g c hg hC <;> first | assumption | exact hc) | rfl)
mutual
def zL:Nat→Sem Sh.expr→Sem (Sh.sl zh)→Sem zf×Sem zf
 | 0=>fun _ _=>default
 | n+1=>ve (zL n) (aW n)
def aW:Nat→Sem Sh.expr→Sem (Sh.sl zh)→Bool
 | 0=>fun _ _=>false
 | n+1=>xp (zL n) (aW n)
end
theorem M5:∀ n,FK 126 (zN [Sh.expr,Sh.sl zh] [zf,zf] (fun x=>aW n x.1 x.2.1) fun x=>((zL n x.1 x.2.1).1,(zL n x.1 x.2.1).2,()))
 | 0=>eW ⟨Tryz.f126,(y4 default default).1,(y4 default default).2.1,(y4 default default).2.2.1⟩ (fun _=>rfl)
 | n+1=>Wg (zL n) (aW n) (M5 n)
def F51:zT:=zN [Sh.expr,Sh.sl zh] [zf,zf] (fun x=>aW 16 x.1 x.2.1) fun x=>((zL 16 x.1 x.2.1).1,(zL 16 x.1 x.2.1).2,())
theorem zaw:FK 126 F51:=M5 16

noncomputable def Gm:=N0.add 126 F51
theorem oU:zy Gm:=Cf.add zaw

noncomputable def LQ (g:Sem Sh.expr→Sem zf→Sem zf→Sem Sh.expr×Sem zf) (c:Sem Sh.expr→Sem zf→Sem zf→Bool):bS:=Gm.add 57 (zN [Sh.expr,zf,zf] [Sh.expr,zf] (fun x=>c x.1 x.2.1 x.2.2.1) fun x=>((g x.1 x.2.1 x.2.2.1).1,(g x.1 x.2.1 x.2.2.1).2,()))
theorem x5 {g:Sem Sh.expr→Sem zf→Sem zf→Sem Sh.expr×Sem zf} {c:Sem Sh.expr→Sem zf→Sem zf→Bool} (hg:FK 57 (zN [Sh.expr,zf,zf] [Sh.expr,zf] (fun x=>c x.1 x.2.1 x.2.2.1) fun x=>((g x.1 x.2.1 x.2.2.1).1,(g x.1 x.2.1 x.2.2.1).2,()))):zy (LQ g c):=oU.add hg
abbrev UM:Nat→aJ:=fun j=>if j=10 then { slots:=[1,2,3,6,8,9],prom:=[(8,some 5,Sh.expr)] } else { }
abbrev gk (i1:Sem zf) (i2:Int) (i9:Int) (ja0:zw) (ja1:Int) (ja2:Int) (ja3:zw) (ja4:zw) (ja5:LX) (jb0:List UInt8) (jb1:Int) (jb2:Int) (jb3:List UInt8) (jb4:List UInt8) (jc0:List UInt8) (jc1:Int) (jc2:Int) (jc3:List UInt8) (jc4:List UInt8) (lh_3:LX):St:={ tmps:=(tm 88 [(1,ai i1),(2,ai i2),(3,AV.ptr 0 0),(6,AV.ptr 1 0),(8,AV.ptr 2 0),(9,ai i9)]),heap:=[AO.box [AV.str ja0,ai ja1,ai ja2,AV.str ja3,AV.str ja4,AV.sl Sh.expr ja5],AO.box [AV.str jb0,ai jb1,ai jb2,AV.str jb3,AV.str jb4,AV.nils],AO.box [AV.str jc0,ai jc1,ai jc2,AV.str jc3,AV.str jc4,AV.vec 3],AO.vec Sh.expr lh_3] }
theorem y3 (g:Sem Sh.expr→Sem zf→Sem zf→Sem Sh.expr×Sem zf) (c:Sem Sh.expr→Sem zf→Sem zf→Bool):zK (LQ g c).P 57 Tryz.f57 3:=bN (by kernel_rfl)
theorem zbF (g:Sem Sh.expr→Sem zf→Sem zf→Sem Sh.expr×Sem zf) (c:Sem Sh.expr→Sem zf→Sem zf→Bool) (x0:Sem Sh.expr) (x1:Sem zf) (x2:Sem zf):rn (LQ g c) 0 UM Tryz.f57 [zF Sh.expr x0,zF zf x1,zF zf x2] []=Tr.br (decide ((↑(length (ze.op x0)):Int) > 8)) (Tr.chk (decide (0≤0)&&decide (0≤8)&&decide (8≤(↑(length (ze.op x0)):Int))) (Tr.br (decide ((↑(length (ze.s x0)):Int) > 20)) (Tr.chk (decide (0≤0)&&decide (0≤20)&&decide (20≤(↑(length (ze.s x0)):Int))) (Tr.br (decide ((↑(length (ze.v x0).2.2):Int) > 45)) (Tr.chk (decide (0≤0)&&decide (0≤45)&&decide (45≤(↑(length (ze.v x0).2.2):Int))) (Tr.ok (zx.head 10 (zI Tryz.f57 10) (gk x1 (IntKind.i64.wrap (x2 - 1)) 0 (ze.op x0) (ze.v x0).1 (ze.v x0).2.1 (ze.v x0).2.2 (ze.s x0) (ze.l x0) [] 0 0 [] [] (List.take (toNat 8 - toNat 0) (List.drop (toNat 0) (ze.op x0))) (ze.v x0).1 (ze.v x0).2.1 (List.take (toNat 45 - toNat 0) (List.drop (toNat 0) (ze.v x0).2.2)) (List.take (toNat 20 - toNat 0) (List.drop (toNat 0) (ze.s x0))) [])))) (Tr.ok (zx.head 10 (zI Tryz.f57 10) (gk x1 (IntKind.i64.wrap (x2 - 1)) 0 (ze.op x0) (ze.v x0).1 (ze.v x0).2.1 (ze.v x0).2.2 (ze.s x0) (ze.l x0) [] 0
 0 [] [] (List.take (toNat 8 - toNat 0) (List.drop (toNat 0) (ze.op x0))) (ze.v x0).1 (ze.v x0).2.1 (ze.v x0).2.2 (List.take (toNat 20 - toNat 0) (List.drop (toNat 0) (ze.s x0))) []))))) (Tr.br (decide ((↑(length (ze.v x0).2.2):Int) > 45)) (Tr.chk (decide (0≤0)&&decide (0≤45)&&decide (45≤(↑(length (ze.v x0).2.2):Int))) (Tr.ok (zx.head 10 (zI Tryz.f57 10) (gk x1 (IntKind.i64.wrap (x2 - 1)) 0 (ze.op x0) (ze.v x0).1 (ze.v x0).2.1 (ze.v x0).2.2 (ze.s x0) (ze.l x0) [] 0 0 [] [] (List.take (toNat 8 - toNat 0) (List.drop (toNat 0) (ze.op x0))) (ze.v x0).1 (ze.v x0).2.1 (List.take (toNat 45 - toNat 0) (List.drop (toNat 0) (ze.v x0).2.2)) (ze.s x0) [])))) (Tr.ok (zx.head 10 (zI Tryz.f57 10) (gk x1 (IntKind.i64.wrap (x2 - 1)) 0 (ze.op x0) (ze.v x0).1 (ze.v x0).2.1 (ze.v x0).2.2 (ze.s x0) (ze.l x0) [] 0 0 [] [] (List.take (toNat 8 - toNat 0) (List.drop (toNat 0) (ze.op x0))) (ze.v x0).1 (ze.v x0).2.1 (ze.v x0).2.2 (ze.s x0) [])))))) (Tr.br (decide ((↑(length (ze.s x0)):Int) > 20)) (Tr.chk (decide (0≤0)&&decide (0≤20)&&decide (20≤(↑(length (ze.s x0)):Int))) (Tr.br (decide ((↑(length (ze.v x0).2.2):Int) > 45)) (Tr.chk (decide (0≤0)&&decide (0≤45)&&decide (45≤(↑(length (ze.v x0).2.2):Int))) (Tr.ok (zx.head 10 (zI Tryz.f57 10)
 (gk x1 (IntKind.i64.wrap (x2 - 1)) 0 (ze.op x0) (ze.v x0).1 (ze.v x0).2.1 (ze.v x0).2.2 (ze.s x0) (ze.l x0) [] 0 0 [] [] (ze.op x0) (ze.v x0).1 (ze.v x0).2.1 (List.take (toNat 45 - toNat 0) (List.drop (toNat 0) (ze.v x0).2.2)) (List.take (toNat 20 - toNat 0) (List.drop (toNat 0) (ze.s x0))) [])))) (Tr.ok (zx.head 10 (zI Tryz.f57 10) (gk x1 (IntKind.i64.wrap (x2 - 1)) 0 (ze.op x0) (ze.v x0).1 (ze.v x0).2.1 (ze.v x0).2.2 (ze.s x0) (ze.l x0) [] 0 0 [] [] (ze.op x0) (ze.v x0).1 (ze.v x0).2.1 (ze.v x0).2.2 (List.take (toNat 20 - toNat 0) (List.drop (toNat 0) (ze.s x0))) []))))) (Tr.br (decide ((↑(length (ze.v x0).2.2):Int) > 45)) (Tr.chk (decide (0≤0)&&decide (0≤45)&&decide (45≤(↑(length (ze.v x0).2.2):Int))) (Tr.ok (zx.head 10 (zI Tryz.f57 10) (gk x1 (IntKind.i64.wrap (x2 - 1)) 0 (ze.op x0) (ze.v x0).1 (ze.v x0).2.1 (ze.v x0).2.2 (ze.s x0) (ze.l x0) [] 0 0 [] [] (ze.op x0) (ze.v x0).1 (ze.v x0).2.1 (List.take (toNat 45 - toNat 0) (List.drop (toNat 0) (ze.v x0).2.2)) (ze.s x0) [])))) (Tr.ok (zx.head 10 (zI Tryz.f57 10) (gk x1 (IntKind.i64.wrap (x2 - 1)) 0 (ze.op x0) (ze.v x0).1 (ze.v x0).2.1 (ze.v x0).2.2 (ze.s x0) (ze.l x0) [] 0 0 [] [] (ze.op x0) (ze.v x0).1 (ze.v x0).2.1 (ze.v x0).2.2 (ze.s x0) []))))):=by kernel_rfl
theorem Hc (g:Sem Sh.expr→Sem zf→Sem zf→Sem Sh.expr×Sem zf) (c:Sem Sh.expr→Sem zf→Sem zf→Bool) (i1:Sem zf) (i2:Int) (i9:Int) (ja0:zw) (ja1:Int) (ja2:Int) (ja3:zw) (ja4:zw) (ja5:LX) (jb0:List UInt8) (jb1:Int) (jb2:Int) (jb3:List UInt8) (jb4:List UInt8) (jc0:List UInt8) (jc1:Int) (jc2:Int) (jc3:List UInt8) (jc4:List UInt8) (lh_3:LX):rh (LQ g c) 0 UM Tryz.f57 10 (gk i1 i2 i9 ja0 ja1 ja2 ja3 ja4 ja5 jb0 jb1 jb2 jb3 jb4 jc0 jc1 jc2 jc3 jc4 lh_3)=Tr.br (bif decide (i9 < (↑ja5.length:Int)) then bif decide (i9 < 3) then bif decide (i1 > 0) then decide (i2 > 0) else false else false else false) (Tr.chk (zR i9 ja5.length) (Tr.chk (c (zm (ja5.getD i9.toNat (zi Sh.expr))) (IntKind.i64.wrap (i1 - 1)) i2) (Tr.chk (decide (lh_3.length+[ze.mk (ze.op (g (zm (ja5.getD i9.toNat (zi Sh.expr))) (IntKind.i64.wrap (i1 - 1)) i2).1) (ze.v (g (zm (ja5.getD i9.toNat (zi Sh.expr))) (IntKind.i64.wrap (i1 - 1)) i2).1) (ze.s (g (zm (ja5.getD i9.toNat (zi Sh.expr))) (IntKind.i64.wrap (i1 - 1)) i2).1) (ze.l (g (zm (ja5.getD i9.toNat (zi Sh.expr))) (IntKind.i64.wrap (i1 - 1)) i2).1)].length≤1073741824)) (Tr.ok (zx.head 10 (zI Tryz.f57 10) (gk i1 (g (zm (ja5.getD i9.toNat (zi Sh.expr))) (IntKind.i64.wrap (i1 - 1)) i2).2
 (IntKind.i64.wrap (i9+1)) ja0 ja1 ja2 ja3 ja4 ja5 jb0 jb1 jb2 jb3 jb4 jc0 jc1 jc2 jc3 jc4 (lh_3++[ze.mk (ze.op (g (zm (ja5.getD i9.toNat (zi Sh.expr))) (IntKind.i64.wrap (i1 - 1)) i2).1) (ze.v (g (zm (ja5.getD i9.toNat (zi Sh.expr))) (IntKind.i64.wrap (i1 - 1)) i2).1) (ze.s (g (zm (ja5.getD i9.toNat (zi Sh.expr))) (IntKind.i64.wrap (i1 - 1)) i2).1) (ze.l (g (zm (ja5.getD i9.toNat (zi Sh.expr))) (IntKind.i64.wrap (i1 - 1)) i2).1)]))))))) (Tr.ok (zx.ret (AV.tup [AV.agg [AV.str jc0,ai jc1,ai jc2,AV.str jc3,AV.str jc4,AV.vec 0],ai i2]) [AO.vec Sh.expr lh_3])):=by kernel_rfl
def cr (g:Sem Sh.expr→Sem zf→Sem zf→Sem Sh.expr×Sem zf) (c:Sem Sh.expr→Sem zf→Sem zf→Bool) (i1:Sem zf) (ja0:zw) (ja1:Int) (ja2:Int) (ja3:zw) (ja4:zw) (jb0:List UInt8) (jb1:Int) (jb2:Int) (jb3:List UInt8) (jb4:List UInt8) (jc0:List UInt8) (jc1:Int) (jc2:Int) (jc3:List UInt8) (jc4:List UInt8):List (Sem Sh.expr)→Int→Int→List (Sem Sh.expr)→Sem Sh.expr×Sem zf
 | [],_,i2,lh_3=>(ze.mk jc0 (jc1,jc2,jc3) jc4 lh_3,i2)
 | x::r,i9,i2,lh_3=>if (bif decide (i9 < 3) then bif decide (i1 > 0) then decide (i2 > 0) else false else false)=true then
 cr g c i1 ja0 ja1 ja2 ja3 ja4 jb0 jb1 jb2 jb3 jb4 jc0 jc1 jc2 jc3 jc4 r (i9+1)
  (g x (IntKind.i64.wrap (i1 - 1)) i2).2 (lh_3++[(g x (IntKind.i64.wrap (i1 - 1)) i2).1])
else (ze.mk jc0 (jc1,jc2,jc3) jc4 lh_3,i2)
def cZ (g:Sem Sh.expr→Sem zf→Sem zf→Sem Sh.expr×Sem zf) (c:Sem Sh.expr→Sem zf→Sem zf→Bool) (i1:Sem zf) (ja0:zw) (ja1:Int) (ja2:Int) (ja3:zw) (ja4:zw) (jb0:List UInt8) (jb1:Int) (jb2:Int) (jb3:List UInt8) (jb4:List UInt8) (jc0:List UInt8) (jc1:Int) (jc2:Int) (jc3:List UInt8) (jc4:List UInt8):List (Sem Sh.expr)→Int→Int→List (Sem Sh.expr)→Bool
 | [],_,_,_=>true
 | x::r,i9,i2,lh_3=>if (bif decide (i9 < 3) then bif decide (i1 > 0) then decide (i2 > 0) else false else false)=true then
 if c x (IntKind.i64.wrap (i1 - 1)) i2=true then
  if decide (lh_3.length+[(g x (IntKind.i64.wrap (i1 - 1)) i2).1].length≤1073741824)=true then
   cZ g c i1 ja0 ja1 ja2 ja3 ja4 jb0 jb1 jb2 jb3 jb4 jc0 jc1 jc2 jc3 jc4 r (i9+1)
    (g x (IntKind.i64.wrap (i1 - 1)) i2).2 (lh_3++[(g x (IntKind.i64.wrap (i1 - 1)) i2).1])
  else false
 else false
else true
theorem No (g:Sem Sh.expr→Sem zf→Sem zf→Sem Sh.expr×Sem zf) (c:Sem Sh.expr→Sem zf→Sem zf→Bool) (hg:FK 57 (zN [Sh.expr,zf,zf] [Sh.expr,zf] (fun x=>c x.1 x.2.1 x.2.2.1) fun x=>((g x.1 x.2.1 x.2.2.1).1,(g x.1 x.2.1 x.2.2.1).2,()))) {C:dl} (hC:∀ id,C.ρ0 id=none) (i1:Sem zf) (ja0:zw) (ja1:Int) (ja2:Int) (ja3:zw) (ja4:zw) (jb0:List UInt8) (jb1:Int) (jb2:Int) (jb3:List UInt8) (jb4:List UInt8) (jc0:List UInt8) (jc1:Int) (jc2:Int) (jc3:List UInt8) (jc4:List UInt8) (ja5:LX) (hl:ja5.length≤zA):∀ (m i:Nat) (i2:Int) (lh_3:LX),ja5.length - i=m→i≤ja5.length→cZ g c i1 ja0 ja1 ja2 ja3 ja4 jb0 jb1 jb2 jb3 jb4 jc0 jc1 jc2 jc3 jc4 (ja5.drop i) i i2 lh_3=true→
  Reach (LQ g c) C 57 (zI Tryz.f57 10) (gk i1 i2 (i:Int) ja0 ja1 ja2 ja3 ja4 ja5 jb0 jb1 jb2 jb3 jb4 jc0 jc1 jc2 jc3 jc4 lh_3) (fun r h=>az h [Sh.expr,zf] r=some ((cr g c i1 ja0 ja1 ja2 ja3 ja4 jb0 jb1 jb2 jb3 jb4 jc0 jc1 jc2 jc3 jc4 (ja5.drop i) i i2 lh_3).1,(cr g c i1 ja0 ja1 ja2 ja3 ja4 jb0 jb1 jb2 jb3 jb4 jc0 jc1 jc2 jc3 jc4 (ja5.drop i) i i2 lh_3).2,())):=by
 intro m
 induction m with
 | zero=>
  intro i i2 lh_3 hm hi hc
  obtain rfl:i=ja5.length:=by omega
  rw [ey] at hc ⊢
  refine zr (x5 hg) (y3 g c) (fun id _=>hC id) (Hc g c _ _ _ _ _ _ _ _ _ _ _ _ _ _ _ _ _ _ _ _) ?_
  rw [cZ] at hc
  generalize hy:cr g c i1 ja0 ja1 ja2 ja3 ja4 jb0 jb1 jb2 jb3 jb4 jc0 jc1 jc2 jc3 jc4 [] _ i2 lh_3=y
  rw [cr] at hy
  simp only [ze.eta,zH,aq,Tr.val_brF]
  repeat' (first | with_reducible refine jk hy hc (fun _ hy hc=>?_) (fun _ hy hc=>?_) | with_reducible refine bF hy (fun _ hy=>?_) (fun _ hy=>?_) | with_reducible refine cQ hc (fun hc=>?_) | with_reducible refine zz ?_)
  all_goals (subst hy; first | rfl)
 | succ m IH=>
  intro i i2 lh_3 hm hi hc
  have hlt:i < ja5.length:=by omega
  have IH:=IH (i+1)
  have hcast:((i:Int)+1)=((i+1:Nat):Int):=by omega
  have hwr:=zt i (by omega)
  rw [dF hlt] at hc ⊢
  refine zr (x5 hg) (y3 g c) (fun id _=>hC id) (Hc g c _ _ _ _ _ _ _ _ _ _ _ _ _ _ _ _ _ _ _ _) ?_
  rw [cZ] at hc
  generalize hy:cr g c i1 ja0 ja1 ja2 ja3 ja4 jb0 jb1 jb2 jb3 jb4 jc0 jc1 jc2 jc3 jc4 (ja5[i]::ja5.drop (i+1)) (i:Int) i2 lh_3=y
  rw [cr] at hy
  simp only [ze.eta,zM hlt,zB hlt,bt ja5 _ hlt,hwr,zU]
  clear hwr
  simp only [hcast] at hy
  try simp only [hcast] at hc
  repeat' (first | with_reducible refine jk hy hc (fun _ hy hc=>?_) (fun _ hy hc=>?_) | with_reducible refine bF hy (fun _ hy=>?_) (fun _ hy=>?_) | with_reducible refine cQ hc (fun hc=>?_) | with_reducible refine zz ?_)
  all_goals (subst hy; first | (change Reach _ _ _ _ _ _; apply IH <;> first | omega | assumption) | rfl)
theorem LJ (g:Sem Sh.expr→Sem zf→Sem zf→Sem Sh.expr×Sem zf) (c:Sem Sh.expr→Sem zf→Sem zf→Bool) (hg:FK 57 (zN [Sh.expr,zf,zf] [Sh.expr,zf] (fun x=>c x.1 x.2.1 x.2.2.1) fun x=>((g x.1 x.2.1 x.2.2.1).1,(g x.1 x.2.1 x.2.2.1).2,()))) {C:dl} (hC:∀ id,C.ρ0 id=none) (i1:Sem zf) (ja0:zw) (ja1:Int) (ja2:Int) (ja3:zw) (ja4:zw) (jb0:List UInt8) (jb1:Int) (jb2:Int) (jb3:List UInt8) (jb4:List UInt8) (jc0:List UInt8) (jc1:Int) (jc2:Int) (jc3:List UInt8) (jc4:List UInt8) (ja5:LX) (i2:Int) (lh_3:LX) (hc:cZ g c i1 ja0 ja1 ja2 ja3 ja4 jb0 jb1 jb2 jb3 jb4 jc0 jc1 jc2 jc3 jc4 ja5 0 i2 lh_3=true):
  Reach (LQ g c) C 57 (zI Tryz.f57 10) (gk i1 i2 0 ja0 ja1 ja2 ja3 ja4 ja5 jb0 jb1 jb2 jb3 jb4 jc0 jc1 jc2 jc3 jc4 lh_3) (fun r h=>az h [Sh.expr,zf] r=some ((cr g c i1 ja0 ja1 ja2 ja3 ja4 jb0 jb1 jb2 jb3 jb4 jc0 jc1 jc2 jc3 jc4 ja5 0 i2 lh_3).1,(cr g c i1 ja0 ja1 ja2 ja3 ja4 jb0 jb1 jb2 jb3 jb4 jc0 jc1 jc2 jc3 jc4 ja5 0 i2 lh_3).2,())):=
 Reach.lenB 0 5 (Sh.expr) ja5 rfl rfl fun hl=>No g c hg hC i1 ja0 ja1 ja2 ja3 ja4 jb0 jb1 jb2 jb3 jb4 jc0 jc1 jc2 jc3 jc4 ja5 hl _ 0 i2 lh_3 rfl (aK _) hc
def GI (g:Sem Sh.expr→Sem zf→Sem zf→Sem Sh.expr×Sem zf) (c:Sem Sh.expr→Sem zf→Sem zf→Bool) (x0:Sem Sh.expr) (x1:Sem zf) (x2:Sem zf):Sem Sh.expr×Sem zf:=if decide ((↑(length (ze.op x0)):Int) > 8)=true then if decide ((↑(length (ze.s x0)):Int) > 20)=true then if decide ((↑(length (ze.v x0).2.2):Int) > 45)=true then cr g c x1 (ze.op x0) (ze.v x0).1 (ze.v x0).2.1 (ze.v x0).2.2 (ze.s x0) [] 0 0 [] [] (List.take (toNat 8 - toNat 0) (List.drop (toNat 0) (ze.op x0))) (ze.v x0).1 (ze.v x0).2.1 (List.take (toNat 45 - toNat 0) (List.drop (toNat 0) (ze.v x0).2.2)) (List.take (toNat 20 - toNat 0) (List.drop (toNat 0) (ze.s x0))) (ze.l x0) 0 (IntKind.i64.wrap (x2 - 1)) [] else cr g c x1 (ze.op x0) (ze.v x0).1 (ze.v x0).2.1 (ze.v x0).2.2 (ze.s x0) [] 0 0 [] [] (List.take (toNat 8 - toNat 0) (List.drop (toNat 0) (ze.op x0))) (ze.v x0).1 (ze.v x0).2.1 (ze.v x0).2.2 (List.take (toNat 20 - toNat 0) (List.drop (toNat 0) (ze.s x0))) (ze.l x0) 0 (IntKind.i64.wrap (x2 - 1)) [] else if decide ((↑(length (ze.v x0).2.2):Int) > 45)=true then cr g c x1 (ze.op x0) (ze.v x0).1 (ze.v x0).2.1 (ze.v x0).2.2 (ze.s x0) [] 0 0 [] [] (List.take (toNat 8 - toNat 0) (List.drop (toNat 0) (ze.op x0))) (ze.v x0).1 (ze.v x0).2.1
 (List.take (toNat 45 - toNat 0) (List.drop (toNat 0) (ze.v x0).2.2)) (ze.s x0) (ze.l x0) 0 (IntKind.i64.wrap (x2 - 1)) [] else cr g c x1 (ze.op x0) (ze.v x0).1 (ze.v x0).2.1 (ze.v x0).2.2 (ze.s x0) [] 0 0 [] [] (List.take (toNat 8 - toNat 0) (List.drop (toNat 0) (ze.op x0))) (ze.v x0).1 (ze.v x0).2.1 (ze.v x0).2.2 (ze.s x0) (ze.l x0) 0 (IntKind.i64.wrap (x2 - 1)) [] else if decide ((↑(length (ze.s x0)):Int) > 20)=true then if decide ((↑(length (ze.v x0).2.2):Int) > 45)=true then cr g c x1 (ze.op x0) (ze.v x0).1 (ze.v x0).2.1 (ze.v x0).2.2 (ze.s x0) [] 0 0 [] [] (ze.op x0) (ze.v x0).1 (ze.v x0).2.1 (List.take (toNat 45 - toNat 0) (List.drop (toNat 0) (ze.v x0).2.2)) (List.take (toNat 20 - toNat 0) (List.drop (toNat 0) (ze.s x0))) (ze.l x0) 0 (IntKind.i64.wrap (x2 - 1)) [] else cr g c x1 (ze.op x0) (ze.v x0).1 (ze.v x0).2.1 (ze.v x0).2.2 (ze.s x0) [] 0 0 [] [] (ze.op x0) (ze.v x0).1 (ze.v x0).2.1 (ze.v x0).2.2 (List.take (toNat 20 - toNat 0) (List.drop (toNat 0) (ze.s x0))) (ze.l x0) 0 (IntKind.i64.wrap (x2 - 1)) [] else if decide ((↑(length (ze.v x0).2.2):Int) > 45)=true then cr g c x1 (ze.op x0) (ze.v x0).1 (ze.v x0).2.1 (ze.v x0).2.2 (ze.s x0) [] 0 0 [] [] (ze.op x0) (ze.v x0).1
 (ze.v x0).2.1 (List.take (toNat 45 - toNat 0) (List.drop (toNat 0) (ze.v x0).2.2)) (ze.s x0) (ze.l x0) 0 (IntKind.i64.wrap (x2 - 1)) [] else cr g c x1 (ze.op x0) (ze.v x0).1 (ze.v x0).2.1 (ze.v x0).2.2 (ze.s x0) [] 0 0 [] [] (ze.op x0) (ze.v x0).1 (ze.v x0).2.1 (ze.v x0).2.2 (ze.s x0) (ze.l x0) 0 (IntKind.i64.wrap (x2 - 1)) []
def GJ (g:Sem Sh.expr→Sem zf→Sem zf→Sem Sh.expr×Sem zf) (c:Sem Sh.expr→Sem zf→Sem zf→Bool) (x0:Sem Sh.expr) (x1:Sem zf) (x2:Sem zf):Bool:=if decide ((↑(length (ze.op x0)):Int) > 8)=true then if (decide (0≤0)&&decide (0≤8)&&decide (8≤(↑(length (ze.op x0)):Int)))=true then if decide ((↑(length (ze.s x0)):Int) > 20)=true then if (decide (0≤0)&&decide (0≤20)&&decide (20≤(↑(length (ze.s x0)):Int)))=true then if decide ((↑(length (ze.v x0).2.2):Int) > 45)=true then if (decide (0≤0)&&decide (0≤45)&&decide (45≤(↑(length (ze.v x0).2.2):Int)))=true then cZ g c x1 (ze.op x0) (ze.v x0).1 (ze.v x0).2.1 (ze.v x0).2.2 (ze.s x0) [] 0 0 [] [] (List.take (toNat 8 - toNat 0) (List.drop (toNat 0) (ze.op x0))) (ze.v x0).1 (ze.v x0).2.1 (List.take (toNat 45 - toNat 0) (List.drop (toNat 0) (ze.v x0).2.2)) (List.take (toNat 20 - toNat 0) (List.drop (toNat 0) (ze.s x0))) (ze.l x0) 0 (IntKind.i64.wrap (x2 - 1)) [] else false else cZ g c x1 (ze.op x0) (ze.v x0).1 (ze.v x0).2.1 (ze.v x0).2.2 (ze.s x0) [] 0 0 [] [] (List.take (toNat 8 - toNat 0) (List.drop (toNat 0) (ze.op x0))) (ze.v x0).1 (ze.v x0).2.1 (ze.v x0).2.2
 (List.take (toNat 20 - toNat 0) (List.drop (toNat 0) (ze.s x0))) (ze.l x0) 0 (IntKind.i64.wrap (x2 - 1)) [] else false else if decide ((↑(length (ze.v x0).2.2):Int) > 45)=true then if (decide (0≤0)&&decide (0≤45)&&decide (45≤(↑(length (ze.v x0).2.2):Int)))=true then cZ g c x1 (ze.op x0) (ze.v x0).1 (ze.v x0).2.1 (ze.v x0).2.2 (ze.s x0) [] 0 0 [] [] (List.take (toNat 8 - toNat 0) (List.drop (toNat 0) (ze.op x0))) (ze.v x0).1 (ze.v x0).2.1 (List.take (toNat 45 - toNat 0) (List.drop (toNat 0) (ze.v x0).2.2)) (ze.s x0) (ze.l x0) 0 (IntKind.i64.wrap (x2 - 1)) [] else false else cZ g c x1 (ze.op x0) (ze.v x0).1 (ze.v x0).2.1 (ze.v x0).2.2 (ze.s x0) [] 0 0 [] [] (List.take (toNat 8 - toNat 0) (List.drop (toNat 0) (ze.op x0))) (ze.v x0).1 (ze.v x0).2.1 (ze.v x0).2.2 (ze.s x0) (ze.l x0) 0 (IntKind.i64.wrap (x2 - 1)) [] else false else if decide ((↑(length (ze.s x0)):Int) > 20)=true then if (decide (0≤0)&&decide (0≤20)&&decide (20≤(↑(length (ze.s x0)):Int)))=true then if decide ((↑(length (ze.v x0).2.2):Int) > 45)=true then if (decide (0≤0)&&decide (0≤45)&&decide (45≤(↑(length (ze.v x0).2.2):Int)))=true then cZ g c x1 (ze.op x0) (ze.v x0).1 (ze.v x0).2.1 (ze.v x0).2.2 (ze.s x0) [] 0 0 [] [] (ze.op x0) (ze.v x0).1
 (ze.v x0).2.1 (List.take (toNat 45 - toNat 0) (List.drop (toNat 0) (ze.v x0).2.2)) (List.take (toNat 20 - toNat 0) (List.drop (toNat 0) (ze.s x0))) (ze.l x0) 0 (IntKind.i64.wrap (x2 - 1)) [] else false else cZ g c x1 (ze.op x0) (ze.v x0).1 (ze.v x0).2.1 (ze.v x0).2.2 (ze.s x0) [] 0 0 [] [] (ze.op x0) (ze.v x0).1 (ze.v x0).2.1 (ze.v x0).2.2 (List.take (toNat 20 - toNat 0) (List.drop (toNat 0) (ze.s x0))) (ze.l x0) 0 (IntKind.i64.wrap (x2 - 1)) [] else false else if decide ((↑(length (ze.v x0).2.2):Int) > 45)=true then if (decide (0≤0)&&decide (0≤45)&&decide (45≤(↑(length (ze.v x0).2.2):Int)))=true then cZ g c x1 (ze.op x0) (ze.v x0).1 (ze.v x0).2.1 (ze.v x0).2.2 (ze.s x0) [] 0 0 [] [] (ze.op x0) (ze.v x0).1 (ze.v x0).2.1 (List.take (toNat 45 - toNat 0) (List.drop (toNat 0) (ze.v x0).2.2)) (ze.s x0) (ze.l x0) 0 (IntKind.i64.wrap (x2 - 1)) [] else false else cZ g c x1 (ze.op x0) (ze.v x0).1 (ze.v x0).2.1 (ze.v x0).2.2 (ze.s x0) [] 0 0 [] [] (ze.op x0) (ze.v x0).1 (ze.v x0).2.1 (ze.v x0).2.2 (ze.s x0) (ze.l x0) 0 (IntKind.i64.wrap (x2 - 1)) []
def zes (g:Sem Sh.expr→Sem zf→Sem zf→Sem Sh.expr×Sem zf) (c:Sem Sh.expr→Sem zf→Sem zf→Bool):zT:=zN [Sh.expr,zf,zf] [Sh.expr,zf] (fun x=>GJ g c x.1 x.2.1 x.2.2.1) fun x=>((GI g c x.1 x.2.1 x.2.2.1).1,(GI g c x.1 x.2.1 x.2.2.1).2,())
theorem VI (g:Sem Sh.expr→Sem zf→Sem zf→Sem Sh.expr×Sem zf) (c:Sem Sh.expr→Sem zf→Sem zf→Bool) (hg:FK 57 (zN [Sh.expr,zf,zf] [Sh.expr,zf] (fun x=>c x.1 x.2.1 x.2.2.1) fun x=>((g x.1 x.2.1 x.2.2.1).1,(g x.1 x.2.1 x.2.2.1).2,()))):FK 57 (zes g c):=by
 refine au (y3 g c) fun x hc C hC=>?_
 unfold GJ at hc
 refine zr (x5 hg) (y3 g c) (fun id _=>hC id) (zbF g c x.1 x.2.1 x.2.2.1) ?_
 generalize hy:GI g c x.1 x.2.1 x.2.2.1=y
 unfold GI at hy
 try simp only [ze.eta,zn]
 repeat' (first | with_reducible refine jk hy hc (fun _ hy hc=>?_) (fun _ hy hc=>?_) | with_reducible refine bF hy (fun _ hy=>?_) (fun _ hy=>?_) | with_reducible refine cQ hc (fun hc=>?_) | with_reducible refine zz ?_)
 all_goals (subst hy; first | (change Reach _ _ _ _ _ _; apply LJ g c hg hC <;> first | assumption | exact hc) | rfl)
mutual
def kx:Nat→Sem Sh.expr→Sem zf→Sem zf→Sem Sh.expr×Sem zf
 | 0=>fun _ _ _=>default
 | n+1=>GI (kx n) (si n)
def si:Nat→Sem Sh.expr→Sem zf→Sem zf→Bool
 | 0=>fun _ _ _=>false
 | n+1=>GJ (kx n) (si n)
end
theorem M1:∀ n,FK 57 (zN [Sh.expr,zf,zf] [Sh.expr,zf] (fun x=>si n x.1 x.2.1 x.2.2.1) fun x=>((kx n x.1 x.2.1 x.2.2.1).1,(kx n x.1 x.2.1 x.2.2.1).2,()))
 | 0=>eW ⟨Tryz.f57,(y3 default default).1,(y3 default default).2.1,(y3 default default).2.2.1⟩ (fun _=>rfl)
 | n+1=>VI (kx n) (si n) (M1 n)
def F15:zT:=zN [Sh.expr,zf,zf] [Sh.expr,zf] (fun x=>si 16 x.1 x.2.1 x.2.2.1) fun x=>((kx 16 x.1 x.2.1 x.2.2.1).1,(kx 16 x.1 x.2.1 x.2.2.1).2,())
theorem Z2:FK 57 F15:=M1 16

def R5 (g:ze→ze→Bool):List ze→List ze→Bool
 | x::r,y::s=>if (!g x y)=true then false else R5 g r s
 | _,_=>true
def L9 (g c:ze→ze→Bool):List ze→List ze→Bool
 | x::r,y::s=>if c x y=true then (if (!g x y)=true then true else L9 g c r s) else false
 | _,_=>true

noncomputable def LY (g c:ze→ze→Bool):bS:=Gm.add 87 (zN [.expr,.expr] [.bool] (fun x=>c x.1 x.2.1) (fun x=>(g x.1 x.2.1,())))
theorem ye {g c:ze→ze→Bool} (hg:FK 87 (zN [.expr,.expr] [.bool] (fun x=>c x.1 x.2.1) (fun x=>(g x.1 x.2.1,())))):zy (LY g c):=oU.add hg
abbrev zcA:Nat→aJ:=fun j=>if j=4 then { slots:=[1,2,15,16,17] } else { }
abbrev Lb (l1:List ze) (l15:List ze) (i16:Int) (i17:Int):St:={ tmps:=(tm 32 [(1,AV.sl Sh.expr l1),(2,AV.clo (Fn.func 87) [] []),(15,AV.sl Sh.expr l15),(16,ai i16),(17,ai i17)]),heap:=[] }
theorem Sy (g c:ze→ze→Bool):zK (LY g c).P 140 Tryz.f140 3:=bN (by kernel_rfl)
theorem zfE (g c:ze→ze→Bool) (l:List ze) (m:List ze):rn (LY g c) 0 zcA Tryz.f140 [AV.sl Sh.expr l,AV.sl Sh.expr m,AV.clo (Fn.func 87) [] []] []=Tr.br ((↑l.length:Int) != (↑m.length:Int)) (Tr.ok (zx.ret (AV.kb false) [])) (Tr.ok (zx.head 4 (zI Tryz.f140 4) (Lb m l (↑l.length:Int) 0))):=by kernel_rfl
theorem PC (g c:ze→ze→Bool) (l1:List ze) (l15:List ze) (i16:Int) (i17:Int):rh (LY g c) 0 zcA Tryz.f140 4 (Lb l1 l15 i16 i17)=Tr.br (decide (i17 < i16)) (Tr.chk (zR i17 l15.length) (Tr.chk (zR i17 l1.length) (Tr.chk (c (zm (l15.getD i17.toNat (zi Sh.expr))) (zm (l1.getD i17.toNat (zi Sh.expr)))) (Tr.br (!g (zm (l15.getD i17.toNat (zi Sh.expr))) (zm (l1.getD i17.toNat (zi Sh.expr)))) (Tr.ok (zx.ret (AV.kb false) [])) (Tr.ok (zx.head 4 (zI Tryz.f140 4) (Lb l1 l15 i16 (IntKind.i64.wrap (i17+1))))))))) (Tr.ok (zx.ret (AV.kb true) [])):=by kernel_rfl

theorem zeC {g c:ze→ze→Bool} (hg:FK 87 (zN [.expr,.expr] [.bool] (fun x=>c x.1 x.2.1) (fun x=>(g x.1 x.2.1,())))) {C:dl} (hC:∀ id,0≤id→C.ρ0 id=none) (l m:List ze) (hlm:l.length=m.length) (hl:l.length≤zA):
  ∀ (k i:Nat),l.length - i=k→i≤l.length→L9 g c (l.drop i) (m.drop i)=true→Reach (LY g c) C 140 (zI Tryz.f140 4) (Lb m l l.length i) (fun r h=>(r,h)=(.kb (R5 g (l.drop i) (m.drop i)),[])):=by
 intro k
 induction k with
 | zero=>
  intro i hk hi hc
  obtain rfl:i=l.length:=by omega
  refine zr (ye hg) (Sy g c) hC (PC g c _ _ _ _) ?_
  simp only [zH,Tr.val_brF,ey]
  rfl
 | succ k IH=>
  intro i hk hi hc
  have hlt:i < l.length:=by omega
  have hlt':i < m.length:=by omega
  refine zr (ye hg) (Sy g c) hC (PC g c _ _ _ _) ?_
  rw [dF hlt,dF hlt'] at hc ⊢
  rw [L9] at hc
  have hc1:=o7 hc
  simp only [zM hlt,zB hlt,zB hlt',bt l _ hlt,bt m _ hlt',ze.eta,Tr.val_brT,Tr.val_chkT,hc1.1,zt i (by omega)]
  refine ln (fun h=>?_) (fun h=>?_)
  ·rw [R5,if_pos h]; rfl
  ·rw [R5,if_neg (lH h)]
   have h2:=hc1.2
   rw [if_neg (lH h)] at h2
   exact IH (i+1) (by omega) (by omega) h2

def Iv (g:ze→ze→Bool) (l m:List ze):Bool:=if ((↑l.length:Int) != (↑m.length:Int))=true then false else R5 g l m
def vE (g c:ze→ze→Bool) (l m:List ze):Bool:=if ((↑l.length:Int) != (↑m.length:Int))=true then true else L9 g c l m
def G50 (g c:ze→ze→Bool):ie [some (.sl .expr),some (.sl .expr),none]:=fun x h=>match x,h with
 | (l,m,.clo (.func 87) [] [],_),[]=>.chk (vE g c l m) (.ok (.bool (Iv g l m),[]))
 | _,_=>.err
def F50 (g c:ze→ze→Bool):zT:=bh [some (.sl .expr),some (.sl .expr),none] (G50 g c)

theorem Reach.weaken {E:bS} {C:dl} {fn:FuncId} {todo:List Item} {st:St} {Q Q':AV→List AO→Prop} (h:Reach E C fn todo st Q) (hq:∀ r h,Q r h→∃ r',Q' r' h∧∀ w U ρ v,Rv w U ρ r v→Rv w U ρ r' v):Reach E C fn todo st Q':=by
 intro b cs a w U ρ h1 h2 hc hW
 obtain ⟨e,w',fr,⟨v,r,h',U',ρ',he,hq1,hrv,hrest⟩,hcm⟩:=h b cs a w U ρ h1 h2 hc hW
 obtain ⟨r',hq2,hrr⟩:=hq r h' hq1
 exact ⟨e,w',fr,⟨v,r',h',U',ρ',he,hq2,hrr _ _ _ _ hrv,hrest⟩,hcm⟩

theorem zav {g c:ze→ze→Bool} (hg:FK 87 (zN [.expr,.expr] [.bool] (fun x=>c x.1 x.2.1) (fun x=>(g x.1 x.2.1,())))):FK 140 (F50 g c):=by
 refine dD (E:=LY g c) (Sy g c) fun x h0 res hx C hC=>?_
 unfold G50 at hx
 split at hx
 ·rename_i l m u
  simp only [Tr.val] at hx
  split at hx
  ·rename_i hc
   simp only [bz] at hx
   subst hx
   refine Reach.len 0 .expr l rfl fun hl=>?_
   refine Reach.weaken (Q:=fun r h=>(r,h)=(.kb (Iv g l m),[])) ?_ ?_
   ·refine zr (n0:=0) (ye hg) (Sy g c) hC (zfE g c l m) ?_
    unfold vE at hc
    unfold Iv
    refine ln (fun h=>?_) (fun h=>?_)
    ·rw [if_pos h]; rfl
    ·rw [if_neg (lH h)] at hc ⊢
     have:(l.length:Int)=m.length:=by simpa using h
     have:l.length=m.length:=by omega
     exact zeC hg hC l m this hl _ 0 rfl (aK _) hc
   ·rintro r h hq
    cases hq
    refine ⟨_,rfl,fun w U ρ v hv=>?_⟩
    cases hv
    exact .bool _
  ·simp at hx
 ·simp at hx

noncomputable def R2 (g c:ze→ze→Bool):bS:=Gm.add 140 (F50 g c)
theorem NO {g c:ze→ze→Bool} (hg:FK 87 (zN [.expr,.expr] [.bool] (fun x=>c x.1 x.2.1) (fun x=>(g x.1 x.2.1,())))):zy (R2 g c):=oU.add (zav hg)
def QG (a b:V):Bool:=a.1==b.1&&(a.2.1==b.2.1&&(a.2.2==b.2.2&&true))
def HQ (g:ze→ze→Bool) (a b:ze):Bool:=bif a.op==b.op then bif QG a.v b.v then bif a.s==b.s then Iv g a.l b.l else false else false else false
def E8 (g c:ze→ze→Bool) (a b:ze):Bool:=bif a.op==b.op then bif QG a.v b.v then bif a.s==b.s then vE g c a.l b.l else true else true else true
theorem Ps (g c:ze→ze→Bool):zK (R2 g c).P 87 Tryz.f87 2:=bN (by kernel_rfl)
theorem zfl (g c:ze→ze→Bool) (l:ze) (m:ze):rn (R2 g c) 0 (fun _=>{}) Tryz.f87 [zF Sh.expr l,zF Sh.expr m] []=Tr.chk (E8 g c l m) (Tr.ok (zx.ret (AV.bool (HQ g l m)) [])):=by kernel_rfl
theorem VV {g c:ze→ze→Bool} (hg:FK 87 (zN [.expr,.expr] [.bool] (fun x=>c x.1 x.2.1) (fun x=>(g x.1 x.2.1,())))):FK 87 (zN [.expr,.expr] [.bool] (fun x=>E8 g c x.1 x.2.1) (fun x=>(HQ g x.1 x.2.1,()))):=by
 refine au (E:=R2 g c) (Ps g c) fun x hx C hC=>?_
 refine zr (n0:=0) (NO hg) (Ps g c) (fun id _=>hC id) (zfl g c x.1 x.2.1) ?_
 exact lp hx rfl
mutual
def eQ:Nat→ze→ze→Bool
 | 0=>fun _ _=>false
 | n+1=>HQ (eQ n)
def gW:Nat→ze→ze→Bool
 | 0=>fun _ _=>false
 | n+1=>E8 (eQ n) (gW n)
end
theorem M3:∀ n,FK 87 (zN [.expr,.expr] [.bool] (fun x=>gW n x.1 x.2.1) (fun x=>(eQ n x.1 x.2.1,())))
 | 0=>eW ⟨Tryz.f87,(Ps (fun _ _=>false) (fun _ _=>false)).1,(Ps (fun _ _=>false) (fun _ _=>false)).2.1,(Ps (fun _ _=>false) (fun _ _=>false)).2.2.1⟩ (fun _=>rfl)
 | n+1=>VV (M3 n)
def F29:zT:=zN [.expr,.expr] [.bool] (fun x=>gW 16 x.1 x.2.1) (fun x=>(eQ 16 x.1 x.2.1,()))
theorem zac:FK 87 F29:=M3 16

noncomputable def J9:=Gm.addL [(57,F15),(87,F29)]
theorem Cg:zy J9:=oU.addL <| fc Z2 <| fc zac jp
end Cad
