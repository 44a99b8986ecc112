/- The library's functions. Functions from plain data to plain data, where a guard holds; recursion. Values: what may be. Values: what they say. Loops; values in order. -/
import Derived.Test.YtiefilkilbdpgaaGreatDoorN07
import Derived.Test.YtiefilkilbdpgaaGreatDoorN08
import Derived.Test.YtiefilkilbdpgaaGreatDoorN06
namespace Cad
open Go Go.Proofs Go.RowKit Go.Lib
open Int (toNat)
open List (length)

theorem gz.below {w w':World} (h:Below w.heap.size w w'):gz w w':=
 ⟨h.size,h.os,h.output,h.tape,fun a ha=>C8 (h.block a.block ha)⟩

theorem fG {E:bx} {C:cI} {w w':World} {U:Nat→Prop} {r:AV} {v:Value} {h0:List AO} {ρ:Nat→Option Value} (hH:hJ C w U ρ (fun j=>h0.getD j .dead)) (hnew:∀ id,h0.length≤id→ρ id=none)
  (hr0:∀ id v,C.ρ0 id=some v→ρ id=some v) (hW:Wd E.gl C w U) (hb:Below w.heap.size w w') (hr:Rv w' U ρ r v):KQ E C (fun r' h=>(r',h)=(r,h0)) (.returned v) w':=by
 have hk:∀ b,b < w.heap.size→w'.heap[b]?=w.heap[b]?:=hb.block
 refine ⟨v,r,h0,U,ρ,rfl,rfl,hr,⟨fun id=>?_,hH.inj,hH.blk⟩,hnew,hr0,⟨hW.ext.trans (gz.below hb),fun b hb' hn=>?_,fun b hu=>mb (hW.ub b hu) hb.size,hW.u1,hW.u2,fun g=>?_⟩⟩
 ·exact (hH.ob id).mono hb.size (fun b hb' _=>hk b hb') (fun _ _ h=>h) (fun _ _ h=>h) (fun b ho=>⟨hk b ((hH.ob id).inU ho).2,((hH.ob id).inU ho).1⟩)
 ·rw [hk b (mb hb' hW.ext.sz)]; exact hW.same b hb' hn
 ·exact (hW.gl g).mono hb.size (fun b hb' _=>hk b hb') (fun _ _ h=>h) (fun _ _ h=>h)

noncomputable def Ws:bx:=Jx.aut 172 Tryz.f172 1
theorem zeJ:zA Jx.P 172 Tryz.f172 1:=aS (by kernel_rfl)
theorem LG:zl Ws:=iP DF zeJ

def Nk (c:Int):Bool:=bif decide (c < 32) then true else decide (c > 126)

theorem zhb (c:Int):((zU (List.replicate 1 none) (bZ Jx Tryz.f172 (List.replicate 1 none))) [.int .i32 c] (fun _=>.dead) 0).val=some { val:=.bool (Nk c) }:=by kernel_rfl

theorem Yu (w:World) (U:Nat→Prop) (hgl:xS Jx.gl w U) (hub:∀ b,U b→b < w.heap.size):PredGrows Tryz.prog 172 #[] (fun r=>Nk r) w:=by
 intro W x hx hB
 have hF:FK 172 (zU (List.replicate 1 none) (bZ Jx Tryz.f172 (List.replicate 1 none))):=aw _ DF zeJ
 have hr:cK W U (fun _=>none) [.int .i32 (x:Int)] [.int .i32 (x:Int)]:=by
  refine ⟨rfl,fun j c v hc hv=>?_⟩
  cases j with
  | zero=>
   simp at hc hv; subst hc; subst hv
   refine .int _ _ ⟨?_,?_⟩
   ·show (-2147483648:Int)≤x; omega
   ·show (x:Int)≤2147483647; omega
  | succ j=>simp at hc
 have:=(hF.calls W U (fun _=>none) (fun _=>.dead) 0 [.int .i32 (x:Int)] [.int .i32 (x:Int)] _ [] (zhb x) hr (fun b hb=>mb (hub b hb) hB.size) (fun g=>(hgl g).mono hB.size (fun b hb _=>hB.block b hb) (fun _ _ h=>h) (fun _ _ h=>h)) ⟨by simp,by simp⟩ (by simp [AV.idsL,AV.ids]) (by simp) (by simp)).1
 refine this.mono ?_
 rintro e w' ⟨v,U',ρ',rfl,hef⟩
 have hv:=hef.val
 cases hv
 exact ⟨rfl,⟨hef.ext.os,hef.ext.tape,hef.ext.out,hef.ext.sz,fun b hb=>hef.same b hb (by simp)⟩⟩

def AB (s:zp):Int:=Lib.idxFunc (fun r=>Nk r) true ⟨s.toArray⟩

def G36:cG [some .str,none]:=fun x h=>match x,h with
 | (s,.clo (.func 172) [] [],_),[]=>.ok (.int .i64 (AB s),[])
 | _,_=>.err

theorem zgQ:Go.Proofs.Enters Tryz.prog 172:=by
  cases hb:Tryz.f172.body with
  | none => have:Tryz.f172.body.isNone=false:=by kernel_rfl
            rw [hb] at this; cases this
  | some c=>exact Go.Proofs.enters_of (fn:=Tryz.f172) (by kernel_rfl) (by kernel_rfl) hb

theorem zaY:FK 173 (zU [some .str,none] G36):=by
 refine fN (E:=Ws) ⟨Tryz.f173,by kernel_rfl,by kernel_rfl,by kernel_rfl⟩ fun x h0 res hx=>?_
 unfold G36 at hx
 split at hx
 ·rename_i s u
  simp only [Tr.val_ok,ap] at hx
  subst hx
  intro C w U ρ vals _ hr hH hnew hr0 hW
  have hl:=hr.len
  match vals,hl,hr with
  | [v1,v2],_,hr=>
   have h1:=hr.rv 0 (.str s) v1 rfl rfl
   have h2:=hr.rv 1 (.clo (.func 172) [] []) v2 rfl rfl
   cases h1 with
   | str _ hs=>
   cases h2 with
   | clo _ _ _ vf vc hf hc _ _=>
   have hf':vf=[]:=C7 hf.symm
   have hc':vc=[]:=C7 hc.symm
   subst hf'; subst hc'
   have:=Tryz.strings_IndexFunc_grows 172 #[] zgQ (fun r=>Nk r) ⟨s.toArray⟩ w (Yu w U hW.gl hW.ub)
   refine this.mono ?_
   rintro e w' ⟨rfl,hb⟩
   refine fG hH hnew hr0 hW hb (.int _ _ ?_)
   have hrg:=Lib.idxFunc_range (fun r=>Nk r) true ⟨s.toArray⟩
   have hsz:(⟨s.toArray⟩:ByteArray).size=s.length:=by simp [ByteArray.size]
   have hm:zB=9223372036854775807:=rfl
   rw [hsz] at hrg
   change AB s=-1∨(0≤AB s∧AB s < s.length) at hrg
   refine ⟨?_,?_⟩
   ·show (-9223372036854775808:Int)≤_; omega
   ·show _≤(9223372036854775807:Int); omega
 ·simp at hx

noncomputable def pV:bx:=Ws.add 173 (zU [some .str,none] G36)
theorem ji:zl pV:=LG.add zaY
open Go

def g8 (ks outs:List Sh) (c:zx (ks.map some)→Bool) (g:zx (ks.map some)→zx (outs.map some)):cG (ks.map some):=fun x h=>match h with
 | []=>.chk (c x) (.ok (s6 outs (g x),[]))
 | _=>.err

def zG (ks outs:List Sh) (c:zx (ks.map some)→Bool) (g:zx (ks.map some)→zx (outs.map some)):zF:=zU (ks.map some) (g8 ks outs c g)

theorem zR {P:Program} {gl:Nat→AV} {E:bx} {k:FuncId} {f:Func} {ks outs:List Sh} {c:zx (ks.map some)→Bool} {g:zx (ks.map some)→zx (outs.map some)} (hf:zA E.P k f ks.length)
  (h:∀ x,c x=true→∀ C:cI,(∀ id,C.ρ0 id=none)→Reach E C k (aC f) (ar f.ntmps (gD (ks.map some) x) []) (fun r h=>ah h outs r=some (g x))) (qp:E.P=P:=by rfl) (qg:E.gl=gl:=by rfl):mv P gl k (zG ks outs c g):=by
 subst qp qg
 refine bC (by simpa using hf) fun x h0 res hx C hC=>?_
 unfold g8 at hx
 split at hx
 ·simp only [Tr.val] at hx
  split at hx
  ·rename_i hc
   simp only [ap] at hx
   subst hx
   exact Reach.plain (fun id=>hC id (by simp)) (h x hc C (fun id=>hC id (by simp)))
  ·simp at hx
 ·simp at hx

theorem A6 {P:Program} {gl:Nat→AV} {k:FuncId} {kinds:List (Option Sh)} {ι:Type} [Nonempty ι] {G:cG kinds} {Gs:ι→cG kinds} (h:∀ i,mv P gl k (zU kinds (Gs i)))
  (hg:∀ x h0 res,(G x h0).val=some res→∃ i,(Gs i x h0).val=some res):mv P gl k (zU kinds G):=by
 refine ⟨(h (Classical.choice inferInstance)).fn,?_⟩
 intro w U ρ hp n args vals f fp hv
 have:∃ i,(zU kinds (Gs i) args hp n).val=some f:=by
  unfold zU at hv ⊢
  split at hv
  ·rename_i ps hps
   simp only at hv ⊢
   split at hv
   ·rename_i hcond
    split at hv
    ·rename_i xs hxs
     simp only [Tr.val_bind,fa] at hv
     obtain ⟨res,h1,h2⟩:=hv
     obtain ⟨i,hi⟩:=hg _ _ _ h1
     exact ⟨i,by simp only [hcond,if_true,Tr.val_bind,fa]; exact ⟨res,hi,h2⟩⟩
    ·simp at hv
   ·simp at hv
  ·simp at hv
 obtain ⟨i,hi⟩:=this
 exact (h i).calls w U ρ hp n args vals f fp hi

def In (ks outs:List Sh) (g:zx (ks.map some)→zx (outs.map some)):cG (ks.map some):=fun x h=>match h with
 | []=>.ok (s6 outs (g x),[])
 | _=>.err

def ay (ks outs:List Sh) (g:zx (ks.map some)→zx (outs.map some)):zF:=zU (ks.map some) (In ks outs g)

theorem SG {P:Program} {gl:Nat→AV} {k:FuncId} {ks outs:List Sh} {g:zx (ks.map some)→zx (outs.map some)} (h:mv P gl k (zG ks outs (fun _=>true) g)):mv P gl k (ay ks outs g):=by
 refine A6 (ι:=Unit) (Gs:=fun _=>g8 ks outs (fun _=>true) g) (fun _=>h) fun x h0 res hv=>⟨(),?_⟩
 unfold In at hv
 unfold g8
 split at hv
 ·simpa [Tr.val] using hv
 ·simp at hv

theorem zS {P:Program} {gl:Nat→AV} {E:bx} {k:FuncId} {f:Func} {ks outs:List Sh} {g:zx (ks.map some)→zx (outs.map some)} (hf:zA E.P k f ks.length)
  (h:∀ x,∀ C:cI,(∀ id,C.ρ0 id=none)→Reach E C k (aC f) (ar f.ntmps (gD (ks.map some) x) []) (fun r h=>ah h outs r=some (g x))) (qp:E.P=P:=by rfl) (qg:E.gl=gl:=by rfl):mv P gl k (ay ks outs g):=by
 subst qp qg
 exact SG (zR hf fun x _ C hC=>h x C hC)

def HV (outs:List Sh):zt→Option (zx (outs.map some))
 | .ret v h=>ah h outs v
 | _=>none

theorem Tr.sat_of_res {E:bx} {C:cI} {fn:FuncId} {outs:List Sh} {y:zx (outs.map some)} {t:Tr zt} (h:t.val.bind (HV outs)=some y):t.Sat (iD E C fn (fun r h=>ah h outs r=some y)):=by
 rw [fa] at h
 obtain ⟨l,h1,h2⟩:=h
 refine Tr.sat_of_val h1 ?_
 cases l with
 | ret v h=>exact h2
 | head _ _ _=>cases h2
 | fork _ _ _ _=>cases h2

theorem aE {E:bx} {C:cI} {k:FuncId} {f:Func} {outs:List Sh} {y:zx (outs.map some)} {n n0:Nat} (hE:zl E) (hf:zA E.P k f n) (hC:∀ id,n0≤id→C.ρ0 id=none) {keep:Nat→aj} {fuel:Nat}
  {todo:List Item} {st:St} {t:Tr zt} (ht:run E n0 keep f.results.toList fuel todo st=t) (h:t.val.bind (HV outs)=some y):Reach E C k todo st (fun r h=>ah h outs r=some y):=by
 refine cM hE hf hC keep fuel ?_
 rw [ht]
 exact Tr.sat_of_res h

theorem ze.eta:∀ e:ze,ze.mk e.op e.v e.s e.l=e
 | .mk _ _ _ _=>rfl

structure C3 (E E0:bx):Prop where
 p:E.P=E0.P
 g:E.gl=E0.gl

theorem C3.refl (E:bx):C3 E E:=⟨rfl,rfl⟩
theorem C3.add {E E0:bx} (h:C3 E E0) (k:FuncId) (F:zF):C3 (E.add k F) E0:=⟨h.p,h.g⟩
abbrev zE (e:ze):ze:=.mk e.op e.v e.s e.l
theorem zm (e:ze):zE e=e:=ze.eta e
open Go Go.Proofs
abbrev TS:=Sem Sh.str
abbrev LX:=List (Sem Sh.expr)
abbrev LC:=List (Sem zi)
abbrev LS:=List (Sem Sh.str)
abbrev LV:=List (Sem zf)
abbrev LI:=List (Sem zg)
abbrev LF:=List (Sem zq)

abbrev V:=Sem zf

def gy (x0:Sem zf):Sem Sh.bool:=if (x0.1==0)=true then if (x0.2.1 != 0)=true then false else x0.2.2==[] else if (x0.1==1)=true then x0.2.2==[] else if (x0.1==2)=true then bif x0.2.1==0 then bif decide ((↑(length x0.2.2):Int)≤40) then decide (AB x0.2.2 < 0) else false else false else if (x0.1==3)=true then bif x0.2.1==0 then x0.2.2==[] else bif x0.2.1==1 then x0.2.2==[] else false else false
theorem zeC:zA pV.P 94 Tryz.f94 1:=aS (by kernel_rfl)
theorem zg1 (x0:Sem zf):rn pV 0 (fun _=>{ }) Tryz.f94 [zz zf x0] []=Tr.br (x0.1==0) (Tr.br (x0.2.1 != 0) (Tr.ok (zt.ret (AV.kb false) [])) (Tr.ok (zt.ret (AV.bool (x0.2.2==[])) []))) (Tr.br (x0.1==1) (Tr.ok (zt.ret (AV.bool (x0.2.2==[])) [])) (Tr.br (x0.1==2) (Tr.ok (zt.ret (AV.bool (bif x0.2.1==0 then bif decide ((↑(length x0.2.2):Int)≤40) then decide (AB x0.2.2 < 0) else false else false)) [])) (Tr.br (x0.1==3) (Tr.ok (zt.ret (AV.bool (bif x0.2.1==0 then x0.2.2==[] else bif x0.2.1==1 then x0.2.2==[] else false)) [])) (Tr.ok (zt.ret (AV.kb false) []))))):=by kernel_rfl
def F21:zF:=ay [zf] [Sh.bool] fun x=>(gy x.1,())
theorem zaO:FK 94 F21:=by
 refine zS zeC fun x C hC=>?_
 refine aE ji zeC (fun id _=>hC id) (zg1 x.1) ?_
 simp only [Tr.val,gy]
 repeat' split
 all_goals rfl

def aL (x0:Sem zg):Sem zf:=if (x0==0)=true then (0,0,[]) else (3,IntKind.i64.wrap (x0 - 1),[])
theorem ze4:zA pV.P 206 Tryz.f206 1:=aS (by kernel_rfl)
theorem zhu (x0:Sem zg):rn pV 0 (fun _=>{ }) Tryz.f206 [zz zg x0] []=Tr.br (x0==0) (Tr.ok (zt.ret (AV.agg [ai 0,ai 0,AV.str []]) [])) (Tr.ok (zt.ret (AV.agg [ai 3,ai (IntKind.i64.wrap (x0 - 1)),AV.str []]) [])):=by kernel_rfl
def F57:zF:=ay [zg] [zf] fun x=>(aL x.1,())
theorem zbj:FK 206 F57:=by
 refine zS ze4 fun x C hC=>?_
 refine aE ji ze4 (fun id _=>hC id) (zhu x.1) ?_
 simp only [Tr.val,aL]
 repeat' split
 all_goals rfl

noncomputable def Y3:zF:=zU (List.replicate 1 none) (bZ pV Tryz.f174 (List.replicate 1 none))
theorem T7:FK 174 Y3:=aw _ ji (aS (by kernel_rfl))

noncomputable def Y4:zF:=zU (List.replicate 1 none) (bZ pV Tryz.f175 (List.replicate 1 none))
theorem T8:FK 175 Y4:=aw _ ji (aS (by kernel_rfl))

noncomputable def Y5:zF:=zU (List.replicate 1 none) (bZ pV Tryz.f176 (List.replicate 1 none))
theorem T9:FK 176 Y5:=aw _ ji (aS (by kernel_rfl))

noncomputable def jV:=pV.addL [(94,F21),(206,F57),(174,Y3),(175,Y4),(176,Y5)]
theorem gI:zl jV:=ji.addL <| fc zaO <| fc zbj <| fc T7 <| fc T8 <| fc T9 jn

def bF (x0:Sem zf):Sem zf:=if (!gy x0)=true then (0,0,[]) else x0
theorem ze8:zA jV.P 95 Tryz.f95 1:=aS (by kernel_rfl)
theorem zhy (x0:Sem zf):rn jV 0 (fun _=>{ }) Tryz.f95 [zz zf x0] []=Tr.br (!gy x0) (Tr.ok (zt.ret (AV.agg [ai 0,ai 0,AV.str []]) [])) (Tr.ok (zt.ret (AV.agg [ai x0.1,ai x0.2.1,AV.str x0.2.2]) [])):=by kernel_rfl
def F61:zF:=ay [zf] [zf] fun x=>(bF x.1,())
theorem zbp:FK 95 F61:=by
 refine zS ze8 fun x C hC=>?_
 refine aE gI ze8 (fun id _=>hC id) (zhy x.1) ?_
 simp only [Tr.val,bF]
 repeat' split
 all_goals rfl

def eD (x0:Sem zf):Sem zg:=if (bif x0.1 != 3 then true else !gy x0)=true then 0 else IntKind.i64.wrap (1+x0.2.1)
theorem ze3:zA jV.P 205 Tryz.f205 1:=aS (by kernel_rfl)
theorem zht (x0:Sem zf):rn jV 0 (fun _=>{ }) Tryz.f205 [zz zf x0] []=Tr.br (bif x0.1 != 3 then true else !gy x0) (Tr.ok (zt.ret (ai 0) [])) (Tr.ok (zt.ret (ai (IntKind.i64.wrap (1+x0.2.1))) [])):=by kernel_rfl
def F56:zF:=ay [zf] [zg] fun x=>(eD x.1,())
theorem zbi:FK 205 F56:=by
 refine zS ze3 fun x C hC=>?_
 refine aE gI ze3 (fun id _=>hC id) (zht x.1) ?_
 simp only [Tr.val,eD]
 repeat' split
 all_goals rfl

def dn (x0:Sem Sh.bool):Sem zf:=if x0=true then aL 2 else aL 1
theorem ze6:zA jV.P 208 Tryz.f208 1:=aS (by kernel_rfl)
theorem zhw (x0:Sem Sh.bool):rn jV 0 (fun _=>{ }) Tryz.f208 [zz Sh.bool x0] []=Tr.br x0 (Tr.ok (zt.ret (AV.agg [ai (aL 2).1,ai (aL 2).2.1,AV.str (aL 2).2.2]) [])) (Tr.ok (zt.ret (AV.agg [ai (aL 1).1,ai (aL 1).2.1,AV.str (aL 1).2.2]) [])):=by kernel_rfl
def F59:zF:=ay [Sh.bool] [zf] fun x=>(dn x.1,())
theorem zbl:FK 208 F59:=by
 refine zS ze6 fun x C hC=>?_
 refine aE gI ze6 (fun id _=>hC id) (zhw x.1) ?_
 simp only [Tr.val,dn]
 repeat' split
 all_goals rfl

def Jd (x0:Sem zg) (x1:Sem zg):Sem zg:=if (x0 != x0)=true then if (x1 != x1)=true then 0 else -1 else if (x1 != x1)=true then 1 else if decide (x0 < x1)=true then -1 else if decide (x0 > x1)=true then 1 else 0
theorem zfa:zA jV.P 97 Tryz.f97 2:=aS (by kernel_rfl)
theorem zhC (x0:Sem zg) (x1:Sem zg):rn jV 0 (fun _=>{ }) Tryz.f97 [zz zg x0,zz zg x1] []=Tr.br (x0 != x0) (Tr.br (x1 != x1) (Tr.ok (zt.ret (ai 0) [])) (Tr.ok (zt.ret (ai (-1)) []))) (Tr.br (x1 != x1) (Tr.ok (zt.ret (ai 1) [])) (Tr.br (decide (x0 < x1)) (Tr.ok (zt.ret (ai (-1)) [])) (Tr.br (decide (x0 > x1)) (Tr.ok (zt.ret (ai 1) [])) (Tr.ok (zt.ret (ai 0) []))))):=by kernel_rfl
def F71:zF:=ay [zg,zg] [zg] fun x=>(Jd x.1 x.2.1,())
theorem zbx:FK 97 F71:=by
 refine zS zfa fun x C hC=>?_
 refine aE gI zfa (fun id _=>hC id) (zhC x.1 x.2.1) ?_
 simp only [Tr.val,Jd]
 repeat' split
 all_goals rfl

def yN (x0:Sem zg) (x1:Sem zg):Sem zg:=if (x0 != x0)=true then if (x1 != x1)=true then 0 else -1 else if (x1 != x1)=true then 1 else if decide (x0 < x1)=true then -1 else if decide (x0 > x1)=true then 1 else 0
theorem zfb:zA jV.P 98 Tryz.f98 2:=aS (by kernel_rfl)
theorem zhD (x0:Sem zg) (x1:Sem zg):rn jV 0 (fun _=>{ }) Tryz.f98 [zz zg x0,zz zg x1] []=Tr.br (x0 != x0) (Tr.br (x1 != x1) (Tr.ok (zt.ret (ai 0) [])) (Tr.ok (zt.ret (ai (-1)) []))) (Tr.br (x1 != x1) (Tr.ok (zt.ret (ai 1) [])) (Tr.br (decide (x0 < x1)) (Tr.ok (zt.ret (ai (-1)) [])) (Tr.br (decide (x0 > x1)) (Tr.ok (zt.ret (ai 1) [])) (Tr.ok (zt.ret (ai 0) []))))):=by kernel_rfl
def F72:zF:=ay [zg,zg] [zg] fun x=>(yN x.1 x.2.1,())
theorem zby:FK 98 F72:=by
 refine zS zfb fun x C hC=>?_
 refine aE gI zfb (fun id _=>hC id) (zhD x.1 x.2.1) ?_
 simp only [Tr.val,yN]
 repeat' split
 all_goals rfl

def Bh (x0:Sem Sh.str) (x1:Sem Sh.str):Sem zg:=if (!x0==x0)=true then if (!x1==x1)=true then 0 else -1 else if (!x1==x1)=true then 1 else if Op.bytesLess x0 x1=true then -1 else if (!(Op.bytesLess x0 x1||x0==x1))=true then 1 else 0
theorem zfc:zA jV.P 99 Tryz.f99 2:=aS (by kernel_rfl)
theorem zhE (x0:Sem Sh.str) (x1:Sem Sh.str):rn jV 0 (fun _=>{ }) Tryz.f99 [zz Sh.str x0,zz Sh.str x1] []=Tr.br (!x0==x0) (Tr.br (!x1==x1) (Tr.ok (zt.ret (ai 0) [])) (Tr.ok (zt.ret (ai (-1)) []))) (Tr.br (!x1==x1) (Tr.ok (zt.ret (ai 1) [])) (Tr.br (Op.bytesLess x0 x1) (Tr.ok (zt.ret (ai (-1)) [])) (Tr.br (!(Op.bytesLess x0 x1||x0==x1)) (Tr.ok (zt.ret (ai 1) [])) (Tr.ok (zt.ret (ai 0) []))))):=by kernel_rfl
def F73:zF:=ay [Sh.str,Sh.str] [zg] fun x=>(Bh x.1 x.2.1,())
theorem zbz:FK 99 F73:=by
 refine zS zfc fun x C hC=>?_
 refine aE gI zfc (fun id _=>hC id) (zhE x.1 x.2.1) ?_
 simp only [Tr.val,Bh]
 repeat' split
 all_goals rfl

noncomputable def iL:=jV.addL [(95,F61),(205,F56),(208,F59),(97,F71),(98,F72),(99,F73)]
theorem eh:zl iL:=gI.addL <| fc zbp <| fc zbi <| fc zbl <| fc zbx <| fc zby <| fc zbz jn

theorem w8 {E:bx} {C:cI} {k:FuncId} {f:Func} {Q:AV→List AO→Prop} {n n0:Nat} (hE:zl E) (hf:zA E.P k f n) (hC:∀ id,n0≤id→C.ρ0 id=none) {keep:Nat→aj} {fuel:Nat}
  {todo:List Item} {st:St} {t:Tr zt} {l:zt} (ht:run E n0 keep f.results.toList fuel todo st=t) (h:t.val=some l) (hl:iD E C k Q l):Reach E C k todo st Q:=
 cM hE hf hC keep fuel (by rw [ht]; exact Tr.sat_of_val h hl)

def fh {α:Type} (Φ:α→Prop):Option α→Prop
 | some a=>Φ a
 | none=>False

theorem zk {E:bx} {C:cI} {k:FuncId} {f:Func} {Q:AV→List AO→Prop} {n n0:Nat} (hE:zl E) (hf:zA E.P k f n) (hC:∀ id,n0≤id→C.ρ0 id=none) {keep:Nat→aj} {fuel:Nat}
  {todo:List Item} {st:St} {t:Tr zt} (ht:run E n0 keep f.results.toList fuel todo st=t) (h:fh (iD E C k Q) t.val):Reach E C k todo st Q:=by
 cases hv:t.val with
 | none=>rw [hv] at h; exact h.elim
 | some l=>rw [hv] at h; exact w8 hE hf hC ht hv h

def DX {α β R:Type} (f:β→Nat→α→β ⊕ R) (fin:β→R):List α→Nat→β→R
 | [],_,b=>fin b
 | x::r,i,b=>match f b i x with
  | .inl b'=>DX f fin r (i+1) b'
  | .inr y=>y

def P0 {E:bx} {C:cI} {k:FuncId} {K:List Item} {β R:Type} (st:β→Nat→St) (Q:R→AV→List AO→Prop) (b:β) (i:Nat):β ⊕ R→Prop
 | .inl b'=>∀ q,Reach E C k K (st b' (i+1)) q→Reach E C k K (st b i) q
 | .inr y=>Reach E C k K (st b i) (Q y)

theorem w9 {E:bx} {C:cI} {k:FuncId} {K:List Item} {α β R:Type} (l:List α) (st:β→Nat→St) (f:β→Nat→α→β ⊕ R) (fin:β→R) (Q:R→AV→List AO→Prop) (I:β→Nat→Prop)
  (hstep:∀ b i (hi:i < l.length),I b i→P0 (E:=E) (C:=C) (k:=k) (K:=K) st Q b i (f b i l[i])∧∀ b',f b i l[i]=.inl b'→I b' (i+1))
  (hend:∀ b,I b l.length→Reach E C k K (st b l.length) (Q (fin b))):∀ (m i:Nat) (b:β),l.length - i=m→i≤l.length→I b i→Reach E C k K (st b i) (Q (DX f fin (l.drop i) i b))
 | 0,i,b,hm,hi,hI=>by
  have:i=l.length:=by omega
  subst this
  rw [cL]
  exact hend b hI
 | m+1,i,b,hm,hi,hI=>by
  have hlt:i < l.length:=by omega
  rw [cX hlt]
  obtain ⟨h1,h2⟩:=hstep b i hlt hI
  simp only [DX]
  cases hf:f b i l[i] with
  | inl b'=>
   rw [hf] at h1
   exact h1 _ (w9 l st f fin Q I hstep hend m (i+1) b' (by omega) (by omega) (h2 b' hf))
  | inr y=>
   rw [hf] at h1
   exact h1

theorem zT {i n:Nat} (h:i < n):decide ((i:Int) < (n:Int))=true:=by simpa using h
theorem zY (n:Nat):decide ((n:Int) < (n:Int))=false:=by simp
theorem zC {i n:Nat} (h:i < n):zI (i:Int) n=true:=by simp [zI,h]

def TQ:List Int→Int
 | []=>0
 | x::r=>if x != 0 then x else TQ r

abbrev zek:Nat→aj:=fun j=>if j=3 then { slots:=[3,6,7,8] } else { }
abbrev IG (i3:Int) (l6:List (Sem zg)) (i7:Int) (i8:Int):St:={ tmps:=(tm 18 [(3,ai i3),(6,AV.sl (Sh.int IntKind.i64) l6),(7,ai i7),(8,ai i8)]),heap:=[] }
theorem Nz:zA iL.P 96 Tryz.f96 1:=aS (by kernel_rfl)
theorem zhB (k:List (Sem zg)):rn iL 0 zek Tryz.f96 [AV.sl zg k] []=Tr.ok (zt.head 3 (zy Tryz.f96 3) (IG 0 k (↑k.length) 0)):=by kernel_rfl
theorem Gq (i3:Int) (l6:List (Sem zg)) (i7:Int) (i8:Int):rh iL 0 zek Tryz.f96 3 (IG i3 l6 i7 i8)=Tr.br (decide (i8 < i7)) (Tr.chk (zI i8 l6.length) (Tr.br (l6.getD i8.toNat (zj (Sh.int IntKind.i64)) != i3) (Tr.ok (zt.ret (ai (l6.getD i8.toNat (zj (Sh.int IntKind.i64)))) [])) (Tr.ok (zt.head 3 (zy Tryz.f96 3) (IG i3 l6 i7 (IntKind.i64.wrap (i8+1))))))) (Tr.ok (zt.ret (ai i3) [])):=by kernel_rfl

def f70:Unit→Nat→Int→Unit ⊕ Int:=fun _ _ x=>if x != 0 then .inr x else .inl ()
theorem Ma:∀ (l:List Int) (i:Nat),DX f70 (fun _=>0) l i ()=TQ l
 | [],_=>rfl
 | x::r,i=>by
  simp only [DX,f70,TQ]
  split
  ·rename_i h; split at h <;> simp_all [Ma r (i+1)]
  ·rename_i h; split at h <;> simp_all

def F70:zF:=ay [.sl zg] [zg] fun x=>(TQ x.1,())
theorem zbw:FK 96 F70:=by
 refine zS Nz fun x C hC=>?_
 obtain ⟨l,u⟩:=x
 refine Reach.len 0 zg l rfl fun hl=>?_
 refine w8 eh Nz (fun id _=>hC id) (zhB l) rfl ?_
 have:=w9 (E:=iL) (C:=C) (k:=96) (K:=zy Tryz.f96 3) l (fun (_:Unit) i=>IG 0 l l.length i) f70 (fun _=>(0:Int)) (fun y r h=>ah h [zg] r=some (y,())) (fun _ _=>True)
  (fun b i hi _=>⟨by
   unfold f70
   split
   ·rename_i h
    refine zk eh Nz (fun id _=>hC id) (Gq _ _ _ _) ?_
    simp only [Tr.val,zT hi,zC hi,ae l _ hi,h,if_true]
    rfl
   ·rename_i h
    intro q hq
    refine zk eh Nz (fun id _=>hC id) (Gq _ _ _ _) ?_
    simp only [Tr.val,zT hi,zC hi,ae l _ hi,h,if_true,zD i (by omega)]
    exact hq,fun _ _=>trivial⟩)
  (fun b _=>by
   refine zk eh Nz (fun id _=>hC id) (Gq _ _ _ _) ?_
   simp only [Tr.val,zY]
   rfl) _ 0 () rfl (by omega) trivial
 rw [Ma] at this
 exact this

def ko (x0:Sem zf) (x1:Sem zf):Sem Sh.bool:=bif (bF x0).1 != 0 then (bF x0).1==(bF x1).1 else false
theorem ze5:zA iL.P 207 Tryz.f207 2:=aS (by kernel_rfl)
theorem zhv (x0:Sem zf) (x1:Sem zf):rn iL 0 (fun _=>{ }) Tryz.f207 [zz zf x0,zz zf x1] []=Tr.ok (zt.ret (AV.bool (bif (bF x0).1 != 0 then (bF x0).1==(bF x1).1 else false)) []):=by kernel_rfl
def F58:zF:=ay [zf,zf] [Sh.bool] fun x=>(ko x.1 x.2.1,())
theorem zbk:FK 207 F58:=by
 refine zS ze5 fun x C hC=>?_
 refine aE eh ze5 (fun id _=>hC id) (zhv x.1 x.2.1) ?_
 simp only [Tr.val,ko]
 repeat' split
 all_goals rfl

def Rq (x0:Sem zf) (x1:Sem zf):Sem zf:=if (bif eD x0==1 then true else eD x1==1)=true then aL 1 else if (bif eD x0==2 then eD x1==2 else false)=true then aL 2 else aL 0
theorem zeL:zA iL.P 138 Tryz.f138 2:=aS (by kernel_rfl)
theorem zhd (x0:Sem zf) (x1:Sem zf):rn iL 0 (fun _=>{ }) Tryz.f138 [zz zf x0,zz zf x1] []=Tr.br (bif eD x0==1 then true else eD x1==1) (Tr.ok (zt.ret (AV.agg [ai (aL 1).1,ai (aL 1).2.1,AV.str (aL 1).2.2]) [])) (Tr.br (bif eD x0==2 then eD x1==2 else false) (Tr.ok (zt.ret (AV.agg [ai (aL 2).1,ai (aL 2).2.1,AV.str (aL 2).2.2]) [])) (Tr.ok (zt.ret (AV.agg [ai (aL 0).1,ai (aL 0).2.1,AV.str (aL 0).2.2]) []))):=by kernel_rfl
def F38:zF:=ay [zf,zf] [zf] fun x=>(Rq x.1 x.2.1,())
theorem za0:FK 138 F38:=by
 refine zS zeL fun x C hC=>?_
 refine aE eh zeL (fun id _=>hC id) (zhd x.1 x.2.1) ?_
 simp only [Tr.val,Rq]
 repeat' split
 all_goals rfl

def vOr (x0:Sem zf) (x1:Sem zf):Sem zf:=if (bif eD x0==2 then true else eD x1==2)=true then aL 2 else if (bif eD x0==1 then eD x1==1 else false)=true then aL 1 else aL 0
theorem zeM:zA iL.P 139 Tryz.f139 2:=aS (by kernel_rfl)
theorem zhe (x0:Sem zf) (x1:Sem zf):rn iL 0 (fun _=>{ }) Tryz.f139 [zz zf x0,zz zf x1] []=Tr.br (bif eD x0==2 then true else eD x1==2) (Tr.ok (zt.ret (AV.agg [ai (aL 2).1,ai (aL 2).2.1,AV.str (aL 2).2.2]) [])) (Tr.br (bif eD x0==1 then eD x1==1 else false) (Tr.ok (zt.ret (AV.agg [ai (aL 1).1,ai (aL 1).2.1,AV.str (aL 1).2.2]) [])) (Tr.ok (zt.ret (AV.agg [ai (aL 0).1,ai (aL 0).2.1,AV.str (aL 0).2.2]) []))):=by kernel_rfl
def F39:zF:=ay [zf,zf] [zf] fun x=>(vOr x.1 x.2.1,())
theorem za1:FK 139 F39:=by
 refine zS zeM fun x C hC=>?_
 refine aE eh zeM (fun id _=>hC id) (zhe x.1 x.2.1) ?_
 simp only [Tr.val,vOr]
 repeat' split
 all_goals rfl

def Kr (x0:Sem zf):Sem zf:=if (eD x0==2)=true then aL 1 else if (eD x0==1)=true then aL 2 else aL 0
theorem zeO:zA iL.P 141 Tryz.f141 1:=aS (by kernel_rfl)
theorem zhg (x0:Sem zf):rn iL 0 (fun _=>{ }) Tryz.f141 [zz zf x0] []=Tr.br (eD x0==2) (Tr.ok (zt.ret (AV.agg [ai (aL 1).1,ai (aL 1).2.1,AV.str (aL 1).2.2]) [])) (Tr.br (eD x0==1) (Tr.ok (zt.ret (AV.agg [ai (aL 2).1,ai (aL 2).2.1,AV.str (aL 2).2.2]) [])) (Tr.ok (zt.ret (AV.agg [ai (aL 0).1,ai (aL 0).2.1,AV.str (aL 0).2.2]) []))):=by kernel_rfl
def F41:zF:=ay [zf] [zf] fun x=>(Kr x.1,())
theorem za3:FK 141 F41:=by
 refine zS zeO fun x C hC=>?_
 refine aE eh zeO (fun id _=>hC id) (zhg x.1) ?_
 simp only [Tr.val,Kr]
 repeat' split
 all_goals rfl

def oo (x0:Sem zf):Sem zf:=dn ((bF x0).1==0)
theorem zeV:zA iL.P 147 Tryz.f147 1:=aS (by kernel_rfl)
theorem zhm (x0:Sem zf):rn iL 0 (fun _=>{ }) Tryz.f147 [zz zf x0] []=Tr.ok (zt.ret (AV.agg [ai (dn ((bF x0).1==0)).1,ai (dn ((bF x0).1==0)).2.1,AV.str (dn ((bF x0).1==0)).2.2]) []):=by kernel_rfl
def F47:zF:=ay [zf] [zf] fun x=>(oo x.1,())
theorem za9:FK 147 F47:=by
 refine zS zeV fun x C hC=>?_
 refine aE eh zeV (fun id _=>hC id) (zhm x.1) ?_
 simp only [Tr.val,oo]
 repeat' split
 all_goals rfl

noncomputable def jW:=iL.addL [(96,F70),(207,F58),(138,F38),(139,F39),(141,F41),(147,F47)]
theorem gJ:zl jW:=eh.addL <| fc zbw <| fc zbk <| fc za0 <| fc za1 <| fc za3 <| fc za9 jn

def be (x0:Sem zf) (x1:Sem zf):Sem zg:=TQ [Jd (bF x0).1 (bF x1).1,yN (bF x0).2.1 (bF x1).2.1,Bh (bF x0).2.2 (bF x1).2.2]
theorem ze7:zA jW.P 58 Tryz.f58 2:=aS (by kernel_rfl)
theorem zhx (x0:Sem zf) (x1:Sem zf):rn jW 0 (fun _=>{ }) Tryz.f58 [zz zf x0,zz zf x1] []=Tr.ok (zt.ret (AV.int IntKind.i64 (TQ [Jd (bF x0).1 (bF x1).1,yN (bF x0).2.1 (bF x1).2.1,Bh (bF x0).2.2 (bF x1).2.2])) []):=by kernel_rfl
def F60:zF:=ay [zf,zf] [zg] fun x=>(be x.1 x.2.1,())
theorem zbo:FK 58 F60:=by
 refine zS ze7 fun x C hC=>?_
 refine aE gJ ze7 (fun id _=>hC id) (zhx x.1 x.2.1) ?_
 simp only [Tr.val,be]
 repeat' split
 all_goals rfl

def CK (x0:Sem zf) (x1:Sem zf):Sem zf:=if (!ko x0 x1)=true then (0,0,[]) else dn (x0.1==x1.1&&(x0.2.1==x1.2.1&&(x0.2.2==x1.2.2&&true)))
theorem zeP:zA jW.P 142 Tryz.f142 2:=aS (by kernel_rfl)
theorem zhh (x0:Sem zf) (x1:Sem zf):rn jW 0 (fun _=>{ }) Tryz.f142 [zz zf x0,zz zf x1] []=Tr.br (!ko x0 x1) (Tr.ok (zt.ret (AV.agg [ai 0,ai 0,AV.str []]) [])) (Tr.ok (zt.ret (AV.agg [ai (dn (x0.1==x1.1&&(x0.2.1==x1.2.1&&(x0.2.2==x1.2.2&&true)))).1,ai (dn (x0.1==x1.1&&(x0.2.1==x1.2.1&&(x0.2.2==x1.2.2&&true)))).2.1,AV.str (dn (x0.1==x1.1&&(x0.2.1==x1.2.1&&(x0.2.2==x1.2.2&&true)))).2.2]) [])):=by kernel_rfl
def F42:zF:=ay [zf,zf] [zf] fun x=>(CK x.1 x.2.1,())
theorem za4:FK 142 F42:=by
 refine zS zeP fun x C hC=>?_
 refine aE gJ zeP (fun id _=>hC id) (zhh x.1 x.2.1) ?_
 simp only [Tr.val,CK]
 repeat' split
 all_goals rfl

def IX (x0:Sem zf) (x1:Sem zf):Sem zf:=if (bif !ko x0 x1 then true else x0.1 != 1)=true then (0,0,[]) else if (bif decide (x1.2.1 > 0) then bif decide (IntKind.i64.wrap (x0.2.1+x1.2.1) < x0.2.1) then true else bif decide (x1.2.1 < 0) then decide (IntKind.i64.wrap (x0.2.1+x1.2.1) > x0.2.1) else false else bif decide (x1.2.1 < 0) then decide (IntKind.i64.wrap (x0.2.1+x1.2.1) > x0.2.1) else false)=true then (0,0,[]) else (1,IntKind.i64.wrap (x0.2.1+x1.2.1),[])
theorem zeS:zA jW.P 144 Tryz.f144 2:=aS (by kernel_rfl)
theorem zhj (x0:Sem zf) (x1:Sem zf):rn jW 0 (fun _=>{ }) Tryz.f144 [zz zf x0,zz zf x1] []=Tr.br (bif !ko x0 x1 then true else x0.1 != 1) (Tr.ok (zt.ret (AV.agg [ai 0,ai 0,AV.str []]) [])) (Tr.br (bif decide (x1.2.1 > 0) then bif decide (IntKind.i64.wrap (x0.2.1+x1.2.1) < x0.2.1) then true else bif decide (x1.2.1 < 0) then decide (IntKind.i64.wrap (x0.2.1+x1.2.1) > x0.2.1) else false else bif decide (x1.2.1 < 0) then decide (IntKind.i64.wrap (x0.2.1+x1.2.1) > x0.2.1) else false) (Tr.ok (zt.ret (AV.agg [ai 0,ai 0,AV.str []]) [])) (Tr.ok (zt.ret (AV.agg [ai 1,ai (IntKind.i64.wrap (x0.2.1+x1.2.1)),AV.str []]) []))):=by kernel_rfl
def F44:zF:=ay [zf,zf] [zf] fun x=>(IX x.1 x.2.1,())
theorem za6:FK 144 F44:=by
 refine zS zeS fun x C hC=>?_
 refine aE gJ zeS (fun id _=>hC id) (zhj x.1 x.2.1) ?_
 simp only [Tr.val,IX]
 repeat' split
 all_goals rfl

def CL (x0:Sem zf) (x1:Sem zf):Sem zf:=if (bif !ko x0 x1 then true else x0.1 != 1)=true then (0,0,[]) else if (bif decide (x1.2.1 > 0) then bif decide (IntKind.i64.wrap (x0.2.1 - x1.2.1) > x0.2.1) then true else bif decide (x1.2.1 < 0) then decide (IntKind.i64.wrap (x0.2.1 - x1.2.1) < x0.2.1) else false else bif decide (x1.2.1 < 0) then decide (IntKind.i64.wrap (x0.2.1 - x1.2.1) < x0.2.1) else false)=true then (0,0,[]) else (1,IntKind.i64.wrap (x0.2.1 - x1.2.1),[])
theorem zeT:zA jW.P 145 Tryz.f145 2:=aS (by kernel_rfl)
theorem zhk (x0:Sem zf) (x1:Sem zf):rn jW 0 (fun _=>{ }) Tryz.f145 [zz zf x0,zz zf x1] []=Tr.br (bif !ko x0 x1 then true else x0.1 != 1) (Tr.ok (zt.ret (AV.agg [ai 0,ai 0,AV.str []]) [])) (Tr.br (bif decide (x1.2.1 > 0) then bif decide (IntKind.i64.wrap (x0.2.1 - x1.2.1) > x0.2.1) then true else bif decide (x1.2.1 < 0) then decide (IntKind.i64.wrap (x0.2.1 - x1.2.1) < x0.2.1) else false else bif decide (x1.2.1 < 0) then decide (IntKind.i64.wrap (x0.2.1 - x1.2.1) < x0.2.1) else false) (Tr.ok (zt.ret (AV.agg [ai 0,ai 0,AV.str []]) [])) (Tr.ok (zt.ret (AV.agg [ai 1,ai (IntKind.i64.wrap (x0.2.1 - x1.2.1)),AV.str []]) []))):=by kernel_rfl
def F45:zF:=ay [zf,zf] [zf] fun x=>(CL x.1 x.2.1,())
theorem za7:FK 145 F45:=by
 refine zS zeT fun x C hC=>?_
 refine aE gJ zeT (fun id _=>hC id) (zhk x.1 x.2.1) ?_
 simp only [Tr.val,CL]
 repeat' split
 all_goals rfl

def IW (x0:Sem zf) (_:Sem zf):Sem zf:=Kr x0
theorem zeN:zA jW.P 140 Tryz.f140 2:=aS (by kernel_rfl)
theorem zhf (x0:Sem zf) (x1:Sem zf):rn jW 0 (fun _=>{ }) Tryz.f140 [zz zf x0,zz zf x1] []=Tr.ok (zt.ret (AV.agg [ai (Kr x0).1,ai (Kr x0).2.1,AV.str (Kr x0).2.2]) []):=by kernel_rfl
def F40:zF:=ay [zf,zf] [zf] fun x=>(IW x.1 x.2.1,())
theorem za2:FK 140 F40:=by
 refine zS zeN fun x C hC=>?_
 refine aE gJ zeN (fun id _=>hC id) (zhf x.1 x.2.1) ?_
 simp only [Tr.val,IW]
 repeat' split
 all_goals rfl

def CM (x0:Sem zf) (_:Sem zf):Sem zf:=oo x0
theorem zeU:zA jW.P 146 Tryz.f146 2:=aS (by kernel_rfl)
theorem zhl (x0:Sem zf) (x1:Sem zf):rn jW 0 (fun _=>{ }) Tryz.f146 [zz zf x0,zz zf x1] []=Tr.ok (zt.ret (AV.agg [ai (oo x0).1,ai (oo x0).2.1,AV.str (oo x0).2.2]) []):=by kernel_rfl
def F46:zF:=ay [zf,zf] [zf] fun x=>(CM x.1 x.2.1,())
theorem za8:FK 146 F46:=by
 refine zS zeU fun x C hC=>?_
 refine aE gJ zeU (fun id _=>hC id) (zhl x.1 x.2.1) ?_
 simp only [Tr.val,CM]
 repeat' split
 all_goals rfl

noncomputable def oG:=jW.addL [(58,F60),(142,F42),(144,F44),(145,F45),(140,F40),(146,F46)]
theorem jj:zl oG:=gJ.addL <| fc zbo <| fc za4 <| fc za6 <| fc za7 <| fc za2 <| fc za8 jn

def IU (x0:Sem zf) (x1:Sem zf):Sem zf:=if (!ko x0 x1)=true then (0,0,[]) else dn (decide (be x0 x1 < 0))
theorem zeR:zA oG.P 143 Tryz.f143 2:=aS (by kernel_rfl)
theorem zhi (x0:Sem zf) (x1:Sem zf):rn oG 0 (fun _=>{ }) Tryz.f143 [zz zf x0,zz zf x1] []=Tr.br (!ko x0 x1) (Tr.ok (zt.ret (AV.agg [ai 0,ai 0,AV.str []]) [])) (Tr.ok (zt.ret (AV.agg [ai (dn (decide (be x0 x1 < 0))).1,ai (dn (decide (be x0 x1 < 0))).2.1,AV.str (dn (decide (be x0 x1 < 0))).2.2]) [])):=by kernel_rfl
def F43:zF:=ay [zf,zf] [zf] fun x=>(IU x.1 x.2.1,())
theorem za5:FK 143 F43:=by
 refine zS zeR fun x C hC=>?_
 refine aE jj zeR (fun id _=>hC id) (zhi x.1 x.2.1) ?_
 simp only [Tr.val,IU]
 repeat' split
 all_goals rfl

def EW (x0:Sem zf):Sem zf:=if decide ((↑(length x0.2.2):Int) > 60)=true then (x0.1,x0.2.1,List.take (toNat 60 - toNat 0) (List.drop (toNat 0) x0.2.2)) else x0
def AZ (x0:Sem zf):Bool:=bif decide ((↑(length x0.2.2):Int) > 60) then decide (0≤0)&&decide (0≤60)&&decide (60≤(↑(length x0.2.2):Int)) else true
theorem zey:zA oG.P 54 Tryz.f54 1:=aS (by kernel_rfl)
theorem zgX (x0:Sem zf):rn oG 0 (fun _=>{ }) Tryz.f54 [zz zf x0] []=Tr.br (decide ((↑(length x0.2.2):Int) > 60)) (Tr.chk (decide (0≤0)&&decide (0≤60)&&decide (60≤(↑(length x0.2.2):Int))) (Tr.ok (zt.ret (AV.agg [ai x0.1,ai x0.2.1,AV.str (List.take (toNat 60 - toNat 0) (List.drop (toNat 0) x0.2.2))]) []))) (Tr.ok (zt.ret (AV.agg [ai x0.1,ai x0.2.1,AV.str x0.2.2]) [])):=by kernel_rfl
def F14:zF:=zG [zf] [zf] (fun x=>AZ x.1) fun x=>(EW x.1,())
theorem SA:FK 54 F14:=by
 refine zR zey fun x hx C hC=>?_
 refine aE jj zey (fun id _=>hC id) (zgX x.1) ?_
 simp only [AZ,Bool.cond_eq_ite] at hx
 simp only [Tr.val,EW]
 repeat' split
 all_goals first | rfl | simp_all

def xr (x0:Sem Sh.str):Sem Sh.str:=if decide ((↑(length x0):Int) > 20)=true then List.take (toNat 20 - toNat 0) (List.drop (toNat 0) x0) else x0
def II (x0:Sem Sh.str):Bool:=bif decide ((↑(length x0):Int) > 20) then decide (0≤0)&&decide (0≤20)&&decide (20≤(↑(length x0):Int)) else true
theorem zex:zA oG.P 117 Tryz.f117 1:=aS (by kernel_rfl)
theorem zgV (x0:Sem Sh.str):rn oG 0 (fun _=>{ }) Tryz.f117 [zz Sh.str x0] []=Tr.br (decide ((↑(length x0):Int) > 20)) (Tr.chk (decide (0≤0)&&decide (0≤20)&&decide (20≤(↑(length x0):Int))) (Tr.ok (zt.ret (AV.str (List.take (toNat 20 - toNat 0) (List.drop (toNat 0) x0))) []))) (Tr.ok (zt.ret (AV.str x0) [])):=by kernel_rfl
def F12:zF:=zG [Sh.str] [Sh.str] (fun x=>II x.1) fun x=>(xr x.1,())
theorem Sy:FK 117 F12:=by
 refine zR zex fun x hx C hC=>?_
 refine aE jj zex (fun id _=>hC id) (zgV x.1) ?_
 simp only [II,Bool.cond_eq_ite] at hx
 simp only [Tr.val,xr]
 repeat' split
 all_goals first | rfl | simp_all

noncomputable def F79:zF:=zU (List.replicate 2 none) (bZ oG Tryz.f251 (List.replicate 2 none))
theorem zbB:FK 251 F79:=aw _ jj (aS (by kernel_rfl))

noncomputable def F18:zF:=zU (List.replicate 2 none) (bZ oG Tryz.f93 (List.replicate 2 none))
theorem zaN:FK 93 F18:=aw _ jj (aS (by kernel_rfl))

noncomputable def mg:=oG.addL [(143,F43),(54,F14),(117,F12),(251,F79),(93,F18)]
theorem gK:zl mg:=jj.addL <| fc za5 <| fc SA <| fc Sy <| fc zbB <| fc zaN jn

theorem Reach.lenB {E:bx} {C:cI} {fn:FuncId} {todo:List Item} {st:St} {Q:AV→List AO→Prop} (id c:Nat) (e:Sh) (l:List (Sem e)) {cs:List AV} (h1:st.heap[id]?=some (.box cs)) (h2:cs[c]?=some (.sl e l)) (h:l.length≤zB→Reach E C fn todo st Q):Reach E C fn todo st Q:=by
 intro b cs' a w U ρ q1 q2 hc hW
 refine h ?_ b cs' a w U ρ q1 q2 hc hW
 have ho:=hc.hp.ob id
 rw [show st.hp id=.box cs by simp [St.hp,h1]] at ho
 obtain ⟨bk,T,vals,_,_,_,hr,_⟩:=ho
 have hlt:c < vals.toList.length:=by rw [← hr.len]; exact (bR.1 h2).1
 have:=hr.rv c _ _ h2 (zJ hlt)
 generalize vals.toList[c]=v at this
 cases this with
 | sl0=>simp
 | sl _ _ _ _ _ _ _ hm=>exact hm

abbrev kp6:Nat→aj:=fun j=>if j=3 then { slots:=[0,3,4],prom:=[(3,none,zf)] } else { }
abbrev Ot (l0:List (Sem zf)) (i4:Int) (lh_0:List (Sem zf)):St:={ tmps:=(tm 24 [(0,AV.sl zf l0),(3,AV.vec 0),(4,ai i4)]),heap:=[AO.vec zf lh_0] }
theorem ok6:zA mg.P 28 Tryz.f28 1:=aS (by kernel_rfl)
theorem go6 (x0:Sem zf.sl):rn mg 0 kp6 Tryz.f28 [zz zf.sl x0] []=Tr.ok (zt.head 3 (zy Tryz.f28 3) (Ot x0 0 [])):=by kernel_rfl
theorem TO (l0:List (Sem zf)) (i4:Int) (lh_0:List (Sem zf)):rh mg 0 kp6 Tryz.f28 3 (Ot l0 i4 lh_0)=Tr.br (bif decide (i4 < (↑l0.length:Int)) then decide (i4 < 14) else false) (Tr.chk (zI i4 l0.length) (Tr.chk (AZ (l0.getD i4.toNat (zj zf))) (Tr.chk (decide (lh_0.length+[EW (l0.getD i4.toNat (zj zf))].length≤1073741824)) (Tr.ok (zt.head 3 (zy Tryz.f28 3) (Ot l0 (IntKind.i64.wrap (i4+1)) (lh_0++[EW (l0.getD i4.toNat (zj zf))]))))))) (Tr.ok (zt.ret (AV.vec 0) [AO.vec zf lh_0])):=by kernel_rfl
def jZ:List (Sem zf)→Int→List (Sem zf)→Sem zf.sl
 | [],_,lh_0=>lh_0
 | x::r,i4,lh_0=>if decide (i4 < 14)=true then jZ r (i4+1) (lh_0++[EW x]) else lh_0
def ir:List (Sem zf)→Int→List (Sem zf)→Bool
 | [],_,_=>true
 | x::r,i4,lh_0=>if decide (i4 < 14)=true then AZ x&&(decide (lh_0.length+[EW x].length≤1073741824)&&ir r (i4+1) (lh_0++[EW x])) else true
theorem zcp {C:cI} (hC:∀ id,C.ρ0 id=none) (l0:List (Sem zf)) (hl:l0.length≤zB):∀ (m i:Nat) (lh_0:List (Sem zf)),l0.length - i=m→i≤l0.length→ir (l0.drop i) i lh_0=true→
  Reach mg C 28 (zy Tryz.f28 3) (Ot l0 (i:Int) lh_0) (fun r h=>ah h [zf.sl] r=some (jZ (l0.drop i) i lh_0,())):=by
 intro m
 induction m with
 | zero=>
  intro i lh_0 hm hi hc
  obtain rfl:i=l0.length:=by omega
  rw [cL] at hc ⊢
  refine zk gK ok6 (fun id _=>hC id) (TO _ _ _) ?_
  simp only [ir] at hc
  simp only [Tr.val,zY,bb,jZ]
  repeat' split
  all_goals first | rfl | simp_all
 | succ m IH=>
  intro i lh_0 hm hi hc
  have hlt:i < l0.length:=by omega
  have IH:=IH (i+1)
  have hcast:((i:Int)+1)=((i+1:Nat):Int):=by omega
  have hwr:=zD i (by omega)
  rw [cX hlt] at hc ⊢
  refine zk gK ok6 (fun id _=>hC id) (TO _ _ _) ?_
  simp only [ir] at hc
  simp only [Tr.val,zT hlt,zC hlt,ae l0 _ hlt,hwr,aR,if_true,jZ]
  clear hwr
  (try simp only [hcast] at hc ⊢)
  repeat' split
  all_goals first | (change Reach _ _ _ _ _ _; apply IH <;> first | omega | assumption | (clear IH; simp_all)) | rfl | (clear IH; simp_all)
theorem Wa {C:cI} (hC:∀ id,C.ρ0 id=none) (l0:List (Sem zf)) (lh_0:List (Sem zf)) (hc:ir l0 0 lh_0=true):
  Reach mg C 28 (zy Tryz.f28 3) (Ot l0 0 lh_0) (fun r h=>ah h [zf.sl] r=some (jZ l0 0 lh_0,())):=
 Reach.len 0 (zf) l0 rfl fun hl=>zcp hC l0 hl _ 0 lh_0 rfl (aV _) hc
def kT (x0:Sem zf.sl):Sem zf.sl:=jZ x0 0 []
def Nc (x0:Sem zf.sl):Bool:=ir x0 0 []
def F6:zF:=zG [zf.sl] [zf.sl] (fun x=>Nc x.1) fun x=>(kT x.1,())
theorem zbn:FK 28 F6:=by
 refine zR ok6 fun x hx C hC=>?_
 simp only [Nc] at hx
 refine zk gK ok6 (fun id _=>hC id) (go6 x.1) ?_
 simp only [Tr.val,kT]
 repeat' split
 all_goals first | (change Reach _ _ _ _ _ _; apply Wa hC <;> first | assumption | simp_all) | rfl | simp_all

abbrev zd3:Nat→aj:=fun j=>if j=3 then { slots:=[0,3,4],prom:=[(3,none,zi)] } else { }
abbrev AQ (l0:List (Sem zi)) (i4:Int) (lh_0:List (Sem zi)):St:={ tmps:=(tm 33 [(0,AV.sl zi l0),(3,AV.vec 0),(4,ai i4)]),heap:=[AO.vec zi lh_0] }
theorem QV:zA mg.P 26 Tryz.f26 1:=aS (by kernel_rfl)
theorem zgW (x0:Sem zi.sl):rn mg 0 zd3 Tryz.f26 [zz zi.sl x0] []=Tr.ok (zt.head 3 (zy Tryz.f26 3) (AQ x0 0 [])):=by kernel_rfl
theorem NE (l0:List (Sem zi)) (i4:Int) (lh_0:List (Sem zi)):rh mg 0 zd3 Tryz.f26 3 (AQ l0 i4 lh_0)=Tr.br (bif decide (i4 < (↑l0.length:Int)) then decide (i4 < 9) else false) (Tr.chk (zI i4 l0.length) (Tr.br (decide ((↑(length (l0.getD i4.toNat (zj zi)).1):Int) > 20)) (Tr.chk (decide (0≤0)&&decide (0≤20)&&decide (20≤(↑(length (l0.getD i4.toNat (zj zi)).1):Int))) (Tr.chk (decide (lh_0.length+[(List.take (toNat 20 - toNat 0) (List.drop (toNat 0) (l0.getD i4.toNat (zj zi)).1),(l0.getD i4.toNat (zj zi)).2)].length≤1073741824)) (Tr.ok (zt.head 3 (zy Tryz.f26 3) (AQ l0 (IntKind.i64.wrap (i4+1)) (lh_0++[(List.take (toNat 20 - toNat 0) (List.drop (toNat 0) (l0.getD i4.toNat (zj zi)).1),(l0.getD i4.toNat (zj zi)).2)])))))) (Tr.chk (decide (lh_0.length+[l0.getD i4.toNat (zj zi)].length≤1073741824)) (Tr.ok (zt.head 3 (zy Tryz.f26 3) (AQ l0 (IntKind.i64.wrap (i4+1)) (lh_0++[l0.getD i4.toNat (zj zi)]))))))) (Tr.ok (zt.ret (AV.vec 0) [AO.vec zi lh_0])):=by kernel_rfl
def g6:List (Sem zi)→Int→List (Sem zi)→Sem zi.sl
 | [],_,lh_0=>lh_0
 | x::r,i4,lh_0=>if decide (i4 < 9)=true then
 if decide ((↑(length x.1):Int) > 20)=true then
  g6 r (i4+1) (lh_0++[(List.take (toNat 20 - toNat 0) (List.drop (toNat 0) x.1),x.2)])
 else g6 r (i4+1) (lh_0++[x])
else lh_0
def f5:List (Sem zi)→Int→List (Sem zi)→Bool
 | [],_,_=>true
 | x::r,i4,lh_0=>if decide (i4 < 9)=true then
 if decide ((↑(length x.1):Int) > 20)=true then
  decide (0≤0)&&decide (0≤20)&&decide (20≤(↑(length x.1):Int))&&
   (decide (lh_0.length+[(List.take (toNat 20 - toNat 0) (List.drop (toNat 0) x.1),x.2)].length≤1073741824)&&
    f5 r (i4+1) (lh_0++[(List.take (toNat 20 - toNat 0) (List.drop (toNat 0) x.1),x.2)]))
 else decide (lh_0.length+[x].length≤1073741824)&&f5 r (i4+1) (lh_0++[x])
else true
theorem V8 {C:cI} (hC:∀ id,C.ρ0 id=none) (l0:List (Sem zi)) (hl:l0.length≤zB):∀ (m i:Nat) (lh_0:List (Sem zi)),l0.length - i=m→i≤l0.length→f5 (l0.drop i) i lh_0=true→
  Reach mg C 26 (zy Tryz.f26 3) (AQ l0 (i:Int) lh_0) (fun r h=>ah h [zi.sl] r=some (g6 (l0.drop i) i lh_0,())):=by
 intro m
 induction m with
 | zero=>
  intro i lh_0 hm hi hc
  obtain rfl:i=l0.length:=by omega
  rw [cL] at hc ⊢
  refine zk gK QV (fun id _=>hC id) (NE _ _ _) ?_
  simp only [f5] at hc
  simp only [Tr.val,zY,bb,g6]
  repeat' split
  all_goals first | rfl | simp_all
 | succ m IH=>
  intro i lh_0 hm hi hc
  have hlt:i < l0.length:=by omega
  have IH:=IH (i+1)
  have hcast:((i:Int)+1)=((i+1:Nat):Int):=by omega
  have hwr:=zD i (by omega)
  rw [cX hlt] at hc ⊢
  refine zk gK QV (fun id _=>hC id) (NE _ _ _) ?_
  simp only [f5] at hc
  simp only [Tr.val,zT hlt,zC hlt,ae l0 _ hlt,hwr,aR,if_true,g6]
  clear hwr
  (try simp only [hcast] at hc ⊢)
  repeat' split
  all_goals first | (change Reach _ _ _ _ _ _; apply IH <;> first | omega | assumption | (clear IH; simp_all)) | rfl | (clear IH; simp_all)
theorem P5 {C:cI} (hC:∀ id,C.ρ0 id=none) (l0:List (Sem zi)) (lh_0:List (Sem zi)) (hc:f5 l0 0 lh_0=true):
  Reach mg C 26 (zy Tryz.f26 3) (AQ l0 0 lh_0) (fun r h=>ah h [zi.sl] r=some (g6 l0 0 lh_0,())):=
 Reach.len 0 (zi) l0 rfl fun hl=>V8 hC l0 hl _ 0 lh_0 rfl (aV _) hc
def mY (x0:Sem zi.sl):Sem zi.sl:=g6 x0 0 []
def Nb (x0:Sem zi.sl):Bool:=f5 x0 0 []
def F13:zF:=zG [zi.sl] [zi.sl] (fun x=>Nb x.1) fun x=>(mY x.1,())
theorem Sz:FK 26 F13:=by
 refine zR QV fun x hx C hC=>?_
 simp only [Nb] at hx
 refine zk gK QV (fun id _=>hC id) (zgW x.1) ?_
 simp only [Tr.val,mY]
 repeat' split
 all_goals first | (change Reach _ _ _ _ _ _; apply P5 hC <;> first | assumption | simp_all) | rfl | simp_all

noncomputable def Dz:=mg.addL [(28,F6),(26,F13)]
theorem ru:zl Dz:=gK.addL <| fc zbn <| fc Sz jn

theorem eR {P:Program} {gl:Nat→AV} {k:FuncId} {ks outs:List Sh} {c:zx (ks.map some)→Bool} {g:zx (ks.map some)→zx (outs.map some)} (h:mv P gl k (zG ks outs c g)) (hc:∀ x,c x=true):mv P gl k (ay ks outs g):=
 SG (by rwa [show c=fun _=>true from funext hc] at h)

theorem xN (v:V):AZ v=true:=by
 unfold AZ
 cases h:decide ((↑(length v.2.2):Int) > 60)
 ·rfl
 ·simp only [zZ] at h
  simp only [aR,aM,zZ]
  omega
theorem GS (s:zp):II s=true:=by
 unfold II
 cases h:decide ((↑(length s):Int) > 20)
 ·rfl
 ·simp only [zZ] at h
  simp only [aR,aM,zZ]
  omega
theorem oP:∀ (l:List (Sem zf)) (i:Int) (a:List (Sem zf)),(a.length:Int)≤i→ir l i a=true
 | [],_,_,_=>rfl
 | x::r,i,a,h=>by
  simp only [ir,xN]
  split
  ·rename_i hi
   simp only [zZ] at hi
   rw [oP r (i+1) _ (by simp; omega)]
   simp; omega
  ·rfl
theorem kg:∀ (l:List (Sem zi)) (i:Int) (a:List (Sem zi)),(a.length:Int)≤i→f5 l i a=true
 | [],_,_,_=>rfl
 | x::r,i,a,h=>by
  simp only [f5]
  split
  ·rename_i hi
   simp only [zZ] at hi
   split
   ·rename_i hx
    simp only [zZ] at hx
    rw [kg r (i+1) _ (by simp; omega)]
    simp; omega
   ·rw [kg r (i+1) _ (by simp; omega)]
    simp; omega
  ·rfl
def ZF:zF:=ay [zf] [zf] fun x=>(EW x.1,())
theorem UI:FK 54 ZF:=eR SA fun x=>xN x.1
def Zr:zF:=ay [Sh.str] [Sh.str] fun x=>(xr x.1,())
theorem Uv:FK 117 Zr:=eR Sy fun x=>GS x.1
def F6t:zF:=ay [zf.sl] [zf.sl] fun x=>(kT x.1,())
theorem zbu:FK 28 F6t:=eR zbn fun x=>oP x.1 0 [] (by simp)
def ZB:zF:=ay [zi.sl] [zi.sl] fun x=>(mY x.1,())
theorem UF:FK 26 ZB:=eR Sz fun x=>kg x.1 0 [] (by simp)

abbrev mw:Nat→aj:=fun _=>{ slots:=[0,1,7,8] }
def iG {K:List Item} {e:Sh} (l:List (Sem e)) (p:Sem e→Bool) (st:Int→St) (h0:List AO) (i:Int):Tr zt:=.br (decide (i < (l.length:Int))) (.chk (zI i l.length) (.br (p (l.getD i.toNat (zj e))) (.ok (.ret (.int .i64 i) h0)) (.ok (.head 2 K (st (IntKind.i64.wrap (i+1))))))) (.ok (.ret (.int .i64 (-1)) h0))

theorem eY {E:bx} {C:cI} {k:FuncId} {f:Func} {n n0:Nat} {keep:Nat→aj} {fuel:Nat} {K:List Item} {e:Sh} (l:List (Sem e)) (p:Sem e→Bool) (st:Int→St) {h0:List AO}
  (hE:zl E) (hf:zA E.P k f n) (hC:∀ id,n0≤id→C.ρ0 id=none)
  (hon:∀ i,run E n0 keep f.results.toList fuel K (st i)=iG (K:=K) l p st h0 i) (hl:l.length≤zB):∀ (m i:Nat),l.length - i=m→i≤l.length→
  Reach E C k K (st i) (fun r h=>(r,h)=(.int .i64 (zL p (l.drop i) i),h0)):=by
 intro m
 induction m with
 | zero=>
  intro i hE.mix' hi
  obtain rfl:i=l.length:=by omega
  refine zk hE hf hC (hon _) ?_
  simp only [iG,Tr.val,zY,cL]
  rfl
 | succ m IH=>
  intro i hE.mix' hi
  have hlt:i < l.length:=by omega
  refine zk hE hf hC (hon _) ?_
  rw [cX hlt]
  simp only [iG,Tr.val,zT hlt,zC hlt,ae l _ hlt,zD i (by omega),if_true,zL]
  split
  ·rfl
  ·exact IH (i+1) (by omega) (by omega)

abbrev ua (t:Int) (l:List (Sem zg)) (i:Int):St:={ tmps:=[.sl zg l,.clo (.func 251) [] [.ptr 0 0],.any,.any,.any,.any,.any,.int .i64 l.length,.int .i64 i,.any,.any,.any,.any,.any,.any,.any,.any,.any,.any],heap:=[.box [.int .i64 t]] }
theorem Mc (t:Int) (l:List (Sem zg)):run Dz 1 mw Tryz.f278.results.toList 300 (aC Tryz.f278) (ar Tryz.f278.ntmps [.sl zg l,.clo (.func 251) [] [.ptr 0 0]] [.box [.int .i64 t]])=.ok (.head 2 (zy Tryz.f278 2) (ua t l 0)):=by kernel_rfl
theorem NC (t:Int) (l:List (Sem zg)) (i:Int):run Dz 1 mw Tryz.f278.results.toList 300 (zy Tryz.f278 2) (ua t l i)=iG (K:=zy Tryz.f278 2) (e:=zg) l (fun x=>bif x != t then x != 0 else false) (ua t l) [.box [.int .i64 t]] i:=by kernel_rfl

theorem Nl:zA Dz.P 278 Tryz.f278 2:=aS (by kernel_rfl)
def zb1:cG [some (.sl zg),none]:=fun x h=>match x,h with
 | (l,.clo (.func 251) [] [.ptr 0 0],_),[.box [.int .i64 t]]=>.ok (.int .i64 (zL (fun x=>bif x != t then x != 0 else false) l 0),[.box [.int .i64 t]])
 | _,_=>.err
def Y6:zF:=zU [some (.sl zg),none] zb1
theorem Ua:FK 278 Y6:=by
 refine bC Nl fun x h0 res hx C hC=>?_
 unfold zb1 at hx
 split at hx
 ·rename_i l u t
  simp only [Tr.val_ok,ap] at hx
  subst hx
  refine Reach.len 0 zg l rfl fun hl=>?_
  refine zk (n0:=1) ru Nl hC (Mc t l) ?_
  exact eY l (fun x=>bif x != t then x != 0 else false) (ua t l) ru Nl hC (NC t l) hl _ 0 rfl (aV _)
 ·simp at hx

noncomputable def pW:=Dz.addL [(54,ZF),(117,Zr),(28,F6t),(26,ZB),(278,Y6)]
theorem kH:zl pW:=ru.addL <| fc UI <| fc Uv <| fc zbu <| fc UF <| fc Ua jn

noncomputable def F78:zF:=zU [some (.sl zg),none] (bZ pW Tryz.f250 [some (.sl zg),none])
theorem zbA:FK 250 F78:=aw _ kH (aS (by kernel_rfl))

def lq (x0:Sem Sh.str):Sem Sh.bool:=nv x0
theorem zeF:zA pW.P 170 Tryz.f170 1:=aS (by kernel_rfl)
theorem zg4 (x0:Sem Sh.str):rn pW 0 (fun _=>{ }) Tryz.f170 [zz Sh.str x0] []=Tr.ok (zt.ret (AV.bool (nv x0)) []):=by kernel_rfl
def F25:zF:=ay [Sh.str] [Sh.bool] fun x=>(lq x.1,())
theorem zaR:FK 170 F25:=by
 refine zS zeF fun x C hC=>?_
 refine aE kH zeF (fun id _=>hC id) (zg4 x.1) ?_
 simp only [Tr.val,lq]
 repeat' split
 all_goals rfl

def gW (x0:Sem zw) (x1:Sem Sh.str):Sem zg:=zL (fun c=>c.1==x1) x0.2.1 0
theorem zeA:zA pW.P 73 Tryz.f73 2:=aS (by kernel_rfl)
theorem zgZ (x0:Sem zw) (x1:Sem Sh.str):rn pW 0 (fun _=>{ }) Tryz.f73 [zz zw x0,zz Sh.str x1] []=Tr.ok (zt.ret (ai (zL (fun c=>c.1==x1) x0.2.1 0)) []):=by kernel_rfl
def F17:zF:=ay [zw,Sh.str] [zg] fun x=>(gW x.1 x.2.1,())
theorem zaM:FK 73 F17:=by
 refine zS zeA fun x C hC=>?_
 refine aE kH zeA (fun id _=>hC id) (zgZ x.1 x.2.1) ?_
 simp only [Tr.val,gW]
 repeat' split
 all_goals rfl

def zM (x0:Sem zi.sl) (x1:Sem Sh.str):Sem zg:=zL (fun c=>c.1==x1) x0 0
theorem zeX:zA pW.P 148 Tryz.f148 2:=aS (by kernel_rfl)
theorem zhn (x0:Sem zi.sl) (x1:Sem Sh.str):rn pW 0 (fun _=>{ }) Tryz.f148 [zz zi.sl x0,zz Sh.str x1] []=Tr.ok (zt.ret (ai (zL (fun c=>c.1==x1) x0 0)) []):=by kernel_rfl
def F48:zF:=ay [zi.sl,Sh.str] [zg] fun x=>(zM x.1 x.2.1,())
theorem zba:FK 148 F48:=by
 refine zS zeX fun x C hC=>?_
 refine aE kH zeX (fun id _=>hC id) (zhn x.1 x.2.1) ?_
 simp only [Tr.val,zM]
 repeat' split
 all_goals rfl

noncomputable def yR:=pW.addL [(250,F78),(170,F25),(73,F17),(148,F48)]
theorem rx:zl yR:=kH.addL <| fc zbA <| fc zaR <| fc zaM <| fc zba jn

def tw (x0:Sem zg.sl) (x1:Sem zg):Sem Sh.bool := !decide (zL (fun x=>bif x != x1 then x != 0 else false) x0 0 ≥ 0)
theorem ze9:zA yR.P 203 Tryz.f203 2:=aS (by kernel_rfl)
theorem zhz (x0:Sem zg.sl) (x1:Sem zg):rn yR 0 (fun _=>{ }) Tryz.f203 [zz zg.sl x0,zz zg x1] []=Tr.ok (zt.ret (AV.bool !decide (zL (fun x=>bif x != x1 then x != 0 else false) x0 0 ≥ 0)) []):=by kernel_rfl
def F66:zF:=ay [zg.sl,zg] [Sh.bool] fun x=>(tw x.1 x.2.1,())
theorem zbs:FK 203 F66:=by
 refine zS ze9 fun x C hC=>?_
 refine aE rx ze9 (fun id _=>hC id) (zhz x.1 x.2.1) ?_
 simp only [Tr.val,tw]
 repeat' split
 all_goals rfl

def bV (x0:Sem Sh.str):Sem Sh.bool:=bif lq x0 then !EA x0 else false
theorem zez:zA yR.P 92 Tryz.f92 1:=aS (by kernel_rfl)
theorem zgY (x0:Sem Sh.str):rn yR 0 (fun _=>{ }) Tryz.f92 [zz Sh.str x0] []=Tr.ok (zt.ret (AV.bool (bif lq x0 then !EA x0 else false)) []):=by kernel_rfl
def F16:zF:=ay [Sh.str] [Sh.bool] fun x=>(bV x.1,())
theorem zaL:FK 92 F16:=by
 refine zS zez fun x C hC=>?_
 refine aE rx zez (fun id _=>hC id) (zgY x.1) ?_
 simp only [Tr.val,bV]
 repeat' split
 all_goals rfl

noncomputable def Lw:=yR.addL [(203,F66),(92,F16)]
theorem yS:zl Lw:=rx.addL <| fc zbs <| fc zaL jn
theorem dz {P:Program} {gl:Nat→AV} {k:FuncId} {ks outs:List Sh} {c:zx (ks.map some)→Bool} {g:zx (ks.map some)→zx (outs.map some)} (hf:∃ fn,P.funcs[k]?=some fn∧(fn.name == "runtime.NumGoroutine")=false∧fn.body.isNone=false) (hc:∀ x,c x=false):mv P gl k (zG ks outs c g):=by
 refine ⟨hf,?_⟩
 intro w U ρ hp n args vals f fp hv
 exfalso
 unfold zG zU at hv
 split at hv
 ·simp only at hv
  split at hv
  ·split at hv
   ·simp only [Tr.val_bind,fa] at hv
    obtain ⟨res,h1,h2⟩:=hv
    unfold g8 at h1
    split at h1
    ·simp only [Tr.val,hc] at h1
     simp at h1
    ·simp at h1
   ·simp at hv
  ·simp at hv
 ·simp at hv
theorem kw {Φ:zt→Prop} {c:Bool} {t f:Tr zt} (h1:c=true→fh Φ t.val) (h2:c=false→fh Φ f.val):fh Φ (Tr.br c t f).val:=by
 cases c
 ·simpa [Tr.val] using h2 rfl
 ·simpa [Tr.val] using h1 rfl
theorem de {Φ:zt→Prop} {c:Bool} {t:Tr zt} (hc:c=true) (h:fh Φ t.val):fh Φ (Tr.chk c t).val:=by
 subst hc
 simpa [Tr.val] using h
theorem zr {Φ:zt→Prop} {t:Tr zt} (h:fh Φ t.val):fh Φ (Tr.chk true t).val:=h
theorem kW {c:Bool} (h:c=false):¬ c=true:=by rw [h]; simp
theorem nP {c g:Bool} (h:(if c=true then g else false)=true):c=true∧g=true:=by
 split at h
 ·exact ⟨‹_›,h⟩
 ·cases h
theorem fe {Φ:zt→Prop} {c:Bool} {t f:Tr zt} {α:Sort _} {a b y:α} {p q:Bool} (hy:(if c=true then a else b)=y) (hc:(if c=true then p else q)=true) (h1:c=true→a=y→p=true→fh Φ t.val) (h2:c=false→b=y→q=true→fh Φ f.val):fh Φ (Tr.br c t f).val:=
 kw (fun h=>h1 h (by rwa [if_pos h] at hy) (by rwa [if_pos h] at hc)) (fun h=>h2 h (by rwa [if_neg (kW h)] at hy) (by rwa [if_neg (kW h)] at hc))
theorem bd {Φ:zt→Prop} {c:Bool} {t f:Tr zt} {α:Sort _} {a b y:α} (hy:(if c=true then a else b)=y) (h1:c=true→a=y→fh Φ t.val) (h2:c=false→b=y→fh Φ f.val):fh Φ (Tr.br c t f).val:=
 kw (fun h=>h1 h (by rwa [if_pos h] at hy)) (fun h=>h2 h (by rwa [if_neg (kW h)] at hy))
theorem bz {Φ:zt→Prop} {c g:Bool} {t:Tr zt} (hc:(if c=true then g else false)=true) (h:g=true→fh Φ t.val):fh Φ (Tr.chk c t).val:=
 de (nP hc).1 (h (nP hc).2)
theorem Tr.val_brT {α:Type} (t f:Tr α):(Tr.br true t f).val=t.val:=rfl
theorem Tr.val_brF {α:Type} (t f:Tr α):(Tr.br false t f).val=f.val:=rfl
theorem Tr.val_chkT {α:Type} (t:Tr α):(Tr.chk true t).val=t.val:=rfl
instance:Inhabited ze:=⟨.mk [] (0,0,[]) [] []⟩
instance (s:Sh):Inhabited (Sem s):=⟨zj s⟩

noncomputable def Jp (g:Sem Sh.expr→Sem (Sh.sl zi)→Sem zg×Sem zg) (c:Sem Sh.expr→Sem (Sh.sl zi)→Bool):bx:=Lw.add 136 (zG [Sh.expr,Sh.sl zi] [zg,zg] (fun x=>c x.1 x.2.1) fun x=>((g x.1 x.2.1).1,(g x.1 x.2.1).2,()))
theorem vq {g:Sem Sh.expr→Sem (Sh.sl zi)→Sem zg×Sem zg} {c:Sem Sh.expr→Sem (Sh.sl zi)→Bool} (hg:FK 136 (zG [Sh.expr,Sh.sl zi] [zg,zg] (fun x=>c x.1 x.2.1) fun x=>((g x.1 x.2.1).1,(g x.1 x.2.1).2,()))):zl (Jp g c):=yS.add hg
abbrev Tx:Nat→aj:=fun j=>if j=3 then { slots:=[1,2,6,15,16,17],prom:=[(6,none,zg)] } else { }
abbrev xp (l1:LC) (l15:LX) (i16:Int) (i17:Int) (ja0:zp) (ja1:Int) (ja2:Int) (ja3:zp) (ja4:zp) (ja5:LX) (lh_1:LI):St:={ tmps:=(tm 91 [(1,AV.sl zi l1),(2,AV.ptr 0 0),(6,AV.vec 1),(15,AV.sl Sh.expr l15),(16,ai i16),(17,ai i17)]),heap:=[AO.box [AV.str ja0,ai ja1,ai ja2,AV.str ja3,AV.str ja4,AV.sl Sh.expr ja5],AO.vec zg lh_1] }
theorem wJ (g:Sem Sh.expr→Sem (Sh.sl zi)→Sem zg×Sem zg) (c:Sem Sh.expr→Sem (Sh.sl zi)→Bool):zA (Jp g c).P 136 Tryz.f136 2:=aS (by kernel_rfl)
theorem zdb (g:Sem Sh.expr→Sem (Sh.sl zi)→Sem zg×Sem zg) (c:Sem Sh.expr→Sem (Sh.sl zi)→Bool) (x0:Sem Sh.expr) (x1:Sem zi.sl):rn (Jp g c) 0 Tx Tryz.f136 [zz Sh.expr x0,zz zi.sl x1] []=Tr.ok (zt.head 3 (zy Tryz.f136 3) (xp x1 (ze.l x0) (↑(ze.l x0).length:Int) 0 (ze.op x0) (ze.v x0).1 (ze.v x0).2.1 (ze.v x0).2.2 (ze.s x0) (ze.l x0) [])):=by kernel_rfl
theorem Ii (g:Sem Sh.expr→Sem (Sh.sl zi)→Sem zg×Sem zg) (c:Sem Sh.expr→Sem (Sh.sl zi)→Bool) (l1:LC) (l15:LX) (i16:Int) (i17:Int) (ja0:zp) (ja1:Int) (ja2:Int) (ja3:zp) (ja4:zp) (ja5:LX) (lh_1:LI):rh (Jp g c) 0 Tx Tryz.f136 3 (xp l1 l15 i16 i17 ja0 ja1 ja2 ja3 ja4 ja5 lh_1)=Tr.br (decide (i17 < i16)) (Tr.chk (zI i17 l15.length) (Tr.chk (c (zE (l15.getD i17.toNat (zj Sh.expr))) l1) (Tr.br ((g (zE (l15.getD i17.toNat (zj Sh.expr))) l1).2 != 0) (Tr.ok (zt.ret (AV.tup [ai 0,AV.int IntKind.i64 (g (zE (l15.getD i17.toNat (zj Sh.expr))) l1).2]) [])) (Tr.chk (decide (lh_1.length+[(g (zE (l15.getD i17.toNat (zj Sh.expr))) l1).1].length≤1073741824)) (Tr.ok (zt.head 3 (zy Tryz.f136 3) (xp l1 l15 i16 (IntKind.i64.wrap (i17+1)) ja0 ja1 ja2 ja3 ja4 ja5 (lh_1++[(g (zE (l15.getD i17.toNat (zj Sh.expr))) l1).1])))))))) (Tr.br (ja0==[108,105,116]) (Tr.ok (zt.ret (AV.tup [ai ja1,ai 0]) [])) (Tr.br (ja0==[99,111,108]) (Tr.br (decide (zM l1 ja4 < 0)) (Tr.ok (zt.ret (AV.tup [ai 0,ai 4]) [])) (Tr.chk (zI (zM l1 ja4) l1.length) (Tr.ok (zt.ret (AV.tup [ai (l1.getD (toNat (zM l1 ja4)) (zj zi)).2.1,ai 0]) [])))) (Tr.br (ja0==[110,111,116])
 (Tr.br (!tw lh_1 3) (Tr.ok (zt.ret (AV.tup [ai 0,ai 5]) [])) (Tr.ok (zt.ret (AV.tup [ai 3,ai 0]) []))) (Tr.br (ja0==[97,110,100]) (Tr.br (!tw lh_1 3) (Tr.ok (zt.ret (AV.tup [ai 0,ai 5]) [])) (Tr.ok (zt.ret (AV.tup [ai 3,ai 0]) []))) (Tr.br (ja0==[111,114]) (Tr.br (!tw lh_1 3) (Tr.ok (zt.ret (AV.tup [ai 0,ai 5]) [])) (Tr.ok (zt.ret (AV.tup [ai 3,ai 0]) []))) (Tr.br (ja0==[61]) (Tr.chk (zI 0 lh_1.length&&(decide (toNat 0 < lh_1.length)&&(zI 1 lh_1.length&&(decide (toNat 1 < lh_1.length)&&bif lh_1.getD (toNat 0) (zj zg)==lh_1.getD (toNat 1) (zj zg) then true else zI 0 lh_1.length&&(decide (toNat 0 < lh_1.length)&&bif lh_1.getD (toNat 0) (zj zg)==0 then true else zI 1 lh_1.length&&decide (toNat 1 < lh_1.length)))))) (Tr.br (!bif lh_1.getD (toNat 0) (zj zg)==lh_1.getD (toNat 1) (zj zg) then true else bif lh_1.getD (toNat 0) (zj zg)==0 then true else lh_1.getD (toNat 1) (zj zg)==0) (Tr.ok (zt.ret (AV.tup [ai 0,ai 5]) [])) (Tr.ok (zt.ret (AV.tup [ai 3,ai 0]) [])))) (Tr.br (ja0==[60]) (Tr.chk (zI 0 lh_1.length&&(decide (toNat 0 < lh_1.length)&&(zI 1 lh_1.length&&(decide (toNat 1 < lh_1.length)&&
 bif lh_1.getD (toNat 0) (zj zg)==lh_1.getD (toNat 1) (zj zg) then true else zI 0 lh_1.length&&(decide (toNat 0 < lh_1.length)&&bif lh_1.getD (toNat 0) (zj zg)==0 then true else zI 1 lh_1.length&&decide (toNat 1 < lh_1.length)))))) (Tr.br (!bif lh_1.getD (toNat 0) (zj zg)==lh_1.getD (toNat 1) (zj zg) then true else bif lh_1.getD (toNat 0) (zj zg)==0 then true else lh_1.getD (toNat 1) (zj zg)==0) (Tr.ok (zt.ret (AV.tup [ai 0,ai 5]) [])) (Tr.ok (zt.ret (AV.tup [ai 3,ai 0]) [])))) (Tr.br (ja0==[43]) (Tr.br (!tw lh_1 1) (Tr.ok (zt.ret (AV.tup [ai 0,ai 5]) [])) (Tr.ok (zt.ret (AV.tup [ai 1,ai 0]) []))) (Tr.br (ja0==[45]) (Tr.br (!tw lh_1 1) (Tr.ok (zt.ret (AV.tup [ai 0,ai 5]) [])) (Tr.ok (zt.ret (AV.tup [ai 1,ai 0]) []))) (Tr.ok (zt.ret (AV.tup [ai 3,ai 0]) []))))))))))):=by kernel_rfl
def cH (g:Sem Sh.expr→Sem (Sh.sl zi)→Sem zg×Sem zg) (c:Sem Sh.expr→Sem (Sh.sl zi)→Bool) (l1:LC) (ja0:zp) (ja1:Int) (ja2:Int) (ja3:zp) (ja4:zp) (ja5:LX):List (Sem Sh.expr)→Int→List (Sem zg)→Sem zg×Sem zg
 | [],_,lh_1=>if (ja0==[108,105,116])=true then (ja1,0)
else
 if (ja0==[99,111,108])=true then
  if decide (zM l1 ja4 < 0)=true then (0,4)
  else ((l1.getD (toNat (zM l1 ja4)) (zj zi)).2.1,0)
 else
  if (ja0==[110,111,116])=true then if (!tw lh_1 3)=true then (0,5) else (3,0)
  else
   if (ja0==[97,110,100])=true then if (!tw lh_1 3)=true then (0,5) else (3,0)
   else
    if (ja0==[111,114])=true then if (!tw lh_1 3)=true then (0,5) else (3,0)
    else
     if (ja0==[61])=true then
      if
        (!bif lh_1.getD (toNat 0) (zj zg)==lh_1.getD (toNat 1) (zj zg) then true
          else bif lh_1.getD (toNat 0) (zj zg)==0 then true else lh_1.getD (toNat 1) (zj zg)==0)=
         true then
       (0,5)
      else (3,0)
     else
      if (ja0==[60])=true then
       if
         (!bif lh_1.getD (toNat 0) (zj zg)==lh_1.getD (toNat 1) (zj zg) then true
           else
            bif lh_1.getD (toNat 0) (zj zg)==0 then true else lh_1.getD (toNat 1) (zj zg)==0)=
          true then
        (0,5)
       else (3,0)
      else
       if (ja0==[43])=true then if (!tw lh_1 1)=true then (0,5) else (1,0)
       else if (ja0==[45])=true then if (!tw lh_1 1)=true then (0,5) else (1,0) else (3,0)
 | x::r,i17,lh_1=>if ((g x l1).2 != 0)=true then (0,(g x l1).2) else cH g c l1 ja0 ja1 ja2 ja3 ja4 ja5 r (i17+1) (lh_1++[(g x l1).1])
def eZ (g:Sem Sh.expr→Sem (Sh.sl zi)→Sem zg×Sem zg) (c:Sem Sh.expr→Sem (Sh.sl zi)→Bool) (l1:LC) (ja0:zp) (ja1:Int) (ja2:Int) (ja3:zp) (ja4:zp) (ja5:LX):List (Sem Sh.expr)→Int→List (Sem zg)→Bool
 | [],_,lh_1=>if (ja0==[108,105,116])=true then true
else
 if (ja0==[99,111,108])=true then
  if decide (zM l1 ja4 < 0)=true then true else if zI (zM l1 ja4) l1.length=true then true else false
 else
  if (ja0==[110,111,116])=true then true
  else
   if (ja0==[97,110,100])=true then true
   else
    if (ja0==[111,114])=true then true
    else
     if (ja0 == [61])=true then
      if
        (zI 0 lh_1.length&&
          (decide (toNat 0 < lh_1.length)&&
           (zI 1 lh_1.length&&
            (decide (toNat 1 < lh_1.length)&&
             bif lh_1.getD (toNat 0) (zj zg)==lh_1.getD (toNat 1) (zj zg) then true
             else
              zI 0 lh_1.length&&
               (decide (toNat 0 < lh_1.length)&&
                bif lh_1.getD (toNat 0) (zj zg)==0 then true
                else zI 1 lh_1.length&&decide (toNat 1 < lh_1.length))))))=
         true then
       true
      else false
     else
      if (ja0 == [60])=true then
       if
         (zI 0 lh_1.length&&
           (decide (toNat 0 < lh_1.length)&&
            (zI 1 lh_1.length&&
             (decide (toNat 1 < lh_1.length)&&
              bif lh_1.getD (toNat 0) (zj zg)==lh_1.getD (toNat 1) (zj zg) then true
              else
               zI 0 lh_1.length&&
                (decide (toNat 0 < lh_1.length)&&
                 bif lh_1.getD (toNat 0) (zj zg)==0 then true
                 else zI 1 lh_1.length&&decide (toNat 1 < lh_1.length))))))=
          true then
        true
       else false
      else true
 | x::r,i17,lh_1=>if c x l1=true then
 if ((g x l1).2 != 0)=true then true
 else
  if decide (lh_1.length+[(g x l1).1].length≤1073741824)=true then
   eZ g c l1 ja0 ja1 ja2 ja3 ja4 ja5 r (i17+1) (lh_1++[(g x l1).1])
  else false
else false
theorem P8 (g:Sem Sh.expr→Sem (Sh.sl zi)→Sem zg×Sem zg) (c:Sem Sh.expr→Sem (Sh.sl zi)→Bool) (hg:FK 136 (zG [Sh.expr,Sh.sl zi] [zg,zg] (fun x=>c x.1 x.2.1) fun x=>((g x.1 x.2.1).1,(g x.1 x.2.1).2,()))) {C:cI} (hC:∀ id,C.ρ0 id=none) (l1:LC) (ja0:zp) (ja1:Int) (ja2:Int) (ja3:zp) (ja4:zp) (ja5:LX) (l15:LX) (hl:l15.length≤zB):∀ (m i:Nat) (lh_1:LI),l15.length - i=m→i≤l15.length→eZ g c l1 ja0 ja1 ja2 ja3 ja4 ja5 (l15.drop i) i lh_1=true→
  Reach (Jp g c) C 136 (zy Tryz.f136 3) (xp l1 l15 (l15.length:Int) (i:Int) ja0 ja1 ja2 ja3 ja4 ja5 lh_1) (fun r h=>ah h [zg,zg] r=some ((cH g c l1 ja0 ja1 ja2 ja3 ja4 ja5 (l15.drop i) i lh_1).1,(cH g c l1 ja0 ja1 ja2 ja3 ja4 ja5 (l15.drop i) i lh_1).2,())):=by
 intro m
 induction m with
 | zero=>
  intro i lh_1 hm hi hc
  obtain rfl:i=l15.length:=by omega
  rw [cL] at hc ⊢
  refine zk (vq hg) (wJ g c) (fun id _=>hC id) (Ii g c _ _ _ _ _ _ _ _ _ _ _) ?_
  rw [eZ] at hc
  generalize hy:cH g c l1 ja0 ja1 ja2 ja3 ja4 ja5 [] _ lh_1=y
  rw [cH] at hy
  simp only [ze.eta,zY,Tr.val_brF]
  repeat' (first | with_reducible refine fe hy hc (fun _ hy hc=>?_) (fun _ hy hc=>?_) | with_reducible refine bd hy (fun _ hy=>?_) (fun _ hy=>?_) | with_reducible refine bz hc (fun hc=>?_) | with_reducible refine zr ?_)
  all_goals (subst hy; first | rfl)
 | succ m IH=>
  intro i lh_1 hm hi hc
  have hlt:i < l15.length:=by omega
  have IH:=IH (i+1)
  have hcast:((i:Int)+1)=((i+1:Nat):Int):=by omega
  have hwr:=zD i (by omega)
  rw [cX hlt] at hc ⊢
  refine zk (vq hg) (wJ g c) (fun id _=>hC id) (Ii g c _ _ _ _ _ _ _ _ _ _ _) ?_
  rw [eZ] at hc
  generalize hy:cH g c l1 ja0 ja1 ja2 ja3 ja4 ja5 (l15[i]::l15.drop (i+1)) (i:Int) lh_1=y
  rw [cH] at hy
  simp only [ze.eta,zT hlt,zC hlt,ae l15 _ hlt,hwr,Tr.val_brT,Tr.val_chkT]
  clear hwr
  simp only [hcast] at hy
  try simp only [hcast] at hc
  repeat' (first | with_reducible refine fe hy hc (fun _ hy hc=>?_) (fun _ hy hc=>?_) | with_reducible refine bd hy (fun _ hy=>?_) (fun _ hy=>?_) | with_reducible refine bz hc (fun hc=>?_) | with_reducible refine zr ?_)
  all_goals (subst hy; first | (change Reach _ _ _ _ _ _; apply IH <;> first | omega | assumption) | rfl)
theorem KX (g:Sem Sh.expr→Sem (Sh.sl zi)→Sem zg×Sem zg) (c:Sem Sh.expr→Sem (Sh.sl zi)→Bool) (hg:FK 136 (zG [Sh.expr,Sh.sl zi] [zg,zg] (fun x=>c x.1 x.2.1) fun x=>((g x.1 x.2.1).1,(g x.1 x.2.1).2,()))) {C:cI} (hC:∀ id,C.ρ0 id=none) (l1:LC) (ja0:zp) (ja1:Int) (ja2:Int) (ja3:zp) (ja4:zp) (ja5:LX) (l15:LX) (lh_1:LI) (hc:eZ g c l1 ja0 ja1 ja2 ja3 ja4 ja5 l15 0 lh_1=true):
  Reach (Jp g c) C 136 (zy Tryz.f136 3) (xp l1 l15 (l15.length:Int) 0 ja0 ja1 ja2 ja3 ja4 ja5 lh_1) (fun r h=>ah h [zg,zg] r=some ((cH g c l1 ja0 ja1 ja2 ja3 ja4 ja5 l15 0 lh_1).1,(cH g c l1 ja0 ja1 ja2 ja3 ja4 ja5 l15 0 lh_1).2,())):=
 Reach.len 15 (Sh.expr) l15 rfl fun hl=>P8 g c hg hC l1 ja0 ja1 ja2 ja3 ja4 ja5 l15 hl _ 0 lh_1 rfl (aV _) hc
def xJ (g:Sem Sh.expr→Sem (Sh.sl zi)→Sem zg×Sem zg) (c:Sem Sh.expr→Sem (Sh.sl zi)→Bool) (x0:Sem Sh.expr) (x1:Sem zi.sl):Sem zg×Sem zg:=cH g c x1 (ze.op x0) (ze.v x0).1 (ze.v x0).2.1 (ze.v x0).2.2 (ze.s x0) (ze.l x0) (ze.l x0) 0 []
def uk (g:Sem Sh.expr→Sem (Sh.sl zi)→Sem zg×Sem zg) (c:Sem Sh.expr→Sem (Sh.sl zi)→Bool) (x0:Sem Sh.expr) (x1:Sem zi.sl):Bool:=eZ g c x1 (ze.op x0) (ze.v x0).1 (ze.v x0).2.1 (ze.v x0).2.2 (ze.s x0) (ze.l x0) (ze.l x0) 0 []
def zgo (g:Sem Sh.expr→Sem (Sh.sl zi)→Sem zg×Sem zg) (c:Sem Sh.expr→Sem (Sh.sl zi)→Bool):zF:=zG [Sh.expr,zi.sl] [zg,zg] (fun x=>uk g c x.1 x.2.1) fun x=>((xJ g c x.1 x.2.1).1,(xJ g c x.1 x.2.1).2,())
theorem Vo (g:Sem Sh.expr→Sem (Sh.sl zi)→Sem zg×Sem zg) (c:Sem Sh.expr→Sem (Sh.sl zi)→Bool) (hg:FK 136 (zG [Sh.expr,Sh.sl zi] [zg,zg] (fun x=>c x.1 x.2.1) fun x=>((g x.1 x.2.1).1,(g x.1 x.2.1).2,()))):FK 136 (zgo g c):=by
 refine zR (wJ g c) fun x hc C hC=>?_
 unfold uk at hc
 refine zk (vq hg) (wJ g c) (fun id _=>hC id) (zdb g c x.1 x.2.1) ?_
 generalize hy:xJ g c x.1 x.2.1=y
 unfold xJ at hy
 try simp only [ze.eta,zm]
 repeat' (first | with_reducible refine fe hy hc (fun _ hy hc=>?_) (fun _ hy hc=>?_) | with_reducible refine bd hy (fun _ hy=>?_) (fun _ hy=>?_) | with_reducible refine bz hc (fun hc=>?_) | with_reducible refine zr ?_)
 all_goals (subst hy; first | (change Reach _ _ _ _ _ _; apply KX g c hg hC <;> first | assumption | exact hc) | rfl)
mutual
def fM:Nat→Sem Sh.expr→Sem (Sh.sl zi)→Sem zg×Sem zg
 | 0=>fun _ _=>default
 | n+1=>xJ (fM n) (jf n)
def jf:Nat→Sem Sh.expr→Sem (Sh.sl zi)→Bool
 | 0=>fun _ _=>false
 | n+1=>uk (fM n) (jf n)
end
theorem KH:∀ n,FK 136 (zG [Sh.expr,Sh.sl zi] [zg,zg] (fun x=>jf n x.1 x.2.1) fun x=>((fM n x.1 x.2.1).1,(fM n x.1 x.2.1).2,()))
 | 0=>dz ⟨Tryz.f136,(wJ default default).1,(wJ default default).2.1,(wJ default default).2.2.1⟩ (fun _=>rfl)
 | n+1=>Vo (fM n) (jf n) (KH n)
def F51:zF:=zG [Sh.expr,Sh.sl zi] [zg,zg] (fun x=>jf 16 x.1 x.2.1) fun x=>((fM 16 x.1 x.2.1).1,(fM 16 x.1 x.2.1).2,())
theorem zbe:FK 136 F51:=KH 16

noncomputable def DA:=Lw.add 136 F51
theorem nF:zl DA:=yS.add zbe

noncomputable def Jk (g:Sem Sh.expr→Sem zg→Sem zg→Sem Sh.expr×Sem zg) (c:Sem Sh.expr→Sem zg→Sem zg→Bool):bx:=DA.add 53 (zG [Sh.expr,zg,zg] [Sh.expr,zg] (fun x=>c x.1 x.2.1 x.2.2.1) fun x=>((g x.1 x.2.1 x.2.2.1).1,(g x.1 x.2.1 x.2.2.1).2,()))
theorem ve {g:Sem Sh.expr→Sem zg→Sem zg→Sem Sh.expr×Sem zg} {c:Sem Sh.expr→Sem zg→Sem zg→Bool} (hg:FK 53 (zG [Sh.expr,zg,zg] [Sh.expr,zg] (fun x=>c x.1 x.2.1 x.2.2.1) fun x=>((g x.1 x.2.1 x.2.2.1).1,(g x.1 x.2.1 x.2.2.1).2,()))):zl (Jk g c):=nF.add hg
abbrev Tq:Nat→aj:=fun j=>if j=10 then { slots:=[1,2,3,6,8,9],prom:=[(8,some 5,Sh.expr)] } else { }
abbrev fC (i1:Sem zg) (i2:Int) (i9:Int) (ja0:zp) (ja1:Int) (ja2:Int) (ja3:zp) (ja4:zp) (ja5:LX) (jb0:List UInt8) (jb1:Int) (jb2:Int) (jb3:List UInt8) (jb4:List UInt8) (jc0:List UInt8) (jc1:Int) (jc2:Int) (jc3:List UInt8) (jc4:List UInt8) (lh_3:LX):St:={ tmps:=(tm 88 [(1,ai i1),(2,ai i2),(3,AV.ptr 0 0),(6,AV.ptr 1 0),(8,AV.ptr 2 0),(9,ai i9)]),heap:=[AO.box [AV.str ja0,ai ja1,ai ja2,AV.str ja3,AV.str ja4,AV.sl Sh.expr ja5],AO.box [AV.str jb0,ai jb1,ai jb2,AV.str jb3,AV.str jb4,AV.nils],AO.box [AV.str jc0,ai jc1,ai jc2,AV.str jc3,AV.str jc4,AV.vec 3],AO.vec Sh.expr lh_3] }
theorem wG (g:Sem Sh.expr→Sem zg→Sem zg→Sem Sh.expr×Sem zg) (c:Sem Sh.expr→Sem zg→Sem zg→Bool):zA (Jk g c).P 53 Tryz.f53 3:=aS (by kernel_rfl)
theorem zc1 (g:Sem Sh.expr→Sem zg→Sem zg→Sem Sh.expr×Sem zg) (c:Sem Sh.expr→Sem zg→Sem zg→Bool) (x0:Sem Sh.expr) (x1:Sem zg) (x2:Sem zg):rn (Jk g c) 0 Tq Tryz.f53 [zz Sh.expr x0,zz zg x1,zz zg x2] []=Tr.br (decide ((↑(length (ze.op x0)):Int) > 8)) (Tr.chk (decide (0≤0)&&decide (0≤8)&&decide (8≤(↑(length (ze.op x0)):Int))) (Tr.br (decide ((↑(length (ze.s x0)):Int) > 20)) (Tr.chk (decide (0≤0)&&decide (0≤20)&&decide (20≤(↑(length (ze.s x0)):Int))) (Tr.br (decide ((↑(length (ze.v x0).2.2):Int) > 45)) (Tr.chk (decide (0≤0)&&decide (0≤45)&&decide (45≤(↑(length (ze.v x0).2.2):Int))) (Tr.ok (zt.head 10 (zy Tryz.f53 10) (fC x1 (IntKind.i64.wrap (x2 - 1)) 0 (ze.op x0) (ze.v x0).1 (ze.v x0).2.1 (ze.v x0).2.2 (ze.s x0) (ze.l x0) [] 0 0 [] [] (List.take (toNat 8 - toNat 0) (List.drop (toNat 0) (ze.op x0))) (ze.v x0).1 (ze.v x0).2.1 (List.take (toNat 45 - toNat 0) (List.drop (toNat 0) (ze.v x0).2.2)) (List.take (toNat 20 - toNat 0) (List.drop (toNat 0) (ze.s x0))) [])))) (Tr.ok (zt.head 10 (zy Tryz.f53 10) (fC x1 (IntKind.i64.wrap (x2 - 1)) 0 (ze.op x0) (ze.v x0).1 (ze.v x0).2.1 (ze.v x0).2.2 (ze.s x0) (ze.l x0) [] 0
 0 [] [] (List.take (toNat 8 - toNat 0) (List.drop (toNat 0) (ze.op x0))) (ze.v x0).1 (ze.v x0).2.1 (ze.v x0).2.2 (List.take (toNat 20 - toNat 0) (List.drop (toNat 0) (ze.s x0))) []))))) (Tr.br (decide ((↑(length (ze.v x0).2.2):Int) > 45)) (Tr.chk (decide (0≤0)&&decide (0≤45)&&decide (45≤(↑(length (ze.v x0).2.2):Int))) (Tr.ok (zt.head 10 (zy Tryz.f53 10) (fC x1 (IntKind.i64.wrap (x2 - 1)) 0 (ze.op x0) (ze.v x0).1 (ze.v x0).2.1 (ze.v x0).2.2 (ze.s x0) (ze.l x0) [] 0 0 [] [] (List.take (toNat 8 - toNat 0) (List.drop (toNat 0) (ze.op x0))) (ze.v x0).1 (ze.v x0).2.1 (List.take (toNat 45 - toNat 0) (List.drop (toNat 0) (ze.v x0).2.2)) (ze.s x0) [])))) (Tr.ok (zt.head 10 (zy Tryz.f53 10) (fC x1 (IntKind.i64.wrap (x2 - 1)) 0 (ze.op x0) (ze.v x0).1 (ze.v x0).2.1 (ze.v x0).2.2 (ze.s x0) (ze.l x0) [] 0 0 [] [] (List.take (toNat 8 - toNat 0) (List.drop (toNat 0) (ze.op x0))) (ze.v x0).1 (ze.v x0).2.1 (ze.v x0).2.2 (ze.s x0) [])))))) (Tr.br (decide ((↑(length (ze.s x0)):Int) > 20)) (Tr.chk (decide (0≤0)&&decide (0≤20)&&decide (20≤(↑(length (ze.s x0)):Int))) (Tr.br (decide ((↑(length (ze.v x0).2.2):Int) > 45)) (Tr.chk (decide (0≤0)&&decide (0≤45)&&decide (45≤(↑(length (ze.v x0).2.2):Int))) (Tr.ok (zt.head 10 (zy Tryz.f53 10)
 (fC x1 (IntKind.i64.wrap (x2 - 1)) 0 (ze.op x0) (ze.v x0).1 (ze.v x0).2.1 (ze.v x0).2.2 (ze.s x0) (ze.l x0) [] 0 0 [] [] (ze.op x0) (ze.v x0).1 (ze.v x0).2.1 (List.take (toNat 45 - toNat 0) (List.drop (toNat 0) (ze.v x0).2.2)) (List.take (toNat 20 - toNat 0) (List.drop (toNat 0) (ze.s x0))) [])))) (Tr.ok (zt.head 10 (zy Tryz.f53 10) (fC x1 (IntKind.i64.wrap (x2 - 1)) 0 (ze.op x0) (ze.v x0).1 (ze.v x0).2.1 (ze.v x0).2.2 (ze.s x0) (ze.l x0) [] 0 0 [] [] (ze.op x0) (ze.v x0).1 (ze.v x0).2.1 (ze.v x0).2.2 (List.take (toNat 20 - toNat 0) (List.drop (toNat 0) (ze.s x0))) []))))) (Tr.br (decide ((↑(length (ze.v x0).2.2):Int) > 45)) (Tr.chk (decide (0≤0)&&decide (0≤45)&&decide (45≤(↑(length (ze.v x0).2.2):Int))) (Tr.ok (zt.head 10 (zy Tryz.f53 10) (fC x1 (IntKind.i64.wrap (x2 - 1)) 0 (ze.op x0) (ze.v x0).1 (ze.v x0).2.1 (ze.v x0).2.2 (ze.s x0) (ze.l x0) [] 0 0 [] [] (ze.op x0) (ze.v x0).1 (ze.v x0).2.1 (List.take (toNat 45 - toNat 0) (List.drop (toNat 0) (ze.v x0).2.2)) (ze.s x0) [])))) (Tr.ok (zt.head 10 (zy Tryz.f53 10) (fC x1 (IntKind.i64.wrap (x2 - 1)) 0 (ze.op x0) (ze.v x0).1 (ze.v x0).2.1 (ze.v x0).2.2 (ze.s x0) (ze.l x0) [] 0 0 [] [] (ze.op x0) (ze.v x0).1 (ze.v x0).2.1 (ze.v x0).2.2 (ze.s x0) []))))):=by kernel_rfl
theorem Ei (g:Sem Sh.expr→Sem zg→Sem zg→Sem Sh.expr×Sem zg) (c:Sem Sh.expr→Sem zg→Sem zg→Bool) (i1:Sem zg) (i2:Int) (i9:Int) (ja0:zp) (ja1:Int) (ja2:Int) (ja3:zp) (ja4:zp) (ja5:LX) (jb0:List UInt8) (jb1:Int) (jb2:Int) (jb3:List UInt8) (jb4:List UInt8) (jc0:List UInt8) (jc1:Int) (jc2:Int) (jc3:List UInt8) (jc4:List UInt8) (lh_3:LX):rh (Jk g c) 0 Tq Tryz.f53 10 (fC i1 i2 i9 ja0 ja1 ja2 ja3 ja4 ja5 jb0 jb1 jb2 jb3 jb4 jc0 jc1 jc2 jc3 jc4 lh_3)=Tr.br (bif decide (i9 < (↑ja5.length:Int)) then bif decide (i9 < 3) then bif decide (i1 > 0) then decide (i2 > 0) else false else false else false) (Tr.chk (zI i9 ja5.length) (Tr.chk (c (zE (ja5.getD i9.toNat (zj Sh.expr))) (IntKind.i64.wrap (i1 - 1)) i2) (Tr.chk (decide (lh_3.length+[ze.mk (ze.op (g (zE (ja5.getD i9.toNat (zj Sh.expr))) (IntKind.i64.wrap (i1 - 1)) i2).1) (ze.v (g (zE (ja5.getD i9.toNat (zj Sh.expr))) (IntKind.i64.wrap (i1 - 1)) i2).1) (ze.s (g (zE (ja5.getD i9.toNat (zj Sh.expr))) (IntKind.i64.wrap (i1 - 1)) i2).1) (ze.l (g (zE (ja5.getD i9.toNat (zj Sh.expr))) (IntKind.i64.wrap (i1 - 1)) i2).1)].length≤1073741824)) (Tr.ok (zt.head 10 (zy Tryz.f53 10) (fC i1 (g (zE (ja5.getD i9.toNat (zj Sh.expr))) (IntKind.i64.wrap (i1 - 1)) i2).2
 (IntKind.i64.wrap (i9+1)) ja0 ja1 ja2 ja3 ja4 ja5 jb0 jb1 jb2 jb3 jb4 jc0 jc1 jc2 jc3 jc4 (lh_3++[ze.mk (ze.op (g (zE (ja5.getD i9.toNat (zj Sh.expr))) (IntKind.i64.wrap (i1 - 1)) i2).1) (ze.v (g (zE (ja5.getD i9.toNat (zj Sh.expr))) (IntKind.i64.wrap (i1 - 1)) i2).1) (ze.s (g (zE (ja5.getD i9.toNat (zj Sh.expr))) (IntKind.i64.wrap (i1 - 1)) i2).1) (ze.l (g (zE (ja5.getD i9.toNat (zj Sh.expr))) (IntKind.i64.wrap (i1 - 1)) i2).1)]))))))) (Tr.ok (zt.ret (AV.tup [AV.agg [AV.str jc0,ai jc1,ai jc2,AV.str jc3,AV.str jc4,AV.vec 0],ai i2]) [AO.vec Sh.expr lh_3])):=by kernel_rfl
def cC (g:Sem Sh.expr→Sem zg→Sem zg→Sem Sh.expr×Sem zg) (c:Sem Sh.expr→Sem zg→Sem zg→Bool) (i1:Sem zg) (ja0:zp) (ja1:Int) (ja2:Int) (ja3:zp) (ja4:zp) (jb0:List UInt8) (jb1:Int) (jb2:Int) (jb3:List UInt8) (jb4:List UInt8) (jc0:List UInt8) (jc1:Int) (jc2:Int) (jc3:List UInt8) (jc4:List UInt8):List (Sem Sh.expr)→Int→Int→List (Sem Sh.expr)→Sem Sh.expr×Sem zg
 | [],_,i2,lh_3=>(ze.mk jc0 (jc1,jc2,jc3) jc4 lh_3,i2)
 | x::r,i9,i2,lh_3=>if (bif decide (i9 < 3) then bif decide (i1 > 0) then decide (i2 > 0) else false else false)=true then
 cC g c i1 ja0 ja1 ja2 ja3 ja4 jb0 jb1 jb2 jb3 jb4 jc0 jc1 jc2 jc3 jc4 r (i9+1)
  (g x (IntKind.i64.wrap (i1 - 1)) i2).2 (lh_3++[(g x (IntKind.i64.wrap (i1 - 1)) i2).1])
else (ze.mk jc0 (jc1,jc2,jc3) jc4 lh_3,i2)
def cR (g:Sem Sh.expr→Sem zg→Sem zg→Sem Sh.expr×Sem zg) (c:Sem Sh.expr→Sem zg→Sem zg→Bool) (i1:Sem zg) (ja0:zp) (ja1:Int) (ja2:Int) (ja3:zp) (ja4:zp) (jb0:List UInt8) (jb1:Int) (jb2:Int) (jb3:List UInt8) (jb4:List UInt8) (jc0:List UInt8) (jc1:Int) (jc2:Int) (jc3:List UInt8) (jc4:List UInt8):List (Sem Sh.expr)→Int→Int→List (Sem Sh.expr)→Bool
 | [],_,_,_=>true
 | x::r,i9,i2,lh_3=>if (bif decide (i9 < 3) then bif decide (i1 > 0) then decide (i2 > 0) else false else false)=true then
 if c x (IntKind.i64.wrap (i1 - 1)) i2=true then
  if decide (lh_3.length+[(g x (IntKind.i64.wrap (i1 - 1)) i2).1].length≤1073741824)=true then
   cR g c i1 ja0 ja1 ja2 ja3 ja4 jb0 jb1 jb2 jb3 jb4 jc0 jc1 jc2 jc3 jc4 r (i9+1)
    (g x (IntKind.i64.wrap (i1 - 1)) i2).2 (lh_3++[(g x (IntKind.i64.wrap (i1 - 1)) i2).1])
  else false
 else false
else true
theorem KV (g:Sem Sh.expr→Sem zg→Sem zg→Sem Sh.expr×Sem zg) (c:Sem Sh.expr→Sem zg→Sem zg→Bool) (hg:FK 53 (zG [Sh.expr,zg,zg] [Sh.expr,zg] (fun x=>c x.1 x.2.1 x.2.2.1) fun x=>((g x.1 x.2.1 x.2.2.1).1,(g x.1 x.2.1 x.2.2.1).2,()))) {C:cI} (hC:∀ id,C.ρ0 id=none) (i1:Sem zg) (ja0:zp) (ja1:Int) (ja2:Int) (ja3:zp) (ja4:zp) (jb0:List UInt8) (jb1:Int) (jb2:Int) (jb3:List UInt8) (jb4:List UInt8) (jc0:List UInt8) (jc1:Int) (jc2:Int) (jc3:List UInt8) (jc4:List UInt8) (ja5:LX) (hl:ja5.length≤zB):∀ (m i:Nat) (i2:Int) (lh_3:LX),ja5.length - i=m→i≤ja5.length→cR g c i1 ja0 ja1 ja2 ja3 ja4 jb0 jb1 jb2 jb3 jb4 jc0 jc1 jc2 jc3 jc4 (ja5.drop i) i i2 lh_3=true→
  Reach (Jk g c) C 53 (zy Tryz.f53 10) (fC i1 i2 (i:Int) ja0 ja1 ja2 ja3 ja4 ja5 jb0 jb1 jb2 jb3 jb4 jc0 jc1 jc2 jc3 jc4 lh_3) (fun r h=>ah h [Sh.expr,zg] r=some ((cC g c i1 ja0 ja1 ja2 ja3 ja4 jb0 jb1 jb2 jb3 jb4 jc0 jc1 jc2 jc3 jc4 (ja5.drop i) i i2 lh_3).1,(cC g c i1 ja0 ja1 ja2 ja3 ja4 jb0 jb1 jb2 jb3 jb4 jc0 jc1 jc2 jc3 jc4 (ja5.drop i) i i2 lh_3).2,())):=by
 intro m
 induction m with
 | zero=>
  intro i i2 lh_3 hm hi hc
  obtain rfl:i=ja5.length:=by omega
  rw [cL] at hc ⊢
  refine zk (ve hg) (wG g c) (fun id _=>hC id) (Ei g c _ _ _ _ _ _ _ _ _ _ _ _ _ _ _ _ _ _ _ _) ?_
  rw [cR] at hc
  generalize hy:cC g c i1 ja0 ja1 ja2 ja3 ja4 jb0 jb1 jb2 jb3 jb4 jc0 jc1 jc2 jc3 jc4 [] _ i2 lh_3=y
  rw [cC] at hy
  simp only [ze.eta,zY,bb,Tr.val_brF]
  repeat' (first | with_reducible refine fe hy hc (fun _ hy hc=>?_) (fun _ hy hc=>?_) | with_reducible refine bd hy (fun _ hy=>?_) (fun _ hy=>?_) | with_reducible refine bz hc (fun hc=>?_) | with_reducible refine zr ?_)
  all_goals (subst hy; first | rfl)
 | succ m IH=>
  intro i i2 lh_3 hm hi hc
  have hlt:i < ja5.length:=by omega
  have IH:=IH (i+1)
  have hcast:((i:Int)+1)=((i+1:Nat):Int):=by omega
  have hwr:=zD i (by omega)
  rw [cX hlt] at hc ⊢
  refine zk (ve hg) (wG g c) (fun id _=>hC id) (Ei g c _ _ _ _ _ _ _ _ _ _ _ _ _ _ _ _ _ _ _ _) ?_
  rw [cR] at hc
  generalize hy:cC g c i1 ja0 ja1 ja2 ja3 ja4 jb0 jb1 jb2 jb3 jb4 jc0 jc1 jc2 jc3 jc4 (ja5[i]::ja5.drop (i+1)) (i:Int) i2 lh_3=y
  rw [cC] at hy
  simp only [ze.eta,zT hlt,zC hlt,ae ja5 _ hlt,hwr,aR]
  clear hwr
  simp only [hcast] at hy
  try simp only [hcast] at hc
  repeat' (first | with_reducible refine fe hy hc (fun _ hy hc=>?_) (fun _ hy hc=>?_) | with_reducible refine bd hy (fun _ hy=>?_) (fun _ hy=>?_) | with_reducible refine bz hc (fun hc=>?_) | with_reducible refine zr ?_)
  all_goals (subst hy; first | (change Reach _ _ _ _ _ _; apply IH <;> first | omega | assumption) | rfl)
theorem I9 (g:Sem Sh.expr→Sem zg→Sem zg→Sem Sh.expr×Sem zg) (c:Sem Sh.expr→Sem zg→Sem zg→Bool) (hg:FK 53 (zG [Sh.expr,zg,zg] [Sh.expr,zg] (fun x=>c x.1 x.2.1 x.2.2.1) fun x=>((g x.1 x.2.1 x.2.2.1).1,(g x.1 x.2.1 x.2.2.1).2,()))) {C:cI} (hC:∀ id,C.ρ0 id=none) (i1:Sem zg) (ja0:zp) (ja1:Int) (ja2:Int) (ja3:zp) (ja4:zp) (jb0:List UInt8) (jb1:Int) (jb2:Int) (jb3:List UInt8) (jb4:List UInt8) (jc0:List UInt8) (jc1:Int) (jc2:Int) (jc3:List UInt8) (jc4:List UInt8) (ja5:LX) (i2:Int) (lh_3:LX) (hc:cR g c i1 ja0 ja1 ja2 ja3 ja4 jb0 jb1 jb2 jb3 jb4 jc0 jc1 jc2 jc3 jc4 ja5 0 i2 lh_3=true):
  Reach (Jk g c) C 53 (zy Tryz.f53 10) (fC i1 i2 0 ja0 ja1 ja2 ja3 ja4 ja5 jb0 jb1 jb2 jb3 jb4 jc0 jc1 jc2 jc3 jc4 lh_3) (fun r h=>ah h [Sh.expr,zg] r=some ((cC g c i1 ja0 ja1 ja2 ja3 ja4 jb0 jb1 jb2 jb3 jb4 jc0 jc1 jc2 jc3 jc4 ja5 0 i2 lh_3).1,(cC g c i1 ja0 ja1 ja2 ja3 ja4 jb0 jb1 jb2 jb3 jb4 jc0 jc1 jc2 jc3 jc4 ja5 0 i2 lh_3).2,())):=
 Reach.lenB 0 5 (Sh.expr) ja5 rfl rfl fun hl=>KV g c hg hC i1 ja0 ja1 ja2 ja3 ja4 jb0 jb1 jb2 jb3 jb4 jc0 jc1 jc2 jc3 jc4 ja5 hl _ 0 i2 lh_3 rfl (aV _) hc
def FS (g:Sem Sh.expr→Sem zg→Sem zg→Sem Sh.expr×Sem zg) (c:Sem Sh.expr→Sem zg→Sem zg→Bool) (x0:Sem Sh.expr) (x1:Sem zg) (x2:Sem zg):Sem Sh.expr×Sem zg:=if decide ((↑(length (ze.op x0)):Int) > 8)=true then if decide ((↑(length (ze.s x0)):Int) > 20)=true then if decide ((↑(length (ze.v x0).2.2):Int) > 45)=true then cC g c x1 (ze.op x0) (ze.v x0).1 (ze.v x0).2.1 (ze.v x0).2.2 (ze.s x0) [] 0 0 [] [] (List.take (toNat 8 - toNat 0) (List.drop (toNat 0) (ze.op x0))) (ze.v x0).1 (ze.v x0).2.1 (List.take (toNat 45 - toNat 0) (List.drop (toNat 0) (ze.v x0).2.2)) (List.take (toNat 20 - toNat 0) (List.drop (toNat 0) (ze.s x0))) (ze.l x0) 0 (IntKind.i64.wrap (x2 - 1)) [] else cC g c x1 (ze.op x0) (ze.v x0).1 (ze.v x0).2.1 (ze.v x0).2.2 (ze.s x0) [] 0 0 [] [] (List.take (toNat 8 - toNat 0) (List.drop (toNat 0) (ze.op x0))) (ze.v x0).1 (ze.v x0).2.1 (ze.v x0).2.2 (List.take (toNat 20 - toNat 0) (List.drop (toNat 0) (ze.s x0))) (ze.l x0) 0 (IntKind.i64.wrap (x2 - 1)) [] else if decide ((↑(length (ze.v x0).2.2):Int) > 45)=true then cC g c x1 (ze.op x0) (ze.v x0).1 (ze.v x0).2.1 (ze.v x0).2.2 (ze.s x0) [] 0 0 [] [] (List.take (toNat 8 - toNat 0) (List.drop (toNat 0) (ze.op x0))) (ze.v x0).1 (ze.v x0).2.1
 (List.take (toNat 45 - toNat 0) (List.drop (toNat 0) (ze.v x0).2.2)) (ze.s x0) (ze.l x0) 0 (IntKind.i64.wrap (x2 - 1)) [] else cC g c x1 (ze.op x0) (ze.v x0).1 (ze.v x0).2.1 (ze.v x0).2.2 (ze.s x0) [] 0 0 [] [] (List.take (toNat 8 - toNat 0) (List.drop (toNat 0) (ze.op x0))) (ze.v x0).1 (ze.v x0).2.1 (ze.v x0).2.2 (ze.s x0) (ze.l x0) 0 (IntKind.i64.wrap (x2 - 1)) [] else if decide ((↑(length (ze.s x0)):Int) > 20)=true then if decide ((↑(length (ze.v x0).2.2):Int) > 45)=true then cC g c x1 (ze.op x0) (ze.v x0).1 (ze.v x0).2.1 (ze.v x0).2.2 (ze.s x0) [] 0 0 [] [] (ze.op x0) (ze.v x0).1 (ze.v x0).2.1 (List.take (toNat 45 - toNat 0) (List.drop (toNat 0) (ze.v x0).2.2)) (List.take (toNat 20 - toNat 0) (List.drop (toNat 0) (ze.s x0))) (ze.l x0) 0 (IntKind.i64.wrap (x2 - 1)) [] else cC g c x1 (ze.op x0) (ze.v x0).1 (ze.v x0).2.1 (ze.v x0).2.2 (ze.s x0) [] 0 0 [] [] (ze.op x0) (ze.v x0).1 (ze.v x0).2.1 (ze.v x0).2.2 (List.take (toNat 20 - toNat 0) (List.drop (toNat 0) (ze.s x0))) (ze.l x0) 0 (IntKind.i64.wrap (x2 - 1)) [] else if decide ((↑(length (ze.v x0).2.2):Int) > 45)=true then cC g c x1 (ze.op x0) (ze.v x0).1 (ze.v x0).2.1 (ze.v x0).2.2 (ze.s x0) [] 0 0 [] [] (ze.op x0) (ze.v x0).1
 (ze.v x0).2.1 (List.take (toNat 45 - toNat 0) (List.drop (toNat 0) (ze.v x0).2.2)) (ze.s x0) (ze.l x0) 0 (IntKind.i64.wrap (x2 - 1)) [] else cC g c x1 (ze.op x0) (ze.v x0).1 (ze.v x0).2.1 (ze.v x0).2.2 (ze.s x0) [] 0 0 [] [] (ze.op x0) (ze.v x0).1 (ze.v x0).2.1 (ze.v x0).2.2 (ze.s x0) (ze.l x0) 0 (IntKind.i64.wrap (x2 - 1)) []
def DU (g:Sem Sh.expr→Sem zg→Sem zg→Sem Sh.expr×Sem zg) (c:Sem Sh.expr→Sem zg→Sem zg→Bool) (x0:Sem Sh.expr) (x1:Sem zg) (x2:Sem zg):Bool:=if decide ((↑(length (ze.op x0)):Int) > 8)=true then if (decide (0≤0)&&decide (0≤8)&&decide (8≤(↑(length (ze.op x0)):Int)))=true then if decide ((↑(length (ze.s x0)):Int) > 20)=true then if (decide (0≤0)&&decide (0≤20)&&decide (20≤(↑(length (ze.s x0)):Int)))=true then if decide ((↑(length (ze.v x0).2.2):Int) > 45)=true then if (decide (0≤0)&&decide (0≤45)&&decide (45≤(↑(length (ze.v x0).2.2):Int)))=true then cR g c x1 (ze.op x0) (ze.v x0).1 (ze.v x0).2.1 (ze.v x0).2.2 (ze.s x0) [] 0 0 [] [] (List.take (toNat 8 - toNat 0) (List.drop (toNat 0) (ze.op x0))) (ze.v x0).1 (ze.v x0).2.1 (List.take (toNat 45 - toNat 0) (List.drop (toNat 0) (ze.v x0).2.2)) (List.take (toNat 20 - toNat 0) (List.drop (toNat 0) (ze.s x0))) (ze.l x0) 0 (IntKind.i64.wrap (x2 - 1)) [] else false else cR g c x1 (ze.op x0) (ze.v x0).1 (ze.v x0).2.1 (ze.v x0).2.2 (ze.s x0) [] 0 0 [] [] (List.take (toNat 8 - toNat 0) (List.drop (toNat 0) (ze.op x0))) (ze.v x0).1 (ze.v x0).2.1 (ze.v x0).2.2
 (List.take (toNat 20 - toNat 0) (List.drop (toNat 0) (ze.s x0))) (ze.l x0) 0 (IntKind.i64.wrap (x2 - 1)) [] else false else if decide ((↑(length (ze.v x0).2.2):Int) > 45)=true then if (decide (0≤0)&&decide (0≤45)&&decide (45≤(↑(length (ze.v x0).2.2):Int)))=true then cR g c x1 (ze.op x0) (ze.v x0).1 (ze.v x0).2.1 (ze.v x0).2.2 (ze.s x0) [] 0 0 [] [] (List.take (toNat 8 - toNat 0) (List.drop (toNat 0) (ze.op x0))) (ze.v x0).1 (ze.v x0).2.1 (List.take (toNat 45 - toNat 0) (List.drop (toNat 0) (ze.v x0).2.2)) (ze.s x0) (ze.l x0) 0 (IntKind.i64.wrap (x2 - 1)) [] else false else cR g c x1 (ze.op x0) (ze.v x0).1 (ze.v x0).2.1 (ze.v x0).2.2 (ze.s x0) [] 0 0 [] [] (List.take (toNat 8 - toNat 0) (List.drop (toNat 0) (ze.op x0))) (ze.v x0).1 (ze.v x0).2.1 (ze.v x0).2.2 (ze.s x0) (ze.l x0) 0 (IntKind.i64.wrap (x2 - 1)) [] else false else if decide ((↑(length (ze.s x0)):Int) > 20)=true then if (decide (0≤0)&&decide (0≤20)&&decide (20≤(↑(length (ze.s x0)):Int)))=true then if decide ((↑(length (ze.v x0).2.2):Int) > 45)=true then if (decide (0≤0)&&decide (0≤45)&&decide (45≤(↑(length (ze.v x0).2.2):Int)))=true then cR g c x1 (ze.op x0) (ze.v x0).1 (ze.v x0).2.1 (ze.v x0).2.2 (ze.s x0) [] 0 0 [] [] (ze.op x0) (ze.v x0).1
 (ze.v x0).2.1 (List.take (toNat 45 - toNat 0) (List.drop (toNat 0) (ze.v x0).2.2)) (List.take (toNat 20 - toNat 0) (List.drop (toNat 0) (ze.s x0))) (ze.l x0) 0 (IntKind.i64.wrap (x2 - 1)) [] else false else cR g c x1 (ze.op x0) (ze.v x0).1 (ze.v x0).2.1 (ze.v x0).2.2 (ze.s x0) [] 0 0 [] [] (ze.op x0) (ze.v x0).1 (ze.v x0).2.1 (ze.v x0).2.2 (List.take (toNat 20 - toNat 0) (List.drop (toNat 0) (ze.s x0))) (ze.l x0) 0 (IntKind.i64.wrap (x2 - 1)) [] else false else if decide ((↑(length (ze.v x0).2.2):Int) > 45)=true then if (decide (0≤0)&&decide (0≤45)&&decide (45≤(↑(length (ze.v x0).2.2):Int)))=true then cR g c x1 (ze.op x0) (ze.v x0).1 (ze.v x0).2.1 (ze.v x0).2.2 (ze.s x0) [] 0 0 [] [] (ze.op x0) (ze.v x0).1 (ze.v x0).2.1 (List.take (toNat 45 - toNat 0) (List.drop (toNat 0) (ze.v x0).2.2)) (ze.s x0) (ze.l x0) 0 (IntKind.i64.wrap (x2 - 1)) [] else false else cR g c x1 (ze.op x0) (ze.v x0).1 (ze.v x0).2.1 (ze.v x0).2.2 (ze.s x0) [] 0 0 [] [] (ze.op x0) (ze.v x0).1 (ze.v x0).2.1 (ze.v x0).2.2 (ze.s x0) (ze.l x0) 0 (IntKind.i64.wrap (x2 - 1)) []
def zgn (g:Sem Sh.expr→Sem zg→Sem zg→Sem Sh.expr×Sem zg) (c:Sem Sh.expr→Sem zg→Sem zg→Bool):zF:=zG [Sh.expr,zg,zg] [Sh.expr,zg] (fun x=>DU g c x.1 x.2.1 x.2.2.1) fun x=>((FS g c x.1 x.2.1 x.2.2.1).1,(FS g c x.1 x.2.1 x.2.2.1).2,())
theorem UK (g:Sem Sh.expr→Sem zg→Sem zg→Sem Sh.expr×Sem zg) (c:Sem Sh.expr→Sem zg→Sem zg→Bool) (hg:FK 53 (zG [Sh.expr,zg,zg] [Sh.expr,zg] (fun x=>c x.1 x.2.1 x.2.2.1) fun x=>((g x.1 x.2.1 x.2.2.1).1,(g x.1 x.2.1 x.2.2.1).2,()))):FK 53 (zgn g c):=by
 refine zR (wG g c) fun x hc C hC=>?_
 unfold DU at hc
 refine zk (ve hg) (wG g c) (fun id _=>hC id) (zc1 g c x.1 x.2.1 x.2.2.1) ?_
 generalize hy:FS g c x.1 x.2.1 x.2.2.1=y
 unfold FS at hy
 try simp only [ze.eta,zm]
 repeat' (first | with_reducible refine fe hy hc (fun _ hy hc=>?_) (fun _ hy hc=>?_) | with_reducible refine bd hy (fun _ hy=>?_) (fun _ hy=>?_) | with_reducible refine bz hc (fun hc=>?_) | with_reducible refine zr ?_)
 all_goals (subst hy; first | (change Reach _ _ _ _ _ _; apply I9 g c hg hC <;> first | assumption | exact hc) | rfl)
mutual
def lG:Nat→Sem Sh.expr→Sem zg→Sem zg→Sem Sh.expr×Sem zg
 | 0=>fun _ _ _=>default
 | n+1=>FS (lG n) (p9 n)
def p9:Nat→Sem Sh.expr→Sem zg→Sem zg→Bool
 | 0=>fun _ _ _=>false
 | n+1=>DU (lG n) (p9 n)
end
theorem KC:∀ n,FK 53 (zG [Sh.expr,zg,zg] [Sh.expr,zg] (fun x=>p9 n x.1 x.2.1 x.2.2.1) fun x=>((lG n x.1 x.2.1 x.2.2.1).1,(lG n x.1 x.2.1 x.2.2.1).2,()))
 | 0=>dz ⟨Tryz.f53,(wG default default).1,(wG default default).2.1,(wG default default).2.2.1⟩ (fun _=>rfl)
 | n+1=>UK (lG n) (p9 n) (KC n)
def F15:zF:=zG [Sh.expr,zg,zg] [Sh.expr,zg] (fun x=>p9 16 x.1 x.2.1 x.2.2.1) fun x=>((lG 16 x.1 x.2.1 x.2.2.1).1,(lG 16 x.1 x.2.1 x.2.2.1).2,())
theorem zaK:FK 53 F15:=KC 16

def eqL (g:ze→ze→Bool):List ze→List ze→Bool
 | x::r,y::s=>if (!g x y)=true then false else eqL g r s
 | _,_=>true
def Qw (g c:ze→ze→Bool):List ze→List ze→Bool
 | x::r,y::s=>if c x y=true then (if (!g x y)=true then true else Qw g c r s) else false
 | _,_=>true

noncomputable def Jo (g c:ze→ze→Bool):bx:=DA.add 128 (zG [.expr,.expr] [.bool] (fun x=>c x.1 x.2.1) (fun x=>(g x.1 x.2.1,())))
theorem vp {g c:ze→ze→Bool} (hg:FK 128 (zG [.expr,.expr] [.bool] (fun x=>c x.1 x.2.1) (fun x=>(g x.1 x.2.1,())))):zl (Jo g c):=nF.add hg
abbrev zee:Nat→aj:=fun j=>if j=4 then { slots:=[1,2,15,16,17] } else { }
abbrev IF (l1:List ze) (l15:List ze) (i16:Int) (i17:Int):St:={ tmps:=(tm 32 [(1,AV.sl Sh.expr l1),(2,AV.clo (Fn.func 128) [] []),(15,AV.sl Sh.expr l15),(16,ai i16),(17,ai i17)]),heap:=[] }
theorem QX (g c:ze→ze→Bool):zA (Jo g c).P 196 Tryz.f196 3:=aS (by kernel_rfl)
theorem zhp (g c:ze→ze→Bool) (l:List ze) (m:List ze):rn (Jo g c) 0 zee Tryz.f196 [AV.sl Sh.expr l,AV.sl Sh.expr m,AV.clo (Fn.func 128) [] []] []=Tr.br ((↑l.length:Int) != (↑m.length:Int)) (Tr.ok (zt.ret (AV.kb false) [])) (Tr.ok (zt.head 4 (zy Tryz.f196 4) (IF m l (↑l.length:Int) 0))):=by kernel_rfl
theorem NH (g c:ze→ze→Bool) (l1:List ze) (l15:List ze) (i16:Int) (i17:Int):rh (Jo g c) 0 zee Tryz.f196 4 (IF l1 l15 i16 i17)=Tr.br (decide (i17 < i16)) (Tr.chk (zI i17 l15.length) (Tr.chk (zI i17 l1.length) (Tr.chk (c (zE (l15.getD i17.toNat (zj Sh.expr))) (zE (l1.getD i17.toNat (zj Sh.expr)))) (Tr.br (!g (zE (l15.getD i17.toNat (zj Sh.expr))) (zE (l1.getD i17.toNat (zj Sh.expr)))) (Tr.ok (zt.ret (AV.kb false) [])) (Tr.ok (zt.head 4 (zy Tryz.f196 4) (IF l1 l15 i16 (IntKind.i64.wrap (i17+1))))))))) (Tr.ok (zt.ret (AV.kb true) [])):=by kernel_rfl

theorem zgx {g c:ze→ze→Bool} (hg:FK 128 (zG [.expr,.expr] [.bool] (fun x=>c x.1 x.2.1) (fun x=>(g x.1 x.2.1,())))) {C:cI} (hC:∀ id,0≤id→C.ρ0 id=none) (l m:List ze) (hlm:l.length=m.length) (hl:l.length≤zB):
  ∀ (k i:Nat),l.length - i=k→i≤l.length→Qw g c (l.drop i) (m.drop i)=true→Reach (Jo g c) C 196 (zy Tryz.f196 4) (IF m l l.length i) (fun r h=>(r,h)=(.kb (eqL g (l.drop i) (m.drop i)),[])):=by
 intro k
 induction k with
 | zero=>
  intro i hk hi hc
  obtain rfl:i=l.length:=by omega
  refine zk (vp hg) (QX g c) hC (NH g c _ _ _ _) ?_
  simp only [zY,Tr.val_brF,cL]
  rfl
 | succ k IH=>
  intro i hk hi hc
  have hlt:i < l.length:=by omega
  have hlt':i < m.length:=by omega
  refine zk (vp hg) (QX g c) hC (NH g c _ _ _ _) ?_
  rw [cX hlt,cX hlt'] at hc ⊢
  rw [Qw] at hc
  have hc1:=nP hc
  simp only [zT hlt,zC hlt,zC hlt',ae l _ hlt,ae m _ hlt',ze.eta,Tr.val_brT,Tr.val_chkT,hc1.1,zD i (by omega)]
  refine kw (fun h=>?_) (fun h=>?_)
  ·rw [eqL,if_pos h]; rfl
  ·rw [eqL,if_neg (kW h)]
   have h2:=hc1.2
   rw [if_neg (kW h)] at h2
   exact IH (i+1) (by omega) (by omega) h2

def Qx (g:ze→ze→Bool) (l m:List ze):Bool:=if ((↑l.length:Int) != (↑m.length:Int))=true then false else eqL g l m
def An (g c:ze→ze→Bool) (l m:List ze):Bool:=if ((↑l.length:Int) != (↑m.length:Int))=true then true else Qw g c l m
def G50 (g c:ze→ze→Bool):cG [some (.sl .expr),some (.sl .expr),none]:=fun x h=>match x,h with
 | (l,m,.clo (.func 128) [] [],_),[]=>.chk (An g c l m) (.ok (.bool (Qx g l m),[]))
 | _,_=>.err
def F50 (g c:ze→ze→Bool):zF:=zU [some (.sl .expr),some (.sl .expr),none] (G50 g c)

theorem Reach.weaken {E:bx} {C:cI} {fn:FuncId} {todo:List Item} {st:St} {Q Q':AV→List AO→Prop} (h:Reach E C fn todo st Q) (hq:∀ r h,Q r h→∃ r',Q' r' h∧∀ w U ρ v,Rv w U ρ r v→Rv w U ρ r' v):Reach E C fn todo st Q':=by
 intro b cs a w U ρ h1 h2 hc hW
 obtain ⟨e,w',fr,⟨v,r,h',U',ρ',he,hq1,hrv,hrest⟩,hcm⟩:=h b cs a w U ρ h1 h2 hc hW
 obtain ⟨r',hq2,hrr⟩:=hq r h' hq1
 exact ⟨e,w',fr,⟨v,r',h',U',ρ',he,hq2,hrr _ _ _ _ hrv,hrest⟩,hcm⟩

theorem zbd {g c:ze→ze→Bool} (hg:FK 128 (zG [.expr,.expr] [.bool] (fun x=>c x.1 x.2.1) (fun x=>(g x.1 x.2.1,())))):FK 196 (F50 g c):=by
 refine bC (E:=Jo g c) (QX g c) fun x h0 res hx C hC=>?_
 unfold G50 at hx
 split at hx
 ·rename_i l m u
  simp only [Tr.val] at hx
  split at hx
  ·rename_i hc
   simp only [ap] at hx
   subst hx
   refine Reach.len 0 .expr l rfl fun hl=>?_
   refine Reach.weaken (Q:=fun r h=>(r,h)=(.kb (Qx g l m),[])) ?_ ?_
   ·refine zk (n0:=0) (vp hg) (QX g c) hC (zhp g c l m) ?_
    unfold An at hc
    unfold Qx
    refine kw (fun h=>?_) (fun h=>?_)
    ·rw [if_pos h]; rfl
    ·rw [if_neg (kW h)] at hc ⊢
     have:(l.length:Int)=m.length:=by simpa using h
     have:l.length=m.length:=by omega
     exact zgx hg hC l m this hl _ 0 rfl (aV _) hc
   ·rintro r h hq
    cases hq
    refine ⟨_,rfl,fun w U ρ v hv=>?_⟩
    cases hv
    exact .bool _
  ·simp at hx
 ·simp at hx

noncomputable def Qr (g c:ze→ze→Bool):bx:=DA.add 196 (F50 g c)
theorem Lr {g c:ze→ze→Bool} (hg:FK 128 (zG [.expr,.expr] [.bool] (fun x=>c x.1 x.2.1) (fun x=>(g x.1 x.2.1,())))):zl (Qr g c):=nF.add (zbd hg)
def eqV (a b:V):Bool:=a.1==b.1&&(a.2.1==b.2.1&&(a.2.2==b.2.2&&true))
def Oy (g:ze→ze→Bool) (a b:ze):Bool:=bif a.op==b.op then bif eqV a.v b.v then bif a.s==b.s then Qx g a.l b.l else false else false else false
def Cu (g c:ze→ze→Bool) (a b:ze):Bool:=bif a.op==b.op then bif eqV a.v b.v then bif a.s==b.s then An g c a.l b.l else true else true else true
theorem Nw (g c:ze→ze→Bool):zA (Qr g c).P 128 Tryz.f128 2:=aS (by kernel_rfl)
theorem zg6 (g c:ze→ze→Bool) (l:ze) (m:ze):rn (Qr g c) 0 (fun _=>{}) Tryz.f128 [zz Sh.expr l,zz Sh.expr m] []=Tr.chk (Cu g c l m) (Tr.ok (zt.ret (AV.bool (Oy g l m)) [])):=by kernel_rfl
theorem UY {g c:ze→ze→Bool} (hg:FK 128 (zG [.expr,.expr] [.bool] (fun x=>c x.1 x.2.1) (fun x=>(g x.1 x.2.1,())))):FK 128 (zG [.expr,.expr] [.bool] (fun x=>Cu g c x.1 x.2.1) (fun x=>(Oy g x.1 x.2.1,()))):=by
 refine zR (E:=Qr g c) (Nw g c) fun x hx C hC=>?_
 refine zk (n0:=0) (Lr hg) (Nw g c) (fun id _=>hC id) (zg6 g c x.1 x.2.1) ?_
 exact de hx rfl
mutual
def tc:Nat→ze→ze→Bool
 | 0=>fun _ _=>false
 | n+1=>Oy (tc n)
def lR:Nat→ze→ze→Bool
 | 0=>fun _ _=>false
 | n+1=>Cu (tc n) (lR n)
end
theorem KE:∀ n,FK 128 (zG [.expr,.expr] [.bool] (fun x=>lR n x.1 x.2.1) (fun x=>(tc n x.1 x.2.1,())))
 | 0=>dz ⟨Tryz.f128,(Nw (fun _ _=>false) (fun _ _=>false)).1,(Nw (fun _ _=>false) (fun _ _=>false)).2.1,(Nw (fun _ _=>false) (fun _ _=>false)).2.2.1⟩ (fun _=>rfl)
 | n+1=>UY (KE n)
def F29:zF:=zG [.expr,.expr] [.bool] (fun x=>lR 16 x.1 x.2.1) (fun x=>(tc 16 x.1 x.2.1,()))
theorem zaU:FK 128 F29:=KE 16

noncomputable def Hz:=DA.addL [(53,F15),(128,F29)]
theorem yT:zl Hz:=nF.addL <| fc zaK <| fc zaU jn
end Cad
