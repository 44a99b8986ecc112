/- The library's functions. Functions from plain data to plain data, where a guard holds; recursion. Values: what may be. Values: what they say. Loops; values in order. -/
import Derived.Test.YtiefilkilbdpgaaGreatDoorS07
import Derived.Test.YtiefilkilbdpgaaGreatDoorS08
import Derived.Test.YtiefilkilbdpgaaGreatDoorS06
namespace Cad
open Go Go.Proofs Go.RowKit Go.Lib
open Int (toNat)
open List (length)

theorem gu.below {w w':World} (h:Below w.heap.size w w'):gu w w':=
 ⟨h.size,h.os,h.output,h.tape,fun a ha=>Cu (h.block a.block ha)⟩

theorem fA {E:bt} {C:cH} {w w':World} {U:Nat→Prop} {r:AV} {v:Value} {h0:List AO} {ρ:Nat→Option Value} (hH:gY C w U ρ (fun j=>h0.getD j .dead)) (hnew:∀ id,h0.length≤id→ρ id=none)
  (hr0:∀ id v,C.ρ0 id=some v→ρ id=some v) (hW:Wd E.gl C w U) (hb:Below w.heap.size w w') (hr:Rv w' U ρ r v):J7 E C (fun r' h=>(r',h)=(r,h0)) (.returned v) w':=by
 have hk:∀ b,b < w.heap.size→w'.heap[b]?=w.heap[b]?:=hb.block
 refine ⟨v,r,h0,U,ρ,rfl,rfl,hr,⟨fun id=>?_,hH.inj,hH.blk⟩,hnew,hr0,⟨hW.ext.trans (gu.below hb),fun b hb' hn=>?_,fun b hu=>lQ (hW.ub b hu) hb.size,hW.u1,hW.u2,fun g=>?_⟩⟩
 ·exact (hH.ob id).mono hb.size (fun b hb' _=>hk b hb') (fun _ _ h=>h) (fun _ _ h=>h) (fun b ho=>⟨hk b ((hH.ob id).inU ho).2,((hH.ob id).inU ho).1⟩)
 ·rw [hk b (lQ hb' hW.ext.sz)]; exact hW.same b hb' hn
 ·exact (hW.gl g).mono hb.size (fun b hb' _=>hk b hb') (fun _ _ h=>h) (fun _ _ h=>h)

noncomputable def VE:bt:=IL.aut 172 Tryz.f172 1
theorem zd3:zA IL.P 172 Tryz.f172 1:=aQ (by kernel_rfl)
theorem KU:zl VE:=iI C1 zd3

def My (c:Int):Bool:=bif decide (c < 32) then true else decide (c > 126)

theorem zgs (c:Int):((zU (List.replicate 1 none) (bZ IL Tryz.f172 (List.replicate 1 none))) [.int .i32 c] (fun _=>.dead) 0).val=some { val:=.bool (My c) }:=by kernel_rfl

theorem XL (w:World) (U:Nat→Prop) (hgl:xp IL.gl w U) (hub:∀ b,U b→b < w.heap.size):PredGrows Tryz.prog 172 #[] (fun r=>My r) w:=by
 intro W x hx hB
 have hF:FK 172 (zU (List.replicate 1 none) (bZ IL Tryz.f172 (List.replicate 1 none))):=au _ C1 zd3
 have hr:cK W U (fun _=>none) [.int .i32 (x:Int)] [.int .i32 (x:Int)]:=by
  refine ⟨rfl,fun j c v hc hv=>?_⟩
  cases j with
  | zero=>
   simp at hc hv; subst hc; subst hv
   refine .int _ _ ⟨?_,?_⟩
   ·show (-2147483648:Int)≤x; omega
   ·show (x:Int)≤2147483647; omega
  | succ j=>simp at hc
 have:=(hF.calls W U (fun _=>none) (fun _=>.dead) 0 [.int .i32 (x:Int)] [.int .i32 (x:Int)] _ [] (zgs x) hr (fun b hb=>lQ (hub b hb) hB.size) (fun g=>(hgl g).mono hB.size (fun b hb _=>hB.block b hb) (fun _ _ h=>h) (fun _ _ h=>h)) ⟨by simp,by simp⟩ (by simp [AV.idsL,AV.ids]) (by simp) (by simp)).1
 refine this.mono ?_
 rintro e w' ⟨v,U',ρ',rfl,hef⟩
 have hv:=hef.val
 cases hv
 exact ⟨rfl,⟨hef.ext.os,hef.ext.tape,hef.ext.out,hef.ext.sz,fun b hb=>hef.same b hb (by simp)⟩⟩

def y9 (s:zo):Int:=Lib.idxFunc (fun r=>My r) true ⟨s.toArray⟩

def G36:cF [some .str,none]:=fun x h=>match x,h with
 | (s,.clo (.func 172) [] [],_),[]=>.ok (.int .i64 (y9 s),[])
 | _,_=>.err

theorem zf8:Go.Proofs.Enters Tryz.prog 172:=by
  cases hb:Tryz.f172.body with
  | none => have:Tryz.f172.body.isNone=false:=by kernel_rfl
            rw [hb] at this; cases this
  | some c=>exact Go.Proofs.enters_of (fn:=Tryz.f172) (by kernel_rfl) (by kernel_rfl) hb

theorem zag:FK 173 (zU [some .str,none] G36):=by
 refine fF (E:=VE) ⟨Tryz.f173,by kernel_rfl,by kernel_rfl,by kernel_rfl⟩ fun x h0 res hx=>?_
 unfold G36 at hx
 split at hx
 ·rename_i s u
  simp only [Tr.val_ok,ao] at hx
  subst hx
  intro C w U ρ vals _ hr hH hnew hr0 hW
  have hl:=hr.len
  match vals,hl,hr with
  | [v1,v2],_,hr=>
   have h1:=hr.rv 0 (.str s) v1 rfl rfl
   have h2:=hr.rv 1 (.clo (.func 172) [] []) v2 rfl rfl
   cases h1 with
   | str _ hs=>
   cases h2 with
   | clo _ _ _ vf vc hf hc _ _=>
   have hf':vf=[]:=Ct hf.symm
   have hc':vc=[]:=Ct hc.symm
   subst hf'; subst hc'
   have:=Tryz.strings_IndexFunc_grows 172 #[] zf8 (fun r=>My r) ⟨s.toArray⟩ w (XL w U hW.gl hW.ub)
   refine this.mono ?_
   rintro e w' ⟨rfl,hb⟩
   refine fA hH hnew hr0 hW hb (.int _ _ ?_)
   have hrg:=Lib.idxFunc_range (fun r=>My r) true ⟨s.toArray⟩
   have hsz:(⟨s.toArray⟩:ByteArray).size=s.length:=by simp [ByteArray.size]
   have hm:zC=9223372036854775807:=rfl
   rw [hsz] at hrg
   change y9 s=-1∨(0≤y9 s∧y9 s < s.length) at hrg
   refine ⟨?_,?_⟩
   ·show (-9223372036854775808:Int)≤_; omega
   ·show _≤(9223372036854775807:Int); omega
 ·simp at hx

noncomputable def pF:bt:=VE.add 173 (zU [some .str,none] G36)
theorem ja:zl pF:=KU.add zag
open Go

def gX (ks outs:List Sh) (c:zw (ks.map some)→Bool) (g:zw (ks.map some)→zw (outs.map some)):cF (ks.map some):=fun x h=>match h with
 | []=>.chk (c x) (.ok (sB outs (g x),[]))
 | _=>.err

def zG (ks outs:List Sh) (c:zw (ks.map some)→Bool) (g:zw (ks.map some)→zw (outs.map some)):zF:=zU (ks.map some) (gX ks outs c g)

theorem zQ {P:Program} {gl:Nat→AV} {E:bt} {k:FuncId} {f:Func} {ks outs:List Sh} {c:zw (ks.map some)→Bool} {g:zw (ks.map some)→zw (outs.map some)} (hf:zA E.P k f ks.length)
  (h:∀ x,c x=true→∀ C:cH,(∀ id,C.ρ0 id=none)→Reach E C k (aB f) (aq f.ntmps (gz (ks.map some) x) []) (fun r h=>ap h outs r=some (g x))) (qp:E.P=P:=by rfl) (qg:E.gl=gl:=by rfl):mf P gl k (zG ks outs c g):=by
 subst qp qg
 refine bA (by simpa using hf) fun x h0 res hx C hC=>?_
 unfold gX at hx
 split at hx
 ·simp only [Tr.val] at hx
  split at hx
  ·rename_i hc
   simp only [ao] at hx
   subst hx
   exact Reach.plain (fun id=>hC id (by simp)) (h x hc C (fun id=>hC id (by simp)))
  ·simp at hx
 ·simp at hx

theorem Ay {P:Program} {gl:Nat→AV} {k:FuncId} {kinds:List (Option Sh)} {ι:Type} [Nonempty ι] {G:cF kinds} {Gs:ι→cF kinds} (h:∀ i,mf P gl k (zU kinds (Gs i)))
  (hg:∀ x h0 res,(G x h0).val=some res→∃ i,(Gs i x h0).val=some res):mf P gl k (zU kinds G):=by
 refine ⟨(h (Classical.choice inferInstance)).fn,?_⟩
 intro w U ρ hp n args vals f fp hv
 have:∃ i,(zU kinds (Gs i) args hp n).val=some f:=by
  unfold zU at hv ⊢
  split at hv
  ·rename_i ps hps
   simp only at hv ⊢
   split at hv
   ·rename_i hcond
    split at hv
    ·rename_i xs hxs
     simp only [Tr.val_bind,eS] at hv
     obtain ⟨res,h1,h2⟩:=hv
     obtain ⟨i,hi⟩:=hg _ _ _ h1
     exact ⟨i,by simp only [hcond,if_true,Tr.val_bind,eS]; exact ⟨res,hi,h2⟩⟩
    ·simp at hv
   ·simp at hv
  ·simp at hv
 obtain ⟨i,hi⟩:=this
 exact (h i).calls w U ρ hp n args vals f fp hi

def HD (ks outs:List Sh) (g:zw (ks.map some)→zw (outs.map some)):cF (ks.map some):=fun x h=>match h with
 | []=>.ok (sB outs (g x),[])
 | _=>.err

def aw (ks outs:List Sh) (g:zw (ks.map some)→zw (outs.map some)):zF:=zU (ks.map some) (HD ks outs g)

theorem RV {P:Program} {gl:Nat→AV} {k:FuncId} {ks outs:List Sh} {g:zw (ks.map some)→zw (outs.map some)} (h:mf P gl k (zG ks outs (fun _=>true) g)):mf P gl k (aw ks outs g):=by
 refine Ay (ι:=Unit) (Gs:=fun _=>gX ks outs (fun _=>true) g) (fun _=>h) fun x h0 res hv=>⟨(),?_⟩
 unfold HD at hv
 unfold gX
 split at hv
 ·simpa [Tr.val] using hv
 ·simp at hv

theorem zS {P:Program} {gl:Nat→AV} {E:bt} {k:FuncId} {f:Func} {ks outs:List Sh} {g:zw (ks.map some)→zw (outs.map some)} (hf:zA E.P k f ks.length)
  (h:∀ x,∀ C:cH,(∀ id,C.ρ0 id=none)→Reach E C k (aB f) (aq f.ntmps (gz (ks.map some) x) []) (fun r h=>ap h outs r=some (g x))) (qp:E.P=P:=by rfl) (qg:E.gl=gl:=by rfl):mf P gl k (aw ks outs g):=by
 subst qp qg
 exact RV (zQ hf fun x _ C hC=>h x C hC)

def Ha (outs:List Sh):zt→Option (zw (outs.map some))
 | .ret v h=>ap h outs v
 | _=>none

theorem Tr.sat_of_res {E:bt} {C:cH} {fn:FuncId} {outs:List Sh} {y:zw (outs.map some)} {t:Tr zt} (h:t.val.bind (Ha outs)=some y):t.Sat (ix E C fn (fun r h=>ap h outs r=some y)):=by
 rw [eS] at h
 obtain ⟨l,h1,h2⟩:=h
 refine Tr.sat_of_val h1 ?_
 cases l with
 | ret v h=>exact h2
 | head _ _ _=>cases h2
 | fork _ _ _ _=>cases h2

theorem aC {E:bt} {C:cH} {k:FuncId} {f:Func} {outs:List Sh} {y:zw (outs.map some)} {n n0:Nat} (hE:zl E) (hf:zA E.P k f n) (hC:∀ id,n0≤id→C.ρ0 id=none) {keep:Nat→ah} {fuel:Nat}
  {todo:List Item} {st:St} {t:Tr zt} (ht:run E n0 keep f.results.toList fuel todo st=t) (h:t.val.bind (Ha outs)=some y):Reach E C k todo st (fun r h=>ap h outs r=some y):=by
 refine cM hE hf hC keep fuel ?_
 rw [ht]
 exact Tr.sat_of_res h

theorem ze.eta:∀ e:ze,ze.mk e.op e.v e.s e.l=e
 | .mk _ _ _ _=>rfl

structure Co (E E0:bt):Prop where
 p:E.P=E0.P
 g:E.gl=E0.gl

theorem Co.refl (E:bt):Co E E:=⟨rfl,rfl⟩
theorem Co.add {E E0:bt} (h:Co E E0) (k:FuncId) (F:zF):Co (E.add k F) E0:=⟨h.p,h.g⟩
abbrev zE (e:ze):ze:=.mk e.op e.v e.s e.l
theorem zp (e:ze):zE e=e:=ze.eta e
open Go Go.Proofs
abbrev TS:=Sem Sh.str
abbrev LX:=List (Sem Sh.expr)
abbrev LC:=List (Sem zi)
abbrev LS:=List (Sem Sh.str)
abbrev LV:=List (Sem zf)
abbrev LI:=List (Sem zg)
abbrev LF:=List (Sem zq)

abbrev V:=Sem zf

def gr (x0:Sem zf):Sem Sh.bool:=if (x0.1==0)=true then if (x0.2.1 != 0)=true then false else x0.2.2==[] else if (x0.1==1)=true then x0.2.2==[] else if (x0.1==2)=true then bif x0.2.1==0 then bif decide ((↑(length x0.2.2):Int)≤40) then decide (y9 x0.2.2 < 0) else false else false else if (x0.1==3)=true then bif x0.2.1==0 then x0.2.2==[] else bif x0.2.1==1 then x0.2.2==[] else false else false
theorem zdW:zA pF.P 94 Tryz.f94 1:=aQ (by kernel_rfl)
theorem zgi (x0:Sem zf):rn pF 0 (fun _=>{ }) Tryz.f94 [zz zf x0] []=Tr.br (x0.1==0) (Tr.br (x0.2.1 != 0) (Tr.ok (zt.ret (AV.kb false) [])) (Tr.ok (zt.ret (AV.bool (x0.2.2==[])) []))) (Tr.br (x0.1==1) (Tr.ok (zt.ret (AV.bool (x0.2.2==[])) [])) (Tr.br (x0.1==2) (Tr.ok (zt.ret (AV.bool (bif x0.2.1==0 then bif decide ((↑(length x0.2.2):Int)≤40) then decide (y9 x0.2.2 < 0) else false else false)) [])) (Tr.br (x0.1==3) (Tr.ok (zt.ret (AV.bool (bif x0.2.1==0 then x0.2.2==[] else bif x0.2.1==1 then x0.2.2==[] else false)) [])) (Tr.ok (zt.ret (AV.kb false) []))))):=by kernel_rfl
def F21:zF:=aw [zf] [Sh.bool] fun x=>(gr x.1,())
theorem Z6:FK 94 F21:=by
 refine zS zdW fun x C hC=>?_
 refine aC ja zdW (fun id _=>hC id) (zgi x.1) ?_
 simp only [Tr.val,gr]
 repeat' split
 all_goals rfl

def aK (x0:Sem zg):Sem zf:=if (x0==0)=true then (0,0,[]) else (3,IntKind.i64.wrap (x0 - 1),[])
theorem zeo:zA pF.P 206 Tryz.f206 1:=aQ (by kernel_rfl)
theorem zgL (x0:Sem zg):rn pF 0 (fun _=>{ }) Tryz.f206 [zz zg x0] []=Tr.br (x0==0) (Tr.ok (zt.ret (AV.agg [ai 0,ai 0,AV.str []]) [])) (Tr.ok (zt.ret (AV.agg [ai 3,ai (IntKind.i64.wrap (x0 - 1)),AV.str []]) [])):=by kernel_rfl
def F57:zF:=aw [zg] [zf] fun x=>(aK x.1,())
theorem zaC:FK 206 F57:=by
 refine zS zeo fun x C hC=>?_
 refine aC ja zeo (fun id _=>hC id) (zgL x.1) ?_
 simp only [Tr.val,aK]
 repeat' split
 all_goals rfl

noncomputable def Yl:zF:=zU (List.replicate 1 none) (bZ pF Tryz.f174 (List.replicate 1 none))
theorem Ti:FK 174 Yl:=au _ ja (aQ (by kernel_rfl))

noncomputable def Ym:zF:=zU (List.replicate 1 none) (bZ pF Tryz.f175 (List.replicate 1 none))
theorem Tj:FK 175 Ym:=au _ ja (aQ (by kernel_rfl))

noncomputable def Yn:zF:=zU (List.replicate 1 none) (bZ pF Tryz.f176 (List.replicate 1 none))
theorem Tk:FK 176 Yn:=au _ ja (aQ (by kernel_rfl))

noncomputable def jQ:=pF.addL [(94,F21),(206,F57),(174,Yl),(175,Ym),(176,Yn)]
theorem gC:zl jQ:=ja.addL <| fc Z6 <| fc zaC <| fc Ti <| fc Tj <| fc Tk jf

def bF (x0:Sem zf):Sem zf:=if (!gr x0)=true then (0,0,[]) else x0
theorem zes:zA jQ.P 95 Tryz.f95 1:=aQ (by kernel_rfl)
theorem zgP (x0:Sem zf):rn jQ 0 (fun _=>{ }) Tryz.f95 [zz zf x0] []=Tr.br (!gr x0) (Tr.ok (zt.ret (AV.agg [ai 0,ai 0,AV.str []]) [])) (Tr.ok (zt.ret (AV.agg [ai x0.1,ai x0.2.1,AV.str x0.2.2]) [])):=by kernel_rfl
def F61:zF:=aw [zf] [zf] fun x=>(bF x.1,())
theorem zaI:FK 95 F61:=by
 refine zS zes fun x C hC=>?_
 refine aC gC zes (fun id _=>hC id) (zgP x.1) ?_
 simp only [Tr.val,bF]
 repeat' split
 all_goals rfl

def eu (x0:Sem zf):Sem zg:=if (bif x0.1 != 3 then true else !gr x0)=true then 0 else IntKind.i64.wrap (1+x0.2.1)
theorem zen:zA jQ.P 205 Tryz.f205 1:=aQ (by kernel_rfl)
theorem zgK (x0:Sem zf):rn jQ 0 (fun _=>{ }) Tryz.f205 [zz zf x0] []=Tr.br (bif x0.1 != 3 then true else !gr x0) (Tr.ok (zt.ret (ai 0) [])) (Tr.ok (zt.ret (ai (IntKind.i64.wrap (1+x0.2.1))) [])):=by kernel_rfl
def F56:zF:=aw [zf] [zg] fun x=>(eu x.1,())
theorem zaB:FK 205 F56:=by
 refine zS zen fun x C hC=>?_
 refine aC gC zen (fun id _=>hC id) (zgK x.1) ?_
 simp only [Tr.val,eu]
 repeat' split
 all_goals rfl

def dm (x0:Sem Sh.bool):Sem zf:=if x0=true then aK 2 else aK 1
theorem zeq:zA jQ.P 208 Tryz.f208 1:=aQ (by kernel_rfl)
theorem zgN (x0:Sem Sh.bool):rn jQ 0 (fun _=>{ }) Tryz.f208 [zz Sh.bool x0] []=Tr.br x0 (Tr.ok (zt.ret (AV.agg [ai (aK 2).1,ai (aK 2).2.1,AV.str (aK 2).2.2]) [])) (Tr.ok (zt.ret (AV.agg [ai (aK 1).1,ai (aK 1).2.1,AV.str (aK 1).2.2]) [])):=by kernel_rfl
def F59:zF:=aw [Sh.bool] [zf] fun x=>(dm x.1,())
theorem zaE:FK 208 F59:=by
 refine zS zeq fun x C hC=>?_
 refine aC gC zeq (fun id _=>hC id) (zgN x.1) ?_
 simp only [Tr.val,dm]
 repeat' split
 all_goals rfl

def Iq (x0:Sem zg) (x1:Sem zg):Sem zg:=if (x0 != x0)=true then if (x1 != x1)=true then 0 else -1 else if (x1 != x1)=true then 1 else if decide (x0 < x1)=true then -1 else if decide (x0 > x1)=true then 1 else 0
theorem zeu:zA jQ.P 97 Tryz.f97 2:=aQ (by kernel_rfl)
theorem zgT (x0:Sem zg) (x1:Sem zg):rn jQ 0 (fun _=>{ }) Tryz.f97 [zz zg x0,zz zg x1] []=Tr.br (x0 != x0) (Tr.br (x1 != x1) (Tr.ok (zt.ret (ai 0) [])) (Tr.ok (zt.ret (ai (-1)) []))) (Tr.br (x1 != x1) (Tr.ok (zt.ret (ai 1) [])) (Tr.br (decide (x0 < x1)) (Tr.ok (zt.ret (ai (-1)) [])) (Tr.br (decide (x0 > x1)) (Tr.ok (zt.ret (ai 1) [])) (Tr.ok (zt.ret (ai 0) []))))):=by kernel_rfl
def F71:zF:=aw [zg,zg] [zg] fun x=>(Iq x.1 x.2.1,())
theorem zaQ:FK 97 F71:=by
 refine zS zeu fun x C hC=>?_
 refine aC gC zeu (fun id _=>hC id) (zgT x.1 x.2.1) ?_
 simp only [Tr.val,Iq]
 repeat' split
 all_goals rfl

def yj (x0:Sem zg) (x1:Sem zg):Sem zg:=if (x0 != x0)=true then if (x1 != x1)=true then 0 else -1 else if (x1 != x1)=true then 1 else if decide (x0 < x1)=true then -1 else if decide (x0 > x1)=true then 1 else 0
theorem zev:zA jQ.P 98 Tryz.f98 2:=aQ (by kernel_rfl)
theorem zgU (x0:Sem zg) (x1:Sem zg):rn jQ 0 (fun _=>{ }) Tryz.f98 [zz zg x0,zz zg x1] []=Tr.br (x0 != x0) (Tr.br (x1 != x1) (Tr.ok (zt.ret (ai 0) [])) (Tr.ok (zt.ret (ai (-1)) []))) (Tr.br (x1 != x1) (Tr.ok (zt.ret (ai 1) [])) (Tr.br (decide (x0 < x1)) (Tr.ok (zt.ret (ai (-1)) [])) (Tr.br (decide (x0 > x1)) (Tr.ok (zt.ret (ai 1) [])) (Tr.ok (zt.ret (ai 0) []))))):=by kernel_rfl
def F72:zF:=aw [zg,zg] [zg] fun x=>(yj x.1 x.2.1,())
theorem zaR:FK 98 F72:=by
 refine zS zev fun x C hC=>?_
 refine aC gC zev (fun id _=>hC id) (zgU x.1 x.2.1) ?_
 simp only [Tr.val,yj]
 repeat' split
 all_goals rfl

def AG (x0:Sem Sh.str) (x1:Sem Sh.str):Sem zg:=if (!x0==x0)=true then if (!x1==x1)=true then 0 else -1 else if (!x1==x1)=true then 1 else if Op.bytesLess x0 x1=true then -1 else if (!(Op.bytesLess x0 x1||x0==x1))=true then 1 else 0
theorem zew:zA jQ.P 99 Tryz.f99 2:=aQ (by kernel_rfl)
theorem zgV (x0:Sem Sh.str) (x1:Sem Sh.str):rn jQ 0 (fun _=>{ }) Tryz.f99 [zz Sh.str x0,zz Sh.str x1] []=Tr.br (!x0==x0) (Tr.br (!x1==x1) (Tr.ok (zt.ret (ai 0) [])) (Tr.ok (zt.ret (ai (-1)) []))) (Tr.br (!x1==x1) (Tr.ok (zt.ret (ai 1) [])) (Tr.br (Op.bytesLess x0 x1) (Tr.ok (zt.ret (ai (-1)) [])) (Tr.br (!(Op.bytesLess x0 x1||x0==x1)) (Tr.ok (zt.ret (ai 1) [])) (Tr.ok (zt.ret (ai 0) []))))):=by kernel_rfl
def F73:zF:=aw [Sh.str,Sh.str] [zg] fun x=>(AG x.1 x.2.1,())
theorem zaS:FK 99 F73:=by
 refine zS zew fun x C hC=>?_
 refine aC gC zew (fun id _=>hC id) (zgV x.1 x.2.1) ?_
 simp only [Tr.val,AG]
 repeat' split
 all_goals rfl

noncomputable def iF:=jQ.addL [(95,F61),(205,F56),(208,F59),(97,F71),(98,F72),(99,F73)]
theorem ea:zl iF:=gC.addL <| fc zaI <| fc zaB <| fc zaE <| fc zaQ <| fc zaR <| fc zaS jf

theorem wD {E:bt} {C:cH} {k:FuncId} {f:Func} {Q:AV→List AO→Prop} {n n0:Nat} (hE:zl E) (hf:zA E.P k f n) (hC:∀ id,n0≤id→C.ρ0 id=none) {keep:Nat→ah} {fuel:Nat}
  {todo:List Item} {st:St} {t:Tr zt} {l:zt} (ht:run E n0 keep f.results.toList fuel todo st=t) (h:t.val=some l) (hl:ix E C k Q l):Reach E C k todo st Q:=
 cM hE hf hC keep fuel (by rw [ht]; exact Tr.sat_of_val h hl)

def eZ {α:Type} (Φ:α→Prop):Option α→Prop
 | some a=>Φ a
 | none=>False

theorem zk {E:bt} {C:cH} {k:FuncId} {f:Func} {Q:AV→List AO→Prop} {n n0:Nat} (hE:zl E) (hf:zA E.P k f n) (hC:∀ id,n0≤id→C.ρ0 id=none) {keep:Nat→ah} {fuel:Nat}
  {todo:List Item} {st:St} {t:Tr zt} (ht:run E n0 keep f.results.toList fuel todo st=t) (h:eZ (ix E C k Q) t.val):Reach E C k todo st Q:=by
 cases hv:t.val with
 | none=>rw [hv] at h; exact h.elim
 | some l=>rw [hv] at h; exact wD hE hf hC ht hv h

def Dj {α β R:Type} (f:β→Nat→α→β ⊕ R) (fin:β→R):List α→Nat→β→R
 | [],_,b=>fin b
 | x::r,i,b=>match f b i x with
  | .inl b'=>Dj f fin r (i+1) b'
  | .inr y=>y

def Pg {E:bt} {C:cH} {k:FuncId} {K:List Item} {β R:Type} (st:β→Nat→St) (Q:R→AV→List AO→Prop) (b:β) (i:Nat):β ⊕ R→Prop
 | .inl b'=>∀ q,Reach E C k K (st b' (i+1)) q→Reach E C k K (st b i) q
 | .inr y=>Reach E C k K (st b i) (Q y)

theorem wE {E:bt} {C:cH} {k:FuncId} {K:List Item} {α β R:Type} (l:List α) (st:β→Nat→St) (f:β→Nat→α→β ⊕ R) (fin:β→R) (Q:R→AV→List AO→Prop) (I:β→Nat→Prop)
  (hstep:∀ b i (hi:i < l.length),I b i→Pg (E:=E) (C:=C) (k:=k) (K:=K) st Q b i (f b i l[i])∧∀ b',f b i l[i]=.inl b'→I b' (i+1))
  (hend:∀ b,I b l.length→Reach E C k K (st b l.length) (Q (fin b))):∀ (m i:Nat) (b:β),l.length - i=m→i≤l.length→I b i→Reach E C k K (st b i) (Q (Dj f fin (l.drop i) i b))
 | 0,i,b,hm,hi,hI=>by
  have:i=l.length:=by omega
  subst this
  rw [cL]
  exact hend b hI
 | m+1,i,b,hm,hi,hI=>by
  have hlt:i < l.length:=by omega
  rw [dw hlt]
  obtain ⟨h1,h2⟩:=hstep b i hlt hI
  simp only [Dj]
  cases hf:f b i l[i] with
  | inl b'=>
   rw [hf] at h1
   exact h1 _ (wE l st f fin Q I hstep hend m (i+1) b' (by omega) (by omega) (h2 b' hf))
  | inr y=>
   rw [hf] at h1
   exact h1

theorem zT {i n:Nat} (h:i < n):decide ((i:Int) < (n:Int))=true:=by simpa using h
theorem zX (n:Nat):decide ((n:Int) < (n:Int))=false:=by simp
theorem zB {i n:Nat} (h:i < n):zI (i:Int) n=true:=by simp [zI,h]

def S6:List Int→Int
 | []=>0
 | x::r=>if x != 0 then x else S6 r

abbrev zdD:Nat→ah:=fun j=>if j=3 then { slots:=[3,6,7,8] } else { }
abbrev HU (i3:Int) (l6:List (Sem zg)) (i7:Int) (i8:Int):St:={ tmps:=(tm 18 [(3,ai i3),(6,AV.sl (Sh.int IntKind.i64) l6),(7,ai i7),(8,ai i8)]),heap:=[] }
theorem MN:zA iF.P 96 Tryz.f96 1:=aQ (by kernel_rfl)
theorem zgS (k:List (Sem zg)):rn iF 0 zdD Tryz.f96 [AV.sl zg k] []=Tr.ok (zt.head 3 (zy Tryz.f96 3) (HU 0 k (↑k.length) 0)):=by kernel_rfl
theorem FA (i3:Int) (l6:List (Sem zg)) (i7:Int) (i8:Int):rh iF 0 zdD Tryz.f96 3 (HU i3 l6 i7 i8)=Tr.br (decide (i8 < i7)) (Tr.chk (zI i8 l6.length) (Tr.br (l6.getD i8.toNat (zj (Sh.int IntKind.i64)) != i3) (Tr.ok (zt.ret (ai (l6.getD i8.toNat (zj (Sh.int IntKind.i64)))) [])) (Tr.ok (zt.head 3 (zy Tryz.f96 3) (HU i3 l6 i7 (IntKind.i64.wrap (i8+1))))))) (Tr.ok (zt.ret (ai i3) [])):=by kernel_rfl

def f70:Unit→Nat→Int→Unit ⊕ Int:=fun _ _ x=>if x != 0 then .inr x else .inl ()
theorem Lj:∀ (l:List Int) (i:Nat),Dj f70 (fun _=>0) l i ()=S6 l
 | [],_=>rfl
 | x::r,i=>by
  simp only [Dj,f70,S6]
  split
  ·rename_i h; split at h <;> simp_all [Lj r (i+1)]
  ·rename_i h; split at h <;> simp_all

def F70:zF:=aw [.sl zg] [zg] fun x=>(S6 x.1,())
theorem zaP:FK 96 F70:=by
 refine zS MN fun x C hC=>?_
 obtain ⟨l,u⟩:=x
 refine Reach.len 0 zg l rfl fun hl=>?_
 refine wD ea MN (fun id _=>hC id) (zgS l) rfl ?_
 have:=wE (E:=iF) (C:=C) (k:=96) (K:=zy Tryz.f96 3) l (fun (_:Unit) i=>HU 0 l l.length i) f70 (fun _=>(0:Int)) (fun y r h=>ap h [zg] r=some (y,())) (fun _ _=>True)
  (fun b i hi _=>⟨by
   unfold f70
   split
   ·rename_i h
    refine zk ea MN (fun id _=>hC id) (FA _ _ _ _) ?_
    simp only [Tr.val,zT hi,zB hi,ac l _ hi,h,if_true]
    rfl
   ·rename_i h
    intro q hq
    refine zk ea MN (fun id _=>hC id) (FA _ _ _ _) ?_
    simp only [Tr.val,zT hi,zB hi,ac l _ hi,h,if_true,zD i (by omega)]
    exact hq,fun _ _=>trivial⟩)
  (fun b _=>by
   refine zk ea MN (fun id _=>hC id) (FA _ _ _ _) ?_
   simp only [Tr.val,zX]
   rfl) _ 0 () rfl (by omega) trivial
 rw [Lj] at this
 exact this

def kh (x0:Sem zf) (x1:Sem zf):Sem Sh.bool:=bif (bF x0).1 != 0 then (bF x0).1==(bF x1).1 else false
theorem zep:zA iF.P 207 Tryz.f207 2:=aQ (by kernel_rfl)
theorem zgM (x0:Sem zf) (x1:Sem zf):rn iF 0 (fun _=>{ }) Tryz.f207 [zz zf x0,zz zf x1] []=Tr.ok (zt.ret (AV.bool (bif (bF x0).1 != 0 then (bF x0).1==(bF x1).1 else false)) []):=by kernel_rfl
def F58:zF:=aw [zf,zf] [Sh.bool] fun x=>(kh x.1 x.2.1,())
theorem zaD:FK 207 F58:=by
 refine zS zep fun x C hC=>?_
 refine aC ea zep (fun id _=>hC id) (zgM x.1 x.2.1) ?_
 simp only [Tr.val,kh]
 repeat' split
 all_goals rfl

def QH (x0:Sem zf) (x1:Sem zf):Sem zf:=if (bif eu x0==1 then true else eu x1==1)=true then aK 1 else if (bif eu x0==2 then eu x1==2 else false)=true then aK 2 else aK 0
theorem zd5:zA iF.P 138 Tryz.f138 2:=aQ (by kernel_rfl)
theorem zgu (x0:Sem zf) (x1:Sem zf):rn iF 0 (fun _=>{ }) Tryz.f138 [zz zf x0,zz zf x1] []=Tr.br (bif eu x0==1 then true else eu x1==1) (Tr.ok (zt.ret (AV.agg [ai (aK 1).1,ai (aK 1).2.1,AV.str (aK 1).2.2]) [])) (Tr.br (bif eu x0==2 then eu x1==2 else false) (Tr.ok (zt.ret (AV.agg [ai (aK 2).1,ai (aK 2).2.1,AV.str (aK 2).2.2]) [])) (Tr.ok (zt.ret (AV.agg [ai (aK 0).1,ai (aK 0).2.1,AV.str (aK 0).2.2]) []))):=by kernel_rfl
def F38:zF:=aw [zf,zf] [zf] fun x=>(QH x.1 x.2.1,())
theorem zai:FK 138 F38:=by
 refine zS zd5 fun x C hC=>?_
 refine aC ea zd5 (fun id _=>hC id) (zgu x.1 x.2.1) ?_
 simp only [Tr.val,QH]
 repeat' split
 all_goals rfl

def vOr (x0:Sem zf) (x1:Sem zf):Sem zf:=if (bif eu x0==2 then true else eu x1==2)=true then aK 2 else if (bif eu x0==1 then eu x1==1 else false)=true then aK 1 else aK 0
theorem zd6:zA iF.P 139 Tryz.f139 2:=aQ (by kernel_rfl)
theorem zgv (x0:Sem zf) (x1:Sem zf):rn iF 0 (fun _=>{ }) Tryz.f139 [zz zf x0,zz zf x1] []=Tr.br (bif eu x0==2 then true else eu x1==2) (Tr.ok (zt.ret (AV.agg [ai (aK 2).1,ai (aK 2).2.1,AV.str (aK 2).2.2]) [])) (Tr.br (bif eu x0==1 then eu x1==1 else false) (Tr.ok (zt.ret (AV.agg [ai (aK 1).1,ai (aK 1).2.1,AV.str (aK 1).2.2]) [])) (Tr.ok (zt.ret (AV.agg [ai (aK 0).1,ai (aK 0).2.1,AV.str (aK 0).2.2]) []))):=by kernel_rfl
def F39:zF:=aw [zf,zf] [zf] fun x=>(vOr x.1 x.2.1,())
theorem zaj:FK 139 F39:=by
 refine zS zd6 fun x C hC=>?_
 refine aC ea zd6 (fun id _=>hC id) (zgv x.1 x.2.1) ?_
 simp only [Tr.val,vOr]
 repeat' split
 all_goals rfl

def JH (x0:Sem zf):Sem zf:=if (eu x0==2)=true then aK 1 else if (eu x0==1)=true then aK 2 else aK 0
theorem zd8:zA iF.P 141 Tryz.f141 1:=aQ (by kernel_rfl)
theorem zgx (x0:Sem zf):rn iF 0 (fun _=>{ }) Tryz.f141 [zz zf x0] []=Tr.br (eu x0==2) (Tr.ok (zt.ret (AV.agg [ai (aK 1).1,ai (aK 1).2.1,AV.str (aK 1).2.2]) [])) (Tr.br (eu x0==1) (Tr.ok (zt.ret (AV.agg [ai (aK 2).1,ai (aK 2).2.1,AV.str (aK 2).2.2]) [])) (Tr.ok (zt.ret (AV.agg [ai (aK 0).1,ai (aK 0).2.1,AV.str (aK 0).2.2]) []))):=by kernel_rfl
def F41:zF:=aw [zf] [zf] fun x=>(JH x.1,())
theorem zam:FK 141 F41:=by
 refine zS zd8 fun x C hC=>?_
 refine aC ea zd8 (fun id _=>hC id) (zgx x.1) ?_
 simp only [Tr.val,JH]
 repeat' split
 all_goals rfl

def nT (x0:Sem zf):Sem zf:=dm ((bF x0).1==0)
theorem zef:zA iF.P 147 Tryz.f147 1:=aQ (by kernel_rfl)
theorem zgD (x0:Sem zf):rn iF 0 (fun _=>{ }) Tryz.f147 [zz zf x0] []=Tr.ok (zt.ret (AV.agg [ai (dm ((bF x0).1==0)).1,ai (dm ((bF x0).1==0)).2.1,AV.str (dm ((bF x0).1==0)).2.2]) []):=by kernel_rfl
def F47:zF:=aw [zf] [zf] fun x=>(nT x.1,())
theorem zas:FK 147 F47:=by
 refine zS zef fun x C hC=>?_
 refine aC ea zef (fun id _=>hC id) (zgD x.1) ?_
 simp only [Tr.val,nT]
 repeat' split
 all_goals rfl

noncomputable def jR:=iF.addL [(96,F70),(207,F58),(138,F38),(139,F39),(141,F41),(147,F47)]
theorem gD:zl jR:=ea.addL <| fc zaP <| fc zaD <| fc zai <| fc zaj <| fc zam <| fc zas jf

def bc (x0:Sem zf) (x1:Sem zf):Sem zg:=S6 [Iq (bF x0).1 (bF x1).1,yj (bF x0).2.1 (bF x1).2.1,AG (bF x0).2.2 (bF x1).2.2]
theorem zer:zA jR.P 58 Tryz.f58 2:=aQ (by kernel_rfl)
theorem zgO (x0:Sem zf) (x1:Sem zf):rn jR 0 (fun _=>{ }) Tryz.f58 [zz zf x0,zz zf x1] []=Tr.ok (zt.ret (AV.int IntKind.i64 (S6 [Iq (bF x0).1 (bF x1).1,yj (bF x0).2.1 (bF x1).2.1,AG (bF x0).2.2 (bF x1).2.2])) []):=by kernel_rfl
def F60:zF:=aw [zf,zf] [zg] fun x=>(bc x.1 x.2.1,())
theorem zaH:FK 58 F60:=by
 refine zS zer fun x C hC=>?_
 refine aC gD zer (fun id _=>hC id) (zgO x.1 x.2.1) ?_
 simp only [Tr.val,bc]
 repeat' split
 all_goals rfl

def B5 (x0:Sem zf) (x1:Sem zf):Sem zf:=if (!kh x0 x1)=true then (0,0,[]) else dm (x0.1==x1.1&&(x0.2.1==x1.2.1&&(x0.2.2==x1.2.2&&true)))
theorem zd9:zA jR.P 142 Tryz.f142 2:=aQ (by kernel_rfl)
theorem zgy (x0:Sem zf) (x1:Sem zf):rn jR 0 (fun _=>{ }) Tryz.f142 [zz zf x0,zz zf x1] []=Tr.br (!kh x0 x1) (Tr.ok (zt.ret (AV.agg [ai 0,ai 0,AV.str []]) [])) (Tr.ok (zt.ret (AV.agg [ai (dm (x0.1==x1.1&&(x0.2.1==x1.2.1&&(x0.2.2==x1.2.2&&true)))).1,ai (dm (x0.1==x1.1&&(x0.2.1==x1.2.1&&(x0.2.2==x1.2.2&&true)))).2.1,AV.str (dm (x0.1==x1.1&&(x0.2.1==x1.2.1&&(x0.2.2==x1.2.2&&true)))).2.2]) [])):=by kernel_rfl
def F42:zF:=aw [zf,zf] [zf] fun x=>(B5 x.1 x.2.1,())
theorem zan:FK 142 F42:=by
 refine zS zd9 fun x C hC=>?_
 refine aC gD zd9 (fun id _=>hC id) (zgy x.1 x.2.1) ?_
 simp only [Tr.val,B5]
 repeat' split
 all_goals rfl

def H9 (x0:Sem zf) (x1:Sem zf):Sem zf:=if (bif !kh x0 x1 then true else x0.1 != 1)=true then (0,0,[]) else if (bif decide (x1.2.1 > 0) then bif decide (IntKind.i64.wrap (x0.2.1+x1.2.1) < x0.2.1) then true else bif decide (x1.2.1 < 0) then decide (IntKind.i64.wrap (x0.2.1+x1.2.1) > x0.2.1) else false else bif decide (x1.2.1 < 0) then decide (IntKind.i64.wrap (x0.2.1+x1.2.1) > x0.2.1) else false)=true then (0,0,[]) else (1,IntKind.i64.wrap (x0.2.1+x1.2.1),[])
theorem zec:zA jR.P 144 Tryz.f144 2:=aQ (by kernel_rfl)
theorem zgA (x0:Sem zf) (x1:Sem zf):rn jR 0 (fun _=>{ }) Tryz.f144 [zz zf x0,zz zf x1] []=Tr.br (bif !kh x0 x1 then true else x0.1 != 1) (Tr.ok (zt.ret (AV.agg [ai 0,ai 0,AV.str []]) [])) (Tr.br (bif decide (x1.2.1 > 0) then bif decide (IntKind.i64.wrap (x0.2.1+x1.2.1) < x0.2.1) then true else bif decide (x1.2.1 < 0) then decide (IntKind.i64.wrap (x0.2.1+x1.2.1) > x0.2.1) else false else bif decide (x1.2.1 < 0) then decide (IntKind.i64.wrap (x0.2.1+x1.2.1) > x0.2.1) else false) (Tr.ok (zt.ret (AV.agg [ai 0,ai 0,AV.str []]) [])) (Tr.ok (zt.ret (AV.agg [ai 1,ai (IntKind.i64.wrap (x0.2.1+x1.2.1)),AV.str []]) []))):=by kernel_rfl
def F44:zF:=aw [zf,zf] [zf] fun x=>(H9 x.1 x.2.1,())
theorem zap:FK 144 F44:=by
 refine zS zec fun x C hC=>?_
 refine aC gD zec (fun id _=>hC id) (zgA x.1 x.2.1) ?_
 simp only [Tr.val,H9]
 repeat' split
 all_goals rfl

def B6 (x0:Sem zf) (x1:Sem zf):Sem zf:=if (bif !kh x0 x1 then true else x0.1 != 1)=true then (0,0,[]) else if (bif decide (x1.2.1 > 0) then bif decide (IntKind.i64.wrap (x0.2.1 - x1.2.1) > x0.2.1) then true else bif decide (x1.2.1 < 0) then decide (IntKind.i64.wrap (x0.2.1 - x1.2.1) < x0.2.1) else false else bif decide (x1.2.1 < 0) then decide (IntKind.i64.wrap (x0.2.1 - x1.2.1) < x0.2.1) else false)=true then (0,0,[]) else (1,IntKind.i64.wrap (x0.2.1 - x1.2.1),[])
theorem zed:zA jR.P 145 Tryz.f145 2:=aQ (by kernel_rfl)
theorem zgB (x0:Sem zf) (x1:Sem zf):rn jR 0 (fun _=>{ }) Tryz.f145 [zz zf x0,zz zf x1] []=Tr.br (bif !kh x0 x1 then true else x0.1 != 1) (Tr.ok (zt.ret (AV.agg [ai 0,ai 0,AV.str []]) [])) (Tr.br (bif decide (x1.2.1 > 0) then bif decide (IntKind.i64.wrap (x0.2.1 - x1.2.1) > x0.2.1) then true else bif decide (x1.2.1 < 0) then decide (IntKind.i64.wrap (x0.2.1 - x1.2.1) < x0.2.1) else false else bif decide (x1.2.1 < 0) then decide (IntKind.i64.wrap (x0.2.1 - x1.2.1) < x0.2.1) else false) (Tr.ok (zt.ret (AV.agg [ai 0,ai 0,AV.str []]) [])) (Tr.ok (zt.ret (AV.agg [ai 1,ai (IntKind.i64.wrap (x0.2.1 - x1.2.1)),AV.str []]) []))):=by kernel_rfl
def F45:zF:=aw [zf,zf] [zf] fun x=>(B6 x.1 x.2.1,())
theorem zaq:FK 145 F45:=by
 refine zS zed fun x C hC=>?_
 refine aC gD zed (fun id _=>hC id) (zgB x.1 x.2.1) ?_
 simp only [Tr.val,B6]
 repeat' split
 all_goals rfl

def H8 (x0:Sem zf) (_:Sem zf):Sem zf:=JH x0
theorem zd7:zA jR.P 140 Tryz.f140 2:=aQ (by kernel_rfl)
theorem zgw (x0:Sem zf) (x1:Sem zf):rn jR 0 (fun _=>{ }) Tryz.f140 [zz zf x0,zz zf x1] []=Tr.ok (zt.ret (AV.agg [ai (JH x0).1,ai (JH x0).2.1,AV.str (JH x0).2.2]) []):=by kernel_rfl
def F40:zF:=aw [zf,zf] [zf] fun x=>(H8 x.1 x.2.1,())
theorem zal:FK 140 F40:=by
 refine zS zd7 fun x C hC=>?_
 refine aC gD zd7 (fun id _=>hC id) (zgw x.1 x.2.1) ?_
 simp only [Tr.val,H8]
 repeat' split
 all_goals rfl

def B7 (x0:Sem zf) (_:Sem zf):Sem zf:=nT x0
theorem zee:zA jR.P 146 Tryz.f146 2:=aQ (by kernel_rfl)
theorem zgC (x0:Sem zf) (x1:Sem zf):rn jR 0 (fun _=>{ }) Tryz.f146 [zz zf x0,zz zf x1] []=Tr.ok (zt.ret (AV.agg [ai (nT x0).1,ai (nT x0).2.1,AV.str (nT x0).2.2]) []):=by kernel_rfl
def F46:zF:=aw [zf,zf] [zf] fun x=>(B7 x.1 x.2.1,())
theorem zar:FK 146 F46:=by
 refine zS zee fun x C hC=>?_
 refine aC gD zee (fun id _=>hC id) (zgC x.1 x.2.1) ?_
 simp only [Tr.val,B7]
 repeat' split
 all_goals rfl

noncomputable def oo:=jR.addL [(58,F60),(142,F42),(144,F44),(145,F45),(140,F40),(146,F46)]
theorem jb:zl oo:=gD.addL <| fc zaH <| fc zan <| fc zap <| fc zaq <| fc zal <| fc zar jf

def H6 (x0:Sem zf) (x1:Sem zf):Sem zf:=if (!kh x0 x1)=true then (0,0,[]) else dm (decide (bc x0 x1 < 0))
theorem zeb:zA oo.P 143 Tryz.f143 2:=aQ (by kernel_rfl)
theorem zgz (x0:Sem zf) (x1:Sem zf):rn oo 0 (fun _=>{ }) Tryz.f143 [zz zf x0,zz zf x1] []=Tr.br (!kh x0 x1) (Tr.ok (zt.ret (AV.agg [ai 0,ai 0,AV.str []]) [])) (Tr.ok (zt.ret (AV.agg [ai (dm (decide (bc x0 x1 < 0))).1,ai (dm (decide (bc x0 x1 < 0))).2.1,AV.str (dm (decide (bc x0 x1 < 0))).2.2]) [])):=by kernel_rfl
def F43:zF:=aw [zf,zf] [zf] fun x=>(H6 x.1 x.2.1,())
theorem zao:FK 143 F43:=by
 refine zS zeb fun x C hC=>?_
 refine aC jb zeb (fun id _=>hC id) (zgz x.1 x.2.1) ?_
 simp only [Tr.val,H6]
 repeat' split
 all_goals rfl

def Ee (x0:Sem zf):Sem zf:=if decide ((↑(length x0.2.2):Int) > 60)=true then (x0.1,x0.2.1,List.take (toNat 60 - toNat 0) (List.drop (toNat 0) x0.2.2)) else x0
def Ar (x0:Sem zf):Bool:=bif decide ((↑(length x0.2.2):Int) > 60) then decide (0≤0)&&decide (0≤60)&&decide (60≤(↑(length x0.2.2):Int)) else true
theorem zdS:zA oo.P 54 Tryz.f54 1:=aQ (by kernel_rfl)
theorem zge (x0:Sem zf):rn oo 0 (fun _=>{ }) Tryz.f54 [zz zf x0] []=Tr.br (decide ((↑(length x0.2.2):Int) > 60)) (Tr.chk (decide (0≤0)&&decide (0≤60)&&decide (60≤(↑(length x0.2.2):Int))) (Tr.ok (zt.ret (AV.agg [ai x0.1,ai x0.2.1,AV.str (List.take (toNat 60 - toNat 0) (List.drop (toNat 0) x0.2.2))]) []))) (Tr.ok (zt.ret (AV.agg [ai x0.1,ai x0.2.1,AV.str x0.2.2]) [])):=by kernel_rfl
def F14:zF:=zG [zf] [zf] (fun x=>Ar x.1) fun x=>(Ee x.1,())
theorem RO:FK 54 F14:=by
 refine zQ zdS fun x hx C hC=>?_
 refine aC jb zdS (fun id _=>hC id) (zge x.1) ?_
 simp only [Ar,Bool.cond_eq_ite] at hx
 simp only [Tr.val,Ee]
 repeat' split
 all_goals first | rfl | simp_all

def wR (x0:Sem Sh.str):Sem Sh.str:=if decide ((↑(length x0):Int) > 20)=true then List.take (toNat 20 - toNat 0) (List.drop (toNat 0) x0) else x0
def HV (x0:Sem Sh.str):Bool:=bif decide ((↑(length x0):Int) > 20) then decide (0≤0)&&decide (0≤20)&&decide (20≤(↑(length x0):Int)) else true
theorem zdR:zA oo.P 117 Tryz.f117 1:=aQ (by kernel_rfl)
theorem zgc (x0:Sem Sh.str):rn oo 0 (fun _=>{ }) Tryz.f117 [zz Sh.str x0] []=Tr.br (decide ((↑(length x0):Int) > 20)) (Tr.chk (decide (0≤0)&&decide (0≤20)&&decide (20≤(↑(length x0):Int))) (Tr.ok (zt.ret (AV.str (List.take (toNat 20 - toNat 0) (List.drop (toNat 0) x0))) []))) (Tr.ok (zt.ret (AV.str x0) [])):=by kernel_rfl
def F12:zF:=zG [Sh.str] [Sh.str] (fun x=>HV x.1) fun x=>(wR x.1,())
theorem RM:FK 117 F12:=by
 refine zQ zdR fun x hx C hC=>?_
 refine aC jb zdR (fun id _=>hC id) (zgc x.1) ?_
 simp only [HV,Bool.cond_eq_ite] at hx
 simp only [Tr.val,wR]
 repeat' split
 all_goals first | rfl | simp_all

noncomputable def F79:zF:=zU (List.replicate 2 none) (bZ oo Tryz.f251 (List.replicate 2 none))
theorem zaU:FK 251 F79:=au _ jb (aQ (by kernel_rfl))

noncomputable def F18:zF:=zU (List.replicate 2 none) (bZ oo Tryz.f93 (List.replicate 2 none))
theorem Z5:FK 93 F18:=au _ jb (aQ (by kernel_rfl))

noncomputable def lU:=oo.addL [(143,F43),(54,F14),(117,F12),(251,F79),(93,F18)]
theorem gE:zl lU:=jb.addL <| fc zao <| fc RO <| fc RM <| fc zaU <| fc Z5 jf

theorem Reach.lenB {E:bt} {C:cH} {fn:FuncId} {todo:List Item} {st:St} {Q:AV→List AO→Prop} (id c:Nat) (e:Sh) (l:List (Sem e)) {cs:List AV} (h1:st.heap[id]?=some (.box cs)) (h2:cs[c]?=some (.sl e l)) (h:l.length≤zC→Reach E C fn todo st Q):Reach E C fn todo st Q:=by
 intro b cs' a w U ρ q1 q2 hc hW
 refine h ?_ b cs' a w U ρ q1 q2 hc hW
 have ho:=hc.hp.ob id
 rw [show st.hp id=.box cs by simp [St.hp,h1]] at ho
 obtain ⟨bk,T,vals,_,_,_,hr,_⟩:=ho
 have hlt:c < vals.toList.length:=by rw [← hr.len]; exact (bM.1 h2).1
 have:=hr.rv c _ _ h2 (zJ hlt)
 generalize vals.toList[c]=v at this
 cases this with
 | sl0=>simp
 | sl _ _ _ _ _ _ _ hm=>exact hm

abbrev kp6:Nat→ah:=fun j=>if j=3 then { slots:=[0,3,4],prom:=[(3,none,zf)] } else { }
abbrev NG (l0:List (Sem zf)) (i4:Int) (lh_0:List (Sem zf)):St:={ tmps:=(tm 24 [(0,AV.sl zf l0),(3,AV.vec 0),(4,ai i4)]),heap:=[AO.vec zf lh_0] }
theorem ok6:zA lU.P 28 Tryz.f28 1:=aQ (by kernel_rfl)
theorem go6 (x0:Sem zf.sl):rn lU 0 kp6 Tryz.f28 [zz zf.sl x0] []=Tr.ok (zt.head 3 (zy Tryz.f28 3) (NG x0 0 [])):=by kernel_rfl
theorem S3 (l0:List (Sem zf)) (i4:Int) (lh_0:List (Sem zf)):rh lU 0 kp6 Tryz.f28 3 (NG l0 i4 lh_0)=Tr.br (bif decide (i4 < (↑l0.length:Int)) then decide (i4 < 14) else false) (Tr.chk (zI i4 l0.length) (Tr.chk (Ar (l0.getD i4.toNat (zj zf))) (Tr.chk (decide (lh_0.length+[Ee (l0.getD i4.toNat (zj zf))].length≤1073741824)) (Tr.ok (zt.head 3 (zy Tryz.f28 3) (NG l0 (IntKind.i64.wrap (i4+1)) (lh_0++[Ee (l0.getD i4.toNat (zj zf))]))))))) (Tr.ok (zt.ret (AV.vec 0) [AO.vec zf lh_0])):=by kernel_rfl
def jU:List (Sem zf)→Int→List (Sem zf)→Sem zf.sl
 | [],_,lh_0=>lh_0
 | x::r,i4,lh_0=>if decide (i4 < 14)=true then jU r (i4+1) (lh_0++[Ee x]) else lh_0
def ij:List (Sem zf)→Int→List (Sem zf)→Bool
 | [],_,_=>true
 | x::r,i4,lh_0=>if decide (i4 < 14)=true then Ar x&&(decide (lh_0.length+[Ee x].length≤1073741824)&&ij r (i4+1) (lh_0++[Ee x])) else true
theorem zbI {C:cH} (hC:∀ id,C.ρ0 id=none) (l0:List (Sem zf)) (hl:l0.length≤zC):∀ (m i:Nat) (lh_0:List (Sem zf)),l0.length - i=m→i≤l0.length→ij (l0.drop i) i lh_0=true→
  Reach lU C 28 (zy Tryz.f28 3) (NG l0 (i:Int) lh_0) (fun r h=>ap h [zf.sl] r=some (jU (l0.drop i) i lh_0,())):=by
 intro m
 induction m with
 | zero=>
  intro i lh_0 hm hi hc
  obtain rfl:i=l0.length:=by omega
  rw [cL] at hc ⊢
  refine zk gE ok6 (fun id _=>hC id) (S3 _ _ _) ?_
  simp only [ij] at hc
  simp only [Tr.val,zX,bQ,jU]
  repeat' split
  all_goals first | rfl | simp_all
 | succ m IH=>
  intro i lh_0 hm hi hc
  have hlt:i < l0.length:=by omega
  have IH:=IH (i+1)
  have hcast:((i:Int)+1)=((i+1:Nat):Int):=by omega
  have hwr:=zD i (by omega)
  rw [dw hlt] at hc ⊢
  refine zk gE ok6 (fun id _=>hC id) (S3 _ _ _) ?_
  simp only [ij] at hc
  simp only [Tr.val,zT hlt,zB hlt,ac l0 _ hlt,hwr,bR,if_true,jU]
  clear hwr
  (try simp only [hcast] at hc ⊢)
  repeat' split
  all_goals first | (change Reach _ _ _ _ _ _; apply IH <;> first | omega | assumption | (clear IH; simp_all)) | rfl | (clear IH; simp_all)
theorem Vo {C:cH} (hC:∀ id,C.ρ0 id=none) (l0:List (Sem zf)) (lh_0:List (Sem zf)) (hc:ij l0 0 lh_0=true):
  Reach lU C 28 (zy Tryz.f28 3) (NG l0 0 lh_0) (fun r h=>ap h [zf.sl] r=some (jU l0 0 lh_0,())):=
 Reach.len 0 (zf) l0 rfl fun hl=>zbI hC l0 hl _ 0 lh_0 rfl (aV _) hc
def oz (x0:Sem zf.sl):Sem zf.sl:=jU x0 0 []
def Mr (x0:Sem zf.sl):Bool:=ij x0 0 []
def F6:zF:=zG [zf.sl] [zf.sl] (fun x=>Mr x.1) fun x=>(oz x.1,())
theorem zaG:FK 28 F6:=by
 refine zQ ok6 fun x hx C hC=>?_
 simp only [Mr] at hx
 refine zk gE ok6 (fun id _=>hC id) (go6 x.1) ?_
 simp only [Tr.val,oz]
 repeat' split
 all_goals first | (change Reach _ _ _ _ _ _; apply Vo hC <;> first | assumption | simp_all) | rfl | simp_all

abbrev zdm:Nat→ah:=fun j=>if j=3 then { slots:=[0,3,4],prom:=[(3,none,zi)] } else { }
abbrev Al (l0:List (Sem zi)) (i4:Int) (lh_0:List (Sem zi)):St:={ tmps:=(tm 33 [(0,AV.sl zi l0),(3,AV.vec 0),(4,ai i4)]),heap:=[AO.vec zi lh_0] }
theorem Qc:zA lU.P 26 Tryz.f26 1:=aQ (by kernel_rfl)
theorem zgd (x0:Sem zi.sl):rn lU 0 zdm Tryz.f26 [zz zi.sl x0] []=Tr.ok (zt.head 3 (zy Tryz.f26 3) (Al x0 0 [])):=by kernel_rfl
theorem MS (l0:List (Sem zi)) (i4:Int) (lh_0:List (Sem zi)):rh lU 0 zdm Tryz.f26 3 (Al l0 i4 lh_0)=Tr.br (bif decide (i4 < (↑l0.length:Int)) then decide (i4 < 9) else false) (Tr.chk (zI i4 l0.length) (Tr.br (decide ((↑(length (l0.getD i4.toNat (zj zi)).1):Int) > 20)) (Tr.chk (decide (0≤0)&&decide (0≤20)&&decide (20≤(↑(length (l0.getD i4.toNat (zj zi)).1):Int))) (Tr.chk (decide (lh_0.length+[(List.take (toNat 20 - toNat 0) (List.drop (toNat 0) (l0.getD i4.toNat (zj zi)).1),(l0.getD i4.toNat (zj zi)).2)].length≤1073741824)) (Tr.ok (zt.head 3 (zy Tryz.f26 3) (Al l0 (IntKind.i64.wrap (i4+1)) (lh_0++[(List.take (toNat 20 - toNat 0) (List.drop (toNat 0) (l0.getD i4.toNat (zj zi)).1),(l0.getD i4.toNat (zj zi)).2)])))))) (Tr.chk (decide (lh_0.length+[l0.getD i4.toNat (zj zi)].length≤1073741824)) (Tr.ok (zt.head 3 (zy Tryz.f26 3) (Al l0 (IntKind.i64.wrap (i4+1)) (lh_0++[l0.getD i4.toNat (zj zi)]))))))) (Tr.ok (zt.ret (AV.vec 0) [AO.vec zi lh_0])):=by kernel_rfl
def gV:List (Sem zi)→Int→List (Sem zi)→Sem zi.sl
 | [],_,lh_0=>lh_0
 | x::r,i4,lh_0=>if decide (i4 < 9)=true then
 if decide ((↑(length x.1):Int) > 20)=true then
  gV r (i4+1) (lh_0++[(List.take (toNat 20 - toNat 0) (List.drop (toNat 0) x.1),x.2)])
 else gV r (i4+1) (lh_0++[x])
else lh_0
def fV:List (Sem zi)→Int→List (Sem zi)→Bool
 | [],_,_=>true
 | x::r,i4,lh_0=>if decide (i4 < 9)=true then
 if decide ((↑(length x.1):Int) > 20)=true then
  decide (0≤0)&&decide (0≤20)&&decide (20≤(↑(length x.1):Int))&&
   (decide (lh_0.length+[(List.take (toNat 20 - toNat 0) (List.drop (toNat 0) x.1),x.2)].length≤1073741824)&&
    fV r (i4+1) (lh_0++[(List.take (toNat 20 - toNat 0) (List.drop (toNat 0) x.1),x.2)]))
 else decide (lh_0.length+[x].length≤1073741824)&&fV r (i4+1) (lh_0++[x])
else true
theorem Vm {C:cH} (hC:∀ id,C.ρ0 id=none) (l0:List (Sem zi)) (hl:l0.length≤zC):∀ (m i:Nat) (lh_0:List (Sem zi)),l0.length - i=m→i≤l0.length→fV (l0.drop i) i lh_0=true→
  Reach lU C 26 (zy Tryz.f26 3) (Al l0 (i:Int) lh_0) (fun r h=>ap h [zi.sl] r=some (gV (l0.drop i) i lh_0,())):=by
 intro m
 induction m with
 | zero=>
  intro i lh_0 hm hi hc
  obtain rfl:i=l0.length:=by omega
  rw [cL] at hc ⊢
  refine zk gE Qc (fun id _=>hC id) (MS _ _ _) ?_
  simp only [fV] at hc
  simp only [Tr.val,zX,bQ,gV]
  repeat' split
  all_goals first | rfl | simp_all
 | succ m IH=>
  intro i lh_0 hm hi hc
  have hlt:i < l0.length:=by omega
  have IH:=IH (i+1)
  have hcast:((i:Int)+1)=((i+1:Nat):Int):=by omega
  have hwr:=zD i (by omega)
  rw [dw hlt] at hc ⊢
  refine zk gE Qc (fun id _=>hC id) (MS _ _ _) ?_
  simp only [fV] at hc
  simp only [Tr.val,zT hlt,zB hlt,ac l0 _ hlt,hwr,bR,if_true,gV]
  clear hwr
  (try simp only [hcast] at hc ⊢)
  repeat' split
  all_goals first | (change Reach _ _ _ _ _ _; apply IH <;> first | omega | assumption | (clear IH; simp_all)) | rfl | (clear IH; simp_all)
theorem Pl {C:cH} (hC:∀ id,C.ρ0 id=none) (l0:List (Sem zi)) (lh_0:List (Sem zi)) (hc:fV l0 0 lh_0=true):
  Reach lU C 26 (zy Tryz.f26 3) (Al l0 0 lh_0) (fun r h=>ap h [zi.sl] r=some (gV l0 0 lh_0,())):=
 Reach.len 0 (zi) l0 rfl fun hl=>Vm hC l0 hl _ 0 lh_0 rfl (aV _) hc
def mJ (x0:Sem zi.sl):Sem zi.sl:=gV x0 0 []
def Mq (x0:Sem zi.sl):Bool:=fV x0 0 []
def F13:zF:=zG [zi.sl] [zi.sl] (fun x=>Mq x.1) fun x=>(mJ x.1,())
theorem RN:FK 26 F13:=by
 refine zQ Qc fun x hx C hC=>?_
 simp only [Mq] at hx
 refine zk gE Qc (fun id _=>hC id) (zgd x.1) ?_
 simp only [Tr.val,mJ]
 repeat' split
 all_goals first | (change Reach _ _ _ _ _ _; apply Pl hC <;> first | assumption | simp_all) | rfl | simp_all

noncomputable def CV:=lU.addL [(28,F6),(26,F13)]
theorem qT:zl CV:=gE.addL <| fc zaG <| fc RN jf

theorem eI {P:Program} {gl:Nat→AV} {k:FuncId} {ks outs:List Sh} {c:zw (ks.map some)→Bool} {g:zw (ks.map some)→zw (outs.map some)} (h:mf P gl k (zG ks outs c g)) (hc:∀ x,c x=true):mf P gl k (aw ks outs g):=
 RV (by rwa [show c=fun _=>true from funext hc] at h)

theorem xi (v:V):Ar v=true:=by
 unfold Ar
 cases h:decide ((↑(length v.2.2):Int) > 60)
 ·rfl
 ·simp only [ae] at h
  simp only [bR,aL,ae]
  omega
theorem F2 (s:zo):HV s=true:=by
 unfold HV
 cases h:decide ((↑(length s):Int) > 20)
 ·rfl
 ·simp only [ae] at h
  simp only [bR,aL,ae]
  omega
theorem oA:∀ (l:List (Sem zf)) (i:Int) (a:List (Sem zf)),(a.length:Int)≤i→ij l i a=true
 | [],_,_,_=>rfl
 | x::r,i,a,h=>by
  simp only [ij,xi]
  split
  ·rename_i hi
   simp only [ae] at hi
   rw [oA r (i+1) _ (by simp; omega)]
   simp; omega
  ·rfl
theorem j8:∀ (l:List (Sem zi)) (i:Int) (a:List (Sem zi)),(a.length:Int)≤i→fV l i a=true
 | [],_,_,_=>rfl
 | x::r,i,a,h=>by
  simp only [fV]
  split
  ·rename_i hi
   simp only [ae] at hi
   split
   ·rename_i hx
    simp only [ae] at hx
    rw [j8 r (i+1) _ (by simp; omega)]
    simp; omega
   ·rw [j8 r (i+1) _ (by simp; omega)]
    simp; omega
  ·rfl
def YX:zF:=aw [zf] [zf] fun x=>(Ee x.1,())
theorem TV:FK 54 YX:=eI RO fun x=>xi x.1
def YJ:zF:=aw [Sh.str] [Sh.str] fun x=>(wR x.1,())
theorem TH:FK 117 YJ:=eI RM fun x=>F2 x.1
def F6t:zF:=aw [zf.sl] [zf.sl] fun x=>(oz x.1,())
theorem zaN:FK 28 F6t:=eI zaG fun x=>oA x.1 0 [] (by simp)
def YT:zF:=aw [zi.sl] [zi.sl] fun x=>(mJ x.1,())
theorem TR:FK 26 YT:=eI RN fun x=>j8 x.1 0 [] (by simp)

abbrev mg:Nat→ah:=fun _=>{ slots:=[0,1,7,8] }
def iA {K:List Item} {e:Sh} (l:List (Sem e)) (p:Sem e→Bool) (st:Int→St) (h0:List AO) (i:Int):Tr zt:=.br (decide (i < (l.length:Int))) (.chk (zI i l.length) (.br (p (l.getD i.toNat (zj e))) (.ok (.ret (.int .i64 i) h0)) (.ok (.head 2 K (st (IntKind.i64.wrap (i+1))))))) (.ok (.ret (.int .i64 (-1)) h0))

theorem eQ {E:bt} {C:cH} {k:FuncId} {f:Func} {n n0:Nat} {keep:Nat→ah} {fuel:Nat} {K:List Item} {e:Sh} (l:List (Sem e)) (p:Sem e→Bool) (st:Int→St) {h0:List AO}
  (hE:zl E) (hf:zA E.P k f n) (hC:∀ id,n0≤id→C.ρ0 id=none)
  (hon:∀ i,run E n0 keep f.results.toList fuel K (st i)=iA (K:=K) l p st h0 i) (hl:l.length≤zC):∀ (m i:Nat),l.length - i=m→i≤l.length→
  Reach E C k K (st i) (fun r h=>(r,h)=(.int .i64 (zL p (l.drop i) i),h0)):=by
 intro m
 induction m with
 | zero=>
  intro i hE.mix' hi
  obtain rfl:i=l.length:=by omega
  refine zk hE hf hC (hon _) ?_
  simp only [iA,Tr.val,zX,cL]
  rfl
 | succ m IH=>
  intro i hE.mix' hi
  have hlt:i < l.length:=by omega
  refine zk hE hf hC (hon _) ?_
  rw [dw hlt]
  simp only [iA,Tr.val,zT hlt,zB hlt,ac l _ hlt,zD i (by omega),if_true,zL]
  split
  ·rfl
  ·exact IH (i+1) (by omega) (by omega)

abbrev tF (t:Int) (l:List (Sem zg)) (i:Int):St:={ tmps:=[.sl zg l,.clo (.func 251) [] [.ptr 0 0],.any,.any,.any,.any,.any,.int .i64 l.length,.int .i64 i,.any,.any,.any,.any,.any,.any,.any,.any,.any,.any],heap:=[.box [.int .i64 t]] }
theorem Ll (t:Int) (l:List (Sem zg)):run CV 1 mg Tryz.f278.results.toList 300 (aB Tryz.f278) (aq Tryz.f278.ntmps [.sl zg l,.clo (.func 251) [] [.ptr 0 0]] [.box [.int .i64 t]])=.ok (.head 2 (zy Tryz.f278 2) (tF t l 0)):=by kernel_rfl
theorem MQ (t:Int) (l:List (Sem zg)) (i:Int):run CV 1 mg Tryz.f278.results.toList 300 (zy Tryz.f278 2) (tF t l i)=iA (K:=zy Tryz.f278 2) (e:=zg) l (fun x=>bif x != t then x != 0 else false) (tF t l) [.box [.int .i64 t]] i:=by kernel_rfl

theorem Mz:zA CV.P 278 Tryz.f278 2:=aQ (by kernel_rfl)
def zbk:cF [some (.sl zg),none]:=fun x h=>match x,h with
 | (l,.clo (.func 251) [] [.ptr 0 0],_),[.box [.int .i64 t]]=>.ok (.int .i64 (zL (fun x=>bif x != t then x != 0 else false) l 0),[.box [.int .i64 t]])
 | _,_=>.err
def Yo:zF:=zU [some (.sl zg),none] zbk
theorem Tl:FK 278 Yo:=by
 refine bA Mz fun x h0 res hx C hC=>?_
 unfold zbk at hx
 split at hx
 ·rename_i l u t
  simp only [Tr.val_ok,ao] at hx
  subst hx
  refine Reach.len 0 zg l rfl fun hl=>?_
  refine zk (n0:=1) qT Mz hC (Ll t l) ?_
  exact eQ l (fun x=>bif x != t then x != 0 else false) (tF t l) qT Mz hC (MQ t l) hl _ 0 rfl (aV _)
 ·simp at hx

noncomputable def pG:=CV.addL [(54,YX),(117,YJ),(28,F6t),(26,YT),(278,Yo)]
theorem kw:zl pG:=qT.addL <| fc TV <| fc TH <| fc zaN <| fc TR <| fc Tl jf

noncomputable def F78:zF:=zU [some (.sl zg),none] (bZ pG Tryz.f250 [some (.sl zg),none])
theorem zaT:FK 250 F78:=au _ kw (aQ (by kernel_rfl))

def md (x0:Sem Sh.str):Sem Sh.bool:=nd x0
theorem zdZ:zA pG.P 170 Tryz.f170 1:=aQ (by kernel_rfl)
theorem zgl (x0:Sem Sh.str):rn pG 0 (fun _=>{ }) Tryz.f170 [zz Sh.str x0] []=Tr.ok (zt.ret (AV.bool (nd x0)) []):=by kernel_rfl
def F25:zF:=aw [Sh.str] [Sh.bool] fun x=>(md x.1,())
theorem Z9:FK 170 F25:=by
 refine zS zdZ fun x C hC=>?_
 refine aC kw zdZ (fun id _=>hC id) (zgl x.1) ?_
 simp only [Tr.val,md]
 repeat' split
 all_goals rfl

def gQ (x0:Sem zx) (x1:Sem Sh.str):Sem zg:=zL (fun c=>c.1==x1) x0.2.1 0
theorem zdU:zA pG.P 73 Tryz.f73 2:=aQ (by kernel_rfl)
theorem zgg (x0:Sem zx) (x1:Sem Sh.str):rn pG 0 (fun _=>{ }) Tryz.f73 [zz zx x0,zz Sh.str x1] []=Tr.ok (zt.ret (ai (zL (fun c=>c.1==x1) x0.2.1 0)) []):=by kernel_rfl
def F17:zF:=aw [zx,Sh.str] [zg] fun x=>(gQ x.1 x.2.1,())
theorem Z4:FK 73 F17:=by
 refine zS zdU fun x C hC=>?_
 refine aC kw zdU (fun id _=>hC id) (zgg x.1 x.2.1) ?_
 simp only [Tr.val,gQ]
 repeat' split
 all_goals rfl

def zM (x0:Sem zi.sl) (x1:Sem Sh.str):Sem zg:=zL (fun c=>c.1==x1) x0 0
theorem zeh:zA pG.P 148 Tryz.f148 2:=aQ (by kernel_rfl)
theorem zgE (x0:Sem zi.sl) (x1:Sem Sh.str):rn pG 0 (fun _=>{ }) Tryz.f148 [zz zi.sl x0,zz Sh.str x1] []=Tr.ok (zt.ret (ai (zL (fun c=>c.1==x1) x0 0)) []):=by kernel_rfl
def F48:zF:=aw [zi.sl,Sh.str] [zg] fun x=>(zM x.1 x.2.1,())
theorem zat:FK 148 F48:=by
 refine zS zeh fun x C hC=>?_
 refine aC kw zeh (fun id _=>hC id) (zgE x.1 x.2.1) ?_
 simp only [Tr.val,zM]
 repeat' split
 all_goals rfl

noncomputable def yn:=pG.addL [(250,F78),(170,F25),(73,F17),(148,F48)]
theorem qU:zl yn:=kw.addL <| fc zaT <| fc Z9 <| fc Z4 <| fc zat jf

def sQ (x0:Sem zg.sl) (x1:Sem zg):Sem Sh.bool := !decide (zL (fun x=>bif x != x1 then x != 0 else false) x0 0 ≥ 0)
theorem zet:zA yn.P 203 Tryz.f203 2:=aQ (by kernel_rfl)
theorem zgQ (x0:Sem zg.sl) (x1:Sem zg):rn yn 0 (fun _=>{ }) Tryz.f203 [zz zg.sl x0,zz zg x1] []=Tr.ok (zt.ret (AV.bool !decide (zL (fun x=>bif x != x1 then x != 0 else false) x0 0 ≥ 0)) []):=by kernel_rfl
def F66:zF:=aw [zg.sl,zg] [Sh.bool] fun x=>(sQ x.1 x.2.1,())
theorem zaL:FK 203 F66:=by
 refine zS zet fun x C hC=>?_
 refine aC qU zet (fun id _=>hC id) (zgQ x.1 x.2.1) ?_
 simp only [Tr.val,sQ]
 repeat' split
 all_goals rfl

def bU (x0:Sem Sh.str):Sem Sh.bool:=bif md x0 then !DR x0 else false
theorem zdT:zA yn.P 92 Tryz.f92 1:=aQ (by kernel_rfl)
theorem zgf (x0:Sem Sh.str):rn yn 0 (fun _=>{ }) Tryz.f92 [zz Sh.str x0] []=Tr.ok (zt.ret (AV.bool (bif md x0 then !DR x0 else false)) []):=by kernel_rfl
def F16:zF:=aw [Sh.str] [Sh.bool] fun x=>(bU x.1,())
theorem Z3:FK 92 F16:=by
 refine zS zdT fun x C hC=>?_
 refine aC qU zdT (fun id _=>hC id) (zgf x.1) ?_
 simp only [Tr.val,bU]
 repeat' split
 all_goals rfl

noncomputable def KO:=yn.addL [(203,F66),(92,F16)]
theorem yo:zl KO:=qU.addL <| fc zaL <| fc Z3 jf
theorem dv {P:Program} {gl:Nat→AV} {k:FuncId} {ks outs:List Sh} {c:zw (ks.map some)→Bool} {g:zw (ks.map some)→zw (outs.map some)} (hf:∃ fn,P.funcs[k]?=some fn∧(fn.name == "runtime.NumGoroutine")=false∧fn.body.isNone=false) (hc:∀ x,c x=false):mf P gl k (zG ks outs c g):=by
 refine ⟨hf,?_⟩
 intro w U ρ hp n args vals f fp hv
 exfalso
 unfold zG zU at hv
 split at hv
 ·simp only at hv
  split at hv
  ·split at hv
   ·simp only [Tr.val_bind,eS] at hv
    obtain ⟨res,h1,h2⟩:=hv
    unfold gX at h1
    split at h1
    ·simp only [Tr.val,hc] at h1
     simp at h1
    ·simp at h1
   ·simp at hv
  ·simp at hv
 ·simp at hv
theorem kk {Φ:zt→Prop} {c:Bool} {t f:Tr zt} (h1:c=true→eZ Φ t.val) (h2:c=false→eZ Φ f.val):eZ Φ (Tr.br c t f).val:=by
 cases c
 ·simpa [Tr.val] using h2 rfl
 ·simpa [Tr.val] using h1 rfl
theorem da {Φ:zt→Prop} {c:Bool} {t:Tr zt} (hc:c=true) (h:eZ Φ t.val):eZ Φ (Tr.chk c t).val:=by
 subst hc
 simpa [Tr.val] using h
theorem zr {Φ:zt→Prop} {t:Tr zt} (h:eZ Φ t.val):eZ Φ (Tr.chk true t).val:=h
theorem kJ {c:Bool} (h:c=false):¬ c=true:=by rw [h]; simp
theorem nA {c g:Bool} (h:(if c=true then g else false)=true):c=true∧g=true:=by
 split at h
 ·exact ⟨‹_›,h⟩
 ·cases h
theorem eW {Φ:zt→Prop} {c:Bool} {t f:Tr zt} {α:Sort _} {a b y:α} {p q:Bool} (hy:(if c=true then a else b)=y) (hc:(if c=true then p else q)=true) (h1:c=true→a=y→p=true→eZ Φ t.val) (h2:c=false→b=y→q=true→eZ Φ f.val):eZ Φ (Tr.br c t f).val:=
 kk (fun h=>h1 h (by rwa [if_pos h] at hy) (by rwa [if_pos h] at hc)) (fun h=>h2 h (by rwa [if_neg (kJ h)] at hy) (by rwa [if_neg (kJ h)] at hc))
theorem ba {Φ:zt→Prop} {c:Bool} {t f:Tr zt} {α:Sort _} {a b y:α} (hy:(if c=true then a else b)=y) (h1:c=true→a=y→eZ Φ t.val) (h2:c=false→b=y→eZ Φ f.val):eZ Φ (Tr.br c t f).val:=
 kk (fun h=>h1 h (by rwa [if_pos h] at hy)) (fun h=>h2 h (by rwa [if_neg (kJ h)] at hy))
theorem bv {Φ:zt→Prop} {c g:Bool} {t:Tr zt} (hc:(if c=true then g else false)=true) (h:g=true→eZ Φ t.val):eZ Φ (Tr.chk c t).val:=
 da (nA hc).1 (h (nA hc).2)
theorem Tr.val_brT {α:Type} (t f:Tr α):(Tr.br true t f).val=t.val:=rfl
theorem Tr.val_brF {α:Type} (t f:Tr α):(Tr.br false t f).val=f.val:=rfl
theorem Tr.val_chkT {α:Type} (t:Tr α):(Tr.chk true t).val=t.val:=rfl
instance:Inhabited ze:=⟨.mk [] (0,0,[]) [] []⟩
instance (s:Sh):Inhabited (Sem s):=⟨zj s⟩

noncomputable def IB (g:Sem Sh.expr→Sem (Sh.sl zi)→Sem zg×Sem zg) (c:Sem Sh.expr→Sem (Sh.sl zi)→Bool):bt:=KO.add 136 (zG [Sh.expr,Sh.sl zi] [zg,zg] (fun x=>c x.1 x.2.1) fun x=>((g x.1 x.2.1).1,(g x.1 x.2.1).2,()))
theorem uQ {g:Sem Sh.expr→Sem (Sh.sl zi)→Sem zg×Sem zg} {c:Sem Sh.expr→Sem (Sh.sl zi)→Bool} (hg:FK 136 (zG [Sh.expr,Sh.sl zi] [zg,zg] (fun x=>c x.1 x.2.1) fun x=>((g x.1 x.2.1).1,(g x.1 x.2.1).2,()))):zl (IB g c):=yo.add hg
abbrev SL:Nat→ah:=fun j=>if j=3 then { slots:=[1,2,6,15,16,17],prom:=[(6,none,zg)] } else { }
abbrev wP (l1:LC) (l15:LX) (i16:Int) (i17:Int) (ja0:zo) (ja1:Int) (ja2:Int) (ja3:zo) (ja4:zo) (ja5:LX) (lh_1:LI):St:={ tmps:=(tm 91 [(1,AV.sl zi l1),(2,AV.ptr 0 0),(6,AV.vec 1),(15,AV.sl Sh.expr l15),(16,ai i16),(17,ai i17)]),heap:=[AO.box [AV.str ja0,ai ja1,ai ja2,AV.str ja3,AV.str ja4,AV.sl Sh.expr ja5],AO.vec zg lh_1] }
theorem wg (g:Sem Sh.expr→Sem (Sh.sl zi)→Sem zg×Sem zg) (c:Sem Sh.expr→Sem (Sh.sl zi)→Bool):zA (IB g c).P 136 Tryz.f136 2:=aQ (by kernel_rfl)
theorem zcu (g:Sem Sh.expr→Sem (Sh.sl zi)→Sem zg×Sem zg) (c:Sem Sh.expr→Sem (Sh.sl zi)→Bool) (x0:Sem Sh.expr) (x1:Sem zi.sl):rn (IB g c) 0 SL Tryz.f136 [zz Sh.expr x0,zz zi.sl x1] []=Tr.ok (zt.head 3 (zy Tryz.f136 3) (wP x1 (ze.l x0) (↑(ze.l x0).length:Int) 0 (ze.op x0) (ze.v x0).1 (ze.v x0).2.1 (ze.v x0).2.2 (ze.s x0) (ze.l x0) [])):=by kernel_rfl
theorem Hy (g:Sem Sh.expr→Sem (Sh.sl zi)→Sem zg×Sem zg) (c:Sem Sh.expr→Sem (Sh.sl zi)→Bool) (l1:LC) (l15:LX) (i16:Int) (i17:Int) (ja0:zo) (ja1:Int) (ja2:Int) (ja3:zo) (ja4:zo) (ja5:LX) (lh_1:LI):rh (IB g c) 0 SL Tryz.f136 3 (wP l1 l15 i16 i17 ja0 ja1 ja2 ja3 ja4 ja5 lh_1)=Tr.br (decide (i17 < i16)) (Tr.chk (zI i17 l15.length) (Tr.chk (c (zE (l15.getD i17.toNat (zj Sh.expr))) l1) (Tr.br ((g (zE (l15.getD i17.toNat (zj Sh.expr))) l1).2 != 0) (Tr.ok (zt.ret (AV.tup [ai 0,AV.int IntKind.i64 (g (zE (l15.getD i17.toNat (zj Sh.expr))) l1).2]) [])) (Tr.chk (decide (lh_1.length+[(g (zE (l15.getD i17.toNat (zj Sh.expr))) l1).1].length≤1073741824)) (Tr.ok (zt.head 3 (zy Tryz.f136 3) (wP l1 l15 i16 (IntKind.i64.wrap (i17+1)) ja0 ja1 ja2 ja3 ja4 ja5 (lh_1++[(g (zE (l15.getD i17.toNat (zj Sh.expr))) l1).1])))))))) (Tr.br (ja0==[108,105,116]) (Tr.ok (zt.ret (AV.tup [ai ja1,ai 0]) [])) (Tr.br (ja0==[99,111,108]) (Tr.br (decide (zM l1 ja4 < 0)) (Tr.ok (zt.ret (AV.tup [ai 0,ai 4]) [])) (Tr.chk (zI (zM l1 ja4) l1.length) (Tr.ok (zt.ret (AV.tup [ai (l1.getD (toNat (zM l1 ja4)) (zj zi)).2.1,ai 0]) [])))) (Tr.br (ja0==[110,111,116])
 (Tr.br (!sQ lh_1 3) (Tr.ok (zt.ret (AV.tup [ai 0,ai 5]) [])) (Tr.ok (zt.ret (AV.tup [ai 3,ai 0]) []))) (Tr.br (ja0==[97,110,100]) (Tr.br (!sQ lh_1 3) (Tr.ok (zt.ret (AV.tup [ai 0,ai 5]) [])) (Tr.ok (zt.ret (AV.tup [ai 3,ai 0]) []))) (Tr.br (ja0==[111,114]) (Tr.br (!sQ lh_1 3) (Tr.ok (zt.ret (AV.tup [ai 0,ai 5]) [])) (Tr.ok (zt.ret (AV.tup [ai 3,ai 0]) []))) (Tr.br (ja0==[61]) (Tr.chk (zI 0 lh_1.length&&(decide (toNat 0 < lh_1.length)&&(zI 1 lh_1.length&&(decide (toNat 1 < lh_1.length)&&bif lh_1.getD (toNat 0) (zj zg)==lh_1.getD (toNat 1) (zj zg) then true else zI 0 lh_1.length&&(decide (toNat 0 < lh_1.length)&&bif lh_1.getD (toNat 0) (zj zg)==0 then true else zI 1 lh_1.length&&decide (toNat 1 < lh_1.length)))))) (Tr.br (!bif lh_1.getD (toNat 0) (zj zg)==lh_1.getD (toNat 1) (zj zg) then true else bif lh_1.getD (toNat 0) (zj zg)==0 then true else lh_1.getD (toNat 1) (zj zg)==0) (Tr.ok (zt.ret (AV.tup [ai 0,ai 5]) [])) (Tr.ok (zt.ret (AV.tup [ai 3,ai 0]) [])))) (Tr.br (ja0==[60]) (Tr.chk (zI 0 lh_1.length&&(decide (toNat 0 < lh_1.length)&&(zI 1 lh_1.length&&(decide (toNat 1 < lh_1.length)&&
 bif lh_1.getD (toNat 0) (zj zg)==lh_1.getD (toNat 1) (zj zg) then true else zI 0 lh_1.length&&(decide (toNat 0 < lh_1.length)&&bif lh_1.getD (toNat 0) (zj zg)==0 then true else zI 1 lh_1.length&&decide (toNat 1 < lh_1.length)))))) (Tr.br (!bif lh_1.getD (toNat 0) (zj zg)==lh_1.getD (toNat 1) (zj zg) then true else bif lh_1.getD (toNat 0) (zj zg)==0 then true else lh_1.getD (toNat 1) (zj zg)==0) (Tr.ok (zt.ret (AV.tup [ai 0,ai 5]) [])) (Tr.ok (zt.ret (AV.tup [ai 3,ai 0]) [])))) (Tr.br (ja0==[43]) (Tr.br (!sQ lh_1 1) (Tr.ok (zt.ret (AV.tup [ai 0,ai 5]) [])) (Tr.ok (zt.ret (AV.tup [ai 1,ai 0]) []))) (Tr.br (ja0==[45]) (Tr.br (!sQ lh_1 1) (Tr.ok (zt.ret (AV.tup [ai 0,ai 5]) [])) (Tr.ok (zt.ret (AV.tup [ai 1,ai 0]) []))) (Tr.ok (zt.ret (AV.tup [ai 3,ai 0]) []))))))))))):=by kernel_rfl
def cG (g:Sem Sh.expr→Sem (Sh.sl zi)→Sem zg×Sem zg) (c:Sem Sh.expr→Sem (Sh.sl zi)→Bool) (l1:LC) (ja0:zo) (ja1:Int) (ja2:Int) (ja3:zo) (ja4:zo) (ja5:LX):List (Sem Sh.expr)→Int→List (Sem zg)→Sem zg×Sem zg
 | [],_,lh_1=>if (ja0==[108,105,116])=true then (ja1,0)
else
 if (ja0==[99,111,108])=true then
  if decide (zM l1 ja4 < 0)=true then (0,4)
  else ((l1.getD (toNat (zM l1 ja4)) (zj zi)).2.1,0)
 else
  if (ja0==[110,111,116])=true then if (!sQ lh_1 3)=true then (0,5) else (3,0)
  else
   if (ja0==[97,110,100])=true then if (!sQ lh_1 3)=true then (0,5) else (3,0)
   else
    if (ja0==[111,114])=true then if (!sQ lh_1 3)=true then (0,5) else (3,0)
    else
     if (ja0==[61])=true then
      if
        (!bif lh_1.getD (toNat 0) (zj zg)==lh_1.getD (toNat 1) (zj zg) then true
          else bif lh_1.getD (toNat 0) (zj zg)==0 then true else lh_1.getD (toNat 1) (zj zg)==0)=
         true then
       (0,5)
      else (3,0)
     else
      if (ja0==[60])=true then
       if
         (!bif lh_1.getD (toNat 0) (zj zg)==lh_1.getD (toNat 1) (zj zg) then true
           else
            bif lh_1.getD (toNat 0) (zj zg)==0 then true else lh_1.getD (toNat 1) (zj zg)==0)=
          true then
        (0,5)
       else (3,0)
      else
       if (ja0==[43])=true then if (!sQ lh_1 1)=true then (0,5) else (1,0)
       else if (ja0==[45])=true then if (!sQ lh_1 1)=true then (0,5) else (1,0) else (3,0)
 | x::r,i17,lh_1=>if ((g x l1).2 != 0)=true then (0,(g x l1).2) else cG g c l1 ja0 ja1 ja2 ja3 ja4 ja5 r (i17+1) (lh_1++[(g x l1).1])
def eR (g:Sem Sh.expr→Sem (Sh.sl zi)→Sem zg×Sem zg) (c:Sem Sh.expr→Sem (Sh.sl zi)→Bool) (l1:LC) (ja0:zo) (ja1:Int) (ja2:Int) (ja3:zo) (ja4:zo) (ja5:LX):List (Sem Sh.expr)→Int→List (Sem zg)→Bool
 | [],_,lh_1=>if (ja0==[108,105,116])=true then true
else
 if (ja0==[99,111,108])=true then
  if decide (zM l1 ja4 < 0)=true then true else if zI (zM l1 ja4) l1.length=true then true else false
 else
  if (ja0==[110,111,116])=true then true
  else
   if (ja0==[97,110,100])=true then true
   else
    if (ja0==[111,114])=true then true
    else
     if (ja0 == [61])=true then
      if
        (zI 0 lh_1.length&&
          (decide (toNat 0 < lh_1.length)&&
           (zI 1 lh_1.length&&
            (decide (toNat 1 < lh_1.length)&&
             bif lh_1.getD (toNat 0) (zj zg)==lh_1.getD (toNat 1) (zj zg) then true
             else
              zI 0 lh_1.length&&
               (decide (toNat 0 < lh_1.length)&&
                bif lh_1.getD (toNat 0) (zj zg)==0 then true
                else zI 1 lh_1.length&&decide (toNat 1 < lh_1.length))))))=
         true then
       true
      else false
     else
      if (ja0 == [60])=true then
       if
         (zI 0 lh_1.length&&
           (decide (toNat 0 < lh_1.length)&&
            (zI 1 lh_1.length&&
             (decide (toNat 1 < lh_1.length)&&
              bif lh_1.getD (toNat 0) (zj zg)==lh_1.getD (toNat 1) (zj zg) then true
              else
               zI 0 lh_1.length&&
                (decide (toNat 0 < lh_1.length)&&
                 bif lh_1.getD (toNat 0) (zj zg)==0 then true
                 else zI 1 lh_1.length&&decide (toNat 1 < lh_1.length))))))=
          true then
        true
       else false
      else true
 | x::r,i17,lh_1=>if c x l1=true then
 if ((g x l1).2 != 0)=true then true
 else
  if decide (lh_1.length+[(g x l1).1].length≤1073741824)=true then
   eR g c l1 ja0 ja1 ja2 ja3 ja4 ja5 r (i17+1) (lh_1++[(g x l1).1])
  else false
else false
theorem Po (g:Sem Sh.expr→Sem (Sh.sl zi)→Sem zg×Sem zg) (c:Sem Sh.expr→Sem (Sh.sl zi)→Bool) (hg:FK 136 (zG [Sh.expr,Sh.sl zi] [zg,zg] (fun x=>c x.1 x.2.1) fun x=>((g x.1 x.2.1).1,(g x.1 x.2.1).2,()))) {C:cH} (hC:∀ id,C.ρ0 id=none) (l1:LC) (ja0:zo) (ja1:Int) (ja2:Int) (ja3:zo) (ja4:zo) (ja5:LX) (l15:LX) (hl:l15.length≤zC):∀ (m i:Nat) (lh_1:LI),l15.length - i=m→i≤l15.length→eR g c l1 ja0 ja1 ja2 ja3 ja4 ja5 (l15.drop i) i lh_1=true→
  Reach (IB g c) C 136 (zy Tryz.f136 3) (wP l1 l15 (l15.length:Int) (i:Int) ja0 ja1 ja2 ja3 ja4 ja5 lh_1) (fun r h=>ap h [zg,zg] r=some ((cG g c l1 ja0 ja1 ja2 ja3 ja4 ja5 (l15.drop i) i lh_1).1,(cG g c l1 ja0 ja1 ja2 ja3 ja4 ja5 (l15.drop i) i lh_1).2,())):=by
 intro m
 induction m with
 | zero=>
  intro i lh_1 hm hi hc
  obtain rfl:i=l15.length:=by omega
  rw [cL] at hc ⊢
  refine zk (uQ hg) (wg g c) (fun id _=>hC id) (Hy g c _ _ _ _ _ _ _ _ _ _ _) ?_
  rw [eR] at hc
  generalize hy:cG g c l1 ja0 ja1 ja2 ja3 ja4 ja5 [] _ lh_1=y
  rw [cG] at hy
  simp only [ze.eta,zX,Tr.val_brF]
  repeat' (first | with_reducible refine eW hy hc (fun _ hy hc=>?_) (fun _ hy hc=>?_) | with_reducible refine ba hy (fun _ hy=>?_) (fun _ hy=>?_) | with_reducible refine bv hc (fun hc=>?_) | with_reducible refine zr ?_)
  all_goals (subst hy; first | rfl)
 | succ m IH=>
  intro i lh_1 hm hi hc
  have hlt:i < l15.length:=by omega
  have IH:=IH (i+1)
  have hcast:((i:Int)+1)=((i+1:Nat):Int):=by omega
  have hwr:=zD i (by omega)
  rw [dw hlt] at hc ⊢
  refine zk (uQ hg) (wg g c) (fun id _=>hC id) (Hy g c _ _ _ _ _ _ _ _ _ _ _) ?_
  rw [eR] at hc
  generalize hy:cG g c l1 ja0 ja1 ja2 ja3 ja4 ja5 (l15[i]::l15.drop (i+1)) (i:Int) lh_1=y
  rw [cG] at hy
  simp only [ze.eta,zT hlt,zB hlt,ac l15 _ hlt,hwr,Tr.val_brT,Tr.val_chkT]
  clear hwr
  simp only [hcast] at hy
  try simp only [hcast] at hc
  repeat' (first | with_reducible refine eW hy hc (fun _ hy hc=>?_) (fun _ hy hc=>?_) | with_reducible refine ba hy (fun _ hy=>?_) (fun _ hy=>?_) | with_reducible refine bv hc (fun hc=>?_) | with_reducible refine zr ?_)
  all_goals (subst hy; first | (change Reach _ _ _ _ _ _; apply IH <;> first | omega | assumption) | rfl)
theorem Ke (g:Sem Sh.expr→Sem (Sh.sl zi)→Sem zg×Sem zg) (c:Sem Sh.expr→Sem (Sh.sl zi)→Bool) (hg:FK 136 (zG [Sh.expr,Sh.sl zi] [zg,zg] (fun x=>c x.1 x.2.1) fun x=>((g x.1 x.2.1).1,(g x.1 x.2.1).2,()))) {C:cH} (hC:∀ id,C.ρ0 id=none) (l1:LC) (ja0:zo) (ja1:Int) (ja2:Int) (ja3:zo) (ja4:zo) (ja5:LX) (l15:LX) (lh_1:LI) (hc:eR g c l1 ja0 ja1 ja2 ja3 ja4 ja5 l15 0 lh_1=true):
  Reach (IB g c) C 136 (zy Tryz.f136 3) (wP l1 l15 (l15.length:Int) 0 ja0 ja1 ja2 ja3 ja4 ja5 lh_1) (fun r h=>ap h [zg,zg] r=some ((cG g c l1 ja0 ja1 ja2 ja3 ja4 ja5 l15 0 lh_1).1,(cG g c l1 ja0 ja1 ja2 ja3 ja4 ja5 l15 0 lh_1).2,())):=
 Reach.len 15 (Sh.expr) l15 rfl fun hl=>Po g c hg hC l1 ja0 ja1 ja2 ja3 ja4 ja5 l15 hl _ 0 lh_1 rfl (aV _) hc
def xe (g:Sem Sh.expr→Sem (Sh.sl zi)→Sem zg×Sem zg) (c:Sem Sh.expr→Sem (Sh.sl zi)→Bool) (x0:Sem Sh.expr) (x1:Sem zi.sl):Sem zg×Sem zg:=cG g c x1 (ze.op x0) (ze.v x0).1 (ze.v x0).2.1 (ze.v x0).2.2 (ze.s x0) (ze.l x0) (ze.l x0) 0 []
def tO (g:Sem Sh.expr→Sem (Sh.sl zi)→Sem zg×Sem zg) (c:Sem Sh.expr→Sem (Sh.sl zi)→Bool) (x0:Sem Sh.expr) (x1:Sem zi.sl):Bool:=eR g c x1 (ze.op x0) (ze.v x0).1 (ze.v x0).2.1 (ze.v x0).2.2 (ze.s x0) (ze.l x0) (ze.l x0) 0 []
def zfH (g:Sem Sh.expr→Sem (Sh.sl zi)→Sem zg×Sem zg) (c:Sem Sh.expr→Sem (Sh.sl zi)→Bool):zF:=zG [Sh.expr,zi.sl] [zg,zg] (fun x=>tO g c x.1 x.2.1) fun x=>((xe g c x.1 x.2.1).1,(xe g c x.1 x.2.1).2,())
theorem UB (g:Sem Sh.expr→Sem (Sh.sl zi)→Sem zg×Sem zg) (c:Sem Sh.expr→Sem (Sh.sl zi)→Bool) (hg:FK 136 (zG [Sh.expr,Sh.sl zi] [zg,zg] (fun x=>c x.1 x.2.1) fun x=>((g x.1 x.2.1).1,(g x.1 x.2.1).2,()))):FK 136 (zfH g c):=by
 refine zQ (wg g c) fun x hc C hC=>?_
 unfold tO at hc
 refine zk (uQ hg) (wg g c) (fun id _=>hC id) (zcu g c x.1 x.2.1) ?_
 generalize hy:xe g c x.1 x.2.1=y
 unfold xe at hy
 try simp only [ze.eta,zp]
 repeat' (first | with_reducible refine eW hy hc (fun _ hy hc=>?_) (fun _ hy hc=>?_) | with_reducible refine ba hy (fun _ hy=>?_) (fun _ hy=>?_) | with_reducible refine bv hc (fun hc=>?_) | with_reducible refine zr ?_)
 all_goals (subst hy; first | (change Reach _ _ _ _ _ _; apply Ke g c hg hC <;> first | assumption | exact hc) | rfl)
mutual
def fE:Nat→Sem Sh.expr→Sem (Sh.sl zi)→Sem zg×Sem zg
 | 0=>fun _ _=>default
 | n+1=>xe (fE n) (iX n)
def iX:Nat→Sem Sh.expr→Sem (Sh.sl zi)→Bool
 | 0=>fun _ _=>false
 | n+1=>tO (fE n) (iX n)
end
theorem JY:∀ n,FK 136 (zG [Sh.expr,Sh.sl zi] [zg,zg] (fun x=>iX n x.1 x.2.1) fun x=>((fE n x.1 x.2.1).1,(fE n x.1 x.2.1).2,()))
 | 0=>dv ⟨Tryz.f136,(wg default default).1,(wg default default).2.1,(wg default default).2.2.1⟩ (fun _=>rfl)
 | n+1=>UB (fE n) (iX n) (JY n)
def F51:zF:=zG [Sh.expr,Sh.sl zi] [zg,zg] (fun x=>iX 16 x.1 x.2.1) fun x=>((fE 16 x.1 x.2.1).1,(fE 16 x.1 x.2.1).2,())
theorem zax:FK 136 F51:=JY 16

noncomputable def CW:=KO.add 136 F51
theorem nk:zl CW:=yo.add zax

noncomputable def Iw (g:Sem Sh.expr→Sem zg→Sem zg→Sem Sh.expr×Sem zg) (c:Sem Sh.expr→Sem zg→Sem zg→Bool):bt:=CW.add 53 (zG [Sh.expr,zg,zg] [Sh.expr,zg] (fun x=>c x.1 x.2.1 x.2.2.1) fun x=>((g x.1 x.2.1 x.2.2.1).1,(g x.1 x.2.1 x.2.2.1).2,()))
theorem uJ {g:Sem Sh.expr→Sem zg→Sem zg→Sem Sh.expr×Sem zg} {c:Sem Sh.expr→Sem zg→Sem zg→Bool} (hg:FK 53 (zG [Sh.expr,zg,zg] [Sh.expr,zg] (fun x=>c x.1 x.2.1 x.2.2.1) fun x=>((g x.1 x.2.1 x.2.2.1).1,(g x.1 x.2.1 x.2.2.1).2,()))):zl (Iw g c):=nk.add hg
abbrev SF:Nat→ah:=fun j=>if j=10 then { slots:=[1,2,3,6,8,9],prom:=[(8,some 5,Sh.expr)] } else { }
abbrev fw (i1:Sem zg) (i2:Int) (i9:Int) (ja0:zo) (ja1:Int) (ja2:Int) (ja3:zo) (ja4:zo) (ja5:LX) (jb0:List UInt8) (jb1:Int) (jb2:Int) (jb3:List UInt8) (jb4:List UInt8) (jc0:List UInt8) (jc1:Int) (jc2:Int) (jc3:List UInt8) (jc4:List UInt8) (lh_3:LX):St:={ tmps:=(tm 88 [(1,ai i1),(2,ai i2),(3,AV.ptr 0 0),(6,AV.ptr 1 0),(8,AV.ptr 2 0),(9,ai i9)]),heap:=[AO.box [AV.str ja0,ai ja1,ai ja2,AV.str ja3,AV.str ja4,AV.sl Sh.expr ja5],AO.box [AV.str jb0,ai jb1,ai jb2,AV.str jb3,AV.str jb4,AV.nils],AO.box [AV.str jc0,ai jc1,ai jc2,AV.str jc3,AV.str jc4,AV.vec 3],AO.vec Sh.expr lh_3] }
theorem wd (g:Sem Sh.expr→Sem zg→Sem zg→Sem Sh.expr×Sem zg) (c:Sem Sh.expr→Sem zg→Sem zg→Bool):zA (Iw g c).P 53 Tryz.f53 3:=aQ (by kernel_rfl)
theorem zck (g:Sem Sh.expr→Sem zg→Sem zg→Sem Sh.expr×Sem zg) (c:Sem Sh.expr→Sem zg→Sem zg→Bool) (x0:Sem Sh.expr) (x1:Sem zg) (x2:Sem zg):rn (Iw g c) 0 SF Tryz.f53 [zz Sh.expr x0,zz zg x1,zz zg x2] []=Tr.br (decide ((↑(length (ze.op x0)):Int) > 8)) (Tr.chk (decide (0≤0)&&decide (0≤8)&&decide (8≤(↑(length (ze.op x0)):Int))) (Tr.br (decide ((↑(length (ze.s x0)):Int) > 20)) (Tr.chk (decide (0≤0)&&decide (0≤20)&&decide (20≤(↑(length (ze.s x0)):Int))) (Tr.br (decide ((↑(length (ze.v x0).2.2):Int) > 45)) (Tr.chk (decide (0≤0)&&decide (0≤45)&&decide (45≤(↑(length (ze.v x0).2.2):Int))) (Tr.ok (zt.head 10 (zy Tryz.f53 10) (fw x1 (IntKind.i64.wrap (x2 - 1)) 0 (ze.op x0) (ze.v x0).1 (ze.v x0).2.1 (ze.v x0).2.2 (ze.s x0) (ze.l x0) [] 0 0 [] [] (List.take (toNat 8 - toNat 0) (List.drop (toNat 0) (ze.op x0))) (ze.v x0).1 (ze.v x0).2.1 (List.take (toNat 45 - toNat 0) (List.drop (toNat 0) (ze.v x0).2.2)) (List.take (toNat 20 - toNat 0) (List.drop (toNat 0) (ze.s x0))) [])))) (Tr.ok (zt.head 10 (zy Tryz.f53 10) (fw x1 (IntKind.i64.wrap (x2 - 1)) 0 (ze.op x0) (ze.v x0).1 (ze.v x0).2.1 (ze.v x0).2.2 (ze.s x0) (ze.l x0) [] 0
 0 [] [] (List.take (toNat 8 - toNat 0) (List.drop (toNat 0) (ze.op x0))) (ze.v x0).1 (ze.v x0).2.1 (ze.v x0).2.2 (List.take (toNat 20 - toNat 0) (List.drop (toNat 0) (ze.s x0))) []))))) (Tr.br (decide ((↑(length (ze.v x0).2.2):Int) > 45)) (Tr.chk (decide (0≤0)&&decide (0≤45)&&decide (45≤(↑(length (ze.v x0).2.2):Int))) (Tr.ok (zt.head 10 (zy Tryz.f53 10) (fw x1 (IntKind.i64.wrap (x2 - 1)) 0 (ze.op x0) (ze.v x0).1 (ze.v x0).2.1 (ze.v x0).2.2 (ze.s x0) (ze.l x0) [] 0 0 [] [] (List.take (toNat 8 - toNat 0) (List.drop (toNat 0) (ze.op x0))) (ze.v x0).1 (ze.v x0).2.1 (List.take (toNat 45 - toNat 0) (List.drop (toNat 0) (ze.v x0).2.2)) (ze.s x0) [])))) (Tr.ok (zt.head 10 (zy Tryz.f53 10) (fw x1 (IntKind.i64.wrap (x2 - 1)) 0 (ze.op x0) (ze.v x0).1 (ze.v x0).2.1 (ze.v x0).2.2 (ze.s x0) (ze.l x0) [] 0 0 [] [] (List.take (toNat 8 - toNat 0) (List.drop (toNat 0) (ze.op x0))) (ze.v x0).1 (ze.v x0).2.1 (ze.v x0).2.2 (ze.s x0) [])))))) (Tr.br (decide ((↑(length (ze.s x0)):Int) > 20)) (Tr.chk (decide (0≤0)&&decide (0≤20)&&decide (20≤(↑(length (ze.s x0)):Int))) (Tr.br (decide ((↑(length (ze.v x0).2.2):Int) > 45)) (Tr.chk (decide (0≤0)&&decide (0≤45)&&decide (45≤(↑(length (ze.v x0).2.2):Int))) (Tr.ok (zt.head 10 (zy Tryz.f53 10)
 (fw x1 (IntKind.i64.wrap (x2 - 1)) 0 (ze.op x0) (ze.v x0).1 (ze.v x0).2.1 (ze.v x0).2.2 (ze.s x0) (ze.l x0) [] 0 0 [] [] (ze.op x0) (ze.v x0).1 (ze.v x0).2.1 (List.take (toNat 45 - toNat 0) (List.drop (toNat 0) (ze.v x0).2.2)) (List.take (toNat 20 - toNat 0) (List.drop (toNat 0) (ze.s x0))) [])))) (Tr.ok (zt.head 10 (zy Tryz.f53 10) (fw x1 (IntKind.i64.wrap (x2 - 1)) 0 (ze.op x0) (ze.v x0).1 (ze.v x0).2.1 (ze.v x0).2.2 (ze.s x0) (ze.l x0) [] 0 0 [] [] (ze.op x0) (ze.v x0).1 (ze.v x0).2.1 (ze.v x0).2.2 (List.take (toNat 20 - toNat 0) (List.drop (toNat 0) (ze.s x0))) []))))) (Tr.br (decide ((↑(length (ze.v x0).2.2):Int) > 45)) (Tr.chk (decide (0≤0)&&decide (0≤45)&&decide (45≤(↑(length (ze.v x0).2.2):Int))) (Tr.ok (zt.head 10 (zy Tryz.f53 10) (fw x1 (IntKind.i64.wrap (x2 - 1)) 0 (ze.op x0) (ze.v x0).1 (ze.v x0).2.1 (ze.v x0).2.2 (ze.s x0) (ze.l x0) [] 0 0 [] [] (ze.op x0) (ze.v x0).1 (ze.v x0).2.1 (List.take (toNat 45 - toNat 0) (List.drop (toNat 0) (ze.v x0).2.2)) (ze.s x0) [])))) (Tr.ok (zt.head 10 (zy Tryz.f53 10) (fw x1 (IntKind.i64.wrap (x2 - 1)) 0 (ze.op x0) (ze.v x0).1 (ze.v x0).2.1 (ze.v x0).2.2 (ze.s x0) (ze.l x0) [] 0 0 [] [] (ze.op x0) (ze.v x0).1 (ze.v x0).2.1 (ze.v x0).2.2 (ze.s x0) []))))):=by kernel_rfl
theorem DB (g:Sem Sh.expr→Sem zg→Sem zg→Sem Sh.expr×Sem zg) (c:Sem Sh.expr→Sem zg→Sem zg→Bool) (i1:Sem zg) (i2:Int) (i9:Int) (ja0:zo) (ja1:Int) (ja2:Int) (ja3:zo) (ja4:zo) (ja5:LX) (jb0:List UInt8) (jb1:Int) (jb2:Int) (jb3:List UInt8) (jb4:List UInt8) (jc0:List UInt8) (jc1:Int) (jc2:Int) (jc3:List UInt8) (jc4:List UInt8) (lh_3:LX):rh (Iw g c) 0 SF Tryz.f53 10 (fw i1 i2 i9 ja0 ja1 ja2 ja3 ja4 ja5 jb0 jb1 jb2 jb3 jb4 jc0 jc1 jc2 jc3 jc4 lh_3)=Tr.br (bif decide (i9 < (↑ja5.length:Int)) then bif decide (i9 < 3) then bif decide (i1 > 0) then decide (i2 > 0) else false else false else false) (Tr.chk (zI i9 ja5.length) (Tr.chk (c (zE (ja5.getD i9.toNat (zj Sh.expr))) (IntKind.i64.wrap (i1 - 1)) i2) (Tr.chk (decide (lh_3.length+[ze.mk (ze.op (g (zE (ja5.getD i9.toNat (zj Sh.expr))) (IntKind.i64.wrap (i1 - 1)) i2).1) (ze.v (g (zE (ja5.getD i9.toNat (zj Sh.expr))) (IntKind.i64.wrap (i1 - 1)) i2).1) (ze.s (g (zE (ja5.getD i9.toNat (zj Sh.expr))) (IntKind.i64.wrap (i1 - 1)) i2).1) (ze.l (g (zE (ja5.getD i9.toNat (zj Sh.expr))) (IntKind.i64.wrap (i1 - 1)) i2).1)].length≤1073741824)) (Tr.ok (zt.head 10 (zy Tryz.f53 10) (fw i1 (g (zE (ja5.getD i9.toNat (zj Sh.expr))) (IntKind.i64.wrap (i1 - 1)) i2).2
 (IntKind.i64.wrap (i9+1)) ja0 ja1 ja2 ja3 ja4 ja5 jb0 jb1 jb2 jb3 jb4 jc0 jc1 jc2 jc3 jc4 (lh_3++[ze.mk (ze.op (g (zE (ja5.getD i9.toNat (zj Sh.expr))) (IntKind.i64.wrap (i1 - 1)) i2).1) (ze.v (g (zE (ja5.getD i9.toNat (zj Sh.expr))) (IntKind.i64.wrap (i1 - 1)) i2).1) (ze.s (g (zE (ja5.getD i9.toNat (zj Sh.expr))) (IntKind.i64.wrap (i1 - 1)) i2).1) (ze.l (g (zE (ja5.getD i9.toNat (zj Sh.expr))) (IntKind.i64.wrap (i1 - 1)) i2).1)]))))))) (Tr.ok (zt.ret (AV.tup [AV.agg [AV.str jc0,ai jc1,ai jc2,AV.str jc3,AV.str jc4,AV.vec 0],ai i2]) [AO.vec Sh.expr lh_3])):=by kernel_rfl
def cz (g:Sem Sh.expr→Sem zg→Sem zg→Sem Sh.expr×Sem zg) (c:Sem Sh.expr→Sem zg→Sem zg→Bool) (i1:Sem zg) (ja0:zo) (ja1:Int) (ja2:Int) (ja3:zo) (ja4:zo) (jb0:List UInt8) (jb1:Int) (jb2:Int) (jb3:List UInt8) (jb4:List UInt8) (jc0:List UInt8) (jc1:Int) (jc2:Int) (jc3:List UInt8) (jc4:List UInt8):List (Sem Sh.expr)→Int→Int→List (Sem Sh.expr)→Sem Sh.expr×Sem zg
 | [],_,i2,lh_3=>(ze.mk jc0 (jc1,jc2,jc3) jc4 lh_3,i2)
 | x::r,i9,i2,lh_3=>if (bif decide (i9 < 3) then bif decide (i1 > 0) then decide (i2 > 0) else false else false)=true then
 cz g c i1 ja0 ja1 ja2 ja3 ja4 jb0 jb1 jb2 jb3 jb4 jc0 jc1 jc2 jc3 jc4 r (i9+1)
  (g x (IntKind.i64.wrap (i1 - 1)) i2).2 (lh_3++[(g x (IntKind.i64.wrap (i1 - 1)) i2).1])
else (ze.mk jc0 (jc1,jc2,jc3) jc4 lh_3,i2)
def cR (g:Sem Sh.expr→Sem zg→Sem zg→Sem Sh.expr×Sem zg) (c:Sem Sh.expr→Sem zg→Sem zg→Bool) (i1:Sem zg) (ja0:zo) (ja1:Int) (ja2:Int) (ja3:zo) (ja4:zo) (jb0:List UInt8) (jb1:Int) (jb2:Int) (jb3:List UInt8) (jb4:List UInt8) (jc0:List UInt8) (jc1:Int) (jc2:Int) (jc3:List UInt8) (jc4:List UInt8):List (Sem Sh.expr)→Int→Int→List (Sem Sh.expr)→Bool
 | [],_,_,_=>true
 | x::r,i9,i2,lh_3=>if (bif decide (i9 < 3) then bif decide (i1 > 0) then decide (i2 > 0) else false else false)=true then
 if c x (IntKind.i64.wrap (i1 - 1)) i2=true then
  if decide (lh_3.length+[(g x (IntKind.i64.wrap (i1 - 1)) i2).1].length≤1073741824)=true then
   cR g c i1 ja0 ja1 ja2 ja3 ja4 jb0 jb1 jb2 jb3 jb4 jc0 jc1 jc2 jc3 jc4 r (i9+1)
    (g x (IntKind.i64.wrap (i1 - 1)) i2).2 (lh_3++[(g x (IntKind.i64.wrap (i1 - 1)) i2).1])
  else false
 else false
else true
theorem Kc (g:Sem Sh.expr→Sem zg→Sem zg→Sem Sh.expr×Sem zg) (c:Sem Sh.expr→Sem zg→Sem zg→Bool) (hg:FK 53 (zG [Sh.expr,zg,zg] [Sh.expr,zg] (fun x=>c x.1 x.2.1 x.2.2.1) fun x=>((g x.1 x.2.1 x.2.2.1).1,(g x.1 x.2.1 x.2.2.1).2,()))) {C:cH} (hC:∀ id,C.ρ0 id=none) (i1:Sem zg) (ja0:zo) (ja1:Int) (ja2:Int) (ja3:zo) (ja4:zo) (jb0:List UInt8) (jb1:Int) (jb2:Int) (jb3:List UInt8) (jb4:List UInt8) (jc0:List UInt8) (jc1:Int) (jc2:Int) (jc3:List UInt8) (jc4:List UInt8) (ja5:LX) (hl:ja5.length≤zC):∀ (m i:Nat) (i2:Int) (lh_3:LX),ja5.length - i=m→i≤ja5.length→cR g c i1 ja0 ja1 ja2 ja3 ja4 jb0 jb1 jb2 jb3 jb4 jc0 jc1 jc2 jc3 jc4 (ja5.drop i) i i2 lh_3=true→
  Reach (Iw g c) C 53 (zy Tryz.f53 10) (fw i1 i2 (i:Int) ja0 ja1 ja2 ja3 ja4 ja5 jb0 jb1 jb2 jb3 jb4 jc0 jc1 jc2 jc3 jc4 lh_3) (fun r h=>ap h [Sh.expr,zg] r=some ((cz g c i1 ja0 ja1 ja2 ja3 ja4 jb0 jb1 jb2 jb3 jb4 jc0 jc1 jc2 jc3 jc4 (ja5.drop i) i i2 lh_3).1,(cz g c i1 ja0 ja1 ja2 ja3 ja4 jb0 jb1 jb2 jb3 jb4 jc0 jc1 jc2 jc3 jc4 (ja5.drop i) i i2 lh_3).2,())):=by
 intro m
 induction m with
 | zero=>
  intro i i2 lh_3 hm hi hc
  obtain rfl:i=ja5.length:=by omega
  rw [cL] at hc ⊢
  refine zk (uJ hg) (wd g c) (fun id _=>hC id) (DB g c _ _ _ _ _ _ _ _ _ _ _ _ _ _ _ _ _ _ _ _) ?_
  rw [cR] at hc
  generalize hy:cz g c i1 ja0 ja1 ja2 ja3 ja4 jb0 jb1 jb2 jb3 jb4 jc0 jc1 jc2 jc3 jc4 [] _ i2 lh_3=y
  rw [cz] at hy
  simp only [ze.eta,zX,bQ,Tr.val_brF]
  repeat' (first | with_reducible refine eW hy hc (fun _ hy hc=>?_) (fun _ hy hc=>?_) | with_reducible refine ba hy (fun _ hy=>?_) (fun _ hy=>?_) | with_reducible refine bv hc (fun hc=>?_) | with_reducible refine zr ?_)
  all_goals (subst hy; first | rfl)
 | succ m IH=>
  intro i i2 lh_3 hm hi hc
  have hlt:i < ja5.length:=by omega
  have IH:=IH (i+1)
  have hcast:((i:Int)+1)=((i+1:Nat):Int):=by omega
  have hwr:=zD i (by omega)
  rw [dw hlt] at hc ⊢
  refine zk (uJ hg) (wd g c) (fun id _=>hC id) (DB g c _ _ _ _ _ _ _ _ _ _ _ _ _ _ _ _ _ _ _ _) ?_
  rw [cR] at hc
  generalize hy:cz g c i1 ja0 ja1 ja2 ja3 ja4 jb0 jb1 jb2 jb3 jb4 jc0 jc1 jc2 jc3 jc4 (ja5[i]::ja5.drop (i+1)) (i:Int) i2 lh_3=y
  rw [cz] at hy
  simp only [ze.eta,zT hlt,zB hlt,ac ja5 _ hlt,hwr,bR]
  clear hwr
  simp only [hcast] at hy
  try simp only [hcast] at hc
  repeat' (first | with_reducible refine eW hy hc (fun _ hy hc=>?_) (fun _ hy hc=>?_) | with_reducible refine ba hy (fun _ hy=>?_) (fun _ hy=>?_) | with_reducible refine bv hc (fun hc=>?_) | with_reducible refine zr ?_)
  all_goals (subst hy; first | (change Reach _ _ _ _ _ _; apply IH <;> first | omega | assumption) | rfl)
theorem Il (g:Sem Sh.expr→Sem zg→Sem zg→Sem Sh.expr×Sem zg) (c:Sem Sh.expr→Sem zg→Sem zg→Bool) (hg:FK 53 (zG [Sh.expr,zg,zg] [Sh.expr,zg] (fun x=>c x.1 x.2.1 x.2.2.1) fun x=>((g x.1 x.2.1 x.2.2.1).1,(g x.1 x.2.1 x.2.2.1).2,()))) {C:cH} (hC:∀ id,C.ρ0 id=none) (i1:Sem zg) (ja0:zo) (ja1:Int) (ja2:Int) (ja3:zo) (ja4:zo) (jb0:List UInt8) (jb1:Int) (jb2:Int) (jb3:List UInt8) (jb4:List UInt8) (jc0:List UInt8) (jc1:Int) (jc2:Int) (jc3:List UInt8) (jc4:List UInt8) (ja5:LX) (i2:Int) (lh_3:LX) (hc:cR g c i1 ja0 ja1 ja2 ja3 ja4 jb0 jb1 jb2 jb3 jb4 jc0 jc1 jc2 jc3 jc4 ja5 0 i2 lh_3=true):
  Reach (Iw g c) C 53 (zy Tryz.f53 10) (fw i1 i2 0 ja0 ja1 ja2 ja3 ja4 ja5 jb0 jb1 jb2 jb3 jb4 jc0 jc1 jc2 jc3 jc4 lh_3) (fun r h=>ap h [Sh.expr,zg] r=some ((cz g c i1 ja0 ja1 ja2 ja3 ja4 jb0 jb1 jb2 jb3 jb4 jc0 jc1 jc2 jc3 jc4 ja5 0 i2 lh_3).1,(cz g c i1 ja0 ja1 ja2 ja3 ja4 jb0 jb1 jb2 jb3 jb4 jc0 jc1 jc2 jc3 jc4 ja5 0 i2 lh_3).2,())):=
 Reach.lenB 0 5 (Sh.expr) ja5 rfl rfl fun hl=>Kc g c hg hC i1 ja0 ja1 ja2 ja3 ja4 jb0 jb1 jb2 jb3 jb4 jc0 jc1 jc2 jc3 jc4 ja5 hl _ 0 i2 lh_3 rfl (aV _) hc
def Fb (g:Sem Sh.expr→Sem zg→Sem zg→Sem Sh.expr×Sem zg) (c:Sem Sh.expr→Sem zg→Sem zg→Bool) (x0:Sem Sh.expr) (x1:Sem zg) (x2:Sem zg):Sem Sh.expr×Sem zg:=if decide ((↑(length (ze.op x0)):Int) > 8)=true then if decide ((↑(length (ze.s x0)):Int) > 20)=true then if decide ((↑(length (ze.v x0).2.2):Int) > 45)=true then cz g c x1 (ze.op x0) (ze.v x0).1 (ze.v x0).2.1 (ze.v x0).2.2 (ze.s x0) [] 0 0 [] [] (List.take (toNat 8 - toNat 0) (List.drop (toNat 0) (ze.op x0))) (ze.v x0).1 (ze.v x0).2.1 (List.take (toNat 45 - toNat 0) (List.drop (toNat 0) (ze.v x0).2.2)) (List.take (toNat 20 - toNat 0) (List.drop (toNat 0) (ze.s x0))) (ze.l x0) 0 (IntKind.i64.wrap (x2 - 1)) [] else cz g c x1 (ze.op x0) (ze.v x0).1 (ze.v x0).2.1 (ze.v x0).2.2 (ze.s x0) [] 0 0 [] [] (List.take (toNat 8 - toNat 0) (List.drop (toNat 0) (ze.op x0))) (ze.v x0).1 (ze.v x0).2.1 (ze.v x0).2.2 (List.take (toNat 20 - toNat 0) (List.drop (toNat 0) (ze.s x0))) (ze.l x0) 0 (IntKind.i64.wrap (x2 - 1)) [] else if decide ((↑(length (ze.v x0).2.2):Int) > 45)=true then cz g c x1 (ze.op x0) (ze.v x0).1 (ze.v x0).2.1 (ze.v x0).2.2 (ze.s x0) [] 0 0 [] [] (List.take (toNat 8 - toNat 0) (List.drop (toNat 0) (ze.op x0))) (ze.v x0).1 (ze.v x0).2.1
 (List.take (toNat 45 - toNat 0) (List.drop (toNat 0) (ze.v x0).2.2)) (ze.s x0) (ze.l x0) 0 (IntKind.i64.wrap (x2 - 1)) [] else cz g c x1 (ze.op x0) (ze.v x0).1 (ze.v x0).2.1 (ze.v x0).2.2 (ze.s x0) [] 0 0 [] [] (List.take (toNat 8 - toNat 0) (List.drop (toNat 0) (ze.op x0))) (ze.v x0).1 (ze.v x0).2.1 (ze.v x0).2.2 (ze.s x0) (ze.l x0) 0 (IntKind.i64.wrap (x2 - 1)) [] else if decide ((↑(length (ze.s x0)):Int) > 20)=true then if decide ((↑(length (ze.v x0).2.2):Int) > 45)=true then cz g c x1 (ze.op x0) (ze.v x0).1 (ze.v x0).2.1 (ze.v x0).2.2 (ze.s x0) [] 0 0 [] [] (ze.op x0) (ze.v x0).1 (ze.v x0).2.1 (List.take (toNat 45 - toNat 0) (List.drop (toNat 0) (ze.v x0).2.2)) (List.take (toNat 20 - toNat 0) (List.drop (toNat 0) (ze.s x0))) (ze.l x0) 0 (IntKind.i64.wrap (x2 - 1)) [] else cz g c x1 (ze.op x0) (ze.v x0).1 (ze.v x0).2.1 (ze.v x0).2.2 (ze.s x0) [] 0 0 [] [] (ze.op x0) (ze.v x0).1 (ze.v x0).2.1 (ze.v x0).2.2 (List.take (toNat 20 - toNat 0) (List.drop (toNat 0) (ze.s x0))) (ze.l x0) 0 (IntKind.i64.wrap (x2 - 1)) [] else if decide ((↑(length (ze.v x0).2.2):Int) > 45)=true then cz g c x1 (ze.op x0) (ze.v x0).1 (ze.v x0).2.1 (ze.v x0).2.2 (ze.s x0) [] 0 0 [] [] (ze.op x0) (ze.v x0).1
 (ze.v x0).2.1 (List.take (toNat 45 - toNat 0) (List.drop (toNat 0) (ze.v x0).2.2)) (ze.s x0) (ze.l x0) 0 (IntKind.i64.wrap (x2 - 1)) [] else cz g c x1 (ze.op x0) (ze.v x0).1 (ze.v x0).2.1 (ze.v x0).2.2 (ze.s x0) [] 0 0 [] [] (ze.op x0) (ze.v x0).1 (ze.v x0).2.1 (ze.v x0).2.2 (ze.s x0) (ze.l x0) 0 (IntKind.i64.wrap (x2 - 1)) []
def Dg (g:Sem Sh.expr→Sem zg→Sem zg→Sem Sh.expr×Sem zg) (c:Sem Sh.expr→Sem zg→Sem zg→Bool) (x0:Sem Sh.expr) (x1:Sem zg) (x2:Sem zg):Bool:=if decide ((↑(length (ze.op x0)):Int) > 8)=true then if (decide (0≤0)&&decide (0≤8)&&decide (8≤(↑(length (ze.op x0)):Int)))=true then if decide ((↑(length (ze.s x0)):Int) > 20)=true then if (decide (0≤0)&&decide (0≤20)&&decide (20≤(↑(length (ze.s x0)):Int)))=true then if decide ((↑(length (ze.v x0).2.2):Int) > 45)=true then if (decide (0≤0)&&decide (0≤45)&&decide (45≤(↑(length (ze.v x0).2.2):Int)))=true then cR g c x1 (ze.op x0) (ze.v x0).1 (ze.v x0).2.1 (ze.v x0).2.2 (ze.s x0) [] 0 0 [] [] (List.take (toNat 8 - toNat 0) (List.drop (toNat 0) (ze.op x0))) (ze.v x0).1 (ze.v x0).2.1 (List.take (toNat 45 - toNat 0) (List.drop (toNat 0) (ze.v x0).2.2)) (List.take (toNat 20 - toNat 0) (List.drop (toNat 0) (ze.s x0))) (ze.l x0) 0 (IntKind.i64.wrap (x2 - 1)) [] else false else cR g c x1 (ze.op x0) (ze.v x0).1 (ze.v x0).2.1 (ze.v x0).2.2 (ze.s x0) [] 0 0 [] [] (List.take (toNat 8 - toNat 0) (List.drop (toNat 0) (ze.op x0))) (ze.v x0).1 (ze.v x0).2.1 (ze.v x0).2.2
 (List.take (toNat 20 - toNat 0) (List.drop (toNat 0) (ze.s x0))) (ze.l x0) 0 (IntKind.i64.wrap (x2 - 1)) [] else false else if decide ((↑(length (ze.v x0).2.2):Int) > 45)=true then if (decide (0≤0)&&decide (0≤45)&&decide (45≤(↑(length (ze.v x0).2.2):Int)))=true then cR g c x1 (ze.op x0) (ze.v x0).1 (ze.v x0).2.1 (ze.v x0).2.2 (ze.s x0) [] 0 0 [] [] (List.take (toNat 8 - toNat 0) (List.drop (toNat 0) (ze.op x0))) (ze.v x0).1 (ze.v x0).2.1 (List.take (toNat 45 - toNat 0) (List.drop (toNat 0) (ze.v x0).2.2)) (ze.s x0) (ze.l x0) 0 (IntKind.i64.wrap (x2 - 1)) [] else false else cR g c x1 (ze.op x0) (ze.v x0).1 (ze.v x0).2.1 (ze.v x0).2.2 (ze.s x0) [] 0 0 [] [] (List.take (toNat 8 - toNat 0) (List.drop (toNat 0) (ze.op x0))) (ze.v x0).1 (ze.v x0).2.1 (ze.v x0).2.2 (ze.s x0) (ze.l x0) 0 (IntKind.i64.wrap (x2 - 1)) [] else false else if decide ((↑(length (ze.s x0)):Int) > 20)=true then if (decide (0≤0)&&decide (0≤20)&&decide (20≤(↑(length (ze.s x0)):Int)))=true then if decide ((↑(length (ze.v x0).2.2):Int) > 45)=true then if (decide (0≤0)&&decide (0≤45)&&decide (45≤(↑(length (ze.v x0).2.2):Int)))=true then cR g c x1 (ze.op x0) (ze.v x0).1 (ze.v x0).2.1 (ze.v x0).2.2 (ze.s x0) [] 0 0 [] [] (ze.op x0) (ze.v x0).1
 (ze.v x0).2.1 (List.take (toNat 45 - toNat 0) (List.drop (toNat 0) (ze.v x0).2.2)) (List.take (toNat 20 - toNat 0) (List.drop (toNat 0) (ze.s x0))) (ze.l x0) 0 (IntKind.i64.wrap (x2 - 1)) [] else false else cR g c x1 (ze.op x0) (ze.v x0).1 (ze.v x0).2.1 (ze.v x0).2.2 (ze.s x0) [] 0 0 [] [] (ze.op x0) (ze.v x0).1 (ze.v x0).2.1 (ze.v x0).2.2 (List.take (toNat 20 - toNat 0) (List.drop (toNat 0) (ze.s x0))) (ze.l x0) 0 (IntKind.i64.wrap (x2 - 1)) [] else false else if decide ((↑(length (ze.v x0).2.2):Int) > 45)=true then if (decide (0≤0)&&decide (0≤45)&&decide (45≤(↑(length (ze.v x0).2.2):Int)))=true then cR g c x1 (ze.op x0) (ze.v x0).1 (ze.v x0).2.1 (ze.v x0).2.2 (ze.s x0) [] 0 0 [] [] (ze.op x0) (ze.v x0).1 (ze.v x0).2.1 (List.take (toNat 45 - toNat 0) (List.drop (toNat 0) (ze.v x0).2.2)) (ze.s x0) (ze.l x0) 0 (IntKind.i64.wrap (x2 - 1)) [] else false else cR g c x1 (ze.op x0) (ze.v x0).1 (ze.v x0).2.1 (ze.v x0).2.2 (ze.s x0) [] 0 0 [] [] (ze.op x0) (ze.v x0).1 (ze.v x0).2.1 (ze.v x0).2.2 (ze.s x0) (ze.l x0) 0 (IntKind.i64.wrap (x2 - 1)) []
def zfG (g:Sem Sh.expr→Sem zg→Sem zg→Sem Sh.expr×Sem zg) (c:Sem Sh.expr→Sem zg→Sem zg→Bool):zF:=zG [Sh.expr,zg,zg] [Sh.expr,zg] (fun x=>Dg g c x.1 x.2.1 x.2.2.1) fun x=>((Fb g c x.1 x.2.1 x.2.2.1).1,(Fb g c x.1 x.2.1 x.2.2.1).2,())
theorem TX (g:Sem Sh.expr→Sem zg→Sem zg→Sem Sh.expr×Sem zg) (c:Sem Sh.expr→Sem zg→Sem zg→Bool) (hg:FK 53 (zG [Sh.expr,zg,zg] [Sh.expr,zg] (fun x=>c x.1 x.2.1 x.2.2.1) fun x=>((g x.1 x.2.1 x.2.2.1).1,(g x.1 x.2.1 x.2.2.1).2,()))):FK 53 (zfG g c):=by
 refine zQ (wd g c) fun x hc C hC=>?_
 unfold Dg at hc
 refine zk (uJ hg) (wd g c) (fun id _=>hC id) (zck g c x.1 x.2.1 x.2.2.1) ?_
 generalize hy:Fb g c x.1 x.2.1 x.2.2.1=y
 unfold Fb at hy
 try simp only [ze.eta,zp]
 repeat' (first | with_reducible refine eW hy hc (fun _ hy hc=>?_) (fun _ hy hc=>?_) | with_reducible refine ba hy (fun _ hy=>?_) (fun _ hy=>?_) | with_reducible refine bv hc (fun hc=>?_) | with_reducible refine zr ?_)
 all_goals (subst hy; first | (change Reach _ _ _ _ _ _; apply Il g c hg hC <;> first | assumption | exact hc) | rfl)
mutual
def lu:Nat→Sem Sh.expr→Sem zg→Sem zg→Sem Sh.expr×Sem zg
 | 0=>fun _ _ _=>default
 | n+1=>Fb (lu n) (pN n)
def pN:Nat→Sem Sh.expr→Sem zg→Sem zg→Bool
 | 0=>fun _ _ _=>false
 | n+1=>Dg (lu n) (pN n)
end
theorem JT:∀ n,FK 53 (zG [Sh.expr,zg,zg] [Sh.expr,zg] (fun x=>pN n x.1 x.2.1 x.2.2.1) fun x=>((lu n x.1 x.2.1 x.2.2.1).1,(lu n x.1 x.2.1 x.2.2.1).2,()))
 | 0=>dv ⟨Tryz.f53,(wd default default).1,(wd default default).2.1,(wd default default).2.2.1⟩ (fun _=>rfl)
 | n+1=>TX (lu n) (pN n) (JT n)
def F15:zF:=zG [Sh.expr,zg,zg] [Sh.expr,zg] (fun x=>pN 16 x.1 x.2.1 x.2.2.1) fun x=>((lu 16 x.1 x.2.1 x.2.2.1).1,(lu 16 x.1 x.2.1 x.2.2.1).2,())
theorem Z2:FK 53 F15:=JT 16

def eqL (g:ze→ze→Bool):List ze→List ze→Bool
 | x::r,y::s=>if (!g x y)=true then false else eqL g r s
 | _,_=>true
def PO (g c:ze→ze→Bool):List ze→List ze→Bool
 | x::r,y::s=>if c x y=true then (if (!g x y)=true then true else PO g c r s) else false
 | _,_=>true

noncomputable def IA (g c:ze→ze→Bool):bt:=CW.add 128 (zG [.expr,.expr] [.bool] (fun x=>c x.1 x.2.1) (fun x=>(g x.1 x.2.1,())))
theorem uP {g c:ze→ze→Bool} (hg:FK 128 (zG [.expr,.expr] [.bool] (fun x=>c x.1 x.2.1) (fun x=>(g x.1 x.2.1,())))):zl (IA g c):=nk.add hg
abbrev zdx:Nat→ah:=fun j=>if j=4 then { slots:=[1,2,15,16,17] } else { }
abbrev HT (l1:List ze) (l15:List ze) (i16:Int) (i17:Int):St:={ tmps:=(tm 32 [(1,AV.sl Sh.expr l1),(2,AV.clo (Fn.func 128) [] []),(15,AV.sl Sh.expr l15),(16,ai i16),(17,ai i17)]),heap:=[] }
theorem Qe (g c:ze→ze→Bool):zA (IA g c).P 196 Tryz.f196 3:=aQ (by kernel_rfl)
theorem zgG (g c:ze→ze→Bool) (l:List ze) (m:List ze):rn (IA g c) 0 zdx Tryz.f196 [AV.sl Sh.expr l,AV.sl Sh.expr m,AV.clo (Fn.func 128) [] []] []=Tr.br ((↑l.length:Int) != (↑m.length:Int)) (Tr.ok (zt.ret (AV.kb false) [])) (Tr.ok (zt.head 4 (zy Tryz.f196 4) (HT m l (↑l.length:Int) 0))):=by kernel_rfl
theorem MV (g c:ze→ze→Bool) (l1:List ze) (l15:List ze) (i16:Int) (i17:Int):rh (IA g c) 0 zdx Tryz.f196 4 (HT l1 l15 i16 i17)=Tr.br (decide (i17 < i16)) (Tr.chk (zI i17 l15.length) (Tr.chk (zI i17 l1.length) (Tr.chk (c (zE (l15.getD i17.toNat (zj Sh.expr))) (zE (l1.getD i17.toNat (zj Sh.expr)))) (Tr.br (!g (zE (l15.getD i17.toNat (zj Sh.expr))) (zE (l1.getD i17.toNat (zj Sh.expr)))) (Tr.ok (zt.ret (AV.kb false) [])) (Tr.ok (zt.head 4 (zy Tryz.f196 4) (HT l1 l15 i16 (IntKind.i64.wrap (i17+1))))))))) (Tr.ok (zt.ret (AV.kb true) [])):=by kernel_rfl

theorem zfQ {g c:ze→ze→Bool} (hg:FK 128 (zG [.expr,.expr] [.bool] (fun x=>c x.1 x.2.1) (fun x=>(g x.1 x.2.1,())))) {C:cH} (hC:∀ id,0≤id→C.ρ0 id=none) (l m:List ze) (hlm:l.length=m.length) (hl:l.length≤zC):
  ∀ (k i:Nat),l.length - i=k→i≤l.length→PO g c (l.drop i) (m.drop i)=true→Reach (IA g c) C 196 (zy Tryz.f196 4) (HT m l l.length i) (fun r h=>(r,h)=(.kb (eqL g (l.drop i) (m.drop i)),[])):=by
 intro k
 induction k with
 | zero=>
  intro i hk hi hc
  obtain rfl:i=l.length:=by omega
  refine zk (uP hg) (Qe g c) hC (MV g c _ _ _ _) ?_
  simp only [zX,Tr.val_brF,cL]
  rfl
 | succ k IH=>
  intro i hk hi hc
  have hlt:i < l.length:=by omega
  have hlt':i < m.length:=by omega
  refine zk (uP hg) (Qe g c) hC (MV g c _ _ _ _) ?_
  rw [dw hlt,dw hlt'] at hc ⊢
  rw [PO] at hc
  have hc1:=nA hc
  simp only [zT hlt,zB hlt,zB hlt',ac l _ hlt,ac m _ hlt',ze.eta,Tr.val_brT,Tr.val_chkT,hc1.1,zD i (by omega)]
  refine kk (fun h=>?_) (fun h=>?_)
  ·rw [eqL,if_pos h]; rfl
  ·rw [eqL,if_neg (kJ h)]
   have h2:=hc1.2
   rw [if_neg (kJ h)] at h2
   exact IH (i+1) (by omega) (by omega) h2

def PP (g:ze→ze→Bool) (l m:List ze):Bool:=if ((↑l.length:Int) != (↑m.length:Int))=true then false else eqL g l m
def yW (g c:ze→ze→Bool) (l m:List ze):Bool:=if ((↑l.length:Int) != (↑m.length:Int))=true then true else PO g c l m
def G50 (g c:ze→ze→Bool):cF [some (.sl .expr),some (.sl .expr),none]:=fun x h=>match x,h with
 | (l,m,.clo (.func 128) [] [],_),[]=>.chk (yW g c l m) (.ok (.bool (PP g l m),[]))
 | _,_=>.err
def F50 (g c:ze→ze→Bool):zF:=zU [some (.sl .expr),some (.sl .expr),none] (G50 g c)

theorem Reach.weaken {E:bt} {C:cH} {fn:FuncId} {todo:List Item} {st:St} {Q Q':AV→List AO→Prop} (h:Reach E C fn todo st Q) (hq:∀ r h,Q r h→∃ r',Q' r' h∧∀ w U ρ v,Rv w U ρ r v→Rv w U ρ r' v):Reach E C fn todo st Q':=by
 intro b cs a w U ρ h1 h2 hc hW
 obtain ⟨e,w',fr,⟨v,r,h',U',ρ',he,hq1,hrv,hrest⟩,hcm⟩:=h b cs a w U ρ h1 h2 hc hW
 obtain ⟨r',hq2,hrr⟩:=hq r h' hq1
 exact ⟨e,w',fr,⟨v,r',h',U',ρ',he,hq2,hrr _ _ _ _ hrv,hrest⟩,hcm⟩

theorem zaw {g c:ze→ze→Bool} (hg:FK 128 (zG [.expr,.expr] [.bool] (fun x=>c x.1 x.2.1) (fun x=>(g x.1 x.2.1,())))):FK 196 (F50 g c):=by
 refine bA (E:=IA g c) (Qe g c) fun x h0 res hx C hC=>?_
 unfold G50 at hx
 split at hx
 ·rename_i l m u
  simp only [Tr.val] at hx
  split at hx
  ·rename_i hc
   simp only [ao] at hx
   subst hx
   refine Reach.len 0 .expr l rfl fun hl=>?_
   refine Reach.weaken (Q:=fun r h=>(r,h)=(.kb (PP g l m),[])) ?_ ?_
   ·refine zk (n0:=0) (uP hg) (Qe g c) hC (zgG g c l m) ?_
    unfold yW at hc
    unfold PP
    refine kk (fun h=>?_) (fun h=>?_)
    ·rw [if_pos h]; rfl
    ·rw [if_neg (kJ h)] at hc ⊢
     have:(l.length:Int)=m.length:=by simpa using h
     have:l.length=m.length:=by omega
     exact zfQ hg hC l m this hl _ 0 rfl (aV _) hc
   ·rintro r h hq
    cases hq
    refine ⟨_,rfl,fun w U ρ v hv=>?_⟩
    cases hv
    exact .bool _
  ·simp at hx
 ·simp at hx

noncomputable def PJ (g c:ze→ze→Bool):bt:=CW.add 196 (F50 g c)
theorem KJ {g c:ze→ze→Bool} (hg:FK 128 (zG [.expr,.expr] [.bool] (fun x=>c x.1 x.2.1) (fun x=>(g x.1 x.2.1,())))):zl (PJ g c):=nk.add (zaw hg)
def eqV (a b:V):Bool:=a.1==b.1&&(a.2.1==b.2.1&&(a.2.2==b.2.2&&true))
def NJ (g:ze→ze→Bool) (a b:ze):Bool:=bif a.op==b.op then bif eqV a.v b.v then bif a.s==b.s then PP g a.l b.l else false else false else false
def BN (g c:ze→ze→Bool) (a b:ze):Bool:=bif a.op==b.op then bif eqV a.v b.v then bif a.s==b.s then yW g c a.l b.l else true else true else true
theorem MK (g c:ze→ze→Bool):zA (PJ g c).P 128 Tryz.f128 2:=aQ (by kernel_rfl)
theorem zgn (g c:ze→ze→Bool) (l:ze) (m:ze):rn (PJ g c) 0 (fun _=>{}) Tryz.f128 [zz Sh.expr l,zz Sh.expr m] []=Tr.chk (BN g c l m) (Tr.ok (zt.ret (AV.bool (NJ g l m)) [])):=by kernel_rfl
theorem Ue {g c:ze→ze→Bool} (hg:FK 128 (zG [.expr,.expr] [.bool] (fun x=>c x.1 x.2.1) (fun x=>(g x.1 x.2.1,())))):FK 128 (zG [.expr,.expr] [.bool] (fun x=>BN g c x.1 x.2.1) (fun x=>(NJ g x.1 x.2.1,()))):=by
 refine zQ (E:=PJ g c) (MK g c) fun x hx C hC=>?_
 refine zk (n0:=0) (KJ hg) (MK g c) (fun id _=>hC id) (zgn g c x.1 x.2.1) ?_
 exact da hx rfl
mutual
def sD:Nat→ze→ze→Bool
 | 0=>fun _ _=>false
 | n+1=>NJ (sD n)
def lG:Nat→ze→ze→Bool
 | 0=>fun _ _=>false
 | n+1=>BN (sD n) (lG n)
end
theorem JV:∀ n,FK 128 (zG [.expr,.expr] [.bool] (fun x=>lG n x.1 x.2.1) (fun x=>(sD n x.1 x.2.1,())))
 | 0=>dv ⟨Tryz.f128,(MK (fun _ _=>false) (fun _ _=>false)).1,(MK (fun _ _=>false) (fun _ _=>false)).2.1,(MK (fun _ _=>false) (fun _ _=>false)).2.2.1⟩ (fun _=>rfl)
 | n+1=>Ue (JV n)
def F29:zF:=zG [.expr,.expr] [.bool] (fun x=>lG 16 x.1 x.2.1) (fun x=>(sD 16 x.1 x.2.1,()))
theorem zac:FK 128 F29:=JV 16

noncomputable def GN:=CW.addL [(53,F15),(128,F29)]
theorem yp:zl GN:=nk.addL <| fc Z2 <| fc zac jf
end Cad
