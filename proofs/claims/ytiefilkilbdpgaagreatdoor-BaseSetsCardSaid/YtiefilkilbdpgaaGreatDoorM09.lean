/- The library's functions. Functions from plain data to plain data, where a guard holds; recursion. Values: what may be. Values: what they say. Loops; values in order. Values: order, equal, sums. Values: less; bounded ones. Bounded rows, bounded columns. What is total; lists of types. Names, places. Names, types. Expressions: their types. Expressions: bounded ones; the same ones. -/
import Derived.Test.YtiefilkilbdpgaaGreatDoorM07
import Derived.Test.YtiefilkilbdpgaaGreatDoorM08
import Derived.Test.YtiefilkilbdpgaaGreatDoorM06
namespace Cad
open Go Go.Proofs Go.RowKit Go.Lib
open Int (toNat)
open List (length)

theorem jo.below {w w':World} (h:Below w.heap.size w w'):jo w w':=
 ⟨h.size,h.os,h.output,h.tape,fun a ha=>Dh (h.block a.block ha)⟩

theorem fj {E:bf} {C:cq} {w w':World} {U:Nat→Prop} {r:AV} {v:Value} {h0:List AO} {ρ:Nat→Option Value} (hH:gD C w U ρ (fun j=>h0.getD j .dead)) (hnew:∀ id,h0.length≤id→ρ id=none)
  (hr0:∀ id v,C.ρ0 id=some v→ρ id=some v) (hW:Wd E.gl C w U) (hb:Below w.heap.size w w') (hr:Rv w' U ρ r v):K8 E C (fun r' h=>(r',h)=(r,h0)) (.returned v) w':=by
 have hk:∀ b,b < w.heap.size→w'.heap[b]?=w.heap[b]?:=hb.block
 refine ⟨v,r,h0,U,ρ,rfl,rfl,hr,⟨fun id=>?_,hH.inj,hH.blk⟩,hnew,hr0,⟨hW.ext.trans (jo.below hb),fun b hb' hn=>?_,fun b hu=>ln (hW.ub b hu) hb.size,hW.u1,hW.u2,fun g=>?_⟩⟩
 ·exact (hH.ob id).mono hb.size (fun b hb' _=>hk b hb') (fun _ _ h=>h) (fun _ _ h=>h) (fun b ho=>⟨hk b ((hH.ob id).inU ho).2,((hH.ob id).inU ho).1⟩)
 ·rw [hk b (ln hb' hW.ext.sz)]; exact hW.same b hb' hn
 ·exact (hW.gl g).mono hb.size (fun b hb' _=>hk b hb') (fun _ _ h=>h) (fun _ _ h=>h)

noncomputable def Xk:bf:=JT.aut 172 Tryz.f172 1
theorem zfp:zA JT.P 172 Tryz.f172 1:=aJ (by kernel_rfl)
theorem L1:zm Xk:=io DN zfp

def NC (c:Int):Bool:=bif decide (c < 32) then true else decide (c > 126)

theorem zhR (c:Int):((zR (List.replicate 1 none) (bS JT Tryz.f172 (List.replicate 1 none))) [.int .i32 c] (fun _=>.dead) 0).val=some { val:=.bool (NC c) }:=by kernel_rfl

theorem Zd (w:World) (U:Nat→Prop) (hgl:xG JT.gl w U) (hub:∀ b,U b→b < w.heap.size):PredGrows Tryz.prog 172 #[] (fun r=>NC r) w:=by
 intro W x hx hB
 have hF:FK 172 (zR (List.replicate 1 none) (bS JT Tryz.f172 (List.replicate 1 none))):=aj _ DN zfp
 have hr:cr W U (fun _=>none) [.int .i32 (x:Int)] [.int .i32 (x:Int)]:=by
  refine ⟨rfl,fun j c v hc hv=>?_⟩
  cases j with
  | zero=>
   simp at hc hv; subst hc; subst hv
   refine .int _ _ ⟨?_,?_⟩
   ·show (-2147483648:Int)≤x; omega
   ·show (x:Int)≤2147483647; omega
  | succ j=>simp at hc
 have:=(hF.calls W U (fun _=>none) (fun _=>.dead) 0 [.int .i32 (x:Int)] [.int .i32 (x:Int)] _ [] (zhR x) hr (fun b hb=>ln (hub b hb) hB.size) (fun g=>(hgl g).mono hB.size (fun b hb _=>hB.block b hb) (fun _ _ h=>h) (fun _ _ h=>h)) ⟨by simp,by simp⟩ (by simp [AV.idsL,AV.ids]) (by simp) (by simp)).1
 refine this.mono ?_
 rintro e w' ⟨v,U',ρ',rfl,hef⟩
 have hv:=hef.val
 cases hv
 exact ⟨rfl,⟨hef.ext.os,hef.ext.tape,hef.ext.out,hef.ext.sz,fun b hb=>hef.same b hb (by simp)⟩⟩

def Aq (s:zn):Int:=Lib.idxFunc (fun r=>NC r) true ⟨s.toArray⟩

def G36:cy [some .str,none]:=fun x h=>match x,h with
 | (s,.clo (.func 172) [] [],_),[]=>.ok (.int .i64 (Aq s),[])
 | _,_=>.err

theorem zhw:Go.Proofs.Enters Tryz.prog 172:=by
  cases hb:Tryz.f172.body with
  | none => have:Tryz.f172.body.isNone=false:=by kernel_rfl
            rw [hb] at this; cases this
  | some c=>exact Go.Proofs.enters_of (fn:=Tryz.f172) (by kernel_rfl) (by kernel_rfl) hb

theorem zbB:FK 173 (zR [some .str,none] G36):=by
 refine fq (E:=Xk) ⟨Tryz.f173,by kernel_rfl,by kernel_rfl,by kernel_rfl⟩ fun x h0 res hx=>?_
 unfold G36 at hx
 split at hx
 ·rename_i s u
  simp only [Tr.val_ok,ag] at hx
  subst hx
  intro C w U ρ vals _ hr hH hnew hr0 hW
  have hl:=hr.len
  match vals,hl,hr with
  | [v1,v2],_,hr=>
   have h1:=hr.rv 0 (.str s) v1 rfl rfl
   have h2:=hr.rv 1 (.clo (.func 172) [] []) v2 rfl rfl
   cases h1 with
   | str _ hs=>
   cases h2 with
   | clo _ _ _ vf vc hf hc _ _=>
   have hf':vf=[]:=Dg hf.symm
   have hc':vc=[]:=Dg hc.symm
   subst hf'; subst hc'
   have:=Tryz.strings_IndexFunc_grows 172 #[] zhw (fun r=>NC r) ⟨s.toArray⟩ w (Zd w U hW.gl hW.ub)
   refine this.mono ?_
   rintro e w' ⟨rfl,hb⟩
   refine fj hH hnew hr0 hW hb (.int _ _ ?_)
   have hrg:=Lib.idxFunc_range (fun r=>NC r) true ⟨s.toArray⟩
   have hsz:(⟨s.toArray⟩:ByteArray).size=s.length:=by simp [ByteArray.size]
   have hm:zF=9223372036854775807:=rfl
   rw [hsz] at hrg
   change Aq s=-1∨(0≤Aq s∧Aq s < s.length) at hrg
   refine ⟨?_,?_⟩
   ·show (-9223372036854775808:Int)≤_; omega
   ·show _≤(9223372036854775807:Int); omega
 ·simp at hx

noncomputable def pc:bf:=Xk.add 173 (zR [some .str,none] G36)
theorem iK:zm pc:=L1.add zbB
open Go

def gC (ks outs:List Sh) (c:zw (ks.map some)→Bool) (g:zw (ks.map some)→zw (outs.map some)):cy (ks.map some):=fun x h=>match h with
 | []=>.chk (c x) (.ok (sn outs (g x),[]))
 | _=>.err

def zC (ks outs:List Sh) (c:zw (ks.map some)→Bool) (g:zw (ks.map some)→zw (outs.map some)):zD:=zR (ks.map some) (gC ks outs c g)

theorem zN {P:Program} {gl:Nat→AV} {E:bf} {k:FuncId} {f:Func} {ks outs:List Sh} {c:zw (ks.map some)→Bool} {g:zw (ks.map some)→zw (outs.map some)} (hf:zA E.P k f ks.length)
  (h:∀ x,c x=true→∀ C:cq,(∀ id,C.ρ0 id=none)→Reach E C k (au f) (z7 f.ntmps (f6 (ks.map some) x) []) (fun r h=>ae h outs r=some (g x))) (qp:E.P=P:=by rfl) (qg:E.gl=gl:=by rfl):lF P gl k (zC ks outs c g):=by
 subst qp qg
 refine bq (by simpa using hf) fun x h0 res hx C hC=>?_
 unfold gC at hx
 split at hx
 ·simp only [Tr.val] at hx
  split at hx
  ·rename_i hc
   simp only [ag] at hx
   subst hx
   exact Reach.plain (fun id=>hC id (by simp)) (h x hc C (fun id=>hC id (by simp)))
  ·simp at hx
 ·simp at hx

theorem AY {P:Program} {gl:Nat→AV} {k:FuncId} {kinds:List (Option Sh)} {ι:Type} [Nonempty ι] {G:cy kinds} {Gs:ι→cy kinds} (h:∀ i,lF P gl k (zR kinds (Gs i)))
  (hg:∀ x h0 res,(G x h0).val=some res→∃ i,(Gs i x h0).val=some res):lF P gl k (zR kinds G):=by
 refine ⟨(h (Classical.choice inferInstance)).fn,?_⟩
 intro w U ρ hp n args vals f fp hv
 have:∃ i,(zR kinds (Gs i) args hp n).val=some f:=by
  unfold zR at hv ⊢
  split at hv
  ·rename_i ps hps
   simp only at hv ⊢
   split at hv
   ·rename_i hcond
    split at hv
    ·rename_i xs hxs
     simp only [Tr.val_bind,eO] at hv
     obtain ⟨res,h1,h2⟩:=hv
     obtain ⟨i,hi⟩:=hg _ _ _ h1
     exact ⟨i,by simp only [hcond,if_true,Tr.val_bind,eO]; exact ⟨res,hi,h2⟩⟩
    ·simp at hv
   ·simp at hv
  ·simp at hv
 obtain ⟨i,hi⟩:=this
 exact (h i).calls w U ρ hp n args vals f fp hi

def Ix (ks outs:List Sh) (g:zw (ks.map some)→zw (outs.map some)):cy (ks.map some):=fun x h=>match h with
 | []=>.ok (sn outs (g x),[])
 | _=>.err

def af (ks outs:List Sh) (g:zw (ks.map some)→zw (outs.map some)):zD:=zR (ks.map some) (Ix ks outs g)

theorem Tt {P:Program} {gl:Nat→AV} {k:FuncId} {ks outs:List Sh} {g:zw (ks.map some)→zw (outs.map some)} (h:lF P gl k (zC ks outs (fun _=>true) g)):lF P gl k (af ks outs g):=by
 refine AY (ι:=Unit) (Gs:=fun _=>gC ks outs (fun _=>true) g) (fun _=>h) fun x h0 res hv=>⟨(),?_⟩
 unfold Ix at hv
 unfold gC
 split at hv
 ·simpa [Tr.val] using hv
 ·simp at hv

theorem zP {P:Program} {gl:Nat→AV} {E:bf} {k:FuncId} {f:Func} {ks outs:List Sh} {g:zw (ks.map some)→zw (outs.map some)} (hf:zA E.P k f ks.length)
  (h:∀ x,∀ C:cq,(∀ id,C.ρ0 id=none)→Reach E C k (au f) (z7 f.ntmps (f6 (ks.map some) x) []) (fun r h=>ae h outs r=some (g x))) (qp:E.P=P:=by rfl) (qg:E.gl=gl:=by rfl):lF P gl k (af ks outs g):=by
 subst qp qg
 exact Tt (zN hf fun x _ C hC=>h x C hC)

def H3 (outs:List Sh):zr→Option (zw (outs.map some))
 | .ret v h=>ae h outs v
 | _=>none

theorem Tr.sat_of_res {E:bf} {C:cq} {fn:FuncId} {outs:List Sh} {y:zw (outs.map some)} {t:Tr zr} (h:t.val.bind (H3 outs)=some y):t.Sat (gY E C fn (fun r h=>ae h outs r=some y)):=by
 rw [eO] at h
 obtain ⟨l,h1,h2⟩:=h
 refine Tr.sat_of_val h1 ?_
 cases l with
 | ret v h=>exact h2
 | head _ _ _=>cases h2
 | fork _ _ _ _=>cases h2

theorem aw {E:bf} {C:cq} {k:FuncId} {f:Func} {outs:List Sh} {y:zw (outs.map some)} {n n0:Nat} (hE:zm E) (hf:zA E.P k f n) (hC:∀ id,n0≤id→C.ρ0 id=none) {keep:Nat→zX} {fuel:Nat}
  {todo:List Item} {st:St} {t:Tr zr} (ht:run E n0 keep f.results.toList fuel todo st=t) (h:t.val.bind (H3 outs)=some y):Reach E C k todo st (fun r h=>ae h outs r=some y):=by
 refine cz hE hf hC keep fuel ?_
 rw [ht]
 exact Tr.sat_of_res h

theorem ze.eta:∀ e:ze,ze.mk e.op e.v e.s e.l=e
 | .mk _ _ _ _=>rfl

structure Db (E E0:bf):Prop where
 p:E.P=E0.P
 g:E.gl=E0.gl

theorem Db.refl (E:bf):Db E E:=⟨rfl,rfl⟩
theorem Db.add {E E0:bf} (h:Db E E0) (k:FuncId) (F:zD):Db (E.add k F) E0:=⟨h.p,h.g⟩
abbrev zB (e:ze):ze:=.mk e.op e.v e.s e.l
theorem zo (e:ze):zB e=e:=ze.eta e
open Go Go.Proofs
abbrev TS:=Sem Sh.str
abbrev LX:=List (Sem Sh.expr)
abbrev LC:=List (Sem zi)
abbrev LS:=List (Sem Sh.str)
abbrev LV:=List (Sem zf)
abbrev LI:=List (Sem zg)
abbrev LF:=List (Sem zp)

abbrev V:=Sem zf

def fC (x0:Sem zf):Sem Sh.bool:=if (x0.1==0)=true then if (x0.2.1 != 0)=true then false else x0.2.2==[] else if (x0.1==1)=true then x0.2.2==[] else if (x0.1==2)=true then bif x0.2.1==0 then bif decide ((↑(length x0.2.2):Int)≤40) then decide (Aq x0.2.2 < 0) else false else false else if (x0.1==3)=true then bif x0.2.1==0 then x0.2.2==[] else bif x0.2.1==1 then x0.2.2==[] else false else false
theorem zfi:zA pc.P 94 Tryz.f94 1:=aJ (by kernel_rfl)
theorem zhH (x0:Sem zf):rn pc 0 (fun _=>{ }) Tryz.f94 [zz zf x0] []=Tr.br (x0.1==0) (Tr.br (x0.2.1 != 0) (Tr.ok (zr.ret (AV.kb false) [])) (Tr.ok (zr.ret (AV.bool (x0.2.2==[])) []))) (Tr.br (x0.1==1) (Tr.ok (zr.ret (AV.bool (x0.2.2==[])) [])) (Tr.br (x0.1==2) (Tr.ok (zr.ret (AV.bool (bif x0.2.1==0 then bif decide ((↑(length x0.2.2):Int)≤40) then decide (Aq x0.2.2 < 0) else false else false)) [])) (Tr.br (x0.1==3) (Tr.ok (zr.ret (AV.bool (bif x0.2.1==0 then x0.2.2==[] else bif x0.2.1==1 then x0.2.2==[] else false)) [])) (Tr.ok (zr.ret (AV.kb false) []))))):=by kernel_rfl
def F21:zD:=af [zf] [Sh.bool] fun x=>(fC x.1,())
theorem zbr:FK 94 F21:=by
 refine zP zfi fun x C hC=>?_
 refine aw iK zfi (fun id _=>hC id) (zhH x.1) ?_
 simp only [Tr.val,fC]
 repeat' split
 all_goals rfl

def aC (x0:Sem zg):Sem zf:=if (x0==0)=true then (0,0,[]) else (3,IntKind.i64.wrap (x0 - 1),[])
theorem zfJ:zA pc.P 206 Tryz.f206 1:=aJ (by kernel_rfl)
theorem zia (x0:Sem zg):rn pc 0 (fun _=>{ }) Tryz.f206 [zz zg x0] []=Tr.br (x0==0) (Tr.ok (zr.ret (AV.agg [ai 0,ai 0,AV.str []]) [])) (Tr.ok (zr.ret (AV.agg [ai 3,ai (IntKind.i64.wrap (x0 - 1)),AV.str []]) [])):=by kernel_rfl
def F57:zD:=af [zg] [zf] fun x=>(aC x.1,())
theorem zbW:FK 206 F57:=by
 refine zP zfJ fun x C hC=>?_
 refine aw iK zfJ (fun id _=>hC id) (zia x.1) ?_
 simp only [Tr.val,aC]
 repeat' split
 all_goals rfl

noncomputable def ZF:zD:=zR (List.replicate 1 none) (bS pc Tryz.f174 (List.replicate 1 none))
theorem U3:FK 174 ZF:=aj _ iK (aJ (by kernel_rfl))

noncomputable def ZG:zD:=zR (List.replicate 1 none) (bS pc Tryz.f175 (List.replicate 1 none))
theorem U4:FK 175 ZG:=aj _ iK (aJ (by kernel_rfl))

noncomputable def ZH:zD:=zR (List.replicate 1 none) (bS pc Tryz.f176 (List.replicate 1 none))
theorem U5:FK 176 ZH:=aj _ iK (aJ (by kernel_rfl))

noncomputable def jt:=pc.addL [(94,F21),(206,F57),(174,ZF),(175,ZG),(176,ZH)]
theorem f7:zm jt:=iK.addL <| fc zbr <| fc zbW <| fc U3 <| fc U4 <| fc U5 gW

def bz (x0:Sem zf):Sem zf:=if (!fC x0)=true then (0,0,[]) else x0
theorem zfN:zA jt.P 95 Tryz.f95 1:=aJ (by kernel_rfl)
theorem zie (x0:Sem zf):rn jt 0 (fun _=>{ }) Tryz.f95 [zz zf x0] []=Tr.br (!fC x0) (Tr.ok (zr.ret (AV.agg [ai 0,ai 0,AV.str []]) [])) (Tr.ok (zr.ret (AV.agg [ai x0.1,ai x0.2.1,AV.str x0.2.2]) [])):=by kernel_rfl
def F61:zD:=af [zf] [zf] fun x=>(bz x.1,())
theorem zb2:FK 95 F61:=by
 refine zP zfN fun x C hC=>?_
 refine aw f7 zfN (fun id _=>hC id) (zie x.1) ?_
 simp only [Tr.val,bz]
 repeat' split
 all_goals rfl

def ei (x0:Sem zf):Sem zg:=if (bif x0.1 != 3 then true else !fC x0)=true then 0 else IntKind.i64.wrap (1+x0.2.1)
theorem zfI:zA jt.P 205 Tryz.f205 1:=aJ (by kernel_rfl)
theorem zh9 (x0:Sem zf):rn jt 0 (fun _=>{ }) Tryz.f205 [zz zf x0] []=Tr.br (bif x0.1 != 3 then true else !fC x0) (Tr.ok (zr.ret (ai 0) [])) (Tr.ok (zr.ret (ai (IntKind.i64.wrap (1+x0.2.1))) [])):=by kernel_rfl
def F56:zD:=af [zf] [zg] fun x=>(ei x.1,())
theorem zbV:FK 205 F56:=by
 refine zP zfI fun x C hC=>?_
 refine aw f7 zfI (fun id _=>hC id) (zh9 x.1) ?_
 simp only [Tr.val,ei]
 repeat' split
 all_goals rfl

def c5 (x0:Sem Sh.bool):Sem zf:=if x0=true then aC 2 else aC 1
theorem zfL:zA jt.P 208 Tryz.f208 1:=aJ (by kernel_rfl)
theorem zic (x0:Sem Sh.bool):rn jt 0 (fun _=>{ }) Tryz.f208 [zz Sh.bool x0] []=Tr.br x0 (Tr.ok (zr.ret (AV.agg [ai (aC 2).1,ai (aC 2).2.1,AV.str (aC 2).2.2]) [])) (Tr.ok (zr.ret (AV.agg [ai (aC 1).1,ai (aC 1).2.1,AV.str (aC 1).2.2]) [])):=by kernel_rfl
def F59:zD:=af [Sh.bool] [zf] fun x=>(c5 x.1,())
theorem zbY:FK 208 F59:=by
 refine zP zfL fun x C hC=>?_
 refine aw f7 zfL (fun id _=>hC id) (zic x.1) ?_
 simp only [Tr.val,c5]
 repeat' split
 all_goals rfl

def JA (x0:Sem zg) (x1:Sem zg):Sem zg:=if (x0 != x0)=true then if (x1 != x1)=true then 0 else -1 else if (x1 != x1)=true then 1 else if decide (x0 < x1)=true then -1 else if decide (x0 > x1)=true then 1 else 0
theorem zfP:zA jt.P 97 Tryz.f97 2:=aJ (by kernel_rfl)
theorem zii (x0:Sem zg) (x1:Sem zg):rn jt 0 (fun _=>{ }) Tryz.f97 [zz zg x0,zz zg x1] []=Tr.br (x0 != x0) (Tr.br (x1 != x1) (Tr.ok (zr.ret (ai 0) [])) (Tr.ok (zr.ret (ai (-1)) []))) (Tr.br (x1 != x1) (Tr.ok (zr.ret (ai 1) [])) (Tr.br (decide (x0 < x1)) (Tr.ok (zr.ret (ai (-1)) [])) (Tr.br (decide (x0 > x1)) (Tr.ok (zr.ret (ai 1) [])) (Tr.ok (zr.ret (ai 0) []))))):=by kernel_rfl
def F71:zD:=af [zg,zg] [zg] fun x=>(JA x.1 x.2.1,())
theorem zca:FK 97 F71:=by
 refine zP zfP fun x C hC=>?_
 refine aw f7 zfP (fun id _=>hC id) (zii x.1 x.2.1) ?_
 simp only [Tr.val,JA]
 repeat' split
 all_goals rfl

def yz (x0:Sem zg) (x1:Sem zg):Sem zg:=if (x0 != x0)=true then if (x1 != x1)=true then 0 else -1 else if (x1 != x1)=true then 1 else if decide (x0 < x1)=true then -1 else if decide (x0 > x1)=true then 1 else 0
theorem zfQ:zA jt.P 98 Tryz.f98 2:=aJ (by kernel_rfl)
theorem zij (x0:Sem zg) (x1:Sem zg):rn jt 0 (fun _=>{ }) Tryz.f98 [zz zg x0,zz zg x1] []=Tr.br (x0 != x0) (Tr.br (x1 != x1) (Tr.ok (zr.ret (ai 0) [])) (Tr.ok (zr.ret (ai (-1)) []))) (Tr.br (x1 != x1) (Tr.ok (zr.ret (ai 1) [])) (Tr.br (decide (x0 < x1)) (Tr.ok (zr.ret (ai (-1)) [])) (Tr.br (decide (x0 > x1)) (Tr.ok (zr.ret (ai 1) [])) (Tr.ok (zr.ret (ai 0) []))))):=by kernel_rfl
def F72:zD:=af [zg,zg] [zg] fun x=>(yz x.1 x.2.1,())
theorem zcb:FK 98 F72:=by
 refine zP zfQ fun x C hC=>?_
 refine aw f7 zfQ (fun id _=>hC id) (zij x.1 x.2.1) ?_
 simp only [Tr.val,yz]
 repeat' split
 all_goals rfl

def Be (x0:Sem Sh.str) (x1:Sem Sh.str):Sem zg:=if (!x0==x0)=true then if (!x1==x1)=true then 0 else -1 else if (!x1==x1)=true then 1 else if Op.bytesLess x0 x1=true then -1 else if (!(Op.bytesLess x0 x1||x0==x1))=true then 1 else 0
theorem zfR:zA jt.P 99 Tryz.f99 2:=aJ (by kernel_rfl)
theorem zik (x0:Sem Sh.str) (x1:Sem Sh.str):rn jt 0 (fun _=>{ }) Tryz.f99 [zz Sh.str x0,zz Sh.str x1] []=Tr.br (!x0==x0) (Tr.br (!x1==x1) (Tr.ok (zr.ret (ai 0) [])) (Tr.ok (zr.ret (ai (-1)) []))) (Tr.br (!x1==x1) (Tr.ok (zr.ret (ai 1) [])) (Tr.br (Op.bytesLess x0 x1) (Tr.ok (zr.ret (ai (-1)) [])) (Tr.br (!(Op.bytesLess x0 x1||x0==x1)) (Tr.ok (zr.ret (ai 1) [])) (Tr.ok (zr.ret (ai 0) []))))):=by kernel_rfl
def F73:zD:=af [Sh.str,Sh.str] [zg] fun x=>(Be x.1 x.2.1,())
theorem zcc:FK 99 F73:=by
 refine zP zfR fun x C hC=>?_
 refine aw f7 zfR (fun id _=>hC id) (zik x.1 x.2.1) ?_
 simp only [Tr.val,Be]
 repeat' split
 all_goals rfl

noncomputable def ii:=jt.addL [(95,F61),(205,F56),(208,F59),(97,F71),(98,F72),(99,F73)]
theorem dN:zm ii:=f7.addL <| fc zb2 <| fc zbV <| fc zbY <| fc zca <| fc zcb <| fc zcc gW

theorem wS {E:bf} {C:cq} {k:FuncId} {f:Func} {Q:AV→List AO→Prop} {n n0:Nat} (hE:zm E) (hf:zA E.P k f n) (hC:∀ id,n0≤id→C.ρ0 id=none) {keep:Nat→zX} {fuel:Nat}
  {todo:List Item} {st:St} {t:Tr zr} {l:zr} (ht:run E n0 keep f.results.toList fuel todo st=t) (h:t.val=some l) (hl:gY E C k Q l):Reach E C k todo st Q:=
 cz hE hf hC keep fuel (by rw [ht]; exact Tr.sat_of_val h hl)

def eW {α:Type} (Φ:α→Prop):Option α→Prop
 | some a=>Φ a
 | none=>False

theorem zk {E:bf} {C:cq} {k:FuncId} {f:Func} {Q:AV→List AO→Prop} {n n0:Nat} (hE:zm E) (hf:zA E.P k f n) (hC:∀ id,n0≤id→C.ρ0 id=none) {keep:Nat→zX} {fuel:Nat}
  {todo:List Item} {st:St} {t:Tr zr} (ht:run E n0 keep f.results.toList fuel todo st=t) (h:eW (gY E C k Q) t.val):Reach E C k todo st Q:=by
 cases hv:t.val with
 | none=>rw [hv] at h; exact h.elim
 | some l=>rw [hv] at h; exact wS hE hf hC ht hv h

def D5 {α β R:Type} (f:β→Nat→α→β ⊕ R) (fin:β→R):List α→Nat→β→R
 | [],_,b=>fin b
 | x::r,i,b=>match f b i x with
  | .inl b'=>D5 f fin r (i+1) b'
  | .inr y=>y

def Qs {E:bf} {C:cq} {k:FuncId} {K:List Item} {β R:Type} (st:β→Nat→St) (Q:R→AV→List AO→Prop) (b:β) (i:Nat):β ⊕ R→Prop
 | .inl b'=>∀ q,Reach E C k K (st b' (i+1)) q→Reach E C k K (st b i) q
 | .inr y=>Reach E C k K (st b i) (Q y)

theorem wT {E:bf} {C:cq} {k:FuncId} {K:List Item} {α β R:Type} (l:List α) (st:β→Nat→St) (f:β→Nat→α→β ⊕ R) (fin:β→R) (Q:R→AV→List AO→Prop) (I:β→Nat→Prop)
  (hstep:∀ b i (hi:i < l.length),I b i→Qs (E:=E) (C:=C) (k:=k) (K:=K) st Q b i (f b i l[i])∧∀ b',f b i l[i]=.inl b'→I b' (i+1))
  (hend:∀ b,I b l.length→Reach E C k K (st b l.length) (Q (fin b))):∀ (m i:Nat) (b:β),l.length - i=m→i≤l.length→I b i→Reach E C k K (st b i) (Q (D5 f fin (l.drop i) i b))
 | 0,i,b,hm,hi,hI=>by
  have:i=l.length:=by omega
  subst this
  rw [dg]
  exact hend b hI
 | m+1,i,b,hm,hi,hI=>by
  have hlt:i < l.length:=by omega
  rw [dA hlt]
  obtain ⟨h1,h2⟩:=hstep b i hlt hI
  simp only [D5]
  cases hf:f b i l[i] with
  | inl b'=>
   rw [hf] at h1
   exact h1 _ (wT l st f fin Q I hstep hend m (i+1) b' (by omega) (by omega) (h2 b' hf))
  | inr y=>
   rw [hf] at h1
   exact h1

theorem zW {i n:Nat} (h:i < n):decide ((i:Int) < (n:Int))=true:=by simpa using h
theorem z8 (n:Nat):decide ((n:Int) < (n:Int))=false:=by simp
theorem zG {i n:Nat} (h:i < n):zE (i:Int) n=true:=by simp [zE,h]

def UL:List Int→Int
 | []=>0
 | x::r=>if x != 0 then x else UL r

abbrev zeZ:Nat→zX:=fun j=>if j=3 then { slots:=[3,6,7,8] } else { }
abbrev I6 (i3:Int) (l6:List (Sem zg)) (i7:Int) (i8:Int):St:={ tmps:=(tm 18 [(3,ai i3),(6,AV.sl (Sh.int IntKind.i64) l6),(7,ai i7),(8,ai i8)]),heap:=[] }
theorem NR:zA ii.P 96 Tryz.f96 1:=aJ (by kernel_rfl)
theorem zih (k:List (Sem zg)):rn ii 0 zeZ Tryz.f96 [AV.sl zg k] []=Tr.ok (zr.head 3 (zx Tryz.f96 3) (I6 0 k (↑k.length) 0)):=by kernel_rfl
theorem Gz (i3:Int) (l6:List (Sem zg)) (i7:Int) (i8:Int):rh ii 0 zeZ Tryz.f96 3 (I6 i3 l6 i7 i8)=Tr.br (decide (i8 < i7)) (Tr.chk (zE i8 l6.length) (Tr.br (l6.getD i8.toNat (zj (Sh.int IntKind.i64)) != i3) (Tr.ok (zr.ret (ai (l6.getD i8.toNat (zj (Sh.int IntKind.i64)))) [])) (Tr.ok (zr.head 3 (zx Tryz.f96 3) (I6 i3 l6 i7 (IntKind.i64.wrap (i8+1))))))) (Tr.ok (zr.ret (ai i3) [])):=by kernel_rfl

def f70:Unit→Nat→Int→Unit ⊕ Int:=fun _ _ x=>if x != 0 then .inr x else .inl ()
theorem Mo:∀ (l:List Int) (i:Nat),D5 f70 (fun _=>0) l i ()=UL l
 | [],_=>rfl
 | x::r,i=>by
  simp only [D5,f70,UL]
  split
  ·rename_i h; split at h <;> simp_all [Mo r (i+1)]
  ·rename_i h; split at h <;> simp_all

def F70:zD:=af [.sl zg] [zg] fun x=>(UL x.1,())
theorem zb9:FK 96 F70:=by
 refine zP NR fun x C hC=>?_
 obtain ⟨l,u⟩:=x
 refine Reach.len 0 zg l rfl fun hl=>?_
 refine wS dN NR (fun id _=>hC id) (zih l) rfl ?_
 have:=wT (E:=ii) (C:=C) (k:=96) (K:=zx Tryz.f96 3) l (fun (_:Unit) i=>I6 0 l l.length i) f70 (fun _=>(0:Int)) (fun y r h=>ae h [zg] r=some (y,())) (fun _ _=>True)
  (fun b i hi _=>⟨by
   unfold f70
   split
   ·rename_i h
    refine zk dN NR (fun id _=>hC id) (Gz _ _ _ _) ?_
    simp only [Tr.val,zW hi,zG hi,zY l _ hi,h,if_true]
    rfl
   ·rename_i h
    intro q hq
    refine zk dN NR (fun id _=>hC id) (Gz _ _ _ _) ?_
    simp only [Tr.val,zW hi,zG hi,zY l _ hi,h,if_true,zH i (by omega)]
    exact hq,fun _ _=>trivial⟩)
  (fun b _=>by
   refine zk dN NR (fun id _=>hC id) (Gz _ _ _ _) ?_
   simp only [Tr.val,z8]
   rfl) _ 0 () rfl (by omega) trivial
 rw [Mo] at this
 exact this

def jR (x0:Sem zf) (x1:Sem zf):Sem Sh.bool:=bif (bz x0).1 != 0 then (bz x0).1==(bz x1).1 else false
theorem zfK:zA ii.P 207 Tryz.f207 2:=aJ (by kernel_rfl)
theorem zib (x0:Sem zf) (x1:Sem zf):rn ii 0 (fun _=>{ }) Tryz.f207 [zz zf x0,zz zf x1] []=Tr.ok (zr.ret (AV.bool (bif (bz x0).1 != 0 then (bz x0).1==(bz x1).1 else false)) []):=by kernel_rfl
def F58:zD:=af [zf,zf] [Sh.bool] fun x=>(jR x.1 x.2.1,())
theorem zbX:FK 207 F58:=by
 refine zP zfK fun x C hC=>?_
 refine aw dN zfK (fun id _=>hC id) (zib x.1 x.2.1) ?_
 simp only [Tr.val,jR]
 repeat' split
 all_goals rfl

def R8 (x0:Sem zf) (x1:Sem zf):Sem zf:=if (bif ei x0==1 then true else ei x1==1)=true then aC 1 else if (bif ei x0==2 then ei x1==2 else false)=true then aC 2 else aC 0
theorem zfq:zA ii.P 138 Tryz.f138 2:=aJ (by kernel_rfl)
theorem zhT (x0:Sem zf) (x1:Sem zf):rn ii 0 (fun _=>{ }) Tryz.f138 [zz zf x0,zz zf x1] []=Tr.br (bif ei x0==1 then true else ei x1==1) (Tr.ok (zr.ret (AV.agg [ai (aC 1).1,ai (aC 1).2.1,AV.str (aC 1).2.2]) [])) (Tr.br (bif ei x0==2 then ei x1==2 else false) (Tr.ok (zr.ret (AV.agg [ai (aC 2).1,ai (aC 2).2.1,AV.str (aC 2).2.2]) [])) (Tr.ok (zr.ret (AV.agg [ai (aC 0).1,ai (aC 0).2.1,AV.str (aC 0).2.2]) []))):=by kernel_rfl
def F38:zD:=af [zf,zf] [zf] fun x=>(R8 x.1 x.2.1,())
theorem zbD:FK 138 F38:=by
 refine zP zfq fun x C hC=>?_
 refine aw dN zfq (fun id _=>hC id) (zhT x.1 x.2.1) ?_
 simp only [Tr.val,R8]
 repeat' split
 all_goals rfl

def vOr (x0:Sem zf) (x1:Sem zf):Sem zf:=if (bif ei x0==2 then true else ei x1==2)=true then aC 2 else if (bif ei x0==1 then ei x1==1 else false)=true then aC 1 else aC 0
theorem zfr:zA ii.P 139 Tryz.f139 2:=aJ (by kernel_rfl)
theorem zhU (x0:Sem zf) (x1:Sem zf):rn ii 0 (fun _=>{ }) Tryz.f139 [zz zf x0,zz zf x1] []=Tr.br (bif ei x0==2 then true else ei x1==2) (Tr.ok (zr.ret (AV.agg [ai (aC 2).1,ai (aC 2).2.1,AV.str (aC 2).2.2]) [])) (Tr.br (bif ei x0==1 then ei x1==1 else false) (Tr.ok (zr.ret (AV.agg [ai (aC 1).1,ai (aC 1).2.1,AV.str (aC 1).2.2]) [])) (Tr.ok (zr.ret (AV.agg [ai (aC 0).1,ai (aC 0).2.1,AV.str (aC 0).2.2]) []))):=by kernel_rfl
def F39:zD:=af [zf,zf] [zf] fun x=>(vOr x.1 x.2.1,())
theorem zbE:FK 139 F39:=by
 refine zP zfr fun x C hC=>?_
 refine aw dN zfr (fun id _=>hC id) (zhU x.1 x.2.1) ?_
 simp only [Tr.val,vOr]
 repeat' split
 all_goals rfl

def KK (x0:Sem zf):Sem zf:=if (ei x0==2)=true then aC 1 else if (ei x0==1)=true then aC 2 else aC 0
theorem zft:zA ii.P 141 Tryz.f141 1:=aJ (by kernel_rfl)
theorem zhW (x0:Sem zf):rn ii 0 (fun _=>{ }) Tryz.f141 [zz zf x0] []=Tr.br (ei x0==2) (Tr.ok (zr.ret (AV.agg [ai (aC 1).1,ai (aC 1).2.1,AV.str (aC 1).2.2]) [])) (Tr.br (ei x0==1) (Tr.ok (zr.ret (AV.agg [ai (aC 2).1,ai (aC 2).2.1,AV.str (aC 2).2.2]) [])) (Tr.ok (zr.ret (AV.agg [ai (aC 0).1,ai (aC 0).2.1,AV.str (aC 0).2.2]) []))):=by kernel_rfl
def F41:zD:=af [zf] [zf] fun x=>(KK x.1,())
theorem zbG:FK 141 F41:=by
 refine zP zft fun x C hC=>?_
 refine aw dN zft (fun id _=>hC id) (zhW x.1) ?_
 simp only [Tr.val,KK]
 repeat' split
 all_goals rfl

def nl (x0:Sem zf):Sem zf:=c5 ((bz x0).1==0)
theorem zfA:zA ii.P 147 Tryz.f147 1:=aJ (by kernel_rfl)
theorem zh2 (x0:Sem zf):rn ii 0 (fun _=>{ }) Tryz.f147 [zz zf x0] []=Tr.ok (zr.ret (AV.agg [ai (c5 ((bz x0).1==0)).1,ai (c5 ((bz x0).1==0)).2.1,AV.str (c5 ((bz x0).1==0)).2.2]) []):=by kernel_rfl
def F47:zD:=af [zf] [zf] fun x=>(nl x.1,())
theorem zbM:FK 147 F47:=by
 refine zP zfA fun x C hC=>?_
 refine aw dN zfA (fun id _=>hC id) (zh2 x.1) ?_
 simp only [Tr.val,nl]
 repeat' split
 all_goals rfl

noncomputable def ju:=ii.addL [(96,F70),(207,F58),(138,F38),(139,F39),(141,F41),(147,F47)]
theorem gf:zm ju:=dN.addL <| fc zb9 <| fc zbX <| fc zbD <| fc zbE <| fc zbG <| fc zbM gW

def aR (x0:Sem zf) (x1:Sem zf):Sem zg:=UL [JA (bz x0).1 (bz x1).1,yz (bz x0).2.1 (bz x1).2.1,Be (bz x0).2.2 (bz x1).2.2]
theorem zfM:zA ju.P 58 Tryz.f58 2:=aJ (by kernel_rfl)
theorem zid (x0:Sem zf) (x1:Sem zf):rn ju 0 (fun _=>{ }) Tryz.f58 [zz zf x0,zz zf x1] []=Tr.ok (zr.ret (AV.int IntKind.i64 (UL [JA (bz x0).1 (bz x1).1,yz (bz x0).2.1 (bz x1).2.1,Be (bz x0).2.2 (bz x1).2.2])) []):=by kernel_rfl
def F60:zD:=af [zf,zf] [zg] fun x=>(aR x.1 x.2.1,())
theorem zb1:FK 58 F60:=by
 refine zP zfM fun x C hC=>?_
 refine aw gf zfM (fun id _=>hC id) (zid x.1 x.2.1) ?_
 simp only [Tr.val,aR]
 repeat' split
 all_goals rfl

def CS (x0:Sem zf) (x1:Sem zf):Sem zf:=if (!jR x0 x1)=true then (0,0,[]) else c5 (x0.1==x1.1&&(x0.2.1==x1.2.1&&(x0.2.2==x1.2.2&&true)))
theorem zfu:zA ju.P 142 Tryz.f142 2:=aJ (by kernel_rfl)
theorem zhX (x0:Sem zf) (x1:Sem zf):rn ju 0 (fun _=>{ }) Tryz.f142 [zz zf x0,zz zf x1] []=Tr.br (!jR x0 x1) (Tr.ok (zr.ret (AV.agg [ai 0,ai 0,AV.str []]) [])) (Tr.ok (zr.ret (AV.agg [ai (c5 (x0.1==x1.1&&(x0.2.1==x1.2.1&&(x0.2.2==x1.2.2&&true)))).1,ai (c5 (x0.1==x1.1&&(x0.2.1==x1.2.1&&(x0.2.2==x1.2.2&&true)))).2.1,AV.str (c5 (x0.1==x1.1&&(x0.2.1==x1.2.1&&(x0.2.2==x1.2.2&&true)))).2.2]) [])):=by kernel_rfl
def F42:zD:=af [zf,zf] [zf] fun x=>(CS x.1 x.2.1,())
theorem zbH:FK 142 F42:=by
 refine zP zfu fun x C hC=>?_
 refine aw gf zfu (fun id _=>hC id) (zhX x.1 x.2.1) ?_
 simp only [Tr.val,CS]
 repeat' split
 all_goals rfl

def Jn (x0:Sem zf) (x1:Sem zf):Sem zf:=if (bif !jR x0 x1 then true else x0.1 != 1)=true then (0,0,[]) else if (bif decide (x1.2.1 > 0) then bif decide (IntKind.i64.wrap (x0.2.1+x1.2.1) < x0.2.1) then true else bif decide (x1.2.1 < 0) then decide (IntKind.i64.wrap (x0.2.1+x1.2.1) > x0.2.1) else false else bif decide (x1.2.1 < 0) then decide (IntKind.i64.wrap (x0.2.1+x1.2.1) > x0.2.1) else false)=true then (0,0,[]) else (1,IntKind.i64.wrap (x0.2.1+x1.2.1),[])
theorem zfx:zA ju.P 144 Tryz.f144 2:=aJ (by kernel_rfl)
theorem zhZ (x0:Sem zf) (x1:Sem zf):rn ju 0 (fun _=>{ }) Tryz.f144 [zz zf x0,zz zf x1] []=Tr.br (bif !jR x0 x1 then true else x0.1 != 1) (Tr.ok (zr.ret (AV.agg [ai 0,ai 0,AV.str []]) [])) (Tr.br (bif decide (x1.2.1 > 0) then bif decide (IntKind.i64.wrap (x0.2.1+x1.2.1) < x0.2.1) then true else bif decide (x1.2.1 < 0) then decide (IntKind.i64.wrap (x0.2.1+x1.2.1) > x0.2.1) else false else bif decide (x1.2.1 < 0) then decide (IntKind.i64.wrap (x0.2.1+x1.2.1) > x0.2.1) else false) (Tr.ok (zr.ret (AV.agg [ai 0,ai 0,AV.str []]) [])) (Tr.ok (zr.ret (AV.agg [ai 1,ai (IntKind.i64.wrap (x0.2.1+x1.2.1)),AV.str []]) []))):=by kernel_rfl
def F44:zD:=af [zf,zf] [zf] fun x=>(Jn x.1 x.2.1,())
theorem zbJ:FK 144 F44:=by
 refine zP zfx fun x C hC=>?_
 refine aw gf zfx (fun id _=>hC id) (zhZ x.1 x.2.1) ?_
 simp only [Tr.val,Jn]
 repeat' split
 all_goals rfl

def CT (x0:Sem zf) (x1:Sem zf):Sem zf:=if (bif !jR x0 x1 then true else x0.1 != 1)=true then (0,0,[]) else if (bif decide (x1.2.1 > 0) then bif decide (IntKind.i64.wrap (x0.2.1 - x1.2.1) > x0.2.1) then true else bif decide (x1.2.1 < 0) then decide (IntKind.i64.wrap (x0.2.1 - x1.2.1) < x0.2.1) else false else bif decide (x1.2.1 < 0) then decide (IntKind.i64.wrap (x0.2.1 - x1.2.1) < x0.2.1) else false)=true then (0,0,[]) else (1,IntKind.i64.wrap (x0.2.1 - x1.2.1),[])
theorem zfy:zA ju.P 145 Tryz.f145 2:=aJ (by kernel_rfl)
theorem zh0 (x0:Sem zf) (x1:Sem zf):rn ju 0 (fun _=>{ }) Tryz.f145 [zz zf x0,zz zf x1] []=Tr.br (bif !jR x0 x1 then true else x0.1 != 1) (Tr.ok (zr.ret (AV.agg [ai 0,ai 0,AV.str []]) [])) (Tr.br (bif decide (x1.2.1 > 0) then bif decide (IntKind.i64.wrap (x0.2.1 - x1.2.1) > x0.2.1) then true else bif decide (x1.2.1 < 0) then decide (IntKind.i64.wrap (x0.2.1 - x1.2.1) < x0.2.1) else false else bif decide (x1.2.1 < 0) then decide (IntKind.i64.wrap (x0.2.1 - x1.2.1) < x0.2.1) else false) (Tr.ok (zr.ret (AV.agg [ai 0,ai 0,AV.str []]) [])) (Tr.ok (zr.ret (AV.agg [ai 1,ai (IntKind.i64.wrap (x0.2.1 - x1.2.1)),AV.str []]) []))):=by kernel_rfl
def F45:zD:=af [zf,zf] [zf] fun x=>(CT x.1 x.2.1,())
theorem zbK:FK 145 F45:=by
 refine zP zfy fun x C hC=>?_
 refine aw gf zfy (fun id _=>hC id) (zh0 x.1 x.2.1) ?_
 simp only [Tr.val,CT]
 repeat' split
 all_goals rfl

def Jm (x0:Sem zf) (_:Sem zf):Sem zf:=KK x0
theorem zfs:zA ju.P 140 Tryz.f140 2:=aJ (by kernel_rfl)
theorem zhV (x0:Sem zf) (x1:Sem zf):rn ju 0 (fun _=>{ }) Tryz.f140 [zz zf x0,zz zf x1] []=Tr.ok (zr.ret (AV.agg [ai (KK x0).1,ai (KK x0).2.1,AV.str (KK x0).2.2]) []):=by kernel_rfl
def F40:zD:=af [zf,zf] [zf] fun x=>(Jm x.1 x.2.1,())
theorem zbF:FK 140 F40:=by
 refine zP zfs fun x C hC=>?_
 refine aw gf zfs (fun id _=>hC id) (zhV x.1 x.2.1) ?_
 simp only [Tr.val,Jm]
 repeat' split
 all_goals rfl

def CU (x0:Sem zf) (_:Sem zf):Sem zf:=nl x0
theorem zfz:zA ju.P 146 Tryz.f146 2:=aJ (by kernel_rfl)
theorem zh1 (x0:Sem zf) (x1:Sem zf):rn ju 0 (fun _=>{ }) Tryz.f146 [zz zf x0,zz zf x1] []=Tr.ok (zr.ret (AV.agg [ai (nl x0).1,ai (nl x0).2.1,AV.str (nl x0).2.2]) []):=by kernel_rfl
def F46:zD:=af [zf,zf] [zf] fun x=>(CU x.1 x.2.1,())
theorem zbL:FK 146 F46:=by
 refine zP zfz fun x C hC=>?_
 refine aw gf zfz (fun id _=>hC id) (zh1 x.1 x.2.1) ?_
 simp only [Tr.val,CU]
 repeat' split
 all_goals rfl

noncomputable def nF:=ju.addL [(58,F60),(142,F42),(144,F44),(145,F45),(140,F40),(146,F46)]
theorem iL:zm nF:=gf.addL <| fc zb1 <| fc zbH <| fc zbJ <| fc zbK <| fc zbF <| fc zbL gW

def Jk (x0:Sem zf) (x1:Sem zf):Sem zf:=if (!jR x0 x1)=true then (0,0,[]) else c5 (decide (aR x0 x1 < 0))
theorem zfw:zA nF.P 143 Tryz.f143 2:=aJ (by kernel_rfl)
theorem zhY (x0:Sem zf) (x1:Sem zf):rn nF 0 (fun _=>{ }) Tryz.f143 [zz zf x0,zz zf x1] []=Tr.br (!jR x0 x1) (Tr.ok (zr.ret (AV.agg [ai 0,ai 0,AV.str []]) [])) (Tr.ok (zr.ret (AV.agg [ai (c5 (decide (aR x0 x1 < 0))).1,ai (c5 (decide (aR x0 x1 < 0))).2.1,AV.str (c5 (decide (aR x0 x1 < 0))).2.2]) [])):=by kernel_rfl
def F43:zD:=af [zf,zf] [zf] fun x=>(Jk x.1 x.2.1,())
theorem zbI:FK 143 F43:=by
 refine zP zfw fun x C hC=>?_
 refine aw iL zfw (fun id _=>hC id) (zhY x.1 x.2.1) ?_
 simp only [Tr.val,Jk]
 repeat' split
 all_goals rfl

def xz (x0:Sem zf):Sem zf:=if decide ((↑(length x0.2.2):Int) > 60)=true then (x0.1,x0.2.1,List.take (toNat 60 - toNat 0) (List.drop (toNat 0) x0.2.2)) else x0
def AR (x0:Sem zf):Bool:=bif decide ((↑(length x0.2.2):Int) > 60) then decide (0≤0)&&decide (0≤60)&&decide (60≤(↑(length x0.2.2):Int)) else true
theorem zfe:zA nF.P 54 Tryz.f54 1:=aJ (by kernel_rfl)
theorem zhD (x0:Sem zf):rn nF 0 (fun _=>{ }) Tryz.f54 [zz zf x0] []=Tr.br (decide ((↑(length x0.2.2):Int) > 60)) (Tr.chk (decide (0≤0)&&decide (0≤60)&&decide (60≤(↑(length x0.2.2):Int))) (Tr.ok (zr.ret (AV.agg [ai x0.1,ai x0.2.1,AV.str (List.take (toNat 60 - toNat 0) (List.drop (toNat 0) x0.2.2))]) []))) (Tr.ok (zr.ret (AV.agg [ai x0.1,ai x0.2.1,AV.str x0.2.2]) [])):=by kernel_rfl
def F14:zD:=zC [zf] [zf] (fun x=>AR x.1) fun x=>(xz x.1,())
theorem Tm:FK 54 F14:=by
 refine zN zfe fun x hx C hC=>?_
 refine aw iL zfe (fun id _=>hC id) (zhD x.1) ?_
 simp only [AR,Bool.cond_eq_ite] at hx
 simp only [Tr.val,xz]
 repeat' split
 all_goals first | rfl | simp_all

def ry (x0:Sem Sh.str):Sem Sh.str:=if decide ((↑(length x0):Int) > 20)=true then List.take (toNat 20 - toNat 0) (List.drop (toNat 0) x0) else x0
def I7 (x0:Sem Sh.str):Bool:=bif decide ((↑(length x0):Int) > 20) then decide (0≤0)&&decide (0≤20)&&decide (20≤(↑(length x0):Int)) else true
theorem zfd:zA nF.P 117 Tryz.f117 1:=aJ (by kernel_rfl)
theorem zhB (x0:Sem Sh.str):rn nF 0 (fun _=>{ }) Tryz.f117 [zz Sh.str x0] []=Tr.br (decide ((↑(length x0):Int) > 20)) (Tr.chk (decide (0≤0)&&decide (0≤20)&&decide (20≤(↑(length x0):Int))) (Tr.ok (zr.ret (AV.str (List.take (toNat 20 - toNat 0) (List.drop (toNat 0) x0))) []))) (Tr.ok (zr.ret (AV.str x0) [])):=by kernel_rfl
def F12:zD:=zC [Sh.str] [Sh.str] (fun x=>I7 x.1) fun x=>(ry x.1,())
theorem Tk:FK 117 F12:=by
 refine zN zfd fun x hx C hC=>?_
 refine aw iL zfd (fun id _=>hC id) (zhB x.1) ?_
 simp only [I7,Bool.cond_eq_ite] at hx
 simp only [Tr.val,ry]
 repeat' split
 all_goals first | rfl | simp_all

noncomputable def F79:zD:=zR (List.replicate 2 none) (bS nF Tryz.f251 (List.replicate 2 none))
theorem zce:FK 251 F79:=aj _ iL (aJ (by kernel_rfl))

noncomputable def F18:zD:=zR (List.replicate 2 none) (bS nF Tryz.f93 (List.replicate 2 none))
theorem zbq:FK 93 F18:=aj _ iL (aJ (by kernel_rfl))

noncomputable def lu:=nF.addL [(143,F43),(54,F14),(117,F12),(251,F79),(93,F18)]
theorem gg:zm lu:=iL.addL <| fc zbI <| fc Tm <| fc Tk <| fc zce <| fc zbq gW

theorem Reach.lenB {E:bf} {C:cq} {fn:FuncId} {todo:List Item} {st:St} {Q:AV→List AO→Prop} (id c:Nat) (e:Sh) (l:List (Sem e)) {cs:List AV} (h1:st.heap[id]?=some (.box cs)) (h2:cs[c]?=some (.sl e l)) (h:l.length≤zF→Reach E C fn todo st Q):Reach E C fn todo st Q:=by
 intro b cs' a w U ρ q1 q2 hc hW
 refine h ?_ b cs' a w U ρ q1 q2 hc hW
 have ho:=hc.hp.ob id
 rw [show st.hp id=.box cs by simp [St.hp,h1]] at ho
 obtain ⟨bk,T,vals,_,_,_,hr,_⟩:=ho
 have hlt:c < vals.toList.length:=by rw [← hr.len]; exact (bG.1 h2).1
 have:=hr.rv c _ _ h2 (zI hlt)
 generalize vals.toList[c]=v at this
 cases this with
 | sl0=>simp
 | sl _ _ _ _ _ _ _ hm=>exact hm

abbrev kp6:Nat→zX:=fun j=>if j=3 then { slots:=[0,3,4],prom:=[(3,none,zf)] } else { }
abbrev OO (l0:List (Sem zf)) (i4:Int) (lh_0:List (Sem zf)):St:={ tmps:=(tm 24 [(0,AV.sl zf l0),(3,AV.vec 0),(4,ai i4)]),heap:=[AO.vec zf lh_0] }
theorem ok6:zA lu.P 28 Tryz.f28 1:=aJ (by kernel_rfl)
theorem go6 (x0:Sem zf.sl):rn lu 0 kp6 Tryz.f28 [zz zf.sl x0] []=Tr.ok (zr.head 3 (zx Tryz.f28 3) (OO x0 0 [])):=by kernel_rfl
theorem UJ (l0:List (Sem zf)) (i4:Int) (lh_0:List (Sem zf)):rh lu 0 kp6 Tryz.f28 3 (OO l0 i4 lh_0)=Tr.br (bif decide (i4 < (↑l0.length:Int)) then decide (i4 < 14) else false) (Tr.chk (zE i4 l0.length) (Tr.chk (AR (l0.getD i4.toNat (zj zf))) (Tr.chk (decide (lh_0.length+[xz (l0.getD i4.toNat (zj zf))].length≤1073741824)) (Tr.ok (zr.head 3 (zx Tryz.f28 3) (OO l0 (IntKind.i64.wrap (i4+1)) (lh_0++[xz (l0.getD i4.toNat (zj zf))]))))))) (Tr.ok (zr.ret (AV.vec 0) [AO.vec zf lh_0])):=by kernel_rfl
def gB:List (Sem zf)→Int→List (Sem zf)→Sem zf.sl
 | [],_,lh_0=>lh_0
 | x::r,i4,lh_0=>if decide (i4 < 14)=true then gB r (i4+1) (lh_0++[xz x]) else lh_0
def gM:List (Sem zf)→Int→List (Sem zf)→Bool
 | [],_,_=>true
 | x::r,i4,lh_0=>if decide (i4 < 14)=true then AR x&&(decide (lh_0.length+[xz x].length≤1073741824)&&gM r (i4+1) (lh_0++[xz x])) else true
theorem zc1 {C:cq} (hC:∀ id,C.ρ0 id=none) (l0:List (Sem zf)) (hl:l0.length≤zF):∀ (m i:Nat) (lh_0:List (Sem zf)),l0.length - i=m→i≤l0.length→gM (l0.drop i) i lh_0=true→
  Reach lu C 28 (zx Tryz.f28 3) (OO l0 (i:Int) lh_0) (fun r h=>ae h [zf.sl] r=some (gB (l0.drop i) i lh_0,())):=by
 intro m
 induction m with
 | zero=>
  intro i lh_0 hm hi hc
  obtain rfl:i=l0.length:=by omega
  rw [dg] at hc ⊢
  refine zk gg ok6 (fun id _=>hC id) (UJ _ _ _) ?_
  simp only [gM] at hc
  simp only [Tr.val,z8,bR,gB]
  repeat' split
  all_goals first | rfl | simp_all
 | succ m IH=>
  intro i lh_0 hm hi hc
  have hlt:i < l0.length:=by omega
  have IH:=IH (i+1)
  have hcast:((i:Int)+1)=((i+1:Nat):Int):=by omega
  have hwr:=zH i (by omega)
  rw [dA hlt] at hc ⊢
  refine zk gg ok6 (fun id _=>hC id) (UJ _ _ _) ?_
  simp only [gM] at hc
  simp only [Tr.val,zW hlt,zG hlt,zY l0 _ hlt,hwr,bO,if_true,gB]
  clear hwr
  (try simp only [hcast] at hc ⊢)
  repeat' split
  all_goals first | (change Reach _ _ _ _ _ _; apply IH <;> first | omega | assumption | (clear IH; simp_all)) | rfl | (clear IH; simp_all)
theorem W4 {C:cq} (hC:∀ id,C.ρ0 id=none) (l0:List (Sem zf)) (lh_0:List (Sem zf)) (hc:gM l0 0 lh_0=true):
  Reach lu C 28 (zx Tryz.f28 3) (OO l0 0 lh_0) (fun r h=>ae h [zf.sl] r=some (gB l0 0 lh_0,())):=
 Reach.len 0 (zf) l0 rfl fun hl=>zc1 hC l0 hl _ 0 lh_0 rfl (aD _) hc
def nN (x0:Sem zf.sl):Sem zf.sl:=gB x0 0 []
def Nr (x0:Sem zf.sl):Bool:=gM x0 0 []
def F6:zD:=zC [zf.sl] [zf.sl] (fun x=>Nr x.1) fun x=>(nN x.1,())
theorem zb0:FK 28 F6:=by
 refine zN ok6 fun x hx C hC=>?_
 simp only [Nr] at hx
 refine zk gg ok6 (fun id _=>hC id) (go6 x.1) ?_
 simp only [Tr.val,nN]
 repeat' split
 all_goals first | (change Reach _ _ _ _ _ _; apply W4 hC <;> first | assumption | simp_all) | rfl | simp_all

abbrev zeC:Nat→zX:=fun j=>if j=3 then { slots:=[0,3,4],prom:=[(3,none,zi)] } else { }
abbrev AH (l0:List (Sem zi)) (i4:Int) (lh_0:List (Sem zi)):St:={ tmps:=(tm 33 [(0,AV.sl zi l0),(3,AV.vec 0),(4,ai i4)]),heap:=[AO.vec zi lh_0] }
theorem Rw:zA lu.P 26 Tryz.f26 1:=aJ (by kernel_rfl)
theorem zhC (x0:Sem zi.sl):rn lu 0 zeC Tryz.f26 [zz zi.sl x0] []=Tr.ok (zr.head 3 (zx Tryz.f26 3) (AH x0 0 [])):=by kernel_rfl
theorem NW (l0:List (Sem zi)) (i4:Int) (lh_0:List (Sem zi)):rh lu 0 zeC Tryz.f26 3 (AH l0 i4 lh_0)=Tr.br (bif decide (i4 < (↑l0.length:Int)) then decide (i4 < 9) else false) (Tr.chk (zE i4 l0.length) (Tr.br (decide ((↑(length (l0.getD i4.toNat (zj zi)).1):Int) > 20)) (Tr.chk (decide (0≤0)&&decide (0≤20)&&decide (20≤(↑(length (l0.getD i4.toNat (zj zi)).1):Int))) (Tr.chk (decide (lh_0.length+[(List.take (toNat 20 - toNat 0) (List.drop (toNat 0) (l0.getD i4.toNat (zj zi)).1),(l0.getD i4.toNat (zj zi)).2)].length≤1073741824)) (Tr.ok (zr.head 3 (zx Tryz.f26 3) (AH l0 (IntKind.i64.wrap (i4+1)) (lh_0++[(List.take (toNat 20 - toNat 0) (List.drop (toNat 0) (l0.getD i4.toNat (zj zi)).1),(l0.getD i4.toNat (zj zi)).2)])))))) (Tr.chk (decide (lh_0.length+[l0.getD i4.toNat (zj zi)].length≤1073741824)) (Tr.ok (zr.head 3 (zx Tryz.f26 3) (AH l0 (IntKind.i64.wrap (i4+1)) (lh_0++[l0.getD i4.toNat (zj zi)]))))))) (Tr.ok (zr.ret (AV.vec 0) [AO.vec zi lh_0])):=by kernel_rfl
def gA:List (Sem zi)→Int→List (Sem zi)→Sem zi.sl
 | [],_,lh_0=>lh_0
 | x::r,i4,lh_0=>if decide (i4 < 9)=true then
 if decide ((↑(length x.1):Int) > 20)=true then
  gA r (i4+1) (lh_0++[(List.take (toNat 20 - toNat 0) (List.drop (toNat 0) x.1),x.2)])
 else gA r (i4+1) (lh_0++[x])
else lh_0
def fK:List (Sem zi)→Int→List (Sem zi)→Bool
 | [],_,_=>true
 | x::r,i4,lh_0=>if decide (i4 < 9)=true then
 if decide ((↑(length x.1):Int) > 20)=true then
  decide (0≤0)&&decide (0≤20)&&decide (20≤(↑(length x.1):Int))&&
   (decide (lh_0.length+[(List.take (toNat 20 - toNat 0) (List.drop (toNat 0) x.1),x.2)].length≤1073741824)&&
    fK r (i4+1) (lh_0++[(List.take (toNat 20 - toNat 0) (List.drop (toNat 0) x.1),x.2)]))
 else decide (lh_0.length+[x].length≤1073741824)&&fK r (i4+1) (lh_0++[x])
else true
theorem W2 {C:cq} (hC:∀ id,C.ρ0 id=none) (l0:List (Sem zi)) (hl:l0.length≤zF):∀ (m i:Nat) (lh_0:List (Sem zi)),l0.length - i=m→i≤l0.length→fK (l0.drop i) i lh_0=true→
  Reach lu C 26 (zx Tryz.f26 3) (AH l0 (i:Int) lh_0) (fun r h=>ae h [zi.sl] r=some (gA (l0.drop i) i lh_0,())):=by
 intro m
 induction m with
 | zero=>
  intro i lh_0 hm hi hc
  obtain rfl:i=l0.length:=by omega
  rw [dg] at hc ⊢
  refine zk gg Rw (fun id _=>hC id) (NW _ _ _) ?_
  simp only [fK] at hc
  simp only [Tr.val,z8,bR,gA]
  repeat' split
  all_goals first | rfl | simp_all
 | succ m IH=>
  intro i lh_0 hm hi hc
  have hlt:i < l0.length:=by omega
  have IH:=IH (i+1)
  have hcast:((i:Int)+1)=((i+1:Nat):Int):=by omega
  have hwr:=zH i (by omega)
  rw [dA hlt] at hc ⊢
  refine zk gg Rw (fun id _=>hC id) (NW _ _ _) ?_
  simp only [fK] at hc
  simp only [Tr.val,zW hlt,zG hlt,zY l0 _ hlt,hwr,bO,if_true,gA]
  clear hwr
  (try simp only [hcast] at hc ⊢)
  repeat' split
  all_goals first | (change Reach _ _ _ _ _ _; apply IH <;> first | omega | assumption | (clear IH; simp_all)) | rfl | (clear IH; simp_all)
theorem Qx {C:cq} (hC:∀ id,C.ρ0 id=none) (l0:List (Sem zi)) (lh_0:List (Sem zi)) (hc:fK l0 0 lh_0=true):
  Reach lu C 26 (zx Tryz.f26 3) (AH l0 0 lh_0) (fun r h=>ae h [zi.sl] r=some (gA l0 0 lh_0,())):=
 Reach.len 0 (zi) l0 rfl fun hl=>W2 hC l0 hl _ 0 lh_0 rfl (aD _) hc
def sb (x0:Sem zi.sl):Sem zi.sl:=gA x0 0 []
def Nq (x0:Sem zi.sl):Bool:=fK x0 0 []
def F13:zD:=zC [zi.sl] [zi.sl] (fun x=>Nq x.1) fun x=>(sb x.1,())
theorem Tl:FK 26 F13:=by
 refine zN Rw fun x hx C hC=>?_
 simp only [Nq] at hx
 refine zk gg Rw (fun id _=>hC id) (zhC x.1) ?_
 simp only [Tr.val,sb]
 repeat' split
 all_goals first | (change Reach _ _ _ _ _ _; apply Qx hC <;> first | assumption | simp_all) | rfl | simp_all

noncomputable def DH:=lu.addL [(28,F6),(26,F13)]
theorem qC:zm DH:=gg.addL <| fc zb0 <| fc Tl gW

theorem eH {P:Program} {gl:Nat→AV} {k:FuncId} {ks outs:List Sh} {c:zw (ks.map some)→Bool} {g:zw (ks.map some)→zw (outs.map some)} (h:lF P gl k (zC ks outs c g)) (hc:∀ x,c x=true):lF P gl k (af ks outs g):=
 Tt (by rwa [show c=fun _=>true from funext hc] at h)

theorem xA (v:V):AR v=true:=by
 unfold AR
 cases h:decide ((↑(length v.2.2):Int) > 60)
 ·rfl
 ·simp only [zZ] at h
  simp only [bO,aE,zZ]
  omega
theorem G2 (s:zn):I7 s=true:=by
 unfold I7
 cases h:decide ((↑(length s):Int) > 20)
 ·rfl
 ·simp only [zZ] at h
  simp only [bO,aE,zZ]
  omega
theorem nO:∀ (l:List (Sem zf)) (i:Int) (a:List (Sem zf)),(a.length:Int)≤i→gM l i a=true
 | [],_,_,_=>rfl
 | x::r,i,a,h=>by
  simp only [gM,xA]
  split
  ·rename_i hi
   simp only [zZ] at hi
   rw [nO r (i+1) _ (by simp; omega)]
   simp; omega
  ·rfl
theorem jK:∀ (l:List (Sem zi)) (i:Int) (a:List (Sem zi)),(a.length:Int)≤i→fK l i a=true
 | [],_,_,_=>rfl
 | x::r,i,a,h=>by
  simp only [fK]
  split
  ·rename_i hi
   simp only [zZ] at hi
   split
   ·rename_i hx
    simp only [zZ] at hx
    rw [jK r (i+1) _ (by simp; omega)]
    simp; omega
   ·rw [jK r (i+1) _ (by simp; omega)]
    simp; omega
  ·rfl
def zah:zD:=af [zf] [zf] fun x=>(xz x.1,())
theorem VE:FK 54 zah:=eH Tm fun x=>xA x.1
def Z3:zD:=af [Sh.str] [Sh.str] fun x=>(ry x.1,())
theorem Vr:FK 117 Z3:=eH Tk fun x=>G2 x.1
def F6t:zD:=af [zf.sl] [zf.sl] fun x=>(nN x.1,())
theorem zb7:FK 28 F6t:=eH zb0 fun x=>nO x.1 0 [] (by simp)
def zad:zD:=af [zi.sl] [zi.sl] fun x=>(sb x.1,())
theorem VB:FK 26 zad:=eH Tl fun x=>jK x.1 0 [] (by simp)

abbrev lG:Nat→zX:=fun _=>{ slots:=[0,1,7,8] }
def hZ {K:List Item} {e:Sh} (l:List (Sem e)) (p:Sem e→Bool) (st:Int→St) (h0:List AO) (i:Int):Tr zr:=.br (decide (i < (l.length:Int))) (.chk (zE i l.length) (.br (p (l.getD i.toNat (zj e))) (.ok (.ret (.int .i64 i) h0)) (.ok (.head 2 K (st (IntKind.i64.wrap (i+1))))))) (.ok (.ret (.int .i64 (-1)) h0))

theorem eL {E:bf} {C:cq} {k:FuncId} {f:Func} {n n0:Nat} {keep:Nat→zX} {fuel:Nat} {K:List Item} {e:Sh} (l:List (Sem e)) (p:Sem e→Bool) (st:Int→St) {h0:List AO}
  (hE:zm E) (hf:zA E.P k f n) (hC:∀ id,n0≤id→C.ρ0 id=none)
  (hon:∀ i,run E n0 keep f.results.toList fuel K (st i)=hZ (K:=K) l p st h0 i) (hl:l.length≤zF):∀ (m i:Nat),l.length - i=m→i≤l.length→
  Reach E C k K (st i) (fun r h=>(r,h)=(.int .i64 (zS p (l.drop i) i),h0)):=by
 intro m
 induction m with
 | zero=>
  intro i hE.mix' hi
  obtain rfl:i=l.length:=by omega
  refine zk hE hf hC (hon _) ?_
  simp only [hZ,Tr.val,z8,dg]
  rfl
 | succ m IH=>
  intro i hE.mix' hi
  have hlt:i < l.length:=by omega
  refine zk hE hf hC (hon _) ?_
  rw [dA hlt]
  simp only [hZ,Tr.val,zW hlt,zG hlt,zY l _ hlt,zH i (by omega),if_true,zS]
  split
  ·rfl
  ·exact IH (i+1) (by omega) (by omega)

abbrev tt (t:Int) (l:List (Sem zg)) (i:Int):St:={ tmps:=[.sl zg l,.clo (.func 251) [] [.ptr 0 0],.any,.any,.any,.any,.any,.int .i64 l.length,.int .i64 i,.any,.any,.any,.any,.any,.any,.any,.any,.any,.any],heap:=[.box [.int .i64 t]] }
theorem Mr (t:Int) (l:List (Sem zg)):run DH 1 lG Tryz.f278.results.toList 300 (au Tryz.f278) (z7 Tryz.f278.ntmps [.sl zg l,.clo (.func 251) [] [.ptr 0 0]] [.box [.int .i64 t]])=.ok (.head 2 (zx Tryz.f278 2) (tt t l 0)):=by kernel_rfl
theorem NU (t:Int) (l:List (Sem zg)) (i:Int):run DH 1 lG Tryz.f278.results.toList 300 (zx Tryz.f278 2) (tt t l i)=hZ (K:=zx Tryz.f278 2) (e:=zg) l (fun x=>bif x != t then x != 0 else false) (tt t l) [.box [.int .i64 t]] i:=by kernel_rfl

theorem ND:zA DH.P 278 Tryz.f278 2:=aJ (by kernel_rfl)
def zcF:cy [some (.sl zg),none]:=fun x h=>match x,h with
 | (l,.clo (.func 251) [] [.ptr 0 0],_),[.box [.int .i64 t]]=>.ok (.int .i64 (zS (fun x=>bif x != t then x != 0 else false) l 0),[.box [.int .i64 t]])
 | _,_=>.err
def ZI:zD:=zR [some (.sl zg),none] zcF
theorem U6:FK 278 ZI:=by
 refine bq ND fun x h0 res hx C hC=>?_
 unfold zcF at hx
 split at hx
 ·rename_i l u t
  simp only [Tr.val_ok,ag] at hx
  subst hx
  refine Reach.len 0 zg l rfl fun hl=>?_
  refine zk (n0:=1) qC ND hC (Mr t l) ?_
  exact eL l (fun x=>bif x != t then x != 0 else false) (tt t l) qC ND hC (NU t l) hl _ 0 rfl (aD _)
 ·simp at hx

noncomputable def pd:=DH.addL [(54,zah),(117,Z3),(28,F6t),(26,zad),(278,ZI)]
theorem j6:zm pd:=qC.addL <| fc VE <| fc Vr <| fc zb7 <| fc VB <| fc U6 gW

noncomputable def F78:zD:=zR [some (.sl zg),none] (bS pd Tryz.f250 [some (.sl zg),none])
theorem zcd:FK 250 F78:=aj _ j6 (aJ (by kernel_rfl))

def gU (x0:Sem Sh.str):Sem Sh.bool:=mC x0
theorem zfl:zA pd.P 170 Tryz.f170 1:=aJ (by kernel_rfl)
theorem zhK (x0:Sem Sh.str):rn pd 0 (fun _=>{ }) Tryz.f170 [zz Sh.str x0] []=Tr.ok (zr.ret (AV.bool (mC x0)) []):=by kernel_rfl
def F25:zD:=af [Sh.str] [Sh.bool] fun x=>(gU x.1,())
theorem zbu:FK 170 F25:=by
 refine zP zfl fun x C hC=>?_
 refine aw j6 zfl (fun id _=>hC id) (zhK x.1) ?_
 simp only [Tr.val,gU]
 repeat' split
 all_goals rfl

def ib (x0:Sem zt) (x1:Sem Sh.str):Sem zg:=zS (fun c=>c.1==x1) x0.2.1 0
theorem zfg:zA pd.P 73 Tryz.f73 2:=aJ (by kernel_rfl)
theorem zhF (x0:Sem zt) (x1:Sem Sh.str):rn pd 0 (fun _=>{ }) Tryz.f73 [zz zt x0,zz Sh.str x1] []=Tr.ok (zr.ret (ai (zS (fun c=>c.1==x1) x0.2.1 0)) []):=by kernel_rfl
def F17:zD:=af [zt,Sh.str] [zg] fun x=>(ib x.1 x.2.1,())
theorem zbp:FK 73 F17:=by
 refine zP zfg fun x C hC=>?_
 refine aw j6 zfg (fun id _=>hC id) (zhF x.1 x.2.1) ?_
 simp only [Tr.val,ib]
 repeat' split
 all_goals rfl

def z6 (x0:Sem zi.sl) (x1:Sem Sh.str):Sem zg:=zS (fun c=>c.1==x1) x0 0
theorem zfC:zA pd.P 148 Tryz.f148 2:=aJ (by kernel_rfl)
theorem zh3 (x0:Sem zi.sl) (x1:Sem Sh.str):rn pd 0 (fun _=>{ }) Tryz.f148 [zz zi.sl x0,zz Sh.str x1] []=Tr.ok (zr.ret (ai (zS (fun c=>c.1==x1) x0 0)) []):=by kernel_rfl
def F48:zD:=af [zi.sl,Sh.str] [zg] fun x=>(z6 x.1 x.2.1,())
theorem zbN:FK 148 F48:=by
 refine zP zfC fun x C hC=>?_
 refine aw j6 zfC (fun id _=>hC id) (zh3 x.1 x.2.1) ?_
 simp only [Tr.val,z6]
 repeat' split
 all_goals rfl

noncomputable def yE:=pd.addL [(250,F78),(170,F25),(73,F17),(148,F48)]
theorem qD:zm yE:=j6.addL <| fc zcd <| fc zbu <| fc zbp <| fc zbN gW

def sE (x0:Sem zg.sl) (x1:Sem zg):Sem Sh.bool := !decide (zS (fun x=>bif x != x1 then x != 0 else false) x0 0 ≥ 0)
theorem zfO:zA yE.P 203 Tryz.f203 2:=aJ (by kernel_rfl)
theorem zif (x0:Sem zg.sl) (x1:Sem zg):rn yE 0 (fun _=>{ }) Tryz.f203 [zz zg.sl x0,zz zg x1] []=Tr.ok (zr.ret (AV.bool !decide (zS (fun x=>bif x != x1 then x != 0 else false) x0 0 ≥ 0)) []):=by kernel_rfl
def F66:zD:=af [zg.sl,zg] [Sh.bool] fun x=>(sE x.1 x.2.1,())
theorem zb5:FK 203 F66:=by
 refine zP zfO fun x C hC=>?_
 refine aw qD zfO (fun id _=>hC id) (zif x.1 x.2.1) ?_
 simp only [Tr.val,sE]
 repeat' split
 all_goals rfl

def dp (x0:Sem Sh.str):Sem Sh.bool:=bif gU x0 then !wY x0 else false
theorem zff:zA yE.P 92 Tryz.f92 1:=aJ (by kernel_rfl)
theorem zhE (x0:Sem Sh.str):rn yE 0 (fun _=>{ }) Tryz.f92 [zz Sh.str x0] []=Tr.ok (zr.ret (AV.bool (bif gU x0 then !wY x0 else false)) []):=by kernel_rfl
def F16:zD:=af [Sh.str] [Sh.bool] fun x=>(dp x.1,())
theorem zbo:FK 92 F16:=by
 refine zP zff fun x C hC=>?_
 refine aw qD zff (fun id _=>hC id) (zhE x.1) ?_
 simp only [Tr.val,dp]
 repeat' split
 all_goals rfl

noncomputable def LR:=yE.addL [(203,F66),(92,F16)]
theorem yF:zm LR:=qD.addL <| fc zb5 <| fc zbo gW
theorem cP {P:Program} {gl:Nat→AV} {k:FuncId} {ks outs:List Sh} {c:zw (ks.map some)→Bool} {g:zw (ks.map some)→zw (outs.map some)} (hf:∃ fn,P.funcs[k]?=some fn∧(fn.name == "runtime.NumGoroutine")=false∧fn.body.isNone=false) (hc:∀ x,c x=false):lF P gl k (zC ks outs c g):=by
 refine ⟨hf,?_⟩
 intro w U ρ hp n args vals f fp hv
 exfalso
 unfold zC zR at hv
 split at hv
 ·simp only at hv
  split at hv
  ·split at hv
   ·simp only [Tr.val_bind,eO] at hv
    obtain ⟨res,h1,h2⟩:=hv
    unfold gC at h1
    split at h1
    ·simp only [Tr.val,hc] at h1
     simp at h1
    ·simp at h1
   ·simp at hv
  ·simp at hv
 ·simp at hv
theorem jU {Φ:zr→Prop} {c:Bool} {t f:Tr zr} (h1:c=true→eW Φ t.val) (h2:c=false→eW Φ f.val):eW Φ (Tr.br c t f).val:=by
 cases c
 ·simpa [Tr.val] using h2 rfl
 ·simpa [Tr.val] using h1 rfl
theorem cO {Φ:zr→Prop} {c:Bool} {t:Tr zr} (hc:c=true) (h:eW Φ t.val):eW Φ (Tr.chk c t).val:=by
 subst hc
 simpa [Tr.val] using h
theorem zq {Φ:zr→Prop} {t:Tr zr} (h:eW Φ t.val):eW Φ (Tr.chk true t).val:=h
theorem kk {c:Bool} (h:c=false):¬ c=true:=by rw [h]; simp
theorem mU {c g:Bool} (h:(if c=true then g else false)=true):c=true∧g=true:=by
 split at h
 ·exact ⟨‹_›,h⟩
 ·cases h
theorem eU {Φ:zr→Prop} {c:Bool} {t f:Tr zr} {α:Sort _} {a b y:α} {p q:Bool} (hy:(if c=true then a else b)=y) (hc:(if c=true then p else q)=true) (h1:c=true→a=y→p=true→eW Φ t.val) (h2:c=false→b=y→q=true→eW Φ f.val):eW Φ (Tr.br c t f).val:=
 jU (fun h=>h1 h (by rwa [if_pos h] at hy) (by rwa [if_pos h] at hc)) (fun h=>h2 h (by rwa [if_neg (kk h)] at hy) (by rwa [if_neg (kk h)] at hc))
theorem aP {Φ:zr→Prop} {c:Bool} {t f:Tr zr} {α:Sort _} {a b y:α} (hy:(if c=true then a else b)=y) (h1:c=true→a=y→eW Φ t.val) (h2:c=false→b=y→eW Φ f.val):eW Φ (Tr.br c t f).val:=
 jU (fun h=>h1 h (by rwa [if_pos h] at hy)) (fun h=>h2 h (by rwa [if_neg (kk h)] at hy))
theorem bh {Φ:zr→Prop} {c g:Bool} {t:Tr zr} (hc:(if c=true then g else false)=true) (h:g=true→eW Φ t.val):eW Φ (Tr.chk c t).val:=
 cO (mU hc).1 (h (mU hc).2)
theorem Tr.val_brT {α:Type} (t f:Tr α):(Tr.br true t f).val=t.val:=rfl
theorem Tr.val_brF {α:Type} (t f:Tr α):(Tr.br false t f).val=f.val:=rfl
theorem Tr.val_chkT {α:Type} (t:Tr α):(Tr.chk true t).val=t.val:=rfl
instance:Inhabited ze:=⟨.mk [] (0,0,[]) [] []⟩
instance (s:Sh):Inhabited (Sem s):=⟨zj s⟩

noncomputable def JL (g:Sem Sh.expr→Sem (Sh.sl zi)→Sem zg×Sem zg) (c:Sem Sh.expr→Sem (Sh.sl zi)→Bool):bf:=LR.add 136 (zC [Sh.expr,Sh.sl zi] [zg,zg] (fun x=>c x.1 x.2.1) fun x=>((g x.1 x.2.1).1,(g x.1 x.2.1).2,()))
theorem uS {g:Sem Sh.expr→Sem (Sh.sl zi)→Sem zg×Sem zg} {c:Sem Sh.expr→Sem (Sh.sl zi)→Bool} (hg:FK 136 (zC [Sh.expr,Sh.sl zi] [zg,zg] (fun x=>c x.1 x.2.1) fun x=>((g x.1 x.2.1).1,(g x.1 x.2.1).2,()))):zm (JL g c):=yF.add hg
abbrev Ut:Nat→zX:=fun j=>if j=3 then { slots:=[1,2,6,15,16,17],prom:=[(6,none,zg)] } else { }
abbrev xe (l1:LC) (l15:LX) (i16:Int) (i17:Int) (ja0:zn) (ja1:Int) (ja2:Int) (ja3:zn) (ja4:zn) (ja5:LX) (lh_1:LI):St:={ tmps:=(tm 91 [(1,AV.sl zi l1),(2,AV.ptr 0 0),(6,AV.vec 1),(15,AV.sl Sh.expr l15),(16,ai i16),(17,ai i17)]),heap:=[AO.box [AV.str ja0,ai ja1,ai ja2,AV.str ja3,AV.str ja4,AV.sl Sh.expr ja5],AO.vec zg lh_1] }
theorem wc (g:Sem Sh.expr→Sem (Sh.sl zi)→Sem zg×Sem zg) (c:Sem Sh.expr→Sem (Sh.sl zi)→Bool):zA (JL g c).P 136 Tryz.f136 2:=aJ (by kernel_rfl)
theorem zdJ (g:Sem Sh.expr→Sem (Sh.sl zi)→Sem zg×Sem zg) (c:Sem Sh.expr→Sem (Sh.sl zi)→Bool) (x0:Sem Sh.expr) (x1:Sem zi.sl):rn (JL g c) 0 Ut Tryz.f136 [zz Sh.expr x0,zz zi.sl x1] []=Tr.ok (zr.head 3 (zx Tryz.f136 3) (xe x1 (ze.l x0) (↑(ze.l x0).length:Int) 0 (ze.op x0) (ze.v x0).1 (ze.v x0).2.1 (ze.v x0).2.2 (ze.s x0) (ze.l x0) [])):=by kernel_rfl
theorem It (g:Sem Sh.expr→Sem (Sh.sl zi)→Sem zg×Sem zg) (c:Sem Sh.expr→Sem (Sh.sl zi)→Bool) (l1:LC) (l15:LX) (i16:Int) (i17:Int) (ja0:zn) (ja1:Int) (ja2:Int) (ja3:zn) (ja4:zn) (ja5:LX) (lh_1:LI):rh (JL g c) 0 Ut Tryz.f136 3 (xe l1 l15 i16 i17 ja0 ja1 ja2 ja3 ja4 ja5 lh_1)=Tr.br (decide (i17 < i16)) (Tr.chk (zE i17 l15.length) (Tr.chk (c (zB (l15.getD i17.toNat (zj Sh.expr))) l1) (Tr.br ((g (zB (l15.getD i17.toNat (zj Sh.expr))) l1).2 != 0) (Tr.ok (zr.ret (AV.tup [ai 0,AV.int IntKind.i64 (g (zB (l15.getD i17.toNat (zj Sh.expr))) l1).2]) [])) (Tr.chk (decide (lh_1.length+[(g (zB (l15.getD i17.toNat (zj Sh.expr))) l1).1].length≤1073741824)) (Tr.ok (zr.head 3 (zx Tryz.f136 3) (xe l1 l15 i16 (IntKind.i64.wrap (i17+1)) ja0 ja1 ja2 ja3 ja4 ja5 (lh_1++[(g (zB (l15.getD i17.toNat (zj Sh.expr))) l1).1])))))))) (Tr.br (ja0==[108,105,116]) (Tr.ok (zr.ret (AV.tup [ai ja1,ai 0]) [])) (Tr.br (ja0==[99,111,108]) (Tr.br (decide (z6 l1 ja4 < 0)) (Tr.ok (zr.ret (AV.tup [ai 0,ai 4]) [])) (Tr.chk (zE (z6 l1 ja4) l1.length) (Tr.ok (zr.ret (AV.tup [ai (l1.getD (toNat (z6 l1 ja4)) (zj zi)).2.1,ai 0]) [])))) (Tr.br (ja0==[110,111,116])
 (Tr.br (!sE lh_1 3) (Tr.ok (zr.ret (AV.tup [ai 0,ai 5]) [])) (Tr.ok (zr.ret (AV.tup [ai 3,ai 0]) []))) (Tr.br (ja0==[97,110,100]) (Tr.br (!sE lh_1 3) (Tr.ok (zr.ret (AV.tup [ai 0,ai 5]) [])) (Tr.ok (zr.ret (AV.tup [ai 3,ai 0]) []))) (Tr.br (ja0==[111,114]) (Tr.br (!sE lh_1 3) (Tr.ok (zr.ret (AV.tup [ai 0,ai 5]) [])) (Tr.ok (zr.ret (AV.tup [ai 3,ai 0]) []))) (Tr.br (ja0==[61]) (Tr.chk (zE 0 lh_1.length&&(decide (toNat 0 < lh_1.length)&&(zE 1 lh_1.length&&(decide (toNat 1 < lh_1.length)&&bif lh_1.getD (toNat 0) (zj zg)==lh_1.getD (toNat 1) (zj zg) then true else zE 0 lh_1.length&&(decide (toNat 0 < lh_1.length)&&bif lh_1.getD (toNat 0) (zj zg)==0 then true else zE 1 lh_1.length&&decide (toNat 1 < lh_1.length)))))) (Tr.br (!bif lh_1.getD (toNat 0) (zj zg)==lh_1.getD (toNat 1) (zj zg) then true else bif lh_1.getD (toNat 0) (zj zg)==0 then true else lh_1.getD (toNat 1) (zj zg)==0) (Tr.ok (zr.ret (AV.tup [ai 0,ai 5]) [])) (Tr.ok (zr.ret (AV.tup [ai 3,ai 0]) [])))) (Tr.br (ja0==[60]) (Tr.chk (zE 0 lh_1.length&&(decide (toNat 0 < lh_1.length)&&(zE 1 lh_1.length&&(decide (toNat 1 < lh_1.length)&&
 bif lh_1.getD (toNat 0) (zj zg)==lh_1.getD (toNat 1) (zj zg) then true else zE 0 lh_1.length&&(decide (toNat 0 < lh_1.length)&&bif lh_1.getD (toNat 0) (zj zg)==0 then true else zE 1 lh_1.length&&decide (toNat 1 < lh_1.length)))))) (Tr.br (!bif lh_1.getD (toNat 0) (zj zg)==lh_1.getD (toNat 1) (zj zg) then true else bif lh_1.getD (toNat 0) (zj zg)==0 then true else lh_1.getD (toNat 1) (zj zg)==0) (Tr.ok (zr.ret (AV.tup [ai 0,ai 5]) [])) (Tr.ok (zr.ret (AV.tup [ai 3,ai 0]) [])))) (Tr.br (ja0==[43]) (Tr.br (!sE lh_1 1) (Tr.ok (zr.ret (AV.tup [ai 0,ai 5]) [])) (Tr.ok (zr.ret (AV.tup [ai 1,ai 0]) []))) (Tr.br (ja0==[45]) (Tr.br (!sE lh_1 1) (Tr.ok (zr.ret (AV.tup [ai 0,ai 5]) [])) (Tr.ok (zr.ret (AV.tup [ai 1,ai 0]) []))) (Tr.ok (zr.ret (AV.tup [ai 3,ai 0]) []))))))))))):=by kernel_rfl
def fb (g:Sem Sh.expr→Sem (Sh.sl zi)→Sem zg×Sem zg) (c:Sem Sh.expr→Sem (Sh.sl zi)→Bool) (l1:LC) (ja0:zn) (ja1:Int) (ja2:Int) (ja3:zn) (ja4:zn) (ja5:LX):List (Sem Sh.expr)→Int→List (Sem zg)→Sem zg×Sem zg
 | [],_,lh_1=>if (ja0==[108,105,116])=true then (ja1,0)
else
 if (ja0==[99,111,108])=true then
  if decide (z6 l1 ja4 < 0)=true then (0,4)
  else ((l1.getD (toNat (z6 l1 ja4)) (zj zi)).2.1,0)
 else
  if (ja0==[110,111,116])=true then if (!sE lh_1 3)=true then (0,5) else (3,0)
  else
   if (ja0==[97,110,100])=true then if (!sE lh_1 3)=true then (0,5) else (3,0)
   else
    if (ja0==[111,114])=true then if (!sE lh_1 3)=true then (0,5) else (3,0)
    else
     if (ja0==[61])=true then
      if
        (!bif lh_1.getD (toNat 0) (zj zg)==lh_1.getD (toNat 1) (zj zg) then true
          else bif lh_1.getD (toNat 0) (zj zg)==0 then true else lh_1.getD (toNat 1) (zj zg)==0)=
         true then
       (0,5)
      else (3,0)
     else
      if (ja0==[60])=true then
       if
         (!bif lh_1.getD (toNat 0) (zj zg)==lh_1.getD (toNat 1) (zj zg) then true
           else
            bif lh_1.getD (toNat 0) (zj zg)==0 then true else lh_1.getD (toNat 1) (zj zg)==0)=
          true then
        (0,5)
       else (3,0)
      else
       if (ja0==[43])=true then if (!sE lh_1 1)=true then (0,5) else (1,0)
       else if (ja0==[45])=true then if (!sE lh_1 1)=true then (0,5) else (1,0) else (3,0)
 | x::r,i17,lh_1=>if ((g x l1).2 != 0)=true then (0,(g x l1).2) else fb g c l1 ja0 ja1 ja2 ja3 ja4 ja5 r (i17+1) (lh_1++[(g x l1).1])
def eM (g:Sem Sh.expr→Sem (Sh.sl zi)→Sem zg×Sem zg) (c:Sem Sh.expr→Sem (Sh.sl zi)→Bool) (l1:LC) (ja0:zn) (ja1:Int) (ja2:Int) (ja3:zn) (ja4:zn) (ja5:LX):List (Sem Sh.expr)→Int→List (Sem zg)→Bool
 | [],_,lh_1=>if (ja0==[108,105,116])=true then true
else
 if (ja0==[99,111,108])=true then
  if decide (z6 l1 ja4 < 0)=true then true else if zE (z6 l1 ja4) l1.length=true then true else false
 else
  if (ja0==[110,111,116])=true then true
  else
   if (ja0==[97,110,100])=true then true
   else
    if (ja0==[111,114])=true then true
    else
     if (ja0 == [61])=true then
      if
        (zE 0 lh_1.length&&
          (decide (toNat 0 < lh_1.length)&&
           (zE 1 lh_1.length&&
            (decide (toNat 1 < lh_1.length)&&
             bif lh_1.getD (toNat 0) (zj zg)==lh_1.getD (toNat 1) (zj zg) then true
             else
              zE 0 lh_1.length&&
               (decide (toNat 0 < lh_1.length)&&
                bif lh_1.getD (toNat 0) (zj zg)==0 then true
                else zE 1 lh_1.length&&decide (toNat 1 < lh_1.length))))))=
         true then
       true
      else false
     else
      if (ja0 == [60])=true then
       if
         (zE 0 lh_1.length&&
           (decide (toNat 0 < lh_1.length)&&
            (zE 1 lh_1.length&&
             (decide (toNat 1 < lh_1.length)&&
              bif lh_1.getD (toNat 0) (zj zg)==lh_1.getD (toNat 1) (zj zg) then true
              else
               zE 0 lh_1.length&&
                (decide (toNat 0 < lh_1.length)&&
                 bif lh_1.getD (toNat 0) (zj zg)==0 then true
                 else zE 1 lh_1.length&&decide (toNat 1 < lh_1.length))))))=
          true then
        true
       else false
      else true
 | x::r,i17,lh_1=>if c x l1=true then
 if ((g x l1).2 != 0)=true then true
 else
  if decide (lh_1.length+[(g x l1).1].length≤1073741824)=true then
   eM g c l1 ja0 ja1 ja2 ja3 ja4 ja5 r (i17+1) (lh_1++[(g x l1).1])
  else false
else false
theorem QA (g:Sem Sh.expr→Sem (Sh.sl zi)→Sem zg×Sem zg) (c:Sem Sh.expr→Sem (Sh.sl zi)→Bool) (hg:FK 136 (zC [Sh.expr,Sh.sl zi] [zg,zg] (fun x=>c x.1 x.2.1) fun x=>((g x.1 x.2.1).1,(g x.1 x.2.1).2,()))) {C:cq} (hC:∀ id,C.ρ0 id=none) (l1:LC) (ja0:zn) (ja1:Int) (ja2:Int) (ja3:zn) (ja4:zn) (ja5:LX) (l15:LX) (hl:l15.length≤zF):∀ (m i:Nat) (lh_1:LI),l15.length - i=m→i≤l15.length→eM g c l1 ja0 ja1 ja2 ja3 ja4 ja5 (l15.drop i) i lh_1=true→
  Reach (JL g c) C 136 (zx Tryz.f136 3) (xe l1 l15 (l15.length:Int) (i:Int) ja0 ja1 ja2 ja3 ja4 ja5 lh_1) (fun r h=>ae h [zg,zg] r=some ((fb g c l1 ja0 ja1 ja2 ja3 ja4 ja5 (l15.drop i) i lh_1).1,(fb g c l1 ja0 ja1 ja2 ja3 ja4 ja5 (l15.drop i) i lh_1).2,())):=by
 intro m
 induction m with
 | zero=>
  intro i lh_1 hm hi hc
  obtain rfl:i=l15.length:=by omega
  rw [dg] at hc ⊢
  refine zk (uS hg) (wc g c) (fun id _=>hC id) (It g c _ _ _ _ _ _ _ _ _ _ _) ?_
  rw [eM] at hc
  generalize hy:fb g c l1 ja0 ja1 ja2 ja3 ja4 ja5 [] _ lh_1=y
  rw [fb] at hy
  simp only [ze.eta,z8,Tr.val_brF]
  repeat' (first | with_reducible refine eU hy hc (fun _ hy hc=>?_) (fun _ hy hc=>?_) | with_reducible refine aP hy (fun _ hy=>?_) (fun _ hy=>?_) | with_reducible refine bh hc (fun hc=>?_) | with_reducible refine zq ?_)
  all_goals (subst hy; first | rfl)
 | succ m IH=>
  intro i lh_1 hm hi hc
  have hlt:i < l15.length:=by omega
  have IH:=IH (i+1)
  have hcast:((i:Int)+1)=((i+1:Nat):Int):=by omega
  have hwr:=zH i (by omega)
  rw [dA hlt] at hc ⊢
  refine zk (uS hg) (wc g c) (fun id _=>hC id) (It g c _ _ _ _ _ _ _ _ _ _ _) ?_
  rw [eM] at hc
  generalize hy:fb g c l1 ja0 ja1 ja2 ja3 ja4 ja5 (l15[i]::l15.drop (i+1)) (i:Int) lh_1=y
  rw [fb] at hy
  simp only [ze.eta,zW hlt,zG hlt,zY l15 _ hlt,hwr,Tr.val_brT,Tr.val_chkT]
  clear hwr
  simp only [hcast] at hy
  try simp only [hcast] at hc
  repeat' (first | with_reducible refine eU hy hc (fun _ hy hc=>?_) (fun _ hy hc=>?_) | with_reducible refine aP hy (fun _ hy=>?_) (fun _ hy=>?_) | with_reducible refine bh hc (fun hc=>?_) | with_reducible refine zq ?_)
  all_goals (subst hy; first | (change Reach _ _ _ _ _ _; apply IH <;> first | omega | assumption) | rfl)
theorem Lg (g:Sem Sh.expr→Sem (Sh.sl zi)→Sem zg×Sem zg) (c:Sem Sh.expr→Sem (Sh.sl zi)→Bool) (hg:FK 136 (zC [Sh.expr,Sh.sl zi] [zg,zg] (fun x=>c x.1 x.2.1) fun x=>((g x.1 x.2.1).1,(g x.1 x.2.1).2,()))) {C:cq} (hC:∀ id,C.ρ0 id=none) (l1:LC) (ja0:zn) (ja1:Int) (ja2:Int) (ja3:zn) (ja4:zn) (ja5:LX) (l15:LX) (lh_1:LI) (hc:eM g c l1 ja0 ja1 ja2 ja3 ja4 ja5 l15 0 lh_1=true):
  Reach (JL g c) C 136 (zx Tryz.f136 3) (xe l1 l15 (l15.length:Int) 0 ja0 ja1 ja2 ja3 ja4 ja5 lh_1) (fun r h=>ae h [zg,zg] r=some ((fb g c l1 ja0 ja1 ja2 ja3 ja4 ja5 l15 0 lh_1).1,(fb g c l1 ja0 ja1 ja2 ja3 ja4 ja5 l15 0 lh_1).2,())):=
 Reach.len 15 (Sh.expr) l15 rfl fun hl=>QA g c hg hC l1 ja0 ja1 ja2 ja3 ja4 ja5 l15 hl _ 0 lh_1 rfl (aD _) hc
def xx (g:Sem Sh.expr→Sem (Sh.sl zi)→Sem zg×Sem zg) (c:Sem Sh.expr→Sem (Sh.sl zi)→Bool) (x0:Sem Sh.expr) (x1:Sem zi.sl):Sem zg×Sem zg:=fb g c x1 (ze.op x0) (ze.v x0).1 (ze.v x0).2.1 (ze.v x0).2.2 (ze.s x0) (ze.l x0) (ze.l x0) 0 []
def tG (g:Sem Sh.expr→Sem (Sh.sl zi)→Sem zg×Sem zg) (c:Sem Sh.expr→Sem (Sh.sl zi)→Bool) (x0:Sem Sh.expr) (x1:Sem zi.sl):Bool:=eM g c x1 (ze.op x0) (ze.v x0).1 (ze.v x0).2.1 (ze.v x0).2.2 (ze.s x0) (ze.l x0) (ze.l x0) 0 []
def zgY (g:Sem Sh.expr→Sem (Sh.sl zi)→Sem zg×Sem zg) (c:Sem Sh.expr→Sem (Sh.sl zi)→Bool):zD:=zC [Sh.expr,zi.sl] [zg,zg] (fun x=>tG g c x.1 x.2.1) fun x=>((xx g c x.1 x.2.1).1,(xx g c x.1 x.2.1).2,())
theorem Wh (g:Sem Sh.expr→Sem (Sh.sl zi)→Sem zg×Sem zg) (c:Sem Sh.expr→Sem (Sh.sl zi)→Bool) (hg:FK 136 (zC [Sh.expr,Sh.sl zi] [zg,zg] (fun x=>c x.1 x.2.1) fun x=>((g x.1 x.2.1).1,(g x.1 x.2.1).2,()))):FK 136 (zgY g c):=by
 refine zN (wc g c) fun x hc C hC=>?_
 unfold tG at hc
 refine zk (uS hg) (wc g c) (fun id _=>hC id) (zdJ g c x.1 x.2.1) ?_
 generalize hy:xx g c x.1 x.2.1=y
 unfold xx at hy
 try simp only [ze.eta,zo]
 repeat' (first | with_reducible refine eU hy hc (fun _ hy hc=>?_) (fun _ hy hc=>?_) | with_reducible refine aP hy (fun _ hy=>?_) (fun _ hy=>?_) | with_reducible refine bh hc (fun hc=>?_) | with_reducible refine zq ?_)
 all_goals (subst hy; first | (change Reach _ _ _ _ _ _; apply Lg g c hg hC <;> first | assumption | exact hc) | rfl)
mutual
def gw:Nat→Sem Sh.expr→Sem (Sh.sl zi)→Sem zg×Sem zg
 | 0=>fun _ _=>default
 | n+1=>xx (gw n) (iH n)
def iH:Nat→Sem Sh.expr→Sem (Sh.sl zi)→Bool
 | 0=>fun _ _=>false
 | n+1=>tG (gw n) (iH n)
end
theorem K0:∀ n,FK 136 (zC [Sh.expr,Sh.sl zi] [zg,zg] (fun x=>iH n x.1 x.2.1) fun x=>((gw n x.1 x.2.1).1,(gw n x.1 x.2.1).2,()))
 | 0=>cP ⟨Tryz.f136,(wc default default).1,(wc default default).2.1,(wc default default).2.2.1⟩ (fun _=>rfl)
 | n+1=>Wh (gw n) (iH n) (K0 n)
def F51:zD:=zC [Sh.expr,Sh.sl zi] [zg,zg] (fun x=>iH 16 x.1 x.2.1) fun x=>((gw 16 x.1 x.2.1).1,(gw 16 x.1 x.2.1).2,())
theorem zbR:FK 136 F51:=K0 16

noncomputable def DI:=LR.add 136 F51
theorem mJ:zm DI:=yF.add zbR

noncomputable def JG (g:Sem Sh.expr→Sem zg→Sem zg→Sem Sh.expr×Sem zg) (c:Sem Sh.expr→Sem zg→Sem zg→Bool):bf:=DI.add 53 (zC [Sh.expr,zg,zg] [Sh.expr,zg] (fun x=>c x.1 x.2.1 x.2.2.1) fun x=>((g x.1 x.2.1 x.2.2.1).1,(g x.1 x.2.1 x.2.2.1).2,()))
theorem uL {g:Sem Sh.expr→Sem zg→Sem zg→Sem Sh.expr×Sem zg} {c:Sem Sh.expr→Sem zg→Sem zg→Bool} (hg:FK 53 (zC [Sh.expr,zg,zg] [Sh.expr,zg] (fun x=>c x.1 x.2.1 x.2.2.1) fun x=>((g x.1 x.2.1 x.2.2.1).1,(g x.1 x.2.1 x.2.2.1).2,()))):zm (JG g c):=mJ.add hg
abbrev Uo:Nat→zX:=fun j=>if j=10 then { slots:=[1,2,3,6,8,9],prom:=[(8,some 5,Sh.expr)] } else { }
abbrev ff (i1:Sem zg) (i2:Int) (i9:Int) (ja0:zn) (ja1:Int) (ja2:Int) (ja3:zn) (ja4:zn) (ja5:LX) (jb0:List UInt8) (jb1:Int) (jb2:Int) (jb3:List UInt8) (jb4:List UInt8) (jc0:List UInt8) (jc1:Int) (jc2:Int) (jc3:List UInt8) (jc4:List UInt8) (lh_3:LX):St:={ tmps:=(tm 88 [(1,ai i1),(2,ai i2),(3,AV.ptr 0 0),(6,AV.ptr 1 0),(8,AV.ptr 2 0),(9,ai i9)]),heap:=[AO.box [AV.str ja0,ai ja1,ai ja2,AV.str ja3,AV.str ja4,AV.sl Sh.expr ja5],AO.box [AV.str jb0,ai jb1,ai jb2,AV.str jb3,AV.str jb4,AV.nils],AO.box [AV.str jc0,ai jc1,ai jc2,AV.str jc3,AV.str jc4,AV.vec 3],AO.vec Sh.expr lh_3] }
theorem wa (g:Sem Sh.expr→Sem zg→Sem zg→Sem Sh.expr×Sem zg) (c:Sem Sh.expr→Sem zg→Sem zg→Bool):zA (JG g c).P 53 Tryz.f53 3:=aJ (by kernel_rfl)
theorem zdA (g:Sem Sh.expr→Sem zg→Sem zg→Sem Sh.expr×Sem zg) (c:Sem Sh.expr→Sem zg→Sem zg→Bool) (x0:Sem Sh.expr) (x1:Sem zg) (x2:Sem zg):rn (JG g c) 0 Uo Tryz.f53 [zz Sh.expr x0,zz zg x1,zz zg x2] []=Tr.br (decide ((↑(length (ze.op x0)):Int) > 8)) (Tr.chk (decide (0≤0)&&decide (0≤8)&&decide (8≤(↑(length (ze.op x0)):Int))) (Tr.br (decide ((↑(length (ze.s x0)):Int) > 20)) (Tr.chk (decide (0≤0)&&decide (0≤20)&&decide (20≤(↑(length (ze.s x0)):Int))) (Tr.br (decide ((↑(length (ze.v x0).2.2):Int) > 45)) (Tr.chk (decide (0≤0)&&decide (0≤45)&&decide (45≤(↑(length (ze.v x0).2.2):Int))) (Tr.ok (zr.head 10 (zx Tryz.f53 10) (ff x1 (IntKind.i64.wrap (x2 - 1)) 0 (ze.op x0) (ze.v x0).1 (ze.v x0).2.1 (ze.v x0).2.2 (ze.s x0) (ze.l x0) [] 0 0 [] [] (List.take (toNat 8 - toNat 0) (List.drop (toNat 0) (ze.op x0))) (ze.v x0).1 (ze.v x0).2.1 (List.take (toNat 45 - toNat 0) (List.drop (toNat 0) (ze.v x0).2.2)) (List.take (toNat 20 - toNat 0) (List.drop (toNat 0) (ze.s x0))) [])))) (Tr.ok (zr.head 10 (zx Tryz.f53 10) (ff x1 (IntKind.i64.wrap (x2 - 1)) 0 (ze.op x0) (ze.v x0).1 (ze.v x0).2.1 (ze.v x0).2.2 (ze.s x0) (ze.l x0) [] 0
 0 [] [] (List.take (toNat 8 - toNat 0) (List.drop (toNat 0) (ze.op x0))) (ze.v x0).1 (ze.v x0).2.1 (ze.v x0).2.2 (List.take (toNat 20 - toNat 0) (List.drop (toNat 0) (ze.s x0))) []))))) (Tr.br (decide ((↑(length (ze.v x0).2.2):Int) > 45)) (Tr.chk (decide (0≤0)&&decide (0≤45)&&decide (45≤(↑(length (ze.v x0).2.2):Int))) (Tr.ok (zr.head 10 (zx Tryz.f53 10) (ff x1 (IntKind.i64.wrap (x2 - 1)) 0 (ze.op x0) (ze.v x0).1 (ze.v x0).2.1 (ze.v x0).2.2 (ze.s x0) (ze.l x0) [] 0 0 [] [] (List.take (toNat 8 - toNat 0) (List.drop (toNat 0) (ze.op x0))) (ze.v x0).1 (ze.v x0).2.1 (List.take (toNat 45 - toNat 0) (List.drop (toNat 0) (ze.v x0).2.2)) (ze.s x0) [])))) (Tr.ok (zr.head 10 (zx Tryz.f53 10) (ff x1 (IntKind.i64.wrap (x2 - 1)) 0 (ze.op x0) (ze.v x0).1 (ze.v x0).2.1 (ze.v x0).2.2 (ze.s x0) (ze.l x0) [] 0 0 [] [] (List.take (toNat 8 - toNat 0) (List.drop (toNat 0) (ze.op x0))) (ze.v x0).1 (ze.v x0).2.1 (ze.v x0).2.2 (ze.s x0) [])))))) (Tr.br (decide ((↑(length (ze.s x0)):Int) > 20)) (Tr.chk (decide (0≤0)&&decide (0≤20)&&decide (20≤(↑(length (ze.s x0)):Int))) (Tr.br (decide ((↑(length (ze.v x0).2.2):Int) > 45)) (Tr.chk (decide (0≤0)&&decide (0≤45)&&decide (45≤(↑(length (ze.v x0).2.2):Int))) (Tr.ok (zr.head 10 (zx Tryz.f53 10)
 (ff x1 (IntKind.i64.wrap (x2 - 1)) 0 (ze.op x0) (ze.v x0).1 (ze.v x0).2.1 (ze.v x0).2.2 (ze.s x0) (ze.l x0) [] 0 0 [] [] (ze.op x0) (ze.v x0).1 (ze.v x0).2.1 (List.take (toNat 45 - toNat 0) (List.drop (toNat 0) (ze.v x0).2.2)) (List.take (toNat 20 - toNat 0) (List.drop (toNat 0) (ze.s x0))) [])))) (Tr.ok (zr.head 10 (zx Tryz.f53 10) (ff x1 (IntKind.i64.wrap (x2 - 1)) 0 (ze.op x0) (ze.v x0).1 (ze.v x0).2.1 (ze.v x0).2.2 (ze.s x0) (ze.l x0) [] 0 0 [] [] (ze.op x0) (ze.v x0).1 (ze.v x0).2.1 (ze.v x0).2.2 (List.take (toNat 20 - toNat 0) (List.drop (toNat 0) (ze.s x0))) []))))) (Tr.br (decide ((↑(length (ze.v x0).2.2):Int) > 45)) (Tr.chk (decide (0≤0)&&decide (0≤45)&&decide (45≤(↑(length (ze.v x0).2.2):Int))) (Tr.ok (zr.head 10 (zx Tryz.f53 10) (ff x1 (IntKind.i64.wrap (x2 - 1)) 0 (ze.op x0) (ze.v x0).1 (ze.v x0).2.1 (ze.v x0).2.2 (ze.s x0) (ze.l x0) [] 0 0 [] [] (ze.op x0) (ze.v x0).1 (ze.v x0).2.1 (List.take (toNat 45 - toNat 0) (List.drop (toNat 0) (ze.v x0).2.2)) (ze.s x0) [])))) (Tr.ok (zr.head 10 (zx Tryz.f53 10) (ff x1 (IntKind.i64.wrap (x2 - 1)) 0 (ze.op x0) (ze.v x0).1 (ze.v x0).2.1 (ze.v x0).2.2 (ze.s x0) (ze.l x0) [] 0 0 [] [] (ze.op x0) (ze.v x0).1 (ze.v x0).2.1 (ze.v x0).2.2 (ze.s x0) []))))):=by kernel_rfl
theorem Eo (g:Sem Sh.expr→Sem zg→Sem zg→Sem Sh.expr×Sem zg) (c:Sem Sh.expr→Sem zg→Sem zg→Bool) (i1:Sem zg) (i2:Int) (i9:Int) (ja0:zn) (ja1:Int) (ja2:Int) (ja3:zn) (ja4:zn) (ja5:LX) (jb0:List UInt8) (jb1:Int) (jb2:Int) (jb3:List UInt8) (jb4:List UInt8) (jc0:List UInt8) (jc1:Int) (jc2:Int) (jc3:List UInt8) (jc4:List UInt8) (lh_3:LX):rh (JG g c) 0 Uo Tryz.f53 10 (ff i1 i2 i9 ja0 ja1 ja2 ja3 ja4 ja5 jb0 jb1 jb2 jb3 jb4 jc0 jc1 jc2 jc3 jc4 lh_3)=Tr.br (bif decide (i9 < (↑ja5.length:Int)) then bif decide (i9 < 3) then bif decide (i1 > 0) then decide (i2 > 0) else false else false else false) (Tr.chk (zE i9 ja5.length) (Tr.chk (c (zB (ja5.getD i9.toNat (zj Sh.expr))) (IntKind.i64.wrap (i1 - 1)) i2) (Tr.chk (decide (lh_3.length+[ze.mk (ze.op (g (zB (ja5.getD i9.toNat (zj Sh.expr))) (IntKind.i64.wrap (i1 - 1)) i2).1) (ze.v (g (zB (ja5.getD i9.toNat (zj Sh.expr))) (IntKind.i64.wrap (i1 - 1)) i2).1) (ze.s (g (zB (ja5.getD i9.toNat (zj Sh.expr))) (IntKind.i64.wrap (i1 - 1)) i2).1) (ze.l (g (zB (ja5.getD i9.toNat (zj Sh.expr))) (IntKind.i64.wrap (i1 - 1)) i2).1)].length≤1073741824)) (Tr.ok (zr.head 10 (zx Tryz.f53 10) (ff i1 (g (zB (ja5.getD i9.toNat (zj Sh.expr))) (IntKind.i64.wrap (i1 - 1)) i2).2
 (IntKind.i64.wrap (i9+1)) ja0 ja1 ja2 ja3 ja4 ja5 jb0 jb1 jb2 jb3 jb4 jc0 jc1 jc2 jc3 jc4 (lh_3++[ze.mk (ze.op (g (zB (ja5.getD i9.toNat (zj Sh.expr))) (IntKind.i64.wrap (i1 - 1)) i2).1) (ze.v (g (zB (ja5.getD i9.toNat (zj Sh.expr))) (IntKind.i64.wrap (i1 - 1)) i2).1) (ze.s (g (zB (ja5.getD i9.toNat (zj Sh.expr))) (IntKind.i64.wrap (i1 - 1)) i2).1) (ze.l (g (zB (ja5.getD i9.toNat (zj Sh.expr))) (IntKind.i64.wrap (i1 - 1)) i2).1)]))))))) (Tr.ok (zr.ret (AV.tup [AV.agg [AV.str jc0,ai jc1,ai jc2,AV.str jc3,AV.str jc4,AV.vec 0],ai i2]) [AO.vec Sh.expr lh_3])):=by kernel_rfl
def bm (g:Sem Sh.expr→Sem zg→Sem zg→Sem Sh.expr×Sem zg) (c:Sem Sh.expr→Sem zg→Sem zg→Bool) (i1:Sem zg) (ja0:zn) (ja1:Int) (ja2:Int) (ja3:zn) (ja4:zn) (jb0:List UInt8) (jb1:Int) (jb2:Int) (jb3:List UInt8) (jb4:List UInt8) (jc0:List UInt8) (jc1:Int) (jc2:Int) (jc3:List UInt8) (jc4:List UInt8):List (Sem Sh.expr)→Int→Int→List (Sem Sh.expr)→Sem Sh.expr×Sem zg
 | [],_,i2,lh_3=>(ze.mk jc0 (jc1,jc2,jc3) jc4 lh_3,i2)
 | x::r,i9,i2,lh_3=>if (bif decide (i9 < 3) then bif decide (i1 > 0) then decide (i2 > 0) else false else false)=true then
 bm g c i1 ja0 ja1 ja2 ja3 ja4 jb0 jb1 jb2 jb3 jb4 jc0 jc1 jc2 jc3 jc4 r (i9+1)
  (g x (IntKind.i64.wrap (i1 - 1)) i2).2 (lh_3++[(g x (IntKind.i64.wrap (i1 - 1)) i2).1])
else (ze.mk jc0 (jc1,jc2,jc3) jc4 lh_3,i2)
def cF (g:Sem Sh.expr→Sem zg→Sem zg→Sem Sh.expr×Sem zg) (c:Sem Sh.expr→Sem zg→Sem zg→Bool) (i1:Sem zg) (ja0:zn) (ja1:Int) (ja2:Int) (ja3:zn) (ja4:zn) (jb0:List UInt8) (jb1:Int) (jb2:Int) (jb3:List UInt8) (jb4:List UInt8) (jc0:List UInt8) (jc1:Int) (jc2:Int) (jc3:List UInt8) (jc4:List UInt8):List (Sem Sh.expr)→Int→Int→List (Sem Sh.expr)→Bool
 | [],_,_,_=>true
 | x::r,i9,i2,lh_3=>if (bif decide (i9 < 3) then bif decide (i1 > 0) then decide (i2 > 0) else false else false)=true then
 if c x (IntKind.i64.wrap (i1 - 1)) i2=true then
  if decide (lh_3.length+[(g x (IntKind.i64.wrap (i1 - 1)) i2).1].length≤1073741824)=true then
   cF g c i1 ja0 ja1 ja2 ja3 ja4 jb0 jb1 jb2 jb3 jb4 jc0 jc1 jc2 jc3 jc4 r (i9+1)
    (g x (IntKind.i64.wrap (i1 - 1)) i2).2 (lh_3++[(g x (IntKind.i64.wrap (i1 - 1)) i2).1])
  else false
 else false
else true
theorem Le (g:Sem Sh.expr→Sem zg→Sem zg→Sem Sh.expr×Sem zg) (c:Sem Sh.expr→Sem zg→Sem zg→Bool) (hg:FK 53 (zC [Sh.expr,zg,zg] [Sh.expr,zg] (fun x=>c x.1 x.2.1 x.2.2.1) fun x=>((g x.1 x.2.1 x.2.2.1).1,(g x.1 x.2.1 x.2.2.1).2,()))) {C:cq} (hC:∀ id,C.ρ0 id=none) (i1:Sem zg) (ja0:zn) (ja1:Int) (ja2:Int) (ja3:zn) (ja4:zn) (jb0:List UInt8) (jb1:Int) (jb2:Int) (jb3:List UInt8) (jb4:List UInt8) (jc0:List UInt8) (jc1:Int) (jc2:Int) (jc3:List UInt8) (jc4:List UInt8) (ja5:LX) (hl:ja5.length≤zF):∀ (m i:Nat) (i2:Int) (lh_3:LX),ja5.length - i=m→i≤ja5.length→cF g c i1 ja0 ja1 ja2 ja3 ja4 jb0 jb1 jb2 jb3 jb4 jc0 jc1 jc2 jc3 jc4 (ja5.drop i) i i2 lh_3=true→
  Reach (JG g c) C 53 (zx Tryz.f53 10) (ff i1 i2 (i:Int) ja0 ja1 ja2 ja3 ja4 ja5 jb0 jb1 jb2 jb3 jb4 jc0 jc1 jc2 jc3 jc4 lh_3) (fun r h=>ae h [Sh.expr,zg] r=some ((bm g c i1 ja0 ja1 ja2 ja3 ja4 jb0 jb1 jb2 jb3 jb4 jc0 jc1 jc2 jc3 jc4 (ja5.drop i) i i2 lh_3).1,(bm g c i1 ja0 ja1 ja2 ja3 ja4 jb0 jb1 jb2 jb3 jb4 jc0 jc1 jc2 jc3 jc4 (ja5.drop i) i i2 lh_3).2,())):=by
 intro m
 induction m with
 | zero=>
  intro i i2 lh_3 hm hi hc
  obtain rfl:i=ja5.length:=by omega
  rw [dg] at hc ⊢
  refine zk (uL hg) (wa g c) (fun id _=>hC id) (Eo g c _ _ _ _ _ _ _ _ _ _ _ _ _ _ _ _ _ _ _ _) ?_
  rw [cF] at hc
  generalize hy:bm g c i1 ja0 ja1 ja2 ja3 ja4 jb0 jb1 jb2 jb3 jb4 jc0 jc1 jc2 jc3 jc4 [] _ i2 lh_3=y
  rw [bm] at hy
  simp only [ze.eta,z8,bR,Tr.val_brF]
  repeat' (first | with_reducible refine eU hy hc (fun _ hy hc=>?_) (fun _ hy hc=>?_) | with_reducible refine aP hy (fun _ hy=>?_) (fun _ hy=>?_) | with_reducible refine bh hc (fun hc=>?_) | with_reducible refine zq ?_)
  all_goals (subst hy; first | rfl)
 | succ m IH=>
  intro i i2 lh_3 hm hi hc
  have hlt:i < ja5.length:=by omega
  have IH:=IH (i+1)
  have hcast:((i:Int)+1)=((i+1:Nat):Int):=by omega
  have hwr:=zH i (by omega)
  rw [dA hlt] at hc ⊢
  refine zk (uL hg) (wa g c) (fun id _=>hC id) (Eo g c _ _ _ _ _ _ _ _ _ _ _ _ _ _ _ _ _ _ _ _) ?_
  rw [cF] at hc
  generalize hy:bm g c i1 ja0 ja1 ja2 ja3 ja4 jb0 jb1 jb2 jb3 jb4 jc0 jc1 jc2 jc3 jc4 (ja5[i]::ja5.drop (i+1)) (i:Int) i2 lh_3=y
  rw [bm] at hy
  simp only [ze.eta,zW hlt,zG hlt,zY ja5 _ hlt,hwr,bO]
  clear hwr
  simp only [hcast] at hy
  try simp only [hcast] at hc
  repeat' (first | with_reducible refine eU hy hc (fun _ hy hc=>?_) (fun _ hy hc=>?_) | with_reducible refine aP hy (fun _ hy=>?_) (fun _ hy=>?_) | with_reducible refine bh hc (fun hc=>?_) | with_reducible refine zq ?_)
  all_goals (subst hy; first | (change Reach _ _ _ _ _ _; apply IH <;> first | omega | assumption) | rfl)
theorem Jw (g:Sem Sh.expr→Sem zg→Sem zg→Sem Sh.expr×Sem zg) (c:Sem Sh.expr→Sem zg→Sem zg→Bool) (hg:FK 53 (zC [Sh.expr,zg,zg] [Sh.expr,zg] (fun x=>c x.1 x.2.1 x.2.2.1) fun x=>((g x.1 x.2.1 x.2.2.1).1,(g x.1 x.2.1 x.2.2.1).2,()))) {C:cq} (hC:∀ id,C.ρ0 id=none) (i1:Sem zg) (ja0:zn) (ja1:Int) (ja2:Int) (ja3:zn) (ja4:zn) (jb0:List UInt8) (jb1:Int) (jb2:Int) (jb3:List UInt8) (jb4:List UInt8) (jc0:List UInt8) (jc1:Int) (jc2:Int) (jc3:List UInt8) (jc4:List UInt8) (ja5:LX) (i2:Int) (lh_3:LX) (hc:cF g c i1 ja0 ja1 ja2 ja3 ja4 jb0 jb1 jb2 jb3 jb4 jc0 jc1 jc2 jc3 jc4 ja5 0 i2 lh_3=true):
  Reach (JG g c) C 53 (zx Tryz.f53 10) (ff i1 i2 0 ja0 ja1 ja2 ja3 ja4 ja5 jb0 jb1 jb2 jb3 jb4 jc0 jc1 jc2 jc3 jc4 lh_3) (fun r h=>ae h [Sh.expr,zg] r=some ((bm g c i1 ja0 ja1 ja2 ja3 ja4 jb0 jb1 jb2 jb3 jb4 jc0 jc1 jc2 jc3 jc4 ja5 0 i2 lh_3).1,(bm g c i1 ja0 ja1 ja2 ja3 ja4 jb0 jb1 jb2 jb3 jb4 jc0 jc1 jc2 jc3 jc4 ja5 0 i2 lh_3).2,())):=
 Reach.lenB 0 5 (Sh.expr) ja5 rfl rfl fun hl=>Le g c hg hC i1 ja0 ja1 ja2 ja3 ja4 jb0 jb1 jb2 jb3 jb4 jc0 jc1 jc2 jc3 jc4 ja5 hl _ 0 i2 lh_3 rfl (aD _) hc
def xU (g:Sem Sh.expr→Sem zg→Sem zg→Sem Sh.expr×Sem zg) (c:Sem Sh.expr→Sem zg→Sem zg→Bool) (x0:Sem Sh.expr) (x1:Sem zg) (x2:Sem zg):Sem Sh.expr×Sem zg:=if decide ((↑(length (ze.op x0)):Int) > 8)=true then if decide ((↑(length (ze.s x0)):Int) > 20)=true then if decide ((↑(length (ze.v x0).2.2):Int) > 45)=true then bm g c x1 (ze.op x0) (ze.v x0).1 (ze.v x0).2.1 (ze.v x0).2.2 (ze.s x0) [] 0 0 [] [] (List.take (toNat 8 - toNat 0) (List.drop (toNat 0) (ze.op x0))) (ze.v x0).1 (ze.v x0).2.1 (List.take (toNat 45 - toNat 0) (List.drop (toNat 0) (ze.v x0).2.2)) (List.take (toNat 20 - toNat 0) (List.drop (toNat 0) (ze.s x0))) (ze.l x0) 0 (IntKind.i64.wrap (x2 - 1)) [] else bm g c x1 (ze.op x0) (ze.v x0).1 (ze.v x0).2.1 (ze.v x0).2.2 (ze.s x0) [] 0 0 [] [] (List.take (toNat 8 - toNat 0) (List.drop (toNat 0) (ze.op x0))) (ze.v x0).1 (ze.v x0).2.1 (ze.v x0).2.2 (List.take (toNat 20 - toNat 0) (List.drop (toNat 0) (ze.s x0))) (ze.l x0) 0 (IntKind.i64.wrap (x2 - 1)) [] else if decide ((↑(length (ze.v x0).2.2):Int) > 45)=true then bm g c x1 (ze.op x0) (ze.v x0).1 (ze.v x0).2.1 (ze.v x0).2.2 (ze.s x0) [] 0 0 [] [] (List.take (toNat 8 - toNat 0) (List.drop (toNat 0) (ze.op x0))) (ze.v x0).1 (ze.v x0).2.1
 (List.take (toNat 45 - toNat 0) (List.drop (toNat 0) (ze.v x0).2.2)) (ze.s x0) (ze.l x0) 0 (IntKind.i64.wrap (x2 - 1)) [] else bm g c x1 (ze.op x0) (ze.v x0).1 (ze.v x0).2.1 (ze.v x0).2.2 (ze.s x0) [] 0 0 [] [] (List.take (toNat 8 - toNat 0) (List.drop (toNat 0) (ze.op x0))) (ze.v x0).1 (ze.v x0).2.1 (ze.v x0).2.2 (ze.s x0) (ze.l x0) 0 (IntKind.i64.wrap (x2 - 1)) [] else if decide ((↑(length (ze.s x0)):Int) > 20)=true then if decide ((↑(length (ze.v x0).2.2):Int) > 45)=true then bm g c x1 (ze.op x0) (ze.v x0).1 (ze.v x0).2.1 (ze.v x0).2.2 (ze.s x0) [] 0 0 [] [] (ze.op x0) (ze.v x0).1 (ze.v x0).2.1 (List.take (toNat 45 - toNat 0) (List.drop (toNat 0) (ze.v x0).2.2)) (List.take (toNat 20 - toNat 0) (List.drop (toNat 0) (ze.s x0))) (ze.l x0) 0 (IntKind.i64.wrap (x2 - 1)) [] else bm g c x1 (ze.op x0) (ze.v x0).1 (ze.v x0).2.1 (ze.v x0).2.2 (ze.s x0) [] 0 0 [] [] (ze.op x0) (ze.v x0).1 (ze.v x0).2.1 (ze.v x0).2.2 (List.take (toNat 20 - toNat 0) (List.drop (toNat 0) (ze.s x0))) (ze.l x0) 0 (IntKind.i64.wrap (x2 - 1)) [] else if decide ((↑(length (ze.v x0).2.2):Int) > 45)=true then bm g c x1 (ze.op x0) (ze.v x0).1 (ze.v x0).2.1 (ze.v x0).2.2 (ze.s x0) [] 0 0 [] [] (ze.op x0) (ze.v x0).1
 (ze.v x0).2.1 (List.take (toNat 45 - toNat 0) (List.drop (toNat 0) (ze.v x0).2.2)) (ze.s x0) (ze.l x0) 0 (IntKind.i64.wrap (x2 - 1)) [] else bm g c x1 (ze.op x0) (ze.v x0).1 (ze.v x0).2.1 (ze.v x0).2.2 (ze.s x0) [] 0 0 [] [] (ze.op x0) (ze.v x0).1 (ze.v x0).2.1 (ze.v x0).2.2 (ze.s x0) (ze.l x0) 0 (IntKind.i64.wrap (x2 - 1)) []
def D1 (g:Sem Sh.expr→Sem zg→Sem zg→Sem Sh.expr×Sem zg) (c:Sem Sh.expr→Sem zg→Sem zg→Bool) (x0:Sem Sh.expr) (x1:Sem zg) (x2:Sem zg):Bool:=if decide ((↑(length (ze.op x0)):Int) > 8)=true then if (decide (0≤0)&&decide (0≤8)&&decide (8≤(↑(length (ze.op x0)):Int)))=true then if decide ((↑(length (ze.s x0)):Int) > 20)=true then if (decide (0≤0)&&decide (0≤20)&&decide (20≤(↑(length (ze.s x0)):Int)))=true then if decide ((↑(length (ze.v x0).2.2):Int) > 45)=true then if (decide (0≤0)&&decide (0≤45)&&decide (45≤(↑(length (ze.v x0).2.2):Int)))=true then cF g c x1 (ze.op x0) (ze.v x0).1 (ze.v x0).2.1 (ze.v x0).2.2 (ze.s x0) [] 0 0 [] [] (List.take (toNat 8 - toNat 0) (List.drop (toNat 0) (ze.op x0))) (ze.v x0).1 (ze.v x0).2.1 (List.take (toNat 45 - toNat 0) (List.drop (toNat 0) (ze.v x0).2.2)) (List.take (toNat 20 - toNat 0) (List.drop (toNat 0) (ze.s x0))) (ze.l x0) 0 (IntKind.i64.wrap (x2 - 1)) [] else false else cF g c x1 (ze.op x0) (ze.v x0).1 (ze.v x0).2.1 (ze.v x0).2.2 (ze.s x0) [] 0 0 [] [] (List.take (toNat 8 - toNat 0) (List.drop (toNat 0) (ze.op x0))) (ze.v x0).1 (ze.v x0).2.1 (ze.v x0).2.2
 (List.take (toNat 20 - toNat 0) (List.drop (toNat 0) (ze.s x0))) (ze.l x0) 0 (IntKind.i64.wrap (x2 - 1)) [] else false else if decide ((↑(length (ze.v x0).2.2):Int) > 45)=true then if (decide (0≤0)&&decide (0≤45)&&decide (45≤(↑(length (ze.v x0).2.2):Int)))=true then cF g c x1 (ze.op x0) (ze.v x0).1 (ze.v x0).2.1 (ze.v x0).2.2 (ze.s x0) [] 0 0 [] [] (List.take (toNat 8 - toNat 0) (List.drop (toNat 0) (ze.op x0))) (ze.v x0).1 (ze.v x0).2.1 (List.take (toNat 45 - toNat 0) (List.drop (toNat 0) (ze.v x0).2.2)) (ze.s x0) (ze.l x0) 0 (IntKind.i64.wrap (x2 - 1)) [] else false else cF g c x1 (ze.op x0) (ze.v x0).1 (ze.v x0).2.1 (ze.v x0).2.2 (ze.s x0) [] 0 0 [] [] (List.take (toNat 8 - toNat 0) (List.drop (toNat 0) (ze.op x0))) (ze.v x0).1 (ze.v x0).2.1 (ze.v x0).2.2 (ze.s x0) (ze.l x0) 0 (IntKind.i64.wrap (x2 - 1)) [] else false else if decide ((↑(length (ze.s x0)):Int) > 20)=true then if (decide (0≤0)&&decide (0≤20)&&decide (20≤(↑(length (ze.s x0)):Int)))=true then if decide ((↑(length (ze.v x0).2.2):Int) > 45)=true then if (decide (0≤0)&&decide (0≤45)&&decide (45≤(↑(length (ze.v x0).2.2):Int)))=true then cF g c x1 (ze.op x0) (ze.v x0).1 (ze.v x0).2.1 (ze.v x0).2.2 (ze.s x0) [] 0 0 [] [] (ze.op x0) (ze.v x0).1
 (ze.v x0).2.1 (List.take (toNat 45 - toNat 0) (List.drop (toNat 0) (ze.v x0).2.2)) (List.take (toNat 20 - toNat 0) (List.drop (toNat 0) (ze.s x0))) (ze.l x0) 0 (IntKind.i64.wrap (x2 - 1)) [] else false else cF g c x1 (ze.op x0) (ze.v x0).1 (ze.v x0).2.1 (ze.v x0).2.2 (ze.s x0) [] 0 0 [] [] (ze.op x0) (ze.v x0).1 (ze.v x0).2.1 (ze.v x0).2.2 (List.take (toNat 20 - toNat 0) (List.drop (toNat 0) (ze.s x0))) (ze.l x0) 0 (IntKind.i64.wrap (x2 - 1)) [] else false else if decide ((↑(length (ze.v x0).2.2):Int) > 45)=true then if (decide (0≤0)&&decide (0≤45)&&decide (45≤(↑(length (ze.v x0).2.2):Int)))=true then cF g c x1 (ze.op x0) (ze.v x0).1 (ze.v x0).2.1 (ze.v x0).2.2 (ze.s x0) [] 0 0 [] [] (ze.op x0) (ze.v x0).1 (ze.v x0).2.1 (List.take (toNat 45 - toNat 0) (List.drop (toNat 0) (ze.v x0).2.2)) (ze.s x0) (ze.l x0) 0 (IntKind.i64.wrap (x2 - 1)) [] else false else cF g c x1 (ze.op x0) (ze.v x0).1 (ze.v x0).2.1 (ze.v x0).2.2 (ze.s x0) [] 0 0 [] [] (ze.op x0) (ze.v x0).1 (ze.v x0).2.1 (ze.v x0).2.2 (ze.s x0) (ze.l x0) 0 (IntKind.i64.wrap (x2 - 1)) []
def zgX (g:Sem Sh.expr→Sem zg→Sem zg→Sem Sh.expr×Sem zg) (c:Sem Sh.expr→Sem zg→Sem zg→Bool):zD:=zC [Sh.expr,zg,zg] [Sh.expr,zg] (fun x=>D1 g c x.1 x.2.1 x.2.2.1) fun x=>((xU g c x.1 x.2.1 x.2.2.1).1,(xU g c x.1 x.2.1 x.2.2.1).2,())
theorem VG (g:Sem Sh.expr→Sem zg→Sem zg→Sem Sh.expr×Sem zg) (c:Sem Sh.expr→Sem zg→Sem zg→Bool) (hg:FK 53 (zC [Sh.expr,zg,zg] [Sh.expr,zg] (fun x=>c x.1 x.2.1 x.2.2.1) fun x=>((g x.1 x.2.1 x.2.2.1).1,(g x.1 x.2.1 x.2.2.1).2,()))):FK 53 (zgX g c):=by
 refine zN (wa g c) fun x hc C hC=>?_
 unfold D1 at hc
 refine zk (uL hg) (wa g c) (fun id _=>hC id) (zdA g c x.1 x.2.1 x.2.2.1) ?_
 generalize hy:xU g c x.1 x.2.1 x.2.2.1=y
 unfold xU at hy
 try simp only [ze.eta,zo]
 repeat' (first | with_reducible refine eU hy hc (fun _ hy hc=>?_) (fun _ hy hc=>?_) | with_reducible refine aP hy (fun _ hy=>?_) (fun _ hy=>?_) | with_reducible refine bh hc (fun hc=>?_) | with_reducible refine zq ?_)
 all_goals (subst hy; first | (change Reach _ _ _ _ _ _; apply Jw g c hg hC <;> first | assumption | exact hc) | rfl)
mutual
def gq:Nat→Sem Sh.expr→Sem zg→Sem zg→Sem Sh.expr×Sem zg
 | 0=>fun _ _ _=>default
 | n+1=>xU (gq n) (pk n)
def pk:Nat→Sem Sh.expr→Sem zg→Sem zg→Bool
 | 0=>fun _ _ _=>false
 | n+1=>D1 (gq n) (pk n)
end
theorem KU:∀ n,FK 53 (zC [Sh.expr,zg,zg] [Sh.expr,zg] (fun x=>pk n x.1 x.2.1 x.2.2.1) fun x=>((gq n x.1 x.2.1 x.2.2.1).1,(gq n x.1 x.2.1 x.2.2.1).2,()))
 | 0=>cP ⟨Tryz.f53,(wa default default).1,(wa default default).2.1,(wa default default).2.2.1⟩ (fun _=>rfl)
 | n+1=>VG (gq n) (pk n) (KU n)
def F15:zD:=zC [Sh.expr,zg,zg] [Sh.expr,zg] (fun x=>pk 16 x.1 x.2.1 x.2.2.1) fun x=>((gq 16 x.1 x.2.1 x.2.2.1).1,(gq 16 x.1 x.2.1 x.2.2.1).2,())
theorem zbn:FK 53 F15:=KU 16

def eqL (g:ze→ze→Bool):List ze→List ze→Bool
 | x::r,y::s=>if (!g x y)=true then false else eqL g r s
 | _,_=>true
def Q5 (g c:ze→ze→Bool):List ze→List ze→Bool
 | x::r,y::s=>if c x y=true then (if (!g x y)=true then true else Q5 g c r s) else false
 | _,_=>true

noncomputable def JK (g c:ze→ze→Bool):bf:=DI.add 128 (zC [.expr,.expr] [.bool] (fun x=>c x.1 x.2.1) (fun x=>(g x.1 x.2.1,())))
theorem uR {g c:ze→ze→Bool} (hg:FK 128 (zC [.expr,.expr] [.bool] (fun x=>c x.1 x.2.1) (fun x=>(g x.1 x.2.1,())))):zm (JK g c):=mJ.add hg
abbrev zeP:Nat→zX:=fun j=>if j=4 then { slots:=[1,2,15,16,17] } else { }
abbrev I5 (l1:List ze) (l15:List ze) (i16:Int) (i17:Int):St:={ tmps:=(tm 32 [(1,AV.sl Sh.expr l1),(2,AV.clo (Fn.func 128) [] []),(15,AV.sl Sh.expr l15),(16,ai i16),(17,ai i17)]),heap:=[] }
theorem Ry (g c:ze→ze→Bool):zA (JK g c).P 196 Tryz.f196 3:=aJ (by kernel_rfl)
theorem zh5 (g c:ze→ze→Bool) (l:List ze) (m:List ze):rn (JK g c) 0 zeP Tryz.f196 [AV.sl Sh.expr l,AV.sl Sh.expr m,AV.clo (Fn.func 128) [] []] []=Tr.br ((↑l.length:Int) != (↑m.length:Int)) (Tr.ok (zr.ret (AV.kb false) [])) (Tr.ok (zr.head 4 (zx Tryz.f196 4) (I5 m l (↑l.length:Int) 0))):=by kernel_rfl
theorem NZ (g c:ze→ze→Bool) (l1:List ze) (l15:List ze) (i16:Int) (i17:Int):rh (JK g c) 0 zeP Tryz.f196 4 (I5 l1 l15 i16 i17)=Tr.br (decide (i17 < i16)) (Tr.chk (zE i17 l15.length) (Tr.chk (zE i17 l1.length) (Tr.chk (c (zB (l15.getD i17.toNat (zj Sh.expr))) (zB (l1.getD i17.toNat (zj Sh.expr)))) (Tr.br (!g (zB (l15.getD i17.toNat (zj Sh.expr))) (zB (l1.getD i17.toNat (zj Sh.expr)))) (Tr.ok (zr.ret (AV.kb false) [])) (Tr.ok (zr.head 4 (zx Tryz.f196 4) (I5 l1 l15 i16 (IntKind.i64.wrap (i17+1))))))))) (Tr.ok (zr.ret (AV.kb true) [])):=by kernel_rfl

theorem zg7 {g c:ze→ze→Bool} (hg:FK 128 (zC [.expr,.expr] [.bool] (fun x=>c x.1 x.2.1) (fun x=>(g x.1 x.2.1,())))) {C:cq} (hC:∀ id,0≤id→C.ρ0 id=none) (l m:List ze) (hlm:l.length=m.length) (hl:l.length≤zF):
  ∀ (k i:Nat),l.length - i=k→i≤l.length→Q5 g c (l.drop i) (m.drop i)=true→Reach (JK g c) C 196 (zx Tryz.f196 4) (I5 m l l.length i) (fun r h=>(r,h)=(.kb (eqL g (l.drop i) (m.drop i)),[])):=by
 intro k
 induction k with
 | zero=>
  intro i hk hi hc
  obtain rfl:i=l.length:=by omega
  refine zk (uR hg) (Ry g c) hC (NZ g c _ _ _ _) ?_
  simp only [z8,Tr.val_brF,dg]
  rfl
 | succ k IH=>
  intro i hk hi hc
  have hlt:i < l.length:=by omega
  have hlt':i < m.length:=by omega
  refine zk (uR hg) (Ry g c) hC (NZ g c _ _ _ _) ?_
  rw [dA hlt,dA hlt'] at hc ⊢
  rw [Q5] at hc
  have hc1:=mU hc
  simp only [zW hlt,zG hlt,zG hlt',zY l _ hlt,zY m _ hlt',ze.eta,Tr.val_brT,Tr.val_chkT,hc1.1,zH i (by omega)]
  refine jU (fun h=>?_) (fun h=>?_)
  ·rw [eqL,if_pos h]; rfl
  ·rw [eqL,if_neg (kk h)]
   have h2:=hc1.2
   rw [if_neg (kk h)] at h2
   exact IH (i+1) (by omega) (by omega) h2

def Q6 (g:ze→ze→Bool) (l m:List ze):Bool:=if ((↑l.length:Int) != (↑m.length:Int))=true then false else eqL g l m
def Ac (g c:ze→ze→Bool) (l m:List ze):Bool:=if ((↑l.length:Int) != (↑m.length:Int))=true then true else Q5 g c l m
def G50 (g c:ze→ze→Bool):cy [some (.sl .expr),some (.sl .expr),none]:=fun x h=>match x,h with
 | (l,m,.clo (.func 128) [] [],_),[]=>.chk (Ac g c l m) (.ok (.bool (Q6 g l m),[]))
 | _,_=>.err
def F50 (g c:ze→ze→Bool):zD:=zR [some (.sl .expr),some (.sl .expr),none] (G50 g c)

theorem Reach.weaken {E:bf} {C:cq} {fn:FuncId} {todo:List Item} {st:St} {Q Q':AV→List AO→Prop} (h:Reach E C fn todo st Q) (hq:∀ r h,Q r h→∃ r',Q' r' h∧∀ w U ρ v,Rv w U ρ r v→Rv w U ρ r' v):Reach E C fn todo st Q':=by
 intro b cs a w U ρ h1 h2 hc hW
 obtain ⟨e,w',fr,⟨v,r,h',U',ρ',he,hq1,hrv,hrest⟩,hcm⟩:=h b cs a w U ρ h1 h2 hc hW
 obtain ⟨r',hq2,hrr⟩:=hq r h' hq1
 exact ⟨e,w',fr,⟨v,r',h',U',ρ',he,hq2,hrr _ _ _ _ hrv,hrest⟩,hcm⟩

theorem zbQ {g c:ze→ze→Bool} (hg:FK 128 (zC [.expr,.expr] [.bool] (fun x=>c x.1 x.2.1) (fun x=>(g x.1 x.2.1,())))):FK 196 (F50 g c):=by
 refine bq (E:=JK g c) (Ry g c) fun x h0 res hx C hC=>?_
 unfold G50 at hx
 split at hx
 ·rename_i l m u
  simp only [Tr.val] at hx
  split at hx
  ·rename_i hc
   simp only [ag] at hx
   subst hx
   refine Reach.len 0 .expr l rfl fun hl=>?_
   refine Reach.weaken (Q:=fun r h=>(r,h)=(.kb (Q6 g l m),[])) ?_ ?_
   ·refine zk (n0:=0) (uR hg) (Ry g c) hC (zh5 g c l m) ?_
    unfold Ac at hc
    unfold Q6
    refine jU (fun h=>?_) (fun h=>?_)
    ·rw [if_pos h]; rfl
    ·rw [if_neg (kk h)] at hc ⊢
     have:(l.length:Int)=m.length:=by simpa using h
     have:l.length=m.length:=by omega
     exact zg7 hg hC l m this hl _ 0 rfl (aD _) hc
   ·rintro r h hq
    cases hq
    refine ⟨_,rfl,fun w U ρ v hv=>?_⟩
    cases hv
    exact .bool _
  ·simp at hx
 ·simp at hx

noncomputable def Q1 (g c:ze→ze→Bool):bf:=DI.add 196 (F50 g c)
theorem LJ {g c:ze→ze→Bool} (hg:FK 128 (zC [.expr,.expr] [.bool] (fun x=>c x.1 x.2.1) (fun x=>(g x.1 x.2.1,())))):zm (Q1 g c):=mJ.add (zbQ hg)
def eqV (a b:V):Bool:=a.1==b.1&&(a.2.1==b.2.1&&(a.2.2==b.2.2&&true))
def OR (g:ze→ze→Bool) (a b:ze):Bool:=bif a.op==b.op then bif eqV a.v b.v then bif a.s==b.s then Q6 g a.l b.l else false else false else false
def CB (g c:ze→ze→Bool) (a b:ze):Bool:=bif a.op==b.op then bif eqV a.v b.v then bif a.s==b.s then Ac g c a.l b.l else true else true else true
theorem NO (g c:ze→ze→Bool):zA (Q1 g c).P 128 Tryz.f128 2:=aJ (by kernel_rfl)
theorem zhM (g c:ze→ze→Bool) (l:ze) (m:ze):rn (Q1 g c) 0 (fun _=>{}) Tryz.f128 [zz Sh.expr l,zz Sh.expr m] []=Tr.chk (CB g c l m) (Tr.ok (zr.ret (AV.bool (OR g l m)) [])):=by kernel_rfl
theorem VW {g c:ze→ze→Bool} (hg:FK 128 (zC [.expr,.expr] [.bool] (fun x=>c x.1 x.2.1) (fun x=>(g x.1 x.2.1,())))):FK 128 (zC [.expr,.expr] [.bool] (fun x=>CB g c x.1 x.2.1) (fun x=>(OR g x.1 x.2.1,()))):=by
 refine zN (E:=Q1 g c) (NO g c) fun x hx C hC=>?_
 refine zk (n0:=0) (LJ hg) (NO g c) (fun id _=>hC id) (zhM g c x.1 x.2.1) ?_
 exact cO hx rfl
mutual
def sr:Nat→ze→ze→Bool
 | 0=>fun _ _=>false
 | n+1=>OR (sr n)
def kY:Nat→ze→ze→Bool
 | 0=>fun _ _=>false
 | n+1=>CB (sr n) (kY n)
end
theorem KW:∀ n,FK 128 (zC [.expr,.expr] [.bool] (fun x=>kY n x.1 x.2.1) (fun x=>(sr n x.1 x.2.1,())))
 | 0=>cP ⟨Tryz.f128,(NO (fun _ _=>false) (fun _ _=>false)).1,(NO (fun _ _=>false) (fun _ _=>false)).2.1,(NO (fun _ _=>false) (fun _ _=>false)).2.2.1⟩ (fun _=>rfl)
 | n+1=>VW (KW n)
def F29:zD:=zC [.expr,.expr] [.bool] (fun x=>kY 16 x.1 x.2.1) (fun x=>(sr 16 x.1 x.2.1,()))
theorem zbx:FK 128 F29:=KW 16

noncomputable def HD:=DI.addL [(53,F15),(128,F29)]
theorem yG:zm HD:=mJ.addL <| fc zbn <| fc zbx gW
end Cad
