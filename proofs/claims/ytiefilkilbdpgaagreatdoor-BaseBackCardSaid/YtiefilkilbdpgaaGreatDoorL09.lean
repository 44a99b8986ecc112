/- The library's functions. Functions from plain data to plain data, where a guard holds; recursion. Values: what may be. Values: what they say. Loops; values in order. Values: order, equal, sums. Values: less; bounded ones. Bounded rows, bounded columns. What is total; lists of types. Names, places. Names, types. Expressions: their types. Expressions: bounded ones; the same ones. -/
import Derived.Test.YtiefilkilbdpgaaGreatDoorL07
import Derived.Test.YtiefilkilbdpgaaGreatDoorL08
import Derived.Test.YtiefilkilbdpgaaGreatDoorL06
namespace Cad
open Go Go.Proofs Go.RowKit Go.Lib
open Int (toNat)
open List (length)

theorem jI.below {w w':World} (h:Below w.heap.size w w'):jI w w':=
 ⟨h.size,h.os,h.output,h.tape,fun a ha=>Dj (h.block a.block ha)⟩

theorem fw {E:bq} {C:cr} {w w':World} {U:Nat→Prop} {r:AV} {v:Value} {h0:List AO} {ρ:Nat→Option Value} (hH:gI C w U ρ (fun j=>h0.getD j .dead)) (hnew:∀ id,h0.length≤id→ρ id=none)
  (hr0:∀ id v,C.ρ0 id=some v→ρ id=some v) (hW:Wd E.gl C w U) (hb:Below w.heap.size w w') (hr:Rv w' U ρ r v):K0 E C (fun r' h=>(r',h)=(r,h0)) (.returned v) w':=by
 have hk:∀ b,b < w.heap.size→w'.heap[b]?=w.heap[b]?:=hb.block
 refine ⟨v,r,h0,U,ρ,rfl,rfl,hr,⟨fun id=>?_,hH.inj,hH.blk⟩,hnew,hr0,⟨hW.ext.trans (jI.below hb),fun b hb' hn=>?_,fun b hu=>ls (hW.ub b hu) hb.size,hW.u1,hW.u2,fun g=>?_⟩⟩
 ·exact (hH.ob id).mono hb.size (fun b hb' _=>hk b hb') (fun _ _ h=>h) (fun _ _ h=>h) (fun b ho=>⟨hk b ((hH.ob id).inU ho).2,((hH.ob id).inU ho).1⟩)
 ·rw [hk b (ls hb' hW.ext.sz)]; exact hW.same b hb' hn
 ·exact (hW.gl g).mono hb.size (fun b hb' _=>hk b hb') (fun _ _ h=>h) (fun _ _ h=>h)

noncomputable def WS:bq:=JN.aut 172 Tryz.f172 1
theorem zeR:zA JN.P 172 Tryz.f172 1:=aL (by kernel_rfl)
theorem LN:zm WS:=iq DR zeR

def Ni (c:Int):Bool:=bif decide (c < 32) then true else decide (c > 126)

theorem zhe (c:Int):((zS (List.replicate 1 none) (bU JN Tryz.f172 (List.replicate 1 none))) [.int .i32 c] (fun _=>.dead) 0).val=some { val:=.bool (Ni c) }:=by kernel_rfl

theorem YK (w:World) (U:Nat→Prop) (hgl:xQ JN.gl w U) (hub:∀ b,U b→b < w.heap.size):PredGrows Tryz.prog 172 #[] (fun r=>Ni r) w:=by
 intro W x hx hB
 have hF:FK 172 (zS (List.replicate 1 none) (bU JN Tryz.f172 (List.replicate 1 none))):=ap _ DR zeR
 have hr:cu W U (fun _=>none) [.int .i32 (x:Int)] [.int .i32 (x:Int)]:=by
  refine ⟨rfl,fun j c v hc hv=>?_⟩
  cases j with
  | zero=>
   simp at hc hv; subst hc; subst hv
   refine .int _ _ ⟨?_,?_⟩
   ·show (-2147483648:Int)≤x; omega
   ·show (x:Int)≤2147483647; omega
  | succ j=>simp at hc
 have:=(hF.calls W U (fun _=>none) (fun _=>.dead) 0 [.int .i32 (x:Int)] [.int .i32 (x:Int)] _ [] (zhe x) hr (fun b hb=>ls (hub b hb) hB.size) (fun g=>(hgl g).mono hB.size (fun b hb _=>hB.block b hb) (fun _ _ h=>h) (fun _ _ h=>h)) ⟨by simp,by simp⟩ (by simp [AV.idsL,AV.ids]) (by simp) (by simp)).1
 refine this.mono ?_
 rintro e w' ⟨v,U',ρ',rfl,hef⟩
 have hv:=hef.val
 cases hv
 exact ⟨rfl,⟨hef.ext.os,hef.ext.tape,hef.ext.out,hef.ext.sz,fun b hb=>hef.same b hb (by simp)⟩⟩

def AC (s:zl):Int:=Lib.idxFunc (fun r=>Ni r) true ⟨s.toArray⟩

def G36:cz [some .str,none]:=fun x h=>match x,h with
 | (s,.clo (.func 172) [] [],_),[]=>.ok (.int .i64 (AC s),[])
 | _,_=>.err

theorem zgT:Go.Proofs.Enters Tryz.prog 172:=by
  cases hb:Tryz.f172.body with
  | none => have:Tryz.f172.body.isNone=false:=by kernel_rfl
            rw [hb] at this; cases this
  | some c=>exact Go.Proofs.enters_of (fn:=Tryz.f172) (by kernel_rfl) (by kernel_rfl) hb

theorem za6:FK 173 (zS [some .str,none] G36):=by
 refine fA (E:=WS) ⟨Tryz.f173,by kernel_rfl,by kernel_rfl,by kernel_rfl⟩ fun x h0 res hx=>?_
 unfold G36 at hx
 split at hx
 ·rename_i s u
  simp only [Tr.val_ok,aq] at hx
  subst hx
  intro C w U ρ vals _ hr hH hnew hr0 hW
  have hl:=hr.len
  match vals,hl,hr with
  | [v1,v2],_,hr=>
   have h1:=hr.rv 0 (.str s) v1 rfl rfl
   have h2:=hr.rv 1 (.clo (.func 172) [] []) v2 rfl rfl
   cases h1 with
   | str _ hs=>
   cases h2 with
   | clo _ _ _ vf vc hf hc _ _=>
   have hf':vf=[]:=Di hf.symm
   have hc':vc=[]:=Di hc.symm
   subst hf'; subst hc'
   have:=Tryz.strings_IndexFunc_grows 172 #[] zgT (fun r=>Ni r) ⟨s.toArray⟩ w (YK w U hW.gl hW.ub)
   refine this.mono ?_
   rintro e w' ⟨rfl,hb⟩
   refine fw hH hnew hr0 hW hb (.int _ _ ?_)
   have hrg:=Lib.idxFunc_range (fun r=>Ni r) true ⟨s.toArray⟩
   have hsz:(⟨s.toArray⟩:ByteArray).size=s.length:=by simp [ByteArray.size]
   have hm:zE=9223372036854775807:=rfl
   rw [hsz] at hrg
   change AC s=-1∨(0≤AC s∧AC s < s.length) at hrg
   refine ⟨?_,?_⟩
   ·show (-9223372036854775808:Int)≤_; omega
   ·show _≤(9223372036854775807:Int); omega
 ·simp at hx

noncomputable def py:bq:=WS.add 173 (zS [some .str,none] G36)
theorem iO:zm py:=LN.add za6
open Go

def gG (ks outs:List Sh) (c:zx (ks.map some)→Bool) (g:zx (ks.map some)→zx (outs.map some)):cz (ks.map some):=fun x h=>match h with
 | []=>.chk (c x) (.ok (sE outs (g x),[]))
 | _=>.err

def zC (ks outs:List Sh) (c:zx (ks.map some)→Bool) (g:zx (ks.map some)→zx (outs.map some)):zD:=zS (ks.map some) (gG ks outs c g)

theorem zM {P:Program} {gl:Nat→AV} {E:bq} {k:FuncId} {f:Func} {ks outs:List Sh} {c:zx (ks.map some)→Bool} {g:zx (ks.map some)→zx (outs.map some)} (hf:zA E.P k f ks.length)
  (h:∀ x,c x=true→∀ C:cr,(∀ id,C.ρ0 id=none)→Reach E C k (aA f) (af f.ntmps (gm (ks.map some) x) []) (fun r h=>ae h outs r=some (g x))) (qp:E.P=P:=by rfl) (qg:E.gl=gl:=by rfl):lL P gl k (zC ks outs c g):=by
 subst qp qg
 refine bt (by simpa using hf) fun x h0 res hx C hC=>?_
 unfold gG at hx
 split at hx
 ·simp only [Tr.val] at hx
  split at hx
  ·rename_i hc
   simp only [aq] at hx
   subst hx
   exact Reach.plain (fun id=>hC id (by simp)) (h x hc C (fun id=>hC id (by simp)))
  ·simp at hx
 ·simp at hx

theorem A8 {P:Program} {gl:Nat→AV} {k:FuncId} {kinds:List (Option Sh)} {ι:Type} [Nonempty ι] {G:cz kinds} {Gs:ι→cz kinds} (h:∀ i,lL P gl k (zS kinds (Gs i)))
  (hg:∀ x h0 res,(G x h0).val=some res→∃ i,(Gs i x h0).val=some res):lL P gl k (zS kinds G):=by
 refine ⟨(h (Classical.choice inferInstance)).fn,?_⟩
 intro w U ρ hp n args vals f fp hv
 have:∃ i,(zS kinds (Gs i) args hp n).val=some f:=by
  unfold zS at hv ⊢
  split at hv
  ·rename_i ps hps
   simp only at hv ⊢
   split at hv
   ·rename_i hcond
    split at hv
    ·rename_i xs hxs
     simp only [Tr.val_bind,eS] at hv
     obtain ⟨res,h1,h2⟩:=hv
     obtain ⟨i,hi⟩:=hg _ _ _ h1
     exact ⟨i,by simp only [hcond,if_true,Tr.val_bind,eS]; exact ⟨res,hi,h2⟩⟩
    ·simp at hv
   ·simp at hv
  ·simp at hv
 obtain ⟨i,hi⟩:=this
 exact (h i).calls w U ρ hp n args vals f fp hi

def Iv (ks outs:List Sh) (g:zx (ks.map some)→zx (outs.map some)):cz (ks.map some):=fun x h=>match h with
 | []=>.ok (sE outs (g x),[])
 | _=>.err

def ao (ks outs:List Sh) (g:zx (ks.map some)→zx (outs.map some)):zD:=zS (ks.map some) (Iv ks outs g)

theorem S6 {P:Program} {gl:Nat→AV} {k:FuncId} {ks outs:List Sh} {g:zx (ks.map some)→zx (outs.map some)} (h:lL P gl k (zC ks outs (fun _=>true) g)):lL P gl k (ao ks outs g):=by
 refine A8 (ι:=Unit) (Gs:=fun _=>gG ks outs (fun _=>true) g) (fun _=>h) fun x h0 res hv=>⟨(),?_⟩
 unfold Iv at hv
 unfold gG
 split at hv
 ·simpa [Tr.val] using hv
 ·simp at hv

theorem zP {P:Program} {gl:Nat→AV} {E:bq} {k:FuncId} {f:Func} {ks outs:List Sh} {g:zx (ks.map some)→zx (outs.map some)} (hf:zA E.P k f ks.length)
  (h:∀ x,∀ C:cr,(∀ id,C.ρ0 id=none)→Reach E C k (aA f) (af f.ntmps (gm (ks.map some) x) []) (fun r h=>ae h outs r=some (g x))) (qp:E.P=P:=by rfl) (qg:E.gl=gl:=by rfl):lL P gl k (ao ks outs g):=by
 subst qp qg
 exact S6 (zM hf fun x _ C hC=>h x C hC)

def H2 (outs:List Sh):zt→Option (zx (outs.map some))
 | .ret v h=>ae h outs v
 | _=>none

theorem Tr.sat_of_res {E:bq} {C:cr} {fn:FuncId} {outs:List Sh} {y:zx (outs.map some)} {t:Tr zt} (h:t.val.bind (H2 outs)=some y):t.Sat (g7 E C fn (fun r h=>ae h outs r=some y)):=by
 rw [eS] at h
 obtain ⟨l,h1,h2⟩:=h
 refine Tr.sat_of_val h1 ?_
 cases l with
 | ret v h=>exact h2
 | head _ _ _=>cases h2
 | fork _ _ _ _=>cases h2

theorem aB {E:bq} {C:cr} {k:FuncId} {f:Func} {outs:List Sh} {y:zx (outs.map some)} {n n0:Nat} (hE:zm E) (hf:zA E.P k f n) (hC:∀ id,n0≤id→C.ρ0 id=none) {keep:Nat→zY} {fuel:Nat}
  {todo:List Item} {st:St} {t:Tr zt} (ht:run E n0 keep f.results.toList fuel todo st=t) (h:t.val.bind (H2 outs)=some y):Reach E C k todo st (fun r h=>ae h outs r=some y):=by
 refine cB hE hf hC keep fuel ?_
 rw [ht]
 exact Tr.sat_of_res h

theorem ze.eta:∀ e:ze,ze.mk e.op e.v e.s e.l=e
 | .mk _ _ _ _=>rfl

structure Dd (E E0:bq):Prop where
 p:E.P=E0.P
 g:E.gl=E0.gl

theorem Dd.refl (E:bq):Dd E E:=⟨rfl,rfl⟩
theorem Dd.add {E E0:bq} (h:Dd E E0) (k:FuncId) (F:zD):Dd (E.add k F) E0:=⟨h.p,h.g⟩
abbrev zB (e:ze):ze:=.mk e.op e.v e.s e.l
theorem zn (e:ze):zB e=e:=ze.eta e
open Go Go.Proofs
abbrev TS:=Sem Sh.str
abbrev LX:=List (Sem Sh.expr)
abbrev LC:=List (Sem zi)
abbrev LS:=List (Sem Sh.str)
abbrev LV:=List (Sem zf)
abbrev LI:=List (Sem zg)
abbrev LF:=List (Sem zq)

abbrev V:=Sem zf

def dS (x0:Sem zf):Sem Sh.bool:=if (x0.1==0)=true then if (x0.2.1 != 0)=true then false else x0.2.2==[] else if (x0.1==1)=true then x0.2.2==[] else if (x0.1==2)=true then bif x0.2.1==0 then bif decide ((↑(length x0.2.2):Int)≤40) then decide (AC x0.2.2 < 0) else false else false else if (x0.1==3)=true then bif x0.2.1==0 then x0.2.2==[] else bif x0.2.1==1 then x0.2.2==[] else false else false
theorem zeK:zA py.P 94 Tryz.f94 1:=aL (by kernel_rfl)
theorem zg4 (x0:Sem zf):rn py 0 (fun _=>{ }) Tryz.f94 [zz zf x0] []=Tr.br (x0.1==0) (Tr.br (x0.2.1 != 0) (Tr.ok (zt.ret (AV.kb false) [])) (Tr.ok (zt.ret (AV.bool (x0.2.2==[])) []))) (Tr.br (x0.1==1) (Tr.ok (zt.ret (AV.bool (x0.2.2==[])) [])) (Tr.br (x0.1==2) (Tr.ok (zt.ret (AV.bool (bif x0.2.1==0 then bif decide ((↑(length x0.2.2):Int)≤40) then decide (AC x0.2.2 < 0) else false else false)) [])) (Tr.br (x0.1==3) (Tr.ok (zt.ret (AV.bool (bif x0.2.1==0 then x0.2.2==[] else bif x0.2.1==1 then x0.2.2==[] else false)) [])) (Tr.ok (zt.ret (AV.kb false) []))))):=by kernel_rfl
def F21:zD:=ao [zf] [Sh.bool] fun x=>(dS x.1,())
theorem zaW:FK 94 F21:=by
 refine zP zeK fun x C hC=>?_
 refine aB iO zeK (fun id _=>hC id) (zg4 x.1) ?_
 simp only [Tr.val,dS]
 repeat' split
 all_goals rfl

def aH (x0:Sem zg):Sem zf:=if (x0==0)=true then (0,0,[]) else (3,IntKind.i64.wrap (x0 - 1),[])
theorem zfb:zA py.P 206 Tryz.f206 1:=aL (by kernel_rfl)
theorem zhx (x0:Sem zg):rn py 0 (fun _=>{ }) Tryz.f206 [zz zg x0] []=Tr.br (x0==0) (Tr.ok (zt.ret (AV.agg [ai 0,ai 0,AV.str []]) [])) (Tr.ok (zt.ret (AV.agg [ai 3,ai (IntKind.i64.wrap (x0 - 1)),AV.str []]) [])):=by kernel_rfl
def F57:zD:=ao [zg] [zf] fun x=>(aH x.1,())
theorem zbs:FK 206 F57:=by
 refine zP zfb fun x C hC=>?_
 refine aB iO zfb (fun id _=>hC id) (zhx x.1) ?_
 simp only [Tr.val,aH]
 repeat' split
 all_goals rfl

noncomputable def Zd:zD:=zS (List.replicate 1 none) (bU py Tryz.f174 (List.replicate 1 none))
theorem UC:FK 174 Zd:=ap _ iO (aL (by kernel_rfl))

noncomputable def Ze:zD:=zS (List.replicate 1 none) (bU py Tryz.f175 (List.replicate 1 none))
theorem UD:FK 175 Ze:=ap _ iO (aL (by kernel_rfl))

noncomputable def Zf:zD:=zS (List.replicate 1 none) (bU py Tryz.f176 (List.replicate 1 none))
theorem UE:FK 176 Zf:=ap _ iO (aL (by kernel_rfl))

noncomputable def ju:=py.addL [(94,F21),(206,F57),(174,Zd),(175,Ze),(176,Zf)]
theorem gn:zm ju:=iO.addL <| fc zaW <| fc zbs <| fc UC <| fc UD <| fc UE gZ

def bn (x0:Sem zf):Sem zf:=if (!dS x0)=true then (0,0,[]) else x0
theorem zff:zA ju.P 95 Tryz.f95 1:=aL (by kernel_rfl)
theorem zhB (x0:Sem zf):rn ju 0 (fun _=>{ }) Tryz.f95 [zz zf x0] []=Tr.br (!dS x0) (Tr.ok (zt.ret (AV.agg [ai 0,ai 0,AV.str []]) [])) (Tr.ok (zt.ret (AV.agg [ai x0.1,ai x0.2.1,AV.str x0.2.2]) [])):=by kernel_rfl
def F61:zD:=ao [zf] [zf] fun x=>(bn x.1,())
theorem zby:FK 95 F61:=by
 refine zP zff fun x C hC=>?_
 refine aB gn zff (fun id _=>hC id) (zhB x.1) ?_
 simp only [Tr.val,bn]
 repeat' split
 all_goals rfl

def ee (x0:Sem zf):Sem zg:=if (bif x0.1 != 3 then true else !dS x0)=true then 0 else IntKind.i64.wrap (1+x0.2.1)
theorem zfa:zA ju.P 205 Tryz.f205 1:=aL (by kernel_rfl)
theorem zhw (x0:Sem zf):rn ju 0 (fun _=>{ }) Tryz.f205 [zz zf x0] []=Tr.br (bif x0.1 != 3 then true else !dS x0) (Tr.ok (zt.ret (ai 0) [])) (Tr.ok (zt.ret (ai (IntKind.i64.wrap (1+x0.2.1))) [])):=by kernel_rfl
def F56:zD:=ao [zf] [zg] fun x=>(ee x.1,())
theorem zbr:FK 205 F56:=by
 refine zP zfa fun x C hC=>?_
 refine aB gn zfa (fun id _=>hC id) (zhw x.1) ?_
 simp only [Tr.val,ee]
 repeat' split
 all_goals rfl

def cq (x0:Sem Sh.bool):Sem zf:=if x0=true then aH 2 else aH 1
theorem zfd:zA ju.P 208 Tryz.f208 1:=aL (by kernel_rfl)
theorem zhz (x0:Sem Sh.bool):rn ju 0 (fun _=>{ }) Tryz.f208 [zz Sh.bool x0] []=Tr.br x0 (Tr.ok (zt.ret (AV.agg [ai (aH 2).1,ai (aH 2).2.1,AV.str (aH 2).2.2]) [])) (Tr.ok (zt.ret (AV.agg [ai (aH 1).1,ai (aH 1).2.1,AV.str (aH 1).2.2]) [])):=by kernel_rfl
def F59:zD:=ao [Sh.bool] [zf] fun x=>(cq x.1,())
theorem zbu:FK 208 F59:=by
 refine zP zfd fun x C hC=>?_
 refine aB gn zfd (fun id _=>hC id) (zhz x.1) ?_
 simp only [Tr.val,cq]
 repeat' split
 all_goals rfl

def Jv (x0:Sem zg) (x1:Sem zg):Sem zg:=if (x0 != x0)=true then if (x1 != x1)=true then 0 else -1 else if (x1 != x1)=true then 1 else if decide (x0 < x1)=true then -1 else if decide (x0 > x1)=true then 1 else 0
theorem zfh:zA ju.P 97 Tryz.f97 2:=aL (by kernel_rfl)
theorem zhF (x0:Sem zg) (x1:Sem zg):rn ju 0 (fun _=>{ }) Tryz.f97 [zz zg x0,zz zg x1] []=Tr.br (x0 != x0) (Tr.br (x1 != x1) (Tr.ok (zt.ret (ai 0) [])) (Tr.ok (zt.ret (ai (-1)) []))) (Tr.br (x1 != x1) (Tr.ok (zt.ret (ai 1) [])) (Tr.br (decide (x0 < x1)) (Tr.ok (zt.ret (ai (-1)) [])) (Tr.br (decide (x0 > x1)) (Tr.ok (zt.ret (ai 1) [])) (Tr.ok (zt.ret (ai 0) []))))):=by kernel_rfl
def F71:zD:=ao [zg,zg] [zg] fun x=>(Jv x.1 x.2.1,())
theorem zbG:FK 97 F71:=by
 refine zP zfh fun x C hC=>?_
 refine aB gn zfh (fun id _=>hC id) (zhF x.1 x.2.1) ?_
 simp only [Tr.val,Jv]
 repeat' split
 all_goals rfl

def yI (x0:Sem zg) (x1:Sem zg):Sem zg:=if (x0 != x0)=true then if (x1 != x1)=true then 0 else -1 else if (x1 != x1)=true then 1 else if decide (x0 < x1)=true then -1 else if decide (x0 > x1)=true then 1 else 0
theorem zfi:zA ju.P 98 Tryz.f98 2:=aL (by kernel_rfl)
theorem zhG (x0:Sem zg) (x1:Sem zg):rn ju 0 (fun _=>{ }) Tryz.f98 [zz zg x0,zz zg x1] []=Tr.br (x0 != x0) (Tr.br (x1 != x1) (Tr.ok (zt.ret (ai 0) [])) (Tr.ok (zt.ret (ai (-1)) []))) (Tr.br (x1 != x1) (Tr.ok (zt.ret (ai 1) [])) (Tr.br (decide (x0 < x1)) (Tr.ok (zt.ret (ai (-1)) [])) (Tr.br (decide (x0 > x1)) (Tr.ok (zt.ret (ai 1) [])) (Tr.ok (zt.ret (ai 0) []))))):=by kernel_rfl
def F72:zD:=ao [zg,zg] [zg] fun x=>(yI x.1 x.2.1,())
theorem zbH:FK 98 F72:=by
 refine zP zfi fun x C hC=>?_
 refine aB gn zfi (fun id _=>hC id) (zhG x.1 x.2.1) ?_
 simp only [Tr.val,yI]
 repeat' split
 all_goals rfl

def Bo (x0:Sem Sh.str) (x1:Sem Sh.str):Sem zg:=if (!x0==x0)=true then if (!x1==x1)=true then 0 else -1 else if (!x1==x1)=true then 1 else if Op.bytesLess x0 x1=true then -1 else if (!(Op.bytesLess x0 x1||x0==x1))=true then 1 else 0
theorem zfj:zA ju.P 99 Tryz.f99 2:=aL (by kernel_rfl)
theorem zhH (x0:Sem Sh.str) (x1:Sem Sh.str):rn ju 0 (fun _=>{ }) Tryz.f99 [zz Sh.str x0,zz Sh.str x1] []=Tr.br (!x0==x0) (Tr.br (!x1==x1) (Tr.ok (zt.ret (ai 0) [])) (Tr.ok (zt.ret (ai (-1)) []))) (Tr.br (!x1==x1) (Tr.ok (zt.ret (ai 1) [])) (Tr.br (Op.bytesLess x0 x1) (Tr.ok (zt.ret (ai (-1)) [])) (Tr.br (!(Op.bytesLess x0 x1||x0==x1)) (Tr.ok (zt.ret (ai 1) [])) (Tr.ok (zt.ret (ai 0) []))))):=by kernel_rfl
def F73:zD:=ao [Sh.str,Sh.str] [zg] fun x=>(Bo x.1 x.2.1,())
theorem zbI:FK 99 F73:=by
 refine zP zfj fun x C hC=>?_
 refine aB gn zfj (fun id _=>hC id) (zhH x.1 x.2.1) ?_
 simp only [Tr.val,Bo]
 repeat' split
 all_goals rfl

noncomputable def ij:=ju.addL [(95,F61),(205,F56),(208,F59),(97,F71),(98,F72),(99,F73)]
theorem dN:zm ij:=gn.addL <| fc zby <| fc zbr <| fc zbu <| fc zbG <| fc zbH <| fc zbI gZ

theorem xe {E:bq} {C:cr} {k:FuncId} {f:Func} {Q:AV→List AO→Prop} {n n0:Nat} (hE:zm E) (hf:zA E.P k f n) (hC:∀ id,n0≤id→C.ρ0 id=none) {keep:Nat→zY} {fuel:Nat}
  {todo:List Item} {st:St} {t:Tr zt} {l:zt} (ht:run E n0 keep f.results.toList fuel todo st=t) (h:t.val=some l) (hl:g7 E C k Q l):Reach E C k todo st Q:=
 cB hE hf hC keep fuel (by rw [ht]; exact Tr.sat_of_val h hl)

def fe {α:Type} (Φ:α→Prop):Option α→Prop
 | some a=>Φ a
 | none=>False

theorem zk {E:bq} {C:cr} {k:FuncId} {f:Func} {Q:AV→List AO→Prop} {n n0:Nat} (hE:zm E) (hf:zA E.P k f n) (hC:∀ id,n0≤id→C.ρ0 id=none) {keep:Nat→zY} {fuel:Nat}
  {todo:List Item} {st:St} {t:Tr zt} (ht:run E n0 keep f.results.toList fuel todo st=t) (h:fe (g7 E C k Q) t.val):Reach E C k todo st Q:=by
 cases hv:t.val with
 | none=>rw [hv] at h; exact h.elim
 | some l=>rw [hv] at h; exact xe hE hf hC ht hv h

def D6 {α β R:Type} (f:β→Nat→α→β ⊕ R) (fin:β→R):List α→Nat→β→R
 | [],_,b=>fin b
 | x::r,i,b=>match f b i x with
  | .inl b'=>D6 f fin r (i+1) b'
  | .inr y=>y

def P6 {E:bq} {C:cr} {k:FuncId} {K:List Item} {β R:Type} (st:β→Nat→St) (Q:R→AV→List AO→Prop) (b:β) (i:Nat):β ⊕ R→Prop
 | .inl b'=>∀ q,Reach E C k K (st b' (i+1)) q→Reach E C k K (st b i) q
 | .inr y=>Reach E C k K (st b i) (Q y)

theorem xf {E:bq} {C:cr} {k:FuncId} {K:List Item} {α β R:Type} (l:List α) (st:β→Nat→St) (f:β→Nat→α→β ⊕ R) (fin:β→R) (Q:R→AV→List AO→Prop) (I:β→Nat→Prop)
  (hstep:∀ b i (hi:i < l.length),I b i→P6 (E:=E) (C:=C) (k:=k) (K:=K) st Q b i (f b i l[i])∧∀ b',f b i l[i]=.inl b'→I b' (i+1))
  (hend:∀ b,I b l.length→Reach E C k K (st b l.length) (Q (fin b))):∀ (m i:Nat) (b:β),l.length - i=m→i≤l.length→I b i→Reach E C k K (st b i) (Q (D6 f fin (l.drop i) i b))
 | 0,i,b,hm,hi,hI=>by
  have:i=l.length:=by omega
  subst this
  rw [dj]
  exact hend b hI
 | m+1,i,b,hm,hi,hI=>by
  have hlt:i < l.length:=by omega
  rw [dB hlt]
  obtain ⟨h1,h2⟩:=hstep b i hlt hI
  simp only [D6]
  cases hf:f b i l[i] with
  | inl b'=>
   rw [hf] at h1
   exact h1 _ (xf l st f fin Q I hstep hend m (i+1) b' (by omega) (by omega) (h2 b' hf))
  | inr y=>
   rw [hf] at h1
   exact h1

theorem zX {i n:Nat} (h:i < n):decide ((i:Int) < (n:Int))=true:=by simpa using h
theorem ag (n:Nat):decide ((n:Int) < (n:Int))=false:=by simp
theorem zG {i n:Nat} (h:i < n):zF (i:Int) n=true:=by simp [zF,h]

def Uo:List Int→Int
 | []=>0
 | x::r=>if x != 0 then x else Uo r

abbrev zer:Nat→zY:=fun j=>if j=3 then { slots:=[3,6,7,8] } else { }
abbrev I5 (i3:Int) (l6:List (Sem zg)) (i7:Int) (i8:Int):St:={ tmps:=(tm 18 [(3,ai i3),(6,AV.sl (Sh.int IntKind.i64) l6),(7,ai i7),(8,ai i8)]),heap:=[] }
theorem Nx:zA ij.P 96 Tryz.f96 1:=aL (by kernel_rfl)
theorem zhE (k:List (Sem zg)):rn ij 0 zer Tryz.f96 [AV.sl zg k] []=Tr.ok (zt.head 3 (zy Tryz.f96 3) (I5 0 k (↑k.length) 0)):=by kernel_rfl
theorem GA (i3:Int) (l6:List (Sem zg)) (i7:Int) (i8:Int):rh ij 0 zer Tryz.f96 3 (I5 i3 l6 i7 i8)=Tr.br (decide (i8 < i7)) (Tr.chk (zF i8 l6.length) (Tr.br (l6.getD i8.toNat (zj (Sh.int IntKind.i64)) != i3) (Tr.ok (zt.ret (ai (l6.getD i8.toNat (zj (Sh.int IntKind.i64)))) [])) (Tr.ok (zt.head 3 (zy Tryz.f96 3) (I5 i3 l6 i7 (IntKind.i64.wrap (i8+1))))))) (Tr.ok (zt.ret (ai i3) [])):=by kernel_rfl

def f70:Unit→Nat→Int→Unit ⊕ Int:=fun _ _ x=>if x != 0 then .inr x else .inl ()
theorem L9:∀ (l:List Int) (i:Nat),D6 f70 (fun _=>0) l i ()=Uo l
 | [],_=>rfl
 | x::r,i=>by
  simp only [D6,f70,Uo]
  split
  ·rename_i h; split at h <;> simp_all [L9 r (i+1)]
  ·rename_i h; split at h <;> simp_all

def F70:zD:=ao [.sl zg] [zg] fun x=>(Uo x.1,())
theorem zbF:FK 96 F70:=by
 refine zP Nx fun x C hC=>?_
 obtain ⟨l,u⟩:=x
 refine Reach.len 0 zg l rfl fun hl=>?_
 refine xe dN Nx (fun id _=>hC id) (zhE l) rfl ?_
 have:=xf (E:=ij) (C:=C) (k:=96) (K:=zy Tryz.f96 3) l (fun (_:Unit) i=>I5 0 l l.length i) f70 (fun _=>(0:Int)) (fun y r h=>ae h [zg] r=some (y,())) (fun _ _=>True)
  (fun b i hi _=>⟨by
   unfold f70
   split
   ·rename_i h
    refine zk dN Nx (fun id _=>hC id) (GA _ _ _ _) ?_
    simp only [Tr.val,zX hi,zG hi,ac l _ hi,h,if_true]
    rfl
   ·rename_i h
    intro q hq
    refine zk dN Nx (fun id _=>hC id) (GA _ _ _ _) ?_
    simp only [Tr.val,zX hi,zG hi,ac l _ hi,h,if_true,zH i (by omega)]
    exact hq,fun _ _=>trivial⟩)
  (fun b _=>by
   refine zk dN Nx (fun id _=>hC id) (GA _ _ _ _) ?_
   simp only [Tr.val,ag]
   rfl) _ 0 () rfl (by omega) trivial
 rw [L9] at this
 exact this

def gC (x0:Sem zf) (x1:Sem zf):Sem Sh.bool:=bif (bn x0).1 != 0 then (bn x0).1==(bn x1).1 else false
theorem zfc:zA ij.P 207 Tryz.f207 2:=aL (by kernel_rfl)
theorem zhy (x0:Sem zf) (x1:Sem zf):rn ij 0 (fun _=>{ }) Tryz.f207 [zz zf x0,zz zf x1] []=Tr.ok (zt.ret (AV.bool (bif (bn x0).1 != 0 then (bn x0).1==(bn x1).1 else false)) []):=by kernel_rfl
def F58:zD:=ao [zf,zf] [Sh.bool] fun x=>(gC x.1 x.2.1,())
theorem zbt:FK 207 F58:=by
 refine zP zfc fun x C hC=>?_
 refine aB dN zfc (fun id _=>hC id) (zhy x.1 x.2.1) ?_
 simp only [Tr.val,gC]
 repeat' split
 all_goals rfl

def RL (x0:Sem zf) (x1:Sem zf):Sem zf:=if (bif ee x0==1 then true else ee x1==1)=true then aH 1 else if (bif ee x0==2 then ee x1==2 else false)=true then aH 2 else aH 0
theorem zeS:zA ij.P 138 Tryz.f138 2:=aL (by kernel_rfl)
theorem zhg (x0:Sem zf) (x1:Sem zf):rn ij 0 (fun _=>{ }) Tryz.f138 [zz zf x0,zz zf x1] []=Tr.br (bif ee x0==1 then true else ee x1==1) (Tr.ok (zt.ret (AV.agg [ai (aH 1).1,ai (aH 1).2.1,AV.str (aH 1).2.2]) [])) (Tr.br (bif ee x0==2 then ee x1==2 else false) (Tr.ok (zt.ret (AV.agg [ai (aH 2).1,ai (aH 2).2.1,AV.str (aH 2).2.2]) [])) (Tr.ok (zt.ret (AV.agg [ai (aH 0).1,ai (aH 0).2.1,AV.str (aH 0).2.2]) []))):=by kernel_rfl
def F38:zD:=ao [zf,zf] [zf] fun x=>(RL x.1 x.2.1,())
theorem za8:FK 138 F38:=by
 refine zP zeS fun x C hC=>?_
 refine aB dN zeS (fun id _=>hC id) (zhg x.1 x.2.1) ?_
 simp only [Tr.val,RL]
 repeat' split
 all_goals rfl

def vOr (x0:Sem zf) (x1:Sem zf):Sem zf:=if (bif ee x0==2 then true else ee x1==2)=true then aH 2 else if (bif ee x0==1 then ee x1==1 else false)=true then aH 1 else aH 0
theorem zeT:zA ij.P 139 Tryz.f139 2:=aL (by kernel_rfl)
theorem zhh (x0:Sem zf) (x1:Sem zf):rn ij 0 (fun _=>{ }) Tryz.f139 [zz zf x0,zz zf x1] []=Tr.br (bif ee x0==2 then true else ee x1==2) (Tr.ok (zt.ret (AV.agg [ai (aH 2).1,ai (aH 2).2.1,AV.str (aH 2).2.2]) [])) (Tr.br (bif ee x0==1 then ee x1==1 else false) (Tr.ok (zt.ret (AV.agg [ai (aH 1).1,ai (aH 1).2.1,AV.str (aH 1).2.2]) [])) (Tr.ok (zt.ret (AV.agg [ai (aH 0).1,ai (aH 0).2.1,AV.str (aH 0).2.2]) []))):=by kernel_rfl
def F39:zD:=ao [zf,zf] [zf] fun x=>(vOr x.1 x.2.1,())
theorem za9:FK 139 F39:=by
 refine zP zeT fun x C hC=>?_
 refine aB dN zeT (fun id _=>hC id) (zhh x.1 x.2.1) ?_
 simp only [Tr.val,vOr]
 repeat' split
 all_goals rfl

def KA (x0:Sem zf):Sem zf:=if (ee x0==2)=true then aH 1 else if (ee x0==1)=true then aH 2 else aH 0
theorem zeV:zA ij.P 141 Tryz.f141 1:=aL (by kernel_rfl)
theorem zhj (x0:Sem zf):rn ij 0 (fun _=>{ }) Tryz.f141 [zz zf x0] []=Tr.br (ee x0==2) (Tr.ok (zt.ret (AV.agg [ai (aH 1).1,ai (aH 1).2.1,AV.str (aH 1).2.2]) [])) (Tr.br (ee x0==1) (Tr.ok (zt.ret (AV.agg [ai (aH 2).1,ai (aH 2).2.1,AV.str (aH 2).2.2]) [])) (Tr.ok (zt.ret (AV.agg [ai (aH 0).1,ai (aH 0).2.1,AV.str (aH 0).2.2]) []))):=by kernel_rfl
def F41:zD:=ao [zf] [zf] fun x=>(KA x.1,())
theorem zbb:FK 141 F41:=by
 refine zP zeV fun x C hC=>?_
 refine aB dN zeV (fun id _=>hC id) (zhj x.1) ?_
 simp only [Tr.val,KA]
 repeat' split
 all_goals rfl

def nE (x0:Sem zf):Sem zf:=cq ((bn x0).1==0)
theorem ze2:zA ij.P 147 Tryz.f147 1:=aL (by kernel_rfl)
theorem zhp (x0:Sem zf):rn ij 0 (fun _=>{ }) Tryz.f147 [zz zf x0] []=Tr.ok (zt.ret (AV.agg [ai (cq ((bn x0).1==0)).1,ai (cq ((bn x0).1==0)).2.1,AV.str (cq ((bn x0).1==0)).2.2]) []):=by kernel_rfl
def F47:zD:=ao [zf] [zf] fun x=>(nE x.1,())
theorem zbh:FK 147 F47:=by
 refine zP ze2 fun x C hC=>?_
 refine aB dN ze2 (fun id _=>hC id) (zhp x.1) ?_
 simp only [Tr.val,nE]
 repeat' split
 all_goals rfl

noncomputable def jv:=ij.addL [(96,F70),(207,F58),(138,F38),(139,F39),(141,F41),(147,F47)]
theorem gp:zm jv:=dN.addL <| fc zbF <| fc zbt <| fc za8 <| fc za9 <| fc zbb <| fc zbh gZ

def aS (x0:Sem zf) (x1:Sem zf):Sem zg:=Uo [Jv (bn x0).1 (bn x1).1,yI (bn x0).2.1 (bn x1).2.1,Bo (bn x0).2.2 (bn x1).2.2]
theorem zfe:zA jv.P 58 Tryz.f58 2:=aL (by kernel_rfl)
theorem zhA (x0:Sem zf) (x1:Sem zf):rn jv 0 (fun _=>{ }) Tryz.f58 [zz zf x0,zz zf x1] []=Tr.ok (zt.ret (AV.int IntKind.i64 (Uo [Jv (bn x0).1 (bn x1).1,yI (bn x0).2.1 (bn x1).2.1,Bo (bn x0).2.2 (bn x1).2.2])) []):=by kernel_rfl
def F60:zD:=ao [zf,zf] [zg] fun x=>(aS x.1 x.2.1,())
theorem zbx:FK 58 F60:=by
 refine zP zfe fun x C hC=>?_
 refine aB gp zfe (fun id _=>hC id) (zhA x.1 x.2.1) ?_
 simp only [Tr.val,aS]
 repeat' split
 all_goals rfl

def jW (x0:Sem zf) (x1:Sem zf):Sem zf:=if (!gC x0 x1)=true then (0,0,[]) else cq (x0.1==x1.1&&(x0.2.1==x1.2.1&&(x0.2.2==x1.2.2&&true)))
theorem zeW:zA jv.P 142 Tryz.f142 2:=aL (by kernel_rfl)
theorem zhk (x0:Sem zf) (x1:Sem zf):rn jv 0 (fun _=>{ }) Tryz.f142 [zz zf x0,zz zf x1] []=Tr.br (!gC x0 x1) (Tr.ok (zt.ret (AV.agg [ai 0,ai 0,AV.str []]) [])) (Tr.ok (zt.ret (AV.agg [ai (cq (x0.1==x1.1&&(x0.2.1==x1.2.1&&(x0.2.2==x1.2.2&&true)))).1,ai (cq (x0.1==x1.1&&(x0.2.1==x1.2.1&&(x0.2.2==x1.2.2&&true)))).2.1,AV.str (cq (x0.1==x1.1&&(x0.2.1==x1.2.1&&(x0.2.2==x1.2.2&&true)))).2.2]) [])):=by kernel_rfl
def F42:zD:=ao [zf,zf] [zf] fun x=>(jW x.1 x.2.1,())
theorem zbc:FK 142 F42:=by
 refine zP zeW fun x C hC=>?_
 refine aB gp zeW (fun id _=>hC id) (zhk x.1 x.2.1) ?_
 simp only [Tr.val,jW]
 repeat' split
 all_goals rfl

def Jj (x0:Sem zf) (x1:Sem zf):Sem zf:=if (bif !gC x0 x1 then true else x0.1 != 1)=true then (0,0,[]) else if (bif decide (x1.2.1 > 0) then bif decide (IntKind.i64.wrap (x0.2.1+x1.2.1) < x0.2.1) then true else bif decide (x1.2.1 < 0) then decide (IntKind.i64.wrap (x0.2.1+x1.2.1) > x0.2.1) else false else bif decide (x1.2.1 < 0) then decide (IntKind.i64.wrap (x0.2.1+x1.2.1) > x0.2.1) else false)=true then (0,0,[]) else (1,IntKind.i64.wrap (x0.2.1+x1.2.1),[])
theorem zeZ:zA jv.P 144 Tryz.f144 2:=aL (by kernel_rfl)
theorem zhm (x0:Sem zf) (x1:Sem zf):rn jv 0 (fun _=>{ }) Tryz.f144 [zz zf x0,zz zf x1] []=Tr.br (bif !gC x0 x1 then true else x0.1 != 1) (Tr.ok (zt.ret (AV.agg [ai 0,ai 0,AV.str []]) [])) (Tr.br (bif decide (x1.2.1 > 0) then bif decide (IntKind.i64.wrap (x0.2.1+x1.2.1) < x0.2.1) then true else bif decide (x1.2.1 < 0) then decide (IntKind.i64.wrap (x0.2.1+x1.2.1) > x0.2.1) else false else bif decide (x1.2.1 < 0) then decide (IntKind.i64.wrap (x0.2.1+x1.2.1) > x0.2.1) else false) (Tr.ok (zt.ret (AV.agg [ai 0,ai 0,AV.str []]) [])) (Tr.ok (zt.ret (AV.agg [ai 1,ai (IntKind.i64.wrap (x0.2.1+x1.2.1)),AV.str []]) []))):=by kernel_rfl
def F44:zD:=ao [zf,zf] [zf] fun x=>(Jj x.1 x.2.1,())
theorem zbe:FK 144 F44:=by
 refine zP zeZ fun x C hC=>?_
 refine aB gp zeZ (fun id _=>hC id) (zhm x.1 x.2.1) ?_
 simp only [Tr.val,Jj]
 repeat' split
 all_goals rfl

def CY (x0:Sem zf) (x1:Sem zf):Sem zf:=if (bif !gC x0 x1 then true else x0.1 != 1)=true then (0,0,[]) else if (bif decide (x1.2.1 > 0) then bif decide (IntKind.i64.wrap (x0.2.1 - x1.2.1) > x0.2.1) then true else bif decide (x1.2.1 < 0) then decide (IntKind.i64.wrap (x0.2.1 - x1.2.1) < x0.2.1) else false else bif decide (x1.2.1 < 0) then decide (IntKind.i64.wrap (x0.2.1 - x1.2.1) < x0.2.1) else false)=true then (0,0,[]) else (1,IntKind.i64.wrap (x0.2.1 - x1.2.1),[])
theorem ze0:zA jv.P 145 Tryz.f145 2:=aL (by kernel_rfl)
theorem zhn (x0:Sem zf) (x1:Sem zf):rn jv 0 (fun _=>{ }) Tryz.f145 [zz zf x0,zz zf x1] []=Tr.br (bif !gC x0 x1 then true else x0.1 != 1) (Tr.ok (zt.ret (AV.agg [ai 0,ai 0,AV.str []]) [])) (Tr.br (bif decide (x1.2.1 > 0) then bif decide (IntKind.i64.wrap (x0.2.1 - x1.2.1) > x0.2.1) then true else bif decide (x1.2.1 < 0) then decide (IntKind.i64.wrap (x0.2.1 - x1.2.1) < x0.2.1) else false else bif decide (x1.2.1 < 0) then decide (IntKind.i64.wrap (x0.2.1 - x1.2.1) < x0.2.1) else false) (Tr.ok (zt.ret (AV.agg [ai 0,ai 0,AV.str []]) [])) (Tr.ok (zt.ret (AV.agg [ai 1,ai (IntKind.i64.wrap (x0.2.1 - x1.2.1)),AV.str []]) []))):=by kernel_rfl
def F45:zD:=ao [zf,zf] [zf] fun x=>(CY x.1 x.2.1,())
theorem zbf:FK 145 F45:=by
 refine zP ze0 fun x C hC=>?_
 refine aB gp ze0 (fun id _=>hC id) (zhn x.1 x.2.1) ?_
 simp only [Tr.val,CY]
 repeat' split
 all_goals rfl

def Ji (x0:Sem zf) (_:Sem zf):Sem zf:=KA x0
theorem zeU:zA jv.P 140 Tryz.f140 2:=aL (by kernel_rfl)
theorem zhi (x0:Sem zf) (x1:Sem zf):rn jv 0 (fun _=>{ }) Tryz.f140 [zz zf x0,zz zf x1] []=Tr.ok (zt.ret (AV.agg [ai (KA x0).1,ai (KA x0).2.1,AV.str (KA x0).2.2]) []):=by kernel_rfl
def F40:zD:=ao [zf,zf] [zf] fun x=>(Ji x.1 x.2.1,())
theorem zba:FK 140 F40:=by
 refine zP zeU fun x C hC=>?_
 refine aB gp zeU (fun id _=>hC id) (zhi x.1 x.2.1) ?_
 simp only [Tr.val,Ji]
 repeat' split
 all_goals rfl

def CZ (x0:Sem zf) (_:Sem zf):Sem zf:=nE x0
theorem ze1:zA jv.P 146 Tryz.f146 2:=aL (by kernel_rfl)
theorem zho (x0:Sem zf) (x1:Sem zf):rn jv 0 (fun _=>{ }) Tryz.f146 [zz zf x0,zz zf x1] []=Tr.ok (zt.ret (AV.agg [ai (nE x0).1,ai (nE x0).2.1,AV.str (nE x0).2.2]) []):=by kernel_rfl
def F46:zD:=ao [zf,zf] [zf] fun x=>(CZ x.1 x.2.1,())
theorem zbg:FK 146 F46:=by
 refine zP ze1 fun x C hC=>?_
 refine aB gp ze1 (fun id _=>hC id) (zho x.1 x.2.1) ?_
 simp only [Tr.val,CZ]
 repeat' split
 all_goals rfl

noncomputable def nT:=jv.addL [(58,F60),(142,F42),(144,F44),(145,F45),(140,F40),(146,F46)]
theorem iP:zm nT:=gp.addL <| fc zbx <| fc zbc <| fc zbe <| fc zbf <| fc zba <| fc zbg gZ

def Jg (x0:Sem zf) (x1:Sem zf):Sem zf:=if (!gC x0 x1)=true then (0,0,[]) else cq (decide (aS x0 x1 < 0))
theorem zeY:zA nT.P 143 Tryz.f143 2:=aL (by kernel_rfl)
theorem zhl (x0:Sem zf) (x1:Sem zf):rn nT 0 (fun _=>{ }) Tryz.f143 [zz zf x0,zz zf x1] []=Tr.br (!gC x0 x1) (Tr.ok (zt.ret (AV.agg [ai 0,ai 0,AV.str []]) [])) (Tr.ok (zt.ret (AV.agg [ai (cq (decide (aS x0 x1 < 0))).1,ai (cq (decide (aS x0 x1 < 0))).2.1,AV.str (cq (decide (aS x0 x1 < 0))).2.2]) [])):=by kernel_rfl
def F43:zD:=ao [zf,zf] [zf] fun x=>(Jg x.1 x.2.1,())
theorem zbd:FK 143 F43:=by
 refine zP zeY fun x C hC=>?_
 refine aB iP zeY (fun id _=>hC id) (zhl x.1 x.2.1) ?_
 simp only [Tr.val,Jg]
 repeat' split
 all_goals rfl

def sY (x0:Sem zf):Sem zf:=if decide ((↑(length x0.2.2):Int) > 60)=true then (x0.1,x0.2.1,List.take (toNat 60 - toNat 0) (List.drop (toNat 0) x0.2.2)) else x0
def A2 (x0:Sem zf):Bool:=bif decide ((↑(length x0.2.2):Int) > 60) then decide (0≤0)&&decide (0≤60)&&decide (60≤(↑(length x0.2.2):Int)) else true
theorem zeG:zA nT.P 54 Tryz.f54 1:=aL (by kernel_rfl)
theorem zg0 (x0:Sem zf):rn nT 0 (fun _=>{ }) Tryz.f54 [zz zf x0] []=Tr.br (decide ((↑(length x0.2.2):Int) > 60)) (Tr.chk (decide (0≤0)&&decide (0≤60)&&decide (60≤(↑(length x0.2.2):Int))) (Tr.ok (zt.ret (AV.agg [ai x0.1,ai x0.2.1,AV.str (List.take (toNat 60 - toNat 0) (List.drop (toNat 0) x0.2.2))]) []))) (Tr.ok (zt.ret (AV.agg [ai x0.1,ai x0.2.1,AV.str x0.2.2]) [])):=by kernel_rfl
def F14:zD:=zC [zf] [zf] (fun x=>A2 x.1) fun x=>(sY x.1,())
theorem S0:FK 54 F14:=by
 refine zM zeG fun x hx C hC=>?_
 refine aB iP zeG (fun id _=>hC id) (zg0 x.1) ?_
 simp only [A2,Bool.cond_eq_ite] at hx
 simp only [Tr.val,sY]
 repeat' split
 all_goals first | rfl | simp_all

def rL (x0:Sem Sh.str):Sem Sh.str:=if decide ((↑(length x0):Int) > 20)=true then List.take (toNat 20 - toNat 0) (List.drop (toNat 0) x0) else x0
def I6 (x0:Sem Sh.str):Bool:=bif decide ((↑(length x0):Int) > 20) then decide (0≤0)&&decide (0≤20)&&decide (20≤(↑(length x0):Int)) else true
theorem zeF:zA nT.P 117 Tryz.f117 1:=aL (by kernel_rfl)
theorem zgY (x0:Sem Sh.str):rn nT 0 (fun _=>{ }) Tryz.f117 [zz Sh.str x0] []=Tr.br (decide ((↑(length x0):Int) > 20)) (Tr.chk (decide (0≤0)&&decide (0≤20)&&decide (20≤(↑(length x0):Int))) (Tr.ok (zt.ret (AV.str (List.take (toNat 20 - toNat 0) (List.drop (toNat 0) x0))) []))) (Tr.ok (zt.ret (AV.str x0) [])):=by kernel_rfl
def F12:zD:=zC [Sh.str] [Sh.str] (fun x=>I6 x.1) fun x=>(rL x.1,())
theorem SY:FK 117 F12:=by
 refine zM zeF fun x hx C hC=>?_
 refine aB iP zeF (fun id _=>hC id) (zgY x.1) ?_
 simp only [I6,Bool.cond_eq_ite] at hx
 simp only [Tr.val,rL]
 repeat' split
 all_goals first | rfl | simp_all

noncomputable def F79:zD:=zS (List.replicate 2 none) (bU nT Tryz.f251 (List.replicate 2 none))
theorem zbK:FK 251 F79:=ap _ iP (aL (by kernel_rfl))

noncomputable def F18:zD:=zS (List.replicate 2 none) (bU nT Tryz.f93 (List.replicate 2 none))
theorem zaV:FK 93 F18:=ap _ iP (aL (by kernel_rfl))

noncomputable def lz:=nT.addL [(143,F43),(54,F14),(117,F12),(251,F79),(93,F18)]
theorem gq:zm lz:=iP.addL <| fc zbd <| fc S0 <| fc SY <| fc zbK <| fc zaV gZ

theorem Reach.lenB {E:bq} {C:cr} {fn:FuncId} {todo:List Item} {st:St} {Q:AV→List AO→Prop} (id c:Nat) (e:Sh) (l:List (Sem e)) {cs:List AV} (h1:st.heap[id]?=some (.box cs)) (h2:cs[c]?=some (.sl e l)) (h:l.length≤zE→Reach E C fn todo st Q):Reach E C fn todo st Q:=by
 intro b cs' a w U ρ q1 q2 hc hW
 refine h ?_ b cs' a w U ρ q1 q2 hc hW
 have ho:=hc.hp.ob id
 rw [show st.hp id=.box cs by simp [St.hp,h1]] at ho
 obtain ⟨bk,T,vals,_,_,_,hr,_⟩:=ho
 have hlt:c < vals.toList.length:=by rw [← hr.len]; exact (bP.1 h2).1
 have:=hr.rv c _ _ h2 (zI hlt)
 generalize vals.toList[c]=v at this
 cases this with
 | sl0=>simp
 | sl _ _ _ _ _ _ _ hm=>exact hm

abbrev kp6:Nat→zY:=fun j=>if j=3 then { slots:=[0,3,4],prom:=[(3,none,zf)] } else { }
abbrev Ox (l0:List (Sem zf)) (i4:Int) (lh_0:List (Sem zf)):St:={ tmps:=(tm 24 [(0,AV.sl zf l0),(3,AV.vec 0),(4,ai i4)]),heap:=[AO.vec zf lh_0] }
theorem ok6:zA lz.P 28 Tryz.f28 1:=aL (by kernel_rfl)
theorem go6 (x0:Sem zf.sl):rn lz 0 kp6 Tryz.f28 [zz zf.sl x0] []=Tr.ok (zt.head 3 (zy Tryz.f28 3) (Ox x0 0 [])):=by kernel_rfl
theorem Um (l0:List (Sem zf)) (i4:Int) (lh_0:List (Sem zf)):rh lz 0 kp6 Tryz.f28 3 (Ox l0 i4 lh_0)=Tr.br (bif decide (i4 < (↑l0.length:Int)) then decide (i4 < 14) else false) (Tr.chk (zF i4 l0.length) (Tr.chk (A2 (l0.getD i4.toNat (zj zf))) (Tr.chk (decide (lh_0.length+[sY (l0.getD i4.toNat (zj zf))].length≤1073741824)) (Tr.ok (zt.head 3 (zy Tryz.f28 3) (Ox l0 (IntKind.i64.wrap (i4+1)) (lh_0++[sY (l0.getD i4.toNat (zj zf))]))))))) (Tr.ok (zt.ret (AV.vec 0) [AO.vec zf lh_0])):=by kernel_rfl
def gF:List (Sem zf)→Int→List (Sem zf)→Sem zf.sl
 | [],_,lh_0=>lh_0
 | x::r,i4,lh_0=>if decide (i4 < 14)=true then gF r (i4+1) (lh_0++[sY x]) else lh_0
def gS:List (Sem zf)→Int→List (Sem zf)→Bool
 | [],_,_=>true
 | x::r,i4,lh_0=>if decide (i4 < 14)=true then A2 x&&(decide (lh_0.length+[sY x].length≤1073741824)&&gS r (i4+1) (lh_0++[sY x])) else true
theorem zcx {C:cr} (hC:∀ id,C.ρ0 id=none) (l0:List (Sem zf)) (hl:l0.length≤zE):∀ (m i:Nat) (lh_0:List (Sem zf)),l0.length - i=m→i≤l0.length→gS (l0.drop i) i lh_0=true→
  Reach lz C 28 (zy Tryz.f28 3) (Ox l0 (i:Int) lh_0) (fun r h=>ae h [zf.sl] r=some (gF (l0.drop i) i lh_0,())):=by
 intro m
 induction m with
 | zero=>
  intro i lh_0 hm hi hc
  obtain rfl:i=l0.length:=by omega
  rw [dj] at hc ⊢
  refine zk gq ok6 (fun id _=>hC id) (Um _ _ _) ?_
  simp only [gS] at hc
  simp only [Tr.val,ag,bQ,gF]
  repeat' split
  all_goals first | rfl | simp_all
 | succ m IH=>
  intro i lh_0 hm hi hc
  have hlt:i < l0.length:=by omega
  have IH:=IH (i+1)
  have hcast:((i:Int)+1)=((i+1:Nat):Int):=by omega
  have hwr:=zH i (by omega)
  rw [dB hlt] at hc ⊢
  refine zk gq ok6 (fun id _=>hC id) (Um _ _ _) ?_
  simp only [gS] at hc
  simp only [Tr.val,zX hlt,zG hlt,ac l0 _ hlt,hwr,bA,if_true,gF]
  clear hwr
  (try simp only [hcast] at hc ⊢)
  repeat' split
  all_goals first | (change Reach _ _ _ _ _ _; apply IH <;> first | omega | assumption | (clear IH; simp_all)) | rfl | (clear IH; simp_all)
theorem WC {C:cr} (hC:∀ id,C.ρ0 id=none) (l0:List (Sem zf)) (lh_0:List (Sem zf)) (hc:gS l0 0 lh_0=true):
  Reach lz C 28 (zy Tryz.f28 3) (Ox l0 0 lh_0) (fun r h=>ae h [zf.sl] r=some (gF l0 0 lh_0,())):=
 Reach.len 0 (zf) l0 rfl fun hl=>zcx hC l0 hl _ 0 lh_0 rfl (aE _) hc
def jB (x0:Sem zf.sl):Sem zf.sl:=gF x0 0 []
def M9 (x0:Sem zf.sl):Bool:=gS x0 0 []
def F6:zD:=zC [zf.sl] [zf.sl] (fun x=>M9 x.1) fun x=>(jB x.1,())
theorem zbw:FK 28 F6:=by
 refine zM ok6 fun x hx C hC=>?_
 simp only [M9] at hx
 refine zk gq ok6 (fun id _=>hC id) (go6 x.1) ?_
 simp only [Tr.val,jB]
 repeat' split
 all_goals first | (change Reach _ _ _ _ _ _; apply WC hC <;> first | assumption | simp_all) | rfl | simp_all

abbrev zd6:Nat→zY:=fun j=>if j=3 then { slots:=[0,3,4],prom:=[(3,none,zi)] } else { }
abbrev AT (l0:List (Sem zi)) (i4:Int) (lh_0:List (Sem zi)):St:={ tmps:=(tm 33 [(0,AV.sl zi l0),(3,AV.vec 0),(4,ai i4)]),heap:=[AO.vec zi lh_0] }
theorem Q7:zA lz.P 26 Tryz.f26 1:=aL (by kernel_rfl)
theorem zgZ (x0:Sem zi.sl):rn lz 0 zd6 Tryz.f26 [zz zi.sl x0] []=Tr.ok (zt.head 3 (zy Tryz.f26 3) (AT x0 0 [])):=by kernel_rfl
theorem NC (l0:List (Sem zi)) (i4:Int) (lh_0:List (Sem zi)):rh lz 0 zd6 Tryz.f26 3 (AT l0 i4 lh_0)=Tr.br (bif decide (i4 < (↑l0.length:Int)) then decide (i4 < 9) else false) (Tr.chk (zF i4 l0.length) (Tr.br (decide ((↑(length (l0.getD i4.toNat (zj zi)).1):Int) > 20)) (Tr.chk (decide (0≤0)&&decide (0≤20)&&decide (20≤(↑(length (l0.getD i4.toNat (zj zi)).1):Int))) (Tr.chk (decide (lh_0.length+[(List.take (toNat 20 - toNat 0) (List.drop (toNat 0) (l0.getD i4.toNat (zj zi)).1),(l0.getD i4.toNat (zj zi)).2)].length≤1073741824)) (Tr.ok (zt.head 3 (zy Tryz.f26 3) (AT l0 (IntKind.i64.wrap (i4+1)) (lh_0++[(List.take (toNat 20 - toNat 0) (List.drop (toNat 0) (l0.getD i4.toNat (zj zi)).1),(l0.getD i4.toNat (zj zi)).2)])))))) (Tr.chk (decide (lh_0.length+[l0.getD i4.toNat (zj zi)].length≤1073741824)) (Tr.ok (zt.head 3 (zy Tryz.f26 3) (AT l0 (IntKind.i64.wrap (i4+1)) (lh_0++[l0.getD i4.toNat (zj zi)]))))))) (Tr.ok (zt.ret (AV.vec 0) [AO.vec zi lh_0])):=by kernel_rfl
def eL:List (Sem zi)→Int→List (Sem zi)→Sem zi.sl
 | [],_,lh_0=>lh_0
 | x::r,i4,lh_0=>if decide (i4 < 9)=true then
 if decide ((↑(length x.1):Int) > 20)=true then
  eL r (i4+1) (lh_0++[(List.take (toNat 20 - toNat 0) (List.drop (toNat 0) x.1),x.2)])
 else eL r (i4+1) (lh_0++[x])
else lh_0
def fP:List (Sem zi)→Int→List (Sem zi)→Bool
 | [],_,_=>true
 | x::r,i4,lh_0=>if decide (i4 < 9)=true then
 if decide ((↑(length x.1):Int) > 20)=true then
  decide (0≤0)&&decide (0≤20)&&decide (20≤(↑(length x.1):Int))&&
   (decide (lh_0.length+[(List.take (toNat 20 - toNat 0) (List.drop (toNat 0) x.1),x.2)].length≤1073741824)&&
    fP r (i4+1) (lh_0++[(List.take (toNat 20 - toNat 0) (List.drop (toNat 0) x.1),x.2)]))
 else decide (lh_0.length+[x].length≤1073741824)&&fP r (i4+1) (lh_0++[x])
else true
theorem WA {C:cr} (hC:∀ id,C.ρ0 id=none) (l0:List (Sem zi)) (hl:l0.length≤zE):∀ (m i:Nat) (lh_0:List (Sem zi)),l0.length - i=m→i≤l0.length→fP (l0.drop i) i lh_0=true→
  Reach lz C 26 (zy Tryz.f26 3) (AT l0 (i:Int) lh_0) (fun r h=>ae h [zi.sl] r=some (eL (l0.drop i) i lh_0,())):=by
 intro m
 induction m with
 | zero=>
  intro i lh_0 hm hi hc
  obtain rfl:i=l0.length:=by omega
  rw [dj] at hc ⊢
  refine zk gq Q7 (fun id _=>hC id) (NC _ _ _) ?_
  simp only [fP] at hc
  simp only [Tr.val,ag,bQ,eL]
  repeat' split
  all_goals first | rfl | simp_all
 | succ m IH=>
  intro i lh_0 hm hi hc
  have hlt:i < l0.length:=by omega
  have IH:=IH (i+1)
  have hcast:((i:Int)+1)=((i+1:Nat):Int):=by omega
  have hwr:=zH i (by omega)
  rw [dB hlt] at hc ⊢
  refine zk gq Q7 (fun id _=>hC id) (NC _ _ _) ?_
  simp only [fP] at hc
  simp only [Tr.val,zX hlt,zG hlt,ac l0 _ hlt,hwr,bA,if_true,eL]
  clear hwr
  (try simp only [hcast] at hc ⊢)
  repeat' split
  all_goals first | (change Reach _ _ _ _ _ _; apply IH <;> first | omega | assumption | (clear IH; simp_all)) | rfl | (clear IH; simp_all)
theorem Qb {C:cr} (hC:∀ id,C.ρ0 id=none) (l0:List (Sem zi)) (lh_0:List (Sem zi)) (hc:fP l0 0 lh_0=true):
  Reach lz C 26 (zy Tryz.f26 3) (AT l0 0 lh_0) (fun r h=>ae h [zi.sl] r=some (eL l0 0 lh_0,())):=
 Reach.len 0 (zi) l0 rfl fun hl=>WA hC l0 hl _ 0 lh_0 rfl (aE _) hc
def mr (x0:Sem zi.sl):Sem zi.sl:=eL x0 0 []
def M8 (x0:Sem zi.sl):Bool:=fP x0 0 []
def F13:zD:=zC [zi.sl] [zi.sl] (fun x=>M8 x.1) fun x=>(mr x.1,())
theorem SZ:FK 26 F13:=by
 refine zM Q7 fun x hx C hC=>?_
 simp only [M8] at hx
 refine zk gq Q7 (fun id _=>hC id) (zgZ x.1) ?_
 simp only [Tr.val,mr]
 repeat' split
 all_goals first | (change Reach _ _ _ _ _ _; apply Qb hC <;> first | assumption | simp_all) | rfl | simp_all

noncomputable def DL:=lz.addL [(28,F6),(26,F13)]
theorem qR:zm DL:=gq.addL <| fc zbw <| fc SZ gZ

theorem eG {P:Program} {gl:Nat→AV} {k:FuncId} {ks outs:List Sh} {c:zx (ks.map some)→Bool} {g:zx (ks.map some)→zx (outs.map some)} (h:lL P gl k (zC ks outs c g)) (hc:∀ x,c x=true):lL P gl k (ao ks outs g):=
 S6 (by rwa [show c=fun _=>true from funext hc] at h)

theorem xJ (v:V):A2 v=true:=by
 unfold A2
 cases h:decide ((↑(length v.2.2):Int) > 60)
 ·rfl
 ·simp only [zW] at h
  simp only [bA,aG,zW]
  omega
theorem G3 (s:zl):I6 s=true:=by
 unfold I6
 cases h:decide ((↑(length s):Int) > 20)
 ·rfl
 ·simp only [zW] at h
  simp only [bA,aG,zW]
  omega
theorem n6:∀ (l:List (Sem zf)) (i:Int) (a:List (Sem zf)),(a.length:Int)≤i→gS l i a=true
 | [],_,_,_=>rfl
 | x::r,i,a,h=>by
  simp only [gS,xJ]
  split
  ·rename_i hi
   simp only [zW] at hi
   rw [n6 r (i+1) _ (by simp; omega)]
   simp; omega
  ·rfl
theorem jM:∀ (l:List (Sem zi)) (i:Int) (a:List (Sem zi)),(a.length:Int)≤i→fP l i a=true
 | [],_,_,_=>rfl
 | x::r,i,a,h=>by
  simp only [fP]
  split
  ·rename_i hi
   simp only [zW] at hi
   split
   ·rename_i hx
    simp only [zW] at hx
    rw [jM r (i+1) _ (by simp; omega)]
    simp; omega
   ·rw [jM r (i+1) _ (by simp; omega)]
    simp; omega
  ·rfl
def ZP:zD:=ao [zf] [zf] fun x=>(sY x.1,())
theorem Vf:FK 54 ZP:=eG S0 fun x=>xJ x.1
def ZB:zD:=ao [Sh.str] [Sh.str] fun x=>(rL x.1,())
theorem U2:FK 117 ZB:=eG SY fun x=>G3 x.1
def F6t:zD:=ao [zf.sl] [zf.sl] fun x=>(jB x.1,())
theorem zbD:FK 28 F6t:=eG zbw fun x=>n6 x.1 0 [] (by simp)
def ZL:zD:=ao [zi.sl] [zi.sl] fun x=>(mr x.1,())
theorem Vc:FK 26 ZL:=eG SZ fun x=>jM x.1 0 [] (by simp)

abbrev lO:Nat→zY:=fun _=>{ slots:=[0,1,7,8] }
def hZ {K:List Item} {e:Sh} (l:List (Sem e)) (p:Sem e→Bool) (st:Int→St) (h0:List AO) (i:Int):Tr zt:=.br (decide (i < (l.length:Int))) (.chk (zF i l.length) (.br (p (l.getD i.toNat (zj e))) (.ok (.ret (.int .i64 i) h0)) (.ok (.head 2 K (st (IntKind.i64.wrap (i+1))))))) (.ok (.ret (.int .i64 (-1)) h0))

theorem eP {E:bq} {C:cr} {k:FuncId} {f:Func} {n n0:Nat} {keep:Nat→zY} {fuel:Nat} {K:List Item} {e:Sh} (l:List (Sem e)) (p:Sem e→Bool) (st:Int→St) {h0:List AO}
  (hE:zm E) (hf:zA E.P k f n) (hC:∀ id,n0≤id→C.ρ0 id=none)
  (hon:∀ i,run E n0 keep f.results.toList fuel K (st i)=hZ (K:=K) l p st h0 i) (hl:l.length≤zE):∀ (m i:Nat),l.length - i=m→i≤l.length→
  Reach E C k K (st i) (fun r h=>(r,h)=(.int .i64 (zR p (l.drop i) i),h0)):=by
 intro m
 induction m with
 | zero=>
  intro i hE.mix' hi
  obtain rfl:i=l.length:=by omega
  refine zk hE hf hC (hon _) ?_
  simp only [hZ,Tr.val,ag,dj]
  rfl
 | succ m IH=>
  intro i hE.mix' hi
  have hlt:i < l.length:=by omega
  refine zk hE hf hC (hon _) ?_
  rw [dB hlt]
  simp only [hZ,Tr.val,zX hlt,zG hlt,ac l _ hlt,zH i (by omega),if_true,zR]
  split
  ·rfl
  ·exact IH (i+1) (by omega) (by omega)

abbrev tI (t:Int) (l:List (Sem zg)) (i:Int):St:={ tmps:=[.sl zg l,.clo (.func 251) [] [.ptr 0 0],.any,.any,.any,.any,.any,.int .i64 l.length,.int .i64 i,.any,.any,.any,.any,.any,.any,.any,.any,.any,.any],heap:=[.box [.int .i64 t]] }
theorem Mb (t:Int) (l:List (Sem zg)):run DL 1 lO Tryz.f278.results.toList 300 (aA Tryz.f278) (af Tryz.f278.ntmps [.sl zg l,.clo (.func 251) [] [.ptr 0 0]] [.box [.int .i64 t]])=.ok (.head 2 (zy Tryz.f278 2) (tI t l 0)):=by kernel_rfl
theorem NA (t:Int) (l:List (Sem zg)) (i:Int):run DL 1 lO Tryz.f278.results.toList 300 (zy Tryz.f278 2) (tI t l i)=hZ (K:=zy Tryz.f278 2) (e:=zg) l (fun x=>bif x != t then x != 0 else false) (tI t l) [.box [.int .i64 t]] i:=by kernel_rfl

theorem Nj:zA DL.P 278 Tryz.f278 2:=aL (by kernel_rfl)
def zcb:cz [some (.sl zg),none]:=fun x h=>match x,h with
 | (l,.clo (.func 251) [] [.ptr 0 0],_),[.box [.int .i64 t]]=>.ok (.int .i64 (zR (fun x=>bif x != t then x != 0 else false) l 0),[.box [.int .i64 t]])
 | _,_=>.err
def Zg:zD:=zS [some (.sl zg),none] zcb
theorem UF:FK 278 Zg:=by
 refine bt Nj fun x h0 res hx C hC=>?_
 unfold zcb at hx
 split at hx
 ·rename_i l u t
  simp only [Tr.val_ok,aq] at hx
  subst hx
  refine Reach.len 0 zg l rfl fun hl=>?_
  refine zk (n0:=1) qR Nj hC (Mb t l) ?_
  exact eP l (fun x=>bif x != t then x != 0 else false) (tI t l) qR Nj hC (NA t l) hl _ 0 rfl (aE _)
 ·simp at hx

noncomputable def pz:=DL.addL [(54,ZP),(117,ZB),(28,F6t),(26,ZL),(278,Zg)]
theorem kg:zm pz:=qR.addL <| fc Vf <| fc U2 <| fc zbD <| fc Vc <| fc UF gZ

noncomputable def F78:zD:=zS [some (.sl zg),none] (bU pz Tryz.f250 [some (.sl zg),none])
theorem zbJ:FK 250 F78:=ap _ kg (aL (by kernel_rfl))

def dA (x0:Sem Sh.str):Sem Sh.bool:=mP x0
theorem zeN:zA pz.P 170 Tryz.f170 1:=aL (by kernel_rfl)
theorem zg7 (x0:Sem Sh.str):rn pz 0 (fun _=>{ }) Tryz.f170 [zz Sh.str x0] []=Tr.ok (zt.ret (AV.bool (mP x0)) []):=by kernel_rfl
def F25:zD:=ao [Sh.str] [Sh.bool] fun x=>(dA x.1,())
theorem zaZ:FK 170 F25:=by
 refine zP zeN fun x C hC=>?_
 refine aB kg zeN (fun id _=>hC id) (zg7 x.1) ?_
 simp only [Tr.val,dA]
 repeat' split
 all_goals rfl

def jV (x0:Sem zw) (x1:Sem Sh.str):Sem zg:=zR (fun c=>c.1==x1) x0.2.1 0
theorem zeI:zA pz.P 73 Tryz.f73 2:=aL (by kernel_rfl)
theorem zg2 (x0:Sem zw) (x1:Sem Sh.str):rn pz 0 (fun _=>{ }) Tryz.f73 [zz zw x0,zz Sh.str x1] []=Tr.ok (zt.ret (ai (zR (fun c=>c.1==x1) x0.2.1 0)) []):=by kernel_rfl
def F17:zD:=ao [zw,Sh.str] [zg] fun x=>(jV x.1 x.2.1,())
theorem zaU:FK 73 F17:=by
 refine zP zeI fun x C hC=>?_
 refine aB kg zeI (fun id _=>hC id) (zg2 x.1 x.2.1) ?_
 simp only [Tr.val,jV]
 repeat' split
 all_goals rfl

def au (x0:Sem zi.sl) (x1:Sem Sh.str):Sem zg:=zR (fun c=>c.1==x1) x0 0
theorem ze4:zA pz.P 148 Tryz.f148 2:=aL (by kernel_rfl)
theorem zhq (x0:Sem zi.sl) (x1:Sem Sh.str):rn pz 0 (fun _=>{ }) Tryz.f148 [zz zi.sl x0,zz Sh.str x1] []=Tr.ok (zt.ret (ai (zR (fun c=>c.1==x1) x0 0)) []):=by kernel_rfl
def F48:zD:=ao [zi.sl,Sh.str] [zg] fun x=>(au x.1 x.2.1,())
theorem zbi:FK 148 F48:=by
 refine zP ze4 fun x C hC=>?_
 refine aB kg ze4 (fun id _=>hC id) (zhq x.1 x.2.1) ?_
 simp only [Tr.val,au]
 repeat' split
 all_goals rfl

noncomputable def yM:=pz.addL [(250,F78),(170,F25),(73,F17),(148,F48)]
theorem qS:zm yM:=kg.addL <| fc zbJ <| fc zaZ <| fc zaU <| fc zbi gZ

def sT (x0:Sem zg.sl) (x1:Sem zg):Sem Sh.bool := !decide (zR (fun x=>bif x != x1 then x != 0 else false) x0 0 ≥ 0)
theorem zfg:zA yM.P 203 Tryz.f203 2:=aL (by kernel_rfl)
theorem zhC (x0:Sem zg.sl) (x1:Sem zg):rn yM 0 (fun _=>{ }) Tryz.f203 [zz zg.sl x0,zz zg x1] []=Tr.ok (zt.ret (AV.bool !decide (zR (fun x=>bif x != x1 then x != 0 else false) x0 0 ≥ 0)) []):=by kernel_rfl
def F66:zD:=ao [zg.sl,zg] [Sh.bool] fun x=>(sT x.1 x.2.1,())
theorem zbB:FK 203 F66:=by
 refine zP zfg fun x C hC=>?_
 refine aB qS zfg (fun id _=>hC id) (zhC x.1 x.2.1) ?_
 simp only [Tr.val,sT]
 repeat' split
 all_goals rfl

def cO (x0:Sem Sh.str):Sem Sh.bool:=bif dA x0 then !oU x0 else false
theorem zeH:zA yM.P 92 Tryz.f92 1:=aL (by kernel_rfl)
theorem zg1 (x0:Sem Sh.str):rn yM 0 (fun _=>{ }) Tryz.f92 [zz Sh.str x0] []=Tr.ok (zt.ret (AV.bool (bif dA x0 then !oU x0 else false)) []):=by kernel_rfl
def F16:zD:=ao [Sh.str] [Sh.bool] fun x=>(cO x.1,())
theorem zaT:FK 92 F16:=by
 refine zP zeH fun x C hC=>?_
 refine aB qS zeH (fun id _=>hC id) (zg1 x.1) ?_
 simp only [Tr.val,cO]
 repeat' split
 all_goals rfl

noncomputable def LG:=yM.addL [(203,F66),(92,F16)]
theorem yN:zm LG:=qS.addL <| fc zbB <| fc zaT gZ
theorem cQ {P:Program} {gl:Nat→AV} {k:FuncId} {ks outs:List Sh} {c:zx (ks.map some)→Bool} {g:zx (ks.map some)→zx (outs.map some)} (hf:∃ fn,P.funcs[k]?=some fn∧(fn.name == "runtime.NumGoroutine")=false∧fn.body.isNone=false) (hc:∀ x,c x=false):lL P gl k (zC ks outs c g):=by
 refine ⟨hf,?_⟩
 intro w U ρ hp n args vals f fp hv
 exfalso
 unfold zC zS at hv
 split at hv
 ·simp only at hv
  split at hv
  ·split at hv
   ·simp only [Tr.val_bind,eS] at hv
    obtain ⟨res,h1,h2⟩:=hv
    unfold gG at h1
    split at h1
    ·simp only [Tr.val,hc] at h1
     simp at h1
    ·simp at h1
   ·simp at hv
  ·simp at hv
 ·simp at hv
theorem j0 {Φ:zt→Prop} {c:Bool} {t f:Tr zt} (h1:c=true→fe Φ t.val) (h2:c=false→fe Φ f.val):fe Φ (Tr.br c t f).val:=by
 cases c
 ·simpa [Tr.val] using h2 rfl
 ·simpa [Tr.val] using h1 rfl
theorem cP {Φ:zt→Prop} {c:Bool} {t:Tr zt} (hc:c=true) (h:fe Φ t.val):fe Φ (Tr.chk c t).val:=by
 subst hc
 simpa [Tr.val] using h
theorem zr {Φ:zt→Prop} {t:Tr zt} (h:fe Φ t.val):fe Φ (Tr.chk true t).val:=h
theorem kr {c:Bool} (h:c=false):¬ c=true:=by rw [h]; simp
theorem nd {c g:Bool} (h:(if c=true then g else false)=true):c=true∧g=true:=by
 split at h
 ·exact ⟨‹_›,h⟩
 ·cases h
theorem eY {Φ:zt→Prop} {c:Bool} {t f:Tr zt} {α:Sort _} {a b y:α} {p q:Bool} (hy:(if c=true then a else b)=y) (hc:(if c=true then p else q)=true) (h1:c=true→a=y→p=true→fe Φ t.val) (h2:c=false→b=y→q=true→fe Φ f.val):fe Φ (Tr.br c t f).val:=
 j0 (fun h=>h1 h (by rwa [if_pos h] at hy) (by rwa [if_pos h] at hc)) (fun h=>h2 h (by rwa [if_neg (kr h)] at hy) (by rwa [if_neg (kr h)] at hc))
theorem aR {Φ:zt→Prop} {c:Bool} {t f:Tr zt} {α:Sort _} {a b y:α} (hy:(if c=true then a else b)=y) (h1:c=true→a=y→fe Φ t.val) (h2:c=false→b=y→fe Φ f.val):fe Φ (Tr.br c t f).val:=
 j0 (fun h=>h1 h (by rwa [if_pos h] at hy)) (fun h=>h2 h (by rwa [if_neg (kr h)] at hy))
theorem bm {Φ:zt→Prop} {c g:Bool} {t:Tr zt} (hc:(if c=true then g else false)=true) (h:g=true→fe Φ t.val):fe Φ (Tr.chk c t).val:=
 cP (nd hc).1 (h (nd hc).2)
theorem Tr.val_brT {α:Type} (t f:Tr α):(Tr.br true t f).val=t.val:=rfl
theorem Tr.val_brF {α:Type} (t f:Tr α):(Tr.br false t f).val=f.val:=rfl
theorem Tr.val_chkT {α:Type} (t:Tr α):(Tr.chk true t).val=t.val:=rfl
instance:Inhabited ze:=⟨.mk [] (0,0,[]) [] []⟩
instance (s:Sh):Inhabited (Sem s):=⟨zj s⟩

noncomputable def JF (g:Sem Sh.expr→Sem (Sh.sl zi)→Sem zg×Sem zg) (c:Sem Sh.expr→Sem (Sh.sl zi)→Bool):bq:=LG.add 136 (zC [Sh.expr,Sh.sl zi] [zg,zg] (fun x=>c x.1 x.2.1) fun x=>((g x.1 x.2.1).1,(g x.1 x.2.1).2,()))
theorem u6 {g:Sem Sh.expr→Sem (Sh.sl zi)→Sem zg×Sem zg} {c:Sem Sh.expr→Sem (Sh.sl zi)→Bool} (hg:FK 136 (zC [Sh.expr,Sh.sl zi] [zg,zg] (fun x=>c x.1 x.2.1) fun x=>((g x.1 x.2.1).1,(g x.1 x.2.1).2,()))):zm (JF g c):=yN.add hg
abbrev T7:Nat→zY:=fun j=>if j=3 then { slots:=[1,2,6,15,16,17],prom:=[(6,none,zg)] } else { }
abbrev xq (l1:LC) (l15:LX) (i16:Int) (i17:Int) (ja0:zl) (ja1:Int) (ja2:Int) (ja3:zl) (ja4:zl) (ja5:LX) (lh_1:LI):St:={ tmps:=(tm 91 [(1,AV.sl zi l1),(2,AV.ptr 0 0),(6,AV.vec 1),(15,AV.sl Sh.expr l15),(16,ai i16),(17,ai i17)]),heap:=[AO.box [AV.str ja0,ai ja1,ai ja2,AV.str ja3,AV.str ja4,AV.sl Sh.expr ja5],AO.vec zg lh_1] }
theorem ws (g:Sem Sh.expr→Sem (Sh.sl zi)→Sem zg×Sem zg) (c:Sem Sh.expr→Sem (Sh.sl zi)→Bool):zA (JF g c).P 136 Tryz.f136 2:=aL (by kernel_rfl)
theorem zde (g:Sem Sh.expr→Sem (Sh.sl zi)→Sem zg×Sem zg) (c:Sem Sh.expr→Sem (Sh.sl zi)→Bool) (x0:Sem Sh.expr) (x1:Sem zi.sl):rn (JF g c) 0 T7 Tryz.f136 [zz Sh.expr x0,zz zi.sl x1] []=Tr.ok (zt.head 3 (zy Tryz.f136 3) (xq x1 (ze.l x0) (↑(ze.l x0).length:Int) 0 (ze.op x0) (ze.v x0).1 (ze.v x0).2.1 (ze.v x0).2.2 (ze.s x0) (ze.l x0) [])):=by kernel_rfl
theorem Iq (g:Sem Sh.expr→Sem (Sh.sl zi)→Sem zg×Sem zg) (c:Sem Sh.expr→Sem (Sh.sl zi)→Bool) (l1:LC) (l15:LX) (i16:Int) (i17:Int) (ja0:zl) (ja1:Int) (ja2:Int) (ja3:zl) (ja4:zl) (ja5:LX) (lh_1:LI):rh (JF g c) 0 T7 Tryz.f136 3 (xq l1 l15 i16 i17 ja0 ja1 ja2 ja3 ja4 ja5 lh_1)=Tr.br (decide (i17 < i16)) (Tr.chk (zF i17 l15.length) (Tr.chk (c (zB (l15.getD i17.toNat (zj Sh.expr))) l1) (Tr.br ((g (zB (l15.getD i17.toNat (zj Sh.expr))) l1).2 != 0) (Tr.ok (zt.ret (AV.tup [ai 0,AV.int IntKind.i64 (g (zB (l15.getD i17.toNat (zj Sh.expr))) l1).2]) [])) (Tr.chk (decide (lh_1.length+[(g (zB (l15.getD i17.toNat (zj Sh.expr))) l1).1].length≤1073741824)) (Tr.ok (zt.head 3 (zy Tryz.f136 3) (xq l1 l15 i16 (IntKind.i64.wrap (i17+1)) ja0 ja1 ja2 ja3 ja4 ja5 (lh_1++[(g (zB (l15.getD i17.toNat (zj Sh.expr))) l1).1])))))))) (Tr.br (ja0==[108,105,116]) (Tr.ok (zt.ret (AV.tup [ai ja1,ai 0]) [])) (Tr.br (ja0==[99,111,108]) (Tr.br (decide (au l1 ja4 < 0)) (Tr.ok (zt.ret (AV.tup [ai 0,ai 4]) [])) (Tr.chk (zF (au l1 ja4) l1.length) (Tr.ok (zt.ret (AV.tup [ai (l1.getD (toNat (au l1 ja4)) (zj zi)).2.1,ai 0]) [])))) (Tr.br (ja0==[110,111,116])
 (Tr.br (!sT lh_1 3) (Tr.ok (zt.ret (AV.tup [ai 0,ai 5]) [])) (Tr.ok (zt.ret (AV.tup [ai 3,ai 0]) []))) (Tr.br (ja0==[97,110,100]) (Tr.br (!sT lh_1 3) (Tr.ok (zt.ret (AV.tup [ai 0,ai 5]) [])) (Tr.ok (zt.ret (AV.tup [ai 3,ai 0]) []))) (Tr.br (ja0==[111,114]) (Tr.br (!sT lh_1 3) (Tr.ok (zt.ret (AV.tup [ai 0,ai 5]) [])) (Tr.ok (zt.ret (AV.tup [ai 3,ai 0]) []))) (Tr.br (ja0==[61]) (Tr.chk (zF 0 lh_1.length&&(decide (toNat 0 < lh_1.length)&&(zF 1 lh_1.length&&(decide (toNat 1 < lh_1.length)&&bif lh_1.getD (toNat 0) (zj zg)==lh_1.getD (toNat 1) (zj zg) then true else zF 0 lh_1.length&&(decide (toNat 0 < lh_1.length)&&bif lh_1.getD (toNat 0) (zj zg)==0 then true else zF 1 lh_1.length&&decide (toNat 1 < lh_1.length)))))) (Tr.br (!bif lh_1.getD (toNat 0) (zj zg)==lh_1.getD (toNat 1) (zj zg) then true else bif lh_1.getD (toNat 0) (zj zg)==0 then true else lh_1.getD (toNat 1) (zj zg)==0) (Tr.ok (zt.ret (AV.tup [ai 0,ai 5]) [])) (Tr.ok (zt.ret (AV.tup [ai 3,ai 0]) [])))) (Tr.br (ja0==[60]) (Tr.chk (zF 0 lh_1.length&&(decide (toNat 0 < lh_1.length)&&(zF 1 lh_1.length&&(decide (toNat 1 < lh_1.length)&&
 bif lh_1.getD (toNat 0) (zj zg)==lh_1.getD (toNat 1) (zj zg) then true else zF 0 lh_1.length&&(decide (toNat 0 < lh_1.length)&&bif lh_1.getD (toNat 0) (zj zg)==0 then true else zF 1 lh_1.length&&decide (toNat 1 < lh_1.length)))))) (Tr.br (!bif lh_1.getD (toNat 0) (zj zg)==lh_1.getD (toNat 1) (zj zg) then true else bif lh_1.getD (toNat 0) (zj zg)==0 then true else lh_1.getD (toNat 1) (zj zg)==0) (Tr.ok (zt.ret (AV.tup [ai 0,ai 5]) [])) (Tr.ok (zt.ret (AV.tup [ai 3,ai 0]) [])))) (Tr.br (ja0==[43]) (Tr.br (!sT lh_1 1) (Tr.ok (zt.ret (AV.tup [ai 0,ai 5]) [])) (Tr.ok (zt.ret (AV.tup [ai 1,ai 0]) []))) (Tr.br (ja0==[45]) (Tr.br (!sT lh_1 1) (Tr.ok (zt.ret (AV.tup [ai 0,ai 5]) [])) (Tr.ok (zt.ret (AV.tup [ai 1,ai 0]) []))) (Tr.ok (zt.ret (AV.tup [ai 3,ai 0]) []))))))))))):=by kernel_rfl
def dL (g:Sem Sh.expr→Sem (Sh.sl zi)→Sem zg×Sem zg) (c:Sem Sh.expr→Sem (Sh.sl zi)→Bool) (l1:LC) (ja0:zl) (ja1:Int) (ja2:Int) (ja3:zl) (ja4:zl) (ja5:LX):List (Sem Sh.expr)→Int→List (Sem zg)→Sem zg×Sem zg
 | [],_,lh_1=>if (ja0==[108,105,116])=true then (ja1,0)
else
 if (ja0==[99,111,108])=true then
  if decide (au l1 ja4 < 0)=true then (0,4)
  else ((l1.getD (toNat (au l1 ja4)) (zj zi)).2.1,0)
 else
  if (ja0==[110,111,116])=true then if (!sT lh_1 3)=true then (0,5) else (3,0)
  else
   if (ja0==[97,110,100])=true then if (!sT lh_1 3)=true then (0,5) else (3,0)
   else
    if (ja0==[111,114])=true then if (!sT lh_1 3)=true then (0,5) else (3,0)
    else
     if (ja0==[61])=true then
      if
        (!bif lh_1.getD (toNat 0) (zj zg)==lh_1.getD (toNat 1) (zj zg) then true
          else bif lh_1.getD (toNat 0) (zj zg)==0 then true else lh_1.getD (toNat 1) (zj zg)==0)=
         true then
       (0,5)
      else (3,0)
     else
      if (ja0==[60])=true then
       if
         (!bif lh_1.getD (toNat 0) (zj zg)==lh_1.getD (toNat 1) (zj zg) then true
           else
            bif lh_1.getD (toNat 0) (zj zg)==0 then true else lh_1.getD (toNat 1) (zj zg)==0)=
          true then
        (0,5)
       else (3,0)
      else
       if (ja0==[43])=true then if (!sT lh_1 1)=true then (0,5) else (1,0)
       else if (ja0==[45])=true then if (!sT lh_1 1)=true then (0,5) else (1,0) else (3,0)
 | x::r,i17,lh_1=>if ((g x l1).2 != 0)=true then (0,(g x l1).2) else dL g c l1 ja0 ja1 ja2 ja3 ja4 ja5 r (i17+1) (lh_1++[(g x l1).1])
def eR (g:Sem Sh.expr→Sem (Sh.sl zi)→Sem zg×Sem zg) (c:Sem Sh.expr→Sem (Sh.sl zi)→Bool) (l1:LC) (ja0:zl) (ja1:Int) (ja2:Int) (ja3:zl) (ja4:zl) (ja5:LX):List (Sem Sh.expr)→Int→List (Sem zg)→Bool
 | [],_,lh_1=>if (ja0==[108,105,116])=true then true
else
 if (ja0==[99,111,108])=true then
  if decide (au l1 ja4 < 0)=true then true else if zF (au l1 ja4) l1.length=true then true else false
 else
  if (ja0==[110,111,116])=true then true
  else
   if (ja0==[97,110,100])=true then true
   else
    if (ja0==[111,114])=true then true
    else
     if (ja0 == [61])=true then
      if
        (zF 0 lh_1.length&&
          (decide (toNat 0 < lh_1.length)&&
           (zF 1 lh_1.length&&
            (decide (toNat 1 < lh_1.length)&&
             bif lh_1.getD (toNat 0) (zj zg)==lh_1.getD (toNat 1) (zj zg) then true
             else
              zF 0 lh_1.length&&
               (decide (toNat 0 < lh_1.length)&&
                bif lh_1.getD (toNat 0) (zj zg)==0 then true
                else zF 1 lh_1.length&&decide (toNat 1 < lh_1.length))))))=
         true then
       true
      else false
     else
      if (ja0 == [60])=true then
       if
         (zF 0 lh_1.length&&
           (decide (toNat 0 < lh_1.length)&&
            (zF 1 lh_1.length&&
             (decide (toNat 1 < lh_1.length)&&
              bif lh_1.getD (toNat 0) (zj zg)==lh_1.getD (toNat 1) (zj zg) then true
              else
               zF 0 lh_1.length&&
                (decide (toNat 0 < lh_1.length)&&
                 bif lh_1.getD (toNat 0) (zj zg)==0 then true
                 else zF 1 lh_1.length&&decide (toNat 1 < lh_1.length))))))=
          true then
        true
       else false
      else true
 | x::r,i17,lh_1=>if c x l1=true then
 if ((g x l1).2 != 0)=true then true
 else
  if decide (lh_1.length+[(g x l1).1].length≤1073741824)=true then
   eR g c l1 ja0 ja1 ja2 ja3 ja4 ja5 r (i17+1) (lh_1++[(g x l1).1])
  else false
else false
theorem Qe (g:Sem Sh.expr→Sem (Sh.sl zi)→Sem zg×Sem zg) (c:Sem Sh.expr→Sem (Sh.sl zi)→Bool) (hg:FK 136 (zC [Sh.expr,Sh.sl zi] [zg,zg] (fun x=>c x.1 x.2.1) fun x=>((g x.1 x.2.1).1,(g x.1 x.2.1).2,()))) {C:cr} (hC:∀ id,C.ρ0 id=none) (l1:LC) (ja0:zl) (ja1:Int) (ja2:Int) (ja3:zl) (ja4:zl) (ja5:LX) (l15:LX) (hl:l15.length≤zE):∀ (m i:Nat) (lh_1:LI),l15.length - i=m→i≤l15.length→eR g c l1 ja0 ja1 ja2 ja3 ja4 ja5 (l15.drop i) i lh_1=true→
  Reach (JF g c) C 136 (zy Tryz.f136 3) (xq l1 l15 (l15.length:Int) (i:Int) ja0 ja1 ja2 ja3 ja4 ja5 lh_1) (fun r h=>ae h [zg,zg] r=some ((dL g c l1 ja0 ja1 ja2 ja3 ja4 ja5 (l15.drop i) i lh_1).1,(dL g c l1 ja0 ja1 ja2 ja3 ja4 ja5 (l15.drop i) i lh_1).2,())):=by
 intro m
 induction m with
 | zero=>
  intro i lh_1 hm hi hc
  obtain rfl:i=l15.length:=by omega
  rw [dj] at hc ⊢
  refine zk (u6 hg) (ws g c) (fun id _=>hC id) (Iq g c _ _ _ _ _ _ _ _ _ _ _) ?_
  rw [eR] at hc
  generalize hy:dL g c l1 ja0 ja1 ja2 ja3 ja4 ja5 [] _ lh_1=y
  rw [dL] at hy
  simp only [ze.eta,ag,Tr.val_brF]
  repeat' (first | with_reducible refine eY hy hc (fun _ hy hc=>?_) (fun _ hy hc=>?_) | with_reducible refine aR hy (fun _ hy=>?_) (fun _ hy=>?_) | with_reducible refine bm hc (fun hc=>?_) | with_reducible refine zr ?_)
  all_goals (subst hy; first | rfl)
 | succ m IH=>
  intro i lh_1 hm hi hc
  have hlt:i < l15.length:=by omega
  have IH:=IH (i+1)
  have hcast:((i:Int)+1)=((i+1:Nat):Int):=by omega
  have hwr:=zH i (by omega)
  rw [dB hlt] at hc ⊢
  refine zk (u6 hg) (ws g c) (fun id _=>hC id) (Iq g c _ _ _ _ _ _ _ _ _ _ _) ?_
  rw [eR] at hc
  generalize hy:dL g c l1 ja0 ja1 ja2 ja3 ja4 ja5 (l15[i]::l15.drop (i+1)) (i:Int) lh_1=y
  rw [dL] at hy
  simp only [ze.eta,zX hlt,zG hlt,ac l15 _ hlt,hwr,Tr.val_brT,Tr.val_chkT]
  clear hwr
  simp only [hcast] at hy
  try simp only [hcast] at hc
  repeat' (first | with_reducible refine eY hy hc (fun _ hy hc=>?_) (fun _ hy hc=>?_) | with_reducible refine aR hy (fun _ hy=>?_) (fun _ hy=>?_) | with_reducible refine bm hc (fun hc=>?_) | with_reducible refine zr ?_)
  all_goals (subst hy; first | (change Reach _ _ _ _ _ _; apply IH <;> first | omega | assumption) | rfl)
theorem K7 (g:Sem Sh.expr→Sem (Sh.sl zi)→Sem zg×Sem zg) (c:Sem Sh.expr→Sem (Sh.sl zi)→Bool) (hg:FK 136 (zC [Sh.expr,Sh.sl zi] [zg,zg] (fun x=>c x.1 x.2.1) fun x=>((g x.1 x.2.1).1,(g x.1 x.2.1).2,()))) {C:cr} (hC:∀ id,C.ρ0 id=none) (l1:LC) (ja0:zl) (ja1:Int) (ja2:Int) (ja3:zl) (ja4:zl) (ja5:LX) (l15:LX) (lh_1:LI) (hc:eR g c l1 ja0 ja1 ja2 ja3 ja4 ja5 l15 0 lh_1=true):
  Reach (JF g c) C 136 (zy Tryz.f136 3) (xq l1 l15 (l15.length:Int) 0 ja0 ja1 ja2 ja3 ja4 ja5 lh_1) (fun r h=>ae h [zg,zg] r=some ((dL g c l1 ja0 ja1 ja2 ja3 ja4 ja5 l15 0 lh_1).1,(dL g c l1 ja0 ja1 ja2 ja3 ja4 ja5 l15 0 lh_1).2,())):=
 Reach.len 15 (Sh.expr) l15 rfl fun hl=>Qe g c hg hC l1 ja0 ja1 ja2 ja3 ja4 ja5 l15 hl _ 0 lh_1 rfl (aE _) hc
def xH (g:Sem Sh.expr→Sem (Sh.sl zi)→Sem zg×Sem zg) (c:Sem Sh.expr→Sem (Sh.sl zi)→Bool) (x0:Sem Sh.expr) (x1:Sem zi.sl):Sem zg×Sem zg:=dL g c x1 (ze.op x0) (ze.v x0).1 (ze.v x0).2.1 (ze.v x0).2.2 (ze.s x0) (ze.l x0) (ze.l x0) 0 []
def tR (g:Sem Sh.expr→Sem (Sh.sl zi)→Sem zg×Sem zg) (c:Sem Sh.expr→Sem (Sh.sl zi)→Bool) (x0:Sem Sh.expr) (x1:Sem zi.sl):Bool:=eR g c x1 (ze.op x0) (ze.v x0).1 (ze.v x0).2.1 (ze.v x0).2.2 (ze.s x0) (ze.l x0) (ze.l x0) 0 []
def zgn (g:Sem Sh.expr→Sem (Sh.sl zi)→Sem zg×Sem zg) (c:Sem Sh.expr→Sem (Sh.sl zi)→Bool):zD:=zC [Sh.expr,zi.sl] [zg,zg] (fun x=>tR g c x.1 x.2.1) fun x=>((xH g c x.1 x.2.1).1,(xH g c x.1 x.2.1).2,())
theorem VO (g:Sem Sh.expr→Sem (Sh.sl zi)→Sem zg×Sem zg) (c:Sem Sh.expr→Sem (Sh.sl zi)→Bool) (hg:FK 136 (zC [Sh.expr,Sh.sl zi] [zg,zg] (fun x=>c x.1 x.2.1) fun x=>((g x.1 x.2.1).1,(g x.1 x.2.1).2,()))):FK 136 (zgn g c):=by
 refine zM (ws g c) fun x hc C hC=>?_
 unfold tR at hc
 refine zk (u6 hg) (ws g c) (fun id _=>hC id) (zde g c x.1 x.2.1) ?_
 generalize hy:xH g c x.1 x.2.1=y
 unfold xH at hy
 try simp only [ze.eta,zn]
 repeat' (first | with_reducible refine eY hy hc (fun _ hy hc=>?_) (fun _ hy hc=>?_) | with_reducible refine aR hy (fun _ hy=>?_) (fun _ hy=>?_) | with_reducible refine bm hc (fun hc=>?_) | with_reducible refine zr ?_)
 all_goals (subst hy; first | (change Reach _ _ _ _ _ _; apply K7 g c hg hC <;> first | assumption | exact hc) | rfl)
mutual
def fa:Nat→Sem Sh.expr→Sem (Sh.sl zi)→Sem zg×Sem zg
 | 0=>fun _ _=>default
 | n+1=>xH (fa n) (gH n)
def gH:Nat→Sem Sh.expr→Sem (Sh.sl zi)→Bool
 | 0=>fun _ _=>false
 | n+1=>tR (fa n) (gH n)
end
theorem KS:∀ n,FK 136 (zC [Sh.expr,Sh.sl zi] [zg,zg] (fun x=>gH n x.1 x.2.1) fun x=>((fa n x.1 x.2.1).1,(fa n x.1 x.2.1).2,()))
 | 0=>cQ ⟨Tryz.f136,(ws default default).1,(ws default default).2.1,(ws default default).2.2.1⟩ (fun _=>rfl)
 | n+1=>VO (fa n) (gH n) (KS n)
def F51:zD:=zC [Sh.expr,Sh.sl zi] [zg,zg] (fun x=>gH 16 x.1 x.2.1) fun x=>((fa 16 x.1 x.2.1).1,(fa 16 x.1 x.2.1).2,())
theorem zbn:FK 136 F51:=KS 16

noncomputable def DM:=LG.add 136 F51
theorem mY:zm DM:=yN.add zbn

noncomputable def JA (g:Sem Sh.expr→Sem zg→Sem zg→Sem Sh.expr×Sem zg) (c:Sem Sh.expr→Sem zg→Sem zg→Bool):bq:=DM.add 53 (zC [Sh.expr,zg,zg] [Sh.expr,zg] (fun x=>c x.1 x.2.1 x.2.2.1) fun x=>((g x.1 x.2.1 x.2.2.1).1,(g x.1 x.2.1 x.2.2.1).2,()))
theorem uW {g:Sem Sh.expr→Sem zg→Sem zg→Sem Sh.expr×Sem zg} {c:Sem Sh.expr→Sem zg→Sem zg→Bool} (hg:FK 53 (zC [Sh.expr,zg,zg] [Sh.expr,zg] (fun x=>c x.1 x.2.1 x.2.2.1) fun x=>((g x.1 x.2.1 x.2.2.1).1,(g x.1 x.2.1 x.2.2.1).2,()))):zm (JA g c):=mY.add hg
abbrev T2:Nat→zY:=fun j=>if j=10 then { slots:=[1,2,3,6,8,9],prom:=[(8,some 5,Sh.expr)] } else { }
abbrev fq (i1:Sem zg) (i2:Int) (i9:Int) (ja0:zl) (ja1:Int) (ja2:Int) (ja3:zl) (ja4:zl) (ja5:LX) (jb0:List UInt8) (jb1:Int) (jb2:Int) (jb3:List UInt8) (jb4:List UInt8) (jc0:List UInt8) (jc1:Int) (jc2:Int) (jc3:List UInt8) (jc4:List UInt8) (lh_3:LX):St:={ tmps:=(tm 88 [(1,ai i1),(2,ai i2),(3,AV.ptr 0 0),(6,AV.ptr 1 0),(8,AV.ptr 2 0),(9,ai i9)]),heap:=[AO.box [AV.str ja0,ai ja1,ai ja2,AV.str ja3,AV.str ja4,AV.sl Sh.expr ja5],AO.box [AV.str jb0,ai jb1,ai jb2,AV.str jb3,AV.str jb4,AV.nils],AO.box [AV.str jc0,ai jc1,ai jc2,AV.str jc3,AV.str jc4,AV.vec 3],AO.vec Sh.expr lh_3] }
theorem wo (g:Sem Sh.expr→Sem zg→Sem zg→Sem Sh.expr×Sem zg) (c:Sem Sh.expr→Sem zg→Sem zg→Bool):zA (JA g c).P 53 Tryz.f53 3:=aL (by kernel_rfl)
theorem zc5 (g:Sem Sh.expr→Sem zg→Sem zg→Sem Sh.expr×Sem zg) (c:Sem Sh.expr→Sem zg→Sem zg→Bool) (x0:Sem Sh.expr) (x1:Sem zg) (x2:Sem zg):rn (JA g c) 0 T2 Tryz.f53 [zz Sh.expr x0,zz zg x1,zz zg x2] []=Tr.br (decide ((↑(length (ze.op x0)):Int) > 8)) (Tr.chk (decide (0≤0)&&decide (0≤8)&&decide (8≤(↑(length (ze.op x0)):Int))) (Tr.br (decide ((↑(length (ze.s x0)):Int) > 20)) (Tr.chk (decide (0≤0)&&decide (0≤20)&&decide (20≤(↑(length (ze.s x0)):Int))) (Tr.br (decide ((↑(length (ze.v x0).2.2):Int) > 45)) (Tr.chk (decide (0≤0)&&decide (0≤45)&&decide (45≤(↑(length (ze.v x0).2.2):Int))) (Tr.ok (zt.head 10 (zy Tryz.f53 10) (fq x1 (IntKind.i64.wrap (x2 - 1)) 0 (ze.op x0) (ze.v x0).1 (ze.v x0).2.1 (ze.v x0).2.2 (ze.s x0) (ze.l x0) [] 0 0 [] [] (List.take (toNat 8 - toNat 0) (List.drop (toNat 0) (ze.op x0))) (ze.v x0).1 (ze.v x0).2.1 (List.take (toNat 45 - toNat 0) (List.drop (toNat 0) (ze.v x0).2.2)) (List.take (toNat 20 - toNat 0) (List.drop (toNat 0) (ze.s x0))) [])))) (Tr.ok (zt.head 10 (zy Tryz.f53 10) (fq x1 (IntKind.i64.wrap (x2 - 1)) 0 (ze.op x0) (ze.v x0).1 (ze.v x0).2.1 (ze.v x0).2.2 (ze.s x0) (ze.l x0) [] 0
 0 [] [] (List.take (toNat 8 - toNat 0) (List.drop (toNat 0) (ze.op x0))) (ze.v x0).1 (ze.v x0).2.1 (ze.v x0).2.2 (List.take (toNat 20 - toNat 0) (List.drop (toNat 0) (ze.s x0))) []))))) (Tr.br (decide ((↑(length (ze.v x0).2.2):Int) > 45)) (Tr.chk (decide (0≤0)&&decide (0≤45)&&decide (45≤(↑(length (ze.v x0).2.2):Int))) (Tr.ok (zt.head 10 (zy Tryz.f53 10) (fq x1 (IntKind.i64.wrap (x2 - 1)) 0 (ze.op x0) (ze.v x0).1 (ze.v x0).2.1 (ze.v x0).2.2 (ze.s x0) (ze.l x0) [] 0 0 [] [] (List.take (toNat 8 - toNat 0) (List.drop (toNat 0) (ze.op x0))) (ze.v x0).1 (ze.v x0).2.1 (List.take (toNat 45 - toNat 0) (List.drop (toNat 0) (ze.v x0).2.2)) (ze.s x0) [])))) (Tr.ok (zt.head 10 (zy Tryz.f53 10) (fq x1 (IntKind.i64.wrap (x2 - 1)) 0 (ze.op x0) (ze.v x0).1 (ze.v x0).2.1 (ze.v x0).2.2 (ze.s x0) (ze.l x0) [] 0 0 [] [] (List.take (toNat 8 - toNat 0) (List.drop (toNat 0) (ze.op x0))) (ze.v x0).1 (ze.v x0).2.1 (ze.v x0).2.2 (ze.s x0) [])))))) (Tr.br (decide ((↑(length (ze.s x0)):Int) > 20)) (Tr.chk (decide (0≤0)&&decide (0≤20)&&decide (20≤(↑(length (ze.s x0)):Int))) (Tr.br (decide ((↑(length (ze.v x0).2.2):Int) > 45)) (Tr.chk (decide (0≤0)&&decide (0≤45)&&decide (45≤(↑(length (ze.v x0).2.2):Int))) (Tr.ok (zt.head 10 (zy Tryz.f53 10)
 (fq x1 (IntKind.i64.wrap (x2 - 1)) 0 (ze.op x0) (ze.v x0).1 (ze.v x0).2.1 (ze.v x0).2.2 (ze.s x0) (ze.l x0) [] 0 0 [] [] (ze.op x0) (ze.v x0).1 (ze.v x0).2.1 (List.take (toNat 45 - toNat 0) (List.drop (toNat 0) (ze.v x0).2.2)) (List.take (toNat 20 - toNat 0) (List.drop (toNat 0) (ze.s x0))) [])))) (Tr.ok (zt.head 10 (zy Tryz.f53 10) (fq x1 (IntKind.i64.wrap (x2 - 1)) 0 (ze.op x0) (ze.v x0).1 (ze.v x0).2.1 (ze.v x0).2.2 (ze.s x0) (ze.l x0) [] 0 0 [] [] (ze.op x0) (ze.v x0).1 (ze.v x0).2.1 (ze.v x0).2.2 (List.take (toNat 20 - toNat 0) (List.drop (toNat 0) (ze.s x0))) []))))) (Tr.br (decide ((↑(length (ze.v x0).2.2):Int) > 45)) (Tr.chk (decide (0≤0)&&decide (0≤45)&&decide (45≤(↑(length (ze.v x0).2.2):Int))) (Tr.ok (zt.head 10 (zy Tryz.f53 10) (fq x1 (IntKind.i64.wrap (x2 - 1)) 0 (ze.op x0) (ze.v x0).1 (ze.v x0).2.1 (ze.v x0).2.2 (ze.s x0) (ze.l x0) [] 0 0 [] [] (ze.op x0) (ze.v x0).1 (ze.v x0).2.1 (List.take (toNat 45 - toNat 0) (List.drop (toNat 0) (ze.v x0).2.2)) (ze.s x0) [])))) (Tr.ok (zt.head 10 (zy Tryz.f53 10) (fq x1 (IntKind.i64.wrap (x2 - 1)) 0 (ze.op x0) (ze.v x0).1 (ze.v x0).2.1 (ze.v x0).2.2 (ze.s x0) (ze.l x0) [] 0 0 [] [] (ze.op x0) (ze.v x0).1 (ze.v x0).2.1 (ze.v x0).2.2 (ze.s x0) []))))):=by kernel_rfl
theorem Er (g:Sem Sh.expr→Sem zg→Sem zg→Sem Sh.expr×Sem zg) (c:Sem Sh.expr→Sem zg→Sem zg→Bool) (i1:Sem zg) (i2:Int) (i9:Int) (ja0:zl) (ja1:Int) (ja2:Int) (ja3:zl) (ja4:zl) (ja5:LX) (jb0:List UInt8) (jb1:Int) (jb2:Int) (jb3:List UInt8) (jb4:List UInt8) (jc0:List UInt8) (jc1:Int) (jc2:Int) (jc3:List UInt8) (jc4:List UInt8) (lh_3:LX):rh (JA g c) 0 T2 Tryz.f53 10 (fq i1 i2 i9 ja0 ja1 ja2 ja3 ja4 ja5 jb0 jb1 jb2 jb3 jb4 jc0 jc1 jc2 jc3 jc4 lh_3)=Tr.br (bif decide (i9 < (↑ja5.length:Int)) then bif decide (i9 < 3) then bif decide (i1 > 0) then decide (i2 > 0) else false else false else false) (Tr.chk (zF i9 ja5.length) (Tr.chk (c (zB (ja5.getD i9.toNat (zj Sh.expr))) (IntKind.i64.wrap (i1 - 1)) i2) (Tr.chk (decide (lh_3.length+[ze.mk (ze.op (g (zB (ja5.getD i9.toNat (zj Sh.expr))) (IntKind.i64.wrap (i1 - 1)) i2).1) (ze.v (g (zB (ja5.getD i9.toNat (zj Sh.expr))) (IntKind.i64.wrap (i1 - 1)) i2).1) (ze.s (g (zB (ja5.getD i9.toNat (zj Sh.expr))) (IntKind.i64.wrap (i1 - 1)) i2).1) (ze.l (g (zB (ja5.getD i9.toNat (zj Sh.expr))) (IntKind.i64.wrap (i1 - 1)) i2).1)].length≤1073741824)) (Tr.ok (zt.head 10 (zy Tryz.f53 10) (fq i1 (g (zB (ja5.getD i9.toNat (zj Sh.expr))) (IntKind.i64.wrap (i1 - 1)) i2).2
 (IntKind.i64.wrap (i9+1)) ja0 ja1 ja2 ja3 ja4 ja5 jb0 jb1 jb2 jb3 jb4 jc0 jc1 jc2 jc3 jc4 (lh_3++[ze.mk (ze.op (g (zB (ja5.getD i9.toNat (zj Sh.expr))) (IntKind.i64.wrap (i1 - 1)) i2).1) (ze.v (g (zB (ja5.getD i9.toNat (zj Sh.expr))) (IntKind.i64.wrap (i1 - 1)) i2).1) (ze.s (g (zB (ja5.getD i9.toNat (zj Sh.expr))) (IntKind.i64.wrap (i1 - 1)) i2).1) (ze.l (g (zB (ja5.getD i9.toNat (zj Sh.expr))) (IntKind.i64.wrap (i1 - 1)) i2).1)]))))))) (Tr.ok (zt.ret (AV.tup [AV.agg [AV.str jc0,ai jc1,ai jc2,AV.str jc3,AV.str jc4,AV.vec 0],ai i2]) [AO.vec Sh.expr lh_3])):=by kernel_rfl
def bI (g:Sem Sh.expr→Sem zg→Sem zg→Sem Sh.expr×Sem zg) (c:Sem Sh.expr→Sem zg→Sem zg→Bool) (i1:Sem zg) (ja0:zl) (ja1:Int) (ja2:Int) (ja3:zl) (ja4:zl) (jb0:List UInt8) (jb1:Int) (jb2:Int) (jb3:List UInt8) (jb4:List UInt8) (jc0:List UInt8) (jc1:Int) (jc2:Int) (jc3:List UInt8) (jc4:List UInt8):List (Sem Sh.expr)→Int→Int→List (Sem Sh.expr)→Sem Sh.expr×Sem zg
 | [],_,i2,lh_3=>(ze.mk jc0 (jc1,jc2,jc3) jc4 lh_3,i2)
 | x::r,i9,i2,lh_3=>if (bif decide (i9 < 3) then bif decide (i1 > 0) then decide (i2 > 0) else false else false)=true then
 bI g c i1 ja0 ja1 ja2 ja3 ja4 jb0 jb1 jb2 jb3 jb4 jc0 jc1 jc2 jc3 jc4 r (i9+1)
  (g x (IntKind.i64.wrap (i1 - 1)) i2).2 (lh_3++[(g x (IntKind.i64.wrap (i1 - 1)) i2).1])
else (ze.mk jc0 (jc1,jc2,jc3) jc4 lh_3,i2)
def cF (g:Sem Sh.expr→Sem zg→Sem zg→Sem Sh.expr×Sem zg) (c:Sem Sh.expr→Sem zg→Sem zg→Bool) (i1:Sem zg) (ja0:zl) (ja1:Int) (ja2:Int) (ja3:zl) (ja4:zl) (jb0:List UInt8) (jb1:Int) (jb2:Int) (jb3:List UInt8) (jb4:List UInt8) (jc0:List UInt8) (jc1:Int) (jc2:Int) (jc3:List UInt8) (jc4:List UInt8):List (Sem Sh.expr)→Int→Int→List (Sem Sh.expr)→Bool
 | [],_,_,_=>true
 | x::r,i9,i2,lh_3=>if (bif decide (i9 < 3) then bif decide (i1 > 0) then decide (i2 > 0) else false else false)=true then
 if c x (IntKind.i64.wrap (i1 - 1)) i2=true then
  if decide (lh_3.length+[(g x (IntKind.i64.wrap (i1 - 1)) i2).1].length≤1073741824)=true then
   cF g c i1 ja0 ja1 ja2 ja3 ja4 jb0 jb1 jb2 jb3 jb4 jc0 jc1 jc2 jc3 jc4 r (i9+1)
    (g x (IntKind.i64.wrap (i1 - 1)) i2).2 (lh_3++[(g x (IntKind.i64.wrap (i1 - 1)) i2).1])
  else false
 else false
else true
theorem K5 (g:Sem Sh.expr→Sem zg→Sem zg→Sem Sh.expr×Sem zg) (c:Sem Sh.expr→Sem zg→Sem zg→Bool) (hg:FK 53 (zC [Sh.expr,zg,zg] [Sh.expr,zg] (fun x=>c x.1 x.2.1 x.2.2.1) fun x=>((g x.1 x.2.1 x.2.2.1).1,(g x.1 x.2.1 x.2.2.1).2,()))) {C:cr} (hC:∀ id,C.ρ0 id=none) (i1:Sem zg) (ja0:zl) (ja1:Int) (ja2:Int) (ja3:zl) (ja4:zl) (jb0:List UInt8) (jb1:Int) (jb2:Int) (jb3:List UInt8) (jb4:List UInt8) (jc0:List UInt8) (jc1:Int) (jc2:Int) (jc3:List UInt8) (jc4:List UInt8) (ja5:LX) (hl:ja5.length≤zE):∀ (m i:Nat) (i2:Int) (lh_3:LX),ja5.length - i=m→i≤ja5.length→cF g c i1 ja0 ja1 ja2 ja3 ja4 jb0 jb1 jb2 jb3 jb4 jc0 jc1 jc2 jc3 jc4 (ja5.drop i) i i2 lh_3=true→
  Reach (JA g c) C 53 (zy Tryz.f53 10) (fq i1 i2 (i:Int) ja0 ja1 ja2 ja3 ja4 ja5 jb0 jb1 jb2 jb3 jb4 jc0 jc1 jc2 jc3 jc4 lh_3) (fun r h=>ae h [Sh.expr,zg] r=some ((bI g c i1 ja0 ja1 ja2 ja3 ja4 jb0 jb1 jb2 jb3 jb4 jc0 jc1 jc2 jc3 jc4 (ja5.drop i) i i2 lh_3).1,(bI g c i1 ja0 ja1 ja2 ja3 ja4 jb0 jb1 jb2 jb3 jb4 jc0 jc1 jc2 jc3 jc4 (ja5.drop i) i i2 lh_3).2,())):=by
 intro m
 induction m with
 | zero=>
  intro i i2 lh_3 hm hi hc
  obtain rfl:i=ja5.length:=by omega
  rw [dj] at hc ⊢
  refine zk (uW hg) (wo g c) (fun id _=>hC id) (Er g c _ _ _ _ _ _ _ _ _ _ _ _ _ _ _ _ _ _ _ _) ?_
  rw [cF] at hc
  generalize hy:bI g c i1 ja0 ja1 ja2 ja3 ja4 jb0 jb1 jb2 jb3 jb4 jc0 jc1 jc2 jc3 jc4 [] _ i2 lh_3=y
  rw [bI] at hy
  simp only [ze.eta,ag,bQ,Tr.val_brF]
  repeat' (first | with_reducible refine eY hy hc (fun _ hy hc=>?_) (fun _ hy hc=>?_) | with_reducible refine aR hy (fun _ hy=>?_) (fun _ hy=>?_) | with_reducible refine bm hc (fun hc=>?_) | with_reducible refine zr ?_)
  all_goals (subst hy; first | rfl)
 | succ m IH=>
  intro i i2 lh_3 hm hi hc
  have hlt:i < ja5.length:=by omega
  have IH:=IH (i+1)
  have hcast:((i:Int)+1)=((i+1:Nat):Int):=by omega
  have hwr:=zH i (by omega)
  rw [dB hlt] at hc ⊢
  refine zk (uW hg) (wo g c) (fun id _=>hC id) (Er g c _ _ _ _ _ _ _ _ _ _ _ _ _ _ _ _ _ _ _ _) ?_
  rw [cF] at hc
  generalize hy:bI g c i1 ja0 ja1 ja2 ja3 ja4 jb0 jb1 jb2 jb3 jb4 jc0 jc1 jc2 jc3 jc4 (ja5[i]::ja5.drop (i+1)) (i:Int) i2 lh_3=y
  rw [bI] at hy
  simp only [ze.eta,zX hlt,zG hlt,ac ja5 _ hlt,hwr,bA]
  clear hwr
  simp only [hcast] at hy
  try simp only [hcast] at hc
  repeat' (first | with_reducible refine eY hy hc (fun _ hy hc=>?_) (fun _ hy hc=>?_) | with_reducible refine aR hy (fun _ hy=>?_) (fun _ hy=>?_) | with_reducible refine bm hc (fun hc=>?_) | with_reducible refine zr ?_)
  all_goals (subst hy; first | (change Reach _ _ _ _ _ _; apply IH <;> first | omega | assumption) | rfl)
theorem Jr (g:Sem Sh.expr→Sem zg→Sem zg→Sem Sh.expr×Sem zg) (c:Sem Sh.expr→Sem zg→Sem zg→Bool) (hg:FK 53 (zC [Sh.expr,zg,zg] [Sh.expr,zg] (fun x=>c x.1 x.2.1 x.2.2.1) fun x=>((g x.1 x.2.1 x.2.2.1).1,(g x.1 x.2.1 x.2.2.1).2,()))) {C:cr} (hC:∀ id,C.ρ0 id=none) (i1:Sem zg) (ja0:zl) (ja1:Int) (ja2:Int) (ja3:zl) (ja4:zl) (jb0:List UInt8) (jb1:Int) (jb2:Int) (jb3:List UInt8) (jb4:List UInt8) (jc0:List UInt8) (jc1:Int) (jc2:Int) (jc3:List UInt8) (jc4:List UInt8) (ja5:LX) (i2:Int) (lh_3:LX) (hc:cF g c i1 ja0 ja1 ja2 ja3 ja4 jb0 jb1 jb2 jb3 jb4 jc0 jc1 jc2 jc3 jc4 ja5 0 i2 lh_3=true):
  Reach (JA g c) C 53 (zy Tryz.f53 10) (fq i1 i2 0 ja0 ja1 ja2 ja3 ja4 ja5 jb0 jb1 jb2 jb3 jb4 jc0 jc1 jc2 jc3 jc4 lh_3) (fun r h=>ae h [Sh.expr,zg] r=some ((bI g c i1 ja0 ja1 ja2 ja3 ja4 jb0 jb1 jb2 jb3 jb4 jc0 jc1 jc2 jc3 jc4 ja5 0 i2 lh_3).1,(bI g c i1 ja0 ja1 ja2 ja3 ja4 jb0 jb1 jb2 jb3 jb4 jc0 jc1 jc2 jc3 jc4 ja5 0 i2 lh_3).2,())):=
 Reach.lenB 0 5 (Sh.expr) ja5 rfl rfl fun hl=>K5 g c hg hC i1 ja0 ja1 ja2 ja3 ja4 jb0 jb1 jb2 jb3 jb4 jc0 jc1 jc2 jc3 jc4 ja5 hl _ 0 i2 lh_3 rfl (aE _) hc
def D4 (g:Sem Sh.expr→Sem zg→Sem zg→Sem Sh.expr×Sem zg) (c:Sem Sh.expr→Sem zg→Sem zg→Bool) (x0:Sem Sh.expr) (x1:Sem zg) (x2:Sem zg):Sem Sh.expr×Sem zg:=if decide ((↑(length (ze.op x0)):Int) > 8)=true then if decide ((↑(length (ze.s x0)):Int) > 20)=true then if decide ((↑(length (ze.v x0).2.2):Int) > 45)=true then bI g c x1 (ze.op x0) (ze.v x0).1 (ze.v x0).2.1 (ze.v x0).2.2 (ze.s x0) [] 0 0 [] [] (List.take (toNat 8 - toNat 0) (List.drop (toNat 0) (ze.op x0))) (ze.v x0).1 (ze.v x0).2.1 (List.take (toNat 45 - toNat 0) (List.drop (toNat 0) (ze.v x0).2.2)) (List.take (toNat 20 - toNat 0) (List.drop (toNat 0) (ze.s x0))) (ze.l x0) 0 (IntKind.i64.wrap (x2 - 1)) [] else bI g c x1 (ze.op x0) (ze.v x0).1 (ze.v x0).2.1 (ze.v x0).2.2 (ze.s x0) [] 0 0 [] [] (List.take (toNat 8 - toNat 0) (List.drop (toNat 0) (ze.op x0))) (ze.v x0).1 (ze.v x0).2.1 (ze.v x0).2.2 (List.take (toNat 20 - toNat 0) (List.drop (toNat 0) (ze.s x0))) (ze.l x0) 0 (IntKind.i64.wrap (x2 - 1)) [] else if decide ((↑(length (ze.v x0).2.2):Int) > 45)=true then bI g c x1 (ze.op x0) (ze.v x0).1 (ze.v x0).2.1 (ze.v x0).2.2 (ze.s x0) [] 0 0 [] [] (List.take (toNat 8 - toNat 0) (List.drop (toNat 0) (ze.op x0))) (ze.v x0).1 (ze.v x0).2.1
 (List.take (toNat 45 - toNat 0) (List.drop (toNat 0) (ze.v x0).2.2)) (ze.s x0) (ze.l x0) 0 (IntKind.i64.wrap (x2 - 1)) [] else bI g c x1 (ze.op x0) (ze.v x0).1 (ze.v x0).2.1 (ze.v x0).2.2 (ze.s x0) [] 0 0 [] [] (List.take (toNat 8 - toNat 0) (List.drop (toNat 0) (ze.op x0))) (ze.v x0).1 (ze.v x0).2.1 (ze.v x0).2.2 (ze.s x0) (ze.l x0) 0 (IntKind.i64.wrap (x2 - 1)) [] else if decide ((↑(length (ze.s x0)):Int) > 20)=true then if decide ((↑(length (ze.v x0).2.2):Int) > 45)=true then bI g c x1 (ze.op x0) (ze.v x0).1 (ze.v x0).2.1 (ze.v x0).2.2 (ze.s x0) [] 0 0 [] [] (ze.op x0) (ze.v x0).1 (ze.v x0).2.1 (List.take (toNat 45 - toNat 0) (List.drop (toNat 0) (ze.v x0).2.2)) (List.take (toNat 20 - toNat 0) (List.drop (toNat 0) (ze.s x0))) (ze.l x0) 0 (IntKind.i64.wrap (x2 - 1)) [] else bI g c x1 (ze.op x0) (ze.v x0).1 (ze.v x0).2.1 (ze.v x0).2.2 (ze.s x0) [] 0 0 [] [] (ze.op x0) (ze.v x0).1 (ze.v x0).2.1 (ze.v x0).2.2 (List.take (toNat 20 - toNat 0) (List.drop (toNat 0) (ze.s x0))) (ze.l x0) 0 (IntKind.i64.wrap (x2 - 1)) [] else if decide ((↑(length (ze.v x0).2.2):Int) > 45)=true then bI g c x1 (ze.op x0) (ze.v x0).1 (ze.v x0).2.1 (ze.v x0).2.2 (ze.s x0) [] 0 0 [] [] (ze.op x0) (ze.v x0).1
 (ze.v x0).2.1 (List.take (toNat 45 - toNat 0) (List.drop (toNat 0) (ze.v x0).2.2)) (ze.s x0) (ze.l x0) 0 (IntKind.i64.wrap (x2 - 1)) [] else bI g c x1 (ze.op x0) (ze.v x0).1 (ze.v x0).2.1 (ze.v x0).2.2 (ze.s x0) [] 0 0 [] [] (ze.op x0) (ze.v x0).1 (ze.v x0).2.1 (ze.v x0).2.2 (ze.s x0) (ze.l x0) 0 (IntKind.i64.wrap (x2 - 1)) []
def D5 (g:Sem Sh.expr→Sem zg→Sem zg→Sem Sh.expr×Sem zg) (c:Sem Sh.expr→Sem zg→Sem zg→Bool) (x0:Sem Sh.expr) (x1:Sem zg) (x2:Sem zg):Bool:=if decide ((↑(length (ze.op x0)):Int) > 8)=true then if (decide (0≤0)&&decide (0≤8)&&decide (8≤(↑(length (ze.op x0)):Int)))=true then if decide ((↑(length (ze.s x0)):Int) > 20)=true then if (decide (0≤0)&&decide (0≤20)&&decide (20≤(↑(length (ze.s x0)):Int)))=true then if decide ((↑(length (ze.v x0).2.2):Int) > 45)=true then if (decide (0≤0)&&decide (0≤45)&&decide (45≤(↑(length (ze.v x0).2.2):Int)))=true then cF g c x1 (ze.op x0) (ze.v x0).1 (ze.v x0).2.1 (ze.v x0).2.2 (ze.s x0) [] 0 0 [] [] (List.take (toNat 8 - toNat 0) (List.drop (toNat 0) (ze.op x0))) (ze.v x0).1 (ze.v x0).2.1 (List.take (toNat 45 - toNat 0) (List.drop (toNat 0) (ze.v x0).2.2)) (List.take (toNat 20 - toNat 0) (List.drop (toNat 0) (ze.s x0))) (ze.l x0) 0 (IntKind.i64.wrap (x2 - 1)) [] else false else cF g c x1 (ze.op x0) (ze.v x0).1 (ze.v x0).2.1 (ze.v x0).2.2 (ze.s x0) [] 0 0 [] [] (List.take (toNat 8 - toNat 0) (List.drop (toNat 0) (ze.op x0))) (ze.v x0).1 (ze.v x0).2.1 (ze.v x0).2.2
 (List.take (toNat 20 - toNat 0) (List.drop (toNat 0) (ze.s x0))) (ze.l x0) 0 (IntKind.i64.wrap (x2 - 1)) [] else false else if decide ((↑(length (ze.v x0).2.2):Int) > 45)=true then if (decide (0≤0)&&decide (0≤45)&&decide (45≤(↑(length (ze.v x0).2.2):Int)))=true then cF g c x1 (ze.op x0) (ze.v x0).1 (ze.v x0).2.1 (ze.v x0).2.2 (ze.s x0) [] 0 0 [] [] (List.take (toNat 8 - toNat 0) (List.drop (toNat 0) (ze.op x0))) (ze.v x0).1 (ze.v x0).2.1 (List.take (toNat 45 - toNat 0) (List.drop (toNat 0) (ze.v x0).2.2)) (ze.s x0) (ze.l x0) 0 (IntKind.i64.wrap (x2 - 1)) [] else false else cF g c x1 (ze.op x0) (ze.v x0).1 (ze.v x0).2.1 (ze.v x0).2.2 (ze.s x0) [] 0 0 [] [] (List.take (toNat 8 - toNat 0) (List.drop (toNat 0) (ze.op x0))) (ze.v x0).1 (ze.v x0).2.1 (ze.v x0).2.2 (ze.s x0) (ze.l x0) 0 (IntKind.i64.wrap (x2 - 1)) [] else false else if decide ((↑(length (ze.s x0)):Int) > 20)=true then if (decide (0≤0)&&decide (0≤20)&&decide (20≤(↑(length (ze.s x0)):Int)))=true then if decide ((↑(length (ze.v x0).2.2):Int) > 45)=true then if (decide (0≤0)&&decide (0≤45)&&decide (45≤(↑(length (ze.v x0).2.2):Int)))=true then cF g c x1 (ze.op x0) (ze.v x0).1 (ze.v x0).2.1 (ze.v x0).2.2 (ze.s x0) [] 0 0 [] [] (ze.op x0) (ze.v x0).1
 (ze.v x0).2.1 (List.take (toNat 45 - toNat 0) (List.drop (toNat 0) (ze.v x0).2.2)) (List.take (toNat 20 - toNat 0) (List.drop (toNat 0) (ze.s x0))) (ze.l x0) 0 (IntKind.i64.wrap (x2 - 1)) [] else false else cF g c x1 (ze.op x0) (ze.v x0).1 (ze.v x0).2.1 (ze.v x0).2.2 (ze.s x0) [] 0 0 [] [] (ze.op x0) (ze.v x0).1 (ze.v x0).2.1 (ze.v x0).2.2 (List.take (toNat 20 - toNat 0) (List.drop (toNat 0) (ze.s x0))) (ze.l x0) 0 (IntKind.i64.wrap (x2 - 1)) [] else false else if decide ((↑(length (ze.v x0).2.2):Int) > 45)=true then if (decide (0≤0)&&decide (0≤45)&&decide (45≤(↑(length (ze.v x0).2.2):Int)))=true then cF g c x1 (ze.op x0) (ze.v x0).1 (ze.v x0).2.1 (ze.v x0).2.2 (ze.s x0) [] 0 0 [] [] (ze.op x0) (ze.v x0).1 (ze.v x0).2.1 (List.take (toNat 45 - toNat 0) (List.drop (toNat 0) (ze.v x0).2.2)) (ze.s x0) (ze.l x0) 0 (IntKind.i64.wrap (x2 - 1)) [] else false else cF g c x1 (ze.op x0) (ze.v x0).1 (ze.v x0).2.1 (ze.v x0).2.2 (ze.s x0) [] 0 0 [] [] (ze.op x0) (ze.v x0).1 (ze.v x0).2.1 (ze.v x0).2.2 (ze.s x0) (ze.l x0) 0 (IntKind.i64.wrap (x2 - 1)) []
def zgm (g:Sem Sh.expr→Sem zg→Sem zg→Sem Sh.expr×Sem zg) (c:Sem Sh.expr→Sem zg→Sem zg→Bool):zD:=zC [Sh.expr,zg,zg] [Sh.expr,zg] (fun x=>D5 g c x.1 x.2.1 x.2.2.1) fun x=>((D4 g c x.1 x.2.1 x.2.2.1).1,(D4 g c x.1 x.2.1 x.2.2.1).2,())
theorem Vh (g:Sem Sh.expr→Sem zg→Sem zg→Sem Sh.expr×Sem zg) (c:Sem Sh.expr→Sem zg→Sem zg→Bool) (hg:FK 53 (zC [Sh.expr,zg,zg] [Sh.expr,zg] (fun x=>c x.1 x.2.1 x.2.2.1) fun x=>((g x.1 x.2.1 x.2.2.1).1,(g x.1 x.2.1 x.2.2.1).2,()))):FK 53 (zgm g c):=by
 refine zM (wo g c) fun x hc C hC=>?_
 unfold D5 at hc
 refine zk (uW hg) (wo g c) (fun id _=>hC id) (zc5 g c x.1 x.2.1 x.2.2.1) ?_
 generalize hy:D4 g c x.1 x.2.1 x.2.2.1=y
 unfold D4 at hy
 try simp only [ze.eta,zn]
 repeat' (first | with_reducible refine eY hy hc (fun _ hy hc=>?_) (fun _ hy hc=>?_) | with_reducible refine aR hy (fun _ hy=>?_) (fun _ hy=>?_) | with_reducible refine bm hc (fun hc=>?_) | with_reducible refine zr ?_)
 all_goals (subst hy; first | (change Reach _ _ _ _ _ _; apply Jr g c hg hC <;> first | assumption | exact hc) | rfl)
mutual
def jo:Nat→Sem Sh.expr→Sem zg→Sem zg→Sem Sh.expr×Sem zg
 | 0=>fun _ _ _=>default
 | n+1=>D4 (jo n) (pF n)
def pF:Nat→Sem Sh.expr→Sem zg→Sem zg→Bool
 | 0=>fun _ _ _=>false
 | n+1=>D5 (jo n) (pF n)
end
theorem KM:∀ n,FK 53 (zC [Sh.expr,zg,zg] [Sh.expr,zg] (fun x=>pF n x.1 x.2.1 x.2.2.1) fun x=>((jo n x.1 x.2.1 x.2.2.1).1,(jo n x.1 x.2.1 x.2.2.1).2,()))
 | 0=>cQ ⟨Tryz.f53,(wo default default).1,(wo default default).2.1,(wo default default).2.2.1⟩ (fun _=>rfl)
 | n+1=>Vh (jo n) (pF n) (KM n)
def F15:zD:=zC [Sh.expr,zg,zg] [Sh.expr,zg] (fun x=>pF 16 x.1 x.2.1 x.2.2.1) fun x=>((jo 16 x.1 x.2.1 x.2.2.1).1,(jo 16 x.1 x.2.1 x.2.2.1).2,())
theorem zaS:FK 53 F15:=KM 16

def eqL (g:ze→ze→Bool):List ze→List ze→Bool
 | x::r,y::s=>if (!g x y)=true then false else eqL g r s
 | _,_=>true
def QI (g c:ze→ze→Bool):List ze→List ze→Bool
 | x::r,y::s=>if c x y=true then (if (!g x y)=true then true else QI g c r s) else false
 | _,_=>true

noncomputable def JE (g c:ze→ze→Bool):bq:=DM.add 128 (zC [.expr,.expr] [.bool] (fun x=>c x.1 x.2.1) (fun x=>(g x.1 x.2.1,())))
theorem u5 {g c:ze→ze→Bool} (hg:FK 128 (zC [.expr,.expr] [.bool] (fun x=>c x.1 x.2.1) (fun x=>(g x.1 x.2.1,())))):zm (JE g c):=mY.add hg
abbrev zeh:Nat→zY:=fun j=>if j=4 then { slots:=[1,2,15,16,17] } else { }
abbrev I4 (l1:List ze) (l15:List ze) (i16:Int) (i17:Int):St:={ tmps:=(tm 32 [(1,AV.sl Sh.expr l1),(2,AV.clo (Fn.func 128) [] []),(15,AV.sl Sh.expr l15),(16,ai i16),(17,ai i17)]),heap:=[] }
theorem Q9 (g c:ze→ze→Bool):zA (JE g c).P 196 Tryz.f196 3:=aL (by kernel_rfl)
theorem zhs (g c:ze→ze→Bool) (l:List ze) (m:List ze):rn (JE g c) 0 zeh Tryz.f196 [AV.sl Sh.expr l,AV.sl Sh.expr m,AV.clo (Fn.func 128) [] []] []=Tr.br ((↑l.length:Int) != (↑m.length:Int)) (Tr.ok (zt.ret (AV.kb false) [])) (Tr.ok (zt.head 4 (zy Tryz.f196 4) (I4 m l (↑l.length:Int) 0))):=by kernel_rfl
theorem NF (g c:ze→ze→Bool) (l1:List ze) (l15:List ze) (i16:Int) (i17:Int):rh (JE g c) 0 zeh Tryz.f196 4 (I4 l1 l15 i16 i17)=Tr.br (decide (i17 < i16)) (Tr.chk (zF i17 l15.length) (Tr.chk (zF i17 l1.length) (Tr.chk (c (zB (l15.getD i17.toNat (zj Sh.expr))) (zB (l1.getD i17.toNat (zj Sh.expr)))) (Tr.br (!g (zB (l15.getD i17.toNat (zj Sh.expr))) (zB (l1.getD i17.toNat (zj Sh.expr)))) (Tr.ok (zt.ret (AV.kb false) [])) (Tr.ok (zt.head 4 (zy Tryz.f196 4) (I4 l1 l15 i16 (IntKind.i64.wrap (i17+1))))))))) (Tr.ok (zt.ret (AV.kb true) [])):=by kernel_rfl

theorem zgw {g c:ze→ze→Bool} (hg:FK 128 (zC [.expr,.expr] [.bool] (fun x=>c x.1 x.2.1) (fun x=>(g x.1 x.2.1,())))) {C:cr} (hC:∀ id,0≤id→C.ρ0 id=none) (l m:List ze) (hlm:l.length=m.length) (hl:l.length≤zE):
  ∀ (k i:Nat),l.length - i=k→i≤l.length→QI g c (l.drop i) (m.drop i)=true→Reach (JE g c) C 196 (zy Tryz.f196 4) (I4 m l l.length i) (fun r h=>(r,h)=(.kb (eqL g (l.drop i) (m.drop i)),[])):=by
 intro k
 induction k with
 | zero=>
  intro i hk hi hc
  obtain rfl:i=l.length:=by omega
  refine zk (u5 hg) (Q9 g c) hC (NF g c _ _ _ _) ?_
  simp only [ag,Tr.val_brF,dj]
  rfl
 | succ k IH=>
  intro i hk hi hc
  have hlt:i < l.length:=by omega
  have hlt':i < m.length:=by omega
  refine zk (u5 hg) (Q9 g c) hC (NF g c _ _ _ _) ?_
  rw [dB hlt,dB hlt'] at hc ⊢
  rw [QI] at hc
  have hc1:=nd hc
  simp only [zX hlt,zG hlt,zG hlt',ac l _ hlt,ac m _ hlt',ze.eta,Tr.val_brT,Tr.val_chkT,hc1.1,zH i (by omega)]
  refine j0 (fun h=>?_) (fun h=>?_)
  ·rw [eqL,if_pos h]; rfl
  ·rw [eqL,if_neg (kr h)]
   have h2:=hc1.2
   rw [if_neg (kr h)] at h2
   exact IH (i+1) (by omega) (by omega) h2

def QJ (g:ze→ze→Bool) (l m:List ze):Bool:=if ((↑l.length:Int) != (↑m.length:Int))=true then false else eqL g l m
def Ak (g c:ze→ze→Bool) (l m:List ze):Bool:=if ((↑l.length:Int) != (↑m.length:Int))=true then true else QI g c l m
def G50 (g c:ze→ze→Bool):cz [some (.sl .expr),some (.sl .expr),none]:=fun x h=>match x,h with
 | (l,m,.clo (.func 128) [] [],_),[]=>.chk (Ak g c l m) (.ok (.bool (QJ g l m),[]))
 | _,_=>.err
def F50 (g c:ze→ze→Bool):zD:=zS [some (.sl .expr),some (.sl .expr),none] (G50 g c)

theorem Reach.weaken {E:bq} {C:cr} {fn:FuncId} {todo:List Item} {st:St} {Q Q':AV→List AO→Prop} (h:Reach E C fn todo st Q) (hq:∀ r h,Q r h→∃ r',Q' r' h∧∀ w U ρ v,Rv w U ρ r v→Rv w U ρ r' v):Reach E C fn todo st Q':=by
 intro b cs a w U ρ h1 h2 hc hW
 obtain ⟨e,w',fr,⟨v,r,h',U',ρ',he,hq1,hrv,hrest⟩,hcm⟩:=h b cs a w U ρ h1 h2 hc hW
 obtain ⟨r',hq2,hrr⟩:=hq r h' hq1
 exact ⟨e,w',fr,⟨v,r',h',U',ρ',he,hq2,hrr _ _ _ _ hrv,hrest⟩,hcm⟩

theorem zbm {g c:ze→ze→Bool} (hg:FK 128 (zC [.expr,.expr] [.bool] (fun x=>c x.1 x.2.1) (fun x=>(g x.1 x.2.1,())))):FK 196 (F50 g c):=by
 refine bt (E:=JE g c) (Q9 g c) fun x h0 res hx C hC=>?_
 unfold G50 at hx
 split at hx
 ·rename_i l m u
  simp only [Tr.val] at hx
  split at hx
  ·rename_i hc
   simp only [aq] at hx
   subst hx
   refine Reach.len 0 .expr l rfl fun hl=>?_
   refine Reach.weaken (Q:=fun r h=>(r,h)=(.kb (QJ g l m),[])) ?_ ?_
   ·refine zk (n0:=0) (u5 hg) (Q9 g c) hC (zhs g c l m) ?_
    unfold Ak at hc
    unfold QJ
    refine j0 (fun h=>?_) (fun h=>?_)
    ·rw [if_pos h]; rfl
    ·rw [if_neg (kr h)] at hc ⊢
     have:(l.length:Int)=m.length:=by simpa using h
     have:l.length=m.length:=by omega
     exact zgw hg hC l m this hl _ 0 rfl (aE _) hc
   ·rintro r h hq
    cases hq
    refine ⟨_,rfl,fun w U ρ v hv=>?_⟩
    cases hv
    exact .bool _
  ·simp at hx
 ·simp at hx

noncomputable def QE (g c:ze→ze→Bool):bq:=DM.add 196 (F50 g c)
theorem Lu {g c:ze→ze→Bool} (hg:FK 128 (zC [.expr,.expr] [.bool] (fun x=>c x.1 x.2.1) (fun x=>(g x.1 x.2.1,())))):zm (QE g c):=mY.add (zbm hg)
def eqV (a b:V):Bool:=a.1==b.1&&(a.2.1==b.2.1&&(a.2.2==b.2.2&&true))
def OA (g:ze→ze→Bool) (a b:ze):Bool:=bif a.op==b.op then bif eqV a.v b.v then bif a.s==b.s then QJ g a.l b.l else false else false else false
def CJ (g c:ze→ze→Bool) (a b:ze):Bool:=bif a.op==b.op then bif eqV a.v b.v then bif a.s==b.s then Ak g c a.l b.l else true else true else true
theorem Nu (g c:ze→ze→Bool):zA (QE g c).P 128 Tryz.f128 2:=aL (by kernel_rfl)
theorem zg9 (g c:ze→ze→Bool) (l:ze) (m:ze):rn (QE g c) 0 (fun _=>{}) Tryz.f128 [zz Sh.expr l,zz Sh.expr m] []=Tr.chk (CJ g c l m) (Tr.ok (zt.ret (AV.bool (OA g l m)) [])):=by kernel_rfl
theorem Vv {g c:ze→ze→Bool} (hg:FK 128 (zC [.expr,.expr] [.bool] (fun x=>c x.1 x.2.1) (fun x=>(g x.1 x.2.1,())))):FK 128 (zC [.expr,.expr] [.bool] (fun x=>CJ g c x.1 x.2.1) (fun x=>(OA g x.1 x.2.1,()))):=by
 refine zM (E:=QE g c) (Nu g c) fun x hx C hC=>?_
 refine zk (n0:=0) (Lu hg) (Nu g c) (fun id _=>hC id) (zg9 g c x.1 x.2.1) ?_
 exact cP hx rfl
mutual
def sG:Nat→ze→ze→Bool
 | 0=>fun _ _=>false
 | n+1=>OA (sG n)
def ld:Nat→ze→ze→Bool
 | 0=>fun _ _=>false
 | n+1=>CJ (sG n) (ld n)
end
theorem KO:∀ n,FK 128 (zC [.expr,.expr] [.bool] (fun x=>ld n x.1 x.2.1) (fun x=>(sG n x.1 x.2.1,())))
 | 0=>cQ ⟨Tryz.f128,(Nu (fun _ _=>false) (fun _ _=>false)).1,(Nu (fun _ _=>false) (fun _ _=>false)).2.1,(Nu (fun _ _=>false) (fun _ _=>false)).2.2.1⟩ (fun _=>rfl)
 | n+1=>Vv (KO n)
def F29:zD:=zC [.expr,.expr] [.bool] (fun x=>ld 16 x.1 x.2.1) (fun x=>(sG 16 x.1 x.2.1,()))
theorem za2:FK 128 F29:=KO 16

noncomputable def HE:=DM.addL [(53,F15),(128,F29)]
theorem yO:zm HE:=mY.addL <| fc zaS <| fc za2 gZ
end Cad
