/- The library's functions. Functions from plain data to plain data, where a guard holds; recursion. Values: what may be. Values: what they say. Loops; values in order. Values: order, equal, sums. Values: less; bounded ones. Bounded rows, bounded columns. What is total; lists of types. Names, places. Names, types. Expressions: their types. Expressions: bounded ones; the same ones. -/
import Derived.Test.YtiefilkilbdpgaaGreatDoorK07
import Derived.Test.YtiefilkilbdpgaaGreatDoorK08
import Derived.Test.YtiefilkilbdpgaaGreatDoorK06
namespace Cad
open Go Go.Proofs Go.RowKit Go.Lib
open Int (toNat)
open List (length)

theorem iN.below {w w':World} (h:Below w.heap.size w w'):iN w w':=
 ⟨h.size,h.os,h.output,h.tape,fun a ha=>Ax (h.block a.block ha)⟩

theorem eB {E:bb} {C:cd} {w w':World} {U:Nat→Prop} {r:AV} {v:Value} {h0:List AO} {ρ:Nat→Option Value} (hH:fQ C w U ρ (fun j=>h0.getD j .dead)) (hnew:∀ id,h0.length≤id→ρ id=none)
  (hr0:∀ id v,C.ρ0 id=some v→ρ id=some v) (hW:Wd E.gl C w U) (hb:Below w.heap.size w w') (hr:Rv w' U ρ r v):Hr E C (fun r' h=>(r',h)=(r,h0)) (.returned v) w':=by
 have hk:∀ b,b < w.heap.size→w'.heap[b]?=w.heap[b]?:=hb.block
 refine ⟨v,r,h0,U,ρ,rfl,rfl,hr,⟨fun id=>?_,hH.inj,hH.blk⟩,hnew,hr0,⟨hW.ext.trans (iN.below hb),fun b hb' hn=>?_,fun b hu=>km (hW.ub b hu) hb.size,hW.u1,hW.u2,fun g=>?_⟩⟩
 ·exact (hH.ob id).mono hb.size (fun b hb' _=>hk b hb') (fun _ _ h=>h) (fun _ _ h=>h) (fun b ho=>⟨hk b ((hH.ob id).inU ho).2,((hH.ob id).inU ho).1⟩)
 ·rw [hk b (km hb' hW.ext.sz)]; exact hW.same b hb' hn
 ·exact (hW.gl g).mono hb.size (fun b hb' _=>hk b hb') (fun _ _ h=>h) (fun _ _ h=>h)

noncomputable def RV:bb:=Gd.aut 172 Tryz.f172 1
theorem ZG:zz Gd.P 172 Tryz.f172 1:=aG (by kernel_rfl)
theorem H6:zm RV:=gC A6 ZG

def Jp (c:Int):Bool:=bif decide (c < 32) then true else decide (c > 126)

theorem zbZ (c:Int):((zP (List.replicate 1 none) (bH Gd Tryz.f172 (List.replicate 1 none))) [.int .i32 c] (fun _=>.dead) 0).val=some { val:=.bool (Jp c) }:=by kernel_rfl

theorem TN (w:World) (U:Nat→Prop) (hgl:u9 Gd.gl w U) (hub:∀ b,U b→b < w.heap.size):PredGrows Tryz.prog 172 #[] (fun r=>Jp r) w:=by
 intro W x hx hB
 have hF:FK 172 (zP (List.replicate 1 none) (bH Gd Tryz.f172 (List.replicate 1 none))):=ac _ A6 ZG
 have hr:ce W U (fun _=>none) [.int .i32 (x:Int)] [.int .i32 (x:Int)]:=by
  refine ⟨rfl,fun j c v hc hv=>?_⟩
  cases j with
  | zero=>
   simp at hc hv; subst hc; subst hv
   refine .int _ _ ⟨?_,?_⟩
   ·show (-2147483648:Int)≤x; omega
   ·show (x:Int)≤2147483647; omega
  | succ j=>simp at hc
 have:=(hF.calls W U (fun _=>none) (fun _=>.dead) 0 [.int .i32 (x:Int)] [.int .i32 (x:Int)] _ [] (zbZ x) hr (fun b hb=>km (hub b hb) hB.size) (fun g=>(hgl g).mono hB.size (fun b hb _=>hB.block b hb) (fun _ _ h=>h) (fun _ _ h=>h)) ⟨by simp,by simp⟩ (by simp [AV.idsL,AV.ids]) (by simp) (by simp)).1
 refine this.mono ?_
 rintro e w' ⟨v,U',ρ',rfl,hef⟩
 have hv:=hef.val
 cases hv
 exact ⟨rfl,⟨hef.ext.os,hef.ext.tape,hef.ext.out,hef.ext.sz,fun b hb=>hef.same b hb (by simp)⟩⟩

def w8 (s:zq):Int:=Lib.idxFunc (fun r=>Jp r) true ⟨s.toArray⟩

def G36:cg [some .str,none]:=fun x h=>match x,h with
 | (s,.clo (.func 172) [] [],_),[]=>.ok (.int .i64 (w8 s),[])
 | _,_=>.err

theorem zbE:Go.Proofs.Enters Tryz.prog 172:=by
  cases hb:Tryz.f172.body with
  | none => have:Tryz.f172.body.isNone=false:=by kernel_rfl
            rw [hb] at this; cases this
  | some c=>exact Go.Proofs.enters_of (fn:=Tryz.f172) (by kernel_rfl) (by kernel_rfl) hb

theorem V9:FK 173 (zP [some .str,none] G36):=by
 refine eE (E:=RV) ⟨Tryz.f173,by kernel_rfl,by kernel_rfl,by kernel_rfl⟩ fun x h0 res hx=>?_
 unfold G36 at hx
 split at hx
 ·rename_i s u
  simp only [Tr.val_ok,ae] at hx
  subst hx
  intro C w U ρ vals _ hr hH hnew hr0 hW
  have hl:=hr.len
  match vals,hl,hr with
  | [v1,v2],_,hr=>
   have h1:=hr.rv 0 (.str s) v1 rfl rfl
   have h2:=hr.rv 1 (.clo (.func 172) [] []) v2 rfl rfl
   cases h1 with
   | str _ hs=>
   cases h2 with
   | clo _ _ _ vf vc hf hc _ _=>
   have hf':vf=[]:=Aw hf.symm
   have hc':vc=[]:=Aw hc.symm
   subst hf'; subst hc'
   have:=Tryz.strings_IndexFunc_grows 172 #[] zbE (fun r=>Jp r) ⟨s.toArray⟩ w (TN w U hW.gl hW.ub)
   refine this.mono ?_
   rintro e w' ⟨rfl,hb⟩
   refine eB hH hnew hr0 hW hb (.int _ _ ?_)
   have hrg:=Lib.idxFunc_range (fun r=>Jp r) true ⟨s.toArray⟩
   have hsz:(⟨s.toArray⟩:ByteArray).size=s.length:=by simp [ByteArray.size]
   have hm:zD=9223372036854775807:=rfl
   rw [hsz] at hrg
   change w8 s=-1∨(0≤w8 s∧w8 s < s.length) at hrg
   refine ⟨?_,?_⟩
   ·show (-9223372036854775808:Int)≤_; omega
   ·show _≤(9223372036854775807:Int); omega
 ·simp at hx

noncomputable def nP:bb:=RV.add 173 (zP [some .str,none] G36)
theorem gW:zm nP:=H6.add V9
open Go

def fP (ks outs:List Sh) (c:zu (ks.map some)→Bool) (g:zu (ks.map some)→zu (outs.map some)):cg (ks.map some):=fun x h=>match h with
 | []=>.chk (c x) (.ok (qA outs (g x),[]))
 | _=>.err

def zA (ks outs:List Sh) (c:zu (ks.map some)→Bool) (g:zu (ks.map some)→zu (outs.map some)):zB:=zP (ks.map some) (fP ks outs c g)

theorem zM {P:Program} {gl:Nat→AV} {E:bb} {k:FuncId} {f:Func} {ks outs:List Sh} {c:zu (ks.map some)→Bool} {g:zu (ks.map some)→zu (outs.map some)} (hf:zz E.P k f ks.length)
  (h:∀ x,c x=true→∀ C:cd,(∀ id,C.ρ0 id=none)→Reach E C k (ao f) (zU f.ntmps (fv (ks.map some) x) []) (fun r h=>zY h outs r=some (g x))) (qp:E.P=P:=by rfl) (qg:E.gl=gl:=by rfl):kJ P gl k (zA ks outs c g):=by
 subst qp qg
 refine bc (by simpa using hf) fun x h0 res hx C hC=>?_
 unfold fP at hx
 split at hx
 ·simp only [Tr.val] at hx
  split at hx
  ·rename_i hc
   simp only [ae] at hx
   subst hx
   exact Reach.plain (fun id=>hC id (by simp)) (h x hc C (fun id=>hC id (by simp)))
  ·simp at hx
 ·simp at hx

theorem xx {P:Program} {gl:Nat→AV} {k:FuncId} {kinds:List (Option Sh)} {ι:Type} [Nonempty ι] {G:cg kinds} {Gs:ι→cg kinds} (h:∀ i,kJ P gl k (zP kinds (Gs i)))
  (hg:∀ x h0 res,(G x h0).val=some res→∃ i,(Gs i x h0).val=some res):kJ P gl k (zP kinds G):=by
 refine ⟨(h (Classical.choice inferInstance)).fn,?_⟩
 intro w U ρ hp n args vals f fp hv
 have:∃ i,(zP kinds (Gs i) args hp n).val=some f:=by
  unfold zP at hv ⊢
  split at hv
  ·rename_i ps hps
   simp only at hv ⊢
   split at hv
   ·rename_i hcond
    split at hv
    ·rename_i xs hxs
     simp only [Tr.val_bind,dT] at hv
     obtain ⟨res,h1,h2⟩:=hv
     obtain ⟨i,hi⟩:=hg _ _ _ h1
     exact ⟨i,by simp only [hcond,if_true,Tr.val_bind,dT]; exact ⟨res,hi,h2⟩⟩
    ·simp at hv
   ·simp at hv
  ·simp at hv
 obtain ⟨i,hi⟩:=this
 exact (h i).calls w U ρ hp n args vals f fp hi

def E4 (ks outs:List Sh) (g:zu (ks.map some)→zu (outs.map some)):cg (ks.map some):=fun x h=>match h with
 | []=>.ok (qA outs (g x),[])
 | _=>.err

def zX (ks outs:List Sh) (g:zu (ks.map some)→zu (outs.map some)):zB:=zP (ks.map some) (E4 ks outs g)

theorem OD {P:Program} {gl:Nat→AV} {k:FuncId} {ks outs:List Sh} {g:zu (ks.map some)→zu (outs.map some)} (h:kJ P gl k (zA ks outs (fun _=>true) g)):kJ P gl k (zX ks outs g):=by
 refine xx (ι:=Unit) (Gs:=fun _=>fP ks outs (fun _=>true) g) (fun _=>h) fun x h0 res hv=>⟨(),?_⟩
 unfold E4 at hv
 unfold fP
 split at hv
 ·simpa [Tr.val] using hv
 ·simp at hv

theorem zO {P:Program} {gl:Nat→AV} {E:bb} {k:FuncId} {f:Func} {ks outs:List Sh} {g:zu (ks.map some)→zu (outs.map some)} (hf:zz E.P k f ks.length)
  (h:∀ x,∀ C:cd,(∀ id,C.ρ0 id=none)→Reach E C k (ao f) (zU f.ntmps (fv (ks.map some) x) []) (fun r h=>zY h outs r=some (g x))) (qp:E.P=P:=by rfl) (qg:E.gl=gl:=by rfl):kJ P gl k (zX ks outs g):=by
 subst qp qg
 exact OD (zM hf fun x _ C hC=>h x C hC)

def EC (outs:List Sh):zp→Option (zu (outs.map some))
 | .ret v h=>zY h outs v
 | _=>none

theorem Tr.sat_of_res {E:bb} {C:cd} {fn:FuncId} {outs:List Sh} {y:zu (outs.map some)} {t:Tr zp} (h:t.val.bind (EC outs)=some y):t.Sat (gm E C fn (fun r h=>zY h outs r=some y)):=by
 rw [dT] at h
 obtain ⟨l,h1,h2⟩:=h
 refine Tr.sat_of_val h1 ?_
 cases l with
 | ret v h=>exact h2
 | head _ _ _=>cases h2
 | fork _ _ _ _=>cases h2

theorem aq {E:bb} {C:cd} {k:FuncId} {f:Func} {outs:List Sh} {y:zu (outs.map some)} {n n0:Nat} (hE:zm E) (hf:zz E.P k f n) (hC:∀ id,n0≤id→C.ρ0 id=none) {keep:Nat→zT} {fuel:Nat}
  {todo:List Item} {st:St} {t:Tr zp} (ht:run E n0 keep f.results.toList fuel todo st=t) (h:t.val.bind (EC outs)=some y):Reach E C k todo st (fun r h=>zY h outs r=some y):=by
 refine ch hE hf hC keep fuel ?_
 rw [ht]
 exact Tr.sat_of_res h

theorem ze.eta:∀ e:ze,ze.mk e.op e.v e.s e.l=e
 | .mk _ _ _ _=>rfl

structure As (E E0:bb):Prop where
 p:E.P=E0.P
 g:E.gl=E0.gl

theorem As.refl (E:bb):As E E:=⟨rfl,rfl⟩
theorem As.add {E E0:bb} (h:As E E0) (k:FuncId) (F:zB):As (E.add k F) E0:=⟨h.p,h.g⟩
abbrev zC (e:ze):ze:=.mk e.op e.v e.s e.l
theorem zt (e:ze):zC e=e:=ze.eta e
open Go Go.Proofs
abbrev TS:=Sem Sh.str
abbrev LX:=List (Sem Sh.expr)
abbrev LC:=List (Sem zi)
abbrev LS:=List (Sem Sh.str)
abbrev LV:=List (Sem zf)
abbrev LI:=List (Sem zg)
abbrev LF:=List (Sem zo)

abbrev V:=Sem zf

def gT (x0:Sem zf):Sem Sh.bool:=if (x0.1==0)=true then if (x0.2.1 != 0)=true then false else x0.2.2==[] else if (x0.1==1)=true then x0.2.2==[] else if (x0.1==2)=true then bif x0.2.1==0 then bif decide ((↑(length x0.2.2):Int)≤40) then decide (w8 x0.2.2 < 0) else false else false else if (x0.1==3)=true then bif x0.2.1==0 then x0.2.2==[] else bif x0.2.1==1 then x0.2.2==[] else false else false
theorem Zz:zz nP.P 94 Tryz.f94 1:=aG (by kernel_rfl)
theorem zbP (x0:Sem zf):rn nP 0 (fun _=>{ }) Tryz.f94 [zy zf x0] []=Tr.br (x0.1==0) (Tr.br (x0.2.1 != 0) (Tr.ok (zp.ret (AV.kb false) [])) (Tr.ok (zp.ret (AV.bool (x0.2.2==[])) []))) (Tr.br (x0.1==1) (Tr.ok (zp.ret (AV.bool (x0.2.2==[])) [])) (Tr.br (x0.1==2) (Tr.ok (zp.ret (AV.bool (bif x0.2.1==0 then bif decide ((↑(length x0.2.2):Int)≤40) then decide (w8 x0.2.2 < 0) else false else false)) [])) (Tr.br (x0.1==3) (Tr.ok (zp.ret (AV.bool (bif x0.2.1==0 then x0.2.2==[] else bif x0.2.1==1 then x0.2.2==[] else false)) [])) (Tr.ok (zp.ret (AV.kb false) []))))):=by kernel_rfl
def F21:zB:=zX [zf] [Sh.bool] fun x=>(gT x.1,())
theorem VZ:FK 94 F21:=by
 refine zO Zz fun x C hC=>?_
 refine aq gW Zz (fun id _=>hC id) (zbP x.1) ?_
 simp only [Tr.val,gT]
 repeat' split
 all_goals rfl

def aA (x0:Sem zg):Sem zf:=if (x0==0)=true then (0,0,[]) else (3,IntKind.i64.wrap (x0 - 1),[])
theorem Z0:zz nP.P 206 Tryz.f206 1:=aG (by kernel_rfl)
theorem zci (x0:Sem zg):rn nP 0 (fun _=>{ }) Tryz.f206 [zy zg x0] []=Tr.br (x0==0) (Tr.ok (zp.ret (AV.agg [ai 0,ai 0,AV.str []]) [])) (Tr.ok (zp.ret (AV.agg [ai 3,ai (IntKind.i64.wrap (x0 - 1)),AV.str []]) [])):=by kernel_rfl
def F57:zB:=zX [zg] [zf] fun x=>(aA x.1,())
theorem Wv:FK 206 F57:=by
 refine zO Z0 fun x C hC=>?_
 refine aq gW Z0 (fun id _=>hC id) (zci x.1) ?_
 simp only [Tr.val,aA]
 repeat' split
 all_goals rfl

noncomputable def Uk:zB:=zP (List.replicate 1 none) (bH nP Tryz.f174 (List.replicate 1 none))
theorem PP:FK 174 Uk:=ac _ gW (aG (by kernel_rfl))

noncomputable def Ul:zB:=zP (List.replicate 1 none) (bH nP Tryz.f175 (List.replicate 1 none))
theorem PQ:FK 175 Ul:=ac _ gW (aG (by kernel_rfl))

noncomputable def Um:zB:=zP (List.replicate 1 none) (bH nP Tryz.f176 (List.replicate 1 none))
theorem PR:FK 176 Um:=ac _ gW (aG (by kernel_rfl))

noncomputable def iB:=nP.addL [(94,F21),(206,F57),(174,Uk),(175,Ul),(176,Um)]
theorem fy:zm iB:=gW.addL <| fc VZ <| fc Wv <| fc PP <| fc PQ <| fc PR g6

def bg (x0:Sem zf):Sem zf:=if (!gT x0)=true then (0,0,[]) else x0
theorem Z4:zz iB.P 95 Tryz.f95 1:=aG (by kernel_rfl)
theorem zcm (x0:Sem zf):rn iB 0 (fun _=>{ }) Tryz.f95 [zy zf x0] []=Tr.br (!gT x0) (Tr.ok (zp.ret (AV.agg [ai 0,ai 0,AV.str []]) [])) (Tr.ok (zp.ret (AV.agg [ai x0.1,ai x0.2.1,AV.str x0.2.2]) [])):=by kernel_rfl
def F61:zB:=zX [zf] [zf] fun x=>(bg x.1,())
theorem WC:FK 95 F61:=by
 refine zO Z4 fun x C hC=>?_
 refine aq fy Z4 (fun id _=>hC id) (zcm x.1) ?_
 simp only [Tr.val,bg]
 repeat' split
 all_goals rfl

def dA (x0:Sem zf):Sem zg:=if (bif x0.1 != 3 then true else !gT x0)=true then 0 else IntKind.i64.wrap (1+x0.2.1)
theorem ZZ:zz iB.P 205 Tryz.f205 1:=aG (by kernel_rfl)
theorem zch (x0:Sem zf):rn iB 0 (fun _=>{ }) Tryz.f205 [zy zf x0] []=Tr.br (bif x0.1 != 3 then true else !gT x0) (Tr.ok (zp.ret (ai 0) [])) (Tr.ok (zp.ret (ai (IntKind.i64.wrap (1+x0.2.1))) [])):=by kernel_rfl
def F56:zB:=zX [zf] [zg] fun x=>(dA x.1,())
theorem Wu:FK 205 F56:=by
 refine zO ZZ fun x C hC=>?_
 refine aq fy ZZ (fun id _=>hC id) (zch x.1) ?_
 simp only [Tr.val,dA]
 repeat' split
 all_goals rfl

def cI (x0:Sem Sh.bool):Sem zf:=if x0=true then aA 2 else aA 1
theorem Z2:zz iB.P 208 Tryz.f208 1:=aG (by kernel_rfl)
theorem zck (x0:Sem Sh.bool):rn iB 0 (fun _=>{ }) Tryz.f208 [zy Sh.bool x0] []=Tr.br x0 (Tr.ok (zp.ret (AV.agg [ai (aA 2).1,ai (aA 2).2.1,AV.str (aA 2).2.2]) [])) (Tr.ok (zp.ret (AV.agg [ai (aA 1).1,ai (aA 1).2.1,AV.str (aA 1).2.2]) [])):=by kernel_rfl
def F59:zB:=zX [Sh.bool] [zf] fun x=>(cI x.1,())
theorem Wx:FK 208 F59:=by
 refine zO Z2 fun x C hC=>?_
 refine aq fy Z2 (fun id _=>hC id) (zck x.1) ?_
 simp only [Tr.val,cI]
 repeat' split
 all_goals rfl

def FP (x0:Sem zg) (x1:Sem zg):Sem zg:=if (x0 != x0)=true then if (x1 != x1)=true then 0 else -1 else if (x1 != x1)=true then 1 else if decide (x0 < x1)=true then -1 else if decide (x0 > x1)=true then 1 else 0
theorem Z6:zz iB.P 97 Tryz.f97 2:=aG (by kernel_rfl)
theorem zcq (x0:Sem zg) (x1:Sem zg):rn iB 0 (fun _=>{ }) Tryz.f97 [zy zg x0,zy zg x1] []=Tr.br (x0 != x0) (Tr.br (x1 != x1) (Tr.ok (zp.ret (ai 0) [])) (Tr.ok (zp.ret (ai (-1)) []))) (Tr.br (x1 != x1) (Tr.ok (zp.ret (ai 1) [])) (Tr.br (decide (x0 < x1)) (Tr.ok (zp.ret (ai (-1)) [])) (Tr.br (decide (x0 > x1)) (Tr.ok (zp.ret (ai 1) [])) (Tr.ok (zp.ret (ai 0) []))))):=by kernel_rfl
def F71:zB:=zX [zg,zg] [zg] fun x=>(FP x.1 x.2.1,())
theorem WK:FK 97 F71:=by
 refine zO Z6 fun x C hC=>?_
 refine aq fy Z6 (fun id _=>hC id) (zcq x.1 x.2.1) ?_
 simp only [Tr.val,FP]
 repeat' split
 all_goals rfl

def wc (x0:Sem zg) (x1:Sem zg):Sem zg:=if (x0 != x0)=true then if (x1 != x1)=true then 0 else -1 else if (x1 != x1)=true then 1 else if decide (x0 < x1)=true then -1 else if decide (x0 > x1)=true then 1 else 0
theorem Z7:zz iB.P 98 Tryz.f98 2:=aG (by kernel_rfl)
theorem zcr (x0:Sem zg) (x1:Sem zg):rn iB 0 (fun _=>{ }) Tryz.f98 [zy zg x0,zy zg x1] []=Tr.br (x0 != x0) (Tr.br (x1 != x1) (Tr.ok (zp.ret (ai 0) [])) (Tr.ok (zp.ret (ai (-1)) []))) (Tr.br (x1 != x1) (Tr.ok (zp.ret (ai 1) [])) (Tr.br (decide (x0 < x1)) (Tr.ok (zp.ret (ai (-1)) [])) (Tr.br (decide (x0 > x1)) (Tr.ok (zp.ret (ai 1) [])) (Tr.ok (zp.ret (ai 0) []))))):=by kernel_rfl
def F72:zB:=zX [zg,zg] [zg] fun x=>(wc x.1 x.2.1,())
theorem WL:FK 98 F72:=by
 refine zO Z7 fun x C hC=>?_
 refine aq fy Z7 (fun id _=>hC id) (zcr x.1 x.2.1) ?_
 simp only [Tr.val,wc]
 repeat' split
 all_goals rfl

def xI (x0:Sem Sh.str) (x1:Sem Sh.str):Sem zg:=if (!x0==x0)=true then if (!x1==x1)=true then 0 else -1 else if (!x1==x1)=true then 1 else if Op.bytesLess x0 x1=true then -1 else if (!(Op.bytesLess x0 x1||x0==x1))=true then 1 else 0
theorem Z8:zz iB.P 99 Tryz.f99 2:=aG (by kernel_rfl)
theorem zcs (x0:Sem Sh.str) (x1:Sem Sh.str):rn iB 0 (fun _=>{ }) Tryz.f99 [zy Sh.str x0,zy Sh.str x1] []=Tr.br (!x0==x0) (Tr.br (!x1==x1) (Tr.ok (zp.ret (ai 0) [])) (Tr.ok (zp.ret (ai (-1)) []))) (Tr.br (!x1==x1) (Tr.ok (zp.ret (ai 1) [])) (Tr.br (Op.bytesLess x0 x1) (Tr.ok (zp.ret (ai (-1)) [])) (Tr.br (!(Op.bytesLess x0 x1||x0==x1)) (Tr.ok (zp.ret (ai 1) [])) (Tr.ok (zp.ret (ai 0) []))))):=by kernel_rfl
def F73:zB:=zX [Sh.str,Sh.str] [zg] fun x=>(xI x.1 x.2.1,())
theorem WM:FK 99 F73:=by
 refine zO Z8 fun x C hC=>?_
 refine aq fy Z8 (fun id _=>hC id) (zcs x.1 x.2.1) ?_
 simp only [Tr.val,xI]
 repeat' split
 all_goals rfl

noncomputable def gw:=iB.addL [(95,F61),(205,F56),(208,F59),(97,F71),(98,F72),(99,F73)]
theorem dk:zm gw:=fy.addL <| fc WC <| fc Wu <| fc Wx <| fc WK <| fc WL <| fc WM g6

theorem uv {E:bb} {C:cd} {k:FuncId} {f:Func} {Q:AV→List AO→Prop} {n n0:Nat} (hE:zm E) (hf:zz E.P k f n) (hC:∀ id,n0≤id→C.ρ0 id=none) {keep:Nat→zT} {fuel:Nat}
  {todo:List Item} {st:St} {t:Tr zp} {l:zp} (ht:run E n0 keep f.results.toList fuel todo st=t) (h:t.val=some l) (hl:gm E C k Q l):Reach E C k todo st Q:=
 ch hE hf hC keep fuel (by rw [ht]; exact Tr.sat_of_val h hl)

def eh {α:Type} (Φ:α→Prop):Option α→Prop
 | some a=>Φ a
 | none=>False

theorem zk {E:bb} {C:cd} {k:FuncId} {f:Func} {Q:AV→List AO→Prop} {n n0:Nat} (hE:zm E) (hf:zz E.P k f n) (hC:∀ id,n0≤id→C.ρ0 id=none) {keep:Nat→zT} {fuel:Nat}
  {todo:List Item} {st:St} {t:Tr zp} (ht:run E n0 keep f.results.toList fuel todo st=t) (h:eh (gm E C k Q) t.val):Reach E C k todo st Q:=by
 cases hv:t.val with
 | none=>rw [hv] at h; exact h.elim
 | some l=>rw [hv] at h; exact uv hE hf hC ht hv h

def Bk {α β R:Type} (f:β→Nat→α→β ⊕ R) (fin:β→R):List α→Nat→β→R
 | [],_,b=>fin b
 | x::r,i,b=>match f b i x with
  | .inl b'=>Bk f fin r (i+1) b'
  | .inr y=>y

def L1 {E:bb} {C:cd} {k:FuncId} {K:List Item} {β R:Type} (st:β→Nat→St) (Q:R→AV→List AO→Prop) (b:β) (i:Nat):β ⊕ R→Prop
 | .inl b'=>∀ q,Reach E C k K (st b' (i+1)) q→Reach E C k K (st b i) q
 | .inr y=>Reach E C k K (st b i) (Q y)

theorem uw {E:bb} {C:cd} {k:FuncId} {K:List Item} {α β R:Type} (l:List α) (st:β→Nat→St) (f:β→Nat→α→β ⊕ R) (fin:β→R) (Q:R→AV→List AO→Prop) (I:β→Nat→Prop)
  (hstep:∀ b i (hi:i < l.length),I b i→L1 (E:=E) (C:=C) (k:=k) (K:=K) st Q b i (f b i l[i])∧∀ b',f b i l[i]=.inl b'→I b' (i+1))
  (hend:∀ b,I b l.length→Reach E C k K (st b l.length) (Q (fin b))):∀ (m i:Nat) (b:β),l.length - i=m→i≤l.length→I b i→Reach E C k K (st b i) (Q (Bk f fin (l.drop i) i b))
 | 0,i,b,hm,hi,hI=>by
  have:i=l.length:=by omega
  subst this
  rw [dq]
  exact hend b hI
 | m+1,i,b,hm,hi,hI=>by
  have hlt:i < l.length:=by omega
  rw [ez hlt]
  obtain ⟨h1,h2⟩:=hstep b i hlt hI
  simp only [Bk]
  cases hf:f b i l[i] with
  | inl b'=>
   rw [hf] at h1
   exact h1 _ (uw l st f fin Q I hstep hend m (i+1) b' (by omega) (by omega) (h2 b' hf))
  | inr y=>
   rw [hf] at h1
   exact h1

theorem zV {i n:Nat} (h:i < n):decide ((i:Int) < (n:Int))=true:=by simpa using h
theorem af (n:Nat):decide ((n:Int) < (n:Int))=false:=by simp
theorem zF {i n:Nat} (h:i < n):zJ (i:Int) n=true:=by simp [zJ,h]

def PF:List Int→Int
 | []=>0
 | x::r=>if x != 0 then x else PF r

abbrev Zh:Nat→zT:=fun j=>if j=3 then { slots:=[3,6,7,8] } else { }
abbrev Fm (i3:Int) (l6:List (Sem zg)) (i7:Int) (i8:Int):St:={ tmps:=(tm 18 [(3,ai i3),(6,AV.sl (Sh.int IntKind.i64) l6),(7,ai i7),(8,ai i8)]),heap:=[] }
theorem JE:zz gw.P 96 Tryz.f96 1:=aG (by kernel_rfl)
theorem zcp (k:List (Sem zg)):rn gw 0 Zh Tryz.f96 [AV.sl zg k] []=Tr.ok (zp.head 3 (zw Tryz.f96 3) (Fm 0 k (↑k.length) 0)):=by kernel_rfl
theorem Dh (i3:Int) (l6:List (Sem zg)) (i7:Int) (i8:Int):rh gw 0 Zh Tryz.f96 3 (Fm i3 l6 i7 i8)=Tr.br (decide (i8 < i7)) (Tr.chk (zJ i8 l6.length) (Tr.br (l6.getD i8.toNat (zj (Sh.int IntKind.i64)) != i3) (Tr.ok (zp.ret (ai (l6.getD i8.toNat (zj (Sh.int IntKind.i64)))) [])) (Tr.ok (zp.head 3 (zw Tryz.f96 3) (Fm i3 l6 i7 (IntKind.i64.wrap (i8+1))))))) (Tr.ok (zp.ret (ai i3) [])):=by kernel_rfl

def f70:Unit→Nat→Int→Unit ⊕ Int:=fun _ _ x=>if x != 0 then .inr x else .inl ()
theorem Ip:∀ (l:List Int) (i:Nat),Bk f70 (fun _=>0) l i ()=PF l
 | [],_=>rfl
 | x::r,i=>by
  simp only [Bk,f70,PF]
  split
  ·rename_i h; split at h <;> simp_all [Ip r (i+1)]
  ·rename_i h; split at h <;> simp_all

def F70:zB:=zX [.sl zg] [zg] fun x=>(PF x.1,())
theorem WJ:FK 96 F70:=by
 refine zO JE fun x C hC=>?_
 obtain ⟨l,u⟩:=x
 refine Reach.len 0 zg l rfl fun hl=>?_
 refine uv dk JE (fun id _=>hC id) (zcp l) rfl ?_
 have:=uw (E:=gw) (C:=C) (k:=96) (K:=zw Tryz.f96 3) l (fun (_:Unit) i=>Fm 0 l l.length i) f70 (fun _=>(0:Int)) (fun y r h=>zY h [zg] r=some (y,())) (fun _ _=>True)
  (fun b i hi _=>⟨by
   unfold f70
   split
   ·rename_i h
    refine zk dk JE (fun id _=>hC id) (Dh _ _ _ _) ?_
    simp only [Tr.val,zV hi,zF hi,zZ l _ hi,h,if_true]
    rfl
   ·rename_i h
    intro q hq
    refine zk dk JE (fun id _=>hC id) (Dh _ _ _ _) ?_
    simp only [Tr.val,zV hi,zF hi,zZ l _ hi,h,if_true,zG i (by omega)]
    exact hq,fun _ _=>trivial⟩)
  (fun b _=>by
   refine zk dk JE (fun id _=>hC id) (Dh _ _ _ _) ?_
   simp only [Tr.val,af]
   rfl) _ 0 () rfl (by omega) trivial
 rw [Ip] at this
 exact this

def ja (x0:Sem zf) (x1:Sem zf):Sem Sh.bool:=bif (bg x0).1 != 0 then (bg x0).1==(bg x1).1 else false
theorem Z1:zz gw.P 207 Tryz.f207 2:=aG (by kernel_rfl)
theorem zcj (x0:Sem zf) (x1:Sem zf):rn gw 0 (fun _=>{ }) Tryz.f207 [zy zf x0,zy zf x1] []=Tr.ok (zp.ret (AV.bool (bif (bg x0).1 != 0 then (bg x0).1==(bg x1).1 else false)) []):=by kernel_rfl
def F58:zB:=zX [zf,zf] [Sh.bool] fun x=>(ja x.1 x.2.1,())
theorem Ww:FK 207 F58:=by
 refine zO Z1 fun x C hC=>?_
 refine aq dk Z1 (fun id _=>hC id) (zcj x.1 x.2.1) ?_
 simp only [Tr.val,ja]
 repeat' split
 all_goals rfl

def Nt (x0:Sem zf) (x1:Sem zf):Sem zf:=if (bif dA x0==1 then true else dA x1==1)=true then aA 1 else if (bif dA x0==2 then dA x1==2 else false)=true then aA 2 else aA 0
theorem ZH:zz gw.P 138 Tryz.f138 2:=aG (by kernel_rfl)
theorem zb1 (x0:Sem zf) (x1:Sem zf):rn gw 0 (fun _=>{ }) Tryz.f138 [zy zf x0,zy zf x1] []=Tr.br (bif dA x0==1 then true else dA x1==1) (Tr.ok (zp.ret (AV.agg [ai (aA 1).1,ai (aA 1).2.1,AV.str (aA 1).2.2]) [])) (Tr.br (bif dA x0==2 then dA x1==2 else false) (Tr.ok (zp.ret (AV.agg [ai (aA 2).1,ai (aA 2).2.1,AV.str (aA 2).2.2]) [])) (Tr.ok (zp.ret (AV.agg [ai (aA 0).1,ai (aA 0).2.1,AV.str (aA 0).2.2]) []))):=by kernel_rfl
def F38:zB:=zX [zf,zf] [zf] fun x=>(Nt x.1 x.2.1,())
theorem Wb:FK 138 F38:=by
 refine zO ZH fun x C hC=>?_
 refine aq dk ZH (fun id _=>hC id) (zb1 x.1 x.2.1) ?_
 simp only [Tr.val,Nt]
 repeat' split
 all_goals rfl

def vOr (x0:Sem zf) (x1:Sem zf):Sem zf:=if (bif dA x0==2 then true else dA x1==2)=true then aA 2 else if (bif dA x0==1 then dA x1==1 else false)=true then aA 1 else aA 0
theorem ZI:zz gw.P 139 Tryz.f139 2:=aG (by kernel_rfl)
theorem zb2 (x0:Sem zf) (x1:Sem zf):rn gw 0 (fun _=>{ }) Tryz.f139 [zy zf x0,zy zf x1] []=Tr.br (bif dA x0==2 then true else dA x1==2) (Tr.ok (zp.ret (AV.agg [ai (aA 2).1,ai (aA 2).2.1,AV.str (aA 2).2.2]) [])) (Tr.br (bif dA x0==1 then dA x1==1 else false) (Tr.ok (zp.ret (AV.agg [ai (aA 1).1,ai (aA 1).2.1,AV.str (aA 1).2.2]) [])) (Tr.ok (zp.ret (AV.agg [ai (aA 0).1,ai (aA 0).2.1,AV.str (aA 0).2.2]) []))):=by kernel_rfl
def F39:zB:=zX [zf,zf] [zf] fun x=>(vOr x.1 x.2.1,())
theorem Wc:FK 139 F39:=by
 refine zO ZI fun x C hC=>?_
 refine aq dk ZI (fun id _=>hC id) (zb2 x.1 x.2.1) ?_
 simp only [Tr.val,vOr]
 repeat' split
 all_goals rfl

def G3 (x0:Sem zf):Sem zf:=if (dA x0==2)=true then aA 1 else if (dA x0==1)=true then aA 2 else aA 0
theorem ZK:zz gw.P 141 Tryz.f141 1:=aG (by kernel_rfl)
theorem zb4 (x0:Sem zf):rn gw 0 (fun _=>{ }) Tryz.f141 [zy zf x0] []=Tr.br (dA x0==2) (Tr.ok (zp.ret (AV.agg [ai (aA 1).1,ai (aA 1).2.1,AV.str (aA 1).2.2]) [])) (Tr.br (dA x0==1) (Tr.ok (zp.ret (AV.agg [ai (aA 2).1,ai (aA 2).2.1,AV.str (aA 2).2.2]) [])) (Tr.ok (zp.ret (AV.agg [ai (aA 0).1,ai (aA 0).2.1,AV.str (aA 0).2.2]) []))):=by kernel_rfl
def F41:zB:=zX [zf] [zf] fun x=>(G3 x.1,())
theorem Wf:FK 141 F41:=by
 refine zO ZK fun x C hC=>?_
 refine aq dk ZK (fun id _=>hC id) (zb4 x.1) ?_
 simp only [Tr.val,G3]
 repeat' split
 all_goals rfl

def mt (x0:Sem zf):Sem zf:=cI ((bg x0).1==0)
theorem ZR:zz gw.P 147 Tryz.f147 1:=aG (by kernel_rfl)
theorem zca (x0:Sem zf):rn gw 0 (fun _=>{ }) Tryz.f147 [zy zf x0] []=Tr.ok (zp.ret (AV.agg [ai (cI ((bg x0).1==0)).1,ai (cI ((bg x0).1==0)).2.1,AV.str (cI ((bg x0).1==0)).2.2]) []):=by kernel_rfl
def F47:zB:=zX [zf] [zf] fun x=>(mt x.1,())
theorem Wl:FK 147 F47:=by
 refine zO ZR fun x C hC=>?_
 refine aq dk ZR (fun id _=>hC id) (zca x.1) ?_
 simp only [Tr.val,mt]
 repeat' split
 all_goals rfl

noncomputable def iC:=gw.addL [(96,F70),(207,F58),(138,F38),(139,F39),(141,F41),(147,F47)]
theorem fA:zm iC:=dk.addL <| fc WJ <| fc Ww <| fc Wb <| fc Wc <| fc Wf <| fc Wl g6

def aP (x0:Sem zf) (x1:Sem zf):Sem zg:=PF [FP (bg x0).1 (bg x1).1,wc (bg x0).2.1 (bg x1).2.1,xI (bg x0).2.2 (bg x1).2.2]
theorem Z3:zz iC.P 58 Tryz.f58 2:=aG (by kernel_rfl)
theorem zcl (x0:Sem zf) (x1:Sem zf):rn iC 0 (fun _=>{ }) Tryz.f58 [zy zf x0,zy zf x1] []=Tr.ok (zp.ret (AV.int IntKind.i64 (PF [FP (bg x0).1 (bg x1).1,wc (bg x0).2.1 (bg x1).2.1,xI (bg x0).2.2 (bg x1).2.2])) []):=by kernel_rfl
def F60:zB:=zX [zf,zf] [zg] fun x=>(aP x.1 x.2.1,())
theorem WB:FK 58 F60:=by
 refine zO Z3 fun x C hC=>?_
 refine aq fA Z3 (fun id _=>hC id) (zcl x.1 x.2.1) ?_
 simp only [Tr.val,aP]
 repeat' split
 all_goals rfl

def Ac (x0:Sem zf) (x1:Sem zf):Sem zf:=if (!ja x0 x1)=true then (0,0,[]) else cI (x0.1==x1.1&&(x0.2.1==x1.2.1&&(x0.2.2==x1.2.2&&true)))
theorem ZL:zz iC.P 142 Tryz.f142 2:=aG (by kernel_rfl)
theorem zb5 (x0:Sem zf) (x1:Sem zf):rn iC 0 (fun _=>{ }) Tryz.f142 [zy zf x0,zy zf x1] []=Tr.br (!ja x0 x1) (Tr.ok (zp.ret (AV.agg [ai 0,ai 0,AV.str []]) [])) (Tr.ok (zp.ret (AV.agg [ai (cI (x0.1==x1.1&&(x0.2.1==x1.2.1&&(x0.2.2==x1.2.2&&true)))).1,ai (cI (x0.1==x1.1&&(x0.2.1==x1.2.1&&(x0.2.2==x1.2.2&&true)))).2.1,AV.str (cI (x0.1==x1.1&&(x0.2.1==x1.2.1&&(x0.2.2==x1.2.2&&true)))).2.2]) [])):=by kernel_rfl
def F42:zB:=zX [zf,zf] [zf] fun x=>(Ac x.1 x.2.1,())
theorem Wg:FK 142 F42:=by
 refine zO ZL fun x C hC=>?_
 refine aq fA ZL (fun id _=>hC id) (zb5 x.1 x.2.1) ?_
 simp only [Tr.val,Ac]
 repeat' split
 all_goals rfl

def FB (x0:Sem zf) (x1:Sem zf):Sem zf:=if (bif !ja x0 x1 then true else x0.1 != 1)=true then (0,0,[]) else if (bif decide (x1.2.1 > 0) then bif decide (IntKind.i64.wrap (x0.2.1+x1.2.1) < x0.2.1) then true else bif decide (x1.2.1 < 0) then decide (IntKind.i64.wrap (x0.2.1+x1.2.1) > x0.2.1) else false else bif decide (x1.2.1 < 0) then decide (IntKind.i64.wrap (x0.2.1+x1.2.1) > x0.2.1) else false)=true then (0,0,[]) else (1,IntKind.i64.wrap (x0.2.1+x1.2.1),[])
theorem ZO:zz iC.P 144 Tryz.f144 2:=aG (by kernel_rfl)
theorem zb7 (x0:Sem zf) (x1:Sem zf):rn iC 0 (fun _=>{ }) Tryz.f144 [zy zf x0,zy zf x1] []=Tr.br (bif !ja x0 x1 then true else x0.1 != 1) (Tr.ok (zp.ret (AV.agg [ai 0,ai 0,AV.str []]) [])) (Tr.br (bif decide (x1.2.1 > 0) then bif decide (IntKind.i64.wrap (x0.2.1+x1.2.1) < x0.2.1) then true else bif decide (x1.2.1 < 0) then decide (IntKind.i64.wrap (x0.2.1+x1.2.1) > x0.2.1) else false else bif decide (x1.2.1 < 0) then decide (IntKind.i64.wrap (x0.2.1+x1.2.1) > x0.2.1) else false) (Tr.ok (zp.ret (AV.agg [ai 0,ai 0,AV.str []]) [])) (Tr.ok (zp.ret (AV.agg [ai 1,ai (IntKind.i64.wrap (x0.2.1+x1.2.1)),AV.str []]) []))):=by kernel_rfl
def F44:zB:=zX [zf,zf] [zf] fun x=>(FB x.1 x.2.1,())
theorem Wi:FK 144 F44:=by
 refine zO ZO fun x C hC=>?_
 refine aq fA ZO (fun id _=>hC id) (zb7 x.1 x.2.1) ?_
 simp only [Tr.val,FB]
 repeat' split
 all_goals rfl

def Ad (x0:Sem zf) (x1:Sem zf):Sem zf:=if (bif !ja x0 x1 then true else x0.1 != 1)=true then (0,0,[]) else if (bif decide (x1.2.1 > 0) then bif decide (IntKind.i64.wrap (x0.2.1 - x1.2.1) > x0.2.1) then true else bif decide (x1.2.1 < 0) then decide (IntKind.i64.wrap (x0.2.1 - x1.2.1) < x0.2.1) else false else bif decide (x1.2.1 < 0) then decide (IntKind.i64.wrap (x0.2.1 - x1.2.1) < x0.2.1) else false)=true then (0,0,[]) else (1,IntKind.i64.wrap (x0.2.1 - x1.2.1),[])
theorem ZP:zz iC.P 145 Tryz.f145 2:=aG (by kernel_rfl)
theorem zb8 (x0:Sem zf) (x1:Sem zf):rn iC 0 (fun _=>{ }) Tryz.f145 [zy zf x0,zy zf x1] []=Tr.br (bif !ja x0 x1 then true else x0.1 != 1) (Tr.ok (zp.ret (AV.agg [ai 0,ai 0,AV.str []]) [])) (Tr.br (bif decide (x1.2.1 > 0) then bif decide (IntKind.i64.wrap (x0.2.1 - x1.2.1) > x0.2.1) then true else bif decide (x1.2.1 < 0) then decide (IntKind.i64.wrap (x0.2.1 - x1.2.1) < x0.2.1) else false else bif decide (x1.2.1 < 0) then decide (IntKind.i64.wrap (x0.2.1 - x1.2.1) < x0.2.1) else false) (Tr.ok (zp.ret (AV.agg [ai 0,ai 0,AV.str []]) [])) (Tr.ok (zp.ret (AV.agg [ai 1,ai (IntKind.i64.wrap (x0.2.1 - x1.2.1)),AV.str []]) []))):=by kernel_rfl
def F45:zB:=zX [zf,zf] [zf] fun x=>(Ad x.1 x.2.1,())
theorem Wj:FK 145 F45:=by
 refine zO ZP fun x C hC=>?_
 refine aq fA ZP (fun id _=>hC id) (zb8 x.1 x.2.1) ?_
 simp only [Tr.val,Ad]
 repeat' split
 all_goals rfl

def FA (x0:Sem zf) (_:Sem zf):Sem zf:=G3 x0
theorem ZJ:zz iC.P 140 Tryz.f140 2:=aG (by kernel_rfl)
theorem zb3 (x0:Sem zf) (x1:Sem zf):rn iC 0 (fun _=>{ }) Tryz.f140 [zy zf x0,zy zf x1] []=Tr.ok (zp.ret (AV.agg [ai (G3 x0).1,ai (G3 x0).2.1,AV.str (G3 x0).2.2]) []):=by kernel_rfl
def F40:zB:=zX [zf,zf] [zf] fun x=>(FA x.1 x.2.1,())
theorem We:FK 140 F40:=by
 refine zO ZJ fun x C hC=>?_
 refine aq fA ZJ (fun id _=>hC id) (zb3 x.1 x.2.1) ?_
 simp only [Tr.val,FA]
 repeat' split
 all_goals rfl

def Ae (x0:Sem zf) (_:Sem zf):Sem zf:=mt x0
theorem ZQ:zz iC.P 146 Tryz.f146 2:=aG (by kernel_rfl)
theorem zb9 (x0:Sem zf) (x1:Sem zf):rn iC 0 (fun _=>{ }) Tryz.f146 [zy zf x0,zy zf x1] []=Tr.ok (zp.ret (AV.agg [ai (mt x0).1,ai (mt x0).2.1,AV.str (mt x0).2.2]) []):=by kernel_rfl
def F46:zB:=zX [zf,zf] [zf] fun x=>(Ae x.1 x.2.1,())
theorem Wk:FK 146 F46:=by
 refine zO ZQ fun x C hC=>?_
 refine aq fA ZQ (fun id _=>hC id) (zb9 x.1 x.2.1) ?_
 simp only [Tr.val,Ae]
 repeat' split
 all_goals rfl

noncomputable def mF:=iC.addL [(58,F60),(142,F42),(144,F44),(145,F45),(140,F40),(146,F46)]
theorem gX:zm mF:=fA.addL <| fc WB <| fc Wg <| fc Wi <| fc Wj <| fc We <| fc Wk g6

def Fy (x0:Sem zf) (x1:Sem zf):Sem zf:=if (!ja x0 x1)=true then (0,0,[]) else cI (decide (aP x0 x1 < 0))
theorem ZN:zz mF.P 143 Tryz.f143 2:=aG (by kernel_rfl)
theorem zb6 (x0:Sem zf) (x1:Sem zf):rn mF 0 (fun _=>{ }) Tryz.f143 [zy zf x0,zy zf x1] []=Tr.br (!ja x0 x1) (Tr.ok (zp.ret (AV.agg [ai 0,ai 0,AV.str []]) [])) (Tr.ok (zp.ret (AV.agg [ai (cI (decide (aP x0 x1 < 0))).1,ai (cI (decide (aP x0 x1 < 0))).2.1,AV.str (cI (decide (aP x0 x1 < 0))).2.2]) [])):=by kernel_rfl
def F43:zB:=zX [zf,zf] [zf] fun x=>(Fy x.1 x.2.1,())
theorem Wh:FK 143 F43:=by
 refine zO ZN fun x C hC=>?_
 refine aq gX ZN (fun id _=>hC id) (zb6 x.1 x.2.1) ?_
 simp only [Tr.val,Fy]
 repeat' split
 all_goals rfl

def B9 (x0:Sem zf):Sem zf:=if decide ((↑(length x0.2.2):Int) > 60)=true then (x0.1,x0.2.1,List.take (toNat 60 - toNat 0) (List.drop (toNat 0) x0.2.2)) else x0
def xp (x0:Sem zf):Bool:=bif decide ((↑(length x0.2.2):Int) > 60) then decide (0≤0)&&decide (0≤60)&&decide (60≤(↑(length x0.2.2):Int)) else true
theorem Zv:zz mF.P 54 Tryz.f54 1:=aG (by kernel_rfl)
theorem zbL (x0:Sem zf):rn mF 0 (fun _=>{ }) Tryz.f54 [zy zf x0] []=Tr.br (decide ((↑(length x0.2.2):Int) > 60)) (Tr.chk (decide (0≤0)&&decide (0≤60)&&decide (60≤(↑(length x0.2.2):Int))) (Tr.ok (zp.ret (AV.agg [ai x0.1,ai x0.2.1,AV.str (List.take (toNat 60 - toNat 0) (List.drop (toNat 0) x0.2.2))]) []))) (Tr.ok (zp.ret (AV.agg [ai x0.1,ai x0.2.1,AV.str x0.2.2]) [])):=by kernel_rfl
def F14:zB:=zA [zf] [zf] (fun x=>xp x.1) fun x=>(B9 x.1,())
theorem Ox:FK 54 F14:=by
 refine zM Zv fun x hx C hC=>?_
 refine aq gX Zv (fun id _=>hC id) (zbL x.1) ?_
 simp only [xp,Bool.cond_eq_ite] at hx
 simp only [Tr.val,B9]
 repeat' split
 all_goals first | rfl | simp_all

def uF (x0:Sem Sh.str):Sem Sh.str:=if decide ((↑(length x0):Int) > 20)=true then List.take (toNat 20 - toNat 0) (List.drop (toNat 0) x0) else x0
def Fo (x0:Sem Sh.str):Bool:=bif decide ((↑(length x0):Int) > 20) then decide (0≤0)&&decide (0≤20)&&decide (20≤(↑(length x0):Int)) else true
theorem Zu:zz mF.P 117 Tryz.f117 1:=aG (by kernel_rfl)
theorem zbJ (x0:Sem Sh.str):rn mF 0 (fun _=>{ }) Tryz.f117 [zy Sh.str x0] []=Tr.br (decide ((↑(length x0):Int) > 20)) (Tr.chk (decide (0≤0)&&decide (0≤20)&&decide (20≤(↑(length x0):Int))) (Tr.ok (zp.ret (AV.str (List.take (toNat 20 - toNat 0) (List.drop (toNat 0) x0))) []))) (Tr.ok (zp.ret (AV.str x0) [])):=by kernel_rfl
def F12:zB:=zA [Sh.str] [Sh.str] (fun x=>Fo x.1) fun x=>(uF x.1,())
theorem Ov:FK 117 F12:=by
 refine zM Zu fun x hx C hC=>?_
 refine aq gX Zu (fun id _=>hC id) (zbJ x.1) ?_
 simp only [Fo,Bool.cond_eq_ite] at hx
 simp only [Tr.val,uF]
 repeat' split
 all_goals first | rfl | simp_all

noncomputable def F79:zB:=zP (List.replicate 2 none) (bH mF Tryz.f251 (List.replicate 2 none))
theorem WO:FK 251 F79:=ac _ gX (aG (by kernel_rfl))

noncomputable def F18:zB:=zP (List.replicate 2 none) (bH mF Tryz.f93 (List.replicate 2 none))
theorem VY:FK 93 F18:=ac _ gX (aG (by kernel_rfl))

noncomputable def kz:=mF.addL [(143,F43),(54,F14),(117,F12),(251,F79),(93,F18)]
theorem fB:zm kz:=gX.addL <| fc Wh <| fc Ox <| fc Ov <| fc WO <| fc VY g6

theorem Reach.lenB {E:bb} {C:cd} {fn:FuncId} {todo:List Item} {st:St} {Q:AV→List AO→Prop} (id c:Nat) (e:Sh) (l:List (Sem e)) {cs:List AV} (h1:st.heap[id]?=some (.box cs)) (h2:cs[c]?=some (.sl e l)) (h:l.length≤zD→Reach E C fn todo st Q):Reach E C fn todo st Q:=by
 intro b cs' a w U ρ q1 q2 hc hW
 refine h ?_ b cs' a w U ρ q1 q2 hc hW
 have ho:=hc.hp.ob id
 rw [show st.hp id=.box cs by simp [St.hp,h1]] at ho
 obtain ⟨bk,T,vals,_,_,_,hr,_⟩:=ho
 have hlt:c < vals.toList.length:=by rw [← hr.len]; exact (bD.1 h2).1
 have:=hr.rv c _ _ h2 (zI hlt)
 generalize vals.toList[c]=v at this
 cases this with
 | sl0=>simp
 | sl _ _ _ _ _ _ _ hm=>exact hm

abbrev kp6:Nat→zT:=fun j=>if j=3 then { slots:=[0,3,4],prom:=[(3,none,zf)] } else { }
abbrev Ku (l0:List (Sem zf)) (i4:Int) (lh_0:List (Sem zf)):St:={ tmps:=(tm 24 [(0,AV.sl zf l0),(3,AV.vec 0),(4,ai i4)]),heap:=[AO.vec zf lh_0] }
theorem ok6:zz kz.P 28 Tryz.f28 1:=aG (by kernel_rfl)
theorem go6 (x0:Sem zf.sl):rn kz 0 kp6 Tryz.f28 [zy zf.sl x0] []=Tr.ok (zp.head 3 (zw Tryz.f28 3) (Ku x0 0 [])):=by kernel_rfl
theorem PD (l0:List (Sem zf)) (i4:Int) (lh_0:List (Sem zf)):rh kz 0 kp6 Tryz.f28 3 (Ku l0 i4 lh_0)=Tr.br (bif decide (i4 < (↑l0.length:Int)) then decide (i4 < 14) else false) (Tr.chk (zJ i4 l0.length) (Tr.chk (xp (l0.getD i4.toNat (zj zf))) (Tr.chk (decide (lh_0.length+[B9 (l0.getD i4.toNat (zj zf))].length≤1073741824)) (Tr.ok (zp.head 3 (zw Tryz.f28 3) (Ku l0 (IntKind.i64.wrap (i4+1)) (lh_0++[B9 (l0.getD i4.toNat (zj zf))]))))))) (Tr.ok (zp.ret (AV.vec 0) [AO.vec zf lh_0])):=by kernel_rfl
def iG:List (Sem zf)→Int→List (Sem zf)→Sem zf.sl
 | [],_,lh_0=>lh_0
 | x::r,i4,lh_0=>if decide (i4 < 14)=true then iG r (i4+1) (lh_0++[B9 x]) else lh_0
def fZ:List (Sem zf)→Int→List (Sem zf)→Bool
 | [],_,_=>true
 | x::r,i4,lh_0=>if decide (i4 < 14)=true then xp x&&(decide (lh_0.length+[B9 x].length≤1073741824)&&fZ r (i4+1) (lh_0++[B9 x])) else true
theorem Xz {C:cd} (hC:∀ id,C.ρ0 id=none) (l0:List (Sem zf)) (hl:l0.length≤zD):∀ (m i:Nat) (lh_0:List (Sem zf)),l0.length - i=m→i≤l0.length→fZ (l0.drop i) i lh_0=true→
  Reach kz C 28 (zw Tryz.f28 3) (Ku l0 (i:Int) lh_0) (fun r h=>zY h [zf.sl] r=some (iG (l0.drop i) i lh_0,())):=by
 intro m
 induction m with
 | zero=>
  intro i lh_0 hm hi hc
  obtain rfl:i=l0.length:=by omega
  rw [dq] at hc ⊢
  refine zk fB ok6 (fun id _=>hC id) (PD _ _ _) ?_
  simp only [fZ] at hc
  simp only [Tr.val,af,bS,iG]
  repeat' split
  all_goals first | rfl | simp_all
 | succ m IH=>
  intro i lh_0 hm hi hc
  have hlt:i < l0.length:=by omega
  have IH:=IH (i+1)
  have hcast:((i:Int)+1)=((i+1:Nat):Int):=by omega
  have hwr:=zG i (by omega)
  rw [ez hlt] at hc ⊢
  refine zk fB ok6 (fun id _=>hC id) (PD _ _ _) ?_
  simp only [fZ] at hc
  simp only [Tr.val,zV hlt,zF hlt,zZ l0 _ hlt,hwr,bG,if_true,iG]
  clear hwr
  (try simp only [hcast] at hc ⊢)
  repeat' split
  all_goals first | (change Reach _ _ _ _ _ _; apply IH <;> first | omega | assumption | (clear IH; simp_all)) | rfl | (clear IH; simp_all)
theorem RF {C:cd} (hC:∀ id,C.ρ0 id=none) (l0:List (Sem zf)) (lh_0:List (Sem zf)) (hc:fZ l0 0 lh_0=true):
  Reach kz C 28 (zw Tryz.f28 3) (Ku l0 0 lh_0) (fun r h=>zY h [zf.sl] r=some (iG l0 0 lh_0,())):=
 Reach.len 0 (zf) l0 rfl fun hl=>Xz hC l0 hl _ 0 lh_0 rfl (be _) hc
def fY (x0:Sem zf.sl):Sem zf.sl:=iG x0 0 []
def Jj (x0:Sem zf.sl):Bool:=fZ x0 0 []
def F6:zB:=zA [zf.sl] [zf.sl] (fun x=>Jj x.1) fun x=>(fY x.1,())
theorem WA:FK 28 F6:=by
 refine zM ok6 fun x hx C hC=>?_
 simp only [Jj] at hx
 refine zk fB ok6 (fun id _=>hC id) (go6 x.1) ?_
 simp only [Tr.val,fY]
 repeat' split
 all_goals first | (change Reach _ _ _ _ _ _; apply RF hC <;> first | assumption | simp_all) | rfl | simp_all

abbrev Y2:Nat→zT:=fun j=>if j=3 then { slots:=[0,3,4],prom:=[(3,none,zi)] } else { }
abbrev xk (l0:List (Sem zi)) (i4:Int) (lh_0:List (Sem zi)):St:={ tmps:=(tm 33 [(0,AV.sl zi l0),(3,AV.vec 0),(4,ai i4)]),heap:=[AO.vec zi lh_0] }
theorem MV:zz kz.P 26 Tryz.f26 1:=aG (by kernel_rfl)
theorem zbK (x0:Sem zi.sl):rn kz 0 Y2 Tryz.f26 [zy zi.sl x0] []=Tr.ok (zp.head 3 (zw Tryz.f26 3) (xk x0 0 [])):=by kernel_rfl
theorem JJ (l0:List (Sem zi)) (i4:Int) (lh_0:List (Sem zi)):rh kz 0 Y2 Tryz.f26 3 (xk l0 i4 lh_0)=Tr.br (bif decide (i4 < (↑l0.length:Int)) then decide (i4 < 9) else false) (Tr.chk (zJ i4 l0.length) (Tr.br (decide ((↑(length (l0.getD i4.toNat (zj zi)).1):Int) > 20)) (Tr.chk (decide (0≤0)&&decide (0≤20)&&decide (20≤(↑(length (l0.getD i4.toNat (zj zi)).1):Int))) (Tr.chk (decide (lh_0.length+[(List.take (toNat 20 - toNat 0) (List.drop (toNat 0) (l0.getD i4.toNat (zj zi)).1),(l0.getD i4.toNat (zj zi)).2)].length≤1073741824)) (Tr.ok (zp.head 3 (zw Tryz.f26 3) (xk l0 (IntKind.i64.wrap (i4+1)) (lh_0++[(List.take (toNat 20 - toNat 0) (List.drop (toNat 0) (l0.getD i4.toNat (zj zi)).1),(l0.getD i4.toNat (zj zi)).2)])))))) (Tr.chk (decide (lh_0.length+[l0.getD i4.toNat (zj zi)].length≤1073741824)) (Tr.ok (zp.head 3 (zw Tryz.f26 3) (xk l0 (IntKind.i64.wrap (i4+1)) (lh_0++[l0.getD i4.toNat (zj zi)]))))))) (Tr.ok (zp.ret (AV.vec 0) [AO.vec zi lh_0])):=by kernel_rfl
def fO:List (Sem zi)→Int→List (Sem zi)→Sem zi.sl
 | [],_,lh_0=>lh_0
 | x::r,i4,lh_0=>if decide (i4 < 9)=true then
 if decide ((↑(length x.1):Int) > 20)=true then
  fO r (i4+1) (lh_0++[(List.take (toNat 20 - toNat 0) (List.drop (toNat 0) x.1),x.2)])
 else fO r (i4+1) (lh_0++[x])
else lh_0
def eX:List (Sem zi)→Int→List (Sem zi)→Bool
 | [],_,_=>true
 | x::r,i4,lh_0=>if decide (i4 < 9)=true then
 if decide ((↑(length x.1):Int) > 20)=true then
  decide (0≤0)&&decide (0≤20)&&decide (20≤(↑(length x.1):Int))&&
   (decide (lh_0.length+[(List.take (toNat 20 - toNat 0) (List.drop (toNat 0) x.1),x.2)].length≤1073741824)&&
    eX r (i4+1) (lh_0++[(List.take (toNat 20 - toNat 0) (List.drop (toNat 0) x.1),x.2)]))
 else decide (lh_0.length+[x].length≤1073741824)&&eX r (i4+1) (lh_0++[x])
else true
theorem RD {C:cd} (hC:∀ id,C.ρ0 id=none) (l0:List (Sem zi)) (hl:l0.length≤zD):∀ (m i:Nat) (lh_0:List (Sem zi)),l0.length - i=m→i≤l0.length→eX (l0.drop i) i lh_0=true→
  Reach kz C 26 (zw Tryz.f26 3) (xk l0 (i:Int) lh_0) (fun r h=>zY h [zi.sl] r=some (fO (l0.drop i) i lh_0,())):=by
 intro m
 induction m with
 | zero=>
  intro i lh_0 hm hi hc
  obtain rfl:i=l0.length:=by omega
  rw [dq] at hc ⊢
  refine zk fB MV (fun id _=>hC id) (JJ _ _ _) ?_
  simp only [eX] at hc
  simp only [Tr.val,af,bS,fO]
  repeat' split
  all_goals first | rfl | simp_all
 | succ m IH=>
  intro i lh_0 hm hi hc
  have hlt:i < l0.length:=by omega
  have IH:=IH (i+1)
  have hcast:((i:Int)+1)=((i+1:Nat):Int):=by omega
  have hwr:=zG i (by omega)
  rw [ez hlt] at hc ⊢
  refine zk fB MV (fun id _=>hC id) (JJ _ _ _) ?_
  simp only [eX] at hc
  simp only [Tr.val,zV hlt,zF hlt,zZ l0 _ hlt,hwr,bG,if_true,fO]
  clear hwr
  (try simp only [hcast] at hc ⊢)
  repeat' split
  all_goals first | (change Reach _ _ _ _ _ _; apply IH <;> first | omega | assumption | (clear IH; simp_all)) | rfl | (clear IH; simp_all)
theorem L6 {C:cd} (hC:∀ id,C.ρ0 id=none) (l0:List (Sem zi)) (lh_0:List (Sem zi)) (hc:eX l0 0 lh_0=true):
  Reach kz C 26 (zw Tryz.f26 3) (xk l0 0 lh_0) (fun r h=>zY h [zi.sl] r=some (fO l0 0 lh_0,())):=
 Reach.len 0 (zi) l0 rfl fun hl=>RD hC l0 hl _ 0 lh_0 rfl (be _) hc
def ls (x0:Sem zi.sl):Sem zi.sl:=fO x0 0 []
def Ji (x0:Sem zi.sl):Bool:=eX x0 0 []
def F13:zB:=zA [zi.sl] [zi.sl] (fun x=>Ji x.1) fun x=>(ls x.1,())
theorem Ow:FK 26 F13:=by
 refine zM MV fun x hx C hC=>?_
 simp only [Ji] at hx
 refine zk fB MV (fun id _=>hC id) (zbK x.1) ?_
 simp only [Tr.val,ls]
 repeat' split
 all_goals first | (change Reach _ _ _ _ _ _; apply L6 hC <;> first | assumption | simp_all) | rfl | simp_all

noncomputable def A0:=kz.addL [(28,F6),(26,F13)]
theorem pc:zm A0:=fB.addL <| fc WA <| fc Ow g6

theorem dM {P:Program} {gl:Nat→AV} {k:FuncId} {ks outs:List Sh} {c:zu (ks.map some)→Bool} {g:zu (ks.map some)→zu (outs.map some)} (h:kJ P gl k (zA ks outs c g)) (hc:∀ x,c x=true):kJ P gl k (zX ks outs g):=
 OD (by rwa [show c=fun _=>true from funext hc] at h)

theorem uU (v:V):xp v=true:=by
 unfold xp
 cases h:decide ((↑(length v.2.2):Int) > 60)
 ·rfl
 ·simp only [ah] at h
  simp only [bG,aE,ah]
  omega
theorem DD (s:zq):Fo s=true:=by
 unfold Fo
 cases h:decide ((↑(length s):Int) > 20)
 ·rfl
 ·simp only [ah] at h
  simp only [bG,aE,ah]
  omega
theorem mM:∀ (l:List (Sem zf)) (i:Int) (a:List (Sem zf)),(a.length:Int)≤i→fZ l i a=true
 | [],_,_,_=>rfl
 | x::r,i,a,h=>by
  simp only [fZ,uU]
  split
  ·rename_i hi
   simp only [ah] at hi
   rw [mM r (i+1) _ (by simp; omega)]
   simp; omega
  ·rfl
theorem iS:∀ (l:List (Sem zi)) (i:Int) (a:List (Sem zi)),(a.length:Int)≤i→eX l i a=true
 | [],_,_,_=>rfl
 | x::r,i,a,h=>by
  simp only [eX]
  split
  ·rename_i hi
   simp only [ah] at hi
   split
   ·rename_i hx
    simp only [ah] at hx
    rw [iS r (i+1) _ (by simp; omega)]
    simp; omega
   ·rw [iS r (i+1) _ (by simp; omega)]
    simp; omega
  ·rfl
def UW:zB:=zX [zf] [zf] fun x=>(B9 x.1,())
theorem Qq:FK 54 UW:=dM Ox fun x=>uU x.1
def UI:zB:=zX [Sh.str] [Sh.str] fun x=>(uF x.1,())
theorem Qd:FK 117 UI:=dM Ov fun x=>DD x.1
def F6t:zB:=zX [zf.sl] [zf.sl] fun x=>(fY x.1,())
theorem WH:FK 28 F6t:=dM WA fun x=>mM x.1 0 [] (by simp)
def US:zB:=zX [zi.sl] [zi.sl] fun x=>(ls x.1,())
theorem Qn:FK 26 US:=dM Ow fun x=>iS x.1 0 [] (by simp)

abbrev kM:Nat→zT:=fun _=>{ slots:=[0,1,7,8] }
def gq {K:List Item} {e:Sh} (l:List (Sem e)) (p:Sem e→Bool) (st:Int→St) (h0:List AO) (i:Int):Tr zp:=.br (decide (i < (l.length:Int))) (.chk (zJ i l.length) (.br (p (l.getD i.toNat (zj e))) (.ok (.ret (.int .i64 i) h0)) (.ok (.head 2 K (st (IntKind.i64.wrap (i+1))))))) (.ok (.ret (.int .i64 (-1)) h0))

theorem dR {E:bb} {C:cd} {k:FuncId} {f:Func} {n n0:Nat} {keep:Nat→zT} {fuel:Nat} {K:List Item} {e:Sh} (l:List (Sem e)) (p:Sem e→Bool) (st:Int→St) {h0:List AO}
  (hE:zm E) (hf:zz E.P k f n) (hC:∀ id,n0≤id→C.ρ0 id=none)
  (hon:∀ i,run E n0 keep f.results.toList fuel K (st i)=gq (K:=K) l p st h0 i) (hl:l.length≤zD):∀ (m i:Nat),l.length - i=m→i≤l.length→
  Reach E C k K (st i) (fun r h=>(r,h)=(.int .i64 (zQ p (l.drop i) i),h0)):=by
 intro m
 induction m with
 | zero=>
  intro i hE.mix' hi
  obtain rfl:i=l.length:=by omega
  refine zk hE hf hC (hon _) ?_
  simp only [gq,Tr.val,af,dq]
  rfl
 | succ m IH=>
  intro i hE.mix' hi
  have hlt:i < l.length:=by omega
  refine zk hE hf hC (hon _) ?_
  rw [ez hlt]
  simp only [gq,Tr.val,zV hlt,zF hlt,zZ l _ hlt,zG i (by omega),if_true,zQ]
  split
  ·rfl
  ·exact IH (i+1) (by omega) (by omega)

abbrev ru (t:Int) (l:List (Sem zg)) (i:Int):St:={ tmps:=[.sl zg l,.clo (.func 251) [] [.ptr 0 0],.any,.any,.any,.any,.any,.int .i64 l.length,.int .i64 i,.any,.any,.any,.any,.any,.any,.any,.any,.any,.any],heap:=[.box [.int .i64 t]] }
theorem Ir (t:Int) (l:List (Sem zg)):run A0 1 kM Tryz.f278.results.toList 300 (ao Tryz.f278) (zU Tryz.f278.ntmps [.sl zg l,.clo (.func 251) [] [.ptr 0 0]] [.box [.int .i64 t]])=.ok (.head 2 (zw Tryz.f278 2) (ru t l 0)):=by kernel_rfl
theorem JH (t:Int) (l:List (Sem zg)) (i:Int):run A0 1 kM Tryz.f278.results.toList 300 (zw Tryz.f278 2) (ru t l i)=gq (K:=zw Tryz.f278 2) (e:=zg) l (fun x=>bif x != t then x != 0 else false) (ru t l) [.box [.int .i64 t]] i:=by kernel_rfl

theorem Jq:zz A0.P 278 Tryz.f278 2:=aG (by kernel_rfl)
def Xe:cg [some (.sl zg),none]:=fun x h=>match x,h with
 | (l,.clo (.func 251) [] [.ptr 0 0],_),[.box [.int .i64 t]]=>.ok (.int .i64 (zQ (fun x=>bif x != t then x != 0 else false) l 0),[.box [.int .i64 t]])
 | _,_=>.err
def Un:zB:=zP [some (.sl zg),none] Xe
theorem PS:FK 278 Un:=by
 refine bc Jq fun x h0 res hx C hC=>?_
 unfold Xe at hx
 split at hx
 ·rename_i l u t
  simp only [Tr.val_ok,ae] at hx
  subst hx
  refine Reach.len 0 zg l rfl fun hl=>?_
  refine zk (n0:=1) pc Jq hC (Ir t l) ?_
  exact dR l (fun x=>bif x != t then x != 0 else false) (ru t l) pc Jq hC (JH t l) hl _ 0 rfl (be _)
 ·simp at hx

noncomputable def nQ:=A0.addL [(54,UW),(117,UI),(28,F6t),(26,US),(278,Un)]
theorem jm:zm nQ:=pc.addL <| fc Qq <| fc Qd <| fc WH <| fc Qn <| fc PS g6

noncomputable def F78:zB:=zP [some (.sl zg),none] (bH nQ Tryz.f250 [some (.sl zg),none])
theorem WN:FK 250 F78:=ac _ jm (aG (by kernel_rfl))

def mY (x0:Sem Sh.str):Sem Sh.bool:=pT x0
theorem ZC:zz nQ.P 170 Tryz.f170 1:=aG (by kernel_rfl)
theorem zbS (x0:Sem Sh.str):rn nQ 0 (fun _=>{ }) Tryz.f170 [zy Sh.str x0] []=Tr.ok (zp.ret (AV.bool (pT x0)) []):=by kernel_rfl
def F25:zB:=zX [Sh.str] [Sh.bool] fun x=>(mY x.1,())
theorem V2:FK 170 F25:=by
 refine zO ZC fun x C hC=>?_
 refine aq jm ZC (fun id _=>hC id) (zbS x.1) ?_
 simp only [Tr.val,mY]
 repeat' split
 all_goals rfl

def kg (x0:Sem zE) (x1:Sem Sh.str):Sem zg:=zQ (fun c=>c.1==x1) x0.2.1 0
theorem Zx:zz nQ.P 73 Tryz.f73 2:=aG (by kernel_rfl)
theorem zbN (x0:Sem zE) (x1:Sem Sh.str):rn nQ 0 (fun _=>{ }) Tryz.f73 [zy zE x0,zy Sh.str x1] []=Tr.ok (zp.ret (ai (zQ (fun c=>c.1==x1) x0.2.1 0)) []):=by kernel_rfl
def F17:zB:=zX [zE,Sh.str] [zg] fun x=>(kg x.1 x.2.1,())
theorem VX:FK 73 F17:=by
 refine zO Zx fun x C hC=>?_
 refine aq jm Zx (fun id _=>hC id) (zbN x.1 x.2.1) ?_
 simp only [Tr.val,kg]
 repeat' split
 all_goals rfl

def aN (x0:Sem zi.sl) (x1:Sem Sh.str):Sem zg:=zQ (fun c=>c.1==x1) x0 0
theorem ZT:zz nQ.P 148 Tryz.f148 2:=aG (by kernel_rfl)
theorem zcb (x0:Sem zi.sl) (x1:Sem Sh.str):rn nQ 0 (fun _=>{ }) Tryz.f148 [zy zi.sl x0,zy Sh.str x1] []=Tr.ok (zp.ret (ai (zQ (fun c=>c.1==x1) x0 0)) []):=by kernel_rfl
def F48:zB:=zX [zi.sl,Sh.str] [zg] fun x=>(aN x.1 x.2.1,())
theorem Wm:FK 148 F48:=by
 refine zO ZT fun x C hC=>?_
 refine aq jm ZT (fun id _=>hC id) (zcb x.1 x.2.1) ?_
 simp only [Tr.val,aN]
 repeat' split
 all_goals rfl

noncomputable def wi:=nQ.addL [(250,F78),(170,F25),(73,F17),(148,F48)]
theorem pd:zm wi:=jm.addL <| fc WN <| fc V2 <| fc VX <| fc Wm g6

def qM (x0:Sem zg.sl) (x1:Sem zg):Sem Sh.bool := !decide (zQ (fun x=>bif x != x1 then x != 0 else false) x0 0 ≥ 0)
theorem Z5:zz wi.P 203 Tryz.f203 2:=aG (by kernel_rfl)
theorem zcn (x0:Sem zg.sl) (x1:Sem zg):rn wi 0 (fun _=>{ }) Tryz.f203 [zy zg.sl x0,zy zg x1] []=Tr.ok (zp.ret (AV.bool !decide (zQ (fun x=>bif x != x1 then x != 0 else false) x0 0 ≥ 0)) []):=by kernel_rfl
def F66:zB:=zX [zg.sl,zg] [Sh.bool] fun x=>(qM x.1 x.2.1,())
theorem WF:FK 203 F66:=by
 refine zO Z5 fun x C hC=>?_
 refine aq pd Z5 (fun id _=>hC id) (zcn x.1 x.2.1) ?_
 simp only [Tr.val,qM]
 repeat' split
 all_goals rfl

def gr (x0:Sem Sh.str):Sem Sh.bool:=bif mY x0 then !BR x0 else false
theorem Zw:zz wi.P 92 Tryz.f92 1:=aG (by kernel_rfl)
theorem zbM (x0:Sem Sh.str):rn wi 0 (fun _=>{ }) Tryz.f92 [zy Sh.str x0] []=Tr.ok (zp.ret (AV.bool (bif mY x0 then !BR x0 else false)) []):=by kernel_rfl
def F16:zB:=zX [Sh.str] [Sh.bool] fun x=>(gr x.1,())
theorem VW:FK 92 F16:=by
 refine zO Zw fun x C hC=>?_
 refine aq pd Zw (fun id _=>hC id) (zbM x.1) ?_
 simp only [Tr.val,gr]
 repeat' split
 all_goals rfl

noncomputable def H0:=wi.addL [(203,F66),(92,F16)]
theorem wj:zm H0:=pd.addL <| fc WF <| fc VW g6
theorem cQ {P:Program} {gl:Nat→AV} {k:FuncId} {ks outs:List Sh} {c:zu (ks.map some)→Bool} {g:zu (ks.map some)→zu (outs.map some)} (hf:∃ fn,P.funcs[k]?=some fn∧(fn.name == "runtime.NumGoroutine")=false∧fn.body.isNone=false) (hc:∀ x,c x=false):kJ P gl k (zA ks outs c g):=by
 refine ⟨hf,?_⟩
 intro w U ρ hp n args vals f fp hv
 exfalso
 unfold zA zP at hv
 split at hv
 ·simp only at hv
  split at hv
  ·split at hv
   ·simp only [Tr.val_bind,dT] at hv
    obtain ⟨res,h1,h2⟩:=hv
    unfold fP at h1
    split at h1
    ·simp only [Tr.val,hc] at h1
     simp at h1
    ·simp at h1
   ·simp at hv
  ·simp at hv
 ·simp at hv
theorem je {Φ:zp→Prop} {c:Bool} {t f:Tr zp} (h1:c=true→eh Φ t.val) (h2:c=false→eh Φ f.val):eh Φ (Tr.br c t f).val:=by
 cases c
 ·simpa [Tr.val] using h2 rfl
 ·simpa [Tr.val] using h1 rfl
theorem cy {Φ:zp→Prop} {c:Bool} {t:Tr zp} (hc:c=true) (h:eh Φ t.val):eh Φ (Tr.chk c t).val:=by
 subst hc
 simpa [Tr.val] using h
theorem zn {Φ:zp→Prop} {t:Tr zp} (h:eh Φ t.val):eh Φ (Tr.chk true t).val:=h
theorem jy {c:Bool} (h:c=false):¬ c=true:=by rw [h]; simp
theorem lZ {c g:Bool} (h:(if c=true then g else false)=true):c=true∧g=true:=by
 split at h
 ·exact ⟨‹_›,h⟩
 ·cases h
theorem ed {Φ:zp→Prop} {c:Bool} {t f:Tr zp} {α:Sort _} {a b y:α} {p q:Bool} (hy:(if c=true then a else b)=y) (hc:(if c=true then p else q)=true) (h1:c=true→a=y→p=true→eh Φ t.val) (h2:c=false→b=y→q=true→eh Φ f.val):eh Φ (Tr.br c t f).val:=
 je (fun h=>h1 h (by rwa [if_pos h] at hy) (by rwa [if_pos h] at hc)) (fun h=>h2 h (by rwa [if_neg (jy h)] at hy) (by rwa [if_neg (jy h)] at hc))
theorem aL {Φ:zp→Prop} {c:Bool} {t f:Tr zp} {α:Sort _} {a b y:α} (hy:(if c=true then a else b)=y) (h1:c=true→a=y→eh Φ t.val) (h2:c=false→b=y→eh Φ f.val):eh Φ (Tr.br c t f).val:=
 je (fun h=>h1 h (by rwa [if_pos h] at hy)) (fun h=>h2 h (by rwa [if_neg (jy h)] at hy))
theorem aZ {Φ:zp→Prop} {c g:Bool} {t:Tr zp} (hc:(if c=true then g else false)=true) (h:g=true→eh Φ t.val):eh Φ (Tr.chk c t).val:=
 cy (lZ hc).1 (h (lZ hc).2)
theorem Tr.val_brT {α:Type} (t f:Tr α):(Tr.br true t f).val=t.val:=rfl
theorem Tr.val_brF {α:Type} (t f:Tr α):(Tr.br false t f).val=f.val:=rfl
theorem Tr.val_chkT {α:Type} (t:Tr α):(Tr.chk true t).val=t.val:=rfl
instance:Inhabited ze:=⟨.mk [] (0,0,[]) [] []⟩
instance (s:Sh):Inhabited (Sem s):=⟨zj s⟩

noncomputable def F1 (g:Sem Sh.expr→Sem (Sh.sl zi)→Sem zg×Sem zg) (c:Sem Sh.expr→Sem (Sh.sl zi)→Bool):bb:=H0.add 136 (zA [Sh.expr,Sh.sl zi] [zg,zg] (fun x=>c x.1 x.2.1) fun x=>((g x.1 x.2.1).1,(g x.1 x.2.1).2,()))
theorem sL {g:Sem Sh.expr→Sem (Sh.sl zi)→Sem zg×Sem zg} {c:Sem Sh.expr→Sem (Sh.sl zi)→Bool} (hg:FK 136 (zA [Sh.expr,Sh.sl zi] [zg,zg] (fun x=>c x.1 x.2.1) fun x=>((g x.1 x.2.1).1,(g x.1 x.2.1).2,()))):zm (F1 g c):=wj.add hg
abbrev Pp:Nat→zT:=fun j=>if j=3 then { slots:=[1,2,6,15,16,17],prom:=[(6,none,zg)] } else { }
abbrev uD (l1:LC) (l15:LX) (i16:Int) (i17:Int) (ja0:zq) (ja1:Int) (ja2:Int) (ja3:zq) (ja4:zq) (ja5:LX) (lh_1:LI):St:={ tmps:=(tm 91 [(1,AV.sl zi l1),(2,AV.ptr 0 0),(6,AV.vec 1),(15,AV.sl Sh.expr l15),(16,ai i16),(17,ai i17)]),heap:=[AO.box [AV.str ja0,ai ja1,ai ja2,AV.str ja3,AV.str ja4,AV.sl Sh.expr ja5],AO.vec zg lh_1] }
theorem t7 (g:Sem Sh.expr→Sem (Sh.sl zi)→Sem zg×Sem zg) (c:Sem Sh.expr→Sem (Sh.sl zi)→Bool):zz (F1 g c).P 136 Tryz.f136 2:=aG (by kernel_rfl)
theorem Yf (g:Sem Sh.expr→Sem (Sh.sl zi)→Sem zg×Sem zg) (c:Sem Sh.expr→Sem (Sh.sl zi)→Bool) (x0:Sem Sh.expr) (x1:Sem zi.sl):rn (F1 g c) 0 Pp Tryz.f136 [zy Sh.expr x0,zy zi.sl x1] []=Tr.ok (zp.head 3 (zw Tryz.f136 3) (uD x1 (ze.l x0) (↑(ze.l x0).length:Int) 0 (ze.op x0) (ze.v x0).1 (ze.v x0).2.1 (ze.v x0).2.2 (ze.s x0) (ze.l x0) [])):=by kernel_rfl
theorem EY (g:Sem Sh.expr→Sem (Sh.sl zi)→Sem zg×Sem zg) (c:Sem Sh.expr→Sem (Sh.sl zi)→Bool) (l1:LC) (l15:LX) (i16:Int) (i17:Int) (ja0:zq) (ja1:Int) (ja2:Int) (ja3:zq) (ja4:zq) (ja5:LX) (lh_1:LI):rh (F1 g c) 0 Pp Tryz.f136 3 (uD l1 l15 i16 i17 ja0 ja1 ja2 ja3 ja4 ja5 lh_1)=Tr.br (decide (i17 < i16)) (Tr.chk (zJ i17 l15.length) (Tr.chk (c (zC (l15.getD i17.toNat (zj Sh.expr))) l1) (Tr.br ((g (zC (l15.getD i17.toNat (zj Sh.expr))) l1).2 != 0) (Tr.ok (zp.ret (AV.tup [ai 0,AV.int IntKind.i64 (g (zC (l15.getD i17.toNat (zj Sh.expr))) l1).2]) [])) (Tr.chk (decide (lh_1.length+[(g (zC (l15.getD i17.toNat (zj Sh.expr))) l1).1].length≤1073741824)) (Tr.ok (zp.head 3 (zw Tryz.f136 3) (uD l1 l15 i16 (IntKind.i64.wrap (i17+1)) ja0 ja1 ja2 ja3 ja4 ja5 (lh_1++[(g (zC (l15.getD i17.toNat (zj Sh.expr))) l1).1])))))))) (Tr.br (ja0==[108,105,116]) (Tr.ok (zp.ret (AV.tup [ai ja1,ai 0]) [])) (Tr.br (ja0==[99,111,108]) (Tr.br (decide (aN l1 ja4 < 0)) (Tr.ok (zp.ret (AV.tup [ai 0,ai 4]) [])) (Tr.chk (zJ (aN l1 ja4) l1.length) (Tr.ok (zp.ret (AV.tup [ai (l1.getD (toNat (aN l1 ja4)) (zj zi)).2.1,ai 0]) [])))) (Tr.br (ja0==[110,111,116])
 (Tr.br (!qM lh_1 3) (Tr.ok (zp.ret (AV.tup [ai 0,ai 5]) [])) (Tr.ok (zp.ret (AV.tup [ai 3,ai 0]) []))) (Tr.br (ja0==[97,110,100]) (Tr.br (!qM lh_1 3) (Tr.ok (zp.ret (AV.tup [ai 0,ai 5]) [])) (Tr.ok (zp.ret (AV.tup [ai 3,ai 0]) []))) (Tr.br (ja0==[111,114]) (Tr.br (!qM lh_1 3) (Tr.ok (zp.ret (AV.tup [ai 0,ai 5]) [])) (Tr.ok (zp.ret (AV.tup [ai 3,ai 0]) []))) (Tr.br (ja0==[61]) (Tr.chk (zJ 0 lh_1.length&&(decide (toNat 0 < lh_1.length)&&(zJ 1 lh_1.length&&(decide (toNat 1 < lh_1.length)&&bif lh_1.getD (toNat 0) (zj zg)==lh_1.getD (toNat 1) (zj zg) then true else zJ 0 lh_1.length&&(decide (toNat 0 < lh_1.length)&&bif lh_1.getD (toNat 0) (zj zg)==0 then true else zJ 1 lh_1.length&&decide (toNat 1 < lh_1.length)))))) (Tr.br (!bif lh_1.getD (toNat 0) (zj zg)==lh_1.getD (toNat 1) (zj zg) then true else bif lh_1.getD (toNat 0) (zj zg)==0 then true else lh_1.getD (toNat 1) (zj zg)==0) (Tr.ok (zp.ret (AV.tup [ai 0,ai 5]) [])) (Tr.ok (zp.ret (AV.tup [ai 3,ai 0]) [])))) (Tr.br (ja0==[60]) (Tr.chk (zJ 0 lh_1.length&&(decide (toNat 0 < lh_1.length)&&(zJ 1 lh_1.length&&(decide (toNat 1 < lh_1.length)&&
 bif lh_1.getD (toNat 0) (zj zg)==lh_1.getD (toNat 1) (zj zg) then true else zJ 0 lh_1.length&&(decide (toNat 0 < lh_1.length)&&bif lh_1.getD (toNat 0) (zj zg)==0 then true else zJ 1 lh_1.length&&decide (toNat 1 < lh_1.length)))))) (Tr.br (!bif lh_1.getD (toNat 0) (zj zg)==lh_1.getD (toNat 1) (zj zg) then true else bif lh_1.getD (toNat 0) (zj zg)==0 then true else lh_1.getD (toNat 1) (zj zg)==0) (Tr.ok (zp.ret (AV.tup [ai 0,ai 5]) [])) (Tr.ok (zp.ret (AV.tup [ai 3,ai 0]) [])))) (Tr.br (ja0==[43]) (Tr.br (!qM lh_1 1) (Tr.ok (zp.ret (AV.tup [ai 0,ai 5]) [])) (Tr.ok (zp.ret (AV.tup [ai 1,ai 0]) []))) (Tr.br (ja0==[45]) (Tr.br (!qM lh_1 1) (Tr.ok (zp.ret (AV.tup [ai 0,ai 5]) [])) (Tr.ok (zp.ret (AV.tup [ai 1,ai 0]) []))) (Tr.ok (zp.ret (AV.tup [ai 3,ai 0]) []))))))))))):=by kernel_rfl
def er (g:Sem Sh.expr→Sem (Sh.sl zi)→Sem zg×Sem zg) (c:Sem Sh.expr→Sem (Sh.sl zi)→Bool) (l1:LC) (ja0:zq) (ja1:Int) (ja2:Int) (ja3:zq) (ja4:zq) (ja5:LX):List (Sem Sh.expr)→Int→List (Sem zg)→Sem zg×Sem zg
 | [],_,lh_1=>if (ja0==[108,105,116])=true then (ja1,0)
else
 if (ja0==[99,111,108])=true then
  if decide (aN l1 ja4 < 0)=true then (0,4)
  else ((l1.getD (toNat (aN l1 ja4)) (zj zi)).2.1,0)
 else
  if (ja0==[110,111,116])=true then if (!qM lh_1 3)=true then (0,5) else (3,0)
  else
   if (ja0==[97,110,100])=true then if (!qM lh_1 3)=true then (0,5) else (3,0)
   else
    if (ja0==[111,114])=true then if (!qM lh_1 3)=true then (0,5) else (3,0)
    else
     if (ja0==[61])=true then
      if
        (!bif lh_1.getD (toNat 0) (zj zg)==lh_1.getD (toNat 1) (zj zg) then true
          else bif lh_1.getD (toNat 0) (zj zg)==0 then true else lh_1.getD (toNat 1) (zj zg)==0)=
         true then
       (0,5)
      else (3,0)
     else
      if (ja0==[60])=true then
       if
         (!bif lh_1.getD (toNat 0) (zj zg)==lh_1.getD (toNat 1) (zj zg) then true
           else
            bif lh_1.getD (toNat 0) (zj zg)==0 then true else lh_1.getD (toNat 1) (zj zg)==0)=
          true then
        (0,5)
       else (3,0)
      else
       if (ja0==[43])=true then if (!qM lh_1 1)=true then (0,5) else (1,0)
       else if (ja0==[45])=true then if (!qM lh_1 1)=true then (0,5) else (1,0) else (3,0)
 | x::r,i17,lh_1=>if ((g x l1).2 != 0)=true then (0,(g x l1).2) else er g c l1 ja0 ja1 ja2 ja3 ja4 ja5 r (i17+1) (lh_1++[(g x l1).1])
def dS (g:Sem Sh.expr→Sem (Sh.sl zi)→Sem zg×Sem zg) (c:Sem Sh.expr→Sem (Sh.sl zi)→Bool) (l1:LC) (ja0:zq) (ja1:Int) (ja2:Int) (ja3:zq) (ja4:zq) (ja5:LX):List (Sem Sh.expr)→Int→List (Sem zg)→Bool
 | [],_,lh_1=>if (ja0==[108,105,116])=true then true
else
 if (ja0==[99,111,108])=true then
  if decide (aN l1 ja4 < 0)=true then true else if zJ (aN l1 ja4) l1.length=true then true else false
 else
  if (ja0==[110,111,116])=true then true
  else
   if (ja0==[97,110,100])=true then true
   else
    if (ja0==[111,114])=true then true
    else
     if (ja0 == [61])=true then
      if
        (zJ 0 lh_1.length&&
          (decide (toNat 0 < lh_1.length)&&
           (zJ 1 lh_1.length&&
            (decide (toNat 1 < lh_1.length)&&
             bif lh_1.getD (toNat 0) (zj zg)==lh_1.getD (toNat 1) (zj zg) then true
             else
              zJ 0 lh_1.length&&
               (decide (toNat 0 < lh_1.length)&&
                bif lh_1.getD (toNat 0) (zj zg)==0 then true
                else zJ 1 lh_1.length&&decide (toNat 1 < lh_1.length))))))=
         true then
       true
      else false
     else
      if (ja0 == [60])=true then
       if
         (zJ 0 lh_1.length&&
           (decide (toNat 0 < lh_1.length)&&
            (zJ 1 lh_1.length&&
             (decide (toNat 1 < lh_1.length)&&
              bif lh_1.getD (toNat 0) (zj zg)==lh_1.getD (toNat 1) (zj zg) then true
              else
               zJ 0 lh_1.length&&
                (decide (toNat 0 < lh_1.length)&&
                 bif lh_1.getD (toNat 0) (zj zg)==0 then true
                 else zJ 1 lh_1.length&&decide (toNat 1 < lh_1.length))))))=
          true then
        true
       else false
      else true
 | x::r,i17,lh_1=>if c x l1=true then
 if ((g x l1).2 != 0)=true then true
 else
  if decide (lh_1.length+[(g x l1).1].length≤1073741824)=true then
   dS g c l1 ja0 ja1 ja2 ja3 ja4 ja5 r (i17+1) (lh_1++[(g x l1).1])
  else false
else false
theorem L9 (g:Sem Sh.expr→Sem (Sh.sl zi)→Sem zg×Sem zg) (c:Sem Sh.expr→Sem (Sh.sl zi)→Bool) (hg:FK 136 (zA [Sh.expr,Sh.sl zi] [zg,zg] (fun x=>c x.1 x.2.1) fun x=>((g x.1 x.2.1).1,(g x.1 x.2.1).2,()))) {C:cd} (hC:∀ id,C.ρ0 id=none) (l1:LC) (ja0:zq) (ja1:Int) (ja2:Int) (ja3:zq) (ja4:zq) (ja5:LX) (l15:LX) (hl:l15.length≤zD):∀ (m i:Nat) (lh_1:LI),l15.length - i=m→i≤l15.length→dS g c l1 ja0 ja1 ja2 ja3 ja4 ja5 (l15.drop i) i lh_1=true→
  Reach (F1 g c) C 136 (zw Tryz.f136 3) (uD l1 l15 (l15.length:Int) (i:Int) ja0 ja1 ja2 ja3 ja4 ja5 lh_1) (fun r h=>zY h [zg,zg] r=some ((er g c l1 ja0 ja1 ja2 ja3 ja4 ja5 (l15.drop i) i lh_1).1,(er g c l1 ja0 ja1 ja2 ja3 ja4 ja5 (l15.drop i) i lh_1).2,())):=by
 intro m
 induction m with
 | zero=>
  intro i lh_1 hm hi hc
  obtain rfl:i=l15.length:=by omega
  rw [dq] at hc ⊢
  refine zk (sL hg) (t7 g c) (fun id _=>hC id) (EY g c _ _ _ _ _ _ _ _ _ _ _) ?_
  rw [dS] at hc
  generalize hy:er g c l1 ja0 ja1 ja2 ja3 ja4 ja5 [] _ lh_1=y
  rw [er] at hy
  simp only [ze.eta,af,Tr.val_brF]
  repeat' (first | with_reducible refine ed hy hc (fun _ hy hc=>?_) (fun _ hy hc=>?_) | with_reducible refine aL hy (fun _ hy=>?_) (fun _ hy=>?_) | with_reducible refine aZ hc (fun hc=>?_) | with_reducible refine zn ?_)
  all_goals (subst hy; first | rfl)
 | succ m IH=>
  intro i lh_1 hm hi hc
  have hlt:i < l15.length:=by omega
  have IH:=IH (i+1)
  have hcast:((i:Int)+1)=((i+1:Nat):Int):=by omega
  have hwr:=zG i (by omega)
  rw [ez hlt] at hc ⊢
  refine zk (sL hg) (t7 g c) (fun id _=>hC id) (EY g c _ _ _ _ _ _ _ _ _ _ _) ?_
  rw [dS] at hc
  generalize hy:er g c l1 ja0 ja1 ja2 ja3 ja4 ja5 (l15[i]::l15.drop (i+1)) (i:Int) lh_1=y
  rw [er] at hy
  simp only [ze.eta,zV hlt,zF hlt,zZ l15 _ hlt,hwr,Tr.val_brT,Tr.val_chkT]
  clear hwr
  simp only [hcast] at hy
  try simp only [hcast] at hc
  repeat' (first | with_reducible refine ed hy hc (fun _ hy hc=>?_) (fun _ hy hc=>?_) | with_reducible refine aL hy (fun _ hy=>?_) (fun _ hy=>?_) | with_reducible refine aZ hc (fun hc=>?_) | with_reducible refine zn ?_)
  all_goals (subst hy; first | (change Reach _ _ _ _ _ _; apply IH <;> first | omega | assumption) | rfl)
theorem Hy (g:Sem Sh.expr→Sem (Sh.sl zi)→Sem zg×Sem zg) (c:Sem Sh.expr→Sem (Sh.sl zi)→Bool) (hg:FK 136 (zA [Sh.expr,Sh.sl zi] [zg,zg] (fun x=>c x.1 x.2.1) fun x=>((g x.1 x.2.1).1,(g x.1 x.2.1).2,()))) {C:cd} (hC:∀ id,C.ρ0 id=none) (l1:LC) (ja0:zq) (ja1:Int) (ja2:Int) (ja3:zq) (ja4:zq) (ja5:LX) (l15:LX) (lh_1:LI) (hc:dS g c l1 ja0 ja1 ja2 ja3 ja4 ja5 l15 0 lh_1=true):
  Reach (F1 g c) C 136 (zw Tryz.f136 3) (uD l1 l15 (l15.length:Int) 0 ja0 ja1 ja2 ja3 ja4 ja5 lh_1) (fun r h=>zY h [zg,zg] r=some ((er g c l1 ja0 ja1 ja2 ja3 ja4 ja5 l15 0 lh_1).1,(er g c l1 ja0 ja1 ja2 ja3 ja4 ja5 l15 0 lh_1).2,())):=
 Reach.len 15 (Sh.expr) l15 rfl fun hl=>L9 g c hg hC l1 ja0 ja1 ja2 ja3 ja4 ja5 l15 hl _ 0 lh_1 rfl (be _) hc
def uS (g:Sem Sh.expr→Sem (Sh.sl zi)→Sem zg×Sem zg) (c:Sem Sh.expr→Sem (Sh.sl zi)→Bool) (x0:Sem Sh.expr) (x1:Sem zi.sl):Sem zg×Sem zg:=er g c x1 (ze.op x0) (ze.v x0).1 (ze.v x0).2.1 (ze.v x0).2.2 (ze.s x0) (ze.l x0) (ze.l x0) 0 []
def rF (g:Sem Sh.expr→Sem (Sh.sl zi)→Sem zg×Sem zg) (c:Sem Sh.expr→Sem (Sh.sl zi)→Bool) (x0:Sem Sh.expr) (x1:Sem zi.sl):Bool:=dS g c x1 (ze.op x0) (ze.v x0).1 (ze.v x0).2.1 (ze.v x0).2.2 (ze.s x0) (ze.l x0) (ze.l x0) 0 []
def zbe (g:Sem Sh.expr→Sem (Sh.sl zi)→Sem zg×Sem zg) (c:Sem Sh.expr→Sem (Sh.sl zi)→Bool):zB:=zA [Sh.expr,zi.sl] [zg,zg] (fun x=>rF g c x.1 x.2.1) fun x=>((uS g c x.1 x.2.1).1,(uS g c x.1 x.2.1).2,())
theorem QY (g:Sem Sh.expr→Sem (Sh.sl zi)→Sem zg×Sem zg) (c:Sem Sh.expr→Sem (Sh.sl zi)→Bool) (hg:FK 136 (zA [Sh.expr,Sh.sl zi] [zg,zg] (fun x=>c x.1 x.2.1) fun x=>((g x.1 x.2.1).1,(g x.1 x.2.1).2,()))):FK 136 (zbe g c):=by
 refine zM (t7 g c) fun x hc C hC=>?_
 unfold rF at hc
 refine zk (sL hg) (t7 g c) (fun id _=>hC id) (Yf g c x.1 x.2.1) ?_
 generalize hy:uS g c x.1 x.2.1=y
 unfold uS at hy
 try simp only [ze.eta,zt]
 repeat' (first | with_reducible refine ed hy hc (fun _ hy hc=>?_) (fun _ hy hc=>?_) | with_reducible refine aL hy (fun _ hy=>?_) (fun _ hy=>?_) | with_reducible refine aZ hc (fun hc=>?_) | with_reducible refine zn ?_)
 all_goals (subst hy; first | (change Reach _ _ _ _ _ _; apply Hy g c hg hC <;> first | assumption | exact hc) | rfl)
mutual
def iq:Nat→Sem Sh.expr→Sem (Sh.sl zi)→Sem zg×Sem zg
 | 0=>fun _ _=>default
 | n+1=>uS (iq n) (gS n)
def gS:Nat→Sem Sh.expr→Sem (Sh.sl zi)→Bool
 | 0=>fun _ _=>false
 | n+1=>rF (iq n) (gS n)
end
theorem Hj:∀ n,FK 136 (zA [Sh.expr,Sh.sl zi] [zg,zg] (fun x=>gS n x.1 x.2.1) fun x=>((iq n x.1 x.2.1).1,(iq n x.1 x.2.1).2,()))
 | 0=>cQ ⟨Tryz.f136,(t7 default default).1,(t7 default default).2.1,(t7 default default).2.2.1⟩ (fun _=>rfl)
 | n+1=>QY (iq n) (gS n) (Hj n)
def F51:zB:=zA [Sh.expr,Sh.sl zi] [zg,zg] (fun x=>gS 16 x.1 x.2.1) fun x=>((iq 16 x.1 x.2.1).1,(iq 16 x.1 x.2.1).2,())
theorem Wq:FK 136 F51:=Hj 16

noncomputable def A1:=H0.add 136 F51
theorem lP:zm A1:=wj.add Wq

noncomputable def FW (g:Sem Sh.expr→Sem zg→Sem zg→Sem Sh.expr×Sem zg) (c:Sem Sh.expr→Sem zg→Sem zg→Bool):bb:=A1.add 53 (zA [Sh.expr,zg,zg] [Sh.expr,zg] (fun x=>c x.1 x.2.1 x.2.2.1) fun x=>((g x.1 x.2.1 x.2.2.1).1,(g x.1 x.2.1 x.2.2.1).2,()))
theorem sE {g:Sem Sh.expr→Sem zg→Sem zg→Sem Sh.expr×Sem zg} {c:Sem Sh.expr→Sem zg→Sem zg→Bool} (hg:FK 53 (zA [Sh.expr,zg,zg] [Sh.expr,zg] (fun x=>c x.1 x.2.1 x.2.2.1) fun x=>((g x.1 x.2.1 x.2.2.1).1,(g x.1 x.2.1 x.2.2.1).2,()))):zm (FW g c):=lP.add hg
abbrev Pk:Nat→zT:=fun j=>if j=10 then { slots:=[1,2,3,6,8,9],prom:=[(8,some 5,Sh.expr)] } else { }
abbrev ex (i1:Sem zg) (i2:Int) (i9:Int) (ja0:zq) (ja1:Int) (ja2:Int) (ja3:zq) (ja4:zq) (ja5:LX) (jb0:List UInt8) (jb1:Int) (jb2:Int) (jb3:List UInt8) (jb4:List UInt8) (jc0:List UInt8) (jc1:Int) (jc2:Int) (jc3:List UInt8) (jc4:List UInt8) (lh_3:LX):St:={ tmps:=(tm 88 [(1,ai i1),(2,ai i2),(3,AV.ptr 0 0),(6,AV.ptr 1 0),(8,AV.ptr 2 0),(9,ai i9)]),heap:=[AO.box [AV.str ja0,ai ja1,ai ja2,AV.str ja3,AV.str ja4,AV.sl Sh.expr ja5],AO.box [AV.str jb0,ai jb1,ai jb2,AV.str jb3,AV.str jb4,AV.nils],AO.box [AV.str jc0,ai jc1,ai jc2,AV.str jc3,AV.str jc4,AV.vec 3],AO.vec Sh.expr lh_3] }
theorem tY (g:Sem Sh.expr→Sem zg→Sem zg→Sem Sh.expr×Sem zg) (c:Sem Sh.expr→Sem zg→Sem zg→Bool):zz (FW g c).P 53 Tryz.f53 3:=aG (by kernel_rfl)
theorem X6 (g:Sem Sh.expr→Sem zg→Sem zg→Sem Sh.expr×Sem zg) (c:Sem Sh.expr→Sem zg→Sem zg→Bool) (x0:Sem Sh.expr) (x1:Sem zg) (x2:Sem zg):rn (FW g c) 0 Pk Tryz.f53 [zy Sh.expr x0,zy zg x1,zy zg x2] []=Tr.br (decide ((↑(length (ze.op x0)):Int) > 8)) (Tr.chk (decide (0≤0)&&decide (0≤8)&&decide (8≤(↑(length (ze.op x0)):Int))) (Tr.br (decide ((↑(length (ze.s x0)):Int) > 20)) (Tr.chk (decide (0≤0)&&decide (0≤20)&&decide (20≤(↑(length (ze.s x0)):Int))) (Tr.br (decide ((↑(length (ze.v x0).2.2):Int) > 45)) (Tr.chk (decide (0≤0)&&decide (0≤45)&&decide (45≤(↑(length (ze.v x0).2.2):Int))) (Tr.ok (zp.head 10 (zw Tryz.f53 10) (ex x1 (IntKind.i64.wrap (x2 - 1)) 0 (ze.op x0) (ze.v x0).1 (ze.v x0).2.1 (ze.v x0).2.2 (ze.s x0) (ze.l x0) [] 0 0 [] [] (List.take (toNat 8 - toNat 0) (List.drop (toNat 0) (ze.op x0))) (ze.v x0).1 (ze.v x0).2.1 (List.take (toNat 45 - toNat 0) (List.drop (toNat 0) (ze.v x0).2.2)) (List.take (toNat 20 - toNat 0) (List.drop (toNat 0) (ze.s x0))) [])))) (Tr.ok (zp.head 10 (zw Tryz.f53 10) (ex x1 (IntKind.i64.wrap (x2 - 1)) 0 (ze.op x0) (ze.v x0).1 (ze.v x0).2.1 (ze.v x0).2.2 (ze.s x0) (ze.l x0) [] 0
 0 [] [] (List.take (toNat 8 - toNat 0) (List.drop (toNat 0) (ze.op x0))) (ze.v x0).1 (ze.v x0).2.1 (ze.v x0).2.2 (List.take (toNat 20 - toNat 0) (List.drop (toNat 0) (ze.s x0))) []))))) (Tr.br (decide ((↑(length (ze.v x0).2.2):Int) > 45)) (Tr.chk (decide (0≤0)&&decide (0≤45)&&decide (45≤(↑(length (ze.v x0).2.2):Int))) (Tr.ok (zp.head 10 (zw Tryz.f53 10) (ex x1 (IntKind.i64.wrap (x2 - 1)) 0 (ze.op x0) (ze.v x0).1 (ze.v x0).2.1 (ze.v x0).2.2 (ze.s x0) (ze.l x0) [] 0 0 [] [] (List.take (toNat 8 - toNat 0) (List.drop (toNat 0) (ze.op x0))) (ze.v x0).1 (ze.v x0).2.1 (List.take (toNat 45 - toNat 0) (List.drop (toNat 0) (ze.v x0).2.2)) (ze.s x0) [])))) (Tr.ok (zp.head 10 (zw Tryz.f53 10) (ex x1 (IntKind.i64.wrap (x2 - 1)) 0 (ze.op x0) (ze.v x0).1 (ze.v x0).2.1 (ze.v x0).2.2 (ze.s x0) (ze.l x0) [] 0 0 [] [] (List.take (toNat 8 - toNat 0) (List.drop (toNat 0) (ze.op x0))) (ze.v x0).1 (ze.v x0).2.1 (ze.v x0).2.2 (ze.s x0) [])))))) (Tr.br (decide ((↑(length (ze.s x0)):Int) > 20)) (Tr.chk (decide (0≤0)&&decide (0≤20)&&decide (20≤(↑(length (ze.s x0)):Int))) (Tr.br (decide ((↑(length (ze.v x0).2.2):Int) > 45)) (Tr.chk (decide (0≤0)&&decide (0≤45)&&decide (45≤(↑(length (ze.v x0).2.2):Int))) (Tr.ok (zp.head 10 (zw Tryz.f53 10)
 (ex x1 (IntKind.i64.wrap (x2 - 1)) 0 (ze.op x0) (ze.v x0).1 (ze.v x0).2.1 (ze.v x0).2.2 (ze.s x0) (ze.l x0) [] 0 0 [] [] (ze.op x0) (ze.v x0).1 (ze.v x0).2.1 (List.take (toNat 45 - toNat 0) (List.drop (toNat 0) (ze.v x0).2.2)) (List.take (toNat 20 - toNat 0) (List.drop (toNat 0) (ze.s x0))) [])))) (Tr.ok (zp.head 10 (zw Tryz.f53 10) (ex x1 (IntKind.i64.wrap (x2 - 1)) 0 (ze.op x0) (ze.v x0).1 (ze.v x0).2.1 (ze.v x0).2.2 (ze.s x0) (ze.l x0) [] 0 0 [] [] (ze.op x0) (ze.v x0).1 (ze.v x0).2.1 (ze.v x0).2.2 (List.take (toNat 20 - toNat 0) (List.drop (toNat 0) (ze.s x0))) []))))) (Tr.br (decide ((↑(length (ze.v x0).2.2):Int) > 45)) (Tr.chk (decide (0≤0)&&decide (0≤45)&&decide (45≤(↑(length (ze.v x0).2.2):Int))) (Tr.ok (zp.head 10 (zw Tryz.f53 10) (ex x1 (IntKind.i64.wrap (x2 - 1)) 0 (ze.op x0) (ze.v x0).1 (ze.v x0).2.1 (ze.v x0).2.2 (ze.s x0) (ze.l x0) [] 0 0 [] [] (ze.op x0) (ze.v x0).1 (ze.v x0).2.1 (List.take (toNat 45 - toNat 0) (List.drop (toNat 0) (ze.v x0).2.2)) (ze.s x0) [])))) (Tr.ok (zp.head 10 (zw Tryz.f53 10) (ex x1 (IntKind.i64.wrap (x2 - 1)) 0 (ze.op x0) (ze.v x0).1 (ze.v x0).2.1 (ze.v x0).2.2 (ze.s x0) (ze.l x0) [] 0 0 [] [] (ze.op x0) (ze.v x0).1 (ze.v x0).2.1 (ze.v x0).2.2 (ze.s x0) []))))):=by kernel_rfl
theorem BB (g:Sem Sh.expr→Sem zg→Sem zg→Sem Sh.expr×Sem zg) (c:Sem Sh.expr→Sem zg→Sem zg→Bool) (i1:Sem zg) (i2:Int) (i9:Int) (ja0:zq) (ja1:Int) (ja2:Int) (ja3:zq) (ja4:zq) (ja5:LX) (jb0:List UInt8) (jb1:Int) (jb2:Int) (jb3:List UInt8) (jb4:List UInt8) (jc0:List UInt8) (jc1:Int) (jc2:Int) (jc3:List UInt8) (jc4:List UInt8) (lh_3:LX):rh (FW g c) 0 Pk Tryz.f53 10 (ex i1 i2 i9 ja0 ja1 ja2 ja3 ja4 ja5 jb0 jb1 jb2 jb3 jb4 jc0 jc1 jc2 jc3 jc4 lh_3)=Tr.br (bif decide (i9 < (↑ja5.length:Int)) then bif decide (i9 < 3) then bif decide (i1 > 0) then decide (i2 > 0) else false else false else false) (Tr.chk (zJ i9 ja5.length) (Tr.chk (c (zC (ja5.getD i9.toNat (zj Sh.expr))) (IntKind.i64.wrap (i1 - 1)) i2) (Tr.chk (decide (lh_3.length+[ze.mk (ze.op (g (zC (ja5.getD i9.toNat (zj Sh.expr))) (IntKind.i64.wrap (i1 - 1)) i2).1) (ze.v (g (zC (ja5.getD i9.toNat (zj Sh.expr))) (IntKind.i64.wrap (i1 - 1)) i2).1) (ze.s (g (zC (ja5.getD i9.toNat (zj Sh.expr))) (IntKind.i64.wrap (i1 - 1)) i2).1) (ze.l (g (zC (ja5.getD i9.toNat (zj Sh.expr))) (IntKind.i64.wrap (i1 - 1)) i2).1)].length≤1073741824)) (Tr.ok (zp.head 10 (zw Tryz.f53 10) (ex i1 (g (zC (ja5.getD i9.toNat (zj Sh.expr))) (IntKind.i64.wrap (i1 - 1)) i2).2
 (IntKind.i64.wrap (i9+1)) ja0 ja1 ja2 ja3 ja4 ja5 jb0 jb1 jb2 jb3 jb4 jc0 jc1 jc2 jc3 jc4 (lh_3++[ze.mk (ze.op (g (zC (ja5.getD i9.toNat (zj Sh.expr))) (IntKind.i64.wrap (i1 - 1)) i2).1) (ze.v (g (zC (ja5.getD i9.toNat (zj Sh.expr))) (IntKind.i64.wrap (i1 - 1)) i2).1) (ze.s (g (zC (ja5.getD i9.toNat (zj Sh.expr))) (IntKind.i64.wrap (i1 - 1)) i2).1) (ze.l (g (zC (ja5.getD i9.toNat (zj Sh.expr))) (IntKind.i64.wrap (i1 - 1)) i2).1)]))))))) (Tr.ok (zp.ret (AV.tup [AV.agg [AV.str jc0,ai jc1,ai jc2,AV.str jc3,AV.str jc4,AV.vec 0],ai i2]) [AO.vec Sh.expr lh_3])):=by kernel_rfl
def bW (g:Sem Sh.expr→Sem zg→Sem zg→Sem Sh.expr×Sem zg) (c:Sem Sh.expr→Sem zg→Sem zg→Bool) (i1:Sem zg) (ja0:zq) (ja1:Int) (ja2:Int) (ja3:zq) (ja4:zq) (jb0:List UInt8) (jb1:Int) (jb2:Int) (jb3:List UInt8) (jb4:List UInt8) (jc0:List UInt8) (jc1:Int) (jc2:Int) (jc3:List UInt8) (jc4:List UInt8):List (Sem Sh.expr)→Int→Int→List (Sem Sh.expr)→Sem Sh.expr×Sem zg
 | [],_,i2,lh_3=>(ze.mk jc0 (jc1,jc2,jc3) jc4 lh_3,i2)
 | x::r,i9,i2,lh_3=>if (bif decide (i9 < 3) then bif decide (i1 > 0) then decide (i2 > 0) else false else false)=true then
 bW g c i1 ja0 ja1 ja2 ja3 ja4 jb0 jb1 jb2 jb3 jb4 jc0 jc1 jc2 jc3 jc4 r (i9+1)
  (g x (IntKind.i64.wrap (i1 - 1)) i2).2 (lh_3++[(g x (IntKind.i64.wrap (i1 - 1)) i2).1])
else (ze.mk jc0 (jc1,jc2,jc3) jc4 lh_3,i2)
def cm (g:Sem Sh.expr→Sem zg→Sem zg→Sem Sh.expr×Sem zg) (c:Sem Sh.expr→Sem zg→Sem zg→Bool) (i1:Sem zg) (ja0:zq) (ja1:Int) (ja2:Int) (ja3:zq) (ja4:zq) (jb0:List UInt8) (jb1:Int) (jb2:Int) (jb3:List UInt8) (jb4:List UInt8) (jc0:List UInt8) (jc1:Int) (jc2:Int) (jc3:List UInt8) (jc4:List UInt8):List (Sem Sh.expr)→Int→Int→List (Sem Sh.expr)→Bool
 | [],_,_,_=>true
 | x::r,i9,i2,lh_3=>if (bif decide (i9 < 3) then bif decide (i1 > 0) then decide (i2 > 0) else false else false)=true then
 if c x (IntKind.i64.wrap (i1 - 1)) i2=true then
  if decide (lh_3.length+[(g x (IntKind.i64.wrap (i1 - 1)) i2).1].length≤1073741824)=true then
   cm g c i1 ja0 ja1 ja2 ja3 ja4 jb0 jb1 jb2 jb3 jb4 jc0 jc1 jc2 jc3 jc4 r (i9+1)
    (g x (IntKind.i64.wrap (i1 - 1)) i2).2 (lh_3++[(g x (IntKind.i64.wrap (i1 - 1)) i2).1])
  else false
 else false
else true
theorem Hw (g:Sem Sh.expr→Sem zg→Sem zg→Sem Sh.expr×Sem zg) (c:Sem Sh.expr→Sem zg→Sem zg→Bool) (hg:FK 53 (zA [Sh.expr,zg,zg] [Sh.expr,zg] (fun x=>c x.1 x.2.1 x.2.2.1) fun x=>((g x.1 x.2.1 x.2.2.1).1,(g x.1 x.2.1 x.2.2.1).2,()))) {C:cd} (hC:∀ id,C.ρ0 id=none) (i1:Sem zg) (ja0:zq) (ja1:Int) (ja2:Int) (ja3:zq) (ja4:zq) (jb0:List UInt8) (jb1:Int) (jb2:Int) (jb3:List UInt8) (jb4:List UInt8) (jc0:List UInt8) (jc1:Int) (jc2:Int) (jc3:List UInt8) (jc4:List UInt8) (ja5:LX) (hl:ja5.length≤zD):∀ (m i:Nat) (i2:Int) (lh_3:LX),ja5.length - i=m→i≤ja5.length→cm g c i1 ja0 ja1 ja2 ja3 ja4 jb0 jb1 jb2 jb3 jb4 jc0 jc1 jc2 jc3 jc4 (ja5.drop i) i i2 lh_3=true→
  Reach (FW g c) C 53 (zw Tryz.f53 10) (ex i1 i2 (i:Int) ja0 ja1 ja2 ja3 ja4 ja5 jb0 jb1 jb2 jb3 jb4 jc0 jc1 jc2 jc3 jc4 lh_3) (fun r h=>zY h [Sh.expr,zg] r=some ((bW g c i1 ja0 ja1 ja2 ja3 ja4 jb0 jb1 jb2 jb3 jb4 jc0 jc1 jc2 jc3 jc4 (ja5.drop i) i i2 lh_3).1,(bW g c i1 ja0 ja1 ja2 ja3 ja4 jb0 jb1 jb2 jb3 jb4 jc0 jc1 jc2 jc3 jc4 (ja5.drop i) i i2 lh_3).2,())):=by
 intro m
 induction m with
 | zero=>
  intro i i2 lh_3 hm hi hc
  obtain rfl:i=ja5.length:=by omega
  rw [dq] at hc ⊢
  refine zk (sE hg) (tY g c) (fun id _=>hC id) (BB g c _ _ _ _ _ _ _ _ _ _ _ _ _ _ _ _ _ _ _ _) ?_
  rw [cm] at hc
  generalize hy:bW g c i1 ja0 ja1 ja2 ja3 ja4 jb0 jb1 jb2 jb3 jb4 jc0 jc1 jc2 jc3 jc4 [] _ i2 lh_3=y
  rw [bW] at hy
  simp only [ze.eta,af,bS,Tr.val_brF]
  repeat' (first | with_reducible refine ed hy hc (fun _ hy hc=>?_) (fun _ hy hc=>?_) | with_reducible refine aL hy (fun _ hy=>?_) (fun _ hy=>?_) | with_reducible refine aZ hc (fun hc=>?_) | with_reducible refine zn ?_)
  all_goals (subst hy; first | rfl)
 | succ m IH=>
  intro i i2 lh_3 hm hi hc
  have hlt:i < ja5.length:=by omega
  have IH:=IH (i+1)
  have hcast:((i:Int)+1)=((i+1:Nat):Int):=by omega
  have hwr:=zG i (by omega)
  rw [ez hlt] at hc ⊢
  refine zk (sE hg) (tY g c) (fun id _=>hC id) (BB g c _ _ _ _ _ _ _ _ _ _ _ _ _ _ _ _ _ _ _ _) ?_
  rw [cm] at hc
  generalize hy:bW g c i1 ja0 ja1 ja2 ja3 ja4 jb0 jb1 jb2 jb3 jb4 jc0 jc1 jc2 jc3 jc4 (ja5[i]::ja5.drop (i+1)) (i:Int) i2 lh_3=y
  rw [bW] at hy
  simp only [ze.eta,zV hlt,zF hlt,zZ ja5 _ hlt,hwr,bG]
  clear hwr
  simp only [hcast] at hy
  try simp only [hcast] at hc
  repeat' (first | with_reducible refine ed hy hc (fun _ hy hc=>?_) (fun _ hy hc=>?_) | with_reducible refine aL hy (fun _ hy=>?_) (fun _ hy=>?_) | with_reducible refine aZ hc (fun hc=>?_) | with_reducible refine zn ?_)
  all_goals (subst hy; first | (change Reach _ _ _ _ _ _; apply IH <;> first | omega | assumption) | rfl)
theorem FL (g:Sem Sh.expr→Sem zg→Sem zg→Sem Sh.expr×Sem zg) (c:Sem Sh.expr→Sem zg→Sem zg→Bool) (hg:FK 53 (zA [Sh.expr,zg,zg] [Sh.expr,zg] (fun x=>c x.1 x.2.1 x.2.2.1) fun x=>((g x.1 x.2.1 x.2.2.1).1,(g x.1 x.2.1 x.2.2.1).2,()))) {C:cd} (hC:∀ id,C.ρ0 id=none) (i1:Sem zg) (ja0:zq) (ja1:Int) (ja2:Int) (ja3:zq) (ja4:zq) (jb0:List UInt8) (jb1:Int) (jb2:Int) (jb3:List UInt8) (jb4:List UInt8) (jc0:List UInt8) (jc1:Int) (jc2:Int) (jc3:List UInt8) (jc4:List UInt8) (ja5:LX) (i2:Int) (lh_3:LX) (hc:cm g c i1 ja0 ja1 ja2 ja3 ja4 jb0 jb1 jb2 jb3 jb4 jc0 jc1 jc2 jc3 jc4 ja5 0 i2 lh_3=true):
  Reach (FW g c) C 53 (zw Tryz.f53 10) (ex i1 i2 0 ja0 ja1 ja2 ja3 ja4 ja5 jb0 jb1 jb2 jb3 jb4 jc0 jc1 jc2 jc3 jc4 lh_3) (fun r h=>zY h [Sh.expr,zg] r=some ((bW g c i1 ja0 ja1 ja2 ja3 ja4 jb0 jb1 jb2 jb3 jb4 jc0 jc1 jc2 jc3 jc4 ja5 0 i2 lh_3).1,(bW g c i1 ja0 ja1 ja2 ja3 ja4 jb0 jb1 jb2 jb3 jb4 jc0 jc1 jc2 jc3 jc4 ja5 0 i2 lh_3).2,())):=
 Reach.lenB 0 5 (Sh.expr) ja5 rfl rfl fun hl=>Hw g c hg hC i1 ja0 ja1 ja2 ja3 ja4 jb0 jb1 jb2 jb3 jb4 jc0 jc1 jc2 jc3 jc4 ja5 hl _ 0 i2 lh_3 rfl (be _) hc
def CS (g:Sem Sh.expr→Sem zg→Sem zg→Sem Sh.expr×Sem zg) (c:Sem Sh.expr→Sem zg→Sem zg→Bool) (x0:Sem Sh.expr) (x1:Sem zg) (x2:Sem zg):Sem Sh.expr×Sem zg:=if decide ((↑(length (ze.op x0)):Int) > 8)=true then if decide ((↑(length (ze.s x0)):Int) > 20)=true then if decide ((↑(length (ze.v x0).2.2):Int) > 45)=true then bW g c x1 (ze.op x0) (ze.v x0).1 (ze.v x0).2.1 (ze.v x0).2.2 (ze.s x0) [] 0 0 [] [] (List.take (toNat 8 - toNat 0) (List.drop (toNat 0) (ze.op x0))) (ze.v x0).1 (ze.v x0).2.1 (List.take (toNat 45 - toNat 0) (List.drop (toNat 0) (ze.v x0).2.2)) (List.take (toNat 20 - toNat 0) (List.drop (toNat 0) (ze.s x0))) (ze.l x0) 0 (IntKind.i64.wrap (x2 - 1)) [] else bW g c x1 (ze.op x0) (ze.v x0).1 (ze.v x0).2.1 (ze.v x0).2.2 (ze.s x0) [] 0 0 [] [] (List.take (toNat 8 - toNat 0) (List.drop (toNat 0) (ze.op x0))) (ze.v x0).1 (ze.v x0).2.1 (ze.v x0).2.2 (List.take (toNat 20 - toNat 0) (List.drop (toNat 0) (ze.s x0))) (ze.l x0) 0 (IntKind.i64.wrap (x2 - 1)) [] else if decide ((↑(length (ze.v x0).2.2):Int) > 45)=true then bW g c x1 (ze.op x0) (ze.v x0).1 (ze.v x0).2.1 (ze.v x0).2.2 (ze.s x0) [] 0 0 [] [] (List.take (toNat 8 - toNat 0) (List.drop (toNat 0) (ze.op x0))) (ze.v x0).1 (ze.v x0).2.1
 (List.take (toNat 45 - toNat 0) (List.drop (toNat 0) (ze.v x0).2.2)) (ze.s x0) (ze.l x0) 0 (IntKind.i64.wrap (x2 - 1)) [] else bW g c x1 (ze.op x0) (ze.v x0).1 (ze.v x0).2.1 (ze.v x0).2.2 (ze.s x0) [] 0 0 [] [] (List.take (toNat 8 - toNat 0) (List.drop (toNat 0) (ze.op x0))) (ze.v x0).1 (ze.v x0).2.1 (ze.v x0).2.2 (ze.s x0) (ze.l x0) 0 (IntKind.i64.wrap (x2 - 1)) [] else if decide ((↑(length (ze.s x0)):Int) > 20)=true then if decide ((↑(length (ze.v x0).2.2):Int) > 45)=true then bW g c x1 (ze.op x0) (ze.v x0).1 (ze.v x0).2.1 (ze.v x0).2.2 (ze.s x0) [] 0 0 [] [] (ze.op x0) (ze.v x0).1 (ze.v x0).2.1 (List.take (toNat 45 - toNat 0) (List.drop (toNat 0) (ze.v x0).2.2)) (List.take (toNat 20 - toNat 0) (List.drop (toNat 0) (ze.s x0))) (ze.l x0) 0 (IntKind.i64.wrap (x2 - 1)) [] else bW g c x1 (ze.op x0) (ze.v x0).1 (ze.v x0).2.1 (ze.v x0).2.2 (ze.s x0) [] 0 0 [] [] (ze.op x0) (ze.v x0).1 (ze.v x0).2.1 (ze.v x0).2.2 (List.take (toNat 20 - toNat 0) (List.drop (toNat 0) (ze.s x0))) (ze.l x0) 0 (IntKind.i64.wrap (x2 - 1)) [] else if decide ((↑(length (ze.v x0).2.2):Int) > 45)=true then bW g c x1 (ze.op x0) (ze.v x0).1 (ze.v x0).2.1 (ze.v x0).2.2 (ze.s x0) [] 0 0 [] [] (ze.op x0) (ze.v x0).1
 (ze.v x0).2.1 (List.take (toNat 45 - toNat 0) (List.drop (toNat 0) (ze.v x0).2.2)) (ze.s x0) (ze.l x0) 0 (IntKind.i64.wrap (x2 - 1)) [] else bW g c x1 (ze.op x0) (ze.v x0).1 (ze.v x0).2.1 (ze.v x0).2.2 (ze.s x0) [] 0 0 [] [] (ze.op x0) (ze.v x0).1 (ze.v x0).2.1 (ze.v x0).2.2 (ze.s x0) (ze.l x0) 0 (IntKind.i64.wrap (x2 - 1)) []
def Bj (g:Sem Sh.expr→Sem zg→Sem zg→Sem Sh.expr×Sem zg) (c:Sem Sh.expr→Sem zg→Sem zg→Bool) (x0:Sem Sh.expr) (x1:Sem zg) (x2:Sem zg):Bool:=if decide ((↑(length (ze.op x0)):Int) > 8)=true then if (decide (0≤0)&&decide (0≤8)&&decide (8≤(↑(length (ze.op x0)):Int)))=true then if decide ((↑(length (ze.s x0)):Int) > 20)=true then if (decide (0≤0)&&decide (0≤20)&&decide (20≤(↑(length (ze.s x0)):Int)))=true then if decide ((↑(length (ze.v x0).2.2):Int) > 45)=true then if (decide (0≤0)&&decide (0≤45)&&decide (45≤(↑(length (ze.v x0).2.2):Int)))=true then cm g c x1 (ze.op x0) (ze.v x0).1 (ze.v x0).2.1 (ze.v x0).2.2 (ze.s x0) [] 0 0 [] [] (List.take (toNat 8 - toNat 0) (List.drop (toNat 0) (ze.op x0))) (ze.v x0).1 (ze.v x0).2.1 (List.take (toNat 45 - toNat 0) (List.drop (toNat 0) (ze.v x0).2.2)) (List.take (toNat 20 - toNat 0) (List.drop (toNat 0) (ze.s x0))) (ze.l x0) 0 (IntKind.i64.wrap (x2 - 1)) [] else false else cm g c x1 (ze.op x0) (ze.v x0).1 (ze.v x0).2.1 (ze.v x0).2.2 (ze.s x0) [] 0 0 [] [] (List.take (toNat 8 - toNat 0) (List.drop (toNat 0) (ze.op x0))) (ze.v x0).1 (ze.v x0).2.1 (ze.v x0).2.2
 (List.take (toNat 20 - toNat 0) (List.drop (toNat 0) (ze.s x0))) (ze.l x0) 0 (IntKind.i64.wrap (x2 - 1)) [] else false else if decide ((↑(length (ze.v x0).2.2):Int) > 45)=true then if (decide (0≤0)&&decide (0≤45)&&decide (45≤(↑(length (ze.v x0).2.2):Int)))=true then cm g c x1 (ze.op x0) (ze.v x0).1 (ze.v x0).2.1 (ze.v x0).2.2 (ze.s x0) [] 0 0 [] [] (List.take (toNat 8 - toNat 0) (List.drop (toNat 0) (ze.op x0))) (ze.v x0).1 (ze.v x0).2.1 (List.take (toNat 45 - toNat 0) (List.drop (toNat 0) (ze.v x0).2.2)) (ze.s x0) (ze.l x0) 0 (IntKind.i64.wrap (x2 - 1)) [] else false else cm g c x1 (ze.op x0) (ze.v x0).1 (ze.v x0).2.1 (ze.v x0).2.2 (ze.s x0) [] 0 0 [] [] (List.take (toNat 8 - toNat 0) (List.drop (toNat 0) (ze.op x0))) (ze.v x0).1 (ze.v x0).2.1 (ze.v x0).2.2 (ze.s x0) (ze.l x0) 0 (IntKind.i64.wrap (x2 - 1)) [] else false else if decide ((↑(length (ze.s x0)):Int) > 20)=true then if (decide (0≤0)&&decide (0≤20)&&decide (20≤(↑(length (ze.s x0)):Int)))=true then if decide ((↑(length (ze.v x0).2.2):Int) > 45)=true then if (decide (0≤0)&&decide (0≤45)&&decide (45≤(↑(length (ze.v x0).2.2):Int)))=true then cm g c x1 (ze.op x0) (ze.v x0).1 (ze.v x0).2.1 (ze.v x0).2.2 (ze.s x0) [] 0 0 [] [] (ze.op x0) (ze.v x0).1
 (ze.v x0).2.1 (List.take (toNat 45 - toNat 0) (List.drop (toNat 0) (ze.v x0).2.2)) (List.take (toNat 20 - toNat 0) (List.drop (toNat 0) (ze.s x0))) (ze.l x0) 0 (IntKind.i64.wrap (x2 - 1)) [] else false else cm g c x1 (ze.op x0) (ze.v x0).1 (ze.v x0).2.1 (ze.v x0).2.2 (ze.s x0) [] 0 0 [] [] (ze.op x0) (ze.v x0).1 (ze.v x0).2.1 (ze.v x0).2.2 (List.take (toNat 20 - toNat 0) (List.drop (toNat 0) (ze.s x0))) (ze.l x0) 0 (IntKind.i64.wrap (x2 - 1)) [] else false else if decide ((↑(length (ze.v x0).2.2):Int) > 45)=true then if (decide (0≤0)&&decide (0≤45)&&decide (45≤(↑(length (ze.v x0).2.2):Int)))=true then cm g c x1 (ze.op x0) (ze.v x0).1 (ze.v x0).2.1 (ze.v x0).2.2 (ze.s x0) [] 0 0 [] [] (ze.op x0) (ze.v x0).1 (ze.v x0).2.1 (List.take (toNat 45 - toNat 0) (List.drop (toNat 0) (ze.v x0).2.2)) (ze.s x0) (ze.l x0) 0 (IntKind.i64.wrap (x2 - 1)) [] else false else cm g c x1 (ze.op x0) (ze.v x0).1 (ze.v x0).2.1 (ze.v x0).2.2 (ze.s x0) [] 0 0 [] [] (ze.op x0) (ze.v x0).1 (ze.v x0).2.1 (ze.v x0).2.2 (ze.s x0) (ze.l x0) 0 (IntKind.i64.wrap (x2 - 1)) []
def zbd (g:Sem Sh.expr→Sem zg→Sem zg→Sem Sh.expr×Sem zg) (c:Sem Sh.expr→Sem zg→Sem zg→Bool):zB:=zA [Sh.expr,zg,zg] [Sh.expr,zg] (fun x=>Bj g c x.1 x.2.1 x.2.2.1) fun x=>((CS g c x.1 x.2.1 x.2.2.1).1,(CS g c x.1 x.2.1 x.2.2.1).2,())
theorem Qs (g:Sem Sh.expr→Sem zg→Sem zg→Sem Sh.expr×Sem zg) (c:Sem Sh.expr→Sem zg→Sem zg→Bool) (hg:FK 53 (zA [Sh.expr,zg,zg] [Sh.expr,zg] (fun x=>c x.1 x.2.1 x.2.2.1) fun x=>((g x.1 x.2.1 x.2.2.1).1,(g x.1 x.2.1 x.2.2.1).2,()))):FK 53 (zbd g c):=by
 refine zM (tY g c) fun x hc C hC=>?_
 unfold Bj at hc
 refine zk (sE hg) (tY g c) (fun id _=>hC id) (X6 g c x.1 x.2.1 x.2.2.1) ?_
 generalize hy:CS g c x.1 x.2.1 x.2.2.1=y
 unfold CS at hy
 try simp only [ze.eta,zt]
 repeat' (first | with_reducible refine ed hy hc (fun _ hy hc=>?_) (fun _ hy hc=>?_) | with_reducible refine aL hy (fun _ hy=>?_) (fun _ hy=>?_) | with_reducible refine aZ hc (fun hc=>?_) | with_reducible refine zn ?_)
 all_goals (subst hy; first | (change Reach _ _ _ _ _ _; apply FL g c hg hC <;> first | assumption | exact hc) | rfl)
mutual
def jW:Nat→Sem Sh.expr→Sem zg→Sem zg→Sem Sh.expr×Sem zg
 | 0=>fun _ _ _=>default
 | n+1=>CS (jW n) (nW n)
def nW:Nat→Sem Sh.expr→Sem zg→Sem zg→Bool
 | 0=>fun _ _ _=>false
 | n+1=>Bj (jW n) (nW n)
end
theorem He:∀ n,FK 53 (zA [Sh.expr,zg,zg] [Sh.expr,zg] (fun x=>nW n x.1 x.2.1 x.2.2.1) fun x=>((jW n x.1 x.2.1 x.2.2.1).1,(jW n x.1 x.2.1 x.2.2.1).2,()))
 | 0=>cQ ⟨Tryz.f53,(tY default default).1,(tY default default).2.1,(tY default default).2.2.1⟩ (fun _=>rfl)
 | n+1=>Qs (jW n) (nW n) (He n)
def F15:zB:=zA [Sh.expr,zg,zg] [Sh.expr,zg] (fun x=>nW 16 x.1 x.2.1 x.2.2.1) fun x=>((jW 16 x.1 x.2.1 x.2.2.1).1,(jW 16 x.1 x.2.1 x.2.2.1).2,())
theorem VV:FK 53 F15:=He 16

def XX (g:ze→ze→Bool):List ze→List ze→Bool
 | x::r,y::s=>if (!g x y)=true then false else XX g r s
 | _,_=>true
def MA (g c:ze→ze→Bool):List ze→List ze→Bool
 | x::r,y::s=>if c x y=true then (if (!g x y)=true then true else MA g c r s) else false
 | _,_=>true

noncomputable def F0 (g c:ze→ze→Bool):bb:=A1.add 128 (zA [.expr,.expr] [.bool] (fun x=>c x.1 x.2.1) (fun x=>(g x.1 x.2.1,())))
theorem sK {g c:ze→ze→Bool} (hg:FK 128 (zA [.expr,.expr] [.bool] (fun x=>c x.1 x.2.1) (fun x=>(g x.1 x.2.1,())))):zm (F0 g c):=lP.add hg
abbrev Zb:Nat→zT:=fun j=>if j=4 then { slots:=[1,2,15,16,17] } else { }
abbrev Fl (l1:List ze) (l15:List ze) (i16:Int) (i17:Int):St:={ tmps:=(tm 32 [(1,AV.sl Sh.expr l1),(2,AV.clo (Fn.func 128) [] []),(15,AV.sl Sh.expr l15),(16,ai i16),(17,ai i17)]),heap:=[] }
theorem MX (g c:ze→ze→Bool):zz (F0 g c).P 196 Tryz.f196 3:=aG (by kernel_rfl)
theorem zcd (g c:ze→ze→Bool) (l:List ze) (m:List ze):rn (F0 g c) 0 Zb Tryz.f196 [AV.sl Sh.expr l,AV.sl Sh.expr m,AV.clo (Fn.func 128) [] []] []=Tr.br ((↑l.length:Int) != (↑m.length:Int)) (Tr.ok (zp.ret (AV.kb false) [])) (Tr.ok (zp.head 4 (zw Tryz.f196 4) (Fl m l (↑l.length:Int) 0))):=by kernel_rfl
theorem JM (g c:ze→ze→Bool) (l1:List ze) (l15:List ze) (i16:Int) (i17:Int):rh (F0 g c) 0 Zb Tryz.f196 4 (Fl l1 l15 i16 i17)=Tr.br (decide (i17 < i16)) (Tr.chk (zJ i17 l15.length) (Tr.chk (zJ i17 l1.length) (Tr.chk (c (zC (l15.getD i17.toNat (zj Sh.expr))) (zC (l1.getD i17.toNat (zj Sh.expr)))) (Tr.br (!g (zC (l15.getD i17.toNat (zj Sh.expr))) (zC (l1.getD i17.toNat (zj Sh.expr)))) (Tr.ok (zp.ret (AV.kb false) [])) (Tr.ok (zp.head 4 (zw Tryz.f196 4) (Fl l1 l15 i16 (IntKind.i64.wrap (i17+1))))))))) (Tr.ok (zp.ret (AV.kb true) [])):=by kernel_rfl

theorem zbn {g c:ze→ze→Bool} (hg:FK 128 (zA [.expr,.expr] [.bool] (fun x=>c x.1 x.2.1) (fun x=>(g x.1 x.2.1,())))) {C:cd} (hC:∀ id,0≤id→C.ρ0 id=none) (l m:List ze) (hlm:l.length=m.length) (hl:l.length≤zD):
  ∀ (k i:Nat),l.length - i=k→i≤l.length→MA g c (l.drop i) (m.drop i)=true→Reach (F0 g c) C 196 (zw Tryz.f196 4) (Fl m l l.length i) (fun r h=>(r,h)=(.kb (XX g (l.drop i) (m.drop i)),[])):=by
 intro k
 induction k with
 | zero=>
  intro i hk hi hc
  obtain rfl:i=l.length:=by omega
  refine zk (sK hg) (MX g c) hC (JM g c _ _ _ _) ?_
  simp only [af,Tr.val_brF,dq]
  rfl
 | succ k IH=>
  intro i hk hi hc
  have hlt:i < l.length:=by omega
  have hlt':i < m.length:=by omega
  refine zk (sK hg) (MX g c) hC (JM g c _ _ _ _) ?_
  rw [ez hlt,ez hlt'] at hc ⊢
  rw [MA] at hc
  have hc1:=lZ hc
  simp only [zV hlt,zF hlt,zF hlt',zZ l _ hlt,zZ m _ hlt',ze.eta,Tr.val_brT,Tr.val_chkT,hc1.1,zG i (by omega)]
  refine je (fun h=>?_) (fun h=>?_)
  ·rw [XX,if_pos h]; rfl
  ·rw [XX,if_neg (jy h)]
   have h2:=hc1.2
   rw [if_neg (jy h)] at h2
   exact IH (i+1) (by omega) (by omega) h2

def MB (g:ze→ze→Bool) (l m:List ze):Bool:=if ((↑l.length:Int) != (↑m.length:Int))=true then false else XX g l m
def wS (g c:ze→ze→Bool) (l m:List ze):Bool:=if ((↑l.length:Int) != (↑m.length:Int))=true then true else MA g c l m
def G50 (g c:ze→ze→Bool):cg [some (.sl .expr),some (.sl .expr),none]:=fun x h=>match x,h with
 | (l,m,.clo (.func 128) [] [],_),[]=>.chk (wS g c l m) (.ok (.bool (MB g l m),[]))
 | _,_=>.err
def F50 (g c:ze→ze→Bool):zB:=zP [some (.sl .expr),some (.sl .expr),none] (G50 g c)

theorem Reach.weaken {E:bb} {C:cd} {fn:FuncId} {todo:List Item} {st:St} {Q Q':AV→List AO→Prop} (h:Reach E C fn todo st Q) (hq:∀ r h,Q r h→∃ r',Q' r' h∧∀ w U ρ v,Rv w U ρ r v→Rv w U ρ r' v):Reach E C fn todo st Q':=by
 intro b cs a w U ρ h1 h2 hc hW
 obtain ⟨e,w',fr,⟨v,r,h',U',ρ',he,hq1,hrv,hrest⟩,hcm⟩:=h b cs a w U ρ h1 h2 hc hW
 obtain ⟨r',hq2,hrr⟩:=hq r h' hq1
 exact ⟨e,w',fr,⟨v,r',h',U',ρ',he,hq2,hrr _ _ _ _ hrv,hrest⟩,hcm⟩

theorem Wp {g c:ze→ze→Bool} (hg:FK 128 (zA [.expr,.expr] [.bool] (fun x=>c x.1 x.2.1) (fun x=>(g x.1 x.2.1,())))):FK 196 (F50 g c):=by
 refine bc (E:=F0 g c) (MX g c) fun x h0 res hx C hC=>?_
 unfold G50 at hx
 split at hx
 ·rename_i l m u
  simp only [Tr.val] at hx
  split at hx
  ·rename_i hc
   simp only [ae] at hx
   subst hx
   refine Reach.len 0 .expr l rfl fun hl=>?_
   refine Reach.weaken (Q:=fun r h=>(r,h)=(.kb (MB g l m),[])) ?_ ?_
   ·refine zk (n0:=0) (sK hg) (MX g c) hC (zcd g c l m) ?_
    unfold wS at hc
    unfold MB
    refine je (fun h=>?_) (fun h=>?_)
    ·rw [if_pos h]; rfl
    ·rw [if_neg (jy h)] at hc ⊢
     have:(l.length:Int)=m.length:=by simpa using h
     have:l.length=m.length:=by omega
     exact zbn hg hC l m this hl _ 0 rfl (be _) hc
   ·rintro r h hq
    cases hq
    refine ⟨_,rfl,fun w U ρ v hv=>?_⟩
    cases hv
    exact .bool _
  ·simp at hx
 ·simp at hx

noncomputable def Mw (g c:ze→ze→Bool):bb:=A1.add 196 (F50 g c)
theorem HU {g c:ze→ze→Bool} (hg:FK 128 (zA [.expr,.expr] [.bool] (fun x=>c x.1 x.2.1) (fun x=>(g x.1 x.2.1,())))):zm (Mw g c):=lP.add (Wp hg)
def eqV (a b:V):Bool:=a.1==b.1&&(a.2.1==b.2.1&&(a.2.2==b.2.2&&true))
def Kx (g:ze→ze→Bool) (a b:ze):Bool:=bif a.op==b.op then bif eqV a.v b.v then bif a.s==b.s then MB g a.l b.l else false else false else false
def yZ (g c:ze→ze→Bool) (a b:ze):Bool:=bif a.op==b.op then bif eqV a.v b.v then bif a.s==b.s then wS g c a.l b.l else true else true else true
theorem JB (g c:ze→ze→Bool):zz (Mw g c).P 128 Tryz.f128 2:=aG (by kernel_rfl)
theorem zbU (g c:ze→ze→Bool) (l:ze) (m:ze):rn (Mw g c) 0 (fun _=>{}) Tryz.f128 [zy Sh.expr l,zy Sh.expr m] []=Tr.chk (yZ g c l m) (Tr.ok (zp.ret (AV.bool (Kx g l m)) [])):=by kernel_rfl
theorem QE {g c:ze→ze→Bool} (hg:FK 128 (zA [.expr,.expr] [.bool] (fun x=>c x.1 x.2.1) (fun x=>(g x.1 x.2.1,())))):FK 128 (zA [.expr,.expr] [.bool] (fun x=>yZ g c x.1 x.2.1) (fun x=>(Kx g x.1 x.2.1,()))):=by
 refine zM (E:=Mw g c) (JB g c) fun x hx C hC=>?_
 refine zk (n0:=0) (HU hg) (JB g c) (fun id _=>hC id) (zbU g c x.1 x.2.1) ?_
 exact cy hx rfl
mutual
def qC:Nat→ze→ze→Bool
 | 0=>fun _ _=>false
 | n+1=>Kx (qC n)
def j8:Nat→ze→ze→Bool
 | 0=>fun _ _=>false
 | n+1=>yZ (qC n) (j8 n)
end
theorem Hg:∀ n,FK 128 (zA [.expr,.expr] [.bool] (fun x=>j8 n x.1 x.2.1) (fun x=>(qC n x.1 x.2.1,())))
 | 0=>cQ ⟨Tryz.f128,(JB (fun _ _=>false) (fun _ _=>false)).1,(JB (fun _ _=>false) (fun _ _=>false)).2.1,(JB (fun _ _=>false) (fun _ _=>false)).2.2.1⟩ (fun _=>rfl)
 | n+1=>QE (Hg n)
def F29:zB:=zA [.expr,.expr] [.bool] (fun x=>j8 16 x.1 x.2.1) (fun x=>(qC 16 x.1 x.2.1,()))
theorem V5:FK 128 F29:=Hg 16

noncomputable def Ee:=A1.addL [(53,F15),(128,F29)]
theorem wk:zm Ee:=lP.addL <| fc VV <| fc V5 g6
end Cad
