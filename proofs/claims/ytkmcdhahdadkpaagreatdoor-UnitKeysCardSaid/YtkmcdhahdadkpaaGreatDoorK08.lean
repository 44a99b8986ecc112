/- The library's functions. Functions from plain data to plain data, where a guard holds; recursion. Values: what may be. Values: what they say. Loops; values in order. -/
import Derived.Test.YtkmcdhahdadkpaaGreatDoorK06
import Derived.Test.YtkmcdhahdadkpaaGreatDoorK07
import Derived.Test.YtkmcdhahdadkpaaGreatDoorK05
namespace Cad
open Go Go.Proofs Go.RowKit Go.Lib
open List renaming drop→Qh,take→Qg
open AV renaming agg→Qd
open AO renaming box→Qa
open Sh renaming bool→Q7,str→Q6
open Bool renaming false→Q4,true→Q3
open Option renaming none→Q2,some→Q1
open Decidable renaming decide→Q0
open Int (toNat)
open List (length)
open Tr (chk br)
open AV (nils agg tup ptr kb str sl)
theorem lG.below{w w':World}(h:Below w.heap.size w w'):lG w w':=
 ⟨h.size,h.os,h.output,h.tape,λa ha=>Ak (h.block a.block ha)⟩
theorem eG{E:bX}{C:eS}{w w':World}{U:Nat->Prop}{r:AV}{v:Value}{h0:List AO}{ρ:Nat->Option Value}(hH:jn C w U ρ (λj=>h0.getD j .dead))(hnew:∀id,h0.length<=id->ρ id=Q2)
  (hr0:∀id v,C.ρ0 id=Q1 v->ρ id=Q1 v) (hW:Wd E.gl C w U) (hb:Below w.heap.size w w') (hr:Rv w' U ρ r v):P4 E C (λr' h=>(r',h)=(r,h0)) (.returned v) w':=by
 have hk:∀b,b<w.heap.size->w'.heap[b]?=w.heap[b]?:=hb.block;refine⟨v,r,h0,U,ρ,rfl,rfl,hr,⟨λid=>?_,hH.inj,hH.blk⟩,hnew,hr0,⟨hW.ext.trans (lG.below hb),λb hb' hn=>?_,λb hu=>iG (hW.ub b hu) hb.size,hW.u1,hW.u2,λg=>?_⟩⟩
 ·exact(hH.ob id).mono hb.size (λb hb' _=>hk b hb') (λ_ _ h=>h) (λ_ _ h=>h) (λb ho=>⟨hk b ((hH.ob id).inU ho).2,((hH.ob id).inU ho).1⟩)
 ·rw[hk b (iG hb' hW.ext.sz)];exact hW.same b hb' hn
 ·exact(hW.gl g).mono hb.size (λb hb' _=>hk b hb') (λ_ _ h=>h) (λ_ _ h=>h)
noncomputable def zbM:bX:=OC.aut 63 Tryz.f63 1
theorem ziQ:zJ OC.P 63 Tryz.f63 1:=bQ kw
theorem Rn:zx zbM:=ii Iq ziQ
def BC(c:Int):Bool:=bif Q0 (c<32)then Q3 else Q0 (c>126)
theorem zlg(c:Int):((bg (List.replicate 1 Q2) (fe OC Tryz.f63 (List.replicate 1 Q2))) [.int .i32 c] (λ_=>.dead) 0).val=Q1 {val:=.bool (BC c)}:=kw
theorem zdc(w:World)(U:Nat->Prop)(hgl:C4 OC.gl w U)(hub:∀b,U b->b<w.heap.size):PredGrows Tryz.prog 63 #[] (λr=>BC r) w:=by
 intro W x hx hB;have hF:FK 63 (bg (List.replicate 1 Q2) (fe OC Tryz.f63 (List.replicate 1 Q2))):=bY _ Iq ziQ;have hr:dn W U (λ_=>Q2) [.int .i32 (x:Int)] [.int .i32 (x:Int)]:=by
  refine⟨rfl,λj c v hc hv=>?_⟩;cases j with
  | zero=>
   simp at hc hv;subst hc;subst hv;refine .int _ _ ⟨?_,?_⟩
   ·show(-2147483648:Int)<=x;omega
   ·show(x:Int)<=2147483647;omega
  |succ j=>simp at hc
 have:=(hF.calls W U (λ_=>Q2) (λ_=>.dead) 0 [.int .i32 (x:Int)] [.int .i32 (x:Int)] _ [] (zlg x) hr (λb hb=>iG (hub b hb) hB.size) (λg=>(hgl g).mono hB.size (λb hb _=>hB.block b hb) (λ_ _ h=>h) (λ_ _ h=>h)) ⟨sw,sw⟩ (by simp[AV.idsL,AV.ids]) sw sw).1;refine this.mono ?_;rintro e w' ⟨v,U',ρ',rfl,hef⟩;have hv:=hef.val;cases hv;exact⟨rfl,⟨hef.ext.os,hef.ext.tape,hef.ext.out,hef.ext.sz,λb hb=>hef.same b hb sw⟩⟩
def o5(s:zB):Int:=Lib.idxFunc (λr=>BC r) Q3 ⟨s.toArray⟩
def G36:ic [Q1 .str,Q2]:=λx h=>match x,h with
 |(s,.clo (.func 63) [] [],_),[]=>.ok (.int .i64 (o5 s),[])
 |_,_=>.err
theorem zkW:Go.Proofs.Enters Tryz.prog 63:=by
  cases hb:Tryz.f63.body with
  | none => have:Tryz.f63.body.isNone=false:=by kernel_rfl
            rw[hb]at this;cases this
  |some c=>exact Go.Proofs.enters_of (fn:=Tryz.f63) kw kw hb
theorem zfv:FK 64 (bg [Q1 .str,Q2] G36):=by
 refine fG (E:=zbM) ⟨Tryz.f64,kw,kw,kw⟩ λx h0 res hx=>?_
 unfold G36 at hx;split at hx
 ·rename_i s u;simp only[Tr.val_ok,bz]at hx;subst hx;intro C w U ρ vals _ hr hH hnew hr0 hW;have hl:=hr.len
  match vals,hl,hr with
  | [v1,v2],_,hr=>
   have h1:=hr.rv 0 (.str s) v1 rfl rfl;have h2:=hr.rv 1 (.clo (.func 63) [] []) v2 rfl rfl;cases h1 with
   |str _ hs=>
   cases h2 with
   |clo _ _ _ vf vc hf hc _ _=>
   have hf':vf=[]:=xI hf.symm;have hc':vc=[]:=xI hc.symm;subst hf';subst hc';have:=Tryz.strings_IndexFunc_grows 63 #[] zkW (λr=>BC r) ⟨s.toArray⟩ w (zdc w U hW.gl hW.ub);refine this.mono ?_;rintro e w' ⟨rfl,hb⟩;refine eG hH hnew hr0 hW hb (.int _ _ ?_);have hrg:=Lib.idxFunc_range (λr=>BC r) Q3 ⟨s.toArray⟩;have hsz:(⟨s.toArray⟩:ByteArray).size=s.length:=by simp[ByteArray.size]
   have hm:aF=9223372036854775807:=rfl;rw[hsz]at hrg;change o5 s=-1\/(0<=o5 s/\o5 s<s.length)at hrg;refine⟨?_,?_⟩
   ·show(-9223372036854775808:Int)<=_;omega
   ·show _<=(9223372036854775807:Int);omega
 ·simp at hx
noncomputable def th:bX:=zbM.add 64 (bg [Q1 .str,Q2] G36)
theorem j5:zx th:=Rn.add zfv
open Go
def fh(ks outs:List Sh)(c:zy (ks.map Q1)->Bool)(g:zy (ks.map Q1)->zy (outs.map Q1)):ic (ks.map Q1):=λx h=>match h with
 |[]=>.chk (c x) (.ok (xz outs (g x),[]))
 |_=>.err
def zR(ks outs:List Sh)(c:zy (ks.map Q1)->Bool)(g:zy (ks.map Q1)->zy (outs.map Q1)):zY:=bg (ks.map Q1) (fh ks outs c g)
theorem aJ{P:Program}{gl:Nat->AV}{E:bX}{k:FuncId}{f:Func}{ks outs:List Sh}{c:zy (ks.map Q1)->Bool}{g:zy (ks.map Q1)->zy (outs.map Q1)}(hf:zJ E.P k f ks.length)
  (h:∀x,c x=Q3->∀C:eS,(∀id,C.ρ0 id=Q2)->Reach E C k (bt f) (bc f.ntmps (je (ks.map Q1) x) []) (λr h=>aM h outs r=Q1 (g x))) (qp:E.P=P:=by rfl) (qg:E.gl=gl:=by rfl):nX P gl k (zR ks outs c g):=by
 subst qp qg;refine dt (by simpa using hf) λx h0 res hx C hC=>?_
 unfold fh at hx;split at hx
 ·simp only[Tr.val]at hx;split at hx
  ·rename_i hc;simp only[bz]at hx;subst hx;exact Reach.plain (λid=>hC id (by simp)) (h x hc C (λid=>hC id (by simp)))
  ·simp at hx
 ·simp at hx
theorem xS{P:Program}{gl:Nat->AV}{k:FuncId}{kinds:List (Option Sh)}{ι:Type}[Nonempty ι]{G:ic kinds}{Gs:ι->ic kinds}(h:∀i,nX P gl k (bg kinds (Gs i)))
  (hg:∀x h0 res,(G x h0).val=Q1 res->∃i,(Gs i x h0).val=Q1 res):nX P gl k (bg kinds G):=by
 refine⟨(h (Classical.choice inferInstance)).fn,?_⟩;intro w U ρ hp n args vals f fp hv;have:∃i,(bg kinds (Gs i) args hp n).val=Q1 f:=by
  unfold bg at hv⊢;split at hv
  ·rename_i ps hps;simp only at hv⊢;split at hv
   ·rename_i hcond;split at hv
    ·rename_i xs hxs;simp only[Tr.val_bind,fQ]at hv;obtain⟨res,h1,h2⟩:=hv;obtain⟨i,hi⟩:=hg _ _ _ h1;exact⟨i,by simp only[hcond,if_true,Tr.val_bind,fQ];exact⟨res,hi,h2⟩⟩
    ·simp at hv
   ·simp at hv
  ·simp at hv
 obtain⟨i,hi⟩:=this;exact(h i).calls w U ρ hp n args vals f fp hi
def Nc(ks outs:List Sh)(g:zy (ks.map Q1)->zy (outs.map Q1)):ic (ks.map Q1):=λx h=>match h with
 |[]=>.ok (xz outs (g x),[])
 |_=>.err
def aE(ks outs:List Sh)(g:zy (ks.map Q1)->zy (outs.map Q1)):zY:=bg (ks.map Q1) (Nc ks outs g)
theorem Mh{P:Program}{gl:Nat->AV}{k:FuncId}{ks outs:List Sh}{g:zy (ks.map Q1)->zy (outs.map Q1)}(h:nX P gl k (zR ks outs (λ_=>Q3) g)):nX P gl k (aE ks outs g):=by
 refine xS (ι:=Unit) (Gs:=λ_=>fh ks outs (λ_=>Q3) g) (λ_=>h) λx h0 res hv=>⟨(),?_⟩
 unfold Nc at hv;unfold fh;split at hv
 ·simpa[Tr.val]using hv
 ·simp at hv
theorem zZ{P:Program}{gl:Nat->AV}{E:bX}{k:FuncId}{f:Func}{ks outs:List Sh}{g:zy (ks.map Q1)->zy (outs.map Q1)}(hf:zJ E.P k f ks.length)
  (h:∀x,∀C:eS,(∀id,C.ρ0 id=Q2)->Reach E C k (bt f) (bc f.ntmps (je (ks.map Q1) x) []) (λr h=>aM h outs r=Q1 (g x))) (qp:E.P=P:=by rfl) (qg:E.gl=gl:=by rfl):nX P gl k (aE ks outs g):=by
 subst qp qg;exact Mh (aJ hf λx _ C hC=>h x C hC)
def MN(outs:List Sh):zC->Option (zy (outs.map Q1))
 |.ret v h=>aM h outs v
 |_=>Q2
theorem Tr.sat_of_res{E:bX}{C:eS}{fn:FuncId}{outs:List Sh}{y:zy (outs.map Q1)}{t:Tr zC}(h:t.val.bind (MN outs)=Q1 y):t.Sat (jD E C fn (λr h=>aM h outs r=Q1 y)):=by
 rw[fQ]at h;obtain⟨l,h1,h2⟩:=h;refine Tr.sat_of_val h1 ?_;cases l with
 |ret v h=>exact h2
 |head _ _ _=>cases h2
 |fork _ _ _ _=>cases h2
theorem aR{E:bX}{C:eS}{k:FuncId}{f:Func}{outs:List Sh}{y:zy (outs.map Q1)}{n n0:Nat}(hE:zx E)(hf:zJ E.P k f n)(hC:∀id,n0<=id->C.ρ0 id=Q2){keep:Nat->aN}{fuel:Nat}
  {todo:List Item} {st:St} {t:Tr zC} (ht:run E n0 keep f.results.toList fuel todo st=t) (h:t.val.bind (MN outs)=Q1 y):Reach E C k todo st (λr h=>aM h outs r=Q1 y):=by
 refine dq hE hf hC keep fuel ?_;rw[ht];exact Tr.sat_of_res h
theorem zf.eta:∀e:zf,zf.mk e.op e.v e.s e.l=e
 |.mk _ _ _ _=>rfl
structure HL (E E0:bX):Prop where
 p:E.P=E0.P
 g:E.gl=E0.gl
theorem HL.refl(E:bX):HL E E:=⟨rfl,rfl⟩
theorem HL.add{E E0:bX}(h:HL E E0)(k:FuncId)(F:zY):HL (E.add k F) E0:=⟨h.p,h.g⟩
abbrev zm(e:zf):zf:=.mk e.op e.v e.s e.l
theorem zk(e:zf):zm e=e:=zf.eta e
open Go Go.Proofs
abbrev TS:=Sem Q6
abbrev LX:=List (Sem Sh.expr)
abbrev LC:=List (Sem zj)
abbrev LS:=List (Sem Q6)
abbrev LV:=List (Sem ze)
abbrev LI:=List (Sem zg)
abbrev LF:=List (Sem zr)
abbrev V:=Sem ze
def aW(x0:Sem ze):Sem Q7:=if(x0.1==0)=Q3 then if(x0.2.1!=0)=Q3 then Q4 else x0.2.2==[]else if(x0.1==1)=Q3 then x0.2.2==[]else if(x0.1==2)=Q3 then bif x0.2.1==0 then bif Q0 ((↑(length x0.2.2):Int)<=40)then Q0 (o5 x0.2.2<0)else Q4 else Q4 else if(x0.1==3)=Q3 then bif x0.2.1==0 then x0.2.2==[]else bif x0.2.1==1 then x0.2.2==[]else Q4 else Q4
theorem ziG:zJ th.P 34 Tryz.f34 1:=bQ kw
theorem zk6(x0:Sem ze):rn th 0 (λ_=>{ }) Tryz.f34 [zF ze x0] []=br (x0.1==0) (br (x0.2.1!=0) (Tr.ok (zC.ret (kb Q4) [])) (Tr.ok (zC.ret (AV.bool (x0.2.2==[])) []))) (br (x0.1==1) (Tr.ok (zC.ret (AV.bool (x0.2.2==[])) [])) (br (x0.1==2) (Tr.ok (zC.ret (AV.bool (bif x0.2.1==0 then bif Q0 ((↑(length x0.2.2):Int)<=40)then Q0 (o5 x0.2.2<0)else Q4 else Q4)) [])) (br (x0.1==3) (Tr.ok (zC.ret (AV.bool (bif x0.2.1==0 then x0.2.2==[]else bif x0.2.1==1 then x0.2.2==[]else Q4)) [])) (Tr.ok (zC.ret (kb Q4) []))))):=kw
def F21:zY:=aE [ze] [Q7] λx=>(aW x.1,())
theorem zfl:FK 34 F21:=by
 refine zZ ziG λx C hC=>?_
 refine aR j5 ziG (λid _=>hC id) (zk6 x.1) ?_;simp only[Tr.val,aW];repeat' split
 all_goals rfl
def aQ(x0:Sem zg):Sem ze:=if(x0==0)=Q3 then(0,0,[])else(3,IntKind.i64.wrap (x0-1),[])
theorem zi9:zJ th.P 333 Tryz.f333 1:=bQ kw
theorem zlz(x0:Sem zg):rn th 0 (λ_=>{ }) Tryz.f333 [zF zg x0] []=br (x0==0) (Tr.ok (zC.ret (Qd [ai 0,ai 0,str []]) [])) (Tr.ok (zC.ret (Qd [ai 3,ai (IntKind.i64.wrap (x0-1)),str []]) [])):=kw
def F57:zY:=aE [zg] [ze] λx=>(aQ x.1,())
theorem zfP:FK 333 F57:=by
 refine zZ zi9 λx C hC=>?_
 refine aR j5 zi9 (λid _=>hC id) (zlz x.1) ?_;simp only[Tr.val,aQ];repeat' split
 all_goals rfl
noncomputable def zdE:zY:=bg (List.replicate 1 Q2) (fe th Tryz.f165 (List.replicate 1 Q2))
theorem ZF:FK 165 zdE:=bY _ j5 (bQ kw)
noncomputable def zdF:zY:=bg (List.replicate 1 Q2) (fe th Tryz.f166 (List.replicate 1 Q2))
theorem ZG:FK 166 zdF:=bY _ j5 (bQ kw)
noncomputable def zdG:zY:=bg (List.replicate 1 Q2) (fe th Tryz.f167 (List.replicate 1 Q2))
theorem ZH:FK 167 zdG:=bY _ j5 (bQ kw)
noncomputable def lm:=th.addL [(34,F21),(333,F57),(165,zdE),(166,zdF),(167,zdG)]
theorem iP:zx lm:=j5.addL<|fc zfl<|fc zfP<|fc ZF<|fc ZG<|fc ZH iV
def ap(x0:Sem ze):Sem ze:=if(!aW x0)=Q3 then(0,0,[])else x0
theorem zjd:zJ lm.P 107 Tryz.f107 1:=bQ kw
theorem zlD(x0:Sem ze):rn lm 0 (λ_=>{ }) Tryz.f107 [zF ze x0] []=br (!aW x0) (Tr.ok (zC.ret (Qd [ai 0,ai 0,str []]) [])) (Tr.ok (zC.ret (Qd [ai x0.1,ai x0.2.1,str x0.2.2]) [])):=kw
def F61:zY:=aE [ze] [ze] λx=>(ap x.1,())
theorem zfU:FK 107 F61:=by
 refine zZ zjd λx C hC=>?_
 refine aR iP zjd (λid _=>hC id) (zlD x.1) ?_;simp only[Tr.val,ap];repeat' split
 all_goals rfl
def dR(x0:Sem ze):Sem zg:=if(bif x0.1!=3 then Q3 else !aW x0)=Q3 then 0 else IntKind.i64.wrap (1+x0.2.1)
theorem zi8:zJ lm.P 277 Tryz.f277 1:=bQ kw
theorem zly(x0:Sem ze):rn lm 0 (λ_=>{ }) Tryz.f277 [zF ze x0] []=br (bif x0.1!=3 then Q3 else !aW x0) (Tr.ok (zC.ret (ai 0) [])) (Tr.ok (zC.ret (ai (IntKind.i64.wrap (1+x0.2.1))) [])):=kw
def F56:zY:=aE [ze] [zg] λx=>(dR x.1,())
theorem zfO:FK 277 F56:=by
 refine zZ zi8 λx C hC=>?_
 refine aR iP zi8 (λid _=>hC id) (zly x.1) ?_;simp only[Tr.val,dR];repeat' split
 all_goals rfl
def dj(x0:Sem Q7):Sem ze:=if x0=Q3 then aQ 2 else aQ 1
theorem zjb:zJ lm.P 335 Tryz.f335 1:=bQ kw
theorem zlB(x0:Sem Q7):rn lm 0 (λ_=>{ }) Tryz.f335 [zF Q7 x0] []=br x0 (Tr.ok (zC.ret (Qd [ai (aQ 2).1,ai (aQ 2).2.1,str (aQ 2).2.2]) [])) (Tr.ok (zC.ret (Qd [ai (aQ 1).1,ai (aQ 1).2.1,str (aQ 1).2.2]) [])):=kw
def F59:zY:=aE [Q7] [ze] λx=>(dj x.1,())
theorem zfR:FK 335 F59:=by
 refine zZ zjb λx C hC=>?_
 refine aR iP zjb (λid _=>hC id) (zlB x.1) ?_;simp only[Tr.val,dj];repeat' split
 all_goals rfl
def rS(x0:Sem zg)(x1:Sem zg):Sem zg:=if(x0 !=x0)=Q3 then if(x1 !=x1)=Q3 then 0 else -1 else if(x1 !=x1)=Q3 then 1 else if Q0 (x0<x1)=Q3 then -1 else if Q0 (x0>x1)=Q3 then 1 else 0
theorem zjg:zJ lm.P 109 Tryz.f109 2:=bQ kw
theorem zlH(x0:Sem zg)(x1:Sem zg):rn lm 0 (λ_=>{ }) Tryz.f109 [zF zg x0,zF zg x1] []=br (x0 !=x0) (br (x1 !=x1) (Tr.ok (zC.ret (ai 0) [])) (Tr.ok (zC.ret (ai (-1)) []))) (br (x1 !=x1) (Tr.ok (zC.ret (ai 1) [])) (br (Q0 (x0<x1)) (Tr.ok (zC.ret (ai (-1)) [])) (br (Q0 (x0>x1)) (Tr.ok (zC.ret (ai 1) [])) (Tr.ok (zC.ret (ai 0) []))))):=kw
def F71:zY:=aE [zg,zg] [zg] λx=>(rS x.1 x.2.1,())
theorem zf3:FK 109 F71:=by
 refine zZ zjg λx C hC=>?_
 refine aR iP zjg (λid _=>hC id) (zlH x.1 x.2.1) ?_;simp only[Tr.val,rS];repeat' split
 all_goals rfl
def kq(x0:Sem zg)(x1:Sem zg):Sem zg:=if(x0 !=x0)=Q3 then if(x1 !=x1)=Q3 then 0 else -1 else if(x1 !=x1)=Q3 then 1 else if Q0 (x0<x1)=Q3 then -1 else if Q0 (x0>x1)=Q3 then 1 else 0
theorem zji:zJ lm.P 110 Tryz.f110 2:=bQ kw
theorem zlI(x0:Sem zg)(x1:Sem zg):rn lm 0 (λ_=>{ }) Tryz.f110 [zF zg x0,zF zg x1] []=br (x0 !=x0) (br (x1 !=x1) (Tr.ok (zC.ret (ai 0) [])) (Tr.ok (zC.ret (ai (-1)) []))) (br (x1 !=x1) (Tr.ok (zC.ret (ai 1) [])) (br (Q0 (x0<x1)) (Tr.ok (zC.ret (ai (-1)) [])) (br (Q0 (x0>x1)) (Tr.ok (zC.ret (ai 1) [])) (Tr.ok (zC.ret (ai 0) []))))):=kw
def F72:zY:=aE [zg,zg] [zg] λx=>(kq x.1 x.2.1,())
theorem zf4:FK 110 F72:=by
 refine zZ zji λx C hC=>?_
 refine aR iP zji (λid _=>hC id) (zlI x.1 x.2.1) ?_;simp only[Tr.val,kq];repeat' split
 all_goals rfl
def oe(x0:Sem Q6)(x1:Sem Q6):Sem zg:=if(!x0==x0)=Q3 then if(!x1==x1)=Q3 then 0 else -1 else if(!x1==x1)=Q3 then 1 else if Op.bytesLess x0 x1=Q3 then -1 else if(!(Op.bytesLess x0 x1||x0==x1))=Q3 then 1 else 0
theorem zjj:zJ lm.P 111 Tryz.f111 2:=bQ kw
theorem zlJ(x0:Sem Q6)(x1:Sem Q6):rn lm 0 (λ_=>{ }) Tryz.f111 [zF Q6 x0,zF Q6 x1] []=br (!x0==x0) (br (!x1==x1) (Tr.ok (zC.ret (ai 0) [])) (Tr.ok (zC.ret (ai (-1)) []))) (br (!x1==x1) (Tr.ok (zC.ret (ai 1) [])) (br (Op.bytesLess x0 x1) (Tr.ok (zC.ret (ai (-1)) [])) (br (!(Op.bytesLess x0 x1||x0==x1)) (Tr.ok (zC.ret (ai 1) [])) (Tr.ok (zC.ret (ai 0) []))))):=kw
def F73:zY:=aE [Q6,Q6] [zg] λx=>(oe x.1 x.2.1,())
theorem zf5:FK 111 F73:=by
 refine zZ zjj λx C hC=>?_
 refine aR iP zjj (λid _=>hC id) (zlJ x.1 x.2.1) ?_;simp only[Tr.val,oe];repeat' split
 all_goals rfl
noncomputable def jP:=lm.addL [(107,F61),(277,F56),(335,F59),(109,F71),(110,F72),(111,F73)]
theorem eT:zx jP:=iP.addL<|fc zfU<|fc zfO<|fc zfR<|fc zf3<|fc zf4<|fc zf5 iV
theorem Cg{E:bX}{C:eS}{k:FuncId}{f:Func}{Q:AV->List AO->Prop}{n n0:Nat}(hE:zx E)(hf:zJ E.P k f n)(hC:∀id,n0<=id->C.ρ0 id=Q2){keep:Nat->aN}{fuel:Nat}
  {todo:List Item} {st:St} {t:Tr zC} {l:zC} (ht:run E n0 keep f.results.toList fuel todo st=t) (h:t.val=Q1 l) (hl:jD E C k Q l):Reach E C k todo st Q:=
 dq hE hf hC keep fuel (by rw[ht];exact Tr.sat_of_val h hl)
def gm{α:Type}(Φ:α->Prop):Option α->Prop
 |some a=>Φ a
 |none=>False
theorem zD{E:bX}{C:eS}{k:FuncId}{f:Func}{Q:AV->List AO->Prop}{n n0:Nat}(hE:zx E)(hf:zJ E.P k f n)(hC:∀id,n0<=id->C.ρ0 id=Q2){keep:Nat->aN}{fuel:Nat}
  {todo:List Item} {st:St} {t:Tr zC} (ht:run E n0 keep f.results.toList fuel todo st=t) (h:gm (jD E C k Q) t.val):Reach E C k todo st Q:=by
 cases hv:t.val with
 |none=>rw[hv]at h;exact h.elim
 |some l=>rw[hv]at h;exact Cg hE hf hC ht hv h
def IA{α β R:Type}(f:β->Nat->α->β⊕R)(fin:β->R):List α->Nat->β->R
 |[],_,b=>fin b
 | x::r,i,b=>match f b i x with
  |.inl b'=>IA f fin r (i+1) b'
  |.inr y=>y
def Vy{E:bX}{C:eS}{k:FuncId}{K:List Item}{β R:Type}(st:β->Nat->St)(Q:R->AV->List AO->Prop)(b:β)(i:Nat):β⊕R->Prop
 |.inl b'=>∀q,Reach E C k K (st b' (i+1)) q->Reach E C k K (st b i) q
 |.inr y=>Reach E C k K (st b i) (Q y)
theorem Ch{E:bX}{C:eS}{k:FuncId}{K:List Item}{α β R:Type}(l:List α)(st:β->Nat->St)(f:β->Nat->α->β⊕R)(fin:β->R)(Q:R->AV->List AO->Prop)(I:β->Nat->Prop)
  (hstep:∀b i(hi:i<l.length),I b i->Vy (E:=E) (C:=C) (k:=k) (K:=K) st Q b i (f b i l[i])/\∀b',f b i l[i]=.inl b'->I b' (i+1))
  (hend:∀b,I b l.length->Reach E C k K (st b l.length) (Q (fin b))):∀(m i:Nat)(b:β),l.length-i=m->i<=l.length->I b i->Reach E C k K (st b i) (Q (IA f fin (l.drop i) i b))
 | 0,i,b,hm,hi,hI=>by
  have:i=l.length:=by omega
  subst this;rw[jo];exact hend b hI
 | m+1,i,b,hm,hi,hI=>by
  have hlt:i<l.length:=by omega
  rw[fu hlt];obtain⟨h1,h2⟩:=hstep b i hlt hI;simp only[IA];cases hf:f b i l[i]with
  | inl b'=>
   rw[hf]at h1;exact h1 _ (Ch l st f fin Q I hstep hend m (i+1) b' ow ow (h2 b' hf))
  | inr y=>
   rw[hf]at h1;exact h1
theorem zH{i n:Nat}(h:i<n):Q0 ((i:Int)<(n:Int))=Q3:=by simpa using h
theorem zA(n:Nat):Q0 ((n:Int)<(n:Int))=Q4:=by simp
theorem zt{i n:Nat}(h:i<n):zN (i:Int) n=Q3:=by simp[zN,h]
def Ga:List Int->Int
 |[]=>0
 |x::r=>if x !=0 then x else Ga r
abbrev zig:Nat->aN:=λj=>if j=3 then{slots:=[3,6,7,8]}else{ }
abbrev NB(i3:Int)(l6:List (Sem zg))(i7:Int)(i8:Int):St:={tmps:=(tm 18 [(3,ai i3),(6,sl (Sh.int IntKind.i64) l6),(7,ai i7),(8,ai i8)]),heap:=[]}
theorem S5:zJ jP.P 108 Tryz.f108 1:=bQ kw
theorem zlG(k:List (Sem zg)):rn jP 0 zig Tryz.f108 [sl zg k] []=Tr.ok (zC.head 3 (ae Tryz.f108 3) (NB 0 k (↑k.length) 0)):=kw
theorem Le(i3:Int)(l6:List (Sem zg))(i7:Int)(i8:Int):rh jP 0 zig Tryz.f108 3 (NB i3 l6 i7 i8)=br (Q0 (i8<i7)) (chk (zN i8 l6.length) (br (l6.getD i8.toNat (zi (Sh.int IntKind.i64))!=i3) (Tr.ok (zC.ret (ai (l6.getD i8.toNat (zi (Sh.int IntKind.i64)))) [])) (Tr.ok (zC.head 3 (ae Tryz.f108 3) (NB i3 l6 i7 (IntKind.i64.wrap (i8+1))))))) (Tr.ok (zC.ret (ai i3) [])):=kw
def f70:Unit->Nat->Int->Unit⊕Int:=λ_ _ x=>if x !=0 then .inr x else .inl ()
theorem RA:∀(l:List Int)(i:Nat),IA f70 (λ_=>0) l i ()=Ga l
 |[],_=>rfl
 | x::r,i=>by
  simp only[IA,f70,Ga];split
  ·rename_i h;split at h<;>simp_all[RA r (i+1)]
  ·rename_i h;split at h<;>simp_all
def F70:zY:=aE [.sl zg] [zg] λx=>(Ga x.1,())
theorem zf2:FK 108 F70:=by
 refine zZ S5 λx C hC=>?_
 obtain⟨l,u⟩:=x;refine Reach.len 0 zg l rfl λhl=>?_
 refine Cg eT S5 (λid _=>hC id) (zlG l) rfl ?_
 have:=Ch (E:=jP) (C:=C) (k:=108) (K:=ae Tryz.f108 3) l (λ(_:Unit) i=>NB 0 l l.length i) f70 (λ_=>(0:Int)) (λy r h=>aM h [zg] r=Q1 (y,())) (λ_ _=>True)
  (λb i hi _=>⟨by
   unfold f70;split
   ·rename_i h;refine zD eT S5 (λid _=>hC id) (Le _ _ _ _) ?_;simp only[Tr.val,zH hi,zt hi,cA l _ hi,h,if_true];rfl
   ·rename_i h;intro q hq;refine zD eT S5 (λid _=>hC id) (Le _ _ _ _) ?_;simp only[Tr.val,zH hi,zt hi,cA l _ hi,h,if_true,zp i ow];exact hq,λ_ _=>trivial⟩)
  (λb _=>by
   refine zD eT S5 (λid _=>hC id) (Le _ _ _ _) ?_;simp only[Tr.val,zA];rfl) _ 0 () rfl ow trivial
 rw[RA]at this;exact this
def eM(x0:Sem ze)(x1:Sem ze):Sem Q7:=bif (ap x0).1!=0 then(ap x0).1==(ap x1).1 else Q4
theorem zja:zJ jP.P 334 Tryz.f334 2:=bQ kw
theorem zlA(x0:Sem ze)(x1:Sem ze):rn jP 0 (λ_=>{ }) Tryz.f334 [zF ze x0,zF ze x1] []=Tr.ok (zC.ret (AV.bool (bif (ap x0).1!=0 then(ap x0).1==(ap x1).1 else Q4)) []):=kw
def F58:zY:=aE [ze,ze] [Q7] λx=>(eM x.1 x.2.1,())
theorem zfQ:FK 334 F58:=by
 refine zZ zja λx C hC=>?_
 refine aR eT zja (λid _=>hC id) (zlA x.1 x.2.1) ?_;simp only[Tr.val,eM];repeat' split
 all_goals rfl
def Dq(x0:Sem ze)(x1:Sem ze):Sem ze:=if(bif dR x0==1 then Q3 else dR x1==1)=Q3 then aQ 1 else if(bif dR x0==2 then dR x1==2 else Q4)=Q3 then aQ 2 else aQ 0
theorem ziT:zJ jP.P 310 Tryz.f310 2:=bQ kw
theorem zli(x0:Sem ze)(x1:Sem ze):rn jP 0 (λ_=>{ }) Tryz.f310 [zF ze x0,zF ze x1] []=br (bif dR x0==1 then Q3 else dR x1==1) (Tr.ok (zC.ret (Qd [ai (aQ 1).1,ai (aQ 1).2.1,str (aQ 1).2.2]) [])) (br (bif dR x0==2 then dR x1==2 else Q4) (Tr.ok (zC.ret (Qd [ai (aQ 2).1,ai (aQ 2).2.1,str (aQ 2).2.2]) [])) (Tr.ok (zC.ret (Qd [ai (aQ 0).1,ai (aQ 0).2.1,str (aQ 0).2.2]) []))):=kw
def F38:zY:=aE [ze,ze] [ze] λx=>(Dq x.1 x.2.1,())
theorem zfx:FK 310 F38:=by
 refine zZ ziT λx C hC=>?_
 refine aR eT ziT (λid _=>hC id) (zli x.1 x.2.1) ?_;simp only[Tr.val,Dq];repeat' split
 all_goals rfl
def Uz(x0:Sem ze)(x1:Sem ze):Sem ze:=if(bif dR x0==2 then Q3 else dR x1==2)=Q3 then aQ 2 else if(bif dR x0==1 then dR x1==1 else Q4)=Q3 then aQ 1 else aQ 0
theorem ziU:zJ jP.P 311 Tryz.f311 2:=bQ kw
theorem zlj(x0:Sem ze)(x1:Sem ze):rn jP 0 (λ_=>{ }) Tryz.f311 [zF ze x0,zF ze x1] []=br (bif dR x0==2 then Q3 else dR x1==2) (Tr.ok (zC.ret (Qd [ai (aQ 2).1,ai (aQ 2).2.1,str (aQ 2).2.2]) [])) (br (bif dR x0==1 then dR x1==1 else Q4) (Tr.ok (zC.ret (Qd [ai (aQ 1).1,ai (aQ 1).2.1,str (aQ 1).2.2]) [])) (Tr.ok (zC.ret (Qd [ai (aQ 0).1,ai (aQ 0).2.1,str (aQ 0).2.2]) []))):=kw
def F39:zY:=aE [ze,ze] [ze] λx=>(Uz x.1 x.2.1,())
theorem zfy:FK 311 F39:=by
 refine zZ ziU λx C hC=>?_
 refine aR eT ziU (λid _=>hC id) (zlj x.1 x.2.1) ?_;simp only[Tr.val,Uz];repeat' split
 all_goals rfl
def xQ(x0:Sem ze):Sem ze:=if(dR x0==2)=Q3 then aQ 1 else if(dR x0==1)=Q3 then aQ 2 else aQ 0
theorem ziW:zJ jP.P 313 Tryz.f313 1:=bQ kw
theorem zll(x0:Sem ze):rn jP 0 (λ_=>{ }) Tryz.f313 [zF ze x0] []=br (dR x0==2) (Tr.ok (zC.ret (Qd [ai (aQ 1).1,ai (aQ 1).2.1,str (aQ 1).2.2]) [])) (br (dR x0==1) (Tr.ok (zC.ret (Qd [ai (aQ 2).1,ai (aQ 2).2.1,str (aQ 2).2.2]) [])) (Tr.ok (zC.ret (Qd [ai (aQ 0).1,ai (aQ 0).2.1,str (aQ 0).2.2]) []))):=kw
def F41:zY:=aE [ze] [ze] λx=>(xQ x.1,())
theorem zfA:FK 313 F41:=by
 refine zZ ziW λx C hC=>?_
 refine aR eT ziW (λid _=>hC id) (zll x.1) ?_;simp only[Tr.val,xQ];repeat' split
 all_goals rfl
def jm(x0:Sem ze):Sem ze:=dj ((ap x0).1==0)
theorem zi3:zJ jP.P 319 Tryz.f319 1:=bQ kw
theorem zlr(x0:Sem ze):rn jP 0 (λ_=>{ }) Tryz.f319 [zF ze x0] []=Tr.ok (zC.ret (Qd [ai (dj ((ap x0).1==0)).1,ai (dj ((ap x0).1==0)).2.1,str (dj ((ap x0).1==0)).2.2]) []):=kw
def F47:zY:=aE [ze] [ze] λx=>(jm x.1,())
theorem zfG:FK 319 F47:=by
 refine zZ zi3 λx C hC=>?_
 refine aR eT zi3 (λid _=>hC id) (zlr x.1) ?_;simp only[Tr.val,jm];repeat' split
 all_goals rfl
noncomputable def ln:=jP.addL [(108,F70),(334,F58),(310,F38),(311,F39),(313,F41),(319,F47)]
theorem iQ:zx ln:=eT.addL<|fc zf2<|fc zfQ<|fc zfx<|fc zfy<|fc zfA<|fc zfG iV
def cO(x0:Sem ze)(x1:Sem ze):Sem zg:=Ga [rS (ap x0).1 (ap x1).1,kq (ap x0).2.1 (ap x1).2.1,oe (ap x0).2.2 (ap x1).2.2]
theorem zjc:zJ ln.P 62 Tryz.f62 2:=bQ kw
theorem zlC(x0:Sem ze)(x1:Sem ze):rn ln 0 (λ_=>{ }) Tryz.f62 [zF ze x0,zF ze x1] []=Tr.ok (zC.ret (AV.int IntKind.i64 (Ga [rS (ap x0).1 (ap x1).1,kq (ap x0).2.1 (ap x1).2.1,oe (ap x0).2.2 (ap x1).2.2])) []):=kw
def F60:zY:=aE [ze,ze] [zg] λx=>(cO x.1 x.2.1,())
theorem zfT:FK 62 F60:=by
 refine zZ zjc λx C hC=>?_
 refine aR iQ zjc (λid _=>hC id) (zlC x.1 x.2.1) ?_;simp only[Tr.val,cO];repeat' split
 all_goals rfl
def lT(x0:Sem ze)(x1:Sem ze):Sem ze:=if(!eM x0 x1)=Q3 then(0,0,[])else dj (x0.1==x1.1&&(x0.2.1==x1.2.1&&(x0.2.2==x1.2.2&&Q3)))
theorem ziX:zJ ln.P 314 Tryz.f314 2:=bQ kw
theorem zlm(x0:Sem ze)(x1:Sem ze):rn ln 0 (λ_=>{ }) Tryz.f314 [zF ze x0,zF ze x1] []=br (!eM x0 x1) (Tr.ok (zC.ret (Qd [ai 0,ai 0,str []]) [])) (Tr.ok (zC.ret (Qd [ai (dj (x0.1==x1.1&&(x0.2.1==x1.2.1&&(x0.2.2==x1.2.2&&Q3)))).1,ai (dj (x0.1==x1.1&&(x0.2.1==x1.2.1&&(x0.2.2==x1.2.2&&Q3)))).2.1,str (dj (x0.1==x1.1&&(x0.2.1==x1.2.1&&(x0.2.2==x1.2.2&&Q3)))).2.2]) [])):=kw
def F42:zY:=aE [ze,ze] [ze] λx=>(lT x.1 x.2.1,())
theorem zfB:FK 314 F42:=by
 refine zZ ziX λx C hC=>?_
 refine aR iQ ziX (λid _=>hC id) (zlm x.1 x.2.1) ?_;simp only[Tr.val,lT];repeat' split
 all_goals rfl
def rH(x0:Sem ze)(x1:Sem ze):Sem ze:=if(bif !eM x0 x1 then Q3 else x0.1!=1)=Q3 then(0,0,[])else if(bif Q0 (x1.2.1>0)then bif Q0 (IntKind.i64.wrap (x0.2.1+x1.2.1)<x0.2.1)then Q3 else bif Q0 (x1.2.1<0)then Q0 (IntKind.i64.wrap (x0.2.1+x1.2.1)>x0.2.1)else Q4 else bif Q0 (x1.2.1<0)then Q0 (IntKind.i64.wrap (x0.2.1+x1.2.1)>x0.2.1)else Q4)=Q3 then(0,0,[])else(1,IntKind.i64.wrap (x0.2.1+x1.2.1),[])
theorem zi0:zJ ln.P 316 Tryz.f316 2:=bQ kw
theorem zlo(x0:Sem ze)(x1:Sem ze):rn ln 0 (λ_=>{ }) Tryz.f316 [zF ze x0,zF ze x1] []=br (bif !eM x0 x1 then Q3 else x0.1!=1) (Tr.ok (zC.ret (Qd [ai 0,ai 0,str []]) [])) (br (bif Q0 (x1.2.1>0)then bif Q0 (IntKind.i64.wrap (x0.2.1+x1.2.1)<x0.2.1)then Q3 else bif Q0 (x1.2.1<0)then Q0 (IntKind.i64.wrap (x0.2.1+x1.2.1)>x0.2.1)else Q4 else bif Q0 (x1.2.1<0)then Q0 (IntKind.i64.wrap (x0.2.1+x1.2.1)>x0.2.1)else Q4) (Tr.ok (zC.ret (Qd [ai 0,ai 0,str []]) [])) (Tr.ok (zC.ret (Qd [ai 1,ai (IntKind.i64.wrap (x0.2.1+x1.2.1)),str []]) []))):=kw
def F44:zY:=aE [ze,ze] [ze] λx=>(rH x.1 x.2.1,())
theorem zfD:FK 316 F44:=by
 refine zZ zi0 λx C hC=>?_
 refine aR iQ zi0 (λid _=>hC id) (zlo x.1 x.2.1) ?_;simp only[Tr.val,rH];repeat' split
 all_goals rfl
def lU(x0:Sem ze)(x1:Sem ze):Sem ze:=if(bif !eM x0 x1 then Q3 else x0.1!=1)=Q3 then(0,0,[])else if(bif Q0 (x1.2.1>0)then bif Q0 (IntKind.i64.wrap (x0.2.1-x1.2.1)>x0.2.1)then Q3 else bif Q0 (x1.2.1<0)then Q0 (IntKind.i64.wrap (x0.2.1-x1.2.1)<x0.2.1)else Q4 else bif Q0 (x1.2.1<0)then Q0 (IntKind.i64.wrap (x0.2.1-x1.2.1)<x0.2.1)else Q4)=Q3 then(0,0,[])else(1,IntKind.i64.wrap (x0.2.1-x1.2.1),[])
theorem zi1:zJ ln.P 317 Tryz.f317 2:=bQ kw
theorem zlp(x0:Sem ze)(x1:Sem ze):rn ln 0 (λ_=>{ }) Tryz.f317 [zF ze x0,zF ze x1] []=br (bif !eM x0 x1 then Q3 else x0.1!=1) (Tr.ok (zC.ret (Qd [ai 0,ai 0,str []]) [])) (br (bif Q0 (x1.2.1>0)then bif Q0 (IntKind.i64.wrap (x0.2.1-x1.2.1)>x0.2.1)then Q3 else bif Q0 (x1.2.1<0)then Q0 (IntKind.i64.wrap (x0.2.1-x1.2.1)<x0.2.1)else Q4 else bif Q0 (x1.2.1<0)then Q0 (IntKind.i64.wrap (x0.2.1-x1.2.1)<x0.2.1)else Q4) (Tr.ok (zC.ret (Qd [ai 0,ai 0,str []]) [])) (Tr.ok (zC.ret (Qd [ai 1,ai (IntKind.i64.wrap (x0.2.1-x1.2.1)),str []]) []))):=kw
def F45:zY:=aE [ze,ze] [ze] λx=>(lU x.1 x.2.1,())
theorem zfE:FK 317 F45:=by
 refine zZ zi1 λx C hC=>?_
 refine aR iQ zi1 (λid _=>hC id) (zlp x.1 x.2.1) ?_;simp only[Tr.val,lU];repeat' split
 all_goals rfl
def NO(x0:Sem ze)(_:Sem ze):Sem ze:=xQ x0
theorem ziV:zJ ln.P 312 Tryz.f312 2:=bQ kw
theorem zlk(x0:Sem ze)(x1:Sem ze):rn ln 0 (λ_=>{ }) Tryz.f312 [zF ze x0,zF ze x1] []=Tr.ok (zC.ret (Qd [ai (xQ x0).1,ai (xQ x0).2.1,str (xQ x0).2.2]) []):=kw
def F40:zY:=aE [ze,ze] [ze] λx=>(NO x.1 x.2.1,())
theorem zfz:FK 312 F40:=by
 refine zZ ziV λx C hC=>?_
 refine aR iQ ziV (λid _=>hC id) (zlk x.1 x.2.1) ?_;simp only[Tr.val,NO];repeat' split
 all_goals rfl
def Ht(x0:Sem ze)(_:Sem ze):Sem ze:=jm x0
theorem zi2:zJ ln.P 318 Tryz.f318 2:=bQ kw
theorem zlq(x0:Sem ze)(x1:Sem ze):rn ln 0 (λ_=>{ }) Tryz.f318 [zF ze x0,zF ze x1] []=Tr.ok (zC.ret (Qd [ai (jm x0).1,ai (jm x0).2.1,str (jm x0).2.2]) []):=kw
def F46:zY:=aE [ze,ze] [ze] λx=>(Ht x.1 x.2.1,())
theorem zfF:FK 318 F46:=by
 refine zZ zi2 λx C hC=>?_
 refine aR iQ zi2 (λid _=>hC id) (zlq x.1 x.2.1) ?_;simp only[Tr.val,Ht];repeat' split
 all_goals rfl
noncomputable def rk:=ln.addL [(62,F60),(314,F42),(316,F44),(317,F45),(312,F40),(318,F46)]
theorem j6:zx rk:=iQ.addL<|fc zfT<|fc zfB<|fc zfD<|fc zfE<|fc zfz<|fc zfF iV
def rG(x0:Sem ze)(x1:Sem ze):Sem ze:=if(!eM x0 x1)=Q3 then(0,0,[])else dj (Q0 (cO x0 x1<0))
theorem ziZ:zJ rk.P 315 Tryz.f315 2:=bQ kw
theorem zln(x0:Sem ze)(x1:Sem ze):rn rk 0 (λ_=>{ }) Tryz.f315 [zF ze x0,zF ze x1] []=br (!eM x0 x1) (Tr.ok (zC.ret (Qd [ai 0,ai 0,str []]) [])) (Tr.ok (zC.ret (Qd [ai (dj (Q0 (cO x0 x1<0))).1,ai (dj (Q0 (cO x0 x1<0))).2.1,str (dj (Q0 (cO x0 x1<0))).2.2]) [])):=kw
def F43:zY:=aE [ze,ze] [ze] λx=>(rG x.1 x.2.1,())
theorem zfC:FK 315 F43:=by
 refine zZ ziZ λx C hC=>?_
 refine aR j6 ziZ (λid _=>hC id) (zln x.1 x.2.1) ?_;simp only[Tr.val,rG];repeat' split
 all_goals rfl
def Dr(x0:Sem ze):Sem ze:=if Q0 ((↑(length x0.2.2):Int)>60)=Q3 then(x0.1,x0.2.1,Qg (toNat 60-toNat 0) (Qh (toNat 0) x0.2.2))else x0
def J2(x0:Sem ze):Bool:=bif Q0 ((↑(length x0.2.2):Int)>60)then Q0 (0<=0)&&Q0 (0<=60)&&Q0 (60<=(↑(length x0.2.2):Int))else Q3
theorem ziD:zJ rk.P 8 Tryz.f8 1:=bQ kw
theorem zk3(x0:Sem ze):rn rk 0 (λ_=>{ }) Tryz.f8 [zF ze x0] []=br (Q0 ((↑(length x0.2.2):Int)>60)) (chk (Q0 (0<=0)&&Q0 (0<=60)&&Q0 (60<=(↑(length x0.2.2):Int))) (Tr.ok (zC.ret (Qd [ai x0.1,ai x0.2.1,str (Qg (toNat 60-toNat 0) (Qh (toNat 0) x0.2.2))]) []))) (Tr.ok (zC.ret (Qd [ai x0.1,ai x0.2.1,str x0.2.2]) [])):=kw
def F14:zY:=zR [ze] [ze] (λx=>J2 x.1) λx=>(Dr x.1,())
theorem Yg:FK 8 F14:=by
 refine aJ ziD λx hx C hC=>?_
 refine aR j6 ziD (λid _=>hC id) (zk3 x.1) ?_;simp only[J2,Bool.cond_eq_ite]at hx;simp only[Tr.val,Dr];repeat' split
 all_goals first|rfl|simp_all
def jb(x0:Sem Q6):Sem Q6:=if Q0 ((↑(length x0):Int)>20)=Q3 then Qg (toNat 20-toNat 0) (Qh (toNat 0) x0)else x0
def NC(x0:Sem Q6):Bool:=bif Q0 ((↑(length x0):Int)>20)then Q0 (0<=0)&&Q0 (0<=20)&&Q0 (20<=(↑(length x0):Int))else Q3
theorem ziC:zJ rk.P 114 Tryz.f114 1:=bQ kw
theorem zk2(x0:Sem Q6):rn rk 0 (λ_=>{ }) Tryz.f114 [zF Q6 x0] []=br (Q0 ((↑(length x0):Int)>20)) (chk (Q0 (0<=0)&&Q0 (0<=20)&&Q0 (20<=(↑(length x0):Int))) (Tr.ok (zC.ret (str (Qg (toNat 20-toNat 0) (Qh (toNat 0) x0))) []))) (Tr.ok (zC.ret (str x0) [])):=kw
def F12:zY:=zR [Q6] [Q6] (λx=>NC x.1) λx=>(jb x.1,())
theorem Yf:FK 114 F12:=by
 refine aJ ziC λx hx C hC=>?_
 refine aR j6 ziC (λid _=>hC id) (zk2 x.1) ?_;simp only[NC,Bool.cond_eq_ite]at hx;simp only[Tr.val,jb];repeat' split
 all_goals first|rfl|simp_all
noncomputable def F79:zY:=bg (List.replicate 2 Q2) (fe rk Tryz.f288 (List.replicate 2 Q2))
theorem zf7:FK 288 F79:=bY _ j6 (bQ kw)
noncomputable def F18:zY:=bg (List.replicate 2 Q2) (fe rk Tryz.f169 (List.replicate 2 Q2))
theorem zfk:FK 169 F18:=bY _ j6 (bQ kw)
noncomputable def Yq:=rk.addL [(315,F43),(8,F14),(114,F12),(288,F79),(169,F18)]
theorem vt:zx Yq:=j6.addL<|fc zfC<|fc Yg<|fc Yf<|fc zf7<|fc zfk iV
def sG:(ks:List Sh)->zy (ks.map Q1++[Q2])->zy (ks.map Q1)×AV
 |[],x=>((),x.1)
 |_::ks,x=>((x.1,(sG ks x.2).1),(sG ks x.2).2)
theorem At:∀(ks:List Sh)(x:zy (ks.map Q1++[Q2])),je (ks.map Q1++[Q2]) x=je (ks.map Q1) (sG ks x).1++[(sG ks x).2]
 |[],_=>rfl
 |s::ks,x=>congrArg (zF s x.1::·) (At ks x.2)
def R2(k:Nat):AV->Bool
 |.clo (.func j) [] []=>j==k
 |_=>Q4
theorem R3{k:Nat}{v:AV}(h:R2 k v=Q3):v=.clo (.func k) [] []:=by
 unfold R2 at h;split at h
 ·rw[ba]at h;rw[h]
 ·cases h
abbrev PO(ks outs:List Sh):=Nat×(zy (ks.map Q1)->Bool)×(zy (ks.map Q1)->zy (outs.map Q1))
def VD{ks outs:List Sh}(v:AV):List (PO ks outs)->Option ((zy (ks.map Q1)->Bool)×(zy (ks.map Q1)->zy (outs.map Q1)))
 |[]=>Q2
 |(k,a)::r=>if R2 k v then Q1 a else VD v r
theorem HU{ks outs:List Sh}{v:AV}{a}:∀{l:List (PO ks outs)},VD v l=Q1 a->∃k,v=.clo (.func k) [] []/\(k,a)∈l
 |[],h=>by cases h
 | (k,b)::r,h=>by
  unfold VD at h;split at h
  ·rename_i hk;cases h;exact⟨k,R3 hk,wO ..⟩
  ·obtain⟨j,h1,h2⟩:=HU h;exact⟨j,h1,sP _ h2⟩
def Nb(ks outs:List Sh)(l:List (PO ks outs)):ic (ks.map Q1++[Q2]):=λx h=>match h with
 | []=>match VD (sG ks x).2 l with
  |some (c,g)=>.chk (c (sG ks x).1) (.ok (xz outs (g (sG ks x).1),[]))
  |none=>.err
 |_=>.err
def Tq(ks outs:List Sh)(l:List (PO ks outs)):zY:=bg (ks.map Q1++[Q2]) (Nb ks outs l)
theorem Kb{P:Program}{gl:Nat->AV}{E:bX}{k:FuncId}{f:Func}{ks outs:List Sh}{l:List (PO ks outs)}(hf:zJ E.P k f (ks.length+1))
  (h:∀j c g,(j,c,g)∈l->∀x,c x=Q3->∀C:eS,(∀id,C.ρ0 id=Q2)->Reach E C k (bt f) (bc f.ntmps (je (ks.map Q1) x++[.clo (.func j) [] []]) []) (λr h=>aM h outs r=Q1 (g x))) (qp:E.P=P:=by rfl) (qg:E.gl=gl:=by rfl):nX P gl k (Tq ks outs l):=by
 subst qp qg;refine dt (by simpa using hf) λx h0 res hx C hC=>?_
 unfold Nb at hx;split at hx
 ·split at hx
  ·rename_i c g hal;obtain⟨j,hv,hm⟩:=HU hal;simp only[Tr.val]at hx;split at hx
   ·rename_i hc;simp only[bz]at hx;subst hx;rw[At,hv];exact Reach.plain (λid=>hC id (by simp)) (h j c g hm _ hc C (λid=>hC id (by simp)))
   ·simp at hx
  ·simp at hx
 ·simp at hx
inductive CP where
 |d (s:Sh)
 |nil
 |vec (e:Sh)
@[reducible] def zn:List CP->Type
 |[]=>Unit
 |.d s::r=>Sem s×zn r
 |.nil::r=>zn r
 |.vec e::r=>List (Sem e)×zn r
def eD:(n:Nat)->(ps:List CP)->zn ps->List AV
 |_,[],_=>[]
 |n,.d s::r,y=>zq s y.1++eD n r y.2
 |n,.nil::r,y=>.nils::eD n r y
 |n,.vec _::r,y=>.vec n::eD (n+1) r y.2
def fW:(ps:List CP)->zn ps->List AO
 |[],_=>[]
 |.d _::r,y=>fW r y.2
 |.nil::r,y=>fW r y
 |.vec e::r,y=>.vec e y.1::fW r y.2
def au(ps:List CP)(y:zn ps):List AO:=.box (eD 1 ps y)::fW ps y
def aS:List CP->Nat
 |[]=>0
 |.vec _::r=>aS r+1
 |_::r=>aS r
theorem bI:∀(ps:List CP)(y:zn ps),(fW ps y).length=aS ps
 |[],_=>rfl
 |.d _::r,y=>bI r y.2
 |.nil::r,y=>bI r y
 |.vec _::r,y=>congrArg (·+1) (bI r y.2)
def cu(hp:Nat->AO):(n:Nat)->(ps:List CP)->List AV->Option (zn ps)
 |_,[],[]=>Q1 ()
 | n,.d s::r,cs=>match cI (fun _=>.dead) s cs with
  | some (x,cs')=>match cu hp n r cs' with
   |some y=>Q1 (x,y)
   |none=>Q2
  |none=>Q2
 |n,.nil::r,.nils::cs=>cu hp n r cs
 | n,.vec e::r,.vec id::cs=>if id=n then match hp id with
   | .vec e' l=>if h:e'=e then match cu hp (n+1) r cs with
     |some y=>Q1 (h▸l,y)
     |none=>Q2
    else Q2
   |_=>Q2
  else Q2
 |_,_,_=>Q2
section
variable {w:World} {U:Nat->Prop} {ρ:Nat->Option Value}
theorem dn.app{a b:List AV}{va vb:List Value}(h1:dn w U ρ a va)(h2:dn w U ρ b vb):dn w U ρ (a++b) (va++vb) where
 len:=by simp[h1.len,h2.len]
 rv:=by
  intro j c v hc hv;by_cases hj:j<a.length
  ·rw[mP hj]at hc;rw[mP (by rw[<-h1.len];exact hj)]at hv;exact h1.rv j c v hc hv
  ·rw[nZ ow]at hc;rw[nZ (by rw[<-h1.len];omega),<-h1.len]at hv;exact h2.rv _ c v hc hv
theorem dn.tail{a:AV}{l:List AV}{v:Value}{vs:List Value}(h:dn w U ρ (a::l) (v::vs)):dn w U ρ l vs:=
 ⟨by have:=h.len;simpa using this,λj c x hc hx=>h.rv (j+1) c x (by simpa using hc) (by simpa using hx)⟩
theorem dn.consH{a:AV}{l:List AV}{v:Value}{vs:List Value}(h1:Rv w U ρ a v)(h2:dn w U ρ l vs):dn w U ρ (a::l) (v::vs) where
 len:=by simp[h2.len]
 rv:=by
  intro j c x hc hx;cases j with
  |zero=>simp at hc hx;subst hc;subst hx;exact h1
  |succ j=>exact h2.rv j c x (by simpa using hc) (by simpa using hx)
theorem fw{hp:Nat->AO}:∀(ps:List CP)(n:Nat)(cs:List AV)(y:zn ps)(vals:List Value),cu hp n ps cs=Q1 y->dn w U ρ cs vals->
  dn w U ρ (eD n ps y) vals/\∀(j:Nat) o,(fW ps y)[j]?=Q1 o->hp (n+j)=o
 |[],n,[],y,vals,h,hr=>⟨hr,by simp[fW]⟩
 |[],n,_::_,y,vals,h,hr=>by simp[cu]at h
 | .d s::r,n,cs,y,vals,h,hr=>by
  unfold cu at h;split at h
  ·rename_i x cs' hi;split at h
   ·rename_i y' hy;cases h
    have hk:=m7 (w:=w) (U:=U) (U':=U) (ρ:=ρ) (hp:=λ_=>.dead) (λ_ h=>h) s cs x cs' (λj=>vals.getD j undef) hi
     (λj c hc=>by
      have hlt:j<vals.length:=by rw[<-hr.len];exact(cZ.1 hc).1
      have:=hr.rv j c vals[j] hc (zS hlt);simpa[List.getD,zS hlt]using this)
     (λid _=>⟨trivial,λb hb=>by simp[ag,AO.owns]at hb⟩)
    obtain⟨k1,k2,k3⟩:=hk;have hdrop:dn w U ρ cs' (vals.drop s.size):=by
     refine⟨by rw[k2];simp[hr.len],λj c v hc hv=>?_⟩;rw[k2,DE]at hc;rw[DE]at hv;exact hr.rv _ c v hc hv
    obtain⟨i1,i2⟩:=fw r n cs' y' (vals.drop s.size) hy hdrop;refine⟨?_,i2⟩;have htake:dn w U ρ (zq s x) (vals.take s.size):=by
     refine⟨by rw[zX];have:=hr.len;simp;omega,λj c v hc hv=>?_⟩;have hj:j<s.size:=by rw[<-zX s x];exact(cZ.1 hc).1
     rw[List.getElem?_take,if_pos hj]at hv;have:=k3 j c hc;simpa[List.getD,hv]using this
    have:=htake.app i1;rw[List.take_append_drop]at this;exact this
   ·cases h
  ·cases h
 | .nil::r,n,.nils::cs,y,vals,h,hr=>by
  match vals,hr with
  |[],hr=>have:=hr.len;simp at this
  | v::vs,hr=>
   have hv:=hr.rv 0 _ v rfl rfl;obtain⟨i1,i2⟩:=fw r n cs y vs h hr.tail;exact⟨dn.consH hv i1,i2⟩
 | .vec e::r,n,.vec id::cs,y,vals,h,hr=>by
  match vals,hr with
  |[],hr=>have:=hr.len;simp at this
  | v :: vs,hr=>
   have hv:=hr.rv 0 _ v rfl rfl;unfold cu at h;split at h
   ·rename_i hid;subst hid;split at h
    ·rename_i e' l ho;split at h
     ·rename_i he;subst he;split at h
      ·rename_i y' hy;cases h;obtain⟨i1,i2⟩:=fw r (id+1) cs y' vs hy hr.tail;refine⟨dn.consH hv i1,λj o hj=>?_⟩;cases j with
       |zero=>simp[fW]at hj;subst hj;exact ho
       | succ j=>
        have:=i2 j o (by simpa[fW]using hj);rw[<-this];congr 1;omega
      ·cases h
     ·cases h
    ·cases h
   ·cases h
 |.nil::_,_,[],_,_,h,_=>by simp[cu]at h
 |.vec _::_,_,[],_,_,h,_=>by simp[cu]at h
 |.nil::_,_,.any::_,_,_,h,_|.nil::_,_,.kb _::_,_,_,h,_|.nil::_,_,.bool _::_,_,_,h,_|.nil::_,_,.int _ _::_,_,_,h,_|.nil::_,_,.str _::_,_,_,h,_
 |.nil::_,_,.sl _ _::_,_,_,h,_|.nil::_,_,.vec _::_,_,_,h,_|.nil::_,_,.ptr _ _::_,_,_,h,_|.nil::_,_,.vptr _ _ _ _::_,_,_,h,_|.nil::_,_,.eptr _ _::_,_,_,h,_
 |.nil::_,_,.nilp::_,_,_,h,_|.nil::_,_,.agg _::_,_,_,h,_|.nil::_,_,.tup _::_,_,_,h,_|.nil::_,_,.clo _ _ _::_,_,_,h,_|.nil::_,_,.nilf::_,_,_,h,_
 |.nil::_,_,.mp _::_,_,_,h,_|.nil::_,_,.ifc _::_,_,_,h,_|.nil::_,_,.tab _ _::_,_,_,h,_|.nil::_,_,.gint::_,_,_,h,_=>by simp[cu]at h
 |.vec _::_,_,.any::_,_,_,h,_|.vec _::_,_,.kb _::_,_,_,h,_|.vec _::_,_,.bool _::_,_,_,h,_|.vec _::_,_,.int _ _::_,_,_,h,_|.vec _::_,_,.str _::_,_,_,h,_
 |.vec _::_,_,.sl _ _::_,_,_,h,_|.vec _::_,_,.nils::_,_,_,h,_|.vec _::_,_,.ptr _ _::_,_,_,h,_|.vec _::_,_,.vptr _ _ _ _::_,_,_,h,_|.vec _::_,_,.eptr _ _::_,_,_,h,_
 |.vec _::_,_,.nilp::_,_,_,h,_|.vec _::_,_,.agg _::_,_,_,h,_|.vec _::_,_,.tup _::_,_,_,h,_|.vec _::_,_,.clo _ _ _::_,_,_,h,_|.vec _::_,_,.nilf::_,_,_,h,_
 |.vec _::_,_,.mp _::_,_,_,h,_|.vec _::_,_,.ifc _::_,_,_,h,_|.vec _::_,_,.tab _ _::_,_,_,h,_|.vec _::_,_,.gint::_,_,_,h,_=>by simp[cu]at h
end
theorem jn.box{C:eS}{w:World}{U:Nat->Prop}{ρ:Nat->Option Value}{cs:List AV}{os:List AO}{ps:List CP}{y:zn ps}(hH:jn C w U ρ (λj=>((Qa cs::os).getD j .dead)))(hl:os.length=aS ps)
  (hm:cu (jI (.box cs::os)) 1 ps cs=Q1 y):jn C w U ρ (λj=>(au ps y).getD j .dead):=by
 have h0:bx w U ρ 0 (.box cs):=hH.ob 0;obtain⟨b,T,vals,h1,h2,h3,h4,h5⟩:=h0;obtain⟨k1,k2⟩:=fw ps 1 cs y vals.toList hm h4;have hobj:∀id,id≠0->(au ps y).getD id .dead=(Qa cs::os).getD id .dead:=by
  intro id hid;obtain⟨j,rfl⟩:∃j,id=j+1:=⟨id-1,ow⟩;by_cases hj:j<(fW ps y).length
  ·have:=k2 j _ (zS hj);unfold au;simp only[Al];rw[bd,zS hj];simp only[jI,nN 1 j,Al]at this;simpa using this.symm
  ·have h7:os.length<=j:=by rw[bI]at hj;omega
   unfold au;simp only[Al];rw[bd,bd,eC ow,eC h7]
 have hown:∀id b,ag ρ id ((au ps y).getD id .dead) b->ag ρ id ((Qa cs::os).getD id .dead) b:=by
  intro id b' ho;by_cases hid:id=0
  ·subst hid;obtain⟨_,v,hv,hb⟩:=ho;exact⟨rfl,v,hv,hb⟩
  ·rw[hobj id hid]at ho;exact ho
 refine⟨λid=>?_,λid1 id2 b' o1 o2=>hH.inj id1 id2 b' (hown _ _ o1) (hown _ _ o2),λid b' o=>hH.blk id b' (hown _ _ o)⟩;by_cases hid:id=0
 ·subst hid;exact⟨b,T,vals,h1,h2,h3,k1,h5⟩
 ·show bx w U ρ id ((au ps y).getD id .dead);rw[hobj id hid];exact hH.ob id
def rQ(ps:List CP)(outs:List Sh)(r:AV)(h:List AO):Option (zy (outs.map Q1)×zn ps):=match h with
 | .box cs::os=>if os.length=aS ps then match aM [] outs r,cu (jI (.box cs::os)) 1 ps cs with
   |some a,Q1 y=>Q1 (a,y)
   |_,_=>Q2
  else Q2
 |_=>Q2
def zgy(ps:List CP)(ks outs:List Sh)(ps':List CP)(c:zn ps->zy (ks.map Q1)->Bool)(g:zn ps->zy (ks.map Q1)->zy (outs.map Q1)×zn ps'):ic (Q2::ks.map Q1):=λx h=>match x.1,h with
 | .ptr 0 0,.box cs::os=>if os.length=aS ps then match cu (jI (.box cs::os)) 1 ps cs with
   |some y=>.chk (c y x.2) (.ok (xz outs (g y x.2).1,au ps' (g y x.2).2))
   |none=>.err
  else .err
 |_,_=>.err
def rP(ps:List CP)(ks outs:List Sh)(ps':List CP)(c:zn ps->zy (ks.map Q1)->Bool)(g:zn ps->zy (ks.map Q1)->zy (outs.map Q1)×zn ps'):zY:=bg (Q2::ks.map Q1) (zgy ps ks outs ps' c g)
theorem rg(ps:List CP)(y:zn ps):(au ps y).length=aS ps+1:=by
 simp[au,bI]
theorem E7{w:World}{U:Nat->Prop}{ρ:Nat->Option Value}{outs:List Sh}{r:AV}{y:zy (outs.map Q1)}{v:Value}(h:aM [] outs r=Q1 y)(hr:Rv w U ρ r v):Rv w U ρ (xz outs y) v:=by
 have hob:∀id,bx w U ρ id (jI [] id)/\∀b,ag ρ id (jI [] id) b->¬U b:=λid=>⟨by simp[jI,bx],λb hb=>by simp[jI,ag,AO.owns]at hb⟩
 have htup:∀(outs:List Sh)(y:zy (outs.map Q1))(rs:List AV),ly (jI []) (λi=>i) (outs.map Q1) rs=Q1 y->Rv w U ρ (.tup rs) v->Rv w U ρ (.tup (je (outs.map Q1) y)) v:=by
  intro outs y rs hy hrv;cases hrv with
  |tup _ vs hl hr2=>
  have:=(jv (w:=w) (U:=U) (ρ:=ρ) (U':=U) (ρ':=ρ) (hp:=jI []) (f:=λi=>i) (λb hb=>hb) (outs.map Q1) rs vs _ (o7 outs rs y hy) ⟨hl,hr2⟩ (λid _=>hob id)
   (λid _=>rfl)).1
  simp only[oD,sQ,zE,if_false,List.map_id']at this;exact .tup _ vs this.len this.rv
 match outs,y,h with
 | [s],y,h=>
  simp only[aM]at h;split at h
  ·rename_i x hx;cases h;exact AA hx hr (λb hb=>hb) (λid _=>hob id)
  ·cases h
 | [],y,h=>
  simp only[aM]at h;cases r with
  |tup rs=>exact htup [] y _ h hr
  |_=>cases h
 | s1::s2::ss,y,h=>
  simp only[aM]at h;cases r with
  |tup rs=>exact htup _ y _ h hr
  |_=>cases h
theorem Vt{P:Program}{gl:Nat->AV}{E:bX}{k:FuncId}{f:Func}{ps:List CP}{ks outs:List Sh}{ps':List CP}{c:zn ps->zy (ks.map some)->Bool}{g:zn ps->zy (ks.map some)->zy (outs.map some)×zn ps'}(hf:zJ E.P k f (ks.length+1))
  (h:∀y x,c y x=Q3->∀C:eS,(∀id,aS ps+1<=id->C.ρ0 id=Q2)->Reach E C k (bt f) (bc f.ntmps (.ptr 0 0::je (ks.map Q1) x) (au ps y)) (λr h=>rQ ps' outs r h=Q1 (g y x))) (qp:E.P=P:=by rfl) (qg:E.gl=gl:=by rfl):
  nX P gl k (rP ps ks outs ps' c g):=by
 subst qp qg;refine dt (by simpa using hf) λx h0 res hx C hC=>?_
 obtain⟨x0,x⟩:=x;unfold zgy at hx;simp only at hx;split at hx
 ·rename_i cs os;split at hx
  ·rename_i hos;split at hx
   ·rename_i y hy;simp only[Tr.val]at hx;split at hx
    ·rename_i hc;simp only[bz]at hx;subst hx;have hR:=h y x hc C (λid hid=>hC id (by simpa[hos]using hid));intro b cs' a w U ρ h1 h2 hcn hW;have hH:jn C w U ρ (λj=>((Qa cs::os).getD j .dead)):=hcn.hp
     have hcn':Cn C (bc f.ntmps (.ptr 0 0::je (ks.map Q1) x) (au ps y)) a w U ρ:=
      ⟨hcn.tm,hH.box hos hy,λid hid=>hcn.new id (by have hid:(au ps y).length<=id:=hid;rw[rg]at hid;simpa[bc,hos]using hid),hcn.df,hcn.r0⟩
     obtain⟨e,w',fr,⟨v,r,h',U',ρ',he,hq,hrv,hH',hnew,hr0,hWd⟩,hcm,hf',hl⟩:=hR b cs' a w U ρ h1 h2 hcn' hW;unfold rQ at hq;split at hq
     ·rename_i cs2 os2;split at hq
      ·rename_i hos2;split at hq
       ·rename_i a' y' ha' hy';simp only[bz]at hq;refine⟨e,w',fr,⟨v,_,_,U',ρ',he,by rw[<-hq],E7 ha' hrv,hH'.box hos2 hy',λid hid=>hnew id (by rw[rg]at hid;simpa[hos2]using hid),hr0,hWd⟩,hcm,hf',hl⟩
       ·cases hq
      ·cases hq
     ·cases hq
    ·simp at hx
   ·simp at hx
  ·simp at hx
 ·simp at hx
def tH(E:bX)(n0:Nat)(keep:Nat->aN)(f:Func)(gas:Nat):Nat->List Item->St->Option (AV×List AO)
 |0,_,_=>Q2
 | n+1,K,st=>match (run E n0 keep f.results.toList gas K st).val with
  |some (.ret v h)=>Q1 (v,h)
  |some (.head _ K' st')=>tH E n0 keep f gas n K' st'
  |_=>Q2
theorem oX{E:bX}{C:eS}{k:FuncId}{f:Func}{Q:AV->List AO->Prop}{m n0:Nat}(hE:zx E)(hf:zJ E.P k f m)(hC:∀id,n0<=id->C.ρ0 id=Q2){keep:Nat->aN}{gas:Nat}:
  ∀(n:Nat)(K:List Item)(st:St)(r:AV×List AO),tH E n0 keep f gas n K st=Q1 r->Q r.1 r.2->Reach E C k K st Q
 |0,_,_,_,h,_=>by cases h
 | n+1,K,st,r,h,hQ=>by
  unfold tH at h;split at h
  ·rename_i v h' hv;cases h;exact mB hE hf hC hv hQ
  ·rename_i j K' st' hv;exact mB hE hf hC hv (oX hE hf hC n K' st' r h hQ)
  ·cases h
def cw:(outs:List Sh)->zy (outs.map Q1)
 |[]=>()
 |s::r=>(zi s,cw r)
def fS:(ps:List CP)->zn ps
 |[]=>()
 |.d s::r=>(zi s,fS r)
 |.nil::r=>fS r
 |.vec _::r=>([],fS r)
def bC:List Nat->(ps:List CP)->zn ps->List AV
 |_,[],_=>[]
 |n,.d s::r,y=>zq s y.1++bC n r y.2
 |n,.nil::r,y=>.nils::bC n r y
 |n,.vec _::r,y=>.vec (n.headD 0)::bC n.tail r y.2
def Y7(E:bX)(keep:Nat->aN)(f:Func)(gas n:Nat)(ks outs:List Sh)(x:zy (ks.map Q1)):Option (zy (outs.map Q1)):=
 (tH E 0 keep f gas n (bt f) (bc f.ntmps (je (ks.map Q1) x) [])).bind λr=>aM r.2 outs r.1
def Li(ks outs:List Sh)(g:zy (ks.map Q1)->Option (zy (outs.map Q1))):zY:=zR ks outs (λx=>(g x).isSome) λx=>(g x).getD (cw outs)
theorem zbp{P:Program}{gl:Nat->AV}{E:bX}{k:FuncId}{f:Func}{ks outs:List Sh}{keep:Nat->aN}{gas n:Nat}(hE:zx E)(hf:zJ E.P k f ks.length)(qp:E.P=P:=by rfl)(qg:E.gl=gl:=by rfl):nX P gl k (Li ks outs (Y7 E keep f gas n ks outs)):=by
 subst qp qg;refine aJ hf λx hc C hC=>?_
 rw[Option.isSome_iff_exists]at hc;obtain⟨y,hy⟩:=hc;rw[hy];unfold Y7 at hy;rw[fQ]at hy;obtain⟨r,h1,h2⟩:=hy;exact oX hE hf (λid _=>hC id) n _ _ r h1 h2
def Y6(E:bX)(keep:Nat->aN)(f:Func)(gas n:Nat)(ps:List CP)(ks outs:List Sh)(ps':List CP)(y:zn ps)(x:zy (ks.map Q1)):Option (zy (outs.map Q1)×zn ps'):=
 (tH E (aS ps+1) keep f gas n (bt f) (bc f.ntmps (.ptr 0 0::je (ks.map Q1) x) (au ps y))).bind λr=>rQ ps' outs r.1 r.2
def zkm(ps:List CP)(ks outs:List Sh)(ps':List CP)(g:zn ps->zy (ks.map Q1)->Option (zy (outs.map Q1)×zn ps')):zY:=
 rP ps ks outs ps' (λy x=>(g y x).isSome) λy x=>(g y x).getD (cw outs,fS ps')
theorem Vu{P:Program}{gl:Nat->AV}{E:bX}{k:FuncId}{f:Func}{ps:List CP}{ks outs:List Sh}{ps':List CP}{keep:Nat->aN}{gas n:Nat}(hE:zx E)(hf:zJ E.P k f (ks.length+1))(qp:E.P=P:=by rfl)(qg:E.gl=gl:=by rfl):nX P gl k (zkm ps ks outs ps' (Y6 E keep f gas n ps ks outs ps')):=by
 subst qp qg;refine Vt hf λy x hc C hC=>?_
 rw[Option.isSome_iff_exists]at hc;obtain⟨z,hz⟩:=hc;rw[hz];unfold Y6 at hz;rw[fQ]at hz;obtain⟨r,h1,h2⟩:=hz;exact oX hE hf hC n _ _ r h1 h2
theorem Kc{P:Program}{gl:Nat->AV}{k:FuncId}{ks outs:List Sh}{g:zy (ks.map Q1)->Option (zy (outs.map Q1))}{c:zy (ks.map Q1)->Bool}{g':zy (ks.map Q1)->zy (outs.map Q1)}(h:nX P gl k (Li ks outs g))(hg:∀x,c x=Q3->g x=Q1 (g' x)):nX P gl k (zR ks outs c g'):=by
 refine xS (ι:=Unit) (Gs:=λ_=>fh ks outs (λx=>(g x).isSome) λx=>(g x).getD (cw outs)) (λ_=>h) λx h0 res hv=>⟨(),?_⟩
 unfold fh at hv⊢;split at hv
 ·simp only[Tr.val]at hv⊢;split at hv
  ·rename_i hc;simp only[hg x hc,DF,if_true,du];exact hv
  ·simp at hv
 ·simp at hv
theorem gP{P:Program}{gl:Nat->AV}{k:FuncId}{ks outs:List Sh}{g:zy (ks.map Q1)->Option (zy (outs.map Q1))}{g':zy (ks.map Q1)->zy (outs.map Q1)}(h:nX P gl k (Li ks outs g))(hg:∀x,g x=Q1 (g' x)):nX P gl k (aE ks outs g'):=
 Mh (Kc h λx _=>hg x)
theorem Vv{P:Program}{gl:Nat->AV}{E:bX}{k:FuncId}{f:Func}{ks outs:List Sh}{keep:Nat->aN}{gas n:Nat}{c:zy (ks.map Q1)->Bool}{g:zy (ks.map Q1)->zy (outs.map Q1)}(hE:zx E)(hf:zJ E.P k f ks.length)
  (hc:∀x,c x=(Y7 E keep f gas n ks outs x).isSome) (hg:∀x,g x=(Y7 E keep f gas n ks outs x).getD (cw outs)) (qp:E.P=P:=by rfl) (qg:E.gl=gl:=by rfl):nX P gl k (zR ks outs c g):=by
 subst qp qg;obtain rfl:c=λx=>(Y7 E keep f gas n ks outs x).isSome:=funext hc
 obtain rfl:g=λx=>(Y7 E keep f gas n ks outs x).getD (cw outs):=funext hg
 exact zbp hE hf
theorem P0{P:Program}{gl:Nat->AV}{E:bX}{k:FuncId}{f:Func}{ps:List CP}{ks outs:List Sh}{ps':List CP}{keep:Nat->aN}{gas n:Nat}{c:zn ps->zy (ks.map Q1)->Bool}{g:zn ps->zy (ks.map Q1)->zy (outs.map Q1)×zn ps'}(hE:zx E)(hf:zJ E.P k f (ks.length+1))
  (hc:∀y x,c y x=(Y6 E keep f gas n ps ks outs ps' y x).isSome) (hg:∀y x,g y x=(Y6 E keep f gas n ps ks outs ps' y x).getD (cw outs,fS ps')) (qp:E.P=P:=by rfl) (qg:E.gl=gl:=by rfl):nX P gl k (rP ps ks outs ps' c g):=by
 subst qp qg;obtain rfl:c=λy x=>(Y6 E keep f gas n ps ks outs ps' y x).isSome:=funext λy=>funext λx=>hc y x
 obtain rfl:g=λy x=>(Y6 E keep f gas n ps ks outs ps' y x).getD (cw outs,fS ps'):=funext λy=>funext λx=>hg y x
 exact Vu hE hf
abbrev ar:=AV×List AO
def Tr.map{α β:Type}(f:α->β):Tr α->Tr β
 |.err=>.err
 |.chk c t=>.chk c (t.map f)
 |.br c t e=>.br c (t.map f) (e.map f)
 |.ok a=>.ok (f a)
theorem Tr.val_map{α β:Type}(f:α->β):∀t:Tr α,(t.map f).val=t.val.map f
 |.err=>rfl
 |.chk c t=>by simp only[Tr.map,Tr.val,val_map f t];split<;>rfl
 |.br c t e=>by simp only[Tr.map,Tr.val,val_map f t,val_map f e];split<;>rfl
 |.ok _=>rfl
abbrev Tr.to{σ:Type}(s:σ):Tr (σ⊕ar):=.ok (.inl s)
abbrev Tr.re{σ:Type}(v:AV)(h:List AO):Tr (σ⊕ar):=.ok (.inr (v,h))
def cU{σ:Type}(t:σ->Tr (σ⊕ar)):Nat->σ->Option ar
 |0,_=>Q2
 | n+1,s=>match (t s).val with
  |some (.inl s')=>cU t n s'
  |some (.inr r)=>Q1 r
  |none=>Q2
def cX{σ:Type}(t:σ->Tr (σ⊕ar))(n:Nat)(i:Tr (σ⊕ar)):Option ar:=match i.val with
 |some (.inl s)=>cU t n s
 |some (.inr r)=>Q1 r
 |none=>Q2
def lf{σ:Type}(f:Func)(e:σ->Nat×St):σ⊕ar->zC
 |.inl s=>.head (e s).1 (ae f (e s).1) (e s).2
 |.inr r=>.ret r.1 r.2
def e0:Empty->Nat×St:=λx=>nomatch x
def t0:Empty->Tr (Empty⊕ar):=λx=>nomatch x
section
variable {σ:Type} {E:bX} {n0:Nat} {keep:Nat->aN} {f:Func} {gas:Nat} {e:σ->Nat×St} {t:σ->Tr (σ⊕ar)}
theorem ML(hon:∀s,run E n0 keep f.results.toList gas (ae f (e s).1) (e s).2=(t s).map (lf f e)):∀(n:Nat)(s:σ),tH E n0 keep f gas n (ae f (e s).1) (e s).2=cU t n s
 |0,_=>rfl
 | n+1,s=>by
  rw[tH,hon s,Tr.val_map,cU];cases(t s).val with
  |none=>rfl
  | some l=>
   cases l with
   |inl s'=>exact ML hon n s'
   |inr r=>rfl
theorem m8(hon:∀s,run E n0 keep f.results.toList gas (ae f (e s).1) (e s).2=(t s).map (lf f e)){K:List Item}{st:St}{i:Tr (σ⊕ar)}(hgo:run E n0 keep f.results.toList gas K st=i.map (lf f e))(n:Nat):tH E n0 keep f gas (n+1) K st=cX t n i:=by
 rw[tH,hgo,Tr.val_map,cX];cases i.val with
 |none=>rfl
 | some l=>
  cases l with
  |inl s=>exact ML hon n s
  |inr r=>rfl
end
def ao{σ:Type}(outs:List Sh)(t:σ->Tr (σ⊕ar))(n:Nat)(i:Tr (σ⊕ar)):Option (zy (outs.map Q1)):=(cX t n i).bind λr=>aM r.2 outs r.1
theorem lH{P:Program}{gl:Nat->AV}{σ:Type}{E:bX}{k:FuncId}{f:Func}{ks outs:List Sh}{keep:Nat->aN}{gas n:Nat}{e:σ->Nat×St}{t:σ->Tr (σ⊕ar)}{i:zy (ks.map Q1)->Tr (σ⊕ar)}{c:zy (ks.map Q1)->Bool}{g:zy (ks.map Q1)->zy (outs.map Q1)}
  (hE:zx E) (hf:zJ E.P k f ks.length) (hgo:∀x,run E 0 keep f.results.toList gas (bt f) (bc f.ntmps (je (ks.map Q1) x) [])=(i x).map (lf f e))
  (hon:∀s,run E 0 keep f.results.toList gas (ae f (e s).1) (e s).2=(t s).map (lf f e))
  (hc:∀x,c x=(ao outs t n (i x)).isSome) (hg:∀x,g x=(ao outs t n (i x)).getD (cw outs)) (qp:E.P=P:=by rfl) (qg:E.gl=gl:=by rfl):nX P gl k (zR ks outs c g):=by
 subst qp qg;have h:∀x,Y7 E keep f gas (n+1) ks outs x=ao outs t n (i x):=by
  intro x;unfold Y7 ao;rw[m8 hon (hgo x)]
 exact Vv (n:=n+1) hE hf (λx=>by rw[h,hc]) (λx=>by rw[h,hg])
theorem WW{σ:Type}{E:bX}{C:eS}{k:FuncId}{f:Func}{outs:List Sh}{m n0 n gas:Nat}{keep:Nat->aN}{e:σ->Nat×St}{t:σ->Tr (σ⊕ar)}{i:Tr (σ⊕ar)}{K:List Item}{st:St}{y:zy (outs.map Q1)}(hE:zx E)(hf:zJ E.P k f m)(hC:∀id,n0<=id->C.ρ0 id=Q2)
  (hgo:run E n0 keep f.results.toList gas K st=i.map (lf f e)) (hon:∀s,run E n0 keep f.results.toList gas (ae f (e s).1) (e s).2=(t s).map (lf f e)) (h:ao outs t n i=Q1 y):Reach E C k K st (λr h=>aM h outs r=Q1 y):=by
 unfold ao at h;rw[fQ]at h;obtain⟨r,h1,h2⟩:=h;rw[<-m8 hon hgo n]at h1;exact oX hE hf hC (n+1) _ _ r h1 h2
abbrev k0:Nat->aN:=λ_=>{ }
abbrev lV:List (Nat×List Nat)->Nat->aN
 |[],_=>{ }
 |p::r,j=>if j=p.1 then{slots:=p.2}else lV r j
def o1{a:Sh}(o:Option (zy [Q1 a])):Sem a:=(o.getD (cw [a])).1
def o2{a b:Sh}(o:Option (zy [Q1 a,Q1 b])):Sem a×Sem b:=((o.getD (cw [a,b])).1,(o.getD (cw [a,b])).2.1)
def o3{a b c:Sh}(o:Option (zy [Q1 a,Q1 b,Q1 c])):Sem a×Sem b×Sem c:=((o.getD (cw [a,b,c])).1,(o.getD (cw [a,b,c])).2.1,(o.getD (cw [a,b,c])).2.2.1)
def FT(ks outs:List Sh)(o:zy (ks.map Q1)->Option (zy (outs.map Q1))):zY:=zR ks outs (λx=>(o x).isSome) λx=>(o x).getD (cw outs)
theorem zx.T1{P:Program}{gl:Nat->AV}{σ:Type}{E:bX}{k:FuncId}{f:Func}{ks outs:List Sh}{keep:Nat->aN}{n:Nat}{e:σ->Nat×St}{t:σ->Tr (σ⊕ar)}{i:zy (ks.map Q1)->Tr (σ⊕ar)}(hE:zx E)(gas:Nat:=400)
  (hf:(E.P.funcs[k]?,f.name=="runtime.NumGoroutine",f.body.isNone,Q0 (ks.length<=f.ntmps))=(Q1 f,Q4,Q4,Q3):=by kernel_rfl)
  (hgo:∀x,run E 0 keep f.results.toList gas (bt f) (bc f.ntmps (je (ks.map Q1) x) [])=(i x).map (lf f e):=by intro x;kernel_rfl)
  (hon:∀s,run E 0 keep f.results.toList gas (ae f (e s).1) (e s).2=(t s).map (lf f e):=by intro s;cases s<;>kernel_rfl) (qp:E.P=P:=by rfl) (qg:E.gl=gl:=by rfl):nX P gl k (FT ks outs λx=>ao outs t n (i x)):=by
 subst qp qg;exact lH hE (bQ hf) hgo hon (λ_=>rfl) λ_=>rfl
theorem Uy(E:bX)(n0:Nat)(keep:Nat->aN)(f:Func)(gas:Nat):∀s,run E n0 keep f.results.toList gas (ae f (e0 s).1) (e0 s).2=(t0 s).map (lf f e0):=λs=>nomatch s
def kI{σ:Type}(outs:List Sh)(ps':List CP)(t:σ->Tr (σ⊕ar))(n:Nat)(i:Tr (σ⊕ar)):Option (zy (outs.map Q1)×zn ps'):=(cX t n i).bind λr=>rQ ps' outs r.1 r.2
theorem ki{P:Program}{gl:Nat->AV}{σ:Type}{E:bX}{k:FuncId}{f:Func}{ps:List CP}{ks outs:List Sh}{ps':List CP}{keep:Nat->aN}{gas n:Nat}{e:σ->Nat×St}{t:σ->Tr (σ⊕ar)}{i:zn ps->zy (ks.map Q1)->Tr (σ⊕ar)}{c:zn ps->zy (ks.map Q1)->Bool}{g:zn ps->zy (ks.map Q1)->zy (outs.map Q1)×zn ps'}
  (hE:zx E) (hf:zJ E.P k f (ks.length+1)) (hgo:∀y x,run E (aS ps+1) keep f.results.toList gas (bt f) (bc f.ntmps (.ptr 0 0::je (ks.map Q1) x) (au ps y))=(i y x).map (lf f e))
  (hon:∀s,run E (aS ps+1) keep f.results.toList gas (ae f (e s).1) (e s).2=(t s).map (lf f e))
  (hc:∀y x,c y x=(kI outs ps' t n (i y x)).isSome) (hg:∀y x,g y x=(kI outs ps' t n (i y x)).getD (cw outs,fS ps')) (qp:E.P=P:=by rfl) (qg:E.gl=gl:=by rfl):nX P gl k (rP ps ks outs ps' c g):=by
 subst qp qg;have h:∀y x,Y6 E keep f gas (n+1) ps ks outs ps' y x=kI outs ps' t n (i y x):=by
  intro y x;unfold Y6 kI;rw[m8 hon (hgo y x)]
 exact P0 (n:=n+1) hE hf (λy x=>by rw[h,hc]) (λy x=>by rw[h,hg])
open Tr (chk br re)
theorem Mm(hp:Nat->AO)(e:Sh)(l:List (Sem e)):vd hp e (.sl e l)=Q1 l:=by
 simp[vd]
theorem jJ(hp:Nat->AO):∀(s:Sh)(x:Sem s)(r:List AV),cI hp s (zq s x++r)=Q1 (x,r)
 |.unit,_,_=>rfl
 |.bool,_,_=>rfl
 |.int k,n,r=>by simp[zq,cI]
 |.str,_,_=>rfl
 | .sl e,l,r=>by
  show(match vd hp e (.sl e l)with|some l=>Q1 (l,r)|none=>Q2)=_;rw[Mm]
 | .pr a b,x,r=>by
  simp only[zq,cI,An,jJ hp a,jJ hp b]
 | .expr,e,r=>by
  show tB hp _=_;simp only[zq,List.cons_append,DH,tB,Mm];rw[show zf.mk e.op (e.v.1,e.v.2.1,e.v.2.2) e.s e.l=e from zf.eta e]
theorem jg{hp:Nat->AO}:∀(ps:List CP)(n:Nat)(y:zn ps),(∀(j:Nat) o,(fW ps y)[j]?=Q1 o->hp (n+j)=o)->cu hp n ps (eD n ps y)=Q1 y
 |[],_,_,_=>rfl
 | .d s::r,n,y,h=>by
  simp only[eD,cu,jJ];rw[jg r n y.2 h]
 | .nil::r,n,y,h=>by
  simp only[eD,cu];exact jg r n y h
 | .vec e::r,n,y,h=>by
  have h0:=h 0 (.vec e y.1) rfl;simp only[wT]at h0;simp only[eD,cu,if_true,h0,dite_true]
  rw[jg r (n+1) y.2 (λj o hj=>by
   have:=h (j+1) o (by simpa[fW]using hj);rw[<-this];congr 1;omega)]
theorem cT{ps:List CP}{outs:List Sh}{r:AV}{a:zy (outs.map Q1)}(y:zn ps)(h:aM [] outs r=Q1 a):rQ ps outs r (au ps y)=Q1 (a,y):=by
 unfold rQ au;simp only[bI,if_true,h]
 rw[jg ps 1 y (λj o hj=>by
  unfold jI;rw[nN,Al,bd,hj];rfl)]
section
variable {σ:Type} {t:σ->Tr (σ⊕ar)}
theorem di{β:Type}(N:Nat)(st:β->Nat->σ)(I:β->Nat->Prop)(Φ:ar->Prop)(M:Nat)
  (hstep:∀b i,i<N->I b i->(∃b',I b' (i+1)/\(t (st b i)).val=Q1 (.inl (st b' (i+1))))\/∃r,(t (st b i)).val=Q1 (.inr r)/\Φ r)
  (hend:∀b n,I b N->M<=n->∃r,cU t n (st b N)=Q1 r/\Φ r):
  ∀(m i:Nat)(b:β)(n:Nat),N-i=m->i<=N->I b i->M+m<=n->∃r,cU t n (st b i)=Q1 r/\Φ r
 | 0,i,b,n,hm,hi,hI,hn=>by
  obtain rfl:i=N:=by omega
  exact hend b n hI ow
 | m+1,i,b,n,hm,hi,hI,hn=>by
  obtain⟨n,rfl⟩:∃k,n=k+1:=⟨n-1,ow⟩;rcases hstep b i ow hI with⟨b',hI',h⟩|⟨r,h1,h2⟩
  ·obtain⟨r,h1,h2⟩:=di N st I Φ M hstep hend m (i+1) b' n ow ow hI' ow;exact⟨r,by rw[cU,h];exact h1,h2⟩
  ·exact⟨r,by rw[cU,h1],h2⟩
theorem cD{n:Nat}{s:σ}:cU t (n+1) s=match(t s).val with
  |some (.inl s')=>cU t n s'
  |some (.inr r)=>Q1 r
  |none=>Q2:=rfl
end
theorem jn.cells{C:eS}{w:World}{U:Nat->Prop}{ρ:Nat->Option Value}{hp:Nat->AO}{k:Nat}{cs cs':List AV}(hH:jn C w U ρ hp)(hk:hp k=.box cs)
  (hr:∀vals,dn w U ρ cs vals->dn w U ρ cs' vals):jn C w U ρ (λj=>if j=k then .box cs' else hp j):=by
 have hown:∀id b,ag ρ id (if id=k then .box cs' else hp id) b->ag ρ id (hp id) b:=by
  intro id b ho;by_cases hid:id=k
  ·subst hid;rw[if_pos rfl]at ho;rw[hk];obtain⟨_,v,hv,hb⟩:=ho;exact⟨rfl,v,hv,hb⟩
  ·rw[if_neg hid]at ho;exact ho
 refine⟨λid=>?_,λid1 id2 b o1 o2=>hH.inj id1 id2 b (hown _ _ o1) (hown _ _ o2),λid b o=>hH.blk id b (hown _ _ o)⟩;by_cases hid:id=k
 ·subst hid;have h0:=hH.ob id;rw[hk]at h0;obtain⟨b,T,vals,h1,h2,h3,h4,h5⟩:=h0;simp only[if_true];exact⟨b,T,vals,h1,h2,h3,hr _ h4,h5⟩
 ·simp only[if_neg hid];exact hH.ob id
def ce(ps qs:List CP)(y:zn ps)(z:zn qs):List AO:=.box (eD 2 ps y)::.box (eD (2+aS ps) qs z)::(fW ps y++fW qs z)
theorem oI(ps qs:List CP)(y:zn ps)(z:zn qs):(ce ps qs y z).length=aS ps+aS qs+2:=by
 simp[ce,bI]
theorem jn.box2{C:eS}{w:World}{U:Nat->Prop}{ρ:Nat->Option Value}{cs ds:List AV}{os:List AO}{ps qs:List CP}{y:zn ps}{z:zn qs}(hH:jn C w U ρ (λj=>((Qa cs::Qa ds::os).getD j .dead)))(hl:os.length=aS ps+aS qs)
  (hm:cu (jI (.box cs::.box ds::os)) 2 ps cs=Q1 y) (hm2:cu (jI (.box cs::.box ds::os)) (2+aS ps) qs ds=Q1 z):jn C w U ρ (λj=>(ce ps qs y z).getD j .dead):=by
 have h1:=hH.cells (k:=0) (cs:=cs) (cs':=eD 2 ps y) rfl (λvals h=>(fw ps 2 cs y vals hm h).1);have h2:=h1.cells (k:=1) (cs:=ds) (cs':=eD (2+aS ps) qs z) rfl (λvals h=>(fw qs _ ds z vals hm2 h).1);obtain⟨b0,T0,v0,_,_,_,r0,_⟩:=hH.ob 0;obtain⟨b1,T1,v1,_,_,_,r1,_⟩:=hH.ob 1;have k1:=(fw ps 2 cs y v0.toList hm r0).2;have k2:=(fw qs _ ds z v1.toList hm2 r1).2;have e:(λj=>(ce ps qs y z).getD j .dead)=λj=>if j=1 then .box (eD (2+aS ps) qs z)else if j=0 then .box (eD 2 ps y)else(Qa cs::Qa ds::os).getD j .dead:=by
  funext j
  match j with
  |0=>rfl
  |1=>rfl
  | j+2=>
   rw[if_neg ow,if_neg ow];simp only[ce,Al];by_cases hj:j<aS ps
   ·have hj':j<(fW ps y).length:=by rw[bI];exact hj
    have:=k1 j _ (zS hj');simp only[jI,nN 2 j,Al]at this;rw[this,bd,mP hj',zS hj'];rfl
   ·by_cases hj2:j<aS ps+aS qs
    ·have hj':j-aS ps<(fW qs z).length:=by rw[bI];omega
     have:=k2 (j-aS ps) _ (zS hj');rw[show 2+aS ps+(j-aS ps)=j+2 by omega]at this;simp only[jI,Al]at this;rw[this,bd,nZ (by rw[bI];omega),bI,zS hj'];rfl
    ·rw[bd,bd,eC (by simp[bI];omega),eC ow]
 rw[e];exact h2
def xW(ps qs:List CP)(outs:List Sh)(r:AV)(h:List AO):Option (zy (outs.map Q1)×zn ps×zn qs):=match h with
 | .box cs::.box ds::os=>if os.length=aS ps+aS qs then match aM [] outs r,cu (jI (.box cs::.box ds::os)) 2 ps cs,cu (jI (.box cs::.box ds::os)) (2+aS ps) qs ds with
   |some a,Q1 y,Q1 z=>Q1 (a,y,z)
   |_,_,_=>Q2
  else Q2
 |_=>Q2
def Yo(ps qs:List CP)(ks outs:List Sh)(ps' qs':List CP)(c:zn ps->zn qs->zy (ks.map Q1)->Bool)(g:zn ps->zn qs->zy (ks.map Q1)->zy (outs.map Q1)×zn ps'×zn qs'):ic (Q2::Q2::ks.map Q1):=λx h=>match x.1,x.2.1,h with
 | .ptr 0 0,.ptr 1 0,.box cs::.box ds::os=>if os.length=aS ps+aS qs then match cu (jI (.box cs::.box ds::os)) 2 ps cs,cu (jI (.box cs::.box ds::os)) (2+aS ps) qs ds with
   |some y,Q1 z=>.chk (c y z x.2.2) (.ok (xz outs (g y z x.2.2).1,ce ps' qs' (g y z x.2.2).2.1 (g y z x.2.2).2.2))
   |_,_=>.err
  else .err
 |_,_,_=>.err
def Qu(ps qs:List CP)(ks outs:List Sh)(ps' qs':List CP)(c:zn ps->zn qs->zy (ks.map Q1)->Bool)(g:zn ps->zn qs->zy (ks.map Q1)->zy (outs.map Q1)×zn ps'×zn qs'):zY:=bg (Q2::Q2::ks.map Q1) (Yo ps qs ks outs ps' qs' c g)
theorem PZ{P:Program}{gl:Nat->AV}{E:bX}{k:FuncId}{f:Func}{ps qs:List CP}{ks outs:List Sh}{ps' qs':List CP}{c:zn ps->zn qs->zy (ks.map some)->Bool}{g:zn ps->zn qs->zy (ks.map some)->zy (outs.map some)×zn ps'×zn qs'}(hf:zJ E.P k f (ks.length+2))
  (h:∀y z x,c y z x=Q3->∀C:eS,(∀id,aS ps+aS qs+2<=id->C.ρ0 id=Q2)->Reach E C k (bt f) (bc f.ntmps (.ptr 0 0::.ptr 1 0::je (ks.map Q1) x) (ce ps qs y z)) (λr h=>xW ps' qs' outs r h=Q1 (g y z x))) (qp:E.P=P:=by rfl) (qg:E.gl=gl:=by rfl):
  nX P gl k (Qu ps qs ks outs ps' qs' c g):=by
 subst qp qg;refine dt (by simpa using hf) λx h0 res hx C hC=>?_
 obtain⟨x0,x1,x⟩:=x;unfold Yo at hx;simp only at hx;split at hx
 ·rename_i cs ds os;split at hx
  ·rename_i hos;split at hx
   ·rename_i y z hy hz;simp only[Tr.val]at hx;split at hx
    ·rename_i hc;simp only[bz]at hx;subst hx;have hR:=h y z x hc C (λid hid=>hC id (by simpa[hos]using hid));intro b cs' a w U ρ h1 h2 hcn hW;have hH:jn C w U ρ (λj=>((Qa cs::Qa ds::os).getD j .dead)):=hcn.hp
     have hcn':Cn C (bc f.ntmps (.ptr 0 0::.ptr 1 0::je (ks.map Q1) x) (ce ps qs y z)) a w U ρ:=
      ⟨hcn.tm,hH.box2 hos hy hz,λid hid=>hcn.new id (by have hid:(ce ps qs y z).length<=id:=hid;rw[oI]at hid;simpa[bc,hos]using hid),hcn.df,hcn.r0⟩
     obtain⟨e,w',fr,⟨v,r,h',U',ρ',he,hq,hrv,hH',hnew,hr0,hWd⟩,hcm,hf',hl⟩:=hR b cs' a w U ρ h1 h2 hcn' hW;unfold xW at hq;split at hq
     ·rename_i cs2 ds2 os2;split at hq
      ·rename_i hos2;split at hq
       ·rename_i a' y' z' ha' hy' hz';simp only[bz]at hq;refine⟨e,w',fr,⟨v,_,_,U',ρ',he,by rw[<-hq],E7 ha' hrv,hH'.box2 hos2 hy' hz',λid hid=>hnew id (by rw[oI]at hid;simpa[hos2]using hid),hr0,hWd⟩,hcm,hf',hl⟩
       ·cases hq
      ·cases hq
     ·cases hq
    ·simp at hx
   ·simp at hx
  ·simp at hx
 ·simp at hx
def M8{σ:Type}(outs:List Sh)(ps' qs':List CP)(t:σ->Tr (σ⊕ar))(n:Nat)(i:Tr (σ⊕ar)):Option (zy (outs.map Q1)×zn ps'×zn qs'):=(cX t n i).bind λr=>xW ps' qs' outs r.1 r.2
theorem zbo{P:Program}{gl:Nat->AV}{σ:Type}{E:bX}{k:FuncId}{f:Func}{ps qs:List CP}{ks outs:List Sh}{ps' qs':List CP}{keep:Nat->aN}{gas n:Nat}{e:σ->Nat×St}{t:σ->Tr (σ⊕ar)}{i:zn ps->zn qs->zy (ks.map Q1)->Tr (σ⊕ar)}{c:zn ps->zn qs->zy (ks.map Q1)->Bool}{g:zn ps->zn qs->zy (ks.map Q1)->zy (outs.map Q1)×zn ps'×zn qs'}
  (hE:zx E) (hf:zJ E.P k f (ks.length+2)) (hgo:∀y z x,run E (aS ps+aS qs+2) keep f.results.toList gas (bt f) (bc f.ntmps (.ptr 0 0::.ptr 1 0::je (ks.map Q1) x) (ce ps qs y z))=(i y z x).map (lf f e))
  (hon:∀s,run E (aS ps+aS qs+2) keep f.results.toList gas (ae f (e s).1) (e s).2=(t s).map (lf f e))
  (hc:∀y z x,c y z x=(M8 outs ps' qs' t n (i y z x)).isSome) (hg:∀y z x,g y z x=(M8 outs ps' qs' t n (i y z x)).getD (cw outs,fS ps',fS qs')) (qp:E.P=P:=by rfl) (qg:E.gl=gl:=by rfl):nX P gl k (Qu ps qs ks outs ps' qs' c g):=by
 subst qp qg;refine PZ hf λy z x hcx C hC=>?_
 rw[hc,Option.isSome_iff_exists]at hcx;obtain⟨u,hu⟩:=hcx;rw[hg,hu];unfold M8 at hu;rw[fQ]at hu;obtain⟨r,h1,h2⟩:=hu;exact oX (Q:=λr h=>xW ps' qs' outs r h=Q1 u) hE hf hC (n+1) _ _ r (by rw[m8 hon (hgo y z x)];exact h1) h2
section
variable {σ:Type} {t:σ->Tr (σ⊕ar)}
def zT(t:σ->Tr (σ⊕ar))(k:Nat)(s:σ)(r:ar):Prop:=∀n,k<=n->cU t n s=Q1 r
def zP(t:σ->Tr (σ⊕ar))(m:Nat)(s s':σ):Prop:=∀k r,zT t k s' r->zT t (k+m) s r
theorem zT.mono{k k':Nat}{s:σ}{r:ar}(h:zT t k s r)(hk:k<=k'):zT t k' s r:=λn hn=>h n ow
theorem zT.of{s:σ}{r:ar}(h:(t s).val=Q1 (.inr r)):zT t 1 s r:=by
 intro n hn;obtain⟨n,rfl⟩:∃k,n=k+1:=⟨n-1,ow⟩;rw[cU,h]
theorem zP.of{s s':σ}(h:(t s).val=Q1 (.inl s')):zP t 1 s s':=by
 intro k r hr n hn;obtain⟨n,rfl⟩:∃k,n=k+1:=⟨n-1,ow⟩;rw[cU,h];exact hr n ow
theorem zP.refl(s:σ):zP t 0 s s:=λ_ _ h=>h
theorem zP.trans{a b:Nat}{s s' s'':σ}(h1:zP t a s s')(h2:zP t b s' s''):zP t (b+a) s s'':=λk r h=>(h1 _ _ (h2 k r h)).mono ow
theorem zP.mono{a b:Nat}{s s':σ}(h:zP t a s s')(hk:a<=b):zP t b s s':=λk r hr=>(h k r hr).mono ow
theorem zP.ends{a k:Nat}{s s':σ}{r:ar}(h1:zP t a s s')(h2:zT t k s' r):zT t (k+a) s r:=h1 k r h2
theorem zP.all(m:Nat)(st:Nat->σ):∀(N:Nat),(∀i,i<N->zP t m (st i) (st (i+1)))->zP t (N*m) (st 0) (st N)
 |0,_=>(zP.refl _).mono ow
 |N+1,h=>((zP.all m st N λi hi=>h i ow).trans (h N ow)).mono (by rw[mN];omega)
theorem lI{Φ:ar->Prop}(m:Nat)(st:Nat->σ)(P:Nat->Prop):∀(N:Nat),(∀i,i<N->(∀j,j<i->P j)->(P i/\zP t m (st i) (st (i+1)))\/(¬P i/\∃r,zT t m (st i) r/\Φ r))->
  ((∀i,i<N->P i)/\zP t (N*m) (st 0) (st N))\/((¬∀i,i<N->P i)/\∃r,zT t (N*m) (st 0) r/\Φ r)
 |0,_=>.inl ⟨λi hi=>absurd hi ow,(zP.refl _).mono ow⟩
 | N+1,h=>by
  rcases lI m st P N λi hi=>h i ow with⟨h1,h2⟩|⟨h1,r,h2,h3⟩
  ·rcases h N ow h1 with⟨h4,h5⟩|⟨h4,r,h5,h6⟩
   ·refine .inl ⟨λi hi=>?_,(h2.trans h5).mono (by rw[mN];omega)⟩;rcases Nat.lt_succ_iff_lt_or_eq.1 hi with hi|rfl
    ·exact h1 i hi
    ·exact h4
   ·exact .inr ⟨λh=>h4 (h N ow),r,(h2.ends h5).mono (by rw[mN];omega),h6⟩
  ·exact .inr ⟨λh=>h1 λi hi=>h i ow,r,h2.mono (by rw[mN];omega),h3⟩
theorem zw{outs:List Sh}{n k:Nat}{i:Tr (σ⊕ar)}{s:σ}{r:ar}{y:zy (outs.map Q1)}(hi:i.val=Q1 (.inl s))(h:zT t k s r)(hk:k<=n)(hr:aM r.2 outs r.1=Q1 y):ao outs t n i=Q1 y:=by
 unfold ao cX;rw[hi];show(cU t n s).bind _=_;rw[h n hk];exact hr
theorem zI{outs:List Sh}{n:Nat}{i:Tr (σ⊕ar)}{r:ar}{y:zy (outs.map Q1)}(hi:i.val=Q1 (.inr r))(hr:aM r.2 outs r.1=Q1 y):ao outs t n i=Q1 y:=by
 unfold ao cX;rw[hi];exact hr
theorem Ti{outs:List Sh}{ps:List CP}{n:Nat}{i:Tr (σ⊕ar)}{r:ar}{y:zy (outs.map Q1)×zn ps}(hi:i.val=Q1 (.inr r))(hr:rQ ps outs r.1 r.2=Q1 y):kI outs ps t n i=Q1 y:=by
 unfold kI cX;rw[hi];exact hr
end
noncomputable section
theorem Reach.lenA{E:bX}{C:eS}{fn:FuncId}{todo:List Item}{st:St}{Q:AV->List AO->Prop}(j c:Nat)(e:Sh)(l:List (Sem e)){cs:List AV}(h1:st.tmps[j]?=Q1 (.agg cs))(h2:cs[c]?=Q1 (.sl e l))(h:l.length<=aF->Reach E C fn todo st Q):Reach E C fn todo st Q:=by
 intro b cs' a w U ρ q1 q2 hc hW;refine h ?_ b cs' a w U ρ q1 q2 hc hW;have hlt:j<a.tmps.toList.length:=by rw[<-hc.tm.len];exact(cZ.1 h1).1
 have:=hc.tm.rv j _ _ h1 (zS hlt);generalize a.tmps.toList[j]=v at this;cases this with
 |agg _ vs hlv _ hr=>
 have hlt:c<vs.length:=by rw[<-hlv];exact(cZ.1 h2).1
 have:=hr c _ _ h2 (zS hlt);generalize vs[c]=v at this;cases this with
 |sl0=>simp
 |sl _ _ _ _ _ _ _ hm=>exact hm
abbrev zhM:Nat->aN:=λj=>if j=3 then{slots:=[0,3,4],prom:=[(3,Q2,ze)]}else{ }
inductive NU where
 |h3 (l0:List (Sem ze)) (i4:Int) (lh_0:List (Sem ze))
abbrev zkt:NU->Nat×St
 |.h3 l0 i4 lh_0=>(3,⟨tm 24 [(0,sl ze l0),(3,AV.vec 0),(4,ai i4)],[AO.vec ze lh_0]⟩)
def zlU(x0:Sem ze.sl):Tr (NU⊕ar):=Tr.to (NU.h3 x0 0 [])
def Xa:NU->Tr (NU⊕ar)
 | .h3 l0 i4 lh_0=>
  let a0:=l0.getD i4.toNat (zi ze)
  let a1:=[Dr a0]
  br (bif Q0 (i4<(↑l0.length:Int))then Q0 (i4<14)else Q4)
  (chk (zN i4 l0.length) (chk (J2 a0) (chk (Q0 (lh_0.length+a1.length<=1073741824)) (Tr.to (NU.h3 l0 (IntKind.i64.wrap (i4+1)) (lh_0++a1))))))
  (re (AV.vec 0) [AO.vec ze lh_0])
def ziu(x0:Sem ze.sl):=ao [ze.sl] Xa 100000000 (zlU x0)
def zd3:=FT [ze.sl] [ze.sl] λx=>ziu x.1
theorem PR:FK 14 zd3:=vt.T1 (f:=Tryz.f14) (keep:=zhM) (e:=zkt)
abbrev zhZ:Nat->aN:=λj=>if j=3 then{slots:=[0,3,4],prom:=[(3,Q2,zj)]}else{ }
inductive Kg where
 |h3 (l0:List (Sem zj)) (i4:Int) (lh_0:List (Sem zj))
abbrev zkC:Kg->Nat×St
 |.h3 l0 i4 lh_0=>(3,⟨tm 33 [(0,sl zj l0),(3,AV.vec 0),(4,ai i4)],[AO.vec zj lh_0]⟩)
def zlY(x0:Sem zj.sl):Tr (Kg⊕ar):=Tr.to (Kg.h3 x0 0 [])
def Xc:Kg->Tr (Kg⊕ar)
 | .h3 l0 i4 lh_0=>
  let a0:=l0.getD i4.toNat (zi zj)
  let a1:=(↑(length a0.1):Int)
  let a2:=[(Qg (toNat 20-toNat 0) (Qh (toNat 0) a0.1),a0.2)]
  let a3:=IntKind.i64.wrap (i4+1)
  let a4:=[a0]
  br (bif Q0 (i4<(↑l0.length:Int))then Q0 (i4<9)else Q4)
  (chk (zN i4 l0.length) (br (Q0 (a1>20)) (chk (Q0 (0<=0)&&Q0 (0<=20)&&Q0 (20<=a1)) (chk (Q0 (lh_0.length+a2.length<=1073741824)) (Tr.to (Kg.h3 l0 a3 (lh_0++a2))))) (chk (Q0 (lh_0.length+a4.length<=1073741824)) (Tr.to (Kg.h3 l0 a3 (lh_0++a4))))))
  (re (AV.vec 0) [AO.vec zj lh_0])
def zit(x0:Sem zj.sl):=ao [zj.sl] Xc 100000000 (zlY x0)
def zey:=FT [zj.sl] [zj.sl] λx=>zit x.1
theorem PV:FK 40 zey:=vt.T1 (f:=Tryz.f40) (keep:=zhZ) (e:=zkC)
def lx(l:Sem ze.sl):Sem ze.sl:=(Qg 14 l).map Dr
def ju(l:Sem zj.sl):Sem zj.sl:=(Qg 9 l).map λc:Sem zj=>((jb c.1,c.2):Sem zj)
theorem uL(k:Nat){α:Type}(l:List α):l.take (min k l.length)=l.take k:=by
 rcases Nat.le_total k l.length with h|h
 ·rw[DI h]
 ·rw[DG h,jN,Mj h]
theorem Wv{i k n:Nat}{K:Int}(hk:K=(k:Int))(h:i<min k n):(bif Q0 ((i:Int)<(n:Int))then Q0 ((i:Int)<K)else Q4)=Q3:=by
 have h1:(i:Int)<n:=by omega
 have h2:(i:Int)<K:=by omega
 rw[zu h1,zu h2];rfl
theorem MR{k:Nat}{K:Int}(hk:K=(k:Int))(n:Nat):(bif Q0 (((min k n:Nat):Int)<(n:Int))then Q0 (((min k n:Nat):Int)<K)else Q4)=Q4:=by
 rcases Nat.le_total k n with h|h
 ·rw[DI h,hk];simp
 ·rw[DG h];simp
theorem Ho{α:Type}{l:List α}{i:Nat}(h:i<l.length)(d:α):l.take (i+1)=l.take i++[l.getD i d]:=by
 rw[List.take_add_one,zS h,bd,zS h];rfl
def Id:=Yq.addL [(14,zd3),(40,zey)]
theorem vu:zx Id:=vt.addL<|fc PR<|fc PV iV
end
theorem mM{P:Program}{gl:Nat->AV}{k:FuncId}{ks outs:List Sh}{c:zy (ks.map Q1)->Bool}{g:zy (ks.map Q1)->zy (outs.map Q1)}(h:nX P gl k (zR ks outs c g))(hc:∀x,c x=Q3):nX P gl k (aE ks outs g):=
 Mh (by rwa [show c=λ_=>Q3 from funext hc]at h)
theorem CW(v:V):J2 v=Q3:=by
 unfold J2;cases h:Q0 ((↑(length v.2.2):Int)>60)
 ·rfl
 ·simp only[aO]at h;simp only[ah,aD,aO];omega
theorem LM(s:zB):NC s=Q3:=by
 unfold NC;cases h:Q0 ((↑(length s):Int)>20)
 ·rfl
 ·simp only[aO]at h;simp only[ah,aD,aO];omega
theorem OS(l:List (Sem ze)):ziu l=Q1 (lx l,()):=by
 have g:=zP.all (t:=Xa) 1 (λi=>.h3 l (i:Int) ((Qg i l).map Dr)) (min 14 l.length) λi hi=>zP.of (by
  have hl:i<l.length:=by omega
  have hn:Q0 ((List.map Dr (Qg i l)).length+[Dr (l.getD i (zi ze))].length<=1073741824)=Q3:=by simp;omega
  simp only[Xa,Tr.val,Wv (k:=14) (K:=14) rfl hi,zt hl,if_true,aK,CW,hn];rw[zp i um,Ho hl (zi ze),iI];rfl)
 rw[uL]at g;refine zw rfl (g.ends (k:=1) (r:=(.vec 0,[.vec ze (lx l)])) (zT.of ?_)) ow rfl;simp only[Xa,Tr.val,MR (k:=14) (K:=14) rfl,zE,if_false];rfl
theorem OQ(l:List (Sem zj)):zit l=Q1 (ju l,()):=by
 have g:=zP.all (t:=Xc) 1 (λi=>.h3 l (i:Int) ((Qg i l).map λc:Sem zj=>((jb c.1,c.2):Sem zj))) (min 9 l.length) λi hi=>zP.of (by
  have hl:i<l.length:=by omega
  have ht:(Qg (i+1) l).map (λc:Sem zj=>((jb c.1,c.2):Sem zj))=(Qg i l).map (λc:Sem zj=>((jb c.1,c.2):Sem zj))++[(jb (List.getD l i (zi zj)).1,(List.getD l i (zi zj)).2)]:=by rw[Ho hl (zi zj),iI];rfl
  have hi':((Qg i l).map (λc:Sem zj=>((jb c.1,c.2):Sem zj))).length<=9:=by rw[da,oA];omega
  rw[ht];generalize(Qg i l).map (λc:Sem zj=>((jb c.1,c.2):Sem zj))=acc at hi'⊢;have hn:Q0 (acc.length+1<=1073741824)=Q3:=zu ow;simp only[Xc,Tr.val,Wv (k:=9) (K:=9) rfl hi,zt hl,if_true,aK,fb,nM,ft,hn];rw[zp i um];unfold jb;by_cases h:(length (List.getD l i (zi zj)).1:Int)>20
  ·have h20:Q0 ((20:Int)<=(length (List.getD l i (zi zj)).1:Int))=Q3:=zu ow;simp only[zu h,h20,if_true];rfl
  ·simp only[aj h,zE,if_false])
 rw[uL]at g;refine zw rfl (g.ends (k:=1) (r:=(.vec 0,[.vec zj (ju l)])) (zT.of ?_)) ow rfl;simp only[Xc,Tr.val,MR (k:=9) (K:=9) rfl,zE,if_false];rfl
def zd4:zY:=aE [ze] [ze] λx=>(Dr x.1,())
theorem Z3:FK 8 zd4:=mM Yg λx=>CW x.1
def zdV:zY:=aE [Q6] [Q6] λx=>(jb x.1,())
theorem ZW:FK 114 zdV:=mM Yf λx=>LM x.1
def F6t:zY:=aE [ze.sl] [ze.sl] λx=>(lx x.1,())
theorem zfZ:FK 14 F6t:=gP PR λx=>OS x.1
def zdY:zY:=aE [zj.sl] [zj.sl] λx=>(ju x.1,())
theorem ZZ:FK 40 zdY:=gP PV λx=>OQ x.1
abbrev xM:Nat->aN:=λ_=>{slots:=[0,1,7,8]}
def na{K:List Item}{e:Sh}(l:List (Sem e))(p:Sem e->Bool)(st:Int->St)(h0:List AO)(i:Int):Tr zC:=.br (Q0 (i<(l.length:Int))) (.chk (zN i l.length) (.br (p (l.getD i.toNat (zi e))) (.ok (.ret (.int .i64 i) h0)) (.ok (.head 2 K (st (IntKind.i64.wrap (i+1))))))) (.ok (.ret (.int .i64 (-1)) h0))
theorem kg{E:bX}{C:eS}{k:FuncId}{f:Func}{n n0:Nat}{keep:Nat->aN}{fuel:Nat}{K:List Item}{e:Sh}(l:List (Sem e))(p:Sem e->Bool)(st:Int->St){h0:List AO}
  (hE:zx E) (hf:zJ E.P k f n) (hC:∀id,n0<=id->C.ρ0 id=Q2)
  (hon:∀i,run E n0 keep f.results.toList fuel K (st i)=na (K:=K) l p st h0 i) (hl:l.length<=aF):∀(m i:Nat),l.length-i=m->i<=l.length->
  Reach E C k K (st i) (λr h=>(r,h)=(.int .i64 (zU p (l.drop i) i),h0)):=by
 intro m
 induction m with
 | zero=>
  intro i hE.mix' hi;obtain rfl:i=l.length:=by omega
  refine zD hE hf hC (hon _) ?_;simp only[na,Tr.val,zA,jo];rfl
 | succ m IH=>
  intro i hE.mix' hi;have hlt:i<l.length:=by omega
  refine zD hE hf hC (hon _) ?_;rw[fu hlt];simp only[na,Tr.val,zH hlt,zt hlt,cA l _ hlt,zp i ow,if_true,zU];split
  ·rfl
  ·exact IH (i+1) ow ow
abbrev yO(t:Int)(l:List (Sem zg))(i:Int):St:={tmps:=[.sl zg l,.clo (.func 288) [] [.ptr 0 0],.any,.any,.any,.any,.any,.int .i64 l.length,.int .i64 i,.any,.any,.any,.any,.any,.any,.any,.any,.any,.any],heap:=[.box [.int .i64 t]]}
theorem RC(t:Int)(l:List (Sem zg)):run Id 1 xM Tryz.f320.results.toList 300 (bt Tryz.f320) (bc Tryz.f320.ntmps [.sl zg l,.clo (.func 288) [] [.ptr 0 0]] [.box [.int .i64 t]])=.ok (.head 2 (ae Tryz.f320 2) (yO t l 0)):=kw
theorem S9(t:Int)(l:List (Sem zg))(i:Int):run Id 1 xM Tryz.f320.results.toList 300 (ae Tryz.f320 2) (yO t l i)=na (K:=ae Tryz.f320 2) (e:=zg) l (λx=>bif x !=t then x !=0 else Q4) (yO t l) [.box [.int .i64 t]] i:=kw
theorem SU:zJ Id.P 320 Tryz.f320 2:=bQ kw
def zgr:ic [Q1 (.sl zg),Q2]:=λx h=>match x,h with
 |(l,.clo (.func 288) [] [.ptr 0 0],_),[.box [.int .i64 t]]=>.ok (.int .i64 (zU (λx=>bif x !=t then x !=0 else Q4) l 0),[.box [.int .i64 t]])
 |_,_=>.err
def zdH:zY:=bg [Q1 (.sl zg),Q2] zgr
theorem ZI:FK 320 zdH:=by
 refine dt SU λx h0 res hx C hC=>?_
 unfold zgr at hx;split at hx
 ·rename_i l u t;simp only[Tr.val_ok,bz]at hx;subst hx;refine Reach.len 0 zg l rfl λhl=>?_
  refine zD (n0:=1) vu SU hC (RC t l) ?_;exact kg l (λx=>bif x !=t then x !=0 else Q4) (yO t l) vu SU hC (S9 t l) hl _ 0 rfl (aZ _)
 ·simp at hx
noncomputable def tk:=Id.addL [(8,zd4),(114,zdV),(14,F6t),(40,zdY),(320,zdH)]
theorem ma:zx tk:=vu.addL<|fc Z3<|fc ZW<|fc zfZ<|fc ZZ<|fc ZI iV
noncomputable def F78:zY:=bg [Q1 (.sl zg),Q2] (fe tk Tryz.f287 [Q1 (.sl zg),Q2])
theorem zf6:FK 287 F78:=bY _ ma (bQ kw)
def dT(x0:Sem Q6):Sem Q7:=pD x0
theorem ziJ:zJ tk.P 208 Tryz.f208 1:=bQ kw
theorem zk9(x0:Sem Q6):rn tk 0 (λ_=>{ }) Tryz.f208 [zF Q6 x0] []=Tr.ok (zC.ret (AV.bool (pD x0)) []):=kw
def F25:zY:=aE [Q6] [Q7] λx=>(dT x.1,())
theorem zfo:FK 208 F25:=by
 refine zZ ziJ λx C hC=>?_
 refine aR ma ziJ (λid _=>hC id) (zk9 x.1) ?_;simp only[Tr.val,dT];repeat' split
 all_goals rfl
def zQ(x0:Sem zo)(x1:Sem Q6):Sem zg:=zU (λc=>c.1==x1) x0.2.1 0
theorem ziF:zJ tk.P 140 Tryz.f140 2:=bQ kw
theorem zk5(x0:Sem zo)(x1:Sem Q6):rn tk 0 (λ_=>{ }) Tryz.f140 [zF zo x0,zF Q6 x1] []=Tr.ok (zC.ret (ai (zU (λc=>c.1==x1) x0.2.1 0)) []):=kw
def F17:zY:=aE [zo,Q6] [zg] λx=>(zQ x.1 x.2.1,())
theorem zfj:FK 140 F17:=by
 refine zZ ziF λx C hC=>?_
 refine aR ma ziF (λid _=>hC id) (zk5 x.1 x.2.1) ?_;simp only[Tr.val,zQ];repeat' split
 all_goals rfl
def af(x0:Sem zj.sl)(x1:Sem Q6):Sem zg:=zU (λc=>c.1==x1) x0 0
theorem zi4:zJ tk.P 248 Tryz.f248 2:=bQ kw
theorem zls(x0:Sem zj.sl)(x1:Sem Q6):rn tk 0 (λ_=>{ }) Tryz.f248 [zF zj.sl x0,zF Q6 x1] []=Tr.ok (zC.ret (ai (zU (λc=>c.1==x1) x0 0)) []):=kw
def F48:zY:=aE [zj.sl,Q6] [zg] λx=>(af x.1 x.2.1,())
theorem zfH:FK 248 F48:=by
 refine zZ zi4 λx C hC=>?_
 refine aR ma zi4 (λid _=>hC id) (zls x.1 x.2.1) ?_;simp only[Tr.val,af];repeat' split
 all_goals rfl
noncomputable def DR:=tk.addL [(287,F78),(208,F25),(140,F17),(248,F48)]
theorem vw:zx DR:=ma.addL<|fc zf6<|fc zfo<|fc zfj<|fc zfH iV
def lN(x0:Sem zg.sl)(x1:Sem zg):Sem Q7:=!Q0 (zU (λx=>bif x !=x1 then x !=0 else Q4) x0 0>=0)
theorem zje:zJ DR.P 249 Tryz.f249 2:=bQ kw
theorem zlE(x0:Sem zg.sl)(x1:Sem zg):rn DR 0 (λ_=>{ }) Tryz.f249 [zF zg.sl x0,zF zg x1] []=Tr.ok (zC.ret (AV.bool !Q0 (zU (λx=>bif x !=x1 then x !=0 else Q4) x0 0>=0)) []):=kw
def F66:zY:=aE [zg.sl,zg] [Q7] λx=>(lN x.1 x.2.1,())
theorem zfX:FK 249 F66:=by
 refine zZ zje λx C hC=>?_
 refine aR vw zje (λid _=>hC id) (zlE x.1 x.2.1) ?_;simp only[Tr.val,lN];repeat' split
 all_goals rfl
def zL(x0:Sem Q6):Sem Q7:=bif dT x0 then !iZ x0 else Q4
theorem ziE:zJ DR.P 168 Tryz.f168 1:=bQ kw
theorem zk4(x0:Sem Q6):rn DR 0 (λ_=>{ }) Tryz.f168 [zF Q6 x0] []=Tr.ok (zC.ret (AV.bool (bif dT x0 then !iZ x0 else Q4)) []):=kw
def F16:zY:=aE [Q6] [Q7] λx=>(zL x.1,())
theorem zfi:FK 168 F16:=by
 refine zZ ziE λx C hC=>?_
 refine aR vw ziE (λid _=>hC id) (zk4 x.1) ?_;simp only[Tr.val,zL];repeat' split
 all_goals rfl
noncomputable def Re:=DR.addL [(249,F66),(168,F16)]
theorem DS:zx Re:=vw.addL<|fc zfX<|fc zfi iV
end Cad
