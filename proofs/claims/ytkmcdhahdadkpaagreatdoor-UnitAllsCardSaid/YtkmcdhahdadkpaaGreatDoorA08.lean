/- The library's functions. Functions from plain data to plain data, where a guard holds; recursion. Values: what may be. Values: what they say. Loops; values in order. -/
import Derived.Test.YtkmcdhahdadkpaaGreatDoorA06
import Derived.Test.YtkmcdhahdadkpaaGreatDoorA07
import Derived.Test.YtkmcdhahdadkpaaGreatDoorA05
namespace Cad
open Go Go.Proofs Go.RowKit Go.Lib
open List renaming drop→Qh,take→Qg
open AV renaming agg→Qd
open AO renaming box→Qa
open Sh renaming bool→Q7,str→Q6
open Bool renaming false→Q4,true→Q3
open Option renaming none→Q2,some→Q1
open Decidable renaming decide→Q0
open Int (toNat)
open List (length)
open Tr (chk br)
open AV (nils agg tup ptr kb str sl)
theorem lX.below{w w':World}(h:Below w.heap.size w w'):lX w w':=
 ⟨h.size,h.os,h.output,h.tape,λa ha=>AM (h.block a.block ha)⟩
theorem eJ{E:cd}{C:eV}{w w':World}{U:Nat->Prop}{r:AV}{v:Value}{h0:List AO}{ρ:Nat->Option Value}(hH:jv C w U ρ (λj=>h0.getD j .dead))(hnew:∀id,h0.length<=id->ρ id=Q2)
  (hr0:∀id v,C.ρ0 id=Q1 v->ρ id=Q1 v) (hW:Wd E.gl C w U) (hb:Below w.heap.size w w') (hr:Rv w' U ρ r v):QK E C (λr' h=>(r',h)=(r,h0)) (.returned v) w':=by
 have hk:∀b,b<w.heap.size->w'.heap[b]?=w.heap[b]?:=hb.block;refine⟨v,r,h0,U,ρ,rfl,rfl,hr,⟨λid=>?_,hH.inj,hH.blk⟩,hnew,hr0,⟨hW.ext.trans (lX.below hb),λb hb' hn=>?_,λb hu=>iO (hW.ub b hu) hb.size,hW.u1,hW.u2,λg=>?_⟩⟩
 ·exact(hH.ob id).mono hb.size (λb hb' _=>hk b hb') (λ_ _ h=>h) (λ_ _ h=>h) (λb ho=>⟨hk b ((hH.ob id).inU ho).2,((hH.ob id).inU ho).1⟩)
 ·rw[hk b (iO hb' hW.ext.sz)];exact hW.same b hb' hn
 ·exact(hW.gl g).mono hb.size (λb hb' _=>hk b hb') (λ_ _ h=>h) (λ_ _ h=>h)
noncomputable def zcu:cd:=Pb.aut 63 Tryz.f63 1
theorem zjO:zL Pb.P 63 Tryz.f63 1:=bS kw
theorem RW:zy zcu:=ir IZ zjO
def B5(c:Int):Bool:=bif Q0 (c<32)then Q3 else Q0 (c>126)
theorem zmj(c:Int):((bm (List.replicate 1 Q2) (fk Pb Tryz.f63 (List.replicate 1 Q2))) [.int .i32 c] (λ_=>.dead) 0).val=Q1 {val:=.bool (B5 c)}:=kw
theorem zdW(w:World)(U:Nat->Prop)(hgl:Dz Pb.gl w U)(hub:∀b,U b->b<w.heap.size):PredGrows Tryz.prog 63 #[] (λr=>B5 r) w:=by
 intro W x hx hB;have hF:FK 63 (bm (List.replicate 1 Q2) (fk Pb Tryz.f63 (List.replicate 1 Q2))):=ce _ IZ zjO;have hr:dq W U (λ_=>Q2) [.int .i32 (x:Int)] [.int .i32 (x:Int)]:=by
  refine⟨rfl,λj c v hc hv=>?_⟩;cases j with
  | zero=>
   simp at hc hv;subst hc;subst hv;refine .int _ _ ⟨?_,?_⟩
   ·show(-2147483648:Int)<=x;omega
   ·show(x:Int)<=2147483647;omega
  |succ j=>simp at hc
 have:=(hF.calls W U (λ_=>Q2) (λ_=>.dead) 0 [.int .i32 (x:Int)] [.int .i32 (x:Int)] _ [] (zmj x) hr (λb hb=>iO (hub b hb) hB.size) (λg=>(hgl g).mono hB.size (λb hb _=>hB.block b hb) (λ_ _ h=>h) (λ_ _ h=>h)) ⟨sw,sw⟩ (by simp[AV.idsL,AV.ids]) sw sw).1;refine this.mono ?_;rintro e w' ⟨v,U',ρ',rfl,hef⟩;have hv:=hef.val;cases hv;exact⟨rfl,⟨hef.ext.os,hef.ext.tape,hef.ext.out,hef.ext.sz,λb hb=>hef.same b hb sw⟩⟩
def pl(s:zD):Int:=Lib.idxFunc (λr=>B5 r) Q3 ⟨s.toArray⟩
def G36:il [Q1 .str,Q2]:=λx h=>match x,h with
 |(s,.clo (.func 63) [] [],_),[]=>.ok (.int .i64 (pl s),[])
 |_,_=>.err
theorem zlZ:Go.Proofs.Enters Tryz.prog 63:=by
  cases hb:Tryz.f63.body with
  | none => have:Tryz.f63.body.isNone=false:=by kernel_rfl
            rw[hb]at this;cases this
  |some c=>exact Go.Proofs.enters_of (fn:=Tryz.f63) kw kw hb
theorem zgl:FK 64 (bm [Q1 .str,Q2] G36):=by
 refine fK (E:=zcu) ⟨Tryz.f64,kw,kw,kw⟩ λx h0 res hx=>?_
 unfold G36 at hx;split at hx
 ·rename_i s u;simp only[Tr.val_ok,bD]at hx;subst hx;intro C w U ρ vals _ hr hH hnew hr0 hW;have hl:=hr.len
  match vals,hl,hr with
  | [v1,v2],_,hr=>
   have h1:=hr.rv 0 (.str s) v1 rfl rfl;have h2:=hr.rv 1 (.clo (.func 63) [] []) v2 rfl rfl;cases h1 with
   |str _ hs=>
   cases h2 with
   |clo _ _ _ vf vc hf hc _ _=>
   have hf':vf=[]:=yk hf.symm;have hc':vc=[]:=yk hc.symm;subst hf';subst hc';have:=Tryz.strings_IndexFunc_grows 63 #[] zlZ (λr=>B5 r) ⟨s.toArray⟩ w (zdW w U hW.gl hW.ub);refine this.mono ?_;rintro e w' ⟨rfl,hb⟩;refine eJ hH hnew hr0 hW hb (.int _ _ ?_);have hrg:=Lib.idxFunc_range (λr=>B5 r) Q3 ⟨s.toArray⟩;have hsz:(⟨s.toArray⟩:ByteArray).size=s.length:=by simp[ByteArray.size]
   have hm:aH=9223372036854775807:=rfl;rw[hsz]at hrg;change pl s=-1\/(0<=pl s/\pl s<s.length)at hrg;refine⟨?_,?_⟩
   ·show(-9223372036854775808:Int)<=_;omega
   ·show _<=(9223372036854775807:Int);omega
 ·simp at hx
noncomputable def tI:cd:=zcu.add 64 (bm [Q1 .str,Q2] G36)
theorem kh:zy tI:=RW.add zgl
open Go
def ft(ks outs:List Sh)(c:zz (ks.map Q1)->Bool)(g:zz (ks.map Q1)->zz (outs.map Q1)):il (ks.map Q1):=λx h=>match h with
 |[]=>.chk (c x) (.ok (xW outs (g x),[]))
 |_=>.err
def zV(ks outs:List Sh)(c:zz (ks.map Q1)->Bool)(g:zz (ks.map Q1)->zz (outs.map Q1)):ac:=bm (ks.map Q1) (ft ks outs c g)
theorem aM{P:Program}{gl:Nat->AV}{E:cd}{k:FuncId}{f:Func}{ks outs:List Sh}{c:zz (ks.map Q1)->Bool}{g:zz (ks.map Q1)->zz (outs.map Q1)}(hf:zL E.P k f ks.length)
  (h:∀x,c x=Q3->∀C:eV,(∀id,C.ρ0 id=Q2)->Reach E C k (bx f) (bg f.ntmps (jl (ks.map Q1) x) []) (λr h=>aL h outs r=Q1 (g x))) (qp:E.P=P:=by rfl) (qg:E.gl=gl:=by rfl):oC P gl k (zV ks outs c g):=by
 subst qp qg;refine dv (by simpa using hf) λx h0 res hx C hC=>?_
 unfold ft at hx;split at hx
 ·simp only[Tr.val]at hx;split at hx
  ·rename_i hc;simp only[bD]at hx;subst hx;exact Reach.plain (λid=>hC id (by simp)) (h x hc C (λid=>hC id (by simp)))
  ·simp at hx
 ·simp at hx
theorem yx{P:Program}{gl:Nat->AV}{k:FuncId}{kinds:List (Option Sh)}{ι:Type}[Nonempty ι]{G:il kinds}{Gs:ι->il kinds}(h:∀i,oC P gl k (bm kinds (Gs i)))
  (hg:∀x h0 res,(G x h0).val=Q1 res->∃i,(Gs i x h0).val=Q1 res):oC P gl k (bm kinds G):=by
 refine⟨(h (Classical.choice inferInstance)).fn,?_⟩;intro w U ρ hp n args vals f fp hv;have:∃i,(bm kinds (Gs i) args hp n).val=Q1 f:=by
  unfold bm at hv⊢;split at hv
  ·rename_i ps hps;simp only at hv⊢;split at hv
   ·rename_i hcond;split at hv
    ·rename_i xs hxs;simp only[Tr.val_bind,fV]at hv;obtain⟨res,h1,h2⟩:=hv;obtain⟨i,hi⟩:=hg _ _ _ h1;exact⟨i,by simp only[hcond,if_true,Tr.val_bind,fV];exact⟨res,hi,h2⟩⟩
    ·simp at hv
   ·simp at hv
  ·simp at hv
 obtain⟨i,hi⟩:=this;exact(h i).calls w U ρ hp n args vals f fp hi
def NL(ks outs:List Sh)(g:zz (ks.map Q1)->zz (outs.map Q1)):il (ks.map Q1):=λx h=>match h with
 |[]=>.ok (xW outs (g x),[])
 |_=>.err
def aF(ks outs:List Sh)(g:zz (ks.map Q1)->zz (outs.map Q1)):ac:=bm (ks.map Q1) (NL ks outs g)
theorem MP{P:Program}{gl:Nat->AV}{k:FuncId}{ks outs:List Sh}{g:zz (ks.map Q1)->zz (outs.map Q1)}(h:oC P gl k (zV ks outs (λ_=>Q3) g)):oC P gl k (aF ks outs g):=by
 refine yx (ι:=Unit) (Gs:=λ_=>ft ks outs (λ_=>Q3) g) (λ_=>h) λx h0 res hv=>⟨(),?_⟩
 unfold NL at hv;unfold ft;split at hv
 ·simpa[Tr.val]using hv
 ·simp at hv
theorem af{P:Program}{gl:Nat->AV}{E:cd}{k:FuncId}{f:Func}{ks outs:List Sh}{g:zz (ks.map Q1)->zz (outs.map Q1)}(hf:zL E.P k f ks.length)
  (h:∀x,∀C:eV,(∀id,C.ρ0 id=Q2)->Reach E C k (bx f) (bg f.ntmps (jl (ks.map Q1) x) []) (λr h=>aL h outs r=Q1 (g x))) (qp:E.P=P:=by rfl) (qg:E.gl=gl:=by rfl):oC P gl k (aF ks outs g):=by
 subst qp qg;exact MP (aM hf λx _ C hC=>h x C hC)
def Nm(outs:List Sh):zE->Option (zz (outs.map Q1))
 |.ret v h=>aL h outs v
 |_=>Q2
theorem Tr.sat_of_res{E:cd}{C:eV}{fn:FuncId}{outs:List Sh}{y:zz (outs.map Q1)}{t:Tr zE}(h:t.val.bind (Nm outs)=Q1 y):t.Sat (jN E C fn (λr h=>aL h outs r=Q1 y)):=by
 rw[fV]at h;obtain⟨l,h1,h2⟩:=h;refine Tr.sat_of_val h1 ?_;cases l with
 |ret v h=>exact h2
 |head _ _ _=>cases h2
 |fork _ _ _ _=>cases h2
theorem aU{E:cd}{C:eV}{k:FuncId}{f:Func}{outs:List Sh}{y:zz (outs.map Q1)}{n n0:Nat}(hE:zy E)(hf:zL E.P k f n)(hC:∀id,n0<=id->C.ρ0 id=Q2){keep:Nat->aO}{fuel:Nat}
  {todo:List Item} {st:St} {t:Tr zE} (ht:run E n0 keep f.results.toList fuel todo st=t) (h:t.val.bind (Nm outs)=Q1 y):Reach E C k todo st (λr h=>aL h outs r=Q1 y):=by
 refine dt hE hf hC keep fuel ?_;rw[ht];exact Tr.sat_of_res h
theorem zf.eta:∀e:zf,zf.mk e.op e.v e.s e.l=e
 |.mk _ _ _ _=>rfl
structure Ih (E E0:cd):Prop where
 p:E.P=E0.P
 g:E.gl=E0.gl
theorem Ih.refl(E:cd):Ih E E:=⟨rfl,rfl⟩
theorem Ih.add{E E0:cd}(h:Ih E E0)(k:FuncId)(F:ac):Ih (E.add k F) E0:=⟨h.p,h.g⟩
abbrev zn(e:zf):zf:=.mk e.op e.v e.s e.l
theorem zk(e:zf):zn e=e:=zf.eta e
open Go Go.Proofs
abbrev TS:=Sem Q6
abbrev LX:=List (Sem Sh.expr)
abbrev LC:=List (Sem zj)
abbrev LS:=List (Sem Q6)
abbrev LV:=List (Sem ze)
abbrev LI:=List (Sem zg)
abbrev LF:=List (Sem zu)
abbrev V:=Sem ze
def aR(x0:Sem ze):Sem Q7:=if(x0.1==0)=Q3 then if(x0.2.1!=0)=Q3 then Q4 else x0.2.2==[]else if(x0.1==1)=Q3 then x0.2.2==[]else if(x0.1==2)=Q3 then bif x0.2.1==0 then bif Q0 ((↑(length x0.2.2):Int)<=40)then Q0 (pl x0.2.2<0)else Q4 else Q4 else if(x0.1==3)=Q3 then bif x0.2.1==0 then x0.2.2==[]else bif x0.2.1==1 then x0.2.2==[]else Q4 else Q4
theorem zjE:zL tI.P 34 Tryz.f34 1:=bS kw
theorem zl9(x0:Sem ze):rn tI 0 (λ_=>{ }) Tryz.f34 [zH ze x0] []=br (x0.1==0) (br (x0.2.1!=0) (Tr.ok (zE.ret (kb Q4) [])) (Tr.ok (zE.ret (AV.bool (x0.2.2==[])) []))) (br (x0.1==1) (Tr.ok (zE.ret (AV.bool (x0.2.2==[])) [])) (br (x0.1==2) (Tr.ok (zE.ret (AV.bool (bif x0.2.1==0 then bif Q0 ((↑(length x0.2.2):Int)<=40)then Q0 (pl x0.2.2<0)else Q4 else Q4)) [])) (br (x0.1==3) (Tr.ok (zE.ret (AV.bool (bif x0.2.1==0 then x0.2.2==[]else bif x0.2.1==1 then x0.2.2==[]else Q4)) [])) (Tr.ok (zE.ret (kb Q4) []))))):=kw
def F21:ac:=aF [ze] [Q7] λx=>(aR x.1,())
theorem zgb:FK 34 F21:=by
 refine af zjE λx C hC=>?_
 refine aU kh zjE (λid _=>hC id) (zl9 x.1) ?_;simp only[Tr.val,aR];repeat' split
 all_goals rfl
def aS(x0:Sem zg):Sem ze:=if(x0==0)=Q3 then(0,0,[])else(3,IntKind.i64.wrap (x0-1),[])
theorem zj7:zL tI.P 333 Tryz.f333 1:=bS kw
theorem zmC(x0:Sem zg):rn tI 0 (λ_=>{ }) Tryz.f333 [zH zg x0] []=br (x0==0) (Tr.ok (zE.ret (Qd [ai 0,ai 0,str []]) [])) (Tr.ok (zE.ret (Qd [ai 3,ai (IntKind.i64.wrap (x0-1)),str []]) [])):=kw
def F57:ac:=aF [zg] [ze] λx=>(aS x.1,())
theorem zgF:FK 333 F57:=by
 refine af zj7 λx C hC=>?_
 refine aU kh zj7 (λid _=>hC id) (zmC x.1) ?_;simp only[Tr.val,aS];repeat' split
 all_goals rfl
noncomputable def zep:ac:=bm (List.replicate 1 Q2) (fk tI Tryz.f165 (List.replicate 1 Q2))
theorem zah:FK 165 zep:=ce _ kh (bS kw)
noncomputable def zeq:ac:=bm (List.replicate 1 Q2) (fk tI Tryz.f166 (List.replicate 1 Q2))
theorem zai:FK 166 zeq:=ce _ kh (bS kw)
noncomputable def zer:ac:=bm (List.replicate 1 Q2) (fk tI Tryz.f167 (List.replicate 1 Q2))
theorem zaj:FK 167 zer:=ce _ kh (bS kw)
noncomputable def lF:=tI.addL [(34,F21),(333,F57),(165,zep),(166,zeq),(167,zer)]
theorem iX:zy lF:=kh.addL<|fc zgb<|fc zgF<|fc zah<|fc zai<|fc zaj iM
def ao(x0:Sem ze):Sem ze:=if(!aR x0)=Q3 then(0,0,[])else x0
theorem zkb:zL lF.P 107 Tryz.f107 1:=bS kw
theorem zmG(x0:Sem ze):rn lF 0 (λ_=>{ }) Tryz.f107 [zH ze x0] []=br (!aR x0) (Tr.ok (zE.ret (Qd [ai 0,ai 0,str []]) [])) (Tr.ok (zE.ret (Qd [ai x0.1,ai x0.2.1,str x0.2.2]) [])):=kw
def F61:ac:=aF [ze] [ze] λx=>(ao x.1,())
theorem zgL:FK 107 F61:=by
 refine af zkb λx C hC=>?_
 refine aU iX zkb (λid _=>hC id) (zmG x.1) ?_;simp only[Tr.val,ao];repeat' split
 all_goals rfl
def dT(x0:Sem ze):Sem zg:=if(bif x0.1!=3 then Q3 else !aR x0)=Q3 then 0 else IntKind.i64.wrap (1+x0.2.1)
theorem zj6:zL lF.P 277 Tryz.f277 1:=bS kw
theorem zmB(x0:Sem ze):rn lF 0 (λ_=>{ }) Tryz.f277 [zH ze x0] []=br (bif x0.1!=3 then Q3 else !aR x0) (Tr.ok (zE.ret (ai 0) [])) (Tr.ok (zE.ret (ai (IntKind.i64.wrap (1+x0.2.1))) [])):=kw
def F56:ac:=aF [ze] [zg] λx=>(dT x.1,())
theorem zgE:FK 277 F56:=by
 refine af zj6 λx C hC=>?_
 refine aU iX zj6 (λid _=>hC id) (zmB x.1) ?_;simp only[Tr.val,dT];repeat' split
 all_goals rfl
def dm(x0:Sem Q7):Sem ze:=if x0=Q3 then aS 2 else aS 1
theorem zj9:zL lF.P 335 Tryz.f335 1:=bS kw
theorem zmE(x0:Sem Q7):rn lF 0 (λ_=>{ }) Tryz.f335 [zH Q7 x0] []=br x0 (Tr.ok (zE.ret (Qd [ai (aS 2).1,ai (aS 2).2.1,str (aS 2).2.2]) [])) (Tr.ok (zE.ret (Qd [ai (aS 1).1,ai (aS 1).2.1,str (aS 1).2.2]) [])):=kw
def F59:ac:=aF [Q7] [ze] λx=>(dm x.1,())
theorem zgH:FK 335 F59:=by
 refine af zj9 λx C hC=>?_
 refine aU iX zj9 (λid _=>hC id) (zmE x.1) ?_;simp only[Tr.val,dm];repeat' split
 all_goals rfl
def rq(x0:Sem zg)(x1:Sem zg):Sem zg:=if(x0 !=x0)=Q3 then if(x1 !=x1)=Q3 then 0 else -1 else if(x1 !=x1)=Q3 then 1 else if Q0 (x0<x1)=Q3 then -1 else if Q0 (x0>x1)=Q3 then 1 else 0
theorem zke:zL lF.P 109 Tryz.f109 2:=bS kw
theorem zmK(x0:Sem zg)(x1:Sem zg):rn lF 0 (λ_=>{ }) Tryz.f109 [zH zg x0,zH zg x1] []=br (x0 !=x0) (br (x1 !=x1) (Tr.ok (zE.ret (ai 0) [])) (Tr.ok (zE.ret (ai (-1)) []))) (br (x1 !=x1) (Tr.ok (zE.ret (ai 1) [])) (br (Q0 (x0<x1)) (Tr.ok (zE.ret (ai (-1)) [])) (br (Q0 (x0>x1)) (Tr.ok (zE.ret (ai 1) [])) (Tr.ok (zE.ret (ai 0) []))))):=kw
def F71:ac:=aF [zg,zg] [zg] λx=>(rq x.1 x.2.1,())
theorem zgT:FK 109 F71:=by
 refine af zke λx C hC=>?_
 refine aU iX zke (λid _=>hC id) (zmK x.1 x.2.1) ?_;simp only[Tr.val,rq];repeat' split
 all_goals rfl
def jX(x0:Sem zg)(x1:Sem zg):Sem zg:=if(x0 !=x0)=Q3 then if(x1 !=x1)=Q3 then 0 else -1 else if(x1 !=x1)=Q3 then 1 else if Q0 (x0<x1)=Q3 then -1 else if Q0 (x0>x1)=Q3 then 1 else 0
theorem zkg:zL lF.P 110 Tryz.f110 2:=bS kw
theorem zmL(x0:Sem zg)(x1:Sem zg):rn lF 0 (λ_=>{ }) Tryz.f110 [zH zg x0,zH zg x1] []=br (x0 !=x0) (br (x1 !=x1) (Tr.ok (zE.ret (ai 0) [])) (Tr.ok (zE.ret (ai (-1)) []))) (br (x1 !=x1) (Tr.ok (zE.ret (ai 1) [])) (br (Q0 (x0<x1)) (Tr.ok (zE.ret (ai (-1)) [])) (br (Q0 (x0>x1)) (Tr.ok (zE.ret (ai 1) [])) (Tr.ok (zE.ret (ai 0) []))))):=kw
def F72:ac:=aF [zg,zg] [zg] λx=>(jX x.1 x.2.1,())
theorem zgU:FK 110 F72:=by
 refine af zkg λx C hC=>?_
 refine aU iX zkg (λid _=>hC id) (zmL x.1 x.2.1) ?_;simp only[Tr.val,jX];repeat' split
 all_goals rfl
def nj(x0:Sem Q6)(x1:Sem Q6):Sem zg:=if(!x0==x0)=Q3 then if(!x1==x1)=Q3 then 0 else -1 else if(!x1==x1)=Q3 then 1 else if Op.bytesLess x0 x1=Q3 then -1 else if(!(Op.bytesLess x0 x1||x0==x1))=Q3 then 1 else 0
theorem zkh:zL lF.P 111 Tryz.f111 2:=bS kw
theorem zmM(x0:Sem Q6)(x1:Sem Q6):rn lF 0 (λ_=>{ }) Tryz.f111 [zH Q6 x0,zH Q6 x1] []=br (!x0==x0) (br (!x1==x1) (Tr.ok (zE.ret (ai 0) [])) (Tr.ok (zE.ret (ai (-1)) []))) (br (!x1==x1) (Tr.ok (zE.ret (ai 1) [])) (br (Op.bytesLess x0 x1) (Tr.ok (zE.ret (ai (-1)) [])) (br (!(Op.bytesLess x0 x1||x0==x1)) (Tr.ok (zE.ret (ai 1) [])) (Tr.ok (zE.ret (ai 0) []))))):=kw
def F73:ac:=aF [Q6,Q6] [zg] λx=>(nj x.1 x.2.1,())
theorem zgV:FK 111 F73:=by
 refine af zkh λx C hC=>?_
 refine aU iX zkh (λid _=>hC id) (zmM x.1 x.2.1) ?_;simp only[Tr.val,nj];repeat' split
 all_goals rfl
noncomputable def jZ:=lF.addL [(107,F61),(277,F56),(335,F59),(109,F71),(110,F72),(111,F73)]
theorem eW:zy jZ:=iX.addL<|fc zgL<|fc zgE<|fc zgH<|fc zgT<|fc zgU<|fc zgV iM
theorem CM{E:cd}{C:eV}{k:FuncId}{f:Func}{Q:AV->List AO->Prop}{n n0:Nat}(hE:zy E)(hf:zL E.P k f n)(hC:∀id,n0<=id->C.ρ0 id=Q2){keep:Nat->aO}{fuel:Nat}
  {todo:List Item} {st:St} {t:Tr zE} {l:zE} (ht:run E n0 keep f.results.toList fuel todo st=t) (h:t.val=Q1 l) (hl:jN E C k Q l):Reach E C k todo st Q:=
 dt hE hf hC keep fuel (by rw[ht];exact Tr.sat_of_val h hl)
def gv{α:Type}(Φ:α->Prop):Option α->Prop
 |some a=>Φ a
 |none=>False
theorem zF{E:cd}{C:eV}{k:FuncId}{f:Func}{Q:AV->List AO->Prop}{n n0:Nat}(hE:zy E)(hf:zL E.P k f n)(hC:∀id,n0<=id->C.ρ0 id=Q2){keep:Nat->aO}{fuel:Nat}
  {todo:List Item} {st:St} {t:Tr zE} (ht:run E n0 keep f.results.toList fuel todo st=t) (h:gv (jN E C k Q) t.val):Reach E C k todo st Q:=by
 cases hv:t.val with
 |none=>rw[hv]at h;exact h.elim
 |some l=>rw[hv]at h;exact CM hE hf hC ht hv h
def I9{α β R:Type}(f:β->Nat->α->β⊕R)(fin:β->R):List α->Nat->β->R
 |[],_,b=>fin b
 | x::r,i,b=>match f b i x with
  |.inl b'=>I9 f fin r (i+1) b'
  |.inr y=>y
def V8{E:cd}{C:eV}{k:FuncId}{K:List Item}{β R:Type}(st:β->Nat->St)(Q:R->AV->List AO->Prop)(b:β)(i:Nat):β⊕R->Prop
 |.inl b'=>∀q,Reach E C k K (st b' (i+1)) q->Reach E C k K (st b i) q
 |.inr y=>Reach E C k K (st b i) (Q y)
theorem CN{E:cd}{C:eV}{k:FuncId}{K:List Item}{α β R:Type}(l:List α)(st:β->Nat->St)(f:β->Nat->α->β⊕R)(fin:β->R)(Q:R->AV->List AO->Prop)(I:β->Nat->Prop)
  (hstep:∀b i(hi:i<l.length),I b i->V8 (E:=E) (C:=C) (k:=k) (K:=K) st Q b i (f b i l[i])/\∀b',f b i l[i]=.inl b'->I b' (i+1))
  (hend:∀b,I b l.length->Reach E C k K (st b l.length) (Q (fin b))):∀(m i:Nat)(b:β),l.length-i=m->i<=l.length->I b i->Reach E C k K (st b i) (Q (I9 f fin (l.drop i) i b))
 | 0,i,b,hm,hi,hI=>by
  have:i=l.length:=by omega
  subst this;rw[jw];exact hend b hI
 | m+1,i,b,hm,hi,hI=>by
  have hlt:i<l.length:=by omega
  rw[eY hlt];obtain⟨h1,h2⟩:=hstep b i hlt hI;simp only[I9];cases hf:f b i l[i]with
  | inl b'=>
   rw[hf]at h1;exact h1 _ (CN l st f fin Q I hstep hend m (i+1) b' ow ow (h2 b' hf))
  | inr y=>
   rw[hf]at h1;exact h1
theorem zC{i n:Nat}(h:i<n):Q0 ((i:Int)<(n:Int))=Q3:=by simpa using h
theorem zA(n:Nat):Q0 ((n:Int)<(n:Int))=Q4:=by simp
theorem zt{i n:Nat}(h:i<n):zK (i:Int) n=Q3:=by simp[zK,h]
def Fg:List Int->Int
 |[]=>0
 |x::r=>if x !=0 then x else Fg r
abbrev zjf:Nat->aO:=λj=>if j=3 then{slots:=[3,6,7,8]}else{ }
abbrev N9(i3:Int)(l6:List (Sem zg))(i7:Int)(i8:Int):St:={tmps:=(tm 18 [(3,ai i3),(6,sl (Sh.int IntKind.i64) l6),(7,ai i7),(8,ai i8)]),heap:=[]}
theorem TE:zL jZ.P 108 Tryz.f108 1:=bS kw
theorem zmJ(k:List (Sem zg)):rn jZ 0 zjf Tryz.f108 [sl zg k] []=Tr.ok (zE.head 3 (ag Tryz.f108 3) (N9 0 k (↑k.length) 0)):=kw
theorem LQ(i3:Int)(l6:List (Sem zg))(i7:Int)(i8:Int):rh jZ 0 zjf Tryz.f108 3 (N9 i3 l6 i7 i8)=br (Q0 (i8<i7)) (chk (zK i8 l6.length) (br (l6.getD i8.toNat (zi (Sh.int IntKind.i64))!=i3) (Tr.ok (zE.ret (ai (l6.getD i8.toNat (zi (Sh.int IntKind.i64)))) [])) (Tr.ok (zE.head 3 (ag Tryz.f108 3) (N9 i3 l6 i7 (IntKind.i64.wrap (i8+1))))))) (Tr.ok (zE.ret (ai i3) [])):=kw
def f70:Unit->Nat->Int->Unit⊕Int:=λ_ _ x=>if x !=0 then .inr x else .inl ()
theorem Sa:∀(l:List Int)(i:Nat),I9 f70 (λ_=>0) l i ()=Fg l
 |[],_=>rfl
 | x::r,i=>by
  simp only[I9,f70,Fg];split
  ·rename_i h;split at h<;>simp_all[Sa r (i+1)]
  ·rename_i h;split at h<;>simp_all
def F70:ac:=aF [.sl zg] [zg] λx=>(Fg x.1,())
theorem zgS:FK 108 F70:=by
 refine af TE λx C hC=>?_
 obtain⟨l,u⟩:=x;refine Reach.len 0 zg l rfl λhl=>?_
 refine CM eW TE (λid _=>hC id) (zmJ l) rfl ?_
 have:=CN (E:=jZ) (C:=C) (k:=108) (K:=ag Tryz.f108 3) l (λ(_:Unit) i=>N9 0 l l.length i) f70 (λ_=>(0:Int)) (λy r h=>aL h [zg] r=Q1 (y,())) (λ_ _=>True)
  (λb i hi _=>⟨by
   unfold f70;split
   ·rename_i h;refine zF eW TE (λid _=>hC id) (LQ _ _ _ _) ?_;simp only[Tr.val,zC hi,zt hi,cF l _ hi,h,if_true];rfl
   ·rename_i h;intro q hq;refine zF eW TE (λid _=>hC id) (LQ _ _ _ _) ?_;simp only[Tr.val,zC hi,zt hi,cF l _ hi,h,if_true,zp i ow];exact hq,λ_ _=>trivial⟩)
  (λb _=>by
   refine zF eW TE (λid _=>hC id) (LQ _ _ _ _) ?_;simp only[Tr.val,zA];rfl) _ 0 () rfl ow trivial
 rw[Sa]at this;exact this
def eQ(x0:Sem ze)(x1:Sem ze):Sem Q7:=bif (ao x0).1!=0 then(ao x0).1==(ao x1).1 else Q4
theorem zj8:zL jZ.P 334 Tryz.f334 2:=bS kw
theorem zmD(x0:Sem ze)(x1:Sem ze):rn jZ 0 (λ_=>{ }) Tryz.f334 [zH ze x0,zH ze x1] []=Tr.ok (zE.ret (AV.bool (bif (ao x0).1!=0 then(ao x0).1==(ao x1).1 else Q4)) []):=kw
def F58:ac:=aF [ze,ze] [Q7] λx=>(eQ x.1 x.2.1,())
theorem zgG:FK 334 F58:=by
 refine af zj8 λx C hC=>?_
 refine aU eW zj8 (λid _=>hC id) (zmD x.1 x.2.1) ?_;simp only[Tr.val,eQ];repeat' split
 all_goals rfl
def DW(x0:Sem ze)(x1:Sem ze):Sem ze:=if(bif dT x0==1 then Q3 else dT x1==1)=Q3 then aS 1 else if(bif dT x0==2 then dT x1==2 else Q4)=Q3 then aS 2 else aS 0
theorem zjR:zL jZ.P 310 Tryz.f310 2:=bS kw
theorem zml(x0:Sem ze)(x1:Sem ze):rn jZ 0 (λ_=>{ }) Tryz.f310 [zH ze x0,zH ze x1] []=br (bif dT x0==1 then Q3 else dT x1==1) (Tr.ok (zE.ret (Qd [ai (aS 1).1,ai (aS 1).2.1,str (aS 1).2.2]) [])) (br (bif dT x0==2 then dT x1==2 else Q4) (Tr.ok (zE.ret (Qd [ai (aS 2).1,ai (aS 2).2.1,str (aS 2).2.2]) [])) (Tr.ok (zE.ret (Qd [ai (aS 0).1,ai (aS 0).2.1,str (aS 0).2.2]) []))):=kw
def F38:ac:=aF [ze,ze] [ze] λx=>(DW x.1 x.2.1,())
theorem zgn:FK 310 F38:=by
 refine af zjR λx C hC=>?_
 refine aU eW zjR (λid _=>hC id) (zml x.1 x.2.1) ?_;simp only[Tr.val,DW];repeat' split
 all_goals rfl
def Vb(x0:Sem ze)(x1:Sem ze):Sem ze:=if(bif dT x0==2 then Q3 else dT x1==2)=Q3 then aS 2 else if(bif dT x0==1 then dT x1==1 else Q4)=Q3 then aS 1 else aS 0
theorem zjS:zL jZ.P 311 Tryz.f311 2:=bS kw
theorem zmm(x0:Sem ze)(x1:Sem ze):rn jZ 0 (λ_=>{ }) Tryz.f311 [zH ze x0,zH ze x1] []=br (bif dT x0==2 then Q3 else dT x1==2) (Tr.ok (zE.ret (Qd [ai (aS 2).1,ai (aS 2).2.1,str (aS 2).2.2]) [])) (br (bif dT x0==1 then dT x1==1 else Q4) (Tr.ok (zE.ret (Qd [ai (aS 1).1,ai (aS 1).2.1,str (aS 1).2.2]) [])) (Tr.ok (zE.ret (Qd [ai (aS 0).1,ai (aS 0).2.1,str (aS 0).2.2]) []))):=kw
def F39:ac:=aF [ze,ze] [ze] λx=>(Vb x.1 x.2.1,())
theorem zgo:FK 311 F39:=by
 refine af zjS λx C hC=>?_
 refine aU eW zjS (λid _=>hC id) (zmm x.1 x.2.1) ?_;simp only[Tr.val,Vb];repeat' split
 all_goals rfl
def yv(x0:Sem ze):Sem ze:=if(dT x0==2)=Q3 then aS 1 else if(dT x0==1)=Q3 then aS 2 else aS 0
theorem zjU:zL jZ.P 313 Tryz.f313 1:=bS kw
theorem zmo(x0:Sem ze):rn jZ 0 (λ_=>{ }) Tryz.f313 [zH ze x0] []=br (dT x0==2) (Tr.ok (zE.ret (Qd [ai (aS 1).1,ai (aS 1).2.1,str (aS 1).2.2]) [])) (br (dT x0==1) (Tr.ok (zE.ret (Qd [ai (aS 2).1,ai (aS 2).2.1,str (aS 2).2.2]) [])) (Tr.ok (zE.ret (Qd [ai (aS 0).1,ai (aS 0).2.1,str (aS 0).2.2]) []))):=kw
def F41:ac:=aF [ze] [ze] λx=>(yv x.1,())
theorem zgq:FK 313 F41:=by
 refine af zjU λx C hC=>?_
 refine aU eW zjU (λid _=>hC id) (zmo x.1) ?_;simp only[Tr.val,yv];repeat' split
 all_goals rfl
def ju(x0:Sem ze):Sem ze:=dm ((ao x0).1==0)
theorem zj1:zL jZ.P 319 Tryz.f319 1:=bS kw
theorem zmu(x0:Sem ze):rn jZ 0 (λ_=>{ }) Tryz.f319 [zH ze x0] []=Tr.ok (zE.ret (Qd [ai (dm ((ao x0).1==0)).1,ai (dm ((ao x0).1==0)).2.1,str (dm ((ao x0).1==0)).2.2]) []):=kw
def F47:ac:=aF [ze] [ze] λx=>(ju x.1,())
theorem zgw:FK 319 F47:=by
 refine af zj1 λx C hC=>?_
 refine aU eW zj1 (λid _=>hC id) (zmu x.1) ?_;simp only[Tr.val,ju];repeat' split
 all_goals rfl
noncomputable def lG:=jZ.addL [(108,F70),(334,F58),(310,F38),(311,F39),(313,F41),(319,F47)]
theorem iY:zy lG:=eW.addL<|fc zgS<|fc zgG<|fc zgn<|fc zgo<|fc zgq<|fc zgw iM
def bj(x0:Sem ze)(x1:Sem ze):Sem zg:=Fg [rq (ao x0).1 (ao x1).1,jX (ao x0).2.1 (ao x1).2.1,nj (ao x0).2.2 (ao x1).2.2]
theorem zka:zL lG.P 62 Tryz.f62 2:=bS kw
theorem zmF(x0:Sem ze)(x1:Sem ze):rn lG 0 (λ_=>{ }) Tryz.f62 [zH ze x0,zH ze x1] []=Tr.ok (zE.ret (AV.int IntKind.i64 (Fg [rq (ao x0).1 (ao x1).1,jX (ao x0).2.1 (ao x1).2.1,nj (ao x0).2.2 (ao x1).2.2])) []):=kw
def F60:ac:=aF [ze,ze] [zg] λx=>(bj x.1 x.2.1,())
theorem zgK:FK 62 F60:=by
 refine af zka λx C hC=>?_
 refine aU iY zka (λid _=>hC id) (zmF x.1 x.2.1) ?_;simp only[Tr.val,bj];repeat' split
 all_goals rfl
def mh(x0:Sem ze)(x1:Sem ze):Sem ze:=if(!eQ x0 x1)=Q3 then(0,0,[])else dm (x0.1==x1.1&&(x0.2.1==x1.2.1&&(x0.2.2==x1.2.2&&Q3)))
theorem zjV:zL lG.P 314 Tryz.f314 2:=bS kw
theorem zmp(x0:Sem ze)(x1:Sem ze):rn lG 0 (λ_=>{ }) Tryz.f314 [zH ze x0,zH ze x1] []=br (!eQ x0 x1) (Tr.ok (zE.ret (Qd [ai 0,ai 0,str []]) [])) (Tr.ok (zE.ret (Qd [ai (dm (x0.1==x1.1&&(x0.2.1==x1.2.1&&(x0.2.2==x1.2.2&&Q3)))).1,ai (dm (x0.1==x1.1&&(x0.2.1==x1.2.1&&(x0.2.2==x1.2.2&&Q3)))).2.1,str (dm (x0.1==x1.1&&(x0.2.1==x1.2.1&&(x0.2.2==x1.2.2&&Q3)))).2.2]) [])):=kw
def F42:ac:=aF [ze,ze] [ze] λx=>(mh x.1 x.2.1,())
theorem zgr:FK 314 F42:=by
 refine af zjV λx C hC=>?_
 refine aU iY zjV (λid _=>hC id) (zmp x.1 x.2.1) ?_;simp only[Tr.val,mh];repeat' split
 all_goals rfl
def rZ(x0:Sem ze)(x1:Sem ze):Sem ze:=if(bif !eQ x0 x1 then Q3 else x0.1!=1)=Q3 then(0,0,[])else if(bif Q0 (x1.2.1>0)then bif Q0 (IntKind.i64.wrap (x0.2.1+x1.2.1)<x0.2.1)then Q3 else bif Q0 (x1.2.1<0)then Q0 (IntKind.i64.wrap (x0.2.1+x1.2.1)>x0.2.1)else Q4 else bif Q0 (x1.2.1<0)then Q0 (IntKind.i64.wrap (x0.2.1+x1.2.1)>x0.2.1)else Q4)=Q3 then(0,0,[])else(1,IntKind.i64.wrap (x0.2.1+x1.2.1),[])
theorem zjY:zL lG.P 316 Tryz.f316 2:=bS kw
theorem zmr(x0:Sem ze)(x1:Sem ze):rn lG 0 (λ_=>{ }) Tryz.f316 [zH ze x0,zH ze x1] []=br (bif !eQ x0 x1 then Q3 else x0.1!=1) (Tr.ok (zE.ret (Qd [ai 0,ai 0,str []]) [])) (br (bif Q0 (x1.2.1>0)then bif Q0 (IntKind.i64.wrap (x0.2.1+x1.2.1)<x0.2.1)then Q3 else bif Q0 (x1.2.1<0)then Q0 (IntKind.i64.wrap (x0.2.1+x1.2.1)>x0.2.1)else Q4 else bif Q0 (x1.2.1<0)then Q0 (IntKind.i64.wrap (x0.2.1+x1.2.1)>x0.2.1)else Q4) (Tr.ok (zE.ret (Qd [ai 0,ai 0,str []]) [])) (Tr.ok (zE.ret (Qd [ai 1,ai (IntKind.i64.wrap (x0.2.1+x1.2.1)),str []]) []))):=kw
def F44:ac:=aF [ze,ze] [ze] λx=>(rZ x.1 x.2.1,())
theorem zgt:FK 316 F44:=by
 refine af zjY λx C hC=>?_
 refine aU iY zjY (λid _=>hC id) (zmr x.1 x.2.1) ?_;simp only[Tr.val,rZ];repeat' split
 all_goals rfl
def mi(x0:Sem ze)(x1:Sem ze):Sem ze:=if(bif !eQ x0 x1 then Q3 else x0.1!=1)=Q3 then(0,0,[])else if(bif Q0 (x1.2.1>0)then bif Q0 (IntKind.i64.wrap (x0.2.1-x1.2.1)>x0.2.1)then Q3 else bif Q0 (x1.2.1<0)then Q0 (IntKind.i64.wrap (x0.2.1-x1.2.1)<x0.2.1)else Q4 else bif Q0 (x1.2.1<0)then Q0 (IntKind.i64.wrap (x0.2.1-x1.2.1)<x0.2.1)else Q4)=Q3 then(0,0,[])else(1,IntKind.i64.wrap (x0.2.1-x1.2.1),[])
theorem zjZ:zL lG.P 317 Tryz.f317 2:=bS kw
theorem zms(x0:Sem ze)(x1:Sem ze):rn lG 0 (λ_=>{ }) Tryz.f317 [zH ze x0,zH ze x1] []=br (bif !eQ x0 x1 then Q3 else x0.1!=1) (Tr.ok (zE.ret (Qd [ai 0,ai 0,str []]) [])) (br (bif Q0 (x1.2.1>0)then bif Q0 (IntKind.i64.wrap (x0.2.1-x1.2.1)>x0.2.1)then Q3 else bif Q0 (x1.2.1<0)then Q0 (IntKind.i64.wrap (x0.2.1-x1.2.1)<x0.2.1)else Q4 else bif Q0 (x1.2.1<0)then Q0 (IntKind.i64.wrap (x0.2.1-x1.2.1)<x0.2.1)else Q4) (Tr.ok (zE.ret (Qd [ai 0,ai 0,str []]) [])) (Tr.ok (zE.ret (Qd [ai 1,ai (IntKind.i64.wrap (x0.2.1-x1.2.1)),str []]) []))):=kw
def F45:ac:=aF [ze,ze] [ze] λx=>(mi x.1 x.2.1,())
theorem zgu:FK 317 F45:=by
 refine af zjZ λx C hC=>?_
 refine aU iY zjZ (λid _=>hC id) (zms x.1 x.2.1) ?_;simp only[Tr.val,mi];repeat' split
 all_goals rfl
def Ol(x0:Sem ze)(_:Sem ze):Sem ze:=yv x0
theorem zjT:zL lG.P 312 Tryz.f312 2:=bS kw
theorem zmn(x0:Sem ze)(x1:Sem ze):rn lG 0 (λ_=>{ }) Tryz.f312 [zH ze x0,zH ze x1] []=Tr.ok (zE.ret (Qd [ai (yv x0).1,ai (yv x0).2.1,str (yv x0).2.2]) []):=kw
def F40:ac:=aF [ze,ze] [ze] λx=>(Ol x.1 x.2.1,())
theorem zgp:FK 312 F40:=by
 refine af zjT λx C hC=>?_
 refine aU iY zjT (λid _=>hC id) (zmn x.1 x.2.1) ?_;simp only[Tr.val,Ol];repeat' split
 all_goals rfl
def H0(x0:Sem ze)(_:Sem ze):Sem ze:=ju x0
theorem zj0:zL lG.P 318 Tryz.f318 2:=bS kw
theorem zmt(x0:Sem ze)(x1:Sem ze):rn lG 0 (λ_=>{ }) Tryz.f318 [zH ze x0,zH ze x1] []=Tr.ok (zE.ret (Qd [ai (ju x0).1,ai (ju x0).2.1,str (ju x0).2.2]) []):=kw
def F46:ac:=aF [ze,ze] [ze] λx=>(H0 x.1 x.2.1,())
theorem zgv:FK 318 F46:=by
 refine af zj0 λx C hC=>?_
 refine aU iY zj0 (λid _=>hC id) (zmt x.1 x.2.1) ?_;simp only[Tr.val,H0];repeat' split
 all_goals rfl
noncomputable def rH:=lG.addL [(62,F60),(314,F42),(316,F44),(317,F45),(312,F40),(318,F46)]
theorem ki:zy rH:=iY.addL<|fc zgK<|fc zgr<|fc zgt<|fc zgu<|fc zgp<|fc zgv iM
def rY(x0:Sem ze)(x1:Sem ze):Sem ze:=if(!eQ x0 x1)=Q3 then(0,0,[])else dm (Q0 (bj x0 x1<0))
theorem zjX:zL rH.P 315 Tryz.f315 2:=bS kw
theorem zmq(x0:Sem ze)(x1:Sem ze):rn rH 0 (λ_=>{ }) Tryz.f315 [zH ze x0,zH ze x1] []=br (!eQ x0 x1) (Tr.ok (zE.ret (Qd [ai 0,ai 0,str []]) [])) (Tr.ok (zE.ret (Qd [ai (dm (Q0 (bj x0 x1<0))).1,ai (dm (Q0 (bj x0 x1<0))).2.1,str (dm (Q0 (bj x0 x1<0))).2.2]) [])):=kw
def F43:ac:=aF [ze,ze] [ze] λx=>(rY x.1 x.2.1,())
theorem zgs:FK 315 F43:=by
 refine af zjX λx C hC=>?_
 refine aU ki zjX (λid _=>hC id) (zmq x.1 x.2.1) ?_;simp only[Tr.val,rY];repeat' split
 all_goals rfl
def gF(x0:Sem ze):Sem ze:=if Q0 ((↑(length x0.2.2):Int)>60)=Q3 then(x0.1,x0.2.1,Qg (toNat 60-toNat 0) (Qh (toNat 0) x0.2.2))else x0
def Ky(x0:Sem ze):Bool:=bif Q0 ((↑(length x0.2.2):Int)>60)then Q0 (0<=0)&&Q0 (0<=60)&&Q0 (60<=(↑(length x0.2.2):Int))else Q3
theorem zjB:zL rH.P 8 Tryz.f8 1:=bS kw
theorem zl6(x0:Sem ze):rn rH 0 (λ_=>{ }) Tryz.f8 [zH ze x0] []=br (Q0 ((↑(length x0.2.2):Int)>60)) (chk (Q0 (0<=0)&&Q0 (0<=60)&&Q0 (60<=(↑(length x0.2.2):Int))) (Tr.ok (zE.ret (Qd [ai x0.1,ai x0.2.1,str (Qg (toNat 60-toNat 0) (Qh (toNat 0) x0.2.2))]) []))) (Tr.ok (zE.ret (Qd [ai x0.1,ai x0.2.1,str x0.2.2]) [])):=kw
def F14:ac:=zV [ze] [ze] (λx=>Ky x.1) λx=>(gF x.1,())
theorem YS:FK 8 F14:=by
 refine aM zjB λx hx C hC=>?_
 refine aU ki zjB (λid _=>hC id) (zl6 x.1) ?_;simp only[Ky,Bool.cond_eq_ite]at hx;simp only[Tr.val,gF];repeat' split
 all_goals first|rfl|simp_all
def ji(x0:Sem Q6):Sem Q6:=if Q0 ((↑(length x0):Int)>20)=Q3 then Qg (toNat 20-toNat 0) (Qh (toNat 0) x0)else x0
def Oa(x0:Sem Q6):Bool:=bif Q0 ((↑(length x0):Int)>20)then Q0 (0<=0)&&Q0 (0<=20)&&Q0 (20<=(↑(length x0):Int))else Q3
theorem zjA:zL rH.P 114 Tryz.f114 1:=bS kw
theorem zl5(x0:Sem Q6):rn rH 0 (λ_=>{ }) Tryz.f114 [zH Q6 x0] []=br (Q0 ((↑(length x0):Int)>20)) (chk (Q0 (0<=0)&&Q0 (0<=20)&&Q0 (20<=(↑(length x0):Int))) (Tr.ok (zE.ret (str (Qg (toNat 20-toNat 0) (Qh (toNat 0) x0))) []))) (Tr.ok (zE.ret (str x0) [])):=kw
def F12:ac:=zV [Q6] [Q6] (λx=>Oa x.1) λx=>(ji x.1,())
theorem YR:FK 114 F12:=by
 refine aM zjA λx hx C hC=>?_
 refine aU ki zjA (λid _=>hC id) (zl5 x.1) ?_;simp only[Oa,Bool.cond_eq_ite]at hx;simp only[Tr.val,ji];repeat' split
 all_goals first|rfl|simp_all
noncomputable def F79:ac:=bm (List.replicate 2 Q2) (fk rH Tryz.f288 (List.replicate 2 Q2))
theorem zgX:FK 288 F79:=ce _ ki (bS kw)
noncomputable def F18:ac:=bm (List.replicate 2 Q2) (fk rH Tryz.f169 (List.replicate 2 Q2))
theorem zga:FK 169 F18:=ce _ ki (bS kw)
noncomputable def Y2:=rH.addL [(315,F43),(8,F14),(114,F12),(288,F79),(169,F18)]
theorem vR:zy Y2:=ki.addL<|fc zgs<|fc YS<|fc YR<|fc zgX<|fc zga iM
def ta:(ks:List Sh)->zz (ks.map Q1++[Q2])->zz (ks.map Q1)×AV
 |[],x=>((),x.1)
 |_::ks,x=>((x.1,(ta ks x.2).1),(ta ks x.2).2)
theorem AW:∀(ks:List Sh)(x:zz (ks.map Q1++[Q2])),jl (ks.map Q1++[Q2]) x=jl (ks.map Q1) (ta ks x).1++[(ta ks x).2]
 |[],_=>rfl
 |s::ks,x=>congrArg (zH s x.1::·) (AW ks x.2)
def SD(k:Nat):AV->Bool
 |.clo (.func j) [] []=>j==k
 |_=>Q4
theorem SE{k:Nat}{v:AV}(h:SD k v=Q3):v=.clo (.func k) [] []:=by
 unfold SD at h;split at h
 ·rw[bf]at h;rw[h]
 ·cases h
abbrev Qu(ks outs:List Sh):=Nat×(zz (ks.map Q1)->Bool)×(zz (ks.map Q1)->zz (outs.map Q1))
def Wf{ks outs:List Sh}(v:AV):List (Qu ks outs)->Option ((zz (ks.map Q1)->Bool)×(zz (ks.map Q1)->zz (outs.map Q1)))
 |[]=>Q2
 |(k,a)::r=>if SD k v then Q1 a else Wf v r
theorem Is{ks outs:List Sh}{v:AV}{a}:∀{l:List (Qu ks outs)},Wf v l=Q1 a->∃k,v=.clo (.func k) [] []/\(k,a)∈l
 |[],h=>by cases h
 | (k,b)::r,h=>by
  unfold Wf at h;split at h
  ·rename_i hk;cases h;exact⟨k,SE hk,xn ..⟩
  ·obtain⟨j,h1,h2⟩:=Is h;exact⟨j,h1,tk _ h2⟩
def NK(ks outs:List Sh)(l:List (Qu ks outs)):il (ks.map Q1++[Q2]):=λx h=>match h with
 | []=>match Wf (ta ks x).2 l with
  |some (c,g)=>.chk (c (ta ks x).1) (.ok (xW outs (g (ta ks x).1),[]))
  |none=>.err
 |_=>.err
def T2(ks outs:List Sh)(l:List (Qu ks outs)):ac:=bm (ks.map Q1++[Q2]) (NK ks outs l)
theorem KH{P:Program}{gl:Nat->AV}{E:cd}{k:FuncId}{f:Func}{ks outs:List Sh}{l:List (Qu ks outs)}(hf:zL E.P k f (ks.length+1))
  (h:∀j c g,(j,c,g)∈l->∀x,c x=Q3->∀C:eV,(∀id,C.ρ0 id=Q2)->Reach E C k (bx f) (bg f.ntmps (jl (ks.map Q1) x++[.clo (.func j) [] []]) []) (λr h=>aL h outs r=Q1 (g x))) (qp:E.P=P:=by rfl) (qg:E.gl=gl:=by rfl):oC P gl k (T2 ks outs l):=by
 subst qp qg;refine dv (by simpa using hf) λx h0 res hx C hC=>?_
 unfold NK at hx;split at hx
 ·split at hx
  ·rename_i c g hal;obtain⟨j,hv,hm⟩:=Is hal;simp only[Tr.val]at hx;split at hx
   ·rename_i hc;simp only[bD]at hx;subst hx;rw[AW,hv];exact Reach.plain (λid=>hC id (by simp)) (h j c g hm _ hc C (λid=>hC id (by simp)))
   ·simp at hx
  ·simp at hx
 ·simp at hx
inductive CP where
 |d (s:Sh)
 |nil
 |vec (e:Sh)
@[reducible] def zm:List CP->Type
 |[]=>Unit
 |.d s::r=>Sem s×zm r
 |.nil::r=>zm r
 |.vec e::r=>List (Sem e)×zm r
def eG:(n:Nat)->(ps:List CP)->zm ps->List AV
 |_,[],_=>[]
 |n,.d s::r,y=>zq s y.1++eG n r y.2
 |n,.nil::r,y=>.nils::eG n r y
 |n,.vec _::r,y=>.vec n::eG (n+1) r y.2
def gm:(ps:List CP)->zm ps->List AO
 |[],_=>[]
 |.d _::r,y=>gm r y.2
 |.nil::r,y=>gm r y
 |.vec e::r,y=>.vec e y.1::gm r y.2
def ay(ps:List CP)(y:zm ps):List AO:=.box (eG 1 ps y)::gm ps y
def aV:List CP->Nat
 |[]=>0
 |.vec _::r=>aV r+1
 |_::r=>aV r
theorem bM:∀(ps:List CP)(y:zm ps),(gm ps y).length=aV ps
 |[],_=>rfl
 |.d _::r,y=>bM r y.2
 |.nil::r,y=>bM r y
 |.vec _::r,y=>congrArg (·+1) (bM r y.2)
def cz(hp:Nat->AO):(n:Nat)->(ps:List CP)->List AV->Option (zm ps)
 |_,[],[]=>Q1 ()
 | n,.d s::r,cs=>match cM (fun _=>.dead) s cs with
  | some (x,cs')=>match cz hp n r cs' with
   |some y=>Q1 (x,y)
   |none=>Q2
  |none=>Q2
 |n,.nil::r,.nils::cs=>cz hp n r cs
 | n,.vec e::r,.vec id::cs=>if id=n then match hp id with
   | .vec e' l=>if h:e'=e then match cz hp (n+1) r cs with
     |some y=>Q1 (h▸l,y)
     |none=>Q2
    else Q2
   |_=>Q2
  else Q2
 |_,_,_=>Q2
section
variable {w:World} {U:Nat->Prop} {ρ:Nat->Option Value}
theorem dq.app{a b:List AV}{va vb:List Value}(h1:dq w U ρ a va)(h2:dq w U ρ b vb):dq w U ρ (a++b) (va++vb) where
 len:=by simp[h1.len,h2.len]
 rv:=by
  intro j c v hc hv;by_cases hj:j<a.length
  ·rw[ms hj]at hc;rw[ms (by rw[<-h1.len];exact hj)]at hv;exact h1.rv j c v hc hv
  ·rw[ng ow]at hc;rw[ng (by rw[<-h1.len];omega),<-h1.len]at hv;exact h2.rv _ c v hc hv
theorem dq.tail{a:AV}{l:List AV}{v:Value}{vs:List Value}(h:dq w U ρ (a::l) (v::vs)):dq w U ρ l vs:=
 ⟨by have:=h.len;simpa using this,λj c x hc hx=>h.rv (j+1) c x (by simpa using hc) (by simpa using hx)⟩
theorem dq.consH{a:AV}{l:List AV}{v:Value}{vs:List Value}(h1:Rv w U ρ a v)(h2:dq w U ρ l vs):dq w U ρ (a::l) (v::vs) where
 len:=by simp[h2.len]
 rv:=by
  intro j c x hc hx;cases j with
  |zero=>simp at hc hx;subst hc;subst hx;exact h1
  |succ j=>exact h2.rv j c x (by simpa using hc) (by simpa using hx)
theorem fB{hp:Nat->AO}:∀(ps:List CP)(n:Nat)(cs:List AV)(y:zm ps)(vals:List Value),cz hp n ps cs=Q1 y->dq w U ρ cs vals->
  dq w U ρ (eG n ps y) vals/\∀(j:Nat) o,(gm ps y)[j]?=Q1 o->hp (n+j)=o
 |[],n,[],y,vals,h,hr=>⟨hr,by simp[gm]⟩
 |[],n,_::_,y,vals,h,hr=>by simp[cz]at h
 | .d s::r,n,cs,y,vals,h,hr=>by
  unfold cz at h;split at h
  ·rename_i x cs' hi;split at h
   ·rename_i y' hy;cases h
    have hk:=nC (w:=w) (U:=U) (U':=U) (ρ:=ρ) (hp:=λ_=>.dead) (λ_ h=>h) s cs x cs' (λj=>vals.getD j undef) hi
     (λj c hc=>by
      have hlt:j<vals.length:=by rw[<-hr.len];exact(cW.1 hc).1
      have:=hr.rv j c vals[j] hc (zS hlt);simpa[List.getD,zS hlt]using this)
     (λid _=>⟨trivial,λb hb=>by simp[ap,AO.owns]at hb⟩)
    obtain⟨k1,k2,k3⟩:=hk;have hdrop:dq w U ρ cs' (vals.drop s.size):=by
     refine⟨by rw[k2];simp[hr.len],λj c v hc hv=>?_⟩;rw[k2,D9]at hc;rw[D9]at hv;exact hr.rv _ c v hc hv
    obtain⟨i1,i2⟩:=fB r n cs' y' (vals.drop s.size) hy hdrop;refine⟨?_,i2⟩;have htake:dq w U ρ (zq s x) (vals.take s.size):=by
     refine⟨by rw[zZ];have:=hr.len;simp;omega,λj c v hc hv=>?_⟩;have hj:j<s.size:=by rw[<-zZ s x];exact(cW.1 hc).1
     rw[List.getElem?_take,if_pos hj]at hv;have:=k3 j c hc;simpa[List.getD,hv]using this
    have:=htake.app i1;rw[List.take_append_drop]at this;exact this
   ·cases h
  ·cases h
 | .nil::r,n,.nils::cs,y,vals,h,hr=>by
  match vals,hr with
  |[],hr=>have:=hr.len;simp at this
  | v::vs,hr=>
   have hv:=hr.rv 0 _ v rfl rfl;obtain⟨i1,i2⟩:=fB r n cs y vs h hr.tail;exact⟨dq.consH hv i1,i2⟩
 | .vec e::r,n,.vec id::cs,y,vals,h,hr=>by
  match vals,hr with
  |[],hr=>have:=hr.len;simp at this
  | v :: vs,hr=>
   have hv:=hr.rv 0 _ v rfl rfl;unfold cz at h;split at h
   ·rename_i hid;subst hid;split at h
    ·rename_i e' l ho;split at h
     ·rename_i he;subst he;split at h
      ·rename_i y' hy;cases h;obtain⟨i1,i2⟩:=fB r (id+1) cs y' vs hy hr.tail;refine⟨dq.consH hv i1,λj o hj=>?_⟩;cases j with
       |zero=>simp[gm]at hj;subst hj;exact ho
       | succ j=>
        have:=i2 j o (by simpa[gm]using hj);rw[<-this];congr 1;omega
      ·cases h
     ·cases h
    ·cases h
   ·cases h
 |.nil::_,_,[],_,_,h,_=>by simp[cz]at h
 |.vec _::_,_,[],_,_,h,_=>by simp[cz]at h
 |.nil::_,_,.any::_,_,_,h,_|.nil::_,_,.kb _::_,_,_,h,_|.nil::_,_,.bool _::_,_,_,h,_|.nil::_,_,.int _ _::_,_,_,h,_|.nil::_,_,.str _::_,_,_,h,_
 |.nil::_,_,.sl _ _::_,_,_,h,_|.nil::_,_,.vec _::_,_,_,h,_|.nil::_,_,.ptr _ _::_,_,_,h,_|.nil::_,_,.vptr _ _ _ _::_,_,_,h,_|.nil::_,_,.eptr _ _::_,_,_,h,_
 |.nil::_,_,.nilp::_,_,_,h,_|.nil::_,_,.agg _::_,_,_,h,_|.nil::_,_,.tup _::_,_,_,h,_|.nil::_,_,.clo _ _ _::_,_,_,h,_|.nil::_,_,.nilf::_,_,_,h,_
 |.nil::_,_,.mp _::_,_,_,h,_|.nil::_,_,.ifc _::_,_,_,h,_|.nil::_,_,.tab _ _::_,_,_,h,_|.nil::_,_,.gint::_,_,_,h,_=>by simp[cz]at h
 |.vec _::_,_,.any::_,_,_,h,_|.vec _::_,_,.kb _::_,_,_,h,_|.vec _::_,_,.bool _::_,_,_,h,_|.vec _::_,_,.int _ _::_,_,_,h,_|.vec _::_,_,.str _::_,_,_,h,_
 |.vec _::_,_,.sl _ _::_,_,_,h,_|.vec _::_,_,.nils::_,_,_,h,_|.vec _::_,_,.ptr _ _::_,_,_,h,_|.vec _::_,_,.vptr _ _ _ _::_,_,_,h,_|.vec _::_,_,.eptr _ _::_,_,_,h,_
 |.vec _::_,_,.nilp::_,_,_,h,_|.vec _::_,_,.agg _::_,_,_,h,_|.vec _::_,_,.tup _::_,_,_,h,_|.vec _::_,_,.clo _ _ _::_,_,_,h,_|.vec _::_,_,.nilf::_,_,_,h,_
 |.vec _::_,_,.mp _::_,_,_,h,_|.vec _::_,_,.ifc _::_,_,_,h,_|.vec _::_,_,.tab _ _::_,_,_,h,_|.vec _::_,_,.gint::_,_,_,h,_=>by simp[cz]at h
end
theorem jv.box{C:eV}{w:World}{U:Nat->Prop}{ρ:Nat->Option Value}{cs:List AV}{os:List AO}{ps:List CP}{y:zm ps}(hH:jv C w U ρ (λj=>((Qa cs::os).getD j .dead)))(hl:os.length=aV ps)
  (hm:cz (jS (.box cs::os)) 1 ps cs=Q1 y):jv C w U ρ (λj=>(ay ps y).getD j .dead):=by
 have h0:bB w U ρ 0 (.box cs):=hH.ob 0;obtain⟨b,T,vals,h1,h2,h3,h4,h5⟩:=h0;obtain⟨k1,k2⟩:=fB ps 1 cs y vals.toList hm h4;have hobj:∀id,id≠0->(ay ps y).getD id .dead=(Qa cs::os).getD id .dead:=by
  intro id hid;obtain⟨j,rfl⟩:∃j,id=j+1:=⟨id-1,ow⟩;by_cases hj:j<(gm ps y).length
  ·have:=k2 j _ (zS hj);unfold ay;simp only[AN];rw[bc,zS hj];simp only[jS,oo 1 j,AN]at this;simpa using this.symm
  ·have h7:os.length<=j:=by rw[bM]at hj;omega
   unfold ay;simp only[AN];rw[bc,bc,eE ow,eE h7]
 have hown:∀id b,ap ρ id ((ay ps y).getD id .dead) b->ap ρ id ((Qa cs::os).getD id .dead) b:=by
  intro id b' ho;by_cases hid:id=0
  ·subst hid;obtain⟨_,v,hv,hb⟩:=ho;exact⟨rfl,v,hv,hb⟩
  ·rw[hobj id hid]at ho;exact ho
 refine⟨λid=>?_,λid1 id2 b' o1 o2=>hH.inj id1 id2 b' (hown _ _ o1) (hown _ _ o2),λid b' o=>hH.blk id b' (hown _ _ o)⟩;by_cases hid:id=0
 ·subst hid;exact⟨b,T,vals,h1,h2,h3,k1,h5⟩
 ·show bB w U ρ id ((ay ps y).getD id .dead);rw[hobj id hid];exact hH.ob id
def sj(ps:List CP)(outs:List Sh)(r:AV)(h:List AO):Option (zz (outs.map Q1)×zm ps):=match h with
 | .box cs::os=>if os.length=aV ps then match aL [] outs r,cz (jS (.box cs::os)) 1 ps cs with
   |some a,Q1 y=>Q1 (a,y)
   |_,_=>Q2
  else Q2
 |_=>Q2
def zho(ps:List CP)(ks outs:List Sh)(ps':List CP)(c:zm ps->zz (ks.map Q1)->Bool)(g:zm ps->zz (ks.map Q1)->zz (outs.map Q1)×zm ps'):il (Q2::ks.map Q1):=λx h=>match x.1,h with
 | .ptr 0 0,.box cs::os=>if os.length=aV ps then match cz (jS (.box cs::os)) 1 ps cs with
   |some y=>.chk (c y x.2) (.ok (xW outs (g y x.2).1,ay ps' (g y x.2).2))
   |none=>.err
  else .err
 |_,_=>.err
def si(ps:List CP)(ks outs:List Sh)(ps':List CP)(c:zm ps->zz (ks.map Q1)->Bool)(g:zm ps->zz (ks.map Q1)->zz (outs.map Q1)×zm ps'):ac:=bm (Q2::ks.map Q1) (zho ps ks outs ps' c g)
theorem rG(ps:List CP)(y:zm ps):(ay ps y).length=aV ps+1:=by
 simp[ay,bM]
theorem FF{w:World}{U:Nat->Prop}{ρ:Nat->Option Value}{outs:List Sh}{r:AV}{y:zz (outs.map Q1)}{v:Value}(h:aL [] outs r=Q1 y)(hr:Rv w U ρ r v):Rv w U ρ (xW outs y) v:=by
 have hob:∀id,bB w U ρ id (jS [] id)/\∀b,ap ρ id (jS [] id) b->¬U b:=λid=>⟨by simp[jS,bB],λb hb=>by simp[jS,ap,AO.owns]at hb⟩
 have htup:∀(outs:List Sh)(y:zz (outs.map Q1))(rs:List AV),lO (jS []) (λi=>i) (outs.map Q1) rs=Q1 y->Rv w U ρ (.tup rs) v->Rv w U ρ (.tup (jl (outs.map Q1) y)) v:=by
  intro outs y rs hy hrv;cases hrv with
  |tup _ vs hl hr2=>
  have:=(jE (w:=w) (U:=U) (ρ:=ρ) (U':=U) (ρ':=ρ) (hp:=jS []) (f:=λi=>i) (λb hb=>hb) (outs.map Q1) rs vs _ (pn outs rs y hy) ⟨hl,hr2⟩ (λid _=>hob id)
   (λid _=>rfl)).1
  simp only[oS,tn,zB,if_false,List.map_id']at this;exact .tup _ vs this.len this.rv
 match outs,y,h with
 | [s],y,h=>
  simp only[aL]at h;split at h
  ·rename_i x hx;cases h;exact A3 hx hr (λb hb=>hb) (λid _=>hob id)
  ·cases h
 | [],y,h=>
  simp only[aL]at h;cases r with
  |tup rs=>exact htup [] y _ h hr
  |_=>cases h
 | s1::s2::ss,y,h=>
  simp only[aL]at h;cases r with
  |tup rs=>exact htup _ y _ h hr
  |_=>cases h
theorem V2{P:Program}{gl:Nat->AV}{E:cd}{k:FuncId}{f:Func}{ps:List CP}{ks outs:List Sh}{ps':List CP}{c:zm ps->zz (ks.map some)->Bool}{g:zm ps->zz (ks.map some)->zz (outs.map some)×zm ps'}(hf:zL E.P k f (ks.length+1))
  (h:∀y x,c y x=Q3->∀C:eV,(∀id,aV ps+1<=id->C.ρ0 id=Q2)->Reach E C k (bx f) (bg f.ntmps (.ptr 0 0::jl (ks.map Q1) x) (ay ps y)) (λr h=>sj ps' outs r h=Q1 (g y x))) (qp:E.P=P:=by rfl) (qg:E.gl=gl:=by rfl):
  oC P gl k (si ps ks outs ps' c g):=by
 subst qp qg;refine dv (by simpa using hf) λx h0 res hx C hC=>?_
 obtain⟨x0,x⟩:=x;unfold zho at hx;simp only at hx;split at hx
 ·rename_i cs os;split at hx
  ·rename_i hos;split at hx
   ·rename_i y hy;simp only[Tr.val]at hx;split at hx
    ·rename_i hc;simp only[bD]at hx;subst hx;have hR:=h y x hc C (λid hid=>hC id (by simpa[hos]using hid));intro b cs' a w U ρ h1 h2 hcn hW;have hH:jv C w U ρ (λj=>((Qa cs::os).getD j .dead)):=hcn.hp
     have hcn':Cn C (bg f.ntmps (.ptr 0 0::jl (ks.map Q1) x) (ay ps y)) a w U ρ:=
      ⟨hcn.tm,hH.box hos hy,λid hid=>hcn.new id (by have hid:(ay ps y).length<=id:=hid;rw[rG]at hid;simpa[bg,hos]using hid),hcn.df,hcn.r0⟩
     obtain⟨e,w',fr,⟨v,r,h',U',ρ',he,hq,hrv,hH',hnew,hr0,hWd⟩,hcm,hf',hl⟩:=hR b cs' a w U ρ h1 h2 hcn' hW;unfold sj at hq;split at hq
     ·rename_i cs2 os2;split at hq
      ·rename_i hos2;split at hq
       ·rename_i a' y' ha' hy';simp only[bD]at hq;refine⟨e,w',fr,⟨v,_,_,U',ρ',he,by rw[<-hq],FF ha' hrv,hH'.box hos2 hy',λid hid=>hnew id (by rw[rG]at hid;simpa[hos2]using hid),hr0,hWd⟩,hcm,hf',hl⟩
       ·cases hq
      ·cases hq
     ·cases hq
    ·simp at hx
   ·simp at hx
  ·simp at hx
 ·simp at hx
def t7(E:cd)(n0:Nat)(keep:Nat->aO)(f:Func)(gas:Nat):Nat->List Item->St->Option (AV×List AO)
 |0,_,_=>Q2
 | n+1,K,st=>match (run E n0 keep f.results.toList gas K st).val with
  |some (.ret v h)=>Q1 (v,h)
  |some (.head _ K' st')=>t7 E n0 keep f gas n K' st'
  |_=>Q2
theorem pi{E:cd}{C:eV}{k:FuncId}{f:Func}{Q:AV->List AO->Prop}{m n0:Nat}(hE:zy E)(hf:zL E.P k f m)(hC:∀id,n0<=id->C.ρ0 id=Q2){keep:Nat->aO}{gas:Nat}:
  ∀(n:Nat)(K:List Item)(st:St)(r:AV×List AO),t7 E n0 keep f gas n K st=Q1 r->Q r.1 r.2->Reach E C k K st Q
 |0,_,_,_,h,_=>by cases h
 | n+1,K,st,r,h,hQ=>by
  unfold t7 at h;split at h
  ·rename_i v h' hv;cases h;exact mT hE hf hC hv hQ
  ·rename_i j K' st' hv;exact mT hE hf hC hv (pi hE hf hC n K' st' r h hQ)
  ·cases h
def cg:(outs:List Sh)->zz (outs.map Q1)
 |[]=>()
 |s::r=>(zi s,cg r)
def fY:(ps:List CP)->zm ps
 |[]=>()
 |.d s::r=>(zi s,fY r)
 |.nil::r=>fY r
 |.vec _::r=>([],fY r)
def bv:List Nat->(ps:List CP)->zm ps->List AV
 |_,[],_=>[]
 |n,.d s::r,y=>zq s y.1++bv n r y.2
 |n,.nil::r,y=>.nils::bv n r y
 |n,.vec _::r,y=>.vec (n.headD 0)::bv n.tail r y.2
def ZK(E:cd)(keep:Nat->aO)(f:Func)(gas n:Nat)(ks outs:List Sh)(x:zz (ks.map Q1)):Option (zz (outs.map Q1)):=
 (t7 E 0 keep f gas n (bx f) (bg f.ntmps (jl (ks.map Q1) x) [])).bind λr=>aL r.2 outs r.1
def LW(ks outs:List Sh)(g:zz (ks.map Q1)->Option (zz (outs.map Q1))):ac:=zV ks outs (λx=>(g x).isSome) λx=>(g x).getD (cg outs)
theorem zb6{P:Program}{gl:Nat->AV}{E:cd}{k:FuncId}{f:Func}{ks outs:List Sh}{keep:Nat->aO}{gas n:Nat}(hE:zy E)(hf:zL E.P k f ks.length)(qp:E.P=P:=by rfl)(qg:E.gl=gl:=by rfl):oC P gl k (LW ks outs (ZK E keep f gas n ks outs)):=by
 subst qp qg;refine aM hf λx hc C hC=>?_
 rw[Option.isSome_iff_exists]at hc;obtain⟨y,hy⟩:=hc;rw[hy];unfold ZK at hy;rw[fV]at hy;obtain⟨r,h1,h2⟩:=hy;exact pi hE hf (λid _=>hC id) n _ _ r h1 h2
def ZJ(E:cd)(keep:Nat->aO)(f:Func)(gas n:Nat)(ps:List CP)(ks outs:List Sh)(ps':List CP)(y:zm ps)(x:zz (ks.map Q1)):Option (zz (outs.map Q1)×zm ps'):=
 (t7 E (aV ps+1) keep f gas n (bx f) (bg f.ntmps (.ptr 0 0::jl (ks.map Q1) x) (ay ps y))).bind λr=>sj ps' outs r.1 r.2
def zll(ps:List CP)(ks outs:List Sh)(ps':List CP)(g:zm ps->zz (ks.map Q1)->Option (zz (outs.map Q1)×zm ps')):ac:=
 si ps ks outs ps' (λy x=>(g y x).isSome) λy x=>(g y x).getD (cg outs,fY ps')
theorem V4{P:Program}{gl:Nat->AV}{E:cd}{k:FuncId}{f:Func}{ps:List CP}{ks outs:List Sh}{ps':List CP}{keep:Nat->aO}{gas n:Nat}(hE:zy E)(hf:zL E.P k f (ks.length+1))(qp:E.P=P:=by rfl)(qg:E.gl=gl:=by rfl):oC P gl k (zll ps ks outs ps' (ZJ E keep f gas n ps ks outs ps')):=by
 subst qp qg;refine V2 hf λy x hc C hC=>?_
 rw[Option.isSome_iff_exists]at hc;obtain⟨z,hz⟩:=hc;rw[hz];unfold ZJ at hz;rw[fV]at hz;obtain⟨r,h1,h2⟩:=hz;exact pi hE hf hC n _ _ r h1 h2
theorem KI{P:Program}{gl:Nat->AV}{k:FuncId}{ks outs:List Sh}{g:zz (ks.map Q1)->Option (zz (outs.map Q1))}{c:zz (ks.map Q1)->Bool}{g':zz (ks.map Q1)->zz (outs.map Q1)}(h:oC P gl k (LW ks outs g))(hg:∀x,c x=Q3->g x=Q1 (g' x)):oC P gl k (zV ks outs c g'):=by
 refine yx (ι:=Unit) (Gs:=λ_=>ft ks outs (λx=>(g x).isSome) λx=>(g x).getD (cg outs)) (λ_=>h) λx h0 res hv=>⟨(),?_⟩
 unfold ft at hv⊢;split at hv
 ·simp only[Tr.val]at hv⊢;split at hv
  ·rename_i hc;simp only[hg x hc,Ea,if_true,dw];exact hv
  ·simp at hv
 ·simp at hv
theorem gV{P:Program}{gl:Nat->AV}{k:FuncId}{ks outs:List Sh}{g:zz (ks.map Q1)->Option (zz (outs.map Q1))}{g':zz (ks.map Q1)->zz (outs.map Q1)}(h:oC P gl k (LW ks outs g))(hg:∀x,g x=Q1 (g' x)):oC P gl k (aF ks outs g'):=
 MP (KI h λx _=>hg x)
theorem V5{P:Program}{gl:Nat->AV}{E:cd}{k:FuncId}{f:Func}{ks outs:List Sh}{keep:Nat->aO}{gas n:Nat}{c:zz (ks.map Q1)->Bool}{g:zz (ks.map Q1)->zz (outs.map Q1)}(hE:zy E)(hf:zL E.P k f ks.length)
  (hc:∀x,c x=(ZK E keep f gas n ks outs x).isSome) (hg:∀x,g x=(ZK E keep f gas n ks outs x).getD (cg outs)) (qp:E.P=P:=by rfl) (qg:E.gl=gl:=by rfl):oC P gl k (zV ks outs c g):=by
 subst qp qg;obtain rfl:c=λx=>(ZK E keep f gas n ks outs x).isSome:=funext hc
 obtain rfl:g=λx=>(ZK E keep f gas n ks outs x).getD (cg outs):=funext hg
 exact zb6 hE hf
theorem QG{P:Program}{gl:Nat->AV}{E:cd}{k:FuncId}{f:Func}{ps:List CP}{ks outs:List Sh}{ps':List CP}{keep:Nat->aO}{gas n:Nat}{c:zm ps->zz (ks.map Q1)->Bool}{g:zm ps->zz (ks.map Q1)->zz (outs.map Q1)×zm ps'}(hE:zy E)(hf:zL E.P k f (ks.length+1))
  (hc:∀y x,c y x=(ZJ E keep f gas n ps ks outs ps' y x).isSome) (hg:∀y x,g y x=(ZJ E keep f gas n ps ks outs ps' y x).getD (cg outs,fY ps')) (qp:E.P=P:=by rfl) (qg:E.gl=gl:=by rfl):oC P gl k (si ps ks outs ps' c g):=by
 subst qp qg;obtain rfl:c=λy x=>(ZJ E keep f gas n ps ks outs ps' y x).isSome:=funext λy=>funext λx=>hc y x
 obtain rfl:g=λy x=>(ZJ E keep f gas n ps ks outs ps' y x).getD (cg outs,fY ps'):=funext λy=>funext λx=>hg y x
 exact V4 hE hf
abbrev aw:=AV×List AO
def Tr.map{α β:Type}(f:α->β):Tr α->Tr β
 |.err=>.err
 |.chk c t=>.chk c (t.map f)
 |.br c t e=>.br c (t.map f) (e.map f)
 |.ok a=>.ok (f a)
theorem Tr.val_map{α β:Type}(f:α->β):∀t:Tr α,(t.map f).val=t.val.map f
 |.err=>rfl
 |.chk c t=>by simp only[Tr.map,Tr.val,val_map f t];split<;>rfl
 |.br c t e=>by simp only[Tr.map,Tr.val,val_map f t,val_map f e];split<;>rfl
 |.ok _=>rfl
abbrev Tr.to{σ:Type}(s:σ):Tr (σ⊕aw):=.ok (.inl s)
abbrev Tr.re{σ:Type}(v:AV)(h:List AO):Tr (σ⊕aw):=.ok (.inr (v,h))
def cY{σ:Type}(t:σ->Tr (σ⊕aw)):Nat->σ->Option aw
 |0,_=>Q2
 | n+1,s=>match (t s).val with
  |some (.inl s')=>cY t n s'
  |some (.inr r)=>Q1 r
  |none=>Q2
def cT{σ:Type}(t:σ->Tr (σ⊕aw))(n:Nat)(i:Tr (σ⊕aw)):Option aw:=match i.val with
 |some (.inl s)=>cY t n s
 |some (.inr r)=>Q1 r
 |none=>Q2
def lf{σ:Type}(f:Func)(e:σ->Nat×St):σ⊕aw->zE
 |.inl s=>.head (e s).1 (ag f (e s).1) (e s).2
 |.inr r=>.ret r.1 r.2
def e0:Empty->Nat×St:=λx=>nomatch x
def t0:Empty->Tr (Empty⊕aw):=λx=>nomatch x
section
variable {σ:Type} {E:cd} {n0:Nat} {keep:Nat->aO} {f:Func} {gas:Nat} {e:σ->Nat×St} {t:σ->Tr (σ⊕aw)}
theorem Nk(hon:∀s,run E n0 keep f.results.toList gas (ag f (e s).1) (e s).2=(t s).map (lf f e)):∀(n:Nat)(s:σ),t7 E n0 keep f gas n (ag f (e s).1) (e s).2=cY t n s
 |0,_=>rfl
 | n+1,s=>by
  rw[t7,hon s,Tr.val_map,cY];cases(t s).val with
  |none=>rfl
  | some l=>
   cases l with
   |inl s'=>exact Nk hon n s'
   |inr r=>rfl
theorem nD(hon:∀s,run E n0 keep f.results.toList gas (ag f (e s).1) (e s).2=(t s).map (lf f e)){K:List Item}{st:St}{i:Tr (σ⊕aw)}(hgo:run E n0 keep f.results.toList gas K st=i.map (lf f e))(n:Nat):t7 E n0 keep f gas (n+1) K st=cT t n i:=by
 rw[t7,hgo,Tr.val_map,cT];cases i.val with
 |none=>rfl
 | some l=>
  cases l with
  |inl s=>exact Nk hon n s
  |inr r=>rfl
end
def al{σ:Type}(outs:List Sh)(t:σ->Tr (σ⊕aw))(n:Nat)(i:Tr (σ⊕aw)):Option (zz (outs.map Q1)):=(cT t n i).bind λr=>aL r.2 outs r.1
theorem lY{P:Program}{gl:Nat->AV}{σ:Type}{E:cd}{k:FuncId}{f:Func}{ks outs:List Sh}{keep:Nat->aO}{gas n:Nat}{e:σ->Nat×St}{t:σ->Tr (σ⊕aw)}{i:zz (ks.map Q1)->Tr (σ⊕aw)}{c:zz (ks.map Q1)->Bool}{g:zz (ks.map Q1)->zz (outs.map Q1)}
  (hE:zy E) (hf:zL E.P k f ks.length) (hgo:∀x,run E 0 keep f.results.toList gas (bx f) (bg f.ntmps (jl (ks.map Q1) x) [])=(i x).map (lf f e))
  (hon:∀s,run E 0 keep f.results.toList gas (ag f (e s).1) (e s).2=(t s).map (lf f e))
  (hc:∀x,c x=(al outs t n (i x)).isSome) (hg:∀x,g x=(al outs t n (i x)).getD (cg outs)) (qp:E.P=P:=by rfl) (qg:E.gl=gl:=by rfl):oC P gl k (zV ks outs c g):=by
 subst qp qg;have h:∀x,ZK E keep f gas (n+1) ks outs x=al outs t n (i x):=by
  intro x;unfold ZK al;rw[nD hon (hgo x)]
 exact V5 (n:=n+1) hE hf (λx=>by rw[h,hc]) (λx=>by rw[h,hg])
theorem Xz{σ:Type}{E:cd}{C:eV}{k:FuncId}{f:Func}{outs:List Sh}{m n0 n gas:Nat}{keep:Nat->aO}{e:σ->Nat×St}{t:σ->Tr (σ⊕aw)}{i:Tr (σ⊕aw)}{K:List Item}{st:St}{y:zz (outs.map Q1)}(hE:zy E)(hf:zL E.P k f m)(hC:∀id,n0<=id->C.ρ0 id=Q2)
  (hgo:run E n0 keep f.results.toList gas K st=i.map (lf f e)) (hon:∀s,run E n0 keep f.results.toList gas (ag f (e s).1) (e s).2=(t s).map (lf f e)) (h:al outs t n i=Q1 y):Reach E C k K st (λr h=>aL h outs r=Q1 y):=by
 unfold al at h;rw[fV]at h;obtain⟨r,h1,h2⟩:=h;rw[<-nD hon hgo n]at h1;exact pi hE hf hC (n+1) _ _ r h1 h2
abbrev k0:Nat->aO:=λ_=>{ }
abbrev lx:List (Nat×List Nat)->Nat->aO
 |[],_=>{ }
 |p::r,j=>if j=p.1 then{slots:=p.2}else lx r j
def o1{a:Sh}(o:Option (zz [Q1 a])):Sem a:=(o.getD (cg [a])).1
def o2{a b:Sh}(o:Option (zz [Q1 a,Q1 b])):Sem a×Sem b:=((o.getD (cg [a,b])).1,(o.getD (cg [a,b])).2.1)
def o3{a b c:Sh}(o:Option (zz [Q1 a,Q1 b,Q1 c])):Sem a×Sem b×Sem c:=((o.getD (cg [a,b,c])).1,(o.getD (cg [a,b,c])).2.1,(o.getD (cg [a,b,c])).2.2.1)
def FT(ks outs:List Sh)(o:zz (ks.map Q1)->Option (zz (outs.map Q1))):ac:=zV ks outs (λx=>(o x).isSome) λx=>(o x).getD (cg outs)
theorem zy.T1{P:Program}{gl:Nat->AV}{σ:Type}{E:cd}{k:FuncId}{f:Func}{ks outs:List Sh}{keep:Nat->aO}{n:Nat}{e:σ->Nat×St}{t:σ->Tr (σ⊕aw)}{i:zz (ks.map Q1)->Tr (σ⊕aw)}(hE:zy E)(gas:Nat:=400)
  (hf:(E.P.funcs[k]?,f.name=="runtime.NumGoroutine",f.body.isNone,Q0 (ks.length<=f.ntmps))=(Q1 f,Q4,Q4,Q3):=by kernel_rfl)
  (hgo:∀x,run E 0 keep f.results.toList gas (bx f) (bg f.ntmps (jl (ks.map Q1) x) [])=(i x).map (lf f e):=by intro x;kernel_rfl)
  (hon:∀s,run E 0 keep f.results.toList gas (ag f (e s).1) (e s).2=(t s).map (lf f e):=by intro s;cases s<;>kernel_rfl) (qp:E.P=P:=by rfl) (qg:E.gl=gl:=by rfl):oC P gl k (FT ks outs λx=>al outs t n (i x)):=by
 subst qp qg;exact lY hE (bS hf) hgo hon (λ_=>rfl) λ_=>rfl
theorem U9(E:cd)(n0:Nat)(keep:Nat->aO)(f:Func)(gas:Nat):∀s,run E n0 keep f.results.toList gas (ag f (e0 s).1) (e0 s).2=(t0 s).map (lf f e0):=λs=>nomatch s
def kS{σ:Type}(outs:List Sh)(ps':List CP)(t:σ->Tr (σ⊕aw))(n:Nat)(i:Tr (σ⊕aw)):Option (zz (outs.map Q1)×zm ps'):=(cT t n i).bind λr=>sj ps' outs r.1 r.2
theorem ky{P:Program}{gl:Nat->AV}{σ:Type}{E:cd}{k:FuncId}{f:Func}{ps:List CP}{ks outs:List Sh}{ps':List CP}{keep:Nat->aO}{gas n:Nat}{e:σ->Nat×St}{t:σ->Tr (σ⊕aw)}{i:zm ps->zz (ks.map Q1)->Tr (σ⊕aw)}{c:zm ps->zz (ks.map Q1)->Bool}{g:zm ps->zz (ks.map Q1)->zz (outs.map Q1)×zm ps'}
  (hE:zy E) (hf:zL E.P k f (ks.length+1)) (hgo:∀y x,run E (aV ps+1) keep f.results.toList gas (bx f) (bg f.ntmps (.ptr 0 0::jl (ks.map Q1) x) (ay ps y))=(i y x).map (lf f e))
  (hon:∀s,run E (aV ps+1) keep f.results.toList gas (ag f (e s).1) (e s).2=(t s).map (lf f e))
  (hc:∀y x,c y x=(kS outs ps' t n (i y x)).isSome) (hg:∀y x,g y x=(kS outs ps' t n (i y x)).getD (cg outs,fY ps')) (qp:E.P=P:=by rfl) (qg:E.gl=gl:=by rfl):oC P gl k (si ps ks outs ps' c g):=by
 subst qp qg;have h:∀y x,ZJ E keep f gas (n+1) ps ks outs ps' y x=kS outs ps' t n (i y x):=by
  intro y x;unfold ZJ kS;rw[nD hon (hgo y x)]
 exact QG (n:=n+1) hE hf (λy x=>by rw[h,hc]) (λy x=>by rw[h,hg])
open Tr (chk br re)
theorem MU(hp:Nat->AO)(e:Sh)(l:List (Sem e)):vI hp e (.sl e l)=Q1 l:=by
 simp[vI]
theorem jT(hp:Nat->AO):∀(s:Sh)(x:Sem s)(r:List AV),cM hp s (zq s x++r)=Q1 (x,r)
 |.unit,_,_=>rfl
 |.bool,_,_=>rfl
 |.int k,n,r=>by simp[zq,cM]
 |.str,_,_=>rfl
 | .sl e,l,r=>by
  show(match vI hp e (.sl e l)with|some l=>Q1 (l,r)|none=>Q2)=_;rw[MU]
 | .pr a b,x,r=>by
  simp only[zq,cM,xq,jT hp a,jT hp b]
 | .expr,e,r=>by
  show tW hp _=_;simp only[zq,List.cons_append,Ec,tW,MU];rw[show zf.mk e.op (e.v.1,e.v.2.1,e.v.2.2) e.s e.l=e from zf.eta e]
theorem jn{hp:Nat->AO}:∀(ps:List CP)(n:Nat)(y:zm ps),(∀(j:Nat) o,(gm ps y)[j]?=Q1 o->hp (n+j)=o)->cz hp n ps (eG n ps y)=Q1 y
 |[],_,_,_=>rfl
 | .d s::r,n,y,h=>by
  simp only[eG,cz,jT];rw[jn r n y.2 h]
 | .nil::r,n,y,h=>by
  simp only[eG,cz];exact jn r n y h
 | .vec e::r,n,y,h=>by
  have h0:=h 0 (.vec e y.1) rfl;simp only[xu]at h0;simp only[eG,cz,if_true,h0,dite_true]
  rw[jn r (n+1) y.2 (λj o hj=>by
   have:=h (j+1) o (by simpa[gm]using hj);rw[<-this];congr 1;omega)]
theorem cX{ps:List CP}{outs:List Sh}{r:AV}{a:zz (outs.map Q1)}(y:zm ps)(h:aL [] outs r=Q1 a):sj ps outs r (ay ps y)=Q1 (a,y):=by
 unfold sj ay;simp only[bM,if_true,h]
 rw[jn ps 1 y (λj o hj=>by
  unfold jS;rw[oo,AN,bc,hj];rfl)]
section
variable {σ:Type} {t:σ->Tr (σ⊕aw)}
theorem dl{β:Type}(N:Nat)(st:β->Nat->σ)(I:β->Nat->Prop)(Φ:aw->Prop)(M:Nat)
  (hstep:∀b i,i<N->I b i->(∃b',I b' (i+1)/\(t (st b i)).val=Q1 (.inl (st b' (i+1))))\/∃r,(t (st b i)).val=Q1 (.inr r)/\Φ r)
  (hend:∀b n,I b N->M<=n->∃r,cY t n (st b N)=Q1 r/\Φ r):
  ∀(m i:Nat)(b:β)(n:Nat),N-i=m->i<=N->I b i->M+m<=n->∃r,cY t n (st b i)=Q1 r/\Φ r
 | 0,i,b,n,hm,hi,hI,hn=>by
  obtain rfl:i=N:=by omega
  exact hend b n hI ow
 | m+1,i,b,n,hm,hi,hI,hn=>by
  obtain⟨n,rfl⟩:∃k,n=k+1:=⟨n-1,ow⟩;rcases hstep b i ow hI with⟨b',hI',h⟩|⟨r,h1,h2⟩
  ·obtain⟨r,h1,h2⟩:=dl N st I Φ M hstep hend m (i+1) b' n ow ow hI' ow;exact⟨r,by rw[cY,h];exact h1,h2⟩
  ·exact⟨r,by rw[cY,h1],h2⟩
theorem cI{n:Nat}{s:σ}:cY t (n+1) s=match(t s).val with
  |some (.inl s')=>cY t n s'
  |some (.inr r)=>Q1 r
  |none=>Q2:=rfl
end
theorem jv.cells{C:eV}{w:World}{U:Nat->Prop}{ρ:Nat->Option Value}{hp:Nat->AO}{k:Nat}{cs cs':List AV}(hH:jv C w U ρ hp)(hk:hp k=.box cs)
  (hr:∀vals,dq w U ρ cs vals->dq w U ρ cs' vals):jv C w U ρ (λj=>if j=k then .box cs' else hp j):=by
 have hown:∀id b,ap ρ id (if id=k then .box cs' else hp id) b->ap ρ id (hp id) b:=by
  intro id b ho;by_cases hid:id=k
  ·subst hid;rw[if_pos rfl]at ho;rw[hk];obtain⟨_,v,hv,hb⟩:=ho;exact⟨rfl,v,hv,hb⟩
  ·rw[if_neg hid]at ho;exact ho
 refine⟨λid=>?_,λid1 id2 b o1 o2=>hH.inj id1 id2 b (hown _ _ o1) (hown _ _ o2),λid b o=>hH.blk id b (hown _ _ o)⟩;by_cases hid:id=k
 ·subst hid;have h0:=hH.ob id;rw[hk]at h0;obtain⟨b,T,vals,h1,h2,h3,h4,h5⟩:=h0;simp only[if_true];exact⟨b,T,vals,h1,h2,h3,hr _ h4,h5⟩
 ·simp only[if_neg hid];exact hH.ob id
def cm(ps qs:List CP)(y:zm ps)(z:zm qs):List AO:=.box (eG 2 ps y)::.box (eG (2+aV ps) qs z)::(gm ps y++gm qs z)
theorem oW(ps qs:List CP)(y:zm ps)(z:zm qs):(cm ps qs y z).length=aV ps+aV qs+2:=by
 simp[cm,bM]
theorem jv.box2{C:eV}{w:World}{U:Nat->Prop}{ρ:Nat->Option Value}{cs ds:List AV}{os:List AO}{ps qs:List CP}{y:zm ps}{z:zm qs}(hH:jv C w U ρ (λj=>((Qa cs::Qa ds::os).getD j .dead)))(hl:os.length=aV ps+aV qs)
  (hm:cz (jS (.box cs::.box ds::os)) 2 ps cs=Q1 y) (hm2:cz (jS (.box cs::.box ds::os)) (2+aV ps) qs ds=Q1 z):jv C w U ρ (λj=>(cm ps qs y z).getD j .dead):=by
 have h1:=hH.cells (k:=0) (cs:=cs) (cs':=eG 2 ps y) rfl (λvals h=>(fB ps 2 cs y vals hm h).1);have h2:=h1.cells (k:=1) (cs:=ds) (cs':=eG (2+aV ps) qs z) rfl (λvals h=>(fB qs _ ds z vals hm2 h).1);obtain⟨b0,T0,v0,_,_,_,r0,_⟩:=hH.ob 0;obtain⟨b1,T1,v1,_,_,_,r1,_⟩:=hH.ob 1;have k1:=(fB ps 2 cs y v0.toList hm r0).2;have k2:=(fB qs _ ds z v1.toList hm2 r1).2;have e:(λj=>(cm ps qs y z).getD j .dead)=λj=>if j=1 then .box (eG (2+aV ps) qs z)else if j=0 then .box (eG 2 ps y)else(Qa cs::Qa ds::os).getD j .dead:=by
  funext j
  match j with
  |0=>rfl
  |1=>rfl
  | j+2=>
   rw[if_neg ow,if_neg ow];simp only[cm,AN];by_cases hj:j<aV ps
   ·have hj':j<(gm ps y).length:=by rw[bM];exact hj
    have:=k1 j _ (zS hj');simp only[jS,oo 2 j,AN]at this;rw[this,bc,ms hj',zS hj'];rfl
   ·by_cases hj2:j<aV ps+aV qs
    ·have hj':j-aV ps<(gm qs z).length:=by rw[bM];omega
     have:=k2 (j-aV ps) _ (zS hj');rw[show 2+aV ps+(j-aV ps)=j+2 by omega]at this;simp only[jS,AN]at this;rw[this,bc,ng (by rw[bM];omega),bM,zS hj'];rfl
    ·rw[bc,bc,eE (by simp[bM];omega),eE ow]
 rw[e];exact h2
def yC(ps qs:List CP)(outs:List Sh)(r:AV)(h:List AO):Option (zz (outs.map Q1)×zm ps×zm qs):=match h with
 | .box cs::.box ds::os=>if os.length=aV ps+aV qs then match aL [] outs r,cz (jS (.box cs::.box ds::os)) 2 ps cs,cz (jS (.box cs::.box ds::os)) (2+aV ps) qs ds with
   |some a,Q1 y,Q1 z=>Q1 (a,y,z)
   |_,_,_=>Q2
  else Q2
 |_=>Q2
def Y0(ps qs:List CP)(ks outs:List Sh)(ps' qs':List CP)(c:zm ps->zm qs->zz (ks.map Q1)->Bool)(g:zm ps->zm qs->zz (ks.map Q1)->zz (outs.map Q1)×zm ps'×zm qs'):il (Q2::Q2::ks.map Q1):=λx h=>match x.1,x.2.1,h with
 | .ptr 0 0,.ptr 1 0,.box cs::.box ds::os=>if os.length=aV ps+aV qs then match cz (jS (.box cs::.box ds::os)) 2 ps cs,cz (jS (.box cs::.box ds::os)) (2+aV ps) qs ds with
   |some y,Q1 z=>.chk (c y z x.2.2) (.ok (xW outs (g y z x.2.2).1,cm ps' qs' (g y z x.2.2).2.1 (g y z x.2.2).2.2))
   |_,_=>.err
  else .err
 |_,_,_=>.err
def Rb(ps qs:List CP)(ks outs:List Sh)(ps' qs':List CP)(c:zm ps->zm qs->zz (ks.map Q1)->Bool)(g:zm ps->zm qs->zz (ks.map Q1)->zz (outs.map Q1)×zm ps'×zm qs'):ac:=bm (Q2::Q2::ks.map Q1) (Y0 ps qs ks outs ps' qs' c g)
theorem QF{P:Program}{gl:Nat->AV}{E:cd}{k:FuncId}{f:Func}{ps qs:List CP}{ks outs:List Sh}{ps' qs':List CP}{c:zm ps->zm qs->zz (ks.map some)->Bool}{g:zm ps->zm qs->zz (ks.map some)->zz (outs.map some)×zm ps'×zm qs'}(hf:zL E.P k f (ks.length+2))
  (h:∀y z x,c y z x=Q3->∀C:eV,(∀id,aV ps+aV qs+2<=id->C.ρ0 id=Q2)->Reach E C k (bx f) (bg f.ntmps (.ptr 0 0::.ptr 1 0::jl (ks.map Q1) x) (cm ps qs y z)) (λr h=>yC ps' qs' outs r h=Q1 (g y z x))) (qp:E.P=P:=by rfl) (qg:E.gl=gl:=by rfl):
  oC P gl k (Rb ps qs ks outs ps' qs' c g):=by
 subst qp qg;refine dv (by simpa using hf) λx h0 res hx C hC=>?_
 obtain⟨x0,x1,x⟩:=x;unfold Y0 at hx;simp only at hx;split at hx
 ·rename_i cs ds os;split at hx
  ·rename_i hos;split at hx
   ·rename_i y z hy hz;simp only[Tr.val]at hx;split at hx
    ·rename_i hc;simp only[bD]at hx;subst hx;have hR:=h y z x hc C (λid hid=>hC id (by simpa[hos]using hid));intro b cs' a w U ρ h1 h2 hcn hW;have hH:jv C w U ρ (λj=>((Qa cs::Qa ds::os).getD j .dead)):=hcn.hp
     have hcn':Cn C (bg f.ntmps (.ptr 0 0::.ptr 1 0::jl (ks.map Q1) x) (cm ps qs y z)) a w U ρ:=
      ⟨hcn.tm,hH.box2 hos hy hz,λid hid=>hcn.new id (by have hid:(cm ps qs y z).length<=id:=hid;rw[oW]at hid;simpa[bg,hos]using hid),hcn.df,hcn.r0⟩
     obtain⟨e,w',fr,⟨v,r,h',U',ρ',he,hq,hrv,hH',hnew,hr0,hWd⟩,hcm,hf',hl⟩:=hR b cs' a w U ρ h1 h2 hcn' hW;unfold yC at hq;split at hq
     ·rename_i cs2 ds2 os2;split at hq
      ·rename_i hos2;split at hq
       ·rename_i a' y' z' ha' hy' hz';simp only[bD]at hq;refine⟨e,w',fr,⟨v,_,_,U',ρ',he,by rw[<-hq],FF ha' hrv,hH'.box2 hos2 hy' hz',λid hid=>hnew id (by rw[oW]at hid;simpa[hos2]using hid),hr0,hWd⟩,hcm,hf',hl⟩
       ·cases hq
      ·cases hq
     ·cases hq
    ·simp at hx
   ·simp at hx
  ·simp at hx
 ·simp at hx
def NH{σ:Type}(outs:List Sh)(ps' qs':List CP)(t:σ->Tr (σ⊕aw))(n:Nat)(i:Tr (σ⊕aw)):Option (zz (outs.map Q1)×zm ps'×zm qs'):=(cT t n i).bind λr=>yC ps' qs' outs r.1 r.2
theorem zb5{P:Program}{gl:Nat->AV}{σ:Type}{E:cd}{k:FuncId}{f:Func}{ps qs:List CP}{ks outs:List Sh}{ps' qs':List CP}{keep:Nat->aO}{gas n:Nat}{e:σ->Nat×St}{t:σ->Tr (σ⊕aw)}{i:zm ps->zm qs->zz (ks.map Q1)->Tr (σ⊕aw)}{c:zm ps->zm qs->zz (ks.map Q1)->Bool}{g:zm ps->zm qs->zz (ks.map Q1)->zz (outs.map Q1)×zm ps'×zm qs'}
  (hE:zy E) (hf:zL E.P k f (ks.length+2)) (hgo:∀y z x,run E (aV ps+aV qs+2) keep f.results.toList gas (bx f) (bg f.ntmps (.ptr 0 0::.ptr 1 0::jl (ks.map Q1) x) (cm ps qs y z))=(i y z x).map (lf f e))
  (hon:∀s,run E (aV ps+aV qs+2) keep f.results.toList gas (ag f (e s).1) (e s).2=(t s).map (lf f e))
  (hc:∀y z x,c y z x=(NH outs ps' qs' t n (i y z x)).isSome) (hg:∀y z x,g y z x=(NH outs ps' qs' t n (i y z x)).getD (cg outs,fY ps',fY qs')) (qp:E.P=P:=by rfl) (qg:E.gl=gl:=by rfl):oC P gl k (Rb ps qs ks outs ps' qs' c g):=by
 subst qp qg;refine QF hf λy z x hcx C hC=>?_
 rw[hc,Option.isSome_iff_exists]at hcx;obtain⟨u,hu⟩:=hcx;rw[hg,hu];unfold NH at hu;rw[fV]at hu;obtain⟨r,h1,h2⟩:=hu;exact pi (Q:=λr h=>yC ps' qs' outs r h=Q1 u) hE hf hC (n+1) _ _ r (by rw[nD hon (hgo y z x)];exact h1) h2
section
variable {σ:Type} {t:σ->Tr (σ⊕aw)}
def zU(t:σ->Tr (σ⊕aw))(k:Nat)(s:σ)(r:aw):Prop:=∀n,k<=n->cY t n s=Q1 r
def zQ(t:σ->Tr (σ⊕aw))(m:Nat)(s s':σ):Prop:=∀k r,zU t k s' r->zU t (k+m) s r
theorem zU.mono{k k':Nat}{s:σ}{r:aw}(h:zU t k s r)(hk:k<=k'):zU t k' s r:=λn hn=>h n ow
theorem zU.of{s:σ}{r:aw}(h:(t s).val=Q1 (.inr r)):zU t 1 s r:=by
 intro n hn;obtain⟨n,rfl⟩:∃k,n=k+1:=⟨n-1,ow⟩;rw[cY,h]
theorem zQ.of{s s':σ}(h:(t s).val=Q1 (.inl s')):zQ t 1 s s':=by
 intro k r hr n hn;obtain⟨n,rfl⟩:∃k,n=k+1:=⟨n-1,ow⟩;rw[cY,h];exact hr n ow
theorem zQ.refl(s:σ):zQ t 0 s s:=λ_ _ h=>h
theorem zQ.trans{a b:Nat}{s s' s'':σ}(h1:zQ t a s s')(h2:zQ t b s' s''):zQ t (b+a) s s'':=λk r h=>(h1 _ _ (h2 k r h)).mono ow
theorem zQ.mono{a b:Nat}{s s':σ}(h:zQ t a s s')(hk:a<=b):zQ t b s s':=λk r hr=>(h k r hr).mono ow
theorem zQ.ends{a k:Nat}{s s':σ}{r:aw}(h1:zQ t a s s')(h2:zU t k s' r):zU t (k+a) s r:=h1 k r h2
theorem zQ.all(m:Nat)(st:Nat->σ):∀(N:Nat),(∀i,i<N->zQ t m (st i) (st (i+1)))->zQ t (N*m) (st 0) (st N)
 |0,_=>(zQ.refl _).mono ow
 |N+1,h=>((zQ.all m st N λi hi=>h i ow).trans (h N ow)).mono (by rw[nf];omega)
theorem ly{Φ:aw->Prop}(m:Nat)(st:Nat->σ)(P:Nat->Prop):∀(N:Nat),(∀i,i<N->(∀j,j<i->P j)->(P i/\zQ t m (st i) (st (i+1)))\/(¬P i/\∃r,zU t m (st i) r/\Φ r))->
  ((∀i,i<N->P i)/\zQ t (N*m) (st 0) (st N))\/((¬∀i,i<N->P i)/\∃r,zU t (N*m) (st 0) r/\Φ r)
 |0,_=>.inl ⟨λi hi=>absurd hi ow,(zQ.refl _).mono ow⟩
 | N+1,h=>by
  rcases ly m st P N λi hi=>h i ow with⟨h1,h2⟩|⟨h1,r,h2,h3⟩
  ·rcases h N ow h1 with⟨h4,h5⟩|⟨h4,r,h5,h6⟩
   ·refine .inl ⟨λi hi=>?_,(h2.trans h5).mono (by rw[nf];omega)⟩;rcases Nat.lt_succ_iff_lt_or_eq.1 hi with hi|rfl
    ·exact h1 i hi
    ·exact h4
   ·exact .inr ⟨λh=>h4 (h N ow),r,(h2.ends h5).mono (by rw[nf];omega),h6⟩
  ·exact .inr ⟨λh=>h1 λi hi=>h i ow,r,h2.mono (by rw[nf];omega),h3⟩
theorem zw{outs:List Sh}{n k:Nat}{i:Tr (σ⊕aw)}{s:σ}{r:aw}{y:zz (outs.map Q1)}(hi:i.val=Q1 (.inl s))(h:zU t k s r)(hk:k<=n)(hr:aL r.2 outs r.1=Q1 y):al outs t n i=Q1 y:=by
 unfold al cT;rw[hi];show(cY t n s).bind _=_;rw[h n hk];exact hr
theorem zJ{outs:List Sh}{n:Nat}{i:Tr (σ⊕aw)}{r:aw}{y:zz (outs.map Q1)}(hi:i.val=Q1 (.inr r))(hr:aL r.2 outs r.1=Q1 y):al outs t n i=Q1 y:=by
 unfold al cT;rw[hi];exact hr
theorem TR{outs:List Sh}{ps:List CP}{n:Nat}{i:Tr (σ⊕aw)}{r:aw}{y:zz (outs.map Q1)×zm ps}(hi:i.val=Q1 (.inr r))(hr:sj ps outs r.1 r.2=Q1 y):kS outs ps t n i=Q1 y:=by
 unfold kS cT;rw[hi];exact hr
end
noncomputable section
theorem Reach.lenA{E:cd}{C:eV}{fn:FuncId}{todo:List Item}{st:St}{Q:AV->List AO->Prop}(j c:Nat)(e:Sh)(l:List (Sem e)){cs:List AV}(h1:st.tmps[j]?=Q1 (.agg cs))(h2:cs[c]?=Q1 (.sl e l))(h:l.length<=aH->Reach E C fn todo st Q):Reach E C fn todo st Q:=by
 intro b cs' a w U ρ q1 q2 hc hW;refine h ?_ b cs' a w U ρ q1 q2 hc hW;have hlt:j<a.tmps.toList.length:=by rw[<-hc.tm.len];exact(cW.1 h1).1
 have:=hc.tm.rv j _ _ h1 (zS hlt);generalize a.tmps.toList[j]=v at this;cases this with
 |agg _ vs hlv _ hr=>
 have hlt:c<vs.length:=by rw[<-hlv];exact(cW.1 h2).1
 have:=hr c _ _ h2 (zS hlt);generalize vs[c]=v at this;cases this with
 |sl0=>simp
 |sl _ _ _ _ _ _ _ hm=>exact hm
abbrev ziH:Nat->aO:=λj=>if j=3 then{slots:=[0,3,4],prom:=[(3,Q2,ze)]}else{ }
inductive Ou where
 |h3 (l0:List (Sem ze)) (i4:Int) (lh_0:List (Sem ze))
abbrev zls:Ou->Nat×St
 |.h3 l0 i4 lh_0=>(3,⟨tm 24 [(0,sl ze l0),(3,AV.vec 0),(4,ai i4)],[AO.vec ze lh_0]⟩)
def zmW(x0:Sem ze.sl):Tr (Ou⊕aw):=Tr.to (Ou.h3 x0 0 [])
def XL:Ou->Tr (Ou⊕aw)
 | .h3 l0 i4 lh_0=>
  let a0:=l0.getD i4.toNat (zi ze)
  let a1:=[gF a0]
  br (bif Q0 (i4<(↑l0.length:Int))then Q0 (i4<14)else Q4)
  (chk (zK i4 l0.length) (chk (Ky a0) (chk (Q0 (lh_0.length+a1.length<=1073741824)) (Tr.to (Ou.h3 l0 (IntKind.i64.wrap (i4+1)) (lh_0++a1))))))
  (re (AV.vec 0) [AO.vec ze lh_0])
def zjs(x0:Sem ze.sl):=al [ze.sl] XL 100000000 (zmW x0)
def zeO:=FT [ze.sl] [ze.sl] λx=>zjs x.1
theorem Qx:FK 14 zeO:=vR.T1 (f:=Tryz.f14) (keep:=ziH) (e:=zls)
abbrev ziY:Nat->aO:=λj=>if j=3 then{slots:=[0,3,4],prom:=[(3,Q2,zj)]}else{ }
inductive KN where
 |h3 (l0:List (Sem zj)) (i4:Int) (lh_0:List (Sem zj))
abbrev zlF:KN->Nat×St
 |.h3 l0 i4 lh_0=>(3,⟨tm 33 [(0,sl zj l0),(3,AV.vec 0),(4,ai i4)],[AO.vec zj lh_0]⟩)
def zm0(x0:Sem zj.sl):Tr (KN⊕aw):=Tr.to (KN.h3 x0 0 [])
def XO:KN->Tr (KN⊕aw)
 | .h3 l0 i4 lh_0=>
  let a0:=l0.getD i4.toNat (zi zj)
  let a1:=(↑(length a0.1):Int)
  let a2:=[(Qg (toNat 20-toNat 0) (Qh (toNat 0) a0.1),a0.2)]
  let a3:=IntKind.i64.wrap (i4+1)
  let a4:=[a0]
  br (bif Q0 (i4<(↑l0.length:Int))then Q0 (i4<9)else Q4)
  (chk (zK i4 l0.length) (br (Q0 (a1>20)) (chk (Q0 (0<=0)&&Q0 (0<=20)&&Q0 (20<=a1)) (chk (Q0 (lh_0.length+a2.length<=1073741824)) (Tr.to (KN.h3 l0 a3 (lh_0++a2))))) (chk (Q0 (lh_0.length+a4.length<=1073741824)) (Tr.to (KN.h3 l0 a3 (lh_0++a4))))))
  (re (AV.vec 0) [AO.vec zj lh_0])
def zjr(x0:Sem zj.sl):=al [zj.sl] XO 100000000 (zm0 x0)
def zfo:=FT [zj.sl] [zj.sl] λx=>zjr x.1
theorem QB:FK 40 zfo:=vR.T1 (f:=Tryz.f40) (keep:=ziY) (e:=zlF)
def iR(l:Sem ze.sl):Sem ze.sl:=(Qg 14 l).map gF
def jD(l:Sem zj.sl):Sem zj.sl:=(Qg 9 l).map λc:Sem zj=>((ji c.1,c.2):Sem zj)
theorem vn(k:Nat){α:Type}(l:List α):l.take (min k l.length)=l.take k:=by
 rcases Nat.le_total k l.length with h|h
 ·rw[Ed h]
 ·rw[Eb h,jx,MR h]
theorem W7{i k n:Nat}{K:Int}(hk:K=(k:Int))(h:i<min k n):(bif Q0 ((i:Int)<(n:Int))then Q0 ((i:Int)<K)else Q4)=Q3:=by
 have h1:(i:Int)<n:=by omega
 have h2:(i:Int)<K:=by omega
 rw[zx h1,zx h2];rfl
theorem Nq{k:Nat}{K:Int}(hk:K=(k:Int))(n:Nat):(bif Q0 (((min k n:Nat):Int)<(n:Int))then Q0 (((min k n:Nat):Int)<K)else Q4)=Q4:=by
 rcases Nat.le_total k n with h|h
 ·rw[Ed h,hk];simp
 ·rw[Eb h];simp
theorem HW{α:Type}{l:List α}{i:Nat}(h:i<l.length)(d:α):l.take (i+1)=l.take i++[l.getD i d]:=by
 rw[List.take_add_one,zS h,bc,zS h];rfl
def IM:=Y2.addL [(14,zeO),(40,zfo)]
theorem vS:zy IM:=vR.addL<|fc Qx<|fc QB iM
end
theorem nc{P:Program}{gl:Nat->AV}{k:FuncId}{ks outs:List Sh}{c:zz (ks.map Q1)->Bool}{g:zz (ks.map Q1)->zz (outs.map Q1)}(h:oC P gl k (zV ks outs c g))(hc:∀x,c x=Q3):oC P gl k (aF ks outs g):=
 MP (by rwa [show c=λ_=>Q3 from funext hc]at h)
theorem Dq(v:V):Ky v=Q3:=by
 unfold Ky;cases h:Q0 ((↑(length v.2.2):Int)>60)
 ·rfl
 ·simp only[aP]at h;simp only[ae,aC,aP];omega
theorem Mn(s:zD):Oa s=Q3:=by
 unfold Oa;cases h:Q0 ((↑(length s):Int)>20)
 ·rfl
 ·simp only[aP]at h;simp only[ae,aC,aP];omega
theorem Ps(l:List (Sem ze)):zjs l=Q1 (iR l,()):=by
 have g:=zQ.all (t:=XL) 1 (λi=>.h3 l (i:Int) ((Qg i l).map gF)) (min 14 l.length) λi hi=>zQ.of (by
  have hl:i<l.length:=by omega
  have hn:Q0 ((List.map gF (Qg i l)).length+[gF (l.getD i (zi ze))].length<=1073741824)=Q3:=by simp;omega
  simp only[XL,Tr.val,W7 (k:=14) (K:=14) rfl hi,zt hl,if_true,aG,Dq,hn];rw[zp i um,HW hl (zi ze),iP];rfl)
 rw[vn]at g;refine zw rfl (g.ends (k:=1) (r:=(.vec 0,[.vec ze (iR l)])) (zU.of ?_)) ow rfl;simp only[XL,Tr.val,Nq (k:=14) (K:=14) rfl,zB,if_false];rfl
theorem Pq(l:List (Sem zj)):zjr l=Q1 (jD l,()):=by
 have g:=zQ.all (t:=XO) 1 (λi=>.h3 l (i:Int) ((Qg i l).map λc:Sem zj=>((ji c.1,c.2):Sem zj))) (min 9 l.length) λi hi=>zQ.of (by
  have hl:i<l.length:=by omega
  have ht:(Qg (i+1) l).map (λc:Sem zj=>((ji c.1,c.2):Sem zj))=(Qg i l).map (λc:Sem zj=>((ji c.1,c.2):Sem zj))++[(ji (List.getD l i (zi zj)).1,(List.getD l i (zi zj)).2)]:=by rw[HW hl (zi zj),iP];rfl
  have hi':((Qg i l).map (λc:Sem zj=>((ji c.1,c.2):Sem zj))).length<=9:=by rw[cV,ol];omega
  rw[ht];generalize(Qg i l).map (λc:Sem zj=>((ji c.1,c.2):Sem zj))=acc at hi'⊢;have hn:Q0 (acc.length+1<=1073741824)=Q3:=zx ow;simp only[XO,Tr.val,W7 (k:=9) (K:=9) rfl hi,zt hl,if_true,aG,fj,om,eX,hn];rw[zp i um];unfold ji;by_cases h:(length (List.getD l i (zi zj)).1:Int)>20
  ·have h20:Q0 ((20:Int)<=(length (List.getD l i (zi zj)).1:Int))=Q3:=zx ow;simp only[zx h,h20,if_true];rfl
  ·simp only[aj h,zB,if_false])
 rw[vn]at g;refine zw rfl (g.ends (k:=1) (r:=(.vec 0,[.vec zj (jD l)])) (zU.of ?_)) ow rfl;simp only[XO,Tr.val,Nq (k:=9) (K:=9) rfl,zB,if_false];rfl
def zeP:ac:=aF [ze] [ze] λx=>(gF x.1,())
theorem zaF:FK 8 zeP:=nc YS λx=>Dq x.1
def zeG:ac:=aF [Q6] [Q6] λx=>(ji x.1,())
theorem zay:FK 114 zeG:=nc YR λx=>Mn x.1
def F6t:ac:=aF [ze.sl] [ze.sl] λx=>(iR x.1,())
theorem zgQ:FK 14 F6t:=gV Qx λx=>Ps x.1
def zeJ:ac:=aF [zj.sl] [zj.sl] λx=>(jD x.1,())
theorem zaB:FK 40 zeJ:=gV QB λx=>Pq x.1
abbrev yo:Nat->aO:=λ_=>{slots:=[0,1,7,8]}
def nF{K:List Item}{e:Sh}(l:List (Sem e))(p:Sem e->Bool)(st:Int->St)(h0:List AO)(i:Int):Tr zE:=.br (Q0 (i<(l.length:Int))) (.chk (zK i l.length) (.br (p (l.getD i.toNat (zi e))) (.ok (.ret (.int .i64 i) h0)) (.ok (.head 2 K (st (IntKind.i64.wrap (i+1))))))) (.ok (.ret (.int .i64 (-1)) h0))
theorem kv{E:cd}{C:eV}{k:FuncId}{f:Func}{n n0:Nat}{keep:Nat->aO}{fuel:Nat}{K:List Item}{e:Sh}(l:List (Sem e))(p:Sem e->Bool)(st:Int->St){h0:List AO}
  (hE:zy E) (hf:zL E.P k f n) (hC:∀id,n0<=id->C.ρ0 id=Q2)
  (hon:∀i,run E n0 keep f.results.toList fuel K (st i)=nF (K:=K) l p st h0 i) (hl:l.length<=aH):∀(m i:Nat),l.length-i=m->i<=l.length->
  Reach E C k K (st i) (λr h=>(r,h)=(.int .i64 (zW p (l.drop i) i),h0)):=by
 intro m
 induction m with
 | zero=>
  intro i hE.mix' hi;obtain rfl:i=l.length:=by omega
  refine zF hE hf hC (hon _) ?_;simp only[nF,Tr.val,zA,jw];rfl
 | succ m IH=>
  intro i hE.mix' hi;have hlt:i<l.length:=by omega
  refine zF hE hf hC (hon _) ?_;rw[eY hlt];simp only[nF,Tr.val,zC hlt,zt hlt,cF l _ hlt,zp i ow,if_true,zW];split
  ·rfl
  ·exact IH (i+1) ow ow
abbrev Ar(t:Int)(l:List (Sem zg))(i:Int):St:={tmps:=[.sl zg l,.clo (.func 288) [] [.ptr 0 0],.any,.any,.any,.any,.any,.int .i64 l.length,.int .i64 i,.any,.any,.any,.any,.any,.any,.any,.any,.any,.any],heap:=[.box [.int .i64 t]]}
theorem Sd(t:Int)(l:List (Sem zg)):run IM 1 yo Tryz.f320.results.toList 300 (bx Tryz.f320) (bg Tryz.f320.ntmps [.sl zg l,.clo (.func 288) [] [.ptr 0 0]] [.box [.int .i64 t]])=.ok (.head 2 (ag Tryz.f320 2) (Ar t l 0)):=kw
theorem TI(t:Int)(l:List (Sem zg))(i:Int):run IM 1 yo Tryz.f320.results.toList 300 (ag Tryz.f320 2) (Ar t l i)=nF (K:=ag Tryz.f320 2) (e:=zg) l (λx=>bif x !=t then x !=0 else Q4) (Ar t l) [.box [.int .i64 t]] i:=kw
theorem Tt:zL IM.P 320 Tryz.f320 2:=bS kw
def zhh:il [Q1 (.sl zg),Q2]:=λx h=>match x,h with
 |(l,.clo (.func 288) [] [.ptr 0 0],_),[.box [.int .i64 t]]=>.ok (.int .i64 (zW (λx=>bif x !=t then x !=0 else Q4) l 0),[.box [.int .i64 t]])
 |_,_=>.err
def zes:ac:=bm [Q1 (.sl zg),Q2] zhh
theorem zak:FK 320 zes:=by
 refine dv Tt λx h0 res hx C hC=>?_
 unfold zhh at hx;split at hx
 ·rename_i l u t;simp only[Tr.val_ok,bD]at hx;subst hx;refine Reach.len 0 zg l rfl λhl=>?_
  refine zF (n0:=1) vS Tt hC (Sd t l) ?_;exact kv l (λx=>bif x !=t then x !=0 else Q4) (Ar t l) vS Tt hC (TI t l) hl _ 0 rfl (be _)
 ·simp at hx
noncomputable def tK:=IM.addL [(8,zeP),(114,zeG),(14,F6t),(40,zeJ),(320,zes)]
theorem mv:zy tK:=vS.addL<|fc zaF<|fc zay<|fc zgQ<|fc zaB<|fc zak iM
noncomputable def F78:ac:=bm [Q1 (.sl zg),Q2] (fk tK Tryz.f287 [Q1 (.sl zg),Q2])
theorem zgW:FK 287 F78:=ce _ mv (bS kw)
def dU(x0:Sem Q6):Sem Q7:=pS x0
theorem zjH:zL tK.P 208 Tryz.f208 1:=bS kw
theorem zmc(x0:Sem Q6):rn tK 0 (λ_=>{ }) Tryz.f208 [zH Q6 x0] []=Tr.ok (zE.ret (AV.bool (pS x0)) []):=kw
def F25:ac:=aF [Q6] [Q7] λx=>(dU x.1,())
theorem zge:FK 208 F25:=by
 refine af zjH λx C hC=>?_
 refine aU mv zjH (λid _=>hC id) (zmc x.1) ?_;simp only[Tr.val,dU];repeat' split
 all_goals rfl
def zT(x0:Sem zo)(x1:Sem Q6):Sem zg:=zW (λc=>c.1==x1) x0.2.1 0
theorem zjD:zL tK.P 140 Tryz.f140 2:=bS kw
theorem zl8(x0:Sem zo)(x1:Sem Q6):rn tK 0 (λ_=>{ }) Tryz.f140 [zH zo x0,zH Q6 x1] []=Tr.ok (zE.ret (ai (zW (λc=>c.1==x1) x0.2.1 0)) []):=kw
def F17:ac:=aF [zo,Q6] [zg] λx=>(zT x.1 x.2.1,())
theorem zf9:FK 140 F17:=by
 refine af zjD λx C hC=>?_
 refine aU mv zjD (λid _=>hC id) (zl8 x.1 x.2.1) ?_;simp only[Tr.val,zT];repeat' split
 all_goals rfl
def ah(x0:Sem zj.sl)(x1:Sem Q6):Sem zg:=zW (λc=>c.1==x1) x0 0
theorem zj2:zL tK.P 248 Tryz.f248 2:=bS kw
theorem zmv(x0:Sem zj.sl)(x1:Sem Q6):rn tK 0 (λ_=>{ }) Tryz.f248 [zH zj.sl x0,zH Q6 x1] []=Tr.ok (zE.ret (ai (zW (λc=>c.1==x1) x0 0)) []):=kw
def F48:ac:=aF [zj.sl,Q6] [zg] λx=>(ah x.1 x.2.1,())
theorem zgx:FK 248 F48:=by
 refine af zj2 λx C hC=>?_
 refine aU mv zj2 (λid _=>hC id) (zmv x.1 x.2.1) ?_;simp only[Tr.val,ah];repeat' split
 all_goals rfl
noncomputable def En:=tK.addL [(287,F78),(208,F25),(140,F17),(248,F48)]
theorem vT:zy En:=mv.addL<|fc zgW<|fc zge<|fc zf9<|fc zgx iM
def mb(x0:Sem zg.sl)(x1:Sem zg):Sem Q7:=!Q0 (zW (λx=>bif x !=x1 then x !=0 else Q4) x0 0>=0)
theorem zkc:zL En.P 249 Tryz.f249 2:=bS kw
theorem zmH(x0:Sem zg.sl)(x1:Sem zg):rn En 0 (λ_=>{ }) Tryz.f249 [zH zg.sl x0,zH zg x1] []=Tr.ok (zE.ret (AV.bool !Q0 (zW (λx=>bif x !=x1 then x !=0 else Q4) x0 0>=0)) []):=kw
def F66:ac:=aF [zg.sl,zg] [Q7] λx=>(mb x.1 x.2.1,())
theorem zgO:FK 249 F66:=by
 refine af zkc λx C hC=>?_
 refine aU vT zkc (λid _=>hC id) (zmH x.1 x.2.1) ?_;simp only[Tr.val,mb];repeat' split
 all_goals rfl
def zO(x0:Sem Q6):Sem Q7:=bif dU x0 then !jg x0 else Q4
theorem zjC:zL En.P 168 Tryz.f168 1:=bS kw
theorem zl7(x0:Sem Q6):rn En 0 (λ_=>{ }) Tryz.f168 [zH Q6 x0] []=Tr.ok (zE.ret (AV.bool (bif dU x0 then !jg x0 else Q4)) []):=kw
def F16:ac:=aF [Q6] [Q7] λx=>(zO x.1,())
theorem zf8:FK 168 F16:=by
 refine af zjC λx C hC=>?_
 refine aU vT zjC (λid _=>hC id) (zl7 x.1) ?_;simp only[Tr.val,zO];repeat' split
 all_goals rfl
noncomputable def RM:=En.addL [(249,F66),(168,F16)]
theorem Eo:zy RM:=vT.addL<|fc zgO<|fc zf8 iM
end Cad
