/- The library's functions. Functions from plain data to plain data, where a guard holds; recursion. Values: what may be. Values: what they say. Loops; values in order. -/
import Derived.Test.YtkmcdhahdadkpaaGreatDoorF06
import Derived.Test.YtkmcdhahdadkpaaGreatDoorF07
import Derived.Test.YtkmcdhahdadkpaaGreatDoorF05
namespace Cad
open Go Go.Proofs Go.RowKit Go.Lib
open List renaming drop→Qh,take→Qg
open AV renaming agg→Qd
open AO renaming box→Qa
open Sh renaming bool→Q7,str→Q6
open Bool renaming false→Q4,true→Q3
open Option renaming none→Q2,some→Q1
open Decidable renaming decide→Q0
open Int (toNat)
open List (length)
open Tr (chk br)
open AV (nils agg tup ptr kb str sl)
theorem lz.below{w w':World}(h:Below w.heap.size w w'):lz w w':=
 ⟨h.size,h.os,h.output,h.tape,λa ha=>Ab (h.block a.block ha)⟩
theorem eB{E:bT}{C:eP}{w w':World}{U:Nat->Prop}{r:AV}{v:Value}{h0:List AO}{ρ:Nat->Option Value}(hH:jf C w U ρ (λj=>h0.getD j .dead))(hnew:∀id,h0.length<=id->ρ id=Q2)
  (hr0:∀id v,C.ρ0 id=Q1 v->ρ id=Q1 v) (hW:Wd E.gl C w U) (hb:Below w.heap.size w w') (hr:Rv w' U ρ r v):Pz E C (λr' h=>(r',h)=(r,h0)) (.returned v) w':=by
 have hk:∀b,b<w.heap.size->w'.heap[b]?=w.heap[b]?:=hb.block;refine⟨v,r,h0,U,ρ,rfl,rfl,hr,⟨λid=>?_,hH.inj,hH.blk⟩,hnew,hr0,⟨hW.ext.trans (lz.below hb),λb hb' hn=>?_,λb hu=>iz (hW.ub b hu) hb.size,hW.u1,hW.u2,λg=>?_⟩⟩
 ·exact(hH.ob id).mono hb.size (λb hb' _=>hk b hb') (λ_ _ h=>h) (λ_ _ h=>h) (λb ho=>⟨hk b ((hH.ob id).inU ho).2,((hH.ob id).inU ho).1⟩)
 ·rw[hk b (iz hb' hW.ext.sz)];exact hW.same b hb' hn
 ·exact(hW.gl g).mono hb.size (λb hb' _=>hk b hb') (λ_ _ h=>h) (λ_ _ h=>h)
noncomputable def zaW:bT:=Oa.aut 63 Tryz.f63 1
theorem zhF:zI Oa.P 63 Tryz.f63 1:=bQ kw
theorem QH:zw zaW:=gZ H7 zhF
def Bn(c:Int):Bool:=bif Q0 (c<32)then Q3 else Q0 (c>126)
theorem zj3(c:Int):((bh (List.replicate 1 Q2) (fL Oa Tryz.f63 (List.replicate 1 Q2))) [.int .i32 c] (λ_=>.dead) 0).val=Q1 {val:=.bool (Bn c)}:=kw
theorem zcl(w:World)(U:Nat->Prop)(hgl:CT Oa.gl w U)(hub:∀b,U b->b<w.heap.size):PredGrows Tryz.prog 63 #[] (λr=>Bn r) w:=by
 intro W x hx hB;have hF:FK 63 (bh (List.replicate 1 Q2) (fL Oa Tryz.f63 (List.replicate 1 Q2))):=cr _ H7 zhF;have hr:di W U (λ_=>Q2) [.int .i32 (x:Int)] [.int .i32 (x:Int)]:=by
  refine⟨rfl,λj c v hc hv=>?_⟩;cases j with
  | zero=>
   simp at hc hv;subst hc;subst hv;refine .int _ _ ⟨?_,?_⟩
   ·show(-2147483648:Int)<=x;omega
   ·show(x:Int)<=2147483647;omega
  |succ j=>simp at hc
 have:=(hF.calls W U (λ_=>Q2) (λ_=>.dead) 0 [.int .i32 (x:Int)] [.int .i32 (x:Int)] _ [] (zj3 x) hr (λb hb=>iz (hub b hb) hB.size) (λg=>(hgl g).mono hB.size (λb hb _=>hB.block b hb) (λ_ _ h=>h) (λ_ _ h=>h)) ⟨sw,sw⟩ (by simp[AV.idsL,AV.ids]) sw sw).1;refine this.mono ?_;rintro e w' ⟨v,U',ρ',rfl,hef⟩;have hv:=hef.val;cases hv;exact⟨rfl,⟨hef.ext.os,hef.ext.tape,hef.ext.out,hef.ext.sz,λb hb=>hef.same b hb sw⟩⟩
def oT(s:zA):Int:=Lib.idxFunc (λr=>Bn r) Q3 ⟨s.toArray⟩
def G36:iv [Q1 .str,Q2]:=λx h=>match x,h with
 |(s,.clo (.func 63) [] [],_),[]=>.ok (.int .i64 (oT s),[])
 |_,_=>.err
theorem zjJ:Go.Proofs.Enters Tryz.prog 63:=by
  cases hb:Tryz.f63.body with
  | none => have:Tryz.f63.body.isNone=false:=by kernel_rfl
            rw[hb]at this;cases this
  |some c=>exact Go.Proofs.enters_of (fn:=Tryz.f63) kw kw hb
theorem zeq:FK 64 (bh [Q1 .str,Q2] G36):=by
 refine fA (E:=zaW) ⟨Tryz.f64,kw,kw,kw⟩ λx h0 res hx=>?_
 unfold G36 at hx;split at hx
 ·rename_i s u;simp only[Tr.val_ok,bw]at hx;subst hx;intro C w U ρ vals _ hr hH hnew hr0 hW;have hl:=hr.len
  match vals,hl,hr with
  | [v1,v2],_,hr=>
   have h1:=hr.rv 0 (.str s) v1 rfl rfl;have h2:=hr.rv 1 (.clo (.func 63) [] []) v2 rfl rfl;cases h1 with
   |str _ hs=>
   cases h2 with
   |clo _ _ _ vf vc hf hc _ _=>
   have hf':vf=[]:=xE hf.symm;have hc':vc=[]:=xE hc.symm;subst hf';subst hc';have:=Tryz.strings_IndexFunc_grows 63 #[] zjJ (λr=>Bn r) ⟨s.toArray⟩ w (zcl w U hW.gl hW.ub);refine this.mono ?_;rintro e w' ⟨rfl,hb⟩;refine eB hH hnew hr0 hW hb (.int _ _ ?_);have hrg:=Lib.idxFunc_range (λr=>Bn r) Q3 ⟨s.toArray⟩;have hsz:(⟨s.toArray⟩:ByteArray).size=s.length:=by simp[ByteArray.size]
   have hm:aE=9223372036854775807:=rfl;rw[hsz]at hrg;change oT s=-1\/(0<=oT s/\oT s<s.length)at hrg;refine⟨?_,?_⟩
   ·show(-9223372036854775808:Int)<=_;omega
   ·show _<=(9223372036854775807:Int);omega
 ·simp at hx
noncomputable def td:bT:=zaW.add 64 (bh [Q1 .str,Q2] G36)
theorem jU:zw td:=QH.add zeq
open Go
def fb(ks outs:List Sh)(c:zy (ks.map Q1)->Bool)(g:zy (ks.map Q1)->zy (outs.map Q1)):iv (ks.map Q1):=λx h=>match h with
 |[]=>.chk (c x) (.ok (xv outs (g x),[]))
 |_=>.err
def zO(ks outs:List Sh)(c:zy (ks.map Q1)->Bool)(g:zy (ks.map Q1)->zy (outs.map Q1)):zX:=bh (ks.map Q1) (fb ks outs c g)
theorem aI{P:Program}{gl:Nat->AV}{E:bT}{k:FuncId}{f:Func}{ks outs:List Sh}{c:zy (ks.map Q1)->Bool}{g:zy (ks.map Q1)->zy (outs.map Q1)}(hf:zI E.P k f ks.length)
  (h:∀x,c x=Q3->∀C:eP,(∀id,C.ρ0 id=Q2)->Reach E C k (bq f) (bc f.ntmps (iX (ks.map Q1) x) []) (λr h=>aL h outs r=Q1 (g x))) (qp:E.P=P:=by rfl) (qg:E.gl=gl:=by rfl):nO P gl k (zO ks outs c g):=by
 subst qp qg;refine dI (by simpa using hf) λx h0 res hx C hC=>?_
 unfold fb at hx;split at hx
 ·simp only[Tr.val]at hx;split at hx
  ·rename_i hc;simp only[bw]at hx;subst hx;exact Reach.plain (λid=>hC id (by simp)) (h x hc C (λid=>hC id (by simp)))
  ·simp at hx
 ·simp at hx
theorem xO{P:Program}{gl:Nat->AV}{k:FuncId}{kinds:List (Option Sh)}{ι:Type}[Nonempty ι]{G:iv kinds}{Gs:ι->iv kinds}(h:∀i,nO P gl k (bh kinds (Gs i)))
  (hg:∀x h0 res,(G x h0).val=Q1 res->∃i,(Gs i x h0).val=Q1 res):nO P gl k (bh kinds G):=by
 refine⟨(h (Classical.choice inferInstance)).fn,?_⟩;intro w U ρ hp n args vals f fp hv;have:∃i,(bh kinds (Gs i) args hp n).val=Q1 f:=by
  unfold bh at hv⊢;split at hv
  ·rename_i ps hps;simp only at hv⊢;split at hv
   ·rename_i hcond;split at hv
    ·rename_i xs hxs;simp only[Tr.val_bind,fJ]at hv;obtain⟨res,h1,h2⟩:=hv;obtain⟨i,hi⟩:=hg _ _ _ h1;exact⟨i,by simp only[hcond,if_true,Tr.val_bind,fJ];exact⟨res,hi,h2⟩⟩
    ·simp at hv
   ·simp at hv
  ·simp at hv
 obtain⟨i,hi⟩:=this;exact(h i).calls w U ρ hp n args vals f fp hi
def MT(ks outs:List Sh)(g:zy (ks.map Q1)->zy (outs.map Q1)):iv (ks.map Q1):=λx h=>match h with
 |[]=>.ok (xv outs (g x),[])
 |_=>.err
def aC(ks outs:List Sh)(g:zy (ks.map Q1)->zy (outs.map Q1)):zX:=bh (ks.map Q1) (MT ks outs g)
theorem LR{P:Program}{gl:Nat->AV}{k:FuncId}{ks outs:List Sh}{g:zy (ks.map Q1)->zy (outs.map Q1)}(h:nO P gl k (zO ks outs (λ_=>Q3) g)):nO P gl k (aC ks outs g):=by
 refine xO (ι:=Unit) (Gs:=λ_=>fb ks outs (λ_=>Q3) g) (λ_=>h) λx h0 res hv=>⟨(),?_⟩
 unfold MT at hv;unfold fb;split at hv
 ·simpa[Tr.val]using hv
 ·simp at hv
theorem zW{P:Program}{gl:Nat->AV}{E:bT}{k:FuncId}{f:Func}{ks outs:List Sh}{g:zy (ks.map Q1)->zy (outs.map Q1)}(hf:zI E.P k f ks.length)
  (h:∀x,∀C:eP,(∀id,C.ρ0 id=Q2)->Reach E C k (bq f) (bc f.ntmps (iX (ks.map Q1) x) []) (λr h=>aL h outs r=Q1 (g x))) (qp:E.P=P:=by rfl) (qg:E.gl=gl:=by rfl):nO P gl k (aC ks outs g):=by
 subst qp qg;exact LR (aI hf λx _ C hC=>h x C hC)
def Ms(outs:List Sh):zB->Option (zy (outs.map Q1))
 |.ret v h=>aL h outs v
 |_=>Q2
theorem Tr.sat_of_res{E:bT}{C:eP}{fn:FuncId}{outs:List Sh}{y:zy (outs.map Q1)}{t:Tr zB}(h:t.val.bind (Ms outs)=Q1 y):t.Sat (ju E C fn (λr h=>aL h outs r=Q1 y)):=by
 rw[fJ]at h;obtain⟨l,h1,h2⟩:=h;refine Tr.sat_of_val h1 ?_;cases l with
 |ret v h=>exact h2
 |head _ _ _=>cases h2
 |fork _ _ _ _=>cases h2
theorem aQ{E:bT}{C:eP}{k:FuncId}{f:Func}{outs:List Sh}{y:zy (outs.map Q1)}{n n0:Nat}(hE:zw E)(hf:zI E.P k f n)(hC:∀id,n0<=id->C.ρ0 id=Q2){keep:Nat->aM}{fuel:Nat}
  {todo:List Item} {st:St} {t:Tr zB} (ht:run E n0 keep f.results.toList fuel todo st=t) (h:t.val.bind (Ms outs)=Q1 y):Reach E C k todo st (λr h=>aL h outs r=Q1 y):=by
 refine dl hE hf hC keep fuel ?_;rw[ht];exact Tr.sat_of_res h
theorem ze.eta:∀e:ze,ze.mk e.op e.v e.s e.l=e
 |.mk _ _ _ _=>rfl
structure Ht (E E0:bT):Prop where
 p:E.P=E0.P
 g:E.gl=E0.gl
theorem Ht.refl(E:bT):Ht E E:=⟨rfl,rfl⟩
theorem Ht.add{E E0:bT}(h:Ht E E0)(k:FuncId)(F:zX):Ht (E.add k F) E0:=⟨h.p,h.g⟩
abbrev zm(e:ze):ze:=.mk e.op e.v e.s e.l
theorem zl(e:ze):zm e=e:=ze.eta e
open Go Go.Proofs
abbrev TS:=Sem Q6
abbrev LX:=List (Sem Sh.expr)
abbrev LC:=List (Sem zj)
abbrev LS:=List (Sem Q6)
abbrev LV:=List (Sem zf)
abbrev LI:=List (Sem zg)
abbrev LF:=List (Sem zr)
abbrev V:=Sem zf
def bd(x0:Sem zf):Sem Q7:=if(x0.1==0)=Q3 then if(x0.2.1!=0)=Q3 then Q4 else x0.2.2==[]else if(x0.1==1)=Q3 then x0.2.2==[]else if(x0.1==2)=Q3 then bif x0.2.1==0 then bif Q0 ((↑(length x0.2.2):Int)<=40)then Q0 (oT x0.2.2<0)else Q4 else Q4 else if(x0.1==3)=Q3 then bif x0.2.1==0 then x0.2.2==[]else bif x0.2.1==1 then x0.2.2==[]else Q4 else Q4
theorem zhv:zI td.P 34 Tryz.f34 1:=bQ kw
theorem zjT(x0:Sem zf):rn td 0 (λ_=>{ }) Tryz.f34 [zC zf x0] []=br (x0.1==0) (br (x0.2.1!=0) (Tr.ok (zB.ret (kb Q4) [])) (Tr.ok (zB.ret (AV.bool (x0.2.2==[])) []))) (br (x0.1==1) (Tr.ok (zB.ret (AV.bool (x0.2.2==[])) [])) (br (x0.1==2) (Tr.ok (zB.ret (AV.bool (bif x0.2.1==0 then bif Q0 ((↑(length x0.2.2):Int)<=40)then Q0 (oT x0.2.2<0)else Q4 else Q4)) [])) (br (x0.1==3) (Tr.ok (zB.ret (AV.bool (bif x0.2.1==0 then x0.2.2==[]else bif x0.2.1==1 then x0.2.2==[]else Q4)) [])) (Tr.ok (zB.ret (kb Q4) []))))):=kw
def F21:zX:=aC [zf] [Q7] λx=>(bd x.1,())
theorem zeg:FK 34 F21:=by
 refine zW zhv λx C hC=>?_
 refine aQ jU zhv (λid _=>hC id) (zjT x.1) ?_;simp only[Tr.val,bd];repeat' split
 all_goals rfl
def aP(x0:Sem zg):Sem zf:=if(x0==0)=Q3 then(0,0,[])else(3,IntKind.i64.wrap (x0-1),[])
theorem zhY:zI td.P 333 Tryz.f333 1:=bQ kw
theorem zkm(x0:Sem zg):rn td 0 (λ_=>{ }) Tryz.f333 [zC zg x0] []=br (x0==0) (Tr.ok (zB.ret (Qd [ai 0,ai 0,str []]) [])) (Tr.ok (zB.ret (Qd [ai 3,ai (IntKind.i64.wrap (x0-1)),str []]) [])):=kw
def F57:zX:=aC [zg] [zf] λx=>(aP x.1,())
theorem zeL:FK 333 F57:=by
 refine zW zhY λx C hC=>?_
 refine aQ jU zhY (λid _=>hC id) (zkm x.1) ?_;simp only[Tr.val,aP];repeat' split
 all_goals rfl
noncomputable def zcI:zX:=bh (List.replicate 1 Q2) (fL td Tryz.f165 (List.replicate 1 Q2))
theorem YY:FK 165 zcI:=cr _ jU (bQ kw)
noncomputable def zcJ:zX:=bh (List.replicate 1 Q2) (fL td Tryz.f166 (List.replicate 1 Q2))
theorem YZ:FK 166 zcJ:=cr _ jU (bQ kw)
noncomputable def zcK:zX:=bh (List.replicate 1 Q2) (fL td Tryz.f167 (List.replicate 1 Q2))
theorem Y0:FK 167 zcK:=cr _ jU (bQ kw)
noncomputable def kX:=td.addL [(34,F21),(333,F57),(165,zcI),(166,zcJ),(167,zcK)]
theorem iI:zw kX:=jU.addL<|fc zeg<|fc zeL<|fc YY<|fc YZ<|fc Y0 jj
def ap(x0:Sem zf):Sem zf:=if(!bd x0)=Q3 then(0,0,[])else x0
theorem zh2:zI kX.P 107 Tryz.f107 1:=bQ kw
theorem zkq(x0:Sem zf):rn kX 0 (λ_=>{ }) Tryz.f107 [zC zf x0] []=br (!bd x0) (Tr.ok (zB.ret (Qd [ai 0,ai 0,str []]) [])) (Tr.ok (zB.ret (Qd [ai x0.1,ai x0.2.1,str x0.2.2]) [])):=kw
def F61:zX:=aC [zf] [zf] λx=>(ap x.1,())
theorem zeQ:FK 107 F61:=by
 refine zW zh2 λx C hC=>?_
 refine aQ iI zh2 (λid _=>hC id) (zkq x.1) ?_;simp only[Tr.val,ap];repeat' split
 all_goals rfl
def dP(x0:Sem zf):Sem zg:=if(bif x0.1!=3 then Q3 else !bd x0)=Q3 then 0 else IntKind.i64.wrap (1+x0.2.1)
theorem zhX:zI kX.P 277 Tryz.f277 1:=bQ kw
theorem zkl(x0:Sem zf):rn kX 0 (λ_=>{ }) Tryz.f277 [zC zf x0] []=br (bif x0.1!=3 then Q3 else !bd x0) (Tr.ok (zB.ret (ai 0) [])) (Tr.ok (zB.ret (ai (IntKind.i64.wrap (1+x0.2.1))) [])):=kw
def F56:zX:=aC [zf] [zg] λx=>(dP x.1,())
theorem zeK:FK 277 F56:=by
 refine zW zhX λx C hC=>?_
 refine aQ iI zhX (λid _=>hC id) (zkl x.1) ?_;simp only[Tr.val,dP];repeat' split
 all_goals rfl
def dd(x0:Sem Q7):Sem zf:=if x0=Q3 then aP 2 else aP 1
theorem zh0:zI kX.P 335 Tryz.f335 1:=bQ kw
theorem zko(x0:Sem Q7):rn kX 0 (λ_=>{ }) Tryz.f335 [zC Q7 x0] []=br x0 (Tr.ok (zB.ret (Qd [ai (aP 2).1,ai (aP 2).2.1,str (aP 2).2.2]) [])) (Tr.ok (zB.ret (Qd [ai (aP 1).1,ai (aP 1).2.1,str (aP 1).2.2]) [])):=kw
def F59:zX:=aC [Q7] [zf] λx=>(dd x.1,())
theorem zeN:FK 335 F59:=by
 refine zW zh0 λx C hC=>?_
 refine aQ iI zh0 (λid _=>hC id) (zko x.1) ?_;simp only[Tr.val,dd];repeat' split
 all_goals rfl
def rL(x0:Sem zg)(x1:Sem zg):Sem zg:=if(x0 !=x0)=Q3 then if(x1 !=x1)=Q3 then 0 else -1 else if(x1 !=x1)=Q3 then 1 else if Q0 (x0<x1)=Q3 then -1 else if Q0 (x0>x1)=Q3 then 1 else 0
theorem zh5:zI kX.P 109 Tryz.f109 2:=bQ kw
theorem zku(x0:Sem zg)(x1:Sem zg):rn kX 0 (λ_=>{ }) Tryz.f109 [zC zg x0,zC zg x1] []=br (x0 !=x0) (br (x1 !=x1) (Tr.ok (zB.ret (ai 0) [])) (Tr.ok (zB.ret (ai (-1)) []))) (br (x1 !=x1) (Tr.ok (zB.ret (ai 1) [])) (br (Q0 (x0<x1)) (Tr.ok (zB.ret (ai (-1)) [])) (br (Q0 (x0>x1)) (Tr.ok (zB.ret (ai 1) [])) (Tr.ok (zB.ret (ai 0) []))))):=kw
def F71:zX:=aC [zg,zg] [zg] λx=>(rL x.1 x.2.1,())
theorem zeY:FK 109 F71:=by
 refine zW zh5 λx C hC=>?_
 refine aQ iI zh5 (λid _=>hC id) (zku x.1 x.2.1) ?_;simp only[Tr.val,rL];repeat' split
 all_goals rfl
def kg(x0:Sem zg)(x1:Sem zg):Sem zg:=if(x0 !=x0)=Q3 then if(x1 !=x1)=Q3 then 0 else -1 else if(x1 !=x1)=Q3 then 1 else if Q0 (x0<x1)=Q3 then -1 else if Q0 (x0>x1)=Q3 then 1 else 0
theorem zh7:zI kX.P 110 Tryz.f110 2:=bQ kw
theorem zkv(x0:Sem zg)(x1:Sem zg):rn kX 0 (λ_=>{ }) Tryz.f110 [zC zg x0,zC zg x1] []=br (x0 !=x0) (br (x1 !=x1) (Tr.ok (zB.ret (ai 0) [])) (Tr.ok (zB.ret (ai (-1)) []))) (br (x1 !=x1) (Tr.ok (zB.ret (ai 1) [])) (br (Q0 (x0<x1)) (Tr.ok (zB.ret (ai (-1)) [])) (br (Q0 (x0>x1)) (Tr.ok (zB.ret (ai 1) [])) (Tr.ok (zB.ret (ai 0) []))))):=kw
def F72:zX:=aC [zg,zg] [zg] λx=>(kg x.1 x.2.1,())
theorem zeZ:FK 110 F72:=by
 refine zW zh7 λx C hC=>?_
 refine aQ iI zh7 (λid _=>hC id) (zkv x.1 x.2.1) ?_;simp only[Tr.val,kg];repeat' split
 all_goals rfl
def nS(x0:Sem Q6)(x1:Sem Q6):Sem zg:=if(!x0==x0)=Q3 then if(!x1==x1)=Q3 then 0 else -1 else if(!x1==x1)=Q3 then 1 else if Op.bytesLess x0 x1=Q3 then -1 else if(!(Op.bytesLess x0 x1||x0==x1))=Q3 then 1 else 0
theorem zh8:zI kX.P 111 Tryz.f111 2:=bQ kw
theorem zkw(x0:Sem Q6)(x1:Sem Q6):rn kX 0 (λ_=>{ }) Tryz.f111 [zC Q6 x0,zC Q6 x1] []=br (!x0==x0) (br (!x1==x1) (Tr.ok (zB.ret (ai 0) [])) (Tr.ok (zB.ret (ai (-1)) []))) (br (!x1==x1) (Tr.ok (zB.ret (ai 1) [])) (br (Op.bytesLess x0 x1) (Tr.ok (zB.ret (ai (-1)) [])) (br (!(Op.bytesLess x0 x1||x0==x1)) (Tr.ok (zB.ret (ai 1) [])) (Tr.ok (zB.ret (ai 0) []))))):=kw
def F73:zX:=aC [Q6,Q6] [zg] λx=>(nS x.1 x.2.1,())
theorem ze0:FK 111 F73:=by
 refine zW zh8 λx C hC=>?_
 refine aQ iI zh8 (λid _=>hC id) (zkw x.1 x.2.1) ?_;simp only[Tr.val,nS];repeat' split
 all_goals rfl
noncomputable def jH:=kX.addL [(107,F61),(277,F56),(335,F59),(109,F71),(110,F72),(111,F73)]
theorem eQ:zw jH:=iI.addL<|fc zeQ<|fc zeK<|fc zeN<|fc zeY<|fc zeZ<|fc ze0 jj
theorem B3{E:bT}{C:eP}{k:FuncId}{f:Func}{Q:AV->List AO->Prop}{n n0:Nat}(hE:zw E)(hf:zI E.P k f n)(hC:∀id,n0<=id->C.ρ0 id=Q2){keep:Nat->aM}{fuel:Nat}
  {todo:List Item} {st:St} {t:Tr zB} {l:zB} (ht:run E n0 keep f.results.toList fuel todo st=t) (h:t.val=Q1 l) (hl:ju E C k Q l):Reach E C k todo st Q:=
 dl hE hf hC keep fuel (by rw[ht];exact Tr.sat_of_val h hl)
def fW{α:Type}(Φ:α->Prop):Option α->Prop
 |some a=>Φ a
 |none=>False
theorem zD{E:bT}{C:eP}{k:FuncId}{f:Func}{Q:AV->List AO->Prop}{n n0:Nat}(hE:zw E)(hf:zI E.P k f n)(hC:∀id,n0<=id->C.ρ0 id=Q2){keep:Nat->aM}{fuel:Nat}
  {todo:List Item} {st:St} {t:Tr zB} (ht:run E n0 keep f.results.toList fuel todo st=t) (h:fW (ju E C k Q) t.val):Reach E C k todo st Q:=by
 cases hv:t.val with
 |none=>rw[hv]at h;exact h.elim
 |some l=>rw[hv]at h;exact B3 hE hf hC ht hv h
def Ih{α β R:Type}(f:β->Nat->α->β⊕R)(fin:β->R):List α->Nat->β->R
 |[],_,b=>fin b
 | x::r,i,b=>match f b i x with
  |.inl b'=>Ih f fin r (i+1) b'
  |.inr y=>y
def UQ{E:bT}{C:eP}{k:FuncId}{K:List Item}{β R:Type}(st:β->Nat->St)(Q:R->AV->List AO->Prop)(b:β)(i:Nat):β⊕R->Prop
 |.inl b'=>∀q,Reach E C k K (st b' (i+1)) q->Reach E C k K (st b i) q
 |.inr y=>Reach E C k K (st b i) (Q y)
theorem B4{E:bT}{C:eP}{k:FuncId}{K:List Item}{α β R:Type}(l:List α)(st:β->Nat->St)(f:β->Nat->α->β⊕R)(fin:β->R)(Q:R->AV->List AO->Prop)(I:β->Nat->Prop)
  (hstep:∀b i(hi:i<l.length),I b i->UQ (E:=E) (C:=C) (k:=k) (K:=K) st Q b i (f b i l[i])/\∀b',f b i l[i]=.inl b'->I b' (i+1))
  (hend:∀b,I b l.length->Reach E C k K (st b l.length) (Q (fin b))):∀(m i:Nat)(b:β),l.length-i=m->i<=l.length->I b i->Reach E C k K (st b i) (Q (Ih f fin (l.drop i) i b))
 | 0,i,b,hm,hi,hI=>by
  have:i=l.length:=by omega
  subst this;rw[jg];exact hend b hI
 | m+1,i,b,hm,hi,hI=>by
  have hlt:i<l.length:=by omega
  rw[fj hlt];obtain⟨h1,h2⟩:=hstep b i hlt hI;simp only[Ih];cases hf:f b i l[i]with
  | inl b'=>
   rw[hf]at h1;exact h1 _ (B4 l st f fin Q I hstep hend m (i+1) b' ow ow (h2 b' hf))
  | inr y=>
   rw[hf]at h1;exact h1
theorem zH{i n:Nat}(h:i<n):Q0 ((i:Int)<(n:Int))=Q3:=by simpa using h
theorem zz(n:Nat):Q0 ((n:Int)<(n:Int))=Q4:=by simp
theorem zu{i n:Nat}(h:i<n):zP (i:Int) n=Q3:=by simp[zP,h]
def FW:List Int->Int
 |[]=>0
 |x::r=>if x !=0 then x else FW r
abbrev zg6:Nat->aM:=λj=>if j=3 then{slots:=[3,6,7,8]}else{ }
abbrev Ni(i3:Int)(l6:List (Sem zg))(i7:Int)(i8:Int):St:={tmps:=(tm 18 [(3,ai i3),(6,sl (Sh.int IntKind.i64) l6),(7,ai i7),(8,ai i8)]),heap:=[]}
theorem Sv:zI jH.P 108 Tryz.f108 1:=bQ kw
theorem zkt(k:List (Sem zg)):rn jH 0 zg6 Tryz.f108 [sl zg k] []=Tr.ok (zB.head 3 (zZ Tryz.f108 3) (Ni 0 k (↑k.length) 0)):=kw
theorem KS(i3:Int)(l6:List (Sem zg))(i7:Int)(i8:Int):rh jH 0 zg6 Tryz.f108 3 (Ni i3 l6 i7 i8)=br (Q0 (i8<i7)) (chk (zP i8 l6.length) (br (l6.getD i8.toNat (zi (Sh.int IntKind.i64))!=i3) (Tr.ok (zB.ret (ai (l6.getD i8.toNat (zi (Sh.int IntKind.i64)))) [])) (Tr.ok (zB.head 3 (zZ Tryz.f108 3) (Ni i3 l6 i7 (IntKind.i64.wrap (i8+1))))))) (Tr.ok (zB.ret (ai i3) [])):=kw
def f70:Unit->Nat->Int->Unit⊕Int:=λ_ _ x=>if x !=0 then .inr x else .inl ()
theorem QR:∀(l:List Int)(i:Nat),Ih f70 (λ_=>0) l i ()=FW l
 |[],_=>rfl
 | x::r,i=>by
  simp only[Ih,f70,FW];split
  ·rename_i h;split at h<;>simp_all[QR r (i+1)]
  ·rename_i h;split at h<;>simp_all
def F70:zX:=aC [.sl zg] [zg] λx=>(FW x.1,())
theorem zeX:FK 108 F70:=by
 refine zW Sv λx C hC=>?_
 obtain⟨l,u⟩:=x;refine Reach.len 0 zg l rfl λhl=>?_
 refine B3 eQ Sv (λid _=>hC id) (zkt l) rfl ?_
 have:=B4 (E:=jH) (C:=C) (k:=108) (K:=zZ Tryz.f108 3) l (λ(_:Unit) i=>Ni 0 l l.length i) f70 (λ_=>(0:Int)) (λy r h=>aL h [zg] r=Q1 (y,())) (λ_ _=>True)
  (λb i hi _=>⟨by
   unfold f70;split
   ·rename_i h;refine zD eQ Sv (λid _=>hC id) (KS _ _ _ _) ?_;simp only[Tr.val,zH hi,zu hi,cw l _ hi,h,if_true];rfl
   ·rename_i h;intro q hq;refine zD eQ Sv (λid _=>hC id) (KS _ _ _ _) ?_;simp only[Tr.val,zH hi,zu hi,cw l _ hi,h,if_true,zq i ow];exact hq,λ_ _=>trivial⟩)
  (λb _=>by
   refine zD eQ Sv (λid _=>hC id) (KS _ _ _ _) ?_;simp only[Tr.val,zz];rfl) _ 0 () rfl ow trivial
 rw[QR]at this;exact this
def eI(x0:Sem zf)(x1:Sem zf):Sem Q7:=bif (ap x0).1!=0 then(ap x0).1==(ap x1).1 else Q4
theorem zhZ:zI jH.P 334 Tryz.f334 2:=bQ kw
theorem zkn(x0:Sem zf)(x1:Sem zf):rn jH 0 (λ_=>{ }) Tryz.f334 [zC zf x0,zC zf x1] []=Tr.ok (zB.ret (AV.bool (bif (ap x0).1!=0 then(ap x0).1==(ap x1).1 else Q4)) []):=kw
def F58:zX:=aC [zf,zf] [Q7] λx=>(eI x.1 x.2.1,())
theorem zeM:FK 334 F58:=by
 refine zW zhZ λx C hC=>?_
 refine aQ eQ zhZ (λid _=>hC id) (zkn x.1 x.2.1) ?_;simp only[Tr.val,eI];repeat' split
 all_goals rfl
def Df(x0:Sem zf)(x1:Sem zf):Sem zf:=if(bif dP x0==1 then Q3 else dP x1==1)=Q3 then aP 1 else if(bif dP x0==2 then dP x1==2 else Q4)=Q3 then aP 2 else aP 0
theorem zhI:zI jH.P 310 Tryz.f310 2:=bQ kw
theorem zj5(x0:Sem zf)(x1:Sem zf):rn jH 0 (λ_=>{ }) Tryz.f310 [zC zf x0,zC zf x1] []=br (bif dP x0==1 then Q3 else dP x1==1) (Tr.ok (zB.ret (Qd [ai (aP 1).1,ai (aP 1).2.1,str (aP 1).2.2]) [])) (br (bif dP x0==2 then dP x1==2 else Q4) (Tr.ok (zB.ret (Qd [ai (aP 2).1,ai (aP 2).2.1,str (aP 2).2.2]) [])) (Tr.ok (zB.ret (Qd [ai (aP 0).1,ai (aP 0).2.1,str (aP 0).2.2]) []))):=kw
def F38:zX:=aC [zf,zf] [zf] λx=>(Df x.1 x.2.1,())
theorem zes:FK 310 F38:=by
 refine zW zhI λx C hC=>?_
 refine aQ eQ zhI (λid _=>hC id) (zj5 x.1 x.2.1) ?_;simp only[Tr.val,Df];repeat' split
 all_goals rfl
def TR(x0:Sem zf)(x1:Sem zf):Sem zf:=if(bif dP x0==2 then Q3 else dP x1==2)=Q3 then aP 2 else if(bif dP x0==1 then dP x1==1 else Q4)=Q3 then aP 1 else aP 0
theorem zhJ:zI jH.P 311 Tryz.f311 2:=bQ kw
theorem zj6(x0:Sem zf)(x1:Sem zf):rn jH 0 (λ_=>{ }) Tryz.f311 [zC zf x0,zC zf x1] []=br (bif dP x0==2 then Q3 else dP x1==2) (Tr.ok (zB.ret (Qd [ai (aP 2).1,ai (aP 2).2.1,str (aP 2).2.2]) [])) (br (bif dP x0==1 then dP x1==1 else Q4) (Tr.ok (zB.ret (Qd [ai (aP 1).1,ai (aP 1).2.1,str (aP 1).2.2]) [])) (Tr.ok (zB.ret (Qd [ai (aP 0).1,ai (aP 0).2.1,str (aP 0).2.2]) []))):=kw
def F39:zX:=aC [zf,zf] [zf] λx=>(TR x.1 x.2.1,())
theorem zet:FK 311 F39:=by
 refine zW zhJ λx C hC=>?_
 refine aQ eQ zhJ (λid _=>hC id) (zj6 x.1 x.2.1) ?_;simp only[Tr.val,TR];repeat' split
 all_goals rfl
def xM(x0:Sem zf):Sem zf:=if(dP x0==2)=Q3 then aP 1 else if(dP x0==1)=Q3 then aP 2 else aP 0
theorem zhL:zI jH.P 313 Tryz.f313 1:=bQ kw
theorem zj8(x0:Sem zf):rn jH 0 (λ_=>{ }) Tryz.f313 [zC zf x0] []=br (dP x0==2) (Tr.ok (zB.ret (Qd [ai (aP 1).1,ai (aP 1).2.1,str (aP 1).2.2]) [])) (br (dP x0==1) (Tr.ok (zB.ret (Qd [ai (aP 2).1,ai (aP 2).2.1,str (aP 2).2.2]) [])) (Tr.ok (zB.ret (Qd [ai (aP 0).1,ai (aP 0).2.1,str (aP 0).2.2]) []))):=kw
def F41:zX:=aC [zf] [zf] λx=>(xM x.1,())
theorem zew:FK 313 F41:=by
 refine zW zhL λx C hC=>?_
 refine aQ eQ zhL (λid _=>hC id) (zj8 x.1) ?_;simp only[Tr.val,xM];repeat' split
 all_goals rfl
def je(x0:Sem zf):Sem zf:=dd ((ap x0).1==0)
theorem zhS:zI jH.P 319 Tryz.f319 1:=bQ kw
theorem zke(x0:Sem zf):rn jH 0 (λ_=>{ }) Tryz.f319 [zC zf x0] []=Tr.ok (zB.ret (Qd [ai (dd ((ap x0).1==0)).1,ai (dd ((ap x0).1==0)).2.1,str (dd ((ap x0).1==0)).2.2]) []):=kw
def F47:zX:=aC [zf] [zf] λx=>(je x.1,())
theorem zeC:FK 319 F47:=by
 refine zW zhS λx C hC=>?_
 refine aQ eQ zhS (λid _=>hC id) (zke x.1) ?_;simp only[Tr.val,je];repeat' split
 all_goals rfl
noncomputable def kY:=jH.addL [(108,F70),(334,F58),(310,F38),(311,F39),(313,F41),(319,F47)]
theorem iJ:zw kY:=eQ.addL<|fc zeX<|fc zeM<|fc zes<|fc zet<|fc zew<|fc zeC jj
def cJ(x0:Sem zf)(x1:Sem zf):Sem zg:=FW [rL (ap x0).1 (ap x1).1,kg (ap x0).2.1 (ap x1).2.1,nS (ap x0).2.2 (ap x1).2.2]
theorem zh1:zI kY.P 62 Tryz.f62 2:=bQ kw
theorem zkp(x0:Sem zf)(x1:Sem zf):rn kY 0 (λ_=>{ }) Tryz.f62 [zC zf x0,zC zf x1] []=Tr.ok (zB.ret (AV.int IntKind.i64 (FW [rL (ap x0).1 (ap x1).1,kg (ap x0).2.1 (ap x1).2.1,nS (ap x0).2.2 (ap x1).2.2])) []):=kw
def F60:zX:=aC [zf,zf] [zg] λx=>(cJ x.1 x.2.1,())
theorem zeP:FK 62 F60:=by
 refine zW zh1 λx C hC=>?_
 refine aQ iJ zh1 (λid _=>hC id) (zkp x.1 x.2.1) ?_;simp only[Tr.val,cJ];repeat' split
 all_goals rfl
def lL(x0:Sem zf)(x1:Sem zf):Sem zf:=if(!eI x0 x1)=Q3 then(0,0,[])else dd (x0.1==x1.1&&(x0.2.1==x1.2.1&&(x0.2.2==x1.2.2&&Q3)))
theorem zhM:zI kY.P 314 Tryz.f314 2:=bQ kw
theorem zj9(x0:Sem zf)(x1:Sem zf):rn kY 0 (λ_=>{ }) Tryz.f314 [zC zf x0,zC zf x1] []=br (!eI x0 x1) (Tr.ok (zB.ret (Qd [ai 0,ai 0,str []]) [])) (Tr.ok (zB.ret (Qd [ai (dd (x0.1==x1.1&&(x0.2.1==x1.2.1&&(x0.2.2==x1.2.2&&Q3)))).1,ai (dd (x0.1==x1.1&&(x0.2.1==x1.2.1&&(x0.2.2==x1.2.2&&Q3)))).2.1,str (dd (x0.1==x1.1&&(x0.2.1==x1.2.1&&(x0.2.2==x1.2.2&&Q3)))).2.2]) [])):=kw
def F42:zX:=aC [zf,zf] [zf] λx=>(lL x.1 x.2.1,())
theorem zex:FK 314 F42:=by
 refine zW zhM λx C hC=>?_
 refine aQ iJ zhM (λid _=>hC id) (zj9 x.1 x.2.1) ?_;simp only[Tr.val,lL];repeat' split
 all_goals rfl
def rz(x0:Sem zf)(x1:Sem zf):Sem zf:=if(bif !eI x0 x1 then Q3 else x0.1!=1)=Q3 then(0,0,[])else if(bif Q0 (x1.2.1>0)then bif Q0 (IntKind.i64.wrap (x0.2.1+x1.2.1)<x0.2.1)then Q3 else bif Q0 (x1.2.1<0)then Q0 (IntKind.i64.wrap (x0.2.1+x1.2.1)>x0.2.1)else Q4 else bif Q0 (x1.2.1<0)then Q0 (IntKind.i64.wrap (x0.2.1+x1.2.1)>x0.2.1)else Q4)=Q3 then(0,0,[])else(1,IntKind.i64.wrap (x0.2.1+x1.2.1),[])
theorem zhP:zI kY.P 316 Tryz.f316 2:=bQ kw
theorem zkb(x0:Sem zf)(x1:Sem zf):rn kY 0 (λ_=>{ }) Tryz.f316 [zC zf x0,zC zf x1] []=br (bif !eI x0 x1 then Q3 else x0.1!=1) (Tr.ok (zB.ret (Qd [ai 0,ai 0,str []]) [])) (br (bif Q0 (x1.2.1>0)then bif Q0 (IntKind.i64.wrap (x0.2.1+x1.2.1)<x0.2.1)then Q3 else bif Q0 (x1.2.1<0)then Q0 (IntKind.i64.wrap (x0.2.1+x1.2.1)>x0.2.1)else Q4 else bif Q0 (x1.2.1<0)then Q0 (IntKind.i64.wrap (x0.2.1+x1.2.1)>x0.2.1)else Q4) (Tr.ok (zB.ret (Qd [ai 0,ai 0,str []]) [])) (Tr.ok (zB.ret (Qd [ai 1,ai (IntKind.i64.wrap (x0.2.1+x1.2.1)),str []]) []))):=kw
def F44:zX:=aC [zf,zf] [zf] λx=>(rz x.1 x.2.1,())
theorem zez:FK 316 F44:=by
 refine zW zhP λx C hC=>?_
 refine aQ iJ zhP (λid _=>hC id) (zkb x.1 x.2.1) ?_;simp only[Tr.val,rz];repeat' split
 all_goals rfl
def lM(x0:Sem zf)(x1:Sem zf):Sem zf:=if(bif !eI x0 x1 then Q3 else x0.1!=1)=Q3 then(0,0,[])else if(bif Q0 (x1.2.1>0)then bif Q0 (IntKind.i64.wrap (x0.2.1-x1.2.1)>x0.2.1)then Q3 else bif Q0 (x1.2.1<0)then Q0 (IntKind.i64.wrap (x0.2.1-x1.2.1)<x0.2.1)else Q4 else bif Q0 (x1.2.1<0)then Q0 (IntKind.i64.wrap (x0.2.1-x1.2.1)<x0.2.1)else Q4)=Q3 then(0,0,[])else(1,IntKind.i64.wrap (x0.2.1-x1.2.1),[])
theorem zhQ:zI kY.P 317 Tryz.f317 2:=bQ kw
theorem zkc(x0:Sem zf)(x1:Sem zf):rn kY 0 (λ_=>{ }) Tryz.f317 [zC zf x0,zC zf x1] []=br (bif !eI x0 x1 then Q3 else x0.1!=1) (Tr.ok (zB.ret (Qd [ai 0,ai 0,str []]) [])) (br (bif Q0 (x1.2.1>0)then bif Q0 (IntKind.i64.wrap (x0.2.1-x1.2.1)>x0.2.1)then Q3 else bif Q0 (x1.2.1<0)then Q0 (IntKind.i64.wrap (x0.2.1-x1.2.1)<x0.2.1)else Q4 else bif Q0 (x1.2.1<0)then Q0 (IntKind.i64.wrap (x0.2.1-x1.2.1)<x0.2.1)else Q4) (Tr.ok (zB.ret (Qd [ai 0,ai 0,str []]) [])) (Tr.ok (zB.ret (Qd [ai 1,ai (IntKind.i64.wrap (x0.2.1-x1.2.1)),str []]) []))):=kw
def F45:zX:=aC [zf,zf] [zf] λx=>(lM x.1 x.2.1,())
theorem zeA:FK 317 F45:=by
 refine zW zhQ λx C hC=>?_
 refine aQ iJ zhQ (λid _=>hC id) (zkc x.1 x.2.1) ?_;simp only[Tr.val,lM];repeat' split
 all_goals rfl
def Nr(x0:Sem zf)(_:Sem zf):Sem zf:=xM x0
theorem zhK:zI kY.P 312 Tryz.f312 2:=bQ kw
theorem zj7(x0:Sem zf)(x1:Sem zf):rn kY 0 (λ_=>{ }) Tryz.f312 [zC zf x0,zC zf x1] []=Tr.ok (zB.ret (Qd [ai (xM x0).1,ai (xM x0).2.1,str (xM x0).2.2]) []):=kw
def F40:zX:=aC [zf,zf] [zf] λx=>(Nr x.1 x.2.1,())
theorem zev:FK 312 F40:=by
 refine zW zhK λx C hC=>?_
 refine aQ iJ zhK (λid _=>hC id) (zj7 x.1 x.2.1) ?_;simp only[Tr.val,Nr];repeat' split
 all_goals rfl
def Hd(x0:Sem zf)(_:Sem zf):Sem zf:=je x0
theorem zhR:zI kY.P 318 Tryz.f318 2:=bQ kw
theorem zkd(x0:Sem zf)(x1:Sem zf):rn kY 0 (λ_=>{ }) Tryz.f318 [zC zf x0,zC zf x1] []=Tr.ok (zB.ret (Qd [ai (je x0).1,ai (je x0).2.1,str (je x0).2.2]) []):=kw
def F46:zX:=aC [zf,zf] [zf] λx=>(Hd x.1 x.2.1,())
theorem zeB:FK 318 F46:=by
 refine zW zhR λx C hC=>?_
 refine aQ iJ zhR (λid _=>hC id) (zkd x.1 x.2.1) ?_;simp only[Tr.val,Hd];repeat' split
 all_goals rfl
noncomputable def qX:=kY.addL [(62,F60),(314,F42),(316,F44),(317,F45),(312,F40),(318,F46)]
theorem jV:zw qX:=iJ.addL<|fc zeP<|fc zex<|fc zez<|fc zeA<|fc zev<|fc zeB jj
def ry(x0:Sem zf)(x1:Sem zf):Sem zf:=if(!eI x0 x1)=Q3 then(0,0,[])else dd (Q0 (cJ x0 x1<0))
theorem zhO:zI qX.P 315 Tryz.f315 2:=bQ kw
theorem zka(x0:Sem zf)(x1:Sem zf):rn qX 0 (λ_=>{ }) Tryz.f315 [zC zf x0,zC zf x1] []=br (!eI x0 x1) (Tr.ok (zB.ret (Qd [ai 0,ai 0,str []]) [])) (Tr.ok (zB.ret (Qd [ai (dd (Q0 (cJ x0 x1<0))).1,ai (dd (Q0 (cJ x0 x1<0))).2.1,str (dd (Q0 (cJ x0 x1<0))).2.2]) [])):=kw
def F43:zX:=aC [zf,zf] [zf] λx=>(ry x.1 x.2.1,())
theorem zey:FK 315 F43:=by
 refine zW zhO λx C hC=>?_
 refine aQ jV zhO (λid _=>hC id) (zka x.1 x.2.1) ?_;simp only[Tr.val,ry];repeat' split
 all_goals rfl
def nz(x0:Sem zf):Sem zf:=if Q0 ((↑(length x0.2.2):Int)>60)=Q3 then(x0.1,x0.2.1,Qg (toNat 60-toNat 0) (Qh (toNat 0) x0.2.2))else x0
def JJ(x0:Sem zf):Bool:=bif Q0 ((↑(length x0.2.2):Int)>60)then Q0 (0<=0)&&Q0 (0<=60)&&Q0 (60<=(↑(length x0.2.2):Int))else Q3
theorem zhs:zI qX.P 8 Tryz.f8 1:=bQ kw
theorem zjQ(x0:Sem zf):rn qX 0 (λ_=>{ }) Tryz.f8 [zC zf x0] []=br (Q0 ((↑(length x0.2.2):Int)>60)) (chk (Q0 (0<=0)&&Q0 (0<=60)&&Q0 (60<=(↑(length x0.2.2):Int))) (Tr.ok (zB.ret (Qd [ai x0.1,ai x0.2.1,str (Qg (toNat 60-toNat 0) (Qh (toNat 0) x0.2.2))]) []))) (Tr.ok (zB.ret (Qd [ai x0.1,ai x0.2.1,str x0.2.2]) [])):=kw
def F14:zX:=zO [zf] [zf] (λx=>JJ x.1) λx=>(nz x.1,())
theorem XA:FK 8 F14:=by
 refine aI zhs λx hx C hC=>?_
 refine aQ jV zhs (λid _=>hC id) (zjQ x.1) ?_;simp only[JJ,Bool.cond_eq_ite]at hx;simp only[Tr.val,nz];repeat' split
 all_goals first|rfl|simp_all
def iT(x0:Sem Q6):Sem Q6:=if Q0 ((↑(length x0):Int)>20)=Q3 then Qg (toNat 20-toNat 0) (Qh (toNat 0) x0)else x0
def Nj(x0:Sem Q6):Bool:=bif Q0 ((↑(length x0):Int)>20)then Q0 (0<=0)&&Q0 (0<=20)&&Q0 (20<=(↑(length x0):Int))else Q3
theorem zhr:zI qX.P 114 Tryz.f114 1:=bQ kw
theorem zjP(x0:Sem Q6):rn qX 0 (λ_=>{ }) Tryz.f114 [zC Q6 x0] []=br (Q0 ((↑(length x0):Int)>20)) (chk (Q0 (0<=0)&&Q0 (0<=20)&&Q0 (20<=(↑(length x0):Int))) (Tr.ok (zB.ret (str (Qg (toNat 20-toNat 0) (Qh (toNat 0) x0))) []))) (Tr.ok (zB.ret (str x0) [])):=kw
def F12:zX:=zO [Q6] [Q6] (λx=>Nj x.1) λx=>(iT x.1,())
theorem Xz:FK 114 F12:=by
 refine aI zhr λx hx C hC=>?_
 refine aQ jV zhr (λid _=>hC id) (zjP x.1) ?_;simp only[Nj,Bool.cond_eq_ite]at hx;simp only[Tr.val,iT];repeat' split
 all_goals first|rfl|simp_all
noncomputable def F79:zX:=bh (List.replicate 2 Q2) (fL qX Tryz.f288 (List.replicate 2 Q2))
theorem ze2:FK 288 F79:=cr _ jV (bQ kw)
noncomputable def F18:zX:=bh (List.replicate 2 Q2) (fL qX Tryz.f169 (List.replicate 2 Q2))
theorem zef:FK 169 F18:=cr _ jV (bQ kw)
noncomputable def XL:=qX.addL [(315,F43),(8,F14),(114,F12),(288,F79),(169,F18)]
theorem vn:zw XL:=jV.addL<|fc zey<|fc XA<|fc Xz<|fc ze2<|fc zef jj
def sA:(ks:List Sh)->zy (ks.map Q1++[Q2])->zy (ks.map Q1)×AV
 |[],x=>((),x.1)
 |_::ks,x=>((x.1,(sA ks x.2).1),(sA ks x.2).2)
theorem Aj:∀(ks:List Sh)(x:zy (ks.map Q1++[Q2])),iX (ks.map Q1++[Q2]) x=iX (ks.map Q1) (sA ks x).1++[(sA ks x).2]
 |[],_=>rfl
 |s::ks,x=>congrArg (zC s x.1::·) (Aj ks x.2)
def Rr(k:Nat):AV->Bool
 |.clo (.func j) [] []=>j==k
 |_=>Q4
theorem Rs{k:Nat}{v:AV}(h:Rr k v=Q3):v=.clo (.func k) [] []:=by
 unfold Rr at h;split at h
 ·rw[aX]at h;rw[h]
 ·cases h
abbrev Pi(ks outs:List Sh):=Nat×(zy (ks.map Q1)->Bool)×(zy (ks.map Q1)->zy (outs.map Q1))
def UV{ks outs:List Sh}(v:AV):List (Pi ks outs)->Option ((zy (ks.map Q1)->Bool)×(zy (ks.map Q1)->zy (outs.map Q1)))
 |[]=>Q2
 |(k,a)::r=>if Rr k v then Q1 a else UV v r
theorem HC{ks outs:List Sh}{v:AV}{a}:∀{l:List (Pi ks outs)},UV v l=Q1 a->∃k,v=.clo (.func k) [] []/\(k,a)∈l
 |[],h=>by cases h
 | (k,b)::r,h=>by
  unfold UV at h;split at h
  ·rename_i hk;cases h;exact⟨k,Rs hk,sJ ..⟩
  ·obtain⟨j,h1,h2⟩:=HC h;exact⟨j,h1,sI _ h2⟩
def MS(ks outs:List Sh)(l:List (Pi ks outs)):iv (ks.map Q1++[Q2]):=λx h=>match h with
 | []=>match UV (sA ks x).2 l with
  |some (c,g)=>.chk (c (sA ks x).1) (.ok (xv outs (g (sA ks x).1),[]))
  |none=>.err
 |_=>.err
def SP(ks outs:List Sh)(l:List (Pi ks outs)):zX:=bh (ks.map Q1++[Q2]) (MS ks outs l)
theorem JR{P:Program}{gl:Nat->AV}{E:bT}{k:FuncId}{f:Func}{ks outs:List Sh}{l:List (Pi ks outs)}(hf:zI E.P k f (ks.length+1))
  (h:∀j c g,(j,c,g)∈l->∀x,c x=Q3->∀C:eP,(∀id,C.ρ0 id=Q2)->Reach E C k (bq f) (bc f.ntmps (iX (ks.map Q1) x++[.clo (.func j) [] []]) []) (λr h=>aL h outs r=Q1 (g x))) (qp:E.P=P:=by rfl) (qg:E.gl=gl:=by rfl):nO P gl k (SP ks outs l):=by
 subst qp qg;refine dI (by simpa using hf) λx h0 res hx C hC=>?_
 unfold MS at hx;split at hx
 ·split at hx
  ·rename_i c g hal;obtain⟨j,hv,hm⟩:=HC hal;simp only[Tr.val]at hx;split at hx
   ·rename_i hc;simp only[bw]at hx;subst hx;rw[Aj,hv];exact Reach.plain (λid=>hC id (by simp)) (h j c g hm _ hc C (λid=>hC id (by simp)))
   ·simp at hx
  ·simp at hx
 ·simp at hx
inductive CP where
 |d (s:Sh)
 |nil
 |vec (e:Sh)
@[reducible] def zn:List CP->Type
 |[]=>Unit
 |.d s::r=>Sem s×zn r
 |.nil::r=>zn r
 |.vec e::r=>List (Sem e)×zn r
def eu:(n:Nat)->(ps:List CP)->zn ps->List AV
 |_,[],_=>[]
 |n,.d s::r,y=>zp s y.1++eu n r y.2
 |n,.nil::r,y=>.nils::eu n r y
 |n,.vec _::r,y=>.vec n::eu (n+1) r y.2
def fQ:(ps:List CP)->zn ps->List AO
 |[],_=>[]
 |.d _::r,y=>fQ r y.2
 |.nil::r,y=>fQ r y
 |.vec e::r,y=>.vec e y.1::fQ r y.2
def ar(ps:List CP)(y:zn ps):List AO:=.box (eu 1 ps y)::fQ ps y
def aR:List CP->Nat
 |[]=>0
 |.vec _::r=>aR r+1
 |_::r=>aR r
theorem bF:∀(ps:List CP)(y:zn ps),(fQ ps y).length=aR ps
 |[],_=>rfl
 |.d _::r,y=>bF r y.2
 |.nil::r,y=>bF r y
 |.vec _::r,y=>congrArg (·+1) (bF r y.2)
def ck(hp:Nat->AO):(n:Nat)->(ps:List CP)->List AV->Option (zn ps)
 |_,[],[]=>Q1 ()
 | n,.d s::r,cs=>match cE (fun _=>.dead) s cs with
  | some (x,cs')=>match ck hp n r cs' with
   |some y=>Q1 (x,y)
   |none=>Q2
  |none=>Q2
 |n,.nil::r,.nils::cs=>ck hp n r cs
 | n,.vec e::r,.vec id::cs=>if id=n then match hp id with
   | .vec e' l=>if h:e'=e then match ck hp (n+1) r cs with
     |some y=>Q1 (h▸l,y)
     |none=>Q2
    else Q2
   |_=>Q2
  else Q2
 |_,_,_=>Q2
section
variable {w:World} {U:Nat->Prop} {ρ:Nat->Option Value}
theorem di.app{a b:List AV}{va vb:List Value}(h1:di w U ρ a va)(h2:di w U ρ b vb):di w U ρ (a++b) (va++vb) where
 len:=by simp[h1.len,h2.len]
 rv:=by
  intro j c v hc hv;by_cases hj:j<a.length
  ·rw[mI hj]at hc;rw[mI (by rw[<-h1.len];exact hj)]at hv;exact h1.rv j c v hc hv
  ·rw[nQ ow]at hc;rw[nQ (by rw[<-h1.len];omega),<-h1.len]at hv;exact h2.rv _ c v hc hv
theorem di.tail{a:AV}{l:List AV}{v:Value}{vs:List Value}(h:di w U ρ (a::l) (v::vs)):di w U ρ l vs:=
 ⟨by have:=h.len;simpa using this,λj c x hc hx=>h.rv (j+1) c x (by simpa using hc) (by simpa using hx)⟩
theorem di.consH{a:AV}{l:List AV}{v:Value}{vs:List Value}(h1:Rv w U ρ a v)(h2:di w U ρ l vs):di w U ρ (a::l) (v::vs) where
 len:=by simp[h2.len]
 rv:=by
  intro j c x hc hx;cases j with
  |zero=>simp at hc hx;subst hc;subst hx;exact h1
  |succ j=>exact h2.rv j c x (by simpa using hc) (by simpa using hx)
theorem fk{hp:Nat->AO}:∀(ps:List CP)(n:Nat)(cs:List AV)(y:zn ps)(vals:List Value),ck hp n ps cs=Q1 y->di w U ρ cs vals->
  di w U ρ (eu n ps y) vals/\∀(j:Nat) o,(fQ ps y)[j]?=Q1 o->hp (n+j)=o
 |[],n,[],y,vals,h,hr=>⟨hr,by simp[fQ]⟩
 |[],n,_::_,y,vals,h,hr=>by simp[ck]at h
 | .d s::r,n,cs,y,vals,h,hr=>by
  unfold ck at h;split at h
  ·rename_i x cs' hi;split at h
   ·rename_i y' hy;cases h
    have hk:=mS (w:=w) (U:=U) (U':=U) (ρ:=ρ) (hp:=λ_=>.dead) (λ_ h=>h) s cs x cs' (λj=>vals.getD j undef) hi
     (λj c hc=>by
      have hlt:j<vals.length:=by rw[<-hr.len];exact(cV.1 hc).1
      have:=hr.rv j c vals[j] hc (zQ hlt);simpa[List.getD,zQ hlt]using this)
     (λid _=>⟨trivial,λb hb=>by simp[af,AO.owns]at hb⟩)
    obtain⟨k1,k2,k3⟩:=hk;have hdrop:di w U ρ cs' (vals.drop s.size):=by
     refine⟨by rw[k2];simp[hr.len],λj c v hc hv=>?_⟩;rw[k2,Ds]at hc;rw[Ds]at hv;exact hr.rv _ c v hc hv
    obtain⟨i1,i2⟩:=fk r n cs' y' (vals.drop s.size) hy hdrop;refine⟨?_,i2⟩;have htake:di w U ρ (zp s x) (vals.take s.size):=by
     refine⟨by rw[zU];have:=hr.len;simp;omega,λj c v hc hv=>?_⟩;have hj:j<s.size:=by rw[<-zU s x];exact(cV.1 hc).1
     rw[List.getElem?_take,if_pos hj]at hv;have:=k3 j c hc;simpa[List.getD,hv]using this
    have:=htake.app i1;rw[List.take_append_drop]at this;exact this
   ·cases h
  ·cases h
 | .nil::r,n,.nils::cs,y,vals,h,hr=>by
  match vals,hr with
  |[],hr=>have:=hr.len;simp at this
  | v::vs,hr=>
   have hv:=hr.rv 0 _ v rfl rfl;obtain⟨i1,i2⟩:=fk r n cs y vs h hr.tail;exact⟨di.consH hv i1,i2⟩
 | .vec e::r,n,.vec id::cs,y,vals,h,hr=>by
  match vals,hr with
  |[],hr=>have:=hr.len;simp at this
  | v :: vs,hr=>
   have hv:=hr.rv 0 _ v rfl rfl;unfold ck at h;split at h
   ·rename_i hid;subst hid;split at h
    ·rename_i e' l ho;split at h
     ·rename_i he;subst he;split at h
      ·rename_i y' hy;cases h;obtain⟨i1,i2⟩:=fk r (id+1) cs y' vs hy hr.tail;refine⟨di.consH hv i1,λj o hj=>?_⟩;cases j with
       |zero=>simp[fQ]at hj;subst hj;exact ho
       | succ j=>
        have:=i2 j o (by simpa[fQ]using hj);rw[<-this];congr 1;omega
      ·cases h
     ·cases h
    ·cases h
   ·cases h
 |.nil::_,_,[],_,_,h,_=>by simp[ck]at h
 |.vec _::_,_,[],_,_,h,_=>by simp[ck]at h
 |.nil::_,_,.any::_,_,_,h,_|.nil::_,_,.kb _::_,_,_,h,_|.nil::_,_,.bool _::_,_,_,h,_|.nil::_,_,.int _ _::_,_,_,h,_|.nil::_,_,.str _::_,_,_,h,_
 |.nil::_,_,.sl _ _::_,_,_,h,_|.nil::_,_,.vec _::_,_,_,h,_|.nil::_,_,.ptr _ _::_,_,_,h,_|.nil::_,_,.vptr _ _ _ _::_,_,_,h,_|.nil::_,_,.eptr _ _::_,_,_,h,_
 |.nil::_,_,.nilp::_,_,_,h,_|.nil::_,_,.agg _::_,_,_,h,_|.nil::_,_,.tup _::_,_,_,h,_|.nil::_,_,.clo _ _ _::_,_,_,h,_|.nil::_,_,.nilf::_,_,_,h,_
 |.nil::_,_,.mp _::_,_,_,h,_|.nil::_,_,.ifc _::_,_,_,h,_|.nil::_,_,.tab _ _::_,_,_,h,_|.nil::_,_,.gint::_,_,_,h,_=>by simp[ck]at h
 |.vec _::_,_,.any::_,_,_,h,_|.vec _::_,_,.kb _::_,_,_,h,_|.vec _::_,_,.bool _::_,_,_,h,_|.vec _::_,_,.int _ _::_,_,_,h,_|.vec _::_,_,.str _::_,_,_,h,_
 |.vec _::_,_,.sl _ _::_,_,_,h,_|.vec _::_,_,.nils::_,_,_,h,_|.vec _::_,_,.ptr _ _::_,_,_,h,_|.vec _::_,_,.vptr _ _ _ _::_,_,_,h,_|.vec _::_,_,.eptr _ _::_,_,_,h,_
 |.vec _::_,_,.nilp::_,_,_,h,_|.vec _::_,_,.agg _::_,_,_,h,_|.vec _::_,_,.tup _::_,_,_,h,_|.vec _::_,_,.clo _ _ _::_,_,_,h,_|.vec _::_,_,.nilf::_,_,_,h,_
 |.vec _::_,_,.mp _::_,_,_,h,_|.vec _::_,_,.ifc _::_,_,_,h,_|.vec _::_,_,.tab _ _::_,_,_,h,_|.vec _::_,_,.gint::_,_,_,h,_=>by simp[ck]at h
end
theorem jf.box{C:eP}{w:World}{U:Nat->Prop}{ρ:Nat->Option Value}{cs:List AV}{os:List AO}{ps:List CP}{y:zn ps}(hH:jf C w U ρ (λj=>((Qa cs::os).getD j .dead)))(hl:os.length=aR ps)
  (hm:ck (jz (.box cs::os)) 1 ps cs=Q1 y):jf C w U ρ (λj=>(ar ps y).getD j .dead):=by
 have h0:bt w U ρ 0 (.box cs):=hH.ob 0;obtain⟨b,T,vals,h1,h2,h3,h4,h5⟩:=h0;obtain⟨k1,k2⟩:=fk ps 1 cs y vals.toList hm h4;have hobj:∀id,id≠0->(ar ps y).getD id .dead=(Qa cs::os).getD id .dead:=by
  intro id hid;obtain⟨j,rfl⟩:∃j,id=j+1:=⟨id-1,ow⟩;by_cases hj:j<(fQ ps y).length
  ·have:=k2 j _ (zQ hj);unfold ar;simp only[Ac];rw[aY,zQ hj];simp only[jz,nD 1 j,Ac]at this;simpa using this.symm
  ·have h7:os.length<=j:=by rw[bF]at hj;omega
   unfold ar;simp only[Ac];rw[aY,aY,eX ow,eX h7]
 have hown:∀id b,af ρ id ((ar ps y).getD id .dead) b->af ρ id ((Qa cs::os).getD id .dead) b:=by
  intro id b' ho;by_cases hid:id=0
  ·subst hid;obtain⟨_,v,hv,hb⟩:=ho;exact⟨rfl,v,hv,hb⟩
  ·rw[hobj id hid]at ho;exact ho
 refine⟨λid=>?_,λid1 id2 b' o1 o2=>hH.inj id1 id2 b' (hown _ _ o1) (hown _ _ o2),λid b' o=>hH.blk id b' (hown _ _ o)⟩;by_cases hid:id=0
 ·subst hid;exact⟨b,T,vals,h1,h2,h3,k1,h5⟩
 ·show bt w U ρ id ((ar ps y).getD id .dead);rw[hobj id hid];exact hH.ob id
def rJ(ps:List CP)(outs:List Sh)(r:AV)(h:List AO):Option (zy (outs.map Q1)×zn ps):=match h with
 | .box cs::os=>if os.length=aR ps then match aL [] outs r,ck (jz (.box cs::os)) 1 ps cs with
   |some a,Q1 y=>Q1 (a,y)
   |_,_=>Q2
  else Q2
 |_=>Q2
def zfs(ps:List CP)(ks outs:List Sh)(ps':List CP)(c:zn ps->zy (ks.map Q1)->Bool)(g:zn ps->zy (ks.map Q1)->zy (outs.map Q1)×zn ps'):iv (Q2::ks.map Q1):=λx h=>match x.1,h with
 | .ptr 0 0,.box cs::os=>if os.length=aR ps then match ck (jz (.box cs::os)) 1 ps cs with
   |some y=>.chk (c y x.2) (.ok (xv outs (g y x.2).1,ar ps' (g y x.2).2))
   |none=>.err
  else .err
 |_,_=>.err
def rI(ps:List CP)(ks outs:List Sh)(ps':List CP)(c:zn ps->zy (ks.map Q1)->Bool)(g:zn ps->zy (ks.map Q1)->zy (outs.map Q1)×zn ps'):zX:=bh (Q2::ks.map Q1) (zfs ps ks outs ps' c g)
theorem qW(ps:List CP)(y:zn ps):(ar ps y).length=aR ps+1:=by
 simp[ar,bF]
theorem EV{w:World}{U:Nat->Prop}{ρ:Nat->Option Value}{outs:List Sh}{r:AV}{y:zy (outs.map Q1)}{v:Value}(h:aL [] outs r=Q1 y)(hr:Rv w U ρ r v):Rv w U ρ (xv outs y) v:=by
 have hob:∀id,bt w U ρ id (jz [] id)/\∀b,af ρ id (jz [] id) b->¬U b:=λid=>⟨by simp[jz,bt],λb hb=>by simp[jz,af,AO.owns]at hb⟩
 have htup:∀(outs:List Sh)(y:zy (outs.map Q1))(rs:List AV),lp (jz []) (λi=>i) (outs.map Q1) rs=Q1 y->Rv w U ρ (.tup rs) v->Rv w U ρ (.tup (iX (outs.map Q1) y)) v:=by
  intro outs y rs hy hrv;cases hrv with
  |tup _ vs hl hr2=>
  have:=(jm (w:=w) (U:=U) (ρ:=ρ) (U':=U) (ρ':=ρ) (hp:=jz []) (f:=λi=>i) (λb hb=>hb) (outs.map Q1) rs vs _ (oV outs rs y hy) ⟨hl,hr2⟩ (λid _=>hob id)
   (λid _=>rfl)).1
  simp only[ov,sK,zG,if_false,List.map_id']at this;exact .tup _ vs this.len this.rv
 match outs,y,h with
 | [s],y,h=>
  simp only[aL]at h;split at h
  ·rename_i x hx;cases h;exact Aq hx hr (λb hb=>hb) (λid _=>hob id)
  ·cases h
 | [],y,h=>
  simp only[aL]at h;cases r with
  |tup rs=>exact htup [] y _ h hr
  |_=>cases h
 | s1::s2::ss,y,h=>
  simp only[aL]at h;cases r with
  |tup rs=>exact htup _ y _ h hr
  |_=>cases h
theorem UL{P:Program}{gl:Nat->AV}{E:bT}{k:FuncId}{f:Func}{ps:List CP}{ks outs:List Sh}{ps':List CP}{c:zn ps->zy (ks.map some)->Bool}{g:zn ps->zy (ks.map some)->zy (outs.map some)×zn ps'}(hf:zI E.P k f (ks.length+1))
  (h:∀y x,c y x=Q3->∀C:eP,(∀id,aR ps+1<=id->C.ρ0 id=Q2)->Reach E C k (bq f) (bc f.ntmps (.ptr 0 0::iX (ks.map Q1) x) (ar ps y)) (λr h=>rJ ps' outs r h=Q1 (g y x))) (qp:E.P=P:=by rfl) (qg:E.gl=gl:=by rfl):
  nO P gl k (rI ps ks outs ps' c g):=by
 subst qp qg;refine dI (by simpa using hf) λx h0 res hx C hC=>?_
 obtain⟨x0,x⟩:=x;unfold zfs at hx;simp only at hx;split at hx
 ·rename_i cs os;split at hx
  ·rename_i hos;split at hx
   ·rename_i y hy;simp only[Tr.val]at hx;split at hx
    ·rename_i hc;simp only[bw]at hx;subst hx;have hR:=h y x hc C (λid hid=>hC id (by simpa[hos]using hid));intro b cs' a w U ρ h1 h2 hcn hW;have hH:jf C w U ρ (λj=>((Qa cs::os).getD j .dead)):=hcn.hp
     have hcn':Cn C (bc f.ntmps (.ptr 0 0::iX (ks.map Q1) x) (ar ps y)) a w U ρ:=
      ⟨hcn.tm,hH.box hos hy,λid hid=>hcn.new id (by have hid:(ar ps y).length<=id:=hid;rw[qW]at hid;simpa[bc,hos]using hid),hcn.df,hcn.r0⟩
     obtain⟨e,w',fr,⟨v,r,h',U',ρ',he,hq,hrv,hH',hnew,hr0,hWd⟩,hcm,hf',hl⟩:=hR b cs' a w U ρ h1 h2 hcn' hW;unfold rJ at hq;split at hq
     ·rename_i cs2 os2;split at hq
      ·rename_i hos2;split at hq
       ·rename_i a' y' ha' hy';simp only[bw]at hq;refine⟨e,w',fr,⟨v,_,_,U',ρ',he,by rw[<-hq],EV ha' hrv,hH'.box hos2 hy',λid hid=>hnew id (by rw[qW]at hid;simpa[hos2]using hid),hr0,hWd⟩,hcm,hf',hl⟩
       ·cases hq
      ·cases hq
     ·cases hq
    ·simp at hx
   ·simp at hx
  ·simp at hx
 ·simp at hx
def tB(E:bT)(n0:Nat)(keep:Nat->aM)(f:Func)(gas:Nat):Nat->List Item->St->Option (AV×List AO)
 |0,_,_=>Q2
 | n+1,K,st=>match (run E n0 keep f.results.toList gas K st).val with
  |some (.ret v h)=>Q1 (v,h)
  |some (.head _ K' st')=>tB E n0 keep f gas n K' st'
  |_=>Q2
theorem oP{E:bT}{C:eP}{k:FuncId}{f:Func}{Q:AV->List AO->Prop}{m n0:Nat}(hE:zw E)(hf:zI E.P k f m)(hC:∀id,n0<=id->C.ρ0 id=Q2){keep:Nat->aM}{gas:Nat}:
  ∀(n:Nat)(K:List Item)(st:St)(r:AV×List AO),tB E n0 keep f gas n K st=Q1 r->Q r.1 r.2->Reach E C k K st Q
 |0,_,_,_,h,_=>by cases h
 | n+1,K,st,r,h,hQ=>by
  unfold tB at h;split at h
  ·rename_i v h' hv;cases h;exact ms hE hf hC hv hQ
  ·rename_i j K' st' hv;exact ms hE hf hC hv (oP hE hf hC n K' st' r h hQ)
  ·cases h
def cn:(outs:List Sh)->zy (outs.map Q1)
 |[]=>()
 |s::r=>(zi s,cn r)
def fM:(ps:List CP)->zn ps
 |[]=>()
 |.d s::r=>(zi s,fM r)
 |.nil::r=>fM r
 |.vec _::r=>([],fM r)
def bx:List Nat->(ps:List CP)->zn ps->List AV
 |_,[],_=>[]
 |n,.d s::r,y=>zp s y.1++bx n r y.2
 |n,.nil::r,y=>.nils::bx n r y
 |n,.vec _::r,y=>.vec (n.headD 0)::bx n.tail r y.2
def Yr(E:bT)(keep:Nat->aM)(f:Func)(gas n:Nat)(ks outs:List Sh)(x:zy (ks.map Q1)):Option (zy (outs.map Q1)):=
 (tB E 0 keep f gas n (bq f) (bc f.ntmps (iX (ks.map Q1) x) [])).bind λr=>aL r.2 outs r.1
def KW(ks outs:List Sh)(g:zy (ks.map Q1)->Option (zy (outs.map Q1))):zX:=zO ks outs (λx=>(g x).isSome) λx=>(g x).getD (cn outs)
theorem zaz{P:Program}{gl:Nat->AV}{E:bT}{k:FuncId}{f:Func}{ks outs:List Sh}{keep:Nat->aM}{gas n:Nat}(hE:zw E)(hf:zI E.P k f ks.length)(qp:E.P=P:=by rfl)(qg:E.gl=gl:=by rfl):nO P gl k (KW ks outs (Yr E keep f gas n ks outs)):=by
 subst qp qg;refine aI hf λx hc C hC=>?_
 rw[Option.isSome_iff_exists]at hc;obtain⟨y,hy⟩:=hc;rw[hy];unfold Yr at hy;rw[fJ]at hy;obtain⟨r,h1,h2⟩:=hy;exact oP hE hf (λid _=>hC id) n _ _ r h1 h2
def Yq(E:bT)(keep:Nat->aM)(f:Func)(gas n:Nat)(ps:List CP)(ks outs:List Sh)(ps':List CP)(y:zn ps)(x:zy (ks.map Q1)):Option (zy (outs.map Q1)×zn ps'):=
 (tB E (aR ps+1) keep f gas n (bq f) (bc f.ntmps (.ptr 0 0::iX (ks.map Q1) x) (ar ps y))).bind λr=>rJ ps' outs r.1 r.2
def zjc(ps:List CP)(ks outs:List Sh)(ps':List CP)(g:zn ps->zy (ks.map Q1)->Option (zy (outs.map Q1)×zn ps')):zX:=
 rI ps ks outs ps' (λy x=>(g y x).isSome) λy x=>(g y x).getD (cn outs,fM ps')
theorem UM{P:Program}{gl:Nat->AV}{E:bT}{k:FuncId}{f:Func}{ps:List CP}{ks outs:List Sh}{ps':List CP}{keep:Nat->aM}{gas n:Nat}(hE:zw E)(hf:zI E.P k f (ks.length+1))(qp:E.P=P:=by rfl)(qg:E.gl=gl:=by rfl):nO P gl k (zjc ps ks outs ps' (Yq E keep f gas n ps ks outs ps')):=by
 subst qp qg;refine UL hf λy x hc C hC=>?_
 rw[Option.isSome_iff_exists]at hc;obtain⟨z,hz⟩:=hc;rw[hz];unfold Yq at hz;rw[fJ]at hz;obtain⟨r,h1,h2⟩:=hz;exact oP hE hf hC n _ _ r h1 h2
theorem JS{P:Program}{gl:Nat->AV}{k:FuncId}{ks outs:List Sh}{g:zy (ks.map Q1)->Option (zy (outs.map Q1))}{c:zy (ks.map Q1)->Bool}{g':zy (ks.map Q1)->zy (outs.map Q1)}(h:nO P gl k (KW ks outs g))(hg:∀x,c x=Q3->g x=Q1 (g' x)):nO P gl k (zO ks outs c g'):=by
 refine xO (ι:=Unit) (Gs:=λ_=>fb ks outs (λx=>(g x).isSome) λx=>(g x).getD (cn outs)) (λ_=>h) λx h0 res hv=>⟨(),?_⟩
 unfold fb at hv⊢;split at hv
 ·simp only[Tr.val]at hv⊢;split at hv
  ·rename_i hc;simp only[hg x hc,Dt,if_true,dn];exact hv
  ·simp at hv
 ·simp at hv
theorem gH{P:Program}{gl:Nat->AV}{k:FuncId}{ks outs:List Sh}{g:zy (ks.map Q1)->Option (zy (outs.map Q1))}{g':zy (ks.map Q1)->zy (outs.map Q1)}(h:nO P gl k (KW ks outs g))(hg:∀x,g x=Q1 (g' x)):nO P gl k (aC ks outs g'):=
 LR (JS h λx _=>hg x)
theorem UN{P:Program}{gl:Nat->AV}{E:bT}{k:FuncId}{f:Func}{ks outs:List Sh}{keep:Nat->aM}{gas n:Nat}{c:zy (ks.map Q1)->Bool}{g:zy (ks.map Q1)->zy (outs.map Q1)}(hE:zw E)(hf:zI E.P k f ks.length)
  (hc:∀x,c x=(Yr E keep f gas n ks outs x).isSome) (hg:∀x,g x=(Yr E keep f gas n ks outs x).getD (cn outs)) (qp:E.P=P:=by rfl) (qg:E.gl=gl:=by rfl):nO P gl k (zO ks outs c g):=by
 subst qp qg;obtain rfl:c=λx=>(Yr E keep f gas n ks outs x).isSome:=funext hc
 obtain rfl:g=λx=>(Yr E keep f gas n ks outs x).getD (cn outs):=funext hg
 exact zaz hE hf
theorem Pv{P:Program}{gl:Nat->AV}{E:bT}{k:FuncId}{f:Func}{ps:List CP}{ks outs:List Sh}{ps':List CP}{keep:Nat->aM}{gas n:Nat}{c:zn ps->zy (ks.map Q1)->Bool}{g:zn ps->zy (ks.map Q1)->zy (outs.map Q1)×zn ps'}(hE:zw E)(hf:zI E.P k f (ks.length+1))
  (hc:∀y x,c y x=(Yq E keep f gas n ps ks outs ps' y x).isSome) (hg:∀y x,g y x=(Yq E keep f gas n ps ks outs ps' y x).getD (cn outs,fM ps')) (qp:E.P=P:=by rfl) (qg:E.gl=gl:=by rfl):nO P gl k (rI ps ks outs ps' c g):=by
 subst qp qg;obtain rfl:c=λy x=>(Yq E keep f gas n ps ks outs ps' y x).isSome:=funext λy=>funext λx=>hc y x
 obtain rfl:g=λy x=>(Yq E keep f gas n ps ks outs ps' y x).getD (cn outs,fM ps'):=funext λy=>funext λx=>hg y x
 exact UM hE hf
abbrev aw:=AV×List AO
def Tr.map{α β:Type}(f:α->β):Tr α->Tr β
 |.err=>.err
 |.chk c t=>.chk c (t.map f)
 |.br c t e=>.br c (t.map f) (e.map f)
 |.ok a=>.ok (f a)
theorem Tr.val_map{α β:Type}(f:α->β):∀t:Tr α,(t.map f).val=t.val.map f
 |.err=>rfl
 |.chk c t=>by simp only[Tr.map,Tr.val,val_map f t];split<;>rfl
 |.br c t e=>by simp only[Tr.map,Tr.val,val_map f t,val_map f e];split<;>rfl
 |.ok _=>rfl
abbrev Tr.to{σ:Type}(s:σ):Tr (σ⊕aw):=.ok (.inl s)
abbrev Tr.re{σ:Type}(v:AV)(h:List AO):Tr (σ⊕aw):=.ok (.inr (v,h))
def cP{σ:Type}(t:σ->Tr (σ⊕aw)):Nat->σ->Option aw
 |0,_=>Q2
 | n+1,s=>match (t s).val with
  |some (.inl s')=>cP t n s'
  |some (.inr r)=>Q1 r
  |none=>Q2
def cT{σ:Type}(t:σ->Tr (σ⊕aw))(n:Nat)(i:Tr (σ⊕aw)):Option aw:=match i.val with
 |some (.inl s)=>cP t n s
 |some (.inr r)=>Q1 r
 |none=>Q2
def lf{σ:Type}(f:Func)(e:σ->Nat×St):σ⊕aw->zB
 |.inl s=>.head (e s).1 (zZ f (e s).1) (e s).2
 |.inr r=>.ret r.1 r.2
def e0:Empty->Nat×St:=λx=>nomatch x
def t0:Empty->Tr (Empty⊕aw):=λx=>nomatch x
section
variable {σ:Type} {E:bT} {n0:Nat} {keep:Nat->aM} {f:Func} {gas:Nat} {e:σ->Nat×St} {t:σ->Tr (σ⊕aw)}
theorem Mr(hon:∀s,run E n0 keep f.results.toList gas (zZ f (e s).1) (e s).2=(t s).map (lf f e)):∀(n:Nat)(s:σ),tB E n0 keep f gas n (zZ f (e s).1) (e s).2=cP t n s
 |0,_=>rfl
 | n+1,s=>by
  rw[tB,hon s,Tr.val_map,cP];cases(t s).val with
  |none=>rfl
  | some l=>
   cases l with
   |inl s'=>exact Mr hon n s'
   |inr r=>rfl
theorem mT(hon:∀s,run E n0 keep f.results.toList gas (zZ f (e s).1) (e s).2=(t s).map (lf f e)){K:List Item}{st:St}{i:Tr (σ⊕aw)}(hgo:run E n0 keep f.results.toList gas K st=i.map (lf f e))(n:Nat):tB E n0 keep f gas (n+1) K st=cT t n i:=by
 rw[tB,hgo,Tr.val_map,cT];cases i.val with
 |none=>rfl
 | some l=>
  cases l with
  |inl s=>exact Mr hon n s
  |inr r=>rfl
end
def al{σ:Type}(outs:List Sh)(t:σ->Tr (σ⊕aw))(n:Nat)(i:Tr (σ⊕aw)):Option (zy (outs.map Q1)):=(cT t n i).bind λr=>aL r.2 outs r.1
theorem lA{P:Program}{gl:Nat->AV}{σ:Type}{E:bT}{k:FuncId}{f:Func}{ks outs:List Sh}{keep:Nat->aM}{gas n:Nat}{e:σ->Nat×St}{t:σ->Tr (σ⊕aw)}{i:zy (ks.map Q1)->Tr (σ⊕aw)}{c:zy (ks.map Q1)->Bool}{g:zy (ks.map Q1)->zy (outs.map Q1)}
  (hE:zw E) (hf:zI E.P k f ks.length) (hgo:∀x,run E 0 keep f.results.toList gas (bq f) (bc f.ntmps (iX (ks.map Q1) x) [])=(i x).map (lf f e))
  (hon:∀s,run E 0 keep f.results.toList gas (zZ f (e s).1) (e s).2=(t s).map (lf f e))
  (hc:∀x,c x=(al outs t n (i x)).isSome) (hg:∀x,g x=(al outs t n (i x)).getD (cn outs)) (qp:E.P=P:=by rfl) (qg:E.gl=gl:=by rfl):nO P gl k (zO ks outs c g):=by
 subst qp qg;have h:∀x,Yr E keep f gas (n+1) ks outs x=al outs t n (i x):=by
  intro x;unfold Yr al;rw[mT hon (hgo x)]
 exact UN (n:=n+1) hE hf (λx=>by rw[h,hc]) (λx=>by rw[h,hg])
theorem Wi{σ:Type}{E:bT}{C:eP}{k:FuncId}{f:Func}{outs:List Sh}{m n0 n gas:Nat}{keep:Nat->aM}{e:σ->Nat×St}{t:σ->Tr (σ⊕aw)}{i:Tr (σ⊕aw)}{K:List Item}{st:St}{y:zy (outs.map Q1)}(hE:zw E)(hf:zI E.P k f m)(hC:∀id,n0<=id->C.ρ0 id=Q2)
  (hgo:run E n0 keep f.results.toList gas K st=i.map (lf f e)) (hon:∀s,run E n0 keep f.results.toList gas (zZ f (e s).1) (e s).2=(t s).map (lf f e)) (h:al outs t n i=Q1 y):Reach E C k K st (λr h=>aL h outs r=Q1 y):=by
 unfold al at h;rw[fJ]at h;obtain⟨r,h1,h2⟩:=h;rw[<-mT hon hgo n]at h1;exact oP hE hf hC (n+1) _ _ r h1 h2
abbrev k0:Nat->aM:=λ_=>{ }
abbrev mV:List (Nat×List Nat)->Nat->aM
 |[],_=>{ }
 |p::r,j=>if j=p.1 then{slots:=p.2}else mV r j
def o1{a:Sh}(o:Option (zy [Q1 a])):Sem a:=(o.getD (cn [a])).1
def o2{a b:Sh}(o:Option (zy [Q1 a,Q1 b])):Sem a×Sem b:=((o.getD (cn [a,b])).1,(o.getD (cn [a,b])).2.1)
def o3{a b c:Sh}(o:Option (zy [Q1 a,Q1 b,Q1 c])):Sem a×Sem b×Sem c:=((o.getD (cn [a,b,c])).1,(o.getD (cn [a,b,c])).2.1,(o.getD (cn [a,b,c])).2.2.1)
def FT(ks outs:List Sh)(o:zy (ks.map Q1)->Option (zy (outs.map Q1))):zX:=zO ks outs (λx=>(o x).isSome) λx=>(o x).getD (cn outs)
theorem zw.T1{P:Program}{gl:Nat->AV}{σ:Type}{E:bT}{k:FuncId}{f:Func}{ks outs:List Sh}{keep:Nat->aM}{n:Nat}{e:σ->Nat×St}{t:σ->Tr (σ⊕aw)}{i:zy (ks.map Q1)->Tr (σ⊕aw)}(hE:zw E)(gas:Nat:=400)
  (hf:(E.P.funcs[k]?,f.name=="runtime.NumGoroutine",f.body.isNone,Q0 (ks.length<=f.ntmps))=(Q1 f,Q4,Q4,Q3):=by kernel_rfl)
  (hgo:∀x,run E 0 keep f.results.toList gas (bq f) (bc f.ntmps (iX (ks.map Q1) x) [])=(i x).map (lf f e):=by intro x;kernel_rfl)
  (hon:∀s,run E 0 keep f.results.toList gas (zZ f (e s).1) (e s).2=(t s).map (lf f e):=by intro s;cases s<;>kernel_rfl) (qp:E.P=P:=by rfl) (qg:E.gl=gl:=by rfl):nO P gl k (FT ks outs λx=>al outs t n (i x)):=by
 subst qp qg;exact lA hE (bQ hf) hgo hon (λ_=>rfl) λ_=>rfl
theorem TQ(E:bT)(n0:Nat)(keep:Nat->aM)(f:Func)(gas:Nat):∀s,run E n0 keep f.results.toList gas (zZ f (e0 s).1) (e0 s).2=(t0 s).map (lf f e0):=λs=>nomatch s
def kA{σ:Type}(outs:List Sh)(ps':List CP)(t:σ->Tr (σ⊕aw))(n:Nat)(i:Tr (σ⊕aw)):Option (zy (outs.map Q1)×zn ps'):=(cT t n i).bind λr=>rJ ps' outs r.1 r.2
theorem j7{P:Program}{gl:Nat->AV}{σ:Type}{E:bT}{k:FuncId}{f:Func}{ps:List CP}{ks outs:List Sh}{ps':List CP}{keep:Nat->aM}{gas n:Nat}{e:σ->Nat×St}{t:σ->Tr (σ⊕aw)}{i:zn ps->zy (ks.map Q1)->Tr (σ⊕aw)}{c:zn ps->zy (ks.map Q1)->Bool}{g:zn ps->zy (ks.map Q1)->zy (outs.map Q1)×zn ps'}
  (hE:zw E) (hf:zI E.P k f (ks.length+1)) (hgo:∀y x,run E (aR ps+1) keep f.results.toList gas (bq f) (bc f.ntmps (.ptr 0 0::iX (ks.map Q1) x) (ar ps y))=(i y x).map (lf f e))
  (hon:∀s,run E (aR ps+1) keep f.results.toList gas (zZ f (e s).1) (e s).2=(t s).map (lf f e))
  (hc:∀y x,c y x=(kA outs ps' t n (i y x)).isSome) (hg:∀y x,g y x=(kA outs ps' t n (i y x)).getD (cn outs,fM ps')) (qp:E.P=P:=by rfl) (qg:E.gl=gl:=by rfl):nO P gl k (rI ps ks outs ps' c g):=by
 subst qp qg;have h:∀y x,Yq E keep f gas (n+1) ps ks outs ps' y x=kA outs ps' t n (i y x):=by
  intro y x;unfold Yq kA;rw[mT hon (hgo y x)]
 exact Pv (n:=n+1) hE hf (λy x=>by rw[h,hc]) (λy x=>by rw[h,hg])
open Tr (chk br re)
theorem L1(hp:Nat->AO)(e:Sh)(l:List (Sem e)):uW hp e (.sl e l)=Q1 l:=by
 simp[uW]
theorem jA(hp:Nat->AO):∀(s:Sh)(x:Sem s)(r:List AV),cE hp s (zp s x++r)=Q1 (x,r)
 |.unit,_,_=>rfl
 |.bool,_,_=>rfl
 |.int k,n,r=>by simp[zp,cE]
 |.str,_,_=>rfl
 | .sl e,l,r=>by
  show(match uW hp e (.sl e l)with|some l=>Q1 (l,r)|none=>Q2)=_;rw[L1]
 | .pr a b,x,r=>by
  simp only[zp,cE,Ae,jA hp a,jA hp b]
 | .expr,e,r=>by
  show tv hp _=_;simp only[zp,List.cons_append,Dw,tv,L1];rw[show ze.mk e.op (e.v.1,e.v.2.1,e.v.2.2) e.s e.l=e from ze.eta e]
theorem iZ{hp:Nat->AO}:∀(ps:List CP)(n:Nat)(y:zn ps),(∀(j:Nat) o,(fQ ps y)[j]?=Q1 o->hp (n+j)=o)->ck hp n ps (eu n ps y)=Q1 y
 |[],_,_,_=>rfl
 | .d s::r,n,y,h=>by
  simp only[eu,ck,jA];rw[iZ r n y.2 h]
 | .nil::r,n,y,h=>by
  simp only[eu,ck];exact iZ r n y h
 | .vec e::r,n,y,h=>by
  have h0:=h 0 (.vec e y.1) rfl;simp only[wO]at h0;simp only[eu,ck,if_true,h0,dite_true]
  rw[iZ r (n+1) y.2 (λj o hj=>by
   have:=h (j+1) o (by simpa[fQ]using hj);rw[<-this];congr 1;omega)]
theorem cO{ps:List CP}{outs:List Sh}{r:AV}{a:zy (outs.map Q1)}(y:zn ps)(h:aL [] outs r=Q1 a):rJ ps outs r (ar ps y)=Q1 (a,y):=by
 unfold rJ ar;simp only[bF,if_true,h]
 rw[iZ ps 1 y (λj o hj=>by
  unfold jz;rw[nD,Ac,aY,hj];rfl)]
section
variable {σ:Type} {t:σ->Tr (σ⊕aw)}
theorem dc{β:Type}(N:Nat)(st:β->Nat->σ)(I:β->Nat->Prop)(Φ:aw->Prop)(M:Nat)
  (hstep:∀b i,i<N->I b i->(∃b',I b' (i+1)/\(t (st b i)).val=Q1 (.inl (st b' (i+1))))\/∃r,(t (st b i)).val=Q1 (.inr r)/\Φ r)
  (hend:∀b n,I b N->M<=n->∃r,cP t n (st b N)=Q1 r/\Φ r):
  ∀(m i:Nat)(b:β)(n:Nat),N-i=m->i<=N->I b i->M+m<=n->∃r,cP t n (st b i)=Q1 r/\Φ r
 | 0,i,b,n,hm,hi,hI,hn=>by
  obtain rfl:i=N:=by omega
  exact hend b n hI ow
 | m+1,i,b,n,hm,hi,hI,hn=>by
  obtain⟨n,rfl⟩:∃k,n=k+1:=⟨n-1,ow⟩;rcases hstep b i ow hI with⟨b',hI',h⟩|⟨r,h1,h2⟩
  ·obtain⟨r,h1,h2⟩:=dc N st I Φ M hstep hend m (i+1) b' n ow ow hI' ow;exact⟨r,by rw[cP,h];exact h1,h2⟩
  ·exact⟨r,by rw[cP,h1],h2⟩
theorem cA{n:Nat}{s:σ}:cP t (n+1) s=match(t s).val with
  |some (.inl s')=>cP t n s'
  |some (.inr r)=>Q1 r
  |none=>Q2:=rfl
end
theorem jf.cells{C:eP}{w:World}{U:Nat->Prop}{ρ:Nat->Option Value}{hp:Nat->AO}{k:Nat}{cs cs':List AV}(hH:jf C w U ρ hp)(hk:hp k=.box cs)
  (hr:∀vals,di w U ρ cs vals->di w U ρ cs' vals):jf C w U ρ (λj=>if j=k then .box cs' else hp j):=by
 have hown:∀id b,af ρ id (if id=k then .box cs' else hp id) b->af ρ id (hp id) b:=by
  intro id b ho;by_cases hid:id=k
  ·subst hid;rw[if_pos rfl]at ho;rw[hk];obtain⟨_,v,hv,hb⟩:=ho;exact⟨rfl,v,hv,hb⟩
  ·rw[if_neg hid]at ho;exact ho
 refine⟨λid=>?_,λid1 id2 b o1 o2=>hH.inj id1 id2 b (hown _ _ o1) (hown _ _ o2),λid b o=>hH.blk id b (hown _ _ o)⟩;by_cases hid:id=k
 ·subst hid;have h0:=hH.ob id;rw[hk]at h0;obtain⟨b,T,vals,h1,h2,h3,h4,h5⟩:=h0;simp only[if_true];exact⟨b,T,vals,h1,h2,h3,hr _ h4,h5⟩
 ·simp only[if_neg hid];exact hH.ob id
def bW(ps qs:List CP)(y:zn ps)(z:zn qs):List AO:=.box (eu 2 ps y)::.box (eu (2+aR ps) qs z)::(fQ ps y++fQ qs z)
theorem oA(ps qs:List CP)(y:zn ps)(z:zn qs):(bW ps qs y z).length=aR ps+aR qs+2:=by
 simp[bW,bF]
theorem jf.box2{C:eP}{w:World}{U:Nat->Prop}{ρ:Nat->Option Value}{cs ds:List AV}{os:List AO}{ps qs:List CP}{y:zn ps}{z:zn qs}(hH:jf C w U ρ (λj=>((Qa cs::Qa ds::os).getD j .dead)))(hl:os.length=aR ps+aR qs)
  (hm:ck (jz (.box cs::.box ds::os)) 2 ps cs=Q1 y) (hm2:ck (jz (.box cs::.box ds::os)) (2+aR ps) qs ds=Q1 z):jf C w U ρ (λj=>(bW ps qs y z).getD j .dead):=by
 have h1:=hH.cells (k:=0) (cs:=cs) (cs':=eu 2 ps y) rfl (λvals h=>(fk ps 2 cs y vals hm h).1);have h2:=h1.cells (k:=1) (cs:=ds) (cs':=eu (2+aR ps) qs z) rfl (λvals h=>(fk qs _ ds z vals hm2 h).1);obtain⟨b0,T0,v0,_,_,_,r0,_⟩:=hH.ob 0;obtain⟨b1,T1,v1,_,_,_,r1,_⟩:=hH.ob 1;have k1:=(fk ps 2 cs y v0.toList hm r0).2;have k2:=(fk qs _ ds z v1.toList hm2 r1).2;have e:(λj=>(bW ps qs y z).getD j .dead)=λj=>if j=1 then .box (eu (2+aR ps) qs z)else if j=0 then .box (eu 2 ps y)else(Qa cs::Qa ds::os).getD j .dead:=by
  funext j
  match j with
  |0=>rfl
  |1=>rfl
  | j+2=>
   rw[if_neg ow,if_neg ow];simp only[bW,Ac];by_cases hj:j<aR ps
   ·have hj':j<(fQ ps y).length:=by rw[bF];exact hj
    have:=k1 j _ (zQ hj');simp only[jz,nD 2 j,Ac]at this;rw[this,aY,mI hj',zQ hj'];rfl
   ·by_cases hj2:j<aR ps+aR qs
    ·have hj':j-aR ps<(fQ qs z).length:=by rw[bF];omega
     have:=k2 (j-aR ps) _ (zQ hj');rw[show 2+aR ps+(j-aR ps)=j+2 by omega]at this;simp only[jz,Ac]at this;rw[this,aY,nQ (by rw[bF];omega),bF,zQ hj'];rfl
    ·rw[aY,aY,eX (by simp[bF];omega),eX ow]
 rw[e];exact h2
def xS(ps qs:List CP)(outs:List Sh)(r:AV)(h:List AO):Option (zy (outs.map Q1)×zn ps×zn qs):=match h with
 | .box cs::.box ds::os=>if os.length=aR ps+aR qs then match aL [] outs r,ck (jz (.box cs::.box ds::os)) 2 ps cs,ck (jz (.box cs::.box ds::os)) (2+aR ps) qs ds with
   |some a,Q1 y,Q1 z=>Q1 (a,y,z)
   |_,_,_=>Q2
  else Q2
 |_=>Q2
def XJ(ps qs:List CP)(ks outs:List Sh)(ps' qs':List CP)(c:zn ps->zn qs->zy (ks.map Q1)->Bool)(g:zn ps->zn qs->zy (ks.map Q1)->zy (outs.map Q1)×zn ps'×zn qs'):iv (Q2::Q2::ks.map Q1):=λx h=>match x.1,x.2.1,h with
 | .ptr 0 0,.ptr 1 0,.box cs::.box ds::os=>if os.length=aR ps+aR qs then match ck (jz (.box cs::.box ds::os)) 2 ps cs,ck (jz (.box cs::.box ds::os)) (2+aR ps) qs ds with
   |some y,Q1 z=>.chk (c y z x.2.2) (.ok (xv outs (g y z x.2.2).1,bW ps' qs' (g y z x.2.2).2.1 (g y z x.2.2).2.2))
   |_,_=>.err
  else .err
 |_,_,_=>.err
def PP(ps qs:List CP)(ks outs:List Sh)(ps' qs':List CP)(c:zn ps->zn qs->zy (ks.map Q1)->Bool)(g:zn ps->zn qs->zy (ks.map Q1)->zy (outs.map Q1)×zn ps'×zn qs'):zX:=bh (Q2::Q2::ks.map Q1) (XJ ps qs ks outs ps' qs' c g)
theorem Pu{P:Program}{gl:Nat->AV}{E:bT}{k:FuncId}{f:Func}{ps qs:List CP}{ks outs:List Sh}{ps' qs':List CP}{c:zn ps->zn qs->zy (ks.map some)->Bool}{g:zn ps->zn qs->zy (ks.map some)->zy (outs.map some)×zn ps'×zn qs'}(hf:zI E.P k f (ks.length+2))
  (h:∀y z x,c y z x=Q3->∀C:eP,(∀id,aR ps+aR qs+2<=id->C.ρ0 id=Q2)->Reach E C k (bq f) (bc f.ntmps (.ptr 0 0::.ptr 1 0::iX (ks.map Q1) x) (bW ps qs y z)) (λr h=>xS ps' qs' outs r h=Q1 (g y z x))) (qp:E.P=P:=by rfl) (qg:E.gl=gl:=by rfl):
  nO P gl k (PP ps qs ks outs ps' qs' c g):=by
 subst qp qg;refine dI (by simpa using hf) λx h0 res hx C hC=>?_
 obtain⟨x0,x1,x⟩:=x;unfold XJ at hx;simp only at hx;split at hx
 ·rename_i cs ds os;split at hx
  ·rename_i hos;split at hx
   ·rename_i y z hy hz;simp only[Tr.val]at hx;split at hx
    ·rename_i hc;simp only[bw]at hx;subst hx;have hR:=h y z x hc C (λid hid=>hC id (by simpa[hos]using hid));intro b cs' a w U ρ h1 h2 hcn hW;have hH:jf C w U ρ (λj=>((Qa cs::Qa ds::os).getD j .dead)):=hcn.hp
     have hcn':Cn C (bc f.ntmps (.ptr 0 0::.ptr 1 0::iX (ks.map Q1) x) (bW ps qs y z)) a w U ρ:=
      ⟨hcn.tm,hH.box2 hos hy hz,λid hid=>hcn.new id (by have hid:(bW ps qs y z).length<=id:=hid;rw[oA]at hid;simpa[bc,hos]using hid),hcn.df,hcn.r0⟩
     obtain⟨e,w',fr,⟨v,r,h',U',ρ',he,hq,hrv,hH',hnew,hr0,hWd⟩,hcm,hf',hl⟩:=hR b cs' a w U ρ h1 h2 hcn' hW;unfold xS at hq;split at hq
     ·rename_i cs2 ds2 os2;split at hq
      ·rename_i hos2;split at hq
       ·rename_i a' y' z' ha' hy' hz';simp only[bw]at hq;refine⟨e,w',fr,⟨v,_,_,U',ρ',he,by rw[<-hq],EV ha' hrv,hH'.box2 hos2 hy' hz',λid hid=>hnew id (by rw[oA]at hid;simpa[hos2]using hid),hr0,hWd⟩,hcm,hf',hl⟩
       ·cases hq
      ·cases hq
     ·cases hq
    ·simp at hx
   ·simp at hx
  ·simp at hx
 ·simp at hx
def MN{σ:Type}(outs:List Sh)(ps' qs':List CP)(t:σ->Tr (σ⊕aw))(n:Nat)(i:Tr (σ⊕aw)):Option (zy (outs.map Q1)×zn ps'×zn qs'):=(cT t n i).bind λr=>xS ps' qs' outs r.1 r.2
theorem zay{P:Program}{gl:Nat->AV}{σ:Type}{E:bT}{k:FuncId}{f:Func}{ps qs:List CP}{ks outs:List Sh}{ps' qs':List CP}{keep:Nat->aM}{gas n:Nat}{e:σ->Nat×St}{t:σ->Tr (σ⊕aw)}{i:zn ps->zn qs->zy (ks.map Q1)->Tr (σ⊕aw)}{c:zn ps->zn qs->zy (ks.map Q1)->Bool}{g:zn ps->zn qs->zy (ks.map Q1)->zy (outs.map Q1)×zn ps'×zn qs'}
  (hE:zw E) (hf:zI E.P k f (ks.length+2)) (hgo:∀y z x,run E (aR ps+aR qs+2) keep f.results.toList gas (bq f) (bc f.ntmps (.ptr 0 0::.ptr 1 0::iX (ks.map Q1) x) (bW ps qs y z))=(i y z x).map (lf f e))
  (hon:∀s,run E (aR ps+aR qs+2) keep f.results.toList gas (zZ f (e s).1) (e s).2=(t s).map (lf f e))
  (hc:∀y z x,c y z x=(MN outs ps' qs' t n (i y z x)).isSome) (hg:∀y z x,g y z x=(MN outs ps' qs' t n (i y z x)).getD (cn outs,fM ps',fM qs')) (qp:E.P=P:=by rfl) (qg:E.gl=gl:=by rfl):nO P gl k (PP ps qs ks outs ps' qs' c g):=by
 subst qp qg;refine Pu hf λy z x hcx C hC=>?_
 rw[hc,Option.isSome_iff_exists]at hcx;obtain⟨u,hu⟩:=hcx;rw[hg,hu];unfold MN at hu;rw[fJ]at hu;obtain⟨r,h1,h2⟩:=hu;exact oP (Q:=λr h=>xS ps' qs' outs r h=Q1 u) hE hf hC (n+1) _ _ r (by rw[mT hon (hgo y z x)];exact h1) h2
section
variable {σ:Type} {t:σ->Tr (σ⊕aw)}
def zV(t:σ->Tr (σ⊕aw))(k:Nat)(s:σ)(r:aw):Prop:=∀n,k<=n->cP t n s=Q1 r
def zR(t:σ->Tr (σ⊕aw))(m:Nat)(s s':σ):Prop:=∀k r,zV t k s' r->zV t (k+m) s r
theorem zV.mono{k k':Nat}{s:σ}{r:aw}(h:zV t k s r)(hk:k<=k'):zV t k' s r:=λn hn=>h n ow
theorem zV.of{s:σ}{r:aw}(h:(t s).val=Q1 (.inr r)):zV t 1 s r:=by
 intro n hn;obtain⟨n,rfl⟩:∃k,n=k+1:=⟨n-1,ow⟩;rw[cP,h]
theorem zR.of{s s':σ}(h:(t s).val=Q1 (.inl s')):zR t 1 s s':=by
 intro k r hr n hn;obtain⟨n,rfl⟩:∃k,n=k+1:=⟨n-1,ow⟩;rw[cP,h];exact hr n ow
theorem zR.refl(s:σ):zR t 0 s s:=λ_ _ h=>h
theorem zR.trans{a b:Nat}{s s' s'':σ}(h1:zR t a s s')(h2:zR t b s' s''):zR t (b+a) s s'':=λk r h=>(h1 _ _ (h2 k r h)).mono ow
theorem zR.mono{a b:Nat}{s s':σ}(h:zR t a s s')(hk:a<=b):zR t b s s':=λk r hr=>(h k r hr).mono ow
theorem zR.ends{a k:Nat}{s s':σ}{r:aw}(h1:zR t a s s')(h2:zV t k s' r):zV t (k+a) s r:=h1 k r h2
theorem zR.all(m:Nat)(st:Nat->σ):∀(N:Nat),(∀i,i<N->zR t m (st i) (st (i+1)))->zR t (N*m) (st 0) (st N)
 |0,_=>(zR.refl _).mono ow
 |N+1,h=>((zR.all m st N λi hi=>h i ow).trans (h N ow)).mono (by rw[mH];omega)
theorem lN{Φ:aw->Prop}(m:Nat)(st:Nat->σ)(P:Nat->Prop):∀(N:Nat),(∀i,i<N->(∀j,j<i->P j)->(P i/\zR t m (st i) (st (i+1)))\/(¬P i/\∃r,zV t m (st i) r/\Φ r))->
  ((∀i,i<N->P i)/\zR t (N*m) (st 0) (st N))\/((¬∀i,i<N->P i)/\∃r,zV t (N*m) (st 0) r/\Φ r)
 |0,_=>.inl ⟨λi hi=>absurd hi ow,(zR.refl _).mono ow⟩
 | N+1,h=>by
  rcases lN m st P N λi hi=>h i ow with⟨h1,h2⟩|⟨h1,r,h2,h3⟩
  ·rcases h N ow h1 with⟨h4,h5⟩|⟨h4,r,h5,h6⟩
   ·refine .inl ⟨λi hi=>?_,(h2.trans h5).mono (by rw[mH];omega)⟩;rcases Nat.lt_succ_iff_lt_or_eq.1 hi with hi|rfl
    ·exact h1 i hi
    ·exact h4
   ·exact .inr ⟨λh=>h4 (h N ow),r,(h2.ends h5).mono (by rw[mH];omega),h6⟩
  ·exact .inr ⟨λh=>h1 λi hi=>h i ow,r,h2.mono (by rw[mH];omega),h3⟩
theorem zx{outs:List Sh}{n k:Nat}{i:Tr (σ⊕aw)}{s:σ}{r:aw}{y:zy (outs.map Q1)}(hi:i.val=Q1 (.inl s))(h:zV t k s r)(hk:k<=n)(hr:aL r.2 outs r.1=Q1 y):al outs t n i=Q1 y:=by
 unfold al cT;rw[hi];show(cP t n s).bind _=_;rw[h n hk];exact hr
theorem zM{outs:List Sh}{n:Nat}{i:Tr (σ⊕aw)}{r:aw}{y:zy (outs.map Q1)}(hi:i.val=Q1 (.inr r))(hr:aL r.2 outs r.1=Q1 y):al outs t n i=Q1 y:=by
 unfold al cT;rw[hi];exact hr
theorem SH{outs:List Sh}{ps:List CP}{n:Nat}{i:Tr (σ⊕aw)}{r:aw}{y:zy (outs.map Q1)×zn ps}(hi:i.val=Q1 (.inr r))(hr:rJ ps outs r.1 r.2=Q1 y):kA outs ps t n i=Q1 y:=by
 unfold kA cT;rw[hi];exact hr
end
noncomputable section
theorem Reach.lenA{E:bT}{C:eP}{fn:FuncId}{todo:List Item}{st:St}{Q:AV->List AO->Prop}(j c:Nat)(e:Sh)(l:List (Sem e)){cs:List AV}(h1:st.tmps[j]?=Q1 (.agg cs))(h2:cs[c]?=Q1 (.sl e l))(h:l.length<=aE->Reach E C fn todo st Q):Reach E C fn todo st Q:=by
 intro b cs' a w U ρ q1 q2 hc hW;refine h ?_ b cs' a w U ρ q1 q2 hc hW;have hlt:j<a.tmps.toList.length:=by rw[<-hc.tm.len];exact(cV.1 h1).1
 have:=hc.tm.rv j _ _ h1 (zQ hlt);generalize a.tmps.toList[j]=v at this;cases this with
 |agg _ vs hlv _ hr=>
 have hlt:c<vs.length:=by rw[<-hlv];exact(cV.1 h2).1
 have:=hr c _ _ h2 (zQ hlt);generalize vs[c]=v at this;cases this with
 |sl0=>simp
 |sl _ _ _ _ _ _ _ hm=>exact hm
abbrev zgE:Nat->aM:=λj=>if j=3 then{slots:=[0,3,4],prom:=[(3,Q2,zf)]}else{ }
inductive Nw where
 |h3 (l0:List (Sem zf)) (i4:Int) (lh_0:List (Sem zf))
abbrev zji:Nw->Nat×St
 |.h3 l0 i4 lh_0=>(3,⟨tm 24 [(0,sl zf l0),(3,AV.vec 0),(4,ai i4)],[AO.vec zf lh_0]⟩)
def zkG(x0:Sem zf.sl):Tr (Nw⊕aw):=Tr.to (Nw.h3 x0 0 [])
def Wt:Nw->Tr (Nw⊕aw)
 | .h3 l0 i4 lh_0=>
  let a0:=l0.getD i4.toNat (zi zf)
  let a1:=[nz a0]
  br (bif Q0 (i4<(↑l0.length:Int))then Q0 (i4<14)else Q4)
  (chk (zP i4 l0.length) (chk (JJ a0) (chk (Q0 (lh_0.length+a1.length<=1073741824)) (Tr.to (Nw.h3 l0 (IntKind.i64.wrap (i4+1)) (lh_0++a1))))))
  (re (AV.vec 0) [AO.vec zf lh_0])
def zhj(x0:Sem zf.sl):=al [zf.sl] Wt 100000000 (zkG x0)
def zc6:=FT [zf.sl] [zf.sl] λx=>zhj x.1
theorem Pm:FK 14 zc6:=vn.T1 (f:=Tryz.f14) (keep:=zgE) (e:=zji)
abbrev zgQ:Nat->aM:=λj=>if j=3 then{slots:=[0,3,4],prom:=[(3,Q2,zj)]}else{ }
inductive JW where
 |h3 (l0:List (Sem zj)) (i4:Int) (lh_0:List (Sem zj))
abbrev zjq:JW->Nat×St
 |.h3 l0 i4 lh_0=>(3,⟨tm 33 [(0,sl zj l0),(3,AV.vec 0),(4,ai i4)],[AO.vec zj lh_0]⟩)
def zkK(x0:Sem zj.sl):Tr (JW⊕aw):=Tr.to (JW.h3 x0 0 [])
def Wv:JW->Tr (JW⊕aw)
 | .h3 l0 i4 lh_0=>
  let a0:=l0.getD i4.toNat (zi zj)
  let a1:=(↑(length a0.1):Int)
  let a2:=[(Qg (toNat 20-toNat 0) (Qh (toNat 0) a0.1),a0.2)]
  let a3:=IntKind.i64.wrap (i4+1)
  let a4:=[a0]
  br (bif Q0 (i4<(↑l0.length:Int))then Q0 (i4<9)else Q4)
  (chk (zP i4 l0.length) (br (Q0 (a1>20)) (chk (Q0 (0<=0)&&Q0 (0<=20)&&Q0 (20<=a1)) (chk (Q0 (lh_0.length+a2.length<=1073741824)) (Tr.to (JW.h3 l0 a3 (lh_0++a2))))) (chk (Q0 (lh_0.length+a4.length<=1073741824)) (Tr.to (JW.h3 l0 a3 (lh_0++a4))))))
  (re (AV.vec 0) [AO.vec zj lh_0])
def zhi(x0:Sem zj.sl):=al [zj.sl] Wv 100000000 (zkK x0)
def zdx:=FT [zj.sl] [zj.sl] λx=>zhi x.1
theorem Pq:FK 40 zdx:=vn.T1 (f:=Tryz.f40) (keep:=zgQ) (e:=zjq)
def ln(l:Sem zf.sl):Sem zf.sl:=(Qg 14 l).map nz
def jl(l:Sem zj.sl):Sem zj.sl:=(Qg 9 l).map λc:Sem zj=>((iT c.1,c.2):Sem zj)
theorem uH(k:Nat){α:Type}(l:List α):l.take (min k l.length)=l.take k:=by
 rcases Nat.le_total k l.length with h|h
 ·rw[Dx h]
 ·rw[Dv h,jE,LY h]
theorem VO{i k n:Nat}{K:Int}(hk:K=(k:Int))(h:i<min k n):(bif Q0 ((i:Int)<(n:Int))then Q0 ((i:Int)<K)else Q4)=Q3:=by
 have h1:(i:Int)<n:=by omega
 have h2:(i:Int)<K:=by omega
 rw[zt h1,zt h2];rfl
theorem Mw{k:Nat}{K:Int}(hk:K=(k:Int))(n:Nat):(bif Q0 (((min k n:Nat):Int)<(n:Int))then Q0 (((min k n:Nat):Int)<K)else Q4)=Q4:=by
 rcases Nat.le_total k n with h|h
 ·rw[Dx h,hk];simp
 ·rw[Dv h];simp
theorem G8{α:Type}{l:List α}{i:Nat}(h:i<l.length)(d:α):l.take (i+1)=l.take i++[l.getD i d]:=by
 rw[List.take_add_one,zQ h,aY,zQ h];rfl
def HV:=XL.addL [(14,zc6),(40,zdx)]
theorem vo:zw HV:=vn.addL<|fc Pm<|fc Pq jj
end
theorem mG{P:Program}{gl:Nat->AV}{k:FuncId}{ks outs:List Sh}{c:zy (ks.map Q1)->Bool}{g:zy (ks.map Q1)->zy (outs.map Q1)}(h:nO P gl k (zO ks outs c g))(hc:∀x,c x=Q3):nO P gl k (aC ks outs g):=
 LR (by rwa [show c=λ_=>Q3 from funext hc]at h)
theorem CK(v:V):JJ v=Q3:=by
 unfold JJ;cases h:Q0 ((↑(length v.2.2):Int)>60)
 ·rfl
 ·simp only[aN]at h;simp only[ag,aD,aN];omega
theorem Lk(s:zA):Nj s=Q3:=by
 unfold Nj;cases h:Q0 ((↑(length s):Int)>20)
 ·rfl
 ·simp only[aN]at h;simp only[ag,aD,aN];omega
theorem Oo(l:List (Sem zf)):zhj l=Q1 (ln l,()):=by
 have g:=zR.all (t:=Wt) 1 (λi=>.h3 l (i:Int) ((Qg i l).map nz)) (min 14 l.length) λi hi=>zR.of (by
  have hl:i<l.length:=by omega
  have hn:Q0 ((List.map nz (Qg i l)).length+[nz (l.getD i (zi zf))].length<=1073741824)=Q3:=by simp;omega
  simp only[Wt,Tr.val,VO (k:=14) (K:=14) rfl hi,zu hl,if_true,aJ,CK,hn];rw[zq i um,G8 hl (zi zf),iB];rfl)
 rw[uH]at g;refine zx rfl (g.ends (k:=1) (r:=(.vec 0,[.vec zf (ln l)])) (zV.of ?_)) ow rfl;simp only[Wt,Tr.val,Mw (k:=14) (K:=14) rfl,zG,if_false];rfl
theorem Om(l:List (Sem zj)):zhi l=Q1 (jl l,()):=by
 have g:=zR.all (t:=Wv) 1 (λi=>.h3 l (i:Int) ((Qg i l).map λc:Sem zj=>((iT c.1,c.2):Sem zj))) (min 9 l.length) λi hi=>zR.of (by
  have hl:i<l.length:=by omega
  have ht:(Qg (i+1) l).map (λc:Sem zj=>((iT c.1,c.2):Sem zj))=(Qg i l).map (λc:Sem zj=>((iT c.1,c.2):Sem zj))++[(iT (List.getD l i (zi zj)).1,(List.getD l i (zi zj)).2)]:=by rw[G8 hl (zi zj),iB];rfl
  have hi':((Qg i l).map (λc:Sem zj=>((iT c.1,c.2):Sem zj))).length<=9:=by rw[cN,ot];omega
  rw[ht];generalize(Qg i l).map (λc:Sem zj=>((iT c.1,c.2):Sem zj))=acc at hi'⊢;have hn:Q0 (acc.length+1<=1073741824)=Q3:=zt ow;simp only[Wv,Tr.val,VO (k:=9) (K:=9) rfl hi,zu hl,if_true,aJ,fi,nC,kd,hn];rw[zq i um];unfold iT;by_cases h:(length (List.getD l i (zi zj)).1:Int)>20
  ·have h20:Q0 ((20:Int)<=(length (List.getD l i (zi zj)).1:Int))=Q3:=zt ow;simp only[zt h,h20,if_true];rfl
  ·simp only[ah h,zG,if_false])
 rw[uH]at g;refine zx rfl (g.ends (k:=1) (r:=(.vec 0,[.vec zj (jl l)])) (zV.of ?_)) ow rfl;simp only[Wv,Tr.val,Mw (k:=9) (K:=9) rfl,zG,if_false];rfl
def zc7:zX:=aC [zf] [zf] λx=>(nz x.1,())
theorem Zl:FK 8 zc7:=mG XA λx=>CK x.1
def zcZ:zX:=aC [Q6] [Q6] λx=>(iT x.1,())
theorem Zf:FK 114 zcZ:=mG Xz λx=>Lk x.1
def F6t:zX:=aC [zf.sl] [zf.sl] λx=>(ln x.1,())
theorem zeV:FK 14 F6t:=gH Pm λx=>Oo x.1
def zc2:zX:=aC [zj.sl] [zj.sl] λx=>(jl x.1,())
theorem Zi:FK 40 zc2:=gH Pq λx=>Om x.1
abbrev C8:Nat->aM:=λ_=>{slots:=[0,1,7,8]}
def oR{K:List Item}{e:Sh}(l:List (Sem e))(p:Sem e->Bool)(st:Int->St)(h0:List AO)(i:Int):Tr zB:=.br (Q0 (i<(l.length:Int))) (.chk (zP i l.length) (.br (p (l.getD i.toNat (zi e))) (.ok (.ret (.int .i64 i) h0)) (.ok (.head 2 K (st (IntKind.i64.wrap (i+1))))))) (.ok (.ret (.int .i64 (-1)) h0))
theorem mr{E:bT}{C:eP}{k:FuncId}{f:Func}{n n0:Nat}{keep:Nat->aM}{fuel:Nat}{K:List Item}{e:Sh}(l:List (Sem e))(p:Sem e->Bool)(st:Int->St){h0:List AO}
  (hE:zw E) (hf:zI E.P k f n) (hC:∀id,n0<=id->C.ρ0 id=Q2)
  (hon:∀i,run E n0 keep f.results.toList fuel K (st i)=oR (K:=K) l p st h0 i) (hl:l.length<=aE):∀(m i:Nat),l.length-i=m->i<=l.length->
  Reach E C k K (st i) (λr h=>(r,h)=(.int .i64 (ae p (l.drop i) i),h0)):=by
 intro m
 induction m with
 | zero=>
  intro i hE.mix' hi;obtain rfl:i=l.length:=by omega
  refine zD hE hf hC (hon _) ?_;simp only[oR,Tr.val,zz,jg];rfl
 | succ m IH=>
  intro i hE.mix' hi;have hlt:i<l.length:=by omega
  refine zD hE hf hC (hon _) ?_;rw[fj hlt];simp only[oR,Tr.val,zH hlt,zu hlt,cw l _ hlt,zq i ow,if_true,ae];split
  ·rfl
  ·exact IH (i+1) ow ow
abbrev yG(t:Int)(l:List (Sem zg))(i:Int):St:={tmps:=[.sl zg l,.clo (.func 288) [] [.ptr 0 0],.any,.any,.any,.any,.any,.int .i64 l.length,.int .i64 i,.any,.any,.any,.any,.any,.any,.any,.any,.any,.any],heap:=[.box [.int .i64 t]]}
theorem QT(t:Int)(l:List (Sem zg)):run HV 1 C8 Tryz.f320.results.toList 300 (bq Tryz.f320) (bc Tryz.f320.ntmps [.sl zg l,.clo (.func 288) [] [.ptr 0 0]] [.box [.int .i64 t]])=.ok (.head 2 (zZ Tryz.f320 2) (yG t l 0)):=kw
theorem Sz(t:Int)(l:List (Sem zg))(i:Int):run HV 1 C8 Tryz.f320.results.toList 300 (zZ Tryz.f320 2) (yG t l i)=oR (K:=zZ Tryz.f320 2) (e:=zg) l (λx=>bif x !=t then x !=0 else Q4) (yG t l) [.box [.int .i64 t]] i:=kw
theorem Sk:zI HV.P 320 Tryz.f320 2:=bQ kw
def zfm:iv [Q1 (.sl zg),Q2]:=λx h=>match x,h with
 |(l,.clo (.func 288) [] [.ptr 0 0],_),[.box [.int .i64 t]]=>.ok (.int .i64 (ae (λx=>bif x !=t then x !=0 else Q4) l 0),[.box [.int .i64 t]])
 |_,_=>.err
def zcL:zX:=bh [Q1 (.sl zg),Q2] zfm
theorem Y1:FK 320 zcL:=by
 refine dI Sk λx h0 res hx C hC=>?_
 unfold zfm at hx;split at hx
 ·rename_i l u t;simp only[Tr.val_ok,bw]at hx;subst hx;refine Reach.len 0 zg l rfl λhl=>?_
  refine zD (n0:=1) vo Sk hC (QT t l) ?_;exact mr l (λx=>bif x !=t then x !=0 else Q4) (yG t l) vo Sk hC (Sz t l) hl _ 0 rfl (ba _)
 ·simp at hx
noncomputable def te:=HV.addL [(8,zc7),(114,zcZ),(14,F6t),(40,zc2),(320,zcL)]
theorem lU:zw te:=vo.addL<|fc Zl<|fc Zf<|fc zeV<|fc Zi<|fc Y1 jj
noncomputable def F78:zX:=bh [Q1 (.sl zg),Q2] (fL te Tryz.f287 [Q1 (.sl zg),Q2])
theorem ze1:FK 287 F78:=cr _ lU (bQ kw)
def dQ(x0:Sem Q6):Sem Q7:=pu x0
theorem zhy:zI te.P 208 Tryz.f208 1:=bQ kw
theorem zjW(x0:Sem Q6):rn te 0 (λ_=>{ }) Tryz.f208 [zC Q6 x0] []=Tr.ok (zB.ret (AV.bool (pu x0)) []):=kw
def F25:zX:=aC [Q6] [Q7] λx=>(dQ x.1,())
theorem zej:FK 208 F25:=by
 refine zW zhy λx C hC=>?_
 refine aQ lU zhy (λid _=>hC id) (zjW x.1) ?_;simp only[Tr.val,dQ];repeat' split
 all_goals rfl
def zN(x0:Sem zo)(x1:Sem Q6):Sem zg:=ae (λc=>c.1==x1) x0.2.1 0
theorem zhu:zI te.P 140 Tryz.f140 2:=bQ kw
theorem zjS(x0:Sem zo)(x1:Sem Q6):rn te 0 (λ_=>{ }) Tryz.f140 [zC zo x0,zC Q6 x1] []=Tr.ok (zB.ret (ai (ae (λc=>c.1==x1) x0.2.1 0)) []):=kw
def F17:zX:=aC [zo,Q6] [zg] λx=>(zN x.1 x.2.1,())
theorem zee:FK 140 F17:=by
 refine zW zhu λx C hC=>?_
 refine aQ lU zhu (λid _=>hC id) (zjS x.1 x.2.1) ?_;simp only[Tr.val,zN];repeat' split
 all_goals rfl
def zY(x0:Sem zj.sl)(x1:Sem Q6):Sem zg:=ae (λc=>c.1==x1) x0 0
theorem zhT:zI te.P 248 Tryz.f248 2:=bQ kw
theorem zkf(x0:Sem zj.sl)(x1:Sem Q6):rn te 0 (λ_=>{ }) Tryz.f248 [zC zj.sl x0,zC Q6 x1] []=Tr.ok (zB.ret (ai (ae (λc=>c.1==x1) x0 0)) []):=kw
def F48:zX:=aC [zj.sl,Q6] [zg] λx=>(zY x.1 x.2.1,())
theorem zeD:FK 248 F48:=by
 refine zW zhT λx C hC=>?_
 refine aQ lU zhT (λid _=>hC id) (zkf x.1 x.2.1) ?_;simp only[Tr.val,zY];repeat' split
 all_goals rfl
noncomputable def DG:=te.addL [(287,F78),(208,F25),(140,F17),(248,F48)]
theorem vp:zw DG:=lU.addL<|fc ze1<|fc zej<|fc zee<|fc zeD jj
def lF(x0:Sem zg.sl)(x1:Sem zg):Sem Q7:=!Q0 (ae (λx=>bif x !=x1 then x !=0 else Q4) x0 0>=0)
theorem zh3:zI DG.P 249 Tryz.f249 2:=bQ kw
theorem zkr(x0:Sem zg.sl)(x1:Sem zg):rn DG 0 (λ_=>{ }) Tryz.f249 [zC zg.sl x0,zC zg x1] []=Tr.ok (zB.ret (AV.bool !Q0 (ae (λx=>bif x !=x1 then x !=0 else Q4) x0 0>=0)) []):=kw
def F66:zX:=aC [zg.sl,zg] [Q7] λx=>(lF x.1 x.2.1,())
theorem zeT:FK 249 F66:=by
 refine zW zh3 λx C hC=>?_
 refine aQ vp zh3 (λid _=>hC id) (zkr x.1 x.2.1) ?_;simp only[Tr.val,lF];repeat' split
 all_goals rfl
def zK(x0:Sem Q6):Sem Q7:=bif dQ x0 then !iR x0 else Q4
theorem zht:zI DG.P 168 Tryz.f168 1:=bQ kw
theorem zjR(x0:Sem Q6):rn DG 0 (λ_=>{ }) Tryz.f168 [zC Q6 x0] []=Tr.ok (zB.ret (AV.bool (bif dQ x0 then !iR x0 else Q4)) []):=kw
def F16:zX:=aC [Q6] [Q7] λx=>(zK x.1,())
theorem zed:FK 168 F16:=by
 refine zW zht λx C hC=>?_
 refine aQ vp zht (λid _=>hC id) (zjR x.1) ?_;simp only[Tr.val,zK];repeat' split
 all_goals rfl
noncomputable def Qy:=DG.addL [(249,F66),(168,F16)]
theorem DH:zw Qy:=vp.addL<|fc zeT<|fc zed jj
end Cad
