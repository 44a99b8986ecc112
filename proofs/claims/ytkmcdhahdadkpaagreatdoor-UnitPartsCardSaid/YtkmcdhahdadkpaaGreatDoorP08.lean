/- The library's functions. Functions from plain data to plain data, where a guard holds; recursion. Values: what may be. Values: what they say. Loops; values in order. -/
import Derived.Test.YtkmcdhahdadkpaaGreatDoorP06
import Derived.Test.YtkmcdhahdadkpaaGreatDoorP07
import Derived.Test.YtkmcdhahdadkpaaGreatDoorP05
namespace Cad
open Go Go.Proofs Go.RowKit Go.Lib
open List renaming drop→Qh,take→Qg
open AV renaming agg→Qd
open AO renaming box→Qa
open Sh renaming bool→Q7,str→Q6
open Bool renaming false→Q4,true→Q3
open Option renaming none→Q2,some→Q1
open Decidable renaming decide→Q0
open Int (toNat)
open List (length)
open Tr (chk br)
open AV (nils agg tup ptr kb str sl)
theorem lF.below{w w':World}(h:Below w.heap.size w w'):lF w w':=
 ⟨h.size,h.os,h.output,h.tape,λa ha=>Ab (h.block a.block ha)⟩
theorem eA{E:bX}{C:eP}{w w':World}{U:Nat->Prop}{r:AV}{v:Value}{h0:List AO}{ρ:Nat->Option Value}(hH:jf C w U ρ (λj=>h0.getD j .dead))(hnew:∀id,h0.length<=id->ρ id=Q2)
  (hr0:∀id v,C.ρ0 id=Q1 v->ρ id=Q1 v) (hW:Wd E.gl C w U) (hb:Below w.heap.size w w') (hr:Rv w' U ρ r v):PE E C (λr' h=>(r',h)=(r,h0)) (.returned v) w':=by
 have hk:∀b,b<w.heap.size->w'.heap[b]?=w.heap[b]?:=hb.block;refine⟨v,r,h0,U,ρ,rfl,rfl,hr,⟨λid=>?_,hH.inj,hH.blk⟩,hnew,hr0,⟨hW.ext.trans (lF.below hb),λb hb' hn=>?_,λb hu=>iA (hW.ub b hu) hb.size,hW.u1,hW.u2,λg=>?_⟩⟩
 ·exact(hH.ob id).mono hb.size (λb hb' _=>hk b hb') (λ_ _ h=>h) (λ_ _ h=>h) (λb ho=>⟨hk b ((hH.ob id).inU ho).2,((hH.ob id).inU ho).1⟩)
 ·rw[hk b (iA hb' hW.ext.sz)];exact hW.same b hb' hn
 ·exact(hW.gl g).mono hb.size (λb hb' _=>hk b hb') (λ_ _ h=>h) (λ_ _ h=>h)
noncomputable def zba:bX:=Of.aut 63 Tryz.f63 1
theorem zhV:zI Of.P 63 Tryz.f63 1:=bU kw
theorem QO:zw zba:=g6 Id zhV
def Bo(c:Int):Bool:=bif Q0 (c<32)then Q3 else Q0 (c>126)
theorem zkm(c:Int):((bm (List.replicate 1 Q2) (fN Of Tryz.f63 (List.replicate 1 Q2))) [.int .i32 c] (λ_=>.dead) 0).val=Q1 {val:=.bool (Bo c)}:=kw
theorem zcz(w:World)(U:Nat->Prop)(hgl:CX Of.gl w U)(hub:∀b,U b->b<w.heap.size):PredGrows Tryz.prog 63 #[] (λr=>Bo r) w:=by
 intro W x hx hB;have hF:FK 63 (bm (List.replicate 1 Q2) (fN Of Tryz.f63 (List.replicate 1 Q2))):=cw _ Id zhV;have hr:dj W U (λ_=>Q2) [.int .i32 (x:Int)] [.int .i32 (x:Int)]:=by
  refine⟨rfl,λj c v hc hv=>?_⟩;cases j with
  | zero=>
   simp at hc hv;subst hc;subst hv;refine .int _ _ ⟨?_,?_⟩
   ·show(-2147483648:Int)<=x;omega
   ·show(x:Int)<=2147483647;omega
  |succ j=>simp at hc
 have:=(hF.calls W U (λ_=>Q2) (λ_=>.dead) 0 [.int .i32 (x:Int)] [.int .i32 (x:Int)] _ [] (zkm x) hr (λb hb=>iA (hub b hb) hB.size) (λg=>(hgl g).mono hB.size (λb hb _=>hB.block b hb) (λ_ _ h=>h) (λ_ _ h=>h)) ⟨sw,sw⟩ (by simp[AV.idsL,AV.ids]) sw sw).1;refine this.mono ?_;rintro e w' ⟨v,U',ρ',rfl,hef⟩;have hv:=hef.val;cases hv;exact⟨rfl,⟨hef.ext.os,hef.ext.tape,hef.ext.out,hef.ext.sz,λb hb=>hef.same b hb sw⟩⟩
def oX(s:zB):Int:=Lib.idxFunc (λr=>Bo r) Q3 ⟨s.toArray⟩
def G36:iw [Q1 .str,Q2]:=λx h=>match x,h with
 |(s,.clo (.func 63) [] [],_),[]=>.ok (.int .i64 (oX s),[])
 |_,_=>.err
theorem zj2:Go.Proofs.Enters Tryz.prog 63:=by
  cases hb:Tryz.f63.body with
  | none => have:Tryz.f63.body.isNone=false:=by kernel_rfl
            rw[hb]at this;cases this
  |some c=>exact Go.Proofs.enters_of (fn:=Tryz.f63) kw kw hb
theorem zeG:FK 64 (bm [Q1 .str,Q2] G36):=by
 refine fC (E:=zba) ⟨Tryz.f64,kw,kw,kw⟩ λx h0 res hx=>?_
 unfold G36 at hx;split at hx
 ·rename_i s u;simp only[Tr.val_ok,bB]at hx;subst hx;intro C w U ρ vals _ hr hH hnew hr0 hW;have hl:=hr.len
  match vals,hl,hr with
  | [v1,v2],_,hr=>
   have h1:=hr.rv 0 (.str s) v1 rfl rfl;have h2:=hr.rv 1 (.clo (.func 63) [] []) v2 rfl rfl;cases h1 with
   |str _ hs=>
   cases h2 with
   |clo _ _ _ vf vc hf hc _ _=>
   have hf':vf=[]:=xD hf.symm;have hc':vc=[]:=xD hc.symm;subst hf';subst hc';have:=Tryz.strings_IndexFunc_grows 63 #[] zj2 (λr=>Bo r) ⟨s.toArray⟩ w (zcz w U hW.gl hW.ub);refine this.mono ?_;rintro e w' ⟨rfl,hb⟩;refine eA hH hnew hr0 hW hb (.int _ _ ?_);have hrg:=Lib.idxFunc_range (λr=>Bo r) Q3 ⟨s.toArray⟩;have hsz:(⟨s.toArray⟩:ByteArray).size=s.length:=by simp[ByteArray.size]
   have hm:aE=9223372036854775807:=rfl;rw[hsz]at hrg;change oX s=-1\/(0<=oX s/\oX s<s.length)at hrg;refine⟨?_,?_⟩
   ·show(-9223372036854775808:Int)<=_;omega
   ·show _<=(9223372036854775807:Int);omega
 ·simp at hx
noncomputable def te:bX:=zba.add 64 (bm [Q1 .str,Q2] G36)
theorem jY:zw te:=QO.add zeG
open Go
def ff(ks outs:List Sh)(c:zy (ks.map Q1)->Bool)(g:zy (ks.map Q1)->zy (outs.map Q1)):iw (ks.map Q1):=λx h=>match h with
 |[]=>.chk (c x) (.ok (xu outs (g x),[]))
 |_=>.err
def zP(ks outs:List Sh)(c:zy (ks.map Q1)->Bool)(g:zy (ks.map Q1)->zy (outs.map Q1)):zX:=bm (ks.map Q1) (ff ks outs c g)
theorem aI{P:Program}{gl:Nat->AV}{E:bX}{k:FuncId}{f:Func}{ks outs:List Sh}{c:zy (ks.map Q1)->Bool}{g:zy (ks.map Q1)->zy (outs.map Q1)}(hf:zI E.P k f ks.length)
  (h:∀x,c x=Q3->∀C:eP,(∀id,C.ρ0 id=Q2)->Reach E C k (bw f) (be f.ntmps (iW (ks.map Q1) x) []) (λr h=>aL h outs r=Q1 (g x))) (qp:E.P=P:=by rfl) (qg:E.gl=gl:=by rfl):nV P gl k (zP ks outs c g):=by
 subst qp qg;refine dH (by simpa using hf) λx h0 res hx C hC=>?_
 unfold ff at hx;split at hx
 ·simp only[Tr.val]at hx;split at hx
  ·rename_i hc;simp only[bB]at hx;subst hx;exact Reach.plain (λid=>hC id (by simp)) (h x hc C (λid=>hC id (by simp)))
  ·simp at hx
 ·simp at hx
theorem xN{P:Program}{gl:Nat->AV}{k:FuncId}{kinds:List (Option Sh)}{ι:Type}[Nonempty ι]{G:iw kinds}{Gs:ι->iw kinds}(h:∀i,nV P gl k (bm kinds (Gs i)))
  (hg:∀x h0 res,(G x h0).val=Q1 res->∃i,(Gs i x h0).val=Q1 res):nV P gl k (bm kinds G):=by
 refine⟨(h (Classical.choice inferInstance)).fn,?_⟩;intro w U ρ hp n args vals f fp hv;have:∃i,(bm kinds (Gs i) args hp n).val=Q1 f:=by
  unfold bm at hv⊢;split at hv
  ·rename_i ps hps;simp only at hv⊢;split at hv
   ·rename_i hcond;split at hv
    ·rename_i xs hxs;simp only[Tr.val_bind,fL]at hv;obtain⟨res,h1,h2⟩:=hv;obtain⟨i,hi⟩:=hg _ _ _ h1;exact⟨i,by simp only[hcond,if_true,Tr.val_bind,fL];exact⟨res,hi,h2⟩⟩
    ·simp at hv
   ·simp at hv
  ·simp at hv
 obtain⟨i,hi⟩:=this;exact(h i).calls w U ρ hp n args vals f fp hi
def MW(ks outs:List Sh)(g:zy (ks.map Q1)->zy (outs.map Q1)):iw (ks.map Q1):=λx h=>match h with
 |[]=>.ok (xu outs (g x),[])
 |_=>.err
def aC(ks outs:List Sh)(g:zy (ks.map Q1)->zy (outs.map Q1)):zX:=bm (ks.map Q1) (MW ks outs g)
theorem L2{P:Program}{gl:Nat->AV}{k:FuncId}{ks outs:List Sh}{g:zy (ks.map Q1)->zy (outs.map Q1)}(h:nV P gl k (zP ks outs (λ_=>Q3) g)):nV P gl k (aC ks outs g):=by
 refine xN (ι:=Unit) (Gs:=λ_=>ff ks outs (λ_=>Q3) g) (λ_=>h) λx h0 res hv=>⟨(),?_⟩
 unfold MW at hv;unfold ff;split at hv
 ·simpa[Tr.val]using hv
 ·simp at hv
theorem zW{P:Program}{gl:Nat->AV}{E:bX}{k:FuncId}{f:Func}{ks outs:List Sh}{g:zy (ks.map Q1)->zy (outs.map Q1)}(hf:zI E.P k f ks.length)
  (h:∀x,∀C:eP,(∀id,C.ρ0 id=Q2)->Reach E C k (bw f) (be f.ntmps (iW (ks.map Q1) x) []) (λr h=>aL h outs r=Q1 (g x))) (qp:E.P=P:=by rfl) (qg:E.gl=gl:=by rfl):nV P gl k (aC ks outs g):=by
 subst qp qg;exact L2 (aI hf λx _ C hC=>h x C hC)
def Mx(outs:List Sh):zC->Option (zy (outs.map Q1))
 |.ret v h=>aL h outs v
 |_=>Q2
theorem Tr.sat_of_res{E:bX}{C:eP}{fn:FuncId}{outs:List Sh}{y:zy (outs.map Q1)}{t:Tr zC}(h:t.val.bind (Mx outs)=Q1 y):t.Sat (jz E C fn (λr h=>aL h outs r=Q1 y)):=by
 rw[fL]at h;obtain⟨l,h1,h2⟩:=h;refine Tr.sat_of_val h1 ?_;cases l with
 |ret v h=>exact h2
 |head _ _ _=>cases h2
 |fork _ _ _ _=>cases h2
theorem aR{E:bX}{C:eP}{k:FuncId}{f:Func}{outs:List Sh}{y:zy (outs.map Q1)}{n n0:Nat}(hE:zw E)(hf:zI E.P k f n)(hC:∀id,n0<=id->C.ρ0 id=Q2){keep:Nat->aM}{fuel:Nat}
  {todo:List Item} {st:St} {t:Tr zC} (ht:run E n0 keep f.results.toList fuel todo st=t) (h:t.val.bind (Mx outs)=Q1 y):Reach E C k todo st (λr h=>aL h outs r=Q1 y):=by
 refine dn hE hf hC keep fuel ?_;rw[ht];exact Tr.sat_of_res h
theorem ze.eta:∀e:ze,ze.mk e.op e.v e.s e.l=e
 |.mk _ _ _ _=>rfl
structure HA (E E0:bX):Prop where
 p:E.P=E0.P
 g:E.gl=E0.gl
theorem HA.refl(E:bX):HA E E:=⟨rfl,rfl⟩
theorem HA.add{E E0:bX}(h:HA E E0)(k:FuncId)(F:zX):HA (E.add k F) E0:=⟨h.p,h.g⟩
abbrev zm(e:ze):ze:=.mk e.op e.v e.s e.l
theorem zl(e:ze):zm e=e:=ze.eta e
open Go Go.Proofs
abbrev TS:=Sem Q6
abbrev LX:=List (Sem Sh.expr)
abbrev LC:=List (Sem zj)
abbrev LS:=List (Sem Q6)
abbrev LV:=List (Sem zf)
abbrev LI:=List (Sem zg)
abbrev LF:=List (Sem zr)
abbrev V:=Sem zf
def aW(x0:Sem zf):Sem Q7:=if(x0.1==0)=Q3 then if(x0.2.1!=0)=Q3 then Q4 else x0.2.2==[]else if(x0.1==1)=Q3 then x0.2.2==[]else if(x0.1==2)=Q3 then bif x0.2.1==0 then bif Q0 ((↑(length x0.2.2):Int)<=40)then Q0 (oX x0.2.2<0)else Q4 else Q4 else if(x0.1==3)=Q3 then bif x0.2.1==0 then x0.2.2==[]else bif x0.2.1==1 then x0.2.2==[]else Q4 else Q4
theorem zhL:zI te.P 34 Tryz.f34 1:=bU kw
theorem zkc(x0:Sem zf):rn te 0 (λ_=>{ }) Tryz.f34 [zE zf x0] []=br (x0.1==0) (br (x0.2.1!=0) (Tr.ok (zC.ret (kb Q4) [])) (Tr.ok (zC.ret (AV.bool (x0.2.2==[])) []))) (br (x0.1==1) (Tr.ok (zC.ret (AV.bool (x0.2.2==[])) [])) (br (x0.1==2) (Tr.ok (zC.ret (AV.bool (bif x0.2.1==0 then bif Q0 ((↑(length x0.2.2):Int)<=40)then Q0 (oX x0.2.2<0)else Q4 else Q4)) [])) (br (x0.1==3) (Tr.ok (zC.ret (AV.bool (bif x0.2.1==0 then x0.2.2==[]else bif x0.2.1==1 then x0.2.2==[]else Q4)) [])) (Tr.ok (zC.ret (kb Q4) []))))):=kw
def F21:zX:=aC [zf] [Q7] λx=>(aW x.1,())
theorem zew:FK 34 F21:=by
 refine zW zhL λx C hC=>?_
 refine aR jY zhL (λid _=>hC id) (zkc x.1) ?_;simp only[Tr.val,aW];repeat' split
 all_goals rfl
def aQ(x0:Sem zg):Sem zf:=if(x0==0)=Q3 then(0,0,[])else(3,IntKind.i64.wrap (x0-1),[])
theorem zie:zI te.P 333 Tryz.f333 1:=bU kw
theorem zkF(x0:Sem zg):rn te 0 (λ_=>{ }) Tryz.f333 [zE zg x0] []=br (x0==0) (Tr.ok (zC.ret (Qd [ai 0,ai 0,str []]) [])) (Tr.ok (zC.ret (Qd [ai 3,ai (IntKind.i64.wrap (x0-1)),str []]) [])):=kw
def F57:zX:=aC [zg] [zf] λx=>(aQ x.1,())
theorem ze1:FK 333 F57:=by
 refine zW zie λx C hC=>?_
 refine aR jY zie (λid _=>hC id) (zkF x.1) ?_;simp only[Tr.val,aQ];repeat' split
 all_goals rfl
noncomputable def zcX:zX:=bm (List.replicate 1 Q2) (fN te Tryz.f165 (List.replicate 1 Q2))
theorem Zb:FK 165 zcX:=cw _ jY (bU kw)
noncomputable def zcY:zX:=bm (List.replicate 1 Q2) (fN te Tryz.f166 (List.replicate 1 Q2))
theorem Zc:FK 166 zcY:=cw _ jY (bU kw)
noncomputable def zcZ:zX:=bm (List.replicate 1 Q2) (fN te Tryz.f167 (List.replicate 1 Q2))
theorem Zd:FK 167 zcZ:=cw _ jY (bU kw)
noncomputable def ll:=te.addL [(34,F21),(333,F57),(165,zcX),(166,zcY),(167,zcZ)]
theorem iI:zw ll:=jY.addL<|fc zew<|fc ze1<|fc Zb<|fc Zc<|fc Zd jm
def ap(x0:Sem zf):Sem zf:=if(!aW x0)=Q3 then(0,0,[])else x0
theorem zii:zI ll.P 107 Tryz.f107 1:=bU kw
theorem zkJ(x0:Sem zf):rn ll 0 (λ_=>{ }) Tryz.f107 [zE zf x0] []=br (!aW x0) (Tr.ok (zC.ret (Qd [ai 0,ai 0,str []]) [])) (Tr.ok (zC.ret (Qd [ai x0.1,ai x0.2.1,str x0.2.2]) [])):=kw
def F61:zX:=aC [zf] [zf] λx=>(ap x.1,())
theorem ze6:FK 107 F61:=by
 refine zW zii λx C hC=>?_
 refine aR iI zii (λid _=>hC id) (zkJ x.1) ?_;simp only[Tr.val,ap];repeat' split
 all_goals rfl
def dO(x0:Sem zf):Sem zg:=if(bif x0.1!=3 then Q3 else !aW x0)=Q3 then 0 else IntKind.i64.wrap (1+x0.2.1)
theorem zid:zI ll.P 277 Tryz.f277 1:=bU kw
theorem zkE(x0:Sem zf):rn ll 0 (λ_=>{ }) Tryz.f277 [zE zf x0] []=br (bif x0.1!=3 then Q3 else !aW x0) (Tr.ok (zC.ret (ai 0) [])) (Tr.ok (zC.ret (ai (IntKind.i64.wrap (1+x0.2.1))) [])):=kw
def F56:zX:=aC [zf] [zg] λx=>(dO x.1,())
theorem ze0:FK 277 F56:=by
 refine zW zid λx C hC=>?_
 refine aR iI zid (λid _=>hC id) (zkE x.1) ?_;simp only[Tr.val,dO];repeat' split
 all_goals rfl
def dg(x0:Sem Q7):Sem zf:=if x0=Q3 then aQ 2 else aQ 1
theorem zig:zI ll.P 335 Tryz.f335 1:=bU kw
theorem zkH(x0:Sem Q7):rn ll 0 (λ_=>{ }) Tryz.f335 [zE Q7 x0] []=br x0 (Tr.ok (zC.ret (Qd [ai (aQ 2).1,ai (aQ 2).2.1,str (aQ 2).2.2]) [])) (Tr.ok (zC.ret (Qd [ai (aQ 1).1,ai (aQ 1).2.1,str (aQ 1).2.2]) [])):=kw
def F59:zX:=aC [Q7] [zf] λx=>(dg x.1,())
theorem ze3:FK 335 F59:=by
 refine zW zig λx C hC=>?_
 refine aR iI zig (λid _=>hC id) (zkH x.1) ?_;simp only[Tr.val,dg];repeat' split
 all_goals rfl
def rP(x0:Sem zg)(x1:Sem zg):Sem zg:=if(x0 !=x0)=Q3 then if(x1 !=x1)=Q3 then 0 else -1 else if(x1 !=x1)=Q3 then 1 else if Q0 (x0<x1)=Q3 then -1 else if Q0 (x0>x1)=Q3 then 1 else 0
theorem zil:zI ll.P 109 Tryz.f109 2:=bU kw
theorem zkN(x0:Sem zg)(x1:Sem zg):rn ll 0 (λ_=>{ }) Tryz.f109 [zE zg x0,zE zg x1] []=br (x0 !=x0) (br (x1 !=x1) (Tr.ok (zC.ret (ai 0) [])) (Tr.ok (zC.ret (ai (-1)) []))) (br (x1 !=x1) (Tr.ok (zC.ret (ai 1) [])) (br (Q0 (x0<x1)) (Tr.ok (zC.ret (ai (-1)) [])) (br (Q0 (x0>x1)) (Tr.ok (zC.ret (ai 1) [])) (Tr.ok (zC.ret (ai 0) []))))):=kw
def F71:zX:=aC [zg,zg] [zg] λx=>(rP x.1 x.2.1,())
theorem zfe:FK 109 F71:=by
 refine zW zil λx C hC=>?_
 refine aR iI zil (λid _=>hC id) (zkN x.1 x.2.1) ?_;simp only[Tr.val,rP];repeat' split
 all_goals rfl
def kk(x0:Sem zg)(x1:Sem zg):Sem zg:=if(x0 !=x0)=Q3 then if(x1 !=x1)=Q3 then 0 else -1 else if(x1 !=x1)=Q3 then 1 else if Q0 (x0<x1)=Q3 then -1 else if Q0 (x0>x1)=Q3 then 1 else 0
theorem zin:zI ll.P 110 Tryz.f110 2:=bU kw
theorem zkO(x0:Sem zg)(x1:Sem zg):rn ll 0 (λ_=>{ }) Tryz.f110 [zE zg x0,zE zg x1] []=br (x0 !=x0) (br (x1 !=x1) (Tr.ok (zC.ret (ai 0) [])) (Tr.ok (zC.ret (ai (-1)) []))) (br (x1 !=x1) (Tr.ok (zC.ret (ai 1) [])) (br (Q0 (x0<x1)) (Tr.ok (zC.ret (ai (-1)) [])) (br (Q0 (x0>x1)) (Tr.ok (zC.ret (ai 1) [])) (Tr.ok (zC.ret (ai 0) []))))):=kw
def F72:zX:=aC [zg,zg] [zg] λx=>(kk x.1 x.2.1,())
theorem zff:FK 110 F72:=by
 refine zW zin λx C hC=>?_
 refine aR iI zin (λid _=>hC id) (zkO x.1 x.2.1) ?_;simp only[Tr.val,kk];repeat' split
 all_goals rfl
def nY(x0:Sem Q6)(x1:Sem Q6):Sem zg:=if(!x0==x0)=Q3 then if(!x1==x1)=Q3 then 0 else -1 else if(!x1==x1)=Q3 then 1 else if Op.bytesLess x0 x1=Q3 then -1 else if(!(Op.bytesLess x0 x1||x0==x1))=Q3 then 1 else 0
theorem zio:zI ll.P 111 Tryz.f111 2:=bU kw
theorem zkP(x0:Sem Q6)(x1:Sem Q6):rn ll 0 (λ_=>{ }) Tryz.f111 [zE Q6 x0,zE Q6 x1] []=br (!x0==x0) (br (!x1==x1) (Tr.ok (zC.ret (ai 0) [])) (Tr.ok (zC.ret (ai (-1)) []))) (br (!x1==x1) (Tr.ok (zC.ret (ai 1) [])) (br (Op.bytesLess x0 x1) (Tr.ok (zC.ret (ai (-1)) [])) (br (!(Op.bytesLess x0 x1||x0==x1)) (Tr.ok (zC.ret (ai 1) [])) (Tr.ok (zC.ret (ai 0) []))))):=kw
def F73:zX:=aC [Q6,Q6] [zg] λx=>(nY x.1 x.2.1,())
theorem zfg:FK 111 F73:=by
 refine zW zio λx C hC=>?_
 refine aR iI zio (λid _=>hC id) (zkP x.1 x.2.1) ?_;simp only[Tr.val,nY];repeat' split
 all_goals rfl
noncomputable def jK:=ll.addL [(107,F61),(277,F56),(335,F59),(109,F71),(110,F72),(111,F73)]
theorem eQ:zw jK:=iI.addL<|fc ze6<|fc ze0<|fc ze3<|fc zfe<|fc zff<|fc zfg jm
theorem B4{E:bX}{C:eP}{k:FuncId}{f:Func}{Q:AV->List AO->Prop}{n n0:Nat}(hE:zw E)(hf:zI E.P k f n)(hC:∀id,n0<=id->C.ρ0 id=Q2){keep:Nat->aM}{fuel:Nat}
  {todo:List Item} {st:St} {t:Tr zC} {l:zC} (ht:run E n0 keep f.results.toList fuel todo st=t) (h:t.val=Q1 l) (hl:jz E C k Q l):Reach E C k todo st Q:=
 dn hE hf hC keep fuel (by rw[ht];exact Tr.sat_of_val h hl)
def fY{α:Type}(Φ:α->Prop):Option α->Prop
 |some a=>Φ a
 |none=>False
theorem zD{E:bX}{C:eP}{k:FuncId}{f:Func}{Q:AV->List AO->Prop}{n n0:Nat}(hE:zw E)(hf:zI E.P k f n)(hC:∀id,n0<=id->C.ρ0 id=Q2){keep:Nat->aM}{fuel:Nat}
  {todo:List Item} {st:St} {t:Tr zC} (ht:run E n0 keep f.results.toList fuel todo st=t) (h:fY (jz E C k Q) t.val):Reach E C k todo st Q:=by
 cases hv:t.val with
 |none=>rw[hv]at h;exact h.elim
 |some l=>rw[hv]at h;exact B4 hE hf hC ht hv h
def Ip{α β R:Type}(f:β->Nat->α->β⊕R)(fin:β->R):List α->Nat->β->R
 |[],_,b=>fin b
 | x::r,i,b=>match f b i x with
  |.inl b'=>Ip f fin r (i+1) b'
  |.inr y=>y
def UZ{E:bX}{C:eP}{k:FuncId}{K:List Item}{β R:Type}(st:β->Nat->St)(Q:R->AV->List AO->Prop)(b:β)(i:Nat):β⊕R->Prop
 |.inl b'=>∀q,Reach E C k K (st b' (i+1)) q->Reach E C k K (st b i) q
 |.inr y=>Reach E C k K (st b i) (Q y)
theorem B5{E:bX}{C:eP}{k:FuncId}{K:List Item}{α β R:Type}(l:List α)(st:β->Nat->St)(f:β->Nat->α->β⊕R)(fin:β->R)(Q:R->AV->List AO->Prop)(I:β->Nat->Prop)
  (hstep:∀b i(hi:i<l.length),I b i->UZ (E:=E) (C:=C) (k:=k) (K:=K) st Q b i (f b i l[i])/\∀b',f b i l[i]=.inl b'->I b' (i+1))
  (hend:∀b,I b l.length->Reach E C k K (st b l.length) (Q (fin b))):∀(m i:Nat)(b:β),l.length-i=m->i<=l.length->I b i->Reach E C k K (st b i) (Q (Ip f fin (l.drop i) i b))
 | 0,i,b,hm,hi,hI=>by
  have:i=l.length:=by omega
  subst this;rw[jh];exact hend b hI
 | m+1,i,b,hm,hi,hI=>by
  have hlt:i<l.length:=by omega
  rw[fk hlt];obtain⟨h1,h2⟩:=hstep b i hlt hI;simp only[Ip];cases hf:f b i l[i]with
  | inl b'=>
   rw[hf]at h1;exact h1 _ (B5 l st f fin Q I hstep hend m (i+1) b' ow ow (h2 b' hf))
  | inr y=>
   rw[hf]at h1;exact h1
theorem zH{i n:Nat}(h:i<n):Q0 ((i:Int)<(n:Int))=Q3:=by simpa using h
theorem zA(n:Nat):Q0 ((n:Int)<(n:Int))=Q4:=by simp
theorem zu{i n:Nat}(h:i<n):zM (i:Int) n=Q3:=by simp[zM,h]
def F1:List Int->Int
 |[]=>0
 |x::r=>if x !=0 then x else F1 r
abbrev zhm:Nat->aM:=λj=>if j=3 then{slots:=[3,6,7,8]}else{ }
abbrev Nl(i3:Int)(l6:List (Sem zg))(i7:Int)(i8:Int):St:={tmps:=(tm 18 [(3,ai i3),(6,sl (Sh.int IntKind.i64) l6),(7,ai i7),(8,ai i8)]),heap:=[]}
theorem SD:zI jK.P 108 Tryz.f108 1:=bU kw
theorem zkM(k:List (Sem zg)):rn jK 0 zhm Tryz.f108 [sl zg k] []=Tr.ok (zC.head 3 (ac Tryz.f108 3) (Nl 0 k (↑k.length) 0)):=kw
theorem K0(i3:Int)(l6:List (Sem zg))(i7:Int)(i8:Int):rh jK 0 zhm Tryz.f108 3 (Nl i3 l6 i7 i8)=br (Q0 (i8<i7)) (chk (zM i8 l6.length) (br (l6.getD i8.toNat (zi (Sh.int IntKind.i64))!=i3) (Tr.ok (zC.ret (ai (l6.getD i8.toNat (zi (Sh.int IntKind.i64)))) [])) (Tr.ok (zC.head 3 (ac Tryz.f108 3) (Nl i3 l6 i7 (IntKind.i64.wrap (i8+1))))))) (Tr.ok (zC.ret (ai i3) [])):=kw
def f70:Unit->Nat->Int->Unit⊕Int:=λ_ _ x=>if x !=0 then .inr x else .inl ()
theorem QY:∀(l:List Int)(i:Nat),Ip f70 (λ_=>0) l i ()=F1 l
 |[],_=>rfl
 | x::r,i=>by
  simp only[Ip,f70,F1];split
  ·rename_i h;split at h<;>simp_all[QY r (i+1)]
  ·rename_i h;split at h<;>simp_all
def F70:zX:=aC [.sl zg] [zg] λx=>(F1 x.1,())
theorem zfd:FK 108 F70:=by
 refine zW SD λx C hC=>?_
 obtain⟨l,u⟩:=x;refine Reach.len 0 zg l rfl λhl=>?_
 refine B4 eQ SD (λid _=>hC id) (zkM l) rfl ?_
 have:=B5 (E:=jK) (C:=C) (k:=108) (K:=ac Tryz.f108 3) l (λ(_:Unit) i=>Nl 0 l l.length i) f70 (λ_=>(0:Int)) (λy r h=>aL h [zg] r=Q1 (y,())) (λ_ _=>True)
  (λb i hi _=>⟨by
   unfold f70;split
   ·rename_i h;refine zD eQ SD (λid _=>hC id) (K0 _ _ _ _) ?_;simp only[Tr.val,zH hi,zu hi,cA l _ hi,h,if_true];rfl
   ·rename_i h;intro q hq;refine zD eQ SD (λid _=>hC id) (K0 _ _ _ _) ?_;simp only[Tr.val,zH hi,zu hi,cA l _ hi,h,if_true,zp i ow];exact hq,λ_ _=>trivial⟩)
  (λb _=>by
   refine zD eQ SD (λid _=>hC id) (K0 _ _ _ _) ?_;simp only[Tr.val,zA];rfl) _ 0 () rfl ow trivial
 rw[QY]at this;exact this
def eH(x0:Sem zf)(x1:Sem zf):Sem Q7:=bif (ap x0).1!=0 then(ap x0).1==(ap x1).1 else Q4
theorem zif:zI jK.P 334 Tryz.f334 2:=bU kw
theorem zkG(x0:Sem zf)(x1:Sem zf):rn jK 0 (λ_=>{ }) Tryz.f334 [zE zf x0,zE zf x1] []=Tr.ok (zC.ret (AV.bool (bif (ap x0).1!=0 then(ap x0).1==(ap x1).1 else Q4)) []):=kw
def F58:zX:=aC [zf,zf] [Q7] λx=>(eH x.1 x.2.1,())
theorem ze2:FK 334 F58:=by
 refine zW zif λx C hC=>?_
 refine aR eQ zif (λid _=>hC id) (zkG x.1 x.2.1) ?_;simp only[Tr.val,eH];repeat' split
 all_goals rfl
def Dk(x0:Sem zf)(x1:Sem zf):Sem zf:=if(bif dO x0==1 then Q3 else dO x1==1)=Q3 then aQ 1 else if(bif dO x0==2 then dO x1==2 else Q4)=Q3 then aQ 2 else aQ 0
theorem zhY:zI jK.P 310 Tryz.f310 2:=bU kw
theorem zko(x0:Sem zf)(x1:Sem zf):rn jK 0 (λ_=>{ }) Tryz.f310 [zE zf x0,zE zf x1] []=br (bif dO x0==1 then Q3 else dO x1==1) (Tr.ok (zC.ret (Qd [ai (aQ 1).1,ai (aQ 1).2.1,str (aQ 1).2.2]) [])) (br (bif dO x0==2 then dO x1==2 else Q4) (Tr.ok (zC.ret (Qd [ai (aQ 2).1,ai (aQ 2).2.1,str (aQ 2).2.2]) [])) (Tr.ok (zC.ret (Qd [ai (aQ 0).1,ai (aQ 0).2.1,str (aQ 0).2.2]) []))):=kw
def F38:zX:=aC [zf,zf] [zf] λx=>(Dk x.1 x.2.1,())
theorem zeI:FK 310 F38:=by
 refine zW zhY λx C hC=>?_
 refine aR eQ zhY (λid _=>hC id) (zko x.1 x.2.1) ?_;simp only[Tr.val,Dk];repeat' split
 all_goals rfl
def T3(x0:Sem zf)(x1:Sem zf):Sem zf:=if(bif dO x0==2 then Q3 else dO x1==2)=Q3 then aQ 2 else if(bif dO x0==1 then dO x1==1 else Q4)=Q3 then aQ 1 else aQ 0
theorem zhZ:zI jK.P 311 Tryz.f311 2:=bU kw
theorem zkp(x0:Sem zf)(x1:Sem zf):rn jK 0 (λ_=>{ }) Tryz.f311 [zE zf x0,zE zf x1] []=br (bif dO x0==2 then Q3 else dO x1==2) (Tr.ok (zC.ret (Qd [ai (aQ 2).1,ai (aQ 2).2.1,str (aQ 2).2.2]) [])) (br (bif dO x0==1 then dO x1==1 else Q4) (Tr.ok (zC.ret (Qd [ai (aQ 1).1,ai (aQ 1).2.1,str (aQ 1).2.2]) [])) (Tr.ok (zC.ret (Qd [ai (aQ 0).1,ai (aQ 0).2.1,str (aQ 0).2.2]) []))):=kw
def F39:zX:=aC [zf,zf] [zf] λx=>(T3 x.1 x.2.1,())
theorem zeJ:FK 311 F39:=by
 refine zW zhZ λx C hC=>?_
 refine aR eQ zhZ (λid _=>hC id) (zkp x.1 x.2.1) ?_;simp only[Tr.val,T3];repeat' split
 all_goals rfl
def xL(x0:Sem zf):Sem zf:=if(dO x0==2)=Q3 then aQ 1 else if(dO x0==1)=Q3 then aQ 2 else aQ 0
theorem zh1:zI jK.P 313 Tryz.f313 1:=bU kw
theorem zkr(x0:Sem zf):rn jK 0 (λ_=>{ }) Tryz.f313 [zE zf x0] []=br (dO x0==2) (Tr.ok (zC.ret (Qd [ai (aQ 1).1,ai (aQ 1).2.1,str (aQ 1).2.2]) [])) (br (dO x0==1) (Tr.ok (zC.ret (Qd [ai (aQ 2).1,ai (aQ 2).2.1,str (aQ 2).2.2]) [])) (Tr.ok (zC.ret (Qd [ai (aQ 0).1,ai (aQ 0).2.1,str (aQ 0).2.2]) []))):=kw
def F41:zX:=aC [zf] [zf] λx=>(xL x.1,())
theorem zeL:FK 313 F41:=by
 refine zW zh1 λx C hC=>?_
 refine aR eQ zh1 (λid _=>hC id) (zkr x.1) ?_;simp only[Tr.val,xL];repeat' split
 all_goals rfl
def je(x0:Sem zf):Sem zf:=dg ((ap x0).1==0)
theorem zh8:zI jK.P 319 Tryz.f319 1:=bU kw
theorem zkx(x0:Sem zf):rn jK 0 (λ_=>{ }) Tryz.f319 [zE zf x0] []=Tr.ok (zC.ret (Qd [ai (dg ((ap x0).1==0)).1,ai (dg ((ap x0).1==0)).2.1,str (dg ((ap x0).1==0)).2.2]) []):=kw
def F47:zX:=aC [zf] [zf] λx=>(je x.1,())
theorem zeR:FK 319 F47:=by
 refine zW zh8 λx C hC=>?_
 refine aR eQ zh8 (λid _=>hC id) (zkx x.1) ?_;simp only[Tr.val,je];repeat' split
 all_goals rfl
noncomputable def lm:=jK.addL [(108,F70),(334,F58),(310,F38),(311,F39),(313,F41),(319,F47)]
theorem iJ:zw lm:=eQ.addL<|fc zfd<|fc ze2<|fc zeI<|fc zeJ<|fc zeL<|fc zeR jm
def cD(x0:Sem zf)(x1:Sem zf):Sem zg:=F1 [rP (ap x0).1 (ap x1).1,kk (ap x0).2.1 (ap x1).2.1,nY (ap x0).2.2 (ap x1).2.2]
theorem zih:zI lm.P 62 Tryz.f62 2:=bU kw
theorem zkI(x0:Sem zf)(x1:Sem zf):rn lm 0 (λ_=>{ }) Tryz.f62 [zE zf x0,zE zf x1] []=Tr.ok (zC.ret (AV.int IntKind.i64 (F1 [rP (ap x0).1 (ap x1).1,kk (ap x0).2.1 (ap x1).2.1,nY (ap x0).2.2 (ap x1).2.2])) []):=kw
def F60:zX:=aC [zf,zf] [zg] λx=>(cD x.1 x.2.1,())
theorem ze5:FK 62 F60:=by
 refine zW zih λx C hC=>?_
 refine aR iJ zih (λid _=>hC id) (zkI x.1 x.2.1) ?_;simp only[Tr.val,cD];repeat' split
 all_goals rfl
def lT(x0:Sem zf)(x1:Sem zf):Sem zf:=if(!eH x0 x1)=Q3 then(0,0,[])else dg (x0.1==x1.1&&(x0.2.1==x1.2.1&&(x0.2.2==x1.2.2&&Q3)))
theorem zh2:zI lm.P 314 Tryz.f314 2:=bU kw
theorem zks(x0:Sem zf)(x1:Sem zf):rn lm 0 (λ_=>{ }) Tryz.f314 [zE zf x0,zE zf x1] []=br (!eH x0 x1) (Tr.ok (zC.ret (Qd [ai 0,ai 0,str []]) [])) (Tr.ok (zC.ret (Qd [ai (dg (x0.1==x1.1&&(x0.2.1==x1.2.1&&(x0.2.2==x1.2.2&&Q3)))).1,ai (dg (x0.1==x1.1&&(x0.2.1==x1.2.1&&(x0.2.2==x1.2.2&&Q3)))).2.1,str (dg (x0.1==x1.1&&(x0.2.1==x1.2.1&&(x0.2.2==x1.2.2&&Q3)))).2.2]) [])):=kw
def F42:zX:=aC [zf,zf] [zf] λx=>(lT x.1 x.2.1,())
theorem zeM:FK 314 F42:=by
 refine zW zh2 λx C hC=>?_
 refine aR iJ zh2 (λid _=>hC id) (zks x.1 x.2.1) ?_;simp only[Tr.val,lT];repeat' split
 all_goals rfl
def rC(x0:Sem zf)(x1:Sem zf):Sem zf:=if(bif !eH x0 x1 then Q3 else x0.1!=1)=Q3 then(0,0,[])else if(bif Q0 (x1.2.1>0)then bif Q0 (IntKind.i64.wrap (x0.2.1+x1.2.1)<x0.2.1)then Q3 else bif Q0 (x1.2.1<0)then Q0 (IntKind.i64.wrap (x0.2.1+x1.2.1)>x0.2.1)else Q4 else bif Q0 (x1.2.1<0)then Q0 (IntKind.i64.wrap (x0.2.1+x1.2.1)>x0.2.1)else Q4)=Q3 then(0,0,[])else(1,IntKind.i64.wrap (x0.2.1+x1.2.1),[])
theorem zh5:zI lm.P 316 Tryz.f316 2:=bU kw
theorem zku(x0:Sem zf)(x1:Sem zf):rn lm 0 (λ_=>{ }) Tryz.f316 [zE zf x0,zE zf x1] []=br (bif !eH x0 x1 then Q3 else x0.1!=1) (Tr.ok (zC.ret (Qd [ai 0,ai 0,str []]) [])) (br (bif Q0 (x1.2.1>0)then bif Q0 (IntKind.i64.wrap (x0.2.1+x1.2.1)<x0.2.1)then Q3 else bif Q0 (x1.2.1<0)then Q0 (IntKind.i64.wrap (x0.2.1+x1.2.1)>x0.2.1)else Q4 else bif Q0 (x1.2.1<0)then Q0 (IntKind.i64.wrap (x0.2.1+x1.2.1)>x0.2.1)else Q4) (Tr.ok (zC.ret (Qd [ai 0,ai 0,str []]) [])) (Tr.ok (zC.ret (Qd [ai 1,ai (IntKind.i64.wrap (x0.2.1+x1.2.1)),str []]) []))):=kw
def F44:zX:=aC [zf,zf] [zf] λx=>(rC x.1 x.2.1,())
theorem zeO:FK 316 F44:=by
 refine zW zh5 λx C hC=>?_
 refine aR iJ zh5 (λid _=>hC id) (zku x.1 x.2.1) ?_;simp only[Tr.val,rC];repeat' split
 all_goals rfl
def lU(x0:Sem zf)(x1:Sem zf):Sem zf:=if(bif !eH x0 x1 then Q3 else x0.1!=1)=Q3 then(0,0,[])else if(bif Q0 (x1.2.1>0)then bif Q0 (IntKind.i64.wrap (x0.2.1-x1.2.1)>x0.2.1)then Q3 else bif Q0 (x1.2.1<0)then Q0 (IntKind.i64.wrap (x0.2.1-x1.2.1)<x0.2.1)else Q4 else bif Q0 (x1.2.1<0)then Q0 (IntKind.i64.wrap (x0.2.1-x1.2.1)<x0.2.1)else Q4)=Q3 then(0,0,[])else(1,IntKind.i64.wrap (x0.2.1-x1.2.1),[])
theorem zh6:zI lm.P 317 Tryz.f317 2:=bU kw
theorem zkv(x0:Sem zf)(x1:Sem zf):rn lm 0 (λ_=>{ }) Tryz.f317 [zE zf x0,zE zf x1] []=br (bif !eH x0 x1 then Q3 else x0.1!=1) (Tr.ok (zC.ret (Qd [ai 0,ai 0,str []]) [])) (br (bif Q0 (x1.2.1>0)then bif Q0 (IntKind.i64.wrap (x0.2.1-x1.2.1)>x0.2.1)then Q3 else bif Q0 (x1.2.1<0)then Q0 (IntKind.i64.wrap (x0.2.1-x1.2.1)<x0.2.1)else Q4 else bif Q0 (x1.2.1<0)then Q0 (IntKind.i64.wrap (x0.2.1-x1.2.1)<x0.2.1)else Q4) (Tr.ok (zC.ret (Qd [ai 0,ai 0,str []]) [])) (Tr.ok (zC.ret (Qd [ai 1,ai (IntKind.i64.wrap (x0.2.1-x1.2.1)),str []]) []))):=kw
def F45:zX:=aC [zf,zf] [zf] λx=>(lU x.1 x.2.1,())
theorem zeP:FK 317 F45:=by
 refine zW zh6 λx C hC=>?_
 refine aR iJ zh6 (λid _=>hC id) (zkv x.1 x.2.1) ?_;simp only[Tr.val,lU];repeat' split
 all_goals rfl
def Nw(x0:Sem zf)(_:Sem zf):Sem zf:=xL x0
theorem zh0:zI lm.P 312 Tryz.f312 2:=bU kw
theorem zkq(x0:Sem zf)(x1:Sem zf):rn lm 0 (λ_=>{ }) Tryz.f312 [zE zf x0,zE zf x1] []=Tr.ok (zC.ret (Qd [ai (xL x0).1,ai (xL x0).2.1,str (xL x0).2.2]) []):=kw
def F40:zX:=aC [zf,zf] [zf] λx=>(Nw x.1 x.2.1,())
theorem zeK:FK 312 F40:=by
 refine zW zh0 λx C hC=>?_
 refine aR iJ zh0 (λid _=>hC id) (zkq x.1 x.2.1) ?_;simp only[Tr.val,Nw];repeat' split
 all_goals rfl
def Hk(x0:Sem zf)(_:Sem zf):Sem zf:=je x0
theorem zh7:zI lm.P 318 Tryz.f318 2:=bU kw
theorem zkw(x0:Sem zf)(x1:Sem zf):rn lm 0 (λ_=>{ }) Tryz.f318 [zE zf x0,zE zf x1] []=Tr.ok (zC.ret (Qd [ai (je x0).1,ai (je x0).2.1,str (je x0).2.2]) []):=kw
def F46:zX:=aC [zf,zf] [zf] λx=>(Hk x.1 x.2.1,())
theorem zeQ:FK 318 F46:=by
 refine zW zh7 λx C hC=>?_
 refine aR iJ zh7 (λid _=>hC id) (zkw x.1 x.2.1) ?_;simp only[Tr.val,Hk];repeat' split
 all_goals rfl
noncomputable def rb:=lm.addL [(62,F60),(314,F42),(316,F44),(317,F45),(312,F40),(318,F46)]
theorem jZ:zw rb:=iJ.addL<|fc ze5<|fc zeM<|fc zeO<|fc zeP<|fc zeK<|fc zeQ jm
def rB(x0:Sem zf)(x1:Sem zf):Sem zf:=if(!eH x0 x1)=Q3 then(0,0,[])else dg (Q0 (cD x0 x1<0))
theorem zh4:zI rb.P 315 Tryz.f315 2:=bU kw
theorem zkt(x0:Sem zf)(x1:Sem zf):rn rb 0 (λ_=>{ }) Tryz.f315 [zE zf x0,zE zf x1] []=br (!eH x0 x1) (Tr.ok (zC.ret (Qd [ai 0,ai 0,str []]) [])) (Tr.ok (zC.ret (Qd [ai (dg (Q0 (cD x0 x1<0))).1,ai (dg (Q0 (cD x0 x1<0))).2.1,str (dg (Q0 (cD x0 x1<0))).2.2]) [])):=kw
def F43:zX:=aC [zf,zf] [zf] λx=>(rB x.1 x.2.1,())
theorem zeN:FK 315 F43:=by
 refine zW zh4 λx C hC=>?_
 refine aR jZ zh4 (λid _=>hC id) (zkt x.1 x.2.1) ?_;simp only[Tr.val,rB];repeat' split
 all_goals rfl
def Dl(x0:Sem zf):Sem zf:=if Q0 ((↑(length x0.2.2):Int)>60)=Q3 then(x0.1,x0.2.1,Qg (toNat 60-toNat 0) (Qh (toNat 0) x0.2.2))else x0
def JS(x0:Sem zf):Bool:=bif Q0 ((↑(length x0.2.2):Int)>60)then Q0 (0<=0)&&Q0 (0<=60)&&Q0 (60<=(↑(length x0.2.2):Int))else Q3
theorem zhI:zI rb.P 8 Tryz.f8 1:=bU kw
theorem zj9(x0:Sem zf):rn rb 0 (λ_=>{ }) Tryz.f8 [zE zf x0] []=br (Q0 ((↑(length x0.2.2):Int)>60)) (chk (Q0 (0<=0)&&Q0 (0<=60)&&Q0 (60<=(↑(length x0.2.2):Int))) (Tr.ok (zC.ret (Qd [ai x0.1,ai x0.2.1,str (Qg (toNat 60-toNat 0) (Qh (toNat 0) x0.2.2))]) []))) (Tr.ok (zC.ret (Qd [ai x0.1,ai x0.2.1,str x0.2.2]) [])):=kw
def F14:zX:=zP [zf] [zf] (λx=>JS x.1) λx=>(Dl x.1,())
theorem XM:FK 8 F14:=by
 refine aI zhI λx hx C hC=>?_
 refine aR jZ zhI (λid _=>hC id) (zj9 x.1) ?_;simp only[JS,Bool.cond_eq_ite]at hx;simp only[Tr.val,Dl];repeat' split
 all_goals first|rfl|simp_all
def iT(x0:Sem Q6):Sem Q6:=if Q0 ((↑(length x0):Int)>20)=Q3 then Qg (toNat 20-toNat 0) (Qh (toNat 0) x0)else x0
def Nm(x0:Sem Q6):Bool:=bif Q0 ((↑(length x0):Int)>20)then Q0 (0<=0)&&Q0 (0<=20)&&Q0 (20<=(↑(length x0):Int))else Q3
theorem zhH:zI rb.P 114 Tryz.f114 1:=bU kw
theorem zj8(x0:Sem Q6):rn rb 0 (λ_=>{ }) Tryz.f114 [zE Q6 x0] []=br (Q0 ((↑(length x0):Int)>20)) (chk (Q0 (0<=0)&&Q0 (0<=20)&&Q0 (20<=(↑(length x0):Int))) (Tr.ok (zC.ret (str (Qg (toNat 20-toNat 0) (Qh (toNat 0) x0))) []))) (Tr.ok (zC.ret (str x0) [])):=kw
def F12:zX:=zP [Q6] [Q6] (λx=>Nm x.1) λx=>(iT x.1,())
theorem XL:FK 114 F12:=by
 refine aI zhH λx hx C hC=>?_
 refine aR jZ zhH (λid _=>hC id) (zj8 x.1) ?_;simp only[Nm,Bool.cond_eq_ite]at hx;simp only[Tr.val,iT];repeat' split
 all_goals first|rfl|simp_all
noncomputable def F79:zX:=bm (List.replicate 2 Q2) (fN rb Tryz.f288 (List.replicate 2 Q2))
theorem zfi:FK 288 F79:=cw _ jZ (bU kw)
noncomputable def F18:zX:=bm (List.replicate 2 Q2) (fN rb Tryz.f169 (List.replicate 2 Q2))
theorem zev:FK 169 F18:=cw _ jZ (bU kw)
noncomputable def XW:=rb.addL [(315,F43),(8,F14),(114,F12),(288,F79),(169,F18)]
theorem vn:zw XW:=jZ.addL<|fc zeN<|fc XM<|fc XL<|fc zfi<|fc zev jm
def sD:(ks:List Sh)->zy (ks.map Q1++[Q2])->zy (ks.map Q1)×AV
 |[],x=>((),x.1)
 |_::ks,x=>((x.1,(sD ks x.2).1),(sD ks x.2).2)
theorem Ak:∀(ks:List Sh)(x:zy (ks.map Q1++[Q2])),iW (ks.map Q1++[Q2]) x=iW (ks.map Q1) (sD ks x).1++[(sD ks x).2]
 |[],_=>rfl
 |s::ks,x=>congrArg (zE s x.1::·) (Ak ks x.2)
def RA(k:Nat):AV->Bool
 |.clo (.func j) [] []=>j==k
 |_=>Q4
theorem RB{k:Nat}{v:AV}(h:RA k v=Q3):v=.clo (.func k) [] []:=by
 unfold RA at h;split at h
 ·rw[aZ]at h;rw[h]
 ·cases h
abbrev Pn(ks outs:List Sh):=Nat×(zy (ks.map Q1)->Bool)×(zy (ks.map Q1)->zy (outs.map Q1))
def U7{ks outs:List Sh}(v:AV):List (Pn ks outs)->Option ((zy (ks.map Q1)->Bool)×(zy (ks.map Q1)->zy (outs.map Q1)))
 |[]=>Q2
 |(k,a)::r=>if RA k v then Q1 a else U7 v r
theorem HI{ks outs:List Sh}{v:AV}{a}:∀{l:List (Pn ks outs)},U7 v l=Q1 a->∃k,v=.clo (.func k) [] []/\(k,a)∈l
 |[],h=>by cases h
 | (k,b)::r,h=>by
  unfold U7 at h;split at h
  ·rename_i hk;cases h;exact⟨k,RB hk,wJ ..⟩
  ·obtain⟨j,h1,h2⟩:=HI h;exact⟨j,h1,sL _ h2⟩
def MV(ks outs:List Sh)(l:List (Pn ks outs)):iw (ks.map Q1++[Q2]):=λx h=>match h with
 | []=>match U7 (sD ks x).2 l with
  |some (c,g)=>.chk (c (sD ks x).1) (.ok (xu outs (g (sD ks x).1),[]))
  |none=>.err
 |_=>.err
def SZ(ks outs:List Sh)(l:List (Pn ks outs)):zX:=bm (ks.map Q1++[Q2]) (MV ks outs l)
theorem J0{P:Program}{gl:Nat->AV}{E:bX}{k:FuncId}{f:Func}{ks outs:List Sh}{l:List (Pn ks outs)}(hf:zI E.P k f (ks.length+1))
  (h:∀j c g,(j,c,g)∈l->∀x,c x=Q3->∀C:eP,(∀id,C.ρ0 id=Q2)->Reach E C k (bw f) (be f.ntmps (iW (ks.map Q1) x++[.clo (.func j) [] []]) []) (λr h=>aL h outs r=Q1 (g x))) (qp:E.P=P:=by rfl) (qg:E.gl=gl:=by rfl):nV P gl k (SZ ks outs l):=by
 subst qp qg;refine dH (by simpa using hf) λx h0 res hx C hC=>?_
 unfold MV at hx;split at hx
 ·split at hx
  ·rename_i c g hal;obtain⟨j,hv,hm⟩:=HI hal;simp only[Tr.val]at hx;split at hx
   ·rename_i hc;simp only[bB]at hx;subst hx;rw[Ak,hv];exact Reach.plain (λid=>hC id (by simp)) (h j c g hm _ hc C (λid=>hC id (by simp)))
   ·simp at hx
  ·simp at hx
 ·simp at hx
inductive CP where
 |d (s:Sh)
 |nil
 |vec (e:Sh)
@[reducible] def zn:List CP->Type
 |[]=>Unit
 |.d s::r=>Sem s×zn r
 |.nil::r=>zn r
 |.vec e::r=>List (Sem e)×zn r
def eo:(n:Nat)->(ps:List CP)->zn ps->List AV
 |_,[],_=>[]
 |n,.d s::r,y=>zq s y.1++eo n r y.2
 |n,.nil::r,y=>.nils::eo n r y
 |n,.vec _::r,y=>.vec n::eo (n+1) r y.2
def fS:(ps:List CP)->zn ps->List AO
 |[],_=>[]
 |.d _::r,y=>fS r y.2
 |.nil::r,y=>fS r y
 |.vec e::r,y=>.vec e y.1::fS r y.2
def ar(ps:List CP)(y:zn ps):List AO:=.box (eo 1 ps y)::fS ps y
def aS:List CP->Nat
 |[]=>0
 |.vec _::r=>aS r+1
 |_::r=>aS r
theorem bJ:∀(ps:List CP)(y:zn ps),(fS ps y).length=aS ps
 |[],_=>rfl
 |.d _::r,y=>bJ r y.2
 |.nil::r,y=>bJ r y
 |.vec _::r,y=>congrArg (·+1) (bJ r y.2)
def cq(hp:Nat->AO):(n:Nat)->(ps:List CP)->List AV->Option (zn ps)
 |_,[],[]=>Q1 ()
 | n,.d s::r,cs=>match cI (fun _=>.dead) s cs with
  | some (x,cs')=>match cq hp n r cs' with
   |some y=>Q1 (x,y)
   |none=>Q2
  |none=>Q2
 |n,.nil::r,.nils::cs=>cq hp n r cs
 | n,.vec e::r,.vec id::cs=>if id=n then match hp id with
   | .vec e' l=>if h:e'=e then match cq hp (n+1) r cs with
     |some y=>Q1 (h▸l,y)
     |none=>Q2
    else Q2
   |_=>Q2
  else Q2
 |_,_,_=>Q2
section
variable {w:World} {U:Nat->Prop} {ρ:Nat->Option Value}
theorem dj.app{a b:List AV}{va vb:List Value}(h1:dj w U ρ a va)(h2:dj w U ρ b vb):dj w U ρ (a++b) (va++vb) where
 len:=by simp[h1.len,h2.len]
 rv:=by
  intro j c v hc hv;by_cases hj:j<a.length
  ·rw[mQ hj]at hc;rw[mQ (by rw[<-h1.len];exact hj)]at hv;exact h1.rv j c v hc hv
  ·rw[nX ow]at hc;rw[nX (by rw[<-h1.len];omega),<-h1.len]at hv;exact h2.rv _ c v hc hv
theorem dj.tail{a:AV}{l:List AV}{v:Value}{vs:List Value}(h:dj w U ρ (a::l) (v::vs)):dj w U ρ l vs:=
 ⟨by have:=h.len;simpa using this,λj c x hc hx=>h.rv (j+1) c x (by simpa using hc) (by simpa using hx)⟩
theorem dj.consH{a:AV}{l:List AV}{v:Value}{vs:List Value}(h1:Rv w U ρ a v)(h2:dj w U ρ l vs):dj w U ρ (a::l) (v::vs) where
 len:=by simp[h2.len]
 rv:=by
  intro j c x hc hx;cases j with
  |zero=>simp at hc hx;subst hc;subst hx;exact h1
  |succ j=>exact h2.rv j c x (by simpa using hc) (by simpa using hx)
theorem fm{hp:Nat->AO}:∀(ps:List CP)(n:Nat)(cs:List AV)(y:zn ps)(vals:List Value),cq hp n ps cs=Q1 y->dj w U ρ cs vals->
  dj w U ρ (eo n ps y) vals/\∀(j:Nat) o,(fS ps y)[j]?=Q1 o->hp (n+j)=o
 |[],n,[],y,vals,h,hr=>⟨hr,by simp[fS]⟩
 |[],n,_::_,y,vals,h,hr=>by simp[cq]at h
 | .d s::r,n,cs,y,vals,h,hr=>by
  unfold cq at h;split at h
  ·rename_i x cs' hi;split at h
   ·rename_i y' hy;cases h
    have hk:=m4 (w:=w) (U:=U) (U':=U) (ρ:=ρ) (hp:=λ_=>.dead) (λ_ h=>h) s cs x cs' (λj=>vals.getD j undef) hi
     (λj c hc=>by
      have hlt:j<vals.length:=by rw[<-hr.len];exact(cW.1 hc).1
      have:=hr.rv j c vals[j] hc (zR hlt);simpa[List.getD,zR hlt]using this)
     (λid _=>⟨trivial,λb hb=>by simp[ag,AO.owns]at hb⟩)
    obtain⟨k1,k2,k3⟩:=hk;have hdrop:dj w U ρ cs' (vals.drop s.size):=by
     refine⟨by rw[k2];simp[hr.len],λj c v hc hv=>?_⟩;rw[k2,Dy]at hc;rw[Dy]at hv;exact hr.rv _ c v hc hv
    obtain⟨i1,i2⟩:=fm r n cs' y' (vals.drop s.size) hy hdrop;refine⟨?_,i2⟩;have htake:dj w U ρ (zq s x) (vals.take s.size):=by
     refine⟨by rw[zV];have:=hr.len;simp;omega,λj c v hc hv=>?_⟩;have hj:j<s.size:=by rw[<-zV s x];exact(cW.1 hc).1
     rw[List.getElem?_take,if_pos hj]at hv;have:=k3 j c hc;simpa[List.getD,hv]using this
    have:=htake.app i1;rw[List.take_append_drop]at this;exact this
   ·cases h
  ·cases h
 | .nil::r,n,.nils::cs,y,vals,h,hr=>by
  match vals,hr with
  |[],hr=>have:=hr.len;simp at this
  | v::vs,hr=>
   have hv:=hr.rv 0 _ v rfl rfl;obtain⟨i1,i2⟩:=fm r n cs y vs h hr.tail;exact⟨dj.consH hv i1,i2⟩
 | .vec e::r,n,.vec id::cs,y,vals,h,hr=>by
  match vals,hr with
  |[],hr=>have:=hr.len;simp at this
  | v :: vs,hr=>
   have hv:=hr.rv 0 _ v rfl rfl;unfold cq at h;split at h
   ·rename_i hid;subst hid;split at h
    ·rename_i e' l ho;split at h
     ·rename_i he;subst he;split at h
      ·rename_i y' hy;cases h;obtain⟨i1,i2⟩:=fm r (id+1) cs y' vs hy hr.tail;refine⟨dj.consH hv i1,λj o hj=>?_⟩;cases j with
       |zero=>simp[fS]at hj;subst hj;exact ho
       | succ j=>
        have:=i2 j o (by simpa[fS]using hj);rw[<-this];congr 1;omega
      ·cases h
     ·cases h
    ·cases h
   ·cases h
 |.nil::_,_,[],_,_,h,_=>by simp[cq]at h
 |.vec _::_,_,[],_,_,h,_=>by simp[cq]at h
 |.nil::_,_,.any::_,_,_,h,_|.nil::_,_,.kb _::_,_,_,h,_|.nil::_,_,.bool _::_,_,_,h,_|.nil::_,_,.int _ _::_,_,_,h,_|.nil::_,_,.str _::_,_,_,h,_
 |.nil::_,_,.sl _ _::_,_,_,h,_|.nil::_,_,.vec _::_,_,_,h,_|.nil::_,_,.ptr _ _::_,_,_,h,_|.nil::_,_,.vptr _ _ _ _::_,_,_,h,_|.nil::_,_,.eptr _ _::_,_,_,h,_
 |.nil::_,_,.nilp::_,_,_,h,_|.nil::_,_,.agg _::_,_,_,h,_|.nil::_,_,.tup _::_,_,_,h,_|.nil::_,_,.clo _ _ _::_,_,_,h,_|.nil::_,_,.nilf::_,_,_,h,_
 |.nil::_,_,.mp _::_,_,_,h,_|.nil::_,_,.ifc _::_,_,_,h,_|.nil::_,_,.tab _ _::_,_,_,h,_|.nil::_,_,.gint::_,_,_,h,_=>by simp[cq]at h
 |.vec _::_,_,.any::_,_,_,h,_|.vec _::_,_,.kb _::_,_,_,h,_|.vec _::_,_,.bool _::_,_,_,h,_|.vec _::_,_,.int _ _::_,_,_,h,_|.vec _::_,_,.str _::_,_,_,h,_
 |.vec _::_,_,.sl _ _::_,_,_,h,_|.vec _::_,_,.nils::_,_,_,h,_|.vec _::_,_,.ptr _ _::_,_,_,h,_|.vec _::_,_,.vptr _ _ _ _::_,_,_,h,_|.vec _::_,_,.eptr _ _::_,_,_,h,_
 |.vec _::_,_,.nilp::_,_,_,h,_|.vec _::_,_,.agg _::_,_,_,h,_|.vec _::_,_,.tup _::_,_,_,h,_|.vec _::_,_,.clo _ _ _::_,_,_,h,_|.vec _::_,_,.nilf::_,_,_,h,_
 |.vec _::_,_,.mp _::_,_,_,h,_|.vec _::_,_,.ifc _::_,_,_,h,_|.vec _::_,_,.tab _ _::_,_,_,h,_|.vec _::_,_,.gint::_,_,_,h,_=>by simp[cq]at h
end
theorem jf.box{C:eP}{w:World}{U:Nat->Prop}{ρ:Nat->Option Value}{cs:List AV}{os:List AO}{ps:List CP}{y:zn ps}(hH:jf C w U ρ (λj=>((Qa cs::os).getD j .dead)))(hl:os.length=aS ps)
  (hm:cq (jE (.box cs::os)) 1 ps cs=Q1 y):jf C w U ρ (λj=>(ar ps y).getD j .dead):=by
 have h0:bx w U ρ 0 (.box cs):=hH.ob 0;obtain⟨b,T,vals,h1,h2,h3,h4,h5⟩:=h0;obtain⟨k1,k2⟩:=fm ps 1 cs y vals.toList hm h4;have hobj:∀id,id≠0->(ar ps y).getD id .dead=(Qa cs::os).getD id .dead:=by
  intro id hid;obtain⟨j,rfl⟩:∃j,id=j+1:=⟨id-1,ow⟩;by_cases hj:j<(fS ps y).length
  ·have:=k2 j _ (zR hj);unfold ar;simp only[Ac];rw[ba,zR hj];simp only[jE,nL 1 j,Ac]at this;simpa using this.symm
  ·have h7:os.length<=j:=by rw[bJ]at hj;omega
   unfold ar;simp only[Ac];rw[ba,ba,eX ow,eX h7]
 have hown:∀id b,ag ρ id ((ar ps y).getD id .dead) b->ag ρ id ((Qa cs::os).getD id .dead) b:=by
  intro id b' ho;by_cases hid:id=0
  ·subst hid;obtain⟨_,v,hv,hb⟩:=ho;exact⟨rfl,v,hv,hb⟩
  ·rw[hobj id hid]at ho;exact ho
 refine⟨λid=>?_,λid1 id2 b' o1 o2=>hH.inj id1 id2 b' (hown _ _ o1) (hown _ _ o2),λid b' o=>hH.blk id b' (hown _ _ o)⟩;by_cases hid:id=0
 ·subst hid;exact⟨b,T,vals,h1,h2,h3,k1,h5⟩
 ·show bx w U ρ id ((ar ps y).getD id .dead);rw[hobj id hid];exact hH.ob id
def rM(ps:List CP)(outs:List Sh)(r:AV)(h:List AO):Option (zy (outs.map Q1)×zn ps):=match h with
 | .box cs::os=>if os.length=aS ps then match aL [] outs r,cq (jE (.box cs::os)) 1 ps cs with
   |some a,Q1 y=>Q1 (a,y)
   |_,_=>Q2
  else Q2
 |_=>Q2
def zfI(ps:List CP)(ks outs:List Sh)(ps':List CP)(c:zn ps->zy (ks.map Q1)->Bool)(g:zn ps->zy (ks.map Q1)->zy (outs.map Q1)×zn ps'):iw (Q2::ks.map Q1):=λx h=>match x.1,h with
 | .ptr 0 0,.box cs::os=>if os.length=aS ps then match cq (jE (.box cs::os)) 1 ps cs with
   |some y=>.chk (c y x.2) (.ok (xu outs (g y x.2).1,ar ps' (g y x.2).2))
   |none=>.err
  else .err
 |_,_=>.err
def rL(ps:List CP)(ks outs:List Sh)(ps':List CP)(c:zn ps->zy (ks.map Q1)->Bool)(g:zn ps->zy (ks.map Q1)->zy (outs.map Q1)×zn ps'):zX:=bm (Q2::ks.map Q1) (zfI ps ks outs ps' c g)
theorem ra(ps:List CP)(y:zn ps):(ar ps y).length=aS ps+1:=by
 simp[ar,bJ]
theorem E2{w:World}{U:Nat->Prop}{ρ:Nat->Option Value}{outs:List Sh}{r:AV}{y:zy (outs.map Q1)}{v:Value}(h:aL [] outs r=Q1 y)(hr:Rv w U ρ r v):Rv w U ρ (xu outs y) v:=by
 have hob:∀id,bx w U ρ id (jE [] id)/\∀b,ag ρ id (jE [] id) b->¬U b:=λid=>⟨by simp[jE,bx],λb hb=>by simp[jE,ag,AO.owns]at hb⟩
 have htup:∀(outs:List Sh)(y:zy (outs.map Q1))(rs:List AV),lx (jE []) (λi=>i) (outs.map Q1) rs=Q1 y->Rv w U ρ (.tup rs) v->Rv w U ρ (.tup (iW (outs.map Q1) y)) v:=by
  intro outs y rs hy hrv;cases hrv with
  |tup _ vs hl hr2=>
  have:=(jp (w:=w) (U:=U) (ρ:=ρ) (U':=U) (ρ':=ρ) (hp:=jE []) (f:=λi=>i) (λb hb=>hb) (outs.map Q1) rs vs _ (oZ outs rs y hy) ⟨hl,hr2⟩ (λid _=>hob id)
   (λid _=>rfl)).1
  simp only[oz,sM,zG,if_false,List.map_id']at this;exact .tup _ vs this.len this.rv
 match outs,y,h with
 | [s],y,h=>
  simp only[aL]at h;split at h
  ·rename_i x hx;cases h;exact Ar hx hr (λb hb=>hb) (λid _=>hob id)
  ·cases h
 | [],y,h=>
  simp only[aL]at h;cases r with
  |tup rs=>exact htup [] y _ h hr
  |_=>cases h
 | s1::s2::ss,y,h=>
  simp only[aL]at h;cases r with
  |tup rs=>exact htup _ y _ h hr
  |_=>cases h
theorem UU{P:Program}{gl:Nat->AV}{E:bX}{k:FuncId}{f:Func}{ps:List CP}{ks outs:List Sh}{ps':List CP}{c:zn ps->zy (ks.map some)->Bool}{g:zn ps->zy (ks.map some)->zy (outs.map some)×zn ps'}(hf:zI E.P k f (ks.length+1))
  (h:∀y x,c y x=Q3->∀C:eP,(∀id,aS ps+1<=id->C.ρ0 id=Q2)->Reach E C k (bw f) (be f.ntmps (.ptr 0 0::iW (ks.map Q1) x) (ar ps y)) (λr h=>rM ps' outs r h=Q1 (g y x))) (qp:E.P=P:=by rfl) (qg:E.gl=gl:=by rfl):
  nV P gl k (rL ps ks outs ps' c g):=by
 subst qp qg;refine dH (by simpa using hf) λx h0 res hx C hC=>?_
 obtain⟨x0,x⟩:=x;unfold zfI at hx;simp only at hx;split at hx
 ·rename_i cs os;split at hx
  ·rename_i hos;split at hx
   ·rename_i y hy;simp only[Tr.val]at hx;split at hx
    ·rename_i hc;simp only[bB]at hx;subst hx;have hR:=h y x hc C (λid hid=>hC id (by simpa[hos]using hid));intro b cs' a w U ρ h1 h2 hcn hW;have hH:jf C w U ρ (λj=>((Qa cs::os).getD j .dead)):=hcn.hp
     have hcn':Cn C (be f.ntmps (.ptr 0 0::iW (ks.map Q1) x) (ar ps y)) a w U ρ:=
      ⟨hcn.tm,hH.box hos hy,λid hid=>hcn.new id (by have hid:(ar ps y).length<=id:=hid;rw[ra]at hid;simpa[be,hos]using hid),hcn.df,hcn.r0⟩
     obtain⟨e,w',fr,⟨v,r,h',U',ρ',he,hq,hrv,hH',hnew,hr0,hWd⟩,hcm,hf',hl⟩:=hR b cs' a w U ρ h1 h2 hcn' hW;unfold rM at hq;split at hq
     ·rename_i cs2 os2;split at hq
      ·rename_i hos2;split at hq
       ·rename_i a' y' ha' hy';simp only[bB]at hq;refine⟨e,w',fr,⟨v,_,_,U',ρ',he,by rw[<-hq],E2 ha' hrv,hH'.box hos2 hy',λid hid=>hnew id (by rw[ra]at hid;simpa[hos2]using hid),hr0,hWd⟩,hcm,hf',hl⟩
       ·cases hq
      ·cases hq
     ·cases hq
    ·simp at hx
   ·simp at hx
  ·simp at hx
 ·simp at hx
def tD(E:bX)(n0:Nat)(keep:Nat->aM)(f:Func)(gas:Nat):Nat->List Item->St->Option (AV×List AO)
 |0,_,_=>Q2
 | n+1,K,st=>match (run E n0 keep f.results.toList gas K st).val with
  |some (.ret v h)=>Q1 (v,h)
  |some (.head _ K' st')=>tD E n0 keep f gas n K' st'
  |_=>Q2
theorem oT{E:bX}{C:eP}{k:FuncId}{f:Func}{Q:AV->List AO->Prop}{m n0:Nat}(hE:zw E)(hf:zI E.P k f m)(hC:∀id,n0<=id->C.ρ0 id=Q2){keep:Nat->aM}{gas:Nat}:
  ∀(n:Nat)(K:List Item)(st:St)(r:AV×List AO),tD E n0 keep f gas n K st=Q1 r->Q r.1 r.2->Reach E C k K st Q
 |0,_,_,_,h,_=>by cases h
 | n+1,K,st,r,h,hQ=>by
  unfold tD at h;split at h
  ·rename_i v h' hv;cases h;exact mB hE hf hC hv hQ
  ·rename_i j K' st' hv;exact mB hE hf hC hv (oT hE hf hC n K' st' r h hQ)
  ·cases h
def cu:(outs:List Sh)->zy (outs.map Q1)
 |[]=>()
 |s::r=>(zi s,cu r)
def fO:(ps:List CP)->zn ps
 |[]=>()
 |.d s::r=>(zi s,fO r)
 |.nil::r=>fO r
 |.vec _::r=>([],fO r)
def bC:List Nat->(ps:List CP)->zn ps->List AV
 |_,[],_=>[]
 |n,.d s::r,y=>zq s y.1++bC n r y.2
 |n,.nil::r,y=>.nils::bC n r y
 |n,.vec _::r,y=>.vec (n.headD 0)::bC n.tail r y.2
def YD(E:bX)(keep:Nat->aM)(f:Func)(gas n:Nat)(ks outs:List Sh)(x:zy (ks.map Q1)):Option (zy (outs.map Q1)):=
 (tD E 0 keep f gas n (bw f) (be f.ntmps (iW (ks.map Q1) x) [])).bind λr=>aL r.2 outs r.1
def K4(ks outs:List Sh)(g:zy (ks.map Q1)->Option (zy (outs.map Q1))):zX:=zP ks outs (λx=>(g x).isSome) λx=>(g x).getD (cu outs)
theorem zaN{P:Program}{gl:Nat->AV}{E:bX}{k:FuncId}{f:Func}{ks outs:List Sh}{keep:Nat->aM}{gas n:Nat}(hE:zw E)(hf:zI E.P k f ks.length)(qp:E.P=P:=by rfl)(qg:E.gl=gl:=by rfl):nV P gl k (K4 ks outs (YD E keep f gas n ks outs)):=by
 subst qp qg;refine aI hf λx hc C hC=>?_
 rw[Option.isSome_iff_exists]at hc;obtain⟨y,hy⟩:=hc;rw[hy];unfold YD at hy;rw[fL]at hy;obtain⟨r,h1,h2⟩:=hy;exact oT hE hf (λid _=>hC id) n _ _ r h1 h2
def YC(E:bX)(keep:Nat->aM)(f:Func)(gas n:Nat)(ps:List CP)(ks outs:List Sh)(ps':List CP)(y:zn ps)(x:zy (ks.map Q1)):Option (zy (outs.map Q1)×zn ps'):=
 (tD E (aS ps+1) keep f gas n (bw f) (be f.ntmps (.ptr 0 0::iW (ks.map Q1) x) (ar ps y))).bind λr=>rM ps' outs r.1 r.2
def zju(ps:List CP)(ks outs:List Sh)(ps':List CP)(g:zn ps->zy (ks.map Q1)->Option (zy (outs.map Q1)×zn ps')):zX:=
 rL ps ks outs ps' (λy x=>(g y x).isSome) λy x=>(g y x).getD (cu outs,fO ps')
theorem UV{P:Program}{gl:Nat->AV}{E:bX}{k:FuncId}{f:Func}{ps:List CP}{ks outs:List Sh}{ps':List CP}{keep:Nat->aM}{gas n:Nat}(hE:zw E)(hf:zI E.P k f (ks.length+1))(qp:E.P=P:=by rfl)(qg:E.gl=gl:=by rfl):nV P gl k (zju ps ks outs ps' (YC E keep f gas n ps ks outs ps')):=by
 subst qp qg;refine UU hf λy x hc C hC=>?_
 rw[Option.isSome_iff_exists]at hc;obtain⟨z,hz⟩:=hc;rw[hz];unfold YC at hz;rw[fL]at hz;obtain⟨r,h1,h2⟩:=hz;exact oT hE hf hC n _ _ r h1 h2
theorem J1{P:Program}{gl:Nat->AV}{k:FuncId}{ks outs:List Sh}{g:zy (ks.map Q1)->Option (zy (outs.map Q1))}{c:zy (ks.map Q1)->Bool}{g':zy (ks.map Q1)->zy (outs.map Q1)}(h:nV P gl k (K4 ks outs g))(hg:∀x,c x=Q3->g x=Q1 (g' x)):nV P gl k (zP ks outs c g'):=by
 refine xN (ι:=Unit) (Gs:=λ_=>ff ks outs (λx=>(g x).isSome) λx=>(g x).getD (cu outs)) (λ_=>h) λx h0 res hv=>⟨(),?_⟩
 unfold ff at hv⊢;split at hv
 ·simp only[Tr.val]at hv⊢;split at hv
  ·rename_i hc;simp only[hg x hc,Dz,if_true,dq];exact hv
  ·simp at hv
 ·simp at hv
theorem gJ{P:Program}{gl:Nat->AV}{k:FuncId}{ks outs:List Sh}{g:zy (ks.map Q1)->Option (zy (outs.map Q1))}{g':zy (ks.map Q1)->zy (outs.map Q1)}(h:nV P gl k (K4 ks outs g))(hg:∀x,g x=Q1 (g' x)):nV P gl k (aC ks outs g'):=
 L2 (J1 h λx _=>hg x)
theorem UW{P:Program}{gl:Nat->AV}{E:bX}{k:FuncId}{f:Func}{ks outs:List Sh}{keep:Nat->aM}{gas n:Nat}{c:zy (ks.map Q1)->Bool}{g:zy (ks.map Q1)->zy (outs.map Q1)}(hE:zw E)(hf:zI E.P k f ks.length)
  (hc:∀x,c x=(YD E keep f gas n ks outs x).isSome) (hg:∀x,g x=(YD E keep f gas n ks outs x).getD (cu outs)) (qp:E.P=P:=by rfl) (qg:E.gl=gl:=by rfl):nV P gl k (zP ks outs c g):=by
 subst qp qg;obtain rfl:c=λx=>(YD E keep f gas n ks outs x).isSome:=funext hc
 obtain rfl:g=λx=>(YD E keep f gas n ks outs x).getD (cu outs):=funext hg
 exact zaN hE hf
theorem Pz{P:Program}{gl:Nat->AV}{E:bX}{k:FuncId}{f:Func}{ps:List CP}{ks outs:List Sh}{ps':List CP}{keep:Nat->aM}{gas n:Nat}{c:zn ps->zy (ks.map Q1)->Bool}{g:zn ps->zy (ks.map Q1)->zy (outs.map Q1)×zn ps'}(hE:zw E)(hf:zI E.P k f (ks.length+1))
  (hc:∀y x,c y x=(YC E keep f gas n ps ks outs ps' y x).isSome) (hg:∀y x,g y x=(YC E keep f gas n ps ks outs ps' y x).getD (cu outs,fO ps')) (qp:E.P=P:=by rfl) (qg:E.gl=gl:=by rfl):nV P gl k (rL ps ks outs ps' c g):=by
 subst qp qg;obtain rfl:c=λy x=>(YC E keep f gas n ps ks outs ps' y x).isSome:=funext λy=>funext λx=>hc y x
 obtain rfl:g=λy x=>(YC E keep f gas n ps ks outs ps' y x).getD (cu outs,fO ps'):=funext λy=>funext λx=>hg y x
 exact UV hE hf
abbrev aw:=AV×List AO
def Tr.map{α β:Type}(f:α->β):Tr α->Tr β
 |.err=>.err
 |.chk c t=>.chk c (t.map f)
 |.br c t e=>.br c (t.map f) (e.map f)
 |.ok a=>.ok (f a)
theorem Tr.val_map{α β:Type}(f:α->β):∀t:Tr α,(t.map f).val=t.val.map f
 |.err=>rfl
 |.chk c t=>by simp only[Tr.map,Tr.val,val_map f t];split<;>rfl
 |.br c t e=>by simp only[Tr.map,Tr.val,val_map f t,val_map f e];split<;>rfl
 |.ok _=>rfl
abbrev Tr.to{σ:Type}(s:σ):Tr (σ⊕aw):=.ok (.inl s)
abbrev Tr.re{σ:Type}(v:AV)(h:List AO):Tr (σ⊕aw):=.ok (.inr (v,h))
def cQ{σ:Type}(t:σ->Tr (σ⊕aw)):Nat->σ->Option aw
 |0,_=>Q2
 | n+1,s=>match (t s).val with
  |some (.inl s')=>cQ t n s'
  |some (.inr r)=>Q1 r
  |none=>Q2
def cU{σ:Type}(t:σ->Tr (σ⊕aw))(n:Nat)(i:Tr (σ⊕aw)):Option aw:=match i.val with
 |some (.inl s)=>cQ t n s
 |some (.inr r)=>Q1 r
 |none=>Q2
def lf{σ:Type}(f:Func)(e:σ->Nat×St):σ⊕aw->zC
 |.inl s=>.head (e s).1 (ac f (e s).1) (e s).2
 |.inr r=>.ret r.1 r.2
def e0:Empty->Nat×St:=λx=>nomatch x
def t0:Empty->Tr (Empty⊕aw):=λx=>nomatch x
section
variable {σ:Type} {E:bX} {n0:Nat} {keep:Nat->aM} {f:Func} {gas:Nat} {e:σ->Nat×St} {t:σ->Tr (σ⊕aw)}
theorem Mw(hon:∀s,run E n0 keep f.results.toList gas (ac f (e s).1) (e s).2=(t s).map (lf f e)):∀(n:Nat)(s:σ),tD E n0 keep f gas n (ac f (e s).1) (e s).2=cQ t n s
 |0,_=>rfl
 | n+1,s=>by
  rw[tD,hon s,Tr.val_map,cQ];cases(t s).val with
  |none=>rfl
  | some l=>
   cases l with
   |inl s'=>exact Mw hon n s'
   |inr r=>rfl
theorem m8(hon:∀s,run E n0 keep f.results.toList gas (ac f (e s).1) (e s).2=(t s).map (lf f e)){K:List Item}{st:St}{i:Tr (σ⊕aw)}(hgo:run E n0 keep f.results.toList gas K st=i.map (lf f e))(n:Nat):tD E n0 keep f gas (n+1) K st=cU t n i:=by
 rw[tD,hgo,Tr.val_map,cU];cases i.val with
 |none=>rfl
 | some l=>
  cases l with
  |inl s=>exact Mw hon n s
  |inr r=>rfl
end
def al{σ:Type}(outs:List Sh)(t:σ->Tr (σ⊕aw))(n:Nat)(i:Tr (σ⊕aw)):Option (zy (outs.map Q1)):=(cU t n i).bind λr=>aL r.2 outs r.1
theorem lG{P:Program}{gl:Nat->AV}{σ:Type}{E:bX}{k:FuncId}{f:Func}{ks outs:List Sh}{keep:Nat->aM}{gas n:Nat}{e:σ->Nat×St}{t:σ->Tr (σ⊕aw)}{i:zy (ks.map Q1)->Tr (σ⊕aw)}{c:zy (ks.map Q1)->Bool}{g:zy (ks.map Q1)->zy (outs.map Q1)}
  (hE:zw E) (hf:zI E.P k f ks.length) (hgo:∀x,run E 0 keep f.results.toList gas (bw f) (be f.ntmps (iW (ks.map Q1) x) [])=(i x).map (lf f e))
  (hon:∀s,run E 0 keep f.results.toList gas (ac f (e s).1) (e s).2=(t s).map (lf f e))
  (hc:∀x,c x=(al outs t n (i x)).isSome) (hg:∀x,g x=(al outs t n (i x)).getD (cu outs)) (qp:E.P=P:=by rfl) (qg:E.gl=gl:=by rfl):nV P gl k (zP ks outs c g):=by
 subst qp qg;have h:∀x,YD E keep f gas (n+1) ks outs x=al outs t n (i x):=by
  intro x;unfold YD al;rw[m8 hon (hgo x)]
 exact UW (n:=n+1) hE hf (λx=>by rw[h,hc]) (λx=>by rw[h,hg])
theorem Wq{σ:Type}{E:bX}{C:eP}{k:FuncId}{f:Func}{outs:List Sh}{m n0 n gas:Nat}{keep:Nat->aM}{e:σ->Nat×St}{t:σ->Tr (σ⊕aw)}{i:Tr (σ⊕aw)}{K:List Item}{st:St}{y:zy (outs.map Q1)}(hE:zw E)(hf:zI E.P k f m)(hC:∀id,n0<=id->C.ρ0 id=Q2)
  (hgo:run E n0 keep f.results.toList gas K st=i.map (lf f e)) (hon:∀s,run E n0 keep f.results.toList gas (ac f (e s).1) (e s).2=(t s).map (lf f e)) (h:al outs t n i=Q1 y):Reach E C k K st (λr h=>aL h outs r=Q1 y):=by
 unfold al at h;rw[fL]at h;obtain⟨r,h1,h2⟩:=h;rw[<-m8 hon hgo n]at h1;exact oT hE hf hC (n+1) _ _ r h1 h2
abbrev k0:Nat->aM:=λ_=>{ }
abbrev mM:List (Nat×List Nat)->Nat->aM
 |[],_=>{ }
 |p::r,j=>if j=p.1 then{slots:=p.2}else mM r j
def o1{a:Sh}(o:Option (zy [Q1 a])):Sem a:=(o.getD (cu [a])).1
def o2{a b:Sh}(o:Option (zy [Q1 a,Q1 b])):Sem a×Sem b:=((o.getD (cu [a,b])).1,(o.getD (cu [a,b])).2.1)
def o3{a b c:Sh}(o:Option (zy [Q1 a,Q1 b,Q1 c])):Sem a×Sem b×Sem c:=((o.getD (cu [a,b,c])).1,(o.getD (cu [a,b,c])).2.1,(o.getD (cu [a,b,c])).2.2.1)
def FT(ks outs:List Sh)(o:zy (ks.map Q1)->Option (zy (outs.map Q1))):zX:=zP ks outs (λx=>(o x).isSome) λx=>(o x).getD (cu outs)
theorem zw.T1{P:Program}{gl:Nat->AV}{σ:Type}{E:bX}{k:FuncId}{f:Func}{ks outs:List Sh}{keep:Nat->aM}{n:Nat}{e:σ->Nat×St}{t:σ->Tr (σ⊕aw)}{i:zy (ks.map Q1)->Tr (σ⊕aw)}(hE:zw E)(gas:Nat:=400)
  (hf:(E.P.funcs[k]?,f.name=="runtime.NumGoroutine",f.body.isNone,Q0 (ks.length<=f.ntmps))=(Q1 f,Q4,Q4,Q3):=by kernel_rfl)
  (hgo:∀x,run E 0 keep f.results.toList gas (bw f) (be f.ntmps (iW (ks.map Q1) x) [])=(i x).map (lf f e):=by intro x;kernel_rfl)
  (hon:∀s,run E 0 keep f.results.toList gas (ac f (e s).1) (e s).2=(t s).map (lf f e):=by intro s;cases s<;>kernel_rfl) (qp:E.P=P:=by rfl) (qg:E.gl=gl:=by rfl):nV P gl k (FT ks outs λx=>al outs t n (i x)):=by
 subst qp qg;exact lG hE (bU hf) hgo hon (λ_=>rfl) λ_=>rfl
theorem T2(E:bX)(n0:Nat)(keep:Nat->aM)(f:Func)(gas:Nat):∀s,run E n0 keep f.results.toList gas (ac f (e0 s).1) (e0 s).2=(t0 s).map (lf f e0):=λs=>nomatch s
def kE{σ:Type}(outs:List Sh)(ps':List CP)(t:σ->Tr (σ⊕aw))(n:Nat)(i:Tr (σ⊕aw)):Option (zy (outs.map Q1)×zn ps'):=(cU t n i).bind λr=>rM ps' outs r.1 r.2
theorem kd{P:Program}{gl:Nat->AV}{σ:Type}{E:bX}{k:FuncId}{f:Func}{ps:List CP}{ks outs:List Sh}{ps':List CP}{keep:Nat->aM}{gas n:Nat}{e:σ->Nat×St}{t:σ->Tr (σ⊕aw)}{i:zn ps->zy (ks.map Q1)->Tr (σ⊕aw)}{c:zn ps->zy (ks.map Q1)->Bool}{g:zn ps->zy (ks.map Q1)->zy (outs.map Q1)×zn ps'}
  (hE:zw E) (hf:zI E.P k f (ks.length+1)) (hgo:∀y x,run E (aS ps+1) keep f.results.toList gas (bw f) (be f.ntmps (.ptr 0 0::iW (ks.map Q1) x) (ar ps y))=(i y x).map (lf f e))
  (hon:∀s,run E (aS ps+1) keep f.results.toList gas (ac f (e s).1) (e s).2=(t s).map (lf f e))
  (hc:∀y x,c y x=(kE outs ps' t n (i y x)).isSome) (hg:∀y x,g y x=(kE outs ps' t n (i y x)).getD (cu outs,fO ps')) (qp:E.P=P:=by rfl) (qg:E.gl=gl:=by rfl):nV P gl k (rL ps ks outs ps' c g):=by
 subst qp qg;have h:∀y x,YC E keep f gas (n+1) ps ks outs ps' y x=kE outs ps' t n (i y x):=by
  intro y x;unfold YC kE;rw[m8 hon (hgo y x)]
 exact Pz (n:=n+1) hE hf (λy x=>by rw[h,hc]) (λy x=>by rw[h,hg])
open Tr (chk br re)
theorem L7(hp:Nat->AO)(e:Sh)(l:List (Sem e)):uW hp e (.sl e l)=Q1 l:=by
 simp[uW]
theorem jF(hp:Nat->AO):∀(s:Sh)(x:Sem s)(r:List AV),cI hp s (zq s x++r)=Q1 (x,r)
 |.unit,_,_=>rfl
 |.bool,_,_=>rfl
 |.int k,n,r=>by simp[zq,cI]
 |.str,_,_=>rfl
 | .sl e,l,r=>by
  show(match uW hp e (.sl e l)with|some l=>Q1 (l,r)|none=>Q2)=_;rw[L7]
 | .pr a b,x,r=>by
  simp only[zq,cI,Af,jF hp a,jF hp b]
 | .expr,e,r=>by
  show tw hp _=_;simp only[zq,List.cons_append,DC,tw,L7];rw[show ze.mk e.op (e.v.1,e.v.2.1,e.v.2.2) e.s e.l=e from ze.eta e]
theorem iY{hp:Nat->AO}:∀(ps:List CP)(n:Nat)(y:zn ps),(∀(j:Nat) o,(fS ps y)[j]?=Q1 o->hp (n+j)=o)->cq hp n ps (eo n ps y)=Q1 y
 |[],_,_,_=>rfl
 | .d s::r,n,y,h=>by
  simp only[eo,cq,jF];rw[iY r n y.2 h]
 | .nil::r,n,y,h=>by
  simp only[eo,cq];exact iY r n y h
 | .vec e::r,n,y,h=>by
  have h0:=h 0 (.vec e y.1) rfl;simp only[wO]at h0;simp only[eo,cq,if_true,h0,dite_true]
  rw[iY r (n+1) y.2 (λj o hj=>by
   have:=h (j+1) o (by simpa[fS]using hj);rw[<-this];congr 1;omega)]
theorem cP{ps:List CP}{outs:List Sh}{r:AV}{a:zy (outs.map Q1)}(y:zn ps)(h:aL [] outs r=Q1 a):rM ps outs r (ar ps y)=Q1 (a,y):=by
 unfold rM ar;simp only[bJ,if_true,h]
 rw[iY ps 1 y (λj o hj=>by
  unfold jE;rw[nL,Ac,ba,hj];rfl)]
section
variable {σ:Type} {t:σ->Tr (σ⊕aw)}
theorem de{β:Type}(N:Nat)(st:β->Nat->σ)(I:β->Nat->Prop)(Φ:aw->Prop)(M:Nat)
  (hstep:∀b i,i<N->I b i->(∃b',I b' (i+1)/\(t (st b i)).val=Q1 (.inl (st b' (i+1))))\/∃r,(t (st b i)).val=Q1 (.inr r)/\Φ r)
  (hend:∀b n,I b N->M<=n->∃r,cQ t n (st b N)=Q1 r/\Φ r):
  ∀(m i:Nat)(b:β)(n:Nat),N-i=m->i<=N->I b i->M+m<=n->∃r,cQ t n (st b i)=Q1 r/\Φ r
 | 0,i,b,n,hm,hi,hI,hn=>by
  obtain rfl:i=N:=by omega
  exact hend b n hI ow
 | m+1,i,b,n,hm,hi,hI,hn=>by
  obtain⟨n,rfl⟩:∃k,n=k+1:=⟨n-1,ow⟩;rcases hstep b i ow hI with⟨b',hI',h⟩|⟨r,h1,h2⟩
  ·obtain⟨r,h1,h2⟩:=de N st I Φ M hstep hend m (i+1) b' n ow ow hI' ow;exact⟨r,by rw[cQ,h];exact h1,h2⟩
  ·exact⟨r,by rw[cQ,h1],h2⟩
theorem cE{n:Nat}{s:σ}:cQ t (n+1) s=match(t s).val with
  |some (.inl s')=>cQ t n s'
  |some (.inr r)=>Q1 r
  |none=>Q2:=rfl
end
theorem jf.cells{C:eP}{w:World}{U:Nat->Prop}{ρ:Nat->Option Value}{hp:Nat->AO}{k:Nat}{cs cs':List AV}(hH:jf C w U ρ hp)(hk:hp k=.box cs)
  (hr:∀vals,dj w U ρ cs vals->dj w U ρ cs' vals):jf C w U ρ (λj=>if j=k then .box cs' else hp j):=by
 have hown:∀id b,ag ρ id (if id=k then .box cs' else hp id) b->ag ρ id (hp id) b:=by
  intro id b ho;by_cases hid:id=k
  ·subst hid;rw[if_pos rfl]at ho;rw[hk];obtain⟨_,v,hv,hb⟩:=ho;exact⟨rfl,v,hv,hb⟩
  ·rw[if_neg hid]at ho;exact ho
 refine⟨λid=>?_,λid1 id2 b o1 o2=>hH.inj id1 id2 b (hown _ _ o1) (hown _ _ o2),λid b o=>hH.blk id b (hown _ _ o)⟩;by_cases hid:id=k
 ·subst hid;have h0:=hH.ob id;rw[hk]at h0;obtain⟨b,T,vals,h1,h2,h3,h4,h5⟩:=h0;simp only[if_true];exact⟨b,T,vals,h1,h2,h3,hr _ h4,h5⟩
 ·simp only[if_neg hid];exact hH.ob id
def cd(ps qs:List CP)(y:zn ps)(z:zn qs):List AO:=.box (eo 2 ps y)::.box (eo (2+aS ps) qs z)::(fS ps y++fS qs z)
theorem oE(ps qs:List CP)(y:zn ps)(z:zn qs):(cd ps qs y z).length=aS ps+aS qs+2:=by
 simp[cd,bJ]
theorem jf.box2{C:eP}{w:World}{U:Nat->Prop}{ρ:Nat->Option Value}{cs ds:List AV}{os:List AO}{ps qs:List CP}{y:zn ps}{z:zn qs}(hH:jf C w U ρ (λj=>((Qa cs::Qa ds::os).getD j .dead)))(hl:os.length=aS ps+aS qs)
  (hm:cq (jE (.box cs::.box ds::os)) 2 ps cs=Q1 y) (hm2:cq (jE (.box cs::.box ds::os)) (2+aS ps) qs ds=Q1 z):jf C w U ρ (λj=>(cd ps qs y z).getD j .dead):=by
 have h1:=hH.cells (k:=0) (cs:=cs) (cs':=eo 2 ps y) rfl (λvals h=>(fm ps 2 cs y vals hm h).1);have h2:=h1.cells (k:=1) (cs:=ds) (cs':=eo (2+aS ps) qs z) rfl (λvals h=>(fm qs _ ds z vals hm2 h).1);obtain⟨b0,T0,v0,_,_,_,r0,_⟩:=hH.ob 0;obtain⟨b1,T1,v1,_,_,_,r1,_⟩:=hH.ob 1;have k1:=(fm ps 2 cs y v0.toList hm r0).2;have k2:=(fm qs _ ds z v1.toList hm2 r1).2;have e:(λj=>(cd ps qs y z).getD j .dead)=λj=>if j=1 then .box (eo (2+aS ps) qs z)else if j=0 then .box (eo 2 ps y)else(Qa cs::Qa ds::os).getD j .dead:=by
  funext j
  match j with
  |0=>rfl
  |1=>rfl
  | j+2=>
   rw[if_neg ow,if_neg ow];simp only[cd,Ac];by_cases hj:j<aS ps
   ·have hj':j<(fS ps y).length:=by rw[bJ];exact hj
    have:=k1 j _ (zR hj');simp only[jE,nL 2 j,Ac]at this;rw[this,ba,mQ hj',zR hj'];rfl
   ·by_cases hj2:j<aS ps+aS qs
    ·have hj':j-aS ps<(fS qs z).length:=by rw[bJ];omega
     have:=k2 (j-aS ps) _ (zR hj');rw[show 2+aS ps+(j-aS ps)=j+2 by omega]at this;simp only[jE,Ac]at this;rw[this,ba,nX (by rw[bJ];omega),bJ,zR hj'];rfl
    ·rw[ba,ba,eX (by simp[bJ];omega),eX ow]
 rw[e];exact h2
def xR(ps qs:List CP)(outs:List Sh)(r:AV)(h:List AO):Option (zy (outs.map Q1)×zn ps×zn qs):=match h with
 | .box cs::.box ds::os=>if os.length=aS ps+aS qs then match aL [] outs r,cq (jE (.box cs::.box ds::os)) 2 ps cs,cq (jE (.box cs::.box ds::os)) (2+aS ps) qs ds with
   |some a,Q1 y,Q1 z=>Q1 (a,y,z)
   |_,_,_=>Q2
  else Q2
 |_=>Q2
def XU(ps qs:List CP)(ks outs:List Sh)(ps' qs':List CP)(c:zn ps->zn qs->zy (ks.map Q1)->Bool)(g:zn ps->zn qs->zy (ks.map Q1)->zy (outs.map Q1)×zn ps'×zn qs'):iw (Q2::Q2::ks.map Q1):=λx h=>match x.1,x.2.1,h with
 | .ptr 0 0,.ptr 1 0,.box cs::.box ds::os=>if os.length=aS ps+aS qs then match cq (jE (.box cs::.box ds::os)) 2 ps cs,cq (jE (.box cs::.box ds::os)) (2+aS ps) qs ds with
   |some y,Q1 z=>.chk (c y z x.2.2) (.ok (xu outs (g y z x.2.2).1,cd ps' qs' (g y z x.2.2).2.1 (g y z x.2.2).2.2))
   |_,_=>.err
  else .err
 |_,_,_=>.err
def PW(ps qs:List CP)(ks outs:List Sh)(ps' qs':List CP)(c:zn ps->zn qs->zy (ks.map Q1)->Bool)(g:zn ps->zn qs->zy (ks.map Q1)->zy (outs.map Q1)×zn ps'×zn qs'):zX:=bm (Q2::Q2::ks.map Q1) (XU ps qs ks outs ps' qs' c g)
theorem Py{P:Program}{gl:Nat->AV}{E:bX}{k:FuncId}{f:Func}{ps qs:List CP}{ks outs:List Sh}{ps' qs':List CP}{c:zn ps->zn qs->zy (ks.map some)->Bool}{g:zn ps->zn qs->zy (ks.map some)->zy (outs.map some)×zn ps'×zn qs'}(hf:zI E.P k f (ks.length+2))
  (h:∀y z x,c y z x=Q3->∀C:eP,(∀id,aS ps+aS qs+2<=id->C.ρ0 id=Q2)->Reach E C k (bw f) (be f.ntmps (.ptr 0 0::.ptr 1 0::iW (ks.map Q1) x) (cd ps qs y z)) (λr h=>xR ps' qs' outs r h=Q1 (g y z x))) (qp:E.P=P:=by rfl) (qg:E.gl=gl:=by rfl):
  nV P gl k (PW ps qs ks outs ps' qs' c g):=by
 subst qp qg;refine dH (by simpa using hf) λx h0 res hx C hC=>?_
 obtain⟨x0,x1,x⟩:=x;unfold XU at hx;simp only at hx;split at hx
 ·rename_i cs ds os;split at hx
  ·rename_i hos;split at hx
   ·rename_i y z hy hz;simp only[Tr.val]at hx;split at hx
    ·rename_i hc;simp only[bB]at hx;subst hx;have hR:=h y z x hc C (λid hid=>hC id (by simpa[hos]using hid));intro b cs' a w U ρ h1 h2 hcn hW;have hH:jf C w U ρ (λj=>((Qa cs::Qa ds::os).getD j .dead)):=hcn.hp
     have hcn':Cn C (be f.ntmps (.ptr 0 0::.ptr 1 0::iW (ks.map Q1) x) (cd ps qs y z)) a w U ρ:=
      ⟨hcn.tm,hH.box2 hos hy hz,λid hid=>hcn.new id (by have hid:(cd ps qs y z).length<=id:=hid;rw[oE]at hid;simpa[be,hos]using hid),hcn.df,hcn.r0⟩
     obtain⟨e,w',fr,⟨v,r,h',U',ρ',he,hq,hrv,hH',hnew,hr0,hWd⟩,hcm,hf',hl⟩:=hR b cs' a w U ρ h1 h2 hcn' hW;unfold xR at hq;split at hq
     ·rename_i cs2 ds2 os2;split at hq
      ·rename_i hos2;split at hq
       ·rename_i a' y' z' ha' hy' hz';simp only[bB]at hq;refine⟨e,w',fr,⟨v,_,_,U',ρ',he,by rw[<-hq],E2 ha' hrv,hH'.box2 hos2 hy' hz',λid hid=>hnew id (by rw[oE]at hid;simpa[hos2]using hid),hr0,hWd⟩,hcm,hf',hl⟩
       ·cases hq
      ·cases hq
     ·cases hq
    ·simp at hx
   ·simp at hx
  ·simp at hx
 ·simp at hx
def MS{σ:Type}(outs:List Sh)(ps' qs':List CP)(t:σ->Tr (σ⊕aw))(n:Nat)(i:Tr (σ⊕aw)):Option (zy (outs.map Q1)×zn ps'×zn qs'):=(cU t n i).bind λr=>xR ps' qs' outs r.1 r.2
theorem zaM{P:Program}{gl:Nat->AV}{σ:Type}{E:bX}{k:FuncId}{f:Func}{ps qs:List CP}{ks outs:List Sh}{ps' qs':List CP}{keep:Nat->aM}{gas n:Nat}{e:σ->Nat×St}{t:σ->Tr (σ⊕aw)}{i:zn ps->zn qs->zy (ks.map Q1)->Tr (σ⊕aw)}{c:zn ps->zn qs->zy (ks.map Q1)->Bool}{g:zn ps->zn qs->zy (ks.map Q1)->zy (outs.map Q1)×zn ps'×zn qs'}
  (hE:zw E) (hf:zI E.P k f (ks.length+2)) (hgo:∀y z x,run E (aS ps+aS qs+2) keep f.results.toList gas (bw f) (be f.ntmps (.ptr 0 0::.ptr 1 0::iW (ks.map Q1) x) (cd ps qs y z))=(i y z x).map (lf f e))
  (hon:∀s,run E (aS ps+aS qs+2) keep f.results.toList gas (ac f (e s).1) (e s).2=(t s).map (lf f e))
  (hc:∀y z x,c y z x=(MS outs ps' qs' t n (i y z x)).isSome) (hg:∀y z x,g y z x=(MS outs ps' qs' t n (i y z x)).getD (cu outs,fO ps',fO qs')) (qp:E.P=P:=by rfl) (qg:E.gl=gl:=by rfl):nV P gl k (PW ps qs ks outs ps' qs' c g):=by
 subst qp qg;refine Py hf λy z x hcx C hC=>?_
 rw[hc,Option.isSome_iff_exists]at hcx;obtain⟨u,hu⟩:=hcx;rw[hg,hu];unfold MS at hu;rw[fL]at hu;obtain⟨r,h1,h2⟩:=hu;exact oT (Q:=λr h=>xR ps' qs' outs r h=Q1 u) hE hf hC (n+1) _ _ r (by rw[m8 hon (hgo y z x)];exact h1) h2
section
variable {σ:Type} {t:σ->Tr (σ⊕aw)}
def zT(t:σ->Tr (σ⊕aw))(k:Nat)(s:σ)(r:aw):Prop:=∀n,k<=n->cQ t n s=Q1 r
def zQ(t:σ->Tr (σ⊕aw))(m:Nat)(s s':σ):Prop:=∀k r,zT t k s' r->zT t (k+m) s r
theorem zT.mono{k k':Nat}{s:σ}{r:aw}(h:zT t k s r)(hk:k<=k'):zT t k' s r:=λn hn=>h n ow
theorem zT.of{s:σ}{r:aw}(h:(t s).val=Q1 (.inr r)):zT t 1 s r:=by
 intro n hn;obtain⟨n,rfl⟩:∃k,n=k+1:=⟨n-1,ow⟩;rw[cQ,h]
theorem zQ.of{s s':σ}(h:(t s).val=Q1 (.inl s')):zQ t 1 s s':=by
 intro k r hr n hn;obtain⟨n,rfl⟩:∃k,n=k+1:=⟨n-1,ow⟩;rw[cQ,h];exact hr n ow
theorem zQ.refl(s:σ):zQ t 0 s s:=λ_ _ h=>h
theorem zQ.trans{a b:Nat}{s s' s'':σ}(h1:zQ t a s s')(h2:zQ t b s' s''):zQ t (b+a) s s'':=λk r h=>(h1 _ _ (h2 k r h)).mono ow
theorem zQ.mono{a b:Nat}{s s':σ}(h:zQ t a s s')(hk:a<=b):zQ t b s s':=λk r hr=>(h k r hr).mono ow
theorem zQ.ends{a k:Nat}{s s':σ}{r:aw}(h1:zQ t a s s')(h2:zT t k s' r):zT t (k+a) s r:=h1 k r h2
theorem zQ.all(m:Nat)(st:Nat->σ):∀(N:Nat),(∀i,i<N->zQ t m (st i) (st (i+1)))->zQ t (N*m) (st 0) (st N)
 |0,_=>(zQ.refl _).mono ow
 |N+1,h=>((zQ.all m st N λi hi=>h i ow).trans (h N ow)).mono (by rw[mP];omega)
theorem lH{Φ:aw->Prop}(m:Nat)(st:Nat->σ)(P:Nat->Prop):∀(N:Nat),(∀i,i<N->(∀j,j<i->P j)->(P i/\zQ t m (st i) (st (i+1)))\/(¬P i/\∃r,zT t m (st i) r/\Φ r))->
  ((∀i,i<N->P i)/\zQ t (N*m) (st 0) (st N))\/((¬∀i,i<N->P i)/\∃r,zT t (N*m) (st 0) r/\Φ r)
 |0,_=>.inl ⟨λi hi=>absurd hi ow,(zQ.refl _).mono ow⟩
 | N+1,h=>by
  rcases lH m st P N λi hi=>h i ow with⟨h1,h2⟩|⟨h1,r,h2,h3⟩
  ·rcases h N ow h1 with⟨h4,h5⟩|⟨h4,r,h5,h6⟩
   ·refine .inl ⟨λi hi=>?_,(h2.trans h5).mono (by rw[mP];omega)⟩;rcases Nat.lt_succ_iff_lt_or_eq.1 hi with hi|rfl
    ·exact h1 i hi
    ·exact h4
   ·exact .inr ⟨λh=>h4 (h N ow),r,(h2.ends h5).mono (by rw[mP];omega),h6⟩
  ·exact .inr ⟨λh=>h1 λi hi=>h i ow,r,h2.mono (by rw[mP];omega),h3⟩
theorem zx{outs:List Sh}{n k:Nat}{i:Tr (σ⊕aw)}{s:σ}{r:aw}{y:zy (outs.map Q1)}(hi:i.val=Q1 (.inl s))(h:zT t k s r)(hk:k<=n)(hr:aL r.2 outs r.1=Q1 y):al outs t n i=Q1 y:=by
 unfold al cU;rw[hi];show(cQ t n s).bind _=_;rw[h n hk];exact hr
theorem zN{outs:List Sh}{n:Nat}{i:Tr (σ⊕aw)}{r:aw}{y:zy (outs.map Q1)}(hi:i.val=Q1 (.inr r))(hr:aL r.2 outs r.1=Q1 y):al outs t n i=Q1 y:=by
 unfold al cU;rw[hi];exact hr
theorem SP{outs:List Sh}{ps:List CP}{n:Nat}{i:Tr (σ⊕aw)}{r:aw}{y:zy (outs.map Q1)×zn ps}(hi:i.val=Q1 (.inr r))(hr:rM ps outs r.1 r.2=Q1 y):kE outs ps t n i=Q1 y:=by
 unfold kE cU;rw[hi];exact hr
end
noncomputable section
theorem Reach.lenA{E:bX}{C:eP}{fn:FuncId}{todo:List Item}{st:St}{Q:AV->List AO->Prop}(j c:Nat)(e:Sh)(l:List (Sem e)){cs:List AV}(h1:st.tmps[j]?=Q1 (.agg cs))(h2:cs[c]?=Q1 (.sl e l))(h:l.length<=aE->Reach E C fn todo st Q):Reach E C fn todo st Q:=by
 intro b cs' a w U ρ q1 q2 hc hW;refine h ?_ b cs' a w U ρ q1 q2 hc hW;have hlt:j<a.tmps.toList.length:=by rw[<-hc.tm.len];exact(cW.1 h1).1
 have:=hc.tm.rv j _ _ h1 (zR hlt);generalize a.tmps.toList[j]=v at this;cases this with
 |agg _ vs hlv _ hr=>
 have hlt:c<vs.length:=by rw[<-hlv];exact(cW.1 h2).1
 have:=hr c _ _ h2 (zR hlt);generalize vs[c]=v at this;cases this with
 |sl0=>simp
 |sl _ _ _ _ _ _ _ hm=>exact hm
abbrev zgU:Nat->aM:=λj=>if j=3 then{slots:=[0,3,4],prom:=[(3,Q2,zf)]}else{ }
inductive NC where
 |h3 (l0:List (Sem zf)) (i4:Int) (lh_0:List (Sem zf))
abbrev zjB:NC->Nat×St
 |.h3 l0 i4 lh_0=>(3,⟨tm 24 [(0,sl zf l0),(3,AV.vec 0),(4,ai i4)],[AO.vec zf lh_0]⟩)
def zkZ(x0:Sem zf.sl):Tr (NC⊕aw):=Tr.to (NC.h3 x0 0 [])
def WD:NC->Tr (NC⊕aw)
 | .h3 l0 i4 lh_0=>
  let a0:=l0.getD i4.toNat (zi zf)
  let a1:=[Dl a0]
  br (bif Q0 (i4<(↑l0.length:Int))then Q0 (i4<14)else Q4)
  (chk (zM i4 l0.length) (chk (JS a0) (chk (Q0 (lh_0.length+a1.length<=1073741824)) (Tr.to (NC.h3 l0 (IntKind.i64.wrap (i4+1)) (lh_0++a1))))))
  (re (AV.vec 0) [AO.vec zf lh_0])
def zhz(x0:Sem zf.sl):=al [zf.sl] WD 100000000 (zkZ x0)
def zdm:=FT [zf.sl] [zf.sl] λx=>zhz x.1
theorem Pq:FK 14 zdm:=vn.T1 (f:=Tryz.f14) (keep:=zgU) (e:=zjB)
abbrev zg6:Nat->aM:=λj=>if j=3 then{slots:=[0,3,4],prom:=[(3,Q2,zj)]}else{ }
inductive J5 where
 |h3 (l0:List (Sem zj)) (i4:Int) (lh_0:List (Sem zj))
abbrev zjJ:J5->Nat×St
 |.h3 l0 i4 lh_0=>(3,⟨tm 33 [(0,sl zj l0),(3,AV.vec 0),(4,ai i4)],[AO.vec zj lh_0]⟩)
def zk3(x0:Sem zj.sl):Tr (J5⊕aw):=Tr.to (J5.h3 x0 0 [])
def WF:J5->Tr (J5⊕aw)
 | .h3 l0 i4 lh_0=>
  let a0:=l0.getD i4.toNat (zi zj)
  let a1:=(↑(length a0.1):Int)
  let a2:=[(Qg (toNat 20-toNat 0) (Qh (toNat 0) a0.1),a0.2)]
  let a3:=IntKind.i64.wrap (i4+1)
  let a4:=[a0]
  br (bif Q0 (i4<(↑l0.length:Int))then Q0 (i4<9)else Q4)
  (chk (zM i4 l0.length) (br (Q0 (a1>20)) (chk (Q0 (0<=0)&&Q0 (0<=20)&&Q0 (20<=a1)) (chk (Q0 (lh_0.length+a2.length<=1073741824)) (Tr.to (J5.h3 l0 a3 (lh_0++a2))))) (chk (Q0 (lh_0.length+a4.length<=1073741824)) (Tr.to (J5.h3 l0 a3 (lh_0++a4))))))
  (re (AV.vec 0) [AO.vec zj lh_0])
def zhy(x0:Sem zj.sl):=al [zj.sl] WF 100000000 (zk3 x0)
def zdN:=FT [zj.sl] [zj.sl] λx=>zhy x.1
theorem Pu:FK 40 zdN:=vn.T1 (f:=Tryz.f40) (keep:=zg6) (e:=zjJ)
def lw(l:Sem zf.sl):Sem zf.sl:=(Qg 14 l).map Dl
def jo(l:Sem zj.sl):Sem zj.sl:=(Qg 9 l).map λc:Sem zj=>((iT c.1,c.2):Sem zj)
theorem uH(k:Nat){α:Type}(l:List α):l.take (min k l.length)=l.take k:=by
 rcases Nat.le_total k l.length with h|h
 ·rw[DD h]
 ·rw[DB h,ji,L4 h]
theorem VX{i k n:Nat}{K:Int}(hk:K=(k:Int))(h:i<min k n):(bif Q0 ((i:Int)<(n:Int))then Q0 ((i:Int)<K)else Q4)=Q3:=by
 have h1:(i:Int)<n:=by omega
 have h2:(i:Int)<K:=by omega
 rw[zt h1,zt h2];rfl
theorem MB{k:Nat}{K:Int}(hk:K=(k:Int))(n:Nat):(bif Q0 (((min k n:Nat):Int)<(n:Int))then Q0 (((min k n:Nat):Int)<K)else Q4)=Q4:=by
 rcases Nat.le_total k n with h|h
 ·rw[DD h,hk];simp
 ·rw[DB h];simp
theorem He{α:Type}{l:List α}{i:Nat}(h:i<l.length)(d:α):l.take (i+1)=l.take i++[l.getD i d]:=by
 rw[List.take_add_one,zR h,ba,zR h];rfl
def H1:=XW.addL [(14,zdm),(40,zdN)]
theorem vo:zw H1:=vn.addL<|fc Pq<|fc Pu jm
end
theorem mO{P:Program}{gl:Nat->AV}{k:FuncId}{ks outs:List Sh}{c:zy (ks.map Q1)->Bool}{g:zy (ks.map Q1)->zy (outs.map Q1)}(h:nV P gl k (zP ks outs c g))(hc:∀x,c x=Q3):nV P gl k (aC ks outs g):=
 L2 (by rwa [show c=λ_=>Q3 from funext hc]at h)
theorem CN(v:V):JS v=Q3:=by
 unfold JS;cases h:Q0 ((↑(length v.2.2):Int)>60)
 ·rfl
 ·simp only[aP]at h;simp only[ay,aD,aP];omega
theorem Lr(s:zB):Nm s=Q3:=by
 unfold Nm;cases h:Q0 ((↑(length s):Int)>20)
 ·rfl
 ·simp only[aP]at h;simp only[ay,aD,aP];omega
theorem Ow(l:List (Sem zf)):zhz l=Q1 (lw l,()):=by
 have g:=zQ.all (t:=WD) 1 (λi=>.h3 l (i:Int) ((Qg i l).map Dl)) (min 14 l.length) λi hi=>zQ.of (by
  have hl:i<l.length:=by omega
  have hn:Q0 ((List.map Dl (Qg i l)).length+[Dl (l.getD i (zi zf))].length<=1073741824)=Q3:=by simp;omega
  simp only[WD,Tr.val,VX (k:=14) (K:=14) rfl hi,zu hl,if_true,aJ,CN,hn];rw[zp i um,He hl (zi zf),gZ];rfl)
 rw[uH]at g;refine zx rfl (g.ends (k:=1) (r:=(.vec 0,[.vec zf (lw l)])) (zT.of ?_)) ow rfl;simp only[WD,Tr.val,MB (k:=14) (K:=14) rfl,zG,if_false];rfl
theorem Ou(l:List (Sem zj)):zhy l=Q1 (jo l,()):=by
 have g:=zQ.all (t:=WF) 1 (λi=>.h3 l (i:Int) ((Qg i l).map λc:Sem zj=>((iT c.1,c.2):Sem zj))) (min 9 l.length) λi hi=>zQ.of (by
  have hl:i<l.length:=by omega
  have ht:(Qg (i+1) l).map (λc:Sem zj=>((iT c.1,c.2):Sem zj))=(Qg i l).map (λc:Sem zj=>((iT c.1,c.2):Sem zj))++[(iT (List.getD l i (zi zj)).1,(List.getD l i (zi zj)).2)]:=by rw[He hl (zi zj),gZ];rfl
  have hi':((Qg i l).map (λc:Sem zj=>((iT c.1,c.2):Sem zj))).length<=9:=by rw[cX,nI];omega
  rw[ht];generalize(Qg i l).map (λc:Sem zj=>((iT c.1,c.2):Sem zj))=acc at hi'⊢;have hn:Q0 (acc.length+1<=1073741824)=Q3:=zt ow;simp only[WF,Tr.val,VX (k:=9) (K:=9) rfl hi,zu hl,if_true,aJ,eZ,nJ,kh,hn];rw[zp i um];unfold iT;by_cases h:(length (List.getD l i (zi zj)).1:Int)>20
  ·have h20:Q0 ((20:Int)<=(length (List.getD l i (zi zj)).1:Int))=Q3:=zt ow;simp only[zt h,h20,if_true];rfl
  ·simp only[af h,zG,if_false])
 rw[uH]at g;refine zx rfl (g.ends (k:=1) (r:=(.vec 0,[.vec zj (jo l)])) (zT.of ?_)) ow rfl;simp only[WF,Tr.val,MB (k:=9) (K:=9) rfl,zG,if_false];rfl
def zdn:zX:=aC [zf] [zf] λx=>(Dl x.1,())
theorem Zz:FK 8 zdn:=mO XM λx=>CN x.1
def zde:zX:=aC [Q6] [Q6] λx=>(iT x.1,())
theorem Zs:FK 114 zde:=mO XL λx=>Lr x.1
def F6t:zX:=aC [zf.sl] [zf.sl] λx=>(lw x.1,())
theorem zfb:FK 14 F6t:=gJ Pq λx=>Ow x.1
def zdh:zX:=aC [zj.sl] [zj.sl] λx=>(jo x.1,())
theorem Zv:FK 40 zdh:=gJ Pu λx=>Ou x.1
abbrev Dc:Nat->aM:=λ_=>{slots:=[0,1,7,8]}
def oV{K:List Item}{e:Sh}(l:List (Sem e))(p:Sem e->Bool)(st:Int->St)(h0:List AO)(i:Int):Tr zC:=.br (Q0 (i<(l.length:Int))) (.chk (zM i l.length) (.br (p (l.getD i.toNat (zi e))) (.ok (.ret (.int .i64 i) h0)) (.ok (.head 2 K (st (IntKind.i64.wrap (i+1))))))) (.ok (.ret (.int .i64 (-1)) h0))
theorem mA{E:bX}{C:eP}{k:FuncId}{f:Func}{n n0:Nat}{keep:Nat->aM}{fuel:Nat}{K:List Item}{e:Sh}(l:List (Sem e))(p:Sem e->Bool)(st:Int->St){h0:List AO}
  (hE:zw E) (hf:zI E.P k f n) (hC:∀id,n0<=id->C.ρ0 id=Q2)
  (hon:∀i,run E n0 keep f.results.toList fuel K (st i)=oV (K:=K) l p st h0 i) (hl:l.length<=aE):∀(m i:Nat),l.length-i=m->i<=l.length->
  Reach E C k K (st i) (λr h=>(r,h)=(.int .i64 (ae p (l.drop i) i),h0)):=by
 intro m
 induction m with
 | zero=>
  intro i hE.mix' hi;obtain rfl:i=l.length:=by omega
  refine zD hE hf hC (hon _) ?_;simp only[oV,Tr.val,zA,jh];rfl
 | succ m IH=>
  intro i hE.mix' hi;have hlt:i<l.length:=by omega
  refine zD hE hf hC (hon _) ?_;rw[fk hlt];simp only[oV,Tr.val,zH hlt,zu hlt,cA l _ hlt,zp i ow,if_true,ae];split
  ·rfl
  ·exact IH (i+1) ow ow
abbrev yG(t:Int)(l:List (Sem zg))(i:Int):St:={tmps:=[.sl zg l,.clo (.func 288) [] [.ptr 0 0],.any,.any,.any,.any,.any,.int .i64 l.length,.int .i64 i,.any,.any,.any,.any,.any,.any,.any,.any,.any,.any],heap:=[.box [.int .i64 t]]}
theorem Rb(t:Int)(l:List (Sem zg)):run H1 1 Dc Tryz.f320.results.toList 300 (bw Tryz.f320) (be Tryz.f320.ntmps [.sl zg l,.clo (.func 288) [] [.ptr 0 0]] [.box [.int .i64 t]])=.ok (.head 2 (ac Tryz.f320 2) (yG t l 0)):=kw
theorem SH(t:Int)(l:List (Sem zg))(i:Int):run H1 1 Dc Tryz.f320.results.toList 300 (ac Tryz.f320 2) (yG t l i)=oV (K:=ac Tryz.f320 2) (e:=zg) l (λx=>bif x !=t then x !=0 else Q4) (yG t l) [.box [.int .i64 t]] i:=kw
theorem Ss:zI H1.P 320 Tryz.f320 2:=bU kw
def zfC:iw [Q1 (.sl zg),Q2]:=λx h=>match x,h with
 |(l,.clo (.func 288) [] [.ptr 0 0],_),[.box [.int .i64 t]]=>.ok (.int .i64 (ae (λx=>bif x !=t then x !=0 else Q4) l 0),[.box [.int .i64 t]])
 |_,_=>.err
def zc0:zX:=bm [Q1 (.sl zg),Q2] zfC
theorem Ze:FK 320 zc0:=by
 refine dH Ss λx h0 res hx C hC=>?_
 unfold zfC at hx;split at hx
 ·rename_i l u t;simp only[Tr.val_ok,bB]at hx;subst hx;refine Reach.len 0 zg l rfl λhl=>?_
  refine zD (n0:=1) vo Ss hC (Rb t l) ?_;exact mA l (λx=>bif x !=t then x !=0 else Q4) (yG t l) vo Ss hC (SH t l) hl _ 0 rfl (bd _)
 ·simp at hx
noncomputable def tf:=H1.addL [(8,zdn),(114,zde),(14,F6t),(40,zdh),(320,zc0)]
theorem l7:zw tf:=vo.addL<|fc Zz<|fc Zs<|fc zfb<|fc Zv<|fc Ze jm
noncomputable def F78:zX:=bm [Q1 (.sl zg),Q2] (fN tf Tryz.f287 [Q1 (.sl zg),Q2])
theorem zfh:FK 287 F78:=cw _ l7 (bU kw)
def dP(x0:Sem Q6):Sem Q7:=pB x0
theorem zhO:zI tf.P 208 Tryz.f208 1:=bU kw
theorem zkf(x0:Sem Q6):rn tf 0 (λ_=>{ }) Tryz.f208 [zE Q6 x0] []=Tr.ok (zC.ret (AV.bool (pB x0)) []):=kw
def F25:zX:=aC [Q6] [Q7] λx=>(dP x.1,())
theorem zez:FK 208 F25:=by
 refine zW zhO λx C hC=>?_
 refine aR l7 zhO (λid _=>hC id) (zkf x.1) ?_;simp only[Tr.val,dP];repeat' split
 all_goals rfl
def zO(x0:Sem zo)(x1:Sem Q6):Sem zg:=ae (λc=>c.1==x1) x0.2.1 0
theorem zhK:zI tf.P 140 Tryz.f140 2:=bU kw
theorem zkb(x0:Sem zo)(x1:Sem Q6):rn tf 0 (λ_=>{ }) Tryz.f140 [zE zo x0,zE Q6 x1] []=Tr.ok (zC.ret (ai (ae (λc=>c.1==x1) x0.2.1 0)) []):=kw
def F17:zX:=aC [zo,Q6] [zg] λx=>(zO x.1 x.2.1,())
theorem zeu:FK 140 F17:=by
 refine zW zhK λx C hC=>?_
 refine aR l7 zhK (λid _=>hC id) (zkb x.1 x.2.1) ?_;simp only[Tr.val,zO];repeat' split
 all_goals rfl
def zZ(x0:Sem zj.sl)(x1:Sem Q6):Sem zg:=ae (λc=>c.1==x1) x0 0
theorem zh9:zI tf.P 248 Tryz.f248 2:=bU kw
theorem zky(x0:Sem zj.sl)(x1:Sem Q6):rn tf 0 (λ_=>{ }) Tryz.f248 [zE zj.sl x0,zE Q6 x1] []=Tr.ok (zC.ret (ai (ae (λc=>c.1==x1) x0 0)) []):=kw
def F48:zX:=aC [zj.sl,Q6] [zg] λx=>(zZ x.1 x.2.1,())
theorem zeS:FK 248 F48:=by
 refine zW zh9 λx C hC=>?_
 refine aR l7 zh9 (λid _=>hC id) (zky x.1 x.2.1) ?_;simp only[Tr.val,zZ];repeat' split
 all_goals rfl
noncomputable def DM:=tf.addL [(287,F78),(208,F25),(140,F17),(248,F48)]
theorem vp:zw DM:=l7.addL<|fc zfh<|fc zez<|fc zeu<|fc zeS jm
def lM(x0:Sem zg.sl)(x1:Sem zg):Sem Q7:=!Q0 (ae (λx=>bif x !=x1 then x !=0 else Q4) x0 0>=0)
theorem zij:zI DM.P 249 Tryz.f249 2:=bU kw
theorem zkK(x0:Sem zg.sl)(x1:Sem zg):rn DM 0 (λ_=>{ }) Tryz.f249 [zE zg.sl x0,zE zg x1] []=Tr.ok (zC.ret (AV.bool !Q0 (ae (λx=>bif x !=x1 then x !=0 else Q4) x0 0>=0)) []):=kw
def F66:zX:=aC [zg.sl,zg] [Q7] λx=>(lM x.1 x.2.1,())
theorem ze9:FK 249 F66:=by
 refine zW zij λx C hC=>?_
 refine aR vp zij (λid _=>hC id) (zkK x.1 x.2.1) ?_;simp only[Tr.val,lM];repeat' split
 all_goals rfl
def zK(x0:Sem Q6):Sem Q7:=bif dP x0 then !iR x0 else Q4
theorem zhJ:zI DM.P 168 Tryz.f168 1:=bU kw
theorem zka(x0:Sem Q6):rn DM 0 (λ_=>{ }) Tryz.f168 [zE Q6 x0] []=Tr.ok (zC.ret (AV.bool (bif dP x0 then !iR x0 else Q4)) []):=kw
def F16:zX:=aC [Q6] [Q7] λx=>(zK x.1,())
theorem zet:FK 168 F16:=by
 refine zW zhJ λx C hC=>?_
 refine aR vp zhJ (λid _=>hC id) (zka x.1) ?_;simp only[Tr.val,zK];repeat' split
 all_goals rfl
noncomputable def QF:=DM.addL [(249,F66),(168,F16)]
theorem DN:zw QF:=vp.addL<|fc ze9<|fc zet jm
end Cad
