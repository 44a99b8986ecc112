/- Expressions. -/
import Derived.Test.YtjdjldbhjmgmkaaGreatDoorK10
namespace Cad
open Go Go.Proofs
open List renaming length→Io,drop→Qh,take→Qg
open IntKind renaming wrap→Γ,i64→Δ
open Tr renaming chk→Qc,«to»→Q9,val→Q8
open AO renaming box→Qa
open Sh renaming bool→Q7,str→Q6,expr→Q5
open Bool renaming false→Q4,true→Q3
open Option renaming none→Q2,some→Q1
open Decidable renaming decide→Q0
open Int (toNat)
open List (getD)
open Tr (chk br re)
open AV (nils agg tup ptr kb str sl)
noncomputable section
abbrev iZ:List (zH×AV):=[(ir,.clo (.func 229) [] []),(uG,.clo (.func 230) [] []),(ng,.clo (.func 231) [] []),([61],.clo (.func 233) [] []),([60],.clo (.func 234) [] []),([43],.clo (.func 155) [] []),([45],.clo (.func 235) [] []),(pk,.clo (.func 236) [] [])]
abbrev zvG:Nat->aT:=λ_=>{ }
theorem zr4:zM Gm.P 180 Tryz.f180 0:=bL kw
theorem zuJ:(run Gm 0 zvG (Func.results Tryz.f180).toList 400 (bq Tryz.f180) (aY (Func.ntmps Tryz.f180) [] [])).val=Q1 (zQ.ret (AV.mp 0) [AO.fmap iZ]):=kw
def G23:eW []:=λ_ h=>match h with
 |[]=>.ok (.mp 0,[.fmap iZ])
 |_=>.err
def F23:z8:=aW [] G23
theorem zof:FK 180 F23:=by
 refine dc zr4 λx c b h C a=>?_
 unfold G23 at h;split at h
 .simp only[Q8,bj]at h;subst h;exact nP (n0:=0) w9 zr4 a zuJ rfl
 .simp at h
def opV(o:zH)(x y:V):V:=if(o==ir)=Q3 then FL x y else if(o==uG)=Q3 then vOr x y else if(o==ng)=Q3 then SL x y else if(o==[61])=Q3 then mQ x y else if(o==[60])=Q3 then ti x y else if(o==[43])=Q3 then py x y else if(o==[45])=Q3 then mR x y else if(o==pk)=Q3 then Kz x y else(0,0,[])
def opC(o:zH):Bool:=if(o==ir)=Q3 then Q3 else if(o==uG)=Q3 then Q3 else if(o==ng)=Q3 then Q3 else if(o==[61])=Q3 then Q3 else if(o==[60])=Q3 then Q3 else if(o==[43])=Q3 then Q3 else if(o==[45])=Q3 then Q3 else if(o==pk)=Q3 then Q3 else Q4
def opL(o:zH)(x y:V)(h:List AO):Option zQ:=if(o==ir)=Q3 then Q1 (.ret (zI zf (FL x y)) h)else if(o==uG)=Q3 then Q1 (.ret (zI zf (vOr x y)) h)else if(o==ng)=Q3 then Q1 (.ret (zI zf (SL x y)) h)else if(o==[61])=Q3 then Q1 (.ret (zI zf (mQ x y)) h)else if(o==[60])=Q3 then Q1 (.ret (zI zf (ti x y)) h)else if(o==[43])=Q3 then Q1 (.ret (zI zf (py x y)) h)else if(o==[45])=Q3 then Q1 (.ret (zI zf (mR x y)) h)else if(o==pk)=Q3 then Q1 (.ret (zI zf (Kz x y)) h)else Q2
def zi4(g:aM->zw->za->V)(c:aM->zw->za->Bool):eW [Q2,Q1 .expr]:=λx h=>match x,h with
 | (.agg [.sl (.pr .str (.pr (.int .i64) .bool)) cols,.sl (.pr (.int .i64) (.pr (.int .i64) .str)) row,.mp 0],e,_),[.fmap [(k1,.clo (.func 229) [] []),(k2,.clo (.func 230) [] []),(k3,.clo (.func 231) [] []),(k4,.clo (.func 233) [] []),(k5,.clo (.func 234) [] []),(k6,.clo (.func 155) [] []),(k7,.clo (.func 235) [] []),(k8,.clo (.func 236) [] [])]]=>
  .chk (k1==ir&&(k2==uG&&(k3==ng&&(k4==[61]&&(k5==[60]&&(k6==[43]&&(k7==[45]&&(k8==pk)))))))) (.chk (c cols row e) (.ok (zI zf (g cols row e),[.fmap iZ])))
 |_,_=>.err
def SR(g:aM->zw->za->V)(c:aM->zw->za->Bool):z8:=aW [Q2,Q1 .expr] (zi4 g c)
def Ty(g:aM->zw->za->V)(c:aM->zw->za->Bool):cd:=Gm.add 181 (SR g c)
variable {h:aM->zw->za->V}{c:aM->zw->za->Bool}
theorem Cv(x:FK 181 (SR h c)):zu (Ty h c):=w9.add x
theorem YJ(g:aM->zw->za->V)(c:aM->zw->za->Bool):zM (Ty g c).P 181 Tryz.f181 2:=bL kw
theorem zj8(g:aM->zw->za->V)(c:aM->zw->za->Bool)(h:LC)(x:LV)(o:zH)(v:V)(s:zH):(run (Ty g c) 1 unr (Func.results Tryz.f181).toList 600 (bq Tryz.f181) (aY (Func.ntmps Tryz.f181) [agg [sl zl h,sl zf x,AV.mp 0],zI Q5 (.mk o v s [])] [AO.fmap iZ])).val=if(o==ot)=Q3 then Q1 (.ret (zI zf v) [.fmap iZ])else if(o==eK)=Q3 then(ite ((cond (Q0 (ay h s<0)) Q3 (Q0 (ay h s>=(↑x.length:Int))))=Q3) (Q1 (.ret (zI zf (0,0,[])) [.fmap iZ])) (ite (zK (ay h s) (Io x)=Q3) (Q1 (.ret (zI zf (x.getD (toNat (ay h s)) (zi zf))) [.fmap iZ])) Q2))else opL o (0,0,[]) (0,0,[]) [.fmap iZ]:=kw
theorem zj9(g:aM->zw->za->V)(c:aM->zw->za->Bool)(h:LC)(x:LV)(o:zH)(v:V)(s:zH)(a:za):(run (Ty g c) 1 unr (Func.results Tryz.f181).toList 600 (bq Tryz.f181) (aY (Func.ntmps Tryz.f181) [agg [sl zl h,sl zf x,AV.mp 0],zI Q5 (.mk o v s [a])] [AO.fmap iZ])).val=if(o==ot)=Q3 then Q1 (.ret (zI zf v) [.fmap iZ])else if(o==eK)=Q3 then(ite ((cond (Q0 (ay h s<0)) Q3 (Q0 (ay h s>=(↑x.length:Int))))=Q3) (Q1 (.ret (zI zf (0,0,[])) [.fmap iZ])) (ite (zK (ay h s) (Io x)=Q3) (Q1 (.ret (zI zf (x.getD (toNat (ay h s)) (zi zf))) [.fmap iZ])) Q2))else if c h x (.mk a.op a.v a.s a.l)=Q3 then opL o (g h x (.mk a.op a.v a.s a.l)) (0,0,[]) [.fmap iZ]else Q2:=kw
theorem zka(g:aM->zw->za->V)(c:aM->zw->za->Bool)(h:LC)(x:LV)(o:zH)(v:V)(s:zH)(a b:za):(run (Ty g c) 1 unr (Func.results Tryz.f181).toList 600 (bq Tryz.f181) (aY (Func.ntmps Tryz.f181) [agg [sl zl h,sl zf x,AV.mp 0],zI Q5 (.mk o v s [a,b])] [AO.fmap iZ])).val=if(o==ot)=Q3 then Q1 (.ret (zI zf v) [.fmap iZ])else if(o==eK)=Q3 then(ite ((cond (Q0 (ay h s<0)) Q3 (Q0 (ay h s>=(↑x.length:Int))))=Q3) (Q1 (.ret (zI zf (0,0,[])) [.fmap iZ])) (ite (zK (ay h s) (Io x)=Q3) (Q1 (.ret (zI zf (x.getD (toNat (ay h s)) (zi zf))) [.fmap iZ])) Q2))else if c h x (.mk a.op a.v a.s a.l)=Q3 then(ite (c h x (.mk b.op b.v b.s b.l)=Q3) (opL o (g h x (.mk a.op a.v a.s a.l)) (g h x (.mk b.op b.v b.s b.l)) [.fmap iZ]) Q2)else Q2:=kw
variable {a:Option zQ}
theorem qX{Φ:zQ->Prop}{c:Bool}{b:Option zQ}(h:c=Q3->gR Φ a)(x:c=Q4->gR Φ b):gR Φ (ite (c=Q3) a b):=by
 cases c
 .simpa using x rfl
 .simpa using h rfl
variable {E:cd}{C:ew}{t:List Item}
theorem yj{k:FuncId}{f:Func}{Q:AV->List AO->Prop}{n n0:Nat}(c:zu E)(d:zM E.P k f n)(b:∀id,n0<=id->C.ρ0 id=Q2){keep:Nat->aT}{x:Nat}
   {s:St}  (e:(run E n0 keep f.results.toList x t s).val=a) (h:gR (kc E C k Q) a):Reach E C k t s Q:=
 zF c d b rfl (by rw[e];exact h)
theorem xS{o:zH}{x y:V}{h:List AO}(b:opC o=Q3):gR (kc E C 181 (λr d=>(r,d)=(zI zf (opV o x y),h))) (opL o x y h):=by
 generalize c:opV o x y=z;unfold opC at b;unfold opV at c;unfold opL;repeat' (refine qX (λa=>?_) (λa=>?_)<;>first|(rw[ze a]at c;try rw[ze a]at b)|(rw[zg (nD a)]at c;try rw[zg (nD a)]at b))
 all_goals first|(cases b;done)|(subst c;rfl)
def sH(g:aM->zw->za->V)(c:LC)(h:LV):za->V
 | .mk o v s l=>if (o==ot)=Q3 then v else
  if(o==eK)=Q3 then(ite ((cond (Q0 (ay c s<0)) Q3 (Q0 (ay c s>=(↑h.length:Int))))=Q3) (0,0,[]) (h.getD (toNat (ay c s)) (zi zf)))else
  match l with
  |[]=>opV o (0,0,[]) (0,0,[])
  |[a]=>opV o (g c h a) (0,0,[])
  |[a,b]=>opV o (g c h a) (g c h b)
  |_=>(0,0,[])
def wH(c:aM->zw->za->Bool)(h:LC)(x:LV):za->Bool
 |.mk _ _ _ (_::_::_::_)=>Q4
 | .mk o _ s l=>if (o==ot)=Q3 then Q3 else
  if(o==eK)=Q3 then(ite ((cond (Q0 (ay h s<0)) Q3 (Q0 (ay h s>=(↑x.length:Int))))=Q3) Q3 (zK (ay h s) (Io x)))else
  match l with
  |[]=>opC o
  |[a]=>if c h x a=Q3 then opC o else Q4
  |[a,b]=>if c h x a=Q3 then(ite (c h x b=Q3) (opC o) Q4)else Q4
  |_=>Q4
theorem zhI(p:FK 181 (SR h c)):FK 181 (SR (sH h) (wH c)):=by
 refine dc (E:=Ty h c) (YJ h c) λx w t m C n=>?_
 unfold zi4 at m;split at m
 .rename_i j k e u y A B D F G H I;simp only[Q8]at m;split at m
  .rename_i q;split at m
   .rename_i g;simp only[aF,bd]at q;obtain⟨rfl,rfl,rfl,rfl,rfl,rfl,rfl,rfl⟩:=q;simp only[bj]at m;subst m;obtain⟨o,v,s,l⟩:=e
    match l,g with
    | [],g=>
     refine yj (n0:=1) (Cv p) (YJ h c) n (zj8 h c j k o v s) ?_;generalize i:sH h j k (.mk o v s [])=z;rw[wH]at g;rw[sH]at i;repeat' (first|(subst i;exact xS g)|refine qX (λd=>?_) (λd=>?_)<;>first|(first|rw[ze d]at i g|rw[ze d]at g|rw[ze d]at i)|(first|rw[zg (nD d)]at i g|rw[zg (nD d)]at g|rw[zg (nD d)]at i)|skip)
     all_goals first|(subst i;exact xS g)|(subst i;rfl)|(rw[g]at d;cases d)
    | [a],g=>
     refine yj (n0:=1) (Cv p) (YJ h c) n (zj9 h c j k o v s a) ?_;generalize i:sH h j k (.mk o v s [a])=z;rw[wH]at g;rw[sH]at i;simp only[za.eta];repeat' (first|(subst i;exact xS g)|refine qX (λd=>?_) (λd=>?_)<;>first|(first|rw[ze d]at i g|rw[ze d]at g|rw[ze d]at i)|(first|rw[zg (nD d)]at i g|rw[zg (nD d)]at g|rw[zg (nD d)]at i)|skip)
     all_goals first|(subst i;exact xS g)|(subst i;rfl)|(cases g;done)|(rw[g]at d;cases d)
    | [a,b],g=>
     refine yj (n0:=1) (Cv p) (YJ h c) n (zka h c j k o v s a b) ?_;generalize i:sH h j k (.mk o v s [a,b])=z;rw[wH]at g;rw[sH]at i;simp only[za.eta];repeat' (first|(subst i;exact xS g)|refine qX (λd=>?_) (λd=>?_)<;>first|(first|rw[ze d]at i g|rw[ze d]at g|rw[ze d]at i)|(first|rw[zg (nD d)]at i g|rw[zg (nD d)]at g|rw[zg (nD d)]at i)|skip)
     all_goals first|(subst i;exact xS g)|(subst i;rfl)|(cases g;done)|(rw[g]at d;cases d)
    | _::_::_::_,g=>
     cases g
   .simp at m
  .simp at m
 .simp at m
mutual
def dN:Nat->aM->zw->za->V
 |0=>λ_ _ _=>(0,0,[])
 |n+1=>sH (dN n)
def wG:Nat->aM->zw->za->Bool
 |0=>λ_ _ _=>Q4
 |n+1=>wH (wG n)
end
theorem Vd:∀n,FK 181 (SR (dN n) (wG n))
 | 0=>by
  have h:FK 181 (aW [Q2,Q1 .expr] (λ_ _=>.err)):=dc (YJ (λ_ _ _=>(0,0,[])) (λ_ _ _=>Q4)) (E:=Gm) λx c b a=>by simp at a
  refine AS (ι:=Unit) (Gs:=λ_ _ _=>.err) (λ_=>h) λx c b a=>?_
  unfold zi4 at a;split at a
  .simp[Q8,wG]at a
  .simp at a
 |n+1=>zhI (Vd n)
def F24:z8:=SR (dN 16) (wG 16)
theorem zog:FK 181 F24:=Vd 16
def Gn:=Gm.addL [(180,F23),(181,F24)]
theorem xe:zu Gn:=w9.addL<|fc zof<|fc zog iw
abbrev zvF:Nat->aT:=λ_=>{ }
theorem zr3:zM (Gn).P 179 Tryz.f179 1:=bL kw
theorem zuI(x:Sem Q5):rn Gn 0 zvF Tryz.f179 [zI Q5 x] []=Qc (vu 16 (zr x) 1 0) (Tr.ok (zQ.ret (AV.bool (iu 16 (zr x) 1 0).1) [])):=kw
def dD(x:Sem Q5):Sem Q7:=(iu 16 x 1 0).1
def yW(x:Sem Q5):Bool:=if vu 16 x 1 0=Q3 then Q3 else Q4
def F22:z8:=zY [Q5] [Q7] (λx=>yW x.1) λx=>(dD x.1,())
theorem zfl:FK 179 F22:=by
 refine aO (zr3) λx a C b=>?_
 unfold yW at a;refine zF xe (zr3) (λid _=>b id) (zuI x.1) ?_;generalize h:dD x.1=y;unfold dD at h
 try simp only[za.eta]
 repeat' (first|with_reducible refine vA h a (λ_ h a=>?_) (λ_ h a=>?_)|with_reducible refine dH h (λ_ h=>?_) (λ_ h=>?_)|with_reducible refine iL a (λa=>?_)|with_reducible refine zT ?_)
 all_goals(subst h;first|rfl)
abbrev kp7:Nat->aT:=λ_=>{ }
theorem ok7:zM (Gn).P 57 Tryz.f57 1:=bL kw
theorem go7(x:Sem Q5):rn Gn 0 kp7 Tryz.f57 [zI Q5 x] []=Qc (L2 16 (zr x) 14 80) (Tr.ok (zQ.ret (agg [str (za.op (sD 16 (zr x) 14 80).1),ai (za.v (sD 16 (zr x) 14 80).1).1,ai (za.v (sD 16 (zr x) 14 80).1).2.1,str (za.v (sD 16 (zr x) 14 80).1).2.2,str (za.s (sD 16 (zr x) 14 80).1),sl Q5 (za.l (sD 16 (zr x) 14 80).1)]) [])):=kw
def ia(x:Sem Q5):Sem Q5:=za.mk (za.op (sD 16 x 14 80).1) (za.v (sD 16 x 14 80).1) (za.s (sD 16 x 14 80).1) (za.l (sD 16 x 14 80).1)
def QT(x:Sem Q5):Bool:=if L2 16 x 14 80=Q3 then Q3 else Q4
def F7:z8:=zY [Q5] [Q5] (λx=>QT x.1) λx=>(ia x.1,())
theorem zoU:FK 57 F7:=by
 refine aO (ok7) λx a C b=>?_
 unfold QT at a;refine zF xe (ok7) (λid _=>b id) (go7 x.1) ?_;generalize h:ia x.1=y;unfold ia at h
 try simp only[za.eta]
 repeat' (first|with_reducible refine vA h a (λ_ h a=>?_) (λ_ h a=>?_)|with_reducible refine dH h (λ_ h=>?_) (λ_ h=>?_)|with_reducible refine iL a (λa=>?_)|with_reducible refine zT ?_)
 all_goals(subst h;first|rfl)
def Gp:=Gn.addL [(179,F22),(57,F7)]
theorem xf:zu Gp:=xe.addL<|fc zfl<|fc zoU iw
abbrev zvH:Nat->aT:=λ_=>{ }
theorem zr7:zM (Gp).P 178 Tryz.f178 2:=bL kw
theorem zuN(h:Sem Q5)(x:Sem zl.sl):rn Gp 0 zvH Tryz.f178 [zI Q5 h,zI zl.sl x] []=let a:=zr h;Qc (yW a) (br (!dD a) (Tr.ok (zQ.ret (tup [ai 0,ai 1]) [])) (Qc (bw 16 a x) (Tr.ok (zQ.ret (tup [ai (zW 16 a x).1,ai (zW 16 a x).2]) [])))):=kw
def b8(x:Sem Q5)(h:Sem zl.sl):zq×zq:=if(!dD x)=Q3 then(0,1)else((zW 16 x h).1,(zW 16 x h).2)
def Ir(x:Sem Q5)(h:Sem zl.sl):Bool:=if yW x=Q3 then if(!dD x)=Q3 then Q3 else if bw 16 x h=Q3 then Q3 else Q4 else Q4
def F30:z8:=zY [Q5,zl.sl] [zj,zj] (λx=>Ir x.1 x.2.1) λx=>((b8 x.1 x.2.1).1,(b8 x.1 x.2.1).2,())
theorem zfm:FK 178 F30:=by
 refine aO (zr7) λx a C b=>?_
 unfold Ir at a;refine zF xf (zr7) (λid _=>b id) (zuN x.1 x.2.1) ?_;generalize h:b8 x.1 x.2.1=y;unfold b8 at h
 try simp only[za.eta]
 repeat' (first|with_reducible refine vA h a (λ_ h a=>?_) (λ_ h a=>?_)|with_reducible refine dH h (λ_ h=>?_) (λ_ h=>?_)|with_reducible refine iL a (λa=>?_)|with_reducible refine zT ?_)
 all_goals(subst h;first|rfl)
abbrev zvE:Nat->aT:=λ_=>{ }
theorem zrX:zM (Gp).P 111 Tryz.f111 3:=bL kw
theorem zuC(b:Sem Q5)(x:Sem zl.sl)(h:Sem zf.sl):rn Gp 0 zvE Tryz.f111 [zI Q5 b,zI zl.sl x,zI zf.sl h] []=let a:=zr b;Qc (yW a) (br (!dD a) (Tr.ok (zQ.ret (agg [ai 0,ai 0,str []]) [])) (Qc (ir==ir&&(uG==uG&&(ng==ng&&([61]==[61]&&([60]==[60]&&([43]==[43]&&([45]==[45]&&pk==pk))))))) (Qc (wG 16 x h a) (Tr.ok (zQ.ret (agg [ai (dN 16 x h a).1,ai (dN 16 x h a).2.1,str (dN 16 x h a).2.2]) []))))):=kw
def kr(x:Sem Q5)(h:Sem zl.sl)(a:Sem zf.sl):zo:=if(!dD x)=Q3 then(0,0,[])else dN 16 h a x
def Ip(x:Sem Q5)(h:Sem zl.sl)(a:Sem zf.sl):Bool:=if yW x=Q3 then if(!dD x)=Q3 then Q3 else if(ir==ir&&(uG==uG&&(ng==ng&&([61]==[61]&&([60]==[60]&&([43]==[43]&&([45]==[45]&&pk==pk)))))))=Q3 then if wG 16 h a x=Q3 then Q3 else Q4 else Q4 else Q4
def F11:z8:=zY [Q5,zl.sl,zf.sl] [zf] (λx=>Ip x.1 x.2.1 x.2.2.1) λx=>(kr x.1 x.2.1 x.2.2.1,())
theorem zfi:FK 111 F11:=by
 refine aO (zrX) λx a C b=>?_
 unfold Ip at a;refine zF xf (zrX) (λid _=>b id) (zuC x.1 x.2.1 x.2.2.1) ?_;generalize h:kr x.1 x.2.1 x.2.2.1=y;unfold kr at h
 try simp only[za.eta]
 repeat' (first|with_reducible refine vA h a (λ_ h a=>?_) (λ_ h a=>?_)|with_reducible refine dH h (λ_ h=>?_) (λ_ h=>?_)|with_reducible refine iL a (λa=>?_)|with_reducible refine zT ?_)
 all_goals(subst h;first|rfl)
def zfB:=Gp.addL [(178,F30),(111,F11)]
theorem TG:zu zfB:=xf.addL<|fc zfm<|fc zfi iw
theorem lX(d:Int)(h:-1000<=d)(x:d<=1000):Γ Δ d=d:=by rw[ee];omega
theorem IM{P:Nat->za->za->Prop}(Z:∀N e(o t s:zH)(l:List za),(∀y∈l,∃x∈za.l e,P N x y)->Io l<=3->Io t<=45->Io s<=20->P (N+1) e (.mk o ((za.v e).1,(za.v e).2.1,t) s l)):
  ∀(N:Nat)(e:za)(d n:Int),0<=d->d<N->N<=100->∃r m,pE N e d n=Q1 (r,m,())/\P N e r
 |0,_,_,_,U,W,_=>by omega
 | N + 1,e,d,n,U,W,D=>by
  have IH:∀x m,0<d->∃r k,pE N x (Γ Δ (d-1)) m=Q1 (r,k,())/\P N x r:=λx m hd=>by
   rw[lX _ ow ow];exact IM Z N x (d-1) m ow ow ow
  generalize hg:(λO S T=>Lr (pE N O S T))=g;generalize hc:(λO S T=>(pE N O S T).isSome)=c
  have L:∀(k i:Nat)(n:Int)(a:List za)(z:zn pD)(o t s:zH),i+k=3->Io a=i->(∀y∈a,∃x∈za.l e,P N x y)->
    ∃m r M,z6 (ww g c) m (.h10 d n (i:Int) (e,()) z (o,(za.v e).1,(za.v e).2.1,t,s,a,())) (.tup [.agg [.str o,.int .i64 (za.v e).1,.int .i64 (za.v e).2.1,.str t,.str s,.vec 0],.int .i64 M],[.vec .expr r])/\m<=k+1/\(∀y∈r,∃x∈za.l e,P N x y)/\Io r<=3:=by
   intro k
   induction k with
   | zero=>
    intro i n a z o t s hi ha A;refine⟨1,a,n,z6.of ?_,ow,A,ow⟩;have D:Q0 ((i:Int)<3)=Q4:=by simp;omega
    simp only[ww,Q8,D,aA,Bool.cond_self,zE,zp]
   | succ k ih=>
    intro i n a z o t s hi ha A;by_cases p:(cond (Q0 ((i:Int)<(↑(za.l e).length:Int))) (cond (Q0 ((i:Int)<3)) (cond (Q0 (d>0)) (Q0 (n>0)) Q4) Q4) Q4)=Q3
    .have w:i<(za.l e).length/\0<d:=by
      cases U:Q0 ((i:Int)<(↑(za.l e).length:Int))<;>cases W:Q0 ((i:Int)<3)<;>cases D:Q0 (d>0)<;>simp_all
     obtain⟨r,m,h,b⟩:=IH (za.l e)[i] n w.2;have gx:g (za.l e)[i] (Γ Δ (d-1)) n=(r,m):=by rw[<-hg];simp only[h];rfl
     have cx:c (za.l e)[i] (Γ Δ (d-1)) n=Q3:=by rw[<-hc];simp only[h];rfl
     obtain⟨m2,r2,n2,H,k2,I,J⟩:=ih (i+1) m (a++[r]) z o t s ow sg (λy q=>by
      rcases bZ.1 q with q|q
      .exact A y q
      .rw[dO]at q;exact⟨_,bp w.1,q▸b⟩)
     refine⟨m2+1,r2,n2,(zN.of ?_).ends H,?_,I,J⟩
     .have hn:(Io a+[zr r].length<=1073741824):=by simp;omega
      have G:zK (i:Int) (za.l e).length=Q3:=by simp[zK,w.1]
      have F:getD (za.l e) (toNat (i:Int)) (zi Q5)=(za.l e)[i]:=by rw[aK,aZ,zZ w.1,bM]
      simp only[ww,Q8,p,G,F,zm,gx,cx,zh];rw[zm]at hn;rw[ze (zy hn),zt i um]
     .omega
    .refine⟨1,a,n,z6.of ?_,ow,A,ow⟩;simp only[ww,Q8];rw[zg p]
  have u:∀(z:zn pD)(o t s:zH),Io t<=45->Io s<=20->∃r m R,z6 (ww g c) 101 (.h500008 d (Γ Δ (n-1)) (e,()) z (o,(za.v e).1,(za.v e).2.1,t,s,())) R/\aS R.2 [Q5,zj] R.1=Q1 (r,m,())/\P (N+1) e r:=λz o t s ht B=>by
   obtain⟨m,r,M,H,k2,I,J⟩:=L 3 0 (Γ Δ (n-1)) [] z o t s rfl rfl sw;exact⟨.mk o ((za.v e).1,(za.v e).2.1,t) s r,M,_,((zN.of rfl).ends H).mono ow,rfl,Z N e o t s r I J ht B⟩
  have Y:∀(z:zn pD)(o s:zH),Io s<=20->∃r m R,z6 (ww g c) 102 (.h500006 d n (Q0 ((↑(Io (za.v e).2.2):Int)>45)) (e,()) z (o,(za.v e).1,(za.v e).2.1,(za.v e).2.2,s,())) R/\aS R.2 [Q5,zj] R.1=Q1 (r,m,())/\P (N+1) e r:=λz o s B=>by
   by_cases p:(Io (za.v e).2.2:Int)>45
   .obtain⟨r,m,R,h,b,j⟩:=u z o (Qg (toNat 45-toNat 0) (Qh (toNat 0) (za.v e).2.2)) s sg B;refine⟨r,m,R,(zN.of ?_).ends h,b,j⟩;have E:Q0 ((45:Int)<=(Io (za.v e).2.2:Int))=Q3:=by simp;omega
    simp only[ww,Q8,zy p,E,zh];rfl
   .obtain⟨r,m,R,h,b,j⟩:=u z o (za.v e).2.2 s ow B;refine⟨r,m,R,(zN.of ?_).ends h,b,j⟩;simp only[ww,Q8,ae p,zE,zp]
  have X:∀(z:zn pD)(o:zH),∃r m R,z6 (ww g c) 103 (.h500004 d n (Q0 ((↑(Io (za.s e)):Int)>20)) (e,()) z (o,(za.v e).1,(za.v e).2.1,(za.v e).2.2,za.s e,())) R/\aS R.2 [Q5,zj] R.1=Q1 (r,m,())/\P (N+1) e r:=λz o=>by
   by_cases p:(Io (za.s e):Int)>20
   .obtain⟨r,m,R,h,b,j⟩:=Y z o (Qg (toNat 20-toNat 0) (Qh (toNat 0) (za.s e))) sg;refine⟨r,m,R,(zN.of ?_).ends h,b,j⟩;have C:Q0 ((20:Int)<=(Io (za.s e):Int))=Q3:=by simp;omega
    simp only[ww,Q8,zy p,C,zh];rfl
   .obtain⟨r,m,R,h,b,j⟩:=Y z o (za.s e) ow;refine⟨r,m,R,(zN.of ?_).ends h,b,j⟩;simp only[ww,Q8,ae p,zE,zp]
  have e0:pE (N+1) e d n=zpW g c e d n:=by rw[<-hg,<-hc];rfl
  rw[e0];by_cases p:(Io (za.op e):Int)>8
  .obtain⟨r,m,R,h,b,j⟩:=X ([],0,0,[],[],()) (Qg (toNat 8-toNat 0) (Qh (toNat 0) (za.op e)));refine⟨r,m,zB ?_ h ow b,j⟩;have u:Q0 ((8:Int)<=(Io (za.op e):Int))=Q3:=by simp;omega
   simp only[XB,Q8,zy p,u,zh];rfl
  .obtain⟨r,m,R,h,b,j⟩:=X ([],0,0,[],[],()) (za.op e);refine⟨r,m,zB ?_ h ow b,j⟩;simp only[XB,Q8,ae p,zE,zp]
theorem OY(N:Nat)(e:za)(d n:Int)(x:0<=d)(a:d<N)(b:N<=100):L2 N e d n=Q3:=by obtain⟨r,m,h,_⟩:=IM (P:=λ_ _ _=>True) (λ_ _ _ _ _ _ _ _ _ _=>trivial) N e d n x a b;unfold L2;rw[h];rfl
theorem DC{g:za->Int->Int->Bool×Int}{c:za->Int->Int->Bool}{d:Int}(h:∀x n,c x (Γ Δ (d+1)) n=Q3):∀(l:List za)(n:Int),DB g c d l n=Q3
 |[],_=>rfl
 | x::r,n=>by
  rw[DB,ze (h x n)];split
  .rfl
  .exact DC h r _
theorem DA:∀(N:Nat)(e:za)(d n:Int),0<=d->d<=13->14<=d+N->vu N e d n=Q3
 |0,_,_,_,_,_,_=>by omega
 | N+1,e,d,n,b,c,g=>by
  rw[vu];unfold RI;by_cases h:d>12
  .simp[h]
  .have a:DB (iu N) (vu N) d e.l (Γ Δ (n+1))=Q3:=DC (λx m=>by
    rw[lX _ ow ow];exact DA N x (d+1) m ow ow ow) _ _
   repeat' split
   all_goals first|rfl|exact a
abbrev xQ:za:=.mk [] (0,0,[]) [] []
theorem PU(N:Nat)(e:za):jz (N+1) e xQ=Q3:=by
 rw[jz];unfold J3;have h:yZ (fJ N) (jz N) e.l []=Q3:=by
  unfold yZ;split
  .rfl
  .cases e.l<;>rfl
 show(cond (e.op==[]) (cond (eqV e.v (0,0,[])) (cond (e.s==[]) (yZ (fJ N) (jz N) e.l []) Q3) Q3) Q3)=Q3;rw[h];cases e.op==[]<;>cases eqV e.v (0,0,[])<;>cases e.s==[]<;>rfl
theorem gm{α:Type}(p:α->Bool):∀(l:List α)(i:Nat),ab p l i=-1\/((i:Int)<=ab p l i/\ab p l i<i+Io l)
 |[],_=>.inl rfl
 | x::r,i=>by
  unfold ab;split
  .exact .inr ⟨ow,sg⟩
  .rcases gm p r (i+1)with h|⟨a,b⟩
   .exact .inl h
   .exact .inr ⟨ow,sg⟩
theorem Il(l:aM)(s:zH):ay l s=-1\/(0<=ay l s/\ay l s<Io l):=by have:=gm (λc:bX=>c.1==s) l 0;unfold ay;simpa using this
theorem ms(o:zH):(dm o=0/\(o=ot\/o=eK))\/(dm o=1/\(o=ng\/o=pk))\/
  (dm o=2/\(o=ir\/o=uG\/o=[61]\/o=[60]\/o=[43]\/o=[45]))\/dm o=-1:=by
 unfold dm Aq;simp only[SD];repeat' split
 all_goals simp_all
theorem xP{g:za->Int->Int->Bool×Int}{e:za}{d i:Int}(h:(AN g e d i).1=Q3):(Io e.l:Int)=dm e.op/\
  ((e.op=ot\/e.op=eK)\/(pF g d e.l (Γ Δ (i+1))).1=Q3):=by
 unfold AN at h;split at h
 .cases h
 .rename_i b;have a:(Io e.l:Int)=dm e.op:=by
   cases x:Q0 (d>12)<;>cases c:Q0 (Γ Δ (i+1)>60)<;>simp_all
  refine⟨a,?_⟩;split at h
  next x=>exact .inl (.inl (by simpa using x))
  .split at h
   next x=>exact .inl (.inr (by simpa using x))
   .split at h
    .cases h
    .exact .inr h
theorem vw{g:za->Int->Int->Bool×Int}{d:Int}:∀(l:List za)(n:Int),(pF g d l n).1=Q3->∀x∈l,∃m,(g x (Γ Δ (d+1)) m).1=Q3
 |[],_,_,_,a=>by simp at a
 | y::r,n,h,x,a=>by
  rw[pF]at h;split at h
  .cases h
  .rename_i b;rcases cf.1 a with rfl|a
   .exact⟨n,by simpa using b⟩
   .exact vw r _ h x a
theorem AB{g:za->aM->Int×Int}{c:za->aM->Bool}{b:aM}{o:zH}{d i:Int}{q k:zH}{w:List za}:
    ∀(l:List za)(a:Int)(e:List Int),(∀x∈l,c x b=Q3)->((Io e:Int)+Io l)=dm o->gz g c b o d i q k w l a e=Q3
  | [], a,e,_,j=>by
    have j:(Io e:Int)=dm o:=by simpa using j
    have n:Q0 (ay b k<0)=Q3\/zK (ay b k) (Io b)=Q3:=by
      rcases Il b k with h|⟨s,m⟩
      · exact .inl (by rw[h];rfl)
      · exact .inr (by simp[zK,s,m])
    have m:o=[61]\/o=[60]->Io e=2:=by
      rintro(rfl|rfl)
      · have:dm [61]=2:=by decide
        omega
      · have:dm [60]=2:=by decide
        omega
    unfold gz;repeat' split
    all_goals first
      |rfl
      |(exfalso;rcases n with h|h<;>simp_all;done)
      | (exfalso
         rename_i z p;have t:=m (by simp_all);rw[t]at p;exact p (by cases A:(e.getD (toNat 0) (zi zj)==e.getD (toNat 1) (zi zj))<;>cases B:(e.getD (toNat 0) (zi zj)==0)<;>rfl))
  | x :: r,a,e,hc,j=>by
    have u:dm o<=2:=by rcases ms o with h|h|h|h<;>omega
    rw[gz,ze (hc x sw)];split
    · rfl
    · rw[ze (by simp at j|-;omega)]
      exact AB r (a+1) _ (λy v=>hc y (by simp[v])) (by simp at j|-;omega)
theorem wD:∀(N:Nat)(e:za)(d n:Int)(c:aM),(iu N e d n).1=Q3->bw N e c=Q3
 |0,_,_,_,_,h=>by cases h
 | N+1,e,d,n,c,h=>by
  rw[iu]at h;obtain⟨g,a⟩:=xP h;rw[bw];unfold BL;refine AB e.l 0 [] (λx b=>?_) (by simpa using g);rcases a with a|a
  .exfalso;have:dm e.op=0:=by
    rcases a with a|a<;>rw[a]<;>decide
   rw[this]at g;have:e.l=[]:=AF ow;rw[this]at b;simp at b
  .obtain⟨m,i⟩:=vw e.l _ a x b;exact wD N x _ _ c i
theorem Fb:∀(N:Nat)(e:za)(d n:Int)(c:aM)(g:zw),(iu N e d n).1=Q3->wG N c g e=Q3
 |0,_,_,_,_,_,h=>by cases h
 | N + 1,.mk o v s l,d,n,c,g,h=>by
  rw[iu]at h;obtain⟨i,k⟩:=xP h;have i:(Io l:Int)=dm o:=i;have k:(o=ot\/o=eK)\/(pF (iu N) d l (Γ Δ (n+1))).1=Q3:=k;have j:∀x∈l,(¬(o=ot\/o=eK))->wG N c g x=Q3:=by
   intro x j w;rcases k with k|k
   .exact(w k).elim
   .obtain⟨m,A⟩:=vw l _ k x j;exact Fb N x _ _ c g A
  have p:(ite ((cond (Q0 (ay c s<0)) Q3 (Q0 (ay c s>=(↑g.length:Int))))=Q3) Q3 (zK (ay c s) (Io g)))=Q3:=by
   split
   .rfl
   .rename_i q;have z:0<=ay c s/\ay c s<Io g:=by
     cases u:Q0 (ay c s<0)
     .rw[u]at q;simp at u q;exact⟨u,q⟩
     .rw[u]at q;simp at q
    simp[zK,z.1,z.2]
  rw[wG];rcases ms o with⟨y,t⟩|⟨y,t⟩|⟨y,t⟩|y
  .have:l=[]:=AF ow;subst this;rcases t with rfl|rfl
   .rfl
   .rw[wH];exact p
  .match l,i,j with
   | [a],_,j=>
    rcases t with rfl|rfl
    .rw[wH];exact(ze (j a sw (by decide))).trans rfl
    .rw[wH];exact(ze (j a sw (by decide))).trans rfl
   |[],i,_=>simp at i;omega
   |_::_::_,i,_=>simp at i;omega
  .match l,i,j with
   | [a,b],_,j=>
    rcases t with rfl|rfl|rfl|rfl|rfl|rfl<;>
     (rw[wH];exact(ze (j a sw (by decide))).trans ((ze (j b sw (by decide))).trans rfl))
   |[],i,_=>simp at i;omega
   |[_],i,_=>simp at i;omega
   |_::_::_::_,i,_=>simp at i;omega
  .omega
theorem tE(e:za):yW e=Q3:=by unfold yW;rw[ze (DA 16 e 1 0 ow ow ow)]
theorem Ow(e:za):QT e=Q3:=by unfold QT;rw[ze (OY 16 e 14 80 ow ow ow)]
theorem Ls(e:za)(c:aM):Ir e c=Q3:=by
 unfold Ir;rw[ze (tE e)];split
 .rfl
 next h=>rw[ze (wD 16 e 1 0 c (by simpa[dD]using h))]
theorem Lq(e:za)(c:aM)(x:zw):Ip e c x=Q3:=by
 unfold Ip;rw[ze (tE e)];split
 .rfl
 next h=>rw[ze (by decide),ze (Fb 16 e 1 0 c x (by simpa[dD]using h))]
def zmW:z8:=aN [Q5] [Q7] λx=>(dD x.1,())
theorem zhG:FK 179 zmW:=ol zfl λx=>tE x.1
def F7t:z8:=aN [Q5] [Q5] λx=>(ia x.1,())
theorem zo2:FK 57 F7t:=ol zoU λx=>Ow x.1
def zm6:z8:=aN [Q5,zl.sl] [zj,zj] λx=>((b8 x.1 x.2.1).1,(b8 x.1 x.2.1).2,())
theorem zhS:FK 178 zm6:=ol zfm λx=>Ls x.1 x.2.1
def zmA:z8:=aN [Q5,zl.sl,zf.sl] [zf] λx=>(kr x.1 x.2.1 x.2.2.1,())
theorem zhj:FK 111 zmA:=ol zfi λx=>Lq x.1 x.2.1 x.2.2.1
def zfC:=zfB.addL [(179,zmW),(57,F7t),(178,zm6),(111,zmA)]
theorem xg:zu zfC:=TG.addL<|fc zhG<|fc zo2<|fc zhS<|fc zhj iw
set_option maxHeartbeats 4000000
abbrev uN:List CP:=[.d ak]
abbrev zcr:List CP:=[.d .str,.nil,.d zj,.nil,.nil,.d .str,.d zj,.d zj,.d .str,.d .str,.nil]
abbrev zpF:List CP:=[.d .str,.d (.sl zl),.d zj,.vec zj,.nil,.d .expr]
abbrev zpG:List CP:=[.d .str,.d (.sl zl),.d zj,.vec zj,.vec zA,.d .expr]
def Xp(x:Sem Q5)(h:Sem zl.sl):Tr (Empty⊕aw):=Qc (jz 16 (zr x) (za.mk [] (0,0,[]) [] [])) (br (fJ 16 (zr x) (za.mk [] (0,0,[]) [] [])) (re (ai 0) []) (br (cond ((b8 (zr x) h).2==0) (cond ((b8 (zr x) h).1!=3) ((b8 (zr x) h).1!=0) Q4) Q4) (re (ai 5) []) (re (ai (b8 (zr x) h).2) [])))
def Nw(x:Sem Q5)(h:Sem zl.sl):=ao [zj] t0 100000000 (Xp x h)
def zeX:=FT [Q5,zl.sl] [zj] λx=>Nw x.1 x.2.1
theorem Qr:FK 110 zeX:=xg.T1 (f:=Tryz.f110) (keep:=k0) (e:=e0)
abbrev zrB:Nat->aT:=λj=>if j=3 then{slots:=[1,2,3,4],prom:=[(3,Q1 3,zj)]}else if j=7 then{slots:=[1,2,3,5],prom:=[(3,Q1 4,zA)]}else{ }
inductive KP where
 |h3 (i4:Int) (z0:zn uN) (z1:zn zcr) (z2:zn zpF)
 |h7 (i5:Int) (z0:zn uN) (z1:zn zcr) (z2:zn zpG)
abbrev zum:KP->Nat×St
 |.h3 i h x z=>(3,⟨tm 70 [(1,ptr 0 0),(2,ptr 1 0),(3,ptr 2 0),(4,ai i)],[Qa (bI [] uN h),Qa (bI [] zcr x),Qa (bI [3] zpF z),AO.vec zj z.2.2.2.1]⟩)
 |.h7 a h x z=>(7,⟨tm 70 [(1,ptr 0 0),(2,ptr 1 0),(3,ptr 2 0),(5,ai a)],[Qa (bI [] uN h),Qa (bI [] zcr x),Qa (bI [3,4] zpG z),AO.vec zj z.2.2.2.1,AO.vec zA z.t.1]⟩)
def zku(x:aq):Tr (KP⊕aw):=Q9 (KP.h3 0 (x,()) ([],0,[],0,0,[],[],()) (jy x.1,jR x.2.1,x.2.2.1,[],ia (zr x.t.2),()))
def Kn:KP->Tr (KP⊕aw)
 | .h3 i h b z=>
  let c:=(↑(Io h.1.2.2.2.1):Int)
  let a:=[getD h.1.2.2.2.1 i.toNat (zi zj)]
  br (cond (Q0 (i<c)) (Q0 (i<10)) Q4)
  (Qc (zK i (Io h.1.2.2.2.1)) (Qc (Q0 (Io z.2.2.2.1+Io a<=1073741824)) (Q9 (KP.h3 (Γ Δ (i+1)) h b (z.1,z.2.1,z.2.2.1,z.2.2.2.1++a,z.t)))))
  (Q9 (KP.h7 0 h b (z.1,z.2.1,z.2.2.1,z.2.2.2.1,[],z.t)))
 | .h7 x h b z=>
  let c:=(↑(Io h.1.t.1):Int)
  let a:=zK x (Io h.1.t.1)
  let d:=getD h.1.t.1 x.toNat (zi zA)
  let e:=[(d.1,jy d.2)]
  br (cond (Q0 (x<c)) (Q0 (x<10)) Q4)
  (Qc a (Qc a (Qc (Q0 (Io z.t.1+Io e<=1073741824)) (Q9 (KP.h7 (Γ Δ (x+1)) h b (z.1,z.2.1,z.2.2.1,z.2.2.2.1,z.t.1++e,z.t.2))))))
  (re (agg [str z.1,sl zl z.2.1,ai z.2.2.1,AV.vec 0,AV.vec 1,str (za.op z.t.2.1),ai (za.v z.t.2.1).1,ai (za.v z.t.2.1).2.1,str (za.v z.t.2.1).2.2,str (za.s z.t.2.1),sl Q5 (za.l z.t.2.1)]) [AO.vec zj z.2.2.2.1,AO.vec zA z.t.1])
def Z3(x:aq):=ao [ak] Kn 100000000 (zku x)
def znJ:=FT [ak] [ak] λx=>Z3 x.1
theorem Vi:FK 121 znJ:=xg.T1 (f:=Tryz.f121) (keep:=zrB) (e:=zum)
def iR(x:Sem Q5)(h:Sem zl.sl):zq:=if fJ 16 x (za.mk [] (0,0,[]) [] [])=Q3 then 0 else if(cond ((b8 x h).2==0) (cond ((b8 x h).1!=3) ((b8 x h).1!=0) Q4) Q4)=Q3 then 5 else(b8 x h).2
theorem PS(e:za)(c:LC):Nw e c=Q1 (iR e c,()):=by
 have h:(Xp e c).val=Q1 (.inr (.int .i64 (iR e c),[])):=by
  unfold iR;simp only[Xp,zm,Q8];rw[ze (PU 15 e)];repeat' split
  all_goals rfl
 exact zO h rfl
def E6(t:aq):aq:=(jy t.1,jR t.2.1,t.2.2.1,Qg 10 t.2.2.2.1,(Qg 10 t.t.1).map (λf:bV=>((f.1,jy f.2):bV)),ia t.t.2)
theorem Z4(t:aq):Z3 t=Q1 (E6 t,()):=by
 have g:=zN.all (t:=Kn) 1 (λi=>.h3 (i:Int) (t,()) ([],0,[],0,0,[],[],()) (jy t.1,jR t.2.1,t.2.2.1,Qg i t.2.2.2.1,ia t.t.2,())) (min 10 (Io t.2.2.2.1)) λi x=>zN.of (by
  have h:i<Io t.2.2.2.1:=by omega
  simp only[Kn,Q8,zdb (k:=10) (K:=10) rfl x,zz h,zh,aK];rw[ze sg,zt i um,Kt h (zi zj)])
 have a:zN Kn 1 (.h3 ((min 10 (Io t.2.2.2.1):Nat):Int) (t,()) ([],0,[],0,0,[],[],()) (jy t.1,jR t.2.1,t.2.2.1,Qg (min 10 (Io t.2.2.2.1)) t.2.2.2.1,ia t.t.2,())) (.h7 ((0:Nat):Int) (t,()) ([],0,[],0,0,[],[],()) (jy t.1,jR t.2.1,t.2.2.1,Qg (min 10 (Io t.2.2.2.1)) t.2.2.2.1,[],ia t.t.2,())):=zN.of (by
  simp only[Kn,Q8,RH (k:=10) (K:=10) rfl,zE,zp];rfl)
 rw[wz]at g a;have b:=zN.all (t:=Kn) 1 (λi=>.h7 (i:Int) (t,()) ([],0,[],0,0,[],[],()) (jy t.1,jR t.2.1,t.2.2.1,Qg 10 t.2.2.2.1,(Qg i t.t.1).map (λf:bV=>((f.1,jy f.2):bV)),ia t.t.2,())) (min 10 (Io t.t.1)) λi x=>zN.of (by
  have h:i<Io t.t.1:=by omega
  simp only[Kn,Q8,zdb (k:=10) (K:=10) rfl x,zz h,zh,aK];rw[ze sg,zt i um,Kt h (zi zA),eI];rfl)
 rw[wz]at b;have c:z6 Kn 1 (.h7 ((min 10 (Io t.t.1):Nat):Int) (t,()) ([],0,[],0,0,[],[],()) (jy t.1,jR t.2.1,t.2.2.1,Qg 10 t.2.2.2.1,(Qg 10 t.t.1).map (λf:bV=>((f.1,jy f.2):bV)),ia t.t.2,())) _:=z6.of (by
  simp only[Kn,Q8,RH (k:=10) (K:=10) rfl,zE,zp];rfl)
 have d:(zku t).val=Q1 (.inl (.h3 ((0:Nat):Int) (t,()) ([],0,[],0,0,[],[],()) (jy t.1,jR t.2.1,t.2.2.1,Qg 0 t.2.2.2.1,ia t.t.2,()))):=by
  simp only[zku,zm,Q8];rfl
 unfold E6;rw[<-zm (ia t.t.2)];exact zB d (((g.trans a).trans b).ends c) ow rfl
def zfD:=zfC.addL [(110,zeX),(121,znJ)]
theorem TH:zu zfD:=xg.addL<|fc Qr<|fc Vi iw
def zmT:z8:=aN [Q5,zl.sl] [zj] λx=>(iR x.1 x.2.1,())
theorem zhC:FK 110 zmT:=ii Qr λx=>PS x.1 x.2.1
def F5t:z8:=aN [ak] [ak] λx=>(E6 x.1,())
theorem zoM:FK 121 F5t:=ii Vi λx=>Z4 x.1
def Wz:=zfD.addL [(110,zmT),(121,F5t)]
theorem Gq:zu Wz:=TH.addL<|fc zhC<|fc zoM iw
abbrev zkF:=kl [(4,[1,27,28,29]),(11,[1,5,59,60,61]),(17,[1,5,71,72,73])]
inductive sI where
 |h4 (l27:LC) (i28:Int) (i29:Int) (z0:zn uN)
 |h11 (l59:LI) (i60:Int) (i61:Int) (z0:zn uN)
 |h17 (l71:LF) (i72:Int) (i73:Int) (z0:zn uN)
abbrev zpI:sI->Nat×St
 |.h4 l i h z=>(4,⟨tm 110 [(1,ptr 0 0),(27,sl zl l),(28,ai i),(29,ai h)],[Qa (bI [] uN z)]⟩)
 |.h11 d x a z=>(11,⟨tm 110 [(1,ptr 0 0),(5,AV.clo (Fn.func 109) [] [ptr 0 0]),(59,sl zj d),(60,ai x),(61,ai a)],[Qa (bI [] uN z)]⟩)
 |.h17 e b c z=>(17,⟨tm 110 [(1,ptr 0 0),(5,AV.clo (Fn.func 109) [] [ptr 0 0]),(71,sl zA e),(72,ai b),(73,ai c)],[Qa (bI [] uN z)]⟩)
def Mc(x:aq):Tr (sI⊕aw):=
 let a:=(↑(Io x.2.1):Int)
 br (cond (!zU x.1) Q3 (cond (Q0 (a<1)) Q3 (Q0 (a>8)))) (re (kb Q4) [])
 (Q9 (sI.h4 x.2.1 a 0 (x,())))
def px:sI->Tr (sI⊕aw)
 | .h4 l d i z=>
  let a:=l.getD i.toNat (zi zl)
  br (Q0 (i<d))
  (Qc (zK i (Io l)) (br (cond (!zU a.1) Q3 (cond (Q0 (a.2.1<1)) Q3 (cond (Q0 (a.2.1>3)) Q3 (zV (z.1.1,z.1.2.1,z.1.2.2.1,z.1.2.2.2.1,z.1.t.1,zr z.1.t.2) a.1!=i)))) (re (kb Q4) []) (Q9 (sI.h4 l d (Γ Δ (i+1)) z))))
  (Q9 (sI.h11 z.1.2.2.2.1 (↑(Io z.1.2.2.2.1):Int) 0 z))
 | .h11 b e h z=>
  let a:=b.getD h.toNat (zi zj)
  let j:=(↑(Io z.1.2.1):Int)
  br (Q0 (h<e))
  (Qc (zK h (Io b)) (br (!bif Q0 (a>=0)then Q0 (a<j)else Q4) (re (kb Q4) []) (Q9 (sI.h11 b e (Γ Δ (h+1)) z))))
  (Q9 (sI.h17 z.1.t.1 (↑(Io z.1.t.1):Int) 0 z))
 | .h17 c g x z=>
  let a:=c.getD x.toNat (zi zA)
  let j:=(↑(Io z.1.2.1):Int)
  let k:=getD z.1.2.1 (toNat z.1.2.2.1) (zi zl)
  br (Q0 (x<g))
  (Qc (zK x (Io c)) (br (!bif Q0 (a.1>=0)then Q0 (a.1<j)else Q4) (re (kb Q4) []) (br (!zU a.2) (re (kb Q4) []) (Q9 (sI.h17 c g (Γ Δ (x+1)) z)))))
  (br (cond (Q0 (z.1.2.2.1>=0)) (Q0 (z.1.2.2.1<j)) Q4) (Qc (zK z.1.2.2.1 (Io z.1.2.1)) (br k.2.2 (re (AV.bool (iR (zr z.1.t.2) z.1.2.1==0)) []) (re (kb Q4) []))) (re (kb Q4) []))
def zl5(x:aq):=ao [Q7] px 40000000000000000000 (Mc x)
theorem W1{e:Type}{t:e->Tr (e⊕aw)}{st:Nat->e}{N:Nat}{b:Nat->Bool}{R:aw}(h:∀i,i<N->(t (st i)).val=if b i=Q3 then Q1 (.inl (st (i+1)))else Q1 (.inr R)):
  ((List.range N).all b=Q3/\zN t N (st 0) (st N))\/((List.range N).all b=Q4/\z6 t N (st 0) R):=by
 rcases mD (t:=t) (Φ:=λr=>r=R) 1 st (λi=>b i=Q3) N (λi x _=>by
  cases d:b i
  .exact .inr ⟨sw,R,z6.of (by rw[h i x,d];rfl),rfl⟩
  .exact .inl ⟨rfl,zN.of (by rw[h i x,d];rfl)⟩)with⟨a,c⟩|⟨a,r,c,rfl⟩
 .exact .inl ⟨by rw[dJ];exact λi x=>a i (pR.1 x),c.mono ow⟩
 .refine .inr ⟨?_,c.mono ow⟩;rw[Bool.eq_false_iff,Ne,dJ];exact λq=>a λi x=>q i (pR.2 x)
def xF(x:Int)(n:Nat):Bool:=bif Q0 (x>=0)then Q0 (x<(n:Int))else Q4
def Ol(t:aq)(i:Nat):Bool:=!(cond (!zU (getD t.2.1 i (zi zl)).1) Q3 (cond (Q0 ((getD t.2.1 i (zi zl)).2.1<1)) Q3 (cond (Q0 ((getD t.2.1 i (zi zl)).2.1>3)) Q3 (zV t (getD t.2.1 i (zi zl)).1!=(i:Int)))))
def zdH(t:aq)(i:Nat):Bool:=xF (getD t.t.1 i (zi zA)).1 (Io t.2.1)&&zU (getD t.t.1 i (zi zA)).2
def dX(t:aq):Sem Q7:=!(cond (!zU t.1) Q3 (cond (Q0 ((↑(Io t.2.1):Int)<1)) Q3 (Q0 ((↑(Io t.2.1):Int)>8))))&&((List.range (Io t.2.1)).all (Ol t)&&((List.range (Io t.2.2.2.1)).all (λi=>xF (getD t.2.2.2.1 i (zi zj)) (Io t.2.1))&&((List.range (Io t.t.1)).all (zdH t)&&(xF t.2.2.1 (Io t.2.1)&&((getD t.2.1 (toNat t.2.2.1) (zi zl)).2.2&&(iR t.t.2 t.2.1==0))))))
theorem Z5{t:aq}(v:Io t.2.2.2.1<=aJ)(w:Io t.t.1<=aJ):zl5 t=Q1 (dX t,()):=by
 unfold dX;by_cases x:(cond (!zU t.1) Q3 (cond (Q0 ((↑(Io t.2.1):Int)<1)) Q3 (Q0 ((↑(Io t.2.1):Int)>8))))=Q3
 .rw[x];refine zO (r:=(.kb Q4,[])) ?_ rfl;simp only[Mc,Q8];exact ze x
 have y:Io t.2.1<=8:=by
  cases p:zU t.1
  .rw[p]at x;simp at x
  .rw[p]at x;simp at x;omega
 have e:(Mc t).val=Q1 (.inl (.h4 t.2.1 (Io t.2.1:Int) ((0:Nat):Int) (t,()))):=by
  simp only[Mc,Q8];exact zg x
 rw[gT]at x;rw[x];have z:aJ=9223372036854775807:=rfl
 rcases W1 (t:=px) (R:=(.kb Q4,[])) (N:=Io t.2.1) (st:=λi=>.h4 t.2.1 (Io t.2.1:Int) (i:Int) (t,())) (b:=Ol t) (λi h=>by
  simp only[px,Q8,zL h,zz h,zh,aK,zm,aQ,zt i (show i<aJ by omega)];unfold Ol;split
  next c=>rw[c];rfl
  next c=>rw[gT]at c;rw[c];rfl)with⟨j,m⟩|⟨j,m⟩
 rotate_left
 .rw[j];exact zB e m ow rfl
 have g:=m.trans (zN.of (s':=.h11 t.2.2.2.1 (Io t.2.2.2.1:Int) ((0:Nat):Int) (t,())) (by
  simp only[px,Q8,zG,zE,zp];rfl))
 rw[j]
 rcases W1 (t:=px) (R:=(.kb Q4,[])) (N:=Io t.2.2.2.1) (st:=λi=>.h11 t.2.2.2.1 (Io t.2.2.2.1:Int) (i:Int) (t,())) (b:=λi=>xF (getD t.2.2.2.1 i (zi zj)) (Io t.2.1)) (λi h=>by
  simp only[px,Q8,zL h,zz h,zh,aK,zt i (show i<aJ by omega)];unfold xF;split
  next c=>rw[yJ]at c;rw[c];rfl
  next c=>rw[gT,Bool.not_eq_false']at c;rw[c];rfl)with⟨k,n⟩|⟨k,n⟩
 rotate_left
 .rw[k];exact zB e (g.ends n) ow rfl
 have a:=(g.trans n).trans (zN.of (s':=.h17 t.t.1 (Io t.t.1:Int) ((0:Nat):Int) (t,())) (by
  simp only[px,Q8,zG,zE,zp];rfl))
 rw[k]
 rcases W1 (t:=px) (R:=(.kb Q4,[])) (N:=Io t.t.1) (st:=λi=>.h17 t.t.1 (Io t.t.1:Int) (i:Int) (t,())) (b:=zdH t) (λi h=>by
  simp only[px,Q8,zL h,zz h,zh,aK,zt i (show i<aJ by omega)];unfold zdH xF;split
  next c=>rw[yJ]at c;rw[c];rfl
  next c=>rw[gT,Bool.not_eq_false']at c;rw[c];cases zU (getD t.t.1 i (zi zA)).2<;>rfl)with⟨l,o⟩|⟨l,o⟩
 rotate_left
 .rw[l];exact zB e (a.ends o) ow rfl
 rw[l];have d:∃r,(px (.h17 t.t.1 (Io t.t.1:Int) (Io t.t.1:Int) (t,()))).val=Q1 (.inr r)/\aS r.2 [Q7] r.1=Q1 ((xF t.2.2.1 (Io t.2.1)&&((getD t.2.1 (toNat t.2.2.1) (zi zl)).2.2&&(iR t.t.2 t.2.1==0))),()):=by
  simp only[px,Q8,zG,zm,zE,zp];unfold xF;cases c:(cond (Q0 (t.2.2.1>=0)) (Q0 (t.2.2.1<(↑(Io t.2.1):Int))) Q4)
  .exact⟨_,rfl,rfl⟩
  .have h:zK t.2.2.1 (Io t.2.1)=Q3:=by
    cases u:Q0 (t.2.2.1>=0)<;>simp_all[zK]
   rw[h];cases(getD t.2.1 (toNat t.2.2.1) (zi zl)).2.2
   .exact⟨_,rfl,rfl⟩
   .exact⟨_,rfl,rfl⟩
 obtain⟨r,q,s⟩:=d;exact zB e ((a.trans o).ends (z6.of q)) ow s
theorem ok8:zM Wz.P 47 Tryz.f47 1:=bL kw
def F8t:z8:=aN [ak] [Q7] λx=>(dX x.1,())
theorem zpb:FK 47 F8t:=al ok8 λx C b=>Reach.lenA 0 3 zj x.1.2.2.2.1 rfl rfl λh=>Reach.lenA 0 4 zA x.1.t.1 rfl rfl λa=>
 JT (n0:=0) (t:=px) (e:=zpI) (keep:=zkF) (gas:=400) (i:=Mc x.1) Gq ok8 (λid _=>b id) kw (by intro s;cases s<;>kernel_rfl) (Z5 h a)
def zfE:=Wz.add 47 F8t
theorem Gr:zu zfE:=Gq.add zpb
abbrev zkV:=kl [(4,[1,2,19,20,21]),(10,[1,2,30,31])]
inductive yF where
 |h4 (l1:LV) (l19:LV) (i20:Int) (i21:Int) (z0:zn uN)
 |h10 (l1:LV) (i30:Int) (i31:Int) (z0:zn uN)
abbrev zpT:yF->Nat×St
 |.h4 l b i h z=>(4,⟨tm 79 [(1,sl zf l),(2,ptr 0 0),(19,sl zf b),(20,ai i),(21,ai h)],[Qa (bI [] uN z)]⟩)
 |.h10 l x a z=>(10,⟨tm 79 [(1,sl zf l),(2,ptr 0 0),(30,ai x),(31,ai a)],[Qa (bI [] uN z)]⟩)
def Xs(x:aq)(h:Sem zf.sl):Tr (yF⊕aw):=br (cond (!dX (x.1,x.2.1,x.2.2.1,x.2.2.2.1,x.t.1,zr x.t.2)) Q3 ((↑(Io h):Int)!=(↑(Io x.2.1):Int))) (re (ai 1) []) (Q9 (yF.h4 h h (↑(Io h):Int) 0 (x,())))
def wv:yF->Tr (yF⊕aw)
 | .h4 l x a h z=>
  br (Q0 (h<a))
  (Qc (zK h (Io x)) (br (!bh (x.getD h.toNat (zi zf))) (re (ai 1) []) (Q9 (yF.h4 l x a (Γ Δ (h+1)) z))))
  (Q9 (yF.h10 l (↑l.length:Int) 0 z))
 | .h10 l b i z=>
  let c:=l.getD i.toNat (zi zf)
  let e:=c.1==0
  let g:=zK i (Io z.1.2.1)
  let j:=getD z.1.2.1 i.toNat (zi zl)
  let k:=c.1!=0
  let d:=kr (zr z.1.t.2) z.1.2.1 l
  br (Q0 (i<b))
  (Qc (zK i (Io l)&&bif e then g else Q3) (br (cond e j.2.2 Q4) (re (ai 8) []) (Qc (zK i (Io l)&&bif k then zK i (Io l)&&g else Q3) (br (cond k (c.1!=j.2.1) Q4) (re (ai 5) []) (Q9 (yF.h10 l b (Γ Δ (i+1)) z))))))
  (br (d.1==3&&(d.2.1==0&&(d.2.2==[]&&Q3))) (re (ai 9) []) (re (ai 0) []))
def SG(x:aq)(h:Sem zf.sl):=ao [zj] wv 100000000 (Xs x h)
def ze6:=FT [ak,zf.sl] [zj] λx=>SG x.1 x.2.1
theorem Qt:FK 48 ze6:=Gr.T1 (f:=Tryz.f48) (keep:=zkV) (e:=zpT)
def eN(t:aq)(row:LV):zw->Int->zq
 |[],_=>if((kr t.t.2 t.2.1 row).1==3&&((kr t.t.2 t.2.1 row).2.1==0&&((kr t.t.2 t.2.1 row).2.2==[]&&Q3)))=Q3 then 9 else 0
 |x::r,i=>if(cond (x.1==0) ((getD t.2.1 i.toNat (zi zl)).2.2) Q4)=Q3 then 8 else if(cond (x.1!=0) (x.1!=(getD t.2.1 i.toNat (zi zl)).2.1) Q4)=Q3 then 5 else eN t row r (i+1)
def gH(t:aq)(row:LV):zw->Int->zq
 |[],_=>eN t row row 0
 |x::r,i=>if(!bh x)=Q3 then 1 else gH t row r (i+1)
def cy(t:aq)(row:Sem zf.sl):zq:=if(cond (!dX t) Q3 ((↑(Io row):Int)!=(↑(Io t.2.1):Int)))=Q3 then 1 else gH t row row 0
theorem RK{b:aq}(h:dX b=Q3):Io b.2.1<=8:=by
 unfold dX at h;rw[aF]at h;have h:=h.1;cases x:zU b.1
 .rw[x]at h;simp at h
 .rw[x]at h;simp at h;omega
theorem UR(t:aq)(x:LV):SG t x=Q1 (cy t x,()):=by
 unfold cy;by_cases h:(cond (!dX t) Q3 ((↑(Io x):Int)!=(↑(Io t.2.1):Int)))=Q3
 .rw[ze h];refine zO (r:=(.int .i64 1,[])) ?_ rfl;simp only[Xs,zm,aQ,Q8];exact ze h
 rw[zg h];have d:dX t=Q3/\Io x=Io t.2.1:=by
  cases d:dX t
  .rw[d]at h;simp at h
  .rw[d]at h;simp at h;exact⟨rfl,ow⟩
 have p:=RK d.1;have g:∀(m i:Nat),Io x-i=m->i<=Io x->z6 wv (m+1) (.h10 x (Io x) i (t,())) (.int .i64 (eN t x (x.drop i) i),[]):=by
  intro m
  induction m with
  | zero=>
   intro i k l;obtain rfl:i=Io x:=by omega
   rw[jM,eN];refine z6.of ?_;simp only[wv,Q8,zG,zm,zE,zp];split<;>rfl
  | succ m n=>
   intro i k l;have a:i<Io x:=by omega
   have j:getD x i (zi zf)=x[i]:=cP _ _ a;rw[fO a,eN];have b:(wv (.h10 x (Io x) i (t,()))).val=if(cond (x[i].1==0) ((getD t.2.1 i (zi zl)).2.2) Q4)=Q3 then Q1 (.inr (.int .i64 8,[]))else if(cond (x[i].1!=0) (x[i].1!=(getD t.2.1 i (zi zl)).2.1) Q4)=Q3 then Q1 (.inr (.int .i64 5,[]))else Q1 (.inl (.h10 x (Io x) ((i+1:Nat):Int) (t,()))):=by
    simp only[wv,Q8,zL a,zz a,zz (show i<Io t.2.1 by omega),aK,j,eB,Bool.cond_self,zh,zt i (show i<aJ by unfold aJ;omega)]
   simp only[aK];split
   next c=>exact(z6.of (by rw[b,ze c])).mono ow
   .rename_i c;split
    next e=>exact(z6.of (by rw[b,zg c,ze e])).mono ow
    next e=>exact(zN.of (by rw[b,zg c,zg e])).ends (n (i+1) ow ow)
 have o:∀(m i:Nat),Io x-i=m->i<=Io x->z6 wv (m+Io x+2) (.h4 x x (Io x) i (t,())) (.int .i64 (gH t x (x.drop i) i),[]):=by
  intro m
  induction m with
  | zero=>
   intro i k l;obtain rfl:i=Io x:=by omega
   rw[jM,gH];refine((zN.of (s':=.h10 x (Io x) ((0:Nat):Int) (t,())) ?_).ends (g (Io x) 0 ow ow)).mono ow;simp only[wv,Q8,zG,zE,zp];rfl
  | succ m n=>
   intro i k l;have a:i<Io x:=by omega
   have j:getD x i (zi zf)=x[i]:=cP _ _ a;rw[fO a,gH];have b:(wv (.h4 x x (Io x) i (t,()))).val=if(!bh x[i])=Q3 then Q1 (.inr (.int .i64 1,[]))else Q1 (.inl (.h4 x x (Io x) ((i+1:Nat):Int) (t,()))):=by
    simp only[wv,Q8,zL a,zz a,aK,j,zh,zt i (show i<aJ by unfold aJ;omega)]
   split
   next c=>exact(z6.of (by rw[b,ze c])).mono ow
   next c=>exact((zN.of (by rw[b,zg c])).ends (n (i+1) ow ow)).mono ow
 refine zB (s:=.h4 x x (Io x) ((0:Nat):Int) (t,())) ?_ (o (Io x) 0 ow ow) ow rfl;simp only[Xs,zm,aQ,Q8];exact zg h
def zfF:=zfE.add 48 ze6
theorem TI:zu zfF:=Gr.add Qt
def zmt:z8:=aN [ak,zf.sl] [zj] λx=>(cy x.1 x.2.1,())
theorem zhc:FK 48 zmt:=ii Qt λx=>UR x.1 x.2.1
def CI:=zfF.add 48 zmt
theorem TJ:zu CI:=TI.add zhc
open Go.RowKit Go.Lib in
theorem zio:FK 268 (zY [.str,.str] [.bool] (λx=>Io x.2.1==1) λx=>(Q0 (0<=Lib.indexByte x.1 (x.2.1.headD 0)),())):=by
 refine fq (E:=CI) ⟨Tryz.f268,kw,kw,kw⟩ λx y p h=>?_
 unfold fH at h;split at h
 .simp only[Q8]at h;split at h
  .rename_i g;simp only[bj]at h;subst h;obtain⟨s,d,u⟩:=x;have g:(Io d==1)=Q3:=g
   match d,g with
   | [c],_=>
    intro C w U ρ v _ b l a i m;have n:=b.len
    match v,n,b with
    | [q,t],_,b=>
     have j:=b.rv 0 (.str s) q rfl rfl;have k:=b.rv 1 (.str [c]) t rfl rfl;cases j with
     |str _ z=>
     cases k with
     |str _ o=>
     refine(Tryz.strings_Contains_one ⟨s.toArray⟩ c w).mono ?_;rintro e A ⟨rfl,rfl⟩;exact fa l a i m (Below.refl _ _) (.bool _)
  .cases h
 .simp at h
def F63:z8:=zY [.str,.str] [.bool] (λx=>Io x.2.1==1) λx=>(Q0 (0<=Lib.indexByte x.1 (x.2.1.headD 0)),())
theorem zoP:FK 268 F63:=zio
def F89:z8:=zY [.str] [.str] (λx=>Q0 (Io x.1<=140737488355328)&&x.1.all λb=>Q0 (b.toNat<128)) λx=>(Lib.toUpperA x.1,())
open Go.RowKit Go.Lib in
theorem zo9:FK 291 F89:=by
 refine fq (E:=CI) ⟨Tryz.f291,kw,kw,kw⟩ λx B z h=>?_
 unfold fH at h;split at h
 .simp only[Q8]at h;split at h
  .rename_i a;simp only[bj]at h;subst h;obtain⟨s,u⟩:=x;have a:(Q0 (Io s<=140737488355328)&&s.all λb=>Q0 (b.toNat<128))=Q3:=a;simp only[aF,aR]at a;obtain⟨i,a⟩:=a;intro C w U ρ v _ d m c k n;have q:=d.len
   match v,q,d with
   | [A],_,d=>
    have l:=d.rv 0 (.str s) A rfl rfl;cases l with
    |str _ y=>
    refine(Tryz.strings_ToUpper_ascii ⟨s.toArray⟩ w (by simpa[ByteArray.size]using i) (λj b p=>?_)).mono ?_
    .have t:b∈s:=fD (by simpa using p);simp only[dJ,aR]at a;exact a b t
    .rintro e D ⟨rfl,o⟩;have g:=fa (r:=.str (Lib.toUpperA s)) m c k n o (.str _ (by simpa[Lib.toUpperA]using y));exact g
  .cases h
 .simp at h
def ov:Nat->Nat->zH
 |0,_=>[]
 |f+1,n=>if n<10 then[UInt8.ofNat (48+n)]else ov f (n/10)++[UInt8.ofNat (48+n%10)]
def sU(n:Int):zH:=if n<0 then 45::ov 20 n.natAbs else ov 20 n.natAbs
theorem In:∀(f n:Nat),n<10^f->0<f->ov f n=Lib.decDigits n
 |0,_,_,h=>by omega
 | f+1,n,h,_=>by
  rw[ov,Lib.decDigits];split
  .rfl
  .rename_i a;have x:0<f:=by
    cases f with
    |zero=>simp at h;omega
    |succ f=>omega
   rw[In f (n/10) (by rw[pM]at h;omega) x]
theorem Co:∀(f n:Nat),(ov f n).length<=f
 |0,_=>by simp[ov]
 | f+1,n=>by
  rw[ov];split
  .simp
  .have:=Co f (n/10);simp;omega
theorem Hd(n:Int):(sU n).length<=21:=by unfold sU;have:=Co 20 n.natAbs;split<;>simp<;>omega
theorem XH(n:Int)(h:cZ .i64 n):Lib.itoa n=sU n:=by
 have x:-9223372036854775808<=n:=h.1;have a:n<=9223372036854775807:=h.2;unfold Lib.itoa sU;split
 .rw[In 20 _ ow ow]
 .rw[In 20 _ ow ow];congr 1;omega
def zmC:z8:=zY [zj,zj] [.str] (λx=>x.2.1==10) λx=>(sU x.1,())
open Go.RowKit Go.Lib in
theorem zhl:FK 333 zmC:=by
 refine fq (E:=CI) ⟨Tryz.f333,kw,kw,kw⟩ λx I D h=>?_
 unfold fH at h;split at h
 .simp only[Q8]at h;split at h
  .rename_i g;simp only[bj]at h;subst h;obtain⟨n,b,u⟩:=x;have g:(b==10)=Q3:=g;simp only[bd]at g;subst g;intro C w U ρ v _ c s a l m;have A:=c.len
   match v,A,c with
   | [F,G],_,c=>
    have o:=c.rv 0 (.int .i64 n) F rfl rfl;have p:=c.rv 1 (.int .i64 10) G rfl rfl;cases o with
    |int _ _ i=>
    cases p;have q:Rv w U (λ_=>Q2) (.tab .u64 mH) (.pointer (Q1 ⟨5,0,Q2⟩)):=m.gl 5;have d:Lib.TabIs Tryz.prog w "internal/strconv.uint64pow10" .u64 Lib.pow10Tab:=by
     cases q with
     |tab _ _ _ T H t J=>
     have y:Tryz.prog.globalNamed "internal/strconv.uint64pow10"=Q1 5:=by kernel_rfl
     have B:Lib.pow10Tab=mH:=by decide+kernel
     unfold Lib.TabIs World.var?;rw[y,B];simp only[Option.bind_some,t]
    refine(Tryz.strconv_FormatInt_10 n i.1 i.2 w d).mono ?_;rintro e L ⟨rfl,k,os,rfl⟩;rw[XH n i];exact fa (r:=.str (sU n)) s a l m ⟨rfl,rfl,rfl,by show w.heap.size<=(w.heap++os).size;simp,λj z=>by show(w.heap++os)[j]?=w.heap[j]?;rw[Array.getElem?_append_left z]⟩ (.str _ (by have:=Hd n;unfold aJ;omega))
  .cases h
 .simp at h
theorem wc(o n:zH):∀(k:Nat)(s:zH),(Lib.replaceK o n k s).length<=Io s+k*Io n
 |0,s=>by simp[Lib.replaceK]
 | k+1,s=>by
  rw[Lib.replaceK];split
  .omega
  .have:=wc o n k (s.drop ((Lib.index s o).toNat+Io o));simp only[gS,pQ,List.length_drop]at this|-;rw[hI];omega
theorem lN(s o n:zH):(Lib.replaceAll s o n).length<=Io s+(Io s+1)*Io n:=by
 unfold Lib.replaceAll Lib.replace;split
 .omega
 .refine aX (wc o n _ s) ?_;have h:=Lib.count_le s o;have:Lib.replaceNum s o (-1)=Lib.count s o:=by unfold Lib.replaceNum;rw[ze (.inl ow)]
  rw[this];have:=gC (Io n) h;omega
def wb(s o n:zH):Bool:=Q0 (Io s<=4000000000)&&(Q0 (1<=Io o)&&Q0 (Io n<=1000))
def zmD:z8:=zY [.str,.str,.str] [.str] (λx=>wb x.1 x.2.1 x.2.2.1) λx=>(Lib.replaceAll x.1 x.2.1 x.2.2.1,())
open Go.RowKit Go.Lib in
theorem zhm:FK 334 zmD:=by
 refine fq (E:=CI) ⟨Tryz.f334,kw,kw,kw⟩ λx Z S h=>?_
 unfold fH at h;split at h
 .simp only[Q8]at h;split at h
  .rename_i c;simp only[bj]at h;subst h;obtain⟨s,o,n,u⟩:=x;have c:wb s o n=Q3:=c;unfold wb at c;simp only[aF,aR]at c;obtain⟨I,d,g⟩:=c;intro C w U ρ v _ a G i t y;have L:=a.len
   match v,L,a with
   | [W,X,v3],_,a=>
    have B:=a.rv 0 (.str s) W rfl rfl;have D:=a.rv 1 (.str o) X rfl rfl;have F:=a.rv 2 (.str n) v3 rfl rfl;cases B with
    |str _ N=>
    cases D with
    |str _ O=>
    cases F with
    |str _ P=>
    have k:Rv w U (λ_=>Q2) .gint (.pointer (Q1 ⟨0,0,Q2⟩)):=y.gl 0;have l:∃m:Int,w.cell? ⟨0,0,Q2⟩=Q1 (.int .i64 m):=by
     cases k with
     |gint m _ T Y _ H _=>exact⟨m,by simp[World.cell?,H]⟩
    obtain⟨m,M⟩:=l;have J:=Lib.countB_le (⟨o.toArray⟩:ByteArray) (by simpa[ByteArray.size]using d) (Io s) (⟨s.toArray⟩:ByteArray) (by simp[ByteArray.size]);have j:(⟨s.toArray⟩:ByteArray).size=Io s:=by simp[ByteArray.size]
    have q:(⟨n.toArray⟩:ByteArray).size=Io n:=by simp[ByteArray.size]
    have A:Lib.countB (⟨s.toArray⟩:ByteArray) ⟨o.toArray⟩*Io n<=4000000000*1000:=F9 ow g;refine(Tryz.strings_ReplaceAll ⟨s.toArray⟩ ⟨o.toArray⟩ ⟨n.toArray⟩ m w (by rw[j];omega) M (by simpa[ByteArray.size]using d) (by rw[j,q];omega)).mono ?_;rintro e w' ⟨rfl,b⟩;refine fa (r:=.str (Lib.replaceAll s o n)) G i t y b (.str _ ?_);have z:=lN s o n;have p:(Io s+1)*Io n<=4000000001*1000:=F9 ow g;unfold aJ;omega
  .cases h
 .simp at h
def zmB:z8:=zY [.sl .str,.str] [.str] (λx=>Q0 (Io x.1<=140737488355328)&&Q0 ((Lib.join x.1 x.2.1).length<=140737488355328)) λx=>(Lib.join x.1 x.2.1,())
open Go.RowKit Go.Lib in
theorem zhk:FK 332 zmB:=by
 refine fq (E:=CI) ⟨Tryz.f332,kw,kw,kw⟩ λx h0 W d=>?_
 unfold fH at d;split at d
 .simp only[Q8]at d;split at d
  .rename_i k;simp only[bj]at d;subst d;obtain⟨l,h,u⟩:=x;have k:(Q0 (Io l<=140737488355328)&&Q0 ((Lib.join l h).length<=140737488355328))=Q3:=k;simp only[aF,aR]at k;obtain⟨t,k⟩:=k;have P:aJ=9223372036854775807:=rfl;intro C w U ρ B _ p J i A L;have O:=p.len
   match B,O,p with
   | [X,Y],_,p=>
    have G:=p.rv 0 (.sl .str l) X rfl rfl;have M:=p.rv 1 (.str h) Y rfl rfl;cases M with
    |str _ T=>
    generalize y:l=l0 at G k t p;cases G with
    | sl0 _ a c=>
     subst y;refine(Tryz.strings_Join_none a c ⟨h.toArray⟩ w).mono ?_;rintro e Z ⟨rfl,rfl⟩;exact fa (r:=.str []) J i A L (Below.refl _ _) (.str _ sw)
    | sl _ _ b o c v D hm N hU m F=>
     subst y;have d:∀(j:Nat) x,(l.map λs=>(⟨s.toArray⟩:ByteArray))[j]?=Q1 x->w.cell? ⟨b,o+j,Q2⟩=Q1 (.string x):=by
      intro j x n;simp only[dt,dq]at n;obtain⟨s,S,rfl⟩:=n;obtain⟨z,rfl⟩:=cR.1 S;have H:=m j 0 z (by simp[Sh.size]);have I:=F j z 0 (.str l[j]) rfl;simp only[Sh.size,Nat.mul_one,pL]at H;rw[H];generalize v j 0=vv at I;cases I;rfl
     have g:(l.map λs=>(⟨s.toArray⟩:ByteArray)).map (·.data.toList)=l:=by
      simp[uz]
     have n:=Tryz.strings_Join b o c (l.map λs=>(⟨s.toArray⟩:ByteArray)) ⟨h.toArray⟩ w d N (by simpa using t) (by simpa using D) (by rw[g];exact k);rw[g]at n;simp only[cz]at n;refine n.mono ?_;rintro e Z ⟨rfl,q⟩;exact fa (r:=.str (Lib.join l h)) J i A L q (.str _ ow)
  .cases d
 .simp at d
def sP:=CI.addL [(268,F63),(291,F89),(333,zmC),(334,zmD),(332,zmB)]
theorem jk:zu sP:=TJ.addL<|fc zoP<|fc zo9<|fc zhl<|fc zhm<|fc zhk iw
theorem Reach.promNil{fn:FuncId}{s:St}(e:Sh)(H:∀id,C.ρ0 id=Q2)(h:Reach E C fn t s (λr h=>(r,h)=(.nils,[]))):Reach E C fn t s (λr h=>(r,h)=(.vec 0,[.vec e []])):=by
 intro b z a w U ρ F G J I;obtain⟨A,y,B,⟨v,r,T,p,X,L,O,n,W,q,P,k⟩,l,M,N⟩:=h b z a w U ρ F G J I;cases O;cases n with
 |nils i=>
 have c:∀id o b,o=(AO.vec e []:AO)\/o=AO.dead->¬af (λid=>if id=0 then Q1 (.slice i 0 0)else Q2) id o b:=by
  rintro id o b ho ⟨h3,x,h4,h5⟩;rcases ho with rfl|rfl
  .simp only at h4;split at h4
   .cases h4;cases i<;>simp[bJ]at h5
   .cases h4
  .simp[AO.owns]at h3
 have g:∀id,(([AO.vec e []]:List AO).getD id .dead)=(ite (id=0) (AO.vec e []) AO.dead):=by
  intro id;cases id<;>simp
 refine⟨A,y,B,⟨_,_,_,p,λid=>if id=0 then Q1 (.slice i 0 0)else Q2,L,rfl,.vec 0 _ sw (by simp[Value.oneCell']),⟨λid=>?_,λj S b o=>?_,λid b o=>?_⟩,λid m=>?_,λid v u=>?_,k⟩,l,M,N⟩
 .show bm y p _ id (([AO.vec e []]:List AO).getD id .dead);rw[g];split
  next D=>subst D;exact⟨i,0,sw,sw,.inl ⟨rfl,rfl⟩⟩
  .trivial
 .exfalso;have d:af (λid=>if id=0 then Q1 (.slice i 0 0)else Q2) j (([AO.vec e []]:List AO).getD j .dead) b:=o;rw[g]at d;split at d
  .exact c _ _ _ (.inl rfl) d
  .exact c _ _ _ (.inr rfl) d
 .exfalso;have d:af (λid=>if id=0 then Q1 (.slice i 0 0)else Q2) id (([AO.vec e []]:List AO).getD id .dead) b:=o;rw[g]at d;split at d
  .exact c _ _ _ (.inl rfl) d
  .exact c _ _ _ (.inr rfl) d
 .simp at m;simp;omega
 .rw[H id]at u;cases u
def bG:Tr zQ->List Item×List Item×St
 |.ok (.fork _ k h s)=>(k,h,s)
 |_=>([],[],⟨[],[]⟩)
abbrev KD:Nat->aT:=λ_=>{ }
abbrev Lc(l:List za):Tr zQ:=run sP 0 KD (Func.results Tryz.f204).toList 300 (bq Tryz.f204) (aY (Func.ntmps Tryz.f204) [.sl .expr l] [])
theorem zdk:zM sP.P 204 Tryz.f204 1:=bL kw
theorem zu7(l:List za):Lc l=.ok (.fork l.isEmpty (bG (Lc l)).1 (bG (Lc l)).2.1 (bG (Lc l)).2.2):=kw
theorem zsZ(l:List za):run sP 0 KD (Func.results Tryz.f204).toList 300 (bG (Lc l)).1 (bG (Lc l)).2.2=.ok (.ret .nils []):=kw
theorem zs0(l:List za):run sP 0 KD (Func.results Tryz.f204).toList 300 (bG (Lc l)).2.1 (bG (Lc l)).2.2=.chk (Q0 (Io l<=1073741824)) (.ok (.ret (.vec 0) [.vec .expr l])):=kw
def G53:eW [Q1 (.sl .expr)]:=λx h=>match h with
 |[]=>.chk (Q0 (Io x.1<=1073741824)) (.ok (.vec 0,[.vec .expr x.1]))
 |_=>.err
def F53:z8:=aW [Q1 (.sl .expr)] G53
theorem zoF:FK 204 F53:=by
 refine dc zdk λx j i a C b=>?_
 unfold G53 at a;split at a
 .simp only[Q8]at a;split at a
  .rename_i d;simp only[bj]at a;subst a;obtain⟨l,u⟩:=x;refine zF (n0:=0) jk zdk b (zu7 l) ?_;refine⟨λc=>?_,?_⟩
   .have e:l=[]:=List.isEmpty_iff.1 c;refine Reach.weaken (Q:=λr h=>(r,h)=(.vec 0,[.vec .expr []])) (Reach.promNil .expr (λid=>b id sw) (zF (n0:=0) jk zdk b (zsZ l) rfl)) ?_;intro r h g;cases g;refine⟨_,?_,λ_ _ _ _ h=>h⟩;show(AV.vec 0,[AO.vec Q5 []])=(AV.vec 0,[AO.vec Q5 l]);rw[e]
   .exact zF (n0:=0) jk zdk b (zs0 l) (ft d rfl)
  .cases a
 .simp at a
abbrev Lb(l:aM):Tr zQ:=run sP 0 KD (Func.results Tryz.f156).toList 300 (bq Tryz.f156) (aY (Func.ntmps Tryz.f156) [.sl zl l] [])
theorem zdi:zM sP.P 156 Tryz.f156 1:=bL kw
theorem zuP(l:aM):Lb l=.ok (.fork l.isEmpty (bG (Lb l)).1 (bG (Lb l)).2.1 (bG (Lb l)).2.2):=kw
theorem zsT(l:aM):run sP 0 KD (Func.results Tryz.f156).toList 300 (bG (Lb l)).1 (bG (Lb l)).2.2=.ok (.ret .nils []):=kw
theorem zsU(l:aM):run sP 0 KD (Func.results Tryz.f156).toList 300 (bG (Lb l)).2.1 (bG (Lb l)).2.2=.chk (Q0 (Io l<=1073741824)) (.ok (.ret (.vec 0) [.vec zl l])):=kw
def G32:eW [Q1 (.sl zl)]:=λx h=>match h with
 |[]=>.chk (Q0 (Io x.1<=1073741824)) (.ok (.vec 0,[.vec zl x.1]))
 |_=>.err
def F32:z8:=aW [Q1 (.sl zl)] G32
theorem zom:FK 156 F32:=by
 refine dc zdi λx j i a C b=>?_
 unfold G32 at a;split at a
 .simp only[Q8]at a;split at a
  .rename_i d;simp only[bj]at a;subst a;obtain⟨l,u⟩:=x;refine zF (n0:=0) jk zdi b (zuP l) ?_;refine⟨λc=>?_,?_⟩
   .have e:l=[]:=List.isEmpty_iff.1 c;refine Reach.weaken (Q:=λr h=>(r,h)=(.vec 0,[.vec zl []])) (Reach.promNil zl (λid=>b id sw) (zF (n0:=0) jk zdi b (zsT l) rfl)) ?_;intro r h g;cases g;refine⟨_,?_,λ_ _ _ _ h=>h⟩;show(AV.vec 0,[AO.vec zl []])=(AV.vec 0,[AO.vec zl l]);rw[e]
   .exact zF (n0:=0) jk zdi b (zsU l) (ft d rfl)
  .cases a
 .simp at a
def zjK:=sP.addL [(204,F53),(156,F32)]
theorem LQ:zu zjK:=jk.addL<|fc zoF<|fc zom iw
def Vb(c:za->Bool):z8:=zY [.expr] [.expr] (λx=>c x.1) λx=>(x.1,())
def Tz(c:za->Bool):cd:=zjK.add 146 (Vb c)
variable {x:za->Bool}
theorem Cw(h:FK 146 (Vb x)):zu (Tz x):=LQ.add h
abbrev zre:Nat->aT:=λj=>if j=3 then{slots:=[1,2,10,11]}else{ }
abbrev Sz(i h:Int)(j:zH)(x a:Int)(b c:zH)(l:List (Sem Q5)):St:={
 tmps:=
  (tm 26 [(1,ptr 0 0),(2,ptr 1 0),(10,ai i),(11,ai h)]),
 heap:=
  [Qa [str j,ai x,ai a,str b,str c,AV.vec 2],
   Qa [str [],ai 0,ai 0,str [],str [],nils],AO.vec Q5 l]}
theorem Pp(c:za->Bool):zM (Tz c).P 146 Tryz.f146 1:=bL kw
theorem zuQ(c:za->Bool)(o:zH)(v:V)(s:zH)(l:List za):rn (Tz c) 0 zre Tryz.f146 [zI Q5 (za.mk o v s l)] []=
 Qc (Q0 (Io l<=1073741824)) (Tr.ok (zQ.head 3 (aa Tryz.f146 3) (Sz (↑l.length:Int) 0 o v.1 v.2.1 v.2.2 s l))):=kw
theorem YT(c:za->Bool)(h i:Int)(j:zH)(x a:Int)(b d:zH)(l:List (Sem Sh.expr)):rh (Tz c) 0 zre Tryz.f146 3 (Sz h i j x a b d l)=
 br (Q0 (i<h))
 (chk (zK i (Io l))
  (chk (decide (i.toNat<Io l))
   (chk (c (zr (l.getD i.toNat (zi Sh.expr))))
    (chk (zK i (Io l))
     (chk (decide (i.toNat<Io l))
      (Tr.ok
       (zQ.head 3 (aa Tryz.f146 3)
        (Sz h (Γ Δ (i+1)) j x a b d
         (l.set i.toNat
          (zr (l.getD i.toNat (zi Q5))))))))))))
 (Tr.ok
  (zQ.ret (agg [str j,ai x,ai a,str b,str d,AV.vec 0]) [AO.vec Q5 l])):=kw
theorem ztS(d:FK 146 (Vb x))(c:∀id,C.ρ0 id=Q2)(o:zH)(v:V)(s:zH)(l:List za)(p:Io l<=1073741824)(b:l.all x=Q3):
  ∀(k i:Nat),Io l-i=k->i<=Io l->Reach (Tz x) C 146 (aa Tryz.f146 3) (Sz (Io l) i o v.1 v.2.1 v.2.2 s l) (λr h=>aS h [.expr] r=Q1 (za.mk o v s l,())):=by
 intro k
 induction k with
 | zero=>
  intro i n m;obtain rfl:i=Io l:=by omega
  refine zF (n0:=0) (Cw d) (Pp x) (λid _=>c id) (YT x _ _ _ _ _ _ _ _) ?_;simp only[zG,Tr.val_brF];rfl
 | succ k I=>
  intro i n m;have a:i<Io l:=by omega
  refine zF (n0:=0) (Cw d) (Pp x) (λid _=>c id) (YT x _ _ _ _ _ _ _ _) ?_;have e:x l[i]=Q3:=dJ.1 b _ (bp a);have g:Q0 ((i:Int).toNat<Io l)=Q3:=by simpa using a
  have j:l.set (i:Int).toNat l[i]=l:=by simp
  simp only[zL a,zz a,cP l _ a,za.eta,Tr.val_brT,Tr.val_chkT,e,g,j,zt i um];exact I (i+1) ow ow
def oe:Nat->za->Bool
 |0,_=>Q4
 |n+1,.mk _ _ _ l=>Q0 (Io l<=1073741824)&&l.all (oe n)
theorem NV:∀n,FK 146 (Vb (oe n))
 |0=>eH ⟨Tryz.f146,(Pp (λ_=>Q4)).1,(Pp (λ_=>Q4)).2.1,(Pp (λ_=>Q4)).2.2.1⟩ (λ_=>rfl)
 | n+1=>by
  refine aO (E:=Tz (oe n)) (Pp _) λx h C a=>?_
  obtain⟨⟨o,v,s,l⟩,u⟩:=x;have h:(Q0 (Io l<=1073741824)&&l.all (oe n))=Q3:=h;simp only[aF,aR]at h;refine zF (n0:=0) (Cw (NV n)) (Pp _) (λid _=>a id) (zuQ _ o v s l) ?_;refine ft (by simpa using h.1) ?_;exact ztS (NV n) a o v s l h.1 h.2 _ 0 rfl (aL _)
def F33:z8:=Vb (oe 16)
theorem zon:FK 146 F33:=NV 16
def mi:=zjK.add 146 F33
theorem jl:zu mi:=LQ.add zon
abbrev ja:Sh:=.pr .str .str
abbrev io:Sh:=.pr .str .expr
abbrev ar:Sh:=.pr .str (.pr .str (.pr .str (.pr (.sl .str) (.pr (.sl zl) (.pr .str (.pr (.sl .str) (.pr (.sl ja) (.pr .expr (.pr (.sl zf) (.pr (.sl io) (.pr .expr .str)))))))))))
abbrev zJ:=Sem ar
def zcC(x:zJ):zJ:=(x.1,x.2.1,x.2.2.1,x.2.2.2.1,x.2.2.2.2.1,x.2.2.2.2.2.1,x.2.2.2.2.2.2.1,x.2.2.2.2.2.2.2.1,zr x.2.2.2.2.2.2.2.2.1,x.2.2.2.2.2.2.2.2.2.1,x.2.2.2.2.2.2.2.2.2.2.1,zr x.2.2.2.2.2.2.2.2.2.2.2.1,x.2.2.2.2.2.2.2.2.2.2.2.2)
theorem Ri(x:zJ):zcC x=x:=by unfold zcC;rw[zm,zm]
abbrev zgv:Nat->aT:=λj=>if j=2 then{slots:=[0,2,4]}else{ }
abbrev EE(s:TS)(i j:Int)(h:List UInt8):St:={tmps:=(tm 37 [(0,str s),(2,ptr 0 0),(4,ai i)]),heap:=[Qa [ai j,str h]]}
theorem YG:zM (mi).P 336 Tryz.f336 1:=bL kw
theorem zp3(x:TS):rn mi 0 zgv Tryz.f336 [zI Q6 x] []=Tr.ok (zQ.head 2 (aa Tryz.f336 2) (EE x 1 0 [])):=kw
theorem zdn(s:TS)(i j:Int)(h:List UInt8):rh mi 0 zgv Tryz.f336 2 (EE s i j h)=let a:=Γ Δ (i+1);let x:=(↑(Io s):Int);let b:=Qg (i.toNat-toNat 1) (Qh (toNat 1) s);br (Q0 (i<x)) (Qc (zK i (Io s)) (br ((↑(getD s i.toNat 0).toNat:Int)!=39) (Tr.ok (zQ.head 2 (aa Tryz.f336 2) (EE s a j h))) (Qc (cond (Q0 (Γ Δ (i+1)<x)) (zK a (Io s)) Q3) (br (cond (Q0 (Γ Δ (i+1)<x)) ((↑(getD s a.toNat 0).toNat:Int)==39) Q4) (Tr.ok (zQ.head 2 (aa Tryz.f336 2) (EE s (Γ Δ (Γ Δ (i+1)+1)) j h))) (Qc (Q0 (0<=1)&&Q0 (1<=i)&&Q0 (i<=x)) (Qc (wb b oq [39]) (Tr.ok (zQ.ret (tup [agg [ai 3,str (Lib.replaceAll b oq [39])],ai a]) [])))))))) (Tr.ok (zQ.ret (tup [agg [ai 0,str []],ai 0]) [])):=kw
def fi:Nat->(Sem Sh.str)->Int->Int->(List UInt8)->dd×zq
 |0,_,_,_,_=>default
 |n+1,s,i,j,h=>(if Q0 (i<(↑(Io s):Int))=Q3 then
 if((↑(getD s i.toNat 0).toNat:Int)!=39)=Q3 then fi n s (Γ Δ (i+1)) j h
 else
  if
    (bif Q0 (Γ Δ (i+1)<(↑(Io s):Int))then(↑(getD s (Γ Δ (i+1)).toNat 0).toNat:Int)==39
     else Q4)=
     Q3 then
   fi n s (Γ Δ (Γ Δ (i+1)+1)) j h
  else((3,Lib.replaceAll (Qg (i.toNat-toNat 1) (Qh (toNat 1) s)) oq [39]),Γ Δ (i+1))
else((0,[]),0))
def jt:Nat->(Sem Sh.str)->Int->Int->(List UInt8)->Bool
 |0,_,_,_,_=>Q4
 |n+1,s,i,j,h=>(if Q0 (i<(↑(Io s):Int))=Q3 then
 if zK i (Io s)=true then
  if((↑(getD s i.toNat 0).toNat:Int)!=39)=Q3 then jt n s (Γ Δ (i+1)) j h
  else
   if (cond (decide (Γ Δ (i+1) < (↑(Io s):Int))) (zK (Γ Δ (i+1)) (Io s)) true)=true then
    if
      (bif Q0 (Γ Δ (i+1)<(↑(Io s):Int))then(↑(getD s (Γ Δ (i+1)).toNat 0).toNat:Int)==39
       else Q4)=
       Q3 then
     jt n s (Γ Δ (Γ Δ (i+1)+1)) j h
    else
     if(Q0 (0<=1)&&Q0 (1<=i)&&Q0 (i<=(↑(Io s):Int)))=Q3 then
      if wb (Qg (i.toNat-toNat 1) (Qh (toNat 1) s)) oq [39]=Q3 then Q3 else Q4
     else Q4
   else Q4
 else Q4
else Q3)
theorem QH{C:ew}(c:∀id,C.ρ0 id=Q2):∀(n:Nat)(s:TS)(i:Int)(j:Int)(x:List UInt8),jt n s i j x=Q3->
  Reach (mi) C 336 (aa Tryz.f336 2) (EE s i j x) (λr h=>aS h [ky,zj] r=Q1 ((fi n s i j x).1,(fi n s i j x).2,()))
 |0,s,i,j,x,a=>by cases a
 | n+1,s,i,j,x,a=>by
  refine zF jl (YG) (λid _=>c id) (zdn _ _ _ _) ?_;rw[jt]at a;generalize b:fi (n+1) s i j x=y;rw[fi]at b
  skip
  repeat' (first|with_reducible refine vA b a (λ_ b a=>?_) (λ_ b a=>?_)|with_reducible refine dH b (λ_ b=>?_) (λ_ b=>?_)|with_reducible refine iL a (λa=>?_)|with_reducible refine zT ?_)
  all_goals first|(cases a;done)|(subst b;first|(change Reach _ _ _ _ _ _;refine QH c n _ _ _ _ ?_<;>exact a)|rfl)
def ig(x:TS):dd×zq:=(fi (Io x+1) x 1 0 [])
def oY(x:TS):Bool:=(jt (Io x+1) x 1 0 [])
def zmF:z8:=zY [Q6] [ky,zj] (λx=>oY x.1) λx=>((ig x.1).1,(ig x.1).2,())
theorem zho:FK 336 zmF:=by
 refine aO (YG) λx h C b=>?_
 unfold oY at h;refine zF jl (YG) (λid _=>b id) (zp3 x.1) ?_;generalize a:ig x.1=y;unfold ig at a
 try simp only[za.eta,zm]
 repeat' (first|with_reducible refine vA a h (λ_ a h=>?_) (λ_ a h=>?_)|with_reducible refine dH a (λ_ a=>?_) (λ_ a=>?_)|with_reducible refine iL h (λh=>?_)|with_reducible refine zT ?_)
 all_goals first|(cases h;done)|(subst a;first|(change Reach _ _ _ _ _ _;refine QH b _ _ _ _ _ ?_<;>exact h)|rfl)
abbrev zq2:Nat->aT:=λ_=>{ }
theorem zgJ:zM (mi).P 321 Tryz.f321 1:=bL kw
theorem zp1(x:Sem Q5):rn mi 0 zq2 Tryz.f321 [zI Q5 x] []=Tr.ok (zQ.ret (AV.bool (cond (za.op x==[]) (cond ((za.v x).1==0&&((za.v x).2.1==0&&((za.v x).2.2==[]&&Q3))) (cond (za.s x==[]) ((↑(za.l x).length:Int)==0) Q4) Q4) Q4)) []):=kw
def ij(x:Sem Q5):Sem Q7:=(cond (za.op x==[]) (cond ((za.v x).1==0&&((za.v x).2.1==0&&((za.v x).2.2==[]&&Q3))) (cond (za.s x==[]) ((↑(za.l x).length:Int)==0) Q4) Q4) Q4)
def zmv:z8:=aN [Q5] [Q7] λx=>(ij x.1,())
theorem zhe:FK 321 zmv:=by
 refine al (zgJ) λx C a=>?_
 refine zF jl (zgJ) (λid _=>a id) (zp1 x.1) ?_;generalize h:ij x.1=y;unfold ij at h
 try simp only[za.eta,zm]
 repeat' (first|with_reducible refine dH h (λ_ h=>?_) (λ_ h=>?_)|with_reducible refine zT ?_)
 all_goals first|(cases hc;done)|(subst h;first|rfl)
abbrev zvP:Nat->aT:=λ_=>{ }
theorem zsM:zM (mi).P 290 Tryz.f290 1:=bL kw
theorem zvo(x:TS):rn mi 0 zvP Tryz.f290 [zI Q6 x] []=Tr.ok (zQ.ret (str x) []):=kw
def my(x:TS):Sem Q6:=(x)
def F88:z8:=aN [Q6] [Q6] λx=>(my x.1,())
theorem zo8:FK 290 F88:=by
 refine al (zsM) λx C a=>?_
 refine zF jl (zsM) (λid _=>a id) (zvo x.1) ?_;generalize h:my x.1=y;unfold my at h
 try simp only[za.eta,zm]
 repeat' (first|with_reducible refine dH h (λ_ h=>?_) (λ_ h=>?_)|with_reducible refine zT ?_)
 all_goals first|(cases hc;done)|(subst h;first|rfl)
abbrev zvM:Nat->aT:=λ_=>{ }
theorem zsI:zM (mi).P 282 Tryz.f282 1:=bL kw
theorem zvl(x:TS):rn mi 0 zvM Tryz.f282 [zI Q6 x] []=Tr.ok (zQ.ret (AV.bool (cond (eo x) (!jw x) Q4)) []):=kw
def cu(x:TS):Sem Q7:=(cond (eo x) (!jw x) Q4)
def F80:z8:=aN [Q6] [Q7] λx=>(cu x.1,())
theorem zo4:FK 282 F80:=by
 refine al (zsI) λx C a=>?_
 refine zF jl (zsI) (λid _=>a id) (zvl x.1) ?_;generalize h:cu x.1=y;unfold cu at h
 try simp only[za.eta,zm]
 repeat' (first|with_reducible refine dH h (λ_ h=>?_) (λ_ h=>?_)|with_reducible refine zT ?_)
 all_goals first|(cases hc;done)|(subst h;first|rfl)
abbrev zrm:Nat->aT:=λ_=>{unroll:=Q3}
theorem zgN:zM (mi).P 225 Tryz.f225 1:=bL kw
theorem zqe(x:dd):rn mi 0 zrm Tryz.f225 [zI ky x] []=let a:=(↑(Io x.2):Int);let h:=Tr.ok (zQ.ret (kb Q4) []);br (x.1==3) (Tr.ok (zQ.ret (AV.bool (bh (2,0,x.2))) [])) (br (x.1==4) (Qc (cond (a==1) (Io x.2==1) Q3) (Tr.ok (zQ.ret (AV.bool (cond (a==1) (Q0 (0<=Lib.indexByte zju (List.headD x.2 0))) Q4)) []))) (br Q3 (Qc Q3 (br (1==x.1) (Tr.ok (zQ.ret (AV.bool (cond (Q0 (a>=1)) (cond (Q0 (a<=16)) ((↑(bv bc bS x.2):Int)==a) Q4) Q4)) [])) (br Q3 (Qc Q3 (br (2==x.1) (Tr.ok (zQ.ret (AV.bool (cond (Q0 (a>=1)) (cond (Q0 (a<=19)) ((↑(bv au au x.2):Int)==a) Q4) Q4)) [])) (br Q4 Tr.err h))) h))) h)):=kw
def cV(x:dd):Sem Q7:=(ite ((x.1==3)=Q3) (bh (2,0,x.2)) (ite ((x.1==4)=Q3) (cond ((↑(Io x.2):Int)==1) (Q0 (0<=Lib.indexByte zju (List.headD x.2 0))) Q4) (ite (Q3=Q3) (ite ((1==x.1)=Q3) (cond (Q0 ((↑(Io x.2):Int)>=1)) (cond (Q0 ((↑(Io x.2):Int)<=16)) ((↑(bv bc bS x.2):Int)==(↑(Io x.2):Int)) Q4) Q4) (ite (Q3=Q3) (ite ((2==x.1)=Q3) (cond (Q0 ((↑(Io x.2):Int)>=1)) (cond (Q0 ((↑(Io x.2):Int)<=19)) ((↑(bv au au x.2):Int)==(↑(Io x.2):Int)) Q4) Q4) (ite (Q4=Q3) default Q4)) Q4)) Q4)))
def sq(x:dd):Bool:=(ite ((x.1==3)=Q3) Q3 (ite ((x.1==4)=Q3) (ite ((cond ((↑(Io x.2):Int)==1) (Io x.2==1) Q3)=Q3) Q3 Q4) (ite (Q3=Q3) (ite (Q3=Q3) (ite ((1==x.1)=Q3) Q3 (ite (Q3=Q3) (ite (Q3=Q3) (ite ((2==x.1)=Q3) Q3 (ite (Q4=Q3) Q4 Q3)) Q4) Q3)) Q4) Q3)))
def zno:z8:=zY [ky] [Q7] (λx=>sq x.1) λx=>(cV x.1,())
theorem zia:FK 225 zno:=by
 refine aO (zgN) λx a C b=>?_
 unfold sq at a;refine zF jl (zgN) (λid _=>b id) (zqe x.1) ?_;generalize h:cV x.1=y;unfold cV at h
 skip
 repeat' (first|with_reducible refine vA h a (λ_ h a=>?_) (λ_ h a=>?_)|with_reducible refine dH h (λ_ h=>?_) (λ_ h=>?_)|with_reducible refine iL a (λa=>?_)|with_reducible refine zT ?_)
 all_goals first|(cases a;done)|(subst h;first|rfl)
def lw:=mi.addL [(336,zmF),(321,zmv),(290,F88),(282,F80),(225,zno)]
theorem ik:zu lw:=jl.addL<|fc zho<|fc zhe<|fc zo8<|fc zo4<|fc zia iw
abbrev zvN:Nat->aT:=λ_=>{ }
theorem zsK:zM (lw).P 287 Tryz.f287 1:=bL kw
theorem zvm(x:Sem Q5):rn lw 0 zvN Tryz.f287 [zI Q5 x] []=Tr.ok (zQ.ret (AV.bool (cond (ij (zr x)) Q3 (dD (zr x)))) []):=kw
def cg(x:Sem Q5):Sem Q7:=(cond (ij x) Q3 (dD x))
def F85:z8:=aN [Q5] [Q7] λx=>(cg x.1,())
theorem zo5:FK 287 F85:=by
 refine al (zsK) λx C a=>?_
 refine zF ik (zsK) (λid _=>a id) (zvm x.1) ?_;generalize h:cg x.1=y;unfold cg at h
 try simp only[za.eta]
 repeat' (first|with_reducible refine dH h (λ_ h=>?_) (λ_ h=>?_)|with_reducible refine zT ?_)
 all_goals first|(cases hc;done)|(subst h;first|rfl)
def zpB(x:bX):Sem Q7:=(cond (cu x.1) (cond (Q0 (x.2.1>=1)) (Q0 (x.2.1<=3)) Q4) Q4)
def ztd(x:Sem ja):Sem Q7:=(cond (cu x.1) (cu x.2) Q4)
abbrev zvR:Nat->aT:=λ_=>{ }
theorem zsN:zM (lw).P 294 Tryz.f294 1:=bL kw
theorem zvp(x:zo):rn lw 0 zvR Tryz.f294 [zI zf x] []=br (!bh x) (Tr.ok (zQ.ret (str []) [])) (br (x.1==1) (Qc (10==10) (Tr.ok (zQ.ret (str (sU x.2.1)) []))) (br (x.1==2) (Qc (wb x.2.2 [39] oq) (Qc (Q0 ([39].length+(Lib.replaceAll x.2.2 [39] oq).length<=1099511627776)) (Qc (Q0 (Io ([39]++Lib.replaceAll x.2.2 [39] oq)+[39].length<=1099511627776)) (Tr.ok (zQ.ret (str ([39]++Lib.replaceAll x.2.2 [39] oq++[39])) []))))) (br (x.1==3) (br (en x==2) (Tr.ok (zQ.ret (str Ik) [])) (Tr.ok (zQ.ret (str Ij) []))) (Tr.ok (zQ.ret (str Ft) []))))):=kw
def ip(x:zo):Sem Q6:=(ite ((!bh x)=Q3) [] (ite ((x.1==1)=Q3) (sU x.2.1) (ite ((x.1==2)=Q3) ([39]++Lib.replaceAll x.2.2 [39] oq++[39]) (ite ((x.1==3)=Q3) (ite ((en x==2)=Q3) Ik Ij) Ft))))
def yA(x:zo):Bool:=(ite ((!bh x)=Q3) Q3 (ite ((x.1==1)=Q3) (ite ((10==10)=Q3) Q3 Q4) (ite ((x.1==2)=Q3) (ite (wb x.2.2 [39] oq=Q3) (ite (Q0 ([39].length+(Lib.replaceAll x.2.2 [39] oq).length<=1099511627776)=Q3) (ite (Q0 (Io ([39]++Lib.replaceAll x.2.2 [39] oq)+[39].length<=1099511627776)=Q3) Q3 Q4) Q4) Q4) Q3)))
def F92:z8:=zY [zf] [Q6] (λx=>yA x.1) λx=>(ip x.1,())
theorem zpd:FK 294 F92:=by
 refine aO (zsN) λx a C b=>?_
 unfold yA at a;refine zF ik (zsN) (λid _=>b id) (zvp x.1) ?_;generalize h:ip x.1=y;unfold ip at h
 try simp only[za.eta,zm]
 repeat' (first|with_reducible refine vA h a (λ_ h a=>?_) (λ_ h a=>?_)|with_reducible refine dH h (λ_ h=>?_) (λ_ h=>?_)|with_reducible refine iL a (λa=>?_)|with_reducible refine zT ?_)
 all_goals first|(cases a;done)|(subst h;first|rfl)
abbrev zvO:Nat->aT:=λ_=>{ }
theorem zsL:zM (lw).P 289 Tryz.f289 1:=bL kw
theorem zvn(x:zJ):rn lw 0 zvO Tryz.f289 [zI ar x] []=Qc (Q0 (Io x.2.1+Io x.2.2.1<=1099511627776)) (Qc (Q0 (Io (x.2.1++x.2.2.1)+Io x.2.2.2.2.2.1<=1099511627776)) (Qc (Q0 (Io (x.2.1++x.2.2.1++x.2.2.2.2.2.1)+Io x.2.2.2.2.2.2.2.2.2.2.2.2<=1099511627776)) (Tr.ok (zQ.ret (AV.bool (cond (x.2.1++x.2.2.1++x.2.2.2.2.2.1++x.2.2.2.2.2.2.2.2.2.2.2.2==[]) (cond (Γ Δ (Γ Δ (Γ Δ (Γ Δ (Γ Δ ((↑(Io x.2.2.2.1):Int)+(↑(Io x.2.2.2.2.1):Int))+(↑(Io x.2.2.2.2.2.2.1):Int))+(↑(Io x.2.2.2.2.2.2.2.1):Int))+(↑(Io x.2.2.2.2.2.2.2.2.2.1):Int))+(↑(Io x.2.2.2.2.2.2.2.2.2.2.1):Int))==0) (cond (ij (zr x.2.2.2.2.2.2.2.2.1)) (ij (zr x.2.2.2.2.2.2.2.2.2.2.2.1)) Q4) Q4) Q4)) [])))):=kw
def eR(x:zJ):Sem Q7:=(cond (x.2.1++x.2.2.1++x.2.2.2.2.2.1++x.2.2.2.2.2.2.2.2.2.2.2.2==[]) (cond (Γ Δ (Γ Δ (Γ Δ (Γ Δ (Γ Δ ((↑(Io x.2.2.2.1):Int)+(↑(Io x.2.2.2.2.1):Int))+(↑(Io x.2.2.2.2.2.2.1):Int))+(↑(Io x.2.2.2.2.2.2.2.1):Int))+(↑(Io x.2.2.2.2.2.2.2.2.2.1):Int))+(↑(Io x.2.2.2.2.2.2.2.2.2.2.1):Int))==0) (cond (ij x.2.2.2.2.2.2.2.2.1) (ij x.2.2.2.2.2.2.2.2.2.2.2.1) Q4) Q4) Q4)
def eG(x:zJ):Bool:=(ite (Q0 (Io x.2.1+Io x.2.2.1<=1099511627776)=Q3) (ite (Q0 (Io (x.2.1++x.2.2.1)+Io x.2.2.2.2.2.1<=1099511627776)=Q3) (ite (Q0 (Io (x.2.1++x.2.2.1++x.2.2.2.2.2.1)+Io x.2.2.2.2.2.2.2.2.2.2.2.2<=1099511627776)=Q3) Q3 Q4) Q4) Q4)
def F87:z8:=zY [ar] [Q7] (λx=>eG x.1) λx=>(eR x.1,())
theorem zo7:FK 289 F87:=by
 refine aO (zsL) λx a C b=>?_
 unfold eG at a;refine zF ik (zsL) (λid _=>b id) (zvn x.1) ?_;generalize h:eR x.1=y;unfold eR at h
 try simp only[za.eta]
 repeat' (first|with_reducible refine vA h a (λ_ h a=>?_) (λ_ h a=>?_)|with_reducible refine dH h (λ_ h=>?_) (λ_ h=>?_)|with_reducible refine iL a (λa=>?_)|with_reducible refine zT ?_)
 all_goals first|(cases a;done)|(subst h;first|rfl)
abbrev zvU:Nat->aT:=λ_=>{unroll:=Q3}
theorem zsR:zM (lw).P 301 Tryz.f301 1:=bL kw
theorem zvt(x:TS):rn lw 0 zvU Tryz.f301 [zI Q6 x] []=let b:=(↑(Io x):Int);let c:=Qh (toNat 0) x;let d:=Qc (zK 0 (Io x)) (br ((↑(getD x (toNat 0) 0).toNat:Int)==39) (Qc (oY x) (Tr.ok (zQ.ret (tup [agg [ai (ig x).1.1,str (ig x).1.2],ai (ig x).2]) []))) (Qc (Q0 (0<=0)&&Q0 (0<=1)&&Q0 (1<=b)) (Tr.ok (zQ.ret (tup [agg [ai 4,str (Qg (toNat 1-toNat 0) c)],ai 1]) []))));let a:=(↑(bv bc bS x):Int);let h:=(↑(bv au au x):Int);br Q3 (Qc Q3 (br (Q0 (a>0)) (Qc (Q0 (0<=0)&&Q0 (0<=a)&&Q0 (a<=b)) (Tr.ok (zQ.ret (tup [agg [ai 1,str (Qg (a.toNat-toNat 0) c)],ai a]) []))) (br Q3 (Qc Q3 (br (Q0 (h>0)) (Qc (Q0 (0<=0)&&Q0 (0<=h)&&Q0 (h<=b)) (Tr.ok (zQ.ret (tup [agg [ai 2,str (Qg (h.toNat-toNat 0) c)],ai h]) []))) (br Q4 Tr.err d))) d))) d:=kw
def bQ(x:TS):dd×zq:=(ite (Q3=Q3) (ite (Q0 ((↑(bv bc bS x):Int)>0)=Q3) ((1,Qg ((↑(bv bc bS x):Int).toNat-toNat 0) (Qh (toNat 0) x)),(↑(bv bc bS x):Int)) (ite (Q3=Q3) (ite (Q0 ((↑(bv au au x):Int)>0)=Q3) ((2,Qg ((↑(bv au au x):Int).toNat-toNat 0) (Qh (toNat 0) x)),(↑(bv au au x):Int)) (ite (Q4=Q3) default (ite (((↑(getD x (toNat 0) 0).toNat:Int)==39)=Q3) ((ig x).1,(ig x).2) ((4,Qg (toNat 1-toNat 0) (Qh (toNat 0) x)),1)))) (ite (((↑(getD x (toNat 0) 0).toNat:Int)==39)=Q3) ((ig x).1,(ig x).2) ((4,Qg (toNat 1-toNat 0) (Qh (toNat 0) x)),1)))) (ite (((↑(getD x (toNat 0) 0).toNat:Int)==39)=Q3) ((ig x).1,(ig x).2) ((4,Qg (toNat 1-toNat 0) (Qh (toNat 0) x)),1)))
def lc(x:TS):Bool:=(ite (Q3=Q3) (ite (Q3=Q3) (ite (Q0 ((↑(bv bc bS x):Int)>0)=Q3) (ite ((Q0 (0<=0)&&Q0 (0<=(↑(bv bc bS x):Int))&&Q0 ((↑(bv bc bS x):Int)<=(↑(Io x):Int)))=Q3) Q3 Q4) (ite (Q3=Q3) (ite (Q3=Q3) (ite (Q0 ((↑(bv au au x):Int)>0)=Q3) (ite ((Q0 (0<=0)&&Q0 (0<=(↑(bv au au x):Int))&&Q0 ((↑(bv au au x):Int)<=(↑(Io x):Int)))=Q3) Q3 Q4) (ite (Q4=Q3) Q4 (ite (zK 0 (Io x)=Q3) (ite (((↑(getD x (toNat 0) 0).toNat:Int)==39)=Q3) (ite (oY x=Q3) Q3 Q4) (ite ((Q0 (0<=0)&&Q0 (0<=1)&&Q0 (1<=(↑(Io x):Int)))=Q3) Q3 Q4)) Q4))) Q4) (ite (zK 0 (Io x)=Q3) (ite (((↑(getD x (toNat 0) 0).toNat:Int)==39)=Q3) (ite (oY x=Q3) Q3 Q4) (ite ((Q0 (0<=0)&&Q0 (0<=1)&&Q0 (1<=(↑(Io x):Int)))=Q3) Q3 Q4)) Q4))) Q4) (ite (zK 0 (Io x)=Q3) (ite (((↑(getD x (toNat 0) 0).toNat:Int)==39)=Q3) (ite (oY x=Q3) Q3 Q4) (ite ((Q0 (0<=0)&&Q0 (0<=1)&&Q0 (1<=(↑(Io x):Int)))=Q3) Q3 Q4)) Q4))
def F99:z8:=zY [Q6] [ky,zj] (λx=>lc x.1) λx=>((bQ x.1).1,(bQ x.1).2,())
theorem zph:FK 301 F99:=by
 refine aO (zsR) λx a C b=>?_
 unfold lc at a;refine zF ik (zsR) (λid _=>b id) (zvt x.1) ?_;generalize h:bQ x.1=y;unfold bQ at h
 skip
 repeat' (first|with_reducible refine vA h a (λ_ h a=>?_) (λ_ h a=>?_)|with_reducible refine dH h (λ_ h=>?_) (λ_ h=>?_)|with_reducible refine iL a (λa=>?_)|with_reducible refine zT ?_)
 all_goals first|(cases a;done)|(subst h;first|rfl)
abbrev zrM:Nat->aT:=λj=>if j=3 then{slots:=[1,5,8,9,10],prom:=[(5,Q2,.str)]}else{ }
abbrev Nv(x:LS)(h i:Int)(l:LS):St:={tmps:=(tm 23 [(1,AV.clo (Fn.func 290) [] []),(5,AV.vec 0),(8,sl Q6 x),(9,ai h),(10,ai i)]),heap:=[AO.vec Q6 l]}
theorem zdm:zM (lw).P 299 Tryz.f299 2:=bL kw
theorem zvr(x:Sem Sh.str.sl):rn lw 0 zrM Tryz.f299 [zI Sh.str.sl x,AV.clo (Fn.func 290) [] []] []=Tr.ok (zQ.head 3 (aa Tryz.f299 3) (Nv x (↑(Io x):Int) 0 [])):=kw
theorem YX(h:LS)(x i:Int)(l:LS):rh lw 0 zrM Tryz.f299 3 (Nv h x i l)=br (Q0 (i<x)) (Qc (zK i (Io h)) (Qc (Q0 (Io l+[my (h.getD i.toNat (zi Q6))].length<=1073741824)) (Tr.ok (zQ.head 3 (aa Tryz.f299 3) (Nv h x (Γ Δ (i+1)) (l++[my (h.getD i.toNat (zi Q6))])))))) (Qc (Q0 (Io l<=140737488355328)&&Q0 ((Lib.join l fh).length<=140737488355328)) (Tr.ok (zQ.ret (str (Lib.join l fh)) []))):=kw
def dV:List (Sem Q6)->Int->List (Sem Q6)->Sem Q6
 |[],_,l=>(Lib.join l fh)
 |x::r,i,l=>(dV r (i+1) (l++[my x]))
def em:List (Sem Q6)->Int->List (Sem Q6)->Bool
 |[],_,l=>(ite ((Q0 (Io l<=140737488355328)&&Q0 ((Lib.join l fh).length<=140737488355328))=Q3) Q3 Q4)
 |x::r,i,l=>(ite (Q0 (Io l+[my x].length<=1073741824)=Q3) (em r (i+1) (l++[my x])) Q4)
theorem zjg(g:∀id,C.ρ0 id=Q2)(c:LS)(n:Io c<=aJ):∀(m i:Nat)(l:LS),Io c-i=m->i<=Io c->em (c.drop i) i l=Q3->
  Reach (lw) C 299 (aa Tryz.f299 3) (Nv c (Io c:Int) (i:Int) l) (λr h=>aS h [Q6] r=Q1 (dV (c.drop i) i l,())):=by
 intro m
 induction m with
 | zero=>
  intro i l k j x;obtain rfl:i=Io c:=by omega
  rw[jM]at x|-;refine zF ik (zdm) (λid _=>g id) (YX _ _ _ _) ?_;rw[em]at x;generalize a:dV [] _ l=y;rw[dV]at a;simp only[zG,Tr.val_brF];repeat' (first|with_reducible refine vA a x (λ_ a x=>?_) (λ_ a x=>?_)|with_reducible refine dH a (λ_ a=>?_) (λ_ a=>?_)|with_reducible refine iL x (λx=>?_)|with_reducible refine zT ?_)
  all_goals first|(cases x;done)|(subst a;first|rfl)
 | succ m I=>
  intro i l k j x;have b:i<Io c:=by omega
  have I:=I (i+1);have d:((i:Int)+1)=((i+1:Nat):Int):=by omega
  have e:=zt i ow;rw[fO b]at x|-;refine zF ik (zdm) (λid _=>g id) (YX _ _ _ _) ?_;rw[em]at x;generalize a:dV (c[i]::c.drop (i+1)) (i:Int) l=y;rw[dV]at a;simp only[zL b,zz b,cP c _ b,e,Tr.val_brT,Tr.val_chkT];clear e
  try simp only[zz b]at a
  simp only[d]at a
  try simp only[zz b]at x
  try simp only[d]at x
  repeat' (first|with_reducible refine vA a x (λ_ a x=>?_) (λ_ a x=>?_)|with_reducible refine dH a (λ_ a=>?_) (λ_ a=>?_)|with_reducible refine iL x (λx=>?_)|with_reducible refine zT ?_)
  all_goals first|(cases x;done)|(subst a;first|(change Reach _ _ _ _ _ _;apply I<;>first|omega|assumption)|rfl)
theorem zbR(a:∀id,C.ρ0 id=Q2)(x l:LS)(b:em x 0 l=Q3):
  Reach (lw) C 299 (aa Tryz.f299 3) (Nv x (Io x:Int) 0 l) (λr h=>aS h [Q6] r=Q1 (dV x 0 l,())):=
 Reach.len 8 (Q6) x rfl λc=>zjg a x c _ 0 l rfl (aL _) b
def gY(x:Sem Sh.str.sl):Sem Q6:=(dV x 0 [])
def nU(x:Sem Sh.str.sl):Bool:=(em x 0 [])
def F97:z8:=Zb [Sh.str.sl] [Q6] [(290,(λx=>nU x.1),λx=>(gY x.1,()))]
theorem zpf:FK 299 F97:=by
 refine NW (zdm) λj c g d x h C b=>?_
 simp only[dO,b5]at d;obtain⟨rfl,rfl,rfl⟩:=d
 replace h:nU x.1=Q3:=h
 unfold nU at h;refine zF ik (zdm) (λid _=>b id) (zvr x.1) ?_;generalize a:gY x.1=y;unfold gY at a
 skip
 repeat' (first|with_reducible refine vA a h (λ_ a h=>?_) (λ_ a h=>?_)|with_reducible refine dH a (λ_ a=>?_) (λ_ a=>?_)|with_reducible refine iL h (λh=>?_)|with_reducible refine zT ?_)
 all_goals first|(cases h;done)|(subst a;first|(change Reach _ _ _ _ _ _;apply zbR b<;>first|assumption|exact h)|rfl)
def QW:=lw.addL [(287,F85),(294,F92),(289,F87),(301,F99),(299,F97)]
theorem xh:zu QW:=ik.addL<|fc zo5<|fc zpd<|fc zo7<|fc zph<|fc zpf iw
end
end Cad
