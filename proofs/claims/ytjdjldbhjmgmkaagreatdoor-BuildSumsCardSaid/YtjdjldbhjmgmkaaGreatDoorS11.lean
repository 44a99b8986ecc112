/- Expressions. -/
import Derived.Test.YtjdjldbhjmgmkaaGreatDoorS10
namespace Cad
open Go Go.Proofs
open List renaming length→Io,drop→Qh,take→Qg
open IntKind renaming wrap→Γ,i64→Δ
open Tr renaming chk→Qc,«to»→Q9,val→Q8
open AO renaming box→Qa
open Sh renaming bool→Q7,str→Q6,expr→Q5
open Bool renaming false→Q4,true→Q3
open Option renaming none→Q2,some→Q1
open Decidable renaming decide→Q0
open Int (toNat)
open List (getD)
open Tr (chk br re)
open AV (nils agg tup ptr kb str sl)
noncomputable section
abbrev je:List (zH×AV):=[(iw,.clo (.func 229) [] []),(uD,.clo (.func 230) [] []),(ni,.clo (.func 231) [] []),([61],.clo (.func 233) [] []),([60],.clo (.func 234) [] []),([43],.clo (.func 155) [] []),([45],.clo (.func 235) [] []),(po,.clo (.func 236) [] [])]
abbrev zvR:Nat->aP:=λ_=>{ }
theorem zsj:zM Gh.P 180 Tryz.f180 0:=bL kw
theorem zuT:(run Gh 0 zvR (Func.results Tryz.f180).toList 400 (bq Tryz.f180) (aW (Func.ntmps Tryz.f180) [] [])).val=Q1 (zO.ret (AV.mp 0) [AO.fmap je]):=kw
def G23:eX []:=λ_ h=>match h with
 |[]=>.ok (.mp 0,[.fmap je])
 |_=>.err
def F23:z8:=aS [] G23
theorem zos:FK 180 F23:=by
 refine da zsj λx c b h C a=>?_
 unfold G23 at h;split at h
 .simp only[Q8,bg]at h;subst h;exact nR (n0:=0) w9 zsj a zuT rfl
 .simp at h
def opV(o:zH)(x y:V):V:=if(o==iw)=Q3 then FI x y else if(o==uD)=Q3 then vOr x y else if(o==ni)=Q3 then SR x y else if(o==[61])=Q3 then mS x y else if(o==[60])=Q3 then te x y else if(o==[43])=Q3 then mD x y else if(o==[45])=Q3 then mT x y else if(o==po)=Q3 then Ku x y else(0,0,[])
def opC(o:zH):Bool:=if(o==iw)=Q3 then Q3 else if(o==uD)=Q3 then Q3 else if(o==ni)=Q3 then Q3 else if(o==[61])=Q3 then Q3 else if(o==[60])=Q3 then Q3 else if(o==[43])=Q3 then Q3 else if(o==[45])=Q3 then Q3 else if(o==po)=Q3 then Q3 else Q4
def opL(o:zH)(x y:V)(h:List AO):Option zO:=if(o==iw)=Q3 then Q1 (.ret (zL zf (FI x y)) h)else if(o==uD)=Q3 then Q1 (.ret (zL zf (vOr x y)) h)else if(o==ni)=Q3 then Q1 (.ret (zL zf (SR x y)) h)else if(o==[61])=Q3 then Q1 (.ret (zL zf (mS x y)) h)else if(o==[60])=Q3 then Q1 (.ret (zL zf (te x y)) h)else if(o==[43])=Q3 then Q1 (.ret (zL zf (mD x y)) h)else if(o==[45])=Q3 then Q1 (.ret (zL zf (mT x y)) h)else if(o==po)=Q3 then Q1 (.ret (zL zf (Ku x y)) h)else Q2
def zjj(g:aN->zt->za->V)(c:aN->zt->za->Bool):eX [Q2,Q1 .expr]:=λx h=>match x,h with
 | (.agg [.sl (.pr .str (.pr (.int .i64) .bool)) cols,.sl (.pr (.int .i64) (.pr (.int .i64) .str)) row,.mp 0],e,_),[.fmap [(k1,.clo (.func 229) [] []),(k2,.clo (.func 230) [] []),(k3,.clo (.func 231) [] []),(k4,.clo (.func 233) [] []),(k5,.clo (.func 234) [] []),(k6,.clo (.func 155) [] []),(k7,.clo (.func 235) [] []),(k8,.clo (.func 236) [] [])]]=>
  .chk (k1==iw&&(k2==uD&&(k3==ni&&(k4==[61]&&(k5==[60]&&(k6==[43]&&(k7==[45]&&(k8==po)))))))) (.chk (c cols row e) (.ok (zL zf (g cols row e),[.fmap je])))
 |_,_=>.err
def SW(g:aN->zt->za->V)(c:aN->zt->za->Bool):z8:=aS [Q2,Q1 .expr] (zjj g c)
def TA(g:aN->zt->za->V)(c:aN->zt->za->Bool):cg:=Gh.add 181 (SW g c)
variable {h:aN->zt->za->V}{c:aN->zt->za->Bool}
theorem Cx(x:FK 181 (SW h c)):zw (TA h c):=w9.add x
theorem YK(g:aN->zt->za->V)(c:aN->zt->za->Bool):zM (TA g c).P 181 Tryz.f181 2:=bL kw
theorem zkm(g:aN->zt->za->V)(c:aN->zt->za->Bool)(h:LC)(x:LV)(o:zH)(v:V)(s:zH):(run (TA g c) 1 unr (Func.results Tryz.f181).toList 600 (bq Tryz.f181) (aW (Func.ntmps Tryz.f181) [agg [sl zl h,sl zf x,AV.mp 0],zL Q5 (.mk o v s [])] [AO.fmap je])).val=if(o==ou)=Q3 then Q1 (.ret (zL zf v) [.fmap je])else if(o==eL)=Q3 then(ite ((cond (Q0 (ay h s<0)) Q3 (Q0 (ay h s>=(↑x.length:Int))))=Q3) (Q1 (.ret (zL zf (0,0,[])) [.fmap je])) (ite (zK (ay h s) (Io x)=Q3) (Q1 (.ret (zL zf (x.getD (toNat (ay h s)) (zi zf))) [.fmap je])) Q2))else opL o (0,0,[]) (0,0,[]) [.fmap je]:=kw
theorem zkn(g:aN->zt->za->V)(c:aN->zt->za->Bool)(h:LC)(x:LV)(o:zH)(v:V)(s:zH)(a:za):(run (TA g c) 1 unr (Func.results Tryz.f181).toList 600 (bq Tryz.f181) (aW (Func.ntmps Tryz.f181) [agg [sl zl h,sl zf x,AV.mp 0],zL Q5 (.mk o v s [a])] [AO.fmap je])).val=if(o==ou)=Q3 then Q1 (.ret (zL zf v) [.fmap je])else if(o==eL)=Q3 then(ite ((cond (Q0 (ay h s<0)) Q3 (Q0 (ay h s>=(↑x.length:Int))))=Q3) (Q1 (.ret (zL zf (0,0,[])) [.fmap je])) (ite (zK (ay h s) (Io x)=Q3) (Q1 (.ret (zL zf (x.getD (toNat (ay h s)) (zi zf))) [.fmap je])) Q2))else if c h x (.mk a.op a.v a.s a.l)=Q3 then opL o (g h x (.mk a.op a.v a.s a.l)) (0,0,[]) [.fmap je]else Q2:=kw
theorem zko(g:aN->zt->za->V)(c:aN->zt->za->Bool)(h:LC)(x:LV)(o:zH)(v:V)(s:zH)(a b:za):(run (TA g c) 1 unr (Func.results Tryz.f181).toList 600 (bq Tryz.f181) (aW (Func.ntmps Tryz.f181) [agg [sl zl h,sl zf x,AV.mp 0],zL Q5 (.mk o v s [a,b])] [AO.fmap je])).val=if(o==ou)=Q3 then Q1 (.ret (zL zf v) [.fmap je])else if(o==eL)=Q3 then(ite ((cond (Q0 (ay h s<0)) Q3 (Q0 (ay h s>=(↑x.length:Int))))=Q3) (Q1 (.ret (zL zf (0,0,[])) [.fmap je])) (ite (zK (ay h s) (Io x)=Q3) (Q1 (.ret (zL zf (x.getD (toNat (ay h s)) (zi zf))) [.fmap je])) Q2))else if c h x (.mk a.op a.v a.s a.l)=Q3 then(ite (c h x (.mk b.op b.v b.s b.l)=Q3) (opL o (g h x (.mk a.op a.v a.s a.l)) (g h x (.mk b.op b.v b.s b.l)) [.fmap je]) Q2)else Q2:=kw
variable {a:Option zO}
theorem qY{Φ:zO->Prop}{c:Bool}{b:Option zO}(h:c=Q3->gS Φ a)(x:c=Q4->gS Φ b):gS Φ (ite (c=Q3) a b):=by
 cases c
 .simpa using x rfl
 .simpa using h rfl
variable {E:cg}{C:eA}{t:List Item}
theorem yi{k:FuncId}{f:Func}{Q:AV->List AO->Prop}{n n0:Nat}(c:zw E)(d:zM E.P k f n)(b:∀id,n0<=id->C.ρ0 id=Q2){keep:Nat->aP}{x:Nat}
   {s:St}  (e:(run E n0 keep f.results.toList x t s).val=a) (h:gS (ke E C k Q) a):Reach E C k t s Q:=
 zF c d b rfl (by rw[e];exact h)
theorem xR{o:zH}{x y:V}{h:List AO}(b:opC o=Q3):gS (ke E C 181 (λr d=>(r,d)=(zL zf (opV o x y),h))) (opL o x y h):=by
 generalize c:opV o x y=z;unfold opC at b;unfold opV at c;unfold opL;repeat' (refine qY (λa=>?_) (λa=>?_)<;>first|(rw[ze a]at c;try rw[ze a]at b)|(rw[zg (nG a)]at c;try rw[zg (nG a)]at b))
 all_goals first|(cases b;done)|(subst c;rfl)
def sG(g:aN->zt->za->V)(c:LC)(h:LV):za->V
 | .mk o v s l=>if (o==ou)=Q3 then v else
  if(o==eL)=Q3 then(ite ((cond (Q0 (ay c s<0)) Q3 (Q0 (ay c s>=(↑h.length:Int))))=Q3) (0,0,[]) (h.getD (toNat (ay c s)) (zi zf)))else
  match l with
  |[]=>opV o (0,0,[]) (0,0,[])
  |[a]=>opV o (g c h a) (0,0,[])
  |[a,b]=>opV o (g c h a) (g c h b)
  |_=>(0,0,[])
def wG(c:aN->zt->za->Bool)(h:LC)(x:LV):za->Bool
 |.mk _ _ _ (_::_::_::_)=>Q4
 | .mk o _ s l=>if (o==ou)=Q3 then Q3 else
  if(o==eL)=Q3 then(ite ((cond (Q0 (ay h s<0)) Q3 (Q0 (ay h s>=(↑x.length:Int))))=Q3) Q3 (zK (ay h s) (Io x)))else
  match l with
  |[]=>opC o
  |[a]=>if c h x a=Q3 then opC o else Q4
  |[a,b]=>if c h x a=Q3 then(ite (c h x b=Q3) (opC o) Q4)else Q4
  |_=>Q4
theorem zhX(p:FK 181 (SW h c)):FK 181 (SW (sG h) (wG c)):=by
 refine da (E:=TA h c) (YK h c) λx w t m C n=>?_
 unfold zjj at m;split at m
 .rename_i j k e u y A B D F G H I;simp only[Q8]at m;split at m
  .rename_i q;split at m
   .rename_i g;simp only[aE,bd]at q;obtain⟨rfl,rfl,rfl,rfl,rfl,rfl,rfl,rfl⟩:=q;simp only[bg]at m;subst m;obtain⟨o,v,s,l⟩:=e
    match l,g with
    | [],g=>
     refine yi (n0:=1) (Cx p) (YK h c) n (zkm h c j k o v s) ?_;generalize i:sG h j k (.mk o v s [])=z;rw[wG]at g;rw[sG]at i;repeat' (first|(subst i;exact xR g)|refine qY (λd=>?_) (λd=>?_)<;>first|(first|rw[ze d]at i g|rw[ze d]at g|rw[ze d]at i)|(first|rw[zg (nG d)]at i g|rw[zg (nG d)]at g|rw[zg (nG d)]at i)|skip)
     all_goals first|(subst i;exact xR g)|(subst i;rfl)|(rw[g]at d;cases d)
    | [a],g=>
     refine yi (n0:=1) (Cx p) (YK h c) n (zkn h c j k o v s a) ?_;generalize i:sG h j k (.mk o v s [a])=z;rw[wG]at g;rw[sG]at i;simp only[za.eta];repeat' (first|(subst i;exact xR g)|refine qY (λd=>?_) (λd=>?_)<;>first|(first|rw[ze d]at i g|rw[ze d]at g|rw[ze d]at i)|(first|rw[zg (nG d)]at i g|rw[zg (nG d)]at g|rw[zg (nG d)]at i)|skip)
     all_goals first|(subst i;exact xR g)|(subst i;rfl)|(cases g;done)|(rw[g]at d;cases d)
    | [a,b],g=>
     refine yi (n0:=1) (Cx p) (YK h c) n (zko h c j k o v s a b) ?_;generalize i:sG h j k (.mk o v s [a,b])=z;rw[wG]at g;rw[sG]at i;simp only[za.eta];repeat' (first|(subst i;exact xR g)|refine qY (λd=>?_) (λd=>?_)<;>first|(first|rw[ze d]at i g|rw[ze d]at g|rw[ze d]at i)|(first|rw[zg (nG d)]at i g|rw[zg (nG d)]at g|rw[zg (nG d)]at i)|skip)
     all_goals first|(subst i;exact xR g)|(subst i;rfl)|(cases g;done)|(rw[g]at d;cases d)
    | _::_::_::_,g=>
     cases g
   .simp at m
  .simp at m
 .simp at m
mutual
def dO:Nat->aN->zt->za->V
 |0=>λ_ _ _=>(0,0,[])
 |n+1=>sG (dO n)
def wF:Nat->aN->zt->za->Bool
 |0=>λ_ _ _=>Q4
 |n+1=>wG (wF n)
end
theorem Vf:∀n,FK 181 (SW (dO n) (wF n))
 | 0=>by
  have h:FK 181 (aS [Q2,Q1 .expr] (λ_ _=>.err)):=da (YK (λ_ _ _=>(0,0,[])) (λ_ _ _=>Q4)) (E:=Gh) λx c b a=>by simp at a
  refine AU (ι:=Unit) (Gs:=λ_ _ _=>.err) (λ_=>h) λx c b a=>?_
  unfold zjj at a;split at a
  .simp[Q8,wF]at a
  .simp at a
 |n+1=>zhX (Vf n)
def F24:z8:=SW (dO 16) (wF 16)
theorem zot:FK 181 F24:=Vf 16
def Gi:=Gh.addL [(180,F23),(181,F24)]
theorem xe:zw Gi:=w9.addL<|fc zos<|fc zot iH
abbrev zvQ:Nat->aP:=λ_=>{ }
theorem zsi:zM (Gi).P 179 Tryz.f179 1:=bL kw
theorem zuS(x:Sem Q5):rn Gi 0 zvQ Tryz.f179 [zL Q5 x] []=Qc (vt 16 (zr x) 1 0) (Tr.ok (zO.ret (AV.bool (iy 16 (zr x) 1 0).1) [])):=kw
def dD(x:Sem Q5):Sem Q7:=(iy 16 x 1 0).1
def yX(x:Sem Q5):Bool:=if vt 16 x 1 0=Q3 then Q3 else Q4
def F22:z8:=zZ [Q5] [Q7] (λx=>yX x.1) λx=>(dD x.1,())
theorem zfB:FK 179 F22:=by
 refine aL (zsi) λx a C b=>?_
 unfold yX at a;refine zF xe (zsi) (λid _=>b id) (zuS x.1) ?_;generalize h:dD x.1=y;unfold dD at h
 try simp only[za.eta]
 repeat' (first|with_reducible refine vz h a (λ_ h a=>?_) (λ_ h a=>?_)|with_reducible refine dG h (λ_ h=>?_) (λ_ h=>?_)|with_reducible refine iO a (λa=>?_)|with_reducible refine zT ?_)
 all_goals(subst h;first|rfl)
abbrev kp7:Nat->aP:=λ_=>{ }
theorem ok7:zM (Gi).P 57 Tryz.f57 1:=bL kw
theorem go7(x:Sem Q5):rn Gi 0 kp7 Tryz.f57 [zL Q5 x] []=Qc (LW 16 (zr x) 14 80) (Tr.ok (zO.ret (agg [str (za.op (AM 16 (zr x) 14 80).1),ai (za.v (AM 16 (zr x) 14 80).1).1,ai (za.v (AM 16 (zr x) 14 80).1).2.1,str (za.v (AM 16 (zr x) 14 80).1).2.2,str (za.s (AM 16 (zr x) 14 80).1),sl Q5 (za.l (AM 16 (zr x) 14 80).1)]) [])):=kw
def oz(x:Sem Q5):Sem Q5:=za.mk (za.op (AM 16 x 14 80).1) (za.v (AM 16 x 14 80).1) (za.s (AM 16 x 14 80).1) (za.l (AM 16 x 14 80).1)
def QX(x:Sem Q5):Bool:=if LW 16 x 14 80=Q3 then Q3 else Q4
def F7:z8:=zZ [Q5] [Q5] (λx=>QX x.1) λx=>(oz x.1,())
theorem zo7:FK 57 F7:=by
 refine aL (ok7) λx a C b=>?_
 unfold QX at a;refine zF xe (ok7) (λid _=>b id) (go7 x.1) ?_;generalize h:oz x.1=y;unfold oz at h
 try simp only[za.eta]
 repeat' (first|with_reducible refine vz h a (λ_ h a=>?_) (λ_ h a=>?_)|with_reducible refine dG h (λ_ h=>?_) (λ_ h=>?_)|with_reducible refine iO a (λa=>?_)|with_reducible refine zT ?_)
 all_goals(subst h;first|rfl)
def Gj:=Gi.addL [(179,F22),(57,F7)]
theorem xf:zw Gj:=xe.addL<|fc zfB<|fc zo7 iH
abbrev zvS:Nat->aP:=λ_=>{ }
theorem zsm:zM (Gj).P 178 Tryz.f178 2:=bL kw
theorem zuX(h:Sem Q5)(x:Sem zl.sl):rn Gj 0 zvS Tryz.f178 [zL Q5 h,zL zl.sl x] []=let a:=zr h;Qc (yX a) (br (!dD a) (Tr.ok (zO.ret (tup [ai 0,ai 1]) [])) (Qc (bx 16 a x) (Tr.ok (zO.ret (tup [ai (zW 16 a x).1,ai (zW 16 a x).2]) [])))):=kw
def ce(x:Sem Q5)(h:Sem zl.sl):zq×zq:=if(!dD x)=Q3 then(0,1)else((zW 16 x h).1,(zW 16 x h).2)
def In(x:Sem Q5)(h:Sem zl.sl):Bool:=if yX x=Q3 then if(!dD x)=Q3 then Q3 else if bx 16 x h=Q3 then Q3 else Q4 else Q4
def F30:z8:=zZ [Q5,zl.sl] [zj,zj] (λx=>In x.1 x.2.1) λx=>((ce x.1 x.2.1).1,(ce x.1 x.2.1).2,())
theorem zfC:FK 178 F30:=by
 refine aL (zsm) λx a C b=>?_
 unfold In at a;refine zF xf (zsm) (λid _=>b id) (zuX x.1 x.2.1) ?_;generalize h:ce x.1 x.2.1=y;unfold ce at h
 try simp only[za.eta]
 repeat' (first|with_reducible refine vz h a (λ_ h a=>?_) (λ_ h a=>?_)|with_reducible refine dG h (λ_ h=>?_) (λ_ h=>?_)|with_reducible refine iO a (λa=>?_)|with_reducible refine zT ?_)
 all_goals(subst h;first|rfl)
abbrev zvP:Nat->aP:=λ_=>{ }
theorem zsc:zM (Gj).P 111 Tryz.f111 3:=bL kw
theorem zuM(b:Sem Q5)(x:Sem zl.sl)(h:Sem zf.sl):rn Gj 0 zvP Tryz.f111 [zL Q5 b,zL zl.sl x,zL zf.sl h] []=let a:=zr b;Qc (yX a) (br (!dD a) (Tr.ok (zO.ret (agg [ai 0,ai 0,str []]) [])) (Qc (iw==iw&&(uD==uD&&(ni==ni&&([61]==[61]&&([60]==[60]&&([43]==[43]&&([45]==[45]&&po==po))))))) (Qc (wF 16 x h a) (Tr.ok (zO.ret (agg [ai (dO 16 x h a).1,ai (dO 16 x h a).2.1,str (dO 16 x h a).2.2]) []))))):=kw
def kx(x:Sem Q5)(h:Sem zl.sl)(a:Sem zf.sl):zp:=if(!dD x)=Q3 then(0,0,[])else dO 16 h a x
def Im(x:Sem Q5)(h:Sem zl.sl)(a:Sem zf.sl):Bool:=if yX x=Q3 then if(!dD x)=Q3 then Q3 else if(iw==iw&&(uD==uD&&(ni==ni&&([61]==[61]&&([60]==[60]&&([43]==[43]&&([45]==[45]&&po==po)))))))=Q3 then if wF 16 h a x=Q3 then Q3 else Q4 else Q4 else Q4
def F11:z8:=zZ [Q5,zl.sl,zf.sl] [zf] (λx=>Im x.1 x.2.1 x.2.2.1) λx=>(kx x.1 x.2.1 x.2.2.1,())
theorem zfy:FK 111 F11:=by
 refine aL (zsc) λx a C b=>?_
 unfold Im at a;refine zF xf (zsc) (λid _=>b id) (zuM x.1 x.2.1 x.2.2.1) ?_;generalize h:kx x.1 x.2.1 x.2.2.1=y;unfold kx at h
 try simp only[za.eta]
 repeat' (first|with_reducible refine vz h a (λ_ h a=>?_) (λ_ h a=>?_)|with_reducible refine dG h (λ_ h=>?_) (λ_ h=>?_)|with_reducible refine iO a (λa=>?_)|with_reducible refine zT ?_)
 all_goals(subst h;first|rfl)
def zfR:=Gj.addL [(178,F30),(111,F11)]
theorem TI:zw zfR:=xf.addL<|fc zfC<|fc zfy iH
theorem lZ(d:Int)(h:-1000<=d)(x:d<=1000):Γ Δ d=d:=by rw[dP];omega
theorem WY{P:Nat->za->za->Prop}(Z:∀N e(o t s:zH)(l:List za),(∀y∈l,∃x∈za.l e,P N x y)->Io l<=3->Io t<=45->Io s<=20->P (N+1) e (.mk o ((za.v e).1,(za.v e).2.1,t) s l)):
  ∀(N:Nat)(e:za)(d n:Int),0<=d->d<N->N<=100->∃r m,pG N e d n=Q1 (r,m,())/\P N e r
 |0,_,_,_,U,W,_=>by omega
 | N + 1,e,d,n,U,W,D=>by
  have IH:∀x m,0<d->∃r k,pG N x (Γ Δ (d-1)) m=Q1 (r,k,())/\P N x r:=λx m hd=>by
   rw[lZ _ ow ow];exact WY Z N x (d-1) m ow ow ow
  generalize hg:(λO S T=>Lm (pG N O S T))=g;generalize hc:(λO S T=>(pG N O S T).isSome)=c
  have L:∀(k i:Nat)(n:Int)(a:List za)(z:zo pF)(o t s:zH),i+k=3->Io a=i->(∀y∈a,∃x∈za.l e,P N x y)->
    ∃m r M,zY (wv g c) m (.h10 d n (i:Int) (e,()) z (o,(za.v e).1,(za.v e).2.1,t,s,a,())) (.tup [.agg [.str o,.int .i64 (za.v e).1,.int .i64 (za.v e).2.1,.str t,.str s,.vec 0],.int .i64 M],[.vec .expr r])/\m<=k+1/\(∀y∈r,∃x∈za.l e,P N x y)/\Io r<=3:=by
   intro k
   induction k with
   | zero=>
    intro i n a z o t s hi ha A;refine⟨1,a,n,zY.of ?_,ow,A,ow⟩;have D:Q0 ((i:Int)<3)=Q4:=by simp;omega
    simp only[wv,Q8,D,ax,Bool.cond_self,zE,zm]
   | succ k ih=>
    intro i n a z o t s hi ha A;by_cases p:(cond (Q0 ((i:Int)<(↑(za.l e).length:Int))) (cond (Q0 ((i:Int)<3)) (cond (Q0 (d>0)) (Q0 (n>0)) Q4) Q4) Q4)=Q3
    .have w:i<(za.l e).length/\0<d:=by
      cases U:Q0 ((i:Int)<(↑(za.l e).length:Int))<;>cases W:Q0 ((i:Int)<3)<;>cases D:Q0 (d>0)<;>simp_all
     obtain⟨r,m,h,b⟩:=IH (za.l e)[i] n w.2;have gx:g (za.l e)[i] (Γ Δ (d-1)) n=(r,m):=by rw[<-hg];simp only[h];rfl
     have cx:c (za.l e)[i] (Γ Δ (d-1)) n=Q3:=by rw[<-hc];simp only[h];rfl
     obtain⟨m2,r2,n2,H,k2,I,J⟩:=ih (i+1) m (a++[r]) z o t s ow sg (λy q=>by
      rcases cz.1 q with q|q
      .exact A y q
      .rw[dU]at q;exact⟨_,bp w.1,q▸b⟩)
     refine⟨m2+1,r2,n2,(zJ.of ?_).ends H,?_,I,J⟩
     .have hn:(Io a+[zr r].length<=1073741824):=by simp;omega
      have G:zK (i:Int) (za.l e).length=Q3:=by simp[zK,w.1]
      have F:getD (za.l e) (toNat (i:Int)) (zi Q5)=(za.l e)[i]:=by rw[aJ,aY,z6 w.1,bT]
      simp only[wv,Q8,p,G,F,zn,gx,cx,zh];rw[zn]at hn;rw[ze (zy hn),zu i um]
     .omega
    .refine⟨1,a,n,zY.of ?_,ow,A,ow⟩;simp only[wv,Q8];rw[zg p]
  have u:∀(z:zo pF)(o t s:zH),Io t<=45->Io s<=20->∃r m R,zY (wv g c) 101 (.h500008 d (Γ Δ (n-1)) (e,()) z (o,(za.v e).1,(za.v e).2.1,t,s,())) R/\aU R.2 [Q5,zj] R.1=Q1 (r,m,())/\P (N+1) e r:=λz o t s ht B=>by
   obtain⟨m,r,M,H,k2,I,J⟩:=L 3 0 (Γ Δ (n-1)) [] z o t s rfl rfl sw;exact⟨.mk o ((za.v e).1,(za.v e).2.1,t) s r,M,_,((zJ.of rfl).ends H).mono ow,rfl,Z N e o t s r I J ht B⟩
  have Y:∀(z:zo pF)(o s:zH),Io s<=20->∃r m R,zY (wv g c) 102 (.h500006 d n (Q0 ((↑(Io (za.v e).2.2):Int)>45)) (e,()) z (o,(za.v e).1,(za.v e).2.1,(za.v e).2.2,s,())) R/\aU R.2 [Q5,zj] R.1=Q1 (r,m,())/\P (N+1) e r:=λz o s B=>by
   by_cases p:(Io (za.v e).2.2:Int)>45
   .obtain⟨r,m,R,h,b,j⟩:=u z o (Qg (toNat 45-toNat 0) (Qh (toNat 0) (za.v e).2.2)) s sg B;refine⟨r,m,R,(zJ.of ?_).ends h,b,j⟩;have E:Q0 ((45:Int)<=(Io (za.v e).2.2:Int))=Q3:=by simp;omega
    simp only[wv,Q8,zy p,E,zh];rfl
   .obtain⟨r,m,R,h,b,j⟩:=u z o (za.v e).2.2 s ow B;refine⟨r,m,R,(zJ.of ?_).ends h,b,j⟩;simp only[wv,Q8,z7 p,zE,zm]
  have X:∀(z:zo pF)(o:zH),∃r m R,zY (wv g c) 103 (.h500004 d n (Q0 ((↑(Io (za.s e)):Int)>20)) (e,()) z (o,(za.v e).1,(za.v e).2.1,(za.v e).2.2,za.s e,())) R/\aU R.2 [Q5,zj] R.1=Q1 (r,m,())/\P (N+1) e r:=λz o=>by
   by_cases p:(Io (za.s e):Int)>20
   .obtain⟨r,m,R,h,b,j⟩:=Y z o (Qg (toNat 20-toNat 0) (Qh (toNat 0) (za.s e))) sg;refine⟨r,m,R,(zJ.of ?_).ends h,b,j⟩;have C:Q0 ((20:Int)<=(Io (za.s e):Int))=Q3:=by simp;omega
    simp only[wv,Q8,zy p,C,zh];rfl
   .obtain⟨r,m,R,h,b,j⟩:=Y z o (za.s e) ow;refine⟨r,m,R,(zJ.of ?_).ends h,b,j⟩;simp only[wv,Q8,z7 p,zE,zm]
  have e0:pG (N+1) e d n=zqd g c e d n:=by rw[<-hg,<-hc];rfl
  rw[e0];by_cases p:(Io (za.op e):Int)>8
  .obtain⟨r,m,R,h,b,j⟩:=X ([],0,0,[],[],()) (Qg (toNat 8-toNat 0) (Qh (toNat 0) (za.op e)));refine⟨r,m,zA ?_ h ow b,j⟩;have u:Q0 ((8:Int)<=(Io (za.op e):Int))=Q3:=by simp;omega
   simp only[XC,Q8,zy p,u,zh];rfl
  .obtain⟨r,m,R,h,b,j⟩:=X ([],0,0,[],[],()) (za.op e);refine⟨r,m,zA ?_ h ow b,j⟩;simp only[XC,Q8,z7 p,zE,zm]
theorem OU(N:Nat)(e:za)(d n:Int)(x:0<=d)(a:d<N)(b:N<=100):LW N e d n=Q3:=by obtain⟨r,m,h,_⟩:=WY (P:=λ_ _ _=>True) (λ_ _ _ _ _ _ _ _ _ _=>trivial) N e d n x a b;unfold LW;rw[h];rfl
theorem DA{g:za->Int->Int->Bool×Int}{c:za->Int->Int->Bool}{d:Int}(h:∀x n,c x (Γ Δ (d+1)) n=Q3):∀(l:List za)(n:Int),Dz g c d l n=Q3
 |[],_=>rfl
 | x::r,n=>by
  rw[Dz,ze (h x n)];split
  .rfl
  .exact DA h r _
theorem Dy:∀(N:Nat)(e:za)(d n:Int),0<=d->d<=13->14<=d+N->vt N e d n=Q3
 |0,_,_,_,_,_,_=>by omega
 | N+1,e,d,n,b,c,g=>by
  rw[vt];unfold RL;by_cases h:d>12
  .simp[h]
  .have a:Dz (iy N) (vt N) d e.l (Γ Δ (n+1))=Q3:=DA (λx m=>by
    rw[lZ _ ow ow];exact Dy N x (d+1) m ow ow ow) _ _
   repeat' split
   all_goals first|rfl|exact a
abbrev xP:za:=.mk [] (0,0,[]) [] []
theorem PW(N:Nat)(e:za):jB (N+1) e xP=Q3:=by
 rw[jB];unfold JX;have h:Aa (fK N) (jB N) e.l []=Q3:=by
  unfold Aa;split
  .rfl
  .cases e.l<;>rfl
 show(cond (e.op==[]) (cond (eqV e.v (0,0,[])) (cond (e.s==[]) (Aa (fK N) (jB N) e.l []) Q3) Q3) Q3)=Q3;rw[h];cases e.op==[]<;>cases eqV e.v (0,0,[])<;>cases e.s==[]<;>rfl
theorem gp{α:Type}(p:α->Bool):∀(l:List α)(i:Nat),ac p l i=-1\/((i:Int)<=ac p l i/\ac p l i<i+Io l)
 |[],_=>.inl rfl
 | x::r,i=>by
  unfold ac;split
  .exact .inr ⟨ow,sg⟩
  .rcases gp p r (i+1)with h|⟨a,b⟩
   .exact .inl h
   .exact .inr ⟨ow,sg⟩
theorem Ij(l:aN)(s:zH):ay l s=-1\/(0<=ay l s/\ay l s<Io l):=by have:=gp (λc:bR=>c.1==s) l 0;unfold ay;simpa using this
theorem mv(o:zH):(dp o=0/\(o=ou\/o=eL))\/(dp o=1/\(o=ni\/o=po))\/
  (dp o=2/\(o=iw\/o=uD\/o=[61]\/o=[60]\/o=[43]\/o=[45]))\/dp o=-1:=by
 unfold dp Aq;simp only[SI];repeat' split
 all_goals simp_all
theorem xO{g:za->Int->Int->Bool×Int}{e:za}{d i:Int}(h:(AQ g e d i).1=Q3):(Io e.l:Int)=dp e.op/\
  ((e.op=ou\/e.op=eL)\/(pH g d e.l (Γ Δ (i+1))).1=Q3):=by
 unfold AQ at h;split at h
 .cases h
 .rename_i b;have a:(Io e.l:Int)=dp e.op:=by
   cases x:Q0 (d>12)<;>cases c:Q0 (Γ Δ (i+1)>60)<;>simp_all
  refine⟨a,?_⟩;split at h
  next x=>exact .inl (.inl (by simpa using x))
  .split at h
   next x=>exact .inl (.inr (by simpa using x))
   .split at h
    .cases h
    .exact .inr h
theorem vu{g:za->Int->Int->Bool×Int}{d:Int}:∀(l:List za)(n:Int),(pH g d l n).1=Q3->∀x∈l,∃m,(g x (Γ Δ (d+1)) m).1=Q3
 |[],_,_,_,a=>by simp at a
 | y::r,n,h,x,a=>by
  rw[pH]at h;split at h
  .cases h
  .rename_i b;rcases b8.1 a with rfl|a
   .exact⟨n,by simpa using b⟩
   .exact vu r _ h x a
theorem AB{g:za->aN->Int×Int}{c:za->aN->Bool}{b:aN}{o:zH}{d i:Int}{q k:zH}{w:List za}:
    ∀(l:List za)(a:Int)(e:List Int),(∀x∈l,c x b=Q3)->((Io e:Int)+Io l)=dp o->gB g c b o d i q k w l a e=Q3
  | [], a,e,_,j=>by
    have j:(Io e:Int)=dp o:=by simpa using j
    have n:Q0 (ay b k<0)=Q3\/zK (ay b k) (Io b)=Q3:=by
      rcases Ij b k with h|⟨s,m⟩
      · exact .inl (by rw[h];rfl)
      · exact .inr (by simp[zK,s,m])
    have m:o=[61]\/o=[60]->Io e=2:=by
      rintro(rfl|rfl)
      · have:dp [61]=2:=by decide
        omega
      · have:dp [60]=2:=by decide
        omega
    unfold gB;repeat' split
    all_goals first
      |rfl
      |(exfalso;rcases n with h|h<;>simp_all;done)
      | (exfalso
         rename_i z p;have t:=m (by simp_all);rw[t]at p;exact p (by cases A:(e.getD (toNat 0) (zi zj)==e.getD (toNat 1) (zi zj))<;>cases B:(e.getD (toNat 0) (zi zj)==0)<;>rfl))
  | x :: r,a,e,hc,j=>by
    have u:dp o<=2:=by rcases mv o with h|h|h|h<;>omega
    rw[gB,ze (hc x sw)];split
    · rfl
    · rw[ze (by simp at j|-;omega)]
      exact AB r (a+1) _ (λy v=>hc y (by simp[v])) (by simp at j|-;omega)
theorem wC:∀(N:Nat)(e:za)(d n:Int)(c:aN),(iy N e d n).1=Q3->bx N e c=Q3
 |0,_,_,_,_,h=>by cases h
 | N+1,e,d,n,c,h=>by
  rw[iy]at h;obtain⟨g,a⟩:=xO h;rw[bx];unfold BM;refine AB e.l 0 [] (λx b=>?_) (by simpa using g);rcases a with a|a
  .exfalso;have:dp e.op=0:=by
    rcases a with a|a<;>rw[a]<;>decide
   rw[this]at g;have:e.l=[]:=AG ow;rw[this]at b;simp at b
  .obtain⟨m,i⟩:=vu e.l _ a x b;exact wC N x _ _ c i
theorem Fb:∀(N:Nat)(e:za)(d n:Int)(c:aN)(g:zt),(iy N e d n).1=Q3->wF N c g e=Q3
 |0,_,_,_,_,_,h=>by cases h
 | N + 1,.mk o v s l,d,n,c,g,h=>by
  rw[iy]at h;obtain⟨i,k⟩:=xO h;have i:(Io l:Int)=dp o:=i;have k:(o=ou\/o=eL)\/(pH (iy N) d l (Γ Δ (n+1))).1=Q3:=k;have j:∀x∈l,(¬(o=ou\/o=eL))->wF N c g x=Q3:=by
   intro x j w;rcases k with k|k
   .exact(w k).elim
   .obtain⟨m,A⟩:=vu l _ k x j;exact Fb N x _ _ c g A
  have p:(ite ((cond (Q0 (ay c s<0)) Q3 (Q0 (ay c s>=(↑g.length:Int))))=Q3) Q3 (zK (ay c s) (Io g)))=Q3:=by
   split
   .rfl
   .rename_i q;have z:0<=ay c s/\ay c s<Io g:=by
     cases u:Q0 (ay c s<0)
     .rw[u]at q;simp at u q;exact⟨u,q⟩
     .rw[u]at q;simp at q
    simp[zK,z.1,z.2]
  rw[wF];rcases mv o with⟨y,t⟩|⟨y,t⟩|⟨y,t⟩|y
  .have:l=[]:=AG ow;subst this;rcases t with rfl|rfl
   .rfl
   .rw[wG];exact p
  .match l,i,j with
   | [a],_,j=>
    rcases t with rfl|rfl
    .rw[wG];exact(ze (j a sw (by decide))).trans rfl
    .rw[wG];exact(ze (j a sw (by decide))).trans rfl
   |[],i,_=>simp at i;omega
   |_::_::_,i,_=>simp at i;omega
  .match l,i,j with
   | [a,b],_,j=>
    rcases t with rfl|rfl|rfl|rfl|rfl|rfl<;>
     (rw[wG];exact(ze (j a sw (by decide))).trans ((ze (j b sw (by decide))).trans rfl))
   |[],i,_=>simp at i;omega
   |[_],i,_=>simp at i;omega
   |_::_::_::_,i,_=>simp at i;omega
  .omega
theorem tu(e:za):yX e=Q3:=by unfold yX;rw[ze (Dy 16 e 1 0 ow ow ow)]
theorem Oo(e:za):QX e=Q3:=by unfold QX;rw[ze (OU 16 e 14 80 ow ow ow)]
theorem Ln(e:za)(c:aN):In e c=Q3:=by
 unfold In;rw[ze (tu e)];split
 .rfl
 next h=>rw[ze (wC 16 e 1 0 c (by simpa[dD]using h))]
theorem Ll(e:za)(c:aN)(x:zt):Im e c x=Q3:=by
 unfold Im;rw[ze (tu e)];split
 .rfl
 next h=>rw[ze (by decide),ze (Fb 16 e 1 0 c x (by simpa[dD]using h))]
def zm9:z8:=aK [Q5] [Q7] λx=>(dD x.1,())
theorem zhV:FK 179 zm9:=om zfB λx=>tu x.1
def F7t:z8:=aK [Q5] [Q5] λx=>(oz x.1,())
theorem zpf:FK 57 F7t:=om zo7 λx=>Oo x.1
def znj:z8:=aK [Q5,zl.sl] [zj,zj] λx=>((ce x.1 x.2.1).1,(ce x.1 x.2.1).2,())
theorem zh7:FK 178 znj:=om zfC λx=>Ln x.1 x.2.1
def zmO:z8:=aK [Q5,zl.sl,zf.sl] [zf] λx=>(kx x.1 x.2.1 x.2.2.1,())
theorem zhz:FK 111 zmO:=om zfy λx=>Ll x.1 x.2.1 x.2.2.1
def zfS:=zfR.addL [(179,zm9),(57,F7t),(178,znj),(111,zmO)]
theorem xg:zw zfS:=TI.addL<|fc zhV<|fc zpf<|fc zh7<|fc zhz iH
set_option maxHeartbeats 4000000
abbrev uK:List CP:=[.d aj]
abbrev zcA:List CP:=[.d .str,.nil,.d zj,.nil,.nil,.d .str,.d zj,.d zj,.d .str,.d .str,.nil]
abbrev zpW:List CP:=[.d .str,.d (.sl zl),.d zj,.vec zj,.nil,.d .expr]
abbrev zpX:List CP:=[.d .str,.d (.sl zl),.d zj,.vec zj,.vec zB,.d .expr]
def Xq(x:Sem Q5)(h:Sem zl.sl):Tr (Empty⊕au):=Qc (jB 16 (zr x) (za.mk [] (0,0,[]) [] [])) (br (fK 16 (zr x) (za.mk [] (0,0,[]) [] [])) (re (ai 0) []) (br (cond ((ce (zr x) h).2==0) (cond ((ce (zr x) h).1!=3) ((ce (zr x) h).1!=0) Q4) Q4) (re (ai 5) []) (re (ai (ce (zr x) h).2) [])))
def Nq(x:Sem Q5)(h:Sem zl.sl):=an [zj] t0 100000000 (Xq x h)
def zfd:=FT [Q5,zl.sl] [zj] λx=>Nq x.1 x.2.1
theorem Qv:FK 110 zfd:=xg.T1 (f:=Tryz.f110) (keep:=k0) (e:=e0)
abbrev zrQ:Nat->aP:=λj=>if j=3 then{slots:=[1,2,3,4],prom:=[(3,Q1 3,zj)]}else if j=7 then{slots:=[1,2,3,5],prom:=[(3,Q1 4,zB)]}else{ }
inductive KJ where
 |h3 (i4:Int) (z0:zo uK) (z1:zo zcA) (z2:zo zpW)
 |h7 (i5:Int) (z0:zo uK) (z1:zo zcA) (z2:zo zpX)
abbrev zux:KJ->Nat×St
 |.h3 i h x z=>(3,⟨tm 70 [(1,ptr 0 0),(2,ptr 1 0),(3,ptr 2 0),(4,ai i)],[Qa (bI [] uK h),Qa (bI [] zcA x),Qa (bI [3] zpW z),AO.vec zj z.2.2.2.1]⟩)
 |.h7 a h x z=>(7,⟨tm 70 [(1,ptr 0 0),(2,ptr 1 0),(3,ptr 2 0),(5,ai a)],[Qa (bI [] uK h),Qa (bI [] zcA x),Qa (bI [3,4] zpX z),AO.vec zj z.2.2.2.1,AO.vec zB z.t.1]⟩)
def zkH(x:ao):Tr (KJ⊕au):=Q9 (KJ.h3 0 (x,()) ([],0,[],0,0,[],[],()) (lQ x.1,pu x.2.1,x.2.2.1,[],oz (zr x.t.2),()))
def Ki:KJ->Tr (KJ⊕au)
 | .h3 i h b z=>
  let c:=(↑(Io h.1.2.2.2.1):Int)
  let a:=[getD h.1.2.2.2.1 i.toNat (zi zj)]
  br (cond (Q0 (i<c)) (Q0 (i<10)) Q4)
  (Qc (zK i (Io h.1.2.2.2.1)) (Qc (Q0 (Io z.2.2.2.1+Io a<=1073741824)) (Q9 (KJ.h3 (Γ Δ (i+1)) h b (z.1,z.2.1,z.2.2.1,z.2.2.2.1++a,z.t)))))
  (Q9 (KJ.h7 0 h b (z.1,z.2.1,z.2.2.1,z.2.2.2.1,[],z.t)))
 | .h7 x h b z=>
  let c:=(↑(Io h.1.t.1):Int)
  let a:=zK x (Io h.1.t.1)
  let d:=getD h.1.t.1 x.toNat (zi zB)
  let e:=[(d.1,lQ d.2)]
  br (cond (Q0 (x<c)) (Q0 (x<10)) Q4)
  (Qc a (Qc a (Qc (Q0 (Io z.t.1+Io e<=1073741824)) (Q9 (KJ.h7 (Γ Δ (x+1)) h b (z.1,z.2.1,z.2.2.1,z.2.2.2.1,z.t.1++e,z.t.2))))))
  (re (agg [str z.1,sl zl z.2.1,ai z.2.2.1,AV.vec 0,AV.vec 1,str (za.op z.t.2.1),ai (za.v z.t.2.1).1,ai (za.v z.t.2.1).2.1,str (za.v z.t.2.1).2.2,str (za.s z.t.2.1),sl Q5 (za.l z.t.2.1)]) [AO.vec zj z.2.2.2.1,AO.vec zB z.t.1])
def zab(x:ao):=an [aj] Ki 100000000 (zkH x)
def znW:=FT [aj] [aj] λx=>zab x.1
theorem Vk:FK 121 znW:=xg.T1 (f:=Tryz.f121) (keep:=zrQ) (e:=zux)
def iU(x:Sem Q5)(h:Sem zl.sl):zq:=if fK 16 x (za.mk [] (0,0,[]) [] [])=Q3 then 0 else if(cond ((ce x h).2==0) (cond ((ce x h).1!=3) ((ce x h).1!=0) Q4) Q4)=Q3 then 5 else(ce x h).2
theorem PU(e:za)(c:LC):Nq e c=Q1 (iU e c,()):=by
 have h:(Xq e c).val=Q1 (.inr (.int .i64 (iU e c),[])):=by
  unfold iU;simp only[Xq,zn,Q8];rw[ze (PW 15 e)];repeat' split
  all_goals rfl
 exact zP h rfl
def zaa(t:ao):ao:=(lQ t.1,pu t.2.1,t.2.2.1,Qg 10 t.2.2.2.1,(Qg 10 t.t.1).map (λf:bW=>((f.1,lQ f.2):bW)),oz t.t.2)
theorem zac(t:ao):zab t=Q1 (zaa t,()):=by
 have g:=zJ.all (t:=Ki) 1 (λi=>.h3 (i:Int) (t,()) ([],0,[],0,0,[],[],()) (lQ t.1,pu t.2.1,t.2.2.1,Qg i t.2.2.2.1,oz t.t.2,())) (min 10 (Io t.2.2.2.1)) λi x=>zJ.of (by
  have h:i<Io t.2.2.2.1:=by omega
  simp only[Ki,Q8,zdm (k:=10) (K:=10) rfl x,zx h,zh,aJ];rw[ze sg,zu i um,Kn h (zi zj)])
 have a:zJ Ki 1 (.h3 ((min 10 (Io t.2.2.2.1):Nat):Int) (t,()) ([],0,[],0,0,[],[],()) (lQ t.1,pu t.2.1,t.2.2.1,Qg (min 10 (Io t.2.2.2.1)) t.2.2.2.1,oz t.t.2,())) (.h7 ((0:Nat):Int) (t,()) ([],0,[],0,0,[],[],()) (lQ t.1,pu t.2.1,t.2.2.1,Qg (min 10 (Io t.2.2.2.1)) t.2.2.2.1,[],oz t.t.2,())):=zJ.of (by
  simp only[Ki,Q8,RK (k:=10) (K:=10) rfl,zE,zm];rfl)
 rw[wy]at g a;have b:=zJ.all (t:=Ki) 1 (λi=>.h7 (i:Int) (t,()) ([],0,[],0,0,[],[],()) (lQ t.1,pu t.2.1,t.2.2.1,Qg 10 t.2.2.2.1,(Qg i t.t.1).map (λf:bW=>((f.1,lQ f.2):bW)),oz t.t.2,())) (min 10 (Io t.t.1)) λi x=>zJ.of (by
  have h:i<Io t.t.1:=by omega
  simp only[Ki,Q8,zdm (k:=10) (K:=10) rfl x,zx h,zh,aJ];rw[ze sg,zu i um,Kn h (zi zB),eC];rfl)
 rw[wy]at b;have c:zY Ki 1 (.h7 ((min 10 (Io t.t.1):Nat):Int) (t,()) ([],0,[],0,0,[],[],()) (lQ t.1,pu t.2.1,t.2.2.1,Qg 10 t.2.2.2.1,(Qg 10 t.t.1).map (λf:bW=>((f.1,lQ f.2):bW)),oz t.t.2,())) _:=zY.of (by
  simp only[Ki,Q8,RK (k:=10) (K:=10) rfl,zE,zm];rfl)
 have d:(zkH t).val=Q1 (.inl (.h3 ((0:Nat):Int) (t,()) ([],0,[],0,0,[],[],()) (lQ t.1,pu t.2.1,t.2.2.1,Qg 0 t.2.2.2.1,oz t.t.2,()))):=by
  simp only[zkH,zn,Q8];rfl
 unfold zaa;rw[<-zn (oz t.t.2)];exact zA d (((g.trans a).trans b).ends c) ow rfl
def zfT:=zfS.addL [(110,zfd),(121,znW)]
theorem TJ:zw zfT:=xg.addL<|fc Qv<|fc Vk iH
def zm6:z8:=aK [Q5,zl.sl] [zj] λx=>(iU x.1 x.2.1,())
theorem zhR:FK 110 zm6:=ij Qv λx=>PU x.1 x.2.1
def F5t:z8:=aK [aj] [aj] λx=>(zaa x.1,())
theorem zoZ:FK 121 F5t:=ij Vk λx=>zac x.1
def Wz:=zfT.addL [(110,zm6),(121,F5t)]
theorem Gk:zw Wz:=TJ.addL<|fc zhR<|fc zoZ iH
abbrev zkS:=kJ [(4,[1,27,28,29]),(11,[1,5,59,60,61]),(17,[1,5,71,72,73])]
inductive sH where
 |h4 (l27:LC) (i28:Int) (i29:Int) (z0:zo uK)
 |h11 (l59:LI) (i60:Int) (i61:Int) (z0:zo uK)
 |h17 (l71:LF) (i72:Int) (i73:Int) (z0:zo uK)
abbrev zpZ:sH->Nat×St
 |.h4 l i h z=>(4,⟨tm 110 [(1,ptr 0 0),(27,sl zl l),(28,ai i),(29,ai h)],[Qa (bI [] uK z)]⟩)
 |.h11 d x a z=>(11,⟨tm 110 [(1,ptr 0 0),(5,AV.clo (Fn.func 109) [] [ptr 0 0]),(59,sl zj d),(60,ai x),(61,ai a)],[Qa (bI [] uK z)]⟩)
 |.h17 e b c z=>(17,⟨tm 110 [(1,ptr 0 0),(5,AV.clo (Fn.func 109) [] [ptr 0 0]),(71,sl zB e),(72,ai b),(73,ai c)],[Qa (bI [] uK z)]⟩)
def L8(x:ao):Tr (sH⊕au):=
 let a:=(↑(Io x.2.1):Int)
 br (cond (!zU x.1) Q3 (cond (Q0 (a<1)) Q3 (Q0 (a>8)))) (re (kb Q4) [])
 (Q9 (sH.h4 x.2.1 a 0 (x,())))
def pB:sH->Tr (sH⊕au)
 | .h4 l d i z=>
  let a:=l.getD i.toNat (zi zl)
  br (Q0 (i<d))
  (Qc (zK i (Io l)) (br (cond (!zU a.1) Q3 (cond (Q0 (a.2.1<1)) Q3 (cond (Q0 (a.2.1>3)) Q3 (zV (z.1.1,z.1.2.1,z.1.2.2.1,z.1.2.2.2.1,z.1.t.1,zr z.1.t.2) a.1!=i)))) (re (kb Q4) []) (Q9 (sH.h4 l d (Γ Δ (i+1)) z))))
  (Q9 (sH.h11 z.1.2.2.2.1 (↑(Io z.1.2.2.2.1):Int) 0 z))
 | .h11 b e h z=>
  let a:=b.getD h.toNat (zi zj)
  let j:=(↑(Io z.1.2.1):Int)
  br (Q0 (h<e))
  (Qc (zK h (Io b)) (br (!bif Q0 (a>=0)then Q0 (a<j)else Q4) (re (kb Q4) []) (Q9 (sH.h11 b e (Γ Δ (h+1)) z))))
  (Q9 (sH.h17 z.1.t.1 (↑(Io z.1.t.1):Int) 0 z))
 | .h17 c g x z=>
  let a:=c.getD x.toNat (zi zB)
  let j:=(↑(Io z.1.2.1):Int)
  let k:=getD z.1.2.1 (toNat z.1.2.2.1) (zi zl)
  br (Q0 (x<g))
  (Qc (zK x (Io c)) (br (!bif Q0 (a.1>=0)then Q0 (a.1<j)else Q4) (re (kb Q4) []) (br (!zU a.2) (re (kb Q4) []) (Q9 (sH.h17 c g (Γ Δ (x+1)) z)))))
  (br (cond (Q0 (z.1.2.2.1>=0)) (Q0 (z.1.2.2.1<j)) Q4) (Qc (zK z.1.2.2.1 (Io z.1.2.1)) (br k.2.2 (re (AV.bool (iU (zr z.1.t.2) z.1.2.1==0)) []) (re (kb Q4) []))) (re (kb Q4) []))
def zml(x:ao):=an [Q7] pB 40000000000000000000 (L8 x)
theorem W5{e:Type}{t:e->Tr (e⊕au)}{st:Nat->e}{N:Nat}{b:Nat->Bool}{R:au}(h:∀i,i<N->(t (st i)).val=if b i=Q3 then Q1 (.inl (st (i+1)))else Q1 (.inr R)):
  ((List.range N).all b=Q3/\zJ t N (st 0) (st N))\/((List.range N).all b=Q4/\zY t N (st 0) R):=by
 rcases mF (t:=t) (Φ:=λr=>r=R) 1 st (λi=>b i=Q3) N (λi x _=>by
  cases d:b i
  .exact .inr ⟨sw,R,zY.of (by rw[h i x,d];rfl),rfl⟩
  .exact .inl ⟨rfl,zJ.of (by rw[h i x,d];rfl)⟩)with⟨a,c⟩|⟨a,r,c,rfl⟩
 .exact .inl ⟨by rw[dQ];exact λi x=>a i (pS.1 x),c.mono ow⟩
 .refine .inr ⟨?_,c.mono ow⟩;rw[Bool.eq_false_iff,Ne,dQ];exact λq=>a λi x=>q i (pS.2 x)
def xF(x:Int)(n:Nat):Bool:=bif Q0 (x>=0)then Q0 (x<(n:Int))else Q4
def Oh(t:ao)(i:Nat):Bool:=!(cond (!zU (getD t.2.1 i (zi zl)).1) Q3 (cond (Q0 ((getD t.2.1 i (zi zl)).2.1<1)) Q3 (cond (Q0 ((getD t.2.1 i (zi zl)).2.1>3)) Q3 (zV t (getD t.2.1 i (zi zl)).1!=(i:Int)))))
def zdT(t:ao)(i:Nat):Bool:=xF (getD t.t.1 i (zi zB)).1 (Io t.2.1)&&zU (getD t.t.1 i (zi zB)).2
def dM(t:ao):Sem Q7:=!(cond (!zU t.1) Q3 (cond (Q0 ((↑(Io t.2.1):Int)<1)) Q3 (Q0 ((↑(Io t.2.1):Int)>8))))&&((List.range (Io t.2.1)).all (Oh t)&&((List.range (Io t.2.2.2.1)).all (λi=>xF (getD t.2.2.2.1 i (zi zj)) (Io t.2.1))&&((List.range (Io t.t.1)).all (zdT t)&&(xF t.2.2.1 (Io t.2.1)&&((getD t.2.1 (toNat t.2.2.1) (zi zl)).2.2&&(iU t.t.2 t.2.1==0))))))
theorem zad{t:ao}(v:Io t.2.2.2.1<=aI)(w:Io t.t.1<=aI):zml t=Q1 (dM t,()):=by
 unfold dM;by_cases x:(cond (!zU t.1) Q3 (cond (Q0 ((↑(Io t.2.1):Int)<1)) Q3 (Q0 ((↑(Io t.2.1):Int)>8))))=Q3
 .rw[x];refine zP (r:=(.kb Q4,[])) ?_ rfl;simp only[L8,Q8];exact ze x
 have y:Io t.2.1<=8:=by
  cases p:zU t.1
  .rw[p]at x;simp at x
  .rw[p]at x;simp at x;omega
 have e:(L8 t).val=Q1 (.inl (.h4 t.2.1 (Io t.2.1:Int) ((0:Nat):Int) (t,()))):=by
  simp only[L8,Q8];exact zg x
 rw[gT]at x;rw[x];have z:aI=9223372036854775807:=rfl
 rcases W5 (t:=pB) (R:=(.kb Q4,[])) (N:=Io t.2.1) (st:=λi=>.h4 t.2.1 (Io t.2.1:Int) (i:Int) (t,())) (b:=Oh t) (λi h=>by
  simp only[pB,Q8,zI h,zx h,zh,aJ,zn,aX,zu i (show i<aI by omega)];unfold Oh;split
  next c=>rw[c];rfl
  next c=>rw[gT]at c;rw[c];rfl)with⟨j,m⟩|⟨j,m⟩
 rotate_left
 .rw[j];exact zA e m ow rfl
 have g:=m.trans (zJ.of (s':=.h11 t.2.2.2.1 (Io t.2.2.2.1:Int) ((0:Nat):Int) (t,())) (by
  simp only[pB,Q8,zG,zE,zm];rfl))
 rw[j]
 rcases W5 (t:=pB) (R:=(.kb Q4,[])) (N:=Io t.2.2.2.1) (st:=λi=>.h11 t.2.2.2.1 (Io t.2.2.2.1:Int) (i:Int) (t,())) (b:=λi=>xF (getD t.2.2.2.1 i (zi zj)) (Io t.2.1)) (λi h=>by
  simp only[pB,Q8,zI h,zx h,zh,aJ,zu i (show i<aI by omega)];unfold xF;split
  next c=>rw[yJ]at c;rw[c];rfl
  next c=>rw[gT,Bool.not_eq_false']at c;rw[c];rfl)with⟨k,n⟩|⟨k,n⟩
 rotate_left
 .rw[k];exact zA e (g.ends n) ow rfl
 have a:=(g.trans n).trans (zJ.of (s':=.h17 t.t.1 (Io t.t.1:Int) ((0:Nat):Int) (t,())) (by
  simp only[pB,Q8,zG,zE,zm];rfl))
 rw[k]
 rcases W5 (t:=pB) (R:=(.kb Q4,[])) (N:=Io t.t.1) (st:=λi=>.h17 t.t.1 (Io t.t.1:Int) (i:Int) (t,())) (b:=zdT t) (λi h=>by
  simp only[pB,Q8,zI h,zx h,zh,aJ,zu i (show i<aI by omega)];unfold zdT xF;split
  next c=>rw[yJ]at c;rw[c];rfl
  next c=>rw[gT,Bool.not_eq_false']at c;rw[c];cases zU (getD t.t.1 i (zi zB)).2<;>rfl)with⟨l,o⟩|⟨l,o⟩
 rotate_left
 .rw[l];exact zA e (a.ends o) ow rfl
 rw[l];have d:∃r,(pB (.h17 t.t.1 (Io t.t.1:Int) (Io t.t.1:Int) (t,()))).val=Q1 (.inr r)/\aU r.2 [Q7] r.1=Q1 ((xF t.2.2.1 (Io t.2.1)&&((getD t.2.1 (toNat t.2.2.1) (zi zl)).2.2&&(iU t.t.2 t.2.1==0))),()):=by
  simp only[pB,Q8,zG,zn,zE,zm];unfold xF;cases c:(cond (Q0 (t.2.2.1>=0)) (Q0 (t.2.2.1<(↑(Io t.2.1):Int))) Q4)
  .exact⟨_,rfl,rfl⟩
  .have h:zK t.2.2.1 (Io t.2.1)=Q3:=by
    cases u:Q0 (t.2.2.1>=0)<;>simp_all[zK]
   rw[h];cases(getD t.2.1 (toNat t.2.2.1) (zi zl)).2.2
   .exact⟨_,rfl,rfl⟩
   .exact⟨_,rfl,rfl⟩
 obtain⟨r,q,s⟩:=d;exact zA e ((a.trans o).ends (zY.of q)) ow s
theorem ok8:zM Wz.P 47 Tryz.f47 1:=bL kw
def F8t:z8:=aK [aj] [Q7] λx=>(dM x.1,())
theorem zpo:FK 47 F8t:=ak ok8 λx C b=>Reach.lenA 0 3 zj x.1.2.2.2.1 rfl rfl λh=>Reach.lenA 0 4 zB x.1.t.1 rfl rfl λa=>
 JO (n0:=0) (t:=pB) (e:=zpZ) (keep:=zkS) (gas:=400) (i:=L8 x.1) Gk ok8 (λid _=>b id) kw (by intro s;cases s<;>kernel_rfl) (zad h a)
def zfU:=Wz.add 47 F8t
theorem Gl:zw zfU:=Gk.add zpo
abbrev zk8:=kJ [(4,[1,2,19,20,21]),(10,[1,2,30,31])]
inductive yG where
 |h4 (l1:LV) (l19:LV) (i20:Int) (i21:Int) (z0:zo uK)
 |h10 (l1:LV) (i30:Int) (i31:Int) (z0:zo uK)
abbrev zqa:yG->Nat×St
 |.h4 l b i h z=>(4,⟨tm 79 [(1,sl zf l),(2,ptr 0 0),(19,sl zf b),(20,ai i),(21,ai h)],[Qa (bI [] uK z)]⟩)
 |.h10 l x a z=>(10,⟨tm 79 [(1,sl zf l),(2,ptr 0 0),(30,ai x),(31,ai a)],[Qa (bI [] uK z)]⟩)
def Xt(x:ao)(h:Sem zf.sl):Tr (yG⊕au):=br (cond (!dM (x.1,x.2.1,x.2.2.1,x.2.2.2.1,x.t.1,zr x.t.2)) Q3 ((↑(Io h):Int)!=(↑(Io x.2.1):Int))) (re (ai 1) []) (Q9 (yG.h4 h h (↑(Io h):Int) 0 (x,())))
def wu:yG->Tr (yG⊕au)
 | .h4 l x a h z=>
  br (Q0 (h<a))
  (Qc (zK h (Io x)) (br (!bf (x.getD h.toNat (zi zf))) (re (ai 1) []) (Q9 (yG.h4 l x a (Γ Δ (h+1)) z))))
  (Q9 (yG.h10 l (↑l.length:Int) 0 z))
 | .h10 l b i z=>
  let c:=l.getD i.toNat (zi zf)
  let e:=c.1==0
  let g:=zK i (Io z.1.2.1)
  let j:=getD z.1.2.1 i.toNat (zi zl)
  let k:=c.1!=0
  let d:=kx (zr z.1.t.2) z.1.2.1 l
  br (Q0 (i<b))
  (Qc (zK i (Io l)&&bif e then g else Q3) (br (cond e j.2.2 Q4) (re (ai 8) []) (Qc (zK i (Io l)&&bif k then zK i (Io l)&&g else Q3) (br (cond k (c.1!=j.2.1) Q4) (re (ai 5) []) (Q9 (yG.h10 l b (Γ Δ (i+1)) z))))))
  (br (d.1==3&&(d.2.1==0&&(d.2.2==[]&&Q3))) (re (ai 9) []) (re (ai 0) []))
def SL(x:ao)(h:Sem zf.sl):=an [zj] wu 100000000 (Xt x h)
def zfm:=FT [aj,zf.sl] [zj] λx=>SL x.1 x.2.1
theorem Qx:FK 48 zfm:=Gl.T1 (f:=Tryz.f48) (keep:=zk8) (e:=zqa)
def eO(t:ao)(row:LV):zt->Int->zq
 |[],_=>if((kx t.t.2 t.2.1 row).1==3&&((kx t.t.2 t.2.1 row).2.1==0&&((kx t.t.2 t.2.1 row).2.2==[]&&Q3)))=Q3 then 9 else 0
 |x::r,i=>if(cond (x.1==0) ((getD t.2.1 i.toNat (zi zl)).2.2) Q4)=Q3 then 8 else if(cond (x.1!=0) (x.1!=(getD t.2.1 i.toNat (zi zl)).2.1) Q4)=Q3 then 5 else eO t row r (i+1)
def gG(t:ao)(row:LV):zt->Int->zq
 |[],_=>eO t row row 0
 |x::r,i=>if(!bf x)=Q3 then 1 else gG t row r (i+1)
def cf(t:ao)(row:Sem zf.sl):zq:=if(cond (!dM t) Q3 ((↑(Io row):Int)!=(↑(Io t.2.1):Int)))=Q3 then 1 else gG t row row 0
theorem RN{b:ao}(h:dM b=Q3):Io b.2.1<=8:=by
 unfold dM at h;rw[aE]at h;have h:=h.1;cases x:zU b.1
 .rw[x]at h;simp at h
 .rw[x]at h;simp at h;omega
theorem UT(t:ao)(x:LV):SL t x=Q1 (cf t x,()):=by
 unfold cf;by_cases h:(cond (!dM t) Q3 ((↑(Io x):Int)!=(↑(Io t.2.1):Int)))=Q3
 .rw[ze h];refine zP (r:=(.int .i64 1,[])) ?_ rfl;simp only[Xt,zn,aX,Q8];exact ze h
 rw[zg h];have d:dM t=Q3/\Io x=Io t.2.1:=by
  cases d:dM t
  .rw[d]at h;simp at h
  .rw[d]at h;simp at h;exact⟨rfl,ow⟩
 have p:=RN d.1;have g:∀(m i:Nat),Io x-i=m->i<=Io x->zY wu (m+1) (.h10 x (Io x) i (t,())) (.int .i64 (eO t x (x.drop i) i),[]):=by
  intro m
  induction m with
  | zero=>
   intro i k l;obtain rfl:i=Io x:=by omega
   rw[jO,eO];refine zY.of ?_;simp only[wu,Q8,zG,zn,zE,zm];split<;>rfl
  | succ m n=>
   intro i k l;have a:i<Io x:=by omega
   have j:getD x i (zi zf)=x[i]:=cO _ _ a;rw[fR a,eO];have b:(wu (.h10 x (Io x) i (t,()))).val=if(cond (x[i].1==0) ((getD t.2.1 i (zi zl)).2.2) Q4)=Q3 then Q1 (.inr (.int .i64 8,[]))else if(cond (x[i].1!=0) (x[i].1!=(getD t.2.1 i (zi zl)).2.1) Q4)=Q3 then Q1 (.inr (.int .i64 5,[]))else Q1 (.inl (.h10 x (Io x) ((i+1:Nat):Int) (t,()))):=by
    simp only[wu,Q8,zI a,zx a,zx (show i<Io t.2.1 by omega),aJ,j,ee,Bool.cond_self,zh,zu i (show i<aI by unfold aI;omega)]
   simp only[aJ];split
   next c=>exact(zY.of (by rw[b,ze c])).mono ow
   .rename_i c;split
    next e=>exact(zY.of (by rw[b,zg c,ze e])).mono ow
    next e=>exact(zJ.of (by rw[b,zg c,zg e])).ends (n (i+1) ow ow)
 have o:∀(m i:Nat),Io x-i=m->i<=Io x->zY wu (m+Io x+2) (.h4 x x (Io x) i (t,())) (.int .i64 (gG t x (x.drop i) i),[]):=by
  intro m
  induction m with
  | zero=>
   intro i k l;obtain rfl:i=Io x:=by omega
   rw[jO,gG];refine((zJ.of (s':=.h10 x (Io x) ((0:Nat):Int) (t,())) ?_).ends (g (Io x) 0 ow ow)).mono ow;simp only[wu,Q8,zG,zE,zm];rfl
  | succ m n=>
   intro i k l;have a:i<Io x:=by omega
   have j:getD x i (zi zf)=x[i]:=cO _ _ a;rw[fR a,gG];have b:(wu (.h4 x x (Io x) i (t,()))).val=if(!bf x[i])=Q3 then Q1 (.inr (.int .i64 1,[]))else Q1 (.inl (.h4 x x (Io x) ((i+1:Nat):Int) (t,()))):=by
    simp only[wu,Q8,zI a,zx a,aJ,j,zh,zu i (show i<aI by unfold aI;omega)]
   split
   next c=>exact(zY.of (by rw[b,ze c])).mono ow
   next c=>exact((zJ.of (by rw[b,zg c])).ends (n (i+1) ow ow)).mono ow
 refine zA (s:=.h4 x x (Io x) ((0:Nat):Int) (t,())) ?_ (o (Io x) 0 ow ow) ow rfl;simp only[Xt,zn,aX,Q8];exact zg h
def zfV:=zfU.add 48 zfm
theorem TK:zw zfV:=Gl.add Qx
def zmH:z8:=aK [aj,zf.sl] [zj] λx=>(cf x.1 x.2.1,())
theorem zhs:FK 48 zmH:=ij Qx λx=>UT x.1 x.2.1
def CK:=zfV.add 48 zmH
theorem TL:zw CK:=TK.add zhs
open Go.RowKit Go.Lib in
theorem ziE:FK 268 (zZ [.str,.str] [.bool] (λx=>Io x.2.1==1) λx=>(Q0 (0<=Lib.indexByte x.1 (x.2.1.headD 0)),())):=by
 refine fu (E:=CK) ⟨Tryz.f268,kw,kw,kw⟩ λx y p h=>?_
 unfold fI at h;split at h
 .simp only[Q8]at h;split at h
  .rename_i g;simp only[bg]at h;subst h;obtain⟨s,d,u⟩:=x;have g:(Io d==1)=Q3:=g
   match d,g with
   | [c],_=>
    intro C w U ρ v _ b l a i m;have n:=b.len
    match v,n,b with
    | [q,t],_,b=>
     have j:=b.rv 0 (.str s) q rfl rfl;have k:=b.rv 1 (.str [c]) t rfl rfl;cases j with
     |str _ z=>
     cases k with
     |str _ o=>
     refine(Tryz.strings_Contains_one ⟨s.toArray⟩ c w).mono ?_;rintro e A ⟨rfl,rfl⟩;exact fb l a i m (Below.refl _ _) (.bool _)
  .cases h
 .simp at h
def F63:z8:=zZ [.str,.str] [.bool] (λx=>Io x.2.1==1) λx=>(Q0 (0<=Lib.indexByte x.1 (x.2.1.headD 0)),())
theorem zo2:FK 268 F63:=ziE
def F89:z8:=zZ [.str] [.str] (λx=>Q0 (Io x.1<=140737488355328)&&x.1.all λb=>Q0 (b.toNat<128)) λx=>(Lib.toUpperA x.1,())
open Go.RowKit Go.Lib in
theorem zpm:FK 291 F89:=by
 refine fu (E:=CK) ⟨Tryz.f291,kw,kw,kw⟩ λx B z h=>?_
 unfold fI at h;split at h
 .simp only[Q8]at h;split at h
  .rename_i a;simp only[bg]at h;subst h;obtain⟨s,u⟩:=x;have a:(Q0 (Io s<=140737488355328)&&s.all λb=>Q0 (b.toNat<128))=Q3:=a;simp only[aE,aQ]at a;obtain⟨i,a⟩:=a;intro C w U ρ v _ d m c k n;have q:=d.len
   match v,q,d with
   | [A],_,d=>
    have l:=d.rv 0 (.str s) A rfl rfl;cases l with
    |str _ y=>
    refine(Tryz.strings_ToUpper_ascii ⟨s.toArray⟩ w (by simpa[ByteArray.size]using i) (λj b p=>?_)).mono ?_
    .have t:b∈s:=fF (by simpa using p);simp only[dQ,aQ]at a;exact a b t
    .rintro e D ⟨rfl,o⟩;have g:=fb (r:=.str (Lib.toUpperA s)) m c k n o (.str _ (by simpa[Lib.toUpperA]using y));exact g
  .cases h
 .simp at h
def oy:Nat->Nat->zH
 |0,_=>[]
 |f+1,n=>if n<10 then[UInt8.ofNat (48+n)]else oy f (n/10)++[UInt8.ofNat (48+n%10)]
def sR(n:Int):zH:=if n<0 then 45::oy 20 n.natAbs else oy 20 n.natAbs
theorem Il:∀(f n:Nat),n<10^f->0<f->oy f n=Lib.decDigits n
 |0,_,_,h=>by omega
 | f+1,n,h,_=>by
  rw[oy,Lib.decDigits];split
  .rfl
  .rename_i a;have x:0<f:=by
    cases f with
    |zero=>simp at h;omega
    |succ f=>omega
   rw[Il f (n/10) (by rw[pN]at h;omega) x]
theorem Cq:∀(f n:Nat),(oy f n).length<=f
 |0,_=>by simp[oy]
 | f+1,n=>by
  rw[oy];split
  .simp
  .have:=Cq f (n/10);simp;omega
theorem G8(n:Int):(sR n).length<=21:=by unfold sR;have:=Cq 20 n.natAbs;split<;>simp<;>omega
theorem XK(n:Int)(h:cZ .i64 n):Lib.itoa n=sR n:=by
 have x:-9223372036854775808<=n:=h.1;have a:n<=9223372036854775807:=h.2;unfold Lib.itoa sR;split
 .rw[Il 20 _ ow ow]
 .rw[Il 20 _ ow ow];congr 1;omega
def zmQ:z8:=zZ [zj,zj] [.str] (λx=>x.2.1==10) λx=>(sR x.1,())
open Go.RowKit Go.Lib in
theorem zhB:FK 333 zmQ:=by
 refine fu (E:=CK) ⟨Tryz.f333,kw,kw,kw⟩ λx I D h=>?_
 unfold fI at h;split at h
 .simp only[Q8]at h;split at h
  .rename_i g;simp only[bg]at h;subst h;obtain⟨n,b,u⟩:=x;have g:(b==10)=Q3:=g;simp only[bd]at g;subst g;intro C w U ρ v _ c s a l m;have A:=c.len
   match v,A,c with
   | [F,G],_,c=>
    have o:=c.rv 0 (.int .i64 n) F rfl rfl;have p:=c.rv 1 (.int .i64 10) G rfl rfl;cases o with
    |int _ _ i=>
    cases p;have q:Rv w U (λ_=>Q2) (.tab .u64 mJ) (.pointer (Q1 ⟨5,0,Q2⟩)):=m.gl 5;have d:Lib.TabIs Tryz.prog w "internal/strconv.uint64pow10" .u64 Lib.pow10Tab:=by
     cases q with
     |tab _ _ _ T H t J=>
     have y:Tryz.prog.globalNamed "internal/strconv.uint64pow10"=Q1 5:=by kernel_rfl
     have B:Lib.pow10Tab=mJ:=by decide+kernel
     unfold Lib.TabIs World.var?;rw[y,B];simp only[Option.bind_some,t]
    refine(Tryz.strconv_FormatInt_10 n i.1 i.2 w d).mono ?_;rintro e L ⟨rfl,k,os,rfl⟩;rw[XK n i];exact fb (r:=.str (sR n)) s a l m ⟨rfl,rfl,rfl,by show w.heap.size<=(w.heap++os).size;simp,λj z=>by show(w.heap++os)[j]?=w.heap[j]?;rw[Array.getElem?_append_left z]⟩ (.str _ (by have:=G8 n;unfold aI;omega))
  .cases h
 .simp at h
theorem wb(o n:zH):∀(k:Nat)(s:zH),(Lib.replaceK o n k s).length<=Io s+k*Io n
 |0,s=>by simp[Lib.replaceK]
 | k+1,s=>by
  rw[Lib.replaceK];split
  .omega
  .have:=wb o n k (s.drop ((Lib.index s o).toNat+Io o));simp only[ik,B2,List.length_drop]at this|-;rw[hV];omega
theorem lO(s o n:zH):(Lib.replaceAll s o n).length<=Io s+(Io s+1)*Io n:=by
 unfold Lib.replaceAll Lib.replace;split
 .omega
 .refine aT (wb o n _ s) ?_;have h:=Lib.count_le s o;have:Lib.replaceNum s o (-1)=Lib.count s o:=by unfold Lib.replaceNum;rw[ze (.inl ow)]
  rw[this];have:=gE (Io n) h;omega
def wa(s o n:zH):Bool:=Q0 (Io s<=4000000000)&&(Q0 (1<=Io o)&&Q0 (Io n<=1000))
def zmR:z8:=zZ [.str,.str,.str] [.str] (λx=>wa x.1 x.2.1 x.2.2.1) λx=>(Lib.replaceAll x.1 x.2.1 x.2.2.1,())
open Go.RowKit Go.Lib in
theorem zhC:FK 334 zmR:=by
 refine fu (E:=CK) ⟨Tryz.f334,kw,kw,kw⟩ λx Z S h=>?_
 unfold fI at h;split at h
 .simp only[Q8]at h;split at h
  .rename_i c;simp only[bg]at h;subst h;obtain⟨s,o,n,u⟩:=x;have c:wa s o n=Q3:=c;unfold wa at c;simp only[aE,aQ]at c;obtain⟨I,d,g⟩:=c;intro C w U ρ v _ a G i t y;have L:=a.len
   match v,L,a with
   | [W,X,v3],_,a=>
    have B:=a.rv 0 (.str s) W rfl rfl;have D:=a.rv 1 (.str o) X rfl rfl;have F:=a.rv 2 (.str n) v3 rfl rfl;cases B with
    |str _ N=>
    cases D with
    |str _ O=>
    cases F with
    |str _ P=>
    have k:Rv w U (λ_=>Q2) .gint (.pointer (Q1 ⟨0,0,Q2⟩)):=y.gl 0;have l:∃m:Int,w.cell? ⟨0,0,Q2⟩=Q1 (.int .i64 m):=by
     cases k with
     |gint m _ T Y _ H _=>exact⟨m,by simp[World.cell?,H]⟩
    obtain⟨m,M⟩:=l;have J:=Lib.countB_le (⟨o.toArray⟩:ByteArray) (by simpa[ByteArray.size]using d) (Io s) (⟨s.toArray⟩:ByteArray) (by simp[ByteArray.size]);have j:(⟨s.toArray⟩:ByteArray).size=Io s:=by simp[ByteArray.size]
    have q:(⟨n.toArray⟩:ByteArray).size=Io n:=by simp[ByteArray.size]
    have A:Lib.countB (⟨s.toArray⟩:ByteArray) ⟨o.toArray⟩*Io n<=4000000000*1000:=F3 ow g;refine(Tryz.strings_ReplaceAll ⟨s.toArray⟩ ⟨o.toArray⟩ ⟨n.toArray⟩ m w (by rw[j];omega) M (by simpa[ByteArray.size]using d) (by rw[j,q];omega)).mono ?_;rintro e w' ⟨rfl,b⟩;refine fb (r:=.str (Lib.replaceAll s o n)) G i t y b (.str _ ?_);have z:=lO s o n;have p:(Io s+1)*Io n<=4000000001*1000:=F3 ow g;unfold aI;omega
  .cases h
 .simp at h
def zmP:z8:=zZ [.sl .str,.str] [.str] (λx=>Q0 (Io x.1<=140737488355328)&&Q0 ((Lib.join x.1 x.2.1).length<=140737488355328)) λx=>(Lib.join x.1 x.2.1,())
open Go.RowKit Go.Lib in
theorem zhA:FK 332 zmP:=by
 refine fu (E:=CK) ⟨Tryz.f332,kw,kw,kw⟩ λx h0 W d=>?_
 unfold fI at d;split at d
 .simp only[Q8]at d;split at d
  .rename_i k;simp only[bg]at d;subst d;obtain⟨l,h,u⟩:=x;have k:(Q0 (Io l<=140737488355328)&&Q0 ((Lib.join l h).length<=140737488355328))=Q3:=k;simp only[aE,aQ]at k;obtain⟨t,k⟩:=k;have P:aI=9223372036854775807:=rfl;intro C w U ρ B _ p J i A L;have O:=p.len
   match B,O,p with
   | [X,Y],_,p=>
    have G:=p.rv 0 (.sl .str l) X rfl rfl;have M:=p.rv 1 (.str h) Y rfl rfl;cases M with
    |str _ T=>
    generalize y:l=l0 at G k t p;cases G with
    | sl0 _ a c=>
     subst y;refine(Tryz.strings_Join_none a c ⟨h.toArray⟩ w).mono ?_;rintro e Z ⟨rfl,rfl⟩;exact fb (r:=.str []) J i A L (Below.refl _ _) (.str _ sw)
    | sl _ _ b o c v D hm N hU m F=>
     subst y;have d:∀(j:Nat) x,(l.map λs=>(⟨s.toArray⟩:ByteArray))[j]?=Q1 x->w.cell? ⟨b,o+j,Q2⟩=Q1 (.string x):=by
      intro j x n;simp only[du,dt]at n;obtain⟨s,S,rfl⟩:=n;obtain⟨z,rfl⟩:=dc.1 S;have H:=m j 0 z (by simp[Sh.size]);have I:=F j z 0 (.str l[j]) rfl;simp only[Sh.size,Nat.mul_one,pM]at H;rw[H];generalize v j 0=vv at I;cases I;rfl
     have g:(l.map λs=>(⟨s.toArray⟩:ByteArray)).map (·.data.toList)=l:=by
      simp[uv]
     have n:=Tryz.strings_Join b o c (l.map λs=>(⟨s.toArray⟩:ByteArray)) ⟨h.toArray⟩ w d N (by simpa using t) (by simpa using D) (by rw[g];exact k);rw[g]at n;simp only[cQ]at n;refine n.mono ?_;rintro e Z ⟨rfl,q⟩;exact fb (r:=.str (Lib.join l h)) J i A L q (.str _ ow)
  .cases d
 .simp at d
def sM:=CK.addL [(268,F63),(291,F89),(333,zmQ),(334,zmR),(332,zmP)]
theorem jl:zw sM:=TL.addL<|fc zo2<|fc zpm<|fc zhB<|fc zhC<|fc zhA iH
theorem Reach.promNil{fn:FuncId}{s:St}(e:Sh)(H:∀id,C.ρ0 id=Q2)(h:Reach E C fn t s (λr h=>(r,h)=(.nils,[]))):Reach E C fn t s (λr h=>(r,h)=(.vec 0,[.vec e []])):=by
 intro b z a w U ρ F G J I;obtain⟨A,y,B,⟨v,r,T,p,X,L,O,n,W,q,P,k⟩,l,M,N⟩:=h b z a w U ρ F G J I;cases O;cases n with
 |nils i=>
 have c:∀id o b,o=(AO.vec e []:AO)\/o=AO.dead->¬af (λid=>if id=0 then Q1 (.slice i 0 0)else Q2) id o b:=by
  rintro id o b ho ⟨h3,x,h4,h5⟩;rcases ho with rfl|rfl
  .simp only at h4;split at h4
   .cases h4;cases i<;>simp[bJ]at h5
   .cases h4
  .simp[AO.owns]at h3
 have g:∀id,(([AO.vec e []]:List AO).getD id .dead)=(ite (id=0) (AO.vec e []) AO.dead):=by
  intro id;cases id<;>simp
 refine⟨A,y,B,⟨_,_,_,p,λid=>if id=0 then Q1 (.slice i 0 0)else Q2,L,rfl,.vec 0 _ sw (by simp[Value.oneCell']),⟨λid=>?_,λj S b o=>?_,λid b o=>?_⟩,λid m=>?_,λid v u=>?_,k⟩,l,M,N⟩
 .show bl y p _ id (([AO.vec e []]:List AO).getD id .dead);rw[g];split
  next D=>subst D;exact⟨i,0,sw,sw,.inl ⟨rfl,rfl⟩⟩
  .trivial
 .exfalso;have d:af (λid=>if id=0 then Q1 (.slice i 0 0)else Q2) j (([AO.vec e []]:List AO).getD j .dead) b:=o;rw[g]at d;split at d
  .exact c _ _ _ (.inl rfl) d
  .exact c _ _ _ (.inr rfl) d
 .exfalso;have d:af (λid=>if id=0 then Q1 (.slice i 0 0)else Q2) id (([AO.vec e []]:List AO).getD id .dead) b:=o;rw[g]at d;split at d
  .exact c _ _ _ (.inl rfl) d
  .exact c _ _ _ (.inr rfl) d
 .simp at m;simp;omega
 .rw[H id]at u;cases u
def bG:Tr zO->List Item×List Item×St
 |.ok (.fork _ k h s)=>(k,h,s)
 |_=>([],[],⟨[],[]⟩)
abbrev Kx:Nat->aP:=λ_=>{ }
abbrev K7(l:List za):Tr zO:=run sM 0 Kx (Func.results Tryz.f204).toList 300 (bq Tryz.f204) (aW (Func.ntmps Tryz.f204) [.sl .expr l] [])
theorem zdw:zM sM.P 204 Tryz.f204 1:=bL kw
theorem zvh(l:List za):K7 l=.ok (.fork l.isEmpty (bG (K7 l)).1 (bG (K7 l)).2.1 (bG (K7 l)).2.2):=kw
theorem zte(l:List za):run sM 0 Kx (Func.results Tryz.f204).toList 300 (bG (K7 l)).1 (bG (K7 l)).2.2=.ok (.ret .nils []):=kw
theorem ztf(l:List za):run sM 0 Kx (Func.results Tryz.f204).toList 300 (bG (K7 l)).2.1 (bG (K7 l)).2.2=.chk (Q0 (Io l<=1073741824)) (.ok (.ret (.vec 0) [.vec .expr l])):=kw
def G53:eX [Q1 (.sl .expr)]:=λx h=>match h with
 |[]=>.chk (Q0 (Io x.1<=1073741824)) (.ok (.vec 0,[.vec .expr x.1]))
 |_=>.err
def F53:z8:=aS [Q1 (.sl .expr)] G53
theorem zoT:FK 204 F53:=by
 refine da zdw λx j i a C b=>?_
 unfold G53 at a;split at a
 .simp only[Q8]at a;split at a
  .rename_i d;simp only[bg]at a;subst a;obtain⟨l,u⟩:=x;refine zF (n0:=0) jl zdw b (zvh l) ?_;refine⟨λc=>?_,?_⟩
   .have e:l=[]:=List.isEmpty_iff.1 c;refine Reach.weaken (Q:=λr h=>(r,h)=(.vec 0,[.vec .expr []])) (Reach.promNil .expr (λid=>b id sw) (zF (n0:=0) jl zdw b (zte l) rfl)) ?_;intro r h g;cases g;refine⟨_,?_,λ_ _ _ _ h=>h⟩;show(AV.vec 0,[AO.vec Q5 []])=(AV.vec 0,[AO.vec Q5 l]);rw[e]
   .exact zF (n0:=0) jl zdw b (ztf l) (fw d rfl)
  .cases a
 .simp at a
abbrev K6(l:aN):Tr zO:=run sM 0 Kx (Func.results Tryz.f156).toList 300 (bq Tryz.f156) (aW (Func.ntmps Tryz.f156) [.sl zl l] [])
theorem zdu:zM sM.P 156 Tryz.f156 1:=bL kw
theorem zuZ(l:aN):K6 l=.ok (.fork l.isEmpty (bG (K6 l)).1 (bG (K6 l)).2.1 (bG (K6 l)).2.2):=kw
theorem zs8(l:aN):run sM 0 Kx (Func.results Tryz.f156).toList 300 (bG (K6 l)).1 (bG (K6 l)).2.2=.ok (.ret .nils []):=kw
theorem zs9(l:aN):run sM 0 Kx (Func.results Tryz.f156).toList 300 (bG (K6 l)).2.1 (bG (K6 l)).2.2=.chk (Q0 (Io l<=1073741824)) (.ok (.ret (.vec 0) [.vec zl l])):=kw
def G32:eX [Q1 (.sl zl)]:=λx h=>match h with
 |[]=>.chk (Q0 (Io x.1<=1073741824)) (.ok (.vec 0,[.vec zl x.1]))
 |_=>.err
def F32:z8:=aS [Q1 (.sl zl)] G32
theorem zoz:FK 156 F32:=by
 refine da zdu λx j i a C b=>?_
 unfold G32 at a;split at a
 .simp only[Q8]at a;split at a
  .rename_i d;simp only[bg]at a;subst a;obtain⟨l,u⟩:=x;refine zF (n0:=0) jl zdu b (zuZ l) ?_;refine⟨λc=>?_,?_⟩
   .have e:l=[]:=List.isEmpty_iff.1 c;refine Reach.weaken (Q:=λr h=>(r,h)=(.vec 0,[.vec zl []])) (Reach.promNil zl (λid=>b id sw) (zF (n0:=0) jl zdu b (zs8 l) rfl)) ?_;intro r h g;cases g;refine⟨_,?_,λ_ _ _ _ h=>h⟩;show(AV.vec 0,[AO.vec zl []])=(AV.vec 0,[AO.vec zl l]);rw[e]
   .exact zF (n0:=0) jl zdu b (zs9 l) (fw d rfl)
  .cases a
 .simp at a
def zjY:=sM.addL [(204,F53),(156,F32)]
theorem LL:zw zjY:=jl.addL<|fc zoT<|fc zoz iH
def Vd(c:za->Bool):z8:=zZ [.expr] [.expr] (λx=>c x.1) λx=>(x.1,())
def TB(c:za->Bool):cg:=zjY.add 146 (Vd c)
variable {x:za->Bool}
theorem Cy(h:FK 146 (Vd x)):zw (TB x):=LL.add h
abbrev zrt:Nat->aP:=λj=>if j=3 then{slots:=[1,2,10,11]}else{ }
abbrev SB(i h:Int)(j:zH)(x a:Int)(b c:zH)(l:List (Sem Q5)):St:={
 tmps:=
  (tm 26 [(1,ptr 0 0),(2,ptr 1 0),(10,ai i),(11,ai h)]),
 heap:=
  [Qa [str j,ai x,ai a,str b,str c,AV.vec 2],
   Qa [str [],ai 0,ai 0,str [],str [],nils],AO.vec Q5 l]}
theorem Pp(c:za->Bool):zM (TB c).P 146 Tryz.f146 1:=bL kw
theorem zu0(c:za->Bool)(o:zH)(v:V)(s:zH)(l:List za):rn (TB c) 0 zrt Tryz.f146 [zL Q5 (za.mk o v s l)] []=
 Qc (Q0 (Io l<=1073741824)) (Tr.ok (zO.head 3 (ab Tryz.f146 3) (SB (↑l.length:Int) 0 o v.1 v.2.1 v.2.2 s l))):=kw
theorem YU(c:za->Bool)(h i:Int)(j:zH)(x a:Int)(b d:zH)(l:List (Sem Sh.expr)):rh (TB c) 0 zrt Tryz.f146 3 (SB h i j x a b d l)=
 br (Q0 (i<h))
 (chk (zK i (Io l))
  (chk (decide (i.toNat<Io l))
   (chk (c (zr (l.getD i.toNat (zi Sh.expr))))
    (chk (zK i (Io l))
     (chk (decide (i.toNat<Io l))
      (Tr.ok
       (zO.head 3 (ab Tryz.f146 3)
        (SB h (Γ Δ (i+1)) j x a b d
         (l.set i.toNat
          (zr (l.getD i.toNat (zi Q5))))))))))))
 (Tr.ok
  (zO.ret (agg [str j,ai x,ai a,str b,str d,AV.vec 0]) [AO.vec Q5 l])):=kw
theorem zt5(d:FK 146 (Vd x))(c:∀id,C.ρ0 id=Q2)(o:zH)(v:V)(s:zH)(l:List za)(p:Io l<=1073741824)(b:l.all x=Q3):
  ∀(k i:Nat),Io l-i=k->i<=Io l->Reach (TB x) C 146 (ab Tryz.f146 3) (SB (Io l) i o v.1 v.2.1 v.2.2 s l) (λr h=>aU h [.expr] r=Q1 (za.mk o v s l,())):=by
 intro k
 induction k with
 | zero=>
  intro i n m;obtain rfl:i=Io l:=by omega
  refine zF (n0:=0) (Cy d) (Pp x) (λid _=>c id) (YU x _ _ _ _ _ _ _ _) ?_;simp only[zG,Tr.val_brF];rfl
 | succ k I=>
  intro i n m;have a:i<Io l:=by omega
  refine zF (n0:=0) (Cy d) (Pp x) (λid _=>c id) (YU x _ _ _ _ _ _ _ _) ?_;have e:x l[i]=Q3:=dQ.1 b _ (bp a);have g:Q0 ((i:Int).toNat<Io l)=Q3:=by simpa using a
  have j:l.set (i:Int).toNat l[i]=l:=by simp
  simp only[zI a,zx a,cO l _ a,za.eta,Tr.val_brT,Tr.val_chkT,e,g,j,zu i um];exact I (i+1) ow ow
def pZ:Nat->za->Bool
 |0,_=>Q4
 |n+1,.mk _ _ _ l=>Q0 (Io l<=1073741824)&&l.all (pZ n)
theorem NS:∀n,FK 146 (Vd (pZ n))
 |0=>eI ⟨Tryz.f146,(Pp (λ_=>Q4)).1,(Pp (λ_=>Q4)).2.1,(Pp (λ_=>Q4)).2.2.1⟩ (λ_=>rfl)
 | n+1=>by
  refine aL (E:=TB (pZ n)) (Pp _) λx h C a=>?_
  obtain⟨⟨o,v,s,l⟩,u⟩:=x;have h:(Q0 (Io l<=1073741824)&&l.all (pZ n))=Q3:=h;simp only[aE,aQ]at h;refine zF (n0:=0) (Cy (NS n)) (Pp _) (λid _=>a id) (zu0 _ o v s l) ?_;refine fw (by simpa using h.1) ?_;exact zt5 (NS n) a o v s l h.1 h.2 _ 0 rfl (aM _)
def F33:z8:=Vd (pZ 16)
theorem zoA:FK 146 F33:=NS 16
def mm:=zjY.add 146 F33
theorem jm:zw mm:=LL.add zoA
abbrev kC:Sh:=.pr .str .str
abbrev jY:Sh:=.pr .str .expr
abbrev aC:Sh:=.pr .str (.pr .str (.pr .str (.pr (.sl .str) (.pr (.sl zl) (.pr .str (.pr (.sl .str) (.pr (.sl kC) (.pr .expr (.pr (.sl zf) (.pr (.sl jY) (.pr .expr .str)))))))))))
abbrev zN:=Sem aC
def zcL(x:zN):zN:=(x.1,x.2.1,x.2.2.1,x.2.2.2.1,x.2.2.2.2.1,x.2.2.2.2.2.1,x.2.2.2.2.2.2.1,x.2.2.2.2.2.2.2.1,zr x.2.2.2.2.2.2.2.2.1,x.2.2.2.2.2.2.2.2.2.1,x.2.2.2.2.2.2.2.2.2.2.1,zr x.2.2.2.2.2.2.2.2.2.2.2.1,x.2.2.2.2.2.2.2.2.2.2.2.2)
theorem Rm(x:zN):zcL x=x:=by unfold zcL;rw[zn,zn]
abbrev zgL:Nat->aP:=λj=>if j=2 then{slots:=[0,2,4]}else{ }
abbrev EC(s:TS)(i j:Int)(h:List UInt8):St:={tmps:=(tm 37 [(0,str s),(2,ptr 0 0),(4,ai i)]),heap:=[Qa [ai j,str h]]}
theorem YH:zM (mm).P 336 Tryz.f336 1:=bL kw
theorem zqk(x:TS):rn mm 0 zgL Tryz.f336 [zL Q6 x] []=Tr.ok (zO.head 2 (ab Tryz.f336 2) (EC x 1 0 [])):=kw
theorem zdz(s:TS)(i j:Int)(h:List UInt8):rh mm 0 zgL Tryz.f336 2 (EC s i j h)=let a:=Γ Δ (i+1);let x:=(↑(Io s):Int);let b:=Qg (i.toNat-toNat 1) (Qh (toNat 1) s);br (Q0 (i<x)) (Qc (zK i (Io s)) (br ((↑(getD s i.toNat 0).toNat:Int)!=39) (Tr.ok (zO.head 2 (ab Tryz.f336 2) (EC s a j h))) (Qc (cond (Q0 (Γ Δ (i+1)<x)) (zK a (Io s)) Q3) (br (cond (Q0 (Γ Δ (i+1)<x)) ((↑(getD s a.toNat 0).toNat:Int)==39) Q4) (Tr.ok (zO.head 2 (ab Tryz.f336 2) (EC s (Γ Δ (Γ Δ (i+1)+1)) j h))) (Qc (Q0 (0<=1)&&Q0 (1<=i)&&Q0 (i<=x)) (Qc (wa b ot [39]) (Tr.ok (zO.ret (tup [agg [ai 3,str (Lib.replaceAll b ot [39])],ai a]) [])))))))) (Tr.ok (zO.ret (tup [agg [ai 0,str []],ai 0]) [])):=kw
def fk:Nat->(Sem Sh.str)->Int->Int->(List UInt8)->dd×zq
 |0,_,_,_,_=>default
 |n+1,s,i,j,h=>(if Q0 (i<(↑(Io s):Int))=Q3 then
 if((↑(getD s i.toNat 0).toNat:Int)!=39)=Q3 then fk n s (Γ Δ (i+1)) j h
 else
  if
    (bif Q0 (Γ Δ (i+1)<(↑(Io s):Int))then(↑(getD s (Γ Δ (i+1)).toNat 0).toNat:Int)==39
     else Q4)=
     Q3 then
   fk n s (Γ Δ (Γ Δ (i+1)+1)) j h
  else((3,Lib.replaceAll (Qg (i.toNat-toNat 1) (Qh (toNat 1) s)) ot [39]),Γ Δ (i+1))
else((0,[]),0))
def jv:Nat->(Sem Sh.str)->Int->Int->(List UInt8)->Bool
 |0,_,_,_,_=>Q4
 |n+1,s,i,j,h=>(if Q0 (i<(↑(Io s):Int))=Q3 then
 if zK i (Io s)=true then
  if((↑(getD s i.toNat 0).toNat:Int)!=39)=Q3 then jv n s (Γ Δ (i+1)) j h
  else
   if (cond (decide (Γ Δ (i+1) < (↑(Io s):Int))) (zK (Γ Δ (i+1)) (Io s)) true)=true then
    if
      (bif Q0 (Γ Δ (i+1)<(↑(Io s):Int))then(↑(getD s (Γ Δ (i+1)).toNat 0).toNat:Int)==39
       else Q4)=
       Q3 then
     jv n s (Γ Δ (Γ Δ (i+1)+1)) j h
    else
     if(Q0 (0<=1)&&Q0 (1<=i)&&Q0 (i<=(↑(Io s):Int)))=Q3 then
      if wa (Qg (i.toNat-toNat 1) (Qh (toNat 1) s)) ot [39]=Q3 then Q3 else Q4
     else Q4
   else Q4
 else Q4
else Q3)
theorem QL{C:eA}(c:∀id,C.ρ0 id=Q2):∀(n:Nat)(s:TS)(i:Int)(j:Int)(x:List UInt8),jv n s i j x=Q3->
  Reach (mm) C 336 (ab Tryz.f336 2) (EC s i j x) (λr h=>aU h [kD,zj] r=Q1 ((fk n s i j x).1,(fk n s i j x).2,()))
 |0,s,i,j,x,a=>by cases a
 | n+1,s,i,j,x,a=>by
  refine zF jm (YH) (λid _=>c id) (zdz _ _ _ _) ?_;rw[jv]at a;generalize b:fk (n+1) s i j x=y;rw[fk]at b
  skip
  repeat' (first|with_reducible refine vz b a (λ_ b a=>?_) (λ_ b a=>?_)|with_reducible refine dG b (λ_ b=>?_) (λ_ b=>?_)|with_reducible refine iO a (λa=>?_)|with_reducible refine zT ?_)
  all_goals first|(cases a;done)|(subst b;first|(change Reach _ _ _ _ _ _;refine QL c n _ _ _ _ ?_<;>exact a)|rfl)
def ig(x:TS):dd×zq:=(fk (Io x+1) x 1 0 [])
def o7(x:TS):Bool:=(jv (Io x+1) x 1 0 [])
def zmT:z8:=zZ [Q6] [kD,zj] (λx=>o7 x.1) λx=>((ig x.1).1,(ig x.1).2,())
theorem zhE:FK 336 zmT:=by
 refine aL (YH) λx h C b=>?_
 unfold o7 at h;refine zF jm (YH) (λid _=>b id) (zqk x.1) ?_;generalize a:ig x.1=y;unfold ig at a
 try simp only[za.eta,zn]
 repeat' (first|with_reducible refine vz a h (λ_ a h=>?_) (λ_ a h=>?_)|with_reducible refine dG a (λ_ a=>?_) (λ_ a=>?_)|with_reducible refine iO h (λh=>?_)|with_reducible refine zT ?_)
 all_goals first|(cases h;done)|(subst a;first|(change Reach _ _ _ _ _ _;refine QL b _ _ _ _ _ ?_<;>exact h)|rfl)
abbrev zri:Nat->aP:=λ_=>{ }
theorem zgZ:zM (mm).P 321 Tryz.f321 1:=bL kw
theorem zqi(x:Sem Q5):rn mm 0 zri Tryz.f321 [zL Q5 x] []=Tr.ok (zO.ret (AV.bool (cond (za.op x==[]) (cond ((za.v x).1==0&&((za.v x).2.1==0&&((za.v x).2.2==[]&&Q3))) (cond (za.s x==[]) ((↑(za.l x).length:Int)==0) Q4) Q4) Q4)) []):=kw
def im(x:Sem Q5):Sem Q7:=(cond (za.op x==[]) (cond ((za.v x).1==0&&((za.v x).2.1==0&&((za.v x).2.2==[]&&Q3))) (cond (za.s x==[]) ((↑(za.l x).length:Int)==0) Q4) Q4) Q4)
def zmJ:z8:=aK [Q5] [Q7] λx=>(im x.1,())
theorem zhu:FK 321 zmJ:=by
 refine ak (zgZ) λx C a=>?_
 refine zF jm (zgZ) (λid _=>a id) (zqi x.1) ?_;generalize h:im x.1=y;unfold im at h
 try simp only[za.eta,zn]
 repeat' (first|with_reducible refine dG h (λ_ h=>?_) (λ_ h=>?_)|with_reducible refine zT ?_)
 all_goals first|(cases hc;done)|(subst h;first|rfl)
abbrev zv0:Nat->aP:=λ_=>{ }
theorem zs1:zM (mm).P 290 Tryz.f290 1:=bL kw
theorem zvy(x:TS):rn mm 0 zv0 Tryz.f290 [zL Q6 x] []=Tr.ok (zO.ret (str x) []):=kw
def mA(x:TS):Sem Q6:=(x)
def F88:z8:=aK [Q6] [Q6] λx=>(mA x.1,())
theorem zpl:FK 290 F88:=by
 refine ak (zs1) λx C a=>?_
 refine zF jm (zs1) (λid _=>a id) (zvy x.1) ?_;generalize h:mA x.1=y;unfold mA at h
 try simp only[za.eta,zn]
 repeat' (first|with_reducible refine dG h (λ_ h=>?_) (λ_ h=>?_)|with_reducible refine zT ?_)
 all_goals first|(cases hc;done)|(subst h;first|rfl)
abbrev zvX:Nat->aP:=λ_=>{ }
theorem zsX:zM (mm).P 282 Tryz.f282 1:=bL kw
theorem zvv(x:TS):rn mm 0 zvX Tryz.f282 [zL Q6 x] []=Tr.ok (zO.ret (AV.bool (cond (er x) (!jy x) Q4)) []):=kw
def cv(x:TS):Sem Q7:=(cond (er x) (!jy x) Q4)
def F80:z8:=aK [Q6] [Q7] λx=>(cv x.1,())
theorem zph:FK 282 F80:=by
 refine ak (zsX) λx C a=>?_
 refine zF jm (zsX) (λid _=>a id) (zvv x.1) ?_;generalize h:cv x.1=y;unfold cv at h
 try simp only[za.eta,zn]
 repeat' (first|with_reducible refine dG h (λ_ h=>?_) (λ_ h=>?_)|with_reducible refine zT ?_)
 all_goals first|(cases hc;done)|(subst h;first|rfl)
abbrev zrB:Nat->aP:=λ_=>{unroll:=Q3}
theorem zg3:zM (mm).P 225 Tryz.f225 1:=bL kw
theorem zqv(x:dd):rn mm 0 zrB Tryz.f225 [zL kD x] []=let a:=(↑(Io x.2):Int);let h:=Tr.ok (zO.ret (kb Q4) []);br (x.1==3) (Tr.ok (zO.ret (AV.bool (bf (2,0,x.2))) [])) (br (x.1==4) (Qc (cond (a==1) (Io x.2==1) Q3) (Tr.ok (zO.ret (AV.bool (cond (a==1) (Q0 (0<=Lib.indexByte zjJ (List.headD x.2 0))) Q4)) []))) (br Q3 (Qc Q3 (br (1==x.1) (Tr.ok (zO.ret (AV.bool (cond (Q0 (a>=1)) (cond (Q0 (a<=16)) ((↑(bw ba bQ x.2):Int)==a) Q4) Q4)) [])) (br Q3 (Qc Q3 (br (2==x.1) (Tr.ok (zO.ret (AV.bool (cond (Q0 (a>=1)) (cond (Q0 (a<=19)) ((↑(bw ap ap x.2):Int)==a) Q4) Q4)) [])) (br Q4 Tr.err h))) h))) h)):=kw
def cU(x:dd):Sem Q7:=(ite ((x.1==3)=Q3) (bf (2,0,x.2)) (ite ((x.1==4)=Q3) (cond ((↑(Io x.2):Int)==1) (Q0 (0<=Lib.indexByte zjJ (List.headD x.2 0))) Q4) (ite (Q3=Q3) (ite ((1==x.1)=Q3) (cond (Q0 ((↑(Io x.2):Int)>=1)) (cond (Q0 ((↑(Io x.2):Int)<=16)) ((↑(bw ba bQ x.2):Int)==(↑(Io x.2):Int)) Q4) Q4) (ite (Q3=Q3) (ite ((2==x.1)=Q3) (cond (Q0 ((↑(Io x.2):Int)>=1)) (cond (Q0 ((↑(Io x.2):Int)<=19)) ((↑(bw ap ap x.2):Int)==(↑(Io x.2):Int)) Q4) Q4) (ite (Q4=Q3) default Q4)) Q4)) Q4)))
def sk(x:dd):Bool:=(ite ((x.1==3)=Q3) Q3 (ite ((x.1==4)=Q3) (ite ((cond ((↑(Io x.2):Int)==1) (Io x.2==1) Q3)=Q3) Q3 Q4) (ite (Q3=Q3) (ite (Q3=Q3) (ite ((1==x.1)=Q3) Q3 (ite (Q3=Q3) (ite (Q3=Q3) (ite ((2==x.1)=Q3) Q3 (ite (Q4=Q3) Q4 Q3)) Q4) Q3)) Q4) Q3)))
def znB:z8:=zZ [kD] [Q7] (λx=>sk x.1) λx=>(cU x.1,())
theorem ziq:FK 225 znB:=by
 refine aL (zg3) λx a C b=>?_
 unfold sk at a;refine zF jm (zg3) (λid _=>b id) (zqv x.1) ?_;generalize h:cU x.1=y;unfold cU at h
 skip
 repeat' (first|with_reducible refine vz h a (λ_ h a=>?_) (λ_ h a=>?_)|with_reducible refine dG h (λ_ h=>?_) (λ_ h=>?_)|with_reducible refine iO a (λa=>?_)|with_reducible refine zT ?_)
 all_goals first|(cases a;done)|(subst h;first|rfl)
def lx:=mm.addL [(336,zmT),(321,zmJ),(290,F88),(282,F80),(225,znB)]
theorem io:zw lx:=jm.addL<|fc zhE<|fc zhu<|fc zpl<|fc zph<|fc ziq iH
abbrev zvY:Nat->aP:=λ_=>{ }
theorem zsZ:zM (lx).P 287 Tryz.f287 1:=bL kw
theorem zvw(x:Sem Q5):rn lx 0 zvY Tryz.f287 [zL Q5 x] []=Tr.ok (zO.ret (AV.bool (cond (im (zr x)) Q3 (dD (zr x)))) []):=kw
def ci(x:Sem Q5):Sem Q7:=(cond (im x) Q3 (dD x))
def F85:z8:=aK [Q5] [Q7] λx=>(ci x.1,())
theorem zpi:FK 287 F85:=by
 refine ak (zsZ) λx C a=>?_
 refine zF io (zsZ) (λid _=>a id) (zvw x.1) ?_;generalize h:ci x.1=y;unfold ci at h
 try simp only[za.eta]
 repeat' (first|with_reducible refine dG h (λ_ h=>?_) (λ_ h=>?_)|with_reducible refine zT ?_)
 all_goals first|(cases hc;done)|(subst h;first|rfl)
def zpO(x:bR):Sem Q7:=(cond (cv x.1) (cond (Q0 (x.2.1>=1)) (Q0 (x.2.1<=3)) Q4) Q4)
def zts(x:Sem kC):Sem Q7:=(cond (cv x.1) (cv x.2) Q4)
abbrev zv2:Nat->aP:=λ_=>{ }
theorem zs2:zM (lx).P 294 Tryz.f294 1:=bL kw
theorem zvz(x:zp):rn lx 0 zv2 Tryz.f294 [zL zf x] []=br (!bf x) (Tr.ok (zO.ret (str []) [])) (br (x.1==1) (Qc (10==10) (Tr.ok (zO.ret (str (sR x.2.1)) []))) (br (x.1==2) (Qc (wa x.2.2 [39] ot) (Qc (Q0 ([39].length+(Lib.replaceAll x.2.2 [39] ot).length<=1099511627776)) (Qc (Q0 (Io ([39]++Lib.replaceAll x.2.2 [39] ot)+[39].length<=1099511627776)) (Tr.ok (zO.ret (str ([39]++Lib.replaceAll x.2.2 [39] ot++[39])) []))))) (br (x.1==3) (br (ep x==2) (Tr.ok (zO.ret (str Ii) [])) (Tr.ok (zO.ret (str Ih) []))) (Tr.ok (zO.ret (str Fs) []))))):=kw
def iu(x:zp):Sem Q6:=(ite ((!bf x)=Q3) [] (ite ((x.1==1)=Q3) (sR x.2.1) (ite ((x.1==2)=Q3) ([39]++Lib.replaceAll x.2.2 [39] ot++[39]) (ite ((x.1==3)=Q3) (ite ((ep x==2)=Q3) Ii Ih) Fs))))
def yB(x:zp):Bool:=(ite ((!bf x)=Q3) Q3 (ite ((x.1==1)=Q3) (ite ((10==10)=Q3) Q3 Q4) (ite ((x.1==2)=Q3) (ite (wa x.2.2 [39] ot=Q3) (ite (Q0 ([39].length+(Lib.replaceAll x.2.2 [39] ot).length<=1099511627776)=Q3) (ite (Q0 (Io ([39]++Lib.replaceAll x.2.2 [39] ot)+[39].length<=1099511627776)=Q3) Q3 Q4) Q4) Q4) Q3)))
def F92:z8:=zZ [zf] [Q6] (λx=>yB x.1) λx=>(iu x.1,())
theorem zpq:FK 294 F92:=by
 refine aL (zs2) λx a C b=>?_
 unfold yB at a;refine zF io (zs2) (λid _=>b id) (zvz x.1) ?_;generalize h:iu x.1=y;unfold iu at h
 try simp only[za.eta,zn]
 repeat' (first|with_reducible refine vz h a (λ_ h a=>?_) (λ_ h a=>?_)|with_reducible refine dG h (λ_ h=>?_) (λ_ h=>?_)|with_reducible refine iO a (λa=>?_)|with_reducible refine zT ?_)
 all_goals first|(cases a;done)|(subst h;first|rfl)
abbrev zvZ:Nat->aP:=λ_=>{ }
theorem zs0:zM (lx).P 289 Tryz.f289 1:=bL kw
theorem zvx(x:zN):rn lx 0 zvZ Tryz.f289 [zL aC x] []=Qc (Q0 (Io x.2.1+Io x.2.2.1<=1099511627776)) (Qc (Q0 (Io (x.2.1++x.2.2.1)+Io x.2.2.2.2.2.1<=1099511627776)) (Qc (Q0 (Io (x.2.1++x.2.2.1++x.2.2.2.2.2.1)+Io x.2.2.2.2.2.2.2.2.2.2.2.2<=1099511627776)) (Tr.ok (zO.ret (AV.bool (cond (x.2.1++x.2.2.1++x.2.2.2.2.2.1++x.2.2.2.2.2.2.2.2.2.2.2.2==[]) (cond (Γ Δ (Γ Δ (Γ Δ (Γ Δ (Γ Δ ((↑(Io x.2.2.2.1):Int)+(↑(Io x.2.2.2.2.1):Int))+(↑(Io x.2.2.2.2.2.2.1):Int))+(↑(Io x.2.2.2.2.2.2.2.1):Int))+(↑(Io x.2.2.2.2.2.2.2.2.2.1):Int))+(↑(Io x.2.2.2.2.2.2.2.2.2.2.1):Int))==0) (cond (im (zr x.2.2.2.2.2.2.2.2.1)) (im (zr x.2.2.2.2.2.2.2.2.2.2.2.1)) Q4) Q4) Q4)) [])))):=kw
def eS(x:zN):Sem Q7:=(cond (x.2.1++x.2.2.1++x.2.2.2.2.2.1++x.2.2.2.2.2.2.2.2.2.2.2.2==[]) (cond (Γ Δ (Γ Δ (Γ Δ (Γ Δ (Γ Δ ((↑(Io x.2.2.2.1):Int)+(↑(Io x.2.2.2.2.1):Int))+(↑(Io x.2.2.2.2.2.2.1):Int))+(↑(Io x.2.2.2.2.2.2.2.1):Int))+(↑(Io x.2.2.2.2.2.2.2.2.2.1):Int))+(↑(Io x.2.2.2.2.2.2.2.2.2.2.1):Int))==0) (cond (im x.2.2.2.2.2.2.2.2.1) (im x.2.2.2.2.2.2.2.2.2.2.2.1) Q4) Q4) Q4)
def eH(x:zN):Bool:=(ite (Q0 (Io x.2.1+Io x.2.2.1<=1099511627776)=Q3) (ite (Q0 (Io (x.2.1++x.2.2.1)+Io x.2.2.2.2.2.1<=1099511627776)=Q3) (ite (Q0 (Io (x.2.1++x.2.2.1++x.2.2.2.2.2.1)+Io x.2.2.2.2.2.2.2.2.2.2.2.2<=1099511627776)=Q3) Q3 Q4) Q4) Q4)
def F87:z8:=zZ [aC] [Q7] (λx=>eH x.1) λx=>(eS x.1,())
theorem zpk:FK 289 F87:=by
 refine aL (zs0) λx a C b=>?_
 unfold eH at a;refine zF io (zs0) (λid _=>b id) (zvx x.1) ?_;generalize h:eS x.1=y;unfold eS at h
 try simp only[za.eta]
 repeat' (first|with_reducible refine vz h a (λ_ h a=>?_) (λ_ h a=>?_)|with_reducible refine dG h (λ_ h=>?_) (λ_ h=>?_)|with_reducible refine iO a (λa=>?_)|with_reducible refine zT ?_)
 all_goals first|(cases a;done)|(subst h;first|rfl)
abbrev zv5:Nat->aP:=λ_=>{unroll:=Q3}
theorem zs6:zM (lx).P 301 Tryz.f301 1:=bL kw
theorem zvD(x:TS):rn lx 0 zv5 Tryz.f301 [zL Q6 x] []=let b:=(↑(Io x):Int);let c:=Qh (toNat 0) x;let d:=Qc (zK 0 (Io x)) (br ((↑(getD x (toNat 0) 0).toNat:Int)==39) (Qc (o7 x) (Tr.ok (zO.ret (tup [agg [ai (ig x).1.1,str (ig x).1.2],ai (ig x).2]) []))) (Qc (Q0 (0<=0)&&Q0 (0<=1)&&Q0 (1<=b)) (Tr.ok (zO.ret (tup [agg [ai 4,str (Qg (toNat 1-toNat 0) c)],ai 1]) []))));let a:=(↑(bw ba bQ x):Int);let h:=(↑(bw ap ap x):Int);br Q3 (Qc Q3 (br (Q0 (a>0)) (Qc (Q0 (0<=0)&&Q0 (0<=a)&&Q0 (a<=b)) (Tr.ok (zO.ret (tup [agg [ai 1,str (Qg (a.toNat-toNat 0) c)],ai a]) []))) (br Q3 (Qc Q3 (br (Q0 (h>0)) (Qc (Q0 (0<=0)&&Q0 (0<=h)&&Q0 (h<=b)) (Tr.ok (zO.ret (tup [agg [ai 2,str (Qg (h.toNat-toNat 0) c)],ai h]) []))) (br Q4 Tr.err d))) d))) d:=kw
def bP(x:TS):dd×zq:=(ite (Q3=Q3) (ite (Q0 ((↑(bw ba bQ x):Int)>0)=Q3) ((1,Qg ((↑(bw ba bQ x):Int).toNat-toNat 0) (Qh (toNat 0) x)),(↑(bw ba bQ x):Int)) (ite (Q3=Q3) (ite (Q0 ((↑(bw ap ap x):Int)>0)=Q3) ((2,Qg ((↑(bw ap ap x):Int).toNat-toNat 0) (Qh (toNat 0) x)),(↑(bw ap ap x):Int)) (ite (Q4=Q3) default (ite (((↑(getD x (toNat 0) 0).toNat:Int)==39)=Q3) ((ig x).1,(ig x).2) ((4,Qg (toNat 1-toNat 0) (Qh (toNat 0) x)),1)))) (ite (((↑(getD x (toNat 0) 0).toNat:Int)==39)=Q3) ((ig x).1,(ig x).2) ((4,Qg (toNat 1-toNat 0) (Qh (toNat 0) x)),1)))) (ite (((↑(getD x (toNat 0) 0).toNat:Int)==39)=Q3) ((ig x).1,(ig x).2) ((4,Qg (toNat 1-toNat 0) (Qh (toNat 0) x)),1)))
def lh(x:TS):Bool:=(ite (Q3=Q3) (ite (Q3=Q3) (ite (Q0 ((↑(bw ba bQ x):Int)>0)=Q3) (ite ((Q0 (0<=0)&&Q0 (0<=(↑(bw ba bQ x):Int))&&Q0 ((↑(bw ba bQ x):Int)<=(↑(Io x):Int)))=Q3) Q3 Q4) (ite (Q3=Q3) (ite (Q3=Q3) (ite (Q0 ((↑(bw ap ap x):Int)>0)=Q3) (ite ((Q0 (0<=0)&&Q0 (0<=(↑(bw ap ap x):Int))&&Q0 ((↑(bw ap ap x):Int)<=(↑(Io x):Int)))=Q3) Q3 Q4) (ite (Q4=Q3) Q4 (ite (zK 0 (Io x)=Q3) (ite (((↑(getD x (toNat 0) 0).toNat:Int)==39)=Q3) (ite (o7 x=Q3) Q3 Q4) (ite ((Q0 (0<=0)&&Q0 (0<=1)&&Q0 (1<=(↑(Io x):Int)))=Q3) Q3 Q4)) Q4))) Q4) (ite (zK 0 (Io x)=Q3) (ite (((↑(getD x (toNat 0) 0).toNat:Int)==39)=Q3) (ite (o7 x=Q3) Q3 Q4) (ite ((Q0 (0<=0)&&Q0 (0<=1)&&Q0 (1<=(↑(Io x):Int)))=Q3) Q3 Q4)) Q4))) Q4) (ite (zK 0 (Io x)=Q3) (ite (((↑(getD x (toNat 0) 0).toNat:Int)==39)=Q3) (ite (o7 x=Q3) Q3 Q4) (ite ((Q0 (0<=0)&&Q0 (0<=1)&&Q0 (1<=(↑(Io x):Int)))=Q3) Q3 Q4)) Q4))
def F99:z8:=zZ [Q6] [kD,zj] (λx=>lh x.1) λx=>((bP x.1).1,(bP x.1).2,())
theorem zpu:FK 301 F99:=by
 refine aL (zs6) λx a C b=>?_
 unfold lh at a;refine zF io (zs6) (λid _=>b id) (zvD x.1) ?_;generalize h:bP x.1=y;unfold bP at h
 skip
 repeat' (first|with_reducible refine vz h a (λ_ h a=>?_) (λ_ h a=>?_)|with_reducible refine dG h (λ_ h=>?_) (λ_ h=>?_)|with_reducible refine iO a (λa=>?_)|with_reducible refine zT ?_)
 all_goals first|(cases a;done)|(subst h;first|rfl)
abbrev zr1:Nat->aP:=λj=>if j=3 then{slots:=[1,5,8,9,10],prom:=[(5,Q2,.str)]}else{ }
abbrev Np(x:LS)(h i:Int)(l:LS):St:={tmps:=(tm 23 [(1,AV.clo (Fn.func 290) [] []),(5,AV.vec 0),(8,sl Q6 x),(9,ai h),(10,ai i)]),heap:=[AO.vec Q6 l]}
theorem zdy:zM (lx).P 299 Tryz.f299 2:=bL kw
theorem zvB(x:Sem Sh.str.sl):rn lx 0 zr1 Tryz.f299 [zL Sh.str.sl x,AV.clo (Fn.func 290) [] []] []=Tr.ok (zO.head 3 (ab Tryz.f299 3) (Np x (↑(Io x):Int) 0 [])):=kw
theorem YY(h:LS)(x i:Int)(l:LS):rh lx 0 zr1 Tryz.f299 3 (Np h x i l)=br (Q0 (i<x)) (Qc (zK i (Io h)) (Qc (Q0 (Io l+[mA (h.getD i.toNat (zi Q6))].length<=1073741824)) (Tr.ok (zO.head 3 (ab Tryz.f299 3) (Np h x (Γ Δ (i+1)) (l++[mA (h.getD i.toNat (zi Q6))])))))) (Qc (Q0 (Io l<=140737488355328)&&Q0 ((Lib.join l fi).length<=140737488355328)) (Tr.ok (zO.ret (str (Lib.join l fi)) []))):=kw
def dX:List (Sem Q6)->Int->List (Sem Q6)->Sem Q6
 |[],_,l=>(Lib.join l fi)
 |x::r,i,l=>(dX r (i+1) (l++[mA x]))
def eo:List (Sem Q6)->Int->List (Sem Q6)->Bool
 |[],_,l=>(ite ((Q0 (Io l<=140737488355328)&&Q0 ((Lib.join l fi).length<=140737488355328))=Q3) Q3 Q4)
 |x::r,i,l=>(ite (Q0 (Io l+[mA x].length<=1073741824)=Q3) (eo r (i+1) (l++[mA x])) Q4)
theorem zjv(g:∀id,C.ρ0 id=Q2)(c:LS)(n:Io c<=aI):∀(m i:Nat)(l:LS),Io c-i=m->i<=Io c->eo (c.drop i) i l=Q3->
  Reach (lx) C 299 (ab Tryz.f299 3) (Np c (Io c:Int) (i:Int) l) (λr h=>aU h [Q6] r=Q1 (dX (c.drop i) i l,())):=by
 intro m
 induction m with
 | zero=>
  intro i l k j x;obtain rfl:i=Io c:=by omega
  rw[jO]at x|-;refine zF io (zdy) (λid _=>g id) (YY _ _ _ _) ?_;rw[eo]at x;generalize a:dX [] _ l=y;rw[dX]at a;simp only[zG,Tr.val_brF];repeat' (first|with_reducible refine vz a x (λ_ a x=>?_) (λ_ a x=>?_)|with_reducible refine dG a (λ_ a=>?_) (λ_ a=>?_)|with_reducible refine iO x (λx=>?_)|with_reducible refine zT ?_)
  all_goals first|(cases x;done)|(subst a;first|rfl)
 | succ m I=>
  intro i l k j x;have b:i<Io c:=by omega
  have I:=I (i+1);have d:((i:Int)+1)=((i+1:Nat):Int):=by omega
  have e:=zu i ow;rw[fR b]at x|-;refine zF io (zdy) (λid _=>g id) (YY _ _ _ _) ?_;rw[eo]at x;generalize a:dX (c[i]::c.drop (i+1)) (i:Int) l=y;rw[dX]at a;simp only[zI b,zx b,cO c _ b,e,Tr.val_brT,Tr.val_chkT];clear e
  try simp only[zx b]at a
  simp only[d]at a
  try simp only[zx b]at x
  try simp only[d]at x
  repeat' (first|with_reducible refine vz a x (λ_ a x=>?_) (λ_ a x=>?_)|with_reducible refine dG a (λ_ a=>?_) (λ_ a=>?_)|with_reducible refine iO x (λx=>?_)|with_reducible refine zT ?_)
  all_goals first|(cases x;done)|(subst a;first|(change Reach _ _ _ _ _ _;apply I<;>first|omega|assumption)|rfl)
theorem zb0(a:∀id,C.ρ0 id=Q2)(x l:LS)(b:eo x 0 l=Q3):
  Reach (lx) C 299 (ab Tryz.f299 3) (Np x (Io x:Int) 0 l) (λr h=>aU h [Q6] r=Q1 (dX x 0 l,())):=
 Reach.len 8 (Q6) x rfl λc=>zjv a x c _ 0 l rfl (aM _) b
def gY(x:Sem Sh.str.sl):Sem Q6:=(dX x 0 [])
def nW(x:Sem Sh.str.sl):Bool:=(eo x 0 [])
def F97:z8:=Zc [Sh.str.sl] [Q6] [(290,(λx=>nW x.1),λx=>(gY x.1,()))]
theorem zps:FK 299 F97:=by
 refine NT (zdy) λj c g d x h C b=>?_
 simp only[dU,cd]at d;obtain⟨rfl,rfl,rfl⟩:=d
 replace h:nW x.1=Q3:=h
 unfold nW at h;refine zF io (zdy) (λid _=>b id) (zvB x.1) ?_;generalize a:gY x.1=y;unfold gY at a
 skip
 repeat' (first|with_reducible refine vz a h (λ_ a h=>?_) (λ_ a h=>?_)|with_reducible refine dG a (λ_ a=>?_) (λ_ a=>?_)|with_reducible refine iO h (λh=>?_)|with_reducible refine zT ?_)
 all_goals first|(cases h;done)|(subst a;first|(change Reach _ _ _ _ _ _;apply zb0 b<;>first|assumption|exact h)|rfl)
def Ra:=lx.addL [(287,F85),(294,F92),(289,F87),(301,F99),(299,F97)]
theorem xh:zw Ra:=io.addL<|fc zpi<|fc zpq<|fc zpk<|fc zpu<|fc zps iH
end
end Cad
