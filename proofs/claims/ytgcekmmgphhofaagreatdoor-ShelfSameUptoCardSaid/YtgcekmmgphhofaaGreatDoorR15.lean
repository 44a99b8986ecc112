/- Expressions. -/
import Derived.Test.YtgcekmmgphhofaaGreatDoorR14
namespace Cad
open Go Go.Proofs Tryz
open List renaming length->Io,take->Qg,length->M
open IntKind renaming wrap->Γ,i64->Δ
open AO renaming box->Qb
open Tr renaming «to»->Qa,val->Q9
open Sh renaming bool->Q8,expr->Q6
open Bool renaming true->Z,false->J
open Option renaming some->Q1,some->Y
open Decidable renaming decide->L
open Int (toNat)
open Int renaming toNat->T
open List (getD)
open List renaming getD->W
open Tr (chk br re)
open AV (nils agg tup ptr kb)
open AV renaming sl->O,str->X
open Cad renaming AV->R,ze->Q,Sem->N,ai->I,ow->S,Tr->K
noncomputable section
abbrev iL:List (zD×R):=[(lq,.clo (.func 320) [] []),(Dg,.clo (.func 321) [] []),(sK,.clo (.func 322) [] []),([61],.clo (.func 324) [] []),([60],.clo (.func 325) [] []),([43],.clo (.func 300) [] []),([45],.clo (.func 326) [] []),(xY,.clo (.func 327) [] [])]
abbrev ztO:Nat->aR:=λ_=>{ }
theorem zpp:zJ El.P 266 f266 0:=bG kw
theorem zsu:(run El 0 ztO (Func.results f266).toList 400 (aK f266) (aC (Func.ntmps f266) [] [])).val=Y (zM.ret (AV.mp 0) [AO.fmap iL]):=kw
def G23:ee []:=λ_ h=>match h with
 |[]=>.ok (.mp 0,[.fmap iL])
 |_=>.err
def F23:zV:=au [] G23
theorem zlf:FK 266 F23:=by
 refine cP zpp λx c b h C a=>?_
 unfold G23 at h;split at h
 .simp only[Q9,ax]at h;subst h;exact mL (n0:=0) vg zpp a zsu rfl
 .simp at h
def opV(o:zD)(x y:V):V:=if(o==lq)=Z then zbz x y else if(o==Dg)=Z then vOr x y else if(o==sK)=Z then Qy x y else if(o==[61])=Z then Ij x y else if(o==[60])=Z then Qw x y else if(o==[43])=Z then xS x y else if(o==[45])=Z then Il x y else if(o==xY)=Z then Im x y else(0,0,[])
def opC(o:zD):Bool:=if(o==lq)=Z then Z else if(o==Dg)=Z then Z else if(o==sK)=Z then Z else if(o==[61])=Z then Z else if(o==[60])=Z then Z else if(o==[43])=Z then Z else if(o==[45])=Z then Z else if(o==xY)=Z then Z else J
def opL(o:zD)(x y:V)(h:List AO):Option zM:=if(o==lq)=Z then Y (.ret (zI Q (zbz x y)) h)else if(o==Dg)=Z then Y (.ret (zI Q (vOr x y)) h)else if(o==sK)=Z then Y (.ret (zI Q (Qy x y)) h)else if(o==[61])=Z then Y (.ret (zI Q (Ij x y)) h)else if(o==[60])=Z then Y (.ret (zI Q (Qw x y)) h)else if(o==[43])=Z then Y (.ret (zI Q (xS x y)) h)else if(o==[45])=Z then Y (.ret (zI Q (Il x y)) h)else if(o==xY)=Z then Y (.ret (zI Q (Im x y)) h)else none
def zgj(g:aU->zo->zg->V)(c:aU->zo->zg->Bool):ee [none,Y .expr]:=λx h=>match x,h with
 | (.agg [.sl (.pr .str (.pr (.int .i64) .bool)) cols,.sl (.pr (.int .i64) (.pr (.int .i64) .str)) row,.mp 0],e,_),[.fmap [(k1,.clo (.func 320) [] []),(k2,.clo (.func 321) [] []),(k3,.clo (.func 322) [] []),(k4,.clo (.func 324) [] []),(k5,.clo (.func 325) [] []),(k6,.clo (.func 300) [] []),(k7,.clo (.func 326) [] []),(k8,.clo (.func 327) [] [])]]=>
  .chk (k1==lq&&(k2==Dg&&(k3==sK&&(k4==[61]&&(k5==[60]&&(k6==[43]&&(k7==[45]&&(k8==xY)))))))) (.chk (c cols row e) (.ok (zI Q (g cols row e),[.fmap iL])))
 |_,_=>.err
def QC(g:aU->zo->zg->V)(c:aU->zo->zg->Bool):zV:=au [none,Y .expr] (zgj g c)
def Ru(g:aU->zo->zg->V)(c:aU->zo->zg->Bool):bS:=El.add 267 (QC g c)
variable {h:aU->zo->zg->V}{c:aU->zo->zg->Bool}
theorem AQ(x:FK 267 (QC h c)):zm (Ru h c):=vg.add x
theorem W7(g:aU->zo->zg->V)(c:aU->zo->zg->Bool):zJ (Ru g c).P 267 f267 2:=bG kw
theorem zg7(g:aU->zo->zg->V)(c:aU->zo->zg->Bool)(h:LC)(x:LV)(o:zD)(v:V)(s:zD):(run (Ru g c) 1 unr (Func.results f267).toList 600 (aK f267) (aC (Func.ntmps f267) [agg [O zu h,O Q x,AV.mp 0],zI Q6 (.mk o v s [])] [AO.fmap iL])).val=if(o==sJ)=Z then Y (.ret (zI Q v) [.fmap iL])else if(o==ic)=Z then(ite ((cond (L (bE h s<0)) Z (L (bE h s>=(M x:Int))))=Z) (Y (.ret (zI Q (0,0,[])) [.fmap iL])) (ite (zT (bE h s) (M x)=Z) (Y (.ret (zI Q (x.getD (T (bE h s)) (zk Q))) [.fmap iL])) none))else opL o (0,0,[]) (0,0,[]) [.fmap iL]:=kw
theorem zg8(g:aU->zo->zg->V)(c:aU->zo->zg->Bool)(h:LC)(x:LV)(o:zD)(v:V)(s:zD)(a:zg):(run (Ru g c) 1 unr (Func.results f267).toList 600 (aK f267) (aC (Func.ntmps f267) [agg [O zu h,O Q x,AV.mp 0],zI Q6 (.mk o v s [a])] [AO.fmap iL])).val=if(o==sJ)=Z then Y (.ret (zI Q v) [.fmap iL])else if(o==ic)=Z then(ite ((cond (L (bE h s<0)) Z (L (bE h s>=(M x:Int))))=Z) (Y (.ret (zI Q (0,0,[])) [.fmap iL])) (ite (zT (bE h s) (M x)=Z) (Y (.ret (zI Q (x.getD (T (bE h s)) (zk Q))) [.fmap iL])) none))else if c h x (.mk a.op a.v a.s a.l)=Z then opL o (g h x (.mk a.op a.v a.s a.l)) (0,0,[]) [.fmap iL]else none:=kw
theorem zg9(g:aU->zo->zg->V)(c:aU->zo->zg->Bool)(h:LC)(x:LV)(o:zD)(v:V)(s:zD)(a b:zg):(run (Ru g c) 1 unr (Func.results f267).toList 600 (aK f267) (aC (Func.ntmps f267) [agg [O zu h,O Q x,AV.mp 0],zI Q6 (.mk o v s [a,b])] [AO.fmap iL])).val=if(o==sJ)=Z then Y (.ret (zI Q v) [.fmap iL])else if(o==ic)=Z then(ite ((cond (L (bE h s<0)) Z (L (bE h s>=(M x:Int))))=Z) (Y (.ret (zI Q (0,0,[])) [.fmap iL])) (ite (zT (bE h s) (M x)=Z) (Y (.ret (zI Q (x.getD (T (bE h s)) (zk Q))) [.fmap iL])) none))else if c h x (.mk a.op a.v a.s a.l)=Z then(ite (c h x (.mk b.op b.v b.s b.l)=Z) (opL o (g h x (.mk a.op a.v a.s a.l)) (g h x (.mk b.op b.v b.s b.l)) [.fmap iL]) none)else none:=kw
variable {a:Option zM}
theorem pV{Φ:zM->Prop}{c:Bool}{b:Option zM}(h:c=Z->gq Φ a)(x:c=J->gq Φ b):gq Φ (ite (c=Z) a b):=by
 cases c
 .simpa using x rfl
 .simpa using h rfl
theorem wt{E:bS}{C:eS}{k:FuncId}{f:Func}{Q:R->List AO->Prop}{n n0:Nat}(c:zm E)(d:zJ E.P k f n)(b:∀id,n0<=id->C.ρ0 id=none){keep:Nat->aR}{x:Nat}
  {t:List Item} {s:St}  (e:(run E n0 keep f.results.toList x t s).val=a) (h:gq (ju E C k Q) a):Reach E C k t s Q:=
 zB c d b rfl (by rw[e];exact h)
theorem wj{E:bS}{C:eS}{o:zD}{x y:V}{h:List AO}(b:opC o=Z):gq (ju E C 267 (λr d=>(r,d)=(zI Q (opV o x y),h))) (opL o x y h):=by
 generalize c:opV o x y=z;unfold opC at b;unfold opV at c;unfold opL;repeat' (refine pV (λa=>?_) (λa=>?_)<;>first|(rw[zf a]at c;try rw[zf a]at b)|(rw[zh (mF a)]at c;try rw[zh (mF a)]at b))
 all_goals first|(cases b;done)|(subst c;rfl)
def Lu(g:aU->zo->zg->V)(c:LC)(h:LV):zg->V
 | .mk o v s l=>if (o==sJ)=Z then v else
  if(o==ic)=Z then(ite ((cond (L (bE c s<0)) Z (L (bE c s>=(M h:Int))))=Z) (0,0,[]) (h.getD (T (bE c s)) (zk Q)))else
  match l with
  |[]=>opV o (0,0,[]) (0,0,[])
  |[a]=>opV o (g c h a) (0,0,[])
  |[a,b]=>opV o (g c h a) (g c h b)
  |_=>(0,0,[])
def uE(c:aU->zo->zg->Bool)(h:LC)(x:LV):zg->Bool
 |.mk _ _ _ (_::_::_::_)=>J
 | .mk o _ s l=>if (o==sJ)=Z then Z else
  if(o==ic)=Z then(ite ((cond (L (bE h s<0)) Z (L (bE h s>=(M x:Int))))=Z) Z (zT (bE h s) (M x)))else
  match l with
  |[]=>opC o
  |[a]=>if c h x a=Z then opC o else J
  |[a,b]=>if c h x a=Z then(ite (c h x b=Z) (opC o) J)else J
  |_=>J
theorem zeV(p:FK 267 (QC h c)):FK 267 (QC (Lu h) (uE c)):=by
 refine cP (E:=Ru h c) (W7 h c) λx w t m C n=>?_
 unfold zgj at m;split at m
 .rename_i j k e u y A D F G H P U;simp only[Q9]at m;split at m
  .rename_i q;split at m
   .rename_i g;simp only[ar,be]at q;obtain⟨rfl,rfl,rfl,rfl,rfl,rfl,rfl,rfl⟩:=q;simp only[ax]at m;subst m;have⟨o,v,s,l⟩:=e
    match l,g with
    | [],g=>
     refine wt (n0:=1) (AQ p) (W7 h c) n (zg7 h c j k o v s) ?_;generalize i:Lu h j k (.mk o v s [])=z;rw[uE]at g;rw[Lu]at i;repeat' (first|(subst i;exact wj g)|refine pV (λd=>?_) (λd=>?_)<;>first|(first|rw[zf d]at i g|rw[zf d]at g|rw[zf d]at i)|(first|rw[zh (mF d)]at i g|rw[zh (mF d)]at g|rw[zh (mF d)]at i)|skip)
     all_goals first|(subst i;exact wj g)|(subst i;rfl)|(rw[g]at d;cases d)
    | [a],g=>
     refine wt (n0:=1) (AQ p) (W7 h c) n (zg8 h c j k o v s a) ?_;generalize i:Lu h j k (.mk o v s [a])=z;rw[uE]at g;rw[Lu]at i;simp only[zg.eta];repeat' (first|(subst i;exact wj g)|refine pV (λd=>?_) (λd=>?_)<;>first|(first|rw[zf d]at i g|rw[zf d]at g|rw[zf d]at i)|(first|rw[zh (mF d)]at i g|rw[zh (mF d)]at g|rw[zh (mF d)]at i)|skip)
     all_goals first|(subst i;exact wj g)|(subst i;rfl)|(cases g;done)|(rw[g]at d;cases d)
    | [a,b],g=>
     refine wt (n0:=1) (AQ p) (W7 h c) n (zg9 h c j k o v s a b) ?_;generalize i:Lu h j k (.mk o v s [a,b])=z;rw[uE]at g;rw[Lu]at i;simp only[zg.eta];repeat' (first|(subst i;exact wj g)|refine pV (λd=>?_) (λd=>?_)<;>first|(first|rw[zf d]at i g|rw[zf d]at g|rw[zf d]at i)|(first|rw[zh (mF d)]at i g|rw[zh (mF d)]at g|rw[zh (mF d)]at i)|skip)
     all_goals first|(subst i;exact wj g)|(subst i;rfl)|(cases g;done)|(rw[g]at d;cases d)
    | _::_::_::_,g=>
     cases g
   .simp at m
  .simp at m
 .simp at m
mutual
def N1:Nat->aU->zo->zg->V
 |0=>λ_ _ _=>(0,0,[])
 |n+1=>Lu (N1 n)
def uD:Nat->aU->zo->zg->Bool
 |0=>λ_ _ _=>J
 |n+1=>uE (uD n)
end
theorem Tz:∀n,FK 267 (QC (N1 n) (uD n))
 | 0=>by
  have h:FK 267 (au [none,Y .expr] (λ_ _=>.err)):=cP (W7 (λ_ _ _=>(0,0,[])) (λ_ _ _=>J)) (E:=El) λx c b a=>by simp at a
  refine na (ι:=Unit) (Gs:=λ_ _ _=>.err) (λ_=>h) λx c b a=>?_
  unfold zgj at a;grind[Q9,uD]
 |n+1=>zeV (Tz n)
def F24:zV:=QC (N1 16) (uD 16)
theorem zlg:FK 267 F24:=Tz 16
def Em:=El.addL [(266,F23),(267,F24)]
theorem vj:zm Em:=vg.addL<|fc zlf<|fc zlg ip
abbrev ztN:Nat->aR:=λ_=>{ }
theorem zpn:zJ (Em).P 133 f133 1:=bG kw
theorem zst(x:N Q6):rn Em 0 ztN f133 [zI Q6 x] []=chk (tN 16 (zP x) 1 0) (Tr.ok (zM.ret (AV.bool (gZ 16 (zP x) 1 0).1) [])):=kw
def gY(x:N Q6):N Q8:=(gZ 16 x 1 0).1
def xl(x:N Q6):Bool:=if tN 16 x 1 0=Z then Z else J
def F22:zV:=ae [Q6] [Q8] (λx=>xl x.1) λx=>(gY x.1,())
theorem zcm:FK 133 F22:=by
 refine aH (zpn) λx h C b=>?_
 unfold xl at h;refine zB vj (zpn) (λid _=>b id) (zst x.1) ?_;generalize a:gY x.1=y;unfold gY at a;exact LG a h
abbrev kp7:Nat->aR:=λ_=>{ }
theorem ok7:zJ (Em).P 104 f104 1:=bG kw
theorem go7(x:N Q6):rn Em 0 kp7 f104 [zI Q6 x] []=chk (JN 16 (zP x) 14 80) (Tr.ok (zM.ret (agg [X (zg.op (tp 16 (zP x) 14 80).1),I (zg.v (tp 16 (zP x) 14 80).1).1,I (zg.v (tp 16 (zP x) 14 80).1).2.1,X (zg.v (tp 16 (zP x) 14 80).1).2.2,X (zg.s (tp 16 (zP x) 14 80).1),O Q6 (zg.l (tp 16 (zP x) 14 80).1)]) [])):=kw
def oG(x:N Q6):N Q6:=zg.mk (zg.op (tp 16 x 14 80).1) (zg.v (tp 16 x 14 80).1) (zg.s (tp 16 x 14 80).1) (zg.l (tp 16 x 14 80).1)
def OO(x:N Q6):Bool:=if JN 16 x 14 80=Z then Z else J
def F7:zV:=ae [Q6] [Q6] (λx=>OO x.1) λx=>(oG x.1,())
theorem zlV:FK 104 F7:=by
 refine aH (ok7) λx h C b=>?_
 unfold OO at h;refine zB vj (ok7) (λid _=>b id) (go7 x.1) ?_;generalize a:oG x.1=y;unfold oG at a;exact LG a h
def En:=Em.addL [(133,F22),(104,F7)]
theorem vl:zm En:=vj.addL<|fc zcm<|fc zlV ip
abbrev ztP:Nat->aR:=λ_=>{ }
theorem zpw:zJ (En).P 229 f229 2:=bG kw
theorem zsy(h:N Q6)(x:N zu.sl):rn En 0 ztP f229 [zI Q6 h,zI zu.sl x] []=let a:=zP h;chk (xl a) (br (!gY a) (Tr.ok (zM.ret (tup [I 0,I 1]) [])) (chk (kf 16 a x) (Tr.ok (zM.ret (tup [I (lk 16 a x).1,I (lk 16 a x).2]) [])))):=kw
def fJ(x:N Q6)(h:N zu.sl):zy×zy:=if(!gY x)=Z then(0,1)else((lk 16 x h).1,(lk 16 x h).2)
def Gm(x:N Q6)(h:N zu.sl):Bool:=if xl x=Z then if(!gY x)=Z then Z else if kf 16 x h=Z then Z else J else J
def F30:zV:=ae [Q6,zu.sl] [zi,zi] (λx=>Gm x.1 x.2.1) λx=>((fJ x.1 x.2.1).1,(fJ x.1 x.2.1).2,())
theorem zcn:FK 229 F30:=by
 refine aH (zpw) λx h C b=>?_
 unfold Gm at h;refine zB vl (zpw) (λid _=>b id) (zsy x.1 x.2.1) ?_;generalize a:fJ x.1 x.2.1=y;unfold fJ at a;exact LG a h
abbrev ztM:Nat->aR:=λ_=>{ }
theorem zpc:zJ (En).P 208 f208 3:=bG kw
theorem zsn(b:N Q6)(x:N zu.sl)(h:N ze.sl):rn En 0 ztM f208 [zI Q6 b,zI zu.sl x,zI ze.sl h] []=let a:=zP b;chk (xl a) (br (!gY a) (Tr.ok (zM.ret (agg [I 0,I 0,X []]) [])) (chk (lq==lq&&(Dg==Dg&&(sK==sK&&([61]==[61]&&([60]==[60]&&([43]==[43]&&([45]==[45]&&xY==xY))))))) (chk (uD 16 x h a) (Tr.ok (zM.ret (agg [I (N1 16 x h a).1,I (N1 16 x h a).2.1,X (N1 16 x h a).2.2]) []))))):=kw
def xk(x:N Q6)(h:N zu.sl)(a:N ze.sl):zw:=if(!gY x)=Z then(0,0,[])else N1 16 h a x
def Gl(x:N Q6)(h:N zu.sl)(a:N ze.sl):Bool:=if xl x=Z then if(!gY x)=Z then Z else if(lq==lq&&(Dg==Dg&&(sK==sK&&([61]==[61]&&([60]==[60]&&([43]==[43]&&([45]==[45]&&xY==xY)))))))=Z then if uD 16 h a x=Z then Z else J else J else J
def F11:zV:=ae [Q6,zu.sl,ze.sl] [Q] (λx=>Gl x.1 x.2.1 x.q.1) λx=>(xk x.1 x.2.1 x.q.1,())
theorem zci:FK 208 F11:=by
 refine aH (zpc) λx h C b=>?_
 unfold Gl at h;refine zB vl (zpc) (λid _=>b id) (zsn x.1 x.2.1 x.q.1) ?_;generalize a:xk x.1 x.2.1 x.q.1=y;unfold xk at a;exact LG a h
def zcD:=En.addL [(229,F30),(208,F11)]
theorem RC:zm zcD:=vl.addL<|fc zcn<|fc zci ip
theorem nW(d:Int)(h:-1000<=d)(x:d<=1000):Γ Δ d=d:=by rw[lz];omega
theorem MQ{P:Nat->zg->zg->Prop}(hP:∀h e(o t s:zD)(l:List zg),(∀y∈l,∃x∈zg.l e,P h x y)->M l<=3->M t<=45->M s<=20->P (h+1) e (.mk o ((zg.v e).1,(zg.v e).2.1,t) s l)):
  ∀(h:Nat)(e:zg)(d n:Int),0<=d->d<h->h<=100->∃r m,oF h e d n=Y (r,m,())/\P h e r
 |0,_,_,_,h1,h2,_=>by omega
 | h + 1,e,d,n,h1,h2,h3=>by
  have IH:∀x m,0<d->∃r k,oF h x (Γ Δ (d-1)) m=Y (r,k,())/\P h x r:=λx m hd=>by
   rw[nW _ S S];exact MQ hP h x (d-1) m S S S
  generalize hg:(λH U x2=>Jo (oF h H U x2))=g;generalize hc:(λH U x2=>(oF h H U x2).isSome)=c
  have F:∀(k i:Nat)(n:Int)(a:List zg)(z:zn oE)(o t s:zD),i+k=3->M a=i->(∀y∈a,∃x∈zg.l e,P h x y)->
    ∃m r G,aF (wB g c) m (.h10 d n (i:Int) (e,()) z (o,(zg.v e).1,(zg.v e).2.1,t,s,a,())) (.tup [.agg [.str o,I (zg.v e).1,I (zg.v e).2.1,.str t,.str s,.vec 0],I G],[.vec .expr r])/\m<=k+1/\(∀y∈r,∃x∈zg.l e,P h x y)/\M r<=3:=by
   intro k
   induction k with
   | zero=>
    intro i n a z o t s hi ha A;refine⟨1,a,n,aF.of ?_,S,A,S⟩;grind[wB,Q9]
   | succ k ih=>
    intro i n a z o t s hi ha A;by_cases u:(cond (L ((i:Int)<(↑(zg.l e).length:Int))) (cond (L ((i:Int)<3)) (cond (L (d>0)) (L (n>0)) J) J) J)=Z
    .have hl:i<(zg.l e).length/\0<d:=by
      cases h1:L ((i:Int)<(↑(zg.l e).length:Int))<;>cases h2:L ((i:Int)<3)<;>cases h3:L (d>0)<;>simp_all
     have⟨r,m,b,j⟩:=IH (zg.l e)[i] n hl.2;have gx:g (zg.l e)[i] (Γ Δ (d-1)) n=(r,m):=by rw[<-hg];simp only[b];rfl
     have cx:c (zg.l e)[i] (Γ Δ (d-1)) n=Z:=by rw[<-hc];simp only[b];rfl
     have⟨m2,r2,n2,C,k2,D,E⟩:=ih (i+1) m (a++[r]) z o t s S sg (λy hy=>by
      grind)
     refine⟨m2+1,r2,n2,(z8.of ?_).ends C,?_,D,E⟩
     .grind[zT,wB,Q9,zt,zz,af]
     .omega
    .refine⟨1,a,n,aF.of ?_,S,A,S⟩;simp only[wB,Q9];rw[zh u]
  have h8:∀(z:zn oE)(o t s:zD),M t<=45->M s<=20->∃r m R,aF (wB g c) 101 (.h500008 d (Γ Δ (n-1)) (e,()) z (o,(zg.v e).1,(zg.v e).2.1,t,s,())) R/\bc R.2 [Q6,zi] R.1=Y (r,m,())/\P (h+1) e r:=λz o t s ht w=>by
   have⟨m,r,G,C,k2,D,E⟩:=F 3 0 (Γ Δ (n-1)) [] z o t s rfl rfl sw;exact⟨.mk o ((zg.v e).1,(zg.v e).2.1,t) s r,G,_,((z8.of rfl).ends C).mono S,rfl,hP h e o t s r D E ht w⟩
  have h6:∀(z:zn oE)(o s:zD),M s<=20->∃r m R,aF (wB g c) 102 (.h500006 d n (L ((↑(M (zg.v e).q):Int)>45)) (e,()) z (o,(zg.v e).1,(zg.v e).2.1,(zg.v e).q,s,())) R/\bc R.2 [Q6,zi] R.1=Y (r,m,())/\P (h+1) e r:=λz o s w=>by
   by_cases u:(M (zg.v e).q:Int)>45
   .have⟨r,m,R,b,j,p⟩:=h8 z o (Qg (T 45-T 0) (List.drop (T 0) (zg.v e).q)) s sg w;refine⟨r,m,R,(z8.of ?_).ends b,j,p⟩;grind[wB,Q9]
   .have⟨r,m,R,b,j,p⟩:=h8 z o (zg.v e).q s S w;refine⟨r,m,R,(z8.of ?_).ends b,j,p⟩;grind[wB,Q9]
  have h4:∀(z:zn oE)(o:zD),∃r m R,aF (wB g c) 103 (.h500004 d n (L ((↑(M (zg.s e)):Int)>20)) (e,()) z (o,(zg.v e).1,(zg.v e).2.1,(zg.v e).q,zg.s e,())) R/\bc R.2 [Q6,zi] R.1=Y (r,m,())/\P (h+1) e r:=λz o=>by
   by_cases u:(M (zg.s e):Int)>20
   .have⟨r,m,R,b,j,p⟩:=h6 z o (Qg (T 20-T 0) (List.drop (T 0) (zg.s e))) sg;refine⟨r,m,R,(z8.of ?_).ends b,j,p⟩;grind[wB,Q9]
   .have⟨r,m,R,b,j,p⟩:=h6 z o (zg.s e) S;refine⟨r,m,R,(z8.of ?_).ends b,j,p⟩;grind[wB,Q9]
  have e0:oF (h+1) e d n=zm5 g c e d n:=by rw[<-hg,<-hc];rfl
  rw[e0];by_cases u:(M (zg.op e):Int)>8
  .have⟨r,m,R,b,j,p⟩:=h4 ([],0,0,[],[],()) (Qg (T 8-T 0) (List.drop (T 0) (zg.op e)));refine⟨r,m,zF ?_ b S j,p⟩;grind[zax,Q9]
  .have⟨r,m,R,b,j,p⟩:=h4 ([],0,0,[],[],()) (zg.op e);refine⟨r,m,zF ?_ b S j,p⟩;grind[zax,Q9]
theorem MP(x:Nat)(e:zg)(d n:Int)(a:0<=d)(b:d<x)(c:x<=100):JN x e d n=Z:=by have⟨r,m,h,_⟩:=MQ (P:=λ_ _ _=>True) (λ_ _ _ _ _ _ _ _ _ _=>trivial) x e d n a b c;unfold JN;rw[h];rfl
theorem BV{g:zg->Int->Int->Bool×Int}{c:zg->Int->Int->Bool}{d:Int}(h:∀x n,c x (Γ Δ (d+1)) n=Z):∀(l:List zg)(n:Int),BU g c d l n=Z
 |[],_=>rfl
 | x::r,n=>by
  rw[BU,zf (h x n)];split
  .rfl
  .exact BV h r _
theorem BT:∀(h:Nat)(e:zg)(d n:Int),0<=d->d<=13->14<=d+h->tN h e d n=Z
 |0,_,_,_,_,_,_=>by omega
 | h+1,e,d,n,c,g,i=>by
  rw[tN];unfold Pz;by_cases a:d>12
  .simp[a]
  .have b:BU (gZ h) (tN h) d e.l (Γ Δ (n+1))=Z:=BV (λx m=>by
    rw[nW _ S S];exact BT h x (d+1) m S S S) _ _
   repeat' split
   all_goals first|rfl|exact b
abbrev Nc:zg:=.mk [] (0,0,[]) [] []
theorem NB(h:Nat)(e:zg):jC (h+1) e Nc=Z:=by
 rw[jC];unfold HQ;have x:Bi (gz h) (jC h) e.l []=Z:=by
  unfold Bi;split
  .rfl
  .cases e.l<;>rfl
 grind[zg.l]
theorem ir{α:Type}(p:α->Bool):∀(l:List α)(i:Nat),aj p l i=-1\/((i:Int)<=aj p l i/\aj p l i<i+M l)
 |[],_=>.inl rfl
 | x::r,i=>by
  unfold aj;split
  .exact .inr ⟨S,sg⟩
  .rcases ir p r (i+1)with h|⟨a,b⟩
   .exact .inl h
   .exact .inr ⟨S,sg⟩
theorem Ge(l:aU)(s:zD):bE l s=-1\/(0<=bE l s/\bE l s<M l):=by grind[ir,bE]
theorem lM(o:zD):(dl o=0/\(o=sJ\/o=ic))\/(dl o=1/\(o=sK\/o=xY))\/
  (dl o=2/\(o=lq\/o=Dg\/o=[61]\/o=[60]\/o=[43]\/o=[45]))\/dl o=-1:=by
 unfold dl xG;simp only[X6];repeat' split
 all_goals simp_all
theorem wh{g:zg->Int->Int->Bool×Int}{e:zg}{d b:Int}(h:(yj g e d b).1=Z):(e.l.length:Int)=dl e.op/\
  ((e.op=sJ\/e.op=ic)\/(oH g d e.l (Γ Δ (b+1))).1=Z):=by grind[yj]
theorem tO{g:zg->Int->Int->Bool×Int}{d:Int}:∀(l:List zg)(n:Int),(oH g d l n).1=Z->∀x∈l,∃m,(g x (Γ Δ (d+1)) m).1=Z
 |[],_,_,_,a=>by simp at a
 | y::r,n,h,x,a=>by
  rw[oH]at h;split at h
  .cases h
  .rename_i b;rcases bD.1 a with rfl|a
   .exact⟨n,by simpa using b⟩
   .exact tO r _ h x a
theorem xR{g:zg->aU->Int×Int}{c:zg->aU->Bool}{a:aU}{o:zD}{d b:Int}{q k:zD}{w:List zg}:
    ∀(l:List zg)(i:Int)(e:List Int),(∀x∈l,c x a=Z)->((M e:Int)+M l)=dl o->fS g c a o d b q k w l i e=Z
  | [], i,e,_,j=>by
    have j:(M e:Int)=dl o:=by simpa using j
    have n:L (bE a k<0)=Z\/zT (bE a k) (M a)=Z:=by
      rcases Ge a k with h|⟨s,m⟩
      · exact .inl (by rw[h];rfl)
      · exact .inr (by simp[zT,s,m])
    have m:o=[61]\/o=[60]->M e=2:=by
      rintro(rfl|rfl)
      · have:dl [61]=2:=by decide
        omega
      · have:dl [60]=2:=by decide
        omega
    unfold fS;repeat' split
    all_goals first
      |rfl
      |(exfalso;rcases n with h|h<;>simp_all;done)
      | (exfalso
         rename_i z p;have t:=m (by simp_all);rw[t]at p;exact p (by cases A:(e.getD (T 0) (zk zi)==e.getD (T 1) (zk zi))<;>cases C:(e.getD (T 0) (zk zi)==0)<;>rfl))
  | x :: r,i,e,hc,j=>by
    have u:dl o<=2:=by rcases lM o with h|h|h|h<;>omega
    rw[fS,zf (hc x sw)];split
    · rfl
    · rw[zf (by simp at j|-;omega)]
      exact xR r (i+1) _ (λy v=>hc y (by simp[v])) (by simp at j|-;omega)
theorem uA:∀(a:Nat)(e:zg)(d n:Int)(c:aU),(gZ a e d n).1=Z->kf a e c=Z
 |0,_,_,_,_,h=>by cases h
 | a+1,e,d,n,c,h=>by
  rw[gZ]at h;have⟨g,b⟩:=wh h;rw[kf];unfold Ah;refine xR e.l 0 [] (λx j=>?_) (by simpa using g);rcases b with b|b
  .exfalso;have:dl e.op=0:=by
    rcases b with b|b<;>rw[b]<;>decide
   simp_all
  .have⟨m,i⟩:=tO e.l _ b x j;exact uA a x _ _ c i
theorem C9:∀(c:Nat)(e:zg)(d n:Int)(g:aU)(j:zo),(gZ c e d n).1=Z->uD c g j e=Z
 |0,_,_,_,_,_,h=>by cases h
 | c + 1,.mk p v s l,d,n,g,j,h=>by
  rw[gZ]at h;have⟨i,o⟩:=wh h;have i:(M l:Int)=dl p:=i;have o:(p=sJ\/p=ic)\/(oH (gZ c) d l (Γ Δ (n+1))).1=Z:=o;have k:∀x∈l,(¬(p=sJ\/p=ic))->uD c g j x=Z:=by
   intro x k t;rcases o with o|o
   .exact(t o).elim
   .have⟨m,y⟩:=tO l _ o x k;exact C9 c x _ _ g j y
  have w:(ite ((cond (L (bE g s<0)) Z (L (bE g s>=(M j:Int))))=Z) Z (zT (bE g s) (M j)))=Z:=by
   split
   .rfl
   .grind[zT]
  rw[uD];rcases lM p with⟨u,q⟩|⟨u,q⟩|⟨u,q⟩|u
  .have:l=[]:=Do S;grind[uE]
  .match l,i,k with
   | [a],_,k=>
    rcases q with rfl|rfl
    .rw[uE];exact(zf (k a sw (by decide))).trans rfl
    .rw[uE];exact(zf (k a sw (by decide))).trans rfl
   |[],i,_=>simp at i;omega
   |_::_::_,i,_=>simp at i;omega
  .match l,i,k with
   | [a,b],_,k=>
    rcases q with rfl|rfl|rfl|rfl|rfl|rfl<;>
     (rw[uE];exact(zf (k a sw (by decide))).trans ((zf (k b sw (by decide))).trans rfl))
   |[],i,_=>simp at i;omega
   |[_],i,_=>simp at i;omega
   |_::_::_::_,i,_=>simp at i;omega
  .omega
theorem rH(e:zg):xl e=Z:=by grind[xl,BT]
theorem Mj(e:zg):OO e=Z:=by grind[OO,MP]
theorem Jp(e:zg)(c:aU):Gm e c=Z:=by grind[Gm,rH,uA,gY]
theorem Jn(e:zg)(c:aU)(h:zo):Gl e c h=Z:=by grind[Gl,rH,C9,gY]
def zjU:zV:=ay [Q6] [Q8] λx=>(gY x.1,())
theorem zeS:FK 133 zjU:=nc zcm λx=>rH x.1
def F7t:zV:=ay [Q6] [Q6] λx=>(oG x.1,())
theorem zl3:FK 104 F7t:=nc zlV λx=>Mj x.1
def zj3:zV:=ay [Q6,zu.sl] [zi,zi] λx=>((fJ x.1 x.2.1).1,(fJ x.1 x.2.1).2,())
theorem ze5:FK 229 zj3:=nc zcn λx=>Jp x.1 x.2.1
def zjr:zV:=ay [Q6,zu.sl,ze.sl] [Q] λx=>(xk x.1 x.2.1 x.q.1,())
theorem zeq:FK 208 zjr:=nc zci λx=>Jn x.1 x.2.1 x.q.1
def zcE:=zcD.addL [(133,zjU),(104,F7t),(229,zj3),(208,zjr)]
theorem vn:zm zcE:=RC.addL<|fc zeS<|fc zl3<|fc ze5<|fc zeq ip
set_option maxHeartbeats 4000000
abbrev sQ:List CP:=[.d zN]
abbrev ZO:List CP:=[.d .str,.nil,.d zi,.nil,.nil,.d .str,.d zi,.d zi,.d .str,.d .str,.nil]
abbrev zmR:List CP:=[.d .str,.d (.sl zu),.d zi,.vec zi,.nil,.d .expr]
abbrev zmS:List CP:=[.d .str,.d (.sl zu),.d zi,.vec zi,.vec zW,.d .expr]
def VX(x:N Q6)(h:N zu.sl):K (Empty⊕ac):=chk (jC 16 (zP x) (zg.mk [] (0,0,[]) [] [])) (br (gz 16 (zP x) (zg.mk [] (0,0,[]) [] [])) (re (I 0) []) (br (cond ((fJ (zP x) h).2==0) (cond ((fJ (zP x) h).1!=3) ((fJ (zP x) h).1!=0) J) J) (re (I 5) []) (re (I (fJ (zP x) h).2) [])))
def K9(x:N Q6)(h:N zu.sl):=aA [zi] t0 100000000 (VX x h)
def zb1:=FT [Q6,zu.sl] [zi] λx=>K9 x.1 x.2.1
theorem Og:FK 207 zb1:=vn.T1 (f:=f207) (keep:=k0) (e:=e0)
abbrev zoT:Nat->aR:=λj=>if j=3 then{slots:=[1,2,3,4],prom:=[(3,Y 3,zi)]}else if j=7 then{slots:=[1,2,3,5],prom:=[(3,Y 4,zW)]}else{ }
inductive IJ where
 |h3 (i4:Int) (z0:zn sQ) (z1:zn ZO) (z2:zn zmR)
 |h7 (i5:Int) (z0:zn sQ) (z1:zn ZO) (z2:zn zmS)
abbrev zr7:IJ->Nat×St
 |.h3 i h x z=>(3,⟨tm 70 [(1,ptr 0 0),(2,ptr 1 0),(3,ptr 2 0),(4,I i)],[Qb (fD [] sQ h),Qb (fD [] ZO x),Qb (fD [3] zmR z),AO.vec zi z.r.1]⟩)
 |.h7 a h x z=>(7,⟨tm 70 [(1,ptr 0 0),(2,ptr 1 0),(3,ptr 2 0),(5,I a)],[Qb (fD [] sQ h),Qb (fD [] ZO x),Qb (fD [3,4] zmS z),AO.vec zi z.r.1,AO.vec zW z.t.1]⟩)
def zhs(x:am):K (IJ⊕ac):=Qa (IJ.h3 0 (x,()) ([],0,[],0,0,[],[],()) (jB x.1,mA x.2.1,x.q.1,[],oG (zP x.u),()))
def H8:IJ->K (IJ⊕ac)
 | .h3 i h b z=>
  let c:=(M h.1.r.1:Int)
  let a:=[W h.1.r.1 i.toNat (zk zi)]
  br (cond (L (i<c)) (L (i<10)) J)
  (chk (zT i (M h.1.r.1)) (chk (L (M z.r.1+M a<=1073741824)) (Qa (IJ.h3 (Γ Δ (i+1)) h b (z.1,z.2.1,z.q.1,z.r.1++a,z.t)))))
  (Qa (IJ.h7 0 h b (z.1,z.2.1,z.q.1,z.r.1,[],z.t)))
 | .h7 x h b z=>
  let c:=(M h.1.t.1:Int)
  let a:=zT x (M h.1.t.1)
  let d:=W h.1.t.1 x.toNat (zk zW)
  let e:=[(d.1,jB d.2)]
  br (cond (L (x<c)) (L (x<10)) J)
  (chk a (chk a (chk (L (M z.t.1+M e<=1073741824)) (Qa (IJ.h7 (Γ Δ (x+1)) h b (z.1,z.2.1,z.q.1,z.r.1,z.t.1++e,z.u))))))
  (re (agg [X z.1,O zu z.2.1,I z.q.1,AV.vec 0,AV.vec 1,X (zg.op z.u.1),I (zg.v z.u.1).1,I (zg.v z.u.1).2.1,X (zg.v z.u.1).q,X (zg.s z.u.1),O Q6 (zg.l z.u.1)]) [AO.vec zi z.r.1,AO.vec zW z.t.1])
def Yb(x:am):=aA [zN] H8 100000000 (zhs x)
def zkO:=FT [zN] [zN] λx=>Yb x.1
theorem TE:FK 69 zkO:=vn.T1 (f:=f69) (keep:=zoT) (e:=zr7)
def lX(x:N Q6)(h:N zu.sl):zy:=if gz 16 x (zg.mk [] (0,0,[]) [] [])=Z then 0 else if(cond ((fJ x h).2==0) (cond ((fJ x h).1!=3) ((fJ x h).1!=0) J) J)=Z then 5 else(fJ x h).2
theorem Nz(e:zg)(c:LC):K9 e c=Y (lX e c,()):=by
 have h:(VX e c).val=Y (.inr (I (lX e c),[])):=by
  unfold lX;simp only[VX,zt,Q9];rw[zf (NB 15 e)];repeat' split
  all_goals rfl
 exact zG h rfl
def C0(t:am):am:=(jB t.1,mA t.2.1,t.q.1,Qg 10 t.r.1,(Qg 10 t.t.1).map (λf:bV=>((f.1,jB f.2):bV)),oG t.u)
theorem Yc(t:am):Yb t=Y (C0 t,()):=by
 have g:=z8.all (t:=H8) 1 (λi=>.h3 (i:Int) (t,()) ([],0,[],0,0,[],[],()) (jB t.1,mA t.2.1,t.q.1,Qg i t.r.1,oG t.u,())) (min 10 (M t.r.1)) λi x=>z8.of (by
  have h:i<M t.r.1:=by omega
  simp only[H8,Q9,zaF (k:=10) (K:=10) rfl x,zx h,zj,bB];rw[zf sg,zz i um,Id h (zk zi)])
 have a:z8 H8 1 (.h3 ((min 10 (M t.r.1):Nat):Int) (t,()) ([],0,[],0,0,[],[],()) (jB t.1,mA t.2.1,t.q.1,Qg (min 10 (M t.r.1)) t.r.1,oG t.u,())) (.h7 ((0:Nat):Int) (t,()) ([],0,[],0,0,[],[],()) (jB t.1,mA t.2.1,t.q.1,Qg (min 10 (M t.r.1)) t.r.1,[],oG t.u,())):=z8.of (by
  simp only[H8,Q9,Py (k:=10) (K:=10) rfl,zO,zr];rfl)
 rw[uy]at g a;have b:=z8.all (t:=H8) 1 (λi=>.h7 (i:Int) (t,()) ([],0,[],0,0,[],[],()) (jB t.1,mA t.2.1,t.q.1,Qg 10 t.r.1,(Qg i t.t.1).map (λf:bV=>((f.1,jB f.2):bV)),oG t.u,())) (min 10 (M t.t.1)) λi x=>z8.of (by
  have h:i<M t.t.1:=by omega
  simp only[H8,Q9,zaF (k:=10) (K:=10) rfl x,zx h,zj,bB];rw[zf sg,zz i um,Id h (zk zW),fx];rfl)
 rw[uy]at b;have c:aF H8 1 (.h7 ((min 10 (M t.t.1):Nat):Int) (t,()) ([],0,[],0,0,[],[],()) (jB t.1,mA t.2.1,t.q.1,Qg 10 t.r.1,(Qg 10 t.t.1).map (λf:bV=>((f.1,jB f.2):bV)),oG t.u,())) _:=aF.of (by
  simp only[H8,Q9,Py (k:=10) (K:=10) rfl,zO,zr];rfl)
 have d:(zhs t).val=Y (.inl (.h3 ((0:Nat):Int) (t,()) ([],0,[],0,0,[],[],()) (jB t.1,mA t.2.1,t.q.1,Qg 0 t.r.1,oG t.u,()))):=by
  simp only[zhs,zt,Q9];rfl
 unfold C0;rw[<-zt (oG t.u)];exact zF d (((g.trans a).trans b).ends c) S rfl
def zcF:=zcE.addL [(207,zb1),(69,zkO)]
theorem RD:zm zcF:=vn.addL<|fc Og<|fc TE ip
def zjQ:zV:=ay [Q6,zu.sl] [zi] λx=>(lX x.1 x.2.1,())
theorem zeN:FK 207 zjQ:=gQ Og λx=>Nz x.1 x.2.1
def F5t:zV:=ay [zN] [zN] λx=>(C0 x.1,())
theorem zlM:FK 69 F5t:=gQ TE λx=>Yc x.1
def UZ:=zcF.addL [(207,zjQ),(69,F5t)]
theorem Eo:zm UZ:=RD.addL<|fc zeN<|fc zlM ip
abbrev zhD:=fZ [(4,[1,27,28,29]),(11,[1,5,59,60,61]),(17,[1,5,71,72,73])]
inductive qW where
 |h4 (l27:LC) (i28:Int) (i29:Int) (z0:zn sQ)
 |h11 (l59:LI) (i60:Int) (i61:Int) (z0:zn sQ)
 |h17 (l71:LF) (i72:Int) (i73:Int) (z0:zn sQ)
abbrev zmU:qW->Nat×St
 |.h4 l i h z=>(4,⟨tm 110 [(1,ptr 0 0),(27,O zu l),(28,I i),(29,I h)],[Qb (fD [] sQ z)]⟩)
 |.h11 d x a z=>(11,⟨tm 110 [(1,ptr 0 0),(5,AV.clo (Fn.func 206) [] [ptr 0 0]),(59,O zi d),(60,I x),(61,I a)],[Qb (fD [] sQ z)]⟩)
 |.h17 e b c z=>(17,⟨tm 110 [(1,ptr 0 0),(5,AV.clo (Fn.func 206) [] [ptr 0 0]),(71,O zW e),(72,I b),(73,I c)],[Qb (fD [] sQ z)]⟩)
def J3(x:am):K (qW⊕ac):=
 let a:=(M x.2.1:Int)
 br (cond (!dI x.1) Z (cond (L (a<1)) Z (L (a>8)))) (re (kb J) [])
 (Qa (qW.h4 x.2.1 a 0 (x,())))
def oB:qW->K (qW⊕ac)
 | .h4 l d i z=>
  let a:=l.getD i.toNat (zk zu)
  br (L (i<d))
  (chk (zT i (M l)) (br (cond (!dI a.1) Z (cond (L (a.2.1<1)) Z (cond (L (a.2.1>3)) Z (ah (z.1.1,z.1.2.1,z.1.q.1,z.1.r.1,z.1.t.1,zP z.1.u) a.1!=i)))) (re (kb J) []) (Qa (qW.h4 l d (Γ Δ (i+1)) z))))
  (Qa (qW.h11 z.1.r.1 (M z.1.r.1:Int) 0 z))
 | .h11 b e h z=>
  let a:=b.getD h.toNat (zk zi)
  let j:=(M z.1.2.1:Int)
  br (L (h<e))
  (chk (zT h (M b)) (br (!bif L (a>=0)then L (a<j)else J) (re (kb J) []) (Qa (qW.h11 b e (Γ Δ (h+1)) z))))
  (Qa (qW.h17 z.1.t.1 (M z.1.t.1:Int) 0 z))
 | .h17 c g x z=>
  let a:=c.getD x.toNat (zk zW)
  let j:=(M z.1.2.1:Int)
  let k:=W z.1.2.1 (T z.1.q.1) (zk zu)
  br (L (x<g))
  (chk (zT x (M c)) (br (!bif L (a.1>=0)then L (a.1<j)else J) (re (kb J) []) (br (!dI a.2) (re (kb J) []) (Qa (qW.h17 c g (Γ Δ (x+1)) z)))))
  (br (cond (L (z.1.q.1>=0)) (L (z.1.q.1<j)) J) (chk (zT z.1.q.1 (M z.1.2.1)) (br k.q (re (AV.bool (lX (zP z.1.u) z.1.2.1==0)) []) (re (kb J) []))) (re (kb J) []))
def ziU(x:am):=aA [Q8] oB 40000000000000000000 (J3 x)
theorem VI{x:Type}{t:x->K (x⊕ac)}{st:Nat->x}{N:Nat}{b:Nat->Bool}{R:ac}(h:∀i,i<N->(t (st i)).val=if b i=Z then Y (.inl (st (i+1)))else Y (.inr R)):
  ((List.range N).all b=Z/\z8 t N (st 0) (st N))\/((List.range N).all b=J/\aF t N (st 0) R):=by
 rcases LN (t:=t) (Φ:=λr=>r=R) 1 st (λi=>b i=Z) N (λi a _=>by
  cases e:b i
  .exact .inr ⟨sw,R,aF.of (by rw[h i a,e];rfl),rfl⟩
  .exact .inl ⟨rfl,z8.of (by rw[h i a,e];rfl)⟩)with⟨c,d⟩|⟨c,r,d,rfl⟩
 .exact .inl ⟨by rw[dg];exact λi a=>c i (jF.1 a),d.mono S⟩
 .refine .inr ⟨?_,d.mono S⟩;rw[Bool.eq_false_iff,Ne,dg];exact λq=>c λi a=>q i (jF.2 a)
def vU(x:Int)(n:Nat):Bool:=bif L (x>=0)then L (x<(n:Int))else J
def L9(t:am)(i:Nat):Bool:=!(cond (!dI (W t.2.1 i (zk zu)).1) Z (cond (L ((W t.2.1 i (zk zu)).2.1<1)) Z (cond (L ((W t.2.1 i (zk zu)).2.1>3)) Z (ah t (W t.2.1 i (zk zu)).1!=(i:Int)))))
def za8(t:am)(i:Nat):Bool:=vU (W t.t.1 i (zk zW)).1 (M t.2.1)&&dI (W t.t.1 i (zk zW)).2
def gO(t:am):N Q8:=!(cond (!dI t.1) Z (cond (L ((M t.2.1:Int)<1)) Z (L ((M t.2.1:Int)>8))))&&((List.range (M t.2.1)).all (L9 t)&&((List.range (M t.r.1)).all (λi=>vU (W t.r.1 i (zk zi)) (M t.2.1))&&((List.range (M t.t.1)).all (za8 t)&&(vU t.q.1 (M t.2.1)&&((W t.2.1 (T t.q.1) (zk zu)).q&&(lX t.u t.2.1==0))))))
theorem Yd{t:am}(y:M t.r.1<=af)(z:M t.t.1<=af):ziU t=Y (gO t,()):=by
 unfold gO;by_cases x:(cond (!dI t.1) Z (cond (L ((M t.2.1:Int)<1)) Z (L ((M t.2.1:Int)>8))))=Z
 .rw[x];refine zG (r:=(.kb J,[])) ?_ rfl;simp only[J3,Q9];exact zf x
 have A:M t.2.1<=8:=by
  cases p:dI t.1
  .rw[p]at x;simp at x
  .rw[p]at x;simp at x;omega
 have e:(J3 t).val=Y (.inl (.h4 t.2.1 (M t.2.1:Int) ((0:Nat):Int) (t,()))):=by
  simp only[J3,Q9];exact zh x
 rw[g9]at x;rw[x];have C:af=9223372036854775807:=rfl
 rcases VI (t:=oB) (R:=(.kb J,[])) (N:=M t.2.1) (st:=λi=>.h4 t.2.1 (M t.2.1:Int) (i:Int) (t,())) (b:=L9 t) (λi h=>by
  simp only[oB,Q9,z6 h,zx h,zj,bB,zt,aJ,zz i (show i<af by omega)];unfold L9;split
  next c=>rw[c];rfl
  next c=>rw[g9]at c;rw[c];rfl)with⟨j,m⟩|⟨j,m⟩
 rotate_left
 .rw[j];exact zF e m S rfl
 have g:=m.trans (z8.of (s':=.h11 t.r.1 (M t.r.1:Int) ((0:Nat):Int) (t,())) (by
  simp only[oB,Q9,aw,zO,zr];rfl))
 rw[j]
 rcases VI (t:=oB) (R:=(.kb J,[])) (N:=M t.r.1) (st:=λi=>.h11 t.r.1 (M t.r.1:Int) (i:Int) (t,())) (b:=λi=>vU (W t.r.1 i (zk zi)) (M t.2.1)) (λi h=>by
  simp only[oB,Q9,z6 h,zx h,zj,bB,zz i (show i<af by omega)];unfold vU;split
  next c=>rw[wX]at c;rw[c];rfl
  next c=>rw[g9,Bool.not_eq_false']at c;rw[c];rfl)with⟨k,n⟩|⟨k,n⟩
 rotate_left
 .rw[k];exact zF e (g.ends n) S rfl
 have a:=(g.trans n).trans (z8.of (s':=.h17 t.t.1 (M t.t.1:Int) ((0:Nat):Int) (t,())) (by
  simp only[oB,Q9,aw,zO,zr];rfl))
 rw[k]
 rcases VI (t:=oB) (R:=(.kb J,[])) (N:=M t.t.1) (st:=λi=>.h17 t.t.1 (M t.t.1:Int) (i:Int) (t,())) (b:=za8 t) (λi h=>by
  simp only[oB,Q9,z6 h,zx h,zj,bB,zz i (show i<af by omega)];unfold za8 vU;split
  next c=>rw[wX]at c;rw[c];rfl
  next c=>rw[g9,Bool.not_eq_false']at c;rw[c];cases dI (W t.t.1 i (zk zW)).2<;>rfl)with⟨l,o⟩|⟨l,o⟩
 rotate_left
 .rw[l];exact zF e (a.ends o) S rfl
 rw[l];have d:∃r,(oB (.h17 t.t.1 (Io t.t.1:Int) (Io t.t.1:Int) (t,()))).val=Q1 (.inr r)/\bc r.2 [Q8] r.1=Q1 ((vU t.q.1 (Io t.2.1)&&((getD t.2.1 (toNat t.q.1) (zk zu)).q&&(lX t.u t.2.1==0))),()):=by
  simp only[oB,Q9,aw,zt,zO,zr];unfold vU;cases c:(cond (L (t.q.1>=0)) (L (t.q.1<(M t.2.1:Int))) J)
  .exact⟨_,rfl,rfl⟩
  .have h:zT t.q.1 (M t.2.1)=Z:=by
    cases w:L (t.q.1>=0)<;>simp_all[zT]
   rw[h];cases(W t.2.1 (T t.q.1) (zk zu)).q
   .exact⟨_,rfl,rfl⟩
   .exact⟨_,rfl,rfl⟩
 have⟨r,s,v⟩:=d;exact zF e ((a.trans o).ends (aF.of s)) S v
theorem ok8:zJ UZ.P 152 f152 1:=bG kw
def F8t:zV:=ay [zN] [Q8] λx=>(gO x.1,())
theorem zmc:FK 152 F8t:=z7 ok8 λx C b=>Reach.lenA 0 3 zi x.1.r.1 rfl rfl λh=>Reach.lenA 0 4 zW x.1.t.1 rfl rfl λa=>
 HG (n0:=0) (t:=oB) (e:=zmU) (keep:=zhD) (gas:=400) (i:=J3 x.1) Eo ok8 (λid _=>b id) kw (by intro s;cases s<;>kernel_rfl) (Yd h a)
def zcG:=UZ.add 152 F8t
theorem Ep:zm zcG:=Eo.add zmc
abbrev zhS:=fZ [(4,[1,2,19,20,21]),(10,[1,2,30,31])]
inductive wS where
 |h4 (l1:LV) (l19:LV) (i20:Int) (i21:Int) (z0:zn sQ)
 |h10 (l1:LV) (i30:Int) (i31:Int) (z0:zn sQ)
abbrev zm2:wS->Nat×St
 |.h4 l b i h z=>(4,⟨tm 79 [(1,O Q l),(2,ptr 0 0),(19,O Q b),(20,I i),(21,I h)],[Qb (fD [] sQ z)]⟩)
 |.h10 l x a z=>(10,⟨tm 79 [(1,O Q l),(2,ptr 0 0),(30,I x),(31,I a)],[Qb (fD [] sQ z)]⟩)
def VY(x:am)(h:N ze.sl):K (wS⊕ac):=br (cond (!gO (x.1,x.2.1,x.q.1,x.r.1,x.t.1,zP x.u)) Z ((M h:Int)!=(M x.2.1:Int))) (re (I 1) []) (Qa (wS.h4 h h (M h:Int) 0 (x,())))
def uu:wS->K (wS⊕ac)
 | .h4 l x a h z=>
  br (L (h<a))
  (chk (zT h (M x)) (br (!aP (x.getD h.toNat (zk Q))) (re (I 1) []) (Qa (wS.h4 l x a (Γ Δ (h+1)) z))))
  (Qa (wS.h10 l (M l:Int) 0 z))
 | .h10 l b i z=>
  let c:=l.getD i.toNat (zk Q)
  let e:=c.1==0
  let g:=zT i (M z.1.2.1)
  let j:=W z.1.2.1 i.toNat (zk zu)
  let k:=c.1!=0
  let d:=xk (zP z.1.u) z.1.2.1 l
  br (L (i<b))
  (chk (zT i (M l)&&bif e then g else Z) (br (cond e j.q J) (re (I 8) []) (chk (zT i (M l)&&bif k then zT i (M l)&&g else Z) (br (cond k (c.1!=j.2.1) J) (re (I 5) []) (Qa (wS.h10 l b (Γ Δ (i+1)) z))))))
  (br (d.1==3&&(d.2.1==0&&(d.q==[]&&Z))) (re (I 9) []) (re (I 0) []))
def Qq(x:am)(h:N ze.sl):=aA [zi] uu 100000000 (VY x h)
def zb7:=FT [zN,ze.sl] [zi] λx=>Qq x.1 x.2.1
theorem Oi:FK 153 zb7:=Ep.T1 (f:=f153) (keep:=zhS) (e:=zm2)
def gj(t:am)(h:LV):zo->Int->zy
 |[],_=>if((xk t.u t.2.1 h).1==3&&((xk t.u t.2.1 h).2.1==0&&((xk t.u t.2.1 h).q==[]&&Z)))=Z then 9 else 0
 |x::r,i=>if(cond (x.1==0) ((W t.2.1 i.toNat (zk zu)).q) J)=Z then 8 else if(cond (x.1!=0) (x.1!=(W t.2.1 i.toNat (zk zu)).2.1) J)=Z then 5 else gj t h r (i+1)
def jK(t:am)(row:LV):zo->Int->zy
 |[],_=>gj t row row 0
 |x::r,i=>if(!aP x)=Z then 1 else jK t row r (i+1)
def dM(t:am)(row:N ze.sl):zy:=if(cond (!gO t) Z ((M row:Int)!=(M t.2.1:Int)))=Z then 1 else jK t row row 0
theorem PB{t:am}(h:gO t=Z):M t.2.1<=8:=by
 unfold gO at h;rw[ar]at h;have h:=h.1;cases x:dI t.1
 .rw[x]at h;simp at h
 .rw[x]at h;simp at h;omega
theorem Tb(t:am)(x:LV):Qq t x=Y (dM t x,()):=by
 unfold dM;by_cases h:(cond (!gO t) Z ((M x:Int)!=(M t.2.1:Int)))=Z
 .rw[zf h];refine zG (r:=(I 1,[])) ?_ rfl;simp only[VY,zt,aJ,Q9];exact zf h
 rw[zh h];have d:gO t=Z/\M x=M t.2.1:=by
  cases d:gO t
  .rw[d]at h;simp at h
  .rw[d]at h;simp at h;exact⟨rfl,S⟩
 have p:=PB d.1;have g:∀(m i:Nat),M x-i=m->i<=M x->aF uu (m+1) (.h10 x (M x) i (t,())) (I (gj t x (x.drop i) i),[]):=by
  intro m
  induction m with
  | zero=>
   intro i k l;obtain rfl:i=M x:=by omega
   rw[oO,gj];refine aF.of ?_;simp only[uu,Q9,aw,zt,zO,zr];split<;>rfl
  | succ m n=>
   intro i k l;have a:i<M x:=by omega
   have j:W x i (zk Q)=x[i]:=bt _ _ a;rw[mj a,gj];have b:(uu (.h10 x (M x) i (t,()))).val=if(cond (x[i].1==0) ((W t.2.1 i (zk zu)).q) J)=Z then Y (.inr (I 8,[]))else if(cond (x[i].1!=0) (x[i].1!=(W t.2.1 i (zk zu)).2.1) J)=Z then Y (.inr (I 5,[]))else Y (.inl (.h10 x (M x) ((i+1:Nat):Int) (t,()))):=by
    simp only[uu,Q9,z6 a,zx a,zx (show i<M t.2.1 by omega),bB,j,oT,Bool.cond_self,zj,zz i (show i<af by unfold af;omega)]
   simp only[bB];split
   next c=>exact(aF.of (by rw[b,zf c])).mono S
   .rename_i c;split
    next e=>exact(aF.of (by rw[b,zh c,zf e])).mono S
    next e=>exact(z8.of (by rw[b,zh c,zh e])).ends (n (i+1) S S)
 have o:∀(m i:Nat),M x-i=m->i<=M x->aF uu (m+M x+2) (.h4 x x (M x) i (t,())) (I (jK t x (x.drop i) i),[]):=by
  intro m
  induction m with
  | zero=>
   intro i k l;obtain rfl:i=M x:=by omega
   rw[oO,jK];refine((z8.of (s':=.h10 x (M x) ((0:Nat):Int) (t,())) ?_).ends (g (M x) 0 S S)).mono S;simp only[uu,Q9,aw,zO,zr];rfl
  | succ m n=>
   intro i k l;have a:i<M x:=by omega
   have j:W x i (zk Q)=x[i]:=bt _ _ a;rw[mj a,jK];have b:(uu (.h4 x x (M x) i (t,()))).val=if(!aP x[i])=Z then Y (.inr (I 1,[]))else Y (.inl (.h4 x x (M x) ((i+1:Nat):Int) (t,()))):=by
    simp only[uu,Q9,z6 a,zx a,bB,j,zj,zz i (show i<af by unfold af;omega)]
   split
   next c=>exact(aF.of (by rw[b,zf c])).mono S
   next c=>exact((z8.of (by rw[b,zh c])).ends (n (i+1) S S)).mono S
 refine zF (s:=.h4 x x (M x) ((0:Nat):Int) (t,())) ?_ (o (M x) 0 S S) S rfl;simp only[VY,zt,aJ,Q9];exact zh h
def zcH:=zcG.add 153 zb7
theorem RE:zm zcH:=Ep.add Oi
def zjk:zV:=ay [zN,ze.sl] [zi] λx=>(dM x.1 x.2.1,())
theorem zej:FK 153 zjk:=gQ Oi λx=>Tb x.1 x.2.1
def q9:=zcH.add 153 zjk
theorem RF:zm q9:=RE.add zej
end
end Cad
