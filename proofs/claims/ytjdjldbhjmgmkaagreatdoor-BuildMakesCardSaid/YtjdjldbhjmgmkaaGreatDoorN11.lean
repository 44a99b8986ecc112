/- Expressions. -/
import Derived.Test.YtjdjldbhjmgmkaaGreatDoorN10
namespace Cad
open Go Go.Proofs Tryz
open List renaming length->Io,drop->Qh,take->Qg,length->N
open IntKind renaming wrap->Γ,i64->Δ
open Tr renaming «to»->Q9,val->Q8,chk->I
open AO renaming box->Qa
open Sh renaming bool->Q7,str->Q6,expr->Q5
open Bool renaming true->Z,false->M
open Option renaming none->Q2,some->Q1,some->Y
open Decidable renaming decide->K
open Int (toNat)
open Int renaming toNat->W
open List (getD)
open List renaming getD->T
open Tr (chk br re)
open AV (nils agg tup ptr kb str sl)
open AV renaming sl->O,str->X
open Cad renaming ze->R,zj->Q,Sem->L,ai->J,ow->S
noncomputable section
abbrev jL:List (zN×AV):=[(jf,.clo (.func 229) [] []),(wS,.clo (.func 230) [] []),(oH,.clo (.func 231) [] []),([61],.clo (.func 233) [] []),([60],.clo (.func 234) [] []),([43],.clo (.func 155) [] []),([45],.clo (.func 235) [] []),(qM,.clo (.func 236) [] [])]
abbrev zzm:Nat->aY:=λ_=>{ }
theorem zvF:aa II.P 180 f180 0:=cM kw
theorem zyp:(run II 0 zzm (Func.results f180).toList 400 (bv f180) (bl (Func.ntmps f180) [] [])).val=Y (zU.ret (AV.mp 0) [AO.fmap jL]):=kw
def G23:fA []:=λ_ h=>match h with
 |[]=>.ok (.mp 0,[.fmap jL])
 |_=>.err
def F23:ak:=bj [] G23
theorem zru:FK 180 F23:=by
 refine dA zvF λx c b h C a=>?_
 unfold G23 at h;split at h
 .simp only[Q8,bH]at h;subst h;exact pm (n0:=0) Ap zvF a zyp rfl
 .simp at h
def opV(o:zN)(x y:V):V:=if(o==jf)=Z then H2 x y else if(o==wS)=Z then vOr x y else if(o==oH)=Z then Vi x y else if(o==[61])=Z then oo x y else if(o==[60])=Z then vw x y else if(o==[43])=Z then qW x y else if(o==[45])=Z then oq x y else if(o==qM)=Z then M4 x y else(0,0,[])
def opC(o:zN):Bool:=if(o==jf)=Z then Z else if(o==wS)=Z then Z else if(o==oH)=Z then Z else if(o==[61])=Z then Z else if(o==[60])=Z then Z else if(o==[43])=Z then Z else if(o==[45])=Z then Z else if(o==qM)=Z then Z else M
def opL(o:zN)(x y:V)(h:List AO):Option zU:=if(o==jf)=Z then Y (.ret (zX R (H2 x y)) h)else if(o==wS)=Z then Y (.ret (zX R (vOr x y)) h)else if(o==oH)=Z then Y (.ret (zX R (Vi x y)) h)else if(o==[61])=Z then Y (.ret (zX R (oo x y)) h)else if(o==[60])=Z then Y (.ret (zX R (vw x y)) h)else if(o==[43])=Z then Y (.ret (zX R (qW x y)) h)else if(o==[45])=Z then Y (.ret (zX R (oq x y)) h)else if(o==qM)=Z then Y (.ret (zX R (M4 x y)) h)else Q2
def zmf(g:aZ->zr->zg->V)(c:aZ->zr->zg->Bool):fA [Q2,Y .expr]:=λx h=>match x,h with
 | (.agg [.sl (.pr .str (.pr (.int .i64) .bool)) cols,.sl (.pr (.int .i64) (.pr (.int .i64) .str)) row,.mp 0],e,_),[.fmap [(k1,.clo (.func 229) [] []),(k2,.clo (.func 230) [] []),(k3,.clo (.func 231) [] []),(k4,.clo (.func 233) [] []),(k5,.clo (.func 234) [] []),(k6,.clo (.func 155) [] []),(k7,.clo (.func 235) [] []),(k8,.clo (.func 236) [] [])]]=>
  .chk (k1==jf&&(k2==wS&&(k3==oH&&(k4==[61]&&(k5==[60]&&(k6==[43]&&(k7==[45]&&(k8==qM)))))))) (.chk (c cols row e) (.ok (zX R (g cols row e),[.fmap jL])))
 |_,_=>.err
def Vo(g:aZ->zr->zg->V)(c:aZ->zr->zg->Bool):ak:=bj [Q2,Y .expr] (zmf g c)
def V8(g:aZ->zr->zg->V)(c:aZ->zr->zg->Bool):cy:=II.add 181 (Vo g c)
variable {h:aZ->zr->zg->V}{c:aZ->zr->zg->Bool}
theorem Ew(x:FK 181 (Vo h c)):zx (V8 h c):=Ap.add x
theorem zaS(g:aZ->zr->zg->V)(c:aZ->zr->zg->Bool):aa (V8 g c).P 181 f181 2:=cM kw
theorem zm3(g:aZ->zr->zg->V)(c:aZ->zr->zg->Bool)(h:LC)(x:LV)(o:zN)(v:V)(s:zN):(run (V8 g c) 1 unr (Func.results f181).toList 600 (bv f181) (bl (Func.ntmps f181) [agg [O zp h,O R x,AV.mp 0],zX Q5 (.mk o v s [])] [AO.fmap jL])).val=if(o==pI)=Z then Y (.ret (zX R v) [.fmap jL])else if(o==fh)=Z then(ite ((cond (K (aL h s<0)) Z (K (aL h s>=(N x:Int))))=Z) (Y (.ret (zX R (0,0,[])) [.fmap jL])) (ite (zK (aL h s) (N x)=Z) (Y (.ret (zX R (x.getD (W (aL h s)) (Q R))) [.fmap jL])) Q2))else opL o (0,0,[]) (0,0,[]) [.fmap jL]:=kw
theorem zm4(g:aZ->zr->zg->V)(c:aZ->zr->zg->Bool)(h:LC)(x:LV)(o:zN)(v:V)(s:zN)(a:zg):(run (V8 g c) 1 unr (Func.results f181).toList 600 (bv f181) (bl (Func.ntmps f181) [agg [O zp h,O R x,AV.mp 0],zX Q5 (.mk o v s [a])] [AO.fmap jL])).val=if(o==pI)=Z then Y (.ret (zX R v) [.fmap jL])else if(o==fh)=Z then(ite ((cond (K (aL h s<0)) Z (K (aL h s>=(N x:Int))))=Z) (Y (.ret (zX R (0,0,[])) [.fmap jL])) (ite (zK (aL h s) (N x)=Z) (Y (.ret (zX R (x.getD (W (aL h s)) (Q R))) [.fmap jL])) Q2))else if c h x (.mk a.op a.v a.s a.l)=Z then opL o (g h x (.mk a.op a.v a.s a.l)) (0,0,[]) [.fmap jL]else Q2:=kw
theorem zm5(g:aZ->zr->zg->V)(c:aZ->zr->zg->Bool)(h:LC)(x:LV)(o:zN)(v:V)(s:zN)(a b:zg):(run (V8 g c) 1 unr (Func.results f181).toList 600 (bv f181) (bl (Func.ntmps f181) [agg [O zp h,O R x,AV.mp 0],zX Q5 (.mk o v s [a,b])] [AO.fmap jL])).val=if(o==pI)=Z then Y (.ret (zX R v) [.fmap jL])else if(o==fh)=Z then(ite ((cond (K (aL h s<0)) Z (K (aL h s>=(N x:Int))))=Z) (Y (.ret (zX R (0,0,[])) [.fmap jL])) (ite (zK (aL h s) (N x)=Z) (Y (.ret (zX R (x.getD (W (aL h s)) (Q R))) [.fmap jL])) Q2))else if c h x (.mk a.op a.v a.s a.l)=Z then(ite (c h x (.mk b.op b.v b.s b.l)=Z) (opL o (g h x (.mk a.op a.v a.s a.l)) (g h x (.mk b.op b.v b.s b.l)) [.fmap jL]) Q2)else Q2:=kw
variable {a:Option zU}
theorem sY{Φ:zU->Prop}{c:Bool}{b:Option zU}(h:c=Z->iy Φ a)(x:c=M->iy Φ b):iy Φ (ite (c=Z) a b):=by
 cases c
 .simpa using x rfl
 .simpa using h rfl
variable {E:cy}{C:eU}{t:List Item}
theorem Bm{k:FuncId}{f:Func}{Q:AV->List AO->Prop}{n n0:Nat}(c:zx E)(d:aa E.P k f n)(b:∀id,n0<=id->C.ρ0 id=Q2){keep:Nat->aY}{x:Nat}
   {s:St}  (e:(run E n0 keep f.results.toList x t s).val=a) (h:iy (kW E C k Q) a):Reach E C k t s Q:=
 zL c d b rfl (by rw[e];exact h)
theorem A5{o:zN}{x y:V}{h:List AO}(b:opC o=Z):iy (kW E C 181 (λr d=>(r,d)=(zX R (opV o x y),h))) (opL o x y h):=by
 generalize c:opV o x y=z;unfold opC at b;unfold opV at c;unfold opL;repeat' (refine sY (λa=>?_) (λa=>?_)<;>first|(rw[zf a]at c;try rw[zf a]at b)|(rw[zh (oZ a)]at c;try rw[zh (oZ a)]at b))
 all_goals first|(cases b;done)|(subst c;rfl)
def uK(g:aZ->zr->zg->V)(c:LC)(h:LV):zg->V
 | .mk o v s l=>if (o==pI)=Z then v else
  if(o==fh)=Z then(ite ((cond (K (aL c s<0)) Z (K (aL c s>=(N h:Int))))=Z) (0,0,[]) (h.getD (W (aL c s)) (Q R)))else
  match l with
  |[]=>opV o (0,0,[]) (0,0,[])
  |[a]=>opV o (g c h a) (0,0,[])
  |[a,b]=>opV o (g c h a) (g c h b)
  |_=>(0,0,[])
def yV(c:aZ->zr->zg->Bool)(h:LC)(x:LV):zg->Bool
 |.mk _ _ _ (_::_::_::_)=>M
 | .mk o _ s l=>if (o==pI)=Z then Z else
  if(o==fh)=Z then(ite ((cond (K (aL h s<0)) Z (K (aL h s>=(N x:Int))))=Z) Z (zK (aL h s) (N x)))else
  match l with
  |[]=>opC o
  |[a]=>if c h x a=Z then opC o else M
  |[a,b]=>if c h x a=Z then(ite (c h x b=Z) (opC o) M)else M
  |_=>M
theorem zkO(p:FK 181 (Vo h c)):FK 181 (Vo (uK h) (yV c)):=by
 refine dA (E:=V8 h c) (zaS h c) λx w t m C n=>?_
 unfold zmf at m;split at m
 .rename_i j k e u y A B D F G H P;simp only[Q8]at m;split at m
  .rename_i q;split at m
   .rename_i g;simp only[aO,bX]at q;obtain⟨rfl,rfl,rfl,rfl,rfl,rfl,rfl,rfl⟩:=q;simp only[bH]at m;subst m;have⟨o,v,s,l⟩:=e
    match l,g with
    | [],g=>
     refine Bm (n0:=1) (Ew p) (zaS h c) n (zm3 h c j k o v s) ?_;generalize i:uK h j k (.mk o v s [])=z;rw[yV]at g;rw[uK]at i;repeat' (first|(subst i;exact A5 g)|refine sY (λd=>?_) (λd=>?_)<;>first|(first|rw[zf d]at i g|rw[zf d]at g|rw[zf d]at i)|(first|rw[zh (oZ d)]at i g|rw[zh (oZ d)]at g|rw[zh (oZ d)]at i)|skip)
     all_goals first|(subst i;exact A5 g)|(subst i;rfl)|(rw[g]at d;cases d)
    | [a],g=>
     refine Bm (n0:=1) (Ew p) (zaS h c) n (zm4 h c j k o v s a) ?_;generalize i:uK h j k (.mk o v s [a])=z;rw[yV]at g;rw[uK]at i;simp only[zg.eta];repeat' (first|(subst i;exact A5 g)|refine sY (λd=>?_) (λd=>?_)<;>first|(first|rw[zf d]at i g|rw[zf d]at g|rw[zf d]at i)|(first|rw[zh (oZ d)]at i g|rw[zh (oZ d)]at g|rw[zh (oZ d)]at i)|skip)
     all_goals first|(subst i;exact A5 g)|(subst i;rfl)|(cases g;done)|(rw[g]at d;cases d)
    | [a,b],g=>
     refine Bm (n0:=1) (Ew p) (zaS h c) n (zm5 h c j k o v s a b) ?_;generalize i:uK h j k (.mk o v s [a,b])=z;rw[yV]at g;rw[uK]at i;simp only[zg.eta];repeat' (first|(subst i;exact A5 g)|refine sY (λd=>?_) (λd=>?_)<;>first|(first|rw[zf d]at i g|rw[zf d]at g|rw[zf d]at i)|(first|rw[zh (oZ d)]at i g|rw[zh (oZ d)]at g|rw[zh (oZ d)]at i)|skip)
     all_goals first|(subst i;exact A5 g)|(subst i;rfl)|(cases g;done)|(rw[g]at d;cases d)
    | _::_::_::_,g=>
     cases g
   .simp at m
  .simp at m
 .simp at m
mutual
def ef:Nat->aZ->zr->zg->V
 |0=>λ_ _ _=>(0,0,[])
 |n+1=>uK (ef n)
def yU:Nat->aZ->zr->zg->Bool
 |0=>λ_ _ _=>M
 |n+1=>yV (yU n)
end
theorem XO:∀n,FK 181 (Vo (ef n) (yU n))
 | 0=>by
  have h:FK 181 (bj [Q2,Y .expr] (λ_ _=>.err)):=dA (zaS (λ_ _ _=>(0,0,[])) (λ_ _ _=>M)) (E:=II) λx c b a=>by simp at a
  refine CN (ι:=Unit) (Gs:=λ_ _ _=>.err) (λ_=>h) λx c b a=>?_
  unfold zmf at a;grind[Q8,yU]
 |n+1=>zkO (XO n)
def F24:ak:=Vo (ef 16) (yU 16)
theorem zrv:FK 181 F24:=XO 16
def IJ:=II.addL [(180,F23),(181,F24)]
theorem Aq:zx IJ:=Ap.addL<|fc zru<|fc zrv iP
abbrev zzl:Nat->aY:=λ_=>{ }
theorem zvE:aa (IJ).P 179 f179 1:=cM kw
theorem zyo(x:L Q5):rn IJ 0 zzl f179 [zX Q5 x] []=I (xB 16 (zw x) 1 0) (Tr.ok (zU.ret (AV.bool (jg 16 (zw x) 1 0).1) [])):=kw
def dW(x:L Q5):L Q7:=(jg 16 x 1 0).1
def BT(x:L Q5):Bool:=if xB 16 x 1 0=Z then Z else M
def F22:ak:=af [Q5] [Q7] (λx=>BT x.1) λx=>(dW x.1,())
theorem zh0:FK 179 F22:=by
 refine bb (zvE) λx h C b=>?_
 unfold BT at h;refine zL Aq (zvE) (λid _=>b id) (zyo x.1) ?_;generalize a:dW x.1=y;unfold dW at a;exact M8 a h
abbrev kp7:Nat->aY:=λ_=>{ }
theorem ok7:aa (IJ).P 57 f57 1:=cM kw
theorem go7(x:L Q5):rn IJ 0 kp7 f57 [zX Q5 x] []=I (Og 16 (zw x) 14 80) (Tr.ok (zU.ret (agg [X (zg.op (uE 16 (zw x) 14 80).1),J (zg.v (uE 16 (zw x) 14 80).1).1,J (zg.v (uE 16 (zw x) 14 80).1).2.1,X (zg.v (uE 16 (zw x) 14 80).1).2.2,X (zg.s (uE 16 (zw x) 14 80).1),O Q5 (zg.l (uE 16 (zw x) 14 80).1)]) [])):=kw
def iN(x:L Q5):L Q5:=zg.mk (zg.op (uE 16 x 14 80).1) (zg.v (uE 16 x 14 80).1) (zg.s (uE 16 x 14 80).1) (zg.l (uE 16 x 14 80).1)
def Tx(x:L Q5):Bool:=if Og 16 x 14 80=Z then Z else M
def F7:ak:=af [Q5] [Q5] (λx=>Tx x.1) λx=>(iN x.1,())
theorem zr9:FK 57 F7:=by
 refine bb (ok7) λx h C b=>?_
 unfold Tx at h;refine zL Aq (ok7) (λid _=>b id) (go7 x.1) ?_;generalize a:iN x.1=y;unfold iN at a;exact M8 a h
def IK:=IJ.addL [(179,F22),(57,F7)]
theorem Ar:zx IK:=Aq.addL<|fc zh0<|fc zr9 iP
abbrev zzn:Nat->aY:=λ_=>{ }
theorem zvI:aa (IK).P 178 f178 2:=cM kw
theorem zyt(h:L Q5)(x:L zp.sl):rn IK 0 zzn f178 [zX Q5 h,zX zp.sl x] []=let a:=zw h;I (BT a) (br (!dW a) (Tr.ok (zU.ret (tup [J 0,J 1]) [])) (I (bL 16 a x) (Tr.ok (zU.ret (tup [J (ac 16 a x).1,J (ac 16 a x).2]) [])))):=kw
def cz(x:L Q5)(h:L zp.sl):zy×zy:=if(!dW x)=Z then(0,1)else((ac 16 x h).1,(ac 16 x h).2)
def KR(x:L Q5)(h:L zp.sl):Bool:=if BT x=Z then if(!dW x)=Z then Z else if bL 16 x h=Z then Z else M else M
def F30:ak:=af [Q5,zp.sl] [zk,zk] (λx=>KR x.1 x.2.1) λx=>((cz x.1 x.2.1).1,(cz x.1 x.2.1).2,())
theorem zh1:FK 178 F30:=by
 refine bb (zvI) λx h C b=>?_
 unfold KR at h;refine zL Ar (zvI) (λid _=>b id) (zyt x.1 x.2.1) ?_;generalize a:cz x.1 x.2.1=y;unfold cz at a;exact M8 a h
abbrev zzk:Nat->aY:=λ_=>{ }
theorem zvy:aa (IK).P 111 f111 3:=cM kw
theorem zyi(b:L Q5)(x:L zp.sl)(h:L ze.sl):rn IK 0 zzk f111 [zX Q5 b,zX zp.sl x,zX ze.sl h] []=let a:=zw b;I (BT a) (br (!dW a) (Tr.ok (zU.ret (agg [J 0,J 0,X []]) [])) (I (jf==jf&&(wS==wS&&(oH==oH&&([61]==[61]&&([60]==[60]&&([43]==[43]&&([45]==[45]&&qM==qM))))))) (I (yU 16 x h a) (Tr.ok (zU.ret (agg [J (ef 16 x h a).1,J (ef 16 x h a).2.1,X (ef 16 x h a).2.2]) []))))):=kw
def lr(x:L Q5)(h:L zp.sl)(a:L ze.sl):zo:=if(!dW x)=Z then(0,0,[])else ef 16 h a x
def KP(x:L Q5)(h:L zp.sl)(a:L ze.sl):Bool:=if BT x=Z then if(!dW x)=Z then Z else if(jf==jf&&(wS==wS&&(oH==oH&&([61]==[61]&&([60]==[60]&&([43]==[43]&&([45]==[45]&&qM==qM)))))))=Z then if yU 16 h a x=Z then Z else M else M else M
def F11:ak:=af [Q5,zp.sl,ze.sl] [R] (λx=>KP x.1 x.2.1 x.q.1) λx=>(lr x.1 x.2.1 x.q.1,())
theorem zhX:FK 111 F11:=by
 refine bb (zvy) λx h C b=>?_
 unfold KP at h;refine zL Ar (zvy) (λid _=>b id) (zyi x.1 x.2.1 x.q.1) ?_;generalize a:lr x.1 x.2.1 x.q.1=y;unfold lr at a;exact M8 a h
def zij:=IK.addL [(178,F30),(111,F11)]
theorem Wh:zx zij:=Ar.addL<|fc zh1<|fc zhX iP
theorem mY(d:Int)(h:-1000<=d)(x:d<=1000):Γ Δ d=d:=by rw[fe];omega
theorem K9{P:Nat->zg->zg->Prop}(hP:∀h e(o t s:zN)(l:List zg),(∀y∈l,∃x∈zg.l e,P h x y)->N l<=3->N t<=45->N s<=20->P (h+1) e (.mk o ((zg.v e).1,(zg.v e).2.1,t) s l)):
  ∀(h:Nat)(e:zg)(d n:Int),0<=d->d<h->h<=100->∃r m,ra h e d n=Y (r,m,())/\P h e r
 |0,_,_,_,h1,h2,_=>by omega
 | h + 1,e,d,n,h1,h2,h3=>by
  have IH:∀x m,0<d->∃r k,ra h x (Γ Δ (d-1)) m=Y (r,k,())/\P h x r:=λx m hd=>by
   rw[mY _ S S];exact K9 hP h x (d-1) m S S S
  generalize hg:(λG H U=>NV (ra h G H U))=g;generalize hc:(λG H U=>(ra h G H U).isSome)=c
  have E:∀(k i:Nat)(n:Int)(a:List zg)(z:zq qZ)(o t s:zN),i+k=3->N a=i->(∀y∈a,∃x∈zg.l e,P h x y)->
    ∃m r F,zV (Br g c) m (.h10 d n (i:Int) (e,()) z (o,(zg.v e).1,(zg.v e).2.1,t,s,a,())) (.tup [.agg [.str o,J (zg.v e).1,J (zg.v e).2.1,.str t,.str s,.vec 0],J F],[.vec .expr r])/\m<=k+1/\(∀y∈r,∃x∈zg.l e,P h x y)/\N r<=3:=by
   intro k
   induction k with
   | zero=>
    intro i n a z o t s hi ha A;refine⟨1,a,n,zV.of ?_,S,A,S⟩;grind[Br,Q8]
   | succ k ih=>
    intro i n a z o t s hi ha A;by_cases u:(cond (K ((i:Int)<(↑(zg.l e).length:Int))) (cond (K ((i:Int)<3)) (cond (K (d>0)) (K (n>0)) M) M) M)=Z
    .have hl:i<(zg.l e).length/\0<d:=by
      cases h1:K ((i:Int)<(↑(zg.l e).length:Int))<;>cases h2:K ((i:Int)<3)<;>cases h3:K (d>0)<;>simp_all
     have⟨r,m,b,j⟩:=IH (zg.l e)[i] n hl.2;have gx:g (zg.l e)[i] (Γ Δ (d-1)) n=(r,m):=by rw[<-hg];simp only[b];rfl
     have cx:c (zg.l e)[i] (Γ Δ (d-1)) n=Z:=by rw[<-hc];simp only[b];rfl
     have⟨m2,r2,n2,B,k2,C,D⟩:=ih (i+1) m (a++[r]) z o t s S sg (λy hy=>by
      grind)
     refine⟨m2+1,r2,n2,(zG.of ?_).ends B,?_,C,D⟩
     .grind[zK,Br,Q8,zn,zt,aF]
     .omega
    .refine⟨1,a,n,zV.of ?_,S,A,S⟩;simp only[Br,Q8];rw[zh u]
  have h8:∀(z:zq qZ)(o t s:zN),N t<=45->N s<=20->∃r m R,zV (Br g c) 101 (.h500008 d (Γ Δ (n-1)) (e,()) z (o,(zg.v e).1,(zg.v e).2.1,t,s,())) R/\aX R.2 [Q5,zk] R.1=Y (r,m,())/\P (h+1) e r:=λz o t s ht w=>by
   have⟨m,r,F,B,k2,C,D⟩:=E 3 0 (Γ Δ (n-1)) [] z o t s rfl rfl sw;exact⟨.mk o ((zg.v e).1,(zg.v e).2.1,t) s r,F,_,((zG.of rfl).ends B).mono S,rfl,hP h e o t s r C D ht w⟩
  have h6:∀(z:zq qZ)(o s:zN),N s<=20->∃r m R,zV (Br g c) 102 (.h500006 d n (K ((↑(N (zg.v e).q):Int)>45)) (e,()) z (o,(zg.v e).1,(zg.v e).2.1,(zg.v e).q,s,())) R/\aX R.2 [Q5,zk] R.1=Y (r,m,())/\P (h+1) e r:=λz o s w=>by
   by_cases u:(N (zg.v e).q:Int)>45
   .have⟨r,m,R,b,j,p⟩:=h8 z o (Qg (W 45-W 0) (Qh (W 0) (zg.v e).q)) s sg w;refine⟨r,m,R,(zG.of ?_).ends b,j,p⟩;grind[Br,Q8]
   .have⟨r,m,R,b,j,p⟩:=h8 z o (zg.v e).q s S w;refine⟨r,m,R,(zG.of ?_).ends b,j,p⟩;grind[Br,Q8]
  have h4:∀(z:zq qZ)(o:zN),∃r m R,zV (Br g c) 103 (.h500004 d n (K ((↑(N (zg.s e)):Int)>20)) (e,()) z (o,(zg.v e).1,(zg.v e).2.1,(zg.v e).q,zg.s e,())) R/\aX R.2 [Q5,zk] R.1=Y (r,m,())/\P (h+1) e r:=λz o=>by
   by_cases u:(N (zg.s e):Int)>20
   .have⟨r,m,R,b,j,p⟩:=h6 z o (Qg (W 20-W 0) (Qh (W 0) (zg.s e))) sg;refine⟨r,m,R,(zG.of ?_).ends b,j,p⟩;grind[Br,Q8]
   .have⟨r,m,R,b,j,p⟩:=h6 z o (zg.s e) S;refine⟨r,m,R,(zG.of ?_).ends b,j,p⟩;grind[Br,Q8]
  have e0:ra (h+1) e d n=ztf g c e d n:=by rw[<-hg,<-hc];rfl
  rw[e0];by_cases u:(N (zg.op e):Int)>8
  .have⟨r,m,R,b,j,p⟩:=h4 ([],0,0,[],[],()) (Qg (W 8-W 0) (Qh (W 0) (zg.op e)));refine⟨r,m,zz ?_ b S j,p⟩;grind[zfq,Q8]
  .have⟨r,m,R,b,j,p⟩:=h4 ([],0,0,[],[],()) (zg.op e);refine⟨r,m,zz ?_ b S j,p⟩;grind[zfq,Q8]
theorem RF(x:Nat)(e:zg)(d n:Int)(a:0<=d)(b:d<x)(c:x<=100):Og x e d n=Z:=by have⟨r,m,h,_⟩:=K9 (P:=λ_ _ _=>True) (λ_ _ _ _ _ _ _ _ _ _=>trivial) x e d n a b c;unfold Og;rw[h];rfl
theorem FM{g:zg->Int->Int->Bool×Int}{c:zg->Int->Int->Bool}{d:Int}(h:∀x n,c x (Γ Δ (d+1)) n=Z):∀(l:List zg)(n:Int),FL g c d l n=Z
 |[],_=>rfl
 | x::r,n=>by
  rw[FL,zf (h x n)];split
  .rfl
  .exact FM h r _
theorem FJ:∀(h:Nat)(e:zg)(d n:Int),0<=d->d<=13->14<=d+h->xB h e d n=Z
 |0,_,_,_,_,_,_=>by omega
 | h+1,e,d,n,c,g,i=>by
  rw[xB];unfold T8;by_cases a:d>12
  .simp[a]
  .have b:FL (jg h) (xB h) d e.l (Γ Δ (n+1))=Z:=FM (λx m=>by
    rw[mY _ S S];exact FJ h x (d+1) m S S S) _ _
   repeat' split
   all_goals first|rfl|exact b
abbrev A3:zg:=.mk [] (0,0,[]) [] []
theorem SD(h:Nat)(e:zg):ln (h+1) e A3=Z:=by
 rw[ln];unfold MB;have x:E2 (gP h) (ln h) e.l []=Z:=by
  unfold E2;split
  .rfl
  .cases e.l<;>rfl
 grind[zg.l]
theorem gT{α:Type}(p:α->Bool):∀(l:List α)(i:Nat),al p l i=-1\/((i:Int)<=al p l i/\al p l i<i+N l)
 |[],_=>.inl rfl
 | x::r,i=>by
  unfold al;split
  .exact .inr ⟨S,sg⟩
  .rcases gT p r (i+1)with h|⟨a,b⟩
   .exact .inl h
   .exact .inr ⟨S,sg⟩
theorem KM(l:aZ)(s:zN):aL l s=-1\/(0<=aL l s/\aL l s<N l):=by grind[gT,aL]
theorem nH(o:zN):(dU o=0/\(o=pI\/o=fh))\/(dU o=1/\(o=oH\/o=qM))\/
  (dU o=2/\(o=jf\/o=wS\/o=[61]\/o=[60]\/o=[43]\/o=[45]))\/dU o=-1:=by
 unfold dU Cd;simp only[U9];repeat' split
 all_goals simp_all
theorem A2{g:zg->Int->Int->Bool×Int}{e:zg}{d i:Int}(h:(CG g e d i).1=Z):(e.l.length:Int)=dU e.op/\
  ((e.op=pI\/e.op=fh)\/(rg g d e.l (Γ Δ (i+1))).1=Z):=by grind[CG]
theorem xC{g:zg->Int->Int->Bool×Int}{d:Int}:∀(l:List zg)(n:Int),(rg g d l n).1=Z->∀x∈l,∃m,(g x (Γ Δ (d+1)) m).1=Z
 |[],_,_,_,a=>by simp at a
 | y::r,n,h,x,a=>by
  rw[rg]at h;split at h
  .cases h
  .rename_i b;rcases ce.1 a with rfl|a
   .exact⟨n,by simpa using b⟩
   .exact xC r _ h x a
theorem Cp{g:zg->aZ->Int×Int}{c:zg->aZ->Bool}{b:aZ}{o:zN}{d i:Int}{q k:zN}{w:List zg}:
    ∀(l:List zg)(a:Int)(e:List Int),(∀x∈l,c x b=Z)->((N e:Int)+N l)=dU o->ib g c b o d i q k w l a e=Z
  | [], a,e,_,j=>by
    have j:(N e:Int)=dU o:=by simpa using j
    have n:K (aL b k<0)=Z\/zK (aL b k) (N b)=Z:=by
      rcases KM b k with h|⟨s,m⟩
      · exact .inl (by rw[h];rfl)
      · exact .inr (by simp[zK,s,m])
    have m:o=[61]\/o=[60]->N e=2:=by
      rintro(rfl|rfl)
      · have:dU [61]=2:=by decide
        omega
      · have:dU [60]=2:=by decide
        omega
    unfold ib;repeat' split
    all_goals first
      |rfl
      |(exfalso;rcases n with h|h<;>simp_all;done)
      | (exfalso
         rename_i z p;have t:=m (by simp_all);rw[t]at p;exact p (by cases A:(e.getD (W 0) (Q zk)==e.getD (W 1) (Q zk))<;>cases B:(e.getD (W 0) (Q zk)==0)<;>rfl))
  | x :: r,a,e,hc,j=>by
    have u:dU o<=2:=by rcases nH o with h|h|h|h<;>omega
    rw[ib,zf (hc x sw)];split
    · rfl
    · rw[zf (by simp at j|-;omega)]
      exact Cp r (a+1) _ (λy v=>hc y (by simp[v])) (by simp at j|-;omega)
theorem yS:∀(a:Nat)(e:zg)(d n:Int)(c:aZ),(jg a e d n).1=Z->bL a e c=Z
 |0,_,_,_,_,h=>by cases h
 | a+1,e,d,n,c,h=>by
  rw[jg]at h;have⟨g,b⟩:=A2 h;rw[bL];unfold DL;refine Cp e.l 0 [] (λx j=>?_) (by simpa using g);rcases b with b|b
  .exfalso;have:dU e.op=0:=by
    rcases b with b|b<;>rw[b]<;>decide
   simp_all
  .have⟨m,i⟩:=xC e.l _ b x j;exact yS a x _ _ c i
theorem Ht:∀(c:Nat)(e:zg)(d n:Int)(g:aZ)(j:zr),(jg c e d n).1=Z->yU c g j e=Z
 |0,_,_,_,_,_,h=>by cases h
 | c + 1,.mk p v s l,d,n,g,j,h=>by
  rw[jg]at h;have⟨i,o⟩:=A2 h;have i:(N l:Int)=dU p:=i;have o:(p=pI\/p=fh)\/(rg (jg c) d l (Γ Δ (n+1))).1=Z:=o;have k:∀x∈l,(¬(p=pI\/p=fh))->yU c g j x=Z:=by
   intro x k t;rcases o with o|o
   .exact(t o).elim
   .have⟨m,y⟩:=xC l _ o x k;exact Ht c x _ _ g j y
  have w:(ite ((cond (K (aL g s<0)) Z (K (aL g s>=(N j:Int))))=Z) Z (zK (aL g s) (N j)))=Z:=by
   split
   .rfl
   .grind[zK]
  rw[yU];rcases nH p with⟨u,q⟩|⟨u,q⟩|⟨u,q⟩|u
  .have:l=[]:=DY S;grind[yV]
  .match l,i,k with
   | [a],_,k=>
    rcases q with rfl|rfl
    .rw[yV];exact(zf (k a sw (by decide))).trans rfl
    .rw[yV];exact(zf (k a sw (by decide))).trans rfl
   |[],i,_=>simp at i;omega
   |_::_::_,i,_=>simp at i;omega
  .match l,i,k with
   | [a,b],_,k=>
    rcases q with rfl|rfl|rfl|rfl|rfl|rfl<;>
     (rw[yV];exact(zf (k a sw (by decide))).trans ((zf (k b sw (by decide))).trans rfl))
   |[],i,_=>simp at i;omega
   |[_],i,_=>simp at i;omega
   |_::_::_::_,i,_=>simp at i;omega
  .omega
theorem vL(e:zg):BT e=Z:=by grind[BT,FJ]
theorem Rg(e:zg):Tx e=Z:=by grind[Tx,RF]
theorem NW(e:zg)(c:aZ):KR e c=Z:=by grind[KR,vL,yS,dW]
theorem NU(e:zg)(c:aZ)(h:zr):KP e c h=Z:=by grind[KP,vL,Ht,dW]
def zp5:ak:=ba [Q5] [Q7] λx=>(dW x.1,())
theorem zkL:FK 179 zp5:=pC zh0 λx=>vL x.1
def F7t:ak:=ba [Q5] [Q5] λx=>(iN x.1,())
theorem zsh:FK 57 F7t:=pC zr9 λx=>Rg x.1
def zqi:ak:=ba [Q5,zp.sl] [zk,zk] λx=>((cz x.1 x.2.1).1,(cz x.1 x.2.1).2,())
theorem zk0:FK 178 zqi:=pC zh1 λx=>NW x.1 x.2.1
def zpE:ak:=ba [Q5,zp.sl,ze.sl] [R] λx=>(lr x.1 x.2.1 x.q.1,())
theorem zkj:FK 111 zpE:=pC zhX λx=>NU x.1 x.2.1 x.q.1
def zik:=zij.addL [(179,zp5),(57,F7t),(178,zqi),(111,zpE)]
theorem As:zx zik:=Wh.addL<|fc zkL<|fc zsh<|fc zk0<|fc zkj iP
set_option maxHeartbeats 4000000
abbrev w6:List CP:=[.d ae]
abbrev zeM:List CP:=[.d .str,.nil,.d zk,.nil,.nil,.d .str,.d zk,.d zk,.d .str,.d .str,.nil]
abbrev zsU:List CP:=[.d .str,.d (.sl zp),.d zk,.vec zk,.nil,.d .expr]
abbrev zsV:List CP:=[.d .str,.d (.sl zp),.d zk,.vec zk,.vec zI,.d .expr]
def ZU(x:L Q5)(h:L zp.sl):Tr (Empty⊕ay):=I (ln 16 (zw x) (zg.mk [] (0,0,[]) [] [])) (br (gP 16 (zw x) (zg.mk [] (0,0,[]) [] [])) (re (J 0) []) (br (cond ((cz (zw x) h).2==0) (cond ((cz (zw x) h).1!=3) ((cz (zw x) h).1!=0) M) M) (re (J 5) []) (re (J (cz (zw x) h).2) [])))
def P1(x:L Q5)(h:L zp.sl):=am [zk] t0 100000000 (ZU x h)
def zhC:=FT [Q5,zp.sl] [zk] λx=>P1 x.1 x.2.1
theorem S5:FK 110 zhC:=As.T1 (f:=f110) (keep:=k0) (e:=e0)
abbrev zu6:Nat->aY:=λj=>if j=3 then{slots:=[1,2,3,4],prom:=[(3,Y 3,zk)]}else if j=7 then{slots:=[1,2,3,5],prom:=[(3,Y 4,zI)]}else{ }
inductive Nn where
 |h3 (i4:Int) (z0:zq w6) (z1:zq zeM) (z2:zq zsU)
 |h7 (i5:Int) (z0:zq w6) (z1:zq zeM) (z2:zq zsV)
abbrev zxZ:Nn->Nat×St
 |.h3 i h x z=>(3,⟨tm 70 [(1,ptr 0 0),(2,ptr 1 0),(3,ptr 2 0),(4,J i)],[Qa (bm [] w6 h),Qa (bm [] zeM x),Qa (bm [3] zsU z),AO.vec zk z.r.1]⟩)
 |.h7 a h x z=>(7,⟨tm 70 [(1,ptr 0 0),(2,ptr 1 0),(3,ptr 2 0),(5,J a)],[Qa (bm [] w6 h),Qa (bm [] zeM x),Qa (bm [3,4] zsV z),AO.vec zk z.r.1,AO.vec zI z.t.1]⟩)
def znw(x:ap):Tr (Nn⊕ay):=Q9 (Nn.h3 0 (x,()) ([],0,[],0,0,[],[],()) (kj x.1,kL x.2.1,x.q.1,[],iN (zw x.u),()))
def MV:Nn->Tr (Nn⊕ay)
 | .h3 i h b z=>
  let c:=(N h.1.r.1:Int)
  let a:=[T h.1.r.1 i.toNat (Q zk)]
  br (cond (K (i<c)) (K (i<10)) M)
  (I (zK i (N h.1.r.1)) (I (K (N z.r.1+N a<=1073741824)) (Q9 (Nn.h3 (Γ Δ (i+1)) h b (z.1,z.2.1,z.q.1,z.r.1++a,z.t)))))
  (Q9 (Nn.h7 0 h b (z.1,z.2.1,z.q.1,z.r.1,[],z.t)))
 | .h7 x h b z=>
  let c:=(N h.1.t.1:Int)
  let a:=zK x (N h.1.t.1)
  let d:=T h.1.t.1 x.toNat (Q zI)
  let e:=[(d.1,kj d.2)]
  br (cond (K (x<c)) (K (x<10)) M)
  (I a (I a (I (K (N z.t.1+N e<=1073741824)) (Q9 (Nn.h7 (Γ Δ (x+1)) h b (z.1,z.2.1,z.q.1,z.r.1,z.t.1++e,z.u))))))
  (re (agg [X z.1,O zp z.2.1,J z.q.1,AV.vec 0,AV.vec 1,X (zg.op z.u.1),J (zg.v z.u.1).1,J (zg.v z.u.1).2.1,X (zg.v z.u.1).q,X (zg.s z.u.1),O Q5 (zg.l z.u.1)]) [AO.vec zk z.r.1,AO.vec zI z.t.1])
def zcl(x:ap):=am [ae] MV 100000000 (znw x)
def zqY:=FT [ae] [ae] λx=>zcl x.1
theorem XT:FK 121 zqY:=As.T1 (f:=f121) (keep:=zu6) (e:=zxZ)
def jB(x:L Q5)(h:L zp.sl):zy:=if gP 16 x (zg.mk [] (0,0,[]) [] [])=Z then 0 else if(cond ((cz x h).2==0) (cond ((cz x h).1!=3) ((cz x h).1!=0) M) M)=Z then 5 else(cz x h).2
theorem SB(e:zg)(c:LC):P1 e c=Y (jB e c,()):=by
 have h:(ZU e c).val=Y (.inr (J (jB e c),[])):=by
  unfold jB;simp only[ZU,zn,Q8];rw[zf (SD 15 e)];repeat' split
  all_goals rfl
 exact zQ h rfl
def Hn(t:ap):ap:=(kj t.1,kL t.2.1,t.q.1,Qg 10 t.r.1,(Qg 10 t.t.1).map (λf:cC=>((f.1,kj f.2):cC)),iN t.u)
theorem zcm(t:ap):zcl t=Y (Hn t,()):=by
 have g:=zG.all (t:=MV) 1 (λi=>.h3 (i:Int) (t,()) ([],0,[],0,0,[],[],()) (kj t.1,kL t.2.1,t.q.1,Qg i t.r.1,iN t.u,())) (min 10 (N t.r.1)) λi x=>zG.of (by
  have h:i<N t.r.1:=by omega
  simp only[MV,Q8,zfA (k:=10) (K:=10) rfl x,zu h,zi,aI];rw[zf sg,zt i um,MZ h (Q zk)])
 have a:zG MV 1 (.h3 ((min 10 (N t.r.1):Nat):Int) (t,()) ([],0,[],0,0,[],[],()) (kj t.1,kL t.2.1,t.q.1,Qg (min 10 (N t.r.1)) t.r.1,iN t.u,())) (.h7 ((0:Nat):Int) (t,()) ([],0,[],0,0,[],[],()) (kj t.1,kL t.2.1,t.q.1,Qg (min 10 (N t.r.1)) t.r.1,[],iN t.u,())):=zG.of (by
  simp only[MV,Q8,T7 (k:=10) (K:=10) rfl,zA,zm];rfl)
 rw[yO]at g a;have b:=zG.all (t:=MV) 1 (λi=>.h7 (i:Int) (t,()) ([],0,[],0,0,[],[],()) (kj t.1,kL t.2.1,t.q.1,Qg 10 t.r.1,(Qg i t.t.1).map (λf:cC=>((f.1,kj f.2):cC)),iN t.u,())) (min 10 (N t.t.1)) λi x=>zG.of (by
  have h:i<N t.t.1:=by omega
  simp only[MV,Q8,zfA (k:=10) (K:=10) rfl x,zu h,zi,aI];rw[zf sg,zt i um,MZ h (Q zI),gm];rfl)
 rw[yO]at b;have c:zV MV 1 (.h7 ((min 10 (N t.t.1):Nat):Int) (t,()) ([],0,[],0,0,[],[],()) (kj t.1,kL t.2.1,t.q.1,Qg 10 t.r.1,(Qg 10 t.t.1).map (λf:cC=>((f.1,kj f.2):cC)),iN t.u,())) _:=zV.of (by
  simp only[MV,Q8,T7 (k:=10) (K:=10) rfl,zA,zm];rfl)
 have d:(znw t).val=Y (.inl (.h3 ((0:Nat):Int) (t,()) ([],0,[],0,0,[],[],()) (kj t.1,kL t.2.1,t.q.1,Qg 0 t.r.1,iN t.u,()))):=by
  simp only[znw,zn,Q8];rfl
 unfold Hn;rw[<-zn (iN t.u)];exact zz d (((g.trans a).trans b).ends c) S rfl
def zil:=zik.addL [(110,zhC),(121,zqY)]
theorem Wi:zx zil:=As.addL<|fc S5<|fc XT iP
def zp1:ak:=ba [Q5,zp.sl] [zk] λx=>(jB x.1 x.2.1,())
theorem zkG:FK 110 zp1:=iV S5 λx=>SB x.1 x.2.1
def F5t:ak:=ba [ae] [ae] λx=>(Hn x.1,())
theorem zr0:FK 121 F5t:=iV XT λx=>zcm x.1
def Y9:=zil.addL [(110,zp1),(121,F5t)]
theorem IL:zx Y9:=Wi.addL<|fc zkG<|fc zr0 iP
abbrev znM:=kr [(4,[1,27,28,29]),(11,[1,5,59,60,61]),(17,[1,5,71,72,73])]
inductive uL where
 |h4 (l27:LC) (i28:Int) (i29:Int) (z0:zq w6)
 |h11 (l59:LI) (i60:Int) (i61:Int) (z0:zq w6)
 |h17 (l71:LF) (i72:Int) (i73:Int) (z0:zq w6)
abbrev zsZ:uL->Nat×St
 |.h4 l i h z=>(4,⟨tm 110 [(1,ptr 0 0),(27,O zp l),(28,J i),(29,J h)],[Qa (bm [] w6 z)]⟩)
 |.h11 d x a z=>(11,⟨tm 110 [(1,ptr 0 0),(5,AV.clo (Fn.func 109) [] [ptr 0 0]),(59,O zk d),(60,J x),(61,J a)],[Qa (bm [] w6 z)]⟩)
 |.h17 e b c z=>(17,⟨tm 110 [(1,ptr 0 0),(5,AV.clo (Fn.func 109) [] [ptr 0 0]),(71,O zI e),(72,J b),(73,J c)],[Qa (bm [] w6 z)]⟩)
def Ov(x:ap):Tr (uL⊕ay):=
 let a:=(N x.2.1:Int)
 br (cond (!aD x.1) Z (cond (K (a<1)) Z (K (a>8)))) (re (kb M) [])
 (Q9 (uL.h4 x.2.1 a 0 (x,())))
def qV:uL->Tr (uL⊕ay)
 | .h4 l d i z=>
  let a:=l.getD i.toNat (Q zp)
  br (K (i<d))
  (I (zK i (N l)) (br (cond (!aD a.1) Z (cond (K (a.2.1<1)) Z (cond (K (a.2.1>3)) Z (ab (z.1.1,z.1.2.1,z.1.q.1,z.1.r.1,z.1.t.1,zw z.1.u) a.1!=i)))) (re (kb M) []) (Q9 (uL.h4 l d (Γ Δ (i+1)) z))))
  (Q9 (uL.h11 z.1.r.1 (N z.1.r.1:Int) 0 z))
 | .h11 b e h z=>
  let a:=b.getD h.toNat (Q zk)
  let j:=(N z.1.2.1:Int)
  br (K (h<e))
  (I (zK h (N b)) (br (!bif K (a>=0)then K (a<j)else M) (re (kb M) []) (Q9 (uL.h11 b e (Γ Δ (h+1)) z))))
  (Q9 (uL.h17 z.1.t.1 (N z.1.t.1:Int) 0 z))
 | .h17 c g x z=>
  let a:=c.getD x.toNat (Q zI)
  let j:=(N z.1.2.1:Int)
  let k:=T z.1.2.1 (W z.1.q.1) (Q zp)
  br (K (x<g))
  (I (zK x (N c)) (br (!bif K (a.1>=0)then K (a.1<j)else M) (re (kb M) []) (br (!aD a.2) (re (kb M) []) (Q9 (uL.h17 c g (Γ Δ (x+1)) z)))))
  (br (cond (K (z.1.q.1>=0)) (K (z.1.q.1<j)) M) (I (zK z.1.q.1 (N z.1.2.1)) (br k.q (re (AV.bool (jB (zw z.1.u) z.1.2.1==0)) []) (re (kb M) []))) (re (kb M) []))
def zo8(x:ap):=am [Q7] qV 40000000000000000000 (Ov x)
theorem ZD{e:Type}{t:e->Tr (e⊕ay)}{st:Nat->e}{N:Nat}{b:Nat->Bool}{R:ay}(h:∀i,i<N->(t (st i)).val=if b i=Z then Y (.inl (st (i+1)))else Y (.inr R)):
  ((List.range N).all b=Z/\zG t N (st 0) (st N))\/((List.range N).all b=M/\zV t N (st 0) R):=by
 rcases nP (t:=t) (Φ:=λr=>r=R) 1 st (λi=>b i=Z) N (λi x _=>by
  cases d:b i
  .exact .inr ⟨sw,R,zV.of (by rw[h i x,d];rfl),rfl⟩
  .exact .inl ⟨rfl,zG.of (by rw[h i x,d];rfl)⟩)with⟨a,c⟩|⟨a,r,c,rfl⟩
 .exact .inl ⟨by rw[ep];exact λi x=>a i (ry.1 x),c.mono S⟩
 .refine .inr ⟨?_,c.mono S⟩;rw[Bool.eq_false_iff,Ne,ep];exact λq=>a λi x=>q i (ry.2 x)
def AP(x:Int)(n:Nat):Bool:=bif K (x>=0)then K (x<(n:Int))else M
def Ra(t:ap)(i:Nat):Bool:=!(cond (!aD (T t.2.1 i (Q zp)).1) Z (cond (K ((T t.2.1 i (Q zp)).2.1<1)) Z (cond (K ((T t.2.1 i (Q zp)).2.1>3)) Z (ab t (T t.2.1 i (Q zp)).1!=(i:Int)))))
def zf8(t:ap)(i:Nat):Bool:=AP (T t.t.1 i (Q zI)).1 (N t.2.1)&&aD (T t.t.1 i (Q zI)).2
def dI(t:ap):L Q7:=!(cond (!aD t.1) Z (cond (K ((N t.2.1:Int)<1)) Z (K ((N t.2.1:Int)>8))))&&((List.range (N t.2.1)).all (Ra t)&&((List.range (N t.r.1)).all (λi=>AP (T t.r.1 i (Q zk)) (N t.2.1))&&((List.range (N t.t.1)).all (zf8 t)&&(AP t.q.1 (N t.2.1)&&((T t.2.1 (W t.q.1) (Q zp)).q&&(jB t.u t.2.1==0))))))
theorem zcn{t:ap}(y:Io t.r.1<=aF)(z:Io t.t.1<=aF):zo8 t=Y (dI t,()):=by
 unfold dI;by_cases x:(cond (!aD t.1) Z (cond (K ((Io t.2.1:Int)<1)) Z (K ((Io t.2.1:Int)>8))))=Z
 .rw[x];refine zQ (r:=(.kb M,[])) ?_ rfl;simp only[Ov,Q8];exact zf x
 have A:Io t.2.1<=8:=by
  cases p:aD t.1
  .rw[p]at x;simp at x
  .rw[p]at x;simp at x;omega
 have e:(Ov t).val=Y (.inl (.h4 t.2.1 (Io t.2.1:Int) ((0:Nat):Int) (t,()))):=by
  simp only[Ov,Q8];exact zh x
 rw[iW]at x;rw[x];have B:aF=9223372036854775807:=rfl
 rcases ZD (t:=qV) (R:=(.kb M,[])) (N:=Io t.2.1) (st:=λi=>.h4 t.2.1 (Io t.2.1:Int) (i:Int) (t,())) (b:=Ra t) (λi h=>by
  simp only[qV,Q8,zM h,zu h,zi,aI,zn,aN,zt i (show i<aF by omega)];unfold Ra;split
  next c=>rw[c];rfl
  next c=>rw[iW]at c;rw[c];rfl)with⟨j,m⟩|⟨j,m⟩
 rotate_left
 .rw[j];exact zz e m S rfl
 have g:=m.trans (zG.of (s':=.h11 t.r.1 (Io t.r.1:Int) ((0:Nat):Int) (t,())) (by
  simp only[qV,Q8,zJ,zA,zm];rfl))
 rw[j]
 rcases ZD (t:=qV) (R:=(.kb M,[])) (N:=Io t.r.1) (st:=λi=>.h11 t.r.1 (Io t.r.1:Int) (i:Int) (t,())) (b:=λi=>AP (T t.r.1 i (Q zk)) (Io t.2.1)) (λi h=>by
  simp only[qV,Q8,zM h,zu h,zi,aI,zt i (show i<aF by omega)];unfold AP;split
  next c=>rw[uP]at c;rw[c];rfl
  next c=>rw[iW,Bool.not_eq_false']at c;rw[c];rfl)with⟨k,n⟩|⟨k,n⟩
 rotate_left
 .rw[k];exact zz e (g.ends n) S rfl
 have a:=(g.trans n).trans (zG.of (s':=.h17 t.t.1 (Io t.t.1:Int) ((0:Nat):Int) (t,())) (by
  simp only[qV,Q8,zJ,zA,zm];rfl))
 rw[k]
 rcases ZD (t:=qV) (R:=(.kb M,[])) (N:=Io t.t.1) (st:=λi=>.h17 t.t.1 (Io t.t.1:Int) (i:Int) (t,())) (b:=zf8 t) (λi h=>by
  simp only[qV,Q8,zM h,zu h,zi,aI,zt i (show i<aF by omega)];unfold zf8 AP;split
  next c=>rw[uP]at c;rw[c];rfl
  next c=>rw[iW,Bool.not_eq_false']at c;rw[c];cases aD (T t.t.1 i (Q zI)).2<;>rfl)with⟨l,o⟩|⟨l,o⟩
 rotate_left
 .rw[l];exact zz e (a.ends o) S rfl
 rw[l];have d:∃r,(qV (.h17 t.t.1 (Io t.t.1:Int) (Io t.t.1:Int) (t,()))).val=Q1 (.inr r)/\aX r.2 [Q7] r.1=Q1 ((AP t.q.1 (Io t.2.1)&&((getD t.2.1 (toNat t.q.1) (zj zp)).q&&(jB t.u t.2.1==0))),()):=by
  simp only[qV,Q8,zJ,zn,zA,zm];unfold AP;cases c:(cond (K (t.q.1>=0)) (K (t.q.1<(Io t.2.1:Int))) M)
  .exact⟨_,rfl,rfl⟩
  .have h:zK t.q.1 (Io t.2.1)=Z:=by
    cases w:K (t.q.1>=0)<;>simp_all[zK]
   rw[h];cases(T t.2.1 (W t.q.1) (Q zp)).q
   .exact⟨_,rfl,rfl⟩
   .exact⟨_,rfl,rfl⟩
 have⟨r,s,v⟩:=d;exact zz e ((a.trans o).ends (zV.of s)) S v
theorem ok8:aa Y9.P 47 f47 1:=cM kw
def F8t:ak:=ba [ae] [Q7] λx=>(dI x.1,())
theorem zsq:FK 47 F8t:=az ok8 λx C b=>Reach.lenA 0 3 zk x.1.r.1 rfl rfl λh=>Reach.lenA 0 4 zI x.1.t.1 rfl rfl λa=>
 Mr (n0:=0) (t:=qV) (e:=zsZ) (keep:=znM) (gas:=400) (i:=Ov x.1) IL ok8 (λid _=>b id) kw (by intro s;cases s<;>kernel_rfl) (zcn h a)
def zim:=Y9.add 47 F8t
theorem IM:zx zim:=IL.add zsq
abbrev zn7:=kr [(4,[1,2,19,20,21]),(10,[1,2,30,31])]
inductive BD where
 |h4 (l1:LV) (l19:LV) (i20:Int) (i21:Int) (z0:zq w6)
 |h10 (l1:LV) (i30:Int) (i31:Int) (z0:zq w6)
abbrev ztc:BD->Nat×St
 |.h4 l b i h z=>(4,⟨tm 79 [(1,O R l),(2,ptr 0 0),(19,O R b),(20,J i),(21,J h)],[Qa (bm [] w6 z)]⟩)
 |.h10 l x a z=>(10,⟨tm 79 [(1,O R l),(2,ptr 0 0),(30,J x),(31,J a)],[Qa (bm [] w6 z)]⟩)
def ZV(x:ap)(h:L ze.sl):Tr (BD⊕ay):=br (cond (!dI (x.1,x.2.1,x.q.1,x.r.1,x.t.1,zw x.u)) Z ((N h:Int)!=(N x.2.1:Int))) (re (J 1) []) (Q9 (BD.h4 h h (N h:Int) 0 (x,())))
def yK:BD->Tr (BD⊕ay)
 | .h4 l x a h z=>
  br (K (h<a))
  (I (zK h (N x)) (br (!bg (x.getD h.toNat (Q R))) (re (J 1) []) (Q9 (BD.h4 l x a (Γ Δ (h+1)) z))))
  (Q9 (BD.h10 l (N l:Int) 0 z))
 | .h10 l b i z=>
  let c:=l.getD i.toNat (Q R)
  let e:=c.1==0
  let g:=zK i (N z.1.2.1)
  let j:=T z.1.2.1 i.toNat (Q zp)
  let k:=c.1!=0
  let d:=lr (zw z.1.u) z.1.2.1 l
  br (K (i<b))
  (I (zK i (N l)&&bif e then g else Z) (br (cond e j.q M) (re (J 8) []) (I (zK i (N l)&&bif k then zK i (N l)&&g else Z) (br (cond k (c.1!=j.2.1) M) (re (J 5) []) (Q9 (BD.h10 l b (Γ Δ (i+1)) z))))))
  (br (d.1==3&&(d.2.1==0&&(d.q==[]&&Z))) (re (J 9) []) (re (J 0) []))
def Vd(x:ap)(h:L ze.sl):=am [zk] yK 100000000 (ZV x h)
def zhL:=FT [ae,ze.sl] [zk] λx=>Vd x.1 x.2.1
theorem S7:FK 48 zhL:=IM.T1 (f:=f48) (keep:=zn7) (e:=ztc)
def fk(t:ap)(row:LV):zr->Int->zy
 |[],_=>if((lr t.u t.2.1 row).1==3&&((lr t.u t.2.1 row).2.1==0&&((lr t.u t.2.1 row).q==[]&&Z)))=Z then 9 else 0
 |x::r,i=>if(cond (x.1==0) ((T t.2.1 i.toNat (Q zp)).q) M)=Z then 8 else if(cond (x.1!=0) (x.1!=(T t.2.1 i.toNat (Q zp)).2.1) M)=Z then 5 else fk t row r (i+1)
def ig(t:ap)(row:LV):zr->Int->zy
 |[],_=>fk t row row 0
 |x::r,i=>if(!bg x)=Z then 1 else ig t row r (i+1)
def cm(t:ap)(row:L ze.sl):zy:=if(cond (!dI t) Z ((N row:Int)!=(N t.2.1:Int)))=Z then 1 else ig t row row 0
theorem Ua{b:ap}(h:dI b=Z):N b.2.1<=8:=by
 unfold dI at h;rw[aO]at h;have h:=h.1;cases x:aD b.1
 .rw[x]at h;simp at h
 .rw[x]at h;simp at h;omega
theorem Xv(t:ap)(x:LV):Vd t x=Y (cm t x,()):=by
 unfold cm;by_cases h:(cond (!dI t) Z ((N x:Int)!=(N t.2.1:Int)))=Z
 .rw[zf h];refine zQ (r:=(J 1,[])) ?_ rfl;simp only[ZV,zn,aN,Q8];exact zf h
 rw[zh h];have d:dI t=Z/\N x=N t.2.1:=by
  cases d:dI t
  .rw[d]at h;simp at h
  .rw[d]at h;simp at h;exact⟨rfl,S⟩
 have p:=Ua d.1;have g:∀(m i:Nat),N x-i=m->i<=N x->zV yK (m+1) (.h10 x (N x) i (t,())) (J (fk t x (x.drop i) i),[]):=by
  intro m
  induction m with
  | zero=>
   intro i k l;obtain rfl:i=N x:=by omega
   rw[kE,fk];refine zV.of ?_;simp only[yK,Q8,zJ,zn,zA,zm];split<;>rfl
  | succ m n=>
   intro i k l;have a:i<N x:=by omega
   have j:T x i (Q R)=x[i]:=dq _ _ a;rw[gF a,fk];have b:(yK (.h10 x (N x) i (t,()))).val=if(cond (x[i].1==0) ((T t.2.1 i (Q zp)).q) M)=Z then Y (.inr (J 8,[]))else if(cond (x[i].1!=0) (x[i].1!=(T t.2.1 i (Q zp)).2.1) M)=Z then Y (.inr (J 5,[]))else Y (.inl (.h10 x (N x) ((i+1:Nat):Int) (t,()))):=by
    simp only[yK,Q8,zM a,zu a,zu (show i<N t.2.1 by omega),aI,j,eW,Bool.cond_self,zi,zt i (show i<aF by unfold aF;omega)]
   simp only[aI];split
   next c=>exact(zV.of (by rw[b,zf c])).mono S
   .rename_i c;split
    next e=>exact(zV.of (by rw[b,zh c,zf e])).mono S
    next e=>exact(zG.of (by rw[b,zh c,zh e])).ends (n (i+1) S S)
 have o:∀(m i:Nat),N x-i=m->i<=N x->zV yK (m+N x+2) (.h4 x x (N x) i (t,())) (J (ig t x (x.drop i) i),[]):=by
  intro m
  induction m with
  | zero=>
   intro i k l;obtain rfl:i=N x:=by omega
   rw[kE,ig];refine((zG.of (s':=.h10 x (N x) ((0:Nat):Int) (t,())) ?_).ends (g (N x) 0 S S)).mono S;simp only[yK,Q8,zJ,zA,zm];rfl
  | succ m n=>
   intro i k l;have a:i<N x:=by omega
   have j:T x i (Q R)=x[i]:=dq _ _ a;rw[gF a,ig];have b:(yK (.h4 x x (N x) i (t,()))).val=if(!bg x[i])=Z then Y (.inr (J 1,[]))else Y (.inl (.h4 x x (N x) ((i+1:Nat):Int) (t,()))):=by
    simp only[yK,Q8,zM a,zu a,aI,j,zi,zt i (show i<aF by unfold aF;omega)]
   split
   next c=>exact(zV.of (by rw[b,zf c])).mono S
   next c=>exact((zG.of (by rw[b,zh c])).ends (n (i+1) S S)).mono S
 refine zz (s:=.h4 x x (N x) ((0:Nat):Int) (t,())) ?_ (o (N x) 0 S S) S rfl;simp only[ZV,zn,aN,Q8];exact zh h
def zin:=zim.add 48 zhL
theorem Wj:zx zin:=IM.add S7
def zpx:ak:=ba [ae,ze.sl] [zk] λx=>(cm x.1 x.2.1,())
theorem zkc:FK 48 zpx:=iV S7 λx=>Xv x.1 x.2.1
def EI:=zin.add 48 zpx
theorem Wk:zx EI:=Wj.add zkc
open Go.RowKit Go.Lib in
theorem zlz:FK 268 (af [.str,.str] [.bool] (λx=>N x.2.1==1) λx=>(K (0<=Lib.indexByte x.1 (x.2.1.headD 0)),())):=by
 refine fU (E:=EI) ⟨f268,kw,kw,kw⟩ λx y p h=>?_
 unfold gu at h;split at h
 .simp only[Q8]at h;split at h
  .rename_i g;simp only[bH]at h;subst h;have⟨s,d,u⟩:=x;have g:(N d==1)=Z:=g
   match d,g with
   | [c],_=>
    intro C w U B v _ b l a i m;have n:=b.len
    match v,n,b with
    | [q,t],_,b=>
     have j:=b.rv 0 (.str s) q rfl rfl;have k:=b.rv 1 (.str [c]) t rfl rfl;cases j with
     |str _ z=>
     cases k with
     |str _ o=>
     refine(Tryz.strings_Contains_one ⟨s.toArray⟩ c w).mono ?_;rintro e A ⟨rfl,rfl⟩;exact fG l a i m (Below.refl _ _) (.bool _)
  .cases h
 .simp at h
def F63:ak:=af [.str,.str] [.bool] (λx=>N x.2.1==1) λx=>(K (0<=Lib.indexByte x.1 (x.2.1.headD 0)),())
theorem zr3:FK 268 F63:=zlz
def F89:ak:=af [.str] [.str] (λx=>K (N x.1<=140737488355328)&&x.1.all λb=>K (b.toNat<128)) λx=>(Lib.toUpperA x.1,())
open Go.RowKit Go.Lib in
theorem zso:FK 291 F89:=by
 refine fU (E:=EI) ⟨f291,kw,kw,kw⟩ λx B z h=>?_
 unfold gu at h;split at h
 .simp only[Q8]at h;split at h
  .rename_i a;simp only[bH]at h;subst h;have⟨s,u⟩:=x;have a:(K (N s<=140737488355328)&&s.all λb=>K (b.toNat<128))=Z:=a;simp only[aO,bc]at a;have⟨i,a⟩:=a;intro C w U F v _ d m c k n;have q:=d.len
   match v,q,d with
   | [A],_,d=>
    have l:=d.rv 0 (.str s) A rfl rfl;cases l with
    |str _ y=>
    refine(Tryz.strings_ToUpper_ascii ⟨s.toArray⟩ w (by simpa[ByteArray.size]using i) (λj b p=>?_)).mono ?_
    .have t:b∈s:=gh (by simpa using p);simp only[ep,bc]at a;exact a b t
    .rintro e D ⟨rfl,o⟩;have g:=fG (r:=.str (Lib.toUpperA s)) m c k n o (.str _ (by simpa[Lib.toUpperA]using y));exact g
  .cases h
 .simp at h
def pK:Nat->Nat->zN
 |0,_=>[]
 |f+1,n=>if n<10 then[UInt8.ofNat (48+n)]else pK f (n/10)++[UInt8.ofNat (48+n%10)]
def uY(n:Int):zN:=if n<0 then 45::pK 20 n.natAbs else pK 20 n.natAbs
theorem KO:∀(f n:Nat),n<10^f->0<f->pK f n=Lib.decDigits n
 |0,_,_,h=>by omega
 | f+1,n,h,_=>by
  rw[pK,Lib.decDigits];split
  .rfl
  .rename_i a;have x:0<f:=by
    cases f with
    |zero=>simp at h;omega
    |succ f=>omega
   rw[KO f (n/10) (by rw[pD]at h;omega) x]
theorem Es:∀(f n:Nat),(pK f n).length<=f
 |0,_=>by simp[pK]
 | f+1,n=>by
  rw[pK];split
  .simp
  .have:=Es f (n/10);simp;omega
theorem Jz(n:Int):(uY n).length<=21:=by unfold uY;have:=Es 20 n.natAbs;split<;>simp<;>omega
theorem Z8(n:Int)(h:dw .i64 n):Lib.itoa n=uY n:=by
 have x:-9223372036854775808<=n:=h.1;have a:n<=9223372036854775807:=h.2;unfold Lib.itoa uY;split
 .rw[KO 20 _ S S]
 .rw[KO 20 _ S S];congr 1;omega
def zpG:ak:=af [zk,zk] [.str] (λx=>x.2.1==10) λx=>(uY x.1,())
open Go.RowKit Go.Lib in
theorem zkl:FK 333 zpG:=by
 refine fU (E:=EI) ⟨f333,kw,kw,kw⟩ λx h0 F a=>?_
 unfold gu at a;split at a
 .simp only[Q8]at a;split at a
  .rename_i i;simp only[bH]at a;subst a;have⟨n,b,u⟩:=x;have i:(b==10)=Z:=i;simp only[bX]at i;subst i;intro C w U ρ v _ d t c m o;have B:=d.len
   match v,B,d with
   | [G,H],_,d=>
    have p:=d.rv 0 (J n) G rfl rfl;have q:=d.rv 1 (J 10) H rfl rfl;cases p with
    |int _ _ l=>
    cases q;have s:Rv w U (λ_=>Q2) (.tab .u64 nY) (.pointer (Q1 ⟨5,0,Q2⟩)):=o.gl 5;have g:Lib.TabIs prog w "internal/strconv.uint64pow10" .u64 Lib.pow10Tab:=by
     cases s with
     |tab _ _ _ h P y hU=>
     have z:prog.globalNamed "internal/strconv.uint64pow10"=Q1 5:=by kernel_rfl
     have D:Lib.pow10Tab=nY:=by decide+kernel
     unfold Lib.TabIs World.var?;rw[z,D];simp only[Option.bind_some,y]
    refine(Tryz.strconv_FormatInt_10 n l.1 l.2 w g).mono ?_;rintro e w' ⟨rfl,k,os,rfl⟩;rw[Z8 n l];exact fG (r:=.str (uY n)) t c m o ⟨rfl,rfl,rfl,by show w.heap.size<=(w.heap++os).size;simp,λj A=>by show(w.heap++os)[j]?=w.heap[j]?;rw[Array.getElem?_append_left A]⟩ (.str _ (by have:=Jz n;unfold aF;omega))
  .cases a
 .simp at a
theorem yq(o n:zN):∀(k:Nat)(s:zN),(Lib.replaceK o n k s).length<=N s+k*N n
 |0,s=>by simp[Lib.replaceK]
 | k+1,s=>by
  rw[Lib.replaceK];split
  .omega
  .have:=yq o n k (s.drop ((Lib.index s o).toNat+N o));simp only[jK,oC,List.length_drop]at this|-;rw[jP];omega
theorem mP(s o n:zN):(Lib.replaceAll s o n).length<=N s+(N s+1)*N n:=by
 unfold Lib.replaceAll Lib.replace;split
 .omega
 .refine aV (yq o n _ s) ?_;have h:=Lib.count_le s o;have:Lib.replaceNum s o (-1)=Lib.count s o:=by unfold Lib.replaceNum;rw[zf (.inl S)]
  rw[this];have:=fM (N n) h;omega
def yp(s o n:zN):Bool:=K (N s<=4000000000)&&(K (1<=N o)&&K (N n<=1000))
def zpH:ak:=af [.str,.str,.str] [.str] (λx=>yp x.1 x.2.1 x.q.1) λx=>(Lib.replaceAll x.1 x.2.1 x.q.1,())
open Go.RowKit Go.Lib in
theorem zkm:FK 334 zpH:=by
 refine fU (E:=EI) ⟨f334,kw,kw,kw⟩ λx h0 h9 a=>?_
 unfold gu at a;split at a
 .simp only[Q8]at a;split at a
  .rename_i d;simp only[bH]at a;subst a;have⟨s,o,n,u⟩:=x;have d:yp s o n=Z:=d;unfold yp at d;simp only[aO,bc]at d;have⟨h4,g,i⟩:=d;intro C w U ρ v _ b H j y z;have hl:=b.len
   match v,hl,b with
   | [v1,v2,v3],_,b=>
    have D:=b.rv 0 (.str s) v1 rfl rfl;have F:=b.rv 1 (.str o) v2 rfl rfl;have G:=b.rv 2 (.str n) v3 rfl rfl;cases D with
    |str _ h6=>
    cases F with
    |str _ h7=>
    cases G with
    |str _ h8=>
    have l:Rv w U (λ_=>Q2) .gint (.pointer (Y ⟨0,0,Q2⟩)):=z.gl 0;have p:∃m:Int,w.cell? ⟨0,0,Q2⟩=Y (.int .i64 m):=by
     cases l with
     |gint m _ h fr _ P _=>exact⟨m,by simp[World.cell?,P]⟩
    have⟨m,hm⟩:=p;have h5:=Lib.countB_le (⟨o.toArray⟩:ByteArray) (by simpa[ByteArray.size]using g) (N s) (⟨s.toArray⟩:ByteArray) (by simp[ByteArray.size]);have k:(⟨s.toArray⟩:ByteArray).size=N s:=by simp[ByteArray.size]
    have t:(⟨n.toArray⟩:ByteArray).size=N n:=by simp[ByteArray.size]
    have B:Lib.countB (⟨s.toArray⟩:ByteArray) ⟨o.toArray⟩*N n<=4000000000*1000:=Is S i;refine(Tryz.strings_ReplaceAll ⟨s.toArray⟩ ⟨o.toArray⟩ ⟨n.toArray⟩ m w (by rw[k];omega) hm (by simpa[ByteArray.size]using g) (by rw[k,t];omega)).mono ?_;rintro e w' ⟨rfl,c⟩;refine fG (r:=.str (Lib.replaceAll s o n)) H j y z c (.str _ ?_);have A:=mP s o n;have q:(N s+1)*N n<=4000000001*1000:=Is S i;unfold aF;omega
  .cases a
 .simp at a
def zpF:ak:=af [.sl .str,.str] [.str] (λx=>K (N x.1<=140737488355328)&&K ((Lib.join x.1 x.2.1).length<=140737488355328)) λx=>(Lib.join x.1 x.2.1,())
open Go.RowKit Go.Lib in
theorem zkk:FK 332 zpF:=by
 refine fU (E:=EI) ⟨f332,kw,kw,kw⟩ λx h0 h7 d=>?_
 unfold gu at d;split at d
 .simp only[Q8]at d;split at d
  .rename_i k;simp only[bH]at d;subst d;have⟨l,h,u⟩:=x;have k:(K (N l<=140737488355328)&&K ((Lib.join l h).length<=140737488355328))=Z:=k;simp only[aO,bc]at k;have⟨t,k⟩:=k;have h5:aF=9223372036854775807:=rfl;intro C w U ρ B _ p hH i A hW;have hl:=p.len
   match B,hl,p with
   | [v1,v2],_,p=>
    have G:=p.rv 0 (.sl .str l) v1 rfl rfl;have h2:=p.rv 1 (.str h) v2 rfl rfl;cases h2 with
    |str _ h6=>
    generalize y:l=l0 at G k t p;cases G with
    | sl0 _ a c=>
     subst y;refine(Tryz.strings_Join_none a c ⟨h.toArray⟩ w).mono ?_;rintro e w' ⟨rfl,rfl⟩;exact fG (r:=.str []) hH i A hW (Below.refl _ _) (.str _ sw)
    | sl _ _ b o c v D hm hb hU m F=>
     subst y;have d:∀(j:Nat) x,(l.map λs=>(⟨s.toArray⟩:ByteArray))[j]?=Y x->w.cell? ⟨b,o+j,Q2⟩=Y (.string x):=by
      intro j x n;simp only[dN,dV]at n;obtain⟨s,hs,rfl⟩:=n;obtain⟨z,rfl⟩:=dF.1 hs;have H:=m j 0 z (by simp[Sh.size]);have P:=F j z 0 (.str l[j]) rfl;simp only[Sh.size,Nat.mul_one,vC]at H;rw[H];generalize v j 0=vv at P;cases P;rfl
     have g:(l.map λs=>(⟨s.toArray⟩:ByteArray)).map (·.data.toList)=l:=by
      simp[BH]
     have n:=Tryz.strings_Join b o c (l.map λs=>(⟨s.toArray⟩:ByteArray)) ⟨h.toArray⟩ w d hb (by simpa using t) (by simpa using D) (by rw[g];exact k);rw[g]at n;simp only[cY]at n;refine n.mono ?_;rintro e w' ⟨rfl,q⟩;exact fG (r:=.str (Lib.join l h)) hH i A hW q (.str _ S)
  .cases d
 .simp at d
def uS:=EI.addL [(268,F63),(291,F89),(333,zpG),(334,zpH),(332,zpF)]
theorem jV:zx uS:=Wk.addL<|fc zr3<|fc zso<|fc zkl<|fc zkm<|fc zkk iP
theorem Reach.promNil{fn:FuncId}{s:St}(e:Sh)(H:∀id,C.ρ0 id=Q2)(h:Reach E C fn t s (λr h=>(r,h)=(.nils,[]))):Reach E C fn t s (λr h=>(r,h)=(.vec 0,[.vec e []])):=by
 intro b z a w U ρ F G hc P;have⟨A,y,B,⟨v,r,h',p,ρ',he,hq,n,hH,q,h6,k⟩,l,hf,hl⟩:=h b z a w U ρ F G hc P;cases hq;cases n with
 |nils i=>
 have c:∀id o b,o=(AO.vec e []:AO)\/o=AO.dead->¬ar (λid=>if id=0 then Y (.slice i 0 0)else Q2) id o b:=by
  rintro id o b ho ⟨h3,x,h4,h5⟩;rcases ho with rfl|rfl
  .simp only at h4;split at h4
   .cases h4;cases i<;>simp[cf]at h5
   .cases h4
  .simp[AO.owns]at h3
 have g:∀id,(([AO.vec e []]:List AO).getD id .dead)=(ite (id=0) (AO.vec e []) AO.dead):=by
  intro id;cases id<;>simp
 refine⟨A,y,B,⟨_,_,_,p,λid=>if id=0 then Y (.slice i 0 0)else Q2,he,rfl,.vec 0 _ sw (by simp[Value.oneCell']),⟨λid=>?_,λj h7 b o=>?_,λid b o=>?_⟩,λid m=>?_,λid v u=>?_,k⟩,l,hf,hl⟩
 .show bz y p _ id (([AO.vec e []]:List AO).getD id .dead);rw[g];split
  next D=>subst D;exact⟨i,0,sw,sw,.inl ⟨rfl,rfl⟩⟩
  .trivial
 .exfalso;have d:ar (λid=>if id=0 then Y (.slice i 0 0)else Q2) j (([AO.vec e []]:List AO).getD j .dead) b:=o;rw[g]at d;split at d
  .exact c _ _ _ (.inl rfl) d
  .exact c _ _ _ (.inr rfl) d
 .exfalso;have d:ar (λid=>if id=0 then Y (.slice i 0 0)else Q2) id (([AO.vec e []]:List AO).getD id .dead) b:=o;rw[g]at d;split at d
  .exact c _ _ _ (.inl rfl) d
  .exact c _ _ _ (.inr rfl) d
 .simp at m;simp;omega
 .rw[H id]at u;cases u
def bR:Tr zU->List Item×List Item×St
 |.ok (.fork _ k h s)=>(k,h,s)
 |_=>([],[],⟨[],[]⟩)
abbrev M7:Nat->aY:=λ_=>{ }
abbrev NH(l:List zg):Tr zU:=run uS 0 M7 (Func.results f204).toList 300 (bv f204) (bl (Func.ntmps f204) [.sl .expr l] [])
theorem zfK:aa uS.P 204 f204 1:=cM kw
theorem zyN(l:List zg):NH l=.ok (.fork l.isEmpty (bR (NH l)).1 (bR (NH l)).2.1 (bR (NH l)).q):=kw
theorem zwl(l:List zg):run uS 0 M7 (Func.results f204).toList 300 (bR (NH l)).1 (bR (NH l)).q=.ok (.ret .nils []):=kw
theorem zwm(l:List zg):run uS 0 M7 (Func.results f204).toList 300 (bR (NH l)).2.1 (bR (NH l)).q=.chk (K (N l<=1073741824)) (.ok (.ret (.vec 0) [.vec .expr l])):=kw
def G53:fA [Y (.sl .expr)]:=λx h=>match h with
 |[]=>.chk (K (N x.1<=1073741824)) (.ok (.vec 0,[.vec .expr x.1]))
 |_=>.err
def F53:ak:=bj [Y (.sl .expr)] G53
theorem zrU:FK 204 F53:=by
 refine dA zfK λx j i a C b=>?_
 unfold G53 at a;split at a
 .simp only[Q8]at a;split at a
  .rename_i d;simp only[bH]at a;subst a;have⟨l,u⟩:=x;refine zL (n0:=0) jV zfK b (zyN l) ?_;refine⟨λc=>?_,?_⟩
   .have e:l=[]:=List.isEmpty_iff.1 c;refine Reach.weaken (Q:=λr h=>(r,h)=(.vec 0,[.vec .expr []])) (Reach.promNil .expr (λid=>b id sw) (zL (n0:=0) jV zfK b (zwl l) rfl)) ?_;intro r h g;cases g;refine⟨_,?_,λ_ _ _ _ h=>h⟩;show(AV.vec 0,[AO.vec Q5 []])=(AV.vec 0,[AO.vec Q5 l]);rw[e]
   .exact zL (n0:=0) jV zfK b (zwm l) (fV d rfl)
  .cases a
 .simp at a
abbrev NG(l:aZ):Tr zU:=run uS 0 M7 (Func.results f156).toList 300 (bv f156) (bl (Func.ntmps f156) [.sl zp l] [])
theorem zfI:aa uS.P 156 f156 1:=cM kw
theorem zyv(l:aZ):NG l=.ok (.fork l.isEmpty (bR (NG l)).1 (bR (NG l)).2.1 (bR (NG l)).q):=kw
theorem zwi(l:aZ):run uS 0 M7 (Func.results f156).toList 300 (bR (NG l)).1 (bR (NG l)).q=.ok (.ret .nils []):=kw
theorem zwj(l:aZ):run uS 0 M7 (Func.results f156).toList 300 (bR (NG l)).2.1 (bR (NG l)).q=.chk (K (N l<=1073741824)) (.ok (.ret (.vec 0) [.vec zp l])):=kw
def G32:fA [Y (.sl zp)]:=λx h=>match h with
 |[]=>.chk (K (N x.1<=1073741824)) (.ok (.vec 0,[.vec zp x.1]))
 |_=>.err
def F32:ak:=bj [Y (.sl zp)] G32
theorem zrB:FK 156 F32:=by
 refine dA zfI λx j i a C b=>?_
 unfold G32 at a;split at a
 .simp only[Q8]at a;split at a
  .rename_i d;simp only[bH]at a;subst a;have⟨l,u⟩:=x;refine zL (n0:=0) jV zfI b (zyv l) ?_;refine⟨λc=>?_,?_⟩
   .have e:l=[]:=List.isEmpty_iff.1 c;refine Reach.weaken (Q:=λr h=>(r,h)=(.vec 0,[.vec zp []])) (Reach.promNil zp (λid=>b id sw) (zL (n0:=0) jV zfI b (zwi l) rfl)) ?_;intro r h g;cases g;refine⟨_,?_,λ_ _ _ _ h=>h⟩;show(AV.vec 0,[AO.vec zp []])=(AV.vec 0,[AO.vec zp l]);rw[e]
   .exact zL (n0:=0) jV zfI b (zwj l) (fV d rfl)
  .cases a
 .simp at a
def zmR:=uS.addL [(204,F53),(156,F32)]
theorem N8:zx zmR:=jV.addL<|fc zrU<|fc zrB iP
def XM(c:zg->Bool):ak:=af [.expr] [.expr] (λx=>c x.1) λx=>(x.1,())
def V9(c:zg->Bool):cy:=zmR.add 146 (XM c)
variable {x:zg->Bool}
theorem Ex(h:FK 146 (XM x)):zx (V9 x):=N8.add h
abbrev zuC:Nat->aY:=λj=>if j=3 then{slots:=[1,2,10,11]}else{ }
abbrev UX(i h:Int)(j:zN)(x a:Int)(b c:zN)(l:List (L Q5)):St:={
 tmps:=
  (tm 26 [(1,ptr 0 0),(2,ptr 1 0),(10,J i),(11,J h)]),
 heap:=
  [Qa [X j,J x,J a,X b,X c,AV.vec 2],
   Qa [X [],J 0,J 0,X [],X [],nils],AO.vec Q5 l]}
theorem R3(c:zg->Bool):aa (V9 c).P 146 f146 1:=cM kw
theorem zyw(c:zg->Bool)(o:zN)(v:V)(s:zN)(l:List zg):rn (V9 c) 0 zuC f146 [zX Q5 (zg.mk o v s l)] []=
 I (K (N l<=1073741824)) (Tr.ok (zU.head 3 (aq f146 3) (UX (N l:Int) 0 o v.1 v.2.1 v.2.2 s l))):=kw
theorem za2(c:zg->Bool)(h i:Int)(j:zN)(x a:Int)(b d:zN)(l:List (Sem Sh.expr)):rh (V9 c) 0 zuC f146 3 (UX h i j x a b d l)=
 br (K (i<h))
 (chk (zK i (Io l))
  (chk (decide (i.toNat<Io l))
   (chk (c (zw (l.getD i.toNat (zj Sh.expr))))
    (chk (zK i (Io l))
     (chk (decide (i.toNat<Io l))
      (Tr.ok
       (zU.head 3 (aq f146 3)
        (UX h (Γ Δ (i+1)) j x a b d
         (l.set i.toNat
          (zw (l.getD i.toNat (Q Q5))))))))))))
 (Tr.ok
  (zU.ret (agg [X j,J x,J a,X b,X d,AV.vec 0]) [AO.vec Q5 l])):=kw
theorem zxi(d:FK 146 (XM x))(c:∀id,C.ρ0 id=Q2)(o:zN)(v:V)(s:zN)(l:List zg)(t:N l<=1073741824)(b:l.all x=Z):
  ∀(k i:Nat),N l-i=k->i<=N l->Reach (V9 x) C 146 (aq f146 3) (UX (N l) i o v.1 v.2.1 v.q s l) (λr h=>aX h [.expr] r=Y (zg.mk o v s l,())):=by
 intro k
 induction k with
 | zero=>
  intro i p n;obtain rfl:i=N l:=by omega
  refine zL (n0:=0) (Ex d) (R3 x) (λid _=>c id) (za2 x _ _ _ _ _ _ _ _) ?_;simp only[zJ,Tr.val_brF];rfl
 | succ k e=>
  intro i p n;have a:i<N l:=by omega
  refine zL (n0:=0) (Ex d) (R3 x) (λid _=>c id) (za2 x _ _ _ _ _ _ _ _) ?_;have g:x l[i]=Z:=ep.1 b _ (bh a);have j:K ((i:Int).toNat<N l)=Z:=by simpa using a
  have m:l.set (i:Int).toNat l[i]=l:=by simp
  simp only[zM a,zu a,dq l _ a,zg.eta,Tr.val_brT,Tr.val_chkT,g,j,m,zt i um];exact e (i+1) S S
def ot:Nat->zg->Bool
 |0,_=>M
 |n+1,.mk _ _ _ l=>K (N l<=1073741824)&&l.all (ot n)
theorem Qw:∀n,FK 146 (XM (ot n))
 |0=>e7 ⟨f146,(R3 (λ_=>M)).1,(R3 (λ_=>M)).2.1,(R3 (λ_=>M)).q.1⟩ (λ_=>rfl)
 | n+1=>by
  refine bb (E:=V9 (ot n)) (R3 _) λx h C a=>?_
  have⟨⟨o,v,s,l⟩,u⟩:=x;have h:(K (N l<=1073741824)&&l.all (ot n))=Z:=h;simp only[aO,bc]at h;refine zL (n0:=0) (Ex (Qw n)) (R3 _) (λid _=>a id) (zyw _ o v s l) ?_;refine fV (by simpa using h.1) ?_;exact zxi (Qw n) a o v s l h.1 h.2 _ 0 rfl (aK _)
def F33:ak:=XM (ot 16)
theorem zrC:FK 146 F33:=Qw 16
def nA:=zmR.add 146 F33
theorem jW:zx nA:=N8.add zrC
abbrev jM:Sh:=.pr .str .str
abbrev jb:Sh:=.pr .str .expr
abbrev aB:Sh:=.pr .str (.pr .str (.pr .str (.pr (.sl .str) (.pr (.sl zp) (.pr .str (.pr (.sl .str) (.pr (.sl jM) (.pr .expr (.pr (.sl R) (.pr (.sl jb) (.pr .expr .str)))))))))))
abbrev zS:=L aB
def zeZ(x:zS):zS:=(x.1,x.2.1,x.2.2.1,x.2.2.2.1,x.2.2.2.2.1,x.2.2.2.2.2.1,x.2.2.2.2.2.2.1,x.2.2.2.2.2.2.2.1,zw x.2.2.2.2.2.2.2.2.1,x.2.2.2.2.2.2.2.2.2.1,x.2.2.2.2.2.2.2.2.2.2.1,zw x.2.2.2.2.2.2.2.2.2.2.2.1,x.2.2.2.2.2.2.2.2.2.2.2.2)
theorem TK(x:zS):zeZ x=x:=by unfold zeZ;rw[zn,zn]
abbrev xE(e:zg):List AV:=[.str e.op,J e.v.1,J e.v.2.1,.str e.v.q,.str e.s,.sl Q5 e.l]
abbrev zE:List AV:=[.str [],J 0,J 0,.str [],.str [],.nils]
abbrev aS(o t x:zN)(n h:AV)(k:zN)(u a:AV)(c:List AV)(rw st:AV)(w:List AV)(b:zN):AV:=.agg ([.str o,.str t,.str x,n,h,.str k,u,a]++c++[rw,st]++w++[.str b])
abbrev aR(x:zS)(r:zN):AV:=aS x.1 x.2.1 [] .nils .nils [] .nils .nils zE .nils .nils zE r
abbrev aW(x:zS):AV:=aS x.1 x.2.1 [] .nils .nils [] .nils .nils zE .nils .nils (xE x.s.1) []
abbrev aM(x:zS)(n:AV)(k h:zN):AV:=aS x.1 x.2.1 x.q.1 n .nils k .nils .nils (xE x.x.1) .nils .nils zE h
abbrev nS:AV:=aS [] [] [] .nils .nils [] .nils .nils zE .nils .nils zE []
abbrev zjw:Nat->aY:=λj=>if j=2 then{slots:=[0,2,4]}else{ }
abbrev GV(s:TS)(i j:Int)(h:List UInt8):St:={tmps:=(tm 37 [(0,X s),(2,ptr 0 0),(4,J i)]),heap:=[Qa [J j,X h]]}
theorem zaP:aa (nA).P 336 f336 1:=cM kw
theorem ztn(x:TS):rn nA 0 zjw f336 [zX Q6 x] []=Tr.ok (zU.head 2 (aq f336 2) (GV x 1 0 [])):=kw
theorem zfN(s:TS)(i j:Int)(h:List UInt8):rh nA 0 zjw f336 2 (GV s i j h)=let a:=Γ Δ (i+1);let x:=(N s:Int);let b:=Qg (i.toNat-W 1) (Qh (W 1) s);br (K (i<x)) (I (zK i (N s)) (br ((↑(T s i.toNat 0).toNat:Int)!=39) (Tr.ok (zU.head 2 (aq f336 2) (GV s a j h))) (I (cond (K (Γ Δ (i+1)<x)) (zK a (N s)) Z) (br (cond (K (Γ Δ (i+1)<x)) ((↑(T s a.toNat 0).toNat:Int)==39) M) (Tr.ok (zU.head 2 (aq f336 2) (GV s (Γ Δ (Γ Δ (i+1)+1)) j h))) (I (K (0<=1)&&K (1<=i)&&K (i<=x)) (I (yp b pH [39]) (Tr.ok (zU.ret (tup [agg [J 3,X (Lib.replaceAll b pH [39])],J a]) [])))))))) (Tr.ok (zU.ret (tup [agg [J 0,X []],J 0]) [])):=kw
def fQ:Nat->(Sem Sh.str)->Int->Int->(List UInt8)->dC×zy
 |0,_,_,_,_=>default
 |n+1,s,i,j,h=>(if K (i<(N s:Int))=Z then
 if((↑(T s i.toNat 0).toNat:Int)!=39)=Z then fQ n s (Γ Δ (i+1)) j h
 else
  if
    (bif K (Γ Δ (i+1)<(N s:Int))then(↑(T s (Γ Δ (i+1)).toNat 0).toNat:Int)==39
     else M)=
     Z then
   fQ n s (Γ Δ (Γ Δ (i+1)+1)) j h
  else((3,Lib.replaceAll (Qg (i.toNat-W 1) (Qh (W 1) s)) pH [39]),Γ Δ (i+1))
else((0,[]),0))
def kf:Nat->(Sem Sh.str)->Int->Int->(List UInt8)->Bool
 |0,_,_,_,_=>M
 |n+1,s,i,j,h=>(if K (i<(N s:Int))=Z then
 if zK i (Io s)=true then
  if((↑(T s i.toNat 0).toNat:Int)!=39)=Z then kf n s (Γ Δ (i+1)) j h
  else
   if (cond (decide (Γ Δ (i+1) < (Io s:Int))) (zK (Γ Δ (i+1)) (Io s)) true)=true then
    if
      (bif K (Γ Δ (i+1)<(N s:Int))then(↑(T s (Γ Δ (i+1)).toNat 0).toNat:Int)==39
       else M)=
       Z then
     kf n s (Γ Δ (Γ Δ (i+1)+1)) j h
    else
     if(K (0<=1)&&K (1<=i)&&K (i<=(N s:Int)))=Z then
      if yp (Qg (i.toNat-W 1) (Qh (W 1) s)) pH [39]=Z then Z else M
     else M
   else M
 else M
else Z)
theorem Tk{C:eU}(c:∀id,C.ρ0 id=Q2):∀(n:Nat)(s:TS)(i:Int)(j:Int)(x:List UInt8),kf n s i j x=Z->
  Reach (nA) C 336 (aq f336 2) (GV s i j x) (λr h=>aX h [ly,zk] r=Y ((fQ n s i j x).1,(fQ n s i j x).2,()))
 |0,s,i,j,x,a=>by cases a
 | n+1,s,i,j,x,a=>by
  refine zL jW (zaP) (λid _=>c id) (zfN _ _ _ _) ?_;rw[kf]at a;generalize b:fQ (n+1) s i j x=y;rw[fQ]at b
  skip
  repeat' (first|with_reducible refine obr b a (λ_ b a=>?_) (λ_ b a=>?_)|with_reducible refine FU b (λ_ b=>?_) (λ_ b=>?_)|with_reducible refine Lr a (λa=>?_)|with_reducible refine eo ?_)
  all_goals first|(cases a;done)|(subst b;first|(change Reach _ _ _ _ _ _;refine Tk c n _ _ _ _ ?_<;>exact a)|rfl)
def iT(x:TS):dC×zy:=(fQ (N x+1) x 1 0 [])
def qu(x:TS):Bool:=(kf (N x+1) x 1 0 [])
def zpJ:ak:=af [Q6] [ly,zk] (λx=>qu x.1) λx=>((iT x.1).1,(iT x.1).2,())
theorem zko:FK 336 zpJ:=by
 refine bb (zaP) λx h C b=>?_
 unfold qu at h;refine zL jW (zaP) (λid _=>b id) (ztn x.1) ?_;generalize a:iT x.1=y;unfold iT at a
 try simp only[zg.eta,zn]
 repeat' (first|with_reducible refine obr a h (λ_ a h=>?_) (λ_ a h=>?_)|with_reducible refine FU a (λ_ a=>?_) (λ_ a=>?_)|with_reducible refine Lr h (λh=>?_)|with_reducible refine eo ?_)
 all_goals first|(cases h;done)|(subst a;first|(change Reach _ _ _ _ _ _;refine Tk b _ _ _ _ _ ?_<;>exact h)|rfl)
abbrev zui:Nat->aY:=λ_=>{ }
theorem zjI:aa (nA).P 321 f321 1:=cM kw
theorem ztl(x:L Q5):rn nA 0 zui f321 [zX Q5 x] []=Tr.ok (zU.ret (AV.bool (cond (zg.op x==[]) (cond ((zg.v x).1==0&&((zg.v x).2.1==0&&((zg.v x).2.2==[]&&Z))) (cond (zg.s x==[]) ((↑(zg.l x).length:Int)==0) M) M) M)) []):=kw
def iX(x:L Q5):L Q7:=(cond (zg.op x==[]) (cond ((zg.v x).1==0&&((zg.v x).2.1==0&&((zg.v x).2.2==[]&&Z))) (cond (zg.s x==[]) ((↑(zg.l x).length:Int)==0) M) M) M)
def zpz:ak:=ba [Q5] [Q7] λx=>(iX x.1,())
theorem zke:FK 321 zpz:=by
 refine az (zjI) λx C a=>?_
 refine zL jW (zjI) (λid _=>a id) (ztl x.1) ?_;generalize h:iX x.1=y;unfold iX at h
 try simp only[zg.eta,zn]
 exact UW h
abbrev zzu:Nat->aY:=λ_=>{ }
theorem zwd:aa (nA).P 290 f290 1:=cM kw
theorem zy4(x:TS):rn nA 0 zzu f290 [zX Q6 x] []=Tr.ok (zU.ret (X x) []):=kw
def nL(x:TS):L Q6:=(x)
def F88:ak:=ba [Q6] [Q6] λx=>(nL x.1,())
theorem zsn:FK 290 F88:=by
 refine az (zwd) λx C a=>?_
 refine zL jW (zwd) (λid _=>a id) (zy4 x.1) ?_;generalize h:nL x.1=y;unfold nL at h
 try simp only[zg.eta,zn]
 exact UW h
abbrev zzr:Nat->aY:=λ_=>{ }
theorem zwa:aa (nA).P 282 f282 1:=cM kw
theorem zy1(x:TS):rn nA 0 zzr f282 [zX Q6 x] []=Tr.ok (zU.ret (AV.bool (cond (eS x) (!kh x) M)) []):=kw
def dH(x:TS):L Q7:=(cond (eS x) (!kh x) M)
def F80:ak:=ba [Q6] [Q7] λx=>(dH x.1,())
theorem zsj:FK 282 F80:=by
 refine az (zwa) λx C a=>?_
 refine zL jW (zwa) (λid _=>a id) (zy1 x.1) ?_;generalize h:dH x.1=y;unfold dH at h
 try simp only[zg.eta,zn]
 exact UW h
abbrev zuP:Nat->aY:=λ_=>{unroll:=Z}
theorem zjM:aa (nA).P 225 f225 1:=cM kw
theorem zts(x:dC):rn nA 0 zuP f225 [zX ly x] []=let a:=(N x.2:Int);let h:=Tr.ok (zU.ret (kb M) []);br (x.1==3) (Tr.ok (zU.ret (AV.bool (bg (2,0,x.2))) [])) (br (x.1==4) (I (cond (a==1) (N x.2==1) Z) (Tr.ok (zU.ret (AV.bool (cond (a==1) (K (0<=Lib.indexByte zmB (List.headD x.2 0))) M)) []))) (br Z (I Z (br (1==x.1) (Tr.ok (zU.ret (AV.bool (cond (K (a>=1)) (cond (K (a<=16)) ((bJ bq cB x.2:Int)==a) M) M)) [])) (br Z (I Z (br (2==x.1) (Tr.ok (zU.ret (AV.bool (cond (K (a>=1)) (cond (K (a<=19)) ((bJ aE aE x.2:Int)==a) M) M)) [])) (br M Tr.err h))) h))) h)):=kw
def dJ(x:dC):L Q7:=(ite ((x.1==3)=Z) (bg (2,0,x.2)) (ite ((x.1==4)=Z) (cond ((N x.2:Int)==1) (K (0<=Lib.indexByte zmB (List.headD x.2 0))) M) (ite (Z=Z) (ite ((1==x.1)=Z) (cond (K ((N x.2:Int)>=1)) (cond (K ((N x.2:Int)<=16)) ((bJ bq cB x.2:Int)==(N x.2:Int)) M) M) (ite (Z=Z) (ite ((2==x.1)=Z) (cond (K ((N x.2:Int)>=1)) (cond (K ((N x.2:Int)<=19)) ((bJ aE aE x.2:Int)==(N x.2:Int)) M) M) (ite (M=Z) default M)) M)) M)))
def uu(x:dC):Bool:=(ite ((x.1==3)=Z) Z (ite ((x.1==4)=Z) (ite ((cond ((N x.2:Int)==1) (N x.2==1) Z)=Z) Z M) (ite (Z=Z) (ite (Z=Z) (ite ((1==x.1)=Z) Z (ite (Z=Z) (ite (Z=Z) (ite ((2==x.1)=Z) Z (ite (M=Z) M Z)) M) Z)) M) Z)))
def zqC:ak:=af [ly] [Q7] (λx=>uu x.1) λx=>(dJ x.1,())
theorem zlk:FK 225 zqC:=by
 refine bb (zjM) λx h C b=>?_
 unfold uu at h;refine zL jW (zjM) (λid _=>b id) (zts x.1) ?_;generalize a:dJ x.1=y;unfold dJ at a
 skip
 exact M8 a h
def ms:=nA.addL [(336,zpJ),(321,zpz),(290,F88),(282,F80),(225,zqC)]
theorem iY:zx ms:=jW.addL<|fc zko<|fc zke<|fc zsn<|fc zsj<|fc zlk iP
abbrev zzs:Nat->aY:=λ_=>{ }
theorem zwb:aa (ms).P 287 f287 1:=cM kw
theorem zy2(x:L Q5):rn ms 0 zzs f287 [zX Q5 x] []=Tr.ok (zU.ret (AV.bool (cond (iX (zw x)) Z (dW (zw x)))) []):=kw
def da(x:L Q5):L Q7:=(cond (iX x) Z (dW x))
def F85:ak:=ba [Q5] [Q7] λx=>(da x.1,())
theorem zsk:FK 287 F85:=by
 refine az (zwb) λx C a=>?_
 refine zL iY (zwb) (λid _=>a id) (zy2 x.1) ?_;generalize h:da x.1=y;unfold da at h
 try simp only[zg.eta]
 exact UW h
def zsR(x:cK):L Q7:=(cond (dH x.1) (cond (K (x.2.1>=1)) (K (x.2.1<=3)) M) M)
def zwx(x:L jM):L Q7:=(cond (dH x.1) (dH x.2) M)
abbrev zzw:Nat->aY:=λ_=>{ }
theorem zwe:aa (ms).P 294 f294 1:=cM kw
theorem zy5(x:zo):rn ms 0 zzw f294 [zX R x] []=br (!bg x) (Tr.ok (zU.ret (X []) [])) (br (x.1==1) (I (10==10) (Tr.ok (zU.ret (X (uY x.2.1)) []))) (br (x.1==2) (I (yp x.2.2 [39] pH) (I (K ([39].length+(Lib.replaceAll x.2.2 [39] pH).length<=1099511627776)) (I (K (N ([39]++Lib.replaceAll x.2.2 [39] pH)+[39].length<=1099511627776)) (Tr.ok (zU.ret (X ([39]++Lib.replaceAll x.2.2 [39] pH++[39])) []))))) (br (x.1==3) (br (eR x==2) (Tr.ok (zU.ret (X KL) [])) (Tr.ok (zU.ret (X KK) []))) (Tr.ok (zU.ret (X HH) []))))):=kw
def jd(x:zo):L Q6:=(ite ((!bg x)=Z) [] (ite ((x.1==1)=Z) (uY x.2.1) (ite ((x.1==2)=Z) ([39]++Lib.replaceAll x.2.2 [39] pH++[39]) (ite ((x.1==3)=Z) (ite ((eR x==2)=Z) KL KK) HH))))
def Bv(x:zo):Bool:=(ite ((!bg x)=Z) Z (ite ((x.1==1)=Z) (ite ((10==10)=Z) Z M) (ite ((x.1==2)=Z) (ite (yp x.2.2 [39] pH=Z) (ite (K ([39].length+(Lib.replaceAll x.2.2 [39] pH).length<=1099511627776)=Z) (ite (K (N ([39]++Lib.replaceAll x.2.2 [39] pH)+[39].length<=1099511627776)=Z) Z M) M) M) Z)))
def F92:ak:=af [R] [Q6] (λx=>Bv x.1) λx=>(jd x.1,())
theorem zss:FK 294 F92:=by
 refine bb (zwe) λx h C b=>?_
 unfold Bv at h;refine zL iY (zwe) (λid _=>b id) (zy5 x.1) ?_;generalize a:jd x.1=y;unfold jd at a
 try simp only[zg.eta,zn]
 exact M8 a h
abbrev zzt:Nat->aY:=λ_=>{ }
theorem zwc:aa (ms).P 289 f289 1:=cM kw
theorem zy3(x:zS):rn ms 0 zzt f289 [zX aB x] []=I (K (N x.2.1+N x.2.2.1<=1099511627776)) (I (K (N (x.2.1++x.2.2.1)+N x.2.2.2.2.2.1<=1099511627776)) (I (K (N (x.2.1++x.2.2.1++x.2.2.2.2.2.1)+N x.2.2.2.2.2.2.2.2.2.2.2.2<=1099511627776)) (Tr.ok (zU.ret (AV.bool (cond (x.2.1++x.2.2.1++x.2.2.2.2.2.1++x.2.2.2.2.2.2.2.2.2.2.2.2==[]) (cond (Γ Δ (Γ Δ (Γ Δ (Γ Δ (Γ Δ ((N x.2.2.2.1:Int)+(N x.2.2.2.2.1:Int))+(N x.2.2.2.2.2.2.1:Int))+(N x.2.2.2.2.2.2.2.1:Int))+(N x.2.2.2.2.2.2.2.2.2.1:Int))+(N x.2.2.2.2.2.2.2.2.2.2.1:Int))==0) (cond (iX (zw x.2.2.2.2.2.2.2.2.1)) (iX (zw x.2.2.2.2.2.2.2.2.2.2.2.1)) M) M) M)) [])))):=kw
def iU(x:zS):L Q7:=(cond (x.2.1++x.2.2.1++x.2.2.2.2.2.1++x.2.2.2.2.2.2.2.2.2.2.2.2==[]) (cond (Γ Δ (Γ Δ (Γ Δ (Γ Δ (Γ Δ ((N x.2.2.2.1:Int)+(N x.2.2.2.2.1:Int))+(N x.2.2.2.2.2.2.1:Int))+(N x.2.2.2.2.2.2.2.1:Int))+(N x.2.2.2.2.2.2.2.2.2.1:Int))+(N x.2.2.2.2.2.2.2.2.2.2.1:Int))==0) (cond (iX x.2.2.2.2.2.2.2.2.1) (iX x.2.2.2.2.2.2.2.2.2.2.2.1) M) M) M)
def gw(x:zS):Bool:=(ite (K (N x.2.1+N x.2.2.1<=1099511627776)=Z) (ite (K (N (x.2.1++x.2.2.1)+N x.2.2.2.2.2.1<=1099511627776)=Z) (ite (K (N (x.2.1++x.2.2.1++x.2.2.2.2.2.1)+N x.2.2.2.2.2.2.2.2.2.2.2.2<=1099511627776)=Z) Z M) M) M)
def F87:ak:=af [aB] [Q7] (λx=>gw x.1) λx=>(iU x.1,())
theorem zsm:FK 289 F87:=by
 refine bb (zwc) λx h C b=>?_
 unfold gw at h;refine zL iY (zwc) (λid _=>b id) (zy3 x.1) ?_;generalize a:iU x.1=y;unfold iU at a
 try simp only[zg.eta]
 exact M8 a h
abbrev zzz:Nat->aY:=λ_=>{unroll:=Z}
theorem zwh:aa (ms).P 301 f301 1:=cM kw
theorem zy9(x:TS):rn ms 0 zzz f301 [zX Q6 x] []=let b:=(N x:Int);let c:=Qh (W 0) x;let d:=I (zK 0 (N x)) (br ((↑(T x (W 0) 0).toNat:Int)==39) (I (qu x) (Tr.ok (zU.ret (tup [agg [J (iT x).1.1,X (iT x).1.2],J (iT x).2]) []))) (I (K (0<=0)&&K (0<=1)&&K (1<=b)) (Tr.ok (zU.ret (tup [agg [J 4,X (Qg (W 1-W 0) c)],J 1]) []))));let a:=(bJ bq cB x:Int);let h:=(bJ aE aE x:Int);br Z (I Z (br (K (a>0)) (I (K (0<=0)&&K (0<=a)&&K (a<=b)) (Tr.ok (zU.ret (tup [agg [J 1,X (Qg (a.toNat-W 0) c)],J a]) []))) (br Z (I Z (br (K (h>0)) (I (K (0<=0)&&K (0<=h)&&K (h<=b)) (Tr.ok (zU.ret (tup [agg [J 2,X (Qg (h.toNat-W 0) c)],J h]) []))) (br M Tr.err d))) d))) d:=kw
def cj(x:TS):dC×zy:=(ite (Z=Z) (ite (K ((bJ bq cB x:Int)>0)=Z) ((1,Qg ((bJ bq cB x:Int).toNat-W 0) (Qh (W 0) x)),(bJ bq cB x:Int)) (ite (Z=Z) (ite (K ((bJ aE aE x:Int)>0)=Z) ((2,Qg ((bJ aE aE x:Int).toNat-W 0) (Qh (W 0) x)),(bJ aE aE x:Int)) (ite (M=Z) default (ite (((↑(T x (W 0) 0).toNat:Int)==39)=Z) ((iT x).1,(iT x).2) ((4,Qg (W 1-W 0) (Qh (W 0) x)),1)))) (ite (((↑(T x (W 0) 0).toNat:Int)==39)=Z) ((iT x).1,(iT x).2) ((4,Qg (W 1-W 0) (Qh (W 0) x)),1)))) (ite (((↑(T x (W 0) 0).toNat:Int)==39)=Z) ((iT x).1,(iT x).2) ((4,Qg (W 1-W 0) (Qh (W 0) x)),1)))
def mb(x:TS):Bool:=(ite (Z=Z) (ite (Z=Z) (ite (K ((bJ bq cB x:Int)>0)=Z) (ite ((K (0<=0)&&K (0<=(bJ bq cB x:Int))&&K ((bJ bq cB x:Int)<=(N x:Int)))=Z) Z M) (ite (Z=Z) (ite (Z=Z) (ite (K ((bJ aE aE x:Int)>0)=Z) (ite ((K (0<=0)&&K (0<=(bJ aE aE x:Int))&&K ((bJ aE aE x:Int)<=(N x:Int)))=Z) Z M) (ite (M=Z) M (ite (zK 0 (N x)=Z) (ite (((↑(T x (W 0) 0).toNat:Int)==39)=Z) (ite (qu x=Z) Z M) (ite ((K (0<=0)&&K (0<=1)&&K (1<=(N x:Int)))=Z) Z M)) M))) M) (ite (zK 0 (N x)=Z) (ite (((↑(T x (W 0) 0).toNat:Int)==39)=Z) (ite (qu x=Z) Z M) (ite ((K (0<=0)&&K (0<=1)&&K (1<=(N x:Int)))=Z) Z M)) M))) M) (ite (zK 0 (N x)=Z) (ite (((↑(T x (W 0) 0).toNat:Int)==39)=Z) (ite (qu x=Z) Z M) (ite ((K (0<=0)&&K (0<=1)&&K (1<=(N x:Int)))=Z) Z M)) M))
def F99:ak:=af [Q6] [ly,zk] (λx=>mb x.1) λx=>((cj x.1).1,(cj x.1).2,())
theorem zsw:FK 301 F99:=by
 refine bb (zwh) λx h C b=>?_
 unfold mb at h;refine zL iY (zwh) (λid _=>b id) (zy9 x.1) ?_;generalize a:cj x.1=y;unfold cj at a
 skip
 exact M8 a h
abbrev zvk:Nat->aY:=λj=>if j=3 then{slots:=[1,5,8,9,10],prom:=[(5,Q2,.str)]}else{ }
abbrev P0(x:LS)(h i:Int)(l:LS):St:={tmps:=(tm 23 [(1,AV.clo (Fn.func 290) [] []),(5,AV.vec 0),(8,O Q6 x),(9,J h),(10,J i)]),heap:=[AO.vec Q6 l]}
theorem zfM:aa (ms).P 299 f299 2:=cM kw
theorem zy7(x:L Sh.str.sl):rn ms 0 zvk f299 [zX Sh.str.sl x,AV.clo (Fn.func 290) [] []] []=Tr.ok (zU.head 3 (aq f299 3) (P0 x (N x:Int) 0 [])):=kw
theorem za6(h:LS)(x i:Int)(l:LS):rh ms 0 zvk f299 3 (P0 h x i l)=br (K (i<x)) (I (zK i (N h)) (I (K (N l+[nL (h.getD i.toNat (Q Q6))].length<=1073741824)) (Tr.ok (zU.head 3 (aq f299 3) (P0 h x (Γ Δ (i+1)) (l++[nL (h.getD i.toNat (Q Q6))])))))) (I (K (N l<=140737488355328)&&K ((Lib.join l fO).length<=140737488355328)) (Tr.ok (zU.ret (X (Lib.join l fO)) []))):=kw
def ez:List (L Q6)->Int->List (L Q6)->L Q6
 |[],_,l=>(Lib.join l fO)
 |x::r,i,l=>(ez r (i+1) (l++[nL x]))
def eP:List (L Q6)->Int->List (L Q6)->Bool
 |[],_,l=>(ite ((K (N l<=140737488355328)&&K ((Lib.join l fO).length<=140737488355328))=Z) Z M)
 |x::r,i,l=>(ite (K (N l+[nL x].length<=1073741824)=Z) (eP r (i+1) (l++[nL x])) M)
theorem zmp(j:∀id,C.ρ0 id=Q2)(a:LS)(o:N a<=aF):∀(m i:Nat)(l:LS),N a-i=m->i<=N a->eP (a.drop i) i l=Z->
  Reach (ms) C 299 (aq f299 3) (P0 a (N a:Int) (i:Int) l) (λr h=>aX h [Q6] r=Y (ez (a.drop i) i l,())):=by
 intro m
 induction m with
 | zero=>
  intro i l n k c;obtain rfl:i=N a:=by omega
  rw[kE]at c|-;refine zL iY (zfM) (λid _=>j id) (za6 _ _ _ _) ?_;rw[eP]at c;generalize d:ez [] _ l=y;rw[ez]at d;simp only[zJ,Tr.val_brF];exact M8 d c
 | succ m g=>
  intro i l n k c;have x:i<N a:=by omega
  have g:=g (i+1);have b:((i:Int)+1)=((i+1:Nat):Int):=by omega
  have e:=zt i S;rw[gF x]at c|-;refine zL iY (zfM) (λid _=>j id) (za6 _ _ _ _) ?_;rw[eP]at c;generalize d:ez (a[i]::a.drop (i+1)) (i:Int) l=y;rw[ez]at d;simp only[zM x,zu x,dq a _ x,e,Tr.val_brT,Tr.val_chkT];clear e
  try simp only[zu x]at d
  simp only[b]at d
  try simp only[zu x]at c
  try simp only[b]at c
  exact zgd d c g
theorem zec(a:∀id,C.ρ0 id=Q2)(x l:LS)(b:eP x 0 l=Z):
  Reach (ms) C 299 (aq f299 3) (P0 x (N x:Int) 0 l) (λr h=>aX h [Q6] r=Y (ez x 0 l,())):=
 Reach.len 8 (Q6) x rfl λc=>zmp a x c _ 0 l rfl (aK _) b
def iD(x:L Sh.str.sl):L Q6:=(ez x 0 [])
def pt(x:L Sh.str.sl):Bool:=(eP x 0 [])
def F97:ak:=zbj [Sh.str.sl] [Q6] [(290,(λx=>pt x.1),λx=>(iD x.1,()))]
theorem zsu:FK 299 F97:=by
 refine Qx (zfM) λj c g b x h C a=>?_
 simp only[fb,cQ]at b;obtain⟨rfl,rfl,rfl⟩:=b
 replace h:pt x.1=Z:=h
 unfold pt at h;refine zL iY (zfM) (λid _=>a id) (zy7 x.1) ?_;generalize d:iD x.1=y;unfold iD at d
 skip
 exact zgd d h (zec a)
def TA:=ms.addL [(287,F85),(294,F92),(289,F87),(301,F99),(299,F97)]
theorem At:zx TA:=iY.addL<|fc zsk<|fc zss<|fc zsm<|fc zsw<|fc zsu iP
def zpB:ak:=bj (List.replicate 2 Q2) (ff TA f323 (List.replicate 2 Q2))
theorem zkg:FK 323 zpB:=cr _ At (cM kw)
def YS(g:L Q5->L Q6)(c:L Q5->Bool):cy:=TA.add 355 (af [Q5] [Q6] (λx=>c x.1) λx=>(g x.1,()))
theorem V7{g:L Q5->L Q6}{c:L Q5->Bool}(h:FK 355 (af [Q5] [Q6] (λx=>c x.1) λx=>(g x.1,()))):zx (YS g c):=At.add h
abbrev zn0:Nat->aY:=λ_=>{ }
theorem FW(g:L Q5->L Q6)(c:L Q5->Bool):aa (YS g c).P 355 f355 1:=cM kw
theorem zmY(g:L Q5->L Q6)(c:L Q5->Bool)(x:L Q5):rn (YS g c) 0 zn0 f355 [zX Q5 x] []=let i:=(zg.l x).getD (W 0) (Q Q5);let a:=zw i;let j:=(zg.l x).getD (W 1) (Q Q5);let h:=zw j;let e:=K ([40].length+N (g a)<=1099511627776);let d:=zK 0 (zg.l x).length;
 br (zg.op x==pI) (I (Bv (zg.v x)) (Tr.ok (zU.ret (X (jd (zg.v x))) []))) (br (zg.op x==fh) (Tr.ok (zU.ret (X (zg.s x)) [])) (br (zg.op x==oH) (I d (I (c a) (I (K (N wQ+N (g a)<=1099511627776)) (I (K (N (wQ++g a)+[41].length<=1099511627776)) (Tr.ok (zU.ret (X (wQ++g a++[41])) [])))))) (br (zg.op x==qM) (I d (I (c a) (I e (I (K (N ([40]++g a)+N Ed<=1099511627776)) (Tr.ok (zU.ret (X ([40]++g a++Ed)) [])))))) (I d (I (c a) (I e (I (K (N ([40]++g a)+[32].length<=1099511627776)) (I (K (N (zg.op x)<=140737488355328)&&List.all (zg.op x) λb=>K (b.toNat<128)) (I (K (N ([40]++g a++[32])+(Lib.toUpperA (zg.op x)).length<=1099511627776)) (I (K (N ([40]++g a++[32]++Lib.toUpperA (zg.op x))+[32].length<=1099511627776)) (I (zK 1 (zg.l x).length) (I (c h) (I (K (N ([40]++g a++[32]++Lib.toUpperA (zg.op x)++[32])+N (g h)<=1099511627776)) (I (K (N ([40]++g a++[32]++Lib.toUpperA (zg.op x)++[32]++g h)+[41].length<=1099511627776)) (Tr.ok (zU.ret (X ([40]++g a++[32]++Lib.toUpperA (zg.op x)++[32]++g h++[41])) [])))))))))))))))):=kw
def vM(g:L Q5->L Q6)(_:L Q5->Bool)(x:L Q5):L Q6:=(ite ((zg.op x==pI)=Z) (jd (zg.v x)) (ite ((zg.op x==fh)=Z) (zg.s x) (ite ((zg.op x==oH)=Z) (wQ++g ((zg.l x).getD (W 0) (Q Q5))++[41]) (ite ((zg.op x==qM)=Z) ([40]++g ((zg.l x).getD (W 0) (Q Q5))++Ed) ([40]++g ((zg.l x).getD (W 0) (Q Q5))++[32]++Lib.toUpperA (zg.op x)++[32]++g ((zg.l x).getD (W 1) (Q Q5))++[41])))))
def CX(g:L Q5->L Q6)(c:L Q5->Bool)(x:L Q5):Bool:=(if(zg.op x==pI)=Z then if Bv (zg.v x)=Z then Z else M else if(zg.op x==fh)=Z then Z else if(zg.op x==oH)=Z then if zK 0 (zg.l x).length=Z then if c ((zg.l x).getD (W 0) (Q Q5))=Z then if K (N wQ+N (g ((zg.l x).getD (W 0) (Q Q5)))<=1099511627776)=Z then if K (N (wQ++g ((zg.l x).getD (W 0) (Q Q5)))+[41].length<=1099511627776)=Z then Z else M else M else M else M else if(zg.op x==qM)=Z then if zK 0 (zg.l x).length=Z then if c ((zg.l x).getD (W 0) (Q Q5))=Z then if K ([40].length+N (g ((zg.l x).getD (W 0) (Q Q5)))<=1099511627776)=Z then if K (N ([40]++g ((zg.l x).getD (W 0) (Q Q5)))+N Ed<=1099511627776)=Z then Z else M else M else M else M else if zK 0 (zg.l x).length=Z then if c ((zg.l x).getD (W 0) (Q Q5))=Z then if K ([40].length+N (g ((zg.l x).getD (W 0) (Q Q5)))<=1099511627776)=Z then if K (N ([40]++g ((zg.l x).getD (W 0) (Q Q5)))+[32].length<=1099511627776)=Z then
 if(K (N (zg.op x)<=140737488355328)&&List.all (zg.op x) λb=>K (b.toNat<128))=Z then if K (N ([40]++g ((zg.l x).getD (W 0) (Q Q5))++[32])+(Lib.toUpperA (zg.op x)).length<=1099511627776)=Z then if K (N ([40]++g ((zg.l x).getD (W 0) (Q Q5))++[32]++Lib.toUpperA (zg.op x))+[32].length<=1099511627776)=Z then if zK 1 (zg.l x).length=Z then if c ((zg.l x).getD (W 1) (Q Q5))=Z then if K (N ([40]++g ((zg.l x).getD (W 0) (Q Q5))++[32]++Lib.toUpperA (zg.op x)++[32])+N (g ((zg.l x).getD (W 1) (Q Q5)))<=1099511627776)=Z then if K (N ([40]++g ((zg.l x).getD (W 0) (Q Q5))++[32]++Lib.toUpperA (zg.op x)++[32]++g ((zg.l x).getD (W 1) (Q Q5)))+[41].length<=1099511627776)=Z then Z else M else M else M else M else M else M else M else M else M else M else M)
def zpQ(g:L Q5->L Q6)(c:L Q5->Bool):ak:=af [Q5] [Q6] (λx=>CX g c x.1) λx=>(vM g c x.1,())
theorem zdy(g:L Q5->L Q6)(c:L Q5->Bool)(d:FK 355 (af [Q5] [Q6] (λx=>c x.1) λx=>(g x.1,()))):FK 355 (zpQ g c):=by
 refine bb (FW g c) λx h C b=>?_
 unfold CX at h;refine zL (V7 d) (FW g c) (λid _=>b id) (zmY g c x.1) ?_;generalize a:vM g c x.1=y;unfold vM at a
 try simp only[zg.eta]
 exact M8 a h
mutual
def bn:Nat->L Q5->L Q6
 |0=>λ_=>default
 |n+1=>vM (bn n) (iG n)
def iG:Nat->L Q5->Bool
 |0=>λ_=>M
 |n+1=>CX (bn n) (iG n)
end
theorem S4:∀n,FK 355 (af [Q5] [Q6] (λx=>iG n x.1) λx=>(bn n x.1,()))
 |0=>e7 ⟨f355,(FW default default).1,(FW default default).2.1,(FW default default).q.1⟩ (λ_=>rfl)
 |n+1=>zdy (bn n) (iG n) (S4 n)
def zpP:ak:=af [Q5] [Q6] (λx=>iG 16 x.1) λx=>(bn 16 x.1,())
theorem zku:FK 355 zpP:=S4 16
def rK:=TA.addL [(323,zpB),(355,zpP)]
theorem lR:zx rK:=At.addL<|fc zkg<|fc zku iP
end
end Cad
