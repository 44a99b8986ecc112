/- Expressions. -/
import Derived.Test.YtjdjldbhjmgmkaaGreatDoorP10
namespace Cad
open Go Go.Proofs
open List renaming length->Io,drop->Qh,take->Qg,length->X
open IntKind renaming wrap->Γ,i64->Δ
open Tr renaming «to»->Q9,val->Q8,chk->K
open AO renaming box->Qa
open Sh renaming bool->Q7,str->Q6,expr->Q5
open Bool renaming true->O,false->S
open Option renaming none->Q2,some->Q1,some->M
open Decidable renaming decide->T
open Int (toNat)
open Int renaming toNat->Z
open List (getD)
open List renaming getD->Y
open Tr (chk br re)
open AV (nils agg tup ptr kb str sl)
open AV renaming sl->N,str->I
open Cad renaming ze->R,zi->Q,Sem->J,ai->L,ow->W
noncomputable section
abbrev jL:List (zJ×AV):=[(jf,.clo (.func 229) [] []),(wA,.clo (.func 230) [] []),(oC,.clo (.func 231) [] []),([61],.clo (.func 233) [] []),([60],.clo (.func 234) [] []),([43],.clo (.func 155) [] []),([45],.clo (.func 235) [] []),(qE,.clo (.func 236) [] [])]
abbrev zyg:Nat->aX:=λ_=>{ }
theorem zuE:zY Ib.P 180 Tryz.f180 0:=cK kw
theorem zxj:(run Ib 0 zyg (Func.results Tryz.f180).toList 400 (bq Tryz.f180) (bg (Func.ntmps Tryz.f180) [] [])).val=M (zR.ret (AV.mp 0) [AO.fmap jL]):=kw
def G23:fD []:=λ_ h=>match h with
 |[]=>.ok (.mp 0,[.fmap jL])
 |_=>.err
def F23:ag:=bf [] G23
theorem zqE:FK 180 F23:=by
 refine dz zuE λx c b h C a=>?_
 unfold G23 at h;split at h
 .simp only[Q8,bG]at h;subst h;exact pe (n0:=0) yU zuE a zxj rfl
 .simp at h
def opV(o:zJ)(x y:V):V:=if(o==jf)=O then Hz x y else if(o==wA)=O then vOr x y else if(o==oC)=O then UH x y else if(o==[61])=O then og x y else if(o==[60])=O then uY x y else if(o==[43])=O then qO x y else if(o==[45])=O then oh x y else if(o==qE)=O then Mw x y else(0,0,[])
def opC(o:zJ):Bool:=if(o==jf)=O then O else if(o==wA)=O then O else if(o==oC)=O then O else if(o==[61])=O then O else if(o==[60])=O then O else if(o==[43])=O then O else if(o==[45])=O then O else if(o==qE)=O then O else S
def opL(o:zJ)(x y:V)(h:List AO):Option zR:=if(o==jf)=O then M (.ret (zW R (Hz x y)) h)else if(o==wA)=O then M (.ret (zW R (vOr x y)) h)else if(o==oC)=O then M (.ret (zW R (UH x y)) h)else if(o==[61])=O then M (.ret (zW R (og x y)) h)else if(o==[60])=O then M (.ret (zW R (uY x y)) h)else if(o==[43])=O then M (.ret (zW R (qO x y)) h)else if(o==[45])=O then M (.ret (zW R (oh x y)) h)else if(o==qE)=O then M (.ret (zW R (Mw x y)) h)else Q2
def zls(g:aT->zr->zg->V)(c:aT->zr->zg->Bool):fD [Q2,M .expr]:=λx h=>match x,h with
 | (.agg [.sl (.pr .str (.pr (.int .i64) .bool)) cols,.sl (.pr (.int .i64) (.pr (.int .i64) .str)) row,.mp 0],e,_),[.fmap [(k1,.clo (.func 229) [] []),(k2,.clo (.func 230) [] []),(k3,.clo (.func 231) [] []),(k4,.clo (.func 233) [] []),(k5,.clo (.func 234) [] []),(k6,.clo (.func 155) [] []),(k7,.clo (.func 235) [] []),(k8,.clo (.func 236) [] [])]]=>
  .chk (k1==jf&&(k2==wA&&(k3==oC&&(k4==[61]&&(k5==[60]&&(k6==[43]&&(k7==[45]&&(k8==qE)))))))) (.chk (c cols row e) (.ok (zW R (g cols row e),[.fmap jL])))
 |_,_=>.err
def UN(g:aT->zr->zg->V)(c:aT->zr->zg->Bool):ag:=bf [Q2,M .expr] (zls g c)
def Vy(g:aT->zr->zg->V)(c:aT->zr->zg->Bool):cu:=Ib.add 181 (UN g c)
variable {h:aT->zr->zg->V}{c:aT->zr->zg->Bool}
theorem D5(x:FK 181 (UN h c)):zw (Vy h c):=yU.add x
theorem zal(g:aT->zr->zg->V)(c:aT->zr->zg->Bool):zY (Vy g c).P 181 Tryz.f181 2:=cK kw
theorem zmk(g:aT->zr->zg->V)(c:aT->zr->zg->Bool)(h:LC)(x:LV)(o:zJ)(v:V)(s:zJ):(run (Vy g c) 1 unr (Func.results Tryz.f181).toList 600 (bq Tryz.f181) (bg (Func.ntmps Tryz.f181) [agg [N zn h,N R x,AV.mp 0],zW Q5 (.mk o v s [])] [AO.fmap jL])).val=if(o==pC)=O then M (.ret (zW R v) [.fmap jL])else if(o==fk)=O then(ite ((cond (T (aK h s<0)) O (T (aK h s>=(X x:Int))))=O) (M (.ret (zW R (0,0,[])) [.fmap jL])) (ite (zL (aK h s) (X x)=O) (M (.ret (zW R (x.getD (Z (aK h s)) (Q R))) [.fmap jL])) Q2))else opL o (0,0,[]) (0,0,[]) [.fmap jL]:=kw
theorem zml(g:aT->zr->zg->V)(c:aT->zr->zg->Bool)(h:LC)(x:LV)(o:zJ)(v:V)(s:zJ)(a:zg):(run (Vy g c) 1 unr (Func.results Tryz.f181).toList 600 (bq Tryz.f181) (bg (Func.ntmps Tryz.f181) [agg [N zn h,N R x,AV.mp 0],zW Q5 (.mk o v s [a])] [AO.fmap jL])).val=if(o==pC)=O then M (.ret (zW R v) [.fmap jL])else if(o==fk)=O then(ite ((cond (T (aK h s<0)) O (T (aK h s>=(X x:Int))))=O) (M (.ret (zW R (0,0,[])) [.fmap jL])) (ite (zL (aK h s) (X x)=O) (M (.ret (zW R (x.getD (Z (aK h s)) (Q R))) [.fmap jL])) Q2))else if c h x (.mk a.op a.v a.s a.l)=O then opL o (g h x (.mk a.op a.v a.s a.l)) (0,0,[]) [.fmap jL]else Q2:=kw
theorem zmm(g:aT->zr->zg->V)(c:aT->zr->zg->Bool)(h:LC)(x:LV)(o:zJ)(v:V)(s:zJ)(a b:zg):(run (Vy g c) 1 unr (Func.results Tryz.f181).toList 600 (bq Tryz.f181) (bg (Func.ntmps Tryz.f181) [agg [N zn h,N R x,AV.mp 0],zW Q5 (.mk o v s [a,b])] [AO.fmap jL])).val=if(o==pC)=O then M (.ret (zW R v) [.fmap jL])else if(o==fk)=O then(ite ((cond (T (aK h s<0)) O (T (aK h s>=(X x:Int))))=O) (M (.ret (zW R (0,0,[])) [.fmap jL])) (ite (zL (aK h s) (X x)=O) (M (.ret (zW R (x.getD (Z (aK h s)) (Q R))) [.fmap jL])) Q2))else if c h x (.mk a.op a.v a.s a.l)=O then(ite (c h x (.mk b.op b.v b.s b.l)=O) (opL o (g h x (.mk a.op a.v a.s a.l)) (g h x (.mk b.op b.v b.s b.l)) [.fmap jL]) Q2)else Q2:=kw
variable {a:Option zR}
theorem sK{Φ:zR->Prop}{c:Bool}{b:Option zR}(h:c=O->iz Φ a)(x:c=S->iz Φ b):iz Φ (ite (c=O) a b):=by
 cases c
 .simpa using x rfl
 .simpa using h rfl
variable {E:cu}{C:eW}{t:List Item}
theorem A2{k:FuncId}{f:Func}{Q:AV->List AO->Prop}{n n0:Nat}(c:zw E)(d:zY E.P k f n)(b:∀id,n0<=id->C.ρ0 id=Q2){keep:Nat->aX}{x:Nat}
   {s:St}  (e:(run E n0 keep f.results.toList x t s).val=a) (h:iz (kT E C k Q) a):Reach E C k t s Q:=
 zI c d b rfl (by rw[e];exact h)
theorem AK{o:zJ}{x y:V}{h:List AO}(b:opC o=O):iz (kT E C 181 (λr d=>(r,d)=(zW R (opV o x y),h))) (opL o x y h):=by
 generalize c:opV o x y=z;unfold opC at b;unfold opV at c;unfold opL;repeat' (refine sK (λa=>?_) (λa=>?_)<;>first|(rw[zf a]at c;try rw[zf a]at b)|(rw[zh (oT a)]at c;try rw[zh (oT a)]at b))
 all_goals first|(cases b;done)|(subst c;rfl)
def uv(g:aT->zr->zg->V)(c:LC)(h:LV):zg->V
 | .mk o v s l=>if (o==pC)=O then v else
  if(o==fk)=O then(ite ((cond (T (aK c s<0)) O (T (aK c s>=(X h:Int))))=O) (0,0,[]) (h.getD (Z (aK c s)) (Q R)))else
  match l with
  |[]=>opV o (0,0,[]) (0,0,[])
  |[a]=>opV o (g c h a) (0,0,[])
  |[a,b]=>opV o (g c h a) (g c h b)
  |_=>(0,0,[])
def yB(c:aT->zr->zg->Bool)(h:LC)(x:LV):zg->Bool
 |.mk _ _ _ (_::_::_::_)=>S
 | .mk o _ s l=>if (o==pC)=O then O else
  if(o==fk)=O then(ite ((cond (T (aK h s<0)) O (T (aK h s>=(X x:Int))))=O) O (zL (aK h s) (X x)))else
  match l with
  |[]=>opC o
  |[a]=>if c h x a=O then opC o else S
  |[a,b]=>if c h x a=O then(ite (c h x b=O) (opC o) S)else S
  |_=>S
theorem zj4(p:FK 181 (UN h c)):FK 181 (UN (uv h) (yB c)):=by
 refine dz (E:=Vy h c) (zal h c) λx w t m C n=>?_
 unfold zls at m;split at m
 .rename_i j k e u y A B D F G H P;simp only[Q8]at m;split at m
  .rename_i q;split at m
   .rename_i g;simp only[aN,bW]at q;obtain⟨rfl,rfl,rfl,rfl,rfl,rfl,rfl,rfl⟩:=q;simp only[bG]at m;subst m;have⟨o,v,s,l⟩:=e
    match l,g with
    | [],g=>
     refine A2 (n0:=1) (D5 p) (zal h c) n (zmk h c j k o v s) ?_;generalize i:uv h j k (.mk o v s [])=z;rw[yB]at g;rw[uv]at i;repeat' (first|(subst i;exact AK g)|refine sK (λd=>?_) (λd=>?_)<;>first|(first|rw[zf d]at i g|rw[zf d]at g|rw[zf d]at i)|(first|rw[zh (oT d)]at i g|rw[zh (oT d)]at g|rw[zh (oT d)]at i)|skip)
     all_goals first|(subst i;exact AK g)|(subst i;rfl)|(rw[g]at d;cases d)
    | [a],g=>
     refine A2 (n0:=1) (D5 p) (zal h c) n (zml h c j k o v s a) ?_;generalize i:uv h j k (.mk o v s [a])=z;rw[yB]at g;rw[uv]at i;simp only[zg.eta];repeat' (first|(subst i;exact AK g)|refine sK (λd=>?_) (λd=>?_)<;>first|(first|rw[zf d]at i g|rw[zf d]at g|rw[zf d]at i)|(first|rw[zh (oT d)]at i g|rw[zh (oT d)]at g|rw[zh (oT d)]at i)|skip)
     all_goals first|(subst i;exact AK g)|(subst i;rfl)|(cases g;done)|(rw[g]at d;cases d)
    | [a,b],g=>
     refine A2 (n0:=1) (D5 p) (zal h c) n (zmm h c j k o v s a b) ?_;generalize i:uv h j k (.mk o v s [a,b])=z;rw[yB]at g;rw[uv]at i;simp only[zg.eta];repeat' (first|(subst i;exact AK g)|refine sK (λd=>?_) (λd=>?_)<;>first|(first|rw[zf d]at i g|rw[zf d]at g|rw[zf d]at i)|(first|rw[zh (oT d)]at i g|rw[zh (oT d)]at g|rw[zh (oT d)]at i)|skip)
     all_goals first|(subst i;exact AK g)|(subst i;rfl)|(cases g;done)|(rw[g]at d;cases d)
    | _::_::_::_,g=>
     cases g
   .simp at m
  .simp at m
 .simp at m
mutual
def ek:Nat->aT->zr->zg->V
 |0=>λ_ _ _=>(0,0,[])
 |n+1=>uv (ek n)
def yA:Nat->aT->zr->zg->Bool
 |0=>λ_ _ _=>S
 |n+1=>yB (yA n)
end
theorem Xj:∀n,FK 181 (UN (ek n) (yA n))
 | 0=>by
  have h:FK 181 (bf [Q2,M .expr] (λ_ _=>.err)):=dz (zal (λ_ _ _=>(0,0,[])) (λ_ _ _=>S)) (E:=Ib) λx c b a=>by simp at a
  refine Cr (ι:=Unit) (Gs:=λ_ _ _=>.err) (λ_=>h) λx c b a=>?_
  unfold zls at a;grind[Q8,yA]
 |n+1=>zj4 (Xj n)
def F24:ag:=UN (ek 16) (yA 16)
theorem zqF:FK 181 F24:=Xj 16
def Ic:=Ib.addL [(180,F23),(181,F24)]
theorem yV:zw Ic:=yU.addL<|fc zqE<|fc zqF jg
abbrev zyf:Nat->aX:=λ_=>{ }
theorem zuD:zY (Ic).P 179 Tryz.f179 1:=cK kw
theorem zxi(x:J Q5):rn Ic 0 zyf Tryz.f179 [zW Q5 x] []=K (xh 16 (zt x) 1 0) (Tr.ok (zR.ret (AV.bool (jh 16 (zt x) 1 0).1) [])):=kw
def ea(x:J Q5):J Q7:=(jh 16 x 1 0).1
def BB(x:J Q5):Bool:=if xh 16 x 1 0=O then O else S
def F22:ag:=ac [Q5] [Q7] (λx=>BB x.1) λx=>(ea x.1,())
theorem zhm:FK 179 F22:=by
 refine aV (zuD) λx h C b=>?_
 unfold BB at h;refine zI yV (zuD) (λid _=>b id) (zxi x.1) ?_;generalize a:ea x.1=y;unfold ea at a;exact MB a h
abbrev kp7:Nat->aX:=λ_=>{ }
theorem ok7:zY (Ic).P 57 Tryz.f57 1:=cK kw
theorem go7(x:J Q5):rn Ic 0 kp7 Tryz.f57 [zW Q5 x] []=K (NM 16 (zt x) 14 80) (Tr.ok (zR.ret (agg [I (zg.op (uk 16 (zt x) 14 80).1),L (zg.v (uk 16 (zt x) 14 80).1).1,L (zg.v (uk 16 (zt x) 14 80).1).2.1,I (zg.v (uk 16 (zt x) 14 80).1).2.2,I (zg.s (uk 16 (zt x) 14 80).1),N Q5 (zg.l (uk 16 (zt x) 14 80).1)]) [])):=kw
def iP(x:J Q5):J Q5:=zg.mk (zg.op (uk 16 x 14 80).1) (zg.v (uk 16 x 14 80).1) (zg.s (uk 16 x 14 80).1) (zg.l (uk 16 x 14 80).1)
def S4(x:J Q5):Bool:=if NM 16 x 14 80=O then O else S
def F7:ag:=ac [Q5] [Q5] (λx=>S4 x.1) λx=>(iP x.1,())
theorem zrj:FK 57 F7:=by
 refine aV (ok7) λx h C b=>?_
 unfold S4 at h;refine zI yV (ok7) (λid _=>b id) (go7 x.1) ?_;generalize a:iP x.1=y;unfold iP at a;exact MB a h
def Id:=Ic.addL [(179,F22),(57,F7)]
theorem yW:zw Id:=yV.addL<|fc zhm<|fc zrj jg
abbrev zyh:Nat->aX:=λ_=>{ }
theorem zuH:zY (Id).P 178 Tryz.f178 2:=cK kw
theorem zxn(h:J Q5)(x:J zn.sl):rn Id 0 zyh Tryz.f178 [zW Q5 h,zW zn.sl x] []=let a:=zt h;K (BB a) (br (!ea a) (Tr.ok (zR.ret (tup [L 0,L 1]) [])) (K (bJ 16 a x) (Tr.ok (zR.ret (tup [L (aa 16 a x).1,L (aa 16 a x).2]) [])))):=kw
def cv(x:J Q5)(h:J zn.sl):zy×zy:=if(!ea x)=O then(0,1)else((aa 16 x h).1,(aa 16 x h).2)
def Kj(x:J Q5)(h:J zn.sl):Bool:=if BB x=O then if(!ea x)=O then O else if bJ 16 x h=O then O else S else S
def F30:ag:=ac [Q5,zn.sl] [zk,zk] (λx=>Kj x.1 x.2.1) λx=>((cv x.1 x.2.1).1,(cv x.1 x.2.1).2,())
theorem zhn:FK 178 F30:=by
 refine aV (zuH) λx h C b=>?_
 unfold Kj at h;refine zI yW (zuH) (λid _=>b id) (zxn x.1 x.2.1) ?_;generalize a:cv x.1 x.2.1=y;unfold cv at a;exact MB a h
abbrev zye:Nat->aX:=λ_=>{ }
theorem zux:zY (Id).P 111 Tryz.f111 3:=cK kw
theorem zxc(b:J Q5)(x:J zn.sl)(h:J ze.sl):rn Id 0 zye Tryz.f111 [zW Q5 b,zW zn.sl x,zW ze.sl h] []=let a:=zt b;K (BB a) (br (!ea a) (Tr.ok (zR.ret (agg [L 0,L 0,I []]) [])) (K (jf==jf&&(wA==wA&&(oC==oC&&([61]==[61]&&([60]==[60]&&([43]==[43]&&([45]==[45]&&qE==qE))))))) (K (yA 16 x h a) (Tr.ok (zR.ret (agg [L (ek 16 x h a).1,L (ek 16 x h a).2.1,I (ek 16 x h a).2.2]) []))))):=kw
def lr(x:J Q5)(h:J zn.sl)(a:J ze.sl):zq:=if(!ea x)=O then(0,0,[])else ek 16 h a x
def Kh(x:J Q5)(h:J zn.sl)(a:J ze.sl):Bool:=if BB x=O then if(!ea x)=O then O else if(jf==jf&&(wA==wA&&(oC==oC&&([61]==[61]&&([60]==[60]&&([43]==[43]&&([45]==[45]&&qE==qE)))))))=O then if yA 16 h a x=O then O else S else S else S
def F11:ag:=ac [Q5,zn.sl,ze.sl] [R] (λx=>Kh x.1 x.2.1 x.q.1) λx=>(lr x.1 x.2.1 x.q.1,())
theorem zhj:FK 111 F11:=by
 refine aV (zux) λx h C b=>?_
 unfold Kh at h;refine zI yW (zux) (λid _=>b id) (zxc x.1 x.2.1 x.q.1) ?_;generalize a:lr x.1 x.2.1 x.q.1=y;unfold lr at a;exact MB a h
def zhF:=Id.addL [(178,F30),(111,F11)]
theorem VG:zw zhF:=yW.addL<|fc zhn<|fc zhj jg
theorem mT(d:Int)(h:-1000<=d)(x:d<=1000):Γ Δ d=d:=by rw[fi];omega
theorem KB{P:Nat->zg->zg->Prop}(hP:∀h e(o t s:zJ)(l:List zg),(∀y∈l,∃x∈zg.l e,P h x y)->X l<=3->X t<=45->X s<=20->P (h+1) e (.mk o ((zg.v e).1,(zg.v e).2.1,t) s l)):
  ∀(h:Nat)(e:zg)(d n:Int),0<=d->d<h->h<=100->∃r m,qS h e d n=M (r,m,())/\P h e r
 |0,_,_,_,h1,h2,_=>by omega
 | h + 1,e,d,n,h1,h2,h3=>by
  have IH:∀x m,0<d->∃r k,qS h x (Γ Δ (d-1)) m=M (r,k,())/\P h x r:=λx m hd=>by
   rw[mT _ W W];exact KB hP h x (d-1) m W W W
  generalize hg:(λG H U=>Nr (qS h G H U))=g;generalize hc:(λG H U=>(qS h G H U).isSome)=c
  have E:∀(k i:Nat)(n:Int)(a:List zg)(z:zp qR)(o t s:zJ),i+k=3->X a=i->(∀y∈a,∃x∈zg.l e,P h x y)->
    ∃m r F,zU (A7 g c) m (.h10 d n (i:Int) (e,()) z (o,(zg.v e).1,(zg.v e).2.1,t,s,a,())) (.tup [.agg [.str o,L (zg.v e).1,L (zg.v e).2.1,.str t,.str s,.vec 0],L F],[.vec .expr r])/\m<=k+1/\(∀y∈r,∃x∈zg.l e,P h x y)/\X r<=3:=by
   intro k
   induction k with
   | zero=>
    intro i n a z o t s hi ha A;refine⟨1,a,n,zU.of ?_,W,A,W⟩;grind[A7,Q8]
   | succ k ih=>
    intro i n a z o t s hi ha A;by_cases u:(cond (T ((i:Int)<(↑(zg.l e).length:Int))) (cond (T ((i:Int)<3)) (cond (T (d>0)) (T (n>0)) S) S) S)=O
    .have hl:i<(zg.l e).length/\0<d:=by
      cases h1:T ((i:Int)<(↑(zg.l e).length:Int))<;>cases h2:T ((i:Int)<3)<;>cases h3:T (d>0)<;>simp_all
     have⟨r,m,b,j⟩:=IH (zg.l e)[i] n hl.2;have gx:g (zg.l e)[i] (Γ Δ (d-1)) n=(r,m):=by rw[<-hg];simp only[b];rfl
     have cx:c (zg.l e)[i] (Γ Δ (d-1)) n=O:=by rw[<-hc];simp only[b];rfl
     have⟨m2,r2,n2,B,k2,C,D⟩:=ih (i+1) m (a++[r]) z o t s W sg (λy hy=>by
      grind)
     refine⟨m2+1,r2,n2,(zH.of ?_).ends B,?_,C,D⟩
     .grind[zL,A7,Q8,zo,zu,aD]
     .omega
    .refine⟨1,a,n,zU.of ?_,W,A,W⟩;simp only[A7,Q8];rw[zh u]
  have h8:∀(z:zp qR)(o t s:zJ),X t<=45->X s<=20->∃r m Rr0,zU (A7 g c) 101 (.h500008 d (Γ Δ (n-1)) (e,()) z (o,(zg.v e).1,(zg.v e).2.1,t,s,())) Rr0/\aZ Rr0.2 [Q5,zk] Rr0.1=M (r,m,())/\P (h+1) e r:=λz o t s ht w=>by
   have⟨m,r,F,B,k2,C,D⟩:=E 3 0 (Γ Δ (n-1)) [] z o t s rfl rfl sw;exact⟨.mk o ((zg.v e).1,(zg.v e).2.1,t) s r,F,_,((zH.of rfl).ends B).mono W,rfl,hP h e o t s r C D ht w⟩
  have h6:∀(z:zp qR)(o s:zJ),X s<=20->∃r m Rr0,zU (A7 g c) 102 (.h500006 d n (T ((↑(X (zg.v e).q):Int)>45)) (e,()) z (o,(zg.v e).1,(zg.v e).2.1,(zg.v e).q,s,())) Rr0/\aZ Rr0.2 [Q5,zk] Rr0.1=M (r,m,())/\P (h+1) e r:=λz o s w=>by
   by_cases u:(X (zg.v e).q:Int)>45
   .have⟨r,m,Rr0,b,j,p⟩:=h8 z o (Qg (Z 45-Z 0) (Qh (Z 0) (zg.v e).q)) s sg w;refine⟨r,m,Rr0,(zH.of ?_).ends b,j,p⟩;grind[A7,Q8]
   .have⟨r,m,Rr0,b,j,p⟩:=h8 z o (zg.v e).q s W w;refine⟨r,m,Rr0,(zH.of ?_).ends b,j,p⟩;grind[A7,Q8]
  have h4:∀(z:zp qR)(o:zJ),∃r m Rr0,zU (A7 g c) 103 (.h500004 d n (T ((↑(X (zg.s e)):Int)>20)) (e,()) z (o,(zg.v e).1,(zg.v e).2.1,(zg.v e).q,zg.s e,())) Rr0/\aZ Rr0.2 [Q5,zk] Rr0.1=M (r,m,())/\P (h+1) e r:=λz o=>by
   by_cases u:(X (zg.s e):Int)>20
   .have⟨r,m,Rr0,b,j,p⟩:=h6 z o (Qg (Z 20-Z 0) (Qh (Z 0) (zg.s e))) sg;refine⟨r,m,Rr0,(zH.of ?_).ends b,j,p⟩;grind[A7,Q8]
   .have⟨r,m,Rr0,b,j,p⟩:=h6 z o (zg.s e) W;refine⟨r,m,Rr0,(zH.of ?_).ends b,j,p⟩;grind[A7,Q8]
  have e0:qS (h+1) e d n=zso g c e d n:=by rw[<-hg,<-hc];rfl
  rw[e0];by_cases u:(X (zg.op e):Int)>8
  .have⟨r,m,Rr0,b,j,p⟩:=h4 ([],0,0,[],[],()) (Qg (Z 8-Z 0) (Qh (Z 0) (zg.op e)));refine⟨r,m,zz ?_ b W j,p⟩;grind[zeO,Q8]
  .have⟨r,m,Rr0,b,j,p⟩:=h4 ([],0,0,[],[],()) (zg.op e);refine⟨r,m,zz ?_ b W j,p⟩;grind[zeO,Q8]
theorem QY(x:Nat)(e:zg)(d n:Int)(a:0<=d)(b:d<x)(c:x<=100):NM x e d n=O:=by have⟨r,m,h,_⟩:=KB (P:=λ_ _ _=>True) (λ_ _ _ _ _ _ _ _ _ _=>trivial) x e d n a b c;unfold NM;rw[h];rfl
theorem Fj{g:zg->Int->Int->Bool×Int}{c:zg->Int->Int->Bool}{d:Int}(h:∀x n,c x (Γ Δ (d+1)) n=O):∀(l:List zg)(n:Int),Fi g c d l n=O
 |[],_=>rfl
 | x::r,n=>by
  rw[Fi,zf (h x n)];split
  .rfl
  .exact Fj h r _
theorem Fh:∀(h:Nat)(e:zg)(d n:Int),0<=d->d<=13->14<=d+h->xh h e d n=O
 |0,_,_,_,_,_,_=>by omega
 | h+1,e,d,n,c,g,i=>by
  rw[xh];unfold TD;by_cases a:d>12
  .simp[a]
  .have b:Fi (jh h) (xh h) d e.l (Γ Δ (n+1))=O:=Fj (λx m=>by
    rw[mT _ W W];exact Fh h x (d+1) m W W W) _ _
   repeat' split
   all_goals first|rfl|exact b
abbrev AH:zg:=.mk [] (0,0,[]) [] []
theorem R9(h:Nat)(e:zg):lm (h+1) e AH=O:=by
 rw[lm];unfold L3;have x:EC (gN h) (lm h) e.l []=O:=by
  unfold EC;split
  .rfl
  .cases e.l<;>rfl
 grind[zg.l]
theorem gR{α:Type}(p:α->Bool):∀(l:List α)(i:Nat),ah p l i=-1\/((i:Int)<=ah p l i/\ah p l i<i+X l)
 |[],_=>.inl rfl
 | x::r,i=>by
  unfold ah;split
  .exact .inr ⟨W,sg⟩
  .rcases gR p r (i+1)with h|⟨a,b⟩
   .exact .inl h
   .exact .inr ⟨W,sg⟩
theorem Kd(l:aT)(s:zJ):aK l s=-1\/(0<=aK l s/\aK l s<X l):=by grind[gR,aK]
theorem nz(o:zJ):(dU o=0/\(o=pC\/o=fk))\/(dU o=1/\(o=oC\/o=qE))\/
  (dU o=2/\(o=jf\/o=wA\/o=[61]\/o=[60]\/o=[43]\/o=[45]))\/dU o=-1:=by
 unfold dU BT;simp only[Uz];repeat' split
 all_goals simp_all
theorem AG{g:zg->Int->Int->Bool×Int}{e:zg}{d i:Int}(h:(Cj g e d i).1=O):(e.l.length:Int)=dU e.op/\
  ((e.op=pC\/e.op=fk)\/(qU g d e.l (Γ Δ (i+1))).1=O):=by grind[Cj]
theorem xi{g:zg->Int->Int->Bool×Int}{d:Int}:∀(l:List zg)(n:Int),(qU g d l n).1=O->∀x∈l,∃m,(g x (Γ Δ (d+1)) m).1=O
 |[],_,_,_,a=>by simp at a
 | y::r,n,h,x,a=>by
  rw[qU]at h;split at h
  .cases h
  .rename_i b;rcases bZ.1 a with rfl|a
   .exact⟨n,by simpa using b⟩
   .exact xi r _ h x a
theorem B5{g:zg->aT->Int×Int}{c:zg->aT->Bool}{b:aT}{o:zJ}{d i:Int}{q k:zJ}{w:List zg}:
    ∀(l:List zg)(a:Int)(e:List Int),(∀x∈l,c x b=O)->((X e:Int)+X l)=dU o->g8 g c b o d i q k w l a e=O
  | [], a,e,_,j=>by
    have j:(X e:Int)=dU o:=by simpa using j
    have n:T (aK b k<0)=O\/zL (aK b k) (X b)=O:=by
      rcases Kd b k with h|⟨s,m⟩
      · exact .inl (by rw[h];rfl)
      · exact .inr (by simp[zL,s,m])
    have m:o=[61]\/o=[60]->X e=2:=by
      rintro(rfl|rfl)
      · have:dU [61]=2:=by decide
        omega
      · have:dU [60]=2:=by decide
        omega
    unfold g8;repeat' split
    all_goals first
      |rfl
      |(exfalso;rcases n with h|h<;>simp_all;done)
      | (exfalso
         rename_i z p;have t:=m (by simp_all);rw[t]at p;exact p (by cases A:(e.getD (Z 0) (Q zk)==e.getD (Z 1) (Q zk))<;>cases B:(e.getD (Z 0) (Q zk)==0)<;>rfl))
  | x :: r,a,e,hc,j=>by
    have u:dU o<=2:=by rcases nz o with h|h|h|h<;>omega
    rw[g8,zf (hc x sw)];split
    · rfl
    · rw[zf (by simp at j|-;omega)]
      exact B5 r (a+1) _ (λy v=>hc y (by simp[v])) (by simp at j|-;omega)
theorem yv:∀(a:Nat)(e:zg)(d n:Int)(c:aT),(jh a e d n).1=O->bJ a e c=O
 |0,_,_,_,_,h=>by cases h
 | a+1,e,d,n,c,h=>by
  rw[jh]at h;have⟨g,b⟩:=AG h;rw[bJ];unfold Dq;refine B5 e.l 0 [] (λx j=>?_) (by simpa using g);rcases b with b|b
  .exfalso;have:dU e.op=0:=by
    rcases b with b|b<;>rw[b]<;>decide
   simp_all
  .have⟨m,i⟩:=xi e.l _ b x j;exact yv a x _ _ c i
theorem GX:∀(c:Nat)(e:zg)(d n:Int)(g:aT)(j:zr),(jh c e d n).1=O->yA c g j e=O
 |0,_,_,_,_,_,h=>by cases h
 | c + 1,.mk p v s l,d,n,g,j,h=>by
  rw[jh]at h;have⟨i,o⟩:=AG h;have i:(X l:Int)=dU p:=i;have o:(p=pC\/p=fk)\/(qU (jh c) d l (Γ Δ (n+1))).1=O:=o;have k:∀x∈l,(¬(p=pC\/p=fk))->yA c g j x=O:=by
   intro x k t;rcases o with o|o
   .exact(t o).elim
   .have⟨m,y⟩:=xi l _ o x k;exact GX c x _ _ g j y
  have w:(ite ((cond (T (aK g s<0)) O (T (aK g s>=(X j:Int))))=O) O (zL (aK g s) (X j)))=O:=by
   split
   .rfl
   .grind[zL]
  rw[yA];rcases nz p with⟨u,q⟩|⟨u,q⟩|⟨u,q⟩|u
  .have:l=[]:=DB W;grind[yB]
  .match l,i,k with
   | [a],_,k=>
    rcases q with rfl|rfl
    .rw[yB];exact(zf (k a sw (by decide))).trans rfl
    .rw[yB];exact(zf (k a sw (by decide))).trans rfl
   |[],i,_=>simp at i;omega
   |_::_::_,i,_=>simp at i;omega
  .match l,i,k with
   | [a,b],_,k=>
    rcases q with rfl|rfl|rfl|rfl|rfl|rfl<;>
     (rw[yB];exact(zf (k a sw (by decide))).trans ((zf (k b sw (by decide))).trans rfl))
   |[],i,_=>simp at i;omega
   |[_],i,_=>simp at i;omega
   |_::_::_::_,i,_=>simp at i;omega
  .omega
theorem vu(e:zg):BB e=O:=by grind[BB,Fh]
theorem Qx(e:zg):S4 e=O:=by grind[S4,QY]
theorem Ns(e:zg)(c:aT):Kj e c=O:=by grind[Kj,vu,yv,ea]
theorem Nq(e:zg)(c:aT)(h:zr):Kh e c h=O:=by grind[Kh,vu,GX,ea]
def zpj:ag:=aU [Q5] [Q7] λx=>(ea x.1,())
theorem zj2:FK 179 zpj:=pq zhm λx=>vu x.1
def F7t:ag:=aU [Q5] [Q5] λx=>(iP x.1,())
theorem zrr:FK 57 F7t:=pq zrj λx=>Qx x.1
def zpu:ag:=aU [Q5,zn.sl] [zk,zk] λx=>((cv x.1 x.2.1).1,(cv x.1 x.2.1).2,())
theorem zkf:FK 178 zpu:=pq zhn λx=>Ns x.1 x.2.1
def zoV:ag:=aU [Q5,zn.sl,ze.sl] [R] λx=>(lr x.1 x.2.1 x.q.1,())
theorem zjD:FK 111 zoV:=pq zhj λx=>Nq x.1 x.2.1 x.q.1
def zhG:=zhF.addL [(179,zpj),(57,F7t),(178,zpu),(111,zoV)]
theorem yX:zw zhG:=VG.addL<|fc zj2<|fc zrr<|fc zkf<|fc zjD jg
set_option maxHeartbeats 4000000
abbrev wH:List CP:=[.d ab]
abbrev zeb:List CP:=[.d .str,.nil,.d zk,.nil,.nil,.d .str,.d zk,.d zk,.d .str,.d .str,.nil]
abbrev zr3:List CP:=[.d .str,.d (.sl zn),.d zk,.vec zk,.nil,.d .expr]
abbrev zr4:List CP:=[.d .str,.d (.sl zn),.d zk,.vec zk,.vec zG,.d .expr]
def Zo(x:J Q5)(h:J zn.sl):Tr (Empty⊕aw):=K (lm 16 (zt x) (zg.mk [] (0,0,[]) [] [])) (br (gN 16 (zt x) (zg.mk [] (0,0,[]) [] [])) (re (L 0) []) (br (cond ((cv (zt x) h).2==0) (cond ((cv (zt x) h).1!=3) ((cv (zt x) h).1!=0) S) S) (re (L 5) []) (re (L (cv (zt x) h).2) [])))
def Pv(x:J Q5)(h:J zn.sl):=ap [zk] t0 100000000 (Zo x h)
def zgY:=FT [Q5,zn.sl] [zk] λx=>Pv x.1 x.2.1
theorem SB:FK 110 zgY:=yX.T1 (f:=Tryz.f110) (keep:=k0) (e:=e0)
abbrev zt6:Nat->aX:=λj=>if j=3 then{slots:=[1,2,3,4],prom:=[(3,M 3,zk)]}else if j=7 then{slots:=[1,2,3,5],prom:=[(3,M 4,zG)]}else{ }
inductive MP where
 |h3 (i4:Int) (z0:zp wH) (z1:zp zeb) (z2:zp zr3)
 |h7 (i5:Int) (z0:zp wH) (z1:zp zeb) (z2:zp zr4)
abbrev zwT:MP->Nat×St
 |.h3 i h x z=>(3,⟨tm 70 [(1,ptr 0 0),(2,ptr 1 0),(3,ptr 2 0),(4,L i)],[Qa (bL [] wH h),Qa (bL [] zeb x),Qa (bL [3] zr3 z),AO.vec zk z.r.1]⟩)
 |.h7 a h x z=>(7,⟨tm 70 [(1,ptr 0 0),(2,ptr 1 0),(3,ptr 2 0),(5,L a)],[Qa (bL [] wH h),Qa (bL [] zeb x),Qa (bL [3,4] zr4 z),AO.vec zk z.r.1,AO.vec zG z.t.1]⟩)
def zmM(x:al):Tr (MP⊕aw):=Q9 (MP.h3 0 (x,()) ([],0,[],0,0,[],[],()) (kj x.1,kI x.2.1,x.q.1,[],iP (zt x.u),()))
def Mn:MP->Tr (MP⊕aw)
 | .h3 i h b z=>
  let c:=(X h.1.r.1:Int)
  let a:=[Y h.1.r.1 i.toNat (Q zk)]
  br (cond (T (i<c)) (T (i<10)) S)
  (K (zL i (X h.1.r.1)) (K (T (X z.r.1+X a<=1073741824)) (Q9 (MP.h3 (Γ Δ (i+1)) h b (z.1,z.2.1,z.q.1,z.r.1++a,z.t)))))
  (Q9 (MP.h7 0 h b (z.1,z.2.1,z.q.1,z.r.1,[],z.t)))
 | .h7 x h b z=>
  let c:=(X h.1.t.1:Int)
  let a:=zL x (X h.1.t.1)
  let d:=Y h.1.t.1 x.toNat (Q zG)
  let e:=[(d.1,kj d.2)]
  br (cond (T (x<c)) (T (x<10)) S)
  (K a (K a (K (T (X z.t.1+X e<=1073741824)) (Q9 (MP.h7 (Γ Δ (x+1)) h b (z.1,z.2.1,z.q.1,z.r.1,z.t.1++e,z.u))))))
  (re (agg [I z.1,N zn z.2.1,L z.q.1,AV.vec 0,AV.vec 1,I (zg.op z.u.1),L (zg.v z.u.1).1,L (zg.v z.u.1).2.1,I (zg.v z.u.1).q,I (zg.s z.u.1),N Q5 (zg.l z.u.1)]) [AO.vec zk z.r.1,AO.vec zG z.t.1])
def zbO(x:al):=ap [ab] Mn 100000000 (zmM x)
def zp8:=FT [ab] [ab] λx=>zbO x.1
theorem Xo:FK 121 zp8:=yX.T1 (f:=Tryz.f121) (keep:=zt6) (e:=zwT)
def jC(x:J Q5)(h:J zn.sl):zy:=if gN 16 x (zg.mk [] (0,0,[]) [] [])=O then 0 else if(cond ((cv x h).2==0) (cond ((cv x h).1!=3) ((cv x h).1!=0) S) S)=O then 5 else(cv x h).2
theorem R7(e:zg)(c:LC):Pv e c=M (jC e c,()):=by
 have h:(Zo e c).val=M (.inr (L (jC e c),[])):=by
  unfold jC;simp only[Zo,zo,Q8];rw[zf (R9 15 e)];repeat' split
  all_goals rfl
 exact zQ h rfl
def GQ(t:al):al:=(kj t.1,kI t.2.1,t.q.1,Qg 10 t.r.1,(Qg 10 t.t.1).map (λf:cy=>((f.1,kj f.2):cy)),iP t.u)
theorem zbP(t:al):zbO t=M (GQ t,()):=by
 have g:=zH.all (t:=Mn) 1 (λi=>.h3 (i:Int) (t,()) ([],0,[],0,0,[],[],()) (kj t.1,kI t.2.1,t.q.1,Qg i t.r.1,iP t.u,())) (min 10 (X t.r.1)) λi x=>zH.of (by
  have h:i<X t.r.1:=by omega
  simp only[Mn,Q8,zeY (k:=10) (K:=10) rfl x,zx h,zj,aH];rw[zf sg,zu i um,Mr h (Q zk)])
 have a:zH Mn 1 (.h3 ((min 10 (X t.r.1):Nat):Int) (t,()) ([],0,[],0,0,[],[],()) (kj t.1,kI t.2.1,t.q.1,Qg (min 10 (X t.r.1)) t.r.1,iP t.u,())) (.h7 ((0:Nat):Int) (t,()) ([],0,[],0,0,[],[],()) (kj t.1,kI t.2.1,t.q.1,Qg (min 10 (X t.r.1)) t.r.1,[],iP t.u,())):=zH.of (by
  simp only[Mn,Q8,TC (k:=10) (K:=10) rfl,zD,zm];rfl)
 rw[yn]at g a;have b:=zH.all (t:=Mn) 1 (λi=>.h7 (i:Int) (t,()) ([],0,[],0,0,[],[],()) (kj t.1,kI t.2.1,t.q.1,Qg 10 t.r.1,(Qg i t.t.1).map (λf:cy=>((f.1,kj f.2):cy)),iP t.u,())) (min 10 (X t.t.1)) λi x=>zH.of (by
  have h:i<X t.t.1:=by omega
  simp only[Mn,Q8,zeY (k:=10) (K:=10) rfl x,zx h,zj,aH];rw[zf sg,zu i um,Mr h (Q zG),gh];rfl)
 rw[yn]at b;have c:zU Mn 1 (.h7 ((min 10 (X t.t.1):Nat):Int) (t,()) ([],0,[],0,0,[],[],()) (kj t.1,kI t.2.1,t.q.1,Qg 10 t.r.1,(Qg 10 t.t.1).map (λf:cy=>((f.1,kj f.2):cy)),iP t.u,())) _:=zU.of (by
  simp only[Mn,Q8,TC (k:=10) (K:=10) rfl,zD,zm];rfl)
 have d:(zmM t).val=M (.inl (.h3 ((0:Nat):Int) (t,()) ([],0,[],0,0,[],[],()) (kj t.1,kI t.2.1,t.q.1,Qg 0 t.r.1,iP t.u,()))):=by
  simp only[zmM,zo,Q8];rfl
 unfold GQ;rw[<-zo (iP t.u)];exact zz d (((g.trans a).trans b).ends c) W rfl
def zhH:=zhG.addL [(110,zgY),(121,zp8)]
theorem VH:zw zhH:=yX.addL<|fc SB<|fc Xo jg
def zpg:ag:=aU [Q5,zn.sl] [zk] λx=>(jC x.1 x.2.1,())
theorem zjY:FK 110 zpg:=iV SB λx=>R7 x.1 x.2.1
def F5t:ag:=aU [ab] [ab] λx=>(GQ x.1,())
theorem zrb:FK 121 F5t:=iV Xo λx=>zbP x.1
def YE:=zhH.addL [(110,zpg),(121,F5t)]
theorem Ie:zw YE:=VH.addL<|fc zjY<|fc zrb jg
abbrev zm2:=kS [(4,[1,27,28,29]),(11,[1,5,59,60,61]),(17,[1,5,71,72,73])]
inductive uw where
 |h4 (l27:LC) (i28:Int) (i29:Int) (z0:zp wH)
 |h11 (l59:LI) (i60:Int) (i61:Int) (z0:zp wH)
 |h17 (l71:LF) (i72:Int) (i73:Int) (z0:zp wH)
abbrev zr8:uw->Nat×St
 |.h4 l i h z=>(4,⟨tm 110 [(1,ptr 0 0),(27,N zn l),(28,L i),(29,L h)],[Qa (bL [] wH z)]⟩)
 |.h11 d x a z=>(11,⟨tm 110 [(1,ptr 0 0),(5,AV.clo (Fn.func 109) [] [ptr 0 0]),(59,N zk d),(60,L x),(61,L a)],[Qa (bL [] wH z)]⟩)
 |.h17 e b c z=>(17,⟨tm 110 [(1,ptr 0 0),(5,AV.clo (Fn.func 109) [] [ptr 0 0]),(71,N zG e),(72,L b),(73,L c)],[Qa (bL [] wH z)]⟩)
def NY(x:al):Tr (uw⊕aw):=
 let a:=(X x.2.1:Int)
 br (cond (!az x.1) O (cond (T (a<1)) O (T (a>8)))) (re (kb S) [])
 (Q9 (uw.h4 x.2.1 a 0 (x,())))
def qN:uw->Tr (uw⊕aw)
 | .h4 l d i z=>
  let a:=l.getD i.toNat (Q zn)
  br (T (i<d))
  (K (zL i (X l)) (br (cond (!az a.1) O (cond (T (a.2.1<1)) O (cond (T (a.2.1>3)) O (zZ (z.1.1,z.1.2.1,z.1.q.1,z.1.r.1,z.1.t.1,zt z.1.u) a.1!=i)))) (re (kb S) []) (Q9 (uw.h4 l d (Γ Δ (i+1)) z))))
  (Q9 (uw.h11 z.1.r.1 (X z.1.r.1:Int) 0 z))
 | .h11 b e h z=>
  let a:=b.getD h.toNat (Q zk)
  let j:=(X z.1.2.1:Int)
  br (T (h<e))
  (K (zL h (X b)) (br (!bif T (a>=0)then T (a<j)else S) (re (kb S) []) (Q9 (uw.h11 b e (Γ Δ (h+1)) z))))
  (Q9 (uw.h17 z.1.t.1 (X z.1.t.1:Int) 0 z))
 | .h17 c g x z=>
  let a:=c.getD x.toNat (Q zG)
  let j:=(X z.1.2.1:Int)
  let k:=Y z.1.2.1 (Z z.1.q.1) (Q zn)
  br (T (x<g))
  (K (zL x (X c)) (br (!bif T (a.1>=0)then T (a.1<j)else S) (re (kb S) []) (br (!az a.2) (re (kb S) []) (Q9 (uw.h17 c g (Γ Δ (x+1)) z)))))
  (br (cond (T (z.1.q.1>=0)) (T (z.1.q.1<j)) S) (K (zL z.1.q.1 (X z.1.2.1)) (br k.q (re (AV.bool (jC (zt z.1.u) z.1.2.1==0)) []) (re (kb S) []))) (re (kb S) []))
def zop(x:al):=ap [Q7] qN 40000000000000000000 (NY x)
theorem Y7{e:Type}{t:e->Tr (e⊕aw)}{st:Nat->e}{N:Nat}{b:Nat->Bool}{R:aw}(h:∀i,i<N->(t (st i)).val=if b i=O then M (.inl (st (i+1)))else M (.inr R)):
  ((List.range N).all b=O/\zH t N (st 0) (st N))\/((List.range N).all b=S/\zU t N (st 0) R):=by
 rcases nL (t:=t) (Φ:=λr=>r=R) 1 st (λi=>b i=O) N (λi x _=>by
  cases d:b i
  .exact .inr ⟨sw,R,zU.of (by rw[h i x,d];rfl),rfl⟩
  .exact .inl ⟨rfl,zH.of (by rw[h i x,d];rfl)⟩)with⟨a,c⟩|⟨a,r,c,rfl⟩
 .exact .inl ⟨by rw[eu];exact λi x=>a i (rk.1 x),c.mono W⟩
 .refine .inr ⟨?_,c.mono W⟩;rw[Bool.eq_false_iff,Ne,eu];exact λq=>a λi x=>q i (rk.2 x)
def At(x:Int)(n:Nat):Bool:=bif T (x>=0)then T (x<(n:Int))else S
def Qr(t:al)(i:Nat):Bool:=!(cond (!az (Y t.2.1 i (Q zn)).1) O (cond (T ((Y t.2.1 i (Q zn)).2.1<1)) O (cond (T ((Y t.2.1 i (Q zn)).2.1>3)) O (zZ t (Y t.2.1 i (Q zn)).1!=(i:Int)))))
def zfw(t:al)(i:Nat):Bool:=At (Y t.t.1 i (Q zG)).1 (X t.2.1)&&az (Y t.t.1 i (Q zG)).2
def dM(t:al):J Q7:=!(cond (!az t.1) O (cond (T ((X t.2.1:Int)<1)) O (T ((X t.2.1:Int)>8))))&&((List.range (X t.2.1)).all (Qr t)&&((List.range (X t.r.1)).all (λi=>At (Y t.r.1 i (Q zk)) (X t.2.1))&&((List.range (X t.t.1)).all (zfw t)&&(At t.q.1 (X t.2.1)&&((Y t.2.1 (Z t.q.1) (Q zn)).q&&(jC t.u t.2.1==0))))))
theorem zbQ{t:al}(y:X t.r.1<=aD)(z:X t.t.1<=aD):zop t=M (dM t,()):=by
 unfold dM;by_cases x:(cond (!az t.1) O (cond (T ((X t.2.1:Int)<1)) O (T ((X t.2.1:Int)>8))))=O
 .rw[x];refine zQ (r:=(.kb S,[])) ?_ rfl;simp only[NY,Q8];exact zf x
 have A:X t.2.1<=8:=by
  cases p:az t.1
  .rw[p]at x;simp at x
  .rw[p]at x;simp at x;omega
 have e:(NY t).val=M (.inl (.h4 t.2.1 (X t.2.1:Int) ((0:Nat):Int) (t,()))):=by
  simp only[NY,Q8];exact zh x
 rw[iW]at x;rw[x];have B:aD=9223372036854775807:=rfl
 rcases Y7 (t:=qN) (R:=(.kb S,[])) (N:=X t.2.1) (st:=λi=>.h4 t.2.1 (X t.2.1:Int) (i:Int) (t,())) (b:=Qr t) (λi h=>by
  simp only[qN,Q8,zN h,zx h,zj,aH,zo,bh,zu i (show i<aD by omega)];unfold Qr;split
  next c=>rw[c];rfl
  next c=>rw[iW]at c;rw[c];rfl)with⟨j,m⟩|⟨j,m⟩
 rotate_left
 .rw[j];exact zz e m W rfl
 have g:=m.trans (zH.of (s':=.h11 t.r.1 (X t.r.1:Int) ((0:Nat):Int) (t,())) (by
  simp only[qN,Q8,zK,zD,zm];rfl))
 rw[j]
 rcases Y7 (t:=qN) (R:=(.kb S,[])) (N:=X t.r.1) (st:=λi=>.h11 t.r.1 (X t.r.1:Int) (i:Int) (t,())) (b:=λi=>At (Y t.r.1 i (Q zk)) (X t.2.1)) (λi h=>by
  simp only[qN,Q8,zN h,zx h,zj,aH,zu i (show i<aD by omega)];unfold At;split
  next c=>rw[uB]at c;rw[c];rfl
  next c=>rw[iW,Bool.not_eq_false']at c;rw[c];rfl)with⟨k,n⟩|⟨k,n⟩
 rotate_left
 .rw[k];exact zz e (g.ends n) W rfl
 have a:=(g.trans n).trans (zH.of (s':=.h17 t.t.1 (X t.t.1:Int) ((0:Nat):Int) (t,())) (by
  simp only[qN,Q8,zK,zD,zm];rfl))
 rw[k]
 rcases Y7 (t:=qN) (R:=(.kb S,[])) (N:=X t.t.1) (st:=λi=>.h17 t.t.1 (X t.t.1:Int) (i:Int) (t,())) (b:=zfw t) (λi h=>by
  simp only[qN,Q8,zN h,zx h,zj,aH,zu i (show i<aD by omega)];unfold zfw At;split
  next c=>rw[uB]at c;rw[c];rfl
  next c=>rw[iW,Bool.not_eq_false']at c;rw[c];cases az (Y t.t.1 i (Q zG)).2<;>rfl)with⟨l,o⟩|⟨l,o⟩
 rotate_left
 .rw[l];exact zz e (a.ends o) W rfl
 rw[l];have d:∃r,(qN (.h17 t.t.1 (Io t.t.1:Int) (Io t.t.1:Int) (t,()))).val=Q1 (.inr r)/\aZ r.2 [Q7] r.1=Q1 ((At t.q.1 (Io t.2.1)&&((getD t.2.1 (toNat t.q.1) (zi zn)).q&&(jC t.u t.2.1==0))),()):=by
  simp only[qN,Q8,zK,zo,zD,zm];unfold At;cases c:(cond (T (t.q.1>=0)) (T (t.q.1<(X t.2.1:Int))) S)
  .exact⟨_,rfl,rfl⟩
  .have h:zL t.q.1 (X t.2.1)=O:=by
    cases w:T (t.q.1>=0)<;>simp_all[zL]
   rw[h];cases(Y t.2.1 (Z t.q.1) (Q zn)).q
   .exact⟨_,rfl,rfl⟩
   .exact⟨_,rfl,rfl⟩
 have⟨r,s,v⟩:=d;exact zz e ((a.trans o).ends (zU.of s)) W v
theorem ok8:zY YE.P 47 Tryz.f47 1:=cK kw
def F8t:ag:=aU [ab] [Q7] λx=>(dM x.1,())
theorem zrA:FK 47 F8t:=aq ok8 λx C b=>Reach.lenA 0 3 zk x.1.r.1 rfl rfl λh=>Reach.lenA 0 4 zG x.1.t.1 rfl rfl λa=>
 LP (n0:=0) (t:=qN) (e:=zr8) (keep:=zm2) (gas:=400) (i:=NY x.1) Ie ok8 (λid _=>b id) kw (by intro s;cases s<;>kernel_rfl) (zbQ h a)
def zhI:=YE.add 47 F8t
theorem If:zw zhI:=Ie.add zrA
abbrev znn:=kS [(4,[1,2,19,20,21]),(10,[1,2,30,31])]
inductive Bj where
 |h4 (l1:LV) (l19:LV) (i20:Int) (i21:Int) (z0:zp wH)
 |h10 (l1:LV) (i30:Int) (i31:Int) (z0:zp wH)
abbrev zsl:Bj->Nat×St
 |.h4 l b i h z=>(4,⟨tm 79 [(1,N R l),(2,ptr 0 0),(19,N R b),(20,L i),(21,L h)],[Qa (bL [] wH z)]⟩)
 |.h10 l x a z=>(10,⟨tm 79 [(1,N R l),(2,ptr 0 0),(30,L x),(31,L a)],[Qa (bL [] wH z)]⟩)
def Zp(x:al)(h:J ze.sl):Tr (Bj⊕aw):=br (cond (!dM (x.1,x.2.1,x.q.1,x.r.1,x.t.1,zt x.u)) O ((X h:Int)!=(X x.2.1:Int))) (re (L 1) []) (Q9 (Bj.h4 h h (X h:Int) 0 (x,())))
def yk:Bj->Tr (Bj⊕aw)
 | .h4 l x a h z=>
  br (T (h<a))
  (K (zL h (X x)) (br (!be (x.getD h.toNat (Q R))) (re (L 1) []) (Q9 (Bj.h4 l x a (Γ Δ (h+1)) z))))
  (Q9 (Bj.h10 l (X l:Int) 0 z))
 | .h10 l b i z=>
  let c:=l.getD i.toNat (Q R)
  let e:=c.1==0
  let g:=zL i (X z.1.2.1)
  let j:=Y z.1.2.1 i.toNat (Q zn)
  let k:=c.1!=0
  let d:=lr (zt z.1.u) z.1.2.1 l
  br (T (i<b))
  (K (zL i (X l)&&bif e then g else O) (br (cond e j.q S) (re (L 8) []) (K (zL i (X l)&&bif k then zL i (X l)&&g else O) (br (cond k (c.1!=j.2.1) S) (re (L 5) []) (Q9 (Bj.h10 l b (Γ Δ (i+1)) z))))))
  (br (d.1==3&&(d.2.1==0&&(d.q==[]&&O))) (re (L 9) []) (re (L 0) []))
def UC(x:al)(h:J ze.sl):=ap [zk] yk 100000000 (Zp x h)
def zg7:=FT [ab,ze.sl] [zk] λx=>UC x.1 x.2.1
theorem SD:FK 48 zg7:=If.T1 (f:=Tryz.f48) (keep:=znn) (e:=zsl)
def ft(t:al)(row:LV):zr->Int->zy
 |[],_=>if((lr t.u t.2.1 row).1==3&&((lr t.u t.2.1 row).2.1==0&&((lr t.u t.2.1 row).q==[]&&O)))=O then 9 else 0
 |x::r,i=>if(cond (x.1==0) ((Y t.2.1 i.toNat (Q zn)).q) S)=O then 8 else if(cond (x.1!=0) (x.1!=(Y t.2.1 i.toNat (Q zn)).2.1) S)=O then 5 else ft t row r (i+1)
def ie(t:al)(row:LV):zr->Int->zy
 |[],_=>ft t row row 0
 |x::r,i=>if(!be x)=O then 1 else ie t row r (i+1)
def dj(t:al)(row:J ze.sl):zy:=if(cond (!dM t) O ((X row:Int)!=(X t.2.1:Int)))=O then 1 else ie t row row 0
theorem TF{b:al}(h:dM b=O):X b.2.1<=8:=by
 unfold dM at h;rw[aN]at h;have h:=h.1;cases x:az b.1
 .rw[x]at h;simp at h
 .rw[x]at h;simp at h;omega
theorem WV(t:al)(x:LV):UC t x=M (dj t x,()):=by
 unfold dj;by_cases h:(cond (!dM t) O ((X x:Int)!=(X t.2.1:Int)))=O
 .rw[zf h];refine zQ (r:=(L 1,[])) ?_ rfl;simp only[Zp,zo,bh,Q8];exact zf h
 rw[zh h];have d:dM t=O/\X x=X t.2.1:=by
  cases d:dM t
  .rw[d]at h;simp at h
  .rw[d]at h;simp at h;exact⟨rfl,W⟩
 have p:=TF d.1;have g:∀(m i:Nat),X x-i=m->i<=X x->zU yk (m+1) (.h10 x (X x) i (t,())) (L (ft t x (x.drop i) i),[]):=by
  intro m
  induction m with
  | zero=>
   intro i k l;obtain rfl:i=X x:=by omega
   rw[kD,ft];refine zU.of ?_;simp only[yk,Q8,zK,zo,zD,zm];split<;>rfl
  | succ m n=>
   intro i k l;have a:i<X x:=by omega
   have j:Y x i (Q R)=x[i]:=dq _ _ a;rw[il a,ft];have b:(yk (.h10 x (X x) i (t,()))).val=if(cond (x[i].1==0) ((Y t.2.1 i (Q zn)).q) S)=O then M (.inr (L 8,[]))else if(cond (x[i].1!=0) (x[i].1!=(Y t.2.1 i (Q zn)).2.1) S)=O then M (.inr (L 5,[]))else M (.inl (.h10 x (X x) ((i+1:Nat):Int) (t,()))):=by
    simp only[yk,Q8,zN a,zx a,zx (show i<X t.2.1 by omega),aH,j,eY,Bool.cond_self,zj,zu i (show i<aD by unfold aD;omega)]
   simp only[aH];split
   next c=>exact(zU.of (by rw[b,zf c])).mono W
   .rename_i c;split
    next e=>exact(zU.of (by rw[b,zh c,zf e])).mono W
    next e=>exact(zH.of (by rw[b,zh c,zh e])).ends (n (i+1) W W)
 have o:∀(m i:Nat),X x-i=m->i<=X x->zU yk (m+X x+2) (.h4 x x (X x) i (t,())) (L (ie t x (x.drop i) i),[]):=by
  intro m
  induction m with
  | zero=>
   intro i k l;obtain rfl:i=X x:=by omega
   rw[kD,ie];refine((zH.of (s':=.h10 x (X x) ((0:Nat):Int) (t,())) ?_).ends (g (X x) 0 W W)).mono W;simp only[yk,Q8,zK,zD,zm];rfl
  | succ m n=>
   intro i k l;have a:i<X x:=by omega
   have j:Y x i (Q R)=x[i]:=dq _ _ a;rw[il a,ie];have b:(yk (.h4 x x (X x) i (t,()))).val=if(!be x[i])=O then M (.inr (L 1,[]))else M (.inl (.h4 x x (X x) ((i+1:Nat):Int) (t,()))):=by
    simp only[yk,Q8,zN a,zx a,aH,j,zj,zu i (show i<aD by unfold aD;omega)]
   split
   next c=>exact(zU.of (by rw[b,zf c])).mono W
   next c=>exact((zH.of (by rw[b,zh c])).ends (n (i+1) W W)).mono W
 refine zz (s:=.h4 x x (X x) ((0:Nat):Int) (t,())) ?_ (o (X x) 0 W W) W rfl;simp only[Zp,zo,bh,Q8];exact zh h
def zhJ:=zhI.add 48 zg7
theorem VI:zw zhJ:=If.add SD
def zoO:ag:=aU [ab,ze.sl] [zk] λx=>(dj x.1 x.2.1,())
theorem zjw:FK 48 zoO:=iV SD λx=>WV x.1 x.2.1
def Ei:=zhJ.add 48 zoO
theorem VJ:zw Ei:=VI.add zjw
open Go.RowKit Go.Lib in
theorem zkM:FK 268 (ac [.str,.str] [.bool] (λx=>X x.2.1==1) λx=>(T (0<=Lib.indexByte x.1 (x.2.1.headD 0)),())):=by
 refine fV (E:=Ei) ⟨Tryz.f268,kw,kw,kw⟩ λx y p h=>?_
 unfold gp at h;split at h
 .simp only[Q8]at h;split at h
  .rename_i g;simp only[bG]at h;subst h;have⟨s,d,u⟩:=x;have g:(X d==1)=O:=g
   match d,g with
   | [c],_=>
    intro C w U B v _ b l a i m;have n:=b.len
    match v,n,b with
    | [q,t],_,b=>
     have j:=b.rv 0 (.str s) q rfl rfl;have k:=b.rv 1 (.str [c]) t rfl rfl;cases j with
     |str _ z=>
     cases k with
     |str _ o=>
     refine(Tryz.strings_Contains_one ⟨s.toArray⟩ c w).mono ?_;rintro e A ⟨rfl,rfl⟩;exact fI l a i m (Below.refl _ _) (.bool _)
  .cases h
 .simp at h
def F63:ag:=ac [.str,.str] [.bool] (λx=>X x.2.1==1) λx=>(T (0<=Lib.indexByte x.1 (x.2.1.headD 0)),())
theorem zre:FK 268 F63:=zkM
def F89:ag:=ac [.str] [.str] (λx=>T (X x.1<=140737488355328)&&x.1.all λb=>T (b.toNat<128)) λx=>(Lib.toUpperA x.1,())
open Go.RowKit Go.Lib in
theorem zry:FK 291 F89:=by
 refine fV (E:=Ei) ⟨Tryz.f291,kw,kw,kw⟩ λx B z h=>?_
 unfold gp at h;split at h
 .simp only[Q8]at h;split at h
  .rename_i a;simp only[bG]at h;subst h;have⟨s,u⟩:=x;have a:(T (X s<=140737488355328)&&s.all λb=>T (b.toNat<128))=O:=a;simp only[aN,aY]at a;have⟨i,a⟩:=a;intro C w U F v _ d m c k n;have q:=d.len
   match v,q,d with
   | [A],_,d=>
    have l:=d.rv 0 (.str s) A rfl rfl;cases l with
    |str _ y=>
    refine(Tryz.strings_ToUpper_ascii ⟨s.toArray⟩ w (by simpa[ByteArray.size]using i) (λj b p=>?_)).mono ?_
    .have t:b∈s:=gg (by simpa using p);simp only[eu,aY]at a;exact a b t
    .rintro e D ⟨rfl,o⟩;have g:=fI (r:=.str (Lib.toUpperA s)) m c k n o (.str _ (by simpa[Lib.toUpperA]using y));exact g
  .cases h
 .simp at h
def pF:Nat->Nat->zJ
 |0,_=>[]
 |f+1,n=>if n<10 then[UInt8.ofNat (48+n)]else pF f (n/10)++[UInt8.ofNat (48+n%10)]
def uK(n:Int):zJ:=if n<0 then 45::pF 20 n.natAbs else pF 20 n.natAbs
theorem Kg:∀(f n:Nat),n<10^f->0<f->pF f n=Lib.decDigits n
 |0,_,_,h=>by omega
 | f+1,n,h,_=>by
  rw[pF,Lib.decDigits];split
  .rfl
  .rename_i a;have x:0<f:=by
    cases f with
    |zero=>simp at h;omega
    |succ f=>omega
   rw[Kg f (n/10) (by rw[pt]at h;omega) x]
theorem D1:∀(f n:Nat),(pF f n).length<=f
 |0,_=>by simp[pF]
 | f+1,n=>by
  rw[pF];split
  .simp
  .have:=D1 f (n/10);simp;omega
theorem I1(n:Int):(uK n).length<=21:=by unfold uK;have:=D1 20 n.natAbs;split<;>simp<;>omega
theorem ZC(n:Int)(h:dv .i64 n):Lib.itoa n=uK n:=by
 have x:-9223372036854775808<=n:=h.1;have a:n<=9223372036854775807:=h.2;unfold Lib.itoa uK;split
 .rw[Kg 20 _ W W]
 .rw[Kg 20 _ W W];congr 1;omega
def zoX:ag:=ac [zk,zk] [.str] (λx=>x.2.1==10) λx=>(uK x.1,())
open Go.RowKit Go.Lib in
theorem zjF:FK 333 zoX:=by
 refine fV (E:=Ei) ⟨Tryz.f333,kw,kw,kw⟩ λx h0 F a=>?_
 unfold gp at a;split at a
 .simp only[Q8]at a;split at a
  .rename_i i;simp only[bG]at a;subst a;have⟨n,b,u⟩:=x;have i:(b==10)=O:=i;simp only[bW]at i;subst i;intro C w U ρ v _ d t c m o;have B:=d.len
   match v,B,d with
   | [G,H],_,d=>
    have p:=d.rv 0 (L n) G rfl rfl;have q:=d.rv 1 (L 10) H rfl rfl;cases p with
    |int _ _ l=>
    cases q;have s:Rv w U (λ_=>Q2) (.tab .u64 nT) (.pointer (Q1 ⟨5,0,Q2⟩)):=o.gl 5;have g:Lib.TabIs Tryz.prog w "internal/strconv.uint64pow10" .u64 Lib.pow10Tab:=by
     cases s with
     |tab _ _ _ h P y hU=>
     have z:Tryz.prog.globalNamed "internal/strconv.uint64pow10"=Q1 5:=by kernel_rfl
     have D:Lib.pow10Tab=nT:=by decide+kernel
     unfold Lib.TabIs World.var?;rw[z,D];simp only[Option.bind_some,y]
    refine(Tryz.strconv_FormatInt_10 n l.1 l.2 w g).mono ?_;rintro e w' ⟨rfl,k,os,rfl⟩;rw[ZC n l];exact fI (r:=.str (uK n)) t c m o ⟨rfl,rfl,rfl,by show w.heap.size<=(w.heap++os).size;simp,λj A=>by show(w.heap++os)[j]?=w.heap[j]?;rw[Array.getElem?_append_left A]⟩ (.str _ (by have:=I1 n;unfold aD;omega))
  .cases a
 .simp at a
theorem xR(o n:zJ):∀(k:Nat)(s:zJ),(Lib.replaceK o n k s).length<=X s+k*X n
 |0,s=>by simp[Lib.replaceK]
 | k+1,s=>by
  rw[Lib.replaceK];split
  .omega
  .have:=xR o n k (s.drop ((Lib.index s o).toNat+X o));simp only[jK,oy,List.length_drop]at this|-;rw[jP];omega
theorem mK(s o n:zJ):(Lib.replaceAll s o n).length<=X s+(X s+1)*X n:=by
 unfold Lib.replaceAll Lib.replace;split
 .omega
 .refine bc (xR o n _ s) ?_;have h:=Lib.count_le s o;have:Lib.replaceNum s o (-1)=Lib.count s o:=by unfold Lib.replaceNum;rw[zf (.inl W)]
  rw[this];have:=gD (X n) h;omega
def xQ(s o n:zJ):Bool:=T (X s<=4000000000)&&(T (1<=X o)&&T (X n<=1000))
def zoY:ag:=ac [.str,.str,.str] [.str] (λx=>xQ x.1 x.2.1 x.q.1) λx=>(Lib.replaceAll x.1 x.2.1 x.q.1,())
open Go.RowKit Go.Lib in
theorem zjG:FK 334 zoY:=by
 refine fV (E:=Ei) ⟨Tryz.f334,kw,kw,kw⟩ λx h0 h9 a=>?_
 unfold gp at a;split at a
 .simp only[Q8]at a;split at a
  .rename_i d;simp only[bG]at a;subst a;have⟨s,o,n,u⟩:=x;have d:xQ s o n=O:=d;unfold xQ at d;simp only[aN,aY]at d;have⟨h4,g,i⟩:=d;intro C w U ρ v _ b H j y z;have hl:=b.len
   match v,hl,b with
   | [v1,v2,v3],_,b=>
    have D:=b.rv 0 (.str s) v1 rfl rfl;have F:=b.rv 1 (.str o) v2 rfl rfl;have G:=b.rv 2 (.str n) v3 rfl rfl;cases D with
    |str _ h6=>
    cases F with
    |str _ h7=>
    cases G with
    |str _ h8=>
    have l:Rv w U (λ_=>Q2) .gint (.pointer (M ⟨0,0,Q2⟩)):=z.gl 0;have p:∃m:Int,w.cell? ⟨0,0,Q2⟩=M (.int .i64 m):=by
     cases l with
     |gint m _ h fr _ P _=>exact⟨m,by simp[World.cell?,P]⟩
    have⟨m,hm⟩:=p;have h5:=Lib.countB_le (⟨o.toArray⟩:ByteArray) (by simpa[ByteArray.size]using g) (X s) (⟨s.toArray⟩:ByteArray) (by simp[ByteArray.size]);have k:(⟨s.toArray⟩:ByteArray).size=X s:=by simp[ByteArray.size]
    have t:(⟨n.toArray⟩:ByteArray).size=X n:=by simp[ByteArray.size]
    have B:Lib.countB (⟨s.toArray⟩:ByteArray) ⟨o.toArray⟩*X n<=4000000000*1000:=HX W i;refine(Tryz.strings_ReplaceAll ⟨s.toArray⟩ ⟨o.toArray⟩ ⟨n.toArray⟩ m w (by rw[k];omega) hm (by simpa[ByteArray.size]using g) (by rw[k,t];omega)).mono ?_;rintro e w' ⟨rfl,c⟩;refine fI (r:=.str (Lib.replaceAll s o n)) H j y z c (.str _ ?_);have A:=mK s o n;have q:(X s+1)*X n<=4000000001*1000:=HX W i;unfold aD;omega
  .cases a
 .simp at a
def zoW:ag:=ac [.sl .str,.str] [.str] (λx=>T (X x.1<=140737488355328)&&T ((Lib.join x.1 x.2.1).length<=140737488355328)) λx=>(Lib.join x.1 x.2.1,())
open Go.RowKit Go.Lib in
theorem zjE:FK 332 zoW:=by
 refine fV (E:=Ei) ⟨Tryz.f332,kw,kw,kw⟩ λx h0 h7 d=>?_
 unfold gp at d;split at d
 .simp only[Q8]at d;split at d
  .rename_i k;simp only[bG]at d;subst d;have⟨l,h,u⟩:=x;have k:(T (X l<=140737488355328)&&T ((Lib.join l h).length<=140737488355328))=O:=k;simp only[aN,aY]at k;have⟨t,k⟩:=k;have h5:aD=9223372036854775807:=rfl;intro C w U ρ B _ p hH i A hW;have hl:=p.len
   match B,hl,p with
   | [v1,v2],_,p=>
    have G:=p.rv 0 (.sl .str l) v1 rfl rfl;have h2:=p.rv 1 (.str h) v2 rfl rfl;cases h2 with
    |str _ h6=>
    generalize y:l=l0 at G k t p;cases G with
    | sl0 _ a c=>
     subst y;refine(Tryz.strings_Join_none a c ⟨h.toArray⟩ w).mono ?_;rintro e w' ⟨rfl,rfl⟩;exact fI (r:=.str []) hH i A hW (Below.refl _ _) (.str _ sw)
    | sl _ _ b o c v D hm hb hU m F=>
     subst y;have d:∀(j:Nat) x,(l.map λs=>(⟨s.toArray⟩:ByteArray))[j]?=M x->w.cell? ⟨b,o+j,Q2⟩=M (.string x):=by
      intro j x n;simp only[dN,dW]at n;obtain⟨s,hs,rfl⟩:=n;obtain⟨z,rfl⟩:=dF.1 hs;have H:=m j 0 z (by simp[Sh.size]);have P:=F j z 0 (.str l[j]) rfl;simp only[Sh.size,Nat.mul_one,ve]at H;rw[H];generalize v j 0=vv at P;cases P;rfl
     have g:(l.map λs=>(⟨s.toArray⟩:ByteArray)).map (·.data.toList)=l:=by
      simp[Bn]
     have n:=Tryz.strings_Join b o c (l.map λs=>(⟨s.toArray⟩:ByteArray)) ⟨h.toArray⟩ w d hb (by simpa using t) (by simpa using D) (by rw[g];exact k);rw[g]at n;simp only[dc]at n;refine n.mono ?_;rintro e w' ⟨rfl,q⟩;exact fI (r:=.str (Lib.join l h)) hH i A hW q (.str _ W)
  .cases d
 .simp at d
def uE:=Ei.addL [(268,F63),(291,F89),(333,zoX),(334,zoY),(332,zoW)]
theorem jV:zw uE:=VJ.addL<|fc zre<|fc zry<|fc zjF<|fc zjG<|fc zjE jg
theorem Reach.promNil{fn:FuncId}{s:St}(e:Sh)(H:∀id,C.ρ0 id=Q2)(h:Reach E C fn t s (λr h=>(r,h)=(.nils,[]))):Reach E C fn t s (λr h=>(r,h)=(.vec 0,[.vec e []])):=by
 intro b z a w U ρ F G hc P;have⟨A,y,B,⟨v,r,h',p,ρ',he,hq,n,hH,q,h6,k⟩,l,hf,hl⟩:=h b z a w U ρ F G hc P;cases hq;cases n with
 |nils i=>
 have c:∀id o b,o=(AO.vec e []:AO)\/o=AO.dead->¬an (λid=>if id=0 then M (.slice i 0 0)else Q2) id o b:=by
  rintro id o b ho ⟨h3,x,h4,h5⟩;rcases ho with rfl|rfl
  .simp only at h4;split at h4
   .cases h4;cases i<;>simp[cd]at h5
   .cases h4
  .simp[AO.owns]at h3
 have g:∀id,(([AO.vec e []]:List AO).getD id .dead)=(ite (id=0) (AO.vec e []) AO.dead):=by
  intro id;cases id<;>simp
 refine⟨A,y,B,⟨_,_,_,p,λid=>if id=0 then M (.slice i 0 0)else Q2,he,rfl,.vec 0 _ sw (by simp[Value.oneCell']),⟨λid=>?_,λj h7 b o=>?_,λid b o=>?_⟩,λid m=>?_,λid v u=>?_,k⟩,l,hf,hl⟩
 .show bv y p _ id (([AO.vec e []]:List AO).getD id .dead);rw[g];split
  next D=>subst D;exact⟨i,0,sw,sw,.inl ⟨rfl,rfl⟩⟩
  .trivial
 .exfalso;have d:an (λid=>if id=0 then M (.slice i 0 0)else Q2) j (([AO.vec e []]:List AO).getD j .dead) b:=o;rw[g]at d;split at d
  .exact c _ _ _ (.inl rfl) d
  .exact c _ _ _ (.inr rfl) d
 .exfalso;have d:an (λid=>if id=0 then M (.slice i 0 0)else Q2) id (([AO.vec e []]:List AO).getD id .dead) b:=o;rw[g]at d;split at d
  .exact c _ _ _ (.inl rfl) d
  .exact c _ _ _ (.inr rfl) d
 .simp at m;simp;omega
 .rw[H id]at u;cases u
def bS:Tr zR->List Item×List Item×St
 |.ok (.fork _ k h s)=>(k,h,s)
 |_=>([],[],⟨[],[]⟩)
abbrev MA:Nat->aX:=λ_=>{ }
abbrev Nc(l:List zg):Tr zR:=run uE 0 MA (Func.results Tryz.f204).toList 300 (bq Tryz.f204) (bg (Func.ntmps Tryz.f204) [.sl .expr l] [])
theorem ze8:zY uE.P 204 Tryz.f204 1:=cK kw
theorem zxH(l:List zg):Nc l=.ok (.fork l.isEmpty (bS (Nc l)).1 (bS (Nc l)).2.1 (bS (Nc l)).q):=kw
theorem zvk(l:List zg):run uE 0 MA (Func.results Tryz.f204).toList 300 (bS (Nc l)).1 (bS (Nc l)).q=.ok (.ret .nils []):=kw
theorem zvl(l:List zg):run uE 0 MA (Func.results Tryz.f204).toList 300 (bS (Nc l)).2.1 (bS (Nc l)).q=.chk (T (X l<=1073741824)) (.ok (.ret (.vec 0) [.vec .expr l])):=kw
def G53:fD [M (.sl .expr)]:=λx h=>match h with
 |[]=>.chk (T (X x.1<=1073741824)) (.ok (.vec 0,[.vec .expr x.1]))
 |_=>.err
def F53:ag:=bf [M (.sl .expr)] G53
theorem zq5:FK 204 F53:=by
 refine dz ze8 λx j i a C b=>?_
 unfold G53 at a;split at a
 .simp only[Q8]at a;split at a
  .rename_i d;simp only[bG]at a;subst a;have⟨l,u⟩:=x;refine zI (n0:=0) jV ze8 b (zxH l) ?_;refine⟨λc=>?_,?_⟩
   .have e:l=[]:=List.isEmpty_iff.1 c;refine Reach.weaken (Q:=λr h=>(r,h)=(.vec 0,[.vec .expr []])) (Reach.promNil .expr (λid=>b id sw) (zI (n0:=0) jV ze8 b (zvk l) rfl)) ?_;intro r h g;cases g;refine⟨_,?_,λ_ _ _ _ h=>h⟩;show(AV.vec 0,[AO.vec Q5 []])=(AV.vec 0,[AO.vec Q5 l]);rw[e]
   .exact zI (n0:=0) jV ze8 b (zvl l) (fW d rfl)
  .cases a
 .simp at a
abbrev Nb(l:aT):Tr zR:=run uE 0 MA (Func.results Tryz.f156).toList 300 (bq Tryz.f156) (bg (Func.ntmps Tryz.f156) [.sl zn l] [])
theorem ze6:zY uE.P 156 Tryz.f156 1:=cK kw
theorem zxp(l:aT):Nb l=.ok (.fork l.isEmpty (bS (Nb l)).1 (bS (Nb l)).2.1 (bS (Nb l)).q):=kw
theorem zvh(l:aT):run uE 0 MA (Func.results Tryz.f156).toList 300 (bS (Nb l)).1 (bS (Nb l)).q=.ok (.ret .nils []):=kw
theorem zvi(l:aT):run uE 0 MA (Func.results Tryz.f156).toList 300 (bS (Nb l)).2.1 (bS (Nb l)).q=.chk (T (X l<=1073741824)) (.ok (.ret (.vec 0) [.vec zn l])):=kw
def G32:fD [M (.sl zn)]:=λx h=>match h with
 |[]=>.chk (T (X x.1<=1073741824)) (.ok (.vec 0,[.vec zn x.1]))
 |_=>.err
def F32:ag:=bf [M (.sl zn)] G32
theorem zqL:FK 156 F32:=by
 refine dz ze6 λx j i a C b=>?_
 unfold G32 at a;split at a
 .simp only[Q8]at a;split at a
  .rename_i d;simp only[bG]at a;subst a;have⟨l,u⟩:=x;refine zI (n0:=0) jV ze6 b (zxp l) ?_;refine⟨λc=>?_,?_⟩
   .have e:l=[]:=List.isEmpty_iff.1 c;refine Reach.weaken (Q:=λr h=>(r,h)=(.vec 0,[.vec zn []])) (Reach.promNil zn (λid=>b id sw) (zI (n0:=0) jV ze6 b (zvh l) rfl)) ?_;intro r h g;cases g;refine⟨_,?_,λ_ _ _ _ h=>h⟩;show(AV.vec 0,[AO.vec zn []])=(AV.vec 0,[AO.vec zn l]);rw[e]
   .exact zI (n0:=0) jV ze6 b (zvi l) (fW d rfl)
  .cases a
 .simp at a
def zl7:=uE.addL [(204,F53),(156,F32)]
theorem NE:zw zl7:=jV.addL<|fc zq5<|fc zqL jg
def Xh(c:zg->Bool):ag:=ac [.expr] [.expr] (λx=>c x.1) λx=>(x.1,())
def Vz(c:zg->Bool):cu:=zl7.add 146 (Xh c)
variable {x:zg->Bool}
theorem D6(h:FK 146 (Xh x)):zw (Vz x):=NE.add h
abbrev ztE:Nat->aX:=λj=>if j=3 then{slots:=[1,2,10,11]}else{ }
abbrev Ut(i h:Int)(j:zJ)(x a:Int)(b c:zJ)(l:List (J Q5)):St:={
 tmps:=
  (tm 26 [(1,ptr 0 0),(2,ptr 1 0),(10,L i),(11,L h)]),
 heap:=
  [Qa [I j,L x,L a,I b,I c,AV.vec 2],
   Qa [I [],L 0,L 0,I [],I [],nils],AO.vec Q5 l]}
theorem RA(c:zg->Bool):zY (Vz c).P 146 Tryz.f146 1:=cK kw
theorem zxq(c:zg->Bool)(o:zJ)(v:V)(s:zJ)(l:List zg):rn (Vz c) 0 ztE Tryz.f146 [zW Q5 (zg.mk o v s l)] []=
 K (T (X l<=1073741824)) (Tr.ok (zR.head 3 (am Tryz.f146 3) (Ut (X l:Int) 0 o v.1 v.2.1 v.2.2 s l))):=kw
theorem zav(c:zg->Bool)(h i:Int)(j:zJ)(x a:Int)(b d:zJ)(l:List (Sem Sh.expr)):rh (Vz c) 0 ztE Tryz.f146 3 (Ut h i j x a b d l)=
 br (T (i<h))
 (chk (zL i (Io l))
  (chk (decide (i.toNat<Io l))
   (chk (c (zt (l.getD i.toNat (zi Sh.expr))))
    (chk (zL i (Io l))
     (chk (decide (i.toNat<Io l))
      (Tr.ok
       (zR.head 3 (am Tryz.f146 3)
        (Ut h (Γ Δ (i+1)) j x a b d
         (l.set i.toNat
          (zt (l.getD i.toNat (Q Q5))))))))))))
 (Tr.ok
  (zR.ret (agg [I j,L x,L a,I b,I d,AV.vec 0]) [AO.vec Q5 l])):=kw
theorem zwh(d:FK 146 (Xh x))(c:∀id,C.ρ0 id=Q2)(o:zJ)(v:V)(s:zJ)(l:List zg)(t:X l<=1073741824)(b:l.all x=O):
  ∀(k i:Nat),X l-i=k->i<=X l->Reach (Vz x) C 146 (am Tryz.f146 3) (Ut (X l) i o v.1 v.2.1 v.q s l) (λr h=>aZ h [.expr] r=M (zg.mk o v s l,())):=by
 intro k
 induction k with
 | zero=>
  intro i p n;obtain rfl:i=X l:=by omega
  refine zI (n0:=0) (D6 d) (RA x) (λid _=>c id) (zav x _ _ _ _ _ _ _ _) ?_;simp only[zK,Tr.val_brF];rfl
 | succ k e=>
  intro i p n;have a:i<X l:=by omega
  refine zI (n0:=0) (D6 d) (RA x) (λid _=>c id) (zav x _ _ _ _ _ _ _ _) ?_;have g:x l[i]=O:=eu.1 b _ (bC a);have j:T ((i:Int).toNat<X l)=O:=by simpa using a
  have m:l.set (i:Int).toNat l[i]=l:=by simp
  simp only[zN a,zx a,dq l _ a,zg.eta,Tr.val_brT,Tr.val_chkT,g,j,m,zu i um];exact e (i+1) W W
def ol:Nat->zg->Bool
 |0,_=>S
 |n+1,.mk _ _ _ l=>T (X l<=1073741824)&&l.all (ol n)
theorem PP:∀n,FK 146 (Xh (ol n))
 |0=>ff ⟨Tryz.f146,(RA (λ_=>S)).1,(RA (λ_=>S)).2.1,(RA (λ_=>S)).q.1⟩ (λ_=>rfl)
 | n+1=>by
  refine aV (E:=Vz (ol n)) (RA _) λx h C a=>?_
  have⟨⟨o,v,s,l⟩,u⟩:=x;have h:(T (X l<=1073741824)&&l.all (ol n))=O:=h;simp only[aN,aY]at h;refine zI (n0:=0) (D6 (PP n)) (RA _) (λid _=>a id) (zxq _ o v s l) ?_;refine fW (by simpa using h.1) ?_;exact zwh (PP n) a o v s l h.1 h.2 _ 0 rfl (aG _)
def F33:ag:=Xh (ol 16)
theorem zqM:FK 146 F33:=PP 16
def nj:=zl7.add 146 F33
theorem jW:zw nj:=NE.add zqM
abbrev jM:Sh:=.pr .str .str
abbrev jb:Sh:=.pr .str .expr
abbrev ay:Sh:=.pr .str (.pr .str (.pr .str (.pr (.sl .str) (.pr (.sl zn) (.pr .str (.pr (.sl .str) (.pr (.sl jM) (.pr .expr (.pr (.sl R) (.pr (.sl jb) (.pr .expr .str)))))))))))
abbrev zO:=J ay
def zeo(x:zO):zO:=(x.1,x.2.1,x.2.2.1,x.2.2.2.1,x.2.2.2.2.1,x.2.2.2.2.2.1,x.2.2.2.2.2.2.1,x.2.2.2.2.2.2.2.1,zt x.2.2.2.2.2.2.2.2.1,x.2.2.2.2.2.2.2.2.2.1,x.2.2.2.2.2.2.2.2.2.2.1,zt x.2.2.2.2.2.2.2.2.2.2.2.1,x.2.2.2.2.2.2.2.2.2.2.2.2)
theorem Th(x:zO):zeo x=x:=by unfold zeo;rw[zo,zo]
abbrev xE(e:zg):List AV:=[.str e.op,L e.v.1,L e.v.2.1,.str e.v.q,.str e.s,.sl Q5 e.l]
abbrev zE:List AV:=[.str [],L 0,L 0,.str [],.str [],.nils]
abbrev aS(o t x:zJ)(n h:AV)(k:zJ)(u a:AV)(c:List AV)(rw st:AV)(w:List AV)(b:zJ):AV:=.agg ([.str o,.str t,.str x,n,h,.str k,u,a]++c++[rw,st]++w++[.str b])
abbrev aR(x:zO)(r:zJ):AV:=aS x.1 x.2.1 [] .nils .nils [] .nils .nils zE .nils .nils zE r
abbrev aW(x:zO):AV:=aS x.1 x.2.1 [] .nils .nils [] .nils .nils zE .nils .nils (xE x.s.1) []
abbrev aM(x:zO)(n:AV)(k h:zJ):AV:=aS x.1 x.2.1 x.q.1 n .nils k .nils .nils (xE x.x.1) .nils .nils zE h
abbrev nS:AV:=aS [] [] [] .nils .nils [] .nils .nils zE .nils .nils zE []
abbrev ziR:Nat->aX:=λj=>if j=2 then{slots:=[0,2,4]}else{ }
abbrev Gn(s:TS)(i j:Int)(h:List UInt8):St:={tmps:=(tm 37 [(0,I s),(2,ptr 0 0),(4,L i)]),heap:=[Qa [L j,I h]]}
theorem zai:zY (nj).P 336 Tryz.f336 1:=cK kw
theorem zsw(x:TS):rn nj 0 ziR Tryz.f336 [zW Q6 x] []=Tr.ok (zR.head 2 (am Tryz.f336 2) (Gn x 1 0 [])):=kw
theorem zfb(s:TS)(i j:Int)(h:List UInt8):rh nj 0 ziR Tryz.f336 2 (Gn s i j h)=let a:=Γ Δ (i+1);let x:=(X s:Int);let b:=Qg (i.toNat-Z 1) (Qh (Z 1) s);br (T (i<x)) (K (zL i (X s)) (br ((↑(Y s i.toNat 0).toNat:Int)!=39) (Tr.ok (zR.head 2 (am Tryz.f336 2) (Gn s a j h))) (K (cond (T (Γ Δ (i+1)<x)) (zL a (X s)) O) (br (cond (T (Γ Δ (i+1)<x)) ((↑(Y s a.toNat 0).toNat:Int)==39) S) (Tr.ok (zR.head 2 (am Tryz.f336 2) (Gn s (Γ Δ (Γ Δ (i+1)+1)) j h))) (K (T (0<=1)&&T (1<=i)&&T (i<=x)) (K (xQ b pz [39]) (Tr.ok (zR.ret (tup [agg [L 3,I (Lib.replaceAll b pz [39])],L a]) [])))))))) (Tr.ok (zR.ret (tup [agg [L 0,I []],L 0]) [])):=kw
def fR:Nat->(Sem Sh.str)->Int->Int->(List UInt8)->dB×zy
 |0,_,_,_,_=>default
 |n+1,s,i,j,h=>(if T (i<(X s:Int))=O then
 if((↑(Y s i.toNat 0).toNat:Int)!=39)=O then fR n s (Γ Δ (i+1)) j h
 else
  if
    (bif T (Γ Δ (i+1)<(X s:Int))then(↑(Y s (Γ Δ (i+1)).toNat 0).toNat:Int)==39
     else S)=
     O then
   fR n s (Γ Δ (Γ Δ (i+1)+1)) j h
  else((3,Lib.replaceAll (Qg (i.toNat-Z 1) (Qh (Z 1) s)) pz [39]),Γ Δ (i+1))
else((0,[]),0))
def ke:Nat->(Sem Sh.str)->Int->Int->(List UInt8)->Bool
 |0,_,_,_,_=>S
 |n+1,s,i,j,h=>(if T (i<(X s:Int))=O then
 if zL i (Io s)=true then
  if((↑(Y s i.toNat 0).toNat:Int)!=39)=O then ke n s (Γ Δ (i+1)) j h
  else
   if (cond (decide (Γ Δ (i+1) < (Io s:Int))) (zL (Γ Δ (i+1)) (Io s)) true)=true then
    if
      (bif T (Γ Δ (i+1)<(X s:Int))then(↑(Y s (Γ Δ (i+1)).toNat 0).toNat:Int)==39
       else S)=
       O then
     ke n s (Γ Δ (Γ Δ (i+1)+1)) j h
    else
     if(T (0<=1)&&T (1<=i)&&T (i<=(X s:Int)))=O then
      if xQ (Qg (i.toNat-Z 1) (Qh (Z 1) s)) pz [39]=O then O else S
     else S
   else S
 else S
else O)
theorem SR{C:eW}(c:∀id,C.ρ0 id=Q2):∀(n:Nat)(s:TS)(i:Int)(j:Int)(x:List UInt8),ke n s i j x=O->
  Reach (nj) C 336 (am Tryz.f336 2) (Gn s i j x) (λr h=>aZ h [lx,zk] r=M ((fR n s i j x).1,(fR n s i j x).2,()))
 |0,s,i,j,x,a=>by cases a
 | n+1,s,i,j,x,a=>by
  refine zI jW (zai) (λid _=>c id) (zfb _ _ _ _) ?_;rw[ke]at a;generalize b:fR (n+1) s i j x=y;rw[fR]at b
  skip
  repeat' (first|with_reducible refine obr b a (λ_ b a=>?_) (λ_ b a=>?_)|with_reducible refine Fq b (λ_ b=>?_) (λ_ b=>?_)|with_reducible refine KS a (λa=>?_)|with_reducible refine er ?_)
  all_goals first|(cases a;done)|(subst b;first|(change Reach _ _ _ _ _ _;refine SR c n _ _ _ _ ?_<;>exact a)|rfl)
def iT(x:TS):dB×zy:=(fR (X x+1) x 1 0 [])
def qk(x:TS):Bool:=(ke (X x+1) x 1 0 [])
def zo0:ag:=ac [Q6] [lx,zk] (λx=>qk x.1) λx=>((iT x.1).1,(iT x.1).2,())
theorem zjI:FK 336 zo0:=by
 refine aV (zai) λx h C b=>?_
 unfold qk at h;refine zI jW (zai) (λid _=>b id) (zsw x.1) ?_;generalize a:iT x.1=y;unfold iT at a
 try simp only[zg.eta,zo]
 repeat' (first|with_reducible refine obr a h (λ_ a h=>?_) (λ_ a h=>?_)|with_reducible refine Fq a (λ_ a=>?_) (λ_ a=>?_)|with_reducible refine KS h (λh=>?_)|with_reducible refine er ?_)
 all_goals first|(cases h;done)|(subst a;first|(change Reach _ _ _ _ _ _;refine SR b _ _ _ _ _ ?_<;>exact h)|rfl)
abbrev ztn:Nat->aX:=λ_=>{ }
theorem zi3:zY (nj).P 321 Tryz.f321 1:=cK kw
theorem zsu(x:J Q5):rn nj 0 ztn Tryz.f321 [zW Q5 x] []=Tr.ok (zR.ret (AV.bool (cond (zg.op x==[]) (cond ((zg.v x).1==0&&((zg.v x).2.1==0&&((zg.v x).2.2==[]&&O))) (cond (zg.s x==[]) ((↑(zg.l x).length:Int)==0) S) S) S)) []):=kw
def iX(x:J Q5):J Q7:=(cond (zg.op x==[]) (cond ((zg.v x).1==0&&((zg.v x).2.1==0&&((zg.v x).2.2==[]&&O))) (cond (zg.s x==[]) ((↑(zg.l x).length:Int)==0) S) S) S)
def zoQ:ag:=aU [Q5] [Q7] λx=>(iX x.1,())
theorem zjy:FK 321 zoQ:=by
 refine aq (zi3) λx C a=>?_
 refine zI jW (zi3) (λid _=>a id) (zsu x.1) ?_;generalize h:iX x.1=y;unfold iX at h
 try simp only[zg.eta,zo]
 exact Us h
abbrev zyp:Nat->aX:=λ_=>{ }
theorem zvc:zY (nj).P 290 Tryz.f290 1:=cK kw
theorem zxY(x:TS):rn nj 0 zyp Tryz.f290 [zW Q6 x] []=Tr.ok (zR.ret (I x) []):=kw
def nG(x:TS):J Q6:=(x)
def F88:ag:=aU [Q6] [Q6] λx=>(nG x.1,())
theorem zrx:FK 290 F88:=by
 refine aq (zvc) λx C a=>?_
 refine zI jW (zvc) (λid _=>a id) (zxY x.1) ?_;generalize h:nG x.1=y;unfold nG at h
 try simp only[zg.eta,zo]
 exact Us h
abbrev zym:Nat->aX:=λ_=>{ }
theorem zu9:zY (nj).P 282 Tryz.f282 1:=cK kw
theorem zxV(x:TS):rn nj 0 zym Tryz.f282 [zW Q6 x] []=Tr.ok (zR.ret (AV.bool (cond (eU x) (!kh x) S)) []):=kw
def dH(x:TS):J Q7:=(cond (eU x) (!kh x) S)
def F80:ag:=aU [Q6] [Q7] λx=>(dH x.1,())
theorem zrt:FK 282 F80:=by
 refine aq (zu9) λx C a=>?_
 refine zI jW (zu9) (λid _=>a id) (zxV x.1) ?_;generalize h:dH x.1=y;unfold dH at h
 try simp only[zg.eta,zo]
 exact Us h
abbrev ztQ:Nat->aX:=λ_=>{unroll:=O}
theorem zi7:zY (nj).P 225 Tryz.f225 1:=cK kw
theorem zsB(x:dB):rn nj 0 ztQ Tryz.f225 [zW lx x] []=let a:=(X x.2:Int);let h:=Tr.ok (zR.ret (kb S) []);br (x.1==3) (Tr.ok (zR.ret (AV.bool (be (2,0,x.2))) [])) (br (x.1==4) (K (cond (a==1) (X x.2==1) O) (Tr.ok (zR.ret (AV.bool (cond (a==1) (T (0<=Lib.indexByte zlR (List.headD x.2 0))) S)) []))) (br O (K O (br (1==x.1) (Tr.ok (zR.ret (AV.bool (cond (T (a>=1)) (cond (T (a<=16)) ((bH bm cw x.2:Int)==a) S) S)) [])) (br O (K O (br (2==x.1) (Tr.ok (zR.ret (AV.bool (cond (T (a>=1)) (cond (T (a<=19)) ((bH aC aC x.2:Int)==a) S) S)) [])) (br S Tr.err h))) h))) h)):=kw
def dJ(x:dB):J Q7:=(ite ((x.1==3)=O) (be (2,0,x.2)) (ite ((x.1==4)=O) (cond ((X x.2:Int)==1) (T (0<=Lib.indexByte zlR (List.headD x.2 0))) S) (ite (O=O) (ite ((1==x.1)=O) (cond (T ((X x.2:Int)>=1)) (cond (T ((X x.2:Int)<=16)) ((bH bm cw x.2:Int)==(X x.2:Int)) S) S) (ite (O=O) (ite ((2==x.1)=O) (cond (T ((X x.2:Int)>=1)) (cond (T ((X x.2:Int)<=19)) ((bH aC aC x.2:Int)==(X x.2:Int)) S) S) (ite (S=O) default S)) S)) S)))
def tZ(x:dB):Bool:=(ite ((x.1==3)=O) O (ite ((x.1==4)=O) (ite ((cond ((X x.2:Int)==1) (X x.2==1) O)=O) O S) (ite (O=O) (ite (O=O) (ite ((1==x.1)=O) O (ite (O=O) (ite (O=O) (ite ((2==x.1)=O) O (ite (S=O) S O)) S) O)) S) O)))
def zpN:ag:=ac [lx] [Q7] (λx=>tZ x.1) λx=>(dJ x.1,())
theorem zky:FK 225 zpN:=by
 refine aV (zi7) λx h C b=>?_
 unfold tZ at h;refine zI jW (zi7) (λid _=>b id) (zsB x.1) ?_;generalize a:dJ x.1=y;unfold dJ at a
 skip
 exact MB a h
def mr:=nj.addL [(336,zo0),(321,zoQ),(290,F88),(282,F80),(225,zpN)]
theorem iY:zw mr:=jW.addL<|fc zjI<|fc zjy<|fc zrx<|fc zrt<|fc zky jg
abbrev zyn:Nat->aX:=λ_=>{ }
theorem zva:zY (mr).P 287 Tryz.f287 1:=cK kw
theorem zxW(x:J Q5):rn mr 0 zyn Tryz.f287 [zW Q5 x] []=Tr.ok (zR.ret (AV.bool (cond (iX (zt x)) O (ea (zt x)))) []):=kw
def cZ(x:J Q5):J Q7:=(cond (iX x) O (ea x))
def F85:ag:=aU [Q5] [Q7] λx=>(cZ x.1,())
theorem zru:FK 287 F85:=by
 refine aq (zva) λx C a=>?_
 refine zI iY (zva) (λid _=>a id) (zxW x.1) ?_;generalize h:cZ x.1=y;unfold cZ at h
 try simp only[zg.eta]
 exact Us h
def zr0(x:cH):J Q7:=(cond (dH x.1) (cond (T (x.2.1>=1)) (T (x.2.1<=3)) S) S)
def zvw(x:J jM):J Q7:=(cond (dH x.1) (dH x.2) S)
abbrev zyr:Nat->aX:=λ_=>{ }
theorem zvd:zY (mr).P 294 Tryz.f294 1:=cK kw
theorem zxZ(x:zq):rn mr 0 zyr Tryz.f294 [zW R x] []=br (!be x) (Tr.ok (zR.ret (I []) [])) (br (x.1==1) (K (10==10) (Tr.ok (zR.ret (I (uK x.2.1)) []))) (br (x.1==2) (K (xQ x.2.2 [39] pz) (K (T ([39].length+(Lib.replaceAll x.2.2 [39] pz).length<=1099511627776)) (K (T (X ([39]++Lib.replaceAll x.2.2 [39] pz)+[39].length<=1099511627776)) (Tr.ok (zR.ret (I ([39]++Lib.replaceAll x.2.2 [39] pz++[39])) []))))) (br (x.1==3) (br (eT x==2) (Tr.ok (zR.ret (I Kc) [])) (Tr.ok (zR.ret (I Kb) []))) (Tr.ok (zR.ret (I He) []))))):=kw
def jd(x:zq):J Q6:=(ite ((!be x)=O) [] (ite ((x.1==1)=O) (uK x.2.1) (ite ((x.1==2)=O) ([39]++Lib.replaceAll x.2.2 [39] pz++[39]) (ite ((x.1==3)=O) (ite ((eT x==2)=O) Kc Kb) He))))
def Bb(x:zq):Bool:=(ite ((!be x)=O) O (ite ((x.1==1)=O) (ite ((10==10)=O) O S) (ite ((x.1==2)=O) (ite (xQ x.2.2 [39] pz=O) (ite (T ([39].length+(Lib.replaceAll x.2.2 [39] pz).length<=1099511627776)=O) (ite (T (X ([39]++Lib.replaceAll x.2.2 [39] pz)+[39].length<=1099511627776)=O) O S) S) S) O)))
def F92:ag:=ac [R] [Q6] (λx=>Bb x.1) λx=>(jd x.1,())
theorem zrC:FK 294 F92:=by
 refine aV (zvd) λx h C b=>?_
 unfold Bb at h;refine zI iY (zvd) (λid _=>b id) (zxZ x.1) ?_;generalize a:jd x.1=y;unfold jd at a
 try simp only[zg.eta,zo]
 exact MB a h
abbrev zyo:Nat->aX:=λ_=>{ }
theorem zvb:zY (mr).P 289 Tryz.f289 1:=cK kw
theorem zxX(x:zO):rn mr 0 zyo Tryz.f289 [zW ay x] []=K (T (X x.2.1+X x.2.2.1<=1099511627776)) (K (T (X (x.2.1++x.2.2.1)+X x.2.2.2.2.2.1<=1099511627776)) (K (T (X (x.2.1++x.2.2.1++x.2.2.2.2.2.1)+X x.2.2.2.2.2.2.2.2.2.2.2.2<=1099511627776)) (Tr.ok (zR.ret (AV.bool (cond (x.2.1++x.2.2.1++x.2.2.2.2.2.1++x.2.2.2.2.2.2.2.2.2.2.2.2==[]) (cond (Γ Δ (Γ Δ (Γ Δ (Γ Δ (Γ Δ ((X x.2.2.2.1:Int)+(X x.2.2.2.2.1:Int))+(X x.2.2.2.2.2.2.1:Int))+(X x.2.2.2.2.2.2.2.1:Int))+(X x.2.2.2.2.2.2.2.2.2.1:Int))+(X x.2.2.2.2.2.2.2.2.2.2.1:Int))==0) (cond (iX (zt x.2.2.2.2.2.2.2.2.1)) (iX (zt x.2.2.2.2.2.2.2.2.2.2.2.1)) S) S) S)) [])))):=kw
def iU(x:zO):J Q7:=(cond (x.2.1++x.2.2.1++x.2.2.2.2.2.1++x.2.2.2.2.2.2.2.2.2.2.2.2==[]) (cond (Γ Δ (Γ Δ (Γ Δ (Γ Δ (Γ Δ ((X x.2.2.2.1:Int)+(X x.2.2.2.2.1:Int))+(X x.2.2.2.2.2.2.1:Int))+(X x.2.2.2.2.2.2.2.1:Int))+(X x.2.2.2.2.2.2.2.2.2.1:Int))+(X x.2.2.2.2.2.2.2.2.2.2.1:Int))==0) (cond (iX x.2.2.2.2.2.2.2.2.1) (iX x.2.2.2.2.2.2.2.2.2.2.2.1) S) S) S)
def gu(x:zO):Bool:=(ite (T (X x.2.1+X x.2.2.1<=1099511627776)=O) (ite (T (X (x.2.1++x.2.2.1)+X x.2.2.2.2.2.1<=1099511627776)=O) (ite (T (X (x.2.1++x.2.2.1++x.2.2.2.2.2.1)+X x.2.2.2.2.2.2.2.2.2.2.2.2<=1099511627776)=O) O S) S) S)
def F87:ag:=ac [ay] [Q7] (λx=>gu x.1) λx=>(iU x.1,())
theorem zrw:FK 289 F87:=by
 refine aV (zvb) λx h C b=>?_
 unfold gu at h;refine zI iY (zvb) (λid _=>b id) (zxX x.1) ?_;generalize a:iU x.1=y;unfold iU at a
 try simp only[zg.eta]
 exact MB a h
abbrev zyu:Nat->aX:=λ_=>{unroll:=O}
theorem zvg:zY (mr).P 301 Tryz.f301 1:=cK kw
theorem zx3(x:TS):rn mr 0 zyu Tryz.f301 [zW Q6 x] []=let b:=(X x:Int);let c:=Qh (Z 0) x;let d:=K (zL 0 (X x)) (br ((↑(Y x (Z 0) 0).toNat:Int)==39) (K (qk x) (Tr.ok (zR.ret (tup [agg [L (iT x).1.1,I (iT x).1.2],L (iT x).2]) []))) (K (T (0<=0)&&T (0<=1)&&T (1<=b)) (Tr.ok (zR.ret (tup [agg [L 4,I (Qg (Z 1-Z 0) c)],L 1]) []))));let a:=(bH bm cw x:Int);let h:=(bH aC aC x:Int);br O (K O (br (T (a>0)) (K (T (0<=0)&&T (0<=a)&&T (a<=b)) (Tr.ok (zR.ret (tup [agg [L 1,I (Qg (a.toNat-Z 0) c)],L a]) []))) (br O (K O (br (T (h>0)) (K (T (0<=0)&&T (0<=h)&&T (h<=b)) (Tr.ok (zR.ret (tup [agg [L 2,I (Qg (h.toNat-Z 0) c)],L h]) []))) (br S Tr.err d))) d))) d:=kw
def ch(x:TS):dB×zy:=(ite (O=O) (ite (T ((bH bm cw x:Int)>0)=O) ((1,Qg ((bH bm cw x:Int).toNat-Z 0) (Qh (Z 0) x)),(bH bm cw x:Int)) (ite (O=O) (ite (T ((bH aC aC x:Int)>0)=O) ((2,Qg ((bH aC aC x:Int).toNat-Z 0) (Qh (Z 0) x)),(bH aC aC x:Int)) (ite (S=O) default (ite (((↑(Y x (Z 0) 0).toNat:Int)==39)=O) ((iT x).1,(iT x).2) ((4,Qg (Z 1-Z 0) (Qh (Z 0) x)),1)))) (ite (((↑(Y x (Z 0) 0).toNat:Int)==39)=O) ((iT x).1,(iT x).2) ((4,Qg (Z 1-Z 0) (Qh (Z 0) x)),1)))) (ite (((↑(Y x (Z 0) 0).toNat:Int)==39)=O) ((iT x).1,(iT x).2) ((4,Qg (Z 1-Z 0) (Qh (Z 0) x)),1)))
def lZ(x:TS):Bool:=(ite (O=O) (ite (O=O) (ite (T ((bH bm cw x:Int)>0)=O) (ite ((T (0<=0)&&T (0<=(bH bm cw x:Int))&&T ((bH bm cw x:Int)<=(X x:Int)))=O) O S) (ite (O=O) (ite (O=O) (ite (T ((bH aC aC x:Int)>0)=O) (ite ((T (0<=0)&&T (0<=(bH aC aC x:Int))&&T ((bH aC aC x:Int)<=(X x:Int)))=O) O S) (ite (S=O) S (ite (zL 0 (X x)=O) (ite (((↑(Y x (Z 0) 0).toNat:Int)==39)=O) (ite (qk x=O) O S) (ite ((T (0<=0)&&T (0<=1)&&T (1<=(X x:Int)))=O) O S)) S))) S) (ite (zL 0 (X x)=O) (ite (((↑(Y x (Z 0) 0).toNat:Int)==39)=O) (ite (qk x=O) O S) (ite ((T (0<=0)&&T (0<=1)&&T (1<=(X x:Int)))=O) O S)) S))) S) (ite (zL 0 (X x)=O) (ite (((↑(Y x (Z 0) 0).toNat:Int)==39)=O) (ite (qk x=O) O S) (ite ((T (0<=0)&&T (0<=1)&&T (1<=(X x:Int)))=O) O S)) S))
def F99:ag:=ac [Q6] [lx,zk] (λx=>lZ x.1) λx=>((ch x.1).1,(ch x.1).2,())
theorem zrG:FK 301 F99:=by
 refine aV (zvg) λx h C b=>?_
 unfold lZ at h;refine zI iY (zvg) (λid _=>b id) (zx3 x.1) ?_;generalize a:ch x.1=y;unfold ch at a
 skip
 exact MB a h
abbrev zuk:Nat->aX:=λj=>if j=3 then{slots:=[1,5,8,9,10],prom:=[(5,Q2,.str)]}else{ }
abbrev Pu(x:LS)(h i:Int)(l:LS):St:={tmps:=(tm 23 [(1,AV.clo (Fn.func 290) [] []),(5,AV.vec 0),(8,N Q6 x),(9,L h),(10,L i)]),heap:=[AO.vec Q6 l]}
theorem zfa:zY (mr).P 299 Tryz.f299 2:=cK kw
theorem zx1(x:J Sh.str.sl):rn mr 0 zuk Tryz.f299 [zW Sh.str.sl x,AV.clo (Fn.func 290) [] []] []=Tr.ok (zR.head 3 (am Tryz.f299 3) (Pu x (X x:Int) 0 [])):=kw
theorem zaz(h:LS)(x i:Int)(l:LS):rh mr 0 zuk Tryz.f299 3 (Pu h x i l)=br (T (i<x)) (K (zL i (X h)) (K (T (X l+[nG (h.getD i.toNat (Q Q6))].length<=1073741824)) (Tr.ok (zR.head 3 (am Tryz.f299 3) (Pu h x (Γ Δ (i+1)) (l++[nG (h.getD i.toNat (Q Q6))])))))) (K (T (X l<=140737488355328)&&T ((Lib.join l fP).length<=140737488355328)) (Tr.ok (zR.ret (I (Lib.join l fP)) []))):=kw
def eB:List (J Q6)->Int->List (J Q6)->J Q6
 |[],_,l=>(Lib.join l fP)
 |x::r,i,l=>(eB r (i+1) (l++[nG x]))
def eR:List (J Q6)->Int->List (J Q6)->Bool
 |[],_,l=>(ite ((T (X l<=140737488355328)&&T ((Lib.join l fP).length<=140737488355328))=O) O S)
 |x::r,i,l=>(ite (T (X l+[nG x].length<=1073741824)=O) (eR r (i+1) (l++[nG x])) S)
theorem zlD(j:∀id,C.ρ0 id=Q2)(a:LS)(o:X a<=aD):∀(m i:Nat)(l:LS),X a-i=m->i<=X a->eR (a.drop i) i l=O->
  Reach (mr) C 299 (am Tryz.f299 3) (Pu a (X a:Int) (i:Int) l) (λr h=>aZ h [Q6] r=M (eB (a.drop i) i l,())):=by
 intro m
 induction m with
 | zero=>
  intro i l n k c;obtain rfl:i=X a:=by omega
  rw[kD]at c|-;refine zI iY (zfa) (λid _=>j id) (zaz _ _ _ _) ?_;rw[eR]at c;generalize d:eB [] _ l=y;rw[eB]at d;simp only[zK,Tr.val_brF];exact MB d c
 | succ m g=>
  intro i l n k c;have x:i<X a:=by omega
  have g:=g (i+1);have b:((i:Int)+1)=((i+1:Nat):Int):=by omega
  have e:=zu i W;rw[il x]at c|-;refine zI iY (zfa) (λid _=>j id) (zaz _ _ _ _) ?_;rw[eR]at c;generalize d:eB (a[i]::a.drop (i+1)) (i:Int) l=y;rw[eB]at d;simp only[zN x,zx x,dq a _ x,e,Tr.val_brT,Tr.val_chkT];clear e
  try simp only[zx x]at d
  simp only[b]at d
  try simp only[zx x]at c
  try simp only[b]at c
  exact zfC d c g
theorem zdB(a:∀id,C.ρ0 id=Q2)(x l:LS)(b:eR x 0 l=O):
  Reach (mr) C 299 (am Tryz.f299 3) (Pu x (X x:Int) 0 l) (λr h=>aZ h [Q6] r=M (eB x 0 l,())):=
 Reach.len 8 (Q6) x rfl λc=>zlD a x c _ 0 l rfl (aG _) b
def iE(x:J Sh.str.sl):J Q6:=(eB x 0 [])
def pj(x:J Sh.str.sl):Bool:=(eR x 0 [])
def F97:ag:=zaN [Sh.str.sl] [Q6] [(290,(λx=>pj x.1),λx=>(iE x.1,()))]
theorem zrE:FK 299 F97:=by
 refine PQ (zfa) λj c g b x h C a=>?_
 simp only[fh,cO]at b;obtain⟨rfl,rfl,rfl⟩:=b
 replace h:pj x.1=O:=h
 unfold pj at h;refine zI iY (zfa) (λid _=>a id) (zx1 x.1) ?_;generalize d:iE x.1=y;unfold iE at d
 skip
 exact zfC d h (zdB a)
def S7:=mr.addL [(287,F85),(294,F92),(289,F87),(301,F99),(299,F97)]
theorem yY:zw S7:=iY.addL<|fc zru<|fc zrC<|fc zrw<|fc zrG<|fc zrE jg
def zoS:ag:=bf (List.replicate 2 Q2) (fj S7 Tryz.f323 (List.replicate 2 Q2))
theorem zjA:FK 323 zoS:=cm _ yY (cK kw)
def Yn(g:J Q5->J Q6)(c:J Q5->Bool):cu:=S7.add 355 (ac [Q5] [Q6] (λx=>c x.1) λx=>(g x.1,()))
theorem Vx{g:J Q5->J Q6}{c:J Q5->Bool}(h:FK 355 (ac [Q5] [Q6] (λx=>c x.1) λx=>(g x.1,()))):zw (Yn g c):=yY.add h
abbrev zng:Nat->aX:=λ_=>{ }
theorem Fs(g:J Q5->J Q6)(c:J Q5->Bool):zY (Yn g c).P 355 Tryz.f355 1:=cK kw
theorem zmf(g:J Q5->J Q6)(c:J Q5->Bool)(x:J Q5):rn (Yn g c) 0 zng Tryz.f355 [zW Q5 x] []=let i:=(zg.l x).getD (Z 0) (Q Q5);let a:=zt i;let j:=(zg.l x).getD (Z 1) (Q Q5);let h:=zt j;let e:=T ([40].length+X (g a)<=1099511627776);let d:=zL 0 (zg.l x).length;
 br (zg.op x==pC) (K (Bb (zg.v x)) (Tr.ok (zR.ret (I (jd (zg.v x))) []))) (br (zg.op x==fk) (Tr.ok (zR.ret (I (zg.s x)) [])) (br (zg.op x==oC) (K d (K (c a) (K (T (X wy+X (g a)<=1099511627776)) (K (T (X (wy++g a)+[41].length<=1099511627776)) (Tr.ok (zR.ret (I (wy++g a++[41])) [])))))) (br (zg.op x==qE) (K d (K (c a) (K e (K (T (X ([40]++g a)+X DN<=1099511627776)) (Tr.ok (zR.ret (I ([40]++g a++DN)) [])))))) (K d (K (c a) (K e (K (T (X ([40]++g a)+[32].length<=1099511627776)) (K (T (X (zg.op x)<=140737488355328)&&List.all (zg.op x) λb=>T (b.toNat<128)) (K (T (X ([40]++g a++[32])+(Lib.toUpperA (zg.op x)).length<=1099511627776)) (K (T (X ([40]++g a++[32]++Lib.toUpperA (zg.op x))+[32].length<=1099511627776)) (K (zL 1 (zg.l x).length) (K (c h) (K (T (X ([40]++g a++[32]++Lib.toUpperA (zg.op x)++[32])+X (g h)<=1099511627776)) (K (T (X ([40]++g a++[32]++Lib.toUpperA (zg.op x)++[32]++g h)+[41].length<=1099511627776)) (Tr.ok (zR.ret (I ([40]++g a++[32]++Lib.toUpperA (zg.op x)++[32]++g h++[41])) [])))))))))))))))):=kw
def vw(g:J Q5->J Q6)(_:J Q5->Bool)(x:J Q5):J Q6:=(ite ((zg.op x==pC)=O) (jd (zg.v x)) (ite ((zg.op x==fk)=O) (zg.s x) (ite ((zg.op x==oC)=O) (wy++g ((zg.l x).getD (Z 0) (Q Q5))++[41]) (ite ((zg.op x==qE)=O) ([40]++g ((zg.l x).getD (Z 0) (Q Q5))++DN) ([40]++g ((zg.l x).getD (Z 0) (Q Q5))++[32]++Lib.toUpperA (zg.op x)++[32]++g ((zg.l x).getD (Z 1) (Q Q5))++[41])))))
def CA(g:J Q5->J Q6)(c:J Q5->Bool)(x:J Q5):Bool:=(if(zg.op x==pC)=O then if Bb (zg.v x)=O then O else S else if(zg.op x==fk)=O then O else if(zg.op x==oC)=O then if zL 0 (zg.l x).length=O then if c ((zg.l x).getD (Z 0) (Q Q5))=O then if T (X wy+X (g ((zg.l x).getD (Z 0) (Q Q5)))<=1099511627776)=O then if T (X (wy++g ((zg.l x).getD (Z 0) (Q Q5)))+[41].length<=1099511627776)=O then O else S else S else S else S else if(zg.op x==qE)=O then if zL 0 (zg.l x).length=O then if c ((zg.l x).getD (Z 0) (Q Q5))=O then if T ([40].length+X (g ((zg.l x).getD (Z 0) (Q Q5)))<=1099511627776)=O then if T (X ([40]++g ((zg.l x).getD (Z 0) (Q Q5)))+X DN<=1099511627776)=O then O else S else S else S else S else if zL 0 (zg.l x).length=O then if c ((zg.l x).getD (Z 0) (Q Q5))=O then if T ([40].length+X (g ((zg.l x).getD (Z 0) (Q Q5)))<=1099511627776)=O then if T (X ([40]++g ((zg.l x).getD (Z 0) (Q Q5)))+[32].length<=1099511627776)=O then
 if(T (X (zg.op x)<=140737488355328)&&List.all (zg.op x) λb=>T (b.toNat<128))=O then if T (X ([40]++g ((zg.l x).getD (Z 0) (Q Q5))++[32])+(Lib.toUpperA (zg.op x)).length<=1099511627776)=O then if T (X ([40]++g ((zg.l x).getD (Z 0) (Q Q5))++[32]++Lib.toUpperA (zg.op x))+[32].length<=1099511627776)=O then if zL 1 (zg.l x).length=O then if c ((zg.l x).getD (Z 1) (Q Q5))=O then if T (X ([40]++g ((zg.l x).getD (Z 0) (Q Q5))++[32]++Lib.toUpperA (zg.op x)++[32])+X (g ((zg.l x).getD (Z 1) (Q Q5)))<=1099511627776)=O then if T (X ([40]++g ((zg.l x).getD (Z 0) (Q Q5))++[32]++Lib.toUpperA (zg.op x)++[32]++g ((zg.l x).getD (Z 1) (Q Q5)))+[41].length<=1099511627776)=O then O else S else S else S else S else S else S else S else S else S else S else S)
def zo7(g:J Q5->J Q6)(c:J Q5->Bool):ag:=ac [Q5] [Q6] (λx=>CA g c x.1) λx=>(vw g c x.1,())
theorem zcX(g:J Q5->J Q6)(c:J Q5->Bool)(d:FK 355 (ac [Q5] [Q6] (λx=>c x.1) λx=>(g x.1,()))):FK 355 (zo7 g c):=by
 refine aV (Fs g c) λx h C b=>?_
 unfold CA at h;refine zI (Vx d) (Fs g c) (λid _=>b id) (zmf g c x.1) ?_;generalize a:vw g c x.1=y;unfold vw at a
 try simp only[zg.eta]
 exact MB a h
mutual
def bj:Nat->J Q5->J Q6
 |0=>λ_=>default
 |n+1=>vw (bj n) (iH n)
def iH:Nat->J Q5->Bool
 |0=>λ_=>S
 |n+1=>CA (bj n) (iH n)
end
theorem SA:∀n,FK 355 (ac [Q5] [Q6] (λx=>iH n x.1) λx=>(bj n x.1,()))
 |0=>ff ⟨Tryz.f355,(Fs default default).1,(Fs default default).2.1,(Fs default default).q.1⟩ (λ_=>rfl)
 |n+1=>zcX (bj n) (iH n) (SA n)
def zo6:ag:=ac [Q5] [Q6] (λx=>iH 16 x.1) λx=>(bj 16 x.1,())
theorem zjO:FK 355 zo6:=SA 16
def rz:=S7.addL [(323,zoS),(355,zo6)]
theorem lO:zw rz:=yY.addL<|fc zjA<|fc zjO jg
end
end Cad
