/- Expressions. -/
import Derived.Test.YtjdjldbhjmgmkaaGreatDoorM10
namespace Cad
open Go Go.Proofs
open List renaming length->Io,drop->Qh,take->Qg,length->X
open IntKind renaming wrap->Γ,i64->Δ
open Tr renaming «to»->Q9,val->Q8,chk->R
open AO renaming box->Qa
open Sh renaming bool->Q7,str->Q6,expr->Q5
open Bool renaming true->O,false->S
open Option renaming none->Q2,some->Q1,some->M
open Decidable renaming decide->Q0,decide->N
open Int (toNat)
open Int renaming toNat->Z
open List (getD)
open List renaming getD->Y
open Tr (chk br re)
open AV (nils agg tup ptr kb str sl)
open AV renaming sl->T,str->I
open Cad renaming ze->K,zi->Q,Sem->J,ai->L,ow->W
noncomputable section
abbrev jK:List (zK×AV):=[(ji,.clo (.func 229) [] []),(wy,.clo (.func 230) [] []),(ox,.clo (.func 231) [] []),([61],.clo (.func 233) [] []),([60],.clo (.func 234) [] []),([43],.clo (.func 155) [] []),([45],.clo (.func 235) [] []),(qy,.clo (.func 236) [] [])]
abbrev zyL:Nat->aY:=λ_=>{ }
theorem zvb:zZ Id.P 180 Tryz.f180 0:=cI kw
theorem zxO:(run Id 0 zyL (Func.results Tryz.f180).toList 400 (bu Tryz.f180) (bl (Func.ntmps Tryz.f180) [] [])).val=M (zT.ret (AV.mp 0) [AO.fmap jK]):=kw
def G23:fz []:=λ_ h=>match h with
 |[]=>.ok (.mp 0,[.fmap jK])
 |_=>.err
def F23:ah:=bj [] G23
theorem zq6:FK 180 F23:=by
 refine dw zvb λx c b h C a=>?_
 unfold G23 at h;split at h
 .simp only[Q8,bG]at h;subst h;exact o7 (n0:=0) yU zvb a zxO rfl
 .simp at h
def opV(o:zK)(x y:V):V:=if(o==ji)=O then Hz x y else if(o==wy)=O then vOr x y else if(o==ox)=O then UN x y else if(o==[61])=O then nX x y else if(o==[60])=O then uY x y else if(o==[43])=O then qI x y else if(o==[45])=O then nY x y else if(o==qy)=O then My x y else(0,0,[])
def opC(o:zK):Bool:=if(o==ji)=O then O else if(o==wy)=O then O else if(o==ox)=O then O else if(o==[61])=O then O else if(o==[60])=O then O else if(o==[43])=O then O else if(o==[45])=O then O else if(o==qy)=O then O else S
def opL(o:zK)(x y:V)(h:List AO):Option zT:=if(o==ji)=O then M (.ret (zX K (Hz x y)) h)else if(o==wy)=O then M (.ret (zX K (vOr x y)) h)else if(o==ox)=O then M (.ret (zX K (UN x y)) h)else if(o==[61])=O then M (.ret (zX K (nX x y)) h)else if(o==[60])=O then M (.ret (zX K (uY x y)) h)else if(o==[43])=O then M (.ret (zX K (qI x y)) h)else if(o==[45])=O then M (.ret (zX K (nY x y)) h)else if(o==qy)=O then M (.ret (zX K (My x y)) h)else Q2
def zlP(g:aV->zr->zg->V)(c:aV->zr->zg->Bool):fz [Q2,M .expr]:=λx h=>match x,h with
 | (.agg [.sl (.pr .str (.pr (.int .i64) .bool)) cols,.sl (.pr (.int .i64) (.pr (.int .i64) .str)) row,.mp 0],e,_),[.fmap [(k1,.clo (.func 229) [] []),(k2,.clo (.func 230) [] []),(k3,.clo (.func 231) [] []),(k4,.clo (.func 233) [] []),(k5,.clo (.func 234) [] []),(k6,.clo (.func 155) [] []),(k7,.clo (.func 235) [] []),(k8,.clo (.func 236) [] [])]]=>
  .chk (k1==ji&&(k2==wy&&(k3==ox&&(k4==[61]&&(k5==[60]&&(k6==[43]&&(k7==[45]&&(k8==qy)))))))) (.chk (c cols row e) (.ok (zX K (g cols row e),[.fmap jK])))
 |_,_=>.err
def UT(g:aV->zr->zg->V)(c:aV->zr->zg->Bool):ah:=bj [Q2,M .expr] (zlP g c)
def VH(g:aV->zr->zg->V)(c:aV->zr->zg->Bool):ct:=Id.add 181 (UT g c)
variable {h:aV->zr->zg->V}{c:aV->zr->zg->Bool}
theorem D1(x:FK 181 (UT h c)):zw (VH h c):=yU.add x
theorem zau(g:aV->zr->zg->V)(c:aV->zr->zg->Bool):zZ (VH g c).P 181 Tryz.f181 2:=cI kw
theorem zmE(g:aV->zr->zg->V)(c:aV->zr->zg->Bool)(h:LC)(x:LV)(o:zK)(v:V)(s:zK):(run (VH g c) 1 unr (Func.results Tryz.f181).toList 600 (bu Tryz.f181) (bl (Func.ntmps Tryz.f181) [agg [T zn h,T K x,AV.mp 0],zX Q5 (.mk o v s [])] [AO.fmap jK])).val=if(o==pt)=O then M (.ret (zX K v) [.fmap jK])else if(o==fh)=O then(ite ((cond (N (aO h s<0)) O (N (aO h s>=(X x:Int))))=O) (M (.ret (zX K (0,0,[])) [.fmap jK])) (ite (zL (aO h s) (X x)=O) (M (.ret (zX K (x.getD (Z (aO h s)) (Q K))) [.fmap jK])) Q2))else opL o (0,0,[]) (0,0,[]) [.fmap jK]:=kw
theorem zmF(g:aV->zr->zg->V)(c:aV->zr->zg->Bool)(h:LC)(x:LV)(o:zK)(v:V)(s:zK)(a:zg):(run (VH g c) 1 unr (Func.results Tryz.f181).toList 600 (bu Tryz.f181) (bl (Func.ntmps Tryz.f181) [agg [T zn h,T K x,AV.mp 0],zX Q5 (.mk o v s [a])] [AO.fmap jK])).val=if(o==pt)=O then M (.ret (zX K v) [.fmap jK])else if(o==fh)=O then(ite ((cond (N (aO h s<0)) O (N (aO h s>=(X x:Int))))=O) (M (.ret (zX K (0,0,[])) [.fmap jK])) (ite (zL (aO h s) (X x)=O) (M (.ret (zX K (x.getD (Z (aO h s)) (Q K))) [.fmap jK])) Q2))else if c h x (.mk a.op a.v a.s a.l)=O then opL o (g h x (.mk a.op a.v a.s a.l)) (0,0,[]) [.fmap jK]else Q2:=kw
theorem zmG(g:aV->zr->zg->V)(c:aV->zr->zg->Bool)(h:LC)(x:LV)(o:zK)(v:V)(s:zK)(a b:zg):(run (VH g c) 1 unr (Func.results Tryz.f181).toList 600 (bu Tryz.f181) (bl (Func.ntmps Tryz.f181) [agg [T zn h,T K x,AV.mp 0],zX Q5 (.mk o v s [a,b])] [AO.fmap jK])).val=if(o==pt)=O then M (.ret (zX K v) [.fmap jK])else if(o==fh)=O then(ite ((cond (N (aO h s<0)) O (N (aO h s>=(X x:Int))))=O) (M (.ret (zX K (0,0,[])) [.fmap jK])) (ite (zL (aO h s) (X x)=O) (M (.ret (zX K (x.getD (Z (aO h s)) (Q K))) [.fmap jK])) Q2))else if c h x (.mk a.op a.v a.s a.l)=O then(ite (c h x (.mk b.op b.v b.s b.l)=O) (opL o (g h x (.mk a.op a.v a.s a.l)) (g h x (.mk b.op b.v b.s b.l)) [.fmap jK]) Q2)else Q2:=kw
variable {a:Option zT}
theorem sG{Φ:zT->Prop}{c:Bool}{b:Option zT}(h:c=O->iy Φ a)(x:c=S->iy Φ b):iy Φ (ite (c=O) a b):=by
 cases c
 .simpa using x rfl
 .simpa using h rfl
variable {E:ct}{C:eW}{t:List Item}
theorem A2{k:FuncId}{f:Func}{Q:AV->List AO->Prop}{n n0:Nat}(c:zw E)(d:zZ E.P k f n)(b:∀id,n0<=id->C.ρ0 id=Q2){keep:Nat->aY}{x:Nat}
   {s:St}  (e:(run E n0 keep f.results.toList x t s).val=a) (h:iy (kR E C k Q) a):Reach E C k t s Q:=
 zJ c d b rfl (by rw[e];exact h)
theorem AI{o:zK}{x y:V}{h:List AO}(b:opC o=O):iy (kR E C 181 (λr d=>(r,d)=(zX K (opV o x y),h))) (opL o x y h):=by
 generalize c:opV o x y=z;unfold opC at b;unfold opV at c;unfold opL;repeat' (refine sG (λa=>?_) (λa=>?_)<;>first|(rw[zf a]at c;try rw[zf a]at b)|(rw[zh (oO a)]at c;try rw[zh (oO a)]at b))
 all_goals first|(cases b;done)|(subst c;rfl)
def uv(g:aV->zr->zg->V)(c:LC)(h:LV):zg->V
 | .mk o v s l=>if (o==pt)=O then v else
  if(o==fh)=O then(ite ((cond (N (aO c s<0)) O (N (aO c s>=(X h:Int))))=O) (0,0,[]) (h.getD (Z (aO c s)) (Q K)))else
  match l with
  |[]=>opV o (0,0,[]) (0,0,[])
  |[a]=>opV o (g c h a) (0,0,[])
  |[a,b]=>opV o (g c h a) (g c h b)
  |_=>(0,0,[])
def yB(c:aV->zr->zg->Bool)(h:LC)(x:LV):zg->Bool
 |.mk _ _ _ (_::_::_::_)=>S
 | .mk o _ s l=>if (o==pt)=O then O else
  if(o==fh)=O then(ite ((cond (N (aO h s<0)) O (N (aO h s>=(X x:Int))))=O) O (zL (aO h s) (X x)))else
  match l with
  |[]=>opC o
  |[a]=>if c h x a=O then opC o else S
  |[a,b]=>if c h x a=O then(ite (c h x b=O) (opC o) S)else S
  |_=>S
theorem zko(p:FK 181 (UT h c)):FK 181 (UT (uv h) (yB c)):=by
 refine dw (E:=VH h c) (zau h c) λx w t m C n=>?_
 unfold zlP at m;split at m
 .rename_i j k e u y A B D F G H P;simp only[Q8]at m;split at m
  .rename_i q;split at m
   .rename_i g;simp only[aP,bW]at q;obtain⟨rfl,rfl,rfl,rfl,rfl,rfl,rfl,rfl⟩:=q;simp only[bG]at m;subst m;have⟨o,v,s,l⟩:=e
    match l,g with
    | [],g=>
     refine A2 (n0:=1) (D1 p) (zau h c) n (zmE h c j k o v s) ?_;generalize i:uv h j k (.mk o v s [])=z;rw[yB]at g;rw[uv]at i;repeat' (first|(subst i;exact AI g)|refine sG (λd=>?_) (λd=>?_)<;>first|(first|rw[zf d]at i g|rw[zf d]at g|rw[zf d]at i)|(first|rw[zh (oO d)]at i g|rw[zh (oO d)]at g|rw[zh (oO d)]at i)|skip)
     all_goals first|(subst i;exact AI g)|(subst i;rfl)|(rw[g]at d;cases d)
    | [a],g=>
     refine A2 (n0:=1) (D1 p) (zau h c) n (zmF h c j k o v s a) ?_;generalize i:uv h j k (.mk o v s [a])=z;rw[yB]at g;rw[uv]at i;simp only[zg.eta];repeat' (first|(subst i;exact AI g)|refine sG (λd=>?_) (λd=>?_)<;>first|(first|rw[zf d]at i g|rw[zf d]at g|rw[zf d]at i)|(first|rw[zh (oO d)]at i g|rw[zh (oO d)]at g|rw[zh (oO d)]at i)|skip)
     all_goals first|(subst i;exact AI g)|(subst i;rfl)|(cases g;done)|(rw[g]at d;cases d)
    | [a,b],g=>
     refine A2 (n0:=1) (D1 p) (zau h c) n (zmG h c j k o v s a b) ?_;generalize i:uv h j k (.mk o v s [a,b])=z;rw[yB]at g;rw[uv]at i;simp only[zg.eta];repeat' (first|(subst i;exact AI g)|refine sG (λd=>?_) (λd=>?_)<;>first|(first|rw[zf d]at i g|rw[zf d]at g|rw[zf d]at i)|(first|rw[zh (oO d)]at i g|rw[zh (oO d)]at g|rw[zh (oO d)]at i)|skip)
     all_goals first|(subst i;exact AI g)|(subst i;rfl)|(cases g;done)|(rw[g]at d;cases d)
    | _::_::_::_,g=>
     cases g
   .simp at m
  .simp at m
 .simp at m
mutual
def ei:Nat->aV->zr->zg->V
 |0=>λ_ _ _=>(0,0,[])
 |n+1=>uv (ei n)
def yA:Nat->aV->zr->zg->Bool
 |0=>λ_ _ _=>S
 |n+1=>yB (yA n)
end
theorem Xs:∀n,FK 181 (UT (ei n) (yA n))
 | 0=>by
  have h:FK 181 (bj [Q2,M .expr] (λ_ _=>.err)):=dw (zau (λ_ _ _=>(0,0,[])) (λ_ _ _=>S)) (E:=Id) λx c b a=>by simp at a
  refine Cq (ι:=Unit) (Gs:=λ_ _ _=>.err) (λ_=>h) λx c b a=>?_
  unfold zlP at a;grind[Q8,yA]
 |n+1=>zko (Xs n)
def F24:ah:=UT (ei 16) (yA 16)
theorem zq7:FK 181 F24:=Xs 16
def Ie:=Id.addL [(180,F23),(181,F24)]
theorem yV:zw Ie:=yU.addL<|fc zq6<|fc zq7 jb
abbrev zyK:Nat->aY:=λ_=>{ }
theorem zva:zZ (Ie).P 179 Tryz.f179 1:=cI kw
theorem zxN(x:J Q5):rn Ie 0 zyK Tryz.f179 [zX Q5 x] []=R (xf 16 (zt x) 1 0) (Tr.ok (zT.ret (AV.bool (jk 16 (zt x) 1 0).1) [])):=kw
def dU(x:J Q5):J Q7:=(jk 16 x 1 0).1
def BA(x:J Q5):Bool:=if xf 16 x 1 0=O then O else S
def F22:ah:=ac [Q5] [Q7] (λx=>BA x.1) λx=>(dU x.1,())
theorem zhD:FK 179 F22:=by
 refine aZ (zva) λx h C b=>?_
 unfold BA at h;refine zJ yV (zva) (λid _=>b id) (zxN x.1) ?_;generalize a:dU x.1=y;unfold dU at a;exact MC a h
abbrev kp7:Nat->aY:=λ_=>{ }
theorem ok7:zZ (Ie).P 57 Tryz.f57 1:=cI kw
theorem go7(x:J Q5):rn Ie 0 kp7 Tryz.f57 [zX Q5 x] []=R (NN 16 (zt x) 14 80) (Tr.ok (zT.ret (agg [I (zg.op (uj 16 (zt x) 14 80).1),L (zg.v (uj 16 (zt x) 14 80).1).1,L (zg.v (uj 16 (zt x) 14 80).1).2.1,I (zg.v (uj 16 (zt x) 14 80).1).2.2,I (zg.s (uj 16 (zt x) 14 80).1),T Q5 (zg.l (uj 16 (zt x) 14 80).1)]) [])):=kw
def iP(x:J Q5):J Q5:=zg.mk (zg.op (uj 16 x 14 80).1) (zg.v (uj 16 x 14 80).1) (zg.s (uj 16 x 14 80).1) (zg.l (uj 16 x 14 80).1)
def S6(x:J Q5):Bool:=if NN 16 x 14 80=O then O else S
def F7:ah:=ac [Q5] [Q5] (λx=>S6 x.1) λx=>(iP x.1,())
theorem zrK:FK 57 F7:=by
 refine aZ (ok7) λx h C b=>?_
 unfold S6 at h;refine zJ yV (ok7) (λid _=>b id) (go7 x.1) ?_;generalize a:iP x.1=y;unfold iP at a;exact MC a h
def If:=Ie.addL [(179,F22),(57,F7)]
theorem yW:zw If:=yV.addL<|fc zhD<|fc zrK jb
abbrev zyM:Nat->aY:=λ_=>{ }
theorem zve:zZ (If).P 178 Tryz.f178 2:=cI kw
theorem zxS(h:J Q5)(x:J zn.sl):rn If 0 zyM Tryz.f178 [zX Q5 h,zX zn.sl x] []=let a:=zt h;R (BA a) (br (!dU a) (Tr.ok (zT.ret (tup [L 0,L 1]) [])) (R (bJ 16 a x) (Tr.ok (zT.ret (tup [L (aa 16 a x).1,L (aa 16 a x).2]) [])))):=kw
def cu(x:J Q5)(h:J zn.sl):zy×zy:=if(!dU x)=O then(0,1)else((aa 16 x h).1,(aa 16 x h).2)
def Kj(x:J Q5)(h:J zn.sl):Bool:=if BA x=O then if(!dU x)=O then O else if bJ 16 x h=O then O else S else S
def F30:ah:=ac [Q5,zn.sl] [zk,zk] (λx=>Kj x.1 x.2.1) λx=>((cu x.1 x.2.1).1,(cu x.1 x.2.1).2,())
theorem zhE:FK 178 F30:=by
 refine aZ (zve) λx h C b=>?_
 unfold Kj at h;refine zJ yW (zve) (λid _=>b id) (zxS x.1 x.2.1) ?_;generalize a:cu x.1 x.2.1=y;unfold cu at a;exact MC a h
abbrev zyJ:Nat->aY:=λ_=>{ }
theorem zu4:zZ (If).P 111 Tryz.f111 3:=cI kw
theorem zxH(b:J Q5)(x:J zn.sl)(h:J ze.sl):rn If 0 zyJ Tryz.f111 [zX Q5 b,zX zn.sl x,zX ze.sl h] []=let a:=zt b;R (BA a) (br (!dU a) (Tr.ok (zT.ret (agg [L 0,L 0,I []]) [])) (R (ji==ji&&(wy==wy&&(ox==ox&&([61]==[61]&&([60]==[60]&&([43]==[43]&&([45]==[45]&&qy==qy))))))) (R (yA 16 x h a) (Tr.ok (zT.ret (agg [L (ei 16 x h a).1,L (ei 16 x h a).2.1,I (ei 16 x h a).2.2]) []))))):=kw
def lp(x:J Q5)(h:J zn.sl)(a:J ze.sl):zp:=if(!dU x)=O then(0,0,[])else ei 16 h a x
def Kh(x:J Q5)(h:J zn.sl)(a:J ze.sl):Bool:=if BA x=O then if(!dU x)=O then O else if(ji==ji&&(wy==wy&&(ox==ox&&([61]==[61]&&([60]==[60]&&([43]==[43]&&([45]==[45]&&qy==qy)))))))=O then if yA 16 h a x=O then O else S else S else S
def F11:ah:=ac [Q5,zn.sl,ze.sl] [K] (λx=>Kh x.1 x.2.1 x.q.1) λx=>(lp x.1 x.2.1 x.q.1,())
theorem zhA:FK 111 F11:=by
 refine aZ (zu4) λx h C b=>?_
 unfold Kh at h;refine zJ yW (zu4) (λid _=>b id) (zxH x.1 x.2.1 x.q.1) ?_;generalize a:lp x.1 x.2.1 x.q.1=y;unfold lp at a;exact MC a h
def zhX:=If.addL [(178,F30),(111,F11)]
theorem VP:zw zhX:=yW.addL<|fc zhE<|fc zhA jb
theorem mO(d:Int)(h:-1000<=d)(x:d<=1000):Γ Δ d=d:=by rw[eK];omega
theorem KB{P:Nat->zg->zg->Prop}(hP:∀h e(o t s:zK)(l:List zg),(∀y∈l,∃x∈zg.l e,P h x y)->X l<=3->X t<=45->X s<=20->P (h+1) e (.mk o ((zg.v e).1,(zg.v e).2.1,t) s l)):
  ∀(h:Nat)(e:zg)(d n:Int),0<=d->d<h->h<=100->∃r m,qO h e d n=M (r,m,())/\P h e r
 |0,_,_,_,h1,h2,_=>by omega
 | h + 1,e,d,n,h1,h2,h3=>by
  have IH:∀x m,0<d->∃r k,qO h x (Γ Δ (d-1)) m=M (r,k,())/\P h x r:=λx m hd=>by
   rw[mO _ W W];exact KB hP h x (d-1) m W W W
  generalize hg:(λG H U=>Ns (qO h G H U))=g;generalize hc:(λG H U=>(qO h G H U).isSome)=c
  have E:∀(k i:Nat)(n:Int)(a:List zg)(z:zq qN)(o t s:zK),i+k=3->X a=i->(∀y∈a,∃x∈zg.l e,P h x y)->
    ∃m r F,zU (A7 g c) m (.h10 d n (i:Int) (e,()) z (o,(zg.v e).1,(zg.v e).2.1,t,s,a,())) (.tup [.agg [.str o,L (zg.v e).1,L (zg.v e).2.1,.str t,.str s,.vec 0],L F],[.vec .expr r])/\m<=k+1/\(∀y∈r,∃x∈zg.l e,P h x y)/\X r<=3:=by
   intro k
   induction k with
   | zero=>
    intro i n a z o t s hi ha A;refine⟨1,a,n,zU.of ?_,W,A,W⟩;grind[A7,Q8]
   | succ k ih=>
    intro i n a z o t s hi ha A;by_cases u:(cond (N ((i:Int)<(↑(zg.l e).length:Int))) (cond (N ((i:Int)<3)) (cond (N (d>0)) (N (n>0)) S) S) S)=O
    .have hl:i<(zg.l e).length/\0<d:=by
      cases h1:N ((i:Int)<(↑(zg.l e).length:Int))<;>cases h2:N ((i:Int)<3)<;>cases h3:N (d>0)<;>simp_all
     have⟨r,m,b,j⟩:=IH (zg.l e)[i] n hl.2;have gx:g (zg.l e)[i] (Γ Δ (d-1)) n=(r,m):=by rw[<-hg];simp only[b];rfl
     have cx:c (zg.l e)[i] (Γ Δ (d-1)) n=O:=by rw[<-hc];simp only[b];rfl
     have⟨m2,r2,n2,B,k2,C,D⟩:=ih (i+1) m (a++[r]) z o t s W sg (λy hy=>by
      grind)
     refine⟨m2+1,r2,n2,(zH.of ?_).ends B,?_,C,D⟩
     .grind[zL,A7,Q8,zo,zu,aE]
     .omega
    .refine⟨1,a,n,zU.of ?_,W,A,W⟩;simp only[A7,Q8];rw[zh u]
  have h8:∀(z:zq qN)(o t s:zK),X t<=45->X s<=20->∃r m Rr0,zU (A7 g c) 101 (.h500008 d (Γ Δ (n-1)) (e,()) z (o,(zg.v e).1,(zg.v e).2.1,t,s,())) Rr0/\bb Rr0.2 [Q5,zk] Rr0.1=M (r,m,())/\P (h+1) e r:=λz o t s ht w=>by
   have⟨m,r,F,B,k2,C,D⟩:=E 3 0 (Γ Δ (n-1)) [] z o t s rfl rfl sw;exact⟨.mk o ((zg.v e).1,(zg.v e).2.1,t) s r,F,_,((zH.of rfl).ends B).mono W,rfl,hP h e o t s r C D ht w⟩
  have h6:∀(z:zq qN)(o s:zK),X s<=20->∃r m Rr0,zU (A7 g c) 102 (.h500006 d n (N ((↑(X (zg.v e).q):Int)>45)) (e,()) z (o,(zg.v e).1,(zg.v e).2.1,(zg.v e).q,s,())) Rr0/\bb Rr0.2 [Q5,zk] Rr0.1=M (r,m,())/\P (h+1) e r:=λz o s w=>by
   by_cases u:(X (zg.v e).q:Int)>45
   .have⟨r,m,Rr0,b,j,p⟩:=h8 z o (Qg (Z 45-Z 0) (Qh (Z 0) (zg.v e).q)) s sg w;refine⟨r,m,Rr0,(zH.of ?_).ends b,j,p⟩;grind[A7,Q8]
   .have⟨r,m,Rr0,b,j,p⟩:=h8 z o (zg.v e).q s W w;refine⟨r,m,Rr0,(zH.of ?_).ends b,j,p⟩;grind[A7,Q8]
  have h4:∀(z:zq qN)(o:zK),∃r m Rr0,zU (A7 g c) 103 (.h500004 d n (N ((↑(X (zg.s e)):Int)>20)) (e,()) z (o,(zg.v e).1,(zg.v e).2.1,(zg.v e).q,zg.s e,())) Rr0/\bb Rr0.2 [Q5,zk] Rr0.1=M (r,m,())/\P (h+1) e r:=λz o=>by
   by_cases u:(X (zg.s e):Int)>20
   .have⟨r,m,Rr0,b,j,p⟩:=h6 z o (Qg (Z 20-Z 0) (Qh (Z 0) (zg.s e))) sg;refine⟨r,m,Rr0,(zH.of ?_).ends b,j,p⟩;grind[A7,Q8]
   .have⟨r,m,Rr0,b,j,p⟩:=h6 z o (zg.s e) W;refine⟨r,m,Rr0,(zH.of ?_).ends b,j,p⟩;grind[A7,Q8]
  have e0:qO (h+1) e d n=zsS g c e d n:=by rw[<-hg,<-hc];rfl
  rw[e0];by_cases u:(X (zg.op e):Int)>8
  .have⟨r,m,Rr0,b,j,p⟩:=h4 ([],0,0,[],[],()) (Qg (Z 8-Z 0) (Qh (Z 0) (zg.op e)));refine⟨r,m,zA ?_ b W j,p⟩;grind[ze0,Q8]
  .have⟨r,m,Rr0,b,j,p⟩:=h4 ([],0,0,[],[],()) (zg.op e);refine⟨r,m,zA ?_ b W j,p⟩;grind[ze0,Q8]
theorem QW(x:Nat)(e:zg)(d n:Int)(a:0<=d)(b:d<x)(c:x<=100):NN x e d n=O:=by have⟨r,m,h,_⟩:=KB (P:=λ_ _ _=>True) (λ_ _ _ _ _ _ _ _ _ _=>trivial) x e d n a b c;unfold NN;rw[h];rfl
theorem Fi{g:zg->Int->Int->Bool×Int}{c:zg->Int->Int->Bool}{d:Int}(h:∀x n,c x (Γ Δ (d+1)) n=O):∀(l:List zg)(n:Int),Fh g c d l n=O
 |[],_=>rfl
 | x::r,n=>by
  rw[Fh,zf (h x n)];split
  .rfl
  .exact Fi h r _
theorem Fg:∀(h:Nat)(e:zg)(d n:Int),0<=d->d<=13->14<=d+h->xf h e d n=O
 |0,_,_,_,_,_,_=>by omega
 | h+1,e,d,n,c,g,i=>by
  rw[xf];unfold TF;by_cases a:d>12
  .simp[a]
  .have b:Fh (jk h) (xf h) d e.l (Γ Δ (n+1))=O:=Fi (λx m=>by
    rw[mO _ W W];exact Fg h x (d+1) m W W W) _ _
   repeat' split
   all_goals first|rfl|exact b
abbrev AG:zg:=.mk [] (0,0,[]) [] []
theorem R8(h:Nat)(e:zg):lk (h+1) e AG=O:=by
 rw[lk];unfold L3;have x:EB (gK h) (lk h) e.l []=O:=by
  unfold EB;split
  .rfl
  .cases e.l<;>rfl
 grind[zg.l]
theorem gP{α:Type}(p:α->Bool):∀(l:List α)(i:Nat),aj p l i=-1\/((i:Int)<=aj p l i/\aj p l i<i+X l)
 |[],_=>.inl rfl
 | x::r,i=>by
  unfold aj;split
  .exact .inr ⟨W,sg⟩
  .rcases gP p r (i+1)with h|⟨a,b⟩
   .exact .inl h
   .exact .inr ⟨W,sg⟩
theorem Ke(l:aV)(s:zK):aO l s=-1\/(0<=aO l s/\aO l s<X l):=by grind[gP,aO]
theorem nr(o:zK):(dT o=0/\(o=pt\/o=fh))\/(dT o=1/\(o=ox\/o=qy))\/
  (dT o=2/\(o=ji\/o=wy\/o=[61]\/o=[60]\/o=[43]\/o=[45]))\/dT o=-1:=by
 unfold dT BS;simp only[UC];repeat' split
 all_goals simp_all
theorem AF{g:zg->Int->Int->Bool×Int}{e:zg}{d i:Int}(h:(Ci g e d i).1=O):(e.l.length:Int)=dT e.op/\
  ((e.op=pt\/e.op=fh)\/(qR g d e.l (Γ Δ (i+1))).1=O):=by grind[Ci]
theorem xg{g:zg->Int->Int->Bool×Int}{d:Int}:∀(l:List zg)(n:Int),(qR g d l n).1=O->∀x∈l,∃m,(g x (Γ Δ (d+1)) m).1=O
 |[],_,_,_,a=>by simp at a
 | y::r,n,h,x,a=>by
  rw[qR]at h;split at h
  .cases h
  .rename_i b;rcases bX.1 a with rfl|a
   .exact⟨n,by simpa using b⟩
   .exact xg r _ h x a
theorem B5{g:zg->aV->Int×Int}{c:zg->aV->Bool}{b:aV}{o:zK}{d i:Int}{q k:zK}{w:List zg}:
    ∀(l:List zg)(a:Int)(e:List Int),(∀x∈l,c x b=O)->((X e:Int)+X l)=dT o->g7 g c b o d i q k w l a e=O
  | [], a,e,_,j=>by
    have j:(X e:Int)=dT o:=by simpa using j
    have n:N (aO b k<0)=O\/zL (aO b k) (X b)=O:=by
      rcases Ke b k with h|⟨s,m⟩
      · exact .inl (by rw[h];rfl)
      · exact .inr (by simp[zL,s,m])
    have m:o=[61]\/o=[60]->X e=2:=by
      rintro(rfl|rfl)
      · have:dT [61]=2:=by decide
        omega
      · have:dT [60]=2:=by decide
        omega
    unfold g7;repeat' split
    all_goals first
      |rfl
      |(exfalso;rcases n with h|h<;>simp_all;done)
      | (exfalso
         rename_i z p;have t:=m (by simp_all);rw[t]at p;exact p (by cases A:(e.getD (Z 0) (Q zk)==e.getD (Z 1) (Q zk))<;>cases B:(e.getD (Z 0) (Q zk)==0)<;>rfl))
  | x :: r,a,e,hc,j=>by
    have u:dT o<=2:=by rcases nr o with h|h|h|h<;>omega
    rw[g7,zf (hc x sw)];split
    · rfl
    · rw[zf (by simp at j|-;omega)]
      exact B5 r (a+1) _ (λy v=>hc y (by simp[v])) (by simp at j|-;omega)
theorem yv:∀(a:Nat)(e:zg)(d n:Int)(c:aV),(jk a e d n).1=O->bJ a e c=O
 |0,_,_,_,_,h=>by cases h
 | a+1,e,d,n,c,h=>by
  rw[jk]at h;have⟨g,b⟩:=AF h;rw[bJ];unfold Do;refine B5 e.l 0 [] (λx j=>?_) (by simpa using g);rcases b with b|b
  .exfalso;have:dT e.op=0:=by
    rcases b with b|b<;>rw[b]<;>decide
   simp_all
  .have⟨m,i⟩:=xg e.l _ b x j;exact yv a x _ _ c i
theorem GX:∀(c:Nat)(e:zg)(d n:Int)(g:aV)(j:zr),(jk c e d n).1=O->yA c g j e=O
 |0,_,_,_,_,_,h=>by cases h
 | c + 1,.mk p v s l,d,n,g,j,h=>by
  rw[jk]at h;have⟨i,o⟩:=AF h;have i:(X l:Int)=dT p:=i;have o:(p=pt\/p=fh)\/(qR (jk c) d l (Γ Δ (n+1))).1=O:=o;have k:∀x∈l,(¬(p=pt\/p=fh))->yA c g j x=O:=by
   intro x k t;rcases o with o|o
   .exact(t o).elim
   .have⟨m,y⟩:=xg l _ o x k;exact GX c x _ _ g j y
  have w:(ite ((cond (N (aO g s<0)) O (N (aO g s>=(X j:Int))))=O) O (zL (aO g s) (X j)))=O:=by
   split
   .rfl
   .grind[zL]
  rw[yA];rcases nr p with⟨u,q⟩|⟨u,q⟩|⟨u,q⟩|u
  .have:l=[]:=Dz W;grind[yB]
  .match l,i,k with
   | [a],_,k=>
    rcases q with rfl|rfl
    .rw[yB];exact(zf (k a sw (by decide))).trans rfl
    .rw[yB];exact(zf (k a sw (by decide))).trans rfl
   |[],i,_=>simp at i;omega
   |_::_::_,i,_=>simp at i;omega
  .match l,i,k with
   | [a,b],_,k=>
    rcases q with rfl|rfl|rfl|rfl|rfl|rfl<;>
     (rw[yB];exact(zf (k a sw (by decide))).trans ((zf (k b sw (by decide))).trans rfl))
   |[],i,_=>simp at i;omega
   |[_],i,_=>simp at i;omega
   |_::_::_::_,i,_=>simp at i;omega
  .omega
theorem vt(e:zg):BA e=O:=by grind[BA,Fg]
theorem Qx(e:zg):S6 e=O:=by grind[S6,QW]
theorem Nt(e:zg)(c:aV):Kj e c=O:=by grind[Kj,vt,yv,dU]
theorem Nr(e:zg)(c:aV)(h:zr):Kh e c h=O:=by grind[Kh,vt,GX,dU]
def zpI:ah:=aX [Q5] [Q7] λx=>(dU x.1,())
theorem zkm:FK 179 zpI:=pl zhD λx=>vt x.1
def F7t:ah:=aX [Q5] [Q5] λx=>(iP x.1,())
theorem zrT:FK 57 F7t:=pl zrK λx=>Qx x.1
def zpT:ah:=aX [Q5,zn.sl] [zk,zk] λx=>((cu x.1 x.2.1).1,(cu x.1 x.2.1).2,())
theorem zkz:FK 178 zpT:=pl zhE λx=>Nt x.1 x.2.1
def zpi:ah:=aX [Q5,zn.sl,ze.sl] [K] λx=>(lp x.1 x.2.1 x.q.1,())
theorem zjV:FK 111 zpi:=pl zhA λx=>Nr x.1 x.2.1 x.q.1
def zhY:=zhX.addL [(179,zpI),(57,F7t),(178,zpT),(111,zpi)]
theorem yX:zw zhY:=VP.addL<|fc zkm<|fc zrT<|fc zkz<|fc zjV jb
set_option maxHeartbeats 4000000
abbrev wF:List CP:=[.d ab]
abbrev zen:List CP:=[.d .str,.nil,.d zk,.nil,.nil,.d .str,.d zk,.d zk,.d .str,.d .str,.nil]
abbrev zsx:List CP:=[.d .str,.d (.sl zn),.d zk,.vec zk,.nil,.d .expr]
abbrev zsy:List CP:=[.d .str,.d (.sl zn),.d zk,.vec zk,.vec zG,.d .expr]
def Zy(x:J Q5)(h:J zn.sl):Tr (Empty⊕az):=R (lk 16 (zt x) (zg.mk [] (0,0,[]) [] [])) (br (gK 16 (zt x) (zg.mk [] (0,0,[]) [] [])) (re (L 0) []) (br (cond ((cu (zt x) h).2==0) (cond ((cu (zt x) h).1!=3) ((cu (zt x) h).1!=0) S) S) (re (L 5) []) (re (L (cu (zt x) h).2) [])))
def Pu(x:J Q5)(h:J zn.sl):=ar [zk] t0 100000000 (Zy x h)
def zhf:=FT [Q5,zn.sl] [zk] λx=>Pu x.1 x.2.1
theorem SD:FK 110 zhf:=yX.T1 (f:=Tryz.f110) (keep:=k0) (e:=e0)
abbrev zuD:Nat->aY:=λj=>if j=3 then{slots:=[1,2,3,4],prom:=[(3,M 3,zk)]}else if j=7 then{slots:=[1,2,3,5],prom:=[(3,M 4,zG)]}else{ }
inductive MQ where
 |h3 (i4:Int) (z0:zq wF) (z1:zq zen) (z2:zq zsx)
 |h7 (i5:Int) (z0:zq wF) (z1:zq zen) (z2:zq zsy)
abbrev zxo:MQ->Nat×St
 |.h3 i h x z=>(3,⟨tm 70 [(1,ptr 0 0),(2,ptr 1 0),(3,ptr 2 0),(4,L i)],[Qa (bF [] wF h),Qa (bF [] zen x),Qa (bF [3] zsx z),AO.vec zk z.r.1]⟩)
 |.h7 a h x z=>(7,⟨tm 70 [(1,ptr 0 0),(2,ptr 1 0),(3,ptr 2 0),(5,L a)],[Qa (bF [] wF h),Qa (bF [] zen x),Qa (bF [3,4] zsy z),AO.vec zk z.r.1,AO.vec zG z.t.1]⟩)
def zm7(x:am):Tr (MQ⊕az):=Q9 (MQ.h3 0 (x,()) ([],0,[],0,0,[],[],()) (kf x.1,kH x.2.1,x.q.1,[],iP (zt x.u),()))
def Mn:MQ->Tr (MQ⊕az)
 | .h3 i h b z=>
  let c:=(X h.1.r.1:Int)
  let a:=[Y h.1.r.1 i.toNat (Q zk)]
  br (cond (N (i<c)) (N (i<10)) S)
  (R (zL i (X h.1.r.1)) (R (N (X z.r.1+X a<=1073741824)) (Q9 (MQ.h3 (Γ Δ (i+1)) h b (z.1,z.2.1,z.q.1,z.r.1++a,z.t)))))
  (Q9 (MQ.h7 0 h b (z.1,z.2.1,z.q.1,z.r.1,[],z.t)))
 | .h7 x h b z=>
  let c:=(X h.1.t.1:Int)
  let a:=zL x (X h.1.t.1)
  let d:=Y h.1.t.1 x.toNat (Q zG)
  let e:=[(d.1,kf d.2)]
  br (cond (N (x<c)) (N (x<10)) S)
  (R a (R a (R (N (X z.t.1+X e<=1073741824)) (Q9 (MQ.h7 (Γ Δ (x+1)) h b (z.1,z.2.1,z.q.1,z.r.1,z.t.1++e,z.u))))))
  (re (agg [I z.1,T zn z.2.1,L z.q.1,AV.vec 0,AV.vec 1,I (zg.op z.u.1),L (zg.v z.u.1).1,L (zg.v z.u.1).2.1,I (zg.v z.u.1).q,I (zg.s z.u.1),T Q5 (zg.l z.u.1)]) [AO.vec zk z.r.1,AO.vec zG z.t.1])
def zbZ(x:am):=ar [ab] Mn 100000000 (zm7 x)
def zqA:=FT [ab] [ab] λx=>zbZ x.1
theorem Xx:FK 121 zqA:=yX.T1 (f:=Tryz.f121) (keep:=zuD) (e:=zxo)
def gJ(x:J Q5)(h:J zn.sl):zy:=if gK 16 x (zg.mk [] (0,0,[]) [] [])=O then 0 else if(cond ((cu x h).2==0) (cond ((cu x h).1!=3) ((cu x h).1!=0) S) S)=O then 5 else(cu x h).2
theorem R5(e:zg)(c:LC):Pu e c=M (gJ e c,()):=by
 have h:(Zy e c).val=M (.inr (L (gJ e c),[])):=by
  unfold gJ;simp only[Zy,zo,Q8];rw[zf (R8 15 e)];repeat' split
  all_goals rfl
 exact zR h rfl
def GQ(t:am):am:=(kf t.1,kH t.2.1,t.q.1,Qg 10 t.r.1,(Qg 10 t.t.1).map (λf:cw=>((f.1,kf f.2):cw)),iP t.u)
theorem zb0(t:am):zbZ t=M (GQ t,()):=by
 have g:=zH.all (t:=Mn) 1 (λi=>.h3 (i:Int) (t,()) ([],0,[],0,0,[],[],()) (kf t.1,kH t.2.1,t.q.1,Qg i t.r.1,iP t.u,())) (min 10 (X t.r.1)) λi x=>zH.of (by
  have h:i<X t.r.1:=by omega
  simp only[Mn,Q8,zfa (k:=10) (K:=10) rfl x,zx h,zj,aJ];rw[zf sg,zu i um,Ms h (Q zk)])
 have a:zH Mn 1 (.h3 ((min 10 (X t.r.1):Nat):Int) (t,()) ([],0,[],0,0,[],[],()) (kf t.1,kH t.2.1,t.q.1,Qg (min 10 (X t.r.1)) t.r.1,iP t.u,())) (.h7 ((0:Nat):Int) (t,()) ([],0,[],0,0,[],[],()) (kf t.1,kH t.2.1,t.q.1,Qg (min 10 (X t.r.1)) t.r.1,[],iP t.u,())):=zH.of (by
  simp only[Mn,Q8,TE (k:=10) (K:=10) rfl,zC,zm];rfl)
 rw[yp]at g a;have b:=zH.all (t:=Mn) 1 (λi=>.h7 (i:Int) (t,()) ([],0,[],0,0,[],[],()) (kf t.1,kH t.2.1,t.q.1,Qg 10 t.r.1,(Qg i t.t.1).map (λf:cw=>((f.1,kf f.2):cw)),iP t.u,())) (min 10 (X t.t.1)) λi x=>zH.of (by
  have h:i<X t.t.1:=by omega
  simp only[Mn,Q8,zfa (k:=10) (K:=10) rfl x,zx h,zj,aJ];rw[zf sg,zu i um,Ms h (Q zG),ib];rfl)
 rw[yp]at b;have c:zU Mn 1 (.h7 ((min 10 (X t.t.1):Nat):Int) (t,()) ([],0,[],0,0,[],[],()) (kf t.1,kH t.2.1,t.q.1,Qg 10 t.r.1,(Qg 10 t.t.1).map (λf:cw=>((f.1,kf f.2):cw)),iP t.u,())) _:=zU.of (by
  simp only[Mn,Q8,TE (k:=10) (K:=10) rfl,zC,zm];rfl)
 have d:(zm7 t).val=M (.inl (.h3 ((0:Nat):Int) (t,()) ([],0,[],0,0,[],[],()) (kf t.1,kH t.2.1,t.q.1,Qg 0 t.r.1,iP t.u,()))):=by
  simp only[zm7,zo,Q8];rfl
 unfold GQ;rw[<-zo (iP t.u)];exact zA d (((g.trans a).trans b).ends c) W rfl
def zhZ:=zhY.addL [(110,zhf),(121,zqA)]
theorem VQ:zw zhZ:=yX.addL<|fc SD<|fc Xx jb
def zpD:ah:=aX [Q5,zn.sl] [zk] λx=>(gJ x.1 x.2.1,())
theorem zkg:FK 110 zpD:=iX SD λx=>R5 x.1 x.2.1
def F5t:ah:=aX [ab] [ab] λx=>(GQ x.1,())
theorem zrC:FK 121 F5t:=iX Xx λx=>zb0 x.1
def YO:=zhZ.addL [(110,zpD),(121,F5t)]
theorem Ig:zw YO:=VQ.addL<|fc zkg<|fc zrC jb
abbrev znn:=kG [(4,[1,27,28,29]),(11,[1,5,59,60,61]),(17,[1,5,71,72,73])]
inductive uw where
 |h4 (l27:LC) (i28:Int) (i29:Int) (z0:zq wF)
 |h11 (l59:LI) (i60:Int) (i61:Int) (z0:zq wF)
 |h17 (l71:LF) (i72:Int) (i73:Int) (z0:zq wF)
abbrev zsC:uw->Nat×St
 |.h4 l i h z=>(4,⟨tm 110 [(1,ptr 0 0),(27,T zn l),(28,L i),(29,L h)],[Qa (bF [] wF z)]⟩)
 |.h11 d x a z=>(11,⟨tm 110 [(1,ptr 0 0),(5,AV.clo (Fn.func 109) [] [ptr 0 0]),(59,T zk d),(60,L x),(61,L a)],[Qa (bF [] wF z)]⟩)
 |.h17 e b c z=>(17,⟨tm 110 [(1,ptr 0 0),(5,AV.clo (Fn.func 109) [] [ptr 0 0]),(71,T zG e),(72,L b),(73,L c)],[Qa (bF [] wF z)]⟩)
def NZ(x:am):Tr (uw⊕az):=
 let a:=(X x.2.1:Int)
 br (cond (!aA x.1) O (cond (N (a<1)) O (N (a>8)))) (re (kb S) [])
 (Q9 (uw.h4 x.2.1 a 0 (x,())))
def qH:uw->Tr (uw⊕az)
 | .h4 l d i z=>
  let a:=l.getD i.toNat (Q zn)
  br (N (i<d))
  (R (zL i (X l)) (br (cond (!aA a.1) O (cond (N (a.2.1<1)) O (cond (N (a.2.1>3)) O (zY (z.1.1,z.1.2.1,z.1.q.1,z.1.r.1,z.1.t.1,zt z.1.u) a.1!=i)))) (re (kb S) []) (Q9 (uw.h4 l d (Γ Δ (i+1)) z))))
  (Q9 (uw.h11 z.1.r.1 (X z.1.r.1:Int) 0 z))
 | .h11 b e h z=>
  let a:=b.getD h.toNat (Q zk)
  let j:=(X z.1.2.1:Int)
  br (N (h<e))
  (R (zL h (X b)) (br (!bif N (a>=0)then N (a<j)else S) (re (kb S) []) (Q9 (uw.h11 b e (Γ Δ (h+1)) z))))
  (Q9 (uw.h17 z.1.t.1 (X z.1.t.1:Int) 0 z))
 | .h17 c g x z=>
  let a:=c.getD x.toNat (Q zG)
  let j:=(X z.1.2.1:Int)
  let k:=Y z.1.2.1 (Z z.1.q.1) (Q zn)
  br (N (x<g))
  (R (zL x (X c)) (br (!bif N (a.1>=0)then N (a.1<j)else S) (re (kb S) []) (br (!aA a.2) (re (kb S) []) (Q9 (uw.h17 c g (Γ Δ (x+1)) z)))))
  (br (cond (N (z.1.q.1>=0)) (N (z.1.q.1<j)) S) (R (zL z.1.q.1 (X z.1.2.1)) (br k.q (re (AV.bool (gJ (zt z.1.u) z.1.2.1==0)) []) (re (kb S) []))) (re (kb S) []))
def zoL(x:am):=ar [Q7] qH 40000000000000000000 (NZ x)
theorem Zi{e:Type}{t:e->Tr (e⊕az)}{st:Nat->e}{N:Nat}{b:Nat->Bool}{R:az}(h:∀i,i<N->(t (st i)).val=if b i=O then M (.inl (st (i+1)))else M (.inr R)):
  ((List.range N).all b=O/\zH t N (st 0) (st N))\/((List.range N).all b=S/\zU t N (st 0) R):=by
 rcases nG (t:=t) (Φ:=λr=>r=R) 1 st (λi=>b i=O) N (λi x _=>by
  cases d:b i
  .exact .inr ⟨sw,R,zU.of (by rw[h i x,d];rfl),rfl⟩
  .exact .inl ⟨rfl,zH.of (by rw[h i x,d];rfl)⟩)with⟨a,c⟩|⟨a,r,c,rfl⟩
 .exact .inl ⟨by rw[ep];exact λi x=>a i (rg.1 x),c.mono W⟩
 .refine .inr ⟨?_,c.mono W⟩;rw[Bool.eq_false_iff,Ne,ep];exact λq=>a λi x=>q i (rg.2 x)
def At(x:Int)(n:Nat):Bool:=bif N (x>=0)then N (x<(n:Int))else S
def Qr(t:am)(i:Nat):Bool:=!(cond (!aA (Y t.2.1 i (Q zn)).1) O (cond (N ((Y t.2.1 i (Q zn)).2.1<1)) O (cond (N ((Y t.2.1 i (Q zn)).2.1>3)) O (zY t (Y t.2.1 i (Q zn)).1!=(i:Int)))))
def zfM(t:am)(i:Nat):Bool:=At (Y t.t.1 i (Q zG)).1 (X t.2.1)&&aA (Y t.t.1 i (Q zG)).2
def dt(t:am):J Q7:=!(cond (!aA t.1) O (cond (N ((X t.2.1:Int)<1)) O (N ((X t.2.1:Int)>8))))&&((List.range (X t.2.1)).all (Qr t)&&((List.range (X t.r.1)).all (λi=>At (Y t.r.1 i (Q zk)) (X t.2.1))&&((List.range (X t.t.1)).all (zfM t)&&(At t.q.1 (X t.2.1)&&((Y t.2.1 (Z t.q.1) (Q zn)).q&&(gJ t.u t.2.1==0))))))
theorem zb1{t:am}(y:X t.r.1<=aE)(z:X t.t.1<=aE):zoL t=M (dt t,()):=by
 unfold dt;by_cases x:(cond (!aA t.1) O (cond (Q0 ((X t.2.1:Int)<1)) O (Q0 ((X t.2.1:Int)>8))))=O
 .rw[x];refine zR (r:=(.kb S,[])) ?_ rfl;simp only[NZ,Q8];exact zf x
 have A:X t.2.1<=8:=by
  cases p:aA t.1
  .rw[p]at x;simp at x
  .rw[p]at x;simp at x;omega
 have e:(NZ t).val=M (.inl (.h4 t.2.1 (X t.2.1:Int) ((0:Nat):Int) (t,()))):=by
  simp only[NZ,Q8];exact zh x
 rw[iY]at x;rw[x];have B:aE=9223372036854775807:=rfl
 rcases Zi (t:=qH) (R:=(.kb S,[])) (N:=X t.2.1) (st:=λi=>.h4 t.2.1 (X t.2.1:Int) (i:Int) (t,())) (b:=Qr t) (λi h=>by
  simp only[qH,Q8,zO h,zx h,zj,aJ,zo,bh,zu i (show i<aE by omega)];unfold Qr;split
  next c=>rw[c];rfl
  next c=>rw[iY]at c;rw[c];rfl)with⟨j,m⟩|⟨j,m⟩
 rotate_left
 .rw[j];exact zA e m W rfl
 have g:=m.trans (zH.of (s':=.h11 t.r.1 (X t.r.1:Int) ((0:Nat):Int) (t,())) (by
  simp only[qH,Q8,zM,zC,zm];rfl))
 rw[j]
 rcases Zi (t:=qH) (R:=(.kb S,[])) (N:=X t.r.1) (st:=λi=>.h11 t.r.1 (X t.r.1:Int) (i:Int) (t,())) (b:=λi=>At (Y t.r.1 i (Q zk)) (X t.2.1)) (λi h=>by
  simp only[qH,Q8,zO h,zx h,zj,aJ,zu i (show i<aE by omega)];unfold At;split
  next c=>rw[uA]at c;rw[c];rfl
  next c=>rw[iY,Bool.not_eq_false']at c;rw[c];rfl)with⟨k,n⟩|⟨k,n⟩
 rotate_left
 .rw[k];exact zA e (g.ends n) W rfl
 have a:=(g.trans n).trans (zH.of (s':=.h17 t.t.1 (X t.t.1:Int) ((0:Nat):Int) (t,())) (by
  simp only[qH,Q8,zM,zC,zm];rfl))
 rw[k]
 rcases Zi (t:=qH) (R:=(.kb S,[])) (N:=X t.t.1) (st:=λi=>.h17 t.t.1 (X t.t.1:Int) (i:Int) (t,())) (b:=zfM t) (λi h=>by
  simp only[qH,Q8,zO h,zx h,zj,aJ,zu i (show i<aE by omega)];unfold zfM At;split
  next c=>rw[uA]at c;rw[c];rfl
  next c=>rw[iY,Bool.not_eq_false']at c;rw[c];cases aA (Y t.t.1 i (Q zG)).2<;>rfl)with⟨l,o⟩|⟨l,o⟩
 rotate_left
 .rw[l];exact zA e (a.ends o) W rfl
 rw[l];have d:∃r,(qH (.h17 t.t.1 (Io t.t.1:Int) (Io t.t.1:Int) (t,()))).val=Q1 (.inr r)/\bb r.2 [Q7] r.1=Q1 ((At t.q.1 (Io t.2.1)&&((getD t.2.1 (toNat t.q.1) (zi zn)).q&&(gJ t.u t.2.1==0))),()):=by
  simp only[qH,Q8,zM,zo,zC,zm];unfold At;cases c:(cond (Q0 (t.q.1>=0)) (Q0 (t.q.1<(X t.2.1:Int))) S)
  .exact⟨_,rfl,rfl⟩
  .have h:zL t.q.1 (X t.2.1)=O:=by
    cases w:Q0 (t.q.1>=0)<;>simp_all[zL]
   rw[h];cases(Y t.2.1 (Z t.q.1) (Q zn)).q
   .exact⟨_,rfl,rfl⟩
   .exact⟨_,rfl,rfl⟩
 have⟨r,s,v⟩:=d;exact zA e ((a.trans o).ends (zU.of s)) W v
theorem ok8:zZ YO.P 47 Tryz.f47 1:=cI kw
def F8t:ah:=aX [ab] [Q7] λx=>(dt x.1,())
theorem zr2:FK 47 F8t:=aw ok8 λx C b=>Reach.lenA 0 3 zk x.1.r.1 rfl rfl λh=>Reach.lenA 0 4 zG x.1.t.1 rfl rfl λa=>
 LP (n0:=0) (t:=qH) (e:=zsC) (keep:=znn) (gas:=400) (i:=NZ x.1) Ig ok8 (λid _=>b id) kw (by intro s;cases s<;>kernel_rfl) (zb1 h a)
def zh0:=YO.add 47 F8t
theorem Ih:zw zh0:=Ig.add zr2
abbrev znI:=kG [(4,[1,2,19,20,21]),(10,[1,2,30,31])]
inductive Bi where
 |h4 (l1:LV) (l19:LV) (i20:Int) (i21:Int) (z0:zq wF)
 |h10 (l1:LV) (i30:Int) (i31:Int) (z0:zq wF)
abbrev zsP:Bi->Nat×St
 |.h4 l b i h z=>(4,⟨tm 79 [(1,T K l),(2,ptr 0 0),(19,T K b),(20,L i),(21,L h)],[Qa (bF [] wF z)]⟩)
 |.h10 l x a z=>(10,⟨tm 79 [(1,T K l),(2,ptr 0 0),(30,L x),(31,L a)],[Qa (bF [] wF z)]⟩)
def Zz(x:am)(h:J ze.sl):Tr (Bi⊕az):=br (cond (!dt (x.1,x.2.1,x.q.1,x.r.1,x.t.1,zt x.u)) O ((X h:Int)!=(X x.2.1:Int))) (re (L 1) []) (Q9 (Bi.h4 h h (X h:Int) 0 (x,())))
def yl:Bi->Tr (Bi⊕az)
 | .h4 l x a h z=>
  br (N (h<a))
  (R (zL h (X x)) (br (!bf (x.getD h.toNat (Q K))) (re (L 1) []) (Q9 (Bi.h4 l x a (Γ Δ (h+1)) z))))
  (Q9 (Bi.h10 l (X l:Int) 0 z))
 | .h10 l b i z=>
  let c:=l.getD i.toNat (Q K)
  let e:=c.1==0
  let g:=zL i (X z.1.2.1)
  let j:=Y z.1.2.1 i.toNat (Q zn)
  let k:=c.1!=0
  let d:=lp (zt z.1.u) z.1.2.1 l
  br (N (i<b))
  (R (zL i (X l)&&bif e then g else O) (br (cond e j.q S) (re (L 8) []) (R (zL i (X l)&&bif k then zL i (X l)&&g else O) (br (cond k (c.1!=j.2.1) S) (re (L 5) []) (Q9 (Bi.h10 l b (Γ Δ (i+1)) z))))))
  (br (d.1==3&&(d.2.1==0&&(d.q==[]&&O))) (re (L 9) []) (re (L 0) []))
def UF(x:am)(h:J ze.sl):=ar [zk] yl 100000000 (Zz x h)
def zho:=FT [ab,ze.sl] [zk] λx=>UF x.1 x.2.1
theorem SF:FK 48 zho:=Ih.T1 (f:=Tryz.f48) (keep:=znI) (e:=zsP)
def fk(t:am)(row:LV):zr->Int->zy
 |[],_=>if((lp t.u t.2.1 row).1==3&&((lp t.u t.2.1 row).2.1==0&&((lp t.u t.2.1 row).q==[]&&O)))=O then 9 else 0
 |x::r,i=>if(cond (x.1==0) ((Y t.2.1 i.toNat (Q zn)).q) S)=O then 8 else if(cond (x.1!=0) (x.1!=(Y t.2.1 i.toNat (Q zn)).2.1) S)=O then 5 else fk t row r (i+1)
def ic(t:am)(row:LV):zr->Int->zy
 |[],_=>fk t row row 0
 |x::r,i=>if(!bf x)=O then 1 else ic t row r (i+1)
def cR(t:am)(row:J ze.sl):zy:=if(cond (!dt t) O ((X row:Int)!=(X t.2.1:Int)))=O then 1 else ic t row row 0
theorem TH{b:am}(h:dt b=O):X b.2.1<=8:=by
 unfold dt at h;rw[aP]at h;have h:=h.1;cases x:aA b.1
 .rw[x]at h;simp at h
 .rw[x]at h;simp at h;omega
theorem W7(t:am)(x:LV):UF t x=M (cR t x,()):=by
 unfold cR;by_cases h:(cond (!dt t) O ((X x:Int)!=(X t.2.1:Int)))=O
 .rw[zf h];refine zR (r:=(L 1,[])) ?_ rfl;simp only[Zz,zo,bh,Q8];exact zf h
 rw[zh h];have d:dt t=O/\X x=X t.2.1:=by
  cases d:dt t
  .rw[d]at h;simp at h
  .rw[d]at h;simp at h;exact⟨rfl,W⟩
 have p:=TH d.1;have g:∀(m i:Nat),X x-i=m->i<=X x->zU yl (m+1) (.h10 x (X x) i (t,())) (L (fk t x (x.drop i) i),[]):=by
  intro m
  induction m with
  | zero=>
   intro i k l;obtain rfl:i=X x:=by omega
   rw[ky,fk];refine zU.of ?_;simp only[yl,Q8,zM,zo,zC,zm];split<;>rfl
  | succ m n=>
   intro i k l;have a:i<X x:=by omega
   have j:Y x i (Q K)=x[i]:=dm _ _ a;rw[ij a,fk];have b:(yl (.h10 x (X x) i (t,()))).val=if(cond (x[i].1==0) ((Y t.2.1 i (Q zn)).q) S)=O then M (.inr (L 8,[]))else if(cond (x[i].1!=0) (x[i].1!=(Y t.2.1 i (Q zn)).2.1) S)=O then M (.inr (L 5,[]))else M (.inl (.h10 x (X x) ((i+1:Nat):Int) (t,()))):=by
    simp only[yl,Q8,zO a,zx a,zx (show i<X t.2.1 by omega),aJ,j,eY,Bool.cond_self,zj,zu i (show i<aE by unfold aE;omega)]
   simp only[aJ];split
   next c=>exact(zU.of (by rw[b,zf c])).mono W
   .rename_i c;split
    next e=>exact(zU.of (by rw[b,zh c,zf e])).mono W
    next e=>exact(zH.of (by rw[b,zh c,zh e])).ends (n (i+1) W W)
 have o:∀(m i:Nat),X x-i=m->i<=X x->zU yl (m+X x+2) (.h4 x x (X x) i (t,())) (L (ic t x (x.drop i) i),[]):=by
  intro m
  induction m with
  | zero=>
   intro i k l;obtain rfl:i=X x:=by omega
   rw[ky,ic];refine((zH.of (s':=.h10 x (X x) ((0:Nat):Int) (t,())) ?_).ends (g (X x) 0 W W)).mono W;simp only[yl,Q8,zM,zC,zm];rfl
  | succ m n=>
   intro i k l;have a:i<X x:=by omega
   have j:Y x i (Q K)=x[i]:=dm _ _ a;rw[ij a,ic];have b:(yl (.h4 x x (X x) i (t,()))).val=if(!bf x[i])=O then M (.inr (L 1,[]))else M (.inl (.h4 x x (X x) ((i+1:Nat):Int) (t,()))):=by
    simp only[yl,Q8,zO a,zx a,aJ,j,zj,zu i (show i<aE by unfold aE;omega)]
   split
   next c=>exact(zU.of (by rw[b,zf c])).mono W
   next c=>exact((zH.of (by rw[b,zh c])).ends (n (i+1) W W)).mono W
 refine zA (s:=.h4 x x (X x) ((0:Nat):Int) (t,())) ?_ (o (X x) 0 W W) W rfl;simp only[Zz,zo,bh,Q8];exact zh h
def zh1:=zh0.add 48 zho
theorem VR:zw zh1:=Ih.add SF
def zpb:ah:=aX [ab,ze.sl] [zk] λx=>(cR x.1 x.2.1,())
theorem zjO:FK 48 zpb:=iX SF λx=>W7 x.1 x.2.1
def Ed:=zh1.add 48 zpb
theorem VS:zw Ed:=VR.add zjO
open Go.RowKit Go.Lib in
theorem zk8:FK 268 (ac [.str,.str] [.bool] (λx=>X x.2.1==1) λx=>(N (0<=Lib.indexByte x.1 (x.2.1.headD 0)),())):=by
 refine fS (E:=Ed) ⟨Tryz.f268,kw,kw,kw⟩ λx y p h=>?_
 unfold gp at h;split at h
 .simp only[Q8]at h;split at h
  .rename_i g;simp only[bG]at h;subst h;have⟨s,d,u⟩:=x;have g:(X d==1)=O:=g
   match d,g with
   | [c],_=>
    intro C w U B v _ b l a i m;have n:=b.len
    match v,n,b with
    | [q,t],_,b=>
     have j:=b.rv 0 (.str s) q rfl rfl;have k:=b.rv 1 (.str [c]) t rfl rfl;cases j with
     |str _ z=>
     cases k with
     |str _ o=>
     refine(Tryz.strings_Contains_one ⟨s.toArray⟩ c w).mono ?_;rintro e A ⟨rfl,rfl⟩;exact fE l a i m (Below.refl _ _) (.bool _)
  .cases h
 .simp at h
def F63:ah:=ac [.str,.str] [.bool] (λx=>X x.2.1==1) λx=>(N (0<=Lib.indexByte x.1 (x.2.1.headD 0)),())
theorem zrF:FK 268 F63:=zk8
def F89:ah:=ac [.str] [.str] (λx=>N (X x.1<=140737488355328)&&x.1.all λb=>N (b.toNat<128)) λx=>(Lib.toUpperA x.1,())
open Go.RowKit Go.Lib in
theorem zr0:FK 291 F89:=by
 refine fS (E:=Ed) ⟨Tryz.f291,kw,kw,kw⟩ λx B z h=>?_
 unfold gp at h;split at h
 .simp only[Q8]at h;split at h
  .rename_i a;simp only[bG]at h;subst h;have⟨s,u⟩:=x;have a:(N (X s<=140737488355328)&&s.all λb=>N (b.toNat<128))=O:=a;simp only[aP,ba]at a;have⟨i,a⟩:=a;intro C w U F v _ d m c k n;have q:=d.len
   match v,q,d with
   | [A],_,d=>
    have l:=d.rv 0 (.str s) A rfl rfl;cases l with
    |str _ y=>
    refine(Tryz.strings_ToUpper_ascii ⟨s.toArray⟩ w (by simpa[ByteArray.size]using i) (λj b p=>?_)).mono ?_
    .have t:b∈s:=fZ (by simpa using p);simp only[ep,ba]at a;exact a b t
    .rintro e D ⟨rfl,o⟩;have g:=fE (r:=.str (Lib.toUpperA s)) m c k n o (.str _ (by simpa[Lib.toUpperA]using y));exact g
  .cases h
 .simp at h
def py:Nat->Nat->zK
 |0,_=>[]
 |f+1,n=>if n<10 then[UInt8.ofNat (48+n)]else py f (n/10)++[UInt8.ofNat (48+n%10)]
def uJ(n:Int):zK:=if n<0 then 45::py 20 n.natAbs else py 20 n.natAbs
theorem Kg:∀(f n:Nat),n<10^f->0<f->py f n=Lib.decDigits n
 |0,_,_,h=>by omega
 | f+1,n,h,_=>by
  rw[py,Lib.decDigits];split
  .rfl
  .rename_i a;have x:0<f:=by
    cases f with
    |zero=>simp at h;omega
    |succ f=>omega
   rw[Kg f (n/10) (by rw[pm]at h;omega) x]
theorem DX:∀(f n:Nat),(py f n).length<=f
 |0,_=>by simp[py]
 | f+1,n=>by
  rw[py];split
  .simp
  .have:=DX f (n/10);simp;omega
theorem I2(n:Int):(uJ n).length<=21:=by unfold uJ;have:=DX 20 n.natAbs;split<;>simp<;>omega
theorem ZM(n:Int)(h:du .i64 n):Lib.itoa n=uJ n:=by
 have x:-9223372036854775808<=n:=h.1;have a:n<=9223372036854775807:=h.2;unfold Lib.itoa uJ;split
 .rw[Kg 20 _ W W]
 .rw[Kg 20 _ W W];congr 1;omega
def zpk:ah:=ac [zk,zk] [.str] (λx=>x.2.1==10) λx=>(uJ x.1,())
open Go.RowKit Go.Lib in
theorem zjX:FK 333 zpk:=by
 refine fS (E:=Ed) ⟨Tryz.f333,kw,kw,kw⟩ λx h0 F a=>?_
 unfold gp at a;split at a
 .simp only[Q8]at a;split at a
  .rename_i i;simp only[bG]at a;subst a;have⟨n,b,u⟩:=x;have i:(b==10)=O:=i;simp only[bW]at i;subst i;intro C w U ρ v _ d t c m o;have B:=d.len
   match v,B,d with
   | [G,H],_,d=>
    have p:=d.rv 0 (L n) G rfl rfl;have q:=d.rv 1 (L 10) H rfl rfl;cases p with
    |int _ _ l=>
    cases q;have s:Rv w U (λ_=>Q2) (.tab .u64 nO) (.pointer (Q1 ⟨5,0,Q2⟩)):=o.gl 5;have g:Lib.TabIs Tryz.prog w "internal/strconv.uint64pow10" .u64 Lib.pow10Tab:=by
     cases s with
     |tab _ _ _ h P y hU=>
     have z:Tryz.prog.globalNamed "internal/strconv.uint64pow10"=Q1 5:=by kernel_rfl
     have D:Lib.pow10Tab=nO:=by decide+kernel
     unfold Lib.TabIs World.var?;rw[z,D];simp only[Option.bind_some,y]
    refine(Tryz.strconv_FormatInt_10 n l.1 l.2 w g).mono ?_;rintro e w' ⟨rfl,k,os,rfl⟩;rw[ZM n l];exact fE (r:=.str (uJ n)) t c m o ⟨rfl,rfl,rfl,by show w.heap.size<=(w.heap++os).size;simp,λj A=>by show(w.heap++os)[j]?=w.heap[j]?;rw[Array.getElem?_append_left A]⟩ (.str _ (by have:=I2 n;unfold aE;omega))
  .cases a
 .simp at a
theorem xS(o n:zK):∀(k:Nat)(s:zK),(Lib.replaceK o n k s).length<=X s+k*X n
 |0,s=>by simp[Lib.replaceK]
 | k+1,s=>by
  rw[Lib.replaceK];split
  .omega
  .have:=xS o n k (s.drop ((Lib.index s o).toNat+X o));simp only[g9,rc,List.length_drop]at this|-;rw[jN];omega
theorem mF(s o n:zK):(Lib.replaceAll s o n).length<=X s+(X s+1)*X n:=by
 unfold Lib.replaceAll Lib.replace;split
 .omega
 .refine be (xS o n _ s) ?_;have h:=Lib.count_le s o;have:Lib.replaceNum s o (-1)=Lib.count s o:=by unfold Lib.replaceNum;rw[zf (.inl W)]
  rw[this];have:=f5 (X n) h;omega
def xR(s o n:zK):Bool:=N (X s<=4000000000)&&(N (1<=X o)&&N (X n<=1000))
def zpl:ah:=ac [.str,.str,.str] [.str] (λx=>xR x.1 x.2.1 x.q.1) λx=>(Lib.replaceAll x.1 x.2.1 x.q.1,())
open Go.RowKit Go.Lib in
theorem zjY:FK 334 zpl:=by
 refine fS (E:=Ed) ⟨Tryz.f334,kw,kw,kw⟩ λx h0 h9 a=>?_
 unfold gp at a;split at a
 .simp only[Q8]at a;split at a
  .rename_i d;simp only[bG]at a;subst a;have⟨s,o,n,u⟩:=x;have d:xR s o n=O:=d;unfold xR at d;simp only[aP,ba]at d;have⟨h4,g,i⟩:=d;intro C w U ρ v _ b H j y z;have hl:=b.len
   match v,hl,b with
   | [v1,v2,v3],_,b=>
    have D:=b.rv 0 (.str s) v1 rfl rfl;have F:=b.rv 1 (.str o) v2 rfl rfl;have G:=b.rv 2 (.str n) v3 rfl rfl;cases D with
    |str _ h6=>
    cases F with
    |str _ h7=>
    cases G with
    |str _ h8=>
    have l:Rv w U (λ_=>Q2) .gint (.pointer (M ⟨0,0,Q2⟩)):=z.gl 0;have p:∃m:Int,w.cell? ⟨0,0,Q2⟩=M (.int .i64 m):=by
     cases l with
     |gint m _ h fr _ P _=>exact⟨m,by simp[World.cell?,P]⟩
    have⟨m,hm⟩:=p;have h5:=Lib.countB_le (⟨o.toArray⟩:ByteArray) (by simpa[ByteArray.size]using g) (X s) (⟨s.toArray⟩:ByteArray) (by simp[ByteArray.size]);have k:(⟨s.toArray⟩:ByteArray).size=X s:=by simp[ByteArray.size]
    have t:(⟨n.toArray⟩:ByteArray).size=X n:=by simp[ByteArray.size]
    have B:Lib.countB (⟨s.toArray⟩:ByteArray) ⟨o.toArray⟩*X n<=4000000000*1000:=HY W i;refine(Tryz.strings_ReplaceAll ⟨s.toArray⟩ ⟨o.toArray⟩ ⟨n.toArray⟩ m w (by rw[k];omega) hm (by simpa[ByteArray.size]using g) (by rw[k,t];omega)).mono ?_;rintro e w' ⟨rfl,c⟩;refine fE (r:=.str (Lib.replaceAll s o n)) H j y z c (.str _ ?_);have A:=mF s o n;have q:(X s+1)*X n<=4000000001*1000:=HY W i;unfold aE;omega
  .cases a
 .simp at a
def zpj:ah:=ac [.sl .str,.str] [.str] (λx=>N (X x.1<=140737488355328)&&N ((Lib.join x.1 x.2.1).length<=140737488355328)) λx=>(Lib.join x.1 x.2.1,())
open Go.RowKit Go.Lib in
theorem zjW:FK 332 zpj:=by
 refine fS (E:=Ed) ⟨Tryz.f332,kw,kw,kw⟩ λx h0 h7 d=>?_
 unfold gp at d;split at d
 .simp only[Q8]at d;split at d
  .rename_i k;simp only[bG]at d;subst d;have⟨l,h,u⟩:=x;have k:(N (X l<=140737488355328)&&N ((Lib.join l h).length<=140737488355328))=O:=k;simp only[aP,ba]at k;have⟨t,k⟩:=k;have h5:aE=9223372036854775807:=rfl;intro C w U ρ B _ p hH i A hW;have hl:=p.len
   match B,hl,p with
   | [v1,v2],_,p=>
    have G:=p.rv 0 (.sl .str l) v1 rfl rfl;have h2:=p.rv 1 (.str h) v2 rfl rfl;cases h2 with
    |str _ h6=>
    generalize y:l=l0 at G k t p;cases G with
    | sl0 _ a c=>
     subst y;refine(Tryz.strings_Join_none a c ⟨h.toArray⟩ w).mono ?_;rintro e w' ⟨rfl,rfl⟩;exact fE (r:=.str []) hH i A hW (Below.refl _ _) (.str _ sw)
    | sl _ _ b o c v D hm hb hU m F=>
     subst y;have d:∀(j:Nat) x,(l.map λs=>(⟨s.toArray⟩:ByteArray))[j]?=M x->w.cell? ⟨b,o+j,Q2⟩=M (.string x):=by
      intro j x n;simp only[dK,dW]at n;obtain⟨s,hs,rfl⟩:=n;obtain⟨z,rfl⟩:=dC.1 hs;have H:=m j 0 z (by simp[Sh.size]);have P:=F j z 0 (.str l[j]) rfl;simp only[Sh.size,Nat.mul_one,ve]at H;rw[H];generalize v j 0=vv at P;cases P;rfl
     have g:(l.map λs=>(⟨s.toArray⟩:ByteArray)).map (·.data.toList)=l:=by
      simp[Bn]
     have n:=Tryz.strings_Join b o c (l.map λs=>(⟨s.toArray⟩:ByteArray)) ⟨h.toArray⟩ w d hb (by simpa using t) (by simpa using D) (by rw[g];exact k);rw[g]at n;simp only[cW]at n;refine n.mono ?_;rintro e w' ⟨rfl,q⟩;exact fE (r:=.str (Lib.join l h)) hH i A hW q (.str _ W)
  .cases d
 .simp at d
def uD:=Ed.addL [(268,F63),(291,F89),(333,zpk),(334,zpl),(332,zpj)]
theorem jS:zw uD:=VS.addL<|fc zrF<|fc zr0<|fc zjX<|fc zjY<|fc zjW jb
theorem Reach.promNil{fn:FuncId}{s:St}(e:Sh)(H:∀id,C.ρ0 id=Q2)(h:Reach E C fn t s (λr h=>(r,h)=(.nils,[]))):Reach E C fn t s (λr h=>(r,h)=(.vec 0,[.vec e []])):=by
 intro b z a w U ρ F G hc P;have⟨A,y,B,⟨v,r,h',p,ρ',he,hq,n,hH,q,h6,k⟩,l,hf,hl⟩:=h b z a w U ρ F G hc P;cases hq;cases n with
 |nils i=>
 have c:∀id o b,o=(AO.vec e []:AO)\/o=AO.dead->¬aq (λid=>if id=0 then M (.slice i 0 0)else Q2) id o b:=by
  rintro id o b ho ⟨h3,x,h4,h5⟩;rcases ho with rfl|rfl
  .simp only at h4;split at h4
   .cases h4;cases i<;>simp[cd]at h5
   .cases h4
  .simp[AO.owns]at h3
 have g:∀id,(([AO.vec e []]:List AO).getD id .dead)=(ite (id=0) (AO.vec e []) AO.dead):=by
  intro id;cases id<;>simp
 refine⟨A,y,B,⟨_,_,_,p,λid=>if id=0 then M (.slice i 0 0)else Q2,he,rfl,.vec 0 _ sw (by simp[Value.oneCell']),⟨λid=>?_,λj h7 b o=>?_,λid b o=>?_⟩,λid m=>?_,λid v u=>?_,k⟩,l,hf,hl⟩
 .show bz y p _ id (([AO.vec e []]:List AO).getD id .dead);rw[g];split
  next D=>subst D;exact⟨i,0,sw,sw,.inl ⟨rfl,rfl⟩⟩
  .trivial
 .exfalso;have d:aq (λid=>if id=0 then M (.slice i 0 0)else Q2) j (([AO.vec e []]:List AO).getD j .dead) b:=o;rw[g]at d;split at d
  .exact c _ _ _ (.inl rfl) d
  .exact c _ _ _ (.inr rfl) d
 .exfalso;have d:aq (λid=>if id=0 then M (.slice i 0 0)else Q2) id (([AO.vec e []]:List AO).getD id .dead) b:=o;rw[g]at d;split at d
  .exact c _ _ _ (.inl rfl) d
  .exact c _ _ _ (.inr rfl) d
 .simp at m;simp;omega
 .rw[H id]at u;cases u
def bR:Tr zT->List Item×List Item×St
 |.ok (.fork _ k h s)=>(k,h,s)
 |_=>([],[],⟨[],[]⟩)
abbrev MB:Nat->aY:=λ_=>{ }
abbrev Nd(l:List zg):Tr zT:=run uD 0 MB (Func.results Tryz.f204).toList 300 (bu Tryz.f204) (bl (Func.ntmps Tryz.f204) [.sl .expr l] [])
theorem zfm:zZ uD.P 204 Tryz.f204 1:=cI kw
theorem zyc(l:List zg):Nd l=.ok (.fork l.isEmpty (bR (Nd l)).1 (bR (Nd l)).2.1 (bR (Nd l)).q):=kw
theorem zvR(l:List zg):run uD 0 MB (Func.results Tryz.f204).toList 300 (bR (Nd l)).1 (bR (Nd l)).q=.ok (.ret .nils []):=kw
theorem zvS(l:List zg):run uD 0 MB (Func.results Tryz.f204).toList 300 (bR (Nd l)).2.1 (bR (Nd l)).q=.chk (N (X l<=1073741824)) (.ok (.ret (.vec 0) [.vec .expr l])):=kw
def G53:fz [M (.sl .expr)]:=λx h=>match h with
 |[]=>.chk (N (X x.1<=1073741824)) (.ok (.vec 0,[.vec .expr x.1]))
 |_=>.err
def F53:ah:=bj [M (.sl .expr)] G53
theorem zrw:FK 204 F53:=by
 refine dw zfm λx j i a C b=>?_
 unfold G53 at a;split at a
 .simp only[Q8]at a;split at a
  .rename_i d;simp only[bG]at a;subst a;have⟨l,u⟩:=x;refine zJ (n0:=0) jS zfm b (zyc l) ?_;refine⟨λc=>?_,?_⟩
   .have e:l=[]:=List.isEmpty_iff.1 c;refine Reach.weaken (Q:=λr h=>(r,h)=(.vec 0,[.vec .expr []])) (Reach.promNil .expr (λid=>b id sw) (zJ (n0:=0) jS zfm b (zvR l) rfl)) ?_;intro r h g;cases g;refine⟨_,?_,λ_ _ _ _ h=>h⟩;show(AV.vec 0,[AO.vec Q5 []])=(AV.vec 0,[AO.vec Q5 l]);rw[e]
   .exact zJ (n0:=0) jS zfm b (zvS l) (fT d rfl)
  .cases a
 .simp at a
abbrev Nc(l:aV):Tr zT:=run uD 0 MB (Func.results Tryz.f156).toList 300 (bu Tryz.f156) (bl (Func.ntmps Tryz.f156) [.sl zn l] [])
theorem zfk:zZ uD.P 156 Tryz.f156 1:=cI kw
theorem zxU(l:aV):Nc l=.ok (.fork l.isEmpty (bR (Nc l)).1 (bR (Nc l)).2.1 (bR (Nc l)).q):=kw
theorem zvO(l:aV):run uD 0 MB (Func.results Tryz.f156).toList 300 (bR (Nc l)).1 (bR (Nc l)).q=.ok (.ret .nils []):=kw
theorem zvP(l:aV):run uD 0 MB (Func.results Tryz.f156).toList 300 (bR (Nc l)).2.1 (bR (Nc l)).q=.chk (N (X l<=1073741824)) (.ok (.ret (.vec 0) [.vec zn l])):=kw
def G32:fz [M (.sl zn)]:=λx h=>match h with
 |[]=>.chk (N (X x.1<=1073741824)) (.ok (.vec 0,[.vec zn x.1]))
 |_=>.err
def F32:ah:=bj [M (.sl zn)] G32
theorem zrd:FK 156 F32:=by
 refine dw zfk λx j i a C b=>?_
 unfold G32 at a;split at a
 .simp only[Q8]at a;split at a
  .rename_i d;simp only[bG]at a;subst a;have⟨l,u⟩:=x;refine zJ (n0:=0) jS zfk b (zxU l) ?_;refine⟨λc=>?_,?_⟩
   .have e:l=[]:=List.isEmpty_iff.1 c;refine Reach.weaken (Q:=λr h=>(r,h)=(.vec 0,[.vec zn []])) (Reach.promNil zn (λid=>b id sw) (zJ (n0:=0) jS zfk b (zvO l) rfl)) ?_;intro r h g;cases g;refine⟨_,?_,λ_ _ _ _ h=>h⟩;show(AV.vec 0,[AO.vec zn []])=(AV.vec 0,[AO.vec zn l]);rw[e]
   .exact zJ (n0:=0) jS zfk b (zvP l) (fT d rfl)
  .cases a
 .simp at a
def zms:=uD.addL [(204,F53),(156,F32)]
theorem NF:zw zms:=jS.addL<|fc zrw<|fc zrd jb
def Xq(c:zg->Bool):ah:=ac [.expr] [.expr] (λx=>c x.1) λx=>(x.1,())
def VI(c:zg->Bool):ct:=zms.add 146 (Xq c)
variable {x:zg->Bool}
theorem D2(h:FK 146 (Xq x)):zw (VI x):=NF.add h
abbrev zt9:Nat->aY:=λj=>if j=3 then{slots:=[1,2,10,11]}else{ }
abbrev Uw(i h:Int)(j:zK)(x a:Int)(b c:zK)(l:List (J Q5)):St:={
 tmps:=
  (tm 26 [(1,ptr 0 0),(2,ptr 1 0),(10,L i),(11,L h)]),
 heap:=
  [Qa [I j,L x,L a,I b,I c,AV.vec 2],
   Qa [I [],L 0,L 0,I [],I [],nils],AO.vec Q5 l]}
theorem Rx(c:zg->Bool):zZ (VI c).P 146 Tryz.f146 1:=cI kw
theorem zxV(c:zg->Bool)(o:zK)(v:V)(s:zK)(l:List zg):rn (VI c) 0 zt9 Tryz.f146 [zX Q5 (zg.mk o v s l)] []=
 R (N (X l<=1073741824)) (Tr.ok (zT.head 3 (ap Tryz.f146 3) (Uw (X l:Int) 0 o v.1 v.2.1 v.2.2 s l))):=kw
theorem zaE(c:zg->Bool)(h i:Int)(j:zK)(x a:Int)(b d:zK)(l:List (Sem Sh.expr)):rh (VI c) 0 zt9 Tryz.f146 3 (Uw h i j x a b d l)=
 br (N (i<h))
 (chk (zL i (Io l))
  (chk (decide (i.toNat<Io l))
   (chk (c (zt (l.getD i.toNat (zi Sh.expr))))
    (chk (zL i (Io l))
     (chk (decide (i.toNat<Io l))
      (Tr.ok
       (zT.head 3 (ap Tryz.f146 3)
        (Uw h (Γ Δ (i+1)) j x a b d
         (l.set i.toNat
          (zt (l.getD i.toNat (Q Q5))))))))))))
 (Tr.ok
  (zT.ret (agg [I j,L x,L a,I b,I d,AV.vec 0]) [AO.vec Q5 l])):=kw
theorem zwK(d:FK 146 (Xq x))(c:∀id,C.ρ0 id=Q2)(o:zK)(v:V)(s:zK)(l:List zg)(t:X l<=1073741824)(b:l.all x=O):
  ∀(k i:Nat),X l-i=k->i<=X l->Reach (VI x) C 146 (ap Tryz.f146 3) (Uw (X l) i o v.1 v.2.1 v.q s l) (λr h=>bb h [.expr] r=M (zg.mk o v s l,())):=by
 intro k
 induction k with
 | zero=>
  intro i p n;obtain rfl:i=X l:=by omega
  refine zJ (n0:=0) (D2 d) (Rx x) (λid _=>c id) (zaE x _ _ _ _ _ _ _ _) ?_;simp only[zM,Tr.val_brF];rfl
 | succ k e=>
  intro i p n;have a:i<X l:=by omega
  refine zJ (n0:=0) (D2 d) (Rx x) (λid _=>c id) (zaE x _ _ _ _ _ _ _ _) ?_;have g:x l[i]=O:=ep.1 b _ (bp a);have j:N ((i:Int).toNat<X l)=O:=by simpa using a
  have m:l.set (i:Int).toNat l[i]=l:=by simp
  simp only[zO a,zx a,dm l _ a,zg.eta,Tr.val_brT,Tr.val_chkT,g,j,m,zu i um];exact e (i+1) W W
def mR:Nat->zg->Bool
 |0,_=>S
 |n+1,.mk _ _ _ l=>N (X l<=1073741824)&&l.all (mR n)
theorem PN:∀n,FK 146 (Xq (mR n))
 |0=>fb ⟨Tryz.f146,(Rx (λ_=>S)).1,(Rx (λ_=>S)).2.1,(Rx (λ_=>S)).q.1⟩ (λ_=>rfl)
 | n+1=>by
  refine aZ (E:=VI (mR n)) (Rx _) λx h C a=>?_
  have⟨⟨o,v,s,l⟩,u⟩:=x;have h:(N (X l<=1073741824)&&l.all (mR n))=O:=h;simp only[aP,ba]at h;refine zJ (n0:=0) (D2 (PN n)) (Rx _) (λid _=>a id) (zxV _ o v s l) ?_;refine fT (by simpa using h.1) ?_;exact zwK (PN n) a o v s l h.1 h.2 _ 0 rfl (aK _)
def F33:ah:=Xq (mR 16)
theorem zre:FK 146 F33:=PN 16
def nf:=zms.add 146 F33
theorem jT:zw nf:=NF.add zre
abbrev jL:Sh:=.pr .str .str
abbrev je:Sh:=.pr .str .expr
abbrev aB:Sh:=.pr .str (.pr .str (.pr .str (.pr (.sl .str) (.pr (.sl zn) (.pr .str (.pr (.sl .str) (.pr (.sl jL) (.pr .expr (.pr (.sl K) (.pr (.sl je) (.pr .expr .str)))))))))))
abbrev zP:=J aB
def zeA(x:zP):zP:=(x.1,x.2.1,x.2.2.1,x.2.2.2.1,x.2.2.2.2.1,x.2.2.2.2.2.1,x.2.2.2.2.2.2.1,x.2.2.2.2.2.2.2.1,zt x.2.2.2.2.2.2.2.2.1,x.2.2.2.2.2.2.2.2.2.1,x.2.2.2.2.2.2.2.2.2.2.1,zt x.2.2.2.2.2.2.2.2.2.2.2.1,x.2.2.2.2.2.2.2.2.2.2.2.2)
theorem Tj(x:zP):zeA x=x:=by unfold zeA;rw[zo,zo]
abbrev xE(e:zg):List AV:=[.str e.op,L e.v.1,L e.v.2.1,.str e.v.q,.str e.s,.sl Q5 e.l]
abbrev zE:List AV:=[.str [],L 0,L 0,.str [],.str [],.nils]
abbrev aS(o t x:zK)(n h:AV)(k:zK)(u a:AV)(c:List AV)(rw st:AV)(w:List AV)(b:zK):AV:=.agg ([.str o,.str t,.str x,n,h,.str k,u,a]++c++[rw,st]++w++[.str b])
abbrev aR(x:zP)(r:zK):AV:=aS x.1 x.2.1 [] .nils .nils [] .nils .nils zE .nils .nils zE r
abbrev aW(x:zP):AV:=aS x.1 x.2.1 [] .nils .nils [] .nils .nils zE .nils .nils (xE x.s.1) []
abbrev aM(x:zP)(n:AV)(k h:zK):AV:=aS x.1 x.2.1 x.q.1 n .nils k .nils .nils (xE x.x.1) .nils .nils zE h
abbrev nS:AV:=aS [] [] [] .nils .nils [] .nils .nils zE .nils .nils zE []
abbrev zi9:Nat->aY:=λj=>if j=2 then{slots:=[0,2,4]}else{ }
abbrev Gm(s:TS)(i j:Int)(h:List UInt8):St:={tmps:=(tm 37 [(0,I s),(2,ptr 0 0),(4,L i)]),heap:=[Qa [L j,I h]]}
theorem zar:zZ (nf).P 336 Tryz.f336 1:=cI kw
theorem zs0(x:TS):rn nf 0 zi9 Tryz.f336 [zX Q6 x] []=Tr.ok (zT.head 2 (ap Tryz.f336 2) (Gm x 1 0 [])):=kw
theorem zfp(s:TS)(i j:Int)(h:List UInt8):rh nf 0 zi9 Tryz.f336 2 (Gm s i j h)=let a:=Γ Δ (i+1);let x:=(X s:Int);let b:=Qg (i.toNat-Z 1) (Qh (Z 1) s);br (N (i<x)) (R (zL i (X s)) (br ((↑(Y s i.toNat 0).toNat:Int)!=39) (Tr.ok (zT.head 2 (ap Tryz.f336 2) (Gm s a j h))) (R (cond (N (Γ Δ (i+1)<x)) (zL a (X s)) O) (br (cond (N (Γ Δ (i+1)<x)) ((↑(Y s a.toNat 0).toNat:Int)==39) S) (Tr.ok (zT.head 2 (ap Tryz.f336 2) (Gm s (Γ Δ (Γ Δ (i+1)+1)) j h))) (R (N (0<=1)&&N (1<=i)&&N (i<=x)) (R (xR b pq [39]) (Tr.ok (zT.ret (tup [agg [L 3,I (Lib.replaceAll b pq [39])],L a]) [])))))))) (Tr.ok (zT.ret (tup [agg [L 0,I []],L 0]) [])):=kw
def fO:Nat->(Sem Sh.str)->Int->Int->(List UInt8)->dA×zy
 |0,_,_,_,_=>default
 |n+1,s,i,j,h=>(if N (i<(X s:Int))=O then
 if((↑(Y s i.toNat 0).toNat:Int)!=39)=O then fO n s (Γ Δ (i+1)) j h
 else
  if
    (bif N (Γ Δ (i+1)<(X s:Int))then(↑(Y s (Γ Δ (i+1)).toNat 0).toNat:Int)==39
     else S)=
     O then
   fO n s (Γ Δ (Γ Δ (i+1)+1)) j h
  else((3,Lib.replaceAll (Qg (i.toNat-Z 1) (Qh (Z 1) s)) pq [39]),Γ Δ (i+1))
else((0,[]),0))
def jZ:Nat->(Sem Sh.str)->Int->Int->(List UInt8)->Bool
 |0,_,_,_,_=>S
 |n+1,s,i,j,h=>(if N (i<(X s:Int))=O then
 if zL i (Io s)=true then
  if((↑(Y s i.toNat 0).toNat:Int)!=39)=O then jZ n s (Γ Δ (i+1)) j h
  else
   if (cond (decide (Γ Δ (i+1) < (Io s:Int))) (zL (Γ Δ (i+1)) (Io s)) true)=true then
    if
      (bif N (Γ Δ (i+1)<(X s:Int))then(↑(Y s (Γ Δ (i+1)).toNat 0).toNat:Int)==39
       else S)=
       O then
     jZ n s (Γ Δ (Γ Δ (i+1)+1)) j h
    else
     if(N (0<=1)&&N (1<=i)&&N (i<=(X s:Int)))=O then
      if xR (Qg (i.toNat-Z 1) (Qh (Z 1) s)) pq [39]=O then O else S
     else S
   else S
 else S
else O)
theorem ST{C:eW}(c:∀id,C.ρ0 id=Q2):∀(n:Nat)(s:TS)(i:Int)(j:Int)(x:List UInt8),jZ n s i j x=O->
  Reach (nf) C 336 (ap Tryz.f336 2) (Gm s i j x) (λr h=>bb h [lu,zk] r=M ((fO n s i j x).1,(fO n s i j x).2,()))
 |0,s,i,j,x,a=>by cases a
 | n+1,s,i,j,x,a=>by
  refine zJ jT (zar) (λid _=>c id) (zfp _ _ _ _) ?_;rw[jZ]at a;generalize b:fO (n+1) s i j x=y;rw[fO]at b
  skip
  repeat' (first|with_reducible refine obr b a (λ_ b a=>?_) (λ_ b a=>?_)|with_reducible refine Fp b (λ_ b=>?_) (λ_ b=>?_)|with_reducible refine KU a (λa=>?_)|with_reducible refine eo ?_)
  all_goals first|(cases a;done)|(subst b;first|(change Reach _ _ _ _ _ _;refine ST c n _ _ _ _ ?_<;>exact a)|rfl)
def iU(x:TS):dA×zy:=(fO (X x+1) x 1 0 [])
def qe(x:TS):Bool:=(jZ (X x+1) x 1 0 [])
def zpn:ah:=ac [Q6] [lu,zk] (λx=>qe x.1) λx=>((iU x.1).1,(iU x.1).2,())
theorem zj0:FK 336 zpn:=by
 refine aZ (zar) λx h C b=>?_
 unfold qe at h;refine zJ jT (zar) (λid _=>b id) (zs0 x.1) ?_;generalize a:iU x.1=y;unfold iU at a
 try simp only[zg.eta,zo]
 repeat' (first|with_reducible refine obr a h (λ_ a h=>?_) (λ_ a h=>?_)|with_reducible refine Fp a (λ_ a=>?_) (λ_ a=>?_)|with_reducible refine KU h (λh=>?_)|with_reducible refine eo ?_)
 all_goals first|(cases h;done)|(subst a;first|(change Reach _ _ _ _ _ _;refine ST b _ _ _ _ _ ?_<;>exact h)|rfl)
abbrev ztS:Nat->aY:=λ_=>{ }
theorem zjl:zZ (nf).P 321 Tryz.f321 1:=cI kw
theorem zsY(x:J Q5):rn nf 0 ztS Tryz.f321 [zX Q5 x] []=Tr.ok (zT.ret (AV.bool (cond (zg.op x==[]) (cond ((zg.v x).1==0&&((zg.v x).2.1==0&&((zg.v x).2.2==[]&&O))) (cond (zg.s x==[]) ((↑(zg.l x).length:Int)==0) S) S) S)) []):=kw
def iz(x:J Q5):J Q7:=(cond (zg.op x==[]) (cond ((zg.v x).1==0&&((zg.v x).2.1==0&&((zg.v x).2.2==[]&&O))) (cond (zg.s x==[]) ((↑(zg.l x).length:Int)==0) S) S) S)
def zpd:ah:=aX [Q5] [Q7] λx=>(iz x.1,())
theorem zjQ:FK 321 zpd:=by
 refine aw (zjl) λx C a=>?_
 refine zJ jT (zjl) (λid _=>a id) (zsY x.1) ?_;generalize h:iz x.1=y;unfold iz at h
 try simp only[zg.eta,zo]
 exact Uv h
abbrev zyU:Nat->aY:=λ_=>{ }
theorem zvJ:zZ (nf).P 290 Tryz.f290 1:=cI kw
theorem zyt(x:TS):rn nf 0 zyU Tryz.f290 [zX Q6 x] []=Tr.ok (zT.ret (I x) []):=kw
def nz(x:TS):J Q6:=(x)
def F88:ah:=aX [Q6] [Q6] λx=>(nz x.1,())
theorem zrZ:FK 290 F88:=by
 refine aw (zvJ) λx C a=>?_
 refine zJ jT (zvJ) (λid _=>a id) (zyt x.1) ?_;generalize h:nz x.1=y;unfold nz at h
 try simp only[zg.eta,zo]
 exact Uv h
abbrev zyR:Nat->aY:=λ_=>{ }
theorem zvG:zZ (nf).P 282 Tryz.f282 1:=cI kw
theorem zyq(x:TS):rn nf 0 zyR Tryz.f282 [zX Q6 x] []=Tr.ok (zT.ret (AV.bool (cond (eU x) (!kd x) S)) []):=kw
def dG(x:TS):J Q7:=(cond (eU x) (!kd x) S)
def F80:ah:=aX [Q6] [Q7] λx=>(dG x.1,())
theorem zrV:FK 282 F80:=by
 refine aw (zvG) λx C a=>?_
 refine zJ jT (zvG) (λid _=>a id) (zyq x.1) ?_;generalize h:dG x.1=y;unfold dG at h
 try simp only[zg.eta,zo]
 exact Uv h
abbrev zum:Nat->aY:=λ_=>{unroll:=O}
theorem zjp:zZ (nf).P 225 Tryz.f225 1:=cI kw
theorem zs5(x:dA):rn nf 0 zum Tryz.f225 [zX lu x] []=let a:=(X x.2:Int);let h:=Tr.ok (zT.ret (kb S) []);br (x.1==3) (Tr.ok (zT.ret (AV.bool (bf (2,0,x.2))) [])) (br (x.1==4) (R (cond (a==1) (X x.2==1) O) (Tr.ok (zT.ret (AV.bool (cond (a==1) (N (0<=Lib.indexByte zmc (List.headD x.2 0))) S)) []))) (br O (R O (br (1==x.1) (Tr.ok (zT.ret (AV.bool (cond (N (a>=1)) (cond (N (a<=16)) ((bH bt cv x.2:Int)==a) S) S)) [])) (br O (R O (br (2==x.1) (Tr.ok (zT.ret (AV.bool (cond (N (a>=1)) (cond (N (a<=19)) ((bH aD aD x.2:Int)==a) S) S)) [])) (br S Tr.err h))) h))) h)):=kw
def dI(x:dA):J Q7:=(ite ((x.1==3)=O) (bf (2,0,x.2)) (ite ((x.1==4)=O) (cond ((X x.2:Int)==1) (N (0<=Lib.indexByte zmc (List.headD x.2 0))) S) (ite (O=O) (ite ((1==x.1)=O) (cond (N ((X x.2:Int)>=1)) (cond (N ((X x.2:Int)<=16)) ((bH bt cv x.2:Int)==(X x.2:Int)) S) S) (ite (O=O) (ite ((2==x.1)=O) (cond (N ((X x.2:Int)>=1)) (cond (N ((X x.2:Int)<=19)) ((bH aD aD x.2:Int)==(X x.2:Int)) S) S) (ite (S=O) default S)) S)) S)))
def tY(x:dA):Bool:=(ite ((x.1==3)=O) O (ite ((x.1==4)=O) (ite ((cond ((X x.2:Int)==1) (X x.2==1) O)=O) O S) (ite (O=O) (ite (O=O) (ite ((1==x.1)=O) O (ite (O=O) (ite (O=O) (ite ((2==x.1)=O) O (ite (S=O) S O)) S) O)) S) O)))
def zqe:ah:=ac [lu] [Q7] (λx=>tY x.1) λx=>(dI x.1,())
theorem zkU:FK 225 zqe:=by
 refine aZ (zjp) λx h C b=>?_
 unfold tY at h;refine zJ jT (zjp) (λid _=>b id) (zs5 x.1) ?_;generalize a:dI x.1=y;unfold dI at a
 skip
 exact MC a h
def mj:=nf.addL [(336,zpn),(321,zpd),(290,F88),(282,F80),(225,zqe)]
theorem ja:zw mj:=jT.addL<|fc zj0<|fc zjQ<|fc zrZ<|fc zrV<|fc zkU jb
abbrev zyS:Nat->aY:=λ_=>{ }
theorem zvH:zZ (mj).P 287 Tryz.f287 1:=cI kw
theorem zyr(x:J Q5):rn mj 0 zyS Tryz.f287 [zX Q5 x] []=Tr.ok (zT.ret (AV.bool (cond (iz (zt x)) O (dU (zt x)))) []):=kw
def cy(x:J Q5):J Q7:=(cond (iz x) O (dU x))
def F85:ah:=aX [Q5] [Q7] λx=>(cy x.1,())
theorem zrW:FK 287 F85:=by
 refine aw (zvH) λx C a=>?_
 refine zJ ja (zvH) (λid _=>a id) (zyr x.1) ?_;generalize h:cy x.1=y;unfold cy at h
 try simp only[zg.eta]
 exact Uv h
def zsu(x:cF):J Q7:=(cond (dG x.1) (cond (N (x.2.1>=1)) (N (x.2.1<=3)) S) S)
def zv3(x:J jL):J Q7:=(cond (dG x.1) (dG x.2) S)
abbrev zyW:Nat->aY:=λ_=>{ }
theorem zvK:zZ (mj).P 294 Tryz.f294 1:=cI kw
theorem zyu(x:zp):rn mj 0 zyW Tryz.f294 [zX K x] []=br (!bf x) (Tr.ok (zT.ret (I []) [])) (br (x.1==1) (R (10==10) (Tr.ok (zT.ret (I (uJ x.2.1)) []))) (br (x.1==2) (R (xR x.2.2 [39] pq) (R (N ([39].length+(Lib.replaceAll x.2.2 [39] pq).length<=1099511627776)) (R (N (X ([39]++Lib.replaceAll x.2.2 [39] pq)+[39].length<=1099511627776)) (Tr.ok (zT.ret (I ([39]++Lib.replaceAll x.2.2 [39] pq++[39])) []))))) (br (x.1==3) (br (eT x==2) (Tr.ok (zT.ret (I Kd) [])) (Tr.ok (zT.ret (I Kc) []))) (Tr.ok (zT.ret (I Hd) []))))):=kw
def jg(x:zp):J Q6:=(ite ((!bf x)=O) [] (ite ((x.1==1)=O) (uJ x.2.1) (ite ((x.1==2)=O) ([39]++Lib.replaceAll x.2.2 [39] pq++[39]) (ite ((x.1==3)=O) (ite ((eT x==2)=O) Kd Kc) Hd))))
def Bb(x:zp):Bool:=(ite ((!bf x)=O) O (ite ((x.1==1)=O) (ite ((10==10)=O) O S) (ite ((x.1==2)=O) (ite (xR x.2.2 [39] pq=O) (ite (N ([39].length+(Lib.replaceAll x.2.2 [39] pq).length<=1099511627776)=O) (ite (N (X ([39]++Lib.replaceAll x.2.2 [39] pq)+[39].length<=1099511627776)=O) O S) S) S) O)))
def F92:ah:=ac [K] [Q6] (λx=>Bb x.1) λx=>(jg x.1,())
theorem zr4:FK 294 F92:=by
 refine aZ (zvK) λx h C b=>?_
 unfold Bb at h;refine zJ ja (zvK) (λid _=>b id) (zyu x.1) ?_;generalize a:jg x.1=y;unfold jg at a
 try simp only[zg.eta,zo]
 exact MC a h
abbrev zyT:Nat->aY:=λ_=>{ }
theorem zvI:zZ (mj).P 289 Tryz.f289 1:=cI kw
theorem zys(x:zP):rn mj 0 zyT Tryz.f289 [zX aB x] []=R (N (X x.2.1+X x.2.2.1<=1099511627776)) (R (N (X (x.2.1++x.2.2.1)+X x.2.2.2.2.2.1<=1099511627776)) (R (N (X (x.2.1++x.2.2.1++x.2.2.2.2.2.1)+X x.2.2.2.2.2.2.2.2.2.2.2.2<=1099511627776)) (Tr.ok (zT.ret (AV.bool (cond (x.2.1++x.2.2.1++x.2.2.2.2.2.1++x.2.2.2.2.2.2.2.2.2.2.2.2==[]) (cond (Γ Δ (Γ Δ (Γ Δ (Γ Δ (Γ Δ ((X x.2.2.2.1:Int)+(X x.2.2.2.2.1:Int))+(X x.2.2.2.2.2.2.1:Int))+(X x.2.2.2.2.2.2.2.1:Int))+(X x.2.2.2.2.2.2.2.2.2.1:Int))+(X x.2.2.2.2.2.2.2.2.2.2.1:Int))==0) (cond (iz (zt x.2.2.2.2.2.2.2.2.1)) (iz (zt x.2.2.2.2.2.2.2.2.2.2.2.1)) S) S) S)) [])))):=kw
def iV(x:zP):J Q7:=(cond (x.2.1++x.2.2.1++x.2.2.2.2.2.1++x.2.2.2.2.2.2.2.2.2.2.2.2==[]) (cond (Γ Δ (Γ Δ (Γ Δ (Γ Δ (Γ Δ ((X x.2.2.2.1:Int)+(X x.2.2.2.2.1:Int))+(X x.2.2.2.2.2.2.1:Int))+(X x.2.2.2.2.2.2.2.1:Int))+(X x.2.2.2.2.2.2.2.2.2.1:Int))+(X x.2.2.2.2.2.2.2.2.2.2.1:Int))==0) (cond (iz x.2.2.2.2.2.2.2.2.1) (iz x.2.2.2.2.2.2.2.2.2.2.2.1) S) S) S)
def gu(x:zP):Bool:=(ite (N (X x.2.1+X x.2.2.1<=1099511627776)=O) (ite (N (X (x.2.1++x.2.2.1)+X x.2.2.2.2.2.1<=1099511627776)=O) (ite (N (X (x.2.1++x.2.2.1++x.2.2.2.2.2.1)+X x.2.2.2.2.2.2.2.2.2.2.2.2<=1099511627776)=O) O S) S) S)
def F87:ah:=ac [aB] [Q7] (λx=>gu x.1) λx=>(iV x.1,())
theorem zrY:FK 289 F87:=by
 refine aZ (zvI) λx h C b=>?_
 unfold gu at h;refine zJ ja (zvI) (λid _=>b id) (zys x.1) ?_;generalize a:iV x.1=y;unfold iV at a
 try simp only[zg.eta]
 exact MC a h
abbrev zyZ:Nat->aY:=λ_=>{unroll:=O}
theorem zvN:zZ (mj).P 301 Tryz.f301 1:=cI kw
theorem zyy(x:TS):rn mj 0 zyZ Tryz.f301 [zX Q6 x] []=let b:=(X x:Int);let c:=Qh (Z 0) x;let d:=R (zL 0 (X x)) (br ((↑(Y x (Z 0) 0).toNat:Int)==39) (R (qe x) (Tr.ok (zT.ret (tup [agg [L (iU x).1.1,I (iU x).1.2],L (iU x).2]) []))) (R (N (0<=0)&&N (0<=1)&&N (1<=b)) (Tr.ok (zT.ret (tup [agg [L 4,I (Qg (Z 1-Z 0) c)],L 1]) []))));let a:=(bH bt cv x:Int);let h:=(bH aD aD x:Int);br O (R O (br (N (a>0)) (R (N (0<=0)&&N (0<=a)&&N (a<=b)) (Tr.ok (zT.ret (tup [agg [L 1,I (Qg (a.toNat-Z 0) c)],L a]) []))) (br O (R O (br (N (h>0)) (R (N (0<=0)&&N (0<=h)&&N (h<=b)) (Tr.ok (zT.ret (tup [agg [L 2,I (Qg (h.toNat-Z 0) c)],L h]) []))) (br S Tr.err d))) d))) d:=kw
def ch(x:TS):dA×zy:=(ite (O=O) (ite (N ((bH bt cv x:Int)>0)=O) ((1,Qg ((bH bt cv x:Int).toNat-Z 0) (Qh (Z 0) x)),(bH bt cv x:Int)) (ite (O=O) (ite (N ((bH aD aD x:Int)>0)=O) ((2,Qg ((bH aD aD x:Int).toNat-Z 0) (Qh (Z 0) x)),(bH aD aD x:Int)) (ite (S=O) default (ite (((↑(Y x (Z 0) 0).toNat:Int)==39)=O) ((iU x).1,(iU x).2) ((4,Qg (Z 1-Z 0) (Qh (Z 0) x)),1)))) (ite (((↑(Y x (Z 0) 0).toNat:Int)==39)=O) ((iU x).1,(iU x).2) ((4,Qg (Z 1-Z 0) (Qh (Z 0) x)),1)))) (ite (((↑(Y x (Z 0) 0).toNat:Int)==39)=O) ((iU x).1,(iU x).2) ((4,Qg (Z 1-Z 0) (Qh (Z 0) x)),1)))
def lW(x:TS):Bool:=(ite (O=O) (ite (O=O) (ite (N ((bH bt cv x:Int)>0)=O) (ite ((N (0<=0)&&N (0<=(bH bt cv x:Int))&&N ((bH bt cv x:Int)<=(X x:Int)))=O) O S) (ite (O=O) (ite (O=O) (ite (N ((bH aD aD x:Int)>0)=O) (ite ((N (0<=0)&&N (0<=(bH aD aD x:Int))&&N ((bH aD aD x:Int)<=(X x:Int)))=O) O S) (ite (S=O) S (ite (zL 0 (X x)=O) (ite (((↑(Y x (Z 0) 0).toNat:Int)==39)=O) (ite (qe x=O) O S) (ite ((N (0<=0)&&N (0<=1)&&N (1<=(X x:Int)))=O) O S)) S))) S) (ite (zL 0 (X x)=O) (ite (((↑(Y x (Z 0) 0).toNat:Int)==39)=O) (ite (qe x=O) O S) (ite ((N (0<=0)&&N (0<=1)&&N (1<=(X x:Int)))=O) O S)) S))) S) (ite (zL 0 (X x)=O) (ite (((↑(Y x (Z 0) 0).toNat:Int)==39)=O) (ite (qe x=O) O S) (ite ((N (0<=0)&&N (0<=1)&&N (1<=(X x:Int)))=O) O S)) S))
def F99:ah:=ac [Q6] [lu,zk] (λx=>lW x.1) λx=>((ch x.1).1,(ch x.1).2,())
theorem zr8:FK 301 F99:=by
 refine aZ (zvN) λx h C b=>?_
 unfold lW at h;refine zJ ja (zvN) (λid _=>b id) (zyy x.1) ?_;generalize a:ch x.1=y;unfold ch at a
 skip
 exact MC a h
abbrev zuR:Nat->aY:=λj=>if j=3 then{slots:=[1,5,8,9,10],prom:=[(5,Q2,.str)]}else{ }
abbrev Pt(x:LS)(h i:Int)(l:LS):St:={tmps:=(tm 23 [(1,AV.clo (Fn.func 290) [] []),(5,AV.vec 0),(8,T Q6 x),(9,L h),(10,L i)]),heap:=[AO.vec Q6 l]}
theorem zfo:zZ (mj).P 299 Tryz.f299 2:=cI kw
theorem zyw(x:J Sh.str.sl):rn mj 0 zuR Tryz.f299 [zX Sh.str.sl x,AV.clo (Fn.func 290) [] []] []=Tr.ok (zT.head 3 (ap Tryz.f299 3) (Pt x (X x:Int) 0 [])):=kw
theorem zaI(h:LS)(x i:Int)(l:LS):rh mj 0 zuR Tryz.f299 3 (Pt h x i l)=br (N (i<x)) (R (zL i (X h)) (R (N (X l+[nz (h.getD i.toNat (Q Q6))].length<=1073741824)) (Tr.ok (zT.head 3 (ap Tryz.f299 3) (Pt h x (Γ Δ (i+1)) (l++[nz (h.getD i.toNat (Q Q6))])))))) (R (N (X l<=140737488355328)&&N ((Lib.join l fM).length<=140737488355328)) (Tr.ok (zT.ret (I (Lib.join l fM)) []))):=kw
def ez:List (J Q6)->Int->List (J Q6)->J Q6
 |[],_,l=>(Lib.join l fM)
 |x::r,i,l=>(ez r (i+1) (l++[nz x]))
def eR:List (J Q6)->Int->List (J Q6)->Bool
 |[],_,l=>(ite ((N (X l<=140737488355328)&&N ((Lib.join l fM).length<=140737488355328))=O) O S)
 |x::r,i,l=>(ite (N (X l+[nz x].length<=1073741824)=O) (eR r (i+1) (l++[nz x])) S)
theorem zlZ(j:∀id,C.ρ0 id=Q2)(a:LS)(o:X a<=aE):∀(m i:Nat)(l:LS),X a-i=m->i<=X a->eR (a.drop i) i l=O->
  Reach (mj) C 299 (ap Tryz.f299 3) (Pt a (X a:Int) (i:Int) l) (λr h=>bb h [Q6] r=M (ez (a.drop i) i l,())):=by
 intro m
 induction m with
 | zero=>
  intro i l n k c;obtain rfl:i=X a:=by omega
  rw[ky]at c|-;refine zJ ja (zfo) (λid _=>j id) (zaI _ _ _ _) ?_;rw[eR]at c;generalize d:ez [] _ l=y;rw[ez]at d;simp only[zM,Tr.val_brF];exact MC d c
 | succ m g=>
  intro i l n k c;have x:i<X a:=by omega
  have g:=g (i+1);have b:((i:Int)+1)=((i+1:Nat):Int):=by omega
  have e:=zu i W;rw[ij x]at c|-;refine zJ ja (zfo) (λid _=>j id) (zaI _ _ _ _) ?_;rw[eR]at c;generalize d:ez (a[i]::a.drop (i+1)) (i:Int) l=y;rw[ez]at d;simp only[zO x,zx x,dm a _ x,e,Tr.val_brT,Tr.val_chkT];clear e
  try simp only[zx x]at d
  simp only[b]at d
  try simp only[zx x]at c
  try simp only[b]at c
  exact zfR d c g
theorem zdO(a:∀id,C.ρ0 id=Q2)(x l:LS)(b:eR x 0 l=O):
  Reach (mj) C 299 (ap Tryz.f299 3) (Pt x (X x:Int) 0 l) (λr h=>bb h [Q6] r=M (ez x 0 l,())):=
 Reach.len 8 (Q6) x rfl λc=>zlZ a x c _ 0 l rfl (aK _) b
def iF(x:J Sh.str.sl):J Q6:=(ez x 0 [])
def pe(x:J Sh.str.sl):Bool:=(eR x 0 [])
def F97:ah:=zaW [Sh.str.sl] [Q6] [(290,(λx=>pe x.1),λx=>(iF x.1,()))]
theorem zr6:FK 299 F97:=by
 refine PO (zfo) λj c g b x h C a=>?_
 simp only[ff,cN]at b;obtain⟨rfl,rfl,rfl⟩:=b
 replace h:pe x.1=O:=h
 unfold pe at h;refine zJ ja (zfo) (λid _=>a id) (zyw x.1) ?_;generalize d:iF x.1=y;unfold iF at d
 skip
 exact zfR d h (zdO a)
def S9:=mj.addL [(287,F85),(294,F92),(289,F87),(301,F99),(299,F97)]
theorem yY:zw S9:=ja.addL<|fc zrW<|fc zr4<|fc zrY<|fc zr8<|fc zr6 jb
def zpf:ah:=bj (List.replicate 2 Q2) (fg S9 Tryz.f323 (List.replicate 2 Q2))
theorem zjS:FK 323 zpf:=cj _ yY (cI kw)
def Yx(g:J Q5->J Q6)(c:J Q5->Bool):ct:=S9.add 355 (ac [Q5] [Q6] (λx=>c x.1) λx=>(g x.1,()))
theorem VG{g:J Q5->J Q6}{c:J Q5->Bool}(h:FK 355 (ac [Q5] [Q6] (λx=>c x.1) λx=>(g x.1,()))):zw (Yx g c):=yY.add h
abbrev znB:Nat->aY:=λ_=>{ }
theorem Fr(g:J Q5->J Q6)(c:J Q5->Bool):zZ (Yx g c).P 355 Tryz.f355 1:=cI kw
theorem zmz(g:J Q5->J Q6)(c:J Q5->Bool)(x:J Q5):rn (Yx g c) 0 znB Tryz.f355 [zX Q5 x] []=let i:=(zg.l x).getD (Z 0) (Q Q5);let a:=zt i;let j:=(zg.l x).getD (Z 1) (Q Q5);let h:=zt j;let e:=N ([40].length+X (g a)<=1099511627776);let d:=zL 0 (zg.l x).length;
 br (zg.op x==pt) (R (Bb (zg.v x)) (Tr.ok (zT.ret (I (jg (zg.v x))) []))) (br (zg.op x==fh) (Tr.ok (zT.ret (I (zg.s x)) [])) (br (zg.op x==ox) (R d (R (c a) (R (N (X wv+X (g a)<=1099511627776)) (R (N (X (wv++g a)+[41].length<=1099511627776)) (Tr.ok (zT.ret (I (wv++g a++[41])) [])))))) (br (zg.op x==qy) (R d (R (c a) (R e (R (N (X ([40]++g a)+X DK<=1099511627776)) (Tr.ok (zT.ret (I ([40]++g a++DK)) [])))))) (R d (R (c a) (R e (R (N (X ([40]++g a)+[32].length<=1099511627776)) (R (N (X (zg.op x)<=140737488355328)&&List.all (zg.op x) λb=>N (b.toNat<128)) (R (N (X ([40]++g a++[32])+(Lib.toUpperA (zg.op x)).length<=1099511627776)) (R (N (X ([40]++g a++[32]++Lib.toUpperA (zg.op x))+[32].length<=1099511627776)) (R (zL 1 (zg.l x).length) (R (c h) (R (N (X ([40]++g a++[32]++Lib.toUpperA (zg.op x)++[32])+X (g h)<=1099511627776)) (R (N (X ([40]++g a++[32]++Lib.toUpperA (zg.op x)++[32]++g h)+[41].length<=1099511627776)) (Tr.ok (zT.ret (I ([40]++g a++[32]++Lib.toUpperA (zg.op x)++[32]++g h++[41])) [])))))))))))))))):=kw
def vu(g:J Q5->J Q6)(_:J Q5->Bool)(x:J Q5):J Q6:=(ite ((zg.op x==pt)=O) (jg (zg.v x)) (ite ((zg.op x==fh)=O) (zg.s x) (ite ((zg.op x==ox)=O) (wv++g ((zg.l x).getD (Z 0) (Q Q5))++[41]) (ite ((zg.op x==qy)=O) ([40]++g ((zg.l x).getD (Z 0) (Q Q5))++DK) ([40]++g ((zg.l x).getD (Z 0) (Q Q5))++[32]++Lib.toUpperA (zg.op x)++[32]++g ((zg.l x).getD (Z 1) (Q Q5))++[41])))))
def Cz(g:J Q5->J Q6)(c:J Q5->Bool)(x:J Q5):Bool:=(if(zg.op x==pt)=O then if Bb (zg.v x)=O then O else S else if(zg.op x==fh)=O then O else if(zg.op x==ox)=O then if zL 0 (zg.l x).length=O then if c ((zg.l x).getD (Z 0) (Q Q5))=O then if N (X wv+X (g ((zg.l x).getD (Z 0) (Q Q5)))<=1099511627776)=O then if N (X (wv++g ((zg.l x).getD (Z 0) (Q Q5)))+[41].length<=1099511627776)=O then O else S else S else S else S else if(zg.op x==qy)=O then if zL 0 (zg.l x).length=O then if c ((zg.l x).getD (Z 0) (Q Q5))=O then if N ([40].length+X (g ((zg.l x).getD (Z 0) (Q Q5)))<=1099511627776)=O then if N (X ([40]++g ((zg.l x).getD (Z 0) (Q Q5)))+X DK<=1099511627776)=O then O else S else S else S else S else if zL 0 (zg.l x).length=O then if c ((zg.l x).getD (Z 0) (Q Q5))=O then if N ([40].length+X (g ((zg.l x).getD (Z 0) (Q Q5)))<=1099511627776)=O then if N (X ([40]++g ((zg.l x).getD (Z 0) (Q Q5)))+[32].length<=1099511627776)=O then
 if(N (X (zg.op x)<=140737488355328)&&List.all (zg.op x) λb=>N (b.toNat<128))=O then if N (X ([40]++g ((zg.l x).getD (Z 0) (Q Q5))++[32])+(Lib.toUpperA (zg.op x)).length<=1099511627776)=O then if N (X ([40]++g ((zg.l x).getD (Z 0) (Q Q5))++[32]++Lib.toUpperA (zg.op x))+[32].length<=1099511627776)=O then if zL 1 (zg.l x).length=O then if c ((zg.l x).getD (Z 1) (Q Q5))=O then if N (X ([40]++g ((zg.l x).getD (Z 0) (Q Q5))++[32]++Lib.toUpperA (zg.op x)++[32])+X (g ((zg.l x).getD (Z 1) (Q Q5)))<=1099511627776)=O then if N (X ([40]++g ((zg.l x).getD (Z 0) (Q Q5))++[32]++Lib.toUpperA (zg.op x)++[32]++g ((zg.l x).getD (Z 1) (Q Q5)))+[41].length<=1099511627776)=O then O else S else S else S else S else S else S else S else S else S else S else S)
def zpu(g:J Q5->J Q6)(c:J Q5->Bool):ah:=ac [Q5] [Q6] (λx=>Cz g c x.1) λx=>(vu g c x.1,())
theorem zda(g:J Q5->J Q6)(c:J Q5->Bool)(d:FK 355 (ac [Q5] [Q6] (λx=>c x.1) λx=>(g x.1,()))):FK 355 (zpu g c):=by
 refine aZ (Fr g c) λx h C b=>?_
 unfold Cz at h;refine zJ (VG d) (Fr g c) (λid _=>b id) (zmz g c x.1) ?_;generalize a:vu g c x.1=y;unfold vu at a
 try simp only[zg.eta]
 exact MC a h
mutual
def bn:Nat->J Q5->J Q6
 |0=>λ_=>default
 |n+1=>vu (bn n) (iJ n)
def iJ:Nat->J Q5->Bool
 |0=>λ_=>S
 |n+1=>Cz (bn n) (iJ n)
end
theorem SC:∀n,FK 355 (ac [Q5] [Q6] (λx=>iJ n x.1) λx=>(bn n x.1,()))
 |0=>fb ⟨Tryz.f355,(Fr default default).1,(Fr default default).2.1,(Fr default default).q.1⟩ (λ_=>rfl)
 |n+1=>zda (bn n) (iJ n) (SC n)
def zpt:ah:=ac [Q5] [Q6] (λx=>iJ 16 x.1) λx=>(bn 16 x.1,())
theorem zj6:FK 355 zpt:=SC 16
def rx:=S9.addL [(323,zpf),(355,zpt)]
theorem lK:zw rx:=yY.addL<|fc zjS<|fc zj6 jb
end
end Cad
