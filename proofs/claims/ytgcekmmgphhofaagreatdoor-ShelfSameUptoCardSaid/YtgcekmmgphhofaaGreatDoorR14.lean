/- Expressions. -/
import Derived.Test.YtgcekmmgphhofaaGreatDoorR13
namespace Cad
open Go Go.Proofs Tryz
open List renaming length->Io,length->M
open IntKind renaming wrap->Γ,i64->Δ
open AO renaming box->Qb
open Sh renaming expr->Q6
open Bool renaming false->Q5,true->Q4,true->Z,false->J
open Option renaming some->Q1,some->Y
open Decidable renaming decide->Q0,decide->L
open Int (toNat)
open Int renaming toNat->T
open Tr (chk br re)
open AV (nils agg tup ptr kb)
open AV renaming sl->O,str->X
open Cad renaming AV->R,Tr->K,Sem->N,ai->I,ow->S
noncomputable section
variable {j:Nat->R}{k:FuncId}{ks outs:List Sh}
theorem kz{P:Program}{c:zA (ks.map Q1)->Bool}{g:zA (ks.map Q1)->zA (outs.map Q1)}(b:∃fn,P.funcs[k]?=Q1 fn/\(fn.name=="runtime.NumGoroutine")=Q5/\fn.body.isNone=Q5)(l:∀x,c x=Q5):ky P j k (ae ks outs c g):=by
 refine⟨b,?_⟩;intro w U o m n args v f e h;exfalso;unfold ae au at h;split at h
 .simp only at h;split at h
  .split at h
   .simp only[Tr.val_bind,fV]at h;have⟨d,a,i⟩:=h;unfold dJ at a;grind[Tr.val]
   .simp at h
  .simp at h
 .simp at h
variable {Φ:zM->Prop}{b:Bool}{t f:K zM}
theorem mg(h:b=Z->gq Φ t.val)(x:b=J->gq Φ f.val):gq Φ (br b t f).val:=by grind[Tr.val]
theorem eH(x:b=Z)(h:gq Φ t.val):gq Φ (chk b t).val:=by subst x;simpa[Tr.val]using h
theorem dP(h:gq Φ t.val):gq Φ (chk Z t).val:=h
theorem mF(h:b=J):¬b=Z:=by rw[h];simp
variable {p:Bool}
theorem qh(h:(ite (b=Z) p J)=Z):b=Z/\p=Z:=by
 split at h
 .exact⟨‹_›,h⟩
 .cases h
theorem obr{α:Sort _}{a x y:α}{q:Bool}(d:(ite (b=Z) a x)=y)(c:(ite (b=Z) p q)=Z)(e:b=Z->a=y->p=Z->gq Φ t.val)(g:b=J->x=y->q=Z->gq Φ f.val):gq Φ (Tr.br b t f).val:=
 mg (λh=>e h (by rwa [zf h]at d) (by rwa [zf h]at c)) (λh=>g h (by rwa [zh (mF h)]at d) (by rwa [zh (mF h)]at c))
theorem B5{α:Sort _}{a x y:α}(c:(ite (b=Z) a x)=y)(d:b=Z->a=y->gq Φ t.val)(e:b=J->x=y->gq Φ f.val):gq Φ (Tr.br b t f).val:=
 mg (λh=>d h (by rwa [zf h]at c)) (λh=>e h (by rwa [zh (mF h)]at c))
theorem G2(x:(ite (b=Z) p J)=Z)(h:p=Z->gq Φ t.val):gq Φ (Tr.chk b t).val:=
 eH (qh x).1 (h (qh x).2)
variable {α:Type}
theorem Tr.val_brT(t f:K α):(br Z t f).val=t.val:=rfl
theorem Tr.val_brF(t f:K α):(br J t f).val=f.val:=rfl
theorem Tr.val_chkT(t:K α):(chk Z t).val=t.val:=rfl
instance:Inhabited zg:=⟨.mk [] (0,0,[]) [] []⟩
instance (s:Sh):Inhabited (N s):=⟨zk s⟩
variable {P A:Prop}
theorem LG{G:Prop}(h:A)(c:G)(k:A->G->P:=by
 intro hy hc
 try simp only[zg.eta,zt]
 repeat' (first|with_reducible refine obr hy hc (λ_ hy hc=>?_) (λ_ hy hc=>?_)|with_reducible refine B5 hy (λ_ hy=>?_) (λ_ hy=>?_)|with_reducible refine G2 hc (λhc=>?_)|with_reducible refine dP ?_)
 all_goals first|(cases hc;done)|(subst hy;first|rfl)):P:=k h c
theorem SY(h:A)(k:A->P:=by
 intro hy
 try simp only[zg.eta,zt]
 repeat' (first|with_reducible refine B5 hy (λ_ hy=>?_) (λ_ hy=>?_)|with_reducible refine dP ?_)
 all_goals first|(cases hc;done)|(subst hy;first|rfl)):P:=k h
theorem zqD{G B:Prop}(h:A)(c:G)(b:B)(k:A->G->B->P:=by
 intro hy hc IH
 try simp only[zg.eta,zt]
 repeat' (first|with_reducible refine obr hy hc (λ_ hy hc=>?_) (λ_ hy hc=>?_)|with_reducible refine B5 hy (λ_ hy=>?_) (λ_ hy=>?_)|with_reducible refine G2 hc (λhc=>?_)|with_reducible refine dP ?_)
 all_goals first|(cases hc;done)|(subst hy;first|(change Reach _ _ _ _ _ _;apply IH<;>first|omega|assumption)|rfl)):P:=k h c b
theorem SZ{B:Prop}(h:A)(b:B)(k:A->B->P:=by
 intro hy IH
 try simp only[zg.eta,zt]
 repeat' (first|with_reducible refine B5 hy (λ_ hy=>?_) (λ_ hy=>?_)|with_reducible refine dP ?_)
 all_goals first|(cases hc;done)|(subst hy;first|(change Reach _ _ _ _ _ _;apply IH<;>first|omega|assumption)|rfl)):P:=k h b
def Rz(g:N Q6->cR->zy×zy)(c:N Q6->cR->Bool):bS:=UX.add 288 (ae [Q6,Sh.sl zu] [zi,zi] (λx=>c x.1 x.2.1) λx=>((g x.1 x.2.1).1,(g x.1 x.2.1).2,()))
theorem AU{g:N Q6->cR->zy×zy}{c:N Q6->cR->Bool}(h:FK 288 (ae [Q6,Sh.sl zu] [zi,zi] (λx=>c x.1 x.2.1) λx=>((g x.1 x.2.1).1,(g x.1 x.2.1).2,()))):zm (Rz g c):=Ei.add h
abbrev zdK:Nat->aR:=λj=>if j=3 then{slots:=[1,2,6,15,16,17],prom:=[(6,none,zi)]}else{ }
abbrev CH(g:LC)(e:LX)(i h:Int)(j:zD)(x a:Int)(b c:zD)(d:LX)(l:LI):St:={tmps:=(tm 91 [(1,O zu g),(2,ptr 0 0),(6,AV.vec 1),(15,O Q6 e),(16,I i),(17,I h)]),heap:=[Qb [X j,I x,I a,X b,X c,O Q6 d],AO.vec zi l]}
theorem B8(g:N Q6->cR->zy×zy)(c:N Q6->cR->Bool):zJ (Rz g c).P 288 f288 2:=bG kw
theorem znj(g:N Q6->cR->zy×zy)(c:N Q6->cR->Bool)(x:N Q6)(h:N zu.sl):rn (Rz g c) 0 zdK f288 [zI Q6 x,zI zu.sl h] []=Tr.ok (zM.head 3 (zZ f288 3) (CH h (zg.l x) (↑(zg.l x).length:Int) 0 (zg.op x) (zg.v x).1 (zg.v x).2.1 (zg.v x).2.2 (zg.s x) (zg.l x) [])):=kw
theorem PN(g:N Q6->cR->zy×zy)(c:N Q6->cR->Bool)(h:LC)(a:LX)(b i:Int)(j:zD)(d k:Int)(m x:zD)(n:LX)(l:LI):rh (Rz g c) 0 zdK f288 3 (CH h a b i j d k m x n l)=let o:=Tr.ok (zM.ret (tup [I 0,I 5]) []);let p:=Tr.ok (zM.ret (tup [I 3,I 0]) []);let s:=chk (zT 0 (M l)&&(L (T 0<M l)&&(zT 1 (M l)&&(L (T 1<M l)&&bif l.getD (T 0) (zk zi)==l.getD (T 1) (zk zi)then Z else zT 0 (M l)&&(L (T 0<M l)&&bif l.getD (T 0) (zk zi)==0 then Z else zT 1 (M l)&&L (T 1<M l)))))) (br (!bif l.getD (T 0) (zk zi)==l.getD (T 1) (zk zi)then Z else bif l.getD (T 0) (zk zi)==0 then Z else l.getD (T 1) (zk zi)==0) o p);let u:=a.getD i.toNat (zk Q6);let e:=zP u;let t:=br (!F3 l 1) o (Tr.ok (zM.ret (tup [I 1,I 0]) []));let q:=br (!F3 l 3) o p;
 br (L (i<b)) (chk (zT i (M a)) (chk (c e h) (br ((g e h).2!=0) (Tr.ok (zM.ret (tup [I 0,I (g e h).2]) [])) (chk (L (M l+[(g e h).1].length<=1073741824)) (Tr.ok (zM.head 3 (zZ f288 3) (CH h a b (Γ Δ (i+1)) j d k m x n (l++[(g e h).1])))))))) (br (j==sJ) (Tr.ok (zM.ret (tup [I d,I 0]) [])) (br (j==ic) (br (L (bE h x<0)) (Tr.ok (zM.ret (tup [I 0,I 4]) [])) (chk (zT (bE h x) (M h)) (Tr.ok (zM.ret (tup [I (h.getD (T (bE h x)) (zk zu)).2.1,I 0]) [])))) (br (j==sK) q (br (j==lq) q (br (j==Dg) q (br (j==[61]) s (br (j==[60]) s (br (j==[43]) t (br (j==[45]) t p))))))))):=kw
def gB(g:N Q6->cR->zy×zy)(c:N Q6->cR->Bool)(a:LC)(j:zD)(b d:Int)(e h:zD)(k:LX):List (N Q6)->Int->da->zy×zy
 |[],_,l=>if(j==sJ)=Z then(b,0)
else
 if(j==ic)=Z then
  if L (bE a h<0)=Z then(0,4)
  else((a.getD (T (bE a h)) (zk zu)).2.1,0)
 else
  if(j==sK)=Z then if(!F3 l 3)=Z then(0,5)else(3,0)
  else
   if(j==lq)=Z then if(!F3 l 3)=Z then(0,5)else(3,0)
   else
    if(j==Dg)=Z then if(!F3 l 3)=Z then(0,5)else(3,0)
    else
     if (j==[61])=true then
      if
        (!bif l.getD (T 0) (zk zi)==l.getD (T 1) (zk zi)then Z
          else bif l.getD (T 0) (zk zi)==0 then Z else l.getD (T 1) (zk zi)==0)=
         Z then
       (0,5)
      else(3,0)
     else
      if (j==[60])=true then
       if
         (!bif l.getD (T 0) (zk zi)==l.getD (T 1) (zk zi)then Z
           else
            bif l.getD (T 0) (zk zi)==0 then Z else l.getD (T 1) (zk zi)==0)=
          Z then
        (0,5)
       else(3,0)
      else
       if(j==[43])=Z then if(!F3 l 1)=Z then(0,5)else(1,0)
       else if(j==[45])=Z then if(!F3 l 1)=Z then(0,5)else(1,0)else(3,0)
 |x::r,i,l=>if((g x a).2!=0)=Z then(0,(g x a).2)else gB g c a j b d e h k r (i+1) (l++[(g x a).1])
def fS(g:N Q6->cR->zy×zy)(c:N Q6->cR->Bool)(h:LC)(j:zD)(b d:Int)(e a:zD)(k:LX):List (N Q6)->Int->da->Bool
 |[],_,l=>if(j==sJ)=Z then Z
else
 if(j==ic)=Z then
  if L (bE h a<0)=Z then Z else if zT (bE h a) (M h)=Z then Z else J
 else
  if(j==sK)=Z then Z
  else
   if(j==lq)=Z then Z
   else
    if(j==Dg)=Z then Z
    else
     if (j == [61])=true then
      if
        (zT 0 (Io l)&&
          (Q0 (toNat 0<Io l)&&
           (zT 1 (Io l)&&
            (Q0 (toNat 1<Io l)&&
             bif l.getD (T 0) (zk zi)==l.getD (T 1) (zk zi)then Z
             else
              zT 0 (M l)&&
               (L (T 0<M l)&&
                bif l.getD (T 0) (zk zi)==0 then Z
                else zT 1 (M l)&&L (T 1<M l))))))=
         Z then
       Z
      else J
     else
      if (j == [60])=true then
       if
         (zT 0 (Io l)&&
           (Q0 (toNat 0<Io l)&&
            (zT 1 (Io l)&&
             (Q0 (toNat 1<Io l)&&
              bif l.getD (T 0) (zk zi)==l.getD (T 1) (zk zi)then Z
              else
               zT 0 (M l)&&
                (L (T 0<M l)&&
                 bif l.getD (T 0) (zk zi)==0 then Z
                 else zT 1 (M l)&&L (T 1<M l))))))=
          Z then
        Z
       else J
      else Z
 |x::r,i,l=>if c x h=Z then
 if((g x h).2!=0)=Z then Z
 else
  if L (M l+[(g x h).1].length<=1073741824)=Z then
   fS g c h j b d e a k r (i+1) (l++[(g x h).1])
  else J
else J
variable {C:eS}
theorem Zt(g:N Q6->cR->zy×zy)(c:N Q6->cR->Bool)(z:FK 288 (ae [Q6,Sh.sl zu] [zi,zi] (λx=>c x.1 x.2.1) λx=>((g x.1 x.2.1).1,(g x.1 x.2.1).2,())))(w:∀id,C.ρ0 id=none)(t:LC)(j:zD)(e k:Int)(n o:zD)(p l:LX)(E:M l<=af):∀(m i:Nat)(a:LI),M l-i=m->i<=M l->fS g c t j e k n o p (l.drop i) i a=Z->
  Reach (Rz g c) C 288 (zZ f288 3) (CH t l (M l:Int) (i:Int) j e k n o p a) (λr h=>bc h [zi,zi] r=Y ((gB g c t j e k n o p (l.drop i) i a).1,(gB g c t j e k n o p (l.drop i) i a).2,())):=by
 intro m
 induction m with
 | zero=>
  intro i a D A d;obtain rfl:i=M l:=by omega
  rw[oO]at d|-;refine zB (AU z) (B8 g c) (λid _=>w id) (PN g c _ _ _ _ _ _ _ _ _ _ _) ?_;rw[fS]at d;generalize b:gB g c t j e k n o p [] _ a=y;rw[gB]at b;simp only[zg.eta,aw,Tr.val_brF];repeat' (first|with_reducible refine obr b d (λ_ b d=>?_) (λ_ b d=>?_)|with_reducible refine B5 b (λ_ b=>?_) (λ_ b=>?_)|with_reducible refine G2 d (λd=>?_)|with_reducible refine dP ?_)
  all_goals(subst b;first|rfl)
 | succ m v=>
  intro i a D A d;have s:i<M l:=by omega
  have v:=v (i+1);have q:((i:Int)+1)=((i+1:Nat):Int):=by omega
  have u:=zz i S;rw[mj s]at d|-;refine zB (AU z) (B8 g c) (λid _=>w id) (PN g c _ _ _ _ _ _ _ _ _ _ _) ?_;rw[fS]at d;generalize b:gB g c t j e k n o p (l[i]::l.drop (i+1)) (i:Int) a=y;rw[gB]at b;simp only[zg.eta,z6 s,zx s,bt l _ s,u,Tr.val_brT,Tr.val_chkT];clear u;simp only[q]at b
  try simp only[q]at d
  repeat' (first|with_reducible refine obr b d (λ_ b d=>?_) (λ_ b d=>?_)|with_reducible refine B5 b (λ_ b=>?_) (λ_ b=>?_)|with_reducible refine G2 d (λd=>?_)|with_reducible refine dP ?_)
  all_goals(subst b;first|(change Reach _ _ _ _ _ _;apply v<;>first|omega|assumption)|rfl)
theorem T3(g:N Q6->cR->zy×zy)(c:N Q6->cR->Bool)(p:FK 288 (ae [Q6,Sh.sl zu] [zi,zi] (λx=>c x.1 x.2.1) λx=>((g x.1 x.2.1).1,(g x.1 x.2.1).2,())))(n:∀id,C.ρ0 id=none)(m:LC)(j:zD)(b d:Int)(e i:zD)(k a:LX)(l:LI)(o:fS g c m j b d e i k a 0 l=Z):
  Reach (Rz g c) C 288 (zZ f288 3) (CH m a (M a:Int) 0 j b d e i k l) (λr h=>bc h [zi,zi] r=Y ((gB g c m j b d e i k a 0 l).1,(gB g c m j b d e i k a 0 l).2,())):=
 Reach.len 15 (Q6) a rfl λq=>Zt g c p n m j b d e i k a q _ 0 l rfl (zU _) o
def C7(g:N Q6->cR->zy×zy)(c:N Q6->cR->Bool)(x:N Q6)(h:N zu.sl):zy×zy:=gB g c h (zg.op x) (zg.v x).1 (zg.v x).2.1 (zg.v x).2.2 (zg.s x) (zg.l x) (zg.l x) 0 []
def Ah(g:N Q6->cR->zy×zy)(c:N Q6->cR->Bool)(x:N Q6)(h:N zu.sl):Bool:=fS g c h (zg.op x) (zg.v x).1 (zg.v x).2.1 (zg.v x).2.2 (zg.s x) (zg.l x) (zg.l x) 0 []
def zrg(g:N Q6->cR->zy×zy)(c:N Q6->cR->Bool):zV:=ae [Q6,zu.sl] [zi,zi] (λx=>Ah g c x.1 x.2.1) λx=>((C7 g c x.1 x.2.1).1,(C7 g c x.1 x.2.1).2,())
theorem zfw(g:N Q6->cR->zy×zy)(c:N Q6->cR->Bool)(d:FK 288 (ae [Q6,Sh.sl zu] [zi,zi] (λx=>c x.1 x.2.1) λx=>((g x.1 x.2.1).1,(g x.1 x.2.1).2,()))):FK 288 (zrg g c):=by
 refine aH (B8 g c) λx a C b=>?_
 unfold Ah at a;refine zB (AU d) (B8 g c) (λid _=>b id) (znj g c x.1 x.2.1) ?_;generalize h:C7 g c x.1 x.2.1=y;unfold C7 at h
 try simp only[zg.eta,zt]
 repeat' (first|with_reducible refine obr h a (λ_ h a=>?_) (λ_ h a=>?_)|with_reducible refine B5 h (λ_ h=>?_) (λ_ h=>?_)|with_reducible refine G2 a (λa=>?_)|with_reducible refine dP ?_)
 all_goals(subst h;first|(change Reach _ _ _ _ _ _;apply T3 g c d b<;>first|assumption|exact a)|rfl)
mutual
def lk:Nat->N Q6->cR->zy×zy
 |0=>λ_ _=>default
 |n+1=>C7 (lk n) (kf n)
def kf:Nat->N Q6->cR->Bool
 |0=>λ_ _=>J
 |n+1=>Ah (lk n) (kf n)
end
theorem TD:∀n,FK 288 (ae [Q6,Sh.sl zu] [zi,zi] (λx=>kf n x.1 x.2.1) λx=>((lk n x.1 x.2.1).1,(lk n x.1 x.2.1).2,()))
 |0=>kz ⟨f288,(B8 default default).1,(B8 default default).2.1,(B8 default default).q.1⟩ (λ_=>rfl)
 |n+1=>zfw (lk n) (kf n) (TD n)
def F51:zV:=ae [Q6,Sh.sl zu] [zi,zi] (λx=>kf 16 x.1 x.2.1) λx=>((lk 16 x.1 x.2.1).1,(lk 16 x.1 x.2.1).2,())
theorem zlE:FK 288 F51:=TD 16
def Ej:=UX.add 288 F51
theorem pZ:zm Ej:=Ei.add zlE
open Go
variable {E:bS}{keep:Nat->aR}
theorem zm.TT{P:Program}{d:Type}{f:Func}{n:Nat}{e:d->Nat×St}{t:d->K (d⊕ac)}{i:zA (ks.map Y)->K (d⊕ac)}{c:zA (ks.map Y)->Bool}{g:zA (ks.map Y)->zA (outs.map Y)}(b:zm E)(gas:Nat:=400)
  (m:(E.P.funcs[k]?,f.name=="runtime.NumGoroutine",f.body.isNone,Q0 (ks.length<=f.ntmps))=(Q1 f,Q5,Q5,Q4):=by kernel_rfl)
  (h:∀x,run E 0 keep f.results.toList gas (aK f) (aC f.ntmps (gX (ks.map Y) x) [])=(i x).map (lf f e):=by intro x;kernel_rfl)
  (a:∀s,run E 0 keep f.results.toList gas (zZ f (e s).1) (e s).2=(t s).map (lf f e):=by intro s;cases s<;>kernel_rfl)
  (l:∀x,c x=(aA outs t n (i x)).isSome:=by intro x;kernel_rfl) (o:∀x,g x=(aA outs t n (i x)).getD (dL outs):=by intro x;kernel_rfl) (p:E.P=P:=by rfl) (q:E.gl=j:=by rfl):ky P j k (ae ks outs c g):=
 TI b (bG m) h a l o p q
theorem zm.B1{P:Program}{d:Type}{f:Func}{ps:List CP}{p:List CP}{n:Nat}{e:d->Nat×St}{t:d->K (d⊕ac)}{i:zn ps->zA (ks.map Y)->K (d⊕ac)}{c:zn ps->zA (ks.map Y)->Bool}{g:zn ps->zA (ks.map Y)->zA (outs.map Y)×zn p}(b:zm E)(gas:Nat:=400)
  (m:(E.P.funcs[k]?,f.name=="runtime.NumGoroutine",f.body.isNone,Q0 (ks.length+1<=f.ntmps))=(Q1 f,Q5,Q5,Q4):=by kernel_rfl)
  (h:∀y x,run E (fO ps+1) keep f.results.toList gas (aK f) (aC f.ntmps (.ptr 0 0::gX (ks.map Y) x) (aE ps y))=(i y x).map (lf f e):=by intro y x;kernel_rfl)
  (a:∀s,run E (fO ps+1) keep f.results.toList gas (zZ f (e s).1) (e s).2=(t s).map (lf f e):=by intro s;cases s<;>kernel_rfl)
  (l:∀y x,c y x=(ls outs p t n (i y x)).isSome:=by intro y x;kernel_rfl) (o:∀y x,g y x=(ls outs p t n (i y x)).getD (dL outs,jH p):=by intro y x;kernel_rfl) (u:E.P=P:=by rfl) (q:E.gl=j:=by rfl):ky P j k (uO ps ks outs p c g):=
 LK b (bG m) h a l o u q
abbrev cpE:List CP:=[.d .expr]
abbrev zmK:List CP:=[.d .str,.d zi,.d zi,.d .str,.d .str,.vec .expr]
abbrev oE:List CP:=[.d .str,.d zi,.d zi,.d .str,.d .str,.nil]
def zcA(g:N Q6->zy->zy->N Q6×zy)(c:N Q6->zy->zy->Bool):bS:=Ej.add 151 (ae [Q6,zi,zi] [Q6,zi] (λx=>c x.1 x.2.1 x.q.1) λx=>((g x.1 x.2.1 x.q.1).1,(g x.1 x.2.1 x.q.1).2,()))
theorem RA{g:N Q6->zy->zy->N Q6×zy}{c:N Q6->zy->zy->Bool}(h:FK 151 (ae [Q6,zi,zi] [Q6,zi] (λx=>c x.1 x.2.1 x.q.1) λx=>((g x.1 x.2.1 x.q.1).1,(g x.1 x.2.1 x.q.1).2,()))):zm (zcA g c):=pZ.add h
abbrev zoV:Nat->aR:=λj=>if j=10 then{slots:=[1,2,3,6,8,9],prom:=[(8,Y 5,Q6)]}else if j=500004 then{slots:=[1,2,3,6,8,30],cut:=Z}else if j=500006 then{slots:=[1,2,3,6,8,39],cut:=Z}else if j=500008 then{slots:=[1,2,3,6,8],cut:=Z}else{ }
inductive xU where
 |h500004 (i1:zy) (i2:zy) (b30:Bool) (z0:zn cpE) (z1:zn oE) (z2:zn oE)
 |h500006 (i1:zy) (i2:zy) (b39:Bool) (z0:zn cpE) (z1:zn oE) (z2:zn oE)
 |h500008 (i1:zy) (i2:Int) (z0:zn cpE) (z1:zn oE) (z2:zn oE)
 |h10 (i1:zy) (i2:Int) (i9:Int) (z0:zn cpE) (z1:zn oE) (z2:zn zmK)
abbrev zr9:xU->Nat×St
 |.h500004 i h b x a z=>(500004,⟨tm 88 [(1,I i),(2,I h),(3,ptr 0 0),(6,ptr 1 0),(8,ptr 2 0),(30,AV.bool b)],[Qb (fD [] cpE x),Qb (fD [] oE a),Qb (fD [] oE z)]⟩)
 |.h500006 i h c x a z=>(500006,⟨tm 88 [(1,I i),(2,I h),(3,ptr 0 0),(6,ptr 1 0),(8,ptr 2 0),(39,AV.bool c)],[Qb (fD [] cpE x),Qb (fD [] oE a),Qb (fD [] oE z)]⟩)
 |.h500008 i h x a z=>(500008,⟨tm 88 [(1,I i),(2,I h),(3,ptr 0 0),(6,ptr 1 0),(8,ptr 2 0)],[Qb (fD [] cpE x),Qb (fD [] oE a),Qb (fD [] oE z)]⟩)
 |.h10 i h d x a z=>(10,⟨tm 88 [(1,I i),(2,I h),(3,ptr 0 0),(6,ptr 1 0),(8,ptr 2 0),(9,I d)],[Qb (fD [] cpE x),Qb (fD [] oE a),Qb (fD [3] zmK z),AO.vec Q6 z.u.1]⟩)
def zax(_:N Q6->zy->zy->N Q6×zy)(_:N Q6->zy->zy->Bool)(x:N Q6)(b d:zy):K (xU⊕ac):=
 let a:=L ((↑(M (zg.s x)):Int)>20)
 let h:=((zg.v x).1,(zg.v x).2.1,(zg.v x).q,zg.s x,())
 br (L ((↑(M (zg.op x)):Int)>8))
 (chk (L (0<=0)&&L (0<=8)&&L (8<=(↑(M (zg.op x)):Int)))
  (Tr.to (xU.h500004 b d a (x,()) ([],0,0,[],[],()) (List.take (T 8-T 0) (List.drop (T 0) (zg.op x)),h))))
 (Tr.to (xU.h500004 b d a (x,()) ([],0,0,[],[],()) (zg.op x,h)))
def wB(g:N Q6->zy->zy->N Q6×zy)(c:N Q6->zy->zy->Bool):xU->K (xU⊕ac)
 | .h500004 i x k h a z=>
  let d:=(M z.t.1:Int)
  let b:=(M z.r.1:Int)
  let e:=L (b>45)
  br k
  (chk (L (0<=0)&&L (0<=20)&&L (20<=d)) (Tr.to (xU.h500006 i x e h a (z.1,z.2.1,z.q.1,z.r.1,List.take (T 20-T 0) (List.drop (T 0) z.t.1),()))))
  (Tr.to (xU.h500006 i x e h a z))
 | .h500006 i x m h a z=>
  let d:=(M z.r.1:Int)
  let b:=Γ Δ (x-1)
  br m
  (chk (L (0<=0)&&L (0<=45)&&L (45<=d)) (Tr.to (xU.h500008 i b h a (z.1,z.2.1,z.q.1,List.take (T 45-T 0) (List.drop (T 0) z.r.1),z.t))))
  (Tr.to (xU.h500008 i b h a z))
 | .h500008 i x h a z=>
  Tr.to (xU.h10 i x 0 h a (z.1,z.2.1,z.q.1,z.r.1,z.t.1,[],()))
 | .h10 i x j h a z=>
  let d:=(↑(zg.l h.1).length:Int)
  let b:=zP ((zg.l h.1).getD j.toNat (zk Q6))
  let e:=Γ Δ (i-1)
  let n:=g b e x
  let o:=[zP n.1]
  br (cond (L (j<d)) (cond (L (j<3)) (cond (L (i>0)) (L (x>0)) J) J) J)
  (chk (zT j (zg.l h.1).length) (chk (c b e x) (chk (L (M z.u.1+M o<=1073741824)) (Tr.to (xU.h10 i n.2 (Γ Δ (j+1)) h a (z.1,z.2.1,z.q.1,z.r.1,z.t.1,z.u.1++o,()))))))
  (re (tup [agg [X z.1,I z.2.1,I z.q.1,X z.r.1,X z.t.1,AV.vec 0],I x]) [AO.vec Q6 z.u.1])
def Jo(o:Option (zA (List.map Y [Q6,zi]))):N Q6×zy:=(λr:zA (List.map Y [Q6,zi])=>(r.1,r.2.1)) (o.getD (dL [Q6,zi]))
def zm5(g:N Q6->zy->zy->N Q6×zy)(c:N Q6->zy->zy->Bool)(x:N Q6)(h a:zy):Option (zA (List.map Y [Q6,zi])):=aA [Q6,zi] (wB g c) 100000000 (zax g c x h a)
def oF:Nat->N Q6->zy->zy->Option (zA (List.map Y [Q6,zi]))
 |0=>λ_ _ _=>none
 |n+1=>zm5 (λx h a=>Jo (oF n x h a)) λx h a=>(oF n x h a).isSome
theorem zhz:zJ Ej.P 151 f151 3:=bG kw
theorem Ol:∀n,FK 151 (ae [Q6,zi,zi] [Q6,zi] (λx=>(oF n x.1 x.2.1 x.q.1).isSome) λx=>((Jo (oF n x.1 x.2.1 x.q.1)).1,(Jo (oF n x.1 x.2.1 x.q.1)).2,()))
 |0=>kz ⟨f151,zhz.1,zhz.2.1,zhz.q.1⟩ (λ_=>rfl)
 |n+1=>(RA (Ol n)).TT (f:=f151) (E:=zcA (λh a b=>Jo (oF n h a b)) (λh a b=>(oF n h a b).isSome)) (ks:=[Q6,zi,zi]) (outs:=[Q6,zi]) (keep:=zoV) (n:=100000000) (e:=zr9) (t:=wB (λh a b=>Jo (oF n h a b)) (λh a b=>(oF n h a b).isSome)) (i:=λx=>zax (λh a b=>Jo (oF n h a b)) (λh a b=>(oF n h a b).isSome) x.1 x.2.1 x.q.1)
def tp(h:Nat)(e:N Q6)(d n:zy):N Q6×zy:=Jo (oF h e d n)
def JN(h:Nat)(e:N Q6)(d n:zy):Bool:=(oF h e d n).isSome
def F15:zV:=ae [Q6,zi,zi] [Q6,zi] (λx=>JN 16 x.1 x.2.1 x.q.1) λx=>((tp 16 x.1 x.2.1 x.q.1).1,(tp 16 x.1 x.2.1 x.q.1).2,())
theorem zlb:FK 151 F15:=Ol 16
def ZX(g:zg->zg->Bool):List zg->List zg->Bool
 |x::r,y::s=>if(!g x y)=Z then J else ZX g r s
 |_,_=>Z
def R7(g c:zg->zg->Bool):List zg->List zg->Bool
 |x::r,y::s=>if c x y=Z then(ite ((!g x y)=Z) Z (R7 g c r s))else J
 |_,_=>Z
def Ry(g c:zg->zg->Bool):bS:=Ej.add 128 (ae [.expr,.expr] [.bool] (λx=>c x.1 x.2.1) (λx=>(g x.1 x.2.1,())))
variable {g c:zg->zg->Bool}
theorem AT(h:FK 128 (ae [.expr,.expr] [.bool] (λx=>c x.1 x.2.1) (λx=>(g x.1 x.2.1,())))):zm (Ry g c):=pZ.add h
abbrev zoB:Nat->aR:=λj=>if j=4 then{slots:=[1,2,15,16,17]}else{ }
abbrev P9(x l:List zg)(i h:Int):St:={tmps:=(tm 32 [(1,O Q6 x),(2,AV.clo (Fn.func 128) [] []),(15,O Q6 l),(16,I i),(17,I h)]),heap:=[]}
theorem zaP(g c:zg->zg->Bool):zJ (Ry g c).P 173 f173 3:=bG kw
theorem zsQ(g c:zg->zg->Bool)(l m:List zg):rn (Ry g c) 0 zoB f173 [O Q6 l,O Q6 m,AV.clo (Fn.func 128) [] []] []=br ((M l:Int)!=(M m:Int)) (Tr.ok (zM.ret (kb J) [])) (Tr.ok (zM.head 4 (zZ f173 4) (P9 m l (M l:Int) 0))):=kw
theorem Xi(g c:zg->zg->Bool)(x l:List zg)(h i:Int):rh (Ry g c) 0 zoB f173 4 (P9 x l h i)=let d:=l.getD i.toNat (zk Q6);let e:=x.getD i.toNat (zk Q6);let a:=zP e;let b:=zP d;br (L (i<h)) (chk (zT i (M l)) (chk (zT i (M x)) (chk (c b a) (br (!g b a) (Tr.ok (zM.ret (kb J) [])) (Tr.ok (zM.head 4 (zZ f173 4) (P9 x l h (Γ Δ (i+1))))))))) (Tr.ok (zM.ret (kb Z) [])):=kw
theorem zrs(o:FK 128 (ae [.expr,.expr] [.bool] (λx=>c x.1 x.2.1) (λx=>(g x.1 x.2.1,()))))(n:∀id,0<=id->C.ρ0 id=none)(l m:List zg)(t:M l=M m)(u:M l<=af):
  ∀(k i:Nat),M l-i=k->i<=M l->R7 g c (l.drop i) (m.drop i)=Z->Reach (Ry g c) C 173 (zZ f173 4) (P9 m l (M l) i) (λr h=>(r,h)=(.kb (ZX g (l.drop i) (m.drop i)),[])):=by
 intro k
 induction k with
 | zero=>
  intro i s q e;obtain rfl:i=M l:=by omega
  refine zB (AT o) (zaP g c) n (Xi g c _ _ _ _) ?_;simp only[aw,Tr.val_brF,oO];rfl
 | succ k p=>
  intro i s q e;have b:i<M l:=by omega
  have a:i<M m:=by omega
  refine zB (AT o) (zaP g c) n (Xi g c _ _ _ _) ?_;rw[mj b,mj a]at e|-;rw[R7]at e;have d:=qh e;simp only[z6 b,zx b,zx a,bt l _ b,bt m _ a,zg.eta,Tr.val_brT,Tr.val_chkT,d.1,zz i S];refine mg (λh=>?_) (λh=>?_)
  .rw[ZX,zf h];rfl
  .rw[ZX,zh (mF h)];have j:=d.2;rw[zh (mF h)]at j;exact p (i+1) S S j
def MJ(g:zg->zg->Bool)(l m:List zg):Bool:=if((M l:Int)!=(M m:Int))=Z then J else ZX g l m
def Bi(g c:zg->zg->Bool)(l m:List zg):Bool:=if((M l:Int)!=(M m:Int))=Z then Z else R7 g c l m
def G50(g c:zg->zg->Bool):ee [Y (.sl .expr),Y (.sl .expr),none]:=λx h=>match x,h with
 |(l,m,.clo (.func 128) [] [],_),[]=>.chk (Bi g c l m) (.ok (.bool (MJ g l m),[]))
 |_,_=>.err
def F50(g c:zg->zg->Bool):zV:=au [Y (.sl .expr),Y (.sl .expr),none] (G50 g c)
variable {fn:FuncId}{l:List Item}
theorem Reach.weaken{u:St}{Q m:R->List AO->Prop}(h:Reach E C fn l u Q)(D:∀r h,Q r h->∃c,m c h/\∀w U H v,Rv w U H r v->Rv w U H c v):Reach E C fn l u m:=by intro b p a w U H s t z y;have⟨e,F,q,⟨v,r,n,o,G,A,g,k,x⟩,d⟩:=h b p a w U H s t z y;have⟨c,i,j⟩:=D r n g;exact⟨e,F,q,⟨v,c,n,o,G,A,i,j _ _ _ _ k,x⟩,d⟩
theorem zlD(e:FK 128 (ae [.expr,.expr] [.bool] (λx=>c x.1 x.2.1) (λx=>(g x.1 x.2.1,())))):FK 173 (F50 g c):=by
 refine cP (E:=Ry g c) (zaP g c) λx o n a C d=>?_
 unfold G50 at a;split at a
 .rename_i l m u;simp only[Tr.val]at a;split at a
  .rename_i b;simp only[ax]at a;subst a;refine Reach.len 0 .expr l rfl λi=>?_
   refine Reach.weaken (Q:=λr h=>(r,h)=(.kb (MJ g l m),[])) ?_ ?_
   .refine zB (n0:=0) (AT e) (zaP g c) d (zsQ g c l m) ?_;unfold Bi at b;unfold MJ;refine mg (λh=>?_) (λh=>?_)
    .rw[zf h];rfl
    .rw[zh (mF h)]at b|-;have:(M l:Int)=M m:=by simpa using h
     have:M l=M m:=by omega
     exact zrs e d l m this i _ 0 rfl (zU _) b
   .rintro r h j;cases j;refine⟨_,rfl,λw U p v k=>?_⟩;cases k;exact .bool _
  .simp at a
 .simp at a
def ZT(g c:zg->zg->Bool):bS:=Ej.add 173 (F50 g c)
theorem UG(h:FK 128 (ae [.expr,.expr] [.bool] (λx=>c x.1 x.2.1) (λx=>(g x.1 x.2.1,())))):zm (ZT g c):=pZ.add (zlD h)
def eqV(a b:V):Bool:=a.1==b.1&&(a.2.1==b.2.1&&(a.q==b.q&&Z))
def La(g:zg->zg->Bool)(a b:zg):Bool:=bif a.op==b.op then bif eqV a.v b.v then bif a.s==b.s then MJ g a.l b.l else J else J else J
def HQ(g c:zg->zg->Bool)(a b:zg):Bool:=bif a.op==b.op then bif eqV a.v b.v then bif a.s==b.s then Bi g c a.l b.l else Z else Z else Z
theorem W9(g c:zg->zg->Bool):zJ (ZT g c).P 128 f128 2:=bG kw
theorem zsx(g c:zg->zg->Bool)(l m:zg):rn (ZT g c) 0 (λ_=>{}) f128 [zI Q6 l,zI Q6 m] []=chk (HQ g c l m) (Tr.ok (zM.ret (AV.bool (La g l m)) [])):=kw
theorem zeZ(a:FK 128 (ae [.expr,.expr] [.bool] (λx=>c x.1 x.2.1) (λx=>(g x.1 x.2.1,())))):FK 128 (ae [.expr,.expr] [.bool] (λx=>HQ g c x.1 x.2.1) (λx=>(La g x.1 x.2.1,()))):=by
 refine aH (E:=ZT g c) (W9 g c) λx b C h=>?_
 refine zB (n0:=0) (UG a) (W9 g c) (λid _=>h id) (zsx g c x.1 x.2.1) ?_;exact eH b rfl
mutual
def gz:Nat->zg->zg->Bool
 |0=>λ_ _=>J
 |n+1=>La (gz n)
def jC:Nat->zg->zg->Bool
 |0=>λ_ _=>J
 |n+1=>HQ (gz n) (jC n)
end
theorem TA:∀n,FK 128 (ae [.expr,.expr] [.bool] (λx=>jC n x.1 x.2.1) (λx=>(gz n x.1 x.2.1,())))
 |0=>kz ⟨f128,(W9 (λ_ _=>J) (λ_ _=>J)).1,(W9 (λ_ _=>J) (λ_ _=>J)).2.1,(W9 (λ_ _=>J) (λ_ _=>J)).q.1⟩ (λ_=>rfl)
 |n+1=>zeZ (TA n)
def F29:zV:=ae [.expr,.expr] [.bool] (λx=>jC 16 x.1 x.2.1) (λx=>(gz 16 x.1 x.2.1,()))
theorem zlk:FK 128 F29:=TA 16
def OP:=Ej.addL [(151,F15),(128,F29)]
theorem Ek:zm OP:=pZ.addL<|fc zlb<|fc zlk ip
def ec(v:V):Bool:=v.1==0&&(v.2.1==0&&(v.q==[]&&Z))
def avB:R->Option Bool
 |.bool b=>Y b
 |.kb b=>Y b
 |_=>none
theorem Reach.toBool{u:St}{a:List AO}(h:Reach E C fn l u (λr h=>avB r=Y b/\h=a)):Reach E C fn l u (λr h=>(r,h)=(.bool b,a)):=by
 refine h.weaken λr e c=>?_
 obtain⟨x,rfl⟩:=c;refine⟨.bool b,rfl,λw U g v d=>?_⟩;cases r<;>simp[avB]at x<;>subst x<;>cases d<;>exact .bool _
def zgk(g:zg->Int->Int->Bool×Int)(c:zg->Int->Int->Bool):ee [none,Y .expr,Y zi]:=λx h=>match x,h with
 |(.ptr 0 0,e,d,_),[.box [I n]]=>.chk (c e d n) (.ok (.bool (g e d n).1,[.box [I (g e d n).2]]))
 |_,_=>.err
def LH(g:zg->Int->Int->Bool×Int)(c:zg->Int->Int->Bool):zV:=au [none,Y .expr,Y zi] (zgk g c)
def Rx(g:zg->Int->Int->Bool×Int)(c:zg->Int->Int->Bool):bS:=OP.add 184 (LH g c)
variable {x:zg->Int->Int->Bool×Int}{a:zg->Int->Int->Bool}
theorem AS(h:FK 184 (LH x a)):zm (Rx x a):=Ek.add h
abbrev zop:Nat->aR:=λj=>if j=12 then{slots:=[0,2,73,74,75]}else{ }
abbrev HK(x:Int)(l:LX)(i h j:Int):St:={tmps:=(tm 86 [(0,ptr 0 0),(2,I x),(73,O Q6 l),(74,I i),(75,I h)]),heap:=[Qb [I j]]}
theorem Xa(g:zg->Int->Int->Bool×Int)(c:zg->Int->Int->Bool):zJ (Rx g c).P 184 f184 3:=bG kw
theorem zsD(g:zg->Int->Int->Bool×Int)(c:zg->Int->Int->Bool)(e:zg)(d n:Int):rn (Rx g c) 1 zop f184 [ptr 0 0,zI Q6 e,I d] [Qb [I n]]=let a:=Γ Δ (n+1);let h:=Tr.ok (zM.ret (kb J) [Qb [I a]]);br (cond (L (d>12)) Z (cond (L (Γ Δ (n+1)>60)) Z ((e.l.length:Int)!=dl e.op))) h (br (e.op==sJ) (Tr.ok (zM.ret (AV.bool (cond (e.s==[]) (aP e.v) J)) [Qb [I a]])) (br (e.op==ic) (Tr.ok (zM.ret (AV.bool (cond (ec e.v) (cond (fg e.s) (!mM e.s) J) J)) [Qb [I a]])) (br (cond (!ec e.v) Z (!e.s==[])) h (Tr.ok (zM.head 12 (zZ f184 12) (HK d e.l (e.l.length:Int) 0 a)))))):=kw
theorem PM(g:zg->Int->Int->Bool×Int)(c:zg->Int->Int->Bool)(x:Int)(l:LX)(h i j:Int):rh (Rx g c) 1 zop f184 12 (HK x l h i j)=let d:=l.getD i.toNat (zk Q6);let b:=zP d;let a:=g b (Γ Δ (x+1)) j;br (L (i<h)) (chk (zT i (M l)) (chk (c b (Γ Δ (x+1)) j) (br (!a.1) (Tr.ok (zM.ret (kb J) [Qb [I a.2]])) (Tr.ok (zM.head 12 (zZ f184 12) (HK x l h (Γ Δ (i+1)) a.2)))))) (Tr.ok (zM.ret (kb Z) [Qb [I j]])):=kw
def oH(g:zg->Int->Int->Bool×Int)(d:Int):List zg->Int->Bool×Int
 |[],n=>(Z,n)
 |x::r,n=>if(!(g x (Γ Δ (d+1)) n).1)=Z then(J,(g x (Γ Δ (d+1)) n).2)else oH g d r (g x (Γ Δ (d+1)) n).2
def BU(g:zg->Int->Int->Bool×Int)(c:zg->Int->Int->Bool)(d:Int):List zg->Int->Bool
 |[],_=>Z
 |x::r,n=>if c x (Γ Δ (d+1)) n=Z then(ite ((!(g x (Γ Δ (d+1)) n).1)=Z) Z (BU g c d r (g x (Γ Δ (d+1)) n).2))else J
theorem zrr(m:FK 184 (LH x a))(j:∀id,1<=id->C.ρ0 id=none)(d:Int)(l:List zg)(s:M l<=af):
  ∀(k i:Nat)(n:Int),M l-i=k->i<=M l->BU x a d (l.drop i) n=Z->Reach (Rx x a) C 184 (zZ f184 12) (HK d l (M l) i n) (λr h=>avB r=Y (oH x d (l.drop i) n).1/\h=[.box [I (oH x d (l.drop i) n).2]]):=by
 intro k
 induction k with
 | zero=>
  intro i n q p e;obtain rfl:i=M l:=by omega
  refine zB (AS m) (Xa x a) j (PM x a _ _ _ _ _) ?_;simp only[aw,Tr.val_brF,oO];exact⟨rfl,rfl⟩
 | succ k o=>
  intro i n q p e;have b:i<M l:=by omega
  refine zB (AS m) (Xa x a) j (PM x a _ _ _ _ _) ?_;rw[mj b]at e|-;rw[BU]at e;have c:=qh e;simp only[z6 b,zx b,bt l _ b,zg.eta,Tr.val_brT,Tr.val_chkT,c.1,zz i S];refine mg (λh=>?_) (λh=>?_)
  .rw[oH,zf h];exact⟨rfl,rfl⟩
  .rw[oH,zh (mF h)];have g:=c.2;rw[zh (mF h)]at g;exact o (i+1) _ S S g
def yj(g:zg->Int->Int->Bool×Int)(e:zg)(d n:Int):Bool×Int:=if(cond (L (d>12)) Z (cond (L (Γ Δ (n+1)>60)) Z ((e.l.length:Int)!=dl e.op)))=Z then(J,Γ Δ (n+1))else if(e.op==sJ)=Z then(cond (e.s==[]) (aP e.v) J,Γ Δ (n+1))else if(e.op==ic)=Z then(cond (ec e.v) (cond (fg e.s) (!mM e.s) J) J,Γ Δ (n+1))else if(cond (!ec e.v) Z (!e.s==[]))=Z then(J,Γ Δ (n+1))else oH g d e.l (Γ Δ (n+1))
def Pz(g:zg->Int->Int->Bool×Int)(c:zg->Int->Int->Bool)(e:zg)(d n:Int):Bool:=if(cond (L (d>12)) Z (cond (L (Γ Δ (n+1)>60)) Z ((e.l.length:Int)!=dl e.op)))=Z then Z else if(e.op==sJ)=Z then Z else if(e.op==ic)=Z then Z else if(cond (!ec e.v) Z (!e.s==[]))=Z then Z else BU g c d e.l (Γ Δ (n+1))
theorem zfi(k:FK 184 (LH x a)):FK 184 (LH (yj x) (Pz x a)):=by
 refine cP (E:=Rx x a) (Xa x a) λh p o b C j=>?_
 unfold zgk at b;split at b
 .rename_i e d u n;simp only[Tr.val]at b;split at b
  .rename_i g;simp only[ax]at b;subst b;refine Reach.toBool ?_;refine zB (n0:=1) (AS k) (Xa x a) j (zsD x a e d n) ?_;generalize i:yj x e d n=y;unfold yj at i;unfold Pz at g;repeat' (refine mg (λc=>?_) (λc=>?_)<;>first|(rw[zf c]at i g)|(rw[zh (mF c)]at i g))
   all_goals subst i
   .exact⟨rfl,rfl⟩
   .exact⟨rfl,rfl⟩
   .exact⟨rfl,rfl⟩
   .exact⟨rfl,rfl⟩
   .exact Reach.len 73 .expr e.l rfl λm=>zrr k j d e.l m _ 0 _ rfl (zU _) g
  .simp at b
 .simp at b
mutual
def gZ:Nat->zg->Int->Int->Bool×Int
 |0=>λ_ _ _=>(J,0)
 |n+1=>yj (gZ n)
def tN:Nat->zg->Int->Int->Bool
 |0=>λ_ _ _=>J
 |n+1=>Pz (gZ n) (tN n)
end
theorem TB:∀n,FK 184 (LH (gZ n) (tN n))
 | 0=>by
  have h:FK 184 (au [none,Y .expr,Y zi] (λ_ _=>.err)):=cP (Xa (λ_ _ _=>(J,0)) (λ_ _ _=>J)) (E:=OP) λx c b a=>by simp at a
  refine na (ι:=Unit) (Gs:=λ_ _ _=>.err) (λ_=>h) λx c b a=>?_
  unfold zgk at a;split at a
  .simp[Tr.val,tN]at a
  .simp at a
 |n+1=>zfi (TB n)
def F37:zV:=LH (gZ 16) (tN 16)
theorem zlp:FK 184 F37:=TB 16
def El:=OP.add 184 F37
theorem vg:zm El:=Ek.add zlp
end
end Cad
