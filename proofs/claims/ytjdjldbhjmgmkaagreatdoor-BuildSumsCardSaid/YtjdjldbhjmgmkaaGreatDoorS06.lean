/- A function's contract, lifted to whatever calls it. -/
import Derived.Test.YtjdjldbhjmgmkaaGreatDoorS05
namespace Cad
open Go
open List renaming length→Io
open Option renaming some→Q1
open Tr (chk br)
open AV (nils agg tup ptr kb str sl)
@[reducible] def zD:List (Option Sh)->Type
 |[]=>Unit
 |some s::ks=>Sem s×zD ks
 |none::ks=>AV×zD ks
def iY:(ks:List (Option Sh))->zD ks->List AV
 |[],_=>[]
 |some s::ks,x=>zL s x.1::iY ks x.2
 |none::ks,x=>x.1::iY ks x.2
abbrev eX(ks:List (Option Sh)):=zD ks->List AO->Tr (AV×List AO)
def mu(hp:Nat->AO)(f:Nat->Nat):(ks:List (Option Sh))->List AV->Option (zD ks)
 |[],[]=>Q1 ()
 | some s::ks,a::as=>match yO hp s a,mu hp f ks as with
  |some x,Q1 r=>Q1 (x,r)
  |_,_=>none
 | none::ks,a::as=>match mu hp f ks as with
  |some r=>Q1 (a.ren f,r)
  |none=>none
 |_,_=>none
def cL(h:Nat->AO):List (Option Sh)->List AV->Option (List (Bool×AV))
 |[],[]=>Q1 []
 | some s::ks,a::as=>match yO h s a,cL h ks as with
  |some x,Q1 r=>Q1 ((false,zL s x)::r)
  |_,_=>none
 | none::ks,a::as=>match cL h ks as with
  |some r=>Q1 ((true,a)::r)
  |none=>none
 |_,_=>none
def fJ:List (Option Sh)->List AV->List Nat
 |some _::ks,a::as=>ea a++fJ ks as
 |none::ks,_::as=>fJ ks as
 |_,_=>[]
def BG:AV->Bool
 |.bool _|.kb _|.int _ _|.str _|.ifc _=>true
 |_=>false
def wk:AV->Bool
 |.tup h=>h.all BG
 |v=>BG v
def gu(p:List (Bool×AV)):List AV:=(p.filter (·.1)).map (·.2)
def oF(π:List Nat)(n j:Nat):Nat:=if j<Io π then π.getD j 0 else n+(j-Io π)
def RH(x:Nat->AO)(n:Nat)(π z:List Nat)(r:AV)(h:List AO):Tr fM:=
  if Io π<=Io h then
    .ok {val:=r.ren (oF π n),wr:=(π.zip h).map (λp=>(p.1,p.2.ren (oF π n)))++(ite (wk r&&π.isEmpty&&h.isEmpty) [] (gN x z)),
          nw:=(h.drop (Io π)).map (AO.ren (oF π n))}
  else .err
def zlc:AO->Bool
 |.dead=>false
 |_=>true
def aS(k:List (Option Sh))(G:eX k):z8:=λa h n=>
 match cL h k a with
 | some b=>
  let π:=kH h 400 (AV.idsL (gu b)) []
  let z:=fJ k a
  if kR h 0 (AV.idsL (gu b)) π&&z.all (λi=>oK (h i)&&!π.contains i)&&π.all (λi=>decide (i<n)&&zlc (h i))then
   match mu h (λi=>π.idxOf i) k a with
   |some x=>(G x (π.map λi=>(h i).ren λi=>π.idxOf i)).bind λp=>RH h n π z p.1 p.2
   |none=>.err
  else .err
 |none=>.err
def zaB(E:cg)(k:FuncId)(a:List AV)(h:List AO)(Q:AV->List AO->Prop):Prop:=
 ∃f c,E.P.funcs[k]?=Q1 f/\f.body=Q1 c/\(f.name=="runtime.NumGoroutine")=false/\a.length<=f.ntmps/\
  ∀C:eA,(∀id,Io h<=id->C.ρ0 id=none)->Reach E C k [.code c] (aW f.ntmps a h) Q
section
variable {E:cg} {w:World} {U:Nat->Prop} {ρ:Nat->Option Value}
variable {v:Value}
theorem Cm{n:Nat->Prop}{ρ':Nat->Option Value}{x:Nat->AO}{s:Sh}{i:AV}{a:Sem s}(h:yO x s i=Q1 a)(o:Rv w U ρ i v)(z:∀b,n b->U b)
  (F:∀id∈ea i,bl w U ρ id (x id)/\∀b,af ρ id (x id) b->¬n b):Rv w n ρ' (zL s a) v:=by
 have p:∀(c:AV)(v:Value)(j:Nat),(zz s a)[j]?=Q1 c->Rv w n ρ c v->Rv w n ρ' c v:=by
  intro c v j g o;have:=o.ren (ρ':=ρ') (f:=λd=>d) (λd I=>by rw[mq s a j c g]at I;simp at I)
  rwa [qd _ s a j c g]at this
 obtain⟨M,k,t⟩:=yP h;obtain⟨l,q⟩:=ia k o
 obtain⟨T,Z,W⟩:=oI (w:=w) (U:=U) (U':=n) (ρ:=ρ) (hp:=x) z s M a [] (λj=>(v.cells.toList[j]?).getD undef) t
  (λj c J=>by
   have D:j<v.cells.toList.length:=by rw[<-l.len];exact(dc.1 J).1
   exact l.rv j c _ J (by simp[z6 D]))
  (λid C=>F id (by simpa[ea,k]using C))
 have G:v.cells.toList.length=s.size:=by rw[<-l.len];simpa using T
 have e:s.isAgg=i.isAgg:=by
  unfold yO at h;split at h
  next O=>simpa using O
  .cases h
 unfold zL;cases B:s.isAgg with
 | true=>
  rw[B]at e;have m:v=.agg v.cells.toList.toArray:=by
   cases o with
   |agg N vs X A o=>simp[Value.cells]
   |_=>simp[AV.isAgg]at e
  rw[m];refine .agg _ _ (by rw[ag,G]) q (λj c y g Y=>?_);grind
 | false=>
  have u:∃c,zz s a=[c]:=by
   cases s<;>simp[Sh.isAgg]at B<;>simp[zz]
  obtain⟨c,g⟩:=u;have P:s.size=1:=by rw[<-ag s a,g];rfl
  rw[g];have H:=p c _ 0 (by rw[g];rfl) (W 0 c (by rw[g];rfl));rw[B]at e;have S:v.cells.toList[0]?=Q1 v:=by
   cases v with
   | agg L=>
    cases o with
    |agg=>simp[AV.isAgg]at e
    |any=>simp[cellsOf]at k
    |vec _ _ _ A=>simp[Value.oneCell']at A
    |mp _ _ _ A=>simp[Value.oneCell']at A
   |_=>rfl
  rw[S]at H;exact H
theorem jT{U':Nat->Prop}{ρ':Nat->Option Value}{hp:Nat->AO}{f:Nat->Nat}(i:∀b,U' b->U b):∀(m:List (Option Sh))(g:List AV)(e:List Value)(n:List (Bool×AV)),cL hp m g=Q1 n->
  dg w U ρ g e->(∀id∈fJ m g,bl w U ρ id (hp id)/\∀b,af ρ id (hp id) b->¬U' b)->(∀id∈AV.idsL (gu n),ρ' (f id)=ρ id)->
  dg w U' ρ' (n.map λp=>if p.1 then p.2.ren f else p.2) e/\∀id∈AV.idsL (gu n),id∈AV.idsL g
 | [],[],e,n,h,l,_,_=>by
  simp[cL]at h;subst h;exact⟨by simpa using⟨l.len,λj c v k=>by simp at k⟩,by simp[gu,AV.idsL]⟩
 |some s::ks,a::as,[],n,_,l,_,_=>by have:=l.len;simp at this
 |none::ks,a::as,[],n,_,l,_,_=>by have:=l.len;simp at this
 | some s::ks,a::as,v::e,n,h,l,hob,hρ=>by
  simp only[cL]at h;split at h
  .rename_i x r B o;cases h;have q:dg w U ρ as e:=⟨by have:=l.len;simpa using this,λj c v k A=>l.rv (j+1) c v k A⟩;obtain⟨u,z⟩:=jT i ks as e r o q (λid d=>hob id (by simp[fJ,d])) (λid d=>hρ id (by simpa[gu]using d));refine⟨⟨by simp[u.len.symm],λj c y k t=>?_⟩,λid d=>?_⟩
   .cases j with
    | zero=>
     simp at k t;subst k;subst t;exact Cm B (l.rv 0 a v rfl rfl) i (λid d=>hob id (by simp[fJ,d]))
    |succ j=>exact u.rv j c y (by simpa using k) (by simpa using t)
   .simp only[AV.idsL,cz];exact .inr (z id (by simpa[gu]using d))
  .cases h
 | none::ks,a::as,v::e,n,h,l,hob,hρ=>by
  simp only[cL]at h;split at h
  .rename_i r o;cases h;have q:dg w U ρ as e:=⟨by have:=l.len;simpa using this,λj c v k A=>l.rv (j+1) c v k A⟩;obtain⟨u,z⟩:=jT i ks as e r o q (λid d=>hob id (by simpa[fJ]using d)) (λid d=>hρ id (by simp[gu,AV.idsL]at d|-;exact .inr d));refine⟨⟨by simp[u.len.symm],λj c y k t=>?_⟩,λid d=>?_⟩
   .cases j with
    | zero=>
     simp at k t;subst k;subst t;exact((l.rv 0 a v rfl rfl).weak i).ren (λid d=>hρ id (by simp[gu,AV.idsL];exact .inl d))
    |succ j=>exact u.rv j c y (by simpa using k) (by simpa using t)
   .simp[gu,AV.idsL]at d|-;rcases d with d|d
    .exact .inl d
    .exact .inr (z id (by simpa[gu]using d))
  .cases h
 |[],_::_,_,_,h,_,_,_=>by simp[cL]at h
 |some _::_,[],_,_,h,_,_,_=>by simp[cL]at h
 |none::_,[],_,_,h,_,_,_=>by simp[cL]at h
theorem xS{x:Nat->AO}{f:Nat->Nat}:∀(k:List (Option Sh))(c:List AV)(e:List (Bool×AV))(b:zD k),cL x k c=Q1 e->mu x f k c=Q1 b->
  iY k b=e.map λp=>if p.1 then p.2.ren f else p.2
 |[],[],e,b,h,_=>by simp[cL]at h;subst h;rfl
 | some s::ks,a::as,e,b,h,hx=>by
  simp only[cL]at h;simp only[mu]at hx;split at h
  .rename_i y r l g;cases h;rw[l]at hx;split at hx
   next m j i d=>cases i;cases hx;simp[iY,xS ks as r j g d]
   .cases hx
  .cases h
 | none::ks,a::as,e,b,h,hx=>by
  simp only[cL]at h;simp only[mu]at hx;split at h
  .rename_i r g;cases h;split at hx
   next j d=>cases hx;simp[iY,xS ks as r j g d]
   .cases hx
  .cases h
 |[],_::_,_,_,h,_=>by simp[cL]at h
 |some _::_,[],_,_,h,_=>by simp[cL]at h
 |none::_,[],_,_,h,_=>by simp[cL]at h
theorem qv:∀(k:List (Option Sh))(x:List AV)(id:Nat),id∈fJ k x->id∈AV.idsL x
 | some _::ks,a::as,id,h=>by
  simp only[fJ,cz]at h;simp only[AV.idsL,cz];exact h.imp qt (qv ks as id)
 | none::ks,_::as,id,h=>by
  simp only[fJ]at h;simp only[AV.idsL,cz];exact .inr (qv ks as id h)
 |[],_,_,h=>by simp[fJ]at h
 |some _::_,[],_,h=>by simp[fJ]at h
 |none::_,[],_,h=>by simp[fJ]at h
theorem PX{d:World}{b:Nat->Prop}{h:Nat->Option Value}{r:AV}{f:Nat->Nat}(x:wk r=true)(a:Rv w U ρ r v):Rv d b h (r.ren f) v:=by
 have o:∀(r:AV)(v:Value),BG r=true->Rv w U ρ r v->Rv d b h (r.ren f) v:=by
  intro r v x a;cases a<;>simp[BG]at x<;>simp only[AV.ren]
  .exact .kb _
  .exact .bool _
  .exact .int _ _ ‹_›
  .exact .str _ ‹_›
  .exact .ifcN
  .exact .ifcS _ _
 cases r with
 | tup m=>
  cases a with
  |tup _ i e g=>
  simp only[wk,dQ]at x;simp only[AV.ren,iT];refine .tup _ i (by simpa using e) (λj c v k l=>?_);grind
 |_=>exact o _ v (by simpa[wk]using x) a
theorem collect_in{x:Nat->AO}{S:List Nat}(a:∀id∈S,∀j∈(x id).ids,j∈S):∀(h:Nat)(t s:List Nat),(∀i∈t,i∈S)->(∀i∈s,i∈S)->∀i∈kH x h t s,i∈S
 |0,_,_,_,b=>b
 |_+1,[],_,_,b=>b
 | n+1,i::r,s,ht,b=>by
  simp only[kH];split
  .exact collect_in a n r s (λj c=>ht j (by simp[c])) b
  .refine collect_in a n _ _ (λj c=>?_) (λj c=>?_)
   .grind
   grind
theorem Yo{id:Nat}{o:AO}(h:zlc o=true)(i:bl w U ρ id o):∃v,ρ id=Q1 v:=by
 cases o with
 |dead=>simp[zlc]at h
 |box m=>obtain⟨b,T,k,d,_⟩:=i;exact⟨_,d⟩
 |vec e l=>obtain⟨a,c,d,_⟩:=i;exact⟨_,d⟩
 |frz e l=>obtain⟨v,d,_⟩:=i;exact⟨_,d⟩
 |fmap j=>obtain⟨r,g,x,d,_⟩:=i;exact⟨_,d⟩
 |vmap u j=>obtain⟨r,g,x,d,_⟩:=i;exact⟨_,d⟩
 |gmap e j=>obtain⟨r,g,x,n,d,_⟩:=i;exact⟨_,d⟩
variable {k:FuncId}{d:List AV}{e:List AO}{Q:AV->List AO->Prop}
theorem Ci{C:eA}{f:Func}{c:Code}{h:List Value}(u:E.P.funcs[k]?=Q1 f)(s:f.body=Q1 c)(_:Io d<=f.ntmps)
  (p:Reach E C k [.code c] (aW f.ntmps d e) Q) (i:dg w U ρ d h) (o:gK C w U ρ (λj=>e.getD j .dead)) (a:∀id,Io e<=id->ρ id=none) (g:∀id v,C.ρ0 id=Q1 v->ρ id=Q1 v)
  (q:Wd E.gl C w U):Calls E.P k h.toArray w (Tb E C Q):=by
 intro l;let b:Frame:={(default:Frame)with fn:=k,kind:=.normal}
 have x:Frame.enter E.P k h.toArray .normal=b.at {tmps:=h.toArray++Array.replicate (f.ntmps-h.toArray.size) undef,defers:=[]} [.code c]:=by
  simp[Frame.enter,Frame.at,u,s,b]
 rw[x];refine p b l _ w U ρ rfl rfl ⟨?_,o,a,rfl,g⟩ q;have y:=i.len;simp only[aW,Array.toList_append,Array.toList_replicate,List.size_toArray];rw[<-y];refine i.append ⟨sw,λj c v t z=>?_⟩;have m:c=.tup []:=by
  have:=fF t;simpa using(List.mem_replicate.1 this).2
 have n:v=undef:=by
  have:=fF z;simpa using(List.mem_replicate.1 this).2
 rw[m,n];exact .tup [] [] rfl sw
def Qt(E:cg)(k:FuncId)(a:List AV)(x:List AO)(Q:AV->List AO->Prop):Prop:=
 ∀(C:eA)(w:World)(U:Nat->Prop)(ρ:Nat->Option Value)(h:List Value),(∀id,Io x<=id->C.ρ0 id=none)->dg w U ρ a h->gK C w U ρ (λj=>x.getD j .dead)->(∀id,Io x<=id->ρ id=none)->
  (∀id v,C.ρ0 id=Q1 v->ρ id=Q1 v)->Wd E.gl C w U->Calls E.P k h.toArray w (Tb E C Q)
theorem zaB.calls(h:zaB E k d e Q):Qt E k d e Q:=by intro C w U ρ v x a b g i j;obtain⟨f,c,n,m,_,o,l⟩:=h;exact Ci n m o (l C x) a b g i j
variable {P:Program}{g:Nat->AV}{a:List (Option Sh)}
theorem fu{G:eX a}(j5:∃fn,E.P.funcs[k]?=some fn/\(fn.name=="runtime.NumGoroutine")=false/\fn.body.isNone=false)
    (hG:∀x h0 i4,(G x h0).val=Q1 i4->Qt E k (iY a x) h0 (λr h=>(r,h)=i4)) (qp:E.P=P:=by rfl) (qg:E.gl=g:=by rfl):ol P g k (aS a G):=by
  subst qp qg;refine⟨j5,?_⟩;intro w U ρ B n N x2 f fp h hr i0 j6 J a4 j4 hn;unfold aS at h;split at h
  · rename_i ps a7
    simp only at h;generalize hπ:kH B 400 (AV.idsL (gu ps)) []=π at h;generalize hz:fJ a N=z at h;split at h
    · rename_i Z
      simp only[aE,dQ,aQ,yJ,List.contains_eq_mem,dZ]at Z;obtain⟨⟨F,x0⟩,k9⟩:=Z;split at h;rotate_left
      · simp at h
      rename_i xs k8;have k7:=xS a N ps xs a7 k8;simp only[Tr.val_bind,fO]at h;obtain⟨⟨r,s⟩,i6,h⟩:=h;unfold RH at h;split at h
      · rename_i j7
        simp only[Tr.val_ok,bg]at h;simp only[kR,aE,dQ,FZ]at F;obtain⟨⟨⟨l7,j0⟩,j3⟩,_⟩:=F;have j9:=DE j3;have W:∀i∈z,i∈fp:=λi D=>a4 i (qv a N i (by rw[hz];exact D))
        generalize a3:(λb=>U b/\¬∃j∈z,af ρ j (B j) b)=U1;have q:∀b,U1 b->U b:=by intro b h;rw[<-a3]at h;exact h.1
        have i2:∀j∈z,∀b,af ρ j (B j) b->¬U1 b:=λj m b A h=>by grind
        have k5:=jT (w:=w) (U:=U) (ρ:=ρ) (U':=U1) (ρ':=λj=>(π[j]?).bind ρ) (hp:=B) (f:=λi=>π.idxOf i) q a N x2 ps a7 hr
          (λid L=>⟨J.ob id (W id (by rw[<-hz];exact L)),i2 id (by rw[<-hz];exact L)⟩)
          (λid L=>by
            grind)
        obtain⟨Y,h9⟩:=k5;rw[<-k7]at Y;have y:∀i∈π,i∈fp:=by
          rw[<-hπ];exact collect_in j4 400 _ [] (λi D=>a4 i (h9 i D)) (by simp)
        have i9:∀id∈π,((π[π.idxOf id]?).bind ρ)=ρ id:=by
          intro id L;have u:π.idxOf id<Io π:=List.idxOf_lt_length_iff.2 L;rw[z6 u,List.getElem_idxOf u];rfl
        let C:eA:={w0:=w,U0:=U1,B0:=λb=>∃i∈π,af ρ i (B i) b,ρ0:=λj=>(π[j]?).bind ρ}
        have T:∀i∈π,∀b,af ρ i (B i) b->U1 b/\b<w.heap.size:=by
          intro i D b A;have:=(J.ob i (y i D)).inU A;refine⟨?_,this.2⟩;rw[<-a3];refine⟨this.1,λ⟨j,m,k2⟩=>?_⟩;have e:=J.inj i (y i D) j (W j m) b A k2;subst e;exact(x0 i m).2 D
        have x9:∀i∈π,bl w U1 ρ i (B i):=λi D=>
          (J.ob i (y i D)).mono (ah _) (λ_ _ _=>rfl) (λb _ h=>q b h) (λ_ _ h=>h) (λb A=>⟨rfl,(T i D b A).1⟩)
        have h4:∀j(m:j<Io π),(π.map λi=>(B i).ren λi=>π.idxOf i).getD j .dead=(B π[j]).ren λi=>π.idxOf i:=by
          intro j m;rw[aY,du,z6 m];rfl
        have h7:∀j,Io π<=j->(π.map λi=>(B i).ren λi=>π.idxOf i).getD j .dead=.dead:=by
          intro j m;rw[aY,eZ (by simpa using m)];rfl
        have i3:∀j(m:j<Io π),((π[j]?).bind ρ)=ρ π[j]:=λj m=>by rw[z6 m];rfl
        have M:∀j b,af (λj=>(π[j]?).bind ρ) j ((π.map λi=>(B i).ren λi=>π.idxOf i).getD j .dead) b->∃m:j<Io π,af ρ π[j] (B π[j]) b:=by
          rintro j b ⟨A,v,hv,I⟩;by_cases u:j<Io π
          · refine⟨u,?_,v,by rw[<-i3 j u];exact hv,I⟩
            rw[h4 j u,DK]at A;exact A
          · simp_all
        have i7:gK C w U1 (λj=>(π[j]?).bind ρ) (λj=>(π.map λi=>(B i).ren λi=>π.idxOf i).getD j .dead):=by
          refine⟨λj=>?_,λj1 j2 b o1 o2=>?_,λj b o=>?_⟩
          · by_cases u:j<Io π
            · rw[h4 j u]
              exact(x9 π[j] (bp u)).ren (i3 j u) (λi D=>i9 i (j0 π[j] (bp u) i D))
            · rw[h7 j (by omega)];trivial
          · obtain⟨l1,q1⟩:=M j1 b o1
            obtain⟨l2,q2⟩:=M j2 b o2;exact(List.getElem_inj j9).1 (J.inj _ (y _ (bp l1)) _ (y _ (bp l2)) b q1 q2)
          · obtain⟨l1,q1⟩:=M j b o
            grind
        have i8:Wd E.gl C w U1:=⟨kF.refl w,λ_ _ _=>rfl,λb I=>i0 b (q b I),λ_ _ h=>h,λ_ _ h _=>h,λc=>(j6 c).weak q⟩;have h6:=hG _ _ _ i6 C w U1 _ x2 (λid L=>by
            grind) Y i7 (λid L=>by
            simp_all) (λ_ _ h=>h) i8
        have a1:∀id o,(id,o)∈f.wr->id∈fp:=by
          intro id o l;rw[<-h]at l;simp only[cz,bh]at l;rcases l with⟨p,a0,he⟩|l
          · have:p.1∈π:=(List.of_mem_zip a0).1
            cases he;exact y _ this
          · split at l
            · simp at l
            · exact W id (dE l).1
        refine⟨h6.mono ?_,a1⟩;rintro e w' ⟨v,r',l6,U',ρ',rfl,hq,a9,x4,x7,a8,t⟩;cases hq;by_cases S:(wk r&&π.isEmpty&&s.isEmpty)=true
        ·
          rw[ze S]at h;simp only[aE,List.isEmpty_iff]at S;obtain⟨⟨k6,rfl⟩,rfl⟩:=S;simp at h;subst h;refine⟨v,U,ρ,rfl,⟨t.ext,PX k6 a9,by simp,by simp,λ_ _=>rfl,λ_ _ h=>h,λb I _=>t.same b I (by simp[C]),λb I=>gF (i0 b I) t.ext.sz,λ_ _ h=>h,λ_ _ h _=>h,by simp,by simp⟩⟩
        · rw[zg S]at h
          let ρf:Nat->Option Value:=λid=>if n<=id/\id<n+(Io s-Io π)then ρ' (Io π+(id-n))else ρ id
          have j8:∀j(m:j<Io π),ρ' j=ρ π[j]:=by
            intro j m;obtain⟨x,X⟩:=Yo (k9 π[j] (bp m)).2 (J.ob π[j] (y _ (bp m)));rw[X];exact a8 j x (by grind)
          have hg:∀j,j<Io s->ρf (oF π n j)=ρ' j:=by
            intro j m;unfold oF;split
            · grind
            · grind
          have l4:f.nw.length=Io s-Io π:=by rw[<-h];simp
          have h5:∀id x,ρ id=Q1 x->ρf id=Q1 x:=by
            intro id x X;show(ite (n<=id/\id<n+(Io s-Io π)) (ρ' (Io π+(id-n))) (ρ id))=Q1 x;rw[zg]
            · exact X
            · rintro⟨H,O⟩
              have:=hn (id-n) (by omega);simp_all
          have x5:∀j x,ρ' j=Q1 x->ρf (oF π n j)=Q1 x:=by
            intro j x X;by_cases m:j<Io s
            · rw[hg j m];exact X
            · rw[x7 j (by omega)]at X;cases X
          have a6:∀j(m:j<Io s),bl w' U' ρf (oF π n j) (s[j].ren (oF π n)):=by
            intro j m;have:=x4.ob j;rw[show s.getD j .dead=s[j] by simp[m]]at this;exact this.ren' (λx X=>x5 j x X) (λi _ x X=>x5 i x X)
          have i1:∀id o,(id,o)∈f.wr->(∃j,∃m:j<Io s,j<Io π/\id=oF π n j/\o=s[j].ren (oF π n))\/(id∈z/\o=Df (B id)):=by
            intro id o l;rw[<-h]at l;simp only[cz,bh]at l;rcases l with⟨p,a0,he⟩|l
            · obtain⟨j,m,a5⟩:=fP a0
              have x6:j<Io π/\j<Io s:=by rw[List.length_zip]at m;omega
              rw[List.getElem_zip]at a5;subst a5;cases he;refine .inl ⟨j,x6.2,x6.1,?_,rfl⟩;simp[oF,x6.1]
            · exact .inr (dE l)
          have l9:∀(k:Nat) o,f.nw[k]?=Q1 o->∃m:Io π+k<Io s,n+k=oF π n (Io π+k)/\o=s[Io π+k].ren (oF π n):=by
            intro k o hk;rw[<-h]at hk;simp only[du,BY,dt]at hk;obtain⟨d,ha,rfl⟩:=hk;obtain⟨m,ha⟩:=dc.1 ha;exact⟨m,by unfold oF;rw[zg (by omega)];omega,by rw[ha]⟩
          have x1:∀(id:Nat),(Df (B id)).owns=true->oK (B id)=true->False:=by
            intro id H O;cases hh:B id<;>rw[hh]at H O<;>simp[Df,AO.owns,oK]at H O
          have a2:∀id o b,((id,o)∈f.wr\/(n<=id/\f.nw[id-n]?=Q1 o))->af ρf id o b->∃j,id=oF π n j/\af ρ' j (s.getD j .dead) b:=by
            intro id o b l A;have i5:∀j(m:j<Io s),id=oF π n j->o=s[j].ren (oF π n)->∃j,id=oF π n j/\af ρ' j (s.getD j .dead) b:=by
              rintro j m rfl rfl;refine⟨j,rfl,?_⟩;obtain⟨H,x,O,h3⟩:=A;rw[DK]at H;rw[hg j m]at O;refine⟨?_,x,O,h3⟩;rw[show s.getD j .dead=s[j] by simp[m]];exact H
            rcases l with l|⟨l8,l⟩
            · rcases i1 id o l with⟨j,m,_,H,O⟩|⟨H,rfl⟩
              · exact i5 j m H O
              · exact(x1 id A.1 (x0 id H).1).elim
            · grind
          have x3:∀b,C.B0 b->∃id o,(id,o)∈f.wr/\af ρ id (B id) b:=by
            rintro b ⟨i,D,A⟩;obtain⟨j,m,rfl⟩:=fP D;refine⟨π[j],s[j].ren (oF π n),?_,A⟩;rw[<-h];simp only[cz,bh];refine .inl ⟨(π[j],s[j]),?_,rfl⟩;have:(π.zip s)[j]?=Q1 (π[j],s[j]):=by simp[List.getElem?_zip_eq_some,m,gF m j7]
            exact fF this
          have l5:∀i∈z,(i,Df (B i))∈f.wr:=by
            intro i D;rw[<-h];simp only[cz];exact .inr (rt D)
          refine⟨v,U',ρf,rfl,⟨t.ext,?_,?_,?_,?_,h5,?_,t.ub,?_,?_,?_,?_⟩⟩
          · rw[<-h];exact a9.ren' (λi _ x X=>x5 i x X)
          · intro id o l
            rcases i1 id o l with⟨j,m,_,rfl,rfl⟩|⟨h8,rfl⟩
            · exact a6 j m
            · refine(rr (J.ob id (W id h8)) (x0 id h8).1 q (i2 id h8)).mono t.ext.sz (λb I k1=>?_) t.u1 h5 (λb A=>(x1 id A.1 (x0 id h8).1).elim)
              exact t.same b I (λ⟨i,D,A⟩=>k1 (T i D b A).1)
          · grind
          · grind
          · intro b I x8
            refine t.same b I (λhB=>?_);obtain⟨id,o,H,O⟩:=x3 b hB;exact x8 id o H O
          · intro b I hu
            exact q b (t.u1 b I hu)
          · intro b I hu x8
            refine t.u2 b I ?_ (λhB=>?_)
            · grind
            · obtain⟨id,o,H,O⟩:=x3 b hB
              exact x8 id o H O
          · intro id o b l A
            obtain⟨j,_,m⟩:=a2 id o b l A;rcases x4.blk j b m with hB|hB
            · exact .inr (x3 b hB)
            · exact .inl hB
          · intro l0 o1 l3 o2 b H O k3 k4
            obtain⟨j1,e1,q1⟩:=a2 l0 o1 b H k3;obtain⟨j2,e2,q2⟩:=a2 l3 o2 b O k4;rw[e1,e2,x4.inj j1 j2 b q1 q2]
      · simp at h
    · simp at h
  · simp at h
theorem Vp{G:eX a}(d:∃fn,E.P.funcs[k]?=Q1 fn/\(fn.name=="runtime.NumGoroutine")=false/\fn.body.isNone=false)
  (e:∀x c b,(G x c).val=Q1 b->zaB E k (iY a x) c (λr h=>(r,h)=b)) (j:E.P=P:=by rfl) (q:E.gl=g:=by rfl):ol P g k (aS a G):=by subst j q;exact fu d λx c b i=>(e x c b i).calls
end
end Cad
