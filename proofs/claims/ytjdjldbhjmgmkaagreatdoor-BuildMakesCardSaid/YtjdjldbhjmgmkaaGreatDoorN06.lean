/- A function's contract, lifted to whatever calls it. -/
import Derived.Test.YtjdjldbhjmgmkaaGreatDoorN05
namespace Cad
open Go
open List renaming length->Io,length->N
open Option renaming some->Q1,some->Y
open Tr (chk br)
open AV (nils agg tup ptr kb str sl)
open Cad renaming Sem->L
@[reducible] def zH:List (Option Sh)->Type
 |[]=>Unit
 |some s::ks=>L s×zH ks
 |none::ks=>AV×zH ks
def jj:(ks:List (Option Sh))->zH ks->List AV
 |[],_=>[]
 |some s::ks,x=>zX s x.1::jj ks x.2
 |none::ks,x=>x.1::jj ks x.2
abbrev fA(ks:List (Option Sh)):=zH ks->List AO->Tr (AV×List AO)
def nG(hp:Nat->AO)(f:Nat->Nat):(ks:List (Option Sh))->List AV->Option (zH ks)
 |[],[]=>Y ()
 | some s::ks,a::as=>match BK hp s a,nG hp f ks as with
  |some x,Y r=>Y (x,r)
  |_,_=>none
 | none::ks,a::as=>match nG hp f ks as with
  |some r=>Y (a.ren f,r)
  |none=>none
 |_,_=>none
def dh(h:Nat->AO):List (Option Sh)->List AV->Option (List (Bool×AV))
 |[],[]=>Y []
 | some s::ks,a::as=>match BK h s a,dh h ks as with
  |some x,Y r=>Y ((false,zX s x)::r)
  |_,_=>none
 | none::ks,a::as=>match dh h ks as with
  |some r=>Y ((true,a)::r)
  |none=>none
 |_,_=>none
def gv:List (Option Sh)->List AV->List Nat
 |some _::ks,a::as=>eC a++gv ks as
 |none::ks,_::as=>gv ks as
 |_,_=>[]
def DF:AV->Bool
 |.bool _|.kb _|.int _ _|.str _|.ifc _=>true
 |_=>false
def yC:AV->Bool
 |.tup h=>h.all DF
 |v=>DF v
def iH(p:List (Bool×AV)):List AV:=(p.filter (·.1)).map (·.2)
def pR(h:List Nat)(n j:Nat):Nat:=if j<N h then h.getD j 0 else n+(j-N h)
def T4(x:Nat->AO)(n:Nat)(a z:List Nat)(r:AV)(h:List AO):Tr gB:=
  if N a<=N h then
    .ok {val:=r.ren (pR a n),wr:=(a.zip h).map (λp=>(p.1,p.2.ren (pR a n)))++(ite (yC r&&a.isEmpty&&h.isEmpty) [] (io x z)),
          nw:=(h.drop (N a)).map (AO.ren (pR a n))}
  else .err
def zoc:AO->Bool
 |.dead=>false
 |_=>true
def bj(k:List (Option Sh))(G:fA k):ak:=λa h n=>
 match dh h k a with
 | some b=>
  let c:=lD h 400 (AV.idsL (iH b)) []
  let z:=gv k a
  if lO h 0 (AV.idsL (iH b)) c&&z.all (λi=>pX (h i)&&!c.contains i)&&c.all (λi=>decide (i<n)&&zoc (h i))then
   match nG h (λi=>c.idxOf i) k a with
   |some x=>(G x (c.map λi=>(h i).ren λi=>c.idxOf i)).bind λp=>T4 h n c z p.1 p.2
   |none=>.err
  else .err
 |none=>.err
def XK(E:cy)(k:FuncId)(a:List AV)(h:List AO)(Q:AV->List AO->Prop):Prop:=
 ∃f c,E.P.funcs[k]?=Q1 f/\f.body=Q1 c/\(f.name=="runtime.NumGoroutine")=false/\a.length<=f.ntmps/\
  ∀C:eU,(∀id,N h<=id->C.ρ0 id=none)->Reach E C k [.code c] (bl f.ntmps a h) Q
section
variable {E:cy} {w:World} {U:Nat->Prop} {ρ:Nat->Option Value}
variable {v:Value}
theorem Eo{m:Nat->Prop}{ρ':Nat->Option Value}{x:Nat->AO}{s:Sh}{i:AV}{a:L s}(h:BK x s i=Y a)(n:Rv w U ρ i v)(u:∀b,m b->U b)
  (D:∀id∈eC i,bz w U ρ id (x id)/\∀b,ar ρ id (x id) b->¬m b):Rv w m ρ' (zX s a) v:=by
 have p:∀(c:AV)(v:Value)(j:Nat),(zF s a)[j]?=Y c->Rv w m ρ c v->Rv w m ρ' c v:=by
  intro c v j g n;have:=n.ren (ρ':=ρ') (f:=λd=>d) (λd H=>by rw[nC s a j c g]at H;simp at H)
  rwa [rO _ s a j c g]at this
 have⟨cs,k,q⟩:=BL h;have⟨B,o⟩:=iM k n
 have⟨q1,q2,q3⟩:=pV (w:=w) (U:=U) (U':=m) (ρ:=ρ) (hp:=x) u s cs a [] (λj=>(v.cells.toList[j]?).getD undef) q
  (λj c hj=>by
   grind[dn.len,dn.rv])
  (λid C=>D id (by simpa[eC,k]using C))
 have F:v.cells.toList.length=s.size:=by rw[<-B.len];simpa using q1
 have e:s.isAgg=i.isAgg:=by
  unfold BK at h;split at h
  next he=>simpa using he
  .cases h
 unfold zX;cases A:s.isAgg with
 | true=>
  rw[A]at e;have l:v=.agg v.cells.toList.toArray:=by
   cases n with
   |agg h2 vs hl z n=>simp[Value.cells]
   |_=>simp[AV.isAgg]at e
  rw[l];refine .agg _ _ (by rw[au,F]) o (λj c y g hy=>?_);grind
 | false=>
  have t:∃c,zF s a=[c]:=by
   cases s<;>simp[Sh.isAgg]at A<;>simp[zF]
  have⟨c,g⟩:=t;have h3:s.size=1:=by rw[<-au s a,g];rfl
  rw[g];have G:=p c _ 0 (by rw[g];rfl) (q3 0 c (by rw[g];rfl));rw[A]at e;have hv:v.cells.toList[0]?=Y v:=by
   cases v with
   | agg P=>
    cases n with
    |agg=>simp[AV.isAgg]at e
    |any=>simp[cellsOf]at k
    |vec _ _ _ z=>simp[Value.oneCell']at z
    |mp _ _ _ z=>simp[Value.oneCell']at z
   |_=>rfl
  rw[hv]at G;exact G
theorem kN{U':Nat->Prop}{ρ':Nat->Option Value}{hp:Nat->AO}{f:Nat->Nat}(i:∀b,U' b->U b):∀(m:List (Option Sh))(g:List AV)(e:List Value)(n:List (Bool×AV)),dh hp m g=Y n->
  dn w U ρ g e->(∀id∈gv m g,bz w U ρ id (hp id)/\∀b,ar ρ id (hp id) b->¬U' b)->(∀id∈AV.idsL (iH n),ρ' (f id)=ρ id)->
  dn w U' ρ' (n.map λp=>if p.1 then p.2.ren f else p.2) e/\∀id∈AV.idsL (iH n),id∈AV.idsL g
 | [],[],e,n,h,l,_,_=>by
  simp[dh]at h;subst h;exact⟨by simpa using⟨l.len,λj c v k=>by simp at k⟩,by simp[iH,AV.idsL]⟩
 |some s::ks,a::as,[],n,_,l,_,_=>by have:=l.len;simp at this
 |none::ks,a::as,[],n,_,l,_,_=>by have:=l.len;simp at this
 | some s::ks,a::as,v::e,n,h,l,hob,hρ=>by
  simp only[dh]at h;split at h
  .rename_i x r B o;cases h;have q:dn w U ρ as e:=⟨by have:=l.len;simpa using this,λj c v k z=>l.rv (j+1) c v k z⟩;have⟨u,A⟩:=kN i ks as e r o q (λid d=>hob id (by simp[gv,d])) (λid d=>hρ id (by simpa[iH]using d));refine⟨⟨by simp[u.len.symm],λj c y k t=>?_⟩,λid d=>?_⟩
   .cases j with
    | zero=>
     simp at k t;subst k;subst t;exact Eo B (l.rv 0 a v rfl rfl) i (λid d=>hob id (by simp[gv,d]))
    |succ j=>exact u.rv j c y (by simpa using k) (by simpa using t)
   grind[AV.idsL,iH]
  .cases h
 | none::ks,a::as,v::e,n,h,l,hob,hρ=>by
  simp only[dh]at h;split at h
  .rename_i r o;cases h;have q:dn w U ρ as e:=⟨by have:=l.len;simpa using this,λj c v k z=>l.rv (j+1) c v k z⟩;have⟨u,A⟩:=kN i ks as e r o q (λid d=>hob id (by simpa[gv]using d)) (λid d=>hρ id (by simp[iH,AV.idsL]at d|-;exact .inr d));refine⟨⟨by simp[u.len.symm],λj c y k t=>?_⟩,λid d=>?_⟩
   .cases j with
    | zero=>
     simp at k t;subst k;subst t;exact((l.rv 0 a v rfl rfl).weak i).ren (λid d=>hρ id (by simp[iH,AV.idsL];exact .inl d))
    |succ j=>exact u.rv j c y (by simpa using k) (by simpa using t)
   grind[iH,AV.idsL]
  .cases h
 |[],_::_,_,_,h,_,_,_=>by simp[dh]at h
 |some _::_,[],_,_,h,_,_,_=>by simp[dh]at h
 |none::_,[],_,_,h,_,_,_=>by simp[dh]at h
theorem A6{x:Nat->AO}{f:Nat->Nat}:∀(k:List (Option Sh))(c:List AV)(e:List (Bool×AV))(b:zH k),dh x k c=Y e->nG x f k c=Y b->
  jj k b=e.map λp=>if p.1 then p.2.ren f else p.2
 |[],[],e,b,h,_=>by simp[dh]at h;subst h;rfl
 | some s::ks,a::as,e,b,h,hx=>by
  simp only[dh]at h;simp only[nG]at hx;split at h
  .rename_i y r l g;cases h;rw[l]at hx;split at hx
   next m j i d=>cases i;cases hx;simp[jj,A6 ks as r j g d]
   .cases hx
  .cases h
 | none::ks,a::as,e,b,h,hx=>by
  simp only[dh]at h;simp only[nG]at hx;split at h
  .rename_i r g;cases h;split at hx
   next j d=>cases hx;simp[jj,A6 ks as r j g d]
   .cases hx
  .cases h
 |[],_::_,_,_,h,_=>by simp[dh]at h
 |some _::_,[],_,_,h,_=>by simp[dh]at h
 |none::_,[],_,_,h,_=>by simp[dh]at h
theorem sf:∀(k:List (Option Sh))(x:List AV)(id:Nat),id∈gv k x->id∈AV.idsL x
 | some _::ks,a::as,id,h=>by
  simp only[gv,dl]at h;simp only[AV.idsL,dl];exact h.imp sb (sf ks as id)
 | none::ks,_::as,id,h=>by
  simp only[gv]at h;simp only[AV.idsL,dl];exact .inr (sf ks as id h)
 |[],_,_,h=>by simp[gv]at h
 |some _::_,[],_,h=>by simp[gv]at h
 |none::_,[],_,h=>by simp[gv]at h
theorem SE{d:World}{b:Nat->Prop}{h:Nat->Option Value}{r:AV}{f:Nat->Nat}(x:yC r=true)(a:Rv w U ρ r v):Rv d b h (r.ren f) v:=by
 have o:∀(r:AV)(v:Value),DF r=true->Rv w U ρ r v->Rv d b h (r.ren f) v:=by
  intro r v x a;cases a<;>simp[DF]at x<;>simp only[AV.ren]
  .exact .kb _
  .exact .bool _
  .exact .int _ _ ‹_›
  .exact .str _ ‹_›
  .exact .ifcN
  .exact .ifcS _ _
 cases r with
 | tup m=>
  cases a with
  |tup _ i e g=>
  simp only[yC,ep]at x;simp only[AV.ren,jA];refine .tup _ i (by simpa using e) (λj c v k l=>?_);grind
 |_=>exact o _ v (by simpa[yC]using x) a
theorem collect_in{x:Nat->AO}{h:List Nat}(b:∀id∈h,∀j∈(x id).ids,j∈h):∀(a:Nat)(t s:List Nat),(∀i∈t,i∈h)->(∀i∈s,i∈h)->∀i∈lD x a t s,i∈h
 |0,_,_,_,c=>c
 |_+1,[],_,_,c=>c
 | n+1,i::r,s,ht,c=>by
  simp only[lD];split
  .exact collect_in b n r s (λj d=>ht j (by simp[d])) c
  .refine collect_in b n _ _ (λj d=>?_) (λj d=>?_)
   .grind
   grind
theorem zau{id:Nat}{o:AO}(h:zoc o=true)(j:bz w U ρ id o):∃v,ρ id=Y v:=by
 cases o with
 |dead=>simp[zoc]at h
 |box n=>have⟨b,x,m,g,_⟩:=j;exact⟨_,g⟩
 |vec e l=>have⟨a,c,g,_⟩:=j;exact⟨_,g⟩
 |frz e l=>have⟨v,g,_⟩:=j;exact⟨_,g⟩
 |fmap k=>have⟨r,i,d,g,_⟩:=j;exact⟨_,g⟩
 |vmap u k=>have⟨r,i,d,g,_⟩:=j;exact⟨_,g⟩
 |gmap e k=>have⟨r,i,d,p,g,_⟩:=j;exact⟨_,g⟩
variable {k:FuncId}{d:List AV}{e:List AO}{Q:AV->List AO->Prop}
theorem Ek{C:eU}{f:Func}{c:Code}{h:List Value}(u:E.P.funcs[k]?=Y f)(s:f.body=Y c)(_:N d<=f.ntmps)
  (p:Reach E C k [.code c] (bl f.ntmps d e) Q) (i:dn w U ρ d h) (o:fC C w U ρ (λj=>e.getD j .dead)) (a:∀id,N e<=id->ρ id=none) (g:∀id v,C.ρ0 id=Y v->ρ id=Y v)
  (q:Wd E.gl C w U):Calls E.P k h.toArray w (VG E C Q):=by
 intro l;let b:Frame:={(default:Frame)with fn:=k,kind:=.normal}
 have x:Frame.enter E.P k h.toArray .normal=b.at {tmps:=h.toArray++Array.replicate (f.ntmps-h.toArray.size) undef,defers:=[]} [.code c]:=by
  simp[Frame.enter,Frame.at,u,s,b]
 rw[x];refine p b l _ w U ρ rfl rfl ⟨?_,o,a,rfl,g⟩ q;have y:=i.len;simp only[bl,Array.toList_append,Array.toList_replicate,List.size_toArray];rw[<-y];refine i.append ⟨sw,λj c v t z=>?_⟩;have m:c=.tup []:=by
  have:=gh t;simpa using(List.mem_replicate.1 this).2
 have n:v=undef:=by
  have:=gh z;simpa using(List.mem_replicate.1 this).2
 rw[m,n];exact .tup [] [] rfl sw
def S3(E:cy)(k:FuncId)(a:List AV)(x:List AO)(Q:AV->List AO->Prop):Prop:=
 ∀(C:eU)(w:World)(U:Nat->Prop)(ρ:Nat->Option Value)(h:List Value),(∀id,N x<=id->C.ρ0 id=none)->dn w U ρ a h->fC C w U ρ (λj=>x.getD j .dead)->(∀id,N x<=id->ρ id=none)->
  (∀id v,C.ρ0 id=Y v->ρ id=Y v)->Wd E.gl C w U->Calls E.P k h.toArray w (VG E C Q)
theorem XK.calls(h:XK E k d e Q):S3 E k d e Q:=by intro C w U ρ v x a b g i j;have⟨f,c,n,m,_,o,l⟩:=h;exact Ek n m o (l C x) a b g i j
variable {P:Program}{g:Nat->AV}{a:List (Option Sh)}
theorem fU{G:fA a}(j6:∃fn,E.P.funcs[k]?=some fn/\(fn.name=="runtime.NumGoroutine")=false/\fn.body.isNone=false)
    (hG:∀x h0 i7,(G x h0).val=Y i7->S3 E k (jj a x) h0 (λr h=>(r,h)=i7)) (qp:E.P=P:=by rfl) (qg:E.gl=g:=by rfl):ou P g k (bj a G):=by
  subst qp qg;refine⟨j6,?_⟩;intro w U ρ y n h5 x9 f fp h hr i4 j7 h8 a8 j5 hn;unfold bj at h;split at h
  · rename_i ps i1
    simp only at h;generalize hπ:lD y 400 (AV.idsL (iH ps)) []=π at h;generalize hz:gv a h5=z at h;split at h
    · rename_i x0
      simp only[aO,ep,bc,uP,List.contains_eq_mem,ed]at x0;have⟨⟨A,x7⟩,k9⟩:=x0;split at h;rotate_left
      · simp at h
      rename_i xs k8;have k7:=A6 a h5 ps xs i1 k8;simp only[Tr.val_bind,gE]at h;have⟨⟨r,s⟩,i9,h⟩:=h;unfold T4 at h;split at h
      · rename_i j8
        simp only[Tr.val_ok,bH]at h;simp only[lO,aO,ep,Ik]at A;have⟨⟨⟨l6,l7⟩,j4⟩,_⟩:=A;have l9:=FR j4;have x2:∀i∈z,i∈fp:=λi D=>a8 i (sf a h5 i (by rw[hz];exact D))
        generalize a7:(λb=>U b/\¬∃j∈z,ar ρ j (y j) b)=U1;have q:∀b,U1 b->U b:=by intro b h;rw[<-a7]at h;exact h.1
        have i6:∀j∈z,∀b,ar ρ j (y j) b->¬U1 b:=λj m b u h=>by grind
        have k5:=kN (w:=w) (U:=U) (ρ:=ρ) (U':=U1) (ρ':=λj=>(π[j]?).bind ρ) (hp:=y) (f:=λi=>π.idxOf i) q a h5 x9 ps i1 hr
          (λid H=>⟨h8.ob id (x2 id (by rw[<-hz];exact H)),i6 id (by rw[<-hz];exact H)⟩)
          (λid H=>by
            grind)
        have⟨h9,x6⟩:=k5;rw[<-k7]at h9;have B:∀i∈π,i∈fp:=by
          rw[<-hπ];exact collect_in j5 400 _ [] (λi D=>a8 i (x6 i D)) (by simp)
        have l5:∀id∈π,((π[π.idxOf id]?).bind ρ)=ρ id:=by
          intro id H;have h4:π.idxOf id<N π:=List.idxOf_lt_length_iff.2 H;rw[aj h4,List.getElem_idxOf h4];rfl
        let C:eU:={w0:=w,U0:=U1,B0:=λb=>∃i∈π,ar ρ i (y i) b,ρ0:=λj=>(π[j]?).bind ρ}
        have h7:∀i∈π,∀b,ar ρ i (y i) b->U1 b/\b<w.heap.size:=by
          intro i D b u;have:=(h8.ob i (B i D)).inU u;refine⟨?_,this.2⟩;rw[<-a7];refine⟨this.1,λ⟨j,m,k2⟩=>?_⟩;have e:=h8.inj i (B i D) j (x2 j m) b u k2;subst e;exact(x7 i m).2 D
        have k3:∀i∈π,bz w U1 ρ i (y i):=λi D=>
          (h8.ob i (B i D)).mono (zR _) (λ_ _ _=>rfl) (λb _ h=>q b h) (λ_ _ h=>h) (λb u=>⟨rfl,(h7 i D b u).1⟩)
        have a2:∀j(m:j<N π),(π.map λi=>(y i).ren λi=>π.idxOf i).getD j .dead=(y π[j]).ren λi=>π.idxOf i:=by
          intro j m;rw[bD,dN,aj m];rfl
        have x4:∀j,N π<=j->(π.map λi=>(y i).ren λi=>π.idxOf i).getD j .dead=.dead:=by
          intro j m;rw[bD,fa (by simpa using m)];rfl
        have l0:∀j(m:j<N π),((π[j]?).bind ρ)=ρ π[j]:=λj m=>by rw[aj m];rfl
        have k4:∀j b,ar (λj=>(π[j]?).bind ρ) j ((π.map λi=>(y i).ren λi=>π.idxOf i).getD j .dead) b->∃m:j<N π,ar ρ π[j] (y π[j]) b:=by
          rintro j b ⟨u,v,hv,F⟩;by_cases h4:j<N π
          · refine⟨h4,?_,v,by rw[<-l0 j h4];exact hv,F⟩
            rw[a2 j h4,F0]at u;exact u
          · simp_all
        have j0:fC C w U1 (λj=>(π[j]?).bind ρ) (λj=>(π.map λi=>(y i).ren λi=>π.idxOf i).getD j .dead):=by
          refine⟨λj=>?_,λj1 j2 b o1 o2=>?_,λj b o=>?_⟩
          · by_cases h4:j<Io π
            · grind[bz.ren]
            · rw[x4 j (by omega)];trivial
          · grind[DO.inj]
          · grind
        have j3:Wd E.gl C w U1:=⟨lz.refl w,λ_ _ _=>rfl,λb F=>i4 b (q b F),λ_ _ h=>h,λ_ _ h _=>h,λc=>(j7 c).weak q⟩;have x3:=hG _ _ _ i9 C w U1 _ x9 (λid H=>by
            grind) h9 j0 (λid H=>by
            simp_all) (λ_ _ h=>h) j3
        have a5:∀id o,(id,o)∈f.wr->id∈fp:=by
          intro id o l;rw[<-h]at l;simp only[dl,bt]at l;rcases l with⟨p,i0,he⟩|l
          · have:p.1∈π:=(List.of_mem_zip i0).1
            cases he;exact B _ this
          · grind[dX]
        refine⟨x3.mono ?_,a5⟩;rintro e w' ⟨v,r',l4,U',ρ',rfl,hq,i3,a6,a3,i2,t⟩;cases hq;by_cases h6:(yC r&&π.isEmpty&&s.isEmpty)=true
        ·
          rw[zf h6]at h;simp only[aO,List.isEmpty_iff]at h6;obtain⟨⟨k6,rfl⟩,rfl⟩:=h6;simp at h;subst h;refine⟨v,U,ρ,rfl,⟨t.ext,SE k6 i3,by simp,by simp,λ_ _=>rfl,λ_ _ h=>h,λb F _=>t.same b F (by simp[C]),λb F=>ie (i4 b F) t.ext.sz,λ_ _ h=>h,λ_ _ h _=>h,by simp,by simp⟩⟩
        · rw[zh h6]at h
          let ρf:Nat->Option Value:=λid=>if n<=id/\id<n+(N s-N π)then ρ' (N π+(id-n))else ρ id
          have j9:∀j(m:j<N π),ρ' j=ρ π[j]:=by
            intro j m;have⟨x,hx⟩:=zau (k9 π[j] (bh m)).2 (h8.ob π[j] (B _ (bh m)));rw[hx];exact i2 j x (by grind)
          have hg:∀j,j<N s->ρf (pR π n j)=ρ' j:=by
            intro j m;unfold pR;split
            · grind
            · grind
          have l2:f.nw.length=N s-N π:=by rw[<-h];simp
          have x1:∀id x,ρ id=Y x->ρf id=Y x:=by
            intro id x hx;show(ite (n<=id/\id<n+(N s-N π)) (ρ' (N π+(id-n))) (ρ id))=Y x;rw[zh]
            · exact hx
            · rintro⟨h1,h2⟩
              have:=hn (id-n) (by omega);simp_all
          have a1:∀j x,ρ' j=Y x->ρf (pR π n j)=Y x:=by
            intro j x hx;by_cases m:j<N s
            · rw[hg j m];exact hx
            · rw[a3 j (by omega)]at hx;cases hx
          have a9:∀j(m:j<N s),bz w' U' ρf (pR π n j) (s[j].ren (pR π n)):=by
            intro j m;have:=a6.ob j;rw[show s.getD j .dead=s[j] by simp[m]]at this;exact this.ren' (λx hx=>a1 j x hx) (λi _ x hx=>a1 i x hx)
          have i5:∀id o,(id,o)∈f.wr->(∃j,∃m:j<N s,j<N π/\id=pR π n j/\o=s[j].ren (pR π n))\/(id∈z/\o=Fh (y id)):=by
            intro id o l;rw[<-h]at l;simp only[dl,bt]at l;rcases l with⟨p,i0,he⟩|l
            · grind[List.getElem_of_mem,pR]
            · exact .inr (dX l)
          have m1:∀(k:Nat) o,f.nw[k]?=Y o->∃m:N π+k<N s,n+k=pR π n (N π+k)/\o=s[N π+k].ren (pR π n):=by
            intro k o hk;rw[<-h]at hk;simp only[dN,D2,dV]at hk;obtain⟨d,ha,rfl⟩:=hk;have⟨m,ha⟩:=dF.1 ha;exact⟨m,by unfold pR;rw[zh (by omega)];omega,by rw[ha]⟩
          have x8:∀(id:Nat),(Fh (y id)).owns=true->pX (y id)=true->False:=by
            intro id h1 h2;cases hh:y id<;>rw[hh]at h1 h2<;>simp[Fh,AO.owns,pX]at h1 h2
          have l1:∀id o b,((id,o)∈f.wr\/(n<=id/\f.nw[id-n]?=Y o))->ar ρf id o b->∃j,id=pR π n j/\ar ρ' j (s.getD j .dead) b:=by
            intro id o b l u;have i8:∀j(m:j<N s),id=pR π n j->o=s[j].ren (pR π n)->∃j,id=pR π n j/\ar ρ' j (s.getD j .dead) b:=by
              rintro j m rfl rfl;refine⟨j,rfl,?_⟩;have⟨h1,x,h2,h3⟩:=u;rw[F0]at h1;rw[hg j m]at h2;refine⟨?_,x,h2,h3⟩;rw[show s.getD j .dead=s[j] by simp[m]];exact h1
            rcases l with l|⟨l8,l⟩
            · rcases i5 id o l with⟨j,m,_,h1,h2⟩|⟨h1,rfl⟩
              · exact i8 j m h1 h2
              · exact(x8 id u.1 (x7 id h1).1).elim
            · grind
          have a0:∀b,C.B0 b->∃id o,(id,o)∈f.wr/\ar ρ id (y id) b:=by
            rintro b ⟨i,D,u⟩;obtain⟨j,m,rfl⟩:=fN D;refine⟨π[j],s[j].ren (pR π n),?_,u⟩;rw[<-h];simp only[dl,bt];refine .inl ⟨(π[j],s[j]),?_,rfl⟩;have:(π.zip s)[j]?=Y (π[j],s[j]):=by simp[List.getElem?_zip_eq_some,m,ie m j8]
            exact gh this
          have l3:∀i∈z,(i,Fh (y i))∈f.wr:=by
            intro i D;rw[<-h];simp only[dl];exact .inr (tq D)
          refine⟨v,U',ρf,rfl,⟨t.ext,?_,?_,?_,?_,x1,?_,t.ub,?_,?_,?_,?_⟩⟩
          · rw[<-h];exact i3.ren' (λi _ x hx=>a1 i x hx)
          · intro id o l
            rcases i5 id o l with⟨j,m,_,rfl,rfl⟩|⟨x5,rfl⟩
            · exact a9 j m
            · refine(tp (h8.ob id (x2 id x5)) (x7 id x5).1 q (i6 id x5)).mono t.ext.sz (λb F k1=>?_) t.u1 x1 (λb u=>(x8 id u.1 (x7 id x5).1).elim)
              exact t.same b F (λ⟨i,D,u⟩=>k1 (h7 i D b u).1)
          · grind
          · grind
          · intro b F a4
            refine t.same b F (λhB=>?_);have⟨id,o,h1,h2⟩:=a0 b hB;exact a4 id o h1 h2
          · intro b F hu
            exact q b (t.u1 b F hu)
          · intro b F hu a4
            refine t.u2 b F ?_ (λhB=>?_)
            · grind
            · have⟨id,o,h1,h2⟩:=a0 b hB
              exact a4 id o h1 h2
          · intro id o b l u
            have⟨j,_,m⟩:=l1 id o b l u;rcases a6.blk j b m with hB|hB
            · exact .inr (a0 b hB)
            · exact .inl hB
          grind[fC.inj]
      · simp at h
    · simp at h
  · simp at h
theorem XZ{G:fA a}(d:∃fn,E.P.funcs[k]?=Q1 fn/\(fn.name=="runtime.NumGoroutine")=false/\fn.body.isNone=false)
  (e:∀x c b,(G x c).val=Y b->XK E k (jj a x) c (λr h=>(r,h)=b)) (i:E.P=P:=by rfl) (q:E.gl=g:=by rfl):ou P g k (bj a G):=by grind[fU,XK.calls]
end
end Cad
