/- A function's contract, lifted to whatever calls it. -/
import Derived.Test.YtjdjldbhjmgmkaaGreatDoorM05
namespace Cad
open Go
open List renaming length->Io,length->X
open Option renaming some->Q1,some->M
open Tr (chk br)
open AV (nils agg tup ptr kb str sl)
open Cad renaming Sem->J
@[reducible] def zF:List (Option Sh)->Type
 |[]=>Unit
 |some s::ks=>J s×zF ks
 |none::ks=>AV×zF ks
def jn:(ks:List (Option Sh))->zF ks->List AV
 |[],_=>[]
 |some s::ks,x=>zX s x.1::jn ks x.2
 |none::ks,x=>x.1::jn ks x.2
abbrev fz(ks:List (Option Sh)):=zF ks->List AO->Tr (AV×List AO)
def np(hp:Nat->AO)(f:Nat->Nat):(ks:List (Option Sh))->List AV->Option (zF ks)
 |[],[]=>M ()
 | some s::ks,a::as=>match Bp hp s a,np hp f ks as with
  |some x,M r=>M (x,r)
  |_,_=>none
 | none::ks,a::as=>match np hp f ks as with
  |some r=>M (a.ren f,r)
  |none=>none
 |_,_=>none
def dd(h:Nat->AO):List (Option Sh)->List AV->Option (List (Bool×AV))
 |[],[]=>M []
 | some s::ks,a::as=>match Bp h s a,dd h ks as with
  |some x,M r=>M ((false,zX s x)::r)
  |_,_=>none
 | none::ks,a::as=>match dd h ks as with
  |some r=>M ((true,a)::r)
  |none=>none
 |_,_=>none
def gq:List (Option Sh)->List AV->List Nat
 |some _::ks,a::as=>eD a++gq ks as
 |none::ks,_::as=>gq ks as
 |_,_=>[]
def Di:AV->Bool
 |.bool _|.kb _|.int _ _|.str _|.ifc _=>true
 |_=>false
def xZ:AV->Bool
 |.tup h=>h.all Di
 |v=>Di v
def iK(p:List (Bool×AV)):List AV:=(p.filter (·.1)).map (·.2)
def pF(h:List Nat)(n j:Nat):Nat:=if j<X h then h.getD j 0 else n+(j-X h)
def TB(x:Nat->AO)(n:Nat)(a z:List Nat)(r:AV)(h:List AO):Tr gy:=
  if X a<=X h then
    .ok {val:=r.ren (pF a n),wr:=(a.zip h).map (λp=>(p.1,p.2.ren (pF a n)))++(ite (xZ r&&a.isEmpty&&h.isEmpty) [] (im x z)),
          nw:=(h.drop (X a)).map (AO.ren (pF a n))}
  else .err
def znN:AO->Bool
 |.dead=>false
 |_=>true
def bj(k:List (Option Sh))(G:fz k):ah:=λa h n=>
 match dd h k a with
 | some b=>
  let c:=lx h 400 (AV.idsL (iK b)) []
  let z:=gq k a
  if lG h 0 (AV.idsL (iK b)) c&&z.all (λi=>pL (h i)&&!c.contains i)&&c.all (λi=>decide (i<n)&&znN (h i))then
   match np h (λi=>c.idxOf i) k a with
   |some x=>(G x (c.map λi=>(h i).ren λi=>c.idxOf i)).bind λp=>TB h n c z p.1 p.2
   |none=>.err
  else .err
 |none=>.err
def Xo(E:ct)(k:FuncId)(a:List AV)(h:List AO)(Q:AV->List AO->Prop):Prop:=
 ∃f c,E.P.funcs[k]?=Q1 f/\f.body=Q1 c/\(f.name=="runtime.NumGoroutine")=false/\a.length<=f.ntmps/\
  ∀C:eW,(∀id,X h<=id->C.ρ0 id=none)->Reach E C k [.code c] (bl f.ntmps a h) Q
section
variable {E:ct} {w:World} {U:Nat->Prop} {ρ:Nat->Option Value}
variable {v:Value}
theorem DU{m:Nat->Prop}{ρ':Nat->Option Value}{x:Nat->AO}{s:Sh}{i:AV}{a:J s}(h:Bp x s i=M a)(n:Rv w U ρ i v)(u:∀b,m b->U b)
  (D:∀id∈eD i,bz w U ρ id (x id)/\∀b,aq ρ id (x id) b->¬m b):Rv w m ρ' (zX s a) v:=by
 have p:∀(c:AV)(v:Value)(j:Nat),(zD s a)[j]?=M c->Rv w m ρ c v->Rv w m ρ' c v:=by
  intro c v j g n;have:=n.ren (ρ':=ρ') (f:=λd=>d) (λd H=>by rw[nh s a j c g]at H;simp at H)
  rwa [rA _ s a j c g]at this
 have⟨cs,k,q⟩:=Bq h;have⟨B,o⟩:=iO k n
 have⟨q1,q2,q3⟩:=pK (w:=w) (U:=U) (U':=m) (ρ:=ρ) (hp:=x) u s cs a [] (λj=>(v.cells.toList[j]?).getD undef) q
  (λj c hj=>by
   grind[di.len,di.rv])
  (λid C=>D id (by simpa[eD,k]using C))
 have F:v.cells.toList.length=s.size:=by rw[<-B.len];simpa using q1
 have e:s.isAgg=i.isAgg:=by
  unfold Bp at h;split at h
  next he=>simpa using he
  .cases h
 unfold zX;cases A:s.isAgg with
 | true=>
  rw[A]at e;have l:v=.agg v.cells.toList.toArray:=by
   cases n with
   |agg h2 vs hl z n=>simp[Value.cells]
   |_=>simp[AV.isAgg]at e
  rw[l];refine .agg _ _ (by rw[au,F]) o (λj c y g hy=>?_);grind
 | false=>
  have t:∃c,zD s a=[c]:=by
   cases s<;>simp[Sh.isAgg]at A<;>simp[zD]
  have⟨c,g⟩:=t;have h3:s.size=1:=by rw[<-au s a,g];rfl
  rw[g];have G:=p c _ 0 (by rw[g];rfl) (q3 0 c (by rw[g];rfl));rw[A]at e;have hv:v.cells.toList[0]?=M v:=by
   cases v with
   | agg P=>
    cases n with
    |agg=>simp[AV.isAgg]at e
    |any=>simp[cellsOf]at k
    |vec _ _ _ z=>simp[Value.oneCell']at z
    |mp _ _ _ z=>simp[Value.oneCell']at z
   |_=>rfl
  rw[hv]at G;exact G
theorem kJ{U':Nat->Prop}{ρ':Nat->Option Value}{hp:Nat->AO}{f:Nat->Nat}(i:∀b,U' b->U b):∀(m:List (Option Sh))(g:List AV)(e:List Value)(n:List (Bool×AV)),dd hp m g=M n->
  di w U ρ g e->(∀id∈gq m g,bz w U ρ id (hp id)/\∀b,aq ρ id (hp id) b->¬U' b)->(∀id∈AV.idsL (iK n),ρ' (f id)=ρ id)->
  di w U' ρ' (n.map λp=>if p.1 then p.2.ren f else p.2) e/\∀id∈AV.idsL (iK n),id∈AV.idsL g
 | [],[],e,n,h,l,_,_=>by
  simp[dd]at h;subst h;exact⟨by simpa using⟨l.len,λj c v k=>by simp at k⟩,by simp[iK,AV.idsL]⟩
 |some s::ks,a::as,[],n,_,l,_,_=>by have:=l.len;simp at this
 |none::ks,a::as,[],n,_,l,_,_=>by have:=l.len;simp at this
 | some s::ks,a::as,v::e,n,h,l,hob,hρ=>by
  simp only[dd]at h;split at h
  .rename_i x r B o;cases h;have q:di w U ρ as e:=⟨by have:=l.len;simpa using this,λj c v k z=>l.rv (j+1) c v k z⟩;have⟨u,A⟩:=kJ i ks as e r o q (λid d=>hob id (by simp[gq,d])) (λid d=>hρ id (by simpa[iK]using d));refine⟨⟨by simp[u.len.symm],λj c y k t=>?_⟩,λid d=>?_⟩
   .cases j with
    | zero=>
     simp at k t;subst k;subst t;exact DU B (l.rv 0 a v rfl rfl) i (λid d=>hob id (by simp[gq,d]))
    |succ j=>exact u.rv j c y (by simpa using k) (by simpa using t)
   grind[AV.idsL,iK]
  .cases h
 | none::ks,a::as,v::e,n,h,l,hob,hρ=>by
  simp only[dd]at h;split at h
  .rename_i r o;cases h;have q:di w U ρ as e:=⟨by have:=l.len;simpa using this,λj c v k z=>l.rv (j+1) c v k z⟩;have⟨u,A⟩:=kJ i ks as e r o q (λid d=>hob id (by simpa[gq]using d)) (λid d=>hρ id (by simp[iK,AV.idsL]at d|-;exact .inr d));refine⟨⟨by simp[u.len.symm],λj c y k t=>?_⟩,λid d=>?_⟩
   .cases j with
    | zero=>
     simp at k t;subst k;subst t;exact((l.rv 0 a v rfl rfl).weak i).ren (λid d=>hρ id (by simp[iK,AV.idsL];exact .inl d))
    |succ j=>exact u.rv j c y (by simpa using k) (by simpa using t)
   grind[iK,AV.idsL]
  .cases h
 |[],_::_,_,_,h,_,_,_=>by simp[dd]at h
 |some _::_,[],_,_,h,_,_,_=>by simp[dd]at h
 |none::_,[],_,_,h,_,_,_=>by simp[dd]at h
theorem AL{x:Nat->AO}{f:Nat->Nat}:∀(k:List (Option Sh))(c:List AV)(e:List (Bool×AV))(b:zF k),dd x k c=M e->np x f k c=M b->
  jn k b=e.map λp=>if p.1 then p.2.ren f else p.2
 |[],[],e,b,h,_=>by simp[dd]at h;subst h;rfl
 | some s::ks,a::as,e,b,h,hx=>by
  simp only[dd]at h;simp only[np]at hx;split at h
  .rename_i y r l g;cases h;rw[l]at hx;split at hx
   next m j i d=>cases i;cases hx;simp[jn,AL ks as r j g d]
   .cases hx
  .cases h
 | none::ks,a::as,e,b,h,hx=>by
  simp only[dd]at h;simp only[np]at hx;split at h
  .rename_i r g;cases h;split at hx
   next j d=>cases hx;simp[jn,AL ks as r j g d]
   .cases hx
  .cases h
 |[],_::_,_,_,h,_=>by simp[dd]at h
 |some _::_,[],_,_,h,_=>by simp[dd]at h
 |none::_,[],_,_,h,_=>by simp[dd]at h
theorem rR:∀(k:List (Option Sh))(x:List AV)(id:Nat),id∈gq k x->id∈AV.idsL x
 | some _::ks,a::as,id,h=>by
  simp only[gq,cZ]at h;simp only[AV.idsL,cZ];exact h.imp rP (rR ks as id)
 | none::ks,_::as,id,h=>by
  simp only[gq]at h;simp only[AV.idsL,cZ];exact .inr (rR ks as id h)
 |[],_,_,h=>by simp[gq]at h
 |some _::_,[],_,h=>by simp[gq]at h
 |none::_,[],_,h=>by simp[gq]at h
theorem R9{d:World}{b:Nat->Prop}{h:Nat->Option Value}{r:AV}{f:Nat->Nat}(x:xZ r=true)(a:Rv w U ρ r v):Rv d b h (r.ren f) v:=by
 have o:∀(r:AV)(v:Value),Di r=true->Rv w U ρ r v->Rv d b h (r.ren f) v:=by
  intro r v x a;cases a<;>simp[Di]at x<;>simp only[AV.ren]
  .exact .kb _
  .exact .bool _
  .exact .int _ _ ‹_›
  .exact .str _ ‹_›
  .exact .ifcN
  .exact .ifcS _ _
 cases r with
 | tup m=>
  cases a with
  |tup _ i e g=>
  simp only[xZ,ep]at x;simp only[AV.ren,jC];refine .tup _ i (by simpa using e) (λj c v k l=>?_);grind
 |_=>exact o _ v (by simpa[xZ]using x) a
theorem collect_in{x:Nat->AO}{h:List Nat}(b:∀id∈h,∀j∈(x id).ids,j∈h):∀(a:Nat)(t s:List Nat),(∀i∈t,i∈h)->(∀i∈s,i∈h)->∀i∈lx x a t s,i∈h
 |0,_,_,_,c=>c
 |_+1,[],_,_,c=>c
 | n+1,i::r,s,ht,c=>by
  simp only[lx];split
  .exact collect_in b n r s (λj d=>ht j (by simp[d])) c
  .refine collect_in b n _ _ (λj d=>?_) (λj d=>?_)
   .grind
   grind
theorem Z7{id:Nat}{o:AO}(h:znN o=true)(j:bz w U ρ id o):∃v,ρ id=M v:=by
 cases o with
 |dead=>simp[znN]at h
 |box n=>have⟨b,x,m,g,_⟩:=j;exact⟨_,g⟩
 |vec e l=>have⟨a,c,g,_⟩:=j;exact⟨_,g⟩
 |frz e l=>have⟨v,g,_⟩:=j;exact⟨_,g⟩
 |fmap k=>have⟨r,i,d,g,_⟩:=j;exact⟨_,g⟩
 |vmap u k=>have⟨r,i,d,g,_⟩:=j;exact⟨_,g⟩
 |gmap e k=>have⟨r,i,d,p,g,_⟩:=j;exact⟨_,g⟩
variable {k:FuncId}{d:List AV}{e:List AO}{Q:AV->List AO->Prop}
theorem DQ{C:eW}{f:Func}{c:Code}{h:List Value}(u:E.P.funcs[k]?=M f)(s:f.body=M c)(_:X d<=f.ntmps)
  (p:Reach E C k [.code c] (bl f.ntmps d e) Q) (i:di w U ρ d h) (o:fB C w U ρ (λj=>e.getD j .dead)) (a:∀id,X e<=id->ρ id=none) (g:∀id v,C.ρ0 id=M v->ρ id=M v)
  (q:Wd E.gl C w U):Calls E.P k h.toArray w (Vg E C Q):=by
 intro l;let b:Frame:={(default:Frame)with fn:=k,kind:=.normal}
 have x:Frame.enter E.P k h.toArray .normal=b.at {tmps:=h.toArray++Array.replicate (f.ntmps-h.toArray.size) undef,defers:=[]} [.code c]:=by
  simp[Frame.enter,Frame.at,u,s,b]
 rw[x];refine p b l _ w U ρ rfl rfl ⟨?_,o,a,rfl,g⟩ q;have y:=i.len;simp only[bl,Array.toList_append,Array.toList_replicate,List.size_toArray];rw[<-y];refine i.append ⟨sw,λj c v t z=>?_⟩;have m:c=.tup []:=by
  have:=fZ t;simpa using(List.mem_replicate.1 this).2
 have n:v=undef:=by
  have:=fZ z;simpa using(List.mem_replicate.1 this).2
 rw[m,n];exact .tup [] [] rfl sw
def SA(E:ct)(k:FuncId)(a:List AV)(x:List AO)(Q:AV->List AO->Prop):Prop:=
 ∀(C:eW)(w:World)(U:Nat->Prop)(ρ:Nat->Option Value)(h:List Value),(∀id,X x<=id->C.ρ0 id=none)->di w U ρ a h->fB C w U ρ (λj=>x.getD j .dead)->(∀id,X x<=id->ρ id=none)->
  (∀id v,C.ρ0 id=M v->ρ id=M v)->Wd E.gl C w U->Calls E.P k h.toArray w (Vg E C Q)
theorem Xo.calls(h:Xo E k d e Q):SA E k d e Q:=by intro C w U ρ v x a b g i j;have⟨f,c,n,m,_,o,l⟩:=h;exact DQ n m o (l C x) a b g i j
variable {P:Program}{g:Nat->AV}{a:List (Option Sh)}
theorem fS{G:fz a}(j6:∃fn,E.P.funcs[k]?=some fn/\(fn.name=="runtime.NumGoroutine")=false/\fn.body.isNone=false)
    (hG:∀x h0 i7,(G x h0).val=M i7->SA E k (jn a x) h0 (λr h=>(r,h)=i7)) (qp:E.P=P:=by rfl) (qg:E.gl=g:=by rfl):nZ P g k (bj a G):=by
  subst qp qg;refine⟨j6,?_⟩;intro w U ρ y n h5 x9 f fp h hr i4 j7 h8 a8 j5 hn;unfold bj at h;split at h
  · rename_i ps i1
    simp only at h;generalize hπ:lx y 400 (AV.idsL (iK ps)) []=π at h;generalize hz:gq a h5=z at h;split at h
    · rename_i x0
      simp only[aP,ep,ba,uA,List.contains_eq_mem,ef]at x0;have⟨⟨A,x7⟩,k9⟩:=x0;split at h;rotate_left
      · simp at h
      rename_i xs k8;have k7:=AL a h5 ps xs i1 k8;simp only[Tr.val_bind,gA]at h;have⟨⟨r,s⟩,i9,h⟩:=h;unfold TB at h;split at h
      · rename_i j8
        simp only[Tr.val_ok,bG]at h;simp only[lG,aP,ep,HR]at A;have⟨⟨⟨l6,l7⟩,j4⟩,_⟩:=A;have l9:=Fm j4;have x2:∀i∈z,i∈fp:=λi D=>a8 i (rR a h5 i (by rw[hz];exact D))
        generalize a7:(λb=>U b/\¬∃j∈z,aq ρ j (y j) b)=U1;have q:∀b,U1 b->U b:=by intro b h;rw[<-a7]at h;exact h.1
        have i6:∀j∈z,∀b,aq ρ j (y j) b->¬U1 b:=λj m b u h=>by grind
        have k5:=kJ (w:=w) (U:=U) (ρ:=ρ) (U':=U1) (ρ':=λj=>(π[j]?).bind ρ) (hp:=y) (f:=λi=>π.idxOf i) q a h5 x9 ps i1 hr
          (λid H=>⟨h8.ob id (x2 id (by rw[<-hz];exact H)),i6 id (by rw[<-hz];exact H)⟩)
          (λid H=>by
            grind)
        have⟨h9,x6⟩:=k5;rw[<-k7]at h9;have B:∀i∈π,i∈fp:=by
          rw[<-hπ];exact collect_in j5 400 _ [] (λi D=>a8 i (x6 i D)) (by simp)
        have l5:∀id∈π,((π[π.idxOf id]?).bind ρ)=ρ id:=by
          intro id H;have h4:π.idxOf id<X π:=List.idxOf_lt_length_iff.2 H;rw[af h4,List.getElem_idxOf h4];rfl
        let C:eW:={w0:=w,U0:=U1,B0:=λb=>∃i∈π,aq ρ i (y i) b,ρ0:=λj=>(π[j]?).bind ρ}
        have h7:∀i∈π,∀b,aq ρ i (y i) b->U1 b/\b<w.heap.size:=by
          intro i D b u;have:=(h8.ob i (B i D)).inU u;refine⟨?_,this.2⟩;rw[<-a7];refine⟨this.1,λ⟨j,m,k2⟩=>?_⟩;have e:=h8.inj i (B i D) j (x2 j m) b u k2;subst e;exact(x7 i m).2 D
        have k3:∀i∈π,bz w U1 ρ i (y i):=λi D=>
          (h8.ob i (B i D)).mono (zQ _) (λ_ _ _=>rfl) (λb _ h=>q b h) (λ_ _ h=>h) (λb u=>⟨rfl,(h7 i D b u).1⟩)
        have a2:∀j(m:j<X π),(π.map λi=>(y i).ren λi=>π.idxOf i).getD j .dead=(y π[j]).ren λi=>π.idxOf i:=by
          intro j m;rw[bx,dK,af m];rfl
        have x4:∀j,X π<=j->(π.map λi=>(y i).ren λi=>π.idxOf i).getD j .dead=.dead:=by
          intro j m;rw[bx,fe (by simpa using m)];rfl
        have l0:∀j(m:j<X π),((π[j]?).bind ρ)=ρ π[j]:=λj m=>by rw[af m];rfl
        have k4:∀j b,aq (λj=>(π[j]?).bind ρ) j ((π.map λi=>(y i).ren λi=>π.idxOf i).getD j .dead) b->∃m:j<X π,aq ρ π[j] (y π[j]) b:=by
          rintro j b ⟨u,v,hv,F⟩;by_cases h4:j<X π
          · refine⟨h4,?_,v,by rw[<-l0 j h4];exact hv,F⟩
            rw[a2 j h4,Fv]at u;exact u
          · simp_all
        have j0:fB C w U1 (λj=>(π[j]?).bind ρ) (λj=>(π.map λi=>(y i).ren λi=>π.idxOf i).getD j .dead):=by
          refine⟨λj=>?_,λj1 j2 b o1 o2=>?_,λj b o=>?_⟩
          · by_cases h4:j<Io π
            · grind[bz.ren]
            · rw[x4 j (by omega)];trivial
          · grind[Dq.inj]
          · grind
        have j3:Wd E.gl C w U1:=⟨lv.refl w,λ_ _ _=>rfl,λb F=>i4 b (q b F),λ_ _ h=>h,λ_ _ h _=>h,λc=>(j7 c).weak q⟩;have x3:=hG _ _ _ i9 C w U1 _ x9 (λid H=>by
            grind) h9 j0 (λid H=>by
            simp_all) (λ_ _ h=>h) j3
        have a5:∀id o,(id,o)∈f.wr->id∈fp:=by
          intro id o l;rw[<-h]at l;simp only[cZ,aI]at l;rcases l with⟨p,i0,he⟩|l
          · have:p.1∈π:=(List.of_mem_zip i0).1
            cases he;exact B _ this
          · grind[ea]
        refine⟨x3.mono ?_,a5⟩;rintro e w' ⟨v,r',l4,U',ρ',rfl,hq,i3,a6,a3,i2,t⟩;cases hq;by_cases h6:(xZ r&&π.isEmpty&&s.isEmpty)=true
        ·
          rw[zf h6]at h;simp only[aP,List.isEmpty_iff]at h6;obtain⟨⟨k6,rfl⟩,rfl⟩:=h6;simp at h;subst h;refine⟨v,U,ρ,rfl,⟨t.ext,R9 k6 i3,by simp,by simp,λ_ _=>rfl,λ_ _ h=>h,λb F _=>t.same b F (by simp[C]),λb F=>ia (i4 b F) t.ext.sz,λ_ _ h=>h,λ_ _ h _=>h,by simp,by simp⟩⟩
        · rw[zh h6]at h
          let ρf:Nat->Option Value:=λid=>if n<=id/\id<n+(X s-X π)then ρ' (X π+(id-n))else ρ id
          have j9:∀j(m:j<X π),ρ' j=ρ π[j]:=by
            intro j m;have⟨x,hx⟩:=Z7 (k9 π[j] (bp m)).2 (h8.ob π[j] (B _ (bp m)));rw[hx];exact i2 j x (by grind)
          have hg:∀j,j<X s->ρf (pF π n j)=ρ' j:=by
            intro j m;unfold pF;split
            · grind
            · grind
          have l2:f.nw.length=X s-X π:=by rw[<-h];simp
          have x1:∀id x,ρ id=M x->ρf id=M x:=by
            intro id x hx;show(ite (n<=id/\id<n+(X s-X π)) (ρ' (X π+(id-n))) (ρ id))=M x;rw[zh]
            · exact hx
            · rintro⟨h1,h2⟩
              have:=hn (id-n) (by omega);simp_all
          have a1:∀j x,ρ' j=M x->ρf (pF π n j)=M x:=by
            intro j x hx;by_cases m:j<X s
            · rw[hg j m];exact hx
            · rw[a3 j (by omega)]at hx;cases hx
          have a9:∀j(m:j<X s),bz w' U' ρf (pF π n j) (s[j].ren (pF π n)):=by
            intro j m;have:=a6.ob j;rw[show s.getD j .dead=s[j] by simp[m]]at this;exact this.ren' (λx hx=>a1 j x hx) (λi _ x hx=>a1 i x hx)
          have i5:∀id o,(id,o)∈f.wr->(∃j,∃m:j<X s,j<X π/\id=pF π n j/\o=s[j].ren (pF π n))\/(id∈z/\o=EQ (y id)):=by
            intro id o l;rw[<-h]at l;simp only[cZ,aI]at l;rcases l with⟨p,i0,he⟩|l
            · grind[List.getElem_of_mem,pF]
            · exact .inr (ea l)
          have m1:∀(k:Nat) o,f.nw[k]?=M o->∃m:X π+k<X s,n+k=pF π n (X π+k)/\o=s[X π+k].ren (pF π n):=by
            intro k o hk;rw[<-h]at hk;simp only[dK,Bm,dW]at hk;obtain⟨d,ha,rfl⟩:=hk;have⟨m,ha⟩:=dC.1 ha;exact⟨m,by unfold pF;rw[zh (by omega)];omega,by rw[ha]⟩
          have x8:∀(id:Nat),(EQ (y id)).owns=true->pL (y id)=true->False:=by
            intro id h1 h2;cases hh:y id<;>rw[hh]at h1 h2<;>simp[EQ,AO.owns,pL]at h1 h2
          have l1:∀id o b,((id,o)∈f.wr\/(n<=id/\f.nw[id-n]?=M o))->aq ρf id o b->∃j,id=pF π n j/\aq ρ' j (s.getD j .dead) b:=by
            intro id o b l u;have i8:∀j(m:j<X s),id=pF π n j->o=s[j].ren (pF π n)->∃j,id=pF π n j/\aq ρ' j (s.getD j .dead) b:=by
              rintro j m rfl rfl;refine⟨j,rfl,?_⟩;have⟨h1,x,h2,h3⟩:=u;rw[Fv]at h1;rw[hg j m]at h2;refine⟨?_,x,h2,h3⟩;rw[show s.getD j .dead=s[j] by simp[m]];exact h1
            rcases l with l|⟨l8,l⟩
            · rcases i5 id o l with⟨j,m,_,h1,h2⟩|⟨h1,rfl⟩
              · exact i8 j m h1 h2
              · exact(x8 id u.1 (x7 id h1).1).elim
            · grind
          have a0:∀b,C.B0 b->∃id o,(id,o)∈f.wr/\aq ρ id (y id) b:=by
            rintro b ⟨i,D,u⟩;obtain⟨j,m,rfl⟩:=fK D;refine⟨π[j],s[j].ren (pF π n),?_,u⟩;rw[<-h];simp only[cZ,aI];refine .inl ⟨(π[j],s[j]),?_,rfl⟩;have:(π.zip s)[j]?=M (π[j],s[j]):=by simp[List.getElem?_zip_eq_some,m,ia m j8]
            exact fZ this
          have l3:∀i∈z,(i,EQ (y i))∈f.wr:=by
            intro i D;rw[<-h];simp only[cZ];exact .inr (sS D)
          refine⟨v,U',ρf,rfl,⟨t.ext,?_,?_,?_,?_,x1,?_,t.ub,?_,?_,?_,?_⟩⟩
          · rw[<-h];exact i3.ren' (λi _ x hx=>a1 i x hx)
          · intro id o l
            rcases i5 id o l with⟨j,m,_,rfl,rfl⟩|⟨x5,rfl⟩
            · exact a9 j m
            · refine(sR (h8.ob id (x2 id x5)) (x7 id x5).1 q (i6 id x5)).mono t.ext.sz (λb F k1=>?_) t.u1 x1 (λb u=>(x8 id u.1 (x7 id x5).1).elim)
              exact t.same b F (λ⟨i,D,u⟩=>k1 (h7 i D b u).1)
          · grind
          · grind
          · intro b F a4
            refine t.same b F (λhB=>?_);have⟨id,o,h1,h2⟩:=a0 b hB;exact a4 id o h1 h2
          · intro b F hu
            exact q b (t.u1 b F hu)
          · intro b F hu a4
            refine t.u2 b F ?_ (λhB=>?_)
            · grind
            · have⟨id,o,h1,h2⟩:=a0 b hB
              exact a4 id o h1 h2
          · intro id o b l u
            have⟨j,_,m⟩:=l1 id o b l u;rcases a6.blk j b m with hB|hB
            · exact .inr (a0 b hB)
            · exact .inl hB
          grind[fB.inj]
      · simp at h
    · simp at h
  · simp at h
theorem XD{G:fz a}(d:∃fn,E.P.funcs[k]?=Q1 fn/\(fn.name=="runtime.NumGoroutine")=false/\fn.body.isNone=false)
  (e:∀x c b,(G x c).val=M b->Xo E k (jn a x) c (λr h=>(r,h)=b)) (i:E.P=P:=by rfl) (q:E.gl=g:=by rfl):nZ P g k (bj a G):=by grind[fS,Xo.calls]
end
end Cad
