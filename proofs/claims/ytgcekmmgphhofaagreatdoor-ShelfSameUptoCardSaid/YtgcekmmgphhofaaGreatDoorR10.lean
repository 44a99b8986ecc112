/- A function's contract, lifted to whatever calls it. -/
import Derived.Test.YtgcekmmgphhofaaGreatDoorR09
namespace Cad
open Go
open List renaming length->Io,length->M
open Option renaming some->Q1,some->Y
open Tr (chk br)
open AV (nils agg tup ptr kb str sl)
open Cad renaming Sem->N,AV->R,Tr->K
@[reducible] def zA:List (Option Sh)->Type
 |[]=>Unit
 |some s::ks=>N s×zA ks
 |none::ks=>R×zA ks
def gX:(k:List (Option Sh))->zA k->List R
 |[],_=>[]
 |some s::k,x=>zI s x.1::gX k x.2
 |none::k,x=>x.1::gX k x.2
abbrev ee(k:List (Option Sh)):=zA k->List AO->K (R×List AO)
def lL(hp:Nat->AO)(f:Nat->Nat):(k:List (Option Sh))->List R->Option (zA k)
 |[],[]=>Y ()
 | some s::k,a::as=>match w7 hp s a,lL hp f k as with
  |some x,Y r=>Y (x,r)
  |_,_=>none
 | none::k,a::as=>match lL hp f k as with
  |some r=>Y (a.ren f,r)
  |none=>none
 |_,_=>none
def cr(h:Nat->AO):List (Option Sh)->List R->Option (List (Bool×R))
 |[],[]=>Y []
 | some s::ks,a::as=>match w7 h s a,cr h ks as with
  |some x,Y r=>Y ((false,zI s x)::r)
  |_,_=>none
 | none::ks,a::as=>match cr h ks as with
  |some r=>Y ((true,a)::r)
  |none=>none
 |_,_=>none
def fB:List (Option Sh)->List R->List Nat
 |some _::ks,a::as=>ea a++fB ks as
 |none::ks,_::as=>fB ks as
 |_,_=>[]
def Aa:R->Bool
 |.bool _|.kb _|.int _ _|.str _|.ifc _=>true
 |_=>false
def ui:R->Bool
 |.tup h=>h.all Aa
 |v=>Aa v
def gG(p:List (Bool×R)):List R:=(p.filter (·.1)).map (·.2)
def nC(h:List Nat)(n j:Nat):Nat:=if j<M h then h.getD j 0 else n+(j-M h)
def Pv(x:Nat->AO)(n:Nat)(a z:List Nat)(r:AV)(h:List AO):Tr fb:=
  if M a<=M h then
    .ok {val:=r.ren (nC a n),wr:=(a.zip h).map (λp=>(p.1,p.2.ren (nC a n)))++(ite (ui r&&a.isEmpty&&h.isEmpty) [] (gm x z)),
          nw:=(h.drop (M a)).map (AO.ren (nC a n))}
  else .err
def zhV:AO->Bool
 |.dead=>false
 |_=>true
def au(kinds:List (Option Sh))(G:ee kinds):zV:=λargs h n=>
 match cr h kinds args with
 | some a=>
  let b:=jT h 400 (AV.idsL (gG a)) []
  let z:=fB kinds args
  if kh h 0 (AV.idsL (gG a)) b&&z.all (λi=>nH (h i)&&!b.contains i)&&b.all (λi=>decide (i<n)&&zhV (h i))then
   match lL h (λi=>b.idxOf i) kinds args with
   |some x=>(G x (b.map λi=>(h i).ren λi=>b.idxOf i)).bind λp=>Pv h n b z p.1 p.2
   |none=>.err
  else .err
 |none=>.err
def Tu(E:bS)(k:FuncId)(args:List R)(h:List AO)(Q:R->List AO->Prop):Prop:=
 ∃f c,E.P.funcs[k]?=Q1 f/\f.body=Q1 c/\(f.name=="runtime.NumGoroutine")=false/\args.length<=f.ntmps/\
  ∀C:eS,(∀id,M h<=id->C.ρ0 id=none)->Reach E C k [.code c] (aC f.ntmps args h) Q
section
variable {E:bS} {w:World} {U:Nat->Prop} {ρ:Nat->Option Value}
variable {v:Value}
theorem AH{m:Nat->Prop}{ρ':Nat->Option Value}{x:Nat->AO}{s:Sh}{i:R}{a:N s}(h:w7 x s i=Y a)(n:Rv w U ρ i v)(u:∀b,m b->U b)
  (F:∀id∈ea i,aW w U ρ id (x id)/\∀b,zY ρ id (x id) b->¬m b):Rv w m ρ' (zI s a) v:=by
 have p:∀(c:R)(v:Value)(j:Nat),(zq s a)[j]?=Y c->Rv w m ρ c v->Rv w m ρ' c v:=by
  intro c v j g n;have:=n.ren (ρ':=ρ') (f:=λd=>d) (λd P=>by rw[lF s a j c g]at P;simp at P)
  rwa [pi _ s a j c g]at this
 have⟨cs,k,q⟩:=w8 h;have⟨C,o⟩:=gJ k n
 have⟨q1,q2,q3⟩:=nG (w:=w) (U:=U) (U':=m) (ρ:=ρ) (hp:=x) u s cs a [] (λj=>(v.cells.toList[j]?).getD undef) q
  (λj c hj=>by
   grind[cu.len,cu.rv])
  (λid D=>F id (by simpa[ea,k]using D))
 have G:v.cells.toList.length=s.size:=by rw[<-C.len];simpa using q1
 have e:s.isAgg=i.isAgg:=by
  unfold w7 at h;split at h
  next he=>simpa using he
  .cases h
 unfold zI;cases A:s.isAgg with
 | true=>
  rw[A]at e;have l:v=.agg v.cells.toList.toArray:=by
   cases n with
   |agg h3 vs hl z n=>simp[Value.cells]
   |_=>simp[AV.isAgg]at e
  rw[l];refine .agg _ _ (by rw[zS,G]) o (λj c y g hy=>?_);grind
 | false=>
  have t:∃c,zq s a=[c]:=by
   cases s<;>simp[Sh.isAgg]at A<;>simp[zq]
  have⟨c,g⟩:=t;have h4:s.size=1:=by rw[<-zS s a,g];rfl
  rw[g];have H:=p c _ 0 (by rw[g];rfl) (q3 0 c (by rw[g];rfl));rw[A]at e;have hv:v.cells.toList[0]?=Y v:=by
   cases v with
   | agg h2=>
    cases n with
    |agg=>simp[AV.isAgg]at e
    |any=>simp[cellsOf]at k
    |vec _ _ _ z=>simp[Value.oneCell']at z
    |mp _ _ _ z=>simp[Value.oneCell']at z
   |_=>rfl
  rw[hv]at H;exact H
theorem jn{U':Nat->Prop}{ρ':Nat->Option Value}{hp:Nat->AO}{f:Nat->Nat}(g:∀b,U' b->U b):∀(l:List (Option Sh))(args:List R)(e:List Value)(m:List (Bool×R)),cr hp l args=Y m->
  cu w U ρ args e->(∀id∈fB l args,aW w U ρ id (hp id)/\∀b,zY ρ id (hp id) b->¬U' b)->(∀id∈AV.idsL (gG m),ρ' (f id)=ρ id)->
  cu w U' ρ' (m.map λp=>if p.1 then p.2.ren f else p.2) e/\∀id∈AV.idsL (gG m),id∈AV.idsL args
 | [],[],e,m,h,k,_,_=>by
  simp[cr]at h;subst h;exact⟨by simpa using⟨k.len,λj c v i=>by simp at i⟩,by simp[gG,AV.idsL]⟩
 |some s::ks,a::as,[],m,_,k,_,_=>by have:=k.len;simp at this
 |none::ks,a::as,[],m,_,k,_,_=>by have:=k.len;simp at this
 | some s::ks,a::as,v::e,m,h,k,hob,hρ=>by
  simp only[cr]at h;split at h
  .rename_i x r A n;cases h;have o:cu w U ρ as e:=⟨by have:=k.len;simpa using this,λj c v i u=>k.rv (j+1) c v i u⟩;have⟨t,z⟩:=jn g ks as e r n o (λid d=>hob id (by simp[fB,d])) (λid d=>hρ id (by simpa[gG]using d));refine⟨⟨by simp[t.len.symm],λj c y i q=>?_⟩,λid d=>?_⟩
   .cases j with
    | zero=>
     simp at i q;subst i;subst q;exact AH A (k.rv 0 a v rfl rfl) g (λid d=>hob id (by simp[fB,d]))
    |succ j=>exact t.rv j c y (by simpa using i) (by simpa using q)
   grind[AV.idsL,gG]
  .cases h
 | none::ks,a::as,v::e,m,h,k,hob,hρ=>by
  simp only[cr]at h;split at h
  .rename_i r n;cases h;have o:cu w U ρ as e:=⟨by have:=k.len;simpa using this,λj c v i u=>k.rv (j+1) c v i u⟩;have⟨t,z⟩:=jn g ks as e r n o (λid d=>hob id (by simpa[fB]using d)) (λid d=>hρ id (by simp[gG,AV.idsL]at d|-;exact .inr d));refine⟨⟨by simp[t.len.symm],λj c y i q=>?_⟩,λid d=>?_⟩
   .cases j with
    | zero=>
     simp at i q;subst i;subst q;exact((k.rv 0 a v rfl rfl).weak g).ren (λid d=>hρ id (by simp[gG,AV.idsL];exact .inl d))
    |succ j=>exact t.rv j c y (by simpa using i) (by simpa using q)
   grind[gG,AV.idsL]
  .cases h
 |[],_::_,_,_,h,_,_,_=>by simp[cr]at h
 |some _::_,[],_,_,h,_,_,_=>by simp[cr]at h
 |none::_,[],_,_,h,_,_,_=>by simp[cr]at h
theorem wk{x:Nat->AO}{f:Nat->Nat}:∀(k:List (Option Sh))(args:List R)(d:List (Bool×R))(b:zA k),cr x k args=Y d->lL x f k args=Y b->
  gX k b=d.map λp=>if p.1 then p.2.ren f else p.2
 |[],[],d,b,h,_=>by simp[cr]at h;subst h;rfl
 | some s::ks,a::as,d,b,h,hx=>by
  simp only[cr]at h;simp only[lL]at hx;split at h
  .rename_i y r j e;cases h;rw[j]at hx;split at hx
   next l i g c=>cases g;cases hx;simp[gX,wk ks as r i e c]
   .cases hx
  .cases h
 | none::ks,a::as,d,b,h,hx=>by
  simp only[cr]at h;simp only[lL]at hx;split at h
  .rename_i r e;cases h;split at hx
   next i c=>cases hx;simp[gX,wk ks as r i e c]
   .cases hx
  .cases h
 |[],_::_,_,_,h,_=>by simp[cr]at h
 |some _::_,[],_,_,h,_=>by simp[cr]at h
 |none::_,[],_,_,h,_=>by simp[cr]at h
theorem pF:∀(k:List (Option Sh))(args:List R)(id:Nat),id∈fB k args->id∈AV.idsL args
 | some _::ks,a::as,id,h=>by
  simp only[fB,bX]at h;simp only[AV.idsL,bX];exact h.imp pB (pF ks as id)
 | none::ks,_::as,id,h=>by
  simp only[fB]at h;simp only[AV.idsL,bX];exact .inr (pF ks as id h)
 |[],_,_,h=>by simp[fB]at h
 |some _::_,[],_,h=>by simp[fB]at h
 |none::_,[],_,h=>by simp[fB]at h
theorem NC{d:World}{b:Nat->Prop}{h:Nat->Option Value}{r:R}{f:Nat->Nat}(x:ui r=true)(a:Rv w U ρ r v):Rv d b h (r.ren f) v:=by
 have o:∀(r:R)(v:Value),Aa r=true->Rv w U ρ r v->Rv d b h (r.ren f) v:=by
  intro r v x a;cases a<;>simp[Aa]at x<;>simp only[AV.ren]
  .exact .kb _
  .exact .bool _
  .exact .int _ _ ‹_›
  .exact .str _ ‹_›
  .exact .ifcN
  .exact .ifcS _ _
 cases r with
 | tup m=>
  cases a with
  |tup _ i e g=>
  simp only[ui,dg]at x;simp only[AV.ren,iB];refine .tup _ i (by simpa using e) (λj c v k l=>?_);grind
 |_=>exact o _ v (by simpa[ui]using x) a
theorem collect_in{x:Nat->AO}{h:List Nat}(b:∀id∈h,∀j∈(x id).ids,j∈h):∀(a:Nat)(t s:List Nat),(∀i∈t,i∈h)->(∀i∈s,i∈h)->∀i∈jT x a t s,i∈h
 |0,_,_,_,c=>c
 |_+1,[],_,_,c=>c
 | n+1,i::r,s,ht,c=>by
  simp only[jT];split
  .exact collect_in b n r s (λj d=>ht j (by simp[d])) c
  .refine collect_in b n _ _ (λj d=>?_) (λj d=>?_)
   .grind
   grind
theorem WA{id:Nat}{o:AO}(h:zhV o=true)(j:aW w U ρ id o):∃v,ρ id=Y v:=by
 cases o with
 |dead=>simp[zhV]at h
 |box n=>have⟨b,x,m,g,_⟩:=j;exact⟨_,g⟩
 |vec e l=>have⟨a,c,g,_⟩:=j;exact⟨_,g⟩
 |frz e l=>have⟨v,g,_⟩:=j;exact⟨_,g⟩
 |fmap k=>have⟨r,i,d,g,_⟩:=j;exact⟨_,g⟩
 |vmap u k=>have⟨r,i,d,g,_⟩:=j;exact⟨_,g⟩
 |gmap e k=>have⟨r,i,d,p,g,_⟩:=j;exact⟨_,g⟩
variable {k:FuncId}{args:List R}{e:List AO}{Q:R->List AO->Prop}
theorem AE{C:eS}{f:Func}{c:Code}{h:List Value}(t:E.P.funcs[k]?=Y f)(q:f.body=Y c)(_:M args<=f.ntmps)
  (o:Reach E C k [.code c] (aC f.ntmps args e) Q) (g:cu w U ρ args h) (n:fE C w U ρ (λj=>e.getD j .dead)) (a:∀id,M e<=id->ρ id=none) (d:∀id v,C.ρ0 id=Y v->ρ id=Y v)
  (p:Wd E.gl C w U):Calls E.P k h.toArray w (QZ E C Q):=by
 intro i;let b:Frame:={(default:Frame)with fn:=k,kind:=.normal}
 have x:Frame.enter E.P k h.toArray .normal=b.at {tmps:=h.toArray++Array.replicate (f.ntmps-h.toArray.size) undef,defers:=[]} [.code c]:=by
  simp[Frame.enter,Frame.at,t,q,b]
 rw[x];refine o b i _ w U ρ rfl rfl ⟨?_,n,a,rfl,d⟩ p;have u:=g.len;simp only[aC,Array.toList_append,Array.toList_replicate,List.size_toArray];rw[<-u];refine g.append ⟨sw,λj c v s y=>?_⟩;have l:c=.tup []:=by
  have:=fw s;simpa using(List.mem_replicate.1 this).2
 have m:v=undef:=by
  have:=fw y;simpa using(List.mem_replicate.1 this).2
 rw[l,m];exact .tup [] [] rfl sw
def Ob(E:bS)(k:FuncId)(args:List R)(x:List AO)(Q:R->List AO->Prop):Prop:=
 ∀(C:eS)(w:World)(U:Nat->Prop)(ρ:Nat->Option Value)(h:List Value),(∀id,M x<=id->C.ρ0 id=none)->cu w U ρ args h->fE C w U ρ (λj=>x.getD j .dead)->(∀id,M x<=id->ρ id=none)->
  (∀id v,C.ρ0 id=Y v->ρ id=Y v)->Wd E.gl C w U->Calls E.P k h.toArray w (QZ E C Q)
theorem Tu.calls(h:Tu E k args e Q):Ob E k args e Q:=by intro C w U ρ v x a b d g i;have⟨f,c,m,l,_,n,j⟩:=h;exact AE m l n (j C x) a b d g i
variable {P:Program}{g:Nat->R}{a:List (Option Sh)}
theorem cY{G:ee a}(j6:∃fn,E.P.funcs[k]?=some fn/\(fn.name=="runtime.NumGoroutine")=false/\fn.body.isNone=false)
    (hG:∀x h0 i7,(G x h0).val=Y i7->Ob E k (gX a x) h0 (λr h=>(r,h)=i7)) (qp:E.P=P:=by rfl) (qg:E.gl=g:=by rfl):ky P g k (au a G):=by
  subst qp qg;refine⟨j6,?_⟩;intro w U ρ y n args x9 f fp h hr i4 j7 h8 a8 j5 hn;unfold au at h;split at h
  · rename_i ps i1
    simp only at h;generalize hπ:jT y 400 (AV.idsL (gG ps)) []=π at h;generalize hz:fB a args=z at h;split at h
    · rename_i x0
      simp only[ar,dg,aT,wX,List.contains_eq_mem,ef]at x0;have⟨⟨A,x7⟩,k9⟩:=x0;split at h;rotate_left
      · simp at h
      rename_i xs k8;have k7:=wk a args ps xs i1 k8;simp only[Tr.val_bind,fV]at h;have⟨⟨r,s⟩,i9,h⟩:=h;unfold Pv at h;split at h
      · rename_i j8
        simp only[Tr.val_ok,ax]at h;simp only[kh,ar,dg,D0]at A;have⟨⟨⟨l6,l7⟩,j4⟩,_⟩:=A;have l9:=B3 j4;have x2:∀i∈z,i∈fp:=λi F=>a8 i (pF a args i (by rw[hz];exact F))
        generalize a7:(λb=>U b/\¬∃j∈z,zY ρ j (y j) b)=U1;have q:∀b,U1 b->U b:=by intro b h;rw[<-a7]at h;exact h.1
        have i6:∀j∈z,∀b,zY ρ j (y j) b->¬U1 b:=λj m b u h=>by grind
        have k5:=jn (w:=w) (U:=U) (ρ:=ρ) (U':=U1) (ρ':=λj=>(π[j]?).bind ρ) (hp:=y) (f:=λi=>π.idxOf i) q a args x9 ps i1 hr
          (λid h4=>⟨h8.ob id (x2 id (by rw[<-hz];exact h4)),i6 id (by rw[<-hz];exact h4)⟩)
          (λid h4=>by
            grind)
        have⟨h9,x6⟩:=k5;rw[<-k7]at h9;have D:∀i∈π,i∈fp:=by
          rw[<-hπ];exact collect_in j5 400 _ [] (λi F=>a8 i (x6 i F)) (by simp)
        have l5:∀id∈π,((π[π.idxOf id]?).bind ρ)=ρ id:=by
          intro id h4;have h5:π.idxOf id<M π:=List.idxOf_lt_length_iff.2 h4;rw[zQ h5,List.getElem_idxOf h5];rfl
        let C:eS:={w0:=w,U0:=U1,B0:=λb=>∃i∈π,zY ρ i (y i) b,ρ0:=λj=>(π[j]?).bind ρ}
        have h7:∀i∈π,∀b,zY ρ i (y i) b->U1 b/\b<w.heap.size:=by
          intro i F b u;have:=(h8.ob i (D i F)).inU u;refine⟨?_,this.2⟩;rw[<-a7];refine⟨this.1,λ⟨j,m,k2⟩=>?_⟩;have e:=h8.inj i (D i F) j (x2 j m) b u k2;subst e;exact(x7 i m).2 F
        have k3:∀i∈π,aW w U1 ρ i (y i):=λi F=>
          (h8.ob i (D i F)).mono (zK _) (λ_ _ _=>rfl) (λb _ h=>q b h) (λ_ _ h=>h) (λb u=>⟨rfl,(h7 i F b u).1⟩)
        have a2:∀j(m:j<M π),(π.map λi=>(y i).ren λi=>π.idxOf i).getD j .dead=(y π[j]).ren λi=>π.idxOf i:=by
          intro j m;rw[bf,b8,zQ m];rfl
        have x4:∀j,M π<=j->(π.map λi=>(y i).ren λi=>π.idxOf i).getD j .dead=.dead:=by
          intro j m;rw[bf,eA (by simpa using m)];rfl
        have l0:∀j(m:j<M π),((π[j]?).bind ρ)=ρ π[j]:=λj m=>by rw[zQ m];rfl
        have k4:∀j b,zY (λj=>(π[j]?).bind ρ) j ((π.map λi=>(y i).ren λi=>π.idxOf i).getD j .dead) b->∃m:j<M π,zY ρ π[j] (y π[j]) b:=by
          rintro j b ⟨u,v,hv,H⟩;by_cases h5:j<M π
          · refine⟨h5,?_,v,by rw[<-l0 j h5];exact hv,H⟩
            rw[a2 j h5,Cc]at u;exact u
          · simp_all
        have j0:fE C w U1 (λj=>(π[j]?).bind ρ) (λj=>(π.map λi=>(y i).ren λi=>π.idxOf i).getD j .dead):=by
          refine⟨λj=>?_,λj1 j2 b o1 o2=>?_,λj b o=>?_⟩
          · by_cases h5:j<Io π
            · grind[aW.ren]
            · rw[x4 j (by omega)];trivial
          · grind[uK.inj]
          · grind
        have j3:Wd E.gl C w U1:=⟨jt.refl w,λ_ _ _=>rfl,λb H=>i4 b (q b H),λ_ _ h=>h,λ_ _ h _=>h,λc=>(j7 c).weak q⟩;have x3:=hG _ _ _ i9 C w U1 _ x9 (λid h4=>by
            grind) h9 j0 (λid h4=>by
            simp_all) (λ_ _ h=>h) j3
        have a5:∀id o,(id,o)∈f.wr->id∈fp:=by
          intro id o l;rw[<-h]at l;simp only[bX,aN]at l;rcases l with⟨p,i0,he⟩|l
          · have:p.1∈π:=(List.of_mem_zip i0).1
            cases he;exact D _ this
          · grind[dD]
        refine⟨x3.mono ?_,a5⟩;rintro e w' ⟨v,r',l4,U',ρ',rfl,hq,i3,a6,a3,i2,t⟩;cases hq;by_cases h6:(ui r&&π.isEmpty&&s.isEmpty)=true
        ·
          rw[zf h6]at h;simp only[ar,List.isEmpty_iff]at h6;obtain⟨⟨k6,rfl⟩,rfl⟩:=h6;simp at h;subst h;refine⟨v,U,ρ,rfl,⟨t.ext,NC k6 i3,by simp,by simp,λ_ _=>rfl,λ_ _ h=>h,λb H _=>t.same b H (by simp[C]),λb H=>cM (i4 b H) t.ext.sz,λ_ _ h=>h,λ_ _ h _=>h,by simp,by simp⟩⟩
        · rw[zh h6]at h
          let ρf:Nat->Option Value:=λid=>if n<=id/\id<n+(M s-M π)then ρ' (M π+(id-n))else ρ id
          have j9:∀j(m:j<M π),ρ' j=ρ π[j]:=by
            intro j m;have⟨x,hx⟩:=WA (k9 π[j] (bN m)).2 (h8.ob π[j] (D _ (bN m)));rw[hx];exact i2 j x (by grind)
          have hg:∀j,j<M s->ρf (nC π n j)=ρ' j:=by
            intro j m;unfold nC;split
            · grind
            · grind
          have l2:f.nw.length=M s-M π:=by rw[<-h];simp
          have x1:∀id x,ρ id=Y x->ρf id=Y x:=by
            intro id x hx;show(ite (n<=id/\id<n+(M s-M π)) (ρ' (M π+(id-n))) (ρ id))=Y x;rw[zh]
            · exact hx
            · rintro⟨h1,h2⟩
              have:=hn (id-n) (by omega);simp_all
          have a1:∀j x,ρ' j=Y x->ρf (nC π n j)=Y x:=by
            intro j x hx;by_cases m:j<M s
            · rw[hg j m];exact hx
            · rw[a3 j (by omega)]at hx;cases hx
          have a9:∀j(m:j<M s),aW w' U' ρf (nC π n j) (s[j].ren (nC π n)):=by
            intro j m;have:=a6.ob j;rw[show s.getD j .dead=s[j] by simp[m]]at this;exact this.ren' (λx hx=>a1 j x hx) (λi _ x hx=>a1 i x hx)
          have i5:∀id o,(id,o)∈f.wr->(∃j,∃m:j<M s,j<M π/\id=nC π n j/\o=s[j].ren (nC π n))\/(id∈z/\o=Bz (y id)):=by
            intro id o l;rw[<-h]at l;simp only[bX,aN]at l;rcases l with⟨p,i0,he⟩|l
            · grind[List.getElem_of_mem,nC]
            · exact .inr (dD l)
          have m3:∀(k:Nat) o,f.nw[k]?=Y o->∃m:M π+k<M s,n+k=nC π n (M π+k)/\o=s[M π+k].ren (nC π n):=by
            intro k o hk;rw[<-h]at hk;simp only[b8,Aq,dG]at hk;obtain⟨d,ha,rfl⟩:=hk;have⟨m,ha⟩:=cQ.1 ha;exact⟨m,by unfold nC;rw[zh (by omega)];omega,by rw[ha]⟩
          have x8:∀(id:Nat),(Bz (y id)).owns=true->nH (y id)=true->False:=by
            intro id h1 h2;cases hh:y id<;>rw[hh]at h1 h2<;>simp[Bz,AO.owns,nH]at h1 h2
          have l1:∀id o b,((id,o)∈f.wr\/(n<=id/\f.nw[id-n]?=Y o))->zY ρf id o b->∃j,id=nC π n j/\zY ρ' j (s.getD j .dead) b:=by
            intro id o b l u;have i8:∀j(m:j<M s),id=nC π n j->o=s[j].ren (nC π n)->∃j,id=nC π n j/\zY ρ' j (s.getD j .dead) b:=by
              rintro j m rfl rfl;refine⟨j,rfl,?_⟩;have⟨h1,x,h2,h3⟩:=u;rw[Cc]at h1;rw[hg j m]at h2;refine⟨?_,x,h2,h3⟩;rw[show s.getD j .dead=s[j] by simp[m]];exact h1
            rcases l with l|⟨l8,l⟩
            · rcases i5 id o l with⟨j,m,_,h1,h2⟩|⟨h1,rfl⟩
              · exact i8 j m h1 h2
              · exact(x8 id u.1 (x7 id h1).1).elim
            · grind
          have a0:∀b,C.B0 b->∃id o,(id,o)∈f.wr/\zY ρ id (y id) b:=by
            rintro b ⟨i,F,u⟩;obtain⟨j,m,rfl⟩:=jf F;refine⟨π[j],s[j].ren (nC π n),?_,u⟩;rw[<-h];simp only[bX,aN];refine .inl ⟨(π[j],s[j]),?_,rfl⟩;have:(π.zip s)[j]?=Y (π[j],s[j]):=by simp[List.getElem?_zip_eq_some,m,cM m j8]
            exact fw this
          have l3:∀i∈z,(i,Bz (y i))∈f.wr:=by
            intro i F;rw[<-h];simp only[bX];exact .inr (qe F)
          refine⟨v,U',ρf,rfl,⟨t.ext,?_,?_,?_,?_,x1,?_,t.ub,?_,?_,?_,?_⟩⟩
          · rw[<-h];exact i3.ren' (λi _ x hx=>a1 i x hx)
          · intro id o l
            rcases i5 id o l with⟨j,m,_,rfl,rfl⟩|⟨x5,rfl⟩
            · exact a9 j m
            · refine(qd (h8.ob id (x2 id x5)) (x7 id x5).1 q (i6 id x5)).mono t.ext.sz (λb H k1=>?_) t.u1 x1 (λb u=>(x8 id u.1 (x7 id x5).1).elim)
              exact t.same b H (λ⟨i,F,u⟩=>k1 (h7 i F b u).1)
          · grind
          · grind
          · intro b H a4
            refine t.same b H (λhB=>?_);have⟨id,o,h1,h2⟩:=a0 b hB;exact a4 id o h1 h2
          · intro b H hu
            exact q b (t.u1 b H hu)
          · intro b H hu a4
            refine t.u2 b H ?_ (λhB=>?_)
            · grind
            · have⟨id,o,h1,h2⟩:=a0 b hB
              exact a4 id o h1 h2
          · intro id o b l u
            have⟨j,_,m⟩:=l1 id o b l u;rcases a6.blk j b m with hB|hB
            · exact .inr (a0 b hB)
            · exact .inl hB
          grind[fE.inj]
      · simp at h
    · simp at h
  · simp at h
theorem TK{G:ee a}(d:∃fn,E.P.funcs[k]?=Q1 fn/\(fn.name=="runtime.NumGoroutine")=false/\fn.body.isNone=false)
  (e:∀x c b,(G x c).val=Y b->Tu E k (gX a x) c (λr h=>(r,h)=b)) (i:E.P=P:=by rfl) (q:E.gl=g:=by rfl):ky P g k (au a G):=by grind[cY,Tu.calls]
end
end Cad
