/- A whole region. -/
import Derived.Test.YtgcekmmgphhofaaGreatDoorR08
namespace Cad
open Go
open List renaming length->M
open Bool renaming true->Z,false->J
open Option renaming none->Q2,some->Y
open Tr (chk br)
open AV (nils agg tup ptr kb str sl)
open AV renaming sl->O
open Cad renaming Tr->K,AV->R,ow->S,Sem->N
structure Cn (C:eS) (st:St) (a:Act) (w:World) (U:Nat->Prop) (ρ:Nat->Option Value):Prop where
 tm:cu w U ρ st.tmps a.tmps.toList
 hp:fE C w U ρ st.hp
 new:∀id,st.heap.length<=id->ρ id=Q2
 df:a.defers=[]
 r0:∀id v,C.ρ0 id=Y v->ρ id=Y v
section
variable {E:bS} {C:eS} {a:Act} {w:World} {U:Nat->Prop} {ρ:Nat->Option Value}
theorem Cn.toR{s:St}(h:Cn C s a w U ρ):wO C {tmps:=s.tmps,heap:=s.heap} a w U ρ:=⟨h.tm,h.hp,h.new,sw,h.df,h.r0⟩
variable {m:RS}
theorem wO.out(h:wO C m a w U ρ):Cn C m.out a w U ρ:=⟨h.tm,h.hp,h.new,h.df,h.r0⟩
theorem ji{o:List Oper}:∀{t:K RS}{s:RS},(checked o t).val=Y s->t.val=Y s/\tT o s.log=Z
 |.err,s,h=>by simp[checked]at h
 | .chk c t,s,h=>by
  cases c
  .simp[checked,Tr.val]at h
  .simp only[checked,Tr.val,zj]at h|-;exact ji h
 | .br c t f,s,h=>by
  cases c
  .simp only[checked,Tr.val,zO,zr]at h|-;exact ji h
  .simp only[checked,Tr.val,zj]at h|-;exact ji h
 | .ok x,s,h=>by
  simp only[checked]at h;split at h
  .simp_all
  .simp at h
variable {o:List Oper}
theorem SS(l:zm E){id:Nat}{c:Bool}{A:RS}(q:m.log=[])(k:m.known=[])
  (h:(ite c (checked o (bP E o o m)) (bP E o o m)).val=Y A) (p:wO C m a w U ρ) (n:Wd E.gl C w U):
  (Code.region id o.toArray c).wp E.P (λe g b=>e=.normal/\∃x d,wO C A g b x d/\Wd E.gl C b x) a w:=by
 cases c
 .simp only[zO,zr]at h;refine wp_region ?_;have:=Bn (C:=C) l (Q:=λe g b=>e=.normal/\∃x d,wO C A g b x d/\Wd E.gl C b x) (λg b x d i j=>⟨rfl,x,d,i,j⟩) o 0 m a w U ρ sw h p n;rw[<-List.range_eq_range']at this;simpa using this
 .simp only[zj]at h;have⟨i,j⟩:=ji h;exact K2 l i q k j p n
theorem pN{x:Oper}{A:RS}(h:(sj E o m x).val=Y A)(c:A.touched=J):m.touched=J/\A.heap=m.heap:=by
 have g:∀k,(DB E x {m with known:=k}).val=Y A->m.touched=J/\A.heap=m.heap:=by
  intro k h;unfold DB at h;split at h
  .simp only[Tr.val_bind,fV]at h;have⟨f,_,h⟩:=h;split at h
   .simp at h;subst h;simp at c;have⟨e,i,j⟩:=c;refine⟨e,?_⟩;simp[i,j,mX]
   .simp at h
  .simp at h
 have skip:∀k,mb x {m with known:=k}=A->m.touched=J/\A.heap=m.heap:=by
  rintro k rfl;exact⟨c,rfl⟩
 unfold sj at h;split at h
 .exact g m.known h
 .split at h
  .simp at h;exact skip m.known h
  .split at h
   .split at h
    .exact g m.known h
    .simp at h;exact skip m.known h
   .simp at h;exact skip m.known h
   .rename_i b _;rename_i d _ _ _ _ _ _;cases b
    .simp only[Tr.val,zO,zr]at h;split at h
     .simp at h;exact skip _ h
     .exact g _ h
    .simp only[Tr.val,zj]at h;split at h
     .exact g _ h
     .simp at h;exact skip _ h
   .simp at h
theorem oo{o:List Oper}:∀(r:List Oper)(s b:RS),(bP E o r s).val=Y b->b.touched=J->b.heap=s.heap
 |[],s,b,h,_=>by simp[bP]at h;rw[h]
 | x :: r,s,b,h,c=>by
  simp only[bP,Tr.val_bind,fV]at h;have⟨d,g,e⟩:=h;have i:=oo r d b e c;have t:d.touched=J:=by
   have k:∀(r:List Oper)(s b:RS),(bP E o r s).val=Y b->b.touched=J->s.touched=J:=by
    intro r
    induction r with
    |nil=>intro s b h c;simp[bP]at h;rw[h];exact c
    | cons x r j=>
     intro s b h c;simp only[bP,Tr.val_bind,fV]at h;have⟨d,g,e⟩:=h;exact(pN g (j d b e c)).1
   exact k r d b e c
  rw[i,(pN g t).2]
theorem rc{o:List Oper}:∀(r:List Oper)(s b:RS),(bP E o r s).val=Y b->Yz s->b.tmps.length=s.tmps.length/\∀d,d∉Rp r->b.tmps.getD d .any=s.tmps.getD d .any
 |[],s,b,h,_=>by simp[bP]at h;rw[h];exact⟨rfl,λ_ _=>rfl⟩
 | x::r,s,b,h,hk=>by
  simp only[bP,Tr.val_bind,fV]at h;have⟨p,l,m⟩:=h;have⟨q,i,_,g⟩:=CQ l hk;have⟨j,k⟩:=rc r p b m g;refine⟨by rw[j,i.tlen],λd c=>?_⟩;rw[k d (λn=>c (by simp only[Rp,List.filterMap_cons];split<;>simp_all[Rp])),i.slots (λe=>c (by simp[Rp,e]))]
theorem iz(c:Bool):∀(h:List Nat)(p t f:List R),(dE c h p t f).length=M p
 |[],_,_,_=>rfl
 |d::r,p,t,f=>by rw[dE,iz c r];simp
theorem ou(c:Bool):∀(h:List Nat)(p t f:List R)(s:Nat),(dE c h p t f).getD s .any=if s∈h/\s<M p then(qt c (t.getD s .any) (f.getD s .any)).getD .any else p.getD s .any
 |[],p,t,f,s=>by simp[dE]
 | d::r,p,t,f,s=>by
  rw[dE,ou c r];grind
theorem qc{e:List Nat}{p:List R}:∀{t:K RS}{c:Option Bool}{l:List R},flat e p t=Y (c,l)->(c=Q2\/c=Y Z)->∃x,t.val=Y x/\x.touched=J/\
  (x.tmps.length=M p->M l=M p)/\∀s v,(s∉e->x.tmps.getD s .any=p.getD s .any)->Rv w U ρ (x.tmps.getD s .any) v->Rv w U ρ (l.getD s .any) v
 |.err,c,l,h,_=>by simp[flat]at h
 | .ok st,c,l,h,_=>by
  simp only[flat]at h;simp_all
 | .chk c0 t,c,l,h,F=>by
  simp only[flat]at h;split at h
  .rename_i l' G;cases h;have:c0=Z:=by simpa using F
   subst this;simp only[Tr.val,zj];exact qc G (.inl rfl)
  .rename_i c' l' G;cases h;have:c0=Z/\c'=Z:=by simpa using F
   obtain⟨rfl,rfl⟩:=this;simp only[Tr.val,zj];exact qc G (.inr rfl)
  .cases h
 | .br b t f,c,l,h,F=>by
  have h0:∀(o n:Option Bool)(i lf:List R),flat e p t=Y (o,i)->flat e p f=Y (n,lf)->l=dE b e p i lf->(b=Z->o=Q2\/o=Y Z)->(b=J->n=Q2\/n=Y Z)->
    ∃x,(br b t f).val=Y x/\x.touched=J/\(x.tmps.length=M p->M l=M p)/\∀s v,(s∉e->x.tmps.getD s .any=p.getD s .any)->Rv w U ρ (x.tmps.getD s .any) v->Rv w U ρ (l.getD s .any) v:=by
   rintro o n i lf ht hf rfl A D
   have j:∀(x:RS),(∀s v,(s∉e->x.tmps.getD s .any=p.getD s .any)->Rv w U ρ (x.tmps.getD s .any) v->Rv w U ρ ((ite b i lf).getD s .any) v)->
     ∀s v,(s∉e->x.tmps.getD s .any=p.getD s .any)->Rv w U ρ (x.tmps.getD s .any) v->Rv w U ρ ((dE b e p i lf).getD s .any) v:=by
    intro x hs s v d g;rw[ou];split
    .rename_i m;have h1:=hs s v d g;cases H:qt b (i.getD s .any) (lf.getD s .any)with
     |none=>exact .any _
     | some z=>
      refine BX H ?_;cases b<;>simpa using h1
    .rename_i m;by_cases k:s∈e
     .have:¬s<M p:=λh=>m ⟨k,h⟩
      rw[bf,eA S];exact .any _
     .rw[<-d k];exact g
   cases b
   .have⟨x,q,u,_,y⟩:=qc hf (D rfl);exact⟨x,by simpa[Tr.val]using q,u,λ_=>iz _ _ _ _ _,j x (λs v P g=>by simpa using y s v P g)⟩
   .have⟨x,q,u,_,y⟩:=qc ht (A rfl);exact⟨x,by simpa[Tr.val]using q,u,λ_=>iz _ _ _ _ _,j x (λs v P g=>by simpa using y s v P g)⟩
  simp only[flat]at h;grind
theorem rk(hE:zm E){id:Nat}{o:Array Oper}{c:Bool}{s q:St}(h:(iT E o.toList c s).val=Y q)(hc:Cn C s a w U ρ)(hW:Wd E.gl C w U):
  (Code.region id o c).wp E.P (λe F m=>e=.normal/\∃k u,Cn C q F m k u/\Wd E.gl C m k) a w:=by
 unfold iT at h;simp only at h;generalize n:({tmps:=s.tmps,heap:=s.heap}:RS)=D at h;have h7:D.log=[]:=by rw[<-n]
 have h6:D.known=[]:=by rw[<-n]
 have x2:wO C D a w U ρ:=by rw[<-n];exact hc.toR
 have x3:Yz D:=by intro d b hl;rw[h6]at hl;simp at hl
 generalize z:(ite c (checked o.toList (bP E o.toList o.toList D)) (bP E o.toList o.toList D))=t at h;have A:∀H,t.val=Y H->(Code.region id o c).wp E.P (λe F m=>e=.normal/\∃k u,wO C H F m k u/\Wd E.gl C m k) a w:=by
  intro H p;have:=SS (id:=id) hE h7 h6 (by rw[z];exact p) x2 hW;simpa using this
 have x0:∀H,t.val=Y H->(bP E o.toList o.toList D).val=Y H:=by
  intro H p;rw[<-z]at p;cases c
  .simpa using p
  .simp only[zj]at p;exact(ji p).1
 have h0:(t.bind λg=>Tr.ok g.out).val=Y q->(Code.region id o c).wp E.P (λe F m=>e=.normal/\∃k u,Cn C q F m k u/\Wd E.gl C m k) a w:=by
  intro h;simp only[Tr.val_bind,fV]at h;have⟨H,p,h⟩:=h;simp at h;subst h;exact wp_mono (A H p) (λe F m ⟨h1,k,u,G,h3⟩=>⟨h1,k,u,G.out,h3⟩)
 have x1:∀x l,flat (Rp o.toList) s.tmps t=Y (x,l)->(x=Q2\/x=Y Z)->q={s with tmps:=l}->
   (Code.region id o c).wp E.P (λe F m=>e=.normal/\∃k u,Cn C q F m k u/\Wd E.gl C m k) a w:=by
  rintro x l h5 h4 rfl;have⟨sR,p,ht,hl,_⟩:=qc (w:=w) (U:=U) (ρ:=ρ) h5 h4;have⟨x5,x4⟩:=rc o.toList D sR (x0 sR p) x3;have y:=oo o.toList D sR (x0 sR p) ht;refine wp_mono (A sR p) (λe F m ⟨h1,k,u,G,h3⟩=>⟨h1,k,u,⟨⟨?_,λj x v x6 h8=>?_⟩,?_,?_,G.df,G.r0⟩,h3⟩)
  .have:=G.tm.len;grind
  .have⟨x7,h9,_,_,hr⟩:=qc (w:=m) (U:=k) (ρ:=u) h5 h4;rw[p]at h9;cases h9;have hj:j<sR.tmps.length:=by rw[G.tm.len];exact(cQ.1 h8).1
   have e0:D.tmps=s.tmps:=by rw[<-n]
   have:=hr j v (λhd=>by rw[x4 j hd,e0]) (G.tm.rv j _ v (by simp_all) h8);simp_all
  .have:sR.hp=({s with tmps:=l}:St).hp:=by
    funext i;simp only[RS.hp,St.hp,y,<-n]
   rw[<-this];exact G.hp
  .have:sR.heap.length=s.heap.length:=by rw[y,<-n]
   intro i hi;exact G.new i (by rw[this];exact hi)
 split at h
 .split at h
  .simp_all
  .simp_all
  .exact h0 h
 .exact h0 h
end
section
variable {E:bS} {C:eS} {a:Act} {w:World} {U:Nat->Prop} {ρ:Nat->Option Value}
theorem Kr(keep:List Nat):∀(l:List R)(i j:Nat),(DE keep i l)[j]?=(l[j]?).map λv=>if keep.contains (i+j)then v else .any
 |[],_,_=>by simp[DE]
 |v::r,i,0=>by simp[DE]
 | v::r,i,j+1=>by
  simp only[DE,List.getElem?_cons_succ];rw[Kr keep r (i+1) j,show i+1+j=i+(j+1) by omega]
theorem Ks(keep:List Nat):∀(l:List R)(i:Nat),(DE keep i l).length=M l
 |[],_=>rfl
 |v::r,i=>by simp[DE,Ks keep r]
variable {s:St}
theorem zaH(keep:List Nat)(h:Cn C s a w U ρ):Cn C {s with tmps:=DE keep 0 s.tmps} a w U ρ:=by
 refine⟨⟨by rw[Ks];exact h.tm.len,λj c v x e=>?_⟩,h.hp,h.new,h.df,h.r0⟩;rw[Kr]at x;simp only[dG]at x;obtain⟨d,b,rfl⟩:=x;split
 .exact h.tm.rv j d v b e
 .exact .any v
variable {b:Nat->AO}
theorem PV{d:Nat->AO}{n:Nat}{e:Sh}{x:Option Addr}(s:fE C w U ρ b)(t:ρ n=Q2)(i:d n=.vec e [])
  (j:∀id,id≠n->aW w U (iM ρ n (.slice x 0 0)) id (d id)/\∀c,zY (iM ρ n (.slice x 0 0)) id (d id) c->zY ρ id (b id) c):fE C w U (iM ρ n (.slice x 0 0)) d:=by
 have Q2:∀c,¬zY (iM ρ n (.slice x 0 0)) n (d n) c:=by
  rintro c ⟨_,v,k,l⟩;simp[iM]at k;subst k;cases x<;>simp[bz]at l
 refine⟨λid=>?_,λm o c p q=>?_,λid c h=>?_⟩
 .by_cases g:id=n
  .subst g;rw[i];exact⟨x,0,by simp[iM],sw,.inl ⟨rfl,rfl⟩⟩
  .exact(j id g).1
 .grind[fE.inj]
 grind[fE.blk]
variable {id:Nat}{v:Value}{q:AO}
theorem Cd{n:Nat}{z:Nat}(b:id≠n)(h:zY (iM ρ n v) id q z):zY ρ id q z:=by have⟨d,x,c,e⟩:=h;simp only[iM,zh b]at c;exact⟨d,x,c,e⟩
theorem XC(p:Nat×Option Nat×Sh)(h:Cn C s a w U ρ):∃ρ',Cn C (tY s p) a w U ρ':=by
 have hn:ρ s.heap.length=Q2:=h.new _ (zK _);have D:∀(x:Option Addr){c:R}{v:Value},Rv w U ρ c v->Rv w U (iM ρ s.heap.length (.slice x 0 0)) c v:=λx _ _ hr=>hr.mono (zK _) (λ_ _ _=>rfl) (λ_ _ h=>h) (fa hn)
 have x7:∀(x:Option Addr)(id:Nat),aW w U (iM ρ s.heap.length (.slice x 0 0)) id (s.hp id):=λx id=>
  (h.hp.ob id).mono (zK _) (λ_ _ _=>rfl) (λ_ _ h=>h) (fa hn) (λb ho=>⟨rfl,((h.hp.ob id).inU ho).1⟩)
 have z:∀(k:List AO)(o:AO),M k=s.heap.length->(k++[o]).getD s.heap.length .dead=o:=by
  intro k o hl;rw[bf,nf S,hl];simp
 have A:∀(k:List AO)(o:AO)(id:Nat),M k=s.heap.length->id≠s.heap.length->(k++[o]).getD id .dead=k.getD id .dead:=by
  intro k o id hl H;simp only[bf];by_cases y:id<M k
  .rw[qQ y]
  .grind
 have F:∀(x:Option Addr)(k:List AO)(o:AO),M k=s.heap.length->∀id,(k++[o]).length<=id->iM ρ s.heap.length (.slice x 0 0) id=Q2:=by
  intro x k o hl id H;simp at H;simp only[iM];rw[zh S];exact h.new id S
 have⟨d,c,e⟩:=p;cases c with
 | none=>
  simp only[tY];split
  .rename_i k;have y:d<s.tmps.length:=by
    apply sB;intro x0;rw[bf,eA S]at k;cases k
   have x5:s.tmps[d]?=Y .nils:=by
    rw[bf,zQ y]at k;rw[zQ y];simpa using k
   have h6:d<a.tmps.toList.length:=by rw[<-h.tm.len];exact y
   have l:=h.tm.rv d _ _ x5 (zQ h6);generalize hx:a.tmps.toList[d]=x at l;cases l with
   |nils P=>
   refine⟨iM ρ s.heap.length (.slice P 0 0),⟨by simp[h.tm.len],λj c v t l=>?_⟩,PV h.hp hn (z _ _ rfl) (λid H=>?_),F P _ _ rfl,h.df,λid v hr=>fa hn id v (h.r0 id v hr)⟩
   .rw[oh]at t;split at t
    next x6=>subst x6;cases t;rw[zQ h6,hx]at l;cases l;exact .vec _ _ (by simp[iM]) rfl
    .exact D P (h.tm.rv j c v t l)
   .have:({tmps:=s.tmps.set d (.vec s.heap.length),heap:=s.heap++[.vec e []]}:St).hp id=s.hp id:=A s.heap _ id rfl H;grind[Cd]
  .exact⟨ρ,h⟩
 | some c=>
  simp only[tY];split
  .rename_i id hsl;split
   .rename_i cs h9;split
    .rename_i m;have ho:=h.hp.ob id;rw[h9]at ho;have⟨b,g,G,h1,h2,h3,h4,h5⟩:=ho;have u:c<M cs:=by
      apply sB;intro x0;rw[bf,eA S]at m;cases m
     have x3:cs[c]?=Y .nils:=by
      rw[bf,zQ u]at m;rw[zQ u];simpa using m
     have h7:c<G.toList.length:=by rw[<-h4.len];exact u
     have l:=h4.rv c _ _ x3 (zQ h7);generalize hx:G.toList[c]=x at l;cases l with
     |nils P=>
     have h8:id<s.heap.length:=by
      apply sB;intro x0;have:=h.new id S;rw[h1]at this;cases this
     have x8:id≠s.heap.length:=by omega
     refine⟨iM ρ s.heap.length (.slice P 0 0),⟨h.tm.len,λj cc v t l=>D P (h.tm.rv j cc v t l)⟩,PV h.hp hn (z _ _ sw) (λn h0=>?_),F P _ _ sw,h.df,λi v hr=>fa hn i v (h.r0 i v hr)⟩;have e0:({tmps:=s.tmps,heap:=s.heap.set id (.box (cs.set c (.vec s.heap.length)))++[.vec e []]}:St).hp n=(s.heap.set id (.box (cs.set c (.vec s.heap.length)))).getD n .dead:=A _ _ n sw h0;rw[e0];by_cases x1:id=n
     .subst x1;have e1:(s.heap.set id (.box (cs.set c (.vec s.heap.length)))).getD id .dead=.box (cs.set c (.vec s.heap.length)):=by
       simp[Oq h8]
      rw[e1];refine⟨⟨b,g,G,fa hn _ _ h1,h2,h3,⟨by simp[h4.len],λj cc v t l=>?_⟩,h5.1,λq=>h5.2 (Fe rfl q)⟩,λb' hb=>?_⟩
      .rw[oh]at t;split at t
       next x4=>subst x4;cases t;rw[zQ h7,hx]at l;cases l;exact .vec _ _ (by simp[iM]) rfl
       .exact D P (h4.rv j cc v t l)
      .have⟨_,v,l,x2⟩:=Cd h0 hb;exact⟨by rw[h9];rfl,v,l,x2⟩
     .have e1:(s.heap.set id (.box (cs.set c (.vec s.heap.length)))).getD n .dead=s.hp n:=by
       simp[St.hp,wW x1]
      grind[Cd]
    .exact⟨ρ,h⟩
   .exact⟨ρ,h⟩
  .exact⟨ρ,h⟩
theorem Cl:∀(x:List (Nat×Option Nat×Sh)){s:St}{ρ:Nat->Option Value},Cn C s a w U ρ->∃b,Cn C (x.foldl tY s) a w U b
 |[],_,ρ,h=>⟨ρ,h⟩
 | p::x,s,ρ,h=>by
  have⟨b,c⟩:=XC p h;exact Cl x c
theorem XU{l:Nat->AV}(p:Nat×Nat)(h:Cn C s a w U ρ)(G:Wd l C w U):∃U',Cn C (FB s p) a w U' ρ/\Wd l C w U':=by
 have⟨d,c⟩:=p;simp only[FB];split
 .rename_i id hsl;split
  .rename_i cs z;split
   .rename_i k m;split
    .rename_i e x D;have F:nH (s.hp k)=Z:=by cases hk:s.hp k<;>rw[hk]at D<;>simp[Bz]at D<;>rfl
     have A:=Ef.frz (w:=w) (U:=U) (ρ:=ρ) (n:=s.heap.length) (hp:=s.hp) (ids:=[k]) (r:=.any) (v:=undef) G.ub (by simpa using F) (λj _=>h.hp.ob j) (.any _);generalize(λb=>U b/\¬∃j∈[k],zY ρ j (s.hp j) b)=U' at A;have x4:gm s.hp [k]=[(k,.frz e x)]:=by simp[gm,D]
     rw[x4]at A
     have⟨h9,y,h7⟩:=Au (hp':=λid=>if id=k then .frz e x else s.hp id) G h.hp A (λ_ _ _=>rfl)
      (λi t=>by
       simp_all)
      (λj o hj=>by simp at hj)
      (λi x8 _=>by
       simp_all)
     have h6:id≠k:=by
      rintro rfl;rw[z]at F;cases F
     have ok:=y.ob k;simp only[zj]at ok;have⟨vk,x3,x9⟩:=ok;have oi:=y.ob id;simp only[zh h6,z]at oi;have⟨b,g,h8,h1,h2,h3,h4,h5⟩:=oi;have x6:id<s.heap.length:=by
      apply sB;intro h0;have:=h.new id S;rw[h1]at this;cases this
     have x7:k<s.heap.length:=by
      apply sB;intro h0;have:=h.new k S;rw[x3]at this;cases this
     have u:c<M cs:=by
      apply sB;intro h0;rw[bf,eA S]at m;cases m
     have x0:cs[c]?=Y (.vec k):=by
      rw[bf,zQ u]at m;rw[zQ u];simpa using m
     have x2:∀i,({tmps:=s.tmps,heap:=(s.heap.set k (.frz e x)).set id (.box (cs.set c (.sl e x)))}:St).hp i=if i=id then .box (cs.set c (.sl e x))else if i=k then .frz e x else s.hp i:=by
      intro i;simp only[St.hp,bf];by_cases t:i=id
      .simp_all
      .grind
     have x5:∀i b',zY ρ i (ite (i=id) (.box (cs.set c (.sl e x))) (ite (i=k) (.frz e x) (s.hp i))) b'->zY ρ i (ite (i=k) (AO.frz e x) (s.hp i)) b':=by
      intro i b' ho;by_cases t:i=id
      .subst t;rw[zh h6,z];have⟨_,v,P,hb⟩:=ho;exact⟨rfl,v,P,hb⟩
      .rwa [zh t]at ho
     refine⟨U',⟨⟨h.tm.len,λj cc v H P=>h7 (h.tm.rv j cc v H P)⟩,⟨λi=>?_,λi1 i2 b' o1 o2=>?_,λi b' o=>?_⟩,λi t=>h.new i (by simpa using t),h.df,h.r0⟩,h9⟩
     .rw[x2];by_cases t:i=id
      .subst t;rw[zf rfl];refine⟨b,g,h8,h1,h2,h3,⟨by simp[h4.len],λj cc v H P=>?_⟩,h5.1,λq=>h5.2 (Fe rfl q)⟩;rw[oh]at H;split at H
       .rename_i x1;subst x1;cases H;have:=h4.rv c _ v x0 P;cases this with
        |vec _ _ hr _=>
        simp_all
       .exact h4.rv j cc v H P
      .rw[zh t];exact y.ob i
     .grind[fE.inj]
     grind[fE.blk]
    .exact⟨U,h,G⟩
   .exact⟨U,h,G⟩
  .exact⟨U,h,G⟩
 .exact⟨U,h,G⟩
theorem Ld{gl:Nat->R}:∀(d:List (Nat×Nat)){s:St}{U:Nat->Prop},Cn C s a w U ρ->Wd gl C w U->∃x,Cn C (d.foldl FB s) a w x ρ/\Wd gl C w x
 |[],_,U,h,b=>⟨U,h,b⟩
 | p::d,s,U,h,b=>by
  have⟨x,e,c⟩:=XU p h b;exact Ld d e c
theorem iB(f:Nat->Nat):∀h:List R,AV.renL f h=h.map (AV.ren f)
 |[]=>rfl
 |c::h=>by simp[AV.renL,iB f h]
theorem pi(f:Nat->Nat):∀(e:Sh)(x:N e)(q:Nat)(c:R),(zq e x)[q]?=Y c->c.ren f=c:=by
 intro e
 induction e with
 |unit=>intro y q d h;simp[zq]at h
 |bool=>grind[zq,AV.ren]
 |int k=>grind[zq,AV.ren]
 |str=>grind[zq,AV.ren]
 |sl e j=>grind[zq,AV.ren]
 | pr a b i g=>
  intro y q d h;simp only[zq]at h;grind
 | expr=>
  grind[zq,AV.ren]
theorem lF:∀(e:Sh)(x:N e)(q:Nat)(c:R),(zq e x)[q]?=Y c->c.ids=[]:=by
 intro e
 induction e with
 |unit=>intro y q d h;simp[zq]at h
 |bool=>grind[zq,AV.ids]
 |int k=>grind[zq,AV.ids]
 |str=>grind[zq,AV.ids]
 |sl e j=>grind[zq,AV.ids]
 | pr a b i g=>
  intro y q d h;simp only[zq]at h;grind
 | expr=>
  grind[zq,AV.ids]
variable {ρ':Nat->Option Value}{f:Nat->Nat}
theorem Rv.ren'{u:R}(h:Rv w U ρ u v)(A:∀id∈u.ids,∀v,ρ id=Y v->ρ' (f id)=Y v):Rv w U ρ' (u.ren f) v:=by
 induction h with
 |any v=>simp only[AV.ren];exact .any v
 |kb b=>simp only[AV.ren];exact .kb b
 |bool b=>simp only[AV.ren];exact .bool b
 |int k n h=>simp only[AV.ren];exact .int k n h
 |str s h=>simp only[AV.ren];exact .str s h
 |nils a=>simp only[AV.ren];exact .nils a
 |sl0 e a u=>simp only[AV.ren];exact .sl0 e a u
 | sl e l b o u y g hm G F p hr P=>
  simp only[AV.ren];refine .sl e l b o u y g hm G F p (λi hi j cc h4=>?_);grind[lF,pi]
 |vec id v h D=>simp only[AV.ren];exact .vec _ v (A id (by simp[AV.ids]) _ h) D
 |ptr id q b h=>simp only[AV.ren];exact .ptr _ q b (A id (by simp[AV.ids]) _ h)
 |vptr id sz i q b n u h=>simp only[AV.ren];exact .vptr _ sz i q b n u (A id (by simp[AV.ids]) _ h)
 | eptr cs q b o y G F p D hr P=>
  simp only[AV.ren,iB];refine .eptr _ q b o y G F (by simpa using p) (by simpa using D) (λj u g=>?_);simp only[b8,dG]at g;obtain⟨z,c,rfl⟩:=g;exact P j z c (λid d=>A id (by simp only[AV.ids];exact jm (fw c) d))
 |nilp=>simp only[AV.ren];exact .nilp
 | agg cs vs hl D hr P=>
  simp only[AV.ren,iB];refine .agg _ vs (by simpa using hl) D (λj u v g H=>?_);simp only[b8,dG]at g;obtain⟨z,c,rfl⟩:=g;exact P j z v c H (λid d=>A id (by simp only[AV.ids];exact jm (fw c) d))
 | tup cs vs hl hr P=>
  simp only[AV.ren,iB];refine .tup _ vs (by simpa using hl) (λj u v g H=>?_);simp only[b8,dG]at g;obtain⟨z,c,rfl⟩:=g;exact P j z v c H (λid d=>A id (by simp only[AV.ids];exact jm (fw c) d))
 | clo fn fs cs vf vc h0 p h6 h5 h3 h2=>
  simp only[AV.ren,iB];refine .clo fn _ _ vf vc (by simpa using h0) (by simpa using p) (λj u v g H=>?_) (λj u v g H=>?_)
  .simp only[b8,dG]at g;obtain⟨z,c,rfl⟩:=g;exact h3 j z v c H (λid d=>A id (by simp only[AV.ids,bX];exact .inl (jm (fw c) d)))
  .simp only[b8,dG]at g;obtain⟨z,c,rfl⟩:=g;exact h2 j z v c H (λid d=>A id (by simp only[AV.ids,bX];exact .inr (jm (fw c) d)))
 |nilf=>simp only[AV.ren];exact .nilf
 |mp id v h D=>simp only[AV.ren];exact .mp _ v (A id (by simp[AV.ids]) _ h) D
 |ifcN=>simp only[AV.ren];exact .ifcN
 |ifcS t v=>simp only[AV.ren];exact .ifcS t v
 |tab k zs b x fr G F=>simp only[AV.ren];exact .tab k zs b x fr G F
 |gint m b x fr hm G F=>simp only[AV.ren];exact .gint m b x fr hm G F
variable {p:List R}{d:List Value}
theorem cu.ren'(h:cu w U ρ p d)(i:∀id∈AV.idsL p,∀v,ρ id=Y v->ρ' (f id)=Y v):cu w U ρ' (AV.renL f p) d:=by rw[iB];refine⟨by simpa using h.len,λj c v e k=>?_⟩;simp only[b8,dG]at e;obtain⟨g,x,rfl⟩:=e;exact(h.rv j g v x k).ren' (λid b=>i id (jm (fw x) b))
variable {id':Nat}
theorem aW.ren'(h:aW w U ρ id q)(n:∀v,ρ id=Y v->ρ' id'=Y v)(hf:∀i∈q.ids,∀v,ρ i=Y v->ρ' (f i)=Y v):aW w U ρ' id' (q.ren f):=by
 have G:∀(e:Sh)(x:N e)(j:Nat)(c:R)(v:Value),(zq e x)[j]?=Y c->Rv w U ρ c v->Rv w U ρ' c v:=by
  intro e x j c v P hr;have:=hr.ren' (ρ':=ρ') (f:=f) (λi hi=>by rw[lF e x j c P]at hi;simp at hi)
  rwa [pi f e x j c P]at this
 cases q with
 |dead=>trivial
 | box cs=>
  have⟨b,g,D,o,s,t,A,z⟩:=h;refine⟨b,g,D,n _ o,s,t,A.ren' hf,z.1,λd=>z.2 ?_⟩;have⟨a,b,e,H⟩:=vV d
  match cs,e with
  | [x,y],e=>
   simp only[AV.renL,oQ]at e;rw[<-e.1]at H;cases x<;>first|rfl|(simp[AV.ren,ff]at H)
 | vec e l=>
  have⟨a,c,o,s,t⟩:=h;refine⟨a,c,n _ o,s,?_⟩;grind
 | frz e l=>
  have⟨v,o,s⟩:=h;refine⟨v,n _ o,?_⟩;have:=s.ren' (ρ':=ρ') (f:=f) (by simp[AV.ids]);simpa[AV.ren]using this
 | fmap F=>
  have⟨r,m,k,o,s,t,A,z⟩:=h;refine⟨r,m,k,n _ o,s,t,?_,by rw[z];simp⟩;have:=A.ren' (ρ':=ρ') (f:=f) hf;grind[iB,Function.comp_def]
 | vmap u F=>
  have⟨r,m,k,o,s,t,A,z⟩:=h;exact⟨r,m,k,n _ o,s,t,A,z⟩
 | gmap e F=>
  have⟨r,m,k,gs,o,s,t,A,z⟩:=h;refine⟨r,m,k,gs,n _ o,s,t,?_,z⟩;have hn:AV.renL f (F.map λp=>O e p.2)=F.map λp=>O e p.2:=by rw[iB,hZ];rfl
  grind[cu.ren',Pp,AV.ids]
theorem Rv.ren{u:R}(h:Rv w U ρ u v)(b:∀id∈u.ids,ρ' (f id)=ρ id):Rv w U ρ' (u.ren f) v:=
 h.ren' λid x v c=>by rw[b id x];exact c
theorem cu.ren(h:cu w U ρ p d)(b:∀id∈AV.idsL p,ρ' (f id)=ρ id):cu w U ρ' (AV.renL f p) d:=
 h.ren' λid x v c=>by rw[b id x];exact c
theorem aW.ren(h:aW w U ρ id q)(x:ρ' id'=ρ id)(c:∀i∈q.ids,ρ' (f i)=ρ i):aW w U ρ' id' (q.ren f):=
 h.ren' (λv b=>by rw[x];exact b) λid x v b=>by rw[c id x];exact b
theorem Cc(o:AO):(o.ren f).owns=o.owns:=by cases o<;>rfl
theorem B3:∀{l:List Nat},PD l=Z->l.Nodup
 |[],_=>List.nodup_nil
 | i::r,h=>by
  simp[PD]at h;exact List.nodup_cons.2 ⟨h.1,B3 h.2⟩
theorem P7{n0:Nat}{e c:List Nat}(P:∀id,n0<=id->C.ρ0 id=Q2)(n:kh b n0 c e=Z)(u:fE C w U ρ b)(h5:∀id v,C.ρ0 id=Y v->ρ id=Y v):
  let g:=λj=>(e[j]?).bind ρ
  (∀id∈c,g (e.idxOf id)=ρ id)/\fE C w U g (λj=>(e.map λi=>(b i).ren λi=>e.idxOf i).getD j .dead)/\(∀id,M e<=id->g id=Q2)/\∀id v,C.ρ0 id=Y v->g id=Y v:=by
 intro g;simp only[kh,ar,dg,D0,be]at n;have⟨⟨⟨D,F⟩,G⟩,H⟩:=n;have h0:=B3 G;have m:∀id∈e,g (e.idxOf id)=ρ id:=by
  intro id k;have x:e.idxOf id<M e:=List.idxOf_lt_length_iff.2 k;show(e[e.idxOf id]?).bind ρ=ρ id;rw[zQ x,List.getElem_idxOf x];rfl
 have d:∀j(d:j<M e),g j=ρ e[j]:=by
  intro j d;show(e[j]?).bind ρ=ρ e[j];rw[zQ d];rfl
 have p:∀j(d:j<M e),(e.map λi=>(b i).ren λi=>e.idxOf i).getD j .dead=(b e[j]).ren λi=>e.idxOf i:=by
  intro j d;rw[bf,b8,zQ d];rfl
 have q:∀j,M e<=j->(e.map λi=>(b i).ren λi=>e.idxOf i).getD j .dead=.dead:=by
  intro j d;rw[bf,eA (by simpa using d)];rfl
 have l:∀j h,zY g j ((e.map λi=>(b i).ren λi=>e.idxOf i).getD j .dead) h->∃d:j<M e,zY ρ e[j] (b e[j]) h:=by
  rintro j h ⟨z,v,s,hb⟩;by_cases x:j<M e
  .refine⟨x,?_,v,by rw[<-d j x];exact s,hb⟩;rw[p j x,Cc]at z;exact z
  .grind
 refine⟨λid k=>m id (D id k),⟨λj=>?_,λj1 j2 h o1 o2=>?_,λj h o=>?_⟩,λj t=>?_,λid v s=>?_⟩
 .by_cases x:j<M e
  .rw[p j x];exact(u.ob e[j]).ren (d j x) (λi hi=>m i (F e[j] (bN x) i hi))
  .rw[q j S];trivial
 .grind[fE.inj]
 .have⟨l1,q1⟩:=l j h o;exact u.blk _ h q1
 .grind
 .have x:id<n0:=by
   apply sB;intro t;rw[P id S]at s;cases s
  have y:e[id]?=Y id:=by
   have A:(e.take n0)[id]?=Y id:=by rw[H,ly x]
   rwa [List.getElem?_take,zf x]at A
  grind
theorem PE{n0:Nat}{k:aR}{b:St}(j:∀id,n0<=id->C.ρ0 id=Q2)(h:zh4 n0 k s=Y b)(l:Cn C s a w U ρ):∃m,Cn C b a w U m:=by
 unfold zh4 at h;have⟨o,x⟩:=Cl k.prom (zaH k.slots l);generalize k.prom.foldl tY {s with tmps:=DE k.slots 0 s.tmps}=n at h x;unfold zd1 at h;simp only at h;split at h
 next c=>cases h;have⟨e,d,g,i⟩:=P7 j c x.hp x.r0;exact⟨_,x.tm.ren e,d,by simpa using g,x.df,i⟩
 .cases h
end
def Tr.Sat{α:Type}(Φ:α->Prop):K α->Prop
 |.err=>False
 |.chk c t=>c=Z/\t.Sat Φ
 |.br c t f=>(c=Z->t.Sat Φ)/\(c=J->f.Sat Φ)
 |.ok a=>Φ a
theorem Tr.sat_val{α:Type}{Φ:α->Prop}:∀{t:K α},t.Sat Φ->∃a,t.val=Y a/\Φ a
 |.err,h=>h.elim
 |.chk c t,⟨d,h⟩=>by subst d;simpa[Tr.val]using sat_val h
 | .br c t f,⟨x,b⟩=>by
  cases c
  .simpa[Tr.val]using sat_val (b rfl)
  .simpa[Tr.val]using sat_val (x rfl)
 |.ok a,h=>⟨a,rfl,h⟩
theorem Tr.sat_bind{α β:Type}{Φ:β->Prop}{k:α->K β}:∀{t:K α},(t.bind k).Sat Φ->t.Sat λa=>(k a).Sat Φ
 |.err,h=>h
 |.chk _ _,⟨x,h⟩=>⟨x,sat_bind h⟩
 |.br _ _ _,⟨b,c⟩=>⟨λx=>sat_bind (b x),λx=>sat_bind (c x)⟩
 |.ok _,h=>h
def QZ(E:bS)(C:eS)(Q:R->List AO->Prop)(e:Ending)(c:World):Prop:=
 ∃v r b x h,e=.returned v/\Q r b/\Rv c x h r v/\fE C c x h (λj=>b.getD j .dead)/\(∀id,M b<=id->h id=Q2)/\(∀id v,C.ρ0 id=Y v->h id=Y v)/\Wd E.gl C c x
def Reach(E:bS)(C:eS)(fn:FuncId)(t:List Item)(s:St)(Q:R->List AO->Prop):Prop:=
 ∀(b:Frame)(c:List Frame)(a:Act)(w:World)(U:Nat->Prop)(ρ:Nat->Option Value),b.fn=fn->b.kind=.normal->Cn C s a w U ρ->Wd E.gl C w U->
  ∃e x h,QZ E C Q e x/\Comes E.P (lone (b.at a t) c w) (lone h c x) e/\h.fn=fn/\h.leaving E.P x e
def ju(E:bS)(C:eS)(fn:FuncId)(Q:R->List AO->Prop):zM->Prop
 |.head _ k s=>Reach E C fn k s Q
 |.ret v h=>Q v h
 |.fork c x b s=>(c=Z->Reach E C fn x s Q)/\Reach E C fn b s Q
section
variable {E:bS} {C:eS} {fn:FuncId} {Q:R->List AO->Prop}
theorem Reach.step{k t:List Item}{s:St}(h:Reach E C fn t s Q)(p:∀(b:Frame)(a:Act)(c:List Frame)(w:World),step E.P (lone (b.at a k) c w)=.next (lone (b.at a t) c w)):Reach E C fn k s Q:=by intro b c a w U ρ g i l j;have⟨e,q,d,o,x,m,n⟩:=h b c a w U ρ g i l j;exact⟨e,q,d,o,kH (.one (p b a c w)) x,m,n⟩
def CC(tmps:Array Value):ResultVar->Go.Sem Value
 |.tmp t=>pure (tmps.getD t undef)
 |.cell x t=>do loadVar t (<-asAddr (tmps.getD x undef))
theorem CE(f:Func)(tmps:Array Value):results f tmps=(do
  let v<-f.results.mapM (CC tmps)
  pure (if h:v.size=1 then v[0]else .tuple v)):=by unfold results;congr 2
theorem CF{a:Act}{w:World}{U:Nat->Prop}{ρ:Nat->Option Value}{s:St}(k:Cn C s a w U ρ):∀(o:List ResultVar)(p:List R),ud E s o=Y p->
  ∃q:List Value,(o.mapM (CC a.tmps)).run E.P w=.ok q w/\cu w U ρ p q
 | [],p,h=>by
  simp[ud]at h;subst h;exact⟨[],sw,rfl,sw⟩
 | r :: o,p,h=>by
  simp only[ud]at h;split at h
  .rename_i v G e A;cases h;have⟨q,H,m⟩:=CF k o G A;have d:∀t,Rv w U ρ (s.tmps.getD t .any) (a.tmps.getD t undef):=by
    intro t;by_cases ht:t<s.tmps.length
    .have h1:t<a.tmps.toList.length:=by rw[<-k.tm.len];exact ht
     refine k.tm.rv t _ _ (by simp_all) ?_;simp_all
    .rw[bf,eA S];exact .any _
   have F:∃x,(CC a.tmps r).run E.P w=.ok x w/\Rv w U ρ v x:=by
    cases r with
    | tmp t=>
     simp only[HH,ax]at e;subst e;exact⟨_,rfl,d t⟩
    | cell x t=>
     simp only[HH]at e;have n:=d x;split at e
     .rename_i id off hp;rw[hp]at n;generalize D:a.tmps.getD x undef=vx at n;split at e
      .rename_i cs l;have ho:=k.hp.ob id;rw[l]at ho;have:=EX (P:=E.P) (w:=w) (U:=U) (ρ:=ρ) (hp:=s.hp) (t:=t) (av:=.ptr id off) (v:=vx) (f:={val:=v}) (by simp[GD,l,e]) n (λi hi=>k.hp.ob i);have⟨r',x',e1,g,z⟩:=this;cases e1;cases n with
       |ptr _ _ b hb=>
       refine⟨x',?_,z⟩;simp only[CC,D,asAddr,cw,ry,ol];simpa[Instr.loadAt,Instr.sureAddr]using g
      .cases e
     .cases e
   have⟨x,hx,h0⟩:=F;refine⟨x::q,?_,⟨by simp[m.len],λj c y u hy=>?_⟩⟩
   .simp_all
   .cases j with
    |zero=>simp_all
    |succ j=>exact m.rv j c y (by simpa using u) (by simpa using hy)
  .cases h
variable {s:St}{w:World}{U:Nat->Prop}{ρ:Nat->Option Value}
theorem ziJ{n0:Nat}{f:Func}(_:E.P.funcs[fn]?=Y f)(z:∀id,n0<=id->C.ρ0 id=Q2){o:List ResultVar}(n:f.results.toList=o)(h:(uc E n0 o s).Sat (ju E C fn Q))
  {a:Act}    (k:Cn C s a w U ρ) (A:Wd E.gl C w U):∃v,(results f a.tmps).run E.P w=.ok v w/\QZ E C Q (.returned v) w:=by
 unfold uc at h;split at h
 .rename_i p j;have⟨g,e,b⟩:=CF k o p j;simp only at h;have d:(results f a.tmps).run E.P w=.ok (if h:g.toArray.size=1 then g.toArray[0]else .tuple g.toArray) w:=by
   rw[CE,cw,Array.mapM_eq_mapM_toList,Sem.run_map,n,e];rfl
  have i:Rv w U ρ (Hc p) (if h:g.toArray.size=1 then g.toArray[0]else .tuple g.toArray):=by
   clear h j e d;have m:=b.len
   match p,g,m,b with
   |[c],[x],_,b=>simpa[Hc]using b.rv 0 c x rfl rfl
   |[],[],_,_=>simpa[Hc]using Rv.tup (w:=w) (U:=U) (ρ:=ρ) [] [] rfl sw
   | D::c2::cs,x1::x2::g,m,b=>
    rw[dif_neg sw];exact .tup _ _ m b.rv
  refine⟨_,d,?_⟩;split at h
  next l=>have⟨q,t,u,y⟩:=P7 z l k.hp k.r0;exact⟨_,_,_,U,_,rfl,h,i.ren q,t,by simpa using u,y,A⟩
  .exact h.elim
 .exact h.elim
variable {c:Bool}
theorem AJ{a:Act}{h:Operand}(b:Cn C s a w U ρ)(l:a.eval h=.bool c):Cn C (yv s h c) a w U ρ:=by
 unfold yv;split
 .rename_i i;refine{b with tm:=⟨by simpa using b.tm.len,λj d v x k=>?_⟩};rw[oh]at x;split at x
  .rename_i g;subst g;split at x
   .cases x;have:a.eval (.tmp i)=v:=by
     simp only[Act.eval];rw[oD];have:=cQ.1 k;have⟨m,n⟩:=this;have e:i<a.tmps.size:=by simpa using m
     simp[oP e,<-n]
    rw[this]at l;subst l;exact .kb c
   .cases x
  .exact b.tm.rv j d v x k
 .exact b
theorem Rs{b:Nat->AO}{u:R}{v:Value}(h:Gn b u=Y c)(i:Rv w U ρ u v)(k:∀id,aW w U ρ id (b id)):∃a n j,v=.slice a n j/\(a=Q2->c=Z):=by
 have m:∀{e:Sh}{l:List (N e)}{v:Value},Rv w U ρ (.sl e l) v->∃a n j,v=.slice a n j/\(a=Q2->l.isEmpty=Z):=by
  intro e l v i;cases i with
  |sl0 _ a c=>exact⟨a,0,c,rfl,λ_=>rfl⟩
  |sl _ _ x o c _ _ _ _ _ _ _=>simp_all
 cases u<;>simp[Gn]at h
 case nils=>
  subst h;cases i with
  |nils a=>exact⟨a,0,0,rfl,λ_=>rfl⟩
 case sl e l=>
  grind
 case vec id=>
  cases i with
  |vec _ _ t _=>
  have g:=k id;split at h
  next e l d=>simp only[ax]at h;subst h;rw[d]at g;have⟨a,c,p,_,s⟩:=g;grind
  next e l d=>simp only[ax]at h;subst h;rw[d]at g;have⟨y,p,q⟩:=g;simp_all
  .cases h
variable {t:TypeId}
theorem zaM{P:Program}{x:TypeId}(b:P.underlying t=Y (.slice x))(h q:Operand)(p:Option Addr)(n c:Nat):
  (do eqGuard .eql t h q (.slice p n c) (.slice Q2 0 0);binOp .eql t (.slice p n c) (.slice Q2 0 0):Go.Sem Value).run P w=.ok (.bool p.isNone) w:=by
 have g:(eqGuard .eql t h q (.slice p n c) (.slice Q2 0 0)).run P w=.ok () w:=by simp[eqGuard]
 have e:(Op.equal t (.slice p n c) (.slice Q2 0 0)).run P w=.ok p.isNone w:=by
  show(Op.equalIn (9999+1) t (.slice p n c) (.slice Q2 0 0)).run P w=.ok p.isNone w;unfold Op.equalIn;rw[cw,bm b];cases p<;>rfl
 have d:(binOp .eql t (.slice p n c) (.slice Q2 0 0):Go.Sem Value)=(do pure (.bool (<-Op.equal t (.slice p n c) (.slice Q2 0 0)))):=rfl;simp_all
theorem Nd{ca cb D q:Code}{h i z:Nat}{k:List Item}(g:GZ ca cb=Y (h,i,z,t,D,q))(he:Gn s.hp (s.tmps.getD h .any)=Y c)(ht:M4 E.P t=Z)(hd:z<s.tmps.length)(hx:i<s.tmps.length)
  (h1:c=Z->Reach E C fn (.code D::k) {s with tmps:=(s.tmps.set i (s.tmps.getD h .any)).set z .any} Q) (h2:Reach E C fn (.code q::k) {s with tmps:=(s.tmps.set i (s.tmps.getD h .any)).set z .any} Q):Reach E C fn (.code (.seq ca cb)::k) s Q:=by
 unfold GZ at g;split at g
 .rename_i id ops d' a0 b0;split at g
  .rename_i o1 o2 h5;split at g
   .rename_i x' s' d0 t0 x1 ty e1 e2 e3 e4 e5 e6;split at g
    .rename_i u;obtain⟨rfl,rfl,x4⟩:=u;cases g;intro b cs a w U ρ G H o hW;have x2:∃el,E.P.underlying t=Y (.slice el):=by
      unfold M4 at ht;split at ht
      .exact⟨_,‹_›⟩
      .cases ht
     have⟨el,hu⟩:=x2;have h0:Rv w U ρ (s.tmps.getD h .any) (a.eval (.tmp h)):=by
      have:=GG (E:=E) (known:=[]) o.tm sw hW.gl (.tmp h);simpa[uI]using this
     have⟨p,n,cp,hv,y⟩:=Rs he h0 (λid=>o.hp.ob id);have h3:s.tmps.length=a.tmps.size:=by have:=o.tm.len;simpa using this
     have A:ops=#[o1,o2]:=by apply fG;simpa using h5
     generalize d:a.put (Y i) (a.eval (.tmp h))=m;have h7:m.eval (.tmp i)=.slice p n cp:=by
      rw[<-d,hv];simp only[Act.eval,Act.put];rw[oD];simp[h3▸hx]
     have h6:(Code.region id ops J).wp E.P (λe a' w'=>e=.normal/\w'=w/\a'=m.put (Y z) (.bool p.isNone)) a w:=by
      refine wp_region ?_;rw[A];show wpOps E.P #[o1,o2] _ [0,1] a w;simp only[wpOps,Ot,List.getElem?_cons_zero,Region.wanted,e3,zj];refine .inl (ep (v:=a.eval (.tmp h)) (w':=w) (by simp[execOp,e2]) ?_);rw[e1,d];simp only[List.getElem?_cons_succ,List.getElem?_cons_zero,e6,zj];refine .inl (ep (v:=.bool p.isNone) (w':=w) ?_ ?_)
      .have x3:m.tmps.getD i undef=.slice p n cp:=h7;have h4:=zaM (w:=w) hu (.tmp i) (.const (.slice Q2 0 0)) p n cp;have h8:m.eval (.tmp i)=.slice p n cp:=h7;have h9:m.eval (.const (.slice Q2 0 0))=.slice Q2 0 0:=rfl;unfold execOp;rw[e5];simp only[h8,h9];simp only[cw]at h4|-;simp[h4]
      .rw[e4];exact⟨trivial,rfl,rfl⟩
     obtain⟨e,a',w',⟨rfl,rfl,rfl⟩,x⟩:=h6 b (.code (.cond (.tmp z) D q)::k) cs;have j:Cn C {s with tmps:=(s.tmps.set i (s.tmps.getD h .any)).set z .any} (m.put (Y z) (.bool p.isNone)) w' U ρ:=by
      refine⟨?_,o.hp,o.new,?_,o.r0⟩
      .have r1:=lN (d:=Y i) o.tm h0;rw[d]at r1;exact lN (d:=Y z) r1 (.any (.bool p.isNone))
      .rw[<-d];exact o.df
     have l:(m.put (Y z) (.bool p.isNone)).eval (.tmp z)=.bool p.isNone:=by
      have x0:z<m.tmps.size:=by rw[<-d];simp[Act.put];omega
      simp only[Act.eval,Act.put];rw[oD];simp[x0]
     cases hp:p with
     | none=>
      rw[hp]at l x j;have⟨e,F,fr,q1,q2,q3⟩:=h1 (y hp) b cs _ w' U ρ G H j hW;exact⟨e,F,fr,q1,kH (.one step_seq) (kH x (kH (.one (step_cond l)) q2)),q3⟩
     | some pa=>
      rw[hp]at l x j;have⟨e,F,fr,q1,q2,q3⟩:=h2 b cs _ w' U ρ G H j hW;exact⟨e,F,fr,q1,kH (.one step_seq) (kH x (kH (.one (step_cond l)) q2)),q3⟩
    .cases g
   .cases g
  .cases g
 .cases g
theorem FA(hE:zm E){n0:Nat}{f:Func}(hf:E.P.funcs[fn]?=Y f)(hC:∀id,n0<=id->C.ρ0 id=Q2){rs:List ResultVar}(h5:f.results.toList=rs){keep:Nat->aR}:
  ∀(n:Nat)(d:List Item)(D:St),(run E n0 keep rs n d D).Sat (ju E C fn Q)->Reach E C fn d D Q
 |0,_,_,h=>h.elim
 | n + 1,d,D,h=>by
  have u:=FA hE hf hC h5 (keep:=keep) n;have h0:∀(c:Code)(k:List Item),(kQ n0 (keep (eM c)) (eM c) (.code c::.inLoop c::k) D).Sat (ju E C fn Q)->Reach E C fn (.code c::.inLoop c::k) D Q:=by
   intro c k h;unfold kQ at h;split at h
   next h3 hn=>intro b g a w U ρ p z o s;have⟨ρ',j⟩:=PE hC hn o;exact h b g a w U ρ' p z j s
   .exact h.elim
  have cut:∀(kp:aR)(h6:Nat)(d:List Item)(D:St),(kQ n0 kp h6 d D).Sat (ju E C fn Q)->Reach E C fn d D Q:=by
   intro kp h6 d D h;unfold kQ at h;split at h
   next h3 hn=>intro b g a w U ρ p z o s;have⟨ρ',j⟩:=PE hC hn o;exact h b g a w U ρ' p z j s
   .exact h.elim
  have m:(uc E n0 rs ((keep 1000000).sett.foldl FB ((keep 1000000).prom.foldl tY D))).Sat (ju E C fn Q)->∀(d:List Item),(∀(b:Frame)(a:Act)(g:List Frame)(w:World),step E.P (lone (b.at a d) g w)=.next (lone {b.at a d with mode:=.returning} g w))->Reach E C fn d D Q:=by
   intro h d hs b g a w U ρ p z o s;have⟨ρ',j⟩:=Cl (keep 1000000).prom o;have⟨U',h9,h8⟩:=Ld (gl:=E.gl) (keep 1000000).sett j s;have⟨v,hr,hp⟩:=ziJ hf hC h5 h h9 h8;refine⟨.returned v,w,{b.at a d with mode:=.returning},hp,.one (hs b a g w),p,rfl,o.df,z,f,?_,hr⟩;show E.P.funcs[b.fn]?=Y f;rw[p];exact hf
  unfold run at h;split at h
  .exact m h [] (λb a g w=>step_end)
  .exact(u _ _ h).step (λb a g w=>step_inBlock)
  .split at h
   .exact(u _ _ h).step (λb a g w=>step_inLoop)
   .exact(h0 _ _ h).step (λb a g w=>step_inLoop)
  .rename_i c k;split at h
   .exact(u _ _ h).step (λb a g w=>step_skip)
   .exact(u _ _ h).step (λb a g w=>step_label)
   .split at h
    .rename_i hn;split at h
     .rename_i c he;split at h
      next i=>simp only[ar,aT]at i;exact Nd hn he i.1 i.2.1 i.q h.1 h.2
      .exact h.elim
     .exact h.elim
    .exact(u _ _ h).step (λb a g w=>step_seq)
   .rename_i co x y;intro b g a w U ρ p z o s;have l:=GG (E:=E) (known:=[]) o.tm sw s.gl co;generalize hx:a.eval co=v at l;split at h
    next A=>rw[A]at l;cases l;have⟨e,w',F,G,H,q3⟩:=u _ _ h b g a w U ρ p z o s;exact⟨e,w',F,G,kH (.one (step_cond hx)) H,q3⟩
    next A=>rw[A]at l;cases l;have⟨e,w',F,G,H,q3⟩:=u _ _ h b g a w U ρ p z o s;exact⟨e,w',F,G,kH (.one (step_cond hx)) H,q3⟩
    .rename_i t A;rw[A]at l;cases l;cases t
     .have⟨e,w',F,G,H,q3⟩:=u _ _ (h.2 rfl) b g a w U ρ p z (AJ o hx) s;exact⟨e,w',F,G,kH (.one (step_cond hx)) H,q3⟩
     .have⟨e,w',F,G,H,q3⟩:=u _ _ (h.1 rfl) b g a w U ρ p z (AJ o hx) s;exact⟨e,w',F,G,kH (.one (step_cond hx)) H,q3⟩
    .exact h.elim
   .exact(u _ _ h).step (λb a g w=>step_block)
   .split at h
    .exact(u _ _ h).step (λb a g w=>step_loop)
    .exact(h0 _ _ h).step (λb a g w=>step_loop)
   .rename_i id;split at h
    next k' hk=>exact(u _ _ h).step (λb a g w=>step_exit hk)
    .exact h.elim
   .exact m h _ (λb a g w=>step_ret)
   .rename_i id ops draw;intro b g a w U ρ p z o s;have⟨h3,hv,hs⟩:=Tr.sat_val (Tr.sat_bind h);obtain⟨e,a',w',⟨rfl,U',ρ',j,h7⟩,h4⟩:=rk (id:=id) hE hv o s b k g;have hR:Reach E C fn k h3 Q:=by
     split at hs
     .exact cut _ _ _ _ hs
     .exact u _ _ hs
    have⟨e,x0,F,G,H,q3⟩:=hR b g a' w' U' ρ' p z j h7;exact⟨e,x0,F,G,kH h4 H,q3⟩
   .exact h.elim
  .exact h.elim
end
end Cad
