/- What each operation says. -/
import Derived.Test.YtgcekmmgphhofaaGreatDoorR04
namespace Cad
open Go
open List renaming length->M
open Option renaming some->Q1,some->Y
open Tr (chk br)
open AV (nils agg tup ptr kb str sl)
open Cad renaming ow->S,AV->R,Sem->N
section
variable {P:Program} {w:World} {U:Nat->Prop} {ρ:Nat->Option Value}
structure uK (w:World) (U:Nat->Prop) (ρ:Nat->Option Value) (hp:Nat->AO) (fp:List Nat):Prop where
 ob:∀id∈fp,aW w U ρ id (hp id)
 inj:∀id1∈fp,∀id2∈fp,∀b,zY ρ id1 (hp id1) b->zY ρ id2 (hp id2) b->id1=id2
variable {n:Nat}{h:Nat->AO}{t:TypeId}{v:Value}
theorem MN{c m:AV}{b:Value}{f:fb}{fp:List Nat}(d:(GF P h t c m).val=Q1 f)
  (ha:Rv w U ρ c v) (hx:Rv w U ρ m b) (x4:∀k,U k->k<w.heap.size) (C:uK w U ρ h fp) (A:∀id∈c.ids,id∈fp) (x0:∀id∈ea m,id∈fp):
  ∃w' U',(Instr.storeAt t v b).run P w=.ok () w'/\Ef n h f w U ρ undef w' U' ρ/\∀id o,(id,o)∈f.wr->id∈fp:=by
 unfold GF at d;split at d
 .rename_i vs sz h8 x2;have⟨hv,h0⟩:=gJ h8 hx;split at d
  .rename_i F;split at d
   .rename_i id off;cases ha with
    |ptr _ _ k hb=>
    have ho:=C.ob id (A id (by simp[AV.ids]));split at d
    .rename_i cs y;rw[y]at ho;have⟨b',p,a3,h1,h2,h3,h4,h5⟩:=ho;rw[hb]at h1;cases h1;split at d
     .rename_i D;have⟨D,h7⟩:=D;simp only[Tr.val_ok,ax]at d;subst d;refine⟨_,U,?_,Ef.store x4 y hb h2 h3 h4 h5.1 hv h0 (λq=>h5.2 (by rw[q]at h7;simpa using h7)),?_⟩
      .have:=ox (P:=P) (w:=w) (o:=off) x2 (by rw[<-hv.len];exact F) h3 (by have:=h4.len;simp at this;omega) h0;simp[Instr.storeAt,Instr.sureAddr,this]
      .intro a1 o' G;simp at G;rw[G.1];exact A id (by simp[AV.ids])
     .simp at d
    .simp at d
   .rename_i id sz' i off;cases ha with
    |vptr _ _ _ _ k n' g hb=>
    have s:=A id (by simp[AV.ids]);have ho:=C.ob id s;split at d
    .rename_i e l y;split at d
     .rename_i H;obtain⟨rfl,a2,u⟩:=H;split at d
      .rename_i x E;simp at d;obtain⟨hi,rfl⟩:=d;have x9:=ho;rw[y]at ho;have⟨a,c',h1,hm,h3⟩:=ho;rw[hb]at h1;cases h1;rcases h3 with⟨rfl,_⟩|⟨b',p,a4,x6,hc,hU,h6,x3,D,a0,x5⟩
       .simp at hi
       .cases x6;have h9:l[i]?.getD (zk e)=l[i]:=by simp[zQ hi]
        rw[bf,h9]at E;have z:∀j∈vs.flatMap cJ,j∈fp:=λj hj=>x0 j (by simpa[ea,h8]using hj)
        simp only[dg,ar,bne_iff_ne,ne_eq]at u
        refine⟨_,_,?_,Ef.storeVec x4 y hb hc hU h6 hm x3 D a0 hv S hi E u (λj hj=>C.ob j (z j hj))
         (λj hj b' x7 x8=>(u j hj).2 (C.inj j (z j hj) id s b' x7 x8)) x5,?_⟩
        .have x1:(i+1)*e.size<=g*e.size:=gu _ S;rw[jG]at x1;have:=ox (P:=P) (w:=w) (o:=i*e.size+off) x2 (by rw[<-hv.len];exact F) h6 S h0;simp[Instr.storeAt,Instr.sureAddr,this]
        .intro a1 o' G;simp only[bD,cz]at G;rcases G with⟨rfl,_⟩|G
         .exact s
         .exact z _ (dD G).1
      .simp at d
     .simp at d
    .simp at d
   .simp at d
  .simp at d
 .simp at d
theorem w8{hp:Nat->AO}{e:Sh}{c:R}{x:N e}(h:w7 hp e c=Y x):∃a,cellsOf c=Y a/\cW hp e a=Y (x,[]):=by unfold w7 at h;grind
theorem uX{hp:Nat->AO}{e:Sh}{U':Nat->Prop}(d:∀b,U' b->U b):∀(m:List R)(a:List Value)(l:List (N e)),uW hp e m=Y l->cu w U ρ m a->
  (∀id∈m.flatMap ea,aW w U ρ id (hp id)/\∀b,zY ρ id (hp id) b->¬U' b)->
  l.length=M a/\(∀v∈a,v.cells.size=e.size/\∀x∈v.cells.toList,x.oneCell'=true)/\
  ∀i(E:i<M l)(y:i<M a)(j:Nat)(c:R),(zq e l[i])[j]?=Y c->∃v,a[i].cells[j]?=Y v/\Rv w U' ρ c v
 | [],a,l,h,k,_=>by
  simp[uW]at h;subst h;have:=k.len;grind
 |v::m,[],l,_,k,_=>by have:=k.len;simp at this
 | v :: m,u::a,l,h,k,hob=>by
  simp only[uW]at h;split at h
  .rename_i x H G F;cases h;have⟨C,n,p⟩:=w8 G;have⟨g,z⟩:=gJ n (k.rv 0 v u rfl rfl)
   have⟨D,h2,h3⟩:=uX d m a H F ⟨by have:=k.len;simpa using this,λj c v s y=>k.rv (j+1) c v s y⟩
    (λid o=>hob id (by simp_all))
   have⟨q1,q2,q3⟩:=nG (w:=w) (U:=U) (U':=U') (ρ:=ρ) (hp:=hp) d e C x [] (λj=>(u.cells.toList[j]?).getD undef) p
    (λj c A=>by
     have q:j<u.cells.toList.length:=by rw[<-g.len];exact(cQ.1 A).1
     exact g.rv j c _ A (by simp[zQ q]))
    (λid o=>hob id (by simp only[List.flatMap_cons,bX];exact .inl (by simpa[ea,n]using o)))
   have t:u.cells.size=e.size:=by
    have:=g.len;simp at this q1;omega
   refine⟨by simp[D],?_,?_⟩
   .grind
   .intro i E y j c s;cases i with
    | zero=>
     simp only[List.getElem_cons_zero]at s|-;have q:j<u.cells.size:=by rw[t];have:=(cQ.1 s).1;rwa [zS]at this
     grind
    | succ i=>
     grind
  .cases h
theorem vR(s:Nat):∀(h:List Value)(k:Nat)(c:List Value),(∀v∈h,v.cells.size=s)->(k+M h)*s<=M c->
  ∃r:List Value,Instr.fill (λi=>Y (i*s,s)) c.toArray ((h.zipIdx k).map λp=>(p.2,p.1))=Y r.toArray/\M r=M c/\
   (∀q,q<k*s->r[q]?=c[q]?)/\∀i(g:i<M h) j,j<s->r[(k+i)*s+j]?=h[i].cells[j]?
 |[],k,c,_,_=>⟨c,by simp[Instr.fill],rfl,λ_ _=>rfl,sw⟩
 | v::h,k,c,hsz,hle=>by
  have u:=hsz v sw;simp only[bx]at hle;have o:k*s+s<=M c:=by
   have d:(k+1)*s<=(k+(M h+1))*s:=gu _ S;rw[jG]at d;omega
  have⟨r,a,b,e,m⟩:=vR s h (k+1) (nS c (k*s) v.cells.toList) (λx l=>hsz x (by simp[l]))
   (by rw[gV,show k+1+M h=k+(M h+1) by omega];exact hle)
  refine⟨r,?_,by rw[b,gV],?_,?_⟩
  .simp only[List.zipIdx_cons,dc,Instr.fill];rw[zh sg];rw[<-a];congr 1;have:=Bw c v.cells.toList 0 (k*s);rw[w6]at this;rw[<-this,<-Array.foldl_toList,Array.toList_zipIdx]
  .intro q t;rw[e q (by rw[jG];omega),lc,zh S]
  .intro i g j n;cases i with
   | zero=>
    simp only[w6,List.getElem_cons_zero];rw[e _ (by rw[jG];omega),lc,zf sg,show k*s+j-k*s=j by omega];simp
   | succ i=>
    grind
structure EnvOk (E:bS):Prop where
 sh:∀t e,E.sh t=Y e->∃i z,E.P.info? t=Y i/\i.size=e.size/\0<e.size/\i.bytes<=131072/\i.zero=Y z/\z.cells.size=i.size/\(e=.int .u8->t=Yl)
theorem po:∀(x:List (Nat×R))(n:Nat),tD n x=true->x=((x.map (·.2)).zipIdx n).map λp=>(p.2,p.1)
 |[],_,_=>rfl
 | (i,v)::r,n,h=>by
  simp[tD]at h;obtain⟨rfl,h⟩:=h;simp only[dc,List.zipIdx_cons];congr 1;exact po r (i+1) h
theorem Ef.allocFrz{ids:List Nat}{d:Array Value}{T:TypeId}{r:R}(D:∀b,U b->b<w.heap.size)(m:∀j∈ids,nH (h j)=true)
  (t:∀j∈ids,aW w U ρ j (h j)) (g:Rv (w.alloc (.cells d T)) (λb=>U b/\¬∃j∈ids,zY ρ j (h j) b) ρ r v):
  Ef n h {val:=r,wr:=gm h ids} w U ρ v (w.alloc (.cells d T)) (λb=>U b/\¬∃j∈ids,zY ρ j (h j) b) ρ:=by
 generalize l:(λb=>U b/\¬∃j∈ids,zY ρ j (h j) b)=p at g|-;have e:∀b,p b->U b:=λb x=>by rw[<-l]at x;exact x.1
 have s:∀j∈ids,∀b,zY ρ j (h j) b->¬p b:=λj u b i x=>by grind
 have z:∀c,c<w.heap.size->¬p c->(w.alloc (.cells d T)).heap[c]?=w.heap[c]?:=λc q _=>bH w _ c q
 have C:w.heap.size<=(w.alloc (.cells d T)).heap.size:=by rw[ba];omega
 have k:∀id o b,(id,o)∈gm h ids->zY ρ id o b->False:=by
  intro id o b x i;obtain⟨a,rfl⟩:=dD x;rw[zY,pk (m id a)]at i;simp at i
 refine⟨jt.alloc w d T,g,?_,sw,λ_ _=>rfl,λ_ _ x=>x,λc q _=>bH w _ c q,?_,λc _ x=>e c x,?_,?_,?_⟩
 .intro id o x;have y:=x;obtain⟨a,rfl⟩:=dD x;exact(qd (t id a) (m id a) e (s id a)).mono C z (λ_ _ x=>x) (λ_ _ x=>x) (λc i=>(k id _ c y i).elim)
 .grind
 .intro c _ x A;rw[<-l];exact⟨x,λ⟨j,u,i⟩=>A j _ (qe u) i⟩
 .simp_all
 simp_all
theorem ye{E:bS}(hE:EnvOk E){l:Nat}{q:List (Nat×AV)}{vps:List (Nat×Value)}{f:fb}{i:List Nat}
  (a:(nv E h t l q).val=Y f) (hi:q.map (·.1)=vps.map (·.1)) (hr:cu w U ρ (q.map (·.2)) (vps.map (·.2)))
  (x0:∀b,U b->b<w.heap.size) (x4:uK w U ρ h i) (h9:∀id∈q.flatMap (λp=>ea p.2),id∈i):
  ∃v w' U',(Instr.buildSlice t l vps.toArray).run E.P w=.ok v w'/\Ef n h f w U ρ v w' U' ρ/\∀id o,(id,o)∈f.wr->id∈i:=by
 unfold nv at a;split at a
 .rename_i m hu;split at a
  .split at a
   .rename_i G;simp at G;obtain⟨rfl,C⟩:=G;have D:vps=[]:=by
     have:=congrArg M hi;simp at this;exact Do S
    subst D;simp at a;subst a;have⟨sz,C⟩:=Option.isSome_iff_exists.1 C
    have A:∃x1,(Instr.buildSlice t 0 #[]).run E.P w=.ok (.slice (Y ⟨w.heap.size,0,none⟩) 0 0) (w.alloc (.cells x1 m)):=
     ⟨_,by simp[Instr.buildSlice,bm hu,cK C,Instr.fill,newRow];rfl⟩
    have⟨x1,A⟩:=A;exact⟨_,_,_,A,Ef.allocFrz (ids:=[]) (T:=m) x0 sw sw (.nils _),sw⟩
   .simp at a
  .rename_i a4;split at a
   .rename_i e he;split at a
    .rename_i s;simp at s;have⟨⟨⟨x7,x9⟩,a9⟩,a8⟩:=s;split at a
     .rename_i d hl;simp at a;subst a;have⟨g,z,u,x6,i0,_,hz,i2,_⟩:=hE.sh m e he;have C:fL E.P m=Y e.size:=by simp[fL,u,x6]
      have x5:∀id∈(q.map (·.2)).flatMap ea,id∈q.flatMap (λp=>ea p.2):=by
       intro id h8;simpa[List.flatMap_map]using h8
      have a0:∀j∈q.flatMap (λp=>ea p.2),nH (h j)=true:=by
       intro j F;simp only[D2]at F;have⟨p,a5,F⟩:=F;exact a8 p.1 p.2 a5 j F
      generalize x2:(λb=>U b/\¬∃j∈q.flatMap (λp=>ea p.2),zY ρ j (h j) b)=U';have h5:∀b,U' b->U b:=λb a=>by rw[<-x2]at a;exact a.1
      have⟨h1,h2,h3⟩:=uX (w:=w) (U:=U) (ρ:=ρ) (U':=U') h5 _ _ d hl hr
       (λid h8=>⟨x4.ob id (h9 id (x5 id h8)),λb ho a=>by grind⟩)
      have D:vps=((vps.map (·.2)).zipIdx 0).map λp=>(p.2,p.1):=by
       have h1:=po q 0 x9;have h4:q.map (·.1)=List.range' 0 (M q):=by
        have:=congrArg (List.map (·.1)) h1;rw[hZ]at this;rw[this];have e2:((λx:Nat×R=>x.1)∘λp:R×Nat=>(p.2,p.1))=Prod.snd:=rfl;rw[e2,List.zipIdx_map_snd];simp
       have a1:M q=M vps:=by have:=congrArg M hi;simpa using this
       rw[hi,a1]at h4;apply List.ext_getElem
       .simp
       .intro k hk i1;have:(vps.map (·.1))[k]?=(List.range' 0 (M vps))[k]?:=by rw[h4]
        grind
      have y:M vps=l:=by rw[<-x7];have:=congrArg M hi;simpa using this.symm
      have⟨r,e1,e2,e3,e4⟩:=vR e.size (vps.map (·.2)) 0 (((Array.range (l*e.size)).map (z.cells[· %z.cells.size]!)).toList)
       (λv hv=>(h2 v hv).1) (by simp[y])
      rw[<-D]at e1;have x8:l*e.size≠0:=by
       have:l≠0:=λh0=>a4 h0
       exact Nat.mul_ne_zero this S
      have x3:¬(2^24<l*e.size):=by omega
      have a2:M d=l:=by rw[h1];simpa using y
      refine⟨.slice (Y ⟨w.heap.size,0,none⟩) l l,w.alloc (.cells r.toArray m),_,?_,Ef.allocFrz x0 a0 (λj F=>x4.ob j (h9 j F)) ?_,λid o a=>h9 id (dD a).1⟩
      .simp only[Ou]at e1;simp only[Instr.buildSlice,cw,bm hu,cK C,ol];simp only[gt_iff_lt,x3,zr,x8,ry,ol,cw,zeroValue,typeInfo,run_program,u,hz,e1,newRow,run_newObj];rfl
      .rw[x2];have hk:∀b',b'<w.heap.size->¬U' b'->(w.alloc (.cells r.toArray m)).heap[b']?=w.heap[b']?:=λb' hb _=>bH w _ b' hb
       have hs:w.heap.size<=(w.alloc (.cells r.toArray m)).heap.size:=by rw[ba];omega
       suffices h6:Rv (w.alloc (.cells r.toArray m)) U' ρ (.sl e d) (.slice (Y ⟨w.heap.size,0,none⟩) (M d) l) by rw[a2]at h6;exact h6
       refine .sl e d w.heap.size 0 l (λg j=>(r[g*e.size+j]?).getD undef) S (by unfold af;grind) (by rw[ba];omega)
        (λa=>by have:=x0 _ (h5 _ a);omega) (λi' j h7 F=>?_) (λi' h7 j c hc=>?_)
       .have a3:i'*e.size+j<M r:=by
         rw[e2];have:(i'+1)*e.size<=l*e.size:=gu _ S;rw[jG]at this;simp;omega
        unfold World.cell?;rw[ce];simp[zQ a3]
       .have H:i'<(vps.map (·.2)).length:=by rw[<-h1];exact h7
        have⟨v,a6,a7⟩:=h3 i' h7 H j c hc;have F:j<e.size:=by have:=(cQ.1 hc).1;rwa [zS]at this
        have:=e4 i' H j F;rw[dz]at this;rw[this,a6];exact a7.mono hs hk (λ_ _ a=>a) (λ_ _ a=>a)
     .simp at a
    .simp at a
   .simp at a
 .simp at a
end
section
variable {P:Program} {w:World} {U:Nat->Prop} {ρ:Nat->Option Value}
def SlR(w:World)(U:Nat->Prop)(ρ:Nat->Option Value)(e:Sh)(l:List (N e))(v:Value):Prop:=
 ∃a h,v=.slice a (M l) h/\M l<=h/\M l<=af/\(l=[]\/∃b o,a=Y ⟨b,o,none⟩/\
  ∀i(d:i<M l)(j:Nat)(c:R),(zq e l[i])[j]?=Y c->∃x,w.cell? ⟨b,o+i*e.size+j,none⟩=Y x/\Rv w U ρ c x)
variable {e:Sh}{v:Value}
theorem Ac{l:List (N e)}(h:Rv w U ρ (.sl e l) v):SlR w U ρ e l v:=by
 cases h with
 |sl0 _ a c=>exact⟨a,c,rfl,sw,sw,.inl rfl⟩
 | sl _ _ b o c d n p t s x q=>
  refine⟨_,c,rfl,n,p,.inr ⟨b,o,rfl,λi k j m g=>⟨d i j,x i j k ?_,q i k j m g⟩⟩⟩;grind[zS]
theorem Lv{id:Nat}{l:List (N e)}(h:aW w U ρ id (.vec e l))(A:ρ id=Y v):SlR w U ρ e l v:=by
 have⟨a,c,g,u,q⟩:=h;rw[A]at g;cases g;rcases q with⟨rfl,rfl⟩|⟨b,d,n,rfl,D,C,s,z,m,y,_⟩
 .exact⟨a,0,rfl,sw,sw,.inl rfl⟩
 .refine⟨_,c,rfl,m,u,.inr ⟨b,0,rfl,λi t j o k=>?_⟩⟩;have⟨x,g,p⟩:=y i t j o k;exact⟨x,by simp[World.cell?,s,g],p⟩
variable {h:Nat->AO}{c:R}
theorem Rd{l:List (N e)}(x:oX h e c=Y l)(g:Rv w U ρ c v)
  (d:∀id∈c.ids,aW w U ρ id (h id)):SlR w U ρ e l v:=by
 cases c<;>simp[oX]at x
 case nils=>
  subst x;cases g;exact⟨_,0,rfl,sw,sw,.inl rfl⟩
 case sl j n=>
  obtain⟨rfl,x⟩:=x;subst x;exact Ac g
 case vec id=>
  cases g with
  |vec _ _ o _=>
  have m:=d id (by simp[AV.ids]);cases a:h id with
  |dead=>simp[a]at x
  |box p=>simp[a]at x
  |fmap k=>simp[a]at x
  |vmap u k=>simp[a]at x
  |gmap e k=>simp[a]at x
  | frz j n=>
   simp[a]at x;obtain⟨rfl,x⟩:=x;subst x;rw[a]at m;have⟨q,b,i⟩:=m;rw[o]at b;cases b;exact Ac i
  | vec j n=>
   grind[Lv]
def ed(size n:Nat)(vals:Nat->Nat->Value):List Value:=(List.range (n*size)).map λq=>vals (q/size) (q%size)
variable {n:Nat}{x:Nat->Nat->Value}
theorem ww{h:Nat}{o p:Nat}(e:o<h)(b:p<n):(ed n h x)[o*n+p]?=Y (x o p):=by
 have a:o*n+p<h*n:=by
  have:=gu n (D1 e);rw[jG]at this;omega
 have c:(o*n+p)/n=o:=by
  rw[oV,Nat.add_mul_div_right _ _ S,Nat.div_eq_of_lt b];omega
 have d:(o*n+p)%n=p:=by
  rw[oV,Nat.add_mul_mod_self_right,Nat.mod_eq_of_lt b]
 simp[ed,ly a,c,d]
theorem fR{size:Nat}{vals:Nat->Nat->Value}:(ed size n vals).length=n*size:=by simp[ed]
theorem SlR.cells{l:List (N e)}(h:SlR w U ρ e l v)(d:0<e.size):∃(a:Option Addr)(cap:Nat)(vals:Nat->Nat->Value),v=.slice a (M l) cap/\M l<=cap/\
  (∀i(p:i<M l)(j:Nat)(c:R),(zq e l[i])[j]?=Y c->Rv w U ρ c (vals i j))/\(∀x∈ed e.size (M l) vals,x.oneCell'=true)/\
  (a=none->l=[])/\∀u,a=Y u->∀(q:Nat) x,(ed e.size (M l) vals)[q]?=Y x->w.cell? (u.add q)=Y x:=by
 obtain⟨a,cap,rfl,m,H,h⟩:=h;rcases h with rfl|⟨b,o,rfl,G⟩
 .simp_all[ed]
 .have n:∀i j,i<M l->j<e.size->∃x,w.cell? ⟨b,o+i*e.size+j,none⟩=Y x/\x.oneCell'=true/\∀(p:i<M l) c,(zq e l[i])[j]?=Y c->Rv w U ρ c x:=by
   intro i j p F;have g:(zq e l[i])[j]?=Y ((zq e l[i])[j]'(by rw[zS];exact F)):=zQ _;have⟨x,y,s⟩:=G i p j _ g;exact⟨x,y,eT e l[i] j _ x g s,λp c m=>by rw[g]at m;cases m;exact s⟩
  let vals:Nat->Nat->Value:=λi j=>(w.cell? ⟨b,o+i*e.size+j,none⟩).getD undef
  refine⟨_,cap,vals,rfl,m,λi p j c m=>?_,λx E=>?_,(λh=>by cases h),λu z q x t=>?_⟩
  .grind
  .simp only[ed,aN,jF]at E;obtain⟨q,t,rfl⟩:=E;have⟨x,y,s,_⟩:=n (q/e.size) (q%e.size) ((Nat.div_lt_iff_lt_mul d).2 t) (Nat.mod_lt _ d);grind
  .cases z;simp only[ed,b8,dG]at t;obtain⟨k,C,rfl⟩:=t;have⟨A,D⟩:=qy C;subst D;have⟨x,y,s,_⟩:=n (k/e.size) (k%e.size) ((Nat.div_lt_iff_lt_mul d).2 A) (Nat.mod_lt _ d);rw[Addr.add_none];have:o+k=o+k/e.size*e.size+k%e.size:=by have:=Nat.div_add_mod k e.size;rw[Nat.mul_comm]at this;omega
   grind
theorem Ef.newVec{wr:List (Nat×AO)}(m:∀id o,(id,o)∈wr->o=.dead){l:List (N e)}{g:World}{i:Nat->Prop}(u:ρ n=none)(d:v.oneCell'=true)(c:jt w g)
  (a:∀b,b<w.heap.size->(∀id o,(id,o)∈wr->¬zY ρ id (h id) b)->g.heap[b]?=w.heap[b]?) (k:∀b,i b->b<g.heap.size) (p:∀b,b<w.heap.size->(i b↔U b))
  (s:aW g i (iM ρ n v) n (.vec e l)) (t:∀b,bz v=Y b->w.heap.size<=b\/∃id o,(id,o)∈wr/\zY ρ id (h id) b):
  Ef n h {val:=.vec n,wr:=wr,nw:=[.vec e l]} w U ρ v g i (iM ρ n v):=by
 have q:∀id o,(n<=id/\([AO.vec e l]:List AO)[id-n]?=Y o)->id=n:=by
  rintro id o ⟨h1,h2⟩;have:=(cQ.1 h2).1;simp at this;omega
 refine⟨c,.vec n v (by simp[iM]) d,?_,?_,?_,fa u,a,k,λb j x=>(p b j).1 x,λb j x _=>(p b j).2 x,?_,?_⟩
 .intro id o x;rw[m id o x];trivial
 .grind
 .intro id x;unfold iM;rw[zh (by simp at x;omega)]
 .grind[zY,AO.owns,iM]
 grind[zY,AO.owns]
variable {f g:Nat->Nat->Value}
theorem SX{x o:Nat}{p j:Nat}(b:j<n)(c:p<x+o):
  (ed n x f++ed n o g)[p*n+j]?=Y (ite (p<x) (f p j) (g (p-x) j)):=by
 by_cases h:p<x
 .grind[List.getElem?_append_left,ww]
 .rw[zh h];have a:x*n<=p*n:=gu _ S;rw[nf (by rw[fR];omega),fR];rw[show p*n+j-x*n=(p-x)*n+j by rw[Nat.sub_mul];omega];exact ww S b
variable {t a:TypeId}
theorem Src.ofSlR{l:List (N e)}{b:Option Addr}{cap:Nat}(j:P.underlying t=Y (.slice a))
  (d:∀h∈ed e.size (M l) x,h.oneCell'=true) (i:b=none->l=[]) (g:∀c,b=Y c->∀(q:Nat) h,(ed e.size (M l) x)[q]?=Y h->w.cell? (c.add q)=Y h):
  Src P e.size t (.slice b (M l) cap) (M l) (ed e.size (M l) x) w:=by
 cases b with
 | none=>
  grind[ed,Src.ofNil]
 |some c=>grind[Src.ofSlice,fR]
theorem Df(z:Array Value)(n:Nat):(Builtin.zeroCells z n).size=n*z.size:=by simp[Builtin.zeroCells]
theorem Fb{l0 l':List (N e)}{elem:TypeId}{z:Value}{newCap:Nat}(A:ρ n=none)
  (s:z.cells.size=e.size) (x:M l0+M l'<=newCap) (k:0<newCap) (u:M l0+M l'<=1073741824)
  (E:∀i(p:i<M l0)(j:Nat)(c:R),(zq e l0[i])[j]?=Y c->Rv w U ρ c (f i j)) (v:∀i(p:i<M l')(j:Nat)(c:R),(zq e l'[i])[j]?=Y c->Rv w U ρ c (g i j)) (l:e=.int .u8->elem=Yl):
  aW (w.drew.alloc (.cells ((ed e.size (M l0) f++ed e.size (M l') g).toArray++Builtin.zeroCells z.cells (newCap-(M l0+M l'))) elem))
   (λb=>U b\/b=w.heap.size) (iM ρ n (.slice (Y ⟨w.heap.size,0,none⟩) (M l0+M l') newCap)) n (.vec e (l0++l')):=by
 generalize d:Obj.cells ((ed e.size (M l0) f++ed e.size (M l') g).toArray++Builtin.zeroCells z.cells (newCap-(M l0+M l'))) elem=o;have y:∀b,b<w.heap.size->¬U b->(w.drew.alloc o).heap[b]?=w.heap[b]?:=λb t _=>bH w.drew _ b t
 have D:∀b,b<w.heap.size->(U b\/b=w.heap.size)->U b:=λb t h=>h.elim id (λe=>by omega)
 have C:w.heap.size<=(w.drew.alloc o).heap.size:=by rw[ba];exact Nat.le_succ _
 have a:(w.drew.alloc o).heap[w.heap.size]?=Y o:=ce w.drew o;refine⟨_,newCap,by simp[iM],by simp;unfold af;omega,.inr ⟨w.heap.size,elem,_,rfl,k,.inr rfl,by rw[a,<-d],?_,by simpa using x,?_,l⟩⟩
 .simp only[Array.size_append,List.size_toArray,cL,fR,Df,s];rw[<-oN,<-oN];congr 1;omega
 .intro i p j c m;simp only[cL]at p;have F:j<e.size:=by have:=(cQ.1 m).1;rwa [zS]at this
  refine⟨if i<M l0 then f i j else g (i-M l0) j,?_,?_⟩
  .grind[Array.getElem?_append_left,SX]
  .by_cases q:i<M l0
   .grind[Rv.mono,fa]
   .rw[zh q];rw[List.getElem_append_right S]at m;exact(v _ _ j c m).mono C y D (fa A)
theorem jt.drew(w:World):jt w w.drew:=⟨zK _,rfl,rfl,rfl⟩
variable {E:bS}{p t' k:TypeId}{m:R}{b:Value}{i:List Nat}
theorem tg(hE:EnvOk E){f:fb}
  (d:(ij E h n t c m).val=Y f) (hu:E.P.underlying p=Y (.slice t)) (hk:(∃a9,E.P.underlying t'=Y (.slice a9))\/E.P.underlying t'=Y .string)
  (hb:Rv w U ρ c v) (i5:∀e l,oX h e m=Y l->0<e.size->∃g:Nat->Nat->Value,(∀A(hi:A<M l)(j:Nat)(s:R),(zq e l[A])[j]?=Y s->Rv w U ρ s (g A j))/\Src E.P e.size t' b (M l) (ed e.size (M l) g) w)
  (x9:∀y,U y->y<w.heap.size) (j2:uK w U ρ h i) (i3:∀id∈c.ids,id∈i) (hn:ρ n=none):
  ∃u w' U' ρ',(Builtin.append_ #[p,t'] k #[v,b]).run E.P w=.ok u w'/\Ef n h f w U ρ u w' U' ρ'/\∀id o,(id,o)∈f.wr->id∈i:=by
 have x5:∀(a:Option Addr)(A:TypeInfo),E.P.info? t=Y A->∀x,(Builtin.lenOf x).run E.P w=.ok 0 w->(Builtin.firstCells A.size 0 x).run E.P w=.ok #[] w->
   (Builtin.append_ #[p,t'] k #[.slice a 0 0,x]).run E.P w=.ok (.slice a 0 0) w:=by
  intro a A hi x hl hf;rcases hk with⟨a9,i6⟩|i6<;>cases a<;>simp[Builtin.append_,bm hu,bm i6,Go.sizeOf,typeInfo,hi,hl,hf,storeCells]
 unfold ij at d;split at d
 ·
  rename_i e he;have⟨A,z,H,D,h8,h5,hz,a8,a6⟩:=hE.sh t e he;split at d
  .rename_i l hl;simp at d;obtain⟨x3,rfl⟩:=d;cases hb with
   |nils a=>
   have⟨g,hg,F⟩:=i5 e l hl h8;rw[<-D]at F;by_cases h0:l=[]
   .subst h0;refine⟨.slice a 0 0,w,U,_,x5 a A H _ (F.len w) (by simpa[ed]using F.cells),Ef.newVec sw hn rfl (jt.refl w) (λ_ _ _=>rfl) x9 (λ_ _=>Iff.rfl) ?_ ?_,sw⟩
    .exact⟨a,0,by simp[iM],sw,.inl ⟨rfl,rfl⟩⟩
    .intro y hb;cases a<;>simp[bz]at hb
   .have j4:0<M l:=List.length_pos_iff.2 h0;have x4:(Builtin.firstCells A.size 0 (.slice a 0 0)).run E.P w.drew=.ok ([]:List Value).toArray w.drew:=by
     cases a<;>simp[Builtin.firstCells,loadCells,loadCellsFrom]
    have h4:=run_append_grow_src (P:=E.P) w p t' k t A z hu H hz a 0 0 [] x4 b (M l) _ F S S
     (growslice_fits S (by have:(0+M l)*A.bytes<=1073741824*131072:=D4 S h5;omega))
    have x7:=grownCap_ge w (0+M l) 0 t
    have h7:=Fb (w:=w) (U:=U) (ρ:=ρ) (n:=n) (e:=e) (l0:=[]) (l':=l) (elem:=t) (z:=z) (newCap:=grownCap w (0+M l) 0 t) (f:=λ_ _=>undef) (g:=g) hn
     (by rw[a8,D]) (by simpa using x7) S (by simpa using x3) sw hg a6
    have e0:ed e.size ([]:List (N e)).length (λ_ _=>undef)=[]:=by simp[ed]
    rw[e0]at h7;simp only[cE]at h7;rw[D]at h4;refine⟨_,_,_,_,h4,Ef.newVec sw hn rfl ((jt.drew w).trans (jt.alloc w.drew _ _)) (λy hb _=>bH w.drew _ y hb) ?_ ?_ h7 ?_,sw⟩
    .intro y hb;rw[ba];rcases hb with hb|hb
     .have:=x9 y hb;exact Nat.lt_succ_of_lt this
     .rw[hb];exact Nat.lt_succ_self _
    .grind
    grind[bz]
  .simp at d
 ·
  rename_i e id he;have⟨A,z,H,D,h8,h5,hz,a8,a6⟩:=hE.sh t e he;split at d
  .rename_i e' l0 i2;split at d
   .rename_i j0;subst j0;split at d
    .rename_i l' hl;simp at d;obtain⟨x3,rfl⟩:=d;have x2:=i3 id (by simp[AV.ids]);cases hb with
     |vec _ _ hv k5=>
     have a5:=j2.ob id x2;rw[i2]at a5;have⟨g,hg,F⟩:=i5 e' l' hl h8;obtain⟨a0,G,f0,rfl,j8,j1,j5,x8,x6⟩:=(Lv a5 hv).cells h8;have a7:∀h9 o,(h9,o)∈[(id,AO.dead)]->o=.dead:=by intro h9 o d;simp at d;exact d.2
     have x1:∀h9 o,(h9,o)∈[(id,AO.dead)]->h9∈i:=by intro h9 o d;simp at d;rw[d.1];exact x2
     by_cases h6:M l0+M l'<=G
     ·
      have⟨a1,c1,a2,k2,h3⟩:=a5;rw[hv]at a2;cases a2;rcases h3 with⟨rfl,rfl⟩|⟨y,C,i7,rfl,hc,i0,a3,j7,j9,j6,i8⟩
      .have j3:l'=[]:=by simpa using h6
       subst j3;rw[<-D]at F;refine⟨.slice a0 0 0,w,U,_,x5 a0 A H _ (F.len w) (by simpa[ed]using F.cells),Ef.newVec a7 hn rfl (jt.refl w) (λ_ _ _=>rfl) x9 (λ_ _=>Iff.rfl) ?_ ?_,x1⟩
       .exact⟨a0,0,by simp[iM],sw,.inl ⟨sw,rfl⟩⟩
       .intro y hb;cases a0<;>simp[bz]at hb
      .have k3:=fR (size:=e'.size) (n:=M l') (vals:=g);have i4:(M l0+M l')*e'.size<=G*e'.size:=gu _ h6;rw[oN]at i4
       have h4:=run_append_room_src (P:=E.P) w p t' k t A hu H y 0 (M l0) G b (M l') _ (by rw[D];exact F) h6
        (λj hj=>by
         have:0+M l0*A.size+j<i7.size:=by rw[D];omega
         simp only[World.cell?,a3,Option.isSome_none,zO,zr,oP this,iH])
        (λj hj=>by simp[World.frozen?,a3])
       rw[D,dz]at h4;have k1:zY ρ id (h id) y:=⟨by rw[i2];rfl,_,hv,by simp[bz];omega⟩;have hk:∀b',b'<w.heap.size->¬U b'->(w.setCells y (M l0*e'.size) (ed e'.size (M l') g)).heap[b']?=w.heap[b']?:=λb' _ i9=>bZ _ _ _ _ _ (λe=>i9 (e▸i0))
       have hs:w.heap.size<=(w.setCells y (M l0*e'.size) (ed e'.size (M l') g)).heap.size:=by rw[jc];exact zK _
       refine⟨_,_,U,_,h4,Ef.newVec a7 hn rfl (jt.setCells _ w y _) ?_ ?_ (λ_ _=>Iff.rfl) ?_ ?_,x1⟩
       .grind[bZ]
       .grind
       .refine⟨Y ⟨y,0,none⟩,G,by simp[iM],by simp;unfold af;omega,.inr ⟨y,C,_,rfl,hc,i0,ja _ w y _ a3,by simp[gV,j7],by simpa using h6,?_,i8⟩⟩;intro i' i1 j s x0;simp only[cL]at i1;have hj:j<e'.size:=by have:=(cQ.1 x0).1;rwa [zS]at this
        have hq:i'*e'.size+j<(M l0+M l')*e'.size:=by
         have:=gu e'.size (D1 i1);rw[jG]at this;omega
        rw[oN]at hq;simp only[Ot];rw[lc];by_cases a4:i'<M l0
        .have k4:i'*e'.size+j<M l0*e'.size:=by
          have:=gu e'.size (D1 a4);rw[jG]at this;omega
         rw[zh S];rw[List.getElem_append_left a4]at x0;have⟨x,h1,h2⟩:=j6 i' a4 j s x0;exact⟨x,by simpa using h1,h2.mono hs hk (λ_ _ d=>d) (fa hn)⟩
        .have x7:M l0*e'.size<=i'*e'.size:=gu _ S;rw[zf (by grind)];rw[List.getElem_append_right S]at x0;refine⟨g (i'-M l0) j,?_,(hg _ _ j s x0).mono hs hk (λ_ _ d=>d) (fa hn)⟩;rw[show i'*e'.size+j-M l0*e'.size=(i'-M l0)*e'.size+j by rw[Nat.sub_mul];omega];exact ww S hj
       grind[bz]
     ·
      have x4:(Builtin.firstCells A.size (M l0) (.slice a0 (M l0) G)).run E.P w.drew=.ok (ed e'.size (M l0) f0).toArray w.drew:=by
       cases a0 with
       | none=>
        have:=x8 rfl;subst this;simp[Builtin.firstCells,ed]
       | some ad=>
        exact run_firstCells_some w.drew A.size (M l0) ad (M l0) G _ (by rw[fR,D]) (λq x hq=>by simpa using x6 ad rfl q x hq)
      have h4:=run_append_grow_src (P:=E.P) w p t' k t A z hu H hz a0 (M l0) G _ x4 b (M l') _ (by rw[D];exact F) S S
       (growslice_fits S (by have:(M l0+M l')*A.bytes<=1073741824*131072:=D4 S h5;omega))
      have x7:=grownCap_ge w (M l0+M l') G t
      have h7:=Fb (w:=w) (U:=U) (ρ:=ρ) (n:=n) (e:=e') (l0:=l0) (l':=l') (elem:=t) (z:=z) (newCap:=grownCap w (M l0+M l') G t) (f:=f0) (g:=g) hn
       (by rw[a8,D]) x7 S x3 j1 hg a6
      refine⟨_,_,_,_,h4,Ef.newVec a7 hn rfl ((jt.drew w).trans (jt.alloc w.drew _ _)) (λy hb _=>bH w.drew _ y hb) ?_ ?_ h7 ?_,x1⟩
      .intro y hb;rw[ba];rcases hb with hb|hb
       .have:=x9 y hb;exact Nat.lt_succ_of_lt this
       .rw[hb];exact Nat.lt_succ_self _
      .grind
      grind[bz]
    .simp at d
   .simp at d
  .simp at d
 .simp at d
variable {ty:TypeId}
theorem xp(G:EnvOk E){vb vx:Value}{f:fb}{fp:List Nat}
  (x:(ij E h n a c m).val=Y f) (hu:E.P.underlying t=Y (.slice a)) (z:E.P.underlying t'=Y (.slice k))
  (H:Rv w U ρ c vb) (hx:Rv w U ρ m vx) (C:∀b,U b->b<w.heap.size) (p:uK w U ρ h fp) (q:∀id∈c.ids,id∈fp) (s:∀id∈m.ids,id∈fp) (hn:ρ n=none):
  ∃v D F ρ',(Builtin.append_ #[t,t'] ty #[vb,vx]).run E.P w=.ok v D/\Ef n h f w U ρ v D F ρ'/\∀id o,(id,o)∈f.wr->id∈fp:=by refine tg G x hu (.inl ⟨_,z⟩) H (λe l hl y=>?_) C p q hn;obtain⟨a',j,g,rfl,h0,hg,u,i,d⟩:=(Rd hl hx (λid A=>p.ob id (s id A))).cells y;exact⟨g,hg,Src.ofSlR (P:=E.P) (w:=w) (e:=e) (cap:=j) z u i d⟩
theorem em(s:zD):(zR s).length=M s:=bR _
theorem R8(hE:EnvOk E){f:fb}
  (x:(Gz E h n p c m).val=Y f) (hu:E.P.underlying t=Y (.slice p)) (y:E.P.underlying t'=Y .string)
  (hb:Rv w U ρ c v) (hx:Rv w U ρ m b) (D:∀g,U g->g<w.heap.size) (C:uK w U ρ h i) (u:∀id∈c.ids,id∈i) (hn:ρ n=none):
  ∃d H U' ρ',(Builtin.append_ #[t,t'] ty #[v,b]).run E.P w=.ok d H/\Ef n h f w U ρ d H U' ρ'/\∀id o,(id,o)∈f.wr->id∈i:=by
 unfold Gz at x;split at x
 .rename_i s _;cases hx;refine tg hE x hu (.inr y) hb (λe l z F=>?_) D C u hn;simp only[oX]at z;split at z
  .rename_i he;subst he;obtain rfl:zR s=l:=Option.some.inj z;refine⟨λk _=>.int .u8 ((zR s).getD k 0),λk q j a A=>?_,?_⟩
   .match j,A with
    | 0,A=>
     cases A;show Rv w U ρ (.int .u8 (zR s)[k]) (.int .u8 ((zR s).getD k 0));rw[bf,zQ q];refine .int _ _ ?_;simp only[zR,List.getElem_map];have:=(s[k]'(by rw[<-em];exact q)).toNat_lt;constructor<;>simp[IntKind.min,IntKind.max,IntKind.signed,IntKind.bits]<;>omega
   .have G:=Src.ofString (P:=E.P) w y ⟨s.toArray⟩;have e1:(⟨s.toArray⟩:ByteArray).size=(zR s).length:=by rw[em];rfl
    have e2:byteCells ⟨s.toArray⟩=ed (Sh.int .u8).size (zR s).length (λk _=>.int .u8 ((zR s).getD k 0)):=by
     refine kE λk=>?_
     simp only[byteCells,ed,Sh.size,Nat.mul_one,Nat.div_one,b8];by_cases q:k<M s
     .rw[ly (by rw[em];exact q)];simp[zR,q]
     .rw[eA (by simpa using q),eA (by simpa[em]using q)];rfl
    rw[e1,e2]at G;exact G
  .cases z
 .simp at x
end
end Cad
