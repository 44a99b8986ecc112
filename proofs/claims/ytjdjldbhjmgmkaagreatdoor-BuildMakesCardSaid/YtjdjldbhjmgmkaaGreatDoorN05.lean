/- Regions whose order is drawn. -/
import Derived.Test.YtjdjldbhjmgmkaaGreatDoorN04
namespace Cad
open Go
open List renaming length->Io,length->N
open Bool renaming false->Q4,true->Q3,true->Z,false->M
open Option renaming none->Q2,some->Q1,some->Y
open Tr (chk br)
open AV (nils agg tup ptr kb str sl)
open AV renaming sl->O
inductive Anc (ops:List Oper):Nat->Nat->Prop
 |edge {j:Nat} {o:Oper} {e:Edge} (ho:ops[j]?=Y o) (he:e∈o.after.toList) (hb:Region.binds .any e=Z):Anc ops e.on j
 |step {i j:Nat} {o:Oper} {e:Edge} (ho:ops[j]?=Y o) (he:e∈o.after.toList) (hb:Region.binds .any e=Z) (h:Anc ops i e.on):Anc ops i j
theorem KA{ops:List Oper}:∀(r:List Oper)(x:List (List Nat)),r=ops.drop (N x)->(∀j i,i∈x.getD j []->Anc ops i j)->∀j i,i∈(zd6 r x).getD j []->Anc ops i j
 |[],x,_,h=>h
 | o :: r,x,hr,h=>by
  simp only[zd6];have c:ops[N x]?=Y o:=by
   have:=congrArg (·[0]?) hr;simpa[D2]using this.symm
  refine KA r _ (by
   have:=congrArg List.tail hr;simpa using this) ?_
  intro j i b;rw[bD]at b;by_cases l:j<N x
  .grind
  .by_cases d:j=N x
   .subst d;rw[pE (zR _)]at b;simp only[Nat.sub_self,List.getElem?_cons_zero,bK,BI]at b;have⟨e,k,b⟩:=b;split at b
    .rename_i g;rcases ce.1 b with rfl|b
     .exact .edge c k g
     .exact .step c k g (h _ _ b)
    .simp at b
   grind
section
variable {E:cy} {C:eU} {ops:List Oper} {S:Nat->RS} {R:Nat->Ih}
structure rq (E:cy) (C:eU) (ops:List Oper) (S:Nat->RS) (R:Nat->Ih) (L:Nat->Prop) (a:Act) (w:World) (U:Nat->Prop) (ρ:Nat->Option Value) (hpD:Nat->AO):Prop where
 cl:∀(j:Nat)(o:Oper)(e:Edge),ops[j]?=Y o->L j->e∈o.after.toList->Region.binds .any e=Z->L e.on
 W:Wd E.gl C w U
 H:fC C w U ρ hpD
 tl:a.tmps.size=(S 0).tmps.length
 tm:∀(s k:Nat),k<=N ops->(∀(j:Nat)(o:Oper),ops[j]?=Y o->o.dst=Y s->(L j↔j<k))->Rv w U ρ ((S k).tmps.getD s .any) (a.tmps.getD s undef)
 hp:∀(id k:Nat),k<=N ops->(∀j,j<N ops->dZ (R j) id=Z->(L j↔j<k))->(S k).hp id=hpD id
 rn:∀id,(S 0).heap.length<=id->(∀j,j<N ops->L j->ii (R j) id=M)->ρ id=Q2
 df:a.defers=[]
 r0:∀id v,C.ρ0 id=Y v->ρ id=Y v
variable {o:Oper}{c e:RS}{r:Ih}{i:Nat}
theorem CM.slots(h:CM E ops o c e r)(x:o.dst≠Y i):e.tmps.getD i .any=c.tmps.getD i .any:=by have⟨v,b⟩:=h.tm;rw[b,tI x]
theorem CM.tlen(h:CM E ops o c e r):e.tmps.length=c.tmps.length:=by have⟨v,x⟩:=h.tm;rw[x];cases o.dst<;>simp[ng]
theorem CM.wrfp(h:CM E ops o c e r):∀id∈r.wr,id∈r.fp:=by
 rcases h.way with⟨k,f,_,_,_,_,_,_,x,rfl⟩|⟨_,_,_,rfl⟩
 .grind
 .simp
variable {id:Nat}
theorem CM.news(h:CM E ops o c e r)(x:ii r id=Z):c.heap.length<=id/\id<e.heap.length:=by
 rcases h.way with⟨k,f,_,_,_,_,_,b,d,rfl⟩|⟨_,_,_,rfl⟩
 .simp[ii]at x;rw[b];simp[cL];omega
 .simp[ii]at x
theorem CM.objs(h:CM E ops o c e r)(g:dZ r id=M):e.hp id=c.hp id:=by
 rcases h.way with⟨m,f,_,_,_,_,_,x,l,rfl⟩|⟨_,_,x,rfl⟩
 .simp[dZ,ii]at g;have⟨i,j⟩:=g;simp only[RS.hp,x];by_cases b:id<c.heap.length
  .rw[bD,rz (by rw[cL];exact b),<-bD];exact uy f.wr c.heap id (λ⟨k,d⟩=>i k d)
  .rw[bD,bD,fa (by simp[cL];have:=j ow;omega),fa ow]
 .simp only[RS.hp,x]
theorem om(c:∀(i:Nat)(o:Oper),ops[i]?=Y o->CM E ops o (S i) (S (i+1)) (R i)){s:Nat}:∀(d i:Nat),i+d<=N ops->(∀(j:Nat)(o:Oper),ops[j]?=Y o->o.dst=Y s->i<=j->j<i+d->False)->
  (S (i+d)).tmps.getD s .any=(S i).tmps.getD s .any
 |0,_,_,_=>rfl
 | d+1,i,l,h=>by
  have b:i+d<N ops:=by omega
  have x:ops[i+d]?=Y ops[i+d]:=aj b;rw[show i+(d+1)=(i+d)+1 by omega,(c _ _ x).slots (λe=>h _ _ x e ow ow)];exact om c d i ow (λj o m k g n=>h j o m k g ow)
theorem lI(c:∀(i:Nat)(o:Oper),ops[i]?=Y o->CM E ops o (S i) (S (i+1)) (R i)){id:Nat}:∀(d i:Nat),i+d<=N ops->(∀j,i<=j->j<i+d->dZ (R j) id=M)->
  (S (i+d)).hp id=(S i).hp id
 |0,_,_,_=>rfl
 | d+1,i,g,h=>by
  have b:i+d<N ops:=by omega
  have x:ops[i+d]?=Y ops[i+d]:=aj b;rw[show i+(d+1)=(i+d)+1 by omega,(c _ _ x).objs (h _ ow ow)];exact lI c d i ow (λj e k=>h j e ow)
theorem lW(b:∀(i:Nat)(o:Oper),ops[i]?=Y o->CM E ops o (S i) (S (i+1)) (R i)):∀(d i:Nat),i+d<=N ops->(S i).heap.length<=(S (i+d)).heap.length
 |0,_,_=>zR _
 | d+1,i,c=>by
  have x:i+d<N ops:=by omega
  have h:ops[i+d]?=Y ops[i+d]:=aj x;exact aV (lW b d i ow) (b _ _ h).len
theorem Hp(b:∀(i:Nat)(o:Oper),ops[i]?=Y o->CM E ops o (S i) (S (i+1)) (R i)):∀i,i<=N ops->(S i).tmps.length=(S 0).tmps.length
 |0,_=>rfl
 | i+1,h=>by
  have x:ops[i]?=Y ops[i]:=aj h;rw[(b _ _ x).tlen,Hp b i ow]
variable {j:Nat}
theorem FQ(x:∀(i:Nat)(o:Oper),ops[i]?=Y o->CM E ops o (S i) (S (i+1)) (R i))(d:i<N ops)(e:j<N ops)(b:ii (R i) id=Z)(c:ii (R j) id=Z):i=j:=by
 have gi:=(x i _ (aj d)).news b;have g:=(x j _ (aj e)).news c;rcases Nat.lt_trichotomy i j with h|h|h
 .have:=lW x (j-(i+1)) (i+1) ow;grind
 .exact h
 .have:=lW x (i-(j+1)) (j+1) ow;grind
structure Nr (ops:List Oper) (R:Nat->Ih) (i j:Nat) (a:Nat) (oi oj:Oper):Prop where
 hi:ops[i]?=Q1 oi
 hj:ops[j]?=Q1 oj
 opi:∃t x k,oi.op=.lookup t x k Q4
 opj:∃t m k,oj.op=.mapEntry t m k
 fpi:(R i).fp=[a]
 wri:(R i).wr=[]
 nwi:(R i).nw=0
 wrj:(R j).wr=[a]
 nwj:(R j).nw=0
 sl:(jr oi.dst.toList (fJ ops oj)||jr oi.dst.toList oj.dst.toList||jr (fJ ops oi) oj.dst.toList)=Q4
 lt:i<j
 oth:∀l,l<Io ops->dZ (R l) a=Q3->l<i\/l=j\/(j<l/\Anc ops i l)
structure ni (ops:List Oper) (R:Nat->Ih):Prop where
 back:∀(j:Nat)(o:Oper)(e:Edge),ops[j]?=Y o->e∈o.after.toList->Region.binds .any e=Z->e.on<j
 anc:∀(i j:Nat)(oi oj:Oper),i<j->ops[i]?=Y oi->ops[j]?=Y oj->wW ops oi oj (R i) (R j)=Z->Anc ops i j\/∃a,Nr ops R i j a oi oj
theorem R6{c:List Ih}(h:xG ops c=Z)(n:c=(List.range (N ops)).map R):ni ops R:=by
 unfold xG at h;simp only[aO,ep]at h;have⟨F,G⟩:=h;constructor
 .intro j o e y he P;have d:j<N ops:=(dF.1 y).1;have p:(o,j)∈ops.zipIdx:=by
   rw[List.mem_zipIdx_iff_getElem?];exact y
  have:=F _ p e he;simpa[P]using this
 .intro i j oi oj g u q hc;have d:j<N ops:=(dF.1 q).1;have:=G j (ry.2 d) i (ry.2 g);have s:∀k,k<N ops->c[k]?=Y (R k):=by intro k hk;rw[n];simp[BG hk]
  have li:c[i]?=Y (R i):=s i ow;have lj:c[j]?=Y (R j):=s j d;simp only[u,q,li,lj,hc,bW,Bool.false_or,oF,Ik]at this;rcases this with this|this
  .exact .inl (KA ops [] sw sw j i this)
  .unfold zb8 at this;split at this
   .rename_i t x k t' m k' a b z A B D;simp only[aO,uP,bX,ep,List.isEmpty_iff,ry]at this;have⟨⟨⟨⟨⟨t1,t2⟩,t3⟩,t4⟩,t5⟩,t6⟩:=this;subst t1;refine .inr ⟨b,u,q,⟨t,x,k,z⟩,⟨t',m,k',A⟩,B,t2,t3,D,t4,t5,g,λl v ht=>?_⟩;have:=t6 l v;rw[s l v]at this;simp only[ht,bW,Bool.false_or,oF,bc,bX,aO,Ik]at this;rcases this with(this|this)|⟨this,H⟩
    .exact .inl this
    .exact .inr (.inl this)
    .exact .inr (.inr ⟨this,KA ops [] sw sw l i H⟩)
   .cases this
theorem Nr.touch{a:Nat}{x:Oper}(h:Nr ops R i j a o x)(id:Nat):dZ (R i) id=M:=by unfold dZ ii;rw[h.wri,h.nwi];simp
theorem tF{a B:List Nat}:jr a B=Z↔∃x,x∈a/\x∈B:=by simp[jr]
variable {L:Nat->Prop} {a:Act} {w:World} {U:Nat->Prop} {ρ:Nat->Option Value} {hpD:Nat->AO}
theorem rq.anc(h:rq E C ops S R L a w U ρ hpD)(e:Anc ops i j)(d:L j):L i:=by
 induction e with
 |edge c b x=>exact h.cl _ _ _ c d b x
 |step c b x _ g=>exact g (h.cl _ _ _ c d b x)
theorem rq.ready(h:rq E C ops S R L a w U ρ hpD)(g:ops[j]?=Y o)(k:∀e∈o.after.toList,Region.binds .any e=Z->L e.on)(d:Anc ops i j):L i:=by
 cases d with
 |edge x c b=>simp_all
 |step x c b l=>rw[g]at x;cases x;exact h.anc l (k _ c b)
theorem rq.slotAt(q:ni ops R)(h:rq E C ops S R L a w U ρ hpD)(n:ops[i]?=Y o)(t:¬L i)(v:∀e∈o.after.toList,Region.binds .any e=Z->L e.on){s:Nat}
  (g:s∈fJ ops o\/o.dst=Y s):∀(j:Nat)(c:Oper),ops[j]?=Y c->c.dst=Y s->(L j↔j<i):=by
 intro j c k u;constructor
 .intro p;rcases Nat.lt_trichotomy j i with x|rfl|x
  .exact x
  .exact(t p).elim
  .exfalso;have d:(jr o.dst.toList (fJ ops c)||jr o.dst.toList c.dst.toList||jr (fJ ops o) c.dst.toList)=Z:=by
    simp only[oF,tF];rcases g with g|g
    .exact .inr ⟨s,g,by simp[u]⟩
    .simp_all
   rcases q.anc i j o c x n k (by unfold wW;simp only[d,Bool.true_or])with l|⟨b,m⟩
   .exact t (h.anc l p)
   .rw[m.sl]at d;cases d
 .intro x;have d:(jr c.dst.toList (fJ ops o)||jr c.dst.toList o.dst.toList||jr (fJ ops c) o.dst.toList)=Z:=by
   simp only[oF,tF];rcases g with g|g
   .simp_all
   .simp_all
  rcases q.anc j i c o x k n (by unfold wW;simp only[d,Bool.true_or])with l|⟨b,m⟩
  .exact h.ready n v l
  .rw[m.sl]at d;cases d
theorem rq.objAt(q:∀(i:Nat)(o:Oper),ops[i]?=Y o->CM E ops o (S i) (S (i+1)) (R i))(D:ni ops R)(h:rq E C ops S R L a w U ρ hpD)(l:ops[i]?=Y o)(H:¬L i)
  (P:∀e∈o.after.toList,Region.binds .any e=Z->L e.on)  (m:id∈(R i).fp\/dZ (R i) id=Z) (v:∀j a n,¬(Nr ops R i j a o n/\L j)):∀j,j<N ops->dZ (R j) id=Z->(L j↔j<i):=by
 intro j F y;have G:i<N ops:=(dF.1 l).1;have g:ops[j]?=Y ops[j]:=aj F;have z:=(q i o l).wrfp;have h0:=(q j _ g).wrfp;have p:id∈(R j).wr\/ii (R j) id=Z:=by simpa[dZ]using y
 have t:id∈(R i).fp\/ii (R i) id=Z:=by
  rcases m with m|m
  .exact .inl m
  .have:id∈(R i).wr\/ii (R i) id=Z:=by simpa[dZ]using m
   exact this.imp (z id) (λx=>x)
 by_cases k:i=j
 .simp_all
 have c:∀(A n:Oper),wW ops A n (R i) (R j)=Z/\wW ops n A (R j) (R i)=Z:=by
  intro A n;unfold wW;simp only[oF,tF,List.any_eq_true];rcases t with t|t<;>rcases p with p|p
  .grind
  .grind
  .grind
  .exact(k (FQ q G F t p)).elim
 constructor
 .intro B;rcases Nat.lt_or_gt_of_ne k with d|d
  .rcases D.anc i j o _ d l g (c o _).1 with s|⟨b,u⟩
   .exact(H (h.anc s B)).elim
   .exact(v _ _ _ ⟨u,B⟩).elim
  .exact d
 .intro d;rcases D.anc j i _ o d g l (c o _).2 with s|⟨b,u⟩
  .exact h.ready l P s
  .rw[u.touch id]at y;cases y
theorem XA(e:List ((Int×Int×zN)×Int))(v k:Int×Int×zN):iw (kV e v) k=iw e k:=by
 unfold kV;cases qF e v with
 |true=>rfl
 | false=>
  simp only[aJ,iw,List.find?_append];grind
theorem HN{P:Program}{b d:Nat->AO}{k:TypeId}{p i:AV}{f:gB}{x:Nat}{j:List ((Int×Int×zN)×Int)}{v:Int×Int×zN}(h:(mu P b k p i false).val=some f)(o:∀id∈p.ids,id=x)
  (l:b x=.vmap M j) (m:d x=.vmap M (kV j v)):(mu P d k p i M).val=Y f:=by
 cases p with
 | mp id=>
  have:id=x:=o id (by simp[AV.ids]);subst this;unfold mu at h|-;cases g:P.underlying k with
  |none=>simp[g]at h
  | some u=>
   cases u with
   | map q t=>
    simp only[g]at h|-;cases e:P.underlying q with
    |none=>simp[e]at h
    | some s=>
     cases s with
     |string=>grind
     | struct y=>
      simp only[e]at h|-;split at h
      .rename_i n;rw[zf n];cases c:S0 i with
       |none=>simp[c]at h
       | some z=>
        simp only[c,l,zA,zm]at h;simp only[m,zA,zm,XA];exact h
      .simp at h
     |_=>simp[e]at h
   |_=>simp[g]at h
 | _=>
  exfalso;unfold mu at h;split at h
  .split at h
   .split at h<;>simp_all
   .simp_all
   .simp at h
  .simp at h
end
section
variable {E:cy} {C:eU} {ops:List Oper} {S:Nat->RS} {R:Nat->Ih} {L:Nat->Prop} {a:Act} {w:World} {U:Nat->Prop} {ρ:Nat->Option Value} {hpD:Nat->AO}
variable {a:Act}{g:Option Tmp}{v:Value}{i:Nat}
theorem zbp(h:g≠Y i):(a.put g v).tmps.getD i undef=a.tmps.getD i undef:=by
 cases g with
 |none=>rfl
 | some g=>
  simp only[Act.put,qX];simp_all
theorem zbq:(a.put g v).tmps.size=a.tmps.size:=by cases g<;>simp[Act.put]
theorem Sb:(a.put g v).defers=a.defers:=by cases g<;>rfl
theorem Ph{p:AV}{tmps:List AV}(b:N tmps=a.tmps.size)(h:Rv w U ρ p v):Rv w U ρ ((ng tmps (Y i) p).getD i .any) ((a.put (Y i) v).tmps.getD i undef):=by
 simp only[ng,Act.put,bD,qX];by_cases x:i<N tmps
 .simp_all
 .rw[nr,zf rfl,zh x];exact .any _
variable {o:Oper}{b:Nat->AO}
theorem rq.next(G:∀(i:Nat)(o:Oper),ops[i]?=Y o->CM E ops o (S i) (S (i+1)) (R i))(hO:ni ops R)(d:rq E C ops S R L a w U ρ hpD)(B:ops[i]?=Y o)(hn:¬L i)
  (hr:∀e∈o.after.toList,Region.binds .any e=Z->L e.on)  {A:World} {u:Nat->Prop} {h:Nat->Option Value}  (hW:Wd E.gl C A u) (hH:fC C A u h b)
  (h3:∀{c:AV}{x:Value},Rv w U ρ c x->Rv A u h c x) (hv:∀s,o.dst=Y s->Rv A u h ((S (i+1)).tmps.getD s .any) ((a.put o.dst v).tmps.getD s undef))
  (y:∀id,b id=if dZ (R i) id then(S (i+1)).hp id else hpD id) (h0:∀id,ii (R i) id=M->h id=ρ id) (p:∀id v,ρ id=Y v->h id=Y v):
  rq E C ops S R (λj=>L j\/j=i) (a.put o.dst v) A u h b:=by
 have hi:i<N ops:=(dF.1 B).1;refine⟨?_,hW,hH,by rw[zbq];exact d.tl,?_,?_,?_,by rw[Sb];exact d.df,λid v h'=>p id v (d.r0 id v h')⟩
 .grind[cl]
 .intro s k hk g;by_cases hd:o.dst=Y s
  .have H:i<k:=(g i o B hd).1 (.inr rfl);have P:∀(j:Nat)(t:Oper),ops[j]?=Y t->t.dst=Y s->i+1<=j->j<k->False:=by
    intro j t n m D F;have l:=(g j t n m).2 F;rcases l with l|rfl
    .have:=(d.slotAt hO B hn hr (.inr hd) j t n m).1 l;omega
    .omega
   have hb:=om G (s:=s) (k-(i+1)) (i+1) ow (λj t n m D F=>P j t n m D ow);grind
  grind[zbp,tm]
 .intro id k hk g;rw[y id];by_cases z:dZ (R i) id=Z
  .rw[zf z];have H:i<k:=(g i hi z).1 (.inr rfl);have hb:=lI G (id:=id) (k-(i+1)) (i+1) ow (λj D F=>by
    by_cases q:dZ (R j) id=Z
    .exfalso;have l:=(g j ow q).2 ow;rcases l with l|rfl
     .have:=(d.objAt G hO B hn hr (.inr z) (λ_ _ _ hh=>by rw[hh.1.touch id]at z;cases z) j ow q).1 l;omega
     .omega
    .simpa using q)
   grind
  grind[hp]
 grind[rn]
theorem K1{P:Program}{k:TypeId}{p c:AV}{f:gB}{x:Nat}(h:(xh P b k p c).val=Y f)(d:f.wr.map (·.1)=[x]):
  ∃e v,b x=.vmap M e/\f.wr=[(x,.vmap M (kV e v))]/\f.nw=[]:=by
 unfold xh at h;split at h
 .grind[Tr.val]
 .simp at h
theorem rq.objX(P:∀(i:Nat)(o:Oper),ops[i]?=Y o->CM E ops o (S i) (S (i+1)) (R i))(hO:ni ops R)(h:rq E C ops S R L a w U ρ hpD)(D:ops[i]?=Y o)(hn:¬L i)
  (hr:∀e∈o.after.toList,Region.binds .any e=Z->L e.on) {F:List (Nat×Bool)} {f:gB} {j:Nat} (z:(rM E (yY E (S i).tmps F) (S i).hp j o).val=Y f) (n:(R i).fp=xn (S i).hp (yY E (S i).tmps F) o)
  (h7:Oo (S i).hp (yY E (S i).tmps F) o=Z):∃u:Nat->AO,(rM E (yY E (S i).tmps F) u j o).val=Y f/\(∀id,id∈(R i).fp\/dZ (R i) id=Z->u id=hpD id)/\
   (vK o.op=Z->∀id∈(R i).fp,∀x∈(u id).ids,x∈(R i).fp):=by
 have hi:i<N ops:=(dF.1 D).1;have⟨h9,h6⟩:=Fg h7;by_cases c:∃x b A,Nr ops R i x b o A/\L x
 .have⟨x,b,A,c,x3⟩:=c;have x4:x<N ops:=(dF.1 c.hj).1;have x5:=c.lt;have q:∀l,l<N ops->dZ (R l) b=Z->(L l↔l<x+1):=by
   intro l hl y;rcases c.oth l hl y with H|rfl|⟨H,h2⟩
   .refine⟨λ_=>by omega,λ_=>?_⟩;have hc:wW ops ops[l] o (R l) (R i)=Z:=by
     unfold wW;simp only[oF,tF,List.any_eq_true];have G:b∈(R l).wr\/ii (R l) b=Z:=by simpa[dZ]using y
     have bi:b∈(R i).fp:=by rw[c.fpi];simp
     rcases G with G|G
     .grind
     .exact .inl (.inr ⟨b,bi,G⟩)
    rcases hO.anc l i _ o H (aj hl) D hc with ha|⟨b',h0⟩
    .exact h.ready D hr ha
    .rw[h0.touch b]at y;cases y
   .simp_all
   .grind[anc]
  have e1:(S (x+1)).hp b=hpD b:=h.hp b (x+1) ow q;have e2:(S x).hp b=(S i).hp b:=by
   have:=lI P (id:=b) (x-i) i ow (λl H h2=>by
    by_cases y:dZ (R l) b=Z
    .rcases c.oth l ow y with B|B|⟨B,_⟩<;>omega
    .simpa using y)
   rwa [show i+(x-i)=x by omega]at this
  have⟨t,m,k,x0⟩:=c.opj;rcases(P x A c.hj).way with⟨x6,f',_,_,g,_,_,h8,x1,p⟩|⟨_,_,_,p⟩
  .have hw:f'.wr.map (·.1)=[b]:=by rw[<-c.wrj,p]
   unfold rM at g;rw[x0]at g;simp only at g;have⟨es,v,B,h4,h5⟩:=K1 g hw;have hb:=(x1 (b,.vmap M (kV es v)) (by rw[h4];simp)).1;have e3:(S (x+1)).hp b=.vmap M (kV es v):=by
    simp only[RS.hp,h8,h4,h5,pz,rx];rw[bD,List.getElem?_set_self hb];rfl
   have⟨t2,x2,k2,d⟩:=c.opi;refine⟨(S (x+1)).hp,?_,?_,?_⟩
   .unfold rM at z|-;rw[d]at z|-;simp only at z|-;refine HN z (λid s=>?_) (by rw[<-e2];exact B) e3;have:=h9 (by rw[d];rfl) x2 (by rw[d];simp[Op.operands]) id s;rw[<-n,c.fpi]at this;simpa using this
   .grind[Nr.fpi,Nr.touch]
   grind[Nr.fpi,AO.ids]
  .have:=c.wrj;rw[p]at this;cases this
 .refine⟨(S i).hp,z,λid s=>h.hp id i ow (h.objAt P hO D hn hr s (λx a A hh=>c ⟨x,a,A,hh⟩)),?_⟩;rw[n];exact h6
theorem ze0(hE:zx E)(hS:∀(i:Nat)(o:Oper),ops[i]?=Y o->CM E ops o (S i) (S (i+1)) (R i))(hO:ni ops R)(h:rq E C ops S R L a w U ρ hpD)(ho:ops[i]?=Y o)(hn:¬L i)
  (hr:∀e∈o.after.toList,Region.binds .any e=Z->L e.on) (K:Act->World->Prop) (Q:Exit->Act->World->Prop)
  (hK:∀a' w' U' ρ' x3,rq E C ops S R (λj=>L j\/j=i) a' w' U' ρ' x3->K a' w'):wpOp E.P ops.toArray Q i K a w:=by
 have hi:i<N ops:=(dF.1 ho).1;have x1:ops.toArray[i]?=Y o:=by simpa using ho
 have h8:=hS i o ho;have u:∀s,s∈fJ ops o->Rv w U ρ ((S i).tmps.getD s .any) (a.tmps.getD s undef):=λs hs=>h.tm s i ow (h.slotAt hO ho hn hr (.inl hs))
 have h3:(S i).tmps.length=a.tmps.size:=by rw[Hp hS i ow,h.tl]
 have F:∀(j:Nat)(m:Bool) d,o.guard=Y (j,m)->(ops[j]?).bind (·.dst)=Y d->Rv w U ρ ((S i).tmps.getD d .any) (a.tmps.getD d undef):=by
  intro j m d hg A;refine u d ?_;simp only[fJ,hg,dl];exact .inr (by simp[A])
 have y:∀(j:Nat)(d:Nat)(b:Bool),(ops[j]?).bind (·.dst)=Y d->a.tmps.getD d undef=.bool b->yielded ops.toArray a.tmps j=Y b:=by
  intro j d b A hb;have B:(ops.toArray[j]?).bind (·.dst)=Y d:=by simpa using A
  rw[qX]at hb;have:a.tmps[d]?=Y (.bool b):=by
   cases ht:a.tmps[d]? with
   |none=>rw[ht]at hb;simp[undef]at hb
   |some v=>rw[ht]at hb;simp at hb;rw[hb]
  unfold yielded;rw[B];simp[this]
 have n:∀(c:AV)(x:Value)(b:Bool),Rv w U ρ c x->(c=.bool b\/c=.kb b)->x=.bool b:=by
  rintro c x b hr (rfl|rfl)<;>cases hr<;>rfl
 unfold wpOp;rw[x1];show(ite (Region.wanted o (yielded ops.toArray a.tmps)) _ _);rcases h8.way with⟨kn,f,a3,hg,hf,x0,h6,x2,a8,hR⟩|⟨⟨j,m,hg,h4⟩,h6,x2,hR⟩
 ·
  have hw:Region.wanted o (yielded ops.toArray a.tmps)=Z:=by
   unfold Region.wanted;split
   .rfl
   .grind
  rw[zf hw];refine .inl ?_;have⟨a1,_⟩:=Fg x0;have l:(R i).fp=xn (S i).hp (yY E (S i).tmps kn) o:=by rw[hR]
  have⟨i0,a0,k,h7⟩:=h.objX hS hO ho hn hr hf l x0;rw[l]at h7;have x8:∀id,ii (R i) id=Z↔(S i).heap.length<=id/\id<(S i).heap.length+f.nw.length:=by intro id;rw[hR];simp[ii]
  have z:∀id,dZ (R i) id=Z↔(∃o',(id,o')∈f.wr)\/((S i).heap.length<=id/\id<(S i).heap.length+f.nw.length):=by
   intro id;rw[hR];simp[dZ,ii]
  have h5:∀j,j<f.nw.length->ρ ((S i).heap.length+j)=Q2:=by
   intro j hj;have hm:=lW hS i 0 ow;rw[eI]at hm;refine h.rn _ ow (λj' a2 hL=>?_);by_cases h0:ii (R j') ((S i).heap.length+j)=Z
   .have:=FQ hS hi a2 ((x8 _).2 ⟨ow,ow⟩) h0;subst this;exact(hn hL).elim
   .simpa using h0
  have⟨a7,_⟩:=Jm hE (w:=w) (U:=U) (ρ:=ρ) (a:=a) (fp:=xn (S i).hp (yY E (S i).tmps kn) o) a0 (λx hx=>by
    cases x with
    | tmp t=>
     have a5:t∈fJ ops o:=by
      simp only[fJ,dl,List.mem_filterMap];exact .inl ⟨.tmp t,hx,rfl⟩
     have:=u t a5;simp only[yY,Act.eval];cases hk:kn.lookup t with
     | some b=>
      rw[n _ _ b this (a3 t b hk)];exact .kb b
     |none=>exact this
    |const v=>exact sZ v
    |global g=>exact(h.W.gl g).mono (zR _) (λ_ _ _=>rfl) (λ_ _ h=>h) (λ_ _ h=>by cases h)
    |func f=>simp only[yY,Act.eval];exact .clo (.func f) [] [] [] [] rfl rfl sw sw)
   h.W.ub h.W.gl
   ⟨λid q=>by rw[k id (.inl (by rw[l];exact q))];exact h.H.ob id,λx4 h1 x5 h2 b=>by
    rw[k x4 (.inl (by rw[l];exact h1)),k x5 (.inl (by rw[l];exact h2))];exact h.H.inj x4 x5 b⟩ a1 h7 h5
  refine a7 K Q (λv w' U' ρ' D=>?_);have a6:∀p∈f.wr,p.1<(S i).heap.length:=λp hp=>(a8 p hp).1
  have a4:∀id,dZ (R i) id=Z->(S (i+1)).hp id=(pz (S i).heap f.wr++f.nw).getD id .dead:=by
   intro id _;simp only[RS.hp,x2]
  have⟨x9,x7,x6⟩:=D5 (hp':=λid=>if dZ (R i) id then(S (i+1)).hp id else hpD id) h.W h.H D (λid o' q=>k id (.inr ((z id).2 (.inl ⟨o',q⟩))))
   (λid h9=>by
    have⟨o',h1,h2⟩:=uz f.wr (S i).heap id a6 h9;have ht:=(z id).2 (.inl h9);grind[cL])
   (λj o' hj=>by
    grind[cL])
   (λid a9 q=>by
    grind)
  refine hK _ _ U' ρ' _ (h.next hS hO ho hn hr x9 x7 x6 ?_ (λid=>rfl) (λid q=>D.rho id ?_) D.rhon)
  .intro s hs;rw[h6,hs];exact Ph h3 D.val
  grind
 ·
  have hw:¬Region.wanted o (yielded ops.toArray a.tmps)=Z:=by
   unfold Region.wanted;rw[hg];simp only[bX];rcases h4 with A|⟨d,A,hv⟩
   .have B:(ops.toArray[j]?).bind (·.dst)=Q2:=by simpa using A
    unfold yielded;rw[B];simp
   .have G:=F j m d hg A;rcases hv with hv|hv|⟨vs,hv⟩
    .grind
    .rw[y j d _ A (n _ _ _ G (.inr hv))];cases m<;>simp
    .rw[hv]at G;have B:(ops.toArray[j]?).bind (·.dst)=Y d:=by simpa using A
     generalize hx:a.tmps.getD d undef=x at G;cases G with
     |tup _ xs _ _=>
     rw[qX]at hx;unfold yielded;grind
  rw[zh hw];have z:∀id,dZ (R i) id=M:=by intro id;rw[hR];simp[dZ,ii]
  refine hK _ _ U ρ hpD (h.next hS hO ho hn hr h.W h.H (λh=>h) ?_ (λid=>by rw[z id];rfl) (λ_ _=>rfl) (λ_ _ h=>h));intro s hs;rw[h6,hs];exact Ph h3 (.tup [] [] rfl sw)
def ew(l:Array Bool)(j:Nat):Prop:=l.getD j M=Z
variable {l:Array Bool}
theorem RY(h:i<l.size):ew (l.setIfInBounds i Z)=λj=>ew l j\/j=i:=by funext j;unfold ew;simp only[qX];grind
theorem J9{listed:Array Bool}(g:listed.size=N ops)(h:i∈Region.ready .any ops.toArray listed):
  ∃o,ops[i]?=Y o/\¬ew listed i/\∀e∈o.after.toList,Region.binds .any e=Z->ew listed e.on:=by
 unfold Region.ready at h;simp only[List.mem_filter,ry,aO]at h;have⟨d,j,c⟩:=h;simp at d;have x:ops[i]?=Y ops[i]:=aj d;refine⟨ops[i],x,?_,λe l k=>?_⟩
 .unfold ew;simp_all
 .have b:(ops[i].after.all λe=>!Region.binds .any e||listed.getD e.on M)=Z:=by
   have:ops.toArray[i]?=Y ops[i]:=by simp
   rw[this]at c;simpa using c
  rw[<-Array.all_toList]at b;grind[ew]
theorem Xi(n:l.size=N ops)(x:∀(j:Nat)(o:Oper)(e:Edge),ops[j]?=Y o->e∈o.after.toList->Region.binds .any e=Z->e.on<j)
  (h:Region.ready .any ops.toArray l=[]):∀j,j<N ops->ew l j:=by
 intro j
 induction j using Nat.strongRecOn with
 | _ j p=>
  intro g;apply kF;intro m;have b:ops[j]?=Y ops[j]:=aj g;have:j∈Region.ready .any ops.toArray l:=by
   unfold Region.ready;simp only[List.mem_filter,ry,aO];refine⟨by simpa using g,?_,?_⟩
   .unfold ew at m;simp_all
   .have i:ops.toArray[j]?=Y ops[j]:=by simp
    rw[i];simp only[Ir,bK];rw[<-Array.all_toList,ep];intro e k;by_cases c:Region.binds .any e=Z
    .have d:=x j _ e b k c;have:=p e.on d ow;simp only[c,bW,Bool.false_or];exact this
    .simp[c]
  rw[h]at this;simp at this
theorem Qt(v:zx E)(y:∀(i:Nat)(o:Oper),ops[i]?=Y o->CM E ops o (S i) (S (i+1)) (R i))(t:ni ops R){Q:Exit->Act->World->Prop}
  (u:∀a w U ρ hpD(L:Nat->Prop),(∀j,j<N ops->L j)->rq E C ops S R L a w U ρ hpD->Q .normal a w):
  ∀(c:Nat)(x:Array Bool)(a:Act)(w:World)(U:Nat->Prop)(ρ:Nat->Option Value)(hpD:Nat->AO),x.size=N ops->(x.toList.filter (! ·)).length<=c->
   rq E C ops S R (ew x) a w U ρ hpD->wpAny E.P .any ops.toArray Q c x a w
 | 0,x,a,w,U,ρ,hpD,e,G,h=>by
  have g:∀b∈x.toList,b=Z:=by
   have:x.toList.filter (! ·)=[]:=DY ow;intro b p;have:=List.filter_eq_nil_iff.1 this b p;simpa using this
  have F:∀j,j<N ops->ew x j:=by
   intro j hj;unfold ew;rw[qX,uD ow];exact g _ sw
  refine⟨?_,u a w U ρ hpD _ F h⟩;apply List.eq_nil_iff_forall_not_mem.2;grind[J9]
 | c+1,x,a,w,U,ρ,hpD,e,G,h=>by
  refine⟨λm=>u a w U ρ hpD _ (Xi e t.back m) h,λi k=>?_⟩;have⟨o,z,s,H⟩:=J9 e k;have d:i<x.size:=by rw[e];exact(dF.1 z).1
  refine ze0 v y t h z s H _ Q (λB w' A ρ' n D=>?_);refine Qt v y t u c _ B w' A ρ' n (by simpa using e) ?_ (by rw[RY d];exact D);have q:x.toList[i]'(by simpa using d)=M:=by
   unfold ew at s;rw[qX,uD d]at s;simpa using s
  have h0:∀(l:List Bool)(i:Nat)(k:i<N l),l[i]=M->(l.filter (! ·)).length=((l.set i Z).filter (! ·)).length+1:=by
   intro l
   induction l with
   |nil=>intro i k;simp at k
   | cons b l ih=>
    intro i k p;cases i with
    |zero=>simp at p;subst p;simp
    | succ i=>
     grind
  grind
theorem PS(hE:zx E){id:Nat}{c e:RS}(h:(cu E ops ops c).val=Y e)(h0:c.log=[])(h5:c.known=[])(h4:xG ops e.log=Z)(t:BB C c a w U ρ)(F:Wd E.gl C w U):
  (Code.region id ops.toArray Z).wp E.P (λl a' w'=>l=.normal/\∃U' ρ',BB C e a' w' U' ρ'/\Wd E.gl C w' U') a w:=by
 have⟨S,R,e0,eN,z,hL,h6⟩:=uV ops c e h (by intro d b hl;rw[h5]at hl;simp at hl);have hO:ni ops R:=R6 h4 (by rw[hL,h0];simp);have hd:lz w {w with drawn:=w.drawn+1}:=⟨zR _,rfl,rfl,rfl,λ_ _=>rfl⟩;refine wp_region_any hE.mix (Qt (C:=C) hE z hO ?_ ops.toArray.size (Array.replicate ops.toArray.size M) a {w with drawn:=w.drawn+1} U ρ c.hp sw sw ?_)
 .intro a' w' U' ρ' hpD L m u;refine⟨rfl,U',ρ',⟨⟨?_,λj i v t hv=>?_⟩,?_,?_,?_,u.df,u.r0⟩,u.W⟩
  .rw[<-eN,Hp z _ (zR _),<-u.tl];simp
  .have:=u.tm j (N ops) (zR _) (λj' o' B _=>⟨λ_=>(dF.1 B).1,λp=>m j' p⟩);simp_all
  .have:e.hp=hpD:=by
    funext id;have:=u.hp id (N ops) (zR _) (λj hj _=>⟨λ_=>hj,λp=>m j p⟩);rw[eN]at this;exact this
   rw[this];exact u.H
  .intro id hid;rw[<-eN]at hid;have h7:=lW z (N ops) 0 ow;rw[eI]at h7;refine u.rn id ow (λj hj _=>?_);by_cases h3:ii (R j) id=Z
   .have:=((z j _ (aj hj)).news h3).2;have h8:=lW z (N ops-(j+1)) (j+1) ow;grind
   .simpa using h3
  .intro d b hl;have y:=u.tm d (N ops) (zR _) (λj' o' B _=>⟨λ_=>(dF.1 B).1,λp=>m j' p⟩);rw[eN]at y;have G:a'.tmps.getD d undef=.bool b:=by
    rcases h6 d b hl with h1|h1<;>rw[h1]at y<;>generalize a'.tmps.getD d undef=x at y<;>cases y<;>rfl
   rw[qX]at G;cases ht:a'.tmps[d]? with
   |none=>rw[ht]at G;simp[undef]at G
   |some v=>rw[ht]at G;simp at G;rw[G]
 .have q:∀j,¬ew (Array.replicate ops.toArray.size M) j:=by
   intro j;unfold ew;rw[qX,Array.getElem?_replicate];split<;>simp
  have A:∀{i:AV}{x:Value},Rv w U ρ i x->Rv {w with drawn:=w.drawn+1} U ρ i x:=λh=>h.mono (w:=w) (w':={w with drawn:=w.drawn+1}) (zR _) (λ_ _ _=>rfl) (λ_ _ h=>h) (λ_ _ h=>h)
  refine⟨λj o l ho hL=>(q j hL).elim,⟨F.ext.trans hd,F.same,F.ub,F.u1,F.u2,λg=>(F.gl g).mono (w:=w) (w':={w with drawn:=w.drawn+1}) (zR _) (λ_ _ _=>rfl) (λ_ _ h=>h) (λ_ _ h=>h)⟩,
   ⟨λid=>(t.hp.ob id).mono (w:=w) (w':={w with drawn:=w.drawn+1}) (zR _) (λ_ _ _=>rfl) (λ_ _ h=>h) (λ_ _ h=>h) (λb ho=>⟨rfl,((t.hp.ob id).inU ho).1⟩),t.hp.inj,t.hp.blk⟩,?_,?_,?_,?_,t.df,t.r0⟩
  .rw[e0];have:=t.tm.len;simp at this;exact this.symm
  .intro s k hk n;have D:(S k).tmps.getD s .any=(S 0).tmps.getD s .any:=by
    have:=om z (s:=s) k 0 ow (λj o ho hd h1 h2=>q j ((n j o ho hd).2 ow))
    rwa [eI]at this
   rw[D,e0];by_cases hs:s<c.tmps.length
   .have h9:s<a.tmps.toList.length:=by rw[<-t.tm.len];exact hs
    refine A (t.tm.rv s _ _ (by simp_all) ?_);simp_all
   .rw[bD,fa ow];exact .any _
  .intro id k hk n;have:=lI z (id:=id) k 0 ow (λj h1 h2=>by
    grind)
   simp_all
  grind[BB.new]
end
structure Cn (C:eU) (st:St) (a:Act) (w:World) (U:Nat->Prop) (ρ:Nat->Option Value):Prop where
 tm:dn w U ρ st.tmps a.tmps.toList
 hp:fC C w U ρ st.hp
 new:∀id,st.heap.length<=id->ρ id=Q2
 df:a.defers=[]
 r0:∀id v,C.ρ0 id=Y v->ρ id=Y v
section
variable {E:cy} {C:eU} {a:Act} {w:World} {U:Nat->Prop} {ρ:Nat->Option Value}
theorem Cn.toR{s:St}(h:Cn C s a w U ρ):BB C {tmps:=s.tmps,heap:=s.heap} a w U ρ:=⟨h.tm,h.hp,h.new,sw,h.df,h.r0⟩
variable {c:RS}
theorem BB.out(h:BB C c a w U ρ):Cn C c.out a w U ρ:=⟨h.tm,h.hp,h.new,h.df,h.r0⟩
theorem kG{ops:List Oper}:∀{t:Tr RS}{s:RS},(checked ops t).val=Y s->t.val=Y s/\xG ops s.log=Z
 |.err,s,h=>by simp[checked]at h
 | .chk c t,s,h=>by
  cases c
  .simp[checked,Tr.val]at h
  .simp only[checked,Tr.val,zi]at h|-;exact kG h
 | .br c t f,s,h=>by
  cases c
  .simp only[checked,Tr.val,zA,zm]at h|-;exact kG h
  .simp only[checked,Tr.val,zi]at h|-;exact kG h
 | .ok x,s,h=>by
  simp only[checked]at h;split at h
  .simp_all
  .simp at h
variable {ops:List Oper}
theorem Xj(n:zx E){id:Nat}{m:Bool}{e:RS}(q:c.log=[])(l:c.known=[])
  (h:(ite m (checked ops (cu E ops ops c)) (cu E ops ops c)).val=Y e) (p:BB C c a w U ρ) (o:Wd E.gl C w U):
  (Code.region id ops.toArray m).wp E.P (λx i d=>x=.normal/\∃b g,BB C e i d b g/\Wd E.gl C d b) a w:=by
 cases m
 .simp only[zA,zm]at h;refine wp_region ?_;have:=E6 (C:=C) n (Q:=λx i d=>x=.normal/\∃b g,BB C e i d b g/\Wd E.gl C d b) (λi d b g j k=>⟨rfl,b,g,j,k⟩) ops 0 c a w U ρ sw h p o;rw[<-List.range_eq_range']at this;simpa using this
 .simp only[zi]at h;have⟨j,k⟩:=kG h;exact PS n j q l k p o
theorem sI{o:Oper}{e:RS}(h:(wz E ops c o).val=Y e)(x:e.touched=M):c.touched=M/\e.heap=c.heap:=by
 have g:∀k,(HQ E o {c with known:=k}).val=Y e->c.touched=M/\e.heap=c.heap:=by
  intro k h;unfold HQ at h;split at h
  .simp only[Tr.val_bind,gE]at h;have⟨f,_,h⟩:=h;split at h
   .simp at h;subst h;simp at x;have⟨i,j,l⟩:=x;refine⟨i,?_⟩;simp[j,l,pz]
   .simp at h
  .simp at h
 have skip:∀k,ol o {c with known:=k}=e->c.touched=M/\e.heap=c.heap:=by
  rintro k rfl;exact⟨x,rfl⟩
 unfold wz at h;split at h
 .exact g c.known h
 .split at h
  .simp at h;exact skip c.known h
  .split at h
   .split at h
    .exact g c.known h
    .simp at h;exact skip c.known h
   .simp at h;exact skip c.known h
   .rename_i b _;rename_i d _ _ _ _ _ _;cases b
    .simp only[Tr.val,zA,zm]at h;split at h
     .simp at h;exact skip _ h
     .exact g _ h
    .simp only[Tr.val,zi]at h;split at h
     .exact g _ h
     .simp at h;exact skip _ h
   .simp at h
theorem qO{ops:List Oper}:∀(r:List Oper)(s x:RS),(cu E ops r s).val=Y x->x.touched=M->x.heap=s.heap
 |[],s,x,h,_=>by simp[cu]at h;rw[h]
 | o :: r,s,x,h,b=>by
  simp only[cu,Tr.val_bind,gE]at h;have⟨c,e,d⟩:=h;have g:=qO r c x d b;have t:c.touched=M:=by
   have k:∀(r:List Oper)(s x:RS),(cu E ops r s).val=Y x->x.touched=M->s.touched=M:=by
    intro r
    induction r with
    |nil=>intro s x h b;simp[cu]at h;rw[h];exact b
    | cons o r i=>
     intro s x h b;simp only[cu,Tr.val_bind,gE]at h;have⟨c,e,d⟩:=h;exact(sI e (i c x d b)).1
   exact k r c x d b
  rw[g,(sI e t).2]
theorem uU{ops:List Oper}:∀(r:List Oper)(s x:RS),(cu E ops r s).val=Y x->KnA s->x.tmps.length=s.tmps.length/\∀d,d∉V4 r->x.tmps.getD d .any=s.tmps.getD d .any
 |[],s,x,h,_=>by simp[cu]at h;rw[h];exact⟨rfl,λ_ _=>rfl⟩
 | o::r,s,x,h,hk=>by
  simp only[cu,Tr.val_bind,gE]at h;have⟨n,k,l⟩:=h;have⟨p,g,_,c⟩:=Hb k hk;have⟨i,j⟩:=uU r n x l c;refine⟨by rw[i,g.tlen],λd b=>?_⟩;rw[j d (λm=>b (by simp only[V4,List.filterMap_cons];split<;>simp_all[V4])),g.slots (λe=>b (by simp[V4,e]))]
theorem jt(c:Bool):∀(h:List Nat)(p t f:List AV),(dY c h p t f).length=N p
 |[],_,_,_=>rfl
 |d::r,p,t,f=>by rw[dY,jt c r];simp
theorem qR(c:Bool):∀(h:List Nat)(p t f:List AV)(s:Nat),(dY c h p t f).getD s .any=if s∈h/\s<N p then(tH c (t.getD s .any) (f.getD s .any)).getD .any else p.getD s .any
 |[],p,t,f,s=>by simp[dY]
 | d::r,p,t,f,s=>by
  rw[dY,qR c r];grind
theorem tn{n:List Nat}{t:List AV}:∀{x:Tr RS}{c:Option Bool}{l:List AV},CD n t x=Y (c,l)->(c=Q2\/c=Y Z)->∃d,x.val=Y d/\d.touched=M/\
  (d.tmps.length=N t->N l=N t)/\∀s v,(s∉n->d.tmps.getD s .any=t.getD s .any)->Rv w U ρ (d.tmps.getD s .any) v->Rv w U ρ (l.getD s .any) v
 |.err,c,l,h,_=>by simp[CD]at h
 | .ok st,c,l,h,_=>by
  simp only[CD]at h;simp_all
 | .chk P x,c,l,h,D=>by
  simp only[CD]at h;split at h
  .rename_i l' F;cases h;have:P=Z:=by simpa using D
   subst this;simp only[Tr.val,zi];exact tn F (.inl rfl)
  .rename_i c' l' F;cases h;have:P=Z/\c'=Z:=by simpa using D
   obtain⟨rfl,rfl⟩:=this;simp only[Tr.val,zi];exact tn F (.inr rfl)
  .cases h
 | .br b x f,c,l,h,D=>by
  have h0:∀(p o:Option Bool)(i lf:List AV),CD n t x=Y (p,i)->CD n t f=Y (o,lf)->l=dY b n t i lf->(b=Z->p=Q2\/p=Y Z)->(b=M->o=Q2\/o=Y Z)->
    ∃d,(br b x f).val=Y d/\d.touched=M/\(d.tmps.length=N t->N l=N t)/\∀s v,(s∉n->d.tmps.getD s .any=t.getD s .any)->Rv w U ρ (d.tmps.getD s .any) v->Rv w U ρ (l.getD s .any) v:=by
   rintro p o i lf ht hf rfl A B
   have j:∀(d:RS),(∀s v,(s∉n->d.tmps.getD s .any=t.getD s .any)->Rv w U ρ (d.tmps.getD s .any) v->Rv w U ρ ((ite b i lf).getD s .any) v)->
     ∀s v,(s∉n->d.tmps.getD s .any=t.getD s .any)->Rv w U ρ (d.tmps.getD s .any) v->Rv w U ρ ((dY b n t i lf).getD s .any) v:=by
    intro d hs s v e g;rw[qR];split
    .rename_i m;have h1:=hs s v e g;cases G:tH b (i.getD s .any) (lf.getD s .any)with
     |none=>exact .any _
     | some z=>
      refine FN G ?_;cases b<;>simpa using h1
    .rename_i m;by_cases k:s∈n
     .have:¬s<N t:=λh=>m ⟨k,h⟩
      rw[bD,fa ow];exact .any _
     .rw[<-e k];exact g
   cases b
   .have⟨d,q,u,_,y⟩:=tn hf (B rfl);exact⟨d,by simpa[Tr.val]using q,u,λ_=>jt _ _ _ _ _,j d (λs v H g=>by simpa using y s v H g)⟩
   .have⟨d,q,u,_,y⟩:=tn ht (A rfl);exact⟨d,by simpa[Tr.val]using q,u,λ_=>jt _ _ _ _ _,j d (λs v H g=>by simpa using y s v H g)⟩
  simp only[CD]at h;grind
theorem uW(hE:zx E){id:Nat}{ops:Array Oper}{m:Bool}{s p:St}(h:(jZ E ops.toList m s).val=Y p)(hc:Cn C s a w U ρ)(hW:Wd E.gl C w U):
  (Code.region id ops m).wp E.P (λe B k=>e=.normal/\∃g q,Cn C p B k g q/\Wd E.gl C k g) a w:=by
 unfold jZ at h;simp only at h;generalize n:({tmps:=s.tmps,heap:=s.heap}:RS)=A at h;have h6:A.log=[]:=by rw[<-n]
 have h5:A.known=[]:=by rw[<-n]
 have x1:BB C A a w U ρ:=by rw[<-n];exact hc.toR
 have x2:KnA A:=by intro d b hl;rw[h5]at hl;simp at hl
 generalize y:(ite m (checked ops.toList (cu E ops.toList ops.toList A)) (cu E ops.toList ops.toList A))=t at h;have z:∀F,t.val=Y F->(Code.region id ops m).wp E.P (λe B k=>e=.normal/\∃g q,BB C F B k g q/\Wd E.gl C k g) a w:=by
  intro F o;have:=Xj (id:=id) hE h6 h5 (by rw[y];exact o) x1 hW;simpa using this
 have h9:∀F,t.val=Y F->(cu E ops.toList ops.toList A).val=Y F:=by
  intro F o;rw[<-y]at o;cases m
  .simpa using o
  .simp only[zi]at o;exact(kG o).1
 have G:(t.bind λx=>Tr.ok x.out).val=Y p->(Code.region id ops m).wp E.P (λe B k=>e=.normal/\∃g q,Cn C p B k g q/\Wd E.gl C k g) a w:=by
  intro h;simp only[Tr.val_bind,gE]at h;have⟨F,o,h⟩:=h;simp at h;subst h;exact wp_mono (z F o) (λe B k ⟨h1,g,q,D,h3⟩=>⟨h1,g,q,D.out,h3⟩)
 have x0:∀c l,CD (V4 ops.toList) s.tmps t=Y (c,l)->(c=Q2\/c=Y Z)->p={s with tmps:=l}->
   (Code.region id ops m).wp E.P (λe B k=>e=.normal/\∃g q,Cn C p B k g q/\Wd E.gl C k g) a w:=by
  rintro c l h4 h0 rfl;have⟨H,o,ht,hl,_⟩:=tn (w:=w) (U:=U) (ρ:=ρ) h4 h0;have⟨x4,x3⟩:=uU ops.toList A H (h9 H o) x2;have u:=qO ops.toList A H (h9 H o) ht;refine wp_mono (z H o) (λe B k ⟨h1,g,q,D,h3⟩=>⟨h1,g,q,⟨⟨?_,λj c v x5 h7=>?_⟩,?_,?_,D.df,D.r0⟩,h3⟩)
  .have:=D.tm.len;grind
  .have⟨x6,h8,_,_,hr⟩:=tn (w:=k) (U:=g) (ρ:=q) h4 h0;rw[o]at h8;cases h8;have hj:j<H.tmps.length:=by rw[D.tm.len];exact(dF.1 h7).1
   have e0:A.tmps=s.tmps:=by rw[<-n]
   have:=hr j v (λhd=>by rw[x3 j hd,e0]) (D.tm.rv j _ v (by simp_all) h7);simp_all
  .have:H.hp=({s with tmps:=l}:St).hp:=by
    funext i;simp only[RS.hp,St.hp,u,<-n]
   rw[<-this];exact D.hp
  .have:H.heap.length=s.heap.length:=by rw[u,<-n]
   intro i hi;exact D.new i (by rw[this];exact hi)
 split at h
 .split at h
  .simp_all
  .simp_all
  .exact G h
 .exact G h
end
section
variable {E:cy} {C:eU} {a:Act} {w:World} {U:Nat->Prop} {ρ:Nat->Option Value}
theorem OY(keep:List Nat):∀(l:List AV)(i j:Nat),(HV keep i l)[j]?=(l[j]?).map λv=>if keep.contains (i+j)then v else .any
 |[],_,_=>by simp[HV]
 |v::r,i,0=>by simp[HV]
 | v::r,i,j+1=>by
  simp only[HV,List.getElem?_cons_succ];rw[OY keep r (i+1) j,show i+1+j=i+(j+1) by omega]
theorem OZ(keep:List Nat):∀(l:List AV)(i:Nat),(HV keep i l).length=N l
 |[],_=>rfl
 |v::r,i=>by simp[HV,OZ keep r]
variable {s:St}
theorem zfC(keep:List Nat)(h:Cn C s a w U ρ):Cn C {s with tmps:=HV keep 0 s.tmps} a w U ρ:=by
 refine⟨⟨by rw[OZ];exact h.tm.len,λj c v x e=>?_⟩,h.hp,h.new,h.df,h.r0⟩;rw[OY]at x;simp only[dV]at x;obtain⟨d,b,rfl⟩:=x;split
 .exact h.tm.rv j d v b e
 .exact .any v
variable {b:Nat->AO}
theorem UA{d:Nat->AO}{i:Nat}{e:Sh}{x:Option Addr}(s:fC C w U ρ b)(t:ρ i=Q2)(j:d i=.vec e [])
  (k:∀id,id≠i->bz w U (kz ρ i (.slice x 0 0)) id (d id)/\∀c,ar (kz ρ i (.slice x 0 0)) id (d id) c->ar ρ id (b id) c):fC C w U (kz ρ i (.slice x 0 0)) d:=by
 have Q2:∀c,¬ar (kz ρ i (.slice x 0 0)) i (d i) c:=by
  rintro c ⟨_,v,l,m⟩;simp[kz]at l;subst l;cases x<;>simp[cf]at m
 refine⟨λid=>?_,λn o c p q=>?_,λid c h=>?_⟩
 .by_cases g:id=i
  .subst g;rw[j];exact⟨x,0,by simp[kz],sw,.inl ⟨rfl,rfl⟩⟩
  .exact(k id g).1
 .grind[fC.inj]
 grind[fC.blk]
variable {id:Nat}{v:Value}{G:AO}
theorem F1{n:Nat}{y:Nat}(b:id≠n)(h:ar (kz ρ n v) id G y):ar ρ id G y:=by have⟨d,x,c,e⟩:=h;simp only[kz,zh b]at c;exact⟨d,x,c,e⟩
theorem zbo(p:Nat×Option Nat×Sh)(h:Cn C s a w U ρ):∃ρ',Cn C (xJ s p) a w U ρ':=by
 have hn:ρ s.heap.length=Q2:=h.new _ (zR _);have A:∀(x:Option Addr){c:AV}{v:Value},Rv w U ρ c v->Rv w U (kz ρ s.heap.length (.slice x 0 0)) c v:=λx _ _ hr=>hr.mono (zR _) (λ_ _ _=>rfl) (λ_ _ h=>h) (fK hn)
 have x5:∀(x:Option Addr)(id:Nat),bz w U (kz ρ s.heap.length (.slice x 0 0)) id (s.hp id):=λx id=>
  (h.hp.ob id).mono (zR _) (λ_ _ _=>rfl) (λ_ _ h=>h) (fK hn) (λb ho=>⟨rfl,((h.hp.ob id).inU ho).1⟩)
 have y:∀(k:List AO)(o:AO),N k=s.heap.length->(k++[o]).getD s.heap.length .dead=o:=by
  intro k o hl;rw[bD,pE ow,hl];simp
 have z:∀(k:List AO)(o:AO)(id:Nat),N k=s.heap.length->id≠s.heap.length->(k++[o]).getD id .dead=k.getD id .dead:=by
  intro k o id hl F;simp only[bD];by_cases u:id<N k
  .rw[rz u]
  .grind
 have B:∀(x:Option Addr)(k:List AO)(o:AO),N k=s.heap.length->∀id,(k++[o]).length<=id->kz ρ s.heap.length (.slice x 0 0) id=Q2:=by
  intro x k o hl id F;simp at F;simp only[kz];rw[zh ow];exact h.new id ow
 have⟨d,c,e⟩:=p;cases c with
 | none=>
  simp only[xJ];split
  .rename_i k;have u:d<s.tmps.length:=by
    apply kF;intro h8;rw[bD,fa ow]at k;cases k
   have x3:s.tmps[d]?=Y .nils:=by
    rw[bD,aj u]at k;rw[aj u];simpa using k
   have P:d<a.tmps.toList.length:=by rw[<-h.tm.len];exact u
   have l:=h.tm.rv d _ _ x3 (aj P);generalize hx:a.tmps.toList[d]=x at l;cases l with
   |nils G=>
   refine⟨kz ρ s.heap.length (.slice G 0 0),⟨by simp[h.tm.len],λj c v q l=>?_⟩,UA h.hp hn (y _ _ rfl) (λid F=>?_),B G _ _ rfl,h.df,λid v hr=>fK hn id v (h.r0 id v hr)⟩
   .rw[nr]at q;split at q
    next x4=>subst x4;cases q;rw[aj P,hx]at l;cases l;exact .vec _ _ (by simp[kz]) rfl
    .exact A G (h.tm.rv j c v q l)
   .have:({tmps:=s.tmps.set d (.vec s.heap.length),heap:=s.heap++[.vec e []]}:St).hp id=s.hp id:=z s.heap _ id rfl F;grind[F1]
  .exact⟨ρ,h⟩
 | some c=>
  simp only[xJ];split
  .rename_i id hsl;split
   .rename_i cs h7;split
    .rename_i m;have ho:=h.hp.ob id;rw[h7]at ho;have⟨b,g,D,h1,h2,h3,h4,h5⟩:=ho;have t:c<N cs:=by
      apply kF;intro h8;rw[bD,fa ow]at m;cases m
     have x1:cs[c]?=Y .nils:=by
      rw[bD,aj t]at m;rw[aj t];simpa using m
     have h0:c<D.toList.length:=by rw[<-h4.len];exact t
     have l:=h4.rv c _ _ x1 (aj h0);generalize hx:D.toList[c]=x at l;cases l with
     |nils G=>
     have h6:id<s.heap.length:=by
      apply kF;intro h8;have:=h.new id ow;rw[h1]at this;cases this
     have x6:id≠s.heap.length:=by omega
     refine⟨kz ρ s.heap.length (.slice G 0 0),⟨h.tm.len,λj cc v q l=>A G (h.tm.rv j cc v q l)⟩,UA h.hp hn (y _ _ sw) (λn H=>?_),B G _ _ sw,h.df,λi v hr=>fK hn i v (h.r0 i v hr)⟩;have e0:({tmps:=s.tmps,heap:=s.heap.set id (.box (cs.set c (.vec s.heap.length)))++[.vec e []]}:St).hp n=(s.heap.set id (.box (cs.set c (.vec s.heap.length)))).getD n .dead:=z _ _ n sw H;rw[e0];by_cases h9:id=n
     .subst h9;have e1:(s.heap.set id (.box (cs.set c (.vec s.heap.length)))).getD id .dead=.box (cs.set c (.vec s.heap.length)):=by
       simp[List.getElem?_set_self h6]
      rw[e1];refine⟨⟨b,g,D,fK hn _ _ h1,h2,h3,⟨by simp[h4.len],λj cc v q l=>?_⟩,h5⟩,λb' hb=>?_⟩
      .rw[nr]at q;split at q
       next x2=>subst x2;cases q;rw[aj h0,hx]at l;cases l;exact .vec _ _ (by simp[kz]) rfl
       .exact A G (h4.rv j cc v q l)
      .have⟨_,v,l,x0⟩:=F1 H hb;exact⟨by rw[h7];rfl,v,l,x0⟩
     .have e1:(s.heap.set id (.box (cs.set c (.vec s.heap.length)))).getD n .dead=s.hp n:=by
       simp[St.hp,D0 h9]
      grind[F1]
    .exact⟨ρ,h⟩
   .exact⟨ρ,h⟩
  .exact⟨ρ,h⟩
theorem F6:∀(x:List (Nat×Option Nat×Sh)){s:St}{ρ:Nat->Option Value},Cn C s a w U ρ->∃b,Cn C (x.foldl xJ s) a w U b
 |[],_,ρ,h=>⟨ρ,h⟩
 | p::x,s,ρ,h=>by
  have⟨b,c⟩:=zbo p h;exact F6 x c
theorem zb2{F:Nat->AV}(p:Nat×Nat)(h:Cn C s a w U ρ)(B:Wd F C w U):∃U',Cn C (Kf s p) a w U' ρ/\Wd F C w U':=by
 have⟨x,c⟩:=p;simp only[Kf];split
 .rename_i id hsl;split
  .rename_i P u;split
   .rename_i k g;split
    .rename_i e l z;have A:pX (s.hp k)=Z:=by cases hk:s.hp k<;>rw[hk]at z<;>simp[Fh]at z<;>rfl
     have y:=Ef.frz (w:=w) (U:=U) (ρ:=ρ) (n:=s.heap.length) (hp:=s.hp) (ids:=[k]) (r:=.any) (v:=undef) B.ub (by simpa using A) (λj _=>h.hp.ob j) (.any _);generalize(λb=>U b/\¬∃j∈[k],ar ρ j (s.hp j) b)=U' at y;have x4:io s.hp [k]=[(k,.frz e l)]:=by simp[io,z]
     rw[x4]at y
     have⟨h9,t,h7⟩:=D5 (hp':=λid=>if id=k then .frz e l else s.hp id) B h.hp y (λ_ _ _=>rfl)
      (λi m=>by
       simp_all)
      (λj o hj=>by simp at hj)
      (λi x8 _=>by
       simp_all)
     have h6:id≠k:=by
      rintro rfl;rw[u]at A;cases A
     have ok:=t.ob k;simp only[zi]at ok;have⟨vk,x3,x9⟩:=ok;have oi:=t.ob id;simp only[zh h6,u]at oi;have⟨b,d,h8,h1,h2,h3,h4,h5⟩:=oi;have x6:id<s.heap.length:=by
      apply kF;intro h0;have:=h.new id ow;rw[h1]at this;cases this
     have x7:k<s.heap.length:=by
      apply kF;intro h0;have:=h.new k ow;rw[x3]at this;cases this
     have q:c<N P:=by
      apply kF;intro h0;rw[bD,fa ow]at g;cases g
     have x0:P[c]?=Y (.vec k):=by
      rw[bD,aj q]at g;rw[aj q];simpa using g
     have x2:∀i,({tmps:=s.tmps,heap:=(s.heap.set k (.frz e l)).set id (.box (P.set c (.sl e l)))}:St).hp i=if i=id then .box (P.set c (.sl e l))else if i=k then .frz e l else s.hp i:=by
      intro i;simp only[St.hp,bD];by_cases m:i=id
      .simp_all
      .grind
     have x5:∀i H,ar ρ i (ite (i=id) (.box (P.set c (.sl e l))) (ite (i=k) (.frz e l) (s.hp i))) H->ar ρ i (ite (i=k) (AO.frz e l) (s.hp i)) H:=by
      intro i H ho;by_cases m:i=id
      .subst m;rw[zh h6,u];have⟨_,v,G,hb⟩:=ho;exact⟨rfl,v,G,hb⟩
      .rwa [zh m]at ho
     refine⟨U',⟨⟨h.tm.len,λj cc v D G=>h7 (h.tm.rv j cc v D G)⟩,⟨λi=>?_,λi1 i2 H o1 o2=>?_,λi H o=>?_⟩,λi m=>h.new i (by simpa using m),h.df,h.r0⟩,h9⟩
     .rw[x2];by_cases m:i=id
      .subst m;rw[zf rfl];refine⟨b,d,h8,h1,h2,h3,⟨by simp[h4.len],λj cc v D G=>?_⟩,h5⟩;rw[nr]at D;split at D
       .rename_i x1;subst x1;cases D;have:=h4.rv c _ v x0 G;cases this with
        |vec _ _ hr _=>
        simp_all
       .exact h4.rv j cc v D G
      .rw[zh m];exact t.ob i
     .grind[fC.inj]
     grind[fC.blk]
    .exact⟨U,h,B⟩
   .exact⟨U,h,B⟩
  .exact⟨U,h,B⟩
 .exact⟨U,h,B⟩
theorem P5{gl:Nat->AV}:∀(d:List (Nat×Nat)){s:St}{U:Nat->Prop},Cn C s a w U ρ->Wd gl C w U->∃x,Cn C (d.foldl Kf s) a w x ρ/\Wd gl C w x
 |[],_,U,h,b=>⟨U,h,b⟩
 | p::d,s,U,h,b=>by
  have⟨x,e,c⟩:=zb2 p h b;exact P5 d e c
theorem jA(f:Nat->Nat):∀h:List AV,AV.renL f h=h.map (AV.ren f)
 |[]=>rfl
 |c::h=>by simp[AV.renL,jA f h]
theorem rO(f:Nat->Nat):∀(e:Sh)(x:Sem e)(q:Nat)(c:AV),(zF e x)[q]?=Y c->c.ren f=c:=by
 intro e
 induction e with
 |unit=>intro y q d h;simp[zF]at h
 |bool=>grind[zF,AV.ren]
 |int k=>grind[zF,AV.ren]
 |str=>grind[zF,AV.ren]
 |sl e j=>grind[zF,AV.ren]
 | pr a b i g=>
  intro y q d h;simp only[zF]at h;grind
 | expr=>
  grind[zF,AV.ren]
theorem nC:∀(e:Sh)(x:Sem e)(q:Nat)(c:AV),(zF e x)[q]?=Y c->c.ids=[]:=by
 intro e
 induction e with
 |unit=>intro y q d h;simp[zF]at h
 |bool=>grind[zF,AV.ids]
 |int k=>grind[zF,AV.ids]
 |str=>grind[zF,AV.ids]
 |sl e j=>grind[zF,AV.ids]
 | pr a b i g=>
  intro y q d h;simp only[zF]at h;grind
 | expr=>
  grind[zF,AV.ids]
variable {ρ':Nat->Option Value}{f:Nat->Nat}
theorem Rv.ren'{p:AV}(h:Rv w U ρ p v)(A:∀id∈p.ids,∀v,ρ id=Y v->ρ' (f id)=Y v):Rv w U ρ' (p.ren f) v:=by
 induction h with
 |any v=>simp only[AV.ren];exact .any v
 |kb b=>simp only[AV.ren];exact .kb b
 |bool b=>simp only[AV.ren];exact .bool b
 |int k n h=>simp only[AV.ren];exact .int k n h
 |str s h=>simp only[AV.ren];exact .str s h
 |nils a=>simp only[AV.ren];exact .nils a
 |sl0 e a p=>simp only[AV.ren];exact .sl0 e a p
 | sl e l b o p y g hm F D q hr H=>
  simp only[AV.ren];refine .sl e l b o p y g hm F D q (λi hi j cc h4=>?_);grind[nC,rO]
 |vec id v h B=>simp only[AV.ren];exact .vec _ v (A id (by simp[AV.ids]) _ h) B
 |ptr id u b h=>simp only[AV.ren];exact .ptr _ u b (A id (by simp[AV.ids]) _ h)
 |vptr id sz i u b n p h=>simp only[AV.ren];exact .vptr _ sz i u b n p (A id (by simp[AV.ids]) _ h)
 | eptr P u b o y F D q B hr H=>
  simp only[AV.ren,jA];refine .eptr _ u b o y F D (by simpa using q) (by simpa using B) (λj p g=>?_);simp only[dN,dV]at g;obtain⟨z,c,rfl⟩:=g;exact H j z c (λid d=>A id (by simp only[AV.ids];exact kK (gh c) d))
 |nilp=>simp only[AV.ren];exact .nilp
 | agg P vs hl B hr H=>
  simp only[AV.ren,jA];refine .agg _ vs (by simpa using hl) B (λj p v g G=>?_);simp only[dN,dV]at g;obtain⟨z,c,rfl⟩:=g;exact H j z v c G (λid d=>A id (by simp only[AV.ids];exact kK (gh c) d))
 | tup P vs hl hr H=>
  simp only[AV.ren,jA];refine .tup _ vs (by simpa using hl) (λj p v g G=>?_);simp only[dN,dV]at g;obtain⟨z,c,rfl⟩:=g;exact H j z v c G (λid d=>A id (by simp only[AV.ids];exact kK (gh c) d))
 | clo fn fs P vf vc h0 q h6 h5 h3 h2=>
  simp only[AV.ren,jA];refine .clo fn _ _ vf vc (by simpa using h0) (by simpa using q) (λj p v g G=>?_) (λj p v g G=>?_)
  .simp only[dN,dV]at g;obtain⟨z,c,rfl⟩:=g;exact h3 j z v c G (λid d=>A id (by simp only[AV.ids,dl];exact .inl (kK (gh c) d)))
  .simp only[dN,dV]at g;obtain⟨z,c,rfl⟩:=g;exact h2 j z v c G (λid d=>A id (by simp only[AV.ids,dl];exact .inr (kK (gh c) d)))
 |nilf=>simp only[AV.ren];exact .nilf
 |mp id v h B=>simp only[AV.ren];exact .mp _ v (A id (by simp[AV.ids]) _ h) B
 |ifcN=>simp only[AV.ren];exact .ifcN
 |ifcS t v=>simp only[AV.ren];exact .ifcS t v
 |tab k zs b x fr F D=>simp only[AV.ren];exact .tab k zs b x fr F D
 |gint m b x fr hm F D=>simp only[AV.ren];exact .gint m b x fr hm F D
variable {t:List AV}{z:List Value}
theorem dn.ren'(h:dn w U ρ t z)(g:∀id∈AV.idsL t,∀v,ρ id=Y v->ρ' (f id)=Y v):dn w U ρ' (AV.renL f t) z:=by rw[jA];refine⟨by simpa using h.len,λj c v d i=>?_⟩;simp only[dN,dV]at d;obtain⟨e,x,rfl⟩:=d;exact(h.rv j e v x i).ren' (λid b=>g id (kK (gh x) b))
variable {id':Nat}
theorem bz.ren'(h:bz w U ρ id G)(m:∀v,ρ id=Y v->ρ' id'=Y v)(D:∀i∈G.ids,∀v,ρ i=Y v->ρ' (f i)=Y v):bz w U ρ' id' (G.ren f):=by
 have A:∀(e:Sh)(x:Sem e)(j:Nat)(c:AV)(v:Value),(zF e x)[j]?=Y c->Rv w U ρ c v->Rv w U ρ' c v:=by
  intro e x j c v B P;have:=P.ren' (ρ':=ρ') (f:=f) (λi F=>by rw[nC e x j c B]at F;simp at F)
  rwa [rO f e x j c B]at this
 cases G with
 |dead=>trivial
 | box cs=>
  have⟨b,d,y,n,o,q,t,s⟩:=h;exact⟨b,d,y,m _ n,o,q,t.ren' D,s⟩
 | vec e l=>
  have⟨a,c,n,o,q⟩:=h;refine⟨a,c,m _ n,o,?_⟩;grind
 | frz e l=>
  have⟨v,n,o⟩:=h;refine⟨v,m _ n,?_⟩;have:=o.ren' (ρ':=ρ') (f:=f) (by simp[AV.ids]);simpa[AV.ren]using this
 | fmap z=>
  have⟨r,k,g,n,o,q,t,s⟩:=h;refine⟨r,k,g,m _ n,o,q,?_,by rw[s];simp⟩;have:=t.ren' (ρ':=ρ') (f:=f) D;grind[jA,Function.comp_def]
 | vmap u z=>
  have⟨r,k,g,n,o,q,t,s⟩:=h;exact⟨r,k,g,m _ n,o,q,t,s⟩
 | gmap e z=>
  have⟨r,k,g,H,n,o,q,t,s⟩:=h;refine⟨r,k,g,H,m _ n,o,q,?_,s⟩;have hn:AV.renL f (z.map λp=>O e p.2)=z.map λp=>O e p.2:=by rw[jA,qL];rfl
  grind[dn.ren',TX,AV.ids]
theorem Rv.ren{p:AV}(h:Rv w U ρ p v)(b:∀id∈p.ids,ρ' (f id)=ρ id):Rv w U ρ' (p.ren f) v:=
 h.ren' λid x v c=>by rw[b id x];exact c
theorem dn.ren(h:dn w U ρ t z)(b:∀id∈AV.idsL t,ρ' (f id)=ρ id):dn w U ρ' (AV.renL f t) z:=
 h.ren' λid x v c=>by rw[b id x];exact c
theorem bz.ren(h:bz w U ρ id G)(x:ρ' id'=ρ id)(c:∀i∈G.ids,ρ' (f i)=ρ i):bz w U ρ' id' (G.ren f):=
 h.ren' (λv b=>by rw[x];exact b) λid x v b=>by rw[c id x];exact b
theorem F0(o:AO):(o.ren f).owns=o.owns:=by cases o<;>rfl
theorem FR:∀{l:List Nat},Ub l=Z->l.Nodup
 |[],_=>List.nodup_nil
 | i::r,h=>by
  simp[Ub]at h;exact List.nodup_cons.2 ⟨h.1,FR h.2⟩
theorem UT{n0:Nat}{n B:List Nat}(H:∀id,n0<=id->C.ρ0 id=Q2)(l:lO b n0 B n=Z)(t:fC C w U ρ b)(h5:∀id v,C.ρ0 id=Y v->ρ id=Y v):
  let d:=λj=>(n[j]?).bind ρ
  (∀id∈B,d (n.idxOf id)=ρ id)/\fC C w U d (λj=>(n.map λi=>(b i).ren λi=>n.idxOf i).getD j .dead)/\(∀id,N n<=id->d id=Q2)/\∀id v,C.ρ0 id=Y v->d id=Y v:=by
 intro d;simp only[lO,aO,ep,Ik,bX]at l;have⟨⟨⟨A,D⟩,F⟩,G⟩:=l;have h0:=FR F;have k:∀id∈n,d (n.idxOf id)=ρ id:=by
  intro id e;have x:n.idxOf id<N n:=List.idxOf_lt_length_iff.2 e;show(n[n.idxOf id]?).bind ρ=ρ id;rw[aj x,List.getElem_idxOf x];rfl
 have c:∀j(c:j<N n),d j=ρ n[j]:=by
  intro j c;show(n[j]?).bind ρ=ρ n[j];rw[aj c];rfl
 have m:∀j(c:j<N n),(n.map λi=>(b i).ren λi=>n.idxOf i).getD j .dead=(b n[j]).ren λi=>n.idxOf i:=by
  intro j c;rw[bD,dN,aj c];rfl
 have p:∀j,N n<=j->(n.map λi=>(b i).ren λi=>n.idxOf i).getD j .dead=.dead:=by
  intro j c;rw[bD,fa (by simpa using c)];rfl
 have g:∀j h,ar d j ((n.map λi=>(b i).ren λi=>n.idxOf i).getD j .dead) h->∃c:j<N n,ar ρ n[j] (b n[j]) h:=by
  rintro j h ⟨y,v,q,P⟩;by_cases x:j<N n
  .refine⟨x,?_,v,by rw[<-c j x];exact q,P⟩;rw[m j x,F0]at y;exact y
  .grind
 refine⟨λid e=>k id (A id e),⟨λj=>?_,λj1 j2 h o1 o2=>?_,λj h o=>?_⟩,λj s=>?_,λid v q=>?_⟩
 .by_cases x:j<N n
  .rw[m j x];exact(t.ob n[j]).ren (c j x) (λi hi=>k i (D n[j] (bh x) i hi))
  .rw[p j ow];trivial
 .grind[fC.inj]
 .have⟨l1,q1⟩:=g j h o;exact t.blk _ h q1
 .grind
 .have x:id<n0:=by
   apply kF;intro s;rw[H id ow]at q;cases q
  have u:n[id]?=Y id:=by
   have z:(n.take n0)[id]?=Y id:=by rw[G,BG x]
   rwa [List.getElem?_take,zf x]at z
  grind
theorem Uc{n0:Nat}{k:aY}{b:St}(j:∀id,n0<=id->C.ρ0 id=Q2)(h:zoh n0 k s=Y b)(l:Cn C s a w U ρ):∃m,Cn C b a w U m:=by
 unfold zoh at h;have⟨o,x⟩:=F6 k.prom (zfC k.slots l);generalize k.prom.foldl xJ {s with tmps:=HV k.slots 0 s.tmps}=n at h x;unfold zjT at h;simp only at h;split at h
 next c=>cases h;have⟨e,d,g,i⟩:=UT j c x.hp x.r0;exact⟨_,x.tm.ren e,d,by simpa using g,x.df,i⟩
 .cases h
end
def Tr.Sat{α:Type}(Φ:α->Prop):Tr α->Prop
 |.err=>False
 |.chk c t=>c=Z/\t.Sat Φ
 |.br c t f=>(c=Z->t.Sat Φ)/\(c=M->f.Sat Φ)
 |.ok a=>Φ a
theorem Tr.sat_val{α:Type}{Φ:α->Prop}:∀{t:Tr α},t.Sat Φ->∃a,t.val=Y a/\Φ a
 |.err,h=>h.elim
 |.chk c t,⟨d,h⟩=>by subst d;simpa[Tr.val]using sat_val h
 | .br c t f,⟨x,b⟩=>by
  cases c
  .simpa[Tr.val]using sat_val (b rfl)
  .simpa[Tr.val]using sat_val (x rfl)
 |.ok a,h=>⟨a,rfl,h⟩
theorem Tr.sat_bind{α β:Type}{Φ:β->Prop}{k:α->Tr β}:∀{t:Tr α},(t.bind k).Sat Φ->t.Sat λa=>(k a).Sat Φ
 |.err,h=>h
 |.chk _ _,⟨x,h⟩=>⟨x,sat_bind h⟩
 |.br _ _ _,⟨b,c⟩=>⟨λx=>sat_bind (b x),λx=>sat_bind (c x)⟩
 |.ok _,h=>h
def VG(E:cy)(C:eU)(Q:AV->List AO->Prop)(e:Ending)(c:World):Prop:=
 ∃v r b x h,e=.returned v/\Q r b/\Rv c x h r v/\fC C c x h (λj=>b.getD j .dead)/\(∀id,N b<=id->h id=Q2)/\(∀id v,C.ρ0 id=Y v->h id=Y v)/\Wd E.gl C c x
def Reach(E:cy)(C:eU)(fn:FuncId)(t:List Item)(s:St)(Q:AV->List AO->Prop):Prop:=
 ∀(b:Frame)(c:List Frame)(a:Act)(w:World)(U:Nat->Prop)(ρ:Nat->Option Value),b.fn=fn->b.kind=.normal->Cn C s a w U ρ->Wd E.gl C w U->
  ∃e x h,VG E C Q e x/\Comes E.P (lone (b.at a t) c w) (lone h c x) e/\h.fn=fn/\h.leaving E.P x e
def kW(E:cy)(C:eU)(fn:FuncId)(Q:AV->List AO->Prop):zU->Prop
 |.head _ k s=>Reach E C fn k s Q
 |.ret v h=>Q v h
 |.fork c x b s=>(c=Z->Reach E C fn x s Q)/\Reach E C fn b s Q
section
variable {E:cy} {C:eU} {fn:FuncId} {Q:AV->List AO->Prop}
theorem Reach.step{A t:List Item}{s:St}(h:Reach E C fn t s Q)(o:∀(b:Frame)(a:Act)(c:List Frame)(w:World),step E.P (lone (b.at a A) c w)=.next (lone (b.at a t) c w)):Reach E C fn A s Q:=by intro b c a w U ρ g i k j;have⟨e,p,d,n,x,l,m⟩:=h b c a w U ρ g i k j;exact⟨e,p,d,n,mh (.one (o b a c w)) x,l,m⟩
def GQ(tmps:Array Value):ResultVar->Go.Sem Value
 |.tmp t=>pure (tmps.getD t undef)
 |.cell x t=>do loadVar t (<-asAddr (tmps.getD x undef))
theorem GS(f:Func)(tmps:Array Value):results f tmps=(do
  let v<-f.results.mapM (GQ tmps)
  pure (if h:v.size=1 then v[0]else .tuple v)):=by unfold results;congr 2
theorem GU{a:Act}{w:World}{U:Nat->Prop}{ρ:Nat->Option Value}{s:St}(k:Cn C s a w U ρ):∀(o:List ResultVar)(p:List AV),yv E s o=Y p->
  ∃q:List Value,(o.mapM (GQ a.tmps)).run E.P w=.ok q w/\dn w U ρ p q
 | [],p,h=>by
  simp[yv]at h;subst h;exact⟨[],sw,rfl,sw⟩
 | r :: o,p,h=>by
  simp only[yv]at h;split at h
  .rename_i v F e A;cases h;have⟨q,G,m⟩:=GU k o F A;have d:∀t,Rv w U ρ (s.tmps.getD t .any) (a.tmps.getD t undef):=by
    intro t;by_cases ht:t<s.tmps.length
    .have h1:t<a.tmps.toList.length:=by rw[<-k.tm.len];exact ht
     refine k.tm.rv t _ _ (by simp_all) ?_;simp_all
    .rw[bD,fa ow];exact .any _
   have D:∃x,(GQ a.tmps r).run E.P w=.ok x w/\Rv w U ρ v x:=by
    cases r with
    | tmp t=>
     simp only[Ms,bH]at e;subst e;exact⟨_,rfl,d t⟩
    | cell x t=>
     simp only[Ms]at e;have n:=d x;split at e
     .rename_i id off hp;rw[hp]at n;generalize B:a.tmps.getD x undef=vx at n;split at e
      .rename_i cs l;have ho:=k.hp.ob id;rw[l]at ho;have:=Jl (P:=E.P) (w:=w) (U:=U) (ρ:=ρ) (hp:=s.hp) (t:=t) (av:=.ptr id off) (v:=vx) (f:={val:=v}) (by simp[K5,l,e]) n (λi hi=>k.hp.ob i);have⟨r',x',H,g,z⟩:=this;cases H;cases n with
       |ptr _ _ b hb=>
       refine⟨x',?_,z⟩;simp only[GQ,B,asAddr,dB,Sem.run_pure,qJ];simpa[Instr.loadAt,Instr.sureAddr]using g
      .cases e
     .cases e
   have⟨x,hx,h0⟩:=D;refine⟨x::q,?_,⟨by simp[m.len],λj c y u hy=>?_⟩⟩
   .simp_all
   .cases j with
    |zero=>simp_all
    |succ j=>exact m.rv j c y (by simpa using u) (by simpa using hy)
  .cases h
variable {s:St}{w:World}{U:Nat->Prop}{ρ:Nat->Option Value}
theorem zoR{n0:Nat}{f:Func}(_:E.P.funcs[fn]?=Y f)(z:∀id,n0<=id->C.ρ0 id=Q2){q:List ResultVar}(n:f.results.toList=q)(h:(yu E n0 q s).Sat (kW E C fn Q))
  {a:Act}    (k:Cn C s a w U ρ) (A:Wd E.gl C w U):∃v,(results f a.tmps).run E.P w=.ok v w/\VG E C Q (.returned v) w:=by
 unfold yu at h;split at h
 .rename_i o j;have⟨g,e,b⟩:=GU k q o j;simp only at h;have d:(results f a.tmps).run E.P w=.ok (if h:g.toArray.size=1 then g.toArray[0]else .tuple g.toArray) w:=by
   rw[GS,dB,Array.mapM_eq_mapM_toList,Sem.run_map,n,e];rfl
  have i:Rv w U ρ (Ly o) (if h:g.toArray.size=1 then g.toArray[0]else .tuple g.toArray):=by
   clear h j e d;have m:=b.len
   match o,g,m,b with
   |[c],[x],_,b=>simpa[Ly]using b.rv 0 c x rfl rfl
   |[],[],_,_=>simpa[Ly]using Rv.tup (w:=w) (U:=U) (ρ:=ρ) [] [] rfl sw
   | B::c2::cs,x1::x2::g,m,b=>
    rw[dif_neg sw];exact .tup _ _ m b.rv
  refine⟨_,d,?_⟩;split at h
  next l=>have⟨p,t,u,y⟩:=UT z l k.hp k.r0;exact⟨_,_,_,U,_,rfl,h,i.ren p,t,by simpa using u,y,A⟩
  .exact h.elim
 .exact h.elim
variable {m:Bool}
theorem Ep{a:Act}{c:Operand}(x:Cn C s a w U ρ)(k:a.eval c=.bool m):Cn C (CV s c m) a w U ρ:=by
 unfold CV;split
 .rename_i i;refine{x with tm:=⟨by simpa using x.tm.len,λj d v h g=>?_⟩};rw[nr]at h;split at h
  .rename_i e;subst e;split at h
   .cases h;have:a.eval (.tmp i)=v:=by
     simp only[Act.eval];rw[qX];have:=dF.1 g;have⟨l,n⟩:=this;have b:i<a.tmps.size:=by simpa using l
     simp[uD b,<-n]
    rw[this]at k;subst k;exact .kb m
   .cases h
  .exact x.tm.rv j d v h g
 .exact x
theorem V6{b:Nat->AO}{p:AV}{v:Value}(h:KS b p=Y m)(g:Rv w U ρ p v)(j:∀id,bz w U ρ id (b id)):∃a n i,v=.slice a n i/\(a=Q2->m=Z):=by
 have k:∀{e:Sh}{l:List (Sem e)}{v:Value},Rv w U ρ (.sl e l) v->∃a n i,v=.slice a n i/\(a=Q2->l.isEmpty=Z):=by
  intro e l v g;cases g with
  |sl0 _ a m=>exact⟨a,0,m,rfl,λ_=>rfl⟩
  |sl _ _ x o m _ _ _ _ _ _ _=>simp_all
 cases p<;>simp[KS]at h
 case nils=>
  subst h;cases g with
  |nils a=>exact⟨a,0,0,rfl,λ_=>rfl⟩
 case sl e l=>
  grind
 case vec id=>
  cases g with
  |vec _ _ u _=>
  have d:=j id;split at h
  next e l c=>simp only[bH]at h;subst h;rw[c]at d;have⟨a,m,q,_,t⟩:=d;grind
  next e l c=>simp only[bH]at h;subst h;rw[c]at d;have⟨y,q,s⟩:=d;simp_all
  .cases h
variable {k:TypeId}
theorem zfG{P:Program}{x:TypeId}(b:P.underlying k=Y (.slice x))(h q:Operand)(p:Option Addr)(n c:Nat):
  (do eqGuard .eql k h q (.slice p n c) (.slice Q2 0 0);binOp .eql k (.slice p n c) (.slice Q2 0 0):Go.Sem Value).run P w=.ok (.bool p.isNone) w:=by
 have g:(eqGuard .eql k h q (.slice p n c) (.slice Q2 0 0)).run P w=.ok () w:=by simp[eqGuard]
 have e:(Op.equal k (.slice p n c) (.slice Q2 0 0)).run P w=.ok p.isNone w:=by
  show(Op.equalIn (9999+1) k (.slice p n c) (.slice Q2 0 0)).run P w=.ok p.isNone w;unfold Op.equalIn;rw[dB,bN b];cases p<;>rfl
 have d:(binOp .eql k (.slice p n c) (.slice Q2 0 0):Go.Sem Value)=(do pure (.bool (<-Op.equal k (.slice p n c) (.slice Q2 0 0)))):=rfl;simp_all
theorem R1{ca cb B t:Code}{h j y:Nat}{x:List Item}(g:Lq ca cb=Y (h,j,y,k,B,t))(he:KS s.hp (s.tmps.getD h .any)=Y m)(ht:RR E.P k=Z)(hd:y<s.tmps.length)(hx:j<s.tmps.length)
  (h1:m=Z->Reach E C fn (.code B::x) {s with tmps:=(s.tmps.set j (s.tmps.getD h .any)).set y .any} Q) (h2:Reach E C fn (.code t::x) {s with tmps:=(s.tmps.set j (s.tmps.getD h .any)).set y .any} Q):Reach E C fn (.code (.seq ca cb)::x) s Q:=by
 unfold Lq at g;split at g
 .rename_i id ops d' a0 b0;split at g
  .rename_i o1 o2 h4;split at g
   .rename_i x' s' d0 t0 x1 ty e1 e2 e3 e4 e5 e6;split at g
    .rename_i u;obtain⟨rfl,rfl,x3⟩:=u;cases g;intro b cs a w U ρ F G q hW;have x0:∃el,E.P.underlying k=Y (.slice el):=by
      unfold RR at ht;split at ht
      .exact⟨_,‹_›⟩
      .cases ht
     have⟨el,hu⟩:=x0;have H:Rv w U ρ (s.tmps.getD h .any) (a.eval (.tmp h)):=by
      have:=K7 (E:=E) (known:=[]) q.tm sw hW.gl (.tmp h);simpa[yY]using this
     have⟨p,n,cp,hv,z⟩:=V6 he H (λid=>q.hp.ob id);have h0:s.tmps.length=a.tmps.size:=by have:=q.tm.len;simpa using this
     have A:ops=#[o1,o2]:=by apply kZ;simpa using h4
     generalize d:a.put (Y j) (a.eval (.tmp h))=o;have h6:o.eval (.tmp j)=.slice p n cp:=by
      rw[<-d,hv];simp only[Act.eval,Act.put];rw[qX];simp[h0▸hx]
     have h5:(Code.region id ops M).wp E.P (λe a' w'=>e=.normal/\w'=w/\a'=o.put (Y y) (.bool p.isNone)) a w:=by
      refine wp_region ?_;rw[A];show wpOps E.P #[o1,o2] _ [0,1] a w;simp only[wpOps,Tg,List.getElem?_cons_zero,Region.wanted,e3,zi];refine .inl (fz (v:=a.eval (.tmp h)) (w':=w) (by simp[execOp,e2]) ?_);rw[e1,d];simp only[List.getElem?_cons_succ,List.getElem?_cons_zero,e6,zi];refine .inl (fz (v:=.bool p.isNone) (w':=w) ?_ ?_)
      .have x2:o.tmps.getD j undef=.slice p n cp:=h6;have h3:=zfG (w:=w) hu (.tmp j) (.const (.slice Q2 0 0)) p n cp;have h7:o.eval (.tmp j)=.slice p n cp:=h6;have h8:o.eval (.const (.slice Q2 0 0))=.slice Q2 0 0:=rfl;unfold execOp;rw[e5];simp only[h7,h8];simp only[dB]at h3|-;simp[h3]
      .rw[e4];exact⟨trivial,rfl,rfl⟩
     obtain⟨e,a',w',⟨rfl,rfl,rfl⟩,c⟩:=h5 b (.code (.cond (.tmp y) B t)::x) cs;have i:Cn C {s with tmps:=(s.tmps.set j (s.tmps.getD h .any)).set y .any} (o.put (Y y) (.bool p.isNone)) w' U ρ:=by
      refine⟨?_,q.hp,q.new,?_,q.r0⟩
      .have r1:=nI (d:=Y j) q.tm H;rw[d]at r1;exact nI (d:=Y y) r1 (.any (.bool p.isNone))
      .rw[<-d];exact q.df
     have l:(o.put (Y y) (.bool p.isNone)).eval (.tmp y)=.bool p.isNone:=by
      have h9:y<o.tmps.size:=by rw[<-d];simp[Act.put];omega
      simp only[Act.eval,Act.put];rw[qX];simp[h9]
     cases hp:p with
     | none=>
      rw[hp]at l c i;have⟨e,D,fr,q1,q2,q3⟩:=h1 (z hp) b cs _ w' U ρ F G i hW;exact⟨e,D,fr,q1,mh (.one step_seq) (mh c (mh (.one (step_cond l)) q2)),q3⟩
     | some pa=>
      rw[hp]at l c i;have⟨e,D,fr,q1,q2,q3⟩:=h2 b cs _ w' U ρ F G i hW;exact⟨e,D,fr,q1,mh (.one step_seq) (mh c (mh (.one (step_cond l)) q2)),q3⟩
    .cases g
   .cases g
  .cases g
 .cases g
theorem Kd(hE:zx E){n0:Nat}{f:Func}(hf:E.P.funcs[fn]?=Y f)(hC:∀id,n0<=id->C.ρ0 id=Q2){rs:List ResultVar}(h5:f.results.toList=rs){keep:Nat->aY}:
  ∀(n:Nat)(d:List Item)(B:St),(run E n0 keep rs n d B).Sat (kW E C fn Q)->Reach E C fn d B Q
 |0,_,_,h=>h.elim
 | n + 1,d,B,h=>by
  have u:=Kd hE hf hC h5 (keep:=keep) n;have h0:∀(c:Code)(k:List Item),(mz n0 (keep (fj c)) (fj c) (.code c::.inLoop c::k) B).Sat (kW E C fn Q)->Reach E C fn (.code c::.inLoop c::k) B Q:=by
   intro c k h;unfold mz at h;split at h
   next h3 hn=>intro b g a w U ρ p z o s;have⟨ρ',j⟩:=Uc hC hn o;exact h b g a w U ρ' p z j s
   .exact h.elim
  have cut:∀(kp:aY)(h6:Nat)(d:List Item)(B:St),(mz n0 kp h6 d B).Sat (kW E C fn Q)->Reach E C fn d B Q:=by
   intro kp h6 d B h;unfold mz at h;split at h
   next h3 hn=>intro b g a w U ρ p z o s;have⟨ρ',j⟩:=Uc hC hn o;exact h b g a w U ρ' p z j s
   .exact h.elim
  have m:(yu E n0 rs ((keep 1000000).sett.foldl Kf ((keep 1000000).prom.foldl xJ B))).Sat (kW E C fn Q)->∀(d:List Item),(∀(b:Frame)(a:Act)(g:List Frame)(w:World),step E.P (lone (b.at a d) g w)=.next (lone {b.at a d with mode:=.returning} g w))->Reach E C fn d B Q:=by
   intro h d hs b g a w U ρ p z o s;have⟨ρ',j⟩:=F6 (keep 1000000).prom o;have⟨U',h9,h8⟩:=P5 (gl:=E.gl) (keep 1000000).sett j s;have⟨v,hr,hp⟩:=zoR hf hC h5 h h9 h8;refine⟨.returned v,w,{b.at a d with mode:=.returning},hp,.one (hs b a g w),p,rfl,o.df,z,f,?_,hr⟩;show E.P.funcs[b.fn]?=Y f;rw[p];exact hf
  unfold run at h;split at h
  .exact m h [] (λb a g w=>step_end)
  .exact(u _ _ h).step (λb a g w=>step_inBlock)
  .split at h
   .exact(u _ _ h).step (λb a g w=>step_inLoop)
   .exact(h0 _ _ h).step (λb a g w=>step_inLoop)
  .rename_i c k;split at h
   .exact(u _ _ h).step (λb a g w=>step_skip)
   .exact(u _ _ h).step (λb a g w=>step_label)
   .split at h
    .rename_i hn;split at h
     .rename_i c he;split at h
      next i=>simp only[aO,bc]at i;exact R1 hn he i.1 i.2.1 i.q h.1 h.2
      .exact h.elim
     .exact h.elim
    .exact(u _ _ h).step (λb a g w=>step_seq)
   .rename_i co x y;intro b g a w U ρ p z o s;have l:=K7 (E:=E) (known:=[]) o.tm sw s.gl co;generalize hx:a.eval co=v at l;split at h
    next A=>rw[A]at l;cases l;have⟨e,w',D,F,G,H⟩:=u _ _ h b g a w U ρ p z o s;exact⟨e,w',D,F,mh (.one (step_cond hx)) G,H⟩
    next A=>rw[A]at l;cases l;have⟨e,w',D,F,G,H⟩:=u _ _ h b g a w U ρ p z o s;exact⟨e,w',D,F,mh (.one (step_cond hx)) G,H⟩
    .rename_i t A;rw[A]at l;cases l;cases t
     .have⟨e,w',D,F,G,H⟩:=u _ _ (h.2 rfl) b g a w U ρ p z (Ep o hx) s;exact⟨e,w',D,F,mh (.one (step_cond hx)) G,H⟩
     .have⟨e,w',D,F,G,H⟩:=u _ _ (h.1 rfl) b g a w U ρ p z (Ep o hx) s;exact⟨e,w',D,F,mh (.one (step_cond hx)) G,H⟩
    .exact h.elim
   .exact(u _ _ h).step (λb a g w=>step_block)
   .split at h
    .exact(u _ _ h).step (λb a g w=>step_loop)
    .exact(h0 _ _ h).step (λb a g w=>step_loop)
   .rename_i id;split at h
    next k' hk=>exact(u _ _ h).step (λb a g w=>step_exit hk)
    .exact h.elim
   .exact m h _ (λb a g w=>step_ret)
   .rename_i id ops draw;intro b g a w U ρ p z o s;have⟨h3,hv,hs⟩:=Tr.sat_val (Tr.sat_bind h);obtain⟨e,a',w',⟨rfl,U',ρ',j,h7⟩,h4⟩:=uW (id:=id) hE hv o s b k g;have hR:Reach E C fn k h3 Q:=by
     split at hs
     .exact cut _ _ _ _ hs
     .exact u _ _ hs
    have⟨e,x0,D,F,G,H⟩:=hR b g a' w' U' ρ' p z j h7;exact⟨e,x0,D,F,mh h4 G,H⟩
   .exact h.elim
  .exact h.elim
end
end Cad
