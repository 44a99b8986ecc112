/- Regions whose order is drawn. -/
import Derived.Test.YtgcekmmgphhofaaGreatDoorR07
namespace Cad
open Go
open List renaming length->Io,length->M
open Bool renaming false->Q5,true->Q4,true->Z,false->J
open Option renaming some->Q1,some->Y
open Tr (chk br)
open AV (nils agg tup ptr kb str sl)
structure ym (E:bS) (ops:List Oper) (o:Oper) (s s':RS) (r:DX):Prop where
 /--what is known of slots is so -/
 tm:∃v,s'.tmps=lu s.tmps o.dst v
 len:s.heap.length<=s'.heap.length
 way:(∃(kn:List (Nat×Bool))(f:fb),(∀d b,kn.lookup d=Y b->s.tmps.getD d .any=.bool b\/s.tmps.getD d .any=.kb b)/\
   (∀j want,o.guard=Y (j,want)->∃d,(ops[j]?).bind (·.dst)=Y d/\(s.tmps.getD d .any=.bool want\/s.tmps.getD d .any=.kb want))/\
   (pg E (uI E s.tmps kn) s.hp s.heap.length o).val=Y f/\JV s.hp (uI E s.tmps kn) o=Z/\s'.tmps=lu s.tmps o.dst f.val/\s'.heap=mX s.heap f.wr++f.nw/\
   (∀p∈f.wr,p.1<s.heap.length/\p.1∈tt s.hp (uI E s.tmps kn) o)/\r={fp:=tt s.hp (uI E s.tmps kn) o,wr:=f.wr.map (·.1),base:=s.heap.length,nw:=f.nw.length})\/
  ((∃j want,o.guard=Y (j,want)/\((ops[j]?).bind (·.dst)=none\/∃d,(ops[j]?).bind (·.dst)=Y d/\(s.tmps.getD d .any=.bool (!want)\/s.tmps.getD d .any=.kb (!want)\/∃vs,s.tmps.getD d .any=.tup vs)))/\
   s'.tmps=lu s.tmps o.dst (.tup [])/\s'.heap=s.heap/\r={})
def Yz(s:RS):Prop:=∀d b,s.known.lookup d=Y b->s.tmps.getD d .any=.bool b\/s.tmps.getD d .any=.kb b
variable {d:Option Tmp}
theorem pj{known:List (Nat×Bool)}{i:Nat}{b:Bool}(h:(rR known d).lookup i=Y b):known.lookup i=Y b/\d≠Y i:=by
 cases d with
 |none=>exact⟨h,sw⟩
 | some d=>
  simp only[rR]at h;have x:∀(k:List (Nat×Bool)),(k.filter λp=>p.1!=d).lookup i=Y b->i≠d/\k.lookup i=Y b:=by
   intro k
   induction k with
   |nil=>simp
   | cons p k c=>
    grind
  grind
theorem qu{tmps:List AV}{c:AV}{i:Nat}(h:d≠Y i):(lu tmps d c).getD i .any=tmps.getD i .any:=by
 cases d with
 |none=>rfl
 | some d=>
  simp only[lu,bf];simp_all
variable {s:RS}{o:Oper}
theorem Yz.step{tm:List AV}{c:AV}(h:Yz s)(x:tm=lu s.tmps o.dst c):∀d b,(rR s.known o.dst).lookup d=Y b->tm.getD d .any=.bool b\/tm.getD d .any=.kb b:=by intro d b i;have⟨e,g⟩:=pj i;rw[x,qu g];exact h d b e
variable {E:bS}{ops:List Oper}
theorem tu{x:RS}(k:List (Nat×Bool))(h:(DB E o {s with known:=k}).val=Y x)(i:∀d b,k.lookup d=Y b->s.tmps.getD d .any=.bool b\/s.tmps.getD d .any=.kb b)
  (q:∀j c,o.guard=Y (j,c)->∃d,(ops[j]?).bind (·.dst)=Y d/\(s.tmps.getD d .any=.bool c\/s.tmps.getD d .any=.kb c)):∃r,ym E ops o s x r/\x.log=s.log++[r]/\Yz x:=by
 unfold DB at h;split at h
 .rename_i g;simp only[Tr.val_bind,fV]at h;have⟨f,n,h⟩:=h;split at h
  .rename_i e;simp at h;subst h;refine⟨_,⟨⟨f.val,rfl⟩,by simp[bW],.inl ⟨k,f,i,q,n,g,rfl,rfl,?_,rfl⟩⟩,rfl,?_⟩
   .intro p u;simp only[dg,ar,aT,D0]at e;exact e p u
   .intro d b t;have⟨l,m⟩:=pj t;show(lu s.tmps o.dst f.val).getD d .any=.bool b\/(lu s.tmps o.dst f.val).getD d .any=.kb b;rw[qu m];exact i d b l
  .simp at h
 .simp at h
theorem ld(k:List (Nat×Bool))(g:∀d b,k.lookup d=Y b->s.tmps.getD d .any=.bool b\/s.tmps.getD d .any=.kb b)
  (e:∃j h,o.guard=Y (j,h)/\((ops[j]?).bind (·.dst)=none\/∃d,(ops[j]?).bind (·.dst)=Y d/\(s.tmps.getD d .any=.bool (!h)\/s.tmps.getD d .any=.kb (!h)\/∃v,s.tmps.getD d .any=.tup v))):
  ∃r,ym E ops o s (mb o {s with known:=k}) r/\(mb o {s with known:=k}).log=s.log++[r]/\Yz (mb o {s with known:=k}):=by refine⟨{},⟨⟨_,rfl⟩,zK _,.inr ⟨e,rfl,rfl,rfl⟩⟩,rfl,?_⟩;intro d b i;have⟨x,c⟩:=pj i;show(lu s.tmps o.dst (.tup [])).getD d .any=.bool b\/(lu s.tmps o.dst (.tup [])).getD d .any=.kb b;rw[qu c];exact g d b x
theorem CQ{x:RS}(h:(sj E ops s o).val=Y x)(n:Yz s):∃r,ym E ops o s x r/\x.log=s.log++[r]/\Yz x:=by
 have g:∀d c,uI E s.tmps s.known (.tmp d)=c->(∀b,c=.bool b->s.tmps.getD d .any=.bool b)/\(∀b,c=.kb b->s.tmps.getD d .any=.bool b\/s.tmps.getD d .any=.kb b)/\(∀A,c=.tup A->s.tmps.getD d .any=.tup A):=by
  intro d c F;simp only[uI]at F;cases u:s.known.lookup d with
  | some b=>
   rw[u]at F;subst F;exact⟨sw,λp y=>by cases y;exact n d _ u,sw⟩
  | none=>
   simp_all
 unfold sj at h;split at h
 next m=>exact tu s.known h n (λj e z=>by rw[m]at z;cases z)
 .rename_i j e m;split at h
  next t=>simp at h;subst h;exact ld s.known n ⟨j,e,m,.inl t⟩
  .rename_i d t;split at h
   .rename_i b y;have D:=(g d _ y).2.1 b rfl;split at h
    next k=>simp at k;subst k;exact tu s.known h n (λH i z=>by simp_all)
    .rename_i k;simp at h;subst h;have:b=!e:=by revert k;cases b<;>cases e<;>simp
     subst this;exact ld s.known n ⟨j,e,m,.inr ⟨d,t,D.elim .inl (λh=>.inr (.inl h))⟩⟩
   next A G=>simp at h;subst h;exact ld s.known n ⟨j,e,m,.inr ⟨d,t,.inr (.inr ⟨A,(g d _ G).q A rfl⟩)⟩⟩
   .rename_i b y;have D:=(g d _ y).1 b rfl;have l:∀c,c=b->∀v p,((d,c)::s.known).lookup v=Y p->s.tmps.getD v .any=.bool p\/s.tmps.getD v .any=.kb p:=by
     intro c F v p u;rw[List.lookup_cons]at u;split at u
     .simp_all
     .exact n v p u
    cases b
    .simp only[Tr.val,zO,zr]at h;cases e
     .simp only[zO,zr]at h;exact tu _ h (l J rfl) (λH i z=>by simp_all)
     .simp at h;subst h;exact ld _ (l J rfl) ⟨j,Z,m,.inr ⟨d,t,.inl D⟩⟩
    .simp only[Tr.val,zj]at h;cases e
     .simp at h;subst h;exact ld _ (l Z rfl) ⟨j,J,m,.inr ⟨d,t,.inl D⟩⟩
     .simp only[zj]at h;exact tu _ h (l Z rfl) (λH i z=>by simp_all)
   .simp at h
theorem rg{E:bS}{ops:List Oper}:∀(r:List Oper)(s x:RS),(bP E ops r s).val=Y x->Yz s->∃(S:Nat->RS)(R:Nat->DX),S 0=s/\S (M r)=x/\
  (∀i o,r[i]?=Y o->ym E ops o (S i) (S (i+1)) (R i))/\x.log=s.log++(List.range (M r)).map R/\Yz x
 | [],s,x,h,c=>by
  simp[bP]at h;subst h;exact⟨λ_=>s,λ_=>{},rfl,rfl,sw,sw,c⟩
 | o::r,s,x,h,c=>by
  simp only[bP,Tr.val_bind,fV]at h;have⟨n,j,k⟩:=h;have⟨m,q,b,d⟩:=CQ j c;have⟨S,R,e0,g,p,l,e⟩:=rg r n x k d;refine⟨λi=>match i with|0=>s|i+1=>S i,λi=>match i with|0=>m|i+1=>R i,rfl,g,?_,?_,e⟩
  .grind
  .rw[l,b];simp[List.range_succ_eq_map,wY]
inductive YD (ops:List Oper):Nat->Nat->Prop
 |edge {j:Nat} {o:Oper} {e:Edge} (ho:ops[j]?=Y o) (he:e∈o.after.toList) (hb:Region.binds .any e=Z):YD ops e.on j
 |step {i j:Nat} {o:Oper} {e:Edge} (ho:ops[j]?=Y o) (he:e∈o.after.toList) (hb:Region.binds .any e=Z) (h:YD ops i e.on):YD ops i j
theorem F4{ops:List Oper}:∀(r:List Oper)(x:List (List Nat)),r=ops.drop (M x)->(∀j i,i∈x.getD j []->YD ops i j)->∀j i,i∈(Zs r x).getD j []->YD ops i j
 |[],x,_,h=>h
 | o :: r,x,hr,h=>by
  simp only[Zs];have c:ops[M x]?=Y o:=by
   have:=congrArg (·[0]?) hr;simpa[Aq]using this.symm
  refine F4 r _ (by
   have:=congrArg List.tail hr;simpa using this) ?_
  intro j i b;rw[bf]at b;by_cases l:j<M x
  .grind
  .by_cases d:j=M x
   .subst d;rw[nf (zK _)]at b;simp only[Nat.sub_self,List.getElem?_cons_zero,cD,D2]at b;have⟨e,k,b⟩:=b;split at b
    .rename_i g;rcases bD.1 b with rfl|b
     .exact .edge c k g
     .exact .step c k g (h _ _ b)
    .simp at b
   grind
section
variable {E:bS} {C:eS} {ops:List Oper} {S:Nat->RS} {R:Nat->DX}
structure oK (E:bS) (C:eS) (ops:List Oper) (S:Nat->RS) (R:Nat->DX) (L:Nat->Prop) (a:Act) (w:World) (U:Nat->Prop) (ρ:Nat->Option Value) (hpD:Nat->AO):Prop where
 cl:∀(j:Nat)(o:Oper)(e:Edge),ops[j]?=Y o->L j->e∈o.after.toList->Region.binds .any e=Z->L e.on
 W:Wd E.gl C w U
 H:fE C w U ρ hpD
 tl:a.tmps.size=(S 0).tmps.length
 tm:∀(s k:Nat),k<=M ops->(∀(j:Nat)(o:Oper),ops[j]?=Y o->o.dst=Y s->(L j↔j<k))->Rv w U ρ ((S k).tmps.getD s .any) (a.tmps.getD s undef)
 hp:∀(id k:Nat),k<=M ops->(∀j,j<M ops->dF (R j) id=Z->(L j↔j<k))->(S k).hp id=hpD id
 rn:∀id,(S 0).heap.length<=id->(∀j,j<M ops->L j->fX (R j) id=J)->ρ id=none
 df:a.defers=[]
 r0:∀id v,C.ρ0 id=Y v->ρ id=Y v
variable {o:Oper}{s x:RS}{r:DX}{i:Nat}
theorem ym.slots(h:ym E ops o s x r)(b:o.dst≠Y i):x.tmps.getD i .any=s.tmps.getD i .any:=by have⟨v,c⟩:=h.tm;rw[c,qu b]
theorem ym.tlen(h:ym E ops o s x r):x.tmps.length=s.tmps.length:=by have⟨v,b⟩:=h.tm;rw[b];cases o.dst<;>simp[lu]
theorem ym.wrfp(h:ym E ops o s x r):∀id∈r.wr,id∈r.fp:=by
 rcases h.way with⟨k,f,_,_,_,_,_,_,b,rfl⟩|⟨_,_,_,rfl⟩
 .grind
 .simp
variable {id:Nat}
theorem ym.news(h:ym E ops o s x r)(b:fX r id=Z):s.heap.length<=id/\id<x.heap.length:=by
 rcases h.way with⟨k,f,_,_,_,_,_,c,d,rfl⟩|⟨_,_,_,rfl⟩
 .simp[fX]at b;rw[c];simp[bW];omega
 .simp[fX]at b
theorem ym.objs(h:ym E ops o s x r)(e:dF r id=J):x.hp id=s.hp id:=by
 rcases h.way with⟨l,f,_,_,_,_,_,b,k,rfl⟩|⟨_,_,b,rfl⟩
 .simp[dF,fX]at e;have⟨g,i⟩:=e;simp only[RS.hp,b];by_cases c:id<s.heap.length
  .rw[bf,qQ (by rw[bW];exact c),<-bf];exact qN f.wr s.heap id (λ⟨j,d⟩=>g j d)
  .rw[bf,bf,eA (by simp[bW];have:=i ow;omega),eA ow]
 .simp only[RS.hp,b]
theorem mc(c:∀(i:Nat)(o:Oper),ops[i]?=Y o->ym E ops o (S i) (S (i+1)) (R i)){s:Nat}:∀(d i:Nat),i+d<=M ops->(∀(j:Nat)(o:Oper),ops[j]?=Y o->o.dst=Y s->i<=j->j<i+d->False)->
  (S (i+d)).tmps.getD s .any=(S i).tmps.getD s .any
 |0,_,_,_=>rfl
 | d+1,i,l,h=>by
  have b:i+d<M ops:=by omega
  have x:ops[i+d]?=Y ops[i+d]:=zQ b;rw[show i+(d+1)=(i+d)+1 by omega,(c _ _ x).slots (λe=>h _ _ x e ow ow)];exact mc c d i ow (λj o m k g n=>h j o m k g ow)
theorem jX(c:∀(i:Nat)(o:Oper),ops[i]?=Y o->ym E ops o (S i) (S (i+1)) (R i)){id:Nat}:∀(d i:Nat),i+d<=M ops->(∀j,i<=j->j<i+d->dF (R j) id=J)->
  (S (i+d)).hp id=(S i).hp id
 |0,_,_,_=>rfl
 | d+1,i,g,h=>by
  have b:i+d<M ops:=by omega
  have x:ops[i+d]?=Y ops[i+d]:=zQ b;rw[show i+(d+1)=(i+d)+1 by omega,(c _ _ x).objs (h _ ow ow)];exact jX c d i ow (λj e k=>h j e ow)
theorem km(b:∀(i:Nat)(o:Oper),ops[i]?=Y o->ym E ops o (S i) (S (i+1)) (R i)):∀(d i:Nat),i+d<=M ops->(S i).heap.length<=(S (i+d)).heap.length
 |0,_,_=>zK _
 | d+1,i,c=>by
  have x:i+d<M ops:=by omega
  have h:ops[i+d]?=Y ops[i+d]:=zQ x;exact aB (km b d i ow) (b _ _ h).len
theorem C5(b:∀(i:Nat)(o:Oper),ops[i]?=Y o->ym E ops o (S i) (S (i+1)) (R i)):∀i,i<=M ops->(S i).tmps.length=(S 0).tmps.length
 |0,_=>rfl
 | i+1,h=>by
  have x:ops[i]?=Y ops[i]:=zQ h;rw[(b _ _ x).tlen,C5 b i ow]
variable {j:Nat}
theorem BZ(x:∀(i:Nat)(o:Oper),ops[i]?=Y o->ym E ops o (S i) (S (i+1)) (R i))(d:i<M ops)(e:j<M ops)(b:fX (R i) id=Z)(c:fX (R j) id=Z):i=j:=by
 have gi:=(x i _ (zQ d)).news b;have g:=(x j _ (zQ e)).news c;rcases Nat.lt_trichotomy i j with h|h|h
 .have:=km x (j-(i+1)) (i+1) ow;grind
 .exact h
 .have:=km x (i-(j+1)) (j+1) ow;grind
structure IP (ops:List Oper) (R:Nat->DX) (i j:Nat) (a:Nat) (oi oj:Oper):Prop where
 hi:ops[i]?=Q1 oi
 hj:ops[j]?=Q1 oj
 opi:∃t x k,oi.op=.lookup t x k Q5
 opj:∃t m k,oj.op=.mapEntry t m k
 fpi:(R i).fp=[a]
 wri:(R i).wr=[]
 nwi:(R i).nw=0
 wrj:(R j).wr=[a]
 nwj:(R j).nw=0
 sl:(iy oi.dst.toList (e7 ops oj)||iy oi.dst.toList oj.dst.toList||iy (e7 ops oi) oj.dst.toList)=Q5
 lt:i<j
 oth:∀l,l<Io ops->dF (R l) a=Q4->l<i\/l=j\/(j<l/\YD ops i l)
structure lv (ops:List Oper) (R:Nat->DX):Prop where
 back:∀(j:Nat)(o:Oper)(e:Edge),ops[j]?=Y o->e∈o.after.toList->Region.binds .any e=Z->e.on<j
 anc:∀(i j:Nat)(oi oj:Oper),i<j->ops[i]?=Y oi->ops[j]?=Y oj->sN ops oi oj (R i) (R j)=Z->YD ops i j\/∃a,IP ops R i j a oi oj
theorem Nl{c:List DX}(h:tT ops c=Z)(n:c=(List.range (M ops)).map R):lv ops R:=by
 unfold tT at h;simp only[ar,dg]at h;have⟨G,H⟩:=h;constructor
 .intro j o e y he hb;have d:j<M ops:=(cQ.1 y).1;have p:(o,j)∈ops.zipIdx:=by
   rw[List.mem_zipIdx_iff_getElem?];exact y
  have:=G _ p e he;simpa[hb]using this
 .intro i j oi oj g u q hc;have d:j<M ops:=(cQ.1 q).1;have:=H j (jF.2 d) i (jF.2 g);have s:∀k,k<M ops->c[k]?=Y (R k):=by intro k hk;rw[n];simp[ly hk]
  have li:c[i]?=Y (R i):=s i ow;have lj:c[j]?=Y (R j):=s j d;simp only[u,q,li,lj,hc,gv,Bool.false_or,iJ,D0]at this;rcases this with this|this
  .exact .inl (F4 ops [] sw sw j i this)
  .unfold X1 at this;split at this
   .rename_i t x k t' m k' a b z A D F;simp only[ar,wX,be,dg,List.isEmpty_iff,jF]at this;have⟨⟨⟨⟨⟨t1,t2⟩,t3⟩,t4⟩,t5⟩,t6⟩:=this;subst t1;refine .inr ⟨b,u,q,⟨t,x,k,z⟩,⟨t',m,k',A⟩,D,t2,t3,F,t4,t5,g,λl v ht=>?_⟩;have:=t6 l v;rw[s l v]at this;simp only[ht,gv,Bool.false_or,iJ,aT,be,ar,D0]at this;rcases this with(this|this)|⟨this,P⟩
    .exact .inl this
    .exact .inr (.inl this)
    .exact .inr (.inr ⟨this,F4 ops [] sw sw l i P⟩)
   .cases this
theorem IP.touch{a:Nat}{x:Oper}(h:IP ops R i j a o x)(id:Nat):dF (R i) id=J:=by unfold dF fX;rw[h.wri,h.nwi];simp
theorem qr{a b:List Nat}:iy a b=Z↔∃x,x∈a/\x∈b:=by simp[iy]
variable {L:Nat->Prop} {a:Act} {w:World} {U:Nat->Prop} {ρ:Nat->Option Value} {hpD:Nat->AO}
theorem oK.anc(h:oK E C ops S R L a w U ρ hpD)(e:YD ops i j)(d:L j):L i:=by
 induction e with
 |edge c b x=>exact h.cl _ _ _ c d b x
 |step c b x _ g=>exact g (h.cl _ _ _ c d b x)
theorem oK.ready(h:oK E C ops S R L a w U ρ hpD)(g:ops[j]?=Y o)(k:∀e∈o.after.toList,Region.binds .any e=Z->L e.on)(d:YD ops i j):L i:=by
 cases d with
 |edge x c b=>simp_all
 |step x c b l=>rw[g]at x;cases x;exact h.anc l (k _ c b)
theorem oK.slotAt(q:lv ops R)(h:oK E C ops S R L a w U ρ hpD)(n:ops[i]?=Y o)(t:¬L i)(v:∀e∈o.after.toList,Region.binds .any e=Z->L e.on){s:Nat}
  (g:s∈e7 ops o\/o.dst=Y s):∀(j:Nat)(c:Oper),ops[j]?=Y c->c.dst=Y s->(L j↔j<i):=by
 intro j c k u;constructor
 .intro p;rcases Nat.lt_trichotomy j i with x|rfl|x
  .exact x
  .exact(t p).elim
  .exfalso;have d:(iy o.dst.toList (e7 ops c)||iy o.dst.toList c.dst.toList||iy (e7 ops o) c.dst.toList)=Z:=by
    simp only[iJ,qr];rcases g with g|g
    .exact .inr ⟨s,g,by simp[u]⟩
    .simp_all
   rcases q.anc i j o c x n k (by unfold sN;simp only[d,Bool.true_or])with l|⟨b,m⟩
   .exact t (h.anc l p)
   .rw[m.sl]at d;cases d
 .intro x;have d:(iy c.dst.toList (e7 ops o)||iy c.dst.toList o.dst.toList||iy (e7 ops c) o.dst.toList)=Z:=by
   simp only[iJ,qr];rcases g with g|g
   .simp_all
   .simp_all
  rcases q.anc j i c o x k n (by unfold sN;simp only[d,Bool.true_or])with l|⟨b,m⟩
  .exact h.ready n v l
  .rw[m.sl]at d;cases d
theorem oK.objAt(q:∀(i:Nat)(o:Oper),ops[i]?=Y o->ym E ops o (S i) (S (i+1)) (R i))(F:lv ops R)(h:oK E C ops S R L a w U ρ hpD)(l:ops[i]?=Y o)(P:¬L i)
  (hr:∀e∈o.after.toList,Region.binds .any e=Z->L e.on)  (m:id∈(R i).fp\/dF (R i) id=Z) (v:∀j a n,¬(IP ops R i j a o n/\L j)):∀j,j<M ops->dF (R j) id=Z->(L j↔j<i):=by
 intro j G y;have H:i<M ops:=(cQ.1 l).1;have g:ops[j]?=Y ops[j]:=zQ G;have z:=(q i o l).wrfp;have h0:=(q j _ g).wrfp;have p:id∈(R j).wr\/fX (R j) id=Z:=by simpa[dF]using y
 have t:id∈(R i).fp\/fX (R i) id=Z:=by
  rcases m with m|m
  .exact .inl m
  .have:id∈(R i).wr\/fX (R i) id=Z:=by simpa[dF]using m
   exact this.imp (z id) (λx=>x)
 by_cases k:i=j
 .simp_all
 have c:∀(A n:Oper),sN ops A n (R i) (R j)=Z/\sN ops n A (R j) (R i)=Z:=by
  intro A n;unfold sN;simp only[iJ,qr,List.any_eq_true];rcases t with t|t<;>rcases p with p|p
  .grind
  .grind
  .grind
  .exact(k (BZ q H G t p)).elim
 constructor
 .intro D;rcases Nat.lt_or_gt_of_ne k with d|d
  .rcases F.anc i j o _ d l g (c o _).1 with s|⟨b,u⟩
   .exact(P (h.anc s D)).elim
   .exact(v _ _ _ ⟨u,D⟩).elim
  .exact d
 .intro d;rcases F.anc j i _ o d g l (c o _).2 with s|⟨b,u⟩
  .exact h.ready l hr s
  .rw[u.touch id]at y;cases y
theorem To(e:List ((Int×Int×zD)×Int))(v k:Int×Int×zD):gp (js e v) k=gp e k:=by
 unfold js;cases nV e v with
 |true=>rfl
 | false=>
  simp only[bT,gp,List.find?_append];grind
theorem Dy{P:Program}{b e:Nat->AO}{m:TypeId}{c p:AV}{f:fb}{x:Nat}{j:List ((Int×Int×zD)×Int)}{v:Int×Int×zD}(h:(kM P b m c p false).val=some f)(o:∀id∈c.ids,id=x)
  (k:b x=.vmap J j) (l:e x=.vmap J (js j v)):(kM P e m c p J).val=Y f:=by
 cases c with
 | mp id=>
  have:id=x:=o id (by simp[AV.ids]);subst this;unfold kM at h|-;cases i:P.underlying m with
  |none=>simp[i]at h
  | some u=>
   cases u with
   | map q t=>
    simp only[i]at h|-;cases g:P.underlying q with
    |none=>simp[g]at h
    | some s=>
     cases s with
     |string=>grind
     | struct fs=>
      simp only[g]at h|-;split at h
      .rename_i n;rw[zf n];cases d:N2 p with
       |none=>simp[d]at h
       | some y=>
        simp only[d,k,zO,zr]at h;simp only[l,zO,zr,To];exact h
      .simp at h
     |_=>simp[g]at h
   |_=>simp[i]at h
 | _=>
  exfalso;unfold kM at h;split at h
  .split at h
   .split at h<;>simp_all
   .simp_all
   .simp at h
  .simp at h
end
section
variable {E:bS} {C:eS} {ops:List Oper} {S:Nat->RS} {R:Nat->DX} {L:Nat->Prop} {a:Act} {w:World} {U:Nat->Prop} {ρ:Nat->Option Value} {hpD:Nat->AO}
variable {a:Act}{d:Option Tmp}{v:Value}{i:Nat}
theorem XD(h:d≠Y i):(a.put d v).tmps.getD i undef=a.tmps.getD i undef:=by
 cases d with
 |none=>rfl
 | some d=>
  simp only[Act.put,oD];simp_all
theorem XE:(a.put d v).tmps.size=a.tmps.size:=by cases d<;>simp[Act.put]
theorem Np:(a.put d v).defers=a.defers:=by cases d<;>rfl
theorem KO{c:AV}{tmps:List AV}(b:M tmps=a.tmps.size)(h:Rv w U ρ c v):Rv w U ρ ((lu tmps (Y i) c).getD i .any) ((a.put (Y i) v).tmps.getD i undef):=by
 simp only[lu,Act.put,bf,oD];by_cases x:i<M tmps
 .simp_all
 .rw[oh,zf rfl,zh x];exact .any _
variable {o:Oper}{b:Nat->AO}
theorem oK.next(H:∀(i:Nat)(o:Oper),ops[i]?=Y o->ym E ops o (S i) (S (i+1)) (R i))(hO:lv ops R)(h:oK E C ops S R L a w U ρ hpD)(D:ops[i]?=Y o)(hn:¬L i)
  (hr:∀e∈o.after.toList,Region.binds .any e=Z->L e.on)  {A:World} {u:Nat->Prop} {t:Nat->Option Value}  (hW:Wd E.gl C A u) (hH:fE C A u t b)
  (h4:∀{c:AV}{x:Value},Rv w U ρ c x->Rv A u t c x) (hv:∀s,o.dst=Y s->Rv A u t ((S (i+1)).tmps.getD s .any) ((a.put o.dst v).tmps.getD s undef))
  (y:∀id,b id=if dF (R i) id then(S (i+1)).hp id else hpD id) (h3:∀id,fX (R i) id=J->t id=ρ id) (n:∀id v,ρ id=Y v->t id=Y v):
  oK E C ops S R (λj=>L j\/j=i) (a.put o.dst v) A u t b:=by
 have hi:i<M ops:=(cQ.1 D).1;refine⟨?_,hW,hH,by rw[XE];exact h.tl,?_,?_,?_,by rw[Np];exact h.df,λid v h'=>n id v (h.r0 id v h')⟩
 .grind[cl]
 .intro s k hk d;by_cases hd:o.dst=Y s
  .have P:i<k:=(d i o D hd).1 (.inr rfl);have h0:∀(j:Nat)(q:Oper),ops[j]?=Y q->q.dst=Y s->i+1<=j->j<k->False:=by
    intro j q m l F G;have g:=(d j q m l).2 G;rcases g with g|rfl
    .have:=(h.slotAt hO D hn hr (.inr hd) j q m l).1 g;omega
    .omega
   have hb:=mc H (s:=s) (k-(i+1)) (i+1) ow (λj q m l F G=>h0 j q m l F ow);grind
  grind[XD,tm]
 .intro id k hk d;rw[y id];by_cases z:dF (R i) id=Z
  .rw[zf z];have P:i<k:=(d i hi z).1 (.inr rfl);have hb:=jX H (id:=id) (k-(i+1)) (i+1) ow (λj F G=>by
    by_cases p:dF (R j) id=Z
    .exfalso;have g:=(d j ow p).2 ow;rcases g with g|rfl
     .have:=(h.objAt H hO D hn hr (.inr z) (λ_ _ _ hh=>by rw[hh.1.touch id]at z;cases z) j ow p).1 g;omega
     .omega
    .simpa using p)
   grind
  grind[hp]
 grind[rn]
theorem GA{P:Program}{m:TypeId}{c p:AV}{f:fb}{x:Nat}(h:(th P b m c p).val=Y f)(d:f.wr.map (·.1)=[x]):
  ∃e v,b x=.vmap J e/\f.wr=[(x,.vmap J (js e v))]/\f.nw=[]:=by
 unfold th at h;split at h
 .grind[Tr.val]
 .simp at h
theorem oK.objX(hS:∀(i:Nat)(o:Oper),ops[i]?=Y o->ym E ops o (S i) (S (i+1)) (R i))(hO:lv ops R)(h:oK E C ops S R L a w U ρ hpD)(G:ops[i]?=Y o)(hn:¬L i)
  (hr:∀e∈o.after.toList,Region.binds .any e=Z->L e.on) {k:List (Nat×Bool)} {f:fb} {j:Nat} (A:(pg E (uI E (S i).tmps k) (S i).hp j o).val=Y f) (p:(R i).fp=tt (S i).hp (uI E (S i).tmps k) o)
  (h7:JV (S i).hp (uI E (S i).tmps k) o=Z):∃y:Nat->AO,(pg E (uI E (S i).tmps k) y j o).val=Y f/\(∀id,id∈(R i).fp\/dF (R i) id=Z->y id=hpD id)/\
   (rG o.op=Z->∀id∈(R i).fp,∀c∈(y id).ids,c∈(R i).fp):=by
 have hi:i<M ops:=(cQ.1 G).1;have⟨h9,h6⟩:=By h7;by_cases d:∃c b D,IP ops R i c b o D/\L c
 .have⟨c,b,D,d,x3⟩:=d;have x4:c<M ops:=(cQ.1 d.hj).1;have x5:=d.lt;have s:∀l,l<M ops->dF (R l) b=Z->(L l↔l<c+1):=by
   intro l hl z;rcases d.oth l hl z with P|rfl|⟨P,h2⟩
   .refine⟨λ_=>by omega,λ_=>?_⟩;have hc:sN ops ops[l] o (R l) (R i)=Z:=by
     unfold sN;simp only[iJ,qr,List.any_eq_true];have H:b∈(R l).wr\/fX (R l) b=Z:=by simpa[dF]using z
     have bi:b∈(R i).fp:=by rw[d.fpi];simp
     rcases H with H|H
     .grind
     .exact .inl (.inr ⟨b,bi,H⟩)
    rcases hO.anc l i _ o P (zQ hl) G hc with ha|⟨b',h0⟩
    .exact h.ready G hr ha
    .rw[h0.touch b]at z;cases z
   .simp_all
   .grind[anc]
  have e1:(S (c+1)).hp b=hpD b:=h.hp b (c+1) ow s;have e2:(S c).hp b=(S i).hp b:=by
   have:=jX hS (id:=b) (c-i) i ow (λl P h2=>by
    by_cases z:dF (R l) b=Z
    .rcases d.oth l ow z with F|F|⟨F,_⟩<;>omega
    .simpa using z)
   rwa [show i+(c-i)=c by omega]at this
  have⟨t,m,x,x0⟩:=d.opj;rcases(hS c D d.hj).way with⟨x6,f',_,_,n,_,_,h8,x1,q⟩|⟨_,_,_,q⟩
  .have hw:f'.wr.map (·.1)=[b]:=by rw[<-d.wrj,q]
   unfold pg at n;rw[x0]at n;simp only at n;have⟨es,v,F,h4,h5⟩:=GA n hw;have hb:=(x1 (b,.vmap J (js es v)) (by rw[h4];simp)).1;have e3:(S (c+1)).hp b=.vmap J (js es v):=by
    simp only[RS.hp,h8,h4,h5,mX,D3];rw[bf,Oq hb];rfl
   have⟨t2,x2,k2,g⟩:=d.opi;refine⟨(S (c+1)).hp,?_,?_,?_⟩
   .unfold pg at A|-;rw[g]at A|-;simp only at A|-;refine Dy A (λid u=>?_) (by rw[<-e2];exact F) e3;have:=h9 (by rw[g];rfl) x2 (by rw[g];simp[Op.operands]) id u;rw[<-p,d.fpi]at this;simpa using this
   .grind[IP.fpi,IP.touch]
   grind[IP.fpi,AO.ids]
  .have:=d.wrj;rw[q]at this;cases this
 .refine⟨(S i).hp,A,λid u=>h.hp id i ow (h.objAt hS hO G hn hr u (λc a D hh=>d ⟨c,a,D,hh⟩)),?_⟩;rw[p];exact h6
theorem Z0(hE:zm E)(hS:∀(i:Nat)(o:Oper),ops[i]?=Y o->ym E ops o (S i) (S (i+1)) (R i))(hO:lv ops R)(h:oK E C ops S R L a w U ρ hpD)(ho:ops[i]?=Y o)(hn:¬L i)
  (hr:∀e∈o.after.toList,Region.binds .any e=Z->L e.on) (K:Act->World->Prop) (Q:Exit->Act->World->Prop)
  (hK:∀a' w' U' ρ' x4,oK E C ops S R (λj=>L j\/j=i) a' w' U' ρ' x4->K a' w'):wpOp E.P ops.toArray Q i K a w:=by
 have hi:i<M ops:=(cQ.1 ho).1;have x2:ops.toArray[i]?=Y o:=by simpa using ho
 have h9:=hS i o ho;have u:∀s,s∈e7 ops o->Rv w U ρ ((S i).tmps.getD s .any) (a.tmps.getD s undef):=λs hs=>h.tm s i ow (h.slotAt hO ho hn hr (.inl hs))
 have h4:(S i).tmps.length=a.tmps.size:=by rw[C5 hS i ow,h.tl]
 have G:∀(j:Nat)(m:Bool) d,o.guard=Y (j,m)->(ops[j]?).bind (·.dst)=Y d->Rv w U ρ ((S i).tmps.getD d .any) (a.tmps.getD d undef):=by
  intro j m d hg A;refine u d ?_;simp only[e7,hg,bX];exact .inr (by simp[A])
 have y:∀(j:Nat)(d:Nat)(b:Bool),(ops[j]?).bind (·.dst)=Y d->a.tmps.getD d undef=.bool b->yielded ops.toArray a.tmps j=Y b:=by
  intro j d b A hb;have D:(ops.toArray[j]?).bind (·.dst)=Y d:=by simpa using A
  rw[oD]at hb;have:a.tmps[d]?=Y (.bool b):=by
   cases ht:a.tmps[d]? with
   |none=>rw[ht]at hb;simp[undef]at hb
   |some v=>rw[ht]at hb;simp at hb;rw[hb]
  unfold yielded;rw[D];simp[this]
 have n:∀(c:AV)(x:Value)(b:Bool),Rv w U ρ c x->(c=.bool b\/c=.kb b)->x=.bool b:=by
  rintro c x b hr (rfl|rfl)<;>cases hr<;>rfl
 unfold wpOp;rw[x2];show(ite (Region.wanted o (yielded ops.toArray a.tmps)) _ _);rcases h9.way with⟨kn,f,a4,hg,hf,x1,h7,x3,a9,hR⟩|⟨⟨j,m,hg,h5⟩,h7,x3,hR⟩
 ·
  have hw:Region.wanted o (yielded ops.toArray a.tmps)=Z:=by
   unfold Region.wanted;split
   .rfl
   .grind
  rw[zf hw];refine .inl ?_;have⟨a2,_⟩:=By x1;have l:(R i).fp=tt (S i).hp (uI E (S i).tmps kn) o:=by rw[hR]
  have⟨i1,a1,k,h8⟩:=h.objX hS hO ho hn hr hf l x1;rw[l]at h8;have x9:∀id,fX (R i) id=Z↔(S i).heap.length<=id/\id<(S i).heap.length+f.nw.length:=by intro id;rw[hR];simp[fX]
  have z:∀id,dF (R i) id=Z↔(∃o',(id,o')∈f.wr)\/((S i).heap.length<=id/\id<(S i).heap.length+f.nw.length):=by
   intro id;rw[hR];simp[dF,fX]
  have h6:∀j,j<f.nw.length->ρ ((S i).heap.length+j)=none:=by
   intro j hj;have hm:=km hS i 0 ow;rw[dz]at hm;refine h.rn _ ow (λj' a3 hL=>?_);by_cases h3:fX (R j') ((S i).heap.length+j)=Z
   .have:=BZ hS hi a3 ((x9 _).2 ⟨ow,ow⟩) h3;subst this;exact(hn hL).elim
   .simpa using h3
  have⟨a8,_⟩:=EY hE (w:=w) (U:=U) (ρ:=ρ) (a:=a) (fp:=tt (S i).hp (uI E (S i).tmps kn) o) a1 (λx hx=>by
    cases x with
    | tmp t=>
     have a6:t∈e7 ops o:=by
      simp only[e7,bX,List.mem_filterMap];exact .inl ⟨.tmp t,hx,rfl⟩
     have:=u t a6;simp only[uI,Act.eval];cases hk:kn.lookup t with
     | some b=>
      rw[n _ _ b this (a4 t b hk)];exact .kb b
     |none=>exact this
    |const v=>exact pW v
    |global g=>exact(h.W.gl g).mono (zK _) (λ_ _ _=>rfl) (λ_ _ h=>h) (λ_ _ h=>by cases h)
    |func f=>simp only[uI,Act.eval];exact .clo (.func f) [] [] [] [] rfl rfl sw sw)
   h.W.ub h.W.gl
   ⟨λid q=>by rw[k id (.inl (by rw[l];exact q))];exact h.H.ob id,λx5 h1 x6 h2 b=>by
    rw[k x5 (.inl (by rw[l];exact h1)),k x6 (.inl (by rw[l];exact h2))];exact h.H.inj x5 x6 b⟩ a2 h8 h6
  refine a8 K Q (λv w' U' ρ' F=>?_);have a7:∀p∈f.wr,p.1<(S i).heap.length:=λp hp=>(a9 p hp).1
  have a5:∀id,dF (R i) id=Z->(S (i+1)).hp id=(mX (S i).heap f.wr++f.nw).getD id .dead:=by
   intro id _;simp only[RS.hp,x3]
  have⟨a0,x8,x7⟩:=Au (hp':=λid=>if dF (R i) id then(S (i+1)).hp id else hpD id) h.W h.H F (λid o' q=>k id (.inr ((z id).2 (.inl ⟨o',q⟩))))
   (λid x0=>by
    have⟨o',h1,h2⟩:=qO f.wr (S i).heap id a7 x0;have ht:=(z id).2 (.inl x0);grind[bW])
   (λj o' hj=>by
    grind[bW])
   (λid i0 q=>by
    grind)
  refine hK _ _ U' ρ' _ (h.next hS hO ho hn hr a0 x8 x7 ?_ (λid=>rfl) (λid q=>F.rho id ?_) F.rhon)
  .intro s hs;rw[h7,hs];exact KO h4 F.val
  grind
 ·
  have hw:¬Region.wanted o (yielded ops.toArray a.tmps)=Z:=by
   unfold Region.wanted;rw[hg];simp only[be];rcases h5 with A|⟨d,A,hv⟩
   .have D:(ops.toArray[j]?).bind (·.dst)=none:=by simpa using A
    unfold yielded;rw[D];simp
   .have h0:=G j m d hg A;rcases hv with hv|hv|⟨vs,hv⟩
    .grind
    .rw[y j d _ A (n _ _ _ h0 (.inr hv))];cases m<;>simp
    .rw[hv]at h0;have D:(ops.toArray[j]?).bind (·.dst)=Y d:=by simpa using A
     generalize hx:a.tmps.getD d undef=x at h0;cases h0 with
     |tup _ xs _ _=>
     rw[oD]at hx;unfold yielded;grind
  rw[zh hw];have z:∀id,dF (R i) id=J:=by intro id;rw[hR];simp[dF,fX]
  refine hK _ _ U ρ hpD (h.next hS hO ho hn hr h.W h.H (λh=>h) ?_ (λid=>by rw[z id];rfl) (λ_ _=>rfl) (λ_ _ h=>h));intro s hs;rw[h7,hs];exact KO h4 (.tup [] [] rfl sw)
def dT(l:Array Bool)(j:Nat):Prop:=l.getD j J=Z
variable {l:Array Bool}
theorem M9(h:i<l.size):dT (l.setIfInBounds i Z)=λj=>dT l j\/j=i:=by funext j;unfold dT;simp only[oD];grind
theorem Fy{listed:Array Bool}(g:listed.size=M ops)(h:i∈Region.ready .any ops.toArray listed):
  ∃o,ops[i]?=Y o/\¬dT listed i/\∀e∈o.after.toList,Region.binds .any e=Z->dT listed e.on:=by
 unfold Region.ready at h;simp only[List.mem_filter,jF,ar]at h;have⟨d,j,c⟩:=h;simp at d;have x:ops[i]?=Y ops[i]:=zQ d;refine⟨ops[i],x,?_,λe l k=>?_⟩
 .unfold dT;simp_all
 .have b:(ops[i].after.all λe=>!Region.binds .any e||listed.getD e.on J)=Z:=by
   have:ops.toArray[i]?=Y ops[i]:=by simp
   rw[this]at c;simpa using c
  rw[<-Array.all_toList]at b;grind[dT]
theorem SR(n:l.size=M ops)(x:∀(j:Nat)(o:Oper)(e:Edge),ops[j]?=Y o->e∈o.after.toList->Region.binds .any e=Z->e.on<j)
  (h:Region.ready .any ops.toArray l=[]):∀j,j<M ops->dT l j:=by
 intro j
 induction j using Nat.strongRecOn with
 | _ j p=>
  intro g;apply sB;intro m;have b:ops[j]?=Y ops[j]:=zQ g;have:j∈Region.ready .any ops.toArray l:=by
   unfold Region.ready;simp only[List.mem_filter,jF,ar];refine⟨by simpa using g,?_,?_⟩
   .unfold dT at m;simp_all
   .have i:ops.toArray[j]?=Y ops[j]:=by simp
    rw[i];simp only[As,cD];rw[<-Array.all_toList,dg];intro e k;by_cases c:Region.binds .any e=Z
    .have d:=x j _ e b k c;have:=p e.on d ow;simp only[c,gv,Bool.false_or];exact this
    .simp[c]
  rw[h]at this;simp at this
theorem Ly(v:zm E)(y:∀(i:Nat)(o:Oper),ops[i]?=Y o->ym E ops o (S i) (S (i+1)) (R i))(t:lv ops R){Q:Exit->Act->World->Prop}
  (u:∀a w U ρ hpD(L:Nat->Prop),(∀j,j<M ops->L j)->oK E C ops S R L a w U ρ hpD->Q .normal a w):
  ∀(c:Nat)(x:Array Bool)(a:Act)(w:World)(U:Nat->Prop)(ρ:Nat->Option Value)(hpD:Nat->AO),x.size=M ops->(x.toList.filter (! ·)).length<=c->
   oK E C ops S R (dT x) a w U ρ hpD->wpAny E.P .any ops.toArray Q c x a w
 | 0,x,a,w,U,ρ,hpD,e,H,h=>by
  have g:∀b∈x.toList,b=Z:=by
   have:x.toList.filter (! ·)=[]:=Do ow;intro b p;have:=List.filter_eq_nil_iff.1 this b p;simpa using this
  have G:∀j,j<M ops->dT x j:=by
   intro j hj;unfold dT;rw[oD,oP ow];exact g _ sw
  refine⟨?_,u a w U ρ hpD _ G h⟩;apply List.eq_nil_iff_forall_not_mem.2;grind[Fy]
 | c+1,x,a,w,U,ρ,hpD,e,H,h=>by
  refine⟨λm=>u a w U ρ hpD _ (SR e t.back m) h,λi k=>?_⟩;have⟨o,z,s,hr⟩:=Fy e k;have d:i<x.size:=by rw[e];exact(cQ.1 z).1
  refine Z0 v y t h z s hr _ Q (λD w' A ρ' n F=>?_);refine Ly v y t u c _ D w' A ρ' n (by simpa using e) ?_ (by rw[M9 d];exact F);have q:x.toList[i]'(by simpa using d)=J:=by
   unfold dT at s;rw[oD,oP d]at s;simpa using s
  have h0:∀(l:List Bool)(i:Nat)(k:i<M l),l[i]=J->(l.filter (! ·)).length=((l.set i Z).filter (! ·)).length+1:=by
   intro l
   induction l with
   |nil=>intro i k;simp at k
   | cons b l ih=>
    intro i k p;cases i with
    |zero=>simp at p;subst p;simp
    | succ i=>
     grind
  grind
theorem K2(hE:zm E){id:Nat}{s x:RS}(h:(bP E ops ops s).val=Y x)(h0:s.log=[])(h5:s.known=[])(h4:tT ops x.log=Z)(t:wO C s a w U ρ)(G:Wd E.gl C w U):
  (Code.region id ops.toArray Z).wp E.P (λe a' w'=>e=.normal/\∃U' ρ',wO C x a' w' U' ρ'/\Wd E.gl C w' U') a w:=by
 have⟨S,R,e0,eN,z,hL,h6⟩:=rg ops s x h (by intro d b hl;rw[h5]at hl;simp at hl);have hO:lv ops R:=Nl h4 (by rw[hL,h0];simp);have hd:jt w {w with drawn:=w.drawn+1}:=⟨zK _,rfl,rfl,rfl⟩;refine wp_region_any hE.mix (Ly (C:=C) hE z hO ?_ ops.toArray.size (Array.replicate ops.toArray.size J) a {w with drawn:=w.drawn+1} U ρ s.hp sw sw ?_)
 .intro a' w' U' ρ' hpD L m u;refine⟨rfl,U',ρ',⟨⟨?_,λj c v t hv=>?_⟩,?_,?_,?_,u.df,u.r0⟩,u.W⟩
  .rw[<-eN,C5 z _ (zK _),<-u.tl];simp
  .have:=u.tm j (M ops) (zK _) (λj' o' D _=>⟨λ_=>(cQ.1 D).1,λp=>m j' p⟩);simp_all
  .have:x.hp=hpD:=by
    funext id;have:=u.hp id (M ops) (zK _) (λj hj _=>⟨λ_=>hj,λp=>m j p⟩);rw[eN]at this;exact this
   rw[this];exact u.H
  .intro id hid;rw[<-eN]at hid;have h7:=km z (M ops) 0 ow;rw[dz]at h7;refine u.rn id ow (λj hj _=>?_);by_cases h3:fX (R j) id=Z
   .have:=((z j _ (zQ hj)).news h3).2;have h8:=km z (M ops-(j+1)) (j+1) ow;grind
   .simpa using h3
  .intro d b hl;have y:=u.tm d (M ops) (zK _) (λj' o' D _=>⟨λ_=>(cQ.1 D).1,λp=>m j' p⟩);rw[eN]at y;have hb:a'.tmps.getD d undef=.bool b:=by
    rcases h6 d b hl with h1|h1<;>rw[h1]at y<;>generalize a'.tmps.getD d undef=l at y<;>cases y<;>rfl
   rw[oD]at hb;cases ht:a'.tmps[d]? with
   |none=>rw[ht]at hb;simp[undef]at hb
   |some v=>rw[ht]at hb;simp at hb;rw[hb]
 .have q:∀j,¬dT (Array.replicate ops.toArray.size J) j:=by
   intro j;unfold dT;rw[oD,Array.getElem?_replicate];split<;>simp
  have A:∀{c:AV}{l:Value},Rv w U ρ c l->Rv {w with drawn:=w.drawn+1} U ρ c l:=λh=>h.mono (w:=w) (w':={w with drawn:=w.drawn+1}) (zK _) (λ_ _ _=>rfl) (λ_ _ h=>h) (λ_ _ h=>h)
  refine⟨λj o e ho hL=>(q j hL).elim,⟨G.ext.trans hd,G.same,G.ub,G.u1,G.u2,λg=>(G.gl g).mono (w:=w) (w':={w with drawn:=w.drawn+1}) (zK _) (λ_ _ _=>rfl) (λ_ _ h=>h) (λ_ _ h=>h)⟩,
   ⟨λid=>(t.hp.ob id).mono (w:=w) (w':={w with drawn:=w.drawn+1}) (zK _) (λ_ _ _=>rfl) (λ_ _ h=>h) (λ_ _ h=>h) (λb ho=>⟨rfl,((t.hp.ob id).inU ho).1⟩),t.hp.inj,t.hp.blk⟩,?_,?_,?_,?_,t.df,t.r0⟩
  .rw[e0];have:=t.tm.len;simp at this;exact this.symm
  .intro i k hk n;have F:(S k).tmps.getD i .any=(S 0).tmps.getD i .any:=by
    have:=mc z (s:=i) k 0 ow (λj o ho hd h1 h2=>q j ((n j o ho hd).2 ow))
    rwa [dz]at this
   rw[F,e0];by_cases hs:i<s.tmps.length
   .have h9:i<a.tmps.toList.length:=by rw[<-t.tm.len];exact hs
    refine A (t.tm.rv i _ _ (by simp_all) ?_);simp_all
   .rw[bf,eA ow];exact .any _
  .intro id k hk n;have:=jX z (id:=id) k 0 ow (λj h1 h2=>by
    grind)
   simp_all
  grind[wO.new]
end
end Cad
