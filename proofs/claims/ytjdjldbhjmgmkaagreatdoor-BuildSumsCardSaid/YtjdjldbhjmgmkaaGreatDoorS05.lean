/- Regions whose order is drawn. -/
import Derived.Test.YtjdjldbhjmgmkaaGreatDoorS04
import Derived.Orders
namespace Cad
open Go
open List renaming length→Io
open Bool renaming false→Q4,true→Q3
open Option renaming none→Q2,some→Q1
open Tr (chk br)
open AV (nils agg tup ptr kb str sl)
structure AT (E:cg) (ops:List Oper) (o:Oper) (s s':RS) (r:FY):Prop where
 /--what is known of slots is so -/
 tm:∃v,s'.tmps=mf s.tmps o.dst v
 len:s.heap.length<=s'.heap.length
 way:(∃(kn:List (Nat×Bool))(f:fM),(∀d b,kn.lookup d=Q1 b->s.tmps.getD d .any=.bool b\/s.tmps.getD d .any=.kb b)/\
   (∀j want,o.guard=Q1 (j,want)->∃d,(ops[j]?).bind (·.dst)=Q1 d/\(s.tmps.getD d .any=.bool want\/s.tmps.getD d .any=.kb want))/\
   (qc E (wJ E s.tmps kn) s.hp s.heap.length o).val=Q1 f/\L5 s.hp (wJ E s.tmps kn) o=Q3/\s'.tmps=mf s.tmps o.dst f.val/\s'.heap=og s.heap f.wr++f.nw/\
   (∀p∈f.wr,p.1<s.heap.length/\p.1∈uY s.hp (wJ E s.tmps kn) o)/\r={fp:=uY s.hp (wJ E s.tmps kn) o,wr:=f.wr.map (·.1),base:=s.heap.length,nw:=f.nw.length})\/
  ((∃j want,o.guard=Q1 (j,want)/\((ops[j]?).bind (·.dst)=Q2\/∃d,(ops[j]?).bind (·.dst)=Q1 d/\(s.tmps.getD d .any=.bool (!want)\/s.tmps.getD d .any=.kb (!want)\/∃vs,s.tmps.getD d .any=.tup vs)))/\
   s'.tmps=mf s.tmps o.dst (.tup [])/\s'.heap=s.heap/\r={})
def KnA(s:RS):Prop:=∀d b,s.known.lookup d=Q1 b->s.tmps.getD d .any=.bool b\/s.tmps.getD d .any=.kb b
variable {d:Option Tmp}
theorem qf{known:List (Nat×Bool)}{i:Nat}{k:Bool}(h:(tL known d).lookup i=Q1 k):known.lookup i=Q1 k/\d≠Q1 i:=by
 cases d with
 |none=>exact⟨h,sw⟩
 | some d=>
  simp only[tL]at h;have b:∀(x:List (Nat×Bool)),(x.filter λp=>p.1!=d).lookup i=Q1 k->i≠d/\x.lookup i=Q1 k:=by
   intro x
   induction x with
   |nil=>simp
   | cons p x c=>
    grind
  grind
theorem rH{tmps:List AV}{m:AV}{i:Nat}(h:d≠Q1 i):(mf tmps d m).getD i .any=tmps.getD i .any:=by
 cases d with
 |none=>rfl
 | some d=>
  simp only[mf,aY];simp_all
variable {s:RS}{o:Oper}
theorem KnA.step{tm:List AV}{m:AV}(h:KnA s)(x:tm=mf s.tmps o.dst m):∀d b,(tL s.known o.dst).lookup d=Q1 b->tm.getD d .any=.bool b\/tm.getD d .any=.kb b:=by intro d b g;obtain⟨c,e⟩:=qf g;rw[x,rH e];exact h d b c
variable {E:cg}{ops:List Oper}
theorem uZ{c:RS}(k:List (Nat×Bool))(h:(FA E o {s with known:=k}).val=Q1 c)(i:∀d b,k.lookup d=Q1 b->s.tmps.getD d .any=.bool b\/s.tmps.getD d .any=.kb b)
  (q:∀j x,o.guard=Q1 (j,x)->∃d,(ops[j]?).bind (·.dst)=Q1 d/\(s.tmps.getD d .any=.bool x\/s.tmps.getD d .any=.kb x)):∃r,AT E ops o s c r/\c.log=s.log++[r]/\KnA c:=by
 unfold FA at h;split at h
 .rename_i g;simp only[Tr.val_bind,fO]at h;obtain⟨f,n,h⟩:=h;split at h
  .rename_i e;simp at h;subst h;refine⟨_,⟨⟨f.val,rfl⟩,by simp[bX],.inl ⟨k,f,i,q,n,g,rfl,rfl,?_,rfl⟩⟩,rfl,?_⟩
   .intro p u;simp only[dQ,aE,aQ,FZ]at e;exact e p u
   .intro d b t;obtain⟨l,m⟩:=qf t;show(mf s.tmps o.dst f.val).getD d .any=.bool b\/(mf s.tmps o.dst f.val).getD d .any=.kb b;rw[rH m];exact i d b l
  .simp at h
 .simp at h
theorem lS(k:List (Nat×Bool))(g:∀d b,k.lookup d=Q1 b->s.tmps.getD d .any=.bool b\/s.tmps.getD d .any=.kb b)
  (e:∃j h,o.guard=Q1 (j,h)/\((ops[j]?).bind (·.dst)=Q2\/∃d,(ops[j]?).bind (·.dst)=Q1 d/\(s.tmps.getD d .any=.bool (!h)\/s.tmps.getD d .any=.kb (!h)\/∃v,s.tmps.getD d .any=.tup v))):
  ∃r,AT E ops o s (mP o {s with known:=k}) r/\(mP o {s with known:=k}).log=s.log++[r]/\KnA (mP o {s with known:=k}):=by refine⟨{},⟨⟨_,rfl⟩,ah _,.inr ⟨e,rfl,rfl,rfl⟩⟩,rfl,?_⟩;intro d b i;obtain⟨x,c⟩:=qf i;show(mf s.tmps o.dst (.tup [])).getD d .any=.bool b\/(mf s.tmps o.dst (.tup [])).getD d .any=.kb b;rw[rH c];exact g d b x
theorem EO{c:RS}(h:(uf E ops s o).val=Q1 c)(n:KnA s):∃r,AT E ops o s c r/\c.log=s.log++[r]/\KnA c:=by
 have g:∀d x,wJ E s.tmps s.known (.tmp d)=x->(∀b,x=.bool b->s.tmps.getD d .any=.bool b)/\(∀b,x=.kb b->s.tmps.getD d .any=.bool b\/s.tmps.getD d .any=.kb b)/\(∀z,x=.tup z->s.tmps.getD d .any=.tup z):=by
  intro d x B;simp only[wJ]at B;cases t:s.known.lookup d with
  | some b=>
   rw[t]at B;subst B;exact⟨sw,λp v=>by cases v;exact n d _ t,sw⟩
  | none=>
   simp_all
 unfold uf at h;split at h
 next m=>exact uZ s.known h n (λj e y=>by rw[m]at y;cases y)
 .rename_i j e m;split at h
  next q=>simp at h;subst h;exact lS s.known n ⟨j,e,m,.inl q⟩
  .rename_i d q;split at h
   .rename_i b v;have A:=(g d _ v).2.1 b rfl;split at h
    next k=>simp at k;subst k;exact uZ s.known h n (λF i y=>by simp_all)
    .rename_i k;simp at h;subst h;have:b=!e:=by revert k;cases b<;>cases e<;>simp
     subst this;exact lS s.known n ⟨j,e,m,.inr ⟨d,q,A.elim .inl (λh=>.inr (.inl h))⟩⟩
   next z D=>simp at h;subst h;exact lS s.known n ⟨j,e,m,.inr ⟨d,q,.inr (.inr ⟨z,(g d _ D).2.2 z rfl⟩)⟩⟩
   .rename_i b v;have A:=(g d _ v).1 b rfl;have l:∀x,x=b->∀u p,((d,x)::s.known).lookup u=Q1 p->s.tmps.getD u .any=.bool p\/s.tmps.getD u .any=.kb p:=by
     intro x B u p t;rw[List.lookup_cons]at t;split at t
     .simp_all
     .exact n u p t
    cases b
    .simp only[Tr.val,zE,zm]at h;cases e
     .simp only[zE,zm]at h;exact uZ _ h (l Q4 rfl) (λF i y=>by simp_all)
     .simp at h;subst h;exact lS _ (l Q4 rfl) ⟨j,Q3,m,.inr ⟨d,q,.inl A⟩⟩
    .simp only[Tr.val,zh]at h;cases e
     .simp at h;subst h;exact lS _ (l Q3 rfl) ⟨j,Q4,m,.inr ⟨d,q,.inl A⟩⟩
     .simp only[zh]at h;exact uZ _ h (l Q3 rfl) (λF i y=>by simp_all)
   .simp at h
theorem sP{E:cg}{ops:List Oper}:∀(r:List Oper)(s x:RS),(bU E ops r s).val=Q1 x->KnA s->∃(S:Nat->RS)(R:Nat->FY),S 0=s/\S (Io r)=x/\
  (∀i o,r[i]?=Q1 o->AT E ops o (S i) (S (i+1)) (R i))/\x.log=s.log++(List.range (Io r)).map R/\KnA x
 | [],s,x,h,c=>by
  simp[bU]at h;subst h;exact⟨λ_=>s,λ_=>{},rfl,rfl,sw,sw,c⟩
 | o::r,s,x,h,c=>by
  simp only[bU,Tr.val_bind,fO]at h;obtain⟨n,j,k⟩:=h;obtain⟨m,q,b,d⟩:=EO j c;obtain⟨S,R,e0,g,p,l,e⟩:=sP r n x k d;refine⟨λi=>match i with|0=>s|i+1=>S i,λi=>match i with|0=>m|i+1=>R i,rfl,g,?_,?_,e⟩
  .grind
  .rw[l,b];simp[List.range_succ_eq_map,uv]
inductive Anc (ops:List Oper):Nat->Nat->Prop
 |edge {j:Nat} {o:Oper} {e:Edge} (ho:ops[j]?=Q1 o) (he:e∈o.after.toList) (hb:Region.binds .any e=Q3):Anc ops e.on j
 |step {i j:Nat} {o:Oper} {e:Edge} (ho:ops[j]?=Q1 o) (he:e∈o.after.toList) (hb:Region.binds .any e=Q3) (h:Anc ops i e.on):Anc ops i j
theorem H7{ops:List Oper}:∀(r:List Oper)(x:List (List Nat)),r=ops.drop (Io x)->(∀j i,i∈x.getD j []->Anc ops i j)->∀j i,i∈(zbU r x).getD j []->Anc ops i j
 |[],x,_,h=>h
 | o :: r,x,hr,h=>by
  simp only[zbU];have c:ops[Io x]?=Q1 o:=by
   have:=congrArg (·[0]?) hr;simpa[BY]using this.symm
  refine H7 r _ (by
   have:=congrArg List.tail hr;simpa using this) ?_
  intro j i b;rw[aY]at b;by_cases l:j<Io x
  .grind
  .by_cases d:j=Io x
   .subst d;rw[jg (ah _)]at b;simp only[Nat.sub_self,List.getElem?_cons_zero,bT,KV]at b;obtain⟨e,k,b⟩:=b;split at b
    .rename_i g;rcases b8.1 b with rfl|b
     .exact .edge c k g
     .exact .step c k g (h _ _ b)
    .simp at b
   grind
section
variable {E:cg} {C:eA} {ops:List Oper} {S:Nat->RS} {R:Nat->FY}
structure pL (E:cg) (C:eA) (ops:List Oper) (S:Nat->RS) (R:Nat->FY) (L:Nat->Prop) (a:Act) (w:World) (U:Nat->Prop) (ρ:Nat->Option Value) (hpD:Nat->AO):Prop where
 cl:∀(j:Nat)(o:Oper)(e:Edge),ops[j]?=Q1 o->L j->e∈o.after.toList->Region.binds .any e=Q3->L e.on
 W:Wd E.gl C w U
 H:gK C w U ρ hpD
 tl:a.tmps.size=(S 0).tmps.length
 tm:∀(s k:Nat),k<=Io ops->(∀(j:Nat)(o:Oper),ops[j]?=Q1 o->o.dst=Q1 s->(L j↔j<k))->Rv w U ρ ((S k).tmps.getD s .any) (a.tmps.getD s undef)
 hp:∀(id k:Nat),k<=Io ops->(∀j,j<Io ops->dq (R j) id=Q3->(L j↔j<k))->(S k).hp id=hpD id
 rn:∀id,(S 0).heap.length<=id->(∀j,j<Io ops->L j->gH (R j) id=Q4)->ρ id=Q2
 df:a.defers=[]
 r0:∀id v,C.ρ0 id=Q1 v->ρ id=Q1 v
variable {o:Oper}{s c:RS}{r:FY}{i:Nat}
theorem AT.slots(h:AT E ops o s c r)(x:o.dst≠Q1 i):c.tmps.getD i .any=s.tmps.getD i .any:=by obtain⟨v,b⟩:=h.tm;rw[b,rH x]
theorem AT.tlen(h:AT E ops o s c r):c.tmps.length=s.tmps.length:=by obtain⟨v,x⟩:=h.tm;rw[x];cases o.dst<;>simp[mf]
theorem AT.wrfp(h:AT E ops o s c r):∀id∈r.wr,id∈r.fp:=by
 rcases h.way with⟨k,f,_,_,_,_,_,_,x,rfl⟩|⟨_,_,_,rfl⟩
 .grind
 .simp
variable {id:Nat}
theorem AT.news(h:AT E ops o s c r)(x:gH r id=Q3):s.heap.length<=id/\id<c.heap.length:=by
 rcases h.way with⟨k,f,_,_,_,_,_,b,d,rfl⟩|⟨_,_,_,rfl⟩
 .simp[gH]at x;rw[b];simp[bX];omega
 .simp[gH]at x
theorem AT.objs(h:AT E ops o s c r)(e:dq r id=Q4):c.hp id=s.hp id:=by
 rcases h.way with⟨l,f,_,_,_,_,_,x,k,rfl⟩|⟨_,_,x,rfl⟩
 .simp[dq,gH]at e;obtain⟨g,i⟩:=e;simp only[RS.hp,x];by_cases b:id<s.heap.length
  .rw[aY,kG (by rw[bX];exact b),<-aY];exact sr f.wr s.heap id (λ⟨j,d⟩=>g j d)
  .rw[aY,aY,eZ (by simp[bX];have:=i ow;omega),eZ ow]
 .simp only[RS.hp,x]
theorem mQ(c:∀(i:Nat)(o:Oper),ops[i]?=Q1 o->AT E ops o (S i) (S (i+1)) (R i)){s:Nat}:∀(d i:Nat),i+d<=Io ops->(∀(j:Nat)(o:Oper),ops[j]?=Q1 o->o.dst=Q1 s->i<=j->j<i+d->False)->
  (S (i+d)).tmps.getD s .any=(S i).tmps.getD s .any
 |0,_,_,_=>rfl
 | d+1,i,l,h=>by
  have b:i+d<Io ops:=by omega
  have x:ops[i+d]?=Q1 ops[i+d]:=z6 b;rw[show i+(d+1)=(i+d)+1 by omega,(c _ _ x).slots (λe=>h _ _ x e ow ow)];exact mQ c d i ow (λj o m k g n=>h j o m k g ow)
theorem kL(c:∀(i:Nat)(o:Oper),ops[i]?=Q1 o->AT E ops o (S i) (S (i+1)) (R i)){id:Nat}:∀(d i:Nat),i+d<=Io ops->(∀j,i<=j->j<i+d->dq (R j) id=Q4)->
  (S (i+d)).hp id=(S i).hp id
 |0,_,_,_=>rfl
 | d+1,i,g,h=>by
  have b:i+d<Io ops:=by omega
  have x:ops[i+d]?=Q1 ops[i+d]:=z6 b;rw[show i+(d+1)=(i+d)+1 by omega,(c _ _ x).objs (h _ ow ow)];exact kL c d i ow (λj e k=>h j e ow)
theorem kZ(b:∀(i:Nat)(o:Oper),ops[i]?=Q1 o->AT E ops o (S i) (S (i+1)) (R i)):∀(d i:Nat),i+d<=Io ops->(S i).heap.length<=(S (i+d)).heap.length
 |0,_,_=>ah _
 | d+1,i,c=>by
  have x:i+d<Io ops:=by omega
  have h:ops[i+d]?=Q1 ops[i+d]:=z6 x;exact aT (kZ b d i ow) (b _ _ h).len
theorem E8(b:∀(i:Nat)(o:Oper),ops[i]?=Q1 o->AT E ops o (S i) (S (i+1)) (R i)):∀i,i<=Io ops->(S i).tmps.length=(S 0).tmps.length
 |0,_=>rfl
 | i+1,h=>by
  have x:ops[i]?=Q1 ops[i]:=z6 h;rw[(b _ _ x).tlen,E8 b i ow]
variable {j:Nat}
theorem DD(x:∀(i:Nat)(o:Oper),ops[i]?=Q1 o->AT E ops o (S i) (S (i+1)) (R i))(d:i<Io ops)(e:j<Io ops)(b:gH (R i) id=Q3)(c:gH (R j) id=Q3):i=j:=by
 have gi:=(x i _ (z6 d)).news b;have g:=(x j _ (z6 e)).news c;rcases Nat.lt_trichotomy i j with h|h|h
 .have:=kZ x (j-(i+1)) (i+1) ow;grind
 .exact h
 .have:=kZ x (i-(j+1)) (j+1) ow;grind
structure Vu (ops:List Oper) (R:Nat->FY) (i j:Nat) (a:Nat) (oi oj:Oper):Prop where
 hi:ops[i]?=Q1 oi
 hj:ops[j]?=Q1 oj
 opi:∃t x k,oi.op=.lookup t x k Q4
 opj:∃t m k,oj.op=.mapEntry t m k
 fpi:(R i).fp=[a]
 wri:(R i).wr=[]
 nwi:(R i).nw=0
 wrj:(R j).wr=[a]
 nwj:(R j).nw=0
 sl:(iL oi.dst.toList (ff ops oj)||iL oi.dst.toList oj.dst.toList||iL (ff ops oi) oj.dst.toList)=Q4
 lt:i<j
 oth:∀l,l<Io ops->dq (R l) a=Q3->l<i\/l=j\/(j<l/\Anc ops i l)
structure mg (ops:List Oper) (R:Nat->FY):Prop where
 back:∀(j:Nat)(o:Oper)(e:Edge),ops[j]?=Q1 o->e∈o.after.toList->Region.binds .any e=Q3->e.on<j
 anc:∀(i j:Nat)(oi oj:Oper),i<j->ops[i]?=Q1 oi->ops[j]?=Q1 oj->uG ops oi oj (R i) (R j)=Q3->Anc ops i j\/∃a,Vu ops R i j a oi oj
theorem Ps{c:List FY}(h:vB ops c=Q3)(n:c=(List.range (Io ops)).map R):mg ops R:=by
 unfold vB at h;simp only[aE,dQ]at h;obtain⟨F,G⟩:=h;constructor
 .intro j o e y M I;have d:j<Io ops:=(dc.1 y).1;have p:(o,j)∈ops.zipIdx:=by
   rw[List.mem_zipIdx_iff_getElem?];exact y
  have:=F _ p e M;simpa[I]using this
 .intro i j oi oj g u q J;have d:j<Io ops:=(dc.1 q).1;have:=G j (pS.2 d) i (pS.2 g);have s:∀k,k<Io ops->c[k]?=Q1 (R k):=by intro k N;rw[n];simp[uu N]
  have T:c[i]?=Q1 (R i):=s i ow;have W:c[j]?=Q1 (R j):=s j d;simp only[u,q,T,W,J,cm,yN,ng,FZ]at this;rcases this with this|this
  .exact .inl (H7 ops [] sw sw j i this)
  .unfold ZX at this;split at this
   .rename_i t x k X m P a b z A B D;simp only[aE,yJ,bd,dQ,List.isEmpty_iff,pS]at this;obtain⟨⟨⟨⟨⟨Y,Z⟩,t3⟩,t4⟩,t5⟩,t6⟩:=this;subst Y;refine .inr ⟨b,u,q,⟨t,x,k,z⟩,⟨X,m,P,A⟩,B,Z,t3,D,t4,t5,g,λl v O=>?_⟩;have:=t6 l v;rw[s l v]at this;simp only[O,cm,yN,ng,aQ,bd,aE,FZ]at this;rcases this with(this|this)|⟨this,H⟩
    .exact .inl this
    .exact .inr (.inl this)
    .exact .inr (.inr ⟨this,H7 ops [] sw sw l i H⟩)
   .cases this
theorem Vu.touch{a:Nat}{x:Oper}(h:Vu ops R i j a o x)(id:Nat):dq (R i) id=Q4:=by unfold dq gH;rw[h.wri,h.nwi];simp
theorem rF{a b:List Nat}:iL a b=Q3↔∃x,x∈a/\x∈b:=by simp[iL]
variable {L:Nat->Prop} {a:Act} {w:World} {U:Nat->Prop} {ρ:Nat->Option Value} {hpD:Nat->AO}
theorem pL.anc(h:pL E C ops S R L a w U ρ hpD)(e:Anc ops i j)(d:L j):L i:=by
 induction e with
 |edge c b x=>exact h.cl _ _ _ c d b x
 |step c b x _ g=>exact g (h.cl _ _ _ c d b x)
theorem pL.ready(h:pL E C ops S R L a w U ρ hpD)(g:ops[j]?=Q1 o)(k:∀e∈o.after.toList,Region.binds .any e=Q3->L e.on)(d:Anc ops i j):L i:=by
 cases d with
 |edge x c b=>simp_all
 |step x c b l=>rw[g]at x;cases x;exact h.anc l (k _ c b)
theorem pL.slotAt(q:mg ops R)(h:pL E C ops S R L a w U ρ hpD)(n:ops[i]?=Q1 o)(t:¬L i)(v:∀e∈o.after.toList,Region.binds .any e=Q3->L e.on){s:Nat}
  (g:s∈ff ops o\/o.dst=Q1 s):∀(j:Nat)(c:Oper),ops[j]?=Q1 c->c.dst=Q1 s->(L j↔j<i):=by
 intro j c k u;constructor
 .intro p;rcases Nat.lt_trichotomy j i with x|rfl|x
  .exact x
  .exact(t p).elim
  .exfalso;have d:(iL o.dst.toList (ff ops c)||iL o.dst.toList c.dst.toList||iL (ff ops o) c.dst.toList)=Q3:=by
    simp only[ng,rF];rcases g with g|g
    .exact .inr ⟨s,g,by simp[u]⟩
    .simp_all
   rcases q.anc i j o c x n k (by unfold uG;simp only[d,Bool.true_or])with l|⟨b,m⟩
   .exact t (h.anc l p)
   .rw[m.sl]at d;cases d
 .intro x;have d:(iL c.dst.toList (ff ops o)||iL c.dst.toList o.dst.toList||iL (ff ops c) o.dst.toList)=Q3:=by
   simp only[ng,rF];rcases g with g|g
   .simp_all
   .simp_all
  rcases q.anc j i c o x k n (by unfold uG;simp only[d,Bool.true_or])with l|⟨b,m⟩
  .exact h.ready n v l
  .rw[m.sl]at d;cases d
theorem pL.objAt(q:∀(i:Nat)(o:Oper),ops[i]?=Q1 o->AT E ops o (S i) (S (i+1)) (R i))(D:mg ops R)(h:pL E C ops S R L a w U ρ hpD)(l:ops[i]?=Q1 o)(H:¬L i)
  (I:∀e∈o.after.toList,Region.binds .any e=Q3->L e.on)  (m:id∈(R i).fp\/dq (R i) id=Q3) (v:∀j a n,¬(Vu ops R i j a o n/\L j)):∀j,j<Io ops->dq (R j) id=Q3->(L j↔j<i):=by
 intro j F y;have G:i<Io ops:=(dc.1 l).1;have g:ops[j]?=Q1 ops[j]:=z6 F;have z:=(q i o l).wrfp;have J:=(q j _ g).wrfp;have p:id∈(R j).wr\/gH (R j) id=Q3:=by simpa[dq]using y
 have t:id∈(R i).fp\/gH (R i) id=Q3:=by
  rcases m with m|m
  .exact .inl m
  .have:id∈(R i).wr\/gH (R i) id=Q3:=by simpa[dq]using m
   exact this.imp (z id) (λx=>x)
 by_cases k:i=j
 .simp_all
 have c:∀(A n:Oper),uG ops A n (R i) (R j)=Q3/\uG ops n A (R j) (R i)=Q3:=by
  intro A n;unfold uG;simp only[ng,rF,List.any_eq_true];rcases t with t|t<;>rcases p with p|p
  .grind
  .grind
  .grind
  .exact(k (DD q G F t p)).elim
 constructor
 .intro B;rcases Nat.lt_or_gt_of_ne k with d|d
  .rcases D.anc i j o _ d l g (c o _).1 with s|⟨b,u⟩
   .exact(H (h.anc s B)).elim
   .exact(v _ _ _ ⟨u,B⟩).elim
  .exact d
 .intro d;rcases D.anc j i _ o d g l (c o _).2 with s|⟨b,u⟩
  .exact h.ready l I s
  .rw[u.touch id]at y;cases y
theorem UY(e:List ((Int×Int×zH)×Int))(v k:Int×Int×zH):gR (kc e v) k=gR e k:=by
 unfold kc;cases oe e v with
 |true=>rfl
 | false=>
  simp only[ax,gR,List.find?_append];grind
theorem Fx{P:Program}{e G:Nat->AO}{n:TypeId}{m x:AV}{f:fM}{g:List ((Int×Int×zH)×Int)}{v:Int×Int×zH}(h:(ly P e n m x false).val=some f)(o:∀id∈m.ids,id=i)
  (j:e i=.vmap Q4 g) (k:G i=.vmap Q4 (kc g v)):(ly P G n m x Q4).val=Q1 f:=by
 cases m with
 | mp id=>
  have:id=i:=o id (by simp[AV.ids]);subst this;unfold ly at h|-;cases d:P.underlying n with
  |none=>simp[d]at h
  | some u=>
   cases u with
   | map p s=>
    simp only[d]at h|-;cases c:P.underlying p with
    |none=>simp[c]at h
    | some q=>
     cases q with
     |string=>grind
     | struct t=>
      simp only[c]at h|-;split at h
      .rename_i l;rw[ze l];cases b:Qq x with
       |none=>simp[b]at h
       | some y=>
        simp only[b,j,zE,zm]at h;simp only[k,zE,zm,UY];exact h
      .simp at h
     |_=>simp[c]at h
   |_=>simp[d]at h
 | _=>
  exfalso;unfold ly at h;split at h
  .split at h
   .split at h<;>simp_all
   .simp_all
   .simp at h
  .simp at h
end
section
variable {E:cg} {C:eA} {ops:List Oper} {S:Nat->RS} {R:Nat->FY} {L:Nat->Prop} {a:Act} {w:World} {U:Nat->Prop} {ρ:Nat->Option Value} {hpD:Nat->AO}
variable {a:Act}{d:Option Tmp}{v:Value}{i:Nat}
theorem Zi(h:d≠Q1 i):(a.put d v).tmps.getD i undef=a.tmps.getD i undef:=by
 cases d with
 |none=>rfl
 | some d=>
  simp only[Act.put,pC];simp_all
theorem Zj:(a.put d v).tmps.size=a.tmps.size:=by cases d<;>simp[Act.put]
theorem Px:(a.put d v).defers=a.defers:=by cases d<;>rfl
theorem MJ{m:AV}{tmps:List AV}(b:Io tmps=a.tmps.size)(h:Rv w U ρ m v):Rv w U ρ ((mf tmps (Q1 i) m).getD i .any) ((a.put (Q1 i) v).tmps.getD i undef):=by
 simp only[mf,Act.put,aY,pC];by_cases x:i<Io tmps
 .simp_all
 .rw[na,ze rfl,zg x];exact .any _
variable {o:Oper}{e:Nat->AO}
theorem pL.next(J:∀(i:Nat)(o:Oper),ops[i]?=Q1 o->AT E ops o (S i) (S (i+1)) (R i))(X:mg ops R)(b:pL E C ops S R L a w U ρ hpD)(G:ops[i]?=Q1 o)(hn:¬L i)
  (hr:∀d∈o.after.toList,Region.binds .any d=Q3->L d.on)  {F:World} {y:Nat->Prop} {h:Nat->Option Value}  (hW:Wd E.gl C F y) (hH:gK C F y h e)
  (D:∀{c:AV}{x:Value},Rv w U ρ c x->Rv F y h c x) (hv:∀s,o.dst=Q1 s->Rv F y h ((S (i+1)).tmps.getD s .any) ((a.put o.dst v).tmps.getD s undef))
  (A:∀id,e id=if dq (R i) id then(S (i+1)).hp id else hpD id) (B:∀id,gH (R i) id=Q4->h id=ρ id) (t:∀id v,ρ id=Q1 v->h id=Q1 v):
  pL E C ops S R (λj=>L j\/j=i) (a.put o.dst v) F y h e:=by
 have Y:i<Io ops:=(dc.1 G).1;refine⟨?_,hW,hH,by rw[Zj];exact b.tl,?_,?_,?_,by rw[Px];exact b.df,λid v h'=>t id v (b.r0 id v h')⟩
 .intro j p d m z he M;rcases z with z|rfl
  .exact .inl (b.cl j p d m z he M)
  simp_all
 .intro s k T g;by_cases N:o.dst=Q1 s
  .have P:i<k:=(g i o G N).1 (.inr rfl);have W:∀(j:Nat)(p:Oper),ops[j]?=Q1 p->p.dst=Q1 s->i+1<=j->j<k->False:=by
    intro j p m n H I;have l:=(g j p m n).2 I;rcases l with l|rfl
    .have:=(b.slotAt X G hn hr (.inr N) j p m n).1 l;omega
    .omega
   have M:=mQ J (s:=s) (k-(i+1)) (i+1) ow (λj p m n H I=>W j p m n H ow);grind
  .rw[Zi N];refine D (b.tm s k T (λj p m n=>?_));grind
 .intro id k T g;rw[A id];by_cases u:dq (R i) id=Q3
  .rw[ze u];have P:i<k:=(g i Y u).1 (.inr rfl);have M:=kL J (id:=id) (k-(i+1)) (i+1) ow (λj H I=>by
    by_cases q:dq (R j) id=Q3
    .exfalso;have l:=(g j ow q).2 ow;rcases l with l|rfl
     .have:=(b.objAt J X G hn hr (.inr u) (λ_ _ _ hh=>by rw[hh.1.touch id]at u;cases u) j ow q).1 l;omega
     .omega
    .simpa using q)
   grind
  .rw[zg u];refine b.hp id k T (λj Z q=>?_);grind
 .intro id h0 hnew;have O:=hnew i Y (.inr rfl);rw[B id O];exact b.rn id h0 (λj Z z=>hnew j Z (.inl z))
theorem IB{P:Program}{n:TypeId}{m k:AV}{f:fM}(h:(uT P e n m k).val=Q1 f)(c:f.wr.map (·.1)=[i]):
  ∃x v,e i=.vmap Q4 x/\f.wr=[(i,.vmap Q4 (kc x v))]/\f.nw=[]:=by
 unfold uT at h;split at h
 .split at h
  .split at h
   .rename_i id v _;split at h
    .rename_i x b;split at h
     .split at h
      .simp only[Tr.val]at h;grind
      .simp at h
     .simp at h
    .simp at h
   .simp at h
  .simp at h
 .simp at h
theorem pL.objX(I:∀(i:Nat)(o:Oper),ops[i]?=Q1 o->AT E ops o (S i) (S (i+1)) (R i))(hO:mg ops R)(h:pL E C ops S R L a w U ρ hpD)(F:ops[i]?=Q1 o)(hn:¬L i)
  (hr:∀e∈o.after.toList,Region.binds .any e=Q3->L e.on) {p:List (Nat×Bool)} {f:fM} {j:Nat} (A:(qc E (wJ E (S i).tmps p) (S i).hp j o).val=Q1 f) (q:(R i).fp=uY (S i).hp (wJ E (S i).tmps p) o)
  (N:L5 (S i).hp (wJ E (S i).tmps p) o=Q3):∃y:Nat->AO,(qc E (wJ E (S i).tmps p) y j o).val=Q1 f/\(∀id,id∈(R i).fp\/dq (R i) id=Q3->y id=hpD id)/\
   (tt o.op=Q3->∀id∈(R i).fp,∀x∈(y id).ids,x∈(R i).fp):=by
 have hi:i<Io ops:=(dc.1 F).1;obtain⟨P,M⟩:=De N;by_cases d:∃x b B,Vu ops R i x b o B/\L x
 .obtain⟨x,b,B,d,h0⟩:=d;have h6:x<Io ops:=(dc.1 d.hj).1;have T:=d.lt;have u:∀l,l<Io ops->dq (R l) b=Q3->(L l↔l<x+1):=by
   intro l hl z;rcases d.oth l hl z with H|rfl|⟨H,h2⟩
   .refine⟨λ_=>by omega,λ_=>?_⟩;have hc:uG ops ops[l] o (R l) (R i)=Q3:=by
     unfold uG;simp only[ng,rF,List.any_eq_true];have G:b∈(R l).wr\/gH (R l) b=Q3:=by simpa[dq]using z
     have bi:b∈(R i).fp:=by rw[d.fpi];simp
     rcases G with G|G
     .grind
     .exact .inl (.inr ⟨b,bi,G⟩)
    rcases hO.anc l i _ o H (z6 hl) F hc with ha|⟨b',J⟩
    .exact h.ready F hr ha
    .rw[J.touch b]at z;cases z
   .simp_all
   .exact⟨λhL=>(hn (h.anc h2 hL)).elim,λT=>by omega⟩
  have e1:(S (x+1)).hp b=hpD b:=h.hp b (x+1) ow u;have e2:(S x).hp b=(S i).hp b:=by
   have:=kL I (id:=b) (x-i) i ow (λl H h2=>by
    by_cases z:dq (R l) b=Q3
    .rcases d.oth l ow z with D|D|⟨D,_⟩<;>omega
    .simpa using z)
   rwa [show i+(x-i)=x by omega]at this
  obtain⟨t,m,k,W⟩:=d.opj;rcases(I x B d.hj).way with⟨h7,f',_,_,n,_,_,O,X,s⟩|⟨_,_,_,s⟩
  .have hw:f'.wr.map (·.1)=[b]:=by rw[<-d.wrj,s]
   unfold qc at n;rw[W]at n;simp only at n;obtain⟨Z,v,D,h4,h5⟩:=IB n hw;have hb:=(X (b,.vmap Q4 (kc Z v)) (by rw[h4];simp)).1;have Y:(S (x+1)).hp b=.vmap Q4 (kc Z v):=by
    simp only[RS.hp,O,h4,h5,og,pR];rw[aY,List.getElem?_set_self hb];rfl
   obtain⟨t2,x2,k2,g⟩:=d.opi;refine⟨(S (x+1)).hp,?_,?_,?_⟩
   .unfold qc at A|-;rw[g]at A|-;simp only at A|-;refine Fx A (λid c=>?_) (by rw[<-e2];exact D) Y;have:=P (by rw[g];rfl) x2 (by rw[g];simp[Op.operands]) id c;rw[<-q,d.fpi]at this;simpa using this
   .intro id c;rcases c with c|c
    .rw[d.fpi]at c;simp_all
    .rw[d.touch]at c;cases c
   .intro _ id c;rw[d.fpi]at c;simp at c;subst c;rw[Y];simp[AO.ids]
  .have:=d.wrj;rw[s]at this;cases this
 .refine⟨(S i).hp,A,λid c=>h.hp id i ow (h.objAt I hO F hn hr c (λx a B hh=>d ⟨x,a,B,hh⟩)),?_⟩;rw[q];exact M
theorem zcM(hE:zw E)(T:∀(i:Nat)(o:Oper),ops[i]?=Q1 o->AT E ops o (S i) (S (i+1)) (R i))(hO:mg ops R)(h:pL E C ops S R L a w U ρ hpD)(Z:ops[i]?=Q1 o)(hn:¬L i)
  (hr:∀e∈o.after.toList,Region.binds .any e=Q3->L e.on) (K:Act->World->Prop) (Q:Exit->Act->World->Prop)
  (hK:∀a' w' U' ρ' h9,pL E C ops S R (λj=>L j\/j=i) a' w' U' ρ' h9->K a' w'):wpOp E.P ops.toArray Q i K a w:=by
 have hi:i<Io ops:=(dc.1 Z).1;have h7:ops.toArray[i]?=Q1 o:=by simpa using Z
 have h4:=T i o Z;have z:∀s,s∈ff ops o->Rv w U ρ ((S i).tmps.getD s .any) (a.tmps.getD s undef):=λs hs=>h.tm s i ow (h.slotAt hO Z hn hr (.inl hs))
 have M:(S i).tmps.length=a.tmps.size:=by rw[E8 T i ow,h.tl]
 have G:∀(j:Nat)(m:Bool) d,o.guard=Q1 (j,m)->(ops[j]?).bind (·.dst)=Q1 d->Rv w U ρ ((S i).tmps.getD d .any) (a.tmps.getD d undef):=by
  intro j m d hg B;refine z d ?_;simp only[ff,hg,cz];exact .inr (by simp[B])
 have A:∀(j:Nat)(d:Nat)(b:Bool),(ops[j]?).bind (·.dst)=Q1 d->a.tmps.getD d undef=.bool b->yielded ops.toArray a.tmps j=Q1 b:=by
  intro j d b B hb;have D:(ops.toArray[j]?).bind (·.dst)=Q1 d:=by simpa using B
  rw[pC]at hb;have:a.tmps[d]?=Q1 (.bool b):=by
   cases N:a.tmps[d]? with
   |none=>rw[N]at hb;simp[undef]at hb
   |some v=>rw[N]at hb;simp at hb;rw[hb]
  unfold yielded;rw[D];simp[this]
 have n:∀(c:AV)(x:Value)(b:Bool),Rv w U ρ c x->(c=.bool b\/c=.kb b)->x=.bool b:=by
  rintro c x b hr (rfl|rfl)<;>cases hr<;>rfl
 unfold wpOp;rw[h7];show(ite (Region.wanted o (yielded ops.toArray a.tmps)) _ _);rcases h4.way with⟨kn,f,a0,hg,hf,h6,h0,h8,a3,hR⟩|⟨⟨j,m,hg,X⟩,h0,h8,hR⟩
 ·
  have hw:Region.wanted o (yielded ops.toArray a.tmps)=Q3:=by
   unfold Region.wanted;split
   .rfl
   .grind
  rw[ze hw];refine .inl ?_;obtain⟨x8,_⟩:=De h6;have l:(R i).fp=uY (S i).hp (wJ E (S i).tmps kn) o:=by rw[hR]
  obtain⟨a6,x7,k,h3⟩:=h.objX T hO Z hn hr hf l h6;rw[l]at h3;have x5:∀id,gH (R i) id=Q3↔(S i).heap.length<=id/\id<(S i).heap.length+f.nw.length:=by intro id;rw[hR];simp[gH]
  have q:∀id,dq (R i) id=Q3↔(∃O,(id,O)∈f.wr)\/((S i).heap.length<=id/\id<(S i).heap.length+f.nw.length):=by
   intro id;rw[hR];simp[dq,gH]
  have Y:∀j,j<f.nw.length->ρ ((S i).heap.length+j)=Q2:=by
   intro j hj;have hm:=kZ T i 0 ow;rw[ew]at hm;refine h.rn _ ow (λj' x9 hL=>?_);by_cases J:gH (R j') ((S i).heap.length+j)=Q3
   .have:=DD T hi x9 ((x5 _).2 ⟨ow,ow⟩) J;subst this;exact(hn hL).elim
   .simpa using J
  obtain⟨a2,_⟩:=GW hE (w:=w) (U:=U) (ρ:=ρ) (a:=a) (fp:=uY (S i).hp (wJ E (S i).tmps kn) o) x7 (λx hx=>by
    cases x with
    | tmp t=>
     have a1:t∈ff ops o:=by
      simp only[ff,cz,List.mem_filterMap];exact .inl ⟨.tmp t,hx,rfl⟩
     have:=z t a1;simp only[wJ,Act.eval];cases hk:kn.lookup t with
     | some b=>
      rw[n _ _ b this (a0 t b hk)];exact .kb b
     |none=>exact this
    |const v=>exact qZ v
    |global g=>exact(h.W.gl g).mono (ah _) (λ_ _ _=>rfl) (λ_ _ h=>h) (λ_ _ h=>by cases h)
    |func f=>simp only[wJ,Act.eval];exact .clo (.func f) [] [] [] [] rfl rfl sw sw)
   h.W.ub h.W.gl
   ⟨λid u=>by rw[k id (.inl (by rw[l];exact u))];exact h.H.ob id,λx1 h1 x2 h2 b=>by
    rw[k x1 (.inl (by rw[l];exact h1)),k x2 (.inl (by rw[l];exact h2))];exact h.H.inj x1 x2 b⟩ x8 h3 Y
  refine a2 K Q (λv w' U' ρ' F=>?_);have x0:∀p∈f.wr,p.1<(S i).heap.length:=λp hp=>(a3 p hp).1
  have y:∀id,dq (R i) id=Q3->(S (i+1)).hp id=(og (S i).heap f.wr++f.nw).getD id .dead:=by
   intro id _;simp only[RS.hp,h8]
  obtain⟨x6,x4,x3⟩:=B4 (hp':=λid=>if dq (R i) id then(S (i+1)).hp id else hpD id) h.W h.H F (λid O u=>k id (.inr ((q id).2 (.inl ⟨O,u⟩))))
   (λid h5=>by
    obtain⟨O,h1,h2⟩:=su f.wr (S i).heap id x0 h5;have N:=(q id).2 (.inl h5);refine⟨O,h1,?_⟩;show(ite (dq (R i) id) ((S (i+1)).hp id) (hpD id))=O;rw[ze N,y id N];have:id<(S i).heap.length:=x0 _ h1;rw[aY,kG (by rw[bX];exact this),<-aY];exact h2)
   (λj O hj=>by
    have a4:=(dc.1 hj).1;have N:=(q ((S i).heap.length+j)).2 (.inr ⟨ow,ow⟩);show(ite (dq (R i) _) ((S (i+1)).hp _) (hpD _))=O;rw[ze N,y _ N];rw[aY,jg (by rw[bX];omega),bX,show(S i).heap.length+j-(S i).heap.length=j by omega,hj];rfl)
   (λid a5 u=>by
    grind)
  refine hK _ _ U' ρ' _ (h.next T hO Z hn hr x6 x4 x3 ?_ (λid=>rfl) (λid u=>F.rho id ?_) F.rhon)
  .intro s hs;rw[h0,hs];exact MJ M F.val
  grind
 ·
  have hw:¬Region.wanted o (yielded ops.toArray a.tmps)=Q3:=by
   unfold Region.wanted;rw[hg];simp only[bd];rcases X with B|⟨d,B,hv⟩
   .have D:(ops.toArray[j]?).bind (·.dst)=Q2:=by simpa using B
    unfold yielded;rw[D];simp
   .have I:=G j m d hg B;rcases hv with hv|hv|⟨vs,hv⟩
    .grind
    .rw[A j d _ B (n _ _ _ I (.inr hv))];cases m<;>simp
    .rw[hv]at I;have D:(ops.toArray[j]?).bind (·.dst)=Q1 d:=by simpa using B
     generalize hx:a.tmps.getD d undef=x at I;cases I with
     |tup _ xs _ _=>
     rw[pC]at hx;unfold yielded;grind
  rw[zg hw];have q:∀id,dq (R i) id=Q4:=by intro id;rw[hR];simp[dq,gH]
  refine hK _ _ U ρ hpD (h.next T hO Z hn hr h.W h.H (λh=>h) ?_ (λid=>by rw[q id];rfl) (λ_ _=>rfl) (λ_ _ h=>h));intro s hs;rw[h0,hs];exact MJ M (.tup [] [] rfl sw)
def dW(l:Array Bool)(j:Nat):Prop:=l.getD j Q4=Q3
variable {l:Array Bool}
theorem Pi(h:i<l.size):dW (l.setIfInBounds i Q3)=λj=>dW l j\/j=i:=by funext j;unfold dW;simp only[pC];grind
theorem HG{listed:Array Bool}(k:listed.size=Io ops)(h:i∈Region.ready .any ops.toArray listed):
  ∃o,ops[i]?=Q1 o/\¬dW listed i/\∀e∈o.after.toList,Region.binds .any e=Q3->dW listed e.on:=by
 unfold Region.ready at h;simp only[List.mem_filter,pS,aE]at h;obtain⟨d,l,c⟩:=h;simp at d;have b:ops[i]?=Q1 ops[i]:=z6 d;refine⟨ops[i],b,?_,λe j g=>?_⟩
 .unfold dW;simp_all
 .have x:(ops[i].after.all λe=>!Region.binds .any e||listed.getD e.on Q4)=Q3:=by
   have:ops.toArray[i]?=Q1 ops[i]:=by simp
   rw[this]at c;simpa using c
  rw[<-Array.all_toList]at x;have:=dQ.1 x e j;simp[g]at this;unfold dW;simp_all
theorem UF(n:l.size=Io ops)(x:∀(j:Nat)(o:Oper)(e:Edge),ops[j]?=Q1 o->e∈o.after.toList->Region.binds .any e=Q3->e.on<j)
  (h:Region.ready .any ops.toArray l=[]):∀j,j<Io ops->dW l j:=by
 intro j
 induction j using Nat.strongRecOn with
 | _ j p=>
  intro g;apply th;intro m;have b:ops[j]?=Q1 ops[j]:=z6 g;have:j∈Region.ready .any ops.toArray l:=by
   unfold Region.ready;simp only[List.mem_filter,pS,aE];refine⟨by simpa using g,?_,?_⟩
   .unfold dW at m;simp_all
   .have i:ops.toArray[j]?=Q1 ops[j]:=by simp
    rw[i];simp only[B3,bT];rw[<-Array.all_toList,dQ];intro e k;by_cases c:Region.binds .any e=Q3
    .have d:=x j _ e b k c;have:=p e.on d ow;simp only[c,cm,yN];exact this
    .simp[c]
  rw[h]at this;simp at this
theorem NP(y:zw E)(z:∀(i:Nat)(o:Oper),ops[i]?=Q1 o->AT E ops o (S i) (S (i+1)) (R i))(t:mg ops R){Q:Exit->Act->World->Prop}
  (u:∀a w U ρ hpD(L:Nat->Prop),(∀j,j<Io ops->L j)->pL E C ops S R L a w U ρ hpD->Q .normal a w):
  ∀(c:Nat)(x:Array Bool)(a:Act)(w:World)(U:Nat->Prop)(ρ:Nat->Option Value)(hpD:Nat->AO),x.size=Io ops->(x.toList.filter (! ·)).length<=c->
   pL E C ops S R (dW x) a w U ρ hpD->wpAny E.P .any ops.toArray Q c x a w
 | 0,x,a,w,U,ρ,hpD,d,G,h=>by
  have k:∀b∈x.toList,b=Q3:=by
   have:x.toList.filter (! ·)=[]:=AG ow;intro b q;have:=List.filter_eq_nil_iff.1 this b q;simpa using this
  have F:∀j,j<Io ops->dW x j:=by
   intro j N;unfold dW;rw[pC,pD ow];exact k _ sw
  refine⟨?_,u a w U ρ hpD _ F h⟩;apply List.eq_nil_iff_forall_not_mem.2;intro i g;obtain⟨o,v,m,_⟩:=HG d g;grind
 | c+1,x,a,w,U,ρ,hpD,d,G,h=>by
  refine⟨λn=>u a w U ρ hpD _ (UF d t.back n) h,λi g=>?_⟩;obtain⟨o,v,m,H⟩:=HG d g;have e:i<x.size:=by rw[d];exact(dc.1 v).1
  refine zcM y z t h v m H _ Q (λB J A M p D=>?_);refine NP y z t u c _ B J A M p (by simpa using d) ?_ (by rw[Pi e];exact D);have s:x.toList[i]'(by simpa using e)=Q4:=by
   unfold dW at m;rw[pC,pD e]at m;simpa using m
  have I:∀(l:List Bool)(i:Nat)(g:i<Io l),l[i]=Q4->(l.filter (! ·)).length=((l.set i Q3).filter (! ·)).length+1:=by
   intro l
   induction l with
   |nil=>intro i g;simp at g
   | cons b l O=>
    intro i g q;cases i with
    |zero=>simp at q;subst q;simp
    | succ i=>
     grind
  grind
theorem Ni(hE:zw E){id:Nat}{s c:RS}(h:(bU E ops ops s).val=Q1 c)(h0:s.log=[])(h3:s.known=[])(M:vB ops c.log=Q3)(n:AD C s a w U ρ)(F:Wd E.gl C w U):
  (Code.region id ops.toArray Q3).wp E.P (λe I w'=>e=.normal/\∃N ρ',AD C c I w' N ρ'/\Wd E.gl C w' N) a w:=by
 obtain⟨S,R,e0,O,z,Z,h4⟩:=sP ops s c h (by intro d b X;rw[h3]at X;simp at X);have hO:mg ops R:=Ps M (by rw[Z,h0];simp);have hd:kF w {w with drawn:=w.drawn+1}:=⟨ah _,rfl,rfl,rfl,λ_ _=>rfl⟩;refine wp_region_any hE.mix (NP (C:=C) hE z hO ?_ ops.toArray.size (Array.replicate ops.toArray.size Q4) a {w with drawn:=w.drawn+1} U ρ s.hp sw sw ?_)
 .intro I w' N ρ' hpD L m u;refine⟨rfl,N,ρ',⟨⟨?_,λj l v n hv=>?_⟩,?_,?_,?_,u.df,u.r0⟩,u.W⟩
  .rw[<-O,E8 z _ (ah _),<-u.tl];simp
  .have:=u.tm j (Io ops) (ah _) (λj' o' B _=>⟨λ_=>(dc.1 B).1,λq=>m j' q⟩);simp_all
  .have:c.hp=hpD:=by
    funext id;have:=u.hp id (Io ops) (ah _) (λj hj _=>⟨λ_=>hj,λq=>m j q⟩);rw[O]at this;exact this
   rw[this];exact u.H
  .intro id hid;rw[<-O]at hid;have h5:=kZ z (Io ops) 0 ow;rw[ew]at h5;refine u.rn id ow (λj hj _=>?_);by_cases J:gH (R j) id=Q3
   .have:=((z j _ (z6 hj)).news J).2;have h6:=kZ z (Io ops-(j+1)) (j+1) ow;grind
   .simpa using J
  .intro d b X;have y:=u.tm d (Io ops) (ah _) (λj' o' B _=>⟨λ_=>(dc.1 B).1,λq=>m j' q⟩);rw[O]at y;have G:I.tmps.getD d undef=.bool b:=by
    rcases h4 d b X with T|T<;>rw[T]at y<;>generalize I.tmps.getD d undef=x at y<;>cases y<;>rfl
   rw[pC]at G;cases ht:I.tmps[d]? with
   |none=>rw[ht]at G;simp[undef]at G
   |some v=>rw[ht]at G;simp at G;rw[G]
 .have t:∀j,¬dW (Array.replicate ops.toArray.size Q4) j:=by
   intro j;unfold dW;rw[pC,Array.getElem?_replicate];split<;>simp
  have A:∀{l:AV}{x:Value},Rv w U ρ l x->Rv {w with drawn:=w.drawn+1} U ρ l x:=λh=>h.mono (w:=w) (w':={w with drawn:=w.drawn+1}) (ah _) (λ_ _ _=>rfl) (λ_ _ h=>h) (λ_ _ h=>h)
  refine⟨λj o e Y Z=>(t j Z).elim,⟨F.ext.trans hd,F.same,F.ub,F.u1,F.u2,λg=>(F.gl g).mono (w:=w) (w':={w with drawn:=w.drawn+1}) (ah _) (λ_ _ _=>rfl) (λ_ _ h=>h) (λ_ _ h=>h)⟩,
   ⟨λid=>(n.hp.ob id).mono (w:=w) (w':={w with drawn:=w.drawn+1}) (ah _) (λ_ _ _=>rfl) (λ_ _ h=>h) (λ_ _ h=>h) (λb Y=>⟨rfl,((n.hp.ob id).inU Y).1⟩),n.hp.inj,n.hp.blk⟩,?_,?_,?_,?_,n.df,n.r0⟩
  .rw[e0];have:=n.tm.len;simp at this;exact this.symm
  .intro i k hk p;have D:(S k).tmps.getD i .any=(S 0).tmps.getD i .any:=by
    have:=mQ z (s:=i) k 0 ow (λj o Y hd T h2=>t j ((p j o Y hd).2 ow))
    rwa [ew]at this
   rw[D,e0];by_cases hs:i<s.tmps.length
   .have h7:i<a.tmps.toList.length:=by rw[<-n.tm.len];exact hs
    refine A (n.tm.rv i _ _ (by simp_all) ?_);simp_all
   .rw[aY,eZ ow];exact .any _
  .intro id k hk p;have:=kL z (id:=id) k 0 ow (λj T h2=>by
    grind)
   simp_all
  .intro id hid _;rw[e0]at hid;exact n.new id hid
end
structure Cn (C:eA) (st:St) (a:Act) (w:World) (U:Nat->Prop) (ρ:Nat->Option Value):Prop where
 tm:dg w U ρ st.tmps a.tmps.toList
 hp:gK C w U ρ st.hp
 new:∀id,st.heap.length<=id->ρ id=Q2
 df:a.defers=[]
 r0:∀id v,C.ρ0 id=Q1 v->ρ id=Q1 v
section
variable {E:cg} {C:eA} {a:Act} {w:World} {U:Nat->Prop} {ρ:Nat->Option Value}
theorem Cn.toR{b:St}(h:Cn C b a w U ρ):AD C {tmps:=b.tmps,heap:=b.heap} a w U ρ:=⟨h.tm,h.hp,h.new,sw,h.df,h.r0⟩
variable {s:RS}
theorem AD.out(h:AD C s a w U ρ):Cn C s.out a w U ρ:=⟨h.tm,h.hp,h.new,h.df,h.r0⟩
theorem jP{ops:List Oper}:∀{t:Tr RS}{s:RS},(checked ops t).val=Q1 s->t.val=Q1 s/\vB ops s.log=Q3
 |.err,s,h=>by simp[checked]at h
 | .chk c t,s,h=>by
  cases c
  .simp[checked,Tr.val]at h
  .simp only[checked,Tr.val,zh]at h|-;exact jP h
 | .br c t f,s,h=>by
  cases c
  .simp only[checked,Tr.val,zE,zm]at h|-;exact jP h
  .simp only[checked,Tr.val,zh]at h|-;exact jP h
 | .ok x,s,h=>by
  simp only[checked]at h;split at h
  .simp_all
  .simp at h
variable {ops:List Oper}
theorem UG(m:zw E){id:Nat}{k:Bool}{c:RS}(p:s.log=[])(l:s.known=[])
  (h:(ite k (checked ops (bU E ops ops s)) (bU E ops ops s)).val=Q1 c) (o:AD C s a w U ρ) (n:Wd E.gl C w U):
  (Code.region id ops.toArray k).wp E.P (λe g b=>e=.normal/\∃x d,AD C c g b x d/\Wd E.gl C b x) a w:=by
 cases k
 .simp only[zE,zm]at h;refine wp_region ?_;have:=C4 (C:=C) m (Q:=λe g b=>e=.normal/\∃x d,AD C c g b x d/\Wd E.gl C b x) (λg b x d i j=>⟨rfl,x,d,i,j⟩) ops 0 s a w U ρ sw h o n;rw[<-List.range_eq_range']at this;simpa using this
 .simp only[zh]at h;obtain⟨i,j⟩:=jP h;exact Ni m i p l j o n
theorem qK{o:Oper}{c:RS}(h:(uf E ops s o).val=Q1 c)(x:c.touched=Q4):s.touched=Q4/\c.heap=s.heap:=by
 have g:∀k,(FA E o {s with known:=k}).val=Q1 c->s.touched=Q4/\c.heap=s.heap:=by
  intro k h;unfold FA at h;split at h
  .simp only[Tr.val_bind,fO]at h;obtain⟨f,_,h⟩:=h;split at h
   .simp at h;subst h;simp at x;obtain⟨e,i,j⟩:=x;refine⟨e,?_⟩;simp[i,j,og]
   .simp at h
  .simp at h
 have skip:∀k,mP o {s with known:=k}=c->s.touched=Q4/\c.heap=s.heap:=by
  rintro k rfl;exact⟨x,rfl⟩
 unfold uf at h;split at h
 .exact g s.known h
 .split at h
  .simp at h;exact skip s.known h
  .split at h
   .split at h
    .exact g s.known h
    .simp at h;exact skip s.known h
   .simp at h;exact skip s.known h
   .rename_i b _;rename_i d _ _ _ _ _ _;cases b
    .simp only[Tr.val,zE,zm]at h;split at h
     .simp at h;exact skip _ h
     .exact g _ h
    .simp only[Tr.val,zh]at h;split at h
     .exact g _ h
     .simp at h;exact skip _ h
   .simp at h
theorem pq{ops:List Oper}:∀(r:List Oper)(s x:RS),(bU E ops r s).val=Q1 x->x.touched=Q4->x.heap=s.heap
 |[],s,x,h,_=>by simp[bU]at h;rw[h]
 | o :: r,s,x,h,b=>by
  simp only[bU,Tr.val_bind,fO]at h;obtain⟨c,e,d⟩:=h;have g:=pq r c x d b;have t:c.touched=Q4:=by
   have k:∀(r:List Oper)(s x:RS),(bU E ops r s).val=Q1 x->x.touched=Q4->s.touched=Q4:=by
    intro r
    induction r with
    |nil=>intro s x h b;simp[bU]at h;rw[h];exact b
    | cons o r i=>
     intro s x h b;simp only[bU,Tr.val_bind,fO]at h;obtain⟨c,e,d⟩:=h;exact(qK e (i c x d b)).1
   exact k r c x d b
  rw[g,(qK e t).2]
theorem sO{ops:List Oper}:∀(r:List Oper)(s x:RS),(bU E ops r s).val=Q1 x->KnA s->x.tmps.length=s.tmps.length/\∀d,d∉Tw r->x.tmps.getD d .any=s.tmps.getD d .any
 |[],s,x,h,_=>by simp[bU]at h;rw[h];exact⟨rfl,λ_ _=>rfl⟩
 | o::r,s,x,h,hk=>by
  simp only[bU,Tr.val_bind,fO]at h;obtain⟨n,k,l⟩:=h;obtain⟨p,g,_,c⟩:=EO k hk;obtain⟨i,j⟩:=sO r n x l c;refine⟨by rw[i,g.tlen],λd b=>?_⟩;rw[j d (λm=>b (by simp only[Tw,List.filterMap_cons];split<;>simp_all[Tw])),g.slots (λe=>b (by simp[Tw,e]))]
theorem iN(c:Bool):∀(h:List Nat)(p t f:List AV),(dF c h p t f).length=Io p
 |[],_,_,_=>rfl
 |d::r,p,t,f=>by rw[dF,iN c r];simp
theorem px(c:Bool):∀(h:List Nat)(p t f:List AV)(s:Nat),(dF c h p t f).getD s .any=if s∈h/\s<Io p then(rG c (t.getD s .any) (f.getD s .any)).getD .any else p.getD s .any
 |[],p,t,f,s=>by simp[dF]
 | d::r,p,t,f,s=>by
  rw[dF,px c r];grind
theorem rq{q:List Nat}{t:List AV}:∀{x:Tr RS}{c:Option Bool}{l:List AV},AN q t x=Q1 (c,l)->(c=Q2\/c=Q1 Q3)->∃d,x.val=Q1 d/\d.touched=Q4/\
  (d.tmps.length=Io t->Io l=Io t)/\∀s v,(s∉q->d.tmps.getD s .any=t.getD s .any)->Rv w U ρ (d.tmps.getD s .any) v->Rv w U ρ (l.getD s .any) v
 |.err,c,l,h,_=>by simp[AN]at h
 | .ok X,c,l,h,_=>by
  simp only[AN]at h;simp_all
 | .chk I x,c,l,h,D=>by
  simp only[AN]at h;split at h
  .rename_i W F;cases h;have:I=Q3:=by simpa using D
   subst this;simp only[Tr.val,zh];exact rq F (.inl rfl)
  .rename_i J W F;cases h;have:I=Q3/\J=Q3:=by simpa using D
   obtain⟨rfl,rfl⟩:=this;simp only[Tr.val,zh];exact rq F (.inr rfl)
  .cases h
 | .br b x f,c,l,h,D=>by
  have T:∀(o n:Option Bool)(i lf:List AV),AN q t x=Q1 (o,i)->AN q t f=Q1 (n,lf)->l=dF b q t i lf->(b=Q3->o=Q2\/o=Q1 Q3)->(b=Q4->n=Q2\/n=Q1 Q3)->
    ∃d,(br b x f).val=Q1 d/\d.touched=Q4/\(d.tmps.length=Io t->Io l=Io t)/\∀s v,(s∉q->d.tmps.getD s .any=t.getD s .any)->Rv w U ρ (d.tmps.getD s .any) v->Rv w U ρ (l.getD s .any) v:=by
   rintro o n i lf P N rfl A B
   have j:∀(d:RS),(∀s v,(s∉q->d.tmps.getD s .any=t.getD s .any)->Rv w U ρ (d.tmps.getD s .any) v->Rv w U ρ ((ite b i lf).getD s .any) v)->
     ∀s v,(s∉q->d.tmps.getD s .any=t.getD s .any)->Rv w U ρ (d.tmps.getD s .any) v->Rv w U ρ ((dF b q t i lf).getD s .any) v:=by
    intro d O s v e g;rw[px];split
    .rename_i m;have M:=O s v e g;cases G:rG b (i.getD s .any) (lf.getD s .any)with
     |none=>exact .any _
     | some z=>
      refine DB G ?_;cases b<;>simpa using M
    .rename_i m;by_cases k:s∈q
     .have:¬s<Io t:=λh=>m ⟨k,h⟩
      rw[aY,eZ ow];exact .any _
     .rw[<-e k];exact g
   cases b
   .obtain⟨d,p,u,_,y⟩:=rq N (B rfl);exact⟨d,by simpa[Tr.val]using p,u,λ_=>iN _ _ _ _ _,j d (λs v H g=>by simpa using y s v H g)⟩
   .obtain⟨d,p,u,_,y⟩:=rq P (A rfl);exact⟨d,by simpa[Tr.val]using p,u,λ_=>iN _ _ _ _ _,j d (λs v H g=>by simpa using y s v H g)⟩
  simp only[AN]at h;grind
theorem sQ(hE:zw E){id:Nat}{ops:Array Oper}{k:Bool}{b M:St}(h:(jp E ops.toList k b).val=Q1 M)(hc:Cn C b a w U ρ)(hW:Wd E.gl C w U):
  (Code.region id ops k).wp E.P (λe A m=>e=.normal/\∃g p,Cn C M A m g p/\Wd E.gl C m g) a w:=by
 unfold jp at h;simp only at h;generalize n:({tmps:=b.tmps,heap:=b.heap}:RS)=z at h;have N:z.log=[]:=by rw[<-n]
 have J:z.known=[]:=by rw[<-n]
 have h0:AD C z a w U ρ:=by rw[<-n];exact hc.toR
 have h4:KnA z:=by intro d x hl;rw[J]at hl;simp at hl
 generalize u:(ite k (checked ops.toList (bU E ops.toList ops.toList z)) (bU E ops.toList ops.toList z))=t at h;have y:∀D,t.val=Q1 D->(Code.region id ops k).wp E.P (λe A m=>e=.normal/\∃g p,AD C D A m g p/\Wd E.gl C m g) a w:=by
  intro D o;have:=UG (id:=id) hE N J (by rw[u];exact o) h0 hW;simpa using this
 have W:∀D,t.val=Q1 D->(bU E ops.toList ops.toList z).val=Q1 D:=by
  intro D o;rw[<-u]at o;cases k
  .simpa using o
  .simp only[zh]at o;exact(jP o).1
 have F:(t.bind λs=>Tr.ok s.out).val=Q1 M->(Code.region id ops k).wp E.P (λe A m=>e=.normal/\∃g p,Cn C M A m g p/\Wd E.gl C m g) a w:=by
  intro h;simp only[Tr.val_bind,fO]at h;obtain⟨D,o,h⟩:=h;simp at h;subst h;exact wp_mono (y D o) (λe A m ⟨Y,g,p,B,Z⟩=>⟨Y,g,p,B.out,Z⟩)
 have X:∀c l,AN (Tw ops.toList) b.tmps t=Q1 (c,l)->(c=Q2\/c=Q1 Q3)->M={b with tmps:=l}->
   (Code.region id ops k).wp E.P (λe A m=>e=.normal/\∃g p,Cn C M A m g p/\Wd E.gl C m g) a w:=by
  rintro c l I H rfl;obtain⟨G,o,ht,hl,_⟩:=rq (w:=w) (U:=U) (ρ:=ρ) I H;obtain⟨h6,h5⟩:=sO ops.toList z G (W G o) h4;have q:=pq ops.toList z G (W G o) ht;refine wp_mono (y G o) (λe A m ⟨Y,g,p,B,Z⟩=>⟨Y,g,p,⟨⟨?_,λj c v h7 O=>?_⟩,?_,?_,B.df,B.r0⟩,Z⟩)
  .have:=B.tm.len;grind
  .obtain⟨h8,T,_,_,hr⟩:=rq (w:=m) (U:=g) (ρ:=p) I H;rw[o]at T;cases T;have hj:j<G.tmps.length:=by rw[B.tm.len];exact(dc.1 O).1
   have e0:z.tmps=b.tmps:=by rw[<-n]
   have:=hr j v (λhd=>by rw[h5 j hd,e0]) (B.tm.rv j _ v (by simp_all) O);simp_all
  .have:G.hp=({b with tmps:=l}:St).hp:=by
    funext i;simp only[RS.hp,St.hp,q,<-n]
   rw[<-this];exact B.hp
  .have:G.heap.length=b.heap.length:=by rw[q,<-n]
   intro i hi;exact B.new i (by rw[this];exact hi)
 split at h
 .split at h
  .simp_all
  .simp_all
  .exact F h
 .exact F h
end
section
variable {E:cg} {C:eA} {a:Act} {w:World} {U:Nat->Prop} {ρ:Nat->Option Value}
theorem Ms(keep:List Nat):∀(l:List AV)(i j:Nat),(FC keep i l)[j]?=(l[j]?).map λv=>if keep.contains (i+j)then v else .any
 |[],_,_=>by simp[FC]
 |v::r,i,0=>by simp[FC]
 | v::r,i,j+1=>by
  simp only[FC,List.getElem?_cons_succ];rw[Ms keep r (i+1) j,show i+1+j=i+(j+1) by omega]
theorem Mt(keep:List Nat):∀(l:List AV)(i:Nat),(FC keep i l).length=Io l
 |[],_=>rfl
 |v::r,i=>by simp[FC,Mt keep r]
variable {b:St}
theorem zdo(keep:List Nat)(h:Cn C b a w U ρ):Cn C {b with tmps:=FC keep 0 b.tmps} a w U ρ:=by
 refine⟨⟨by rw[Mt];exact h.tm.len,λj c v x g=>?_⟩,h.hp,h.new,h.df,h.r0⟩;rw[Ms]at x;simp only[dt]at x;obtain⟨e,d,rfl⟩:=x;split
 .exact h.tm.rv j e v d g
 .exact .any v
variable {e:Nat->AO}
theorem Sd{G:Nat->AO}{i:Nat}{c:Sh}{x:Option Addr}(q:gK C w U ρ e)(u:ρ i=Q2)(m:G i=.vec c [])
  (d:∀id,id≠i->bl w U (jJ ρ i (.slice x 0 0)) id (G id)/\∀b,af (jJ ρ i (.slice x 0 0)) id (G id) b->af ρ id (e id) b):gK C w U (jJ ρ i (.slice x 0 0)) G:=by
 have Q2:∀b,¬af (jJ ρ i (.slice x 0 0)) i (G i) b:=by
  rintro b ⟨_,v,s,t⟩;simp[jJ]at s;subst s;cases x<;>simp[bJ]at t
 refine⟨λid=>?_,λg j b o p=>?_,λid b h=>?_⟩
 .by_cases l:id=i
  .subst l;rw[m];exact⟨x,0,by simp[jJ],sw,.inl ⟨rfl,rfl⟩⟩
  .exact(d id l).1
 .by_cases k:g=i
  .subst k;exact(Q2 b o).elim
  .by_cases n:j=i
   .subst n;exact(Q2 b p).elim
   .exact q.inj g j b ((d g k).2 b o) ((d j n).2 b p)
 .by_cases k:id=i
  .subst k;exact(Q2 b h).elim
  .exact q.blk id b ((d id k).2 b h)
variable {id:Nat}{v:Value}{I:AO}
theorem DL{n:Nat}{z:Nat}(b:id≠n)(h:af (jJ ρ n v) id I z):af ρ id I z:=by obtain⟨d,x,c,e⟩:=h;simp only[jJ,zg b]at c;exact⟨d,x,c,e⟩
theorem Zh(p:Nat×Option Nat×Sh)(h:Cn C b a w U ρ):∃ρ',Cn C (vD b p) a w U ρ':=by
 have O:ρ b.heap.length=Q2:=h.new _ (ah _);have B:∀(x:Option Addr){c:AV}{v:Value},Rv w U ρ c v->Rv w U (jJ ρ b.heap.length (.slice x 0 0)) c v:=λx _ _ Z=>Z.mono (ah _) (λ_ _ _=>rfl) (λ_ _ h=>h) (fg O)
 have F:∀(x:Option Addr)(id:Nat),bl w U (jJ ρ b.heap.length (.slice x 0 0)) id (b.hp id):=λx id=>
  (h.hp.ob id).mono (ah _) (λ_ _ _=>rfl) (λ_ _ h=>h) (fg O) (λd ho=>⟨rfl,((h.hp.ob id).inU ho).1⟩)
 have z:∀(g:List AO)(o:AO),Io g=b.heap.length->(g++[o]).getD b.heap.length .dead=o:=by
  intro g o hl;rw[aY,jg ow,hl];simp
 have A:∀(g:List AO)(o:AO)(id:Nat),Io g=b.heap.length->id≠b.heap.length->(g++[o]).getD id .dead=g.getD id .dead:=by
  intro g o id hl t;simp only[aY];by_cases y:id<Io g
  .rw[kG y]
  .grind
 have D:∀(x:Option Addr)(g:List AO)(o:AO),Io g=b.heap.length->∀id,(g++[o]).length<=id->jJ ρ b.heap.length (.slice x 0 0) id=Q2:=by
  intro x g o hl id t;simp at t;simp only[jJ];rw[zg ow];exact h.new id ow
 obtain⟨s,c,e⟩:=p;cases c with
 | none=>
  simp only[vD];split
  .rename_i g;have y:s<b.tmps.length:=by
    apply th;intro X;rw[aY,eZ ow]at g;cases g
   have h8:b.tmps[s]?=Q1 .nils:=by
    rw[aY,z6 y]at g;rw[z6 y];simpa using g
   have I:s<a.tmps.toList.length:=by rw[<-h.tm.len];exact y
   have k:=h.tm.rv s _ _ h8 (z6 I);generalize hx:a.tmps.toList[s]=x at k;cases k with
   |nils H=>
   refine⟨jJ ρ b.heap.length (.slice H 0 0),⟨by simp[h.tm.len],λj c v n k=>?_⟩,Sd h.hp O (z _ _ rfl) (λid t=>?_),D H _ _ rfl,h.df,λid v Z=>fg O id v (h.r0 id v Z)⟩
   .rw[na]at n;split at n
    next h9=>subst h9;cases n;rw[z6 I,hx]at k;cases k;exact .vec _ _ (by simp[jJ]) rfl
    .exact B H (h.tm.rv j c v n k)
   .have:({tmps:=b.tmps.set s (.vec b.heap.length),heap:=b.heap++[.vec e []]}:St).hp id=b.hp id:=A b.heap _ id rfl t;rw[this];exact⟨F H id,λd P=>DL t P⟩
  .exact⟨ρ,h⟩
 | some c=>
  simp only[vD];split
  .rename_i id hsl;split
   .rename_i M W;split
    .rename_i m;have ho:=h.hp.ob id;rw[W]at ho;obtain⟨d,T,G,h1,h2,h3,h4,h5⟩:=ho;have q:c<Io M:=by
      apply th;intro X;rw[aY,eZ ow]at m;cases m
     have h6:M[c]?=Q1 .nils:=by
      rw[aY,z6 q]at m;rw[z6 q];simpa using m
     have J:c<G.toList.length:=by rw[<-h4.len];exact q
     have k:=h4.rv c _ _ h6 (z6 J);generalize hx:G.toList[c]=x at k;cases k with
     |nils H=>
     have N:id<b.heap.length:=by
      apply th;intro X;have:=h.new id ow;rw[h1]at this;cases this
     have x0:id≠b.heap.length:=by omega
     refine⟨jJ ρ b.heap.length (.slice H 0 0),⟨h.tm.len,λj cc v n k=>B H (h.tm.rv j cc v n k)⟩,Sd h.hp O (z _ _ sw) (λl u=>?_),D H _ _ sw,h.df,λi v Z=>fg O i v (h.r0 i v Z)⟩;have e0:({tmps:=b.tmps,heap:=b.heap.set id (.box (M.set c (.vec b.heap.length)))++[.vec e []]}:St).hp l=(b.heap.set id (.box (M.set c (.vec b.heap.length)))).getD l .dead:=A _ _ l sw u;rw[e0];by_cases Y:id=l
     .subst Y;have e1:(b.heap.set id (.box (M.set c (.vec b.heap.length)))).getD id .dead=.box (M.set c (.vec b.heap.length)):=by
       simp[List.getElem?_set_self N]
      rw[e1];refine⟨⟨d,T,G,fg O _ _ h1,h2,h3,⟨by simp[h4.len],λj cc v n k=>?_⟩,h5⟩,λb' P=>?_⟩
      .rw[na]at n;split at n
       next h7=>subst h7;cases n;rw[z6 J,hx]at k;cases k;exact .vec _ _ (by simp[jJ]) rfl
       .exact B H (h4.rv j cc v n k)
      .obtain⟨_,v,k,h0⟩:=DL u P;exact⟨by rw[W];rfl,v,k,h0⟩
     .have e1:(b.heap.set id (.box (M.set c (.vec b.heap.length)))).getD l .dead=b.hp l:=by
       simp[St.hp,BW Y]
      rw[e1];exact⟨F H l,λd P=>DL u P⟩
    .exact⟨ρ,h⟩
   .exact⟨ρ,h⟩
  .exact⟨ρ,h⟩
theorem DP:∀(x:List (Nat×Option Nat×Sh)){s:St}{ρ:Nat->Option Value},Cn C s a w U ρ->∃b,Cn C (x.foldl vD s) a w U b
 |[],_,ρ,h=>⟨ρ,h⟩
 | p::x,s,ρ,h=>by
  obtain⟨b,c⟩:=Zh p h;exact DP x c
theorem ZR{H:Nat->AV}(p:Nat×Nat)(h:Cn C b a w U ρ)(F:Wd H C w U):∃W,Cn C (HM b p) a w W ρ/\Wd H C w W:=by
 obtain⟨s,c⟩:=p;simp only[HM];split
 .rename_i id hsl;split
  .rename_i J y;split
   .rename_i k m;split
    .rename_i e l A;have D:oK (b.hp k)=Q3:=by cases hk:b.hp k<;>rw[hk]at A<;>simp[Df]at A<;>rfl
     have z:=Ef.frz (w:=w) (U:=U) (ρ:=ρ) (n:=b.heap.length) (hp:=b.hp) (ids:=[k]) (r:=.any) (v:=undef) F.ub (by simpa using D) (λj _=>h.hp.ob j) (.any _);generalize(λx=>U x/\¬∃j∈[k],af ρ j (b.hp j) x)=W at z;have h8:gN b.hp [k]=[(k,.frz e l)]:=by simp[gN,A]
     rw[h8]at z
     obtain⟨Z,d,O⟩:=B4 (hp':=λid=>if id=k then .frz e l else b.hp id) F h.hp z (λ_ _ _=>rfl)
      (λi q=>by
       simp_all)
      (λj o hj=>by simp at hj)
      (λi x1 _=>by
       simp_all)
     have N:id≠k:=by
      rintro rfl;rw[y]at D;cases D
     have ok:=d.ob k;simp only[zh]at ok;obtain⟨vk,h7,x2⟩:=ok;have oi:=d.ob id;simp only[zg N,y]at oi;obtain⟨x,T,P,h1,h2,h3,Y,h5⟩:=oi;have h9:id<b.heap.length:=by
      apply th;intro M;have:=h.new id ow;rw[h1]at this;cases this
     have x0:k<b.heap.length:=by
      apply th;intro M;have:=h.new k ow;rw[h7]at this;cases this
     have t:c<Io J:=by
      apply th;intro M;rw[aY,eZ ow]at m;cases m
     have h0:J[c]?=Q1 (.vec k):=by
      rw[aY,z6 t]at m;rw[z6 t];simpa using m
     have B:∀i,({tmps:=b.tmps,heap:=(b.heap.set k (.frz e l)).set id (.box (J.set c (.sl e l)))}:St).hp i=if i=id then .box (J.set c (.sl e l))else if i=k then .frz e l else b.hp i:=by
      intro i;simp only[St.hp,aY];by_cases q:i=id
      .simp_all
      .grind
     have g:∀i u,af ρ i (ite (i=id) (.box (J.set c (.sl e l))) (ite (i=k) (.frz e l) (b.hp i))) u->af ρ i (ite (i=k) (AO.frz e l) (b.hp i)) u:=by
      intro i u ho;by_cases q:i=id
      .subst q;rw[zg N,y];obtain⟨_,v,I,hb⟩:=ho;exact⟨rfl,v,I,hb⟩
      .rwa [zg q]at ho
     refine⟨W,⟨⟨h.tm.len,λj X v G I=>O (h.tm.rv j X v G I)⟩,⟨λi=>?_,λi1 i2 u o1 o2=>?_,λi u o=>?_⟩,λi q=>h.new i (by simpa using q),h.df,h.r0⟩,Z⟩
     .rw[B];by_cases q:i=id
      .subst q;rw[ze rfl];refine⟨x,T,P,h1,h2,h3,⟨by simp[Y.len],λj X v G I=>?_⟩,h5⟩;rw[na]at G;split at G
       .rename_i h6;subst h6;cases G;have:=Y.rv c _ v h0 I;cases this with
        |vec _ _ hr _=>
        simp_all
       .exact Y.rv j X v G I
      .rw[zg q];exact d.ob i
     .rw[B]at o1 o2;exact d.inj i1 i2 u (g _ _ o1) (g _ _ o2)
     .rw[B]at o;exact d.blk i u (g _ _ o)
    .exact⟨U,h,F⟩
   .exact⟨U,h,F⟩
  .exact⟨U,h,F⟩
 .exact⟨U,h,F⟩
theorem Nu{gl:Nat->AV}:∀(d:List (Nat×Nat)){s:St}{U:Nat->Prop},Cn C s a w U ρ->Wd gl C w U->∃x,Cn C (d.foldl HM s) a w x ρ/\Wd gl C w x
 |[],_,U,h,b=>⟨U,h,b⟩
 | p::d,s,U,h,b=>by
  obtain⟨x,e,c⟩:=ZR p h b;exact Nu d e c
theorem iT(f:Nat->Nat):∀h:List AV,AV.renL f h=h.map (AV.ren f)
 |[]=>rfl
 |c::h=>by simp[AV.renL,iT f h]
theorem qd(f:Nat->Nat):∀(e:Sh)(x:Sem e)(q:Nat)(c:AV),(zz e x)[q]?=Q1 c->c.ren f=c:=by
 intro e
 induction e with
 |unit=>intro y q d h;simp[zz]at h
 |bool=>intro y q d h;cases q<;>simp[zz]at h;subst h;simp[AV.ren]
 |int k=>intro y q d h;cases q<;>simp[zz]at h;subst h;simp[AV.ren]
 |str=>intro y q d h;cases q<;>simp[zz]at h;subst h;simp[AV.ren]
 |sl e j=>intro y q d h;cases q<;>simp[zz]at h;subst h;simp[AV.ren]
 | pr a b i g=>
  intro y q d h;simp only[zz]at h;grind
 | expr=>
  intro y q d h
  match q with
  |0=>simp[zz]at h;subst h;simp[AV.ren]
  |1=>simp[zz]at h;subst h;simp[AV.ren]
  |2=>simp[zz]at h;subst h;simp[AV.ren]
  |3=>simp[zz]at h;subst h;simp[AV.ren]
  |4=>simp[zz]at h;subst h;simp[AV.ren]
  |5=>simp[zz]at h;subst h;simp[AV.ren]
  |_+6=>simp[zz]at h
theorem mq:∀(e:Sh)(x:Sem e)(q:Nat)(c:AV),(zz e x)[q]?=Q1 c->c.ids=[]:=by
 intro e
 induction e with
 |unit=>intro y q d h;simp[zz]at h
 |bool=>intro y q d h;cases q<;>simp[zz]at h;subst h;simp[AV.ids]
 |int k=>intro y q d h;cases q<;>simp[zz]at h;subst h;simp[AV.ids]
 |str=>intro y q d h;cases q<;>simp[zz]at h;subst h;simp[AV.ids]
 |sl e j=>intro y q d h;cases q<;>simp[zz]at h;subst h;simp[AV.ids]
 | pr a b i g=>
  intro y q d h;simp only[zz]at h;grind
 | expr=>
  intro y q d h
  match q with
  |0=>simp[zz]at h;subst h;simp[AV.ids]
  |1=>simp[zz]at h;subst h;simp[AV.ids]
  |2=>simp[zz]at h;subst h;simp[AV.ids]
  |3=>simp[zz]at h;subst h;simp[AV.ids]
  |4=>simp[zz]at h;subst h;simp[AV.ids]
  |5=>simp[zz]at h;subst h;simp[AV.ids]
  |_+6=>simp[zz]at h
variable {ρ':Nat->Option Value}{f:Nat->Nat}
theorem Rv.ren'{m:AV}(h:Rv w U ρ m v)(z:∀id∈m.ids,∀v,ρ id=Q1 v->ρ' (f id)=Q1 v):Rv w U ρ' (m.ren f) v:=by
 induction h with
 |any v=>simp only[AV.ren];exact .any v
 |kb b=>simp only[AV.ren];exact .kb b
 |bool b=>simp only[AV.ren];exact .bool b
 |int k n h=>simp only[AV.ren];exact .int k n h
 |str s h=>simp only[AV.ren];exact .str s h
 |nils a=>simp only[AV.ren];exact .nils a
 |sl0 e a m=>simp only[AV.ren];exact .sl0 e a m
 | sl e l b o m u g P D B p W H=>
  simp only[AV.ren];refine .sl e l b o m u g P D B p (λi hi j I F=>?_);have:=H i hi j I F (λid d=>by rw[mq e _ j I F]at d;simp at d)
  rwa [qd f e _ j I F]at this
 |vec id v h A=>simp only[AV.ren];exact .vec _ v (z id (by simp[AV.ids]) _ h) A
 |ptr id q b h=>simp only[AV.ren];exact .ptr _ q b (z id (by simp[AV.ids]) _ h)
 |vptr id sz i q b n m h=>simp only[AV.ren];exact .vptr _ sz i q b n m (z id (by simp[AV.ids]) _ h)
 | eptr J q b o u D B p A W H=>
  simp only[AV.ren,iT];refine .eptr _ q b o u D B (by simpa using p) (by simpa using A) (λj m g=>?_);simp only[du,dt]at g;obtain⟨y,c,rfl⟩:=g;exact H j y c (λid d=>z id (by simp only[AV.ids];exact iI (fF c) d))
 |nilp=>simp only[AV.ren];exact .nilp
 | agg J Z O A W H=>
  simp only[AV.ren,iT];refine .agg _ Z (by simpa using O) A (λj m v g G=>?_);simp only[du,dt]at g;obtain⟨y,c,rfl⟩:=g;exact H j y v c G (λid d=>z id (by simp only[AV.ids];exact iI (fF c) d))
 | tup J Z O W H=>
  simp only[AV.ren,iT];refine .tup _ Z (by simpa using O) (λj m v g G=>?_);simp only[du,dt]at g;obtain⟨y,c,rfl⟩:=g;exact H j y v c G (λid d=>z id (by simp only[AV.ids];exact iI (fF c) d))
 | clo fn fs J vf vc N p h2 h0 Y X=>
  simp only[AV.ren,iT];refine .clo fn _ _ vf vc (by simpa using N) (by simpa using p) (λj m v g G=>?_) (λj m v g G=>?_)
  .simp only[du,dt]at g;obtain⟨y,c,rfl⟩:=g;exact Y j y v c G (λid d=>z id (by simp only[AV.ids,cz];exact .inl (iI (fF c) d)))
  .simp only[du,dt]at g;obtain⟨y,c,rfl⟩:=g;exact X j y v c G (λid d=>z id (by simp only[AV.ids,cz];exact .inr (iI (fF c) d)))
 |nilf=>simp only[AV.ren];exact .nilf
 |mp id v h A=>simp only[AV.ren];exact .mp _ v (z id (by simp[AV.ids]) _ h) A
 |ifcN=>simp only[AV.ren];exact .ifcN
 |ifcS t v=>simp only[AV.ren];exact .ifcS t v
 |tab k zs b T M D B=>simp only[AV.ren];exact .tab k zs b T M D B
 |gint x b T M P D B=>simp only[AV.ren];exact .gint x b T M P D B
variable {t:List AV}{A:List Value}
theorem dg.ren'(h:dg w U ρ t A)(g:∀id∈AV.idsL t,∀v,ρ id=Q1 v->ρ' (f id)=Q1 v):dg w U ρ' (AV.renL f t) A:=by rw[iT];refine⟨by simpa using h.len,λj c v d i=>?_⟩;simp only[du,dt]at d;obtain⟨e,x,rfl⟩:=d;exact(h.rv j e v x i).ren' (λid b=>g id (iI (fF x) b))
variable {id':Nat}
theorem bl.ren'(h:bl w U ρ id I)(k:∀v,ρ id=Q1 v->ρ' id'=Q1 v)(D:∀i∈I.ids,∀v,ρ i=Q1 v->ρ' (f i)=Q1 v):bl w U ρ' id' (I.ren f):=by
 have B:∀(e:Sh)(x:Sem e)(j:Nat)(c:AV)(v:Value),(zz e x)[j]?=Q1 c->Rv w U ρ c v->Rv w U ρ' c v:=by
  intro e x j c v A H;have:=H.ren' (ρ':=ρ') (f:=f) (λi t=>by rw[mq e x j c A]at t;simp at t)
  rwa [qd f e x j c A]at this
 cases I with
 |dead=>trivial
 | box J=>
  obtain⟨b,T,y,m,n,o,q,s⟩:=h;exact⟨b,T,y,k _ m,n,o,q.ren' D,s⟩
 | vec e l=>
  obtain⟨a,c,m,n,o⟩:=h;refine⟨a,c,k _ m,n,?_⟩;grind
 | frz e l=>
  obtain⟨v,m,n⟩:=h;refine⟨v,k _ m,?_⟩;have:=n.ren' (ρ':=ρ') (f:=f) (by simp[AV.ids]);simpa[AV.ren]using this
 | fmap z=>
  obtain⟨r,g,d,m,n,o,q,s⟩:=h;refine⟨r,g,d,k _ m,n,o,?_,by rw[s];simp⟩;have:=q.ren' (ρ':=ρ') (f:=f) D;rw[iT]at this;simpa[nh,uv]using this
 | vmap u z=>
  obtain⟨r,g,d,m,n,o,q,s⟩:=h;exact⟨r,g,d,k _ m,n,o,q,s⟩
 | gmap e z=>
  obtain⟨r,g,d,F,m,n,o,q,s⟩:=h;refine⟨r,g,d,F,k _ m,n,o,?_,s⟩;have G:AV.renL f (z.map λp=>sl e p.2)=z.map λp=>sl e p.2:=by rw[iT,nh];rfl
  have:=q.ren' (ρ':=ρ') (f:=f) (λi t=>by
   obtain⟨c,A,t⟩:=RC t;obtain⟨p,_,rfl⟩:=bh.1 A;simp[AV.ids]at t)
  rwa [G]at this
theorem Rv.ren{m:AV}(h:Rv w U ρ m v)(b:∀id∈m.ids,ρ' (f id)=ρ id):Rv w U ρ' (m.ren f) v:=
 h.ren' λid x v c=>by rw[b id x];exact c
theorem dg.ren(h:dg w U ρ t A)(b:∀id∈AV.idsL t,ρ' (f id)=ρ id):dg w U ρ' (AV.renL f t) A:=
 h.ren' λid x v c=>by rw[b id x];exact c
theorem bl.ren(h:bl w U ρ id I)(x:ρ' id'=ρ id)(c:∀i∈I.ids,ρ' (f i)=ρ i):bl w U ρ' id' (I.ren f):=
 h.ren' (λv b=>by rw[x];exact b) λid x v b=>by rw[c id x];exact b
theorem DK(o:AO):(o.ren f).owns=o.owns:=by cases o<;>rfl
theorem DE:∀{l:List Nat},RO l=Q3->l.Nodup
 |[],_=>List.nodup_nil
 | i::r,h=>by
  simp[RO]at h;exact List.nodup_cons.2 ⟨h.1,DE h.2⟩
theorem Sz{n0:Nat}{q c:List Nat}(J:∀id,n0<=id->C.ρ0 id=Q2)(m:kR e n0 c q=Q3)(t:gK C w U ρ e)(O:∀id v,C.ρ0 id=Q1 v->ρ id=Q1 v):
  let g:=λj=>(q[j]?).bind ρ
  (∀id∈c,g (q.idxOf id)=ρ id)/\gK C w U g (λj=>(q.map λi=>(e i).ren λi=>q.idxOf i).getD j .dead)/\(∀id,Io q<=id->g id=Q2)/\∀id v,C.ρ0 id=Q1 v->g id=Q1 v:=by
 intro g;simp only[kR,aE,dQ,FZ,bd]at m;obtain⟨⟨⟨F,G⟩,H⟩,I⟩:=m;have y:=DE H;have l:∀id∈q,g (q.idxOf id)=ρ id:=by
  intro id k;have h:q.idxOf id<Io q:=List.idxOf_lt_length_iff.2 k;show(q[q.idxOf id]?).bind ρ=ρ id;rw[z6 h,List.getElem_idxOf h];rfl
 have d:∀j(d:j<Io q),g j=ρ q[j]:=by
  intro j d;show(q[j]?).bind ρ=ρ q[j];rw[z6 d];rfl
 have n:∀j(d:j<Io q),(q.map λi=>(e i).ren λi=>q.idxOf i).getD j .dead=(e q[j]).ren λi=>q.idxOf i:=by
  intro j d;rw[aY,du,z6 d];rfl
 have p:∀j,Io q<=j->(q.map λi=>(e i).ren λi=>q.idxOf i).getD j .dead=.dead:=by
  intro j d;rw[aY,eZ (by simpa using d)];rfl
 have x:∀j b,af g j ((q.map λi=>(e i).ren λi=>q.idxOf i).getD j .dead) b->∃d:j<Io q,af ρ q[j] (e q[j]) b:=by
  rintro j b ⟨B,v,s,M⟩;by_cases h:j<Io q
  .refine⟨h,?_,v,by rw[<-d j h];exact s,M⟩;rw[n j h,DK]at B;exact B
  .grind
 refine⟨λid k=>l id (F id k),⟨λj=>?_,λP T b o1 o2=>?_,λj b o=>?_⟩,λj u=>?_,λid v s=>?_⟩
 .by_cases h:j<Io q
  .rw[n j h];exact(t.ob q[j]).ren (d j h) (λi N=>l i (G q[j] (bp h) i N))
  .rw[p j ow];trivial
 .obtain⟨W,z⟩:=x P b o1;obtain⟨Y,X⟩:=x T b o2;exact(List.getElem_inj y).1 (t.inj _ _ b z X)
 .obtain⟨W,z⟩:=x j b o;exact t.blk _ b z
 .grind
 .have h:id<n0:=by
   apply th;intro u;rw[J id ow]at s;cases s
  have A:q[id]?=Q1 id:=by
   have D:(q.take n0)[id]?=Q1 id:=by rw[I,uu h]
   rwa [List.getElem?_take,ze h]at D
  grind
theorem RP{n0:Nat}{k:aP}{M:St}(j:∀id,n0<=id->C.ρ0 id=Q2)(h:zli n0 k b=Q1 M)(l:Cn C b a w U ρ):∃m,Cn C M a w U m:=by
 unfold zli at h;obtain⟨n,x⟩:=DP k.prom (zdo k.slots l);generalize k.prom.foldl vD {b with tmps:=FC k.slots 0 b.tmps}=s at h x;unfold zg9 at h;simp only at h;split at h
 next c=>cases h;obtain⟨e,d,g,i⟩:=Sz j c x.hp x.r0;exact⟨_,x.tm.ren e,d,by simpa using g,x.df,i⟩
 .cases h
end
def Tr.Sat{α:Type}(Φ:α->Prop):Tr α->Prop
 |.err=>False
 |.chk c t=>c=Q3/\t.Sat Φ
 |.br c t f=>(c=Q3->t.Sat Φ)/\(c=Q4->f.Sat Φ)
 |.ok a=>Φ a
theorem Tr.sat_val{α:Type}{Φ:α->Prop}:∀{t:Tr α},t.Sat Φ->∃a,t.val=Q1 a/\Φ a
 |.err,h=>h.elim
 |.chk c t,⟨d,h⟩=>by subst d;simpa[Tr.val]using sat_val h
 | .br c t f,⟨x,b⟩=>by
  cases c
  .simpa[Tr.val]using sat_val (b rfl)
  .simpa[Tr.val]using sat_val (x rfl)
 |.ok a,h=>⟨a,rfl,h⟩
theorem Tr.sat_bind{α β:Type}{Φ:β->Prop}{k:α->Tr β}:∀{t:Tr α},(t.bind k).Sat Φ->t.Sat λa=>(k a).Sat Φ
 |.err,h=>h
 |.chk _ _,⟨x,h⟩=>⟨x,sat_bind h⟩
 |.br _ _ _,⟨b,c⟩=>⟨λx=>sat_bind (b x),λx=>sat_bind (c x)⟩
 |.ok _,h=>h
def Tb(E:cg)(C:eA)(Q:AV->List AO->Prop)(e:Ending)(c:World):Prop:=
 ∃v r b x h,e=.returned v/\Q r b/\Rv c x h r v/\gK C c x h (λj=>b.getD j .dead)/\(∀id,Io b<=id->h id=Q2)/\(∀id v,C.ρ0 id=Q1 v->h id=Q1 v)/\Wd E.gl C c x
def Reach(E:cg)(C:eA)(fn:FuncId)(t:List Item)(s:St)(Q:AV->List AO->Prop):Prop:=
 ∀(b:Frame)(c:List Frame)(a:Act)(w:World)(U:Nat->Prop)(ρ:Nat->Option Value),b.fn=fn->b.kind=.normal->Cn C s a w U ρ->Wd E.gl C w U->
  ∃e x h,Tb E C Q e x/\Comes E.P (lone (b.at a t) c w) (lone h c x) e/\h.fn=fn/\h.leaving E.P x e
def ke(E:cg)(C:eA)(fn:FuncId)(Q:AV->List AO->Prop):zO->Prop
 |.head _ k s=>Reach E C fn k s Q
 |.ret v h=>Q v h
 |.fork c x b s=>(c=Q3->Reach E C fn x s Q)/\Reach E C fn b s Q
section
variable {E:cg} {C:eA} {fn:FuncId} {Q:AV->List AO->Prop}
theorem Reach.step{B t:List Item}{b:St}(h:Reach E C fn t b Q)(p:∀(x:Frame)(a:Act)(c:List Frame)(w:World),step E.P (lone (x.at a B) c w)=.next (lone (x.at a t) c w)):Reach E C fn B b Q:=by intro x c a w U ρ i j l k;obtain⟨e,q,g,o,d,m,n⟩:=h x c a w U ρ i j l k;exact⟨e,q,g,o,lp (.one (p x a c w)) d,m,n⟩
def Ex(tmps:Array Value):ResultVar->Go.Sem Value
 |.tmp t=>pure (tmps.getD t undef)
 |.cell x t=>do loadVar t (<-asAddr (tmps.getD x undef))
theorem Ez(f:Func)(tmps:Array Value):results f tmps=(do
  let v<-f.results.mapM (Ex tmps)
  pure (if h:v.size=1 then v[0]else .tuple v)):=by unfold results;congr 2
theorem EA{a:Act}{w:World}{U:Nat->Prop}{ρ:Nat->Option Value}{b:St}(l:Cn C b a w U ρ):∀(p:List ResultVar)(q:List AV),we E b p=Q1 q->
  ∃s:List Value,(p.mapM (Ex a.tmps)).run E.P w=.ok s w/\dg w U ρ q s
 | [],q,h=>by
  simp[we]at h;subst h;exact⟨[],sw,rfl,sw⟩
 | r :: p,q,h=>by
  simp only[we]at h;split at h
  .rename_i v F g A;cases h;obtain⟨s,G,n⟩:=EA l p F A;have e:∀t,Rv w U ρ (b.tmps.getD t .any) (a.tmps.getD t undef):=by
    intro t;by_cases M:t<b.tmps.length
    .have N:t<a.tmps.toList.length:=by rw[<-l.tm.len];exact M
     refine l.tm.rv t _ _ (by simp_all) ?_;simp_all
    .rw[aY,eZ ow];exact .any _
   have D:∃x,(Ex a.tmps r).run E.P w=.ok x w/\Rv w U ρ v x:=by
    cases r with
    | tmp t=>
     simp only[JP,bg]at g;subst g;exact⟨_,rfl,e t⟩
    | cell x t=>
     simp only[JP]at g;have o:=e x;split at g
     .rename_i id off hp;rw[hp]at o;generalize B:a.tmps.getD x undef=T at o;split at g
      .rename_i X m;have I:=l.hp.ob id;rw[m]at I;have:=GV (P:=E.P) (w:=w) (U:=U) (ρ:=ρ) (hp:=b.hp) (t:=t) (av:=.ptr id off) (v:=T) (f:={val:=v}) (by simp[IE,m,g]) o (λi Z=>l.hp.ob i);obtain⟨r',W,H,k,z⟩:=this;cases H;cases o with
       |ptr _ _ d Y=>
       refine⟨W,?_,z⟩;simp only[Ex,B,asAddr,cP,pO,nc];simpa[Instr.loadAt,Instr.sureAddr]using k
      .cases g
     .cases g
   obtain⟨x,hx,J⟩:=D;refine⟨x::s,?_,⟨by simp[n.len],λj c y u O=>?_⟩⟩
   .simp_all
   .cases j with
    |zero=>simp_all
    |succ j=>exact n.rv j c y (by simpa using u) (by simpa using O)
  .cases h
variable {b:St}{w:World}{U:Nat->Prop}{ρ:Nat->Option Value}
theorem zl7{n0:Nat}{f:Func}(_:E.P.funcs[fn]?=Q1 f)(z:∀id,n0<=id->C.ρ0 id=Q2){u:List ResultVar}(o:f.results.toList=u)(h:(wc E n0 u b).Sat (ke E C fn Q))
  {a:Act}    (l:Cn C b a w U ρ) (A:Wd E.gl C w U):∃v,(results f a.tmps).run E.P w=.ok v w/\Tb E C Q (.returned v) w:=by
 unfold wc at h;split at h
 .rename_i p k;obtain⟨i,g,d⟩:=EA l u p k;simp only at h;have e:(results f a.tmps).run E.P w=.ok (if h:i.toArray.size=1 then i.toArray[0]else .tuple i.toArray) w:=by
   rw[Ez,cP,Array.mapM_eq_mapM_toList,Sem.run_map,o,g];rfl
  have j:Rv w U ρ (I6 p) (if h:i.toArray.size=1 then i.toArray[0]else .tuple i.toArray):=by
   clear h k g e;have n:=d.len
   match p,i,n,d with
   |[c],[x],_,d=>simpa[I6]using d.rv 0 c x rfl rfl
   |[],[],_,_=>simpa[I6]using Rv.tup (w:=w) (U:=U) (ρ:=ρ) [] [] rfl sw
   | B::c2::cs,x1::x2::i,n,d=>
    rw[dif_neg sw];exact .tup _ _ n d.rv
  refine⟨_,e,?_⟩;split at h
  next m=>obtain⟨q,s,t,y⟩:=Sz z m l.hp l.r0;exact⟨_,_,_,U,_,rfl,h,j.ren q,s,by simpa using t,y,A⟩
  .exact h.elim
 .exact h.elim
variable {k:Bool}
theorem Co{a:Act}{c:Operand}(x:Cn C b a w U ρ)(m:a.eval c=.bool k):Cn C (A1 b c k) a w U ρ:=by
 unfold A1;split
 .rename_i i;refine{x with tm:=⟨by simpa using x.tm.len,λj d v h l=>?_⟩};rw[na]at h;split at h
  .rename_i g;subst g;split at h
   .cases h;have:a.eval (.tmp i)=v:=by
     simp only[Act.eval];rw[pC];have:=dc.1 l;obtain⟨n,o⟩:=this;have e:i<a.tmps.size:=by simpa using n
     simp[pD e,<-o]
    rw[this]at m;subst m;exact .kb k
   .cases h
  .exact x.tm.rv j d v h l
 .exact x
theorem Ty{e:Nat->AO}{m:AV}{v:Value}(h:Ip e m=Q1 k)(g:Rv w U ρ m v)(j:∀id,bl w U ρ id (e id)):∃a n i,v=.slice a n i/\(a=Q2->k=Q3):=by
 have p:∀{x:Sh}{l:List (Sem x)}{v:Value},Rv w U ρ (.sl x l) v->∃a n i,v=.slice a n i/\(a=Q2->l.isEmpty=Q3):=by
  intro x l v g;cases g with
  |sl0 _ a k=>exact⟨a,0,k,rfl,λ_=>rfl⟩
  |sl _ _ b o k _ _ _ _ _ _ _=>simp_all
 cases m<;>simp[Ip]at h
 case nils=>
  subst h;cases g with
  |nils a=>exact⟨a,0,0,rfl,λ_=>rfl⟩
 case sl x l=>
  grind
 case vec id=>
  cases g with
  |vec _ _ u _=>
  have d:=j id;split at h
  next x l c=>simp only[bg]at h;subst h;rw[c]at d;obtain⟨a,k,q,_,t⟩:=d;grind
  next x l c=>simp only[bg]at h;subst h;rw[c]at d;obtain⟨y,q,s⟩:=d;simp_all
  .cases h
variable {n:TypeId}
theorem zdt{P:Program}{b:TypeId}(d:P.underlying n=Q1 (.slice b))(x q:Operand)(p:Option Addr)(h c:Nat):
  (do eqGuard .eql n x q (.slice p h c) (.slice Q2 0 0);binOp .eql n (.slice p h c) (.slice Q2 0 0):Go.Sem Value).run P w=.ok (.bool p.isNone) w:=by
 have g:(eqGuard .eql n x q (.slice p h c) (.slice Q2 0 0)).run P w=.ok () w:=by simp[eqGuard]
 have e:(Op.equal n (.slice p h c) (.slice Q2 0 0)).run P w=.ok p.isNone w:=by
  show(Op.equalIn (9999+1) n (.slice p h c) (.slice Q2 0 0)).run P w=.ok p.isNone w;unfold Op.equalIn;rw[cP,bA d];cases p<;>rfl
 have i:(binOp .eql n (.slice p h c) (.slice Q2 0 0):Go.Sem Value)=(do pure (.bool (<-Op.equal n (.slice p h c) (.slice Q2 0 0)))):=rfl;simp_all
theorem Pm{ca cb B t:Code}{i j z:Nat}{c:List Item}(l:I0 ca cb=Q1 (i,j,z,n,B,t))(he:Ip b.hp (b.tmps.getD i .any)=Q1 k)(ht:O6 E.P n=Q3)(hd:z<b.tmps.length)(hx:j<b.tmps.length)
  (h1:k=Q3->Reach E C fn (.code B::c) {b with tmps:=(b.tmps.set j (b.tmps.getD i .any)).set z .any} Q) (h2:Reach E C fn (.code t::c) {b with tmps:=(b.tmps.set j (b.tmps.getD i .any)).set z .any} Q):Reach E C fn (.code (.seq ca cb)::c) b Q:=by
 unfold I0 at l;split at l
 .rename_i id ops d' a0 b0;split at l
  .rename_i o1 o2 M;split at l
   .rename_i x' s' d0 t0 x1 ty e1 e2 e3 e4 e5 e6;split at l
    .rename_i u;obtain⟨rfl,rfl,h6⟩:=u;cases l;intro h X a w U ρ F G s hW;have h4:∃el,E.P.underlying n=Q1 (.slice el):=by
      unfold O6 at ht;split at ht
      .exact⟨_,‹_›⟩
      .cases ht
     obtain⟨el,hu⟩:=h4;have H:Rv w U ρ (b.tmps.getD i .any) (a.eval (.tmp i)):=by
      have:=IG (E:=E) (known:=[]) s.tm sw hW.gl (.tmp i);simpa[wJ]using this
     obtain⟨p,x,W,hv,y⟩:=Ty he H (λid=>s.hp.ob id);have I:b.tmps.length=a.tmps.size:=by have:=s.tm.len;simpa using this
     have A:ops=#[o1,o2]:=by apply kg;simpa using M
     generalize g:a.put (Q1 j) (a.eval (.tmp i))=q;have O:q.eval (.tmp j)=.slice p x W:=by
      rw[<-g,hv];simp only[Act.eval,Act.put];rw[pC];simp[I▸hx]
     have N:(Code.region id ops Q4).wp E.P (λe a' T=>e=.normal/\T=w/\a'=q.put (Q1 z) (.bool p.isNone)) a w:=by
      refine wp_region ?_;rw[A];show wpOps E.P #[o1,o2] _ [0,1] a w;simp only[wpOps,QH,List.getElem?_cons_zero,Region.wanted,e3,zh];refine .inl (eW (v:=a.eval (.tmp i)) (w':=w) (by simp[execOp,e2]) ?_);rw[e1,g];simp only[List.getElem?_cons_succ,List.getElem?_cons_zero,e6,zh];refine .inl (eW (v:=.bool p.isNone) (w':=w) ?_ ?_)
      .have h5:q.tmps.getD j undef=.slice p x W:=O;have J:=zdt (w:=w) hu (.tmp j) (.const (.slice Q2 0 0)) p x W;have Z:q.eval (.tmp j)=.slice p x W:=O;have h0:q.eval (.const (.slice Q2 0 0))=.slice Q2 0 0:=rfl;unfold execOp;rw[e5];simp only[Z,h0];simp only[cP]at J|-;simp[J]
      .rw[e4];exact⟨trivial,rfl,rfl⟩
     obtain⟨e,a',T,⟨rfl,rfl,rfl⟩,d⟩:=N h (.code (.cond (.tmp z) B t)::c) X;have m:Cn C {b with tmps:=(b.tmps.set j (b.tmps.getD i .any)).set z .any} (q.put (Q1 z) (.bool p.isNone)) T U ρ:=by
      refine⟨?_,s.hp,s.new,?_,s.r0⟩
      .have r1:=mw (d:=Q1 j) s.tm H;rw[g]at r1;exact mw (d:=Q1 z) r1 (.any (.bool p.isNone))
      .rw[<-g];exact s.df
     have o:(q.put (Q1 z) (.bool p.isNone)).eval (.tmp z)=.bool p.isNone:=by
      have h3:z<q.tmps.size:=by rw[<-g];simp[Act.put];omega
      simp only[Act.eval,Act.put];rw[pC];simp[h3]
     cases hp:p with
     | none=>
      rw[hp]at o d m;obtain⟨e,D,Y,q1,q2,q3⟩:=h1 (y hp) h X _ T U ρ F G m hW;exact⟨e,D,Y,q1,lp (.one step_seq) (lp d (lp (.one (step_cond o)) q2)),q3⟩
     | some pa=>
      rw[hp]at o d m;obtain⟨e,D,Y,q1,q2,q3⟩:=h2 h X _ T U ρ F G m hW;exact⟨e,D,Y,q1,lp (.one step_seq) (lp d (lp (.one (step_cond o)) q2)),q3⟩
    .cases l
   .cases l
  .cases l
 .cases l
theorem HK(hE:zw E){n0:Nat}{f:Func}(hf:E.P.funcs[fn]?=Q1 f)(hC:∀id,n0<=id->C.ρ0 id=Q2){u:List ResultVar}(X:f.results.toList=u){keep:Nat->aP}:
  ∀(n:Nat)(d:List Item)(B:St),(run E n0 keep u n d B).Sat (ke E C fn Q)->Reach E C fn d B Q
 |0,_,_,h=>h.elim
 | n + 1,d,B,h=>by
  have s:=HK hE hf hC X (keep:=keep) n;have J:∀(c:Code)(k:List Item),(lC n0 (keep (eN c)) (eN c) (.code c::.inLoop c::k) B).Sat (ke E C fn Q)->Reach E C fn (.code c::.inLoop c::k) B Q:=by
   intro c k h;unfold lC at h;split at h
   next M W=>intro b g a w U ρ p z o q;obtain⟨O,j⟩:=RP hC W o;exact h b g a w U O p z j q
   .exact h.elim
  have cut:∀(kp:aP)(Z:Nat)(d:List Item)(B:St),(lC n0 kp Z d B).Sat (ke E C fn Q)->Reach E C fn d B Q:=by
   intro kp Z d B h;unfold lC at h;split at h
   next M W=>intro b g a w U ρ p z o q;obtain⟨O,j⟩:=RP hC W o;exact h b g a w U O p z j q
   .exact h.elim
  have m:(wc E n0 u ((keep 1000000).sett.foldl HM ((keep 1000000).prom.foldl vD B))).Sat (ke E C fn Q)->∀(d:List Item),(∀(b:Frame)(a:Act)(g:List Frame)(w:World),step E.P (lone (b.at a d) g w)=.next (lone {b.at a d with mode:=.returning} g w))->Reach E C fn d B Q:=by
   intro h d Y b g a w U ρ p z o q;obtain⟨O,j⟩:=DP (keep 1000000).prom o;obtain⟨U',h4,h3⟩:=Nu (gl:=E.gl) (keep 1000000).sett j q;obtain⟨v,hr,hp⟩:=zl7 hf hC X h h4 h3;refine⟨.returned v,w,{b.at a d with mode:=.returning},hp,.one (Y b a g w),p,rfl,o.df,z,f,?_,hr⟩;show E.P.funcs[b.fn]?=Q1 f;rw[p];exact hf
  unfold run at h;split at h
  .exact m h [] (λb a g w=>step_end)
  .exact(s _ _ h).step (λb a g w=>step_inBlock)
  .split at h
   .exact(s _ _ h).step (λb a g w=>step_inLoop)
   .exact(J _ _ h).step (λb a g w=>step_inLoop)
  .rename_i c k;split at h
   .exact(s _ _ h).step (λb a g w=>step_skip)
   .exact(s _ _ h).step (λb a g w=>step_label)
   .split at h
    .rename_i W;split at h
     .rename_i c he;split at h
      next i=>simp only[aE,aQ]at i;exact Pm W he i.1 i.2.1 i.2.2 h.1 h.2
      .exact h.elim
     .exact h.elim
    .exact(s _ _ h).step (λb a g w=>step_seq)
   .rename_i co x y;intro b g a w U ρ p z o q;have l:=IG (E:=E) (known:=[]) o.tm sw q.gl co;generalize N:a.eval co=v at l;split at h
    next A=>rw[A]at l;cases l;obtain⟨e,I,D,F,G,H⟩:=s _ _ h b g a w U ρ p z o q;exact⟨e,I,D,F,lp (.one (step_cond N)) G,H⟩
    next A=>rw[A]at l;cases l;obtain⟨e,I,D,F,G,H⟩:=s _ _ h b g a w U ρ p z o q;exact⟨e,I,D,F,lp (.one (step_cond N)) G,H⟩
    .rename_i t A;rw[A]at l;cases l;cases t
     .obtain⟨e,I,D,F,G,H⟩:=s _ _ (h.2 rfl) b g a w U ρ p z (Co o N) q;exact⟨e,I,D,F,lp (.one (step_cond N)) G,H⟩
     .obtain⟨e,I,D,F,G,H⟩:=s _ _ (h.1 rfl) b g a w U ρ p z (Co o N) q;exact⟨e,I,D,F,lp (.one (step_cond N)) G,H⟩
    .exact h.elim
   .exact(s _ _ h).step (λb a g w=>step_block)
   .split at h
    .exact(s _ _ h).step (λb a g w=>step_loop)
    .exact(J _ _ h).step (λb a g w=>step_loop)
   .rename_i id;split at h
    next k' hk=>exact(s _ _ h).step (λb a g w=>step_exit hk)
    .exact h.elim
   .exact m h _ (λb a g w=>step_ret)
   .rename_i id ops draw;intro b g a w U ρ p z o q;obtain⟨M,hv,Y⟩:=Tr.sat_val (Tr.sat_bind h);obtain⟨e,a',I,⟨rfl,U',O,j,h0⟩,T⟩:=sQ (id:=id) hE hv o q b k g;have hR:Reach E C fn k M Q:=by
     split at Y
     .exact cut _ _ _ _ Y
     .exact s _ _ Y
    obtain⟨e,h5,D,F,G,H⟩:=hR b g a' I U' O p z j h0;exact⟨e,h5,D,F,lp T G,H⟩
   .exact h.elim
  .exact h.elim
end
end Cad
