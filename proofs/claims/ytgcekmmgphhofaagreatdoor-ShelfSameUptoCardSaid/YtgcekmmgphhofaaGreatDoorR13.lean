/- Functions on a variable to which a pointer leads. -/
import Derived.Test.YtgcekmmgphhofaaGreatDoorR12
namespace Cad
open Go Go.Proofs.Tryz
open List renaming length->Io,take->Qg,length->M
open IntKind renaming wrap->Γ,i64->Δ
open Sh renaming bool->Q8,str->Q7
open Bool renaming false->Q5,false->J
open Option renaming none->Q2,some->Q1,some->Y
open Decidable renaming decide->Q0,decide->L
open Tr (chk br)
open AV (nils agg tup ptr kb str sl)
open AV renaming sl->O
open Cad renaming Sem->N,AV->R,ow->S,ze->Q,ai->I
noncomputable section
inductive CP where
 |d (s:Sh)
 |nil
 |vec (e:Sh)
@[reducible] def zn:List CP->Type
 |[]=>Unit
 |.d s::r=>N s×zn r
 |.nil::r=>zn r
 |.vec e::r=>List (N e)×zn r
def eE:(n:Nat)->(p:List CP)->zn p->List R
 |_,[],_=>[]
 |n,.d s::r,y=>zq s y.1++eE n r y.2
 |n,.nil::r,y=>.nils::eE n r y
 |n,.vec _::r,y=>.vec n::eE (n+1) r y.2
def jw:(p:List CP)->zn p->List AO
 |[],_=>[]
 |.d _::r,y=>jw r y.2
 |.nil::r,y=>jw r y
 |.vec e::r,y=>.vec e y.1::jw r y.2
def aE(ps:List CP)(y:zn ps):List AO:=.box (eE 1 ps y)::jw ps y
def fO:List CP->Nat
 |[]=>0
 |.vec _::r=>fO r+1
 |_::r=>fO r
theorem fh:∀(p:List CP)(y:zn p),(jw p y).length=fO p
 |[],_=>rfl
 |.d _::r,y=>fh r y.2
 |.nil::r,y=>fh r y
 |.vec _::r,y=>congrArg (·+1) (fh r y.2)
def dW(hp:Nat->AO):(n:Nat)->(p:List CP)->List AV->Option (zn p)
 |_,[],[]=>Y ()
 | n,.d s::r,cs=>match cW (fun _=>.dead) s cs with
  | some (x,c)=>match dW hp n r c with
   |some y=>Y (x,y)
   |none=>Q2
  |none=>Q2
 |n,.nil::r,.nils::cs=>dW hp n r cs
 | n,.vec e::r,.vec id::cs=>if id=n then match hp id with
   | .vec a l=>if h:a=e then match dW hp (n+1) r cs with
     |some y=>Y (h▸l,y)
     |none=>Q2
    else Q2
   |_=>Q2
  else Q2
 |_,_,_=>Q2
section
variable {w:World} {U:Nat->Prop} {ρ:Nat->Option Value}
variable {l:List R}{v:List Value}
theorem cu.app{D:List R}{i:List Value}(x:cu w U ρ l v)(d:cu w U ρ D i):cu w U ρ (l++D) (v++i) where
 len:=by simp[x.len,d.len]
 rv:=by
  intro j c h a b;by_cases g:j<M l
  .rw[qQ g]at a;rw[qQ (by rw[<-x.len];exact g)]at b;exact x.rv j c h a b
  .rw[nf S]at a;rw[nf (by rw[<-x.len];omega),<-x.len]at b;exact d.rv _ c h a b
variable {y:Value}
theorem cu.tail{A:R}(h:cu w U ρ (A::l) (y::v)):cu w U ρ l v:=
 ⟨by have:=h.len;simpa using this,λj c x a b=>h.rv (j+1) c x (by simpa using a) (by simpa using b)⟩
theorem cu.consH{A:R}(d:Rv w U ρ A y)(b:cu w U ρ l v):cu w U ρ (A::l) (y::v) where
 len:=by simp[b.len]
 rv:=by
  intro j c x h a;cases j with
  |zero=>simp at h a;subst h;subst a;exact d
  |succ j=>exact b.rv j c x (by simpa using h) (by simpa using a)
theorem nj{hp:Nat->AO}:∀(F:List CP)(n:Nat)(k:List AV)(y:zn F)(a:List Value),dW hp n F k=Q1 y->cu w U ρ k a->
  cu w U ρ (eE n F y) a/\∀(j:Nat) o,(jw F y)[j]?=Y o->hp (n+j)=o
 |[],n,[],y,a,h,g=>⟨g,by simp[jw]⟩
 |[],n,_::_,y,a,h,g=>by simp[dW]at h
 | .d s::r,n,k,y,a,h,g=>by
  unfold dW at h;split at h
  .rename_i x p hi;split at h
   .rename_i P H;cases h
    have hk:=nG (w:=w) (U:=U) (U':=U) (ρ:=ρ) (hp:=λ_=>.dead) (λ_ h=>h) s k x p (λj=>a.getD j undef) hi
     (λj c m=>by
      have A:j<M a:=by rw[<-g.len];exact(cQ.1 m).1
      have:=g.rv j c a[j] m (zQ A);simpa[List.getD,zQ A]using this)
     (λid _=>⟨trivial,λb hb=>by simp[zY,AO.owns]at hb⟩)
    have⟨k1,k2,k3⟩:=hk;have q:cu w U ρ p (a.drop s.size):=by
     refine⟨by rw[k2];simp[g.len],λj c v m i=>?_⟩;rw[k2,Aq]at m;rw[Aq]at i;exact g.rv _ c v m i
    have⟨C,D⟩:=nj r n p P (a.drop s.size) H q;refine⟨?_,D⟩;have u:cu w U ρ (zq s x) (a.take s.size):=by
     refine⟨by rw[zS];have:=g.len;simp;omega,λj c v m i=>?_⟩;have z:j<s.size:=by rw[<-zS s x];exact(cQ.1 m).1
     rw[List.getElem?_take,zf z]at i;have:=k3 j c m;simpa[List.getD,i]using this
    have:=u.app C;rw[List.take_append_drop]at this;exact this
   .cases h
  .cases h
 | .nil::r,n,.nils::k,y,a,h,g=>by
  match a,g with
  |[],g=>have:=g.len;simp at this
  | v::vs,g=>
   have i:=g.rv 0 _ v rfl rfl;have⟨C,D⟩:=nj r n k y vs h g.tail;exact⟨cu.consH i C,D⟩
 | .vec e::r,n,.vec id::k,y,a,h,g=>by
  match a,g with
  |[],g=>have:=g.len;simp at this
  | v :: vs,g=>
   have i:=g.rv 0 _ v rfl rfl;unfold dW at h;split at h
   .rename_i G;subst G;split at h
    .rename_i e' l ho;split at h
     .rename_i he;subst he;split at h
      .rename_i P H;cases h;have⟨C,D⟩:=nj r (id+1) k P vs H g.tail;refine⟨cu.consH i C,λj o z=>?_⟩;cases j with
       |zero=>simp[jw]at z;subst z;exact ho
       | succ j=>
        have:=D j o (by simpa[jw]using z);rw[<-this];congr 1;omega
      .cases h
     .cases h
    .cases h
   .cases h
 |.nil::_,_,[],_,_,h,_=>by simp[dW]at h
 |.vec _::_,_,[],_,_,h,_=>by simp[dW]at h
 |.nil::_,_,.any::_,_,_,h,_|.nil::_,_,.kb _::_,_,_,h,_|.nil::_,_,.bool _::_,_,_,h,_|.nil::_,_,.int _ _::_,_,_,h,_|.nil::_,_,.str _::_,_,_,h,_
 |.nil::_,_,.sl _ _::_,_,_,h,_|.nil::_,_,.vec _::_,_,_,h,_|.nil::_,_,.ptr _ _::_,_,_,h,_|.nil::_,_,.vptr _ _ _ _::_,_,_,h,_|.nil::_,_,.eptr _ _::_,_,_,h,_
 |.nil::_,_,.nilp::_,_,_,h,_|.nil::_,_,.agg _::_,_,_,h,_|.nil::_,_,.tup _::_,_,_,h,_|.nil::_,_,.clo _ _ _::_,_,_,h,_|.nil::_,_,.nilf::_,_,_,h,_
 |.nil::_,_,.mp _::_,_,_,h,_|.nil::_,_,.ifc _::_,_,_,h,_|.nil::_,_,.tab _ _::_,_,_,h,_|.nil::_,_,.gint::_,_,_,h,_=>by simp[dW]at h
 |.vec _::_,_,.any::_,_,_,h,_|.vec _::_,_,.kb _::_,_,_,h,_|.vec _::_,_,.bool _::_,_,_,h,_|.vec _::_,_,.int _ _::_,_,_,h,_|.vec _::_,_,.str _::_,_,_,h,_
 |.vec _::_,_,.sl _ _::_,_,_,h,_|.vec _::_,_,.nils::_,_,_,h,_|.vec _::_,_,.ptr _ _::_,_,_,h,_|.vec _::_,_,.vptr _ _ _ _::_,_,_,h,_|.vec _::_,_,.eptr _ _::_,_,_,h,_
 |.vec _::_,_,.nilp::_,_,_,h,_|.vec _::_,_,.agg _::_,_,_,h,_|.vec _::_,_,.tup _::_,_,_,h,_|.vec _::_,_,.clo _ _ _::_,_,_,h,_|.vec _::_,_,.nilf::_,_,_,h,_
 |.vec _::_,_,.mp _::_,_,_,h,_|.vec _::_,_,.ifc _::_,_,_,h,_|.vec _::_,_,.tab _ _::_,_,_,h,_|.vec _::_,_,.gint::_,_,_,h,_=>by simp[dW]at h
end
theorem lA:∀(p:List CP)(n:Nat)(y:zn p)(c:R),c∈eE n p y->ff [c,.any]=J
 |[],_,_,c,h=>by simp[eE]at h
 | .d s::r,n,y,c,h=>by
  simp only[eE,bX]at h;exact h.elim (ph s _ c) (lA r n y.2 c)
 | .nil::r,n,y,c,h=>by
  simp only[eE,bD]at h;rcases h with rfl|h
  .rfl
  .exact lA r n y c h
 | .vec _::r,n,y,c,h=>by
  simp only[eE,bD]at h;rcases h with rfl|h
  .rfl
  .exact lA r (n+1) y.2 c h
variable {n:Nat}{p:List CP}
theorem Jc{y:zn p}:ff (eE n p y)=J:=by
 cases h:ff (eE n p y)
 .rfl
 .have⟨a,b,e,x⟩:=vV h;have:=lA p n y a (by rw[e];simp);rw[this]at x;cases x
variable {C:eS}{w:World}{U:Nat->Prop}{ρ:Nat->Option Value}{l:List R}
theorem fE.box{os:List AO}{y:zn p}(i:fE C w U ρ (λj=>((AO.box l::os).getD j .dead)))(hl:M os=fO p)
  (P:dW (pm (.box l::os)) 1 p l=Y y):fE C w U ρ (λj=>(aE p y).getD j .dead):=by
 have s:aW w U ρ 0 (.box l):=i.ob 0;have⟨b,h,d,u,z,A,D,F⟩:=s;have⟨k1,k2⟩:=nj p 1 l y d.toList P D;have c:∀id,id≠0->(aE p y).getD id .dead=(AO.box l::os).getD id .dead:=by
  intro id x;obtain⟨j,rfl⟩:∃j,id=j+1:=⟨id-1,S⟩;by_cases k:j<(jw p y).length
  .have:=k2 j _ (zQ k);unfold aE;simp only[List.getD_cons_succ];rw[bf,zQ k];simp only[pm,oV 1 j,List.getD_cons_succ]at this;simpa using this.symm
  .have G:M os<=j:=by rw[fh]at k;omega
   unfold aE;simp only[List.getD_cons_succ];rw[bf,bf,eA S,eA G]
 have a:∀id b,zY ρ id ((aE p y).getD id .dead) b->zY ρ id ((AO.box l::os).getD id .dead) b:=by
  intro id g ho;by_cases x:id=0
  .subst x;have⟨_,v,hv,H⟩:=ho;exact⟨rfl,v,hv,H⟩
  .rw[c id x]at ho;exact ho
 refine⟨λid=>?_,λm n g o1 o2=>i.inj m n g (a _ _ o1) (a _ _ o2),λid g o=>i.blk id g (a _ _ o)⟩;by_cases x:id=0
 .subst x;exact⟨b,h,d,u,z,A,k1,F.1,λq=>by rw[Jc]at q;cases q⟩
 .show aW w U ρ id ((aE p y).getD id .dead);rw[c id x];exact i.ob id
def rD(p:List CP)(o:List Sh)(r:R)(h:List AO):Option (zA (o.map Y)×zn p):=match h with
 | .box c::os=>if Io os=fO p then match bc [] o r,dW (pm (.box c::os)) 1 p c with
   |some a,Y y=>Y (a,y)
   |_,_=>Q2
  else Q2
 |_=>Q2
def zmG(a:List CP)(k o:List Sh)(p:List CP)(c:zn a->zA (k.map Y)->Bool)(g:zn a->zA (k.map Y)->zA (o.map Y)×zn p):ee (Q2::k.map Y):=λx h=>match x.1,h with
 | .ptr 0 0,.box b::os=>if Io os=fO a then match dW (pm (.box b::os)) 1 a b with
   |some y=>.chk (c y x.2) (.ok (CB o (g y x.2).1,aE p (g y x.2).2))
   |none=>.err
  else .err
 |_,_=>.err
def uO(ps:List CP)(ks outs:List Sh)(p:List CP)(c:zn ps->zA (ks.map Y)->Bool)(g:zn ps->zA (ks.map Y)->zA (outs.map Y)×zn p):zV:=au (Q2::ks.map Y) (zmG ps ks outs p c g)
theorem qZ(p:List CP)(y:zn p):(aE p y).length=fO p+1:=by simp[aE,fh]
variable {k:List Sh}
theorem SU{r:R}{a:zA (k.map Y)}{y:Value}(h:bc [] k r=Y a)(l:Rv w U ρ r y):Rv w U ρ (CB k a) y:=by
 have j:∀id,aW w U ρ id (pm [] id)/\∀b,zY ρ id (pm [] id) b->¬U b:=λid=>⟨by simp[pm,aW],λb g=>by simp[pm,zY,AO.owns]at g⟩
 have c:∀(k:List Sh)(a:zA (k.map Y))(d:List R),lL (pm []) (λi=>i) (k.map Y) d=Y a->Rv w U ρ (.tup d) y->Rv w U ρ (.tup (gX (k.map Y) a)) y:=by
  intro k a d q n;cases n with
  |tup _ v o m=>
  have:=(jn (w:=w) (U:=U) (ρ:=ρ) (U':=U) (ρ':=ρ) (hp:=pm []) (f:=λi=>i) (λb g=>g) (k.map Y) d v _ (pA k d a q) ⟨o,m⟩ (λid _=>j id)
   (λid _=>rfl)).1
  simp only[hZ,wY,zO,zr,List.map_id']at this;exact .tup _ v this.len this.rv
 match k,a,h with
 | [s],a,h=>
  simp only[bc]at h;split at h
  next x p=>cases h;exact AH p l (λb g=>g) (λid _=>j id)
  .cases h
 | [],a,h=>
  simp only[bc]at h;cases r with
  |tup d=>exact c [] a _ h l
  |_=>cases h
 | u::s2::ss,a,h=>
  simp only[bc]at h;cases r with
  |tup d=>exact c _ a _ h l
  |_=>cases h
variable {P:Program}{g:Nat->R}{E:bS}{h:FuncId}{f:Func}{o:List Sh}
theorem Zg{z:List CP}{c:zn p->zA (k.map some)->Bool}{d:zn p->zA (k.map some)->zA (o.map some)×zn z}(hf:zJ E.P h f (M k+1))
  (i:∀y x,c y x=true->∀C:eS,(∀id,fO p+1<=id->C.ρ0 id=Q2)->Reach E C h (aK f) (aC f.ntmps (.ptr 0 0::gX (k.map Y) x) (aE p y)) (λr i=>rD z o r i=Y (d y x))) (qp:E.P=P:=by rfl) (qg:E.gl=g:=by rfl):
  ky P g h (uO p k o z c d):=by
 subst qp qg;refine cP (by simpa using hf) λx h0 x2 m C hC=>?_
 obtain⟨x0,x⟩:=x;unfold zmG at m;simp only at m;split at m
 .rename_i cs os;split at m
  .rename_i u;split at m
   .rename_i y hy;simp only[Tr.val]at m;split at m
    .rename_i hc;simp only[ax]at m;subst m;have hR:=i y x hc C (λid l=>hC id (by simpa[u]using l));intro b F a w U ρ h1 h2 n hW;have hH:fE C w U ρ (λj=>((AO.box cs::os).getD j .dead)):=n.hp
     have A:Cn C (aC f.ntmps (.ptr 0 0::gX (k.map Y) x) (aE p y)) a w U ρ:=
      ⟨n.tm,hH.box u hy,λid l=>n.new id (by have l:(aE p y).length<=id:=l;rw[qZ]at l;simpa[aC,u]using l),n.df,n.r0⟩
     obtain⟨e,w',fr,⟨v,r,h',U',ρ',he,q,h7,G,D,h6,H⟩,h4,h5,hl⟩:=hR b F a w U ρ h1 h2 A hW;unfold rD at q;split at q
     .rename_i h9 x1;split at q
      .rename_i s;split at q
       next a' y' h3 h8=>simp only[ax]at q;refine⟨e,w',fr,⟨v,_,_,U',ρ',he,by rw[<-q],SU h3 h7,G.box s h8,λid l=>D id (by rw[qZ]at l;simpa[s]using l),h6,H⟩,h4,h5,hl⟩
       .cases q
      .cases q
     .cases q
    .simp at m
   .simp at m
  .simp at m
 .simp at m
def tH(E:bS)(n0:Nat)(keep:Nat->aR)(f:Func)(gas:Nat):Nat->List Item->St->Option (R×List AO)
 |0,_,_=>Q2
 | n+1,K,a=>match (run E n0 keep f.results.toList gas K a).val with
  |some (.ret v h)=>Y (v,h)
  |some (.head _ x s)=>tH E n0 keep f gas n x s
  |_=>Q2
theorem mz{E:bS}{C:eS}{h:FuncId}{f:Func}{Q:R->List AO->Prop}{n n0:Nat}(c:zm E)(d:zJ E.P h f n)(b:∀id,n0<=id->C.ρ0 id=Q2){keep:Nat->aR}{gas:Nat}:
  ∀(a:Nat)(K:List Item)(s:St)(r:R×List AO),tH E n0 keep f gas a K s=Y r->Q r.1 r.2->Reach E C h K s Q
 |0,_,_,_,x,_=>by cases x
 | a+1,K,s,r,x,k=>by
  unfold tH at x;split at x
  next v m g=>cases x;exact mL c d b g k
  next j l i g=>exact mL c d b g (mz c d b a l i r x k)
  .cases x
def dL:(outs:List Sh)->zA (outs.map Y)
 |[]=>()
 |s::r=>(zk s,dL r)
def jH:(ps:List CP)->zn ps
 |[]=>()
 |.d s::r=>(zk s,jH r)
 |.nil::r=>jH r
 |.vec _::r=>([],jH r)
def fD:List Nat->(p:List CP)->zn p->List R
 |_,[],_=>[]
 |n,.d s::r,y=>zq s y.1++fD n r y.2
 |n,.nil::r,y=>.nils::fD n r y
 |n,.vec _::r,y=>.vec (n.headD 0)::fD n.tail r y.2
def itO(E:bS)(keep:Nat->aR)(f:Func)(gas n:Nat)(k o:List Sh)(x:zA (k.map Y)):Option (zA (o.map Y)):=
 (tH E 0 keep f gas n (aK f) (aC f.ntmps (gX (k.map Y) x) [])).bind λr=>bc r.2 o r.1
def No(k o:List Sh)(g:zA (k.map Y)->Option (zA (o.map Y))):zV:=ae k o (λx=>(g x).isSome) λx=>(g x).getD (dL o)
variable {keep:Nat->aR}{gas b:Nat}
theorem zgi(m:zm E)(d:zJ E.P h f (M k))(n:E.P=P:=by rfl)(q:E.gl=g:=by rfl):ky P g h (No k o (itO E keep f gas b k o)):=by
 subst n q;refine aH d λx c C l=>?_
 rw[Option.isSome_iff_exists]at c;have⟨y,a⟩:=c;rw[a];unfold itO at a;rw[fV]at a;have⟨r,i,j⟩:=a;exact mz m d (λid _=>l id) b _ _ r i j
def itB(E:bS)(keep:Nat->aR)(f:Func)(gas n:Nat)(h:List CP)(k o:List Sh)(p:List CP)(y:zn h)(x:zA (k.map Y)):Option (zA (o.map Y)×zn p):=
 (tH E (fO h+1) keep f gas n (aK f) (aC f.ntmps (.ptr 0 0::gX (k.map Y) x) (aE h y))).bind λr=>rD p o r.1 r.2
def zru(h:List CP)(k o:List Sh)(p:List CP)(g:zn h->zA (k.map Y)->Option (zA (o.map Y)×zn p)):zV:=
 uO h k o p (λy x=>(g y x).isSome) λy x=>(g y x).getD (dL o,jH p)
theorem Zh{a:List CP}(n:zm E)(i:zJ E.P h f (M k+1))(s:E.P=P:=by rfl)(q:E.gl=g:=by rfl):ky P g h (zru p k o a (itB E keep f gas b p k o a)):=by
 subst s q;refine Zg i λy x d C m=>?_
 rw[Option.isSome_iff_exists]at d;have⟨z,c⟩:=d;rw[c];unfold itB at c;rw[fV]at c;have⟨r,j,l⟩:=c;exact mz n i m b _ _ r j l
theorem LM{a:zA (k.map Y)->Option (zA (o.map Y))}{c:zA (k.map Y)->Bool}{i:zA (k.map Y)->zA (o.map Y)}(b:ky P g h (No k o a))(l:∀x,c x=true->a x=Y (i x)):ky P g h (ae k o c i):=by
 refine na (ι:=Unit) (Gs:=λ_=>dJ k o (λx=>(a x).isSome) λx=>(a x).getD (dL o)) (λ_=>b) λx n m d=>⟨(),?_⟩
 unfold dJ at d|-;split at d
 .simp only[Tr.val]at d|-;split at d
  next j=>simp only[l x j,iH,zj,cD];exact d
  .simp at d
 .simp at d
theorem gQ{a:zA (k.map Y)->Option (zA (o.map Y))}{c:zA (k.map Y)->zA (o.map Y)}(b:ky P g h (No k o a))(d:∀x,a x=Y (c x)):ky P g h (ay k o c):=
 On (LM b λx _=>d x)
theorem Zi{c:zA (k.map Y)->Bool}{a:zA (k.map Y)->zA (o.map Y)}(b:zm E)(i:zJ E.P h f (M k))
  (d:∀x,c x=(itO E keep f gas n k o x).isSome) (j:∀x,a x=(itO E keep f gas n k o x).getD (dL o)) (l:E.P=P:=by rfl) (q:E.gl=g:=by rfl):ky P g h (ae k o c a):=by
 subst l q;obtain rfl:c=λx=>(itO E keep f gas n k o x).isSome:=funext d
 obtain rfl:a=λx=>(itO E keep f gas n k o x).getD (dL o):=funext j
 exact zgi b i
theorem TJ{b:List CP}{c:zn p->zA (k.map Y)->Bool}{a:zn p->zA (k.map Y)->zA (o.map Y)×zn b}(d:zm E)(j:zJ E.P h f (M k+1))
  (i:∀y x,c y x=(itB E keep f gas n p k o b y x).isSome) (l:∀y x,a y x=(itB E keep f gas n p k o b y x).getD (dL o,jH b)) (m:E.P=P:=by rfl) (q:E.gl=g:=by rfl):ky P g h (uO p k o b c a):=by
 subst m q;obtain rfl:c=λy x=>(itB E keep f gas n p k o b y x).isSome:=funext λy=>funext λx=>i y x
 obtain rfl:a=λy x=>(itB E keep f gas n p k o b y x).getD (dL o,jH b):=funext λy=>funext λx=>l y x
 exact Zh d j
abbrev ac:=R×List AO
variable {α:Type}
def Tr.map{β:Type}(f:α->β):Tr α->Tr β
 |.err=>.err
 |.chk c t=>.chk c (t.map f)
 |.br c t e=>.br c (t.map f) (e.map f)
 |.ok a=>.ok (f a)
theorem Tr.val_map{α β:Type}(f:α->β):∀t:Tr α,(t.map f).val=t.val.map f
 |.err=>rfl
 |.chk c t=>by simp only[Tr.map,Tr.val,val_map f t];split<;>rfl
 |.br c t e=>by simp only[Tr.map,Tr.val,val_map f t,val_map f e];split<;>rfl
 |.ok _=>rfl
variable {σ:Type}
abbrev Tr.to(s:σ):Tr (σ⊕ac):=.ok (.inl s)
abbrev Tr.re(v:R)(h:List AO):Tr (σ⊕ac):=.ok (.inr (v,h))
def cg{σ:Type}(t:σ->Tr (σ⊕ac)):Nat->σ->Option ac
 |0,_=>Q2
 | n+1,s=>match (t s).val with
  |some (.inl h)=>cg t n h
  |some (.inr r)=>Y r
  |none=>Q2
def b6(t:σ->Tr (σ⊕ac))(n:Nat)(i:Tr (σ⊕ac)):Option ac:=match i.val with
 |some (.inl s)=>cg t n s
 |some (.inr r)=>Y r
 |none=>Q2
def lf(f:Func)(e:σ->Nat×St):σ⊕ac->zM
 |.inl s=>.head (e s).1 (zZ f (e s).1) (e s).2
 |.inr r=>.ret r.1 r.2
def e0:Empty->Nat×St:=λx=>nomatch x
def t0:Empty->Tr (Empty⊕ac):=λx=>nomatch x
section
variable {σ:Type} {E:bS} {n0:Nat} {keep:Nat->aR} {f:Func} {gas:Nat} {e:σ->Nat×St} {t:σ->Tr (σ⊕ac)}
theorem Ps(h:∀s,run E n0 keep f.results.toList gas (zZ f (e s).1) (e s).2=(t s).map (lf f e)):∀(n:Nat)(s:σ),tH E n0 keep f gas n (zZ f (e s).1) (e s).2=cg t n s
 |0,_=>rfl
 | n+1,s=>by
  rw[tH,h s,Tr.val_map,cg];cases(t s).val with
  |none=>rfl
  | some l=>
   cases l with
   |inl x=>exact Ps h n x
   |inr r=>rfl
theorem kR(x:∀s,run E n0 keep f.results.toList gas (zZ f (e s).1) (e s).2=(t s).map (lf f e)){K:List Item}{H:St}{i:Tr (σ⊕ac)}(h:run E n0 keep f.results.toList gas K H=i.map (lf f e))(n:Nat):tH E n0 keep f gas (n+1) K H=b6 t n i:=by
 rw[tH,h,Tr.val_map,b6];cases i.val with
 |none=>rfl
 | some l=>
  cases l with
  |inl s=>exact Ps x n s
  |inr r=>rfl
end
def aA(o:List Sh)(t:σ->Tr (σ⊕ac))(n:Nat)(i:Tr (σ⊕ac)):Option (zA (o.map Y)):=(b6 t n i).bind λr=>bc r.2 o r.1
theorem TI{e:σ->Nat×St}{t:σ->Tr (σ⊕ac)}{i:zA (k.map Y)->Tr (σ⊕ac)}{c:zA (k.map Y)->Bool}{a:zA (k.map Y)->zA (o.map Y)}
  (m:zm E) (p:zJ E.P h f (M k)) (j:∀x,run E 0 keep f.results.toList gas (aK f) (aC f.ntmps (gX (k.map Y) x) [])=(i x).map (lf f e))
  (l:∀s,run E 0 keep f.results.toList gas (zZ f (e s).1) (e s).2=(t s).map (lf f e))
  (n:∀x,c x=(aA o t b (i x)).isSome) (q:∀x,a x=(aA o t b (i x)).getD (dL o)) (v:E.P=P:=by rfl) (u:E.gl=g:=by rfl):ky P g h (ae k o c a):=by
 subst v u;have d:∀x,itO E keep f gas (b+1) k o x=aA o t b (i x):=by
  intro x;unfold itO aA;rw[kR l (j x)]
 exact Zi (n:=b+1) m p (λx=>by rw[d,n]) (λx=>by rw[d,q])
variable {K:List Item}
theorem HG{m n0:Nat}{e:σ->Nat×St}{t:σ->Tr (σ⊕ac)}{i:Tr (σ⊕ac)}{H:St}{y:zA (k.map Y)}(j:zm E)(l:zJ E.P h f m)(g:∀id,n0<=id->C.ρ0 id=Q2)
  (a:run E n0 keep f.results.toList gas K H=i.map (lf f e)) (b:∀s,run E n0 keep f.results.toList gas (zZ f (e s).1) (e s).2=(t s).map (lf f e)) (x:aA k t n i=Y y):Reach E C h K H (λr x=>bc x k r=Y y):=by unfold aA at x;rw[fV]at x;have⟨r,c,d⟩:=x;rw[<-kR b a n]at c;exact mz j l g (n+1) _ _ r c d
abbrev k0:Nat->aR:=λ_=>{ }
abbrev fZ:List (Nat×List Nat)->Nat->aR
 |[],_=>{ }
 |p::r,j=>if j=p.1 then{slots:=p.2}else fZ r j
variable {u:Sh}
def o1(o:Option (zA [Y u])):N u:=(o.getD (dL [u])).1
def o2{b:Sh}(o:Option (zA [Y u,Y b])):N u×N b:=((o.getD (dL [u,b])).1,(o.getD (dL [u,b])).2.1)
def o3{b c:Sh}(o:Option (zA [Y u,Y b,Y c])):N u×N b×N c:=((o.getD (dL [u,b,c])).1,(o.getD (dL [u,b,c])).2.1,(o.getD (dL [u,b,c])).q.1)
def FT(k h:List Sh)(o:zA (k.map Y)->Option (zA (h.map Y))):zV:=ae k h (λx=>(o x).isSome) λx=>(o x).getD (dL h)
theorem zm.T1{e:σ->Nat×St}{t:σ->Tr (σ⊕ac)}{i:zA (k.map Y)->Tr (σ⊕ac)}(c:zm E)(gas:Nat:=400)
  (d:(E.P.funcs[h]?,f.name=="runtime.NumGoroutine",f.body.isNone,Q0 (k.length<=f.ntmps))=(Q1 f,Q5,Q5,true):=by kernel_rfl)
  (a:∀x,run E 0 keep f.results.toList gas (aK f) (aC f.ntmps (gX (k.map Y) x) [])=(i x).map (lf f e):=by intro x;kernel_rfl)
  (b:∀s,run E 0 keep f.results.toList gas (zZ f (e s).1) (e s).2=(t s).map (lf f e):=by intro s;cases s<;>kernel_rfl) (j:E.P=P:=by rfl) (q:E.gl=g:=by rfl):ky P g h (FT k o λx=>aA o t n (i x)):=by subst j q;exact TI c (bG d) a b (λ_=>rfl) λ_=>rfl
theorem Dh(E:bS)(n0:Nat)(keep:Nat->aR)(f:Func)(gas:Nat):∀s,run E n0 keep f.results.toList gas (zZ f (e0 s).1) (e0 s).2=(t0 s).map (lf f e0):=λs=>nomatch s
def ls(outs:List Sh)(p:List CP)(t:σ->Tr (σ⊕ac))(n:Nat)(i:Tr (σ⊕ac)):Option (zA (outs.map Y)×zn p):=(b6 t n i).bind λr=>rD p outs r.1 r.2
variable {ps:List CP}{outs:List Sh}
theorem LK{ks:List Sh}{e:σ->Nat×St}{t:σ->Tr (σ⊕ac)}{i:zn ps->zA (ks.map Y)->Tr (σ⊕ac)}{c:zn ps->zA (ks.map Y)->Bool}{a:zn ps->zA (ks.map Y)->zA (outs.map Y)×zn p}
  (k:zm E) (m:zJ E.P h f (M ks+1)) (d:∀y x,run E (fO ps+1) keep f.results.toList gas (aK f) (aC f.ntmps (.ptr 0 0::gX (ks.map Y) x) (aE ps y))=(i y x).map (lf f e))
  (j:∀s,run E (fO ps+1) keep f.results.toList gas (zZ f (e s).1) (e s).2=(t s).map (lf f e))
  (l:∀y x,c y x=(ls outs p t n (i y x)).isSome) (o:∀y x,a y x=(ls outs p t n (i y x)).getD (dL outs,jH p)) (u:E.P=P:=by rfl) (q:E.gl=g:=by rfl):ky P g h (uO ps ks outs p c a):=by
 subst u q;have b:∀y x,itB E keep f gas (n+1) ps ks outs p y x=ls outs p t n (i y x):=by
  intro y x;unfold itB ls;rw[kR j (d y x)]
 exact TJ (n:=n+1) k m (λy x=>by rw[b,l]) (λy x=>by rw[b,o])
open Tr (chk br re)
theorem Ox(h:Nat->AO)(e:Sh)(l:List (N e)):oX h e (.sl e l)=Y l:=by simp[oX]
theorem jy(h:Nat->AO):∀(s:Sh)(x:N s)(r:List R),cW h s (zq s x++r)=Y (x,r)
 |.unit,_,_=>rfl
 |.bool,_,_=>rfl
 |.int k,n,r=>by simp[zq,cW]
 |.str,_,_=>rfl
 | .sl e,l,r=>by
  show(match oX h e (.sl e l)with|some l=>Y (l,r)|none=>Q2)=_;rw[Ox]
 | .pr a b,x,r=>by
  simp only[zq,cW,iI,jy h a,jy h b]
 | .expr,e,r=>by
  show tA h _=_;simp only[zq,List.cons_append,dR,tA,Ox];rw[show zg.mk e.op (e.v.1,e.v.2.1,e.v.q) e.s e.l=e from zg.eta e]
theorem iY{q:Nat->AO}:∀(p:List CP)(n:Nat)(y:zn p),(∀(j:Nat) o,(jw p y)[j]?=Y o->q (n+j)=o)->dW q n p (eE n p y)=Y y
 |[],_,_,_=>rfl
 | .d s::r,n,y,h=>by
  simp only[eE,dW,jy];rw[iY r n y.2 h]
 | .nil::r,n,y,h=>by
  simp only[eE,dW];exact iY r n y h
 | .vec e::r,n,y,h=>by
  have x:=h 0 (.vec e y.1) rfl;simp only[w6]at x;simp only[eE,dW,zj,x,dite_true]
  rw[iY r (n+1) y.2 (λj o a=>by
   have:=h (j+1) o (by simpa[jw]using a);rw[<-this];congr 1;omega)]
theorem b7{r:R}{a:zA (outs.map Y)}(y:zn ps)(h:bc [] outs r=Y a):rD ps outs r (aE ps y)=Y (a,y):=by
 unfold rD aE;simp only[fh,zj,h]
 rw[iY ps 1 y (λj o x=>by
  unfold pm;rw[oV,List.getD_cons_succ,bf,x];rfl)]
section
variable {σ:Type} {t:σ->Tr (σ⊕ac)}
theorem di{β:Type}(c:Nat)(s:β->Nat->σ)(x:β->Nat->Prop)(Φ:ac->Prop)(a:Nat)
  (d:∀b i,i<c->x b i->(∃j,x j (i+1)/\(t (s b i)).val=Y (.inl (s j (i+1))))\/∃r,(t (s b i)).val=Y (.inr r)/\Φ r)
  (g:∀b n,x b c->a<=n->∃r,cg t n (s b c)=Y r/\Φ r):
  ∀(m i:Nat)(b:β)(n:Nat),c-i=m->i<=c->x b i->a+m<=n->∃r,cg t n (s b i)=Y r/\Φ r
 | 0,i,b,n,v,u,p,y=>by
  obtain rfl:i=c:=by omega
  exact g b n p S
 | m+1,i,b,n,v,u,p,y=>by
  obtain⟨n,rfl⟩:∃k,n=k+1:=⟨n-1,S⟩;rcases d b i S p with⟨j,q,h⟩|⟨r,l,o⟩
  .have⟨r,l,o⟩:=di c s x Φ a d g m (i+1) j n S S q S;exact⟨r,by rw[cg,h];exact l,o⟩
  .exact⟨r,by rw[cg,l],o⟩
theorem cq{n:Nat}{s:σ}:cg t (n+1) s=match(t s).val with
  |some (.inl h)=>cg t n h
  |some (.inr r)=>Y r
  |none=>Q2:=rfl
end
theorem fE.cells{hp:Nat->AO}{cs D:List R}(c:fE C w U ρ hp)(l:hp n=.box cs)
  (A:∀vals,cu w U ρ cs vals->cu w U ρ D vals) (d:ff D=J):fE C w U ρ (λj=>if j=n then .box D else hp j):=by
 have a:∀id b,zY ρ id (ite (id=n) (.box D) (hp id)) b->zY ρ id (hp id) b:=by
  intro id b ho;by_cases x:id=n
  .subst x;rw[zf rfl]at ho;rw[l];have⟨_,v,F,z⟩:=ho;exact⟨rfl,v,F,z⟩
  .rw[zh x]at ho;exact ho
 refine⟨λid=>?_,λi g b o1 o2=>c.inj i g b (a _ _ o1) (a _ _ o2),λid b o=>c.blk id b (a _ _ o)⟩;by_cases x:id=n
 .subst x;have k:=c.ob id;rw[l]at k;have⟨b,h,vals,m,p,s,u,y⟩:=k;simp only[zj];exact⟨b,h,vals,m,p,s,A _ u,y.1,λq=>by rw[d]at q;cases q⟩
 .simp only[zh x];exact c.ob id
section
variable {σ:Type} {t:σ->Tr (σ⊕ac)}
def aF(t:σ->Tr (σ⊕ac))(k:Nat)(s:σ)(r:ac):Prop:=∀n,k<=n->cg t n s=Y r
def z8(t:σ->Tr (σ⊕ac))(m:Nat)(s s':σ):Prop:=∀k r,aF t k s' r->aF t (k+m) s r
variable {k b:Nat}{s:σ}{r:ac}
theorem aF.mono(h:aF t k s r)(x:k<=b):aF t b s r:=λn a=>h n S
theorem aF.of(h:(t s).val=Y (.inr r)):aF t 1 s r:=by intro n x;obtain⟨n,rfl⟩:∃k,n=k+1:=⟨n-1,S⟩;rw[cg,h]
variable {s':σ}
theorem z8.of(h:(t s).val=Y (.inl s')):z8 t 1 s s':=by intro k r x n a;obtain⟨n,rfl⟩:∃k,n=k+1:=⟨n-1,S⟩;rw[cg,h];exact x n S
theorem z8.refl(s:σ):z8 t 0 s s:=λ_ _ h=>h
variable {n:Nat}
theorem z8.trans{x:σ}(a:z8 t n s s')(c:z8 t b s' x):z8 t (b+n) s x:=λk r h=>(a _ _ (c k r h)).mono S
theorem z8.mono{a:Nat}(h:z8 t a s s')(c:a<=b):z8 t b s s':=λk r x=>(h k r x).mono S
theorem z8.ends{a:Nat}(h:z8 t a s s')(x:aF t k s' r):aF t (k+a) s r:=h k r x
theorem z8.all(m:Nat)(s:Nat->σ):∀(x:Nat),(∀i,i<x->z8 t m (s i) (s (i+1)))->z8 t (x*m) (s 0) (s x)
 |0,_=>(z8.refl _).mono S
 |x+1,h=>((z8.all m s x λi a=>h i S).trans (h x S)).mono (by rw[oN];omega)
theorem LN{Φ:ac->Prop}(m:Nat)(s:Nat->σ)(P:Nat->Prop):∀(x:Nat),(∀i,i<x->(∀j,j<i->P j)->(P i/\z8 t m (s i) (s (i+1)))\/(¬P i/\∃r,aF t m (s i) r/\Φ r))->
  ((∀i,i<x->P i)/\z8 t (x*m) (s 0) (s x))\/((¬∀i,i<x->P i)/\∃r,aF t (x*m) (s 0) r/\Φ r)
 |0,_=>.inl ⟨λi a=>zp a S,(z8.refl _).mono S⟩
 | x+1,h=>by
  rcases LN m s P x λi a=>h i S with⟨b,c⟩|⟨b,r,c,k⟩
  .rcases h x S b with⟨d,g⟩|⟨d,r,g,l⟩
   .refine .inl ⟨λi a=>?_,(c.trans g).mono (by rw[oN];omega)⟩;rcases Nat.lt_succ_iff_lt_or_eq.1 a with a|rfl
    .exact b i a
    .exact d
   .exact .inr ⟨λh=>d (h x S),r,(c.ends g).mono (by rw[oN];omega),l⟩
  .exact .inr ⟨λh=>b λi a=>h i S,r,c.mono (by rw[oN];omega),k⟩
variable {i:Tr (σ⊕ac)}
theorem zF{o:List Sh}{y:zA (o.map Y)}(x:i.val=Y (.inl s))(h:aF t k s r)(a:k<=n)(b:bc r.2 o r.1=Y y):aA o t n i=Y y:=by unfold aA b6;rw[x];show(cg t n s).bind _=_;rw[h n a];exact b
theorem zG{k:List Sh}{y:zA (k.map Y)}(h:i.val=Y (.inr r))(x:bc r.2 k r.1=Y y):aA k t n i=Y y:=by unfold aA b6;rw[h];exact x
theorem tV{outs:List Sh}{ps:List CP}{y:zA (outs.map Y)×zn ps}(h:i.val=Y (.inr r))(x:rD ps outs r.1 r.2=Y y):ls outs ps t n i=Y y:=by unfold ls b6;rw[h];exact x
end
open Go Go.Proofs
theorem Reach.lenA{fn:FuncId}{d:List Item}{H:St}{Q:R->List AO->Prop}(j c:Nat)(e:Sh)(x:List (N e))(n:H.tmps[j]?=Y (.agg l))(o:l[c]?=Y (.sl e x))(h:M x<=af->Reach E C fn d H Q):Reach E C fn d H Q:=by
 intro b i a w U ρ y z k q;refine h ?_ b i a w U ρ y z k q;have g:j<a.tmps.toList.length:=by rw[<-k.tm.len];exact(cQ.1 n).1
 have:=k.tm.rv j _ _ n (zQ g);generalize a.tmps.toList[j]=v at this;cases this with
 |agg _ p m _ u=>
 have g:c<M p:=by rw[<-m];exact(cQ.1 o).1
 have:=u c _ _ o (zQ g);generalize p[c]=v at this;cases this with
 |sl0=>simp
 |sl _ _ _ _ _ _ _ s=>exact s
abbrev znY:Nat->aR:=λj=>if j=3 then{slots:=[0,3,4],prom:=[(3,Q2,Q)]}else{ }
inductive QF where
 |h3 (l0:zo) (i4:Int) (lh_0:zo)
abbrev zrD:QF->Nat×St
 |.h3 h i l=>(3,⟨tm 24 [(0,O Q h),(3,AV.vec 0),(4,I i)],[AO.vec Q l]⟩)
def ztj(x:N ze.sl):Tr (QF⊕ac):=Tr.to (QF.h3 x 0 [])
def zbi:QF->Tr (QF⊕ac)
 | .h3 h i l=>
  let a:=h.getD i.toNat (zk Q)
  let x:=[DJ a]
  br (cond (L (i<(M h:Int))) (L (i<14)) J)
  (chk (zT i (M h)) (chk (Lr a) (chk (L (M l+M x<=1073741824)) (Tr.to (QF.h3 h (Γ Δ (i+1)) (l++x))))))
  (re (AV.vec 0) [AO.vec Q l])
def zo6(x:N ze.sl):=aA [ze.sl] zbi 100000000 (ztj x)
def zjF:=FT [ze.sl] [ze.sl] λx=>zo6 x.1
theorem Ty:FK 70 zjF:=uZ.T1 (f:=Tryz.f70) (keep:=znY) (e:=zrD)
abbrev zou:Nat->aR:=λj=>if j=3 then{slots:=[0,3,4],prom:=[(3,Q2,zu)]}else{ }
inductive LP where
 |h3 (l0:aU) (i4:Int) (lh_0:aU)
abbrev zrX:LP->Nat×St
 |.h3 h i l=>(3,⟨tm 33 [(0,O zu h),(3,AV.vec 0),(4,I i)],[AO.vec zu l]⟩)
def ztu(x:N zu.sl):Tr (LP⊕ac):=Tr.to (LP.h3 x 0 [])
def zbk:LP->Tr (LP⊕ac)
 | .h3 h i l=>
  let a:=h.getD i.toNat (zk zu)
  let x:=(M a.1:Int)
  let b:=[(Qg (Int.toNat 20-Int.toNat 0) (List.drop (Int.toNat 0) a.1),a.2)]
  let c:=Γ Δ (i+1)
  let d:=[a]
  br (cond (L (i<(M h:Int))) (L (i<9)) J)
  (chk (zT i (M h)) (br (L (x>20)) (chk (L (0<=0)&&L (0<=20)&&L (20<=x)) (chk (L (M l+M b<=1073741824)) (Tr.to (LP.h3 h c (l++b))))) (chk (L (M l+M d<=1073741824)) (Tr.to (LP.h3 h c (l++d))))))
  (re (AV.vec 0) [AO.vec zu l])
def zo5(x:N zu.sl):=aA [zu.sl] zbk 100000000 (ztu x)
def zki:=FT [zu.sl] [zu.sl] λx=>zo5 x.1
theorem TC:FK 103 zki:=uZ.T1 (f:=f103) (keep:=zou) (e:=zrX)
def xD(l:N ze.sl):N ze.sl:=(Qg 14 l).map DJ
def mA(l:N zu.sl):N zu.sl:=(Qg 9 l).map λc:ci=>((jB c.1,c.2):ci)
theorem uy(k:Nat)(l:List α):l.take (min k (M l))=l.take k:=by
 rcases Nat.le_total k (M l)with h|h
 .rw[Nat.min_eq_left h]
 .rw[IV h,jg,List.take_of_length_le h]
theorem zaF{k x:Nat}{K:Int}(c:K=(k:Int))(h:n<min k x):(cond (L ((n:Int)<(x:Int))) (L ((n:Int)<K)) J)=true:=by
 have a:(n:Int)<x:=by omega
 have b:(n:Int)<K:=by omega
 rw[zL a,zL b];rfl
theorem Py{k:Nat}{K:Int}(x:K=(k:Int))(n:Nat):(cond (L (((min k n:Nat):Int)<(n:Int))) (L (((min k n:Nat):Int)<K)) J)=J:=by
 rcases Nat.le_total k n with h|h
 .rw[Nat.min_eq_left h,x];simp
 .rw[IV h];simp
theorem Id{l:List α}(h:n<M l)(d:α):l.take (n+1)=l.take n++[l.getD n d]:=by rw[List.take_add_one,zQ h,bf,zQ h];rfl
def Jr:=zcC.addL [(70,zjF),(103,zki)]
theorem vd:zm Jr:=uZ.addL<|fc Ty<|fc TC ip
theorem nc{c:zA (k.map Y)->Bool}{a:zA (k.map Y)->zA (o.map Y)}(b:ky P g h (ae k o c a))(d:∀x,c x=true):ky P g h (ay k o a):=
 On (by rwa [show c=λ_=>true from funext d]at b)
theorem C8(v:V):Lr v=true:=by
 unfold Lr;cases h:L ((M v.2.2:Int)>60)
 .rfl
 .simp only[aT]at h;simp only[bU,ar,aT];omega
theorem NA(s:zD):Qk s=true:=by
 unfold Qk;cases h:L ((M s:Int)>20)
 .rfl
 .simp only[aT]at h;simp only[bU,ar,aT];omega
theorem Ss(l:zo):zo6 l=Y (xD l,()):=by
 have g:=z8.all (t:=zbi) 1 (λi=>.h3 l (i:Int) ((Qg i l).map DJ)) (min 14 (M l)) λi x=>z8.of (by
  have h:i<M l:=by omega
  have a:L ((List.map DJ (Qg i l)).length+[DJ (l.getD i (zk Q))].length<=1073741824)=true:=by simp;omega
  simp only[zbi,Tr.val,zaF (k:=14) (K:=14) rfl x,zx h,zj,bB,C8,a];rw[zz i um,Id h (zk Q),fx];rfl)
 rw[uy]at g;refine zF rfl (g.ends (k:=1) (r:=(.vec 0,[.vec Q (xD l)])) (aF.of ?_)) S rfl;simp only[zbi,Tr.val,Py (k:=14) (K:=14) rfl,zO,zr];rfl
theorem Sr(l:aU):zo5 l=Y (mA l,()):=by
 have g:=z8.all (t:=zbk) 1 (λi=>.h3 l (i:Int) ((Qg i l).map λc:ci=>((jB c.1,c.2):ci))) (min 9 (M l)) λi j=>z8.of (by
  have d:i<M l:=by omega
  have n:(Qg (i+1) l).map (λc:ci=>((jB c.1,c.2):ci))=(Qg i l).map (λc:ci=>((jB c.1,c.2):ci))++[(jB (List.getD l i (zk zu)).1,(List.getD l i (zk zu)).2)]:=by rw[Id d (zk zu),fx];rfl
  have b:((Qg i l).map (λc:ci=>((jB c.1,c.2):ci))).length<=9:=by rw[bR,kG];omega
  rw[n];generalize(Qg i l).map (λc:ci=>((jB c.1,c.2):ci))=a at b|-;have m:L (M a+1<=1073741824)=true:=zL S;simp only[zbk,Tr.val,zaF (k:=9) (K:=9) rfl j,zx d,zj,bB,bx,cE,dz,m];rw[zz i um];unfold jB;by_cases h:(M (List.getD l i (zk zu)).1:Int)>20
  .have x:L ((20:Int)<=(M (List.getD l i (zk zu)).1:Int))=true:=zL S;simp only[zL h,x,zj];rfl
  .simp only[aQ h,zO,zr])
 rw[uy]at g;refine zF rfl (g.ends (k:=1) (r:=(.vec 0,[.vec zu (mA l)])) (aF.of ?_)) S rfl;simp only[zbk,Tr.val,Py (k:=9) (K:=9) rfl,zO,zr];rfl
def zjG:zV:=ay [Q] [Q] λx=>(DJ x.1,())
theorem zeD:FK 105 zjG:=nc zck λx=>C8 x.1
def zjy:zV:=ay [Q7] [Q7] λx=>(jB x.1,())
theorem zex:FK 102 zjy:=nc zcj λx=>NA x.1
def F6t:zV:=ay [ze.sl] [ze.sl] λx=>(xD x.1,())
theorem zlU:FK 70 F6t:=gQ Ty λx=>Ss x.1
def zjC:zV:=ay [zu.sl] [zu.sl] λx=>(mA x.1,())
theorem zeB:FK 103 zjC:=gQ TC λx=>Sr x.1
abbrev yi:Nat->aR:=λ_=>{slots:=[0,1,7,8]}
def nI{K:List Item}{e:Sh}(l:List (N e))(p:N e->Bool)(s:Int->St)(h:List AO)(i:Int):Tr zM:=.br (L (i<(M l:Int))) (.chk (zT i (M l)) (.br (p (l.getD i.toNat (zk e))) (.ok (.ret (I i) h)) (.ok (.head 2 K (s (Γ Δ (i+1))))))) (.ok (.ret (I (-1)) h))
theorem kr{n0:Nat}{e:Sh}(l:List (N e))(p:N e->Bool)(s:Int->St){F:List AO}
  (d:zm E) (j:zJ E.P h f n) (g:∀id,n0<=id->C.ρ0 id=Q2)
  (c:∀i,run E n0 keep f.results.toList b K (s i)=nI (K:=K) l p s F i) (o:M l<=af):∀(m i:Nat),M l-i=m->i<=M l->
  Reach E C h K (s i) (λr x=>(r,x)=(I (aj p (l.drop i) i),F)):=by
 intro m
 induction m with
 | zero=>
  intro i d.mix' hi;obtain rfl:i=M l:=by omega
  refine zB d j g (c _) ?_;simp only[nI,Tr.val,aw,oO];rfl
 | succ m k=>
  intro i d.mix' hi;have a:i<M l:=by omega
  refine zB d j g (c _) ?_;rw[mj a];simp only[nI,Tr.val,z6 a,zx a,bt l _ a,zz i S,zj,aj];split
  .rfl
  .exact k (i+1) S S
abbrev yV(t:Int)(l:da)(i:Int):St:={tmps:=[.sl zi l,.clo (.func 389) [] [.ptr 0 0],.any,.any,.any,.any,.any,I (M l),I i,.any,.any,.any,.any,.any,.any,.any,.any,.any,.any],heap:=[.box [I t]]}
theorem VN(t:Int)(l:da):run Jr 1 yi f406.results.toList 300 (aK f406) (aC f406.ntmps [.sl zi l,.clo (.func 389) [] [.ptr 0 0]] [.box [I t]])=.ok (.head 2 (zZ f406 2) (yV t l 0)):=kw
theorem Xg(t:Int)(l:da)(i:Int):run Jr 1 yi f406.results.toList 300 (zZ f406 2) (yV t l i)=nI (K:=zZ f406 2) (e:=zi) l (λx=>bif x !=t then x !=0 else J) (yV t l) [.box [I t]] i:=kw
theorem WV:zJ Jr.P 406 f406 2:=bG kw
def zmj:ee [Y (.sl zi),Q2]:=λx h=>match x,h with
 |(l,.clo (.func 389) [] [.ptr 0 0],_),[.box [I t]]=>.ok (I (aj (λx=>bif x !=t then x !=0 else J) l 0),[.box [I t]])
 |_,_=>.err
def zjj:zV:=au [Y (.sl zi),Q2] zmj
theorem zei:FK 406 zjj:=by
 refine cP WV λx d c h C a=>?_
 unfold zmj at h;split at h
 .rename_i l u t;simp only[Tr.val_ok,ax]at h;subst h;refine Reach.len 0 zi l rfl λb=>?_
  refine zB (n0:=1) vd WV a (VN t l) ?_;exact kr l (λx=>bif x !=t then x !=0 else J) (yV t l) vd WV a (Xg t l) b _ 0 rfl (zU _)
 .simp at h
def td:=Jr.addL [(105,zjG),(102,zjy),(70,F6t),(103,zjC),(406,zjj)]
theorem mm:zm td:=vd.addL<|fc zeD<|fc zex<|fc zlU<|fc zeB<|fc zei ip
def F78:zV:=au [Y (.sl zi),Q2] (eJ td f388 [Y (.sl zi),Q2])
theorem zl0:FK 388 F78:=bM _ mm (bG kw)
def fg(x:N Q7):N Q8:=me x
theorem zpu:zJ td.P 157 f157 1:=bG kw
theorem zsv(x:N Q7):rn td 0 (λ_=>{ }) f157 [zI Q7 x] []=Tr.ok (zM.ret (AV.bool (me x)) []):=kw
def F25:zV:=ay [Q7] [Q8] λx=>(fg x.1,())
theorem zlh:FK 157 F25:=by
 refine z7 zpu λx C h=>?_
 refine aZ mm zpu (λid _=>h id) (zsv x.1) ?_;simp only[Tr.val,fg];repeat' split
 all_goals rfl
def ah(x:am)(h:N Q7):zy:=aj (λc=>c.1==h) x.2.1 0
theorem zpi:zJ td.P 205 f205 2:=bG kw
theorem zsr(x:am)(h:N Q7):rn td 0 (λ_=>{ }) f205 [zI zN x,zI Q7 h] []=Tr.ok (zM.ret (I (aj (λc=>c.1==h) x.2.1 0)) []):=kw
def F17:zV:=ay [zN,Q7] [zi] λx=>(ah x.1 x.2.1,())
theorem zld:FK 205 F17:=by
 refine z7 zpi λx C h=>?_
 refine aZ mm zpi (λid _=>h id) (zsr x.1 x.2.1) ?_;simp only[Tr.val,ah];repeat' split
 all_goals rfl
def bE(x:N zu.sl)(h:N Q7):zy:=aj (λc=>c.1==h) x 0
theorem zpN:zJ td.P 329 f329 2:=bG kw
theorem zsO(x:N zu.sl)(h:N Q7):rn td 0 (λ_=>{ }) f329 [zI zu.sl x,zI Q7 h] []=Tr.ok (zM.ret (I (aj (λc=>c.1==h) x 0)) []):=kw
def F48:zV:=ay [zu.sl,Q7] [zi] λx=>(bE x.1 x.2.1,())
theorem zlB:FK 329 F48:=by
 refine z7 zpN λx C h=>?_
 refine aZ mm zpN (λid _=>h id) (zsO x.1 x.2.1) ?_;simp only[Tr.val,bE];repeat' split
 all_goals rfl
def Eh:=td.addL [(388,F78),(157,F25),(205,F17),(329,F48)]
theorem ve:zm Eh:=mm.addL<|fc zl0<|fc zlh<|fc zld<|fc zlB ip
def F3(h:N zi.sl)(a:zy):N Q8:=!L (aj (λx=>bif x !=a then x !=0 else J) h 0>=0)
theorem zp6:zJ Eh.P 352 f352 2:=bG kw
theorem zs0(h:N zi.sl)(a:zy):rn Eh 0 (λ_=>{ }) f352 [zI zi.sl h,zI zi a] []=Tr.ok (zM.ret (AV.bool !L (aj (λx=>bif x !=a then x !=0 else J) h 0>=0)) []):=kw
def F66:zV:=ay [zi.sl,zi] [Q8] λx=>(F3 x.1 x.2.1,())
theorem zlR:FK 352 F66:=by
 refine z7 zp6 λx C h=>?_
 refine aZ ve zp6 (λid _=>h id) (zs0 x.1 x.2.1) ?_;simp only[Tr.val,F3];repeat' split
 all_goals rfl
def dI(x:N Q7):N Q8:=bif fg x then !mM x else J
theorem zph:zJ Eh.P 204 f204 1:=bG kw
theorem zsq(x:N Q7):rn Eh 0 (λ_=>{ }) f204 [zI Q7 x] []=Tr.ok (zM.ret (AV.bool (cond (fg x) (!mM x) J)) []):=kw
def F16:zV:=ay [Q7] [Q8] λx=>(dI x.1,())
theorem zlc:FK 204 F16:=by
 refine z7 zph λx C h=>?_
 refine aZ ve zph (λid _=>h id) (zsq x.1) ?_;simp only[Tr.val,dI];repeat' split
 all_goals rfl
def UX:=Eh.addL [(352,F66),(204,F16)]
theorem Ei:zm UX:=ve.addL<|fc zlR<|fc zlc ip
end
end Cad
