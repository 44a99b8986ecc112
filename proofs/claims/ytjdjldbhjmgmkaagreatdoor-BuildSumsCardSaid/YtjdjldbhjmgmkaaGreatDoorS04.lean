/- What each operation says. -/
import Derived.Test.YtjdjldbhjmgmkaaGreatDoorS03
import Derived.Laws.BytesString
namespace Cad
open Go
open List renaming length→Io
open Bool renaming false→Q4,true→Q3
open Option renaming none→Q2,some→Q1
open Tr (chk br)
open AV (nils agg tup ptr kb str sl)
section
variable {P:Program} {w:World} {U:Nat->Prop} {ρ:Nat->Option Value}
theorem BK(a b:zH):((⟨a.toArray⟩:ByteArray)==⟨b.toArray⟩)=(a==b):=by show(a.toArray==b.toArray)=(a==b);simp
abbrev xK(es:List (zH×AV)):List Value:=es.map λp=>Value.string ⟨p.1.toArray⟩
theorem GZ:∀(es:List (zH×AV))(ents:List MapEntry)(s:zH)(i:Nat),ents.map (·.key)=xK es->es.any (λp=>p.1==s)=Q4->
  Instr.findNow .string (.string ⟨s.toArray⟩) ents i=Q1 Q2
 |[],[],_,_,_,_=>rfl
 |[],_::_,_,_,h,_=>by simp at h
 |_::_,[],_,_,h,_=>by simp at h
 | p::es,e::ents,s,i,h,hn=>by
  simp only[xK,dC,yL]at h;simp only[List.any_cons,Bool.or_eq_false_iff]at hn;have x:(s==p.1)=Q4:=by
   have:=hn.1;simp only[dB,ne_eq]at this|-;exact λe=>this e.symm
  simp only[Instr.findNow,h.1,Instr.sameNow,BK,x];exact GZ es ents s (i+1) h.2 hn.2
theorem GY:∀(es:List (zH×AV))(ents:List MapEntry)(s:zH)(i:Nat)(z:Tr fM)(f:fM),ents.map (·.key)=xK es->dg w U ρ (es.map (·.2)) (ents.map (·.val))->(RJ es s z).val=Q1 f->
  (∃j v a,Instr.findNow .string (.string ⟨s.toArray⟩) ents i=Q1 (Q1 (j,v))/\Rv w U ρ a v/\f={val:=a})\/(Instr.findNow .string (.string ⟨s.toArray⟩) ents i=Q1 Q2/\z.val=Q1 f)
 |[],[],_,_,_,_,_,_,x=>.inr ⟨rfl,x⟩
 |[],_::_,_,_,_,_,h,_,_=>by simp at h
 |_::_,[],_,_,_,_,h,_,_=>by simp at h
 | p::es,e::ents,s,i,z,f,h,hr,x=>by
  simp only[xK,dC,yL]at h;obtain⟨k,a⟩:=p;simp only[RJ,Tr.val]at x;simp only[Instr.findNow,h.1,Instr.sameNow,BK];cases d:s==k with
  | true=>
   rw[d]at x;simp[ret]at x;subst x;exact .inl ⟨i,e.val,a,rfl,hr.rv 0 a e.val rfl rfl,rfl⟩
  | false=>
   rw[d]at x;simp at x;refine GY es ents s (i+1) z f h.2 ⟨by have:=hr.len;simpa using this,λj c v g b=>hr.rv (j+1) c v (by simpa using g) (by simpa using b)⟩ x
theorem kF.allocO(w:World)(o:Obj):kF w (w.alloc o) where
 sz:=by rw[bt];omega
 os:=rfl
 out:=rfl
 tape:=rfl
 fr:=λa h=>yI (bE w _ _ h)
variable {n:Nat}{h:Nat->AO}
theorem Ef.mkMap{I:AO}(g:I=.fmap []\/(∃u,I=.vmap u [])\/∃e,I=.gmap e [])(p:∀b,U b->b<w.heap.size)(l:ρ n=Q2):
  Ef n h {val:=.mp n,nw:=[I]} w U ρ (.map (Q1 w.heap.size)) (w.alloc (.map #[] 0)) (λb=>U b\/b=w.heap.size) (jJ ρ n (.map (Q1 w.heap.size))):=by
 have m:∀b,b<w.heap.size->(U b\/b=w.heap.size)->U b:=λb a x=>x.elim id (λe=>by omega)
 refine⟨kF.allocO w _,.mp n _ (by simp[jJ]) rfl,sw,?_,?_,fg l,λb a _=>bE w _ b a,?_,λb a x=>m b a x,λb _ x _=>.inl x,?_,?_⟩
 .intro j o d;cases j with
  |succ j=>simp at d
  | zero=>
   simp at d;subst d;rcases g with rfl|⟨u,rfl⟩|⟨e,rfl⟩
   .exact⟨w.heap.size,#[],0,by simp[jJ],.inr rfl,cC w _,⟨rfl,sw⟩,rfl⟩
   .exact⟨w.heap.size,#[],0,by simp[jJ],.inr rfl,cC w _,rfl,sw,rfl,sw⟩
   .exact⟨w.heap.size,#[],0,[],by simp[jJ],.inr rfl,cC w _,⟨rfl,sw⟩,rfl,rfl,sw⟩
 .intro id x;unfold jJ;rw[zg (by simp at x;omega)]
 .intro b x;rw[bt];grind
 .rintro id o b (x|⟨h1,h2⟩) ho
  .simp at x
  .have q:id-n<1:=by have:=(dc.1 h2).1;simpa using this
   have c:id=n:=by omega
   subst c;obtain⟨_,v,i,a⟩:=ho;simp[jJ]at i;subst i;simp[bJ]at a;exact .inl ow
 grind
/-! zbM that are values. -/
def kav(k:Int×Int×zH):AV:=.agg [.int .i64 k.1,.int .i64 k.2.1,.str k.2.2]
variable {c:AV}{k:Int×Int×zH}
theorem wH(h:Qq c=Q1 k):c=kav k:=by
 unfold Qq at h;split at h
 .cases h;rfl
 .cases h
variable {v:Value}
theorem xJ(h:Rv w U ρ (kav k) v):v=cB k/\eB k:=by
 unfold kav at h;cases h with
 |agg _ l c m x=>
 match l,c,x with
 | [i,j,v3],_,x=>
  have e:=x 0 _ i rfl rfl;have a:=x 1 _ j rfl rfl;have b:=x 2 _ v3 rfl rfl;cases e with
  |int _ _ q=>
  cases a with
  |int _ _ d=>
  cases b with
  |str _ g=>
  exact⟨rfl,q,d,g⟩
theorem ZP(h:eB k):Rv w U ρ (kav k) (cB k):=by
 refine .agg _ [.int .i64 k.1,.int .i64 k.2.1,.string ⟨k.2.2.toArray⟩] rfl (by simp[Value.oneCell']) ?_;intro j c v x a
 match j,x,a with
 |0,x,a=>cases x;cases a;exact .int _ _ h.1
 |1,x,a=>cases x;cases a;exact .int _ _ h.2.1
 |2,x,a=>cases x;cases a;exact .str _ h.2.2
variable {kt:TypeId}
theorem zan(h:gJ P kt=Q3)(a b:Int×Int×zH):eqA P kt (kav a) (kav b)=Q1 (a==b):=by
 unfold gJ at h;split at h
 .rename_i y j;simp only[aE]at h;obtain⟨⟨g,i⟩,x⟩:=h;split at x
  .rename_i q s v c;simp only[aE,bd,IL,O7]at x;obtain⟨⟨⟨⟨n,o1⟩,t⟩,⟨⟨l,o2⟩,d⟩⟩,⟨⟨m,o3⟩,e⟩⟩:=x;split at t
   .rename_i z u;split at d
    .rename_i A o;split at e
     next p=>simp only[kav,eqA,j,g,i,c,Fv,n,o1,l,o2,m,o3,eqT,u,o,p,beq_self_eq_true,pT,zh,Bool.and_true];rfl
     .cases e
    .cases d
   .cases t
  .cases x
 .cases h
theorem Aw(h:gJ P kt=Q3){a b:Int×Int×zH}(x:eB a)(c:eB b):(Op.equal kt (cB a) (cB b)).run P w=.ok (a==b) w:=
 (OL (U:=λ_=>False) (ρ:=λ_=>Q2) (zan h a b) (ZP x) (ZP c) (by intro _ _ _ _ h;cases h) (by intro _ _ h;cases h)).1
theorem bD(h:gJ P kt=Q3)(k:Int×Int×zH)(c:Bool):(Instr.checkKey c 10000 kt (cB k)).run P w=.ok () w:=by
 unfold gJ at h;split at h
 .rename_i y z;simp only[aE]at h;obtain⟨⟨L,M⟩,d⟩:=h;split at d
  .rename_i x a b g;simp only[aE,bd,IL,O7]at d;obtain⟨⟨⟨⟨E,o1⟩,t⟩,⟨⟨F,o2⟩,i⟩⟩,⟨⟨G,o3⟩,j⟩⟩:=d;split at t
   .rename_i N u;split at i
    .rename_i O l;split at j
     .rename_i m;have e:y=#[x,a,b]:=by apply kg;simpa using g
      subst e;have n:E7 P x.type=Q1 Q4:=by simp[E7,u]
      have o:E7 P a.type=Q1 Q4:=by simp[E7,l]
      have p:E7 P b.type=Q1 Q4:=by simp[E7,m]
      show(Instr.checkKey c (9999+1) kt (cB k)).run P w=_;rw[Instr.checkKey.eq_2];have H:(part x.type #[Value.int .i64 k.1,.int .i64 k.2.1,.string ⟨k.2.2.toArray⟩] x.offset).run P w=.ok (.int .i64 k.1) w:=by simp[part,jX n,o1]
      have I:(part a.type #[Value.int .i64 k.1,.int .i64 k.2.1,.string ⟨k.2.2.toArray⟩] a.offset).run P w=.ok (.int .i64 k.2.1) w:=by simp[part,jX o,o2]
      have J:(part b.type #[Value.int .i64 k.1,.int .i64 k.2.1,.string ⟨k.2.2.toArray⟩] b.offset).run P w=.ok (.string ⟨k.2.2.toArray⟩) w:=by simp[part,jX p,o3]
      have q:(Instr.checkKey c (9998+1) x.type (.int .i64 k.1)).run P w=.ok () w:=by
       rw[Instr.checkKey.eq_2];simp[bA u,Result.andThen]
      have s:(Instr.checkKey c (9998+1) a.type (.int .i64 k.2.1)).run P w=.ok () w:=by
       rw[Instr.checkKey.eq_2];simp[bA l,Result.andThen]
      have v:(Instr.checkKey c (9998+1) b.type (.string ⟨k.2.2.toArray⟩)).run P w=.ok () w:=by
       rw[Instr.checkKey.eq_2];simp[bA m,Result.andThen]
      have A:x.name≠"_":=by simpa using E
      have B:a.name≠"_":=by simpa using F
      have D:b.name≠"_":=by simpa using G
      simp[cB,bA z,Result.andThen,H,I,J,q,s,v,A,B,D]
     .cases j
    .cases i
   .cases t
  .cases d
 .cases h
def cI(es:List ((Int×Int×zH)×Int))(k:Int×Int×zH)(i:Nat):Option (Nat×Int):=match es with
 |[]=>Q2
 |p::r=>bif k==p.1 then Q1 (i,p.2)else cI r k (i+1)
abbrev CC(u:Bool)(es:List ((Int×Int×zH)×Int)):List (Value×Value):=es.map λp=>(cB p.1,uP u p.2)
theorem nT{kt:TypeId}(h:gJ P kt=Q3){k:Int×Int×zH}(x:eB k)(u:Bool):∀(es:List ((Int×Int×zH)×Int))(ents:List MapEntry)(i:Nat),(ents.map λe=>(e.key,e.val))=CC u es->(∀p∈es,cZ .i64 p.2/\eB p.1)->
  (Instr.findAsking kt (cB k) ents i).run P w=.ok ((cI es k i).map λq=>(q.1,uP u q.2)) w
 |[],[],_,_,_=>by simp[Instr.findAsking,cI]
 |[],_::_,_,h,_=>by simp at h
 |_::_,[],_,h,_=>by simp at h
 | p::es,e::ents,i,he,ho=>by
  simp only[CC,dC,yL,cd]at he;obtain⟨⟨b,c⟩,d⟩:=he;have g:=ho p (ln ..);have j:=nT h x u es ents (i+1) d (λq a=>ho q (jN _ a));simp only[Instr.findAsking,b,cP,Aw h x g.2,nc,cI];cases a:k==p.1
  .simpa using j
  .simp[c]
theorem jG(h:gJ P kt=Q3)(d:eB k)(u:Bool)(es:List ((Int×Int×zH)×Int))(ents:List MapEntry)(b:(ents.map λe=>(e.key,e.val))=CC u es)(g:∀p∈es,cZ .i64 p.2/\eB p.1):
  (Instr.findKey kt (cB k) ents).run P w=.ok ((cI es k 0).map λq=>(q.1,uP u q.2)) w:=by
 have a:∃x,P.underlying kt=Q1 (.struct x):=by
  unfold gJ at h;split at h
  next x a=>exact⟨x,a⟩
  .cases h
 obtain⟨x,a⟩:=a;have c:=nT (w:=w) h d u es ents 0 b g;cases ents with
 | nil=>
  cases es with
  |nil=>simp[Instr.findKey,bA a,Result.andThen,Instr.findNow,cI]
  |cons p r=>simp at b
 | cons e r=>
  have i:Instr.findNow (.struct x) (cB k) (e::r) 0=Q2:=by
   simp only[Instr.findNow];have:Instr.sameNow (.struct x) (cB k) e.key=Q2:=by simp[Instr.sameNow]
   rw[this]
  simp only[Instr.findKey,cP,bA a,nc,i];exact c
theorem lW:∀{es:List ((Int×Int×zH)×Int)}{k:Int×Int×zH}{i:Nat},cI es k i=Q2->oe es k=Q4/\gR es k=0/\∀x,kQ es k x=es++[(k,x)]
 |[],_,_,_=>⟨rfl,rfl,λ_=>rfl⟩
 | p::r,k,i,h=>by
  unfold cI at h;cases a:k==p.1
  .rw[a]at h;obtain⟨b,c,d⟩:=lW (i:=i+1) (by simpa using h);refine⟨by simpa[oe,a]using b,by simpa[gR,a]using c,λx=>?_⟩;rw[kQ,a,d];rfl
  .rw[a]at h;cases h
theorem lX:∀{es:List ((Int×Int×zH)×Int)}{k:Int×Int×zH}{i j:Nat}{n:Int},cI es k i=Q1 (j,n)->i<=j/\oe es k=Q3/\gR es k=n/\(∃p,es[j-i]?=Q1 p/\p.1=k/\p.2=n)/\∀x,kQ es k x=es.set (j-i) (k,x)
 |[],_,_,_,_,h=>by cases h
 | p::r,k,i,j,n,h=>by
  unfold cI at h;cases a:k==p.1
  .rw[a]at h;obtain⟨o,b,c,⟨q,g,l⟩,d⟩:=lX (i:=i+1) (by simpa using h);have e:j-i=(j-(i+1))+1:=by omega
   refine⟨ow,by simpa[oe]using .inr (by simpa[oe]using b),by simpa[gR,a]using c,⟨q,by rw[e];simpa using g,l⟩,λx=>?_⟩;rw[kQ,a,d,e];rfl
  .rw[a]at h;simp only[aw,bg,cd]at h;obtain⟨rfl,rfl⟩:=h;have m:k=p.1:=by simpa using a
   refine⟨ah _,by simp[oe,a],by simp[gR,a],⟨p,sw,m.symm,rfl⟩,λx=>?_⟩;rw[kQ,a];simp
theorem mN(k:Int×Int×zH):Instr.sameBits 10000 (cB k) (cB k)=Q3:=by show Instr.sameBits (9999+1) (cB k) (cB k)=Q3;simp[cB,Instr.sameBits,BK]
variable {ents:Array MapEntry}{clock:Nat}
theorem Ef.setMap{id r:Nat}{g:Array MapEntry}{e:Nat}{o':AO}(z:ρ id=Q1 (.map (Q1 r)))(_:U r)(m:w.heap[r]?=Q1 (.map ents clock))(i:(h id).owns=Q3)
  (B:bl {w with heap:=w.heap.setIfInBounds r (.map g e)} U ρ id o') (D:∀b,U b->b<w.heap.size)   (q:Rv {w with heap:=w.heap.setIfInBounds r (.map g e)} U ρ c v):
  Ef n h {val:=c,wr:=[(id,o')]} w U ρ v {w with heap:=w.heap.setIfInBounds r (.map g e)} U ρ:=by
 obtain⟨u,y⟩:=nf (o':=Obj.map g e) m;have t:r<w.heap.size:=(mc.1 m).1;have p:af ρ id (h id) r:=⟨i,_,z,rfl⟩;refine⟨⟨sw,rfl,rfl,rfl,?_⟩,q,?_,sw,λ_ _=>rfl,λ_ _ x=>x,?_,?_,λ_ _ x=>x,λ_ _ x _=>x,?_,?_⟩
 .intro a _;by_cases j:a.block=r
  .unfold World.frozen?;simp only[j,u,m]
  .exact yI (y a.block j)
 .simp_all
 .grind
 .simp_all
 .rintro s F b (l|⟨_,l⟩) o
  .simp only[dU,cd]at l;obtain⟨rfl,rfl⟩:=l;refine .inr ⟨s,_,dU.2 rfl,?_⟩;obtain⟨_,d,E,A⟩:=o;exact⟨i,d,E,A⟩
  .simp at l
 simp_all
theorem zeq{z:Bool}{n:Int}(h:zmr z c=Q1 n)(x:Rv w U ρ c v):v=uP z n/\cZ .i64 n:=by
 unfold zmr at h;split at h
 .cases h;cases x with
  |int _ _ a=>exact⟨rfl,a⟩
 .cases h;cases x with
  |agg _ d b a x=>
  match d,b with
  |[],_=>exact⟨rfl,by unfold cZ;decide⟩
 .cases h
theorem mh.push(h:mh ents clock)(k v:Value):mh (ents.push {key:=k,val:=v,born:=clock}) (clock+1):=by
 refine⟨by simp[h.1],λi e x=>?_⟩;rw[Array.getElem?_push]at x;split at x
 next a=>cases x;rw[a];exact h.1
 .exact h.2 i e x
theorem mh.modify(h:mh ents clock)(j:Nat)(f:MapEntry->MapEntry)(b:∀e,(f e).born=e.born):mh (ents.modify j f) clock:=by
 refine⟨by simp[h.1],λi e x=>?_⟩;rw[pP]at x;split at x
 .cases a:ents[i]? with
  |none=>rw[a]at x;simp at x
  | some e0=>
   rw[a]at x;simp at x;subst x;rw[b];exact h.2 i e0 a
 .exact h.2 i e x
variable {t:TypeId}{p:AV}{y G:Value}{f:fM}{i:List Nat}
theorem Ac{J:AV}(x:(uU P h t c p J).val=some f)
  (hm:Rv w U ρ c v) (hk:Rv w U ρ p y) (hx:Rv w U ρ J G) (x2:∀b,U b->b<w.heap.size) (h7:Fj w U ρ h i) (h8:∀id∈c.ids,id∈i):
  ∃w',(Instr.mapUpdate t v y G).run P w=.ok () w'/\Ef n h f w U ρ undef w' U ρ/\∀id o,(id,o)∈f.wr->id∈i:=by
 unfold uU at x;split at x
 .rename_i kt et ht;split at x
  .rename_i x0;split at x
   .rename_i id s;have T:=h8 id (by simp[AV.ids]);have ho:=h7.ob id T;split at x
    .rename_i es A;simp only[Tr.val]at x;split at x
     .rename_i F;simp only[yJ]at F;simp only[bg]at x;subst x;rw[A]at ho;obtain⟨r,ents,clock,M,X,z,h4,h5⟩:=ho;cases hm with
      |mp _ _ D _=>
      rw[M]at D;cases D;cases hk with
      |str _ hs=>
      have hf:=GZ es ents.toList s 0 h5 F;obtain⟨e1,e2⟩:=nf (o':=Obj.map (ents.push {key:=.string ⟨s.toArray⟩,val:=G,born:=clock}) (clock+1)) z;have a0:r<w.heap.size:=(mc.1 z).1;have H:af ρ id (h id) r:=⟨by rw[A];rfl,_,M,rfl⟩;have h9:∀b',b'<w.heap.size->¬U b'->(w.heap.setIfInBounds r (Obj.map (ents.push {key:=.string ⟨s.toArray⟩,val:=G,born:=clock}) (clock+1)))[b']?=w.heap[b']?:=λb' _ x3=>e2 b' (λe=>x3 (e▸X))
      refine⟨{w with heap:=w.heap.setIfInBounds r (.map (ents.push {key:=.string ⟨s.toArray⟩,val:=G,born:=clock}) (clock+1))},?_,?_,?_⟩
      .simp[Instr.mapUpdate,bA ht,gD z,KT x0 (k:=.string ⟨s.toArray⟩) trivial,KU x0 hf,mZ _ z,Result.andThen]
      .refine⟨⟨sw,rfl,rfl,rfl,?_⟩,.tup [] [] rfl sw,?_,sw,λ_ _=>rfl,λ_ _ x=>x,?_,?_,λ_ _ x=>x,λ_ _ x _=>x,?_,?_⟩
       .intro a _;by_cases h0:a.block=r
        .unfold World.frozen?;simp only[h0,e1,z]
        .exact yI (e2 a.block h0)
       .intro B o' L;simp only[dU,cd]at L;obtain⟨rfl,rfl⟩:=L;refine⟨r,_,_,M,X,e1,?_,?_⟩
        .have E:dg {w with heap:=w.heap.setIfInBounds r (.map (ents.push {key:=.string ⟨s.toArray⟩,val:=G,born:=clock}) (clock+1))} U ρ (es.map (·.2)) (ents.toList.map (·.val)):=
          h4.mono sw h9 (λ_ _ x=>x) (λ_ _ x=>x)
         have a4:Rv {w with heap:=w.heap.setIfInBounds r (.map (ents.push {key:=.string ⟨s.toArray⟩,val:=G,born:=clock}) (clock+1))} U ρ J G:=
          hx.mono sw h9 (λ_ _ x=>x) (λ_ _ x=>x)
         refine⟨by have:=E.len;simp at this|-;exact this,λj d l hc D=>?_⟩;simp only[eC,dC,pU,Array.toList_push]at hc D;by_cases hj:j<(es.map (·.2)).length
         .rw[kG hj]at hc;rw[kG (by rw[<-E.len];exact hj)]at D;exact E.rv j d l hc D
         .rw[jg ow]at hc;rw[jg (by rw[<-E.len];omega),<-E.len]at D;grind
        simp_all
       .grind
       .simp_all
       .rintro B o' b (L|⟨_,L⟩) x7
        .simp only[dU,cd]at L;obtain⟨rfl,rfl⟩:=L;refine .inr ⟨B,_,dU.2 rfl,?_⟩;obtain⟨_,l,D,hb⟩:=x7;exact⟨by rw[A];rfl,l,D,hb⟩
        .simp at L
       simp_all
      simp_all
     .cases x
    .simp at x
   .simp at x
  .split at x
   .rename_i Z;split at x
    .rename_i id l hvk2;have T:=h8 id (by simp[AV.ids]);have ho:=h7.ob id T;split at x
     .rename_i u es A;split at x
      .rename_i nn x6;simp only[Tr.val_ok,bg]at x;subst x;rw[A]at ho;obtain⟨r,ents,clock,M,X,z,h4,h5⟩:=ho;cases hm with
       |mp _ _ D _=>
       rw[M]at D;cases D;rw[wH hvk2]at hk;obtain⟨rfl,x5⟩:=xJ hk;obtain⟨rfl,a2⟩:=zeq x6 hx;have S:=jG (w:=w) Z x5 u es ents.toList h4 h5.1;have H:(h id).owns=Q3:=by rw[A];rfl
       have W:∀B o',(B,o')∈[(id,AO.vmap u (kQ es l nn))]->B∈i:=by
        intro B o' L;simp only[dU,cd]at L;rw[L.1];exact T
       cases O:cI es l 0 with
       | none=>
        rw[O]at S;obtain⟨_,_,I⟩:=lW O;refine⟨{w with heap:=w.heap.setIfInBounds r (.map (ents.push {key:=cB l,val:=uP u nn,born:=clock}) (clock+1))},?_,?_,W⟩
        .simp[Instr.mapUpdate,bA ht,gD z,bD Z,S,mZ _ z,Result.andThen]
        .refine Ef.setMap M X z H ?_ x2 (.tup [] [] rfl sw);refine⟨r,_,_,M,X,(nf z).1,?_,?_,h5.2.push _ _⟩
         .simp_all
         grind
       | some q=>
        obtain⟨j,m⟩:=q;rw[O]at S;obtain⟨_,_,_,⟨g,x1,x8,a3⟩,I⟩:=lX O;rw[Nat.sub_zero]at x1 I;have h6:∃e,ents.toList[j]?=Q1 e/\e.key=cB l:=by
         have:(ents.toList.map λe=>(e.key,e.val))[j]?=Q1 (cB g.1,uP u g.2):=by
          rw[h4];simp[x1]
         rw[du,dt]at this;obtain⟨e,Y,N⟩:=this;simp only[cd]at N;exact⟨e,Y,by rw[N.1,x8]⟩
        obtain⟨e,Y,N⟩:=h6;have x4:ents[j]?=Q1 e:=by rw[<-pl];exact Y
        refine⟨{w with heap:=w.heap.setIfInBounds r (.map (ents.modify j λe=>{e with key:=cB l,val:=uP u nn}) clock)},?_,?_,W⟩
        .have x9:(Instr.keyThatStays (cB l) (cB l)).run P w=.ok (cB l) w:=by
          simp[Instr.keyThatStays,mN]
         simp[Instr.mapUpdate,bA ht,gD z,bD Z,S,x4,N,x9,mZ _ z,Result.andThen]
        .refine Ef.setMap M X z H ?_ x2 (.tup [] [] rfl sw);refine⟨r,_,_,M,X,(nf z).1,?_,?_,h5.2.modify _ _ (λ_=>rfl)⟩
         .rw[I];apply pm;intro q;have a1:(ents.toList.map λe=>(e.key,e.val))[q]?=(CC u es)[q]?:=by rw[h4]
          grind
         grind
      .simp at x
     .simp at x
    .simp at x
   .simp at x
  .simp at x
 .simp at x
theorem C7:∀(es:List (zH×AV))(ents:List MapEntry)(s:zH)(i:Nat)(z:Tr fM)(f:fM),ents.map (·.key)=xK es->dg w U ρ (es.map (·.2)) (ents.map (·.val))->(IV es s z).val=Q1 f->
  (∃j v a,Instr.findNow .string (.string ⟨s.toArray⟩) ents i=Q1 (Q1 (j,v))/\Rv w U ρ a v/\f={val:=.tup [a,.kb Q3]})\/(Instr.findNow .string (.string ⟨s.toArray⟩) ents i=Q1 Q2/\z.val=Q1 f)
 |[],[],_,_,_,_,_,_,x=>.inr ⟨rfl,x⟩
 |[],_::_,_,_,_,_,h,_,_=>by simp at h
 |_::_,[],_,_,_,_,h,_,_=>by simp at h
 | p::es,e::ents,s,i,z,f,h,hr,x=>by
  simp only[xK,dC,yL]at h;obtain⟨k,a⟩:=p;simp only[IV,Tr.val]at x;simp only[Instr.findNow,h.1,Instr.sameNow,BK];cases d:s==k with
  | true=>
   rw[d]at x;simp[ret]at x;subst x;exact .inl ⟨i,e.val,a,rfl,hr.rv 0 a e.val rfl rfl,rfl⟩
  | false=>
   rw[d]at x;simp at x;refine C7 es ents s (i+1) z f h.2 ⟨by have:=hr.len;simpa using this,λj c v g b=>hr.rv (j+1) c v (by simpa using g) (by simpa using b)⟩ x
theorem sd(h:Rv w U ρ c v)(x:Rv w U ρ p y):Rv w U ρ (.tup [c,p]) (.tuple #[v,y]):=by refine .tup _ [v,y] rfl ?_;grind
theorem nX{et:TypeId}(h:td P et=Q1 c):∃i z,P.info? et=Q1 i/\i.zero=Q1 z/\c=wO z:=by
 unfold td at h;split at h
 next i x=>simp only[dt]at h;grind
 .cases h
theorem Vy{k:IntKind}{n:Int}(h:H6 v=.int k n):v=.int k n:=by unfold H6 at h;grind
theorem KR{k:IntKind}{n:Int}(h:wO v=.int k n):v=.int k n:=by
 unfold wO at h;split at h
 .split at h<;>cases h
 .exact Vy h
variable {a:List AV}
theorem Td(h:wO v=.agg a)(x:a.isEmpty=Q3):v=.agg #[]:=by
 unfold wO at h;split at h
 .rename_i c;split at h
  .simp_all
  .cases h
 .unfold H6 at h;grind
theorem nF{α β:Type}(f:α->β):∀(l:List α)(i:Nat),(l.eraseIdx i).map f=(l.map f).eraseIdx i
 |[],_=>rfl
 |_::_,0=>rfl
 | x::r,i+1=>by
  show f x::(r.eraseIdx i).map f=f x::(r.map f).eraseIdx i;rw[nF f r i]
abbrev K3:=Int×Int×zH
abbrev uO(es:List (K3×Value)):List (Value×Value):=es.map λp=>(cB p.1,p.2)
def eE(es:List (K3×Value))(k:K3)(i:Nat):Option (Nat×Value):=match es with
 |[]=>Q2
 |p::r=>bif k==p.1 then Q1 (i,p.2)else eE r k (i+1)
def Dj(es:List (K3×Value))(k:K3):Value:=match eE es k 0 with
 |some q=>q.2
 |none=>.slice Q2 0 0
def zcP(es:List (K3×Value))(k:K3):List (K3×Value):=match eE es k 0 with
 |some q=>es.eraseIdx q.1
 |none=>es
theorem Di:∀{es:List (K3×Value)}{k:K3}{i:Nat},eE es k i=Q2->∀p∈es,p.1≠k
 |[],_,_,_,p,x=>by cases x
 | q::r,k,i,h,p,x=>by
  unfold eE at h;cases a:k==q.1 with
  |true=>rw[a]at h;cases h
  | false=>
   rw[a,ax]at h;rcases b8.1 x with rfl|x
   .exact λe=>by rw[e]at a;simp at a
   .exact Di h p x
theorem tM:∀{es:List (K3×Value)}{k:K3}{i j:Nat}{v:Value},eE es k i=Q1 (j,v)->i<=j/\es[j-i]?=Q1 (k,v)/\∀p∈es.take (j-i),p.1≠k
 |[],_,_,_,_,h=>by cases h
 | q::r,k,i,j,v,h=>by
  unfold eE at h;cases a:k==q.1 with
  | true=>
   rw[a,aw]at h;cases h;have:k=q.1:=by simpa using a
   refine⟨ah _,?_,?_⟩
   .rw[Nat.sub_self,this];rfl
   .rw[Nat.sub_self];intro p x;cases x
  | false=>
   rw[a,ax]at h;obtain⟨m,b,c⟩:=tM h;obtain⟨d,rfl⟩:∃d,j=i+1+d:=⟨j-(i+1),ow⟩;have g:i+1+d-(i+1)=d:=by omega
   have l:i+1+d-i=d+1:=by omega
   rw[g]at b c;rw[l];refine⟨ow,b,λp x=>?_⟩;rw[List.take_succ_cons]at x;rcases b8.1 x with rfl|x
   .exact λe=>by rw[e]at a;simp at a
   .exact c p x
section
variable {P:Program} {w:World} {kt:TypeId} {k:K3}
theorem nS(h:gJ P kt=Q3)(x:eB k):∀(es:List (K3×Value))(ents:List MapEntry)(i:Nat),(ents.map λe=>(e.key,e.val))=uO es->(∀p∈es,eB p.1)->
  (Instr.findAsking kt (cB k) ents i).run P w=.ok (eE es k i) w
 |[],[],_,_,_=>by simp[Instr.findAsking,eE]
 |[],_::_,_,h,_=>by simp at h
 |_::_,[],_,h,_=>by simp at h
 | p::es,e::ents,i,he,ho=>by
  simp only[uO,dC,yL,cd]at he;obtain⟨⟨b,c⟩,d⟩:=he;have g:=ho p (ln ..);have j:=nS h x es ents (i+1) d (λq a=>ho q (jN _ a));simp only[Instr.findAsking,b,cP,Aw h x g,nc,eE];cases a:k==p.1
  .simpa using j
  .simp[c]
theorem mM(h:gJ P kt=Q3)(d:eB k)(es:List (K3×Value))(ents:List MapEntry)(b:(ents.map λe=>(e.key,e.val))=uO es)(g:∀p∈es,eB p.1):
  (Instr.findKey kt (cB k) ents).run P w=.ok (eE es k 0) w:=by
 have a:∃x,P.underlying kt=Q1 (.struct x):=by
  unfold gJ at h;split at h
  next x a=>exact⟨x,a⟩
  .cases h
 obtain⟨x,a⟩:=a;have c:=nS (w:=w) h d es ents 0 b g;cases ents with
 | nil=>
  cases es with
  |nil=>simp[Instr.findKey,bA a,Result.andThen,Instr.findNow,eE]
  |cons p r=>simp at b
 | cons e r=>
  have i:Instr.findNow (.struct x) (cB k) (e::r) 0=Q2:=by
   simp only[Instr.findNow];have:Instr.sameNow (.struct x) (cB k) e.key=Q2:=by simp[Instr.sameNow]
   rw[this]
  simp only[Instr.findKey,cP,bA a,nc,i];exact c
variable {mt et:TypeId} {r:Nat} {ents:Array MapEntry} {clock:Nat} {es:List (K3×Value)}
theorem JR(c:P.underlying mt=Q1 (.map kt et))(x:gJ P kt=Q3){i:TypeInfo}(g:P.info? et=Q1 i)(m:i.zero=Q1 (.slice Q2 0 0))(j:eB k)
  (b:w.heap[r]?=Q1 (.map ents clock)) (d:(ents.toList.map λe=>(e.key,e.val))=uO es) (l:∀p∈es,eB p.1):
  (Instr.lookup mt (.map (Q1 r)) (cB k) Q4).run P w=.ok (Dj es k) w:=by
 have h:=mM (w:=w) x j es ents.toList d l;unfold Dj;cases a:eE es k 0 with
 | none=>
  rw[a]at h;simp[Instr.lookup,bA c,gD b,bD x,h,Result.andThen,zeroValue,typeInfo,g,m]
 | some q=>
  rw[a]at h;simp[Instr.lookup,bA c,gD b,bD x,h,Result.andThen]
theorem W6{kt':TypeId}(i:P.underlying mt=Q1 (.map kt et))(a:gJ P kt=Q3)(j:eB k)
  (d:w.heap[r]?=Q1 (.map ents clock)) (g:(ents.toList.map λe=>(e.key,e.val))=uO es) (l:∀p∈es,eB p.1):
  ∃h:Array MapEntry,(∀t,(Builtin.delete_ #[mt,kt'] t #[.map (Q1 r),cB k]).run P w=.ok (.tuple #[]) {w with heap:=w.heap.setIfInBounds r (.map h clock)})/\
   (h.toList.map λe=>(e.key,e.val))=uO (zcP es k):=by
 have x:=mM (w:=w) a j es ents.toList g l;unfold zcP;cases b:eE es k 0 with
 | none=>
  rw[b]at x;refine⟨ents,λt=>?_,g⟩;simp[Builtin.delete_,bA i,gD d,bD a,x,mZ _ d,Result.andThen]
 | some q=>
  rw[b]at x;refine⟨ents.eraseIdxIfInBounds q.1,λt=>?_,?_⟩
  .simp[Builtin.delete_,bA i,gD d,bD a,x,mZ _ d,Result.andThen]
  .have c:((ents.eraseIdxIfInBounds q.1).toList)=ents.toList.eraseIdx q.1:=by simp
   rw[c,nF,g];exact(nF _ es q.1).symm
end
theorem xC(k:K3):∀(es:List (K3×Value))(i:Nat),eE es k (i+1)=(eE es k i).map λq=>(q.1+1,q.2)
 |[],_=>rfl
 | p::r,i=>by
  unfold eE;cases k==p.1 with
  |true=>rfl
  |false=>exact xC k r (i+1)
theorem TY(p:K3×Value)(r:List (K3×Value))(k:K3):Dj (p::r) k=bif k==p.1 then p.2 else Dj r k:=by
 have e:eE (p::r) k 0=bif k==p.1 then Q1 (0,p.2)else eE r k 1:=rfl
 unfold Dj;rw[e,xC];cases k==p.1 with
 |true=>rfl
 |false=>cases eE r k 0<;>rfl
theorem L6(k:K3):∀es:List (K3×Value),zcP es k=me es k
 |[]=>rfl
 | p::r=>by
  have e:eE (p::r) k 0=bif k==p.1 then Q1 (0,p.2)else eE r k 1:=rfl
  have i:=L6 k r;unfold zcP at i|-;unfold me;rw[e,xC,<-i];cases k==p.1 with
  |true=>rfl
  |false=>cases eE r k 0<;>rfl
theorem Dg{α:Type}(k:K3):∀(es:List (K3×α)),List.Sublist (me es k) es
 |[]=>List.Sublist.refl _
 | p::r=>by
  show List.Sublist (cond (k==p.1) r (p::me r k)) _;cases k==p.1 with
  |true=>exact List.sublist_cons_self _ _
  |false=>exact(Dg k r).cons_cons p
variable {g:List Value}
theorem dg.rest1(h:dg w U ρ (c::a) (v::g)):dg w U ρ a g:=⟨by have:=h.len;simpa using this,λj c v x b=>h.rv (j+1) c v (by simpa using x) (by simpa using b)⟩
theorem dg.put1(d:Rv w U ρ c v)(h:dg w U ρ a g):dg w U ρ (c::a) (v::g):=⟨by simpa using h.len,λj c v x b=>by
 cases j with
 |zero=>cases x;cases b;exact d
 |succ j=>exact h.rv j c v (by simpa using x) (by simpa using b)⟩
theorem Rr{L:Sh}(k:K3):∀(es:List (K3×List (Sem L)))(g:List (K3×Value)),g.map (·.1)=es.map (·.1)->dg w U ρ (es.map λp=>sl L p.2) (g.map (·.2))->Rv w U ρ (.sl L (kI es k)) (Dj g k)
 |[],[],_,_=>.sl0 L Q2 0
 |[],_::_,h,_=>by simp at h
 |_::_,[],h,_=>by simp at h
 | p::es,q::g,h,hr=>by
  simp only[dC,yL]at h;have i:=Rr k es g h.2 hr.rest1;rw[TY,h.1];show Rv w U ρ (.sl L (cond (k==p.1) p.2 (kI es k))) _;cases k==p.1 with
  |true=>exact hr.rv 0 _ _ rfl rfl
  |false=>exact i
theorem Rq{L:Sh}(k:K3):∀(es:List (K3×List (Sem L)))(g:List (K3×Value)),g.map (·.1)=es.map (·.1)->dg w U ρ (es.map λp=>sl L p.2) (g.map (·.2))->
  (me g k).map (·.1)=(me es k).map (·.1)/\dg w U ρ ((me es k).map λp=>sl L p.2) ((me g k).map (·.2))
 |[],[],_,h=>⟨rfl,h⟩
 |[],_::_,h,_=>by simp at h
 |_::_,[],h,_=>by simp at h
 | p::es,q::g,h,hr=>by
  simp only[dC,yL]at h;obtain⟨i,x⟩:=Rq k es g h.2 hr.rest1;unfold me;rw[h.1];cases k==p.1 with
  |true=>exact⟨h.2,hr.rest1⟩
  |false=>exact⟨by rw[ax,ax,dC,dC,i,h.1],dg.put1 (hr.rv 0 _ _ rfl rfl) x⟩
theorem Te(h:wO v=.nils):v=.slice Q2 0 0:=by
 unfold wO at h;split at h
 .split at h<;>cases h
 .unfold H6 at h;grind
theorem LO{ty:TypeId}{S:Value}(x:(C1 P h t c p).val=Q1 f)
  (hm:Rv w U ρ c S) (L:Rv w U ρ p y) (G:∀b,U b->b<w.heap.size) (D:Fj w U ρ h i) (E:∀id∈c.ids,id∈i):
  ∃T,(Builtin.delete_ #[t,kt] ty #[S,y]).run P w=.ok (.tuple #[]) T/\Ef n h f w U ρ (.tuple #[]) T U ρ/\∀id o,(id,o)∈f.wr->id∈i:=by
 unfold C1 at x;split at x
 .rename_i h8 et ht;split at x
  .rename_i H;split at x
   .rename_i id v hvk2;have j:=E id (by simp[AV.ids]);have M:=D.ob id j;split at x
    .rename_i e es g;simp only[Tr.val_ok,bg]at x;subst x;rw[g]at M;obtain⟨r,ents,clock,u,z,A,d,Y,Z,h6,J⟩:=M;cases hm with
     |mp _ _ O _=>
     rw[z]at O;cases O;rw[wH hvk2]at L;obtain⟨rfl,F⟩:=xJ L;have l:(h id).owns=Q3:=by rw[g];rfl
     obtain⟨s,m,B⟩:=W6 (w:=w) (kt':=kt) ht H F d Z J;obtain⟨W,X⟩:=Rq v es u h6 Y;have N:r<w.heap.size:=(mc.1 d).1;refine⟨_,m ty,?_,?_⟩
     .refine Ef.setMap z A d l ?_ G (.tup [] [] rfl sw);refine⟨r,_,_,me u v,z,A,(nf d).1,?_,by rw[B,L6],W,λa h=>J a ((Dg v u).subset h)⟩;exact X.mono sw (λb hb hu=>(nf d).2 b λq=>hu (q▸A)) (λ_ _ x=>x) (λ_ _ x=>x)
     .intro h0 o' I;simp only[dU,cd]at I;rw[I.1];exact j
    .simp at x
   .simp at x
  .simp at x
 .simp at x
theorem LP{ai:AV}{two:Bool}(x:(ly P h t c ai two).val=some f)(hx:Rv w U ρ c v)(W:Rv w U ρ ai y)(Y:∀id∈c.ids,bl w U ρ id (h id)):
  ∃r a,f={val:=r}/\(Instr.lookup t v y two).run P w=.ok a w/\Rv w U ρ r a:=by
 unfold ly at x;split at x
 .rename_i kt et M;split at x
  .rename_i g;split at x
   .rename_i id s;have L:=Y id (by simp[AV.ids]);split at x
    .rename_i es B;rw[B]at L;obtain⟨r,ents,clock,S,h2,D,N,O⟩:=L;cases hx with
     |mp _ _ H _=>
     rw[S]at H;cases H;cases W with
     |str _ hs=>
     cases two with
     | false=>
      simp only[zE,zm]at x;rcases GY es ents.toList s 0 _ f O N x with⟨j,a,av,I,hr,rfl⟩|⟨I,l⟩
      .refine⟨av,a,rfl,?_,hr⟩;simp[Instr.lookup,bA M,gD D,KT g (k:=.string ⟨s.toArray⟩) trivial,KU g I,Result.andThen]
      .simp at l;obtain⟨z,l,rfl⟩:=l;obtain⟨i,A,b,d,rfl⟩:=nX l;refine⟨_,A,rfl,?_,qZ A⟩;simp[Instr.lookup,bA M,gD D,KT g (k:=.string ⟨s.toArray⟩) trivial,KU g I,Result.andThen,zeroValue,typeInfo,b,d]
     | true=>
      simp only[zh]at x;rcases C7 es ents.toList s 0 _ f O N x with⟨j,a,av,I,hr,rfl⟩|⟨I,l⟩
      .refine⟨_,.tuple #[a,.bool Q3],rfl,?_,sd hr (.kb Q3)⟩;simp[Instr.lookup,bA M,gD D,KT g (k:=.string ⟨s.toArray⟩) trivial,KU g I,Result.andThen]
      .unfold zhh at l;split at l
       next z h9=>simp[ret]at l;subst l;obtain⟨i,A,b,d,rfl⟩:=nX h9;refine⟨_,.tuple #[A,.bool Q4],rfl,?_,sd (qZ A) (.kb Q4)⟩;simp[Instr.lookup,bA M,gD D,KT g (k:=.string ⟨s.toArray⟩) trivial,KU g I,Result.andThen,zeroValue,typeInfo,b,d]
       .simp at l
    .simp at x
   .simp at x
  .split at x
   .rename_i F;split at x
    .rename_i id a hvk2;have L:=Y id (by simp[AV.ids]);split at x
     .rename_i u es B;rw[B]at L;obtain⟨r,ents,clock,S,h2,D,N,O⟩:=L;cases hx with
      |mp _ _ H _=>
      rw[S]at H;cases H;rw[wH hvk2]at W;obtain⟨rfl,J⟩:=xJ W;have E:=jG (w:=w) F J u es ents.toList N O.1
      have G:∀(i:TypeInfo)(A:Value),P.info? et=Q1 i->i.zero=Q1 A->A=uP u 0->
        (Instr.lookup t (.map (Q1 r)) (cB a) two).run P w=.ok (ite two (.tuple #[uP u (gR es a),.bool (oe es a)]) (uP u (gR es a))) w:=by
       intro i A b d o;subst o;cases n:cI es a 0 with
       | none=>
        rw[n]at E;obtain⟨e1,Z,_⟩:=lW n;cases two<;>simp[Instr.lookup,bA M,gD D,bD F,E,Result.andThen,zeroValue,typeInfo,b,d,e1,Z]
       | some q=>
        obtain⟨j,m⟩:=q;rw[n]at E;obtain⟨_,e1,Z,_,_⟩:=lX n;cases two<;>simp[Instr.lookup,bA M,gD D,bD F,E,Result.andThen,e1,Z]
      have X:cZ .i64 (gR es a):=by
       cases n:cI es a 0 with
       |none=>rw[(lW n).2.1];unfold cZ;decide
       | some q=>
        obtain⟨j,m⟩:=q;obtain⟨_,_,Z,⟨p,h,_,x0⟩,_⟩:=lX n;grind
      split at x
      .rename_i z l;split at x
       .rename_i hc;obtain⟨rfl,rfl⟩:=hc;obtain⟨i,A,b,d,o⟩:=nX l;have:=KR o.symm;subst this;simp[ret]at x;subst x;refine⟨_,_,rfl,G i _ b d rfl,?_⟩;cases two
        .exact .int _ _ X
        .exact sd (.int _ _ X) (.bool _)
       .simp at x
      .rename_i cs l;split at x
       .rename_i hc;obtain⟨rfl,h8⟩:=hc;obtain⟨i,A,b,d,o⟩:=nX l;have:=Td o.symm h8;subst this;simp[ret]at x;subst x;have T:Rv w U ρ (.agg []) (.agg #[]):=.agg [] [] rfl sw sw;refine⟨_,_,rfl,G i _ b d rfl,?_⟩;cases two
        .exact T
        .exact sd T (.bool _)
       .simp at x
      .simp at x
     .rename_i e es B;rw[B]at L;obtain⟨r,ents,clock,gs,S,h2,D,N,O,h6,h7⟩:=L;cases hx with
      |mp _ _ H _=>
      rw[S]at H;cases H;rw[wH hvk2]at W;obtain⟨rfl,J⟩:=xJ W;split at x
      .rename_i l;split at x
       next h0=>subst h0;simp[ret]at x;subst x;obtain⟨i,A,b,d,o⟩:=nX l;have:=Te o.symm;subst this;exact⟨_,_,rfl,JR M F b d J D O h7,Rr a es gs h6 N⟩
       .simp at x
      .simp at x
     .simp at x
    .simp at x
   .simp at x
  .simp at x
 .simp at x
theorem yE:∀{es:List ((Int×Int×zH)×Int)}{k:Int×Int×zH}{i:Nat},(cI es k i=Q2->lY es k=Io es)/\∀j n,cI es k i=Q1 (j,n)->j=i+lY es k
 |[],k,i=>⟨λ_=>rfl,λj n h=>by cases h⟩
 | p::r,k,i=>by
  obtain⟨x,a⟩:=yE (es:=r) (k:=k) (i:=i+1);unfold cI lY;grind
theorem ST:∀(es:List ((Int×Int×zH)×Int))(k:Int×Int×zH),lY es k<=Io es
 |[],_=>ah _
 | p::r,k=>by
  have:=ST r k;unfold lY;grind
variable {fp:List Nat}
theorem OP(x:(uT P h t c p).val=some f)
  (hm:Rv w U ρ c v) (hk:Rv w U ρ p y) (Z:∀b,U b->b<w.heap.size) (h0:Fj w U ρ h fp) (h6:∀id∈c.ids,id∈fp):
  ∃d w',(Instr.mapEntry t v y).run P w=.ok d w'/\Ef n h f w U ρ d w' U ρ/\∀id o,(id,o)∈f.wr->id∈fp:=by
 unfold uT at x;split at x
 .rename_i kt et ht;split at x
  .rename_i J;split at x
   .rename_i id d hvk2;have W:=h6 id (by simp[AV.ids]);have ho:=h0.ob id W;split at x
    .rename_i es S;split at x
     .rename_i z hz;split at x
      .rename_i x0;subst x0;simp only[Tr.val]at x;split at x
       .rename_i D;have D:Io es<=1073741824:=mi D;simp only[bg]at x;subst x;rw[S]at ho;obtain⟨r,ents,clock,M,h2,A,h4,B⟩:=ho;cases hm with
        |mp _ _ hv _=>
        rw[M]at hv;cases hv;rw[wH hvk2]at hk;obtain⟨rfl,Y⟩:=xJ hk;obtain⟨i0,zv,H,x1,x2⟩:=nX hz;have:=KR x2.symm;subst this;have u:=jG (w:=w) J Y Q4 es ents.toList h4 B.1;have E:(h id).owns=Q3:=by rw[S];rfl
        have T:ents.size=Io es:=by have:=congrArg Io h4;simpa using this
        have F:∀L o',(L,o')∈[(id,AO.vmap Q4 (kc es d))]->L∈fp:=by
         intro L o' h';simp only[dU,cd]at h';rw[h'.1];exact W
        have X:cZ .i64 (lY es d:Int):=by
         have:=ST es d;unfold cZ;exact⟨by show(-9223372036854775808:Int)<=_;omega,by show _<=(9223372036854775807:Int);omega⟩
        cases l:cI es d 0 with
        | none=>
         rw[l]at u;obtain⟨e1,e2,_⟩:=lW l;have e3:=(yE (es:=es) (k:=d) (i:=0)).1 l;have g:kc es d=es++[(d,0)]:=by simp[kc,e1]
         refine⟨.tuple #[.int .i64 0,goInt clock],{w with heap:=w.heap.setIfInBounds r (.map (ents.push {key:=cB d,val:=.int .i64 0,born:=clock}) (clock+1))},?_,?_,F⟩
         .simp[Instr.mapEntry,bA ht,gD A,bD J,u,mZ _ A,Result.andThen,zeroValue,typeInfo,H,x1]
         .refine Ef.setMap M h2 A E ?_ Z ?_
          .refine⟨r,_,_,M,h2,(nf A).1,?_,?_,B.2.push _ _⟩
           .rw[g];simp only[Array.toList_push,eC,h4,dC,pU];rfl
           .rw[g];intro a h;rcases cz.1 h with h|h
            .exact B.1 a h
            .simp at h;subst h;exact⟨(show cZ .i64 0 by unfold cZ;decide),Y⟩
          .rw[e2];have hc:goInt clock=.int .i64 (lY es d:Int):=by rw[e3,B.2.1,T];rfl
           rw[hc];exact sd (.int _ _ (by unfold cZ;decide)) (.int _ _ X)
        | some q=>
         obtain⟨j,m⟩:=q;rw[l]at u;obtain⟨_,e1,e2,⟨a,I,h7,h8⟩,_⟩:=lX l;have e3:=(yE (es:=es) (k:=d) (i:=0)).2 j m l;rw[ew]at e3;rw[Nat.sub_zero]at I;have g:kc es d=es:=by simp[kc,e1]
         have O:∃e,ents.toList[j]?=Q1 e/\e.key=cB d:=by
          have:(ents.toList.map λe=>(e.key,e.val))[j]?=Q1 (cB a.1,uP Q4 a.2):=by
           rw[h4];simp[I]
          rw[du,dt]at this;obtain⟨e,G,s⟩:=this;simp only[cd]at s;exact⟨e,G,by rw[s.1,h7]⟩
         obtain⟨e,G,s⟩:=O;have N:ents[j]?=Q1 e:=by rw[<-pl];exact G
         have h9:(Instr.keyThatStays (cB d) (cB d)).run P w=.ok (cB d) w:=by
          simp[Instr.keyThatStays,mN]
         refine⟨.tuple #[.int .i64 m,goInt e.born],{w with heap:=w.heap.setIfInBounds r (.map (ents.modify j λe=>{e with key:=cB d}) clock)},?_,?_,F⟩
         .simp[Instr.mapEntry,bA ht,gD A,bD J,u,N,s,h9,mZ _ A,Result.andThen,uP]
         .refine Ef.setMap M h2 A E ?_ Z ?_
          .refine⟨r,_,_,M,h2,(nf A).1,?_,by rw[g];exact B.1,B.2.modify _ _ (λ_=>rfl)⟩;rw[g];apply pm;grind
          .rw[e2];have hc:goInt e.born=.int .i64 (lY es d:Int):=by rw[B.2.2 j e N,e3];rfl
           rw[hc];have hm:cZ .i64 m:=by rw[<-h8];exact(B.1 a (fF I)).1
           exact sd (.int _ _ hm) (.int _ _ X)
       .cases x
      .simp at x
     .simp at x
    .simp at x
   .simp at x
  .simp at x
 .simp at x
theorem uj:∀(es:List ((Int×Int×zH)×Int))(n:Nat)(x:Int)(p:(Int×Int×zH)×Int),es[n]?=Q1 p->kv es n x=es.set n (p.1,x)
 |[],_,_,_,h=>by simp at h
 |q::r,0,x,p,h=>by simp at h;subst h;rfl
 | q::r,n+1,x,p,h=>by
  rw[kv,uj r n x p (by simpa using h)];rfl
theorem AK{J:AV}(x:(oD h c p J).val=Q1 f)
  (Y:Rv w U ρ c v) (hs:Rv w U ρ p y) (hx:Rv w U ρ J G) (I:∀b,U b->b<w.heap.size) (D:Fj w U ρ h i) (F:∀id∈c.ids,id∈i):
  ∃T,(Instr.entryStore t v y G).run P w=.ok () T/\Ef n h f w U ρ undef T U ρ/\∀id o,(id,o)∈f.wr->id∈i:=by
 unfold oD at x;split at x
 .rename_i id nn yy;have E:=F id (by simp[AV.ids]);have O:=D.ob id E;split at x
  .rename_i es l;simp only[Tr.val]at x;split at x
   .rename_i m;obtain⟨W,X⟩:=mr.1 m;simp only[bg]at x;subst x;rw[l]at O;obtain⟨r,ents,clock,z,L,u,M,A⟩:=O;cases Y with
    |mp _ _ S _=>
    rw[z]at S;cases S;cases hs;cases hx with
    |int _ _ hy=>
    have s:(h id).owns=Q3:=by rw[l];rfl
    have N:ents.size=Io es:=by have:=congrArg Io M;simpa using this
    have g:nn.toNat<ents.size:=by omega
    have B:ents.findIdx? (λe=>(e.born:Int)==nn)=Q1 nn.toNat:=by
     rw[Array.findIdx?_eq_some_iff_getElem];refine⟨g,?_,λj hj=>?_⟩
     .have:=A.2.2 nn.toNat ents[nn.toNat] (pD g);grind
     .have:=A.2.2 j (ents[j]'ow) (pD ow);grind
    obtain⟨a,h⟩:∃a,es[nn.toNat]?=Q1 a:=⟨es[nn.toNat]'ow,z6 ow⟩;refine⟨{w with heap:=w.heap.setIfInBounds r (.map (ents.modify nn.toNat λe=>{e with val:=.int .i64 yy}) clock)},?_,?_,?_⟩
    .simp[Instr.entryStore,gD u,asInt,asIntOf,B,mZ _ u,Result.andThen]
    .refine Ef.setMap z L u s ?_ I (.tup [] [] rfl sw);refine⟨r,_,_,z,L,(nf u).1,?_,?_,A.2.modify _ _ (λ_=>rfl)⟩
     .rw[uj es _ yy a h];apply pm;intro q;have d:(ents.toList.map λe=>(e.key,e.val))[q]?=(CC Q4 es)[q]?:=by rw[M]
      simp only[du,pl,pP,na,CC]at d|-;by_cases Z:nn.toNat=q
      .subst Z;have H:nn.toNat<Io es:=by omega
       rw[pD g,h]at d;simp only[B3,bg,cd]at d;simp[pD g,H,d.1,uP]
      simp_all
     .rw[uj es _ yy a h];grind
    simp_all
   .cases x
  .simp at x
 .simp at x
theorem Ef.frz{hp:Nat->AO}{ids:List Nat}{r:AV}(p:∀b,U b->b<w.heap.size)(i:∀j∈ids,oK (hp j)=Q3)
  (m:∀j∈ids,bl w U ρ j (hp j)) (c:Rv w (λb=>U b/\¬∃j∈ids,af ρ j (hp j) b) ρ r v):
  Ef n hp {val:=r,wr:=gN hp ids} w U ρ v w (λb=>U b/\¬∃j∈ids,af ρ j (hp j) b) ρ:=by
 generalize e:(λb=>U b/\¬∃j∈ids,af ρ j (hp j) b)=s at c|-;have a:∀b,s b->U b:=λb h=>by rw[<-e]at h;exact h.1
 have l:∀j∈ids,∀b,af ρ j (hp j) b->¬s b:=λj t b g h=>by grind
 have q:∀id o b,(id,o)∈gN hp ids->af ρ id o b->False:=by
  intro id o b h g;obtain⟨x,rfl⟩:=dE h;rw[af,qh (i id x)]at g;simp at g
 refine⟨kF.refl w,c,?_,sw,λ_ _=>rfl,λ_ _ h=>h,λ_ _ _=>rfl,λd h=>p d (a d h),λd _ h=>a d h,?_,?_,?_⟩
 .intro id o h;obtain⟨x,rfl⟩:=dE h;exact rr (m id x) (i id x) a (l id x)
 .intro d _ h u;rw[<-e];exact⟨h,λ⟨j,t,g⟩=>u j _ (rt t) g⟩
 .simp_all
 simp_all
theorem LQ{L:AV}{X N Y:Option AV}{vlo vhi vmx:Option Value}(d:(C3 P h t L X N Y).val=Q1 f)
  (W:Rv w U ρ L v) (y:∀a g,X=Q1 a->vlo=Q1 g->Rv w U ρ a g) (u:∀a g,N=Q1 a->vhi=Q1 g->Rv w U ρ a g)
  (z:∀a g,Y=Q1 a->vmx=Q1 g->Rv w U ρ a g) (B:X.isSome=vlo.isSome) (A:N.isSome=vhi.isSome) (D:Y.isSome=vmx.isSome)
  (q:∀b,U b->b<w.heap.size) (M:Fj w U ρ h fp) (O:∀id∈L.ids,id∈fp):
  ∃g U',(Instr.sliceAt t v vlo vhi vmx).run P w=.ok g w/\Ef n h f w U ρ g w U' ρ/\∀id o,(id,o)∈f.wr->id∈fp:=by
 unfold C3 at d;split at d
 .rename_i id;have F:=O id (by simp[AV.ids]);have J:=M.ob id F;split at d
  .rename_i e l p;simp only[Tr.val_bind,fO]at d;obtain⟨f0,h0,Z⟩:=d;simp only[Tr.val_ok,bg]at Z;subst Z;have m:∀b,(U b/\¬∃j∈[id],af ρ j (h j) b)->U b:=λb hb=>hb.1
   have T:Rv w (λb=>U b/\¬∃j∈[id],af ρ j (h j) b) ρ (.sl e l) v:=
    uy (hp:=h) (e:=e) (c:=.vec id) (by simp[tj,p]) W m (λj I=>by simp[cW]at I;subst I;exact J)
     (λj I b hb hU=>by simp[cW]at I;simp_all)
   obtain⟨r,x,rfl,i,G⟩:=tI (w:=w) (U:=λb=>U b/\¬∃j∈[id],af ρ j (h j) b) (ρ:=ρ) (vlo:=vlo) (vhi:=vhi) (vmx:=vmx) h0 T
    (λa g E s=>(y a g E s).weak m) (λa g E s=>(u a g E s).weak m) (λa g E s=>(z a g E s).weak m) B A D
   refine⟨x,_,i,Ef.frz q (by simp[p,oK]) (by simp;exact J) G,λh3 o' h'=>?_⟩;obtain⟨h2,_⟩:=dE h';simp at h2;rw[h2];exact F
  .rename_i e l p;rw[p]at J;obtain⟨v',H,S⟩:=J;cases W with
   |vec _ _ s _=>
   rw[s]at H;cases H;obtain⟨r,x,rfl,i,G⟩:=tI (w:=w) (U:=U) (ρ:=ρ) (vlo:=vlo) (vhi:=vhi) (vmx:=vmx) d S y u z B A D;exact⟨x,U,i,Ef.pure q G,sw⟩
  .simp at d
 .obtain⟨r,x,rfl,i,G⟩:=tI (w:=w) (U:=U) (ρ:=ρ) (vlo:=vlo) (vhi:=vhi) (vmx:=vmx) d W y u z B A D;exact⟨x,U,i,Ef.pure q G,sw⟩
end
section
variable {w:World} {U:Nat->Prop} {ρ:Nat->Option Value}
def BO(gl:Nat->AV)(w:World)(U:Nat->Prop):Prop:=∀g,Rv w U (λ_=>Q2) (gl g) (.pointer (Q1 ⟨g,0,Q2⟩))
structure ol (P:Program) (gl:Nat->AV) (k:FuncId) (F:z8):Prop where
 fn:∃fn,P.funcs[k]?=Q1 fn/\(fn.name=="runtime.NumGoroutine")=Q4/\fn.body.isNone=Q4
 calls:∀(w:World)(U:Nat->Prop)(ρ:Nat->Option Value)(hp:Nat->AO)(n:Nat)(args:List AV)(vals:List Value)(f:fM)(fp:List Nat),(F args hp n).val=Q1 f->
  dg w U ρ args vals->(∀b,U b->b<w.heap.size)->BO gl w U->Fj w U ρ hp fp->(∀id∈AV.idsL args,id∈fp)->(∀id∈fp,∀j∈(hp id).ids,j∈fp)->(∀j,j<f.nw.length->ρ (n+j)=Q2)->
  Calls P k vals.toArray w (λe w'=>∃v U' ρ',e=.returned v/\Ef n hp f w U ρ v w' U' ρ')/\∀id o,(id,o)∈f.wr->id∈fp
structure zw (E:cg):Prop extends EnvOk E where
 fs:∀k F,E.F k=Q1 F->ol E.P E.gl k F
 mix:E.P.follows .mixedOrders=Q3
variable {c:AV}{id:Nat}
theorem qt(h:id∈ea c):id∈c.ids:=by
 have d:∀a:List AV,id∈a.flatMap cW->id∈AV.idsL a:=by
  intro a
  induction a with
  |nil=>simp
  | cons x a e=>
   intro h;simp only[List.flatMap_cons,cz]at h;simp only[AV.idsL,cz];rcases h with h|h
   .left;cases x<;>simp[cW]at h
    subst h;simp[AV.ids]
   .exact .inr (e h)
 unfold ea at h;split at h
 .rename_i a b;cases c<;>simp only[cellsOf,bg,reduceCtorEq]at b<;>(try subst b)
  case agg a=>simp only[AV.ids];exact d _ h
  case vec i=>simp[cW]at h;subst h;simp[AV.ids]
  all_goals simp[cW]at h
 .simp at h
variable {a:List AV}
theorem iI(b:c∈a)(h:id∈c.ids):id∈AV.idsL a:=by
 induction a with
 |nil=>simp at b
 | cons x a i=>
  simp only[AV.idsL,cz];grind
theorem RC(h:id∈AV.idsL a):∃c∈a,id∈c.ids:=by
 induction a with
 |nil=>simp[AV.idsL]at h
 | cons x a i=>
  simp only[AV.idsL,cz]at h;grind
variable {P:Program}{o:Oper}{K:Act->World->Prop}{Q:Exit->Act->World->Prop}{v:Value}
theorem eW{x:Act}{w':World}(h:(execOp x.eval o).run P w=.ok (.value v) w')(a:K (x.put o.dst v) w'):o.wp P x w K Q:=by rw[Oper.wp,h];exact a
theorem qU{x:Act}{a:World}(h:(execOp x.eval o).run P w=.ok .skip a)(b:K (x.put o.dst undef) a):o.wp P x w K Q:=by rw[Oper.wp,h];exact b
theorem sc{ev:Operand->AV}{g:Operand->Value}:∀(a:List Operand),(∀x∈a,Rv w U ρ (ev x) (g x))->dg w U ρ (a.map ev) (a.map g)
 |[],_=>⟨rfl,sw⟩
 | x::a,h=>by
  have i:=sc a (λy b=>h y (by simp[b]));refine⟨sw,λj c v d e=>?_⟩;grind
theorem dg.append{b:List AV}{g y:List Value}(h:dg w U ρ a g)(e:dg w U ρ b y):dg w U ρ (a++b) (g++y):=by
 refine⟨by simp[h.len,e.len],λj c v x d=>?_⟩;by_cases i:j<Io a
 .rw[kG i]at x;rw[kG (by rw[<-h.len];exact i)]at d;exact h.rv j c v x d
 .rw[jg ow]at x;rw[jg (by rw[<-h.len];omega),<-h.len]at d;exact e.rv _ c v x d
variable {h:Nat->AO}{f:fM}{fp:List Nat}
theorem Fw{E:cg}(hE:EnvOk E){n:Nat}{t:TypeId}{B:Nat}{y:List (Nat×AV)}{vps:List (Nat×Value)}
  (a:(tH E h n t B y).val=Q1 f) (Y:y.map (·.1)=vps.map (·.1)) (hr:dg w U ρ (y.map (·.2)) (vps.map (·.2)))
  (x0:∀b,U b->b<w.heap.size) (hn:∀j,j<f.nw.length->ρ (n+j)=Q2):
  ∃v w' U' ρ',(Instr.buildSlice t B vps.toArray).run E.P w=.ok v w'/\Ef n h f w U ρ v w' U' ρ'/\∀id o,(id,o)∈f.wr->id∈fp:=by
 unfold tH at a;split at a
 .rename_i d hu;split at a
  .rename_i e he;split at a
   .rename_i g;simp only[aE,aQ,List.isEmpty_iff]at g;obtain⟨⟨⟨⟨L,O⟩,h4⟩,h7⟩,F⟩:=g;split at a
    .rename_i l hl;simp at a;subst a;have M:ρ n=Q2:=hn 0 sw;obtain⟨i,z,m,J,h8,_,hz,x2⟩:=hE.sh d e he;have h5:gh E.P d=Q1 e.size:=by simp[gh,m,J]
     have I:(y.map (·.2)).flatMap ea=[]:=by
      rw[<-F,List.flatMap_map]
     obtain⟨T,h2,h3⟩:=wX (w:=w) (U:=U) (ρ:=ρ) (U':=U) (λ_ a=>a) _ _ l hl hr
      (λid H=>by rw[I]at H;cases H)
     have S:vps=((vps.map (·.2)).zipIdx 0).map λp=>(p.2,p.1):=by
      have T:=ql y 0 O;have u:y.map (·.1)=List.range' 0 (Io y):=by
       have:=congrArg (List.map (·.1)) T;rw[nh]at this;rw[this];have X:((λx:Nat×AV=>x.1)∘λp:AV×Nat=>(p.2,p.1))=Prod.snd:=rfl;rw[X,List.zipIdx_map_snd];simp
      have Z:Io y=Io vps:=by have:=congrArg Io Y;simpa using this
      rw[Y,Z]at u;apply List.ext_getElem
      .simp
      .intro k hk h9;have:(vps.map (·.1))[k]?=(List.range' 0 (Io vps))[k]?:=by rw[u]
       grind
     have q:Io vps=B:=by rw[<-L];have:=congrArg Io Y;simpa using this.symm
     obtain⟨r,W,X,e3,e4⟩:=xz e.size (vps.map (·.2)) 0 (((Array.range (B*e.size)).map (z.cells[· %z.cells.size]!)).toList)
      (λv hv=>(h2 v hv).1) (by simp[q])
     rw[<-S]at W;have N:B*e.size≠0:=Nat.mul_ne_zero ow ow;have D:¬(2^24<B*e.size):=by omega
     have h0:Io l=B:=by rw[T];simpa using q
     have hs:w.heap.size<=(w.alloc (.cells r.toArray d)).heap.size:=by rw[bt];omega
     refine⟨.slice (Q1 ⟨w.heap.size,0,Q2⟩) B B,w.alloc (.cells r.toArray d),λb=>U b\/b=w.heap.size,_,?_,Ef.newVec sw M rfl (kF.alloc w _ _) (λb A _=>bE w _ b A) ?_ ?_ ?_ ?_,sw⟩
     .simp only[QI]at W;simp only[Instr.buildSlice,cP,bA hu,cX h5,nc];simp only[gt_iff_lt,D,zm,N,pO,nc,cP,zeroValue,typeInfo,run_program,m,hz,W,newRow,run_newObj];rfl
     .intro b A;rw[bt];grind
     .grind
     .refine⟨Q1 ⟨w.heap.size,0,Q2⟩,B,by simp[jJ,h0],by unfold aI;grind,.inr ⟨w.heap.size,d,r.toArray,rfl,h4,.inr rfl,cC w _,by simp[X],ow,?_⟩⟩;intro i' G j c hc;have s:i'<(vps.map (·.2)).length:=by rw[<-T];exact G
      obtain⟨v,x1,h6⟩:=h3 i' G s j c hc;have hj:j<e.size:=by have:=(dc.1 hc).1;rwa [ag]at this
      have:=e4 i' s j hj;rw[ew]at this;refine⟨v,by grind,h6.mono hs (λb A _=>bE w _ b A) (λb A a=>a.elim (λx=>x) (λe=>by omega)) (fg M)⟩
     .intro b A;simp[bJ]at A;exact .inl ow
    .simp at a
   .simp at a
  .simp at a
 .simp at a
theorem Ae:∀(l:List Int)(s:ByteArray),l.foldl (λr n=>r.push (UInt8.ofNat n.toNat)) s=⟨s.data++(jh l).toArray⟩:=by
 intro l
 induction l with
 |nil=>intro s;simp[jh]
 |cons n l i=>intro s;rw[List.foldl_cons,i];simp[jh,ByteArray.push]
theorem OO{src dst F:TypeId}(h:(IA P F c).val=Q1 f)(q:P.underlying src=Q1 (.slice F))
  (p:P.underlying dst=Q1 .string) (z:Rv w U ρ c v):
  ∃r c,f={val:=r}/\(convert src dst v).run P w=.ok c w/\Rv w U ρ r c:=by
 unfold IA at h;split at h
 .rename_i l;split at h
  .rename_i s;simp at h;subst h;cases z with
   | sl0 _ a x=>
    refine⟨_,.string ⟨(jh []).toArray⟩,rfl,?_,.str _ (by simp[jh])⟩;rw[run_convert_bytes_string w src dst F a _ _ q s p];cases a with
    |none=>simp[Conv.bytesToString,jh];rfl
    | some a=>
     have:=run_bytesToString (P:=P) w a 0 x [] (by simpa using run_loadCells_list (P:=P) w a [] (λj v t=>by simp at t));rw[Ae]at this;simpa[jh]using this
   | sl _ _ b o x e D y B A d i=>
    have u:∀j(g:j<Io l),w.cell? ⟨b,o+j,Q2⟩=Q1 (.int .u8 l[j]):=by
     intro j g;have m:=d j 0 g (by simp[Sh.size]);have n:=i j g 0 (.int .u8 l[j]) rfl;generalize e j 0=G at m n;cases n with
     |int _ _ E=>
     simpa[Sh.size]using m
    have:=run_bytesToString (P:=P) w ⟨b,o,Q2⟩ (Io l) x l (by
     have:=run_loadCells_list (P:=P) w ⟨b,o,Q2⟩ (l.map (Value.int .u8)) (λj v t=>by
      rw[Addr.add_none];grind)
     simpa using this)
    rw[Ae]at this;refine⟨_,.string ⟨(jh l).toArray⟩,rfl,?_,.str _ (by simpa[jh]using y)⟩;rw[run_convert_bytes_string w src dst F _ _ _ q s p];simpa[jh]using this
  .simp at h
 .simp at h
theorem GW{E:cg}(hE:zw E){j:Operand->AV}{n:Nat}{a:Act}(B:(qc E j h n o).val=Q1 f)
  (I:∀x∈o.op.operands.toList,Rv w U ρ (j x) (a.eval x)) (X:∀b,U b->b<w.heap.size) (i4:BO E.gl w U) (h0:Fj w U ρ h fp)
  (T:iM o.op=Q3->∀x∈o.op.operands.toList,∀id∈(j x).ids,id∈fp) (i2:tt o.op=Q3->∀id∈fp,∀A∈(h id).ids,A∈fp) (hn:∀A,A<f.nw.length->ρ (n+A)=Q2):
  (∀(K:Act->World->Prop)(Q:Exit->Act->World->Prop),(∀v w' U' ρ',Ef n h f w U ρ v w' U' ρ'->K (a.put o.dst v) w')->o.wp E.P a w K Q)/\∀id o',(id,o')∈f.wr->id∈fp:=by
 have D:∀(r:AV)(x:Value),f={val:=r}->(execOp a.eval o).run E.P w=.ok (.value x) w->Rv w U ρ r x->
   (∀(K:Act->World->Prop)(Q:Exit->Act->World->Prop),(∀v w' U' ρ',Ef n h f w U ρ v w' U' ρ'->K (a.put o.dst v) w')->o.wp E.P a w K Q)/\∀id o',(id,o')∈f.wr->id∈fp:=by
  rintro r x rfl G hr;exact⟨λK Q hK=>eW G (hK _ _ _ _ (Ef.pure X hr)),sw⟩
 unfold qc at B;split at B
 case h_1 x H=>
  simp at B;subst B;exact D _ (a.eval x) rfl (by simp[execOp,H]) (I x (by simp[H,Op.operands]))
 case h_2 x H=>
  simp at B;subst B;exact D _ (a.eval x) rfl (by simp[execOp,H]) (I x (by simp[H,Op.operands]))
 case h_3 c x y H=>
  have hc:=I c (by simp[H,Op.operands]);have L:=I x (by simp[H,Op.operands]);have hy:=I y (by simp[H,Op.operands]);generalize a3:a.eval c=vc at hc;split at B
  next h7=>rw[h7]at hc;cases hc;simp at B;subst B;exact D _ (a.eval x) rfl (by simp[execOp,H,a3,asBool]) L
  next h7=>rw[h7]at hc;cases hc;simp at B;subst B;exact D _ (a.eval y) rfl (by simp[execOp,H,a3,asBool]) hy
  next b h7=>rw[h7]at hc;cases hc;simp at B;obtain⟨z,hz,rfl⟩:=B;refine D _ (ite b (a.eval x) (a.eval y)) rfl (by simp[execOp,H,a3,asBool]) (DB hz ?_);cases b<;>simp[L,hy]
  .simp at B
 case h_4 t x H=>
  have L:=I x (by simp[H,Op.operands]);split at B
  next cs Z=>simp at B;subst B;obtain⟨h1,h2⟩:=ia Z L;refine⟨λK Q hK=>eW (v:=.pointer (Q1 ⟨w.heap.size,0,Q2⟩)) (w':=w.alloc (.cells (a.eval x).cells t)) ?_ (hK _ _ _ _ (Ef.box X (by simpa using hn 0 sw) h1 h2)),sw⟩;simp[execOp,H,Instr.box,newVar,newRow]
  .simp at B
 case h_5 t H=>
  split at B
  .rename_i cs Z;simp at B;subst B;unfold zas at Z;split at Z
   .rename_i i a0;have hz:∃zv,i.zero=Q1 zv/\dg w U ρ cs zv.cells.toList/\∀v∈zv.cells.toList,v.oneCell'=Q3:=by
     cases x2:i.zero with
     |none=>rw[x2]at Z;cases Z
     | some zv=>
      by_cases hm:zv=.map Q2
      .subst hm;rw[x2]at Z;cases Z;refine⟨_,rfl,⟨rfl,λi r v hr hv=>?_⟩,λv hv=>?_⟩
       .cases i with
        |zero=>cases hr;exact .any _
        |succ i=>simp at hr
       have:v=Value.map Q2:=by simpa[Value.cells]using hv
       subst this;rfl
      .have a5:cellsOf (wO zv)=Q1 cs:=by
        rw[x2]at Z;split at Z
        .simp_all
        next e=>cases e;exact Z
        next e=>cases e
       obtain⟨h1,h2⟩:=ia a5 (qZ (w:=w) (U:=U) (ρ:=ρ) zv);exact⟨zv,rfl,h1,h2⟩
    obtain⟨zv,x2,h1,h2⟩:=hz;refine⟨λK Q hK=>eW (v:=.pointer (Q1 ⟨w.heap.size,0,Q2⟩)) (w':=w.alloc (.cells zv.cells t)) ?_ (hK _ _ _ _ (Ef.box X (by simpa using hn 0 sw) h1 h2)),sw⟩;simp[execOp,H,Instr.alloc,zeroValue,typeInfo,a0,x2,newVar,newRow]
   .cases Z
  .simp at B
 case h_6 t x H=>
  have L:=I x (by simp[H,Op.operands]);obtain⟨r,v,rfl,G,hr⟩:=GV B L (λid J=>h0.ob id (T (by simp[H,iM]) x (by simp[H,Op.operands]) id J));exact D r v rfl (by simp[execOp,H,G]) hr
 case h_7 t x y H=>
  have L:=I x (by simp[H,Op.operands]);have hy:=I y (by simp[H,Op.operands])
  obtain⟨w',U',G,S,O⟩:=OS (n:=n) B L hy X h0 (λid J=>T (by simp[H,iM]) x (by simp[H,Op.operands]) id J)
   (λid J=>T (by simp[H,iM]) y (by simp[H,Op.operands]) id (qt J))
  exact⟨λK Q hK=>qU (by simp[execOp,H,G]) (hK _ _ _ _ S),O⟩
 case h_8 t x fl H=>
  have L:=I x (by simp[H,Op.operands]);obtain⟨r,v,rfl,G,hr⟩:=OQ B L;exact D r v rfl (by simp[execOp,H,G]) hr
 case h_9 t x fl H=>
  have L:=I x (by simp[H,Op.operands]);split at B
  .rename_i fd cs x4 Z;simp at B;obtain⟨r,hr,rfl⟩:=B;rw[Z]at L;generalize W:a.eval x=vx at L;cases L with
   |agg _ vs hl h1 a2=>
   obtain⟨v,G,x1⟩:=DM hr hl h1 a2;unfold A3 at x4;split at x4
   next fs hu=>exact D r v rfl (by simp[execOp,H,W,Instr.field,bA hu,x4,asAgg,G]) x1
   .cases x4
  .simp at B
 case h_10 t x i H=>
  have L:=I x (by simp[H,Op.operands]);have hi:=I i (by simp[H,Op.operands]);obtain⟨r,v,rfl,G,hr⟩:=C2 B L hi (λid J=>h0.ob id (T (by simp[H,iM]) x (by simp[H,Op.operands]) id J));exact D r v rfl (by simp[execOp,H,G]) hr
 case h_11 t x i H=>
  have L:=I x (by simp[H,Op.operands]);have hi:=I i (by simp[H,Op.operands]);obtain⟨r,v,rfl,G,hr⟩:=OR B L hi;exact D r v rfl (by simp[execOp,H,G]) hr
 case h_12 t M H=>
  simp at B;obtain⟨r,hr,rfl⟩:=B;have a7:∀p∈M.toList,Rv w U ρ (j p.2) (a.eval p.2):=λp h=>I p.2 (by simp only[H,Op.operands];grind)
  obtain⟨v,G,x1⟩:=To (w:=w) (U:=U) (ρ:=ρ) (vparts:=M.toList.map λp=>(p.1,a.eval p.2)) hr sw (by
   have:=sc (w:=w) (U:=U) (ρ:=ρ) (ev:=j) (g:=a.eval) (M.toList.map (·.2)) (λx L=>by
    grind)
   simpa[nh,uv]using this)
  refine D r v rfl ?_ x1;have e1:(M.toList.map λp=>(p.1,a.eval p.2)).toArray=M.map λp=>(p.1,a.eval p.2):=by
   apply kg;simp
  rw[e1]at G;simp[execOp,H,G]
 case h_13 t j4 M H=>
  have a7:∀p∈M.toList,Rv w U ρ (j p.2) (a.eval p.2):=λp h=>I p.2 (by simp only[H,Op.operands];grind)
  have a8:dg w U ρ ((M.toList.map λp=>(p.1,j p.2)).map (·.2)) ((M.toList.map λp=>(p.1,a.eval p.2)).map (·.2)):=by
   have:=sc (w:=w) (U:=U) (ρ:=ρ) (ev:=j) (g:=a.eval) (M.toList.map (·.2)) (λx L=>by
    grind)
   simpa[nh,uv]using this
  have e1:(M.toList.map λp=>(p.1,a.eval p.2)).toArray=M.map λp=>(p.1,a.eval p.2):=by
   apply kg;simp
  split at B
  .obtain⟨v,w',U',ρ',G,S,O⟩:=Fw hE.toEnvOk (fp:=fp) (n:=n) (w:=w) (U:=U) (ρ:=ρ) (vps:=M.toList.map λp=>(p.1,a.eval p.2)) B sw a8 X hn;refine⟨λK Q hK=>eW ?_ (hK _ _ _ _ S),O⟩;rw[e1]at G;simp[execOp,H,G]
  .obtain⟨v,w',U',G,S,O⟩:=AJ hE.toEnvOk (n:=n) (w:=w) (U:=U) (ρ:=ρ) (vps:=M.toList.map λp=>(p.1,a.eval p.2)) B sw a8 X h0 (λid J=>by
    simp only[KV,bh]at J;obtain⟨q,⟨p,h,rfl⟩,J⟩:=J;exact T (by simp[H,iM]) p.2 (by simp only[H,Op.operands];grind) id (qt J))
   refine⟨λK Q hK=>eW ?_ (hK _ _ _ _ S),O⟩;rw[e1]at G;simp[execOp,H,G]
 case h_14 op t x y yt H=>
  have L:=I x (by simp[H,Op.operands]);have hy:=I y (by simp[H,Op.operands]);obtain⟨r,v,rfl,G,hr⟩:=zb5 x y B L hy;refine D r v rfl ?_ hr;simp only[execOp,H];rw[cP,G];rfl
 case h_15 t x H=>
  have L:=I x (by simp[H,Op.operands]);generalize W:a.eval x=vx at L;split at B
  next b hb=>rw[hb]at L;cases L;simp at B;subst B;exact D _ (.bool (!b)) rfl (by simp[execOp,H,W,Op.unary]) (.bool _)
  next b hb=>rw[hb]at L;cases L;simp at B;subst B;exact D _ (.bool (!b)) rfl (by simp[execOp,H,W,Op.unary]) (.kb _)
  .simp at B
 case h_16 t x H=>
  have L:=I x (by simp[H,Op.operands]);generalize W:a.eval x=vx at L;split at B
  next k b hb=>rw[hb]at L;cases L;simp at B;subst B;exact D _ (.int k (k.wrap (-b))) rfl (by simp[execOp,H,W,Op.unary,Op.intArith]) (.int _ _ (mE _ _))
  .simp at B
 case h_17 j0 i1 x H=>
  have L:=I x (by simp[H,Op.operands]);generalize W:a.eval x=vx at L;split at B
  next d k k' b hs hu hb=>rw[hb]at L;cases L;simp at B;subst B;exact D _ (.int k (k.wrap b)) rfl (by simp[execOp,H,W,convert,bA hs,bA hu,Conv.intToInt]) (.int _ _ (mE _ _))
  next d s hs hu hb=>rw[hb]at L;have hh:=L;cases L;simp at B;subst B;exact D _ _ rfl (by simp[execOp,H,W,convert,bA hs,bA hu]) hh
  next el e l hs hu hb=>rw[hb]at L;obtain⟨r,v,rfl,G,hr⟩:=OO (src:=j0) (dst:=i1) B hs hu L;exact D r v rfl (by simp[execOp,H,W,G]) hr
  .simp at B
 case h_18 t x lo hi mx H=>
  have L:=I x (by simp[H,Op.operands])
  obtain⟨v,U',G,S,O⟩:=LQ (n:=n) (fp:=fp) (w:=w) (U:=U) (ρ:=ρ) (vlo:=lo.map a.eval) (vhi:=hi.map a.eval) (vmx:=mx.map a.eval) B L
   (λb v hb hv=>by cases lo<;>simp at hb hv;subst hb;subst hv;exact I _ (by simp[H,Op.operands]))
   (λb v hb hv=>by cases hi<;>simp at hb hv;subst hb;subst hv;exact I _ (by simp[H,Op.operands]))
   (λb v hb hv=>by cases mx<;>simp at hb hv;subst hb;subst hv;exact I _ (by simp[H,Op.operands])) (by cases lo<;>rfl) (by cases hi<;>rfl) (by cases mx<;>rfl) X h0 (λid J=>T (by simp[H,iM]) x (by simp[H,Op.operands]) id J)
  exact⟨λK Q hK=>eW (by simp[execOp,H,G]) (hK _ _ _ _ S),O⟩
 case h_19 x i H=>
  have L:=I x (by simp[H,Op.operands]);generalize W:a.eval x=vx at L;split at B
  .rename_i vs i9;rw[i9]at L;simp at B;obtain⟨r,hr,rfl⟩:=B;cases L with
   |tup _ xs hl a2=>
   have a6:i<Io xs:=by rw[<-hl];exact(dc.1 hr).1
   exact D r xs[i] rfl (by simp[execOp,H,W,Instr.extract,z6 a6]) (a2 i r _ hr (z6 a6))
  .simp at B
 case h_20 fn first h9 H=>
  simp at B;subst B;refine D _ (.func fn (first.toList.map a.eval).toArray (h9.toList.map a.eval).toArray) rfl (by simp[execOp,H,Instr.makeFunc];grind) ?_;have h1:=sc (w:=w) (U:=U) (ρ:=ρ) (ev:=j) (g:=a.eval) first.toList (λx L=>I x (by simp[H,Op.operands];exact .inl (by simpa using L)))
  have h2:=sc (w:=w) (U:=U) (ρ:=ρ) (ev:=j) (g:=a.eval) h9.toList (λx L=>I x (by simp[H,Op.operands];exact .inr (by simpa using L)));exact .clo fn _ _ _ _ h1.len h2.len h1.rv h2.rv
 case h_21 x H=>
  have L:=I x (by simp[H,Op.operands]);have j3:=L;generalize W:a.eval x=vx at L;split at B
  next i A h8=>rw[h8]at L;simp at B;subst B;have hh:=L;cases L;exact D _ _ rfl (by simp[execOp,H,W]) hh
  next cs A h8=>rw[h8]at L;simp at B;subst B;have hh:=L;cases L;exact D _ _ rfl (by simp[execOp,H,W]) hh
  next i A k l h8=>rw[h8]at L;simp at B;subst B;have hh:=L;cases L;exact D _ _ rfl (by simp[execOp,H,W]) hh
  .rename_i g as bs h8;rw[h8]at L;simp at B;subst B;have hh:=L;cases L;exact D _ _ rfl (by simp[execOp,H,W]) hh
  .simp at B
 case h_22 c H=>
  have hm:iM o.op=Q3:=by simp[H,iM]
  have N:∀x∈c.args.toList,x∈o.op.operands.toList:=by
   intro x L;simp only[H,Op.operands,Call.operands,Array.toList_append,cz];exact .inr L
  have x1:=sc (w:=w) (U:=U) (ρ:=ρ) (ev:=j) (g:=a.eval) c.args.toList (λx L=>I x (N x L));unfold WV at B;split at B
  .rename_i fo h5;have x9:fo∈o.op.operands.toList:=by simp[H,Op.operands,Call.operands,h5]
   have hf:=I fo x9;generalize i8:a.eval fo=vf at hf;split at B
   next k first h9 hcl0=>
    split at B
    .rename_i F hF;have x7:=hE.fs k F hF;rw[hcl0]at hf;cases hf with
     |clo _ _ _ i0 a9 h1 h2 h3 h4=>
     have a4:dg w U ρ (first++c.args.toList.map j++h9) (i0++c.args.toList.map a.eval++a9):=(dg.append ⟨h1,h3⟩ x1).append ⟨h2,h4⟩;obtain⟨x3,O⟩:=x7.calls w U ρ h n _ _ f fp B a4 X i4 h0 (λid J=>by
      obtain⟨cc,h7,J⟩:=RC J;simp only[cz,bh]at h7;rcases h7 with(h7|⟨x,L,rfl⟩)|h7
      .exact T hm fo x9 id (by rw[hcl0];simp only[AV.ids,cz];exact .inl (iI h7 J))
      .exact T hm x (N x L) id J
      .exact T hm fo x9 id (by rw[hcl0];simp only[AV.ids,cz];exact .inr (iI h7 J))) (i2 (by simp[H,tt])) hn
     refine⟨λK Q hK=>?_,O⟩;obtain⟨fn,i3,a1,x8⟩:=x7.fn;have G:(execOp a.eval o).run E.P w=.ok (.enter k (i0++c.args.toList.map a.eval++a9).toArray) w:=by
      simp only[execOp,H,resolve,h5,i8,Deferred.ofValue,cP,pO,nc,invoke,callFunc,run_program,i3,a1,x8,zE,zm];congr 2;apply kg;simp
     rw[Oper.wp,G];refine x3.mono λe w' ⟨v,U',ρ',he,S⟩=>?_
     grind
    .simp at B
   .simp at B
  .rename_i h5;split at B
   .rename_i x t Y x0;have hc:c.args.toList.length=1:=by have:=congrArg Io Y;simpa using this
    obtain⟨xo,x6⟩:∃xo,c.args.toList=[xo]:=List.length_eq_one_iff.1 hc;rw[x6]at Y;simp at Y;subst Y;obtain⟨r,v,rfl,G,hr⟩:=WX (P:=E.P) (w:=w) (U:=U) (ρ:=ρ) (ty:=o.type) B (I xo (N xo (by simp[x6]))) (λid J=>h0.ob id (T hm xo (N xo (by simp[x6])) id J));refine D r v rfl ?_ hr;have e1:c.args=#[xo]:=by apply kg;simpa using x6
    have e2:c.argTypes=#[t]:=by apply kg;simpa using x0
    simp[execOp,H,resolve,h5,invoke,builtin,e1,e2,G]
   .simp at B
  .rename_i h5;split at B
   .rename_i b x t t' Y x0;split at B
    .rename_i j1 j2 hu i7;have hc:c.args.toList.length=2:=by have:=congrArg Io Y;simpa using this
     obtain⟨bo,xo,h6⟩:∃bo xo,c.args.toList=[bo,xo]:=by
      match hl:c.args.toList,hc with
      |[p,q],_=>exact⟨p,q,rfl⟩
     rw[h6]at Y;simp at Y;obtain⟨rfl,rfl⟩:=Y;have i5:ρ n=Q2:=by
      have h1:f.nw.length=1:=by
       clear hn;unfold nu at B;repeat' split at B
       all_goals first
        |(simp at B;done)
        |(simp at B;obtain⟨_,rfl⟩:=B;rfl)
      simpa using hn 0 ow
     obtain⟨v,w',U',ρ',G,S,O⟩:=Ab hE.toEnvOk (w:=w) (U:=U) (ρ:=ρ) (t:=t) (t':=t') (ty:=o.type) B hu i7 (I bo (N bo (by simp[h6]))) (I xo (N xo (by simp[h6]))) X h0
      (λid J=>T hm bo (N bo (by simp[h6])) id J) (λid J=>T hm xo (N xo (by simp[h6])) id J) i5
     refine⟨λK Q hK=>eW ?_ (hK _ _ _ _ S),O⟩;have e1:c.args=#[bo,xo]:=by apply kg;simpa using h6
     have e2:c.argTypes=#[t,t']:=by apply kg;simpa using x0
     simp[execOp,H,resolve,h5,invoke,builtin,e1,e2,G]
    .simp at B
   .simp at B
  .rename_i h5;split at B
   .rename_i m k t t' Y x0;have hc:c.args.toList.length=2:=by have:=congrArg Io Y;simpa using this
    obtain⟨mo,ko,h6⟩:∃bo xo,c.args.toList=[bo,xo]:=by
     match hl:c.args.toList,hc with
     |[p,q],_=>exact⟨p,q,rfl⟩
    rw[h6]at Y;simp at Y;obtain⟨rfl,rfl⟩:=Y;obtain⟨w',G,S,O⟩:=LO (kt:=t') (ty:=o.type) (n:=n) B (I mo (N mo (by simp[h6]))) (I ko (N ko (by simp[h6]))) X h0 (λid J=>T hm mo (N mo (by simp[h6])) id J);refine⟨λK Q hK=>eW ?_ (hK _ _ _ _ S),O⟩;have e1:c.args=#[mo,ko]:=by apply kg;simpa using h6
    have e2:c.argTypes=#[t,t']:=by apply kg;simpa using x0
    simp[execOp,H,resolve,h5,invoke,builtin,e1,e2,G]
   .simp at B
  .simp at B
 case h_23 t H=>
  split at B
  .rename_i o0 x5;simp at B;subst B;have i6:o0=.fmap []\/(∃u,o0=.vmap u [])\/∃e,o0=.gmap e []:=by
    unfold Yt at x5;repeat' split at x5
    all_goals first
     |(rw[dt]at x5;obtain⟨e,_,rfl⟩:=x5;exact .inr (.inr ⟨e,rfl⟩))
     |simp_all
   refine⟨λK Q hK=>eW (v:=.map (Q1 w.heap.size)) (w':=w.alloc (.map #[] 0)) ?_ (hK _ _ _ _ (Ef.mkMap i6 X (by simpa using hn 0 sw))),sw⟩;simp[execOp,H,Instr.makeMap,newObj];rfl
  .simp at B
 case h_24 t m k x H=>
  obtain⟨w',G,S,O⟩:=Ac (n:=n) B (I m (by simp[H,Op.operands])) (I k (by simp[H,Op.operands])) (I x (by simp[H,Op.operands])) X h0 (λid J=>T (by simp[H,iM]) m (by simp[H,Op.operands]) id J);exact⟨λK Q hK=>qU (by simp[execOp,H,G]) (hK _ _ _ _ S),O⟩
 case h_25 t m k x H=>
  obtain⟨w',G,S,O⟩:=Ac (n:=n) B (I m (by simp[H,Op.operands])) (I k (by simp[H,Op.operands])) (I x (by simp[H,Op.operands])) X h0 (λid J=>T (by simp[H,iM]) m (by simp[H,Op.operands]) id J);exact⟨λK Q hK=>qU (by simp[execOp,H,G]) (hK _ _ _ _ S),O⟩
 case h_26 t x i two H=>
  obtain⟨r,v,rfl,G,hr⟩:=LP B (I x (by simp[H,Op.operands])) (I i (by simp[H,Op.operands])) (λid J=>h0.ob id (T (by simp[H,iM]) x (by simp[H,Op.operands]) id J));exact D r v rfl (by simp[execOp,H,G]) hr
 case h_27 t m k H=>
  obtain⟨v,w',G,S,O⟩:=OP (n:=n) B (I m (by simp[H,Op.operands])) (I k (by simp[H,Op.operands])) X h0 (λid J=>T (by simp[H,iM]) m (by simp[H,Op.operands]) id J);exact⟨λK Q hK=>eW (by simp[execOp,H,G]) (hK _ _ _ _ S),O⟩
 case h_28 t m s x H=>
  obtain⟨w',G,S,O⟩:=AK (P:=E.P) (t:=t) (n:=n) B (I m (by simp[H,Op.operands])) (I s (by simp[H,Op.operands])) (I x (by simp[H,Op.operands])) X h0 (λid J=>T (by simp[H,iM]) m (by simp[H,Op.operands]) id J);exact⟨λK Q hK=>qU (by simp[execOp,H,G]) (hK _ _ _ _ S),O⟩
 case h_29=>simp at B
end
structure eA where
 w0:World
 U0:Nat->Prop
 B0:Nat->Prop
 ρ0:Nat->Option Value
structure Wd (gl:Nat->AV) (C:eA) (w:World) (U:Nat->Prop):Prop where
 ext:kF C.w0 w
 same:∀b,b<C.w0.heap.size->¬C.B0 b->w.heap[b]?=C.w0.heap[b]?
 ub:∀b,U b->b<w.heap.size
 u1:∀b,b<C.w0.heap.size->U b->C.U0 b
 u2:∀b,b<C.w0.heap.size->C.U0 b->¬C.B0 b->U b
 gl:BO gl w U
structure gK (C:eA) (w:World) (U:Nat->Prop) (ρ:Nat->Option Value) (hp:Nat->AO):Prop where
 ob:∀id,bl w U ρ id (hp id)
 inj:∀id1 id2 b,af ρ id1 (hp id1) b->af ρ id2 (hp id2) b->id1=id2
 blk:∀id b,af ρ id (hp id) b->C.B0 b\/C.w0.heap.size<=b
section
variable {gl:Nat->AV} {C:eA} {w:World} {U:Nat->Prop} {ρ:Nat->Option Value}
variable {n:Nat}{h:Nat->AO}{v:Value}
theorem B4{hp hp':Nat->AO}{f:fM}{w':World}{U':Nat->Prop}{T:Nat->Option Value}(L:Wd gl C w U)(H:gK C w U ρ hp)(d:Ef n h f w U ρ v w' U' T)
  (F:∀id o,(id,o)∈f.wr->h id=hp id)
  (h1:∀id,(∃o,(id,o)∈f.wr)->∃o,(id,o)∈f.wr/\hp' id=o) (h2:∀(j:Nat) o,f.nw[j]?=Q1 o->hp' (n+j)=o)
  (h3:∀id,(¬∃o,(id,o)∈f.wr)->(id<n\/n+f.nw.length<=id)->hp' id=hp id):
  Wd gl C w' U'/\gK C w' U' T hp'/\∀{c:AV}{x:Value},Rv w U ρ c x->Rv w' U' T c x:=by
 have Z:∀id o b,(id,o)∈f.wr->af ρ id (h id) b->U b/\b<w.heap.size:=by
  intro id o b p y;rw[F id o p]at y;exact(H.ob id).inU y
 have hk:∀b,b<w.heap.size->¬U b->w'.heap[b]?=w.heap[b]?:=λb B hU=>d.same b B (λid o p y=>hU (Z id o b p y).1)
 have h6:∀{c:AV}{x:Value},Rv w U ρ c x->Rv w' U' T c x:=λa=>a.mono d.ext.sz hk d.u1 d.rhon
 have G:∀id,(∃o,(id,o)∈f.wr/\hp' id=o)\/(n<=id/\∃o,f.nw[id-n]?=Q1 o/\hp' id=o)\/((¬∃o,(id,o)∈f.wr)/\(id<n\/n+f.nw.length<=id)/\hp' id=hp id):=by
  intro id;by_cases hw:∃o,(id,o)∈f.wr
  .exact .inl (h1 id hw)
  .grind
 have J:∀id,(¬∃o,(id,o)∈f.wr)->∀b,af ρ id (hp id) b->b<w.heap.size/\∀q M,(q,M)∈f.wr->¬af ρ q (h q) b:=by
  intro id hw b y;refine⟨((H.ob id).inU y).2,λq M z A=>?_⟩;rw[F q M z]at A;have:=H.inj id q b y A;subst this;exact hw ⟨M,z⟩
 have m:∀id,(id<n\/n+f.nw.length<=id)->∀o b,af T id o b->af ρ id o b:=by
  rintro id p o b ⟨a,v,hv,B⟩;rw[d.rho id p]at hv;exact⟨a,v,hv,B⟩
 have t:∀id b,((∃o,(id,o)∈f.wr/\hp' id=o)\/(n<=id/\∃o,f.nw[id-n]?=Q1 o/\hp' id=o))->af T id (hp' id) b->
   w.heap.size<=b\/∃q M,(q,M)∈f.wr/\af ρ q (hp q) b:=by
  intro id b p y;have h8:((id,hp' id)∈f.wr\/(n<=id/\f.nw[id-n]?=Q1 (hp' id))):=by
   rcases p with⟨o,a,rfl⟩|⟨a,o,h',rfl⟩
   .exact .inl a
   .exact .inr ⟨a,h'⟩
  rcases d.own id _ b h8 y with a|⟨q,M,z,A⟩
  .exact .inl a
  .grind
 refine⟨⟨L.ext.trans d.ext,?_,d.ub,?_,?_,?_⟩,⟨?_,?_,?_⟩,h6⟩
 .intro b B hB;rw[d.same b (gF B L.ext.sz) (λid o p y=>?_)]
  .exact L.same b B hB
  .rw[F id o p]at y;rcases H.blk id b y with a|a
   .exact hB a
   .omega
 .intro b B hU;exact L.u1 b B (d.u1 b (gF B L.ext.sz) hU)
 .intro b B hU hB;refine d.u2 b (gF B L.ext.sz) (L.u2 b B hU hB) (λid o p y=>?_);rw[F id o p]at y;rcases H.blk id b y with a|a
  .exact hB a
  .omega
 .intro g;exact(L.gl g).mono d.ext.sz hk d.u1 (λ_ _ a=>by cases a)
 .intro id;rcases G id with⟨o,a,e⟩|⟨a,o,h',e⟩|⟨hw,p,e⟩
  .rw[e];exact d.wr id o a
  .rw[e];have:=d.nw (id-n) o h';simp_all
  .rw[e];refine(H.ob id).mono d.ext.sz hk d.u1 d.rhon (λb y=>?_);obtain⟨B,Y⟩:=J id hw b y;exact⟨d.same b B Y,d.u2 b B ((H.ob id).inU y).1 Y⟩
 .intro l i b u s;have I:=G l;have S:=G i
  have h7:∀l i,((∃o,(l,o)∈f.wr/\hp' l=o)\/(n<=l/\∃o,f.nw[l-n]?=Q1 o/\hp' l=o))->
    ((¬∃o,(i,o)∈f.wr)/\(i<n\/n+f.nw.length<=i)/\hp' i=hp i)->af T l (hp' l) b->af T i (hp' i) b->False:=by
   intro l i I ⟨hw,p,e⟩ u s;rw[e]at s;have h5:=m i p _ b s;obtain⟨B,Y⟩:=J i hw b h5;rcases t l b I u with a|⟨q,M,z,A⟩
   .omega
   .grind
  rcases I with I|I|I<;>rcases S with S|S|S
  .obtain⟨o1,D,N⟩:=I;obtain⟨o2,E,O⟩:=S;rw[N]at u;rw[O]at s;exact d.inj l o1 i o2 b (.inl D) (.inl E) u s
  .obtain⟨o1,D,N⟩:=I;obtain⟨X,o2,E,O⟩:=S;rw[N]at u;rw[O]at s;exact d.inj l o1 i o2 b (.inl D) (.inr ⟨X,E⟩) u s
  .grind
  .obtain⟨W,o1,D,N⟩:=I;obtain⟨o2,E,O⟩:=S;rw[N]at u;rw[O]at s;exact d.inj l o1 i o2 b (.inr ⟨W,D⟩) (.inl E) u s
  .obtain⟨W,o1,D,N⟩:=I;obtain⟨X,o2,E,O⟩:=S;rw[N]at u;rw[O]at s;exact d.inj l o1 i o2 b (.inr ⟨W,D⟩) (.inr ⟨X,E⟩) u s
  .grind
  .grind
  .grind
  .obtain⟨_,h0,N⟩:=I;obtain⟨_,h4,O⟩:=S;rw[N]at u;rw[O]at s;exact H.inj l i b (m l h0 _ b u) (m i h4 _ b s)
 .intro id b y;rcases G id with k|k|⟨_,p,e⟩
  .rcases t id b (.inl k) y with a|⟨q,M,z,A⟩
   .exact .inr (aT L.ext.sz a)
   .exact H.blk q b A
  .rcases t id b (.inr k) y with a|⟨q,M,z,A⟩
   .exact .inr (aT L.ext.sz a)
   .exact H.blk q b A
  .rw[e]at y;exact H.blk id b (m id p _ b y)
structure AD (C:eA) (st:RS) (a:Act) (w:World) (U:Nat->Prop) (ρ:Nat->Option Value):Prop where
 tm:dg w U ρ st.tmps a.tmps.toList
 hp:gK C w U ρ st.hp
 new:∀id,st.heap.length<=id->ρ id=Q2
 kn:∀d b,st.known.lookup d=Q1 b->a.tmps[d]?=Q1 (.bool b)
 df:a.defers=[]
 r0:∀id v,C.ρ0 id=Q1 v->ρ id=Q1 v
variable {E:cg}{tmps:List AV}{known:List (Nat×Bool)}{x:Act}
theorem IG(e:dg w U ρ tmps x.tmps.toList)(j:∀d b,known.lookup d=Q1 b->x.tmps[d]?=Q1 (.bool b))(i:BO E.gl w U)(a:Operand):
  Rv w U ρ (wJ E tmps known a) (x.eval a):=by
 cases a with
 | tmp t=>
  simp only[wJ,Act.eval];cases n:known.lookup t with
  | some b=>
   have:=j t b n;simp only[pC,this,bT];exact .kb b
  | none=>
   by_cases l:t<Io tmps
   .have c:t<x.tmps.toList.length:=by rw[<-e.len];exact l
    have m:x.tmps.getD t undef=x.tmps.toList[t]:=by
     simp only[Array.length_toList]at c;simp[Array.getD,c]
    rw[m];exact e.rv t _ _ (by simp_all) (z6 c)
   .rw[aY,eZ (Nat.le_of_not_lt l)];exact .any _
 |const v=>exact qZ v
 |global g=>exact(i g).mono (ah _) (λ_ _ _=>rfl) (λ_ _ h=>h) (λ_ _ h=>by cases h)
 |func f=>simp only[wJ,Act.eval];exact .clo (.func f) [] [] [] [] rfl rfl sw sw
theorem bX:∀(wr:List (Nat×AO))(h:List AO),(og h wr).length=Io h
 |[],_=>rfl
 |(i,o)::r,h=>by simp[og,bX r]
theorem sr:∀(wr:List (Nat×AO))(h:List AO)(id:Nat),(¬∃o,(id,o)∈wr)->(og h wr).getD id .dead=h.getD id .dead
 |[],_,_,_=>rfl
 | (i,o)::r,h,id,hn=>by
  rw[og,sr r _ id (λ⟨a,x⟩=>hn ⟨a,by simp[x]⟩)];grind
theorem su:∀(wr:List (Nat×AO))(h:List AO)(id:Nat),(∀p∈wr,p.1<Io h)->(∃o,(id,o)∈wr)->∃o,(id,o)∈wr/\(og h wr).getD id .dead=o
 |[],_,_,_,⟨_,h⟩=>by simp at h
 | (i,o)::r,h,id,hl,hex=>by
  by_cases b:∃o,(id,o)∈r
  .obtain⟨a,c,d⟩:=su r (h.set i o) id (λp e=>by grind) b;exact⟨a,by simp[c],d⟩
  .obtain⟨a,x⟩:=hex;simp only[b8,cd]at x;rcases x with⟨rfl,rfl⟩|x
   .refine⟨a,sw,?_⟩;rw[og,sr r _ _ b];simp_all
   .exact(b ⟨a,x⟩).elim
theorem mw{d:Option Tmp}{c:AV}(h:dg w U ρ tmps x.tmps.toList)(l:Rv w U ρ c v):dg w U ρ (mf tmps d c) (x.put d v).tmps.toList:=by
 cases d with
 |none=>exact h
 | some d=>
  simp only[mf,Act.put];refine⟨by simp[h.len],λj e i b a=>?_⟩;simp only[Array.toList_setIfInBounds]at a;by_cases g:d=j
  .grind
  .rw[BW g]at b a;exact h.rv j e i b a
theorem G5{u:Option Tmp}(h:∀u b,known.lookup u=Q1 b->x.tmps[u]?=Q1 (.bool b)):
  ∀d b,(tL known u).lookup d=Q1 b->(x.put u v).tmps[d]?=Q1 (.bool b):=by
 intro d b a;cases u with
 |none=>exact h d b a
 | some u=>
  simp only[tL]at a;have c:∀(k:List (Nat×Bool)),(k.filter λp=>p.1!=u).lookup d=Q1 b->d≠u/\k.lookup d=Q1 b:=by
   intro k
   induction k with
   |nil=>simp
   | cons p k i=>
    grind
  obtain⟨e,g⟩:=c known a;simp only[Act.put];grind
variable {o:Oper}
theorem De{j:Operand->AV}(a:L5 h j o=Q3):
  (iM o.op=Q3->∀x∈o.op.operands.toList,∀id∈(j x).ids,id∈uY h j o)/\(tt o.op=Q3->∀id∈uY h j o,∀b∈(h id).ids,b∈uY h j o):=by
 unfold L5 at a;constructor
 .intro c x g id hid;simp only[c,cm,yN,aE,dQ,FZ]at a;exact a.1 id (iI (List.mem_map_of_mem g) hid)
 .intro c id hid b hj;have d:iM o.op=Q3:=by
   cases e:o.op<;>rw[e]at c<;>simp_all[tt,iM]
  grind
variable {s:RS}
theorem A5(T:zw E){M:RS}{a:Act}(h:(FA E o s).val=Q1 M)(e:AD C s a w U ρ)(n:Wd E.gl C w U)
  (K:Act->World->Prop) (Q:Exit->Act->World->Prop) (W:∀J q l I,AD C M J q l I->Wd E.gl C q l->K J q):o.wp E.P a w K Q:=by
 unfold FA at h;split at h
 .rename_i A;simp only[Tr.val_bind,fO]at h;obtain⟨f,X,h⟩:=h;split at h
  .rename_i g;simp at h;subst h;obtain⟨B,y⟩:=De A;have Z:∀j,j<f.nw.length->ρ (s.heap.length+j)=Q2:=λj _=>e.new _ ow
   obtain⟨F,h0⟩:=GW T (w:=w) (U:=U) (ρ:=ρ) (a:=a) (fp:=uY s.hp (wJ E s.tmps s.known) o) X (λx _=>IG e.tm e.kn n.gl x) n.ub n.gl
    ⟨λid _=>e.hp.ob id,λG _ H _ b=>e.hp.inj G H b⟩ B y Z
   refine F K Q (λv q l I i=>?_);simp only[dQ,aE,aQ]at g
   replace g:∀p∈f.wr,p.1<s.heap.length:=λp hp=>(g p hp).1
   have N:=su f.wr s.heap
   obtain⟨u,t,m⟩:=B4 (hp':=λid=>(og s.heap f.wr++f.nw).getD id .dead) n e.hp i (λ_ _ _=>rfl)
    (λid z=>by
     obtain⟨O,L,S⟩:=su f.wr s.heap id g z;refine⟨O,L,?_⟩;have:id<s.heap.length:=g _ L;rw[aY,kG (by rw[bX];exact this),<-aY];exact S)
    (λj O Y=>by
     rw[aY,jg (by rw[bX];omega),bX,show s.heap.length+j-s.heap.length=j by omega,Y];rfl)
    (λid D d=>by
     rcases d with d|d
     .rw[aY,kG (by rw[bX];exact d),<-aY];exact sr f.wr s.heap id D
     .simp only[RS.hp];rw[aY,aY,eZ (by simp[bX];omega),eZ ow])
   refine W _ _ l I ⟨mw ⟨e.tm.len,λj c x hx hv=>m (e.tm.rv j c x hx hv)⟩ i.val,t,?_,G5 e.kn,?_,λid v h=>i.rhon id v (e.r0 id v h)⟩ u
   .intro id d;simp only[ik,bX]at d;rw[i.rho id (.inr d)];exact e.new id ow
   .cases hd:o.dst<;>simp[Act.put,e.df]
  .simp at h
 .simp at h
theorem nV(h:AD C s x w U ρ):AD C (mP o s) (x.put o.dst undef) w U ρ:=by refine⟨mw h.tm (.tup [] [] rfl sw),h.hp,h.new,G5 h.kn,?_,h.r0⟩;cases a:o.dst<;>simp[Act.put,h.df]
variable {l:List Oper}
theorem Xf(o:AD C s x w U ρ)(j:BO E.gl w U){B:Nat}(q:(l[n]?).bind (·.dst)=Q1 B):
  (∀b,wJ E s.tmps s.known (.tmp B)=.kb b->yielded l.toArray x.tmps n=Q1 b/\x.tmps[B]?=Q1 (.bool b))/\
  (∀b,wJ E s.tmps s.known (.tmp B)=.bool b->yielded l.toArray x.tmps n=Q1 b/\x.tmps[B]?=Q1 (.bool b))/\
  (∀p,wJ E s.tmps s.known (.tmp B)=.tup p->yielded l.toArray x.tmps n=Q2):=by
 have a:=IG (E:=E) o.tm o.kn j (.tmp B);have g:(l.toArray[n]?).bind (·.dst)=Q1 B:=by simpa using q
 have c:∀b,x.eval (.tmp B)=.bool b->yielded l.toArray x.tmps n=Q1 b/\x.tmps[B]?=Q1 (.bool b):=by
  intro b d;simp only[Act.eval,pC]at d;have:x.tmps[B]?=Q1 (.bool b):=by
   cases i:x.tmps[B]? with
   |none=>rw[i]at d;simp[undef]at d
   |some v=>rw[i]at d;simp at d;rw[d]
  exact⟨by unfold yielded;rw[g];simp[this],this⟩
 refine⟨λb d=>?_,λb d=>?_,λp m=>?_⟩
 .rw[d]at a;generalize e:x.eval (.tmp B)=h at a;cases a;exact c b e
 .rw[d]at a;generalize e:x.eval (.tmp B)=h at a;cases a;exact c b e
 .rw[m]at a;generalize e:x.eval (.tmp B)=h at a;cases a with
  |tup _ t _ _=>
  simp only[Act.eval,pC]at e;cases i:x.tmps[B]? with
  |none=>unfold yielded;rw[g];simp[i]
  |some v=>rw[i]at e;simp at e;subst e;unfold yielded;rw[g];simp[i]
theorem oM{z:Bool}(a:AD C s x w U ρ)(c:x.tmps[n]?=Q1 (.bool z)):AD C {s with known:=(n,z)::s.known} x w U ρ:=by
 refine⟨a.tm,a.hp,a.new,λd b h=>?_,a.df,a.r0⟩;rw[List.lookup_cons]at h;split at h
 .simp_all
 .exact a.kn d b h
theorem HO(q:zw E){M:RS}(h:(uf E l s o).val=Q1 M)(e:AD C s x w U ρ)(c:Wd E.gl C w U)
  (K:Act->World->Prop) (Q:Exit->Act->World->Prop) (g:∀G D F I,AD C M G D F I->Wd E.gl C D F->K G D):
  if Region.wanted o (yielded l.toArray x.tmps)then o.wp E.P x w K Q\/(o.asks E.P x w/\LetsOut Q)else K (x.put o.dst undef) w:=by
 unfold uf at h;split at h
 next n=>simp only[Region.wanted,n,zh];exact .inl (A5 q h e c K Q g)
 .rename_i j m n;split at h
  .rename_i v;simp at h;subst h;have p:yielded l.toArray x.tmps j=Q2:=by
    have y:(l.toArray[j]?).bind (·.dst)=Q2:=by simpa using v
    unfold yielded;rw[y];rfl
   simp only[Region.wanted,n,p];rw[zg sw];exact g _ _ U ρ (nV e) c
  .rename_i d v;obtain⟨z,u,A⟩:=Xf (E:=E) e c.gl v;split at h
   .rename_i b t;obtain⟨p,_⟩:=z b t;simp only[Region.wanted,n,p];split at h
    next i=>simp at i;subst i;rw[ze sw];exact .inl (A5 q h e c K Q g)
    next i=>simp at h;subst h;rw[zg (by simpa using i)];exact g _ _ U ρ (nV e) c
   next H B=>simp at h;subst h;simp only[Region.wanted,n,A H B];rw[zg sw];exact g _ _ U ρ (nV e) c
   .rename_i b t;obtain⟨p,a⟩:=u b t;simp only[Region.wanted,n,p];cases b
    .simp only[Tr.val,zE,zm]at h;cases m
     .simp only[zE,zm]at h;rw[ze sw];exact .inl (A5 q h (oM e a) c K Q g)
     .simp at h;subst h;rw[zg sw];exact g _ _ U ρ (nV (oM e a)) c
    .simp only[Tr.val,zh]at h;cases m
     .simp at h;subst h;rw[zg sw];exact g _ _ U ρ (nV (oM e a)) c
     .simp only[zh]at h;rw[ze sw];exact .inl (A5 q h (oM e a) c K Q g)
   .simp at h
theorem C4{E:cg}(t:zw E){l:List Oper}{Q:Exit->Act->World->Prop}{s:RS}(u:∀e c d q,AD C s e c d q->Wd E.gl C c d->Q .normal e c):
  ∀(r:List Oper)(k:Nat)(g:RS)(a:Act)(w:World)(U:Nat->Prop)(ρ:Nat->Option Value),r=l.drop k->(bU E l r g).val=Q1 s->AD C g a w U ρ->Wd E.gl C w U->
   wpOps E.P l.toArray Q (List.range' k (Io r)) a w
 | [],k,g,a,w,U,ρ,_,h,m,i=>by
  simp[bU]at h;subst h;exact u a w U ρ m i
 | o::r,k,g,a,w,U,ρ,hr,h,m,i=>by
  simp only[bU,Tr.val_bind,fO]at h;obtain⟨p,v,y⟩:=h;have b:l.toArray[k]?=Q1 o:=by
   have:l[k]?=Q1 o:=by
    have:=congrArg (·[0]?) hr;simpa[BY]using this.symm
   simpa using this
  have x:r=l.drop (k+1):=by
   have:=congrArg List.tail hr;simpa using this
  simp only[eJ,List.range'_succ,wpOps,b];exact HO t v m i _ _ (λe c d q n j=>C4 t u r (k+1) p e c d q x y n j)
end
end Cad
