/- What each operation says. -/
import Derived.Test.YtjdjldbhjmgmkaaGreatDoorN03
namespace Cad
open Go
open List renaming length->N
open Tr renaming val->Q8
open Bool renaming false->Q4,false->M,true->Z
open Option renaming none->Q2,some->Q1,some->Y
open Tr (chk br)
open AV (nils agg tup ptr kb str sl)
open AV renaming sl->O
open Cad renaming ow->S,Sem->L
section
variable {P:Program} {w:World} {U:Nat->Prop} {ρ:Nat->Option Value}
theorem DJ(a b:zN):((⟨a.toArray⟩:ByteArray)==⟨b.toArray⟩)=(a==b):=by show(a.toArray==b.toArray)=(a==b);simp
abbrev AT(es:List (zN×AV)):List Value:=es.map λp=>Value.string ⟨p.1.toArray⟩
theorem Jp:∀(es:List (zN×AV))(ents:List MapEntry)(s:zN)(i:Nat),ents.map (·.key)=AT es->es.any (λp=>p.1==s)=M->
  Instr.findNow .string (.string ⟨s.toArray⟩) ents i=Y Q2
 |[],[],_,_,_,_=>rfl
 |[],_::_,_,_,h,_=>by simp at h
 |_::_,[],_,_,h,_=>by simp at h
 | p::es,e::ents,s,i,h,hn=>by
  simp only[AT,er,BJ]at h;simp only[List.any_cons,Bool.or_eq_false_iff]at hn;have x:(s==p.1)=M:=by
   have:=hn.1;simp only[dM,ne_eq]at this|-;exact λe=>this e.symm
  simp only[Instr.findNow,h.1,Instr.sameNow,DJ,x];exact Jp es ents s (i+1) h.2 hn.2
theorem Jo:∀(es:List (zN×AV))(ents:List MapEntry)(s:zN)(i:Nat)(z:Tr gB)(f:gB),ents.map (·.key)=AT es->dn w U ρ (es.map (·.2)) (ents.map (·.val))->(T6 es s z).val=Y f->
  (∃j v a,Instr.findNow .string (.string ⟨s.toArray⟩) ents i=Y (Y (j,v))/\Rv w U ρ a v/\f={val:=a})\/(Instr.findNow .string (.string ⟨s.toArray⟩) ents i=Y Q2/\z.val=Y f)
 |[],[],_,_,_,_,_,_,x=>.inr ⟨rfl,x⟩
 |[],_::_,_,_,_,_,h,_,_=>by simp at h
 |_::_,[],_,_,_,_,h,_,_=>by simp at h
 | p::es,e::ents,s,i,z,f,h,hr,x=>by
  simp only[AT,er,BJ]at h;have⟨k,a⟩:=p;simp only[T6,Q8]at x;simp only[Instr.findNow,h.1,Instr.sameNow,DJ];cases d:s==k with
  | true=>
   rw[d]at x;simp[ret]at x;subst x;exact .inl ⟨i,e.val,a,rfl,hr.rv 0 a e.val rfl rfl,rfl⟩
  | false=>
   rw[d]at x;simp at x;refine Jo es ents s (i+1) z f h.2 ⟨by have:=hr.len;simpa using this,λj c v g b=>hr.rv (j+1) c v (by simpa using g) (by simpa using b)⟩ x
theorem lz.allocO(w:World)(o:Obj):lz w (w.alloc o) where
 sz:=by rw[bE];omega
 os:=rfl
 out:=rfl
 tape:=rfl
 fr:=λa h=>BF (bQ w _ _ h)
variable {n:Nat}{h:Nat->AO}
theorem Ef.mkMap{c:AO}(i:c=.fmap []\/(∃u,c=.vmap u [])\/∃e,c=.gmap e [])(p:∀b,U b->b<w.heap.size)(l:ρ n=Q2):
  Ef n h {val:=.mp n,nw:=[c]} w U ρ (.map (Y w.heap.size)) (w.alloc (.map #[] 0)) (λb=>U b\/b=w.heap.size) (kz ρ n (.map (Y w.heap.size))):=by
 have m:∀b,b<w.heap.size->(U b\/b=w.heap.size)->U b:=λb a x=>x.elim id (λe=>by omega)
 refine⟨lz.allocO w _,.mp n _ (by simp[kz]) rfl,sw,?_,?_,fK l,λb a _=>bQ w _ b a,?_,λb a x=>m b a x,λb _ x _=>.inl x,?_,?_⟩
 .intro j o g;cases j with
  |succ j=>simp at g
  | zero=>
   simp at g;subst g;rcases i with rfl|⟨u,rfl⟩|⟨e,rfl⟩
   .exact⟨w.heap.size,#[],0,by simp[kz],.inr rfl,cT w _,⟨rfl,sw⟩,rfl⟩
   .exact⟨w.heap.size,#[],0,by simp[kz],.inr rfl,cT w _,rfl,sw,rfl,sw⟩
   .exact⟨w.heap.size,#[],0,[],by simp[kz],.inr rfl,cT w _,⟨rfl,sw⟩,rfl,rfl,sw⟩
 .grind[kz]
 .intro b x;rw[bE];grind
 .rintro id o b (x|⟨h1,h2⟩) ho
  .simp at x
  .have q:id-n<1:=by have:=(dF.1 h2).1;simpa using this
   have d:id=n:=by omega
   subst d;have⟨_,v,s,a⟩:=ho;grind[kz,cf]
 grind
/-! zdY that are values. -/
def kav(k:Int×Int×zN):AV:=.agg [.int .i64 k.1,.int .i64 k.2.1,.str k.q]
variable {c:AV}{k:Int×Int×zN}
theorem yW(h:S0 c=Y k):c=kav k:=by
 unfold S0 at h;split at h
 .cases h;rfl
 .cases h
variable {v:Value}
theorem AS(h:Rv w U ρ (kav k) v):v=cR k/\eV k:=by
 unfold kav at h;cases h with
 |agg _ l c m x=>
 match l,c,x with
 | [i,j,v3],_,x=>
  have e:=x 0 _ i rfl rfl;have a:=x 1 _ j rfl rfl;have b:=x 2 _ v3 rfl rfl;cases e with
  |int _ _ q=>
  cases a with
  |int _ _ d=>
  cases b with
  |str _ g=>
  exact⟨rfl,q,d,g⟩
theorem zb0(h:eV k):Rv w U ρ (kav k) (cR k):=by
 refine .agg _ [.int .i64 k.1,.int .i64 k.2.1,.string ⟨k.q.toArray⟩] rfl (by simp[Value.oneCell']) ?_;intro j c v x a
 match j,x,a with
 |0,x,a=>cases x;cases a;exact .int _ _ h.1
 |1,x,a=>cases x;cases a;exact .int _ _ h.2.1
 |2,x,a=>cases x;cases a;exact .str _ h.q
variable {kt:TypeId}
theorem zcz(h:ij P kt=Z)(a b:Int×Int×zN):eqA P kt (kav a) (kav b)=Y (a==b):=by
 unfold ij at h;split at h
 .rename_i y j;simp only[aO]at h;have⟨⟨g,i⟩,x⟩:=h;split at x
  .rename_i q s v c;simp only[aO,bX,Lb,RT]at x;have⟨⟨⟨⟨n,o1⟩,t⟩,⟨⟨l,o2⟩,d⟩⟩,⟨⟨m,o3⟩,e⟩⟩:=x;split at t
   .rename_i z u;split at d
    .rename_i A o;split at e
     next p=>simp only[kav,eqA,j,g,i,c,HL,n,o1,l,o2,m,o3,eqT,u,o,p,beq_self_eq_true,nu,zi,Bool.and_true];rfl
     .cases e
    .cases d
   .cases t
  .cases x
 .cases h
theorem Ck(h:ij P kt=Z){a b:Int×Int×zN}(x:eV a)(c:eV b):(Op.equal kt (cR a) (cR b)).run P w=.ok (a==b) w:=
 (Rw (U:=λ_=>False) (ρ:=λ_=>Q2) (zcz h a b) (zb0 x) (zb0 c) (by intro _ _ _ _ h;cases h) (by intro _ _ h;cases h)).1
theorem bP(h:ij P kt=Z)(k:Int×Int×zN)(x:Bool):(Instr.checkKey x 10000 kt (cR k)).run P w=.ok () w:=by
 unfold ij at h;split at h
 .rename_i s D;simp only[aO]at h;have⟨⟨A,B⟩,d⟩:=h;split at d
  .rename_i a b c g;simp only[aO,bX,Lb,RT]at d;have⟨⟨⟨⟨G,o1⟩,t⟩,⟨⟨H,o2⟩,i⟩⟩,⟨⟨n3,o3⟩,j⟩⟩:=d;split at t
   .rename_i E u;split at i
    .rename_i F l;split at j
     .rename_i m;have e:s=#[a,b,c]:=by apply kZ;simpa using g
      subst e;have n:Ho P a.type=Y M:=by simp[Ho,u]
      have o:Ho P b.type=Y M:=by simp[Ho,l]
      have p:Ho P c.type=Y M:=by simp[Ho,m]
      show(Instr.checkKey x (9999+1) kt (cR k)).run P w=_;rw[Instr.checkKey.eq_2];have p1:(part a.type #[Value.int .i64 k.1,.int .i64 k.2.1,.string ⟨k.q.toArray⟩] a.offset).run P w=.ok (.int .i64 k.1) w:=by simp[part,kQ n,o1]
      have p2:(part b.type #[Value.int .i64 k.1,.int .i64 k.2.1,.string ⟨k.q.toArray⟩] b.offset).run P w=.ok (.int .i64 k.2.1) w:=by simp[part,kQ o,o2]
      have p3:(part c.type #[Value.int .i64 k.1,.int .i64 k.2.1,.string ⟨k.q.toArray⟩] c.offset).run P w=.ok (.string ⟨k.q.toArray⟩) w:=by simp[part,kQ p,o3]
      have v:(Instr.checkKey x (9998+1) a.type (.int .i64 k.1)).run P w=.ok () w:=by
       rw[Instr.checkKey.eq_2];simp[bN u,Result.andThen]
      have y:(Instr.checkKey x (9998+1) b.type (.int .i64 k.2.1)).run P w=.ok () w:=by
       rw[Instr.checkKey.eq_2];simp[bN l,Result.andThen]
      have z:(Instr.checkKey x (9998+1) c.type (.string ⟨k.q.toArray⟩)).run P w=.ok () w:=by
       rw[Instr.checkKey.eq_2];simp[bN m,Result.andThen]
      simp_all[cR,bN]
     .cases j
    .cases i
   .cases t
  .cases d
 .cases h
def dc(es:List ((Int×Int×zN)×Int))(k:Int×Int×zN)(i:Nat):Option (Nat×Int):=match es with
 |[]=>Q2
 |p::r=>bif k==p.1 then Y (i,p.2)else dc r k (i+1)
abbrev HK(u:Bool)(es:List ((Int×Int×zN)×Int)):List (Value×Value):=es.map λp=>(cR p.1,w9 u p.2)
theorem po{kt:TypeId}(h:ij P kt=Z){k:Int×Int×zN}(x:eV k)(u:Bool):∀(es:List ((Int×Int×zN)×Int))(ents:List MapEntry)(i:Nat),(ents.map λe=>(e.key,e.val))=HK u es->(∀p∈es,dw .i64 p.2/\eV p.1)->
  (Instr.findAsking kt (cR k) ents i).run P w=.ok ((dc es k i).map λq=>(q.1,w9 u q.2)) w
 |[],[],_,_,_=>by simp[Instr.findAsking,dc]
 |[],_::_,_,h,_=>by simp at h
 |_::_,[],_,h,_=>by simp at h
 | p::es,e::ents,i,he,ho=>by
  simp only[HK,er,BJ,cQ]at he;have⟨⟨b,c⟩,d⟩:=he;have g:=ho p (uO ..);have j:=po h x u es ents (i+1) d (λq a=>ho q (np _ a));simp only[Instr.findAsking,b,dB,Ck h x g.2,qJ,dc];cases a:k==p.1
  .simpa using j
  .simp[c]
theorem kv(h:ij P kt=Z)(d:eV k)(u:Bool)(es:List ((Int×Int×zN)×Int))(ents:List MapEntry)(b:(ents.map λe=>(e.key,e.val))=HK u es)(g:∀p∈es,dw .i64 p.2/\eV p.1):
  (Instr.findKey kt (cR k) ents).run P w=.ok ((dc es k 0).map λq=>(q.1,w9 u q.2)) w:=by
 have a:∃x,P.underlying kt=Y (.struct x):=by
  unfold ij at h;split at h
  next x a=>exact⟨x,a⟩
  .cases h
 have⟨x,a⟩:=a;have c:=po (w:=w) h d u es ents 0 b g;cases ents with
 | nil=>
  cases es with
  |nil=>simp[Instr.findKey,bN a,Result.andThen,Instr.findNow,dc]
  |cons p r=>simp at b
 | cons e r=>
  have i:Instr.findNow (.struct x) (cR k) (e::r) 0=Q2:=by
   simp only[Instr.findNow];have:Instr.sameNow (.struct x) (cR k) e.key=Q2:=by simp[Instr.sameNow]
   rw[this]
  simp only[Instr.findKey,dB,bN a,qJ,i];exact c
theorem mV:∀{es:List ((Int×Int×zN)×Int)}{k:Int×Int×zN}{i:Nat},dc es k i=Q2->qF es k=M/\iw es k=0/\∀x,lN es k x=es++[(k,x)]
 |[],_,_,_=>⟨rfl,rfl,λ_=>rfl⟩
 | p::r,k,i,h=>by
  unfold dc at h;cases a:k==p.1
  .rw[a]at h;obtain⟨b,c,d⟩:=mV (i:=i+1) (by simpa using h);grind[qF,iw,lN]
  .rw[a]at h;cases h
theorem mW:∀{es:List ((Int×Int×zN)×Int)}{k:Int×Int×zN}{i j:Nat}{n:Int},dc es k i=Y (j,n)->i<=j/\qF es k=Z/\iw es k=n/\(∃p,es[j-i]?=Y p/\p.1=k/\p.2=n)/\∀x,lN es k x=es.set (j-i) (k,x)
 |[],_,_,_,_,h=>by cases h
 | p::r,k,i,j,n,h=>by
  unfold dc at h;cases a:k==p.1
  .rw[a]at h;obtain⟨b,c,d,⟨q,l,m⟩,g⟩:=mW (i:=i+1) (by simpa using h);have e:j-i=(j-(i+1))+1:=by omega
   grind[qF,iw,lN]
  simp_all[qF,iw,lN]
theorem oh(k:Int×Int×zN):Instr.sameBits 10000 (cR k) (cR k)=Z:=by show Instr.sameBits (9999+1) (cR k) (cR k)=Z;simp[cR,Instr.sameBits,DJ]
variable {ents:Array MapEntry}{clock:Nat}
theorem Ef.setMap{id r:Nat}{e:Array MapEntry}{d:Nat}{o':AO}(y:ρ id=Y (.map (Y r)))(_:U r)(l:w.heap[r]?=Y (.map ents clock))(g:(h id).owns=Z)
  (A:bz {w with heap:=w.heap.setIfInBounds r (.map e d)} U ρ id o') (B:∀b,U b->b<w.heap.size) {rv:AV}  (p:Rv {w with heap:=w.heap.setIfInBounds r (.map e d)} U ρ rv v):
  Ef n h {val:=rv,wr:=[(id,o')]} w U ρ v {w with heap:=w.heap.setIfInBounds r (.map e d)} U ρ:=by
 have⟨t,u⟩:=oD (o':=Obj.map e d) l;have s:r<w.heap.size:=(mZ.1 l).1;have o:ar ρ id (h id) r:=⟨g,_,y,rfl⟩;refine⟨⟨sw,rfl,rfl,rfl,?_⟩,p,?_,sw,λ_ _=>rfl,λ_ _ x=>x,?_,?_,λ_ _ x=>x,λ_ _ x _=>x,?_,?_⟩
 .intro a _;by_cases i:a.block=r
  .unfold World.frozen?;simp only[i,t,l]
  .exact BF (u a.block i)
 .simp_all
 .grind
 .simp_all
 .rintro q E b (j|⟨_,j⟩) m
  .simp only[fb,cQ]at j;obtain⟨rfl,rfl⟩:=j;refine .inr ⟨q,_,fb.2 rfl,?_⟩;have⟨_,c,D,z⟩:=m;exact⟨g,c,D,z⟩
  .simp at j
 simp_all
variable {D:Int}
theorem zgP{u:Bool}(h:zpf u c=Y D)(x:Rv w U ρ c v):v=w9 u D/\dw .i64 D:=by
 unfold zpf at h;split at h
 .cases h;cases x with
  |int _ _ a=>exact⟨rfl,a⟩
 .cases h;cases x with
  |agg _ d b a x=>
  match d,b with
  |[],_=>exact⟨rfl,by unfold dw;decide⟩
 .cases h
theorem nj.push(h:nj ents clock)(k v:Value):nj (ents.push {key:=k,val:=v,born:=clock}) (clock+1):=by
 refine⟨by simp[h.1],λi e x=>?_⟩;rw[Array.getElem?_push]at x;split at x
 next a=>cases x;rw[a];exact h.1
 .exact h.2 i e x
theorem nj.modify(h:nj ents clock)(j:Nat)(f:MapEntry->MapEntry)(b:∀e,(f e).born=e.born):nj (ents.modify j f) clock:=by
 refine⟨by simp[h.1],λi e x=>?_⟩;rw[uN]at x;split at x
 .cases a:ents[i]? with
  |none=>rw[a]at x;simp at x
  | some e0=>
   rw[a]at x;simp at x;subst x;rw[b];exact h.2 i e0 a
 .exact h.2 i e x
variable {t:TypeId}{q:AV}{y H:Value}{f:gB}{i:List Nat}
theorem BX{ax:AV}(x:(xi P h t c q ax).val=some f)
  (hm:Rv w U ρ c v) (hk:Rv w U ρ q y) (hx:Rv w U ρ ax H) (x9:∀b,U b->b<w.heap.size) (x4:DO w U ρ h i) (x5:∀id∈c.ids,id∈i):
  ∃w',(Instr.mapUpdate t v y H).run P w=.ok () w'/\Ef n h f w U ρ undef w' U ρ/\∀id o,(id,o)∈f.wr->id∈i:=by
 unfold xi at x;split at x
 .rename_i kt et ht;split at x
  .rename_i x7;split at x
   .rename_i id s;have h8:=x5 id (by simp[AV.ids]);have ho:=x4.ob id h8;split at x
    .rename_i es A;simp only[Q8]at x;split at x
     .rename_i D;simp only[uP]at D;simp only[bH]at x;subst x;rw[A]at ho;have⟨r,ents,clock,h1,h2,z,h4,h5⟩:=ho;cases hm with
      |mp _ _ hv _=>
      rw[h1]at hv;cases hv;cases hk with
      |str _ hs=>
      have hf:=Jp es ents.toList s 0 h5 D;have⟨e1,e2⟩:=oD (o':=Obj.map (ents.push {key:=.string ⟨s.toArray⟩,val:=H,born:=clock}) (clock+1)) z;have a8:r<w.heap.size:=(mZ.1 z).1;have E:ar ρ id (h id) r:=⟨by rw[A];rfl,_,h1,rfl⟩;have x6:∀b',b'<w.heap.size->¬U b'->(w.heap.setIfInBounds r (Obj.map (ents.push {key:=.string ⟨s.toArray⟩,val:=H,born:=clock}) (clock+1)))[b']?=w.heap[b']?:=λb' _ a0=>e2 b' (λe=>a0 (e▸h2))
      refine⟨{w with heap:=w.heap.setIfInBounds r (.map (ents.push {key:=.string ⟨s.toArray⟩,val:=H,born:=clock}) (clock+1))},?_,?_,?_⟩
      .simp[Instr.mapUpdate,bN ht,ic z,Nv x7 (k:=.string ⟨s.toArray⟩) trivial,Nw x7 hf,oA _ z,Result.andThen]
      .refine⟨⟨sw,rfl,rfl,rfl,?_⟩,.tup [] [] rfl sw,?_,sw,λ_ _=>rfl,λ_ _ x=>x,?_,?_,λ_ _ x=>x,λ_ _ x _=>x,?_,?_⟩
       .intro a _;by_cases x2:a.block=r
        .unfold World.frozen?;simp only[x2,e1,z]
        .exact BF (e2 a.block x2)
       .intro B o' G;simp only[fb,cQ]at G;obtain⟨rfl,rfl⟩:=G;refine⟨r,_,_,h1,h2,e1,?_,?_⟩
        .have a3:dn {w with heap:=w.heap.setIfInBounds r (.map (ents.push {key:=.string ⟨s.toArray⟩,val:=H,born:=clock}) (clock+1))} U ρ (es.map (·.2)) (ents.toList.map (·.val)):=
          h4.mono sw x6 (λ_ _ x=>x) (λ_ _ x=>x)
         have i2:Rv {w with heap:=w.heap.setIfInBounds r (.map (ents.push {key:=.string ⟨s.toArray⟩,val:=H,born:=clock}) (clock+1))} U ρ ax H:=
          hx.mono sw x6 (λ_ _ x=>x) (λ_ _ x=>x)
         refine⟨by have:=a3.len;simp at this|-;exact this,λj d l hc hv=>?_⟩;simp only[gm,er,oG,Array.toList_push]at hc hv;grind[dn.len,dn.rv]
        simp_all
       .grind
       .simp_all
       .rintro B o' b (G|⟨_,G⟩) a5
        .simp only[fb,cQ]at G;obtain⟨rfl,rfl⟩:=G;refine .inr ⟨B,_,fb.2 rfl,?_⟩;have⟨_,l,hv,hb⟩:=a5;exact⟨by rw[A];rfl,l,hv,hb⟩
        .simp at G
       simp_all
      simp_all
     .cases x
    .simp at x
   .simp at x
  .split at x
   .rename_i x1;split at x
    .rename_i id l hvk2;have h8:=x5 id (by simp[AV.ids]);have ho:=x4.ob id h8;split at x
     .rename_i u es A;split at x
      .rename_i nn a4;simp only[Tr.val_ok,bH]at x;subst x;rw[A]at ho;have⟨r,ents,clock,h1,h2,z,h4,h5⟩:=ho;cases hm with
       |mp _ _ hv _=>
       rw[h1]at hv;cases hv;rw[yW hvk2]at hk;obtain⟨rfl,a2⟩:=AS hk;obtain⟨rfl,i0⟩:=zgP a4 hx;have h7:=kv (w:=w) x1 a2 u es ents.toList h4 h5.1;have E:(h id).owns=Z:=by rw[A];rfl
       have h9:∀B o',(B,o')∈[(id,AO.vmap u (lN es l nn))]->B∈i:=by
        intro B o' G;simp only[fb,cQ]at G;rw[G.1];exact h8
       cases h6:dc es l 0 with
       | none=>
        rw[h6]at h7;have⟨_,_,F⟩:=mV h6;refine⟨{w with heap:=w.heap.setIfInBounds r (.map (ents.push {key:=cR l,val:=w9 u nn,born:=clock}) (clock+1))},?_,?_,h9⟩
        .simp[Instr.mapUpdate,bN ht,ic z,bP x1,h7,oA _ z,Result.andThen]
        .refine Ef.setMap h1 h2 z E ?_ x9 (.tup [] [] rfl sw);refine⟨r,_,_,h1,h2,(oD z).1,?_,?_,h5.2.push _ _⟩
         .simp_all
         grind
       | some g=>
        have⟨j,m⟩:=g;rw[h6]at h7;have⟨_,_,_,⟨p,x8,a6,i1⟩,F⟩:=mW h6;rw[Nat.sub_zero]at x8 F;have x3:∃e,ents.toList[j]?=Y e/\e.key=cR l:=by
         have:(ents.toList.map λe=>(e.key,e.val))[j]?=Y (cR p.1,w9 u p.2):=by
          rw[h4];simp[x8]
         rw[dN,dV]at this;have⟨e,x0,h0⟩:=this;simp only[cQ]at h0;exact⟨e,x0,by rw[h0.1,a6]⟩
        have⟨e,x0,h0⟩:=x3;have a1:ents[j]?=Y e:=by rw[<-ru];exact x0
        refine⟨{w with heap:=w.heap.setIfInBounds r (.map (ents.modify j λe=>{e with key:=cR l,val:=w9 u nn}) clock)},?_,?_,h9⟩
        .have a7:(Instr.keyThatStays (cR l) (cR l)).run P w=.ok (cR l) w:=by
          simp[Instr.keyThatStays,oh]
         simp[Instr.mapUpdate,bN ht,ic z,bP x1,h7,a1,h0,a7,oA _ z,Result.andThen]
        .refine Ef.setMap h1 h2 z E ?_ x9 (.tup [] [] rfl sw);refine⟨r,_,_,h1,h2,(oD z).1,?_,?_,h5.2.modify _ _ (λ_=>rfl)⟩
         .rw[F];apply oB;intro g;have a9:(ents.toList.map λe=>(e.key,e.val))[g]?=(HK u es)[g]?:=by rw[h4]
          grind
         grind
      .simp at x
     .simp at x
    .simp at x
   .simp at x
  .simp at x
 .simp at x
theorem E9:∀(es:List (zN×AV))(ents:List MapEntry)(s:zN)(i:Nat)(z:Tr gB)(f:gB),ents.map (·.key)=AT es->dn w U ρ (es.map (·.2)) (ents.map (·.val))->(Ll es s z).val=Y f->
  (∃j v a,Instr.findNow .string (.string ⟨s.toArray⟩) ents i=Y (Y (j,v))/\Rv w U ρ a v/\f={val:=.tup [a,.kb Z]})\/(Instr.findNow .string (.string ⟨s.toArray⟩) ents i=Y Q2/\z.val=Y f)
 |[],[],_,_,_,_,_,_,x=>.inr ⟨rfl,x⟩
 |[],_::_,_,_,_,_,h,_,_=>by simp at h
 |_::_,[],_,_,_,_,h,_,_=>by simp at h
 | p::es,e::ents,s,i,z,f,h,hr,x=>by
  simp only[AT,er,BJ]at h;have⟨k,a⟩:=p;simp only[Ll,Q8]at x;simp only[Instr.findNow,h.1,Instr.sameNow,DJ];cases d:s==k with
  | true=>
   rw[d]at x;simp[ret]at x;subst x;exact .inl ⟨i,e.val,a,rfl,hr.rv 0 a e.val rfl rfl,rfl⟩
  | false=>
   rw[d]at x;simp at x;refine E9 es ents s (i+1) z f h.2 ⟨by have:=hr.len;simpa using this,λj c v g b=>hr.rv (j+1) c v (by simpa using g) (by simpa using b)⟩ x
theorem ul(h:Rv w U ρ c v)(x:Rv w U ρ q y):Rv w U ρ (.tup [c,q]) (.tuple #[v,y]):=by refine .tup _ [v,y] rfl ?_;grind
theorem px{et:TypeId}(h:vu P et=Y c):∃i z,P.info? et=Y i/\i.zero=Y z/\c=Cw z:=by grind[vu,Option.map_eq_some_iff]
theorem X8{k:IntKind}(h:Kz v=.int k D):v=.int k D:=by unfold Kz at h;grind
theorem Nt{k:IntKind}(h:Cw v=.int k D):v=.int k D:=by unfold Cw at h;grind[X8]
variable {a:List AV}
theorem VI(h:Cw v=.agg a)(x:a.isEmpty=Z):v=.agg #[]:=by
 unfold Cw at h;split at h
 .rename_i c;split at h
  .simp_all
  .cases h
 .unfold Kz at h;grind
theorem tB{α β:Type}(f:α->β):∀(l:List α)(i:Nat),(l.eraseIdx i).map f=(l.map f).eraseIdx i
 |[],_=>rfl
 |_::_,0=>rfl
 | x::r,i+1=>by
  show f x::(r.eraseIdx i).map f=f x::(r.map f).eraseIdx i;rw[tB f r i]
abbrev K3:=Int×Int×zN
abbrev w8(es:List (K3×Value)):List (Value×Value):=es.map λp=>(cR p.1,p.2)
def fP(es:List (K3×Value))(k:K3)(i:Nat):Option (Nat×Value):=match es with
 |[]=>Q2
 |p::r=>bif k==p.1 then Y (i,p.2)else fP r k (i+1)
def Fl(es:List (K3×Value))(k:K3):Value:=match fP es k 0 with
 |some q=>q.2
 |none=>.slice Q2 0 0
def ze2(es:List (K3×Value))(k:K3):List (K3×Value):=match fP es k 0 with
 |some q=>es.eraseIdx q.1
 |none=>es
theorem Fk:∀{es:List (K3×Value)}{k:K3}{i:Nat},fP es k i=Q2->∀p∈es,p.1≠k
 |[],_,_,_,p,x=>by cases x
 | q::r,k,i,h,p,x=>by
  unfold fP at h;cases a:k==q.1 with
  |true=>rw[a]at h;cases h
  | false=>
   rw[a,aJ]at h;rcases ce.1 x with rfl|x
   .exact λe=>by rw[e]at a;simp at a
   .exact Fk h p x
theorem wb:∀{es:List (K3×Value)}{k:K3}{i j:Nat}{v:Value},fP es k i=Y (j,v)->i<=j/\es[j-i]?=Y (k,v)/\∀p∈es.take (j-i),p.1≠k
 |[],_,_,_,_,h=>by cases h
 | q::r,k,i,j,v,h=>by
  unfold fP at h;cases x:k==q.1 with
  | true=>
   grind
  | false=>
   rw[x,aJ]at h;have⟨b,c,g⟩:=wb h;obtain⟨d,rfl⟩:∃d,j=i+1+d:=⟨j-(i+1),S⟩;have e:i+1+d-(i+1)=d:=by omega
   have a:i+1+d-i=d+1:=by omega
   grind
section
variable {P:Program} {w:World} {kt:TypeId} {k:K3}
theorem pn(h:ij P kt=Z)(x:eV k):∀(es:List (K3×Value))(ents:List MapEntry)(i:Nat),(ents.map λe=>(e.key,e.val))=w8 es->(∀p∈es,eV p.1)->
  (Instr.findAsking kt (cR k) ents i).run P w=.ok (fP es k i) w
 |[],[],_,_,_=>by simp[Instr.findAsking,fP]
 |[],_::_,_,h,_=>by simp at h
 |_::_,[],_,h,_=>by simp at h
 | p::es,e::ents,i,he,ho=>by
  simp only[w8,er,BJ,cQ]at he;have⟨⟨b,c⟩,d⟩:=he;have g:=ho p (uO ..);have j:=pn h x es ents (i+1) d (λq a=>ho q (np _ a));simp only[Instr.findAsking,b,dB,Ck h x g,qJ,fP];cases a:k==p.1
  .simpa using j
  .simp[c]
theorem og(h:ij P kt=Z)(d:eV k)(es:List (K3×Value))(ents:List MapEntry)(b:(ents.map λe=>(e.key,e.val))=w8 es)(g:∀p∈es,eV p.1):
  (Instr.findKey kt (cR k) ents).run P w=.ok (fP es k 0) w:=by
 have a:∃x,P.underlying kt=Y (.struct x):=by
  unfold ij at h;split at h
  next x a=>exact⟨x,a⟩
  .cases h
 have⟨x,a⟩:=a;have c:=pn (w:=w) h d es ents 0 b g;cases ents with
 | nil=>
  cases es with
  |nil=>simp[Instr.findKey,bN a,Result.andThen,Instr.findNow,fP]
  |cons p r=>simp at b
 | cons e r=>
  have i:Instr.findNow (.struct x) (cR k) (e::r) 0=Q2:=by
   simp only[Instr.findNow];have:Instr.sameNow (.struct x) (cR k) e.key=Q2:=by simp[Instr.sameNow]
   rw[this]
  simp only[Instr.findKey,dB,bN a,qJ,i];exact c
variable {mt et:TypeId} {r:Nat} {ents:Array MapEntry} {clock:Nat} {es:List (K3×Value)}
theorem Mv(c:P.underlying mt=Y (.map kt et))(x:ij P kt=Z){i:TypeInfo}(g:P.info? et=Y i)(m:i.zero=Y (.slice Q2 0 0))(j:eV k)
  (b:w.heap[r]?=Y (.map ents clock)) (d:(ents.toList.map λe=>(e.key,e.val))=w8 es) (l:∀p∈es,eV p.1):
  (Instr.lookup mt (.map (Y r)) (cR k) M).run P w=.ok (Fl es k) w:=by
 have h:=og (w:=w) x j es ents.toList d l;unfold Fl;cases a:fP es k 0 with
 | none=>
  rw[a]at h;simp[Instr.lookup,bN c,ic b,bP x,h,Result.andThen,zeroValue,typeInfo,g,m]
 | some q=>
  rw[a]at h;simp[Instr.lookup,bN c,ic b,bP x,h,Result.andThen]
theorem ZF{kt':TypeId}(g:P.underlying mt=Y (.map kt et))(a:ij P kt=Z)(i:eV k)
  (c:w.heap[r]?=Y (.map ents clock)) (d:(ents.toList.map λe=>(e.key,e.val))=w8 es) (j:∀p∈es,eV p.1):
  ∃h:Array MapEntry,(∀t,(Builtin.delete_ #[mt,kt'] t #[.map (Y r),cR k]).run P w=.ok (.tuple #[]) {w with heap:=w.heap.setIfInBounds r (.map h clock)})/\
   (h.toList.map λe=>(e.key,e.val))=w8 (ze2 es k):=by
 have x:=og (w:=w) a i es ents.toList d j;unfold ze2;cases b:fP es k 0 with
 | none=>
  rw[b]at x;refine⟨ents,λt=>?_,d⟩;simp[Builtin.delete_,bN g,ic c,bP a,x,oA _ c,Result.andThen]
 | some q=>
  rw[b]at x;refine⟨ents.eraseIdxIfInBounds q.1,λt=>?_,?_⟩
  .simp[Builtin.delete_,bN g,ic c,bP a,x,oA _ c,Result.andThen]
  simp_all[tB]
end
theorem AL(k:K3):∀(es:List (K3×Value))(i:Nat),fP es k (i+1)=(fP es k i).map λq=>(q.1+1,q.2)
 |[],_=>rfl
 | p::r,i=>by
  unfold fP;cases k==p.1 with
  |true=>rfl
  |false=>exact AL k r (i+1)
theorem Wt(p:K3×Value)(r:List (K3×Value))(k:K3):Fl (p::r) k=bif k==p.1 then p.2 else Fl r k:=by grind[fP,Fl,AL]
theorem Oq(k:K3):∀es:List (K3×Value),ze2 es k=nf es k
 |[]=>rfl
 | p::r=>by
  have e:fP (p::r) k 0=bif k==p.1 then Y (0,p.2)else fP r k 1:=rfl
  have i:=Oq k r;unfold ze2 at i|-;grind[nf,AL]
theorem Fi{α:Type}(k:K3):∀(es:List (K3×α)),List.Sublist (nf es k) es
 |[]=>List.Sublist.refl _
 | p::r=>by
  show List.Sublist (cond (k==p.1) r (p::nf r k)) _;cases k==p.1 with
  |true=>exact List.sublist_cons_self _ _
  |false=>exact(Fi k r).cons_cons p
variable {m:List Value}
theorem dn.rest1(h:dn w U ρ (c::a) (v::m)):dn w U ρ a m:=⟨by have:=h.len;simpa using this,λj c v x b=>h.rv (j+1) c v (by simpa using x) (by simpa using b)⟩
theorem dn.put1(x:Rv w U ρ c v)(h:dn w U ρ a m):dn w U ρ (c::a) (v::m):=⟨by simpa using h.len,λj c v b d=>by
 grind[rv]⟩
theorem TP{e:Sh}(k:K3):∀(es:List (K3×List (L e)))(g:List (K3×Value)),g.map (·.1)=es.map (·.1)->dn w U ρ (es.map λp=>O e p.2) (g.map (·.2))->Rv w U ρ (.sl e (lE es k)) (Fl g k)
 |[],[],_,_=>.sl0 e Q2 0
 |[],_::_,h,_=>by simp at h
 |_::_,[],h,_=>by simp at h
 | p::es,q::g,h,hr=>by
  simp only[er,BJ]at h;have i:=TP k es g h.2 hr.rest1;rw[Wt,h.1];show Rv w U ρ (.sl e (cond (k==p.1) p.2 (lE es k))) _;cases k==p.1 with
  |true=>exact hr.rv 0 _ _ rfl rfl
  |false=>exact i
theorem TO{e:Sh}(k:K3):∀(es:List (K3×List (L e)))(g:List (K3×Value)),g.map (·.1)=es.map (·.1)->dn w U ρ (es.map λp=>O e p.2) (g.map (·.2))->
  (nf g k).map (·.1)=(nf es k).map (·.1)/\dn w U ρ ((nf es k).map λp=>O e p.2) ((nf g k).map (·.2))
 |[],[],_,h=>⟨rfl,h⟩
 |[],_::_,h,_=>by simp at h
 |_::_,[],h,_=>by simp at h
 | p::es,q::g,h,hr=>by
  simp only[er,BJ]at h;have⟨x,i⟩:=TO k es g h.2 hr.rest1;unfold nf;rw[h.1];cases k==p.1 with
  |true=>exact⟨h.2,hr.rest1⟩
  |false=>exact⟨by simp_all,dn.put1 (hr.rv 0 _ _ rfl rfl) i⟩
theorem VJ(h:Cw v=.nils):v=.slice Q2 0 0:=by
 unfold Cw at h;split at h
 .split at h<;>cases h
 .unfold Kz at h;grind
theorem Ob{ty:TypeId}{vm:Value}(x:(E3 P h t c q).val=Y f)
  (hm:Rv w U ρ c vm) (hk:Rv w U ρ q y) (G:∀b,U b->b<w.heap.size) (B:DO w U ρ h i) (E:∀id∈c.ids,id∈i):
  ∃w',(Builtin.delete_ #[t,kt] ty #[vm,y]).run P w=.ok (.tuple #[]) w'/\Ef n h f w U ρ (.tuple #[]) w' U ρ/\∀id o,(id,o)∈f.wr->id∈i:=by
 unfold E3 at x;split at x
 .rename_i h8 et ht;split at x
  .rename_i H;split at x
   .rename_i id v hvk2;have D:=E id (by simp[AV.ids]);have ho:=B.ob id D;split at x
    .rename_i e es g;simp only[Tr.val_ok,bH]at x;subst x;rw[g]at ho;have⟨r,ents,clock,s,u,z,d,h4,h5,h6,h7⟩:=ho;cases hm with
     |mp _ _ hv _=>
     rw[u]at hv;cases hv;rw[yW hvk2]at hk;obtain⟨rfl,F⟩:=AS hk;have j:(h id).owns=Z:=by rw[g];rfl
     have⟨m,l,A⟩:=ZF (w:=w) (kt':=kt) ht H F d h5 h7;have⟨g1,g2⟩:=TO v es s h6 h4;have h0:r<w.heap.size:=(mZ.1 d).1;refine⟨_,l ty,?_,?_⟩
     .refine Ef.setMap u z d j ?_ G (.tup [] [] rfl sw);refine⟨r,_,_,nf s v,u,z,(oD d).1,?_,by rw[A,Oq],g1,λp h=>h7 p ((Fi v s).subset h)⟩;exact g2.mono sw (λb hb hu=>(oD d).2 b λa=>hu (a▸z)) (λ_ _ x=>x) (λ_ _ x=>x)
     simp_all
    .simp at x
   .simp at x
  .simp at x
 .simp at x
theorem Oc{ai:AV}{two:Bool}(x:(mu P h t c ai two).val=some f)(hx:Rv w U ρ c v)(hi:Rv w U ρ ai y)(x1:∀id∈c.ids,bz w U ρ id (h id)):
  ∃r a,f={val:=r}/\(Instr.lookup t v y two).run P w=.ok a w/\Rv w U ρ r a:=by
 unfold mu at x;split at x
 .rename_i kt et ht;split at x
  .rename_i g;split at x
   .rename_i id s;have ho:=x1 id (by simp[AV.ids]);split at x
    .rename_i es B;rw[B]at ho;have⟨r,ents,clock,h1,h2,D,h4,h5⟩:=ho;cases hx with
     |mp _ _ H _=>
     rw[h1]at H;cases H;cases hi with
     |str _ hs=>
     cases two with
     | false=>
      simp only[zA,zm]at x;rcases Jo es ents.toList s 0 _ f h5 h4 x with⟨j,a,av,hf,hr,rfl⟩|⟨hf,l⟩
      .refine⟨av,a,rfl,?_,hr⟩;simp[Instr.lookup,bN ht,ic D,Nv g (k:=.string ⟨s.toArray⟩) trivial,Nw g hf,Result.andThen]
      .simp at l;obtain⟨z,l,rfl⟩:=l;obtain⟨i,A,b,d,rfl⟩:=px l;refine⟨_,A,rfl,?_,sZ A⟩;simp[Instr.lookup,bN ht,ic D,Nv g (k:=.string ⟨s.toArray⟩) trivial,Nw g hf,Result.andThen,zeroValue,typeInfo,b,d]
     | true=>
      simp only[zi]at x;rcases E9 es ents.toList s 0 _ f h5 h4 x with⟨j,a,av,hf,hr,rfl⟩|⟨hf,l⟩
      .refine⟨_,.tuple #[a,.bool Z],rfl,?_,ul hr (.kb Z)⟩;simp[Instr.lookup,bN ht,ic D,Nv g (k:=.string ⟨s.toArray⟩) trivial,Nw g hf,Result.andThen]
      .unfold zj1 at l;split at l
       next z x3=>simp[ret]at l;subst l;obtain⟨i,A,b,d,rfl⟩:=px x3;refine⟨_,.tuple #[A,.bool M],rfl,?_,ul (sZ A) (.kb M)⟩;simp[Instr.lookup,bN ht,ic D,Nv g (k:=.string ⟨s.toArray⟩) trivial,Nw g hf,Result.andThen,zeroValue,typeInfo,b,d]
       .simp at l
    .simp at x
   .simp at x
  .split at x
   .rename_i F;split at x
    .rename_i id a hvk2;have ho:=x1 id (by simp[AV.ids]);split at x
     .rename_i u es B;rw[B]at ho;have⟨r,ents,clock,h1,h2,D,h4,h5⟩:=ho;cases hx with
      |mp _ _ H _=>
      rw[h1]at H;cases H;rw[yW hvk2]at hi;obtain⟨rfl,h8⟩:=AS hi;have E:=kv (w:=w) F h8 u es ents.toList h4 h5.1
      have G:∀(i:TypeInfo)(A:Value),P.info? et=Y i->i.zero=Y A->A=w9 u 0->
        (Instr.lookup t (.map (Y r)) (cR a) two).run P w=.ok (ite two (.tuple #[w9 u (iw es a),.bool (qF es a)]) (w9 u (iw es a))) w:=by
       intro i A b d o;subst o;cases n:dc es a 0 with
       | none=>
        rw[n]at E;have⟨e1,e2,_⟩:=mV n;cases two<;>simp[Instr.lookup,bN ht,ic D,bP F,E,Result.andThen,zeroValue,typeInfo,b,d,e1,e2]
       | some q=>
        have⟨j,m⟩:=q;rw[n]at E;have⟨_,e1,e2,_,_⟩:=mW n;cases two<;>simp[Instr.lookup,bN ht,ic D,bP F,E,Result.andThen,e1,e2]
      have x0:dw .i64 (iw es a):=by
       cases n:dc es a 0 with
       |none=>rw[(mV n).2.1];unfold dw;decide
       | some q=>
        have⟨j,m⟩:=q;have⟨_,_,e2,⟨p,h,_,x4⟩,_⟩:=mW n;grind
      split at x
      .rename_i z l;split at x
       .rename_i hc;obtain⟨rfl,rfl⟩:=hc;have⟨i,A,b,d,o⟩:=px l;have:=Nt o.symm;subst this;simp[ret]at x;subst x;refine⟨_,_,rfl,G i _ b d rfl,?_⟩;cases two
        .exact .int _ _ x0
        .exact ul (.int _ _ x0) (.bool _)
       .simp at x
      .rename_i cs l;split at x
       .rename_i hc;obtain⟨rfl,x2⟩:=hc;have⟨i,A,b,d,o⟩:=px l;have:=VI o.symm x2;subst this;simp[ret]at x;subst x;have h9:Rv w U ρ (.agg []) (.agg #[]):=.agg [] [] rfl sw sw;refine⟨_,_,rfl,G i _ b d rfl,?_⟩;cases two
        .exact h9
        .exact ul h9 (.bool _)
       .simp at x
      .simp at x
     .rename_i e es B;rw[B]at ho;have⟨r,ents,clock,gs,h1,h2,D,h4,h5,h6,h7⟩:=ho;cases hx with
      |mp _ _ H _=>
      rw[h1]at H;cases H;rw[yW hvk2]at hi;obtain⟨rfl,h8⟩:=AS hi;split at x
      .rename_i l;split at x
       next h0=>subst h0;simp[ret]at x;subst x;have⟨i,A,b,d,o⟩:=px l;have:=VJ o.symm;subst this;exact⟨_,_,rfl,Mv ht F b d h8 D h5 h7,TP a es gs h6 h4⟩
       .simp at x
      .simp at x
     .simp at x
    .simp at x
   .simp at x
  .simp at x
 .simp at x
theorem Bz:∀{es:List ((Int×Int×zN)×Int)}{k:Int×Int×zN}{i:Nat},(dc es k i=Q2->mX es k=N es)/\∀j n,dc es k i=Y (j,n)->j=i+mX es k
 |[],k,i=>⟨λ_=>rfl,λj n h=>by cases h⟩
 | p::r,k,i=>by
  have⟨x,a⟩:=Bz (es:=r) (k:=k) (i:=i+1);unfold dc mX;grind
theorem Vk:∀(es:List ((Int×Int×zN)×Int))(k:Int×Int×zN),mX es k<=N es
 |[],_=>zR _
 | p::r,k=>by
  have:=Vk r k;unfold mX;grind
variable {fp:List Nat}
theorem RA(x:(xh P h t c q).val=some f)
  (hm:Rv w U ρ c v) (hk:Rv w U ρ q y) (x5:∀b,U b->b<w.heap.size) (x6:DO w U ρ h fp) (x7:∀id∈c.ids,id∈fp):
  ∃d w',(Instr.mapEntry t v y).run P w=.ok d w'/\Ef n h f w U ρ d w' U ρ/\∀id o,(id,o)∈f.wr->id∈fp:=by
 unfold xh at x;split at x
 .rename_i kt et ht;split at x
  .rename_i h6;split at x
   .rename_i id d hvk2;have x2:=x7 id (by simp[AV.ids]);have ho:=x6.ob id x2;split at x
    .rename_i es x0;split at x
     .rename_i z hz;split at x
      .rename_i a1;subst a1;simp only[Q8]at x;split at x
       .rename_i D;have D:N es<=1073741824:=lq D;simp only[bH]at x;subst x;rw[x0]at ho;have⟨r,ents,clock,h1,h2,A,h4,B⟩:=ho;cases hm with
        |mp _ _ hv _=>
        rw[h1]at hv;cases hv;rw[yW hvk2]at hk;obtain⟨rfl,x4⟩:=AS hk;have⟨i0,zv,H,a2,a3⟩:=px hz;have:=Nt a3.symm;subst this;have u:=kv (w:=w) h6 x4 M es ents.toList h4 B.1;have E:(h id).owns=Z:=by rw[x0];rfl
        have x1:ents.size=N es:=by have:=congrArg N h4;simpa using this
        have F:∀h7 o',(h7,o')∈[(id,AO.vmap M (kV es d))]->h7∈fp:=by
         intro h7 o' h';simp only[fb,cQ]at h';rw[h'.1];exact x2
        have x3:dw .i64 (mX es d:Int):=by
         have:=Vk es d;unfold dw;exact⟨by show(-9223372036854775808:Int)<=_;omega,by show _<=(9223372036854775807:Int);omega⟩
        cases l:dc es d 0 with
        | none=>
         rw[l]at u;have⟨e1,e2,_⟩:=mV l;have e3:=(Bz (es:=es) (k:=d) (i:=0)).1 l;have g:kV es d=es++[(d,0)]:=by simp[kV,e1]
         refine⟨.tuple #[.int .i64 0,goInt clock],{w with heap:=w.heap.setIfInBounds r (.map (ents.push {key:=cR d,val:=.int .i64 0,born:=clock}) (clock+1))},?_,?_,F⟩
         .simp[Instr.mapEntry,bN ht,ic A,bP h6,u,oA _ A,Result.andThen,zeroValue,typeInfo,H,a2]
         .refine Ef.setMap h1 h2 A E ?_ x5 ?_
          .refine⟨r,_,_,h1,h2,(oD A).1,?_,?_,B.2.push _ _⟩
           .rw[g];simp only[Array.toList_push,gm,h4,er,oG];rfl
           .rw[g];intro p h;rcases dl.1 h with h|h
            .exact B.1 p h
            .simp at h;subst h;exact⟨(show dw .i64 0 by unfold dw;decide),x4⟩
          .rw[e2];have hc:goInt clock=.int .i64 (mX es d:Int):=by rw[e3,B.2.1,x1];rfl
           rw[hc];exact ul (.int _ _ (by unfold dw;decide)) (.int _ _ x3)
        | some a=>
         have⟨j,m⟩:=a;rw[l]at u;have⟨_,e1,e2,⟨p,h0,x8,x9⟩,_⟩:=mW l;have e3:=(Bz (es:=es) (k:=d) (i:=0)).2 j m l;rw[eI]at e3;rw[Nat.sub_zero]at h0;have g:kV es d=es:=by simp[kV,e1]
         have h9:∃e,ents.toList[j]?=Y e/\e.key=cR d:=by
          have:(ents.toList.map λe=>(e.key,e.val))[j]?=Y (cR p.1,w9 M p.2):=by
           rw[h4];simp[h0]
          rw[dN,dV]at this;have⟨e,G,s⟩:=this;simp only[cQ]at s;exact⟨e,G,by rw[s.1,x8]⟩
         have⟨e,G,s⟩:=h9;have h8:ents[j]?=Y e:=by rw[<-ru];exact G
         have a0:(Instr.keyThatStays (cR d) (cR d)).run P w=.ok (cR d) w:=by
          simp[Instr.keyThatStays,oh]
         refine⟨.tuple #[.int .i64 m,goInt e.born],{w with heap:=w.heap.setIfInBounds r (.map (ents.modify j λe=>{e with key:=cR d}) clock)},?_,?_,F⟩
         .simp[Instr.mapEntry,bN ht,ic A,bP h6,u,h8,s,a0,oA _ A,Result.andThen,w9]
         .refine Ef.setMap h1 h2 A E ?_ x5 ?_
          .refine⟨r,_,_,h1,h2,(oD A).1,?_,by rw[g];exact B.1,B.2.modify _ _ (λ_=>rfl)⟩;rw[g];apply oB;grind
          .rw[e2];have hc:goInt e.born=.int .i64 (mX es d:Int):=by rw[B.q j e h8,e3];rfl
           rw[hc];have hm:dw .i64 m:=by rw[<-x9];exact(B.1 p (gh h0)).1
           exact ul (.int _ _ hm) (.int _ _ x3)
       .cases x
      .simp at x
     .simp at x
    .simp at x
   .simp at x
  .simp at x
 .simp at x
theorem wD:∀(es:List ((Int×Int×zN)×Int))(n:Nat)(x:Int)(p:(Int×Int×zN)×Int),es[n]?=Y p->lp es n x=es.set n (p.1,x)
 |[],_,_,_,h=>by simp at h
 |q::r,0,x,p,h=>by simp at h;subst h;rfl
 | q::r,n+1,x,p,h=>by
  rw[lp,wD r n x p (by simpa using h)];rfl
theorem CB{G:AV}(x:(pP h c q G).val=Y f)
  (hm:Rv w U ρ c v) (hs:Rv w U ρ q y) (hx:Rv w U ρ G H) (F:∀b,U b->b<w.heap.size) (B:DO w U ρ h i) (E:∀id∈c.ids,id∈i):
  ∃w',(Instr.entryStore t v y H).run P w=.ok () w'/\Ef n h f w U ρ undef w' U ρ/\∀id o,(id,o)∈f.wr->id∈i:=by
 unfold pP at x;split at x
 .rename_i id nn yy;have D:=E id (by simp[AV.ids]);have ho:=B.ob id D;split at x
  .rename_i es d;simp only[Q8]at x;split at x
   .rename_i g;have⟨h7,h8⟩:=nF.1 g;simp only[bH]at x;subst x;rw[d]at ho;have⟨r,ents,clock,u,h2,s,h4,z⟩:=ho;cases hm with
    |mp _ _ hv _=>
    rw[u]at hv;cases hv;cases hs;cases hx with
    |int _ _ hy=>
    have m:(h id).owns=Z:=by rw[d];rfl
    have h0:ents.size=N es:=by have:=congrArg N h4;simpa using this
    have l:nn.toNat<ents.size:=by omega
    have A:ents.findIdx? (λe=>(e.born:Int)==nn)=Y nn.toNat:=by
     rw[Array.findIdx?_eq_some_iff_getElem];refine⟨l,?_,λj hj=>?_⟩
     .have:=z.q nn.toNat ents[nn.toNat] (uD l);grind
     .have:=z.q j (ents[j]'ow) (uD S);grind
    obtain⟨p,h⟩:∃p,es[nn.toNat]?=Y p:=⟨es[nn.toNat]'ow,aj S⟩;refine⟨{w with heap:=w.heap.setIfInBounds r (.map (ents.modify nn.toNat λe=>{e with val:=.int .i64 yy}) clock)},?_,?_,?_⟩
    .simp[Instr.entryStore,ic s,asInt,asIntOf,A,oA _ s,Result.andThen]
    .refine Ef.setMap u h2 s m ?_ F (.tup [] [] rfl sw);refine⟨r,_,_,u,h2,(oD s).1,?_,?_,z.2.modify _ _ (λ_=>rfl)⟩
     .rw[wD es _ yy p h];apply oB;intro a;have h6:(ents.toList.map λe=>(e.key,e.val))[a]?=(HK M es)[a]?:=by rw[h4]
      grind[w9]
     .rw[wD es _ yy p h];grind
    simp_all
   .cases x
  .simp at x
 .simp at x
theorem Ef.frz{hp:Nat->AO}{ids:List Nat}{r:AV}(i:∀b,U b->b<w.heap.size)(l:∀j∈ids,pX (hp j)=Z)
  (u:∀j∈ids,bz w U ρ j (hp j)) (c:Rv w (λb=>U b/\¬∃j∈ids,ar ρ j (hp j) b) ρ r v):
  Ef n hp {val:=r,wr:=io hp ids} w U ρ v w (λb=>U b/\¬∃j∈ids,ar ρ j (hp j) b) ρ:=by
 generalize e:(λb=>U b/\¬∃j∈ids,ar ρ j (hp j) b)=p at c|-;have a:∀b,p b->U b:=λb h=>by rw[<-e]at h;exact h.1
 have s:∀j∈ids,∀b,ar ρ j (hp j) b->¬p b:=λj q b g h=>by grind
 have m:∀id o b,(id,o)∈io hp ids->ar ρ id o b->False:=by
  intro id o b h g;obtain⟨x,rfl⟩:=dX h;rw[ar,rR (l id x)]at g;simp at g
 refine⟨lz.refl w,c,?_,sw,λ_ _=>rfl,λ_ _ h=>h,λ_ _ _=>rfl,λd h=>i d (a d h),λd _ h=>a d h,?_,?_,?_⟩
 .intro id o h;obtain⟨x,rfl⟩:=dX h;grind[tp]
 .intro d _ h t;rw[<-e];exact⟨h,λ⟨j,q,g⟩=>t j _ (tq q) g⟩
 .simp_all
 simp_all
theorem Od{ax:AV}{lo hi mx:Option AV}{vlo vhi vmx:Option Value}(d:(E5 P h t ax lo hi mx).val=Y f)
  (hx:Rv w U ρ ax v) (y:∀a g,lo=Y a->vlo=Y g->Rv w U ρ a g) (u:∀a g,hi=Y a->vhi=Y g->Rv w U ρ a g)
  (z:∀a g,mx=Y a->vmx=Y g->Rv w U ρ a g) (B:lo.isSome=vlo.isSome) (A:hi.isSome=vhi.isSome) (D:mx.isSome=vmx.isSome)
  (q:∀b,U b->b<w.heap.size) (h3:DO w U ρ h fp) (h4:∀id∈ax.ids,id∈fp):
  ∃g U',(Instr.sliceAt t v vlo vhi vmx).run P w=.ok g w/\Ef n h f w U ρ g w U' ρ/\∀id o,(id,o)∈f.wr->id∈fp:=by
 unfold E5 at d;split at d
 .rename_i id;have F:=h4 id (by simp[AV.ids]);have ho:=h3.ob id F;split at d
  .rename_i e l p;simp only[Tr.val_bind,gE]at d;have⟨f0,h0,h1⟩:=d;simp only[Tr.val_ok,bH]at h1;subst h1;have m:∀b,(U b/\¬∃j∈[id],ar ρ j (h j) b)->U b:=λb hb=>hb.1
   have h6:Rv w (λb=>U b/\¬∃j∈[id],ar ρ j (h j) b) ρ (.sl e l) v:=
    wM (hp:=h) (e:=e) (c:=.vec id) (by simp[vE,p]) hx m (λj hj=>by simp[du]at hj;subst hj;exact ho)
     (λj hj b hb hU=>by simp[du]at hj;simp_all)
   obtain⟨r,x,rfl,i,G⟩:=vX (w:=w) (U:=λb=>U b/\¬∃j∈[id],ar ρ j (h j) b) (ρ:=ρ) (vlo:=vlo) (vhi:=vhi) (vmx:=vmx) h0 h6
    (λa g E s=>(y a g E s).weak m) (λa g E s=>(u a g E s).weak m) (λa g E s=>(z a g E s).weak m) B A D
   refine⟨x,_,i,Ef.frz q (by simp[p,pX]) (by simp;exact ho) G,λh7 o' h'=>?_⟩;have⟨h2,_⟩:=dX h';simp at h2;rw[h2];exact F
  .rename_i e l p;rw[p]at ho;have⟨v',H,h5⟩:=ho;cases hx with
   |vec _ _ s _=>
   rw[s]at H;cases H;obtain⟨r,x,rfl,i,G⟩:=vX (w:=w) (U:=U) (ρ:=ρ) (vlo:=vlo) (vhi:=vhi) (vmx:=vmx) d h5 y u z B A D;exact⟨x,U,i,Ef.pure q G,sw⟩
  .simp at d
 .obtain⟨r,x,rfl,i,G⟩:=vX (w:=w) (U:=U) (ρ:=ρ) (vlo:=vlo) (vhi:=vhi) (vmx:=vmx) d hx y u z B A D;exact⟨x,U,i,Ef.pure q G,sw⟩
end
section
variable {w:World} {U:Nat->Prop} {ρ:Nat->Option Value}
def DP(gl:Nat->AV)(w:World)(U:Nat->Prop):Prop:=∀g,Rv w U (λ_=>Q2) (gl g) (.pointer (Y ⟨g,0,Q2⟩))
structure ou (P:Program) (gl:Nat->AV) (k:FuncId) (F:ak):Prop where
 fn:∃fn,P.funcs[k]?=Q1 fn/\(fn.name=="runtime.NumGoroutine")=Q4/\fn.body.isNone=Q4
 calls:∀(w:World)(U:Nat->Prop)(ρ:Nat->Option Value)(hp:Nat->AO)(n:Nat)(args:List AV)(vals:List Value)(f:gB)(fp:List Nat),(F args hp n).val=Y f->
  dn w U ρ args vals->(∀b,U b->b<w.heap.size)->DP gl w U->DO w U ρ hp fp->(∀id∈AV.idsL args,id∈fp)->(∀id∈fp,∀j∈(hp id).ids,j∈fp)->(∀j,j<f.nw.length->ρ (n+j)=Q2)->
  Calls P k vals.toArray w (λe w'=>∃v U' ρ',e=.returned v/\Ef n hp f w U ρ v w' U' ρ')/\∀id o,(id,o)∈f.wr->id∈fp
structure zx (E:cy):Prop extends EnvOk E where
 fs:∀k F,E.F k=Y F->ou E.P E.gl k F
 mix:E.P.follows .mixedOrders=Z
variable {c:AV}{id:Nat}
theorem sb(h:id∈eC c):id∈c.ids:=by
 have d:∀a:List AV,id∈a.flatMap du->id∈AV.idsL a:=by
  intro a
  induction a with
  |nil=>simp
  | cons x a e=>
   intro h;simp only[List.flatMap_cons,dl]at h;simp only[AV.idsL,dl];rcases h with h|h
   .left;cases x<;>simp[du]at h
    subst h;simp[AV.ids]
   .exact .inr (e h)
 unfold eC at h;split at h
 .rename_i a b;cases c<;>simp only[cellsOf,bH,reduceCtorEq]at b<;>(try subst b)
  case agg a=>simp only[AV.ids];exact d _ h
  case vec i=>simp[du]at h;subst h;simp[AV.ids]
  all_goals simp[du]at h
 .simp at h
variable {a:List AV}
theorem kK(b:c∈a)(h:id∈c.ids):id∈AV.idsL a:=by
 induction a with
 |nil=>simp at b
 | cons x a i=>
  simp only[AV.idsL,dl];grind
theorem TX(h:id∈AV.idsL a):∃c∈a,id∈c.ids:=by
 induction a with
 |nil=>simp[AV.idsL]at h
 | cons x a i=>
  simp only[AV.idsL,dl]at h;grind
variable {P:Program}{x:Oper}{K:Act->World->Prop}{Q:Exit->Act->World->Prop}{v:Value}
theorem fz{b:Act}{w':World}(h:(execOp b.eval x).run P w=.ok (.value v) w')(a:K (b.put x.dst v) w'):x.wp P b w K Q:=by rw[Oper.wp,h];exact a
theorem sT{b:Act}{z:World}(h:(execOp b.eval x).run P w=.ok .skip z)(a:K (b.put x.dst undef) z):x.wp P b w K Q:=by rw[Oper.wp,h];exact a
theorem uk{ev:Operand->AV}{g:Operand->Value}:∀(a:List Operand),(∀x∈a,Rv w U ρ (ev x) (g x))->dn w U ρ (a.map ev) (a.map g)
 |[],_=>⟨rfl,sw⟩
 | x::a,h=>by
  have i:=uk a (λy b=>h y (by simp[b]));refine⟨sw,λj c v d e=>?_⟩;grind
theorem dn.append{b:List AV}{m y:List Value}(h:dn w U ρ a m)(x:dn w U ρ b y):dn w U ρ (a++b) (m++y):=by
 refine⟨by simp[h.len,x.len],λj c v d g=>?_⟩;by_cases e:j<N a
 .grind[len,rv]
 grind[len,rv]
variable {h:Nat->AO}{f:gB}{fp:List Nat}
theorem HM{E:cy}(hE:EnvOk E){n:Nat}{t:TypeId}{d:Nat}{y:List (Nat×AV)}{vps:List (Nat×Value)}
  (a:(vW E h n t d y).val=Y f) (hi:y.map (·.1)=vps.map (·.1)) (hr:dn w U ρ (y.map (·.2)) (vps.map (·.2)))
  (x6:∀b,U b->b<w.heap.size) (hn:∀j,j<f.nw.length->ρ (n+j)=Q2):
  ∃v w' U' ρ',(Instr.buildSlice t d vps.toArray).run E.P w=.ok v w'/\Ef n h f w U ρ v w' U' ρ'/\∀id o,(id,o)∈f.wr->id∈fp:=by
 unfold vW at a;split at a
 .rename_i g hu;split at a
  .rename_i e he;split at a
   .rename_i m;simp only[aO,bc,List.isEmpty_iff]at m;have⟨⟨⟨⟨h4,h6⟩,x1⟩,x3⟩,B⟩:=m;split at a
    .rename_i l hl;simp at a;subst a;have x0:ρ n=Q2:=hn 0 sw;have⟨i,z,q,h0,x4,_,hz,x9⟩:=hE.sh g e he;have x2:gR E.P g=Y e.size:=by simp[gR,q,h0]
     have H:(y.map (·.2)).flatMap eC=[]:=by
      rw[<-B,List.flatMap_map]
     have⟨h1,h2,h3⟩:=Ak (w:=w) (U:=U) (ρ:=ρ) (U':=U) (λ_ a=>a) _ _ l hl hr
      (λid G=>by rw[H]at G;cases G)
     have h7:vps=((vps.map (·.2)).zipIdx 0).map λp=>(p.2,p.1):=by
      have h1:=rV y 0 h6;have u:y.map (·.1)=List.range' 0 (N y):=by
       have:=congrArg (List.map (·.1)) h1;rw[qL]at this;rw[this];have e2:((λx:Nat×AV=>x.1)∘λp:AV×Nat=>(p.2,p.1))=Prod.snd:=rfl;rw[e2,List.zipIdx_map_snd];simp
      have h8:N y=N vps:=by have:=congrArg N hi;simpa using this
      rw[hi,h8]at u;apply List.ext_getElem
      .simp
      .intro k hk x5;have:(vps.map (·.1))[k]?=(List.range' 0 (N vps))[k]?:=by rw[u]
       grind
     have s:N vps=d:=by rw[<-h4];have:=congrArg N hi;simpa using this.symm
     have⟨r,e1,e2,e3,e4⟩:=AI e.size (vps.map (·.2)) 0 (((Array.range (d*e.size)).map (z.cells[· %z.cells.size]!)).toList)
      (λv hv=>(h2 v hv).1) (by simp[s])
     rw[<-h7]at e1;have h5:d*e.size≠0:=Nat.mul_ne_zero S S;have A:¬(2^24<d*e.size):=by omega
     have h9:N l=d:=by rw[h1];simpa using s
     have hs:w.heap.size<=(w.alloc (.cells r.toArray g)).heap.size:=by rw[bE];omega
     refine⟨.slice (Y ⟨w.heap.size,0,Q2⟩) d d,w.alloc (.cells r.toArray g),λb=>U b\/b=w.heap.size,_,?_,Ef.newVec sw x0 rfl (lz.alloc w _ _) (λb hb _=>bQ w _ b hb) ?_ ?_ ?_ ?_,sw⟩
     .simp only[Th]at e1;simp only[Instr.buildSlice,dB,bN hu,dv x2,qJ];simp only[gt_iff_lt,A,zm,h5,Sem.run_pure,qJ,dB,zeroValue,typeInfo,run_program,q,hz,e1,newRow,run_newObj];rfl
     .grind[bE]
     .grind
     .refine⟨Y ⟨w.heap.size,0,Q2⟩,d,by simp[kz,h9],by unfold aF;grind,.inr ⟨w.heap.size,g,r.toArray,rfl,x1,.inr rfl,cT w _,by simp[e2],S,?_⟩⟩;intro i' D j c hc;have F:i'<(vps.map (·.2)).length:=by rw[<-h1];exact D
      have⟨v,x7,x8⟩:=h3 i' D F j c hc;have hj:j<e.size:=by have:=(dF.1 hc).1;rwa [au]at this
      grind[Rv.mono,bQ,fK]
     grind[cf]
    .simp at a
   .simp at a
  .simp at a
 .simp at a
theorem On:∀(l:List Int)(s:ByteArray),l.foldl (λr n=>r.push (UInt8.ofNat n.toNat)) s=⟨s.data++(nT l).toArray⟩:=by
 intro l
 induction l with
 |nil=>intro s;simp[nT]
 |cons n l i=>simp_all[nT]
theorem Rz{src dst G:TypeId}(h:(K0 P G c).val=Y f)(t:P.underlying src=Y (.slice G))
  (q:P.underlying dst=Y .string) (y:Rv w U ρ c v):
  ∃r c,f={val:=r}/\(convert src dst v).run P w=.ok c w/\Rv w U ρ r c:=by
 unfold K0 at h;split at h
 .rename_i l;split at h
  .rename_i u;simp at h;subst h;cases y with
   | sl0 _ a x=>
    refine⟨_,.string ⟨(nT []).toArray⟩,rfl,?_,.str _ (by simp[nT])⟩;rw[run_convert_bytes_string w src dst G a _ _ t u q];cases a with
    |none=>rfl
    | some a=>
     rfl
   | sl _ _ b o x e B s A z d i=>
    have p:∀j(g:j<N l),w.cell? ⟨b,o+j,Q2⟩=Y (.int .u8 l[j]):=by
     intro j g;have m:=d j 0 g (by simp[Sh.size]);have n:=i j g 0 (.int .u8 l[j]) rfl;generalize e j 0=F at m n;cases n with
     |int _ _ D=>
     simpa[Sh.size]using m
    have:=run_bytesToString (P:=P) w ⟨b,o,Q2⟩ (N l) x l (by
     have:=run_loadCells_list (P:=P) w ⟨b,o,Q2⟩ (l.map (Value.int .u8)) (λj v E=>by
      rw[Addr.add_none];grind)
     simpa using this)
    rw[On]at this;refine⟨_,.string ⟨(nT l).toArray⟩,rfl,?_,.str _ (by simpa[nT]using s)⟩;simp_all[run_convert_bytes_string]
  .simp at h
 .simp at h
theorem Jm{E:cy}(hE:zx E){p:Operand->AV}{n:Nat}{a:Act}(A:(rM E p h n x).val=Q1 f)
  (h0:∀B∈x.op.operands.toList,Rv w U ρ (p B) (a.eval B)) (x2:∀b,U b->b<w.heap.size) (j4:DP E.gl w U) (x4:DO w U ρ h fp)
  (x1:js x.op=Z->∀B∈x.op.operands.toList,∀id∈(p B).ids,id∈fp) (j1:vK x.op=Z->∀id∈fp,∀j∈(h id).ids,j∈fp) (hn:∀j,j<f.nw.length->ρ (n+j)=Q2):
  (∀(K:Act->World->Prop)(Q:Exit->Act->World->Prop),(∀v w' U' ρ',Ef n h f w U ρ v w' U' ρ'->K (a.put x.dst v) w')->x.wp E.P a w K Q)/\∀id o',(id,o')∈f.wr->id∈fp:=by
 have D:∀(r:AV)(B:Value),f={val:=r}->(execOp a.eval x).run E.P w=.ok (.value B) w->Rv w U ρ r B->
   (∀(K:Act->World->Prop)(Q:Exit->Act->World->Prop),(∀v w' U' ρ',Ef n h f w U ρ v w' U' ρ'->K (a.put x.dst v) w')->x.wp E.P a w K Q)/\∀id o',(id,o')∈f.wr->id∈fp:=by
  rintro r B rfl G hr;exact⟨λK Q hK=>fz G (hK _ _ _ _ (Ef.pure x2 hr)),sw⟩
 unfold rM at A;split at A
 case h_1 B H=>
  simp at A;subst A;exact D _ (a.eval B) rfl (by simp[execOp,H]) (h0 B (by simp[H,Op.operands]))
 case h_2 B H=>
  simp at A;subst A;exact D _ (a.eval B) rfl (by simp[execOp,H]) (h0 B (by simp[H,Op.operands]))
 case h_3 c B y H=>
  have hc:=h0 c (by simp[H,Op.operands]);have hx:=h0 B (by simp[H,Op.operands]);have hy:=h0 y (by simp[H,Op.operands]);generalize i3:a.eval c=vc at hc;split at A
  next a1=>rw[a1]at hc;cases hc;simp at A;subst A;exact D _ (a.eval B) rfl (by simp[execOp,H,i3,asBool]) hx
  next a1=>rw[a1]at hc;cases hc;simp at A;subst A;exact D _ (a.eval y) rfl (by simp[execOp,H,i3,asBool]) hy
  next b a1=>rw[a1]at hc;cases hc;simp at A;obtain⟨z,hz,rfl⟩:=A;refine D _ (ite b (a.eval B) (a.eval y)) rfl (by simp[execOp,H,i3,asBool]) (FN hz ?_);cases b<;>simp[hx,hy]
  .simp at A
 case h_4 t B H=>
  have hx:=h0 B (by simp[H,Op.operands]);split at A
  next cs x7=>simp at A;subst A;have⟨h1,h2⟩:=iM x7 hx;refine⟨λK Q hK=>fz (v:=.pointer (Y ⟨w.heap.size,0,Q2⟩)) (w':=w.alloc (.cells (a.eval B).cells t)) ?_ (hK _ _ _ _ (Ef.box x2 (by simpa using hn 0 sw) h1 h2)),sw⟩;simp[execOp,H,Instr.box,newVar,newRow]
  .simp at A
 case h_5 t H=>
  split at A
  .rename_i cs x7;simp at A;subst A;unfold zcG at x7;split at x7
   .rename_i i i0;have hz:∃zv,i.zero=Y zv/\dn w U ρ cs zv.cells.toList/\∀v∈zv.cells.toList,v.oneCell'=Z:=by
     cases a7:i.zero with
     |none=>rw[a7]at x7;cases x7
     | some zv=>
      by_cases hm:zv=.map Q2
      .subst hm;rw[a7]at x7;cases x7;refine⟨_,rfl,⟨rfl,λi r v hr hv=>?_⟩,λv hv=>?_⟩
       .cases i with
        |zero=>cases hr;exact .any _
        |succ i=>simp at hr
       have:v=Value.map Q2:=by simpa[Value.cells]using hv
       subst this;rfl
      grind[iM,sZ]
    have⟨zv,a7,h1,h2⟩:=hz;refine⟨λK Q hK=>fz (v:=.pointer (Y ⟨w.heap.size,0,Q2⟩)) (w':=w.alloc (.cells zv.cells t)) ?_ (hK _ _ _ _ (Ef.box x2 (by simpa using hn 0 sw) h1 h2)),sw⟩;simp[execOp,H,Instr.alloc,zeroValue,typeInfo,i0,a7,newVar,newRow]
   .cases x7
  .simp at A
 case h_6 t B H=>
  have hx:=h0 B (by simp[H,Op.operands]);obtain⟨r,v,rfl,G,hr⟩:=Jl A hx (λid h5=>x4.ob id (x1 (by simp[H,js]) B (by simp[H,Op.operands]) id h5));exact D r v rfl (by simp[execOp,H,G]) hr
 case h_7 t B y H=>
  have hx:=h0 B (by simp[H,Op.operands]);have hy:=h0 y (by simp[H,Op.operands])
  have⟨w',U',G,h9,h8⟩:=RD (n:=n) A hx hy x2 x4 (λid h5=>x1 (by simp[H,js]) B (by simp[H,Op.operands]) id h5)
   (λid h5=>x1 (by simp[H,js]) y (by simp[H,Op.operands]) id (sb h5))
  exact⟨λK Q hK=>sT (by simp[execOp,H,G]) (hK _ _ _ _ h9),h8⟩
 case h_8 t B fl H=>
  have hx:=h0 B (by simp[H,Op.operands]);obtain⟨r,v,rfl,G,hr⟩:=RB A hx;exact D r v rfl (by simp[execOp,H,G]) hr
 case h_9 t B fl H=>
  have hx:=h0 B (by simp[H,Op.operands]);split at A
  .rename_i fd cs a4 x7;simp at A;obtain⟨r,hr,rfl⟩:=A;rw[x7]at hx;generalize x0:a.eval B=vx at hx;cases hx with
   |agg _ vs hl h1 i2=>
   have⟨v,G,a2⟩:=F3 hr hl h1 i2;unfold CZ at a4;split at a4
   next fs hu=>exact D r v rfl (by simp[execOp,H,x0,Instr.field,bN hu,a4,asAgg,G]) a2
   .cases a4
  .simp at A
 case h_10 t B i H=>
  have hx:=h0 B (by simp[H,Op.operands]);have hi:=h0 i (by simp[H,Op.operands]);obtain⟨r,v,rfl,G,hr⟩:=E4 A hx hi (λid h5=>x4.ob id (x1 (by simp[H,js]) B (by simp[H,Op.operands]) id h5));exact D r v rfl (by simp[execOp,H,G]) hr
 case h_11 t B i H=>
  have hx:=h0 B (by simp[H,Op.operands]);have hi:=h0 i (by simp[H,Op.operands]);obtain⟨r,v,rfl,G,hr⟩:=RC A hx hi;exact D r v rfl (by simp[execOp,H,G]) hr
 case h_12 t h6 H=>
  simp at A;obtain⟨r,hr,rfl⟩:=A;have i6:∀o∈h6.toList,Rv w U ρ (p o.2) (a.eval o.2):=λo h=>h0 o.2 (by simp only[H,Op.operands];grind)
  have⟨v,G,a2⟩:=VW (w:=w) (U:=U) (ρ:=ρ) (vparts:=h6.toList.map λo=>(o.1,a.eval o.2)) hr sw (by
   have:=uk (w:=w) (U:=U) (ρ:=ρ) (ev:=p) (g:=a.eval) (h6.toList.map (·.2)) (λB hx=>by
    grind)
   simpa[qL,BH]using this)
  refine D r v rfl ?_ a2;have e1:(h6.toList.map λo=>(o.1,a.eval o.2)).toArray=h6.map λo=>(o.1,a.eval o.2):=by
   apply kZ;simp
  rw[e1]at G;simp[execOp,H,G]
 case h_13 t k5 h6 H=>
  have i6:∀o∈h6.toList,Rv w U ρ (p o.2) (a.eval o.2):=λo h=>h0 o.2 (by simp only[H,Op.operands];grind)
  have i7:dn w U ρ ((h6.toList.map λo=>(o.1,p o.2)).map (·.2)) ((h6.toList.map λo=>(o.1,a.eval o.2)).map (·.2)):=by
   have:=uk (w:=w) (U:=U) (ρ:=ρ) (ev:=p) (g:=a.eval) (h6.toList.map (·.2)) (λB hx=>by
    grind)
   simpa[qL,BH]using this
  have e1:(h6.toList.map λo=>(o.1,a.eval o.2)).toArray=h6.map λo=>(o.1,a.eval o.2):=by
   apply kZ;simp
  split at A
  .have⟨v,w',U',ρ',G,h9,h8⟩:=HM hE.toEnvOk (fp:=fp) (n:=n) (w:=w) (U:=U) (ρ:=ρ) (vps:=h6.toList.map λo=>(o.1,a.eval o.2)) A sw i7 x2 hn;refine⟨λK Q hK=>fz ?_ (hK _ _ _ _ h9),h8⟩;rw[e1]at G;simp[execOp,H,G]
  .have⟨v,w',U',G,h9,h8⟩:=CA hE.toEnvOk (n:=n) (w:=w) (U:=U) (ρ:=ρ) (vps:=h6.toList.map λo=>(o.1,a.eval o.2)) A sw i7 x2 x4 (λid h5=>by
    simp only[BI,bt]at h5;obtain⟨q,⟨o,h,rfl⟩,h5⟩:=h5;exact x1 (by simp[H,js]) o.2 (by simp only[H,Op.operands];grind) id (sb h5))
   refine⟨λK Q hK=>fz ?_ (hK _ _ _ _ h9),h8⟩;rw[e1]at G;simp[execOp,H,G]
 case h_14 op t B y yt H=>
  have hx:=h0 B (by simp[H,Op.operands]);have hy:=h0 y (by simp[H,Op.operands]);obtain⟨r,v,rfl,G,hr⟩:=zeg B y A hx hy;refine D r v rfl ?_ hr;simp only[execOp,H];rw[dB,G];rfl
 case h_15 t B H=>
  have hx:=h0 B (by simp[H,Op.operands]);generalize x0:a.eval B=vx at hx;split at A
  next b hb=>rw[hb]at hx;cases hx;simp at A;subst A;exact D _ (.bool (!b)) rfl (by simp[execOp,H,x0,Op.unary]) (.bool _)
  next b hb=>rw[hb]at hx;cases hx;simp at A;subst A;exact D _ (.bool (!b)) rfl (by simp[execOp,H,x0,Op.unary]) (.kb _)
  .simp at A
 case h_16 t B H=>
  have hx:=h0 B (by simp[H,Op.operands]);generalize x0:a.eval B=vx at hx;split at A
  next k b hb=>rw[hb]at hx;cases hx;simp at A;subst A;exact D _ (.int k (k.wrap (-b))) rfl (by simp[execOp,H,x0,Op.unary,Op.intArith]) (.int _ _ (nO _ _))
  .simp at A
 case h_17 k1 j0 B H=>
  have hx:=h0 B (by simp[H,Op.operands]);generalize x0:a.eval B=vx at hx;split at A
  next d k k' b hs hu hb=>rw[hb]at hx;cases hx;simp at A;subst A;exact D _ (.int k (k.wrap b)) rfl (by simp[execOp,H,x0,convert,bN hs,bN hu,Conv.intToInt]) (.int _ _ (nO _ _))
  next d s hs hu hb=>rw[hb]at hx;have hh:=hx;cases hx;simp at A;subst A;exact D _ _ rfl (by simp[execOp,H,x0,convert,bN hs,bN hu]) hh
  next el e l hs hu hb=>rw[hb]at hx;obtain⟨r,v,rfl,G,hr⟩:=Rz (src:=k1) (dst:=j0) A hs hu hx;exact D r v rfl (by simp[execOp,H,x0,G]) hr
  .simp at A
 case h_18 t B lo hi mx H=>
  have hx:=h0 B (by simp[H,Op.operands])
  have⟨v,U',G,h9,h8⟩:=Od (n:=n) (fp:=fp) (w:=w) (U:=U) (ρ:=ρ) (vlo:=lo.map a.eval) (vhi:=hi.map a.eval) (vmx:=mx.map a.eval) A hx
   (λb v hb hv=>by cases lo<;>simp at hb hv;subst hb;subst hv;exact h0 _ (by simp[H,Op.operands]))
   (λb v hb hv=>by cases hi<;>simp at hb hv;subst hb;subst hv;exact h0 _ (by simp[H,Op.operands]))
   (λb v hb hv=>by cases mx<;>simp at hb hv;subst hb;subst hv;exact h0 _ (by simp[H,Op.operands])) (by cases lo<;>rfl) (by cases hi<;>rfl) (by cases mx<;>rfl) x2 x4 (λid h5=>x1 (by simp[H,js]) B (by simp[H,Op.operands]) id h5)
  exact⟨λK Q hK=>fz (by simp[execOp,H,G]) (hK _ _ _ _ h9),h8⟩
 case h_19 B i H=>
  have hx:=h0 B (by simp[H,Op.operands]);generalize x0:a.eval B=vx at hx;split at A
  .rename_i vs j9;rw[j9]at hx;simp at A;obtain⟨r,hr,rfl⟩:=A;cases hx with
   |tup _ xs hl i2=>
   have i5:i<N xs:=by rw[<-hl];exact(dF.1 hr).1
   exact D r xs[i] rfl (by simp[execOp,H,x0,Instr.extract,aj i5]) (i2 i r _ hr (aj i5))
  .simp at A
 case h_20 fn first x9 H=>
  simp at A;subst A;refine D _ (.func fn (first.toList.map a.eval).toArray (x9.toList.map a.eval).toArray) rfl (by simp[execOp,H,Instr.makeFunc];grind) ?_;have h1:=uk (w:=w) (U:=U) (ρ:=ρ) (ev:=p) (g:=a.eval) first.toList (λB hx=>h0 B (by simp[H,Op.operands];exact .inl (by simpa using hx)))
  have h2:=uk (w:=w) (U:=U) (ρ:=ρ) (ev:=p) (g:=a.eval) x9.toList (λB hx=>h0 B (by simp[H,Op.operands];exact .inr (by simpa using hx)));exact .clo fn _ _ _ _ h1.len h2.len h1.rv h2.rv
 case h_21 B H=>
  have hx:=h0 B (by simp[H,Op.operands]);have k4:=hx;generalize x0:a.eval B=vx at hx;split at A
  next i j x8=>rw[x8]at hx;simp at A;subst A;have hh:=hx;cases hx;exact D _ _ rfl (by simp[execOp,H,x0]) hh
  next cs j x8=>rw[x8]at hx;simp at A;subst A;have hh:=hx;cases hx;exact D _ _ rfl (by simp[execOp,H,x0]) hh
  next i j k l x8=>rw[x8]at hx;simp at A;subst A;have hh:=hx;cases hx;exact D _ _ rfl (by simp[execOp,H,x0]) hh
  .rename_i g as bs x8;rw[x8]at hx;simp at A;subst A;have hh:=hx;cases hx;exact D _ _ rfl (by simp[execOp,H,x0]) hh
  .simp at A
 case h_22 c H=>
  have hm:js x.op=Z:=by simp[H,js]
  have h7:∀B∈c.args.toList,B∈x.op.operands.toList:=by
   intro B hx;simp only[H,Op.operands,Call.operands,Array.toList_append,dl];exact .inr hx
  have a2:=uk (w:=w) (U:=U) (ρ:=ρ) (ev:=p) (g:=a.eval) c.args.toList (λB hx=>h0 B (h7 B hx));unfold Zw at A;split at A
  .rename_i fo x5;have j3:fo∈x.op.operands.toList:=by simp[H,Op.operands,Call.operands,x5]
   have hf:=h0 fo j3;generalize j8:a.eval fo=vf at hf;split at A
   next k first x9 hcl0=>
    split at A
    .rename_i F hF;have a8:=hE.fs k F hF;rw[hcl0]at hf;cases hf with
     |clo _ _ _ i9 i8 h1 h2 h3 h4=>
     have i4:dn w U ρ (first++c.args.toList.map p++x9) (i9++c.args.toList.map a.eval++i8):=(dn.append ⟨h1,h3⟩ a2).append ⟨h2,h4⟩;have⟨a3,h8⟩:=a8.calls w U ρ h n _ _ f fp A i4 x2 j4 x4 (λid h5=>by
      grind[TX,AV.ids,kK]) (j1 (by simp[H,vK])) hn
     refine⟨λK Q hK=>?_,h8⟩;have⟨fn,j2,i1,a9⟩:=a8.fn;have G:(execOp a.eval x).run E.P w=.ok (.enter k (i9++c.args.toList.map a.eval++i8).toArray) w:=by
      simp only[execOp,H,resolve,x5,j8,Deferred.ofValue,dB,Sem.run_pure,qJ,invoke,callFunc,run_program,j2,i1,a9,zA,zm];congr 2;apply kZ;simp
     rw[Oper.wp,G];refine a3.mono λe w' ⟨v,U',ρ',he,h9⟩=>?_
     grind
    .simp at A
   .simp at A
  .rename_i x5;split at A
   .rename_i B t x3 a0;have hc:c.args.toList.length=1:=by have:=congrArg N x3;simpa using this
    obtain⟨xo,a6⟩:∃xo,c.args.toList=[xo]:=List.length_eq_one_iff.1 hc;rw[a6]at x3;simp at x3;subst x3;obtain⟨r,v,rfl,G,hr⟩:=Zy (P:=E.P) (w:=w) (U:=U) (ρ:=ρ) (ty:=x.type) A (h0 xo (h7 xo (by simp[a6]))) (λid h5=>x4.ob id (x1 hm xo (h7 xo (by simp[a6])) id h5));refine D r v rfl ?_ hr;have e1:c.args=#[xo]:=by apply kZ;simpa using a6
    have e2:c.argTypes=#[t]:=by apply kZ;simpa using a0
    simp[execOp,H,resolve,x5,invoke,builtin,e1,e2,G]
   .simp at A
  .rename_i x5;split at A
   .rename_i b B t t' x3 a0;split at A
    .rename_i k2 k3 hu j7;have hc:c.args.toList.length=2:=by have:=congrArg N x3;simpa using this
     obtain⟨bo,xo,x6⟩:∃bo xo,c.args.toList=[bo,xo]:=by
      match hl:c.args.toList,hc with
      |[o,q],_=>exact⟨o,q,rfl⟩
     rw[x6]at x3;simp at x3;obtain⟨rfl,rfl⟩:=x3;have j5:ρ n=Q2:=by
      have h1:f.nw.length=1:=by
       clear hn;unfold oQ at A;repeat' split at A
       all_goals first
        |(simp at A;done)
        |(simp at A;obtain⟨_,rfl⟩:=A;rfl)
      simpa using hn 0 S
     have⟨v,w',U',ρ',G,h9,h8⟩:=BW hE.toEnvOk (w:=w) (U:=U) (ρ:=ρ) (t:=t) (t':=t') (ty:=x.type) A hu j7 (h0 bo (h7 bo (by simp[x6]))) (h0 xo (h7 xo (by simp[x6]))) x2 x4
      (λid h5=>x1 hm bo (h7 bo (by simp[x6])) id h5) (λid h5=>x1 hm xo (h7 xo (by simp[x6])) id h5) j5
     refine⟨λK Q hK=>fz ?_ (hK _ _ _ _ h9),h8⟩;have e1:c.args=#[bo,xo]:=by apply kZ;simpa using x6
     have e2:c.argTypes=#[t,t']:=by apply kZ;simpa using a0
     simp[execOp,H,resolve,x5,invoke,builtin,e1,e2,G]
    .simp at A
   .simp at A
  .rename_i x5;split at A
   .rename_i m k t t' x3 a0;have hc:c.args.toList.length=2:=by have:=congrArg N x3;simpa using this
    obtain⟨mo,ko,x6⟩:∃bo xo,c.args.toList=[bo,xo]:=by
     match hl:c.args.toList,hc with
     |[o,q],_=>exact⟨o,q,rfl⟩
    rw[x6]at x3;simp at x3;obtain⟨rfl,rfl⟩:=x3;have⟨w',G,h9,h8⟩:=Ob (kt:=t') (ty:=x.type) (n:=n) A (h0 mo (h7 mo (by simp[x6]))) (h0 ko (h7 ko (by simp[x6]))) x2 x4 (λid h5=>x1 hm mo (h7 mo (by simp[x6])) id h5);refine⟨λK Q hK=>fz ?_ (hK _ _ _ _ h9),h8⟩;have e1:c.args=#[mo,ko]:=by apply kZ;simpa using x6
    have e2:c.argTypes=#[t,t']:=by apply kZ;simpa using a0
    simp[execOp,H,resolve,x5,invoke,builtin,e1,e2,G]
   .simp at A
  .simp at A
 case h_23 t H=>
  split at A
  .rename_i o0 a5;simp at A;subst A;have j6:o0=.fmap []\/(∃u,o0=.vmap u [])\/∃e,o0=.gmap e []:=by
    unfold zaA at a5;repeat' split at a5
    all_goals first
     |(rw[dV]at a5;obtain⟨e,_,rfl⟩:=a5;exact .inr (.inr ⟨e,rfl⟩))
     |simp_all
   refine⟨λK Q hK=>fz (v:=.map (Y w.heap.size)) (w':=w.alloc (.map #[] 0)) ?_ (hK _ _ _ _ (Ef.mkMap j6 x2 (by simpa using hn 0 sw))),sw⟩;simp[execOp,H,Instr.makeMap,newObj];rfl
  .simp at A
 case h_24 t m k B H=>
  have⟨w',G,h9,h8⟩:=BX (n:=n) A (h0 m (by simp[H,Op.operands])) (h0 k (by simp[H,Op.operands])) (h0 B (by simp[H,Op.operands])) x2 x4 (λid h5=>x1 (by simp[H,js]) m (by simp[H,Op.operands]) id h5);exact⟨λK Q hK=>sT (by simp[execOp,H,G]) (hK _ _ _ _ h9),h8⟩
 case h_25 t m k B H=>
  have⟨w',G,h9,h8⟩:=BX (n:=n) A (h0 m (by simp[H,Op.operands])) (h0 k (by simp[H,Op.operands])) (h0 B (by simp[H,Op.operands])) x2 x4 (λid h5=>x1 (by simp[H,js]) m (by simp[H,Op.operands]) id h5);exact⟨λK Q hK=>sT (by simp[execOp,H,G]) (hK _ _ _ _ h9),h8⟩
 case h_26 t B i two H=>
  obtain⟨r,v,rfl,G,hr⟩:=Oc A (h0 B (by simp[H,Op.operands])) (h0 i (by simp[H,Op.operands])) (λid h5=>x4.ob id (x1 (by simp[H,js]) B (by simp[H,Op.operands]) id h5));exact D r v rfl (by simp[execOp,H,G]) hr
 case h_27 t m k H=>
  have⟨v,w',G,h9,h8⟩:=RA (n:=n) A (h0 m (by simp[H,Op.operands])) (h0 k (by simp[H,Op.operands])) x2 x4 (λid h5=>x1 (by simp[H,js]) m (by simp[H,Op.operands]) id h5);exact⟨λK Q hK=>fz (by simp[execOp,H,G]) (hK _ _ _ _ h9),h8⟩
 case h_28 t m s B H=>
  have⟨w',G,h9,h8⟩:=CB (P:=E.P) (t:=t) (n:=n) A (h0 m (by simp[H,Op.operands])) (h0 s (by simp[H,Op.operands])) (h0 B (by simp[H,Op.operands])) x2 x4 (λid h5=>x1 (by simp[H,js]) m (by simp[H,Op.operands]) id h5);exact⟨λK Q hK=>sT (by simp[execOp,H,G]) (hK _ _ _ _ h9),h8⟩
 case h_29=>simp at A
end
structure eU where
 w0:World
 U0:Nat->Prop
 B0:Nat->Prop
 ρ0:Nat->Option Value
structure Wd (gl:Nat->AV) (C:eU) (w:World) (U:Nat->Prop):Prop where
 ext:lz C.w0 w
 same:∀b,b<C.w0.heap.size->¬C.B0 b->w.heap[b]?=C.w0.heap[b]?
 ub:∀b,U b->b<w.heap.size
 u1:∀b,b<C.w0.heap.size->U b->C.U0 b
 u2:∀b,b<C.w0.heap.size->C.U0 b->¬C.B0 b->U b
 gl:DP gl w U
structure fC (C:eU) (w:World) (U:Nat->Prop) (ρ:Nat->Option Value) (hp:Nat->AO):Prop where
 ob:∀id,bz w U ρ id (hp id)
 inj:∀id1 id2 b,ar ρ id1 (hp id1) b->ar ρ id2 (hp id2) b->id1=id2
 blk:∀id b,ar ρ id (hp id) b->C.B0 b\/C.w0.heap.size<=b
section
variable {gl:Nat->AV} {C:eU} {w:World} {U:Nat->Prop} {ρ:Nat->Option Value}
variable {n:Nat}{h:Nat->AO}{v:Value}
theorem D5{hp hp':Nat->AO}{f:gB}{z:World}{U':Nat->Prop}{ρ':Nat->Option Value}(hW:Wd gl C w U)(hH:fC C w U ρ hp)(d:Ef n h f w U ρ v z U' ρ')
  (G:∀id o,(id,o)∈f.wr->h id=hp id)
  (h1:∀id,(∃o,(id,o)∈f.wr)->∃o,(id,o)∈f.wr/\hp' id=o) (h2:∀(j:Nat) o,f.nw[j]?=Y o->hp' (n+j)=o)
  (h3:∀id,(¬∃o,(id,o)∈f.wr)->(id<n\/n+f.nw.length<=id)->hp' id=hp id):
  Wd gl C z U'/\fC C z U' ρ' hp'/\∀{c:AV}{x:Value},Rv w U ρ c x->Rv z U' ρ' c x:=by
 have h7:∀id o b,(id,o)∈f.wr->ar ρ id (h id) b->U b/\b<w.heap.size:=by
  intro id o b p y;rw[G id o p]at y;exact(hH.ob id).inU y
 have hk:∀b,b<w.heap.size->¬U b->z.heap[b]?=w.heap[b]?:=λb D hU=>d.same b D (λid o p y=>hU (h7 id o b p y).1)
 have x1:∀{c:AV}{x:Value},Rv w U ρ c x->Rv z U' ρ' c x:=λa=>a.mono d.ext.sz hk d.u1 d.rhon
 have H:∀id,(∃o,(id,o)∈f.wr/\hp' id=o)\/(n<=id/\∃o,f.nw[id-n]?=Y o/\hp' id=o)\/((¬∃o,(id,o)∈f.wr)/\(id<n\/n+f.nw.length<=id)/\hp' id=hp id):=by
  intro id;by_cases hw:∃o,(id,o)∈f.wr
  .exact .inl (h1 id hw)
  .grind
 have h0:∀id,(¬∃o,(id,o)∈f.wr)->∀b,ar ρ id (hp id) b->b<w.heap.size/\∀q o',(q,o')∈f.wr->¬ar ρ q (h q) b:=by
  intro id hw b y;refine⟨((hH.ob id).inU y).2,λq o' A B=>?_⟩;rw[G q o' A]at B;have:=hH.inj id q b y B;subst this;exact hw ⟨o',A⟩
 have m:∀id,(id<n\/n+f.nw.length<=id)->∀o b,ar ρ' id o b->ar ρ id o b:=by
  rintro id p o b ⟨a,v,hv,D⟩;rw[d.rho id p]at hv;exact⟨a,v,hv,D⟩
 have t:∀id b,((∃o,(id,o)∈f.wr/\hp' id=o)\/(n<=id/\∃o,f.nw[id-n]?=Y o/\hp' id=o))->ar ρ' id (hp' id) b->
   w.heap.size<=b\/∃q o',(q,o')∈f.wr/\ar ρ q (hp q) b:=by
  intro id b p y;have x3:((id,hp' id)∈f.wr\/(n<=id/\f.nw[id-n]?=Y (hp' id))):=by
   rcases p with⟨o,a,rfl⟩|⟨a,o,h',rfl⟩
   .exact .inl a
   .exact .inr ⟨a,h'⟩
  rcases d.own id _ b x3 y with a|⟨q,o',A,B⟩
  .exact .inl a
  .grind
 refine⟨⟨hW.ext.trans d.ext,?_,d.ub,?_,?_,?_⟩,⟨?_,?_,?_⟩,x1⟩
 .intro b D hB;rw[d.same b (ie D hW.ext.sz) (λid o p y=>?_)]
  .exact hW.same b D hB
  .rw[G id o p]at y;rcases hH.blk id b y with a|a
   .exact hB a
   .omega
 .intro b D hU;exact hW.u1 b D (d.u1 b (ie D hW.ext.sz) hU)
 .intro b D hU hB;refine d.u2 b (ie D hW.ext.sz) (hW.u2 b D hU hB) (λid o p y=>?_);rw[G id o p]at y;rcases hH.blk id b y with a|a
  .exact hB a
  .omega
 .intro g;exact(hW.gl g).mono d.ext.sz hk d.u1 (λ_ _ a=>by cases a)
 .intro id;rcases H id with⟨o,a,e⟩|⟨a,o,h',e⟩|⟨hw,p,e⟩
  .rw[e];exact d.wr id o a
  .rw[e];have:=d.nw (id-n) o h';simp_all
  .rw[e];refine(hH.ob id).mono d.ext.sz hk d.u1 d.rhon (λb y=>?_);have⟨D,h6⟩:=h0 id hw b y;exact⟨d.same b D h6,d.u2 b D ((hH.ob id).inU y).1 h6⟩
 .intro l i b u s;have k1:=H l;have k2:=H i
  have x2:∀l i,((∃o,(l,o)∈f.wr/\hp' l=o)\/(n<=l/\∃o,f.nw[l-n]?=Y o/\hp' l=o))->
    ((¬∃o,(i,o)∈f.wr)/\(i<n\/n+f.nw.length<=i)/\hp' i=hp i)->ar ρ' l (hp' l) b->ar ρ' i (hp' i) b->False:=by
   intro l i k1 ⟨hw,p,e⟩ u s;rw[e]at s;have x0:=m i p _ b s;have⟨D,h6⟩:=h0 i hw b x0;rcases t l b k1 u with a|⟨q,o',A,B⟩
   .omega
   .grind
  rcases k1 with k1|k1|k1<;>rcases k2 with k2|k2|k2
  .have⟨o1,E,e1⟩:=k1;have⟨o2,F,e2⟩:=k2
   rw[e1]at u;rw[e2]at s;exact d.inj l o1 i o2 b (.inl E) (.inl F) u s
  .have⟨o1,E,e1⟩:=k1;have⟨h5,o2,F,e2⟩:=k2
   rw[e1]at u;rw[e2]at s;exact d.inj l o1 i o2 b (.inl E) (.inr ⟨h5,F⟩) u s
  .grind
  .have⟨h4,o1,E,e1⟩:=k1;have⟨o2,F,e2⟩:=k2
   rw[e1]at u;rw[e2]at s;exact d.inj l o1 i o2 b (.inr ⟨h4,E⟩) (.inl F) u s
  .have⟨h4,o1,E,e1⟩:=k1;have⟨h5,o2,F,e2⟩:=k2
   rw[e1]at u;rw[e2]at s;exact d.inj l o1 i o2 b (.inr ⟨h4,E⟩) (.inr ⟨h5,F⟩) u s
  .grind
  .grind
  .grind
  .have⟨_,h8,e1⟩:=k1;have⟨_,h9,e2⟩:=k2
   rw[e1]at u;rw[e2]at s;exact hH.inj l i b (m l h8 _ b u) (m i h9 _ b s)
 .intro id b y;rcases H id with k|k|⟨_,p,e⟩
  .rcases t id b (.inl k) y with a|⟨q,o',A,B⟩
   .exact .inr (aV hW.ext.sz a)
   .exact hH.blk q b B
  .rcases t id b (.inr k) y with a|⟨q,o',A,B⟩
   .exact .inr (aV hW.ext.sz a)
   .exact hH.blk q b B
  .rw[e]at y;exact hH.blk id b (m id p _ b y)
structure BB (C:eU) (st:RS) (a:Act) (w:World) (U:Nat->Prop) (ρ:Nat->Option Value):Prop where
 tm:dn w U ρ st.tmps a.tmps.toList
 hp:fC C w U ρ st.hp
 new:∀id,st.heap.length<=id->ρ id=Q2
 kn:∀d b,st.known.lookup d=Y b->a.tmps[d]?=Y (.bool b)
 df:a.defers=[]
 r0:∀id v,C.ρ0 id=Y v->ρ id=Y v
variable {E:cy}{tmps:List AV}{known:List (Nat×Bool)}{b:Act}
theorem K7(e:dn w U ρ tmps b.tmps.toList)(j:∀d a,known.lookup d=Y a->b.tmps[d]?=Y (.bool a))(i:DP E.gl w U)(x:Operand):
  Rv w U ρ (yY E tmps known x) (b.eval x):=by
 cases x with
 | tmp t=>
  simp only[yY,Act.eval];cases n:known.lookup t with
  | some a=>
   have:=j t a n;simp only[qX,this,bK];exact .kb a
  | none=>
   by_cases l:t<N tmps
   .have c:t<b.tmps.toList.length:=by rw[<-e.len];exact l
    have m:b.tmps.getD t undef=b.tmps.toList[t]:=by
     simp only[Array.length_toList]at c;simp[Array.getD,c]
    rw[m];exact e.rv t _ _ (by simp_all) (aj c)
   .rw[bD,fa (Nat.le_of_not_lt l)];exact .any _
 |const v=>exact sZ v
 |global g=>exact(i g).mono (zR _) (λ_ _ _=>rfl) (λ_ _ h=>h) (λ_ _ h=>by cases h)
 |func f=>simp only[yY,Act.eval];exact .clo (.func f) [] [] [] [] rfl rfl sw sw
theorem cL:∀(wr:List (Nat×AO))(h:List AO),(pz h wr).length=N h
 |[],_=>rfl
 |(i,o)::r,h=>by simp[pz,cL r]
theorem uy:∀(wr:List (Nat×AO))(h:List AO)(id:Nat),(¬∃o,(id,o)∈wr)->(pz h wr).getD id .dead=h.getD id .dead
 |[],_,_,_=>rfl
 | (i,o)::r,h,id,hn=>by
  rw[pz,uy r _ id (λ⟨a,x⟩=>hn ⟨a,by simp[x]⟩)];grind
theorem uz:∀(wr:List (Nat×AO))(h:List AO)(id:Nat),(∀p∈wr,p.1<N h)->(∃o,(id,o)∈wr)->∃o,(id,o)∈wr/\(pz h wr).getD id .dead=o
 |[],_,_,_,⟨_,h⟩=>by simp at h
 | (i,o)::r,h,id,hl,hex=>by
  by_cases b:∃o,(id,o)∈r
  .have⟨a,c,d⟩:=uz r (h.set i o) id (λp e=>by grind) b;exact⟨a,by simp[c],d⟩
  .have⟨a,x⟩:=hex;simp only[ce,cQ]at x;rcases x with⟨rfl,rfl⟩|x
   .refine⟨a,sw,?_⟩;rw[pz,uy r _ _ b];simp_all
   .exact(b ⟨a,x⟩).elim
theorem nI{d:Option Tmp}{c:AV}(h:dn w U ρ tmps b.tmps.toList)(l:Rv w U ρ c v):dn w U ρ (ng tmps d c) (b.put d v).tmps.toList:=by
 cases d with
 |none=>exact h
 | some d=>
  simp only[ng,Act.put];refine⟨by simp[h.len],λj e i a x=>?_⟩;simp only[Array.toList_setIfInBounds]at x;by_cases g:d=j
  .grind
  .rw[D0 g]at a x;exact h.rv j e i a x
theorem Jt{j:Option Tmp}(h:∀j x,known.lookup j=Y x->b.tmps[j]?=Y (.bool x)):
  ∀d x,(vZ known j).lookup d=Y x->(b.put j v).tmps[d]?=Y (.bool x):=by
 intro d x a;cases j with
 |none=>exact h d x a
 | some j=>
  simp only[vZ]at a;have c:∀(k:List (Nat×Bool)),(k.filter λp=>p.1!=j).lookup d=Y x->d≠j/\k.lookup d=Y x:=by
   intro k
   induction k with
   |nil=>simp
   | cons p k i=>
    grind
  have⟨e,g⟩:=c known a;simp only[Act.put];grind
variable {x:Oper}
theorem Fg{p:Operand->AV}(a:Oo h p x=Z):
  (js x.op=Z->∀b∈x.op.operands.toList,∀id∈(p b).ids,id∈xn h p x)/\(vK x.op=Z->∀id∈xn h p x,∀j∈(h id).ids,j∈xn h p x):=by
 unfold Oo at a;constructor
 .intro c b g id hid;simp only[c,bW,Bool.false_or,aO,ep,Ik]at a;exact a.1 id (kK (List.mem_map_of_mem g) hid)
 .intro c id hid j hj;have d:js x.op=Z:=by
   cases e:x.op<;>rw[e]at c<;>simp_all[vK,js]
  grind
variable {s:RS}
theorem C2(hE:zx E){A:RS}{a:Act}(h:(HQ E x s).val=Y A)(g:BB C s a w U ρ)(o:Wd E.gl C w U)
  (K:Act->World->Prop) (Q:Exit->Act->World->Prop) (hK:∀a' q n ρ',BB C A a' q n ρ'->Wd E.gl C q n->K a' q):x.wp E.P a w K Q:=by
 unfold HQ at h;split at h
 .rename_i B;simp only[Tr.val_bind,gE]at h;have⟨f,hf,h⟩:=h;split at h
  .rename_i i;simp at h;subst h;have⟨D,y⟩:=Fg B;have hn:∀j,j<f.nw.length->ρ (s.heap.length+j)=Q2:=λj _=>g.new _ S
   have⟨G,h4⟩:=Jm hE (w:=w) (U:=U) (ρ:=ρ) (a:=a) (fp:=xn s.hp (yY E s.tmps s.known) x) hf (λd _=>K7 g.tm g.kn o.gl d) o.ub o.gl
    ⟨λid _=>g.hp.ob id,λH _ h0 _ b=>g.hp.inj H h0 b⟩ D y hn
   refine G K Q (λv q n ρ' l=>?_);simp only[ep,aO,bc]at i
   replace i:∀p∈f.wr,p.1<s.heap.length:=λp hp=>(i p hp).1
   have h3:=uz f.wr s.heap
   have⟨u,t,m⟩:=D5 (hp':=λid=>(pz s.heap f.wr++f.nw).getD id .dead) o g.hp l (λ_ _ _=>rfl)
    (λid z=>by
     have⟨o',h1,h2⟩:=uz f.wr s.heap id i z;refine⟨o',h1,?_⟩;have:id<s.heap.length:=i _ h1;rw[bD,rz (by rw[cL];exact this),<-bD];exact h2)
    (λj o' hj=>by
     rw[bD,pE (by rw[cL];omega),cL,show s.heap.length+j-s.heap.length=j by omega,hj];rfl)
    (λid F e=>by
     rcases e with e|e
     .rw[bD,rz (by rw[cL];exact e),<-bD];exact uy f.wr s.heap id F
     .simp only[RS.hp];rw[bD,bD,fa (by simp[cL];omega),fa S])
   refine hK _ _ n ρ' ⟨nI ⟨g.tm.len,λj c d hx hv=>m (g.tm.rv j c d hx hv)⟩ l.val,t,?_,Jt g.kn,?_,λid v h=>l.rhon id v (g.r0 id v h)⟩ u
   .intro id e;simp only[jK,cL]at e;rw[l.rho id (.inr e)];exact g.new id S
   .cases hd:x.dst<;>simp[Act.put,g.df]
  .simp at h
 .simp at h
theorem pq(h:BB C s b w U ρ):BB C (ol x s) (b.put x.dst undef) w U ρ:=by refine⟨nI h.tm (.tup [] [] rfl sw),h.hp,h.new,Jt h.kn,?_,h.r0⟩;cases a:x.dst<;>simp[Act.put,h.df]
variable {o:List Oper}
theorem ZL(p:BB C s b w U ρ)(l:DP E.gl w U){d:Nat}(t:(o[n]?).bind (·.dst)=Y d):
  (∀h,yY E s.tmps s.known (.tmp d)=.kb h->yielded o.toArray b.tmps n=Y h/\b.tmps[d]?=Y (.bool h))/\
  (∀h,yY E s.tmps s.known (.tmp d)=.bool h->yielded o.toArray b.tmps n=Y h/\b.tmps[d]?=Y (.bool h))/\
  (∀q,yY E s.tmps s.known (.tmp d)=.tup q->yielded o.toArray b.tmps n=Q2):=by
 have a:=K7 (E:=E) p.tm p.kn l (.tmp d);have i:(o.toArray[n]?).bind (·.dst)=Y d:=by simpa using t
 have c:∀h,b.eval (.tmp d)=.bool h->yielded o.toArray b.tmps n=Y h/\b.tmps[d]?=Y (.bool h):=by
  intro h e;simp only[Act.eval,qX]at e;have:b.tmps[d]?=Y (.bool h):=by
   cases j:b.tmps[d]? with
   |none=>rw[j]at e;simp[undef]at e
   |some v=>rw[j]at e;simp at e;rw[e]
  exact⟨by unfold yielded;rw[i];simp[this],this⟩
 refine⟨λh e=>?_,λh e=>?_,λq m=>?_⟩
 .rw[e]at a;generalize g:b.eval (.tmp d)=x at a;cases a;exact c h g
 .rw[e]at a;generalize g:b.eval (.tmp d)=x at a;cases a;exact c h g
 .rw[m]at a;generalize g:b.eval (.tmp d)=x at a;cases a with
  |tup _ u _ _=>
  simp only[Act.eval,qX]at g;cases j:b.tmps[d]? with
  |none=>unfold yielded;rw[i];simp[j]
  |some v=>rw[j]at g;simp at g;subst g;unfold yielded;rw[i];simp[j]
theorem pZ{x:Bool}(a:BB C s b w U ρ)(e:b.tmps[n]?=Y (.bool x)):BB C {s with known:=(n,x)::s.known} b w U ρ:=by
 refine⟨a.tm,a.hp,a.new,λd c h=>?_,a.df,a.r0⟩;rw[List.lookup_cons]at h;split at h
 .simp_all
 .exact a.kn d c h
theorem Kh(q:zx E){A:RS}(h:(wz E o s x).val=Y A)(g:BB C s b w U ρ)(e:Wd E.gl C w U)
  (K:Act->World->Prop) (Q:Exit->Act->World->Prop) (i:∀H F G ρ',BB C A H F G ρ'->Wd E.gl C F G->K H F):
  if Region.wanted x (yielded o.toArray b.tmps)then x.wp E.P b w K Q\/(x.asks E.P b w/\LetsOut Q)else K (b.put x.dst undef) w:=by
 unfold wz at h;split at h
 next n=>simp only[Region.wanted,n,zi];exact .inl (C2 q h g e K Q i)
 .rename_i j m n;split at h
  .rename_i v;simp at h;subst h;have p:yielded o.toArray b.tmps j=Q2:=by
    have y:(o.toArray[j]?).bind (·.dst)=Q2:=by simpa using v
    unfold yielded;rw[y];rfl
   simp only[Region.wanted,n,p];rw[zh sw];exact i _ _ U ρ (pq g) e
  .rename_i d v;have⟨z,u,B⟩:=ZL (E:=E) g e.gl v;split at h
   .rename_i a t;have⟨p,_⟩:=z a t;simp only[Region.wanted,n,p];split at h
    next l=>simp at l;subst l;rw[zf sw];exact .inl (C2 q h g e K Q i)
    next l=>simp at h;subst h;rw[zh (by simpa using l)];exact i _ _ U ρ (pq g) e
   next vs D=>simp at h;subst h;simp only[Region.wanted,n,B vs D];rw[zh sw];exact i _ _ U ρ (pq g) e
   .rename_i a t;have⟨p,c⟩:=u a t;simp only[Region.wanted,n,p];cases a
    .simp only[Q8,zA,zm]at h;cases m
     .simp only[zA,zm]at h;rw[zf sw];exact .inl (C2 q h (pZ g c) e K Q i)
     .simp at h;subst h;rw[zh sw];exact i _ _ U ρ (pq (pZ g c)) e
    .simp only[Q8,zi]at h;cases m
     .simp at h;subst h;rw[zh sw];exact i _ _ U ρ (pq (pZ g c)) e
     .simp only[zi]at h;rw[zf sw];exact .inl (C2 q h (pZ g c) e K Q i)
   .simp at h
theorem E6{E:cy}(t:zx E){o:List Oper}{Q:Exit->Act->World->Prop}{s:RS}(u:∀g d e q,BB C s g d e q->Wd E.gl C d e->Q .normal g d):
  ∀(r:List Oper)(k:Nat)(i:RS)(a:Act)(w:World)(U:Nat->Prop)(ρ:Nat->Option Value),r=o.drop k->(cu E o r i).val=Y s->BB C i a w U ρ->Wd E.gl C w U->
   wpOps E.P o.toArray Q (List.range' k (N r)) a w
 | [],k,i,a,w,U,ρ,_,h,m,j=>by
  simp[cu]at h;subst h;exact u a w U ρ m j
 | x::r,k,i,a,w,U,ρ,hr,h,m,j=>by
  simp only[cu,Tr.val_bind,gE]at h;have⟨p,v,y⟩:=h;have c:o.toArray[k]?=Y x:=by
   have:o[k]?=Y x:=by
    have:=congrArg (·[0]?) hr;simpa[D2]using this.symm
   simpa using this
  have b:r=o.drop (k+1):=by
   have:=congrArg List.tail hr;simpa using this
  simp only[fB,List.range'_succ,wpOps,c];exact Kh t v m j _ _ (λg d e q n l=>E6 t u r (k+1) p g d e q b y n l)
end
structure CM (E:cy) (ops:List Oper) (o:Oper) (s s':RS) (r:Ih):Prop where
 /--what is known of slots is so -/
 tm:∃v,s'.tmps=ng s.tmps o.dst v
 len:s.heap.length<=s'.heap.length
 way:(∃(kn:List (Nat×Bool))(f:gB),(∀d b,kn.lookup d=Y b->s.tmps.getD d .any=.bool b\/s.tmps.getD d .any=.kb b)/\
   (∀j want,o.guard=Y (j,want)->∃d,(ops[j]?).bind (·.dst)=Y d/\(s.tmps.getD d .any=.bool want\/s.tmps.getD d .any=.kb want))/\
   (rM E (yY E s.tmps kn) s.hp s.heap.length o).val=Y f/\Oo s.hp (yY E s.tmps kn) o=Z/\s'.tmps=ng s.tmps o.dst f.val/\s'.heap=pz s.heap f.wr++f.nw/\
   (∀p∈f.wr,p.1<s.heap.length/\p.1∈xn s.hp (yY E s.tmps kn) o)/\r={fp:=xn s.hp (yY E s.tmps kn) o,wr:=f.wr.map (·.1),base:=s.heap.length,nw:=f.nw.length})\/
  ((∃j want,o.guard=Y (j,want)/\((ops[j]?).bind (·.dst)=Q2\/∃d,(ops[j]?).bind (·.dst)=Y d/\(s.tmps.getD d .any=.bool (!want)\/s.tmps.getD d .any=.kb (!want)\/∃vs,s.tmps.getD d .any=.tup vs)))/\
   s'.tmps=ng s.tmps o.dst (.tup [])/\s'.heap=s.heap/\r={})
def KnA(s:RS):Prop:=∀d b,s.known.lookup d=Y b->s.tmps.getD d .any=.bool b\/s.tmps.getD d .any=.kb b
variable {j:Option Tmp}
theorem rQ{known:List (Nat×Bool)}{n:Nat}{b:Bool}(h:(vZ known j).lookup n=Y b):known.lookup n=Y b/\j≠Y n:=by
 cases j with
 |none=>exact⟨h,sw⟩
 | some j=>
  simp only[vZ]at h;have x:∀(k:List (Nat×Bool)),(k.filter λp=>p.1!=j).lookup n=Y b->n≠j/\k.lookup n=Y b:=by
   intro k
   induction k with
   |nil=>simp
   | cons p k i=>
    grind
  grind
theorem tI{tmps:List AV}{c:AV}{n:Nat}(h:j≠Y n):(ng tmps j c).getD n .any=tmps.getD n .any:=by
 cases j with
 |none=>rfl
 | some j=>
  simp only[ng,bD];simp_all
variable {s:RS}
theorem KnA.step{x:Oper}{tm:List AV}{c:AV}(h:KnA s)(a:tm=ng s.tmps x.dst c):∀d b,(vZ s.known x.dst).lookup d=Y b->tm.getD d .any=.bool b\/tm.getD d .any=.kb b:=by intro d b i;have⟨e,g⟩:=rQ i;rw[a,tI g];exact h d b e
variable {E:cy}{o:List Oper}
theorem xp{x:Oper}{A:RS}(g:List (Nat×Bool))(h:(HQ E x {s with known:=g}).val=Y A)(i:∀d b,g.lookup d=Y b->s.tmps.getD d .any=.bool b\/s.tmps.getD d .any=.kb b)
  (q:∀j a,x.guard=Y (j,a)->∃d,(o[j]?).bind (·.dst)=Y d/\(s.tmps.getD d .any=.bool a\/s.tmps.getD d .any=.kb a)):∃r,CM E o x s A r/\A.log=s.log++[r]/\KnA A:=by
 unfold HQ at h;split at h
 .rename_i e;simp only[Tr.val_bind,gE]at h;have⟨f,n,h⟩:=h;split at h
  .rename_i c;simp at h;subst h;refine⟨_,⟨⟨f.val,rfl⟩,by simp[cL],.inl ⟨g,f,i,q,n,e,rfl,rfl,?_,rfl⟩⟩,rfl,?_⟩
   .intro p u;simp only[ep,aO,bc,Ik]at c;exact c p u
   .intro d b t;have⟨l,m⟩:=rQ t;show(ng s.tmps x.dst f.val).getD d .any=.bool b\/(ng s.tmps x.dst f.val).getD d .any=.kb b;rw[tI m];exact i d b l
  .simp at h
 .simp at h
theorem mS{h:Oper}(a:List (Nat×Bool))(i:∀d b,a.lookup d=Y b->s.tmps.getD d .any=.bool b\/s.tmps.getD d .any=.kb b)
  (g:∃j x,h.guard=Y (j,x)/\((o[j]?).bind (·.dst)=Q2\/∃d,(o[j]?).bind (·.dst)=Y d/\(s.tmps.getD d .any=.bool (!x)\/s.tmps.getD d .any=.kb (!x)\/∃v,s.tmps.getD d .any=.tup v))):
  ∃r,CM E o h s (ol h {s with known:=a}) r/\(ol h {s with known:=a}).log=s.log++[r]/\KnA (ol h {s with known:=a}):=by refine⟨{},⟨⟨_,rfl⟩,zR _,.inr ⟨g,rfl,rfl,rfl⟩⟩,rfl,?_⟩;intro d b l;have⟨c,e⟩:=rQ l;show(ng s.tmps h.dst (.tup [])).getD d .any=.bool b\/(ng s.tmps h.dst (.tup [])).getD d .any=.kb b;rw[tI e];exact i d b c
theorem Hb{a:Oper}{A:RS}(h:(wz E o s a).val=Y A)(n:KnA s):∃r,CM E o a s A r/\A.log=s.log++[r]/\KnA A:=by
 have e:∀d x,yY E s.tmps s.known (.tmp d)=x->(∀b,x=.bool b->s.tmps.getD d .any=.bool b)/\(∀b,x=.kb b->s.tmps.getD d .any=.bool b\/s.tmps.getD d .any=.kb b)/\(∀B,x=.tup B->s.tmps.getD d .any=.tup B):=by
  intro d x F;simp only[yY]at F;cases u:s.known.lookup d with
  | some b=>
   rw[u]at F;subst F;exact⟨sw,λp y=>by cases y;exact n d _ u,sw⟩
  | none=>
   simp_all
 unfold wz at h;split at h
 next m=>exact xp s.known h n (λj c z=>by rw[m]at z;cases z)
 .rename_i j c m;split at h
  next t=>simp at h;subst h;exact mS s.known n ⟨j,c,m,.inl t⟩
  .rename_i d t;split at h
   .rename_i b y;have D:=(e d _ y).2.1 b rfl;split at h
    next i=>simp at i;subst i;exact xp s.known h n (λH g z=>by simp_all)
    .rename_i i;simp at h;subst h;have:b=!c:=by revert i;cases b<;>cases c<;>simp
     subst this;exact mS s.known n ⟨j,c,m,.inr ⟨d,t,D.elim .inl (λh=>.inr (.inl h))⟩⟩
   next B G=>simp at h;subst h;exact mS s.known n ⟨j,c,m,.inr ⟨d,t,.inr (.inr ⟨B,(e d _ G).q B rfl⟩)⟩⟩
   .rename_i b y;have D:=(e d _ y).1 b rfl;have l:∀x,x=b->∀v p,((d,x)::s.known).lookup v=Y p->s.tmps.getD v .any=.bool p\/s.tmps.getD v .any=.kb p:=by
     intro x F v p u;rw[List.lookup_cons]at u;split at u
     .simp_all
     .exact n v p u
    cases b
    .simp only[Q8,zA,zm]at h;cases c
     .simp only[zA,zm]at h;exact xp _ h (l M rfl) (λH g z=>by simp_all)
     .simp at h;subst h;exact mS _ (l M rfl) ⟨j,Z,m,.inr ⟨d,t,.inl D⟩⟩
    .simp only[Q8,zi]at h;cases c
     .simp at h;subst h;exact mS _ (l Z rfl) ⟨j,M,m,.inr ⟨d,t,.inl D⟩⟩
     .simp only[zi]at h;exact xp _ h (l Z rfl) (λH g z=>by simp_all)
   .simp at h
theorem uV{E:cy}{o:List Oper}:∀(r:List Oper)(s b:RS),(cu E o r s).val=Y b->KnA s->∃(a:Nat->RS)(R:Nat->Ih),a 0=s/\a (N r)=b/\
  (∀i x,r[i]?=Y x->CM E o x (a i) (a (i+1)) (R i))/\b.log=s.log++(List.range (N r)).map R/\KnA b
 | [],s,b,h,d=>by
  simp[cu]at h;subst h;exact⟨λ_=>s,λ_=>{},rfl,rfl,sw,sw,d⟩
 | x::r,s,b,h,d=>by
  simp only[cu,Tr.val_bind,gE]at h;have⟨q,l,m⟩:=h;have⟨p,u,c,e⟩:=Hb l d;have⟨a,R,e0,j,t,n,g⟩:=uV r q b m e;refine⟨λi=>match i with|0=>s|i+1=>a i,λi=>match i with|0=>p|i+1=>R i,rfl,j,?_,?_,g⟩
  .grind
  .rw[n,c];simp[List.range_succ_eq_map,BH]
end Cad
