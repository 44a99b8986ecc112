/- What each operation says. -/
import Derived.Test.YtgcekmmgphhofaaGreatDoorR05
namespace Cad
open Go
open List renaming length->M
open Bool renaming false->J,true->Z
open Option renaming none->Q2,some->Y
open Tr (chk br)
open AV (nils agg tup ptr kb str)
open AV renaming sl->O
open Cad renaming AV->R,Tr->K,ow->S,Sem->N
section
variable {P:Program} {w:World} {U:Nat->Prop} {ρ:Nat->Option Value}
theorem Af(a b:zD):((⟨a.toArray⟩:ByteArray)==⟨b.toArray⟩)=(a==b):=by show(a.toArray==b.toArray)=(a==b);simp
abbrev wb(es:List (zD×R)):List Value:=es.map λp=>Value.string ⟨p.1.toArray⟩
theorem E2:∀(es:List (zD×R))(ents:List MapEntry)(s:zD)(i:Nat),ents.map (·.key)=wb es->es.any (λp=>p.1==s)=J->
  Instr.findNow .string (.string ⟨s.toArray⟩) ents i=Y Q2
 |[],[],_,_,_,_=>rfl
 |[],_::_,_,_,h,_=>by simp at h
 |_::_,[],_,_,h,_=>by simp at h
 | p::es,e::ents,s,i,h,hn=>by
  simp only[wb,dc,oQ]at h;simp only[List.any_cons,Bool.or_eq_false_iff]at hn;have x:(s==p.1)=J:=by
   have:=hn.1;simp only[fH,ne_eq]at this|-;exact λe=>this e.symm
  simp only[Instr.findNow,h.1,Instr.sameNow,Af,x];exact E2 es ents s (i+1) h.2 hn.2
theorem E1:∀(es:List (zD×R))(ents:List MapEntry)(s:zD)(i:Nat)(z:K fb)(f:fb),ents.map (·.key)=wb es->cu w U ρ (es.map (·.2)) (ents.map (·.val))->(Px es s z).val=Y f->
  (∃j v a,Instr.findNow .string (.string ⟨s.toArray⟩) ents i=Y (Y (j,v))/\Rv w U ρ a v/\f={val:=a})\/(Instr.findNow .string (.string ⟨s.toArray⟩) ents i=Y Q2/\z.val=Y f)
 |[],[],_,_,_,_,_,_,x=>.inr ⟨rfl,x⟩
 |[],_::_,_,_,_,_,h,_,_=>by simp at h
 |_::_,[],_,_,_,_,h,_,_=>by simp at h
 | p::es,e::ents,s,i,z,f,h,hr,x=>by
  simp only[wb,dc,oQ]at h;have⟨k,a⟩:=p;simp only[Px,Tr.val]at x;simp only[Instr.findNow,h.1,Instr.sameNow,Af];cases d:s==k with
  | true=>
   rw[d]at x;simp[ret]at x;subst x;exact .inl ⟨i,e.val,a,rfl,hr.rv 0 a e.val rfl rfl,rfl⟩
  | false=>
   rw[d]at x;simp at x;refine E1 es ents s (i+1) z f h.2 ⟨by have:=hr.len;simpa using this,λj c v g b=>hr.rv (j+1) c v (by simpa using g) (by simpa using b)⟩ x
theorem jt.allocO(w:World)(o:Obj):jt w (w.alloc o) where
 sz:=by rw[ba];omega
 os:=rfl
 out:=rfl
 tape:=rfl
variable {n:Nat}{h:Nat->AO}
theorem Ef.mkMap{o:AO}(i:o=.fmap []\/(∃u,o=.vmap u [])\/∃e,o=.gmap e [])(p:∀b,U b->b<w.heap.size)(l:ρ n=Q2):
  Ef n h {val:=.mp n,nw:=[o]} w U ρ (.map (Y w.heap.size)) (w.alloc (.map #[] 0)) (λb=>U b\/b=w.heap.size) (iM ρ n (.map (Y w.heap.size))):=by
 have m:∀b,b<w.heap.size->(U b\/b=w.heap.size)->U b:=λb c x=>x.elim id (λe=>by omega)
 refine⟨jt.allocO w _,.mp n _ (by simp[iM]) rfl,sw,?_,?_,fa l,λb c _=>bH w _ b c,?_,λb c x=>m b c x,λb _ x _=>.inl x,?_,?_⟩
 .intro j a g;cases j with
  |succ j=>simp at g
  | zero=>
   simp at g;subst g;rcases i with rfl|⟨u,rfl⟩|⟨e,rfl⟩
   .exact⟨w.heap.size,#[],0,by simp[iM],.inr rfl,ce w _,⟨rfl,sw⟩,rfl⟩
   .exact⟨w.heap.size,#[],0,by simp[iM],.inr rfl,ce w _,rfl,sw,rfl,sw⟩
   .exact⟨w.heap.size,#[],0,[],by simp[iM],.inr rfl,ce w _,⟨rfl,sw⟩,rfl,rfl,sw⟩
 .grind[iM]
 .intro b x;rw[ba];grind
 .rintro id a b (x|⟨h1,h2⟩) ho
  .simp at x
  .have q:id-n<1:=by have:=(cQ.1 h2).1;simpa using this
   have d:id=n:=by omega
   subst d;have⟨_,v,s,c⟩:=ho;grind[iM,bz]
 grind
/-! Zk that are values. -/
def YB(k:Int×Int×zD):R:=.agg [.int .i64 k.1,.int .i64 k.2.1,.str k.q]
variable {a:R}{k:Int×Int×zD}
theorem uF(h:N2 a=Y k):a=YB k:=by
 unfold N2 at h;split at h
 .cases h;rfl
 .cases h
variable {v:Value}
theorem wa(h:Rv w U ρ (YB k) v):v=cd k/\ez k:=by
 unfold YB at h;cases h with
 |agg _ l c m x=>
 match l,c,x with
 | [i,j,v3],_,x=>
  have e:=x 0 _ i rfl rfl;have a:=x 1 _ j rfl rfl;have b:=x 2 _ v3 rfl rfl;cases e with
  |int _ _ q=>
  cases a with
  |int _ _ d=>
  cases b with
  |str _ g=>
  exact⟨rfl,q,d,g⟩
theorem XQ(h:ez k):Rv w U ρ (YB k) (cd k):=by
 refine .agg _ [.int .i64 k.1,.int .i64 k.2.1,.string ⟨k.q.toArray⟩] rfl (by simp[Value.oneCell']) ?_;intro j c v x a
 match j,x,a with
 |0,x,a=>cases x;cases a;exact .int _ _ h.1
 |1,x,a=>cases x;cases a;exact .int _ _ h.2.1
 |2,x,a=>cases x;cases a;exact .str _ h.q
variable {kt:TypeId}
theorem Yr(h:gg P kt=Z)(a b:Int×Int×zD):eqA P kt (YB a) (YB b)=Y (a==b):=by
 unfold gg at h;split at h
 .rename_i fs j;simp only[ar]at h;have⟨⟨g,i⟩,x⟩:=h;split at x
  .rename_i q s v c;simp only[ar,be,GL,M5]at x;have⟨⟨⟨⟨n,o1⟩,t⟩,⟨⟨l,o2⟩,d⟩⟩,⟨⟨m,o3⟩,e⟩⟩:=x;split at t
   .rename_i y u;split at d
    .rename_i z o;split at e
     next p=>simp only[YB,eqA,j,g,i,c,Dw,n,o1,l,o2,m,o3,eqT,u,o,p,beq_self_eq_true,oS,zj,Bool.and_true];rfl
     .cases e
    .cases d
   .cases t
  .cases x
 .cases h
theorem xK(h:gg P kt=Z){a b:Int×Int×zD}(x:ez a)(c:ez b):(Op.equal kt (cd a) (cd b)).run P w=.ok (a==b) w:=
 (MI (U:=λ_=>False) (ρ:=λ_=>Q2) (Yr h a b) (XQ x) (XQ c) (by intro _ _ _ _ h;cases h) (by intro _ _ h;cases h)).1
theorem bp(h:gg P kt=Z)(k:Int×Int×zD)(x:Bool):(Instr.checkKey x 10000 kt (cd k)).run P w=.ok () w:=by
 unfold gg at h;split at h
 .rename_i fs C;simp only[ar]at h;have⟨⟨z,A⟩,d⟩:=h;split at d
  .rename_i a b c g;simp only[ar,be,GL,M5]at d;have⟨⟨⟨⟨F,o1⟩,t⟩,⟨⟨G,o2⟩,i⟩⟩,⟨⟨H,o3⟩,j⟩⟩:=d;split at t
   .rename_i D u;split at i
    .rename_i E l;split at j
     .rename_i m;have e:fs=#[a,b,c]:=by apply fG;simpa using g
      subst e;have n:C3 P a.type=Y J:=by simp[C3,u]
      have o:C3 P b.type=Y J:=by simp[C3,l]
      have p:C3 P c.type=Y J:=by simp[C3,m]
      show(Instr.checkKey x (9999+1) kt (cd k)).run P w=_;rw[Instr.checkKey.eq_2];have p1:(part a.type #[Value.int .i64 k.1,.int .i64 k.2.1,.string ⟨k.q.toArray⟩] a.offset).run P w=.ok (.int .i64 k.1) w:=by simp[part,jp n,o1]
      have p2:(part b.type #[Value.int .i64 k.1,.int .i64 k.2.1,.string ⟨k.q.toArray⟩] b.offset).run P w=.ok (.int .i64 k.2.1) w:=by simp[part,jp o,o2]
      have p3:(part c.type #[Value.int .i64 k.1,.int .i64 k.2.1,.string ⟨k.q.toArray⟩] c.offset).run P w=.ok (.string ⟨k.q.toArray⟩) w:=by simp[part,jp p,o3]
      have s:(Instr.checkKey x (9998+1) a.type (.int .i64 k.1)).run P w=.ok () w:=by
       rw[Instr.checkKey.eq_2];simp[bm u,Result.andThen]
      have v:(Instr.checkKey x (9998+1) b.type (.int .i64 k.2.1)).run P w=.ok () w:=by
       rw[Instr.checkKey.eq_2];simp[bm l,Result.andThen]
      have y:(Instr.checkKey x (9998+1) c.type (.string ⟨k.q.toArray⟩)).run P w=.ok () w:=by
       rw[Instr.checkKey.eq_2];simp[bm m,Result.andThen]
      simp_all[cd,bm]
     .cases j
    .cases i
   .cases t
  .cases d
 .cases h
def cj(es:List ((Int×Int×zD)×Int))(k:Int×Int×zD)(i:Nat):Option (Nat×Int):=match es with
 |[]=>Q2
 |p::r=>bif k==p.1 then Y (i,p.2)else cj r k (i+1)
abbrev Dr(u:Bool)(es:List ((Int×Int×zD)×Int)):List (Value×Value):=es.map λp=>(cd p.1,sY u p.2)
theorem mO{kt:TypeId}(h:gg P kt=Z){k:Int×Int×zD}(x:ez k)(u:Bool):∀(es:List ((Int×Int×zD)×Int))(ents:List MapEntry)(i:Nat),(ents.map λe=>(e.key,e.val))=Dr u es->(∀p∈es,bq .i64 p.2/\ez p.1)->
  (Instr.findAsking kt (cd k) ents i).run P w=.ok ((cj es k i).map λq=>(q.1,sY u q.2)) w
 |[],[],_,_,_=>by simp[Instr.findAsking,cj]
 |[],_::_,_,h,_=>by simp at h
 |_::_,[],_,h,_=>by simp at h
 | p::es,e::ents,i,he,ho=>by
  simp only[Dr,dc,oQ,cz]at he;have⟨⟨b,c⟩,d⟩:=he;have g:=ho p (sy ..);have j:=mO h x u es ents (i+1) d (λq a=>ho q (og _ a));simp only[Instr.findAsking,b,cw,xK h x g.2,ol,cj];cases a:k==p.1
  .simpa using j
  .simp[c]
theorem jb(h:gg P kt=Z)(c:ez k)(u:Bool)(es:List ((Int×Int×zD)×Int))(ents:List MapEntry)(a:(ents.map λe=>(e.key,e.val))=Dr u es)(d:∀p∈es,bq .i64 p.2/\ez p.1):
  (Instr.findKey kt (cd k) ents).run P w=.ok ((cj es k 0).map λq=>(q.1,sY u q.2)) w:=by
 have x:∃fs,P.underlying kt=Y (.struct fs):=by
  unfold gg at h;split at h
  next fs x=>exact⟨fs,x⟩
  .cases h
 have⟨fs,x⟩:=x;have b:=mO (w:=w) h c u es ents 0 a d;cases ents with
 | nil=>
  cases es with
  |nil=>simp[Instr.findKey,bm x,Result.andThen,Instr.findNow,cj]
  |cons p r=>simp at a
 | cons e r=>
  have g:Instr.findNow (.struct fs) (cd k) (e::r) 0=Q2:=by
   simp only[Instr.findNow];have:Instr.sameNow (.struct fs) (cd k) e.key=Q2:=by simp[Instr.sameNow]
   rw[this]
  simp only[Instr.findKey,cw,bm x,ol,g];exact b
theorem ll:∀{es:List ((Int×Int×zD)×Int)}{k:Int×Int×zD}{i:Nat},cj es k i=Q2->nV es k=J/\gp es k=0/\∀x,kg es k x=es++[(k,x)]
 |[],_,_,_=>⟨rfl,rfl,λ_=>rfl⟩
 | p::r,k,i,h=>by
  unfold cj at h;cases a:k==p.1
  .rw[a]at h;obtain⟨b,c,d⟩:=ll (i:=i+1) (by simpa using h);grind[nV,gp,kg]
  .rw[a]at h;cases h
theorem lm:∀{es:List ((Int×Int×zD)×Int)}{k:Int×Int×zD}{i j:Nat}{n:Int},cj es k i=Y (j,n)->i<=j/\nV es k=Z/\gp es k=n/\(∃p,es[j-i]?=Y p/\p.1=k/\p.2=n)/\∀x,kg es k x=es.set (j-i) (k,x)
 |[],_,_,_,_,h=>by cases h
 | p::r,k,i,j,n,h=>by
  unfold cj at h;cases a:k==p.1
  .rw[a]at h;obtain⟨b,c,d,⟨q,l,m⟩,g⟩:=lm (i:=i+1) (by simpa using h);have e:j-i=(j-(i+1))+1:=by omega
   grind[nV,gp,kg]
  simp_all[nV,gp,kg]
theorem lY(k:Int×Int×zD):Instr.sameBits 10000 (cd k) (cd k)=Z:=by show Instr.sameBits (9999+1) (cd k) (cd k)=Z;simp[cd,Instr.sameBits,Af]
variable {ents:Array MapEntry}{clock:Nat}
theorem Ef.setMap{id r:Nat}{e:Array MapEntry}{c:Nat}{o':AO}(q:ρ id=Y (.map (Y r)))(_:U r)(o:w.heap[r]?=Y (.map ents clock))(d:(h id).owns=Z)
  (t:aW {w with heap:=w.heap.setIfInBounds r (.map e c)} U ρ id o') (u:∀b,U b->b<w.heap.size) {rv:R}  (l:Rv {w with heap:=w.heap.setIfInBounds r (.map e c)} U ρ rv v):
  Ef n h {val:=rv,wr:=[(id,o')]} w U ρ v {w with heap:=w.heap.setIfInBounds r (.map e c)} U ρ:=by
 have⟨A,C⟩:=om (o':=Obj.map e c) o;have p:r<w.heap.size:=(dq.1 o).1;have j:zY ρ id (h id) r:=⟨d,_,q,rfl⟩;refine⟨⟨sw,rfl,rfl,rfl⟩,l,?_,sw,λ_ _=>rfl,λ_ _ x=>x,?_,?_,λ_ _ x=>x,λ_ _ x _=>x,?_,?_⟩
 .simp_all
 .grind
 .simp_all
 .rintro m z b (g|⟨_,g⟩) i
  .simp only[eh,cz]at g;obtain⟨rfl,rfl⟩:=g;refine .inr ⟨m,_,eh.2 rfl,?_⟩;have⟨_,a,y,s⟩:=i;exact⟨d,a,y,s⟩
  .simp at g
 simp_all
variable {j:Int}
theorem zbE{u:Bool}(h:zi1 u a=Y j)(x:Rv w U ρ a v):v=sY u j/\bq .i64 j:=by
 unfold zi1 at h;split at h
 .cases h;cases x with
  |int _ _ b=>exact⟨rfl,b⟩
 .cases h;cases x with
  |agg _ d c b x=>
  match d,c with
  |[],_=>exact⟨rfl,by unfold bq;decide⟩
 .cases h
theorem lw.push(h:lw ents clock)(k v:Value):lw (ents.push {key:=k,val:=v,born:=clock}) (clock+1):=by
 refine⟨by simp[h.1],λi e x=>?_⟩;rw[Array.getElem?_push]at x;split at x
 next a=>cases x;rw[a];exact h.1
 .exact h.2 i e x
theorem lw.modify(h:lw ents clock)(j:Nat)(f:MapEntry->MapEntry)(b:∀e,(f e).born=e.born):lw (ents.modify j f) clock:=by
 refine⟨by simp[h.1],λi e x=>?_⟩;rw[oe]at x;split at x
 .cases a:ents[i]? with
  |none=>rw[a]at x;simp at x
  | some e0=>
   rw[a]at x;simp at x;subst x;rw[b];exact h.2 i e0 a
 .exact h.2 i e x
variable {t:TypeId}{b:R}{y l:Value}{f:fb}{i:List Nat}
theorem xq{p:AV}(x:(ti P h t a b p).val=some f)
  (hm:Rv w U ρ a v) (hk:Rv w U ρ b y) (hx:Rv w U ρ p l) (x8:∀d,U d->d<w.heap.size) (x3:uK w U ρ h i) (x4:∀id∈a.ids,id∈i):
  ∃w',(Instr.mapUpdate t v y l).run P w=.ok () w'/\Ef n h f w U ρ undef w' U ρ/\∀id o,(id,o)∈f.wr->id∈i:=by
 unfold ti at x;split at x
 .rename_i kt et ht;split at x
  .rename_i x6;split at x
   .rename_i id s;have h8:=x4 id (by simp[AV.ids]);have ho:=x3.ob id h8;split at x
    .rename_i es C;simp only[Tr.val]at x;split at x
     .rename_i E;simp only[wX]at E;simp only[ax]at x;subst x;rw[C]at ho;have⟨r,ents,clock,h1,h2,A,h4,h5⟩:=ho;cases hm with
      |mp _ _ hv _=>
      rw[h1]at hv;cases hv;cases hk with
      |str _ hs=>
      have hf:=E2 es ents.toList s 0 h5 E;have⟨e1,e2⟩:=om (o':=Obj.map (ents.push {key:=.string ⟨s.toArray⟩,val:=l,born:=clock}) (clock+1)) A;have a7:r<w.heap.size:=(dq.1 A).1;have F:zY ρ id (h id) r:=⟨by rw[C];rfl,_,h1,rfl⟩;have x5:∀b',b'<w.heap.size->¬U b'->(w.heap.setIfInBounds r (Obj.map (ents.push {key:=.string ⟨s.toArray⟩,val:=l,born:=clock}) (clock+1)))[b']?=w.heap[b']?:=λb' _ x9=>e2 b' (λe=>x9 (e▸h2))
      refine⟨{w with heap:=w.heap.setIfInBounds r (.map (ents.push {key:=.string ⟨s.toArray⟩,val:=l,born:=clock}) (clock+1))},?_,?_,?_⟩
      .simp[Instr.mapUpdate,bm ht,fW A,IT x6 (k:=.string ⟨s.toArray⟩) trivial,IU x6 hf,mi _ A,Result.andThen]
      .refine⟨⟨sw,rfl,rfl,rfl⟩,.tup [] [] rfl sw,?_,sw,λ_ _=>rfl,λ_ _ x=>x,?_,?_,λ_ _ x=>x,λ_ _ x _=>x,?_,?_⟩
       .intro D o' H;simp only[eh,cz]at H;obtain⟨rfl,rfl⟩:=H;refine⟨r,_,_,h1,h2,e1,?_,?_⟩
        .have a2:cu {w with heap:=w.heap.setIfInBounds r (.map (ents.push {key:=.string ⟨s.toArray⟩,val:=l,born:=clock}) (clock+1))} U ρ (es.map (·.2)) (ents.toList.map (·.val)):=
          h4.mono sw x5 (λ_ _ x=>x) (λ_ _ x=>x)
         have i1:Rv {w with heap:=w.heap.setIfInBounds r (.map (ents.push {key:=.string ⟨s.toArray⟩,val:=l,born:=clock}) (clock+1))} U ρ p l:=
          hx.mono sw x5 (λ_ _ x=>x) (λ_ _ x=>x)
         refine⟨by have:=a2.len;simp at this|-;exact this,λj c z hc hv=>?_⟩;simp only[fx,dc,oU,Array.toList_push]at hc hv;grind[cu.len,cu.rv]
        simp_all
       .grind
       .simp_all
       .rintro D o' d (H|⟨_,H⟩) a4
        .simp only[eh,cz]at H;obtain⟨rfl,rfl⟩:=H;refine .inr ⟨D,_,eh.2 rfl,?_⟩;have⟨_,z,hv,hb⟩:=a4;exact⟨by rw[C];rfl,z,hv,hb⟩
        .simp at H
       simp_all
      simp_all
     .cases x
    .simp at x
   .simp at x
  .split at x
   .rename_i x1;split at x
    .rename_i id z hvk2;have h8:=x4 id (by simp[AV.ids]);have ho:=x3.ob id h8;split at x
     .rename_i u es C;split at x
      .rename_i nn a3;simp only[Tr.val_ok,ax]at x;subst x;rw[C]at ho;have⟨r,ents,clock,h1,h2,A,h4,h5⟩:=ho;cases hm with
       |mp _ _ hv _=>
       rw[h1]at hv;cases hv;rw[uF hvk2]at hk;obtain⟨rfl,a1⟩:=wa hk;obtain⟨rfl,a9⟩:=zbE a3 hx;have h7:=jb (w:=w) x1 a1 u es ents.toList h4 h5.1;have F:(h id).owns=Z:=by rw[C];rfl
       have h9:∀D o',(D,o')∈[(id,AO.vmap u (kg es z nn))]->D∈i:=by
        intro D o' H;simp only[eh,cz]at H;rw[H.1];exact h8
       cases h6:cj es z 0 with
       | none=>
        rw[h6]at h7;have⟨_,_,G⟩:=ll h6;refine⟨{w with heap:=w.heap.setIfInBounds r (.map (ents.push {key:=cd z,val:=sY u nn,born:=clock}) (clock+1))},?_,?_,h9⟩
        .simp[Instr.mapUpdate,bm ht,fW A,bp x1,h7,mi _ A,Result.andThen]
        .refine Ef.setMap h1 h2 A F ?_ x8 (.tup [] [] rfl sw);refine⟨r,_,_,h1,h2,(om A).1,?_,?_,h5.2.push _ _⟩
         .simp_all
         grind
       | some q=>
        have⟨j,m⟩:=q;rw[h6]at h7;have⟨_,_,_,⟨g,x7,a5,i0⟩,G⟩:=lm h6;rw[Nat.sub_zero]at x7 G;have x2:∃e,ents.toList[j]?=Y e/\e.key=cd z:=by
         have:(ents.toList.map λe=>(e.key,e.val))[j]?=Y (cd g.1,sY u g.2):=by
          rw[h4];simp[x7]
         rw[b8,dG]at this;have⟨e,x0,h0⟩:=this;simp only[cz]at h0;exact⟨e,x0,by rw[h0.1,a5]⟩
        have⟨e,x0,h0⟩:=x2;have a0:ents[j]?=Y e:=by rw[<-lx];exact x0
        refine⟨{w with heap:=w.heap.setIfInBounds r (.map (ents.modify j λe=>{e with key:=cd z,val:=sY u nn}) clock)},?_,?_,h9⟩
        .have a6:(Instr.keyThatStays (cd z) (cd z)).run P w=.ok (cd z) w:=by
          simp[Instr.keyThatStays,lY]
         simp[Instr.mapUpdate,bm ht,fW A,bp x1,h7,a0,h0,a6,mi _ A,Result.andThen]
        .refine Ef.setMap h1 h2 A F ?_ x8 (.tup [] [] rfl sw);refine⟨r,_,_,h1,h2,(om A).1,?_,?_,h5.2.modify _ _ (λ_=>rfl)⟩
         .rw[G];apply kE;intro q;have a8:(ents.toList.map λe=>(e.key,e.val))[q]?=(Dr u es)[q]?:=by rw[h4]
          grind
         grind
      .simp at x
     .simp at x
    .simp at x
   .simp at x
  .simp at x
 .simp at x
theorem Bq:∀(es:List (zD×R))(ents:List MapEntry)(s:zD)(i:Nat)(z:K fb)(f:fb),ents.map (·.key)=wb es->cu w U ρ (es.map (·.2)) (ents.map (·.val))->(GS es s z).val=Y f->
  (∃j v a,Instr.findNow .string (.string ⟨s.toArray⟩) ents i=Y (Y (j,v))/\Rv w U ρ a v/\f={val:=.tup [a,.kb Z]})\/(Instr.findNow .string (.string ⟨s.toArray⟩) ents i=Y Q2/\z.val=Y f)
 |[],[],_,_,_,_,_,_,x=>.inr ⟨rfl,x⟩
 |[],_::_,_,_,_,_,h,_,_=>by simp at h
 |_::_,[],_,_,_,_,h,_,_=>by simp at h
 | p::es,e::ents,s,i,z,f,h,hr,x=>by
  simp only[wb,dc,oQ]at h;have⟨k,a⟩:=p;simp only[GS,Tr.val]at x;simp only[Instr.findNow,h.1,Instr.sameNow,Af];cases d:s==k with
  | true=>
   rw[d]at x;simp[ret]at x;subst x;exact .inl ⟨i,e.val,a,rfl,hr.rv 0 a e.val rfl rfl,rfl⟩
  | false=>
   rw[d]at x;simp at x;refine Bq es ents s (i+1) z f h.2 ⟨by have:=hr.len;simpa using this,λj c v g b=>hr.rv (j+1) c v (by simpa using g) (by simpa using b)⟩ x
theorem qB(h:Rv w U ρ a v)(x:Rv w U ρ b y):Rv w U ρ (.tup [a,b]) (.tuple #[v,y]):=by refine .tup _ [v,y] rfl ?_;grind
theorem mV{et:TypeId}(h:rt P et=Y a):∃i z,P.info? et=Y i/\i.zero=Y z/\a=xW z:=by grind[rt,Option.map_eq_some_iff]
theorem TX{k:IntKind}(h:F2 v=.int k j):v=.int k j:=by unfold F2 at h;grind
theorem IQ{k:IntKind}(h:xW v=.int k j):v=.int k j:=by unfold xW at h;grind[TX]
variable {c:List R}
theorem Ra(h:xW v=.agg c)(a:c.isEmpty=Z):v=.agg #[]:=by
 unfold xW at h;split at h
 .rename_i x;split at h
  .simp_all
  .cases h
 .unfold F2 at h;grind
theorem qn{α β:Type}(f:α->β):∀(l:List α)(i:Nat),(l.eraseIdx i).map f=(l.map f).eraseIdx i
 |[],_=>rfl
 |_::_,0=>rfl
 | x::r,i+1=>by
  show f x::(r.eraseIdx i).map f=f x::(r.map f).eraseIdx i;rw[qn f r i]
abbrev K3:=Int×Int×zD
abbrev sU(es:List (K3×Value)):List (Value×Value):=es.map λp=>(cd p.1,p.2)
def fe(es:List (K3×Value))(k:K3)(i:Nat):Option (Nat×Value):=match es with
 |[]=>Q2
 |p::r=>bif k==p.1 then Y (i,p.2)else fe r k (i+1)
def BD(es:List (K3×Value))(k:K3):Value:=match fe es k 0 with
 |some q=>q.2
 |none=>.slice Q2 0 0
def Z3(es:List (K3×Value))(k:K3):List (K3×Value):=match fe es k 0 with
 |some q=>es.eraseIdx q.1
 |none=>es
theorem BC:∀{es:List (K3×Value)}{k:K3}{i:Nat},fe es k i=Q2->∀p∈es,p.1≠k
 |[],_,_,_,p,x=>by cases x
 | q::r,k,i,h,p,x=>by
  unfold fe at h;cases a:k==q.1 with
  |true=>rw[a]at h;cases h
  | false=>
   rw[a,bT]at h;rcases bD.1 x with rfl|x
   .exact λe=>by rw[e]at a;simp at a
   .exact BC h p x
theorem rS:∀{es:List (K3×Value)}{k:K3}{i j:Nat}{v:Value},fe es k i=Y (j,v)->i<=j/\es[j-i]?=Y (k,v)/\∀p∈es.take (j-i),p.1≠k
 |[],_,_,_,_,h=>by cases h
 | q::r,k,i,j,v,h=>by
  unfold fe at h;cases x:k==q.1 with
  | true=>
   grind
  | false=>
   rw[x,bT]at h;have⟨b,c,g⟩:=rS h;obtain⟨d,rfl⟩:∃d,j=i+1+d:=⟨j-(i+1),S⟩;have e:i+1+d-(i+1)=d:=by omega
   have a:i+1+d-i=d+1:=by omega
   grind
section
variable {P:Program} {w:World} {kt:TypeId} {k:K3}
theorem mN(h:gg P kt=Z)(x:ez k):∀(es:List (K3×Value))(ents:List MapEntry)(i:Nat),(ents.map λe=>(e.key,e.val))=sU es->(∀p∈es,ez p.1)->
  (Instr.findAsking kt (cd k) ents i).run P w=.ok (fe es k i) w
 |[],[],_,_,_=>by simp[Instr.findAsking,fe]
 |[],_::_,_,h,_=>by simp at h
 |_::_,[],_,h,_=>by simp at h
 | p::es,e::ents,i,he,ho=>by
  simp only[sU,dc,oQ,cz]at he;have⟨⟨b,c⟩,d⟩:=he;have g:=ho p (sy ..);have j:=mN h x es ents (i+1) d (λq a=>ho q (og _ a));simp only[Instr.findAsking,b,cw,xK h x g,ol,fe];cases a:k==p.1
  .simpa using j
  .simp[c]
theorem lW(h:gg P kt=Z)(c:ez k)(es:List (K3×Value))(ents:List MapEntry)(a:(ents.map λe=>(e.key,e.val))=sU es)(d:∀p∈es,ez p.1):
  (Instr.findKey kt (cd k) ents).run P w=.ok (fe es k 0) w:=by
 have x:∃fs,P.underlying kt=Y (.struct fs):=by
  unfold gg at h;split at h
  next fs x=>exact⟨fs,x⟩
  .cases h
 have⟨fs,x⟩:=x;have b:=mN (w:=w) h c es ents 0 a d;cases ents with
 | nil=>
  cases es with
  |nil=>simp[Instr.findKey,bm x,Result.andThen,Instr.findNow,fe]
  |cons p r=>simp at a
 | cons e r=>
  have g:Instr.findNow (.struct fs) (cd k) (e::r) 0=Q2:=by
   simp only[Instr.findNow];have:Instr.sameNow (.struct fs) (cd k) e.key=Q2:=by simp[Instr.sameNow]
   rw[this]
  simp only[Instr.findKey,cw,bm x,ol,g];exact b
variable {mt et:TypeId} {r:Nat} {ents:Array MapEntry} {clock:Nat} {es:List (K3×Value)}
theorem HJ(c:P.underlying mt=Y (.map kt et))(x:gg P kt=Z){i:TypeInfo}(g:P.info? et=Y i)(m:i.zero=Y (.slice Q2 0 0))(j:ez k)
  (b:w.heap[r]?=Y (.map ents clock)) (d:(ents.toList.map λe=>(e.key,e.val))=sU es) (l:∀p∈es,ez p.1):
  (Instr.lookup mt (.map (Y r)) (cd k) J).run P w=.ok (BD es k) w:=by
 have h:=lW (w:=w) x j es ents.toList d l;unfold BD;cases a:fe es k 0 with
 | none=>
  rw[a]at h;simp[Instr.lookup,bm c,fW b,bp x,h,Result.andThen,zeroValue,typeInfo,g,m]
 | some q=>
  rw[a]at h;simp[Instr.lookup,bm c,fW b,bp x,h,Result.andThen]
theorem VL{kt':TypeId}(g:P.underlying mt=Y (.map kt et))(a:gg P kt=Z)(i:ez k)
  (c:w.heap[r]?=Y (.map ents clock)) (d:(ents.toList.map λe=>(e.key,e.val))=sU es) (j:∀p∈es,ez p.1):
  ∃h:Array MapEntry,(∀t,(Builtin.delete_ #[mt,kt'] t #[.map (Y r),cd k]).run P w=.ok (.tuple #[]) {w with heap:=w.heap.setIfInBounds r (.map h clock)})/\
   (h.toList.map λe=>(e.key,e.val))=sU (Z3 es k):=by
 have x:=lW (w:=w) a i es ents.toList d j;unfold Z3;cases b:fe es k 0 with
 | none=>
  rw[b]at x;refine⟨ents,λt=>?_,d⟩;simp[Builtin.delete_,bm g,fW c,bp a,x,mi _ c,Result.andThen]
 | some q=>
  rw[b]at x;refine⟨ents.eraseIdxIfInBounds q.1,λt=>?_,?_⟩
  .simp[Builtin.delete_,bm g,fW c,bp a,x,mi _ c,Result.andThen]
  simp_all[qn]
end
theorem vT(k:K3):∀(es:List (K3×Value))(i:Nat),fe es k (i+1)=(fe es k i).map λq=>(q.1+1,q.2)
 |[],_=>rfl
 | p::r,i=>by
  unfold fe;cases k==p.1 with
  |true=>rfl
  |false=>exact vT k r (i+1)
theorem Sc(p:K3×Value)(r:List (K3×Value))(k:K3):BD (p::r) k=bif k==p.1 then p.2 else BD r k:=by grind[fe,BD,vT]
theorem JZ(k:K3):∀es:List (K3×Value),Z3 es k=lr es k
 |[]=>rfl
 | p::r=>by
  have e:fe (p::r) k 0=bif k==p.1 then Y (0,p.2)else fe r k 1:=rfl
  have i:=JZ k r;unfold Z3 at i|-;grind[lr,vT]
theorem BB{α:Type}(k:K3):∀(es:List (K3×α)),List.Sublist (lr es k) es
 |[]=>List.Sublist.refl _
 | p::r=>by
  show List.Sublist (cond (k==p.1) r (p::lr r k)) _;cases k==p.1 with
  |true=>exact List.sublist_cons_self _ _
  |false=>exact(BB k r).cons_cons p
variable {d:List Value}
theorem cu.rest1(h:cu w U ρ (a::c) (v::d)):cu w U ρ c d:=⟨by have:=h.len;simpa using this,λj a v x b=>h.rv (j+1) a v (by simpa using x) (by simpa using b)⟩
theorem cu.put1(x:Rv w U ρ a v)(h:cu w U ρ c d):cu w U ρ (a::c) (v::d):=⟨by simpa using h.len,λj a v b e=>by
 grind[rv]⟩
theorem Pd{e:Sh}(k:K3):∀(es:List (K3×List (N e)))(g:List (K3×Value)),g.map (·.1)=es.map (·.1)->cu w U ρ (es.map λp=>O e p.2) (g.map (·.2))->Rv w U ρ (.sl e (jW es k)) (BD g k)
 |[],[],_,_=>.sl0 e Q2 0
 |[],_::_,h,_=>by simp at h
 |_::_,[],h,_=>by simp at h
 | p::es,q::g,h,hr=>by
  simp only[dc,oQ]at h;have i:=Pd k es g h.2 hr.rest1;rw[Sc,h.1];show Rv w U ρ (.sl e (cond (k==p.1) p.2 (jW es k))) _;cases k==p.1 with
  |true=>exact hr.rv 0 _ _ rfl rfl
  |false=>exact i
theorem Pc{e:Sh}(k:K3):∀(es:List (K3×List (N e)))(g:List (K3×Value)),g.map (·.1)=es.map (·.1)->cu w U ρ (es.map λp=>O e p.2) (g.map (·.2))->
  (lr g k).map (·.1)=(lr es k).map (·.1)/\cu w U ρ ((lr es k).map λp=>O e p.2) ((lr g k).map (·.2))
 |[],[],_,h=>⟨rfl,h⟩
 |[],_::_,h,_=>by simp at h
 |_::_,[],h,_=>by simp at h
 | p::es,q::g,h,hr=>by
  simp only[dc,oQ]at h;have⟨x,i⟩:=Pc k es g h.2 hr.rest1;unfold lr;rw[h.1];cases k==p.1 with
  |true=>exact⟨h.2,hr.rest1⟩
  |false=>exact⟨by simp_all,cu.put1 (hr.rv 0 _ _ rfl rfl) i⟩
theorem Rb(h:xW v=.nils):v=.slice Q2 0 0:=by
 unfold xW at h;split at h
 .split at h<;>cases h
 .unfold F2 at h;grind
theorem JI{ty:TypeId}{vm:Value}(x:(Bk P h t a b).val=Y f)
  (hm:Rv w U ρ a vm) (hk:Rv w U ρ b y) (G:∀c,U c->c<w.heap.size) (C:uK w U ρ h i) (E:∀id∈a.ids,id∈i):
  ∃w',(Builtin.delete_ #[t,kt] ty #[vm,y]).run P w=.ok (.tuple #[]) w'/\Ef n h f w U ρ (.tuple #[]) w' U ρ/\∀id o,(id,o)∈f.wr->id∈i:=by
 unfold Bk at x;split at x
 .rename_i h8 et ht;split at x
  .rename_i H;split at x
   .rename_i id v hvk2;have D:=E id (by simp[AV.ids]);have ho:=C.ob id D;split at x
    .rename_i e es g;simp only[Tr.val_ok,ax]at x;subst x;rw[g]at ho;have⟨r,ents,clock,s,u,z,d,h4,h5,h6,h7⟩:=ho;cases hm with
     |mp _ _ hv _=>
     rw[u]at hv;cases hv;rw[uF hvk2]at hk;obtain⟨rfl,F⟩:=wa hk;have j:(h id).owns=Z:=by rw[g];rfl
     have⟨m,l,A⟩:=VL (w:=w) (kt':=kt) ht H F d h5 h7;have⟨g1,g2⟩:=Pc v es s h6 h4;have h0:r<w.heap.size:=(dq.1 d).1;refine⟨_,l ty,?_,?_⟩
     .refine Ef.setMap u z d j ?_ G (.tup [] [] rfl sw);refine⟨r,_,_,lr s v,u,z,(om d).1,?_,by rw[A,JZ],g1,λp h=>h7 p ((BB v s).subset h)⟩;exact g2.mono sw (λc hb hu=>(om d).2 c λq=>hu (q▸z)) (λ_ _ x=>x) (λ_ _ x=>x)
     simp_all
    .simp at x
   .simp at x
  .simp at x
 .simp at x
theorem JJ{ai:AV}{two:Bool}(x:(kM P h t a ai two).val=some f)(hx:Rv w U ρ a v)(hi:Rv w U ρ ai y)(x1:∀id∈a.ids,aW w U ρ id (h id)):
  ∃r b,f={val:=r}/\(Instr.lookup t v y two).run P w=.ok b w/\Rv w U ρ r b:=by
 unfold kM at x;split at x
 .rename_i kt et ht;split at x
  .rename_i g;split at x
   .rename_i id s;have ho:=x1 id (by simp[AV.ids]);split at x
    .rename_i es C;rw[C]at ho;have⟨r,ents,clock,h1,h2,D,h4,h5⟩:=ho;cases hx with
     |mp _ _ H _=>
     rw[h1]at H;cases H;cases hi with
     |str _ hs=>
     cases two with
     | false=>
      simp only[zO,zr]at x;rcases E1 es ents.toList s 0 _ f h5 h4 x with⟨j,b,av,hf,hr,rfl⟩|⟨hf,l⟩
      .refine⟨av,b,rfl,?_,hr⟩;simp[Instr.lookup,bm ht,fW D,IT g (k:=.string ⟨s.toArray⟩) trivial,IU g hf,Result.andThen]
      .simp at l;obtain⟨z,l,rfl⟩:=l;obtain⟨i,A,c,d,rfl⟩:=mV l;refine⟨_,A,rfl,?_,pW A⟩;simp[Instr.lookup,bm ht,fW D,IT g (k:=.string ⟨s.toArray⟩) trivial,IU g hf,Result.andThen,zeroValue,typeInfo,c,d]
     | true=>
      simp only[zj]at x;rcases Bq es ents.toList s 0 _ f h5 h4 x with⟨j,b,av,hf,hr,rfl⟩|⟨hf,l⟩
      .refine⟨_,.tuple #[b,.bool Z],rfl,?_,qB hr (.kb Z)⟩;simp[Instr.lookup,bm ht,fW D,IT g (k:=.string ⟨s.toArray⟩) trivial,IU g hf,Result.andThen]
      .unfold zd7 at l;split at l
       next z x3=>simp[ret]at l;subst l;obtain⟨i,A,c,d,rfl⟩:=mV x3;refine⟨_,.tuple #[A,.bool J],rfl,?_,qB (pW A) (.kb J)⟩;simp[Instr.lookup,bm ht,fW D,IT g (k:=.string ⟨s.toArray⟩) trivial,IU g hf,Result.andThen,zeroValue,typeInfo,c,d]
       .simp at l
    .simp at x
   .simp at x
  .split at x
   .rename_i F;split at x
    .rename_i id b hvk2;have ho:=x1 id (by simp[AV.ids]);split at x
     .rename_i u es C;rw[C]at ho;have⟨r,ents,clock,h1,h2,D,h4,h5⟩:=ho;cases hx with
      |mp _ _ H _=>
      rw[h1]at H;cases H;rw[uF hvk2]at hi;obtain⟨rfl,h8⟩:=wa hi;have E:=jb (w:=w) F h8 u es ents.toList h4 h5.1
      have G:∀(i:TypeInfo)(A:Value),P.info? et=Y i->i.zero=Y A->A=sY u 0->
        (Instr.lookup t (.map (Y r)) (cd b) two).run P w=.ok (ite two (.tuple #[sY u (gp es b),.bool (nV es b)]) (sY u (gp es b))) w:=by
       intro i A c d o;subst o;cases n:cj es b 0 with
       | none=>
        rw[n]at E;have⟨e1,e2,_⟩:=ll n;cases two<;>simp[Instr.lookup,bm ht,fW D,bp F,E,Result.andThen,zeroValue,typeInfo,c,d,e1,e2]
       | some q=>
        have⟨j,m⟩:=q;rw[n]at E;have⟨_,e1,e2,_,_⟩:=lm n;cases two<;>simp[Instr.lookup,bm ht,fW D,bp F,E,Result.andThen,e1,e2]
      have x0:bq .i64 (gp es b):=by
       cases n:cj es b 0 with
       |none=>rw[(ll n).2.1];unfold bq;decide
       | some q=>
        have⟨j,m⟩:=q;have⟨_,_,e2,⟨p,h,_,x4⟩,_⟩:=lm n;grind
      split at x
      .rename_i z l;split at x
       .rename_i hc;obtain⟨rfl,rfl⟩:=hc;have⟨i,A,c,d,o⟩:=mV l;have:=IQ o.symm;subst this;simp[ret]at x;subst x;refine⟨_,_,rfl,G i _ c d rfl,?_⟩;cases two
        .exact .int _ _ x0
        .exact qB (.int _ _ x0) (.bool _)
       .simp at x
      .rename_i cs l;split at x
       .rename_i hc;obtain⟨rfl,x2⟩:=hc;have⟨i,A,c,d,o⟩:=mV l;have:=Ra o.symm x2;subst this;simp[ret]at x;subst x;have h9:Rv w U ρ (.agg []) (.agg #[]):=.agg [] [] rfl sw sw;refine⟨_,_,rfl,G i _ c d rfl,?_⟩;cases two
        .exact h9
        .exact qB h9 (.bool _)
       .simp at x
      .simp at x
     .rename_i e es C;rw[C]at ho;have⟨r,ents,clock,gs,h1,h2,D,h4,h5,h6,h7⟩:=ho;cases hx with
      |mp _ _ H _=>
      rw[h1]at H;cases H;rw[uF hvk2]at hi;obtain⟨rfl,h8⟩:=wa hi;split at x
      .rename_i l;split at x
       next h0=>subst h0;simp[ret]at x;subst x;have⟨i,A,c,d,o⟩:=mV l;have:=Rb o.symm;subst this;exact⟨_,_,rfl,HJ ht F c d h8 D h5 h7,Pd b es gs h6 h4⟩
       .simp at x
      .simp at x
     .simp at x
    .simp at x
   .simp at x
  .simp at x
 .simp at x
theorem wL:∀{es:List ((Int×Int×zD)×Int)}{k:Int×Int×zD}{i:Nat},(cj es k i=Q2->ln es k=M es)/\∀j n,cj es k i=Y (j,n)->j=i+ln es k
 |[],k,i=>⟨λ_=>rfl,λj n h=>by cases h⟩
 | p::r,k,i=>by
  have⟨x,a⟩:=wL (es:=r) (k:=k) (i:=i+1);unfold cj ln;grind
theorem QA:∀(es:List ((Int×Int×zD)×Int))(k:Int×Int×zD),ln es k<=M es
 |[],_=>zK _
 | p::r,k=>by
  have:=QA r k;unfold ln;grind
variable {fp:List Nat}
theorem MK(x:(th P h t a b).val=some f)
  (hm:Rv w U ρ a v) (hk:Rv w U ρ b y) (x5:∀c,U c->c<w.heap.size) (x6:uK w U ρ h fp) (x7:∀id∈a.ids,id∈fp):
  ∃d w',(Instr.mapEntry t v y).run P w=.ok d w'/\Ef n h f w U ρ d w' U ρ/\∀id o,(id,o)∈f.wr->id∈fp:=by
 unfold th at x;split at x
 .rename_i kt et ht;split at x
  .rename_i h6;split at x
   .rename_i id d hvk2;have x2:=x7 id (by simp[AV.ids]);have ho:=x6.ob id x2;split at x
    .rename_i es x0;split at x
     .rename_i z hz;split at x
      .rename_i a1;subst a1;simp only[Tr.val]at x;split at x
       .rename_i D;have D:M es<=1073741824:=eB D;simp only[ax]at x;subst x;rw[x0]at ho;have⟨r,ents,clock,h1,h2,A,h4,C⟩:=ho;cases hm with
        |mp _ _ hv _=>
        rw[h1]at hv;cases hv;rw[uF hvk2]at hk;obtain⟨rfl,x4⟩:=wa hk;have⟨i0,zv,H,a2,a3⟩:=mV hz;have:=IQ a3.symm;subst this;have u:=jb (w:=w) h6 x4 J es ents.toList h4 C.1;have E:(h id).owns=Z:=by rw[x0];rfl
        have x1:ents.size=M es:=by have:=congrArg M h4;simpa using this
        have F:∀h7 o',(h7,o')∈[(id,AO.vmap J (js es d))]->h7∈fp:=by
         intro h7 o' h';simp only[eh,cz]at h';rw[h'.1];exact x2
        have x3:bq .i64 (ln es d:Int):=by
         have:=QA es d;unfold bq;exact⟨by show(-9223372036854775808:Int)<=_;omega,by show _<=(9223372036854775807:Int);omega⟩
        cases l:cj es d 0 with
        | none=>
         rw[l]at u;have⟨e1,e2,_⟩:=ll l;have e3:=(wL (es:=es) (k:=d) (i:=0)).1 l;have g:js es d=es++[(d,0)]:=by simp[js,e1]
         refine⟨.tuple #[.int .i64 0,goInt clock],{w with heap:=w.heap.setIfInBounds r (.map (ents.push {key:=cd d,val:=.int .i64 0,born:=clock}) (clock+1))},?_,?_,F⟩
         .simp[Instr.mapEntry,bm ht,fW A,bp h6,u,mi _ A,Result.andThen,zeroValue,typeInfo,H,a2]
         .refine Ef.setMap h1 h2 A E ?_ x5 ?_
          .refine⟨r,_,_,h1,h2,(om A).1,?_,?_,C.2.push _ _⟩
           .rw[g];simp only[Array.toList_push,fx,h4,dc,oU];rfl
           .rw[g];intro p h;rcases bX.1 h with h|h
            .exact C.1 p h
            .simp at h;subst h;exact⟨(show bq .i64 0 by unfold bq;decide),x4⟩
          .rw[e2];have hc:goInt clock=.int .i64 (ln es d:Int):=by rw[e3,C.2.1,x1];rfl
           rw[hc];exact qB (.int _ _ (by unfold bq;decide)) (.int _ _ x3)
        | some q=>
         have⟨j,m⟩:=q;rw[l]at u;have⟨_,e1,e2,⟨p,h0,x8,x9⟩,_⟩:=lm l;have e3:=(wL (es:=es) (k:=d) (i:=0)).2 j m l;rw[dz]at e3;rw[Nat.sub_zero]at h0;have g:js es d=es:=by simp[js,e1]
         have h9:∃e,ents.toList[j]?=Y e/\e.key=cd d:=by
          have:(ents.toList.map λe=>(e.key,e.val))[j]?=Y (cd p.1,sY J p.2):=by
           rw[h4];simp[h0]
          rw[b8,dG]at this;have⟨e,G,s⟩:=this;simp only[cz]at s;exact⟨e,G,by rw[s.1,x8]⟩
         have⟨e,G,s⟩:=h9;have h8:ents[j]?=Y e:=by rw[<-lx];exact G
         have a0:(Instr.keyThatStays (cd d) (cd d)).run P w=.ok (cd d) w:=by
          simp[Instr.keyThatStays,lY]
         refine⟨.tuple #[.int .i64 m,goInt e.born],{w with heap:=w.heap.setIfInBounds r (.map (ents.modify j λe=>{e with key:=cd d}) clock)},?_,?_,F⟩
         .simp[Instr.mapEntry,bm ht,fW A,bp h6,u,h8,s,a0,mi _ A,Result.andThen,sY]
         .refine Ef.setMap h1 h2 A E ?_ x5 ?_
          .refine⟨r,_,_,h1,h2,(om A).1,?_,by rw[g];exact C.1,C.2.modify _ _ (λ_=>rfl)⟩;rw[g];apply kE;grind
          .rw[e2];have hc:goInt e.born=.int .i64 (ln es d:Int):=by rw[C.q j e h8,e3];rfl
           rw[hc];have hm:bq .i64 m:=by rw[<-x9];exact(C.1 p (fw h0)).1
           exact qB (.int _ _ hm) (.int _ _ x3)
       .cases x
      .simp at x
     .simp at x
    .simp at x
   .simp at x
  .simp at x
 .simp at x
theorem sk:∀(es:List ((Int×Int×zD)×Int))(n:Nat)(x:Int)(p:(Int×Int×zD)×Int),es[n]?=Y p->jE es n x=es.set n (p.1,x)
 |[],_,_,_,h=>by simp at h
 |q::r,0,x,p,h=>by simp at h;subst h;rfl
 | q::r,n+1,x,p,h=>by
  rw[jE,sk r n x p (by simpa using h)];rfl
theorem yf{p:R}(x:(nA h a b p).val=Y f)
  (hm:Rv w U ρ a v) (hs:Rv w U ρ b y) (hx:Rv w U ρ p l) (H:∀c,U c->c<w.heap.size) (E:uK w U ρ h i) (G:∀id∈a.ids,id∈i):
  ∃w',(Instr.entryStore t v y l).run P w=.ok () w'/\Ef n h f w U ρ undef w' U ρ/\∀id o,(id,o)∈f.wr->id∈i:=by
 unfold nA at x;split at x
 .rename_i id nn yy;have F:=G id (by simp[AV.ids]);have ho:=E.ob id F;split at x
  .rename_i es g;simp only[Tr.val]at x;split at x
   .rename_i m;have⟨h7,h8⟩:=lG.1 m;simp only[ax]at x;subst x;rw[g]at ho;have⟨r,ents,clock,A,h2,z,h4,C⟩:=ho;cases hm with
    |mp _ _ hv _=>
    rw[A]at hv;cases hv;cases hs;cases hx with
    |int _ _ hy=>
    have u:(h id).owns=Z:=by rw[g];rfl
    have h0:ents.size=M es:=by have:=congrArg M h4;simpa using this
    have s:nn.toNat<ents.size:=by omega
    have D:ents.findIdx? (λe=>(e.born:Int)==nn)=Y nn.toNat:=by
     rw[Array.findIdx?_eq_some_iff_getElem];refine⟨s,?_,λj hj=>?_⟩
     .have:=C.q nn.toNat ents[nn.toNat] (oP s);grind
     .have:=C.q j (ents[j]'ow) (oP S);grind
    obtain⟨d,h⟩:∃d,es[nn.toNat]?=Y d:=⟨es[nn.toNat]'ow,zQ S⟩;refine⟨{w with heap:=w.heap.setIfInBounds r (.map (ents.modify nn.toNat λe=>{e with val:=.int .i64 yy}) clock)},?_,?_,?_⟩
    .simp[Instr.entryStore,fW z,asInt,asIntOf,D,mi _ z,Result.andThen]
    .refine Ef.setMap A h2 z u ?_ H (.tup [] [] rfl sw);refine⟨r,_,_,A,h2,(om z).1,?_,?_,C.2.modify _ _ (λ_=>rfl)⟩
     .rw[sk es _ yy d h];apply kE;intro q;have h6:(ents.toList.map λe=>(e.key,e.val))[q]?=(Dr J es)[q]?:=by rw[h4]
      grind[sY]
     .rw[sk es _ yy d h];grind
    simp_all
   .cases x
  .simp at x
 .simp at x
theorem Ef.frz{hp:Nat->AO}{ids:List Nat}{r:R}(i:∀b,U b->b<w.heap.size)(l:∀j∈ids,nH (hp j)=Z)
  (u:∀j∈ids,aW w U ρ j (hp j)) (c:Rv w (λb=>U b/\¬∃j∈ids,zY ρ j (hp j) b) ρ r v):
  Ef n hp {val:=r,wr:=gm hp ids} w U ρ v w (λb=>U b/\¬∃j∈ids,zY ρ j (hp j) b) ρ:=by
 generalize e:(λb=>U b/\¬∃j∈ids,zY ρ j (hp j) b)=p at c|-;have a:∀b,p b->U b:=λb h=>by rw[<-e]at h;exact h.1
 have s:∀j∈ids,∀b,zY ρ j (hp j) b->¬p b:=λj q b g h=>by grind
 have m:∀id o b,(id,o)∈gm hp ids->zY ρ id o b->False:=by
  intro id o b h g;obtain⟨x,rfl⟩:=dD h;rw[zY,pk (l id x)]at g;simp at g
 refine⟨jt.refl w,c,?_,sw,λ_ _=>rfl,λ_ _ h=>h,λ_ _ _=>rfl,λd h=>i d (a d h),λd _ h=>a d h,?_,?_,?_⟩
 .intro id o h;obtain⟨x,rfl⟩:=dD h;grind[qd]
 .intro d _ h t;rw[<-e];exact⟨h,λ⟨j,q,g⟩=>t j _ (qe q) g⟩
 .simp_all
 simp_all
theorem JK{lo hi mx:Option R}{vlo vhi vmx:Option Value}(d:(Bm P h t a lo hi mx).val=Y f)
  (hx:Rv w U ρ a v) (z:∀g i,lo=Y g->vlo=Y i->Rv w U ρ g i) (y:∀g i,hi=Y g->vhi=Y i->Rv w U ρ g i)
  (A:∀g i,mx=Y g->vmx=Y i->Rv w U ρ g i) (D:lo.isSome=vlo.isSome) (C:hi.isSome=vhi.isSome) (E:mx.isSome=vmx.isSome)
  (s:∀b,U b->b<w.heap.size) (h4:uK w U ρ h fp) (h5:∀id∈a.ids,id∈fp):
  ∃i U',(Instr.sliceAt t v vlo vhi vmx).run P w=.ok i w/\Ef n h f w U ρ i w U' ρ/\∀id o,(id,o)∈f.wr->id∈fp:=by
 unfold Bm at d;split at d
 .rename_i id;have G:=h5 id (by simp[AV.ids]);have ho:=h4.ob id G;split at d
  .rename_i e l q;simp only[Tr.val_bind,fV]at d;have⟨f0,h0,h1⟩:=d;simp only[Tr.val_ok,ax]at h1;subst h1;have p:∀b,(U b/\¬∃j∈[id],zY ρ j (h j) b)->U b:=λb hb=>hb.1
   have h7:Rv w (λb=>U b/\¬∃j∈[id],zY ρ j (h j) b) ρ (.sl e l) v:=
    sF (hp:=h) (e:=e) (c:=.vec id) (by simp[oX,q]) hx p (λj hj=>by simp[cJ]at hj;subst hj;exact ho)
     (λj hj b hb hU=>by simp[cJ]at hj;simp_all)
   obtain⟨r,x,rfl,m,H⟩:=rP (w:=w) (U:=λb=>U b/\¬∃j∈[id],zY ρ j (h j) b) (ρ:=ρ) (vlo:=vlo) (vhi:=vhi) (vmx:=vmx) h0 h7
    (λg i F u=>(z g i F u).weak p) (λg i F u=>(y g i F u).weak p) (λg i F u=>(A g i F u).weak p) D C E
   refine⟨x,_,m,Ef.frz s (by simp[q,nH]) (by simp;exact ho) H,λh8 o' h'=>?_⟩;have⟨h2,_⟩:=dD h';simp at h2;rw[h2];exact G
  .rename_i e l q;rw[q]at ho;have⟨v',h3,h6⟩:=ho;cases hx with
   |vec _ _ u _=>
   rw[u]at h3;cases h3;obtain⟨r,x,rfl,m,H⟩:=rP (w:=w) (U:=U) (ρ:=ρ) (vlo:=vlo) (vhi:=vhi) (vmx:=vmx) d h6 z y A D C E;exact⟨x,U,m,Ef.pure s H,sw⟩
  .simp at d
 .obtain⟨r,x,rfl,m,H⟩:=rP (w:=w) (U:=U) (ρ:=ρ) (vlo:=vlo) (vhi:=vhi) (vmx:=vmx) d hx z y A D C E;exact⟨x,U,m,Ef.pure s H,sw⟩
end
end Cad
