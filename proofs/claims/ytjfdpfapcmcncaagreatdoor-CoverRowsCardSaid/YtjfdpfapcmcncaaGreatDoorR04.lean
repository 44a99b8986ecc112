/- What is kept at a loop's head says no more than what was the. -/
import Derived.Test.YtjfdpfapcmcncaaGreatDoorR03
namespace Cad
open Go
open List renaming length→Io
open Bool renaming true→Q3
open Option renaming none→Q2,some→Q1
open Tr (chk br)
open AV (nils agg tup ptr kb str sl)
section
variable {E:bZ} {C:ff} {a:Act} {w:World} {U:Nat->Prop} {ρ:Nat->Option Value}
theorem L1(keep:List Nat):∀(l:List AV)(i j:Nat),(FF keep i l)[j]?=(l[j]?).map λv=>if keep.contains (i+j)then v else .any
 |[],_,_=>by simp[FF]
 |v::r,i,0=>by simp[FF]
 | v::r,i,j+1=>by
  simp only[FF,List.getElem?_cons_succ];rw[L1 keep r (i+1) j,show i+1+j=i+(j+1) by omega]
theorem L2(keep:List Nat):∀(l:List AV)(i:Nat),(FF keep i l).length=Io l
 |[],_=>rfl
 |v::r,i=>by simp[FF,L2 keep r]
theorem za1{st:St}(keep:List Nat)(h:Cn C st a w U ρ):Cn C {st with tmps:=FF keep 0 st.tmps} a w U ρ:=by
 refine⟨⟨by rw[L2];exact h.tm.len,λj c v o B=>?_⟩,h.hp,h.new,h.df,h.r0⟩;rw[L1]at o;simp only[eB]at o;obtain⟨z,u,rfl⟩:=o;split
 ·exact h.tm.rv j z v u B
 ·exact .any v
theorem QD{hp u:Nat->AO}{n:Nat}{e:Sh}{x:Option Addr}(J:jI C w U ρ hp)(O:ρ n=Q2)(F:u n=.vec e [])
  (o:∀id,id≠n->bF w U (mJ ρ n (.slice x 0 0)) id (u id)/\∀b,ar (mJ ρ n (.slice x 0 0)) id (u id) b->ar ρ id (hp id) b):jI C w U (mJ ρ n (.slice x 0 0)) u:=by
 have Q2:∀b,¬ar (mJ ρ n (.slice x 0 0)) n (u n) b:=by
  rintro b ⟨_,v,L,M⟩;simp[mJ]at L;subst L;cases x<;>simp[e7]at M
 refine⟨λid=>?_,λid1 z b H I=>?_,λid b h=>?_⟩
 ·by_cases D:id=n
  ·subst D;rw[F];exact⟨x,0,by simp[mJ],sw,.inl ⟨rfl,rfl⟩⟩
  ·exact(o id D).1
 ·by_cases B:id1=n
  ·subst B;exact(Q2 b H).elim
  ·by_cases G:z=n
   ·subst G;exact(Q2 b I).elim
   ·exact J.inj id1 z b ((o id1 B).2 b H) ((o z G).2 b I)
 ·by_cases B:id=n
  ·subst B;exact(Q2 b h).elim
  ·exact J.blk id b ((o id B).2 b h)
theorem DT{n id:Nat}{v:Value}{o:AO}{b:Nat}(u:id≠n)(h:ar (mJ ρ n v) id o b):ar ρ id o b:=by
 obtain⟨B,x,z,D⟩:=h;simp only[mJ,if_neg u]at z;exact⟨B,x,z,D⟩
theorem Xz{st:St}(p:Nat×Option Nat×Sh)(h:Cn C st a w U ρ):∃ρ',Cn C (vO st p) a w U ρ':=by
 have hn:ρ st.heap.length=Q2:=h.new _ (ae _);have O:∀(x:Option Addr){c:AV}{v:Value},Rv w U ρ c v->Rv w U (mJ ρ st.heap.length (.slice x 0 0)) c v:=λx _ _ hr=>hr.mono (ae _) (λ_ _ _=>rfl) (λ_ _ h=>h) (eV hn)
 have W:∀(x:Option Addr)(id:Nat),bF w U (mJ ρ st.heap.length (.slice x 0 0)) id (st.hp id):=λx id=>
  (h.hp.ob id).mono (ae _) (λ_ _ _=>rfl) (λ_ _ h=>h) (eV hn) (λb ho=>⟨rfl,((h.hp.ob id).inU ho).1⟩)
 have L:∀(u:List AO)(o:AO),Io u=st.heap.length->(u++[o]).getD st.heap.length .dead=o:=by
  intro u o hl;rw[aS,pq ow,hl];simp
 have M:∀(u:List AO)(o:AO)(id:Nat),Io u=st.heap.length->id≠st.heap.length->(u++[o]).getD id .dead=u.getD id .dead:=by
  intro u o id hl H;simp only[aS];by_cases J:id<Io u
  ·rw[mR J]
  ·grind
 have S:∀(x:Option Addr)(u:List AO)(o:AO),Io u=st.heap.length->∀id,(u++[o]).length<=id->mJ ρ st.heap.length (.slice x 0 0) id=Q2:=by
  intro x u o hl id H;simp at H;simp only[mJ];rw[if_neg ow];exact h.new id ow
 obtain⟨s,c,e⟩:=p;cases c with
 | none=>
  simp only[vO];split
  ·rename_i u;have J:s<st.tmps.length:=by
    apply ke;intro h8;rw[aS,eC ow]at u;cases u
   have x3:st.tmps[s]?=Q1 .nils:=by
    rw[aS,zU J]at u;rw[zU J];simpa using u
   have Z:s<a.tmps.toList.length:=by rw[<-h.tm.len];exact J
   have z:=h.tm.rv s _ _ x3 (zU Z);generalize hx:a.tmps.toList[s]=x at z;cases z with
   |nils Y=>
   refine⟨mJ ρ st.heap.length (.slice Y 0 0),⟨by simp[h.tm.len],λj c v F z=>?_⟩,QD h.hp hn (L _ _ rfl) (λid H=>?_),S Y _ _ rfl,h.df,λid v hr=>eV hn id v (h.r0 id v hr)⟩
   ·rw[yX]at F;split at F
    ·rename_i x4;subst x4;cases F;rw[zU Z,hx]at z;cases z;exact .vec _ _ (by simp[mJ]) rfl
    ·exact O Y (h.tm.rv j c v F z)
   ·have:({tmps:=st.tmps.set s (.vec st.heap.length),heap:=st.heap++[.vec e []]}:St).hp id=st.hp id:=M st.heap _ id rfl H;rw[this];exact⟨W Y id,λb hb=>DT H hb⟩
  ·exact⟨ρ,h⟩
 | some c=>
  simp only[vO];split
  ·rename_i id hsl;split
   ·rename_i cs h7;split
    ·rename_i D;have ho:=h.hp.ob id;rw[h7]at ho;obtain⟨b,T,X,h1,h2,h3,h4,h5⟩:=ho;have G:c<Io cs:=by
      apply ke;intro h8;rw[aS,eC ow]at D;cases D
     have x1:cs[c]?=Q1 .nils:=by
      rw[aS,zU G]at D;rw[zU G];simpa using D
     have h0:c<X.toList.length:=by rw[<-h4.len];exact G
     have z:=h4.rv c _ _ x1 (zU h0);generalize hx:X.toList[c]=x at z;cases z with
     |nils Y=>
     have h6:id<st.heap.length:=by
      apply ke;intro h8;have:=h.new id ow;rw[h1]at this;cases this
     have x5:id≠st.heap.length:=by omega
     refine⟨mJ ρ st.heap.length (.slice Y 0 0),⟨h.tm.len,λj cc v F z=>O Y (h.tm.rv j cc v F z)⟩,QD h.hp hn (L _ _ sw) (λB I=>?_),S Y _ _ sw,h.df,λi v hr=>eV hn i v (h.r0 i v hr)⟩;have e0:({tmps:=st.tmps,heap:=st.heap.set id (.box (cs.set c (.vec st.heap.length)))++[.vec e []]}:St).hp B=(st.heap.set id (.box (cs.set c (.vec st.heap.length)))).getD B .dead:=M _ _ B sw I;rw[e0];by_cases h9:id=B
     ·subst h9;have e1:(st.heap.set id (.box (cs.set c (.vec st.heap.length)))).getD id .dead=.box (cs.set c (.vec st.heap.length)):=by
       simp[List.getElem?_set_self h6]
      rw[e1];refine⟨⟨b,T,X,eV hn _ _ h1,h2,h3,⟨by simp[h4.len],λj cc v F z=>?_⟩,h5⟩,λb' hb=>?_⟩
      ·rw[yX]at F;split at F
       ·rename_i x2;subst x2;cases F;rw[zU h0,hx]at z;cases z;exact .vec _ _ (by simp[mJ]) rfl
       ·exact O Y (h4.rv j cc v F z)
      ·obtain⟨_,v,z,x0⟩:=DT I hb;exact⟨by rw[h7];rfl,v,z,x0⟩
     ·have e1:(st.heap.set id (.box (cs.set c (.vec st.heap.length)))).getD B .dead=st.hp B:=by
       simp[St.hp,List.getElem?_set_ne h9]
      rw[e1];exact⟨W Y B,λb hb=>DT I hb⟩
    ·exact⟨ρ,h⟩
   ·exact⟨ρ,h⟩
  ·exact⟨ρ,h⟩
theorem DZ:∀(ps:List (Nat×Option Nat×Sh)){st:St}{ρ:Nat->Option Value},Cn C st a w U ρ->∃o,Cn C (ps.foldl vO st) a w U o
 |[],_,ρ,h=>⟨ρ,h⟩
 | p::ps,st,ρ,h=>by
  obtain⟨o,u⟩:=Xz p h;exact DZ ps u
theorem X6{gl:Nat->AV}{st:St}(p:Nat×Nat)(h:Cn C st a w U ρ)(O:Wd gl C w U):∃U',Cn C (HP st p) a w U' ρ/\Wd gl C w U':=by
 obtain⟨s,c⟩:=p;simp only[HP];split
 ·rename_i id hsl;split
  ·rename_i cs H;split
   ·rename_i k B;split
    ·rename_i e l J;have M:py (st.hp k)=Q3:=by cases hk:st.hp k<;>rw[hk]at J<;>simp[Do]at J<;>rfl
     have I:=Ef.frz (w:=w) (U:=U) (ρ:=ρ) (n:=st.heap.length) (hp:=st.hp) (ids:=[k]) (r:=.any) (v:=undef) O.ub (by simpa using M) (λj _=>h.hp.ob j) (.any _);generalize(λb=>U b/\¬∃j∈[k],ar ρ j (st.hp j) b)=U' at I;have x0:gy st.hp [k]=[(k,.frz e l)]:=by simp[gy,J]
     rw[x0]at I
     obtain⟨h6,u,Z⟩:=Cp (hp':=λid=>if id=k then .frz e l else st.hp id) O h.hp I (λ_ _ _=>rfl)
      (λi D=>by
       simp_all)
      (λj o hj=>by simp at hj)
      (λi x3 _=>by
       simp_all)
     have Y:id≠k:=by
      rintro rfl;rw[H]at M;cases M
     have ok:=u.ob k;simp only[if_true]at ok;obtain⟨vk,h9,x4⟩:=ok;have oi:=u.ob id;simp only[if_neg Y,H]at oi;obtain⟨b,T,h0,h1,h2,h3,h4,h5⟩:=oi;have x1:id<st.heap.length:=by
      apply ke;intro X;have:=h.new id ow;rw[h1]at this;cases this
     have x2:k<st.heap.length:=by
      apply ke;intro X;have:=h.new k ow;rw[h9]at this;cases this
     have F:c<Io cs:=by
      apply ke;intro X;rw[aS,eC ow]at B;cases B
     have h7:cs[c]?=Q1 (.vec k):=by
      rw[aS,zU F]at B;rw[zU F];simpa using B
     have L:∀i,({tmps:=st.tmps,heap:=(st.heap.set k (.frz e l)).set id (.box (cs.set c (.sl e l)))}:St).hp i=if i=id then .box (cs.set c (.sl e l))else if i=k then .frz e l else st.hp i:=by
      intro i;simp only[St.hp,aS];by_cases D:i=id
      ·simp_all
      ·grind
     have z:∀i G,ar ρ i (ite (i=id) (.box (cs.set c (.sl e l))) (ite (i=k) (.frz e l) (st.hp i))) G->ar ρ i (ite (i=k) (AO.frz e l) (st.hp i)) G:=by
      intro i G ho;by_cases D:i=id
      ·subst D;rw[if_neg Y,H];obtain⟨_,v,W,hb⟩:=ho;exact⟨rfl,v,W,hb⟩
      ·rwa [if_neg D]at ho
     refine⟨U',⟨⟨h.tm.len,λj cc v S W=>Z (h.tm.rv j cc v S W)⟩,⟨λi=>?_,λi1 i2 G o1 o2=>?_,λi G o=>?_⟩,λi D=>h.new i (by simpa using D),h.df,h.r0⟩,h6⟩
     ·rw[L];by_cases D:i=id
      ·subst D;rw[if_pos rfl];refine⟨b,T,h0,h1,h2,h3,⟨by simp[h4.len],λj cc v S W=>?_⟩,h5⟩;rw[yX]at S;split at S
       ·rename_i h8;subst h8;cases S;have:=h4.rv c _ v h7 W;cases this with
        |vec _ _ hr _=>
        simp_all
       ·exact h4.rv j cc v S W
      ·rw[if_neg D];exact u.ob i
     ·rw[L]at o1 o2;exact u.inj i1 i2 G (z _ _ o1) (z _ _ o2)
     ·rw[L]at o;exact u.blk i G (z _ _ o)
    ·exact⟨U,h,O⟩
   ·exact⟨U,h,O⟩
  ·exact⟨U,h,O⟩
 ·exact⟨U,h,O⟩
theorem MU{gl:Nat->AV}:∀(ps:List (Nat×Nat)){st:St}{U:Nat->Prop},Cn C st a w U ρ->Wd gl C w U->∃o,Cn C (ps.foldl HP st) a w o ρ/\Wd gl C w o
 |[],_,U,h,u=>⟨U,h,u⟩
 | p::ps,st,U,h,u=>by
  obtain⟨o,B,z⟩:=X6 p h u;exact MU ps B z
theorem jU(f:Nat->Nat):∀cs:List AV,AV.renL f cs=cs.map (AV.ren f)
 |[]=>rfl
 |c::cs=>by simp[AV.renL,jU f cs]
theorem qb(f:Nat->Nat):∀(e:Sh)(x:Sem e)(q:Nat)(c:AV),(zu e x)[q]?=Q1 c->c.ren f=c:=by
 intro e
 induction e with
 |unit=>intro y q o h;simp[zu]at h
 |bool=>intro y q o h;cases q<;>simp[zu]at h;subst h;simp[AV.ren]
 |int k=>intro y q o h;cases q<;>simp[zu]at h;subst h;simp[AV.ren]
 |str=>intro y q o h;cases q<;>simp[zu]at h;subst h;simp[AV.ren]
 |sl e B=>intro y q o h;cases q<;>simp[zu]at h;subst h;simp[AV.ren]
 | pr a b u z=>
  intro y q o h;simp only[zu]at h;grind
 | expr=>
  intro y q o h
  match q with
  |0=>simp[zu]at h;subst h;simp[AV.ren]
  |1=>simp[zu]at h;subst h;simp[AV.ren]
  |2=>simp[zu]at h;subst h;simp[AV.ren]
  |3=>simp[zu]at h;subst h;simp[AV.ren]
  |4=>simp[zu]at h;subst h;simp[AV.ren]
  |5=>simp[zu]at h;subst h;simp[AV.ren]
  |_+6=>simp[zu]at h
theorem me:∀(e:Sh)(x:Sem e)(q:Nat)(c:AV),(zu e x)[q]?=Q1 c->c.ids=[]:=by
 intro e
 induction e with
 |unit=>intro y q o h;simp[zu]at h
 |bool=>intro y q o h;cases q<;>simp[zu]at h;subst h;simp[AV.ids]
 |int k=>intro y q o h;cases q<;>simp[zu]at h;subst h;simp[AV.ids]
 |str=>intro y q o h;cases q<;>simp[zu]at h;subst h;simp[AV.ids]
 |sl e B=>intro y q o h;cases q<;>simp[zu]at h;subst h;simp[AV.ids]
 | pr a b u z=>
  intro y q o h;simp only[zu]at h;grind
 | expr=>
  intro y q o h
  match q with
  |0=>simp[zu]at h;subst h;simp[AV.ids]
  |1=>simp[zu]at h;subst h;simp[AV.ids]
  |2=>simp[zu]at h;subst h;simp[AV.ids]
  |3=>simp[zu]at h;subst h;simp[AV.ids]
  |4=>simp[zu]at h;subst h;simp[AV.ids]
  |5=>simp[zu]at h;subst h;simp[AV.ids]
  |_+6=>simp[zu]at h
theorem Rv.ren'{ρ':Nat->Option Value}{f:Nat->Nat}{c:AV}{v:Value}(h:Rv w U ρ c v)(I:∀id∈c.ids,∀v,ρ id=Q1 v->ρ' (f id)=Q1 v):Rv w U ρ' (c.ren f) v:=by
 induction h with
 |any v=>simp only[AV.ren];exact .any v
 |kb b=>simp only[AV.ren];exact .kb b
 |bool b=>simp only[AV.ren];exact .bool b
 |int k n h=>simp only[AV.ren];exact .int k n h
 |str s h=>simp only[AV.ren];exact .str s h
 |nils a=>simp only[AV.ren];exact .nils a
 |sl0 e a c=>simp only[AV.ren];exact .sl0 e a c
 | sl e l b o c G B hm M L D hr W=>
  simp only[AV.ren];refine .sl e l b o c G B hm M L D (λi hi j X O=>?_);have:=W i hi j X O (λid z=>by rw[me e _ j X O]at z;simp at z)
  rwa [qb f e _ j X O]at this
 |vec id v h J=>simp only[AV.ren];exact .vec _ v (I id (by simp[AV.ids]) _ h) J
 |ptr id F b h=>simp only[AV.ren];exact .ptr _ F b (I id (by simp[AV.ids]) _ h)
 |vptr id sz i F b n c h=>simp only[AV.ren];exact .vptr _ sz i F b n c (I id (by simp[AV.ids]) _ h)
 | eptr cs F b o G M L D J hr W=>
  simp only[AV.ren,jU];refine .eptr _ F b o G M L (by simpa using D) (by simpa using J) (λj c B=>?_);simp only[eL,eB]at B;obtain⟨H,u,rfl⟩:=B;exact W j H u (λid z=>I id (by simp only[AV.ids];exact iB (pI u) z))
 |nilp=>simp only[AV.ren];exact .nilp
 | agg cs vs hl J hr W=>
  simp only[AV.ren,jU];refine .agg _ vs (by simpa using hl) J (λj c v B S=>?_);simp only[eL,eB]at B;obtain⟨H,u,rfl⟩:=B;exact W j H v u S (λid z=>I id (by simp only[AV.ids];exact iB (pI u) z))
 | tup cs vs hl hr W=>
  simp only[AV.ren,jU];refine .tup _ vs (by simpa using hl) (λj c v B S=>?_);simp only[eL,eB]at B;obtain⟨H,u,rfl⟩:=B;exact W j H v u S (λid z=>I id (by simp only[AV.ids];exact iB (pI u) z))
 | clo fn fs cs vf vc Z D h4 h3 h2 h0=>
  simp only[AV.ren,jU];refine .clo fn _ _ vf vc (by simpa using Z) (by simpa using D) (λj c v B S=>?_) (λj c v B S=>?_)
  ·simp only[eL,eB]at B;obtain⟨H,u,rfl⟩:=B;exact h2 j H v u S (λid z=>I id (by simp only[AV.ids,cJ];exact .inl (iB (pI u) z)))
  ·simp only[eL,eB]at B;obtain⟨H,u,rfl⟩:=B;exact h0 j H v u S (λid z=>I id (by simp only[AV.ids,cJ];exact .inr (iB (pI u) z)))
 |nilf=>simp only[AV.ren];exact .nilf
 |mp id v h J=>simp only[AV.ren];exact .mp _ v (I id (by simp[AV.ids]) _ h) J
 |ifcN=>simp only[AV.ren];exact .ifcN
 |ifcS t v=>simp only[AV.ren];exact .ifcS t v
 |tab k zs b T Y M L=>simp only[AV.ren];exact .tab k zs b T Y M L
 |gint m b T Y hm M L=>simp only[AV.ren];exact .gint m b T Y hm M L
theorem dA.ren'{ρ':Nat->Option Value}{f:Nat->Nat}{cs:List AV}{vs:List Value}(h:dA w U ρ cs vs)(D:∀id∈AV.idsL cs,∀v,ρ id=Q1 v->ρ' (f id)=Q1 v):dA w U ρ' (AV.renL f cs) vs:=by
 rw[jU];refine⟨by simpa using h.len,λj c v z F=>?_⟩;simp only[eL,eB]at z;obtain⟨B,o,rfl⟩:=z;exact(h.rv j B v o F).ren' (λid u=>D id (iB (pI o) u))
theorem bF.ren'{ρ':Nat->Option Value}{f:Nat->Nat}{id id':Nat}{o:AO}(h:bF w U ρ id o)(D:∀v,ρ id=Q1 v->ρ' id'=Q1 v)(S:∀i∈o.ids,∀v,ρ i=Q1 v->ρ' (f i)=Q1 v):bF w U ρ' id' (o.ren f):=by
 have M:∀(e:Sh)(x:Sem e)(j:Nat)(c:AV)(v:Value),(zu e x)[j]?=Q1 c->Rv w U ρ c v->Rv w U ρ' c v:=by
  intro e x j c v O X;have:=X.ren' (ρ':=ρ') (f:=f) (λi W=>by rw[me e x j c O]at W;simp at W)
  rwa [qb f e x j c O]at this
 cases o with
 |dead=>trivial
 | box cs=>
  obtain⟨b,T,L,F,G,H,I,J⟩:=h;exact⟨b,T,L,D _ F,G,H,I.ren' S,J⟩
 | vec e l=>
  obtain⟨a,c,F,G,H⟩:=h;refine⟨a,c,D _ F,G,?_⟩;grind
 | frz e l=>
  obtain⟨v,F,G⟩:=h;refine⟨v,D _ F,?_⟩;have:=G.ren' (ρ':=ρ') (f:=f) (by simp[AV.ids]);simpa[AV.ren]using this
 | fmap es=>
  obtain⟨r,B,z,F,G,H,I,J⟩:=h;refine⟨r,B,z,D _ F,G,H,?_,by rw[J];simp⟩;have:=I.ren' (ρ':=ρ') (f:=f) S;rw[jU]at this;simpa[pM,uH]using this
 | vmap u es=>
  obtain⟨r,B,z,F,G,H,I,J⟩:=h;exact⟨r,B,z,D _ F,G,H,I,J⟩
theorem Rv.ren{ρ':Nat->Option Value}{f:Nat->Nat}{c:AV}{v:Value}(h:Rv w U ρ c v)(u:∀id∈c.ids,ρ' (f id)=ρ id):Rv w U ρ' (c.ren f) v:=
 h.ren' λid o v z=>by rw[u id o];exact z
theorem dA.ren{ρ':Nat->Option Value}{f:Nat->Nat}{cs:List AV}{vs:List Value}(h:dA w U ρ cs vs)(u:∀id∈AV.idsL cs,ρ' (f id)=ρ id):dA w U ρ' (AV.renL f cs) vs:=
 h.ren' λid o v z=>by rw[u id o];exact z
theorem bF.ren{ρ':Nat->Option Value}{f:Nat->Nat}{id id':Nat}{o:AO}(h:bF w U ρ id o)(u:ρ' id'=ρ id)(B:∀i∈o.ids,ρ' (f i)=ρ i):bF w U ρ' id' (o.ren f):=
 h.ren' (λv z=>by rw[u];exact z) λid u v z=>by rw[B id u];exact z
theorem DS{f:Nat->Nat}(o:AO):(o.ren f).owns=o.owns:=by cases o<;>rfl
theorem DL:∀{l:List Nat},Ql l=Q3->l.Nodup
 |[],_=>List.nodup_nil
 | i::r,h=>by
  simp[Ql]at h;exact List.nodup_cons.2 ⟨h.1,DL h.2⟩
theorem QU{n0:Nat}{h B:List Nat}{hp:Nat->AO}(hC:∀id,n0<=id->C.ρ0 id=Q2)(I:kI hp n0 B h=Q3)(O:jI C w U ρ hp)(h0:∀id v,C.ρ0 id=Q1 v->ρ id=Q1 v):
  let F:=λj=>(h[j]?).bind ρ
  (∀id∈B,F (h.idxOf id)=ρ id)/\jI C w U F (λj=>(h.map λi=>(hp i).ren λi=>h.idxOf i).getD j .dead)/\(∀id,Io h<=id->F id=Q2)/\∀id v,C.ρ0 id=Q1 v->F id=Q1 v:=by
 intro F;simp only[kI,aE,ep,F2,bh]at I;obtain⟨⟨⟨h1,h2⟩,h3⟩,h4⟩:=I;have T:=DL h3;have H:∀id∈h,F (h.idxOf id)=ρ id:=by
  intro id G;have u:h.idxOf id<Io h:=List.idxOf_lt_length_iff.2 G;show(h[h.idxOf id]?).bind ρ=ρ id;rw[zU u,List.getElem_idxOf u];rfl
 have D:∀j(D:j<Io h),F j=ρ h[j]:=by
  intro j D;show(h[j]?).bind ρ=ρ h[j];rw[zU D];rfl
 have J:∀j(D:j<Io h),(h.map λi=>(hp i).ren λi=>h.idxOf i).getD j .dead=(hp h[j]).ren λi=>h.idxOf i:=by
  intro j D;rw[aS,eL,zU D];rfl
 have L:∀j,Io h<=j->(h.map λi=>(hp i).ren λi=>h.idxOf i).getD j .dead=.dead:=by
  intro j D;rw[aS,eC (by simpa using D)];rfl
 have z:∀j b,ar F j ((h.map λi=>(hp i).ren λi=>h.idxOf i).getD j .dead) b->∃D:j<Io h,ar ρ h[j] (hp h[j]) b:=by
  rintro j b ⟨Y,v,M,hb⟩;by_cases u:j<Io h
  ·refine⟨u,?_,v,by rw[<-D j u];exact M,hb⟩;rw[J j u,DS]at Y;exact Y
  ·grind
 refine⟨λid G=>H id (h1 id G),⟨λj=>?_,λj1 j2 b o1 o2=>?_,λj b o=>?_⟩,λj S=>?_,λid v M=>?_⟩
 ·by_cases u:j<Io h
  ·rw[J j u];exact(O.ob h[j]).ren (D j u) (λi hi=>H i (h2 h[j] (aK u) i hi))
  ·rw[L j ow];trivial
 ·obtain⟨l1,W⟩:=z j1 b o1;obtain⟨l2,q2⟩:=z j2 b o2;exact(List.getElem_inj T).1 (O.inj _ _ b W q2)
 ·obtain⟨l1,W⟩:=z j b o;exact O.blk _ b W
 ·grind
 ·have u:id<n0:=by
   apply ke;intro S;rw[hC id ow]at M;cases M
  have X:h[id]?=Q1 id:=by
   have Z:(h.take n0)[id]?=Q1 id:=by rw[h4,yW u]
   rwa [List.getElem?_take,if_pos u]at Z
  grind
theorem Qm{n0:Nat}{k:aN}{st u:St}(H:∀id,n0<=id->C.ρ0 id=Q2)(h:zh5 n0 k st=Q1 u)(I:Cn C st a w U ρ):∃J,Cn C u a w U J:=by
 unfold zh5 at h;obtain⟨M,o⟩:=DZ k.prom (za1 k.slots I);generalize k.prom.foldl vO {st with tmps:=FF k.slots 0 st.tmps}=L at h o;unfold zen at h;simp only at h;split at h
 ·rename_i z;cases h;obtain⟨B,D,F,G⟩:=QU H z o.hp o.r0;exact⟨_,o.tm.ren B,D,by simpa using F,o.df,G⟩
 ·cases h
end
def Tr.Sat{α:Type}(Φ:α->Prop):Tr α->Prop
 |.err=>False
 |.chk c t=>c=Q3/\t.Sat Φ
 |.br c t f=>(c=Q3->t.Sat Φ)/\(c=false->f.Sat Φ)
 |.ok a=>Φ a
theorem Tr.sat_val{α:Type}{Φ:α->Prop}:∀{t:Tr α},t.Sat Φ->∃a,t.val=Q1 a/\Φ a
 |.err,h=>h.elim
 |.chk c t,⟨z,h⟩=>by subst z;simpa[Tr.val]using sat_val h
 | .br c t f,⟨o,u⟩=>by
  cases c
  ·simpa[Tr.val]using sat_val (u rfl)
  ·simpa[Tr.val]using sat_val (o rfl)
 |.ok a,h=>⟨a,rfl,h⟩
theorem Tr.sat_bind{α β:Type}{Φ:β->Prop}{k:α->Tr β}:∀{t:Tr α},(t.bind k).Sat Φ->t.Sat λa=>(k a).Sat Φ
 |.err,h=>h
 |.chk _ _,⟨o,h⟩=>⟨o,sat_bind h⟩
 |.br _ _ _,⟨u,z⟩=>⟨λo=>sat_bind (u o),λo=>sat_bind (z o)⟩
 |.ok _,h=>h
def RH(E:bZ)(C:ff)(Q:AV->List AO->Prop)(e:Ending)(z:World):Prop:=
 ∃v r u o h,e=.returned v/\Q r u/\Rv z o h r v/\jI C z o h (λj=>u.getD j .dead)/\(∀id,Io u<=id->h id=Q2)/\(∀id v,C.ρ0 id=Q1 v->h id=Q1 v)/\Wd E.gl C z o
def Reach(E:bZ)(C:ff)(fn:FuncId)(h:List Item)(st:St)(Q:AV->List AO->Prop):Prop:=
 ∀(b:Frame)(cs:List Frame)(a:Act)(w:World)(U:Nat->Prop)(ρ:Nat->Option Value),b.fn=fn->b.kind=.normal->Cn C st a w U ρ->Wd E.gl C w U->
  ∃e u o,RH E C Q e u/\Comes E.P (lone (b.at a h) cs w) (lone o cs u) e/\o.fn=fn/\o.leaving E.P u e
def kc(E:bZ)(C:ff)(fn:FuncId)(Q:AV->List AO->Prop):zG->Prop
 |.head _ k st=>Reach E C fn k st Q
 |.ret v h=>Q v h
 |.fork c o u st=>(c=Q3->Reach E C fn o st Q)/\Reach E C fn u st Q
section
variable {E:bZ} {C:ff} {fn:FuncId} {Q:AV->List AO->Prop}
theorem Reach.step{u o:List Item}{st:St}(h:Reach E C fn o st Q)(L:∀(b:Frame)(a:Act)(cs:List Frame)(w:World),step E.P (lone (b.at a u) cs w)=.next (lone (b.at a o) cs w)):Reach E C fn u st Q:=by
 intro b cs a w U ρ D F H G;obtain⟨e,M,B,hp,z,I,J⟩:=h b cs a w U ρ D F H G;exact⟨e,M,B,hp,mQ (.one (L b a cs w)) z,I,J⟩
def yK(tmps:Array Value):ResultVar->Go.Sem Value
 |.tmp t=>pure (tmps.getD t undef)
 |.cell x t=>do loadVar t (<-asAddr (tmps.getD x undef))
theorem uy(f:Func)(tmps:Array Value):results f tmps=(do
  let vs<-f.results.mapM (yK tmps)
  pure (if h:vs.size=1 then vs[0]else .tuple vs)):=by
 unfold results;congr 2
theorem EH{a:Act}{w:World}{U:Nat->Prop}{ρ:Nat->Option Value}{st:St}(B:Cn C st a w U ρ):∀(H:List ResultVar)(vs:List AV),wC E st H=Q1 vs->
  ∃xs:List Value,(H.mapM (yK a.tmps)).run E.P w=.ok xs w/\dA w U ρ vs xs
 | [],vs,h=>by
  simp[wC]at h;subst h;exact⟨[],sw,rfl,sw⟩
 | r :: H,vs,h=>by
  simp only[wC]at h;split at h
  ·rename_i v S u L;cases h;obtain⟨xs,T,F⟩:=EH B H S L;have o:∀t,Rv w U ρ (st.tmps.getD t .any) (a.tmps.getD t undef):=by
    intro t;by_cases Z:t<st.tmps.length
    ·have h0:t<a.tmps.toList.length:=by rw[<-B.tm.len];exact Z
     refine B.tm.rv t _ _ (by simp_all) ?_;simp_all
    ·rw[aS,eC ow];exact .any _
   have O:∃x,(yK a.tmps r).run E.P w=.ok x w/\Rv w U ρ v x:=by
    cases r with
    | tmp t=>
     simp only[JH,bH]at u;subst u;exact⟨_,rfl,o t⟩
    | cell x t=>
     simp only[JH]at u;have G:=o x;split at u
     ·rename_i id off hp;rw[hp]at G;generalize M:a.tmps.getD x undef=vx at G;split at u
      ·rename_i cs D;have X:=B.hp.ob id;rw[D]at X;have:=GZ (P:=E.P) (w:=w) (U:=U) (ρ:=ρ) (hp:=st.hp) (t:=t) (av:=.ptr id off) (v:=vx) (f:={val:=v}) (by simp[Iv,D,u]) G (λi hi=>B.hp.ob i);obtain⟨r',x',W,z,J⟩:=this;cases W;cases G with
       |ptr _ _ b hb=>
       refine⟨x',?_,J⟩;simp only[yK,M,asAddr,cI,pH,pJ];simpa[Instr.loadAt,Instr.sureAddr]using z
      ·cases u
     ·cases u
   obtain⟨x,hx,Y⟩:=O;refine⟨x::xs,?_,⟨by simp[F.len],λj c y I hy=>?_⟩⟩
   ·simp_all
   ·cases j with
    |zero=>simp_all
    |succ j=>exact F.rv j c y (by simpa using I) (by simpa using hy)
  ·cases h
theorem ziC{n0:Nat}{f:Func}(_:E.P.funcs[fn]?=Q1 f)(T:∀id,n0<=id->C.ρ0 id=Q2){J:List ResultVar}(I:f.results.toList=J){st:St}(h:(wB E n0 J st).Sat (kc E C fn Q))
  {a:Act} {w:World} {U:Nat->Prop} {ρ:Nat->Option Value} (F:Cn C st a w U ρ) (W:Wd E.gl C w U):∃v,(results f a.tmps).run E.P w=.ok v w/\RH E C Q (.returned v) w:=by
 unfold wB at h;split at h
 ·rename_i vs D;obtain⟨xs,z,o⟩:=EH F J vs D;simp only at h;have u:(results f a.tmps).run E.P w=.ok (if h:xs.toArray.size=1 then xs.toArray[0]else .tuple xs.toArray) w:=by
   rw[uy,cI,Array.mapM_eq_mapM_toList,Sem.run_map,I,z];rfl
  have B:Rv w U ρ (IY vs) (if h:xs.toArray.size=1 then xs.toArray[0]else .tuple xs.toArray):=by
   clear h D z u;have H:=o.len
   match vs,xs,H,o with
   |[c],[x],_,o=>simpa[IY]using o.rv 0 c x rfl rfl
   |[],[],_,_=>simpa[IY]using Rv.tup (w:=w) (U:=U) (ρ:=ρ) [] [] rfl sw
   | X::c2::cs,x1::x2::xs,H,o=>
    rw[dif_neg sw];exact .tup _ _ H o.rv
  refine⟨_,u,?_⟩;split at h
  ·rename_i G;obtain⟨L,M,O,S⟩:=QU T G F.hp F.r0;exact⟨_,_,_,U,_,rfl,h,B.ren L,M,by simpa using O,S,W⟩
  ·exact h.elim
 ·exact h.elim
theorem CK{a:Act}{w:World}{U:Nat->Prop}{ρ:Nat->Option Value}{st:St}{c:Operand}{t:Bool}(o:Cn C st a w U ρ)(D:a.eval c=.bool t):Cn C (Bf st c t) a w U ρ:=by
 unfold Bf;split
 ·rename_i i;refine{o with tm:=⟨by simpa using o.tm.len,λj d v h B=>?_⟩};rw[yX]at h;split at h
  ·rename_i z;subst z;split at h
   ·cases h;have:a.eval (.tmp i)=v:=by
     simp only[Act.eval];rw[pp];have:=dn.1 B;obtain⟨F,G⟩:=this;have u:i<a.tmps.size:=by simpa using F
     simp[tB u,<-G]
    rw[this]at D;subst D;exact .kb t
   ·cases h
  ·exact o.tm.rv j d v h B
 ·exact o
theorem Sb{w:World}{U:Nat->Prop}{ρ:Nat->Option Value}{hp:Nat->AO}{D:AV}{v:Value}{c:Bool}(h:Ih hp D=Q1 c)(B:Rv w U ρ D v)(G:∀id,bF w U ρ id (hp id)):∃a n F,v=.slice a n F/\(a=Q2->c=Q3):=by
 have H:∀{e:Sh}{l:List (Sem e)}{v:Value},Rv w U ρ (.sl e l) v->∃a n F,v=.slice a n F/\(a=Q2->l.isEmpty=Q3):=by
  intro e l v B;cases B with
  |sl0 _ a c=>exact⟨a,0,c,rfl,λ_=>rfl⟩
  |sl _ _ b o c _ _ _ _ _ _ _=>simp_all
 cases D<;>simp[Ih]at h
 case nils=>
  subst h;cases B with
  |nils a=>exact⟨a,0,0,rfl,λ_=>rfl⟩
 case sl e l=>
  grind
 case vec id=>
  cases B with
  |vec _ _ M _=>
  have z:=G id;split at h
  ·rename_i e l u;simp only[bH]at h;subst h;rw[u]at z;obtain⟨a,c,I,_,L⟩:=z;grind
  ·rename_i e l u;simp only[bH]at h;subst h;rw[u]at z;obtain⟨O,I,J⟩:=z;simp_all
  ·cases h
theorem za5{P:Program}{w:World}{t z:TypeId}(B:P.underlying t=Q1 (.slice z))(o u:Operand)(p:Option Addr)(n h:Nat):
  (do eqGuard .eql t o u (.slice p n h) (.slice Q2 0 0);binOp .eql t (.slice p n h) (.slice Q2 0 0):Go.Sem Value).run P w=.ok (.bool p.isNone) w:=by
 have g:(eqGuard .eql t o u (.slice p n h) (.slice Q2 0 0)).run P w=.ok () w:=by simp[eqGuard]
 have e:(Op.equal t (.slice p n h) (.slice Q2 0 0)).run P w=.ok p.isNone w:=by
  show(Op.equalIn (9999+1) t (.slice p n h) (.slice Q2 0 0)).run P w=.ok p.isNone w;unfold Op.equalIn;rw[cI,bD B];cases p<;>rfl
 have D:(binOp .eql t (.slice p n h) (.slice Q2 0 0):Go.Sem Value)=(do pure (.bool (<-Op.equal t (.slice p n h) (.slice Q2 0 0)))):=rfl;simp_all
theorem Oo{st:St}{ca cb L G:Code}{s x d:Nat}{t:TypeId}{c:Bool}{k:List Item}(u:IQ ca cb=Q1 (s,x,d,t,L,G))(he:Ih st.hp (st.tmps.getD s .any)=Q1 c)(ht:Oa E.P t=Q3)(hd:d<st.tmps.length)(hx:x<st.tmps.length)
  (h1:c=Q3->Reach E C fn (.code L::k) {st with tmps:=(st.tmps.set x (st.tmps.getD s .any)).set d .any} Q) (h2:Reach E C fn (.code G::k) {st with tmps:=(st.tmps.set x (st.tmps.getD s .any)).set d .any} Q):Reach E C fn (.code (.seq ca cb)::k) st Q:=by
 unfold IQ at u;split at u
 ·rename_i id ops d' a0 b0;split at u
  ·rename_i o1 o2 Y;split at u
   ·rename_i x' s' d0 t0 x1 ty e1 e2 e3 e4 e5 e6;split at u
    ·rename_i H;obtain⟨rfl,rfl,h8⟩:=H;cases u;intro b cs a w U ρ O S F hW;have h6:∃el,E.P.underlying t=Q1 (.slice el):=by
      unfold Oa at ht;split at ht
      ·exact⟨_,‹_›⟩
      ·cases ht
     obtain⟨el,hu⟩:=h6;have T:Rv w U ρ (st.tmps.getD s .any) (a.eval (.tmp s)):=by
      have:=Iy (E:=E) (known:=[]) F.tm sw hW.gl (.tmp s);simpa[xe]using this
     obtain⟨p,n,cp,hv,I⟩:=Sb he T (λid=>F.hp.ob id);have W:st.tmps.length=a.tmps.size:=by have:=F.tm.len;simpa using this
     have J:ops=#[o1,o2]:=by apply mz;simpa using Y
     generalize o:a.put (Q1 x) (a.eval (.tmp s))=D;have h0:D.eval (.tmp x)=.slice p n cp:=by
      rw[<-o,hv];simp only[Act.eval,Act.put];rw[pp];simp[W▸hx]
     have Z:(Code.region id ops false).wp E.P (λe a' w'=>e=.normal/\w'=w/\a'=D.put (Q1 d) (.bool p.isNone)) a w:=by
      refine wp_region ?_;rw[J];show wpOps E.P #[o1,o2] _ [0,1] a w;simp only[wpOps,List.getElem?_toArray,List.getElem?_cons_zero,Region.wanted,e3,if_true];refine .inl (fS (v:=a.eval (.tmp s)) (w':=w) (by simp[execOp,e2]) ?_);rw[e1,o];simp only[List.getElem?_cons_succ,List.getElem?_cons_zero,e6,if_true];refine .inl (fS (v:=.bool p.isNone) (w':=w) ?_ ?_)
      ·have h7:D.tmps.getD x undef=.slice p n cp:=h0;have X:=za5 (w:=w) hu (.tmp x) (.const (.slice Q2 0 0)) p n cp;have h3:D.eval (.tmp x)=.slice p n cp:=h0;have h4:D.eval (.const (.slice Q2 0 0))=.slice Q2 0 0:=rfl;unfold execOp;rw[e5];simp only[h3,h4];simp only[cI]at X⊢;simp[X]
      ·rw[e4];exact⟨trivial,rfl,rfl⟩
     obtain⟨e,a',w',⟨rfl,rfl,rfl⟩,h⟩:=Z b (.code (.cond (.tmp d) L G)::k) cs;have z:Cn C {st with tmps:=(st.tmps.set x (st.tmps.getD s .any)).set d .any} (D.put (Q1 d) (.bool p.isNone)) w' U ρ:=by
      refine⟨?_,F.hp,F.new,?_,F.r0⟩
      ·have r1:=Bt (d:=Q1 x) F.tm T;rw[o]at r1;exact Bt (d:=Q1 d) r1 (.any (.bool p.isNone))
      ·rw[<-o];exact F.df
     have B:(D.put (Q1 d) (.bool p.isNone)).eval (.tmp d)=.bool p.isNone:=by
      have h5:d<D.tmps.size:=by rw[<-o];simp[Act.put];omega
      simp only[Act.eval,Act.put];rw[pp];simp[h5]
     cases hp:p with
     | none=>
      rw[hp]at B h z;obtain⟨e,M,fr,q1,q2,q3⟩:=h1 (I hp) b cs _ w' U ρ O S z hW;exact⟨e,M,fr,q1,mQ (.one step_seq) (mQ h (mQ (.one (step_cond B)) q2)),q3⟩
     | some pa=>
      rw[hp]at B h z;obtain⟨e,M,fr,q1,q2,q3⟩:=h2 b cs _ w' U ρ O S z hW;exact⟨e,M,fr,q1,mQ (.one step_seq) (mQ h (mQ (.one (step_cond B)) q2)),q3⟩
    ·cases u
   ·cases u
  ·cases u
 ·cases u
theorem HN(hE:zw E){n0:Nat}{f:Func}(hf:E.P.funcs[fn]?=Q1 f)(hC:∀id,n0<=id->C.ρ0 id=Q2){rs:List ResultVar}(h3:f.results.toList=rs){keep:Nat->aN}:
  ∀(n:Nat)(o:List Item)(st:St),(run E n0 keep rs n o st).Sat (kc E C fn Q)->Reach E C fn o st Q
 |0,_,_,h=>h.elim
 | n + 1,o,st,h=>by
  have I:=HN hE hf hC h3 (keep:=keep) n;have X:∀(c:Code)(k:List Item),(lw n0 (keep (eG c)) (eG c) (.code c::.inLoop c::k) st).Sat (kc E C fn Q)->Reach E C fn (.code c::.inLoop c::k) st Q:=by
   intro c k h;unfold lw at h;split at h
   ·rename_i Y hn;intro b cs a w U ρ G J F H;obtain⟨ρ',z⟩:=Qm hC hn F;exact h b cs a w U ρ' G J z H
   ·exact h.elim
  have cut:∀(kp:aN)(h4:Nat)(o:List Item)(st:St),(lw n0 kp h4 o st).Sat (kc E C fn Q)->Reach E C fn o st Q:=by
   intro kp h4 o st h;unfold lw at h;split at h
   ·rename_i Y hn;intro b cs a w U ρ G J F H;obtain⟨ρ',z⟩:=Qm hC hn F;exact h b cs a w U ρ' G J z H
   ·exact h.elim
  have D:(wB E n0 rs ((keep 1000000).sett.foldl HP ((keep 1000000).prom.foldl vO st))).Sat (kc E C fn Q)->∀(o:List Item),(∀(b:Frame)(a:Act)(cs:List Frame)(w:World),step E.P (lone (b.at a o) cs w)=.next (lone {b.at a o with mode:=.returning} cs w))->Reach E C fn o st Q:=by
   intro h o hs b cs a w U ρ G J F H;obtain⟨ρ',z⟩:=DZ (keep 1000000).prom F;obtain⟨U',h7,h6⟩:=MU (gl:=E.gl) (keep 1000000).sett z H;obtain⟨v,hr,hp⟩:=ziC hf hC h3 h h7 h6;refine⟨.returned v,w,{b.at a o with mode:=.returning},hp,.one (hs b a cs w),G,rfl,F.df,J,f,?_,hr⟩;show E.P.funcs[b.fn]?=Q1 f;rw[G];exact hf
  unfold run at h;split at h
  ·exact D h [] (λb a cs w=>step_end)
  ·exact(I _ _ h).step (λb a cs w=>step_inBlock)
  ·split at h
   ·exact(I _ _ h).step (λb a cs w=>step_inLoop)
   ·exact(X _ _ h).step (λb a cs w=>step_inLoop)
  ·rename_i c k;split at h
   ·exact(I _ _ h).step (λb a cs w=>step_skip)
   ·exact(I _ _ h).step (λb a cs w=>step_label)
   ·split at h
    ·rename_i hn;split at h
     ·rename_i c he;split at h
      ·rename_i u;simp only[aE,aQ]at u;exact Oo hn he u.1 u.2.1 u.2.2 h.1 h.2
      ·exact h.elim
     ·exact h.elim
    ·exact(I _ _ h).step (λb a cs w=>step_seq)
   ·rename_i co x y;intro b cs a w U ρ G J F H;have B:=Iy (E:=E) (known:=[]) F.tm sw H.gl co;generalize Z:a.eval co=v at B;split at h
    ·rename_i L;rw[L]at B;cases B;obtain⟨e,W,M,O,S,T⟩:=I _ _ h b cs a w U ρ G J F H;exact⟨e,W,M,O,mQ (.one (step_cond Z)) S,T⟩
    ·rename_i L;rw[L]at B;cases B;obtain⟨e,W,M,O,S,T⟩:=I _ _ h b cs a w U ρ G J F H;exact⟨e,W,M,O,mQ (.one (step_cond Z)) S,T⟩
    ·rename_i t L;rw[L]at B;cases B;cases t
     ·obtain⟨e,W,M,O,S,T⟩:=I _ _ (h.2 rfl) b cs a w U ρ G J (CK F Z) H;exact⟨e,W,M,O,mQ (.one (step_cond Z)) S,T⟩
     ·obtain⟨e,W,M,O,S,T⟩:=I _ _ (h.1 rfl) b cs a w U ρ G J (CK F Z) H;exact⟨e,W,M,O,mQ (.one (step_cond Z)) S,T⟩
    ·exact h.elim
   ·exact(I _ _ h).step (λb a cs w=>step_block)
   ·split at h
    ·exact(I _ _ h).step (λb a cs w=>step_loop)
    ·exact(X _ _ h).step (λb a cs w=>step_loop)
   ·rename_i id;split at h
    ·rename_i k' hk;exact(I _ _ h).step (λb a cs w=>step_exit hk)
    ·exact h.elim
   ·exact D h _ (λb a cs w=>step_ret)
   ·rename_i id ops draw;intro b cs a w U ρ G J F H;obtain⟨Y,hv,hs⟩:=Tr.sat_val (Tr.sat_bind h);obtain⟨e,a',W,⟨rfl,U',ρ',z,h5⟩,h0⟩:=FC (id:=id) hE hv F H b k cs;have hR:Reach E C fn k Y Q:=by
     split at hs
     ·exact cut _ _ _ _ hs
     ·exact I _ _ hs
    obtain⟨e,h8,M,O,S,T⟩:=hR b cs a' W U' ρ' G J z h5;exact⟨e,h8,M,O,mQ h0 S,T⟩
   ·exact h.elim
  ·exact h.elim
end
@[reducible] def zz:List (Option Sh)->Type
 |[]=>Unit
 |some s::ks=>Sem s×zz ks
 |none::ks=>AV×zz ks
def jB:(ks:List (Option Sh))->zz ks->List AV
 |[],_=>[]
 |some s::ks,x=>zC s x.1::jB ks x.2
 |none::ks,x=>x.1::jB ks x.2
abbrev iU(ks:List (Option Sh)):=zz ks->List AO->Tr (AV×List AO)
def mi(hp:Nat->AO)(f:Nat->Nat):(ks:List (Option Sh))->List AV->Option (zz ks)
 |[],[]=>Q1 ()
 | some s::ks,a::as=>match Ab hp s a,mi hp f ks as with
  |some x,Q1 r=>Q1 (x,r)
  |_,_=>Q2
 | none::ks,a::as=>match mi hp f ks as with
  |some r=>Q1 (a.ren f,r)
  |none=>Q2
 |_,_=>Q2
def cC(hp:Nat->AO):List (Option Sh)->List AV->Option (List (Bool×AV))
 |[],[]=>Q1 []
 | some s::ks,a::as=>match Ab hp s a,cC hp ks as with
  |some x,Q1 r=>Q1 ((false,zC s x)::r)
  |_,_=>Q2
 | none::ks,a::as=>match cC hp ks as with
  |some r=>Q1 ((Q3,a)::r)
  |none=>Q2
 |_,_=>Q2
def fD:List (Option Sh)->List AV->List Nat
 |some _::ks,a::as=>dP a++fD ks as
 |none::ks,_::as=>fD ks as
 |_,_=>[]
def B1:AV->Bool
 |.bool _|.kb _|.int _ _|.str _|.ifc _=>Q3
 |_=>false
def wH:AV->Bool
 |.tup vs=>vs.all B1
 |v=>B1 v
def fV(ps:List (Bool×AV)):List AV:=(ps.filter (·.1)).map (·.2)
def oo(π:List Nat)(n:Nat)(j:Nat):Nat:=if j<Io π then π.getD j 0 else n+(j-Io π)
def P4(hp:Nat->AO)(n:Nat)(π z:List Nat)(r:AV)(h:List AO):Tr fT:=
  if Io π<=Io h then
    .ok {val:=r.ren (oo π n),wr:=(π.zip h).map (λp=>(p.1,p.2.ren (oo π n)))++(ite (wH r&&π.isEmpty&&h.isEmpty) [] (gy hp z)),
          nw:=(h.drop (Io π)).map (AO.ren (oo π n))}
  else .err
def zh1:AO->Bool
 |.dead=>false
 |_=>Q3
def bp(h:List (Option Sh))(G:iU h):zZ:=λargs hp n=>
 match cC hp h args with
 | some ps=>
  let π:=kx hp 400 (AV.idsL (fV ps)) []
  let z:=fD h args
  if kI hp 0 (AV.idsL (fV ps)) π&&z.all (λi=>py (hp i)&&!π.contains i)&&π.all (λi=>decide (i<n)&&zh1 (hp i))then
   match mi hp (λi=>π.idxOf i) h args with
   |some x=>(G x (π.map λi=>(hp i).ren λi=>π.idxOf i)).bind λp=>P4 hp n π z p.1 p.2
   |none=>.err
  else .err
 |none=>.err
def YH(E:bZ)(k:FuncId)(args:List AV)(h:List AO)(Q:AV->List AO->Prop):Prop:=
 ∃f c,E.P.funcs[k]?=Q1 f/\f.body=Q1 c/\(f.name=="runtime.NumGoroutine")=false/\args.length<=f.ntmps/\
  ∀C:ff,(∀id,Io h<=id->C.ρ0 id=Q2)->Reach E C k [.code c] (bl f.ntmps args h) Q
section
variable {E:bZ} {w:World} {U:Nat->Prop} {ρ:Nat->Option Value}
theorem CJ{G:Nat->Prop}{ρ':Nat->Option Value}{hp:Nat->AO}{s:Sh}{O:AV}{x:Sem s}{v:Value}(h:Ab hp s O=Q1 x)(H:Rv w U ρ O v)(M:∀b,G b->U b)
  (Y:∀id∈dP O,bF w U ρ id (hp id)/\∀b,ar ρ id (hp id) b->¬G b):Rv w G ρ' (zC s x) v:=by
 have F:∀(c:AV)(v:Value)(j:Nat),(zu s x)[j]?=Q1 c->Rv w G ρ c v->Rv w G ρ' c v:=by
  intro c v j u H;have:=H.ren (ρ':=ρ') (f:=λi=>i) (λi hi=>by rw[me s x j c u]at hi;simp at hi)
  rwa [qb _ s x j c u]at this
 obtain⟨cs,z,J⟩:=Ac h;obtain⟨B,I⟩:=gU z H
 obtain⟨q1,q2,q3⟩:=ot (w:=w) (U:=U) (U':=G) (ρ:=ρ) (hp:=hp) M s cs x [] (λj=>(v.cells.toList[j]?).getD undef) J
  (λj c hj=>by
   have X:j<v.cells.toList.length:=by rw[<-B.len];exact(dn.1 hj).1
   exact B.rv j c _ hj (by simp[zU X]))
  (λid W=>Y id (by simpa[dP,z]using W))
 have Z:v.cells.toList.length=s.size:=by rw[<-B.len];simpa using q1
 have o:s.isAgg=O.isAgg:=by
  unfold Ab at h;split at h
  ·rename_i he;simpa using he
  ·cases h
 unfold zC;cases T:s.isAgg with
 | true=>
  rw[T]at o;have D:v=.agg v.cells.toList.toArray:=by
   cases H with
   |agg h2 vs hl S H=>simp[Value.cells]
   |_=>simp[AV.isAgg]at o
  rw[D];refine .agg _ _ (by rw[ac,Z]) I (λj c y u hy=>?_);grind
 | false=>
  have L:∃c,zu s x=[c]:=by
   cases s<;>simp[Sh.isAgg]at T<;>simp[zu]
  obtain⟨c,u⟩:=L;have h3:s.size=1:=by rw[<-ac s x,u];rfl
  rw[u];have h0:=F c _ 0 (by rw[u];rfl) (q3 0 c (by rw[u];rfl));rw[T]at o;have hv:v.cells.toList[0]?=Q1 v:=by
   cases v with
   | agg arr=>
    cases H with
    |agg=>simp[AV.isAgg]at o
    |any=>simp[cellsOf]at z
    |vec _ _ _ S=>simp[Value.oneCell']at S
    |mp _ _ _ S=>simp[Value.oneCell']at S
   |_=>rfl
  rw[hv]at h0;exact h0
theorem jR{U':Nat->Prop}{ρ':Nat->Option Value}{hp:Nat->AO}{f:Nat->Nat}(z:∀b,U' b->U b):∀(F:List (Option Sh))(args:List AV)(u:List Value)(ps:List (Bool×AV)),cC hp F args=Q1 ps->
  dA w U ρ args u->(∀id∈fD F args,bF w U ρ id (hp id)/\∀b,ar ρ id (hp id) b->¬U' b)->(∀id∈AV.idsL (fV ps),ρ' (f id)=ρ id)->
  dA w U' ρ' (ps.map λp=>if p.1 then p.2.ren f else p.2) u/\∀id∈AV.idsL (fV ps),id∈AV.idsL args
 | [],[],u,ps,h,D,_,_=>by
  simp[cC]at h;subst h;exact⟨by simpa using⟨D.len,λj c v B=>by simp at B⟩,by simp[fV,AV.idsL]⟩
 |some s::ks,a::as,[],ps,_,D,_,_=>by have:=D.len;simp at this
 |none::ks,a::as,[],ps,_,D,_,_=>by have:=D.len;simp at this
 | some s::ks,a::as,v::u,ps,h,D,hob,hρ=>by
  simp only[cC]at h;split at h
  ·rename_i x r O G;cases h;have H:dA w U ρ as u:=⟨by have:=D.len;simpa using this,λj c v B M=>D.rv (j+1) c v B M⟩;obtain⟨J,L⟩:=jR z ks as u r G H (λid o=>hob id (by simp[fD,o])) (λid o=>hρ id (by simpa[fV]using o));refine⟨⟨by simp[J.len.symm],λj c y B I=>?_⟩,λid o=>?_⟩
   ·cases j with
    | zero=>
     simp at B I;subst B;subst I;exact CJ O (D.rv 0 a v rfl rfl) z (λid o=>hob id (by simp[fD,o]))
    |succ j=>exact J.rv j c y (by simpa using B) (by simpa using I)
   ·simp only[AV.idsL,cJ];exact .inr (L id (by simpa[fV]using o))
  ·cases h
 | none::ks,a::as,v::u,ps,h,D,hob,hρ=>by
  simp only[cC]at h;split at h
  ·rename_i r G;cases h;have H:dA w U ρ as u:=⟨by have:=D.len;simpa using this,λj c v B M=>D.rv (j+1) c v B M⟩;obtain⟨J,L⟩:=jR z ks as u r G H (λid o=>hob id (by simpa[fD]using o)) (λid o=>hρ id (by simp[fV,AV.idsL]at o⊢;exact .inr o));refine⟨⟨by simp[J.len.symm],λj c y B I=>?_⟩,λid o=>?_⟩
   ·cases j with
    | zero=>
     simp at B I;subst B;subst I;exact((D.rv 0 a v rfl rfl).weak z).ren (λid o=>hρ id (by simp[fV,AV.idsL];exact .inl o))
    |succ j=>exact J.rv j c y (by simpa using B) (by simpa using I)
   ·simp[fV,AV.idsL]at o⊢;rcases o with o|o
    ·exact .inl o
    ·exact .inr (L id (by simpa[fV]using o))
  ·cases h
 |[],_::_,_,_,h,_,_,_=>by simp[cC]at h
 |some _::_,[],_,_,h,_,_,_=>by simp[cC]at h
 |none::_,[],_,_,h,_,_,_=>by simp[cC]at h
theorem yn{hp:Nat->AO}{f:Nat->Nat}:∀(o:List (Option Sh))(args:List AV)(ps:List (Bool×AV))(x:zz o),cC hp o args=Q1 ps->mi hp f o args=Q1 x->
  jB o x=ps.map λp=>if p.1 then p.2.ren f else p.2
 |[],[],ps,x,h,_=>by simp[cC]at h;subst h;rfl
 | some s::ks,a::as,ps,x,h,hx=>by
  simp only[cC]at h;simp only[mi]at hx;split at h
  ·rename_i y r F z;cases h;rw[F]at hx;split at hx
   ·rename_i G D B u;cases B;cases hx;simp[jB,yn ks as r D z u]
   ·cases hx
  ·cases h
 | none::ks,a::as,ps,x,h,hx=>by
  simp only[cC]at h;simp only[mi]at hx;split at h
  ·rename_i r z;cases h;split at hx
   ·rename_i D u;cases hx;simp[jB,yn ks as r D z u]
   ·cases hx
  ·cases h
 |[],_::_,_,_,h,_=>by simp[cC]at h
 |some _::_,[],_,_,h,_=>by simp[cC]at h
 |none::_,[],_,_,h,_=>by simp[cC]at h
theorem qx:∀(o:List (Option Sh))(args:List AV)(id:Nat),id∈fD o args->id∈AV.idsL args
 | some _::ks,a::as,id,h=>by
  simp only[fD,cJ]at h;simp only[AV.idsL,cJ];exact h.imp qv (qx ks as id)
 | none::ks,_::as,id,h=>by
  simp only[fD]at h;simp only[AV.idsL,cJ];exact .inr (qx ks as id h)
 |[],_,_,h=>by simp[fD]at h
 |some _::_,[],_,h=>by simp[fD]at h
 |none::_,[],_,h=>by simp[fD]at h
theorem OZ{B:World}{z:Nat->Prop}{D:Nat->Option Value}{r:AV}{v:Value}{f:Nat->Nat}(h:wH r=Q3)(o:Rv w U ρ r v):Rv B z D (r.ren f) v:=by
 have u:∀(r:AV)(v:Value),B1 r=Q3->Rv w U ρ r v->Rv B z D (r.ren f) v:=by
  intro r v h o;cases o<;>simp[B1]at h<;>simp only[AV.ren]
  ·exact .kb _
  ·exact .bool _
  ·exact .int _ _ ‹_›
  ·exact .str _ ‹_›
  ·exact .ifcN
  ·exact .ifcS _ _
 cases r with
 | tup vs=>
  cases o with
  |tup _ xs F G=>
  simp only[wH,ep]at h;simp only[AV.ren,jU];refine .tup _ xs (by simpa using F) (λj c v H I=>?_);grind
 |_=>exact u _ v (by simpa[wH]using h) o
theorem collect_in{hp:Nat->AO}{S:List Nat}(z:∀id∈S,∀j∈(hp id).ids,j∈S):∀(u:Nat)(o h:List Nat),(∀i∈o,i∈S)->(∀i∈h,i∈S)->∀i∈kx hp u o h,i∈S
 |0,_,_,_,B=>B
 |_+1,[],_,_,B=>B
 | n+1,i::r,h,ht,B=>by
  simp only[kx];split
  ·exact collect_in z n r h (λj D=>ht j (by simp[D])) B
  ·refine collect_in z n _ _ (λj D=>?_) (λj D=>?_)
   ·grind
   grind
theorem Wy{id:Nat}{o:AO}(h:zh1 o=Q3)(F:bF w U ρ id o):∃v,ρ id=Q1 v:=by
 cases o with
 |dead=>simp[zh1]at h
 |box cs=>obtain⟨b,T,G,z,_⟩:=F;exact⟨_,z⟩
 |vec e l=>obtain⟨a,c,z,_⟩:=F;exact⟨_,z⟩
 |frz e l=>obtain⟨v,z,_⟩:=F;exact⟨_,z⟩
 |fmap es=>obtain⟨r,D,B,z,_⟩:=F;exact⟨_,z⟩
 |vmap u es=>obtain⟨r,D,B,z,_⟩:=F;exact⟨_,z⟩
theorem CF{C:ff}{k:FuncId}{f:Func}{c:Code}{args:List AV}{h:List Value}{z:List AO}{Q:AV->List AO->Prop}(O:E.P.funcs[k]?=Q1 f)(L:f.body=Q1 c)(_:Io args<=f.ntmps)
  (I:Reach E C k [.code c] (bl f.ntmps args z) Q) (D:dA w U ρ args h) (H:jI C w U ρ (λj=>z.getD j .dead)) (u:∀id,Io z<=id->ρ id=Q2) (B:∀id v,C.ρ0 id=Q1 v->ρ id=Q1 v)
  (J:Wd E.gl C w U):Calls E.P k h.toArray w (RH E C Q):=by
 intro cs;let b:Frame:={(default:Frame)with fn:=k,kind:=.normal}
 have o:Frame.enter E.P k h.toArray .normal=b.at {tmps:=h.toArray++Array.replicate (f.ntmps-h.toArray.size) undef,defers:=[]} [.code c]:=by
  simp[Frame.enter,Frame.at,O,L,b]
 rw[o];refine I b cs _ w U ρ rfl rfl ⟨?_,H,u,rfl,B⟩ J;have S:=D.len;simp only[bl,Array.toList_append,Array.toList_replicate,List.size_toArray];rw[<-S];refine D.append ⟨sw,λj c v M T=>?_⟩;have F:c=.tup []:=by
  have:=pI M;simpa using(List.mem_replicate.1 this).2
 have G:v=undef:=by
  have:=pI T;simpa using(List.mem_replicate.1 this).2
 rw[F,G];exact .tup [] [] rfl sw
def Pg(E:bZ)(k:FuncId)(args:List AV)(o:List AO)(Q:AV->List AO->Prop):Prop:=
 ∀(C:ff)(w:World)(U:Nat->Prop)(ρ:Nat->Option Value)(h:List Value),(∀id,Io o<=id->C.ρ0 id=Q2)->dA w U ρ args h->jI C w U ρ (λj=>o.getD j .dead)->(∀id,Io o<=id->ρ id=Q2)->
  (∀id v,C.ρ0 id=Q1 v->ρ id=Q1 v)->Wd E.gl C w U->Calls E.P k h.toArray w (RH E C Q)
theorem YH.calls{k:FuncId}{args:List AV}{o:List AO}{Q:AV->List AO->Prop}(h:YH E k args o Q):Pg E k args o Q:=by
 intro C w U ρ u z B D F G H;obtain⟨f,c,L,J,_,M,I⟩:=h;exact CF L J M (I C z) B D F G H
theorem fg{P:Program}{gl:Nat->AV}{k:FuncId}{F:List (Option Sh)}{G:iU F}(k1:∃fn,E.P.funcs[k]?=some fn/\(fn.name=="runtime.NumGoroutine")=false/\fn.body.isNone=false)
    (hG:∀x h0 i9,(G x h0).val=Q1 i9->Pg E k (jB F x) h0 (λr h=>(r,h)=i9)) (qp:E.P=P:=by rfl) (qg:E.gl=gl:=by rfl):pn P gl k (bp F G):=by
  subst qp qg;refine⟨k1,?_⟩;intro w U ρ hp n args x7 f fp h hr i5 k2 X a9 j9 hn;unfold bp at h;split at h
  · rename_i ps i2
    simp only at h;generalize hπ:kx hp 400 (AV.idsL (fV ps)) []=π at h;generalize hz:fD F args=z at h;split at h
    · rename_i h8
      simp only[aE,ep,aQ,sT,List.contains_eq_mem,decide_eq_false_iff_not]at h8;obtain⟨⟨S,x5⟩,l6⟩:=h8;split at h;rotate_left
      · simp at h
      rename_i xs l5;have l4:=yn F args ps xs i2 l5;simp only[Tr.val_bind,gq]at h;obtain⟨⟨r,H⟩,j3,h⟩:=h;unfold P4 at h;split at h
      · rename_i k3
        simp only[Tr.val_ok,bH]at h;simp only[kI,aE,ep,F2]at S;obtain⟨⟨⟨m2,j7⟩,j8⟩,_⟩:=S;have k5:=DL j8;have h6:∀i∈z,i∈fp:=λi O=>a9 i (qx F args i (by rw[hz];exact O))
        generalize a8:(λb=>U b/\¬∃j∈z,ar ρ j (hp j) b)=U1;have D:∀b,U1 b->U b:=by intro b h;rw[<-a8]at h;exact h.1
        have i7:∀j∈z,∀b,ar ρ j (hp j) b->¬U1 b:=λj B b M h=>by grind
        have l0:=jR (w:=w) (U:=U) (ρ:=ρ) (U':=U1) (ρ':=λj=>(π[j]?).bind ρ) (hp:=hp) (f:=λi=>π.idxOf i) D F args x7 ps i2 hr
          (λid Y=>⟨X.ob id (h6 id (by rw[<-hz];exact Y)),i7 id (by rw[<-hz];exact Y)⟩)
          (λid Y=>by
            grind)
        obtain⟨h7,x4⟩:=l0;rw[<-l4]at h7;have L:∀i∈π,i∈fp:=by
          rw[<-hπ];exact collect_in j9 400 _ [] (λi O=>a9 i (x4 i O)) (by simp)
        have j6:∀id∈π,((π[π.idxOf id]?).bind ρ)=ρ id:=by
          intro id Y;have J:π.idxOf id<Io π:=List.idxOf_lt_length_iff.2 Y;rw[zU J,List.getElem_idxOf J];rfl
        let C:ff:={w0:=w,U0:=U1,B0:=λb=>∃i∈π,ar ρ i (hp i) b,ρ0:=λj=>(π[j]?).bind ρ}
        have h5:∀i∈π,∀b,ar ρ i (hp i) b->U1 b/\b<w.heap.size:=by
          intro i O b M;have:=(X.ob i (L i O)).inU M;refine⟨?_,this.2⟩;rw[<-a8];refine⟨this.1,λ⟨j,B,k7⟩=>?_⟩;have e:=X.inj i (L i O) j (h6 j B) b M k7;subst e;exact(x5 i B).2 O
        have a4:∀i∈π,bF w U1 ρ i (hp i):=λi O=>
          (X.ob i (L i O)).mono (ae _) (λ_ _ _=>rfl) (λb _ h=>D b h) (λ_ _ h=>h) (λb M=>⟨rfl,(h5 i O b M).1⟩)
        have h9:∀j(B:j<Io π),(π.map λi=>(hp i).ren λi=>π.idxOf i).getD j .dead=(hp π[j]).ren λi=>π.idxOf i:=by
          intro j B;rw[aS,eL,zU B];rfl
        have x2:∀j,Io π<=j->(π.map λi=>(hp i).ren λi=>π.idxOf i).getD j .dead=.dead:=by
          intro j B;rw[aS,eC (by simpa using B)];rfl
        have i8:∀j(B:j<Io π),((π[j]?).bind ρ)=ρ π[j]:=λj B=>by rw[zU B];rfl
        have Z:∀j b,ar (λj=>(π[j]?).bind ρ) j ((π.map λi=>(hp i).ren λi=>π.idxOf i).getD j .dead) b->∃B:j<Io π,ar ρ π[j] (hp π[j]) b:=by
          rintro j b ⟨M,v,hv,W⟩;by_cases J:j<Io π
          · refine⟨J,?_,v,by rw[<-i8 j J];exact hv,W⟩
            rw[h9 j J,DS]at M;exact M
          · simp_all
        have j4:jI C w U1 (λj=>(π[j]?).bind ρ) (λj=>(π.map λi=>(hp i).ren λi=>π.idxOf i).getD j .dead):=by
          refine⟨λj=>?_,λj1 j2 b o1 o2=>?_,λj b o=>?_⟩
          · by_cases J:j<Io π
            · rw[h9 j J]
              exact(a4 π[j] (aK J)).ren (i8 j J) (λi O=>j6 i (j7 π[j] (aK J) i O))
            · rw[x2 j (by omega)];trivial
          · obtain⟨l1,q1⟩:=Z j1 b o1
            obtain⟨l2,q2⟩:=Z j2 b o2;exact(List.getElem_inj k5).1 (X.inj _ (L _ (aK l1)) _ (L _ (aK l2)) b q1 q2)
          · obtain⟨l1,q1⟩:=Z j b o
            grind
        have j5:Wd E.gl C w U1:=⟨mv.refl w,λ_ _ _=>rfl,λb W=>i5 b (D b W),λ_ _ h=>h,λ_ _ h _=>h,λg=>(k2 g).weak D⟩;have x1:=hG _ _ _ j3 C w U1 _ x7 (λid Y=>by
            grind) h7 j4 (λid Y=>by
            simp_all) (λ_ _ h=>h) j5
        have a6:∀id o,(id,o)∈f.wr->id∈fp:=by
          intro id o u;rw[<-h]at u;simp only[cJ,bd]at u;rcases u with⟨p,a5,he⟩|u
          · have:p.1∈π:=(List.of_mem_zip a5).1
            cases he;exact L _ this
          · split at u
            · simp at u
            · exact h6 id (dq u).1
        refine⟨x1.mono ?_,a6⟩;rintro e w' ⟨v,r',m1,U',ρ',rfl,hq,i4,x9,a2,i3,I⟩;cases hq;by_cases h4:(wH r&&π.isEmpty&&H.isEmpty)=Q3
        ·
          rw[if_pos h4]at h;simp only[aE,List.isEmpty_iff]at h4;obtain⟨⟨l3,rfl⟩,rfl⟩:=h4;simp at h;subst h;refine⟨v,U,ρ,rfl,⟨I.ext,OZ l3 i4,by simp,by simp,λ_ _=>rfl,λ_ _ h=>h,λb W _=>I.same b W (by simp[C]),λb W=>g7 (i5 b W) I.ext.sz,λ_ _ h=>h,λ_ _ h _=>h,by simp,by simp⟩⟩
        · rw[if_neg h4]at h
          let ρf:Nat->Option Value:=λid=>if n<=id/\id<n+(Io H-Io π)then ρ' (Io π+(id-n))else ρ id
          have k4:∀j(B:j<Io π),ρ' j=ρ π[j]:=by
            intro j B;obtain⟨x,hx⟩:=Wy (l6 π[j] (aK B)).2 (X.ob π[j] (L _ (aK B)));rw[hx];exact i3 j x (by grind)
          have hg:∀j,j<Io H->ρf (oo π n j)=ρ' j:=by
            intro j B;unfold oo;split
            · grind
            · grind
          have l8:f.nw.length=Io H-Io π:=by rw[<-h];simp
          have x0:∀id x,ρ id=Q1 x->ρf id=Q1 x:=by
            intro id x hx;show(ite (n<=id/\id<n+(Io H-Io π)) (ρ' (Io π+(id-n))) (ρ id))=Q1 x;rw[if_neg]
            · exact hx
            · rintro⟨T,h2⟩
              have:=hn (id-n) (by omega);simp_all
          have a0:∀j x,ρ' j=Q1 x->ρf (oo π n j)=Q1 x:=by
            intro j x hx;by_cases B:j<Io H
            · rw[hg j B];exact hx
            · rw[a2 j (by omega)]at hx;cases hx
          have i1:∀j(B:j<Io H),bF w' U' ρf (oo π n j) (H[j].ren (oo π n)):=by
            intro j B;have:=x9.ob j;rw[show H.getD j .dead=H[j] by simp[B]]at this;exact this.ren' (λx hx=>a0 j x hx) (λi _ x hx=>a0 i x hx)
          have i6:∀id o,(id,o)∈f.wr->(∃j,∃B:j<Io H,j<Io π/\id=oo π n j/\o=H[j].ren (oo π n))\/(id∈z/\o=Do (hp id)):=by
            intro id o u;rw[<-h]at u;simp only[cJ,bd]at u;rcases u with⟨p,a5,he⟩|u
            · obtain⟨j,B,i0⟩:=fz a5
              have a1:j<Io π/\j<Io H:=by rw[List.length_zip]at B;omega
              rw[List.getElem_zip]at i0;subst i0;cases he;refine .inl ⟨j,a1.2,a1.1,?_,rfl⟩;simp[oo,a1.1]
            · exact .inr (dq u)
          have m4:∀(k:Nat) o,f.nw[k]?=Q1 o->∃B:Io π+k<Io H,n+k=oo π n (Io π+k)/\o=H[Io π+k].ren (oo π n):=by
            intro k o hk;rw[<-h]at hk;simp only[eL,F4,eB]at hk;obtain⟨a,ha,rfl⟩:=hk;obtain⟨B,ha⟩:=dn.1 ha;exact⟨B,by unfold oo;rw[if_neg (by omega)];omega,by rw[ha]⟩
          have x6:∀(id:Nat),(Do (hp id)).owns=Q3->py (hp id)=Q3->False:=by
            intro id T h2;cases hh:hp id<;>rw[hh]at T h2<;>simp[Do,AO.owns,py]at T h2
          have a7:∀id o b,((id,o)∈f.wr\/(n<=id/\f.nw[id-n]?=Q1 o))->ar ρf id o b->∃j,id=oo π n j/\ar ρ' j (H.getD j .dead) b:=by
            intro id o b u M;have j0:∀j(B:j<Io H),id=oo π n j->o=H[j].ren (oo π n)->∃j,id=oo π n j/\ar ρ' j (H.getD j .dead) b:=by
              rintro j B rfl rfl;refine⟨j,rfl,?_⟩;obtain⟨T,x,h2,h3⟩:=M;rw[DS]at T;rw[hg j B]at h2;refine⟨?_,x,h2,h3⟩;rw[show H.getD j .dead=H[j] by simp[B]];exact T
            rcases u with u|⟨m3,u⟩
            · rcases i6 id o u with⟨j,B,_,T,h2⟩|⟨T,rfl⟩
              · exact j0 j B T h2
              · exact(x6 id M.1 (x5 id T).1).elim
            · grind
          have x8:∀b,C.B0 b->∃id o,(id,o)∈f.wr/\ar ρ id (hp id) b:=by
            rintro b ⟨i,O,M⟩;obtain⟨j,B,rfl⟩:=fz O;refine⟨π[j],H[j].ren (oo π n),?_,M⟩;rw[<-h];simp only[cJ,bd];refine .inl ⟨(π[j],H[j]),?_,rfl⟩;have:(π.zip H)[j]?=Q1 (π[j],H[j]):=by simp[List.getElem?_zip_eq_some,B,g7 B k3]
            exact pI this
          have l9:∀i∈z,(i,Do (hp i))∈f.wr:=by
            intro i O;rw[<-h];simp only[cJ];exact .inr (rq O)
          refine⟨v,U',ρf,rfl,⟨I.ext,?_,?_,?_,?_,x0,?_,I.ub,?_,?_,?_,?_⟩⟩
          · rw[<-h];exact i4.ren' (λi _ x hx=>a0 i x hx)
          · intro id o u
            rcases i6 id o u with⟨j,B,_,rfl,rfl⟩|⟨x3,rfl⟩
            · exact i1 j B
            · refine(rp (X.ob id (h6 id x3)) (x5 id x3).1 D (i7 id x3)).mono I.ext.sz (λb W k6=>?_) I.u1 x0 (λb M=>(x6 id M.1 (x5 id x3).1).elim)
              exact I.same b W (λ⟨i,O,M⟩=>k6 (h5 i O b M).1)
          · grind
          · grind
          · intro b W a3
            refine I.same b W (λhB=>?_);obtain⟨id,o,T,h2⟩:=x8 b hB;exact a3 id o T h2
          · intro b W hu
            exact D b (I.u1 b W hu)
          · intro b W hu a3
            refine I.u2 b W ?_ (λhB=>?_)
            · grind
            · obtain⟨id,o,T,h2⟩:=x8 b hB
              exact a3 id o T h2
          · intro id o b u M
            obtain⟨j,_,B⟩:=a7 id o b u M;rcases x9.blk j b B with hB|hB
            · exact .inr (x8 b hB)
            · exact .inl hB
          · intro id1 o1 l7 o2 b T h2 k8 k9
            obtain⟨j1,e1,q1⟩:=a7 id1 o1 b T k8;obtain⟨j2,e2,q2⟩:=a7 l7 o2 b h2 k9;rw[e1,e2,x9.inj j1 j2 b q1 q2]
      · simp at h
    · simp at h
  · simp at h
theorem TY{P:Program}{D:Nat->AV}{k:FuncId}{o:List (Option Sh)}{G:iU o}(B:∃fn,E.P.funcs[k]?=Q1 fn/\(fn.name=="runtime.NumGoroutine")=false/\fn.body.isNone=false)
  (F:∀x z u,(G x z).val=Q1 u->YH E k (jB o x) z (λr h=>(r,h)=u)) (J:E.P=P:=by rfl) (I:E.gl=D:=by rfl):pn P D k (bp o G):=by
 subst J I;exact fg B λx z u H=>(F x z u H).calls
end
end Cad
