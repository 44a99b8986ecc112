/- What is kept at a loop's head says no more than what was there. Functions: from a run to a contract. A function's contract, lifted to whatever calls it. -/
import Derived.Test.YtjfdpfapcmcncaaGreatDoorL03
namespace Cad
open Go
open Bool renaming true→Q3
open Option renaming none→Q2,some→Q1
open Tr (chk br)
open AV (nils agg tup ptr kb str sl)
section
variable {E:bW} {C:fh} {a:Act} {w:World} {U:Nat->Prop} {ρ:Nat->Option Value}
theorem KN(keep:List Nat):∀(l:List AV)(i j:Nat),(EO keep i l)[j]?=(l[j]?).map λv=>if keep.contains (i+j)then v else .any
 |[],_,_=>by simp[EO]
 |v::r,i,0=>by simp[EO]
 | v::r,i,j+1=>by
  simp only[EO,List.getElem?_cons_succ];rw[KN keep r (i+1) j,show i+1+j=i+(j+1) by omega]
theorem KO(keep:List Nat):∀(l:List AV)(i:Nat),(EO keep i l).length=l.length
 |[],_=>rfl
 |v::r,i=>by simp[EO,KO keep r]
theorem ZD{st:St}(keep:List Nat)(h:Cn C st a w U ρ):Cn C {st with tmps:=EO keep 0 st.tmps} a w U ρ:=by
 refine⟨⟨by rw[KO];exact h.tm.len,λj c v hc hv=>?_⟩,h.hp,h.new,h.df,h.r0⟩;rw[KN]at hc;simp only[eD]at hc;obtain⟨c',hc',rfl⟩:=hc;split
 ·exact h.tm.rv j c' v hc' hv
 ·exact .any v
theorem Ph{hp hp':Nat->AO}{n:Nat}{e:Sh}{x:Option Addr}(hH:jF C w U ρ hp)(hn:ρ n=Q2)(hnew:hp' n=.vec e [])
  (hold:∀id,id≠n->bA w U (mz ρ n (.slice x 0 0)) id (hp' id)/\∀b,aj (mz ρ n (.slice x 0 0)) id (hp' id) b->aj ρ id (hp id) b):jF C w U (mz ρ n (.slice x 0 0)) hp':=by
 have Q2:∀b,¬aj (mz ρ n (.slice x 0 0)) n (hp' n) b:=by
  rintro b ⟨_,v,hv,hb⟩;simp[mz]at hv;subst hv;cases x<;>simp[fa]at hb
 refine⟨λid=>?_,λid1 id2 b h1 h2=>?_,λid b h=>?_⟩
 ·by_cases hid:id=n
  ·subst hid;rw[hnew];exact⟨x,0,by simp[mz],sw,.inl ⟨rfl,rfl⟩⟩
  ·exact(hold id hid).1
 ·by_cases e1:id1=n
  ·subst e1;exact(Q2 b h1).elim
  ·by_cases e2:id2=n
   ·subst e2;exact(Q2 b h2).elim
   ·exact hH.inj id1 id2 b ((hold id1 e1).2 b h1) ((hold id2 e2).2 b h2)
 ·by_cases e1:id=n
  ·subst e1;exact(Q2 b h).elim
  ·exact hH.blk id b ((hold id e1).2 b h)
theorem C7{n id:Nat}{v:Value}{o:AO}{b:Nat}(hid:id≠n)(h:aj (mz ρ n v) id o b):aj ρ id o b:=by
 obtain⟨h1,x,hx,hb⟩:=h;simp only[mz,if_neg hid]at hx;exact⟨h1,x,hx,hb⟩
theorem V4{st:St}(p:Nat×Option Nat×Sh)(h:Cn C st a w U ρ):∃ρ',Cn C (vq st p) a w U ρ':=by
 have hn:ρ st.heap.length=Q2:=h.new _ (ae _);have mono:∀(x:Option Addr){c:AV}{v:Value},Rv w U ρ c v->Rv w U (mz ρ st.heap.length (.slice x 0 0)) c v:=λx _ _ hr=>hr.mono (ae _) (λ_ _ _=>rfl) (λ_ _ h=>h) (eW hn)
 have omono:∀(x:Option Addr)(id:Nat),bA w U (mz ρ st.heap.length (.slice x 0 0)) id (st.hp id):=λx id=>
  (h.hp.ob id).mono (ae _) (λ_ _ _=>rfl) (λ_ _ h=>h) (eW hn) (λb ho=>⟨rfl,((h.hp.ob id).inU ho).1⟩)
 have hpapp:∀(hs:List AO)(o:AO),hs.length=st.heap.length->(hs++[o]).getD st.heap.length .dead=o:=by
  intro hs o hl;rw[ba,nG ow,hl];simp
 have hpold:∀(hs:List AO)(o:AO)(id:Nat),hs.length=st.heap.length->id≠st.heap.length->(hs++[o]).getD id .dead=hs.getD id .dead:=by
  intro hs o id hl hid;simp only[ba];by_cases hlt:id<hs.length
  ·rw[mG hlt]
  ·grind
 have newOk:∀(x:Option Addr)(hs:List AO)(o:AO),hs.length=st.heap.length->∀id,(hs++[o]).length<=id->mz ρ st.heap.length (.slice x 0 0) id=Q2:=by
  intro x hs o hl id hid;simp at hid;simp only[mz];rw[if_neg ow];exact h.new id ow
 obtain⟨s,c,e⟩:=p;cases c with
 | none=>
  simp only[vq];split
  ·rename_i hs;have hlt:s<st.tmps.length:=by
    apply te;intro hge;rw[ba,fy ow]at hs;cases hs
   have hs':st.tmps[s]?=Q1 .nils:=by
    rw[ba,zQ hlt]at hs;rw[zQ hlt];simpa using hs
   have hlt':s<a.tmps.toList.length:=by rw[<-h.tm.len];exact hlt
   have hv:=h.tm.rv s _ _ hs' (zQ hlt');generalize hx:a.tmps.toList[s]=x at hv;cases hv with
   |nils ad=>
   refine⟨mz ρ st.heap.length (.slice ad 0 0),⟨by simp[h.tm.len],λj c v hc hv=>?_⟩,Ph h.hp hn (hpapp _ _ rfl) (λid hid=>?_),newOk ad _ _ rfl,h.df,λid v hr=>eW hn id v (h.r0 id v hr)⟩
   ·rw[yp]at hc;split at hc
    ·rename_i hsj;subst hsj;cases hc;rw[zQ hlt',hx]at hv;cases hv;exact .vec _ _ (by simp[mz]) rfl
    ·exact mono ad (h.tm.rv j c v hc hv)
   ·have:({tmps:=st.tmps.set s (.vec st.heap.length),heap:=st.heap++[.vec e []]}:St).hp id=st.hp id:=hpold st.heap _ id rfl hid;rw[this];exact⟨omono ad id,λb hb=>C7 hid hb⟩
  ·exact⟨ρ,h⟩
 | some c=>
  simp only[vq];split
  ·rename_i id hsl;split
   ·rename_i cs hcs;split
    ·rename_i hnil;have ho:=h.hp.ob id;rw[hcs]at ho;obtain⟨b,T,vals,h1,h2,h3,h4,h5⟩:=ho;have hclt:c<cs.length:=by
      apply te;intro hge;rw[ba,fy ow]at hnil;cases hnil
     have hc':cs[c]?=Q1 .nils:=by
      rw[ba,zQ hclt]at hnil;rw[zQ hclt];simpa using hnil
     have hvlt:c<vals.toList.length:=by rw[<-h4.len];exact hclt
     have hv:=h4.rv c _ _ hc' (zQ hvlt);generalize hx:vals.toList[c]=x at hv;cases hv with
     |nils ad=>
     have hidlt:id<st.heap.length:=by
      apply te;intro hge;have:=h.new id ow;rw[h1]at this;cases this
     have hne:id≠st.heap.length:=by omega
     refine⟨mz ρ st.heap.length (.slice ad 0 0),⟨h.tm.len,λj cc v hc hv=>mono ad (h.tm.rv j cc v hc hv)⟩,Ph h.hp hn (hpapp _ _ sw) (λid' hid'=>?_),newOk ad _ _ sw,h.df,λi v hr=>eW hn i v (h.r0 i v hr)⟩;have e0:({tmps:=st.tmps,heap:=st.heap.set id (.box (cs.set c (.vec st.heap.length)))++[.vec e []]}:St).hp id'=(st.heap.set id (.box (cs.set c (.vec st.heap.length)))).getD id' .dead:=hpold _ _ id' sw hid';rw[e0];by_cases hii:id=id'
     ·subst hii;have e1:(st.heap.set id (.box (cs.set c (.vec st.heap.length)))).getD id .dead=.box (cs.set c (.vec st.heap.length)):=by
       simp[List.getElem?_set_self hidlt]
      rw[e1];refine⟨⟨b,T,vals,eW hn _ _ h1,h2,h3,⟨by simp[h4.len],λj cc v hc hv=>?_⟩,h5⟩,λb' hb=>?_⟩
      ·rw[yp]at hc;split at hc
       ·rename_i hcj;subst hcj;cases hc;rw[zQ hvlt,hx]at hv;cases hv;exact .vec _ _ (by simp[mz]) rfl
       ·exact mono ad (h4.rv j cc v hc hv)
      ·obtain⟨_,v,hv,hbb⟩:=C7 hid' hb;exact⟨by rw[hcs];rfl,v,hv,hbb⟩
     ·have e1:(st.heap.set id (.box (cs.set c (.vec st.heap.length)))).getD id' .dead=st.hp id':=by
       simp[St.hp,List.getElem?_set_ne hii]
      rw[e1];exact⟨omono ad id',λb hb=>C7 hid' hb⟩
    ·exact⟨ρ,h⟩
   ·exact⟨ρ,h⟩
  ·exact⟨ρ,h⟩
theorem Dd:∀(ps:List (Nat×Option Nat×Sh)){st:St}{ρ:Nat->Option Value},Cn C st a w U ρ->∃ρ',Cn C (ps.foldl vq st) a w U ρ'
 |[],_,ρ,h=>⟨ρ,h⟩
 | p::ps,st,ρ,h=>by
  obtain⟨ρ',h'⟩:=V4 p h;exact Dd ps h'
theorem WD{gl:Nat->AV}{st:St}(p:Nat×Nat)(h:Cn C st a w U ρ)(hW:Wd gl C w U):∃U',Cn C (GP st p) a w U' ρ/\Wd gl C w U':=by
 obtain⟨s,c⟩:=p;simp only[GP];split
 ·rename_i id hsl;split
  ·rename_i cs hcs;split
   ·rename_i k hck;split
    ·rename_i e l hfz;have hvf:pb (st.hp k)=Q3:=by cases hk:st.hp k<;>rw[hk]at hfz<;>simp[CG]at hfz<;>rfl
     have hef:=Ef.frz (w:=w) (U:=U) (ρ:=ρ) (n:=st.heap.length) (hp:=st.hp) (ids:=[k]) (r:=.any) (v:=undef) hW.ub (by simpa using hvf) (λj _=>h.hp.ob j) (.any _);generalize(λb=>U b/\¬∃j∈[k],aj ρ j (st.hp j) b)=U' at hef;have hwr:gw st.hp [k]=[(k,.frz e l)]:=by simp[gw,hfz]
     rw[hwr]at hef
     obtain⟨hW',hH',mono⟩:=BJ (hp':=λid=>if id=k then .frz e l else st.hp id) hW h.hp hef (λ_ _ _=>rfl)
      (λi hi=>by
       simp_all)
      (λj o hj=>by simp at hj)
      (λi hno _=>by
       simp_all)
     have hik:id≠k:=by
      rintro rfl;rw[hcs]at hvf;cases hvf
     have ok:=hH'.ob k;simp only[if_true]at ok;obtain⟨vk,hvk,hrk⟩:=ok;have oi:=hH'.ob id;simp only[if_neg hik,hcs]at oi;obtain⟨b,T,vals,h1,h2,h3,h4,h5⟩:=oi;have hil:id<st.heap.length:=by
      apply te;intro hge;have:=h.new id ow;rw[h1]at this;cases this
     have hkl:k<st.heap.length:=by
      apply te;intro hge;have:=h.new k ow;rw[hvk]at this;cases this
     have hclt:c<cs.length:=by
      apply te;intro hge;rw[ba,fy ow]at hck;cases hck
     have hc':cs[c]?=Q1 (.vec k):=by
      rw[ba,zQ hclt]at hck;rw[zQ hclt];simpa using hck
     have hhp:∀i,({tmps:=st.tmps,heap:=(st.heap.set k (.frz e l)).set id (.box (cs.set c (.sl e l)))}:St).hp i=if i=id then .box (cs.set c (.sl e l))else if i=k then .frz e l else st.hp i:=by
      intro i;simp only[St.hp,ba];by_cases hi:i=id
      ·simp_all
      ·grind
     have hown:∀i b',aj ρ i (if i=id then .box (cs.set c (.sl e l))else if i=k then .frz e l else st.hp i) b'->aj ρ i (if i=k then AO.frz e l else st.hp i) b':=by
      intro i b' ho;by_cases hi:i=id
      ·subst hi;rw[if_neg hik,hcs];obtain⟨_,v,hv,hb⟩:=ho;exact⟨rfl,v,hv,hb⟩
      ·rwa [if_neg hi]at ho
     refine⟨U',⟨⟨h.tm.len,λj cc v hc hv=>mono (h.tm.rv j cc v hc hv)⟩,⟨λi=>?_,λi1 i2 b' o1 o2=>?_,λi b' o=>?_⟩,λi hi=>h.new i (by simpa using hi),h.df,h.r0⟩,hW'⟩
     ·rw[hhp];by_cases hi:i=id
      ·subst hi;rw[if_pos rfl];refine⟨b,T,vals,h1,h2,h3,⟨by simp[h4.len],λj cc v hc hv=>?_⟩,h5⟩;rw[yp]at hc;split at hc
       ·rename_i hcj;subst hcj;cases hc;have:=h4.rv c _ v hc' hv;cases this with
        |vec _ _ hr _=>
        simp_all
       ·exact h4.rv j cc v hc hv
      ·rw[if_neg hi];exact hH'.ob i
     ·rw[hhp]at o1 o2;exact hH'.inj i1 i2 b' (hown _ _ o1) (hown _ _ o2)
     ·rw[hhp]at o;exact hH'.blk i b' (hown _ _ o)
    ·exact⟨U,h,hW⟩
   ·exact⟨U,h,hW⟩
  ·exact⟨U,h,hW⟩
 ·exact⟨U,h,hW⟩
theorem LK{gl:Nat->AV}:∀(ps:List (Nat×Nat)){st:St}{U:Nat->Prop},Cn C st a w U ρ->Wd gl C w U->∃U',Cn C (ps.foldl GP st) a w U' ρ/\Wd gl C w U'
 |[],_,U,h,hW=>⟨U,h,hW⟩
 | p::ps,st,U,h,hW=>by
  obtain⟨U',h',hW'⟩:=WD p h hW;exact LK ps h' hW'
theorem jR(f:Nat->Nat):∀cs:List AV,AV.renL f cs=cs.map (AV.ren f)
 |[]=>rfl
 |c::cs=>by simp[AV.renL,jR f cs]
theorem pJ(f:Nat->Nat):∀(e:Sh)(x:Sem e)(q:Nat)(c:AV),(zq e x)[q]?=Q1 c->c.ren f=c:=by
 intro e
 induction e with
 |unit=>intro y q cc h;simp[zq]at h
 |bool=>intro y q cc h;cases q<;>simp[zq]at h;subst h;simp[AV.ren]
 |int k=>intro y q cc h;cases q<;>simp[zq]at h;subst h;simp[AV.ren]
 |str=>intro y q cc h;cases q<;>simp[zq]at h;subst h;simp[AV.ren]
 |sl e ih=>intro y q cc h;cases q<;>simp[zq]at h;subst h;simp[AV.ren]
 | pr a b iha ihb=>
  intro y q cc h;simp only[zq]at h;grind
 | expr=>
  intro y q cc h
  match q with
  |0=>simp[zq]at h;subst h;simp[AV.ren]
  |1=>simp[zq]at h;subst h;simp[AV.ren]
  |2=>simp[zq]at h;subst h;simp[AV.ren]
  |3=>simp[zq]at h;subst h;simp[AV.ren]
  |4=>simp[zq]at h;subst h;simp[AV.ren]
  |5=>simp[zq]at h;subst h;simp[AV.ren]
  |_+6=>simp[zq]at h
theorem lS:∀(e:Sh)(x:Sem e)(q:Nat)(c:AV),(zq e x)[q]?=Q1 c->c.ids=[]:=by
 intro e
 induction e with
 |unit=>intro y q cc h;simp[zq]at h
 |bool=>intro y q cc h;cases q<;>simp[zq]at h;subst h;simp[AV.ids]
 |int k=>intro y q cc h;cases q<;>simp[zq]at h;subst h;simp[AV.ids]
 |str=>intro y q cc h;cases q<;>simp[zq]at h;subst h;simp[AV.ids]
 |sl e ih=>intro y q cc h;cases q<;>simp[zq]at h;subst h;simp[AV.ids]
 | pr a b iha ihb=>
  intro y q cc h;simp only[zq]at h;grind
 | expr=>
  intro y q cc h
  match q with
  |0=>simp[zq]at h;subst h;simp[AV.ids]
  |1=>simp[zq]at h;subst h;simp[AV.ids]
  |2=>simp[zq]at h;subst h;simp[AV.ids]
  |3=>simp[zq]at h;subst h;simp[AV.ids]
  |4=>simp[zq]at h;subst h;simp[AV.ids]
  |5=>simp[zq]at h;subst h;simp[AV.ids]
  |_+6=>simp[zq]at h
theorem Rv.ren'{ρ':Nat->Option Value}{f:Nat->Nat}{c:AV}{v:Value}(h:Rv w U ρ c v)(hf:∀id∈c.ids,∀v,ρ id=Q1 v->ρ' (f id)=Q1 v):Rv w U ρ' (c.ren f) v:=by
 induction h with
 |any v=>simp only[AV.ren];exact .any v
 |kb b=>simp only[AV.ren];exact .kb b
 |bool b=>simp only[AV.ren];exact .bool b
 |int k n h=>simp only[AV.ren];exact .int k n h
 |str s h=>simp only[AV.ren];exact .str s h
 |nils a=>simp only[AV.ren];exact .nils a
 |sl0 e a c=>simp only[AV.ren];exact .sl0 e a c
 | sl e l b o c vals hc hm hb hU hcl hr ih=>
  simp only[AV.ren];refine .sl e l b o c vals hc hm hb hU hcl (λi hi j cc hcc=>?_);have:=ih i hi j cc hcc (λid hid=>by rw[lS e _ j cc hcc]at hid;simp at hid)
  rwa [pJ f e _ j cc hcc]at this
 |vec id v h h1=>simp only[AV.ren];exact .vec _ v (hf id (by simp[AV.ids]) _ h) h1
 |ptr id off b h=>simp only[AV.ren];exact .ptr _ off b (hf id (by simp[AV.ids]) _ h)
 |vptr id sz i off b n c h=>simp only[AV.ren];exact .vptr _ sz i off b n c (hf id (by simp[AV.ids]) _ h)
 | eptr cs off b o vals hb hU hcl h1 hr ih=>
  simp only[AV.ren,jR];refine .eptr _ off b o vals hb hU (by simpa using hcl) (by simpa using h1) (λj c hc=>?_);simp only[fA,eD]at hc;obtain⟨c',hc',rfl⟩:=hc;exact ih j c' hc' (λid hid=>hf id (by simp only[AV.ids];exact iE (pl hc') hid))
 |nilp=>simp only[AV.ren];exact .nilp
 | agg cs vs hl h1 hr ih=>
  simp only[AV.ren,jR];refine .agg _ vs (by simpa using hl) h1 (λj c v hc hv=>?_);simp only[fA,eD]at hc;obtain⟨c',hc',rfl⟩:=hc;exact ih j c' v hc' hv (λid hid=>hf id (by simp only[AV.ids];exact iE (pl hc') hid))
 | tup cs vs hl hr ih=>
  simp only[AV.ren,jR];refine .tup _ vs (by simpa using hl) (λj c v hc hv=>?_);simp only[fA,eD]at hc;obtain⟨c',hc',rfl⟩:=hc;exact ih j c' v hc' hv (λid hid=>hf id (by simp only[AV.ids];exact iE (pl hc') hid))
 | clo fn fs cs vf vc hfl hcl hrf hrc ihf ihc=>
  simp only[AV.ren,jR];refine .clo fn _ _ vf vc (by simpa using hfl) (by simpa using hcl) (λj c v hc hv=>?_) (λj c v hc hv=>?_)
  ·simp only[fA,eD]at hc;obtain⟨c',hc',rfl⟩:=hc;exact ihf j c' v hc' hv (λid hid=>hf id (by simp only[AV.ids,cQ];exact .inl (iE (pl hc') hid)))
  ·simp only[fA,eD]at hc;obtain⟨c',hc',rfl⟩:=hc;exact ihc j c' v hc' hv (λid hid=>hf id (by simp only[AV.ids,cQ];exact .inr (iE (pl hc') hid)))
 |nilf=>simp only[AV.ren];exact .nilf
 |mp id v h h1=>simp only[AV.ren];exact .mp _ v (hf id (by simp[AV.ids]) _ h) h1
 |ifcN=>simp only[AV.ren];exact .ifcN
 |ifcS t v=>simp only[AV.ren];exact .ifcS t v
 |tab k zs b T fr hb hU=>simp only[AV.ren];exact .tab k zs b T fr hb hU
 |gint m b T fr hm hb hU=>simp only[AV.ren];exact .gint m b T fr hm hb hU
theorem du.ren'{ρ':Nat->Option Value}{f:Nat->Nat}{cs:List AV}{vs:List Value}(h:du w U ρ cs vs)(hf:∀id∈AV.idsL cs,∀v,ρ id=Q1 v->ρ' (f id)=Q1 v):du w U ρ' (AV.renL f cs) vs:=by
 rw[jR];refine⟨by simpa using h.len,λj c v hc hv=>?_⟩;simp only[fA,eD]at hc;obtain⟨c',hc',rfl⟩:=hc;exact(h.rv j c' v hc' hv).ren' (λid hid=>hf id (iE (pl hc') hid))
theorem bA.ren'{ρ':Nat->Option Value}{f:Nat->Nat}{id id':Nat}{o:AO}(h:bA w U ρ id o)(hid:∀v,ρ id=Q1 v->ρ' id'=Q1 v)(hf:∀i∈o.ids,∀v,ρ i=Q1 v->ρ' (f i)=Q1 v):bA w U ρ' id' (o.ren f):=by
 have plain:∀(e:Sh)(x:Sem e)(j:Nat)(c:AV)(v:Value),(zq e x)[j]?=Q1 c->Rv w U ρ c v->Rv w U ρ' c v:=by
  intro e x j c v hc hr;have:=hr.ren' (ρ':=ρ') (f:=f) (λi hi=>by rw[lS e x j c hc]at hi;simp at hi)
  rwa [pJ f e x j c hc]at this
 cases o with
 |dead=>trivial
 | box cs=>
  obtain⟨b,T,vals,h1,h2,h3,h4,h5⟩:=h;exact⟨b,T,vals,hid _ h1,h2,h3,h4.ren' hf,h5⟩
 | vec e l=>
  obtain⟨a,c,h1,h2,h3⟩:=h;refine⟨a,c,hid _ h1,h2,?_⟩;grind
 | frz e l=>
  obtain⟨v,h1,h2⟩:=h;refine⟨v,hid _ h1,?_⟩;have:=h2.ren' (ρ':=ρ') (f:=f) (by simp[AV.ids]);simpa[AV.ren]using this
 | fmap es=>
  obtain⟨r,ents,clock,h1,h2,h3,h4,h5⟩:=h;refine⟨r,ents,clock,hid _ h1,h2,h3,?_,by rw[h5];simp⟩;have:=h4.ren' (ρ':=ρ') (f:=f) hf;rw[jR]at this;simpa[pq,uk]using this
 | vmap u es=>
  obtain⟨r,ents,clock,h1,h2,h3,h4,h5⟩:=h;exact⟨r,ents,clock,hid _ h1,h2,h3,h4,h5⟩
theorem Rv.ren{ρ':Nat->Option Value}{f:Nat->Nat}{c:AV}{v:Value}(h:Rv w U ρ c v)(hf:∀id∈c.ids,ρ' (f id)=ρ id):Rv w U ρ' (c.ren f) v:=
 h.ren' λid hid v hv=>by rw[hf id hid];exact hv
theorem du.ren{ρ':Nat->Option Value}{f:Nat->Nat}{cs:List AV}{vs:List Value}(h:du w U ρ cs vs)(hf:∀id∈AV.idsL cs,ρ' (f id)=ρ id):du w U ρ' (AV.renL f cs) vs:=
 h.ren' λid hid v hv=>by rw[hf id hid];exact hv
theorem bA.ren{ρ':Nat->Option Value}{f:Nat->Nat}{id id':Nat}{o:AO}(h:bA w U ρ id o)(hid:ρ' id'=ρ id)(hf:∀i∈o.ids,ρ' (f i)=ρ i):bA w U ρ' id' (o.ren f):=
 h.ren' (λv hv=>by rw[hid];exact hv) λid hid v hv=>by rw[hf id hid];exact hv
theorem C6{f:Nat->Nat}(o:AO):(o.ren f).owns=o.owns:=by cases o<;>rfl
theorem C1:∀{l:List Nat},OZ l=Q3->l.Nodup
 |[],_=>List.nodup_nil
 | i::r,h=>by
  simp[OZ]at h;exact List.nodup_cons.2 ⟨h.1,C1 h.2⟩
theorem PB{n0:Nat}{ids from_:List Nat}{hp:Nat->AO}(hC:∀id,n0<=id->C.ρ0 id=Q2)(hcl:kx hp n0 from_ ids=Q3)(hH:jF C w U ρ hp)(hr0:∀id v,C.ρ0 id=Q1 v->ρ id=Q1 v):
  let ρ':=λj=>(ids[j]?).bind ρ
  (∀id∈from_,ρ' (ids.idxOf id)=ρ id)/\jF C w U ρ' (λj=>(ids.map λi=>(hp i).ren λi=>ids.idxOf i).getD j .dead)/\(∀id,ids.length<=id->ρ' id=Q2)/\∀id v,C.ρ0 id=Q1 v->ρ' id=Q1 v:=by
 intro ρ';simp only[kx,aE,ei,E7,aZ]at hcl;obtain⟨⟨⟨h1,h2⟩,h3⟩,h4⟩:=hcl;have hnd:=C1 h3;have hat:∀id∈ids,ρ' (ids.idxOf id)=ρ id:=by
  intro id hid;have hlt:ids.idxOf id<ids.length:=List.idxOf_lt_length_iff.2 hid;show(ids[ids.idxOf id]?).bind ρ=ρ id;rw[zQ hlt,List.getElem_idxOf hlt];rfl
 have hj:∀j(hj:j<ids.length),ρ' j=ρ ids[j]:=by
  intro j hj;show(ids[j]?).bind ρ=ρ ids[j];rw[zQ hj];rfl
 have hhp:∀j(hj:j<ids.length),(ids.map λi=>(hp i).ren λi=>ids.idxOf i).getD j .dead=(hp ids[j]).ren λi=>ids.idxOf i:=by
  intro j hj;rw[ba,fA,zQ hj];rfl
 have hhp':∀j,ids.length<=j->(ids.map λi=>(hp i).ren λi=>ids.idxOf i).getD j .dead=.dead:=by
  intro j hj;rw[ba,fy (by simpa using hj)];rfl
 have howns:∀j b,aj ρ' j ((ids.map λi=>(hp i).ren λi=>ids.idxOf i).getD j .dead) b->∃hj:j<ids.length,aj ρ ids[j] (hp ids[j]) b:=by
  rintro j b ⟨ho,v,hv,hb⟩;by_cases hlt:j<ids.length
  ·refine⟨hlt,?_,v,by rw[<-hj j hlt];exact hv,hb⟩;rw[hhp j hlt,C6]at ho;exact ho
  ·grind
 refine⟨λid hid=>hat id (h1 id hid),⟨λj=>?_,λj1 j2 b o1 o2=>?_,λj b o=>?_⟩,λj hge=>?_,λid v hv=>?_⟩
 ·by_cases hlt:j<ids.length
  ·rw[hhp j hlt];exact(hH.ob ids[j]).ren (hj j hlt) (λi hi=>hat i (h2 ids[j] (bG hlt) i hi))
  ·rw[hhp' j ow];trivial
 ·obtain⟨l1,q1⟩:=howns j1 b o1;obtain⟨l2,q2⟩:=howns j2 b o2;exact(List.getElem_inj hnd).1 (hH.inj _ _ b q1 q2)
 ·obtain⟨l1,q1⟩:=howns j b o;exact hH.blk _ b q1
 ·grind
 ·have hlt:id<n0:=by
   apply te;intro hge;rw[hC id ow]at hv;cases hv
  have hget:ids[id]?=Q1 id:=by
   have e1:(ids.take n0)[id]?=Q1 id:=by rw[h4,ym hlt]
   rwa [List.getElem?_take,if_pos hlt]at e1
  grind
theorem O0{n0:Nat}{k:aN}{st st':St}(hC:∀id,n0<=id->C.ρ0 id=Q2)(h:zgi n0 k st=Q1 st')(hc:Cn C st a w U ρ):∃ρ',Cn C st' a w U ρ':=by
 unfold zgi at h;obtain⟨ρ1,h1⟩:=Dd k.prom (ZD k.slots hc);generalize k.prom.foldl vq {st with tmps:=EO k.slots 0 st.tmps}=s1 at h h1;unfold zcM at h;simp only at h;split at h
 ·rename_i hcl;cases h;obtain⟨e1,e2,e3,e4⟩:=PB hC hcl h1.hp h1.r0;exact⟨_,h1.tm.ren e1,e2,by simpa using e3,h1.df,e4⟩
 ·cases h
end
def Tr.Sat{α:Type}(Φ:α->Prop):Tr α->Prop
 |.err=>False
 |.chk c t=>c=Q3/\t.Sat Φ
 |.br c t f=>(c=Q3->t.Sat Φ)/\(c=false->f.Sat Φ)
 |.ok a=>Φ a
theorem Tr.sat_val{α:Type}{Φ:α->Prop}:∀{t:Tr α},t.Sat Φ->∃a,t.val=Q1 a/\Φ a
 |.err,h=>h.elim
 |.chk c t,⟨hc,h⟩=>by subst hc;simpa[Tr.val]using sat_val h
 | .br c t f,⟨h1,h2⟩=>by
  cases c
  ·simpa[Tr.val]using sat_val (h2 rfl)
  ·simpa[Tr.val]using sat_val (h1 rfl)
 |.ok a,h=>⟨a,rfl,h⟩
theorem Tr.sat_bind{α β:Type}{Φ:β->Prop}{k:α->Tr β}:∀{t:Tr α},(t.bind k).Sat Φ->t.Sat λa=>(k a).Sat Φ
 |.err,h=>h
 |.chk _ _,⟨hc,h⟩=>⟨hc,sat_bind h⟩
 |.br _ _ _,⟨h1,h2⟩=>⟨λhc=>sat_bind (h1 hc),λhc=>sat_bind (h2 hc)⟩
 |.ok _,h=>h
def Qj(E:bW)(C:fh)(Q:AV->List AO->Prop)(e:Ending)(w':World):Prop:=
 ∃v r h' U' ρ',e=.returned v/\Q r h'/\Rv w' U' ρ' r v/\jF C w' U' ρ' (λj=>h'.getD j .dead)/\(∀id,h'.length<=id->ρ' id=Q2)/\(∀id v,C.ρ0 id=Q1 v->ρ' id=Q1 v)/\Wd E.gl C w' U'
def Reach(E:bW)(C:fh)(fn:FuncId)(todo:List Item)(st:St)(Q:AV->List AO->Prop):Prop:=
 ∀(b:Frame)(cs:List Frame)(a:Act)(w:World)(U:Nat->Prop)(ρ:Nat->Option Value),b.fn=fn->b.kind=.normal->Cn C st a w U ρ->Wd E.gl C w U->
  ∃e w' fr,Qj E C Q e w'/\Comes E.P (lone (b.at a todo) cs w) (lone fr cs w') e/\fr.fn=fn/\fr.leaving E.P w' e
def jX(E:bW)(C:fh)(fn:FuncId)(Q:AV->List AO->Prop):zD->Prop
 |.head _ k st=>Reach E C fn k st Q
 |.ret v h=>Q v h
 |.fork c k1 k2 st=>(c=Q3->Reach E C fn k1 st Q)/\Reach E C fn k2 st Q
section
variable {E:bW} {C:fh} {fn:FuncId} {Q:AV->List AO->Prop}
theorem Reach.step{todo todo':List Item}{st:St}(h:Reach E C fn todo' st Q)(hs:∀(b:Frame)(a:Act)(cs:List Frame)(w:World),step E.P (lone (b.at a todo) cs w)=.next (lone (b.at a todo') cs w)):Reach E C fn todo st Q:=by
 intro b cs a w U ρ h1 h2 hc hW;obtain⟨e,w',fr,hp,hcm,hf,hl⟩:=h b cs a w U ρ h1 h2 hc hW;exact⟨e,w',fr,hp,mF (.one (hs b a cs w)) hcm,hf,hl⟩
def xW(tmps:Array Value):ResultVar->Go.Sem Value
 |.tmp t=>pure (tmps.getD t undef)
 |.cell x t=>do loadVar t (<-asAddr (tmps.getD x undef))
theorem uc(f:Func)(tmps:Array Value):results f tmps=(do
  let vs<-f.results.mapM (xW tmps)
  pure (if h:vs.size=1 then vs[0]else .tuple vs)):=by
 unfold results;congr 2
theorem DR{a:Act}{w:World}{U:Nat->Prop}{ρ:Nat->Option Value}{st:St}(hc:Cn C st a w U ρ):∀(rs:List ResultVar)(vs:List AV),vZ E st rs=Q1 vs->
  ∃xs:List Value,(rs.mapM (xW a.tmps)).run E.P w=.ok xs w/\du w U ρ vs xs
 | [],vs,h=>by
  simp[vZ]at h;subst h;exact⟨[],sw,rfl,sw⟩
 | r :: rs,vs,h=>by
  simp only[vZ]at h;split at h
  ·rename_i v vs' hv hvs;cases h;obtain⟨xs,hrun,hrv⟩:=DR hc rs vs' hvs;have hslot:∀t,Rv w U ρ (st.tmps.getD t .any) (a.tmps.getD t undef):=by
    intro t;by_cases ht:t<st.tmps.length
    ·have ht':t<a.tmps.toList.length:=by rw[<-hc.tm.len];exact ht
     refine hc.tm.rv t _ _ (by simp_all) ?_;simp_all
    ·rw[ba,fy ow];exact .any _
   have one:∃x,(xW a.tmps r).run E.P w=.ok x w/\Rv w U ρ v x:=by
    cases r with
    | tmp t=>
     simp only[IF,bB]at hv;subst hv;exact⟨_,rfl,hslot t⟩
    | cell x t=>
     simp only[IF]at hv;have hs:=hslot x;split at hv
     ·rename_i id off hp;rw[hp]at hs;generalize hvx:a.tmps.getD x undef=vx at hs;split at hv
      ·rename_i cs hcs;have ho:=hc.hp.ob id;rw[hcs]at ho;have:=F0 (P:=E.P) (w:=w) (U:=U) (ρ:=ρ) (hp:=st.hp) (t:=t) (av:=.ptr id off) (v:=vx) (f:={val:=v}) (by simp[Hw,hcs,hv]) hs (λi hi=>hc.hp.ob i);obtain⟨r',x',e1,hrun',hr'⟩:=this;cases e1;cases hs with
       |ptr _ _ b hb=>
       refine⟨x',?_,hr'⟩;simp only[xW,hvx,asAddr,cF,pk,pm];simpa[Instr.loadAt,Instr.sureAddr]using hrun'
      ·cases hv
     ·cases hv
   obtain⟨x,hx,hrx⟩:=one;refine⟨x::xs,?_,⟨by simp[hrv.len],λj c y hc' hy=>?_⟩⟩
   ·simp_all
   ·cases j with
    |zero=>simp_all
    |succ j=>exact hrv.rv j c y (by simpa using hc') (by simpa using hy)
  ·cases h
theorem zgN{n0:Nat}{f:Func}(_:E.P.funcs[fn]?=Q1 f)(hC:∀id,n0<=id->C.ρ0 id=Q2){rs:List ResultVar}(hrs:f.results.toList=rs){st:St}(h:(vY E n0 rs st).Sat (jX E C fn Q))
  {a:Act} {w:World} {U:Nat->Prop} {ρ:Nat->Option Value} (hc:Cn C st a w U ρ) (hW:Wd E.gl C w U):∃v,(results f a.tmps).run E.P w=.ok v w/\Qj E C Q (.returned v) w:=by
 unfold vY at h;split at h
 ·rename_i vs hvs;obtain⟨xs,hrun,hrv⟩:=DR hc rs vs hvs;simp only at h;have hres:(results f a.tmps).run E.P w=.ok (if h:xs.toArray.size=1 then xs.toArray[0]else .tuple xs.toArray) w:=by
   rw[uc,cF,Array.mapM_eq_mapM_toList,Sem.run_map,hrs,hrun];rfl
  have hval:Rv w U ρ (HW vs) (if h:xs.toArray.size=1 then xs.toArray[0]else .tuple xs.toArray):=by
   clear h hvs hrun hres;have hl:=hrv.len
   match vs,xs,hl,hrv with
   |[c],[x],_,hrv=>simpa[HW]using hrv.rv 0 c x rfl rfl
   |[],[],_,_=>simpa[HW]using Rv.tup (w:=w) (U:=U) (ρ:=ρ) [] [] rfl sw
   | c1::c2::cs,x1::x2::xs,hl,hrv=>
    rw[dif_neg sw];exact .tup _ _ hl hrv.rv
  refine⟨_,hres,?_⟩;split at h
  ·rename_i hcl;obtain⟨e1,e2,e3,e4⟩:=PB hC hcl hc.hp hc.r0;exact⟨_,_,_,U,_,rfl,h,hval.ren e1,e2,by simpa using e3,e4,hW⟩
  ·exact h.elim
 ·exact h.elim
theorem B1{a:Act}{w:World}{U:Nat->Prop}{ρ:Nat->Option Value}{st:St}{c:Operand}{t:Bool}(hc:Cn C st a w U ρ)(hx:a.eval c=.bool t):Cn C (AH st c t) a w U ρ:=by
 unfold AH;split
 ·rename_i i;refine{hc with tm:=⟨by simpa using hc.tm.len,λj d v hd hv=>?_⟩};rw[yp]at hd;split at hd
  ·rename_i hij;subst hij;split at hd
   ·cases hd;have:a.eval (.tmp i)=v:=by
     simp only[Act.eval];rw[o5];have:=dh.1 hv;obtain⟨h1,h2⟩:=this;have h1':i<a.tmps.size:=by simpa using h1
     simp[td h1',<-h2]
    rw[this]at hx;subst hx;exact .kb t
   ·cases hd
  ·exact hc.tm.rv j d v hd hv
 ·exact hc
theorem QJ{w:World}{U:Nat->Prop}{ρ:Nat->Option Value}{hp:Nat->AO}{av:AV}{v:Value}{c:Bool}(h:Hj hp av=Q1 c)(hr:Rv w U ρ av v)(hob:∀id,bA w U ρ id (hp id)):∃a n cp,v=.slice a n cp/\(a=Q2->c=Q3):=by
 have fin:∀{e:Sh}{l:List (Sem e)}{v:Value},Rv w U ρ (.sl e l) v->∃a n cp,v=.slice a n cp/\(a=Q2->l.isEmpty=Q3):=by
  intro e l v hr;cases hr with
  |sl0 _ a c=>exact⟨a,0,c,rfl,λ_=>rfl⟩
  |sl _ _ b o c _ _ _ _ _ _ _=>simp_all
 cases av<;>simp[Hj]at h
 case nils=>
  subst h;cases hr with
  |nils a=>exact⟨a,0,0,rfl,λ_=>rfl⟩
 case sl e l=>
  grind
 case vec id=>
  cases hr with
  |vec _ _ hv _=>
  have ho:=hob id;split at h
  ·rename_i e l hid;simp only[bB]at h;subst h;rw[hid]at ho;obtain⟨a,c,h1,_,h3⟩:=ho;grind
  ·rename_i e l hid;simp only[bB]at h;subst h;rw[hid]at ho;obtain⟨v',h1,h2⟩:=ho;simp_all
  ·cases h
theorem ZH{P:Program}{w:World}{t el:TypeId}(hu:P.underlying t=Q1 (.slice el))(px qx:Operand)(p:Option Addr)(n cp:Nat):
  (do eqGuard .eql t px qx (.slice p n cp) (.slice Q2 0 0);binOp .eql t (.slice p n cp) (.slice Q2 0 0):Go.Sem Value).run P w=.ok (.bool p.isNone) w:=by
 have g:(eqGuard .eql t px qx (.slice p n cp) (.slice Q2 0 0)).run P w=.ok () w:=by simp[eqGuard]
 have e:(Op.equal t (.slice p n cp) (.slice Q2 0 0)).run P w=.ok p.isNone w:=by
  show(Op.equalIn (9999+1) t (.slice p n cp) (.slice Q2 0 0)).run P w=.ok p.isNone w;unfold Op.equalIn;rw[cF,bz hu];cases p<;>rfl
 have hb:(binOp .eql t (.slice p n cp) (.slice Q2 0 0):Go.Sem Value)=(do pure (.bool (<-Op.equal t (.slice p n cp) (.slice Q2 0 0)))):=rfl;simp_all
theorem Nc{st:St}{ca cb thn els:Code}{s x d:Nat}{t:TypeId}{c:Bool}{k:List Item}(hn:HO ca cb=Q1 (s,x,d,t,thn,els))(he:Hj st.hp (st.tmps.getD s .any)=Q1 c)(ht:MY E.P t=Q3)(hd:d<st.tmps.length)(hx:x<st.tmps.length)
  (h1:c=Q3->Reach E C fn (.code thn::k) {st with tmps:=(st.tmps.set x (st.tmps.getD s .any)).set d .any} Q) (h2:Reach E C fn (.code els::k) {st with tmps:=(st.tmps.set x (st.tmps.getD s .any)).set d .any} Q):Reach E C fn (.code (.seq ca cb)::k) st Q:=by
 unfold HO at hn;split at hn
 ·rename_i id ops d' a0 b0;split at hn
  ·rename_i o1 o2 hops;split at hn
   ·rename_i x' s' d0 t0 x1 ty e1 e2 e3 e4 e5 e6;split at hn
    ·rename_i hcond;obtain⟨rfl,rfl,hxd⟩:=hcond;cases hn;intro b cs a w U ρ hb1 hb2 hc hW;have hsl:∃el,E.P.underlying t=Q1 (.slice el):=by
      unfold MY at ht;split at ht
      ·exact⟨_,‹_›⟩
      ·cases ht
     obtain⟨el,hu⟩:=hsl;have hev:Rv w U ρ (st.tmps.getD s .any) (a.eval (.tmp s)):=by
      have:=Hy (E:=E) (known:=[]) hc.tm sw hW.gl (.tmp s);simpa[wE]using this
     obtain⟨p,n,cp,hv,hnone⟩:=QJ he hev (λid=>hc.hp.ob id);have hlen:st.tmps.length=a.tmps.size:=by have:=hc.tm.len;simpa using this
     have hops':ops=#[o1,o2]:=by apply ml;simpa using hops
     generalize hA1:a.put (Q1 x) (a.eval (.tmp s))=a1;have hx1:a1.eval (.tmp x)=.slice p n cp:=by
      rw[<-hA1,hv];simp only[Act.eval,Act.put];rw[o5];simp[hlen▸hx]
     have hreg:(Code.region id ops false).wp E.P (λe a' w'=>e=.normal/\w'=w/\a'=a1.put (Q1 d) (.bool p.isNone)) a w:=by
      refine wp_region ?_;rw[hops'];show wpOps E.P #[o1,o2] _ [0,1] a w;simp only[wpOps,List.getElem?_toArray,List.getElem?_cons_zero,Region.wanted,e3,if_true];refine .inl (fS (v:=a.eval (.tmp s)) (w':=w) (by simp[execOp,e2]) ?_);rw[e1,hA1];simp only[List.getElem?_cons_succ,List.getElem?_cons_zero,e6,if_true];refine .inl (fS (v:=.bool p.isNone) (w':=w) ?_ ?_)
      ·have hx1':a1.tmps.getD x undef=.slice p n cp:=hx1;have hnr:=ZH (w:=w) hu (.tmp x) (.const (.slice Q2 0 0)) p n cp;have h1e:a1.eval (.tmp x)=.slice p n cp:=hx1;have h2e:a1.eval (.const (.slice Q2 0 0))=.slice Q2 0 0:=rfl;unfold execOp;rw[e5];simp only[h1e,h2e];simp only[cF]at hnr⊢;simp[hnr]
      ·rw[e4];exact⟨trivial,rfl,rfl⟩
     obtain⟨e,a',w',⟨rfl,rfl,rfl⟩,harr⟩:=hreg b (.code (.cond (.tmp d) thn els)::k) cs;have hcn:Cn C {st with tmps:=(st.tmps.set x (st.tmps.getD s .any)).set d .any} (a1.put (Q1 d) (.bool p.isNone)) w' U ρ:=by
      refine⟨?_,hc.hp,hc.new,?_,hc.r0⟩
      ·have r1:=AT (d:=Q1 x) hc.tm hev;rw[hA1]at r1;exact AT (d:=Q1 d) r1 (.any (.bool p.isNone))
      ·rw[<-hA1];exact hc.df
     have hd1:(a1.put (Q1 d) (.bool p.isNone)).eval (.tmp d)=.bool p.isNone:=by
      have hl1:d<a1.tmps.size:=by rw[<-hA1];simp[Act.put];omega
      simp only[Act.eval,Act.put];rw[o5];simp[hl1]
     cases hp:p with
     | none=>
      rw[hp]at hd1 harr hcn;obtain⟨e,w'',fr,q1,q2,q3⟩:=h1 (hnone hp) b cs _ w' U ρ hb1 hb2 hcn hW;exact⟨e,w'',fr,q1,mF (.one step_seq) (mF harr (mF (.one (step_cond hd1)) q2)),q3⟩
     | some pa=>
      rw[hp]at hd1 harr hcn;obtain⟨e,w'',fr,q1,q2,q3⟩:=h2 b cs _ w' U ρ hb1 hb2 hcn hW;exact⟨e,w'',fr,q1,mF (.one step_seq) (mF harr (mF (.one (step_cond hd1)) q2)),q3⟩
    ·cases hn
   ·cases hn
  ·cases hn
 ·cases hn
theorem GN(hE:zt E){n0:Nat}{f:Func}(hf:E.P.funcs[fn]?=Q1 f)(hC:∀id,n0<=id->C.ρ0 id=Q2){rs:List ResultVar}(hrs:f.results.toList=rs){keep:Nat->aN}:
  ∀(n:Nat)(todo:List Item)(st:St),(run E n0 keep rs n todo st).Sat (jX E C fn Q)->Reach E C fn todo st Q
 |0,_,_,h=>h.elim
 | n + 1,todo,st,h=>by
  have ih:=GN hE hf hC hrs (keep:=keep) n;have head:∀(c:Code)(k:List Item),(lg n0 (keep (eH c)) (eH c) (.code c::.inLoop c::k) st).Sat (jX E C fn Q)->Reach E C fn (.code c::.inLoop c::k) st Q:=by
   intro c k h;unfold lg at h;split at h
   ·rename_i st' hn;intro b cs a w U ρ h1 h2 hc hW;obtain⟨ρ',hc'⟩:=O0 hC hn hc;exact h b cs a w U ρ' h1 h2 hc' hW
   ·exact h.elim
  have cut:∀(kp:aN)(key:Nat)(todo:List Item)(st:St),(lg n0 kp key todo st).Sat (jX E C fn Q)->Reach E C fn todo st Q:=by
   intro kp key todo st h;unfold lg at h;split at h
   ·rename_i st' hn;intro b cs a w U ρ h1 h2 hc hW;obtain⟨ρ',hc'⟩:=O0 hC hn hc;exact h b cs a w U ρ' h1 h2 hc' hW
   ·exact h.elim
  have ending:(vY E n0 rs ((keep 1000000).sett.foldl GP ((keep 1000000).prom.foldl vq st))).Sat (jX E C fn Q)->∀(todo:List Item),(∀(b:Frame)(a:Act)(cs:List Frame)(w:World),step E.P (lone (b.at a todo) cs w)=.next (lone {b.at a todo with mode:=.returning} cs w))->Reach E C fn todo st Q:=by
   intro h todo hs b cs a w U ρ h1 h2 hc hW;obtain⟨ρ',hc'⟩:=Dd (keep 1000000).prom hc;obtain⟨U',hc2,hW2⟩:=LK (gl:=E.gl) (keep 1000000).sett hc' hW;obtain⟨v,hr,hp⟩:=zgN hf hC hrs h hc2 hW2;refine⟨.returned v,w,{b.at a todo with mode:=.returning},hp,.one (hs b a cs w),h1,rfl,hc.df,h2,f,?_,hr⟩;show E.P.funcs[b.fn]?=Q1 f;rw[h1];exact hf
  unfold run at h;split at h
  ·exact ending h [] (λb a cs w=>step_end)
  ·exact(ih _ _ h).step (λb a cs w=>step_inBlock)
  ·split at h
   ·exact(ih _ _ h).step (λb a cs w=>step_inLoop)
   ·exact(head _ _ h).step (λb a cs w=>step_inLoop)
  ·rename_i c k;split at h
   ·exact(ih _ _ h).step (λb a cs w=>step_skip)
   ·exact(ih _ _ h).step (λb a cs w=>step_label)
   ·split at h
    ·rename_i hn;split at h
     ·rename_i c he;split at h
      ·rename_i hcond;simp only[aE,aO]at hcond;exact Nc hn he hcond.1 hcond.2.1 hcond.2.2 h.1 h.2
      ·exact h.elim
     ·exact h.elim
    ·exact(ih _ _ h).step (λb a cs w=>step_seq)
   ·rename_i co x y;intro b cs a w U ρ h1 h2 hc hW;have hev:=Hy (E:=E) (known:=[]) hc.tm sw hW.gl co;generalize hx:a.eval co=v at hev;split at h
    ·rename_i hco;rw[hco]at hev;cases hev;obtain⟨e,w',fr,q1,q2,q3⟩:=ih _ _ h b cs a w U ρ h1 h2 hc hW;exact⟨e,w',fr,q1,mF (.one (step_cond hx)) q2,q3⟩
    ·rename_i hco;rw[hco]at hev;cases hev;obtain⟨e,w',fr,q1,q2,q3⟩:=ih _ _ h b cs a w U ρ h1 h2 hc hW;exact⟨e,w',fr,q1,mF (.one (step_cond hx)) q2,q3⟩
    ·rename_i t hco;rw[hco]at hev;cases hev;cases t
     ·obtain⟨e,w',fr,q1,q2,q3⟩:=ih _ _ (h.2 rfl) b cs a w U ρ h1 h2 (B1 hc hx) hW;exact⟨e,w',fr,q1,mF (.one (step_cond hx)) q2,q3⟩
     ·obtain⟨e,w',fr,q1,q2,q3⟩:=ih _ _ (h.1 rfl) b cs a w U ρ h1 h2 (B1 hc hx) hW;exact⟨e,w',fr,q1,mF (.one (step_cond hx)) q2,q3⟩
    ·exact h.elim
   ·exact(ih _ _ h).step (λb a cs w=>step_block)
   ·split at h
    ·exact(ih _ _ h).step (λb a cs w=>step_loop)
    ·exact(head _ _ h).step (λb a cs w=>step_loop)
   ·rename_i id;split at h
    ·rename_i k' hk;exact(ih _ _ h).step (λb a cs w=>step_exit hk)
    ·exact h.elim
   ·exact ending h _ (λb a cs w=>step_ret)
   ·rename_i id ops draw;intro b cs a w U ρ h1 h2 hc hW;obtain⟨st',hv,hs⟩:=Tr.sat_val (Tr.sat_bind h);obtain⟨e,a',w',⟨rfl,U',ρ',hc',hW'⟩,harr⟩:=EK (id:=id) hE hv hc hW b k cs;have hR:Reach E C fn k st' Q:=by
     split at hs
     ·exact cut _ _ _ _ hs
     ·exact ih _ _ hs
    obtain⟨e,w'',fr,q1,q2,q3⟩:=hR b cs a' w' U' ρ' h1 h2 hc' hW';exact⟨e,w'',fr,q1,mF harr q2,q3⟩
   ·exact h.elim
  ·exact h.elim
end
@[reducible] def zx:List (Option Sh)->Type
 |[]=>Unit
 |some s::ks=>Sem s×zx ks
 |none::ks=>AV×zx ks
def jx:(ks:List (Option Sh))->zx ks->List AV
 |[],_=>[]
 |some s::ks,x=>zz s x.1::jx ks x.2
 |none::ks,x=>x.1::jx ks x.2
abbrev iV(ks:List (Option Sh)):=zx ks->List AO->Tr (AV×List AO)
def lY(hp:Nat->AO)(f:Nat->Nat):(ks:List (Option Sh))->List AV->Option (zx ks)
 |[],[]=>Q1 ()
 | some s::ks,a::as=>match yx hp s a,lY hp f ks as with
  |some x,Q1 r=>Q1 (x,r)
  |_,_=>Q2
 | none::ks,a::as=>match lY hp f ks as with
  |some r=>Q1 (a.ren f,r)
  |none=>Q2
 |_,_=>Q2
def cv(hp:Nat->AO):List (Option Sh)->List AV->Option (List (Bool×AV))
 |[],[]=>Q1 []
 | some s::ks,a::as=>match yx hp s a,cv hp ks as with
  |some x,Q1 r=>Q1 ((false,zz s x)::r)
  |_,_=>Q2
 | none::ks,a::as=>match cv hp ks as with
  |some r=>Q1 ((Q3,a)::r)
  |none=>Q2
 |_,_=>Q2
def fE:List (Option Sh)->List AV->List Nat
 |some _::ks,a::as=>dK a++fE ks as
 |none::ks,_::as=>fE ks as
 |_,_=>[]
def Bk:AV->Bool
 |.bool _|.kb _|.int _ _|.str _|.ifc _=>Q3
 |_=>false
def wg:AV->Bool
 |.tup vs=>vs.all Bk
 |v=>Bk v
def fV(ps:List (Bool×AV)):List AV:=(ps.filter (·.1)).map (·.2)
def nU(π:List Nat)(n:Nat)(j:Nat):Nat:=if j<π.length then π.getD j 0 else n+(j-π.length)
def OS(hp:Nat->AO)(n:Nat)(π z:List Nat)(r:AV)(h':List AO):Tr fT:=
  if π.length<=h'.length then
    .ok {val:=r.ren (nU π n),wr:=(π.zip h').map (λp=>(p.1,p.2.ren (nU π n)))++(if wg r&&π.isEmpty&&h'.isEmpty then[]else gw hp z),
          nw:=(h'.drop π.length).map (AO.ren (nU π n))}
  else .err
def zgf:AO->Bool
 |.dead=>false
 |_=>Q3
def bh(kinds:List (Option Sh))(G:iV kinds):zV:=λargs hp n=>
 match cv hp kinds args with
 | some ps=>
  let π:=kh hp 400 (AV.idsL (fV ps)) []
  let z:=fE kinds args
  if kx hp 0 (AV.idsL (fV ps)) π&&z.all (λi=>pb (hp i)&&!π.contains i)&&π.all (λi=>decide (i<n)&&zgf (hp i))then
   match lY hp (λi=>π.idxOf i) kinds args with
   |some x=>(G x (π.map λi=>(hp i).ren λi=>π.idxOf i)).bind λp=>OS hp n π z p.1 p.2
   |none=>.err
  else .err
 |none=>.err
def Xh(E:bW)(k:FuncId)(args:List AV)(h0:List AO)(Q:AV->List AO->Prop):Prop:=
 ∃f c,E.P.funcs[k]?=Q1 f/\f.body=Q1 c/\(f.name=="runtime.NumGoroutine")=false/\args.length<=f.ntmps/\
  ∀C:fh,(∀id,h0.length<=id->C.ρ0 id=Q2)->Reach E C k [.code c] (bd f.ntmps args h0) Q
section
variable {E:bW} {w:World} {U:Nat->Prop} {ρ:Nat->Option Value}
theorem BZ{U':Nat->Prop}{ρ':Nat->Option Value}{hp:Nat->AO}{s:Sh}{av:AV}{x:Sem s}{v:Value}(h:yx hp s av=Q1 x)(hr:Rv w U ρ av v)(hsub:∀b,U' b->U b)
  (hob:∀id∈dK av,bA w U ρ id (hp id)/\∀b,aj ρ id (hp id) b->¬U' b):Rv w U' ρ' (zz s x) v:=by
 have plain:∀(c:AV)(v:Value)(j:Nat),(zq s x)[j]?=Q1 c->Rv w U' ρ c v->Rv w U' ρ' c v:=by
  intro c v j hc hr;have:=hr.ren (ρ':=ρ') (f:=λi=>i) (λi hi=>by rw[lS s x j c hc]at hi;simp at hi)
  rwa [pJ _ s x j c hc]at this
 obtain⟨cs,hcs,himp⟩:=yz h;obtain⟨hcv,hcv1⟩:=gT hcs hr
 obtain⟨q1,q2,q3⟩:=nV (w:=w) (U:=U) (U':=U') (ρ:=ρ) (hp:=hp) hsub s cs x [] (λj=>(v.cells.toList[j]?).getD undef) himp
  (λj c hj=>by
   have hlt:j<v.cells.toList.length:=by rw[<-hcv.len];exact(dh.1 hj).1
   exact hcv.rv j c _ hj (by simp[zQ hlt]))
  (λid hid=>hob id (by simpa[dK,hcs]using hid))
 have hsz:v.cells.toList.length=s.size:=by rw[<-hcv.len];simpa using q1
 have hagg:s.isAgg=av.isAgg:=by
  unfold yx at h;split at h
  ·rename_i he;simpa using he
  ·cases h
 unfold zz;cases ha:s.isAgg with
 | true=>
  rw[ha]at hagg;have hvagg:v=.agg v.cells.toList.toArray:=by
   cases hr with
   |agg cs' vs hl h1 hr=>simp[Value.cells]
   |_=>simp[AV.isAgg]at hagg
  rw[hvagg];refine .agg _ _ (by rw[zW,hsz]) hcv1 (λj c y hc hy=>?_);grind
 | false=>
  have hone:∃c,zq s x=[c]:=by
   cases s<;>simp[Sh.isAgg]at ha<;>simp[zq]
  obtain⟨c,hc⟩:=hone;have hs1:s.size=1:=by rw[<-zW s x,hc];rfl
  rw[hc];have h0:=plain c _ 0 (by rw[hc];rfl) (q3 0 c (by rw[hc];rfl));rw[ha]at hagg;have hv:v.cells.toList[0]?=Q1 v:=by
   cases v with
   | agg arr=>
    cases hr with
    |agg=>simp[AV.isAgg]at hagg
    |any=>simp[cellsOf]at hcs
    |vec _ _ _ h1=>simp[Value.oneCell']at h1
    |mp _ _ _ h1=>simp[Value.oneCell']at h1
   |_=>rfl
  rw[hv]at h0;exact h0
theorem jO{U':Nat->Prop}{ρ':Nat->Option Value}{hp:Nat->AO}{f:Nat->Nat}(hsub:∀b,U' b->U b):∀(kinds:List (Option Sh))(args:List AV)(vals:List Value)(ps:List (Bool×AV)),cv hp kinds args=Q1 ps->
  du w U ρ args vals->(∀id∈fE kinds args,bA w U ρ id (hp id)/\∀b,aj ρ id (hp id) b->¬U' b)->(∀id∈AV.idsL (fV ps),ρ' (f id)=ρ id)->
  du w U' ρ' (ps.map λp=>if p.1 then p.2.ren f else p.2) vals/\∀id∈AV.idsL (fV ps),id∈AV.idsL args
 | [],[],vals,ps,h,hr,_,_=>by
  simp[cv]at h;subst h;exact⟨by simpa using⟨hr.len,λj c v hc=>by simp at hc⟩,by simp[fV,AV.idsL]⟩
 |some s::ks,a::as,[],ps,_,hr,_,_=>by have:=hr.len;simp at this
 |none::ks,a::as,[],ps,_,hr,_,_=>by have:=hr.len;simp at this
 | some s::ks,a::as,v::vals,ps,h,hr,hob,hρ=>by
  simp only[cv]at h;split at h
  ·rename_i x r hx hrr;cases h;have htl:du w U ρ as vals:=⟨by have:=hr.len;simpa using this,λj c v hc hv=>hr.rv (j+1) c v hc hv⟩;obtain⟨h1,h2⟩:=jO hsub ks as vals r hrr htl (λid hid=>hob id (by simp[fE,hid])) (λid hid=>hρ id (by simpa[fV]using hid));refine⟨⟨by simp[h1.len.symm],λj c y hc hy=>?_⟩,λid hid=>?_⟩
   ·cases j with
    | zero=>
     simp at hc hy;subst hc;subst hy;exact BZ hx (hr.rv 0 a v rfl rfl) hsub (λid hid=>hob id (by simp[fE,hid]))
    |succ j=>exact h1.rv j c y (by simpa using hc) (by simpa using hy)
   ·simp only[AV.idsL,cQ];exact .inr (h2 id (by simpa[fV]using hid))
  ·cases h
 | none::ks,a::as,v::vals,ps,h,hr,hob,hρ=>by
  simp only[cv]at h;split at h
  ·rename_i r hrr;cases h;have htl:du w U ρ as vals:=⟨by have:=hr.len;simpa using this,λj c v hc hv=>hr.rv (j+1) c v hc hv⟩;obtain⟨h1,h2⟩:=jO hsub ks as vals r hrr htl (λid hid=>hob id (by simpa[fE]using hid)) (λid hid=>hρ id (by simp[fV,AV.idsL]at hid⊢;exact .inr hid));refine⟨⟨by simp[h1.len.symm],λj c y hc hy=>?_⟩,λid hid=>?_⟩
   ·cases j with
    | zero=>
     simp at hc hy;subst hc;subst hy;exact((hr.rv 0 a v rfl rfl).weak hsub).ren (λid hid=>hρ id (by simp[fV,AV.idsL];exact .inl hid))
    |succ j=>exact h1.rv j c y (by simpa using hc) (by simpa using hy)
   ·simp[fV,AV.idsL]at hid⊢;rcases hid with hid|hid
    ·exact .inl hid
    ·exact .inr (h2 id (by simpa[fV]using hid))
  ·cases h
 |[],_::_,_,_,h,_,_,_=>by simp[cv]at h
 |some _::_,[],_,_,h,_,_,_=>by simp[cv]at h
 |none::_,[],_,_,h,_,_,_=>by simp[cv]at h
theorem xG{hp:Nat->AO}{f:Nat->Nat}:∀(kinds:List (Option Sh))(args:List AV)(ps:List (Bool×AV))(x:zx kinds),cv hp kinds args=Q1 ps->lY hp f kinds args=Q1 x->
  jx kinds x=ps.map λp=>if p.1 then p.2.ren f else p.2
 |[],[],ps,x,h,_=>by simp[cv]at h;subst h;rfl
 | some s::ks,a::as,ps,x,h,hx=>by
  simp only[cv]at h;simp only[lY]at hx;split at h
  ·rename_i y r hy hr;cases h;rw[hy]at hx;split at hx
   ·rename_i y' r' hy' hr';cases hy';cases hx;simp[jx,xG ks as r r' hr hr']
   ·cases hx
  ·cases h
 | none::ks,a::as,ps,x,h,hx=>by
  simp only[cv]at h;simp only[lY]at hx;split at h
  ·rename_i r hr;cases h;split at hx
   ·rename_i r' hr';cases hx;simp[jx,xG ks as r r' hr hr']
   ·cases hx
  ·cases h
 |[],_::_,_,_,h,_=>by simp[cv]at h
 |some _::_,[],_,_,h,_=>by simp[cv]at h
 |none::_,[],_,_,h,_=>by simp[cv]at h
theorem pZ:∀(kinds:List (Option Sh))(args:List AV)(id:Nat),id∈fE kinds args->id∈AV.idsL args
 | some _::ks,a::as,id,h=>by
  simp only[fE,cQ]at h;simp only[AV.idsL,cQ];exact h.imp pX (pZ ks as id)
 | none::ks,_::as,id,h=>by
  simp only[fE]at h;simp only[AV.idsL,cQ];exact .inr (pZ ks as id h)
 |[],_,_,h=>by simp[fE]at h
 |some _::_,[],_,h=>by simp[fE]at h
 |none::_,[],_,h=>by simp[fE]at h
theorem NN{w':World}{U':Nat->Prop}{ρ':Nat->Option Value}{r:AV}{v:Value}{f:Nat->Nat}(h:wg r=Q3)(hr:Rv w U ρ r v):Rv w' U' ρ' (r.ren f) v:=by
 have one:∀(r:AV)(v:Value),Bk r=Q3->Rv w U ρ r v->Rv w' U' ρ' (r.ren f) v:=by
  intro r v h hr;cases hr<;>simp[Bk]at h<;>simp only[AV.ren]
  ·exact .kb _
  ·exact .bool _
  ·exact .int _ _ ‹_›
  ·exact .str _ ‹_›
  ·exact .ifcN
  ·exact .ifcS _ _
 cases r with
 | tup vs=>
  cases hr with
  |tup _ xs hl hrr=>
  simp only[wg,ei]at h;simp only[AV.ren,jR];refine .tup _ xs (by simpa using hl) (λj c v hc hv=>?_);grind
 |_=>exact one _ v (by simpa[wg]using h) hr
theorem collect_in{hp:Nat->AO}{S:List Nat}(hcl:∀id∈S,∀j∈(hp id).ids,j∈S):∀(fuel:Nat)(todo seen:List Nat),(∀i∈todo,i∈S)->(∀i∈seen,i∈S)->∀i∈kh hp fuel todo seen,i∈S
 |0,_,_,_,hs=>hs
 |_+1,[],_,_,hs=>hs
 | n+1,i::r,seen,ht,hs=>by
  simp only[kh];split
  ·exact collect_in hcl n r seen (λj hj=>ht j (by simp[hj])) hs
  ·refine collect_in hcl n _ _ (λj hj=>?_) (λj hj=>?_)
   ·grind
   grind
theorem Va{id:Nat}{o:AO}(h:zgf o=Q3)(ho:bA w U ρ id o):∃v,ρ id=Q1 v:=by
 cases o with
 |dead=>simp[zgf]at h
 |box cs=>obtain⟨b,T,vals,h1,_⟩:=ho;exact⟨_,h1⟩
 |vec e l=>obtain⟨a,c,h1,_⟩:=ho;exact⟨_,h1⟩
 |frz e l=>obtain⟨v,h1,_⟩:=ho;exact⟨_,h1⟩
 |fmap es=>obtain⟨r,ents,clock,h1,_⟩:=ho;exact⟨_,h1⟩
 |vmap u es=>obtain⟨r,ents,clock,h1,_⟩:=ho;exact⟨_,h1⟩
theorem BW{C:fh}{k:FuncId}{f:Func}{c:Code}{args:List AV}{vals:List Value}{h0:List AO}{Q:AV->List AO->Prop}(hf:E.P.funcs[k]?=Q1 f)(hb:f.body=Q1 c)(_:args.length<=f.ntmps)
  (hR:Reach E C k [.code c] (bd f.ntmps args h0) Q) (hr:du w U ρ args vals) (hH:jF C w U ρ (λj=>h0.getD j .dead)) (hnew:∀id,h0.length<=id->ρ id=Q2) (hr0:∀id v,C.ρ0 id=Q1 v->ρ id=Q1 v)
  (hW:Wd E.gl C w U):Calls E.P k vals.toArray w (Qj E C Q):=by
 intro cs;let b:Frame:={(default:Frame)with fn:=k,kind:=.normal}
 have henter:Frame.enter E.P k vals.toArray .normal=b.at {tmps:=vals.toArray++Array.replicate (f.ntmps-vals.toArray.size) undef,defers:=[]} [.code c]:=by
  simp[Frame.enter,Frame.at,hf,hb,b]
 rw[henter];refine hR b cs _ w U ρ rfl rfl ⟨?_,hH,hnew,rfl,hr0⟩ hW;have hl:=hr.len;simp only[bd,Array.toList_append,Array.toList_replicate,List.size_toArray];rw[<-hl];refine hr.append ⟨sw,λj c v hc hv=>?_⟩;have e1:c=.tup []:=by
  have:=pl hc;simpa using(List.mem_replicate.1 this).2
 have e2:v=undef:=by
  have:=pl hv;simpa using(List.mem_replicate.1 this).2
 rw[e1,e2];exact .tup [] [] rfl sw
def N4(E:bW)(k:FuncId)(args:List AV)(h0:List AO)(Q:AV->List AO->Prop):Prop:=
 ∀(C:fh)(w:World)(U:Nat->Prop)(ρ:Nat->Option Value)(vals:List Value),(∀id,h0.length<=id->C.ρ0 id=Q2)->du w U ρ args vals->jF C w U ρ (λj=>h0.getD j .dead)->(∀id,h0.length<=id->ρ id=Q2)->
  (∀id v,C.ρ0 id=Q1 v->ρ id=Q1 v)->Wd E.gl C w U->Calls E.P k vals.toArray w (Qj E C Q)
theorem Xh.calls{k:FuncId}{args:List AV}{h0:List AO}{Q:AV->List AO->Prop}(h:Xh E k args h0 Q):N4 E k args h0 Q:=by
 intro C w U ρ vals h1 h2 h3 h4 h5 h6;obtain⟨f,c,hf,hb,_,hl,hR⟩:=h;exact BW hf hb hl (hR C h1) h2 h3 h4 h5 h6
theorem fi{P:Program}{gl:Nat->AV}{k:FuncId}{kinds:List (Option Sh)}{G:iV kinds}(hfn:∃fn,E.P.funcs[k]?=some fn/\(fn.name=="runtime.NumGoroutine")=false/\fn.body.isNone=false)
    (hG:∀x h0 res,(G x h0).val=Q1 res->N4 E k (jx kinds x) h0 (λr h=>(r,h)=res)) (qp:E.P=P:=by rfl) (qg:E.gl=gl:=by rfl):oZ P gl k (bh kinds G):=by
  subst qp qg;refine⟨hfn,?_⟩;intro w U ρ hp n args vals f fp h hr hub hgl hfp hin hcl hn;unfold bh at h;split at h
  · rename_i ps hps
    simp only at h;generalize hπ:kh hp 400 (AV.idsL (fV ps)) []=π at h;generalize hz:fE kinds args=z at h;split at h
    · rename_i hcond
      simp only[aE,ei,aO,yo,List.contains_eq_mem,decide_eq_false_iff_not]at hcond;obtain⟨⟨hclosed,hzz⟩,hππ⟩:=hcond;split at h;rotate_left
      · simp at h
      rename_i xs hxs;have hxa:=xG kinds args ps xs hps hxs;simp only[Tr.val_bind,gm]at h;obtain⟨⟨r,h'⟩,hGv,h⟩:=h;unfold OS at h;split at h
      · rename_i hle
        simp only[Tr.val_ok,bB]at h;simp only[kx,aE,ei,E7]at hclosed;obtain⟨⟨⟨hc1,hc2⟩,hc3⟩,_⟩:=hclosed;have hnd:=C1 hc3;have hzfp:∀i∈z,i∈fp:=λi hi=>hin i (pZ kinds args i (by rw[hz];exact hi))
        generalize hU1:(λb=>U b/\¬∃j∈z,aj ρ j (hp j) b)=U1;have hU1sub:∀b,U1 b->U b:=by intro b h;rw[<-hU1]at h;exact h.1
        have hzU:∀j∈z,∀b,aj ρ j (hp j) b->¬U1 b:=λj hj b ho h=>by grind
        have hpk:=jO (w:=w) (U:=U) (ρ:=ρ) (U':=U1) (ρ':=λj=>(π[j]?).bind ρ) (hp:=hp) (f:=λi=>π.idxOf i) hU1sub kinds args vals ps hps hr
          (λid hid=>⟨hfp.ob id (hzfp id (by rw[<-hz];exact hid)),hzU id (by rw[<-hz];exact hid)⟩)
          (λid hid=>by
            grind)
        obtain⟨hargs,hobjin⟩:=hpk;rw[<-hxa]at hargs;have hπfp:∀i∈π,i∈fp:=by
          rw[<-hπ];exact collect_in hcl 400 _ [] (λi hi=>hin i (hobjin i hi)) (by simp)
        have hat:∀id∈π,((π[π.idxOf id]?).bind ρ)=ρ id:=by
          intro id hid;have hlt:π.idxOf id<π.length:=List.idxOf_lt_length_iff.2 hid;rw[zQ hlt,List.getElem_idxOf hlt];rfl
        let C:fh:={w0:=w,U0:=U1,B0:=λb=>∃i∈π,aj ρ i (hp i) b,ρ0:=λj=>(π[j]?).bind ρ}
        have hownU1:∀i∈π,∀b,aj ρ i (hp i) b->U1 b/\b<w.heap.size:=by
          intro i hi b ho;have:=(hfp.ob i (hπfp i hi)).inU ho;refine⟨?_,this.2⟩;rw[<-hU1];refine⟨this.1,λ⟨j,hj,ho'⟩=>?_⟩;have e:=hfp.inj i (hπfp i hi) j (hzfp j hj) b ho ho';subst e;exact(hzz i hj).2 hi
        have hobj1:∀i∈π,bA w U1 ρ i (hp i):=λi hi=>
          (hfp.ob i (hπfp i hi)).mono (ae _) (λ_ _ _=>rfl) (λb _ h=>hU1sub b h) (λ_ _ h=>h) (λb ho=>⟨rfl,(hownU1 i hi b ho).1⟩)
        have hheap:∀j(hj:j<π.length),(π.map λi=>(hp i).ren λi=>π.idxOf i).getD j .dead=(hp π[j]).ren λi=>π.idxOf i:=by
          intro j hj;rw[ba,fA,zQ hj];rfl
        have hheap':∀j,π.length<=j->(π.map λi=>(hp i).ren λi=>π.idxOf i).getD j .dead=.dead:=by
          intro j hj;rw[ba,fy (by simpa using hj)];rfl
        have hρl:∀j(hj:j<π.length),((π[j]?).bind ρ)=ρ π[j]:=λj hj=>by rw[zQ hj];rfl
        have hown0:∀j b,aj (λj=>(π[j]?).bind ρ) j ((π.map λi=>(hp i).ren λi=>π.idxOf i).getD j .dead) b->∃hj:j<π.length,aj ρ π[j] (hp π[j]) b:=by
          rintro j b ⟨ho,v,hv,hb⟩;by_cases hlt:j<π.length
          · refine⟨hlt,?_,v,by rw[<-hρl j hlt];exact hv,hb⟩
            rw[hheap j hlt,C6]at ho;exact ho
          · simp_all
        have hH0:jF C w U1 (λj=>(π[j]?).bind ρ) (λj=>(π.map λi=>(hp i).ren λi=>π.idxOf i).getD j .dead):=by
          refine⟨λj=>?_,λj1 j2 b o1 o2=>?_,λj b o=>?_⟩
          · by_cases hlt:j<π.length
            · rw[hheap j hlt]
              exact(hobj1 π[j] (bG hlt)).ren (hρl j hlt) (λi hi=>hat i (hc2 π[j] (bG hlt) i hi))
            · rw[hheap' j (by omega)];trivial
          · obtain⟨l1,q1⟩:=hown0 j1 b o1
            obtain⟨l2,q2⟩:=hown0 j2 b o2;exact(List.getElem_inj hnd).1 (hfp.inj _ (hπfp _ (bG l1)) _ (hπfp _ (bG l2)) b q1 q2)
          · obtain⟨l1,q1⟩:=hown0 j b o
            grind
        have hW0:Wd E.gl C w U1:=⟨mg.refl w,λ_ _ _=>rfl,λb hb=>hub b (hU1sub b hb),λ_ _ h=>h,λ_ _ h _=>h,λg=>(hgl g).weak hU1sub⟩;have hcalls:=hG _ _ _ hGv C w U1 _ vals (λid hid=>by
            grind) hargs hH0 (λid hid=>by
            simp_all) (λ_ _ h=>h) hW0
        have hwrfp:∀id o,(id,o)∈f.wr->id∈fp:=by
          intro id o hio;rw[<-h]at hio;simp only[cQ,bn]at hio;rcases hio with⟨p,hp',he⟩|hio
          · have:p.1∈π:=(List.of_mem_zip hp').1
            cases he;exact hπfp _ this
          · split at hio
            · simp at hio
            · exact hzfp id (dl hio).1
        refine⟨hcalls.mono ?_,hwrfp⟩;rintro e w' ⟨v,r',h'',U',ρ',rfl,hq,hrv,hH',hnew',hr0',hW'⟩;cases hq;by_cases hbor:(wg r&&π.isEmpty&&h'.isEmpty)=Q3
        ·
          rw[if_pos hbor]at h;simp only[aE,List.isEmpty_iff]at hbor;obtain⟨⟨hsc,rfl⟩,rfl⟩:=hbor;simp at h;subst h;refine⟨v,U,ρ,rfl,⟨hW'.ext,NN hsc hrv,by simp,by simp,λ_ _=>rfl,λ_ _ h=>h,λb hb _=>hW'.same b hb (by simp[C]),λb hb=>ia (hub b hb) hW'.ext.sz,λ_ _ h=>h,λ_ _ h _=>h,by simp,by simp⟩⟩
        · rw[if_neg hbor]at h
          let ρf:Nat->Option Value:=λid=>if n<=id/\id<n+(h'.length-π.length)then ρ' (π.length+(id-n))else ρ id
          have hlive:∀j(hj:j<π.length),ρ' j=ρ π[j]:=by
            intro j hj;obtain⟨x,hx⟩:=Va (hππ π[j] (bG hj)).2 (hfp.ob π[j] (hπfp _ (bG hj)));rw[hx];exact hr0' j x (by grind)
          have hg:∀j,j<h'.length->ρf (nU π n j)=ρ' j:=by
            intro j hj;unfold nU;split
            · grind
            · grind
          have hnwl:f.nw.length=h'.length-π.length:=by rw[<-h];simp
          have hrhon:∀id x,ρ id=Q1 x->ρf id=Q1 x:=by
            intro id x hx;show(if n<=id/\id<n+(h'.length-π.length)then ρ' (π.length+(id-n))else ρ id)=Q1 x;rw[if_neg]
            · exact hx
            · rintro⟨h1,h2⟩
              have:=hn (id-n) (by omega);simp_all
          have hg':∀j x,ρ' j=Q1 x->ρf (nU π n j)=Q1 x:=by
            intro j x hx;by_cases hj:j<h'.length
            · rw[hg j hj];exact hx
            · rw[hnew' j (by omega)]at hx;cases hx
          have hloc:∀j(hj:j<h'.length),bA w' U' ρf (nU π n j) (h'[j].ren (nU π n)):=by
            intro j hj;have:=hH'.ob j;rw[show h'.getD j .dead=h'[j] by simp[hj]]at this;exact this.ren' (λx hx=>hg' j x hx) (λi _ x hx=>hg' i x hx)
          have hwr:∀id o,(id,o)∈f.wr->(∃j,∃hj:j<h'.length,j<π.length/\id=nU π n j/\o=h'[j].ren (nU π n))\/(id∈z/\o=CG (hp id)):=by
            intro id o hio;rw[<-h]at hio;simp only[cQ,bn]at hio;rcases hio with⟨p,hp',he⟩|hio
            · obtain⟨j,hj,hjp⟩:=g8 hp'
              have hj':j<π.length/\j<h'.length:=by rw[List.length_zip]at hj;omega
              rw[List.getElem_zip]at hjp;subst hjp;cases he;refine .inl ⟨j,hj'.2,hj'.1,?_,rfl⟩;simp[nU,hj'.1]
            · exact .inr (dl hio)
          have hnw:∀(k:Nat) o,f.nw[k]?=Q1 o->∃hj:π.length+k<h'.length,n+k=nU π n (π.length+k)/\o=h'[π.length+k].ren (nU π n):=by
            intro k o hk;rw[<-h]at hk;simp only[fA,E9,eD]at hk;obtain⟨a,ha,rfl⟩:=hk;obtain⟨hj,ha⟩:=dh.1 ha;exact⟨hj,by unfold nU;rw[if_neg (by omega)];omega,by rw[ha]⟩
          have hfz0:∀(id:Nat),(CG (hp id)).owns=Q3->pb (hp id)=Q3->False:=by
            intro id h1 h2;cases hh:hp id<;>rw[hh]at h1 h2<;>simp[CG,AO.owns,pb]at h1 h2
          have key:∀id o b,((id,o)∈f.wr\/(n<=id/\f.nw[id-n]?=Q1 o))->aj ρf id o b->∃j,id=nU π n j/\aj ρ' j (h'.getD j .dead) b:=by
            intro id o b hio ho;have fin:∀j(hj:j<h'.length),id=nU π n j->o=h'[j].ren (nU π n)->∃j,id=nU π n j/\aj ρ' j (h'.getD j .dead) b:=by
              rintro j hj rfl rfl;refine⟨j,rfl,?_⟩;obtain⟨h1,x,h2,h3⟩:=ho;rw[C6]at h1;rw[hg j hj]at h2;refine⟨?_,x,h2,h3⟩;rw[show h'.getD j .dead=h'[j] by simp[hj]];exact h1
            rcases hio with hio|⟨hge,hio⟩
            · rcases hwr id o hio with⟨j,hj,_,h1,h2⟩|⟨h1,rfl⟩
              · exact fin j hj h1 h2
              · exact(hfz0 id ho.1 (hzz id h1).1).elim
            · grind
          have hB0:∀b,C.B0 b->∃id o,(id,o)∈f.wr/\aj ρ id (hp id) b:=by
            rintro b ⟨i,hi,ho⟩;obtain⟨j,hj,rfl⟩:=g8 hi;refine⟨π[j],h'[j].ren (nU π n),?_,ho⟩;rw[<-h];simp only[cQ,bn];refine .inl ⟨(π[j],h'[j]),?_,rfl⟩;have:(π.zip h')[j]?=Q1 (π[j],h'[j]):=by simp[List.getElem?_zip_eq_some,hj,ia hj hle]
            exact pl this
          have hzwr:∀i∈z,(i,CG (hp i))∈f.wr:=by
            intro i hi;rw[<-h];simp only[cQ];exact .inr (qT hi)
          refine⟨v,U',ρf,rfl,⟨hW'.ext,?_,?_,?_,?_,hrhon,?_,hW'.ub,?_,?_,?_,?_⟩⟩
          · rw[<-h];exact hrv.ren' (λi _ x hx=>hg' i x hx)
          · intro id o hio
            rcases hwr id o hio with⟨j,hj,_,rfl,rfl⟩|⟨hiz,rfl⟩
            · exact hloc j hj
            · refine(qS (hfp.ob id (hzfp id hiz)) (hzz id hiz).1 hU1sub (hzU id hiz)).mono hW'.ext.sz (λb hb hnu=>?_) hW'.u1 hrhon (λb ho=>(hfz0 id ho.1 (hzz id hiz).1).elim)
              exact hW'.same b hb (λ⟨i,hi,ho⟩=>hnu (hownU1 i hi b ho).1)
          · grind
          · grind
          · intro b hb hno
            refine hW'.same b hb (λhB=>?_);obtain⟨id,o,h1,h2⟩:=hB0 b hB;exact hno id o h1 h2
          · intro b hb hu
            exact hU1sub b (hW'.u1 b hb hu)
          · intro b hb hu hno
            refine hW'.u2 b hb ?_ (λhB=>?_)
            · grind
            · obtain⟨id,o,h1,h2⟩:=hB0 b hB
              exact hno id o h1 h2
          · intro id o b hio ho
            obtain⟨j,_,hj⟩:=key id o b hio ho;rcases hH'.blk j b hj with hB|hB
            · exact .inr (hB0 b hB)
            · exact .inl hB
          · intro id1 o1 id2 o2 b h1 h2 ho1 ho2
            obtain⟨j1,e1,q1⟩:=key id1 o1 b h1 ho1;obtain⟨j2,e2,q2⟩:=key id2 o2 b h2 ho2;rw[e1,e2,hH'.inj j1 j2 b q1 q2]
      · simp at h
    · simp at h
  · simp at h
theorem SA{P:Program}{gl:Nat->AV}{k:FuncId}{kinds:List (Option Sh)}{G:iV kinds}(hfn:∃fn,E.P.funcs[k]?=Q1 fn/\(fn.name=="runtime.NumGoroutine")=false/\fn.body.isNone=false)
  (hG:∀x h0 res,(G x h0).val=Q1 res->Xh E k (jx kinds x) h0 (λr h=>(r,h)=res)) (qp:E.P=P:=by rfl) (qg:E.gl=gl:=by rfl):oZ P gl k (bh kinds G):=by
 subst qp qg;exact fi hfn λx h0 res hx=>(hG x h0 res hx).calls
end
end Cad
