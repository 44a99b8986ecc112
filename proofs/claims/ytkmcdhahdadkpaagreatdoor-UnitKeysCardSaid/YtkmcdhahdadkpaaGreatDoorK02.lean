/- What each operation says: stores, slices that are built, appends. What each operation says: stores as the machine does them; slices that are built; appends. -/
import Derived.Test.YtkmcdhahdadkpaaGreatDoorK01
import Derived.MapKept
namespace Cad
open Go
open Bool renaming false→Q4,true→Q3
open Option renaming none→Q2,some→Q1
open Tr (chk br)
open AV (nils agg tup ptr kb str sl)
section
variable {P:Program} {w:World} {U:Nat->Prop} {ρ:Nat->Option Value}
theorem FU(w:World)(b o:Nat)(v:Value){arr:Array Value}{T:TypeId}{fz:Nat×Nat}(h:w.heap[b]?=Q1 (.cells arr T fz)):
  (w.setCell ⟨b,o,Q2⟩ v).heap[b]?=Q1 (.cells (arr.setIfInBounds o v) T fz):=by
 simp[World.setCell,sO,h]
theorem sr(w:World)(b o b':Nat)(v:Value)(h:b'≠b):(w.setCell ⟨b,o,Q2⟩ v).heap[b']?=w.heap[b']?:=by
 simp only[World.setCell,sO];rw[if_neg (λe=>h e.symm)]
theorem jh:∀(vs:List Value)(w:World)(b o:Nat){arr:Array Value}{T:TypeId}{fz:Nat×Nat},w.heap[b]?=Q1 (.cells arr T fz)->
  (w.setCells b o vs).heap[b]?=Q1 (.cells (nF arr.toList o vs).toArray T fz)
 |[],_,_,_,_,_,_,h=>by simpa[World.setCells,nF]using h
 | v::r,w,b,o,arr,T,fz,h=>by
  rw[World.setCells];have:=jh r _ b (o+1) (FU w b o v h);rw[this];simp[nF]
theorem bS:∀(vs:List Value)(w:World)(b o b':Nat),b'≠b->(w.setCells b o vs).heap[b']?=w.heap[b']?
 |[],_,_,_,_,_=>rfl
 | v::r,w,b,o,b',h=>by
  rw[World.setCells,bS r _ b (o+1) b' h,sr w b o b' v h]
theorem uB(w:World)(a:Addr)(v:Value):(w.setCell a v).heap.size=w.heap.size:=by simp[World.setCell]
theorem lG.setCells:∀(vs:List Value)(w:World)(b o:Nat),lG w (w.setCells b o vs)
 |[],w,_,_=>lG.refl w
 | v::r,w,b,o=>by
  have h1:lG w (w.setCell ⟨b,o,Q2⟩ v):=⟨by rw[uB];exact az _,rfl,rfl,rfl,λa _=>by rw[World.frozen?_setCell]⟩;rw[World.setCells];exact h1.trans (lG.setCells r _ b (o+1))
theorem jk:∀(vs:List Value)(w:World)(b o:Nat),(w.setCells b o vs).heap.size=w.heap.size
 |[],_,_,_=>rfl
 |v::r,w,b,o=>by rw[World.setCells,jk r,uB]
theorem kS:∀(l vs:List Value)(off q:Nat),(nF vs off l)[q]?=if off<=q/\q<off+l.length/\q<vs.length then l[q-off]? else vs[q]?
 | [],vs,off,q=>by
  rw[if_neg sg];rfl
 | v::l,vs,off,q=>by
  rw[nF,kS l _ (off+1) q];grind
theorem nT{t:TypeId}{v:Value}{b o sz:Nat}{arr:Array Value}{T:TypeId}(hsz:fE P t=Q1 sz)(hv:v.cells.toList.length=sz)
  (hb:w.heap[b]?=Q1 (.cells arr T (0,0))) (hin:o+sz<=arr.size) (h1:∀x∈v.cells.toList,x.oneCell'=Q3):
  (storeVar t ⟨b,o,Q2⟩ v).run P w=.ok () (w.setCells b o v.cells.toList):=by
 have hc:∀j,j<v.cells.toList.length->(w.cell? ⟨b,o+0+j,Q2⟩).isSome=Q3:=by
  intro j hj;have:o+j<arr.size:=by omega
  simp[World.cell?,hb,sS this]
 have hf:∀j,j<v.cells.toList.length->w.frozen? ⟨b,o+0+j,Q2⟩=Q4:=by
  intro j hj;simp[World.frozen?,hb]
 have:=run_storeCells_cells (P:=P) b o v.cells.toList 0 w hc hf h1;rw[wT]at this;have hsize:v.cells.size=sz:=by simpa using hv
 simp[storeVar,cE hsz,hsize,this]
theorem Ef.store{n id off:Nat}{hp:Nat->AO}{cs vs:List AV}{b:Nat}{vals:Array Value}{T:TypeId}{vv:List Value}(hub:∀b,U b->b<w.heap.size)(hid:hp id=.box cs)
  (hρ:ρ id=Q1 (.pointer (Q1 ⟨b,0,Q2⟩))) (hU:U b) (hb:w.heap[b]?=Q1 (.cells vals T (0,0))) (hr:dn w U ρ cs vals.toList) (h1:∀v∈vals.toList,v.oneCell'=Q3)
  (hv:dn w U ρ vs vv) (hv1:∀x∈vv,x.oneCell'=Q3):
  Ef n hp {val:=.tup [],wr:=[(id,.box (setCells cs off vs))]} w U ρ undef (w.setCells b off vv) U ρ:=by
 have hown:ag ρ id (hp id) b:=⟨by rw[hid];rfl,_,hρ,rfl⟩;have hk:∀b',b'<w.heap.size->¬U b'->(w.setCells b off vv).heap[b']?=w.heap[b']?:=λb' _ hb'=>bS _ _ _ _ _ (λe=>hb' (e▸hU))
 have hs:w.heap.size<=(w.setCells b off vv).heap.size:=by rw[jk];exact az _
 refine⟨lG.setCells vv w b off,.tup [] [] rfl sw,?_,sw,λ_ _=>rfl,λ_ _ h=>h,?_,?_,λ_ _ h=>h,λ_ _ h _=>h,?_,?_⟩
 ·intro id' o' h;simp at h;obtain⟨rfl,rfl⟩:=h;refine⟨b,T,(nF vals.toList off vv).toArray,hρ,hU,jh vv w b off hb,?_,?_⟩
  ·simpa using(yU vs vv cs vals.toList off hr hv).mono hs hk (λ_ _ h=>h) (λ_ _ h=>h)
  ·simpa using CC vv vals.toList off h1 hv1
 ·intro b' _ hn;exact bS _ _ _ _ _ (λe=>hn id _ (by simp;rfl) (e▸hown))
 ·grind
 ·rintro id' o' b' (h|⟨_,h⟩) ho
  ·simp at h;obtain⟨rfl,rfl⟩:=h;refine .inr ⟨id',_,by simp;rfl,?_⟩;obtain⟨_,v,hv',hb'⟩:=ho;exact⟨by rw[hid];rfl,v,hv',hb'⟩
  ·simp at h
 simp_all
theorem pS{U':Nat->Prop}{id:Nat}{o:AO}(ho:bx w U ρ id o)(hvf:ol o=Q3)(hu:∀b,U' b->U b)(hf:∀b,ag ρ id o b->¬U' b):bx w U' ρ id (Bf o):=by
 cases o with
 | frz e l=>
  obtain⟨v,h1,h2⟩:=ho;exact⟨v,h1,h2.weak hu⟩
 | vec e l=>
  have ho':=ho;obtain⟨a,c,h1,h2,h3⟩:=ho
  have:=xU (w:=w) (U:=U) (U':=U') (ρ:=ρ) (hp:=λ_=>.vec e l) (e:=e) (c:=.vec id) (l:=l) (by simp[vd]) (.vec id _ h1 rfl) hu
   (λid' h=>by simp[cH]at h;subst h;exact ho') (λid' h=>by simp[cH]at h;subst h;exact hf)
  exact⟨_,h1,this⟩
 |dead=>simp[ol]at hvf
 |box cs=>simp[ol]at hvf
 |fmap es=>simp[ol]at hvf
 |vmap u es=>simp[ol]at hvf
theorem dd{hp:Nat->AO}{ids:List Nat}{id:Nat}{o:AO}(h:(id,o)∈fX hp ids):id∈ids/\o=Bf (hp id):=by
 simp only[fX,bn,cv]at h;grind
theorem pT{hp:Nat->AO}{ids:List Nat}{id:Nat}(h:id∈ids):(id,Bf (hp id))∈fX hp ids:=by
 simp only[fX,bn,cv];exact⟨id,h,rfl,rfl⟩
theorem oT{o:AO}(h:ol o=Q3):(Bf o).owns=Q4:=by cases o<;>simp[ol]at h<;>rfl
theorem Iv:∀(e:Sh)(y:Sem e)(q:Nat)(cc:AV),(zq e y)[q]?=Q1 cc->cH cc=[]:=by
 intro e
 induction e with
 |unit=>intro y q cc h;simp[zq]at h
 |bool=>intro y q cc h;cases q<;>simp[zq]at h;subst h;rfl
 |int k=>intro y q cc h;cases q<;>simp[zq]at h;subst h;rfl
 |str=>intro y q cc h;cases q<;>simp[zq]at h;subst h;rfl
 |sl e ih=>intro y q cc h;cases q<;>simp[zq]at h;subst h;rfl
 | pr a b iha ihb=>
  intro y q cc h;simp only[zq]at h;grind
 | expr=>
  intro y q cc h
  match q with
  |0=>simp[zq]at h;subst h;rfl
  |1=>simp[zq]at h;subst h;rfl
  |2=>simp[zq]at h;subst h;rfl
  |3=>simp[zq]at h;subst h;rfl
  |4=>simp[zq]at h;subst h;rfl
  |5=>simp[zq]at h;subst h;rfl
  |_+6=>simp[zq]at h
theorem uC:∀(vs es:List AV)(off:Nat)(c:AV),c∈setCells es off vs->c∈es\/c∈vs
 |[],_,_,_,h=>.inl h
 | v::vs,es,off,c,h=>by
  rcases uC vs _ _ c h with h|h
  ·grind
  ·exact .inr (by simp[h])
theorem Ef.storeVec{n id i off:Nat}{hp:Nat->AO}{e:Sh}{l:List (Sem e)}{x:Sem e}{vs:List AV}{b c:Nat}{arr:Array Value}{T:TypeId}{vv:List Value}(hub:∀b,U b->b<w.heap.size)(hid:hp id=.vec e l)
  (hρ:ρ id=Q1 (.slice (Q1 ⟨b,0,Q2⟩) l.length c)) (hc:0<c) (hU:U b) (hb:w.heap[b]?=Q1 (.cells arr T (0,0))) (hm:l.length<=aF) (hsz:arr.size=c*e.size) (hle:l.length<=c)
  (hr:∀i(hi:i<l.length)(j:Nat)(c:AV),(zq e l[i])[j]?=Q1 c->∃v,arr[i*e.size+j]?=Q1 v/\Rv w U ρ c v)
  (hv:dn w U ρ vs vv) (hin:off+vs.length<=e.size) (hi:i<l.length)
  (himp:cI hp e (setCells (zq e l[i]) off vs)=Q1 (x,[]))
  (hvf:∀j∈vs.flatMap cH,ol (hp j)=Q3/\j≠id) (hob:∀j∈vs.flatMap cH,bx w U ρ j (hp j))
  (hinj:∀j∈vs.flatMap cH,∀b,ag ρ j (hp j) b->¬ag ρ id (hp id) b):
  Ef n hp {val:=.tup [],wr:=(id,.vec e (l.set i x))::fX hp (vs.flatMap cH)} w U ρ undef (w.setCells b (i*e.size+off) vv)
   (λb=>U b/\¬∃j∈vs.flatMap cH,ag ρ j (hp j) b) ρ:=by
 have hown:ag ρ id (hp id) b:=⟨by rw[hid];rfl,_,hρ,by simp[eO];omega⟩;have hnb:¬∃j∈vs.flatMap cH,ag ρ j (hp j) b:=λ⟨j,hj,ho⟩=>hinj j hj b ho hown
 generalize hU':(λb=>U b/\¬∃j∈vs.flatMap cH,ag ρ j (hp j) b)=U';have hsub:∀b,U' b->U b:=λb h=>by rw[<-hU']at h;exact h.1
 have hfz:∀j∈vs.flatMap cH,∀b,ag ρ j (hp j) b->¬U' b:=λj hj b ho h=>by grind
 have hUb:U' b:=by rw[<-hU'];exact⟨hU,hnb⟩
 have hk:∀b',b'<w.heap.size->¬U' b'->(w.setCells b (i*e.size+off) vv).heap[b']?=w.heap[b']?:=λb' _ hb'=>bS _ _ _ _ _ (λe=>hb' (e▸hUb))
 have hs:w.heap.size<=(w.setCells b (i*e.size+off) vv).heap.size:=by rw[jk];exact az _
 have hmono:∀{cc:AV}{v:Value},Rv w U' ρ cc v->Rv (w.setCells b (i*e.size+off) vv) U' ρ cc v:=λh=>h.mono hs hk (λ_ _ h=>h) (λ_ _ h=>h)
 have hblk:=jh vv w b (i*e.size+off) hb;have hvlen:vv.length=vs.length:=hv.len.symm;have hmul:(i+1)*e.size<=c*e.size:=gQ _ ow;rw[kl]at hmul;have helem:∀(j:Nat)(cc:AV),(zq e x)[j]?=Q1 cc->Rv w U' ρ cc ((nF arr.toList (i*e.size+off) vv)[i*e.size+j]?.getD undef):=by
  have hrl:dn w U ρ (zq e l[i]) ((List.range e.size).map λj=>(arr[i*e.size+j]?).getD undef):=by
   refine⟨by simp[zX],λj cc v hcc hv=>?_⟩;simp only[fa,ef]at hv;obtain⟨j',hj,rfl⟩:=hv;obtain⟨hlt,hjj⟩:=wy hj;subst hjj;obtain⟨v,h1,h2⟩:=hr i hi _ cc hcc;rw[h1];exact h2
  have hset:=yU vs vv _ _ off hrl hv;refine(m7 (w:=w) (U:=U) (U':=U') (ρ:=ρ) (hp:=hp) hsub e _ x [] (λj=>(nF arr.toList (i*e.size+off) vv)[i*e.size+j]?.getD undef) himp ?_ ?_).2.2
  ·intro j cc hj;have hlt:j<e.size:=by
    have:=(cZ.1 hj).1
    rwa [nU,zX]at this
   refine hset.rv j cc _ hj ?_;have hlt2:i*e.size+j<arr.size:=by omega
   rw[kS,kS];grind
  ·intro j hj;have hj':j∈vs.flatMap cH:=by
    simp only[List.mem_flatMap]at hj⊢;obtain⟨cc,hcc,hj⟩:=hj;rcases uC _ _ _ _ hcc with h|h
    ·obtain⟨q,hq⟩:=List.mem_iff_getElem?.1 h;rw[Iv e _ q cc hq]at hj;simp at hj
    ·exact⟨cc,h,hj⟩
   grind
 refine⟨lG.setCells vv w b _,.tup [] [] rfl sw,?_,sw,λ_ _=>rfl,λ_ _ h=>h,?_,?_,λb' _ h=>hsub b' h,?_,?_,?_⟩
 ·intro id' o' h;simp only[cm,cv]at h;rcases h with⟨rfl,rfl⟩|h
  ·refine⟨_,c,by rw[hρ];simp,by simpa using hm,.inr ⟨b,T,(nF arr.toList (i*e.size+off) vv).toArray,rfl,hc,hUb,hblk,by simp[gZ,hsz],by simpa using hle,?_⟩⟩;intro i' hi' j cc hcc;simp only[List.length_set]at hi';by_cases hii:i=i'
   ·subst hii;have hcc':(zq e x)[j]?=Q1 cc:=by simpa using hcc
    have hlt:j<e.size:=by have:=(cZ.1 hcc').1;rwa [zX]at this
    have hlt2:i*e.size+j<(nF arr.toList (i*e.size+off) vv).length:=by rw[gZ];simp;omega
    grind
   ·rw[List.getElem_set_ne hii]at hcc;obtain⟨v,h1,h2⟩:=hr i' hi' j cc hcc;refine⟨v,?_,hmono (h2.weak hsub)⟩;have hlt:j<e.size:=by have:=(cZ.1 hcc).1;rwa [zX]at this
    have hne:¬(i*e.size+off<=i'*e.size+j/\i'*e.size+j<i*e.size+off+vv.length/\i'*e.size+j<arr.toList.length):=by
     rintro⟨q1,q2,_⟩;rcases Nat.lt_or_gt_of_ne hii with hlt'|hlt'
     ·have:=gQ e.size (wR hlt');grind
     ·have:=gQ e.size (wR hlt');grind
    simp only[List.getElem?_toArray];rw[kS,if_neg hne];simpa using h1
  ·obtain⟨hin',rfl⟩:=dd h;refine(pS (hob id' hin') (hvf id' hin').1 hsub (hfz id' hin')).mono hs hk (λ_ _ h=>h) (λ_ _ h=>h) ?_;intro b' ho;have:=oT (hvf id' hin').1;rw[ag,this]at ho;simp at ho
 ·intro b' _ hn;exact bS _ _ _ _ _ (λe'=>hn id _ (by simp;exact .inl rfl) (e'▸hown))
 ·grind
 ·intro b' _ h hn;rw[<-hU'];exact⟨h,λ⟨j,hj,ho⟩=>hn j _ (sP _ (pT hj)) ho⟩
 ·rintro id' o' b' (h|⟨_,h⟩) ho
  ·simp only[cm,cv]at h;rcases h with⟨rfl,rfl⟩|h
   ·refine .inr ⟨id',_,wO,?_⟩;obtain⟨_,v,hv',hb'⟩:=ho;exact⟨by rw[hid];rfl,v,hv',hb'⟩
   ·obtain⟨hin',rfl⟩:=dd h;have:=oT (hvf id' hin').1;rw[ag,this]at ho;simp at ho
  ·simp at h
 ·rintro id1 o1 id2 o2 b' (h|⟨_,h⟩) (h'|⟨_,h'⟩) ho ho'
  ·have key:∀id' o',(id',o')∈((id,AO.vec e (l.set i x))::fX hp (vs.flatMap cH))->ag ρ id' o' b'->id'=id:=by
    intro id' o' h ho;simp only[cm,cv]at h;rcases h with⟨rfl,_⟩|h
    ·rfl
    ·obtain⟨hin',rfl⟩:=dd h;have:=oT (hvf id' hin').1;rw[ag,this]at ho;simp at ho
   rw[key _ _ h ho,key _ _ h' ho']
  all_goals simp at h h'
end
section
variable {P:Program} {w:World} {U:Nat->Prop} {ρ:Nat->Option Value}
structure Fl (w:World) (U:Nat->Prop) (ρ:Nat->Option Value) (hp:Nat->AO) (fp:List Nat):Prop where
 ob:∀id∈fp,bx w U ρ id (hp id)
 inj:∀id1∈fp,∀id2∈fp,∀b,ag ρ id1 (hp id1) b->ag ρ id2 (hp id2) b->id1=id2
theorem KL{n:Nat}{hp:Nat->AO}{t:TypeId}{aa ax:AV}{va vx:Value}{f:fP}{fp:List Nat}(h:(FP P hp t aa ax).val=Q1 f)
  (ha:Rv w U ρ aa va) (hx:Rv w U ρ ax vx) (hub:∀b,U b->b<w.heap.size) (hfp:Fl w U ρ hp fp) (hin1:∀id∈aa.ids,id∈fp) (hin2:∀id∈dC ax,id∈fp):
  ∃w' U',(Instr.storeAt t va vx).run P w=.ok () w'/\Ef n hp f w U ρ undef w' U' ρ/\∀id o,(id,o)∈f.wr->id∈fp:=by
 unfold FP at h;split at h
 ·rename_i vs sz hcs hsz;obtain⟨hv,hv1⟩:=gI hcs hx;split at h
  ·rename_i hlen;split at h
   ·rename_i id off;cases ha with
    |ptr _ _ b hb=>
    have ho:=hfp.ob id (hin1 id (by simp[AV.ids]));split at h
    ·rename_i cs hid;rw[hid]at ho;obtain⟨b',T,vals,h1,h2,h3,h4,h5⟩:=ho;rw[hb]at h1;cases h1;split at h
     ·rename_i hle;simp at h;subst h;refine⟨_,U,?_,Ef.store hub hid hb h2 h3 h4 h5 hv hv1,?_⟩
      ·have:=nT (P:=P) (w:=w) (o:=off) hsz (by rw[<-hv.len];exact hlen) h3 (by have:=h4.len;simp at this;omega) hv1;simp[Instr.storeAt,Instr.sureAddr,this]
      ·intro id' o' h';simp at h';rw[h'.1];exact hin1 id (by simp[AV.ids])
     ·simp at h
    ·simp at h
   ·rename_i id sz' i off;cases ha with
    |vptr _ _ _ _ b n' c hb=>
    have hidfp:=hin1 id (by simp[AV.ids]);have ho:=hfp.ob id hidfp;split at h
    ·rename_i e l hid;split at h
     ·rename_i hcond;obtain⟨rfl,hoff,hall⟩:=hcond;split at h
      ·rename_i x himp;simp at h;obtain⟨hi,rfl⟩:=h;have hobid:=ho;rw[hid]at ho;obtain⟨a,c',h1,hm,h3⟩:=ho;rw[hb]at h1;cases h1;rcases h3 with⟨rfl,_⟩|⟨b',T,arr,hba,hc,hU,hbb,hsz',hle,hrr⟩
       ·simp at hi
       ·cases hba;have hget:l[i]?.getD (zi e)=l[i]:=by simp[zS hi]
        rw[bd,hget]at himp;have hids:∀j∈vs.flatMap cH,j∈fp:=λj hj=>hin2 j (by simpa[dC,hcs]using hj)
        simp only[dW,aD,bne_iff_ne,ne_eq]at hall
        refine⟨_,_,?_,Ef.storeVec hub hid hb hc hU hbb hm hsz' hle hrr hv ow hi himp hall (λj hj=>hfp.ob j (hids j hj))
         (λj hj b' ho1 ho2=>(hall j hj).2 (hfp.inj j (hids j hj) id hidfp b' ho1 ho2)),?_⟩
        ·have hmul:(i+1)*e.size<=c*e.size:=gQ _ ow;rw[kl]at hmul;have:=nT (P:=P) (w:=w) (o:=i*e.size+off) hsz (by rw[<-hv.len];exact hlen) hbb ow hv1;simp[Instr.storeAt,Instr.sureAddr,this]
        ·intro id' o' h';simp only[cm,cv]at h';rcases h' with⟨rfl,_⟩|h'
         ·exact hidfp
         ·exact hids _ (dd h').1
      ·simp at h
     ·simp at h
    ·simp at h
   ·simp at h
  ·simp at h
 ·simp at h
theorem wV{hp:Nat->AO}{e:Sh}{v:AV}{x:Sem e}(h:wU hp e v=Q1 x):∃cs,cellsOf v=Q1 cs/\cI hp e cs=Q1 (x,[]):=by
 unfold wU at h;grind
theorem vq{hp:Nat->AO}{e:Sh}{U':Nat->Prop}(hsub:∀b,U' b->U b):∀(vs:List AV)(vals:List Value)(l:List (Sem e)),vp hp e vs=Q1 l->dn w U ρ vs vals->
  (∀id∈vs.flatMap dC,bx w U ρ id (hp id)/\∀b,ag ρ id (hp id) b->¬U' b)->
  l.length=vals.length/\(∀v∈vals,v.cells.size=e.size/\∀x∈v.cells.toList,x.oneCell'=Q3)/\
  ∀i(hi:i<l.length)(hv:i<vals.length)(j:Nat)(c:AV),(zq e l[i])[j]?=Q1 c->∃v,vals[i].cells[j]?=Q1 v/\Rv w U' ρ c v
 | [],vals,l,h,hr,_=>by
  simp[vp]at h;subst h;have:=hr.len;grind
 |v::vs,[],l,_,hr,_=>by have:=hr.len;simp at this
 | v :: vs,u::vals,l,h,hr,hob=>by
  simp only[vp]at h;split at h
  ·rename_i x l' hx hl;cases h;obtain⟨cs,hcs,himp⟩:=wV hx;obtain⟨hcv,hcv1⟩:=gI hcs (hr.rv 0 v u rfl rfl)
   obtain⟨h1,h2,h3⟩:=vq hsub vs vals l' hl ⟨by have:=hr.len;simpa using this,λj c v hc hv=>hr.rv (j+1) c v hc hv⟩
    (λid hid=>hob id (by simp_all))
   obtain⟨q1,q2,q3⟩:=m7 (w:=w) (U:=U) (U':=U') (ρ:=ρ) (hp:=hp) hsub e cs x [] (λj=>(u.cells.toList[j]?).getD undef) himp
    (λj c hj=>by
     have hlt:j<u.cells.toList.length:=by rw[<-hcv.len];exact(cZ.1 hj).1
     exact hcv.rv j c _ hj (by simp[zS hlt]))
    (λid hid=>hob id (by simp only[List.flatMap_cons,cP];exact .inl (by simpa[dC,hcs]using hid)))
   have hsz:u.cells.size=e.size:=by
    have:=hcv.len;simp at this q1;omega
   refine⟨by simp[h1],?_,?_⟩
   ·grind
   ·intro i hi hv j c hc;cases i with
    | zero=>
     simp only[List.getElem_cons_zero]at hc⊢;have hlt:j<u.cells.size:=by rw[hsz];have:=(cZ.1 hc).1;rwa [zX]at this
     grind
    | succ i=>
     grind
  ·cases h
theorem vR(size:Nat):∀(vs:List Value)(k:Nat)(cells:List Value),(∀v∈vs,v.cells.size=size)->(k+vs.length)*size<=cells.length->
  ∃r:List Value,Instr.fill (λi=>Q1 (i*size,size)) cells.toArray ((vs.zipIdx k).map λp=>(p.2,p.1))=Q1 r.toArray/\r.length=cells.length/\
   (∀q,q<k*size->r[q]?=cells[q]?)/\∀i(hi:i<vs.length) j,j<size->r[(k+i)*size+j]?=vs[i].cells[j]?
 |[],k,cells,_,_=>⟨cells,by simp[Instr.fill],rfl,λ_ _=>rfl,sw⟩
 | v::vs,k,cells,hsz,hle=>by
  have hv:=hsz v sw;simp only[fb]at hle;have hm:k*size+size<=cells.length:=by
   have h1:(k+1)*size<=(k+(vs.length+1))*size:=gQ _ ow;rw[kl]at h1;omega
  obtain⟨r,e1,e2,e3,e4⟩:=vR size vs (k+1) (nF cells (k*size) v.cells.toList) (λx hx=>hsz x (by simp[hx]))
   (by rw[gZ,show k+1+vs.length=k+(vs.length+1) by omega];exact hle)
  refine⟨r,?_,by rw[e2,gZ],?_,?_⟩
  ·simp only[List.zipIdx_cons,jp,Instr.fill];rw[if_neg sg];rw[<-e1];congr 1;have:=Bd cells v.cells.toList 0 (k*size);rw[wT]at this;rw[<-this,<-Array.foldl_toList,Array.toList_zipIdx]
  ·intro q hq;rw[e3 q (by rw[kl];omega),kS,if_neg ow]
  ·intro i hi j hj;cases i with
   | zero=>
    simp only[wT,List.getElem_cons_zero];rw[e3 _ (by rw[kl];omega),kS,if_pos sg,show k*size+j-k*size=j by omega];simp
   | succ i=>
    grind
structure EnvOk (E:bX):Prop where
 sh:∀t e,E.sh t=Q1 e->∃i z,E.P.info? t=Q1 i/\i.size=e.size/\0<e.size/\i.bytes<=131072/\i.zero=Q1 z/\z.cells.size=i.size
theorem oW:∀(ps:List (Nat×AV))(n:Nat),tE n ps=Q3->ps=((ps.map (·.2)).zipIdx n).map λp=>(p.2,p.1)
 |[],_,_=>rfl
 | (i,v)::r,n,h=>by
  simp[tE]at h;obtain⟨rfl,h⟩:=h;simp only[jp,List.zipIdx_cons];congr 1;exact oW r (i+1) h
theorem Ef.allocFrz{n:Nat}{hp:Nat->AO}{ids:List Nat}{arr:Array Value}{T:TypeId}{r:AV}{v:Value}(hub:∀b,U b->b<w.heap.size)(hvf:∀j∈ids,ol (hp j)=Q3)
  (hob:∀j∈ids,bx w U ρ j (hp j)) (hval:Rv (w.alloc (.cells arr T)) (λb=>U b/\¬∃j∈ids,ag ρ j (hp j) b) ρ r v):
  Ef n hp {val:=r,wr:=fX hp ids} w U ρ v (w.alloc (.cells arr T)) (λb=>U b/\¬∃j∈ids,ag ρ j (hp j) b) ρ:=by
 generalize hU':(λb=>U b/\¬∃j∈ids,ag ρ j (hp j) b)=U' at hval⊢;have hsub:∀b,U' b->U b:=λb h=>by rw[<-hU']at h;exact h.1
 have hfz:∀j∈ids,∀b,ag ρ j (hp j) b->¬U' b:=λj hj b ho h=>by grind
 have hk:∀b',b'<w.heap.size->¬U' b'->(w.alloc (.cells arr T)).heap[b']?=w.heap[b']?:=λb' hb _=>bj w _ b' hb
 have hs:w.heap.size<=(w.alloc (.cells arr T)).heap.size:=by rw[aX];omega
 have noOwn:∀id o b,(id,o)∈fX hp ids->ag ρ id o b->False:=by
  intro id o b h ho;obtain⟨hin',rfl⟩:=dd h;rw[ag,oT (hvf id hin')]at ho;simp at ho
 refine⟨lG.alloc w arr T,hval,?_,sw,λ_ _=>rfl,λ_ _ h=>h,λb' hb _=>bj w _ b' hb,?_,λb' _ h=>hsub b' h,?_,?_,?_⟩
 ·intro id o h;have h0:=h;obtain⟨hin',rfl⟩:=dd h;exact(pS (hob id hin') (hvf id hin') hsub (hfz id hin')).mono hs hk (λ_ _ h=>h) (λ_ _ h=>h) (λb' ho=>(noOwn id _ b' h0 ho).elim)
 ·grind
 ·intro b' _ h hn;rw[<-hU'];exact⟨h,λ⟨j,hj,ho⟩=>hn j _ (pT hj) ho⟩
 ·simp_all
 simp_all
theorem xJ{E:bX}(hE:EnvOk E){n:Nat}{hp:Nat->AO}{t:TypeId}{len:Nat}{ps:List (Nat×AV)}{vps:List (Nat×Value)}{f:fP}{fp:List Nat}
  (h:(mX E hp t len ps).val=Q1 f) (hi:ps.map (·.1)=vps.map (·.1)) (hr:dn w U ρ (ps.map (·.2)) (vps.map (·.2)))
  (hub:∀b,U b->b<w.heap.size) (hfp:Fl w U ρ hp fp) (hin:∀id∈ps.flatMap (λp=>dC p.2),id∈fp):
  ∃v w' U',(Instr.buildSlice t len vps.toArray).run E.P w=.ok v w'/\Ef n hp f w U ρ v w' U' ρ/\∀id o,(id,o)∈f.wr->id∈fp:=by
 unfold mX at h;split at h
 ·rename_i elem hu;split at h
  ·split at h
   ·rename_i hemp;simp at hemp;obtain⟨rfl,hsz⟩:=hemp;have hvps:vps=[]:=by
     have:=congrArg List.length hi;simp at this;exact xI ow
    subst hvps;simp at h;subst h;obtain⟨sz,hsz⟩:=Option.isSome_iff_exists.1 hsz
    have hrun:∃arr,(Instr.buildSlice t 0 #[]).run E.P w=.ok (.slice (Q1 ⟨w.heap.size,0,Q2⟩) 0 0) (w.alloc (.cells arr elem)):=
     ⟨_,by simp[Instr.buildSlice,bA hu,cE hsz,Instr.fill,newRow];rfl⟩
    obtain⟨arr,hrun⟩:=hrun;exact⟨_,_,_,hrun,Ef.allocFrz (ids:=[]) (T:=elem) hub sw sw (.nils _),sw⟩
   ·simp at h
  ·rename_i hne;split at h
   ·rename_i e he;split at h
    ·rename_i hcond;simp at hcond;obtain⟨⟨⟨hlen,hord⟩,hmax⟩,hvf⟩:=hcond;split at h
     ·rename_i l hl;simp at h;subst h;obtain⟨i,z,hinfo,hisz,hpos,_,hz,hzc⟩:=hE.sh elem e he;have hsz:fE E.P elem=Q1 e.size:=by simp[fE,hinfo,hisz]
      have hids:∀id∈(ps.map (·.2)).flatMap dC,id∈ps.flatMap (λp=>dC p.2):=by
       intro id hid;simpa[List.flatMap_map]using hid
      have hvf':∀j∈ps.flatMap (λp=>dC p.2),ol (hp j)=Q3:=by
       intro j hj;simp only[List.mem_flatMap]at hj;obtain⟨p,hp',hj⟩:=hj;exact hvf p.1 p.2 hp' j hj
      generalize hU':(λb=>U b/\¬∃j∈ps.flatMap (λp=>dC p.2),ag ρ j (hp j) b)=U';have hsub:∀b,U' b->U b:=λb h=>by rw[<-hU']at h;exact h.1
      obtain⟨h1,h2,h3⟩:=vq (w:=w) (U:=U) (ρ:=ρ) (U':=U') hsub _ _ l hl hr
       (λid hid=>⟨hfp.ob id (hin id (hids id hid)),λb ho h=>by grind⟩)
      have hvps:vps=((vps.map (·.2)).zipIdx 0).map λp=>(p.2,p.1):=by
       have h1:=oW ps 0 hord;have hidx:ps.map (·.1)=List.range' 0 ps.length:=by
        have:=congrArg (List.map (·.1)) h1;rw[oD]at this;rw[this];have e2:((λx:Nat×AV=>x.1)∘λp:AV×Nat=>(p.2,p.1))=Prod.snd:=rfl;rw[e2,List.zipIdx_map_snd];simp
       have hl2:ps.length=vps.length:=by have:=congrArg List.length hi;simpa using this
       rw[hi,hl2]at hidx;apply List.ext_getElem
       ·simp
       ·intro k hk hk';have:(vps.map (·.1))[k]?=(List.range' 0 vps.length)[k]?:=by rw[hidx]
        grind
      have hlen2:vps.length=len:=by rw[<-hlen];have:=congrArg List.length hi;simpa using this.symm
      obtain⟨r,e1,e2,e3,e4⟩:=vR e.size (vps.map (·.2)) 0 (((Array.range (len*e.size)).map (z.cells[· %z.cells.size]!)).toList)
       (λv hv=>(h2 v hv).1) (by simp[hlen2])
      rw[<-hvps]at e1;have hne0:len*e.size≠0:=by
       have:len≠0:=λh0=>hne h0
       exact Nat.mul_ne_zero this ow
      have hbig:¬(2^24<len*e.size):=by omega
      have hll:l.length=len:=by rw[h1];simpa using hlen2
      refine⟨.slice (Q1 ⟨w.heap.size,0,Q2⟩) len len,w.alloc (.cells r.toArray elem),_,?_,Ef.allocFrz hub hvf' (λj hj=>hfp.ob j (hin j hj)) ?_,λid o h=>hin id (dd h).1⟩
      ·simp only[Mk]at e1;simp only[Instr.buildSlice,cR,bA hu,cE hsz,oz];simp only[gt_iff_lt,hbig,if_false,hne0,ox,oz,cR,zeroValue,typeInfo,run_program,hinfo,hz,e1,newRow,run_newObj];rfl
      ·rw[hU'];have hk:∀b',b'<w.heap.size->¬U' b'->(w.alloc (.cells r.toArray elem)).heap[b']?=w.heap[b']?:=λb' hb _=>bj w _ b' hb
       have hs:w.heap.size<=(w.alloc (.cells r.toArray elem)).heap.size:=by rw[aX];omega
       suffices hsuf:Rv (w.alloc (.cells r.toArray elem)) U' ρ (.sl e l) (.slice (Q1 ⟨w.heap.size,0,Q2⟩) l.length len) by rw[hll]at hsuf;exact hsuf
       refine .sl e l w.heap.size 0 len (λi j=>(r[i*e.size+j]?).getD undef) ow (by unfold aF;grind) (by rw[aX];omega)
        (λh=>by have:=hub _ (hsub _ h);omega) (λi' j hi' hj=>?_) (λi' hi' j c hc=>?_)
       ·have hlt:i'*e.size+j<r.length:=by
         rw[e2];have:(i'+1)*e.size<=len*e.size:=gQ _ ow;rw[kl]at this;simp;omega
        unfold World.cell?;rw[cy];simp[zS hlt]
       ·have hi'':i'<(vps.map (·.2)).length:=by rw[<-h1];exact hi'
        obtain⟨v,hv1,hv2⟩:=h3 i' hi' hi'' j c hc;have hj:j<e.size:=by have:=(cZ.1 hc).1;rwa [zX]at this
        have:=e4 i' hi'' j hj;rw[ft]at this;rw[this,hv1];exact hv2.mono hs hk (λ_ _ h=>h) (λ_ _ h=>h)
     ·simp at h
    ·simp at h
   ·simp at h
 ·simp at h
end
section
variable {P:Program} {w:World} {U:Nat->Prop} {ρ:Nat->Option Value}
def SlR(w:World)(U:Nat->Prop)(ρ:Nat->Option Value)(e:Sh)(l:List (Sem e))(v:Value):Prop:=
 ∃a cap,v=.slice a l.length cap/\l.length<=cap/\l.length<=aF/\(l=[]\/∃b o,a=Q1 ⟨b,o,Q2⟩/\
  ∀i(hi:i<l.length)(j:Nat)(c:AV),(zq e l[i])[j]?=Q1 c->∃x,w.cell? ⟨b,o+i*e.size+j,Q2⟩=Q1 x/\Rv w U ρ c x)
theorem G7{e:Sh}{l:List (Sem e)}{v:Value}(h:Rv w U ρ (.sl e l) v):SlR w U ρ e l v:=by
 cases h with
 |sl0 _ a c=>exact⟨a,c,rfl,sw,sw,.inl rfl⟩
 | sl _ _ b o c vals hc hm hb hU hcell hr=>
  refine⟨_,c,rfl,hc,hm,.inr ⟨b,o,rfl,λi hi j cc hcc=>⟨vals i j,hcell i j hi ?_,hr i hi j cc hcc⟩⟩⟩;have:=(cZ.1 hcc).1;rwa [zX]at this
theorem J5{id:Nat}{e:Sh}{l:List (Sem e)}{v:Value}(h:bx w U ρ id (.vec e l))(hv:ρ id=Q1 v):SlR w U ρ e l v:=by
 obtain⟨a,c,h1,hm,h3⟩:=h;rw[hv]at h1;cases h1;rcases h3 with⟨rfl,rfl⟩|⟨b,T,arr,rfl,hc,hU,hb,hsz,hle,hr⟩
 ·exact⟨a,0,rfl,sw,sw,.inl rfl⟩
 ·refine⟨_,c,rfl,hle,hm,.inr ⟨b,0,rfl,λi hi j cc hcc=>?_⟩⟩;obtain⟨x,h1,h2⟩:=hr i hi j cc hcc;exact⟨x,by simp[World.cell?,hb,h1],h2⟩
theorem DN{hp:Nat->AO}{e:Sh}{c:AV}{l:List (Sem e)}{v:Value}(h:vd hp e c=Q1 l)(hr:Rv w U ρ c v)
  (hob:∀id∈c.ids,bx w U ρ id (hp id)):SlR w U ρ e l v:=by
 cases c<;>simp[vd]at h
 case nils=>
  subst h;cases hr;exact⟨_,0,rfl,sw,sw,.inl rfl⟩
 case sl e' l'=>
  obtain⟨rfl,h⟩:=h;subst h;exact G7 hr
 case vec id=>
  cases hr with
  |vec _ _ hv _=>
  have h1:=hob id (by simp[AV.ids]);cases ho:hp id with
  |dead=>simp[ho]at h
  |box cs=>simp[ho]at h
  |fmap es=>simp[ho]at h
  |vmap u es=>simp[ho]at h
  | frz e' l'=>
   simp[ho]at h;obtain⟨rfl,h⟩:=h;subst h;rw[ho]at h1;obtain⟨v',hv',hrv⟩:=h1;rw[hv]at hv';cases hv';exact G7 hrv
  | vec e' l'=>
   simp[ho]at h;obtain⟨rfl,h⟩:=h;subst h;rw[ho]at h1;exact J5 h1 hv
def dX(size n:Nat)(vals:Nat->Nat->Value):List Value:=(List.range (n*size)).map λq=>vals (q/size) (q%size)
theorem wC{size n:Nat}{vals:Nat->Nat->Value}{i j:Nat}(hi:i<n)(hj:j<size):(dX size n vals)[i*size+j]?=Q1 (vals i j):=by
 have hlt:i*size+j<n*size:=by
  have:=gQ size (wR hi);rw[kl]at this;omega
 have h1:(i*size+j)/size=i:=by
  rw[nN,Nat.add_mul_div_right _ _ ow,Nat.div_eq_of_lt hj];omega
 have h2:(i*size+j)%size=j:=by
  rw[nN,Nat.add_mul_mod_self_right,Nat.mod_eq_of_lt hj]
 simp[dX,wN hlt,h1,h2]
theorem dO{size n:Nat}{vals:Nat->Nat->Value}:(dX size n vals).length=n*size:=by simp[dX]
theorem SlR.cells{e:Sh}{l:List (Sem e)}{v:Value}(h:SlR w U ρ e l v)(hpos:0<e.size):∃(a:Option Addr)(cap:Nat)(vals:Nat->Nat->Value),v=.slice a l.length cap/\l.length<=cap/\
  (∀i(hi:i<l.length)(j:Nat)(c:AV),(zq e l[i])[j]?=Q1 c->Rv w U ρ c (vals i j))/\(∀x∈dX e.size l.length vals,x.oneCell'=Q3)/\
  (a=Q2->l=[])/\∀ad,a=Q1 ad->∀(q:Nat) x,(dX e.size l.length vals)[q]?=Q1 x->w.cell? (ad.add q)=Q1 x:=by
 obtain⟨a,cap,rfl,hc,hm,h⟩:=h;rcases h with rfl|⟨b,o,rfl,hr⟩
 ·exact⟨a,cap,λ_ _=>undef,rfl,hc,sw,by simp[dX],λ_=>rfl,by simp[dX]⟩
 ·have hex:∀i j,i<l.length->j<e.size->∃x,w.cell? ⟨b,o+i*e.size+j,Q2⟩=Q1 x/\x.oneCell'=Q3/\∀(hi:i<l.length) c,(zq e l[i])[j]?=Q1 c->Rv w U ρ c x:=by
   intro i j hi hj;have hget:(zq e l[i])[j]?=Q1 ((zq e l[i])[j]'(by rw[zX];exact hj)):=zS _;obtain⟨x,h1,h2⟩:=hr i hi j _ hget;exact⟨x,h1,fx e l[i] j _ x hget h2,λhi c hc=>by rw[hget]at hc;cases hc;exact h2⟩
  let vals:Nat->Nat->Value:=λi j=>(w.cell? ⟨b,o+i*e.size+j,Q2⟩).getD undef
  refine⟨_,cap,vals,rfl,hc,λi hi j c hc=>?_,λx hx=>?_,(λh=>by cases h),λad had q x hq=>?_⟩
  ·grind
  ·simp only[dX,bn,oB]at hx;obtain⟨q,hq,rfl⟩:=hx;obtain⟨x,h1,h2,_⟩:=hex (q/e.size) (q%e.size) ((Nat.div_lt_iff_lt_mul hpos).2 hq) (Nat.mod_lt _ hpos);grind
  ·cases had;simp only[dX,fa,ef]at hq;obtain⟨q',hq',rfl⟩:=hq;obtain⟨hlt,hqq⟩:=wy hq';subst hqq;obtain⟨x,h1,h2,_⟩:=hex (q'/e.size) (q'%e.size) ((Nat.div_lt_iff_lt_mul hpos).2 hlt) (Nat.mod_lt _ hpos);rw[Addr.add_none];have:o+q'=o+q'/e.size*e.size+q'%e.size:=by have:=Nat.div_add_mod q' e.size;rw[Nat.mul_comm]at this;omega
   grind
theorem Ef.newVec{n:Nat}{hp:Nat->AO}{wr:List (Nat×AO)}(hwr:∀id o,(id,o)∈wr->o=.dead){e:Sh}{l:List (Sem e)}{v:Value}{w':World}{U':Nat->Prop}(hn:ρ n=Q2)(hone:v.oneCell'=Q3)(hext:lG w w')
  (hsame:∀b,b<w.heap.size->(∀id o,(id,o)∈wr->¬ag ρ id (hp id) b)->w'.heap[b]?=w.heap[b]?) (hub:∀b,U' b->b<w'.heap.size) (hU:∀b,b<w.heap.size->(U' b↔U b))
  (hobj:bx w' U' (lW ρ n v) n (.vec e l)) (hown:∀b,eO v=Q1 b->w.heap.size<=b\/∃id o,(id,o)∈wr/\ag ρ id (hp id) b):
  Ef n hp {val:=.vec n,wr:=wr,nw:=[.vec e l]} w U ρ v w' U' (lW ρ n v):=by
 have hidx:∀id o,(n<=id/\([AO.vec e l]:List AO)[id-n]?=Q1 o)->id=n:=by
  rintro id o ⟨h1,h2⟩;have:=(cZ.1 h2).1;simp at this;omega
 refine⟨hext,.vec n v (by simp[lW]) hone,?_,?_,?_,eL hn,hsame,hub,λb hb h=>(hU b hb).1 h,λb hb h _=>(hU b hb).2 h,?_,?_⟩
 ·intro id o h;rw[hwr id o h];trivial
 ·grind
 ·intro id h;unfold lW;rw[if_neg (by simp at h;omega)]
 ·rintro id o b (h|h) ho
  ·rw[hwr id o h]at ho;simp[ag,AO.owns]at ho
  ·have:=hidx id o h;subst this;obtain⟨_,x,hx,hb⟩:=ho;simp[lW]at hx;subst hx;exact hown b hb
 ·rintro id1 o1 id2 o2 b (h|h) h' ho ho'
  ·rw[hwr id1 o1 h]at ho;simp[ag,AO.owns]at ho
  ·rcases h' with h'|h'
   ·rw[hwr id2 o2 h']at ho';simp[ag,AO.owns]at ho'
   ·rw[hidx id1 o1 h,hidx id2 o2 h']
theorem Po{size n m:Nat}{f g:Nat->Nat->Value}{i j:Nat}(hj:j<size)(hi:i<n+m):
  (dX size n f++dX size m g)[i*size+j]?=Q1 (if i<n then f i j else g (i-n) j):=by
 by_cases h:i<n
 ·rw[if_pos h,mP]
  ·exact wC h hj
  ·rw[dO];have:=gQ size (wR h);rw[kl]at this;omega
 ·rw[if_neg h];have hge:n*size<=i*size:=gQ _ ow;rw[nZ (by rw[dO];omega),dO];rw[show i*size+j-n*size=(i-n)*size+j by rw[Nat.sub_mul];omega];exact wC ow hj
theorem Src.ofSlR{e:Sh}{l:List (Sem e)}{a:Option Addr}{cap:Nat}{vals:Nat->Nat->Value}{t:TypeId}{el:TypeId}(hu:P.underlying t=Q1 (.slice el))
  (h1:∀x∈dX e.size l.length vals,x.oneCell'=Q3) (hn:a=Q2->l=[]) (hc:∀ad,a=Q1 ad->∀(q:Nat) x,(dX e.size l.length vals)[q]?=Q1 x->w.cell? (ad.add q)=Q1 x):
  Src P e.size t (.slice a l.length cap) l.length (dX e.size l.length vals) w:=by
 cases a with
 | none=>
  have:=hn rfl;subst this;simpa[dX]using Src.ofNil (P:=P) w (size:=e.size) hu cap
 |some ad=>exact Src.ofSlice w hu ad l.length cap _ dO (hc ad rfl) h1
theorem C1(z:Array Value)(n:Nat):(Builtin.zeroCells z n).size=n*z.size:=by simp[Builtin.zeroCells]
theorem Ex{n:Nat}{e:Sh}{l0 l':List (Sem e)}{elem:TypeId}{z:Value}{newCap:Nat}{f g:Nat->Nat->Value}(hn:ρ n=Q2)
  (hzc:z.cells.size=e.size) (hcap:l0.length+l'.length<=newCap) (hpos:0<newCap) (hmax:l0.length+l'.length<=1073741824)
  (hf:∀i(hi:i<l0.length)(j:Nat)(c:AV),(zq e l0[i])[j]?=Q1 c->Rv w U ρ c (f i j)) (hg:∀i(hi:i<l'.length)(j:Nat)(c:AV),(zq e l'[i])[j]?=Q1 c->Rv w U ρ c (g i j)):
  bx (w.drew.alloc (.cells ((dX e.size l0.length f++dX e.size l'.length g).toArray++Builtin.zeroCells z.cells (newCap-(l0.length+l'.length))) elem))
   (λb=>U b\/b=w.heap.size) (lW ρ n (.slice (Q1 ⟨w.heap.size,0,Q2⟩) (l0.length+l'.length) newCap)) n (.vec e (l0++l')):=by
 generalize hobj:Obj.cells ((dX e.size l0.length f++dX e.size l'.length g).toArray++Builtin.zeroCells z.cells (newCap-(l0.length+l'.length))) elem=ob;have hk:∀b,b<w.heap.size->¬U b->(w.drew.alloc ob).heap[b]?=w.heap[b]?:=λb hb _=>bj w.drew _ b hb
 have hu:∀b,b<w.heap.size->(U b\/b=w.heap.size)->U b:=λb hb h=>h.elim id (λe=>by omega)
 have hs:w.heap.size<=(w.drew.alloc ob).heap.size:=by rw[aX];exact Nat.le_succ _
 have hnew:(w.drew.alloc ob).heap[w.heap.size]?=Q1 ob:=cy w.drew ob;refine⟨_,newCap,by simp[lW],by simp;unfold aF;omega,.inr ⟨w.heap.size,elem,_,rfl,hpos,.inr rfl,by rw[hnew,<-hobj],?_,by simpa using hcap,?_⟩⟩
 ·simp only[Array.size_append,List.size_toArray,jM,dO,C1,hzc];rw[<-mN,<-mN];congr 1;omega
 ·intro i hi j c hc;simp only[jM]at hi;have hj:j<e.size:=by have:=(cZ.1 hc).1;rwa [zX]at this
  refine⟨if i<l0.length then f i j else g (i-l0.length) j,?_,?_⟩
  ·rw[Array.getElem?_append_left]
   ·simpa using Po hj hi
   ·simp only[List.size_toArray,jM,dO];rw[<-mN];have:=gQ e.size (wR hi);rw[kl]at this;omega
  ·by_cases hlt:i<l0.length
   ·rw[if_pos hlt];rw[List.getElem_append_left hlt]at hc;exact(hf i hlt j c hc).mono hs hk hu (eL hn)
   ·rw[if_neg hlt];rw[List.getElem_append_right ow]at hc;exact(hg _ _ j c hc).mono hs hk hu (eL hn)
theorem lG.drew(w:World):lG w w.drew:=⟨az _,rfl,rfl,rfl,λ_ _=>rfl⟩
theorem Is{E:bX}(hE:EnvOk E){n:Nat}{hp:Nat->AO}{elem t t' el' ty:TypeId}{ab ax:AV}{vb vx:Value}{f:fP}{fp:List Nat}
  (h:(tn E hp n elem ab ax).val=Q1 f) (hu:E.P.underlying t=Q1 (.slice elem)) (hu':E.P.underlying t'=Q1 (.slice el'))
  (hb:Rv w U ρ ab vb) (hx:Rv w U ρ ax vx) (hub:∀b,U b->b<w.heap.size) (hfp:Fl w U ρ hp fp) (hin1:∀id∈ab.ids,id∈fp) (hin2:∀id∈ax.ids,id∈fp) (hn:ρ n=Q2):
  ∃v w' U' ρ',(Builtin.append_ #[t,t'] ty #[vb,vx]).run E.P w=.ok v w'/\Ef n hp f w U ρ v w' U' ρ'/\∀id o,(id,o)∈f.wr->id∈fp:=by
 have none0:∀(a:Option Addr)(i:TypeInfo),E.P.info? elem=Q1 i->∀x,(Builtin.lenOf x).run E.P w=.ok 0 w->(Builtin.firstCells i.size 0 x).run E.P w=.ok #[] w->
   (Builtin.append_ #[t,t'] ty #[.slice a 0 0,x]).run E.P w=.ok (.slice a 0 0) w:=by
  intro a i hi x hl hf;cases a<;>simp[Builtin.append_,bA hu,bA hu',Go.sizeOf,typeInfo,hi,hl,hf,storeCells]
 unfold tn at h;split at h
 ·
  rename_i e he;obtain⟨i,z,hinfo,hisz,hpos,hbytes,hz,hzc⟩:=hE.sh elem e he;split at h
  ·rename_i l hl;simp at h;obtain⟨hmax,rfl⟩:=h;cases hb with
   |nils a=>
   obtain⟨a',cap',g,rfl,hle,hg,hone,hnone,hcell⟩:=(DN hl hx (λid hid=>hfp.ob id (hin2 id hid))).cells hpos;have hsrc:=Src.ofSlR (P:=E.P) (w:=w) (e:=e) (cap:=cap') hu' hone hnone hcell;rw[<-hisz]at hsrc;by_cases h0:l=[]
   ·subst h0;refine⟨.slice a 0 0,w,U,_,none0 a i hinfo _ (hsrc.len w) (by simpa[dX]using hsrc.cells),Ef.newVec sw hn rfl (lG.refl w) (λ_ _ _=>rfl) hub (λ_ _=>Iff.rfl) ?_ ?_,sw⟩
    ·exact⟨a,0,by simp[lW],sw,.inl ⟨rfl,rfl⟩⟩
    ·intro b hb;cases a<;>simp[eO]at hb
   ·have hlpos:0<l.length:=List.length_pos_iff.2 h0;have hold:(Builtin.firstCells i.size 0 (.slice a 0 0)).run E.P w.drew=.ok ([]:List Value).toArray w.drew:=by
     cases a<;>simp[Builtin.firstCells,loadCells,loadCellsFrom]
    have hrun:=run_append_grow_src (P:=E.P) w t t' ty elem i z hu hinfo hz a 0 0 [] hold (.slice a' l.length cap') l.length _ hsrc ow ow
     (growslice_fits ow (by have:(0+l.length)*i.bytes<=1073741824*131072:=DL ow hbytes;omega))
    have hge:=grownCap_ge w (0+l.length) 0 elem
    have hvec:=Ex (w:=w) (U:=U) (ρ:=ρ) (n:=n) (e:=e) (l0:=[]) (l':=l) (elem:=elem) (z:=z) (newCap:=grownCap w (0+l.length) 0 elem) (f:=λ_ _=>undef) (g:=g) hn
     (by rw[hzc,hisz]) (by simpa using hge) ow (by simpa using hmax) sw hg
    have e0:dX e.size ([]:List (Sem e)).length (λ_ _=>undef)=[]:=by simp[dX]
    rw[e0]at hvec;simp only[nM]at hvec;rw[hisz]at hrun;refine⟨_,_,_,_,hrun,Ef.newVec sw hn rfl ((lG.drew w).trans (lG.alloc w.drew _ _)) (λb hb _=>bj w.drew _ b hb) ?_ ?_ hvec ?_,sw⟩
    ·intro b hb;rw[aX];rcases hb with hb|hb
     ·have:=hub b hb;exact Nat.lt_succ_of_lt this
     ·rw[hb];exact Nat.lt_succ_self _
    ·grind
    ·intro b hb;simp[eO]at hb;exact .inl ow
  ·simp at h
 ·
  rename_i e id he;obtain⟨i,z,hinfo,hisz,hpos,hbytes,hz,hzc⟩:=hE.sh elem e he;split at h
  ·rename_i e' l0 hid;split at h
   ·rename_i hee;subst hee;split at h
    ·rename_i l' hl;simp at h;obtain⟨hmax,rfl⟩:=h;have hidfp:=hin1 id (by simp[AV.ids]);cases hb with
     |vec _ _ hv hv1=>
     have hob:=hfp.ob id hidfp;rw[hid]at hob;obtain⟨a',cap',g,rfl,hle,hg,hone,hnone,hcell⟩:=(DN hl hx (λid hid=>hfp.ob id (hin2 id hid))).cells hpos;have hsrc:=Src.ofSlR (P:=E.P) (w:=w) (e:=e') (cap:=cap') hu' hone hnone hcell;obtain⟨a0,cap0,f0,rfl,hle0,hf0,hone0,hnone0,hcell0⟩:=(J5 hob hv).cells hpos;have hwr:∀id' o,(id',o)∈[(id,AO.dead)]->o=.dead:=by intro id' o h;simp at h;exact h.2
     have hfpw:∀id' o,(id',o)∈[(id,AO.dead)]->id'∈fp:=by intro id' o h;simp at h;rw[h.1];exact hidfp
     by_cases hroom:l0.length+l'.length<=cap0
     ·
      obtain⟨a1,c1,hv1',hm1,h3⟩:=hob;rw[hv]at hv1';cases hv1';rcases h3 with⟨rfl,rfl⟩|⟨b,T,arr,rfl,hc,hUb,hbb,hsz,hle1,hrr⟩
      ·have hl0:l'=[]:=by simpa using hroom
       subst hl0;rw[<-hisz]at hsrc;refine⟨.slice a0 0 0,w,U,_,none0 a0 i hinfo _ (hsrc.len w) (by simpa[dX]using hsrc.cells),Ef.newVec hwr hn rfl (lG.refl w) (λ_ _ _=>rfl) hub (λ_ _=>Iff.rfl) ?_ ?_,hfpw⟩
       ·exact⟨a0,0,by simp[lW],sw,.inl ⟨sw,rfl⟩⟩
       ·intro b hb;cases a0<;>simp[eO]at hb
      ·have hnl:=dO (size:=e'.size) (n:=l'.length) (vals:=g);have hmul:(l0.length+l'.length)*e'.size<=cap0*e'.size:=gQ _ hroom;rw[mN]at hmul
       have hrun:=run_append_room_src (P:=E.P) w t t' ty elem i hu hinfo b 0 l0.length cap0 (.slice a' l'.length cap') l'.length _ (by rw[hisz];exact hsrc) hroom
        (λj hj=>by
         have:0+l0.length*i.size+j<arr.size:=by rw[hisz];omega
         simp only[World.cell?,hbb,Option.isSome_none,zE,if_false,sS this,DF])
        (λj hj=>by simp[World.frozen?,hbb])
       rw[hisz,ft]at hrun;have hown:ag ρ id (hp id) b:=⟨by rw[hid];rfl,_,hv,by simp[eO];omega⟩;have hk:∀b',b'<w.heap.size->¬U b'->(w.setCells b (l0.length*e'.size) (dX e'.size l'.length g)).heap[b']?=w.heap[b']?:=λb' _ hb'=>bS _ _ _ _ _ (λe=>hb' (e▸hUb))
       have hs:w.heap.size<=(w.setCells b (l0.length*e'.size) (dX e'.size l'.length g)).heap.size:=by rw[jk];exact az _
       refine⟨_,_,U,_,hrun,Ef.newVec hwr hn rfl (lG.setCells _ w b _) ?_ ?_ (λ_ _=>Iff.rfl) ?_ ?_,hfpw⟩
       ·intro b' _ hno;exact bS _ _ _ _ _ (λe=>hno id _ (by simp;rfl) (e▸hown))
       ·grind
       ·refine⟨Q1 ⟨b,0,Q2⟩,cap0,by simp[lW],by simp;unfold aF;omega,.inr ⟨b,T,_,rfl,hc,hUb,jh _ w b _ hbb,by simp[gZ,hsz],by simpa using hroom,?_⟩⟩;intro i' hi' j c hc';simp only[jM]at hi';have hj:j<e'.size:=by have:=(cZ.1 hc').1;rwa [zX]at this
        have hq:i'*e'.size+j<(l0.length+l'.length)*e'.size:=by
         have:=gQ e'.size (wR hi');rw[kl]at this;omega
        rw[mN]at hq;simp only[List.getElem?_toArray];rw[kS];by_cases hlt:i'<l0.length
        ·have hq2:i'*e'.size+j<l0.length*e'.size:=by
          have:=gQ e'.size (wR hlt);rw[kl]at this;omega
         rw[if_neg ow];rw[List.getElem_append_left hlt]at hc';obtain⟨x,h1,h2⟩:=hrr i' hlt j c hc';exact⟨x,by simpa using h1,h2.mono hs hk (λ_ _ h=>h) (eL hn)⟩
        ·have hge:l0.length*e'.size<=i'*e'.size:=gQ _ ow;rw[if_pos (by grind)];rw[List.getElem_append_right ow]at hc';refine⟨g (i'-l0.length) j,?_,(hg _ _ j c hc').mono hs hk (λ_ _ h=>h) (eL hn)⟩;rw[show i'*e'.size+j-l0.length*e'.size=(i'-l0.length)*e'.size+j by rw[Nat.sub_mul];omega];exact wC ow hj
       ·intro b' hb';simp[eO]at hb';simp_all
     ·
      have hold:(Builtin.firstCells i.size l0.length (.slice a0 l0.length cap0)).run E.P w.drew=.ok (dX e'.size l0.length f0).toArray w.drew:=by
       cases a0 with
       | none=>
        have:=hnone0 rfl;subst this;simp[Builtin.firstCells,dX]
       | some ad=>
        exact run_firstCells_some w.drew i.size l0.length ad l0.length cap0 _ (by rw[dO,hisz]) (λq x hq=>by simpa using hcell0 ad rfl q x hq)
      have hrun:=run_append_grow_src (P:=E.P) w t t' ty elem i z hu hinfo hz a0 l0.length cap0 _ hold (.slice a' l'.length cap') l'.length _ (by rw[hisz];exact hsrc) ow ow
       (growslice_fits ow (by have:(l0.length+l'.length)*i.bytes<=1073741824*131072:=DL ow hbytes;omega))
      have hge:=grownCap_ge w (l0.length+l'.length) cap0 elem
      have hvec:=Ex (w:=w) (U:=U) (ρ:=ρ) (n:=n) (e:=e') (l0:=l0) (l':=l') (elem:=elem) (z:=z) (newCap:=grownCap w (l0.length+l'.length) cap0 elem) (f:=f0) (g:=g) hn
       (by rw[hzc,hisz]) hge ow hmax hf0 hg
      refine⟨_,_,_,_,hrun,Ef.newVec hwr hn rfl ((lG.drew w).trans (lG.alloc w.drew _ _)) (λb hb _=>bj w.drew _ b hb) ?_ ?_ hvec ?_,hfpw⟩
      ·intro b hb;rw[aX];rcases hb with hb|hb
       ·have:=hub b hb;exact Nat.lt_succ_of_lt this
       ·rw[hb];exact Nat.lt_succ_self _
      ·grind
      ·intro b hb;simp[eO]at hb;exact .inl ow
    ·simp at h
   ·simp at h
  ·simp at h
 ·simp at h
end
section
variable {P:Program} {w:World} {U:Nat->Prop} {ρ:Nat->Option Value}
theorem yX(a b:zB):((⟨a.toArray⟩:ByteArray)==⟨b.toArray⟩)=(a==b):=by
 show(a.toArray==b.toArray)=(a==b);simp
abbrev vX(es:List (zB×AV)):List Value:=es.map λp=>Value.string ⟨p.1.toArray⟩
theorem Es:∀(es:List (zB×AV))(ents:List MapEntry)(s:zB)(i:Nat),ents.map (·.key)=vX es->es.any (λp=>p.1==s)=Q4->
  Instr.findNow .string (.string ⟨s.toArray⟩) ents i=Q1 Q2
 |[],[],_,_,_,_=>rfl
 |[],_::_,_,_,h,_=>by simp at h
 |_::_,[],_,_,h,_=>by simp at h
 | p::es,e::ents,s,i,h,hn=>by
  simp only[vX,jp,List.cons.injEq]at h;simp only[List.any_cons,Bool.or_eq_false_iff]at hn;have hne:(s==p.1)=Q4:=by
   have:=hn.1;simp only[bU,ne_eq]at this⊢;exact λe=>this e.symm
  simp only[Instr.findNow,h.1,Instr.sameNow,yX,hne];exact Es es ents s (i+1) h.2 hn.2
theorem Er:∀(es:List (zB×AV))(ents:List MapEntry)(s:zB)(i:Nat)(z:Tr fP)(f:fP),ents.map (·.key)=vX es->dn w U ρ (es.map (·.2)) (ents.map (·.val))->(MQ es s z).val=Q1 f->
  (∃j v av,Instr.findNow .string (.string ⟨s.toArray⟩) ents i=Q1 (Q1 (j,v))/\Rv w U ρ av v/\f={val:=av})\/(Instr.findNow .string (.string ⟨s.toArray⟩) ents i=Q1 Q2/\z.val=Q1 f)
 |[],[],_,_,_,_,_,_,hv=>.inr ⟨rfl,hv⟩
 |[],_::_,_,_,_,_,h,_,_=>by simp at h
 |_::_,[],_,_,_,_,h,_,_=>by simp at h
 | p::es,e::ents,s,i,z,f,h,hr,hv=>by
  simp only[vX,jp,List.cons.injEq]at h;obtain⟨k,av⟩:=p;simp only[MQ,Tr.val]at hv;simp only[Instr.findNow,h.1,Instr.sameNow,yX];cases hk:s==k with
  | true=>
   rw[hk]at hv;simp[ret]at hv;subst hv;exact .inl ⟨i,e.val,av,rfl,hr.rv 0 av e.val rfl rfl,rfl⟩
  | false=>
   rw[hk]at hv;simp at hv;refine Er es ents s (i+1) z f h.2 ⟨by have:=hr.len;simpa using this,λj c v hc hv'=>hr.rv (j+1) c v (by simpa using hc) (by simpa using hv')⟩ hv
theorem lG.allocO(w:World)(o:Obj):lG w (w.alloc o) where
 sz:=by rw[aX];omega
 os:=rfl
 out:=rfl
 tape:=rfl
 fr:=λa h=>Ak (bj w _ _ h)
theorem Ef.mkMap{n:Nat}{hp:Nat->AO}{o0:AO}(ho0:o0=.fmap []\/∃u,o0=.vmap u [])(hub:∀b,U b->b<w.heap.size)(hn:ρ n=Q2):
  Ef n hp {val:=.mp n,nw:=[o0]} w U ρ (.map (Q1 w.heap.size)) (w.alloc (.map #[] 0)) (λb=>U b\/b=w.heap.size) (lW ρ n (.map (Q1 w.heap.size))):=by
 have hu:∀b,b<w.heap.size->(U b\/b=w.heap.size)->U b:=λb hb h=>h.elim id (λe=>by omega)
 refine⟨lG.allocO w _,.mp n _ (by simp[lW]) rfl,sw,?_,?_,eL hn,λb hb _=>bj w _ b hb,?_,λb hb h=>hu b hb h,λb _ h _=>.inl h,?_,?_⟩
 ·intro j o hj;cases j with
  |succ j=>simp at hj
  | zero=>
   simp at hj;subst hj;rcases ho0 with rfl|⟨u,rfl⟩
   ·exact⟨w.heap.size,#[],0,by simp[lW],.inr rfl,cy w _,⟨rfl,sw⟩,rfl⟩
   ·exact⟨w.heap.size,#[],0,by simp[lW],.inr rfl,cy w _,rfl,sw,rfl,sw⟩
 ·intro id h;unfold lW;rw[if_neg (by simp at h;omega)]
 ·intro b h;rw[aX];grind
 ·rintro id o b (h|⟨h1,h2⟩) ho
  ·simp at h
  ·have e1:id-n<1:=by have:=(cZ.1 h2).1;simpa using this
   have hid:id=n:=by omega
   subst hid;obtain⟨_,v,hv,hb⟩:=ho;simp[lW]at hv;subst hv;simp[eO]at hb;exact .inl ow
 grind
/-! Vx that are values. -/
def kav(k:Int×Int×zB):AV:=.agg [.int .i64 k.1,.int .i64 k.2.1,.str k.2.2]
theorem Hu{a:AV}{k:Int×Int×zB}(h:PC a=Q1 k):a=kav k:=by
 unfold PC at h;split at h
 ·cases h;rfl
 ·cases h
theorem KY{k:Int×Int×zB}{v:Value}(h:Rv w U ρ (kav k) v):v=dG k/\ld k:=by
 unfold kav at h;cases h with
 |agg _ vs hl h1 hr=>
 match vs,hl,hr with
 | [v1,v2,v3],_,hr=>
  have e1:=hr 0 _ v1 rfl rfl;have e2:=hr 1 _ v2 rfl rfl;have e3:=hr 2 _ v3 rfl rfl;cases e1 with
  |int _ _ q1=>
  cases e2 with
  |int _ _ q2=>
  cases e3 with
  |str _ q3=>
  exact⟨rfl,q1,q2,q3⟩
theorem TX{k:Int×Int×zB}(h:ld k):Rv w U ρ (kav k) (dG k):=by
 refine .agg _ [.int .i64 k.1,.int .i64 k.2.1,.string ⟨k.2.2.toArray⟩] rfl (by simp[Value.oneCell']) ?_;intro j c v hc hv
 match j,hc,hv with
 |0,hc,hv=>cases hc;cases hv;exact .int _ _ h.1
 |1,hc,hv=>cases hc;cases hv;exact .int _ _ h.2.1
 |2,hc,hv=>cases hc;cases hv;exact .str _ h.2.2
theorem Um{kt:TypeId}(h:mG P kt=Q3)(a b:Int×Int×zB):eqA P kt (kav a) (kav b)=Q1 (a==b):=by
 unfold mG at h;split at h
 ·rename_i fs hu;simp only[aD]at h;obtain⟨⟨h1,h2⟩,h3⟩:=h;split at h3
  ·rename_i f1 f2 f3 hfs;simp only[aD,ba,FW,KX]at h3;obtain⟨⟨⟨⟨n1,o1⟩,t1⟩,⟨⟨n2,o2⟩,t2⟩⟩,⟨⟨n3,o3⟩,t3⟩⟩:=h3;split at t1
   ·rename_i k1 u1;split at t2
    ·rename_i k2 u2;split at t3
     ·rename_i u3;simp only[kav,eqA,hu,h1,h2,hfs,Dc,n1,o1,n2,o2,n3,o3,YO,u1,u2,u3,beq_self_eq_true,oC,if_true,Bool.and_true];rfl
     ·cases t3
    ·cases t2
   ·cases t1
  ·cases h3
 ·cases h
theorem JK{kt:TypeId}(h:mG P kt=Q3){a b:Int×Int×zB}(ha:ld a)(hb:ld b):(Op.equal kt (dG a) (dG b)).run P w=.ok (a==b) w:=
 (KD (U:=λ_=>False) (ρ:=λ_=>Q2) (Um h a b) (TX ha) (TX hb) (by intro _ _ _ _ h;cases h) (by intro _ _ h;cases h)).1
theorem cY{kt:TypeId}(h:mG P kt=Q3)(k:Int×Int×zB)(em:Bool):(Instr.checkKey em 10000 kt (dG k)).run P w=.ok () w:=by
 unfold mG at h;split at h
 ·rename_i fs hu;simp only[aD]at h;obtain⟨⟨h1,h2⟩,h3⟩:=h;split at h3
  ·rename_i f1 f2 f3 hfs;simp only[aD,ba,FW,KX]at h3;obtain⟨⟨⟨⟨n1,o1⟩,t1⟩,⟨⟨n2,o2⟩,t2⟩⟩,⟨⟨n3,o3⟩,t3⟩⟩:=h3;split at t1
   ·rename_i k1 u1;split at t2
    ·rename_i k2 u2;split at t3
     ·rename_i u3;have e:fs=#[f1,f2,f3]:=by apply lM;simpa using hfs
      subst e;have a1:CS P f1.type=Q1 Q4:=by simp[CS,u1]
      have a2:CS P f2.type=Q1 Q4:=by simp[CS,u2]
      have a3:CS P f3.type=Q1 Q4:=by simp[CS,u3]
      show(Instr.checkKey em (9999+1) kt (dG k)).run P w=_;rw[Instr.checkKey.eq_2];have p1:(part f1.type #[Value.int .i64 k.1,.int .i64 k.2.1,.string ⟨k.2.2.toArray⟩] f1.offset).run P w=.ok (.int .i64 k.1) w:=by simp[part,jz a1,o1]
      have p2:(part f2.type #[Value.int .i64 k.1,.int .i64 k.2.1,.string ⟨k.2.2.toArray⟩] f2.offset).run P w=.ok (.int .i64 k.2.1) w:=by simp[part,jz a2,o2]
      have p3:(part f3.type #[Value.int .i64 k.1,.int .i64 k.2.1,.string ⟨k.2.2.toArray⟩] f3.offset).run P w=.ok (.string ⟨k.2.2.toArray⟩) w:=by simp[part,jz a3,o3]
      have c1:(Instr.checkKey em (9998+1) f1.type (.int .i64 k.1)).run P w=.ok () w:=by
       rw[Instr.checkKey.eq_2];simp[bA u1,Result.andThen]
      have c2:(Instr.checkKey em (9998+1) f2.type (.int .i64 k.2.1)).run P w=.ok () w:=by
       rw[Instr.checkKey.eq_2];simp[bA u2,Result.andThen]
      have c3:(Instr.checkKey em (9998+1) f3.type (.string ⟨k.2.2.toArray⟩)).run P w=.ok () w:=by
       rw[Instr.checkKey.eq_2];simp[bA u3,Result.andThen]
      have m1:f1.name≠"_":=by simpa using n1
      have m2:f2.name≠"_":=by simpa using n2
      have m3:f3.name≠"_":=by simpa using n3
      simp[dG,bA hu,Result.andThen,p1,p2,p3,c1,c2,c3,m1,m2,m3]
     ·cases t3
    ·cases t2
   ·cases t1
  ·cases h3
 ·cases h
def ck(es:List ((Int×Int×zB)×Int))(k:Int×Int×zB)(i:Nat):Option (Nat×Int):=match es with
 |[]=>Q2
 |p::r=>bif k==p.1 then Q1 (i,p.2)else ck r k (i+1)
abbrev AN(u:Bool)(es:List ((Int×Int×zB)×Int)):List (Value×Value):=es.map λp=>(dG p.1,tf u p.2)
theorem mC{kt:TypeId}(h:mG P kt=Q3){k:Int×Int×zB}(hk:ld k)(u:Bool):∀(es:List ((Int×Int×zB)×Int))(ents:List MapEntry)(i:Nat),(ents.map λe=>(e.key,e.val))=AN u es->(∀p∈es,cJ .i64 p.2/\ld p.1)->
  (Instr.findAsking kt (dG k) ents i).run P w=.ok ((ck es k i).map λq=>(q.1,tf u q.2)) w
 |[],[],_,_,_=>by simp[Instr.findAsking,ck]
 |[],_::_,_,h,_=>by simp at h
 |_::_,[],_,h,_=>by simp at h
 | p::es,e::ents,i,he,ho=>by
  simp only[AN,jp,List.cons.injEq,cv]at he;obtain⟨⟨e1,e2⟩,e3⟩:=he;have hp:=ho p (wO ..);have ih:=mC h hk u es ents (i+1) e3 (λq hq=>ho q (sP _ hq));simp only[Instr.findAsking,e1,cR,JK h hk hp.2,oz,ck];cases hq:k==p.1
  ·simpa using ih
  ·simp[e2]
theorem ji{kt:TypeId}(h:mG P kt=Q3){k:Int×Int×zB}(hk:ld k)(u:Bool)(es:List ((Int×Int×zB)×Int))(ents:List MapEntry)(he:(ents.map λe=>(e.key,e.val))=AN u es)(ho:∀p∈es,cJ .i64 p.2/\ld p.1):
  (Instr.findKey kt (dG k) ents).run P w=.ok ((ck es k 0).map λq=>(q.1,tf u q.2)) w:=by
 have hu:∃fs,P.underlying kt=Q1 (.struct fs):=by
  unfold mG at h;split at h
  ·rename_i fs hu;exact⟨fs,hu⟩
  ·cases h
 obtain⟨fs,hu⟩:=hu;have hf:=mC (w:=w) h hk u es ents 0 he ho;cases ents with
 | nil=>
  cases es with
  |nil=>simp[Instr.findKey,bA hu,Result.andThen,Instr.findNow,ck]
  |cons p r=>simp at he
 | cons e r=>
  have hs:Instr.findNow (.struct fs) (dG k) (e::r) 0=Q2:=by
   simp only[Instr.findNow];have:Instr.sameNow (.struct fs) (dG k) e.key=Q2:=by simp[Instr.sameNow]
   rw[this]
  simp only[Instr.findKey,cR,bA hu,oz,hs];exact hf
theorem kX:∀{es:List ((Int×Int×zB)×Int)}{k:Int×Int×zB}{i:Nat},ck es k i=Q2->mJ es k=Q4/\gh es k=0/\∀x,jX es k x=es++[(k,x)]
 |[],_,_,_=>⟨rfl,rfl,λ_=>rfl⟩
 | p::r,k,i,h=>by
  unfold ck at h;cases hq:k==p.1
  ·rw[hq]at h;obtain⟨h1,h2,h3⟩:=kX (i:=i+1) (by simpa using h);refine⟨by simpa[mJ,hq]using h1,by simpa[gh,hq]using h2,λx=>?_⟩;rw[jX,hq,h3];rfl
  ·rw[hq]at h;cases h
theorem kY:∀{es:List ((Int×Int×zB)×Int)}{k:Int×Int×zB}{i j:Nat}{n:Int},ck es k i=Q1 (j,n)->i<=j/\mJ es k=Q3/\gh es k=n/\(∃p,es[j-i]?=Q1 p/\p.1=k/\p.2=n)/\∀x,jX es k x=es.set (j-i) (k,x)
 |[],_,_,_,_,h=>by cases h
 | p::r,k,i,j,n,h=>by
  unfold ck at h;cases hq:k==p.1
  ·rw[hq]at h;obtain⟨h0,h1,h2,⟨q,h4,h5⟩,h3⟩:=kY (i:=i+1) (by simpa using h);have e:j-i=(j-(i+1))+1:=by omega
   refine⟨ow,by simpa[mJ]using .inr (by simpa[mJ]using h1),by simpa[gh,hq]using h2,⟨q,by rw[e];simpa using h4,h5⟩,λx=>?_⟩;rw[jX,hq,h3,e];rfl
  ·rw[hq]at h;simp only[ah,bz,cv]at h;obtain⟨rfl,rfl⟩:=h;have hk:k=p.1:=by simpa using hq
   refine⟨az _,by simp[mJ,hq],by simp[gh,hq],⟨p,sw,hk.symm,rfl⟩,λx=>?_⟩;rw[jX,hq];simp
theorem rC(k:Int×Int×zB):Instr.sameBits 10000 (dG k) (dG k)=Q3:=by
 show Instr.sameBits (9999+1) (dG k) (dG k)=Q3;simp[dG,Instr.sameBits,yX]
theorem Ef.setMap{n:Nat}{hp:Nat->AO}{id r:Nat}{ents ents':Array MapEntry}{clock clock':Nat}{o':AO}(h1:ρ id=Q1 (.map (Q1 r)))(_:U r)(h3:w.heap[r]?=Q1 (.map ents clock))(hown:(hp id).owns=Q3)
  (hok:bx {w with heap:=w.heap.setIfInBounds r (.map ents' clock')} U ρ id o') (hub:∀b,U b->b<w.heap.size) {rv:AV} {vv:Value} (hrv:Rv {w with heap:=w.heap.setIfInBounds r (.map ents' clock')} U ρ rv vv):
  Ef n hp {val:=rv,wr:=[(id,o')]} w U ρ vv {w with heap:=w.heap.setIfInBounds r (.map ents' clock')} U ρ:=by
 obtain⟨e1,e2⟩:=Ap (o':=Obj.map ents' clock') h3;have hrlt:r<w.heap.size:=(nY.1 h3).1;have hown':ag ρ id (hp id) r:=⟨hown,_,h1,rfl⟩;refine⟨⟨sw,rfl,rfl,rfl,?_⟩,hrv,?_,sw,λ_ _=>rfl,λ_ _ h=>h,?_,?_,λ_ _ h=>h,λ_ _ h _=>h,?_,?_⟩
 ·intro a _;by_cases hab:a.block=r
  ·unfold World.frozen?;simp only[hab,e1,h3]
  ·exact Ak (e2 a.block hab)
 ·simp_all
 ·grind
 ·simp_all
 ·rintro id' o'' b (h'|⟨_,h'⟩) ho'
  ·simp only[gp,cv]at h';obtain⟨rfl,rfl⟩:=h';refine .inr ⟨id',_,gp.2 rfl,?_⟩;obtain⟨_,v,hv,hb⟩:=ho';exact⟨hown,v,hv,hb⟩
  ·simp at h'
 simp_all
theorem Xl{u:Bool}{a:AV}{n:Int}{v:Value}(h:zds u a=Q1 n)(hr:Rv w U ρ a v):v=tf u n/\cJ .i64 n:=by
 unfold zds at h;split at h
 ·cases h;cases hr with
  |int _ _ h1=>exact⟨rfl,h1⟩
 ·cases h;cases hr with
  |agg _ vs hl h1 hr=>
  match vs,hl with
  |[],_=>exact⟨rfl,by unfold cJ;decide⟩
 ·cases h
theorem lh.push{ents:Array MapEntry}{clock:Nat}(h:lh ents clock)(k v:Value):lh (ents.push {key:=k,val:=v,born:=clock}) (clock+1):=by
 refine⟨by simp[h.1],λi e he=>?_⟩;rw[Array.getElem?_push]at he;split at he
 ·rename_i hi;cases he;rw[hi];exact h.1
 ·exact h.2 i e he
theorem lh.modify{ents:Array MapEntry}{clock:Nat}(h:lh ents clock)(j:Nat)(f:MapEntry->MapEntry)(hf:∀e,(f e).born=e.born):lh (ents.modify j f) clock:=by
 refine⟨by simp[h.1],λi e he=>?_⟩;rw[sO]at he;split at he
 ·cases hx:ents[i]? with
  |none=>rw[hx]at he;simp at he
  | some e0=>
   rw[hx]at he;simp at he;subst he;rw[hf];exact h.2 i e0 hx
 ·exact h.2 i e he
theorem xf{n:Nat}{hp:Nat->AO}{t:TypeId}{am ak ax:AV}{vm vk vx:Value}{f:fP}{fp:List Nat}(h:(tq P hp t am ak ax).val=some f)
  (hm:Rv w U ρ am vm) (hk:Rv w U ρ ak vk) (hx:Rv w U ρ ax vx) (hub:∀b,U b->b<w.heap.size) (hfp:Fl w U ρ hp fp) (hin:∀id∈am.ids,id∈fp):
  ∃w',(Instr.mapUpdate t vm vk vx).run P w=.ok () w'/\Ef n hp f w U ρ undef w' U ρ/\∀id o,(id,o)∈f.wr->id∈fp:=by
 unfold tq at h;split at h
 ·rename_i kt et ht;split at h
  ·rename_i hkt;split at h
   ·rename_i id s;have hid:=hin id (by simp[AV.ids]);have ho:=hfp.ob id hid;split at h
    ·rename_i es hes;simp only[Tr.val]at h;split at h
     ·rename_i hnone;simp only[wP]at hnone;simp only[bz]at h;subst h;rw[hes]at ho;obtain⟨r,ents,clock,h1,h2,h3,h4,h5⟩:=ho;cases hm with
      |mp _ _ hv _=>
      rw[h1]at hv;cases hv;cases hk with
      |str _ hs=>
      have hf:=Es es ents.toList s 0 h5 hnone;obtain⟨e1,e2⟩:=Ap (o':=Obj.map (ents.push {key:=.string ⟨s.toArray⟩,val:=vx,born:=clock}) (clock+1)) h3;have hrlt:r<w.heap.size:=(nY.1 h3).1;have hown:ag ρ id (hp id) r:=⟨by rw[hes];rfl,_,h1,rfl⟩;have hkk:∀b',b'<w.heap.size->¬U b'->(w.heap.setIfInBounds r (Obj.map (ents.push {key:=.string ⟨s.toArray⟩,val:=vx,born:=clock}) (clock+1)))[b']?=w.heap[b']?:=λb' _ hb'=>e2 b' (λe=>hb' (e▸h2))
      refine⟨{w with heap:=w.heap.setIfInBounds r (.map (ents.push {key:=.string ⟨s.toArray⟩,val:=vx,born:=clock}) (clock+1))},?_,?_,?_⟩
      ·simp[Instr.mapUpdate,bA ht,kk h3,HQ hkt (k:=.string ⟨s.toArray⟩) trivial,HR hkt hf,wM _ h3,Result.andThen]
      ·refine⟨⟨sw,rfl,rfl,rfl,?_⟩,.tup [] [] rfl sw,?_,sw,λ_ _=>rfl,λ_ _ h=>h,?_,?_,λ_ _ h=>h,λ_ _ h _=>h,?_,?_⟩
       ·intro a _;by_cases hab:a.block=r
        ·unfold World.frozen?;simp only[hab,e1,h3]
        ·exact Ak (e2 a.block hab)
       ·intro id' o' h';simp only[gp,cv]at h';obtain⟨rfl,rfl⟩:=h';refine⟨r,_,_,h1,h2,e1,?_,?_⟩
        ·have hm1:dn {w with heap:=w.heap.setIfInBounds r (.map (ents.push {key:=.string ⟨s.toArray⟩,val:=vx,born:=clock}) (clock+1))} U ρ (es.map (·.2)) (ents.toList.map (·.val)):=
          h4.mono sw hkk (λ_ _ h=>h) (λ_ _ h=>h)
         have hx1:Rv {w with heap:=w.heap.setIfInBounds r (.map (ents.push {key:=.string ⟨s.toArray⟩,val:=vx,born:=clock}) (clock+1))} U ρ ax vx:=
          hx.mono sw hkk (λ_ _ h=>h) (λ_ _ h=>h)
         refine⟨by have:=hm1.len;simp at this⊢;exact this,λj c v hc hv=>?_⟩;simp only[iI,jp,List.map_nil,Array.toList_push]at hc hv;by_cases hj:j<(es.map (·.2)).length
         ·rw[mP hj]at hc;rw[mP (by rw[<-hm1.len];exact hj)]at hv;exact hm1.rv j c v hc hv
         ·rw[nZ ow]at hc;rw[nZ (by rw[<-hm1.len];omega),<-hm1.len]at hv;grind
        simp_all
       ·grind
       ·simp_all
       ·rintro id' o' b (h'|⟨_,h'⟩) ho'
        ·simp only[gp,cv]at h';obtain⟨rfl,rfl⟩:=h';refine .inr ⟨id',_,gp.2 rfl,?_⟩;obtain⟨_,v,hv,hb⟩:=ho';exact⟨by rw[hes];rfl,v,hv,hb⟩
        ·simp at h'
       simp_all
      simp_all
     ·cases h
    ·simp at h
   ·simp at h
  ·split at h
   ·rename_i hvk;split at h
    ·rename_i id v hvk2;have hid:=hin id (by simp[AV.ids]);have ho:=hfp.ob id hid;split at h
     ·rename_i u es hes;split at h
      ·rename_i nn hnn;simp only[Tr.val_ok,bz]at h;subst h;rw[hes]at ho;obtain⟨r,ents,clock,h1,h2,h3,h4,h5⟩:=ho;cases hm with
       |mp _ _ hv _=>
       rw[h1]at hv;cases hv;rw[Hu hvk2]at hk;obtain⟨rfl,hko⟩:=KY hk;obtain⟨rfl,hno⟩:=Xl hnn hx;have hfk:=ji (w:=w) hvk hko u es ents.toList h4 h5.1;have hown:(hp id).owns=Q3:=by rw[hes];rfl
       have hwrs:∀id' o',(id',o')∈[(id,AO.vmap u (jX es v nn))]->id'∈fp:=by
        intro id' o' h';simp only[gp,cv]at h';rw[h'.1];exact hid
       cases hfi:ck es v 0 with
       | none=>
        rw[hfi]at hfk;obtain⟨_,_,hput⟩:=kX hfi;refine⟨{w with heap:=w.heap.setIfInBounds r (.map (ents.push {key:=dG v,val:=tf u nn,born:=clock}) (clock+1))},?_,?_,hwrs⟩
        ·simp[Instr.mapUpdate,bA ht,kk h3,cY hvk,hfk,wM _ h3,Result.andThen]
        ·refine Ef.setMap h1 h2 h3 hown ?_ hub (.tup [] [] rfl sw);refine⟨r,_,_,h1,h2,(Ap h3).1,?_,?_,h5.2.push _ _⟩
         ·simp_all
         grind
       | some q=>
        obtain⟨j,m⟩:=q;rw[hfi]at hfk;obtain⟨_,_,_,⟨p,hpj,hpk,hpn⟩,hput⟩:=kY hfi;rw[Nat.sub_zero]at hpj hput;have hent:∃e,ents.toList[j]?=Q1 e/\e.key=dG v:=by
         have:(ents.toList.map λe=>(e.key,e.val))[j]?=Q1 (dG p.1,tf u p.2):=by
          rw[h4];simp[hpj]
         rw[fa,ef]at this;obtain⟨e,he1,he2⟩:=this;simp only[cv]at he2;exact⟨e,he1,by rw[he2.1,hpk]⟩
        obtain⟨e,he1,he2⟩:=hent;have he3:ents[j]?=Q1 e:=by rw[<-rc];exact he1
        refine⟨{w with heap:=w.heap.setIfInBounds r (.map (ents.modify j λe=>{e with key:=dG v,val:=tf u nn}) clock)},?_,?_,hwrs⟩
        ·have hst:(Instr.keyThatStays (dG v) (dG v)).run P w=.ok (dG v) w:=by
          simp[Instr.keyThatStays,rC]
         simp[Instr.mapUpdate,bA ht,kk h3,cY hvk,hfk,he3,he2,hst,wM _ h3,Result.andThen]
        ·refine Ef.setMap h1 h2 h3 hown ?_ hub (.tup [] [] rfl sw);refine⟨r,_,_,h1,h2,(Ap h3).1,?_,?_,h5.2.modify _ _ (λ_=>rfl)⟩
         ·rw[hput];apply Ao;intro q;have h4q:(ents.toList.map λe=>(e.key,e.val))[q]?=(AN u es)[q]?:=by rw[h4]
          grind
         grind
      ·simp at h
     ·simp at h
    ·simp at h
   ·simp at h
  ·simp at h
 ·simp at h
theorem A7:∀(es:List (zB×AV))(ents:List MapEntry)(s:zB)(i:Nat)(z:Tr fP)(f:fP),ents.map (·.key)=vX es->dn w U ρ (es.map (·.2)) (ents.map (·.val))->(F3 es s z).val=Q1 f->
  (∃j v av,Instr.findNow .string (.string ⟨s.toArray⟩) ents i=Q1 (Q1 (j,v))/\Rv w U ρ av v/\f={val:=.tup [av,.kb Q3]})\/(Instr.findNow .string (.string ⟨s.toArray⟩) ents i=Q1 Q2/\z.val=Q1 f)
 |[],[],_,_,_,_,_,_,hv=>.inr ⟨rfl,hv⟩
 |[],_::_,_,_,_,_,h,_,_=>by simp at h
 |_::_,[],_,_,_,_,h,_,_=>by simp at h
 | p::es,e::ents,s,i,z,f,h,hr,hv=>by
  simp only[vX,jp,List.cons.injEq]at h;obtain⟨k,av⟩:=p;simp only[F3,Tr.val]at hv;simp only[Instr.findNow,h.1,Instr.sameNow,yX];cases hk:s==k with
  | true=>
   rw[hk]at hv;simp[ret]at hv;subst hv;exact .inl ⟨i,e.val,av,rfl,hr.rv 0 av e.val rfl rfl,rfl⟩
  | false=>
   rw[hk]at hv;simp at hv;refine A7 es ents s (i+1) z f h.2 ⟨by have:=hr.len;simpa using this,λj c v hc hv'=>hr.rv (j+1) c v (by simpa using hc) (by simpa using hv')⟩ hv
theorem qH{a b:AV}{x y:Value}(ha:Rv w U ρ a x)(hb:Rv w U ρ b y):Rv w U ρ (.tup [a,b]) (.tuple #[x,y]):=by
 refine .tup _ [x,y] rfl ?_;grind
theorem pB{et:TypeId}{z:AV}(hz:uP P et=Q1 z):∃i zv,P.info? et=Q1 i/\i.zero=Q1 zv/\z=Ai zv:=by
 unfold uP at hz;split at hz
 ·rename_i i hinfo;simp only[ef]at hz;grind
 ·cases hz
theorem Qj{zv:Value}{k:IntKind}{n:Int}(h:HN zv=.int k n):zv=.int k n:=by
 unfold HN at h;grind
theorem HO{zv:Value}{k:IntKind}{n:Int}(h:Ai zv=.int k n):zv=.int k n:=by
 unfold Ai at h;split at h
 ·split at h<;>cases h
 ·exact Qj h
theorem N8{zv:Value}{cs:List AV}(h:Ai zv=.agg cs)(h0:cs.isEmpty=Q3):zv=.agg #[]:=by
 unfold Ai at h;split at h
 ·rename_i cs';split at h
  ·simp_all
  ·cases h
 ·unfold HN at h;grind
theorem It{hp:Nat->AO}{t:TypeId}{ax ai:AV}{vx vi:Value}{two:Bool}{f:fP}(h:(kB P hp t ax ai two).val=some f)(hx:Rv w U ρ ax vx)(hi:Rv w U ρ ai vi)(hob:∀id∈ax.ids,bx w U ρ id (hp id)):
  ∃r v,f={val:=r}/\(Instr.lookup t vx vi two).run P w=.ok v w/\Rv w U ρ r v:=by
 unfold kB at h;split at h
 ·rename_i kt et ht;split at h
  ·rename_i hkt;split at h
   ·rename_i id s;have ho:=hob id (by simp[AV.ids]);split at h
    ·rename_i es hes;rw[hes]at ho;obtain⟨r,ents,clock,h1,h2,h3,h4,h5⟩:=ho;cases hx with
     |mp _ _ hv _=>
     rw[h1]at hv;cases hv;cases hi with
     |str _ hs=>
     cases two with
     | false=>
      simp only[zE,if_false]at h;rcases Er es ents.toList s 0 _ f h5 h4 h with⟨j,v,av,hf,hr,rfl⟩|⟨hf,hz⟩
      ·refine⟨av,v,rfl,?_,hr⟩;simp[Instr.lookup,bA ht,kk h3,HQ hkt (k:=.string ⟨s.toArray⟩) trivial,HR hkt hf,Result.andThen]
      ·simp at hz;obtain⟨z,hz,rfl⟩:=hz;obtain⟨i,zv,hinfo,hz1,rfl⟩:=pB hz;refine⟨_,zv,rfl,?_,pI zv⟩;simp[Instr.lookup,bA ht,kk h3,HQ hkt (k:=.string ⟨s.toArray⟩) trivial,HR hkt hf,Result.andThen,zeroValue,typeInfo,hinfo,hz1]
     | true=>
      simp only[if_true]at h;rcases A7 es ents.toList s 0 _ f h5 h4 h with⟨j,v,av,hf,hr,rfl⟩|⟨hf,hz⟩
      ·refine⟨_,.tuple #[v,.bool Q3],rfl,?_,qH hr (.kb Q3)⟩;simp[Instr.lookup,bA ht,kk h3,HQ hkt (k:=.string ⟨s.toArray⟩) trivial,HR hkt hf,Result.andThen]
      ·unfold ZB at hz;split at hz
       ·rename_i z hz0;simp[ret]at hz;subst hz;obtain⟨i,zv,hinfo,hz1,rfl⟩:=pB hz0;refine⟨_,.tuple #[zv,.bool Q4],rfl,?_,qH (pI zv) (.kb Q4)⟩;simp[Instr.lookup,bA ht,kk h3,HQ hkt (k:=.string ⟨s.toArray⟩) trivial,HR hkt hf,Result.andThen,zeroValue,typeInfo,hinfo,hz1]
       ·simp at hz
    ·simp at h
   ·simp at h
  ·split at h
   ·rename_i hvk;split at h
    ·rename_i id v hvk2;have ho:=hob id (by simp[AV.ids]);split at h
     ·rename_i u es hes;rw[hes]at ho;obtain⟨r,ents,clock,h1,h2,h3,h4,h5⟩:=ho;cases hx with
      |mp _ _ hv _=>
      rw[h1]at hv;cases hv;rw[Hu hvk2]at hi;obtain⟨rfl,hko⟩:=KY hi;have hfk:=ji (w:=w) hvk hko u es ents.toList h4 h5.1
      have hrun:∀(i:TypeInfo)(zv:Value),P.info? et=Q1 i->i.zero=Q1 zv->zv=tf u 0->
        (Instr.lookup t (.map (Q1 r)) (dG v) two).run P w=.ok (if two then .tuple #[tf u (gh es v),.bool (mJ es v)]else tf u (gh es v)) w:=by
       intro i zv hinfo hz1 hz2;subst hz2;cases hfi:ck es v 0 with
       | none=>
        rw[hfi]at hfk;obtain⟨e1,e2,_⟩:=kX hfi;cases two<;>simp[Instr.lookup,bA ht,kk h3,cY hvk,hfk,Result.andThen,zeroValue,typeInfo,hinfo,hz1,e1,e2]
       | some q=>
        obtain⟨j,m⟩:=q;rw[hfi]at hfk;obtain⟨_,e1,e2,_,_⟩:=kY hfi;cases two<;>simp[Instr.lookup,bA ht,kk h3,cY hvk,hfk,Result.andThen,e1,e2]
      have hio:cJ .i64 (gh es v):=by
       cases hfi:ck es v 0 with
       |none=>rw[(kX hfi).2.1];unfold cJ;decide
       | some q=>
        obtain⟨j,m⟩:=q;obtain⟨_,_,e2,⟨p,hp,_,hpn⟩,_⟩:=kY hfi;grind
      split at h
      ·rename_i z hz;split at h
       ·rename_i hc;obtain⟨rfl,rfl⟩:=hc;obtain⟨i,zv,hinfo,hz1,hz2⟩:=pB hz;have:=HO hz2.symm;subst this;simp[ret]at h;subst h;refine⟨_,_,rfl,hrun i _ hinfo hz1 rfl,?_⟩;cases two
        ·exact .int _ _ hio
        ·exact qH (.int _ _ hio) (.bool _)
       ·simp at h
      ·rename_i cs hz;split at h
       ·rename_i hc;obtain⟨rfl,hcs⟩:=hc;obtain⟨i,zv,hinfo,hz1,hz2⟩:=pB hz;have:=N8 hz2.symm hcs;subst this;simp[ret]at h;subst h;have hag:Rv w U ρ (.agg []) (.agg #[]):=.agg [] [] rfl sw sw;refine⟨_,_,rfl,hrun i _ hinfo hz1 rfl,?_⟩;cases two
        ·exact hag
        ·exact qH hag (.bool _)
       ·simp at h
      ·simp at h
     ·simp at h
    ·simp at h
   ·simp at h
  ·simp at h
 ·simp at h
theorem wK:∀{es:List ((Int×Int×zB)×Int)}{k:Int×Int×zB}{i:Nat},(ck es k i=Q2->kZ es k=es.length)/\∀j n,ck es k i=Q1 (j,n)->j=i+kZ es k
 |[],k,i=>⟨λ_=>rfl,λj n h=>by cases h⟩
 | p::r,k,i=>by
  obtain⟨h1,h2⟩:=wK (es:=r) (k:=k) (i:=i+1);unfold ck kZ;grind
theorem NP:∀(es:List ((Int×Int×zB)×Int))(k:Int×Int×zB),kZ es k<=es.length
 |[],_=>az _
 | p::r,k=>by
  have:=NP r k;unfold kZ;grind
theorem KI{n:Nat}{hp:Nat->AO}{t:TypeId}{am ak:AV}{vm vk:Value}{f:fP}{fp:List Nat}(h:(tp P hp t am ak).val=some f)
  (hm:Rv w U ρ am vm) (hk:Rv w U ρ ak vk) (hub:∀b,U b->b<w.heap.size) (hfp:Fl w U ρ hp fp) (hin:∀id∈am.ids,id∈fp):
  ∃v w',(Instr.mapEntry t vm vk).run P w=.ok v w'/\Ef n hp f w U ρ v w' U ρ/\∀id o,(id,o)∈f.wr->id∈fp:=by
 unfold tp at h;split at h
 ·rename_i kt et ht;split at h
  ·rename_i hvk;split at h
   ·rename_i id v hvk2;have hid:=hin id (by simp[AV.ids]);have ho:=hfp.ob id hid;split at h
    ·rename_i es hes;split at h
     ·rename_i z hz;split at h
      ·rename_i hz0;subst hz0;simp only[Tr.val]at h;split at h
       ·rename_i hlen;have hlen:es.length<=1073741824:=ll hlen;simp only[bz]at h;subst h;rw[hes]at ho;obtain⟨r,ents,clock,h1,h2,h3,h4,h5⟩:=ho;cases hm with
        |mp _ _ hv _=>
        rw[h1]at hv;cases hv;rw[Hu hvk2]at hk;obtain⟨rfl,hko⟩:=KY hk;obtain⟨i0,zv,hinfo,hz1,hz2⟩:=pB hz;have:=HO hz2.symm;subst this;have hfk:=ji (w:=w) hvk hko Q4 es ents.toList h4 h5.1;have hown:(hp id).owns=Q3:=by rw[hes];rfl
        have hesz:ents.size=es.length:=by have:=congrArg List.length h4;simpa using this
        have hwrs:∀id' o',(id',o')∈[(id,AO.vmap Q4 (jC es v))]->id'∈fp:=by
         intro id' o' h';simp only[gp,cv]at h';rw[h'.1];exact hid
        have hix:cJ .i64 (kZ es v:Int):=by
         have:=NP es v;unfold cJ;exact⟨by show(-9223372036854775808:Int)<=_;omega,by show _<=(9223372036854775807:Int);omega⟩
        cases hfi:ck es v 0 with
        | none=>
         rw[hfi]at hfk;obtain⟨e1,e2,_⟩:=kX hfi;have e3:=(wK (es:=es) (k:=v) (i:=0)).1 hfi;have hvent:jC es v=es++[(v,0)]:=by simp[jC,e1]
         refine⟨.tuple #[.int .i64 0,goInt clock],{w with heap:=w.heap.setIfInBounds r (.map (ents.push {key:=dG v,val:=.int .i64 0,born:=clock}) (clock+1))},?_,?_,hwrs⟩
         ·simp[Instr.mapEntry,bA ht,kk h3,cY hvk,hfk,wM _ h3,Result.andThen,zeroValue,typeInfo,hinfo,hz1]
         ·refine Ef.setMap h1 h2 h3 hown ?_ hub ?_
          ·refine⟨r,_,_,h1,h2,(Ap h3).1,?_,?_,h5.2.push _ _⟩
           ·rw[hvent];simp only[Array.toList_push,iI,h4,jp,List.map_nil];rfl
           ·rw[hvent];intro p hp;rcases cP.1 hp with hp|hp
            ·exact h5.1 p hp
            ·simp at hp;subst hp;exact⟨(show cJ .i64 0 by unfold cJ;decide),hko⟩
          ·rw[e2];have hc:goInt clock=.int .i64 (kZ es v:Int):=by rw[e3,h5.2.1,hesz];rfl
           rw[hc];exact qH (.int _ _ (by unfold cJ;decide)) (.int _ _ hix)
        | some q=>
         obtain⟨j,m⟩:=q;rw[hfi]at hfk;obtain⟨_,e1,e2,⟨p,hpj,hpk,hpn⟩,_⟩:=kY hfi;have e3:=(wK (es:=es) (k:=v) (i:=0)).2 j m hfi;rw[ft]at e3;rw[Nat.sub_zero]at hpj;have hvent:jC es v=es:=by simp[jC,e1]
         have hent:∃e,ents.toList[j]?=Q1 e/\e.key=dG v:=by
          have:(ents.toList.map λe=>(e.key,e.val))[j]?=Q1 (dG p.1,tf Q4 p.2):=by
           rw[h4];simp[hpj]
          rw[fa,ef]at this;obtain⟨e,he1,he2⟩:=this;simp only[cv]at he2;exact⟨e,he1,by rw[he2.1,hpk]⟩
         obtain⟨e,he1,he2⟩:=hent;have he3:ents[j]?=Q1 e:=by rw[<-rc];exact he1
         have hst:(Instr.keyThatStays (dG v) (dG v)).run P w=.ok (dG v) w:=by
          simp[Instr.keyThatStays,rC]
         refine⟨.tuple #[.int .i64 m,goInt e.born],{w with heap:=w.heap.setIfInBounds r (.map (ents.modify j λe=>{e with key:=dG v}) clock)},?_,?_,hwrs⟩
         ·simp[Instr.mapEntry,bA ht,kk h3,cY hvk,hfk,he3,he2,hst,wM _ h3,Result.andThen,tf]
         ·refine Ef.setMap h1 h2 h3 hown ?_ hub ?_
          ·refine⟨r,_,_,h1,h2,(Ap h3).1,?_,by rw[hvent];exact h5.1,h5.2.modify _ _ (λ_=>rfl)⟩;rw[hvent];apply Ao;grind
          ·rw[e2];have hc:goInt e.born=.int .i64 (kZ es v:Int):=by rw[h5.2.2 j e he3,e3];rfl
           rw[hc];have hm:cJ .i64 m:=by rw[<-hpn];exact(h5.1 p (oy hpj)).1
           exact qH (.int _ _ hm) (.int _ _ hix)
       ·cases h
      ·simp at h
     ·simp at h
    ·simp at h
   ·simp at h
  ·simp at h
 ·simp at h
theorem sL:∀(es:List ((Int×Int×zB)×Int))(n:Nat)(x:Int)(p:(Int×Int×zB)×Int),es[n]?=Q1 p->jL es n x=es.set n (p.1,x)
 |[],_,_,_,h=>by simp at h
 |q::r,0,x,p,h=>by simp at h;subst h;rfl
 | q::r,n+1,x,p,h=>by
  rw[jL,sL r n x p (by simpa using h)];rfl
theorem xK{n:Nat}{hp:Nat->AO}{t:TypeId}{am as_ ax:AV}{vm vs vx:Value}{f:fP}{fp:List Nat}(h:(mY hp am as_ ax).val=Q1 f)
  (hm:Rv w U ρ am vm) (hs:Rv w U ρ as_ vs) (hx:Rv w U ρ ax vx) (hub:∀b,U b->b<w.heap.size) (hfp:Fl w U ρ hp fp) (hin:∀id∈am.ids,id∈fp):
  ∃w',(Instr.entryStore t vm vs vx).run P w=.ok () w'/\Ef n hp f w U ρ undef w' U ρ/\∀id o,(id,o)∈f.wr->id∈fp:=by
 unfold mY at h;split at h
 ·rename_i id nn yy;have hid:=hin id (by simp[AV.ids]);have ho:=hfp.ob id hid;split at h
  ·rename_i es hes;simp only[Tr.val]at h;split at h
   ·rename_i hinb;obtain⟨hb0,hb1⟩:=lv.1 hinb;simp only[bz]at h;subst h;rw[hes]at ho;obtain⟨r,ents,clock,h1,h2,h3,h4,h5⟩:=ho;cases hm with
    |mp _ _ hv _=>
    rw[h1]at hv;cases hv;cases hs;cases hx with
    |int _ _ hy=>
    have hown:(hp id).owns=Q3:=by rw[hes];rfl
    have hesz:ents.size=es.length:=by have:=congrArg List.length h4;simpa using this
    have hlt:nn.toNat<ents.size:=by omega
    have hfi:ents.findIdx? (λe=>(e.born:Int)==nn)=Q1 nn.toNat:=by
     rw[Array.findIdx?_eq_some_iff_getElem];refine⟨hlt,?_,λj hj=>?_⟩
     ·have:=h5.2.2 nn.toNat ents[nn.toNat] (sS hlt);grind
     ·have:=h5.2.2 j (ents[j]'ow) (sS ow);grind
    obtain⟨p,hp⟩:∃p,es[nn.toNat]?=Q1 p:=⟨es[nn.toNat]'ow,zS ow⟩;refine⟨{w with heap:=w.heap.setIfInBounds r (.map (ents.modify nn.toNat λe=>{e with val:=.int .i64 yy}) clock)},?_,?_,?_⟩
    ·simp[Instr.entryStore,kk h3,asInt,asIntOf,hfi,wM _ h3,Result.andThen]
    ·refine Ef.setMap h1 h2 h3 hown ?_ hub (.tup [] [] rfl sw);refine⟨r,_,_,h1,h2,(Ap h3).1,?_,?_,h5.2.modify _ _ (λ_=>rfl)⟩
     ·rw[sL es _ yy p hp];apply Ao;intro q;have h4q:(ents.toList.map λe=>(e.key,e.val))[q]?=(AN Q4 es)[q]?:=by rw[h4]
      simp only[fa,rc,sO,wQ,AN]at h4q⊢;by_cases hq:nn.toNat=q
      ·subst hq;have hjl:nn.toNat<es.length:=by omega
       rw[sS hlt,hp]at h4q;simp only[DJ,bz,cv]at h4q;simp[sS hlt,hjl,h4q.1,tf]
      simp_all
     ·rw[sL es _ yy p hp];grind
    simp_all
   ·cases h
  ·simp at h
 ·simp at h
theorem Ef.frz{n:Nat}{hp:Nat->AO}{ids:List Nat}{r:AV}{v:Value}(hub:∀b,U b->b<w.heap.size)(hvf:∀j∈ids,ol (hp j)=Q3)
  (hob:∀j∈ids,bx w U ρ j (hp j)) (hval:Rv w (λb=>U b/\¬∃j∈ids,ag ρ j (hp j) b) ρ r v):
  Ef n hp {val:=r,wr:=fX hp ids} w U ρ v w (λb=>U b/\¬∃j∈ids,ag ρ j (hp j) b) ρ:=by
 generalize hU':(λb=>U b/\¬∃j∈ids,ag ρ j (hp j) b)=U' at hval⊢;have hsub:∀b,U' b->U b:=λb h=>by rw[<-hU']at h;exact h.1
 have hfz:∀j∈ids,∀b,ag ρ j (hp j) b->¬U' b:=λj hj b ho h=>by grind
 have noOwn:∀id o b,(id,o)∈fX hp ids->ag ρ id o b->False:=by
  intro id o b h ho;obtain⟨hin',rfl⟩:=dd h;rw[ag,oT (hvf id hin')]at ho;simp at ho
 refine⟨lG.refl w,hval,?_,sw,λ_ _=>rfl,λ_ _ h=>h,λ_ _ _=>rfl,λb' h=>hub b' (hsub b' h),λb' _ h=>hsub b' h,?_,?_,?_⟩
 ·intro id o h;obtain⟨hin',rfl⟩:=dd h;exact pS (hob id hin') (hvf id hin') hsub (hfz id hin')
 ·intro b' _ h hn;rw[<-hU'];exact⟨h,λ⟨j,hj,ho⟩=>hn j _ (pT hj) ho⟩
 ·simp_all
 simp_all
theorem Iu{n:Nat}{hp:Nat->AO}{t:TypeId}{ax:AV}{vx:Value}{lo hi mx:Option AV}{vlo vhi vmx:Option Value}{f:fP}{fp:List Nat}(h:(A3 P hp t ax lo hi mx).val=Q1 f)
  (hx:Rv w U ρ ax vx) (rlo:∀a v,lo=Q1 a->vlo=Q1 v->Rv w U ρ a v) (rhi:∀a v,hi=Q1 a->vhi=Q1 v->Rv w U ρ a v)
  (rmx:∀a v,mx=Q1 a->vmx=Q1 v->Rv w U ρ a v) (slo:lo.isSome=vlo.isSome) (shi:hi.isSome=vhi.isSome) (smx:mx.isSome=vmx.isSome)
  (hub:∀b,U b->b<w.heap.size) (hfp:Fl w U ρ hp fp) (hin:∀id∈ax.ids,id∈fp):
  ∃v U',(Instr.sliceAt t vx vlo vhi vmx).run P w=.ok v w/\Ef n hp f w U ρ v w U' ρ/\∀id o,(id,o)∈f.wr->id∈fp:=by
 unfold A3 at h;split at h
 ·rename_i id;have hid:=hin id (by simp[AV.ids]);have ho:=hfp.ob id hid;split at h
  ·rename_i e l hes;simp only[Tr.val_bind,fQ]at h;obtain⟨f0,h0,h1⟩:=h;simp only[Tr.val_ok,bz]at h1;subst h1;have hsub:∀b,(U b/\¬∃j∈[id],ag ρ j (hp j) b)->U b:=λb hb=>hb.1
   have hsl:Rv w (λb=>U b/\¬∃j∈[id],ag ρ j (hp j) b) ρ (.sl e l) vx:=
    xU (hp:=hp) (e:=e) (c:=.vec id) (by simp[vd,hes]) hx hsub (λj hj=>by simp[cH]at hj;subst hj;exact ho)
     (λj hj b hb hU=>by simp[cH]at hj;simp_all)
   obtain⟨r,x,rfl,hrun,hr⟩:=sb (w:=w) (U:=λb=>U b/\¬∃j∈[id],ag ρ j (hp j) b) (ρ:=ρ) (vlo:=vlo) (vhi:=vhi) (vmx:=vmx) h0 hsl
    (λa v ha hv=>(rlo a v ha hv).weak hsub) (λa v ha hv=>(rhi a v ha hv).weak hsub) (λa v ha hv=>(rmx a v ha hv).weak hsub) slo shi smx
   refine⟨x,_,hrun,Ef.frz hub (by simp[hes,ol]) (by simp;exact ho) hr,λid' o' h'=>?_⟩;obtain⟨h2,_⟩:=dd h';simp at h2;rw[h2];exact hid
  ·rename_i e l hes;rw[hes]at ho;obtain⟨v',hv',hrv⟩:=ho;cases hx with
   |vec _ _ hv _=>
   rw[hv]at hv';cases hv';obtain⟨r,x,rfl,hrun,hr⟩:=sb (w:=w) (U:=U) (ρ:=ρ) (vlo:=vlo) (vhi:=vhi) (vmx:=vmx) h hrv rlo rhi rmx slo shi smx;exact⟨x,U,hrun,Ef.pure hub hr,sw⟩
  ·simp at h
 ·obtain⟨r,x,rfl,hrun,hr⟩:=sb (w:=w) (U:=U) (ρ:=ρ) (vlo:=vlo) (vhi:=vhi) (vmx:=vmx) h hx rlo rhi rmx slo shi smx;exact⟨x,U,hrun,Ef.pure hub hr,sw⟩
end
end Cad
