/- Maps from values to slices. -/
import Derived.Test.YtjdjldbhjmgmkaaGreatDoorS22
namespace Cad
open Go Go.Proofs
open List renaming length→Io
open IntKind renaming wrap→Γ,i64→Δ
open Tr renaming val→Q8
open Bool renaming false→Q4,true→Q3
open Option renaming none→Q2,some→Q1
open Decidable renaming decide→Q0
open List (getD)
open Tr (chk br re)
open AV (nils agg tup ptr kb str sl)
set_option maxHeartbeats 4000000
noncomputable section
def ll(c0:Nat)(ents:Array MapEntry)(clock:Nat):Prop:=clock=c0+ents.size/\∀(i:Nat)(e:MapEntry),ents[i]?=Q1 e->e.born=c0+i
variable {ents:Array MapEntry}{clock:Nat}
theorem ll.push{c0:Nat}(h:ll c0 ents clock)(k v:Value):ll c0 (ents.push {key:=k,val:=v,born:=clock}) (clock+1):=by
 refine⟨by have:=h.1;simp;omega,λi e b=>?_⟩;rw[Array.getElem?_push]at b;split at b
 next d=>cases b;rw[d];exact h.1
 .exact h.2 i e b
theorem ll.modify{c0:Nat}(h:ll c0 ents clock)(j:Nat)(f:MapEntry->MapEntry)(g:∀e,(f e).born=e.born):ll c0 (ents.modify j f) clock:=by
 refine⟨by have:=h.1;simp;omega,λi e b=>?_⟩;rw[pP]at b;split at b
 .cases d:ents[i]? with
  |none=>rw[d]at b;simp at b
  | some e0=>
   rw[d]at b;simp at b;subst b;rw[g];exact h.2 i e0 d
 .exact h.2 i e b
def Fz(es:List (K3×Value))(k:K3):List (K3×Value):=match eE es k 0 with
 |some _=>es
 |none=>es++[(k,.slice Q2 0 0)]
section
variable {P:Program} {w:World} {kt:TypeId} {k:K3}
variable {mt et:TypeId} {r:Nat} {ents:Array MapEntry} {clock c0:Nat} {es:List (K3×Value)}
theorem Nm(M:P.underlying mt=Q1 (.map kt et))(A:gJ P kt=Q3){i:TypeInfo}(O:P.info? et=Q1 i)(W:i.zero=Q1 (.slice Q2 0 0))(S:eB k)
  (F:w.heap[r]?=Q1 (.map ents clock)) (G:(ents.toList.map λe=>(e.key,e.val))=uO es) (T:∀p∈es,eB p.1) (H:ll c0 ents clock):
  ∃(h:Array MapEntry)(b n:Nat),(Instr.mapEntry mt (.map (Q1 r)) (cB k)).run P w=.ok (.tuple #[Dj es k,.int .i64 (c0+n:Nat)]) {w with heap:=w.heap.setIfInBounds r (.map h b)}/\
   (h.toList.map λe=>(e.key,e.val))=uO (Fz es k)/\ll c0 h b/\(Fz es k)[n]?=Q1 (k,Dj es k):=by
 have g:=mM (w:=w) A S es ents.toList G T;have L:ents.size=Io es:=by have:=congrArg Io G;simpa using this
 unfold Fz Dj;cases u:eE es k 0 with
 | none=>
  rw[u]at g;refine⟨ents.push {key:=cB k,val:=.slice Q2 0 0,born:=clock},clock+1,ents.size,?_,?_,H.push _ _,?_⟩
  .simp[Instr.mapEntry,bA M,gD F,bD A,g,mZ _ F,Result.andThen,zeroValue,typeInfo,O,W,H.1];rfl
  .simp_all
  .simp only[];rw[L,jg (ah _),Nat.sub_self];rfl
 | some q=>
  obtain⟨j,m⟩:=q;rw[u]at g;obtain⟨_,z,_⟩:=tM u;rw[Nat.sub_zero]at z;have D:∃e,ents.toList[j]?=Q1 e/\e.key=cB k:=by
   have:(ents.toList.map λe=>(e.key,e.val))[j]?=Q1 (cB k,m):=by
    rw[G];simp[z]
   rw[du,dt]at this;obtain⟨e,s,d⟩:=this;simp only[cd]at d;exact⟨e,s,d.1⟩
  obtain⟨e,s,d⟩:=D;have B:ents[j]?=Q1 e:=by rw[<-pl];exact s
  have I:=H.2 j e B;refine⟨ents.modify j λe=>{e with key:=cB k},clock,j,?_,?_,H.modify _ _ (λ_=>rfl),z⟩
  .have J:(Instr.keyThatStays (cB k) (cB k)).run P w=.ok (cB k) w:=by
    simp[Instr.keyThatStays,mN]
   simp[Instr.mapEntry,bA M,gD F,bD A,g,B,d,J,mZ _ F,Result.andThen,I];rfl
  .apply pm;intro q;have N:(ents.toList.map λe=>(e.key,e.val))[q]?=(uO es)[q]?:=by rw[G]
   grind
theorem Nn{n:Nat}{v v':Value}(z:w.heap[r]?=Q1 (.map ents clock))(A:(ents.toList.map λe=>(e.key,e.val))=uO es)(u:ll c0 ents clock)(B:es[n]?=Q1 (k,v)):
  ∃(h:Array MapEntry),(Instr.entryStore mt (.map (Q1 r)) (.int .i64 (c0+n:Nat)) v').run P w=.ok () {w with heap:=w.heap.setIfInBounds r (.map h clock)}/\
   (h.toList.map λe=>(e.key,e.val))=uO (es.set n (k,v'))/\ll c0 h clock:=by
 have F:ents.size=Io es:=by have:=congrArg Io A;simpa using this
 have d:n<ents.size:=by have:=(dc.1 B).1;omega
 have g:ents.findIdx? (λe=>(e.born:Int)==((c0+n:Nat):Int))=Q1 n:=by
  rw[Array.findIdx?_eq_some_iff_getElem];refine⟨d,?_,λj G=>?_⟩
  .have:=u.2 n ents[n] (pD d);simp[this]
  .have:=u.2 j (ents[j]'ow) (pD ow);simp[this];omega
 refine⟨ents.modify n λe=>{e with val:=v'},?_,?_,u.modify _ _ (λ_=>rfl)⟩
 .rw[pQ]at g;simp[Instr.entryStore,gD z,asInt,asIntOf,g,mZ _ z,Result.andThen]
 .apply pm;intro q;have b:(ents.toList.map λe=>(e.key,e.val))[q]?=(uO es)[q]?:=by rw[A]
  simp only[du,pl,pP,na]at b|-;by_cases D:n=q
  .subst D;have s:n<Io es:=by omega
   rw[pD d,B]at b;simp only[B3,bg,cd]at b;simp[pD d,s,b.1]
  .simp_all
end
section
variable {e:Sh} {w w':World} {U U':Nat->Prop} {ρ:Nat->Option Value} {v:Value} {l:List (Sem e)}
def fN(e:Sh)(w:World)(U:Nat->Prop)(v:Value)(l:List (Sem e)):Prop:=bl w U (λ_=>Q1 v) 0 (.vec e l)
variable {id:Nat}
theorem SS{ρ':Nat->Option Value}{id':Nat}(j:ρ id=Q1 v)(h:bl w U ρ id (.vec e l))(b:ρ' id'=Q1 v):bl w U ρ' id' (.vec e l):=by have:=h.ren' (ρ':=ρ') (f:=λi=>i) (id':=id') (λx d=>by rw[j]at d;cases d;exact b) (λi g=>by simp[AO.ids]at g);simpa[AO.ren]using this
theorem zmq(b:ρ id=Q1 v)(h:bl w U ρ id (.vec e l)):fN e w U v l:=SS b h rfl
theorem fN.to(h:fN e w U v l)(b:ρ id=Q1 v):bl w U ρ id (.vec e l):=SS rfl h b
theorem fN.one(h:fN e w U v l):v.oneCell'=Q3:=by obtain⟨a,c,h1,_⟩:=h;cases h1;rfl
theorem fN.blk(h:fN e w U v l){b:Nat}(d:bJ v=Q1 b):U b/\b<w.heap.size:=bl.inU h ⟨rfl,v,rfl,d⟩
theorem fN.mono(h:fN e w U v l)(s:w.heap.size<=w'.heap.size)(g:∀b,b<w.heap.size->¬U b->w'.heap[b]?=w.heap[b]?)(u:∀b,b<w.heap.size->U' b->U b)(j:∀b,bJ v=Q1 b->w'.heap[b]?=w.heap[b]?/\U' b):fN e w' U' v l:=
 bl.mono s g u (λ_ _ h=>h) h λb ⟨_,x,z,d⟩=>by cases z;exact j b d
theorem fN.rv(h:fN e w U v l)(s:∀b,U' b->U b)(j:∀b,bJ v=Q1 b->¬U' b):Rv w U' ρ (.sl e l) v:=by
 have h1:Rv w U' (λ_=>Q1 v) (.sl e l) v:=uy (U:=U) (hp:=λ_=>.vec e l) (c:=.vec 0) (by simp[tj]) (.vec 0 v rfl h.one) s (λid d=>by simp[cW]at d;subst d;exact h) λid _ b ⟨_,x,u,g⟩=>by
  cases u;exact j b g
 have:=h1.ren (ρ':=ρ) (f:=λi=>i) (by simp[AV.ids]);simpa[AV.ren]using this
theorem fN.nil:fN e w U (.slice Q2 0 0) []:=⟨Q2,0,rfl,by simp[aI],.inl ⟨rfl,rfl⟩⟩
structure sv (e:Sh) (w:World) (U:Nat->Prop) (r c0:Nat) (gs:List (K3×Value)) (es:List (K3×List (Sem e))):Prop where
 mp:∃(ents:Array MapEntry)(clock:Nat),w.heap[r]?=Q1 (.map ents clock)/\(ents.toList.map λe=>(e.key,e.val))=uO gs/\ll c0 ents clock
 keys:gs.map (·.1)=es.map (·.1)
 nd:(gs.map (·.1)).Nodup
 ok:∀p∈gs,eB p.1
 own:∀(j:Nat)(p:K3×Value)(q:K3×List (Sem e)),gs[j]?=Q1 p->es[j]?=Q1 q->fN e w U p.2 q.2
 apart:∀(i j:Nat)(p q:K3×Value)(b:Nat),gs[i]?=Q1 p->gs[j]?=Q1 q->bJ p.2=Q1 b->bJ q.2=Q1 b->i=j
 far:∀p∈gs,bJ p.2≠Q1 r
 ur:U r
def KM(r:Nat)(gs:List (K3×Value))(b:Nat):Prop:=b=r\/∃p∈gs,bJ p.2=Q1 b
def tw(es:List (K3×List (Sem e)))(k:K3):List (K3×List (Sem e)):=if k∈es.map (·.1)then es else es++[(k,[])]
variable {r c0:Nat} {gs:List (K3×Value)} {es:List (K3×List (Sem e))} {k:K3}
theorem TX:(∃q,eE gs k 0=Q1 q)↔k∈gs.map (·.1):=by
 cases h:eE gs k 0 with
 | none=>
  refine⟨λ⟨_,q⟩=>(by cases q),λb=>?_⟩;obtain⟨p,d,rfl⟩:=bh.1 b;exact zC rfl (Di h p d)
 | some q=>
  obtain⟨_,h2,_⟩:=tM h;exact⟨λ_=>bh.2 ⟨_,fF h2,rfl⟩,λ_=>⟨q,rfl⟩⟩
theorem Lr(b:gs.map (·.1)=es.map (·.1)):(k∈es.map (·.1)/\Fz gs k=gs/\tw es k=es)\/(k∉es.map (·.1)/\Fz gs k=gs++[(k,.slice Q2 0 0)]/\tw es k=es++[(k,[])]):=by
 have d:=TX (gs:=gs) (k:=k);unfold Fz tw;cases h:eE gs k 0 with
 | none=>
  have g:k∉es.map (·.1):=λq=>by
   rw[<-b]at q;obtain⟨x,j⟩:=d.2 q;rw[h]at j;cases j
  exact .inr ⟨g,rfl,zg g⟩
 | some q=>
  have s:k∈es.map (·.1):=by rw[<-b];exact d.1 ⟨q,h⟩
  exact .inl ⟨s,rfl,ze s⟩
theorem KM.ent{b:Nat}(d:gs.map (·.1)=es.map (·.1)):KM r (Fz gs k) b↔KM r gs b:=by
 unfold KM;rcases Lr (k:=k) d with⟨_,h,_⟩|⟨_,h,_⟩
 .rw[h]
 .rw[h];simp[bJ]
theorem sv.entry{P:Program}{mt kt et:TypeId}(G:sv e w U r c0 gs es)(O:eB k)(hm:P.underlying mt=Q1 (.map kt et))(H:gJ P kt=Q3){i:TypeInfo}(Z:P.info? et=Q1 i)(hz:i.zero=Q1 (.slice Q2 0 0)):
  ∃(g:Array MapEntry)(d n:Nat),(Instr.mapEntry mt (.map (Q1 r)) (cB k)).run P w=.ok (.tuple #[Dj gs k,.int .i64 (c0+n:Nat)]) {w with heap:=w.heap.setIfInBounds r (.map g d)}/\
   sv e {w with heap:=w.heap.setIfInBounds r (.map g d)} U r c0 (Fz gs k) (tw es k)/\(Fz gs k)[n]?=Q1 (k,Dj gs k):=by
 obtain⟨ents,clock,N,Y,hs⟩:=G.mp;obtain⟨g,d,n,h1,h2,T,W⟩:=Nm (w:=w) hm H Z hz O N Y G.ok hs;have z:=nf (o':=Obj.map g d) N
 have keep:∀{v:Value}{l:List (Sem e)},fN e w U v l->bJ v≠Q1 r->fN e {w with heap:=w.heap.setIfInBounds r (.map g d)} U v l:=λh hr=>
  h.mono sw (λb _ hu=>z.2 b λq=>hu (q▸G.ur)) (λ_ _ h=>h) λb u=>⟨z.2 b λq=>hr (q▸u),(h.blk u).1⟩
 refine⟨g,d,n,h1,⟨⟨g,d,z.1,h2,T⟩,?_,?_,?_,?_,?_,?_,G.ur⟩,W⟩
 all_goals rcases Lr (k:=k) G.keys with⟨B,I,J⟩|⟨B,I,J⟩
 all_goals rw[I]
 all_goals try rw[J]
 .exact G.keys
 .rw[eC,eC,G.keys];rfl
 .exact G.nd
 .rw[eC];refine List.nodup_append.2 ⟨G.nd,sw,λa X b u q=>B ?_⟩;have:b=k:=by simpa using u
  rw[<-this,<-q,<-G.keys];exact X
 .exact G.ok
 .intro p s;rcases cz.1 s with h|h
  .exact G.ok p h
  .obtain rfl:=dU.1 h;exact O
 .exact λj p q s A=>keep (G.own j p q s A) (G.far p (fF s))
 .intro j p q s A;have hl:Io gs=Io es:=by simpa using congrArg Io G.keys
  by_cases F:j<Io gs
  .rw[kG F]at s;rw[kG ow]at A;exact keep (G.own j p q s A) (G.far p (fF s))
  .have D:j-Io gs=0:=by
    rw[jg ow]at s;have:=(dc.1 s).1;simp at this;omega
   rw[jg ow,D]at s;rw[jg ow,<-hl,D]at A;cases s;cases A;exact fN.nil
 .exact G.apart
 .intro i j p q b s A L M;have S:∀(i:Nat)(p:K3×Value),(gs++[(k,Value.slice Q2 0 0)])[i]?=Q1 p->bJ p.2=Q1 b->gs[i]?=Q1 p:=λi p s u=>by
   by_cases F:i<Io gs
   .rwa [kG F]at s
   .rw[jg ow]at s;have:=fF s;obtain rfl:=dU.1 this;simp[bJ]at u
  exact G.apart i j p q b (S i p s L) (S j q A M) L M
 .exact G.far
 .intro p s;rcases cz.1 s with h|h
  .exact G.far p h
  .obtain rfl:=dU.1 h;simp[bJ]
end
section
variable {e:Sh} {w w':World} {U U':Nat->Prop} {ρ:Nat->Option Value} {v:Value} {l:List (Sem e)} {r c0:Nat} {gs:List (K3×Value)} {es:List (K3×List (Sem e))} {k:K3}
theorem Rn{ents h:Array MapEntry}{clock j:Nat}(d:w.heap[r]?=Q1 (.map ents clock)):kF w {w with heap:=w.heap.setIfInBounds r (.map h j)}:=by
 obtain⟨g,s⟩:=nf (o':=Obj.map h j) d;refine⟨sw,rfl,rfl,rfl,λa _=>?_⟩;by_cases b:a.block=r
 .unfold World.frozen?;simp only[b,g,d]
 .exact yI (s a.block b)
structure zjo (w:World) (U:Nat->Prop) (r:Nat) (gs:List (K3×Value)) (w':World) (U':Nat->Prop) (gs':List (K3×Value)):Prop where
 ext:kF w w'
 same:∀b,b<w.heap.size->¬KM r gs b->w'.heap[b]?=w.heap[b]?
 u1:∀b,b<w.heap.size->U' b->U b
 u2:∀b,b<w.heap.size->U b->¬KM r gs b->U' b
 ub:∀b,U' b->b<w'.heap.size
 new:∀b,KM r gs' b->KM r gs b\/w.heap.size<=b
theorem sv.inU(G:sv e w U r c0 gs es){b:Nat}(h:KM r gs b):U b/\b<w.heap.size:=by
 rcases h with rfl|⟨p,s,d⟩
 .obtain⟨_,_,h,_⟩:=G.mp;exact⟨G.ur,(mc.1 h).1⟩
 .obtain⟨j,g,rfl⟩:=fP s;have u:Io gs=Io es:=by simpa using congrArg Io G.keys
  exact(G.own j _ (es[j]'ow) (z6 g) (z6 ow)).blk d
variable {et:TypeId}{x:Sem e}
theorem sv.store{E:cg}(hE:EnvOk E){n:Nat}{L:TypeId}(G:sv e w U r c0 gs es)(I:gs[n]?=Q1 (k,v))(x1:es[n]?=Q1 (k,l))(Y:E.P.underlying et=Q1 (.slice L))(x9:E.sh L=Q1 e){vx:Value}(hx:Rv w U ρ (.sl e [x]) vx)(a0:∀b,U b->b<w.heap.size)(a2:Io l<=1000)(mt ty:TypeId):
  ∃F S w3 U3,(Builtin.append_ #[et,et] ty #[v,vx]).run E.P w=.ok F S/\(Instr.entryStore mt (.map (Q1 r)) (.int .i64 (c0+n:Nat)) F).run E.P S=.ok () w3/\
   sv e w3 U3 r c0 (gs.set n (k,F)) (es.set n (k,l++[x]))/\zjo w U r gs w3 U3 (gs.set n (k,F)):=by
 have hv:=G.own n _ _ I x1;have h7:=G.far _ (fF I);obtain⟨ents,clock,s,he,hs⟩:=G.mp;have X:r<w.heap.size:=(mc.1 s).1;have x3:bl w U (jJ (λ_=>Q2) 0 v) 0 (.vec e l):=hv.to (by simp[jJ]);have O:∀{b:Nat},af (jJ (λ_=>Q2) 0 v) 0 (.vec e l) b->bJ v=Q1 b:=λ⟨_,y,hy,s⟩=>by simp[jJ]at hy;subst hy;exact s
 have x7:(nu E (λid=>if id=0 then .vec e l else .dead) 1 L (.vec 0) (.sl e [x])).val=Q1 {val:=.vec 1,wr:=[(0,.dead)],nw:=[.vec e (l++[x])]}:=by
  have hd:Q0 (Io l+[x].length<=1073741824)=Q3:=by simp;omega
  simp only[nu,x9,zh,tj,dite_true,Q8,hd]
 obtain⟨F,S,U2,ρ2,x5,d,_⟩:=Ab hE (w:=w) (U:=U) (ρ:=jJ (λ_=>Q2) 0 v) (t:=et) (t':=et) (ty:=ty) (vb:=v) (vx:=vx) (fp:=[0]) x7 Y Y (.vec 0 v (by simp[jJ]) hv.one)
  (by have:=hx.ren (ρ':=jJ (λ_=>Q2) 0 v) (f:=λi=>i) (by simp[AV.ids]);simpa[AV.ren]using this) a0
  ⟨λid x0=>by simp at x0;subst x0;exact x3,λi hi j hj _ _ _=>by simp at hi hj;omega⟩ (by simp[AV.ids]) (by simp[AV.ids]) (by simp[jJ])
 have h0:ρ2 1=Q1 F:=by have:=d.val;cases this with|vec _ _ h _=>exact h
 have a1:fN e S U2 F (l++[x]):=zmq h0 (d.nw 0 _ rfl);have D:∀b,bJ v≠Q1 b->∀id o,(id,o)∈([(0,AO.dead)]:List (Nat×AO))->¬af (jJ (λ_=>Q2) 0 v) id (ite (id=0) (.vec e l) (.dead)) b:=λb s id o M ho=>by
  simp at M;obtain⟨rfl,_⟩:=M;exact s (O ho)
 have A:∀b,bJ F=Q1 b->w.heap.size<=b\/bJ v=Q1 b:=λb g=>by
  rcases d.own 1 (.vec e (l++[x])) b (.inr ⟨ah _,rfl⟩) ⟨rfl,F,h0,g⟩with h|⟨i,o,M,ho⟩
  .exact .inl h
  .simp at M;obtain⟨rfl,_⟩:=M;exact .inr (O ho)
 have h4:S.heap[r]?=Q1 (.map ents clock):=(d.same r X (D r h7)).trans s;have Z:U2 r:=d.u2 r X G.ur (D r h7);have a3:(uO gs)[n]?=Q1 (cB k,v):=by rw[du,I];rfl
 obtain⟨B,h1,h2,h3⟩:=Nn (P:=E.P) (mt:=mt) (w:=S) (v':=F) h4 he hs I;have H:=nf (o':=Obj.map B clock) h4;have x4:bJ F≠Q1 r:=λq=>(A r q).elim (λh=>by omega) h7
 have Mh:∀{v:Value}{l:List (Sem e)},fN e S U2 v l->bJ v≠Q1 r->fN e {S with heap:=S.heap.setIfInBounds r (.map B clock)} U2 v l:=λh hr=>
  h.mono sw (λb _ Y=>H.2 b λq=>Y (q▸Z)) (λ_ _ h=>h) λb g=>⟨H.2 b λq=>hr (q▸g),(h.blk g).1⟩
 have h9:∀{u:Value}{m:List (Sem e)},fN e w U u m->(∀b,bJ u=Q1 b->bJ v≠Q1 b)->fN e S U2 u m:=λh hd=>
  h.mono d.ext.sz (λb s Y=>d.same b s (D b λq=>Y (hv.blk q).1)) d.u1 λb g=>⟨d.same b (h.blk g).2 (D b (hd b g)),d.u2 b (h.blk g).2 (h.blk g).1 (D b (hd b g))⟩
 have hl:Io gs=Io es:=by simpa using congrArg Io G.keys
 have x8:=(dc.1 I).1;have T:∀{j:Nat}{p:K3×Value},(gs.set n (k,F))[j]?=Q1 p->(j=n/\p=(k,F))\/(j≠n/\gs[j]?=Q1 p):=λ{j p} z=>by
  rw[na]at z;split at z
  next q=>cases z;exact .inl ⟨q.symm,rfl⟩
  next q=>exact .inr ⟨λh=>q h.symm,z⟩
 have N:(gs.set n (k,F)).map (·.1)=gs.map (·.1):=by
  rw[List.map_set];apply pm;intro i;rw[na];split
  next q=>subst q;rw[du,I,ze (by simpa using x8)];rfl
  .rfl
 have W:(es.set n (k,l++[x])).map (·.1)=es.map (·.1):=by
  rw[List.map_set];apply pm;intro i;rw[na];split
  next q=>subst q;rw[du,x1,ze sg];rfl
  .rfl
 refine⟨F,S,_,U2,x5,h1,⟨⟨B,clock,H.1,h2,h3⟩,by rw[N,W];exact G.keys,by rw[N];exact G.nd,λp z=>?_,λj p q z J=>?_,λi j p q b z J h5 h6=>?_,λp z=>?_,Z⟩,?_⟩
 .rcases QF z with h|rfl
  .exact G.ok p h
  .exact G.ok (k,v) (fF I)
 .rcases T z with⟨rfl,rfl⟩|⟨hj,z⟩
  .rw[List.getElem?_set_self ow]at J;cases J;exact Mh a1 x4
  .rw[BW (λq=>hj q.symm)]at J;exact Mh (h9 (G.own j p q z J) λb h5 h6=>hj (G.apart j n p _ b z I h5 h6)) (G.far p (fF z))
 .have x6:∀{j:Nat}{p:K3×Value},gs[j]?=Q1 p->bJ p.2=Q1 b->b<w.heap.size:=λ{j p} z g=>(G.inU (.inr ⟨p,fF z,g⟩)).2
  rcases T z with⟨rfl,rfl⟩|⟨hi,h8⟩
  .rcases T J with⟨rfl,rfl⟩|⟨hj,J⟩
   .rfl
   .rcases A b h5 with h|h
    .have:=x6 J h6;omega
    .exact G.apart _ j _ q b I J h h6
  .rcases T J with⟨rfl,rfl⟩|⟨hj,J⟩
   .rcases A b h6 with h|h
    .have:=x6 h8 h5;omega
    .exact G.apart i _ p _ b h8 I h5 h
   .exact G.apart i j p q b h8 J h5 h6
 .rcases QF z with h|rfl
  .exact G.far p h
  .exact x4
 .have x2:∀b,¬KM r gs b->bJ v≠Q1 b:=λb s q=>s (.inr ⟨_,fF I,q⟩)
  refine⟨d.ext.trans (Rn h4),λb s hg=>(H.2 b λq=>hg (.inl q)).trans (d.same b s (D b (x2 b hg))),d.u1,λb s Y hg=>d.u2 b s Y (D b (x2 b hg)),λb s=>by have:=d.ub b s;simpa using this,λb s=>?_⟩;rcases s with rfl|⟨p,z,s⟩
  .exact .inl (.inl rfl)
  .rcases QF z with h|rfl
   .exact .inl (.inr ⟨p,h,s⟩)
   .exact(A b s).elim .inr λh=>.inl (.inr ⟨_,fF I,h⟩)
theorem sv.add{E:cg}(hE:EnvOk E){mt kt elem:TypeId}(G:sv e w U r c0 gs es)(hk:eB k)(hm:E.P.underlying mt=Q1 (.map kt et))(X:gJ E.P kt=Q3){i:TypeInfo}(hi:E.P.info? et=Q1 i)(hz:i.zero=Q1 (.slice Q2 0 0))(H:E.P.underlying et=Q1 (.slice elem))(T:E.sh elem=Q1 e)
   {Z:Value} (hx:Rv w U ρ (.sl e [x]) Z) (W:∀b,U b->b<w.heap.size) (z:∀q∈es,Io q.2<=1000) (ty:TypeId):
  ∃v s w1 O S I J F n l,(Instr.mapEntry mt (.map (Q1 r)) (cB k)).run E.P w=.ok (.tuple #[v,s]) w1/\(Builtin.append_ #[et,et] ty #[v,Z]).run E.P w1=.ok O S/\(Instr.entryStore mt (.map (Q1 r)) s O).run E.P S=.ok () I/\
   (tw es k)[n]?=Q1 (k,l)/\sv e I J r c0 F ((tw es k).set n (k,l++[x]))/\zjo w U r gs I J F:=by
 obtain⟨g,d,n,h1,G1,hn⟩:=G.entry (P:=E.P) hk hm X hi hz;obtain⟨ents,clock,M,_⟩:=G.mp;have A:=nf (o':=Obj.map g d) M;obtain⟨l,B⟩:∃l,(tw es k)[n]?=Q1 (k,l):=by
  have e1:((tw es k).map (·.1))[n]?=Q1 k:=by rw[<-G1.keys,du,hn];rfl
  rw[du,dt]at e1;obtain⟨⟨k',l⟩,h,rfl⟩:=e1;exact⟨l,h⟩
 have hl:Io l<=1000:=by
  have:=fF B;unfold tw at this;split at this
  .exact z _ this
  .rcases cz.1 this with h|h
   .exact z _ h
   .have:=dU.1 h;cases this;exact aM _
 have Y:Rv {w with heap:=w.heap.setIfInBounds r (.map g d)} U ρ (.sl e [x]) Z:=hx.mono sw (λb _ H=>A.2 b λq=>H (q▸G.ur)) (λ_ _ h=>h) λ_ _ h=>h
 obtain⟨O,S,I,J,h2,h3,G3,L⟩:=G1.store hE hn B H T Y (λb M=>by have:=W b M;simpa using this) hl mt ty;have D:∀b,KM r (Fz gs k) b↔KM r gs b:=λb=>KM.ent G.keys
 have u:({w with heap:=w.heap.setIfInBounds r (.map g d)}:World).heap.size=w.heap.size:=by simp
 refine⟨_,_,_,O,S,I,J,_,n,l,h1,h2,h3,B,G3,⟨(Rn M).trans L.ext,λb j N=>(L.same b (by rw[u];exact j) (λq=>N ((D b).1 q))).trans (A.2 b λq=>N (.inl q)),λb j=>L.u1 b (by rw[u];exact j),λb j H N=>L.u2 b (by rw[u];exact j) H (λq=>N ((D b).1 q)),L.ub,λb j=>?_⟩⟩;rcases L.new b j with h|h
 .exact .inl ((D b).1 h)
 .rw[u]at h;exact .inr h
end
def ul(E:cg)(C:eA)(fn:FuncId)(todo:List Item)(I:Act->World->Prop)(Q:AV->List AO->Prop):Prop:=
 ∀(b:Frame)(cs:List Frame)(a:Act)(w:World),b.fn=fn->b.kind=.normal->I a w->∃e w' h,Tb E C Q e w'/\Comes E.P (lone (b.at a todo) cs w) (lone h cs w') e/\h.fn=fn/\h.leaving E.P w' e
section
variable {E:cg} {C:eA} {fn:FuncId} {Q:AV->List AO->Prop} {todo k:List Item} {st:St} {c:Code}
variable {I:Act->World->Prop}
theorem ul.of(h:Reach E C fn todo st Q)(g:∀a w,I a w->∃U ρ,Cn C st a w U ρ/\Wd E.gl C w U):ul E C fn todo I Q:=λb cs a w h1 h2 d=>by
 obtain⟨U,ρ,s,j⟩:=g a w d;exact h b cs a w U ρ h1 h2 s j
theorem ul.reach(h:ul E C fn todo I Q)(d:∀a w U ρ,Cn C st a w U ρ->Wd E.gl C w U->I a w):Reach E C fn todo st Q:=λb cs a w U ρ h1 h2 j g=>h b cs a w h1 h2 (d a w U ρ j g)
theorem ul.round{u:Act->World->Prop}(h:ul E C fn (.code c::.inLoop c::k) u Q)(B:∀a w,I a w->c.wp E.P (λe g w'=>e=.normal/\u g w') a w):ul E C fn (.code c::.inLoop c::k) I Q:=by intro b cs a w h1 h2 A;obtain⟨e,g,w',⟨rfl,j⟩,d⟩:=B a w A b (.inLoop c::k) cs;obtain⟨e,s,z,D,F,G⟩:=h b cs g w' h1 h2 j;exact⟨e,s,z,D,lp d (lp (.one step_inLoop) F),G⟩
theorem ul.rounds(n:Nat)(I:Nat->Act->World->Prop)(s:∀i,i<n->∀a w,I i a w->c.wp E.P (λe d w'=>e=.normal/\I (i+1) d w') a w)(h:ul E C fn (.code c::.inLoop c::k) (I n) Q):ul E C fn (.code c::.inLoop c::k) (I 0) Q:=by
 have b:∀j,j<=n->ul E C fn (.code c::.inLoop c::k) (I (n-j)) Q:=by
  intro j
  induction j with
  |zero=>exact λ_=>h
  | succ j u=>
   intro z;refine(u ow).round λa w g=>?_
   have:=s (n-(j+1)) ow a w g
   rwa [show n-(j+1)+1=n-j by omega]at this
 have:=b n (ah _)
 rwa [Nat.sub_self]at this
end
section
variable {gl:Nat->AV} {C:eA} {a:Act} {w:World} {U:Nat->Prop} {ρ:Nat->Option Value} {e:Sh} {m r c0:Nat} {gs:List (K3×Value)} {es:List (K3×List (Sem e))} {tm:List AV} {h1 h2:List AO}
structure jM (C:eA) (e:Sh) (tm:List AV) (h1 h2:List AO) (a:Act) (w:World) (U:Nat->Prop) (ρ:Nat->Option Value) (r c0:Nat) (gs:List (K3×Value)) (es:List (K3×List (Sem e))):Prop where
 cn:Cn C ⟨tm,h1++.dead::h2⟩ a w U ρ
 at_:ρ (Io h1)=Q1 (.map (Q1 r))
 gr:sv e w U r c0 gs es
 far:∀id b,af ρ id ((⟨tm,h1++.dead::h2⟩:St).hp id) b->¬KM r gs b
 rb:C.B0 r\/C.w0.heap.size<=r
 nb:∀p∈gs,∀b,bJ p.2=Q1 b->C.w0.heap.size<=b
theorem vg(o:AO)(id:Nat):(⟨tm,h1++o::h2⟩:St).hp id=if id=Io h1 then o else(⟨tm,h1++.dead::h2⟩:St).hp id:=by
 show(h1++o::h2).getD id .dead=if id=Io h1 then o else(h1++.dead::h2).getD id .dead
 rw[aY,aY];split
 next h=>subst h;rw[jg (ah _),Nat.sub_self];rfl
 .rename_i h;by_cases b:id<Io h1
  .rw[kG b,kG b]
  .rw[jg ow,jg ow];obtain⟨d,g⟩:∃d,id-Io h1=d+1:=⟨id-Io h1-1,ow⟩;rw[g];rfl
theorem zcZ(g:Cn C ⟨tm,h1++.gmap e []::h2⟩ a w U ρ):∃r c0,jM C e tm h1 h2 a w U ρ r c0 [] []:=by
 have A:=g.hp.ob (Io h1);rw[vg,ze rfl]at A;obtain⟨r,ents,clock,gs,B,J,L,O,M,N,S⟩:=A;have z:gs=[]:=by simpa using N
 subst z;have H:ents=#[]:=by simpa using M
 subst H;have s:af ρ (Io h1) ((⟨tm,h1++.gmap e []::h2⟩:St).hp (Io h1)) r:=by
  rw[vg,ze rfl];exact⟨rfl,_,B,rfl⟩
 have u:∀id b,af ρ id ((⟨tm,h1++.dead::h2⟩:St).hp id) b->id≠Io h1/\af ρ id ((⟨tm,h1++.gmap e []::h2⟩:St).hp id) b:=λid b h=>by
  by_cases d:id=Io h1
  .rw[vg,ze d]at h;cases h.1
  .refine⟨d,?_⟩;rw[vg,zg d];exact h
 refine⟨r,clock,⟨⟨g.tm,⟨λid=>?_,λi j b F G=>g.hp.inj i j b (u i b F).2 (u j b G).2,λid b h=>g.hp.blk id b (u id b h).2⟩,λid d=>g.new id (by simpa using d),g.df,g.r0⟩,B,⟨⟨#[],clock,L,sw,⟨sw,sw⟩⟩,rfl,sw,sw,sw,sw,sw,J⟩,λid b h D=>?_,g.hp.blk _ _ s,sw⟩⟩
 .rw[vg];split
  .trivial
  .rename_i d;have:=g.hp.ob id
   rwa [vg,zg d]at this
 .rcases D with rfl|⟨p,I,_⟩
  .exact(u id _ h).1 (g.hp.inj id (Io h1) _ (u id _ h).2 s)
  .cases I
theorem T3(h:jM C e tm h1 h2 a w U ρ r c0 gs es)(F:Wd gl C w U):∃U',Cn C ⟨tm,h1++.gmap e es::h2⟩ a w U' ρ/\Wd gl C w U':=by
 refine⟨λb=>U b/\¬∃p∈gs,bJ p.2=Q1 b,⟨?_,⟨λid=>?_,λi j b W N=>?_,λid b u=>?_⟩,λid d=>h.cn.new id (by simpa using d),h.cn.df,h.cn.r0⟩,⟨F.ext,F.same,λb s=>F.ub b s.1,λb s G=>F.u1 b s G.1,λb s G T=>⟨F.u2 b s G T,λ⟨p,B,L⟩=>by have:=h.nb p B b L;omega⟩,λg=>(F.gl g).weak λ_ h=>h.1⟩⟩
 .exact⟨h.cn.tm.len,λj c v J A=>(h.cn.tm.rv j c v J A).weak λ_ h=>h.1⟩
 .rw[vg];split
  next d=>subst d;obtain⟨ents,clock,O,S,Y⟩:=h.gr.mp;refine⟨r,ents,clock,gs,h.at_,⟨h.gr.ur,λ⟨p,B,s⟩=>h.gr.far p B s⟩,O,⟨by simpa using(congrArg Io h.gr.keys).symm,λj c v J A=>?_⟩,S,h.gr.keys,h.gr.ok⟩;rw[du,dt]at J A;obtain⟨q,X,rfl⟩:=J;obtain⟨p,B,rfl⟩:=A;exact(h.gr.own j p q B X).rv (λ_ h=>h.1) λb s G=>G.2 ⟨p,fF B,s⟩
  next d=>refine(h.cn.hp.ob id).mono (ah _) (λ_ _ _=>rfl) (λ_ _ h=>h.1) (λ_ _ h=>h) λb u=>⟨rfl,(bl.inU (h.cn.hp.ob id) u).1,λ⟨p,B,s⟩=>h.far id b u (.inr ⟨p,B,s⟩)⟩
 .have z:∀id b,af ρ id ((⟨tm,h1++.gmap e es::h2⟩:St).hp id) b->(id=Io h1/\b=r)\/(id≠Io h1/\af ρ id ((⟨tm,h1++.dead::h2⟩:St).hp id) b):=λid b u=>by
   rw[vg]at u;split at u
   next d=>obtain⟨_,v,A,s⟩:=u;rw[d,h.at_]at A;cases A;cases s;exact .inl ⟨d,rfl⟩
   next d=>exact .inr ⟨d,u⟩
  rcases z i b W with⟨M,H⟩|⟨M,H⟩
  .rcases z j b N with⟨I,D⟩|⟨I,D⟩
   .rw[M,I]
   .exact zC (.inl H) (h.far j b D)
  .rcases z j b N with⟨I,D⟩|⟨I,D⟩
   .exact zC (.inl D) (h.far i b H)
   .exact h.cn.hp.inj i j b H D
 .rw[vg]at u;split at u
  next d=>obtain⟨_,v,A,s⟩:=u;rw[d,h.at_]at A;cases A;cases s;exact h.rb
  .exact h.cn.hp.blk id b u
variable {w':World}{U':Nat->Prop}
theorem sv.keep(G:sv e w U r c0 gs es)(B:w.heap.size<=w'.heap.size)(z:∀b,b<w.heap.size->¬U b->w'.heap[b]?=w.heap[b]?)(D:∀b,b<w.heap.size->U' b->U b)(h:∀b,KM r gs b->w'.heap[b]?=w.heap[b]?/\U' b):sv e w' U' r c0 gs es:=by refine⟨?_,G.keys,G.nd,G.ok,λj p q d A=>(G.own j p q d A).mono B z D λb u=>h b (.inr ⟨p,fF d,u⟩),G.apart,G.far,(h r (.inl rfl)).2⟩;obtain⟨ents,clock,g,s⟩:=G.mp;exact⟨ents,clock,(h r (.inl rfl)).1.trans g,s⟩
variable {tm':List AV}
theorem jM.keep{d:Act}{u:Nat->Option Value}(h:jM C e tm h1 h2 a w U ρ r c0 gs es)(B:Cn C ⟨tm',h1++.dead::h2⟩ d w' U' u)(j:uo w U ρ (⟨tm,h1++.dead::h2⟩:St).hp w' U' u (⟨tm',h1++.dead::h2⟩:St).hp):jM C e tm' h1 h2 d w' U' u r c0 gs es:=by
 have z:∀b,KM r gs b->∀id,¬af ρ id ((⟨tm,h1++.dead::h2⟩:St).hp id) b:=λb g id s=>h.far id b s g
 refine⟨B,j.rho _ _ h.at_,h.gr.keep j.ext.sz (λb A G=>j.same b A λid s=>G (bl.inU (h.cn.hp.ob id) s).1) j.u1 (λb g=>⟨j.same b (h.gr.inU g).2 (z b g),j.u2 b (h.gr.inU g).2 (h.gr.inU g).1 (z b g)⟩),λid b s g=>?_,h.rb,h.nb⟩;rcases j.own id b s with⟨i,D⟩|F
 .exact h.far i b D g
 .have:=(h.gr.inU g).2;omega
theorem jM.left{s:List (K3×Value)}{D:List (K3×List (Sem e))}(h:jM C e tm h1 h2 a w U ρ r c0 gs es)(A:Wd gl C w U)(L:zjo w U r gs w' U' s)(G:sv e w' U' r c0 s D):jM C e tm h1 h2 a w' U' ρ r c0 s D/\Wd gl C w' U':=by
 have M:∀b,b<w.heap.size->¬U b->w'.heap[b]?=w.heap[b]?:=λb d H=>L.same b d λF=>H (h.gr.inU F).1
 have I:∀b,b<C.w0.heap.size->¬C.B0 b->¬KM r gs b:=λb d u F=>by
  rcases F with rfl|⟨p,J,z⟩
  .exact h.rb.elim u λq=>by omega
  .have:=h.nb p J b z;omega
 have W:=A.ext.sz
 refine⟨⟨⟨⟨h.cn.tm.len,λj c v T X=>(h.cn.tm.rv j c v T X).mono L.ext.sz M L.u1 λ_ _ h=>h⟩,⟨λid=>(h.cn.hp.ob id).mono L.ext.sz M L.u1 (λ_ _ h=>h) λb B=>?_,h.cn.hp.inj,h.cn.hp.blk⟩,h.cn.new,h.cn.df,h.cn.r0⟩,h.at_,G,λid b B F=>?_,h.rb,λp J b d=>?_⟩,
  ⟨A.ext.trans L.ext,λb d u=>(L.same b ow (I b d u)).trans (A.same b d u),L.ub,λb d H=>A.u1 b d (L.u1 b ow H),λb d H u=>L.u2 b ow (A.u2 b d H u) (I b d u),λg=>(A.gl g).mono L.ext.sz M L.u1 λ_ _ h=>h⟩⟩
 .obtain⟨S,O⟩:=bl.inU (h.cn.hp.ob id) B;exact⟨L.same b O (h.far id b B),L.u2 b O S (h.far id b B)⟩
 .obtain⟨S,O⟩:=bl.inU (h.cn.hp.ob id) B;rcases L.new b F with q|q
  .exact h.far id b B q
  .omega
 .rcases L.new b (.inr ⟨p,J,d⟩)with(q|⟨Y,N,z⟩)|q
  .exact zC (q▸d) (G.far p J)
  .exact h.nb Y N b z
  .omega
theorem jM.slots{d:Act}(h:jM C e tm h1 h2 a w U ρ r c0 gs es)(g:dg w U ρ tm' d.tmps.toList)(b:d.defers=[]):jM C e tm' h1 h2 d w U ρ r c0 gs es:=⟨⟨g,h.cn.hp,h.cn.new,b,h.cn.r0⟩,h.at_,h.gr,h.far,h.rb,h.nb⟩
def sT(ks:List Nat)(l:List AV):List AV:=l.mapIdx λi c=>if ks.contains i then c else .any
theorem IZ{ks:List Nat}{l:List AV}{g:List Value}(h:dg w U ρ l g):dg w U ρ (sT ks l) g:=⟨by unfold sT;rw[List.length_mapIdx];exact h.len,λj c v b u=>by
 unfold sT at b;rw[List.getElem?_mapIdx,dt]at b;obtain⟨s,d,rfl⟩:=b;split
 .exact h.rv j s v d u
 .exact .any _⟩
end
section
variable {E:cg} {C:eA} {a:Act} {w:World} {U:Nat->Prop} {ρ:Nat->Option Value} {e:Sh} {r c0:Nat} {gs:List (K3×Value)} {es:List (K3×List (Sem e))} {tm tm':List AV} {h1 h2:List AO} {cs:List Bool}
theorem HU{α:Type}{t:Tr α}{s:α}(h:t.leaf=Q1 s)(d:t.asks=cs)(b:cs.all id=Q3):t.val=Q1 s:=Tr.val_leaf h (by rw[d];exact b)
theorem jM.region(D:zw E){id:Nat}{ops:List Oper}(ks:List Nat)(h:jM C e tm h1 h2 a w U ρ r c0 gs es)(G:Wd E.gl C w U)
  (B:(jp E ops Q4 ⟨tm,h1++.dead::h2⟩).leaf.map (λs=>(sT ks s.tmps,s.heap))=Q1 (tm',h1++.dead::h2)) (I:(jp E ops Q4 ⟨tm,h1++.dead::h2⟩).asks=cs) (H:cs.all _root_.id=Q3):
  (Code.region id ops.toArray Q4).wp E.P (λz u w'=>z=.normal/\∃U' j,jM C e tm' h1 h2 u w' U' j r c0 gs es/\Wd E.gl C w' U') a w:=by rw[dt]at B;obtain⟨s,J,A⟩:=B;obtain⟨st,sh⟩:=s;simp only[cd]at A;obtain⟨rfl,rfl⟩:=A;have L:=HU J I H;refine wp_mono (Nj (id:=id) (draw:=Q4) (ops:=ops.toArray) D (by simpa using L) h.cn G) ?_;rintro z u w' ⟨rfl,U',j,g,d,F⟩;have b:=h.keep g F;exact⟨rfl,U',j,b.slots (IZ b.cn.tm) b.cn.df,d⟩
variable {Q:Exit->Act->World->Prop}
theorem jM.ops(F:zw E){id:Nat}{b d:List Oper}(ks:List Nat)(h:jM C e tm h1 h2 a w U ρ r c0 gs es)(I:Wd E.gl C w U)
  (D:(bU E (b++d) b {tmps:=tm,heap:=h1++.dead::h2}).leaf.map (λs=>(sT ks s.tmps,s.heap))=Q1 (tm',h1++.dead::h2)) (L:(bU E (b++d) b {tmps:=tm,heap:=h1++.dead::h2}).asks=cs) (J:cs.all _root_.id=Q3)
  (H:∀g w' U' A,jM C e tm' h1 h2 g w' U' A r c0 gs es->Wd E.gl C w' U'->wpOps E.P (b++d).toArray Q (List.range' (Io b) (Io d)) g w'):(Code.region id (b++d).toArray Q4).wp E.P Q a w:=by rw[dt]at D;obtain⟨s,M,B⟩:=D;have N:=HU M L J;obtain⟨st,sh,O,T,S⟩:=s;simp only[cd]at B;obtain⟨rfl,rfl⟩:=B;refine wp_region (zdF F N h.cn.toR I λg w' U' A z u G=>?_);have j:=h.keep (tm':=st) z.out G;exact H g w' U' A (j.slots (IZ j.cn.tm) j.cn.df) u
variable {P:Program}{b:Array Oper}{v:Value}{w':World}
theorem sq{k m:Nat}{o:Oper}(g:b[k]?=Q1 o)(d:o.guard=Q2)(j:(execOp a.eval o).run P w=.ok (.value v) w')(h:wpOps P b Q (List.range' (k+1) m) (a.put o.dst v) w'):wpOps P b Q (List.range' k (m+1)) a w:=by rw[List.range'_succ];simp only[wpOps,g,Region.wanted,d,zh];exact .inl (eW j h)
theorem Qs{k m:Nat}{o:Oper}(g:b[k]?=Q1 o)(d:o.guard=Q2)(j:(execOp a.eval o).run P w=.ok .skip w')(h:wpOps P b Q (List.range' (k+1) m) (a.put o.dst undef) w'):wpOps P b Q (List.range' k (m+1)) a w:=by rw[List.range'_succ];simp only[wpOps,g,Region.wanted,d,zh];exact .inl (qU j h)
section
variable {P:Program} {w':World} {f:Operand->Value} {o:Oper} {v x y:Value} {t t':TypeId} {m k p q:Operand}
theorem Fy(h1:o.op=.mapEntry t m k)(b:f m=x)(d:f k=y)(h:(Instr.mapEntry t x y).run P w=.ok v w'):(execOp f o).run P w=.ok (.value v) w':=by subst b d;simp[execOp,h1,h]
theorem AL{z:Value}(h1:o.op=.entryStore t m k p)(b:f m=x)(d:f k=y)(g:f p=z)(h:(Instr.entryStore t x y z).run P w=.ok () w'):(execOp f o).run P w=.ok .skip w':=by subst b d g;simp[execOp,h1,h]
theorem uW{b:Array Value}{i:Nat}(h1:o.op=.extract m i)(d:f m=.tuple b)(h:b[i]?=Q1 v):(execOp f o).run P w=.ok (.value v) w:=by simp[execOp,h1,d,Instr.extract,h]
theorem LR(h1:o.op=.call {callee:=.builtin .append,args:=#[p,q],argTypes:=#[t,t']})(b:f p=x)(d:f q=y)(h:(Builtin.append_ #[t,t'] o.type #[x,y]).run P w=.ok v w'):(execOp f o).run P w=.ok (.value v) w':=by subst b d;simp[execOp,h1,resolve,invoke,builtin,h]
end
theorem jQ{a:Act}{d t:Nat}(h:d<a.tmps.size):(a.put (Q1 d) v).eval (.tmp t)=if t=d then v else a.eval (.tmp t):=by
 simp only[Act.eval,Act.put];rw[pC,pC];split
 next e=>subst e;simp[h]
 next e=>rw[Array.getElem?_setIfInBounds_ne (λq=>e q.symm)]
theorem EM{a:Act}{d:Option Nat}:(a.put d v).tmps.size=a.tmps.size:=by cases d<;>simp[Act.put]
theorem dg.slot{l:List AV}(h:dg w U ρ l a.tmps.toList)(t:Nat):Rv w U ρ (l.getD t .any) (a.eval (.tmp t)):=by
 show Rv w U ρ _ (a.tmps.getD t undef);by_cases b:t<Io l
 .have d:t<a.tmps.toList.length:=by rw[<-h.len];exact b
  refine h.rv t _ _ (by simp_all) ?_;simp_all
 .rw[aY,eZ ow];exact .any _
end
def kz(l:List K3):List K3:=l.foldl (λh a=>if a∈h then h else h++[a]) []
theorem rA(l:List K3)(a:K3):kz (l++[a])=if a∈kz l then kz l else kz l++[a]:=by unfold kz;rw[List.foldl_append];rfl
theorem xL(Φ:List K3->List K3->Prop)(j:Φ [] [])(h1:∀l a,Φ l (kz l)->Φ (l++[a]) (kz (l++[a]))):∀l,Φ l (kz l):=by
 have g:∀(n:Nat)(l:List K3),Io l=n->Φ l (kz l):=by
  intro n
  induction n with
  |zero=>intro l d;rw[List.length_eq_zero_iff.1 d];exact j
  | succ n s=>
   intro l d;obtain⟨h,b,rfl⟩:∃h b,l=h++[b]:=⟨l.dropLast,l.getLast (List.ne_nil_of_length_pos ow),(List.dropLast_concat_getLast _).symm⟩;exact h1 h b (s h (by simpa using d))
 exact λl=>g _ l rfl
theorem Hb(a:K3)(l:List K3):a∈kz l↔a∈l:=
 xL (λl u=>a∈u↔a∈l) Iff.rfl (λl b g=>by
  rw[rA];split
  .rename_i h;rw[g,cz,dU];exact⟨.inl,λq=>q.elim id λe=>e▸(xL (λl u=>∀x∈u,x∈l) (λ_ h=>h) (λl c h x d=>by
    rw[rA]at d;split at d
    .exact List.mem_append_left _ (h x d)
    .rcases cz.1 d with q|q
     .exact List.mem_append_left _ (h x q)
     .exact List.mem_append_right _ q) l) b h⟩
  .rw[cz,cz,g]) l
theorem Ap(l:List K3):(kz l).Nodup:=
 xL (λ_ u=>u.Nodup) List.nodup_nil (λl b d=>by
  rw[rA];split
  .exact d
  .rename_i h;refine List.nodup_append.2 ⟨d,sw,λx g y j e=>h ?_⟩;have:y=b:=by simpa using j
   rw[<-this,<-e];exact g) l
def dv(at_:Int)(rows:List zt):List (K3×List zt):=(kz (rows.map λrow=>zS at_ row)).map λk=>(k,rows.filter λrow=>k==zS at_ row)
section
variable {at_:Int} {rows:List (List (Sem zf))} {row:List (Sem zf)}
theorem Ag:(dv at_ rows).map (·.1)=kz (rows.map λrow=>zS at_ row):=by unfold dv;rw[nh];exact List.map_id _
theorem L7{n:Nat}{l:List zt}(z:(tw (e:=.sl zf) (dv at_ rows) (zS at_ row))[n]?=Q1 (zS at_ row,l)):
  (tw (e:=.sl zf) (dv at_ rows) (zS at_ row)).set n (zS at_ row,l++[row])=dv at_ (rows++[row]):=by
 have b:tw (e:=.sl zf) (dv at_ rows) (zS at_ row)=(kz ((rows++[row]).map λrow=>zS at_ row)).map λk=>(k,rows.filter λrow=>k==zS at_ row):=by
  unfold tw;rw[Ag,eC,dC,pU,rA];split
  .rfl
  .rename_i h;rw[eC];have:(rows.filter λr=>zS at_ row==zS at_ r)=[]:=List.filter_eq_nil_iff.2 λr F u=>h ((Hb _ _).2 (bh.2 ⟨r,F,(bF u).symm⟩))
   rw[dC,pU,this];rfl
 have d:=Ap ((rows++[row]).map λrow=>zS at_ row);rw[b]at z|-;unfold dv;generalize kz ((rows++[row]).map λrow=>zS at_ row)=ks at z d|-;apply pm;intro j;rw[du,dt]at z;obtain⟨k,A,u⟩:=z;simp only[cd]at u;obtain⟨rfl,rfl⟩:=u;have s:=(dc.1 A).1;rw[du,na];split
 next q=>subst q;rw[A,ze (by simpa using s)];simp
 .rename_i q;rw[du];cases D:ks[j]? with
  |none=>rfl
  | some G=>
   have B:(G==zS at_ row)=Q4:=by
    rw[dB];intro e;subst e;have h1:=(dc.1 D).1;refine q ?_;exact(List.getElem_inj (h₀:=s) (h₁:=h1) d).1 (by rw[(dc.1 A).2,(dc.1 D).2])
   have g:=dB.1 B;simpa[List.filter_append]using g
theorem O1(k:K3):kI (e:=.sl zf) (dv at_ rows) k=rows.filter λrow=>k==zS at_ row:=by
 have b:∀ks:List K3,(k∈ks->kI (e:=.sl zf) (ks.map λk=>(k,rows.filter λrow=>k==zS at_ row)) k=(rows.filter λrow=>k==zS at_ row))/\(k∉ks->kI (e:=.sl zf) (ks.map λk=>(k,rows.filter λrow=>k==zS at_ row)) k=[]):=by
  intro ks
  induction ks with
  |nil=>exact⟨λh=>(by cases h),λ_=>rfl⟩
  | cons a r d=>
   have e:kI (e:=.sl zf) ((a::r).map λk=>(k,rows.filter λrow=>k==zS at_ row)) k=bif k==a then rows.filter λrow=>a==zS at_ row else kI (e:=.sl zf) (r.map λk=>(k,rows.filter λrow=>k==zS at_ row)) k:=rfl
   rw[e];by_cases h:k=a
   .subst h;simp
   .have g:(k==a)=Q4:=by simpa using h
    rw[g,ax];exact⟨λq=>d.1 (by simpa[h]using q),λq=>d.2 λw=>q (jN _ w)⟩
 unfold dv;by_cases h:k∈kz (rows.map λrow=>zS at_ row)
 .exact(b _).1 h
 .rw[(b _).2 h];exact(List.filter_eq_nil_iff.2 λr s j=>h ((Hb _ _).2 (bh.2 ⟨r,s,(bF j).symm⟩))).symm
theorem Rs{e:Sh}{es:List (K3×List (Sem e))}(g:(es.map (·.1)).Nodup) (u k:K3):kI (me es u) k=if k=u then[]else kI es k:=by
 induction es with
 |nil=>split<;>rfl
 | cons p r B=>
  rw[dC,List.nodup_cons]at g;have b:∀{s:List (K3×List (Sem e))},p.1∉s.map (·.1)->kI s p.1=[]:=by
   intro s
   induction s with
   |nil=>exact λ_=>rfl
   | cons q s j=>
    intro h;rw[dC,b8,not_or]at h;have:(p.1==q.1)=Q4:=by simpa using h.1
    show(cond (p.1==q.1) q.2 (kI s p.1))=[];rw[this,ax];exact j h.2
  show kI (cond (u==p.1) r (p::me r u)) k=_;by_cases h:u=p.1
  .subst h;rw[beq_self_eq_true,aw];split
   next q=>subst q;exact b g.1
   .rename_i q;have:(k==p.1)=Q4:=by simpa using q
    show _=bif k==p.1 then p.2 else kI r k
    rw[this,ax]
  .have z:(u==p.1)=Q4:=by simpa using h
   rw[z,ax];show(cond (k==p.1) p.2 (kI (me r u) k))=if k=u then[]else bif k==p.1 then p.2 else kI r k
   rw[B g.2];cases A:k==p.1 with
   |false=>rfl
   | true=>
    have:k=p.1:=bF A;have d:¬k=u:=λq=>h (q.symm.trans this)
    simp only[zg d,aw]
theorem Ga{e:Sh}{es:List (K3×List (Sem e))}(h:(es.map (·.1)).Nodup) (u:K3):((me es u).map (·.1)).Nodup:=h.sublist ((Dg u es).map _)
theorem vd:((dv at_ rows).map (·.1)).Nodup:=by rw[Ag];exact Ap _
end
set_option maxRecDepth 100000
def Dt:Code:=match Tryz.f13.body with
 |some (.seq _ (.seq _ (.seq _ (.seq _ (.seq _ (.seq (.seq _ (.block _ (.loop c))) _))))))=>c
 |_=>.skip
def Nh:Code->List Oper
 |.region _ h _=>h.toList
 |_=>[]
def zl5:List (List Oper):=match Dt with
 |.seq a (.seq _ (.seq (.block _ (.seq b c)) d))=>[Nh a,Nh b,(Nh c).take 7,(Nh c).drop 7,Nh d]
 |_=>[]
def U8(i:Nat):List Oper:=zl5.getD i []
theorem Uf:Dt=.seq (.region 7 (U8 0).toArray Q4) (.seq (.cond (.tmp 37) .skip (.exit 0)) (.seq (.block 1 (.seq (.region 8 (U8 1).toArray Q4) (.region 9 (U8 2++U8 3).toArray Q4))) (.region 10 (U8 4).toArray Q4))):=kw
theorem ztA:(U8 3).map (λo=>(o.dst,o.op,o.guard.isNone,o.type))=[(Q1 48,.mapEntry 91 (.tmp 40) (.tmp 44),Q3,0),(Q1 45,.extract (.tmp 48) 0,Q3,36),(Q1 49,.call {callee:=.builtin .append,args:=#[.tmp 45,.tmp 47],argTypes:=#[36,36]},Q3,36),(Q1 50,.extract (.tmp 48) 1,Q3,3),(Q2,.entryStore 91 (.tmp 40) (.tmp 50) (.tmp 49),Q3,0)]:=kw
theorem zkr:∃k,ab Tryz.f13 7=.code Dt::.inLoop Dt::k:=⟨(ab Tryz.f13 7).drop 2,kw⟩
abbrev tmB(l2:zt)(b:zq)(d:List (Sem zf.sl))(n i:Int)(h:List (Nat×AV)):List AV:=tm 86 ([(2,sl zf l2),(3,ptr 0 0),(6,ptr 1 0),(9,ptr 2 0),(10,ai b),(11,AV.mp 3),(34,sl zf.sl d),(35,ai n),(36,ai i)]++h)
abbrev hpB(z0:zo [CP.d aq])(z1:zo uL)(z2:zo uJ):List AO:=[AO.box (bI [] [CP.d aq] z0),AO.box (bI [] uL z1),AO.box (bI [] uJ z2)]
abbrev U6:List Nat:=[2,3,6,9,10,11,34,35,36]
section
variable {C:eA} {a:Act} {w:World} {U:Nat->Prop} {ρ:Nat->Option Value} {r c0:Nat} {gs:List (K3×Value)} {l2:List (Sem zf)} {at':Int} {rows:List (List (Sem zf))} {z0:zo [CP.d aq]} {z1:zo uL} {z2:zo uJ} {n i:Int}
theorem zr5{α:Type}:∀l:List α,Io l=5->∃a b c d e,l=[a,b,c,d,e]
 |[a,b,c,d,e],_=>⟨a,b,c,d,e,rfl⟩
theorem zmi{es:List (K3×List zt)}{k:K3}{row:zt}{tm':List AV}{Q:Exit->Act->World->Prop}(h:jM C zf.sl tm' (hpB z0 z1 z2) [] a w U ρ r c0 gs es)(hW:Wd fy.gl C w U)
  (B:tm'.getD 40 .any=.mp 3/\tm'.getD 44 .any=kav k/\tm'.getD 47 .any=.sl zf.sl [row]/\Io tm'=86) (T:∀q∈es,Io q.2<=1000)
  (hQ:∀a' w' U' F j l,jM C zf.sl (sT U6 tm') (hpB z0 z1 z2) [] a' w' U' ρ r c0 F ((tw (e:=zf.sl) es k).set j (k,l++[row]))->(tw (e:=zf.sl) es k)[j]?=Q1 (k,l)->Wd fy.gl C w' U'->Q .normal a' w') (hk:∀x∈[48,45,49,50],¬x∈U6):
  wpOps fy.P (U8 2++U8 3).toArray Q (List.range' (U8 2).length (U8 3).length) a w:=by
 obtain⟨t1,t2,t3,t4⟩:=B;have H:=h.cn.tm.slot 40;have Z:=h.cn.tm.slot 44;have h0:=h.cn.tm.slot 47;rw[t1]at H;rw[t2]at Z;rw[t3]at h0;obtain⟨x0,x2⟩:=xJ Z;have S:a.eval (.tmp 40)=.map (Q1 r):=by
  generalize a.eval (.tmp 40)=v at H;cases H with
  | mp _ _ hv _=>
   have:=h.at_;rw[show(hpB z0 z1 z2).length=3 from rfl,hv]at this;cases this;rfl
 have hz:(Tryz.prog.info? 36).map (λi=>i.zero)=Q1 (Q1 (.slice Q2 0 0)):=by kernel_rfl
 rw[dt]at hz;obtain⟨x6,hi,hz⟩:=hz;obtain⟨v,s,w1,J,w2,w3,U3,F,j,l,q1,q2,q3,q4,G3,L⟩:=h.gr.add (E:=fy) (mt:=91) (kt:=30) (et:=36) (elem:=39) fV.toEnvOk x2 kw kw hi hz kw kw (x:=row) h0 hW.ub T 36;obtain⟨h3,x1⟩:=h.left hW L G3;have hs:=ztA;have x4:a.tmps.size=86:=by have:=h.cn.tm.len;simpa[t4]using this.symm
 generalize U8 3=h4 at hs|-;generalize U8 2=D;have x3:Io h4=5:=by simpa using congrArg Io hs
 obtain⟨o1,o2,o3,o4,o5,rfl⟩:=zr5 h4 x3;simp only[dC,pU,yL,cd,Option.isNone_iff_eq_none,and_true]at hs;obtain⟨⟨d1,p1,g1,_⟩,⟨d2,p2,g2,_⟩,⟨d3,p3,g3,y3⟩,⟨d4,p4,g4,_⟩,⟨d5,p5,g5,_⟩⟩:=hs;have b:∀j,(D++[o1,o2,o3,o4,o5]).toArray[Io D+j]?=[o1,o2,o3,o4,o5][j]?:=λj=>by
  rw[QH,jg ow,Nat.add_sub_cancel_left]
 generalize(D++[o1,o2,o3,o4,o5]).toArray=x7 at b|-;generalize(Io D)=N at b|-;have I:(a.put (Q1 48) (.tuple #[v,s])).eval (.tmp 48)=.tuple #[v,s]:=by rw[jQ ow,ze rfl]
 have h8:(a.put (Q1 48) (.tuple #[v,s])).tmps.size=86:=by rw[EM,x4]
 generalize g:a.put (Q1 48) (.tuple #[v,s])=M at I h8;have W:∀t,t≠48->M.eval (.tmp t)=a.eval (.tmp t):=λt B=>by rw[<-g,jQ ow,zg B]
 have h9:(M.put (Q1 45) v).tmps.size=86:=by rw[EM,h8]
 have h5:(M.put (Q1 45) v).eval (.tmp 45)=v:=by rw[jQ ow,ze rfl]
 generalize u:M.put (Q1 45) v=O at h5 h9;have G:∀t,t≠45->O.eval (.tmp t)=M.eval (.tmp t):=λt B=>by rw[<-u,jQ ow,zg B]
 have x5:(O.put (Q1 49) J).tmps.size=86:=by rw[EM,h9]
 have h6:(O.put (Q1 49) J).eval (.tmp 49)=J:=by rw[jQ ow,ze rfl]
 generalize z:O.put (Q1 49) J=a3 at h6 x5;have X:∀t,t≠49->a3.eval (.tmp t)=O.eval (.tmp t):=λt B=>by rw[<-z,jQ ow,zg B]
 have h7:(a3.put (Q1 50) s).eval (.tmp 50)=s:=by rw[jQ ow,ze rfl]
 generalize A:a3.put (Q1 50) s=a4 at h7;have Y:∀t,t≠50->a4.eval (.tmp t)=a3.eval (.tmp t):=λt B=>by rw[<-A,jQ ow,zg B]
 refine sq (v:=.tuple #[v,s]) (w':=w1) (b 0) g1 (Fy p1 S x0 q1) ?_;rw[d1,g];refine sq (v:=v) (w':=w1) (b 1) g2 (uW p2 I rfl) ?_;rw[d2,u];refine sq (v:=J) (w':=w2) (b 2) g3 (LR p3 h5 (by rw[G 47 (by decide),W 47 (by decide)]) (by rw[y3];exact q2)) ?_;rw[d3,z];refine sq (v:=s) (w':=w2) (b 3) g4 (uW p4 (by rw[X 48 (by decide),G 48 (by decide)];exact I) rfl) ?_;rw[d4,A];refine Qs (w':=w3) (b 4) g5 (AL p5 (by rw[Y 40 (by decide),X 40 (by decide),G 40 (by decide),W 40 (by decide)];exact S) h7 (by rw[Y 49 (by decide)];exact h6) q3) ?_;rw[d5];refine hQ _ w3 U3 F j l (h3.slots ?_ (by rw[<-A,<-z,<-u,<-g];exact h3.cn.df)) q4 x1;have f1:=mw (d:=Q1 48) h3.cn.tm (.any (.tuple #[v,s]));have f2:=mw (d:=Q1 45) f1 (.any v);have f3:=mw (d:=Q1 49) f2 (.any J);have f4:=IZ (ks:=U6) (mw (d:=Q1 50) f3 (.any s));have e:sT U6 (mf (mf (mf (mf tm' (Q1 48) .any) (Q1 45) .any) (Q1 49) .any) (Q1 50) .any)=sT U6 tm':=by
  unfold sT mf;apply pm;intro j;simp only[List.getElem?_mapIdx];cases hb:U6.contains j with
  | true=>
   have hj:j∈U6:=by simpa using hb
   have ne:∀x∈[48,45,49,50],x≠j:=λx hx e=>hk x hx (e▸hj)
   rw[BW (ne 50 sw),BW (ne 49 sw),BW (ne 45 sw),BW (ne 48 sw)]
  | false=>
   by_cases hj:j<Io tm'<;>simp[hj]
 rw[e,g,u,z,A]at f4;exact f4
theorem zdV(hn:n=(Io rows:Int)){i:Nat}(g:i<Io rows)(hl:Io rows<=1000)(B:∀row∈rows,zK at' (Io row)=Q3)(h:jM C zf.sl (tmB l2 at' rows n (i:Int) []) (hpB z0 z1 z2) [] a w U ρ r c0 gs (dv at' (rows.take i)))(Y:Wd fy.gl C w U):
  Dt.wp fy.P (λe N w'=>e=.normal/\∃U' ρ' r c0 A,jM C zf.sl (tmB l2 at' rows n ((i+1:Nat):Int) []) (hpB z0 z1 z2) [] N w' U' ρ' r c0 A (dv at' (rows.take (i+1)))/\Wd fy.gl C w' U') a w:=by
 obtain⟨row,d⟩:∃row,getD rows (i:Int).toNat (zi zf.sl)=row:=⟨_,rfl⟩;have b:rows[i]=row:=by rw[<-d,zX _ _ g]
 rw[Uf];refine wp_seq (wp_mono (jM.region fV (U6++[37]) (tm':=tmB l2 at' rows n (i:Int) [(37,AV.bool (Q0 ((i:Int)<n)))]) (cs:=[]) h Y kw kw rfl) ?_);rintro e u w1 ⟨rfl,G,ρ1,h1,W⟩;have z:u.eval (.tmp 37)=.bool Q3:=by
  have D:Rv w1 G ρ1 (AV.bool (Q0 ((i:Int)<n))) (u.eval (.tmp 37)):=h1.cn.tm.slot 37;rw[hn,zI g]at D;generalize u.eval (.tmp 37)=v at D;cases D;rfl
 refine wp_seq (wp_cond_true z (wp_skip ?_));refine wp_seq (wp_block (wp_seq (wp_mono (jM.region fV (U6++[13]) (tm':=tmB l2 at' rows n (i:Int) [(13,sl zf (getD rows (i:Int).toNat (zi zf.sl)))]) (cs:=[zK (i:Int) (Io rows)]) h1 W kw kw (by rw[zx g];rfl)) ?_)));rintro e a2 w2 ⟨rfl,U2,ρ2,h2,I⟩;rw[d]at h2;refine jM.ops fV (U6++[40,44,47]) (tm':=tmB l2 at' rows n (i:Int) [(40,.mp 3),(44,kav (zS at' row)),(47,.sl zf.sl [row])]) (cs:=[zK at' (Io row)]) h2 I kw kw (by rw[B row (b▸bp g)];rfl) λa3 w3 U3 ρ3 X J=>?_
 refine zmi (k:=zS at' row) (row:=row) X J ⟨rfl,rfl,rfl,rfl⟩ (λq hq=>?_) (λa4 w4 U4 T j l s Z L=>?_) (by decide)
 .obtain⟨x,_,rfl⟩:=bh.1 hq;exact aT (List.length_filter_le _ _) sg
 .rw[L7 Z]at s;have O:rows.take i++[row]=rows.take (i+1):=by rw[bv g,b]
  rw[O]at s;have S:sT U6 (tmB l2 at' rows n (i:Int) [(40,.mp 3),(44,kav (zS at' row)),(47,.sl zf.sl [row])])=tmB l2 at' rows n (i:Int) []:=by kernel_rfl
  rw[S]at s;refine wp_mono (jM.region fV U6 (tm':=tmB l2 at' rows n (Γ Δ ((i:Int)+1)) []) (cs:=[]) s L kw kw rfl) ?_;rintro e a5 w5 ⟨rfl,H,ρ5,F,M⟩;rw[zu i um]at F;exact⟨rfl,H,ρ5,_,_,_,F,M⟩
end
section
variable {C:eA} {l2:List (Sem zf)} {at':Int} {rows:List (List (Sem zf))} {z0:zo [CP.d aq]} {z1:zo uL} {z2:zo uJ} {Q:AV->List AO->Prop}
theorem zdR(A:Io rows<=1000)(s:∀row∈rows,zK at' (Io row)=Q3)(h:Reach fy C 13 (ab Tryz.f13 7) (Tx (.h7 l2 at' rows (Io rows) (Io rows) z0 z1 z2 (dv at' rows))).2 Q):
  Reach fy C 13 (ab Tryz.f13 7) (Tx (.h7 l2 at' rows (Io rows) 0 z0 z1 z2 [])).2 Q:=by
 obtain⟨k,z⟩:=zkr;rw[z]at h|-;refine ul.reach (ul.rounds (Io rows) (λi a w=>∃U ρ r c0 gs,jM C zf.sl (tmB l2 at' rows (Io rows) (i:Int) []) (hpB z0 z1 z2) [] a w U ρ r c0 gs (dv at' (rows.take i))/\Wd fy.gl C w U) (λi u a w ⟨U,ρ,r,c0,gs,b,d⟩=>zdV rfl u A s b d) (ul.of h λa w ⟨U,ρ,r,c0,gs,b,d⟩=>?_)) λa w U ρ j d=>?_
 .rw[fQ]at b;obtain⟨U',j,g⟩:=T3 b d;exact⟨U',ρ,j,g⟩
 .obtain⟨r,c0,b⟩:=zcZ (e:=zf.sl) (h1:=hpB z0 z1 z2) (h2:=[]) j;exact⟨U,ρ,r,c0,[],b,d⟩
end
def FB(h:ar)(b:Sem zk.sl)(d:Sem zf.sl):Tr (H0⊕au):=(T4 h b d).bind λs=>match s with
 |.inl (.h7 l2 at' l n i z0 z1 z2 [])=>chk (i==0&&(n==(Io l:Int)&&(Q0 (Io l<=1000)&&l.all λrow:zt=>zK at' (Io row)))) (.ok (.inl (.h7 l2 at' l n n z0 z1 z2 (dv at' l))))
 |.inl (.h7 ..)=>.err
 |s=>.ok s
def ki(h:ar)(b:Sem zk.sl)(d:Sem zf.sl):=an [zk,zj,zj] Ka 100000000 (FB h b d)
def N7(h:ar)(b:Sem zk.sl)(d:Sem zf.sl):=(ki h b d).isSome
def VO(h:ar)(b:Sem zk.sl)(d:Sem zf.sl):=o3 (ki h b d)
def zmX:=FT [aq,zk.sl,zf.sl] [zk,zj,zj] λx=>ki x.1 x.2.1 x.2.2.1
theorem zhI:FK 13 zmX:=by
 refine aL (E:=fy) (f:=Tryz.f13) (bL kw) λx I C G=>?_
 obtain⟨g,j,z,u⟩:=x;have H:zM fy.P 13 Tryz.f13 3:=bL kw;have D:∀x,run fy 0 zgN Tryz.f13.results.toList 400 (bq Tryz.f13) (aW Tryz.f13.ntmps (iY [Q1 aq,Q1 zk.sl,Q1 zf.sl] x) [])=(T4 x.1 x.2.1 x.2.2.1).map (lf Tryz.f13 Tx):=by intro x;kernel_rfl
 have B:∀s,run fy 0 zgN Tryz.f13.results.toList 400 (ab Tryz.f13 (Tx s).1) (Tx s).2=(Ka s).map (lf Tryz.f13 Tx):=by intro s;cases s<;>kernel_rfl
 have I:(ki g j z).isSome=Q3:=I;obtain⟨y,b⟩:=Option.isSome_iff_exists.1 I;show Reach fy C 13 _ _ (λr h=>aU h [zk,zj,zj] r=Q1 ((ki g j z).getD (cA [zk,zj,zj])));rw[b];show Reach fy C 13 _ _ (λr h=>aU h [zk,zj,zj] r=Q1 y);have A:(FB g j z).val=(T4 g j z).val->Reach fy C 13 (bq Tryz.f13) (aW Tryz.f13.ntmps (iY [Q1 aq,Q1 zk.sl,Q1 zf.sl] (g,j,z,u)) []) (λr h=>aU h [zk,zj,zj] r=Q1 y):=λe=>by
  refine JO (n:=100000000) fV H (λid _=>G id) (D (g,j,z,u)) B ?_;unfold ki an bY at b;unfold an bY;rw[e]at b;exact b
 cases d:(T4 g j z).val with
 | none=>
  unfold ki an bY FB at b;rw[Tr.val_bind,d]at b;cases b
 | some s=>
  match s,d with
  |.inr r,d=>exact A (by unfold FB;rw[Tr.val_bind,d];rfl)
  |.inl (.h15 ..),d=>exact A (by unfold FB;rw[Tr.val_bind,d];rfl)
  | .inl (.h7 l2 at' l n i z0 z1 z2 (p::es)),d=>
   unfold ki an bY FB at b;rw[Tr.val_bind,d]at b;cases b
  | .inl (.h7 l2 at' l n i z0 z1 z2 []),d=>
   have e:(FB g j z).val=(chk (i==0&&(n==(Io l:Int)&&(Q0 (Io l<=1000)&&l.all λrow:zt=>zK at' (Io row)))) (.ok (.inl (.h7 l2 at' l n n z0 z1 z2 (dv at' l)))):Tr (H0⊕au)).val:=by
    unfold FB;rw[Tr.val_bind,d];rfl
   unfold ki an bY at b;rw[e]at b;cases F:(i==0&&(n==(Io l:Int)&&(Q0 (Io l<=1000)&&l.all λrow:zt=>zK at' (Io row))))with
   |false=>rw[F]at b;cases b
   | true=>
    rw[F]at b;simp only[aE,bd,aQ,dQ]at F;obtain⟨rfl,rfl,J,L⟩:=F;refine Es fV H (λid _=>G id) (D (g,j,z,u)) d (zdR J L ?_);exact JO (n:=99999999) (i:=Ka (.h7 l2 at' l (Io l) (Io l) z0 z1 z2 (dv at' l))) fV H (λid _=>G id) (B (.h7 l2 at' l (Io l) (Io l) z0 z1 z2 (dv at' l))) B b
theorem QW{e:Sh}(k:K3):∀(l:List K3)(es:List (K3×List (Sem e))),(es.map (·.1)).Nodup->kI (l.foldl me es) k=if k∈l then[]else kI es k
 |[],es,_=>by rw[zg sw];rfl
 | a::r,es,hn=>by
  rw[List.foldl_cons,QW k r _ (Ga hn a),Rs hn];by_cases h1:k∈r
  .rw[ze h1,ze (jN _ h1)]
  .rw[zg h1];by_cases h2:k=a
   .rw[ze h2,ze (by rw[h2];exact ln)]
   .rw[zg h2,zg (by rw[b8];exact λq=>q.elim h2 h1)]
section
variable {db:List (Sem zk)} {p:Sem aq} {us:List (Sem zf)}
theorem zb3(h:aV db p)(m:tg db p):QP (p,aa db p)=Q1 (dL p (aa db p),()):=by
 have u:zK 0 (aa db p).length=Q3:=zx (i:=0) (pi h.go.two).1;unfold dL;rcases h.mig with e|e|e
 .have d:(p.1==dm)=Q3:=by rw[e];rfl
  rw[ze e];refine zP (r:=(ai (getD (aa db p) 0 (zi zk)).1.2.2.1,[])) ?_ rfl;simp only[zc4,Q8,d,u,zh];rfl
 .have d:(p.1==dm)=Q4:=by rw[e];rfl
  have g:(p.1==gm)=Q3:=by rw[e];rfl
  rw[zg (by rw[e];decide),ze e];refine zP (r:=(ai p.t.2,[])) ?_ rfl;simp only[zc4,Q8,d,g,zE,zh,zm]
 .have d:(p.1==dm)=Q4:=by rw[e];rfl
  have g:(p.1==gm)=Q4:=by rw[e];rfl
  obtain⟨_,a,b,s,_⟩:=m.group e;rw[zg (by rw[e];decide),zg (by rw[e];decide)];have j:zK 0 (Io p.t.1)=Q3:=by rw[s];rfl
  refine zP (r:=(ai (getD p.t.1 0 (zi zj)),[])) ?_ rfl;simp only[zc4,Q8,d,g,j,zE,zh,zm];rfl
def qn(db:zR)(p:ar)(l:zt):List (K3×List zt):=l.foldl (me (α:=List (Sem zf.sl))) (me (α:=List (Sem zf.sl)) (dv (dL p (aa db p)) (fh db p).2) (0,0,[]))
theorem Yl(h:aV db p)(l:zt)(u:zp):kI (e:=zf.sl) (qn db p l) u=if u∈l then[]else yz db p u:=by
 unfold qn;rw[QW (e:=zf.sl) u l _ (Ga (e:=zf.sl) vd _),Rs (e:=zf.sl) vd];split
 .rfl
 .rw[O1];by_cases b:u=(0,0,[])
  .rw[ze b,Mw (by rw[b])]
  .rw[zg b];unfold yz;refine List.filter_congr λrow d=>?_
   rw[gU,gn,bd];constructor
   .intro e;refine⟨e.symm,λh1=>b ?_⟩;have:=(dn (h.rel.fits row d)).2.1 _ (h.at_mem d);have g:getD row (Int.toNat (dL p (aa db p))) (zi zf)=u:=e.symm;rw[g]at this;exact Mu this h1
   .exact λq=>q.1.symm
theorem P0(h:aV db p)(m:tg db p):(FB p (aa db p) us).val=Q1 (.inl (.h7 us (dL p (aa db p)) (fh db p).2 ((fh db p).2.length:Int) ((fh db p).2.length:Int) (p,()) ([],0,[],0,0,[],[],()) ((p,aa db p),()) (dv (dL p (aa db p)) (fh db p).2))):=by
 obtain⟨g,j⟩:=Be h.go;have B:zK 0 (aa db p).length=Q3:=zx (i:=0) (pi h.go.two).1;have d:=zb3 h m;have s:VK (p,aa db p)=Q3:=by unfold VK;rw[d];rfl
 have u:zjy (p,aa db p)=dL p (aa db p):=by unfold zjy;rw[d];rfl
 have A:(T4 p (aa db p) us).val=Q1 (.inl (.h7 us (dL p (aa db p)) (fh db p).2 ((fh db p).2.length:Int) 0 (p,()) ([],0,[],0,0,[],[],()) ((p,aa db p),()) [])):=by
  simp only[T4,zn,aX,Q8,g,j,s,u,B,jc,zE,zh,zm];rfl
 have b:((0:Int)==0&&(((fh db p).2.length:Int)==((fh db p).2.length:Int)&&(Q0 ((fh db p).2.length<=1000)&&(fh db p).2.all λrow:zt=>zK (dL p (aa db p)) (Io row))))=Q3:=by
  have:=h.rel.few;simp only[BEq.rfl,ee,aE,aQ,dQ];exact⟨ow,λrow z=>(h.inn row z).1⟩
 unfold FB;rw[Tr.val_bind,A];show(chk _ _).val=_;rw[Q8,ze b];rfl
theorem ZY(h:aV db p)(m:tg db p)(hl:Io us<=1000){D:List zt}(F:Eo (p.2.2.2.1,(dH us).flatMap (fj db p))=Q1 ((p.2.2.2.1,D),())):
  ki p (aa db p) us=Q1 ((p.2.2.2.1,D),((iD db p (dH us):Nat):Int),0,()):=by
 have S:=P0 (us:=us) h m;have M:zJ Ka 1 (.h7 us (dL p (aa db p)) (fh db p).2 ((fh db p).2.length:Int) ((fh db p).2.length:Int) (p,()) ([],0,[],0,0,[],[],()) ((p,aa db p),()) (dv (dL p (aa db p)) (fh db p).2)) (.h15 ((iD db p (dH (us.take 0)):Nat):Int) us (Io us:Int) ((0:Nat):Int) ([],0,[],0,0,[],[],()) ((p,aa db p),()) (p.2.2.2.1,(dH (us.take 0)).flatMap (fj db p),()) (qn db p (us.take 0))):=zJ.of (by
  simp only[Ka,Q8,zG,zE,zm];rfl)
 have z:=zJ.all (t:=Ka) 1 (λi=>.h15 ((iD db p (dH (us.take i)):Nat):Int) us (Io us:Int) (i:Int) ([],0,[],0,0,[],[],()) ((p,aa db p),()) (p.2.2.2.1,(dH (us.take i)).flatMap (fj db p),()) (qn db p (us.take i))) (Io us) λi B=>zJ.of (by
  obtain⟨Z,g2⟩:=xD h (dH (us.take i)) (tU _);have j:me (α:=List (Sem zf.sl)) (qn db p (us.take i)) us[i]=qn db p (us.take (i+1)):=by
   unfold qn;rw[bv B,List.foldl_append];rfl
  have A:=Yl h (us.take i) us[i];have g:B8 (p,aa db p) us[i] (kI (e:=zf.sl) (qn db p (us.take i)) us[i])=Q1 (ite (us[i]∈us.take i) [] (fj db p us[i]),((ite (us[i]∈us.take i) 0 (Ca db p us[i]):Nat):Int),()):=by
   rw[A];split
   .exact zcO h m _
   .exact zjZ h m _
  have J:VM (p,aa db p) us[i] (kI (e:=zf.sl) (qn db p (us.take i)) us[i])=Q3:=by unfold VM;rw[g];rfl
  have L:zjz (p,aa db p) us[i] (kI (e:=zf.sl) (qn db p (us.take i)) us[i])=(ite (us[i]∈us.take i) [] (fj db p us[i]),((ite (us[i]∈us.take i) 0 (Ca db p us[i]):Nat):Int)):=by unfold zjz;rw[g];rfl
  have e:=vA (us.take i) us[i];rw[Y0]at e;have d:((us.take i).any λu=>FH u us[i])=Q3↔us[i]∈us.take i:=by
   rw[List.any_eq_true];exact⟨λ⟨u,h1,h2⟩=>kP.1 h2▸h1,λq=>⟨_,q,kP.2 rfl⟩⟩
  have G:(fj db p us[i]).length<=200:=aT Xd (aT (List.length_filter_le _ _) h.rel.few);have O:Ca db p us[i]<=200:=by
   have:=Pk (db:=db) (p:=p) (v:=us[i]);have:(yz db p us[i]).length<=(fh db p).2.length:=List.length_filter_le _ _;have:=h.rel.few;unfold Ca;omega
  have I:∀k:List zt,Io k<=200->Q0 (((dH (us.take i)).flatMap (fj db p)).length+Io k<=1073741824)=Q3:=λk hk=>zy ow
  simp only[Ka,Q8,zn,aX,zI B,zx B,zX _ _ B,J,L,zh];rw[zu i um,j,bv B,e];by_cases b:us[i]∈us.take i
  .rw[ze (d.2 b),ze b,ze b,pR,ze (I [] (aM _))];have H:Γ Δ (((iD db p (dH (us.take i)):Nat):Int)+((0:Nat):Int))=((iD db p (dH (us.take i)):Nat):Int):=by rw[dP];omega
   rw[H]
  .rw[zg (λq=>b (d.1 q)),zg b,zg b,List.flatMap_append,List.flatMap_singleton,ze (I _ G)];have N:iD db p (dH (us.take i)++[us[i]])=iD db p (dH (us.take i))+Ca db p us[i]:=by
    unfold iD;rw[eC,List.sum_append];simp
   have H:Γ Δ (((iD db p (dH (us.take i)):Nat):Int)+((Ca db p us[i]:Nat):Int))=((iD db p (dH (us.take i))+Ca db p us[i]:Nat):Int):=by rw[dP];omega
   rw[H,N])
 simp only[fQ]at z;generalize(dH us).flatMap (fj db p)=rows at z F;generalize iD db p (dH us)=n at z|-;generalize qn db p us=es at z;have X:PR (p.2.2.2.1,rows)=Q3:=by unfold PR;rw[F];rfl
 have Y:ZF (p.2.2.2.1,rows)=(p.2.2.2.1,D):=by unfold ZF;rw[F];rfl
 have s:∃r,zY Ka 1 (.h15 (n:Int) us (Io us:Int) (Io us:Int) ([],0,[],0,0,[],[],()) ((p,aa db p),()) (p.2.2.2.1,rows,()) es) r/\aU r.2 [zk,zj,zj] r.1=Q1 ((p.2.2.2.1,D),(n:Int),0,()):=by
  refine⟨_,zY.of (by
   simp only[Ka,Q8,zn,aX,zG,X,Y,zE,zh,zm];rfl),?_⟩
  show Q1 (((p.2.2.2.1.1,p.2.2.2.1.2.1,p.2.2.2.1.2.2.1,p.2.2.2.1.2.2.2.1,p.2.2.2.1.t.1,zr p.2.2.2.1.t.2),D),(n:Int),0,())=_;rw[zn]
 obtain⟨r,T,W⟩:=s;exact zA S ((M.trans z).ends T) ow W
end
def WJ:=WI.add 13 zmX
theorem CM:zw WJ:=GK.add zhI
def zkv(b:ar)(j:Sem zk.sl):Tr (Empty⊕au):=
 let d:=(b.1,b.2.1,b.2.2.1,(b.2.2.2.1.1,b.2.2.2.1.2.1,b.2.2.2.1.2.2.1,b.2.2.2.1.2.2.2.1,b.2.2.2.1.t.1,zr b.2.2.2.1.t.2),b.t)
 let g:=zaj d j
 let h:=VO d j g.1
 chk (Qp d j)
 (br (g.2!=0)
  (re (tup [agg [str [],nils,ai 0,nils,nils,str [],ai 0,ai 0,str [],str [],nils,nils],ai 0,ai g.2]) [])
  (chk (N7 d j g.1) (re (tup [agg [str h.1.1.1,sl zl h.1.1.2.1,ai h.1.1.2.2.1,sl zj h.1.1.2.2.2.1,sl zB h.1.1.t.1,str (za.op h.1.1.t.2),ai (za.v h.1.1.t.2).1,ai (za.v h.1.1.t.2).2.1,str (za.v h.1.1.t.2).2.2,
  str (za.s h.1.1.t.2),sl Sh.expr (za.l h.1.1.t.2),sl zf.sl h.1.2],ai h.2.1,ai h.2.2]) [])))
def KY(h:ar)(b:Sem zk.sl):=an [zk,zj,zj] t0 100000000 (zkv h b)
def VJ(h:ar)(b:Sem zk.sl):=(KY h b).isSome
def zjw(h:ar)(b:Sem zk.sl):=o3 (KY h b)
def zmG:=FT [aq,zk.sl] [zk,zj,zj] λx=>KY x.1 x.2.1
theorem zhr:FK 10 zmG:=CM.T1 (f:=Tryz.f10) (keep:=k0) (e:=e0)
def zge:=WJ.add 10 zmG
theorem GL:zw zge:=CM.add zhr
set_option maxHeartbeats 2000000
theorem wI(x:Int)(h1:-4000000000<=x)(h2:x<=4000000000):Γ Δ x=x:=by rw[dP];omega
theorem wU(x:Int)(h1:0<=x)(h2:x<=4000000000):IntKind.u64.wrap x=x:=by simp only[IntKind.wrap,IntKind.bits,IntKind.signed];simp;omega
def mO(k:Int)(r:zt):zp:=bif (cond (Q0 (k<0)) Q3 (Q0 (k>=(↑(Io r):Int))))then(0,0,[])else getD r k.toNat (zi zf)
def JU(k:Int)(a b:zt):Prop:=uk (mO k a) (mO k b)
variable {k:Int}
theorem UL{a b:zt}(h:JU k a b):¬JU k b a:=λg=>gj (gC h g)
def Kp(k:Int)(h l:List zt):Prop:=l.Perm h/\(h.Pairwise (JU k)->l=h)
variable {l:List zt}
theorem Kp.refl:Kp k l l:=⟨.refl l,λ_=>rfl⟩
theorem Kp.len{b:List zt}(h:Kp k b l):Io l=Io b:=h.1.length_eq
variable {d:List zt}
theorem Kp.trans{j:List zt}(h:Kp k j l)(g:Kp k l d):Kp k j d:=⟨g.1.trans h.1,λb=>by
 have e:=h.2 b;subst e;exact g.2 b⟩
theorem Kp.perm{h:List zt}(d:h.Perm l)(b:¬l.Pairwise (JU k)):Kp k l h:=⟨d,λg=>zC g b⟩
variable {i j:Nat}
theorem sj{α:Type}{l:List α}(h:i<Io l)(b:j<Io l)(d:α):((l.set j (l.getD i d)).set i (l.getD j d)).Perm l:=by
 have e:((l.set j l[i]).set i l[j]).Perm l:=List.set_set_perm b h
 rwa [aY,aY,z6 b,z6 h]
theorem Zk(h:l.Pairwise (JU k))(b:i<j)(g:j<Io l)(d:zt):JU k (l.getD i d) (l.getD j d):=by
 have:=List.pairwise_iff_getElem.1 h i j ow g b
 rwa [aY,aY,z6 ow,z6 g]
theorem Bd(h:i<j)(g:j<Io l)(d:zt)(b:JU k (l.getD j d) (l.getD i d)):¬l.Pairwise (JU k):=λs=>UL b (Zk s h g d)
theorem O2(h:j<i):Q0 ((i:Int)>(j:Int))=Q3:=by simpa using h
theorem zcX(n:Nat):Q0 ((n:Int)>(n:Int))=Q4:=by simp
theorem kK(h:¬i<j):Q0 ((i:Int)<(j:Int))=Q4:=by simpa using h
theorem qq(k:Int)(x y:zt):
  (bif (cond (Q0 (k<0)) Q3 (Q0 (k>=(↑(Io x):Int))))then bif (cond (Q0 (k<0)) Q3 (Q0 (k>=(↑(Io y):Int))))then aO (0,0,[]) (0,0,[])else aO (0,0,[]) (getD y k.toNat (zi zf))
   else bif (cond (Q0 (k<0)) Q3 (Q0 (k>=(↑(Io y):Int))))then aO (getD x k.toNat (zi zf)) (0,0,[])else aO (getD x k.toNat (zi zf)) (getD y k.toNat (zi zf)))=aO (mO k x) (mO k y):=by unfold mO;cases(cond (Q0 (k<0)) Q3 (Q0 (k>=(↑(Io x):Int))))<;>cases(cond (Q0 (k<0)) Q3 (Q0 (k>=(↑(Io y):Int))))<;>rfl
theorem XQ(k:Int)(x:zt):(cond (cond (Q0 (k<0)) Q3 (Q0 (k>=(↑(Io x):Int)))) Q3 (zK k (Io x)))=Q3:=by
 cases h:(cond (Q0 (k<0)) Q3 (Q0 (k>=(↑(Io x):Int))))with
 |true=>rfl
 | false=>
  cases h1:Q0 (k<0)with
  |true=>rw[h1]at h;cases h
  | false=>
   rw[h1]at h;simp only[ax,dZ]at h h1;simp only[ax,zK,aE,aQ];omega
theorem ms(k:Int)(x y:zt):(bif (cond (Q0 (k<0)) Q3 (Q0 (k>=(↑(Io x):Int))))then(cond (cond (Q0 (k<0)) Q3 (Q0 (k>=(↑(Io y):Int)))) Q3 (zK k (Io y)))
  else zK k (Io x)&&(cond (cond (Q0 (k<0)) Q3 (Q0 (k>=(↑(Io y):Int)))) Q3 (zK k (Io y))))=Q3:=by
 have h1:=XQ k x;rw[XQ k y];cases h:(cond (Q0 (k<0)) Q3 (Q0 (k>=(↑(Io x):Int))))with
 |true=>rfl
 | false=>
  rw[h]at h1;simp only[ax]at h1|-;rw[h1];rfl
theorem XJ(D:List zt)(a b i:Nat)(k:Int)(W:Io D<=1000)(T:i<1000):∀(m j:Nat)(l:List zt),j=a+m->j<Io l->Kp k D l->
  ∃g,Kp k D g/\zJ tb (m+1) (.h4 (a:Int) (b:Int) k (i:Int) (j:Int) l) (.h1 (a:Int) (b:Int) k ((i+1:Nat):Int) g):=by
 intro m
 induction m with
 | zero=>
  intro j l O d h;refine⟨l,h,zJ.of ?_⟩;obtain rfl:j=a:=by omega
  simp only[tb,Q8,zcX,ax,zE,zm,zh,zu i um]
 | succ m N=>
  intro j l O d h;obtain⟨j,rfl⟩:∃S,j=S+1:=⟨j-1,ow⟩;have M:=h.len;have F:Q0 (((j+1:Nat):Int)>(a:Int))=Q3:=O2 ow;have G:zK ((j+1:Nat):Int) (Io l)=Q3:=zx d;have H:Q0 (j+1<Io l)=Q3:=by simpa using d
  have I:Γ Δ (((j+1:Nat):Int)-1)=(j:Int):=ma j um;have s:zK (j:Int) (Io l)=Q3:=zx ow;have u:Q0 (j<Io l)=Q3:=by simp;omega
  have J:zK (j:Int) (l.set (j+1) (l.getD j (zi zf.sl))).length=Q3:=by rw[yM];exact s
  have L:Q0 (j<(l.set (j+1) (l.getD j (zi zf.sl))).length)=Q3:=by rw[yM];exact u
  by_cases A:JU k (l.getD (j+1) (zi zf.sl)) (l.getD j (zi zf.sl))
  .have B:Kp k l ((l.set (j+1) (l.getD j (zi zf.sl))).set j (l.getD (j+1) (zi zf.sl))):=Kp.perm (sj ow d _) (Bd (i:=j) (j:=j+1) ow d _ A);obtain⟨g,h1,h2⟩:=N j _ ow sg (h.trans B);refine⟨g,h1,((zJ.of ?_).trans h2).mono ow⟩;have z:Q0 (LT.lt (α:=Int) (aO (mO k (l.getD (j+1) (zi zf.sl))) (mO k (l.getD j (zi zf.sl)))) 0)=Q3:=zy A;simp only[tb,Q8,I,aJ];rw[ms,qq];simp only[F,G,H,s,u,z,J,L,aw,pT,zh]
  .refine⟨l,h,(zJ.of ?_).mono ow⟩;have z:Q0 (LT.lt (α:=Int) (aO (mO k (l.getD (j+1) (zi zf.sl))) (mO k (l.getD j (zi zf.sl)))) 0)=Q4:=z7 A;simp only[tb,Q8,I,aJ];rw[ms,qq];simp only[F,G,H,s,u,z,J,L,aw,pT,zh,zE,zm,zu i um]
theorem XI(h:List zt)(a b:Nat)(k:Int)(B:Io h<=1000)(F:b<=Io h):∀(m i:Nat)(l:List zt),b-i=m->a<=i->Kp k h l->
  ∃g,Kp k h g/\zY tb (m*1002+1) (.h1 (a:Int) (b:Int) k (i:Int) l) (.tup [],[.vec zf.sl g]):=by
 intro m
 induction m with
 | zero=>
  intro i l A z d;refine⟨l,d,(zY.of ?_).mono ow⟩;simp only[tb,Q8,kK (show¬i<b by omega),zE,zm]
 | succ m I=>
  intro i l A z d;have j:=d.len;obtain⟨D,h1,h2⟩:=XJ h a b i k B ow (i-a) i l ow ow d;obtain⟨g,s,u⟩:=I (i+1) D ow ow h1;refine⟨g,s,((zJ.of ?_).trans h2 |>.ends u).mono ow⟩;simp only[tb,Q8,zI (show i<b by omega),zh]
theorem Dp(l:List zt)(a b:Nat)(k:Int)(j:Io l<=1000)(s:a<=Io l)(g:b<=Io l):∃h,xH l a b k=Q1 h/\Kp k l h:=by
 obtain⟨h,h1,h2⟩:=XI l a b k j g (b-(a+1)) (a+1) l rfl ow Kp.refl;refine⟨h,?_,h1⟩;have:O8 l a b k=Q1 (.tup [],[.vec zf.sl h]):=by
  unfold O8 bY RA;rw[zu a um];have d:b-(a+1)<=1000:=by omega
  exact h2 100000000 (aT (Nat.succ_le_succ (gE 1002 d)) (by decide))
 unfold xH;rw[this];rfl
theorem zmk(h:List zt)(a b n:Nat)(L:Io h<=1000)(H:a+n<=Io h)(J:b+n<=Io h):∀(m i:Nat)(l:List zt),n-i=m->i<=n->l.Perm h->
  ∃g,g.Perm h/\zY HR (m+1) (.h1 (a:Int) (b:Int) (n:Int) (i:Int) l) (.tup [],[.vec zf.sl g]):=by
 intro m
 induction m with
 | zero=>
  intro i l G F d;obtain rfl:i=n:=by omega
  refine⟨l,d,zY.of ?_⟩;simp only[HR,Q8,zG,zE,zm]
 | succ m I=>
  intro i l G F d;have s:=d.length_eq;have e0:Γ Δ ((b:Int)+(i:Int))=((b+i:Nat):Int):=by rw[wI _ ow ow];omega
  have u:Γ Δ ((a:Int)+(i:Int))=((a+i:Nat):Int):=by rw[wI _ ow ow];omega
  have z:zK ((a+i:Nat):Int) (Io l)=Q3:=zx ow;have A:zK ((b+i:Nat):Int) (Io l)=Q3:=zx ow;have B:Q0 (a+i<Io l)=Q3:=by simp;omega
  have D:Q0 (b+i<Io l)=Q3:=by simp;omega
  obtain⟨g,h1,h2⟩:=I (i+1) ((l.set (a+i) (l.getD (b+i) (zi zf.sl))).set (b+i) (l.getD (a+i) (zi zf.sl))) ow ow ((sj (i:=b+i) (j:=a+i) ow ow _).trans d);refine⟨g,h1,((zJ.of ?_).ends h2).mono ow⟩;simp only[HR,Q8,zI (show i<n by omega),e0,u,z,A,B,D,aJ,yM,zh,zu i um]
theorem P7(l:List zt)(a b n:Nat)(k:Int)(j:Io l<=1000)(d:a+n<=Io l)(g:b+n<=Io l):∃h,P6 l a b n k=Q1 h/\h.Perm l:=by obtain⟨h,h1,h2⟩:=zmk l a b n j d g n 0 l rfl ow (.refl l);refine⟨h,?_,h1⟩;have:ztB l a b n k=Q1 (.tup [],[.vec zf.sl h]):=h2 100000000 ow;unfold P6;rw[this];rfl
theorem zl9(A:List zt)(m:Nat)(k:Int)(O:Io A<=1000):∀(s i j:Nat)(l:List zt),i+j<=s->1<=i->1<=j->i<=m->m+j<=Io A->l.Perm A->
  ∃b,b.Perm A/\zY EZ (s+1) (.h2 (m:Int) k (i:Int) (j:Int) l) (.tup [],[.vec zf.sl b]):=by
 intro s
 induction s with
 |zero=>intro i j l h h1;omega
 | succ s I=>
  intro i j l S h1 h2 M N z;have J:=z.length_eq;have e0:Γ Δ ((m:Int)-(i:Int))=((m-i:Nat):Int):=by rw[wI _ ow ow];omega
  rcases Nat.lt_trichotomy i j with h|h|h
  .obtain⟨d,g,u⟩:=P7 l (m-i) (m+j-i) i k ow ow ow;obtain⟨b,G,H⟩:=I i (j-i) d ow h1 ow M ow (u.trans z);refine⟨b,G,((zJ.of ?_).ends H).mono ow⟩;have B:((i:Int)!=(j:Int))=Q3:=by simp;omega
   have D:Q0 ((i:Int)>(j:Int))=Q4:=by simp;omega
   have L:Γ Δ (Γ Δ ((m:Int)+(j:Int))-(i:Int))=((m+j-i:Nat):Int):=by rw[wI ((m:Int)+(j:Int)) ow ow,wI _ ow ow];omega
   have F:Γ Δ ((j:Int)-(i:Int))=((j-i:Nat):Int):=by rw[wI _ ow ow];omega
   simp only[EZ,Q8,e0,B,D,L,F,g,fG,bT,zh,zE,zm]
  .subst h;obtain⟨d,g,u⟩:=P7 l (m-i) m i k ow ow ow;refine⟨d,u.trans z,(zY.of ?_).mono ow⟩;simp only[EZ,Q8,e0,jc,g,fG,bT,zh,zE,zm]
  .obtain⟨d,g,u⟩:=P7 l (m-i) m j k ow ow ow;obtain⟨b,G,H⟩:=I (i-j) j d ow ow h2 ow N (u.trans z);refine⟨b,G,((zJ.of ?_).ends H).mono ow⟩;have B:((i:Int)!=(j:Int))=Q3:=by simp;omega
   have D:Q0 ((i:Int)>(j:Int))=Q3:=by simp;omega
   have F:Γ Δ ((i:Int)-(j:Int))=((i-j:Nat):Int):=by rw[wI _ ow ow];omega
   simp only[EZ,Q8,e0,B,D,F,g,fG,bT,zh]
theorem zma(l:List zt)(a m b:Nat)(k:Int)(d:Io l<=1000)(g:a<m)(s:m<b)(j:b<=Io l):∃h,UI l a m b k=Q1 h/\h.Perm l:=by
 obtain⟨h,h1,h2⟩:=zl9 l m k d ((m-a)+(b-m)) (m-a) (b-m) l (ah _) ow ow ow ow (.refl l);refine⟨h,?_,h1⟩;have:zl8 l a m b k=Q1 (.tup [],[.vec zf.sl h]):=by
  unfold zl8 bY RB;rw[show Γ Δ ((m:Int)-(a:Int))=((m-a:Nat):Int) by rw[wI _ ow ow];omega,show Γ Δ ((b:Int)-(m:Int))=((b-m:Nat):Int) by rw[wI _ ow ow];omega];exact h2 100000000 ow
 unfold UI;rw[this];rfl
theorem A6(i j:Nat)(h:i+j<=4000000):Γ Δ (IntKind.u64.wrap (Γ Δ ((i:Int)+(j:Int)))/2)=(((i+j)/2:Nat):Int):=by rw[wI ((i:Int)+(j:Int)) ow ow,wU _ ow ow,wI _ ow ow];omega
section
variable (o:SM) (k:Int)
theorem ztw(l:List zt)(a m b:Nat)(X:Io l<=1000)(T:a<m)(W:b<=Io l):∀(s i j:Nat),j-i<=s->m<=i->i<=j->j<=b->(i=m\/¬l.Pairwise (JU k))->
  ∃d,m<=d/\d<=b/\(d=m\/¬l.Pairwise (JU k))/\zJ (eU o) (s+1) (.h3 (a:Int) k (i:Int) (j:Int) l) (.h9 (d:Int) (a:Int) l):=by
 intro s
 induction s with
 | zero=>
  intro i j h1 h2 O N u;refine⟨i,h2,ow,u,zJ.of ?_⟩;simp only[eU,Q8,kK (show¬i<j by omega),zE,zm]
 | succ s I=>
  intro i j h1 h2 O N u;by_cases g:i<j
  case neg=>
   refine⟨i,h2,ow,u,(zJ.of ?_).mono ow⟩;simp only[eU,Q8,kK g,zE,zm]
  have e0:=A6 i j ow;have S:i<=(i+j)/2/\(i+j)/2<j:=by omega
  generalize(i+j)/2=h at e0 S;have H:zK ((h:Nat):Int) (Io l)=Q3:=zx ow;have J:Q0 (h<Io l)=Q3:=by simp;omega
  have L:zK ((a:Nat):Int) (Io l)=Q3:=zx ow;have M:Q0 (a<Io l)=Q3:=by simp;omega
  by_cases A:JU k (l.getD h (zi zf.sl)) (l.getD a (zi zf.sl))
  .obtain⟨d,B,D,F,G⟩:=I (h+1) j ow ow ow N (.inr (Bd (i:=a) (j:=h) ow ow _ A));refine⟨d,B,D,F,((zJ.of ?_).trans G).mono ow⟩;have z:Q0 (LT.lt (α:=Int) (aO (mO k (l.getD h (zi zf.sl))) (mO k (l.getD a (zi zf.sl)))) 0)=Q3:=zy A;simp only[eU,Q8,e0,aJ];rw[ms,qq];simp only[zI g,H,J,L,M,z,zh,zu h um]
  .obtain⟨d,B,D,F,G⟩:=I i h ow h2 ow ow u;refine⟨d,B,D,F,((zJ.of ?_).trans G).mono ow⟩;have z:Q0 (LT.lt (α:=Int) (aO (mO k (l.getD h (zi zf.sl))) (mO k (l.getD a (zi zf.sl)))) 0)=Q4:=z7 A;simp only[eU,Q8,e0,aJ];rw[ms,qq];simp only[zI g,H,J,L,M,z,zh,zE,zm]
theorem ztx(g:List zt)(i:Nat)(M:Io g<=1000)(L:i<=Io g):∀(s c:Nat)(l:List zt),i-c<=s->l.Perm g->
  ∃d,d.Perm g/\((i<=c+1)->d=l)/\zY (eU o) (s+1) (.h9 (i:Int) (c:Int) l) (.tup [],[.vec zf.sl d]):=by
 intro s
 induction s with
 | zero=>
  intro c l h1 b;refine⟨l,b,λ_=>rfl,zY.of ?_⟩;have e0:Q0 ((c:Int)<Γ Δ ((i:Int)-1))=Q4:=by
   by_cases F:i=0
   .subst F;rw[wI _ ow ow];simp only[dZ];omega
   .rw[wI _ ow ow];simp only[dZ];omega
  simp only[eU,Q8,e0,zE,zm]
 | succ s I=>
  intro c l h1 b;have u:=b.length_eq;by_cases J:c+1<i
  case neg=>
   refine⟨l,b,λ_=>rfl,(zY.of ?_).mono ow⟩;have e0:Q0 ((c:Int)<Γ Δ ((i:Int)-1))=Q4:=by
    rw[wI _ ow ow];simp only[dZ];omega
   simp only[eU,Q8,e0,zE,zm]
  have e0:Q0 ((c:Int)<Γ Δ ((i:Int)-1))=Q3:=by
   rw[wI _ ow ow];simp only[aQ];omega
  have z:zK ((c+1:Nat):Int) (Io l)=Q3:=zx ow;have A:zK ((c:Nat):Int) (Io l)=Q3:=zx ow;have B:Q0 (c+1<Io l)=Q3:=by simp;omega
  have D:Q0 (c<Io l)=Q3:=by simp;omega
  obtain⟨d,G,_,H⟩:=I (c+1) ((l.set c (l.getD (c+1) (zi zf.sl))).set (c+1) (l.getD c (zi zf.sl))) ow ((sj (i:=c+1) (j:=c) ow ow _).trans b);refine⟨d,G,λh=>by omega,((zJ.of ?_).ends H).mono ow⟩;simp only[eU,Q8,e0,zu c um,z,A,B,D,aJ,yM,zh]
theorem zme(l:List zt)(a m:Nat)(T:Io l<=1000)(S:m<Io l):∀(s i j:Nat),j-i<=s->a<=i->i<=j->j<=m->(j=m\/¬l.Pairwise (JU k))->
  ∃b,a<=b/\b<=m/\(b=m\/¬l.Pairwise (JU k))/\zJ (eU o) (s+1) (.h15 (m:Int) k (i:Int) (j:Int) l) (.h21 (b:Int) (m:Int) l):=by
 intro s
 induction s with
 | zero=>
  intro i j h1 h2 N M g;refine⟨i,h2,ow,g.imp (λh=>by omega) id,zJ.of ?_⟩;simp only[eU,Q8,kK (show¬i<j by omega),zE,zm]
 | succ s I=>
  intro i j h1 h2 N M g;by_cases d:i<j
  case neg=>
   refine⟨i,h2,ow,g.imp (λh=>by omega) id,(zJ.of ?_).mono ow⟩;simp only[eU,Q8,kK d,zE,zm]
  have e0:=A6 i j ow;have O:i<=(i+j)/2/\(i+j)/2<j:=by omega
  generalize(i+j)/2=h at e0 O;have G:zK ((h:Nat):Int) (Io l)=Q3:=zx ow;have H:Q0 (h<Io l)=Q3:=by simp;omega
  have J:zK ((m:Nat):Int) (Io l)=Q3:=zx ow;have L:Q0 (m<Io l)=Q3:=by simp;omega
  by_cases z:JU k (l.getD m (zi zf.sl)) (l.getD h (zi zf.sl))
  .obtain⟨b,A,B,D,F⟩:=I i h ow h2 ow ow (.inr (Bd (i:=h) (j:=m) ow ow _ z));refine⟨b,A,B,D,((zJ.of ?_).trans F).mono ow⟩;have u:Q0 (LT.lt (α:=Int) (aO (mO k (l.getD m (zi zf.sl))) (mO k (l.getD h (zi zf.sl)))) 0)=Q3:=zy z;simp only[eU,Q8,e0,aJ];rw[ms,qq];simp only[zI d,G,H,J,L,u,zh,cm,zE,zm]
  .obtain⟨b,A,B,D,F⟩:=I (h+1) j ow ow ow M g;refine⟨b,A,B,D,((zJ.of ?_).trans F).mono ow⟩;have u:Q0 (LT.lt (α:=Int) (aO (mO k (l.getD m (zi zf.sl))) (mO k (l.getD h (zi zf.sl)))) 0)=Q4:=z7 z;simp only[eU,Q8,e0,aJ];rw[ms,qq];simp only[zI d,G,H,J,L,u,zh,di,zu h um]
theorem zmf(g:List zt)(i:Nat)(N:Io g<=1000):∀(s c:Nat)(l:List zt),c-i<=s->c<Io g->l.Perm g->
  ∃d,d.Perm g/\(c<=i->d=l)/\zY (eU o) (s+1) (.h21 (i:Int) (c:Int) l) (.tup [],[.vec zf.sl d]):=by
 intro s
 induction s with
 | zero=>
  intro c l h1 u b;refine⟨l,b,λ_=>rfl,zY.of ?_⟩;have e0:Q0 ((c:Int)>(i:Int))=Q4:=by simp;omega
  simp only[eU,Q8,e0,zE,zm]
 | succ s I=>
  intro c l h1 u b;have z:=b.length_eq;by_cases J:i<c
  case neg=>
   refine⟨l,b,λ_=>rfl,(zY.of ?_).mono ow⟩;have e0:Q0 ((c:Int)>(i:Int))=Q4:=by simp;omega
   simp only[eU,Q8,e0,zE,zm]
  obtain⟨c,rfl⟩:∃A,c=A+1:=⟨c-1,ow⟩;have e0:Q0 (((c+1:Nat):Int)>(i:Int))=Q3:=O2 J;have B:zK ((c+1:Nat):Int) (Io l)=Q3:=zx ow;have D:zK ((c:Nat):Int) (Io l)=Q3:=zx ow;have F:Q0 (c+1<Io l)=Q3:=by simp;omega
  have G:Q0 (c<Io l)=Q3:=by simp;omega
  have H:Γ Δ (((c+1:Nat):Int)-1)=(c:Int):=ma c um;obtain⟨d,L,_,M⟩:=I c ((l.set (c+1) (l.getD c (zi zf.sl))).set c (l.getD (c+1) (zi zf.sl))) ow ow ((sj (i:=c) (j:=c+1) ow ow _).trans b);refine⟨d,L,λh=>by omega,((zJ.of ?_).ends M).mono ow⟩;simp only[eU,Q8,e0,H,B,D,F,G,aJ,yM,zh]
end
section
variable (o:SM) (k:Int)
theorem ZV(l:List zt)(a m b z n p G g:Nat)(hn:Io l<=1000)(h0:g<=1000)(hp:p<=2000)(Y:∀c,G<=c->c<g->c+c<p/\p<Io l+c):∀(s i j:Nat),j-i<=s->G<=i->i<=j->j<=g->(j=g\/¬l.Pairwise (JU k))->
  ∃d,G<=d/\d<=g/\(d=g\/¬l.Pairwise (JU k))/\zJ (eU o) s (.h33 (a:Int) (m:Int) (b:Int) k (z:Int) (n:Int) (i:Int) (j:Int) (p:Int) l) (.h33 (a:Int) (m:Int) (b:Int) k (z:Int) (n:Int) (d:Int) (d:Int) (p:Int) l):=by
 intro s
 induction s with
 | zero=>
  intro i j h1 h2 X A B;obtain rfl:i=j:=by omega
  exact⟨i,h2,A,B,zJ.refl _⟩
 | succ s M=>
  intro i j h1 h2 X A B;by_cases u:i<j
  case neg=>
   obtain rfl:i=j:=by omega
   exact⟨i,h2,A,B,(zJ.refl _).mono ow⟩
  have e0:=A6 i j ow;have Z:i<=(i+j)/2/\(i+j)/2<j:=by omega
  generalize(i+j)/2=h at e0 Z;obtain⟨b1,b2⟩:=Y h ow ow;have W:Γ Δ ((p:Int)-(h:Int))=((p-h:Nat):Int):=by rw[wI _ ow ow];omega
  have N:zK ((h:Nat):Int) (Io l)=Q3:=zx ow;have O:Q0 (h<Io l)=Q3:=by simp;omega
  have S:zK ((p-h:Nat):Int) (Io l)=Q3:=zx ow;have T:Q0 (p-h<Io l)=Q3:=by simp;omega
  by_cases F:JU k (l.getD (p-h) (zi zf.sl)) (l.getD h (zi zf.sl))
  .obtain⟨d,H,I,J,L⟩:=M i h ow h2 ow ow (.inr (Bd (i:=h) (j:=p-h) ow ow _ F));refine⟨d,H,I,J,((zJ.of ?_).trans L).mono ow⟩;have D:Q0 (LT.lt (α:=Int) (aO (mO k (l.getD (p-h) (zi zf.sl))) (mO k (l.getD h (zi zf.sl)))) 0)=Q3:=zy F;simp only[eU,Q8,e0,W,aJ];rw[ms,qq];simp only[zI u,N,O,S,T,D,zh,cm,zE,zm]
  .obtain⟨d,H,I,J,L⟩:=M (h+1) j ow ow ow A B;refine⟨d,H,I,J,((zJ.of ?_).trans L).mono ow⟩;have D:Q0 (LT.lt (α:=Int) (aO (mO k (l.getD (p-h) (zi zf.sl))) (mO k (l.getD h (zi zf.sl)))) 0)=Q4:=z7 F;simp only[eU,Q8,e0,W,aJ];rw[ms,qq];simp only[zI u,N,O,S,T,D,zh,di,zu h um]
theorem zb4{a j c d:Nat}:(cond (Q0 ((a:Int)<(j:Int))) (Q0 ((c:Int)<(d:Int))) Q4)=Q0 (a<j/\c<d):=by
 by_cases h:a<j
 .have:Q0 ((a:Int)<(j:Int))=Q3:=by simpa using h
  rw[this];simp[h]
 .have:Q0 ((a:Int)<(j:Int))=Q4:=by simpa using h
  rw[this];simp[h]
theorem ZU{D:Nat}(O:∀(l:List zt)(a m b:Nat),Io l<=1000->a<m->m<b->b<=Io l->b-a<=D->∃H,o l a m b k=Q1 H/\Kp k l H)(l:List zt)(a m b d n st g:Nat)(p:Int)(M:Io l<=1000)(hb:b<=Io l)(he:n=st+g)(_:n<=2000)
  (_:a<=st) (h2:g<=b) (T:d-a<=D) (W:b-d<=D) (X:d<=b) (Z:st<m->m<g->¬l.Pairwise (JU k)):
  ∃H,Kp k l H/\(eU o (.h33 (a:Int) (m:Int) (b:Int) k (d:Int) (n:Int) (st:Int) (st:Int) p l)).val=Q1 (.inr (.tup [],[.vec zf.sl H])):=by
 have e0:Γ Δ ((n:Int)-(st:Int))=(g:Int):=by rw[wI _ ow ow];omega
 have S:Q0 ((st:Int)<(st:Int))=Q4:=by simp
 obtain⟨z,I,G⟩:∃z,Kp k l z/\(ite (st<m/\m<g) (UI l st m g k=Q1 z) (z=l)):=by
  by_cases h:st<m/\m<g
  .obtain⟨z,J,L⟩:=zma l st m g k M h.1 h.2 ow;exact⟨z,Kp.perm L (Z h.1 h.2),by rw[ze h];exact J⟩
  .exact⟨l,Kp.refl,by rw[zg h]⟩
 obtain⟨l2,N,B⟩:∃l2,Kp k z l2/\(ite (a<st/\st<d) (o z a st d k=Q1 l2) (l2=z)):=by
  by_cases h:a<st/\st<d
  .obtain⟨l2,J,L⟩:=O z a st d (by rw[I.len];exact M) h.1 h.2 (by rw[I.len];omega) T;exact⟨l2,L,by rw[ze h];exact J⟩
  .exact⟨z,Kp.refl,by rw[zg h]⟩
 obtain⟨F,p5,s⟩:∃F,Kp k l2 F/\(ite (d<g/\g<b) (o l2 d g b k=Q1 F) (F=l2)):=by
  by_cases h:d<g/\g<b
  .obtain⟨F,J,L⟩:=O l2 d g b (by rw[N.len,I.len];exact M) h.1 h.2 (by rw[N.len,I.len];omega) W;exact⟨F,L,by rw[ze h];exact J⟩
  .exact⟨l2,Kp.refl,by rw[zg h]⟩
 refine⟨F,(I.trans N).trans p5,?_⟩;simp only[eU,Q8,e0,S,zb4,zE,zm];by_cases A:st<m/\m<g
 .rw[ze A]at G;by_cases u:a<st/\st<d
  .rw[ze u]at B;by_cases j:d<g/\g<b
   .rw[ze j]at s;simp only[zy A,zy u,zy j,G,B,s,fG,bT,zh]
   .rw[zg j]at s;subst s;simp only[zy A,zy u,z7 j,G,B,fG,bT,zh,zE,zm]
  .rw[zg u]at B;subst B;by_cases j:d<g/\g<b
   .rw[ze j]at s;simp only[zy A,z7 u,zy j,G,s,fG,bT,zh,zE,zm]
   .rw[zg j]at s;subst s;simp only[zy A,z7 u,z7 j,G,fG,bT,zh,zE,zm]
 .rw[zg A]at G;subst G;by_cases u:a<st/\st<d
  .rw[ze u]at B;by_cases j:d<g/\g<b
   .rw[ze j]at s;simp only[z7 A,zy u,zy j,B,s,fG,bT,zh,zE,zm]
   .rw[zg j]at s;subst s;simp only[z7 A,zy u,z7 j,B,fG,bT,zh,zE,zm]
  .rw[zg u]at B;subst B;by_cases j:d<g/\g<b
   .rw[ze j]at s;simp only[z7 A,z7 u,zy j,s,fG,bT,zh,zE,zm]
   .rw[zg j]at s;subst s;simp only[z7 A,z7 u,z7 j,zE,zm]
end
theorem J4{o:SM}{a m b:Int}(h:bY (eU o) 100000000 (Aj o l a m b k)=Q1 (.tup [],[.vec zf.sl d])):smS o l a m b k=Q1 d:=by unfold smS;rw[h];rfl
theorem ZW(k:Int):∀(N:Nat)(l:List zt)(a m b:Nat),Io l<=1000->a<m->m<b->b<=Io l->b-a<=2^N->∃j,EN N l a m b k=Q1 j/\Kp k l j
 |0,_,a,m,b,_,h1,h2,_,M=>by simp at M;omega
 | N+1,l,a,m,b,z,h1,h2,L,M=>by
  have hO:=ZW k N;have e0:Γ Δ ((m:Int)-(a:Int))=((m-a:Nat):Int):=by rw[wI _ ow ow];omega
  have I:Γ Δ ((b:Int)-(m:Int))=((b-m:Nat):Int):=by rw[wI _ ow ow];omega
  by_cases c1:m-a=1
  .obtain⟨G,O,S,d,B⟩:=ztw (EN N) k l a m b z h1 L (b-m) m b (ah _) (ah _) ow (ah _) (.inl rfl);obtain⟨j,D,F,T⟩:=ztx (EN N) l G z ow (G-a) a l (ah _) (.refl l);refine⟨j,J4 ?_,?_⟩
   .have g:(((m-a:Nat):Int)==1)=Q3:=by rw[c1];rfl
    unfold bY;simp only[Aj,Q8,e0,g,zh];exact(B.ends T) 100000000 ow
   .rcases d with rfl|d
    .rw[F ow];exact Kp.refl
    .exact Kp.perm D d
  have g:(((m-a:Nat):Int)==1)=Q4:=by simp;omega
  by_cases c2:b-m=1
  .obtain⟨G,O,S,d,B⟩:=zme (EN N) k l a m z ow (m-a) a m (ah _) (ah _) ow (ah _) (.inl rfl);obtain⟨j,D,F,T⟩:=zmf (EN N) l G z (m-G) m l (ah _) ow (.refl l);refine⟨j,J4 ?_,?_⟩
   .have s:(((b-m:Nat):Int)==1)=Q3:=by rw[c2];rfl
    unfold bY;simp only[Aj,Q8,e0,I,g,s,zh,zE,zm];exact(B.ends T) 100000000 ow
   .rcases d with rfl|d
    .rw[F (ah _)];exact Kp.refl
    .exact Kp.perm D d
  have s:(((b-m:Nat):Int)==1)=Q4:=by simp;omega
  have J:=A6 a b ow;have u:a<=(a+b)/2/\(a+b)/2<=b/\2*((a+b)/2)<=a+b/\a+b<=2*((a+b)/2)+1:=by omega
  generalize(a+b)/2=h at J u;obtain⟨g1,g2,g3,g4⟩:=u;have H:h-a<=2^N/\b-h<=2^N:=by rw[pN]at M;omega
  have Y:Γ Δ ((h:Int)+(m:Int))=((h+m:Nat):Int):=by rw[wI _ ow ow];omega
  have Z:Γ Δ (((h+m:Nat):Int)-1)=((h+m-1:Nat):Int):=by rw[wI _ ow ow];omega
  by_cases c3:h<m
  ·
   have e5:Γ Δ (((h+m:Nat):Int)-(b:Int))=((h+m-b:Nat):Int):=by rw[wI _ ow ow];omega
   have A:Q0 ((m:Int)>(h:Int))=Q3:=O2 c3;obtain⟨st,O,S,d,B⟩:=ZV (EN N) k l a m b h (h+m) (h+m-1) (h+m-b) h z ow ow (λc W X=>by omega) (h-(h+m-b)) (h+m-b) h (ah _) (ah _) ow (ah _) (.inl rfl);obtain⟨j,D,F⟩:=ZU (EN N) k hO l a m b h (h+m) st (h+m-st) ((h+m-1:Nat):Int) z L ow ow ow ow H.1 H.2 g2 (λW X=>by
    rcases d with rfl|d
    .omega
    .exact d)
   refine⟨j,J4 ?_,D⟩;unfold bY;simp only[Aj,Q8,e0,I,J,Y,Z,e5,g,s,A,zh,zE,zm];exact(B.ends (zY.of F)) 100000000 ow
  .have A:Q0 ((m:Int)>(h:Int))=Q4:=by simp;omega
   obtain⟨st,O,S,d,B⟩:=ZV (EN N) k l a m b h (h+m) (h+m-1) a m z ow ow (λc W X=>by omega) (m-a) a m (ah _) (ah _) ow (ah _) (.inl rfl);obtain⟨j,D,F⟩:=ZU (EN N) k hO l a m b h (h+m) st (h+m-st) ((h+m-1:Nat):Int) z L ow ow ow ow H.1 H.2 g2 (λW X=>by
    rcases d with rfl|d
    .omega
    .exact d)
   refine⟨j,J4 ?_,D⟩;unfold bY;simp only[Aj,Q8,e0,I,J,Y,Z,g,s,A,zh,zE,zm];exact(B.ends (zY.of F)) 100000000 ow
end
end Cad
