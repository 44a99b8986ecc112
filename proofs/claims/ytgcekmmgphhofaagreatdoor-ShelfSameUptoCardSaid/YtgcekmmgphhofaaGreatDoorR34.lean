/- A loop gone through by hand amid the machine's. -/
import Derived.Test.YtgcekmmgphhofaaGreatDoorR33
namespace Cad
open Go Go.Proofs Tryz
open List renaming length->M
open IntKind renaming wrap->Γ,i64->Δ
open AO renaming box->Qb
open Bool renaming true->Z,false->J
open Option renaming some->Y
open List renaming getD->W
open Tr (chk br re)
open AV (nils agg tup ptr kb str)
open AV renaming sl->O
open Cad renaming AV->R,Sem->N,ow->S,Tr->K,ai->I
set_option maxHeartbeats 4000000
noncomputable section
def sq(E:bS)(C:eS)(fn:FuncId)(todo:List Item)(h:Act->World->Prop)(Q:R->List AO->Prop):Prop:=
 ∀(b:Frame)(cs:List Frame)(a:Act)(w:World),b.fn=fn->b.kind=.normal->h a w->∃e w' d,QZ E C Q e w'/\Comes E.P (lone (b.at a todo) cs w) (lone d cs w') e/\d.fn=fn/\d.leaving E.P w' e
section
variable {E:bS} {C:eS} {fn:FuncId} {Q:R->List AO->Prop} {todo k:List Item} {st:St} {c:Code}
variable {d:Act->World->Prop}
theorem sq.of(h:Reach E C fn todo st Q)(j:∀a w,d a w->∃U ρ,Cn C st a w U ρ/\Wd E.gl C w U):sq E C fn todo d Q:=λb cs a w h1 h2 g=>by
 have⟨U,ρ,s,l⟩:=j a w g;exact h b cs a w U ρ h1 h2 s l
theorem sq.reach(h:sq E C fn todo d Q)(g:∀a w U ρ,Cn C st a w U ρ->Wd E.gl C w U->d a w):Reach E C fn todo st Q:=λb cs a w U ρ h1 h2 l j=>h b cs a w h1 h2 (g a w U ρ l j)
theorem sq.round{u:Act->World->Prop}(h:sq E C fn (.code c::.inLoop c::k) u Q)(D:∀a w,d a w->c.wp E.P (λe j w'=>e=.normal/\u j w') a w):sq E C fn (.code c::.inLoop c::k) d Q:=by intro b cs a w h1 h2 A;obtain⟨e,j,w',⟨rfl,l⟩,g⟩:=D a w A b (.inLoop c::k) cs;have⟨e,s,z,F,G,H⟩:=h b cs j w' h1 h2 l;exact⟨e,s,z,F,kH g (kH (.one step_inLoop) G),H⟩
theorem sq.rounds(n:Nat)(b:Nat->Act->World->Prop)(l:∀i,i<n->∀a w,b i a w->c.wp E.P (λe g w'=>e=.normal/\b (i+1) g w') a w)(h:sq E C fn (.code c::.inLoop c::k) (b n) Q):sq E C fn (.code c::.inLoop c::k) (b 0) Q:=by
 have d:∀j,j<=n->sq E C fn (.code c::.inLoop c::k) (b (n-j)) Q:=by
  intro j
  induction j with
  |zero=>exact λ_=>h
  | succ j s=>
   grind[round]
 have:=d n (zK _)
 rwa [Nat.sub_self]at this
end
section
variable {gl:Nat->R} {C:eS} {a:Act} {w:World} {U:Nat->Prop} {ρ:Nat->Option Value} {e:Sh} {m r c0:Nat} {gs:List (K3×Value)} {es:List (K3×List (N e))} {tm:List R} {h1 h2:List AO}
structure je (C:eS) (e:Sh) (tm:List R) (h1 h2:List AO) (a:Act) (w:World) (U:Nat->Prop) (ρ:Nat->Option Value) (r c0:Nat) (gs:List (K3×Value)) (es:List (K3×List (N e))):Prop where
 cn:Cn C ⟨tm,h1++.dead::h2⟩ a w U ρ
 at_:ρ (M h1)=Y (.map (Y r))
 gr:qP e w U r c0 gs es
 far:∀id b,zY ρ id ((⟨tm,h1++.dead::h2⟩:St).hp id) b->¬IM r gs b
 rb:C.B0 r\/C.w0.heap.size<=r
 nb:∀p∈gs,∀b,bz p.2=Y b->C.w0.heap.size<=b
theorem tx(o:AO)(id:Nat):(⟨tm,h1++o::h2⟩:St).hp id=if id=M h1 then o else(⟨tm,h1++.dead::h2⟩:St).hp id:=by
 show(h1++o::h2).getD id .dead=if id=M h1 then o else(h1++.dead::h2).getD id .dead
 grind
theorem zae(l:Cn C ⟨tm,h1++.gmap e []::h2⟩ a w U ρ):∃r c0,je C e tm h1 h2 a w U ρ r c0 [] []:=by
 have D:=l.hp.ob (M h1);rw[tx,zf rfl]at D;have⟨r,u,d,gs,F,q2,q3,q4,q5,q6,q7⟩:=D;have A:gs=[]:=by simpa using q6
 subst A;have hn:u=#[]:=by simpa using q5
 subst hn;have s:zY ρ (M h1) ((⟨tm,h1++.gmap e []::h2⟩:St).hp (M h1)) r:=by
  rw[tx,zf rfl];exact⟨rfl,_,F,rfl⟩
 have z:∀id b,zY ρ id ((⟨tm,h1++.dead::h2⟩:St).hp id) b->id≠M h1/\zY ρ id ((⟨tm,h1++.gmap e []::h2⟩:St).hp id) b:=λid b h=>by
  by_cases g:id=M h1
  .rw[tx,zf g]at h;cases h.1
  grind[tx]
 refine⟨r,d,⟨⟨l.tm,⟨λid=>?_,λi j b H hj=>l.hp.inj i j b (z i b H).2 (z j b hj).2,λid b h=>l.hp.blk id b (z id b h).2⟩,λid g=>l.new id (by simpa using g),l.df,l.r0⟩,F,⟨⟨#[],d,q3,sw,⟨sw,sw⟩⟩,rfl,sw,sw,sw,sw,sw,q2⟩,λid b h G=>?_,l.hp.blk _ _ s,sw⟩⟩
 .rw[tx];split
  .trivial
  .rename_i g;have:=l.hp.ob id
   rwa [tx,zh g]at this
 .rcases G with rfl|⟨p,hp,_⟩
  .exact(z id _ h).1 (l.hp.inj id (M h1) _ (z id _ h).2 s)
  .cases hp
theorem Sg(h:je C e tm h1 h2 a w U ρ r c0 gs es)(G:Wd gl C w U):∃U',Cn C ⟨tm,h1++.gmap e es::h2⟩ a w U' ρ/\Wd gl C w U':=by
 refine⟨λb=>U b/\¬∃p∈gs,bz p.2=Y b,⟨?_,⟨λid=>?_,λi j b hi hj=>?_,λid b s=>?_⟩,λid d=>h.cn.new id (by simpa using d),h.cn.df,h.cn.r0⟩,⟨G.ext,G.same,λb l=>G.ub b l.1,λb l hu=>G.u1 b l hu.1,λb l hu hB=>⟨G.u2 b l hu hB,λ⟨p,A,h0⟩=>by have:=h.nb p A b h0;omega⟩,λg=>(G.gl g).weak λ_ h=>h.1⟩⟩
 .exact⟨h.cn.tm.len,λj c v hc z=>(h.cn.tm.rv j c v hc z).weak λ_ h=>h.1⟩
 .rw[tx];split
  next d=>subst d;have⟨H,D,g1,g2,g3⟩:=h.gr.mp;refine⟨r,H,D,gs,h.at_,⟨h.gr.ur,λ⟨p,A,l⟩=>h.gr.far p A l⟩,g1,⟨by simpa using(congrArg M h.gr.keys).symm,λj c v hc z=>?_⟩,g2,h.gr.keys,h.gr.ok⟩;rw[b8,dG]at hc z;obtain⟨q,hq,rfl⟩:=hc;obtain⟨p,A,rfl⟩:=z;exact(h.gr.own j p q A hq).rv (λ_ h=>h.1) λb l hu=>hu.2 ⟨p,fw A,l⟩
  next d=>refine(h.cn.hp.ob id).mono (zK _) (λ_ _ _=>rfl) (λ_ _ h=>h.1) (λ_ _ h=>h) λb s=>⟨rfl,(aW.inU (h.cn.hp.ob id) s).1,λ⟨p,A,l⟩=>h.far id b s (.inr ⟨p,A,l⟩)⟩
 .have u:∀id b,zY ρ id ((⟨tm,h1++.gmap e es::h2⟩:St).hp id) b->(id=M h1/\b=r)\/(id≠M h1/\zY ρ id ((⟨tm,h1++.dead::h2⟩:St).hp id) b):=λid b s=>by
   rw[tx]at s;split at s
   next d=>have⟨_,v,z,l⟩:=s;rw[d,h.at_]at z;cases z;cases l;exact .inl ⟨d,rfl⟩
   next d=>exact .inr ⟨d,s⟩
  rcases u i b hi with⟨e1,e2⟩|⟨e1,e2⟩
  .rcases u j b hj with⟨f1,F⟩|⟨f1,F⟩
   .rw[e1,f1]
   .exact zp (.inl e2) (h.far j b F)
  .rcases u j b hj with⟨f1,F⟩|⟨f1,F⟩
   .exact zp (.inl F) (h.far i b e2)
   .exact h.cn.hp.inj i j b e2 F
 .rw[tx]at s;split at s
  next d=>have⟨_,v,z,l⟩:=s;rw[d,h.at_]at z;cases z;cases l;exact h.rb
  .exact h.cn.hp.blk id b s
variable {w':World}
theorem qP.keep{g:Nat->Prop}(G:qP e w U r c0 gs es)(H:w.heap.size<=w'.heap.size)(D:∀b,b<w.heap.size->¬U b->w'.heap[b]?=w.heap[b]?)(hu:∀b,b<w.heap.size->g b->U b)(l:∀b,IM r gs b->w'.heap[b]?=w.heap[b]?/\g b):qP e w' g r c0 gs es:=by refine⟨?_,G.keys,G.nd,G.ok,λj p q s F=>(G.own j p q s F).mono H D hu λb A=>l b (.inr ⟨p,fw s,A⟩),G.apart,G.far,(l r (.inl rfl)).2⟩;have⟨d,h,u,z⟩:=G.mp;exact⟨d,h,(l r (.inl rfl)).1.trans u,z⟩
variable {tm':List R}
theorem je.keep{u:Act}{l:Nat->Prop}{s:Nat->Option Value}(h:je C e tm h1 h2 a w U ρ r c0 gs es)(D:Cn C ⟨tm',h1++.dead::h2⟩ u w' l s)(g:sr w U ρ (⟨tm,h1++.dead::h2⟩:St).hp w' l s (⟨tm',h1++.dead::h2⟩:St).hp):je C e tm' h1 h2 u w' l s r c0 gs es:=by
 have z:∀b,IM r gs b->∀id,¬zY ρ id ((⟨tm,h1++.dead::h2⟩:St).hp id) b:=λb d id j=>h.far id b j d
 refine⟨D,g.rho _ _ h.at_,h.gr.keep g.ext.sz (λb A H=>g.same b A λid j=>H (aW.inU (h.cn.hp.ob id) j).1) g.u1 (λb d=>⟨g.same b (h.gr.inU d).2 (z b d),g.u2 b (h.gr.inU d).2 (h.gr.inU d).1 (z b d)⟩),λid b j d=>?_,h.rb,h.nb⟩;rcases g.own id b j with⟨i,F⟩|G
 .exact h.far i b F d
 .have:=(h.gr.inU d).2;omega
theorem je.left{U':Nat->Prop}{s:List (K3×Value)}{D:List (K3×List (N e))}(h:je C e tm h1 h2 a w U ρ r c0 gs es)(A:Wd gl C w U)(d:TO w U r gs w' U' s)(G:qP e w' U' r c0 s D):je C e tm h1 h2 a w' U' ρ r c0 s D/\Wd gl C w' U':=by
 have hk:∀b,b<w.heap.size->¬U b->w'.heap[b]?=w.heap[b]?:=λb l H=>d.same b l λF=>H (h.gr.inU F).1
 have h0:∀b,b<C.w0.heap.size->¬C.B0 b->¬IM r gs b:=λb l u F=>by
  rcases F with rfl|⟨p,hp,z⟩
  .exact h.rb.elim u λq=>by omega
  .have:=h.nb p hp b z;omega
 have h4:=A.ext.sz
 refine⟨⟨⟨⟨h.cn.tm.len,λj c v hc hv=>(h.cn.tm.rv j c v hc hv).mono d.ext.sz hk d.u1 λ_ _ h=>h⟩,⟨λid=>(h.cn.hp.ob id).mono d.ext.sz hk d.u1 (λ_ _ h=>h) λb ho=>?_,h.cn.hp.inj,h.cn.hp.blk⟩,h.cn.new,h.cn.df,h.cn.r0⟩,h.at_,G,λid b ho F=>?_,h.rb,λp hp b l=>?_⟩,
  ⟨A.ext.trans d.ext,λb l u=>(d.same b S (h0 b l u)).trans (A.same b l u),d.ub,λb l H=>A.u1 b l (d.u1 b S H),λb l H u=>d.u2 b S (A.u2 b l H u) (h0 b l u),λg=>(A.gl g).mono d.ext.sz hk d.u1 λ_ _ h=>h⟩⟩
 .have⟨u1,u2⟩:=aW.inU (h.cn.hp.ob id) ho;grind[TO.same,far,TO.u2]
 .have⟨u1,u2⟩:=aW.inU (h.cn.hp.ob id) ho;rcases d.new b F with q|q
  .exact h.far id b ho q
  .omega
 .rcases d.new b (.inr ⟨p,hp,l⟩)with(q|⟨p',h3,z⟩)|q
  .exact zp (q▸l) (G.far p hp)
  .exact h.nb p' h3 b z
  .omega
theorem je.slots{b:Act}(h:je C e tm h1 h2 a w U ρ r c0 gs es)(g:cu w U ρ tm' b.tmps.toList)(d:b.defers=[]):je C e tm' h1 h2 b w U ρ r c0 gs es:=⟨⟨g,h.cn.hp,h.cn.new,d,h.cn.r0⟩,h.at_,h.gr,h.far,h.rb,h.nb⟩
def ro(h:List Nat)(l:List R):List R:=l.mapIdx λi c=>if h.contains i then c else .any
theorem GX{ks:List Nat}{l:List R}{g:List Value}(h:cu w U ρ l g):cu w U ρ (ro ks l) g:=⟨by unfold ro;rw[List.length_mapIdx];exact h.len,λj c v b u=>by
 unfold ro at b;rw[List.getElem?_mapIdx,dG]at b;obtain⟨s,d,rfl⟩:=b;split
 .exact h.rv j s v d u
 .exact .any _⟩
end
section
variable {E:bS} {C:eS} {a:Act} {w:World} {U:Nat->Prop} {ρ:Nat->Option Value} {e:Sh} {r c0:Nat} {gs:List (K3×Value)} {es:List (K3×List (N e))} {tm tm':List R} {h1 h2:List AO} {cs:List Bool}
theorem FO{α:Type}{t:K α}{s:α}(h:t.leaf=Y s)(d:t.asks=cs)(b:cs.all id=Z):t.val=Y s:=Tr.val_leaf h (by rw[d];exact b)
theorem je.region(F:zm E){id:Nat}{ops:List Oper}(ks:List Nat)(h:je C e tm h1 h2 a w U ρ r c0 gs es)(H:Wd E.gl C w U)
  (D:(iT E ops J ⟨tm,h1++.dead::h2⟩).leaf.map (λs=>(ro ks s.tmps,s.heap))=Y (tm',h1++.dead::h2)) (hk:(iT E ops J ⟨tm,h1++.dead::h2⟩).asks=cs) (hc:cs.all _root_.id=Z):
  (Code.region id ops.toArray J).wp E.P (λz u w'=>z=.normal/\∃b l,je C e tm' h1 h2 u w' b l r c0 gs es/\Wd E.gl C w' b) a w:=by rw[dG]at D;have⟨s,hs,A⟩:=D;have⟨st,sh⟩:=s;simp only[cz]at A;obtain⟨rfl,rfl⟩:=A;have hv:=FO hs hk hc;refine wp_mono (K4 (id:=id) (draw:=J) (ops:=ops.toArray) F (by simpa using hv) h.cn H) ?_;rintro z u w' ⟨rfl,b,l,j,g,G⟩;have d:=h.keep j G;exact⟨rfl,b,l,d.slots (GX d.cn.tm) d.cn.df,g⟩
variable {Q:Exit->Act->World->Prop}
theorem je.ops(G:zm E){id:Nat}{b d:List Oper}(ks:List Nat)(h:je C e tm h1 h2 a w U ρ r c0 gs es)(hW:Wd E.gl C w U)
  (F:(bP E (b++d) b {tmps:=tm,heap:=h1++.dead::h2}).leaf.map (λs=>(ro ks s.tmps,s.heap))=Y (tm',h1++.dead::h2)) (hk:(bP E (b++d) b {tmps:=tm,heap:=h1++.dead::h2}).asks=cs) (hc:cs.all _root_.id=Z)
  (hQ:∀j w' g A,je C e tm' h1 h2 j w' g A r c0 gs es->Wd E.gl C w' g->wpOps E.P (b++d).toArray Q (List.range' (M b) (M d)) j w'):(Code.region id (b++d).toArray J).wp E.P Q a w:=by rw[dG]at F;have⟨s,hs,D⟩:=F;have hv:=FO hs hk hc;have⟨st,sh,kn,tc,lg⟩:=s;simp only[cz]at D;obtain⟨rfl,rfl⟩:=D;refine wp_region (za0 G hv h.cn.toR hW λj w' g A z u H=>?_);have l:=h.keep (tm':=st) z.out H;exact hQ j w' g A (l.slots (GX l.cn.tm) l.cn.df) u
variable {P:Program}{b:Array Oper}{v:Value}{w':World}
theorem qM{k m:Nat}{o:Oper}(g:b[k]?=Y o)(d:o.guard=none)(j:(execOp a.eval o).run P w=.ok (.value v) w')(h:wpOps P b Q (List.range' (k+1) m) (a.put o.dst v) w'):wpOps P b Q (List.range' k (m+1)) a w:=by rw[List.range'_succ];simp only[wpOps,g,Region.wanted,d,zj];exact .inl (ep j h)
theorem N5{k m:Nat}{o:Oper}(g:b[k]?=Y o)(d:o.guard=none)(j:(execOp a.eval o).run P w=.ok .skip w')(h:wpOps P b Q (List.range' (k+1) m) (a.put o.dst undef) w'):wpOps P b Q (List.range' k (m+1)) a w:=by rw[List.range'_succ];simp only[wpOps,g,Region.wanted,d,zj];exact .inl (pS j h)
section
variable {P:Program} {w':World} {f:Operand->Value} {o:Oper} {v x y:Value} {t t':TypeId} {m k p q:Operand}
theorem Dz(h1:o.op=.mapEntry t m k)(b:f m=x)(d:f k=y)(h:(Instr.mapEntry t x y).run P w=.ok v w'):(execOp f o).run P w=.ok (.value v) w':=by subst b d;simp[execOp,h1,h]
theorem yg{z:Value}(h1:o.op=.entryStore t m k p)(b:f m=x)(d:f k=y)(g:f p=z)(h:(Instr.entryStore t x y z).run P w=.ok () w'):(execOp f o).run P w=.ok .skip w':=by subst b d g;simp[execOp,h1,h]
theorem tn{b:Array Value}{i:Nat}(h1:o.op=.extract m i)(d:f m=.tuple b)(h:b[i]?=Y v):(execOp f o).run P w=.ok (.value v) w:=by simp[execOp,h1,d,Instr.extract,h]
theorem JL(h1:o.op=.call {callee:=.builtin .append,args:=#[p,q],argTypes:=#[t,t']})(b:f p=x)(d:f q=y)(h:(Builtin.append_ #[t,t'] o.type #[x,y]).run P w=.ok v w'):(execOp f o).run P w=.ok (.value v) w':=by subst b d;simp[execOp,h1,resolve,invoke,builtin,h]
end
theorem jj{a:Act}{d t:Nat}(h:d<a.tmps.size):(a.put (Y d) v).eval (.tmp t)=if t=d then v else a.eval (.tmp t):=by
 simp only[Act.eval,Act.put];rw[oD,oD];split
 next e=>subst e;simp[h]
 next e=>rw[Array.getElem?_setIfInBounds_ne (λq=>e q.symm)]
theorem CN{a:Act}{d:Option Nat}:(a.put d v).tmps.size=a.tmps.size:=by cases d<;>simp[Act.put]
theorem cu.slot{l:List R}(h:cu w U ρ l a.tmps.toList)(t:Nat):Rv w U ρ (l.getD t .any) (a.eval (.tmp t)):=by
 show Rv w U ρ _ (a.tmps.getD t undef);by_cases b:t<M l
 .have d:t<a.tmps.toList.length:=by rw[<-h.len];exact b
  refine h.rv t _ _ (by simp_all) ?_;simp_all
 .rw[bf,eA S];exact .any _
end
def jN(l:List K3):List K3:=l.foldl (λh a=>if a∈h then h else h++[a]) []
theorem qj(l:List K3)(a:K3):jN (l++[a])=if a∈jN l then jN l else jN l++[a]:=by unfold jN;rw[List.foldl_append];rfl
theorem wc(Φ:List K3->List K3->Prop)(j:Φ [] [])(h1:∀l a,Φ l (jN l)->Φ (l++[a]) (jN (l++[a]))):∀l,Φ l (jN l):=by
 have g:∀(n:Nat)(l:List K3),M l=n->Φ l (jN l):=by
  intro n
  induction n with
  |zero=>intro l d;rw[List.length_eq_zero_iff.1 d];exact j
  | succ n s=>
   intro l d;obtain⟨h,b,rfl⟩:∃h b,l=h++[b]:=⟨l.dropLast,l.getLast (List.ne_nil_of_length_pos S),(List.dropLast_concat_getLast _).symm⟩;exact h1 h b (s h (by simpa using d))
 exact λl=>g _ l rfl
theorem Fh(a:K3)(l:List K3):a∈jN l↔a∈l:=
 wc (λl u=>a∈u↔a∈l) Iff.rfl (λl b g=>by
  rw[qj];split
  .rename_i h;rw[g,bX,eh];exact⟨.inl,λq=>q.elim id λe=>e▸(wc (λl u=>∀x∈u,x∈l) (λ_ h=>h) (λl c h x d=>by
    rw[qj]at d;split at d
    .exact List.mem_append_left _ (h x d)
    .rcases bX.1 d with q|q
     .exact List.mem_append_left _ (h x q)
     .exact List.mem_append_right _ q) l) b h⟩
  .rw[bX,bX,g]) l
theorem xB(l:List K3):(jN l).Nodup:=
 wc (λ_ u=>u.Nodup) List.nodup_nil (λl b d=>by
  rw[qj];split
  .exact d
  .rename_i h;refine List.nodup_append.2 ⟨d,sw,λx g y j e=>h ?_⟩;have:y=b:=by simpa using j
   rw[<-this,<-e];exact g) l
def de(at_:Int)(rows:List zo):List (K3×List zo):=(jN (rows.map λrow=>az at_ row)).map λk=>(k,rows.filter λrow=>k==az at_ row)
section
variable {at_:Int} {rows:List (List (N ze))} {row:List (N ze)}
theorem xr:(de at_ rows).map (·.1)=jN (rows.map λrow=>az at_ row):=by unfold de;rw[hZ];exact List.map_id _
theorem J2{n:Nat}{l:List zo}(z:(rK (e:=.sl ze) (de at_ rows) (az at_ row))[n]?=Y (az at_ row,l)):
  (rK (e:=.sl ze) (de at_ rows) (az at_ row)).set n (az at_ row,l++[row])=de at_ (rows++[row]):=by
 have b:rK (e:=.sl ze) (de at_ rows) (az at_ row)=(jN ((rows++[row]).map λrow=>az at_ row)).map λk=>(k,rows.filter λrow=>k==az at_ row):=by
  unfold rK;rw[xr,fx,dc,oU,qj];split
  .rfl
  .rename_i h;rw[fx];have:(rows.filter λr=>az at_ row==az at_ r)=[]:=List.filter_eq_nil_iff.2 λr G u=>h ((Fh _ _).2 (aN.2 ⟨r,G,(aY u).symm⟩))
   rw[dc,oU,this];rfl
 have d:=xB ((rows++[row]).map λrow=>az at_ row);rw[b]at z|-;unfold de;generalize jN ((rows++[row]).map λrow=>az at_ row)=ks at z d|-;apply kE;intro j;rw[b8,dG]at z;have⟨k,A,u⟩:=z;simp only[cz]at u;obtain⟨rfl,rfl⟩:=u;have s:=(cQ.1 A).1;rw[b8,oh];split
 next q=>subst q;rw[A,zf (by simpa using s)];simp
 .rename_i q;rw[b8];cases F:ks[j]? with
  |none=>rfl
  | some H=>
   have D:(H==az at_ row)=J:=by
    rw[fH];intro e;subst e;have h1:=(cQ.1 F).1;refine q ?_;exact(List.getElem_inj (h₀:=s) (h₁:=h1) d).1 (by rw[(cQ.1 A).2,(cQ.1 F).2])
   have g:=fH.1 D;simpa[List.filter_append]using g
theorem MZ(k:K3):jW (e:=.sl ze) (de at_ rows) k=rows.filter λrow=>k==az at_ row:=by
 have d:∀b:List K3,(k∈b->jW (e:=.sl ze) (b.map λk=>(k,rows.filter λrow=>k==az at_ row)) k=(rows.filter λrow=>k==az at_ row))/\(k∉b->jW (e:=.sl ze) (b.map λk=>(k,rows.filter λrow=>k==az at_ row)) k=[]):=by
  intro b
  induction b with
  |nil=>exact⟨λh=>(by cases h),λ_=>rfl⟩
  | cons a r g=>
   have e:jW (e:=.sl ze) ((a::r).map λk=>(k,rows.filter λrow=>k==az at_ row)) k=bif k==a then rows.filter λrow=>a==az at_ row else jW (e:=.sl ze) (r.map λk=>(k,rows.filter λrow=>k==az at_ row)) k:=rfl
   rw[e];by_cases h:k=a
   .subst h;simp
   .have j:(k==a)=J:=by simpa using h
    rw[j,bT];exact⟨λq=>g.1 (by simpa[h]using q),λq=>g.2 λw=>q (og _ w)⟩
 unfold de;by_cases h:k∈jN (rows.map λrow=>az at_ row)
 .exact(d _).1 h
 .rw[(d _).2 h];exact(List.filter_eq_nil_iff.2 λr s l=>h ((Fh _ _).2 (aN.2 ⟨r,s,(aY l).symm⟩))).symm
theorem Pe{e:Sh}{es:List (K3×List (N e))}(g:(es.map (·.1)).Nodup) (u k:K3):jW (lr es u) k=if k=u then[]else jW es k:=by
 induction es with
 |nil=>split<;>rfl
 | cons p r A=>
  rw[dc,List.nodup_cons]at g;have b:∀{s:List (K3×List (N e))},p.1∉s.map (·.1)->jW s p.1=[]:=by
   intro s
   induction s with
   |nil=>exact λ_=>rfl
   | cons q s j=>
    intro h;rw[dc,bD,not_or]at h;have:(p.1==q.1)=J:=by simpa using h.1
    show(cond (p.1==q.1) q.2 (jW s p.1))=[];rw[this,bT];exact j h.2
  show jW (cond (u==p.1) r (p::lr r u)) k=_;by_cases h:u=p.1
  .subst h;rw[beq_self_eq_true,bU];split
   next q=>subst q;exact b g.1
   .rename_i q;have:(k==p.1)=J:=by simpa using q
    show _=bif k==p.1 then p.2 else jW r k
    rw[this,bT]
  .have l:(u==p.1)=J:=by simpa using h
   rw[l,bT];show(cond (k==p.1) p.2 (jW (lr r u) k))=if k=u then[]else bif k==p.1 then p.2 else jW r k
   rw[A g.2];cases z:k==p.1 with
   |false=>rfl
   | true=>
    have:k=p.1:=aY z;have d:¬k=u:=λq=>h (q.symm.trans this)
    simp only[zh d,bU]
theorem Ea{e:Sh}{es:List (K3×List (N e))}(h:(es.map (·.1)).Nodup) (u:K3):((lr es u).map (·.1)).Nodup:=h.sublist ((BB u es).map _)
theorem tv:((de at_ rows).map (·.1)).Nodup:=by rw[xr];exact xB _
end
set_option maxRecDepth 100000
def BP:Code:=match f129.body with
 |some (.seq _ (.seq _ (.seq _ (.seq _ (.seq _ (.seq (.seq _ (.block _ (.loop c))) _))))))=>c
 |_=>.skip
def K1:Code->List Oper
 |.region _ h _=>h.toList
 |_=>[]
def ziH:List (List Oper):=match BP with
 |.seq a (.seq _ (.seq (.block _ (.seq b c)) d))=>[K1 a,K1 b,(K1 c).take 7,(K1 c).drop 7,K1 d]
 |_=>[]
def Tq(i:Nat):List Oper:=ziH.getD i []
theorem Sw:BP=.seq (.region 7 (Tq 0).toArray J) (.seq (.cond (.tmp 37) .skip (.exit 0)) (.seq (.block 1 (.seq (.region 8 (Tq 1).toArray J) (.region 9 (Tq 2++Tq 3).toArray J))) (.region 10 (Tq 4).toArray J))):=kw
theorem zqJ:(Tq 3).map (λo=>(o.dst,o.op,o.guard.isNone,o.type))=[(Y 48,.mapEntry 252 (.tmp 40) (.tmp 44),Z,0),(Y 45,.extract (.tmp 48) 0,Z,88),(Y 49,.call {callee:=.builtin .append,args:=#[.tmp 45,.tmp 47],argTypes:=#[88,88]},Z,88),(Y 50,.extract (.tmp 48) 1,Z,3),(none,.entryStore 252 (.tmp 40) (.tmp 50) (.tmp 49),Z,0)]:=kw
theorem zhd:∃k,zZ f129 7=.code BP::.inLoop BP::k:=⟨(zZ f129 7).drop 2,kw⟩
abbrev tmB(l2:zo)(b:zy)(l:List (N ze.sl))(n i:Int)(h:List (Nat×R)):List R:=tm 86 ([(2,O ze l2),(3,ptr 0 0),(6,ptr 1 0),(9,ptr 2 0),(10,I b),(11,AV.mp 3),(34,O ze.sl l),(35,I n),(36,I i)]++h)
abbrev hpB(z0:zn [CP.d ao])(z1:zn sS)(z2:zn sP):List AO:=[Qb (fD [] [CP.d ao] z0),Qb (fD [] sS z1),Qb (fD [] sP z2)]
abbrev Tp:List Nat:=[2,3,6,9,10,11,34,35,36]
section
variable {C:eS} {a:Act} {w:World} {U:Nat->Prop} {ρ:Nat->Option Value} {r c0:Nat} {gs:List (K3×Value)} {l2:List (N ze)} {at':Int} {rows:List (List (N ze))} {z0:zn [CP.d ao]} {z1:zn sS} {z2:zn sP} {n i:Int}
theorem zo7{α:Type}:∀l:List α,M l=5->∃a b c d e,l=[a,b,c,d,e]
 |[a,b,c,d,e],_=>⟨a,b,c,d,e,rfl⟩
theorem ziS{es:List (K3×List zo)}{k:K3}{row:zo}{tm':List R}{Q:Exit->Act->World->Prop}(h:je C ze.sl tm' (hpB z0 z1 z2) [] a w U ρ r c0 gs es)(hW:Wd fm.gl C w U)
  (G:tm'.getD 40 .any=.mp 3/\tm'.getD 44 .any=YB k/\tm'.getD 47 .any=.sl ze.sl [row]/\M tm'=86) (h8:∀q∈es,M q.2<=1000)
  (hQ:∀a' w' U' h0 j l,je C ze.sl (ro Tp tm') (hpB z0 z1 z2) [] a' w' U' ρ r c0 h0 ((rK (e:=ze.sl) es k).set j (k,l++[row]))->(rK (e:=ze.sl) es k)[j]?=Y (k,l)->Wd fm.gl C w' U'->Q .normal a' w') (hk:∀x∈[48,45,49,50],¬x∈Tp):
  wpOps fm.P (Tq 2++Tq 3).toArray Q (List.range' (Tq 2).length (Tq 3).length) a w:=by
 have⟨t1,t2,t3,t4⟩:=G;have h5:=h.cn.tm.slot 40;have x2:=h.cn.tm.slot 44;have x3:=h.cn.tm.slot 47;rw[t1]at h5;rw[t2]at x2;rw[t3]at x3;have⟨a0,a6⟩:=wa x2;have h7:a.eval (.tmp 40)=.map (Y r):=by
  generalize a.eval (.tmp 40)=v at h5;cases h5 with
  | mp _ _ hv _=>
   have:=h.at_;rw[show(hpB z0 z1 z2).length=3 from rfl,hv]at this;cases this;rfl
 have hz:(prog.info? 88).map (λi=>i.zero)=Y (Y (.slice none 0 0)):=by kernel_rfl
 rw[dG]at hz;have⟨i0,hi,hz⟩:=hz;have⟨v,s,w1,v',w2,w3,U3,h0,j,l,q1,q2,q3,q4,G3,b⟩:=h.gr.add (E:=fm) (mt:=252) (kt:=42) (et:=88) (elem:=50) fK.toEnvOk a6 kw kw hi hz kw kw (x:=row) x3 hW.ub h8 36;have⟨h3,a5⟩:=h.left hW b G3;have hs:=zqJ;have a8:a.tmps.size=86:=by have:=h.cn.tm.len;simpa[t4]using this.symm
 generalize Tq 3=x4 at hs|-;generalize Tq 2=H;have a7:M x4=5:=by simpa using congrArg M hs
 obtain⟨o1,o2,o3,o4,o5,rfl⟩:=zo7 x4 a7;simp only[dc,oU,oQ,cz,Option.isNone_iff_eq_none,and_true]at hs;have⟨⟨d1,p1,g1,_⟩,⟨d2,p2,g2,_⟩,⟨d3,p3,g3,y3⟩,⟨d4,p4,g4,_⟩,⟨d5,p5,g5,_⟩⟩:=hs;have u:∀j,(H++[o1,o2,o3,o4,o5]).toArray[M H+j]?=[o1,o2,o3,o4,o5][j]?:=λj=>by
  rw[Ot,nf S,Nat.add_sub_cancel_left]
 generalize(H++[o1,o2,o3,o4,o5]).toArray=i1 at u|-;generalize(M H)=g at u|-;have h6:(a.put (Y 48) (.tuple #[v,s])).eval (.tmp 48)=.tuple #[v,s]:=by rw[jj S,zf rfl]
 have x8:(a.put (Y 48) (.tuple #[v,s])).tmps.size=86:=by rw[CN,a8]
 generalize z:a.put (Y 48) (.tuple #[v,s])=a1 at h6 x8;have h9:∀t,t≠48->a1.eval (.tmp t)=a.eval (.tmp t):=λt G=>by rw[<-z,jj S,zh G]
 have x9:(a1.put (Y 45) v).tmps.size=86:=by rw[CN,x8]
 have x5:(a1.put (Y 45) v).eval (.tmp 45)=v:=by rw[jj S,zf rfl]
 generalize A:a1.put (Y 45) v=a2 at x5 x9;have h4:∀t,t≠45->a2.eval (.tmp t)=a1.eval (.tmp t):=λt G=>by rw[<-A,jj S,zh G]
 have a9:(a2.put (Y 49) v').tmps.size=86:=by rw[CN,x9]
 have x6:(a2.put (Y 49) v').eval (.tmp 49)=v':=by rw[jj S,zf rfl]
 generalize D:a2.put (Y 49) v'=a3 at x6 a9;have x0:∀t,t≠49->a3.eval (.tmp t)=a2.eval (.tmp t):=λt G=>by rw[<-D,jj S,zh G]
 have x7:(a3.put (Y 50) s).eval (.tmp 50)=s:=by rw[jj S,zf rfl]
 generalize F:a3.put (Y 50) s=a4 at x7;have x1:∀t,t≠50->a4.eval (.tmp t)=a3.eval (.tmp t):=λt G=>by rw[<-F,jj S,zh G]
 refine qM (v:=.tuple #[v,s]) (w':=w1) (u 0) g1 (Dz p1 h7 a0 q1) ?_;rw[d1,z];refine qM (v:=v) (w':=w1) (u 1) g2 (tn p2 h6 rfl) ?_;rw[d2,A];refine qM (v:=v') (w':=w2) (u 2) g3 (JL p3 x5 (by rw[h4 47 (by decide),h9 47 (by decide)]) (by rw[y3];exact q2)) ?_;rw[d3,D];refine qM (v:=s) (w':=w2) (u 3) g4 (tn p4 (by rw[x0 48 (by decide),h4 48 (by decide)];exact h6) rfl) ?_;rw[d4,F];refine N5 (w':=w3) (u 4) g5 (yg p5 (by rw[x1 40 (by decide),x0 40 (by decide),h4 40 (by decide),h9 40 (by decide)];exact h7) x7 (by rw[x1 49 (by decide)];exact x6) q3) ?_;rw[d5];refine hQ _ w3 U3 h0 j l (h3.slots ?_ (by rw[<-F,<-D,<-A,<-z];exact h3.cn.df)) q4 a5;have f1:=lN (d:=Y 48) h3.cn.tm (.any (.tuple #[v,s]));have f2:=lN (d:=Y 45) f1 (.any v);have f3:=lN (d:=Y 49) f2 (.any v');have f4:=GX (ks:=Tp) (lN (d:=Y 50) f3 (.any s));have e:ro Tp (lu (lu (lu (lu tm' (Y 48) .any) (Y 45) .any) (Y 49) .any) (Y 50) .any)=ro Tp tm':=by
  unfold ro lu;apply kE;intro j;simp only[List.getElem?_mapIdx];cases hb:Tp.contains j with
  | true=>
   have hj:j∈Tp:=by simpa using hb
   have ne:∀x∈[48,45,49,50],x≠j:=λx hx e=>hk x hx (e▸hj)
   rw[wW (ne 50 sw),wW (ne 49 sw),wW (ne 45 sw),wW (ne 48 sw)]
  | false=>
   by_cases hj:j<M tm'<;>simp[hj]
 rw[e,z,A,D,F]at f4;exact f4
theorem zba(hn:n=(M rows:Int)){i:Nat}(g:i<M rows)(hl:M rows<=1000)(D:∀row∈rows,zT at' (M row)=Z)(h:je C ze.sl (tmB l2 at' rows n (i:Int) []) (hpB z0 z1 z2) [] a w U ρ r c0 gs (de at' (rows.take i)))(hW:Wd fm.gl C w U):
  BP.wp fm.P (λe a' w'=>e=.normal/\∃G ρ' r c0 A,je C ze.sl (tmB l2 at' rows n ((i+1:Nat):Int) []) (hpB z0 z1 z2) [] a' w' G ρ' r c0 A (de at' (rows.take (i+1)))/\Wd fm.gl C w' G) a w:=by
 obtain⟨row,d⟩:∃row,W rows (i:Int).toNat (zk ze.sl)=row:=⟨_,rfl⟩;have b:rows[i]=row:=by rw[<-d,aa _ _ g]
 rw[Sw];refine wp_seq (wp_mono (je.region fK (Tp++[37]) (tm':=tmB l2 at' rows n (i:Int) [(37,AV.bool (decide ((i:Int)<n)))]) (cs:=[]) h hW kw kw rfl) ?_);rintro e u w1 ⟨rfl,U1,ρ1,h1,W1⟩;have z:u.eval (.tmp 37)=.bool Z:=by
  have F:Rv w1 U1 ρ1 (AV.bool (decide ((i:Int)<n))) (u.eval (.tmp 37)):=h1.cn.tm.slot 37;rw[hn,z6 g]at F;generalize u.eval (.tmp 37)=v at F;cases F;rfl
 refine wp_seq (wp_cond_true z (wp_skip ?_));refine wp_seq (wp_block (wp_seq (wp_mono (je.region fK (Tp++[13]) (tm':=tmB l2 at' rows n (i:Int) [(13,O ze (W rows (i:Int).toNat (zk ze.sl)))]) (cs:=[zT (i:Int) (M rows)]) h1 W1 kw kw (by rw[zx g];rfl)) ?_)));rintro e a2 w2 ⟨rfl,U2,ρ2,h2,W2⟩;rw[d]at h2;refine je.ops fK (Tp++[40,44,47]) (tm':=tmB l2 at' rows n (i:Int) [(40,.mp 3),(44,YB (az at' row)),(47,.sl ze.sl [row])]) (cs:=[zT at' (M row)]) h2 W2 kw kw (by rw[D row (b▸bN g)];rfl) λa3 w3 U3 ρ3 h3 W3=>?_
 refine ziS (k:=az at' row) (row:=row) h3 W3 ⟨rfl,rfl,rfl,rfl⟩ (λq hq=>?_) (λa4 w4 U4 h0 j l s hj W4=>?_) (by decide)
 .obtain⟨x,_,rfl⟩:=aN.1 hq;exact aB (List.length_filter_le _ _) sg
 .rw[J2 hj]at s;have e1:rows.take i++[row]=rows.take (i+1):=by rw[ch g,b]
  rw[e1]at s;have e2:ro Tp (tmB l2 at' rows n (i:Int) [(40,.mp 3),(44,YB (az at' row)),(47,.sl ze.sl [row])])=tmB l2 at' rows n (i:Int) []:=by kernel_rfl
  rw[e2]at s;refine wp_mono (je.region fK Tp (tm':=tmB l2 at' rows n (Γ Δ ((i:Int)+1)) []) (cs:=[]) s W4 kw kw rfl) ?_;rintro e a5 w5 ⟨rfl,U5,ρ5,H,W5⟩;rw[zz i um]at H;exact⟨rfl,U5,ρ5,_,_,_,H,W5⟩
end
section
variable {C:eS} {l2:List (N ze)} {at':Int} {rows:List (List (N ze))} {z0:zn [CP.d ao]} {z1:zn sS} {z2:zn sP} {Q:R->List AO->Prop}
theorem za6(A:M rows<=1000)(l:∀row∈rows,zT at' (M row)=Z)(h:Reach fm C 129 (zZ f129 7) (Rq (.h7 l2 at' rows (M rows) (M rows) z0 z1 z2 (de at' rows))).2 Q):
  Reach fm C 129 (zZ f129 7) (Rq (.h7 l2 at' rows (M rows) 0 z0 z1 z2 [])).2 Q:=by
 have⟨k,z⟩:=zhd;rw[z]at h|-;refine sq.reach (sq.rounds (M rows) (λi a w=>∃U ρ r c0 gs,je C ze.sl (tmB l2 at' rows (M rows) (i:Int) []) (hpB z0 z1 z2) [] a w U ρ r c0 gs (de at' (rows.take i))/\Wd fm.gl C w U) (λi u a w ⟨U,ρ,r,c0,gs,b,d⟩=>zba rfl u A l b d) (sq.of h λa w ⟨U,ρ,r,c0,gs,b,d⟩=>?_)) λa w U ρ j d=>?_
 .rw[jg]at b;have⟨s,j,g⟩:=Sg b d;exact⟨s,ρ,j,g⟩
 .have⟨r,c0,b⟩:=zae (e:=ze.sl) (h1:=hpB z0 z1 z2) (h2:=[]) j;exact⟨U,ρ,r,c0,[],b,d⟩
end
def DC(h:an)(b:N zl.sl)(d:N ze.sl):K (FY⊕ac):=(Si h b d).bind λs=>match s with
 |.inl (.h7 l2 at' l n i z0 z1 z2 [])=>chk (i==0&&(n==(M l:Int)&&(decide (M l<=1000)&&l.all λrow:zo=>zT at' (M row)))) (.ok (.inl (.h7 l2 at' l n n z0 z1 z2 (de at' l))))
 |.inl (.h7 ..)=>.err
 |s=>.ok s
def kI(h:an)(b:N zl.sl)(d:N ze.sl):=aA [zl,zi,zi] H1 100000000 (DC h b d)
def L3(h:an)(b:N zl.sl)(d:N ze.sl):=(kI h b d).isSome
def Ub(h:an)(b:N zl.sl)(d:N ze.sl):=o3 (kI h b d)
def zjB:=FT [ao,zl.sl,ze.sl] [zl,zi,zi] λx=>kI x.1 x.2.1 x.q.1
theorem zeA:FK 129 zjB:=by
 refine aH (E:=fm) (f:=f129) (bG kw) λx hx C H=>?_
 have⟨g,j,z,u⟩:=x;have hf:zJ fm.P 129 f129 3:=bG kw;have F:∀x,run fm 0 zdI f129.results.toList 400 (aK f129) (aC f129.ntmps (gX [Y ao,Y zl.sl,Y ze.sl] x) [])=(Si x.1 x.2.1 x.q.1).map (lf f129 Rq):=by intro x;kernel_rfl
 have D:∀s,run fm 0 zdI f129.results.toList 400 (zZ f129 (Rq s).1) (Rq s).2=(H1 s).map (lf f129 Rq):=by intro s;cases s<;>kernel_rfl
 have hx:(kI g j z).isSome=Z:=hx;have⟨y,b⟩:=Option.isSome_iff_exists.1 hx;show Reach fm C 129 _ _ (λr h=>bc h [zl,zi,zi] r=Y ((kI g j z).getD (dL [zl,zi,zi])));rw[b];show Reach fm C 129 _ _ (λr h=>bc h [zl,zi,zi] r=Y y);have A:(DC g j z).val=(Si g j z).val->Reach fm C 129 (aK f129) (aC f129.ntmps (gX [Y ao,Y zl.sl,Y ze.sl] (g,j,z,u)) []) (λr h=>bc h [zl,zi,zi] r=Y y):=λe=>by
  refine HG (n:=100000000) fK hf (λid _=>H id) (F (g,j,z,u)) D ?_;unfold kI aA b6 at b;unfold aA b6;rw[e]at b;exact b
 cases d:(Si g j z).val with
 | none=>
  unfold kI aA b6 DC at b;rw[Tr.val_bind,d]at b;cases b
 | some s=>
  match s,d with
  |.inr r,d=>exact A (by unfold DC;rw[Tr.val_bind,d];rfl)
  |.inl (.h15 ..),d=>exact A (by unfold DC;rw[Tr.val_bind,d];rfl)
  | .inl (.h7 l2 at' l n i z0 z1 z2 (p::es)),d=>
   unfold kI aA b6 DC at b;rw[Tr.val_bind,d]at b;cases b
  | .inl (.h7 l2 at' l n i z0 z1 z2 []),d=>
   have e:(DC g j z).val=(chk (i==0&&(n==(M l:Int)&&(decide (M l<=1000)&&l.all λrow:zo=>zT at' (M row)))) (.ok (.inl (.h7 l2 at' l n n z0 z1 z2 (de at' l)))):K (FY⊕ac)).val:=by
    unfold DC;rw[Tr.val_bind,d];rfl
   unfold kI aA b6 at b;rw[e]at b;cases G:(i==0&&(n==(M l:Int)&&(decide (M l<=1000)&&l.all λrow:zo=>zT at' (M row))))with
   |false=>rw[G]at b;cases b
   | true=>
    rw[G]at b;simp only[ar,be,aT,dg]at G;obtain⟨rfl,rfl,h3,h4⟩:=G;refine Cz fK hf (λid _=>H id) (F (g,j,z,u)) d (za6 h3 h4 ?_);exact HG (n:=99999999) (i:=H1 (.h7 l2 at' l (M l) (M l) z0 z1 z2 (de at' l))) fK hf (λid _=>H id) (D (.h7 l2 at' l (M l) (M l) z0 z1 z2 (de at' l))) D b
def Vf:=Ve.add 129 zjB
theorem My:zm Vf:=EH.add zeA
def zc9:=Vf
theorem RV:zm zc9:=My
def zda:=zc9
theorem EI:zm zda:=RV
abbrev zoo:=fZ [(4,[2,3,5]),(9,[2,3,6]),(14,[2,3,7])]
inductive Dj where
 |h4 (i5:Int) (z0:zn [CP.d zN]) (z1:zn [CP.d zN])
 |h9 (i6:Int) (z0:zn [CP.d zN]) (z1:zn [CP.d zN])
 |h14 (i7:Int) (z0:zn [CP.d zN]) (z1:zn [CP.d zN])
abbrev zrT:Dj->Nat×St
 |.h4 h z0 z1=>(4,⟨tm 106 [(2,ptr 0 0),(3,ptr 1 0),(5,I h)],[Qb (fD [] [CP.d zN] z0),Qb (fD [] [CP.d zN] z1)]⟩)
 |.h9 b z0 z1=>(9,⟨tm 106 [(2,ptr 0 0),(3,ptr 1 0),(6,I b)],[Qb (fD [] [CP.d zN] z0),Qb (fD [] [CP.d zN] z1)]⟩)
 |.h14 g z0 z1=>(14,⟨tm 106 [(2,ptr 0 0),(3,ptr 1 0),(7,I g)],[Qb (fD [] [CP.d zN] z0),Qb (fD [] [CP.d zN] z1)]⟩)
def zat(h b:am):K (Dj⊕ac):=
 br
 (bif !h.1==b.1 then Z
 else
  bif h.q.1!=b.q.1 then Z
  else bif (M h.2.1:Int)!=(M b.2.1:Int)then Z else bif (M h.r.1:Int)!=(M b.r.1:Int)then Z else(M h.t.1:Int)!=(M b.t.1:Int))
 (re (kb J) []) (Tr.to (Dj.h4 0 (h,()) (b,())))
def Ya:Dj->K (Dj⊕ac)
 | .h4 d z0 z1=>
  let l:=(M z0.1.2.1:Int)
  let h:=W z0.1.2.1 d.toNat (zk zu)
  let b:=W z1.1.2.1 d.toNat (zk zu)
  br (decide (d<l))
  (chk (zT d (M z0.1.2.1)) (chk (zT d (M z1.1.2.1)) (br (!(h.1==b.1&&(h.2.1==b.2.1&&(h.q==b.q&&Z)))) (re (kb J) []) (Tr.to (Dj.h4 (Γ Δ (d+1)) z0 z1)))))
  (Tr.to (Dj.h9 0 z0 z1))
 | .h9 g z0 z1=>
  let l:=(M z0.1.r.1:Int)
  br (decide (g<l))
  (chk (zT g (M z0.1.r.1)) (chk (zT g (M z1.1.r.1)) (br (W z0.1.r.1 g.toNat (zk zi)!=W z1.1.r.1 g.toNat (zk zi)) (re (kb J) []) (Tr.to (Dj.h9 (Γ Δ (g+1)) z0 z1)))))
  (Tr.to (Dj.h14 0 z0 z1))
 | .h14 j z0 z1=>
  let l:=(M z0.1.t.1:Int)
  let h:=W z0.1.t.1 j.toNat (zk zW)
  let b:=W z1.1.t.1 j.toNat (zk zW)
  let s:=zP z0.1.u
  let z:=zP z1.1.u
  br (decide (j<l))
  (chk (zT j (M z0.1.t.1)) (chk (zT j (M z1.1.t.1)) (br (!(h.1==b.1&&(h.2==b.2&&Z))) (re (kb J) []) (Tr.to (Dj.h14 (Γ Δ (j+1)) z0 z1)))))
  (chk (yO s z) (re (AV.bool (r8 s z)) []))
def Hn(h b:am):=aA [Sh.bool] Ya 100000000 (zat h b)
def yP(h b:am):=(Hn h b).isSome
def pH(h b:am):=o1 (Hn h b)
def zke:=FT [zN,zN] [Sh.bool] λx=>Hn x.1 x.2.1
theorem zfg:FK 55 zke:=EI.T1 (f:=f55) (keep:=zoo) (e:=zrT)
def Vg:=zda.add 55 zke
theorem A1:zm Vg:=EI.add zfg
def znD(h b:zX):K (Empty⊕ac):=
 let d:=(h.1.1,h.1.2.1,h.1.q.1,h.1.r.1,h.1.t.1,zP h.1.u)
 let g:=(b.1.1,b.1.2.1,b.1.q.1,b.1.r.1,b.1.t.1,zP b.1.u)
 let j:=pH d g
 chk (yP d g&&bif j then P1 h.2 b.2 else Z) (re (AV.bool (cond j (Ho h.2 b.2) J)) [])
def Hr(h b:zX):=aA [Sh.bool] t0 100000000 (znD h b)
def P2(h b:zX):=(Hr h b).isSome
def Hq(h b:zX):=o1 (Hr h b)
def zjH:=FT [zl,zl] [Sh.bool] λx=>Hr x.1 x.2.1
theorem zeE:FK 56 zjH:=A1.T1 (f:=f56) (keep:=k0) (e:=e0)
def OV:=Vg.add 56 zjH
theorem vH:zm OV:=A1.add zeE
open Go Go.Proofs Go.Lib
abbrev eF:Sh:=.pr (.sl ze) (.sl (.int .u8))
abbrev cT:=N eF
abbrev cZ:Sh:=.pr ao (.pr (.sl zl) (.pr eF zi))
abbrev cU:=N cZ
abbrev aD:Sh:=.pr .str (.pr .str .bool)
abbrev jD:=N aD
abbrev pQ:=List (N aD)
abbrev bL:Sh:=.pr (.sl zl) (.pr (.sl aD) (.sl cZ))
abbrev bu:=N bL
def Lq(b:Bool):zD:=dZ (cond b [49] [48])
theorem FJ:dQ (λ_=>True) Lq:=dr.of (λb:Bool=>bif b then[49]else[48]) (λ_ _=>trivial) λa b _ _ h=>by
 cases a<;>cases b<;>simp at h<;>rfl
def ig(c:ci):zD:=dZ c.1++(ft c.2.1++Lq c.q)
theorem Gp:dQ (λ_=>True) ig:=(dr.pair (gU.pair FJ)).mono λ_ _=>⟨trivial,trivial,trivial⟩
def ii(f:bV):zD:=ft f.1++dZ f.2
theorem Gq:dQ (λ_=>True) ii:=(gU.pair dr).mono λ_ _=>⟨trivial,trivial⟩
def dh(g:jD):zD:=dZ g.1++(dZ g.2.1++Lq g.q)
theorem AW:dQ (λ_=>True) dh:=(dr.pair (dr.pair FJ)).mono λ_ _=>⟨trivial,trivial,trivial⟩
def uP(e:zg):zD:=if e.op=[]then[]else aq 16 e
def FV(e:zg):Prop:=e=.mk [] (0,0,[]) [] []\/cA 12 e=Z/\mh e
theorem yA{d:Nat}{e:zg}(h:cA (d+1) e=Z):e.op≠[]:=by
 have f:=gL h;clear h;cases f with
 |lit=>simp[zg.op]
 |col=>simp[zg.op]
 |one g a h=>rcases h with rfl|rfl<;>simp[zg.op]
 |two g a b h=>rcases h with rfl|rfl|rfl|rfl|rfl|rfl<;>simp[zg.op]
theorem QB{M d:Nat}{e:zg}{p:zD}(h:Dn M d e p):p≠[]:=by
 cases h with
 |tok _ _ _ b=>exact b
 |txt=>simp
 |no=>simp
 |null=>simp
 |two=>simp
theorem Up(a b:zg)(d:FV a)(g:FV b)(h:uP a=uP b):a=b:=by
 unfold uP at h;rcases d with rfl|⟨d,j⟩<;>rcases g with rfl|⟨g,l⟩
 .rfl
 .rw[zf (show(zg.mk [] (0,0,[]) [] []).op=[]from rfl),zh (yA g)]at h;exact zp h.symm (QB (Yu (M:=15) g l))
 .rw[zh (yA d),zf (show(zg.mk [] (0,0,[]) [] []).op=[]from rfl)]at h;exact zp h (QB (Yu (M:=15) d j))
 .rw[zh (yA d),zh (yA g)]at h;exact(C4 12 16 a b [] [] S d g j l (λ_ _ e=>by cases e) (λ_ _ e=>by cases e) (by rw[h])).1
def fk(t:am):zD:=dZ t.1++(er ig t.2.1++(ft t.q.1++(er ft t.r.1++(er ii t.t.1++dZ (uP t.u)))))
theorem sX:dQ (λt:am=>FV t.u) fk:=
 (dr.pair (Gp.list.pair (gU.pair (gU.list.pair (Gq.list.pair (dr.of uP (λ_ _=>trivial) Up)))))).mono λ_ h=>⟨trivial,λ_ _=>trivial,trivial,λ_ _=>trivial,λ_ _=>trivial,h⟩
def zgm(l:List zo):Prop:=∀r∈l,∀v∈r,aP v=Z/\Ap v
def bA(r:zX):zD:=fk r.1++er gK r.2
def Zl(r:zX):Prop:=FV r.1.u/\zgm r.2
theorem sW:dQ Zl bA:=sX.pair Gr.list
def sV(p:an):zD:=dZ p.1++(dZ p.2.1++(dZ p.q.1++(fk p.r.1++(er ft p.t.1++ft p.u))))
theorem Du:dQ (λp:an=>FV p.r.1.u) sV:=
 (dr.pair (dr.pair (dr.pair (sX.pair (gU.list.pair gU))))).mono λ_ h=>⟨trivial,trivial,trivial,h,λ_ _=>trivial,trivial⟩
def rB(l:List Int)(i:Nat):Bool:=(l.getD (i/8) 0)/2^(i%8)%2==1
def qS(t:cT):zD:=(List.range (M t.1)).map λi=>bif rB t.2 i then 49 else 48
def DZ(t:cT):Prop:=(∀v∈t.1,aP v=Z/\Ap v)/\M t.2=(M t.1+7)/8/\(∀b∈t.2,LE.le (α:=Int) 0 b/\LE.le (α:=Int) b 255)/\∀i,M t.1<=i->i<8*M t.2->rB t.2 i=J
variable {a b:List Int}
theorem ZG(s:M a=M b)(g:∀x∈a,0<=x/\x<=255)(l:∀x∈b,0<=x/\x<=255)(h:∀i,i<8*M a->rB a i=rB b i):a=b:=by
 refine List.ext_getElem s λk h1 h2=>?_
 have e:∀j,j<8->(a[k]/2^j%2==1)=(b[k]/2^j%2==1):=λj d=>by
  have:=h (8*k+j) S;unfold rB at this;rw[show(8*k+j)/8=k by omega,show(8*k+j)%8=j by omega,bf,bf,zQ h1,zQ h2]at this;exact this
 have r1:=g _ (bN h1);have r2:=l _ (bN h2);generalize a[k]=p at*;generalize b[k]=q at*;have f:∀j,j<8->p/2^j%2=q/2^j%2:=λj d=>by
  have:=e j d;rw[Ar]at this;simp only[be]at this;omega
 have e0:=f 0 S;have u:=f 1 S;have z:=f 2 S;have A:=f 3 S
 have D:=f 4 S;have F:=f 5 S;have G:=f 6 S;have H:=f 7 S
 omega
theorem Ud{u:zo}(d:DZ (u,a))(g:DZ (u,b))(h:qS (u,a)=qS (u,b)):a=b:=by
 have j:M a=(M u+7)/8:=d.2.1;have s:M b=(M u+7)/8:=g.2.1;refine ZG (j.trans s.symm) d.q.1 g.q.1 λi A=>?_
 by_cases z:i<M u
 .have:=congrArg (λl=>l[i]?) h;simp only[qS,b8,ly z,As,ax]at this;revert this;generalize rB a i=p;generalize rB b i=q;cases p<;>cases q<;>simp
 .rw[d.r i (by simpa using z) A,g.r i (by simpa using z) (by show i<8*M b;omega)]
def dY(v:zw):zD:=dZ (cV v)
theorem Dv:dQ (λv:zw=>aP v=Z/\Ap v) dY:=
 dr.of cV (λ_ _=>trivial) λa b d g h=>(I6 a b [] [] d g (by rw[h])).1
def dX(m:cU):zD:=sV m.1++(er bA m.2.1++(er dY m.q.1.1++(dZ (qS m.q.1)++ft m.r)))
def TQ(m:cU):Prop:=FV m.1.r.1.u/\(∀r∈m.2.1,Zl r)/\DZ m.q.1
theorem Dt:dQ TQ dX:=by rintro⟨p,s,⟨u,a⟩,n⟩ ⟨q,d,⟨v,b⟩,k⟩ x y g j h;have h:(sV p++(er bA s++(er dY u++(dZ (qS (u,a))++ft n))))++x=(sV q++(er bA d++(er dY v++(dZ (qS (v,b))++ft k))))++y:=h;simp only[iI]at h;have⟨h1,D⟩:=Du p q _ _ g.1 j.1 h;have⟨h2,F⟩:=sW.list s d _ _ g.2.1 j.2.1 D;have⟨l,G⟩:=Dv.list u v _ _ g.q.1 j.q.1 F;subst h1 h2 l;have⟨A,H⟩:=dr _ _ _ _ trivial trivial G;have⟨z,k5⟩:=gU _ _ _ _ trivial trivial H;subst z;exact⟨by rw[Ud g.q j.q A],k5⟩
def lB(l:bu):zD:=er bA l.1++(er dh l.2.1++er dX l.q)
def zcx(l:bu):Prop:=(∀r∈l.1,Zl r)/\∀m∈l.q,TQ m
theorem Ds:dQ zcx lB:=(sW.list.pair (AW.list.pair Dt.list)).mono λ_ h=>⟨h.1,λ_ _=>trivial,h.2⟩
end
end Cad
