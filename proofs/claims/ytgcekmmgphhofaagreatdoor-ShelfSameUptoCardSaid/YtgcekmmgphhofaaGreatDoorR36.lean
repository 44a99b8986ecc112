/- Tracks. -/
import Derived.Test.YtgcekmmgphhofaaGreatDoorR35
namespace Go.Proofs
open Cad (bx cE dR zK)
open Go.RowKit Go.Shelf
open Bool renaming false->Q5,true->Q4
open Option renaming none->Q2,some->Q1
open Decidable renaming decide->Q0
open List (length)
attribute [local go_sem] Oper.semAt_some
set_option maxRecDepth 100000 in
set_option maxHeartbeats 2000000 in
theorem Tryz.pending_bad(us bits:Value)(c:Int)(hc:c≠0)(w:World)(hb1:us.oneCell'=Q4)(hb2:bits.oneCell'=Q4)
  (hchk:∀W',Below w.heap.size w W'->Calls Tryz.prog 75 #[.agg #[us,bits]] W' λe W2=>e=.returned (.int .i64 c)/\Below W'.heap.size W' W2):
  CallsIn Fence.wide 4 Tryz.prog 78 #[.agg #[us,bits]] w λe W'=>e=.returned (.slice Q2 0 0)/\Below w.heap.size w W':=by
 refine callsIn_of_wp_marks Tryz.func78 rfl trivial ?_ rfl;simp only[Tryz.ntmps78,List.size_toArray,bx,cE,Nat.reduceAdd,Nat.reduceSub,Array.replicate_succ,Array.replicate_zero,List.push_toArray,List.append_toArray,dR,List.cons_append];have hB0:Below w.heap.size w (w.alloc (.cells #[us,bits] 53)):=(Below.refl _ w).alloc (zK _) _;have d0:=run_store_one us hb1;have d1:=run_store_one bits hb2
 gi_wp2_with (refine⟨trivial,?_⟩;refine(callsIn_wide.2 (hchk _ hB0)).mono ?_;rintro e W1 ⟨rfl,hW1⟩)
 exact⟨_,results_tmp rfl _ _ _,rfl,hB0.trans (hW1.mono (by simp))⟩
end Go.Proofs
namespace Cad
open Go Go.Proofs Tryz
open List renaming length->M
open IntKind renaming wrap->Γ,i64->Δ
open Tr renaming val->Q9
open Sh renaming bool->Q8
open Bool renaming false->Q5,true->Z
open Option renaming none->Q2,some->Y
open Decidable renaming decide->L
open Cad renaming ze->Q,ow->S,AV->R
set_option maxHeartbeats 4000000
set_option maxRecDepth 100000
open Tr (chk br re)
open AV (nils agg tup ptr kb str sl)
noncomputable section
def KL(us:zo)(b:List Int):zo:=((us.zip ((List.range (M us)).map λ(i:Nat)=>qV b (i:Int))).filter λp=>!p.2).map (·.1)
def kU(t:cT):Bool:=FI t&&(nU t !=0||(L (M t.1<=1000)&&(List.range (M t.1)).all λ(i:Nat)=>FH t.2 (i:Int)))
def tW(t:cT):zo:=if nU t=0 then KL t.1 t.2 else[]
def zjp:=ae [eF] [.sl Q] (λx=>kU x.1) λx=>(tW x.1,())
abbrev Q3:=zw×(R3×Bool)
def E6(l:List Q3):List Value:=l.flatMap λq=>q.2.1.1
theorem E7:∀(l:List Q3)(i j:Nat)(h:i<M l),j<3->(E6 l)[i*3+j]?=l[i].2.1.1[j]?
 | x::r,0,j,_,hj=>by
  show(x.2.1.1++E6 r)[0*3+j]?=x.2.1.1[j]?;rw[qQ (by rw[x.2.1.2.1];omega),Nat.zero_mul,dz]
 | x::r,i+1,j,h,hj=>by
  show(x.2.1.1++E6 r)[(i+1)*3+j]?=_;rw[nf (by rw[x.2.1.2.1];omega),x.2.1.2.1,show(i+1)*3+j-3=i*3+j by omega,E7 r i j (by simpa using h) hj];rfl
variable {w:World}{U:Nat->Prop}{h:Nat->Option Value}{v:Value}
theorem ziA{z:World}(y:∀b,U b->b<w.heap.size)(A:RowKit.Below w.heap.size w z){d:List Q3}(E:M d<=1000)(m:z.ownsRow w.heap.size 42 3 v (M d) (E6 d))(hq:∀q∈d,∀(j:Nat) c,(zq Q q.1)[j]?=Y c->∃x,q.2.1.1[j]?=Y x/\Rv w U h c x):
  Rv z U h (.sl Q (d.map (·.1))) v:=by
 rcases m.2 with⟨rfl,h0⟩|⟨g,o,e,rfl,H,k,h1,P,s,u⟩
 .have:d=[]:=List.length_eq_zero_iff.1 S;rw[this];exact .sl0 Q _ _
 .have F:(d.map (·.1)).length=M d:=by simp
  rw[<-F];refine .sl Q _ g 0 o (λi j=>(e[i*3+j]?).getD undef) S um (dq.1 k).1 (λa=>by have:=y g a;omega) (λi j D n=>?_) (λi D j c p=>?_)
  .have n:j<3:=n;have t:i*3+j<e.size:=by rw[s];omega
   simp[World.cell?,k,oP t,show ze.size=3 from rfl]
  .have l:i<M d:=by simpa using D
   have n:j<3:=by
    have:=(cQ.1 p).1
    rwa [zS]at this
   have C:=E7 d i j l n;rw[List.getElem_map]at p;have⟨x,hx,hr⟩:=hq _ (bN l) j c p;rw[hx,<-u,List.getElem?_take_of_lt S,lx]at C;rw[C];exact hr.mono A.size (λb G _=>A.block b G) (λ_ _ a=>a) (λ_ _ a=>a)
theorem Xv(u:zo)(b:List Int)(h:List Q3)(x:h.map (·.1)=u) (a:h.map (·.2.2)=(List.range (M u)).map λ(i:Nat)=>qV b (i:Int)):KL u b=(h.filter λq=>!q.q).map (·.1):=by unfold KL;rw[<-a,<-x,List.zip_map',List.filter_map,hZ];rfl
theorem Lp{u:zo}(G:List Int)(ru:Rv w U h (.sl Q u) v):∃(a:Option Addr)(g b y:Nat)(z:List Q3),v=.slice a (M u) g/\z.map (·.1)=u/\(z.map (·.2.2)=(List.range (M u)).map λ(i:Nat)=>qV G (i:Int))/\(∀q∈z,∀(j:Nat) c,(zq Q q.1)[j]?=Y c->∃x,q.2.1.1[j]?=Y x/\Rv w U h c x)/\(∀i(s:i<M z),∀j d,z[i].2.1.1[j]?=Y d->w.cell? ⟨b,y+i*3+j,Q2⟩=Y d)/\(0<M u->b<w.heap.size/\a=Y ⟨b,y,Q2⟩):=by
 obtain⟨a,g,rfl,H,hm,E⟩:=Ac ru;rcases E with rfl|⟨b,o,rfl,hR⟩
 .exact⟨a,g,0,0,[],rfl,rfl,rfl,sw,sw,sw⟩
 have k:∀i(s:i<M u) j,j<3->∃c x,(zq Q u[i])[j]?=Y c/\w.cell? ⟨b,o+i*3+j,Q2⟩=Y x/\Rv w U h c x/\x.oneCell'=Z:=by
  intro i s j p;have t:(zq Q u[i]).length=3:=zS Q u[i];have e:(zq Q u[i])[j]?=Y ((zq Q u[i])[j]'(by rw[t];exact p)):=zQ _;obtain⟨x,D,n⟩:=hR i s j _ e;exact⟨_,x,e,D,n,eT Q u[i] j _ x e n⟩
 refine⟨_,g,b,o,List.ofFn λi:Fin (M u)=>(u[i],(⟨(List.range 3).map λj=>(w.cell? ⟨b,o+i.1*3+j,Q2⟩).getD undef,sw,λd l=>by
  obtain⟨j,p,rfl⟩:=aN.1 l;obtain⟨c,x,_,n,_,h4⟩:=k i.1 i.2 j (by simpa using p);rw[n];exact h4⟩,qV G (i.1:Int))),rfl,?_,?_,?_,?_,λh0=>⟨?_,rfl⟩⟩
 .refine List.ext_getElem sw λi D n=>by simp
 .refine List.ext_getElem sw λi D n=>by simp
 .intro q C j c A;rw[List.mem_ofFn]at C;obtain⟨i,rfl⟩:=C
  dsimp only at A|-
  have p:j<3:=by
   have:=(cQ.1 A).1
   rwa [zS]at this
  obtain⟨P,x,e1,m,e3,_⟩:=k i.1 i.2 j p;have:P=c:=by rw[show u[i]=u[i.1]from rfl,e1]at A;exact Option.some.inj A
  subst this;exact⟨x,by rw[b8,ly p];simp[m],e3⟩
 .intro i s j d l;simp only[List.getElem_ofFn,b8,dG]at l;obtain⟨q,C,l⟩:=l;obtain⟨F,rfl⟩:=qy C;obtain⟨c,x,_,m,_,_⟩:=k i (by simpa using s) q F;rw[m]at l;rw[m,<-l];rfl
 .obtain⟨c,x,_,m,_⟩:=k 0 h0 0 S;exact gE m
theorem SH(h9:lR mr.gl w U)(h6:∀b,U b->b<w.heap.size){t:cT}(hr:Rv w U h (zI eF t) v)(hc:kU t=Z):
  Calls prog 78 #[v] w λe H=>∃x,e=.returned x/\RowKit.Below w.heap.size w H/\Rv H U h (.sl Q (tW t)) x:=by
 unfold kU at hc;simp only[ar,iJ,bne_iff_ne,aT,dg,jF]at hc;obtain⟨h0,h1⟩:=hc;obtain⟨u,s⟩:=t
 dsimp only at h1
 cases hr with
 |agg _ vs hl p F=>
 match vs,hl with
 |[vu,G],_=>
 have ru:=F 0 (.sl Q u) vu rfl rfl;have rb:=F 1 (.sl (.int .u8) s) G rfl rfl;have o1:=p vu sw;have o2:=p G sw;have A:∀m,RowKit.Below w.heap.size w m->lR mr.gl m U:=λm n g=>(h9 g).mono n.size (λb P _=>n.block b P) (λ_ _ d=>d) (λ_ _ d=>d)
 have D:∀m,RowKit.Below w.heap.size w m->∀b,U b->b<m.heap.size:=λm n b P=>cM (h6 b P) n.size
 have o:∀{c:R}{x:Value}{m:World},RowKit.Below w.heap.size w m->Rv w U h c x->Rv m U h c x:=λn d=>d.mono n.size (λb P _=>n.block b P) (λ_ _ d=>d) (λ_ _ d=>d)
 have E:∀m,RowKit.Below w.heap.size w m->Calls prog 75 #[.agg #[vu,G]] m λe H=>e=.returned (.int .i64 (nU (u,s)))/\RowKit.Below m.heap.size m H:=λm n=>
  I8 (t:=(u,s)) (A m n) (D m n) (.agg _ [vu,G] rfl p (λj c v hc hv=>o n (F j c v hc hv))) h0
 by_cases hz:nU (u,s)=0
 .have hp:tW (u,s)=KL u s:=by unfold tW;rw[zf hz]
  rw[hp];rw[hz]at E;obtain⟨h2,h3⟩:=h1.resolve_left (λd=>d hz);have hm:M u<=1000:=h2;obtain⟨a,h8,b,x1,y,rfl,q1,q2,q3,q4,q5⟩:=Lp s ru;have x0:M y=M u:=by rw[<-q1];simp
  have h5:(y.map (·.2)).length=M u:=by simp[x0]
  have h7:=Tryz.pending_in G a b x1 h8 (y.map (·.2)) S w o2 (λd=>(q5 S).1) (λd=>(q5 S).2) (by rw[h5];exact E) (λm n k hk=>?_) (λi hi j v d=>q4 i S j v (by simpa using d))
  .rw[h5]at h7;refine(callsIn_wide.1 h7).mono ?_;rintro e H ⟨v,rfl,C,z⟩;refine⟨v,rfl,z,?_⟩;have e1:undone (y.map (·.2))=(y.filter λq=>!q.2.2).map (·.2):=by
    unfold undone;rw[List.filter_map];rfl
   have e2:flatU (y.map (·.2))=E6 (y.filter λq=>!q.2.2):=by
    unfold flatU E6;rw[e1,List.flatMap_map]
   rw[e1,e2,bR]at C;rw[Xv u s y q1 q2];exact ziA h6 z (aB (List.length_filter_le _ _) S) C λq hq=>q3 q (List.mem_filter.1 hq).1
  .have h4:k<M u:=by omega
   have e:((y.map λq:Q3=>q.2)[k]'hk).2=qV s (k:Int):=by
    have:=congrArg (λl=>l[k]?) q2;simp only[b8,ly h4,As]at this;rw[zQ S]at this;simpa using this
   rw[e];exact IZ (A m n) (D m n) S (o n rb) (h3 k h4)
 .have hp:tW (u,s)=[]:=by unfold tW;rw[zh hz]
  rw[hp];refine(callsIn_wide.1 (Tryz.pending_bad vu G _ hz w o1 o2 E)).mono ?_;rintro e H ⟨rfl,n⟩;exact⟨_,rfl,n,.sl0 Q _ _⟩
theorem zeo:FK 78 zjp:=by
 refine cY (E:=mr) ⟨f78,kw,kw,kw⟩ λx p o h=>?_
 unfold dJ at h;split at h
 .simp only[Q9]at h;split at h
  .rename_i m;simp only[ax]at h;subst h;have⟨t,u⟩:=x;intro C w U s b _ c k a g d;have n:=c.len
   match b,n,c with
   | [i],_,c=>
    have j:=c.rv 0 (zI eF t) i rfl rfl;refine(SH (U:=U) d.gl d.ub (t:=t) (v:=i) j m).mono ?_;rintro e q ⟨x,rfl,l,h⟩;exact cI k a g d l h
  .cases h
 .simp at h
end
end Cad
namespace Go.Proofs
open Cad (aN b8 bN bf bx cE cM dR dq lx zK zQ)
open Go.RowKit Go.Shelf
open Bool renaming false->Q5,true->Q4
open Option renaming none->Q2,some->Q1
open Decidable renaming decide->Q0
open List (length)
attribute [local go_sem] Oper.semAt_some
def marksL(l:List (R3×Bool)):List Int:=l.map λx=>if x.2 then 49 else 48
theorem marksL_ok(l:List (R3×Bool)):∀x∈marksL l,0<=x/\x<=255:=λx hx=>by
 obtain⟨y,_,rfl⟩:=aN.1 hx;split<;>omega
theorem marksL_snoc(l:List (R3×Bool))(x:R3×Bool):marksL (l++[x])=marksL l++[if x.2 then 49 else 48]:=by simp[marksL]
theorem marksL_len(l:List (R3×Bool)):(marksL l).length=l.length:=by simp[marksL]
variable {W:World}
theorem conv_row{n₀ k:Nat}{v:Value}{l:List Int}(hl:l.length<=1000)(h:∀x∈l,0<=x/\x<=255)(hrow:W.ownsRow n₀ 5 1 v k (l.map (.int .u8)))(hk:k=l.length):(convert 51 9 v).run Tryz.prog W=.ok (.string ⟨(Cad.aL l).toArray⟩) W:=by
 have hr:Cad.Rv W (λ_=>False) (λ_=>Q2) (.sl (.int .u8) l) v:=by
  rcases hrow.2 with⟨rfl,h0⟩|⟨g,cap,cur,rfl,hbg,hgb,hnc,hcm,hcs,htk⟩
  .have:l=[]:=List.length_eq_zero_iff.1 (by omega);rw[this];exact .sl0 _ _ _
  .subst hk;refine .sl _ _ g 0 cap (λi _=>.int .u8 (l.getD i 0)) (by omega) (by unfold Cad.af;omega) (dq.1 hgb).1 (λh=>h) (λi j hi hj=>?_) (λi hi j c hc=>?_)
   .have hj:j=0:=by have:j<1:=hj;omega
    subst hj;have e:cur[i]?=Q1 (.int .u8 (l.getD i 0)):=by
     have:(cur.toList.take l.length)[i]?=(l.map (Value.int .u8))[i]?:=by rw[<-htk,Nat.mul_one]
     rw[List.getElem?_take_of_lt (by omega),lx,b8,zQ hi]at this;rw[this,bf,zQ hi];rfl
    show W.cell? ⟨g,0+i*1+0,Q2⟩=_;unfold World.cell?;rw[hgb];simpa using e
   .match j,hc with
    | 0,hc=>
     cases hc;rw[bf,zQ hi];have:=h _ (bN hi);exact .int _ _ ⟨this.1,this.2⟩
 obtain⟨r,x,e1,e2,e3⟩:=Cad.kL (P:=Tryz.prog) (src:=51) (dst:=9) (el:=5) (x:=.sl (.int .u8) l) (f:={val:=.str (Cad.aL l)}) (by unfold Cad.nz;rw[show Tryz.prog.underlying 5=Q1 (.int .u8) by kernel_rfl];rfl) Tryz.underlying51 Tryz.underlying9 hr;cases e1;cases e3;exact e2
theorem keep_box{w1:World}{tmp:Obj}{row:Option Nat}{o:Obj}(L:Nat)(hT:W.heap[L+1]?=Q1 o)(hne:Q1 (L+1)≠row)(hgr:(W.alloc tmp).grownBy w1 row)(u:Value):(w1.setCell ⟨L,0,Q2⟩ u).heap[L+1]?=Q1 o:=by have hlt0:L+1<W.heap.size:=(dq.1 hT).1;have t1:w1.heap[L+1]?=Q1 o:=(hgr.block _ (by simp;omega) (λe=>hne e)).trans ((((Below.refl _ W).alloc (zK _) _).block _ hlt0).trans hT);exact((grownBy_setCell' w1 L u).block _ (dq.1 t1).1 (λe=>by simp at e)).trans t1
theorem Tryz.info5:(Tryz.prog.info? 5).map (λi=>(i.zero,i.size,i.bytes))=Q1 (Q1 (.int .u8 0),1,1):=by kernel_rfl
set_option maxRecDepth 100000 in
set_option maxHeartbeats 2000000 in
theorem Tryz.text_in(bits:Value)(p:Option Addr)(b off cap:Nat)(zs:List (R3×Bool))(hreach:zs.length<=1000)(w:World)(hb2:bits.oneCell'=Q4)(hb:0<zs.length->b<w.heap.size)(hp:0<zs.length->p=Q1 ⟨b,off,Q2⟩)
  (hchk:∀W',Below w.heap.size w W'->Calls Tryz.prog 75 #[.agg #[.slice p zs.length cap,bits]] W' λe W2=>e=.returned (.int .i64 0)/\Below W'.heap.size W' W2)
  (hbit:∀W',Below w.heap.size w W'->∀k(hk:k<zs.length),Calls Tryz.prog 123 #[bits,.int .i64 k] W' λe W2=>e=.returned (.bool zs[k].2)/\Below W'.heap.size W' W2)
  (hc:∀i(hi:i<zs.length),∀j v,zs[i].1.1[j]?=Q1 v->w.cell? ⟨b,off+i*3+j,Q2⟩=Q1 v):
  CallsIn Fence.wide 4 Tryz.prog 53 #[.agg #[.slice p zs.length cap,bits]] w λe W'=>e=.returned (.tuple #[.string ⟨(Cad.aL (marksL zs)).toArray⟩,.int .i64 0])/\Below w.heap.size w W':=by
 obtain⟨i0,hi,hz0,hz1,hz2⟩:=info_parts Tryz.info5;refine callsIn_of_wp_marks Tryz.func53 rfl trivial ?_ rfl;simp only[Tryz.ntmps53,List.size_toArray,bx,cE,Nat.reduceAdd,Nat.reduceSub,Array.replicate_succ,Array.replicate_zero,List.push_toArray,List.append_toArray,dR,List.cons_append];have hB0:Below w.heap.size w (w.alloc (.cells #[.slice p zs.length cap,bits] 53)):=(Below.refl _ w).alloc (zK _) _;have d1:=run_store_one bits hb2
 gi_wp2_with (first
  |(refine⟨trivial,?_⟩;refine(callsIn_wide.2 (hchk _ hB0)).mono ?_;rintro e W1 ⟨rfl,hW1⟩;have hs1:w.heap.size<W1.heap.size:=cM (by simp) hW1.size;have cT0:W1.cell? ⟨w.heap.size,0,Q2⟩=Q1 (.slice p zs.length cap):=(hW1.cell (p:=⟨w.heap.size,0,Q2⟩) (by simp)).trans (by unfold World.cell?;rw[World.alloc_heap_new];rfl);have cT1:W1.cell? ⟨w.heap.size,1,Q2⟩=Q1 bits:=(hW1.cell (p:=⟨w.heap.size,1,Q2⟩) (by simp)).trans (by unfold World.cell?;rw[World.alloc_heap_new];rfl))
  |(refine⟨trivial,?_⟩;refine(Tryz.each_in 3 _ bits _ rfl hb2).mono ?_;rintro e W3 ⟨rfl,rfl⟩))
 have hsz1:w.heap.size<=W1.heap.size:=Nat.le_of_lt hs1;have hW:Below w.heap.size w W1:=hB0.trans (hW1.mono (by simp));have bO:=Boxed.new W1 51 (.slice Q2 0 0);have hB2:Below W1.heap.size W1 ((W1.alloc (.cells #[.slice Q2 0 0] 51)).alloc (.cells #[.slice p zs.length cap,bits] 53)):=((Below.refl _ W1).alloc (zK _) _).alloc (by simp) _;have hBs0:((W1.alloc (.cells #[.slice Q2 0 0] 51)).alloc (.cells #[.slice p zs.length cap,bits] 53)).heap[W1.heap.size+1]?=Q1 (.cells #[.slice p zs.length cap,bits] 53 (0,0)):=by
  have:=World.alloc_heap_new (W1.alloc (.cells #[.slice Q2 0 0] 51)) (.cells #[.slice p zs.length cap,bits] 53)
  rwa [World.size_alloc]at this
 have hbx:=bO.alloc (.cells #[.slice p zs.length cap,bits] 53);have hsz3:((W1.alloc (.cells #[.slice Q2 0 0] 51)).alloc (.cells #[.slice p zs.length cap,bits] 53)).heap.size=W1.heap.size+2:=by simp
 generalize(W1.alloc (.cells #[.slice Q2 0 0] 51)).alloc (.cells #[.slice p zs.length cap,bits] 53)=W3 at hB2 hBs0 hbx hsz3|-;have hW3:Below w.heap.size w W3:=hW.trans (hB2.mono hsz1);generalize hL:W1.heap.size=L at*
 refine wpIn_rangeFunc_ownH rfl (by omega) (gf:=139) (lb:=#[.pointer (Q1 ⟨L+1,0,Q2⟩)]) rfl trivial (enters_of Tryz.func139 (by kernel_rfl) rfl)
  (Tryz.each_stops 3 (by omega) (L+1) w.heap.size b off cap p bits zs hreach hb hp W3 (by omega) (by omega) (λW' h=>hbit W' (hW3.trans h.1)) (by unfold World.cell?;rw[hBs0];rfl) (by unfold World.cell?;rw[hBs0];rfl) (λi hi j v h=>(hW3.cell (p:=⟨b,off+i*3+j,Q2⟩) (hb (by omega))).trans (hc i hi j v h)))
  KpB.trans (λW l o o' hl ho h1 h2=>⟨belowK_b (w:=w) (n₀:=w.heap.size) (zK _) W l o o' (by omega) ho h1 h2,?kb⟩) (Below.refl _ _) (λ_=>rfl)
  (λpre W=>((∃v,Boxed W L 51 v/\W.ownsRow w.heap.size 5 1 v pre.length ((marksL pre).map (.int .u8))/\(v=.slice Q2 0 0↔pre=[]))/\Below w.heap.size w W)/\W.heap[L+1]?=Q1 (.cells #[.slice p zs.length cap,bits] 53 (0,0)))
  (λ_ _ _=>False)
  (OwnFrom.and (OwnFrom.and (Own.from (holdsRow_own w.heap.size L 51 5 1 (λpre=>pre.length) (λpre=>(marksL pre).map (.int .u8)) (λpre v=>v=.slice Q2 0 0↔pre=[])) _) (ownFrom_below (zK _) (by omega))) (Own.from (λs X Y row hs hg hr=>cells_own (L+1) _ 53 () X Y row hs hg hr) _))
  (λ_ _ _ _ _ hs _ _=>hs)
  ⟨⟨⟨_,hbx,World.ownsRow_nil _ _ _ _,by simp⟩,hW3⟩,hBs0⟩
  (λx a' _=>a'={tmps:=#[.agg #[.slice p zs.length cap,bits],.pointer (Q1 ⟨w.heap.size,0,Q2⟩),.string ⟨#[]⟩,.int .i64 0,.pointer (Q1 ⟨L,0,Q2⟩),undef,.bool x.2,.agg #[.slice p zs.length cap,bits],.int .i64 0,.bool Q5,.agg #[.slice p zs.length cap,bits],.func (.func 139) #[] #[.pointer (Q1 ⟨L+1,0,Q2⟩)],.agg x.1.1.toArray,.bool x.2,undef,undef,undef,undef,undef,undef,undef,undef,undef],defers:=[]})
  (λx a' _ X Y row hs hg hr=>hs)
  ?assign ?body ?done ?stop
 case kb=>exact(grownBy_putObj' W l o').block _ (by have:=(dq.1 ho).1;omega) (λe=>by cases e;omega)
 case assign=>
  rintro l pre x W K ⟨⟨⟨v,hv,hrow,hnil⟩,hB⟩,hT⟩ hK
  dsimp only[encY]
  gi_wp2
  exact hK _ _ (KeepsFrom.refl _ _) (KpB.refl _ _ _) ⟨⟨⟨v,hv,hrow,hnil⟩,hB⟩,hT⟩ rfl
 case body=>
  rintro l pre ⟨⟨xs,hxl,hx1⟩,dn⟩ a' W hl ⟨r,hr⟩ ⟨⟨⟨v,hv,hrow,hnil⟩,hB⟩,hT⟩ rfl hlt;have hcv:=hv.cell;have hne:Q1 (L+1)≠v.ownBlock:=λe=>by
   rcases hrow.2 with⟨rfl,_⟩|⟨g,cap',cur,rfl,_,hgb,_⟩
   .cases e
   .obtain rfl:L+1=g:=by simpa[Value.ownBlock]using e
    rw[hT]at hgb;cases hgb
  cases dn with
  | true=>
   gi_wp2_with (gi_at_builtin;refine wpListIn_append_own _ rfl _ _ 51 rfl w.heap.size 5 i0 _ 1 1 Tryz.underlying51 hi hz0 hz1 hz2 rfl (by decide) _ _ _ rfl (hrow.alloc _) ⟨W.heap.size,0,Q2⟩ 1 1 [.int .u8 49] rfl rfl (cell_row_new _ _ _) (by simp[Value.oneCell']) (by unfold maxLen;omega) (by omega) (by have:=hB.size;simp;omega) ?_;intro v' w1 hown' hgrow _;obtain⟨g',cap',rfl⟩:=ownsRow_succ hown';obtain⟨hv1,hv2,hr2,hk2,hb2⟩:=hv.appended (by decide) hrow hB.size hsz1 hown' hgrow;have hc1:=hv1.cell;have hf1:=hv1.frozen;have hgr:=hgrow)
   have t2:=keep_box L hT hne hgr;exact⟨hk2.from _,⟨hb2,(t2 _).trans hT.symm⟩,⟨⟨_,hv2,by rw[marksL_snoc];simpa using hr2,by simp⟩,hB.trans hb2⟩,t2 _⟩
  | false=>
   gi_wp2_with (gi_at_builtin;refine wpListIn_append_own _ rfl _ _ 51 rfl w.heap.size 5 i0 _ 1 1 Tryz.underlying51 hi hz0 hz1 hz2 rfl (by decide) _ _ _ rfl (hrow.alloc _) ⟨W.heap.size,0,Q2⟩ 1 1 [.int .u8 48] rfl rfl (cell_row_new _ _ _) (by simp[Value.oneCell']) (by unfold maxLen;omega) (by omega) (by have:=hB.size;simp;omega) ?_;intro v' w1 hown' hgrow _;obtain⟨g',cap',rfl⟩:=ownsRow_succ hown';obtain⟨hv1,hv2,hr2,hk2,hb2⟩:=hv.appended (by decide) hrow hB.size hsz1 hown' hgrow;have hc1:=hv1.cell;have hf1:=hv1.frozen;have hgr:=hgrow)
   have t2:=keep_box L hT hne hgr;exact⟨hk2.from _,⟨hb2,(t2 _).trans hT.symm⟩,⟨⟨_,hv2,by rw[marksL_snoc];simpa using hr2,by simp⟩,hB.trans hb2⟩,t2 _⟩
 case done=>
  rintro D ys W hD rfl ⟨⟨⟨v,hv,hrow,hnil⟩,hB⟩,hT⟩ hK;have hc:=hv.cell;have kc:=conv_row (l:=marksL ys) (by rw[marksL_len];exact hreach) (marksL_ok ys) hrow (marksL_len ys).symm
  gi_wp2
  refine⟨by simp,.inl ⟨_,_,rfl,run_takeDeferred hK,?_⟩⟩;exact⟨_,results_tmp2 rfl _ _ _,rfl,hB.trans (belowK_b (w:=w) (zK _) W D _ _ (by omega) hK rfl rfl)⟩
 case stop=>
  rintro D c pre W _ _ h _;exact h.elim
open Cad (bx cE dR zK)
attribute [local go_sem] Oper.semAt_some
set_option maxRecDepth 100000 in
set_option maxHeartbeats 2000000 in
theorem Tryz.text_bad(us bits:Value)(c:Int)(hc:c≠0)(w:World)(hb1:us.oneCell'=Q4)(hb2:bits.oneCell'=Q4)
  (hchk:∀W',Below w.heap.size w W'->Calls Tryz.prog 75 #[.agg #[us,bits]] W' λe W2=>e=.returned (.int .i64 c)/\Below W'.heap.size W' W2):
  CallsIn Fence.wide 4 Tryz.prog 53 #[.agg #[us,bits]] w λe W'=>e=.returned (.tuple #[.string ⟨#[]⟩,.int .i64 1])/\Below w.heap.size w W':=by
 refine callsIn_of_wp_marks Tryz.func53 rfl trivial ?_ rfl;simp only[Tryz.ntmps53,List.size_toArray,bx,cE,Nat.reduceAdd,Nat.reduceSub,Array.replicate_succ,Array.replicate_zero,List.push_toArray,List.append_toArray,dR,List.cons_append];have hB0:Below w.heap.size w (w.alloc (.cells #[us,bits] 53)):=(Below.refl _ w).alloc (zK _) _;have d0:=run_store_one us hb1;have d1:=run_store_one bits hb2
 gi_wp2_with (refine⟨trivial,?_⟩;refine(callsIn_wide.2 (hchk _ hB0)).mono ?_;rintro e W1 ⟨rfl,hW1⟩)
 exact⟨_,results_tmp2 rfl _ _ _,rfl,hB0.trans (hW1.mono (by simp))⟩
end Go.Proofs
namespace Cad
open Go Go.Proofs Tryz
open List renaming length->M
open IntKind renaming wrap->Γ,i64->Δ
open Tr renaming val->Q9
open Sh renaming bool->Q8
open Bool renaming true->Z,false->J
open Option renaming none->Q2,some->Y
open Decidable renaming decide->L
open Cad renaming ze->Q,AV->R,ow->S,ai->I,Sem->N,Tr->K
set_option maxHeartbeats 4000000
set_option maxRecDepth 100000
open Tr (chk br re)
open AV (nils agg tup ptr kb str)
open AV renaming sl->O
noncomputable section
def jR(t:cT):zD×Int:=if nU t=0 then(aL (((List.range (M t.1)).map λ(i:Nat)=>qV t.2 (i:Int)).map λb=>if b then 49 else 48),0)else([],1)
def zkQ:=ae [eF] [.str,zi] (λx=>kU x.1) λx=>((jR x.1).1,(jR x.1).2,())
theorem Te(t:cT):bq .i64 (jR t).2:=by unfold jR;split<;>(dsimp only;unfold bq;decide)
theorem Td(t:cT)(h:kU t=Z):(jR t).1.length<=af:=by
 unfold kU at h;simp only[ar,iJ,bne_iff_ne,aT,dg,jF]at h;unfold jR;split
 next x=>have:=(h.2.resolve_left λq=>q x).1;simp only[aL,bR,List.length_range];unfold af;omega
 .simp
variable {w:World}{U:Nat->Prop}{h:Nat->Option Value}{t:cT}
theorem Tg(h6:lR mr.gl w U)(h8:∀b,U b->b<w.heap.size){v:Value}(hr:Rv w U h (zI eF t) v)(G:kU t=Z):
  Calls prog 53 #[v] w λe w'=>e=.returned (.tuple #[.string ⟨(jR t).1.toArray⟩,.int .i64 (jR t).2])/\RowKit.Below w.heap.size w w':=by
 unfold kU at G;simp only[ar,iJ,bne_iff_ne,aT,dg,jF]at G;obtain⟨h0,h1⟩:=G;obtain⟨u,s⟩:=t
 dsimp only at h1
 cases hr with
 |agg _ vs hl p C=>
 match vs,hl with
 |[vu,D],_=>
 have ru:=C 0 (.sl Q u) vu rfl rfl;have rb:=C 1 (.sl (.int .u8) s) D rfl rfl;have o1:=p vu sw;have o2:=p D sw;have y:∀m,RowKit.Below w.heap.size w m->lR mr.gl m U:=λm n g=>(h6 g).mono n.size (λb E _=>n.block b E) (λ_ _ d=>d) (λ_ _ d=>d)
 have z:∀m,RowKit.Below w.heap.size w m->∀b,U b->b<m.heap.size:=λm n b E=>cM (h8 b E) n.size
 have o:∀{c:R}{x:Value}{m:World},RowKit.Below w.heap.size w m->Rv w U h c x->Rv m U h c x:=λn d=>d.mono n.size (λb E _=>n.block b E) (λ_ _ d=>d) (λ_ _ d=>d)
 have A:∀m,RowKit.Below w.heap.size w m->Calls prog 75 #[.agg #[vu,D]] m λe w'=>e=.returned (.int .i64 (nU (u,s)))/\RowKit.Below m.heap.size m w':=λm n=>
  I8 (t:=(u,s)) (y m n) (z m n) (.agg _ [vu,D] rfl p (λj c v G hv=>o n (C j c v G hv))) h0
 by_cases hz:nU (u,s)=0
 .have hp:jR (u,s)=(aL (((List.range (M u)).map λ(i:Nat)=>qV s (i:Int)).map λb=>if b then 49 else 48),0):=by unfold jR;rw[zf hz]
  rw[hp];rw[hz]at A;obtain⟨h2,h3⟩:=h1.resolve_left (λd=>d hz);have hm:M u<=1000:=h2;obtain⟨a,h5,b,h9,qs,rfl,q1,q2,q3,q4,q5⟩:=Lp s ru;have h7:M qs=M u:=by rw[<-q1];simp
  have P:(qs.map (·.2)).length=M u:=by simp[h7]
  have h4:=Tryz.text_in D a b h9 h5 (qs.map (·.2)) S w o2 (λd=>(q5 S).1) (λd=>(q5 S).2) (by rw[P];exact A) (λm n k hk=>?_) (λi hi j v d=>q4 i S j v (by simpa using d))
  .rw[P]at h4;refine(callsIn_wide.1 h4).mono ?_;rintro e w' ⟨rfl,F⟩;refine⟨?_,F⟩;have e1:marksL (qs.map (·.2))=((List.range (M u)).map λ(i:Nat)=>qV s (i:Int)).map λb=>if b then 49 else 48:=by
    unfold marksL;rw[<-q2,hZ,hZ];rfl
   rw[e1]
  .have H:k<M u:=by omega
   have e:((qs.map λq:Q3=>q.2)[k]'hk).2=qV s (k:Int):=by
    have:=congrArg (λl=>l[k]?) q2;simp only[b8,ly H,As]at this;rw[zQ S]at this;simpa using this
   rw[e];exact IZ (y m n) (z m n) S (o n rb) (h3 k H)
 .have hp:jR (u,s)=([],1):=by unfold jR;rw[zh hz]
  rw[hp];refine(callsIn_wide.1 (Tryz.text_bad vu D _ hz w o1 o2 A)).mono ?_;rintro e w' ⟨rfl,n⟩;exact⟨rfl,n⟩
theorem zfV:FK 53 zkQ:=by
 refine cY (E:=mr) ⟨f53,kw,kw,kw⟩ λx z y a=>?_
 unfold dJ at a;split at a
 .simp only[Q9]at a;split at a
  .rename_i h;simp only[ax]at a;subst a;have⟨t,u⟩:=x;have l:kU t=Z:=h;intro C w U D g _ i p b m k;have s:=i.len
   match g,s,i with
   | [n],_,i=>
    have o:=i.rv 0 (zI eF t) n rfl rfl;refine(Tg (U:=U) k.gl k.ub (t:=t) (v:=n) o h).mono ?_;rintro e A ⟨rfl,q⟩;exact cI p b m k q (.tup _ [_,_] rfl (λj c v h d=>by
     match j,h,d with
     |0,h,d=>cases h;cases d;exact .str _ (Td t l)
     |1,h,d=>cases h;cases d;exact .int _ _ (Te t)))
  .cases a
 .simp at a
variable {i:Nat}
theorem kx(x:0<i)(h:i<=4000000000):Γ Δ ((i:Int)-1)=((i-1:Nat):Int):=by rw[show(i:Int)-1=((i-1:Nat):Int) by omega];exact oC _ S
theorem Tc(u:zo):∃b,Qs u=Y (b,())/\(b=Z->M u<=200/\∀v∈u,aP v=Z):=by
 by_cases D:M u<=200;rotate_left
 .refine⟨J,zG (r:=sm) ?_ rfl,λh=>by cases h⟩;have e:L ((M u:Int)>200)=Z:=zL S;simp only[Pm,Q9,e,zj]
 have e0:L ((M u:Int)>200)=J:=aQ S;have A:(Pm u).val=Y (.inl (.h4 u u (M u:Int) ((0:Nat):Int))):=by
  simp only[Pm,Q9,e0];rfl
 have s:∀i(h:i<M u),(cond (!aP u[i]) Z (u[i].1==0))=J/\(bif L (0<i)then L (GE.ge (α:=Int) (aV (u.getD (i-1) (zk Q)) u[i]) 0)else J)=J->(xQ (.h4 u u (M u:Int) (i:Int))).val=Y (.inl (.h4 u u (M u:Int) ((i+1:Nat):Int))):=λi h l=>by
  have n:L ((i:Int)>0)=L (0<i):=by simp
  have o:(cond (L (0<i)) (zT (Γ Δ ((i:Int)-1)) (M u)) Z)=Z:=by
   by_cases x:0<i
   .rw[zL x,kx x S,bU];exact zx S
   .rw[aQ x];rfl
  have C:(cond (L (0<i)) (L (aV (u.getD (Γ Δ ((i:Int)-1)).toNat (zk Q)) u[i]>=0)) J)=J:=by
   by_cases x:0<i
   .rw[kx x S];exact l.2
   .rw[aQ x];rfl
  simp only[xQ,Q9,z6 h,zx h,bt _ _ h,zj,l.1,zO,zr,n,o,C];rw[zz i um]
 have m:∀i(h:i<M u),¬((cond (!aP u[i]) Z (u[i].1==0))=J/\(bif L (0<i)then L (GE.ge (α:=Int) (aV (u.getD (i-1) (zk Q)) u[i]) 0)else J)=J)->(xQ (.h4 u u (M u:Int) (i:Int))).val=Y (.inr sm):=λi h l=>by
  have n:L ((i:Int)>0)=L (0<i):=by simp
  have o:(cond (L (0<i)) (zT (Γ Δ ((i:Int)-1)) (M u)) Z)=Z:=by
   by_cases x:0<i
   .rw[zL x,kx x S,bU];exact zx S
   .rw[aQ x];rfl
  simp only[xQ,Q9,z6 h,zx h,bt _ _ h,zj,n];by_cases c:(cond (!aP u[i]) Z (u[i].1==0))=J
  .have x:0<i:=Nat.pos_of_ne_zero λx=>l ⟨c,by rw[aQ (show¬0<i by omega)];rfl⟩
   have p:(cond (L (0<i)) (L (aV (u.getD (Γ Δ ((i:Int)-1)).toNat (zk Q)) u[i]>=0)) J)=Z:=by
    rw[kx x S];exact Bool.of_not_eq_false λh=>l ⟨c,h⟩
   simp only[c,p,o,zj,zO,zr]
  .rw[zf (Bool.of_not_eq_false c)]
 rcases qb (λi=>if h:i<M u then L ((cond (!aP u[i]) Z (u[i].1==0))=J/\(bif L (0<i)then L (GE.ge (α:=Int) (aV (u.getD (i-1) (zk Q)) u[i]) 0)else J)=J)else Z) (M u)with g|⟨i,h,z,d⟩
 .have a:∀i(h:i<M u),_:=λi h=>by have:=g i h;rw[dif_pos h]at this;exact eB this
  have q:=z8.all (t:=xQ) 1 (λi=>.h4 u u (M u:Int) (i:Int)) (M u) λj d=>z8.of (s j d (a j d))
  refine⟨Z,zF A (q.ends (k:=1) (r:=(.kb Z,[])) (aF.of ?_)) S rfl,λ_=>⟨D,λv F=>?_⟩⟩
  .simp only[xQ,Q9];rw[zh sw]
  .obtain⟨i,h,rfl⟩:=jf F;have:=(a i h).1;cases E:aP u[i]
   .rw[E]at this;cases this
   .rfl
 .have w:∀j(y:j<i),_:=λj y=>by have:=d j y;rw[dif_pos (show j<M u by omega)]at this;exact eB this
  have q:=z8.all (t:=xQ) 1 (λi=>.h4 u u (M u:Int) (i:Int)) i λj d=>z8.of (s j S (w j d))
  refine⟨J,zF A (q.ends (k:=1) (r:=sm) (aF.of (m i h ?_))) S rfl,λh=>by cases h⟩;rw[dif_pos h]at z;exact of_decide_eq_false z
theorem zbr(n:Nat)(h:n<=1000000):Qr (n:Int)=Y ((((n+7)/8:Nat):Int),()):=by refine zG (r:=(I (((n+7)/8:Nat):Int),[])) ?_ rfl;simp only[zdC,Q9,zj];rw[show(n:Int)+7=((n+7:Nat):Int) by omega,oC _ S,show Int.tdiv ((n+7:Nat):Int) 8=(((n+7)/8:Nat):Int)from rfl,oC _ S]
variable {b:List Int}
theorem zbp(l:∀a∈b,0<=a/\a<=255)(o:M b<=1000)(h:i<8*M b):Qo b (i:Int)=Y (rB b i,()):=by
 have c:i/8<M b:=by omega
 have e0:Γ Δ (Int.tdiv (i:Int) 8)=((i/8:Nat):Int):=by rw[show Int.tdiv (i:Int) 8=((i/8:Nat):Int)from rfl,oC _ S]
 have e:Γ Δ (Int.tmod (i:Int) 8)=((i%8:Nat):Int):=by rw[show Int.tmod (i:Int) 8=((i%8:Nat):Int)from rfl,oC _ S]
 refine zG (r:=(.bool (rB b i),[])) ?_ rfl;simp only[zdD,Q9,zj,e0,e,zx c];rw[zf sg];have d:=l _ (bN c);have j:List.getD b (Int.toNat ((i/8:Nat):Int)) (zk (Sh.int IntKind.u8))=b[i/8]:=by rw[bB,bf,zQ c];rfl
 have k:min (Int.toNat ((i%8:Nat):Int)) IntKind.u8.bits=i%8:=by rw[bB];show min (i%8) 8=i%8;omega
 rw[j,k];congr 4;unfold rB;rw[bf,zQ c,cD];generalize b[i/8]=x at d;rw[Int.fdiv_eq_ediv_of_nonneg _ (by have:(0:Int)<2^(i%8):=Int.pow_pos S;omega)];have m:0<=x/2^(i%8)/\x/2^(i%8)<=255:=by
  have q:(0:Int)<2^(i%8):=Int.pow_pos S;refine⟨Int.ediv_nonneg d.1 S,Int.le_trans (Int.ediv_le_self _ d.1) d.2⟩
 generalize x/2^(i%8)=y at m;obtain⟨n,rfl⟩:∃n:Nat,y=(n:Int):=⟨y.toNat,S⟩;have p:n<=255:=by omega
 have g:(BitVec.ofInt IntKind.u8.bits (n:Int) &&& BitVec.ofInt IntKind.u8.bits 1).toNat=n%2:=by
  show(BitVec.ofInt 8 (n:Int) &&& BitVec.ofInt 8 1).toNat=n%2;rw[BitVec.toNat_and,show(BitVec.ofInt 8 1).toNat=1 from rfl,Nat.and_one_is_mod];simp
 rw[g];have:n%2=0\/n%2=1:=by omega
 rcases this with h|h
 .rw[h,show(n:Int)%2=0 by omega];rfl
 .rw[h,show(n:Int)%2=1 by omega];rfl
theorem Ia(a:∀x∈b,0<=x/\x<=255)(c:M b<=1000)(h:i<8*M b):FH b (i:Int)=Z/\qV b (i:Int)=rB b i:=by have:=zbp a c h;exact⟨by unfold FH;rw[this];rfl,by unfold qV;rw[this];rfl⟩
theorem zi0{v:zw}(h:Zn v)(x:aP v=Z):Ap v:=⟨h.1,h.2,by
 rcases iX x with rfl|⟨i,rfl⟩|⟨s,rfl,_⟩|rfl|rfl
 .exact zU _
 .exact zU _
 .unfold aP at x;simp only at x;rw[zh (by decide),zh (by decide),zf (by decide)]at x;have⟨_,x⟩:=ap x;have⟨x,_⟩:=ap x;have:=eB x;show M s<=1000000;omega
 .exact zU _
 .exact zU _⟩
structure TL (t:cT):Prop where
 us:∀v∈t.1,Zn v
 bits:M t.2<=1000
 u8:∀b∈t.2,LE.le (α:=Int) 0 b/\LE.le (α:=Int) b 255
theorem Ta(m:TL t):∃e:Int,Qp t=Y (e,())/\(e=0->DZ t/\M t.1<=200):=by
 have⟨u,x⟩:=t;have c:M x<=1000:=m.bits;have l:∀b∈x,0<=b/\b<=255:=m.u8;have⟨b,H,r2⟩:=Tc u;have z:Yf u=Z:=by unfold Yf;rw[H];rfl
 have rv:zbs u=b:=by unfold zbs;rw[H];rfl
 cases b with
 | false=>
  refine⟨1,zG (r:=(I 1,[])) ?_ rfl,λh=>by cases h⟩;simp only[J4,Q9,z,rv];rfl
 |true=>
 have⟨P,E⟩:=r2 rfl;have o1:=zbr (M u) S;have F:Ye (M u:Int)=Z:=by unfold Ye;rw[o1];rfl
 have G:ziV (M u:Int)=(((M u+7)/8:Nat):Int):=by unfold ziV;rw[o1];rfl
 by_cases hl:M x=(M u+7)/8;rotate_left
 .refine⟨1,zG (r:=(I 1,[])) ?_ rfl,λh=>by cases h⟩;have e:((M x:Int)!=(((M u+7)/8:Nat):Int))=Z:=by simp;omega
  simp only[J4,Q9,z,rv,F,G,gv,bT,e,oS,zj]
 have D:(J4 (u,x)).val=Y (.inl (.h4 ((M u+0:Nat):Int) u x)):=by
  have e:((M x:Int)!=(((M u+7)/8:Nat):Int))=J:=by simp;omega
  simp only[J4,Q9,z,rv,F,G,gv,bT,e,oS,zj,zO,zr];rfl
 have q:Γ Δ (8*(M x:Int))=((8*M x:Nat):Int):=by rw[show 8*(M x:Int)=((8*M x:Nat):Int) by omega,oC _ S]
 have s:∀k,M u+k<8*M x->rB x (M u+k)=J->z8 CS 1 (.h4 ((M u+k:Nat):Int) u x) (.h4 ((M u+(k+1):Nat):Int) u x):=λk d g=>z8.of (by
  have⟨w,y⟩:=Ia l c d;simp only[CS,Q9,q,z6 d,w,y,g,zj,zO,zr];rw[zz _ um];rfl)
 rcases qb (λk=>!rB x (M u+k)) (8*M x-M u)with a|⟨k,d,g,U⟩
 .have n:=z8.all (t:=CS) 1 (λk=>.h4 ((M u+k:Nat):Int) u x) (8*M x-M u) λk d=>s k S (by simpa using a k d)
  refine⟨0,zF D (n.ends (k:=1) (r:=(I 0,[])) (aF.of ?_)) S rfl,λ_=>⟨⟨λv p=>⟨E v p,zi0 (m.us v p) (E v p)⟩,hl,l,λi A C=>?_⟩,P⟩⟩
  .simp only[CS,Q9,q];rw[zh sg]
  .have A:M u<=i:=A;have C:i<8*M x:=C;have:=a (i-M u) S;rw[show M u+(i-M u)=i by omega]at this;simpa using this
 .have n:=z8.all (t:=CS) 1 (λk=>.h4 ((M u+k:Nat):Int) u x) k λj o=>s j S (by simpa using U j o)
  refine⟨1,zF D (n.ends (k:=1) (r:=(I 1,[])) (aF.of ?_)) S rfl,λh=>by cases h⟩;have⟨w,y⟩:=Ia l c (i:=M u+k) S;have g:rB x (M u+k)=Z:=by simpa using g
  simp only[CS,Q9,q,z6 (show M u+k<8*M x by omega),w,y,g,zj]
theorem NX(b:TL t):FI t=Z/\(nU t=(0:Int)->DZ t/\M t.1<=200):=by have⟨e,x,a⟩:=Ta b;exact⟨by unfold FI;rw[x];rfl,λh=>a (by rw[<-h];unfold nU;rw[x];rfl)⟩
theorem Hd(h:TL t):kU t=Z:=by
 have⟨a,b⟩:=NX h;unfold kU;simp only[ar,iJ,bne_iff_ne,aT,dg,jF];refine⟨a,?_⟩;by_cases x:nU t=(0:Int)
 .have⟨k,d⟩:=b x;refine .inr ⟨S,λi c=>(Ia h.u8 h.bits ?_).1⟩;have:=k.2.1;omega
 .exact .inl x
theorem Yg(h:TL t)(x:nU t=(0:Int)):jR t=(qS t,0):=by
 have⟨k,b⟩:=(NX h).2 x;unfold jR;rw[zf x];refine Prod.ext ?_ rfl;unfold aL qS;simp only[hZ];refine List.map_congr_left λi a=>?_
 have a:=jF.1 a;have:=k.2.1;show UInt8.ofNat (Int.toNat (ite (qV t.2 (i:Int)=Z) 49 48))=_;rw[(Ia h.u8 h.bits S).2];cases rB t.2 i<;>rfl
open Go Go.Proofs Go.RowKit Go.Lib
theorem zhy:(prog.info? 50).map (λi=>(i.zero,i.size,i.bytes))=Y (Y (.slice Q2 0 0),1,24):=by kernel_rfl
theorem zaa(p:Option Addr)(k:Nat)(n:k<=1000000)(w:World):Calls prog 183 #[.slice p 0 0,.int .i64 k] w λe d=>∃q c,e=.returned (.slice q 0 c)/\Below w.heap.size w d/\(c=0\/(0<c/\q=Y ⟨w.heap.size,0,Q2⟩/\∃h,d.heap[w.heap.size]?=Y (.cells h 50 (0,0))/\h.size=c)):=by
 obtain⟨m,j,b,l,a⟩:=info_parts zhy;by_cases g:k=0
 .subst g
  go_enter func183,ntmps183
  go_wp2
  first|go_ret|go_ret2
  exact⟨_,_,rfl,Below.refl _ _,.inl rfl⟩
 .have x:=λt=>run_append_grow_zeros (P:=prog) w 88 3 t 50 m _ .i64 .i64 underlying88 underlying3 j b p 0 0 [] (by cases p<;>simp[Builtin.firstCells,loadCells,loadCellsFrom]) k (by omega) (by omega) (by omega) (by omega) (by rw[a];omega) (by rw[dz,nextslicecap_zero (by omega),a];omega)
  simp only[dz]at x;have i:=grownCap_ge w k 0 50
  go_enter func183,ntmps183
  go_wp2_with (at_builtin;refine Lib.wpList_append_run _ rfl _ _ _ _ rfl _ _ rfl rfl _ _ (x _) ?_)
  first|go_ret|go_ret2
  refine⟨_,_,rfl,((Below.refl _ _).alloc (zK _) _).drew,.inr ⟨by omega,rfl,_,heap_alloc_new _ _,?_⟩⟩;simp[size_zeroCells];omega
open Tr (chk br)
def zeb:zV:=λargs _ n=>match args with
 |[.nils,.int .i64 k]=>.chk (L (0<=k)) (.chk (L (k<=1000000)) (.ok {val:=.vec n,nw:=[.vec (.sl Q) []]}))
 |_=>.err
theorem VT{C:Nat->AO}{k:Nat}{p:Option Addr}(l:∀b,U b->b<w.heap.size)(t:h i=Q2)(A:k<=1000000):
  Calls prog 183 #[.slice p 0 0,.int .i64 k] w λe o=>∃v u D,e=.returned v/\Ef i C {val:=.vec i,nw:=[.vec (.sl Q) []]} w U h v o u D:=by
 refine(zaa p k A w).mono ?_;rintro e o ⟨q,c,rfl,d,rfl|⟨y,rfl,m,s,n⟩⟩
 .exact⟨_,U,_,rfl,Ef.newVec sw t rfl (jt.below d) (λb g _=>d.block b g) (λb g=>cM (l b g) d.size) (λb _=>Iff.rfl) ⟨q,0,by simp[iM],zU _,.inl ⟨rfl,rfl⟩⟩ (λb g=>by cases q<;>simp[bz]at g)⟩
 .have j:w.heap.size<o.heap.size:=(dq.1 s).1;exact⟨_,λb=>U b\/b=w.heap.size,_,rfl,Ef.newVec sw t rfl (jt.below d) (λb g _=>d.block b g) (λb x=>by
     rcases x with x|rfl
     .exact cM (l b x) d.size
     .exact j) (λb g=>⟨λx=>x.elim id λe=>zp e S,.inl⟩) ⟨Y ⟨w.heap.size,0,Q2⟩,c,by simp[iM],zU _,.inr ⟨w.heap.size,50,m,rfl,y,.inr rfl,s,(Nat.mul_one c).symm▸n,zU _,λa z=>zp z sw,λq=>by cases q⟩⟩ (λb g=>by simp[bz]at g;exact .inl S)⟩
theorem ze1:FK 183 zeb where
 fn:=⟨f183,kw,kw,kw⟩
 calls:=λw U u t n args v f q h x b g e i d a=>by
  unfold zeb at h;split at h
  .rename_i k;simp only[Tr.val_chk,Tr.val_ok,ax,aT]at h;obtain⟨c,s,rfl⟩:=h;obtain⟨k,rfl⟩:=Int.eq_ofNat_of_zero_le c;have j:=x.len
   match v,j,x with
   |[o,p],_,x=>
   have l:=x.rv 0 _ o rfl rfl;have m:=x.rv 1 _ p rfl rfl;cases l;cases m;exact⟨VT b (a 0 sw) S,sw⟩
  .simp at h
def Gv:=(((mr.add 131 zec).add 183 zeb).add 78 zjp).add 53 zkQ
theorem rM:zm Gv:=(((RY.add TF).add ze1).add zeo).add zfV
def Vi:bS:={Gv with sh:=λt=>if t=88 then Y (.sl (.sl Q))else Gv.sh t}
theorem nr:zm Vi where
 sh:=λt e h=>by
  have x:(ite (t=88) (Y (.sl (.sl Q))) (Gv.sh t))=Y e:=h;split at x
  next a=>subst a;cases x;exact pL kw
  .exact rM.sh t e x
 fs:=rM.fs
 mix:=rM.mix
abbrev zhU:=fZ [(3,[0,3,9,10,11]),(11,[6,25,26,27])]
inductive qX where
 |h3 (l0:List (N ze.sl.sl)) (i3:Int) (l9:List (N ze.sl.sl)) (i10:Int) (i11:Int)
 |h11 (l25:List (N ze.sl.sl)) (i26:Int) (i27:Int) (lh_0:List (N ze.sl))
abbrev zm4:qX->Nat×St
 |.h3 d c e i h=>(3,⟨tm 36 [(0,O ze.sl.sl d),(3,I c),(9,O ze.sl.sl e),(10,I i),(11,I h)],[]⟩)
 |.h11 b x a l=>(11,⟨tm 36 [(6,AV.vec 0),(25,O ze.sl.sl b),(26,I x),(27,I a)],[AO.vec ze.sl l]⟩)
def zdE(x:N ze.sl.sl.sl):K (qX⊕ac):=
 Tr.to (qX.h3 x 0 x (M x:Int) 0)
def CU:qX->K (qX⊕ac)
 | .h3 e d g b i=>
  let a:=Γ Δ (d+(↑(M (g.getD i.toNat (zk ze.sl.sl))):Int))
  br (L (i<b)) (chk (zT i (M g)) (br (L (a<0)) Tr.err (Tr.to (qX.h3 e a g b (Γ Δ (i+1))))))
  (chk (L (0<=d)) (chk (L (d<=1000000)) (Tr.to (qX.h11 e (M e:Int) 0 []))))
 | .h11 x c h l=>
  let a:=x.getD h.toNat (zk ze.sl.sl)
  br (L (h<c))
  (chk (zT h (M x)) (chk (L (M l+M a<=1073741824)) (Tr.to (qX.h11 x c (Γ Δ (h+1)) (l++a)))))
  (re (AV.vec 0) [AO.vec ze.sl l])
def Gg(x:N ze.sl.sl.sl):=aA [ze.sl.sl] CU 100000000 (zdE x)
def Mb(x:N ze.sl.sl.sl):=(Gg x).isSome
def Ut(x:N ze.sl.sl.sl):=o1 (Gg x)
def zcc:=FT [ze.sl.sl.sl] [ze.sl.sl] λx=>Gg x.1
theorem Y9:FK 132 zcc:=nr.T1 (f:=f132) (keep:=zhU) (e:=zm4)
def znI(x:bu):K (Empty⊕ac):=
 re
 (agg
  [O zl x.1,O (Sh.str.pr (Sh.str.pr Q8)) x.2.1])
 []
def tK(x:bu):=aA [eG] t0 100000000 (znI x)
def mB(x:bu):=(tK x).isSome
def lJ(x:bu):=o1 (tK x)
def zjY:=FT [bL] [eG] λx=>tK x.1
theorem zeY:FK 22 zjY:=nr.T1 (f:=f22) (keep:=k0) (e:=e0)
abbrev znV:=fZ [(4,[1,16,17,18])]
inductive QE where
 |h4 (l16:List (N (Sh.str.pr (Sh.str.pr Q8)))) (i17:Int) (i18:Int) (ja0:zH) (ja1:List (N (Sh.str.pr (Sh.str.pr Q8))))
abbrev zrC:QE->Nat×St
 |.h4 l i h j x=>(4,⟨tm 29 [(1,ptr 0 0),(16,O (Sh.str.pr (Sh.str.pr Q8)) l),(17,I i),(18,I h)],[AO.box [O zl j,O (Sh.str.pr (Sh.str.pr Q8)) x]]⟩)
def zag(x:iD):K (QE⊕ac):=
 let a:=fI x.1!=0
 chk (jS x.1&&bif a then Z else O9 x.2)
 (br (cond a Z (zna x.2!=0)) (re (I 1) []) (Tr.to (QE.h4 x.2 (M x.2:Int) 0 x.1 x.2)))
def NO:QE->K (QE⊕ac)
 | .h4 l h i j x=>
  let a:=l.getD i.toNat (zk (Sh.str.pr (Sh.str.pr Q8)))
  let b:=ab j a.2.1
  br (L (i<h))
  (chk (zT i (M l)) (br (L (b<0)) (re (I 1) []) (Tr.to (QE.h4 l h (Γ Δ (i+1)) j x))))
  (re (I 0) [])
def Jm(x:iD):=aA [zi] NO 100000000 (zag x)
def Ec(x:iD):=(Jm x).isSome
def Rr(x:iD):=o1 (Jm x)
def zjx:=FT [eG] [zi] λx=>Jm x.1
theorem zew:FK 35 zjx:=nr.T1 (f:=f35) (keep:=znV) (e:=zrC)
def EJ:=Vi.addL [(132,zcc),(22,zjY),(35,zjx)]
theorem p7:zm EJ:=nr.addL<|fc Y9<|fc zeY<|fc zew<|ip
abbrev o7(l:zH):K zM:=run EJ 0 DD (Func.results f176).toList 300 (aK f176) (aC (Func.ntmps f176) [.sl zl l] [])
theorem G5:zJ EJ.P 176 f176 1:=bG kw
theorem zg3(l:zH):o7 l=.ok (.fork l.isEmpty (aX (o7 l)).1 (aX (o7 l)).2.1 (aX (o7 l)).q):=kw
theorem zaU(l:zH):run EJ 0 DD (Func.results f176).toList 300 (aX (o7 l)).1 (aX (o7 l)).q=.ok (.ret .nils []):=kw
theorem zaV(l:zH):run EJ 0 DD (Func.results f176).toList 300 (aX (o7 l)).2.1 (aX (o7 l)).q=.chk (L (M l<=1073741824)) (.ok (.ret (.vec 0) [.vec zl l])):=kw
def zcr:ee [Y (.sl zl)]:=λx h=>match h with
 |[]=>.chk (L (M x.1<=1073741824)) (.ok (.vec 0,[.vec zl x.1]))
 |_=>.err
def zb6:zV:=au [Y (.sl zl)] zcr
theorem Y4:FK 176 zb6:=by
 refine cP G5 λx j i a C b=>?_
 unfold zcr at a;split at a
 .simp only[Q9]at a;split at a
  .rename_i d;simp only[ax]at a;subst a;have⟨l,u⟩:=x;refine zB (n0:=0) p7 G5 b (zg3 l) ?_;refine⟨λc=>?_,?_⟩
   .have e:l=[]:=List.isEmpty_iff.1 c;refine Reach.weaken (Q:=λr h=>(r,h)=(.vec 0,[.vec zl []])) (Reach.promNil zl (λid=>b id sw) (zB (n0:=0) p7 G5 b (zaU l) rfl)) ?_;intro r h g;cases g;refine⟨_,?_,λ_ _ _ _ h=>h⟩;show(AV.vec 0,[AO.vec zl []])=(AV.vec 0,[AO.vec zl l]);rw[e]
   .exact zB (n0:=0) p7 G5 b (zaV l) (eH d rfl)
  .cases a
 .simp at a
def Vj:=EJ.add 176 zb6
theorem p8:zm Vj:=p7.add Y4
def zgQ:bS:={Vj with own:=Z}
theorem Mz:zm zgQ:=⟨⟨p8.sh⟩,p8.fs,p8.mix⟩
def zdv(h:N zl.sl)(x:zX):K (Empty⊕ac):=
 let a:=ab h x.1.1
 chk (L (M h<=1073741824))
 (br (L (a>=0))
  (chk (zT a (M h)) (chk (L (Int.toNat a<M h)) (re (AV.vec 0) [AO.vec zl (List.set h (Int.toNat a) ((x.1.1,x.1.2.1,x.1.q.1,x.1.r.1,x.1.t.1,zP x.1.u),x.2))])))
  Tr.err)
def Gi(x:N zl.sl)(h:zX):=aA [zl.sl] t0 100000000 (zdv x h)
def Mf(x:N zl.sl)(h:zX):=(Gi x h).isSome
def UA(x:N zl.sl)(h:zX):=o1 (Gi x h)
def zbI:=FT [zl.sl,zl] [zl.sl] λx=>Gi x.1 x.2.1
theorem YG:FK 130 zbI:=Mz.T1 (f:=f130) (keep:=k0) (e:=e0)
def EK:=Vj.add 130 zbI
theorem vI:zm EK:=p8.add YG
end
end Cad
