/- Build. -/
import Derived.Test.YtjdjldbhjmgmkaaGreatDoorP24
import Derived.Test.YtjdjldbhjmgmkaaGreatDoorRows
import Derived.OpenShut
import Derived.ProofKit
namespace Cad
open Go Go.Proofs
open List renaming length->X
open IntKind renaming wrap->Γ,i64->Δ
open Bool renaming true->O
open Option renaming some->Q1,some->M
open Tr (chk br re)
open AV (nils agg tup ptr kb str sl)
open Cad renaming ow->W,Sem->J,ai->L,ze->R
set_option maxHeartbeats 4000000
set_option maxRecDepth 100000
def Fz(n:Int)(i:Nat):Bool:=IntKind.u32.wrap (↑(BitVec.ofInt IntKind.u32.bits (Int.fdiv n (2^min (Γ Δ ((i:Int).tmod 32)).toNat IntKind.u32.bits)) &&& BitVec.ofInt IntKind.u32.bits 1).toNat:Int)==1
theorem Ww{E:zS}{A:zO}(j:Int)(hx:∀x∈E,RgR x)(h1:RgS A):xf E A j=M (O,()):=by
 have⟨p,h5,ok,h,h4⟩:=zaQ hx h1;have hc:AB E A=O:=by unfold AB;rw[h];rfl
 have hp:E9 E A=(p,h5,ok):=by unfold E9;rw[h];rfl
 cases ok with
 | false=>
  refine zQ (r:=(.bool O,[])) ?_ rfl;simp only[i4q,zo,bh,Tr.val,hc,hp,M6.2,dp,zj]
 | true=>
  obtain⟨d,_,_,_,g,rfl,_,n,_⟩:=h4 rfl;have ha:=g.uall;have a1:Ba p (zT d p)=O:=by unfold Ba;rw[ha];rfl
  have a2:JM p (zT d p)=(bQ p (zT d p),0):=by unfold JM;rw[ha];rfl
  have h0:=g.few;have h2:=g.rel.few;have hL:(bQ p (zT d p)).length<=200:=bc h0 h2;have hs:(i4q E A j).val=M (.inl (.h7 j (zT d p) (bQ p (zT d p)) 0 ((0:Nat):Int) (p,()) [] [])):=by
   simp only[i4q,zo,bh,Tr.val,hc,hp,a1,a2,cj,zD,zj,zm];rfl
  have o:∀(f:Nat->Bool) i,(iO f (bQ p (zT d p)) i).length<=i:=λf i=>by
   unfold iO;rw[dc];exact bc (List.length_filter_le _ _) (by rw[List.length_zipIdx,oy];omega)
  have F:=zH.all (t:=t4q) 1 (λi=>.h7 j (zT d p) (bQ p (zT d p)) 0 (i:Int) (p,()) (iO (Fz j) (bQ p (zT d p)) i) (iO (λi=>!Fz j i) (bQ p (zT d p)) i)) (bQ p (zT d p)).length λi s=>zH.of (by
   have c0:decide (LE.le (α:=Int) 0 (Γ Δ ((i:Int).tmod 32)))=O:=by
    have:(i:Int).tmod 32=((i%32:Nat):Int):=rfl;rw[this,fi,aY];omega
   have c1:∀f,decide ((iO f (bQ p (zT d p)) i).length+[(bQ p (zT d p))[i]].length<=1073741824)=O:=λf=>zB (by have:=o f i;simp;omega)
   rw[DV _ _ s,DV _ _ s];have hf:(IntKind.u32.wrap (↑(BitVec.ofInt IntKind.u32.bits (Int.fdiv j (2^min (Γ Δ ((i:Int).tmod 32)).toNat IntKind.u32.bits)) &&& BitVec.ofInt IntKind.u32.bits 1).toNat:Int)==1)=Fz j i:=rfl;simp only[t4q,Tr.val,zN s,zx s,zX _ _ s,c0,c1,hf,zj];rw[zu i um];cases Fz j i<;>rfl)
  have e:=Qq (Fz j) (bQ p (zT d p));have e0:∀f:Nat->Bool,iO f (bQ p (zT d p)) 0=[]:=λf=>rfl
  simp only[e0]at F;generalize hA:iO (Fz j) (bQ p (zT d p)) (bQ p (zT d p)).length=c at F e;generalize hB:iO (λi=>!Fz j i) (bQ p (zT d p)) (bQ p (zT d p)).length=B at F e;have h6:X c<=200:=by rw[<-hA];exact bc (o _ _) hL
  have h8:X B<=200:=by rw[<-hB];exact bc (o _ _) hL
  have z:(c++B).Nodup:=e.nodup_iff.2 g.nodup;have v:c.Nodup:=(List.nodup_append.1 z).1;have y:B.Nodup:=(List.nodup_append.1 z).2.1;have⟨G,r2⟩:=Wv g n e;have C:=Sd (us:=c) g n W;have D:=Sd (us:=B) g n W;have sU:=zrS g n;rw[AJ v]at C;rw[AJ y]at D;have⟨gA,bA⟩:=lS g c v;have⟨gB,bB⟩:=lS g B y;have⟨gU,bU⟩:=lS g (bQ p (zT d p)) g.nodup;have pA:=eJ (k:=zP p.r.1.q.1) (c.flatMap (de d p));have pB:=eJ (k:=zP p.r.1.q.1) (B.flatMap (de d p));have pU:=eJ (k:=zP p.r.1.q.1) ((bQ p (zT d p)).flatMap (de d p));have kA:=λr m=>mv g n (l:=c) r (pA.mem_iff.1 m)
  have kB:=λr m=>mv g n (l:=B) r (pB.mem_iff.1 m)
  have kU:=λr m=>mv g n (l:=bQ p (zT d p)) r (pU.mem_iff.1 m)
  have lA:=pA.length_eq;have lB:=pB.length_eq;have lU:=pU.length_eq;generalize jp (zP p.r.1.q.1) (c.flatMap (de d p))=a at G C kA lA;generalize jp (zP p.r.1.q.1) (B.flatMap (de d p))=b at G D kB lB;generalize jp (zP p.r.1.q.1) ((bQ p (zT d p)).flatMap (de d p))=u at G sU kU lU;generalize eZ d p c=nA at r2 C bA;generalize eZ d p B=nB at r2 D bB;generalize eZ d p (bQ p (zT d p))=nU at r2 sU bU;have cA:py p (zT d p) c=O/\wv p (zT d p) c=((p.r.1,a),(nA:Int),0):=⟨by unfold py;rw[C];rfl,by unfold wv;rw[C];rfl⟩;have cB:py p (zT d p) B=O/\wv p (zT d p) B=((p.r.1,b),(nB:Int),0):=⟨by unfold py;rw[D];rfl,by unfold wv;rw[D];rfl⟩;have cU:XO p (zT d p)=O/\zlE p (zT d p)=((p.r.1,u),(nU:Int),0):=⟨by unfold XO;rw[sU];rfl,by unfold zlE;rw[sU];rfl⟩;have⟨t1,t2⟩:=za8 (t:=p.r.1) (rows:=a++b) n.wf (λh3=>by
   have⟨r,m⟩:=List.exists_mem_of_ne_nil _ h3;exact(cX.1 m).elim (λq=>(kA r q).2.1) λq=>(kB r q).2.1) sg λr m=>(cX.1 m).elim (λq=>(kA r q).1) λq=>(kB r q).1
  rw[G]at t2;have⟨m1,m2⟩:=Wk g n (rows:=u) W λr m=>(kU r m).q
  have w1:(Γ Δ ((nA:Int)+(nB:Int))!=(nU:Int))=false:=by
   rw[fi,<-r2];simp;omega
  have d1:decide (X a<=1073741824)=O:=zB W;have d2:decide (X a+X b<=1073741824)=O:=zB W;refine zz hs (F.ends (zU.of (r:=(.bool O,[])) ?_)) W rfl;simp only[t4q,Tr.val,zo,bh,zK,cA.1,cA.2,cB.1,cB.2,cU.1,cU.2,t1,t2,m1,m2,w1,d1,d2,M6.2,ib,aJ,zD,zj,zm]
open Go Go.RowKit Go.ChangeShapes
variable {a o:World}
theorem KG(g:o.os=a.os)(d:o.output=a.output)(h:∀b,b<a.heap.size->o.heap[b]?=a.heap[b]?)(m:MemPlace->Prop):a.keptBut o m:=by
 refine⟨g,d,λi j=>?_⟩;rw[h i j];cases a.heap[i]? with
 |none=>rfl
 | some x=>
  cases x with
  |cells c t l=>exact⟨rfl,rfl,rfl,λ_ _=>rfl⟩
  |map k e=>exact .inr ⟨rfl,rfl⟩
  |_=>rfl
section
variable {H:Type} {enc:TypeId×Value->H} {P:Program}
variable {v:Value}{p:List MemPlace}
theorem OK{f:Func}{m:ChangeSpec}{q d n:Bool}{c o:World}{a:Array Value}{z A:List (DataW H)}{pa pv:List MemPlace}
  (C:DataW.Whole enc P f.params.toList m.vars false c a.toList z A p)
  (l:∀(b:Nat)(y:Nat->Bool)(hd:Bool),DataW.TrodAll enc P o b y hd f.resultTypes.toList (v.resultList f.resultTypes.size) (m.fn H (z++A)).results [])
  (e:∀y:Nat->Bool,(∀x∈p,y x.block=O)->DataW.TrodAll enc P o 0 y O f.params.toList a.toList (m.fn H (z++A)).args pa)
  (g:∀y:Nat->Bool,(∀x∈p,y x.block=O)->DataW.TrodVars enc P o y m.vars (m.fn H (z++A)).vars pv)
  (s:p=pa++pv) (hk:c.keptBut o (·∈p)) (D:∀h:Addr,h.block<c.heap.size->o.frozen? h=c.frozen? h)
  (F:∀(j:Nat)(t:TypeId)(r:Value),f.resultTypes[j]?=M t->(v.resultList f.resultTypes.size)[j]?=M r->Value.okWide P o .any 0 t r):
  m.post enc P f false q d n c a v o:=by
 have k:∀x∈p,(λb=>decide (b<c.heap.size)) x.block=O:=λx i=>by simpa using C.lt x i
 have E:=C.lt;refine⟨z,A,p,[],pa,pv,C,l _ _ _,e _ k,g _ k,World.keptBut_mono (λx i=>⟨i,?_⟩) hk,λ_=>?_⟩
 .rw[s,cX]at i;exact Or.inr i
 .have⟨_,_,_,_,_,hz,hn⟩:=C;refine⟨F,_,_,([]++pa)++pv,⟨[]++pa,pv,trodAll_append (e _ (λ_ _=>rfl)) (l _ _ _),g _ (λ_ _=>rfl),rfl,?_,?_⟩,?_⟩
  .intro b u i;have B:MemPlace.cell b u∈p:=by rw[s];simpa using i
   rw[D ⟨b,u,none⟩ (E _ B)];exact hz b u B
  .intro G;cases G
  .intro x i _;rw[s];simpa using i
variable {x:World}{r:Go.Reach}{b:Nat}{t:TypeId}{g:Array Field}
theorem Ws(a:P.underlying t=M (.struct g))(h:Value.okWide P x r b t v):∃c,v=.agg c:=by unfold Value.okWide at h;rw[a]at h;obtain⟨c,rfl,_⟩:=h;exact⟨c,rfl⟩
variable {e:TypeId}
theorem zat(d:P.underlying t=M (.slice e))(h:Value.okWide P x r b t v):∃a n c,v=.slice a n c:=by
 unfold Value.okWide at h;rw[d]at h;simp only at h;unfold Cell.okWide at h;rw[d]at h;unfold Cell.ok at h;rw[d]at h;cases v<;>simp at h
 exact⟨_,_,_,rfl⟩
variable {k:IntKind}
theorem znI(a:P.underlying t=M (.int k))(h:Value.okWide P x r b t v):∃n,v=.int k n:=by
 unfold Value.okWide at h;rw[a]at h;simp only at h;unfold Cell.okWide at h;rw[a]at h;unfold Cell.ok at h;rw[a]at h;cases v<;>simp at h
 exact⟨_,by rw[h.1]⟩
variable {a:World}{n:Nat}{d:DataW H}
theorem Rg{i:Sh}(e:Sv P n t i=O)(k:i.isAgg=O)(l:P.underlying t=M (.struct g))(c:Value.okWide P a r b t v)
  (h:DataW.Trod enc P a 0 (λ_=>O) O t v d p):∃x:J i,Rv a U0 jH (zW i x) v:=by refine Ct e h ⟨λ_=>k,λ_=>Ws l c⟩ (λj=>?_);rw[k]at j;cases j
theorem VY{g:World}{s:Sh}(k:Sv P n t (.sl s)=O)(l:P.underlying t=M (.slice e))(j:Value.okWide P g r b t v)
  (h:DataW.Trod enc P g 0 (λ_=>O) O t v d p):∃x:List (J s),Rv g U0 jH (.sl s x) v:=by obtain⟨a,m,c,rfl⟩:=zat l j;exact Ct (s:=.sl s) k h ⟨(λ⟨_,i⟩=>(by cases i)),(λi=>(by cases i))⟩ (λ_=>rfl)
theorem zew(g:Sv P n t (.int k)=O)(i:P.underlying t=M (.int k))(e:Value.okWide P a r b t v)
  (h:DataW.Trod enc P a 0 (λ_=>O) O t v d p):∃x:Int,Rv a U0 jH (.int k x) v:=by obtain⟨m,rfl⟩:=znI i e;exact Ct (s:=.int k) g h ⟨(λ⟨_,c⟩=>(by cases c)),(λc=>(by cases c))⟩ (λ_=>rfl)
theorem Qp{j:Nat->AV}{z:FuncId}{F:ag}(k:om P j z F){jk:List AV}{args:Array Value}(c:Dt j x U0)(m:dn x U0 jH jk args.toList)(n:(F jk (λ_=>.dead) 0).val=M {val:=.bool O})(d:AV.idsL jk=[]):
  Calls P z args x λe i=>e=.returned (.bool O)/\ly x i/\∀b,b<x.heap.size->i.heap[b]?=x.heap[b]?:=by have:=(k.calls x U0 jH (λ_=>.dead) 0 jk args.toList _ [] n m (λ_ h=>h.elim) c ⟨sw,sw⟩ (by rw[d];simp) sw sw).1;rw[show args.toList.toArray=args by simp]at this;refine this.mono ?_;rintro e p ⟨v,o,q,rfl,a⟩;have g:=a.val;cases g;exact⟨rfl,a.ext,λb l=>a.same b l sw⟩
end
open Go Go.Proofs Go.RowKit Go.ChangeShapes Go.WideShapes Go.ChangeAt Go.Proofs.YtjdjldbhjmgmkaaGreatDoor
theorem Oj{P:Program}{w:World}:∀{l:List (String×DataW Unit)}{b:List MemPlace},DataW.LaidVars P w l b->∀n d,(n,d)∈l->
  ∃g t c x p,P.globalNamed n=M g/\(P.globals[g]?).map (·.type)=M t/\w.var? P n=M c/\DataW.trod (λ_=>()) P w 0 (λ_=>O) false x t c.toList=M (d,p)
 |[],_,_,_,_,h=>by simp at h
 | (n0,s)::r,b,h,n,d,a=>by
  have⟨g,t,c,x,p,q,i,j,k,m,o,_⟩:=h;rcases bZ.1 a with e|a
  .cases e;exact⟨g,t,c,x,p,i,j,k,m⟩
  .exact Oj o n d a
variable {P:Program}{l:List (String×DataW Unit)}{w:World}
theorem KK(d:(l.filter λx=>x.2.handleName?.isSome).isEmpty=O)(h:laidMetH P l w):laidMet P l w:=by
 unfold laidMetH at h;split at h
 .exact h
 next a b c=>rw[c]at d;simp at d
variable {H:Type}{b n:Nat}{s:Nat->Bool}{t:TypeId}{c:List Value}{p:List MemPlace}
theorem sB{enc:TypeId×Value->H}{q:Bool}(e:P.underlying t=M .string){x:List UInt8}
  (h:DataW.trod enc P w b s q n t c=M (.lit (.string x),p)):c=[.string ⟨x.toArray⟩]:=by
 cases n with
 |zero=>simp[DataW.trod]at h
 | succ n=>
  unfold DataW.trod at h;rw[e]at h;split at h
  all_goals first
   |(rename_i d;cases d;done)
   |(rename_i d _;cases d;done)
   |(simp at h;done)
   |skip
  rename_i a d;split at h
  .simp only[bG,cO,DataW.lit.injEq,Lit.string.injEq]at h;rw[<-h.1]
  .cases h
theorem zbU{enc:TypeId×Value->H}{q:Bool}(a:P.underlying t=M (.int .u64)){C:Int}
  (h:DataW.trod enc P w b s q n t c=M (.lit (.int .u64 C),p)):c=[.int .u64 C]:=by
 cases n with
 |zero=>simp[DataW.trod]at h
 | succ n=>
  unfold DataW.trod at h;rw[a]at h;split at h
  all_goals first
   |(rename_i x;cases x;done)
   |(rename_i x _;cases x;done)
   |(simp at h;done)
   |skip
  all_goals(try split at h)
  all_goals first
   |(cases h;done)
   |(simp at h;done)
   |skip
  all_goals simp_all
variable {e:TypeId}
theorem HZ(h:laidMet Tryz.prog l a){n:String}{g:Nat}{len:Nat}{A:List (DataW Unit)}(hm:(n,DataW.agg A)∈l)
  (D:Tryz.prog.globalNamed n=M g) (ht:(Tryz.prog.globals[g]?).map (·.type)=M t) (hu:Tryz.prog.underlying t=M (.array len e)) (G:Tryz.prog.cellsOf e=1):
  ∃o x k,a.heap[g]?=M (.cells o x k)/\∀(j:Nat) d,A[j]?=M d->∃b p,DataW.trod (λ_=>()) Tryz.prog a 0 (λ_=>O) false b e ((o.toList.drop j).take 1)=M (d,p):=by
 have⟨ps,F,_,_⟩:=h;have⟨g',t',o,b,p,B,C,m,i⟩:=Oj F n _ hm;rw[D]at B;cases B;rw[ht]at C;cases C;have v:∃x k,a.heap[g]?=M (.cells o x k):=by
  unfold World.var? at m;rw[D]at m;simp only[Option.bind_some]at m;split at m
  next c x k hh=>cases m;exact⟨x,k,hh⟩
  .cases m
 have⟨x,k,q⟩:=v;refine⟨o,x,k,q,?_⟩;cases b with
 |zero=>simp[DataW.trod]at i
 | succ b=>
  unfold DataW.trod at i;rw[hu]at i;simp only at i;split at i
  .rw[dW]at i;have⟨xs,z,E⟩:=i;simp only[cO,DataW.agg.injEq]at E;have⟨hl,y⟩:=Fg z;intro j d s;rw[<-E.1,dN,dW]at s;obtain⟨⟨d',p'⟩,s,rfl⟩:=s;have u:j<X xs:=(dF.1 s).1;have hr:(List.range len)[j]?=M j:=by
    rw[Bm];rw[hl,List.length_range]at u;exact u
   have:=y j j hr;rw[s,G,Nat.mul_one]at this;exact⟨b,p',this⟩
  .cases i
variable {v:Value}
theorem UD{a:Array Value}(h:(a.toList.drop b).take 1=[v]):a[b]?=M v:=by have:=congrArg (·[0]?) h;simp only[List.getElem?_take,DE]at this;simpa using this
theorem gl0(h:laidMet Tryz.prog l a)(v:("caddis/stmt.types",Rows.laid_caddis_stmt_types)∈l):Rv a U0 jH (.eptr [.str [73,78,84],.str [84,69,88,84],.str [66,79,79,76]] 0) (.pointer (Q1 ⟨1,0,none⟩)):=by
 have⟨o,x,A,u,k⟩:=HZ h (g:=1) (t:=347) (e:=9) (len:=3) v kw kw kw kw;have i:Tryz.prog.underlying 9=M .string:=by kernel_rfl
 have b:∀j,a.cell? ⟨1,j,none⟩=o[j]?:=by
  intro j;unfold World.cell?;rw[u];rfl
 have⟨_,_,p⟩:=k 0 _ rfl;have⟨_,_,q⟩:=k 1 _ rfl;have⟨_,_,s⟩:=k 2 _ rfl;have n:=UD (sB i p);have y:=UD (sB i q);have z:=UD (sB i s);refine .eptr [.str [73,78,84],.str [84,69,88,84],.str [66,79,79,76]] 0 1 0 (λj=>match j with
  |0=>.string ⟨#[73,78,84]⟩
  |1=>.string ⟨#[84,69,88,84]⟩
  |_=>.string ⟨#[66,79,79,76]⟩) (wB (by rw[b];exact n)) (λh=>h) ?_ ?_ ?_
 .intro j m
  match j,m with
  |0,_=>rw[b];exact n
  |1,_=>rw[b];exact y
  |2,_=>rw[b];exact z
 .intro j m
  match j,m with
  |0,_=>rfl
  |1,_=>rfl
  |2,_=>rfl
 .intro j c d
  match j,d with
  |0,d=>simp at d;subst d;exact .str [73,78,84] (by simp[aD])
  |1,d=>simp at d;subst d;exact .str [84,69,88,84] (by simp[aD])
  |2,d=>simp at d;subst d;exact .str [66,79,79,76] (by simp[aD])
  |j+3,d=>simp at d
variable {x:World}
set_option maxRecDepth 100000 in
theorem gl2(h:x.ShapedOpen Tryz.prog):Rv x U0 jH .gint (.pointer (M ⟨0,0,none⟩)):=by
 have j:((begin Tryz.prog (λ_ _=>0) default).world.heap[0]?).bind Obj.row?=M (#[.int .i64 0],3):=by kernel_rfl
 have⟨c,o,t,s⟩:=h.1 0 _ _ (lp kw) j;have⟨A,d,_,b⟩:=s kw;have m:Tryz.prog.cellTypes Tryz.prog.depth 3=M [3]:=by kernel_rfl
 rw[m]at d;cases d;have l:c.size=1:=t;have⟨u,v,a⟩:=b 0 c[0] sw;have:u=3:=by simpa using v.symm
 subst this;have p:Tryz.prog.underlying 3=M (.int .i64):=by kernel_rfl
 unfold Cell.ok at a;rw[p]at a;have e:c=#[c[0]]:=by
  apply Array.ext
  .simp[l]
  .intro i y z;have:i=0:=by omega
   subst this;rfl
 cases g:c[0]<;>rw[g]at a<;>simp at a
 rename_i k n;obtain⟨rfl,q⟩:=a;refine .gint n 0 3 (0,0) q ?_ (λh=>h);rw[o,e,g]
theorem gl5(h:laidMet Tryz.prog l a)(E:a.ShapedOpen Tryz.prog)(D:("internal/strconv.uint64pow10",Rows.laid_internal_strconv_uint64pow10)∈l):Rv a U0 jH (.tab .u64 nT) (.pointer (Q1 ⟨5,0,none⟩)):=by
 have⟨c,x,u,q,B⟩:=HZ h (g:=5) (t:=391) (e:=268) (len:=20) D kw kw kw kw;have F:Tryz.prog.underlying 268=M (.int .u64):=by kernel_rfl
 have v:((begin Tryz.prog (λ_ _=>0) default).world.heap[5]?).bind Obj.row?=M (Array.replicate 20 (.int .u64 0),391):=by kernel_rfl
 have⟨d,n,o,_⟩:=E.1 5 _ _ (lp kw) v;rw[q]at n;have k:c=d:=by simp only[bG,Obj.cells.injEq]at n;exact n.1
 have b:c.size=20:=by rw[k,o];simp
 have p:c=(nT.map λz=>Value.int .u64 z).toArray:=by
  apply Array.ext
  .rw[b];rfl
  .intro i y A;have m:∀(j:Nat) z,nT[j]?=M z->c[j]?=M (.int .u64 z):=by
    intro j z G;have⟨_,_,g⟩:=B j (.lit (.int .u64 z)) (by
     have:(match(Rows.laid_internal_strconv_uint64pow10:DataW Unit)with|.agg l=>l|_=>[])=nT.map λz=>DataW.lit (.int .u64 z):=by kernel_rfl
     have s:(match(Rows.laid_internal_strconv_uint64pow10:DataW Unit)with|.agg l=>l|_=>[])[j]?=M (.lit (.int .u64 z)):=by
      rw[this,dN,G];rfl
     exact s)
    exact UD (zbU F g)
   have C:i<X nT:=by simpa using A
   have:=m i nT[i] (af C);rw[uh y,bG]at this;rw[this,List.getElem_toArray,List.getElem_map]
 exact .tab .u64 nT 5 x u (by rw[q,p]) (λh=>h)
theorem ZU:laidOutB Tryz.prog=O:=kw
def Au(P:Program)(t:TypeId):Bool:=match P.underlying t with
 |some (.struct _)=>O
 |_=>false
theorem KE(h:Au P t=O):∃x,P.underlying t=M (.struct x):=by
 unfold Au at h;split at h
 .exact⟨_,‹_›⟩
 .cases h
theorem un4:Tryz.prog.underlying 4=M .bool:=kw
theorem zvH{enc:TypeId×Value->H}(c:∀b,b<a.heap.size->o.heap[b]?=a.heap[b]?){d:DataW H}(k:Tryz.prog.readableRec t=O)(e:t<Tryz.prog.types.size)
  (h:DataW.Trod enc Tryz.prog a 0 (λ_=>O) O t v d p) (g:∀x∈p,x.block<a.heap.size)  (l:∀x∈p,s x.block=O):DataW.Trod enc Tryz.prog o 0 s O t v d p:=
 WideElems.Trod_stays ZU k e h (λx j=>by
  have i:=c x.block (g x j);cases x with
  |cell b m=>exact World.cell?_of_block i
  |map b=>exact i) l
theorem zes{h:World}(x:laidMet Tryz.prog l h)(a:h.ShapedOpen Tryz.prog)(b:("caddis/stmt.types",Rows.laid_caddis_stmt_types)∈l)(c:("internal/strconv.uint64pow10",Rows.laid_internal_strconv_uint64pow10)∈l):Dt VV h U0:=by
 intro g
 match g with
 |0=>exact gl2 a
 |1=>exact gl0 x b
 |2=>exact .any _
 |3=>exact .any _
 |4=>exact .any _
 |5=>exact gl5 x a c
 |g+6=>exact .any _
theorem Wr{r:Go.Reach}(a:P.underlying t=M .string)(h:Value.okWide P x r b t v):∃n,v=.string n:=by
 unfold Value.okWide at h;rw[a]at h;simp only at h;unfold Cell.okWide at h;rw[a]at h;unfold Cell.ok at h;rw[a]at h;cases v<;>simp at h
 exact⟨_,rfl⟩
structure B9 (t:TypeId) (s:Sh):Prop where
 got:∀{H:Type}{enc:TypeId×Value->H}{W:World}{r:Go.Reach}{b:Nat}{v:Value}{d:DataW H}{ps:List MemPlace},Value.okWide Tryz.prog W r b t v->DataW.Trod enc Tryz.prog W 0 (λ_=>O) O t v d ps->∃x:J s,Rv W U0 jH (zW s x) v
 rd:Tryz.prog.readableRec t=O
 row:t<Tryz.prog.types.size
set_option maxRecDepth 100000 in
theorem B9.struct{s:Sh}(a:Sv Tryz.prog n t s=O)(c:s.isAgg=O)(d:Au Tryz.prog t=O)(g:Tryz.prog.readableRec t=O)(b:t<Tryz.prog.types.size):B9 t s where
 got:=λx h=>by
  have⟨i,e⟩:=KE d;exact Rg a c e x h
 rd:=g
 row:=b
set_option maxRecDepth 100000 in
theorem B9.slice{s:Sh}(a:Sv Tryz.prog n t (.sl s)=O)(c:Tryz.prog.underlying t=M (.slice e))(d:Tryz.prog.readableRec t=O)(b:t<Tryz.prog.types.size):B9 t (.sl s) where
 got:=λx h=>VY a c x h
 rd:=d
 row:=b
set_option maxRecDepth 100000 in
theorem B9.int{k:IntKind}(a:Sv Tryz.prog n t (.int k)=O)(c:Tryz.prog.underlying t=M (.int k))(d:Tryz.prog.readableRec t=O)(b:t<Tryz.prog.types.size):B9 t (.int k) where
 got:=λx h=>zew a c x h
 rd:=d
 row:=b
set_option maxRecDepth 100000 in
theorem B9.str(b:Sv Tryz.prog n t .str=O)(c:Tryz.prog.underlying t=M .string)(d:Tryz.prog.readableRec t=O)(row:t<Tryz.prog.types.size):B9 t .str where
 got:=λa h=>by
  obtain⟨m,rfl⟩:=Wr c a;exact Ct (s:=.str) b h ⟨(λ⟨_,x⟩=>(by cases x)),(λx=>(by cases x))⟩ (λ_=>rfl)
 rd:=d
 row:=row
inductive PZ:List TypeId->List Sh->Prop
 |nil:PZ [] []
 |cons {t:TypeId} {s:Sh} {ts:List TypeId} {ss:List Sh} (h:B9 t s) (r:PZ ts ss):PZ (t::ts) (s::ss)
variable {j:List TypeId}{y:List Sh}
set_option maxRecDepth 100000 in
theorem PZ.got(h:PZ j y):∀{H:Type}{enc:TypeId×Value->H}{g:World}{base:Nat}{n:List Value}{o:List (DataW H)}{u:List MemPlace},
  (∀(a:Nat) t v,j[a]?=M t->n[a]?=M v->Value.okWide Tryz.prog g .any base t v)->DataW.TrodAll enc Tryz.prog g 0 (λ_=>O) O j n o u->
  o.length=X j/\(∃x:zF (y.map M),dn g U0 jH (jk (y.map M) x) n)/\
  ∀D,(∀b,b<g.heap.size->D.heap[b]?=g.heap[b]?)->(∀p∈u,p.block<g.heap.size)->∀E:Nat->Bool,(∀p∈u,E p.block=O)->DataW.TrodAll enc Tryz.prog D 0 E O j n o u:=by
 induction h with
 | nil=>
  intro H enc g base n o u _ F;obtain⟨rfl,rfl,rfl⟩:=trodAll_nil F;exact⟨rfl,⟨(),rfl,λa c v k=>by
   have h0:([]:List AV)[a]?=M c:=k;simp at h0⟩,λ_ _ _ _ _=>trodAll_mk0⟩
 | @cons t s j y h r IH=>
  intro H enc g base n o u A F;obtain⟨v,n,d,o,p,q,rfl,rfl,rfl,G,m⟩:=trodAll_cons F;have⟨x,hx⟩:=h.got (A 0 t v rfl rfl) G;have⟨hl,⟨e,hy⟩,hk⟩:=IH (λa t v ht C=>A (a+1) t v ht C) m;refine⟨by simp[hl],⟨(x,e),by show(zW s x::jk (y.map M) e).length=_;simp[hy.len],λa c v' k C=>?_⟩,λD i z E B=>?_⟩
  .have k:(zW s x::jk (y.map M) e)[a]?=M c:=k;cases a with
   | zero=>
    simp only[List.getElem?_cons_zero,bG]at k C;subst k;subst C;exact hx
   |succ a=>exact hy.rv a c v' k C
  .exact trodAll_cons_mk (zvH i h.rd h.row G (λp l=>z p (by simp[l])) (λp l=>B p (by simp[l]))) (hk D i (λp l=>z p (by simp[l])) E (λp l=>B p (by simp[l])))
theorem SU:∀(a:List Sh)(x:zF (a.map M)),AV.idsL (jk (a.map M) x)=[]
 |[],_=>rfl
 | s::a,x=>by
  show(zW s x.1).ids++AV.idsL (jk (a.map M) x.2)=[];rw[SU a x.2,wo];unfold zW;have e:∀l:List AV,(∀c∈l,c.ids=[])->AV.idsL l=[]:=by
   intro l
   induction l with
   |nil=>intro _;rfl
   |cons c l k=>intro h;simp only[AV.idsL,h c sw,k λc b=>h c (by simp[b]),wo]
  have d:∀c∈zC s x.1,c.ids=[]:=λc b=>by
   obtain⟨j,i,rfl⟩:=fO b;exact np s x.1 j _ (af i)
  cases s.isAgg with
  |true=>exact e _ d
  | false=>
   cases g:zC s x.1 with
   |nil=>rfl
   |cons c l=>exact d c (by rw[g];simp)
set_option maxRecDepth 100000 in
theorem Vr{z:FuncId}{f:Func}{s:ChangeSpec}{F:ag}(hF:om Tryz.prog VV z F)(g:f.params=j.toArray)(o:PZ j y)(u:f.resultTypes=#[4])(k:s.vars=[])
  (D:∀(H:Type)(l:List (DataW H)),X l=X j->s.fn H l={results:=[.lit (.bool O)],args:=l})
   {enc:TypeId×Value->H} {c:World}  {args:Array Value} {l gs:List (DataW H)} 
  (hv:∀x:zF (y.map M),dn c U0 jH (jk (y.map M) x) args.toList->(F (jk (y.map M) x) (λ_=>.dead) 0).val=M {val:=.bool O})
  (A:∀(h:Nat) t v,f.params[h]?=M t->args[h]?=M v->Value.okWide Tryz.prog c .any b t v)
  (hW:DataW.Whole enc Tryz.prog f.params.toList s.vars false c args.toList l gs p) (E:Dt VV c U0):
  Calls Tryz.prog z args c λe B=>∃v,e=.returned v/\s.post enc Tryz.prog f false O false false c args v B:=by
 have n:=hW;obtain⟨a,q,C,hV,rfl,h1,h2⟩:=hW;have hA:DataW.TrodAll enc Tryz.prog c 0 (λ_=>O) O f.params.toList args.toList l a:=C;rw[g]at hA;rw[k]at hV;obtain⟨rfl,rfl⟩:=trodVars_none hV;have G:=n.lt;have⟨hl,⟨x,hx⟩,hk⟩:=o.got (base:=b) (λh t v ht hv=>A h t v (by rw[g];simpa using ht) (by simpa using hv)) hA;have hc:=Qp hF (args:=args) E hx (hv x hx) (SU y x);refine hc.mono λe' B ⟨he,d,i⟩=>?_
 subst he;have m:s.fn H (l++[])={results:=[.lit (.bool O)],args:=l}:=by rw[wo];exact D H l hl
 refine⟨_,rfl,OK (pa:=a) (pv:=[]) n (λ_ _ _=>?_) (λsp h0=>?_) (λ_ _=>?_) sw (KG d.os d.out i _) d.fr (ok_one u rfl (okWide_bool_mk un4 _))⟩
 .rw[m,u];exact trodAll_cons_mk (shut_bool un4 _) trodAll_mk0
 .rw[m,g];exact hk B i (λa o=>G a (by simpa using o)) sp (λa o=>h0 a (by simpa using o))
 .rw[m,k];rfl
open Go Go.Proofs Go.RowKit Go.ChangeShapes Go.WideShapes Go.ChangeAt
section
variable {w:World} {U:Nat->Prop} {ρ:Nat->Option Value}
def PX(w:World)(U:Nat->Prop)(ρ:Nat->Option Value)(l:List AV):Prop:=∀(j:Nat)(c:AV),l[j]?=M c->∃v,Rv w U ρ c v
variable {v:Value}
theorem N8{C:Int}(h:Rv w U ρ (L C) v):-9223372036854775808<=C/\C<=9223372036854775807:=by
 cases h with
 |int _ _ h=>simpa[dv,IntKind.min,IntKind.max,IntKind.signed,IntKind.bits]using h
theorem tX{i:Sh}{l:List (J i)}(h:Rv w U ρ (.sl i l) v):∀x∈l,PX w U ρ (zC i x):=by
 intro x d;cases h with
 |sl0=>simp at d
 | sl _ _ _ _ _ e o p n m b k=>
  obtain⟨a,g,rfl⟩:=fO d;exact λj c h=>⟨_,k a g j c h⟩
theorem Zi{v:zq}(h:PX w U ρ (zC R v)):RgV v:=by have⟨_,h⟩:=h 1 _ rfl;exact N8 h
mutual
theorem EX:∀(e:zg),PX w U ρ (zC .expr e)->W8 e
 | .mk o v s l,h=>by
  rw[W8];have⟨_,a⟩:=h 2 _ rfl;have⟨_,b⟩:=h 5 _ rfl;exact⟨N8 a,Tp l λx c=>tX b x c⟩
theorem Tp:∀(l:List zg),(∀x∈l,PX w U ρ (zC .expr x))->JY l
 |[],_=>by rw[JY];trivial
 |x::r,h=>by rw[JY];exact⟨EX x (h x sw),Tp r λy a=>h y (by simp[a])⟩
end
theorem zmr{x:ae}(h:PX w U ρ (zC zl x)):RgR x where
 chk:=EX _ λj c a=>match j,a with
  |0,a=>h 5 c a
  |1,a=>h 6 c a
  |2,a=>h 7 c a
  |3,a=>h 8 c a
  |4,a=>h 9 c a
  |5,a=>h 10 c a
  |j+6,a=>by simp[zC]at a
 vals:=by
  have⟨_,h⟩:=h 11 _ rfl;intro r b v d;have⟨_,h⟩:=tX h r b 0 _ rfl;exact Zi (tX h v d)
end
variable {U:Nat->Prop}{ρ:Nat->Option Value}
theorem XE{u:List AV}(h:Rv w U ρ (.agg u) v):PX w U ρ u:=by
 intro j c x;cases h with
 | agg _ a g e d=>
  have b:j<X a:=by have:=(dF.1 x).1;omega
  exact⟨a[j],d j c _ x (af b)⟩
theorem zms{A:zO}(h:PX w U ρ (zC ay A)):RgS A where
 chk:=EX _ λj c a=>match j,a with
  |0,a=>h 8 c a
  |1,a=>h 9 c a
  |2,a=>h 10 c a
  |3,a=>h 11 c a
  |4,a=>h 12 c a
  |5,a=>h 13 c a
  |j+6,a=>by simp[zC]at a
 whr:=EX _ λj c a=>match j,a with
  |0,a=>h 16 c a
  |1,a=>h 17 c a
  |2,a=>h 18 c a
  |3,a=>h 19 c a
  |4,a=>h 20 c a
  |5,a=>h 21 c a
  |j+6,a=>by simp[zC]at a
 row:=by
  have⟨_,h⟩:=h 14 _ rfl;exact λv b=>Zi (tX h v b)
 sets:=by
  have⟨_,h⟩:=h 15 _ rfl;intro x d;have h:=tX h x d;exact EX _ λj c a=>match j,a with
   |0,a=>h 1 c a
   |1,a=>h 2 c a
   |2,a=>h 3 c a
   |3,a=>h 4 c a
   |4,a=>h 5 c a
   |5,a=>h 6 c a
   |j+6,a=>by simp[zC]at a
theorem Qn(x:zF ([.sl zl,ay,(.int .u32)].map M)){b:World}(i:dn b U0 jH (jk ([.sl zl,ay,(.int .u32)].map M) x) c):(F4q (jk ([.sl zl,ay,(.int .u32)].map M) x) (λ_=>.dead) 0).val=M {val:=.bool O}:=by
 have⟨d,s,n,u⟩:=x;have i:dn b U0 jH [.sl zl d,zW ay s,.int .u32 n] c:=i;have A:=i.len;have g:∀j a,([.sl zl d,zW ay s,.int .u32 n]:List AV)[j]?=M a->∃v,Rv b U0 jH a v:=λj a l=>by
  have k:j<X c:=by rw[<-A];exact(dF.1 l).1
  exact⟨c[j],i.rv j a _ l (af k)⟩
 have⟨B,m⟩:=g 0 _ rfl;have⟨C,o⟩:=g 1 _ rfl;have e:s=(s.1,s.2.1,s.q.1,s.r.1,s.t.1,s.u.1,s.v.1,s.w.1,zt s.x.1,s.y.1,s.z.1,zt s.s.1,s.p):=by rw[zo,zo]
 have h:(F4q [.sl zl d,zW ay s,.int .u32 n] (λ_=>.dead) 0).val=(chk (xf d (s.1,s.2.1,s.q.1,s.r.1,s.t.1,s.u.1,s.v.1,s.w.1,zt s.x.1,s.y.1,s.z.1,zt s.s.1,s.p) n).isSome (Tr.ok ({val:=.bool ((xf d (s.1,s.2.1,s.q.1,s.r.1,s.t.1,s.u.1,s.v.1,s.w.1,zt s.x.1,s.y.1,s.z.1,zt s.s.1,s.p) n).getD (cJ [.bool])).1}:gy))).val:=by kernel_rfl
 show(F4q [.sl zl d,zW ay s,.int .u32 n] (λ_=>.dead) 0).val=_;rw[h,<-e,Ww n (tX m · · |>zmr) (zms (XE o))];rfl
end Cad
