/- The law, of states that are not too great. -/
import Derived.Test.YtgcekmmgphhofaaGreatDoorR45
import Derived.OpenShut
import Derived.ProofKit
namespace Cad
open Go Go.Proofs Go.Lib Tryz
open List renaming length->M
open Bool renaming true->Z,false->J
open Option renaming some->Q1,some->Y
open Tr (chk br re)
open AV (nils agg tup ptr kb str sl)
open Cad renaming Sem->N,AV->R,ai->I,ze->Q,ow->S
set_option maxHeartbeats 4000000
theorem Wv{D b:bu}(ha:InZ D)(hb:InZ b):GQ D b=Y (Z,()):=by
 have⟨a,d,j,n,o⟩:=Fi ha;have⟨x,g,p,s,t⟩:=Fi hb;have u:qk D=Z:=by unfold qk;rw[d];rfl
 have y:qk b=Z:=by unfold qk;rw[g];rfl
 have z:iv D=a:=by unfold iv;rw[d];rfl
 have A:iv b=x:=by unfold iv;rw[g];rfl
 have c:∀l:bu,Zj l->GrS l->(∀m∈l.q,Zm m)->uk l=Z/\((lZ l).2≠0\/kA l/\lZ l=(lB l,0)):=λl C E F=>by
  rcases S2 C E F with⟨e,he,h⟩|⟨G,h⟩
  .exact⟨by unfold uk;rw[h];rfl,.inl (by unfold lZ;rw[h];exact he)⟩
  .exact⟨by unfold uk;rw[h];rfl,.inr ⟨G,by unfold lZ;rw[h];rfl⟩⟩
 have⟨ta,k⟩:=c a j n o;have⟨tb,kq⟩:=c x p s t;refine zG (r:=(.bool Z,[])) ?_ rfl;simp only[i3j,Tr.val,u,y,z,A,ta,tb,zj];rcases k with k|⟨v,k⟩
 .have:((lZ a).2!=0)=Z:=by simpa using k
  simp only[this,bU,zj]
 rcases kq with kq|⟨i,kq⟩
 .have:((lZ x).2!=0)=Z:=by simpa using kq
  simp only[k,this,bU,zj,kF,bT]
 have⟨sc,ss⟩:=Nt v i;have e:(lB a==lB x)=Ht a x:=by
  rw[Ar,ss,be];constructor
  .intro h;have:=Ds a x [] [] v.w i.w (by rw[h]);exact this.1
  .rintro rfl;rfl
 simp only[k,kq,kF,bT,sc,e,beq_self_eq_true,bU,zj,oT]
open Go Go.RowKit Go.ChangeShapes
variable {x u:World}
theorem GN(e:u.os=x.os)(a:u.output=x.output)(h:∀b,b<x.heap.size->u.heap[b]?=x.heap[b]?)(m:MemPlace->Prop):x.keptBut u m:=by
 refine⟨e,a,λi g=>?_⟩;rw[h i g];cases x.heap[i]? with
 |none=>rfl
 | some o=>
  cases o with
  |cells c t k=>exact⟨rfl,rfl,rfl,λ_ _=>rfl⟩
  |map j d=>exact .inr ⟨rfl,rfl⟩
  |_=>rfl
section
variable {H:Type} {enc:TypeId×Value->H} {P:Program}
variable {x:World}{args:Array Value}{v:Value}{p:List MemPlace}
theorem KM{f:Func}{q:ChangeSpec}{g c m:Bool}{u:World}{y z:List (DataW H)}{pa pv:List MemPlace}
  (C:DataW.Whole enc P f.params.toList q.vars J x args.toList y z p)
  (l:∀(b:Nat)(s:Nat->Bool)(hd:Bool),DataW.TrodAll enc P u b s hd f.resultTypes.toList (v.resultList f.resultTypes.size) (q.fn H (y++z)).results [])
  (d:∀s:Nat->Bool,(∀h∈p,s h.block=Z)->DataW.TrodAll enc P u 0 s Z f.params.toList args.toList (q.fn H (y++z)).args pa)
  (e:∀s:Nat->Bool,(∀h∈p,s h.block=Z)->DataW.TrodVars enc P u s q.vars (q.fn H (y++z)).vars pv)
  (n:p=pa++pv) (hk:x.keptBut u (·∈p)) (D:∀a:Addr,a.block<x.heap.size->u.frozen? a=x.frozen? a)
  (F:∀(j:Nat)(t:TypeId)(r:Value),f.resultTypes[j]?=Y t->(v.resultList f.resultTypes.size)[j]?=Y r->Value.okWide P u .any 0 t r):
  q.post enc P f J g c m x args v u:=by
 have k:∀h∈p,(λb=>decide (b<x.heap.size)) h.block=Z:=λh i=>by simpa using C.lt h i
 have E:=C.lt;refine⟨y,z,p,[],pa,pv,C,l _ _ _,d _ k,e _ k,World.keptBut_mono (λh i=>⟨i,?_⟩) hk,λ_=>?_⟩
 .rw[n,bX]at i;exact Or.inr i
 .have⟨_,_,_,_,_,hz,hn⟩:=C;refine⟨F,_,_,([]++pa)++pv,⟨[]++pa,pv,trodAll_append (d _ (λ_ _=>rfl)) (l _ _ _),e _ (λ_ _=>rfl),rfl,?_,?_⟩,?_⟩
  .intro b o i;have A:MemPlace.cell b o∈p:=by rw[n];simpa using i
   rw[D ⟨b,o,none⟩ (E _ A)];exact hz b o A
  .intro G;cases G
  .intro h i _;rw[n];simpa using i
variable {r:Go.Reach}{b:Nat}{t:TypeId}{fs:Array Field}
theorem SE(a:P.underlying t=Y (.struct fs))(h:Value.okWide P x r b t v):∃c,v=.agg c:=by unfold Value.okWide at h;rw[a]at h;obtain⟨c,rfl,_⟩:=h;exact⟨c,rfl⟩
theorem Xf{d:World}{x:TypeId}(e:P.underlying t=Y (.slice x))(h:Value.okWide P d r b t v):∃a n c,v=.slice a n c:=by
 unfold Value.okWide at h;rw[e]at h;simp only at h;unfold Cell.okWide at h;rw[e]at h;unfold Cell.ok at h;rw[e]at h;cases v<;>simp at h
 exact⟨_,_,_,rfl⟩
variable {k:IntKind}
theorem zig(a:P.underlying t=Y (.int k))(h:Value.okWide P x r b t v):∃n,v=.int k n:=by
 unfold Value.okWide at h;rw[a]at h;simp only at h;unfold Cell.okWide at h;rw[a]at h;unfold Cell.ok at h;rw[a]at h;cases v<;>simp at h
 exact⟨_,by rw[h.1]⟩
variable {a:World}{n:Nat}{d:DataW H}
theorem MY{e:Sh}(g:NZ P n t e=Z)(j:e.isAgg=Z)(k:P.underlying t=Y (.struct fs))(c:Value.okWide P a r b t v)
  (h:DataW.Trod enc P a 0 (λ_=>Z) Z t v d p):∃x:N e,Rv a U0 jo (zI e x) v/\cN e x<=kJ d:=by refine yn g h ⟨λ_=>j,λ_=>SE k c⟩ (λi=>?_);rw[j]at i;cases i
theorem Sf{g:World}{x:TypeId}{s:Sh}(k:NZ P n t (.sl s)=Z)(l:P.underlying t=Y (.slice x))(j:Value.okWide P g r b t v)
  (h:DataW.Trod enc P g 0 (λ_=>Z) Z t v d p):∃e:List (N s),Rv g U0 jo (.sl s e) v/\cN (.sl s) e<=kJ d:=by obtain⟨a,m,c,rfl⟩:=Xf l j;exact yn (s:=.sl s) k h ⟨(λ⟨_,i⟩=>(by cases i)),(λi=>(by cases i))⟩ (λ_=>rfl)
theorem Z8(g:NZ P n t (.int k)=Z)(i:P.underlying t=Y (.int k))(e:Value.okWide P a r b t v)
  (h:DataW.Trod enc P a 0 (λ_=>Z) Z t v d p):∃x:Int,Rv a U0 jo (.int k x) v/\cN (.int k) x<=kJ d:=by obtain⟨m,rfl⟩:=zig i e;exact yn (s:=.int k) g h ⟨(λ⟨_,c⟩=>(by cases c)),(λc=>(by cases c))⟩ (λ_=>rfl)
theorem L8{j:Nat->R}{C:FuncId}{F:zV}(k:ky P j C F){gX:List R}(c:lR j x U0)(m:cu x U0 jo gX args.toList)(n:(F gX (λ_=>.dead) 0).val=Y {val:=.bool Z})(d:AV.idsL gX=[]):
  Calls P C args x λe i=>e=.returned (.bool Z)/\jt x i/\∀b,b<x.heap.size->i.heap[b]?=x.heap[b]?:=by have:=(k.calls x U0 jo (λ_=>.dead) 0 gX args.toList _ [] n m (λ_ h=>h.elim) c ⟨sw,sw⟩ (by rw[d];simp) sw sw).1;rw[show args.toList.toArray=args by simp]at this;refine this.mono ?_;rintro e p ⟨v,o,q,rfl,a⟩;have g:=a.val;cases g;exact⟨rfl,a.ext,λb l=>a.same b l sw⟩
end
open Go Go.Proofs Go.RowKit Go.ChangeShapes Go.WideShapes Go.ChangeAt Go.Proofs.YtgcekmmgphhofaaGreatDoor
theorem BO{P:Program}{w:World}:∀{l:List (String×DataW Unit)}{b:List MemPlace},DataW.LaidVars P w l b->∀n d,(n,d)∈l->
  ∃g t c x p,P.globalNamed n=Y g/\(P.globals[g]?).map (·.type)=Y t/\w.var? P n=Y c/\DataW.trod (λ_=>()) P w 0 (λ_=>Z) J x t c.toList=Y (d,p)
 |[],_,_,_,_,h=>by simp at h
 | (n0,s)::r,b,h,n,d,a=>by
  have⟨g,t,c,x,p,q,i,j,k,m,o,_⟩:=h;rcases bD.1 a with e|a
  .cases e;exact⟨g,t,c,x,p,i,j,k,m⟩
  .exact BO o n d a
variable {P:Program}{l:List (String×DataW Unit)}{w:World}
theorem GR(d:(l.filter λx=>x.2.handleName?.isSome).isEmpty=Z)(h:laidMetH P l w):laidMet P l w:=by
 unfold laidMetH at h;split at h
 .exact h
 next a b c=>rw[c]at d;simp at d
variable {H:Type}{b n:Nat}{s:Nat->Bool}{g:Bool}{t:TypeId}{c:List Value}{p:List MemPlace}
theorem pP{enc:TypeId×Value->H}(e:P.underlying t=Y .string){x:List UInt8}
  (h:DataW.trod enc P w b s g n t c=Y (.lit (.string x),p)):c=[.string ⟨x.toArray⟩]:=by
 cases n with
 |zero=>simp[DataW.trod]at h
 | succ n=>
  unfold DataW.trod at h;rw[e]at h;split at h
  all_goals first
   |(rename_i d;cases d;done)
   |(rename_i d _;cases d;done)
   |(simp at h;done)
   |skip
  rename_i a d;split at h
  .simp only[ax,cz,DataW.lit.injEq,Lit.string.injEq]at h;rw[<-h.1]
  .cases h
theorem Yi{enc:TypeId×Value->H}(a:P.underlying t=Y (.int .u64)){z:Int}
  (h:DataW.trod enc P w b s g n t c=Y (.lit (.int .u64 z),p)):c=[.int .u64 z]:=by
 cases n with
 |zero=>simp[DataW.trod]at h
 | succ n=>
  unfold DataW.trod at h;rw[a]at h;split at h
  all_goals first
   |(rename_i x;cases x;done)
   |(rename_i x _;cases x;done)
   |(simp at h;done)
   |skip
  all_goals(try split at h)
  all_goals first
   |(cases h;done)
   |(simp at h;done)
   |skip
  all_goals simp_all
variable {j:String}
theorem D5{b:World}(h:laidMet prog l b){g:Nat}{e:TypeId}{len:Nat}{A:List (DataW Unit)}(hm:(j,DataW.agg A)∈l)
  (E:prog.globalNamed j=Y g) (ht:(prog.globals[g]?).map (·.type)=Y t) (hu:prog.underlying t=Y (.array len e)) (hc:prog.cellsOf e=1):
  ∃o a m,b.heap[g]?=Y (.cells o a m)/\∀(x:Nat) d,A[x]?=Y d->∃i p,DataW.trod (λ_=>()) prog b 0 (λ_=>Z) J i e ((o.toList.drop x).take 1)=Y (d,p):=by
 have⟨ps,G,_,_⟩:=h;have⟨g',t',o,i,p,C,D,n,k⟩:=BO G j _ hm;rw[E]at C;cases C;rw[ht]at D;cases D;have v:∃a m,b.heap[g]?=Y (.cells o a m):=by
  unfold World.var? at n;rw[E]at n;simp only[Option.bind_some]at n;split at n
  next c a m hh=>cases n;exact⟨a,m,hh⟩
  .cases n
 have⟨a,m,q⟩:=v;refine⟨o,a,m,q,?_⟩;cases i with
 |zero=>simp[DataW.trod]at k
 | succ i=>
  unfold DataW.trod at k;rw[hu]at k;simp only at k;split at k
  .rw[dG]at k;have⟨xs,z,F⟩:=k;simp only[cz,DataW.agg.injEq]at F;have⟨hl,y⟩:=tM z;intro x d s;rw[<-F.1,b8,dG]at s;obtain⟨⟨d',p'⟩,s,rfl⟩:=s;have u:x<M xs:=(cQ.1 s).1;have hr:(List.range len)[x]?=Y x:=by
    rw[ly];rw[hl,List.length_range]at u;exact u
   have:=y x x hr;rw[s,hc,Nat.mul_one]at this;exact⟨i,p',this⟩
  .cases k
variable {v:Value}
theorem Qt{a:Array Value}(h:(a.toList.drop b).take 1=[v]):a[b]?=Y v:=by have:=congrArg (·[0]?) h;simp only[List.getElem?_take,Aq]at this;simpa using this
variable {a:World}
theorem gl0(h:laidMet prog l a)(v:("caddis/stmt.types",Rows.laid_caddis_stmt_types)∈l):Rv a U0 jo (.eptr [.str [73,78,84],.str [84,69,88,84],.str [66,79,79,76]] 0) (.pointer (Q1 ⟨7,0,none⟩)):=by
 have⟨o,x,A,u,k⟩:=D5 h (g:=7) (t:=435) (e:=9) (len:=3) v kw kw kw kw;have i:prog.underlying 9=Y .string:=by kernel_rfl
 have b:∀j,a.cell? ⟨7,j,none⟩=o[j]?:=by
  intro j;unfold World.cell?;rw[u];rfl
 have⟨_,_,p⟩:=k 0 _ rfl;have⟨_,_,q⟩:=k 1 _ rfl;have⟨_,_,s⟩:=k 2 _ rfl;have n:=Qt (pP i p);have y:=Qt (pP i q);have z:=Qt (pP i s);refine .eptr [.str [73,78,84],.str [84,69,88,84],.str [66,79,79,76]] 0 7 0 (λj=>match j with
  |0=>.string ⟨#[73,78,84]⟩
  |1=>.string ⟨#[84,69,88,84]⟩
  |_=>.string ⟨#[66,79,79,76]⟩) (gE (by rw[b];exact n)) (λh=>h) ?_ ?_ ?_
 .intro j m
  match j,m with
  |0,_=>rw[b];exact n
  |1,_=>rw[b];exact y
  |2,_=>rw[b];exact z
 .intro j m
  match j,m with
  |0,_=>rfl
  |1,_=>rfl
  |2,_=>rfl
 .intro j c d
  match j,d with
  |0,d=>simp at d;subst d;exact .str [73,78,84] (by simp[af])
  |1,d=>simp at d;subst d;exact .str [84,69,88,84] (by simp[af])
  |2,d=>simp at d;subst d;exact .str [66,79,79,76] (by simp[af])
  |j+3,d=>simp at d
set_option maxRecDepth 100000 in
theorem gl2(h:x.ShapedOpen prog):Rv x U0 jo .gint (.pointer (Y ⟨0,0,none⟩)):=by
 have j:((begin prog (λ_ _=>0) default).world.heap[0]?).bind Obj.row?=Y (#[.int .i64 0],3):=by kernel_rfl
 have⟨c,o,t,s⟩:=h.1 0 _ _ (eB kw) j;have⟨A,d,_,b⟩:=s kw;have m:prog.cellTypes prog.depth 3=Y [3]:=by kernel_rfl
 rw[m]at d;cases d;have l:c.size=1:=t;have⟨u,v,a⟩:=b 0 c[0] sw;have:u=3:=by simpa using v.symm
 subst this;have p:prog.underlying 3=Y (.int .i64):=by kernel_rfl
 unfold Cell.ok at a;rw[p]at a;have e:c=#[c[0]]:=by
  apply Array.ext
  .simp[l]
  .intro i y z;have:i=0:=by omega
   subst this;rfl
 cases g:c[0]<;>rw[g]at a<;>simp at a
 rename_i k n;obtain⟨rfl,q⟩:=a;refine .gint n 0 3 (0,0) q ?_ (λh=>h);rw[o,e,g]
variable {m:Array (String×TypeId)}
theorem NY{enc:TypeId×Value->H}(e:P.underlying t=Y (.interface m)){x:String}{d:DataW H}
  (h:DataW.trod enc P w b s g n t c=Y (.iface x d,p)):∃u v,c=[.iface u v]:=by
 cases n with
 |zero=>simp[DataW.trod]at h
 | succ n=>
  unfold DataW.trod at h;rw[e]at h;split at h
  all_goals first
   |(rename_i a;cases a;done)
   |(rename_i a _;cases a;done)
   |(simp at h;done)
   |exact⟨_,_,rfl⟩
theorem glE{e:World}(h:laidMet prog l e){n:String}{d:DataW Unit}(hm:(j,DataW.iface n d)∈l)(E:prog.globalNamed j=Y b)(ht:(prog.globals[b]?).map (·.type)=Y t)
  (hu:prog.underlying t=Y (.interface m)):Rv e U0 jo (.eptr [.ifc J] 0) (.pointer (Y ⟨b,0,none⟩)):=by
 have⟨ps,G,_,_⟩:=h;have⟨g',t',y,z,p,A,C,g,F⟩:=BO G j _ hm;rw[E]at A;cases A;rw[ht]at C;cases C;have o:∃a q,e.heap[b]?=Y (.cells y a q):=by
  unfold World.var? at g;rw[E]at g;simp only[Option.bind_some]at g;split at g
  next c a q hh=>cases g;exact⟨a,q,hh⟩
  .cases g
 have⟨a,q,k⟩:=o;have⟨u,v,s⟩:=NY hu F;have D:e.cell? ⟨b,0,none⟩=Y (.iface u v):=by
  unfold World.cell?;rw[k];show y[0]?=_;rw[<-lx,s];rfl
 refine .eptr [.ifc J] 0 b 0 (λ_=>.iface u v) (gE D) (λh=>h) (λx i=>?_) (λ_ _=>rfl) (λx c i=>?_)
 .match x,i with
  |0,_=>exact D
 .match x,i with
  |0,i=>simp at i;subst i;exact .ifcS u v
theorem gl5(h:laidMet prog l a)(F:a.ShapedOpen prog)(E:("internal/strconv.uint64pow10",Rows.laid_internal_strconv_uint64pow10)∈l):Rv a U0 jo (.tab .u64 jA) (.pointer (Q1 ⟨3,0,none⟩)):=by
 have⟨c,x,u,q,C⟩:=D5 h (g:=3) (t:=334) (e:=156) (len:=20) E kw kw kw kw;have G:prog.underlying 156=Y (.int .u64):=by kernel_rfl
 have v:((begin prog (λ_ _=>0) default).world.heap[3]?).bind Obj.row?=Y (Array.replicate 20 (.int .u64 0),334):=by kernel_rfl
 have⟨d,n,o,_⟩:=F.1 3 _ _ (eB kw) v;rw[q]at n;have k:c=d:=by simp only[ax,Obj.cells.injEq]at n;exact n.1
 have b:c.size=20:=by rw[k,o];simp
 have p:c=(jA.map λz=>Value.int .u64 z).toArray:=by
  apply Array.ext
  .rw[b];rfl
  .intro i y A;have m:∀(j:Nat) z,jA[j]?=Y z->c[j]?=Y (.int .u64 z):=by
    intro j z hz;have⟨_,_,g⟩:=C j (.lit (.int .u64 z)) (by
     have:(match(Rows.laid_internal_strconv_uint64pow10:DataW Unit)with|.agg l=>l|_=>[])=jA.map λz=>DataW.lit (.int .u64 z):=by kernel_rfl
     have s:(match(Rows.laid_internal_strconv_uint64pow10:DataW Unit)with|.agg l=>l|_=>[])[j]?=Y (.lit (.int .u64 z)):=by
      rw[this,b8,hz];rfl
     exact s)
    exact Qt (Yi G g)
   have D:i<M jA:=by simpa using A
   have:=m i jA[i] (zQ D);rw[oP y,ax]at this;rw[this,List.getElem_toArray,List.getElem_map]
 exact .tab .u64 jA 3 x u (by rw[q,p]) (λh=>h)
theorem Ww:laidOutB prog=Z:=kw
def vW(P:Program)(t:TypeId):Bool:=match P.underlying t with
 |some (.struct _)=>Z
 |_=>J
theorem GM(h:vW P t=Z):∃fs,P.underlying t=Y (.struct fs):=by
 unfold vW at h;split at h
 .exact⟨_,‹_›⟩
 .cases h
theorem un4:prog.underlying 4=Y .bool:=kw
theorem zqI{enc:TypeId×Value->H}(c:∀b,b<a.heap.size->u.heap[b]?=a.heap[b]?){d:DataW H}(k:prog.readableRec t=Z)(e:t<prog.types.size)
  (h:DataW.Trod enc prog a 0 (λ_=>Z) Z t v d p) (g:∀x∈p,x.block<a.heap.size)  (l:∀x∈p,s x.block=Z):DataW.Trod enc prog u 0 s Z t v d p:=
 WideElems.Trod_stays Ww k e h (λx j=>by
  have i:=c x.block (g x j);cases x with
  |cell b o=>exact World.cell?_of_block i
  |map b=>exact i) l
theorem Z4{h:World}(x:laidMet prog l h)(a:h.ShapedOpen prog)(b:("caddis/stmt.types",Rows.laid_caddis_stmt_types)∈l)(e:("internal/strconv.uint64pow10",Rows.laid_internal_strconv_uint64pow10)∈l)
  (c:("strconv.ErrSyntax",Rows.laid_strconv_ErrSyntax)∈l) (d:("strconv.ErrRange",Rows.laid_strconv_ErrRange)∈l):lR MV h U0:=by
 intro g
 match g with
 |0=>exact gl2 a
 |1=>exact glE (t:=106) x c kw kw underlying106
 |2=>exact glE (t:=106) x d kw kw underlying106
 |3=>exact gl5 x a e
 |4=>exact .any _
 |5=>exact .any _
 |6=>exact .any _
 |7=>exact gl0 x b
 |g+8=>exact .any _
theorem SD{r:Go.Reach}(a:P.underlying t=Y .string)(h:Value.okWide P x r b t v):∃n,v=.string n:=by
 unfold Value.okWide at h;rw[a]at h;simp only at h;unfold Cell.okWide at h;rw[a]at h;unfold Cell.ok at h;rw[a]at h;cases v<;>simp at h
 exact⟨_,rfl⟩
structure Ao (t:TypeId) (s:Sh):Prop where
 got:∀{H:Type}{enc:TypeId×Value->H}{W:World}{r:Go.Reach}{b:Nat}{v:Value}{d:DataW H}{ps:List MemPlace},Value.okWide prog W r b t v->DataW.Trod enc prog W 0 (λ_=>Z) Z t v d ps->∃x:N s,Rv W U0 jo (zI s x) v/\cN s x<=kJ d
 rd:prog.readableRec t=Z
 row:t<prog.types.size
variable {e:Sh}
set_option maxRecDepth 100000 in
theorem Ao.struct(a:NZ prog n t e=Z)(c:e.isAgg=Z)(d:vW prog t=Z)(i:prog.readableRec t=Z)(b:t<prog.types.size):Ao t e where
 got:=λx h=>by
  have⟨fs,g⟩:=GM d;exact MY a c g x h
 rd:=i
 row:=b
set_option maxRecDepth 100000 in
theorem Ao.slice{e:TypeId}{s:Sh}(a:NZ prog n t (.sl s)=Z)(c:prog.underlying t=Y (.slice e))(d:prog.readableRec t=Z)(b:t<prog.types.size):Ao t (.sl s) where
 got:=λx h=>Sf a c x h
 rd:=d
 row:=b
set_option maxRecDepth 100000 in
theorem Ao.int{k:IntKind}(a:NZ prog n t (.int k)=Z)(c:prog.underlying t=Y (.int k))(d:prog.readableRec t=Z)(b:t<prog.types.size):Ao t (.int k) where
 got:=λx h=>Z8 a c x h
 rd:=d
 row:=b
set_option maxRecDepth 100000 in
theorem Ao.str(b:NZ prog n t .str=Z)(d:prog.underlying t=Y .string)(e:prog.readableRec t=Z)(c:t<prog.types.size):Ao t .str where
 got:=λa h=>by
  obtain⟨m,rfl⟩:=SD d a;exact yn (s:=.str) b h ⟨(λ⟨_,x⟩=>(by cases x)),(λx=>(by cases x))⟩ (λ_=>rfl)
 rd:=e
 row:=c
def OG:(h:List Sh)->zA (h.map Y)->Nat
 |[],_=>0
 |s::h,x=>cN s x.1+OG h x.2
inductive QY:List TypeId->List Sh->Prop
 |nil:QY [] []
 |cons {t:TypeId} {s:Sh} {ts:List TypeId} {ss:List Sh} (h:Ao t s) (r:QY ts ss):QY (t::ts) (s::ss)
variable {o:List TypeId}{A:List Sh}
set_option maxRecDepth 100000 in
theorem QY.got(h:QY o A):∀{H:Type}{enc:TypeId×Value->H}{a:World}{base:Nat}{m:List Value}{g:List (DataW H)}{n:List MemPlace},
  (∀(j:Nat) t v,o[j]?=Y t->m[j]?=Y v->Value.okWide prog a .any base t v)->DataW.TrodAll enc prog a 0 (λ_=>Z) Z o m g n->
  g.length=M o/\(∃x:zA (A.map Y),cu a U0 jo (gX (A.map Y) x) m/\OG A x<=sL g)/\
  ∀E,(∀b,b<a.heap.size->E.heap[b]?=a.heap[b]?)->(∀p∈n,p.block<a.heap.size)->∀F:Nat->Bool,(∀p∈n,F p.block=Z)->DataW.TrodAll enc prog E 0 F Z o m g n:=by
 induction h with
 | nil=>
  intro H enc a base m g n _ G;obtain⟨rfl,rfl,rfl⟩:=trodAll_nil G;exact⟨rfl,⟨(),⟨rfl,λj c v i=>by
   have h0:([]:List R)[j]?=Y c:=i;simp at h0⟩,zK _⟩,λ_ _ _ _ _=>trodAll_mk0⟩
 | @cons t s o A h r IH=>
  intro H enc a base m g n z G;obtain⟨v,m,d,g,p,q,rfl,rfl,rfl,hd,l⟩:=trodAll_cons G;have⟨x,hx,h1⟩:=h.got (z 0 t v rfl rfl) hd;have⟨hl,⟨y,hy,h2⟩,hk⟩:=IH (λj t v ht D=>z (j+1) t v ht D) l;refine⟨by simp[hl],⟨(x,y),⟨by show(zI s x::gX (A.map Y) y).length=_;simp[hy.len],λj c v' i D=>?_⟩,Nat.add_le_add h1 h2⟩,λE e u F C=>?_⟩
  .have i:(zI s x::gX (A.map Y) y)[j]?=Y c:=i;cases j with
   | zero=>
    simp only[List.getElem?_cons_zero,ax]at i D;subst i;subst D;exact hx
   |succ j=>exact hy.rv j c v' i D
  .exact trodAll_cons_mk (zqI e h.rd h.row hd (λp k=>u p (by simp[k])) (λp k=>C p (by simp[k]))) (hk E e (λp k=>u p (by simp[k])) F (λp k=>C p (by simp[k])))
theorem OB:∀(a:List Sh)(x:zA (a.map Y)),AV.idsL (gX (a.map Y) x)=[]
 |[],_=>rfl
 | s::a,x=>by
  show(zI s x.1).ids++AV.idsL (gX (a.map Y) x.2)=[];rw[OB a x.2,D3];unfold zI;have e:∀l:List R,(∀c∈l,c.ids=[])->AV.idsL l=[]:=by
   intro l
   induction l with
   |nil=>intro _;rfl
   |cons c l k=>intro h;simp only[AV.idsL,h c sw,k λc b=>h c (by simp[b]),D3]
  have d:∀c∈zq s x.1,c.ids=[]:=λc b=>by
   obtain⟨j,i,rfl⟩:=jf b;exact lF s x.1 j _ (zQ i)
  cases s.isAgg with
  |true=>exact e _ d
  | false=>
   cases g:zq s x.1 with
   |nil=>rfl
   |cons c l=>exact d c (by rw[g];simp)
set_option maxRecDepth 100000 in
theorem Rn{C:FuncId}{f:Func}{s:ChangeSpec}{F:zV}(hF:ky prog MV C F)(g:f.params=o.toArray)(u:QY o A)(y:f.resultTypes=#[4])(i:s.vars=[])
  (h0:∀(H:Type)(k:List (DataW H)),M k=M o->s.fn H k={results:=[.lit (.bool Z)],args:=k})
   {enc:TypeId×Value->H} {c:World}  {args:Array Value} {k gs:List (DataW H)} 
  (hv:∀x:zA (A.map Y),cu c U0 jo (gX (A.map Y) x) args.toList->OG A x<=sL k->(F (gX (A.map Y) x) (λ_=>.dead) 0).val=Y {val:=.bool Z})
  (z:∀(j:Nat) t v,f.params[j]?=Y t->args[j]?=Y v->Value.okWide prog c .any b t v)
  (hW:DataW.Whole enc prog f.params.toList s.vars J c args.toList k gs p) (h1:lR MV c U0):
  Calls prog C args c λe D=>∃v,e=.returned v/\s.post enc prog f J Z J J c args v D:=by
 have n:=hW;obtain⟨h,q,E,hV,rfl,h4,h5⟩:=hW;have hA:DataW.TrodAll enc prog c 0 (λ_=>Z) Z f.params.toList args.toList k h:=E;rw[g]at hA;rw[i]at hV;obtain⟨rfl,rfl⟩:=trodVars_none hV;have h2:=n.lt;have⟨hl,⟨x,hx,G⟩,hk⟩:=u.got (base:=b) (λj t v ht hv=>z j t v (by rw[g];simpa using ht) (by simpa using hv)) hA;have hc:=L8 hF (args:=args) h1 hx (hv x hx G) (OB A x);refine hc.mono λe' D ⟨he,l,d⟩=>?_
 subst he;have m:s.fn H (k++[])={results:=[.lit (.bool Z)],args:=k}:=by rw[D3];exact h0 H k hl
 refine⟨_,rfl,KM (pa:=h) (pv:=[]) n (λ_ _ _=>?_) (λsp h3=>?_) (λ_ _=>?_) sw (GN l.os l.out d _) (λa ha=>World.frozen?_of_block (d a.block ha)) (ok_one y rfl (okWide_bool_mk un4 _))⟩
 .rw[m,y];exact trodAll_cons_mk (shut_bool un4 _) trodAll_mk0
 .rw[m,g];exact hk D d (λh u=>h2 h (by simpa using u)) sp (λh u=>h3 h (by simpa using u))
 .rw[m,i];rfl
section
variable {w:World} {U:Nat->Prop} {ρ:Nat->Option Value}
def IL(w:World)(U:Nat->Prop)(ρ:Nat->Option Value)(l:List R):Prop:=∀(j:Nat)(c:R),l[j]?=Y c->∃v,Rv w U ρ c v
variable {v:Value}
theorem J9{z:Int}(h:Rv w U ρ (I z) v):-9223372036854775808<=z/\z<=9223372036854775807:=by
 cases h with
 |int _ _ h=>simpa[bq,IntKind.min,IntKind.max,IntKind.signed,IntKind.bits]using h
theorem ke{e:Sh}{l:List (N e)}(h:Rv w U ρ (.sl e l) v):∀x∈l,IL w U ρ (zq e x):=by
 intro x b;cases h with
 |sl0=>simp at b
 | sl _ _ _ _ _ d o p n m a k=>
  obtain⟨i,g,rfl⟩:=jf b;exact λj c h=>⟨_,k i g j c h⟩
theorem VW{v:zw}(h:IL w U ρ (zq Q v)):Zn v:=by have⟨_,h⟩:=h 1 _ rfl;exact J9 h
mutual
theorem M1:∀(e:zg),IL w U ρ (zq .expr e)->DY e
 | .mk o v s l,h=>by
  rw[DY];have⟨_,a⟩:=h 2 _ rfl;have⟨_,b⟩:=h 5 _ rfl;exact⟨J9 a,Pf l λx c=>ke b x c⟩
theorem Pf:∀(l:List zg),(∀x∈l,IL w U ρ (zq .expr x))->xV l
 |[],_=>by rw[xV];trivial
 |x::r,h=>by rw[xV];exact⟨M1 x (h x sw),Pf r λy a=>h y (by simp[a])⟩
end
theorem VV{x:zX}(h:IL w U ρ (zq zl x)):RgR x where
 chk:=M1 _ λj c a=>match j,a with
  |0,a=>h 5 c a
  |1,a=>h 6 c a
  |2,a=>h 7 c a
  |3,a=>h 8 c a
  |4,a=>h 9 c a
  |5,a=>h 10 c a
  |j+6,a=>by simp[zq]at a
 vals:=by
  have⟨_,h⟩:=h 11 _ rfl;intro r b v d;have⟨_,h⟩:=ke h r b 0 _ rfl;exact VW (ke h v d)
end
theorem TY{U:Nat->Prop}{ρ:Nat->Option Value}{y:List R}(h:Rv w U ρ (.agg y) v):IL w U ρ y:=by
 intro j c x;cases h with
 | agg _ a g e d=>
  have b:j<M a:=by have:=(cQ.1 x).1;omega
  exact⟨a[j],d j c _ x (zQ b)⟩
theorem Um{l:List (N e)}{x:N e}(a:x∈l):cN e x<=cN (.sl e) l:=by
 have:cN e x<=(List.map (cN e) l).sum:=by
  induction l with
  |nil=>cases a
  | cons y r i=>
   rw[dc,List.sum_cons];rcases bD.1 a with rfl|h
   .omega
   .have:=i h;omega
 show _<=(List.map (cN e) l).sum+1;omega
theorem o6(h:∀x:N e,1<=cN e x)(l:List (N e)):M l<=cN (.sl e) l:=by
 have:M l<=(List.map (cN e) l).sum:=by
  induction l with
  |nil=>simp
  | cons y r i=>
   rw[dc,List.sum_cons,bx];have:=h y;omega
 show _<=(List.map (cN e) l).sum+1;omega
section
variable {w:World} {U:Nat->Prop} {ρ:Nat->Option Value}
variable {v:Value}
theorem zbx{z:Int}(h:Rv w U ρ (.int .u8 z) v):0<=z/\z<=255:=by
 cases h with
 |int _ _ h=>simpa[bq,IntKind.min,IntKind.max,IntKind.signed,IntKind.bits]using h
theorem BE{z:Int}(h:Rv w U ρ (I z) v):bq .i64 z:=by
 cases h with
 |int _ _ h=>exact h
theorem Fp{m:cU}(h:cN cZ m<=1048576):DW m.1/\M m.q.1.2<=2000000:=by
 have⟨⟨o,a,d,⟨n,c,k,u,g,ck⟩,i,A⟩,s,⟨l,b⟩,j⟩:=m;have h:(M o+1+(M a+1+(M d+1+((M n+1+(cN (.sl zu) c+(1+(cN (.sl zi) u+(cN (.sl zW) g+1)))))+(cN (.sl zi) i+1)))))+(cN (.sl zl) s+((cN (.sl Q) l+cN (.sl (.int .u8)) b)+1))<=1048576:=h;have p:=o6 (e:=zu) (λx=>aB (Nat.le_add_left 1 (M x.1)) (Nat.le_add_right _ _)) c;have t:=o6 (e:=zi) (λx=>zK 1) u;have v:=o6 (e:=zW) (λx=>Nat.le_add_right 1 _) g;have y:=o6 (e:=zi) (λx=>zK 1) i;have z:=o6 (e:=.int .u8) (λx=>zK 1) b;refine⟨⟨?_,?_,?_,?_,?_,?_⟩,?_⟩
 .show M a<=_;omega
 .show M d<=_;omega
 .show M c<=_;omega
 .show M u<=_;omega
 .show M g<=_;omega
 .show M i<=_;omega
 .show M b<=_;omega
theorem V6{l:bu}(h:Rv w U ρ (zI bL l) v)(i:cN bL l<=1048576):InZ l:=by
 have o:IL w U ρ (zq bL l):=TY h;have⟨_,p⟩:=o 0 _ rfl;have⟨_,s⟩:=o 2 _ rfl;have e:∀m∈l.q,IL w U ρ (zq cZ m):=λm e=>ke s m e
 have g:∀m∈l.q,cN cZ m<=1048576:=λm e=>by
  have u:=Um e;have y:cN (.sl zl) l.1+(cN (.sl aD) l.2.1+cN (.sl cZ) l.q)<=1048576:=i;omega
 refine⟨λx n=>VV (ke p x n),λm a x n=>?_,λm a v t=>?_,λm a b i=>?_,λm a=>(Fp (g m a)).2,λm a=>(Fp (g m a)).1,λm a=>?_,λm a=>⟨λc d=>?_,?_,?_⟩⟩
 .have⟨_,c⟩:=e m a 16 _ rfl;exact VV (ke c x n)
 .have⟨_,c⟩:=e m a 17 _ rfl;exact VW (ke c v t)
 .have⟨_,c⟩:=e m a 18 _ rfl;have⟨_,c⟩:=ke c b i 0 _ rfl;exact zbx c
 .have k:=e m a;exact M1 _ λj c d=>match j,d with
   |0,d=>k 8 c d
   |1,d=>k 9 c d
   |2,d=>k 10 c d
   |3,d=>k 11 c d
   |4,d=>k 12 c d
   |5,d=>k 13 c d
   |j+6,d=>by simp[zq]at d
 .have⟨_,k⟩:=e m a 14 _ rfl;have⟨_,k⟩:=ke k c d 0 _ rfl;exact BE k
 .have⟨_,k⟩:=e m a 15 _ rfl;exact BE k
 .have⟨_,k⟩:=e m a 19 _ rfl;exact BE k
theorem XR(a b:bu):(F3j [zI bL a,zI bL b] (λ_=>.dead) 0).val=(chk (GQ a b).isSome (Tr.ok ({val:=.bool ((GQ a b).getD (dL [.bool])).1}:fb))).val:=by obtain⟨h,x,c⟩:=a;obtain⟨d,e,g⟩:=b;kernel_rfl
theorem XS(x:zA ([bL,bL].map Y)){c:List Value}(h:cu w U ρ (gX ([bL,bL].map Y) x) c)(d:OG [bL,bL] x<=1048576):(F3j (gX ([bL,bL].map Y) x) (λ_=>.dead) 0).val=Y {val:=.bool Z}:=by
 have⟨a,b,u⟩:=x;have d:cN bL a+(cN bL b+0)<=1048576:=d;have h:cu w U ρ [zI bL a,zI bL b] c:=h;have g:=h.len
 match c,g,h with
 |[v,i],_,h=>
 have e:=V6 (l:=a) (h.rv 0 _ v rfl rfl) S;have d:=V6 (l:=b) (h.rv 1 _ i rfl rfl) S;show(F3j [zI bL a,zI bL b] (λ_=>.dead) 0).val=_;rw[XR,Wv e d];rfl
end
end Cad
