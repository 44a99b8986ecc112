/- The program's environment. -/
import Derived.Test.YtjdjldbhjmgmkaaGreatDoorM06
import Derived.Test.YtjdjldbhjmgmkaaGreatDoorM01
import Derived.Shelf.SlSortCmp.QuietGrown
namespace Cad
open Go
open List renaming length->X
open IntKind renaming wrap->Γ,i64->Δ
open Bool renaming false->Q4,true->Q3,true->O,false->S
open Option renaming none->Q2,some->Q1,some->M
open Tr (chk br)
open AV (nils agg tup ptr kb str sl)
open Cad renaming Sem->J,ow->W
noncomputable section
abbrev zk:Sh:=.int .i64
abbrev zy:=J zk
abbrev ed:=List (J zk)
abbrev ze:Sh:=.pr (.int .i64) (.pr (.int .i64) .str)
abbrev zp:=J ze
abbrev zr:=List (J ze)
abbrev fx:=J (Sh.sl ze)
abbrev zn:Sh:=.pr .str (.pr (.int .i64) .bool)
abbrev aV:=List (J zn)
abbrev cr:=J (Sh.sl zn)
abbrev cF:=J zn
abbrev zG:Sh:=.pr (.int .i64) .str
abbrev cw:=J zG
abbrev dJ:=List (J zG)
abbrev ab:Sh:=.pr .str (.pr (.sl zn) (.pr (.int .i64) (.pr (.sl (.int .i64)) (.pr (.sl zG) .expr))))
abbrev am:=J ab
abbrev zl:Sh:=.pr ab (.sl (.sl ze))
abbrev zS:=List (J zl)
abbrev ae:=J zl
def zox:Nat->Option Sh
 |3=>M (.int .i64)
 |30=>M ze
 |33=>M .expr
 |25=>M zn
 |128=>M zG
 |9=>M .str
 |5=>M (.int .u8)
 |199=>M (.pr (.int .i64) .str)
 |115=>M (.pr .str .str)
 |117=>M (.pr .str .expr)
 |39=>M (.sl ze)
 |38=>M (zl)
 |_=>Q2
abbrev nO:List Int:=[1,10,100,1000,10000,100000,1000000,10000000,100000000,1000000000,10000000000,100000000000,1000000000000,10000000000000,100000000000000,1000000000000000,10000000000000000,100000000000000000,1000000000000000000,10000000000000000000]
def V5:Nat->AV
 |0=>.gint
 |1=>.eptr [.str DM,.str DN,.str DL] 0
 |5=>.tab .u64 nO
 |_=>.any
abbrev FK(k:FuncId)(F:ah):Prop:=nZ Go.Proofs.Tryz.prog V5 k F
def zeu:ct:={P:=Go.Proofs.Tryz.prog,sh:=zox,gl:=V5,F:=λ_=>Q2}
def ct.add(E:ct)(k:FuncId)(F:ah):ct:={E with F:=λj=>if j=k then M F else E.F j}
variable {E:ct}{k:FuncId}
theorem zw.add{F:ah}(h:zw E)(b:nZ E.P E.gl k F):zw (E.add k F) where
 sh:=h.sh
 fs:=λj a x=>by
  simp only[ct.add]at x;split at x
  next e=>cases x;rw[e];exact b
  .exact h.fs j a x
 mix:=h.mix
def TC:List (Nat×ah)->Nat->Option ah->Option ah
 |[],_,d=>d
 |p::r,j,d=>if j=p.1 then M p.2 else TC r j d
def ct.addL(E:ct)(l:List (Nat×ah)):ct:={E with F:=λj=>TC l j (E.F j)}
def Xz(P:Program)(g:Nat->AV):List (Nat×ah)->Prop
 |[]=>True
 |p::r=>nZ P g p.1 p.2/\Xz P g r
variable {P:Program}{g:Nat->AV}
theorem jb:Xz P g []:=trivial
variable {n:Nat}
theorem fc{F:ah}{r:List (Nat×ah)}(h:nZ P g n F)(t:Xz P g r):Xz P g ((n,F)::r):=⟨h,t⟩
theorem zw.addL(h:zw E){l:List (Nat×ah)}(a:Xz E.P E.gl l):zw (E.addL l) where
 sh:=h.sh
 fs:=by
  intro k F;show TC l k (E.F k)=M F->nZ E.P E.gl k F
  induction l with
  |nil=>exact h.fs k F
  | cons p r i=>
   intro x;rw[TC]at x;split at x
   next e=>cases x;rw[e];exact a.1
   .exact i a.2 x
 mix:=h.mix
def mn(h:Nat):Nat->Code->List Item->Option (List Item)
 |0,_,_=>Q2
 | n+1,c,k=>match c with
  | .seq a b=>match mn h n a (.code b::k) with
   |some r=>M r
   |none=>mn h n b k
  | .cond _ a b=>match mn h n a k with
   |some r=>M r
   |none=>mn h n b k
  |.block id c=>mn h n c (.inBlock id::k)
  |.loop c=>if fj c=h then M (.code c::.inLoop c::k)else mn h n c (.inLoop c::k)
  |.region id _ _=>if id+500000=h then M k else Q2
  |_=>Q2
def ap(f:Func)(k:Nat):List Item:=match f.body with
 |some c=>(mn k 1000 c []).getD []
 |none=>[]
def bu(f:Func):List Item:=match f.body with
 |some c=>[.code c]
 |none=>[]
theorem znO:zeu.P.follows .mixedOrders=O:=kw
def unr:Nat->aY:=λ_=>{unroll:=O}
def fg(E:ct)(f:Func)(ks:List (Option Sh)):fz ks:=λx h=>
 (run E (X h) unr f.results.toList 4000 (bu f) (bl f.ntmps (jn ks x) h)).bind λ
  |.ret v a=>.ok (v,a)
  |_=>.err
theorem Tr.sat_of_val{α:Type}{Φ:α->Prop}:∀{t:Tr α}{a:α},t.val=M a->Φ a->t.Sat Φ
 |.err,_,h,_=>by simp at h
 | .chk c t,a,h,x=>by
  cases c
  .simp[Tr.val]at h
  .exact⟨rfl,sat_of_val (t:=t) (by simpa[Tr.val]using h) x⟩
 | .br c t f,a,h,x=>by
  cases c
  .exact⟨λh=>(by cases h),λ_=>sat_of_val (t:=f) (by simpa[Tr.val]using h) x⟩
  .exact⟨λ_=>sat_of_val (t:=t) (by simpa[Tr.val]using h) x,λh=>(by cases h)⟩
 |.ok b,a,h,x=>by simp[Tr.val]at h;subst h;exact x
def zZ(P:Program)(k:FuncId)(f:Func)(n:Nat):Prop:=P.funcs[k]?=Q1 f/\(f.name=="runtime.NumGoroutine")=Q4/\f.body.isNone=Q4/\decide (n<=f.ntmps)=Q3
variable {f:Func}
theorem cI(h:(P.funcs[k]?,f.name=="runtime.NumGoroutine",f.body.isNone,decide (n<=f.ntmps))=(Q1 f,Q4,Q4,Q3)):zZ P k f n:=by simp only[cN]at h;exact⟨h.1,h.2.1,h.q.1,h.r⟩
theorem vl:∀(ks:List (Option Sh))(x:zF ks),(jn ks x).length=X ks
 |[],_=>rfl
 |some _::ks,x=>by simp[jn,vl ks x.2]
 |none::ks,x=>by simp[jn,vl ks x.2]
variable {C:eW}{Q:AV->List AO->Prop}{n0:Nat}{t:List Item}{s:St}
theorem em(b:zw E)(c:zZ E.P k f n)(a:∀id,n0<=id->C.ρ0 id=Q2)(keep:Nat->aY)(x:Nat)
    (h:(run E n0 keep f.results.toList x t s).Sat (kR E C k Q)):Reach E C k t s Q:=
 JD b c.1 a rfl x _ _ h
theorem zdQ{i:List AV}{x:List AO}(l:zZ E.P k f (X i))
  (h:∀C:eW,(∀id,X x<=id->C.ρ0 id=Q2)->Reach E C k (bu f) (bl f.ntmps i x) Q):Xo E k i x Q:=by
 have⟨d,e,b,g⟩:=l;cases a:f.body with
 |none=>rw[a]at b;cases b
 | some c=>
  refine⟨f,c,d,a,e,lm g,λC j=>?_⟩;have:=h C j;simpa[bu,a]using this
theorem dw{ks:List (Option Sh)}{G:fz ks}(c:zZ E.P k f (X ks))
  (h:∀x b a,(G x b).val=M a->∀C:eW,(∀id,X b<=id->C.ρ0 id=Q2)->Reach E C k (bu f) (bl f.ntmps (jn ks x) b) (λr h=>(r,h)=a)) (i:E.P=P:=by rfl) (e:E.gl=g:=by rfl):nZ P g k (bj ks G):=by subst i e;exact XD ⟨f,c.1,c.2.1,c.q.1⟩ λx b a d=>zdQ (by rw[vl];exact c) (h x b a d)
theorem cj(ks:List (Option Sh))(d:zw E)(b:zZ E.P k f (X ks))(i:E.P=P:=by rfl)(q:E.gl=g:=by rfl):nZ P g k (bj ks (fg E f ks)):=by
 subst i q;refine dw b λx n j a C c=>em d b c unr 4000 ?_
 unfold fg at a;simp only[Tr.val_bind,gA]at a;have⟨l,e,h⟩:=a;refine Tr.sat_of_val e ?_;cases l with
 |ret v m=>simp at h;exact h
 |head _ _ _=>simp at h
 |fork _ _ _ _=>simp at h
def zjw(P:Program)(t:TypeId)(e:Sh):Bool:=match P.info? t with
 |some i=>i.size==e.size&&decide (0<e.size)&&decide (i.bytes<=131072)&&(match i.zero with|some z=>z.cells.size==i.size|none=>S)
 |none=>S
theorem Py{a:TypeId}{y:Sh}(h:zjw P a y=O):∃i z,P.info? a=M i/\i.size=y.size/\0<y.size/\i.bytes<=131072/\i.zero=M z/\z.cells.size=i.size:=by
 unfold zjw at h;split at h
 .rename_i i e;simp only[aP,ba,bW]at h;have⟨⟨⟨b,c⟩,d⟩,x⟩:=h;split at x
  next z g=>exact⟨i,z,e,b,c,d,g,by simpa using x⟩
  .cases x
 .cases h
theorem wK:zw zeu where
 sh:=by
  intro t e h;have x:zox t=M e:=h;unfold zox at x;split at x
  all_goals first
   |(cases x;exact Py kw)
   |cases x
 fs:=by intro k F h;cases h
 mix:=znO
abbrev rn(E:ct)(n:Nat)(k:Nat->aY)(f:Func)(a:List AV)(h:List AO):Tr zT:=run E n k (Func.results f).toList 400 (bu f) (bl (Func.ntmps f) a h)
abbrev rh(E:ct)(n:Nat)(h:Nat->aY)(f:Func)(k:Nat)(s:St):Tr zT:=run E n h (Func.results f).toList 400 (ap f k) s
def lc(h:List AO):Nat->AO:=λj=>h.getD j .dead
def zv5(h:List AO)(outs:List Sh):AV->Option (zF (outs.map M))
 |.tup x=>np (lc h) (λi=>i) (outs.map M) x
 |_=>Q2
def bb(h:List AO):(outs:List Sh)->AV->Option (zF (outs.map M))
 | [s],r=>match Bp (lc h) s r with
  |some y=>M (y,())
  |none=>Q2
 |[],r=>zv5 h [] r
 |x::s2::ss,r=>zv5 h (x::s2::ss) r
def BY:(outs:List Sh)->zF (outs.map M)->AV
 |[s],y=>zX s y.1
 |outs,y=>.tup (jn (outs.map M) y)
theorem rO{e:Nat->AO}{f:Nat->Nat}:∀(c:List Sh)(b:List AV)(x:zF (c.map M)),np e f (c.map M) b=M x->dd e (c.map M) b=M ((jn (c.map M) x).map λa=>(S,a))
 |[],[],_,_=>rfl
 | s::c,a::as',x,h=>by
  have d:np e f (M s::c.map M) (a::as')=M x:=h;show dd e (M s::c.map M) (a::as')=_;unfold np at d;unfold dd;split at d
  next y r i g=>cases d;rw[i,rO c as' r g];rfl
  .cases d
 |[],_::_,_,h=>by simp[np]at h
 |_::_,[],_,h=>by simp[np]at h
variable {fn:FuncId}{outs:List Sh}
theorem Reach.plain{y:zF (outs.map M)}(hC:∀id,C.ρ0 id=Q2)
  (h:Reach E C fn t s (λr h=>bb h outs r=M y)):Reach E C fn t s (λr h=>(r,h)=(BY outs y,[])):=by
 intro b cs a w U ρ h1 h2 hc hW;have⟨e,D,fr,⟨v,r,F,n,G,he,d,l,hH,h3,h4,j⟩,h0,hf,hl⟩:=h b cs a w U ρ h1 h2 hc hW;refine⟨e,D,fr,⟨v,_,_,λb=>n b/\b<C.w0.heap.size/\¬C.B0 b,λ_=>Q2,he,rfl,?_,⟨λid=>?_,λh5 h6 b o=>?_,λid b o=>?_⟩,λ_ _=>rfl,λid v z=>?_,⟨j.ext,j.same,λb k=>j.ub b k.1,λb k B=>j.u1 b k B.1,λb k B hn=>⟨j.u2 b k B hn,k,hn⟩,λg=>(j.gl g).weak λb k=>k.1⟩⟩,h0,hf,hl⟩
 .have A:∀id,bz D n G id (lc F id)/\∀b,aq G id (lc F id) b->¬(n b/\b<C.w0.heap.size/\¬C.B0 b):=by
   intro id;refine⟨hH.ob id,λb ho B=>?_⟩;rcases hH.blk id b ho with hB|hB
   .exact B.q hB
   .omega
  have m:∀(outs:List Sh)(y:zF (outs.map M))(u:List AV),np (lc F) (λi=>i) (outs.map M) u=M y->Rv D n G (.tup u) v->Rv D (λb=>n b/\b<C.w0.heap.size/\¬C.B0 b) (λ_=>Q2) (.tup (jn (outs.map M) y)) v:=by
   intro outs y u hy l;cases l with
   |tup _ vs hl hr=>
   have:=(kJ (w:=D) (U:=n) (ρ:=G) (U':=λb=>n b/\b<C.w0.heap.size/\¬C.B0 b) (ρ':=λ_=>Q2) (hp:=lc F) (f:=λi=>i) (λb k=>k.1) (outs.map M) u vs _ (rO outs u y hy) ⟨hl,hr⟩ (λid _=>A id)
    (λid p=>by simp only[iK,List.filter_map,Bn]at p;rw[List.filter_eq_nil_iff.2 sw]at p;simp[AV.idsL]at p)).1
   simp only[qx,Bn,zC,zm,List.map_id']at this;exact .tup _ vs this.len this.rv
  match outs,y,d with
  | [c],y,d=>
   simp only[bb]at d;split at d
   next x hx=>cases d;exact DU hx l (λb k=>k.1) (λid _=>A id)
   .cases d
  | [],y,d=>
   simp only[bb]at d;cases r with
   |tup u=>exact m [] y _ d l
   |_=>cases d
  | s1::s2::ss,y,d=>
   simp only[bb]at d;cases r with
   |tup u=>exact m _ y _ d l
   |_=>cases d
 .simp[bz]
 .have⟨_,v,z,_⟩:=o;cases z
 .have⟨_,v,z,_⟩:=o;cases z
 .rw[hC id]at z;cases z
variable {keep:Nat->aY}
theorem o7(a:zw E)(b:zZ E.P k f n)(x:∀id,n0<=id->C.ρ0 id=Q2){A:Nat}
    {l:zT} (h:(run E n0 keep f.results.toList A t s).val=M l) (c:kR E C k Q l):Reach E C k t s Q:=
 em a b x keep A (Tr.sat_of_val h c)
def zaV(ks outs:List Sh)(g:zF (ks.map M)->Option (zF (outs.map M))):fz (ks.map M):=λx h=>match h with
 | []=>match g x with
  |some y=>.ok (BY outs y,[])
  |none=>.err
 |_=>.err
def vQ(ks outs:List Sh)(g:zF (ks.map M)->Option (zF (outs.map M))):ah:=bj (ks.map M) (zaV ks outs g)
variable {ks:List Sh}
theorem yE{a:zF (ks.map M)->Option (zF (outs.map M))}(d:zZ E.P k f (X ks))
  (h:∀x y,a x=M y->∀C:eW,(∀id,C.ρ0 id=Q2)->Reach E C k (bu f) (bl f.ntmps (jn (ks.map M) x) []) (λr h=>bb h outs r=M y)) (i:E.P=P:=by rfl) (q:E.gl=g:=by rfl):nZ P g k (vQ ks outs a):=by
 subst i q;refine dw (by simpa using d) λx l j b C c=>?_
 unfold zaV at b;split at b
 .split at b
  next y e=>simp only[Tr.val_ok,bG]at b;subst b;exact Reach.plain (λid=>c id (by simp)) (h x y e C (λid=>c id (by simp)))
  .simp at b
 .simp at b
abbrev ct.aut(E:ct)(k:Nat)(f:Func)(n:Nat):ct:=E.add k (bj (List.replicate n Q2) (fg E f (List.replicate n Q2)))
theorem jp{h:Nat}(x:zw E)(a:zZ E.P n f h):zw (E.aut n f h):=
 x.add (cj _ x (by simpa using a))
def gp(ks outs:List Sh)(c:zF (ks.map M)->Bool)(g:zF (ks.map M)->zF (outs.map M)):fz (ks.map M):=λx h=>match h with
 |[]=>.chk (c x) (.ok (BY outs (g x),[]))
 |_=>.err
def ac(ks outs:List Sh)(c:zF (ks.map M)->Bool)(g:zF (ks.map M)->zF (outs.map M)):ah:=bj (ks.map M) (gp ks outs c g)
theorem aZ{c:zF (ks.map M)->Bool}{a:zF (ks.map M)->zF (outs.map M)}(i:zZ E.P k f (X ks))
  (h:∀x,c x=O->∀C:eW,(∀id,C.ρ0 id=Q2)->Reach E C k (bu f) (bl f.ntmps (jn (ks.map M) x) []) (λr h=>bb h outs r=M (a x))) (j:E.P=P:=by rfl) (q:E.gl=g:=by rfl):nZ P g k (ac ks outs c a):=by
 subst j q;refine dw (by simpa using i) λx m l b C d=>?_
 unfold gp at b;split at b
 .simp only[Tr.val]at b;split at b
  next e=>simp only[bG]at b;subst b;exact Reach.plain (λid=>d id (by simp)) (h x e C (λid=>d id (by simp)))
  .simp at b
 .simp at b
theorem Cq{e:List (Option Sh)}{ι:Type}[Nonempty ι]{G:fz e}{Gs:ι->fz e}(h:∀i,nZ P g k (bj e (Gs i)))
  (s:∀x l b,(G x l).val=M b->∃i,(Gs i x l).val=M b):nZ P g k (bj e G):=by
 refine⟨(h (Classical.choice inferInstance)).fn,?_⟩;intro w U A m n c v f o a;have:∃i,(bj e (Gs i) c m n).val=M f:=by
  unfold bj at a|-;split at a
  .rename_i y t;simp only at a|-;split at a
   .rename_i d;split at a
    next z u=>simp only[Tr.val_bind,gA]at a;have⟨b,p,q⟩:=a;have⟨i,j⟩:=s _ _ _ p;exact⟨i,by simp only[d,zj,Tr.val_bind,gA];exact⟨b,j,q⟩⟩
    .simp at a
   .simp at a
  .simp at a
 have⟨i,j⟩:=this;exact(h i).calls w U A m n c v f o j
def T7(ks outs:List Sh)(g:zF (ks.map M)->zF (outs.map M)):fz (ks.map M):=λx h=>match h with
 |[]=>.ok (BY outs (g x),[])
 |_=>.err
def aX(ks outs:List Sh)(g:zF (ks.map M)->zF (outs.map M)):ah:=bj (ks.map M) (T7 ks outs g)
theorem SK{a:zF (ks.map M)->zF (outs.map M)}(h:nZ P g k (ac ks outs (λ_=>O) a)):nZ P g k (aX ks outs a):=by
 refine Cq (ι:=Unit) (Gs:=λ_=>gp ks outs (λ_=>O) a) (λ_=>h) λx d c b=>⟨(),?_⟩
 unfold T7 at b;unfold gp;split at b
 .simpa[Tr.val]using b
 .simp at b
theorem aw{a:zF (ks.map M)->zF (outs.map M)}(c:zZ E.P k f (X ks))
  (h:∀x,∀C:eW,(∀id,C.ρ0 id=Q2)->Reach E C k (bu f) (bl f.ntmps (jn (ks.map M) x) []) (λr h=>bb h outs r=M (a x))) (d:E.P=P:=by rfl) (q:E.gl=g:=by rfl):nZ P g k (aX ks outs a):=by subst d q;exact SK (aZ c λx _ C b=>h x C b)
def TA(outs:List Sh):zT->Option (zF (outs.map M))
 |.ret v h=>bb h outs v
 |_=>Q2
theorem Tr.sat_of_res{y:zF (outs.map M)}{v:Tr zT}(h:v.val.bind (TA outs)=M y):v.Sat (kR E C fn (λr h=>bb h outs r=M y)):=by
 rw[gA]at h;have⟨l,b,a⟩:=h;refine Tr.sat_of_val b ?_;cases l with
 |ret x h=>exact a
 |head _ _ _=>cases a
 |fork _ _ _ _=>cases a
theorem bA{y:zF (outs.map M)}(b:zw E)(c:zZ E.P k f n)(a:∀id,n0<=id->C.ρ0 id=Q2){A:Nat}
    {x:Tr zT} (d:run E n0 keep f.results.toList A t s=x) (h:x.val.bind (TA outs)=M y):Reach E C k t s (λr h=>bb h outs r=M y):=by refine em b c a keep A ?_;rw[d];exact Tr.sat_of_res h
theorem zg.eta:∀e:zg,zg.mk e.op e.v e.s e.l=e
 |.mk _ _ _ _=>rfl
structure MT (E E0:ct):Prop where
 p:E.P=E0.P
 g:E.gl=E0.gl
theorem MT.refl(E:ct):MT E E:=⟨rfl,rfl⟩
theorem MT.add{x:ct}(h:MT E x)(k:FuncId)(F:ah):MT (E.add k F) x:=⟨h.p,h.g⟩
abbrev zt(e:zg):zg:=.mk e.op e.v e.s e.l
theorem zo(e:zg):zt e=e:=zg.eta e
abbrev U0:Nat->Prop:=λ_=>False
abbrev jD:Nat->Option Value:=λ_=>Q2
def Xl(P:Program)(h:TypeId->Sh->Bool):List Field->Nat->Sh->Bool
 |[],_,_=>S
 |[f],o,s=>f.offset==o&&(h f.type s&&P.cellsOf f.type==s.size)
 |f::fs,o,.pr a b=>f.offset==o&&(h f.type a&&(P.cellsOf f.type==a.size&&Xl P h fs (o+a.size) b))
 |_,_,_=>S
def sY(P:Program)(t:TypeId):Bool:=match P.underlying t with
 |some .string=>P.cellsOf t==1
 |_=>S
def Tw(P:Program)(t e:TypeId):Bool:=match P.underlying t with
 |some (.slice u)=>u==e&&P.cellsOf t==1
 |_=>S
def Sv(P:Program):Nat->TypeId->Sh->Bool
 |0,_,_=>S
 | n+1,t,s=>match P.underlying t,s with
  |some .bool,.bool=>O
  |some (.int k),.int x=>k==x
  |some .string,.str=>O
  |some (.slice e),.sl s=>P.cellsOf e==s.size&&(decide (0<s.size)&&Sv P n e s)
  | some (.struct h),.expr=>match h.toList with
   |[a,b,c,d]=>P.cellsOf t==6&&(a.offset==0&&(b.offset==1&&(c.offset==4&&(d.offset==5&&(sY P a.type&&(sY P c.type&&(Tw P d.type t&&(P.cellsOf b.type==3&&Sv P n b.type (.pr (.int .i64) (.pr (.int .i64) .str))))))))))
   |_=>S
  |some (.struct h),.pr a b=>P.cellsOf t==(Sh.pr a b).size&&Xl P (Sv P n) h.toList 0 (.pr a b)
  |_,_=>S
section
variable {H:Type} {enc:TypeId×Value->H} {P:Program} {w:World} {sp:Nat->Bool} {held:Bool}
def Got(w:World)(s:Sh)(c:List Value):Prop:=∃x:J s,di w U0 jD (zD s x) c/\∀v∈c,v.oneCell'=O
theorem dR{α β:Type}{f:α->Option β}{a:α}{l:List α}{r:List β}(h:(a::l).mapM f=M r):∃y b,f a=M y/\l.mapM f=M b/\r=y::b:=by
 rw[List.mapM_cons]at h;cases c:f a with
 |none=>rw[c]at h;simp at h
 | some y=>
  cases x:l.mapM f with
  |none=>rw[c,x]at h;simp at h
  | some b=>
   rw[c,x]at h;simp at h;exact⟨y,b,rfl,rfl,h.symm⟩
theorem Ot{α β:Type}{f:α->Option β}:∀{l:List α}{r:List β},l.mapM f=M r->∀x∈l,∃y,f x=M y
 |[],_,_,_,b=>by simp at b
 | a::l,r,h,x,b=>by
  have⟨y,e,c,d,_⟩:=dR h;rcases bX.1 b with rfl|b
  .exact⟨y,c⟩
  .exact Ot d x b
theorem Ff{α β:Type}{f:α->Option β}:∀{l:List α}{r:List β},l.mapM f=M r->X r=X l/\∀(i:Nat) a,l[i]?=M a->f a=r[i]?
 |[],r,h=>by simp at h;subst h;simp
 | a::l,r,h=>by
  obtain⟨y,j,c,d,rfl⟩:=dR h;have⟨e,g⟩:=Ff d;refine⟨by simp[e],λi b x=>?_⟩;cases i with
  |zero=>simp at x;subst x;simpa using c
  |succ i=>simpa using g i b (by simpa using x)
theorem MY(a:Addr)(h:a.spot=Q2)(n:Nat):a.add n=⟨a.block,a.off+n,Q2⟩:=by
 have⟨b,o,s⟩:=a;simp only at h;subst h;unfold Addr.add;split
 next h=>subst h;rfl
 .rfl
variable {c:List Value}
theorem di.take{cs:List AV}(h:di w U0 jD cs c)(n:Nat):di w U0 jD (cs.take n) (c.take n):=by
 refine⟨by simp[h.len],λj x v a b=>?_⟩;rw[M1]at a b;split at a
 next d=>rw[zf d]at b;exact h.rv j x v a b
 .cases a
theorem di.appS{i b:List AV}{y:List Value}(h:di w U0 jD i c)(e:di w U0 jD b y):di w U0 jD (i++b) (c++y):=by
 refine⟨by simp[h.len,e.len],λj x v a d=>?_⟩;by_cases g:j<X i
 .rw[qK g]at a;rw[qK (by rw[<-h.len];exact g)]at d;exact h.rv j x v a d
 .rw[pn W]at a;rw[pn (by rw[<-h.len];omega),<-h.len]at d;exact e.rv _ x v a d
theorem di.one{c:AV}{v:Value}(h:Rv w U0 jD c v):di w U0 jD [c] [v]:=by
 refine⟨rfl,λj d u x a=>?_⟩;cases j with
 |zero=>simp at x a;subst x;subst a;exact h
 |succ j=>simp at x
theorem EG{n:Nat}{x:TypeId->Sh->Bool}(p:∀t s c d U,x t s=O->DataW.trod enc P w 0 sp held n t c=M (d,U)->Got w s c){c:List Value}:
  ∀(A:List Field)(o:Nat)(s:Sh) z,Xl P x A o s=O->(A.mapM λf=>DataW.trod enc P w 0 sp held n f.type ((c.drop f.offset).take (P.cellsOf f.type)))=M z->Got w s ((c.drop o).take s.size)
 |[],_,_,_,h,_=>by simp[Xl]at h
 | [f],o,s,z,h,q=>by
  simp only[Xl,aP,bW]at h;have⟨k,l,m⟩:=h;have⟨y,E,i,_,_⟩:=dR q;rw[k,m]at i;exact p _ _ _ _ _ l i
 | f::g::fs,o,.pr a b,z,h,q=>by
  simp only[Xl,aP,bW]at h;have⟨k,l,m,F⟩:=h;have⟨y,E,i,u,_⟩:=dR q;rw[k,m]at i;have⟨C,B,o1⟩:=p _ _ _ _ _ l i;have⟨D,r2,o2⟩:=EG p (g::fs) (o+a.size) b E F u;have G:((c.drop o).take a.size).length=a.size:=by rw[<-B.len,au]
  have e:(c.drop o).take (a.size+b.size)=(c.drop o).take a.size++(c.drop (o+a.size)).take b.size:=by
   rw[List.take_add,List.drop_drop]
  refine⟨(C,D),?_,?_⟩
  .show di w U0 jD (zD a C++zD b D) ((c.drop o).take (a.size+b.size));rw[e];exact B.appS r2
  .intro v j;have j:v∈(c.drop o).take (a.size+b.size):=j;rw[e,cZ]at j;exact j.elim (o1 v) (o2 v)
 |_::_::_,_,.unit,_,h,_=>by simp[Xl]at h
 |_::_::_,_,.bool,_,h,_=>by simp[Xl]at h
 |_::_::_,_,.int _,_,h,_=>by simp[Xl]at h
 |_::_::_,_,.str,_,h,_=>by simp[Xl]at h
 |_::_::_,_,.sl _,_,h,_=>by simp[Xl]at h
 |_::_::_,_,.expr,_,h,_=>by simp[Xl]at h
variable {n:Nat}{a e:TypeId}{j:DataW H}{p:List MemPlace}
theorem JG{y:Sh}(ht:P.underlying a=M (.slice e))(hc:P.cellsOf e=y.size)(C:0<y.size)
  (hT:∀c j p,DataW.trod enc P w 0 sp held n e c=M (j,p)->Got w y c)    (h:DataW.trod enc P w 0 sp held (n+1) a c=M (j,p)):Got w (.sl y) c:=by
 unfold DataW.trod at h;rw[ht]at h;split at h
 all_goals first
  |(rename_i E;cases E;done)
  |(rename_i E _;cases E;done)
  |(simp at h;done)
  |skip
 next E=>cases E;exact⟨[],di.one (.sl0 y Q2 0),by simp[Value.oneCell']⟩
 .rename_i b s G E;cases E;simp only[aK,true_and]at h;split at h
  .rename_i h9;rw[gA]at h;have⟨h7,he,_⟩:=h;have h0:∀i,∃x:J y,i<s->∃o,w.cells? 0 (b.add (i*y.size)) y.size=M o/\di w U0 jD (zD y x) o:=by
    intro i;by_cases z:i<s
    .have⟨d,hy⟩:=Ot he i (by simpa using z);rw[gA]at hy;have⟨o,v,A⟩:=hy;have⟨x,hx,_⟩:=hT o d.1 d.2 A;rw[hc]at v;exact⟨x,λ_=>⟨o,v,hx⟩⟩
    .exact⟨zi y,λh=>(z h).elim⟩
   have⟨m,hX⟩:=Classical.axiomOfChoice h0;have x1:maxLen=aE:=rfl;cases s with
   |zero=>exact⟨[],di.one (.sl0 y (M b) G),by simp[Value.oneCell']⟩
   | succ s=>
    have t:∀i,i<s+1->∃o,X o=y.size/\(∀k,k<y.size->w.cell? ((b.add (i*y.size)).add k)=o[k]?)/\di w U0 jD (zD y (m i)) o:=by
     intro i z;have⟨o,v,A⟩:=hX i z;unfold World.cells? at v;rw[zf (aK _)]at v;have⟨F,h4⟩:=Ff v;refine⟨o,by simpa using F,λk B=>?_,A⟩;exact h4 k k (by simp[B])
    have u:b.spot=Q2:=by
     have⟨o,v,A,_⟩:=t 0 W;have:=A 0 C;simp only[Nat.zero_mul,Addr.add,zj]at this;rw[af W]at this;unfold World.cell? at this;split at this
     .split at this
      .cases this
      .rename_i hs;cases x0:b.spot with
       |none=>rfl
       |some q=>rw[x0]at hs;simp at hs
     .cases this
    have h5:b.block<w.heap.size:=by
     have⟨o,v,A,_⟩:=t 0 W;have:=A 0 C;simp only[Nat.zero_mul,Addr.add,zj]at this;rw[af W]at this;have ha:b=⟨b.block,b.off,Q2⟩:=by rw[<-u]
     rw[ha]at this;exact wz this
    have h8:∀i,∃o:List Value,i<s+1->X o=y.size/\(∀k,k<y.size->w.cell? ⟨b.block,b.off+i*y.size+k,Q2⟩=o[k]?)/\di w U0 jD (zD y (m i)) o:=by
     intro i;by_cases z:i<s+1
     .have⟨o,v,A,F⟩:=t i z;refine⟨o,λ_=>⟨v,λk B=>?_,F⟩⟩;rw[<-A k B,MY b u,MY _ rfl]
     .exact⟨[],λh=>(z h).elim⟩
    have⟨Cs,U⟩:=Classical.axiomOfChoice h8;let l:List (J y):=(List.range (s+1)).map m
    have hl:X l=s+1:=by simp[l]
    have h6:∀i(z:i<X l),l[i]=m i:=by intro i z;simp[l]
    refine⟨l,di.one ?_,by simp[Value.oneCell']⟩;have ha:b=⟨b.block,b.off,Q2⟩:=by rw[<-u]
    rw[ha,<-hl];refine .sl y l b.block b.off G (λi k=>((Cs i)[k]?).getD undef) W W h5 (λh=>h) ?_ ?_
    .intro i k z B;have⟨v,A,_⟩:=U i W;rw[A k B,af W];rfl
    .intro i z k g D;have⟨v,_,F⟩:=U i W;rw[h6 i z]at D;have B:k<(Cs i).length:=by
      have:=(dC.1 D).1;rw[F.len]at this;exact this
     have:=F.rv k g _ D (af B);rw[af B];exact this
  .cases h
theorem Mb(b:P.underlying a=M .string)(h:DataW.trod enc P w 0 sp held n a c=M (j,p)):Got w .str c:=by
 cases n with
 |zero=>simp[DataW.trod]at h
 | succ n=>
  unfold DataW.trod at h;rw[b]at h;split at h
  all_goals first
   |(rename_i x;cases x;done)
   |(rename_i x _;cases x;done)
   |(simp at h;done)
   |skip
  rename_i s x;split at h
  next g=>refine⟨s.data.toList,di.one ?_,by simp[Value.oneCell']⟩;have e:maxLen=aE:=rfl;have d:s.size=s.data.toList.length:=rfl;exact .str s.data.toList W
  .cases h
theorem EW(h:sY P a=O):P.underlying a=M .string/\P.cellsOf a=1:=by
 unfold sY at h;split at h
 next x=>exact⟨x,by simpa using h⟩
 .cases h
theorem ZI(h:Tw P a e=O):P.underlying a=M (.slice e)/\P.cellsOf a=1:=by
 unfold Tw at h;split at h
 next u x=>simp only[aP,bW]at h;rw[<-h.1];exact⟨x,h.2⟩
 .cases h
theorem sv:∀(x n:Nat)(t:TypeId)(s:Sh)(j:List Value)(d:DataW H)(y:List MemPlace),Sv P n t s=O->DataW.trod enc P w 0 sp held x t j=M (d,y)->Got w s j
 |0,_,_,_,_,_,_,_,h=>by simp[DataW.trod]at h
 |x+1,0,_,_,_,_,_,g,_=>by simp[Sv]at g
 | x+1,n+1,t,s,j,d,y,g,h=>by
  have h0:=h;unfold Sv at g;split at g
  .rename_i l;unfold DataW.trod at h;rw[l]at h;split at h
   all_goals first
    |(rename_i i;cases i;done)
    |(rename_i i _;cases i;done)
    |(simp at h;done)
    |skip
   exact⟨_,di.one (.bool _),by simp[Value.oneCell']⟩
  .rename_i k k' l;have hk:k=k':=by simpa using g
   subst hk;unfold DataW.trod at h;rw[l]at h;split at h
   all_goals first
    |(rename_i i;cases i;done)
    |(rename_i i _;cases i;done)
    |(simp at h;done)
    |skip
   rename_i k1 k2 m i;cases i;split at h
   next D=>obtain⟨rfl,D⟩:=D;simp only[Lit.wf,aP,ba]at D;exact⟨m,di.one (.int _ _ ⟨D.1,D.2⟩),by simp[Value.oneCell']⟩
   .cases h
  next l=>exact Mb l h
  next e s l=>simp only[aP,bW,ba]at g;exact JG l g.1 g.2.1 (λj d y h=>sv x n e s j d y g.q h) h
  .rename_i fs l;split at g
   .rename_i a b c d' C;simp only[aP,bW]at g;have⟨z,ha,hb,hc,hd,U,sc,sd,zb,tb⟩:=g;have⟨U,za⟩:=EW U;have⟨sc,zc⟩:=EW sc;have⟨sd,zd⟩:=ZI sd;unfold DataW.trod at h;rw[l]at h;simp only at h;split at h
    .rename_i o;rw[dW]at h;have⟨xs,p,_⟩:=h;rw[C]at p;have⟨ya,r1,E,p,_⟩:=dR p;have⟨yb,r2,F,p,_⟩:=dR p;have⟨yc,r3,G,p,_⟩:=dR p;have⟨yd,r4,A,p,_⟩:=dR p;rw[ha,za]at E;rw[hb,zb]at F;rw[hc,zc]at G;rw[hd,zd]at A;have⟨xa,ga,oa⟩:=Mb U E;have⟨xb,gb,ob⟩:=sv x n b.type _ _ _ _ tb F;have⟨xc,gc,oc⟩:=Mb sc G;have h3:Got w (.sl .expr) ((j.drop 5).take 1):=by
      cases x with
      |zero=>simp[DataW.trod]at A
      | succ x=>
       refine JG sd (by rw[z];rfl) (by decide) (λj d y h=>sv x (n+1) t .expr j d y ?_ h) A;unfold Sv;rw[l];simp only[C,aP,bW];refine⟨z,ha,hb,hc,hd,?_,?_,?_,zb,tb⟩
       .simp[sY,U,za]
       .simp[sY,sc,zc]
       .simp[Tw,sd,zd]
     have⟨xd,gd,od⟩:=h3;have h4:X j=6:=by rw[o,z]
     have B:j=(j.drop 0).take 1++((j.drop 1).take 3++((j.drop 4).take 1++(j.drop 5).take 1)):=by
      match j,h4 with
      |[v0,v1,v2,v3,v4,v5],_=>rfl
     refine⟨zg.mk xa xb xc xd,?_,?_⟩
     .have hr:=ga.appS (gb.appS (gc.appS gd));rw[<-B]at hr;exact hr
     .intro v u;rw[B]at u;simp only[cZ]at u;rcases u with u|u|u|u
      .exact oa v u
      .exact ob v u
      .exact oc v u
      .exact od v u
    .cases h
   .cases g
  .rename_i fs a b l;simp only[aP,bW]at g;unfold DataW.trod at h;rw[l]at h;simp only at h;split at h
   next o=>rw[dW]at h;have⟨xs,p,_⟩:=h;have:=EG (λt s j d y h1 h2=>sv x n t s j d y h1 h2) fs.toList 0 (.pr a b) xs g.2 p;rw[List.drop_zero,HQ (by rw[o,g.1];exact zQ _)]at this;exact this
   .cases h
  .cases g
termination_by x=>x
theorem Cr{s:Sh}{z:Value}(l:Sv P n a s=O)(h:DataW.Trod enc P w 0 sp held a z j p)(e:(∃i,z=.agg i)↔s.isAgg=O)(k:s.isAgg=S->z.cells=#[z]):∃x:J s,Rv w U0 jD (zX s x) z:=by
 have⟨d,h⟩:=h;have⟨x,b,q⟩:=sv d n a s _ j p l h;refine⟨x,?_⟩;unfold zX;cases m:s.isAgg with
 | true=>
  obtain⟨i,rfl⟩:=e.2 m;simp only;have:=Rv.agg (w:=w) (U:=U0) (ρ:=jD) (zD s x) i.toList b.len q b.rv;simpa using this
 | false=>
  simp only;rw[k m]at b;have g:=b.len
  match o:zD s x,g with
  | [c],_=>
   rw[o]at b;exact b.rv 0 c z rfl rfl
end
end
end Cad
namespace Go.Proofs
open Cad (zC zQ zf zj zm)
open Go.Shelf Go.RowKit Go.Lib Go.Sort
open Bool renaming false->Q4,true->Q3
open Option renaming none->Q2,some->Q1
theorem gd_of{w w':World}(h:Below w.heap.size w w')(hd:w.drawn<=w'.drawn):∃q os',w'=grow (w.drewN q) os':=by
 refine⟨w'.drawn-w.drawn,w'.heap.extract w.heap.size w'.heap.size,?_⟩;have hh:w'.heap=w.heap++w'.heap.extract w.heap.size w'.heap.size:=by
  apply Array.ext_getElem?;intro i;by_cases hi:i<w.heap.size
  .rw[Array.getElem?_append_left hi,h.block i hi]
  .rw[Array.getElem?_append_right (by omega)];have hs:=h.size;by_cases hi2:i<w'.heap.size
   .rw[Array.getElem?_extract,zf (by omega)];congr 1;omega
   .rw[Array.getElem?_eq_none (by omega),Array.getElem?_eq_none (by simp;omega)]
 obtain⟨heap,tape,drawn,os,output⟩:=w;obtain⟨heap',tape',drawn',os',output'⟩:=w';have h1:=h.os;have h2:=h.tape;have h3:=h.output;simp only at h1 h2 h3 hd hh;subst h1 h2 h3;unfold grow World.drewN;simp only[World.mk.injEq,true_and,and_true];exact⟨hh,by omega⟩
set_option maxHeartbeats 1000000 in
theorem Tryz.odd63(r:Nat)(W:World):Calls Tryz.prog 98 #[.int .i32 (r:Int)] W λe w'=>e=.returned (.bool (decide ((r:Int)<32)||decide ((r:Int)>126)))/\w'=W:=by
 go_enter Tryz.func98,Tryz.ntmps98
 go_wp2
 .go_ret
  exact⟨by simp,rfl⟩
 next h=>
  go_ret
  exact⟨by simp,rfl⟩
set_option maxHeartbeats 4000000 in
set_option maxRecDepth 1000000 in
theorem Tryz.indexFunc112(p:Nat->Bool)(s:ByteArray)(w:World)(hp:∀(W:World)(x:Nat),Calls Tryz.prog 98 #[.int .i32 (x:Int)] W λe w'=>e=.returned (.bool (p x))/\w'=W):
  Calls Tryz.prog 164 #[.string s,.func (.func 98) #[] #[],.bool Q3] w λe w'=>e=.returned (.int .i64 (Lib.idxFunc p Q3 s))/\Below w.heap.size w w'/\w.drawn<=w'.drawn:=by
 go_enter Tryz.func164,Tryz.ntmps164
 go_wp2
 go_loopg [] s.size (λgf wx=>∃pos:Nat,wx.heap[w.heap.size]?=Q1 (.stringIter s pos)/\(Below w.heap.size w wx/\w.drawn<=wx.drawn)/\Lib.idxFuncFrom p Q3 s gf pos=Lib.idxFunc p Q3 s/\s.size<=pos+gf)
 case atStart=>exact⟨0,World.iter_heap w s 0,⟨(Below.refl _ w).alloc (zQ _) _,zQ _⟩,rfl,by omega⟩
 case round=>
  obtain⟨pos,hit,⟨hbw,hdr⟩,hleft,hfu⟩:=hrel;by_cases hps:pos<s.size
  .obtain⟨g',rfl⟩:∃g',gk=g'+1:=⟨gk-1,by omega⟩;have hnx:∀ty,(Instr.next (.pointer (Q1 ⟨w.heap.size,0,Q2⟩)) Q3 ty).run Tryz.prog wr=_:=λty=>Lib.run_next_any_at wr w.heap.size s pos ty hit hps
   have hwd:=Lib.width_pos s pos;obtain⟨R,hR⟩:∃R,(Utf8.decode s pos).1=R:=⟨_,rfl⟩;obtain⟨K,hK⟩:∃K,(Utf8.decode s pos).2=K:=⟨_,rfl⟩;simp only[Lib.idxFuncFrom,hps,zj,hR,hK]at hleft;rw[hR,hK]at hnx;rw[hK]at hwd;have hit2:=Lib.iterAt_heap wr w.heap.size s pos (pos+K) hit;have hbw2:=Lib.below_iterAt hbw (k:=w.heap.size) (zQ _) s (pos+K);have hdr2:w.drawn<=(wr.iterAt w.heap.size s (pos+K)).drawn:=hdr;obtain⟨W,hWd⟩:∃W,wr.iterAt w.heap.size s (pos+K)=W:=⟨_,rfl⟩;rw[hWd]at hnx hit2 hbw2 hdr2;have cS:=hp W R;clear hp;cases hsp:p R<;>rw[hsp]at cS<;>simp only[hsp,zj,zC,zm]at hleft
   .go_wp2_with (go_at_call 98;refine cS.mono ?_;rintro e W' ⟨rfl,rfl⟩)
    go_roundg g'
    case measure=>omega
    case rel=>exact⟨pos+K,hit2,⟨hbw2,hdr2⟩,hleft,by omega⟩
   .go_wp2_with (go_at_call 98;refine cS.mono ?_;rintro e W' ⟨rfl,rfl⟩)
    go_ret
    exact⟨by rw[<-hleft]<;>rfl,hbw2,hdr2⟩
  .have hnx:∀ty,(Instr.next (.pointer (Q1 ⟨w.heap.size,0,Q2⟩)) Q3 ty).run Tryz.prog wr=_:=λty=>Lib.run_next_end_at wr w.heap.size s pos ty hit hps
   rw[Lib.idxFuncFrom_end p Q3 s gk pos hps]at hleft
   go_wp2
   go_ret
   exact⟨by rw[<-hleft]<;>rfl,hbw,hdr⟩
theorem Tryz.indexFunc64(p:Nat->Bool)(s:ByteArray)(w:World)(hp:∀(W:World)(x:Nat),Calls Tryz.prog 98 #[.int .i32 (x:Int)] W λe w'=>e=.returned (.bool (p x))/\w'=W):
  Calls Tryz.prog 99 #[.string s,.func (.func 98) #[] #[]] w λe w'=>e=.returned (.int .i64 (Lib.idxFunc p Q3 s))/\Below w.heap.size w w'/\w.drawn<=w'.drawn:=by
 have h:=λW'=>Tryz.indexFunc112 p s W' hp
 go_enter Tryz.func99,Tryz.ntmps99
 go_wp2_with (go_at_call 164;refine(h _).mono ?_;rintro e w' ⟨rfl,h1,h2⟩)
 go_ret
 exact⟨rfl,h1,h2⟩
end Go.Proofs
namespace Cad
open Go Go.Proofs
open List renaming length->X
open IntKind renaming wrap->Γ,i64->Δ
open Bool renaming false->Q4,true->Q3
open Option renaming none->Q2,some->M
open Tr (chk br)
open AV (nils agg tup ptr kb sl)
open AV renaming sl->T,str->I
open Cad renaming Sem->J,ai->L,zi->Q,ow->W
noncomputable section
theorem Reach.len{E:ct}{C:eW}{fn:FuncId}{t:List Item}{s:St}{Q:AV->List AO->Prop}(j:Nat)(e:Sh)(l:List (J e))(d:s.tmps[j]?=M (.sl e l))(h:X l<=aE->Reach E C fn t s Q):Reach E C fn t s Q:=by
 intro b g a w U o i k x m;refine h ?_ b g a w U o i k x m;have c:j<a.tmps.toList.length:=by rw[<-x.tm.len];exact(dC.1 d).1
 have:=x.tm.rv j _ _ d (af c);generalize a.tmps.toList[j]=v at this;cases this with
 |sl0=>simp
 |sl _ _ _ _ _ _ _ n=>exact n
theorem zu(i:Nat)(h:i<aE):Γ Δ (↑i+1)=((i+1:Nat):Int):=by have:aE=9223372036854775807:=rfl;rw[eK];omega
theorem dm{α:Type}(l:List α)(d:α){n:Nat}(h:n<X l):l.getD (n:Int).toNat d=l[n]:=by simp[h]
def aj{α:Type}(p:α->Bool):List α->Nat->Int
 |[],_=>-1
 |x::r,i=>if p x then i else aj p r (i+1)
def Kl:ct:=(zeu.aut 176 Tryz.f176 2).aut 276 Tryz.f276 2
theorem ru:zw Kl:=by refine jp (jp wK ?_) ?_<;>(refine⟨?_,?_,?_,?_⟩<;>kernel_rfl)
abbrev Oe:Nat->aY:=λ_=>{slots:=[0,1,7,8]}
theorem zav:zZ Kl.P 175 Tryz.f175 2:=cI kw
abbrev Dk(l:aV)(s:zK)(i:Int):St:={
    tmps:=
     (tm 19 [(0,T (Sh.str.pr ((Sh.int IntKind.i64).pr Sh.bool)) l),(1,AV.clo (Fn.func 176) [] [ptr 0 0]),(7,L ↑l.length),(8,L i)]),
    heap:=[AO.box [I s]]}
theorem zeF(l:aV)(s:zK):run Kl 1 Oe Tryz.f175.results.toList 300 (bu Tryz.f175) (bl Tryz.f175.ntmps [.sl zn l,.clo (.func 176) [] [.ptr 0 0]] [.box [.str s]])=.ok (.head 2 (ap Tryz.f175 2) (Dk l s 0)):=kw
theorem zfq(l:aV)(s:zK)(i:Int):run Kl 1 Oe Tryz.f175.results.toList 300 (ap Tryz.f175 2) (Dk l s i)=
 br (decide (i<↑l.length))
  (chk (zL i (X l))
   (br ((l.getD i.toNat (Q (Sh.str.pr ((Sh.int IntKind.i64).pr Sh.bool)))).1==s)
    (Tr.ok (zT.ret (L i) [AO.box [I s]]))
    (Tr.ok (zT.head 2 (ap Tryz.f175 2) (Dk l s (Γ Δ (i+1)))))))
  (Tr.ok (zT.ret (L (-1)) [AO.box [I s]])):=kw
theorem SU{C:eW}(b:∀id,1<=id->C.ρ0 id=Q2)(l:aV)(s:zK)(d:X l<=aE):∀(n i:Nat),X l-i=n->i<=X l->
  Reach Kl C 175 (ap Tryz.f175 2) (Dk l s i) (λr h=>(r,h)=(.int .i64 (aj (λc=>c.1==s) (l.drop i) i),[.box [.str s]]))
 | n,i,e,g=>by
  subst e;refine em ru zav b Oe 300 ?_;rw[zfq];refine⟨λh=>⟨?_,λa=>?_,λa=>?_⟩,λh=>?_⟩
  .simp only[ba]at h;simp[zL];omega
  .simp only[ba]at h;have x:i<X l:=by omega
   rw[dm l _ x]at a;rw[ij x];simp only[aj];rw[zf a];rfl
  .simp only[ba]at h;have x:i<X l:=by omega
   rw[dm l _ x]at a;rw[ij x];simp only[aj];rw[zh (by rw[a];simp),zu i W];exact SU b l s d (X l-(i+1)) (i+1) rfl W
  .simp only[ef]at h;rw[HP W];rfl
 termination_by n=>n
abbrev Dl(l:aV)(s:zK)(i:Int):St:={
    tmps:=
     (tm 19 [(0,T (Sh.str.pr ((Sh.int IntKind.i64).pr Sh.bool)) l),(1,AV.clo (Fn.func 276) [] [ptr 0 0]),(7,L ↑l.length),(8,L i)]),
    heap:=[AO.box [I s]]}
theorem zeG(l:aV)(s:zK):run Kl 1 Oe Tryz.f175.results.toList 300 (bu Tryz.f175) (bl Tryz.f175.ntmps [.sl zn l,.clo (.func 276) [] [.ptr 0 0]] [.box [.str s]])=.ok (.head 2 (ap Tryz.f175 2) (Dl l s 0)):=kw
theorem zfr(l:aV)(s:zK)(i:Int):run Kl 1 Oe Tryz.f175.results.toList 300 (ap Tryz.f175 2) (Dl l s i)=
 br (decide (i<↑l.length))
  (chk (zL i (X l))
   (br ((l.getD i.toNat (Q (Sh.str.pr ((Sh.int IntKind.i64).pr Sh.bool)))).1==s)
    (Tr.ok (zT.ret (L i) [AO.box [I s]]))
    (Tr.ok (zT.head 2 (ap Tryz.f175 2) (Dl l s (Γ Δ (i+1)))))))
  (Tr.ok (zT.ret (L (-1)) [AO.box [I s]])):=kw
theorem SV{C:eW}(b:∀id,1<=id->C.ρ0 id=Q2)(l:aV)(s:zK)(d:X l<=aE):∀(n i:Nat),X l-i=n->i<=X l->
  Reach Kl C 175 (ap Tryz.f175 2) (Dl l s i) (λr h=>(r,h)=(.int .i64 (aj (λc=>c.1==s) (l.drop i) i),[.box [.str s]]))
 | n,i,e,g=>by
  subst e;refine em ru zav b Oe 300 ?_;rw[zfr];refine⟨λh=>⟨?_,λa=>?_,λa=>?_⟩,λh=>?_⟩
  .simp only[ba]at h;simp[zL];omega
  .simp only[ba]at h;have x:i<X l:=by omega
   rw[dm l _ x]at a;rw[ij x];simp only[aj];rw[zf a];rfl
  .simp only[ba]at h;have x:i<X l:=by omega
   rw[dm l _ x]at a;rw[ij x];simp only[aj];rw[zh (by rw[a];simp),zu i W];exact SV b l s d (X l-(i+1)) (i+1) rfl W
  .simp only[ef]at h;rw[HP W];rfl
 termination_by n=>n
def G27:fz [M (.sl zn),Q2]:=λx h=>match x,h with
 |(l,.clo (.func 176) [] [.ptr 0 0],_),[.box [.str s]]=>.ok (.int .i64 (aj (λc=>c.1==s) l 0),[.box [.str s]])
 |(l,.clo (.func 276) [] [.ptr 0 0],_),[.box [.str s]]=>.ok (.int .i64 (aj (λc=>c.1==s) l 0),[.box [.str s]])
 |_,_=>.err
theorem zra:FK 175 (bj [M (.sl zn),Q2] G27):=by
 refine dw zav λx d c h C a=>?_
 unfold G27 at h;split at h
 .simp only[Tr.val_ok,bG]at h;subst h;rename_i _ _ l u s;refine Reach.len 0 zn l rfl λb=>?_
  have e:jn [M (.sl zn),Q2] (l,.clo (.func 176) [] [.ptr 0 0],u)=[.sl zn l,.clo (.func 176) [] [.ptr 0 0]]:=rfl;rw[e];refine em (n0:=1) ru zav a Oe 300 ?_;rw[zeF];exact SU a l s b _ 0 rfl W
 .simp only[Tr.val_ok,bG]at h;subst h;rename_i _ _ l u s;refine Reach.len 0 zn l rfl λb=>?_
  have e:jn [M (.sl zn),Q2] (l,.clo (.func 276) [] [.ptr 0 0],u)=[.sl zn l,.clo (.func 276) [] [.ptr 0 0]]:=rfl;rw[e];refine em (n0:=1) ru zav a Oe 300 ?_;rw[zeG];exact SV a l s b _ 0 rfl W
 .simp at h
def YN:ct:=Kl.add 175 (bj [M (.sl zn),Q2] G27)
theorem Ec:zw YN:=ru.add zra
def zsT:ct:=(YN.add 108 (bj [M ab,M .str] (fg YN Tryz.f108 [M ab,M .str]))).add 238 (bj [M (.sl zn),M .str] (fg YN Tryz.f238 [M (.sl zn),M .str]))
theorem YP:zw zsT:=by refine(Ec.add (cj _ Ec ?_)).add (cj (E:=YN) _ Ec ?_)<;>(refine⟨?_,?_,?_,?_⟩<;>kernel_rfl)
end
end Cad
