/- The program's environment. -/
import Derived.Test.YtjdjldbhjmgmkaaGreatDoorN06
import Derived.Test.YtjdjldbhjmgmkaaGreatDoorN01
import Derived.Shelf.SlSortCmp.QuietGrown
namespace Cad
open Go
open List renaming length->N
open IntKind renaming wrap->Γ,i64->Δ
open Bool renaming false->Q4,true->Q3,true->Z,false->M
open Option renaming none->Q2,some->Q1,some->Y
open Tr (chk br)
open AV (nils agg tup ptr kb str sl)
open Cad renaming Sem->L,ow->S
noncomputable section
abbrev zk:Sh:=.int .i64
abbrev zy:=L zk
abbrev ea:=List (L zk)
abbrev ze:Sh:=.pr (.int .i64) (.pr (.int .i64) .str)
abbrev zo:=L ze
abbrev zr:=List (L ze)
abbrev fy:=L (Sh.sl ze)
abbrev zp:Sh:=.pr .str (.pr (.int .i64) .bool)
abbrev aZ:=List (L zp)
abbrev cw:=L (Sh.sl zp)
abbrev cK:=L zp
abbrev zI:Sh:=.pr (.int .i64) .str
abbrev cC:=L zI
abbrev dK:=List (L zI)
abbrev ae:Sh:=.pr .str (.pr (.sl zp) (.pr (.int .i64) (.pr (.sl (.int .i64)) (.pr (.sl zI) .expr))))
abbrev ap:=L ae
abbrev zl:Sh:=.pr ae (.sl (.sl ze))
abbrev zT:=List (L zl)
abbrev ag:=L zl
def zoV:Nat->Option Sh
 |3=>Y (.int .i64)
 |30=>Y ze
 |33=>Y .expr
 |25=>Y zp
 |128=>Y zI
 |9=>Y .str
 |5=>Y (.int .u8)
 |199=>Y (.pr (.int .i64) .str)
 |115=>Y (.pr .str .str)
 |117=>Y (.pr .str .expr)
 |39=>Y (.sl ze)
 |38=>Y (zl)
 |_=>Q2
abbrev nY:List Int:=[1,10,100,1000,10000,100000,1000000,10000000,100000000,1000000000,10000000000,100000000000,1000000000000,10000000000000,100000000000000,1000000000000000,10000000000000000,100000000000000000,1000000000000000000,10000000000000000000]
def Wu:Nat->AV
 |0=>.gint
 |1=>.eptr [.str Eg,.str Eh,.str Ee] 0
 |5=>.tab .u64 nY
 |_=>.any
abbrev FK(k:FuncId)(F:ak):Prop:=ou Go.Proofs.Tryz.prog Wu k F
def zeT:cy:={P:=Go.Proofs.Tryz.prog,sh:=zoV,gl:=Wu,F:=λ_=>Q2}
def cy.add(E:cy)(k:FuncId)(F:ak):cy:={E with F:=λj=>if j=k then Y F else E.F j}
variable {E:cy}{k:FuncId}
theorem zx.add{F:ak}(h:zx E)(b:ou E.P E.gl k F):zx (E.add k F) where
 sh:=h.sh
 fs:=λj a x=>by
  simp only[cy.add]at x;split at x
  next e=>cases x;rw[e];exact b
  .exact h.fs j a x
 mix:=h.mix
def T5:List (Nat×ak)->Nat->Option ak->Option ak
 |[],_,d=>d
 |p::r,j,d=>if j=p.1 then Y p.2 else T5 r j d
def cy.addL(E:cy)(l:List (Nat×ak)):cy:={E with F:=λj=>T5 l j (E.F j)}
def XV(P:Program)(g:Nat->AV):List (Nat×ak)->Prop
 |[]=>True
 |p::r=>ou P g p.1 p.2/\XV P g r
variable {P:Program}{g:Nat->AV}
theorem iP:XV P g []:=trivial
variable {n:Nat}
theorem fc{F:ak}{r:List (Nat×ak)}(h:ou P g n F)(t:XV P g r):XV P g ((n,F)::r):=⟨h,t⟩
theorem zx.addL(h:zx E){l:List (Nat×ak)}(a:XV E.P E.gl l):zx (E.addL l) where
 sh:=h.sh
 fs:=by
  intro k F;show T5 l k (E.F k)=Y F->ou E.P E.gl k F
  induction l with
  |nil=>exact h.fs k F
  | cons p r i=>
   intro x;rw[T5]at x;split at x
   next e=>cases x;rw[e];exact a.1
   .exact i a.2 x
 mix:=h.mix
def mv(h:Nat):Nat->Code->List Item->Option (List Item)
 |0,_,_=>Q2
 | n+1,c,k=>match c with
  | .seq a b=>match mv h n a (.code b::k) with
   |some r=>Y r
   |none=>mv h n b k
  | .cond _ a b=>match mv h n a k with
   |some r=>Y r
   |none=>mv h n b k
  |.block id c=>mv h n c (.inBlock id::k)
  |.loop c=>if fj c=h then Y (.code c::.inLoop c::k)else mv h n c (.inLoop c::k)
  |.region id _ _=>if id+500000=h then Y k else Q2
  |_=>Q2
def aq(f:Func)(k:Nat):List Item:=match f.body with
 |some c=>(mv k 1000 c []).getD []
 |none=>[]
def bv(f:Func):List Item:=match f.body with
 |some c=>[.code c]
 |none=>[]
theorem zod:zeT.P.follows .mixedOrders=Z:=kw
def unr:Nat->aY:=λ_=>{unroll:=Z}
def ff(E:cy)(f:Func)(ks:List (Option Sh)):fA ks:=λx h=>
 (run E (N h) unr f.results.toList 4000 (bv f) (bl f.ntmps (jj ks x) h)).bind λ
  |.ret v a=>.ok (v,a)
  |_=>.err
theorem Tr.sat_of_val{α:Type}{Φ:α->Prop}:∀{t:Tr α}{a:α},t.val=Y a->Φ a->t.Sat Φ
 |.err,_,h,_=>by simp at h
 | .chk c t,a,h,x=>by
  cases c
  .simp[Tr.val]at h
  .exact⟨rfl,sat_of_val (t:=t) (by simpa[Tr.val]using h) x⟩
 | .br c t f,a,h,x=>by
  cases c
  .exact⟨λh=>(by cases h),λ_=>sat_of_val (t:=f) (by simpa[Tr.val]using h) x⟩
  .exact⟨λ_=>sat_of_val (t:=t) (by simpa[Tr.val]using h) x,λh=>(by cases h)⟩
 |.ok b,a,h,x=>by simp[Tr.val]at h;subst h;exact x
def aa(P:Program)(k:FuncId)(f:Func)(n:Nat):Prop:=P.funcs[k]?=Q1 f/\(f.name=="runtime.NumGoroutine")=Q4/\f.body.isNone=Q4/\decide (n<=f.ntmps)=Q3
variable {f:Func}
theorem cM(h:(P.funcs[k]?,f.name=="runtime.NumGoroutine",f.body.isNone,decide (n<=f.ntmps))=(Q1 f,Q4,Q4,Q3)):aa P k f n:=by simp only[cQ]at h;exact⟨h.1,h.2.1,h.q.1,h.r⟩
theorem vF:∀(ks:List (Option Sh))(x:zH ks),(jj ks x).length=N ks
 |[],_=>rfl
 |some _::ks,x=>by simp[jj,vF ks x.2]
 |none::ks,x=>by simp[jj,vF ks x.2]
variable {C:eU}{Q:AV->List AO->Prop}{n0:Nat}{t:List Item}{s:St}
theorem ek(b:zx E)(c:aa E.P k f n)(a:∀id,n0<=id->C.ρ0 id=Q2)(keep:Nat->aY)(x:Nat)
    (h:(run E n0 keep f.results.toList x t s).Sat (kW E C k Q)):Reach E C k t s Q:=
 Kd b c.1 a rfl x _ _ h
theorem zee{i:List AV}{x:List AO}(l:aa E.P k f (N i))
  (h:∀C:eU,(∀id,N x<=id->C.ρ0 id=Q2)->Reach E C k (bv f) (bl f.ntmps i x) Q):XK E k i x Q:=by
 have⟨d,e,b,g⟩:=l;cases a:f.body with
 |none=>rw[a]at b;cases b
 | some c=>
  refine⟨f,c,d,a,e,lq g,λC j=>?_⟩;have:=h C j;simpa[bv,a]using this
theorem dA{ks:List (Option Sh)}{G:fA ks}(c:aa E.P k f (N ks))
  (h:∀x b a,(G x b).val=Y a->∀C:eU,(∀id,N b<=id->C.ρ0 id=Q2)->Reach E C k (bv f) (bl f.ntmps (jj ks x) b) (λr h=>(r,h)=a)) (i:E.P=P:=by rfl) (e:E.gl=g:=by rfl):ou P g k (bj ks G):=by subst i e;exact XZ ⟨f,c.1,c.2.1,c.q.1⟩ λx b a d=>zee (by rw[vF];exact c) (h x b a d)
theorem cr(ks:List (Option Sh))(d:zx E)(b:aa E.P k f (N ks))(i:E.P=P:=by rfl)(q:E.gl=g:=by rfl):ou P g k (bj ks (ff E f ks)):=by
 subst i q;refine dA b λx n j a C c=>ek d b c unr 4000 ?_
 unfold ff at a;simp only[Tr.val_bind,gE]at a;have⟨l,e,h⟩:=a;refine Tr.sat_of_val e ?_;cases l with
 |ret v m=>simp at h;exact h
 |head _ _ _=>simp at h
 |fork _ _ _ _=>simp at h
def zjU(P:Program)(t:TypeId)(e:Sh):Bool:=match P.info? t with
 |some i=>i.size==e.size&&decide (0<e.size)&&decide (i.bytes<=131072)&&(match i.zero with|some z=>z.cells.size==i.size|none=>M)
 |none=>M
theorem P6{a:TypeId}{y:Sh}(h:zjU P a y=Z):∃i z,P.info? a=Y i/\i.size=y.size/\0<y.size/\i.bytes<=131072/\i.zero=Y z/\z.cells.size=i.size:=by
 unfold zjU at h;split at h
 .rename_i i e;simp only[aO,bc,bX]at h;have⟨⟨⟨b,c⟩,d⟩,x⟩:=h;split at x
  next z g=>exact⟨i,z,e,b,c,d,g,by simpa using x⟩
  .cases x
 .cases h
theorem xe:zx zeT where
 sh:=by
  intro t e h;have x:zoV t=Y e:=h;unfold zoV at x;split at x
  all_goals first
   |(cases x;exact P6 kw)
   |cases x
 fs:=by intro k F h;cases h
 mix:=zod
abbrev rn(E:cy)(n:Nat)(k:Nat->aY)(f:Func)(a:List AV)(h:List AO):Tr zU:=run E n k (Func.results f).toList 400 (bv f) (bl (Func.ntmps f) a h)
abbrev rh(E:cy)(n:Nat)(h:Nat->aY)(f:Func)(k:Nat)(s:St):Tr zU:=run E n h (Func.results f).toList 400 (aq f k) s
def lk(h:List AO):Nat->AO:=λj=>h.getD j .dead
def zwz(h:List AO)(outs:List Sh):AV->Option (zH (outs.map Y))
 |.tup x=>nG (lk h) (λi=>i) (outs.map Y) x
 |_=>Q2
def aX(h:List AO):(outs:List Sh)->AV->Option (zH (outs.map Y))
 | [s],r=>match BK (lk h) s r with
  |some y=>Y (y,())
  |none=>Q2
 |[],r=>zwz h [] r
 |x::s2::ss,r=>zwz h (x::s2::ss) r
def Cj:(outs:List Sh)->zH (outs.map Y)->AV
 |[s],y=>zX s y.1
 |outs,y=>.tup (jj (outs.map Y) y)
theorem sa{e:Nat->AO}{f:Nat->Nat}:∀(c:List Sh)(b:List AV)(x:zH (c.map Y)),nG e f (c.map Y) b=Y x->dh e (c.map Y) b=Y ((jj (c.map Y) x).map λa=>(M,a))
 |[],[],_,_=>rfl
 | s::c,a::as',x,h=>by
  have d:nG e f (Y s::c.map Y) (a::as')=Y x:=h;show dh e (Y s::c.map Y) (a::as')=_;unfold nG at d;unfold dh;split at d
  next y r i g=>cases d;rw[i,sa c as' r g];rfl
  .cases d
 |[],_::_,_,h=>by simp[nG]at h
 |_::_,[],_,h=>by simp[nG]at h
variable {fn:FuncId}{outs:List Sh}
theorem Reach.plain{y:zH (outs.map Y)}(hC:∀id,C.ρ0 id=Q2)
  (h:Reach E C fn t s (λr h=>aX h outs r=Y y)):Reach E C fn t s (λr h=>(r,h)=(Cj outs y,[])):=by
 intro b cs a w U ρ h1 h2 hc hW;have⟨e,D,fr,⟨v,r,F,n,G,he,d,l,hH,h3,h4,j⟩,h0,hf,hl⟩:=h b cs a w U ρ h1 h2 hc hW;refine⟨e,D,fr,⟨v,_,_,λb=>n b/\b<C.w0.heap.size/\¬C.B0 b,λ_=>Q2,he,rfl,?_,⟨λid=>?_,λh5 h6 b o=>?_,λid b o=>?_⟩,λ_ _=>rfl,λid v z=>?_,⟨j.ext,j.same,λb k=>j.ub b k.1,λb k B=>j.u1 b k B.1,λb k B hn=>⟨j.u2 b k B hn,k,hn⟩,λg=>(j.gl g).weak λb k=>k.1⟩⟩,h0,hf,hl⟩
 .have A:∀id,bz D n G id (lk F id)/\∀b,ar G id (lk F id) b->¬(n b/\b<C.w0.heap.size/\¬C.B0 b):=by
   intro id;refine⟨hH.ob id,λb ho B=>?_⟩;rcases hH.blk id b ho with hB|hB
   .exact B.q hB
   .omega
  have m:∀(outs:List Sh)(y:zH (outs.map Y))(u:List AV),nG (lk F) (λi=>i) (outs.map Y) u=Y y->Rv D n G (.tup u) v->Rv D (λb=>n b/\b<C.w0.heap.size/\¬C.B0 b) (λ_=>Q2) (.tup (jj (outs.map Y) y)) v:=by
   intro outs y u hy l;cases l with
   |tup _ vs hl hr=>
   have:=(kN (w:=D) (U:=n) (ρ:=G) (U':=λb=>n b/\b<C.w0.heap.size/\¬C.B0 b) (ρ':=λ_=>Q2) (hp:=lk F) (f:=λi=>i) (λb k=>k.1) (outs.map Y) u vs _ (sa outs u y hy) ⟨hl,hr⟩ (λid _=>A id)
    (λid p=>by simp only[iH,List.filter_map,BH]at p;rw[List.filter_eq_nil_iff.2 sw]at p;simp[AV.idsL]at p)).1
   simp only[qL,BH,zA,zm,List.map_id']at this;exact .tup _ vs this.len this.rv
  match outs,y,d with
  | [c],y,d=>
   simp only[aX]at d;split at d
   next x hx=>cases d;exact Eo hx l (λb k=>k.1) (λid _=>A id)
   .cases d
  | [],y,d=>
   simp only[aX]at d;cases r with
   |tup u=>exact m [] y _ d l
   |_=>cases d
  | s1::s2::ss,y,d=>
   simp only[aX]at d;cases r with
   |tup u=>exact m _ y _ d l
   |_=>cases d
 .simp[bz]
 .have⟨_,v,z,_⟩:=o;cases z
 .have⟨_,v,z,_⟩:=o;cases z
 .rw[hC id]at z;cases z
variable {keep:Nat->aY}
theorem pm(a:zx E)(b:aa E.P k f n)(x:∀id,n0<=id->C.ρ0 id=Q2){A:Nat}
    {l:zU} (h:(run E n0 keep f.results.toList A t s).val=Y l) (c:kW E C k Q l):Reach E C k t s Q:=
 ek a b x keep A (Tr.sat_of_val h c)
def zbi(ks outs:List Sh)(g:zH (ks.map Y)->Option (zH (outs.map Y))):fA (ks.map Y):=λx h=>match h with
 | []=>match g x with
  |some y=>.ok (Cj outs y,[])
  |none=>.err
 |_=>.err
def wm(ks outs:List Sh)(g:zH (ks.map Y)->Option (zH (outs.map Y))):ak:=bj (ks.map Y) (zbi ks outs g)
variable {ks:List Sh}
theorem yZ{a:zH (ks.map Y)->Option (zH (outs.map Y))}(d:aa E.P k f (N ks))
  (h:∀x y,a x=Y y->∀C:eU,(∀id,C.ρ0 id=Q2)->Reach E C k (bv f) (bl f.ntmps (jj (ks.map Y) x) []) (λr h=>aX h outs r=Y y)) (i:E.P=P:=by rfl) (q:E.gl=g:=by rfl):ou P g k (wm ks outs a):=by
 subst i q;refine dA (by simpa using d) λx l j b C c=>?_
 unfold zbi at b;split at b
 .split at b
  next y e=>simp only[Tr.val_ok,bH]at b;subst b;exact Reach.plain (λid=>c id (by simp)) (h x y e C (λid=>c id (by simp)))
  .simp at b
 .simp at b
abbrev cy.aut(E:cy)(k:Nat)(f:Func)(n:Nat):cy:=E.add k (bj (List.replicate n Q2) (ff E f (List.replicate n Q2)))
theorem jl{h:Nat}(x:zx E)(a:aa E.P n f h):zx (E.aut n f h):=
 x.add (cr _ x (by simpa using a))
def gu(ks outs:List Sh)(c:zH (ks.map Y)->Bool)(g:zH (ks.map Y)->zH (outs.map Y)):fA (ks.map Y):=λx h=>match h with
 |[]=>.chk (c x) (.ok (Cj outs (g x),[]))
 |_=>.err
def af(ks outs:List Sh)(c:zH (ks.map Y)->Bool)(g:zH (ks.map Y)->zH (outs.map Y)):ak:=bj (ks.map Y) (gu ks outs c g)
theorem bb{c:zH (ks.map Y)->Bool}{a:zH (ks.map Y)->zH (outs.map Y)}(i:aa E.P k f (N ks))
  (h:∀x,c x=Z->∀C:eU,(∀id,C.ρ0 id=Q2)->Reach E C k (bv f) (bl f.ntmps (jj (ks.map Y) x) []) (λr h=>aX h outs r=Y (a x))) (j:E.P=P:=by rfl) (q:E.gl=g:=by rfl):ou P g k (af ks outs c a):=by
 subst j q;refine dA (by simpa using i) λx m l b C d=>?_
 unfold gu at b;split at b
 .simp only[Tr.val]at b;split at b
  next e=>simp only[bH]at b;subst b;exact Reach.plain (λid=>d id (by simp)) (h x e C (λid=>d id (by simp)))
  .simp at b
 .simp at b
theorem CN{e:List (Option Sh)}{ι:Type}[Nonempty ι]{G:fA e}{Gs:ι->fA e}(h:∀i,ou P g k (bj e (Gs i)))
  (s:∀x l b,(G x l).val=Y b->∃i,(Gs i x l).val=Y b):ou P g k (bj e G):=by
 refine⟨(h (Classical.choice inferInstance)).fn,?_⟩;intro w U A m n c v f o a;have:∃i,(bj e (Gs i) c m n).val=Y f:=by
  unfold bj at a|-;split at a
  .rename_i y t;simp only at a|-;split at a
   .rename_i d;split at a
    next z u=>simp only[Tr.val_bind,gE]at a;have⟨b,p,q⟩:=a;have⟨i,j⟩:=s _ _ _ p;exact⟨i,by simp only[d,zi,Tr.val_bind,gE];exact⟨b,j,q⟩⟩
    .simp at a
   .simp at a
  .simp at a
 have⟨i,j⟩:=this;exact(h i).calls w U A m n c v f o j
def Uz(ks outs:List Sh)(g:zH (ks.map Y)->zH (outs.map Y)):fA (ks.map Y):=λx h=>match h with
 |[]=>.ok (Cj outs (g x),[])
 |_=>.err
def ba(ks outs:List Sh)(g:zH (ks.map Y)->zH (outs.map Y)):ak:=bj (ks.map Y) (Uz ks outs g)
theorem Tc{a:zH (ks.map Y)->zH (outs.map Y)}(h:ou P g k (af ks outs (λ_=>Z) a)):ou P g k (ba ks outs a):=by
 refine CN (ι:=Unit) (Gs:=λ_=>gu ks outs (λ_=>Z) a) (λ_=>h) λx d c b=>⟨(),?_⟩
 unfold Uz at b;unfold gu;split at b
 .simpa[Tr.val]using b
 .simp at b
theorem az{a:zH (ks.map Y)->zH (outs.map Y)}(c:aa E.P k f (N ks))
  (h:∀x,∀C:eU,(∀id,C.ρ0 id=Q2)->Reach E C k (bv f) (bl f.ntmps (jj (ks.map Y) x) []) (λr h=>aX h outs r=Y (a x))) (d:E.P=P:=by rfl) (q:E.gl=g:=by rfl):ou P g k (ba ks outs a):=by subst d q;exact Tc (bb c λx _ C b=>h x C b)
def T3(outs:List Sh):zU->Option (zH (outs.map Y))
 |.ret v h=>aX h outs v
 |_=>Q2
theorem Tr.sat_of_res{y:zH (outs.map Y)}{v:Tr zU}(h:v.val.bind (T3 outs)=Y y):v.Sat (kW E C fn (λr h=>aX h outs r=Y y)):=by
 rw[gE]at h;have⟨l,b,a⟩:=h;refine Tr.sat_of_val b ?_;cases l with
 |ret x h=>exact a
 |head _ _ _=>cases a
 |fork _ _ _ _=>cases a
theorem bB{y:zH (outs.map Y)}(b:zx E)(c:aa E.P k f n)(a:∀id,n0<=id->C.ρ0 id=Q2){A:Nat}
    {x:Tr zU} (d:run E n0 keep f.results.toList A t s=x) (h:x.val.bind (T3 outs)=Y y):Reach E C k t s (λr h=>aX h outs r=Y y):=by refine ek b c a keep A ?_;rw[d];exact Tr.sat_of_res h
theorem zg.eta:∀e:zg,zg.mk e.op e.v e.s e.l=e
 |.mk _ _ _ _=>rfl
structure Nq (E E0:cy):Prop where
 p:E.P=E0.P
 g:E.gl=E0.gl
theorem Nq.refl(E:cy):Nq E E:=⟨rfl,rfl⟩
theorem Nq.add{x:cy}(h:Nq E x)(k:FuncId)(F:ak):Nq (E.add k F) x:=⟨h.p,h.g⟩
abbrev zw(e:zg):zg:=.mk e.op e.v e.s e.l
theorem zn(e:zg):zw e=e:=zg.eta e
abbrev U0:Nat->Prop:=λ_=>False
abbrev jH:Nat->Option Value:=λ_=>Q2
def XH(P:Program)(h:TypeId->Sh->Bool):List Field->Nat->Sh->Bool
 |[],_,_=>M
 |[f],o,s=>f.offset==o&&(h f.type s&&P.cellsOf f.type==s.size)
 |f::fs,o,.pr a b=>f.offset==o&&(h f.type a&&(P.cellsOf f.type==a.size&&XH P h fs (o+a.size) b))
 |_,_,_=>M
def tv(P:Program)(t:TypeId):Bool:=match P.underlying t with
 |some .string=>P.cellsOf t==1
 |_=>M
def TY(P:Program)(t e:TypeId):Bool:=match P.underlying t with
 |some (.slice u)=>u==e&&P.cellsOf t==1
 |_=>M
def SX(P:Program):Nat->TypeId->Sh->Bool
 |0,_,_=>M
 | n+1,t,s=>match P.underlying t,s with
  |some .bool,.bool=>Z
  |some (.int k),.int x=>k==x
  |some .string,.str=>Z
  |some (.slice e),.sl s=>P.cellsOf e==s.size&&(decide (0<s.size)&&SX P n e s)
  | some (.struct h),.expr=>match h.toList with
   |[a,b,c,d]=>P.cellsOf t==6&&(a.offset==0&&(b.offset==1&&(c.offset==4&&(d.offset==5&&(tv P a.type&&(tv P c.type&&(TY P d.type t&&(P.cellsOf b.type==3&&SX P n b.type (.pr (.int .i64) (.pr (.int .i64) .str))))))))))
   |_=>M
  |some (.struct h),.pr a b=>P.cellsOf t==(Sh.pr a b).size&&XH P (SX P n) h.toList 0 (.pr a b)
  |_,_=>M
section
variable {H:Type} {enc:TypeId×Value->H} {P:Program} {w:World} {sp:Nat->Bool} {held:Bool}
def Got(w:World)(s:Sh)(c:List Value):Prop:=∃x:L s,dn w U0 jH (zF s x) c/\∀v∈c,v.oneCell'=Z
theorem dT{α β:Type}{f:α->Option β}{a:α}{l:List α}{r:List β}(h:(a::l).mapM f=Y r):∃y b,f a=Y y/\l.mapM f=Y b/\r=y::b:=by
 rw[List.mapM_cons]at h;cases c:f a with
 |none=>rw[c]at h;simp at h
 | some y=>
  cases x:l.mapM f with
  |none=>rw[c,x]at h;simp at h
  | some b=>
   rw[c,x]at h;simp at h;exact⟨y,b,rfl,rfl,h.symm⟩
theorem OX{α β:Type}{f:α->Option β}:∀{l:List α}{r:List β},l.mapM f=Y r->∀x∈l,∃y,f x=Y y
 |[],_,_,_,b=>by simp at b
 | a::l,r,h,x,b=>by
  have⟨y,e,c,d,_⟩:=dT h;rcases ce.1 b with rfl|b
  .exact⟨y,c⟩
  .exact OX d x b
theorem FI{α β:Type}{f:α->Option β}:∀{l:List α}{r:List β},l.mapM f=Y r->N r=N l/\∀(i:Nat) a,l[i]?=Y a->f a=r[i]?
 |[],r,h=>by simp at h;subst h;simp
 | a::l,r,h=>by
  obtain⟨y,j,c,d,rfl⟩:=dT h;have⟨e,g⟩:=FI d;refine⟨by simp[e],λi b x=>?_⟩;cases i with
  |zero=>simp at x;subst x;simpa using c
  |succ i=>simpa using g i b (by simpa using x)
theorem Nu(a:Addr)(h:a.spot=Q2)(n:Nat):a.add n=⟨a.block,a.off+n,Q2⟩:=by
 have⟨b,o,s⟩:=a;simp only at h;subst h;unfold Addr.add;split
 next h=>subst h;rfl
 .rfl
variable {c:List Value}
theorem dn.take{cs:List AV}(h:dn w U0 jH cs c)(n:Nat):dn w U0 jH (cs.take n) (c.take n):=by
 refine⟨by simp[h.len],λj x v a b=>?_⟩;rw[List.getElem?_take]at a b;split at a
 next d=>rw[zf d]at b;exact h.rv j x v a b
 .cases a
theorem dn.appS{i b:List AV}{y:List Value}(h:dn w U0 jH i c)(e:dn w U0 jH b y):dn w U0 jH (i++b) (c++y):=by
 refine⟨by simp[h.len,e.len],λj x v a d=>?_⟩;by_cases g:j<N i
 .rw[rz g]at a;rw[rz (by rw[<-h.len];exact g)]at d;exact h.rv j x v a d
 .rw[pE S]at a;rw[pE (by rw[<-h.len];omega),<-h.len]at d;exact e.rv _ x v a d
theorem dn.one{c:AV}{v:Value}(h:Rv w U0 jH c v):dn w U0 jH [c] [v]:=by
 refine⟨rfl,λj d u x a=>?_⟩;cases j with
 |zero=>simp at x a;subst x;subst a;exact h
 |succ j=>simp at x
theorem E7{n:Nat}{x:TypeId->Sh->Bool}(p:∀t s c d U,x t s=Z->DataW.trod enc P w 0 sp held n t c=Y (d,U)->Got w s c){c:List Value}:
  ∀(A:List Field)(o:Nat)(s:Sh) z,XH P x A o s=Z->(A.mapM λf=>DataW.trod enc P w 0 sp held n f.type ((c.drop f.offset).take (P.cellsOf f.type)))=Y z->Got w s ((c.drop o).take s.size)
 |[],_,_,_,h,_=>by simp[XH]at h
 | [f],o,s,z,h,q=>by
  simp only[XH,aO,bX]at h;have⟨k,l,m⟩:=h;have⟨y,E,i,_,_⟩:=dT q;rw[k,m]at i;exact p _ _ _ _ _ l i
 | f::g::fs,o,.pr a b,z,h,q=>by
  simp only[XH,aO,bX]at h;have⟨k,l,m,F⟩:=h;have⟨y,E,i,u,_⟩:=dT q;rw[k,m]at i;have⟨C,B,o1⟩:=p _ _ _ _ _ l i;have⟨D,r2,o2⟩:=E7 p (g::fs) (o+a.size) b E F u;have G:((c.drop o).take a.size).length=a.size:=by rw[<-B.len,au]
  have e:(c.drop o).take (a.size+b.size)=(c.drop o).take a.size++(c.drop (o+a.size)).take b.size:=by
   rw[List.take_add,List.drop_drop]
  refine⟨(C,D),?_,?_⟩
  .show dn w U0 jH (zF a C++zF b D) ((c.drop o).take (a.size+b.size));rw[e];exact B.appS r2
  .intro v j;have j:v∈(c.drop o).take (a.size+b.size):=j;rw[e,dl]at j;exact j.elim (o1 v) (o2 v)
 |_::_::_,_,.unit,_,h,_=>by simp[XH]at h
 |_::_::_,_,.bool,_,h,_=>by simp[XH]at h
 |_::_::_,_,.int _,_,h,_=>by simp[XH]at h
 |_::_::_,_,.str,_,h,_=>by simp[XH]at h
 |_::_::_,_,.sl _,_,h,_=>by simp[XH]at h
 |_::_::_,_,.expr,_,h,_=>by simp[XH]at h
variable {n:Nat}{a e:TypeId}{j:DataW H}{p:List MemPlace}
theorem Kg{y:Sh}(ht:P.underlying a=Y (.slice e))(hc:P.cellsOf e=y.size)(C:0<y.size)
  (hT:∀c j p,DataW.trod enc P w 0 sp held n e c=Y (j,p)->Got w y c)    (h:DataW.trod enc P w 0 sp held (n+1) a c=Y (j,p)):Got w (.sl y) c:=by
 unfold DataW.trod at h;rw[ht]at h;split at h
 all_goals first
  |(rename_i E;cases E;done)
  |(rename_i E _;cases E;done)
  |(simp at h;done)
  |skip
 next E=>cases E;exact⟨[],dn.one (.sl0 y Q2 0),by simp[Value.oneCell']⟩
 .rename_i b s G E;cases E;simp only[aK,true_and]at h;split at h
  .rename_i h9;rw[gE]at h;have⟨h7,he,_⟩:=h;have h0:∀i,∃x:L y,i<s->∃o,w.cells? 0 (b.add (i*y.size)) y.size=Y o/\dn w U0 jH (zF y x) o:=by
    intro i;by_cases z:i<s
    .have⟨d,hy⟩:=OX he i (by simpa using z);rw[gE]at hy;have⟨o,v,A⟩:=hy;have⟨x,hx,_⟩:=hT o d.1 d.2 A;rw[hc]at v;exact⟨x,λ_=>⟨o,v,hx⟩⟩
    .exact⟨zj y,λh=>(z h).elim⟩
   have⟨m,hX⟩:=Classical.axiomOfChoice h0;have x1:maxLen=aF:=rfl;cases s with
   |zero=>exact⟨[],dn.one (.sl0 y (Y b) G),by simp[Value.oneCell']⟩
   | succ s=>
    have t:∀i,i<s+1->∃o,N o=y.size/\(∀k,k<y.size->w.cell? ((b.add (i*y.size)).add k)=o[k]?)/\dn w U0 jH (zF y (m i)) o:=by
     intro i z;have⟨o,v,A⟩:=hX i z;unfold World.cells? at v;rw[zf (aK _)]at v;have⟨F,h4⟩:=FI v;refine⟨o,by simpa using F,λk B=>?_,A⟩;exact h4 k k (by simp[B])
    have u:b.spot=Q2:=by
     have⟨o,v,A,_⟩:=t 0 S;have:=A 0 C;simp only[Nat.zero_mul,Addr.add,zi]at this;rw[aj S]at this;unfold World.cell? at this;split at this
     .split at this
      .cases this
      .rename_i hs;cases x0:b.spot with
       |none=>rfl
       |some q=>rw[x0]at hs;simp at hs
     .cases this
    have h5:b.block<w.heap.size:=by
     have⟨o,v,A,_⟩:=t 0 S;have:=A 0 C;simp only[Nat.zero_mul,Addr.add,zi]at this;rw[aj S]at this;have ha:b=⟨b.block,b.off,Q2⟩:=by rw[<-u]
     rw[ha]at this;exact wT this
    have h8:∀i,∃o:List Value,i<s+1->N o=y.size/\(∀k,k<y.size->w.cell? ⟨b.block,b.off+i*y.size+k,Q2⟩=o[k]?)/\dn w U0 jH (zF y (m i)) o:=by
     intro i;by_cases z:i<s+1
     .have⟨o,v,A,F⟩:=t i z;refine⟨o,λ_=>⟨v,λk B=>?_,F⟩⟩;rw[<-A k B,Nu b u,Nu _ rfl]
     .exact⟨[],λh=>(z h).elim⟩
    have⟨Cs,U⟩:=Classical.axiomOfChoice h8;let l:List (L y):=(List.range (s+1)).map m
    have hl:N l=s+1:=by simp[l]
    have h6:∀i(z:i<N l),l[i]=m i:=by intro i z;simp[l]
    refine⟨l,dn.one ?_,by simp[Value.oneCell']⟩;have ha:b=⟨b.block,b.off,Q2⟩:=by rw[<-u]
    rw[ha,<-hl];refine .sl y l b.block b.off G (λi k=>((Cs i)[k]?).getD undef) S S h5 (λh=>h) ?_ ?_
    .intro i k z B;have⟨v,A,_⟩:=U i S;rw[A k B,aj S];rfl
    .intro i z k g D;have⟨v,_,F⟩:=U i S;rw[h6 i z]at D;have B:k<(Cs i).length:=by
      have:=(dF.1 D).1;rw[F.len]at this;exact this
     have:=F.rv k g _ D (aj B);rw[aj B];exact this
  .cases h
theorem MJ(b:P.underlying a=Y .string)(h:DataW.trod enc P w 0 sp held n a c=Y (j,p)):Got w .str c:=by
 cases n with
 |zero=>simp[DataW.trod]at h
 | succ n=>
  unfold DataW.trod at h;rw[b]at h;split at h
  all_goals first
   |(rename_i x;cases x;done)
   |(rename_i x _;cases x;done)
   |(simp at h;done)
   |skip
  rename_i s x;split at h
  next g=>refine⟨s.data.toList,dn.one ?_,by simp[Value.oneCell']⟩;have e:maxLen=aF:=rfl;have d:s.size=s.data.toList.length:=rfl;exact .str s.data.toList S
  .cases h
theorem Fs(h:tv P a=Z):P.underlying a=Y .string/\P.cellsOf a=1:=by
 unfold tv at h;split at h
 next x=>exact⟨x,by simpa using h⟩
 .cases h
theorem Z5(h:TY P a e=Z):P.underlying a=Y (.slice e)/\P.cellsOf a=1:=by
 unfold TY at h;split at h
 next u x=>simp only[aO,bX]at h;rw[<-h.1];exact⟨x,h.2⟩
 .cases h
theorem sN:∀(x n:Nat)(t:TypeId)(s:Sh)(j:List Value)(d:DataW H)(y:List MemPlace),SX P n t s=Z->DataW.trod enc P w 0 sp held x t j=Y (d,y)->Got w s j
 |0,_,_,_,_,_,_,_,h=>by simp[DataW.trod]at h
 |x+1,0,_,_,_,_,_,g,_=>by simp[SX]at g
 | x+1,n+1,t,s,j,d,y,g,h=>by
  have h0:=h;unfold SX at g;split at g
  .rename_i l;unfold DataW.trod at h;rw[l]at h;split at h
   all_goals first
    |(rename_i i;cases i;done)
    |(rename_i i _;cases i;done)
    |(simp at h;done)
    |skip
   exact⟨_,dn.one (.bool _),by simp[Value.oneCell']⟩
  .rename_i k k' l;have hk:k=k':=by simpa using g
   subst hk;unfold DataW.trod at h;rw[l]at h;split at h
   all_goals first
    |(rename_i i;cases i;done)
    |(rename_i i _;cases i;done)
    |(simp at h;done)
    |skip
   rename_i k1 k2 m i;cases i;split at h
   next D=>obtain⟨rfl,D⟩:=D;simp only[Lit.wf,aO,bc]at D;exact⟨m,dn.one (.int _ _ ⟨D.1,D.2⟩),by simp[Value.oneCell']⟩
   .cases h
  next l=>exact MJ l h
  next e s l=>simp only[aO,bX,bc]at g;exact Kg l g.1 g.2.1 (λj d y h=>sN x n e s j d y g.q h) h
  .rename_i fs l;split at g
   .rename_i a b c d' C;simp only[aO,bX]at g;have⟨z,ha,hb,hc,hd,U,sc,sd,zb,tb⟩:=g;have⟨U,za⟩:=Fs U;have⟨sc,zc⟩:=Fs sc;have⟨sd,zd⟩:=Z5 sd;unfold DataW.trod at h;rw[l]at h;simp only at h;split at h
    .rename_i o;rw[dV]at h;have⟨xs,p,_⟩:=h;rw[C]at p;have⟨ya,r1,E,p,_⟩:=dT p;have⟨yb,r2,F,p,_⟩:=dT p;have⟨yc,r3,G,p,_⟩:=dT p;have⟨yd,r4,A,p,_⟩:=dT p;rw[ha,za]at E;rw[hb,zb]at F;rw[hc,zc]at G;rw[hd,zd]at A;have⟨xa,ga,oa⟩:=MJ U E;have⟨xb,gb,ob⟩:=sN x n b.type _ _ _ _ tb F;have⟨xc,gc,oc⟩:=MJ sc G;have h3:Got w (.sl .expr) ((j.drop 5).take 1):=by
      cases x with
      |zero=>simp[DataW.trod]at A
      | succ x=>
       refine Kg sd (by rw[z];rfl) (by decide) (λj d y h=>sN x (n+1) t .expr j d y ?_ h) A;unfold SX;rw[l];simp only[C,aO,bX];refine⟨z,ha,hb,hc,hd,?_,?_,?_,zb,tb⟩
       .simp[tv,U,za]
       .simp[tv,sc,zc]
       .simp[TY,sd,zd]
     have⟨xd,gd,od⟩:=h3;have h4:N j=6:=by rw[o,z]
     have B:j=(j.drop 0).take 1++((j.drop 1).take 3++((j.drop 4).take 1++(j.drop 5).take 1)):=by
      match j,h4 with
      |[v0,v1,v2,v3,v4,v5],_=>rfl
     refine⟨zg.mk xa xb xc xd,?_,?_⟩
     .have hr:=ga.appS (gb.appS (gc.appS gd));rw[<-B]at hr;exact hr
     .intro v u;rw[B]at u;simp only[dl]at u;rcases u with u|u|u|u
      .exact oa v u
      .exact ob v u
      .exact oc v u
      .exact od v u
    .cases h
   .cases g
  .rename_i fs a b l;simp only[aO,bX]at g;unfold DataW.trod at h;rw[l]at h;simp only at h;split at h
   next o=>rw[dV]at h;have⟨xs,p,_⟩:=h;have:=E7 (λt s j d y h1 h2=>sN x n t s j d y h1 h2) fs.toList 0 (.pr a b) xs g.2 p;rw[List.drop_zero,DZ (by rw[o,g.1];exact zR _)]at this;exact this
   .cases h
  .cases g
termination_by x=>x
theorem CO{s:Sh}{z:Value}(l:SX P n a s=Z)(h:DataW.Trod enc P w 0 sp held a z j p)(e:(∃i,z=.agg i)↔s.isAgg=Z)(k:s.isAgg=M->z.cells=#[z]):∃x:L s,Rv w U0 jH (zX s x) z:=by
 have⟨d,h⟩:=h;have⟨x,b,q⟩:=sN d n a s _ j p l h;refine⟨x,?_⟩;unfold zX;cases m:s.isAgg with
 | true=>
  obtain⟨i,rfl⟩:=e.2 m;simp only;have:=Rv.agg (w:=w) (U:=U0) (ρ:=jH) (zF s x) i.toList b.len q b.rv;simpa using this
 | false=>
  simp only;rw[k m]at b;have g:=b.len
  match o:zF s x,g with
  | [c],_=>
   rw[o]at b;exact b.rv 0 c z rfl rfl
end
end
end Cad
namespace Go.Proofs
open Cad (zA zR zf zi zm)
open Go.Shelf Go.RowKit Go.Lib Go.Sort
open Bool renaming false->Q4,true->Q3
open Option renaming none->Q2,some->Q1
theorem gd_of{w w':World}(h:Below w.heap.size w w')(hd:w.drawn<=w'.drawn):∃q os',w'=grow (w.drewN q) os':=by
 refine⟨w'.drawn-w.drawn,w'.heap.extract w.heap.size w'.heap.size,?_⟩;have hh:w'.heap=w.heap++w'.heap.extract w.heap.size w'.heap.size:=by
  apply Array.ext_getElem?;intro i;by_cases hi:i<w.heap.size
  .rw[Array.getElem?_append_left hi,h.block i hi]
  .rw[Array.getElem?_append_right (by omega)];have hs:=h.size;by_cases hi2:i<w'.heap.size
   .rw[Array.getElem?_extract,zf (by omega)];congr 1;omega
   .rw[Array.getElem?_eq_none (by omega),Array.getElem?_eq_none (by simp;omega)]
 obtain⟨heap,tape,drawn,os,output⟩:=w;obtain⟨heap',tape',drawn',os',output'⟩:=w';have h1:=h.os;have h2:=h.tape;have h3:=h.output;simp only at h1 h2 h3 hd hh;subst h1 h2 h3;unfold grow World.drewN;simp only[World.mk.injEq,true_and,and_true];exact⟨hh,by omega⟩
set_option maxHeartbeats 1000000 in
theorem Tryz.odd63(r:Nat)(W:World):Calls Tryz.prog 98 #[.int .i32 (r:Int)] W λe w'=>e=.returned (.bool (decide ((r:Int)<32)||decide ((r:Int)>126)))/\w'=W:=by
 go_enter Tryz.func98,Tryz.ntmps98
 go_wp2
 .go_ret
  exact⟨by simp,rfl⟩
 next h=>
  go_ret
  exact⟨by simp,rfl⟩
set_option maxHeartbeats 4000000 in
set_option maxRecDepth 1000000 in
theorem Tryz.indexFunc112(p:Nat->Bool)(s:ByteArray)(w:World)(hp:∀(W:World)(x:Nat),Calls Tryz.prog 98 #[.int .i32 (x:Int)] W λe w'=>e=.returned (.bool (p x))/\w'=W):
  Calls Tryz.prog 164 #[.string s,.func (.func 98) #[] #[],.bool Q3] w λe w'=>e=.returned (.int .i64 (Lib.idxFunc p Q3 s))/\Below w.heap.size w w'/\w.drawn<=w'.drawn:=by
 go_enter Tryz.func164,Tryz.ntmps164
 go_wp2
 go_loopg [] s.size (λgf wx=>∃pos:Nat,wx.heap[w.heap.size]?=Q1 (.stringIter s pos)/\(Below w.heap.size w wx/\w.drawn<=wx.drawn)/\Lib.idxFuncFrom p Q3 s gf pos=Lib.idxFunc p Q3 s/\s.size<=pos+gf)
 case atStart=>exact⟨0,World.iter_heap w s 0,⟨(Below.refl _ w).alloc (zR _) _,zR _⟩,rfl,by omega⟩
 case round=>
  obtain⟨pos,hit,⟨hbw,hdr⟩,hleft,hfu⟩:=hrel;by_cases hps:pos<s.size
  .obtain⟨g',rfl⟩:∃g',gk=g'+1:=⟨gk-1,by omega⟩;have hnx:∀ty,(Instr.next (.pointer (Q1 ⟨w.heap.size,0,Q2⟩)) Q3 ty).run Tryz.prog wr=_:=λty=>Lib.run_next_any_at wr w.heap.size s pos ty hit hps
   have hwd:=Lib.width_pos s pos;obtain⟨R,hR⟩:∃R,(Utf8.decode s pos).1=R:=⟨_,rfl⟩;obtain⟨K,hK⟩:∃K,(Utf8.decode s pos).2=K:=⟨_,rfl⟩;simp only[Lib.idxFuncFrom,hps,zi,hR,hK]at hleft;rw[hR,hK]at hnx;rw[hK]at hwd;have hit2:=Lib.iterAt_heap wr w.heap.size s pos (pos+K) hit;have hbw2:=Lib.below_iterAt hbw (k:=w.heap.size) (zR _) s (pos+K);have hdr2:w.drawn<=(wr.iterAt w.heap.size s (pos+K)).drawn:=hdr;obtain⟨W,hWd⟩:∃W,wr.iterAt w.heap.size s (pos+K)=W:=⟨_,rfl⟩;rw[hWd]at hnx hit2 hbw2 hdr2;have cS:=hp W R;clear hp;cases hsp:p R<;>rw[hsp]at cS<;>simp only[hsp,zi,zA,zm]at hleft
   .go_wp2_with (go_at_call 98;refine cS.mono ?_;rintro e W' ⟨rfl,rfl⟩)
    go_roundg g'
    case measure=>omega
    case rel=>exact⟨pos+K,hit2,⟨hbw2,hdr2⟩,hleft,by omega⟩
   .go_wp2_with (go_at_call 98;refine cS.mono ?_;rintro e W' ⟨rfl,rfl⟩)
    go_ret
    exact⟨by rw[<-hleft]<;>rfl,hbw2,hdr2⟩
  .have hnx:∀ty,(Instr.next (.pointer (Q1 ⟨w.heap.size,0,Q2⟩)) Q3 ty).run Tryz.prog wr=_:=λty=>Lib.run_next_end_at wr w.heap.size s pos ty hit hps
   rw[Lib.idxFuncFrom_end p Q3 s gk pos hps]at hleft
   go_wp2
   go_ret
   exact⟨by rw[<-hleft]<;>rfl,hbw,hdr⟩
theorem Tryz.indexFunc64(p:Nat->Bool)(s:ByteArray)(w:World)(hp:∀(W:World)(x:Nat),Calls Tryz.prog 98 #[.int .i32 (x:Int)] W λe w'=>e=.returned (.bool (p x))/\w'=W):
  Calls Tryz.prog 99 #[.string s,.func (.func 98) #[] #[]] w λe w'=>e=.returned (.int .i64 (Lib.idxFunc p Q3 s))/\Below w.heap.size w w'/\w.drawn<=w'.drawn:=by
 have h:=λW'=>Tryz.indexFunc112 p s W' hp
 go_enter Tryz.func99,Tryz.ntmps99
 go_wp2_with (go_at_call 164;refine(h _).mono ?_;rintro e w' ⟨rfl,h1,h2⟩)
 go_ret
 exact⟨rfl,h1,h2⟩
end Go.Proofs
namespace Cad
open Go Go.Proofs Tryz
open List renaming length->N
open IntKind renaming wrap->Γ,i64->Δ
open Bool renaming false->Q4,true->Q3
open Option renaming none->Q2,some->Y
open Tr (chk br)
open AV (nils agg tup ptr kb sl)
open AV renaming sl->O,str->X
open Cad renaming Sem->L,ai->J,zj->Q,ow->S
noncomputable section
theorem Reach.len{E:cy}{C:eU}{fn:FuncId}{t:List Item}{s:St}{Q:AV->List AO->Prop}(j:Nat)(e:Sh)(l:List (L e))(d:s.tmps[j]?=Y (.sl e l))(h:N l<=aF->Reach E C fn t s Q):Reach E C fn t s Q:=by
 intro b g a w U o i k x m;refine h ?_ b g a w U o i k x m;have c:j<a.tmps.toList.length:=by rw[<-x.tm.len];exact(dF.1 d).1
 have:=x.tm.rv j _ _ d (aj c);generalize a.tmps.toList[j]=v at this;cases this with
 |sl0=>simp
 |sl _ _ _ _ _ _ _ n=>exact n
theorem zt(i:Nat)(h:i<aF):Γ Δ (↑i+1)=((i+1:Nat):Int):=by have:aF=9223372036854775807:=rfl;rw[fe];omega
theorem dq{α:Type}(l:List α)(d:α){n:Nat}(h:n<N l):l.getD (n:Int).toNat d=l[n]:=by simp[h]
def al{α:Type}(p:α->Bool):List α->Nat->Int
 |[],_=>-1
 |x::r,i=>if p x then i else al p r (i+1)
def KT:cy:=(zeT.aut 176 f176 2).aut 276 f276 2
theorem rJ:zx KT:=by refine jl (jl xe ?_) ?_<;>(refine⟨?_,?_,?_,?_⟩<;>kernel_rfl)
abbrev OL:Nat->aY:=λ_=>{slots:=[0,1,7,8]}
theorem zaT:aa KT.P 175 f175 2:=cM kw
abbrev DH(l:aZ)(s:zN)(i:Int):St:={
    tmps:=
     (tm 19 [(0,O (Sh.str.pr ((Sh.int IntKind.i64).pr Sh.bool)) l),(1,AV.clo (Fn.func 176) [] [ptr 0 0]),(7,J ↑l.length),(8,J i)]),
    heap:=[AO.box [X s]]}
theorem ze4(l:aZ)(s:zN):run KT 1 OL f175.results.toList 300 (bv f175) (bl f175.ntmps [.sl zp l,.clo (.func 176) [] [.ptr 0 0]] [.box [.str s]])=.ok (.head 2 (aq f175 2) (DH l s 0)):=kw
theorem zfO(l:aZ)(s:zN)(i:Int):run KT 1 OL f175.results.toList 300 (aq f175 2) (DH l s i)=
 br (decide (i<↑l.length))
  (chk (zK i (N l))
   (br ((l.getD i.toNat (Q (Sh.str.pr ((Sh.int IntKind.i64).pr Sh.bool)))).1==s)
    (Tr.ok (zU.ret (J i) [AO.box [X s]]))
    (Tr.ok (zU.head 2 (aq f175 2) (DH l s (Γ Δ (i+1)))))))
  (Tr.ok (zU.ret (J (-1)) [AO.box [X s]])):=kw
theorem Tl{C:eU}(b:∀id,1<=id->C.ρ0 id=Q2)(l:aZ)(s:zN)(d:N l<=aF):∀(n i:Nat),N l-i=n->i<=N l->
  Reach KT C 175 (aq f175 2) (DH l s i) (λr h=>(r,h)=(.int .i64 (al (λc=>c.1==s) (l.drop i) i),[.box [.str s]]))
 | n,i,e,g=>by
  subst e;refine ek rJ zaT b OL 300 ?_;rw[zfO];refine⟨λh=>⟨?_,λa=>?_,λa=>?_⟩,λh=>?_⟩
  .simp only[bc]at h;simp[zK];omega
  .simp only[bc]at h;have x:i<N l:=by omega
   rw[dq l _ x]at a;rw[gF x];simp only[al];rw[zf a];rfl
  .simp only[bc]at h;have x:i<N l:=by omega
   rw[dq l _ x]at a;rw[gF x];simp only[al];rw[zh (by rw[a];simp),zt i S];exact Tl b l s d (N l-(i+1)) (i+1) rfl S
  .simp only[ed]at h;rw[Ij S];rfl
 termination_by n=>n
abbrev DI(l:aZ)(s:zN)(i:Int):St:={
    tmps:=
     (tm 19 [(0,O (Sh.str.pr ((Sh.int IntKind.i64).pr Sh.bool)) l),(1,AV.clo (Fn.func 276) [] [ptr 0 0]),(7,J ↑l.length),(8,J i)]),
    heap:=[AO.box [X s]]}
theorem ze5(l:aZ)(s:zN):run KT 1 OL f175.results.toList 300 (bv f175) (bl f175.ntmps [.sl zp l,.clo (.func 276) [] [.ptr 0 0]] [.box [.str s]])=.ok (.head 2 (aq f175 2) (DI l s 0)):=kw
theorem zfP(l:aZ)(s:zN)(i:Int):run KT 1 OL f175.results.toList 300 (aq f175 2) (DI l s i)=
 br (decide (i<↑l.length))
  (chk (zK i (N l))
   (br ((l.getD i.toNat (Q (Sh.str.pr ((Sh.int IntKind.i64).pr Sh.bool)))).1==s)
    (Tr.ok (zU.ret (J i) [AO.box [X s]]))
    (Tr.ok (zU.head 2 (aq f175 2) (DI l s (Γ Δ (i+1)))))))
  (Tr.ok (zU.ret (J (-1)) [AO.box [X s]])):=kw
theorem Tm{C:eU}(b:∀id,1<=id->C.ρ0 id=Q2)(l:aZ)(s:zN)(d:N l<=aF):∀(n i:Nat),N l-i=n->i<=N l->
  Reach KT C 175 (aq f175 2) (DI l s i) (λr h=>(r,h)=(.int .i64 (al (λc=>c.1==s) (l.drop i) i),[.box [.str s]]))
 | n,i,e,g=>by
  subst e;refine ek rJ zaT b OL 300 ?_;rw[zfP];refine⟨λh=>⟨?_,λa=>?_,λa=>?_⟩,λh=>?_⟩
  .simp only[bc]at h;simp[zK];omega
  .simp only[bc]at h;have x:i<N l:=by omega
   rw[dq l _ x]at a;rw[gF x];simp only[al];rw[zf a];rfl
  .simp only[bc]at h;have x:i<N l:=by omega
   rw[dq l _ x]at a;rw[gF x];simp only[al];rw[zh (by rw[a];simp),zt i S];exact Tm b l s d (N l-(i+1)) (i+1) rfl S
  .simp only[ed]at h;rw[Ij S];rfl
 termination_by n=>n
def G27:fA [Y (.sl zp),Q2]:=λx h=>match x,h with
 |(l,.clo (.func 176) [] [.ptr 0 0],_),[.box [.str s]]=>.ok (.int .i64 (al (λc=>c.1==s) l 0),[.box [.str s]])
 |(l,.clo (.func 276) [] [.ptr 0 0],_),[.box [.str s]]=>.ok (.int .i64 (al (λc=>c.1==s) l 0),[.box [.str s]])
 |_,_=>.err
theorem zry:FK 175 (bj [Y (.sl zp),Q2] G27):=by
 refine dA zaT λx d c h C a=>?_
 unfold G27 at h;split at h
 .simp only[Tr.val_ok,bH]at h;subst h;rename_i _ _ l u s;refine Reach.len 0 zp l rfl λb=>?_
  have e:jj [Y (.sl zp),Q2] (l,.clo (.func 176) [] [.ptr 0 0],u)=[.sl zp l,.clo (.func 176) [] [.ptr 0 0]]:=rfl;rw[e];refine ek (n0:=1) rJ zaT a OL 300 ?_;rw[ze4];exact Tl a l s b _ 0 rfl S
 .simp only[Tr.val_ok,bH]at h;subst h;rename_i _ _ l u s;refine Reach.len 0 zp l rfl λb=>?_
  have e:jj [Y (.sl zp),Q2] (l,.clo (.func 276) [] [.ptr 0 0],u)=[.sl zp l,.clo (.func 276) [] [.ptr 0 0]]:=rfl;rw[e];refine ek (n0:=1) rJ zaT a OL 300 ?_;rw[ze5];exact Tm a l s b _ 0 rfl S
 .simp at h
def Y8:cy:=KT.add 175 (bj [Y (.sl zp),Q2] G27)
theorem EH:zx Y8:=rJ.add zry
def ztg:cy:=(Y8.add 108 (bj [Y ae,Y .str] (ff Y8 f108 [Y ae,Y .str]))).add 238 (bj [Y (.sl zp),Y .str] (ff Y8 f238 [Y (.sl zp),Y .str]))
theorem Za:zx ztg:=by refine(EH.add (cr _ EH ?_)).add (cr (E:=Y8) _ EH ?_)<;>(refine⟨?_,?_,?_,?_⟩<;>kernel_rfl)
end
end Cad
