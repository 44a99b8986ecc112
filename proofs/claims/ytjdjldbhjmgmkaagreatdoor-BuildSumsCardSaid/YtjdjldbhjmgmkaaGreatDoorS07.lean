/- The program's environment. -/
import Derived.Test.YtjdjldbhjmgmkaaGreatDoorS06
import Derived.Carry
import Derived.ChangeSame
import Derived.Test.YtjdjldbhjmgmkaaGreatDoorS01
import Derived.Sort.Grow
import Derived.Deep.Draws
import Derived.Shelf.SlSortCmp.QuietGrown
namespace Cad
open Go
open List renaming length→Io
open IntKind renaming wrap→Γ,i64→Δ
open Bool renaming false→Q4,true→Q3
open Option renaming none→Q2,some→Q1
open Tr (chk br)
open AV (nils agg tup ptr kb str sl)
noncomputable section
abbrev zj:Sh:=.int .i64
abbrev zq:=Sem zj
abbrev dA:=List (Sem zj)
abbrev zf:Sh:=.pr (.int .i64) (.pr (.int .i64) .str)
abbrev zp:=Sem zf
abbrev zt:=List (Sem zf)
abbrev ii:=Sem (Sh.sl zf)
abbrev zl:Sh:=.pr .str (.pr (.int .i64) .bool)
abbrev aN:=List (Sem zl)
abbrev bR:=Sem zl
abbrev bZ:=Sem (Sh.sl zl)
abbrev zB:Sh:=.pr (.int .i64) .str
abbrev bW:=Sem zB
abbrev dr:=List (Sem zB)
abbrev aj:Sh:=.pr .str (.pr (.sl zl) (.pr (.int .i64) (.pr (.sl (.int .i64)) (.pr (.sl zB) .expr))))
abbrev ao:=Sem aj
abbrev zk:Sh:=.pr aj (.sl (.sl zf))
abbrev zR:=List (Sem zk)
abbrev am:=Sem zk
def zmc:Nat->Option Sh
 |3=>Q1 (.int .i64)
 |30=>Q1 zf
 |33=>Q1 .expr
 |25=>Q1 zl
 |128=>Q1 zB
 |9=>Q1 .str
 |5=>Q1 (.int .u8)
 |199=>Q1 (.pr (.int .i64) .str)
 |115=>Q1 (.pr .str .str)
 |117=>Q1 (.pr .str .expr)
 |39=>Q1 (.sl zf)
 |38=>Q1 (zk)
 |_=>Q2
abbrev mJ:List Int:=[1,10,100,1000,10000,100000,1000000,10000000,100000000,1000000000,10000000000,100000000000,1000000000000,10000000000000,100000000000000,1000000000000000,10000000000000000,100000000000000000,1000000000000000000,10000000000000000000]
def TZ:Nat->AV
 |0=>.gint
 |1=>.eptr [.str Ce,.str Cf,.str Cd] 0
 |5=>.tab .u64 mJ
 |_=>.any
abbrev FK(k:FuncId)(F:z8):Prop:=ol Go.Proofs.Tryz.prog TZ k F
def zcF:cg:={P:=Go.Proofs.Tryz.prog,sh:=zmc,gl:=TZ,F:=λ_=>Q2}
def cg.add(E:cg)(k:FuncId)(F:z8):cg:={E with F:=λj=>if j=k then Q1 F else E.F j}
variable {E:cg}{k:FuncId}
theorem zw.add{F:z8}(h:zw E)(b:ol E.P E.gl k F):zw (E.add k F) where
 sh:=h.sh
 fs:=λj a x=>by
  simp only[cg.add]at x;split at x
  next e=>cases x;rw[e];exact b
  .exact h.fs j a x
 mix:=h.mix
def RI:List (Nat×z8)->Nat->Option z8->Option z8
 |[],_,d=>d
 |p::r,j,d=>if j=p.1 then Q1 p.2 else RI r j d
def cg.addL(E:cg)(l:List (Nat×z8)):cg:={E with F:=λj=>RI l j (E.F j)}
def Vm(P:Program)(g:Nat->AV):List (Nat×z8)->Prop
 |[]=>True
 |p::r=>ol P g p.1 p.2/\Vm P g r
variable {P:Program}{g:Nat->AV}
theorem iH:Vm P g []:=trivial
variable {n:Nat}
theorem fc{F:z8}{r:List (Nat×z8)}(h:ol P g n F)(t:Vm P g r):Vm P g ((n,F)::r):=⟨h,t⟩
theorem zw.addL(h:zw E){l:List (Nat×z8)}(a:Vm E.P E.gl l):zw (E.addL l) where
 sh:=h.sh
 fs:=by
  intro k F;show RI l k (E.F k)=Q1 F->ol E.P E.gl k F
  induction l with
  |nil=>exact h.fs k F
  | cons p r i=>
   intro x;rw[RI]at x;split at x
   next e=>cases x;rw[e];exact a.1
   .exact i a.2 x
 mix:=h.mix
def lz(h:Nat):Nat->Code->List Item->Option (List Item)
 |0,_,_=>Q2
 | n+1,c,k=>match c with
  | .seq a b=>match lz h n a (.code b::k) with
   |some r=>Q1 r
   |none=>lz h n b k
  | .cond _ a b=>match lz h n a k with
   |some r=>Q1 r
   |none=>lz h n b k
  |.block id c=>lz h n c (.inBlock id::k)
  |.loop c=>if eN c=h then Q1 (.code c::.inLoop c::k)else lz h n c (.inLoop c::k)
  |.region id _ _=>if id+500000=h then Q1 k else Q2
  |_=>Q2
def ab(f:Func)(k:Nat):List Item:=match f.body with
 |some c=>(lz k 1000 c []).getD []
 |none=>[]
def bq(f:Func):List Item:=match f.body with
 |some c=>[.code c]
 |none=>[]
theorem zld:zcF.P.follows .mixedOrders=Q3:=kw
def unr:Nat->aP:=λ_=>{unroll:=Q3}
def eK(E:cg)(f:Func)(ks:List (Option Sh)):eX ks:=λx h=>
 (run E (Io h) unr f.results.toList 4000 (bq f) (aW f.ntmps (iY ks x) h)).bind λ
  |.ret v a=>.ok (v,a)
  |_=>.err
theorem Tr.sat_of_val{α:Type}{Φ:α->Prop}:∀{t:Tr α}{a:α},t.val=Q1 a->Φ a->t.Sat Φ
 |.err,_,h,_=>by simp at h
 | .chk c t,a,h,x=>by
  cases c
  .simp[Tr.val]at h
  .exact⟨rfl,sat_of_val (t:=t) (by simpa[Tr.val]using h) x⟩
 | .br c t f,a,h,x=>by
  cases c
  .exact⟨λh=>(by cases h),λ_=>sat_of_val (t:=f) (by simpa[Tr.val]using h) x⟩
  .exact⟨λ_=>sat_of_val (t:=t) (by simpa[Tr.val]using h) x,λh=>(by cases h)⟩
 |.ok b,a,h,x=>by simp[Tr.val]at h;subst h;exact x
def zM(P:Program)(k:FuncId)(f:Func)(n:Nat):Prop:=P.funcs[k]?=Q1 f/\(f.name=="runtime.NumGoroutine")=Q4/\f.body.isNone=Q4/\decide (n<=f.ntmps)=Q3
variable {f:Func}
theorem bL(h:(P.funcs[k]?,f.name=="runtime.NumGoroutine",f.body.isNone,decide (n<=f.ntmps))=(Q1 f,Q4,Q4,Q3)):zM P k f n:=by simp only[cd]at h;exact⟨h.1,h.2.1,h.2.2.1,h.2.2.2⟩
theorem tk:∀(ks:List (Option Sh))(x:zD ks),(iY ks x).length=Io ks
 |[],_=>rfl
 |some _::ks,x=>by simp[iY,tk ks x.2]
 |none::ks,x=>by simp[iY,tk ks x.2]
variable {C:eA}{Q:AV->List AO->Prop}{n0:Nat}{t:List Item}{s:St}
theorem dT(b:zw E)(c:zM E.P k f n)(a:∀id,n0<=id->C.ρ0 id=Q2)(keep:Nat->aP)(x:Nat)
    (h:(run E n0 keep f.results.toList x t s).Sat (ke E C k Q)):Reach E C k t s Q:=
 HK b c.1 a rfl x _ _ h
theorem zb2{i:List AV}{x:List AO}(l:zM E.P k f (Io i))
  (h:∀C:eA,(∀id,Io x<=id->C.ρ0 id=Q2)->Reach E C k (bq f) (aW f.ntmps i x) Q):zaB E k i x Q:=by
 obtain⟨d,e,b,g⟩:=l;cases a:f.body with
 |none=>rw[a]at b;cases b
 | some c=>
  refine⟨f,c,d,a,e,mi g,λC j=>?_⟩;have:=h C j;simpa[bq,a]using this
theorem da{ks:List (Option Sh)}{G:eX ks}(c:zM E.P k f (Io ks))
  (h:∀x b a,(G x b).val=Q1 a->∀C:eA,(∀id,Io b<=id->C.ρ0 id=Q2)->Reach E C k (bq f) (aW f.ntmps (iY ks x) b) (λr h=>(r,h)=a)) (e:E.P=P:=by rfl) (q:E.gl=g:=by rfl):ol P g k (aS ks G):=by subst e q;exact Vp ⟨f,c.1,c.2.1,c.2.2.1⟩ λx b a d=>zb2 (by rw[tk];exact c) (h x b a d)
theorem bS(ks:List (Option Sh))(d:zw E)(b:zM E.P k f (Io ks))(i:E.P=P:=by rfl)(q:E.gl=g:=by rfl):ol P g k (aS ks (eK E f ks)):=by
 subst i q;refine da b λx n j a C c=>dT d b c unr 4000 ?_
 unfold eK at a;simp only[Tr.val_bind,fO]at a;obtain⟨l,e,h⟩:=a;refine Tr.sat_of_val e ?_;cases l with
 |ret v m=>simp at h;exact h
 |head _ _ _=>simp at h
 |fork _ _ _ _=>simp at h
def zha(P:Program)(t:TypeId)(e:Sh):Bool:=match P.info? t with
 |some i=>i.size==e.size&&decide (0<e.size)&&decide (i.bytes<=131072)&&(match i.zero with|some z=>z.cells.size==i.size|none=>Q4)
 |none=>Q4
theorem Nv{a:TypeId}{y:Sh}(h:zha P a y=Q3):∃i z,P.info? a=Q1 i/\i.size=y.size/\0<y.size/\i.bytes<=131072/\i.zero=Q1 z/\z.cells.size=i.size:=by
 unfold zha at h;split at h
 .rename_i i e;simp only[aE,aQ,bd]at h;obtain⟨⟨⟨b,c⟩,d⟩,x⟩:=h;split at x
  next z g=>exact⟨i,z,e,b,c,d,g,by simpa using x⟩
  .cases x
 .cases h
theorem uQ:zw zcF where
 sh:=by
  intro t e h;have x:zmc t=Q1 e:=h;unfold zmc at x;split at x
  all_goals first
   |(cases x;exact Nv kw)
   |cases x
 fs:=by intro k F h;cases h
 mix:=zld
abbrev rn(E:cg)(n:Nat)(k:Nat->aP)(f:Func)(a:List AV)(h:List AO):Tr zO:=run E n k (Func.results f).toList 400 (bq f) (aW (Func.ntmps f) a h)
abbrev rh(E:cg)(n:Nat)(h:Nat->aP)(f:Func)(k:Nat)(s:St):Tr zO:=run E n h (Func.results f).toList 400 (ab f k) s
def kq(h:List AO):Nat->AO:=λj=>h.getD j .dead
def ztu(h:List AO)(outs:List Sh):AV->Option (zD (outs.map Q1))
 |.tup x=>mu (kq h) (λi=>i) (outs.map Q1) x
 |_=>Q2
def aU(h:List AO):(outs:List Sh)->AV->Option (zD (outs.map Q1))
 | [s],r=>match yO (kq h) s r with
  |some y=>Q1 (y,())
  |none=>Q2
 |[],r=>ztu h [] r
 |x::s2::ss,r=>ztu h (x::s2::ss) r
def Av:(outs:List Sh)->zD (outs.map Q1)->AV
 |[s],y=>zL s y.1
 |outs,y=>.tup (iY (outs.map Q1) y)
theorem qr{e:Nat->AO}{f:Nat->Nat}:∀(c:List Sh)(b:List AV)(x:zD (c.map Q1)),mu e f (c.map Q1) b=Q1 x->cL e (c.map Q1) b=Q1 ((iY (c.map Q1) x).map λa=>(Q4,a))
 |[],[],_,_=>rfl
 | s::c,a::as',x,h=>by
  have d:mu e f (Q1 s::c.map Q1) (a::as')=Q1 x:=h;show cL e (Q1 s::c.map Q1) (a::as')=_;unfold mu at d;unfold cL;split at d
  next y r i g=>cases d;rw[i,qr c as' r g];rfl
  .cases d
 |[],_::_,_,h=>by simp[mu]at h
 |_::_,[],_,h=>by simp[mu]at h
variable {fn:FuncId}{outs:List Sh}
theorem Reach.plain{y:zD (outs.map Q1)}(Y:∀id,C.ρ0 id=Q2)
  (h:Reach E C fn t s (λr h=>aU h outs r=Q1 y)):Reach E C fn t s (λr h=>(r,h)=(Av outs y,[])):=by
 intro b S a w U ρ W X hc Z;obtain⟨e,B,T,⟨v,r,D,n,F,he,d,l,L,N,h0,j⟩,G,hf,I⟩:=h b S a w U ρ W X hc Z;refine⟨e,B,T,⟨v,_,_,λb=>n b/\b<C.w0.heap.size/\¬C.B0 b,λ_=>Q2,he,rfl,?_,⟨λid=>?_,λh3 h4 b o=>?_,λid b o=>?_⟩,λ_ _=>rfl,λid v u=>?_,⟨j.ext,j.same,λb k=>j.ub b k.1,λb k A=>j.u1 b k A.1,λb k A M=>⟨j.u2 b k A M,k,M⟩,λg=>(j.gl g).weak λb k=>k.1⟩⟩,G,hf,I⟩
 .have z:∀id,bl B n F id (kq D id)/\∀b,af F id (kq D id) b->¬(n b/\b<C.w0.heap.size/\¬C.B0 b):=by
   intro id;refine⟨L.ob id,λb ho A=>?_⟩;rcases L.blk id b ho with J|J
   .exact A.2.2 J
   .omega
  have m:∀(outs:List Sh)(y:zD (outs.map Q1))(q:List AV),mu (kq D) (λi=>i) (outs.map Q1) q=Q1 y->Rv B n F (.tup q) v->Rv B (λb=>n b/\b<C.w0.heap.size/\¬C.B0 b) (λ_=>Q2) (.tup (iY (outs.map Q1) y)) v:=by
   intro outs y q hy l;cases l with
   |tup _ O I hr=>
   have:=(jT (w:=B) (U:=n) (ρ:=F) (U':=λb=>n b/\b<C.w0.heap.size/\¬C.B0 b) (ρ':=λ_=>Q2) (hp:=kq D) (f:=λi=>i) (λb k=>k.1) (outs.map Q1) q O _ (qr outs q y hy) ⟨I,hr⟩ (λid _=>z id)
    (λid p=>by simp only[gu,List.filter_map,uv]at p;rw[List.filter_eq_nil_iff.2 sw]at p;simp[AV.idsL]at p)).1
   simp only[nh,uv,zE,zm,List.map_id']at this;exact .tup _ O this.len this.rv
  match outs,y,d with
  | [c],y,d=>
   simp only[aU]at d;split at d
   next x hx=>cases d;exact Cm hx l (λb k=>k.1) (λid _=>z id)
   .cases d
  | [],y,d=>
   simp only[aU]at d;cases r with
   |tup q=>exact m [] y _ d l
   |_=>cases d
  | s1::s2::ss,y,d=>
   simp only[aU]at d;cases r with
   |tup q=>exact m _ y _ d l
   |_=>cases d
 .simp[bl]
 .obtain⟨_,v,u,_⟩:=o;cases u
 .obtain⟨_,v,u,_⟩:=o;cases u
 .rw[Y id]at u;cases u
variable {keep:Nat->aP}
theorem nR(a:zw E)(b:zM E.P k f n)(x:∀id,n0<=id->C.ρ0 id=Q2){A:Nat}
    {l:zO} (h:(run E n0 keep f.results.toList A t s).val=Q1 l) (c:ke E C k Q l):Reach E C k t s Q:=
 dT a b x keep A (Tr.sat_of_val h c)
def Zb(ks outs:List Sh)(g:zD (ks.map Q1)->Option (zD (outs.map Q1))):eX (ks.map Q1):=λx h=>match h with
 | []=>match g x with
  |some y=>.ok (Av outs y,[])
  |none=>.err
 |_=>.err
def tW(ks outs:List Sh)(g:zD (ks.map Q1)->Option (zD (outs.map Q1))):z8:=aS (ks.map Q1) (Zb ks outs g)
variable {ks:List Sh}
theorem wK{a:zD (ks.map Q1)->Option (zD (outs.map Q1))}(d:zM E.P k f (Io ks))
  (h:∀x y,a x=Q1 y->∀C:eA,(∀id,C.ρ0 id=Q2)->Reach E C k (bq f) (aW f.ntmps (iY (ks.map Q1) x) []) (λr h=>aU h outs r=Q1 y)) (i:E.P=P:=by rfl) (q:E.gl=g:=by rfl):ol P g k (tW ks outs a):=by
 subst i q;refine da (by simpa using d) λx l j b C c=>?_
 unfold Zb at b;split at b
 .split at b
  next y e=>simp only[Tr.val_ok,bg]at b;subst b;exact Reach.plain (λid=>c id (by simp)) (h x y e C (λid=>c id (by simp)))
  .simp at b
 .simp at b
abbrev cg.aut(E:cg)(k:Nat)(f:Func)(n:Nat):cg:=E.add k (aS (List.replicate n Q2) (eK E f (List.replicate n Q2)))
theorem iC{h:Nat}(x:zw E)(a:zM E.P n f h):zw (E.aut n f h):=
 x.add (bS _ x (by simpa using a))
def fI(ks outs:List Sh)(c:zD (ks.map Q1)->Bool)(g:zD (ks.map Q1)->zD (outs.map Q1)):eX (ks.map Q1):=λx h=>match h with
 |[]=>.chk (c x) (.ok (Av outs (g x),[]))
 |_=>.err
def zZ(ks outs:List Sh)(c:zD (ks.map Q1)->Bool)(g:zD (ks.map Q1)->zD (outs.map Q1)):z8:=aS (ks.map Q1) (fI ks outs c g)
theorem aL{c:zD (ks.map Q1)->Bool}{a:zD (ks.map Q1)->zD (outs.map Q1)}(i:zM E.P k f (Io ks))
  (h:∀x,c x=Q3->∀C:eA,(∀id,C.ρ0 id=Q2)->Reach E C k (bq f) (aW f.ntmps (iY (ks.map Q1) x) []) (λr h=>aU h outs r=Q1 (a x))) (j:E.P=P:=by rfl) (q:E.gl=g:=by rfl):ol P g k (zZ ks outs c a):=by
 subst j q;refine da (by simpa using i) λx m l b C d=>?_
 unfold fI at b;split at b
 .simp only[Tr.val]at b;split at b
  next e=>simp only[bg]at b;subst b;exact Reach.plain (λid=>d id (by simp)) (h x e C (λid=>d id (by simp)))
  .simp at b
 .simp at b
theorem AU{e:List (Option Sh)}{ι:Type}[Nonempty ι]{G:eX e}{Gs:ι->eX e}(h:∀i,ol P g k (aS e (Gs i)))
  (s:∀x l b,(G x l).val=Q1 b->∃i,(Gs i x l).val=Q1 b):ol P g k (aS e G):=by
 refine⟨(h (Classical.choice inferInstance)).fn,?_⟩;intro w U ρ m n c v f o a;have:∃i,(aS e (Gs i) c m n).val=Q1 f:=by
  unfold aS at a|-;split at a
  .rename_i y t;simp only at a|-;split at a
   .rename_i d;split at a
    next z u=>simp only[Tr.val_bind,fO]at a;obtain⟨b,p,q⟩:=a;obtain⟨i,j⟩:=s _ _ _ p;exact⟨i,by simp only[d,zh,Tr.val_bind,fO];exact⟨b,j,q⟩⟩
    .simp at a
   .simp at a
  .simp at a
 obtain⟨i,j⟩:=this;exact(h i).calls w U ρ m n c v f o j
def Sc(ks outs:List Sh)(g:zD (ks.map Q1)->zD (outs.map Q1)):eX (ks.map Q1):=λx h=>match h with
 |[]=>.ok (Av outs (g x),[])
 |_=>.err
def aK(ks outs:List Sh)(g:zD (ks.map Q1)->zD (outs.map Q1)):z8:=aS (ks.map Q1) (Sc ks outs g)
theorem QC{a:zD (ks.map Q1)->zD (outs.map Q1)}(h:ol P g k (zZ ks outs (λ_=>Q3) a)):ol P g k (aK ks outs a):=by
 refine AU (ι:=Unit) (Gs:=λ_=>fI ks outs (λ_=>Q3) a) (λ_=>h) λx d c b=>⟨(),?_⟩
 unfold Sc at b;unfold fI;split at b
 .simpa[Tr.val]using b
 .simp at b
theorem ak{a:zD (ks.map Q1)->zD (outs.map Q1)}(c:zM E.P k f (Io ks))
  (h:∀x,∀C:eA,(∀id,C.ρ0 id=Q2)->Reach E C k (bq f) (aW f.ntmps (iY (ks.map Q1) x) []) (λr h=>aU h outs r=Q1 (a x))) (d:E.P=P:=by rfl) (q:E.gl=g:=by rfl):ol P g k (aK ks outs a):=by subst d q;exact QC (aL c λx _ C b=>h x C b)
def RG(outs:List Sh):zO->Option (zD (outs.map Q1))
 |.ret v h=>aU h outs v
 |_=>Q2
theorem Tr.sat_of_res{y:zD (outs.map Q1)}{v:Tr zO}(h:v.val.bind (RG outs)=Q1 y):v.Sat (ke E C fn (λr h=>aU h outs r=Q1 y)):=by
 rw[fO]at h;obtain⟨l,b,a⟩:=h;refine Tr.sat_of_val b ?_;cases l with
 |ret x h=>exact a
 |head _ _ _=>cases a
 |fork _ _ _ _=>cases a
theorem be{y:zD (outs.map Q1)}(b:zw E)(c:zM E.P k f n)(a:∀id,n0<=id->C.ρ0 id=Q2){A:Nat}
    {x:Tr zO} (d:run E n0 keep f.results.toList A t s=x) (h:x.val.bind (RG outs)=Q1 y):Reach E C k t s (λr h=>aU h outs r=Q1 y):=by refine dT b c a keep A ?_;rw[d];exact Tr.sat_of_res h
theorem za.eta:∀e:za,za.mk e.op e.v e.s e.l=e
 |.mk _ _ _ _=>rfl
structure KN (E E0:cg):Prop where
 p:E.P=E0.P
 g:E.gl=E0.gl
theorem KN.refl(E:cg):KN E E:=⟨rfl,rfl⟩
theorem KN.add{x:cg}(h:KN E x)(k:FuncId)(F:z8):KN (E.add k F) x:=⟨h.p,h.g⟩
abbrev zr(e:za):za:=.mk e.op e.v e.s e.l
theorem zn(e:za):zr e=e:=za.eta e
abbrev U0:Nat->Prop:=λ_=>False
abbrev jz:Nat->Option Value:=λ_=>Q2
def Va(P:Program)(T:TypeId->Sh->Bool):List Field->Nat->Sh->Bool
 |[],_,_=>Q4
 |[f],o,s=>f.offset==o&&(T f.type s&&P.cellsOf f.type==s.size)
 |f::fs,o,.pr a b=>f.offset==o&&(T f.type a&&(P.cellsOf f.type==a.size&&Va P T fs (o+a.size) b))
 |_,_,_=>Q4
def ry(P:Program)(t:TypeId):Bool:=match P.underlying t with
 |some .string=>P.cellsOf t==1
 |_=>Q4
def RD(P:Program)(t e:TypeId):Bool:=match P.underlying t with
 |some (.slice u)=>u==e&&P.cellsOf t==1
 |_=>Q4
def Qo(P:Program):Nat->TypeId->Sh->Bool
 |0,_,_=>Q4
 | n+1,t,s=>match P.underlying t,s with
  |some .bool,.bool=>Q3
  |some (.int k),.int x=>k==x
  |some .string,.str=>Q3
  |some (.slice e),.sl s=>P.cellsOf e==s.size&&(decide (0<s.size)&&Qo P n e s)
  | some (.struct h),.expr=>match h.toList with
   |[a,b,c,d]=>P.cellsOf t==6&&(a.offset==0&&(b.offset==1&&(c.offset==4&&(d.offset==5&&(ry P a.type&&(ry P c.type&&(RD P d.type t&&(P.cellsOf b.type==3&&Qo P n b.type (.pr (.int .i64) (.pr (.int .i64) .str))))))))))
   |_=>Q4
  |some (.struct h),.pr a b=>P.cellsOf t==(Sh.pr a b).size&&Va P (Qo P n) h.toList 0 (.pr a b)
  |_,_=>Q4
section
variable {H:Type} {enc:TypeId×Value->H} {P:Program} {w:World} {sp:Nat->Bool} {held:Bool}
def Got(w:World)(s:Sh)(c:List Value):Prop:=∃x:Sem s,dg w U0 jz (zz s x) c/\∀v∈c,v.oneCell'=Q3
theorem dz{α β:Type}{f:α->Option β}{a:α}{l:List α}{r:List β}(h:(a::l).mapM f=Q1 r):∃y b,f a=Q1 y/\l.mapM f=Q1 b/\r=y::b:=by
 rw[List.mapM_cons]at h;cases c:f a with
 |none=>rw[c]at h;simp at h
 | some y=>
  cases x:l.mapM f with
  |none=>rw[c,x]at h;simp at h
  | some b=>
   rw[c,x]at h;simp at h;exact⟨y,b,rfl,rfl,h.symm⟩
theorem Mr{α β:Type}{f:α->Option β}:∀{l:List α}{r:List β},l.mapM f=Q1 r->∀x∈l,∃y,f x=Q1 y
 |[],_,_,_,b=>by simp at b
 | a::l,r,h,x,b=>by
  obtain⟨y,e,c,d,_⟩:=dz h;rcases b8.1 b with rfl|b
  .exact⟨y,c⟩
  .exact Mr d x b
theorem Dx{α β:Type}{f:α->Option β}:∀{l:List α}{r:List β},l.mapM f=Q1 r->Io r=Io l/\∀(i:Nat) a,l[i]?=Q1 a->f a=r[i]?
 |[],r,h=>by simp at h;subst h;simp
 | a::l,r,h=>by
  obtain⟨y,j,c,d,rfl⟩:=dz h;obtain⟨e,g⟩:=Dx d;refine⟨by simp[e],λi b x=>?_⟩;cases i with
  |zero=>simp at x;subst x;simpa using c
  |succ i=>simpa using g i b (by simpa using x)
theorem KS(a:Addr)(h:a.spot=Q2)(n:Nat):a.add n=⟨a.block,a.off+n,Q2⟩:=by
 obtain⟨b,o,s⟩:=a;simp only at h;subst h;unfold Addr.add;split
 next h=>subst h;rfl
 .rfl
variable {c:List Value}
theorem dg.take{cs:List AV}(h:dg w U0 jz cs c)(n:Nat):dg w U0 jz (cs.take n) (c.take n):=by
 refine⟨by simp[h.len],λj x v a b=>?_⟩;rw[List.getElem?_take]at a b;split at a
 next d=>rw[ze d]at b;exact h.rv j x v a b
 .cases a
theorem dg.appS{i b:List AV}{y:List Value}(h:dg w U0 jz i c)(e:dg w U0 jz b y):dg w U0 jz (i++b) (c++y):=by
 refine⟨by simp[h.len,e.len],λj x v a d=>?_⟩;by_cases g:j<Io i
 .rw[kG g]at a;rw[kG (by rw[<-h.len];exact g)]at d;exact h.rv j x v a d
 .rw[jg ow]at a;rw[jg (by rw[<-h.len];omega),<-h.len]at d;exact e.rv _ x v a d
theorem dg.one{c:AV}{v:Value}(h:Rv w U0 jz c v):dg w U0 jz [c] [v]:=by
 refine⟨rfl,λj d u x a=>?_⟩;cases j with
 |zero=>simp at x a;subst x;subst a;exact h
 |succ j=>simp at x
theorem C5{n:Nat}{T:TypeId->Sh->Bool}(m:∀t s c d G,T t s=Q3->DataW.trod enc P w 0 sp held n t c=Q1 (d,G)->Got w s c){c:List Value}:
  ∀(z:List Field)(o:Nat)(s:Sh) u,Va P T z o s=Q3->(z.mapM λf=>DataW.trod enc P w 0 sp held n f.type ((c.drop f.offset).take (P.cellsOf f.type)))=Q1 u->Got w s ((c.drop o).take s.size)
 |[],_,_,_,h,_=>by simp[Va]at h
 | [f],o,s,u,h,p=>by
  simp only[Va,aE,bd]at h;obtain⟨j,k,l⟩:=h;obtain⟨y,D,e,_,_⟩:=dz p;rw[j,l]at e;exact m _ _ _ _ _ k e
 | f::g::fs,o,.pr a b,u,h,p=>by
  simp only[Va,aE,bd]at h;obtain⟨j,k,l,E⟩:=h;obtain⟨y,D,e,q,_⟩:=dz p;rw[j,l]at e;obtain⟨B,A,o1⟩:=m _ _ _ _ _ k e;obtain⟨C,I,o2⟩:=C5 m (g::fs) (o+a.size) b D E q;have F:((c.drop o).take a.size).length=a.size:=by rw[<-A.len,ag]
  have x:(c.drop o).take (a.size+b.size)=(c.drop o).take a.size++(c.drop (o+a.size)).take b.size:=by
   rw[List.take_add,F2]
  refine⟨(B,C),?_,?_⟩
  .show dg w U0 jz (zz a B++zz b C) ((c.drop o).take (a.size+b.size));rw[x];exact A.appS I
  .intro v i;have i:v∈(c.drop o).take (a.size+b.size):=i;rw[x,cz]at i;exact i.elim (o1 v) (o2 v)
 |_::_::_,_,.unit,_,h,_=>by simp[Va]at h
 |_::_::_,_,.bool,_,h,_=>by simp[Va]at h
 |_::_::_,_,.int _,_,h,_=>by simp[Va]at h
 |_::_::_,_,.str,_,h,_=>by simp[Va]at h
 |_::_::_,_,.sl _,_,h,_=>by simp[Va]at h
 |_::_::_,_,.expr,_,h,_=>by simp[Va]at h
variable {n:Nat}{a e:TypeId}{j:DataW H}{p:List MemPlace}
theorem HN{y:Sh}(ht:P.underlying a=Q1 (.slice e))(hc:P.cellsOf e=y.size)(B:0<y.size)
  (hT:∀c j p,DataW.trod enc P w 0 sp held n e c=Q1 (j,p)->Got w y c)    (h:DataW.trod enc P w 0 sp held (n+1) a c=Q1 (j,p)):Got w (.sl y) c:=by
 unfold DataW.trod at h;rw[ht]at h;split at h
 all_goals first
  |(rename_i D;cases D;done)
  |(rename_i D _;cases D;done)
  |(simp at h;done)
  |skip
 next D=>cases D;exact⟨[],dg.one (.sl0 y Q2 0),by simp[Value.oneCell']⟩
 .rename_i b o F D;cases D;simp only[aM,true_and]at h;split at h
  .rename_i S;rw[fO]at h;obtain⟨M,he,_⟩:=h;have I:∀i,∃x:Sem y,i<o->∃m,w.cells? 0 (b.add (i*y.size)) y.size=Q1 m/\dg w U0 jz (zz y x) m:=by
    intro i;by_cases v:i<o
    .obtain⟨d,Z⟩:=Mr he i (by simpa using v);rw[fO]at Z;obtain⟨m,u,z⟩:=Z;obtain⟨x,hx,_⟩:=hT m d.1 d.2 z;rw[hc]at u;exact⟨x,λ_=>⟨m,u,hx⟩⟩
    .exact⟨zi y,λh=>(v h).elim⟩
   obtain⟨X,hX⟩:=Classical.axiomOfChoice I;have W:maxLen=aI:=rfl;cases o with
   |zero=>exact⟨[],dg.one (.sl0 y (Q1 b) F),by simp[Value.oneCell']⟩
   | succ o=>
    have s:∀i,i<o+1->∃m,Io m=y.size/\(∀k,k<y.size->w.cell? ((b.add (i*y.size)).add k)=m[k]?)/\dg w U0 jz (zz y (X i)) m:=by
     intro i v;obtain⟨m,u,z⟩:=hX i v;unfold World.cells? at u;rw[ze (aM _)]at u;obtain⟨E,h4⟩:=Dx u;refine⟨m,by simpa using E,λk A=>?_,z⟩;exact h4 k k (by simp[A])
    have t:b.spot=Q2:=by
     obtain⟨m,u,z,_⟩:=s 0 ow;have:=z 0 B;simp only[Nat.zero_mul,Addr.add,zh]at this;rw[z6 ow]at this;unfold World.cell? at this;split at this
     .split at this
      .cases this
      .rename_i Y;cases T:b.spot with
       |none=>rfl
       |some q=>rw[T]at Y;simp at Y
     .cases this
    have J:b.block<w.heap.size:=by
     obtain⟨m,u,z,_⟩:=s 0 ow;have:=z 0 B;simp only[Nat.zero_mul,Addr.add,zh]at this;rw[z6 ow]at this;have N:b=⟨b.block,b.off,Q2⟩:=by rw[<-t]
     rw[N]at this;exact uE this
    have O:∀i,∃m:List Value,i<o+1->Io m=y.size/\(∀k,k<y.size->w.cell? ⟨b.block,b.off+i*y.size+k,Q2⟩=m[k]?)/\dg w U0 jz (zz y (X i)) m:=by
     intro i;by_cases v:i<o+1
     .obtain⟨m,u,z,E⟩:=s i v;refine⟨m,λ_=>⟨u,λk A=>?_,E⟩⟩;rw[<-z k A,KS b t,KS _ rfl]
     .exact⟨[],λh=>(v h).elim⟩
    obtain⟨U,G⟩:=Classical.axiomOfChoice O;let l:List (Sem y):=(List.range (o+1)).map X
    have hl:Io l=o+1:=by simp[l]
    have L:∀i(v:i<Io l),l[i]=X i:=by intro i v;simp[l]
    refine⟨l,dg.one ?_,by simp[Value.oneCell']⟩;have N:b=⟨b.block,b.off,Q2⟩:=by rw[<-t]
    rw[N,<-hl];refine .sl y l b.block b.off F (λi k=>((U i)[k]?).getD undef) ow ow J (λh=>h) ?_ ?_
    .intro i k v A;obtain⟨u,z,_⟩:=G i ow;rw[z k A,z6 ow];rfl
    .intro i v k g C;obtain⟨u,_,E⟩:=G i ow;rw[L i v]at C;have A:k<(U i).length:=by
      have:=(dc.1 C).1;rw[E.len]at this;exact this
     have:=E.rv k g _ C (z6 A);rw[z6 A];exact this
  .cases h
theorem J7(b:P.underlying a=Q1 .string)(h:DataW.trod enc P w 0 sp held n a c=Q1 (j,p)):Got w .str c:=by
 cases n with
 |zero=>simp[DataW.trod]at h
 | succ n=>
  unfold DataW.trod at h;rw[b]at h;split at h
  all_goals first
   |(rename_i x;cases x;done)
   |(rename_i x _;cases x;done)
   |(simp at h;done)
   |skip
  rename_i s x;split at h
  next g=>refine⟨s.data.toList,dg.one ?_,by simp[Value.oneCell']⟩;have e:maxLen=aI:=rfl;have d:s.size=s.data.toList.length:=rfl;exact .str s.data.toList ow
  .cases h
theorem Dn(h:ry P a=Q3):P.underlying a=Q1 .string/\P.cellsOf a=1:=by
 unfold ry at h;split at h
 next x=>exact⟨x,by simpa using h⟩
 .cases h
theorem XG(h:RD P a e=Q3):P.underlying a=Q1 (.slice e)/\P.cellsOf a=1:=by
 unfold RD at h;split at h
 next u x=>simp only[aE,bd]at h;rw[<-h.1];exact⟨x,h.2⟩
 .cases h
theorem qP:∀(x n:Nat)(t:TypeId)(s:Sh)(j:List Value)(d:DataW H)(u:List MemPlace),Qo P n t s=Q3->DataW.trod enc P w 0 sp held x t j=Q1 (d,u)->Got w s j
 |0,_,_,_,_,_,_,_,h=>by simp[DataW.trod]at h
 |x+1,0,_,_,_,_,_,g,_=>by simp[Qo]at g
 | x+1,n+1,t,s,j,d,u,g,h=>by
  have h0:=h;unfold Qo at g;split at g
  .rename_i l;unfold DataW.trod at h;rw[l]at h;split at h
   all_goals first
    |(rename_i i;cases i;done)
    |(rename_i i _;cases i;done)
    |(simp at h;done)
    |skip
   exact⟨_,dg.one (.bool _),by simp[Value.oneCell']⟩
  .rename_i k k' l;have hk:k=k':=by simpa using g
   subst hk;unfold DataW.trod at h;rw[l]at h;split at h
   all_goals first
    |(rename_i i;cases i;done)
    |(rename_i i _;cases i;done)
    |(simp at h;done)
    |skip
   rename_i k1 k2 m i;cases i;split at h
   next C=>obtain⟨rfl,C⟩:=C;simp only[Lit.wf,aE,aQ]at C;exact⟨m,dg.one (.int _ _ ⟨C.1,C.2⟩),by simp[Value.oneCell']⟩
   .cases h
  next l=>exact J7 l h
  next e s l=>simp only[aE,bd,aQ]at g;exact HN l g.1 g.2.1 (λj d u h=>qP x n e s j d u g.2.2 h) h
  .rename_i N l;split at g
   .rename_i a b c d' B;simp only[aE,bd]at g;obtain⟨y,O,S,T,U,G,I,J,zb,X⟩:=g;obtain⟨G,Z⟩:=Dn G;obtain⟨I,zc⟩:=Dn I;obtain⟨J,zd⟩:=XG J;unfold DataW.trod at h;rw[l]at h;simp only at h;split at h
    .rename_i o;rw[dt]at h;obtain⟨Y,p,_⟩:=h;rw[B]at p;obtain⟨ya,r1,D,p,_⟩:=dz p;obtain⟨yb,r2,E,p,_⟩:=dz p;obtain⟨yc,r3,F,p,_⟩:=dz p;obtain⟨yd,r4,z,p,_⟩:=dz p;rw[O,Z]at D;rw[S,zb]at E;rw[T,zc]at F;rw[U,zd]at z;obtain⟨xa,ga,oa⟩:=J7 G D;obtain⟨xb,gb,ob⟩:=qP x n b.type _ _ _ _ X E;obtain⟨xc,gc,oc⟩:=J7 I F;have L:Got w (.sl .expr) ((j.drop 5).take 1):=by
      cases x with
      |zero=>simp[DataW.trod]at z
      | succ x=>
       refine HN J (by rw[y];rfl) (by decide) (λj d u h=>qP x (n+1) t .expr j d u ?_ h) z;unfold Qo;rw[l];simp only[B,aE,bd];refine⟨y,O,S,T,U,?_,?_,?_,zb,X⟩
       .simp[ry,G,Z]
       .simp[ry,I,zc]
       .simp[RD,J,zd]
     obtain⟨xd,gd,od⟩:=L;have M:Io j=6:=by rw[o,y]
     have A:j=(j.drop 0).take 1++((j.drop 1).take 3++((j.drop 4).take 1++(j.drop 5).take 1)):=by
      match j,M with
      |[v0,v1,v2,v3,v4,v5],_=>rfl
     refine⟨za.mk xa xb xc xd,?_,?_⟩
     .have W:=ga.appS (gb.appS (gc.appS gd));rw[<-A]at W;exact W
     .intro v q;rw[A]at q;simp only[cz]at q;rcases q with q|q|q|q
      .exact oa v q
      .exact ob v q
      .exact oc v q
      .exact od v q
    .cases h
   .cases g
  .rename_i N a b l;simp only[aE,bd]at g;unfold DataW.trod at h;rw[l]at h;simp only at h;split at h
   next o=>rw[dt]at h;obtain⟨Y,p,_⟩:=h;have:=C5 (λt s j d u h1 h2=>qP x n t s j d u h1 h2) N.toList 0 (.pr a b) Y g.2 p;rw[List.drop_zero,QG (by rw[o,g.1];exact ah _)]at this;exact this
   .cases h
  .cases g
termination_by x=>x
theorem AW{s:Sh}{z:Value}(l:Qo P n a s=Q3)(h:DataW.Trod enc P w 0 sp held a z j p)(e:(∃i,z=.agg i)↔s.isAgg=Q3)(k:s.isAgg=Q4->z.cells=#[z]):∃x:Sem s,Rv w U0 jz (zL s x) z:=by
 obtain⟨d,h⟩:=h;obtain⟨x,b,q⟩:=qP d n a s _ j p l h;refine⟨x,?_⟩;unfold zL;cases m:s.isAgg with
 | true=>
  obtain⟨i,rfl⟩:=e.2 m;simp only;have:=Rv.agg (w:=w) (U:=U0) (ρ:=jz) (zz s x) i.toList b.len q b.rv;simpa using this
 | false=>
  simp only;rw[k m]at b;have g:=b.len
  match o:zz s x,g with
  | [c],_=>
   rw[o]at b;exact b.rv 0 c z rfl rfl
end
end
end Cad
namespace Go.Proofs
open Cad (ah zE ze zh zm)
open Go.Shelf Go.RowKit Go.Lib Go.Sort
open Bool renaming false→Q4,true→Q3
open Option renaming none→Q2,some→Q1
theorem gd_of{w w':World}(h:Below w.heap.size w w')(hd:w.drawn<=w'.drawn):∃q os',w'=grow (w.drewN q) os':=by
 refine⟨w'.drawn-w.drawn,w'.heap.extract w.heap.size w'.heap.size,?_⟩;have hh:w'.heap=w.heap++w'.heap.extract w.heap.size w'.heap.size:=by
  apply Array.ext_getElem?;intro i;by_cases hi:i<w.heap.size
  .rw[Array.getElem?_append_left hi,h.block i hi]
  .rw[Array.getElem?_append_right (by omega)];have hs:=h.size;by_cases hi2:i<w'.heap.size
   .rw[Array.getElem?_extract,ze (by omega)];congr 1;omega
   .rw[Array.getElem?_eq_none (by omega),Array.getElem?_eq_none (by simp;omega)]
 obtain⟨heap,tape,drawn,os,output⟩:=w;obtain⟨heap',tape',drawn',os',output'⟩:=w';have h1:=h.os;have h2:=h.tape;have h3:=h.output;simp only at h1 h2 h3 hd hh;subst h1 h2 h3;unfold grow World.drewN;simp only[World.mk.injEq,true_and,and_true];exact⟨hh,by omega⟩
set_option maxHeartbeats 1000000 in
theorem Tryz.odd63(r:Nat)(W:World):Calls Tryz.prog 98 #[.int .i32 (r:Int)] W λe w'=>e=.returned (.bool (decide ((r:Int)<32)||decide ((r:Int)>126)))/\w'=W:=by
 go_enter Tryz.func98,Tryz.ntmps98
 go_wp2
 .go_ret
  exact⟨by simp,rfl⟩
 next h=>
  go_ret
  exact⟨by simp,rfl⟩
set_option maxHeartbeats 4000000 in
set_option maxRecDepth 1000000 in
theorem Tryz.indexFunc112(p:Nat->Bool)(s:ByteArray)(w:World)(hp:∀(W:World)(x:Nat),Calls Tryz.prog 98 #[.int .i32 (x:Int)] W λe w'=>e=.returned (.bool (p x))/\w'=W):
  Calls Tryz.prog 164 #[.string s,.func (.func 98) #[] #[],.bool Q3] w λe w'=>e=.returned (.int .i64 (Lib.idxFunc p Q3 s))/\Below w.heap.size w w'/\w.drawn<=w'.drawn:=by
 go_enter Tryz.func164,Tryz.ntmps164
 go_wp2
 go_loopg [] s.size (λgf wx=>∃pos:Nat,wx.heap[w.heap.size]?=Q1 (.stringIter s pos)/\(Below w.heap.size w wx/\w.drawn<=wx.drawn)/\Lib.idxFuncFrom p Q3 s gf pos=Lib.idxFunc p Q3 s/\s.size<=pos+gf)
 case atStart=>exact⟨0,World.iter_heap w s 0,⟨(Below.refl _ w).alloc (ah _) _,ah _⟩,rfl,by omega⟩
 case round=>
  obtain⟨pos,hit,⟨hbw,hdr⟩,hleft,hfu⟩:=hrel;by_cases hps:pos<s.size
  .obtain⟨g',rfl⟩:∃g',gk=g'+1:=⟨gk-1,by omega⟩;have hnx:∀ty,(Instr.next (.pointer (Q1 ⟨w.heap.size,0,Q2⟩)) Q3 ty).run Tryz.prog wr=_:=λty=>Lib.run_next_any_at wr w.heap.size s pos ty hit hps
   have hwd:=Lib.width_pos s pos;obtain⟨R,hR⟩:∃R,(Utf8.decode s pos).1=R:=⟨_,rfl⟩;obtain⟨K,hK⟩:∃K,(Utf8.decode s pos).2=K:=⟨_,rfl⟩;simp only[Lib.idxFuncFrom,hps,zh,hR,hK]at hleft;rw[hR,hK]at hnx;rw[hK]at hwd;have hit2:=Lib.iterAt_heap wr w.heap.size s pos (pos+K) hit;have hbw2:=Lib.below_iterAt hbw (k:=w.heap.size) (ah _) s (pos+K);have hdr2:w.drawn<=(wr.iterAt w.heap.size s (pos+K)).drawn:=hdr;obtain⟨W,hWd⟩:∃W,wr.iterAt w.heap.size s (pos+K)=W:=⟨_,rfl⟩;rw[hWd]at hnx hit2 hbw2 hdr2;have cS:=hp W R;clear hp;cases hsp:p R<;>rw[hsp]at cS<;>simp only[hsp,zh,zE,zm]at hleft
   .go_wp2_with (go_at_call 98;refine cS.mono ?_;rintro e W' ⟨rfl,rfl⟩)
    go_roundg g'
    case measure=>omega
    case rel=>exact⟨pos+K,hit2,⟨hbw2,hdr2⟩,hleft,by omega⟩
   .go_wp2_with (go_at_call 98;refine cS.mono ?_;rintro e W' ⟨rfl,rfl⟩)
    go_ret
    exact⟨by rw[<-hleft]<;>rfl,hbw2,hdr2⟩
  .have hnx:∀ty,(Instr.next (.pointer (Q1 ⟨w.heap.size,0,Q2⟩)) Q3 ty).run Tryz.prog wr=_:=λty=>Lib.run_next_end_at wr w.heap.size s pos ty hit hps
   rw[Lib.idxFuncFrom_end p Q3 s gk pos hps]at hleft
   go_wp2
   go_ret
   exact⟨by rw[<-hleft]<;>rfl,hbw,hdr⟩
theorem Tryz.indexFunc64(p:Nat->Bool)(s:ByteArray)(w:World)(hp:∀(W:World)(x:Nat),Calls Tryz.prog 98 #[.int .i32 (x:Int)] W λe w'=>e=.returned (.bool (p x))/\w'=W):
  Calls Tryz.prog 99 #[.string s,.func (.func 98) #[] #[]] w λe w'=>e=.returned (.int .i64 (Lib.idxFunc p Q3 s))/\Below w.heap.size w w'/\w.drawn<=w'.drawn:=by
 have h:=λW'=>Tryz.indexFunc112 p s W' hp
 go_enter Tryz.func99,Tryz.ntmps99
 go_wp2_with (go_at_call 164;refine(h _).mono ?_;rintro e w' ⟨rfl,h1,h2⟩)
 go_ret
 exact⟨rfl,h1,h2⟩
end Go.Proofs
namespace Cad
open Go Go.Proofs
open List renaming length→Io
open IntKind renaming wrap→Γ,i64→Δ
open Bool renaming false→Q4,true→Q3
open Option renaming none→Q2,some→Q1
open Tr (chk br)
open AV (nils agg tup ptr kb str sl)
noncomputable section
theorem Reach.len{E:cg}{C:eA}{fn:FuncId}{t:List Item}{s:St}{Q:AV->List AO->Prop}(j:Nat)(e:Sh)(l:List (Sem e))(d:s.tmps[j]?=Q1 (.sl e l))(h:Io l<=aI->Reach E C fn t s Q):Reach E C fn t s Q:=by
 intro b g a w U ρ i k x m;refine h ?_ b g a w U ρ i k x m;have c:j<a.tmps.toList.length:=by rw[<-x.tm.len];exact(dc.1 d).1
 have:=x.tm.rv j _ _ d (z6 c);generalize a.tmps.toList[j]=v at this;cases this with
 |sl0=>simp
 |sl _ _ _ _ _ _ _ n=>exact n
theorem zu(i:Nat)(h:i<aI):Γ Δ (↑i+1)=((i+1:Nat):Int):=by have:aI=9223372036854775807:=rfl;rw[dP];omega
theorem cO{α:Type}(l:List α)(d:α){n:Nat}(h:n<Io l):l.getD (n:Int).toNat d=l[n]:=by simp[h]
def ac{α:Type}(p:α->Bool):List α->Nat->Int
 |[],_=>-1
 |x::r,i=>if p x then i else ac p r (i+1)
def Is:cg:=(zcF.aut 176 Tryz.f176 2).aut 276 Tryz.f276 2
theorem p8:zw Is:=by refine iC (iC uQ ?_) ?_<;>(refine⟨?_,?_,?_,?_⟩<;>kernel_rfl)
abbrev Mj:Nat->aP:=λ_=>{slots:=[0,1,7,8]}
theorem YL:zM Is.P 175 Tryz.f175 2:=bL kw
abbrev BI(l:aN)(s:zH)(i:Int):St:={
    tmps:=
     (tm 19 [(0,sl (Sh.str.pr ((Sh.int IntKind.i64).pr Sh.bool)) l),(1,AV.clo (Fn.func 176) [] [ptr 0 0]),(7,ai ↑l.length),(8,ai i)]),
    heap:=[AO.box [str s]]}
theorem zcR(l:aN)(s:zH):run Is 1 Mj Tryz.f175.results.toList 300 (bq Tryz.f175) (aW Tryz.f175.ntmps [.sl zl l,.clo (.func 176) [] [.ptr 0 0]] [.box [.str s]])=.ok (.head 2 (ab Tryz.f175 2) (BI l s 0)):=kw
theorem zdA(l:aN)(s:zH)(i:Int):run Is 1 Mj Tryz.f175.results.toList 300 (ab Tryz.f175 2) (BI l s i)=
 br (decide (i<↑l.length))
  (chk (zK i (Io l))
   (br ((l.getD i.toNat (zi (Sh.str.pr ((Sh.int IntKind.i64).pr Sh.bool)))).1==s)
    (Tr.ok (zO.ret (ai i) [AO.box [str s]]))
    (Tr.ok (zO.head 2 (ab Tryz.f175 2) (BI l s (Γ Δ (i+1)))))))
  (Tr.ok (zO.ret (ai (-1)) [AO.box [str s]])):=kw
theorem QM{C:eA}(b:∀id,1<=id->C.ρ0 id=Q2)(l:aN)(s:zH)(d:Io l<=aI):∀(n i:Nat),Io l-i=n->i<=Io l->
  Reach Is C 175 (ab Tryz.f175 2) (BI l s i) (λr h=>(r,h)=(.int .i64 (ac (λc=>c.1==s) (l.drop i) i),[.box [.str s]]))
 | n,i,e,g=>by
  subst e;refine dT p8 YL b Mj 300 ?_;rw[zdA];refine⟨λh=>⟨?_,λa=>?_,λa=>?_⟩,λh=>?_⟩
  .simp only[aQ]at h;simp[zK];omega
  .simp only[aQ]at h;have x:i<Io l:=by omega
   rw[cO l _ x]at a;rw[fR x];simp only[ac];rw[ze a];rfl
  .simp only[aQ]at h;have x:i<Io l:=by omega
   rw[cO l _ x]at a;rw[fR x];simp only[ac];rw[zg (by rw[a];simp),zu i ow];exact QM b l s d (Io l-(i+1)) (i+1) rfl ow
  .simp only[dZ]at h;rw[BV ow];rfl
 termination_by n=>n
abbrev BJ(l:aN)(s:zH)(i:Int):St:={
    tmps:=
     (tm 19 [(0,sl (Sh.str.pr ((Sh.int IntKind.i64).pr Sh.bool)) l),(1,AV.clo (Fn.func 276) [] [ptr 0 0]),(7,ai ↑l.length),(8,ai i)]),
    heap:=[AO.box [str s]]}
theorem zcS(l:aN)(s:zH):run Is 1 Mj Tryz.f175.results.toList 300 (bq Tryz.f175) (aW Tryz.f175.ntmps [.sl zl l,.clo (.func 276) [] [.ptr 0 0]] [.box [.str s]])=.ok (.head 2 (ab Tryz.f175 2) (BJ l s 0)):=kw
theorem zdB(l:aN)(s:zH)(i:Int):run Is 1 Mj Tryz.f175.results.toList 300 (ab Tryz.f175 2) (BJ l s i)=
 br (decide (i<↑l.length))
  (chk (zK i (Io l))
   (br ((l.getD i.toNat (zi (Sh.str.pr ((Sh.int IntKind.i64).pr Sh.bool)))).1==s)
    (Tr.ok (zO.ret (ai i) [AO.box [str s]]))
    (Tr.ok (zO.head 2 (ab Tryz.f175 2) (BJ l s (Γ Δ (i+1)))))))
  (Tr.ok (zO.ret (ai (-1)) [AO.box [str s]])):=kw
theorem QN{C:eA}(b:∀id,1<=id->C.ρ0 id=Q2)(l:aN)(s:zH)(d:Io l<=aI):∀(n i:Nat),Io l-i=n->i<=Io l->
  Reach Is C 175 (ab Tryz.f175 2) (BJ l s i) (λr h=>(r,h)=(.int .i64 (ac (λc=>c.1==s) (l.drop i) i),[.box [.str s]]))
 | n,i,e,g=>by
  subst e;refine dT p8 YL b Mj 300 ?_;rw[zdB];refine⟨λh=>⟨?_,λa=>?_,λa=>?_⟩,λh=>?_⟩
  .simp only[aQ]at h;simp[zK];omega
  .simp only[aQ]at h;have x:i<Io l:=by omega
   rw[cO l _ x]at a;rw[fR x];simp only[ac];rw[ze a];rfl
  .simp only[aQ]at h;have x:i<Io l:=by omega
   rw[cO l _ x]at a;rw[fR x];simp only[ac];rw[zg (by rw[a];simp),zu i ow];exact QN b l s d (Io l-(i+1)) (i+1) rfl ow
  .simp only[dZ]at h;rw[BV ow];rfl
 termination_by n=>n
def G27:eX [Q1 (.sl zl),Q2]:=λx h=>match x,h with
 |(l,.clo (.func 176) [] [.ptr 0 0],_),[.box [.str s]]=>.ok (.int .i64 (ac (λc=>c.1==s) l 0),[.box [.str s]])
 |(l,.clo (.func 276) [] [.ptr 0 0],_),[.box [.str s]]=>.ok (.int .i64 (ac (λc=>c.1==s) l 0),[.box [.str s]])
 |_,_=>.err
theorem zow:FK 175 (aS [Q1 (.sl zl),Q2] G27):=by
 refine da YL λx d c h C a=>?_
 unfold G27 at h;split at h
 .simp only[Tr.val_ok,bg]at h;subst h;rename_i _ _ l u s;refine Reach.len 0 zl l rfl λb=>?_
  have e:iY [Q1 (.sl zl),Q2] (l,.clo (.func 176) [] [.ptr 0 0],u)=[.sl zl l,.clo (.func 176) [] [.ptr 0 0]]:=rfl;rw[e];refine dT (n0:=1) p8 YL a Mj 300 ?_;rw[zcR];exact QM a l s b _ 0 rfl ow
 .simp only[Tr.val_ok,bg]at h;subst h;rename_i _ _ l u s;refine Reach.len 0 zl l rfl λb=>?_
  have e:iY [Q1 (.sl zl),Q2] (l,.clo (.func 276) [] [.ptr 0 0],u)=[.sl zl l,.clo (.func 276) [] [.ptr 0 0]]:=rfl;rw[e];refine dT (n0:=1) p8 YL a Mj 300 ?_;rw[zcS];exact QN a l s b _ 0 rfl ow
 .simp at h
def Wy:cg:=Is.add 175 (aS [Q1 (.sl zl),Q2] G27)
theorem CJ:zw Wy:=p8.add zow
def zqe:cg:=(Wy.add 108 (aS [Q1 aj,Q1 .str] (eK Wy Tryz.f108 [Q1 aj,Q1 .str]))).add 238 (aS [Q1 (.sl zl),Q1 .str] (eK Wy Tryz.f238 [Q1 (.sl zl),Q1 .str]))
theorem WA:zw zqe:=by refine(CJ.add (bS _ CJ ?_)).add (bS (E:=Wy) _ CJ ?_)<;>(refine⟨?_,?_,?_,?_⟩<;>kernel_rfl)
end
end Cad
