/- The program's environment. -/
import Derived.Test.YtgcekmmgphhofaaGreatDoorR10
import Derived.Test.YtgcekmmgphhofaaGreatDoorRows
namespace Cad
open Go Go.Proofs.Tryz
open List renaming length->Io,length->M
open IntKind renaming wrap->Γ,i64->Δ
open Bool renaming false->Q5,true->Q4,false->J,true->Z
open Option renaming none->Q2,some->Q1,some->Y
open Tr (chk br)
open AV (nils agg tup ptr kb sl)
open AV renaming sl->O,str->X
open Cad renaming Sem->N,AV->R,Tr->K,ow->S,ai->I
noncomputable section
abbrev zi:Sh:=.int .i64
abbrev zy:=N zi
abbrev da:=List (N zi)
abbrev ze:Sh:=.pr (.int .i64) (.pr (.int .i64) .str)
abbrev zo:=List (N ze)
abbrev zw:=N ze
abbrev fM:=N (Sh.sl ze)
abbrev zu:Sh:=.pr .str (.pr (.int .i64) .bool)
abbrev aU:=List (N zu)
abbrev ci:=N zu
abbrev cR:=N (Sh.sl zu)
abbrev zW:Sh:=.pr (.int .i64) .str
abbrev bV:=N zW
abbrev eu:=List (N zW)
abbrev zN:Sh:=.pr .str (.pr (.sl zu) (.pr (.int .i64) (.pr (.sl (.int .i64)) (.pr (.sl zW) .expr))))
abbrev am:=N zN
abbrev zl:Sh:=.pr zN (.sl (.sl ze))
abbrev zH:=List (N zl)
abbrev zX:=N zl
def ziN:Nat->Option Sh
 |3=>Y (.int .i64)
 |42=>Y ze
 |45=>Y .expr
 |148=>Y zu
 |152=>Y zW
 |9=>Y .str
 |5=>Y (.int .u8)
 |274=>Y (.pr (.int .i64) .str)
 |427=>Y (.pr .str .str)
 |400=>Y (.pr .str .expr)
 |50=>Y (.sl ze)
 |90=>Y (zl)
 |_=>Q2
abbrev jA:List Int:=[1,10,100,1000,10000,100000,1000000,10000000,100000000,1000000000,10000000000,100000000000,1000000000000,10000000000000,100000000000000,1000000000000000,10000000000000000,100000000000000000,1000000000000000000,10000000000000000000]
def MV:Nat->R
 |0=>.gint
 |7=>.eptr [.str zmD,.str zmE,.str zmz] 0
 |3=>.tab .u64 jA
 |1=>.eptr [.ifc J] 0
 |2=>.eptr [.ifc J] 0
 |_=>.any
abbrev FK(k:FuncId)(F:zV):Prop:=ky Go.Proofs.Tryz.prog MV k F
def zgN:bS:={P:=Go.Proofs.Tryz.prog,sh:=ziN,gl:=MV,F:=λ_=>Q2}
def bS.add(E:bS)(k:FuncId)(F:zV):bS:={E with F:=λj=>if j=k then Y F else E.F j}
variable {E:bS}{k:FuncId}
theorem zm.add{F:zV}(h:zm E)(b:ky E.P E.gl k F):zm (E.add k F) where
 sh:=h.sh
 fs:=λj a x=>by
  simp only[bS.add]at x;split at x
  next e=>cases x;rw[e];exact b
  .exact h.fs j a x
 mix:=h.mix
def Pw:List (Nat×zV)->Nat->Option zV->Option zV
 |[],_,d=>d
 |p::r,j,d=>if j=p.1 then Y p.2 else Pw r j d
def bS.addL(E:bS)(l:List (Nat×zV)):bS:={E with F:=λj=>Pw l j (E.F j)}
def TH(P:Program)(g:Nat->R):List (Nat×zV)->Prop
 |[]=>True
 |p::r=>ky P g p.1 p.2/\TH P g r
variable {P:Program}{g:Nat->R}
theorem ip:TH P g []:=trivial
variable {n:Nat}
theorem fc{F:zV}{r:List (Nat×zV)}(h:ky P g n F)(t:TH P g r):TH P g ((n,F)::r):=⟨h,t⟩
theorem zm.addL(h:zm E){l:List (Nat×zV)}(a:TH E.P E.gl l):zm (E.addL l) where
 sh:=h.sh
 fs:=by
  intro k F;show Pw l k (E.F k)=Y F->ky E.P E.gl k F
  induction l with
  |nil=>exact h.fs k F
  | cons p r i=>
   intro x;rw[Pw]at x;split at x
   next e=>cases x;rw[e];exact a.1
   .exact i a.2 x
 mix:=h.mix
def kN(h:Nat):Nat->Code->List Item->Option (List Item)
 |0,_,_=>Q2
 | n+1,c,k=>match c with
  | .seq a b=>match kN h n a (.code b::k) with
   |some r=>Y r
   |none=>kN h n b k
  | .cond _ a b=>match kN h n a k with
   |some r=>Y r
   |none=>kN h n b k
  |.block id c=>kN h n c (.inBlock id::k)
  |.loop c=>if eM c=h then Y (.code c::.inLoop c::k)else kN h n c (.inLoop c::k)
  |.region id _ _=>if id+500000=h then Y k else Q2
  |_=>Q2
def zZ(f:Func)(k:Nat):List Item:=match f.body with
 |some c=>(kN k 1000 c []).getD []
 |none=>[]
def aK(f:Func):List Item:=match f.body with
 |some c=>[.code c]
 |none=>[]
theorem WK:zgN.P.follows .mixedOrders=Z:=kw
def unr:Nat->aR:=λ_=>{unroll:=Z}
def eJ(E:bS)(f:Func)(k:List (Option Sh)):ee k:=λx h=>
 (run E (M h) unr f.results.toList 4000 (aK f) (aC f.ntmps (gX k x) h)).bind λ
  |.ret v a=>.ok (v,a)
  |_=>.err
theorem Tr.sat_of_val{α:Type}{Φ:α->Prop}:∀{t:K α}{a:α},t.val=Y a->Φ a->t.Sat Φ
 |.err,_,h,_=>by simp at h
 | .chk c t,a,h,x=>by
  cases c
  .simp[Tr.val]at h
  .exact⟨rfl,sat_of_val (t:=t) (by simpa[Tr.val]using h) x⟩
 | .br c t f,a,h,x=>by
  cases c
  .exact⟨λh=>(by cases h),λ_=>sat_of_val (t:=f) (by simpa[Tr.val]using h) x⟩
  .exact⟨λ_=>sat_of_val (t:=t) (by simpa[Tr.val]using h) x,λh=>(by cases h)⟩
 |.ok b,a,h,x=>by simp[Tr.val]at h;subst h;exact x
def zJ(P:Program)(k:FuncId)(f:Func)(n:Nat):Prop:=P.funcs[k]?=Q1 f/\(f.name=="runtime.NumGoroutine")=Q5/\f.body.isNone=Q5/\decide (n<=f.ntmps)=Q4
variable {f:Func}
theorem bG(h:(P.funcs[k]?,f.name=="runtime.NumGoroutine",f.body.isNone,decide (n<=f.ntmps))=(Q1 f,Q5,Q5,Q4)):zJ P k f n:=by simp only[cz]at h;exact⟨h.1,h.2.1,h.q.1,h.r⟩
theorem rA:∀(k:List (Option Sh))(x:zA k),(gX k x).length=M k
 |[],_=>rfl
 |some _::k,x=>by simp[gX,rA k x.2]
 |none::k,x=>by simp[gX,rA k x.2]
variable {C:eS}{Q:R->List AO->Prop}{n0:Nat}{t:List Item}{s:St}
theorem dN(b:zm E)(c:zJ E.P k f n)(a:∀id,n0<=id->C.ρ0 id=Q2)(keep:Nat->aR)(x:Nat)
    (h:(run E n0 keep f.results.toList x t s).Sat (ju E C k Q)):Reach E C k t s Q:=
 FA b c.1 a rfl x _ _ h
theorem Zy{args:List R}{x:List AO}(j:zJ E.P k f (M args))
  (h:∀C:eS,(∀id,M x<=id->C.ρ0 id=Q2)->Reach E C k (aK f) (aC f.ntmps args x) Q):Tu E k args x Q:=by
 have⟨d,e,b,g⟩:=j;cases a:f.body with
 |none=>rw[a]at b;cases b
 | some c=>
  refine⟨f,c,d,a,e,eB g,λC i=>?_⟩;have:=h C i;simpa[aK,a]using this
theorem cP{d:List (Option Sh)}{G:ee d}(c:zJ E.P k f (M d))
  (h:∀x b a,(G x b).val=Y a->∀C:eS,(∀id,M b<=id->C.ρ0 id=Q2)->Reach E C k (aK f) (aC f.ntmps (gX d x) b) (λr h=>(r,h)=a)) (j:E.P=P:=by rfl) (i:E.gl=g:=by rfl):ky P g k (au d G):=by subst j i;exact TK ⟨f,c.1,c.2.1,c.q.1⟩ λx b a e=>Zy (by rw[rA];exact c) (h x b a e)
theorem bM(b:List (Option Sh))(e:zm E)(c:zJ E.P k f (M b))(j:E.P=P:=by rfl)(q:E.gl=g:=by rfl):ky P g k (au b (eJ E f b)):=by
 subst j q;refine cP c λx o m a C d=>dN e c d unr 4000 ?_
 unfold eJ at a;simp only[Tr.val_bind,fV]at a;have⟨l,i,h⟩:=a;refine Tr.sat_of_val i ?_;cases l with
 |ret v n=>simp at h;exact h
 |head _ _ _=>simp at h
 |fork _ _ _ _=>simp at h
def zd3(P:Program)(t:TypeId)(e:Sh):Bool:=match P.info? t with
 |some i=>i.size==e.size&&decide (0<e.size)&&decide (i.bytes<=131072)&&(match i.zero with|some z=>z.cells.size==i.size|none=>J)&&(!(decide (e=.int .u8))||t==Yl)
 |none=>J
theorem pL{a:TypeId}{e:Sh}(h:zd3 P a e=Z):∃i z,P.info? a=Y i/\i.size=e.size/\0<e.size/\i.bytes<=131072/\i.zero=Y z/\z.cells.size=i.size/\(e=.int .u8->a=Yl):=by
 unfold zd3 at h;split at h
 .rename_i i j;simp only[ar,aT,be]at h;have⟨⟨⟨⟨b,c⟩,d⟩,x⟩,g⟩:=h;split at x
  next z k=>exact⟨i,z,j,b,c,d,k,by simpa using x,λq=>by simpa[q]using g⟩
  .cases x
 .cases h
theorem UH:zm zgN where
 sh:=by
  intro t e h;have x:ziN t=Y e:=h;unfold ziN at x;split at x
  all_goals first
   |(cases x;exact pL kw)
   |cases x
 fs:=by intro k F h;cases h
 mix:=WK
abbrev rn(E:bS)(n:Nat)(k:Nat->aR)(f:Func)(a:List R)(h:List AO):K zM:=run E n k (Func.results f).toList 400 (aK f) (aC (Func.ntmps f) a h)
abbrev rh(E:bS)(n:Nat)(h:Nat->aR)(f:Func)(k:Nat)(s:St):K zM:=run E n h (Func.results f).toList 400 (zZ f k) s
def pm(h:List AO):Nat->AO:=λj=>h.getD j .dead
def zqB(h:List AO)(o:List Sh):R->Option (zA (o.map Y))
 |.tup x=>lL (pm h) (λi=>i) (o.map Y) x
 |_=>Q2
def bc(h:List AO):(o:List Sh)->R->Option (zA (o.map Y))
 | [s],r=>match w7 (pm h) s r with
  |some y=>Y (y,())
  |none=>Q2
 |[],r=>zqB h [] r
 |x::s2::ss,r=>zqB h (x::s2::ss) r
def CB:(o:List Sh)->zA (o.map Y)->R
 |[s],y=>zI s y.1
 |o,y=>.tup (gX (o.map Y) y)
theorem pA{d:Nat->AO}{f:Nat->Nat}:∀(b:List Sh)(args:List R)(x:zA (b.map Y)),lL d f (b.map Y) args=Y x->cr d (b.map Y) args=Y ((gX (b.map Y) x).map λa=>(J,a))
 |[],[],_,_=>rfl
 | s::b,a::as',x,h=>by
  have c:lL d f (Y s::b.map Y) (a::as')=Y x:=h;show cr d (Y s::b.map Y) (a::as')=_;unfold lL at c;unfold cr;split at c
  next y r g e=>cases c;rw[g,pA b as' r e];rfl
  .cases c
 |[],_::_,_,h=>by simp[lL]at h
 |_::_,[],_,h=>by simp[lL]at h
variable {fn:FuncId}{o:List Sh}
theorem Reach.plain{y:zA (o.map Y)}(hC:∀id,C.ρ0 id=Q2)
  (h:Reach E C fn t s (λr h=>bc h o r=Y y)):Reach E C fn t s (λr h=>(r,h)=(CB o y,[])):=by
 intro b cs a w U ρ h1 h2 hc hW;have⟨e,G,fr,⟨v,r,h',p,ρ',he,j,m,hH,h3,h4,k⟩,h0,hf,hl⟩:=h b cs a w U ρ h1 h2 hc hW;refine⟨e,G,fr,⟨v,_,_,λb=>p b/\b<C.w0.heap.size/\¬C.B0 b,λ_=>Q2,he,rfl,?_,⟨λid=>?_,λh5 h6 b d=>?_,λid b d=>?_⟩,λ_ _=>rfl,λid v A=>?_,⟨k.ext,k.same,λb l=>k.ub b l.1,λb l F=>k.u1 b l F.1,λb l F hn=>⟨k.u2 b l F hn,l,hn⟩,λg=>(k.gl g).weak λb l=>l.1⟩⟩,h0,hf,hl⟩
 .have D:∀id,aW G p ρ' id (pm h' id)/\∀b,zY ρ' id (pm h' id) b->¬(p b/\b<C.w0.heap.size/\¬C.B0 b):=by
   intro id;refine⟨hH.ob id,λb ho F=>?_⟩;rcases hH.blk id b ho with hB|hB
   .exact F.q hB
   .omega
  have n:∀(o:List Sh)(y:zA (o.map Y))(z:List R),lL (pm h') (λi=>i) (o.map Y) z=Y y->Rv G p ρ' (.tup z) v->Rv G (λb=>p b/\b<C.w0.heap.size/\¬C.B0 b) (λ_=>Q2) (.tup (gX (o.map Y) y)) v:=by
   intro o y z hy m;cases m with
   |tup _ vs hl hr=>
   have:=(jn (w:=G) (U:=p) (ρ:=ρ') (U':=λb=>p b/\b<C.w0.heap.size/\¬C.B0 b) (ρ':=λ_=>Q2) (hp:=pm h') (f:=λi=>i) (λb l=>l.1) (o.map Y) z vs _ (pA o z y hy) ⟨hl,hr⟩ (λid _=>D id)
    (λid u=>by simp only[gG,List.filter_map,wY]at u;rw[List.filter_eq_nil_iff.2 sw]at u;simp[AV.idsL]at u)).1
   simp only[hZ,wY,zO,zr,List.map_id']at this;exact .tup _ vs this.len this.rv
  match o,y,j with
  | [c],y,j=>
   simp only[bc]at j;split at j
   next x hx=>cases j;exact AH hx m (λb l=>l.1) (λid _=>D id)
   .cases j
  | [],y,j=>
   simp only[bc]at j;cases r with
   |tup z=>exact n [] y _ j m
   |_=>cases j
  | s1::s2::ss,y,j=>
   simp only[bc]at j;cases r with
   |tup z=>exact n _ y _ j m
   |_=>cases j
 .simp[aW]
 .have⟨_,v,A,_⟩:=d;cases A
 .have⟨_,v,A,_⟩:=d;cases A
 .rw[hC id]at A;cases A
variable {keep:Nat->aR}
theorem mL(a:zm E)(b:zJ E.P k f n)(x:∀id,n0<=id->C.ρ0 id=Q2){z:Nat}
    {l:zM} (h:(run E n0 keep f.results.toList z t s).val=Y l) (c:ju E C k Q l):Reach E C k t s Q:=
 dN a b x keep z (Tr.sat_of_val h c)
def Xy(k o:List Sh)(g:zA (k.map Y)->Option (zA (o.map Y))):ee (k.map Y):=λx h=>match h with
 | []=>match g x with
  |some y=>.ok (CB o y,[])
  |none=>.err
 |_=>.err
def r7(k o:List Sh)(g:zA (k.map Y)->Option (zA (o.map Y))):zV:=au (k.map Y) (Xy k o g)
variable {b:List Sh}
theorem uJ{a:zA (o.map Y)->Option (zA (b.map Y))}(e:zJ E.P k f (M o))
  (h:∀x y,a x=Y y->∀C:eS,(∀id,C.ρ0 id=Q2)->Reach E C k (aK f) (aC f.ntmps (gX (o.map Y) x) []) (λr h=>bc h b r=Y y)) (j:E.P=P:=by rfl) (q:E.gl=g:=by rfl):ky P g k (r7 o b a):=by
 subst j q;refine cP (by simpa using e) λx m l c C d=>?_
 unfold Xy at c;split at c
 .split at c
  next y i=>simp only[Tr.val_ok,ax]at c;subst c;exact Reach.plain (λid=>d id (by simp)) (h x y i C (λid=>d id (by simp)))
  .simp at c
 .simp at c
abbrev bS.aut(E:bS)(k:Nat)(f:Func)(n:Nat):bS:=E.add k (au (List.replicate n Q2) (eJ E f (List.replicate n Q2)))
theorem ib{h:Nat}(x:zm E)(a:zJ E.P n f h):zm (E.aut n f h):=
 x.add (bM _ x (by simpa using a))
def dJ(k o:List Sh)(c:zA (k.map Y)->Bool)(g:zA (k.map Y)->zA (o.map Y)):ee (k.map Y):=λx h=>match h with
 |[]=>.chk (c x) (.ok (CB o (g x),[]))
 |_=>.err
def ae(ks outs:List Sh)(c:zA (ks.map Y)->Bool)(g:zA (ks.map Y)->zA (outs.map Y)):zV:=au (ks.map Y) (dJ ks outs c g)
theorem aH{c:zA (o.map Y)->Bool}{a:zA (o.map Y)->zA (b.map Y)}(j:zJ E.P k f (M o))
  (h:∀x,c x=Z->∀C:eS,(∀id,C.ρ0 id=Q2)->Reach E C k (aK f) (aC f.ntmps (gX (o.map Y) x) []) (λr h=>bc h b r=Y (a x))) (l:E.P=P:=by rfl) (q:E.gl=g:=by rfl):ky P g k (ae o b c a):=by
 subst l q;refine cP (by simpa using j) λx n m d C e=>?_
 unfold dJ at d;split at d
 .simp only[Tr.val]at d;split at d
  next i=>simp only[ax]at d;subst d;exact Reach.plain (λid=>e id (by simp)) (h x i C (λid=>e id (by simp)))
  .simp at d
 .simp at d
theorem na{gl:Nat->R}{kinds:List (Option Sh)}{ι:Type}[Nonempty ι]{G:ee kinds}{Gs:ι->ee kinds}(h:∀i,ky P gl k (au kinds (Gs i)))
  (o:∀x e b,(G x e).val=Y b->∃i,(Gs i x e).val=Y b):ky P gl k (au kinds G):=by
 refine⟨(h (Classical.choice inferInstance)).fn,?_⟩;intro w U u g n args v f j a;have:∃i,(au kinds (Gs i) args g n).val=Y f:=by
  unfold au at a|-;split at a
  .rename_i s p;simp only at a|-;split at a
   .rename_i c;split at a
    next t q=>simp only[Tr.val_bind,fV]at a;have⟨b,l,m⟩:=a;have⟨i,d⟩:=o _ _ _ l;exact⟨i,by simp only[c,zj,Tr.val_bind,fV];exact⟨b,d,m⟩⟩
    .simp at a
   .simp at a
  .simp at a
 have⟨i,d⟩:=this;exact(h i).calls w U u g n args v f j d
def PU(k o:List Sh)(g:zA (k.map Y)->zA (o.map Y)):ee (k.map Y):=λx h=>match h with
 |[]=>.ok (CB o (g x),[])
 |_=>.err
def ay(k o:List Sh)(g:zA (k.map Y)->zA (o.map Y)):zV:=au (k.map Y) (PU k o g)
theorem On{a:zA (o.map Y)->zA (b.map Y)}(h:ky P g k (ae o b (λ_=>Z) a)):ky P g k (ay o b a):=by
 refine na (ι:=Unit) (Gs:=λ_=>dJ o b (λ_=>Z) a) (λ_=>h) λx e d c=>⟨(),?_⟩
 unfold PU at c;unfold dJ;split at c
 .simpa[Tr.val]using c
 .simp at c
theorem z7{a:zA (o.map Y)->zA (b.map Y)}(d:zJ E.P k f (M o))
  (h:∀x,∀C:eS,(∀id,C.ρ0 id=Q2)->Reach E C k (aK f) (aC f.ntmps (gX (o.map Y) x) []) (λr h=>bc h b r=Y (a x))) (e:E.P=P:=by rfl) (q:E.gl=g:=by rfl):ky P g k (ay o b a):=by subst e q;exact On (aH d λx _ C c=>h x C c)
def Pu(o:List Sh):zM->Option (zA (o.map Y))
 |.ret v h=>bc h o v
 |_=>Q2
theorem Tr.sat_of_res{y:zA (o.map Y)}{u:K zM}(h:u.val.bind (Pu o)=Y y):u.Sat (ju E C fn (λr h=>bc h o r=Y y)):=by
 rw[fV]at h;have⟨l,a,x⟩:=h;refine Tr.sat_of_val a ?_;cases l with
 |ret v h=>exact x
 |head _ _ _=>cases x
 |fork _ _ _ _=>cases x
theorem aZ{y:zA (o.map Y)}(b:zm E)(c:zJ E.P k f n)(a:∀id,n0<=id->C.ρ0 id=Q2){z:Nat}
    {x:K zM} (d:run E n0 keep f.results.toList z t s=x) (h:x.val.bind (Pu o)=Y y):Reach E C k t s (λr h=>bc h o r=Y y):=by refine dN b c a keep z ?_;rw[d];exact Tr.sat_of_res h
theorem zg.eta:∀e:zg,zg.mk e.op e.v e.s e.l=e
 |.mk _ _ _ _=>rfl
structure IN (E E0:bS):Prop where
 p:E.P=E0.P
 g:E.gl=E0.gl
theorem IN.refl(E:bS):IN E E:=⟨rfl,rfl⟩
theorem IN.add{x:bS}(h:IN E x)(k:FuncId)(F:zV):IN (E.add k F) x:=⟨h.p,h.g⟩
abbrev zP(e:zg):zg:=.mk e.op e.v e.s e.l
theorem zt(e:zg):zP e=e:=zg.eta e
abbrev U0:Nat->Prop:=λ_=>False
abbrev jo:Nat->Option Value:=λ_=>Q2
abbrev kJ{H:Type}(d:DataW H):Nat:=Go.Proofs.YtgcekmmgphhofaaGreatDoor.Rows.uptoBulk d
abbrev sL{H:Type}(l:List (DataW H)):Nat:=Go.Proofs.YtgcekmmgphhofaaGreatDoor.Rows.uptoBulkAll l
def cN:(s:Sh)->N s->Nat
 |.unit,_=>0
 |.bool,_=>1
 |.int _,_=>1
 |.str,x=>M x+1
 |.sl e,l=>(List.map (cN e) l).sum+1
 |.pr a b,x=>cN a x.1+cN b x.2
 |.expr,_=>1
theorem oZ{H:Type}:∀l:List (DataW H),sL l=(l.map λd=>kJ d).sum
 |[]=>rfl
 | d::r=>by
  show kJ d+sL r=_;rw[oZ r,dc,List.sum_cons]
def Ts(P:Program)(h:TypeId->Sh->Bool):List Field->Nat->Sh->Bool
 |[],_,_=>J
 |[f],o,s=>f.offset==o&&(h f.type s&&P.cellsOf f.type==s.size)
 |f::fs,o,.pr a b=>f.offset==o&&(h f.type a&&(P.cellsOf f.type==a.size&&Ts P h fs (o+a.size) b))
 |_,_,_=>J
def qi(P:Program)(t:TypeId):Bool:=match P.underlying t with
 |some .string=>P.cellsOf t==1
 |_=>J
def Pq(P:Program)(t e:TypeId):Bool:=match P.underlying t with
 |some (.slice u)=>u==e&&P.cellsOf t==1
 |_=>J
def NZ(P:Program):Nat->TypeId->Sh->Bool
 |0,_,_=>J
 | n+1,t,s=>match P.underlying t,s with
  |some .bool,.bool=>Z
  |some (.int k),.int h=>k==h
  |some .string,.str=>Z
  |some (.slice e),.sl s=>P.cellsOf e==s.size&&(decide (0<s.size)&&NZ P n e s)
  | some (.struct fs),.expr=>match fs.toList with
   |[a,b,c,d]=>P.cellsOf t==6&&(a.offset==0&&(b.offset==1&&(c.offset==4&&(d.offset==5&&(qi P a.type&&(qi P c.type&&(Pq P d.type t&&(P.cellsOf b.type==3&&NZ P n b.type (.pr (.int .i64) (.pr (.int .i64) .str))))))))))
   |_=>J
  |some (.struct fs),.pr a b=>P.cellsOf t==(Sh.pr a b).size&&Ts P (NZ P n) fs.toList 0 (.pr a b)
  |_,_=>J
section
variable {H:Type} {enc:TypeId×Value->H} {P:Program} {w:World} {sp:Nat->Bool} {held:Bool}
def Got(w:World)(s:Sh)(c:List Value)(h:Nat):Prop:=∃x:N s,cu w U0 jo (zq s x) c/\(∀v∈c,v.oneCell'=Z)/\cN s x<=h
theorem dj{α β:Type}{f:α->Option β}{a:α}{l:List α}{r:List β}(h:(a::l).mapM f=Y r):∃y b,f a=Y y/\l.mapM f=Y b/\r=y::b:=by
 rw[List.mapM_cons]at h;cases c:f a with
 |none=>rw[c]at h;simp at h
 | some y=>
  cases x:l.mapM f with
  |none=>rw[c,x]at h;simp at h
  | some b=>
   rw[c,x]at h;simp at h;exact⟨y,b,rfl,rfl,h.symm⟩
theorem Kq{α β:Type}{f:α->Option β}:∀{l:List α}{r:List β},l.mapM f=Y r->∀x∈l,∃y,f x=Y y
 |[],_,_,_,b=>by simp at b
 | a::l,r,h,x,b=>by
  have⟨y,e,c,d,_⟩:=dj h;rcases bD.1 b with rfl|b
  .exact⟨y,c⟩
  .exact Kq d x b
theorem tM{α β:Type}{f:α->Option β}:∀{l:List α}{r:List β},l.mapM f=Y r->M r=M l/\∀(i:Nat) a,l[i]?=Y a->f a=r[i]?
 |[],r,h=>by simp at h;subst h;simp
 | a::l,r,h=>by
  obtain⟨y,j,c,d,rfl⟩:=dj h;have⟨e,g⟩:=tM d;refine⟨by simp[e],λi b x=>?_⟩;cases i with
  |zero=>simp at x;subst x;simpa using c
  |succ i=>simpa using g i b (by simpa using x)
theorem IR(a:Addr)(h:a.spot=Q2)(n:Nat):a.add n=⟨a.block,a.off+n,Q2⟩:=by
 have⟨b,o,s⟩:=a;simp only at h;subst h;unfold Addr.add;split
 next h=>subst h;rfl
 .rfl
variable {c:List Value}
theorem cu.take{cs:List R}(h:cu w U0 jo cs c)(n:Nat):cu w U0 jo (cs.take n) (c.take n):=by
 refine⟨by simp[h.len],λj x v a b=>?_⟩;rw[List.getElem?_take]at a b;split at a
 next d=>rw[zf d]at b;exact h.rv j x v a b
 .cases a
theorem cu.appS{e b:List R}{y:List Value}(h:cu w U0 jo e c)(g:cu w U0 jo b y):cu w U0 jo (e++b) (c++y):=by
 refine⟨by simp[h.len,g.len],λj x v a d=>?_⟩;by_cases i:j<M e
 .rw[qQ i]at a;rw[qQ (by rw[<-h.len];exact i)]at d;exact h.rv j x v a d
 .rw[nf S]at a;rw[nf (by rw[<-h.len];omega),<-h.len]at d;exact g.rv _ x v a d
theorem cu.one{c:R}{v:Value}(h:Rv w U0 jo c v):cu w U0 jo [c] [v]:=by
 refine⟨rfl,λj d u x a=>?_⟩;cases j with
 |zero=>simp at x a;subst x;subst a;exact h
 |succ j=>simp at x
theorem Bo{n:Nat}{e:TypeId->Sh->Bool}(u:∀t s c d ps,e t s=Z->DataW.trod enc P w 0 sp held n t c=Y (d,ps)->Got w s c (kJ d)){c:List Value}:
  ∀(C:List Field)(o:Nat)(s:Sh) l,Ts P e C o s=Z->(C.mapM λf=>DataW.trod enc P w 0 sp held n f.type ((c.drop f.offset).take (P.cellsOf f.type)))=Y l->Got w s ((c.drop o).take s.size) (sL (l.map (·.1)))
 |[],_,_,_,h,_=>by simp[Ts]at h
 | [f],o,s,l,h,z=>by
  simp only[Ts,ar,be]at h;have⟨m,p,q⟩:=h;obtain⟨y,G,j,_,rfl⟩:=dj z;rw[m,q]at j;have⟨x,k1,k2,k3⟩:=u _ _ _ _ _ p j;exact⟨x,k1,k2,aB k3 (Nat.le_add_right _ _)⟩
 | f::g::fs,o,.pr a b,l,h,z=>by
  simp only[Ts,ar,be]at h;have⟨m,p,q,h4⟩:=h;obtain⟨y,G,j,A,rfl⟩:=dj z;rw[m,q]at j;have⟨E,D,o1,U⟩:=u _ _ _ _ _ p j;have⟨F,r2,o2,b2⟩:=Bo u (g::fs) (o+a.size) b G h4 A;have h0:((c.drop o).take a.size).length=a.size:=by rw[<-D.len,zS]
  have i:(c.drop o).take (a.size+b.size)=(c.drop o).take a.size++(c.drop (o+a.size)).take b.size:=by
   rw[List.take_add,List.drop_drop]
  refine⟨(E,F),?_,?_,Nat.add_le_add U b2⟩
  .show cu w U0 jo (zq a E++zq b F) ((c.drop o).take (a.size+b.size));rw[i];exact D.appS r2
  .intro v k;have k:v∈(c.drop o).take (a.size+b.size):=k;rw[i,bX]at k;exact k.elim (o1 v) (o2 v)
 |_::_::_,_,.unit,_,h,_=>by simp[Ts]at h
 |_::_::_,_,.bool,_,h,_=>by simp[Ts]at h
 |_::_::_,_,.int _,_,h,_=>by simp[Ts]at h
 |_::_::_,_,.str,_,h,_=>by simp[Ts]at h
 |_::_::_,_,.sl _,_,h,_=>by simp[Ts]at h
 |_::_::_,_,.expr,_,h,_=>by simp[Ts]at h
variable {n:Nat}{a v:TypeId}{i:DataW H}{p:List MemPlace}
theorem FC{s:Sh}(ht:P.underlying a=Q1 (.slice v))(hc:P.cellsOf v=s.size)(G:0<s.size)
  (hT:∀c i p,DataW.trod enc P w 0 sp held n v c=Y (i,p)->Got w s c (kJ i))    (h:DataW.trod enc P w 0 sp held (n+1) a c=Y (i,p)):Got w (.sl s) c (kJ i):=by
 unfold DataW.trod at h;rw[ht]at h;split at h
 all_goals first
  |(rename_i hu;cases hu;done)
  |(rename_i hu _;cases hu;done)
  |(simp at h;done)
  |skip
 next hu=>cases hu;simp only[ax,cz]at h;obtain⟨rfl,_⟩:=h;exact⟨[],cu.one (.sl0 s Q2 0),by simp[Value.oneCell'],zK _⟩
 .rename_i d o h5 hu;cases hu;simp only[zU,true_and]at h;split at h
  .rename_i x7;rw[fV]at h;have⟨m,he,hd⟩:=h;rw[dG]at hd;have⟨U,_,hd⟩:=hd;simp only[cz]at hd;obtain⟨rfl,_⟩:=hd;have⟨h9,x8⟩:=tM he;rw[List.length_range]at h9;have h7:∀g,∃x:N s,g<o->(∃t,w.cells? 0 (d.add (g*s.size)) s.size=Y t/\cu w U0 jo (zq s x) t)/\∀y,m[g]?=Y y->cN s x<=kJ y.1:=by
    intro g;by_cases E:g<o
    .have⟨y,hy⟩:=Kq he g (by simpa using E);have x2:=x8 g g (by rw[ly E]);rw[hy]at x2;rw[fV]at hy;have⟨t,u,A⟩:=hy;have⟨x,hx,_,x5⟩:=hT t y.1 y.2 A;rw[hc]at u;exact⟨x,λ_=>⟨⟨t,u,hx⟩,λz hz=>by rw[<-x2]at hz;cases hz;exact x5⟩⟩
    .exact⟨zk s,λh=>(E h).elim⟩
   have⟨k,hX⟩:=Classical.axiomOfChoice h7;have a0:maxLen=af:=rfl;cases o with
   |zero=>exact⟨[],cu.one (.sl0 s (Y d) h5),by simp[Value.oneCell'],Nat.le_add_left _ _⟩
   | succ o=>
    have C:∀g,g<o+1->∃t,M t=s.size/\(∀j,j<s.size->w.cell? ((d.add (g*s.size)).add j)=t[j]?)/\cu w U0 jo (zq s (k g)) t:=by
     intro g E;have⟨⟨t,u,A⟩,_⟩:=hX g E;unfold World.cells? at u;rw[zf (zU _)]at u;have⟨h3,h4⟩:=tM u;refine⟨t,by simpa using h3,λj F=>?_,A⟩;exact h4 j j (by simp[F])
    have D:d.spot=Q2:=by
     have⟨t,u,A,_⟩:=C 0 S;have:=A 0 G;simp only[Nat.zero_mul,Addr.add,zj]at this;rw[zQ S]at this;unfold World.cell? at this;split at this
     .split at this
      .cases this
      .rename_i hs;cases x9:d.spot with
       |none=>rfl
       |some q=>rw[x9]at hs;simp at hs
     .cases this
    have h8:d.block<w.heap.size:=by
     have⟨t,u,A,_⟩:=C 0 S;have:=A 0 G;simp only[Nat.zero_mul,Addr.add,zj]at this;rw[zQ S]at this;have ha:d=⟨d.block,d.off,Q2⟩:=by rw[<-D]
     rw[ha]at this;exact gE this
    have x6:∀g,∃t:List Value,g<o+1->M t=s.size/\(∀j,j<s.size->w.cell? ⟨d.block,d.off+g*s.size+j,Q2⟩=t[j]?)/\cu w U0 jo (zq s (k g)) t:=by
     intro g;by_cases E:g<o+1
     .have⟨t,u,A,h3⟩:=C g E;refine⟨t,λ_=>⟨u,λj F=>?_,h3⟩⟩;rw[<-A j F,IR d D,IR _ rfl]
     .exact⟨[],λh=>(E h).elim⟩
    have⟨Cs,h6⟩:=Classical.axiomOfChoice x6;let l:List (N s):=(List.range (o+1)).map k
    have hl:M l=o+1:=by simp[l]
    have x0:∀g(E:g<M l),l[g]=k g:=by intro g E;simp[l]
    have x4:cN (.sl s) l<=kJ (DataW.slice (m.map (·.1)) (U.map (·.1))):=by
     have e1:(List.map (cN s) l).sum<=sL (m.map (·.1)):=by
      rw[oZ,hZ];have vv:∀(d b:List Nat),Io d=Io b->(∀g(u:g<Io d)(A:g<Io b),d[g]<=b[g])->d.sum<=b.sum:=λd=>by
       induction d with
       |nil=>intro b _ _;simp
       | cons x d ih=>
        intro b hl x1;cases b with
        |nil=>simp at hl
        | cons y b=>
         rw[List.sum_cons,List.sum_cons];exact Nat.add_le_add (x1 0 sw sw) (ih b (by simpa using hl) λg u A=>x1 (g+1) (by simpa using u) (by simpa using A))
      refine vv _ _ (by simp[h9]) λg u A=>?_
      have a1:g<o+1:=by simpa using u
      have x3:g<M m:=by simpa using A
      rw[List.getElem_map,List.getElem_map];simp only[Function.comp,List.getElem_range,List.getElem_map];exact(hX g S).2 _ (zQ x3)
     show(List.map (cN s) l).sum+1<=sL (m.map (·.1))+sL (U.map (·.1))+1;omega
    refine⟨l,cu.one ?_,by simp[Value.oneCell'],x4⟩;have ha:d=⟨d.block,d.off,Q2⟩:=by rw[<-D]
    rw[ha,<-hl];refine .sl s l d.block d.off h5 (λg j=>((Cs g)[j]?).getD undef) S S h8 (λh=>h) ?_ ?_
    .intro g j E F;have⟨u,A,_⟩:=h6 g S;rw[A j F,zQ S];rfl
    .intro g E j e h0;have⟨u,_,h3⟩:=h6 g S;rw[x0 g E]at h0;have F:j<(Cs g).length:=by
      have:=(cQ.1 h0).1;rw[h3.len]at this;exact this
     have:=h3.rv j e _ h0 (zQ F);rw[zQ F];exact this
  .cases h
theorem HZ(b:P.underlying a=Y .string)(h:DataW.trod enc P w 0 sp held n a c=Y (i,p)):Got w .str c (kJ i):=by
 cases n with
 |zero=>simp[DataW.trod]at h
 | succ n=>
  unfold DataW.trod at h;rw[b]at h;split at h
  all_goals first
   |(rename_i x;cases x;done)
   |(rename_i x _;cases x;done)
   |(simp at h;done)
   |skip
  rename_i s x;split at h
  next g=>simp only[ax,cz]at h;obtain⟨rfl,_⟩:=h;refine⟨s.data.toList,cu.one ?_,by simp[Value.oneCell'],zK _⟩;have e:maxLen=af:=rfl;have d:s.size=s.data.toList.length:=rfl;exact .str s.data.toList S
  .cases h
theorem BF(h:qi P a=Z):P.underlying a=Y .string/\P.cellsOf a=1:=by
 unfold qi at h;split at h
 next x=>exact⟨x,by simpa using h⟩
 .cases h
theorem Wa(h:Pq P a v=Z):P.underlying a=Y (.slice v)/\P.cellsOf a=1:=by
 unfold Pq at h;split at h
 next u x=>simp only[ar,be]at h;rw[<-h.1];exact⟨x,h.2⟩
 .cases h
theorem pO:∀(g n:Nat)(t:TypeId)(s:Sh)(l:List Value)(d:DataW H)(A:List MemPlace),NZ P n t s=Z->DataW.trod enc P w 0 sp held g t l=Y (d,A)->Got w s l (kJ d)
 |0,_,_,_,_,_,_,_,h=>by simp[DataW.trod]at h
 |g+1,0,_,_,_,_,_,i,_=>by simp[NZ]at i
 | g+1,n+1,t,s,l,d,A,i,h=>by
  have h0:=h;unfold NZ at i;split at i
  .rename_i o;unfold DataW.trod at h;rw[o]at h;split at h
   all_goals first
    |(rename_i j;cases j;done)
    |(rename_i j _;cases j;done)
    |(simp at h;done)
    |skip
   simp only[ax,cz]at h;obtain⟨rfl,_⟩:=h;exact⟨_,cu.one (.bool _),by simp[Value.oneCell'],zK _⟩
  .rename_i k k' o;have hk:k=k':=by simpa using i
   subst hk;unfold DataW.trod at h;rw[o]at h;split at h
   all_goals first
    |(rename_i j;cases j;done)
    |(rename_i j _;cases j;done)
    |(simp at h;done)
    |skip
   rename_i k1 k2 m j;cases j;split at h
   next G=>obtain⟨rfl,G⟩:=G;simp only[Lit.wf,ar,aT]at G;simp only[ax,cz]at h;obtain⟨rfl,_⟩:=h;exact⟨m,cu.one (.int _ _ ⟨G.1,G.2⟩),by simp[Value.oneCell'],zK _⟩
   .cases h
  next o=>exact HZ o h
  next e s o=>simp only[ar,be,aT]at i;exact FC o i.1 i.2.1 (λl d A h=>pO g n e s l d A i.q h) h
  .rename_i fs o;split at i
   .rename_i a b c d' F;simp only[ar,be]at i;have⟨C,ha,hb,hc,hd,sa,sc,sd,zb,tb⟩:=i;have⟨sa,za⟩:=BF sa;have⟨sc,zc⟩:=BF sc;have⟨sd,zd⟩:=Wa sd;unfold DataW.trod at h;rw[o]at h;simp only at h;split at h
    .rename_i u;rw[dG]at h;have⟨xs,y,p⟩:=h;simp only[cz]at p;obtain⟨rfl,_⟩:=p;rw[F]at y;have⟨ya,r1,U,y,_⟩:=dj y;have⟨yb,r2,h3,y,_⟩:=dj y;have⟨yc,r3,h4,y,_⟩:=dj y;have⟨yd,r4,D,y,_⟩:=dj y;rw[ha,za]at U;rw[hb,zb]at h3;rw[hc,zc]at h4;rw[hd,zd]at D;have⟨xa,ga,oa,_⟩:=HZ sa U;have⟨xb,gb,ob,_⟩:=pO g n b.type _ _ _ _ tb h3;have⟨xc,gc,oc,_⟩:=HZ sc h4;have h5:Got w (.sl .expr) ((l.drop 5).take 1) (kJ yd.1):=by
      cases g with
      |zero=>simp[DataW.trod]at D
      | succ g=>
       refine FC sd (by rw[C];rfl) (by decide) (λl d A h=>pO g (n+1) t .expr l d A ?_ h) D;unfold NZ;rw[o];simp only[F,ar,be];refine⟨C,ha,hb,hc,hd,?_,?_,?_,zb,tb⟩
       .simp[qi,sa,za]
       .simp[qi,sc,zc]
       .simp[Pq,sd,zd]
     have⟨xd,gd,od,_⟩:=h5;have h6:M l=6:=by rw[u,C]
     have E:l=(l.drop 0).take 1++((l.drop 1).take 3++((l.drop 4).take 1++(l.drop 5).take 1)):=by
      match l,h6 with
      |[v0,v1,v2,v3,v4,v5],_=>rfl
     refine⟨zg.mk xa xb xc xd,?_,?_,Nat.le_add_left _ _⟩
     .have hr:=ga.appS (gb.appS (gc.appS gd));rw[<-E]at hr;exact hr
     .intro v z;rw[E]at z;simp only[bX]at z;rcases z with z|z|z|z
      .exact oa v z
      .exact ob v z
      .exact oc v z
      .exact od v z
    .cases h
   .cases i
  .rename_i fs a b o;simp only[ar,be]at i;unfold DataW.trod at h;rw[o]at h;simp only at h;split at h
   next u=>rw[dG]at h;have⟨xs,y,p⟩:=h;simp only[cz]at p;obtain⟨rfl,_⟩:=p;have:=Bo (λt s l d A h1 h2=>pO g n t s l d A h1 h2) fs.toList 0 (.pr a b) xs i.2 y;rw[List.drop_zero,List.take_of_length_le (by rw[u,i.1];exact zK _)]at this;have⟨x,k1,k2,k3⟩:=this;exact⟨x,k1,k2,aB k3 (Nat.le_add_right _ _)⟩
   .cases h
  .cases i
termination_by g=>g
theorem yn{s:Sh}{y:Value}(l:NZ P n a s=Z)(h:DataW.Trod enc P w 0 sp held a y i p)(e:(∃j,y=.agg j)↔s.isAgg=Z)(k:s.isAgg=J->y.cells=#[y]):∃x:N s,Rv w U0 jo (zI s x) y/\cN s x<=kJ i:=by
 have⟨d,h⟩:=h;have⟨x,b,t,o⟩:=pO d n a s _ i p l h;refine⟨x,?_,o⟩;unfold zI;cases m:s.isAgg with
 | true=>
  obtain⟨j,rfl⟩:=e.2 m;simp only;have:=Rv.agg (w:=w) (U:=U0) (ρ:=jo) (zq s x) j.toList b.len t b.rv;simpa using this
 | false=>
  simp only;rw[k m]at b;have g:=b.len
  match q:zq s x,g with
  | [c],_=>
   rw[q]at b;exact b.rv 0 c y rfl rfl
end
open Go Go.Proofs
theorem Reach.len(j:Nat)(e:Sh)(l:List (N e))(d:s.tmps[j]?=Y (.sl e l))(h:M l<=af->Reach E C fn t s Q):Reach E C fn t s Q:=by
 intro b g a w U o i k x m;refine h ?_ b g a w U o i k x m;have c:j<a.tmps.toList.length:=by rw[<-x.tm.len];exact(cQ.1 d).1
 have:=x.tm.rv j _ _ d (zQ c);generalize a.tmps.toList[j]=v at this;cases this with
 |sl0=>simp
 |sl _ _ _ _ _ _ _ n=>exact n
theorem zz(i:Nat)(h:i<af):Γ Δ (↑i+1)=((i+1:Nat):Int):=by have:af=9223372036854775807:=rfl;rw[lz];omega
theorem bt{α:Type}(l:List α)(d:α)(h:n<M l):l.getD (n:Int).toNat d=l[n]:=by simp[h]
def aj{α:Type}(p:α->Bool):List α->Nat->Int
 |[],_=>-1
 |x::r,i=>if p x then i else aj p r (i+1)
def Gt:bS:=(zgN.aut 265 f265 2).aut 372 f372 2
theorem pb:zm Gt:=by refine ib (ib UH ?_) ?_<;>(refine⟨?_,?_,?_,?_⟩<;>kernel_rfl)
abbrev Kh:Nat->aR:=λ_=>{slots:=[0,1,7,8]}
theorem W8:zJ Gt.P 264 f264 2:=bG kw
abbrev Ad(l:aU)(s:zD)(i:Int):St:={
    tmps:=
     (tm 19 [(0,O (Sh.str.pr ((Sh.int IntKind.i64).pr Sh.bool)) l),(1,AV.clo (Fn.func 265) [] [ptr 0 0]),(7,I ↑l.length),(8,I i)]),
    heap:=[AO.box [X s]]}
theorem Z5(l:aU)(s:zD):run Gt 1 Kh f264.results.toList 300 (aK f264) (aC f264.ntmps [.sl zu l,.clo (.func 265) [] [.ptr 0 0]] [.box [.str s]])=.ok (.head 2 (zZ f264 2) (Ad l s 0)):=kw
theorem zaW(l:aU)(s:zD)(i:Int):run Gt 1 Kh f264.results.toList 300 (zZ f264 2) (Ad l s i)=
 br (decide (i<↑l.length))
  (chk (zT i (M l))
   (br ((l.getD i.toNat (zk (Sh.str.pr ((Sh.int IntKind.i64).pr Sh.bool)))).1==s)
    (Tr.ok (zM.ret (I i) [AO.box [X s]]))
    (Tr.ok (zM.head 2 (zZ f264 2) (Ad l s (Γ Δ (i+1)))))))
  (Tr.ok (zM.ret (I (-1)) [AO.box [X s]])):=kw
theorem Oz{C:eS}(b:∀id,1<=id->C.ρ0 id=Q2)(l:aU)(s:zD)(d:M l<=af):∀(n i:Nat),M l-i=n->i<=M l->
  Reach Gt C 264 (zZ f264 2) (Ad l s i) (λr h=>(r,h)=(.int .i64 (aj (λc=>c.1==s) (l.drop i) i),[.box [.str s]]))
 | n,i,e,g=>by
  subst e;refine dN pb W8 b Kh 300 ?_;rw[zaW];refine⟨λh=>⟨?_,λa=>?_,λa=>?_⟩,λh=>?_⟩
  .simp only[aT]at h;simp[zT];omega
  .simp only[aT]at h;have x:i<M l:=by omega
   rw[bt l _ x]at a;rw[mj x];simp only[aj];rw[zf a];rfl
  .simp only[aT]at h;have x:i<M l:=by omega
   rw[bt l _ x]at a;rw[mj x];simp only[aj];rw[zh (by rw[a];simp),zz i S];exact Oz b l s d (M l-(i+1)) (i+1) rfl S
  .simp only[ef]at h;rw[List.drop_eq_nil_of_le S];rfl
 termination_by n=>n
abbrev Ae(l:aU)(s:zD)(i:Int):St:={
    tmps:=
     (tm 19 [(0,O (Sh.str.pr ((Sh.int IntKind.i64).pr Sh.bool)) l),(1,AV.clo (Fn.func 372) [] [ptr 0 0]),(7,I ↑l.length),(8,I i)]),
    heap:=[AO.box [X s]]}
theorem Z6(l:aU)(s:zD):run Gt 1 Kh f264.results.toList 300 (aK f264) (aC f264.ntmps [.sl zu l,.clo (.func 372) [] [.ptr 0 0]] [.box [.str s]])=.ok (.head 2 (zZ f264 2) (Ae l s 0)):=kw
theorem zaX(l:aU)(s:zD)(i:Int):run Gt 1 Kh f264.results.toList 300 (zZ f264 2) (Ae l s i)=
 br (decide (i<↑l.length))
  (chk (zT i (M l))
   (br ((l.getD i.toNat (zk (Sh.str.pr ((Sh.int IntKind.i64).pr Sh.bool)))).1==s)
    (Tr.ok (zM.ret (I i) [AO.box [X s]]))
    (Tr.ok (zM.head 2 (zZ f264 2) (Ae l s (Γ Δ (i+1)))))))
  (Tr.ok (zM.ret (I (-1)) [AO.box [X s]])):=kw
theorem OA{C:eS}(b:∀id,1<=id->C.ρ0 id=Q2)(l:aU)(s:zD)(d:M l<=af):∀(n i:Nat),M l-i=n->i<=M l->
  Reach Gt C 264 (zZ f264 2) (Ae l s i) (λr h=>(r,h)=(.int .i64 (aj (λc=>c.1==s) (l.drop i) i),[.box [.str s]]))
 | n,i,e,g=>by
  subst e;refine dN pb W8 b Kh 300 ?_;rw[zaX];refine⟨λh=>⟨?_,λa=>?_,λa=>?_⟩,λh=>?_⟩
  .simp only[aT]at h;simp[zT];omega
  .simp only[aT]at h;have x:i<M l:=by omega
   rw[bt l _ x]at a;rw[mj x];simp only[aj];rw[zf a];rfl
  .simp only[aT]at h;have x:i<M l:=by omega
   rw[bt l _ x]at a;rw[mj x];simp only[aj];rw[zh (by rw[a];simp),zz i S];exact OA b l s d (M l-(i+1)) (i+1) rfl S
  .simp only[ef]at h;rw[List.drop_eq_nil_of_le S];rfl
 termination_by n=>n
def G27:ee [Y (.sl zu),Q2]:=λx h=>match x,h with
 |(l,.clo (.func 265) [] [.ptr 0 0],_),[.box [.str s]]=>.ok (.int .i64 (aj (λc=>c.1==s) l 0),[.box [.str s]])
 |(l,.clo (.func 372) [] [.ptr 0 0],_),[.box [.str s]]=>.ok (.int .i64 (aj (λc=>c.1==s) l 0),[.box [.str s]])
 |_,_=>.err
theorem zlj:FK 264 (au [Y (.sl zu),Q2] G27):=by
 refine cP W8 λx d c h C a=>?_
 unfold G27 at h;split at h
 .simp only[Tr.val_ok,ax]at h;subst h;rename_i _ _ l u s;refine Reach.len 0 zu l rfl λb=>?_
  have e:gX [Y (.sl zu),Q2] (l,.clo (.func 265) [] [.ptr 0 0],u)=[.sl zu l,.clo (.func 265) [] [.ptr 0 0]]:=rfl;rw[e];refine dN (n0:=1) pb W8 a Kh 300 ?_;rw[Z5];exact Oz a l s b _ 0 rfl S
 .simp only[Tr.val_ok,ax]at h;subst h;rename_i _ _ l u s;refine Reach.len 0 zu l rfl λb=>?_
  have e:gX [Y (.sl zu),Q2] (l,.clo (.func 372) [] [.ptr 0 0],u)=[.sl zu l,.clo (.func 372) [] [.ptr 0 0]]:=rfl;rw[e];refine dN (n0:=1) pb W8 a Kh 300 ?_;rw[Z6];exact OA a l s b _ 0 rfl S
 .simp at h
def UY:bS:=Gt.add 264 (au [Y (.sl zu),Q2] G27)
theorem AZ:zm UY:=pb.add zlj
def zm6:bS:=(UY.add 205 (au [Y zN,Y .str] (eJ UY f205 [Y zN,Y .str]))).add 329 (au [Y (.sl zu),Y .str] (eJ UY f329 [Y (.sl zu),Y .str]))
theorem U6:zm zm6:=by refine(AZ.add (bM _ AZ ?_)).add (bM (E:=UY) _ AZ ?_)<;>(refine⟨?_,?_,?_,?_⟩<;>kernel_rfl)
end
end Cad
