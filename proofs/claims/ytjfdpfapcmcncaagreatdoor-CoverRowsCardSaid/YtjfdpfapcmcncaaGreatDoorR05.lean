/- The program's environment. -/
import Derived.Test.YtjfdpfapcmcncaaGreatDoorR04
import Derived.Test.YtjfdpfapcmcncaaGreatDoorProg
import Derived.Carry
import Derived.ChangeSame
import Derived.RangeFuncNested
import Derived.RangeFuncBound
import Derived.RangeFuncCalls
import Derived.RangeFuncLeaves
import Derived.Shelf.Abstract
import Derived.OwnWalkIn
import Derived.TacticsInMore
import Derived.LoopNIn
import Derived.LoopIn
import Derived.RangeFuncBox
import Derived.Maps.AppendAt
namespace Cad
open Go
open List renaming length→Io
open IntKind renaming wrap→Γ,i64→Δ
open Bool renaming false→Q4,true→Q3
open Option renaming none→Q2,some→Q1
open Tr (chk br)
open AV (nils agg tup ptr kb str sl)
abbrev zg:Sh:=.int .i64
abbrev ze:Sh:=.pr (.int .i64) (.pr (.int .i64) .str)
abbrev zj:Sh:=.pr .str (.pr (.int .i64) .bool)
abbrev zp:Sh:=.pr (.int .i64) .str
abbrev zo:Sh:=.pr .str (.pr (.sl zj) (.pr (.int .i64) (.pr (.sl (.int .i64)) (.pr (.sl zp) .expr))))
abbrev zh:Sh:=.pr zo (.sl (.sl ze))
def ziE:Nat->Option Sh
 |3=>Q1 (.int .i64)
 |27=>Q1 ze
 |30=>Q1 .expr
 |88=>Q1 zj
 |112=>Q1 zp
 |9=>Q1 .str
 |5=>Q1 (.int .u8)
 |198=>Q1 (.pr (.int .i64) .str)
 |99=>Q1 (.pr .str .str)
 |101=>Q1 (.pr .str .expr)
 |31=>Q1 (.sl ze)
 |47=>Q1 (zh)
 |_=>Q2
abbrev mB:List Int:=[1,10,100,1000,10000,100000,1000000,10000000,100000000,1000000000,10000000000,100000000000,1000000000000,10000000000000,100000000000000,1000000000000000,10000000000000000,100000000000000000,1000000000000000000,10000000000000000000]
def Dq:Nat->AV
 |0=>.gint
 |1=>.eptr [.str Cy,.str Cz,.str Cx] 0
 |5=>.tab .u64 mB
 |_=>.any
abbrev FK(k:FuncId)(F:zZ):Prop:=pn Go.Proofs.Tryz.prog Dq k F
noncomputable def zau:bZ:={P:=Go.Proofs.Tryz.prog,sh:=ziE,gl:=Dq,F:=λ_=>Q2}
def bZ.add(E:bZ)(k:FuncId)(F:zZ):bZ:={E with F:=λj=>if j=k then Q1 F else E.F j}
theorem zw.add{E:bZ}{k:FuncId}{F:zZ}(h:zw E)(z:pn E.P E.gl k F):zw (E.add k F) where
 sh:=h.sh
 fs:=λj u o=>by
  simp only[bZ.add]at o;split at o
  ·rename_i e;cases o;rw[e];exact z
  ·exact h.fs j u o
 mix:=h.mix
def P5:List (Nat×zZ)->Nat->Option zZ->Option zZ
 |[],_,d=>d
 |p::r,j,d=>if j=p.1 then Q1 p.2 else P5 r j d
def bZ.addL(E:bZ)(l:List (Nat×zZ)):bZ:={E with F:=λj=>P5 l j (E.F j)}
def TV(P:Program)(h:Nat->AV):List (Nat×zZ)->Prop
 |[]=>True
 |p::r=>pn P h p.1 p.2/\TV P h r
theorem iz{P:Program}{h:Nat->AV}:TV P h []:=trivial
theorem fc{P:Program}{o:Nat->AV}{k:Nat}{F:zZ}{r:List (Nat×zZ)}(h:pn P o k F)(t:TV P o r):TV P o ((k,F)::r):=⟨h,t⟩
theorem zw.addL{E:bZ}(h:zw E){l:List (Nat×zZ)}(u:TV E.P E.gl l):zw (E.addL l) where
 sh:=h.sh
 fs:=by
  intro k F;show P5 l k (E.F k)=Q1 F->pn E.P E.gl k F
  induction l with
  |nil=>exact h.fs k F
  | cons p r z=>
   intro o;rw[P5]at o;split at o
   ·rename_i e;cases o;rw[e];exact u.1
   ·exact z u.2 o
 mix:=h.mix
def ls(h:Nat):Nat->Code->List Item->Option (List Item)
 |0,_,_=>Q2
 | n+1,c,k=>match c with
  | .seq a b=>match ls h n a (.code b::k) with
   |some r=>Q1 r
   |none=>ls h n b k
  | .cond _ a b=>match ls h n a k with
   |some r=>Q1 r
   |none=>ls h n b k
  |.block id c=>ls h n c (.inBlock id::k)
  |.loop c=>if eG c=h then Q1 (.code c::.inLoop c::k)else ls h n c (.inLoop c::k)
  |.region id _ _=>if id+500000=h then Q1 k else Q2
  |_=>Q2
def aj(f:Func)(h:Nat):List Item:=match f.body with
 |some c=>(ls h 1000 c []).getD []
 |none=>[]
def bC(f:Func):List Item:=match f.body with
 |some c=>[.code c]
 |none=>[]
theorem zh2:zau.P.follows .mixedOrders=Q3:=kw
def unr:Nat->aN:=λ_=>{unroll:=Q3}
def fA(E:bZ)(f:Func)(ks:List (Option Sh)):iU ks:=λx h=>
 (run E (Io h) unr f.results.toList 4000 (bC f) (bl f.ntmps (jB ks x) h)).bind λ
  |.ret v o=>.ok (v,o)
  |_=>.err
theorem Tr.sat_of_val{α:Type}{Φ:α->Prop}:∀{t:Tr α}{a:α},t.val=Q1 a->Φ a->t.Sat Φ
 |.err,_,h,_=>by simp at h
 | .chk c t,a,h,o=>by
  cases c
  ·simp[Tr.val]at h
  ·exact⟨rfl,sat_of_val (t:=t) (by simpa[Tr.val]using h) o⟩
 | .br c t f,a,h,o=>by
  cases c
  ·exact⟨λh=>(by cases h),λ_=>sat_of_val (t:=f) (by simpa[Tr.val]using h) o⟩
  ·exact⟨λ_=>sat_of_val (t:=t) (by simpa[Tr.val]using h) o,λh=>(by cases h)⟩
 |.ok b,a,h,o=>by simp[Tr.val]at h;subst h;exact o
def zO(P:Program)(k:FuncId)(f:Func)(n:Nat):Prop:=P.funcs[k]?=Q1 f/\(f.name=="runtime.NumGoroutine")=Q4/\f.body.isNone=Q4/\decide (n<=f.ntmps)=Q3
theorem bU{P:Program}{k:FuncId}{f:Func}{n:Nat}(h:(P.funcs[k]?,f.name=="runtime.NumGoroutine",f.body.isNone,decide (n<=f.ntmps))=(Q1 f,Q4,Q4,Q3)):zO P k f n:=by
 simp only[cF]at h;exact⟨h.1,h.2.1,h.2.2.1,h.2.2.2⟩
theorem tE:∀(ks:List (Option Sh))(x:zz ks),(jB ks x).length=Io ks
 |[],_=>rfl
 |some _::ks,x=>by simp[jB,tE ks x.2]
 |none::ks,x=>by simp[jB,tE ks x.2]
theorem dF{E:bZ}{C:ff}{k:FuncId}{f:Func}{Q:AV->List AO->Prop}{n n0:Nat}(B:zw E)(D:zO E.P k f n)(z:∀id,n0<=id->C.ρ0 id=Q2)(keep:Nat->aN)(o:Nat)
  {u:List Item} {st:St} (h:(run E n0 keep f.results.toList o u st).Sat (kc E C k Q)):Reach E C k u st Q:=
 HN B D.1 z rfl o _ _ h
theorem ZX{E:bZ}{k:FuncId}{f:Func}{Q:AV->List AO->Prop}{args:List AV}{o:List AO}(J:zO E.P k f (Io args))
  (h:∀C:ff,(∀id,Io o<=id->C.ρ0 id=Q2)->Reach E C k (bC f) (bl f.ntmps args o) Q):YH E k args o Q:=by
 obtain⟨B,D,z,G⟩:=J;cases u:f.body with
 |none=>rw[u]at z;cases z
 | some c=>
  refine⟨f,c,B,u,D,lZ G,λC I=>?_⟩;have:=h C I;simpa[bC,u]using this
theorem dX{P:Program}{B:Nat->AV}{E:bZ}{k:FuncId}{f:Func}{ks:List (Option Sh)}{G:iU ks}(z:zO E.P k f (Io ks))
  (h:∀x u o,(G x u).val=Q1 o->∀C:ff,(∀id,Io u<=id->C.ρ0 id=Q2)->Reach E C k (bC f) (bl f.ntmps (jB ks x) u) (λr h=>(r,h)=o)) (J:E.P=P:=by rfl) (I:E.gl=B:=by rfl):pn P B k (bp ks G):=by
 subst J I;exact TY ⟨f,z.1,z.2.1,z.2.2.1⟩ λx u o D=>ZX (by rw[tE];exact z) (h x u o D)
theorem ch{P:Program}{u:Nat->AV}{E:bZ}{k:FuncId}{f:Func}(ks:List (Option Sh))(D:zw E)(z:zO E.P k f (Io ks))(J:E.P=P:=by rfl)(I:E.gl=u:=by rfl):pn P u k (bp ks (fA E f ks)):=by
 subst J I;refine dX z λx O L o C B=>dF D z B unr 4000 ?_
 unfold fA at o;simp only[Tr.val_bind,gq]at o;obtain⟨l,G,h⟩:=o;refine Tr.sat_of_val G ?_;cases l with
 |ret v M=>simp at h;exact h
 |head _ _ _=>simp at h
 |fork _ _ _ _=>simp at h
def zep(P:Program)(t:TypeId)(e:Sh):Bool:=match P.info? t with
 |some i=>i.size==e.size&&decide (0<e.size)&&decide (i.bytes<=131072)&&(match i.zero with|some z=>z.cells.size==i.size|none=>Q4)
 |none=>Q4
theorem MV{P:Program}{t:TypeId}{e:Sh}(h:zep P t e=Q3):∃i z,P.info? t=Q1 i/\i.size=e.size/\0<e.size/\i.bytes<=131072/\i.zero=Q1 z/\z.cells.size=i.size:=by
 unfold zep at h;split at h
 ·rename_i i D;simp only[aE,aQ,bh]at h;obtain⟨⟨⟨u,B⟩,C⟩,o⟩:=h;split at o
  ·rename_i z E;exact⟨i,z,D,u,B,C,E,by simpa using o⟩
  ·cases o
 ·cases h
theorem uY:zw zau where
 sh:=by
  intro t e h;have o:ziE t=Q1 e:=h;unfold ziE at o;split at o
  all_goals first
   |(cases o;exact MV kw)
   |cases o
 fs:=by intro k F h;cases h
 mix:=zh2
abbrev rn(E:bZ)(n:Nat)(o:Nat->aN)(f:Func)(a:List AV)(h:List AO):Tr zG:=run E n o (Func.results f).toList 400 (bC f) (bl (Func.ntmps f) a h)
abbrev rh(E:bZ)(n:Nat)(h:Nat->aN)(f:Func)(k:Nat)(s:St):Tr zG:=run E n h (Func.results f).toList 400 (aj f k) s
def kj(h:List AO):Nat->AO:=λj=>h.getD j .dead
def zpJ(h:List AO)(outs:List Sh):AV->Option (zz (outs.map Q1))
 |.tup o=>mi (kj h) (λi=>i) (outs.map Q1) o
 |_=>Q2
def aI(h:List AO):(outs:List Sh)->AV->Option (zz (outs.map Q1))
 | [s],r=>match Ab (kj h) s r with
  |some y=>Q1 (y,())
  |none=>Q2
 |[],r=>zpJ h [] r
 |o::s2::ss,r=>zpJ h (o::s2::ss) r
def wA:(outs:List Sh)->zz (outs.map Q1)->AV
 |[s],y=>zC s y.1
 |outs,y=>.tup (jB (outs.map Q1) y)
theorem qt{hp:Nat->AO}{f:Nat->Nat}:∀(o:List Sh)(args:List AV)(x:zz (o.map Q1)),mi hp f (o.map Q1) args=Q1 x->cC hp (o.map Q1) args=Q1 ((jB (o.map Q1) x).map λa=>(Q4,a))
 |[],[],_,_=>rfl
 | s::o,a::as',x,h=>by
  have u:mi hp f (Q1 s::o.map Q1) (a::as')=Q1 x:=h;show cC hp (Q1 s::o.map Q1) (a::as')=_;unfold mi at u;unfold cC;split at u
  ·rename_i y r B z;cases u;rw[B,qt o as' r z];rfl
  ·cases u
 |[],_::_,_,h=>by simp[mi]at h
 |_::_,[],_,h=>by simp[mi]at h
theorem Reach.plain{E:bZ}{C:ff}{fn:FuncId}{I:List Item}{st:St}{outs:List Sh}{y:zz (outs.map Q1)}(hC:∀id,C.ρ0 id=Q2)
  (h:Reach E C fn I st (λr h=>aI h outs r=Q1 y)):Reach E C fn I st (λr h=>(r,h)=(wA outs y,[])):=by
 intro b cs a w U ρ h1 h2 hc hW;obtain⟨e,W,fr,⟨v,r,X,J,Y,he,u,D,hH,h0,h3,z⟩,Z,hf,hl⟩:=h b cs a w U ρ h1 h2 hc hW;refine⟨e,W,fr,⟨v,_,_,λb=>J b/\b<C.w0.heap.size/\¬C.B0 b,λ_=>Q2,he,rfl,?_,⟨λid=>?_,λid1 h4 b o=>?_,λid b o=>?_⟩,λ_ _=>rfl,λid v O=>?_,⟨z.ext,z.same,λb B=>z.ub b B.1,λb B T=>z.u1 b B T.1,λb B T hn=>⟨z.u2 b B T hn,B,hn⟩,λg=>(z.gl g).weak λb B=>B.1⟩⟩,Z,hf,hl⟩
 ·have S:∀id,bF W J Y id (kj X id)/\∀b,ar Y id (kj X id) b->¬(J b/\b<C.w0.heap.size/\¬C.B0 b):=by
   intro id;refine⟨hH.ob id,λb ho T=>?_⟩;rcases hH.blk id b ho with hB|hB
   ·exact T.2.2 hB
   ·omega
  have G:∀(outs:List Sh)(y:zz (outs.map Q1))(M:List AV),mi (kj X) (λi=>i) (outs.map Q1) M=Q1 y->Rv W J Y (.tup M) v->Rv W (λb=>J b/\b<C.w0.heap.size/\¬C.B0 b) (λ_=>Q2) (.tup (jB (outs.map Q1) y)) v:=by
   intro outs y M hy D;cases D with
   |tup _ vs hl hr=>
   have:=(jR (w:=W) (U:=J) (ρ:=Y) (U':=λb=>J b/\b<C.w0.heap.size/\¬C.B0 b) (ρ':=λ_=>Q2) (hp:=kj X) (f:=λi=>i) (λb B=>B.1) (outs.map Q1) M vs _ (qt outs M y hy) ⟨hl,hr⟩ (λid _=>S id)
    (λid L=>by simp only[fV,List.filter_map,uH]at L;rw[List.filter_eq_nil_iff.2 sw]at L;simp[AV.idsL]at L)).1
   simp only[pM,uH,zA,if_false,List.map_id']at this;exact .tup _ vs this.len this.rv
  match outs,y,u with
  | [s],y,u=>
   simp only[aI]at u;split at u
   ·rename_i x hx;cases u;exact CJ hx D (λb B=>B.1) (λid _=>S id)
   ·cases u
  | [],y,u=>
   simp only[aI]at u;cases r with
   |tup M=>exact G [] y _ u D
   |_=>cases u
  | s1::s2::ss,y,u=>
   simp only[aI]at u;cases r with
   |tup M=>exact G _ y _ u D
   |_=>cases u
 ·simp[bF]
 ·obtain⟨_,v,O,_⟩:=o;cases O
 ·obtain⟨_,v,O,_⟩:=o;cases O
 ·rw[hC id]at O;cases O
theorem nF{E:bZ}{C:ff}{k:FuncId}{f:Func}{Q:AV->List AO->Prop}{n n0:Nat}(B:zw E)(D:zO E.P k f n)(z:∀id,n0<=id->C.ρ0 id=Q2){keep:Nat->aN}{o:Nat}
  {u:List Item} {st:St} {l:zG} (h:(run E n0 keep f.results.toList o u st).val=Q1 l) (G:kc E C k Q l):Reach E C k u st Q:=
 dF B D z keep o (Tr.sat_of_val h G)
def Xt(ks outs:List Sh)(g:zz (ks.map Q1)->Option (zz (outs.map Q1))):iU (ks.map Q1):=λx h=>match h with
 | []=>match g x with
  |some y=>.ok (wA outs y,[])
  |none=>.err
 |_=>.err
def ul(ks outs:List Sh)(g:zz (ks.map Q1)->Option (zz (outs.map Q1))):zZ:=bp (ks.map Q1) (Xt ks outs g)
theorem xg{P:Program}{u:Nat->AV}{E:bZ}{k:FuncId}{f:Func}{ks outs:List Sh}{g:zz (ks.map Q1)->Option (zz (outs.map Q1))}(B:zO E.P k f (Io ks))
  (h:∀x y,g x=Q1 y->∀C:ff,(∀id,C.ρ0 id=Q2)->Reach E C k (bC f) (bl f.ntmps (jB (ks.map Q1) x) []) (λr h=>aI h outs r=Q1 y)) (I:E.P=P:=by rfl) (G:E.gl=u:=by rfl):pn P u k (ul ks outs g):=by
 subst I G;refine dX (by simpa using B) λx L J o C z=>?_
 unfold Xt at o;split at o
 ·split at o
  ·rename_i y D;simp only[Tr.val_ok,bH]at o;subst o;exact Reach.plain (λid=>z id (by simp)) (h x y D C (λid=>z id (by simp)))
  ·simp at o
 ·simp at o
noncomputable abbrev bZ.aut(E:bZ)(k:Nat)(f:Func)(n:Nat):bZ:=E.add k (bp (List.replicate n Q2) (fA E f (List.replicate n Q2)))
theorem iu{E:bZ}{k:Nat}{f:Func}{n:Nat}(h:zw E)(o:zO E.P k f n):zw (E.aut k f n):=
 h.add (ch _ h (by simpa using o))
def eQ(ks outs:List Sh)(c:zz (ks.map Q1)->Bool)(g:zz (ks.map Q1)->zz (outs.map Q1)):iU (ks.map Q1):=λx h=>match h with
 |[]=>.chk (c x) (.ok (wA outs (g x),[]))
 |_=>.err
def zT(ks outs:List Sh)(c:zz (ks.map Q1)->Bool)(g:zz (ks.map Q1)->zz (outs.map Q1)):zZ:=bp (ks.map Q1) (eQ ks outs c g)
theorem aM{P:Program}{u:Nat->AV}{E:bZ}{k:FuncId}{f:Func}{ks outs:List Sh}{c:zz (ks.map Q1)->Bool}{g:zz (ks.map Q1)->zz (outs.map Q1)}(D:zO E.P k f (Io ks))
  (h:∀x,c x=Q3->∀C:ff,(∀id,C.ρ0 id=Q2)->Reach E C k (bC f) (bl f.ntmps (jB (ks.map Q1) x) []) (λr h=>aI h outs r=Q1 (g x))) (I:E.P=P:=by rfl) (G:E.gl=u:=by rfl):pn P u k (zT ks outs c g):=by
 subst I G;refine dX (by simpa using D) λx L J o C z=>?_
 unfold eQ at o;split at o
 ·simp only[Tr.val]at o;split at o
  ·rename_i B;simp only[bH]at o;subst o;exact Reach.plain (λid=>z id (by simp)) (h x B C (λid=>z id (by simp)))
  ·simp at o
 ·simp at o
theorem A6{P:Program}{E:Nat->AV}{k:FuncId}{o:List (Option Sh)}{ι:Type}[Nonempty ι]{G:iU o}{Gs:ι->iU o}(h:∀i,pn P E k (bp o (Gs i)))
  (O:∀x I z,(G x I).val=Q1 z->∃i,(Gs i x I).val=Q1 z):pn P E k (bp o G):=by
 refine⟨(h (Classical.choice inferInstance)).fn,?_⟩;intro w U ρ hp n args C f J u;have:∃i,(bp o (Gs i) args hp n).val=Q1 f:=by
  unfold bp at u⊢;split at u
  ·rename_i ps S;simp only at u⊢;split at u
   ·rename_i B;split at u
    ·rename_i xs T;simp only[Tr.val_bind,gq]at u;obtain⟨z,L,M⟩:=u;obtain⟨i,D⟩:=O _ _ _ L;exact⟨i,by simp only[B,if_true,Tr.val_bind,gq];exact⟨z,D,M⟩⟩
    ·simp at u
   ·simp at u
  ·simp at u
 obtain⟨i,D⟩:=this;exact(h i).calls w U ρ hp n args C f J D
def QC(ks outs:List Sh)(g:zz (ks.map Q1)->zz (outs.map Q1)):iU (ks.map Q1):=λx h=>match h with
 |[]=>.ok (wA outs (g x),[])
 |_=>.err
def aH(ks outs:List Sh)(g:zz (ks.map Q1)->zz (outs.map Q1)):zZ:=bp (ks.map Q1) (QC ks outs g)
theorem Pp{P:Program}{u:Nat->AV}{k:FuncId}{ks outs:List Sh}{g:zz (ks.map Q1)->zz (outs.map Q1)}(h:pn P u k (zT ks outs (λ_=>Q3) g)):pn P u k (aH ks outs g):=by
 refine A6 (ι:=Unit) (Gs:=λ_=>eQ ks outs (λ_=>Q3) g) (λ_=>h) λx B z o=>⟨(),?_⟩
 unfold QC at o;unfold eQ;split at o
 ·simpa[Tr.val]using o
 ·simp at o
theorem ag{P:Program}{o:Nat->AV}{E:bZ}{k:FuncId}{f:Func}{ks outs:List Sh}{g:zz (ks.map Q1)->zz (outs.map Q1)}(z:zO E.P k f (Io ks))
  (h:∀x,∀C:ff,(∀id,C.ρ0 id=Q2)->Reach E C k (bC f) (bl f.ntmps (jB (ks.map Q1) x) []) (λr h=>aI h outs r=Q1 (g x))) (D:E.P=P:=by rfl) (B:E.gl=o:=by rfl):pn P o k (aH ks outs g):=by
 subst D B;exact Pp (aM z λx _ C u=>h x C u)
def P3(outs:List Sh):zG->Option (zz (outs.map Q1))
 |.ret v h=>aI h outs v
 |_=>Q2
theorem Tr.sat_of_res{E:bZ}{C:ff}{u:FuncId}{outs:List Sh}{y:zz (outs.map Q1)}{t:Tr zG}(h:t.val.bind (P3 outs)=Q1 y):t.Sat (kc E C u (λr h=>aI h outs r=Q1 y)):=by
 rw[gq]at h;obtain⟨l,z,o⟩:=h;refine Tr.sat_of_val z ?_;cases l with
 |ret v h=>exact o
 |head _ _ _=>cases o
 |fork _ _ _ _=>cases o
theorem aZ{E:bZ}{C:ff}{k:FuncId}{f:Func}{outs:List Sh}{y:zz (outs.map Q1)}{n n0:Nat}(B:zw E)(D:zO E.P k f n)(z:∀id,n0<=id->C.ρ0 id=Q2){keep:Nat->aN}{o:Nat}
  {u:List Item} {st:St} {t:Tr zG} (G:run E n0 keep f.results.toList o u st=t) (h:t.val.bind (P3 outs)=Q1 y):Reach E C k u st (λr h=>aI h outs r=Q1 y):=by
 refine dF B D z keep o ?_;rw[G];exact Tr.sat_of_res h
theorem zf.eta:∀e:zf,zf.mk e.op e.v e.s e.l=e
 |.mk _ _ _ _=>rfl
structure Kw (E E0:bZ):Prop where
 p:E.P=E0.P
 g:E.gl=E0.gl
theorem Kw.refl(E:bZ):Kw E E:=⟨rfl,rfl⟩
theorem Kw.add{E o:bZ}(h:Kw E o)(k:FuncId)(F:zZ):Kw (E.add k F) o:=⟨h.p,h.g⟩
abbrev zm(e:zf):zf:=.mk e.op e.v e.s e.l
theorem zk(e:zf):zm e=e:=zf.eta e
abbrev U0:Nat->Prop:=λ_=>False
abbrev iV:Nat->Option Value:=λ_=>Q2
def TH(P:Program)(T:TypeId->Sh->Bool):List Field->Nat->Sh->Bool
 |[],_,_=>Q4
 |[f],o,s=>f.offset==o&&(T f.type s&&P.cellsOf f.type==s.size)
 |f::fs,o,.pr a b=>f.offset==o&&(T f.type a&&(P.cellsOf f.type==a.size&&TH P T fs (o+a.size) b))
 |_,_,_=>Q4
def ru(P:Program)(t:TypeId):Bool:=match P.underlying t with
 |some .string=>P.cellsOf t==1
 |_=>Q4
def PZ(P:Program)(t e:TypeId):Bool:=match P.underlying t with
 |some (.slice u)=>u==e&&P.cellsOf t==1
 |_=>Q4
def Pc(P:Program):Nat->TypeId->Sh->Bool
 |0,_,_=>Q4
 | n+1,t,s=>match P.underlying t,s with
  |some .bool,.bool=>Q3
  |some (.int k),.int o=>k==o
  |some .string,.str=>Q3
  |some (.slice e),.sl s=>P.cellsOf e==s.size&&(decide (0<s.size)&&Pc P n e s)
  | some (.struct h),.expr=>match h.toList with
   |[a,b,c,d]=>P.cellsOf t==6&&(a.offset==0&&(b.offset==1&&(c.offset==4&&(d.offset==5&&(ru P a.type&&(ru P c.type&&(PZ P d.type t&&(P.cellsOf b.type==3&&Pc P n b.type (.pr (.int .i64) (.pr (.int .i64) .str))))))))))
   |_=>Q4
  |some (.struct h),.pr a b=>P.cellsOf t==(Sh.pr a b).size&&TH P (Pc P n) h.toList 0 (.pr a b)
  |_,_=>Q4
section
variable {H:Type} {enc:TypeId×Value->H} {P:Program} {w:World} {sp:Nat->Bool} {held:Bool}
def Got(w:World)(s:Sh)(cs:List Value):Prop:=∃x:Sem s,dA w U0 iV (zu s x) cs/\∀v∈cs,v.oneCell'=Q3
theorem dj{α β:Type}{f:α->Option β}{a:α}{l:List α}{r:List β}(h:(a::l).mapM f=Q1 r):∃y u,f a=Q1 y/\l.mapM f=Q1 u/\r=y::u:=by
 rw[List.mapM_cons]at h;cases z:f a with
 |none=>rw[z]at h;simp at h
 | some y=>
  cases o:l.mapM f with
  |none=>rw[z,o]at h;simp at h
  | some u=>
   rw[z,o]at h;simp at h;exact⟨y,u,rfl,rfl,h.symm⟩
theorem L0{α β:Type}{f:α->Option β}:∀{l:List α}{r:List β},l.mapM f=Q1 r->∀x∈l,∃y,f x=Q1 y
 |[],_,_,_,o=>by simp at o
 | a::l,r,h,x,o=>by
  obtain⟨y,B,u,z,_⟩:=dj h;rcases bL.1 o with rfl|o
  ·exact⟨y,u⟩
  ·exact L0 z x o
theorem DE{α β:Type}{f:α->Option β}:∀{l:List α}{r:List β},l.mapM f=Q1 r->Io r=Io l/\∀(i:Nat) a,l[i]?=Q1 a->f a=r[i]?
 |[],r,h=>by simp at h;subst h;simp
 | a::l,r,h=>by
  obtain⟨y,D,u,z,rfl⟩:=dj h;obtain⟨B,C⟩:=DE z;refine⟨by simp[B],λi b o=>?_⟩;cases i with
  |zero=>simp at o;subst o;simpa using u
  |succ i=>simpa using C i b (by simpa using o)
theorem KA(a:Addr)(h:a.spot=Q2)(n:Nat):a.add n=⟨a.block,a.off+n,Q2⟩:=by
 obtain⟨b,o,s⟩:=a;simp only at h;subst h;unfold Addr.add;split
 ·rename_i h;subst h;rfl
 ·rfl
theorem dA.take{cs:List AV}{vs:List Value}(h:dA w U0 iV cs vs)(n:Nat):dA w U0 iV (cs.take n) (vs.take n):=by
 refine⟨by simp[h.len],λj c v o u=>?_⟩;rw[List.getElem?_take]at o u;split at o
 ·rename_i z;rw[if_pos z]at u;exact h.rv j c v o u
 ·cases o
theorem dA.appS{a b:List AV}{x y:List Value}(h:dA w U0 iV a x)(z:dA w U0 iV b y):dA w U0 iV (a++b) (x++y):=by
 refine⟨by simp[h.len,z.len],λj c v o u=>?_⟩;by_cases B:j<Io a
 ·rw[mR B]at o;rw[mR (by rw[<-h.len];exact B)]at u;exact h.rv j c v o u
 ·rw[pq ow]at o;rw[pq (by rw[<-h.len];omega),<-h.len]at u;exact z.rv _ c v o u
theorem dA.one{c:AV}{v:Value}(h:Rv w U0 iV c v):dA w U0 iV [c] [v]:=by
 refine⟨rfl,λj d u o z=>?_⟩;cases j with
 |zero=>simp at o z;subst o;subst z;exact h
 |succ j=>simp at o
theorem Dd{z:Nat}{T:TypeId->Sh->Bool}(I:∀t s cs d ps,T t s=Q3->DataW.trod enc P w 0 sp held z t cs=Q1 (d,ps)->Got w s cs){cs:List Value}:
  ∀(M:List Field)(o:Nat)(s:Sh) xs,TH P T M o s=Q3->(M.mapM λf=>DataW.trod enc P w 0 sp held z f.type ((cs.drop f.offset).take (P.cellsOf f.type)))=Q1 xs->Got w s ((cs.drop o).take s.size)
 |[],_,_,_,h,_=>by simp[TH]at h
 | [f],o,s,xs,h,J=>by
  simp only[TH,aE,bh]at h;obtain⟨D,E,G⟩:=h;obtain⟨y,X,B,_,_⟩:=dj J;rw[D,G]at B;exact I _ _ _ _ _ E B
 | f::g::fs,o,.pr a b,xs,h,J=>by
  simp only[TH,aE,bh]at h;obtain⟨D,E,G,Y⟩:=h;obtain⟨y,X,B,L,_⟩:=dj J;rw[D,G]at B;obtain⟨S,O,o1⟩:=I _ _ _ _ _ E B;obtain⟨W,r2,o2⟩:=Dd I (g::fs) (o+a.size) b X Y L;have Z:((cs.drop o).take a.size).length=a.size:=by rw[<-O.len,ac]
  have u:(cs.drop o).take (a.size+b.size)=(cs.drop o).take a.size++(cs.drop (o+a.size)).take b.size:=by
   rw[List.take_add,F9]
  refine⟨(S,W),?_,?_⟩
  ·show dA w U0 iV (zu a S++zu b W) ((cs.drop o).take (a.size+b.size));rw[u];exact O.appS r2
  ·intro v C;have C:v∈(cs.drop o).take (a.size+b.size):=C;rw[u,cJ]at C;exact C.elim (o1 v) (o2 v)
 |_::_::_,_,.unit,_,h,_=>by simp[TH]at h
 |_::_::_,_,.bool,_,h,_=>by simp[TH]at h
 |_::_::_,_,.int _,_,h,_=>by simp[TH]at h
 |_::_::_,_,.str,_,h,_=>by simp[TH]at h
 |_::_::_,_,.sl _,_,h,_=>by simp[TH]at h
 |_::_::_,_,.expr,_,h,_=>by simp[TH]at h
theorem HQ{E:Nat}{t e:TypeId}{s:Sh}(ht:P.underlying t=Q1 (.slice e))(hc:P.cellsOf e=s.size)(I:0<s.size)
  (hT:∀cs d ps,DataW.trod enc P w 0 sp held E e cs=Q1 (d,ps)->Got w s cs) {cs:List Value} {d:DataW H} {ps:List MemPlace} (h:DataW.trod enc P w 0 sp held (E+1) t cs=Q1 (d,ps)):Got w (.sl s) cs:=by
 unfold DataW.trod at h;rw[ht]at h;split at h
 all_goals first
  |(rename_i L;cases L;done)
  |(rename_i L _;cases L;done)
  |(simp at h;done)
  |skip
 ·rename_i L;cases L;exact⟨[],dA.one (.sl0 s Q2 0),by simp[Value.oneCell']⟩
 ·rename_i a o O L;cases L;simp only[aO,true_and]at h;split at h
  ·rename_i h5;rw[gq]at h;obtain⟨Z,he,_⟩:=h;have T:∀i,∃x:Sem s,i<o->∃ci,w.cells? 0 (a.add (i*s.size)) s.size=Q1 ci/\dA w U0 iV (zu s x) ci:=by
    intro i;by_cases C:i<o
    ·obtain⟨y,hy⟩:=L0 he i (by simpa using C);rw[gq]at hy;obtain⟨ci,B,D⟩:=hy;obtain⟨x,hx,_⟩:=hT ci y.1 y.2 D;rw[hc]at B;exact⟨x,λ_=>⟨ci,B,hx⟩⟩
    ·exact⟨zi s,λh=>(C h).elim⟩
   obtain⟨X,hX⟩:=Classical.axiomOfChoice T;have h7:maxLen=aG:=rfl;cases o with
   |zero=>exact⟨[],dA.one (.sl0 s (Q1 a) O),by simp[Value.oneCell']⟩
   | succ o=>
    have u:∀i,i<o+1->∃ci,Io ci=s.size/\(∀j,j<s.size->w.cell? ((a.add (i*s.size)).add j)=ci[j]?)/\dA w U0 iV (zu s (X i)) ci:=by
     intro i C;obtain⟨ci,B,D⟩:=hX i C;unfold World.cells? at B;rw[if_pos (aO _)]at B;obtain⟨M,h4⟩:=DE B;refine⟨ci,by simpa using M,λj G=>?_,D⟩;exact h4 j j (by simp[G])
    have z:a.spot=Q2:=by
     obtain⟨ci,B,D,_⟩:=u 0 ow;have:=D 0 I;simp only[Nat.zero_mul,Addr.add,if_true]at this;rw[zU ow]at this;unfold World.cell? at this;split at this
     ·split at this
      ·cases this
      ·rename_i hs;cases h6:a.spot with
       |none=>rfl
       |some q=>rw[h6]at hs;simp at hs
     ·cases this
    have W:a.block<w.heap.size:=by
     obtain⟨ci,B,D,_⟩:=u 0 ow;have:=D 0 I;simp only[Nat.zero_mul,Addr.add,if_true]at this;rw[zU ow]at this;have ha:a=⟨a.block,a.off,Q2⟩:=by rw[<-z]
     rw[ha]at this;exact nV this
    have h0:∀i,∃ci:List Value,i<o+1->Io ci=s.size/\(∀j,j<s.size->w.cell? ⟨a.block,a.off+i*s.size+j,Q2⟩=ci[j]?)/\dA w U0 iV (zu s (X i)) ci:=by
     intro i;by_cases C:i<o+1
     ·obtain⟨ci,B,D,M⟩:=u i C;refine⟨ci,λ_=>⟨B,λj G=>?_,M⟩⟩;rw[<-D j G,KA a z,KA _ rfl]
     ·exact⟨[],λh=>(C h).elim⟩
    obtain⟨Cs,S⟩:=Classical.axiomOfChoice h0;let l:List (Sem s):=(List.range (o+1)).map X
    have hl:Io l=o+1:=by simp[l]
    have Y:∀i(C:i<Io l),l[i]=X i:=by intro i C;simp[l]
    refine⟨l,dA.one ?_,by simp[Value.oneCell']⟩;have ha:a=⟨a.block,a.off,Q2⟩:=by rw[<-z]
    rw[ha,<-hl];refine .sl s l a.block a.off O (λi j=>((Cs i)[j]?).getD undef) ow ow W (λh=>h) ?_ ?_
    ·intro i j C G;obtain⟨B,D,_⟩:=S i ow;rw[D j G,zU ow];rfl
    ·intro i C j c J;obtain⟨B,_,M⟩:=S i ow;rw[Y i C]at J;have G:j<(Cs i).length:=by
      have:=(dn.1 J).1;rw[M.len]at this;exact this
     have:=M.rv j c _ J (zU G);rw[zU G];exact this
  ·cases h
theorem JV{o:Nat}{t:TypeId}(z:P.underlying t=Q1 .string){cs:List Value}{d:DataW H}{ps:List MemPlace}(h:DataW.trod enc P w 0 sp held o t cs=Q1 (d,ps)):Got w .str cs:=by
 cases o with
 |zero=>simp[DataW.trod]at h
 | succ o=>
  unfold DataW.trod at h;rw[z]at h;split at h
  all_goals first
   |(rename_i u;cases u;done)
   |(rename_i u _;cases u;done)
   |(simp at h;done)
   |skip
  rename_i s u;split at h
  ·rename_i D;refine⟨s.data.toList,dA.one ?_,by simp[Value.oneCell']⟩;have C:maxLen=aG:=rfl;have B:s.size=s.data.toList.length:=rfl;exact .str s.data.toList ow
  ·cases h
theorem Dw{t:TypeId}(h:ru P t=Q3):P.underlying t=Q1 .string/\P.cellsOf t=1:=by
 unfold ru at h;split at h
 ·rename_i o;exact⟨o,by simpa using h⟩
 ·cases h
theorem VX{t e:TypeId}(h:PZ P t e=Q3):P.underlying t=Q1 (.slice e)/\P.cellsOf t=1:=by
 unfold PZ at h;split at h
 ·rename_i u o;simp only[aE,bh]at h;rw[<-h.1];exact⟨o,h.2⟩
 ·cases h
theorem qO:∀(o n:Nat)(t:TypeId)(s:Sh)(cs:List Value)(d:DataW H)(ps:List MemPlace),Pc P n t s=Q3->DataW.trod enc P w 0 sp held o t cs=Q1 (d,ps)->Got w s cs
 |0,_,_,_,_,_,_,_,h=>by simp[DataW.trod]at h
 |o+1,0,_,_,_,_,_,u,_=>by simp[Pc]at u
 | o+1,n+1,t,s,cs,d,ps,u,h=>by
  have h0:=h;unfold Pc at u;split at u
  ·rename_i B;unfold DataW.trod at h;rw[B]at h;split at h
   all_goals first
    |(rename_i z;cases z;done)
    |(rename_i z _;cases z;done)
    |(simp at h;done)
    |skip
   exact⟨_,dA.one (.bool _),by simp[Value.oneCell']⟩
  ·rename_i k k' B;have hk:k=k':=by simpa using u
   subst hk;unfold DataW.trod at h;rw[B]at h;split at h
   all_goals first
    |(rename_i z;cases z;done)
    |(rename_i z _;cases z;done)
    |(simp at h;done)
    |skip
   rename_i k1 k2 m z;cases z;split at h
   ·rename_i M;obtain⟨rfl,M⟩:=M;simp only[Lit.wf,aE,aQ]at M;exact⟨m,dA.one (.int _ _ ⟨M.1,M.2⟩),by simp[Value.oneCell']⟩
   ·cases h
  ·rename_i B;exact JV B h
  ·rename_i e s B;simp only[aE,bh,aQ]at u;exact HQ B u.1 u.2.1 (λcs d ps h=>qO o n e s cs d ps u.2.2 h) h
  ·rename_i fs B;split at u
   ·rename_i a b c d' L;simp only[aE,bh]at u;obtain⟨G,ha,hb,hc,hd,W,X,Y,zb,tb⟩:=u;obtain⟨W,za⟩:=Dw W;obtain⟨X,zc⟩:=Dw X;obtain⟨Y,zd⟩:=VX Y;unfold DataW.trod at h;rw[B]at h;simp only at h;split at h
    ·rename_i C;rw[eB]at h;obtain⟨xs,D,_⟩:=h;rw[L]at D;obtain⟨ya,r1,O,D,_⟩:=dj D;obtain⟨yb,r2,S,D,_⟩:=dj D;obtain⟨yc,r3,T,D,_⟩:=dj D;obtain⟨yd,r4,I,D,_⟩:=dj D;rw[ha,za]at O;rw[hb,zb]at S;rw[hc,zc]at T;rw[hd,zd]at I;obtain⟨xa,ga,oa⟩:=JV W O;obtain⟨xb,gb,ob⟩:=qO o n b.type _ _ _ _ tb S;obtain⟨xc,gc,oc⟩:=JV X T;have Z:Got w (.sl .expr) ((cs.drop 5).take 1):=by
      cases o with
      |zero=>simp[DataW.trod]at I
      | succ o=>
       refine HQ Y (by rw[G];rfl) (by decide) (λcs d ps h=>qO o (n+1) t .expr cs d ps ?_ h) I;unfold Pc;rw[B];simp only[L,aE,bh];refine⟨G,ha,hb,hc,hd,?_,?_,?_,zb,tb⟩
       ·simp[ru,W,za]
       ·simp[ru,X,zc]
       ·simp[PZ,Y,zd]
     obtain⟨xd,gd,od⟩:=Z;have h3:Io cs=6:=by rw[C,G]
     have J:cs=(cs.drop 0).take 1++((cs.drop 1).take 3++((cs.drop 4).take 1++(cs.drop 5).take 1)):=by
      match cs,h3 with
      |[v0,v1,v2,v3,v4,v5],_=>rfl
     refine⟨zf.mk xa xb xc xd,?_,?_⟩
     ·have hr:=ga.appS (gb.appS (gc.appS gd));rw[<-J]at hr;exact hr
     ·intro v E;rw[J]at E;simp only[cJ]at E;rcases E with E|E|E|E
      ·exact oa v E
      ·exact ob v E
      ·exact oc v E
      ·exact od v E
    ·cases h
   ·cases u
  ·rename_i fs a b B;simp only[aE,bh]at u;unfold DataW.trod at h;rw[B]at h;simp only at h;split at h
   ·rename_i C;rw[eB]at h;obtain⟨xs,D,_⟩:=h;have:=Dd (λt s cs d ps h1 h2=>qO o n t s cs d ps h1 h2) fs.toList 0 (.pr a b) xs u.2 D;rw[List.drop_zero,Ch (by rw[C,u.1];exact ae _)]at this;exact this
   ·cases h
  ·cases u
termination_by o=>o
theorem A7{n:Nat}{t:TypeId}{s:Sh}{v:Value}{d:DataW H}{ps:List MemPlace}(D:Pc P n t s=Q3)(h:DataW.Trod enc P w 0 sp held t v d ps)(z:(∃cs,v=.agg cs)↔s.isAgg=Q3)(C:s.isAgg=Q4->v.cells=#[v]):∃x:Sem s,Rv w U0 iV (zC s x) v:=by
 obtain⟨u,h⟩:=h;obtain⟨x,o,I⟩:=qO u n t s _ d ps D h;refine⟨x,?_⟩;unfold zC;cases E:s.isAgg with
 | true=>
  obtain⟨cs,rfl⟩:=z.2 E;simp only;have:=Rv.agg (w:=w) (U:=U0) (ρ:=iV) (zu s x) cs.toList o.len I o.rv;simpa using this
 | false=>
  simp only;rw[C E]at o;have B:=o.len
  match G:zu s x,B with
  | [c],_=>
   rw[G]at o;exact o.rv 0 c v rfl rfl
end
end Cad
namespace Go.Proofs
open Cad (ae bt ea)
open Go.RowKit Go.Shelf
open Bool renaming false→Q4,true→Q3
open Option renaming none→Q2,some→Q1
variable {F:Fence} {n:Nat} {P:Program}
structure KeepsAll (B:Nat) (W W':World):Prop where
 size:W.heap.size<=W'.heap.size
 same:∀(k:Nat)(o:Obj),B<=k->W.heap[k]?=Q1 o->W'.heap[k]?=Q1 o
theorem KeepsAll.refl(B:Nat)(W:World):KeepsAll B W W:=⟨ae _,λ_ _ _ h=>h⟩
theorem KeepsAll.trans{B:Nat}{X Y Z:World}(h:KeepsAll B X Y)(k:KeepsAll B Y Z):KeepsAll B X Z:=⟨bt h.size k.size,λi o hB hi=>k.same i o hB (h.same i o hB hi)⟩
theorem KeepsAll.more{B B':Nat}{X Y:World}(h:KeepsAll B X Y)(hB:B<=B'):KeepsAll B' X Y:=⟨h.size,λk o hk=>h.same k o (bt hB hk)⟩
theorem KeepsAll.grown{B:Nat}{W W':World}{row:Option Nat}(hg:W.grownBy W' row)(hrow:∀j,row=Q1 j->j<B):KeepsAll B W W':=
 ⟨hg.size,λk o hB hk=>(hg.block k (ea.1 hk).1 (λe=>by have:=hrow k e.symm;omega)).trans hk⟩
theorem KeepsAll.alloc(B:Nat)(W:World)(o:Obj):KeepsAll B W (W.alloc o):=.grown (World.grownBy_alloc W o Q2) (λ_ e=>by cases e)
theorem KeepsAll.setCell{B:Nat}(W:World)(b:Nat)(o:Nat)(v:Value)(h:b<B):KeepsAll B W (W.setCell ⟨b,o,Q2⟩ v):=
 ⟨by show W.heap.size<=(W.heap.modify _ _).size;rw[Array.size_modify];exact ae _,λk o' hB hk=>(Below.heap_setCell W ⟨b,o,Q2⟩ v k (by show k≠b;omega)).trans hk⟩
theorem ownFrom_keepsAll{β:Type}{B B':Nat}{w₀:World}(hB:w₀.heap.size<=B'):OwnFrom B' (λ(_:β) W=>KeepsAll B w₀ W):=
 λ_ X Y row hs hg hr=>⟨bt hs.size hg.size,λk o hk h0=>by
  have hX:=hs.same k o hk h0;refine(hg.block k (ea.1 hX).1 (λe=>?_)).trans hX;have h1:=(hr k e.symm).1;have h2:=(ea.1 h0).1;omega⟩
def SeqO{α:Type}(F:Fence)(P:Program)(g:Nat)(lb:Array Value)(encs:α->Array Value)(n₀:Nat)(S Sp:List α->Prop)(w:World):Prop:=
 ∀(n l:Nat)(J Jx:List α->World->Prop)(W:World),Below w.heap.size w W->OwnFrom W.heap.size J->OwnFrom W.heap.size Jx->
  (∀m pre x W1,J pre W1->YieldAt F m P l (encs x) W1 λe W'=>KeepsAll W.heap.size W1 W'/\((e=.returned (.bool Q3)/\J (pre++[x]) W'/\Below n₀ W1 W')\/(e=.returned (.bool Q4)/\Jx (pre++[x]) W')))->
  J [] W->
  CallsIn F n P g (#[.func (.yield l) #[] #[]]++lb) W λe W'=>(∃v,e=.returned v)/\((∃xs,S xs/\J xs W'/\Below n₀ W W')\/(∃pre,Sp pre/\Jx pre W'))
theorem wpIn_rangeO{α:Type}{g:Operand}{ps:Array Tmp}{assign body:Code}{Q:Exit->Act->World->Prop}{a:Act}{w:World}(hd:F.depth=Q2)
  (hro:F.round=Q2) {gf:Nat} {lb:Array Value} (hg:a.eval g=.func (.func gf) #[] lb) (hFg:F.fn gf) (eg:∀args w,(callFunc gf args).run P w=.ok (.enter gf args) w)
  {encs:α->Array Value} {n₀:Nat} {S Sp:List α->Prop} {w0:World} (hseq:SeqO F P gf lb encs n₀ S Sp w0) (hb0:Below w0.heap.size w0 w) (hn₀:n₀<=w.heap.size) (hps:∀x,(encs x).size=ps.size)
  (I Ix:List α->World->Prop) (hI:OwnFrom w.heap.size I) (hIx:OwnFrom w.heap.size Ix) (h0:I [] w) (Ax:α->Act->World->Prop) (hAx:∀x a',OwnFrom w.heap.size (λ(_:Unit) W=>Ax x a' W))
  (hassign:∀(l m:Nat)(pre:List α)(x:α)(W:World)(K:Act->World->Prop),w.heap.size<W.heap.size->I pre W->(∀a' W',KeepsAll w.heap.size W W'->Below n₀ W W'->I pre W'->Ax x a' W'->K a' W')->
   assign.wpIn (F.inRound l) m P (Exit.then K (λ_ _ _=>False)) {tmps:=(ps.zip (encs x)).foldl (λt(p,v)=>t.setIfInBounds p v) a.tmps,defers:=[]} W)
  (hbody:∀(l m:Nat)(pre:List α)(x:α)(a':Act)(W:World),w.heap.size<W.heap.size->I pre W->Ax x a' W->body.wpIn (F.inRound l) m P
   (λe _ W'=>KeepsAll w.heap.size W W'/\((e=.normal/\Below n₀ W W'/\I (pre++[x]) W')\/(e=.ret/\Ix (pre++[x]) W'))) a' W)
  (hdone:∀(D:Nat)(xs:List α)(W:World),D=w.heap.size->S xs->I xs W->Below n₀ w W->W.heap[D]?=Q1 (.deferred (Q1 []))->Q .normal {a with defers:={target:=.collected D,args:=#[]}::a.defers} W)
  (hstop:∀(D:Nat)(pre:List α)(W:World),D=w.heap.size->Sp pre->Ix pre W->W.heap[D]?=Q1 (.deferred (Q1 []))->Code.ret.wpIn F n P Q {a with defers:={target:=.collected D,args:=#[]}::a.defers} W):
  (Code.rangeFunc g ps assign body).wpIn F n P Q a w:=by
 refine wpIn_rangeFunc ?_;intro fn hfn;rw[hro];obtain⟨rec,hrec⟩:∃rec:LoopState->Option Code->Loop,rec=λst pe=>{state:=st,pending:=pe,fn,tmps:=a.tmps,params:=ps,assign,body,defers:=w.heap.size}:=⟨_,rfl⟩
 obtain⟨W1,hW1⟩:∃W1,(w.alloc (.deferred (Q1 []))).alloc (.loop (rec .ready Q2))=W1:=⟨_,rfl⟩;have hs1:W1.heap.size=w.heap.size+2:=by rw[<-hW1];simp
 have hL1:W1.heap[w.heap.size+1]?=Q1 (.loop (rec .ready Q2)):=by
  rw[<-hW1];have:=World.alloc_heap_new (w.alloc (.deferred (Q1 []))) (.loop (rec .ready Q2));rwa [World.size_alloc]at this
 have hK1:W1.heap[w.heap.size]?=Q1 (.deferred (Q1 [])):=by
  rw[<-hW1];exact(Below.heap_alloc _ _ _ (by simp)).trans (World.alloc_heap_new w _)
 have hI1:I [] W1:=by rw[<-hW1];exact hI.alloc _ (hI.alloc _ h0)
 have hbw:Below w.heap.size w W1:=by rw[<-hW1];exact((Below.refl _ w).alloc (ae _) _).alloc (by simp) _
 have turn:∀{W:World}{o:Obj}(o':Obj),W.heap[w.heap.size+1]?=Q1 o->Below n₀ W (W.putObj (w.heap.size+1) o'):=λ{W o} o' h=>
  (Below.refl n₀ W).grown (grownBy_putObj' W _ o') (by have:=(ea.1 h).1;omega) (λk e=>by cases e;omega)
 have keep:∀{W:World}(o':Obj),KeepsAll W1.heap.size W (W.putObj (w.heap.size+1) o'):=λ{W} o'=>
  .grown (grownBy_putObj' W _ o') (λk e=>by cases e;omega)
 refine⟨w.heap.size+1,[{target:=.collected w.heap.size,args:=#[]}],W1,{target:=.fn (.func gf) lb,args:=#[.func (.yield (w.heap.size+1)) #[] #[]]},W1,gf,
  #[.func (.yield (w.heap.size+1)) #[] #[]]++lb,W1,?_,?_,?_,?_,λh=>(by rw[hd]at h;cases h),?_⟩
 ·rw[<-hW1,hrec];exact run_enterLoop_outer _ _ _ _ _
 ·simp only[resolve,hg];simp[go_sem]
 ·intro f' hf';simp[Target.leads]at hf';subst hf';exact hFg
 ·simp[invoke,go_sem,eg]
 have abide:∀{o:Obj}{X Y:World}{row:Option Nat}{k:Nat},k<=w.heap.size+1->X.heap[k]?=Q1 o->X.grownBy Y row->(∀r,row=Q1 r->W1.heap.size<=r/\∃o:Obj,X.heap[r]?=Q1 o/\o.isCells=Q4)->Y.heap[k]?=Q1 o:=
  λhk ho hg hr=>(hg.block _ (ea.1 ho).1 (λe=>by have:=(hr _ e.symm).1;omega)).trans ho
 refine(hseq (n-1) (w.heap.size+1)
  (λpre W=>I pre W/\W.heap[w.heap.size+1]?=Q1 (.loop (rec .ready Q2))/\W.heap[w.heap.size]?=Q1 (.deferred (Q1 [])))
  (λpre W=>Ix pre W/\W.heap[w.heap.size+1]?=Q1 (.loop (rec .done (Q1 .ret)))/\W.heap[w.heap.size]?=Q1 (.deferred (Q1 [])))
  W1 (hb0.trans (hbw.mono hb0.size))
  (λs X Y row hs hg hr=>⟨hI s X Y row hs.1 hg (λr e=>⟨by have:=(hr r e).1;omega,(hr r e).2⟩),abide (ae _) hs.2.1 hg hr,abide (by omega) hs.2.2 hg hr⟩)
  (λs X Y row hs hg hr=>⟨hIx s X Y row hs.1 hg (λr e=>⟨by have:=(hr r e).1;omega,(hr r e).2⟩),abide (ae _) hs.2.1 hg hr,abide (by omega) hs.2.2 hg hr⟩)
  ?_ ⟨hI1,hL1,hK1⟩).mono ?_
 ·
  rintro m pre x W ⟨hi,hl,hk⟩;have hlt:w.heap.size+1<W.heap.size:=(ea.1 hl).1;have hy:=run_yield (P:=P) (args:=encs x) hl (by rw[hrec];exact hps x);rw[hrec]at hy;refine⟨fn,_,assign,body,hy,roundIn_of_wpIn hfn (hassign _ m pre x W _ (by omega) hi ?_)⟩;clear hy;intro a' Wa hka hba hia hax;have hla:=hka.same _ _ (by omega) hl;have hda:=hka.same _ _ (ae _) hk;have hlta:w.heap.size+1<Wa.heap.size:=(ea.1 hla).1;refine⟨_,run_beginRound hla (by rw[hrec]),?_⟩;have hl2:(Wa.putObj (w.heap.size+1) (.loop {rec .ready Q2 with state:=.busy})).heap[w.heap.size+1]?=Q1 (.loop {rec .ready Q2 with state:=.busy}):=World.putObj_heap_same hlta;have hk2:(Wa.putObj (w.heap.size+1) (.loop {rec .ready Q2 with state:=.busy})).heap[w.heap.size]?=Q1 (.deferred (Q1 [])):=(World.putObj_heap_other (by omega)).trans hda;refine wpIn_mono (hbody _ m pre x a' _ (by simp;omega) (hI.putObj _ hia (by omega) hla rfl) ((hAx x a').putObj (s:=()) _ hax (by omega) hla rfl)) ?_;rintro e a3 W3 ⟨hk3,hp⟩;have hl3:=hk3.same _ _ (by omega) hl2;have TF:=hk3.same _ _ (ae _) hk2;have hlt3:=(ea.1 hl3).1;have kf:∀o',KeepsAll W1.heap.size W (W3.putObj (w.heap.size+1) o'):=λo'=>(((hka.more (by omega)).trans (keep _)).trans (hk3.more (by omega))).trans (keep _)
  have hend:=λjump=>run_endRound (P:=P) jump hl3
  rcases hp with⟨rfl,hb3,hi3⟩|⟨rfl,hi3⟩
  ·exact⟨_,_,hend Q2,kf _,.inl ⟨rfl,⟨hI.putObj _ hi3 (by omega) hl3 rfl,by rw[hrec];exact World.putObj_heap_same hlt3,(World.putObj_heap_other (by omega)).trans TF⟩,((hba.trans (turn _ hla)).trans hb3).trans (turn _ hl3)⟩⟩
  ·exact⟨_,_,hend (Q1 .ret),kf _,.inr ⟨rfl,hIx.putObj _ hi3 (by omega) hl3 rfl,by rw[hrec];exact World.putObj_heap_same hlt3,(World.putObj_heap_other (by omega)).trans TF⟩⟩
 ·
  rintro e W2 ⟨⟨v,rfl⟩,(⟨xs,hS,⟨hi,hl,hk⟩,hbl⟩|⟨pre,hSp,hi,hl,hk⟩)⟩
  ·exact⟨Q2,_,by have:=run_endLoop (P:=P) hl (by rw[hrec];simp);rw[hrec]at this;exact this,hdone _ xs _ rfl hS (hI.putObj _ hi (by omega) hl rfl) (((hbw.mono hn₀).trans hbl).trans (turn _ hl)) ((World.putObj_heap_other (by omega)).trans hk)⟩
  ·exact⟨Q1 .ret,_,by have:=run_endLoop (P:=P) hl (by rw[hrec];simp);rw[hrec]at this;exact this,hstop _ pre _ rfl hSp (hIx.putObj _ hi (by omega) hl rfl) ((World.putObj_heap_other (by omega)).trans hk)⟩
theorem wpIn_rangeB{α:Type}{g:Operand}{ps:Array Tmp}{assign body:Code}{Q:Exit->Act->World->Prop}{a:Act}{w:World}(hd:F.depth=Q2)
  (hro:F.round=Q2) {gf:Nat} {lb:Array Value} (hg:a.eval g=.func (.func gf) #[] lb) (hFg:F.fn gf) (eg:∀args w,(callFunc gf args).run P w=.ok (.enter gf args) w)
  {encs:α->Array Value} {n₀:Nat} {S Sp:List α->Prop} {w0:World} (hseq:SeqO F P gf lb encs n₀ S Sp w0) (hb0:Below w0.heap.size w0 w) (hn₀:n₀<=w.heap.size) (hps:∀x,(encs x).size=ps.size)
  (I Ix:List α->World->Prop) (hI:OwnFrom w.heap.size I) (hIx:OwnFrom w.heap.size Ix) (h0:I [] w) (q:Tmp) (cs:α->Array Value) (t:TypeId)
  (hassign:∀(l m:Nat)(pre:List α)(x:α)(W:World)(K:Act->World->Prop),w.heap.size<W.heap.size->I pre W->
   (∀Bx W',KeepsAll w.heap.size W W'->Below n₀ W W'->I pre W'->W'.heap[Bx]?=Q1 (.cells (cs x) t (0,0))->K {tmps:=((ps.zip (encs x)).foldl (λt(p,v)=>t.setIfInBounds p v) a.tmps).setIfInBounds q (.pointer (Q1 ⟨Bx,0,Q2⟩)),defers:=[]} W')->
   assign.wpIn (F.inRound l) m P (Exit.then K (λ_ _ _=>False)) {tmps:=(ps.zip (encs x)).foldl (λt(p,v)=>t.setIfInBounds p v) a.tmps,defers:=[]} W)
  (hbody:∀(l m:Nat)(pre:List α)(x:α)(Bx:Nat)(W:World),w.heap.size<W.heap.size->I pre W->W.heap[Bx]?=Q1 (.cells (cs x) t (0,0))->body.wpIn (F.inRound l) m P
   (λe _ W'=>KeepsAll w.heap.size W W'/\((e=.normal/\Below n₀ W W'/\I (pre++[x]) W')\/(e=.ret/\Ix (pre++[x]) W'))) {tmps:=((ps.zip (encs x)).foldl (λt(p,v)=>t.setIfInBounds p v) a.tmps).setIfInBounds q (.pointer (Q1 ⟨Bx,0,Q2⟩)),defers:=[]} W)
  (hdone:∀(D:Nat)(xs:List α)(W:World),D=w.heap.size->S xs->I xs W->Below n₀ w W->W.heap[D]?=Q1 (.deferred (Q1 []))->Q .normal {a with defers:={target:=.collected D,args:=#[]}::a.defers} W)
  (hstop:∀(D:Nat)(pre:List α)(W:World),D=w.heap.size->Sp pre->Ix pre W->W.heap[D]?=Q1 (.deferred (Q1 []))->Code.ret.wpIn F n P Q {a with defers:={target:=.collected D,args:=#[]}::a.defers} W):
  (Code.rangeFunc g ps assign body).wpIn F n P Q a w:=
 wpIn_rangeO hd hro hg hFg eg hseq hb0 hn₀ hps I Ix hI hIx h0 (λx a' W'=>∃Bx,W'.heap[Bx]?=Q1 (.cells (cs x) t (0,0))/\a'={tmps:=((ps.zip (encs x)).foldl (λt(p,v)=>t.setIfInBounds p v) a.tmps).setIfInBounds q (.pointer (Q1 ⟨Bx,0,Q2⟩)),defers:=[]})
  (λx a' _ X Y row hs hg hr=>by
   obtain⟨Bx,h2,h3⟩:=hs;exact⟨Bx,(hg.block Bx (ea.1 h2).1 (λe=>by obtain⟨o,ho,hc⟩:=(hr Bx e.symm).2;rw[h2]at ho;cases ho;cases hc)).trans h2,h3⟩)
  (λl m pre x W K h1 h2 h3=>hassign l m pre x W K h1 h2 λBx W' k1 k2 k3 k4=>h3 _ _ k1 k2 k3 ⟨Bx,k4,rfl⟩)
  (λl m pre x a' W h1 h2 ⟨Bx,h3,h4⟩=>h4▸hbody l m pre x Bx W h1 h2 h3) hdone hstop
end Go.Proofs
namespace Cad
open Go Go.Proofs Go.RowKit
open List renaming length→Io
open IntKind renaming wrap→Γ,i64→Δ
open Bool renaming false→Q4,true→Q3
open Option renaming none→Q2,some→Q1
set_option maxHeartbeats 4000000
attribute [local go_sem] Oper.semAt_some
open Tr (chk br)
open AV (nils agg tup ptr kb str sl)
abbrev bx(e:zf)(a:Option Addr)(c:Nat):List Value:=[.string ⟨e.op.toArray⟩,.int .i64 e.v.1,.int .i64 e.v.2.1,.string ⟨e.v.2.2.toArray⟩,.string ⟨e.s.toArray⟩,.slice a e.l.length c]
def nP(w0:World)(U:Nat->Prop)(ρ:Nat->Option Value)(e:zf)(a:Option Addr)(c:Nat):Prop:=dA w0 U ρ (zu .expr e) (bx e a c)
inductive Cd:zf->List zf->Prop
 |leaf {e:zf} (h:e.op≠em):Cd e [e]
 |both {e a b:zf} {la lb:List zf} (h:e.op=em) (hl:e.l=[a,b]) (ha:Cd a la) (hb:Cd b lb):Cd e (la++lb)
theorem nP.child{w0:World}{U:Nat->Prop}{ρ:Nat->Option Value}{e:zf}{a:Option Addr}{c:Nat}(h:nP w0 U ρ e a c){i:Nat}(E:i<e.l.length):
  ∃b o,a=Q1 ⟨b,o,Q2⟩/\b<w0.heap.size/\∃C G,nP w0 U ρ e.l[i] C G/\∀j v,(bx e.l[i] C G)[j]?=Q1 v->w0.cell? ⟨b,o+i*6+j,Q2⟩=Q1 v:=by
 have h5:=h.rv 5 (.sl .expr e.l) _ rfl rfl;obtain⟨C,h1,e1,J,hm,hh⟩:=oU h5;cases e1;rcases hh with h0|⟨b,o,rfl,z⟩
 ·rw[h0]at E;cases E
 have z:=z i E;have e6:Sh.expr.size=6:=rfl;rw[e6]at z;generalize e.l[i]=x at z;obtain⟨x0,I,L⟩:=z 0 (.str x.op) rfl;obtain⟨x1,X,M⟩:=z 1 (.int .i64 x.v.1) rfl;obtain⟨x2,Y,O⟩:=z 2 (.int .i64 x.v.2.1) rfl;obtain⟨x3,Z,S⟩:=z 3 (.str x.v.2.2) rfl;obtain⟨x4,c4,T⟩:=z 4 (.str x.s) rfl;obtain⟨x5,c5,W⟩:=z 5 (.sl .expr x.l) rfl;obtain⟨C,D,rfl,_⟩:=oU W;have q0:=L;have q1:=M;have q2:=O;have q3:=S;have q4:=T;cases L;cases M;cases O;cases S;cases T;refine⟨b,o,rfl,nV I,C,D,⟨rfl,λj cc v B u=>?_⟩,λj v u=>?_⟩
 ·match j,B,u with
  |0,B,u=>cases B;cases u;exact q0
  |1,B,u=>cases B;cases u;exact q1
  |2,B,u=>cases B;cases u;exact q2
  |3,B,u=>cases B;cases u;exact q3
  |4,B,u=>cases B;cases u;exact q4
  |5,B,u=>cases B;cases u;exact W
 ·match j,u with
  |0,u=>cases u;exact I
  |1,u=>cases u;exact X
  |2,u=>cases u;exact Y
  |3,u=>cases u;exact Z
  |4,u=>cases u;exact c4
  |5,u=>cases u;exact c5
end Cad
namespace Go.Proofs
open Cad (Aa aO ae bt dU ea fI g7 iq o7 pK)
open Go.RowKit Go.Shelf
open Bool renaming false→Q4,true→Q3
open Option renaming none→Q2,some→Q1
attribute [local go_sem] Oper.semAt_some
abbrev R12:={l:List Value//l.length=12/\∀v∈l,v.oneCell'=Q3}
theorem run_store_one(v:Value)(h:v.oneCell'=Q3)(w:World)(a:Addr)(hc:(w.cell? a).isSome=Q3)(hf:w.frozen? a=Q4):Sem.run Tryz.prog (store a v) w=.ok () (w.setCell a v):=by
 obtain⟨u,hu⟩:=Option.isSome_iff_exists.1 hc;unfold store;cases v<;>first|(simp[Value.oneCell']at h;done)|simp[Sem.run,hu,hf]
set_option maxRecDepth 100000 in
set_option maxHeartbeats 2000000 in
theorem Tryz.values1_in(F:Fence)(n:Nat)(h7:F.fn 108)(hro:F.round=Q2)(hn:1<=n)(l Bs n₀ b off cap:Nat)(zs:List R12)(hreach:zs.length<=1000)(hb:b<n₀)(J Jx:List R12->World->Prop)(W:World)(hn₀:n₀<=W.heap.size)(hJ:AbidesFrom W.heap.size J)
  (hY:∀pre x W,J pre W->pre.length<zs.length->YieldAt F (n-1) Tryz.prog l #[.agg x.1.toArray] W λe W'=>
   (e=.returned (.bool Q3)/\J (pre++[x]) W'/\Below n₀ W W')\/(e=.returned (.bool Q4)/\Jx (pre++[x]) W'))
  (hBs:W.cell? ⟨Bs,0,Q2⟩=Q1 (.slice (Q1 ⟨b,off,Q2⟩) zs.length cap)) (hc:∀i(hi:i<zs.length),∀j v,zs[i].1[j]?=Q1 v->W.cell? ⟨b,off+i*12+j,Q2⟩=Q1 v) (h0:J [] W):
  CallsIn F n Tryz.prog 108 #[.func (.yield l) #[] #[],.pointer (Q1 ⟨Bs,0,Q2⟩)] W λe W'=>(∃v,e=.returned v)/\
   ((∃ys,ys=zs/\J ys W')\/(∃pre,(∃k,k<=zs.length/\pre=zs.take k)/\Jx pre W')):=by
 refine callsIn_of_wp Tryz.func108 rfl h7 ?_ hro;simp only[Tryz.ntmps108,List.size_toArray,dU,iq,Nat.reduceAdd,Nat.reduceSub,Array.replicate_succ,Array.replicate_zero,List.push_toArray,List.append_toArray,pK,List.cons_append]
 gi_wp2
 gi_loopw [7] (λi wr=>∃k:Nat,k<=zs.length/\i=.int .i64 k/\J (zs.take k) wr/\Below n₀ W wr)
  (λi _=>zs.length-(intOf i).toNat)
 case atStart=>exact⟨0,aO _,rfl,h0,Below.refl _ _⟩
 case round=>
  obtain⟨k,hk,rfl,hJs,hnx⟩:=hrel;by_cases hlt:k<zs.length
  ·have hcx:∀j v,zs[k].1[j]?=Q1 v->wr.cell? ⟨b,off+k*12+j,Q2⟩=Q1 v:=λj v h=>(hnx.cell (p:=⟨b,off+k*12+j,Q2⟩) hb).trans (hc k hlt j v h)
   have hYx:=λW' h=>hY (zs.take k) zs[k] W' h (by rw[o7];omega)
   have htk:zs.take k++[zs[k]]=zs.take (k+1):=List.take_append_getElem hlt;rw[htk]at hYx;generalize hx:zs[k]=x at hYx hcx;obtain⟨xs,hxl,hx1⟩:=x
   match xs,hxl with
   |[v0,v1,v2,v3,v4,v5,v6,v7,v8,v9,v10,v11],_=>
   have c0:=hcx 0 v0 rfl;have c1:=hcx 1 v1 rfl;have c2:=hcx 2 v2 rfl;have c3:=hcx 3 v3 rfl;have c4:=hcx 4 v4 rfl;have c5:=hcx 5 v5 rfl;have c6:=hcx 6 v6 rfl;have c7:=hcx 7 v7 rfl;have c8:=hcx 8 v8 rfl;have c9:=hcx 9 v9 rfl;have c10:=hcx 10 v10 rfl;have c11:=hcx 11 v11 rfl;rw[Aa]at c0;have d0:=run_store_one v0 (hx1 v0 (by simp));have d1:=run_store_one v1 (hx1 v1 (by simp));have d2:=run_store_one v2 (hx1 v2 (by simp));have d3:=run_store_one v3 (hx1 v3 (by simp));have d4:=run_store_one v4 (hx1 v4 (by simp));have d5:=run_store_one v5 (hx1 v5 (by simp));have d6:=run_store_one v6 (hx1 v6 (by simp));have d7:=run_store_one v7 (hx1 v7 (by simp));have d8:=run_store_one v8 (hx1 v8 (by simp));have d9:=run_store_one v9 (hx1 v9 (by simp));have d10:=run_store_one v10 (hx1 v10 (by simp));have d11:=run_store_one v11 (hx1 v11 (by simp));have hJa:J (zs.take k) (wr.alloc (.cells #[v0,v1,v2,v3,v4,v5,v6,v7,v8,v9,v10,v11] 47)):=hJ _ _ _ Q2 hJs (World.grownBy_alloc _ _ _) (λr e=>by cases e);have hba:Below n₀ wr (wr.alloc (.cells #[v0,v1,v2,v3,v4,v5,v6,v7,v8,v9,v10,v11] 47)):=(Below.refl _ _).alloc (by have:=hnx.size;omega) _;obtain⟨fn,tmps,assign,body,hy,hR⟩:=hYx _ hJa
   dsimp only at hy hR
   gi_wp2
   refine hR.mono ?_;rintro e W3 (⟨rfl,hJ3,hk3⟩|⟨rfl,hJx3⟩)
   ·gi_wp2
    go_roundw
    case rel=>exact⟨k+1,by omega,by simp,hJ3,(hnx.trans hba).trans hk3⟩
    case measure=>simp[intOf];omega
   ·gi_wp2
    refine bodyPost_ret (results_none rfl _ _ _) rfl ?_;exact⟨⟨_,rfl⟩,.inr ⟨_,⟨k+1,by omega,rfl⟩,hJx3⟩⟩
  ·obtain rfl:k=zs.length:=by omega
   gi_wp2
   go_end0
   exact⟨⟨_,rfl⟩,.inl ⟨_,rfl,by rwa [fI]at hJs⟩⟩
theorem Tryz.values_stops(F:Fence)(n:Nat)(h7:F.fn 108)(hro:F.round=Q2)(hn:1<=n)(Bs n₀ b off cap:Nat)(zs:List R12)(hreach:zs.length<=1000)(w:World)(hBs:Bs<w.heap.size)(hn₀:n₀<=w.heap.size)(hb:b<n₀)
  (hs:w.cell? ⟨Bs,0,Q2⟩=Q1 (.slice (Q1 ⟨b,off,Q2⟩) zs.length cap)) (hc:∀i(hi:i<zs.length),∀j v,zs[i].1[j]?=Q1 v->w.cell? ⟨b,off+i*12+j,Q2⟩=Q1 v):
  SeqStopsK F n Tryz.prog 108 #[.pointer (Q1 ⟨Bs,0,Q2⟩)] (λx:R12=>#[.agg x.1.toArray]) (Below n₀) (λys=>ys=zs) (λpre=>pre<+:zs) zs.length w:=λl J Jx W hW hJ _ hY h0=>by
 refine(Tryz.values1_in F n h7 hro hn l Bs n₀ b off cap zs hreach hb J Jx W (bt hn₀ hW.size) hJ hY ((hW.cell (p:=⟨Bs,0,Q2⟩) hBs).trans hs) (λi hi j v h=>(hW.cell (p:=⟨b,off+i*12+j,Q2⟩) (g7 hb hn₀)).trans (hc i hi j v h)) h0).mono ?_;rintro e W' ⟨he,⟨ys,hy,hj⟩|⟨pre,⟨k,hk,rfl⟩,hj⟩⟩
 ·exact⟨he,.inl ⟨ys,hy,hj⟩⟩
 ·exact⟨he,.inr ⟨_,List.take_prefix _ _,hj⟩⟩
theorem Tryz.info47:(Tryz.prog.info? 47).map (λi=>(i.zero,i.size,i.bytes))=Q1 (Q1 (.agg #[.string ⟨#[]⟩,.slice Q2 0 0,.int .i64 0,.slice Q2 0 0,.slice Q2 0 0,.string ⟨#[]⟩,.int .i64 0,.int .i64 0,.string ⟨#[]⟩,.string ⟨#[]⟩,.slice Q2 0 0,.slice Q2 0 0]),12,208):=by kernel_rfl
def flat12(l:List R12):List Value:=l.flatMap λx=>x.1
theorem flat12_snoc(l:List R12)(x:R12):flat12 (l++[x])=flat12 l++x.1:=by simp[flat12]
theorem cell_row_new(w:World)(l:List Value)(t:TypeId):∀j u,l[j]?=Q1 u->(w.alloc (.cells l.toArray t)).cell? ((⟨w.heap.size,0,Q2⟩:Addr).add j)=Q1 u:=by
 intro j u h;unfold Addr.add;split
 ·rename_i e;subst e;simp[h]
 ·simp[h]
theorem cells_own(B:Nat)(vs:Array Value)(t:TypeId):Own (λ(_:Unit) W=>W.heap[B]?=Q1 (.cells vs t (0,0))):=λs X Y row hs hg hrow=>
 (hg.block B (ea.1 hs).1 (λe'=>by obtain⟨o,ho,hc⟩:=hrow B e'.symm;rw[hs]at ho;cases ho;cases hc)).trans hs
set_option maxRecDepth 100000 in
set_option maxHeartbeats 2000000 in
theorem Tryz.appendSeq_in(F:Fence)(n:Nat)(h3:F.fn 148)(h5:F.fn 108)(hro:F.round=Q2)(hn:3<=n)(Bs b off cap:Nat)(zs:List R12)(hreach:zs.length<=1000)(w:World)(hBs:Bs<w.heap.size)(hb:b<w.heap.size)
  (hs:w.cell? ⟨Bs,0,Q2⟩=Q1 (.slice (Q1 ⟨b,off,Q2⟩) zs.length cap)) (hc:∀i(hi:i<zs.length),∀j v,zs[i].1[j]?=Q1 v->w.cell? ⟨b,off+i*12+j,Q2⟩=Q1 v):
  CallsIn F n Tryz.prog 148 #[.slice Q2 0 0,.func (.func 108) #[] #[.pointer (Q1 ⟨Bs,0,Q2⟩)]] w λe W'=>∃v,e=.returned v/\W'.ownsRow w.heap.size 47 12 v zs.length (flat12 zs)/\Below w.heap.size w W':=by
 have h1:1<=n:=by omega
 obtain⟨i0,hi,hz0,hz1,hz2⟩:=info_parts Tryz.info47;refine callsIn_of_wp_marks Tryz.func148 rfl h3 ?_ hro;simp only[Tryz.ntmps148,List.size_toArray,dU,iq,Nat.reduceAdd,Nat.reduceSub,Array.replicate_succ,Array.replicate_zero,List.push_toArray,List.append_toArray,pK,List.cons_append]
 gi_wp2
 have bO:=Boxed.new w 22 (.slice Q2 0 0);have hB0:Below w.heap.size w (w.alloc (.cells #[.slice Q2 0 0] 22)):=(Below.refl _ w).alloc (ae _) _
 refine wpIn_rangeFunc_ownH hro h1 (gf:=108) (lb:=#[.pointer (Q1 ⟨Bs,0,Q2⟩)]) rfl h5 (enters_of Tryz.func108 (by kernel_rfl) rfl)
  (Tryz.values_stops F (n-1) h5 hro (by omega) Bs w.heap.size b off cap zs hreach _ (by simp<;>omega) (by simp) hb ((hB0.cell (p:=⟨Bs,0,Q2⟩) hBs).trans hs) (λi hi j v h=>(hB0.cell (p:=⟨b,off+i*12+j,Q2⟩) hb).trans (hc i hi j v h))) belowK_t (belowK_b (by simp<;>omega)) (Below.refl _ _) (λ_=>rfl)
  (λpre W=>(∃v,Boxed W w.heap.size 22 v/\W.ownsRow w.heap.size 47 12 v pre.length (flat12 pre)/\(v=.slice Q2 0 0↔pre=[]))/\Below w.heap.size w W)
  (λ_ _ _=>False)
  (OwnFrom.and (Own.from (holdsRow_own w.heap.size w.heap.size 22 47 12 (λpre=>pre.length) (λpre=>flat12 pre) (λpre v=>v=.slice Q2 0 0↔pre=[])) _) (ownFrom_below (ae _) (by simp<;>omega)))
  (λ_ _ _ _ _ hs _ _=>hs)
  ⟨⟨_,bO,World.ownsRow_nil _ _ _ _,by simp⟩,hB0⟩
  (λx a' W=>∃Bx,w.heap.size<Bx/\W.heap[Bx]?=Q1 (.cells x.1.toArray 47 (0,0))/\a'={tmps:=#[.slice Q2 0 0,.func (.func 108) #[] #[.pointer (Q1 ⟨Bs,0,Q2⟩)],.pointer (Q1 ⟨w.heap.size,0,Q2⟩),undef,.slice Q2 0 0,.pointer (Q1 ⟨Bx,0,Q2⟩),.func (.func 108) #[] #[.pointer (Q1 ⟨Bs,0,Q2⟩)],.agg x.1.toArray,undef,undef,undef,undef,undef],defers:=[]})
  (λx a' _ X Y row hs hg hr=>by obtain⟨Bx,h1,h2,h3⟩:=hs;exact⟨Bx,h1,cells_own Bx x.1.toArray 47 () X Y row h2 hg (λr e=>(hr r e).2),h3⟩)
  ?assign ?body ?done ?stop
 case assign=>
  rintro l pre ⟨xs,hxl,hx1⟩ W K ⟨⟨v,hv,hrow,hnil⟩,hB⟩ hK
  match xs,hxl with
  |[v0,v1,v2,v3,v4,v5,v6,v7,v8,v9,v10,v11],_=>
  have d0:=run_store_one v0 (hx1 v0 (by simp));have d1:=run_store_one v1 (hx1 v1 (by simp));have d2:=run_store_one v2 (hx1 v2 (by simp));have d3:=run_store_one v3 (hx1 v3 (by simp));have d4:=run_store_one v4 (hx1 v4 (by simp));have d5:=run_store_one v5 (hx1 v5 (by simp));have d6:=run_store_one v6 (hx1 v6 (by simp));have d7:=run_store_one v7 (hx1 v7 (by simp));have d8:=run_store_one v8 (hx1 v8 (by simp));have d9:=run_store_one v9 (hx1 v9 (by simp));have d10:=run_store_one v10 (hx1 v10 (by simp));have d11:=run_store_one v11 (hx1 v11 (by simp))
  gi_wp2
  exact hK _ _ ((KeepsOthers.alloc _ _).from _) ((Below.refl _ W).alloc hB.size _) ⟨⟨v,hv.alloc _,hrow.alloc _,hnil⟩,hB.alloc hB.size _⟩ ⟨W.heap.size,hv.lt,World.alloc_heap_new W _,rfl⟩
 case body=>
  rintro l pre ⟨xs,hxl,hx1⟩ a' W hl ⟨r,hr⟩ ⟨⟨v,hv,hrow,hnil⟩,hB⟩ ⟨Bx,hBx,hX,rfl⟩ hlt
  match xs,hxl with
  |[v0,v1,v2,v3,v4,v5,v6,v7,v8,v9,v10,v11],_=>
  have hcv:=hv.cell
  dsimp only at hX
  have c0:W.cell? ⟨Bx,0,Q2⟩=Q1 v0:=by simp[World.cell?,hX]
  have c1:W.cell? ⟨Bx,1,Q2⟩=Q1 v1:=by simp[World.cell?,hX]
  have c2:W.cell? ⟨Bx,2,Q2⟩=Q1 v2:=by simp[World.cell?,hX]
  have c3:W.cell? ⟨Bx,3,Q2⟩=Q1 v3:=by simp[World.cell?,hX]
  have c4:W.cell? ⟨Bx,4,Q2⟩=Q1 v4:=by simp[World.cell?,hX]
  have c5:W.cell? ⟨Bx,5,Q2⟩=Q1 v5:=by simp[World.cell?,hX]
  have c6:W.cell? ⟨Bx,6,Q2⟩=Q1 v6:=by simp[World.cell?,hX]
  have c7:W.cell? ⟨Bx,7,Q2⟩=Q1 v7:=by simp[World.cell?,hX]
  have c8:W.cell? ⟨Bx,8,Q2⟩=Q1 v8:=by simp[World.cell?,hX]
  have c9:W.cell? ⟨Bx,9,Q2⟩=Q1 v9:=by simp[World.cell?,hX]
  have c10:W.cell? ⟨Bx,10,Q2⟩=Q1 v10:=by simp[World.cell?,hX]
  have c11:W.cell? ⟨Bx,11,Q2⟩=Q1 v11:=by simp[World.cell?,hX]
  gi_wp2_with (gi_at_builtin;refine wpListIn_append_own _ rfl _ _ 22 rfl w.heap.size 47 i0 _ 12 208 Tryz.underlying22 hi hz0 hz1 hz2 rfl (by decide) _ _ _ rfl (hrow.alloc _) ⟨W.heap.size,0,Q2⟩ 1 1 [v0,v1,v2,v3,v4,v5,v6,v7,v8,v9,v10,v11] rfl rfl (cell_row_new _ _ _) hx1 (by unfold maxLen;omega) (by omega) (by have:=hB.size;simp;omega) ?_;intro v' w1 hown' hgrow _;obtain⟨g',cap',rfl⟩:=ownsRow_succ hown';obtain⟨hv1,hv2,hr2,hk2,hb2⟩:=hv.appended (by decide) hrow hB.size (ae _) hown' hgrow;have hc1:=hv1.cell;have hf1:=hv1.frozen)
  exact⟨hk2.from _,hb2,⟨_,hv2,by rw[flat12_snoc];simpa using hr2,by simp⟩,hB.trans hb2⟩
 case done=>
  rintro D ys W hD rfl ⟨⟨v,hv,hrow,hnil⟩,hB⟩ hK;have hc:=hv.cell
  gi_wp2
  refine⟨by simp,.inl ⟨_,_,rfl,run_takeDeferred hK,?_⟩⟩;exact⟨_,results_tmp rfl _ _ _,v,rfl,ownsRow_putObj hrow _ hK rfl,hB.trans (belowK_b (w:=w) (ae _) W D _ _ (by simp at hD;omega) hK rfl rfl)⟩
 case stop=>
  rintro D c pre W _ _ h _;exact h.elim
set_option maxHeartbeats 1000000 in
theorem Tryz.collect_in(F:Fence)(n:Nat)(h2:F.fn 106)(h3:F.fn 148)(h5:F.fn 108)(hro:F.round=Q2)(hn:4<=n)(Bs b off cap:Nat)(zs:List R12)(hreach:zs.length<=1000)(w:World)(hBs:Bs<w.heap.size)(hb:b<w.heap.size)
  (hs:w.cell? ⟨Bs,0,Q2⟩=Q1 (.slice (Q1 ⟨b,off,Q2⟩) zs.length cap)) (hc:∀i(hi:i<zs.length),∀j v,zs[i].1[j]?=Q1 v->w.cell? ⟨b,off+i*12+j,Q2⟩=Q1 v):
  CallsIn F n Tryz.prog 106 #[.func (.func 108) #[] #[.pointer (Q1 ⟨Bs,0,Q2⟩)]] w λe W'=>∃v,e=.returned v/\W'.ownsRow w.heap.size 47 12 v zs.length (flat12 zs)/\Below w.heap.size w W':=by
 have h1:1<=n:=by omega
 refine callsIn_of_wp Tryz.func106 rfl h2 ?_ hro;simp only[Tryz.ntmps106,List.size_toArray,dU,iq,Nat.reduceAdd,Nat.reduceSub,Array.replicate_succ,Array.replicate_zero,List.push_toArray,List.append_toArray,pK,List.cons_append]
 gi_wp2_with (gi_at_call 148;refine(Tryz.appendSeq_in F (n-1) h3 h5 hro (by omega) Bs b off cap zs hreach w hBs hb hs hc).mono ?_;rintro e w' ⟨v,rfl,hv1,hv2⟩)
 go_ret
 exact⟨v,rfl,hv1,hv2⟩
end Go.Proofs
namespace Cad
open Go Go.Proofs Go.RowKit
open List renaming length→Io
open IntKind renaming wrap→Γ,i64→Δ
open Bool renaming false→Q4,true→Q3
open Option renaming none→Q2,some→Q1
set_option maxHeartbeats 4000000
set_option maxRecDepth 100000
attribute [local go_sem] Oper.semAt_some
open Tr (chk br)
open AV (nils agg tup ptr kb str sl)
abbrev TD(w0:World)(U:Nat->Prop)(ρ:Nat->Option Value):={x:zf×Option Addr×Nat//nP w0 U ρ x.1 x.2.1 x.2.2}
abbrev NJ{w0:World}{U:Nat->Prop}{ρ:Nat->Option Value}(x:TD w0 U ρ):Array Value:=#[.agg (bx x.1.1 x.1.2.1 x.1.2.2).toArray]
theorem pQ{W:World}{B:Nat}{e:zf}{a:Option Addr}{c:Nat}(h:W.heap[B]?=Q1 (.cells (bx e a c).toArray 30 (0,0))):
  W.cell? ⟨B,0,Q2⟩=Q1 (.string ⟨e.op.toArray⟩)/\W.cell? ⟨B,1,Q2⟩=Q1 (.int .i64 e.v.1)/\W.cell? ⟨B,2,Q2⟩=Q1 (.int .i64 e.v.2.1)/\W.cell? ⟨B,3,Q2⟩=Q1 (.string ⟨e.v.2.2.toArray⟩)/\
   W.cell? ⟨B,4,Q2⟩=Q1 (.string ⟨e.s.toArray⟩)/\W.cell? ⟨B,5,Q2⟩=Q1 (.slice a e.l.length c):=by
 refine⟨?_,?_,?_,?_,?_,?_⟩<;>simp[World.cell?,h]
variable {F:Fence} {w0:World} {U:Nat->Prop} {ρ:Nat->Option Value}
theorem zaY(hd:F.depth=Q2)(D:F.fn 81)(S:F.round=Q2){e:zf}{a:Option Addr}{c:Nat}(T:nP w0 U ρ e a c)(z:e.op≠[97,110,100])(n u B:Nat)(J Jx:List (TD w0 U ρ)->World->Prop)(W:World)(hn:w0.heap.size<=W.heap.size)
  (Z:W.heap[B]?=Q1 (.cells (bx e a c).toArray 30 (0,0))) (hJ:OwnFrom W.heap.size J)
  (hY:∀m pre x W1,J pre W1->YieldAt F m Tryz.prog u (NJ x) W1 λe o=>KeepsAll W.heap.size W1 o/\((e=.returned (.bool Q3)/\J (pre++[x]) o/\Below w0.heap.size W1 o)\/(e=.returned (.bool Q4)/\Jx (pre++[x]) o)))
  (h0:J [] W):
  CallsIn F n Tryz.prog 81 #[.func (.yield u) #[] #[],.pointer (Q1 ⟨B,0,Q2⟩)] W λY o=>(∃v,Y=.returned v)/\((J [⟨(e,a,c),T⟩] o/\Below w0.heap.size W o)\/Jx [⟨(e,a,c),T⟩] o):=by
 have O:=(ea.1 Z).1;have L:Below w0.heap.size W (W.alloc (.cells #[.func (.yield u) #[] #[]] 86)):=(Below.refl _ W).alloc hn _;have E:(W.alloc (.cells #[.func (.yield u) #[] #[]] 86)).heap[B]?=Q1 (.cells (bx e a c).toArray 30 (0,0)):=(Below.heap_alloc W _ B O).trans Z;obtain⟨c0,c1,c2,c3,c4,c5⟩:=pQ E;have h2:(W.alloc (.cells #[.func (.yield u) #[] #[]] 86)).cell? ⟨W.heap.size,0,Q2⟩=Q1 (.func (.yield u) #[] #[]):=by simp
 have h1:((⟨e.op.toArray⟩:ByteArray)=={data:=#[97,110,100]})=Q4:=by
  rw[show({data:=#[97,110,100]}:ByteArray)=⟨([97,110,100]:List UInt8).toArray⟩from rfl,sr];simpa using z
 have M:∀k:Nat,(F.depth.isSome=Q3->1<=k):=λk h=>by rw[hd]at h;cases h
 obtain⟨fn,tmps,C,body,hy,hR⟩:=hY (n-1) [] ⟨(e,a,c),T⟩ (W.alloc (.cells #[.func (.yield u) #[] #[]] 86)) (hJ.alloc _ h0);refine callsIn_of_wp_marks Tryz.func81 rfl D ?_ S;simp only[Tryz.ntmps81,List.size_toArray,dU,iq,Nat.reduceAdd,Nat.reduceSub,Array.replicate_succ,Array.replicate_zero,List.push_toArray,List.append_toArray,pK,List.cons_append]
 gi_wp2_with ((try refine⟨M _,?_⟩);refine hR.mono ?_;rintro Y W3 ⟨hk,(⟨rfl,G,I⟩|⟨rfl,X⟩)⟩)
 ·exact⟨_,results_none rfl _ _ _,⟨_,rfl⟩,.inl ⟨G,L.trans I⟩⟩
 ·exact⟨_,results_none rfl _ _ _,⟨_,rfl⟩,.inr X⟩
 ·rename_i hb;exact absurd (by simpa using hb) z
theorem IZ(h:F.fn 36)(o:F.round=Q2)(n:Nat)(e:zf)(a:Option Addr)(c:Nat)(w:World):
  CallsIn F n Tryz.prog 36 #[.agg (bx e a c).toArray] w λu z=>u=.returned (.func (.func 81) #[] #[.pointer (Q1 ⟨w.heap.size,0,Q2⟩)])/\z=w.alloc (.cells (bx e a c).toArray 30):=by
 refine callsIn_of_wp Tryz.func36 rfl h ?_ o;simp only[Tryz.ntmps36,List.size_toArray,dU,iq,Nat.reduceAdd,Nat.reduceSub,Array.replicate_succ,Array.replicate_zero,List.push_toArray,List.append_toArray,pK,List.cons_append]
 gi_wp2
 go_ret
 exact⟨rfl,rfl⟩
def JI:Code->Option (Code×Code)
 |.rangeFunc _ _ a b=>Q1 (a,b)
 |.seq a b=>(JI a).or (JI b)
 |.cond _ a b=>(JI a).or (JI b)
 |.block _ a|.loop a|.scope a=>JI a
 |_=>Q2
def rfA(f:Func):Code:=((f.body.bind JI).map (·.1)).getD .skip
def rfB(f:Func):Code:=((f.body.bind JI).map (·.2)).getD .skip
theorem Ra(hd:F.depth=Q2)(x3:F.fn 81)(x9:F.round=Q2){lx:List zf}(n ln yb Bs:Nat)(J Jx:List (TD w0 U ρ)->World->Prop)(W z:World)
  (a3:SeqO F Tryz.prog 81 #[.pointer (Q1 ⟨Bs,0,Q2⟩)] (NJ (w0:=w0) (U:=U) (ρ:=ρ)) w0.heap.size (λu=>u.map (·.1.1)=lx) (λu=>u.map (·.1.1)<+:lx) z)
  (hw:w0.heap.size<=W.heap.size) (hJ:OwnFrom W.heap.size J) (x6:OwnFrom W.heap.size Jx)
  (hY:∀m pre x W1,J pre W1->YieldAt F m Tryz.prog ln (NJ x) W1 λe o=>KeepsAll W.heap.size W1 o/\((e=.returned (.bool Q3)/\J (pre++[x]) o/\Below w0.heap.size W1 o)\/(e=.returned (.bool Q4)/\Jx (pre++[x]) o)))
  (pre:List (TD w0 U ρ)) (a1:W.heap.size<=yb) (a2:z.heap[yb]?=Q1 (.cells #[.func (.yield ln) #[] #[]] 86 (0,0))) (h9:W.heap.size<=z.heap.size) (x5:J pre z) (ds:List Deferred)
  (t0 t1 t3 t4 t5 t6 t7 t8 t9 G I L M O S T Z h0 h1 x2 h4 h5 h6 h7 h8:Value) (Q:Exit->Act->World->Prop)
  (x0:∀u o,u.map (·.1.1)=lx->J (pre++u) o->Below w0.heap.size z o->KeepsAll W.heap.size z o->o.heap[z.heap.size]?=Q1 (.deferred (Q1 []))->Q .normal {tmps:=#[t0,t1,.pointer (Q1 ⟨yb,0,Q2⟩),t3,t4,t5,t6,t7,t8,t9,G,I,L,M,O,S,T,Z,h0,h1,.func (.func 81) #[] #[.pointer (Q1 ⟨Bs,0,Q2⟩)],x2,h4,h5,h6,h7,h8],defers:={target:=.collected z.heap.size,args:=#[]}::ds} o)
  (x1:∀u o,u.map (·.1.1)<+:lx->Jx (pre++u) o->KeepsAll W.heap.size z o->o.heap[z.heap.size]?=Q1 (.deferred (Q1 []))->Code.ret.wpIn F n Tryz.prog Q {tmps:=#[t0,t1,.pointer (Q1 ⟨yb,0,Q2⟩),t3,t4,t5,t6,t7,t8,t9,G,I,L,M,O,S,T,Z,h0,h1,.func (.func 81) #[] #[.pointer (Q1 ⟨Bs,0,Q2⟩)],x2,h4,h5,h6,h7,h8],defers:={target:=.collected z.heap.size,args:=#[]}::ds} o):
  (Code.rangeFunc (.tmp 20) #[21] (rfA Tryz.f81) (rfB Tryz.f81)).wpIn F n Tryz.prog Q {tmps:=#[t0,t1,.pointer (Q1 ⟨yb,0,Q2⟩),t3,t4,t5,t6,t7,t8,t9,G,I,L,M,O,S,T,Z,h0,h1,.func (.func 81) #[] #[.pointer (Q1 ⟨Bs,0,Q2⟩)],x2,h4,h5,h6,h7,h8],defers:=ds} z:=by
 have x7:∀k:Nat,(F.depth.isSome=Q3->1<=k):=λk h=>by rw[hd]at h;cases h
 refine wpIn_rangeO hd x9 (gf:=81) (lb:=#[.pointer (Q1 ⟨Bs,0,Q2⟩)]) rfl x3 (enters_of Tryz.func81 kw rfl) a3 (Below.refl _ _) (bt hw h9) (λ_=>rfl)
  (λu o=>J (pre++u) o/\KeepsAll W.heap.size z o) (λu o=>Jx (pre++u) o/\KeepsAll W.heap.size z o)
  (OwnFrom.and (λs X Y B hs hg hr=>hJ _ X Y B hs hg λr e=>⟨by have:=(hr r e).1;omega,(hr r e).2⟩) (ownFrom_keepsAll (ae _)))
  (OwnFrom.and (λs X Y B hs hg hr=>x6 _ X Y B hs hg λr e=>⟨by have:=(hr r e).1;omega,(hr r e).2⟩) (ownFrom_keepsAll (ae _)))
  ⟨by simpa using x5,KeepsAll.refl _ _⟩
  (λx a' o=>∃Bx,o.heap[Bx]?=Q1 (.cells (bx x.1.1 x.1.2.1 x.1.2.2).toArray 30 (0,0))/\a'={tmps:=#[t0,t1,.pointer (Q1 ⟨yb,0,Q2⟩),t3,t4,.pointer (Q1 ⟨Bx,0,Q2⟩),t6,t7,t8,t9,G,I,L,M,O,S,T,Z,h0,h1,.func (.func 81) #[] #[.pointer (Q1 ⟨Bs,0,Q2⟩)],.agg (bx x.1.1 x.1.2.1 x.1.2.2).toArray,h4,h5,h6,h7,h8],defers:=[]})
  (λx a' _ X Y B hs hg hr=>by obtain⟨Bx,h2,h3⟩:=hs;exact⟨Bx,cells_own Bx _ 30 () X Y B h2 hg (λr e=>(hr r e).2),h3⟩)
  ?assign ?body ?done ?stop
 case assign=>
  rintro l m u ⟨⟨e,a,c⟩,hx⟩ W1 K x8 ⟨hi,C⟩ hK;simp only[rfA,JI,Tryz.f81,Option.or,Option.bind_some,yZ,dv]
  gi_wp2
  exact hK _ _ (KeepsAll.alloc _ _ _) ((Below.refl _ W1).alloc ow _) ⟨hJ.alloc _ hi,C.trans (KeepsAll.alloc _ _ _)⟩ ⟨W1.heap.size,World.alloc_heap_new W1 _,rfl⟩
 case body=>
  rintro l m u ⟨⟨e,a,c⟩,hx⟩ a' W1 x8 ⟨hi,C⟩ ⟨Bx,hB,rfl⟩;simp only[rfB,JI,Tryz.f81,Option.or,Option.bind_some,yZ,dv];obtain⟨c0,c1,c2,c3,c4,c5⟩:=pQ hB;have a4:W1.cell? ⟨yb,0,Q2⟩=Q1 (.func (.yield ln) #[] #[]):=by simp[World.cell?,C.same _ _ a1 a2]
  obtain⟨fn,tmps,assign,body,hy,hR⟩:=hY (m-1) _ ⟨(e,a,c),hx⟩ W1 hi
  gi_wp2_with ((try refine⟨x7 _,?_⟩);refine hR.mono ?_;rintro e' W3 ⟨E,(⟨rfl,x4,a5⟩|⟨rfl,a0⟩)⟩)
  ·exact⟨E.more h9,by simpa using x4,C.trans E⟩
  ·exact⟨E.more h9,by simpa using a0,C.trans E⟩
 case done=>
  rintro D u o rfl hS ⟨hj,C⟩ hb hK;exact x0 u o hS hj hb C hK
 case stop=>
  rintro D u o rfl hS ⟨hj,C⟩ hK;exact x1 u o hS hj C hK
theorem zam(hd:F.depth=Q2)(h8:F.fn 36)(h1:F.fn 81)(I:F.round=Q2){e x y:zf}{lx ly:List zf}{a:Option Addr}{c:Nat}(hx:nP w0 U ρ e a c)(a4:e.op=[97,110,100])(hl:e.l=[x,y])
  (a7:∀a c(_:nP w0 U ρ x a c)(w:World)(L:Nat),Below w0.heap.size w0 w->w.heap[L]?=Q1 (.cells (bx x a c).toArray 30 (0,0))->
   SeqO F Tryz.prog 81 #[.pointer (Q1 ⟨L,0,Q2⟩)] (NJ (w0:=w0) (U:=U) (ρ:=ρ)) w0.heap.size (λys=>ys.map (·.1.1)=lx) (λys=>ys.map (·.1.1)<+:lx) w)
  (a8:∀a c(_:nP w0 U ρ y a c)(w:World)(L:Nat),Below w0.heap.size w0 w->w.heap[L]?=Q1 (.cells (bx y a c).toArray 30 (0,0))->
   SeqO F Tryz.prog 81 #[.pointer (Q1 ⟨L,0,Q2⟩)] (NJ (w0:=w0) (U:=U) (ρ:=ρ)) w0.heap.size (λys=>ys.map (·.1.1)=ly) (λys=>ys.map (·.1.1)<+:ly) w)
  (n M L:Nat) (J Jx:List (TD w0 U ρ)->World->Prop) (W:World) (hw:Below w0.heap.size w0 W)
  (hB:W.heap[L]?=Q1 (.cells (bx e a c).toArray 30 (0,0))) (X:OwnFrom W.heap.size J) (G:OwnFrom W.heap.size Jx)
  (hY:∀m pre x W1,J pre W1->YieldAt F m Tryz.prog M (NJ x) W1 λe Z=>KeepsAll W.heap.size W1 Z/\((e=.returned (.bool Q3)/\J (pre++[x]) Z/\Below w0.heap.size W1 Z)\/(e=.returned (.bool Q4)/\Jx (pre++[x]) Z)))
  (h0:J [] W):
  CallsIn F n Tryz.prog 81 #[.func (.yield M) #[] #[],.pointer (Q1 ⟨L,0,Q2⟩)] W λe' Z=>(∃v,e'=.returned v)/\
   ((∃xs:List (TD w0 U ρ),xs.map (·.1.1)=lx++ly/\J xs Z/\Below w0.heap.size W Z)\/(∃pre:List (TD w0 U ρ),pre.map (·.1.1)<+:lx++ly/\Jx pre Z)):=by
 have hn:=hw.size;have a3:=(ea.1 hB).1;have h3:Below w0.heap.size W (W.alloc (.cells #[.func (.yield M) #[] #[]] 86)):=(Below.refl _ W).alloc hn _;have h9:(W.alloc (.cells #[.func (.yield M) #[] #[]] 86)).heap[L]?=Q1 (.cells (bx e a c).toArray 30 (0,0)):=(Below.heap_alloc W _ L a3).trans hB;obtain⟨c0,c1,c2,c3,c4,c5⟩:=pQ h9;have x3:=X.alloc (.cells #[.func (.yield M) #[] #[]] 86) h0;obtain⟨W1,h2⟩:∃W1,W.alloc (.cells #[.func (.yield M) #[] #[]] 86)=W1:=⟨_,rfl⟩;have x6:W1.heap.size=W.heap.size+1:=by rw[<-h2];simp
 have h6:W1.heap[W.heap.size]?=Q1 (.cells #[.func (.yield M) #[] #[]] 86 (0,0)):=by rw[<-h2];exact World.alloc_heap_new W _
 rw[h2]at h3 h9 x3 c0 c1 c2 c3 c4 c5;have i3:W1.cell? ⟨W.heap.size,0,Q2⟩=Q1 (.func (.yield M) #[] #[]):=by simp[World.cell?,h6]
 have i2:((⟨e.op.toArray⟩:ByteArray)=={data:=#[97,110,100]})=Q3:=by
  rw[show({data:=#[97,110,100]}:ByteArray)=⟨([97,110,100]:List UInt8).toArray⟩from rfl,sr,a4];rfl
 have i1:e.l.length=2:=by rw[hl];rfl
 obtain⟨b,o,rfl,C,S,T,x7,rx⟩:=hx.child (i:=0) ow;obtain⟨b',o',e',_,D,E,x8,ry⟩:=hx.child (i:=1) ow;cases e';simp only[hl,List.getElem_cons_zero,List.getElem_cons_succ]at x7 x8 rx ry;have i0:∀k:Nat,(F.depth.isSome=Q3->1<=k):=λk h=>by rw[hd]at h;cases h
 refine callsIn_of_wp_marks Tryz.func81 rfl h1 ?_ I;simp only[Tryz.ntmps81,List.size_toArray,dU,iq,Nat.reduceAdd,Nat.reduceSub,Array.replicate_succ,Array.replicate_zero,List.push_toArray,List.append_toArray,pK,List.cons_append]
 gi_wp2
 have u:=hw.trans h3;have q0:=(u.cell (p:=⟨b,o,Q2⟩) C).trans (rx 0 _ rfl);have q1:=(u.cell (p:=⟨b,o+1,Q2⟩) C).trans (by simpa using rx 1 _ rfl);have q2:=(u.cell (p:=⟨b,o+2,Q2⟩) C).trans (by simpa using rx 2 _ rfl);have q3:=(u.cell (p:=⟨b,o+3,Q2⟩) C).trans (by simpa using rx 3 _ rfl);have q4:=(u.cell (p:=⟨b,o+4,Q2⟩) C).trans (by simpa using rx 4 _ rfl);have q5:=(u.cell (p:=⟨b,o+5,Q2⟩) C).trans (by simpa using rx 5 _ rfl);refine wpIn_loop_rounds 3 ?_;rw[roundsIn_succ]
 gi_wp2_with (gi_at_call 36;refine(IZ h8 I (n-1) x S T _).mono ?_;rintro e' w' ⟨rfl,rfl⟩)
 have x4:Below w0.heap.size w0 ((W1.alloc (.cells (bx x S T).toArray 30)).alloc (.cells (bx x S T).toArray 30)):=u.trans (((Below.refl _ W1).alloc ow _).alloc sg _);have x0:((W1.alloc (.cells (bx x S T).toArray 30)).alloc (.cells (bx x S T).toArray 30)).heap[W.heap.size+1+1]?=Q1 (.cells (bx x S T).toArray 30 (0,0)):=by
  have:=World.alloc_heap_new (W1.alloc (.cells (bx x S T).toArray 30)) (.cells (bx x S T).toArray 30)
  rwa [World.size_alloc,x6]at this
 refine Ra hd h1 I n M W.heap.size _ J Jx W _ (a7 S T x7 _ _ x4 x0) hn X G hY [] (ae _) ?_ sg (X.alloc _ (X.alloc _ x3)) [] _ _ _ _ _ _ _ _ _ _ _ _ _ _ _ _ _ _ _ _ _ _ _ _ _ _ ?_ ?_
 ·exact(Below.heap_alloc _ _ _ sg).trans ((Below.heap_alloc _ _ _ ow).trans h6)
 ·intro xs O Y x9 x5 h4 hD;have z:=x4.trans x5;have p0:=(z.cell (p:=⟨b,o+6,Q2⟩) C).trans (ry 0 _ rfl);have p1:=(z.cell (p:=⟨b,o+6+1,Q2⟩) C).trans (by simpa using ry 1 _ rfl);have p2:=(z.cell (p:=⟨b,o+6+2,Q2⟩) C).trans (by simpa using ry 2 _ rfl);have p3:=(z.cell (p:=⟨b,o+6+3,Q2⟩) C).trans (by simpa using ry 3 _ rfl);have p4:=(z.cell (p:=⟨b,o+6+4,Q2⟩) C).trans (by simpa using ry 4 _ rfl);have p5:=(z.cell (p:=⟨b,o+6+5,Q2⟩) C).trans (by simpa using ry 5 _ rfl)
  gi_wp2
  rw[roundsIn_succ];have a9:W.heap.size+3<=O.heap.size:=by have:=h4.size;rw[World.size_alloc,World.size_alloc]at this;omega
  gi_wp2_with (gi_at_call 36;refine(IZ h8 I (n-1) y D E _).mono ?_;rintro e' w' ⟨rfl,rfl⟩)
  have a1:Below w0.heap.size w0 ((O.alloc (.cells (bx y D E).toArray 30)).alloc (.cells (bx y D E).toArray 30)):=z.trans (((Below.refl _ O).alloc ow _).alloc sg _);have x1:((O.alloc (.cells (bx y D E).toArray 30)).alloc (.cells (bx y D E).toArray 30)).heap[O.heap.size+1]?=Q1 (.cells (bx y D E).toArray 30 (0,0)):=by
   have:=World.alloc_heap_new (O.alloc (.cells (bx y D E).toArray 30)) (.cells (bx y D E).toArray 30)
   rwa [World.size_alloc]at this
  rw[World.size_alloc,World.size_alloc,x6]at hD;have x2:((O.alloc (.cells (bx y D E).toArray 30)).alloc (.cells (bx y D E).toArray 30)).heap[W.heap.size+1+1+1]?=Q1 (.deferred (Q1 [])):=by
   have hl:=(ea.1 hD).1;exact(Below.heap_alloc _ _ _ (by rw[World.size_alloc];omega)).trans ((Below.heap_alloc _ _ _ hl).trans hD)
  refine Ra hd h1 I n M W.heap.size _ J Jx W _ (a8 D E x8 _ _ a1 x1) hn X G hY ([]++xs) (ae _) ?_ sg (X.alloc _ (X.alloc _ x9)) _ _ _ _ _ _ _ _ _ _ _ _ _ _ _ _ _ _ _ _ _ _ _ _ _ _ _ ?_ ?_
  ·exact(Below.heap_alloc _ _ _ sg).trans ((Below.heap_alloc _ _ _ ow).trans (h4.same _ _ (ae _) ((Below.heap_alloc _ _ _ sg).trans ((Below.heap_alloc _ _ _ ow).trans h6))))
  ·intro zs W4 h7 a0 a2 h5 hE;have B:=h5.same _ _ ow x2
   gi_wp2
   rw[roundsIn_succ]
   gi_wp2
   refine⟨sw,.inl ⟨_,_,rfl,run_takeDeferred hE,?_⟩⟩;refine⟨sw,.inl ⟨_,_,rfl,run_takeDeferred ((World.putObj_heap_other sg).trans B),?_⟩⟩;refine⟨_,results_none rfl _ _ _,⟨_,rfl⟩,.inl ⟨xs++zs,by simp[Y,h7],?_,?_⟩⟩
   ·exact X.putObj _ (X.putObj _ (by simpa using a0) sg hE rfl) ow ((World.putObj_heap_other sg).trans B) rfl
   ·have t1:=(h3.trans (((Below.refl _ W1).alloc ow _).alloc sg _)).trans x5;have t2:=(t1.trans (((Below.refl _ O).alloc ow _).alloc sg _)).trans a2;exact(t2.trans (belowK_b hn W4 _ _ _ sg hE rfl rfl)).trans (belowK_b hn _ _ _ _ ow ((World.putObj_heap_other sg).trans B) rfl rfl)
  ·intro zs W4 h7 a6 h5 hE;have B:=h5.same _ _ ow x2
   gi_wp2
   refine⟨sw,.inl ⟨_,_,rfl,run_takeDeferred hE,?_⟩⟩;refine⟨sw,.inl ⟨_,_,rfl,run_takeDeferred ((World.putObj_heap_other sg).trans B),?_⟩⟩;refine⟨_,results_none rfl _ _ _,⟨_,rfl⟩,.inr ⟨xs++zs,by rw[gD,Y];exact(List.prefix_append_right_inj lx).2 h7,?_⟩⟩;exact G.putObj _ (G.putObj _ (by simpa using a6) sg hE rfl) ow ((World.putObj_heap_other sg).trans B) rfl
 ·intro xs O Y a5 h4 hD
  gi_wp2
  refine⟨sw,.inl ⟨_,_,rfl,run_takeDeferred hD,?_⟩⟩;exact⟨_,results_none rfl _ _ _,⟨_,rfl⟩,.inr ⟨xs,Y.trans (List.prefix_append _ _),G.putObj _ (by simpa using a5) sg hD rfl⟩⟩
theorem S0(hd:F.depth=Q2)(S:F.fn 36)(C:F.fn 81)(L:F.round=Q2){e:zf}{l:List zf}(h:Cd e l):∀a c(_:nP w0 U ρ e a c)(w:World)(B:Nat),Below w0.heap.size w0 w->w.heap[B]?=Q1 (.cells (bx e a c).toArray 30 (0,0))->
  SeqO F Tryz.prog 81 #[.pointer (Q1 ⟨B,0,Q2⟩)] (NJ (w0:=w0) (U:=U) (ρ:=ρ)) w0.heap.size (λys=>ys.map (·.1.1)=l) (λys=>ys.map (·.1.1)<+:l) w:=by
 induction h with
 | leaf u=>
  intro a c Y w B M D n ln J Jx W G T E X O;refine(zaY hd C L Y u n ln B J Jx W (bt M.size G.size) ((G.block _ (ea.1 D).1).trans D) T X O).mono ?_;rintro e' W' ⟨I,⟨o,z⟩|o⟩
  ·exact⟨I,.inl ⟨_,rfl,o,z⟩⟩
  ·exact⟨I,.inr ⟨_,List.prefix_refl _,o⟩⟩
 | both u hl _ _ Z h4=>
  intro a c Y w B M D n ln J Jx W G T E X O;refine(zam hd S C L Y u hl Z h4 n ln B J Jx W (M.trans (G.mono M.size)) ((G.block _ (ea.1 D).1).trans D) T E X O).mono ?_;rintro e' W' ⟨I,⟨xs,o,z,h3⟩|⟨pre,o,z⟩⟩
  ·exact⟨I,.inl ⟨xs,o,z,h3⟩⟩
  ·exact⟨I,.inr ⟨pre,o,z⟩⟩
open Go Go.Proofs
theorem Reach.len{E:bZ}{C:ff}{B:FuncId}{o:List Item}{st:St}{Q:AV->List AO->Prop}(j:Nat)(e:Sh)(l:List (Sem e))(D:st.tmps[j]?=Q1 (.sl e l))(h:Io l<=aG->Reach E C B o st Q):Reach E C B o st Q:=by
 intro b cs a w U ρ G I u J;refine h ?_ b cs a w U ρ G I u J;have z:j<a.tmps.toList.length:=by rw[<-u.tm.len];exact(dn.1 D).1
 have:=u.tm.rv j _ _ D (zU z);generalize a.tmps.toList[j]=v at this;cases this with
 |sl0=>simp
 |sl _ _ _ _ _ _ _ L=>exact L
theorem zr(i:Nat)(h:i<aG):Γ Δ (↑i+1)=((i+1:Nat):Int):=by
 have:aG=9223372036854775807:=rfl;rw[gr];omega
theorem cM{α:Type}(l:List α)(d:α){i:Nat}(h:i<Io l):l.getD (i:Int).toNat d=l[i]:=by
 simp[h]
def zW{α:Type}(p:α->Bool):List α->Nat->Int
 |[],_=>-1
 |x::r,i=>if p x then i else zW p r (i+1)
noncomputable def Ik:bZ:=(zau.aut 194 Tryz.f194 2).aut 295 Tryz.f295 2
theorem pW:zw Ik:=by
 refine iu (iu uY ?_) ?_<;>(refine⟨?_,?_,?_,?_⟩<;>kernel_rfl)
abbrev LK:Nat->aN:=λ_=>{slots:=[0,1,7,8]}
theorem WY:zO Ik.P 193 Tryz.f193 2:=bU kw
abbrev B3(l:List (Sem zj))(s:zD)(i:Int):St:={
    tmps:=
     (tm 19 [(0,sl (Sh.str.pr ((Sh.int IntKind.i64).pr Sh.bool)) l),(1,AV.clo (Fn.func 194) [] [ptr 0 0]),(7,ai ↑l.length),(8,ai i)]),
    heap:=[AO.box [str s]]}
theorem zaB(l:List (Sem zj))(s:zD):run Ik 1 LK Tryz.f193.results.toList 300 (bC Tryz.f193) (bl Tryz.f193.ntmps [.sl zj l,.clo (.func 194) [] [.ptr 0 0]] [.box [.str s]])=.ok (.head 2 (aj Tryz.f193 2) (B3 l s 0)):=kw
theorem zbc(l:List (Sem zj))(s:zD)(i:Int):run Ik 1 LK Tryz.f193.results.toList 300 (aj Tryz.f193 2) (B3 l s i)=
 br (decide (i<↑l.length))
  (chk (zJ i (Io l))
   (br ((l.getD i.toNat (zi (Sh.str.pr ((Sh.int IntKind.i64).pr Sh.bool)))).1==s)
    (Tr.ok (zG.ret (ai i) [AO.box [str s]]))
    (Tr.ok (zG.head 2 (aj Tryz.f193 2) (B3 l s (Γ Δ (i+1)))))))
  (Tr.ok (zG.ret (ai (-1)) [AO.box [str s]])):=kw
theorem Px{C:ff}(z:∀id,1<=id->C.ρ0 id=Q2)(l:List (Sem zj))(s:zD)(B:Io l<=aG):∀(n i:Nat),Io l-i=n->i<=Io l->
  Reach Ik C 193 (aj Tryz.f193 2) (B3 l s i) (λr h=>(r,h)=(.int .i64 (zW (λc=>c.1==s) (l.drop i) i),[.box [.str s]]))
 | n,i,D,E=>by
  subst D;refine dF pW WY z LK 300 ?_;rw[zbc];refine⟨λh=>⟨?_,λu=>?_,λu=>?_⟩,λh=>?_⟩
  ·simp only[aQ]at h;simp[zJ];omega
  ·simp only[aQ]at h;have o:i<Io l:=by omega
   rw[cM l _ o]at u;rw[fj o];simp only[zW];rw[if_pos u];rfl
  ·simp only[aQ]at h;have o:i<Io l:=by omega
   rw[cM l _ o]at u;rw[fj o];simp only[zW];rw[if_neg (by rw[u];simp),zr i ow];exact Px z l s B (Io l-(i+1)) (i+1) rfl ow
  ·simp only[decide_eq_false_iff_not]at h;rw[Cg ow];rfl
 termination_by n=>n
abbrev B4(l:List (Sem zj))(s:zD)(i:Int):St:={
    tmps:=
     (tm 19 [(0,sl (Sh.str.pr ((Sh.int IntKind.i64).pr Sh.bool)) l),(1,AV.clo (Fn.func 295) [] [ptr 0 0]),(7,ai ↑l.length),(8,ai i)]),
    heap:=[AO.box [str s]]}
theorem zaC(l:List (Sem zj))(s:zD):run Ik 1 LK Tryz.f193.results.toList 300 (bC Tryz.f193) (bl Tryz.f193.ntmps [.sl zj l,.clo (.func 295) [] [.ptr 0 0]] [.box [.str s]])=.ok (.head 2 (aj Tryz.f193 2) (B4 l s 0)):=kw
theorem zbd(l:List (Sem zj))(s:zD)(i:Int):run Ik 1 LK Tryz.f193.results.toList 300 (aj Tryz.f193 2) (B4 l s i)=
 br (decide (i<↑l.length))
  (chk (zJ i (Io l))
   (br ((l.getD i.toNat (zi (Sh.str.pr ((Sh.int IntKind.i64).pr Sh.bool)))).1==s)
    (Tr.ok (zG.ret (ai i) [AO.box [str s]]))
    (Tr.ok (zG.head 2 (aj Tryz.f193 2) (B4 l s (Γ Δ (i+1)))))))
  (Tr.ok (zG.ret (ai (-1)) [AO.box [str s]])):=kw
theorem Py{C:ff}(z:∀id,1<=id->C.ρ0 id=Q2)(l:List (Sem zj))(s:zD)(B:Io l<=aG):∀(n i:Nat),Io l-i=n->i<=Io l->
  Reach Ik C 193 (aj Tryz.f193 2) (B4 l s i) (λr h=>(r,h)=(.int .i64 (zW (λc=>c.1==s) (l.drop i) i),[.box [.str s]]))
 | n,i,D,E=>by
  subst D;refine dF pW WY z LK 300 ?_;rw[zbd];refine⟨λh=>⟨?_,λu=>?_,λu=>?_⟩,λh=>?_⟩
  ·simp only[aQ]at h;simp[zJ];omega
  ·simp only[aQ]at h;have o:i<Io l:=by omega
   rw[cM l _ o]at u;rw[fj o];simp only[zW];rw[if_pos u];rfl
  ·simp only[aQ]at h;have o:i<Io l:=by omega
   rw[cM l _ o]at u;rw[fj o];simp only[zW];rw[if_neg (by rw[u];simp),zr i ow];exact Py z l s B (Io l-(i+1)) (i+1) rfl ow
  ·simp only[decide_eq_false_iff_not]at h;rw[Cg ow];rfl
 termination_by n=>n
def G27:iU [Q1 (.sl zj),Q2]:=λx h=>match x,h with
 |(l,.clo (.func 194) [] [.ptr 0 0],_),[.box [.str s]]=>.ok (.int .i64 (zW (λc=>c.1==s) l 0),[.box [.str s]])
 |(l,.clo (.func 295) [] [.ptr 0 0],_),[.box [.str s]]=>.ok (.int .i64 (zW (λc=>c.1==s) l 0),[.box [.str s]])
 |_,_=>.err
theorem zkV:FK 193 (bp [Q1 (.sl zj),Q2] G27):=by
 refine dX WY λx D B h C o=>?_
 unfold G27 at h;split at h
 ·simp only[Tr.val_ok,bH]at h;subst h;rename_i _ _ l u s;refine Reach.len 0 zj l rfl λz=>?_
  have e:jB [Q1 (.sl zj),Q2] (l,.clo (.func 194) [] [.ptr 0 0],u)=[.sl zj l,.clo (.func 194) [] [.ptr 0 0]]:=rfl;rw[e];refine dF (n0:=1) pW WY o LK 300 ?_;rw[zaB];exact Px o l s z _ 0 rfl ow
 ·simp only[Tr.val_ok,bH]at h;subst h;rename_i _ _ l u s;refine Reach.len 0 zj l rfl λz=>?_
  have e:jB [Q1 (.sl zj),Q2] (l,.clo (.func 295) [] [.ptr 0 0],u)=[.sl zj l,.clo (.func 295) [] [.ptr 0 0]]:=rfl;rw[e];refine dF (n0:=1) pW WY o LK 300 ?_;rw[zaC];exact Py o l s z _ 0 rfl ow
 ·simp at h
noncomputable def U4:bZ:=Ik.add 193 (bp [Q1 (.sl zj),Q2] G27)
theorem C5:zw U4:=pW.add zkV
noncomputable def zmu:bZ:=(U4.add 154 (bp [Q1 zo,Q1 .str] (fA U4 Tryz.f154 [Q1 zo,Q1 .str]))).add 256 (bp [Q1 (.sl zj),Q1 .str] (fA U4 Tryz.f256 [Q1 (.sl zj),Q1 .str]))
theorem U6:zw zmu:=by
 refine(C5.add (ch _ C5 ?_)).add (ch (E:=U4) _ C5 ?_)<;>(refine⟨?_,?_,?_,?_⟩<;>kernel_rfl)
end Cad
