/- The program's environment: shapes, and the way functions are added. Functions from plain data to plain data. -/
import Derived.Test.YtjfdpfapcmcncaaGreatDoorL04
import Derived.Test.YtjfdpfapcmcncaaGreatDoorProg
import Derived.Carry
import Derived.ChangeSame
import Derived.RangeFuncNested
import Derived.RangeFuncBound
import Derived.RangeFuncCalls
import Derived.RangeFuncLeaves
import Derived.Shelf.Abstract
import Derived.WalkKit
import Derived.OwnWalkIn
import Derived.TacticsInMore
import Derived.LoopNIn
import Derived.LoopIn
import Derived.RangeFuncBox
import Derived.Maps.AppendAt
namespace Cad
open Go
open Bool renaming false→Q4
open Bool renaming true→Q3
open Option renaming none→Q2
open Option renaming some→Q1
open Tr (chk br)
open AV (nils agg tup ptr kb str sl)
abbrev zg:Sh:=.int .i64
abbrev zf:Sh:=.pr (.int .i64) (.pr (.int .i64) .str)
abbrev zi:Sh:=.pr .str (.pr (.int .i64) .bool)
abbrev zo:Sh:=.pr (.int .i64) .str
abbrev zp:Sh:=.pr .str (.pr (.sl zi) (.pr (.int .i64) (.pr (.sl (.int .i64)) (.pr (.sl zo) .expr))))
abbrev zh:Sh:=.pr zp (.sl (.sl zf))
def zgP:Nat->Option Sh
 |3=>Q1 (.int .i64)
 |27=>Q1 zf
 |30=>Q1 .expr
 |88=>Q1 zi
 |112=>Q1 zo
 |9=>Q1 .str
 |5=>Q1 (.int .u8)
 |198=>Q1 (.pr (.int .i64) .str)
 |99=>Q1 (.pr .str .str)
 |101=>Q1 (.pr .str .expr)
 |31=>Q1 (.sl zf)
 |47=>Q1 (zh)
 |_=>Q2
abbrev mo:List Int:=[1,10,100,1000,10000,100000,1000000,10000000,100000000,1000000000,10000000000,100000000000,1000000000000,10000000000000,100000000000000,1000000000000000,10000000000000000,100000000000000000,1000000000000000000,10000000000000000000]
def CH:Nat->AV
 |0=>.gint
 |1=>.eptr [.str BQ,.str BR,.str BP] 0
 |5=>.tab .u64 mo
 |_=>.any
abbrev FK(k:FuncId)(F:zV):Prop:=oZ Go.Proofs.Tryz.prog CH k F
noncomputable def Y4:bW:={P:=Go.Proofs.Tryz.prog,sh:=zgP,gl:=CH,F:=λ_=>Q2}
def bW.add(E:bW)(k:FuncId)(F:zV):bW:={E with F:=λj=>if j=k then Q1 F else E.F j}
theorem zt.add{E:bW}{k:FuncId}{F:zV}(h:zt E)(hk:oZ E.P E.gl k F):zt (E.add k F) where
 sh:=h.sh
 fs:=λj F' hj=>by
  simp only[bW.add]at hj;split at hj
  ·rename_i e;cases hj;rw[e];exact hk
  ·exact h.fs j F' hj
 mix:=h.mix
def OT:List (Nat×zV)->Nat->Option zV->Option zV
 |[],_,d=>d
 |p::r,j,d=>if j=p.1 then Q1 p.2 else OT r j d
def bW.addL(E:bW)(l:List (Nat×zV)):bW:={E with F:=λj=>OT l j (E.F j)}
def Sx(P:Program)(gl:Nat->AV):List (Nat×zV)->Prop
 |[]=>True
 |p::r=>oZ P gl p.1 p.2/\Sx P gl r
theorem ja{P:Program}{gl:Nat->AV}:Sx P gl []:=trivial
theorem fc{P:Program}{gl:Nat->AV}{k:Nat}{F:zV}{r:List (Nat×zV)}(h:oZ P gl k F)(t:Sx P gl r):Sx P gl ((k,F)::r):=⟨h,t⟩
theorem zt.addL{E:bW}(h:zt E){l:List (Nat×zV)}(hl:Sx E.P E.gl l):zt (E.addL l) where
 sh:=h.sh
 fs:=by
  intro k F;show OT l k (E.F k)=Q1 F->oZ E.P E.gl k F
  induction l with
  |nil=>exact h.fs k F
  | cons p r ih=>
   intro hk;rw[OT]at hk;split at hk
   ·rename_i e;cases hk;rw[e];exact hl.1
   ·exact ih hl.2 hk
 mix:=h.mix
def kZ(key:Nat):Nat->Code->List Item->Option (List Item)
 |0,_,_=>Q2
 | n+1,c,k=>match c with
  | .seq a b=>match kZ key n a (.code b::k) with
   |some r=>Q1 r
   |none=>kZ key n b k
  | .cond _ a b=>match kZ key n a k with
   |some r=>Q1 r
   |none=>kZ key n b k
  |.block id c=>kZ key n c (.inBlock id::k)
  |.loop c=>if eH c=key then Q1 (.code c::.inLoop c::k)else kZ key n c (.inLoop c::k)
  |.region id _ _=>if id+500000=key then Q1 k else Q2
  |_=>Q2
def ac(f:Func)(key:Nat):List Item:=match f.body with
 |some c=>(kZ key 1000 c []).getD []
 |none=>[]
def bw(f:Func):List Item:=match f.body with
 |some c=>[.code c]
 |none=>[]
theorem zgg:Y4.P.follows .mixedOrders=Q3:=kw
def unr:Nat->aN:=λ_=>{unroll:=Q3}
def fB(E:bW)(f:Func)(ks:List (Option Sh)):iV ks:=λx h=>
 (run E h.length unr f.results.toList 4000 (bw f) (bd f.ntmps (jx ks x) h)).bind λ
  |.ret v h'=>.ok (v,h')
  |_=>.err
theorem Tr.sat_of_val{α:Type}{Φ:α->Prop}:∀{t:Tr α}{a:α},t.val=Q1 a->Φ a->t.Sat Φ
 |.err,_,h,_=>by simp at h
 | .chk c t,a,h,ha=>by
  cases c
  ·simp[Tr.val]at h
  ·exact⟨rfl,sat_of_val (t:=t) (by simpa[Tr.val]using h) ha⟩
 | .br c t f,a,h,ha=>by
  cases c
  ·exact⟨λh=>(by cases h),λ_=>sat_of_val (t:=f) (by simpa[Tr.val]using h) ha⟩
  ·exact⟨λ_=>sat_of_val (t:=t) (by simpa[Tr.val]using h) ha,λh=>(by cases h)⟩
 |.ok b,a,h,ha=>by simp[Tr.val]at h;subst h;exact ha
def zI(P:Program)(k:FuncId)(f:Func)(n:Nat):Prop:=P.funcs[k]?=Q1 f/\(f.name=="runtime.NumGoroutine")=Q4/\f.body.isNone=Q4/\decide (n<=f.ntmps)=Q3
theorem bR{P:Program}{k:FuncId}{f:Func}{n:Nat}(h:(P.funcs[k]?,f.name=="runtime.NumGoroutine",f.body.isNone,decide (n<=f.ntmps))=(Q1 f,Q4,Q4,Q3)):zI P k f n:=by
 simp only[cB]at h;exact⟨h.1,h.2.1,h.2.2.1,h.2.2.2⟩
theorem tg:∀(ks:List (Option Sh))(x:zx ks),(jx ks x).length=ks.length
 |[],_=>rfl
 |some _::ks,x=>by simp[jx,tg ks x.2]
 |none::ks,x=>by simp[jx,tg ks x.2]
theorem dC{E:bW}{C:fh}{k:FuncId}{f:Func}{Q:AV->List AO->Prop}{n n0:Nat}(hE:zt E)(hf:zI E.P k f n)(hC:∀id,n0<=id->C.ρ0 id=Q2)(keep:Nat->aN)(fuel:Nat)
  {todo:List Item} {st:St} (h:(run E n0 keep f.results.toList fuel todo st).Sat (jX E C k Q)):Reach E C k todo st Q:=
 GN hE hf.1 hC rfl fuel _ _ h
theorem Yx{E:bW}{k:FuncId}{f:Func}{Q:AV->List AO->Prop}{args:List AV}{h0:List AO}(hf:zI E.P k f args.length)
  (h:∀C:fh,(∀id,h0.length<=id->C.ρ0 id=Q2)->Reach E C k (bw f) (bd f.ntmps args h0) Q):Xh E k args h0 Q:=by
 obtain⟨h1,h2,h3,h4⟩:=hf;cases hb:f.body with
 |none=>rw[hb]at h3;cases h3
 | some c=>
  refine⟨f,c,h1,hb,h2,lM h4,λC hC=>?_⟩;have:=h C hC;simpa[bw,hb]using this
theorem dR{P:Program}{gl:Nat->AV}{E:bW}{k:FuncId}{f:Func}{ks:List (Option Sh)}{G:iV ks}(hf:zI E.P k f ks.length)
  (h:∀x h0 res,(G x h0).val=Q1 res->∀C:fh,(∀id,h0.length<=id->C.ρ0 id=Q2)->Reach E C k (bw f) (bd f.ntmps (jx ks x) h0) (λr h=>(r,h)=res)) (qp:E.P=P:=by rfl) (qg:E.gl=gl:=by rfl):oZ P gl k (bh ks G):=by
 subst qp qg;exact SA ⟨f,hf.1,hf.2.1,hf.2.2.1⟩ λx h0 res hx=>Yx (by rw[tg];exact hf) (h x h0 res hx)
theorem cd{P:Program}{gl:Nat->AV}{E:bW}{k:FuncId}{f:Func}(ks:List (Option Sh))(hE:zt E)(hf:zI E.P k f ks.length)(qp:E.P=P:=by rfl)(qg:E.gl=gl:=by rfl):oZ P gl k (bh ks (fB E f ks)):=by
 subst qp qg;refine dR hf λx h0 res hx C hC=>dC hE hf hC unr 4000 ?_
 unfold fB at hx;simp only[Tr.val_bind,gm]at hx;obtain⟨l,hl,hres⟩:=hx;refine Tr.sat_of_val hl ?_;cases l with
 |ret v h'=>simp at hres;exact hres
 |head _ _ _=>simp at hres
 |fork _ _ _ _=>simp at hres
def zcN(P:Program)(t:TypeId)(e:Sh):Bool:=match P.info? t with
 |some i=>i.size==e.size&&decide (0<e.size)&&decide (i.bytes<=131072)&&(match i.zero with|some z=>z.cells.size==i.size|none=>Q4)
 |none=>Q4
theorem LL{P:Program}{t:TypeId}{e:Sh}(h:zcN P t e=Q3):∃i z,P.info? t=Q1 i/\i.size=e.size/\0<e.size/\i.bytes<=131072/\i.zero=Q1 z/\z.cells.size=i.size:=by
 unfold zcN at h;split at h
 ·rename_i i hi;simp only[aE,aO,aZ]at h;obtain⟨⟨⟨h1,h2⟩,h3⟩,h4⟩:=h;split at h4
  ·rename_i z hz;exact⟨i,z,hi,h1,h2,h3,hz,by simpa using h4⟩
  ·cases h4
 ·cases h
theorem uF:zt Y4 where
 sh:=by
  intro t e h;have hh:zgP t=Q1 e:=h;unfold zgP at hh;split at hh
  all_goals first
   |(cases hh;exact LL kw)
   |cases hh
 fs:=by intro k F h;cases h
 mix:=zgg
abbrev rn(E:bW)(n:Nat)(kp:Nat->aN)(f:Func)(a:List AV)(h:List AO):Tr zD:=run E n kp (Func.results f).toList 400 (bw f) (bd (Func.ntmps f) a h)
abbrev rh(E:bW)(n:Nat)(kp:Nat->aN)(f:Func)(k:Nat)(s:St):Tr zD:=run E n kp (Func.results f).toList 400 (ac f k) s
def j5(h:List AO):Nat->AO:=λj=>h.getD j .dead
def znz(h:List AO)(outs:List Sh):AV->Option (zx (outs.map Q1))
 |.tup rs=>lY (j5 h) (λi=>i) (outs.map Q1) rs
 |_=>Q2
def aM(h:List AO):(outs:List Sh)->AV->Option (zx (outs.map Q1))
 | [s],r=>match yx (j5 h) s r with
  |some y=>Q1 (y,())
  |none=>Q2
 |[],r=>znz h [] r
 |s1::s2::ss,r=>znz h (s1::s2::ss) r
def vX:(outs:List Sh)->zx (outs.map Q1)->AV
 |[s],y=>zz s y.1
 |outs,y=>.tup (jx (outs.map Q1) y)
theorem pW{hp:Nat->AO}{f:Nat->Nat}:∀(ss:List Sh)(args:List AV)(x:zx (ss.map Q1)),lY hp f (ss.map Q1) args=Q1 x->cv hp (ss.map Q1) args=Q1 ((jx (ss.map Q1) x).map λa=>(Q4,a))
 |[],[],_,_=>rfl
 | s::ss,a::as',x,h=>by
  have h':lY hp f (Q1 s::ss.map Q1) (a::as')=Q1 x:=h;show cv hp (Q1 s::ss.map Q1) (a::as')=_;unfold lY at h';unfold cv;split at h'
  ·rename_i y r hy hr;cases h';rw[hy,pW ss as' r hr];rfl
  ·cases h'
 |[],_::_,_,h=>by simp[lY]at h
 |_::_,[],_,h=>by simp[lY]at h
theorem Reach.plain{E:bW}{C:fh}{fn:FuncId}{todo:List Item}{st:St}{outs:List Sh}{y:zx (outs.map Q1)}(hC:∀id,C.ρ0 id=Q2)
  (h:Reach E C fn todo st (λr h=>aM h outs r=Q1 y)):Reach E C fn todo st (λr h=>(r,h)=(vX outs y,[])):=by
 intro b cs a w U ρ h1 h2 hc hW;obtain⟨e,w',fr,⟨v,r,h',U',ρ',he,hq,hrv,hH,hnew,hr0,hWd⟩,hcm,hf,hl⟩:=h b cs a w U ρ h1 h2 hc hW;refine⟨e,w',fr,⟨v,_,_,λb=>U' b/\b<C.w0.heap.size/\¬C.B0 b,λ_=>Q2,he,rfl,?_,⟨λid=>?_,λid1 id2 b o=>?_,λid b o=>?_⟩,λ_ _=>rfl,λid v hv=>?_,⟨hWd.ext,hWd.same,λb hb=>hWd.ub b hb.1,λb hb hu=>hWd.u1 b hb hu.1,λb hb hu hn=>⟨hWd.u2 b hb hu hn,hb,hn⟩,λg=>(hWd.gl g).weak λb hb=>hb.1⟩⟩,hcm,hf,hl⟩
 ·have hob:∀id,bA w' U' ρ' id (j5 h' id)/\∀b,aj ρ' id (j5 h' id) b->¬(U' b/\b<C.w0.heap.size/\¬C.B0 b):=by
   intro id;refine⟨hH.ob id,λb ho hu=>?_⟩;rcases hH.blk id b ho with hB|hB
   ·exact hu.2.2 hB
   ·omega
  have htup:∀(outs:List Sh)(y:zx (outs.map Q1))(rs:List AV),lY (j5 h') (λi=>i) (outs.map Q1) rs=Q1 y->Rv w' U' ρ' (.tup rs) v->Rv w' (λb=>U' b/\b<C.w0.heap.size/\¬C.B0 b) (λ_=>Q2) (.tup (jx (outs.map Q1) y)) v:=by
   intro outs y rs hy hrv;cases hrv with
   |tup _ vs hl hr=>
   have:=(jO (w:=w') (U:=U') (ρ:=ρ') (U':=λb=>U' b/\b<C.w0.heap.size/\¬C.B0 b) (ρ':=λ_=>Q2) (hp:=j5 h') (f:=λi=>i) (λb hb=>hb.1) (outs.map Q1) rs vs _ (pW outs rs y hy) ⟨hl,hr⟩ (λid _=>hob id)
    (λid hid=>by simp only[fV,List.filter_map,uk]at hid;rw[List.filter_eq_nil_iff.2 sw]at hid;simp[AV.idsL]at hid)).1
   simp only[pq,uk,zF,if_false,List.map_id']at this;exact .tup _ vs this.len this.rv
  match outs,y,hq with
  | [s],y,hq=>
   simp only[aM]at hq;split at hq
   ·rename_i x hx;cases hq;exact BZ hx hrv (λb hb=>hb.1) (λid _=>hob id)
   ·cases hq
  | [],y,hq=>
   simp only[aM]at hq;cases r with
   |tup rs=>exact htup [] y _ hq hrv
   |_=>cases hq
  | s1::s2::ss,y,hq=>
   simp only[aM]at hq;cases r with
   |tup rs=>exact htup _ y _ hq hrv
   |_=>cases hq
 ·simp[bA]
 ·obtain⟨_,v,hv,_⟩:=o;cases hv
 ·obtain⟨_,v,hv,_⟩:=o;cases hv
 ·rw[hC id]at hv;cases hv
theorem ng{E:bW}{C:fh}{k:FuncId}{f:Func}{Q:AV->List AO->Prop}{n n0:Nat}(hE:zt E)(hf:zI E.P k f n)(hC:∀id,n0<=id->C.ρ0 id=Q2){keep:Nat->aN}{fuel:Nat}
  {todo:List Item} {st:St} {l:zD} (h:(run E n0 keep f.results.toList fuel todo st).val=Q1 l) (hl:jX E C k Q l):Reach E C k todo st Q:=
 dC hE hf hC keep fuel (Tr.sat_of_val h hl)
def VY(ks outs:List Sh)(g:zx (ks.map Q1)->Option (zx (outs.map Q1))):iV (ks.map Q1):=λx h=>match h with
 | []=>match g x with
  |some y=>.ok (vX outs y,[])
  |none=>.err
 |_=>.err
def tU(ks outs:List Sh)(g:zx (ks.map Q1)->Option (zx (outs.map Q1))):zV:=bh (ks.map Q1) (VY ks outs g)
theorem wF{P:Program}{gl:Nat->AV}{E:bW}{k:FuncId}{f:Func}{ks outs:List Sh}{g:zx (ks.map Q1)->Option (zx (outs.map Q1))}(hf:zI E.P k f ks.length)
  (h:∀x y,g x=Q1 y->∀C:fh,(∀id,C.ρ0 id=Q2)->Reach E C k (bw f) (bd f.ntmps (jx (ks.map Q1) x) []) (λr h=>aM h outs r=Q1 y)) (qp:E.P=P:=by rfl) (qg:E.gl=gl:=by rfl):oZ P gl k (tU ks outs g):=by
 subst qp qg;refine dR (by simpa using hf) λx h0 res hx C hC=>?_
 unfold VY at hx;split at hx
 ·split at hx
  ·rename_i y hy;simp only[Tr.val_ok,bB]at hx;subst hx;exact Reach.plain (λid=>hC id (by simp)) (h x y hy C (λid=>hC id (by simp)))
  ·simp at hx
 ·simp at hx
noncomputable abbrev bW.aut(E:bW)(k:Nat)(f:Func)(n:Nat):bW:=E.add k (bh (List.replicate n Q2) (fB E f (List.replicate n Q2)))
theorem iB{E:bW}{k:Nat}{f:Func}{n:Nat}(hE:zt E)(hf:zI E.P k f n):zt (E.aut k f n):=
 hE.add (cd _ hE (by simpa using hf))
def eR(ks outs:List Sh)(c:zx (ks.map Q1)->Bool)(g:zx (ks.map Q1)->zx (outs.map Q1)):iV (ks.map Q1):=λx h=>match h with
 |[]=>.chk (c x) (.ok (vX outs (g x),[]))
 |_=>.err
def zN(ks outs:List Sh)(c:zx (ks.map Q1)->Bool)(g:zx (ks.map Q1)->zx (outs.map Q1)):zV:=bh (ks.map Q1) (eR ks outs c g)
theorem aJ{P:Program}{gl:Nat->AV}{E:bW}{k:FuncId}{f:Func}{ks outs:List Sh}{c:zx (ks.map Q1)->Bool}{g:zx (ks.map Q1)->zx (outs.map Q1)}(hf:zI E.P k f ks.length)
  (h:∀x,c x=Q3->∀C:fh,(∀id,C.ρ0 id=Q2)->Reach E C k (bw f) (bd f.ntmps (jx (ks.map Q1) x) []) (λr h=>aM h outs r=Q1 (g x))) (qp:E.P=P:=by rfl) (qg:E.gl=gl:=by rfl):oZ P gl k (zN ks outs c g):=by
 subst qp qg;refine dR (by simpa using hf) λx h0 res hx C hC=>?_
 unfold eR at hx;split at hx
 ·simp only[Tr.val]at hx;split at hx
  ·rename_i hc;simp only[bB]at hx;subst hx;exact Reach.plain (λid=>hC id (by simp)) (h x hc C (λid=>hC id (by simp)))
  ·simp at hx
 ·simp at hx
theorem Av{P:Program}{gl:Nat->AV}{k:FuncId}{kinds:List (Option Sh)}{ι:Type}[Nonempty ι]{G:iV kinds}{Gs:ι->iV kinds}(h:∀i,oZ P gl k (bh kinds (Gs i)))
  (hg:∀x h0 res,(G x h0).val=Q1 res->∃i,(Gs i x h0).val=Q1 res):oZ P gl k (bh kinds G):=by
 refine⟨(h (Classical.choice inferInstance)).fn,?_⟩;intro w U ρ hp n args vals f fp hv;have:∃i,(bh kinds (Gs i) args hp n).val=Q1 f:=by
  unfold bh at hv⊢;split at hv
  ·rename_i ps hps;simp only at hv⊢;split at hv
   ·rename_i hcond;split at hv
    ·rename_i xs hxs;simp only[Tr.val_bind,gm]at hv;obtain⟨res,h1,h2⟩:=hv;obtain⟨i,hi⟩:=hg _ _ _ h1;exact⟨i,by simp only[hcond,if_true,Tr.val_bind,gm];exact⟨res,hi,h2⟩⟩
    ·simp at hv
   ·simp at hv
  ·simp at hv
 obtain⟨i,hi⟩:=this;exact(h i).calls w U ρ hp n args vals f fp hi
def Pf(ks outs:List Sh)(g:zx (ks.map Q1)->zx (outs.map Q1)):iV (ks.map Q1):=λx h=>match h with
 |[]=>.ok (vX outs (g x),[])
 |_=>.err
def aG(ks outs:List Sh)(g:zx (ks.map Q1)->zx (outs.map Q1)):zV:=bh (ks.map Q1) (Pf ks outs g)
theorem Oc{P:Program}{gl:Nat->AV}{k:FuncId}{ks outs:List Sh}{g:zx (ks.map Q1)->zx (outs.map Q1)}(h:oZ P gl k (zN ks outs (λ_=>Q3) g)):oZ P gl k (aG ks outs g):=by
 refine Av (ι:=Unit) (Gs:=λ_=>eR ks outs (λ_=>Q3) g) (λ_=>h) λx h0 res hv=>⟨(),?_⟩
 unfold Pf at hv;unfold eR;split at hv
 ·simpa[Tr.val]using hv
 ·simp at hv
theorem zY{P:Program}{gl:Nat->AV}{E:bW}{k:FuncId}{f:Func}{ks outs:List Sh}{g:zx (ks.map Q1)->zx (outs.map Q1)}(hf:zI E.P k f ks.length)
  (h:∀x,∀C:fh,(∀id,C.ρ0 id=Q2)->Reach E C k (bw f) (bd f.ntmps (jx (ks.map Q1) x) []) (λr h=>aM h outs r=Q1 (g x))) (qp:E.P=P:=by rfl) (qg:E.gl=gl:=by rfl):oZ P gl k (aG ks outs g):=by
 subst qp qg;exact Oc (aJ hf λx _ C hC=>h x C hC)
def OR(outs:List Sh):zD->Option (zx (outs.map Q1))
 |.ret v h=>aM h outs v
 |_=>Q2
theorem Tr.sat_of_res{E:bW}{C:fh}{fn:FuncId}{outs:List Sh}{y:zx (outs.map Q1)}{t:Tr zD}(h:t.val.bind (OR outs)=Q1 y):t.Sat (jX E C fn (λr h=>aM h outs r=Q1 y)):=by
 rw[gm]at h;obtain⟨l,h1,h2⟩:=h;refine Tr.sat_of_val h1 ?_;cases l with
 |ret v h=>exact h2
 |head _ _ _=>cases h2
 |fork _ _ _ _=>cases h2
theorem aT{E:bW}{C:fh}{k:FuncId}{f:Func}{outs:List Sh}{y:zx (outs.map Q1)}{n n0:Nat}(hE:zt E)(hf:zI E.P k f n)(hC:∀id,n0<=id->C.ρ0 id=Q2){keep:Nat->aN}{fuel:Nat}
  {todo:List Item} {st:St} {t:Tr zD} (ht:run E n0 keep f.results.toList fuel todo st=t) (h:t.val.bind (OR outs)=Q1 y):Reach E C k todo st (λr h=>aM h outs r=Q1 y):=by
 refine dC hE hf hC keep fuel ?_;rw[ht];exact Tr.sat_of_res h
theorem ze.eta:∀e:ze,ze.mk e.op e.v e.s e.l=e
 |.mk _ _ _ _=>rfl
structure Jy (E E0:bW):Prop where
 p:E.P=E0.P
 g:E.gl=E0.gl
theorem Jy.refl(E:bW):Jy E E:=⟨rfl,rfl⟩
theorem Jy.add{E E0:bW}(h:Jy E E0)(k:FuncId)(F:zV):Jy (E.add k F) E0:=⟨h.p,h.g⟩
abbrev zm(e:ze):ze:=.mk e.op e.v e.s e.l
theorem zk(e:ze):zm e=e:=ze.eta e
abbrev U0:Nat->Prop:=λ_=>False
abbrev iQ:Nat->Option Value:=λ_=>Q2
def Si(P:Program)(T:TypeId->Sh->Bool):List Field->Nat->Sh->Bool
 |[],_,_=>Q4
 |[f],off,s=>f.offset==off&&(T f.type s&&P.cellsOf f.type==s.size)
 |f::fs,off,.pr a b=>f.offset==off&&(T f.type a&&(P.cellsOf f.type==a.size&&Si P T fs (off+a.size) b))
 |_,_,_=>Q4
def qW(P:Program)(t:TypeId):Bool:=match P.underlying t with
 |some .string=>P.cellsOf t==1
 |_=>Q4
def OO(P:Program)(t e:TypeId):Bool:=match P.underlying t with
 |some (.slice u)=>u==e&&P.cellsOf t==1
 |_=>Q4
def N0(P:Program):Nat->TypeId->Sh->Bool
 |0,_,_=>Q4
 | n+1,t,s=>match P.underlying t,s with
  |some .bool,.bool=>Q3
  |some (.int k),.int k'=>k==k'
  |some .string,.str=>Q3
  |some (.slice e),.sl s=>P.cellsOf e==s.size&&(decide (0<s.size)&&N0 P n e s)
  | some (.struct fs),.expr=>match fs.toList with
   |[a,b,c,d]=>P.cellsOf t==6&&(a.offset==0&&(b.offset==1&&(c.offset==4&&(d.offset==5&&(qW P a.type&&(qW P c.type&&(OO P d.type t&&(P.cellsOf b.type==3&&N0 P n b.type (.pr (.int .i64) (.pr (.int .i64) .str))))))))))
   |_=>Q4
  |some (.struct fs),.pr a b=>P.cellsOf t==(Sh.pr a b).size&&Si P (N0 P n) fs.toList 0 (.pr a b)
  |_,_=>Q4
section
variable {H:Type} {enc:TypeId×Value->H} {P:Program} {w:World} {sp:Nat->Bool} {held:Bool}
def Got(w:World)(s:Sh)(cs:List Value):Prop:=∃x:Sem s,du w U0 iQ (zq s x) cs/\∀v∈cs,v.oneCell'=Q3
theorem dd{α β:Type}{f:α->Option β}{a:α}{l:List α}{r:List β}(h:(a::l).mapM f=Q1 r):∃y ys,f a=Q1 y/\l.mapM f=Q1 ys/\r=y::ys:=by
 rw[List.mapM_cons]at h;cases hy:f a with
 |none=>rw[hy]at h;simp at h
 | some y=>
  cases hys:l.mapM f with
  |none=>rw[hy,hys]at h;simp at h
  | some ys=>
   rw[hy,hys]at h;simp at h;exact⟨y,ys,rfl,rfl,h.symm⟩
theorem KM{α β:Type}{f:α->Option β}:∀{l:List α}{r:List β},l.mapM f=Q1 r->∀x∈l,∃y,f x=Q1 y
 |[],_,_,_,hx=>by simp at hx
 | a::l,r,h,x,hx=>by
  obtain⟨y,ys,h1,h2,_⟩:=dd h;rcases cr.1 hx with rfl|hx
  ·exact⟨y,h1⟩
  ·exact KM h2 x hx
theorem CU{α β:Type}{f:α->Option β}:∀{l:List α}{r:List β},l.mapM f=Q1 r->r.length=l.length/\∀(i:Nat) a,l[i]?=Q1 a->f a=r[i]?
 |[],r,h=>by simp at h;subst h;simp
 | a::l,r,h=>by
  obtain⟨y,ys,h1,h2,rfl⟩:=dd h;obtain⟨h3,h4⟩:=CU h2;refine⟨by simp[h3],λi b hi=>?_⟩;cases i with
  |zero=>simp at hi;subst hi;simpa using h1
  |succ i=>simpa using h4 i b (by simpa using hi)
theorem JC(a:Addr)(h:a.spot=Q2)(n:Nat):a.add n=⟨a.block,a.off+n,Q2⟩:=by
 obtain⟨b,o,s⟩:=a;simp only at h;subst h;unfold Addr.add;split
 ·rename_i h;subst h;rfl
 ·rfl
theorem du.take{cs:List AV}{vs:List Value}(h:du w U0 iQ cs vs)(n:Nat):du w U0 iQ (cs.take n) (vs.take n):=by
 refine⟨by simp[h.len],λj c v hc hv=>?_⟩;rw[List.getElem?_take]at hc hv;split at hc
 ·rename_i hj;rw[if_pos hj]at hv;exact h.rv j c v hc hv
 ·cases hc
theorem du.appS{a b:List AV}{x y:List Value}(h:du w U0 iQ a x)(h':du w U0 iQ b y):du w U0 iQ (a++b) (x++y):=by
 refine⟨by simp[h.len,h'.len],λj c v hc hv=>?_⟩;by_cases hj:j<a.length
 ·rw[mG hj]at hc;rw[mG (by rw[<-h.len];exact hj)]at hv;exact h.rv j c v hc hv
 ·rw[nG ow]at hc;rw[nG (by rw[<-h.len];omega),<-h.len]at hv;exact h'.rv _ c v hc hv
theorem du.one{c:AV}{v:Value}(h:Rv w U0 iQ c v):du w U0 iQ [c] [v]:=by
 refine⟨rfl,λj d u hd hu=>?_⟩;cases j with
 |zero=>simp at hd hu;subst hd;subst hu;exact h
 |succ j=>simp at hd
theorem Cv{fuel:Nat}{T:TypeId->Sh->Bool}(hT:∀t s cs d ps,T t s=Q3->DataW.trod enc P w 0 sp held fuel t cs=Q1 (d,ps)->Got w s cs){cs:List Value}:
  ∀(fl:List Field)(off:Nat)(s:Sh) xs,Si P T fl off s=Q3->(fl.mapM λf=>DataW.trod enc P w 0 sp held fuel f.type ((cs.drop f.offset).take (P.cellsOf f.type)))=Q1 xs->Got w s ((cs.drop off).take s.size)
 |[],_,_,_,h,_=>by simp[Si]at h
 | [f],off,s,xs,h,hm=>by
  simp only[Si,aE,aZ]at h;obtain⟨h1,h2,h3⟩:=h;obtain⟨y,ys,hy,_,_⟩:=dd hm;rw[h1,h3]at hy;exact hT _ _ _ _ _ h2 hy
 | f::g::fs,off,.pr a b,xs,h,hm=>by
  simp only[Si,aE,aZ]at h;obtain⟨h1,h2,h3,h4⟩:=h;obtain⟨y,ys,hy,hys,_⟩:=dd hm;rw[h1,h3]at hy;obtain⟨x1,r1,o1⟩:=hT _ _ _ _ _ h2 hy;obtain⟨x2,r2,o2⟩:=Cv hT (g::fs) (off+a.size) b ys h4 hys;have hl1:((cs.drop off).take a.size).length=a.size:=by rw[<-r1.len,zW]
  have hsplit:(cs.drop off).take (a.size+b.size)=(cs.drop off).take a.size++(cs.drop (off+a.size)).take b.size:=by
   rw[List.take_add,Fe]
  refine⟨(x1,x2),?_,?_⟩
  ·show du w U0 iQ (zq a x1++zq b x2) ((cs.drop off).take (a.size+b.size));rw[hsplit];exact r1.appS r2
  ·intro v hv;have hv:v∈(cs.drop off).take (a.size+b.size):=hv;rw[hsplit,cQ]at hv;exact hv.elim (o1 v) (o2 v)
 |_::_::_,_,.unit,_,h,_=>by simp[Si]at h
 |_::_::_,_,.bool,_,h,_=>by simp[Si]at h
 |_::_::_,_,.int _,_,h,_=>by simp[Si]at h
 |_::_::_,_,.str,_,h,_=>by simp[Si]at h
 |_::_::_,_,.sl _,_,h,_=>by simp[Si]at h
 |_::_::_,_,.expr,_,h,_=>by simp[Si]at h
theorem GQ{fuel:Nat}{t e:TypeId}{s:Sh}(ht:P.underlying t=Q1 (.slice e))(hc:P.cellsOf e=s.size)(hpos:0<s.size)
  (hT:∀cs d ps,DataW.trod enc P w 0 sp held fuel e cs=Q1 (d,ps)->Got w s cs) {cs:List Value} {d:DataW H} {ps:List MemPlace} (h:DataW.trod enc P w 0 sp held (fuel+1) t cs=Q1 (d,ps)):Got w (.sl s) cs:=by
 unfold DataW.trod at h;rw[ht]at h;split at h
 all_goals first
  |(rename_i hu;cases hu;done)
  |(rename_i hu _;cases hu;done)
  |(simp at h;done)
  |skip
 ·rename_i hu;cases hu;exact⟨[],du.one (.sl0 s Q2 0),by simp[Value.oneCell']⟩
 ·rename_i a len cap hu;cases hu;simp only[aY,true_and]at h;split at h
  ·rename_i hcond;rw[gm]at h;obtain⟨elems,he,_⟩:=h;have hall:∀i,∃x:Sem s,i<len->∃ci,w.cells? 0 (a.add (i*s.size)) s.size=Q1 ci/\du w U0 iQ (zq s x) ci:=by
    intro i;by_cases hi:i<len
    ·obtain⟨y,hy⟩:=KM he i (by simpa using hi);rw[gm]at hy;obtain⟨ci,h1,h2⟩:=hy;obtain⟨x,hx,_⟩:=hT ci y.1 y.2 h2;rw[hc]at h1;exact⟨x,λ_=>⟨ci,h1,hx⟩⟩
    ·exact⟨zj s,λh=>(hi h).elim⟩
   obtain⟨X,hX⟩:=Classical.axiomOfChoice hall;have hmax:maxLen=aF:=rfl;cases len with
   |zero=>exact⟨[],du.one (.sl0 s (Q1 a) cap),by simp[Value.oneCell']⟩
   | succ len=>
    have hcell:∀i,i<len+1->∃ci,ci.length=s.size/\(∀j,j<s.size->w.cell? ((a.add (i*s.size)).add j)=ci[j]?)/\du w U0 iQ (zq s (X i)) ci:=by
     intro i hi;obtain⟨ci,h1,h2⟩:=hX i hi;unfold World.cells? at h1;rw[if_pos (aY _)]at h1;obtain⟨h3,h4⟩:=CU h1;refine⟨ci,by simpa using h3,λj hj=>?_,h2⟩;exact h4 j j (by simp[hj])
    have hspot:a.spot=Q2:=by
     obtain⟨ci,h1,h2,_⟩:=hcell 0 ow;have:=h2 0 hpos;simp only[Nat.zero_mul,Addr.add,if_true]at this;rw[zQ ow]at this;unfold World.cell? at this;split at this
     ·split at this
      ·cases this
      ·rename_i hs;cases hsp:a.spot with
       |none=>rfl
       |some q=>rw[hsp]at hs;simp at hs
     ·cases this
    have hblk:a.block<w.heap.size:=by
     obtain⟨ci,h1,h2,_⟩:=hcell 0 ow;have:=h2 0 hpos;simp only[Nat.zero_mul,Addr.add,if_true]at this;rw[zQ ow]at this;have ha:a=⟨a.block,a.off,Q2⟩:=by rw[<-hspot]
     rw[ha]at this;exact nJ this
    have hci:∀i,∃ci:List Value,i<len+1->ci.length=s.size/\(∀j,j<s.size->w.cell? ⟨a.block,a.off+i*s.size+j,Q2⟩=ci[j]?)/\du w U0 iQ (zq s (X i)) ci:=by
     intro i;by_cases hi:i<len+1
     ·obtain⟨ci,h1,h2,h3⟩:=hcell i hi;refine⟨ci,λ_=>⟨h1,λj hj=>?_,h3⟩⟩;rw[<-h2 j hj,JC a hspot,JC _ rfl]
     ·exact⟨[],λh=>(hi h).elim⟩
    obtain⟨Cs,hCs⟩:=Classical.axiomOfChoice hci;let l:List (Sem s):=(List.range (len+1)).map X
    have hl:l.length=len+1:=by simp[l]
    have hget:∀i(hi:i<l.length),l[i]=X i:=by intro i hi;simp[l]
    refine⟨l,du.one ?_,by simp[Value.oneCell']⟩;have ha:a=⟨a.block,a.off,Q2⟩:=by rw[<-hspot]
    rw[ha,<-hl];refine .sl s l a.block a.off cap (λi j=>((Cs i)[j]?).getD undef) ow ow hblk (λh=>h) ?_ ?_
    ·intro i j hi hj;obtain⟨h1,h2,_⟩:=hCs i ow;rw[h2 j hj,zQ ow];rfl
    ·intro i hi j c hc';obtain⟨h1,_,h3⟩:=hCs i ow;rw[hget i hi]at hc';have hj:j<(Cs i).length:=by
      have:=(dh.1 hc').1;rw[h3.len]at this;exact this
     have:=h3.rv j c _ hc' (zQ hj);rw[zQ hj];exact this
  ·cases h
theorem IU{fuel:Nat}{t:TypeId}(ht:P.underlying t=Q1 .string){cs:List Value}{d:DataW H}{ps:List MemPlace}(h:DataW.trod enc P w 0 sp held fuel t cs=Q1 (d,ps)):Got w .str cs:=by
 cases fuel with
 |zero=>simp[DataW.trod]at h
 | succ fuel=>
  unfold DataW.trod at h;rw[ht]at h;split at h
  all_goals first
   |(rename_i hu;cases hu;done)
   |(rename_i hu _;cases hu;done)
   |(simp at h;done)
   |skip
  rename_i s hu;split at h
  ·rename_i hs;refine⟨s.data.toList,du.one ?_,by simp[Value.oneCell']⟩;have h9:maxLen=aF:=rfl;have h8:s.size=s.data.toList.length:=rfl;exact .str s.data.toList ow
  ·cases h
theorem CM{t:TypeId}(h:qW P t=Q3):P.underlying t=Q1 .string/\P.cellsOf t=1:=by
 unfold qW at h;split at h
 ·rename_i hu;exact⟨hu,by simpa using h⟩
 ·cases h
theorem Ux{t e:TypeId}(h:OO P t e=Q3):P.underlying t=Q1 (.slice e)/\P.cellsOf t=1:=by
 unfold OO at h;split at h
 ·rename_i u hu;simp only[aE,aZ]at h;rw[<-h.1];exact⟨hu,h.2⟩
 ·cases h
theorem qv:∀(fuel n:Nat)(t:TypeId)(s:Sh)(cs:List Value)(d:DataW H)(ps:List MemPlace),N0 P n t s=Q3->DataW.trod enc P w 0 sp held fuel t cs=Q1 (d,ps)->Got w s cs
 |0,_,_,_,_,_,_,_,h=>by simp[DataW.trod]at h
 |fuel+1,0,_,_,_,_,_,hty,_=>by simp[N0]at hty
 | fuel+1,n+1,t,s,cs,d,ps,hty,h=>by
  have h0:=h;unfold N0 at hty;split at hty
  ·rename_i hu;unfold DataW.trod at h;rw[hu]at h;split at h
   all_goals first
    |(rename_i hu';cases hu';done)
    |(rename_i hu' _;cases hu';done)
    |(simp at h;done)
    |skip
   exact⟨_,du.one (.bool _),by simp[Value.oneCell']⟩
  ·rename_i k k' hu;have hk:k=k':=by simpa using hty
   subst hk;unfold DataW.trod at h;rw[hu]at h;split at h
   all_goals first
    |(rename_i hu';cases hu';done)
    |(rename_i hu' _;cases hu';done)
    |(simp at h;done)
    |skip
   rename_i k1 k2 m hu';cases hu';split at h
   ·rename_i hw;obtain⟨rfl,hw⟩:=hw;simp only[Lit.wf,aE,aO]at hw;exact⟨m,du.one (.int _ _ ⟨hw.1,hw.2⟩),by simp[Value.oneCell']⟩
   ·cases h
  ·rename_i hu;exact IU hu h
  ·rename_i e s hu;simp only[aE,aZ,aO]at hty;exact GQ hu hty.1 hty.2.1 (λcs d ps h=>qv fuel n e s cs d ps hty.2.2 h) h
  ·rename_i fs hu;split at hty
   ·rename_i a b c d' hfs;simp only[aE,aZ]at hty;obtain⟨hsz,ha,hb,hc,hd,sa,sc,sd,zb,tb⟩:=hty;obtain⟨sa,za⟩:=CM sa;obtain⟨sc,zc⟩:=CM sc;obtain⟨sd,zd⟩:=Ux sd;unfold DataW.trod at h;rw[hu]at h;simp only at h;split at h
    ·rename_i hlen;rw[eD]at h;obtain⟨xs,hm,_⟩:=h;rw[hfs]at hm;obtain⟨ya,r1,ya1,hm,_⟩:=dd hm;obtain⟨yb,r2,yb1,hm,_⟩:=dd hm;obtain⟨yc,r3,yc1,hm,_⟩:=dd hm;obtain⟨yd,r4,yd1,hm,_⟩:=dd hm;rw[ha,za]at ya1;rw[hb,zb]at yb1;rw[hc,zc]at yc1;rw[hd,zd]at yd1;obtain⟨xa,ga,oa⟩:=IU sa ya1;obtain⟨xb,gb,ob⟩:=qv fuel n b.type _ _ _ _ tb yb1;obtain⟨xc,gc,oc⟩:=IU sc yc1;have hgd:Got w (.sl .expr) ((cs.drop 5).take 1):=by
      cases fuel with
      |zero=>simp[DataW.trod]at yd1
      | succ fuel=>
       refine GQ sd (by rw[hsz];rfl) (by decide) (λcs d ps h=>qv fuel (n+1) t .expr cs d ps ?_ h) yd1;unfold N0;rw[hu];simp only[hfs,aE,aZ];refine⟨hsz,ha,hb,hc,hd,?_,?_,?_,zb,tb⟩
       ·simp[qW,sa,za]
       ·simp[qW,sc,zc]
       ·simp[OO,sd,zd]
     obtain⟨xd,gd,od⟩:=hgd;have hl6:cs.length=6:=by rw[hlen,hsz]
     have hcs:cs=(cs.drop 0).take 1++((cs.drop 1).take 3++((cs.drop 4).take 1++(cs.drop 5).take 1)):=by
      match cs,hl6 with
      |[v0,v1,v2,v3,v4,v5],_=>rfl
     refine⟨ze.mk xa xb xc xd,?_,?_⟩
     ·have hr:=ga.appS (gb.appS (gc.appS gd));rw[<-hcs]at hr;exact hr
     ·intro v hv;rw[hcs]at hv;simp only[cQ]at hv;rcases hv with hv|hv|hv|hv
      ·exact oa v hv
      ·exact ob v hv
      ·exact oc v hv
      ·exact od v hv
    ·cases h
   ·cases hty
  ·rename_i fs a b hu;simp only[aE,aZ]at hty;unfold DataW.trod at h;rw[hu]at h;simp only at h;split at h
   ·rename_i hlen;rw[eD]at h;obtain⟨xs,hm,_⟩:=h;have:=Cv (λt s cs d ps h1 h2=>qv fuel n t s cs d ps h1 h2) fs.toList 0 (.pr a b) xs hty.2 hm;rw[List.drop_zero,Of (by rw[hlen,hty.1];exact ae _)]at this;exact this
   ·cases h
  ·cases hty
termination_by fuel=>fuel
theorem Ay{n:Nat}{t:TypeId}{s:Sh}{v:Value}{d:DataW H}{ps:List MemPlace}(hty:N0 P n t s=Q3)(h:DataW.Trod enc P w 0 sp held t v d ps)(hagg:(∃cs,v=.agg cs)↔s.isAgg=Q3)(hsc:s.isAgg=Q4->v.cells=#[v]):∃x:Sem s,Rv w U0 iQ (zz s x) v:=by
 obtain⟨fuel,h⟩:=h;obtain⟨x,hr,ho⟩:=qv fuel n t s _ d ps hty h;refine⟨x,?_⟩;unfold zz;cases hs:s.isAgg with
 | true=>
  obtain⟨cs,rfl⟩:=hagg.2 hs;simp only;have:=Rv.agg (w:=w) (U:=U0) (ρ:=iQ) (zq s x) cs.toList hr.len ho hr.rv;simpa using this
 | false=>
  simp only;rw[hsc hs]at hr;have hlen:=hr.len
  match he:zq s x,hlen with
  | [c],_=>
   rw[he]at hr;exact hr.rv 0 c v rfl rfl
end
end Cad
namespace Go.Proofs
open Cad (ae cC dU)
open Go.RowKit Go.Shelf
open Bool renaming false→Q4
open Bool renaming true→Q3
open Option renaming none→Q2
open Option renaming some→Q1
variable {F:Fence} {n:Nat} {P:Program}
structure KeepsAll (B:Nat) (W W':World):Prop where
 size:W.heap.size<=W'.heap.size
 same:∀(k:Nat)(o:Obj),B<=k->W.heap[k]?=Q1 o->W'.heap[k]?=Q1 o
theorem KeepsAll.refl(B:Nat)(W:World):KeepsAll B W W:=⟨ae _,λ_ _ _ h=>h⟩
theorem KeepsAll.trans{B:Nat}{X Y Z:World}(h:KeepsAll B X Y)(k:KeepsAll B Y Z):KeepsAll B X Z:=⟨cC h.size k.size,λi o hB hi=>k.same i o hB (h.same i o hB hi)⟩
theorem KeepsAll.more{B B':Nat}{X Y:World}(h:KeepsAll B X Y)(hB:B<=B'):KeepsAll B' X Y:=⟨h.size,λk o hk=>h.same k o (cC hB hk)⟩
theorem KeepsAll.grown{B:Nat}{W W':World}{row:Option Nat}(hg:W.grownBy W' row)(hrow:∀j,row=Q1 j->j<B):KeepsAll B W W':=
 ⟨hg.size,λk o hB hk=>(hg.block k (dU.1 hk).1 (λe=>by have:=hrow k e.symm;omega)).trans hk⟩
theorem KeepsAll.alloc(B:Nat)(W:World)(o:Obj):KeepsAll B W (W.alloc o):=.grown (World.grownBy_alloc W o Q2) (λ_ e=>by cases e)
theorem KeepsAll.setCell{B:Nat}(W:World)(b:Nat)(o:Nat)(v:Value)(h:b<B):KeepsAll B W (W.setCell ⟨b,o,Q2⟩ v):=
 ⟨by show W.heap.size<=(W.heap.modify _ _).size;rw[Array.size_modify];exact ae _,λk o' hB hk=>(Below.heap_setCell W ⟨b,o,Q2⟩ v k (by show k≠b;omega)).trans hk⟩
theorem ownFrom_keepsAll{β:Type}{B B':Nat}{w₀:World}(hB:w₀.heap.size<=B'):OwnFrom B' (λ(_:β) W=>KeepsAll B w₀ W):=
 λ_ X Y row hs hg hr=>⟨cC hs.size hg.size,λk o hk h0=>by
  have hX:=hs.same k o hk h0;refine(hg.block k (dU.1 hX).1 (λe=>?_)).trans hX;have h1:=(hr k e.symm).1;have h2:=(dU.1 h0).1;omega⟩
def SeqO{α:Type}(F:Fence)(P:Program)(g:Nat)(lb:Array Value)(encs:α->Array Value)(n₀:Nat)(S Sp:List α->Prop)(w:World):Prop:=
 ∀(n l:Nat)(J Jx:List α->World->Prop)(W:World),Below w.heap.size w W->OwnFrom W.heap.size J->OwnFrom W.heap.size Jx->
  (∀m pre x W1,J pre W1->YieldAt F m P l (encs x) W1 λe W'=>KeepsAll W.heap.size W1 W'/\((e=.returned (.bool Q3)/\J (pre++[x]) W'/\Below n₀ W1 W')\/(e=.returned (.bool Q4)/\Jx (pre++[x]) W')))->
  J [] W->
  CallsIn F n P g (#[.func (.yield l) #[] #[]]++lb) W λe W'=>(∃v,e=.returned v)/\((∃xs,S xs/\J xs W'/\Below n₀ W W')\/(∃pre,Sp pre/\Jx pre W'))
theorem wpIn_rangeO{α:Type}{g:Operand}{ps:Array Tmp}{assign body:Code}{Q:Exit->Act->World->Prop}{a:Act}{w:World}(hd:F.depth=Q2)
  (hro:F.round=Q2) {gf:Nat} {lb:Array Value} (hg:a.eval g=.func (.func gf) #[] lb) (hFg:F.fn gf) (eg:∀args w,(callFunc gf args).run P w=.ok (.enter gf args) w)
  {encs:α->Array Value} {n₀:Nat} {S Sp:List α->Prop} {w0:World} (hseq:SeqO F P gf lb encs n₀ S Sp w0) (hb0:Below w0.heap.size w0 w) (hn₀:n₀<=w.heap.size) (hps:∀x,(encs x).size=ps.size)
  (I Ix:List α->World->Prop) (hI:OwnFrom w.heap.size I) (hIx:OwnFrom w.heap.size Ix) (h0:I [] w) (Ax:α->Act->World->Prop) (hAx:∀x a',OwnFrom w.heap.size (λ(_:Unit) W=>Ax x a' W))
  (hassign:∀(l m:Nat)(pre:List α)(x:α)(W:World)(K:Act->World->Prop),w.heap.size<W.heap.size->I pre W->(∀a' W',KeepsAll w.heap.size W W'->Below n₀ W W'->I pre W'->Ax x a' W'->K a' W')->
   assign.wpIn (F.inRound l) m P (Exit.then K (λ_ _ _=>False)) {tmps:=(ps.zip (encs x)).foldl (λt(p,v)=>t.setIfInBounds p v) a.tmps,defers:=[]} W)
  (hbody:∀(l m:Nat)(pre:List α)(x:α)(a':Act)(W:World),w.heap.size<W.heap.size->I pre W->Ax x a' W->body.wpIn (F.inRound l) m P
   (λe _ W'=>KeepsAll w.heap.size W W'/\((e=.normal/\Below n₀ W W'/\I (pre++[x]) W')\/(e=.ret/\Ix (pre++[x]) W'))) a' W)
  (hdone:∀(D:Nat)(xs:List α)(W:World),D=w.heap.size->S xs->I xs W->Below n₀ w W->W.heap[D]?=Q1 (.deferred (Q1 []))->Q .normal {a with defers:={target:=.collected D,args:=#[]}::a.defers} W)
  (hstop:∀(D:Nat)(pre:List α)(W:World),D=w.heap.size->Sp pre->Ix pre W->W.heap[D]?=Q1 (.deferred (Q1 []))->Code.ret.wpIn F n P Q {a with defers:={target:=.collected D,args:=#[]}::a.defers} W):
  (Code.rangeFunc g ps assign body).wpIn F n P Q a w:=by
 refine wpIn_rangeFunc ?_;intro fn hfn;rw[hro];obtain⟨rec,hrec⟩:∃rec:LoopState->Option Code->Loop,rec=λst pe=>{state:=st,pending:=pe,fn,tmps:=a.tmps,params:=ps,assign,body,defers:=w.heap.size}:=⟨_,rfl⟩
 obtain⟨W1,hW1⟩:∃W1,(w.alloc (.deferred (Q1 []))).alloc (.loop (rec .ready Q2))=W1:=⟨_,rfl⟩;have hs1:W1.heap.size=w.heap.size+2:=by rw[<-hW1];simp
 have hL1:W1.heap[w.heap.size+1]?=Q1 (.loop (rec .ready Q2)):=by
  rw[<-hW1];have:=World.alloc_heap_new (w.alloc (.deferred (Q1 []))) (.loop (rec .ready Q2));rwa [World.size_alloc]at this
 have hK1:W1.heap[w.heap.size]?=Q1 (.deferred (Q1 [])):=by
  rw[<-hW1];exact(Below.heap_alloc _ _ _ (by simp)).trans (World.alloc_heap_new w _)
 have hI1:I [] W1:=by rw[<-hW1];exact hI.alloc _ (hI.alloc _ h0)
 have hbw:Below w.heap.size w W1:=by rw[<-hW1];exact((Below.refl _ w).alloc (ae _) _).alloc (by simp) _
 have turn:∀{W:World}{o:Obj}(o':Obj),W.heap[w.heap.size+1]?=Q1 o->Below n₀ W (W.putObj (w.heap.size+1) o'):=λ{W o} o' h=>
  (Below.refl n₀ W).grown (grownBy_putObj' W _ o') (by have:=(dU.1 h).1;omega) (λk e=>by cases e;omega)
 have keep:∀{W:World}(o':Obj),KeepsAll W1.heap.size W (W.putObj (w.heap.size+1) o'):=λ{W} o'=>
  .grown (grownBy_putObj' W _ o') (λk e=>by cases e;omega)
 refine⟨w.heap.size+1,[{target:=.collected w.heap.size,args:=#[]}],W1,{target:=.fn (.func gf) lb,args:=#[.func (.yield (w.heap.size+1)) #[] #[]]},W1,gf,
  #[.func (.yield (w.heap.size+1)) #[] #[]]++lb,W1,?_,?_,?_,?_,λh=>(by rw[hd]at h;cases h),?_⟩
 ·rw[<-hW1,hrec];exact run_enterLoop_outer _ _ _ _ _
 ·simp only[resolve,hg];simp[go_sem]
 ·intro f' hf';simp[Target.leads]at hf';subst hf';exact hFg
 ·simp[invoke,go_sem,eg]
 have abide:∀{o:Obj}{X Y:World}{row:Option Nat}{k:Nat},k<=w.heap.size+1->X.heap[k]?=Q1 o->X.grownBy Y row->(∀r,row=Q1 r->W1.heap.size<=r/\∃o:Obj,X.heap[r]?=Q1 o/\o.isCells=Q4)->Y.heap[k]?=Q1 o:=
  λhk ho hg hr=>(hg.block _ (dU.1 ho).1 (λe=>by have:=(hr _ e.symm).1;omega)).trans ho
 refine(hseq (n-1) (w.heap.size+1)
  (λpre W=>I pre W/\W.heap[w.heap.size+1]?=Q1 (.loop (rec .ready Q2))/\W.heap[w.heap.size]?=Q1 (.deferred (Q1 [])))
  (λpre W=>Ix pre W/\W.heap[w.heap.size+1]?=Q1 (.loop (rec .done (Q1 .ret)))/\W.heap[w.heap.size]?=Q1 (.deferred (Q1 [])))
  W1 (hb0.trans (hbw.mono hb0.size))
  (λs X Y row hs hg hr=>⟨hI s X Y row hs.1 hg (λr e=>⟨by have:=(hr r e).1;omega,(hr r e).2⟩),abide (ae _) hs.2.1 hg hr,abide (by omega) hs.2.2 hg hr⟩)
  (λs X Y row hs hg hr=>⟨hIx s X Y row hs.1 hg (λr e=>⟨by have:=(hr r e).1;omega,(hr r e).2⟩),abide (ae _) hs.2.1 hg hr,abide (by omega) hs.2.2 hg hr⟩)
  ?_ ⟨hI1,hL1,hK1⟩).mono ?_
 ·
  rintro m pre x W ⟨hi,hl,hk⟩;have hlt:w.heap.size+1<W.heap.size:=(dU.1 hl).1;have hy:=run_yield (P:=P) (args:=encs x) hl (by rw[hrec];exact hps x);rw[hrec]at hy;refine⟨fn,_,assign,body,hy,roundIn_of_wpIn hfn (hassign _ m pre x W _ (by omega) hi ?_)⟩;clear hy;intro a' Wa hka hba hia hax;have hla:=hka.same _ _ (by omega) hl;have hda:=hka.same _ _ (ae _) hk;have hlta:w.heap.size+1<Wa.heap.size:=(dU.1 hla).1;refine⟨_,run_beginRound hla (by rw[hrec]),?_⟩;have hl2:(Wa.putObj (w.heap.size+1) (.loop {rec .ready Q2 with state:=.busy})).heap[w.heap.size+1]?=Q1 (.loop {rec .ready Q2 with state:=.busy}):=World.putObj_heap_same hlta;have hk2:(Wa.putObj (w.heap.size+1) (.loop {rec .ready Q2 with state:=.busy})).heap[w.heap.size]?=Q1 (.deferred (Q1 [])):=(World.putObj_heap_other (by omega)).trans hda;refine wpIn_mono (hbody _ m pre x a' _ (by simp;omega) (hI.putObj _ hia (by omega) hla rfl) ((hAx x a').putObj (s:=()) _ hax (by omega) hla rfl)) ?_;rintro e a3 W3 ⟨hk3,hp⟩;have hl3:=hk3.same _ _ (by omega) hl2;have Sg:=hk3.same _ _ (ae _) hk2;have hlt3:=(dU.1 hl3).1;have kf:∀o',KeepsAll W1.heap.size W (W3.putObj (w.heap.size+1) o'):=λo'=>(((hka.more (by omega)).trans (keep _)).trans (hk3.more (by omega))).trans (keep _)
  have hend:=λjump=>run_endRound (P:=P) jump hl3
  rcases hp with⟨rfl,hb3,hi3⟩|⟨rfl,hi3⟩
  ·exact⟨_,_,hend Q2,kf _,.inl ⟨rfl,⟨hI.putObj _ hi3 (by omega) hl3 rfl,by rw[hrec];exact World.putObj_heap_same hlt3,(World.putObj_heap_other (by omega)).trans Sg⟩,((hba.trans (turn _ hla)).trans hb3).trans (turn _ hl3)⟩⟩
  ·exact⟨_,_,hend (Q1 .ret),kf _,.inr ⟨rfl,hIx.putObj _ hi3 (by omega) hl3 rfl,by rw[hrec];exact World.putObj_heap_same hlt3,(World.putObj_heap_other (by omega)).trans Sg⟩⟩
 ·
  rintro e W2 ⟨⟨v,rfl⟩,(⟨xs,hS,⟨hi,hl,hk⟩,hbl⟩|⟨pre,hSp,hi,hl,hk⟩)⟩
  ·exact⟨Q2,_,by have:=run_endLoop (P:=P) hl (by rw[hrec];simp);rw[hrec]at this;exact this,hdone _ xs _ rfl hS (hI.putObj _ hi (by omega) hl rfl) (((hbw.mono hn₀).trans hbl).trans (turn _ hl)) ((World.putObj_heap_other (by omega)).trans hk)⟩
  ·exact⟨Q1 .ret,_,by have:=run_endLoop (P:=P) hl (by rw[hrec];simp);rw[hrec]at this;exact this,hstop _ pre _ rfl hSp (hIx.putObj _ hi (by omega) hl rfl) ((World.putObj_heap_other (by omega)).trans hk)⟩
theorem wpIn_rangeB{α:Type}{g:Operand}{ps:Array Tmp}{assign body:Code}{Q:Exit->Act->World->Prop}{a:Act}{w:World}(hd:F.depth=Q2)
  (hro:F.round=Q2) {gf:Nat} {lb:Array Value} (hg:a.eval g=.func (.func gf) #[] lb) (hFg:F.fn gf) (eg:∀args w,(callFunc gf args).run P w=.ok (.enter gf args) w)
  {encs:α->Array Value} {n₀:Nat} {S Sp:List α->Prop} {w0:World} (hseq:SeqO F P gf lb encs n₀ S Sp w0) (hb0:Below w0.heap.size w0 w) (hn₀:n₀<=w.heap.size) (hps:∀x,(encs x).size=ps.size)
  (I Ix:List α->World->Prop) (hI:OwnFrom w.heap.size I) (hIx:OwnFrom w.heap.size Ix) (h0:I [] w) (q:Tmp) (cs:α->Array Value) (t:TypeId)
  (hassign:∀(l m:Nat)(pre:List α)(x:α)(W:World)(K:Act->World->Prop),w.heap.size<W.heap.size->I pre W->
   (∀Bx W',KeepsAll w.heap.size W W'->Below n₀ W W'->I pre W'->W'.heap[Bx]?=Q1 (.cells (cs x) t (0,0))->K {tmps:=((ps.zip (encs x)).foldl (λt(p,v)=>t.setIfInBounds p v) a.tmps).setIfInBounds q (.pointer (Q1 ⟨Bx,0,Q2⟩)),defers:=[]} W')->
   assign.wpIn (F.inRound l) m P (Exit.then K (λ_ _ _=>False)) {tmps:=(ps.zip (encs x)).foldl (λt(p,v)=>t.setIfInBounds p v) a.tmps,defers:=[]} W)
  (hbody:∀(l m:Nat)(pre:List α)(x:α)(Bx:Nat)(W:World),w.heap.size<W.heap.size->I pre W->W.heap[Bx]?=Q1 (.cells (cs x) t (0,0))->body.wpIn (F.inRound l) m P
   (λe _ W'=>KeepsAll w.heap.size W W'/\((e=.normal/\Below n₀ W W'/\I (pre++[x]) W')\/(e=.ret/\Ix (pre++[x]) W'))) {tmps:=((ps.zip (encs x)).foldl (λt(p,v)=>t.setIfInBounds p v) a.tmps).setIfInBounds q (.pointer (Q1 ⟨Bx,0,Q2⟩)),defers:=[]} W)
  (hdone:∀(D:Nat)(xs:List α)(W:World),D=w.heap.size->S xs->I xs W->Below n₀ w W->W.heap[D]?=Q1 (.deferred (Q1 []))->Q .normal {a with defers:={target:=.collected D,args:=#[]}::a.defers} W)
  (hstop:∀(D:Nat)(pre:List α)(W:World),D=w.heap.size->Sp pre->Ix pre W->W.heap[D]?=Q1 (.deferred (Q1 []))->Code.ret.wpIn F n P Q {a with defers:={target:=.collected D,args:=#[]}::a.defers} W):
  (Code.rangeFunc g ps assign body).wpIn F n P Q a w:=
 wpIn_rangeO hd hro hg hFg eg hseq hb0 hn₀ hps I Ix hI hIx h0 (λx a' W'=>∃Bx,W'.heap[Bx]?=Q1 (.cells (cs x) t (0,0))/\a'={tmps:=((ps.zip (encs x)).foldl (λt(p,v)=>t.setIfInBounds p v) a.tmps).setIfInBounds q (.pointer (Q1 ⟨Bx,0,Q2⟩)),defers:=[]})
  (λx a' _ X Y row hs hg hr=>by
   obtain⟨Bx,h2,h3⟩:=hs;exact⟨Bx,(hg.block Bx (dU.1 h2).1 (λe=>by obtain⟨o,ho,hc⟩:=(hr Bx e.symm).2;rw[h2]at ho;cases ho;cases hc)).trans h2,h3⟩)
  (λl m pre x W K h1 h2 h3=>hassign l m pre x W K h1 h2 λBx W' k1 k2 k3 k4=>h3 _ _ k1 k2 k3 ⟨Bx,k4,rfl⟩)
  (λl m pre x a' W h1 h2 ⟨Bx,h3,h4⟩=>h4▸hbody l m pre x Bx W h1 h2 h3) hdone hstop
end Go.Proofs
namespace Cad
open Go Go.Proofs Go.RowKit
open Bool renaming false→Q4
open Bool renaming true→Q3
open Option renaming none→Q2
open Option renaming some→Q1
set_option maxHeartbeats 4000000
attribute [local go_sem] Oper.semAt_some
open Tr (chk br)
open AV (nils agg tup ptr kb str sl)
abbrev bp(e:ze)(a:Option Addr)(c:Nat):List Value:=[.string ⟨e.op.toArray⟩,.int .i64 e.v.1,.int .i64 e.v.2.1,.string ⟨e.v.2.2.toArray⟩,.string ⟨e.s.toArray⟩,.slice a e.l.length c]
def nC(w0:World)(U:Nat->Prop)(ρ:Nat->Option Value)(e:ze)(a:Option Addr)(c:Nat):Prop:=du w0 U ρ (zq .expr e) (bp e a c)
inductive BA:ze->List ze->Prop
 |leaf {e:ze} (h:e.op≠cY):BA e [e]
 |both {e a b:ze} {la lb:List ze} (h:e.op=cY) (hl:e.l=[a,b]) (ha:BA a la) (hb:BA b lb):BA e (la++lb)
theorem nC.child{w0:World}{U:Nat->Prop}{ρ:Nat->Option Value}{e:ze}{a:Option Addr}{c:Nat}(h:nC w0 U ρ e a c){i:Nat}(hi:i<e.l.length):
  ∃b o,a=Q1 ⟨b,o,Q2⟩/\b<w0.heap.size/\∃a' c',nC w0 U ρ e.l[i] a' c'/\∀j v,(bp e.l[i] a' c')[j]?=Q1 v->w0.cell? ⟨b,o+i*6+j,Q2⟩=Q1 v:=by
 have h5:=h.rv 5 (.sl .expr e.l) _ rfl rfl;obtain⟨a',cap,e1,hcap,hm,hh⟩:=oG h5;cases e1;rcases hh with h0|⟨b,o,rfl,hrr⟩
 ·rw[h0]at hi;cases hi
 have hrr:=hrr i hi;have e6:Sh.expr.size=6:=rfl;rw[e6]at hrr;generalize e.l[i]=x at hrr;obtain⟨x0,c0,r0⟩:=hrr 0 (.str x.op) rfl;obtain⟨x1,c1,r1⟩:=hrr 1 (.int .i64 x.v.1) rfl;obtain⟨x2,c2,r2⟩:=hrr 2 (.int .i64 x.v.2.1) rfl;obtain⟨x3,c3,r3⟩:=hrr 3 (.str x.v.2.2) rfl;obtain⟨x4,c4,r4⟩:=hrr 4 (.str x.s) rfl;obtain⟨x5,c5,r5⟩:=hrr 5 (.sl .expr x.l) rfl;obtain⟨a',cap',rfl,_⟩:=oG r5;have q0:=r0;have q1:=r1;have q2:=r2;have q3:=r3;have q4:=r4;cases r0;cases r1;cases r2;cases r3;cases r4;refine⟨b,o,rfl,nJ c0,a',cap',⟨rfl,λj cc v hc hv=>?_⟩,λj v hv=>?_⟩
 ·match j,hc,hv with
  |0,hc,hv=>cases hc;cases hv;exact q0
  |1,hc,hv=>cases hc;cases hv;exact q1
  |2,hc,hv=>cases hc;cases hv;exact q2
  |3,hc,hv=>cases hc;cases hv;exact q3
  |4,hc,hv=>cases hc;cases hv;exact q4
  |5,hc,hv=>cases hc;cases hv;exact r5
 ·match j,hv with
  |0,hv=>cases hv;exact c0
  |1,hv=>cases hv;exact c1
  |2,hv=>cases hv;exact c2
  |3,hv=>cases hv;exact c3
  |4,hv=>cases hv;exact c4
  |5,hv=>cases hv;exact c5
end Cad
namespace Go.Proofs
open Cad (aY ae cC dU eE ia jI lN pn po yw)
open Go.RowKit Go.Shelf
open Bool renaming false→Q4
open Bool renaming true→Q3
open Option renaming none→Q2
open Option renaming some→Q1
attribute [local go_sem] Oper.semAt_some
abbrev R12:={l:List Value//l.length=12/\∀v∈l,v.oneCell'=Q3}
theorem run_store_one(v:Value)(h:v.oneCell'=Q3)(w:World)(a:Addr)(hc:(w.cell? a).isSome=Q3)(hf:w.frozen? a=Q4):Sem.run Tryz.prog (store a v) w=.ok () (w.setCell a v):=by
 obtain⟨u,hu⟩:=Option.isSome_iff_exists.1 hc;unfold store;cases v<;>first|(simp[Value.oneCell']at h;done)|simp[Sem.run,hu,hf]
set_option maxRecDepth 100000 in
set_option maxHeartbeats 2000000 in
theorem Tryz.values1_in(F:Fence)(n:Nat)(h7:F.fn 108)(hro:F.round=Q2)(hn:1<=n)(l Bs n₀ b off cap:Nat)(zs:List R12)(hreach:zs.length<=1000)(hb:b<n₀)(J Jx:List R12->World->Prop)(W:World)(hn₀:n₀<=W.heap.size)(hJ:AbidesFrom W.heap.size J)
  (hY:∀pre x W,J pre W->pre.length<zs.length->YieldAt F (n-1) Tryz.prog l #[.agg x.1.toArray] W λe W'=>
   (e=.returned (.bool Q3)/\J (pre++[x]) W'/\Below n₀ W W')\/(e=.returned (.bool Q4)/\Jx (pre++[x]) W'))
  (hBs:W.cell? ⟨Bs,0,Q2⟩=Q1 (.slice (Q1 ⟨b,off,Q2⟩) zs.length cap)) (hc:∀i(hi:i<zs.length),∀j v,zs[i].1[j]?=Q1 v->W.cell? ⟨b,off+i*12+j,Q2⟩=Q1 v) (h0:J [] W):
  CallsIn F n Tryz.prog 108 #[.func (.yield l) #[] #[],.pointer (Q1 ⟨Bs,0,Q2⟩)] W λe W'=>(∃v,e=.returned v)/\
   ((∃ys,ys=zs/\J ys W')\/(∃pre,(∃k,k<=zs.length/\pre=zs.take k)/\Jx pre W')):=by
 refine callsIn_of_wp Tryz.func108 rfl h7 ?_ hro;simp only[Tryz.ntmps108,List.size_toArray,eE,jI,Nat.reduceAdd,Nat.reduceSub,Array.replicate_succ,Array.replicate_zero,List.push_toArray,List.append_toArray,po,List.cons_append]
 gi_wp2
 gi_loopw [7] (λi wr=>∃k:Nat,k<=zs.length/\i=.int .i64 k/\J (zs.take k) wr/\Below n₀ W wr)
  (λi _=>zs.length-(intOf i).toNat)
 case atStart=>exact⟨0,aY _,rfl,h0,Below.refl _ _⟩
 case round=>
  obtain⟨k,hk,rfl,hJs,hnx⟩:=hrel;by_cases hlt:k<zs.length
  ·have hcx:∀j v,zs[k].1[j]?=Q1 v->wr.cell? ⟨b,off+k*12+j,Q2⟩=Q1 v:=λj v h=>(hnx.cell (p:=⟨b,off+k*12+j,Q2⟩) hb).trans (hc k hlt j v h)
   have hYx:=λW' h=>hY (zs.take k) zs[k] W' h (by rw[pn];omega)
   have htk:zs.take k++[zs[k]]=zs.take (k+1):=List.take_append_getElem hlt;rw[htk]at hYx;generalize hx:zs[k]=x at hYx hcx;obtain⟨xs,hxl,hx1⟩:=x
   match xs,hxl with
   |[v0,v1,v2,v3,v4,v5,v6,v7,v8,v9,v10,v11],_=>
   have c0:=hcx 0 v0 rfl;have c1:=hcx 1 v1 rfl;have c2:=hcx 2 v2 rfl;have c3:=hcx 3 v3 rfl;have c4:=hcx 4 v4 rfl;have c5:=hcx 5 v5 rfl;have c6:=hcx 6 v6 rfl;have c7:=hcx 7 v7 rfl;have c8:=hcx 8 v8 rfl;have c9:=hcx 9 v9 rfl;have c10:=hcx 10 v10 rfl;have c11:=hcx 11 v11 rfl;rw[yw]at c0;have d0:=run_store_one v0 (hx1 v0 (by simp));have d1:=run_store_one v1 (hx1 v1 (by simp));have d2:=run_store_one v2 (hx1 v2 (by simp));have d3:=run_store_one v3 (hx1 v3 (by simp));have d4:=run_store_one v4 (hx1 v4 (by simp));have d5:=run_store_one v5 (hx1 v5 (by simp));have d6:=run_store_one v6 (hx1 v6 (by simp));have d7:=run_store_one v7 (hx1 v7 (by simp));have d8:=run_store_one v8 (hx1 v8 (by simp));have d9:=run_store_one v9 (hx1 v9 (by simp));have d10:=run_store_one v10 (hx1 v10 (by simp));have d11:=run_store_one v11 (hx1 v11 (by simp));have hJa:J (zs.take k) (wr.alloc (.cells #[v0,v1,v2,v3,v4,v5,v6,v7,v8,v9,v10,v11] 47)):=hJ _ _ _ Q2 hJs (World.grownBy_alloc _ _ _) (λr e=>by cases e);have hba:Below n₀ wr (wr.alloc (.cells #[v0,v1,v2,v3,v4,v5,v6,v7,v8,v9,v10,v11] 47)):=(Below.refl _ _).alloc (by have:=hnx.size;omega) _;obtain⟨fn,tmps,assign,body,hy,hR⟩:=hYx _ hJa
   dsimp only at hy hR
   gi_wp2
   refine hR.mono ?_;rintro e W3 (⟨rfl,hJ3,hk3⟩|⟨rfl,hJx3⟩)
   ·gi_wp2
    go_roundw
    case rel=>exact⟨k+1,by omega,by simp,hJ3,(hnx.trans hba).trans hk3⟩
    case measure=>simp[intOf];omega
   ·gi_wp2
    refine bodyPost_ret (results_none rfl _ _ _) rfl ?_;exact⟨⟨_,rfl⟩,.inr ⟨_,⟨k+1,by omega,rfl⟩,hJx3⟩⟩
  ·obtain rfl:k=zs.length:=by omega
   gi_wp2
   go_end0
   exact⟨⟨_,rfl⟩,.inl ⟨_,rfl,by rwa [lN]at hJs⟩⟩
theorem Tryz.values_stops(F:Fence)(n:Nat)(h7:F.fn 108)(hro:F.round=Q2)(hn:1<=n)(Bs n₀ b off cap:Nat)(zs:List R12)(hreach:zs.length<=1000)(w:World)(hBs:Bs<w.heap.size)(hn₀:n₀<=w.heap.size)(hb:b<n₀)
  (hs:w.cell? ⟨Bs,0,Q2⟩=Q1 (.slice (Q1 ⟨b,off,Q2⟩) zs.length cap)) (hc:∀i(hi:i<zs.length),∀j v,zs[i].1[j]?=Q1 v->w.cell? ⟨b,off+i*12+j,Q2⟩=Q1 v):
  SeqStopsK F n Tryz.prog 108 #[.pointer (Q1 ⟨Bs,0,Q2⟩)] (λx:R12=>#[.agg x.1.toArray]) (Below n₀) (λys=>ys=zs) (λpre=>pre<+:zs) zs.length w:=λl J Jx W hW hJ _ hY h0=>by
 refine(Tryz.values1_in F n h7 hro hn l Bs n₀ b off cap zs hreach hb J Jx W (cC hn₀ hW.size) hJ hY ((hW.cell (p:=⟨Bs,0,Q2⟩) hBs).trans hs) (λi hi j v h=>(hW.cell (p:=⟨b,off+i*12+j,Q2⟩) (ia hb hn₀)).trans (hc i hi j v h)) h0).mono ?_;rintro e W' ⟨he,⟨ys,hy,hj⟩|⟨pre,⟨k,hk,rfl⟩,hj⟩⟩
 ·exact⟨he,.inl ⟨ys,hy,hj⟩⟩
 ·exact⟨he,.inr ⟨_,List.take_prefix _ _,hj⟩⟩
theorem Tryz.info47:(Tryz.prog.info? 47).map (λi=>(i.zero,i.size,i.bytes))=Q1 (Q1 (.agg #[.string ⟨#[]⟩,.slice Q2 0 0,.int .i64 0,.slice Q2 0 0,.slice Q2 0 0,.string ⟨#[]⟩,.int .i64 0,.int .i64 0,.string ⟨#[]⟩,.string ⟨#[]⟩,.slice Q2 0 0,.slice Q2 0 0]),12,208):=by kernel_rfl
def flat12(l:List R12):List Value:=l.flatMap λx=>x.1
theorem flat12_snoc(l:List R12)(x:R12):flat12 (l++[x])=flat12 l++x.1:=by simp[flat12]
theorem cell_row_new(w:World)(l:List Value)(t:TypeId):∀j u,l[j]?=Q1 u->(w.alloc (.cells l.toArray t)).cell? ((⟨w.heap.size,0,Q2⟩:Addr).add j)=Q1 u:=by
 intro j u h;unfold Addr.add;split
 ·rename_i e;subst e;simp[h]
 ·simp[h]
theorem cells_own(B:Nat)(vs:Array Value)(t:TypeId):Own (λ(_:Unit) W=>W.heap[B]?=Q1 (.cells vs t (0,0))):=λs X Y row hs hg hrow=>
 (hg.block B (dU.1 hs).1 (λe'=>by obtain⟨o,ho,hc⟩:=hrow B e'.symm;rw[hs]at ho;cases ho;cases hc)).trans hs
set_option maxRecDepth 100000 in
set_option maxHeartbeats 2000000 in
theorem Tryz.appendSeq_in(F:Fence)(n:Nat)(h3:F.fn 148)(h5:F.fn 108)(hro:F.round=Q2)(hn:3<=n)(Bs b off cap:Nat)(zs:List R12)(hreach:zs.length<=1000)(w:World)(hBs:Bs<w.heap.size)(hb:b<w.heap.size)
  (hs:w.cell? ⟨Bs,0,Q2⟩=Q1 (.slice (Q1 ⟨b,off,Q2⟩) zs.length cap)) (hc:∀i(hi:i<zs.length),∀j v,zs[i].1[j]?=Q1 v->w.cell? ⟨b,off+i*12+j,Q2⟩=Q1 v):
  CallsIn F n Tryz.prog 148 #[.slice Q2 0 0,.func (.func 108) #[] #[.pointer (Q1 ⟨Bs,0,Q2⟩)]] w λe W'=>∃v,e=.returned v/\W'.ownsRow w.heap.size 47 12 v zs.length (flat12 zs)/\Below w.heap.size w W':=by
 have h1:1<=n:=by omega
 obtain⟨i0,hi,hz0,hz1,hz2⟩:=info_parts Tryz.info47;refine callsIn_of_wp_marks Tryz.func148 rfl h3 ?_ hro;simp only[Tryz.ntmps148,List.size_toArray,eE,jI,Nat.reduceAdd,Nat.reduceSub,Array.replicate_succ,Array.replicate_zero,List.push_toArray,List.append_toArray,po,List.cons_append]
 gi_wp2
 have bO:=Boxed.new w 22 (.slice Q2 0 0);have hB0:Below w.heap.size w (w.alloc (.cells #[.slice Q2 0 0] 22)):=(Below.refl _ w).alloc (ae _) _
 refine wpIn_rangeFunc_ownH hro h1 (gf:=108) (lb:=#[.pointer (Q1 ⟨Bs,0,Q2⟩)]) rfl h5 (enters_of Tryz.func108 (by kernel_rfl) rfl)
  (Tryz.values_stops F (n-1) h5 hro (by omega) Bs w.heap.size b off cap zs hreach _ (by simp<;>omega) (by simp) hb ((hB0.cell (p:=⟨Bs,0,Q2⟩) hBs).trans hs) (λi hi j v h=>(hB0.cell (p:=⟨b,off+i*12+j,Q2⟩) hb).trans (hc i hi j v h))) belowK_t (belowK_b (by simp<;>omega)) (Below.refl _ _) (λ_=>rfl)
  (λpre W=>(∃v,Boxed W w.heap.size 22 v/\W.ownsRow w.heap.size 47 12 v pre.length (flat12 pre)/\(v=.slice Q2 0 0↔pre=[]))/\Below w.heap.size w W)
  (λ_ _ _=>False)
  (OwnFrom.and (Own.from (holdsRow_own w.heap.size w.heap.size 22 47 12 (λpre=>pre.length) (λpre=>flat12 pre) (λpre v=>v=.slice Q2 0 0↔pre=[])) _) (ownFrom_below (ae _) (by simp<;>omega)))
  (λ_ _ _ _ _ hs _ _=>hs)
  ⟨⟨_,bO,World.ownsRow_nil _ _ _ _,by simp⟩,hB0⟩
  (λx a' W=>∃Bx,w.heap.size<Bx/\W.heap[Bx]?=Q1 (.cells x.1.toArray 47 (0,0))/\a'={tmps:=#[.slice Q2 0 0,.func (.func 108) #[] #[.pointer (Q1 ⟨Bs,0,Q2⟩)],.pointer (Q1 ⟨w.heap.size,0,Q2⟩),undef,.slice Q2 0 0,.pointer (Q1 ⟨Bx,0,Q2⟩),.func (.func 108) #[] #[.pointer (Q1 ⟨Bs,0,Q2⟩)],.agg x.1.toArray,undef,undef,undef,undef,undef],defers:=[]})
  (λx a' _ X Y row hs hg hr=>by obtain⟨Bx,h1,h2,h3⟩:=hs;exact⟨Bx,h1,cells_own Bx x.1.toArray 47 () X Y row h2 hg (λr e=>(hr r e).2),h3⟩)
  ?assign ?body ?done ?stop
 case assign=>
  rintro l pre ⟨xs,hxl,hx1⟩ W K ⟨⟨v,hv,hrow,hnil⟩,hB⟩ hK
  match xs,hxl with
  |[v0,v1,v2,v3,v4,v5,v6,v7,v8,v9,v10,v11],_=>
  have d0:=run_store_one v0 (hx1 v0 (by simp));have d1:=run_store_one v1 (hx1 v1 (by simp));have d2:=run_store_one v2 (hx1 v2 (by simp));have d3:=run_store_one v3 (hx1 v3 (by simp));have d4:=run_store_one v4 (hx1 v4 (by simp));have d5:=run_store_one v5 (hx1 v5 (by simp));have d6:=run_store_one v6 (hx1 v6 (by simp));have d7:=run_store_one v7 (hx1 v7 (by simp));have d8:=run_store_one v8 (hx1 v8 (by simp));have d9:=run_store_one v9 (hx1 v9 (by simp));have d10:=run_store_one v10 (hx1 v10 (by simp));have d11:=run_store_one v11 (hx1 v11 (by simp))
  gi_wp2
  exact hK _ _ ((KeepsOthers.alloc _ _).from _) ((Below.refl _ W).alloc hB.size _) ⟨⟨v,hv.alloc _,hrow.alloc _,hnil⟩,hB.alloc hB.size _⟩ ⟨W.heap.size,hv.lt,World.alloc_heap_new W _,rfl⟩
 case body=>
  rintro l pre ⟨xs,hxl,hx1⟩ a' W hl ⟨r,hr⟩ ⟨⟨v,hv,hrow,hnil⟩,hB⟩ ⟨Bx,hBx,hX,rfl⟩ hlt
  match xs,hxl with
  |[v0,v1,v2,v3,v4,v5,v6,v7,v8,v9,v10,v11],_=>
  have hcv:=hv.cell
  dsimp only at hX
  have c0:W.cell? ⟨Bx,0,Q2⟩=Q1 v0:=by simp[World.cell?,hX]
  have c1:W.cell? ⟨Bx,1,Q2⟩=Q1 v1:=by simp[World.cell?,hX]
  have c2:W.cell? ⟨Bx,2,Q2⟩=Q1 v2:=by simp[World.cell?,hX]
  have c3:W.cell? ⟨Bx,3,Q2⟩=Q1 v3:=by simp[World.cell?,hX]
  have c4:W.cell? ⟨Bx,4,Q2⟩=Q1 v4:=by simp[World.cell?,hX]
  have c5:W.cell? ⟨Bx,5,Q2⟩=Q1 v5:=by simp[World.cell?,hX]
  have c6:W.cell? ⟨Bx,6,Q2⟩=Q1 v6:=by simp[World.cell?,hX]
  have c7:W.cell? ⟨Bx,7,Q2⟩=Q1 v7:=by simp[World.cell?,hX]
  have c8:W.cell? ⟨Bx,8,Q2⟩=Q1 v8:=by simp[World.cell?,hX]
  have c9:W.cell? ⟨Bx,9,Q2⟩=Q1 v9:=by simp[World.cell?,hX]
  have c10:W.cell? ⟨Bx,10,Q2⟩=Q1 v10:=by simp[World.cell?,hX]
  have c11:W.cell? ⟨Bx,11,Q2⟩=Q1 v11:=by simp[World.cell?,hX]
  gi_wp2_with (gi_at_builtin;refine wpListIn_append_own _ rfl _ _ 22 rfl w.heap.size 47 i0 _ 12 208 Tryz.underlying22 hi hz0 hz1 hz2 rfl (by decide) _ _ _ rfl (hrow.alloc _) ⟨W.heap.size,0,Q2⟩ 1 1 [v0,v1,v2,v3,v4,v5,v6,v7,v8,v9,v10,v11] rfl rfl (cell_row_new _ _ _) hx1 (by unfold maxLen;omega) (by omega) (by have:=hB.size;simp;omega) ?_;intro v' w1 hown' hgrow _;obtain⟨g',cap',rfl⟩:=ownsRow_succ hown';obtain⟨hv1,hv2,hr2,hk2,hb2⟩:=hv.appended (by decide) hrow hB.size (ae _) hown' hgrow;have hc1:=hv1.cell;have hf1:=hv1.frozen)
  exact⟨hk2.from _,hb2,⟨_,hv2,by rw[flat12_snoc];simpa using hr2,by simp⟩,hB.trans hb2⟩
 case done=>
  rintro D ys W hD rfl ⟨⟨v,hv,hrow,hnil⟩,hB⟩ hK;have hc:=hv.cell
  gi_wp2
  refine⟨by simp,.inl ⟨_,_,rfl,run_takeDeferred hK,?_⟩⟩;exact⟨_,results_tmp rfl _ _ _,v,rfl,ownsRow_putObj hrow _ hK rfl,hB.trans (belowK_b (w:=w) (ae _) W D _ _ (by simp at hD;omega) hK rfl rfl)⟩
 case stop=>
  rintro D c pre W _ _ h _;exact h.elim
set_option maxHeartbeats 1000000 in
theorem Tryz.collect_in(F:Fence)(n:Nat)(h2:F.fn 106)(h3:F.fn 148)(h5:F.fn 108)(hro:F.round=Q2)(hn:4<=n)(Bs b off cap:Nat)(zs:List R12)(hreach:zs.length<=1000)(w:World)(hBs:Bs<w.heap.size)(hb:b<w.heap.size)
  (hs:w.cell? ⟨Bs,0,Q2⟩=Q1 (.slice (Q1 ⟨b,off,Q2⟩) zs.length cap)) (hc:∀i(hi:i<zs.length),∀j v,zs[i].1[j]?=Q1 v->w.cell? ⟨b,off+i*12+j,Q2⟩=Q1 v):
  CallsIn F n Tryz.prog 106 #[.func (.func 108) #[] #[.pointer (Q1 ⟨Bs,0,Q2⟩)]] w λe W'=>∃v,e=.returned v/\W'.ownsRow w.heap.size 47 12 v zs.length (flat12 zs)/\Below w.heap.size w W':=by
 have h1:1<=n:=by omega
 refine callsIn_of_wp Tryz.func106 rfl h2 ?_ hro;simp only[Tryz.ntmps106,List.size_toArray,eE,jI,Nat.reduceAdd,Nat.reduceSub,Array.replicate_succ,Array.replicate_zero,List.push_toArray,List.append_toArray,po,List.cons_append]
 gi_wp2_with (gi_at_call 148;refine(Tryz.appendSeq_in F (n-1) h3 h5 hro (by omega) Bs b off cap zs hreach w hBs hb hs hc).mono ?_;rintro e w' ⟨v,rfl,hv1,hv2⟩)
 go_ret
 exact⟨v,rfl,hv1,hv2⟩
end Go.Proofs
namespace Cad
open Go Go.Proofs Go.RowKit
open Bool renaming false→Q4
open Bool renaming true→Q3
open Option renaming none→Q2
open Option renaming some→Q1
set_option maxHeartbeats 4000000
set_option maxRecDepth 100000
attribute [local go_sem] Oper.semAt_some
open Tr (chk br)
open AV (nils agg tup ptr kb str sl)
abbrev Se(w0:World)(U:Nat->Prop)(ρ:Nat->Option Value):={x:ze×Option Addr×Nat//nC w0 U ρ x.1 x.2.1 x.2.2}
abbrev Mz{w0:World}{U:Nat->Prop}{ρ:Nat->Option Value}(x:Se w0 U ρ):Array Value:=#[.agg (bp x.1.1 x.1.2.1 x.1.2.2).toArray]
theorem pA{W:World}{B:Nat}{e:ze}{a:Option Addr}{c:Nat}(h:W.heap[B]?=Q1 (.cells (bp e a c).toArray 30 (0,0))):
  W.cell? ⟨B,0,Q2⟩=Q1 (.string ⟨e.op.toArray⟩)/\W.cell? ⟨B,1,Q2⟩=Q1 (.int .i64 e.v.1)/\W.cell? ⟨B,2,Q2⟩=Q1 (.int .i64 e.v.2.1)/\W.cell? ⟨B,3,Q2⟩=Q1 (.string ⟨e.v.2.2.toArray⟩)/\
   W.cell? ⟨B,4,Q2⟩=Q1 (.string ⟨e.s.toArray⟩)/\W.cell? ⟨B,5,Q2⟩=Q1 (.slice a e.l.length c):=by
 refine⟨?_,?_,?_,?_,?_,?_⟩<;>simp[World.cell?,h]
variable {F:Fence} {w0:World} {U:Nat->Prop} {ρ:Nat->Option Value}
theorem Zz(hd:F.depth=Q2)(h81:F.fn 81)(hro:F.round=Q2){e:ze}{a:Option Addr}{c:Nat}(hx:nC w0 U ρ e a c)(hop:e.op≠[97,110,100])(n ln Bx:Nat)(J Jx:List (Se w0 U ρ)->World->Prop)(W:World)(hn:w0.heap.size<=W.heap.size)
  (hB:W.heap[Bx]?=Q1 (.cells (bp e a c).toArray 30 (0,0))) (hJ:OwnFrom W.heap.size J)
  (hY:∀m pre x W1,J pre W1->YieldAt F m Tryz.prog ln (Mz x) W1 λe W'=>KeepsAll W.heap.size W1 W'/\((e=.returned (.bool Q3)/\J (pre++[x]) W'/\Below w0.heap.size W1 W')\/(e=.returned (.bool Q4)/\Jx (pre++[x]) W')))
  (h0:J [] W):
  CallsIn F n Tryz.prog 81 #[.func (.yield ln) #[] #[],.pointer (Q1 ⟨Bx,0,Q2⟩)] W λe' W'=>(∃v,e'=.returned v)/\((J [⟨(e,a,c),hx⟩] W'/\Below w0.heap.size W W')\/Jx [⟨(e,a,c),hx⟩] W'):=by
 have hlt:=(dU.1 hB).1;have hba:Below w0.heap.size W (W.alloc (.cells #[.func (.yield ln) #[] #[]] 86)):=(Below.refl _ W).alloc hn _;have hBa:(W.alloc (.cells #[.func (.yield ln) #[] #[]] 86)).heap[Bx]?=Q1 (.cells (bp e a c).toArray 30 (0,0)):=(Below.heap_alloc W _ Bx hlt).trans hB;obtain⟨c0,c1,c2,c3,c4,c5⟩:=pA hBa;have hy0:(W.alloc (.cells #[.func (.yield ln) #[] #[]] 86)).cell? ⟨W.heap.size,0,Q2⟩=Q1 (.func (.yield ln) #[] #[]):=by simp
 have hne:((⟨e.op.toArray⟩:ByteArray)=={data:=#[97,110,100]})=Q4:=by
  rw[show({data:=#[97,110,100]}:ByteArray)=⟨([97,110,100]:List UInt8).toArray⟩from rfl,rX];simpa using hop
 have hdd:∀k:Nat,(F.depth.isSome=Q3->1<=k):=λk h=>by rw[hd]at h;cases h
 obtain⟨fn,tmps,assign,body,hy,hR⟩:=hY (n-1) [] ⟨(e,a,c),hx⟩ (W.alloc (.cells #[.func (.yield ln) #[] #[]] 86)) (hJ.alloc _ h0);refine callsIn_of_wp_marks Tryz.func81 rfl h81 ?_ hro;simp only[Tryz.ntmps81,List.size_toArray,eE,jI,Nat.reduceAdd,Nat.reduceSub,Array.replicate_succ,Array.replicate_zero,List.push_toArray,List.append_toArray,po,List.cons_append]
 gi_wp2_with ((try refine⟨hdd _,?_⟩);refine hR.mono ?_;rintro e' W3 ⟨hk,(⟨rfl,hJ3,hb3⟩|⟨rfl,hx3⟩)⟩)
 ·exact⟨_,results_none rfl _ _ _,⟨_,rfl⟩,.inl ⟨hJ3,hba.trans hb3⟩⟩
 ·exact⟨_,results_none rfl _ _ _,⟨_,rfl⟩,.inr hx3⟩
 ·rename_i hb;exact absurd (by simpa using hb) hop
theorem HX(h36:F.fn 36)(hro:F.round=Q2)(n:Nat)(e:ze)(a:Option Addr)(c:Nat)(w:World):
  CallsIn F n Tryz.prog 36 #[.agg (bp e a c).toArray] w λe' w'=>e'=.returned (.func (.func 81) #[] #[.pointer (Q1 ⟨w.heap.size,0,Q2⟩)])/\w'=w.alloc (.cells (bp e a c).toArray 30):=by
 refine callsIn_of_wp Tryz.func36 rfl h36 ?_ hro;simp only[Tryz.ntmps36,List.size_toArray,eE,jI,Nat.reduceAdd,Nat.reduceSub,Array.replicate_succ,Array.replicate_zero,List.push_toArray,List.append_toArray,po,List.cons_append]
 gi_wp2
 go_ret
 exact⟨rfl,rfl⟩
def IG:Code->Option (Code×Code)
 |.rangeFunc _ _ a b=>Q1 (a,b)
 |.seq a b=>(IG a).or (IG b)
 |.cond _ a b=>(IG a).or (IG b)
 |.block _ a|.loop a|.scope a=>IG a
 |_=>Q2
def rfA(f:Func):Code:=((f.body.bind IG).map (·.1)).getD .skip
def rfB(f:Func):Code:=((f.body.bind IG).map (·.2)).getD .skip
theorem PH(hd:F.depth=Q2)(h81:F.fn 81)(hro:F.round=Q2){lx:List ze}(n ln yb Bs:Nat)(J Jx:List (Se w0 U ρ)->World->Prop)(W Wx:World)
  (seq:SeqO F Tryz.prog 81 #[.pointer (Q1 ⟨Bs,0,Q2⟩)] (Mz (w0:=w0) (U:=U) (ρ:=ρ)) w0.heap.size (λys=>ys.map (·.1.1)=lx) (λys=>ys.map (·.1.1)<+:lx) Wx)
  (hw:w0.heap.size<=W.heap.size) (hJ:OwnFrom W.heap.size J) (hJx:OwnFrom W.heap.size Jx)
  (hY:∀m pre x W1,J pre W1->YieldAt F m Tryz.prog ln (Mz x) W1 λe W'=>KeepsAll W.heap.size W1 W'/\((e=.returned (.bool Q3)/\J (pre++[x]) W'/\Below w0.heap.size W1 W')\/(e=.returned (.bool Q4)/\Jx (pre++[x]) W')))
  (pre:List (Se w0 U ρ)) (hyb:W.heap.size<=yb) (hyc:Wx.heap[yb]?=Q1 (.cells #[.func (.yield ln) #[] #[]] 86 (0,0))) (hWx:W.heap.size<=Wx.heap.size) (hJp:J pre Wx) (ds:List Deferred)
  (t0 t1 t3 t4 t5 t6 t7 t8 t9 t10 t11 t12 t13 t14 t15 t16 t17 t18 t19 t21 t22 t23 t24 t25 t26:Value) (Q:Exit->Act->World->Prop)
  (hdone:∀ys W',ys.map (·.1.1)=lx->J (pre++ys) W'->Below w0.heap.size Wx W'->KeepsAll W.heap.size Wx W'->W'.heap[Wx.heap.size]?=Q1 (.deferred (Q1 []))->Q .normal {tmps:=#[t0,t1,.pointer (Q1 ⟨yb,0,Q2⟩),t3,t4,t5,t6,t7,t8,t9,t10,t11,t12,t13,t14,t15,t16,t17,t18,t19,.func (.func 81) #[] #[.pointer (Q1 ⟨Bs,0,Q2⟩)],t21,t22,t23,t24,t25,t26],defers:={target:=.collected Wx.heap.size,args:=#[]}::ds} W')
  (hstop:∀ys W',ys.map (·.1.1)<+:lx->Jx (pre++ys) W'->KeepsAll W.heap.size Wx W'->W'.heap[Wx.heap.size]?=Q1 (.deferred (Q1 []))->Code.ret.wpIn F n Tryz.prog Q {tmps:=#[t0,t1,.pointer (Q1 ⟨yb,0,Q2⟩),t3,t4,t5,t6,t7,t8,t9,t10,t11,t12,t13,t14,t15,t16,t17,t18,t19,.func (.func 81) #[] #[.pointer (Q1 ⟨Bs,0,Q2⟩)],t21,t22,t23,t24,t25,t26],defers:={target:=.collected Wx.heap.size,args:=#[]}::ds} W'):
  (Code.rangeFunc (.tmp 20) #[21] (rfA Tryz.f81) (rfB Tryz.f81)).wpIn F n Tryz.prog Q {tmps:=#[t0,t1,.pointer (Q1 ⟨yb,0,Q2⟩),t3,t4,t5,t6,t7,t8,t9,t10,t11,t12,t13,t14,t15,t16,t17,t18,t19,.func (.func 81) #[] #[.pointer (Q1 ⟨Bs,0,Q2⟩)],t21,t22,t23,t24,t25,t26],defers:=ds} Wx:=by
 have hdd:∀k:Nat,(F.depth.isSome=Q3->1<=k):=λk h=>by rw[hd]at h;cases h
 refine wpIn_rangeO hd hro (gf:=81) (lb:=#[.pointer (Q1 ⟨Bs,0,Q2⟩)]) rfl h81 (enters_of Tryz.func81 kw rfl) seq (Below.refl _ _) (cC hw hWx) (λ_=>rfl)
  (λys W'=>J (pre++ys) W'/\KeepsAll W.heap.size Wx W') (λys W'=>Jx (pre++ys) W'/\KeepsAll W.heap.size Wx W')
  (OwnFrom.and (λs X Y row hs hg hr=>hJ _ X Y row hs hg λr e=>⟨by have:=(hr r e).1;omega,(hr r e).2⟩) (ownFrom_keepsAll (ae _)))
  (OwnFrom.and (λs X Y row hs hg hr=>hJx _ X Y row hs hg λr e=>⟨by have:=(hr r e).1;omega,(hr r e).2⟩) (ownFrom_keepsAll (ae _)))
  ⟨by simpa using hJp,KeepsAll.refl _ _⟩
  (λx a' W'=>∃Bx,W'.heap[Bx]?=Q1 (.cells (bp x.1.1 x.1.2.1 x.1.2.2).toArray 30 (0,0))/\a'={tmps:=#[t0,t1,.pointer (Q1 ⟨yb,0,Q2⟩),t3,t4,.pointer (Q1 ⟨Bx,0,Q2⟩),t6,t7,t8,t9,t10,t11,t12,t13,t14,t15,t16,t17,t18,t19,.func (.func 81) #[] #[.pointer (Q1 ⟨Bs,0,Q2⟩)],.agg (bp x.1.1 x.1.2.1 x.1.2.2).toArray,t22,t23,t24,t25,t26],defers:=[]})
  (λx a' _ X Y row hs hg hr=>by obtain⟨Bx,h2,h3⟩:=hs;exact⟨Bx,cells_own Bx _ 30 () X Y row h2 hg (λr e=>(hr r e).2),h3⟩)
  ?assign ?body ?done ?stop
 case assign=>
  rintro l m ys ⟨⟨e,a,c⟩,hx⟩ W1 K hlt ⟨hi,hk⟩ hK;simp only[rfA,IG,Tryz.f81,Option.or,Option.bind_some,yu,dp]
  gi_wp2
  exact hK _ _ (KeepsAll.alloc _ _ _) ((Below.refl _ W1).alloc ow _) ⟨hJ.alloc _ hi,hk.trans (KeepsAll.alloc _ _ _)⟩ ⟨W1.heap.size,World.alloc_heap_new W1 _,rfl⟩
 case body=>
  rintro l m ys ⟨⟨e,a,c⟩,hx⟩ a' W1 hlt ⟨hi,hk⟩ ⟨Bx,hB,rfl⟩;simp only[rfB,IG,Tryz.f81,Option.or,Option.bind_some,yu,dp];obtain⟨c0,c1,c2,c3,c4,c5⟩:=pA hB;have hyc1:W1.cell? ⟨yb,0,Q2⟩=Q1 (.func (.yield ln) #[] #[]):=by simp[World.cell?,hk.same _ _ hyb hyc]
  obtain⟨fn,tmps,assign,body,hy,hR⟩:=hY (m-1) _ ⟨(e,a,c),hx⟩ W1 hi
  gi_wp2_with ((try refine⟨hdd _,?_⟩);refine hR.mono ?_;rintro e' W3 ⟨hk3,(⟨rfl,hJ3,hb3⟩|⟨rfl,hx3⟩)⟩)
  ·exact⟨hk3.more hWx,by simpa using hJ3,hk.trans hk3⟩
  ·exact⟨hk3.more hWx,by simpa using hx3,hk.trans hk3⟩
 case done=>
  rintro D ys W' rfl hS ⟨hj,hk⟩ hb hK;exact hdone ys W' hS hj hb hk hK
 case stop=>
  rintro D ys W' rfl hS ⟨hj,hk⟩ hK;exact hstop ys W' hS hj hk hK
theorem YW(hd:F.depth=Q2)(h36:F.fn 36)(h81:F.fn 81)(hro:F.round=Q2){e x y:ze}{lx ly:List ze}{a:Option Addr}{c:Nat}(hx:nC w0 U ρ e a c)(hop:e.op=[97,110,100])(hl:e.l=[x,y])
  (ihx:∀a c(_:nC w0 U ρ x a c)(w:World)(Bx:Nat),Below w0.heap.size w0 w->w.heap[Bx]?=Q1 (.cells (bp x a c).toArray 30 (0,0))->
   SeqO F Tryz.prog 81 #[.pointer (Q1 ⟨Bx,0,Q2⟩)] (Mz (w0:=w0) (U:=U) (ρ:=ρ)) w0.heap.size (λys=>ys.map (·.1.1)=lx) (λys=>ys.map (·.1.1)<+:lx) w)
  (ihy:∀a c(_:nC w0 U ρ y a c)(w:World)(Bx:Nat),Below w0.heap.size w0 w->w.heap[Bx]?=Q1 (.cells (bp y a c).toArray 30 (0,0))->
   SeqO F Tryz.prog 81 #[.pointer (Q1 ⟨Bx,0,Q2⟩)] (Mz (w0:=w0) (U:=U) (ρ:=ρ)) w0.heap.size (λys=>ys.map (·.1.1)=ly) (λys=>ys.map (·.1.1)<+:ly) w)
  (n ln Bx:Nat) (J Jx:List (Se w0 U ρ)->World->Prop) (W:World) (hw:Below w0.heap.size w0 W)
  (hB:W.heap[Bx]?=Q1 (.cells (bp e a c).toArray 30 (0,0))) (hJ:OwnFrom W.heap.size J) (hJx:OwnFrom W.heap.size Jx)
  (hY:∀m pre x W1,J pre W1->YieldAt F m Tryz.prog ln (Mz x) W1 λe W'=>KeepsAll W.heap.size W1 W'/\((e=.returned (.bool Q3)/\J (pre++[x]) W'/\Below w0.heap.size W1 W')\/(e=.returned (.bool Q4)/\Jx (pre++[x]) W')))
  (h0:J [] W):
  CallsIn F n Tryz.prog 81 #[.func (.yield ln) #[] #[],.pointer (Q1 ⟨Bx,0,Q2⟩)] W λe' W'=>(∃v,e'=.returned v)/\
   ((∃xs:List (Se w0 U ρ),xs.map (·.1.1)=lx++ly/\J xs W'/\Below w0.heap.size W W')\/(∃pre:List (Se w0 U ρ),pre.map (·.1.1)<+:lx++ly/\Jx pre W')):=by
 have hn:=hw.size;have hlt:=(dU.1 hB).1;have hba:Below w0.heap.size W (W.alloc (.cells #[.func (.yield ln) #[] #[]] 86)):=(Below.refl _ W).alloc hn _;have hBa:(W.alloc (.cells #[.func (.yield ln) #[] #[]] 86)).heap[Bx]?=Q1 (.cells (bp e a c).toArray 30 (0,0)):=(Below.heap_alloc W _ Bx hlt).trans hB;obtain⟨c0,c1,c2,c3,c4,c5⟩:=pA hBa;have hJa:=hJ.alloc (.cells #[.func (.yield ln) #[] #[]] 86) h0;obtain⟨W1,hW1⟩:∃W1,W.alloc (.cells #[.func (.yield ln) #[] #[]] 86)=W1:=⟨_,rfl⟩;have hs1:W1.heap.size=W.heap.size+1:=by rw[<-hW1];simp
 have hyb:W1.heap[W.heap.size]?=Q1 (.cells #[.func (.yield ln) #[] #[]] 86 (0,0)):=by rw[<-hW1];exact World.alloc_heap_new W _
 rw[hW1]at hba hBa hJa c0 c1 c2 c3 c4 c5;have hyc:W1.cell? ⟨W.heap.size,0,Q2⟩=Q1 (.func (.yield ln) #[] #[]):=by simp[World.cell?,hyb]
 have hne:((⟨e.op.toArray⟩:ByteArray)=={data:=#[97,110,100]})=Q3:=by
  rw[show({data:=#[97,110,100]}:ByteArray)=⟨([97,110,100]:List UInt8).toArray⟩from rfl,rX,hop];rfl
 have hl2:e.l.length=2:=by rw[hl];rfl
 obtain⟨b,o,rfl,hb,ax,cx,hxx,rx⟩:=hx.child (i:=0) ow;obtain⟨b',o',e',_,ay,cy,hxy,ry⟩:=hx.child (i:=1) ow;cases e';simp only[hl,List.getElem_cons_zero,List.getElem_cons_succ]at hxx hxy rx ry;have hdd:∀k:Nat,(F.depth.isSome=Q3->1<=k):=λk h=>by rw[hd]at h;cases h
 refine callsIn_of_wp_marks Tryz.func81 rfl h81 ?_ hro;simp only[Tryz.ntmps81,List.size_toArray,eE,jI,Nat.reduceAdd,Nat.reduceSub,Array.replicate_succ,Array.replicate_zero,List.push_toArray,List.append_toArray,po,List.cons_append]
 gi_wp2
 have hbw1:=hw.trans hba;have q0:=(hbw1.cell (p:=⟨b,o,Q2⟩) hb).trans (rx 0 _ rfl);have q1:=(hbw1.cell (p:=⟨b,o+1,Q2⟩) hb).trans (by simpa using rx 1 _ rfl);have q2:=(hbw1.cell (p:=⟨b,o+2,Q2⟩) hb).trans (by simpa using rx 2 _ rfl);have q3:=(hbw1.cell (p:=⟨b,o+3,Q2⟩) hb).trans (by simpa using rx 3 _ rfl);have q4:=(hbw1.cell (p:=⟨b,o+4,Q2⟩) hb).trans (by simpa using rx 4 _ rfl);have q5:=(hbw1.cell (p:=⟨b,o+5,Q2⟩) hb).trans (by simpa using rx 5 _ rfl);refine wpIn_loop_rounds 3 ?_;rw[roundsIn_succ]
 gi_wp2_with (gi_at_call 36;refine(HX h36 hro (n-1) x ax cx _).mono ?_;rintro e' w' ⟨rfl,rfl⟩)
 have hW2:Below w0.heap.size w0 ((W1.alloc (.cells (bp x ax cx).toArray 30)).alloc (.cells (bp x ax cx).toArray 30)):=hbw1.trans (((Below.refl _ W1).alloc ow _).alloc sg _);have hBs2:((W1.alloc (.cells (bp x ax cx).toArray 30)).alloc (.cells (bp x ax cx).toArray 30)).heap[W.heap.size+1+1]?=Q1 (.cells (bp x ax cx).toArray 30 (0,0)):=by
  have:=World.alloc_heap_new (W1.alloc (.cells (bp x ax cx).toArray 30)) (.cells (bp x ax cx).toArray 30)
  rwa [World.size_alloc,hs1]at this
 refine PH hd h81 hro n ln W.heap.size _ J Jx W _ (ihx ax cx hxx _ _ hW2 hBs2) hn hJ hJx hY [] (ae _) ?_ sg (hJ.alloc _ (hJ.alloc _ hJa)) [] _ _ _ _ _ _ _ _ _ _ _ _ _ _ _ _ _ _ _ _ _ _ _ _ _ _ ?_ ?_
 ·exact(Below.heap_alloc _ _ _ sg).trans ((Below.heap_alloc _ _ _ ow).trans hyb)
 ·intro xs W2 hxs hJ2 hb2 hk2 hD;have hbw2:=hW2.trans hb2;have p0:=(hbw2.cell (p:=⟨b,o+6,Q2⟩) hb).trans (ry 0 _ rfl);have p1:=(hbw2.cell (p:=⟨b,o+6+1,Q2⟩) hb).trans (by simpa using ry 1 _ rfl);have p2:=(hbw2.cell (p:=⟨b,o+6+2,Q2⟩) hb).trans (by simpa using ry 2 _ rfl);have p3:=(hbw2.cell (p:=⟨b,o+6+3,Q2⟩) hb).trans (by simpa using ry 3 _ rfl);have p4:=(hbw2.cell (p:=⟨b,o+6+4,Q2⟩) hb).trans (by simpa using ry 4 _ rfl);have p5:=(hbw2.cell (p:=⟨b,o+6+5,Q2⟩) hb).trans (by simpa using ry 5 _ rfl)
  gi_wp2
  rw[roundsIn_succ];have h2n:W.heap.size+3<=W2.heap.size:=by have:=hk2.size;rw[World.size_alloc,World.size_alloc]at this;omega
  gi_wp2_with (gi_at_call 36;refine(HX h36 hro (n-1) y ay cy _).mono ?_;rintro e' w' ⟨rfl,rfl⟩)
  have hW3:Below w0.heap.size w0 ((W2.alloc (.cells (bp y ay cy).toArray 30)).alloc (.cells (bp y ay cy).toArray 30)):=hbw2.trans (((Below.refl _ W2).alloc ow _).alloc sg _);have hBs3:((W2.alloc (.cells (bp y ay cy).toArray 30)).alloc (.cells (bp y ay cy).toArray 30)).heap[W2.heap.size+1]?=Q1 (.cells (bp y ay cy).toArray 30 (0,0)):=by
   have:=World.alloc_heap_new (W2.alloc (.cells (bp y ay cy).toArray 30)) (.cells (bp y ay cy).toArray 30)
   rwa [World.size_alloc]at this
  rw[World.size_alloc,World.size_alloc,hs1]at hD;have hD3:((W2.alloc (.cells (bp y ay cy).toArray 30)).alloc (.cells (bp y ay cy).toArray 30)).heap[W.heap.size+1+1+1]?=Q1 (.deferred (Q1 [])):=by
   have hl:=(dU.1 hD).1;exact(Below.heap_alloc _ _ _ (by rw[World.size_alloc];omega)).trans ((Below.heap_alloc _ _ _ hl).trans hD)
  refine PH hd h81 hro n ln W.heap.size _ J Jx W _ (ihy ay cy hxy _ _ hW3 hBs3) hn hJ hJx hY ([]++xs) (ae _) ?_ sg (hJ.alloc _ (hJ.alloc _ hJ2)) _ _ _ _ _ _ _ _ _ _ _ _ _ _ _ _ _ _ _ _ _ _ _ _ _ _ _ ?_ ?_
  ·exact(Below.heap_alloc _ _ _ sg).trans ((Below.heap_alloc _ _ _ ow).trans (hk2.same _ _ (ae _) ((Below.heap_alloc _ _ _ sg).trans ((Below.heap_alloc _ _ _ ow).trans hyb))))
  ·intro zs W4 hzs hJ4 hb4 hk4 hE;have hD4:=hk4.same _ _ ow hD3
   gi_wp2
   rw[roundsIn_succ]
   gi_wp2
   refine⟨sw,.inl ⟨_,_,rfl,run_takeDeferred hE,?_⟩⟩;refine⟨sw,.inl ⟨_,_,rfl,run_takeDeferred ((World.putObj_heap_other sg).trans hD4),?_⟩⟩;refine⟨_,results_none rfl _ _ _,⟨_,rfl⟩,.inl ⟨xs++zs,by simp[hxs,hzs],?_,?_⟩⟩
   ·exact hJ.putObj _ (hJ.putObj _ (by simpa using hJ4) sg hE rfl) ow ((World.putObj_heap_other sg).trans hD4) rfl
   ·have t1:=(hba.trans (((Below.refl _ W1).alloc ow _).alloc sg _)).trans hb2;have t2:=(t1.trans (((Below.refl _ W2).alloc ow _).alloc sg _)).trans hb4;exact(t2.trans (belowK_b hn W4 _ _ _ sg hE rfl rfl)).trans (belowK_b hn _ _ _ _ ow ((World.putObj_heap_other sg).trans hD4) rfl rfl)
  ·intro zs W4 hzs hx4 hk4 hE;have hD4:=hk4.same _ _ ow hD3
   gi_wp2
   refine⟨sw,.inl ⟨_,_,rfl,run_takeDeferred hE,?_⟩⟩;refine⟨sw,.inl ⟨_,_,rfl,run_takeDeferred ((World.putObj_heap_other sg).trans hD4),?_⟩⟩;refine⟨_,results_none rfl _ _ _,⟨_,rfl⟩,.inr ⟨xs++zs,by rw[iA,hxs];exact(List.prefix_append_right_inj lx).2 hzs,?_⟩⟩;exact hJx.putObj _ (hJx.putObj _ (by simpa using hx4) sg hE rfl) ow ((World.putObj_heap_other sg).trans hD4) rfl
 ·intro xs W2 hxs hx2 hk2 hD
  gi_wp2
  refine⟨sw,.inl ⟨_,_,rfl,run_takeDeferred hD,?_⟩⟩;exact⟨_,results_none rfl _ _ _,⟨_,rfl⟩,.inr ⟨xs,hxs.trans (List.prefix_append _ _),hJx.putObj _ (by simpa using hx2) sg hD rfl⟩⟩
theorem RD(hd:F.depth=Q2)(h36:F.fn 36)(h81:F.fn 81)(hro:F.round=Q2){e:ze}{l:List ze}(h:BA e l):∀a c(_:nC w0 U ρ e a c)(w:World)(Bx:Nat),Below w0.heap.size w0 w->w.heap[Bx]?=Q1 (.cells (bp e a c).toArray 30 (0,0))->
  SeqO F Tryz.prog 81 #[.pointer (Q1 ⟨Bx,0,Q2⟩)] (Mz (w0:=w0) (U:=U) (ρ:=ρ)) w0.heap.size (λys=>ys.map (·.1.1)=l) (λys=>ys.map (·.1.1)<+:l) w:=by
 induction h with
 | leaf hop=>
  intro a c hx w Bx hw hB n ln J Jx W hW hJ hJx hY h0;refine(Zz hd h81 hro hx hop n ln Bx J Jx W (cC hw.size hW.size) ((hW.block _ (dU.1 hB).1).trans hB) hJ hY h0).mono ?_;rintro e' W' ⟨he,⟨h1,h2⟩|h1⟩
  ·exact⟨he,.inl ⟨_,rfl,h1,h2⟩⟩
  ·exact⟨he,.inr ⟨_,List.prefix_refl _,h1⟩⟩
 | both hop hl _ _ iha ihb=>
  intro a c hx w Bx hw hB n ln J Jx W hW hJ hJx hY h0;refine(YW hd h36 h81 hro hx hop hl iha ihb n ln Bx J Jx W (hw.trans (hW.mono hw.size)) ((hW.block _ (dU.1 hB).1).trans hB) hJ hJx hY h0).mono ?_;rintro e' W' ⟨he,⟨xs,h1,h2,h3⟩|⟨pre,h1,h2⟩⟩
  ·exact⟨he,.inl ⟨xs,h1,h2,h3⟩⟩
  ·exact⟨he,.inr ⟨pre,h1,h2⟩⟩
open Go Go.Proofs
theorem Reach.len{E:bW}{C:fh}{fn:FuncId}{todo:List Item}{st:St}{Q:AV->List AO->Prop}(j:Nat)(e:Sh)(l:List (Sem e))(hj:st.tmps[j]?=Q1 (.sl e l))(h:l.length<=aF->Reach E C fn todo st Q):Reach E C fn todo st Q:=by
 intro b cs a w U ρ h1 h2 hc hW;refine h ?_ b cs a w U ρ h1 h2 hc hW;have hlt:j<a.tmps.toList.length:=by rw[<-hc.tm.len];exact(dh.1 hj).1
 have:=hc.tm.rv j _ _ hj (zQ hlt);generalize a.tmps.toList[j]=v at this;cases this with
 |sl0=>simp
 |sl _ _ _ _ _ _ _ hm=>exact hm
theorem zr(i:Nat)(h:i<aF):IntKind.i64.wrap (↑i+1)=((i+1:Nat):Int):=by
 have:aF=9223372036854775807:=rfl;rw[gp];omega
theorem cI{α:Type}(l:List α)(d:α){i:Nat}(h:i<l.length):l.getD (i:Int).toNat d=l[i]:=by
 simp[h]
def zR{α:Type}(p:α->Bool):List α->Nat->Int
 |[],_=>-1
 |x::r,i=>if p x then i else zR p r (i+1)
noncomputable def Hm:bW:=(Y4.aut 194 Tryz.f194 2).aut 295 Tryz.f295 2
theorem pE:zt Hm:=by
 refine iB (iB uF ?_) ?_<;>(refine⟨?_,?_,?_,?_⟩<;>kernel_rfl)
abbrev KB:Nat->aN:=λ_=>{slots:=[0,1,7,8]}
theorem Vy:zI Hm.P 193 Tryz.f193 2:=bR kw
abbrev Bm(l:List (Sem zi))(s:zB)(i:Int):St:={
    tmps:=
     (tm 19 [(0,sl (Sh.str.pr ((Sh.int IntKind.i64).pr Sh.bool)) l),(1,AV.clo (Fn.func 194) [] [ptr 0 0]),(7,ai ↑l.length),(8,ai i)]),
    heap:=[AO.box [str s]]}
theorem Zb(l:List (Sem zi))(s:zB):run Hm 1 KB Tryz.f193.results.toList 300 (bw Tryz.f193) (bd Tryz.f193.ntmps [.sl zi l,.clo (.func 194) [] [.ptr 0 0]] [.box [.str s]])=.ok (.head 2 (ac Tryz.f193 2) (Bm l s 0)):=kw
theorem ZO(l:List (Sem zi))(s:zB)(i:Int):run Hm 1 KB Tryz.f193.results.toList 300 (ac Tryz.f193 2) (Bm l s i)=
 br (decide (i<↑l.length))
  (chk (zO i l.length)
   (br ((l.getD i.toNat (zj (Sh.str.pr ((Sh.int IntKind.i64).pr Sh.bool)))).1==s)
    (Tr.ok (zD.ret (ai i) [AO.box [str s]]))
    (Tr.ok (zD.head 2 (ac Tryz.f193 2) (Bm l s (IntKind.i64.wrap (i+1)))))))
  (Tr.ok (zD.ret (ai (-1)) [AO.box [str s]])):=kw
theorem Ok{C:fh}(hC:∀id,1<=id->C.ρ0 id=Q2)(l:List (Sem zi))(s:zB)(hl:l.length<=aF):∀(n i:Nat),l.length-i=n->i<=l.length->
  Reach Hm C 193 (ac Tryz.f193 2) (Bm l s i) (λr h=>(r,h)=(.int .i64 (zR (λc=>c.1==s) (l.drop i) i),[.box [.str s]]))
 | n,i,hn,hi=>by
  subst hn;refine dC pE Vy hC KB 300 ?_;rw[ZO];refine⟨λh=>⟨?_,λhc=>?_,λhc=>?_⟩,λh=>?_⟩
  ·simp only[aO]at h;simp[zO];omega
  ·simp only[aO]at h;have hlt:i<l.length:=by omega
   rw[cI l _ hlt]at hc;rw[fH hlt];simp only[zR];rw[if_pos hc];rfl
  ·simp only[aO]at h;have hlt:i<l.length:=by omega
   rw[cI l _ hlt]at hc;rw[fH hlt];simp only[zR];rw[if_neg (by rw[hc];simp),zr i ow];exact Ok hC l s hl (l.length-(i+1)) (i+1) rfl ow
  ·simp only[decide_eq_false_iff_not]at h;rw[BC ow];rfl
 termination_by n=>n
abbrev Bn(l:List (Sem zi))(s:zB)(i:Int):St:={
    tmps:=
     (tm 19 [(0,sl (Sh.str.pr ((Sh.int IntKind.i64).pr Sh.bool)) l),(1,AV.clo (Fn.func 295) [] [ptr 0 0]),(7,ai ↑l.length),(8,ai i)]),
    heap:=[AO.box [str s]]}
theorem Zc(l:List (Sem zi))(s:zB):run Hm 1 KB Tryz.f193.results.toList 300 (bw Tryz.f193) (bd Tryz.f193.ntmps [.sl zi l,.clo (.func 295) [] [.ptr 0 0]] [.box [.str s]])=.ok (.head 2 (ac Tryz.f193 2) (Bn l s 0)):=kw
theorem ZP(l:List (Sem zi))(s:zB)(i:Int):run Hm 1 KB Tryz.f193.results.toList 300 (ac Tryz.f193 2) (Bn l s i)=
 br (decide (i<↑l.length))
  (chk (zO i l.length)
   (br ((l.getD i.toNat (zj (Sh.str.pr ((Sh.int IntKind.i64).pr Sh.bool)))).1==s)
    (Tr.ok (zD.ret (ai i) [AO.box [str s]]))
    (Tr.ok (zD.head 2 (ac Tryz.f193 2) (Bn l s (IntKind.i64.wrap (i+1)))))))
  (Tr.ok (zD.ret (ai (-1)) [AO.box [str s]])):=kw
theorem Ol{C:fh}(hC:∀id,1<=id->C.ρ0 id=Q2)(l:List (Sem zi))(s:zB)(hl:l.length<=aF):∀(n i:Nat),l.length-i=n->i<=l.length->
  Reach Hm C 193 (ac Tryz.f193 2) (Bn l s i) (λr h=>(r,h)=(.int .i64 (zR (λc=>c.1==s) (l.drop i) i),[.box [.str s]]))
 | n,i,hn,hi=>by
  subst hn;refine dC pE Vy hC KB 300 ?_;rw[ZP];refine⟨λh=>⟨?_,λhc=>?_,λhc=>?_⟩,λh=>?_⟩
  ·simp only[aO]at h;simp[zO];omega
  ·simp only[aO]at h;have hlt:i<l.length:=by omega
   rw[cI l _ hlt]at hc;rw[fH hlt];simp only[zR];rw[if_pos hc];rfl
  ·simp only[aO]at h;have hlt:i<l.length:=by omega
   rw[cI l _ hlt]at hc;rw[fH hlt];simp only[zR];rw[if_neg (by rw[hc];simp),zr i ow];exact Ol hC l s hl (l.length-(i+1)) (i+1) rfl ow
  ·simp only[decide_eq_false_iff_not]at h;rw[BC ow];rfl
 termination_by n=>n
def G27:iV [Q1 (.sl zi),Q2]:=λx h=>match x,h with
 |(l,.clo (.func 194) [] [.ptr 0 0],_),[.box [.str s]]=>.ok (.int .i64 (zR (λc=>c.1==s) l 0),[.box [.str s]])
 |(l,.clo (.func 295) [] [.ptr 0 0],_),[.box [.str s]]=>.ok (.int .i64 (zR (λc=>c.1==s) l 0),[.box [.str s]])
 |_,_=>.err
theorem ziW:FK 193 (bh [Q1 (.sl zi),Q2] G27):=by
 refine dR Vy λx h0 res hx C hC=>?_
 unfold G27 at hx;split at hx
 ·simp only[Tr.val_ok,bB]at hx;subst hx;rename_i _ _ l u s;refine Reach.len 0 zi l rfl λhl=>?_
  have e:jx [Q1 (.sl zi),Q2] (l,.clo (.func 194) [] [.ptr 0 0],u)=[.sl zi l,.clo (.func 194) [] [.ptr 0 0]]:=rfl;rw[e];refine dC (n0:=1) pE Vy hC KB 300 ?_;rw[Zb];exact Ok hC l s hl _ 0 rfl ow
 ·simp only[Tr.val_ok,bB]at hx;subst hx;rename_i _ _ l u s;refine Reach.len 0 zi l rfl λhl=>?_
  have e:jx [Q1 (.sl zi),Q2] (l,.clo (.func 295) [] [.ptr 0 0],u)=[.sl zi l,.clo (.func 295) [] [.ptr 0 0]]:=rfl;rw[e];refine dC (n0:=1) pE Vy hC KB 300 ?_;rw[Zc];exact Ol hC l s hl _ 0 rfl ow
 ·simp at hx
noncomputable def TE:bW:=Hm.add 193 (bh [Q1 (.sl zi),Q2] G27)
theorem Cl:zt TE:=pE.add ziW
noncomputable def zku:bW:=(TE.add 154 (bh [Q1 zp,Q1 .str] (fB TE Tryz.f154 [Q1 zp,Q1 .str]))).add 256 (bh [Q1 (.sl zi),Q1 .str] (fB TE Tryz.f256 [Q1 (.sl zi),Q1 .str]))
theorem TG:zt zku:=by
 refine(Cl.add (cd _ Cl ?_)).add (cd (E:=TE) _ Cl ?_)<;>(refine⟨?_,?_,?_,?_⟩<;>kernel_rfl)
end Cad
