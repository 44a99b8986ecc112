/- The program's environment: shapes, and the way functions are added. Functions from plain data to plain data. Places of columns. -/
import Derived.Test.YtkmcdhahdadkpaaGreatDoorF04
import Derived.Test.YtkmcdhahdadkpaaGreatDoorProg
namespace Cad
open Go
open Option renaming none→Q2,some→Q1
open Tr (chk br)
open AV (nils agg tup ptr kb str sl)
noncomputable section
abbrev zg:Sh:=.int .i64
abbrev zf:Sh:=.pr (.int .i64) (.pr (.int .i64) .str)
abbrev zj:Sh:=.pr .str (.pr (.int .i64) .bool)
abbrev zr:Sh:=.pr (.int .i64) .str
abbrev zo:Sh:=.pr .str (.pr (.sl zj) (.pr (.int .i64) (.pr (.sl (.int .i64)) (.pr (.sl zr) .expr))))
abbrev zh:Sh:=.pr zo (.sl (.sl zf))
def zcr:Nat->Option Sh
 |3=>Q1 (.int .i64)
 |27=>Q1 zf
 |30=>Q1 .expr
 |100=>Q1 zj
 |103=>Q1 zr
 |9=>Q1 .str
 |5=>Q1 (.int .u8)
 |188=>Q1 (.pr (.int .i64) .str)
 |88=>Q1 (.pr .str .str)
 |90=>Q1 (.pr .str .expr)
 |31=>Q1 (.sl zf)
 |52=>Q1 (zh)
 |_=>Q2
abbrev lG:List Int:=[1,10,100,1000,10000,100000,1000000,10000000,100000000,1000000000,10000000000,100000000000,1000000000000,10000000000000,100000000000000,1000000000000000,10000000000000000,100000000000000000,1000000000000000000,10000000000000000000]
def Oe:Nat->AV
 |0=>.gint
 |1=>.eptr [.str [73,78,84],.str [84,69,88,84],.str [66,79,79,76]] 0
 |5=>.tab .u64 lG
 |_=>.any
abbrev FK(k:FuncId)(F:zX):Prop:=nO Go.Proofs.Tryz.prog Oe k F
def Vj:bT:={P:=Go.Proofs.Tryz.prog,sh:=zcr,gl:=Oe,F:=λ_=>Q2}
def bT.add(E:bT)(k:FuncId)(F:zX):bT:={E with F:=λj=>if j=k then Q1 F else E.F j}
theorem zw.add{E:bT}{k:FuncId}{F:zX}(h:zw E)(hk:nO E.P E.gl k F):zw (E.add k F) where
 sh:=h.sh
 fs:=λj F' hj=>by
  simp only[bT.add]at hj;split at hj
  ·rename_i e;cases hj;rw[e];exact hk
  ·exact h.fs j F' hj
 mix:=h.mix
def Mu:List (Nat×zX)->Nat->Option zX->Option zX
 |[],_,d=>d
 |p::r,j,d=>if j=p.1 then Q1 p.2 else Mu r j d
def bT.addL(E:bT)(l:List (Nat×zX)):bT:={E with F:=λj=>Mu l j (E.F j)}
def Pt(P:Program)(gl:Nat->AV):List (Nat×zX)->Prop
 |[]=>True
 |p::r=>nO P gl p.1 p.2/\Pt P gl r
theorem jj{P:Program}{gl:Nat->AV}:Pt P gl []:=trivial
theorem fc{P:Program}{gl:Nat->AV}{k:Nat}{F:zX}{r:List (Nat×zX)}(h:nO P gl k F)(t:Pt P gl r):Pt P gl ((k,F)::r):=⟨h,t⟩
theorem zw.addL{E:bT}(h:zw E){l:List (Nat×zX)}(hl:Pt E.P E.gl l):zw (E.addL l) where
 sh:=h.sh
 fs:=by
  intro k F;show Mu l k (E.F k)=Q1 F->nO E.P E.gl k F
  induction l with
  |nil=>exact h.fs k F
  | cons p r ih=>
   intro hk;rw[Mu]at hk;split at hk
   ·rename_i e;cases hk;rw[e];exact hl.1
   ·exact ih hl.2 hk
 mix:=h.mix
def kq(key:Nat):Nat->Code->List Item->Option (List Item)
 |0,_,_=>Q2
 | n+1,c,k=>match c with
  | .seq a b=>match kq key n a (.code b::k) with
   |some r=>Q1 r
   |none=>kq key n b k
  | .cond _ a b=>match kq key n a k with
   |some r=>Q1 r
   |none=>kq key n b k
  |.block id c=>kq key n c (.inBlock id::k)
  |.loop c=>if ef c=key then Q1 (.code c::.inLoop c::k)else kq key n c (.inLoop c::k)
  |.region id _ _=>if id+500000=key then Q1 k else Q2
  |_=>Q2
def zZ(f:Func)(key:Nat):List Item:=match f.body with
 |some c=>(kq key 1000 c []).getD []
 |none=>[]
def bq(f:Func):List Item:=match f.body with
 |some c=>[.code c]
 |none=>[]
theorem zbU:Vj.P.follows .mixedOrders=true:=kw
def unr:Nat->aM:=λ_=>{unroll:=true}
def fL(E:bT)(f:Func)(ks:List (Option Sh)):iv ks:=λx h=>
 (run E h.length unr f.results.toList 4000 (bq f) (bc f.ntmps (iX ks x) h)).bind λ
  |.ret v h'=>.ok (v,h')
  |_=>.err
theorem Tr.sat_of_val{α:Type}{Φ:α->Prop}:∀{t:Tr α}{a:α},t.val=Q1 a->Φ a->t.Sat Φ
 |.err,_,h,_=>by simp at h
 | .chk c t,a,h,ha=>by
  cases c
  ·simp[Tr.val]at h
  ·exact⟨rfl,sat_of_val (t:=t) (by simpa[Tr.val]using h) ha⟩
 | .br c t f,a,h,ha=>by
  cases c
  ·exact⟨λh=>(by cases h),λ_=>sat_of_val (t:=f) (by simpa[Tr.val]using h) ha⟩
  ·exact⟨λ_=>sat_of_val (t:=t) (by simpa[Tr.val]using h) ha,λh=>(by cases h)⟩
 |.ok b,a,h,ha=>by simp[Tr.val]at h;subst h;exact ha
def zI(P:Program)(k:FuncId)(f:Func)(n:Nat):Prop:=P.funcs[k]?=Q1 f/\(f.name=="runtime.NumGoroutine")=false/\f.body.isNone=false/\decide (n<=f.ntmps)=true
theorem bQ{P:Program}{k:FuncId}{f:Func}{n:Nat}(h:(P.funcs[k]?,f.name=="runtime.NumGoroutine",f.body.isNone,decide (n<=f.ntmps))=(Q1 f,false,false,true)):zI P k f n:=by
 simp only[cm]at h;exact⟨h.1,h.2.1,h.2.2.1,h.2.2.2⟩
theorem rH:∀(ks:List (Option Sh))(x:zy ks),(iX ks x).length=ks.length
 |[],_=>rfl
 |some _::ks,x=>by simp[iX,rH ks x.2]
 |none::ks,x=>by simp[iX,rH ks x.2]
theorem dl{E:bT}{C:eP}{k:FuncId}{f:Func}{Q:AV->List AO->Prop}{n n0:Nat}(hE:zw E)(hf:zI E.P k f n)(hC:∀id,n0<=id->C.ρ0 id=Q2)(keep:Nat->aM)(fuel:Nat)
  {todo:List Item} {st:St} (h:(run E n0 keep f.results.toList fuel todo st).Sat (ju E C k Q)):Reach E C k todo st Q:=
 EX hE hf.1 hC rfl fuel _ _ h
theorem U7{E:bT}{k:FuncId}{f:Func}{Q:AV->List AO->Prop}{args:List AV}{h0:List AO}(hf:zI E.P k f args.length)
  (h:∀C:eP,(∀id,h0.length<=id->C.ρ0 id=Q2)->Reach E C k (bq f) (bc f.ntmps args h0) Q):TU E k args h0 Q:=by
 obtain⟨h1,h2,h3,h4⟩:=hf;cases hb:f.body with
 |none=>rw[hb]at h3;cases h3
 | some c=>
  refine⟨f,c,h1,hb,h2,kW h4,λC hC=>?_⟩;have:=h C hC;simpa[bq,hb]using this
theorem dI{P:Program}{gl:Nat->AV}{E:bT}{k:FuncId}{f:Func}{ks:List (Option Sh)}{G:iv ks}(hf:zI E.P k f ks.length)
  (h:∀x h0 res,(G x h0).val=Q1 res->∀C:eP,(∀id,h0.length<=id->C.ρ0 id=Q2)->Reach E C k (bq f) (bc f.ntmps (iX ks x) h0) (λr h=>(r,h)=res)) (qp:E.P=P:=by rfl) (qg:E.gl=gl:=by rfl):nO P gl k (bh ks G):=by
 subst qp qg;exact Pw ⟨f,hf.1,hf.2.1,hf.2.2.1⟩ λx h0 res hx=>U7 (by rw[rH];exact hf) (h x h0 res hx)
theorem cr{P:Program}{gl:Nat->AV}{E:bT}{k:FuncId}{f:Func}(ks:List (Option Sh))(hE:zw E)(hf:zI E.P k f ks.length)(qp:E.P=P:=by rfl)(qg:E.gl=gl:=by rfl):nO P gl k (bh ks (fL E f ks)):=by
 subst qp qg;refine dI hf λx h0 res hx C hC=>dl hE hf hC unr 4000 ?_
 unfold fL at hx;simp only[Tr.val_bind,fJ]at hx;obtain⟨l,hl,hres⟩:=hx;refine Tr.sat_of_val hl ?_;cases l with
 |ret v h'=>simp at hres;exact hres
 |head _ _ _=>simp at hres
 |fork _ _ _ _=>simp at hres
def YO(P:Program)(t:TypeId)(e:Sh):Bool:=match P.info? t with
 |some i=>i.size==e.size&&decide (0<e.size)&&decide (i.bytes<=131072)&&(match i.zero with|some z=>z.cells.size==i.size|none=>false)
 |none=>false
theorem Jz{P:Program}{t:TypeId}{e:Sh}(h:YO P t e=true):∃i z,P.info? t=Q1 i/\i.size=e.size/\0<e.size/\i.bytes<=131072/\i.zero=Q1 z/\z.cells.size=i.size:=by
 unfold YO at h;split at h
 ·rename_i i hi;simp only[aD,aN,aX]at h;obtain⟨⟨⟨h1,h2⟩,h3⟩,h4⟩:=h;split at h4
  ·rename_i z hz;exact⟨i,z,hi,h1,h2,h3,hz,by simpa using h4⟩
  ·cases h4
 ·cases h
theorem tc:zw Vj where
 sh:=by
  intro t e h;have hh:zcr t=Q1 e:=h;unfold zcr at hh;split at hh
  all_goals first
   |(cases hh;exact Jz kw)
   |cases hh
 fs:=by intro k F h;cases h
 mix:=zbU
abbrev rn(E:bT)(n:Nat)(kp:Nat->aM)(f:Func)(a:List AV)(h:List AO):Tr zB:=run E n kp (Func.results f).toList 400 (bq f) (bc (Func.ntmps f) a h)
abbrev rh(E:bT)(n:Nat)(kp:Nat->aM)(f:Func)(k:Nat)(s:St):Tr zB:=run E n kp (Func.results f).toList 400 (zZ f k) s
def jz(h:List AO):Nat->AO:=λj=>h.getD j .dead
def ziG(h:List AO)(outs:List Sh):AV->Option (zy (outs.map Q1))
 |.tup rs=>lp (jz h) (λi=>i) (outs.map Q1) rs
 |_=>Q2
def aL(h:List AO):(outs:List Sh)->AV->Option (zy (outs.map Q1))
 | [s],r=>match wP (jz h) s r with
  |some y=>Q1 (y,())
  |none=>Q2
 |[],r=>ziG h [] r
 |s1::s2::ss,r=>ziG h (s1::s2::ss) r
def xv:(outs:List Sh)->zy (outs.map Q1)->AV
 |[s],y=>zC s y.1
 |outs,y=>.tup (iX (outs.map Q1) y)
theorem oV{hp:Nat->AO}{f:Nat->Nat}:∀(ss:List Sh)(args:List AV)(x:zy (ss.map Q1)),lp hp f (ss.map Q1) args=Q1 x->ch hp (ss.map Q1) args=Q1 ((iX (ss.map Q1) x).map λa=>(false,a))
 |[],[],_,_=>rfl
 | s::ss,a::as',x,h=>by
  have h':lp hp f (Q1 s::ss.map Q1) (a::as')=Q1 x:=h;show ch hp (Q1 s::ss.map Q1) (a::as')=_;unfold lp at h';unfold ch;split at h'
  ·rename_i y r hy hr;cases h';rw[hy,oV ss as' r hr];rfl
  ·cases h'
 |[],_::_,_,h=>by simp[lp]at h
 |_::_,[],_,h=>by simp[lp]at h
theorem Reach.plain{E:bT}{C:eP}{fn:FuncId}{todo:List Item}{st:St}{outs:List Sh}{y:zy (outs.map Q1)}(hC:∀id,C.ρ0 id=Q2)
  (h:Reach E C fn todo st (λr h=>aL h outs r=Q1 y)):Reach E C fn todo st (λr h=>(r,h)=(xv outs y,[])):=by
 intro b cs a w U ρ h1 h2 hc hW;obtain⟨e,w',fr,⟨v,r,h',U',ρ',he,hq,hrv,hH,hnew,hr0,hWd⟩,hcm,hf,hl⟩:=h b cs a w U ρ h1 h2 hc hW;refine⟨e,w',fr,⟨v,_,_,λb=>U' b/\b<C.w0.heap.size/\¬C.B0 b,λ_=>Q2,he,rfl,?_,⟨λid=>?_,λid1 id2 b o=>?_,λid b o=>?_⟩,λ_ _=>rfl,λid v hv=>?_,⟨hWd.ext,hWd.same,λb hb=>hWd.ub b hb.1,λb hb hu=>hWd.u1 b hb hu.1,λb hb hu hn=>⟨hWd.u2 b hb hu hn,hb,hn⟩,λg=>(hWd.gl g).weak λb hb=>hb.1⟩⟩,hcm,hf,hl⟩
 ·have hob:∀id,bt w' U' ρ' id (jz h' id)/\∀b,af ρ' id (jz h' id) b->¬(U' b/\b<C.w0.heap.size/\¬C.B0 b):=by
   intro id;refine⟨hH.ob id,λb ho hu=>?_⟩;rcases hH.blk id b ho with hB|hB
   ·exact hu.2.2 hB
   ·omega
  have htup:∀(outs:List Sh)(y:zy (outs.map Q1))(rs:List AV),lp (jz h') (λi=>i) (outs.map Q1) rs=Q1 y->Rv w' U' ρ' (.tup rs) v->Rv w' (λb=>U' b/\b<C.w0.heap.size/\¬C.B0 b) (λ_=>Q2) (.tup (iX (outs.map Q1) y)) v:=by
   intro outs y rs hy hrv;cases hrv with
   |tup _ vs hl hr=>
   have:=(jm (w:=w') (U:=U') (ρ:=ρ') (U':=λb=>U' b/\b<C.w0.heap.size/\¬C.B0 b) (ρ':=λ_=>Q2) (hp:=jz h') (f:=λi=>i) (λb hb=>hb.1) (outs.map Q1) rs vs _ (oV outs rs y hy) ⟨hl,hr⟩ (λid _=>hob id)
    (λid hid=>by simp only[fB,List.filter_map,sK]at hid;rw[List.filter_eq_nil_iff.2 sw]at hid;simp[AV.idsL]at hid)).1
   simp only[ov,sK,zG,if_false,List.map_id']at this;exact .tup _ vs this.len this.rv
  match outs,y,hq with
  | [s],y,hq=>
   simp only[aL]at hq;split at hq
   ·rename_i x hx;cases hq;exact Aq hx hrv (λb hb=>hb.1) (λid _=>hob id)
   ·cases hq
  | [],y,hq=>
   simp only[aL]at hq;cases r with
   |tup rs=>exact htup [] y _ hq hrv
   |_=>cases hq
  | s1::s2::ss,y,hq=>
   simp only[aL]at hq;cases r with
   |tup rs=>exact htup _ y _ hq hrv
   |_=>cases hq
 ·simp[bt]
 ·obtain⟨_,v,hv,_⟩:=o;cases hv
 ·obtain⟨_,v,hv,_⟩:=o;cases hv
 ·rw[hC id]at hv;cases hv
theorem ms{E:bT}{C:eP}{k:FuncId}{f:Func}{Q:AV->List AO->Prop}{n n0:Nat}(hE:zw E)(hf:zI E.P k f n)(hC:∀id,n0<=id->C.ρ0 id=Q2){keep:Nat->aM}{fuel:Nat}
  {todo:List Item} {st:St} {l:zB} (h:(run E n0 keep f.results.toList fuel todo st).val=Q1 l) (hl:ju E C k Q l):Reach E C k todo st Q:=
 dl hE hf hC keep fuel (Tr.sat_of_val h hl)
def SO(ks outs:List Sh)(g:zy (ks.map Q1)->Option (zy (outs.map Q1))):iv (ks.map Q1):=λx h=>match h with
 | []=>match g x with
  |some y=>.ok (xv outs y,[])
  |none=>.err
 |_=>.err
def sr(ks outs:List Sh)(g:zy (ks.map Q1)->Option (zy (outs.map Q1))):zX:=bh (ks.map Q1) (SO ks outs g)
theorem uT{P:Program}{gl:Nat->AV}{E:bT}{k:FuncId}{f:Func}{ks outs:List Sh}{g:zy (ks.map Q1)->Option (zy (outs.map Q1))}(hf:zI E.P k f ks.length)
  (h:∀x y,g x=Q1 y->∀C:eP,(∀id,C.ρ0 id=Q2)->Reach E C k (bq f) (bc f.ntmps (iX (ks.map Q1) x) []) (λr h=>aL h outs r=Q1 y)) (qp:E.P=P:=by rfl) (qg:E.gl=gl:=by rfl):nO P gl k (sr ks outs g):=by
 subst qp qg;refine dI (by simpa using hf) λx h0 res hx C hC=>?_
 unfold SO at hx;split at hx
 ·split at hx
  ·rename_i y hy;simp only[Tr.val_ok,bw]at hx;subst hx;exact Reach.plain (λid=>hC id (by simp)) (h x y hy C (λid=>hC id (by simp)))
  ·simp at hx
 ·simp at hx
abbrev bT.aut(E:bT)(k:Nat)(f:Func)(n:Nat):bT:=E.add k (bh (List.replicate n Q2) (fL E f (List.replicate n Q2)))
theorem gZ{E:bT}{k:Nat}{f:Func}{n:Nat}(hE:zw E)(hf:zI E.P k f n):zw (E.aut k f n):=
 hE.add (cr _ hE (by simpa using hf))
open Go Go.Proofs
theorem Reach.len{E:bT}{C:eP}{fn:FuncId}{todo:List Item}{st:St}{Q:AV->List AO->Prop}(j:Nat)(e:Sh)(l:List (Sem e))(hj:st.tmps[j]?=Q1 (.sl e l))(h:l.length<=aE->Reach E C fn todo st Q):Reach E C fn todo st Q:=by
 intro b cs a w U ρ h1 h2 hc hW;refine h ?_ b cs a w U ρ h1 h2 hc hW;have hlt:j<a.tmps.toList.length:=by rw[<-hc.tm.len];exact(cV.1 hj).1
 have:=hc.tm.rv j _ _ hj (zQ hlt);generalize a.tmps.toList[j]=v at this;cases this with
 |sl0=>simp
 |sl _ _ _ _ _ _ _ hm=>exact hm
theorem zq(i:Nat)(h:i<aE):IntKind.i64.wrap (↑i+1)=((i+1:Nat):Int):=by
 have:aE=9223372036854775807:=rfl;rw[fK];omega
theorem cw{α:Type}(l:List α)(d:α){i:Nat}(h:i<l.length):l.getD (i:Int).toNat d=l[i]:=by
 simp[h]
def ae{α:Type}(p:α->Bool):List α->Nat->Int
 |[],_=>-1
 |x::r,i=>if p x then i else ae p r (i+1)
def Fq:bT:=(Vj.aut 188 Tryz.f188 2).aut 286 Tryz.f286 2
theorem oC:zw Fq:=by
 refine gZ (gZ tc ?_) ?_<;>(refine⟨?_,?_,?_,?_⟩<;>kernel_rfl)
abbrev Iv:Nat->aM:=λ_=>{slots:=[0,1,7,8]}
theorem Sr:zI Fq.P 187 Tryz.f187 2:=bQ kw
abbrev yM(l:List (Sem zj))(s:zA)(i:Int):St:={
    tmps:=
     (tm 19 [(0,sl (Sh.str.pr ((Sh.int IntKind.i64).pr Sh.bool)) l),(1,AV.clo (Fn.func 188) [] [ptr 0 0]),(7,ai ↑l.length),(8,ai i)]),
    heap:=[AO.box [str s]]}
theorem Vr(l:List (Sem zj))(s:zA):run Fq 1 Iv Tryz.f187.results.toList 300 (bq Tryz.f187) (bc Tryz.f187.ntmps [.sl zj l,.clo (.func 188) [] [.ptr 0 0]] [.box [.str s]])=.ok (.head 2 (zZ Tryz.f187 2) (yM l s 0)):=kw
theorem V0(l:List (Sem zj))(s:zA)(i:Int):run Fq 1 Iv Tryz.f187.results.toList 300 (zZ Tryz.f187 2) (yM l s i)=
 br (decide (i<↑l.length))
  (chk (zP i l.length)
   (br ((l.getD i.toNat (zi (Sh.str.pr ((Sh.int IntKind.i64).pr Sh.bool)))).1==s)
    (Tr.ok (zB.ret (ai i) [AO.box [str s]]))
    (Tr.ok (zB.head 2 (zZ Tryz.f187 2) (yM l s (IntKind.i64.wrap (i+1)))))))
  (Tr.ok (zB.ret (ai (-1)) [AO.box [str s]])):=kw
theorem L3{C:eP}(hC:∀id,1<=id->C.ρ0 id=Q2)(l:List (Sem zj))(s:zA)(hl:l.length<=aE):∀(n i:Nat),l.length-i=n->i<=l.length->
  Reach Fq C 187 (zZ Tryz.f187 2) (yM l s i) (λr h=>(r,h)=(.int .i64 (ae (λc=>c.1==s) (l.drop i) i),[.box [.str s]]))
 | n,i,hn,hi=>by
  subst hn;refine dl oC Sr hC Iv 300 ?_;rw[V0];refine⟨λh=>⟨?_,λhc=>?_,λhc=>?_⟩,λh=>?_⟩
  ·simp only[aN]at h;simp[zP];omega
  ·simp only[aN]at h;have hlt:i<l.length:=by omega
   rw[cw l _ hlt]at hc;rw[fj hlt];simp only[ae];rw[if_pos hc];rfl
  ·simp only[aN]at h;have hlt:i<l.length:=by omega
   rw[cw l _ hlt]at hc;rw[fj hlt];simp only[ae];rw[if_neg (by rw[hc];simp),zq i ow];exact L3 hC l s hl (l.length-(i+1)) (i+1) rfl ow
  ·simp only[decide_eq_false_iff_not]at h;rw[Aa ow];rfl
 termination_by n=>n
abbrev yN(l:List (Sem zj))(s:zA)(i:Int):St:={
    tmps:=
     (tm 19 [(0,sl (Sh.str.pr ((Sh.int IntKind.i64).pr Sh.bool)) l),(1,AV.clo (Fn.func 286) [] [ptr 0 0]),(7,ai ↑l.length),(8,ai i)]),
    heap:=[AO.box [str s]]}
theorem Vs(l:List (Sem zj))(s:zA):run Fq 1 Iv Tryz.f187.results.toList 300 (bq Tryz.f187) (bc Tryz.f187.ntmps [.sl zj l,.clo (.func 286) [] [.ptr 0 0]] [.box [.str s]])=.ok (.head 2 (zZ Tryz.f187 2) (yN l s 0)):=kw
theorem V1(l:List (Sem zj))(s:zA)(i:Int):run Fq 1 Iv Tryz.f187.results.toList 300 (zZ Tryz.f187 2) (yN l s i)=
 br (decide (i<↑l.length))
  (chk (zP i l.length)
   (br ((l.getD i.toNat (zi (Sh.str.pr ((Sh.int IntKind.i64).pr Sh.bool)))).1==s)
    (Tr.ok (zB.ret (ai i) [AO.box [str s]]))
    (Tr.ok (zB.head 2 (zZ Tryz.f187 2) (yN l s (IntKind.i64.wrap (i+1)))))))
  (Tr.ok (zB.ret (ai (-1)) [AO.box [str s]])):=kw
theorem L4{C:eP}(hC:∀id,1<=id->C.ρ0 id=Q2)(l:List (Sem zj))(s:zA)(hl:l.length<=aE):∀(n i:Nat),l.length-i=n->i<=l.length->
  Reach Fq C 187 (zZ Tryz.f187 2) (yN l s i) (λr h=>(r,h)=(.int .i64 (ae (λc=>c.1==s) (l.drop i) i),[.box [.str s]]))
 | n,i,hn,hi=>by
  subst hn;refine dl oC Sr hC Iv 300 ?_;rw[V1];refine⟨λh=>⟨?_,λhc=>?_,λhc=>?_⟩,λh=>?_⟩
  ·simp only[aN]at h;simp[zP];omega
  ·simp only[aN]at h;have hlt:i<l.length:=by omega
   rw[cw l _ hlt]at hc;rw[fj hlt];simp only[ae];rw[if_pos hc];rfl
  ·simp only[aN]at h;have hlt:i<l.length:=by omega
   rw[cw l _ hlt]at hc;rw[fj hlt];simp only[ae];rw[if_neg (by rw[hc];simp),zq i ow];exact L4 hC l s hl (l.length-(i+1)) (i+1) rfl ow
  ·simp only[decide_eq_false_iff_not]at h;rw[Aa ow];rfl
 termination_by n=>n
def G27:iv [Q1 (.sl zj),Q2]:=λx h=>match x,h with
 |(l,.clo (.func 188) [] [.ptr 0 0],_),[.box [.str s]]=>.ok (.int .i64 (ae (λc=>c.1==s) l 0),[.box [.str s]])
 |(l,.clo (.func 286) [] [.ptr 0 0],_),[.box [.str s]]=>.ok (.int .i64 (ae (λc=>c.1==s) l 0),[.box [.str s]])
 |_,_=>.err
theorem zel:FK 187 (bh [Q1 (.sl zj),Q2] G27):=by
 refine dI Sr λx h0 res hx C hC=>?_
 unfold G27 at hx;split at hx
 ·simp only[Tr.val_ok,bw]at hx;subst hx;rename_i _ _ l u s;refine Reach.len 0 zj l rfl λhl=>?_
  have e:iX [Q1 (.sl zj),Q2] (l,.clo (.func 188) [] [.ptr 0 0],u)=[.sl zj l,.clo (.func 188) [] [.ptr 0 0]]:=rfl;rw[e];refine dl (n0:=1) oC Sr hC Iv 300 ?_;rw[Vr];exact L3 hC l s hl _ 0 rfl ow
 ·simp only[Tr.val_ok,bw]at hx;subst hx;rename_i _ _ l u s;refine Reach.len 0 zj l rfl λhl=>?_
  have e:iX [Q1 (.sl zj),Q2] (l,.clo (.func 286) [] [.ptr 0 0],u)=[.sl zj l,.clo (.func 286) [] [.ptr 0 0]]:=rfl;rw[e];refine dl (n0:=1) oC Sr hC Iv 300 ?_;rw[Vs];exact L4 hC l s hl _ 0 rfl ow
 ·simp at hx
def Qz:bT:=Fq.add 187 (bh [Q1 (.sl zj),Q2] G27)
theorem AK:zw Qz:=oC.add zel
def zfL:bT:=(Qz.add 140 (bh [Q1 zo,Q1 .str] (fL Qz Tryz.f140 [Q1 zo,Q1 .str]))).add 248 (bh [Q1 (.sl zj),Q1 .str] (fL Qz Tryz.f248 [Q1 (.sl zj),Q1 .str]))
theorem QB:zw zfL:=by
 refine(AK.add (cr _ AK ?_)).add (cr (E:=Qz) _ AK ?_)<;>(refine⟨?_,?_,?_,?_⟩<;>kernel_rfl)
end
end Cad
