/- The program's environment: shapes, and the way functions are added. Functions from plain data to plain data. Places of columns. -/
import Derived.Test.YtkmcdhahdadkpaaGreatDoorA04
import Derived.Test.YtkmcdhahdadkpaaGreatDoorProg
namespace Cad
open Go
open Option renaming none→Q2,some→Q1
open Tr (chk br)
open AV (nils agg tup ptr kb str sl)
noncomputable section
abbrev zg:Sh:=.int .i64
abbrev ze:Sh:=.pr (.int .i64) (.pr (.int .i64) .str)
abbrev zj:Sh:=.pr .str (.pr (.int .i64) .bool)
abbrev zu:Sh:=.pr (.int .i64) .str
abbrev zo:Sh:=.pr .str (.pr (.sl zj) (.pr (.int .i64) (.pr (.sl (.int .i64)) (.pr (.sl zu) .expr))))
abbrev zh:Sh:=.pr zo (.sl (.sl ze))
def zd2:Nat->Option Sh
 |3=>Q1 (.int .i64)
 |27=>Q1 ze
 |30=>Q1 .expr
 |100=>Q1 zj
 |103=>Q1 zu
 |9=>Q1 .str
 |5=>Q1 (.int .u8)
 |188=>Q1 (.pr (.int .i64) .str)
 |88=>Q1 (.pr .str .str)
 |90=>Q1 (.pr .str .expr)
 |31=>Q1 (.sl ze)
 |52=>Q1 (zh)
 |_=>Q2
abbrev mc:List Int:=[1,10,100,1000,10000,100000,1000000,10000000,100000000,1000000000,10000000000,100000000000,1000000000000,10000000000000,100000000000000,1000000000000000,10000000000000000,100000000000000000,1000000000000000000,10000000000000000000]
def Pf:Nat->AV
 |0=>.gint
 |1=>.eptr [.str [73,78,84],.str [84,69,88,84],.str [66,79,79,76]] 0
 |5=>.tab .u64 mc
 |_=>.any
abbrev FK(k:FuncId)(F:ac):Prop:=oC Go.Proofs.Tryz.prog Pf k F
def WA:cd:={P:=Go.Proofs.Tryz.prog,sh:=zd2,gl:=Pf,F:=λ_=>Q2}
def cd.add(E:cd)(k:FuncId)(F:ac):cd:={E with F:=λj=>if j=k then Q1 F else E.F j}
theorem zy.add{E:cd}{k:FuncId}{F:ac}(h:zy E)(hk:oC E.P E.gl k F):zy (E.add k F) where
 sh:=h.sh
 fs:=λj F' hj=>by
  simp only[cd.add]at hj;split at hj
  ·rename_i e;cases hj;rw[e];exact hk
  ·exact h.fs j F' hj
 mix:=h.mix
def No:List (Nat×ac)->Nat->Option ac->Option ac
 |[],_,d=>d
 |p::r,j,d=>if j=p.1 then Q1 p.2 else No r j d
def cd.addL(E:cd)(l:List (Nat×ac)):cd:={E with F:=λj=>No l j (E.F j)}
def QE(P:Program)(gl:Nat->AV):List (Nat×ac)->Prop
 |[]=>True
 |p::r=>oC P gl p.1 p.2/\QE P gl r
theorem iM{P:Program}{gl:Nat->AV}:QE P gl []:=trivial
theorem fc{P:Program}{gl:Nat->AV}{k:Nat}{F:ac}{r:List (Nat×ac)}(h:oC P gl k F)(t:QE P gl r):QE P gl ((k,F)::r):=⟨h,t⟩
theorem zy.addL{E:cd}(h:zy E){l:List (Nat×ac)}(hl:QE E.P E.gl l):zy (E.addL l) where
 sh:=h.sh
 fs:=by
  intro k F;show No l k (E.F k)=Q1 F->oC E.P E.gl k F
  induction l with
  |nil=>exact h.fs k F
  | cons p r ih=>
   intro hk;rw[No]at hk;split at hk
   ·rename_i e;cases hk;rw[e];exact hl.1
   ·exact ih hl.2 hk
 mix:=h.mix
def kL(key:Nat):Nat->Code->List Item->Option (List Item)
 |0,_,_=>Q2
 | n+1,c,k=>match c with
  | .seq a b=>match kL key n a (.code b::k) with
   |some r=>Q1 r
   |none=>kL key n b k
  | .cond _ a b=>match kL key n a k with
   |some r=>Q1 r
   |none=>kL key n b k
  |.block id c=>kL key n c (.inBlock id::k)
  |.loop c=>if eu c=key then Q1 (.code c::.inLoop c::k)else kL key n c (.inLoop c::k)
  |.region id _ _=>if id+500000=key then Q1 k else Q2
  |_=>Q2
def ag(f:Func)(key:Nat):List Item:=match f.body with
 |some c=>(kL key 1000 c []).getD []
 |none=>[]
def bx(f:Func):List Item:=match f.body with
 |some c=>[.code c]
 |none=>[]
theorem zdv:WA.P.follows .mixedOrders=true:=kw
def unr:Nat->aO:=λ_=>{unroll:=true}
def fk(E:cd)(f:Func)(ks:List (Option Sh)):il ks:=λx h=>
 (run E h.length unr f.results.toList 4000 (bx f) (bg f.ntmps (jl ks x) h)).bind λ
  |.ret v h'=>.ok (v,h')
  |_=>.err
theorem Tr.sat_of_val{α:Type}{Φ:α->Prop}:∀{t:Tr α}{a:α},t.val=Q1 a->Φ a->t.Sat Φ
 |.err,_,h,_=>by simp at h
 | .chk c t,a,h,ha=>by
  cases c
  ·simp[Tr.val]at h
  ·exact⟨rfl,sat_of_val (t:=t) (by simpa[Tr.val]using h) ha⟩
 | .br c t f,a,h,ha=>by
  cases c
  ·exact⟨λh=>(by cases h),λ_=>sat_of_val (t:=f) (by simpa[Tr.val]using h) ha⟩
  ·exact⟨λ_=>sat_of_val (t:=t) (by simpa[Tr.val]using h) ha,λh=>(by cases h)⟩
 |.ok b,a,h,ha=>by simp[Tr.val]at h;subst h;exact ha
def zL(P:Program)(k:FuncId)(f:Func)(n:Nat):Prop:=P.funcs[k]?=Q1 f/\(f.name=="runtime.NumGoroutine")=false/\f.body.isNone=false/\decide (n<=f.ntmps)=true
theorem bS{P:Program}{k:FuncId}{f:Func}{n:Nat}(h:(P.funcs[k]?,f.name=="runtime.NumGoroutine",f.body.isNone,decide (n<=f.ntmps))=(Q1 f,false,false,true)):zL P k f n:=by
 simp only[cA]at h;exact⟨h.1,h.2.1,h.2.2.1,h.2.2.2⟩
theorem sf:∀(ks:List (Option Sh))(x:zz ks),(jl ks x).length=ks.length
 |[],_=>rfl
 |some _::ks,x=>by simp[jl,sf ks x.2]
 |none::ks,x=>by simp[jl,sf ks x.2]
theorem dt{E:cd}{C:eV}{k:FuncId}{f:Func}{Q:AV->List AO->Prop}{n n0:Nat}(hE:zy E)(hf:zL E.P k f n)(hC:∀id,n0<=id->C.ρ0 id=Q2)(keep:Nat->aO)(fuel:Nat)
  {todo:List Item} {st:St} (h:(run E n0 keep f.results.toList fuel todo st).Sat (jN E C k Q)):Reach E C k todo st Q:=
 FH hE hf.1 hC rfl fuel _ _ h
theorem Wo{E:cd}{k:FuncId}{f:Func}{Q:AV->List AO->Prop}{args:List AV}{h0:List AO}(hf:zL E.P k f args.length)
  (h:∀C:eV,(∀id,h0.length<=id->C.ρ0 id=Q2)->Reach E C k (bx f) (bg f.ntmps args h0) Q):Vd E k args h0 Q:=by
 obtain⟨h1,h2,h3,h4⟩:=hf;cases hb:f.body with
 |none=>rw[hb]at h3;cases h3
 | some c=>
  refine⟨f,c,h1,hb,h2,lC h4,λC hC=>?_⟩;have:=h C hC;simpa[bx,hb]using this
theorem dv{P:Program}{gl:Nat->AV}{E:cd}{k:FuncId}{f:Func}{ks:List (Option Sh)}{G:il ks}(hf:zL E.P k f ks.length)
  (h:∀x h0 res,(G x h0).val=Q1 res->∀C:eV,(∀id,h0.length<=id->C.ρ0 id=Q2)->Reach E C k (bx f) (bg f.ntmps (jl ks x) h0) (λr h=>(r,h)=res)) (qp:E.P=P:=by rfl) (qg:E.gl=gl:=by rfl):oC P gl k (bm ks G):=by
 subst qp qg;exact QH ⟨f,hf.1,hf.2.1,hf.2.2.1⟩ λx h0 res hx=>Wo (by rw[sf];exact hf) (h x h0 res hx)
theorem ce{P:Program}{gl:Nat->AV}{E:cd}{k:FuncId}{f:Func}(ks:List (Option Sh))(hE:zy E)(hf:zL E.P k f ks.length)(qp:E.P=P:=by rfl)(qg:E.gl=gl:=by rfl):oC P gl k (bm ks (fk E f ks)):=by
 subst qp qg;refine dv hf λx h0 res hx C hC=>dt hE hf hC unr 4000 ?_
 unfold fk at hx;simp only[Tr.val_bind,fV]at hx;obtain⟨l,hl,hres⟩:=hx;refine Tr.sat_of_val hl ?_;cases l with
 |ret v h'=>simp at hres;exact hres
 |head _ _ _=>simp at hres
 |fork _ _ _ _=>simp at hres
def Z7(P:Program)(t:TypeId)(e:Sh):Bool:=match P.info? t with
 |some i=>i.size==e.size&&decide (0<e.size)&&decide (i.bytes<=131072)&&(match i.zero with|some z=>z.cells.size==i.size|none=>false)
 |none=>false
theorem Kp{P:Program}{t:TypeId}{e:Sh}(h:Z7 P t e=true):∃i z,P.info? t=Q1 i/\i.size=e.size/\0<e.size/\i.bytes<=131072/\i.zero=Q1 z/\z.cells.size=i.size:=by
 unfold Z7 at h;split at h
 ·rename_i i hi;simp only[aC,aP,bf]at h;obtain⟨⟨⟨h1,h2⟩,h3⟩,h4⟩:=h;split at h4
  ·rename_i z hz;exact⟨i,z,hi,h1,h2,h3,hz,by simpa using h4⟩
  ·cases h4
 ·cases h
theorem tH:zy WA where
 sh:=by
  intro t e h;have hh:zd2 t=Q1 e:=h;unfold zd2 at hh;split at hh
  all_goals first
   |(cases hh;exact Kp kw)
   |cases hh
 fs:=by intro k F h;cases h
 mix:=zdv
abbrev rn(E:cd)(n:Nat)(kp:Nat->aO)(f:Func)(a:List AV)(h:List AO):Tr zE:=run E n kp (Func.results f).toList 400 (bx f) (bg (Func.ntmps f) a h)
abbrev rh(E:cd)(n:Nat)(kp:Nat->aO)(f:Func)(k:Nat)(s:St):Tr zE:=run E n kp (Func.results f).toList 400 (ag f k) s
def jS(h:List AO):Nat->AO:=λj=>h.getD j .dead
def zkO(h:List AO)(outs:List Sh):AV->Option (zz (outs.map Q1))
 |.tup rs=>lO (jS h) (λi=>i) (outs.map Q1) rs
 |_=>Q2
def aL(h:List AO):(outs:List Sh)->AV->Option (zz (outs.map Q1))
 | [s],r=>match xv (jS h) s r with
  |some y=>Q1 (y,())
  |none=>Q2
 |[],r=>zkO h [] r
 |s1::s2::ss,r=>zkO h (s1::s2::ss) r
def xW:(outs:List Sh)->zz (outs.map Q1)->AV
 |[s],y=>zH s y.1
 |outs,y=>.tup (jl (outs.map Q1) y)
theorem pn{hp:Nat->AO}{f:Nat->Nat}:∀(ss:List Sh)(args:List AV)(x:zz (ss.map Q1)),lO hp f (ss.map Q1) args=Q1 x->cw hp (ss.map Q1) args=Q1 ((jl (ss.map Q1) x).map λa=>(false,a))
 |[],[],_,_=>rfl
 | s::ss,a::as',x,h=>by
  have h':lO hp f (Q1 s::ss.map Q1) (a::as')=Q1 x:=h;show cw hp (Q1 s::ss.map Q1) (a::as')=_;unfold lO at h';unfold cw;split at h'
  ·rename_i y r hy hr;cases h';rw[hy,pn ss as' r hr];rfl
  ·cases h'
 |[],_::_,_,h=>by simp[lO]at h
 |_::_,[],_,h=>by simp[lO]at h
theorem Reach.plain{E:cd}{C:eV}{fn:FuncId}{todo:List Item}{st:St}{outs:List Sh}{y:zz (outs.map Q1)}(hC:∀id,C.ρ0 id=Q2)
  (h:Reach E C fn todo st (λr h=>aL h outs r=Q1 y)):Reach E C fn todo st (λr h=>(r,h)=(xW outs y,[])):=by
 intro b cs a w U ρ h1 h2 hc hW;obtain⟨e,w',fr,⟨v,r,h',U',ρ',he,hq,hrv,hH,hnew,hr0,hWd⟩,hcm,hf,hl⟩:=h b cs a w U ρ h1 h2 hc hW;refine⟨e,w',fr,⟨v,_,_,λb=>U' b/\b<C.w0.heap.size/\¬C.B0 b,λ_=>Q2,he,rfl,?_,⟨λid=>?_,λid1 id2 b o=>?_,λid b o=>?_⟩,λ_ _=>rfl,λid v hv=>?_,⟨hWd.ext,hWd.same,λb hb=>hWd.ub b hb.1,λb hb hu=>hWd.u1 b hb hu.1,λb hb hu hn=>⟨hWd.u2 b hb hu hn,hb,hn⟩,λg=>(hWd.gl g).weak λb hb=>hb.1⟩⟩,hcm,hf,hl⟩
 ·have hob:∀id,bB w' U' ρ' id (jS h' id)/\∀b,ap ρ' id (jS h' id) b->¬(U' b/\b<C.w0.heap.size/\¬C.B0 b):=by
   intro id;refine⟨hH.ob id,λb ho hu=>?_⟩;rcases hH.blk id b ho with hB|hB
   ·exact hu.2.2 hB
   ·omega
  have htup:∀(outs:List Sh)(y:zz (outs.map Q1))(rs:List AV),lO (jS h') (λi=>i) (outs.map Q1) rs=Q1 y->Rv w' U' ρ' (.tup rs) v->Rv w' (λb=>U' b/\b<C.w0.heap.size/\¬C.B0 b) (λ_=>Q2) (.tup (jl (outs.map Q1) y)) v:=by
   intro outs y rs hy hrv;cases hrv with
   |tup _ vs hl hr=>
   have:=(jE (w:=w') (U:=U') (ρ:=ρ') (U':=λb=>U' b/\b<C.w0.heap.size/\¬C.B0 b) (ρ':=λ_=>Q2) (hp:=jS h') (f:=λi=>i) (λb hb=>hb.1) (outs.map Q1) rs vs _ (pn outs rs y hy) ⟨hl,hr⟩ (λid _=>hob id)
    (λid hid=>by simp only[fM,List.filter_map,tn]at hid;rw[List.filter_eq_nil_iff.2 sw]at hid;simp[AV.idsL]at hid)).1
   simp only[oS,tn,zB,if_false,List.map_id']at this;exact .tup _ vs this.len this.rv
  match outs,y,hq with
  | [s],y,hq=>
   simp only[aL]at hq;split at hq
   ·rename_i x hx;cases hq;exact A3 hx hrv (λb hb=>hb.1) (λid _=>hob id)
   ·cases hq
  | [],y,hq=>
   simp only[aL]at hq;cases r with
   |tup rs=>exact htup [] y _ hq hrv
   |_=>cases hq
  | s1::s2::ss,y,hq=>
   simp only[aL]at hq;cases r with
   |tup rs=>exact htup _ y _ hq hrv
   |_=>cases hq
 ·simp[bB]
 ·obtain⟨_,v,hv,_⟩:=o;cases hv
 ·obtain⟨_,v,hv,_⟩:=o;cases hv
 ·rw[hC id]at hv;cases hv
theorem mT{E:cd}{C:eV}{k:FuncId}{f:Func}{Q:AV->List AO->Prop}{n n0:Nat}(hE:zy E)(hf:zL E.P k f n)(hC:∀id,n0<=id->C.ρ0 id=Q2){keep:Nat->aO}{fuel:Nat}
  {todo:List Item} {st:St} {l:zE} (h:(run E n0 keep f.results.toList fuel todo st).val=Q1 l) (hl:jN E C k Q l):Reach E C k todo st Q:=
 dt hE hf hC keep fuel (Tr.sat_of_val h hl)
def TZ(ks outs:List Sh)(g:zz (ks.map Q1)->Option (zz (outs.map Q1))):il (ks.map Q1):=λx h=>match h with
 | []=>match g x with
  |some y=>.ok (xW outs y,[])
  |none=>.err
 |_=>.err
def sU(ks outs:List Sh)(g:zz (ks.map Q1)->Option (zz (outs.map Q1))):ac:=bm (ks.map Q1) (TZ ks outs g)
theorem vF{P:Program}{gl:Nat->AV}{E:cd}{k:FuncId}{f:Func}{ks outs:List Sh}{g:zz (ks.map Q1)->Option (zz (outs.map Q1))}(hf:zL E.P k f ks.length)
  (h:∀x y,g x=Q1 y->∀C:eV,(∀id,C.ρ0 id=Q2)->Reach E C k (bx f) (bg f.ntmps (jl (ks.map Q1) x) []) (λr h=>aL h outs r=Q1 y)) (qp:E.P=P:=by rfl) (qg:E.gl=gl:=by rfl):oC P gl k (sU ks outs g):=by
 subst qp qg;refine dv (by simpa using hf) λx h0 res hx C hC=>?_
 unfold TZ at hx;split at hx
 ·split at hx
  ·rename_i y hy;simp only[Tr.val_ok,bD]at hx;subst hx;exact Reach.plain (λid=>hC id (by simp)) (h x y hy C (λid=>hC id (by simp)))
  ·simp at hx
 ·simp at hx
abbrev cd.aut(E:cd)(k:Nat)(f:Func)(n:Nat):cd:=E.add k (bm (List.replicate n Q2) (fk E f (List.replicate n Q2)))
theorem ir{E:cd}{k:Nat}{f:Func}{n:Nat}(hE:zy E)(hf:zL E.P k f n):zy (E.aut k f n):=
 hE.add (ce _ hE (by simpa using hf))
open Go Go.Proofs
theorem Reach.len{E:cd}{C:eV}{fn:FuncId}{todo:List Item}{st:St}{Q:AV->List AO->Prop}(j:Nat)(e:Sh)(l:List (Sem e))(hj:st.tmps[j]?=Q1 (.sl e l))(h:l.length<=aH->Reach E C fn todo st Q):Reach E C fn todo st Q:=by
 intro b cs a w U ρ h1 h2 hc hW;refine h ?_ b cs a w U ρ h1 h2 hc hW;have hlt:j<a.tmps.toList.length:=by rw[<-hc.tm.len];exact(cW.1 hj).1
 have:=hc.tm.rv j _ _ hj (zS hlt);generalize a.tmps.toList[j]=v at this;cases this with
 |sl0=>simp
 |sl _ _ _ _ _ _ _ hm=>exact hm
theorem zp(i:Nat)(h:i<aH):IntKind.i64.wrap (↑i+1)=((i+1:Nat):Int):=by
 have:aH=9223372036854775807:=rfl;rw[fX];omega
theorem cF{α:Type}(l:List α)(d:α){i:Nat}(h:i<l.length):l.getD (i:Int).toNat d=l[i]:=by
 simp[h]
def zW{α:Type}(p:α->Bool):List α->Nat->Int
 |[],_=>-1
 |x::r,i=>if p x then i else zW p r (i+1)
def Gc:cd:=(WA.aut 188 Tryz.f188 2).aut 286 Tryz.f286 2
theorem oY:zy Gc:=by
 refine ir (ir tH ?_) ?_<;>(refine⟨?_,?_,?_,?_⟩<;>kernel_rfl)
abbrev Jm:Nat->aO:=λ_=>{slots:=[0,1,7,8]}
theorem TA:zL Gc.P 187 Tryz.f187 2:=bS kw
abbrev Ay(l:List (Sem zj))(s:zD)(i:Int):St:={
    tmps:=
     (tm 19 [(0,sl (Sh.str.pr ((Sh.int IntKind.i64).pr Sh.bool)) l),(1,AV.clo (Fn.func 188) [] [ptr 0 0]),(7,ai ↑l.length),(8,ai i)]),
    heap:=[AO.box [str s]]}
theorem WG(l:List (Sem zj))(s:zD):run Gc 1 Jm Tryz.f187.results.toList 300 (bx Tryz.f187) (bg Tryz.f187.ntmps [.sl zj l,.clo (.func 188) [] [.ptr 0 0]] [.box [.str s]])=.ok (.head 2 (ag Tryz.f187 2) (Ay l s 0)):=kw
theorem Xk(l:List (Sem zj))(s:zD)(i:Int):run Gc 1 Jm Tryz.f187.results.toList 300 (ag Tryz.f187 2) (Ay l s i)=
 br (decide (i<↑l.length))
  (chk (zK i l.length)
   (br ((l.getD i.toNat (zi (Sh.str.pr ((Sh.int IntKind.i64).pr Sh.bool)))).1==s)
    (Tr.ok (zE.ret (ai i) [AO.box [str s]]))
    (Tr.ok (zE.head 2 (ag Tryz.f187 2) (Ay l s (IntKind.i64.wrap (i+1)))))))
  (Tr.ok (zE.ret (ai (-1)) [AO.box [str s]])):=kw
theorem MW{C:eV}(hC:∀id,1<=id->C.ρ0 id=Q2)(l:List (Sem zj))(s:zD)(hl:l.length<=aH):∀(n i:Nat),l.length-i=n->i<=l.length->
  Reach Gc C 187 (ag Tryz.f187 2) (Ay l s i) (λr h=>(r,h)=(.int .i64 (zW (λc=>c.1==s) (l.drop i) i),[.box [.str s]]))
 | n,i,hn,hi=>by
  subst hn;refine dt oY TA hC Jm 300 ?_;rw[Xk];refine⟨λh=>⟨?_,λhc=>?_,λhc=>?_⟩,λh=>?_⟩
  ·simp only[aP]at h;simp[zK];omega
  ·simp only[aP]at h;have hlt:i<l.length:=by omega
   rw[cF l _ hlt]at hc;rw[eY hlt];simp only[zW];rw[if_pos hc];rfl
  ·simp only[aP]at h;have hlt:i<l.length:=by omega
   rw[cF l _ hlt]at hc;rw[eY hlt];simp only[zW];rw[if_neg (by rw[hc];simp),zp i ow];exact MW hC l s hl (l.length-(i+1)) (i+1) rfl ow
  ·simp only[decide_eq_false_iff_not]at h;rw[AL ow];rfl
 termination_by n=>n
abbrev Az(l:List (Sem zj))(s:zD)(i:Int):St:={
    tmps:=
     (tm 19 [(0,sl (Sh.str.pr ((Sh.int IntKind.i64).pr Sh.bool)) l),(1,AV.clo (Fn.func 286) [] [ptr 0 0]),(7,ai ↑l.length),(8,ai i)]),
    heap:=[AO.box [str s]]}
theorem WH(l:List (Sem zj))(s:zD):run Gc 1 Jm Tryz.f187.results.toList 300 (bx Tryz.f187) (bg Tryz.f187.ntmps [.sl zj l,.clo (.func 286) [] [.ptr 0 0]] [.box [.str s]])=.ok (.head 2 (ag Tryz.f187 2) (Az l s 0)):=kw
theorem Xl(l:List (Sem zj))(s:zD)(i:Int):run Gc 1 Jm Tryz.f187.results.toList 300 (ag Tryz.f187 2) (Az l s i)=
 br (decide (i<↑l.length))
  (chk (zK i l.length)
   (br ((l.getD i.toNat (zi (Sh.str.pr ((Sh.int IntKind.i64).pr Sh.bool)))).1==s)
    (Tr.ok (zE.ret (ai i) [AO.box [str s]]))
    (Tr.ok (zE.head 2 (ag Tryz.f187 2) (Az l s (IntKind.i64.wrap (i+1)))))))
  (Tr.ok (zE.ret (ai (-1)) [AO.box [str s]])):=kw
theorem MX{C:eV}(hC:∀id,1<=id->C.ρ0 id=Q2)(l:List (Sem zj))(s:zD)(hl:l.length<=aH):∀(n i:Nat),l.length-i=n->i<=l.length->
  Reach Gc C 187 (ag Tryz.f187 2) (Az l s i) (λr h=>(r,h)=(.int .i64 (zW (λc=>c.1==s) (l.drop i) i),[.box [.str s]]))
 | n,i,hn,hi=>by
  subst hn;refine dt oY TA hC Jm 300 ?_;rw[Xl];refine⟨λh=>⟨?_,λhc=>?_,λhc=>?_⟩,λh=>?_⟩
  ·simp only[aP]at h;simp[zK];omega
  ·simp only[aP]at h;have hlt:i<l.length:=by omega
   rw[cF l _ hlt]at hc;rw[eY hlt];simp only[zW];rw[if_pos hc];rfl
  ·simp only[aP]at h;have hlt:i<l.length:=by omega
   rw[cF l _ hlt]at hc;rw[eY hlt];simp only[zW];rw[if_neg (by rw[hc];simp),zp i ow];exact MX hC l s hl (l.length-(i+1)) (i+1) rfl ow
  ·simp only[decide_eq_false_iff_not]at h;rw[AL ow];rfl
 termination_by n=>n
def G27:il [Q1 (.sl zj),Q2]:=λx h=>match x,h with
 |(l,.clo (.func 188) [] [.ptr 0 0],_),[.box [.str s]]=>.ok (.int .i64 (zW (λc=>c.1==s) l 0),[.box [.str s]])
 |(l,.clo (.func 286) [] [.ptr 0 0],_),[.box [.str s]]=>.ok (.int .i64 (zW (λc=>c.1==s) l 0),[.box [.str s]])
 |_,_=>.err
theorem zgg:FK 187 (bm [Q1 (.sl zj),Q2] G27):=by
 refine dv TA λx h0 res hx C hC=>?_
 unfold G27 at hx;split at hx
 ·simp only[Tr.val_ok,bD]at hx;subst hx;rename_i _ _ l u s;refine Reach.len 0 zj l rfl λhl=>?_
  have e:jl [Q1 (.sl zj),Q2] (l,.clo (.func 188) [] [.ptr 0 0],u)=[.sl zj l,.clo (.func 188) [] [.ptr 0 0]]:=rfl;rw[e];refine dt (n0:=1) oY TA hC Jm 300 ?_;rw[WG];exact MW hC l s hl _ 0 rfl ow
 ·simp only[Tr.val_ok,bD]at hx;subst hx;rename_i _ _ l u s;refine Reach.len 0 zj l rfl λhl=>?_
  have e:jl [Q1 (.sl zj),Q2] (l,.clo (.func 286) [] [.ptr 0 0],u)=[.sl zj l,.clo (.func 286) [] [.ptr 0 0]]:=rfl;rw[e];refine dt (n0:=1) oY TA hC Jm 300 ?_;rw[WH];exact MX hC l s hl _ 0 rfl ow
 ·simp at hx
def RN:cd:=Gc.add 187 (bm [Q1 (.sl zj),Q2] G27)
theorem Bn:zy RN:=oY.add zgg
def zhH:cd:=(RN.add 140 (bm [Q1 zo,Q1 .str] (fk RN Tryz.f140 [Q1 zo,Q1 .str]))).add 248 (bm [Q1 (.sl zj),Q1 .str] (fk RN Tryz.f248 [Q1 (.sl zj),Q1 .str]))
theorem RP:zy zhH:=by
 refine(Bn.add (ce _ Bn ?_)).add (ce (E:=RN) _ Bn ?_)<;>(refine⟨?_,?_,?_,?_⟩<;>kernel_rfl)
end
end Cad
