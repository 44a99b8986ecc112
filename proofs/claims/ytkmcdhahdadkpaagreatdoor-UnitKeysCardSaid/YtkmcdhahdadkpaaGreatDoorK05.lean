/- The program's environment: shapes, and the way functions are added. Functions from plain data to plain data. Places of columns. -/
import Derived.Test.YtkmcdhahdadkpaaGreatDoorK04
import Derived.Test.YtkmcdhahdadkpaaGreatDoorProg
namespace Cad
open Go
open Option renaming none→Q2,some→Q1
open Tr (chk br)
open AV (nils agg tup ptr kb str sl)
noncomputable section
abbrev zg:Sh:=.int .i64
abbrev ze:Sh:=.pr (.int .i64) (.pr (.int .i64) .str)
abbrev zj:Sh:=.pr .str (.pr (.int .i64) .bool)
abbrev zr:Sh:=.pr (.int .i64) .str
abbrev zo:Sh:=.pr .str (.pr (.sl zj) (.pr (.int .i64) (.pr (.sl (.int .i64)) (.pr (.sl zr) .expr))))
abbrev zh:Sh:=.pr zo (.sl (.sl ze))
def zdi:Nat->Option Sh
 |3=>Q1 (.int .i64)
 |27=>Q1 ze
 |30=>Q1 .expr
 |100=>Q1 zj
 |103=>Q1 zr
 |9=>Q1 .str
 |5=>Q1 (.int .u8)
 |188=>Q1 (.pr (.int .i64) .str)
 |88=>Q1 (.pr .str .str)
 |90=>Q1 (.pr .str .expr)
 |31=>Q1 (.sl ze)
 |52=>Q1 (zh)
 |_=>Q2
abbrev lO:List Int:=[1,10,100,1000,10000,100000,1000000,10000000,100000000,1000000000,10000000000,100000000000,1000000000000,10000000000000,100000000000000,1000000000000000,10000000000000000,100000000000000000,1000000000000000000,10000000000000000000]
def OG:Nat->AV
 |0=>.gint
 |1=>.eptr [.str [73,78,84],.str [84,69,88,84],.str [66,79,79,76]] 0
 |5=>.tab .u64 lO
 |_=>.any
abbrev FK(k:FuncId)(F:zY):Prop:=nX Go.Proofs.Tryz.prog OG k F
def VY:bX:={P:=Go.Proofs.Tryz.prog,sh:=zdi,gl:=OG,F:=λ_=>Q2}
def bX.add(E:bX)(k:FuncId)(F:zY):bX:={E with F:=λj=>if j=k then Q1 F else E.F j}
theorem zx.add{E:bX}{k:FuncId}{F:zY}(h:zx E)(hk:nX E.P E.gl k F):zx (E.add k F) where
 sh:=h.sh
 fs:=λj F' hj=>by
  simp only[bX.add]at hj;split at hj
  ·rename_i e;cases hj;rw[e];exact hk
  ·exact h.fs j F' hj
 mix:=h.mix
def MP:List (Nat×zY)->Nat->Option zY->Option zY
 |[],_,d=>d
 |p::r,j,d=>if j=p.1 then Q1 p.2 else MP r j d
def bX.addL(E:bX)(l:List (Nat×zY)):bX:={E with F:=λj=>MP l j (E.F j)}
def PY(P:Program)(gl:Nat->AV):List (Nat×zY)->Prop
 |[]=>True
 |p::r=>nX P gl p.1 p.2/\PY P gl r
theorem iV{P:Program}{gl:Nat->AV}:PY P gl []:=trivial
theorem fc{P:Program}{gl:Nat->AV}{k:Nat}{F:zY}{r:List (Nat×zY)}(h:nX P gl k F)(t:PY P gl r):PY P gl ((k,F)::r):=⟨h,t⟩
theorem zx.addL{E:bX}(h:zx E){l:List (Nat×zY)}(hl:PY E.P E.gl l):zx (E.addL l) where
 sh:=h.sh
 fs:=by
  intro k F;show MP l k (E.F k)=Q1 F->nX E.P E.gl k F
  induction l with
  |nil=>exact h.fs k F
  | cons p r ih=>
   intro hk;rw[MP]at hk;split at hk
   ·rename_i e;cases hk;rw[e];exact hl.1
   ·exact ih hl.2 hk
 mix:=h.mix
def kC(key:Nat):Nat->Code->List Item->Option (List Item)
 |0,_,_=>Q2
 | n+1,c,k=>match c with
  | .seq a b=>match kC key n a (.code b::k) with
   |some r=>Q1 r
   |none=>kC key n b k
  | .cond _ a b=>match kC key n a k with
   |some r=>Q1 r
   |none=>kC key n b k
  |.block id c=>kC key n c (.inBlock id::k)
  |.loop c=>if ej c=key then Q1 (.code c::.inLoop c::k)else kC key n c (.inLoop c::k)
  |.region id _ _=>if id+500000=key then Q1 k else Q2
  |_=>Q2
def ae(f:Func)(key:Nat):List Item:=match f.body with
 |some c=>(kC key 1000 c []).getD []
 |none=>[]
def bt(f:Func):List Item:=match f.body with
 |some c=>[.code c]
 |none=>[]
theorem zcL:VY.P.follows .mixedOrders=true:=kw
def unr:Nat->aN:=λ_=>{unroll:=true}
def fe(E:bX)(f:Func)(ks:List (Option Sh)):ic ks:=λx h=>
 (run E h.length unr f.results.toList 4000 (bt f) (bc f.ntmps (je ks x) h)).bind λ
  |.ret v h'=>.ok (v,h')
  |_=>.err
theorem Tr.sat_of_val{α:Type}{Φ:α->Prop}:∀{t:Tr α}{a:α},t.val=Q1 a->Φ a->t.Sat Φ
 |.err,_,h,_=>by simp at h
 | .chk c t,a,h,ha=>by
  cases c
  ·simp[Tr.val]at h
  ·exact⟨rfl,sat_of_val (t:=t) (by simpa[Tr.val]using h) ha⟩
 | .br c t f,a,h,ha=>by
  cases c
  ·exact⟨λh=>(by cases h),λ_=>sat_of_val (t:=f) (by simpa[Tr.val]using h) ha⟩
  ·exact⟨λ_=>sat_of_val (t:=t) (by simpa[Tr.val]using h) ha,λh=>(by cases h)⟩
 |.ok b,a,h,ha=>by simp[Tr.val]at h;subst h;exact ha
def zJ(P:Program)(k:FuncId)(f:Func)(n:Nat):Prop:=P.funcs[k]?=Q1 f/\(f.name=="runtime.NumGoroutine")=false/\f.body.isNone=false/\decide (n<=f.ntmps)=true
theorem bQ{P:Program}{k:FuncId}{f:Func}{n:Nat}(h:(P.funcs[k]?,f.name=="runtime.NumGoroutine",f.body.isNone,decide (n<=f.ntmps))=(Q1 f,false,false,true)):zJ P k f n:=by
 simp only[cv]at h;exact⟨h.1,h.2.1,h.2.2.1,h.2.2.2⟩
theorem rO:∀(ks:List (Option Sh))(x:zy ks),(je ks x).length=ks.length
 |[],_=>rfl
 |some _::ks,x=>by simp[je,rO ks x.2]
 |none::ks,x=>by simp[je,rO ks x.2]
theorem dq{E:bX}{C:eS}{k:FuncId}{f:Func}{Q:AV->List AO->Prop}{n n0:Nat}(hE:zx E)(hf:zJ E.P k f n)(hC:∀id,n0<=id->C.ρ0 id=Q2)(keep:Nat->aN)(fuel:Nat)
  {todo:List Item} {st:St} (h:(run E n0 keep f.results.toList fuel todo st).Sat (jD E C k Q)):Reach E C k todo st Q:=
 E9 hE hf.1 hC rfl fuel _ _ h
theorem VM{E:bX}{k:FuncId}{f:Func}{Q:AV->List AO->Prop}{args:List AV}{h0:List AO}(hf:zJ E.P k f args.length)
  (h:∀C:eS,(∀id,h0.length<=id->C.ρ0 id=Q2)->Reach E C k (bt f) (bc f.ntmps args h0) Q):UB E k args h0 Q:=by
 obtain⟨h1,h2,h3,h4⟩:=hf;cases hb:f.body with
 |none=>rw[hb]at h3;cases h3
 | some c=>
  refine⟨f,c,h1,hb,h2,ll h4,λC hC=>?_⟩;have:=h C hC;simpa[bt,hb]using this
theorem dt{P:Program}{gl:Nat->AV}{E:bX}{k:FuncId}{f:Func}{ks:List (Option Sh)}{G:ic ks}(hf:zJ E.P k f ks.length)
  (h:∀x h0 res,(G x h0).val=Q1 res->∀C:eS,(∀id,h0.length<=id->C.ρ0 id=Q2)->Reach E C k (bt f) (bc f.ntmps (je ks x) h0) (λr h=>(r,h)=res)) (qp:E.P=P:=by rfl) (qg:E.gl=gl:=by rfl):nX P gl k (bg ks G):=by
 subst qp qg;exact P1 ⟨f,hf.1,hf.2.1,hf.2.2.1⟩ λx h0 res hx=>VM (by rw[rO];exact hf) (h x h0 res hx)
theorem bY{P:Program}{gl:Nat->AV}{E:bX}{k:FuncId}{f:Func}(ks:List (Option Sh))(hE:zx E)(hf:zJ E.P k f ks.length)(qp:E.P=P:=by rfl)(qg:E.gl=gl:=by rfl):nX P gl k (bg ks (fe E f ks)):=by
 subst qp qg;refine dt hf λx h0 res hx C hC=>dq hE hf hC unr 4000 ?_
 unfold fe at hx;simp only[Tr.val_bind,fQ]at hx;obtain⟨l,hl,hres⟩:=hx;refine Tr.sat_of_val hl ?_;cases l with
 |ret v h'=>simp at hres;exact hres
 |head _ _ _=>simp at hres
 |fork _ _ _ _=>simp at hres
def Zv(P:Program)(t:TypeId)(e:Sh):Bool:=match P.info? t with
 |some i=>i.size==e.size&&decide (0<e.size)&&decide (i.bytes<=131072)&&(match i.zero with|some z=>z.cells.size==i.size|none=>false)
 |none=>false
theorem JS{P:Program}{t:TypeId}{e:Sh}(h:Zv P t e=true):∃i z,P.info? t=Q1 i/\i.size=e.size/\0<e.size/\i.bytes<=131072/\i.zero=Q1 z/\z.cells.size=i.size:=by
 unfold Zv at h;split at h
 ·rename_i i hi;simp only[aD,aO,ba]at h;obtain⟨⟨⟨h1,h2⟩,h3⟩,h4⟩:=h;split at h4
  ·rename_i z hz;exact⟨i,z,hi,h1,h2,h3,hz,by simpa using h4⟩
  ·cases h4
 ·cases h
theorem tg:zx VY where
 sh:=by
  intro t e h;have hh:zdi t=Q1 e:=h;unfold zdi at hh;split at hh
  all_goals first
   |(cases hh;exact JS kw)
   |cases hh
 fs:=by intro k F h;cases h
 mix:=zcL
abbrev rn(E:bX)(n:Nat)(kp:Nat->aN)(f:Func)(a:List AV)(h:List AO):Tr zC:=run E n kp (Func.results f).toList 400 (bt f) (bc (Func.ntmps f) a h)
abbrev rh(E:bX)(n:Nat)(kp:Nat->aN)(f:Func)(k:Nat)(s:St):Tr zC:=run E n kp (Func.results f).toList 400 (ae f k) s
def jI(h:List AO):Nat->AO:=λj=>h.getD j .dead
def zjQ(h:List AO)(outs:List Sh):AV->Option (zy (outs.map Q1))
 |.tup rs=>ly (jI h) (λi=>i) (outs.map Q1) rs
 |_=>Q2
def aM(h:List AO):(outs:List Sh)->AV->Option (zy (outs.map Q1))
 | [s],r=>match wU (jI h) s r with
  |some y=>Q1 (y,())
  |none=>Q2
 |[],r=>zjQ h [] r
 |s1::s2::ss,r=>zjQ h (s1::s2::ss) r
def xz:(outs:List Sh)->zy (outs.map Q1)->AV
 |[s],y=>zF s y.1
 |outs,y=>.tup (je (outs.map Q1) y)
theorem o7{hp:Nat->AO}{f:Nat->Nat}:∀(ss:List Sh)(args:List AV)(x:zy (ss.map Q1)),ly hp f (ss.map Q1) args=Q1 x->cq hp (ss.map Q1) args=Q1 ((je (ss.map Q1) x).map λa=>(false,a))
 |[],[],_,_=>rfl
 | s::ss,a::as',x,h=>by
  have h':ly hp f (Q1 s::ss.map Q1) (a::as')=Q1 x:=h;show cq hp (Q1 s::ss.map Q1) (a::as')=_;unfold ly at h';unfold cq;split at h'
  ·rename_i y r hy hr;cases h';rw[hy,o7 ss as' r hr];rfl
  ·cases h'
 |[],_::_,_,h=>by simp[ly]at h
 |_::_,[],_,h=>by simp[ly]at h
theorem Reach.plain{E:bX}{C:eS}{fn:FuncId}{todo:List Item}{st:St}{outs:List Sh}{y:zy (outs.map Q1)}(hC:∀id,C.ρ0 id=Q2)
  (h:Reach E C fn todo st (λr h=>aM h outs r=Q1 y)):Reach E C fn todo st (λr h=>(r,h)=(xz outs y,[])):=by
 intro b cs a w U ρ h1 h2 hc hW;obtain⟨e,w',fr,⟨v,r,h',U',ρ',he,hq,hrv,hH,hnew,hr0,hWd⟩,hcm,hf,hl⟩:=h b cs a w U ρ h1 h2 hc hW;refine⟨e,w',fr,⟨v,_,_,λb=>U' b/\b<C.w0.heap.size/\¬C.B0 b,λ_=>Q2,he,rfl,?_,⟨λid=>?_,λid1 id2 b o=>?_,λid b o=>?_⟩,λ_ _=>rfl,λid v hv=>?_,⟨hWd.ext,hWd.same,λb hb=>hWd.ub b hb.1,λb hb hu=>hWd.u1 b hb hu.1,λb hb hu hn=>⟨hWd.u2 b hb hu hn,hb,hn⟩,λg=>(hWd.gl g).weak λb hb=>hb.1⟩⟩,hcm,hf,hl⟩
 ·have hob:∀id,bx w' U' ρ' id (jI h' id)/\∀b,ag ρ' id (jI h' id) b->¬(U' b/\b<C.w0.heap.size/\¬C.B0 b):=by
   intro id;refine⟨hH.ob id,λb ho hu=>?_⟩;rcases hH.blk id b ho with hB|hB
   ·exact hu.2.2 hB
   ·omega
  have htup:∀(outs:List Sh)(y:zy (outs.map Q1))(rs:List AV),ly (jI h') (λi=>i) (outs.map Q1) rs=Q1 y->Rv w' U' ρ' (.tup rs) v->Rv w' (λb=>U' b/\b<C.w0.heap.size/\¬C.B0 b) (λ_=>Q2) (.tup (je (outs.map Q1) y)) v:=by
   intro outs y rs hy hrv;cases hrv with
   |tup _ vs hl hr=>
   have:=(jv (w:=w') (U:=U') (ρ:=ρ') (U':=λb=>U' b/\b<C.w0.heap.size/\¬C.B0 b) (ρ':=λ_=>Q2) (hp:=jI h') (f:=λi=>i) (λb hb=>hb.1) (outs.map Q1) rs vs _ (o7 outs rs y hy) ⟨hl,hr⟩ (λid _=>hob id)
    (λid hid=>by simp only[fI,List.filter_map,sQ]at hid;rw[List.filter_eq_nil_iff.2 sw]at hid;simp[AV.idsL]at hid)).1
   simp only[oD,sQ,zE,if_false,List.map_id']at this;exact .tup _ vs this.len this.rv
  match outs,y,hq with
  | [s],y,hq=>
   simp only[aM]at hq;split at hq
   ·rename_i x hx;cases hq;exact AA hx hrv (λb hb=>hb.1) (λid _=>hob id)
   ·cases hq
  | [],y,hq=>
   simp only[aM]at hq;cases r with
   |tup rs=>exact htup [] y _ hq hrv
   |_=>cases hq
  | s1::s2::ss,y,hq=>
   simp only[aM]at hq;cases r with
   |tup rs=>exact htup _ y _ hq hrv
   |_=>cases hq
 ·simp[bx]
 ·obtain⟨_,v,hv,_⟩:=o;cases hv
 ·obtain⟨_,v,hv,_⟩:=o;cases hv
 ·rw[hC id]at hv;cases hv
theorem mB{E:bX}{C:eS}{k:FuncId}{f:Func}{Q:AV->List AO->Prop}{n n0:Nat}(hE:zx E)(hf:zJ E.P k f n)(hC:∀id,n0<=id->C.ρ0 id=Q2){keep:Nat->aN}{fuel:Nat}
  {todo:List Item} {st:St} {l:zC} (h:(run E n0 keep f.results.toList fuel todo st).val=Q1 l) (hl:jD E C k Q l):Reach E C k todo st Q:=
 dq hE hf hC keep fuel (Tr.sat_of_val h hl)
def Tp(ks outs:List Sh)(g:zy (ks.map Q1)->Option (zy (outs.map Q1))):ic (ks.map Q1):=λx h=>match h with
 | []=>match g x with
  |some y=>.ok (xz outs y,[])
  |none=>.err
 |_=>.err
def sC(ks outs:List Sh)(g:zy (ks.map Q1)->Option (zy (outs.map Q1))):zY:=bg (ks.map Q1) (Tp ks outs g)
theorem uX{P:Program}{gl:Nat->AV}{E:bX}{k:FuncId}{f:Func}{ks outs:List Sh}{g:zy (ks.map Q1)->Option (zy (outs.map Q1))}(hf:zJ E.P k f ks.length)
  (h:∀x y,g x=Q1 y->∀C:eS,(∀id,C.ρ0 id=Q2)->Reach E C k (bt f) (bc f.ntmps (je (ks.map Q1) x) []) (λr h=>aM h outs r=Q1 y)) (qp:E.P=P:=by rfl) (qg:E.gl=gl:=by rfl):nX P gl k (sC ks outs g):=by
 subst qp qg;refine dt (by simpa using hf) λx h0 res hx C hC=>?_
 unfold Tp at hx;split at hx
 ·split at hx
  ·rename_i y hy;simp only[Tr.val_ok,bz]at hx;subst hx;exact Reach.plain (λid=>hC id (by simp)) (h x y hy C (λid=>hC id (by simp)))
  ·simp at hx
 ·simp at hx
abbrev bX.aut(E:bX)(k:Nat)(f:Func)(n:Nat):bX:=E.add k (bg (List.replicate n Q2) (fe E f (List.replicate n Q2)))
theorem ii{E:bX}{k:Nat}{f:Func}{n:Nat}(hE:zx E)(hf:zJ E.P k f n):zx (E.aut k f n):=
 hE.add (bY _ hE (by simpa using hf))
open Go Go.Proofs
theorem Reach.len{E:bX}{C:eS}{fn:FuncId}{todo:List Item}{st:St}{Q:AV->List AO->Prop}(j:Nat)(e:Sh)(l:List (Sem e))(hj:st.tmps[j]?=Q1 (.sl e l))(h:l.length<=aF->Reach E C fn todo st Q):Reach E C fn todo st Q:=by
 intro b cs a w U ρ h1 h2 hc hW;refine h ?_ b cs a w U ρ h1 h2 hc hW;have hlt:j<a.tmps.toList.length:=by rw[<-hc.tm.len];exact(cZ.1 hj).1
 have:=hc.tm.rv j _ _ hj (zS hlt);generalize a.tmps.toList[j]=v at this;cases this with
 |sl0=>simp
 |sl _ _ _ _ _ _ _ hm=>exact hm
theorem zp(i:Nat)(h:i<aF):IntKind.i64.wrap (↑i+1)=((i+1:Nat):Int):=by
 have:aF=9223372036854775807:=rfl;rw[fR];omega
theorem cA{α:Type}(l:List α)(d:α){i:Nat}(h:i<l.length):l.getD (i:Int).toNat d=l[i]:=by
 simp[h]
def zU{α:Type}(p:α->Bool):List α->Nat->Int
 |[],_=>-1
 |x::r,i=>if p x then i else zU p r (i+1)
def FD:bX:=(VY.aut 188 Tryz.f188 2).aut 286 Tryz.f286 2
theorem oK:zx FD:=by
 refine ii (ii tg ?_) ?_<;>(refine⟨?_,?_,?_,?_⟩<;>kernel_rfl)
abbrev IP:Nat->aN:=λ_=>{slots:=[0,1,7,8]}
theorem S1:zJ FD.P 187 Tryz.f187 2:=bQ kw
abbrev yV(l:List (Sem zj))(s:zB)(i:Int):St:={
    tmps:=
     (tm 19 [(0,sl (Sh.str.pr ((Sh.int IntKind.i64).pr Sh.bool)) l),(1,AV.clo (Fn.func 188) [] [ptr 0 0]),(7,ai ↑l.length),(8,ai i)]),
    heap:=[AO.box [str s]]}
theorem V5(l:List (Sem zj))(s:zB):run FD 1 IP Tryz.f187.results.toList 300 (bt Tryz.f187) (bc Tryz.f187.ntmps [.sl zj l,.clo (.func 188) [] [.ptr 0 0]] [.box [.str s]])=.ok (.head 2 (ae Tryz.f187 2) (yV l s 0)):=kw
theorem WH(l:List (Sem zj))(s:zB)(i:Int):run FD 1 IP Tryz.f187.results.toList 300 (ae Tryz.f187 2) (yV l s i)=
 br (decide (i<↑l.length))
  (chk (zN i l.length)
   (br ((l.getD i.toNat (zi (Sh.str.pr ((Sh.int IntKind.i64).pr Sh.bool)))).1==s)
    (Tr.ok (zC.ret (ai i) [AO.box [str s]]))
    (Tr.ok (zC.head 2 (ae Tryz.f187 2) (yV l s (IntKind.i64.wrap (i+1)))))))
  (Tr.ok (zC.ret (ai (-1)) [AO.box [str s]])):=kw
theorem Mo{C:eS}(hC:∀id,1<=id->C.ρ0 id=Q2)(l:List (Sem zj))(s:zB)(hl:l.length<=aF):∀(n i:Nat),l.length-i=n->i<=l.length->
  Reach FD C 187 (ae Tryz.f187 2) (yV l s i) (λr h=>(r,h)=(.int .i64 (zU (λc=>c.1==s) (l.drop i) i),[.box [.str s]]))
 | n,i,hn,hi=>by
  subst hn;refine dq oK S1 hC IP 300 ?_;rw[WH];refine⟨λh=>⟨?_,λhc=>?_,λhc=>?_⟩,λh=>?_⟩
  ·simp only[aO]at h;simp[zN];omega
  ·simp only[aO]at h;have hlt:i<l.length:=by omega
   rw[cA l _ hlt]at hc;rw[fu hlt];simp only[zU];rw[if_pos hc];rfl
  ·simp only[aO]at h;have hlt:i<l.length:=by omega
   rw[cA l _ hlt]at hc;rw[fu hlt];simp only[zU];rw[if_neg (by rw[hc];simp),zp i ow];exact Mo hC l s hl (l.length-(i+1)) (i+1) rfl ow
  ·simp only[decide_eq_false_iff_not]at h;rw[Aj ow];rfl
 termination_by n=>n
abbrev yW(l:List (Sem zj))(s:zB)(i:Int):St:={
    tmps:=
     (tm 19 [(0,sl (Sh.str.pr ((Sh.int IntKind.i64).pr Sh.bool)) l),(1,AV.clo (Fn.func 286) [] [ptr 0 0]),(7,ai ↑l.length),(8,ai i)]),
    heap:=[AO.box [str s]]}
theorem V6(l:List (Sem zj))(s:zB):run FD 1 IP Tryz.f187.results.toList 300 (bt Tryz.f187) (bc Tryz.f187.ntmps [.sl zj l,.clo (.func 286) [] [.ptr 0 0]] [.box [.str s]])=.ok (.head 2 (ae Tryz.f187 2) (yW l s 0)):=kw
theorem WI(l:List (Sem zj))(s:zB)(i:Int):run FD 1 IP Tryz.f187.results.toList 300 (ae Tryz.f187 2) (yW l s i)=
 br (decide (i<↑l.length))
  (chk (zN i l.length)
   (br ((l.getD i.toNat (zi (Sh.str.pr ((Sh.int IntKind.i64).pr Sh.bool)))).1==s)
    (Tr.ok (zC.ret (ai i) [AO.box [str s]]))
    (Tr.ok (zC.head 2 (ae Tryz.f187 2) (yW l s (IntKind.i64.wrap (i+1)))))))
  (Tr.ok (zC.ret (ai (-1)) [AO.box [str s]])):=kw
theorem Mp{C:eS}(hC:∀id,1<=id->C.ρ0 id=Q2)(l:List (Sem zj))(s:zB)(hl:l.length<=aF):∀(n i:Nat),l.length-i=n->i<=l.length->
  Reach FD C 187 (ae Tryz.f187 2) (yW l s i) (λr h=>(r,h)=(.int .i64 (zU (λc=>c.1==s) (l.drop i) i),[.box [.str s]]))
 | n,i,hn,hi=>by
  subst hn;refine dq oK S1 hC IP 300 ?_;rw[WI];refine⟨λh=>⟨?_,λhc=>?_,λhc=>?_⟩,λh=>?_⟩
  ·simp only[aO]at h;simp[zN];omega
  ·simp only[aO]at h;have hlt:i<l.length:=by omega
   rw[cA l _ hlt]at hc;rw[fu hlt];simp only[zU];rw[if_pos hc];rfl
  ·simp only[aO]at h;have hlt:i<l.length:=by omega
   rw[cA l _ hlt]at hc;rw[fu hlt];simp only[zU];rw[if_neg (by rw[hc];simp),zp i ow];exact Mp hC l s hl (l.length-(i+1)) (i+1) rfl ow
  ·simp only[decide_eq_false_iff_not]at h;rw[Aj ow];rfl
 termination_by n=>n
def G27:ic [Q1 (.sl zj),Q2]:=λx h=>match x,h with
 |(l,.clo (.func 188) [] [.ptr 0 0],_),[.box [.str s]]=>.ok (.int .i64 (zU (λc=>c.1==s) l 0),[.box [.str s]])
 |(l,.clo (.func 286) [] [.ptr 0 0],_),[.box [.str s]]=>.ok (.int .i64 (zU (λc=>c.1==s) l 0),[.box [.str s]])
 |_,_=>.err
theorem zfq:FK 187 (bg [Q1 (.sl zj),Q2] G27):=by
 refine dt S1 λx h0 res hx C hC=>?_
 unfold G27 at hx;split at hx
 ·simp only[Tr.val_ok,bz]at hx;subst hx;rename_i _ _ l u s;refine Reach.len 0 zj l rfl λhl=>?_
  have e:je [Q1 (.sl zj),Q2] (l,.clo (.func 188) [] [.ptr 0 0],u)=[.sl zj l,.clo (.func 188) [] [.ptr 0 0]]:=rfl;rw[e];refine dq (n0:=1) oK S1 hC IP 300 ?_;rw[V5];exact Mo hC l s hl _ 0 rfl ow
 ·simp only[Tr.val_ok,bz]at hx;subst hx;rename_i _ _ l u s;refine Reach.len 0 zj l rfl λhl=>?_
  have e:je [Q1 (.sl zj),Q2] (l,.clo (.func 286) [] [.ptr 0 0],u)=[.sl zj l,.clo (.func 286) [] [.ptr 0 0]]:=rfl;rw[e];refine dq (n0:=1) oK S1 hC IP 300 ?_;rw[V6];exact Mp hC l s hl _ 0 rfl ow
 ·simp at hx
def Rf:bX:=FD.add 187 (bg [Q1 (.sl zj),Q2] G27)
theorem AW:zx Rf:=oK.add zfq
def zgR:bX:=(Rf.add 140 (bg [Q1 zo,Q1 .str] (fe Rf Tryz.f140 [Q1 zo,Q1 .str]))).add 248 (bg [Q1 (.sl zj),Q1 .str] (fe Rf Tryz.f248 [Q1 (.sl zj),Q1 .str]))
theorem Rh:zx zgR:=by
 refine(AW.add (bY _ AW ?_)).add (bY (E:=Rf) _ AW ?_)<;>(refine⟨?_,?_,?_,?_⟩<;>kernel_rfl)
end
end Cad
