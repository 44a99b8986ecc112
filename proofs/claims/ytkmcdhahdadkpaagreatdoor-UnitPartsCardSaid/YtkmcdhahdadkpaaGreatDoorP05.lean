/- The program's environment: shapes, and the way functions are added. Functions from plain data to plain data. Places of columns. -/
import Derived.Test.YtkmcdhahdadkpaaGreatDoorP04
import Derived.Test.YtkmcdhahdadkpaaGreatDoorProg
namespace Cad
open Go
open Option renaming none→Q2,some→Q1
open Tr (chk br)
open AV (nils agg tup ptr kb str sl)
noncomputable section
abbrev zg:Sh:=.int .i64
abbrev zf:Sh:=.pr (.int .i64) (.pr (.int .i64) .str)
abbrev zj:Sh:=.pr .str (.pr (.int .i64) .bool)
abbrev zr:Sh:=.pr (.int .i64) .str
abbrev zo:Sh:=.pr .str (.pr (.sl zj) (.pr (.int .i64) (.pr (.sl (.int .i64)) (.pr (.sl zr) .expr))))
abbrev zh:Sh:=.pr zo (.sl (.sl zf))
def zcF:Nat->Option Sh
 |3=>Q1 (.int .i64)
 |27=>Q1 zf
 |30=>Q1 .expr
 |100=>Q1 zj
 |103=>Q1 zr
 |9=>Q1 .str
 |5=>Q1 (.int .u8)
 |188=>Q1 (.pr (.int .i64) .str)
 |88=>Q1 (.pr .str .str)
 |90=>Q1 (.pr .str .expr)
 |31=>Q1 (.sl zf)
 |52=>Q1 (zh)
 |_=>Q2
abbrev lN:List Int:=[1,10,100,1000,10000,100000,1000000,10000000,100000000,1000000000,10000000000,100000000000,1000000000000,10000000000000,100000000000000,1000000000000000,10000000000000000,100000000000000000,1000000000000000000,10000000000000000000]
def Oj:Nat->AV
 |0=>.gint
 |1=>.eptr [.str [73,78,84],.str [84,69,88,84],.str [66,79,79,76]] 0
 |5=>.tab .u64 lN
 |_=>.any
abbrev FK(k:FuncId)(F:zX):Prop:=nV Go.Proofs.Tryz.prog Oj k F
def Vs:bX:={P:=Go.Proofs.Tryz.prog,sh:=zcF,gl:=Oj,F:=λ_=>Q2}
def bX.add(E:bX)(k:FuncId)(F:zX):bX:={E with F:=λj=>if j=k then Q1 F else E.F j}
theorem zw.add{E:bX}{k:FuncId}{F:zX}(h:zw E)(hk:nV E.P E.gl k F):zw (E.add k F) where
 sh:=h.sh
 fs:=λj F' hj=>by
  simp only[bX.add]at hj;split at hj
  ·rename_i e;cases hj;rw[e];exact hk
  ·exact h.fs j F' hj
 mix:=h.mix
def Mz:List (Nat×zX)->Nat->Option zX->Option zX
 |[],_,d=>d
 |p::r,j,d=>if j=p.1 then Q1 p.2 else Mz r j d
def bX.addL(E:bX)(l:List (Nat×zX)):bX:={E with F:=λj=>Mz l j (E.F j)}
def Px(P:Program)(gl:Nat->AV):List (Nat×zX)->Prop
 |[]=>True
 |p::r=>nV P gl p.1 p.2/\Px P gl r
theorem jm{P:Program}{gl:Nat->AV}:Px P gl []:=trivial
theorem fc{P:Program}{gl:Nat->AV}{k:Nat}{F:zX}{r:List (Nat×zX)}(h:nV P gl k F)(t:Px P gl r):Px P gl ((k,F)::r):=⟨h,t⟩
theorem zw.addL{E:bX}(h:zw E){l:List (Nat×zX)}(hl:Px E.P E.gl l):zw (E.addL l) where
 sh:=h.sh
 fs:=by
  intro k F;show Mz l k (E.F k)=Q1 F->nV E.P E.gl k F
  induction l with
  |nil=>exact h.fs k F
  | cons p r ih=>
   intro hk;rw[Mz]at hk;split at hk
   ·rename_i e;cases hk;rw[e];exact hl.1
   ·exact ih hl.2 hk
 mix:=h.mix
def ky(key:Nat):Nat->Code->List Item->Option (List Item)
 |0,_,_=>Q2
 | n+1,c,k=>match c with
  | .seq a b=>match ky key n a (.code b::k) with
   |some r=>Q1 r
   |none=>ky key n b k
  | .cond _ a b=>match ky key n a k with
   |some r=>Q1 r
   |none=>ky key n b k
  |.block id c=>ky key n c (.inBlock id::k)
  |.loop c=>if ee c=key then Q1 (.code c::.inLoop c::k)else ky key n c (.inLoop c::k)
  |.region id _ _=>if id+500000=key then Q1 k else Q2
  |_=>Q2
def ac(f:Func)(key:Nat):List Item:=match f.body with
 |some c=>(ky key 1000 c []).getD []
 |none=>[]
def bw(f:Func):List Item:=match f.body with
 |some c=>[.code c]
 |none=>[]
theorem zb8:Vs.P.follows .mixedOrders=true:=kw
def unr:Nat->aM:=λ_=>{unroll:=true}
def fN(E:bX)(f:Func)(ks:List (Option Sh)):iw ks:=λx h=>
 (run E h.length unr f.results.toList 4000 (bw f) (be f.ntmps (iW ks x) h)).bind λ
  |.ret v h'=>.ok (v,h')
  |_=>.err
theorem Tr.sat_of_val{α:Type}{Φ:α->Prop}:∀{t:Tr α}{a:α},t.val=Q1 a->Φ a->t.Sat Φ
 |.err,_,h,_=>by simp at h
 | .chk c t,a,h,ha=>by
  cases c
  ·simp[Tr.val]at h
  ·exact⟨rfl,sat_of_val (t:=t) (by simpa[Tr.val]using h) ha⟩
 | .br c t f,a,h,ha=>by
  cases c
  ·exact⟨λh=>(by cases h),λ_=>sat_of_val (t:=f) (by simpa[Tr.val]using h) ha⟩
  ·exact⟨λ_=>sat_of_val (t:=t) (by simpa[Tr.val]using h) ha,λh=>(by cases h)⟩
 |.ok b,a,h,ha=>by simp[Tr.val]at h;subst h;exact ha
def zI(P:Program)(k:FuncId)(f:Func)(n:Nat):Prop:=P.funcs[k]?=Q1 f/\(f.name=="runtime.NumGoroutine")=false/\f.body.isNone=false/\decide (n<=f.ntmps)=true
theorem bU{P:Program}{k:FuncId}{f:Func}{n:Nat}(h:(P.funcs[k]?,f.name=="runtime.NumGoroutine",f.body.isNone,decide (n<=f.ntmps))=(Q1 f,false,false,true)):zI P k f n:=by
 simp only[cr]at h;exact⟨h.1,h.2.1,h.2.2.1,h.2.2.2⟩
theorem rK:∀(ks:List (Option Sh))(x:zy ks),(iW ks x).length=ks.length
 |[],_=>rfl
 |some _::ks,x=>by simp[iW,rK ks x.2]
 |none::ks,x=>by simp[iW,rK ks x.2]
theorem dn{E:bX}{C:eP}{k:FuncId}{f:Func}{Q:AV->List AO->Prop}{n n0:Nat}(hE:zw E)(hf:zI E.P k f n)(hC:∀id,n0<=id->C.ρ0 id=Q2)(keep:Nat->aM)(fuel:Nat)
  {todo:List Item} {st:St} (h:(run E n0 keep f.results.toList fuel todo st).Sat (jz E C k Q)):Reach E C k todo st Q:=
 E4 hE hf.1 hC rfl fuel _ _ h
theorem Vg{E:bX}{k:FuncId}{f:Func}{Q:AV->List AO->Prop}{args:List AV}{h0:List AO}(hf:zI E.P k f args.length)
  (h:∀C:eP,(∀id,h0.length<=id->C.ρ0 id=Q2)->Reach E C k (bw f) (be f.ntmps args h0) Q):T5 E k args h0 Q:=by
 obtain⟨h1,h2,h3,h4⟩:=hf;cases hb:f.body with
 |none=>rw[hb]at h3;cases h3
 | some c=>
  refine⟨f,c,h1,hb,h2,lg h4,λC hC=>?_⟩;have:=h C hC;simpa[bw,hb]using this
theorem dH{P:Program}{gl:Nat->AV}{E:bX}{k:FuncId}{f:Func}{ks:List (Option Sh)}{G:iw ks}(hf:zI E.P k f ks.length)
  (h:∀x h0 res,(G x h0).val=Q1 res->∀C:eP,(∀id,h0.length<=id->C.ρ0 id=Q2)->Reach E C k (bw f) (be f.ntmps (iW ks x) h0) (λr h=>(r,h)=res)) (qp:E.P=P:=by rfl) (qg:E.gl=gl:=by rfl):nV P gl k (bm ks G):=by
 subst qp qg;exact PA ⟨f,hf.1,hf.2.1,hf.2.2.1⟩ λx h0 res hx=>Vg (by rw[rK];exact hf) (h x h0 res hx)
theorem cw{P:Program}{gl:Nat->AV}{E:bX}{k:FuncId}{f:Func}(ks:List (Option Sh))(hE:zw E)(hf:zI E.P k f ks.length)(qp:E.P=P:=by rfl)(qg:E.gl=gl:=by rfl):nV P gl k (bm ks (fN E f ks)):=by
 subst qp qg;refine dH hf λx h0 res hx C hC=>dn hE hf hC unr 4000 ?_
 unfold fN at hx;simp only[Tr.val_bind,fL]at hx;obtain⟨l,hl,hres⟩:=hx;refine Tr.sat_of_val hl ?_;cases l with
 |ret v h'=>simp at hres;exact hres
 |head _ _ _=>simp at hres
 |fork _ _ _ _=>simp at hres
def Y1(P:Program)(t:TypeId)(e:Sh):Bool:=match P.info? t with
 |some i=>i.size==e.size&&decide (0<e.size)&&decide (i.bytes<=131072)&&(match i.zero with|some z=>z.cells.size==i.size|none=>false)
 |none=>false
theorem JI{P:Program}{t:TypeId}{e:Sh}(h:Y1 P t e=true):∃i z,P.info? t=Q1 i/\i.size=e.size/\0<e.size/\i.bytes<=131072/\i.zero=Q1 z/\z.cells.size=i.size:=by
 unfold Y1 at h;split at h
 ·rename_i i hi;simp only[aD,aP,aZ]at h;obtain⟨⟨⟨h1,h2⟩,h3⟩,h4⟩:=h;split at h4
  ·rename_i z hz;exact⟨i,z,hi,h1,h2,h3,hz,by simpa using h4⟩
  ·cases h4
 ·cases h
theorem td:zw Vs where
 sh:=by
  intro t e h;have hh:zcF t=Q1 e:=h;unfold zcF at hh;split at hh
  all_goals first
   |(cases hh;exact JI kw)
   |cases hh
 fs:=by intro k F h;cases h
 mix:=zb8
abbrev rn(E:bX)(n:Nat)(kp:Nat->aM)(f:Func)(a:List AV)(h:List AO):Tr zC:=run E n kp (Func.results f).toList 400 (bw f) (be (Func.ntmps f) a h)
abbrev rh(E:bX)(n:Nat)(kp:Nat->aM)(f:Func)(k:Nat)(s:St):Tr zC:=run E n kp (Func.results f).toList 400 (ac f k) s
def jE(h:List AO):Nat->AO:=λj=>h.getD j .dead
def ziW(h:List AO)(outs:List Sh):AV->Option (zy (outs.map Q1))
 |.tup rs=>lx (jE h) (λi=>i) (outs.map Q1) rs
 |_=>Q2
def aL(h:List AO):(outs:List Sh)->AV->Option (zy (outs.map Q1))
 | [s],r=>match wP (jE h) s r with
  |some y=>Q1 (y,())
  |none=>Q2
 |[],r=>ziW h [] r
 |s1::s2::ss,r=>ziW h (s1::s2::ss) r
def xu:(outs:List Sh)->zy (outs.map Q1)->AV
 |[s],y=>zE s y.1
 |outs,y=>.tup (iW (outs.map Q1) y)
theorem oZ{hp:Nat->AO}{f:Nat->Nat}:∀(ss:List Sh)(args:List AV)(x:zy (ss.map Q1)),lx hp f (ss.map Q1) args=Q1 x->cm hp (ss.map Q1) args=Q1 ((iW (ss.map Q1) x).map λa=>(false,a))
 |[],[],_,_=>rfl
 | s::ss,a::as',x,h=>by
  have h':lx hp f (Q1 s::ss.map Q1) (a::as')=Q1 x:=h;show cm hp (Q1 s::ss.map Q1) (a::as')=_;unfold lx at h';unfold cm;split at h'
  ·rename_i y r hy hr;cases h';rw[hy,oZ ss as' r hr];rfl
  ·cases h'
 |[],_::_,_,h=>by simp[lx]at h
 |_::_,[],_,h=>by simp[lx]at h
theorem Reach.plain{E:bX}{C:eP}{fn:FuncId}{todo:List Item}{st:St}{outs:List Sh}{y:zy (outs.map Q1)}(hC:∀id,C.ρ0 id=Q2)
  (h:Reach E C fn todo st (λr h=>aL h outs r=Q1 y)):Reach E C fn todo st (λr h=>(r,h)=(xu outs y,[])):=by
 intro b cs a w U ρ h1 h2 hc hW;obtain⟨e,w',fr,⟨v,r,h',U',ρ',he,hq,hrv,hH,hnew,hr0,hWd⟩,hcm,hf,hl⟩:=h b cs a w U ρ h1 h2 hc hW;refine⟨e,w',fr,⟨v,_,_,λb=>U' b/\b<C.w0.heap.size/\¬C.B0 b,λ_=>Q2,he,rfl,?_,⟨λid=>?_,λid1 id2 b o=>?_,λid b o=>?_⟩,λ_ _=>rfl,λid v hv=>?_,⟨hWd.ext,hWd.same,λb hb=>hWd.ub b hb.1,λb hb hu=>hWd.u1 b hb hu.1,λb hb hu hn=>⟨hWd.u2 b hb hu hn,hb,hn⟩,λg=>(hWd.gl g).weak λb hb=>hb.1⟩⟩,hcm,hf,hl⟩
 ·have hob:∀id,bx w' U' ρ' id (jE h' id)/\∀b,ag ρ' id (jE h' id) b->¬(U' b/\b<C.w0.heap.size/\¬C.B0 b):=by
   intro id;refine⟨hH.ob id,λb ho hu=>?_⟩;rcases hH.blk id b ho with hB|hB
   ·exact hu.2.2 hB
   ·omega
  have htup:∀(outs:List Sh)(y:zy (outs.map Q1))(rs:List AV),lx (jE h') (λi=>i) (outs.map Q1) rs=Q1 y->Rv w' U' ρ' (.tup rs) v->Rv w' (λb=>U' b/\b<C.w0.heap.size/\¬C.B0 b) (λ_=>Q2) (.tup (iW (outs.map Q1) y)) v:=by
   intro outs y rs hy hrv;cases hrv with
   |tup _ vs hl hr=>
   have:=(jp (w:=w') (U:=U') (ρ:=ρ') (U':=λb=>U' b/\b<C.w0.heap.size/\¬C.B0 b) (ρ':=λ_=>Q2) (hp:=jE h') (f:=λi=>i) (λb hb=>hb.1) (outs.map Q1) rs vs _ (oZ outs rs y hy) ⟨hl,hr⟩ (λid _=>hob id)
    (λid hid=>by simp only[fD,List.filter_map,sM]at hid;rw[List.filter_eq_nil_iff.2 sw]at hid;simp[AV.idsL]at hid)).1
   simp only[oz,sM,zG,if_false,List.map_id']at this;exact .tup _ vs this.len this.rv
  match outs,y,hq with
  | [s],y,hq=>
   simp only[aL]at hq;split at hq
   ·rename_i x hx;cases hq;exact Ar hx hrv (λb hb=>hb.1) (λid _=>hob id)
   ·cases hq
  | [],y,hq=>
   simp only[aL]at hq;cases r with
   |tup rs=>exact htup [] y _ hq hrv
   |_=>cases hq
  | s1::s2::ss,y,hq=>
   simp only[aL]at hq;cases r with
   |tup rs=>exact htup _ y _ hq hrv
   |_=>cases hq
 ·simp[bx]
 ·obtain⟨_,v,hv,_⟩:=o;cases hv
 ·obtain⟨_,v,hv,_⟩:=o;cases hv
 ·rw[hC id]at hv;cases hv
theorem mB{E:bX}{C:eP}{k:FuncId}{f:Func}{Q:AV->List AO->Prop}{n n0:Nat}(hE:zw E)(hf:zI E.P k f n)(hC:∀id,n0<=id->C.ρ0 id=Q2){keep:Nat->aM}{fuel:Nat}
  {todo:List Item} {st:St} {l:zC} (h:(run E n0 keep f.results.toList fuel todo st).val=Q1 l) (hl:jz E C k Q l):Reach E C k todo st Q:=
 dn hE hf hC keep fuel (Tr.sat_of_val h hl)
def SY(ks outs:List Sh)(g:zy (ks.map Q1)->Option (zy (outs.map Q1))):iw (ks.map Q1):=λx h=>match h with
 | []=>match g x with
  |some y=>.ok (xu outs y,[])
  |none=>.err
 |_=>.err
def sy(ks outs:List Sh)(g:zy (ks.map Q1)->Option (zy (outs.map Q1))):zX:=bm (ks.map Q1) (SY ks outs g)
theorem uT{P:Program}{gl:Nat->AV}{E:bX}{k:FuncId}{f:Func}{ks outs:List Sh}{g:zy (ks.map Q1)->Option (zy (outs.map Q1))}(hf:zI E.P k f ks.length)
  (h:∀x y,g x=Q1 y->∀C:eP,(∀id,C.ρ0 id=Q2)->Reach E C k (bw f) (be f.ntmps (iW (ks.map Q1) x) []) (λr h=>aL h outs r=Q1 y)) (qp:E.P=P:=by rfl) (qg:E.gl=gl:=by rfl):nV P gl k (sy ks outs g):=by
 subst qp qg;refine dH (by simpa using hf) λx h0 res hx C hC=>?_
 unfold SY at hx;split at hx
 ·split at hx
  ·rename_i y hy;simp only[Tr.val_ok,bB]at hx;subst hx;exact Reach.plain (λid=>hC id (by simp)) (h x y hy C (λid=>hC id (by simp)))
  ·simp at hx
 ·simp at hx
abbrev bX.aut(E:bX)(k:Nat)(f:Func)(n:Nat):bX:=E.add k (bm (List.replicate n Q2) (fN E f (List.replicate n Q2)))
theorem g6{E:bX}{k:Nat}{f:Func}{n:Nat}(hE:zw E)(hf:zI E.P k f n):zw (E.aut k f n):=
 hE.add (cw _ hE (by simpa using hf))
open Go Go.Proofs
theorem Reach.len{E:bX}{C:eP}{fn:FuncId}{todo:List Item}{st:St}{Q:AV->List AO->Prop}(j:Nat)(e:Sh)(l:List (Sem e))(hj:st.tmps[j]?=Q1 (.sl e l))(h:l.length<=aE->Reach E C fn todo st Q):Reach E C fn todo st Q:=by
 intro b cs a w U ρ h1 h2 hc hW;refine h ?_ b cs a w U ρ h1 h2 hc hW;have hlt:j<a.tmps.toList.length:=by rw[<-hc.tm.len];exact(cW.1 hj).1
 have:=hc.tm.rv j _ _ hj (zR hlt);generalize a.tmps.toList[j]=v at this;cases this with
 |sl0=>simp
 |sl _ _ _ _ _ _ _ hm=>exact hm
theorem zp(i:Nat)(h:i<aE):IntKind.i64.wrap (↑i+1)=((i+1:Nat):Int):=by
 have:aE=9223372036854775807:=rfl;rw[fM];omega
theorem cA{α:Type}(l:List α)(d:α){i:Nat}(h:i<l.length):l.getD (i:Int).toNat d=l[i]:=by
 simp[h]
def ae{α:Type}(p:α->Bool):List α->Nat->Int
 |[],_=>-1
 |x::r,i=>if p x then i else ae p r (i+1)
def Fw:bX:=(Vs.aut 188 Tryz.f188 2).aut 286 Tryz.f286 2
theorem oG:zw Fw:=by
 refine g6 (g6 td ?_) ?_<;>(refine⟨?_,?_,?_,?_⟩<;>kernel_rfl)
abbrev IC:Nat->aM:=λ_=>{slots:=[0,1,7,8]}
theorem SA:zI Fw.P 187 Tryz.f187 2:=bU kw
abbrev yM(l:List (Sem zj))(s:zB)(i:Int):St:={
    tmps:=
     (tm 19 [(0,sl (Sh.str.pr ((Sh.int IntKind.i64).pr Sh.bool)) l),(1,AV.clo (Fn.func 188) [] [ptr 0 0]),(7,ai ↑l.length),(8,ai i)]),
    heap:=[AO.box [str s]]}
theorem Vz(l:List (Sem zj))(s:zB):run Fw 1 IC Tryz.f187.results.toList 300 (bw Tryz.f187) (be Tryz.f187.ntmps [.sl zj l,.clo (.func 188) [] [.ptr 0 0]] [.box [.str s]])=.ok (.head 2 (ac Tryz.f187 2) (yM l s 0)):=kw
theorem Wa(l:List (Sem zj))(s:zB)(i:Int):run Fw 1 IC Tryz.f187.results.toList 300 (ac Tryz.f187 2) (yM l s i)=
 br (decide (i<↑l.length))
  (chk (zM i l.length)
   (br ((l.getD i.toNat (zi (Sh.str.pr ((Sh.int IntKind.i64).pr Sh.bool)))).1==s)
    (Tr.ok (zC.ret (ai i) [AO.box [str s]]))
    (Tr.ok (zC.head 2 (ac Tryz.f187 2) (yM l s (IntKind.i64.wrap (i+1)))))))
  (Tr.ok (zC.ret (ai (-1)) [AO.box [str s]])):=kw
theorem L9{C:eP}(hC:∀id,1<=id->C.ρ0 id=Q2)(l:List (Sem zj))(s:zB)(hl:l.length<=aE):∀(n i:Nat),l.length-i=n->i<=l.length->
  Reach Fw C 187 (ac Tryz.f187 2) (yM l s i) (λr h=>(r,h)=(.int .i64 (ae (λc=>c.1==s) (l.drop i) i),[.box [.str s]]))
 | n,i,hn,hi=>by
  subst hn;refine dn oG SA hC IC 300 ?_;rw[Wa];refine⟨λh=>⟨?_,λhc=>?_,λhc=>?_⟩,λh=>?_⟩
  ·simp only[aP]at h;simp[zM];omega
  ·simp only[aP]at h;have hlt:i<l.length:=by omega
   rw[cA l _ hlt]at hc;rw[fk hlt];simp only[ae];rw[if_pos hc];rfl
  ·simp only[aP]at h;have hlt:i<l.length:=by omega
   rw[cA l _ hlt]at hc;rw[fk hlt];simp only[ae];rw[if_neg (by rw[hc];simp),zp i ow];exact L9 hC l s hl (l.length-(i+1)) (i+1) rfl ow
  ·simp only[decide_eq_false_iff_not]at h;rw[Aa ow];rfl
 termination_by n=>n
abbrev yN(l:List (Sem zj))(s:zB)(i:Int):St:={
    tmps:=
     (tm 19 [(0,sl (Sh.str.pr ((Sh.int IntKind.i64).pr Sh.bool)) l),(1,AV.clo (Fn.func 286) [] [ptr 0 0]),(7,ai ↑l.length),(8,ai i)]),
    heap:=[AO.box [str s]]}
theorem VA(l:List (Sem zj))(s:zB):run Fw 1 IC Tryz.f187.results.toList 300 (bw Tryz.f187) (be Tryz.f187.ntmps [.sl zj l,.clo (.func 286) [] [.ptr 0 0]] [.box [.str s]])=.ok (.head 2 (ac Tryz.f187 2) (yN l s 0)):=kw
theorem Wb(l:List (Sem zj))(s:zB)(i:Int):run Fw 1 IC Tryz.f187.results.toList 300 (ac Tryz.f187 2) (yN l s i)=
 br (decide (i<↑l.length))
  (chk (zM i l.length)
   (br ((l.getD i.toNat (zi (Sh.str.pr ((Sh.int IntKind.i64).pr Sh.bool)))).1==s)
    (Tr.ok (zC.ret (ai i) [AO.box [str s]]))
    (Tr.ok (zC.head 2 (ac Tryz.f187 2) (yN l s (IntKind.i64.wrap (i+1)))))))
  (Tr.ok (zC.ret (ai (-1)) [AO.box [str s]])):=kw
theorem Ma{C:eP}(hC:∀id,1<=id->C.ρ0 id=Q2)(l:List (Sem zj))(s:zB)(hl:l.length<=aE):∀(n i:Nat),l.length-i=n->i<=l.length->
  Reach Fw C 187 (ac Tryz.f187 2) (yN l s i) (λr h=>(r,h)=(.int .i64 (ae (λc=>c.1==s) (l.drop i) i),[.box [.str s]]))
 | n,i,hn,hi=>by
  subst hn;refine dn oG SA hC IC 300 ?_;rw[Wb];refine⟨λh=>⟨?_,λhc=>?_,λhc=>?_⟩,λh=>?_⟩
  ·simp only[aP]at h;simp[zM];omega
  ·simp only[aP]at h;have hlt:i<l.length:=by omega
   rw[cA l _ hlt]at hc;rw[fk hlt];simp only[ae];rw[if_pos hc];rfl
  ·simp only[aP]at h;have hlt:i<l.length:=by omega
   rw[cA l _ hlt]at hc;rw[fk hlt];simp only[ae];rw[if_neg (by rw[hc];simp),zp i ow];exact Ma hC l s hl (l.length-(i+1)) (i+1) rfl ow
  ·simp only[decide_eq_false_iff_not]at h;rw[Aa ow];rfl
 termination_by n=>n
def G27:iw [Q1 (.sl zj),Q2]:=λx h=>match x,h with
 |(l,.clo (.func 188) [] [.ptr 0 0],_),[.box [.str s]]=>.ok (.int .i64 (ae (λc=>c.1==s) l 0),[.box [.str s]])
 |(l,.clo (.func 286) [] [.ptr 0 0],_),[.box [.str s]]=>.ok (.int .i64 (ae (λc=>c.1==s) l 0),[.box [.str s]])
 |_,_=>.err
theorem zeB:FK 187 (bm [Q1 (.sl zj),Q2] G27):=by
 refine dH SA λx h0 res hx C hC=>?_
 unfold G27 at hx;split at hx
 ·simp only[Tr.val_ok,bB]at hx;subst hx;rename_i _ _ l u s;refine Reach.len 0 zj l rfl λhl=>?_
  have e:iW [Q1 (.sl zj),Q2] (l,.clo (.func 188) [] [.ptr 0 0],u)=[.sl zj l,.clo (.func 188) [] [.ptr 0 0]]:=rfl;rw[e];refine dn (n0:=1) oG SA hC IC 300 ?_;rw[Vz];exact L9 hC l s hl _ 0 rfl ow
 ·simp only[Tr.val_ok,bB]at hx;subst hx;rename_i _ _ l u s;refine Reach.len 0 zj l rfl λhl=>?_
  have e:iW [Q1 (.sl zj),Q2] (l,.clo (.func 286) [] [.ptr 0 0],u)=[.sl zj l,.clo (.func 286) [] [.ptr 0 0]]:=rfl;rw[e];refine dn (n0:=1) oG SA hC IC 300 ?_;rw[VA];exact Ma hC l s hl _ 0 rfl ow
 ·simp at hx
def QG:bX:=Fw.add 187 (bm [Q1 (.sl zj),Q2] G27)
theorem AL:zw QG:=oG.add zeB
def zf1:bX:=(QG.add 140 (bm [Q1 zo,Q1 .str] (fN QG Tryz.f140 [Q1 zo,Q1 .str]))).add 248 (bm [Q1 (.sl zj),Q1 .str] (fN QG Tryz.f248 [Q1 (.sl zj),Q1 .str]))
theorem QI:zw zf1:=by
 refine(AL.add (cw _ AL ?_)).add (cw (E:=QG) _ AL ?_)<;>(refine⟨?_,?_,?_,?_⟩<;>kernel_rfl)
end
end Cad
