/- Words, names, runs of octets. -/
import Derived.Test.YtjdjldbhjmgmkaaGreatDoorK07
import Derived.RegionTactic
import Derived.RegionCalls
import Derived.Deep.RegionWith
import Derived.StillTailTactics
import Derived.RangeFuncBox
import Derived.RangeFuncNested
import Derived.RangeFuncBound
import Derived.RangeFuncCalls
import Derived.RangeFuncLeaves
import Derived.Shelf.Abstract
import Derived.OwnWalkIn
import Derived.TacticsInMore
import Derived.LoopNIn
import Derived.LoopIn
import Derived.Maps.AppendAt
namespace Cad
open Go Go.Proofs
open List renaming length→Io
open IntKind renaming wrap→Γ,i64→Δ
open AV renaming agg→Qd
open Tr renaming val→Q8
open Sh renaming bool→Q7,str→Q6
open Bool renaming false→Q4,true→Q3
open Option renaming none→Q2,some→Q1
open Decidable renaming decide→Q0
open Tr (chk br)
open AV (nils agg tup ptr kb str sl)
noncomputable section
def swT{β:Type}(l:β->zQ)(s:zH):List (zH×β)->β->Tr zQ
 |[],d=>.ok (l d)
 |(w,b)::r,d=>.br (s==w) (.ok (l b)) (swT l s r d)
def SD{β:Type}(s:zH):List (zH×β)->β->β
 |[],d=>d
 |(w,b)::r,d=>if s==w then b else SD s r d
theorem Kd{β:Type}{x:β->zQ}{s:zH}{d:β}{Φ:zQ->Prop}:∀(l:List (zH×β)),Φ (x (SD s l d))->(swT x s l d).Sat Φ
 |[],h=>h
 | (w,b)::r,h=>by
  refine⟨λa=>?_,λa=>Kd r ?_⟩
  .simp only[SD]at h;rw[ze a]at h;exact h
  .simp only[SD]at h;rw[zg (by rw[a];simp)]at h;exact h
def Ff:List (zH×Bool):=[(VN,Q3),([79,82],Q3),([78,79,84],Q3),([73,83],Q3),(Ft,Q3),(Ik,Q3),(Ij,Q3),(zb7,Q3),(zcj,Q3),(Cc,Q3),(Cd,Q3),(Cb,Q3),([75,69,89],Q3),([85,78,73,81,85,69],Q3),(zpx,Q3),(iq,Q3),(zcb,Q3),(zcd,Q3),(zce,Q3),(zcl,Q3),(zck,Q3),([83,69,84],Q3),(ma,Q3),(zb9,Q3),(uF,Q3),(zci,Q3),(zcc,Q3),(Ti,Q3),([87,82,73,84,69],Q3),(Fu,Q3),([84,79],Q3),(zcg,Q3),(zcf,Q3),(Tf,Q3),(Th,Q3),(Tg,Q3),(Fs,Q3),(Fv,Q3)]
def Aq:List (zH×Int):=[(ot,0),(eK,0),(ng,1),(pk,1),(ir,2),(uG,2),([61],2),([60],2),([43],2),([45],2)]
def jw(s:zH):Bool:=SD s Ff Q4
def dm(s:zH):Int:=SD s Aq (-1)
def au(c:Int):Bool:=bif Q0 (c>=48)then Q0 (c<=57)else Q4
def bc(c:Int):Bool:=bif Q0 (c>=97)then
  bif Q0 (c<=122)then Q3 else bif Q0 (c>=65)then Q0 (c<=90)else Q4
 else bif Q0 (c>=65)then Q0 (c<=90)else Q4
def bS(c:Int):Bool:=bif bc c then Q3 else bif au c then Q3 else c==95
def tM:cd:=(((zpX.aut 308 Tryz.f308 1).aut 309 Tryz.f309 1).aut 307 Tryz.f307 1).aut 269 Tryz.f269 0
theorem nj:zu tM:=by refine iA (iA (iA (iA WA ?_) ?_) ?_) ?_<;>(refine⟨?_,?_,?_,?_⟩<;>kernel_rfl)
theorem zuL(s:zH):run tM 0 (λ_=>{}) Tryz.f174.results.toList 400 (bq Tryz.f174) (aY Tryz.f174.ntmps [.str s] [])=swT (λb=>.ret (.kb b) []) s Ff Q4:=kw
theorem zr6:zM tM.P 174 Tryz.f174 1:=bL kw
theorem zoi:FK 174 (ud [.str] [.bool] λx=>Q1 (jw x.1,())):=by
 refine wM zr6 λx y a C h=>?_
 cases a;refine dQ (n0:=0) nj zr6 (λid _=>h id) (λ_=>{}) 400 ?_;have e:iV ([Q6].map Q1) x=[.str x.1]:=rfl;rw[e,zuL];exact Kd Ff rfl
theorem zu8(s:zH):run tM 0 (λ_=>{}) Tryz.f272.results.toList 400 (bq Tryz.f272) (aY Tryz.f272.ntmps [.str s] [])=swT (λb=>.ret (.int .i64 b) []) s Aq (-1):=kw
theorem zsu:zM tM.P 272 Tryz.f272 1:=bL kw
theorem zoG:FK 272 (ud [.str] [zj] λx=>Q1 (dm x.1,())):=by
 refine wM zsu λx y a C h=>?_
 cases a;refine dQ (n0:=0) nj zsu (λid _=>h id) (λ_=>{}) 400 ?_;have e:iV ([Q6].map Q1) x=[.str x.1]:=rfl;rw[e,zu8];exact Kd Aq rfl
def cY(p:Int->Bool):zH->Nat
 |[]=>0
 |c::r=>if p c.toNat then cY p r+1 else 0
def bv(f m:Int->Bool):zH->Nat
 |[]=>0
 |c::r=>if f c.toNat then cY m r+1 else 0
variable {E:cd}{C:ew}{t:List Item}{s:St}{Q:AV->List AO->Prop}
theorem Reach.strLen{fn:FuncId}(j:Nat)(x:zH)(e:s.tmps[j]?=Q1 (.str x))(h:Io x<=aJ->Reach E C fn t s Q):Reach E C fn t s Q:=by
 intro b g a w U ρ i k c l;refine h ?_ b g a w U ρ i k c l;have d:j<a.tmps.toList.length:=by rw[<-c.tm.len];exact(cR.1 e).1
 have:=c.tm.rv j _ _ e (zZ d);generalize a.tmps.toList[j]=v at this;cases this with
 |str _ h=>exact h
abbrev Mp:Nat->aT:=λ_=>{slots:=[1,2,5]}
abbrev P1(a b c d:AV)(s:zH)(n:Int):St:={
 tmps:=(tm 31 [(1,str s),(2,ptr 0 0),(5,ai n)]),
 heap:=[AO.box [a,b,c,d]]}
abbrev zl6(a b c d:AV)(p:Int->Bool)(s:zH)(n:Int):Tr zQ:=
 chk (cond (Q0 (n<↑(Io s))) (zK n (Io s)) Q3)
  (br (cond (Q0 (n<↑(Io s))) (p ↑(List.getD s n.toNat 0).toNat) Q4)
   (Tr.ok (zQ.head 4 (aa Tryz.f270 4) (P1 a b c d s (Γ Δ (n+1)))))
   (Tr.ok (zQ.ret (ai n) [])))
theorem zdl:zM tM.P 270 Tryz.f270 2:=bL kw
theorem zjf{C:ew}(j:∀id,0<=id->C.ρ0 id=Q2)(a b c d:AV)(p:Int->Bool)(s:zH)
  (e:∀n,run tM 0 Mp Tryz.f270.results.toList 300 (aa Tryz.f270 4) (P1 a b c d s n)=zl6 a b c d p s n) (o:Io s<=aJ):∀(k i:Nat),Io s-i=k->i<=Io s->
  Reach tM C 270 (aa Tryz.f270 4) (P1 a b c d s i) (λr h=>(r,h)=(.int .i64 ((i+cY p (s.drop i):Nat):Int),[]))
 | k,i,m,q=>by
  subst m;refine dQ nj zdl j Mp 300 ?_;rw[e];refine⟨?_,λh=>?_,λh=>?_⟩
  .by_cases x:i<Io s
   .have:Q0 ((i:Int)<Io s)=Q3:=by simpa using x
    simp[zK,x]
   .have:Q0 ((i:Int)<Io s)=Q4:=by simpa using x
    simp[x]
  .have x:i<Io s:=by
    by_cases x:i<Io s
    .exact x
    .have:Q0 ((i:Int)<Io s)=Q4:=by simpa using x
     rw[this]at h;cases h
   have g:Q0 ((i:Int)<Io s)=Q3:=by simpa using x
   rw[g,cP s _ x,ax]at h;rw[fO x];simp only[cY];rw[ze h,zt i ow,show i+(cY p (List.drop (i+1) s)+1)=(i+1)+cY p (List.drop (i+1) s) by omega];exact zjf j a b c d p s e o (Io s-(i+1)) (i+1) rfl ow
  .have:cY p (s.drop i)=0:=by
    by_cases x:i<Io s
    .have g:Q0 ((i:Int)<Io s)=Q3:=by simpa using x
     rw[g,cP s _ x]at h;rw[fO x];simp only[cY];rw[zg (by intro l;rw[ax]at h;rw[l]at h;cases h)]
    .rw[BU ow];rfl
   rw[this];rfl
 termination_by k=>k
theorem zs1(s:zH)(n:Int):run tM 0 Mp Tryz.f270.results.toList 300 (aa Tryz.f270 4) (P1 (ai 1) (ai 16) (AV.clo (Fn.func 308) [] []) (AV.clo (Fn.func 307) [] []) s n)=zl6 (ai 1) (ai 16) (AV.clo (Fn.func 308) [] []) (AV.clo (Fn.func 307) [] []) bS s n:=kw
theorem zqj(s:zH):run tM 0 Mp Tryz.f270.results.toList 300 (bq Tryz.f270) (aY Tryz.f270.ntmps [.agg [(ai 1),(ai 16),(AV.clo (Fn.func 308) [] []),(AV.clo (Fn.func 307) [] [])],.str s] [])=
 chk (cond (s==[]) Q3 (zK 0 (Io s)))
  (br (cond (s==[]) Q3 (!bc ↑(List.getD s (Int.toNat 0) 0).toNat)) (Tr.ok (zQ.ret (ai 0) []))
   (Tr.ok (zQ.head 4 (aa Tryz.f270 4) (P1 (ai 1) (ai 16) (AV.clo (Fn.func 308) [] []) (AV.clo (Fn.func 307) [] []) s 1)))):=kw
theorem zjc(a:∀id,0<=id->C.ρ0 id=Q2)(s:zH)(b:Io s<=aJ):Reach tM C 270 (bq Tryz.f270) (aY Tryz.f270.ntmps [.agg [(ai 1),(ai 16),(AV.clo (Fn.func 308) [] []),(AV.clo (Fn.func 307) [] [])],.str s] []) (λr h=>(r,h)=(.int .i64 (bv bc bS s:Nat),[])):=by
 refine dQ (n0:=0) nj zdl a Mp 300 ?_;rw[zqj];cases s with
 |nil=>exact⟨rfl,λ_=>rfl,λh=>by cases h⟩
 | cons c r=>
  refine⟨by simp[zK],λh=>?_,λh=>?_⟩
  .have x:bc ↑c.toNat=Q4:=by simpa using h
   simp only[bv,x];rfl
  .have x:bc ↑c.toNat=Q3:=by simpa using h
   have:=zjf a (ai 1) (ai 16) (AV.clo (Fn.func 308) [] []) (AV.clo (Fn.func 307) [] []) bS (c::r) (zs1 (c::r)) b _ 1 rfl sw;simp only[bv,x,zh];rw[show 1+cY bS ((c::r).drop 1)=cY bS r+1 by simp[kd]]at this;exact this
theorem zs2(s:zH)(n:Int):run tM 0 Mp Tryz.f270.results.toList 300 (aa Tryz.f270 4) (P1 (ai 2) (ai 19) (AV.clo (Fn.func 309) [] []) (AV.clo (Fn.func 309) [] []) s n)=zl6 (ai 2) (ai 19) (AV.clo (Fn.func 309) [] []) (AV.clo (Fn.func 309) [] []) au s n:=kw
theorem zqk(s:zH):run tM 0 Mp Tryz.f270.results.toList 300 (bq Tryz.f270) (aY Tryz.f270.ntmps [.agg [(ai 2),(ai 19),(AV.clo (Fn.func 309) [] []),(AV.clo (Fn.func 309) [] [])],.str s] [])=
 chk (cond (s==[]) Q3 (zK 0 (Io s)))
  (br (cond (s==[]) Q3 (!au ↑(List.getD s (Int.toNat 0) 0).toNat)) (Tr.ok (zQ.ret (ai 0) []))
   (Tr.ok (zQ.head 4 (aa Tryz.f270 4) (P1 (ai 2) (ai 19) (AV.clo (Fn.func 309) [] []) (AV.clo (Fn.func 309) [] []) s 1)))):=kw
theorem zjd(a:∀id,0<=id->C.ρ0 id=Q2)(s:zH)(b:Io s<=aJ):Reach tM C 270 (bq Tryz.f270) (aY Tryz.f270.ntmps [.agg [(ai 2),(ai 19),(AV.clo (Fn.func 309) [] []),(AV.clo (Fn.func 309) [] [])],.str s] []) (λr h=>(r,h)=(.int .i64 (bv au au s:Nat),[])):=by
 refine dQ (n0:=0) nj zdl a Mp 300 ?_;rw[zqk];cases s with
 |nil=>exact⟨rfl,λ_=>rfl,λh=>by cases h⟩
 | cons c r=>
  refine⟨by simp[zK],λh=>?_,λh=>?_⟩
  .have x:au ↑c.toNat=Q4:=by simpa using h
   simp only[bv,x];rfl
  .have x:au ↑c.toNat=Q3:=by simpa using h
   have:=zjf a (ai 2) (ai 19) (AV.clo (Fn.func 309) [] []) (AV.clo (Fn.func 309) [] []) au (c::r) (zs2 (c::r)) b _ 1 rfl sw;simp only[bv,x,zh];rw[show 1+cY au ((c::r).drop 1)=cY au r+1 by simp[kd]]at this;exact this
def G65:eW [Q2,Q1 .str]:=λx h=>match x,h with
 |(.agg [.int .i64 1,.int .i64 16,.clo (.func 308) [] [],.clo (.func 307) [] []],s,_),[]=>.ok (.int .i64 (bv bc bS s:Nat),[])
 |(.agg [.int .i64 2,.int .i64 19,.clo (.func 309) [] [],.clo (.func 309) [] []],s,_),[]=>.ok (.int .i64 (bv au au s:Nat),[])
 |_,_=>.err
theorem zoQ:FK 270 (aW [Q2,Q1 .str] G65):=by
 refine dc zdl λx d c h C b=>?_
 unfold G65 at h;split at h
 .simp only[Tr.val_ok,bj]at h;subst h;rename_i _ _ s u;have e:iV [Q2,Q1 Q6] (Qd [(ai 1),(ai 16),(AV.clo (Fn.func 308) [] []),(AV.clo (Fn.func 307) [] [])],s,u)=[Qd [(ai 1),(ai 16),(AV.clo (Fn.func 308) [] []),(AV.clo (Fn.func 307) [] [])],.str s]:=rfl;rw[e];exact Reach.strLen 1 s rfl λa=>zjc b s a
 .simp only[Tr.val_ok,bj]at h;subst h;rename_i _ _ s u;have e:iV [Q2,Q1 Q6] (Qd [(ai 2),(ai 19),(AV.clo (Fn.func 309) [] []),(AV.clo (Fn.func 309) [] [])],s,u)=[Qd [(ai 2),(ai 19),(AV.clo (Fn.func 309) [] []),(AV.clo (Fn.func 309) [] [])],.str s]:=rfl;rw[e];exact Reach.strLen 1 s rfl λa=>zjd b s a
 .simp at h
abbrev ky:Sh:=.pr (.int .i64) .str
abbrev dd:=Sem ky
def zcx:cd:=((tM.add 174 (ud [.str] [.bool] λx=>Q1 (jw x.1,()))).add 272 (ud [.str] [zj] λx=>Q1 (dm x.1,()))).add 270 (aW [Q2,Q1 .str] G65)
theorem LK:zu zcx:=((nj.add zoi).add zoG).add zoQ
def qS(s:zH):Bool:=bif Q0 ((↑(Io s):Int)>=1)then
  bif Q0 ((↑(Io s):Int)<=16)then(↑(bv bc bS s):Int)==↑(Io s)else Q4
 else Q4
def g49(x:zD ([ky].map Q1)):Option (zD ([Q7].map Q1)):=if x.1.1=1 then Q1 (qS x.1.2,())else Q2
theorem zu4(s:zH):(run zcx 0 unr Tryz.f225.results.toList 400 (bq Tryz.f225) (aY Tryz.f225.ntmps [.agg [.int .i64 1,.str s]] [])).val=Q1 (.ret (.bool (qS s)) []):=kw
theorem zsr:zM zcx.P 225 Tryz.f225 1:=bL kw
theorem zoB:FK 225 (ud [ky] [.bool] g49):=by
 refine wM zsr λx y h C b=>?_
 obtain⟨⟨k,s⟩,u⟩:=x;unfold g49 at h;split at h
 next c=>have a:k=1:=c;subst a;cases h;have e:iV ([ky].map Q1) (((1,s),u):zD ([ky].map Q1))=[.agg [.int .i64 1,.str s]]:=rfl;rw[e];exact nP (n0:=0) LK zsr (λid _=>b id) (zu4 s) rfl
 .cases h
def zpY:cd:=zcx.add 225 (ud [ky] [.bool] g49)
theorem WE:zu zpY:=LK.add zoB
def zpZ:cd:=zpY.aut 173 Tryz.f173 1
theorem WF:zu zpZ:=iA WE (bL kw)
def TL:cd:=zpZ.aut 107 Tryz.f107 1
theorem LO:zu TL:=iA WF (bL kw)
open Go Go.Proofs Go.RowKit Go.Lib
variable {w b:World}
theorem kA.below(h:Below w.heap.size w b):kA w b:=
 ⟨h.size,h.os,h.output,h.tape,λa x=>yH (h.block a.block x)⟩
variable {v:Value}
theorem fa{U:Nat->Prop}{r:AV}{l:List AO}{a:Nat->Option Value}(e:gK C w U a (λj=>l.getD j .dead))(k:∀id,Io l<=id->a id=Q2)
  (n:∀id v,C.ρ0 id=Q1 v->a id=Q1 v) (d:Wd E.gl C w U) (i:Below w.heap.size w b) (q:Rv b U a r v):S7 E C (λt h=>(t,h)=(r,l)) (.returned v) b:=by
 have m:∀x,x<w.heap.size->b.heap[x]?=w.heap[x]?:=i.block;refine⟨v,r,l,U,a,rfl,rfl,q,⟨λid=>?_,e.inj,e.blk⟩,k,n,⟨d.ext.trans (kA.below i),λx c p=>?_,λx s=>gE (d.ub x s) i.size,d.u1,d.u2,λg=>?_⟩⟩
 .exact(e.ob id).mono i.size (λx c _=>m x c) (λ_ _ h=>h) (λ_ _ h=>h) (λx o=>⟨m x ((e.ob id).inU o).2,((e.ob id).inU o).1⟩)
 .rw[m x (gE c d.ext.sz)];exact d.same x c p
 .exact(d.gl g).mono i.size (λx c _=>m x c) (λ_ _ h=>h) (λ_ _ h=>h)
def zjJ:cd:=TL.aut 98 Tryz.f98 1
theorem zsc:zM TL.P 98 Tryz.f98 1:=bL kw
theorem WG:zu zjJ:=iA LO zsc
def DI(c:Int):Bool:=bif Q0 (c<32)then Q3 else Q0 (c>126)
theorem zuR(c:Int):((aW (List.replicate 1 Q2) (eJ TL Tryz.f98 (List.replicate 1 Q2))) [.int .i32 c] (λ_=>.dead) 0).val=Q1 {val:=.bool (DI c)}:=kw
theorem zlN(w:World)(U:Nat->Prop)(m:BN TL.gl w U)(n:∀b,U b->b<w.heap.size):PredGrows Tryz.prog 98 #[] (λr=>DI r) w:=by
 intro W x s k;have o:FK 98 (aW (List.replicate 1 Q2) (eJ TL Tryz.f98 (List.replicate 1 Q2))):=bT _ LO zsc;have p:dg W U (λ_=>Q2) [.int .i32 (x:Int)] [.int .i32 (x:Int)]:=by
  refine⟨rfl,λj c v l i=>?_⟩;cases j with
  | zero=>
   simp at l i;subst l;subst i;refine .int _ _ ⟨?_,?_⟩
   .show(-2147483648:Int)<=x;omega
   .show(x:Int)<=2147483647;omega
  |succ j=>simp at l
 have:=(o.calls W U (λ_=>Q2) (λ_=>.dead) 0 [.int .i32 (x:Int)] [.int .i32 (x:Int)] _ [] (zuR x) p (λb d=>gE (n b d) k.size) (λg=>(m g).mono k.size (λb d _=>k.block b d) (λ_ _ h=>h) (λ_ _ h=>h)) ⟨sw,sw⟩ (by simp[AV.idsL,AV.ids]) sw sw).1;refine this.mono ?_;rintro e t ⟨v,q,u,rfl,a⟩;have i:=a.val;cases i;exact⟨rfl,⟨a.ext.os,a.ext.tape,a.ext.out,a.ext.sz,λb d=>a.same b d sw⟩⟩
def qn(s:zH):Int:=Lib.idxFunc (λr=>DI r) Q3 ⟨s.toArray⟩
def G36:eW [Q1 .str,Q2]:=λx h=>match x,h with
 |(s,.clo (.func 98) [] [],_),[]=>.ok (.int .i64 (qn s),[])
 |_,_=>.err
theorem zux:Go.Proofs.Enters Tryz.prog 98:=by
  cases h:Tryz.f98.body with
  | none => have:Tryz.f98.body.isNone=false:=by kernel_rfl
            rw[h]at this;cases this
  |some c=>exact Go.Proofs.enters_of (fn:=Tryz.f98) kw kw h
theorem zoo:FK 99 (aW [Q1 .str,Q2] G36):=by
 refine fq (E:=zjJ) ⟨Tryz.f99,kw,kw,kw⟩ λx F y c=>?_
 unfold G36 at c;split at c
 .rename_i s u;simp only[Tr.val_ok,bj]at c;subst c;intro C w U ρ v _ a n h j d;have t:=a.len
  match v,t,a with
  | [z,A],_,a=>
   have l:=a.rv 0 (.str s) z rfl rfl;have m:=a.rv 1 (.clo (.func 98) [] []) A rfl rfl;cases l with
   |str _ H=>
   cases m with
   |clo _ _ _ D B q p _ _=>
   have i:D=[]:=AF q.symm;have g:B=[]:=AF p.symm;subst i;subst g;have:=Tryz.strings_IndexFunc_grows 98 #[] zux (λr=>DI r) ⟨s.toArray⟩ w (zlN w U d.gl d.ub);refine this.mono ?_;rintro e I ⟨rfl,o⟩;refine fa n h j d o (.int _ _ ?_);have b:=Lib.idxFunc_range (λr=>DI r) Q3 ⟨s.toArray⟩;have k:(⟨s.toArray⟩:ByteArray).size=Io s:=by simp[ByteArray.size]
   have G:aJ=9223372036854775807:=rfl;rw[k]at b;change qn s=-1\/(0<=qn s/\qn s<Io s)at b;refine⟨?_,?_⟩
   .show(-9223372036854775808:Int)<=_;omega
   .show _<=(9223372036854775807:Int);omega
 .simp at c
def uT:cd:=zjJ.add 99 (aW [Q1 .str,Q2] G36)
theorem kQ:zu uT:=WG.add zoo
abbrev TS:=Sem Q6
abbrev LX:=List (Sem Sh.expr)
abbrev LC:=aM
abbrev LS:=List (Sem Q6)
abbrev LV:=zw
abbrev LI:=dI
abbrev LF:=dp
abbrev V:=zo
def bh(x:zo):Sem Q7:=if(x.1==0)=Q3 then if(x.2.1!=0)=Q3 then Q4 else x.2.2==[]else if(x.1==1)=Q3 then x.2.2==[]else if(x.1==2)=Q3 then bif x.2.1==0 then bif Q0 ((↑(Io x.2.2):Int)<=40)then Q0 (qn x.2.2<0)else Q4 else Q4 else if(x.1==3)=Q3 then bif x.2.1==0 then x.2.2==[]else bif x.2.1==1 then x.2.2==[]else Q4 else Q4
theorem zr2:zM uT.P 39 Tryz.f39 1:=bL kw
theorem zuH(x:zo):rn uT 0 (λ_=>{ }) Tryz.f39 [zI zf x] []=br (x.1==0) (br (x.2.1!=0) (Tr.ok (zQ.ret (kb Q4) [])) (Tr.ok (zQ.ret (AV.bool (x.2.2==[])) []))) (br (x.1==1) (Tr.ok (zQ.ret (AV.bool (x.2.2==[])) [])) (br (x.1==2) (Tr.ok (zQ.ret (AV.bool (cond (x.2.1==0) (cond (Q0 ((↑(Io x.2.2):Int)<=40)) (Q0 (qn x.2.2<0)) Q4) Q4)) [])) (br (x.1==3) (Tr.ok (zQ.ret (AV.bool (cond (x.2.1==0) (x.2.2==[]) (cond (x.2.1==1) (x.2.2==[]) Q4))) [])) (Tr.ok (zQ.ret (kb Q4) []))))):=kw
def F21:z8:=aN [zf] [Q7] λx=>(bh x.1,())
theorem zoe:FK 39 F21:=by
 refine al zr2 λx C h=>?_
 refine bg kQ zr2 (λid _=>h id) (zuH x.1) ?_;simp only[Q8,bh];repeat' split
 all_goals rfl
def bf(x:zq):zo:=if(x==0)=Q3 then(0,0,[])else(3,Γ Δ (x-1),[])
theorem zsw:zM uT.P 274 Tryz.f274 1:=bL kw
theorem zva(x:zq):rn uT 0 (λ_=>{ }) Tryz.f274 [zI zj x] []=br (x==0) (Tr.ok (zQ.ret (Qd [ai 0,ai 0,str []]) [])) (Tr.ok (zQ.ret (Qd [ai 3,ai (Γ Δ (x-1)),str []]) [])):=kw
def F57:z8:=aN [zj] [zf] λx=>(bf x.1,())
theorem zoI:FK 274 F57:=by
 refine al zsw λx C h=>?_
 refine bg kQ zsw (λid _=>h id) (zva x.1) ?_;simp only[Q8,bf];repeat' split
 all_goals rfl
def zmo:z8:=aW (List.replicate 1 Q2) (eJ uT Tryz.f182 (List.replicate 1 Q2))
theorem zg7:FK 182 zmo:=bT _ kQ (bL kw)
def zmp:z8:=aW (List.replicate 1 Q2) (eJ uT Tryz.f183 (List.replicate 1 Q2))
theorem zg8:FK 183 zmp:=bT _ kQ (bL kw)
def zmq:z8:=aW (List.replicate 1 Q2) (eJ uT Tryz.f184 (List.replicate 1 Q2))
theorem zg9:FK 184 zmq:=bT _ kQ (bL kw)
def mg:=uT.addL [(39,F21),(274,F57),(182,zmo),(183,zmp),(184,zmq)]
theorem ji:zu mg:=kQ.addL<|fc zoe<|fc zoI<|fc zg7<|fc zg8<|fc zg9 iw
def aC(x:zo):zo:=if(!bh x)=Q3 then(0,0,[])else x
theorem zsA:zM mg.P 112 Tryz.f112 1:=bL kw
theorem zve(x:zo):rn mg 0 (λ_=>{ }) Tryz.f112 [zI zf x] []=br (!bh x) (Tr.ok (zQ.ret (Qd [ai 0,ai 0,str []]) [])) (Tr.ok (zQ.ret (Qd [ai x.1,ai x.2.1,str x.2.2]) [])):=kw
def F61:z8:=aN [zf] [zf] λx=>(aC x.1,())
theorem zoO:FK 112 F61:=by
 refine al zsA λx C h=>?_
 refine bg ji zsA (λid _=>h id) (zve x.1) ?_;simp only[Q8,aC];repeat' split
 all_goals rfl
def en(x:zo):zq:=if(cond (x.1!=3) Q3 (!bh x))=Q3 then 0 else Γ Δ (1+x.2.1)
theorem zsv:zM mg.P 273 Tryz.f273 1:=bL kw
theorem zu9(x:zo):rn mg 0 (λ_=>{ }) Tryz.f273 [zI zf x] []=br (cond (x.1!=3) Q3 (!bh x)) (Tr.ok (zQ.ret (ai 0) [])) (Tr.ok (zQ.ret (ai (Γ Δ (1+x.2.1))) [])):=kw
def F56:z8:=aN [zf] [zj] λx=>(en x.1,())
theorem zoH:FK 273 F56:=by
 refine al zsv λx C h=>?_
 refine bg ji zsv (λid _=>h id) (zu9 x.1) ?_;simp only[Q8,en];repeat' split
 all_goals rfl
def dL(x:Sem Q7):zo:=if x=Q3 then bf 2 else bf 1
theorem zsy:zM mg.P 275 Tryz.f275 1:=bL kw
theorem zvc(x:Sem Q7):rn mg 0 (λ_=>{ }) Tryz.f275 [zI Q7 x] []=br x (Tr.ok (zQ.ret (Qd [ai (bf 2).1,ai (bf 2).2.1,str (bf 2).2.2]) [])) (Tr.ok (zQ.ret (Qd [ai (bf 1).1,ai (bf 1).2.1,str (bf 1).2.2]) [])):=kw
def F59:z8:=aN [Q7] [zf] λx=>(dL x.1,())
theorem zoK:FK 275 F59:=by
 refine al zsy λx C h=>?_
 refine bg ji zsy (λid _=>h id) (zvc x.1) ?_;simp only[Q8,dL];repeat' split
 all_goals rfl
def tz(h x:zq):zq:=if(h !=h)=Q3 then if(x !=x)=Q3 then 0 else -1 else if(x !=x)=Q3 then 1 else if Q0 (h<x)=Q3 then -1 else if Q0 (h>x)=Q3 then 1 else 0
theorem zsD:zM mg.P 114 Tryz.f114 2:=bL kw
theorem zvi(h x:zq):rn mg 0 (λ_=>{ }) Tryz.f114 [zI zj h,zI zj x] []=br (h !=h) (br (x !=x) (Tr.ok (zQ.ret (ai 0) [])) (Tr.ok (zQ.ret (ai (-1)) []))) (br (x !=x) (Tr.ok (zQ.ret (ai 1) [])) (br (Q0 (h<x)) (Tr.ok (zQ.ret (ai (-1)) [])) (br (Q0 (h>x)) (Tr.ok (zQ.ret (ai 1) [])) (Tr.ok (zQ.ret (ai 0) []))))):=kw
def F71:z8:=aN [zj,zj] [zj] λx=>(tz x.1 x.2.1,())
theorem zoW:FK 114 F71:=by
 refine al zsD λx C h=>?_
 refine bg ji zsD (λid _=>h id) (zvi x.1 x.2.1) ?_;simp only[Q8,tz];repeat' split
 all_goals rfl
def lq(h x:zq):zq:=if(h !=h)=Q3 then if(x !=x)=Q3 then 0 else -1 else if(x !=x)=Q3 then 1 else if Q0 (h<x)=Q3 then -1 else if Q0 (h>x)=Q3 then 1 else 0
theorem zsF:zM mg.P 115 Tryz.f115 2:=bL kw
theorem zvj(h x:zq):rn mg 0 (λ_=>{ }) Tryz.f115 [zI zj h,zI zj x] []=br (h !=h) (br (x !=x) (Tr.ok (zQ.ret (ai 0) [])) (Tr.ok (zQ.ret (ai (-1)) []))) (br (x !=x) (Tr.ok (zQ.ret (ai 1) [])) (br (Q0 (h<x)) (Tr.ok (zQ.ret (ai (-1)) [])) (br (Q0 (h>x)) (Tr.ok (zQ.ret (ai 1) [])) (Tr.ok (zQ.ret (ai 0) []))))):=kw
def F72:z8:=aN [zj,zj] [zj] λx=>(lq x.1 x.2.1,())
theorem zoX:FK 115 F72:=by
 refine al zsF λx C h=>?_
 refine bg ji zsF (λid _=>h id) (zvj x.1 x.2.1) ?_;simp only[Q8,lq];repeat' split
 all_goals rfl
def pC(h x:Sem Q6):zq:=if(!h==h)=Q3 then if(!x==x)=Q3 then 0 else -1 else if(!x==x)=Q3 then 1 else if Op.bytesLess h x=Q3 then -1 else if(!(Op.bytesLess h x||h==x))=Q3 then 1 else 0
theorem zsG:zM mg.P 116 Tryz.f116 2:=bL kw
theorem zvk(h x:Sem Q6):rn mg 0 (λ_=>{ }) Tryz.f116 [zI Q6 h,zI Q6 x] []=br (!h==h) (br (!x==x) (Tr.ok (zQ.ret (ai 0) [])) (Tr.ok (zQ.ret (ai (-1)) []))) (br (!x==x) (Tr.ok (zQ.ret (ai 1) [])) (br (Op.bytesLess h x) (Tr.ok (zQ.ret (ai (-1)) [])) (br (!(Op.bytesLess h x||h==x)) (Tr.ok (zQ.ret (ai 1) [])) (Tr.ok (zQ.ret (ai 0) []))))):=kw
def F73:z8:=aN [Q6,Q6] [zj] λx=>(pC x.1 x.2.1,())
theorem zoY:FK 116 F73:=by
 refine al zsG λx C h=>?_
 refine bg ji zsG (λid _=>h id) (zvk x.1 x.2.1) ?_;simp only[Q8,pC];repeat' split
 all_goals rfl
def ku:=mg.addL [(112,F61),(273,F56),(275,F59),(114,F71),(115,F72),(116,F73)]
theorem fu:zu ku:=ji.addL<|fc zoO<|fc zoH<|fc zoK<|fc zoW<|fc zoX<|fc zoY iw
variable {k:FuncId}{keep:Nat->aT}{x:Tr zQ}
theorem Et{f:Func}{n n0:Nat}(b:zu E)(c:zM E.P k f n)(a:∀id,n0<=id->C.ρ0 id=Q2){m:Nat}
     {l:zQ} (e:run E n0 keep f.results.toList m t s=x) (h:x.val=Q1 l) (d:kc E C k Q l):Reach E C k t s Q:=
 dQ b c a keep m (by rw[e];exact Tr.sat_of_val h d)
def gR{α:Type}(Φ:α->Prop):Option α->Prop
 |some a=>Φ a
 |none=>False
theorem zF{f:Func}{n n0:Nat}(c:zu E)(d:zM E.P k f n)(b:∀id,n0<=id->C.ρ0 id=Q2){m:Nat}
     (e:run E n0 keep f.results.toList m t s=x) (h:gR (kc E C k Q) x.val):Reach E C k t s Q:=by
 cases a:x.val with
 |none=>rw[a]at h;exact h.elim
 |some l=>rw[a]at h;exact Et c d b e a h
def L6{α β R:Type}(f:β->Nat->α->β⊕R)(h:β->R):List α->Nat->β->R
 |[],_,b=>h b
 | x::r,i,b=>match f b i x with
  |.inl a=>L6 f h r (i+1) a
  |.inr y=>y
def zbE{E:cd}{C:ew}{k:FuncId}{K:List Item}{β R:Type}(s:β->Nat->St)(Q:R->AV->List AO->Prop)(b:β)(i:Nat):β⊕R->Prop
 |.inl h=>∀q,Reach E C k K (s h (i+1)) q->Reach E C k K (s b i) q
 |.inr y=>Reach E C k K (s b i) (Q y)
theorem Eu{E:cd}{C:ew}{k:FuncId}{K:List Item}{α β R:Type}(l:List α)(s:β->Nat->St)(f:β->Nat->α->β⊕R)(a:β->R)(Q:R->AV->List AO->Prop)(I:β->Nat->Prop)
  (h:∀b i(n:i<Io l),I b i->zbE (E:=E) (C:=C) (k:=k) (K:=K) s Q b i (f b i l[i])/\∀c,f b i l[i]=.inl c->I c (i+1))
  (x:∀b,I b (Io l)->Reach E C k K (s b (Io l)) (Q (a b))):∀(m i:Nat)(b:β),Io l-i=m->i<=Io l->I b i->Reach E C k K (s b i) (Q (L6 f a (l.drop i) i b))
 | 0,i,b,p,n,g=>by
  have:i=Io l:=by omega
  subst this;rw[jM];exact x b g
 | m+1,i,b,p,n,g=>by
  have d:i<Io l:=by omega
  rw[fO d];obtain⟨e,o⟩:=h b i d g;simp only[L6];cases j:f b i l[i]with
  | inl c=>
   rw[j]at e;exact e _ (Eu l s f a Q I h x m (i+1) c ow ow (o c j))
  | inr y=>
   rw[j]at e;exact e
variable {q:Nat}
theorem zL{i:Nat}(h:i<q):Q0 ((i:Int)<(q:Int))=Q3:=by simpa using h
theorem zG(n:Nat):Q0 ((n:Int)<(n:Int))=Q4:=by simp
theorem zz{i:Nat}(h:i<q):zK (i:Int) q=Q3:=by simp[zK,h]
def I6:List Int->Int
 |[]=>0
 |x::r=>if x !=0 then x else I6 r
abbrev zrA:Nat->aT:=λj=>if j=3 then{slots:=[3,6,7,8]}else{ }
abbrev SB(i:Int)(l:dI)(h x:Int):St:={tmps:=(tm 18 [(3,ai i),(6,sl (Sh.int IntKind.i64) l),(7,ai h),(8,ai x)]),heap:=[]}
theorem YO:zM ku.P 113 Tryz.f113 1:=bL kw
theorem zvh(k:dI):rn ku 0 zrA Tryz.f113 [sl zj k] []=Tr.ok (zQ.head 3 (aa Tryz.f113 3) (SB 0 k (↑k.length) 0)):=kw
theorem Pr(h:Int)(l:dI)(x i:Int):rh ku 0 zrA Tryz.f113 3 (SB h l x i)=br (Q0 (i<x)) (chk (zK i (Io l)) (br (l.getD i.toNat (zi (Sh.int IntKind.i64))!=h) (Tr.ok (zQ.ret (ai (l.getD i.toNat (zi (Sh.int IntKind.i64)))) [])) (Tr.ok (zQ.head 3 (aa Tryz.f113 3) (SB h l x (Γ Δ (i+1))))))) (Tr.ok (zQ.ret (ai h) [])):=kw
def f70:Unit->Nat->Int->Unit⊕Int:=λ_ _ x=>if x !=0 then .inr x else .inl ()
theorem W0:∀(l:List Int)(i:Nat),L6 f70 (λ_=>0) l i ()=I6 l
 |[],_=>rfl
 | x::r,i=>by
  simp only[L6,f70,I6];split
  next h=>split at h<;>simp_all[W0 r (i+1)]
  next h=>split at h<;>simp_all
def F70:z8:=aN [.sl zj] [zj] λx=>(I6 x.1,())
theorem zoV:FK 113 F70:=by
 refine al YO λx C c=>?_
 obtain⟨l,u⟩:=x;refine Reach.len 0 zj l rfl λe=>?_
 refine Et fu YO (λid _=>c id) (zvh l) rfl ?_
 have:=Eu (E:=ku) (C:=C) (k:=113) (K:=aa Tryz.f113 3) l (λ(_:Unit) i=>SB 0 l (Io l) i) f70 (λ_=>(0:Int)) (λy r h=>aS h [zj] r=Q1 (y,())) (λ_ _=>True)
  (λb i a _=>⟨by
   unfold f70;split
   next h=>refine zF fu YO (λid _=>c id) (Pr _ _ _ _) ?_;simp only[Q8,zL a,zz a,cP l _ a,h,zh];rfl
   next h=>intro q d;refine zF fu YO (λid _=>c id) (Pr _ _ _ _) ?_;simp only[Q8,zL a,zz a,cP l _ a,h,zh,zt i ow];exact d,λ_ _=>trivial⟩)
  (λb _=>by
   refine zF fu YO (λid _=>c id) (Pr _ _ _ _) ?_;simp only[Q8,zG];rfl) _ 0 () rfl ow trivial
 rw[W0]at this;exact this
def fg(x h:zo):Sem Q7:=bif (aC x).1!=0 then(aC x).1==(aC h).1 else Q4
theorem zsx:zM ku.P 222 Tryz.f222 2:=bL kw
theorem zvb(x h:zo):rn ku 0 (λ_=>{ }) Tryz.f222 [zI zf x,zI zf h] []=Tr.ok (zQ.ret (AV.bool (cond ((aC x).1!=0) ((aC x).1==(aC h).1) Q4)) []):=kw
def F58:z8:=aN [zf,zf] [Q7] λx=>(fg x.1 x.2.1,())
theorem zoJ:FK 222 F58:=by
 refine al zsx λx C h=>?_
 refine bg fu zsx (λid _=>h id) (zvb x.1 x.2.1) ?_;simp only[Q8,fg];repeat' split
 all_goals rfl
def FL(x h:zo):zo:=if(cond (en x==1) Q3 (en h==1))=Q3 then bf 1 else if(cond (en x==2) (en h==2) Q4)=Q3 then bf 2 else bf 0
theorem zsf:zM ku.P 229 Tryz.f229 2:=bL kw
theorem zuT(x h:zo):rn ku 0 (λ_=>{ }) Tryz.f229 [zI zf x,zI zf h] []=br (cond (en x==1) Q3 (en h==1)) (Tr.ok (zQ.ret (Qd [ai (bf 1).1,ai (bf 1).2.1,str (bf 1).2.2]) [])) (br (cond (en x==2) (en h==2) Q4) (Tr.ok (zQ.ret (Qd [ai (bf 2).1,ai (bf 2).2.1,str (bf 2).2.2]) [])) (Tr.ok (zQ.ret (Qd [ai (bf 0).1,ai (bf 0).2.1,str (bf 0).2.2]) []))):=kw
def F38:z8:=aN [zf,zf] [zf] λx=>(FL x.1 x.2.1,())
theorem zoq:FK 229 F38:=by
 refine al zsf λx C h=>?_
 refine bg fu zsf (λid _=>h id) (zuT x.1 x.2.1) ?_;simp only[Q8,FL];repeat' split
 all_goals rfl
def vOr(x h:zo):zo:=if(cond (en x==2) Q3 (en h==2))=Q3 then bf 2 else if(cond (en x==1) (en h==1) Q4)=Q3 then bf 1 else bf 0
theorem zsg:zM ku.P 230 Tryz.f230 2:=bL kw
theorem zuU(x h:zo):rn ku 0 (λ_=>{ }) Tryz.f230 [zI zf x,zI zf h] []=br (cond (en x==2) Q3 (en h==2)) (Tr.ok (zQ.ret (Qd [ai (bf 2).1,ai (bf 2).2.1,str (bf 2).2.2]) [])) (br (cond (en x==1) (en h==1) Q4) (Tr.ok (zQ.ret (Qd [ai (bf 1).1,ai (bf 1).2.1,str (bf 1).2.2]) [])) (Tr.ok (zQ.ret (Qd [ai (bf 0).1,ai (bf 0).2.1,str (bf 0).2.2]) []))):=kw
def F39:z8:=aN [zf,zf] [zf] λx=>(vOr x.1 x.2.1,())
theorem zor:FK 230 F39:=by
 refine al zsg λx C h=>?_
 refine bg fu zsg (λid _=>h id) (zuU x.1 x.2.1) ?_;simp only[Q8,vOr];repeat' split
 all_goals rfl
def AQ(x:zo):zo:=if(en x==2)=Q3 then bf 1 else if(en x==1)=Q3 then bf 2 else bf 0
theorem zsi:zM ku.P 232 Tryz.f232 1:=bL kw
theorem zuW(x:zo):rn ku 0 (λ_=>{ }) Tryz.f232 [zI zf x] []=br (en x==2) (Tr.ok (zQ.ret (Qd [ai (bf 1).1,ai (bf 1).2.1,str (bf 1).2.2]) [])) (br (en x==1) (Tr.ok (zQ.ret (Qd [ai (bf 2).1,ai (bf 2).2.1,str (bf 2).2.2]) [])) (Tr.ok (zQ.ret (Qd [ai (bf 0).1,ai (bf 0).2.1,str (bf 0).2.2]) []))):=kw
def F41:z8:=aN [zf] [zf] λx=>(AQ x.1,())
theorem zot:FK 232 F41:=by
 refine al zsi λx C h=>?_
 refine bg fu zsi (λid _=>h id) (zuW x.1) ?_;simp only[Q8,AQ];repeat' split
 all_goals rfl
def jJ(x:zo):zo:=dL ((aC x).1==0)
theorem zsp:zM ku.P 237 Tryz.f237 1:=bL kw
theorem zu2(x:zo):rn ku 0 (λ_=>{ }) Tryz.f237 [zI zf x] []=Tr.ok (zQ.ret (Qd [ai (dL ((aC x).1==0)).1,ai (dL ((aC x).1==0)).2.1,str (dL ((aC x).1==0)).2.2]) []):=kw
def F47:z8:=aN [zf] [zf] λx=>(jJ x.1,())
theorem zoz:FK 237 F47:=by
 refine al zsp λx C h=>?_
 refine bg fu zsp (λid _=>h id) (zu2 x.1) ?_;simp only[Q8,jJ];repeat' split
 all_goals rfl
def mh:=ku.addL [(113,F70),(222,F58),(229,F38),(230,F39),(232,F41),(237,F47)]
theorem jj:zu mh:=fu.addL<|fc zoV<|fc zoJ<|fc zoq<|fc zor<|fc zot<|fc zoz iw
def aV(x h:zo):zq:=I6 [tz (aC x).1 (aC h).1,lq (aC x).2.1 (aC h).2.1,pC (aC x).2.2 (aC h).2.2]
theorem zsz:zM mh.P 50 Tryz.f50 2:=bL kw
theorem zvd(x h:zo):rn mh 0 (λ_=>{ }) Tryz.f50 [zI zf x,zI zf h] []=Tr.ok (zQ.ret (AV.int IntKind.i64 (I6 [tz (aC x).1 (aC h).1,lq (aC x).2.1 (aC h).2.1,pC (aC x).2.2 (aC h).2.2])) []):=kw
def F60:z8:=aN [zf,zf] [zj] λx=>(aV x.1 x.2.1,())
theorem zoN:FK 50 F60:=by
 refine al zsz λx C h=>?_
 refine bg jj zsz (λid _=>h id) (zvd x.1 x.2.1) ?_;simp only[Q8,aV];repeat' split
 all_goals rfl
def mQ(x h:zo):zo:=if(!fg x h)=Q3 then(0,0,[])else dL (x.1==h.1&&(x.2.1==h.2.1&&(x.2.2==h.2.2&&Q3)))
theorem zsj:zM mh.P 233 Tryz.f233 2:=bL kw
theorem zuX(x h:zo):rn mh 0 (λ_=>{ }) Tryz.f233 [zI zf x,zI zf h] []=br (!fg x h) (Tr.ok (zQ.ret (Qd [ai 0,ai 0,str []]) [])) (Tr.ok (zQ.ret (Qd [ai (dL (x.1==h.1&&(x.2.1==h.2.1&&(x.2.2==h.2.2&&Q3)))).1,ai (dL (x.1==h.1&&(x.2.1==h.2.1&&(x.2.2==h.2.2&&Q3)))).2.1,str (dL (x.1==h.1&&(x.2.1==h.2.1&&(x.2.2==h.2.2&&Q3)))).2.2]) [])):=kw
def F42:z8:=aN [zf,zf] [zf] λx=>(mQ x.1 x.2.1,())
theorem zou:FK 233 F42:=by
 refine al zsj λx C h=>?_
 refine bg jj zsj (λid _=>h id) (zuX x.1 x.2.1) ?_;simp only[Q8,mQ];repeat' split
 all_goals rfl
def py(x h:zo):zo:=if(cond (!fg x h) Q3 (x.1!=1))=Q3 then(0,0,[])else if(cond (Q0 (h.2.1>0)) (cond (Q0 (Γ Δ (x.2.1+h.2.1)<x.2.1)) Q3 (cond (Q0 (h.2.1<0)) (Q0 (Γ Δ (x.2.1+h.2.1)>x.2.1)) Q4)) (cond (Q0 (h.2.1<0)) (Q0 (Γ Δ (x.2.1+h.2.1)>x.2.1)) Q4))=Q3 then(0,0,[])else(1,Γ Δ (x.2.1+h.2.1),[])
theorem zsm:zM mh.P 155 Tryz.f155 2:=bL kw
theorem zuZ(x h:zo):rn mh 0 (λ_=>{ }) Tryz.f155 [zI zf x,zI zf h] []=br (cond (!fg x h) Q3 (x.1!=1)) (Tr.ok (zQ.ret (Qd [ai 0,ai 0,str []]) [])) (br (cond (Q0 (h.2.1>0)) (cond (Q0 (Γ Δ (x.2.1+h.2.1)<x.2.1)) Q3 (cond (Q0 (h.2.1<0)) (Q0 (Γ Δ (x.2.1+h.2.1)>x.2.1)) Q4)) (cond (Q0 (h.2.1<0)) (Q0 (Γ Δ (x.2.1+h.2.1)>x.2.1)) Q4)) (Tr.ok (zQ.ret (Qd [ai 0,ai 0,str []]) [])) (Tr.ok (zQ.ret (Qd [ai 1,ai (Γ Δ (x.2.1+h.2.1)),str []]) []))):=kw
def F44:z8:=aN [zf,zf] [zf] λx=>(py x.1 x.2.1,())
theorem zow:FK 155 F44:=by
 refine al zsm λx C h=>?_
 refine bg jj zsm (λid _=>h id) (zuZ x.1 x.2.1) ?_;simp only[Q8,py];repeat' split
 all_goals rfl
def mR(x h:zo):zo:=if(cond (!fg x h) Q3 (x.1!=1))=Q3 then(0,0,[])else if(cond (Q0 (h.2.1>0)) (cond (Q0 (Γ Δ (x.2.1-h.2.1)>x.2.1)) Q3 (cond (Q0 (h.2.1<0)) (Q0 (Γ Δ (x.2.1-h.2.1)<x.2.1)) Q4)) (cond (Q0 (h.2.1<0)) (Q0 (Γ Δ (x.2.1-h.2.1)<x.2.1)) Q4))=Q3 then(0,0,[])else(1,Γ Δ (x.2.1-h.2.1),[])
theorem zsn:zM mh.P 235 Tryz.f235 2:=bL kw
theorem zu0(x h:zo):rn mh 0 (λ_=>{ }) Tryz.f235 [zI zf x,zI zf h] []=br (cond (!fg x h) Q3 (x.1!=1)) (Tr.ok (zQ.ret (Qd [ai 0,ai 0,str []]) [])) (br (cond (Q0 (h.2.1>0)) (cond (Q0 (Γ Δ (x.2.1-h.2.1)>x.2.1)) Q3 (cond (Q0 (h.2.1<0)) (Q0 (Γ Δ (x.2.1-h.2.1)<x.2.1)) Q4)) (cond (Q0 (h.2.1<0)) (Q0 (Γ Δ (x.2.1-h.2.1)<x.2.1)) Q4)) (Tr.ok (zQ.ret (Qd [ai 0,ai 0,str []]) [])) (Tr.ok (zQ.ret (Qd [ai 1,ai (Γ Δ (x.2.1-h.2.1)),str []]) []))):=kw
def F45:z8:=aN [zf,zf] [zf] λx=>(mR x.1 x.2.1,())
theorem zox:FK 235 F45:=by
 refine al zsn λx C h=>?_
 refine bg jj zsn (λid _=>h id) (zu0 x.1 x.2.1) ?_;simp only[Q8,mR];repeat' split
 all_goals rfl
def SL(x _:zo):zo:=AQ x
theorem zsh:zM mh.P 231 Tryz.f231 2:=bL kw
theorem zuV(x h:zo):rn mh 0 (λ_=>{ }) Tryz.f231 [zI zf x,zI zf h] []=Tr.ok (zQ.ret (Qd [ai (AQ x).1,ai (AQ x).2.1,str (AQ x).2.2]) []):=kw
def F40:z8:=aN [zf,zf] [zf] λx=>(SL x.1 x.2.1,())
theorem zos:FK 231 F40:=by
 refine al zsh λx C h=>?_
 refine bg jj zsh (λid _=>h id) (zuV x.1 x.2.1) ?_;simp only[Q8,SL];repeat' split
 all_goals rfl
def Kz(x _:zo):zo:=jJ x
theorem zso:zM mh.P 236 Tryz.f236 2:=bL kw
theorem zu1(x h:zo):rn mh 0 (λ_=>{ }) Tryz.f236 [zI zf x,zI zf h] []=Tr.ok (zQ.ret (Qd [ai (jJ x).1,ai (jJ x).2.1,str (jJ x).2.2]) []):=kw
def F46:z8:=aN [zf,zf] [zf] λx=>(Kz x.1 x.2.1,())
theorem zoy:FK 236 F46:=by
 refine al zso λx C h=>?_
 refine bg jj zso (λid _=>h id) (zu1 x.1 x.2.1) ?_;simp only[Q8,Kz];repeat' split
 all_goals rfl
def sO:=mh.addL [(50,F60),(233,F42),(155,F44),(235,F45),(231,F40),(236,F46)]
theorem kR:zu sO:=jj.addL<|fc zoN<|fc zou<|fc zow<|fc zox<|fc zos<|fc zoy iw
open Go Go.Proofs Go.Sort
set_option maxHeartbeats 4000000
theorem zrT(W:World)(x:Nat):Calls Tryz.prog 98 #[.int .i32 (x:Int)] W λe w=>e=.returned (.bool (DI x))/\w=W:=
 (Tryz.odd63 x W).mono λe w h=>⟨by rw[h.1];unfold DI;cases Q0 ((x:Int)<32)<;>rfl,h.2⟩
theorem zrR(k n:Int)(s:zH)(W:World):Calls Tryz.prog 39 #[.agg #[.int .i64 k,.int .i64 n,.string ⟨s.toArray⟩]] W λe w=>e=.returned (.bool (bh (k,n,s)))/\RowKit.Below W.heap.size W w/\W.drawn<=w.drawn:=by
 have h:=λb=>Tryz.indexFunc64 (λr=>DI r) ⟨s.toArray⟩ b zrT
 have g:Lib.idxFunc (λr=>DI r) Q3 ⟨s.toArray⟩=qn s:=rfl;rw[g]at h;have a:bh (k,n,s)=bh (k,n,s):=rfl;generalize x:bh (k,n,s)=R at a|-;clear a;unfold bh at x;generalize qn s=I at h x
 go_enter Tryz.func39,Tryz.ntmps39
 go_wp2_with (go_at_call 99;refine(h _).mono ?_;rintro e w ⟨rfl,c,d⟩)
 all_goals
  go_ret
  refine⟨?_,?_,?_⟩
  .rw[<-x];congr 2;simp_all<;>(rw[<-x];first|(rw[ae ow];rfl)|(rw[beq_false_of_ne ‹¬n=0›];first|rfl|(rw[beq_false_of_ne ‹¬n=1›];rfl)))
  .first
   |exact(RowKit.Below.refl _ _).alloc (aj _) _
   |exact((RowKit.Below.refl _ W).alloc (aj _) _).trans (c.mono sw)
  .first
   |exact aj _
   |exact d
theorem US(W w:World)(a b c x y z:Value)(h:RowKit.Below ((W.alloc (.cells #[a,b,c] 30)).alloc (.cells #[x,y,z] 30)).heap.size ((W.alloc (.cells #[a,b,c] 30)).alloc (.cells #[x,y,z] 30)) w):
  w.cell? ⟨W.heap.size,0,Q2⟩=Q1 a/\w.cell? ⟨W.heap.size,1,Q2⟩=Q1 b/\w.cell? ⟨W.heap.size,2,Q2⟩=Q1 c/\
  w.cell? ⟨W.heap.size+1,0,Q2⟩=Q1 x/\w.cell? ⟨W.heap.size+1,1,Q2⟩=Q1 y/\w.cell? ⟨W.heap.size+1,2,Q2⟩=Q1 z/\
  w.frozen? ⟨W.heap.size+1,0,Q2⟩=Q4/\w.frozen? ⟨W.heap.size+1,1,Q2⟩=Q4/\w.frozen? ⟨W.heap.size+1,2,Q2⟩=Q4/\w.heap[W.heap.size+1]?=Q1 (.cells #[x,y,z] 30 (0,0)):=by
 have d:=h.block W.heap.size sg;have e:=h.block (W.heap.size+1) sw;have e0:((W.alloc (.cells #[a,b,c] 30)).alloc (.cells #[x,y,z] 30)).heap[W.heap.size]?=Q1 (.cells #[a,b,c] 30 (0,0)):=(bE _ _ _ sw).trans (cC _ _);have g:((W.alloc (.cells #[a,b,c] 30)).alloc (.cells #[x,y,z] 30)).heap[W.heap.size+1]?=Q1 (.cells #[x,y,z] 30 (0,0)):=by
  have:=cC (W.alloc (.cells #[a,b,c] 30)) (.cells #[x,y,z] 30)
  rwa [bt]at this
 rw[e0]at d;rw[g]at e;simp[World.cell?,World.frozen?,d,e]
theorem Mn(k n:Int)(s:zH)(W:World):Calls Tryz.prog 112 #[.agg #[.int .i64 k,.int .i64 n,.string ⟨s.toArray⟩]] W λe w=>e=.returned (.agg #[.int .i64 (aC (k,n,s)).1,.int .i64 (aC (k,n,s)).2.1,.string ⟨(aC (k,n,s)).2.2.toArray⟩])/\RowKit.Below W.heap.size W w/\W.drawn<=w.drawn:=by
 have h:=λa=>zrR k n s a
 unfold aC;generalize bh (k,n,s)=R at h|-
 go_enter Tryz.func112,Tryz.ntmps112
 go_wp2_with (go_at_call 39;refine(h _).mono ?_;rintro e w ⟨rfl,x,c⟩;obtain⟨i,j,l,m,o,q,t,u,v,b⟩:=US W w (.int .i64 k) (.int .i64 n) (.string ⟨s.toArray⟩) (.int .i64 0) (.int .i64 0) (.string ⟨#[]⟩) x)
 all_goals
  have d:RowKit.Below W.heap.size W w:=(((RowKit.Below.refl _ W).alloc (aj _) _).alloc sw _).trans (x.mono sg);have g:W.drawn<=w.drawn:=c;refine bodyPost_ret (results_cell_row rfl _ _ (W.heap.size+1) 30 _ (0,0) _ rfl (by simp[World.setCell,pO,b];rfl) Tryz.underlying30 rfl kw) rfl ⟨?_,?_,?_⟩
  .rfl
  .exact((d.setCell (p:=⟨W.heap.size+1,0,Q2⟩) sw _).setCell (p:=⟨W.heap.size+1,1,Q2⟩) sw _).setCell (p:=⟨W.heap.size+1,2,Q2⟩) sw _
  .exact g
set_option maxRecDepth 100000
theorem Yu(x:Int)(W:World):Calls Tryz.prog 182 #[.int .i64 x] W λe w=>e=.returned (.bool Q4)/\w=W:=by
 go_enter Tryz.func182,Tryz.ntmps182
 go_wp2
 go_ret
 exact⟨sw,rfl⟩
theorem Yv(x:Int)(W:World):Calls Tryz.prog 183 #[.int .i64 x] W λe w=>e=.returned (.bool Q4)/\w=W:=by
 go_enter Tryz.func183,Tryz.ntmps183
 go_wp2
 go_ret
 exact⟨sw,rfl⟩
theorem Yw(x:ByteArray)(W:World):Calls Tryz.prog 184 #[.string x] W λe w=>e=.returned (.bool Q4)/\w=W:=by
 go_enter Tryz.func184,Tryz.ntmps184
 go_wp2
 go_ret
 exact⟨sw,rfl⟩
theorem VU(x y:Int):tz x y=(ite (x<y) (-1) (ite (y<x) 1 0):Int):=by unfold tz;simp
theorem Tm(x y:Int):lq x y=(ite (x<y) (-1) (ite (y<x) 1 0):Int):=by unfold lq;simp
theorem zjB(x y:Int)(W:World):Calls Tryz.prog 114 #[.int .i64 x,.int .i64 y] W λe w=>e=.returned (.int .i64 (tz x y))/\w=W:=by
 have a:=λh=>Yu x h
 have b:=λh=>Yu y h
 rw[VU]
 go_enter Tryz.func114,Tryz.ntmps114
 go_wp2_with (first|(go_at_call 182;refine(a _).mono ?_;rintro e w ⟨rfl,rfl⟩)|(go_at_call 182;refine(b _).mono ?_;rintro e w ⟨rfl,rfl⟩))
 all_goals
  go_ret
  refine⟨?_,rfl⟩;congr 2
theorem zjC(x y:Int)(W:World):Calls Tryz.prog 115 #[.int .i64 x,.int .i64 y] W λe w=>e=.returned (.int .i64 (lq x y))/\w=W:=by
 have a:=λh=>Yv x h
 have b:=λh=>Yv y h
 rw[Tm]
 go_enter Tryz.func115,Tryz.ntmps115
 go_wp2_with (first|(go_at_call 183;refine(a _).mono ?_;rintro e w ⟨rfl,rfl⟩)|(go_at_call 183;refine(b _).mono ?_;rintro e w ⟨rfl,rfl⟩))
 all_goals
  go_ret
  refine⟨?_,rfl⟩;congr 2
theorem zjD(x y:zH)(W:World):Calls Tryz.prog 116 #[.string ⟨x.toArray⟩,.string ⟨y.toArray⟩] W λe w=>e=.returned (.int .i64 (pC x y))/\w=W:=by
 have b:=λh=>Yw ⟨x.toArray⟩ h
 have c:=λh=>Yw ⟨y.toArray⟩ h
 have d:∀h,(binOp .gtr 9 (.string ⟨x.toArray⟩) (.string ⟨y.toArray⟩)).run Tryz.prog h=.ok (.bool (!(Op.bytesLess x y||x==y))) h:=λh=>by simp[binOp,Op.stringOp]
 have a:pC x y=(ite (Op.bytesLess x y=Q3) (-1) (ite ((!(Op.bytesLess x y||x==y))=Q3) 1 0):Int):=by unfold pC;simp
 rw[a];clear a
 go_enter Tryz.func116,Tryz.ntmps116
 go_wp2_with (first|(go_at_call 184;refine(b _).mono ?_;rintro e w ⟨rfl,rfl⟩)|(go_at_call 184;refine(c _).mono ?_;rintro e w ⟨rfl,rfl⟩))
 all_goals
  go_ret
  refine⟨?_,rfl⟩;simp_all
theorem zta(x y z:Int)(b:Nat)(W:World)(g:W.cell? ⟨b,0,Q2⟩=Q1 (.int .i64 x))(i:W.cell? ⟨b,1,Q2⟩=Q1 (.int .i64 y))(j:W.cell? ⟨b,2,Q2⟩=Q1 (.int .i64 z)):
  Calls Tryz.prog 113 #[.slice (Q1 ⟨b,0,Q2⟩) 3 3] W λe w=>e=.returned (.int .i64 (I6 [x,y,z]))/\w=W:=by
 have d:I6 [x,y,z]=if x=0 then(ite (y=0) z y)else x:=by
  unfold I6;unfold I6;unfold I6;unfold I6;by_cases h:x=0<;>by_cases a:y=0<;>by_cases c:z=0<;>simp[h,a,c]
 rw[d];clear d
 go_enter Tryz.func113,Tryz.ntmps113
 go_wp2
 by_cases h:x=0
 .subst h;by_cases a:y=0
  .subst a;by_cases c:z=0
   .subst c;refine wp_loop_rounds 4 ?_
    (rw[rounds_succ];go_wp2)
    (rw[rounds_succ];go_wp2)
    (rw[rounds_succ];go_wp2)
    (rw[rounds_succ];go_wp2)
    go_ret
    exact⟨by simp[*],rfl⟩
   .refine wp_loop_rounds 4 ?_
    (rw[rounds_succ];go_wp2)
    (rw[rounds_succ];go_wp2)
    (rw[rounds_succ];go_wp2)
    go_ret
    exact⟨by simp[*],rfl⟩
  .refine wp_loop_rounds 4 ?_
   (rw[rounds_succ];go_wp2)
   (rw[rounds_succ];go_wp2)
   go_ret
   exact⟨by simp[*],rfl⟩
 .refine wp_loop_rounds 4 ?_
  (rw[rounds_succ];go_wp2)
  go_ret
  exact⟨by simp[*],rfl⟩
structure ztQ (p:Prop):Prop where
 out:p
variable {i:Value}
theorem Mm{A:World}{p:Nat}{a x y z:Value}(e0:A.heap[p]?=Q1 (.cells #[v,a,i] 30 (0,0)))(e:A.heap[q]?=Q1 (.cells #[x,y,z] 30 (0,0)))(h:RowKit.Below A.heap.size A b):
  b.heap[p]?=Q1 (.cells #[v,a,i] 30 (0,0))/\b.heap[q]?=Q1 (.cells #[x,y,z] 30 (0,0)):=
 ⟨(h.block p (lZ.1 e0).1).trans e0,(h.block q (lZ.1 e).1).trans e⟩
theorem pW{p:Nat}{g:Value}(e0:w.heap[p]?=Q1 (.cells #[v,g,i] 30 (0,0))):
  w.cell? ⟨p,0,Q2⟩=Q1 v/\w.cell? ⟨p,1,Q2⟩=Q1 g/\w.cell? ⟨p,2,Q2⟩=Q1 i/\w.frozen? ⟨p,0,Q2⟩=Q4/\w.frozen? ⟨p,1,Q2⟩=Q4/\w.frozen? ⟨p,2,Q2⟩=Q4:=by simp[World.cell?,World.frozen?,e0]
theorem zdu(k n:Int)(s:zH)(i j:Int)(l:zH)(W:World):Calls Tryz.prog 50 #[.agg #[.int .i64 k,.int .i64 n,.string ⟨s.toArray⟩],.agg #[.int .i64 i,.int .i64 j,.string ⟨l.toArray⟩]] W λe T=>e=.returned (.int .i64 (aV (k,n,s) (i,j,l)))/\RowKit.Below W.heap.size W T/\W.drawn<=T.drawn:=by
 have E:=λd=>Mn k n s d
 have g:=λd=>Mn i j l d
 have v:Tryz.prog.follows .mixedOrders=Q3:=by kernel_rfl
 unfold aV;generalize aC (k,n,s)=a at E|-;generalize aC (i,j,l)=b at g|-;obtain⟨w,y,z⟩:=a;obtain⟨B,C,D⟩:=b
 dsimp only at E g|-
 have O:=λd=>zjB w B d
 have P:=λd=>zjC y C d
 have S:=λd=>zjD z D d
 generalize tz w B=m1 at O|-;generalize lq y C=m2 at P|-;generalize pC z D=m3 at S|-
 go_enter Tryz.func50,Tryz.ntmps50
 go_wp2
 obtain⟨m,h⟩:∃m,(W.alloc (.cells #[.int .i64 k,.int .i64 n,.string ⟨s.toArray⟩] 30)).alloc (.cells #[.int .i64 i,.int .i64 j,.string ⟨l.toArray⟩] 30)=m:=⟨_,rfl⟩;have e0:m.heap[W.heap.size]?=Q1 (.cells #[.int .i64 k,.int .i64 n,.string ⟨s.toArray⟩] 30 (0,0)):=by rw[<-h];exact(bE _ _ _ sw).trans (cC _ _)
 have U:m.heap[W.heap.size+1]?=Q1 (.cells #[.int .i64 i,.int .i64 j,.string ⟨l.toArray⟩] 30 (0,0)):=by
  rw[<-h];have:=cC (W.alloc (.cells #[.int .i64 k,.int .i64 n,.string ⟨s.toArray⟩] 30)) (.cells #[.int .i64 i,.int .i64 j,.string ⟨l.toArray⟩] 30)
  rwa [bt]at this
 have q:RowKit.Below W.heap.size W m:=by rw[<-h];exact((RowKit.Below.refl _ W).alloc (aj _) _).alloc sw _
 have h0:W.drawn<=m.drawn:=by rw[<-h];exact aj _
 rw[h];clear h;obtain⟨c0,c1,c2,c3,c4,c5⟩:=pW e0;obtain⟨d0,d1,d2,d3,d4,d5⟩:=pW U;rename_i K J
 have c:∀x:World,x.heap[W.heap.size]?=Q1 (.cells #[.int .i64 w,.int .i64 y,.string ⟨z.toArray⟩] 30 (0,0))->x.heap[W.heap.size+1]?=Q1 (.cells #[.int .i64 B,.int .i64 C,.string ⟨D.toArray⟩] 30 (0,0))->RowKit.Below W.heap.size W x->W.drawn<=x.drawn->
   K {tmps:=#[.agg #[.int .i64 k,.int .i64 n,.string ⟨s.toArray⟩],.agg #[.int .i64 i,.int .i64 j,.string ⟨l.toArray⟩],.pointer (Q1 ⟨W.heap.size,0,Q2⟩),.pointer (Q1 ⟨W.heap.size+1,0,Q2⟩),.int .i64 0,.agg #[.int .i64 k,.int .i64 n,.string ⟨s.toArray⟩],.agg #[.int .i64 w,.int .i64 y,.string ⟨z.toArray⟩],.agg #[.int .i64 i,.int .i64 j,.string ⟨l.toArray⟩],.agg #[.int .i64 B,.int .i64 C,.string ⟨D.toArray⟩],undef,undef,undef,undef,undef,undef,undef,undef,undef,undef,undef,undef,undef,undef,undef,undef,undef],defers:=[]} x:=by
  intro x w0 F H hd3;apply J;clear J;have h5:W.heap.size+1<x.heap.size:=(lZ.1 F).1;obtain⟨x0,x1,x2,x3,x4,x5⟩:=pW w0;obtain⟨y0,y1,y2,y3,y4,y5⟩:=pW F
  go_wp2
  go_still_tail 15,v
  still_call (O _)
  repeat still_step
  still_call (P _)
  repeat still_step
  still_call (S _)
  refine wpStill_nil ?_;change wpList _ _ _ _ _ x.drew;have u:W.drawn<=x.drew.drawn:=aX hd3 (Nat.le_succ _);have t:RowKit.Below W.heap.size W x.drew:=H.drew;generalize x.drew=W4 at u t|-
  go_wp2_with (go_at_call 113;refine(zta m1 m2 m3 W4.heap.size _ sw sw sw).mono ?_;rintro e T ⟨rfl,rfl⟩)
  go_ret
  exact⟨rfl,t.alloc t.size _,u⟩
 have L:=ztQ.mk c;clear J c O P S
 go_region_with (first
  |(go_at_call 112;refine(E _).mono ?_;clear E;rintro e F ⟨rfl,o,hd3⟩;obtain⟨X,Y⟩:=Mm (A:=m.drew) e0 U o;obtain⟨p0,p1,p2,p3,p4,p5⟩:=pW X;obtain⟨q0,q1,q2,q3,q4,q5⟩:=pW Y)
  |(go_at_call 112;refine(g _).mono ?_;clear g;rintro e w2 ⟨rfl,G,u⟩;obtain⟨Z,g1⟩:=Mm X Y G;obtain⟨r0,r1,r2,r3,r4,r5⟩:=pW Z;obtain⟨s0,s1,s2,s3,s4,s5⟩:=pW g1))
 all_goals
  refine L.out _ ?_ ?_ ?_ ?_
  .simp[World.setCell,pO,Z]
  .simp[World.setCell,pO,g1]
  .have M:=o.size;have h3:=G.size;have I:RowKit.Below W.heap.size W w2:=(q.trans ((RowKit.Below.mono ⟨o.os,o.tape,o.output,o.size,o.block⟩ q.size))).trans (G.mono (aX q.size M));exact(((((I.setCell (p:=⟨W.heap.size,0,Q2⟩) sw _).setCell (p:=⟨W.heap.size,1,Q2⟩) sw _).setCell (p:=⟨W.heap.size,2,Q2⟩) sw _).setCell (p:=⟨W.heap.size+1,0,Q2⟩) sw _).setCell (p:=⟨W.heap.size+1,1,Q2⟩) sw _).setCell (p:=⟨W.heap.size+1,2,Q2⟩) sw _
  .have h4:m.drawn+1<=F.drawn:=hd3;have N:W.drawn<=w2.drawn:=by omega
   simpa[World.setCell]using N
end
end Cad
namespace Go.Proofs
open Cad (F5 aL aX aj eA gE gF lZ pL pQ pj)
open Go.RowKit Go.Shelf
open Bool renaming false→Q4,true→Q3
open Option renaming none→Q2,some→Q1
open Decidable renaming decide→Q0
open List (length)
attribute [local go_sem] Oper.semAt_some
abbrev R12:={l:List Value//l.length=12/\∀v∈l,v.oneCell'=Q3}
theorem run_store_one(v:Value)(h:v.oneCell'=Q3)(w:World)(a:Addr)(hc:(w.cell? a).isSome=Q3)(hf:w.frozen? a=Q4):Sem.run Tryz.prog (store a v) w=.ok () (w.setCell a v):=by obtain⟨u,hu⟩:=Option.isSome_iff_exists.1 hc;unfold store;cases v<;>first|(simp[Value.oneCell']at h;done)|simp[Sem.run,hu,hf]
set_option maxRecDepth 100000 in
set_option maxHeartbeats 2000000 in
theorem Tryz.values1_in(F:Fence)(n:Nat)(h7:F.fn 139)(hro:F.round=Q2)(hn:1<=n)(l Bs n₀ b off cap:Nat)(zs:List R12)(hreach:zs.length<=1000)(hb:b<n₀)(J Jx:List R12->World->Prop)(W:World)(hn₀:n₀<=W.heap.size)(hJ:AbidesFrom W.heap.size J)
  (hY:∀pre x W,J pre W->pre.length<zs.length->YieldAt F (n-1) Tryz.prog l #[.agg x.1.toArray] W λe W'=>
   (e=.returned (.bool Q3)/\J (pre++[x]) W'/\Below n₀ W W')\/(e=.returned (.bool Q4)/\Jx (pre++[x]) W'))
  (hBs:W.cell? ⟨Bs,0,Q2⟩=Q1 (.slice (Q1 ⟨b,off,Q2⟩) zs.length cap)) (hc:∀i(hi:i<zs.length),∀j v,zs[i].1[j]?=Q1 v->W.cell? ⟨b,off+i*12+j,Q2⟩=Q1 v) (h0:J [] W):
  CallsIn F n Tryz.prog 139 #[.func (.yield l) #[] #[],.pointer (Q1 ⟨Bs,0,Q2⟩)] W λe W'=>(∃v,e=.returned v)/\
   ((∃ys,ys=zs/\J ys W')\/(∃pre,(∃k,k<=zs.length/\pre=zs.take k)/\Jx pre W')):=by
 refine callsIn_of_wp Tryz.func139 rfl h7 ?_ hro;simp only[Tryz.ntmps139,List.size_toArray,eA,pj,Nat.reduceAdd,Nat.reduceSub,Array.replicate_succ,Array.replicate_zero,List.push_toArray,List.append_toArray,F5,List.cons_append]
 gi_wp2
 gi_loopw [7] (λi wr=>∃k:Nat,k<=zs.length/\i=.int .i64 k/\J (zs.take k) wr/\Below n₀ W wr)
  (λi _=>zs.length-(intOf i).toNat)
 case atStart=>exact⟨0,aL _,rfl,h0,Below.refl _ _⟩
 case round=>
  obtain⟨k,hk,rfl,hJs,hnx⟩:=hrel;by_cases hlt:k<zs.length
  .have hcx:∀j v,zs[k].1[j]?=Q1 v->wr.cell? ⟨b,off+k*12+j,Q2⟩=Q1 v:=λj v h=>(hnx.cell (p:=⟨b,off+k*12+j,Q2⟩) hb).trans (hc k hlt j v h)
   have hYx:=λW' h=>hY (zs.take k) zs[k] W' h (by rw[pQ];omega)
   have htk:zs.take k++[zs[k]]=zs.take (k+1):=List.take_append_getElem hlt;rw[htk]at hYx;generalize hx:zs[k]=x at hYx hcx;obtain⟨xs,hxl,hx1⟩:=x
   match xs,hxl with
   |[v0,v1,v2,v3,v4,v5,v6,v7,v8,v9,v10,v11],_=>
   have c0:=hcx 0 v0 rfl;have c1:=hcx 1 v1 rfl;have c2:=hcx 2 v2 rfl;have c3:=hcx 3 v3 rfl;have c4:=hcx 4 v4 rfl;have c5:=hcx 5 v5 rfl;have c6:=hcx 6 v6 rfl;have c7:=hcx 7 v7 rfl;have c8:=hcx 8 v8 rfl;have c9:=hcx 9 v9 rfl;have c10:=hcx 10 v10 rfl;have c11:=hcx 11 v11 rfl;rw[pL]at c0;have d0:=run_store_one v0 (hx1 v0 (by simp));have d1:=run_store_one v1 (hx1 v1 (by simp));have d2:=run_store_one v2 (hx1 v2 (by simp));have d3:=run_store_one v3 (hx1 v3 (by simp));have d4:=run_store_one v4 (hx1 v4 (by simp));have d5:=run_store_one v5 (hx1 v5 (by simp));have d6:=run_store_one v6 (hx1 v6 (by simp));have d7:=run_store_one v7 (hx1 v7 (by simp));have d8:=run_store_one v8 (hx1 v8 (by simp));have d9:=run_store_one v9 (hx1 v9 (by simp));have d10:=run_store_one v10 (hx1 v10 (by simp));have d11:=run_store_one v11 (hx1 v11 (by simp));have hJa:J (zs.take k) (wr.alloc (.cells #[v0,v1,v2,v3,v4,v5,v6,v7,v8,v9,v10,v11] 38)):=hJ _ _ _ Q2 hJs (World.grownBy_alloc _ _ _) (λr e=>by cases e);have hba:Below n₀ wr (wr.alloc (.cells #[v0,v1,v2,v3,v4,v5,v6,v7,v8,v9,v10,v11] 38)):=(Below.refl _ _).alloc (by have:=hnx.size;omega) _;obtain⟨fn,tmps,assign,body,hy,hR⟩:=hYx _ hJa
   dsimp only at hy hR
   gi_wp2
   refine hR.mono ?_;rintro e W3 (⟨rfl,hJ3,hk3⟩|⟨rfl,hJx3⟩)
   .gi_wp2
    go_roundw
    case rel=>exact⟨k+1,by omega,by simp,hJ3,(hnx.trans hba).trans hk3⟩
    case measure=>simp[intOf];omega
   .gi_wp2
    refine bodyPost_ret (results_none rfl _ _ _) rfl ?_;exact⟨⟨_,rfl⟩,.inr ⟨_,⟨k+1,by omega,rfl⟩,hJx3⟩⟩
  .obtain rfl:k=zs.length:=by omega
   gi_wp2
   go_end0
   exact⟨⟨_,rfl⟩,.inl ⟨_,rfl,by rwa [gF]at hJs⟩⟩
theorem Tryz.values_stops(F:Fence)(n:Nat)(h7:F.fn 139)(hro:F.round=Q2)(hn:1<=n)(Bs n₀ b off cap:Nat)(zs:List R12)(hreach:zs.length<=1000)(w:World)(hBs:Bs<w.heap.size)(hn₀:n₀<=w.heap.size)(hb:b<n₀)
  (hs:w.cell? ⟨Bs,0,Q2⟩=Q1 (.slice (Q1 ⟨b,off,Q2⟩) zs.length cap)) (hc:∀i(hi:i<zs.length),∀j v,zs[i].1[j]?=Q1 v->w.cell? ⟨b,off+i*12+j,Q2⟩=Q1 v):
  SeqStopsK F n Tryz.prog 139 #[.pointer (Q1 ⟨Bs,0,Q2⟩)] (λx:R12=>#[.agg x.1.toArray]) (Below n₀) (λys=>ys=zs) (λpre=>pre<+:zs) zs.length w:=λl J Jx W hW hJ _ hY h0=>by
 refine(Tryz.values1_in F n h7 hro hn l Bs n₀ b off cap zs hreach hb J Jx W (aX hn₀ hW.size) hJ hY ((hW.cell (p:=⟨Bs,0,Q2⟩) hBs).trans hs) (λi hi j v h=>(hW.cell (p:=⟨b,off+i*12+j,Q2⟩) (gE hb hn₀)).trans (hc i hi j v h)) h0).mono ?_;rintro e W' ⟨he,⟨ys,hy,hj⟩|⟨pre,⟨k,hk,rfl⟩,hj⟩⟩
 .exact⟨he,.inl ⟨ys,hy,hj⟩⟩
 .exact⟨he,.inr ⟨_,List.take_prefix _ _,hj⟩⟩
theorem Tryz.info38:(Tryz.prog.info? 38).map (λi=>(i.zero,i.size,i.bytes))=Q1 (Q1 (.agg #[.string ⟨#[]⟩,.slice Q2 0 0,.int .i64 0,.slice Q2 0 0,.slice Q2 0 0,.string ⟨#[]⟩,.int .i64 0,.int .i64 0,.string ⟨#[]⟩,.string ⟨#[]⟩,.slice Q2 0 0,.slice Q2 0 0]),12,208):=by kernel_rfl
def flat12(l:List R12):List Value:=l.flatMap λx=>x.1
theorem flat12_snoc(l:List R12)(x:R12):flat12 (l++[x])=flat12 l++x.1:=by simp[flat12]
theorem cell_row_new(w:World)(l:List Value)(t:TypeId):∀j u,l[j]?=Q1 u->(w.alloc (.cells l.toArray t)).cell? ((⟨w.heap.size,0,Q2⟩:Addr).add j)=Q1 u:=by
 intro j u h;unfold Addr.add;split
 next e=>subst e;simp[h]
 .simp[h]
theorem cells_own(B:Nat)(vs:Array Value)(t:TypeId):Own (λ(_:Unit) W=>W.heap[B]?=Q1 (.cells vs t (0,0))):=λs X Y row hs hg hrow=>
 (hg.block B (lZ.1 hs).1 (λe'=>by obtain⟨o,ho,hc⟩:=hrow B e'.symm;rw[hs]at ho;cases ho;cases hc)).trans hs
set_option maxRecDepth 100000 in
set_option maxHeartbeats 2000000 in
theorem Tryz.appendSeq_in(F:Fence)(n:Nat)(h3:F.fn 196)(h5:F.fn 139)(hro:F.round=Q2)(hn:3<=n)(Bs b off cap:Nat)(zs:List R12)(hreach:zs.length<=1000)(w:World)(hBs:Bs<w.heap.size)(hb:b<w.heap.size)
  (hs:w.cell? ⟨Bs,0,Q2⟩=Q1 (.slice (Q1 ⟨b,off,Q2⟩) zs.length cap)) (hc:∀i(hi:i<zs.length),∀j v,zs[i].1[j]?=Q1 v->w.cell? ⟨b,off+i*12+j,Q2⟩=Q1 v):
  CallsIn F n Tryz.prog 196 #[.slice Q2 0 0,.func (.func 139) #[] #[.pointer (Q1 ⟨Bs,0,Q2⟩)]] w λe W'=>∃v,e=.returned v/\W'.ownsRow w.heap.size 38 12 v zs.length (flat12 zs)/\Below w.heap.size w W':=by
 have h1:1<=n:=by omega
 obtain⟨i0,hi,hz0,hz1,hz2⟩:=info_parts Tryz.info38;refine callsIn_of_wp_marks Tryz.func196 rfl h3 ?_ hro;simp only[Tryz.ntmps196,List.size_toArray,eA,pj,Nat.reduceAdd,Nat.reduceSub,Array.replicate_succ,Array.replicate_zero,List.push_toArray,List.append_toArray,F5,List.cons_append]
 gi_wp2
 have bO:=Boxed.new w 42 (.slice Q2 0 0);have hB0:Below w.heap.size w (w.alloc (.cells #[.slice Q2 0 0] 42)):=(Below.refl _ w).alloc (aj _) _
 refine wpIn_rangeFunc_ownH hro h1 (gf:=139) (lb:=#[.pointer (Q1 ⟨Bs,0,Q2⟩)]) rfl h5 (enters_of Tryz.func139 (by kernel_rfl) rfl)
  (Tryz.values_stops F (n-1) h5 hro (by omega) Bs w.heap.size b off cap zs hreach _ (by simp<;>omega) (by simp) hb ((hB0.cell (p:=⟨Bs,0,Q2⟩) hBs).trans hs) (λi hi j v h=>(hB0.cell (p:=⟨b,off+i*12+j,Q2⟩) hb).trans (hc i hi j v h))) belowK_t (belowK_b (by simp<;>omega)) (Below.refl _ _) (λ_=>rfl)
  (λpre W=>(∃v,Boxed W w.heap.size 42 v/\W.ownsRow w.heap.size 38 12 v pre.length (flat12 pre)/\(v=.slice Q2 0 0↔pre=[]))/\Below w.heap.size w W)
  (λ_ _ _=>False)
  (OwnFrom.and (Own.from (holdsRow_own w.heap.size w.heap.size 42 38 12 (λpre=>pre.length) (λpre=>flat12 pre) (λpre v=>v=.slice Q2 0 0↔pre=[])) _) (ownFrom_below (aj _) (by simp<;>omega)))
  (λ_ _ _ _ _ hs _ _=>hs)
  ⟨⟨_,bO,World.ownsRow_nil _ _ _ _,by simp⟩,hB0⟩
  (λx a' W=>∃Bx,w.heap.size<Bx/\W.heap[Bx]?=Q1 (.cells x.1.toArray 38 (0,0))/\a'={tmps:=#[.slice Q2 0 0,.func (.func 139) #[] #[.pointer (Q1 ⟨Bs,0,Q2⟩)],.pointer (Q1 ⟨w.heap.size,0,Q2⟩),undef,.slice Q2 0 0,.pointer (Q1 ⟨Bx,0,Q2⟩),.func (.func 139) #[] #[.pointer (Q1 ⟨Bs,0,Q2⟩)],.agg x.1.toArray,undef,undef,undef,undef,undef],defers:=[]})
  (λx a' _ X Y row hs hg hr=>by obtain⟨Bx,h1,h2,h3⟩:=hs;exact⟨Bx,h1,cells_own Bx x.1.toArray 38 () X Y row h2 hg (λr e=>(hr r e).2),h3⟩)
  ?assign ?body ?done ?stop
 case assign=>
  rintro l pre ⟨xs,hxl,hx1⟩ W K ⟨⟨v,hv,hrow,hnil⟩,hB⟩ hK
  match xs,hxl with
  |[v0,v1,v2,v3,v4,v5,v6,v7,v8,v9,v10,v11],_=>
  have d0:=run_store_one v0 (hx1 v0 (by simp));have d1:=run_store_one v1 (hx1 v1 (by simp));have d2:=run_store_one v2 (hx1 v2 (by simp));have d3:=run_store_one v3 (hx1 v3 (by simp));have d4:=run_store_one v4 (hx1 v4 (by simp));have d5:=run_store_one v5 (hx1 v5 (by simp));have d6:=run_store_one v6 (hx1 v6 (by simp));have d7:=run_store_one v7 (hx1 v7 (by simp));have d8:=run_store_one v8 (hx1 v8 (by simp));have d9:=run_store_one v9 (hx1 v9 (by simp));have d10:=run_store_one v10 (hx1 v10 (by simp));have d11:=run_store_one v11 (hx1 v11 (by simp))
  gi_wp2
  exact hK _ _ ((KeepsOthers.alloc _ _).from _) ((Below.refl _ W).alloc hB.size _) ⟨⟨v,hv.alloc _,hrow.alloc _,hnil⟩,hB.alloc hB.size _⟩ ⟨W.heap.size,hv.lt,World.alloc_heap_new W _,rfl⟩
 case body=>
  rintro l pre ⟨xs,hxl,hx1⟩ a' W hl ⟨r,hr⟩ ⟨⟨v,hv,hrow,hnil⟩,hB⟩ ⟨Bx,hBx,hX,rfl⟩ hlt
  match xs,hxl with
  |[v0,v1,v2,v3,v4,v5,v6,v7,v8,v9,v10,v11],_=>
  have hcv:=hv.cell
  dsimp only at hX
  have c0:W.cell? ⟨Bx,0,Q2⟩=Q1 v0:=by simp[World.cell?,hX]
  have c1:W.cell? ⟨Bx,1,Q2⟩=Q1 v1:=by simp[World.cell?,hX]
  have c2:W.cell? ⟨Bx,2,Q2⟩=Q1 v2:=by simp[World.cell?,hX]
  have c3:W.cell? ⟨Bx,3,Q2⟩=Q1 v3:=by simp[World.cell?,hX]
  have c4:W.cell? ⟨Bx,4,Q2⟩=Q1 v4:=by simp[World.cell?,hX]
  have c5:W.cell? ⟨Bx,5,Q2⟩=Q1 v5:=by simp[World.cell?,hX]
  have c6:W.cell? ⟨Bx,6,Q2⟩=Q1 v6:=by simp[World.cell?,hX]
  have c7:W.cell? ⟨Bx,7,Q2⟩=Q1 v7:=by simp[World.cell?,hX]
  have c8:W.cell? ⟨Bx,8,Q2⟩=Q1 v8:=by simp[World.cell?,hX]
  have c9:W.cell? ⟨Bx,9,Q2⟩=Q1 v9:=by simp[World.cell?,hX]
  have c10:W.cell? ⟨Bx,10,Q2⟩=Q1 v10:=by simp[World.cell?,hX]
  have c11:W.cell? ⟨Bx,11,Q2⟩=Q1 v11:=by simp[World.cell?,hX]
  gi_wp2_with (gi_at_builtin;refine wpListIn_append_own _ rfl _ _ 42 rfl w.heap.size 38 i0 _ 12 208 Tryz.underlying42 hi hz0 hz1 hz2 rfl (by decide) _ _ _ rfl (hrow.alloc _) ⟨W.heap.size,0,Q2⟩ 1 1 [v0,v1,v2,v3,v4,v5,v6,v7,v8,v9,v10,v11] rfl rfl (cell_row_new _ _ _) hx1 (by unfold maxLen;omega) (by omega) (by have:=hB.size;simp;omega) ?_;intro v' w1 hown' hgrow _;obtain⟨g',cap',rfl⟩:=ownsRow_succ hown';obtain⟨hv1,hv2,hr2,hk2,hb2⟩:=hv.appended (by decide) hrow hB.size (aj _) hown' hgrow;have hc1:=hv1.cell;have hf1:=hv1.frozen)
  exact⟨hk2.from _,hb2,⟨_,hv2,by rw[flat12_snoc];simpa using hr2,by simp⟩,hB.trans hb2⟩
 case done=>
  rintro D ys W hD rfl ⟨⟨v,hv,hrow,hnil⟩,hB⟩ hK;have hc:=hv.cell
  gi_wp2
  refine⟨by simp,.inl ⟨_,_,rfl,run_takeDeferred hK,?_⟩⟩;exact⟨_,results_tmp rfl _ _ _,v,rfl,ownsRow_putObj hrow _ hK rfl,hB.trans (belowK_b (w:=w) (aj _) W D _ _ (by simp at hD;omega) hK rfl rfl)⟩
 case stop=>
  rintro D c pre W _ _ h _;exact h.elim
set_option maxHeartbeats 1000000 in
theorem Tryz.collect_in(F:Fence)(n:Nat)(h2:F.fn 137)(h3:F.fn 196)(h5:F.fn 139)(hro:F.round=Q2)(hn:4<=n)(Bs b off cap:Nat)(zs:List R12)(hreach:zs.length<=1000)(w:World)(hBs:Bs<w.heap.size)(hb:b<w.heap.size)
  (hs:w.cell? ⟨Bs,0,Q2⟩=Q1 (.slice (Q1 ⟨b,off,Q2⟩) zs.length cap)) (hc:∀i(hi:i<zs.length),∀j v,zs[i].1[j]?=Q1 v->w.cell? ⟨b,off+i*12+j,Q2⟩=Q1 v):
  CallsIn F n Tryz.prog 137 #[.func (.func 139) #[] #[.pointer (Q1 ⟨Bs,0,Q2⟩)]] w λe W'=>∃v,e=.returned v/\W'.ownsRow w.heap.size 38 12 v zs.length (flat12 zs)/\Below w.heap.size w W':=by
 have h1:1<=n:=by omega
 refine callsIn_of_wp Tryz.func137 rfl h2 ?_ hro;simp only[Tryz.ntmps137,List.size_toArray,eA,pj,Nat.reduceAdd,Nat.reduceSub,Array.replicate_succ,Array.replicate_zero,List.push_toArray,List.append_toArray,F5,List.cons_append]
 gi_wp2_with (gi_at_call 196;refine(Tryz.appendSeq_in F (n-1) h3 h5 hro (by omega) Bs b off cap zs hreach w hBs hb hs hc).mono ?_;rintro e w' ⟨v,rfl,hv1,hv2⟩)
 go_ret
 exact⟨v,rfl,hv1,hv2⟩
end Go.Proofs
namespace Cad
open Go Go.Proofs
open List renaming length→Io
open IntKind renaming wrap→Γ,i64→Δ
open AV renaming agg→Qd
open Tr renaming val→Q8
open Sh renaming bool→Q7,str→Q6
open Bool renaming false→Q4,true→Q3
open Option renaming none→Q2,some→Q1
open Decidable renaming decide→Q0
set_option maxHeartbeats 4000000
open Tr (chk br)
open AV (nils agg tup ptr kb str sl)
theorem Da:∀(l:List R12)(i j:Nat)(h:i<Io l),j<12->(flat12 l)[i*12+j]?=l[i].1[j]?
 | x::r,0,j,_,hj=>by
  show(x.1++flat12 r)[0*12+j]?=x.1[j]?;rw[kC (by rw[x.2.1];omega),Nat.zero_mul,er]
 | x::r,i+1,j,h,hj=>by
  show(x.1++flat12 r)[(i+1)*12+j]?=_;rw[jd (by rw[x.2.1];omega),x.2.1,show(i+1)*12+j-12=i*12+j by omega,Da r i j (by simpa using h) hj];rfl
@[match_pattern] abbrev ztb:Sh:=.pr (.pr .str (.pr (.sl (.pr .str (.pr (.int .i64) .bool))) (.pr (.int .i64) (.pr (.sl (.int .i64)) (.pr (.sl (.pr (.int .i64) .str)) .expr))))) (.sl (.sl (.pr (.int .i64) (.pr (.int .i64) .str))))
def F91:z8:=λa h n=>match a with
 | [.clo (.func 139) [] [.ptr id 0]]=>match h id with
  |.box [.sl ztb l]=>.chk (Q0 (0<Io l)) (.chk (Q0 (Io l<=1000)) (.ok {val:=.vec n,nw:=[.vec zk l]}))
  |_=>.err
 |_=>.err
theorem Om{w:World}{U:Nat->Prop}{a:Nat->Option Value}{hp:Nat->AO}{n q:Nat}{l:zP}{v:Value}(h5:∀b,U b->b<w.heap.size)(J:w.cell? ⟨q,0,Q2⟩=Q1 v)(hr:Rv w U a (.sl zk l) v)(hn:a n=Q2)(h0:0<Io l)(I:Io l<=1000):
  Calls Tryz.prog 137 #[.func (.func 139) #[] #[.pointer (Q1 ⟨q,0,Q2⟩)]] w λe O=>∃m U' ρ',e=.returned m/\Ef n hp {val:=.vec n,nw:=[.vec zk l]} w U a m O U' ρ':=by
 obtain⟨d,P,rfl,h7,hm,h⟩:=J9 hr;rcases h with rfl|⟨b,o,rfl,X⟩
 .simp at h0
 have T:zk.size=12:=rfl;have u:∀i(B:i<Io l) j,j<12->∃c x,(zx zk l[i])[j]?=Q1 c/\w.cell? ⟨b,o+i*12+j,Q2⟩=Q1 x/\Rv w U a c x/\x.oneCell'=Q3:=by
  intro i B j D;have M:(zx zk l[i]).length=12:=ag zk l[i];have t:(zx zk l[i])[j]?=Q1 ((zx zk l[i])[j]'(by rw[M];exact D)):=zZ _;obtain⟨x,I,s⟩:=X i B j _ t;exact⟨_,x,t,I,s,fT zk l[i] j _ x t s⟩
 have H:b<w.heap.size:=by
  obtain⟨c,x,_,s,_⟩:=u 0 h0 0 ow;exact uH s
 let z:List R12:=List.ofFn λi:Fin (Io l)=>⟨(List.range 12).map λj=>(w.cell? ⟨b,o+i.1*12+j,Q2⟩).getD undef,sw,λm F=>by
  obtain⟨j,D,rfl⟩:=aE.1 F;obtain⟨c,x,_,s,_,h4⟩:=u i.1 i.2 j (by simpa using D);rw[s];exact h4⟩
 have y:Io z=Io l:=by simp[z]
 have h6:∀i(B:i<Io z),∀j m,z[i].1[j]?=Q1 m->w.cell? ⟨b,o+i*12+j,Q2⟩=Q1 m:=by
  intro i B j m F;simp only[z,List.getElem_ofFn,dt,dq]at F;obtain⟨k,hq,F⟩:=F;obtain⟨W,rfl⟩:=yi hq;obtain⟨c,x,_,s,_,_⟩:=u i (by rw[<-y];exact B) k W;rw[s]at F;rw[s,<-F];rfl
 refine(callsIn_wide.1 (Tryz.collect_in Fence.wide 4 trivial trivial trivial rfl ow q b o P z ow w (uH J) H (by rw[y];exact J) h6)).mono ?_;rintro e O ⟨m,rfl,N,p⟩;rcases N.2 with⟨_,h⟩|⟨g,A,S,rfl,hg,hG,h8,_,Y,Z⟩
 .omega
 have L:g<O.heap.size:=(lZ.1 hG).1
 obtain⟨G,u1,u2,u3⟩:∃G:Nat->Prop,(∀b,b<w.heap.size->(G b↔U b))/\G g/\∀b,G b->b<O.heap.size:=
  ⟨λb=>U b\/b=g,λb H=>⟨λh=>h.elim id λe=>zC e ow,.inl⟩,.inr rfl,λb h=>by
   rcases h with h|rfl
   .exact gE (h5 b h) p.size
   .exact L⟩
 have E:∀{c:AV}{x:Value},Rv w U a c x->Rv O G (jI a n (.slice (Q1 ⟨g,0,Q2⟩) (Io z) A)) c x:=λh=>h.mono p.size (λb' C _=>p.block b' C) (λb H h=>(u1 b H).1 h) (ff hn)
 refine⟨_,G,_,rfl,Ef.newVec sw hn rfl (kA.below p) (λb H _=>p.block b H) u3 u1 ?_ ?_⟩
 .refine⟨_,A,by rw[y];simp[jI],hm,.inr ⟨g,38,S,rfl,ow,u2,hG,Y,ow,?_⟩⟩;intro i B j c hc;have D:j<12:=by have:=(cR.1 hc).1;rwa [ag]at this
  obtain⟨c',x,I,s,h3,_⟩:=u i B j D;rw[hc]at I;cases I;refine⟨x,?_,E h3⟩;have hz:(flat12 z)[i*12+j]?=Q1 x:=by
   rw[Da z i j (by rw[y];exact B) D];simp only[z,List.getElem_ofFn,dt];rw[yI D];simp[s]
  rw[<-Z]at hz;have:=List.getElem?_take.symm.trans hz;split at this
  .rw[T,<-ph];exact this
  .cases this
 .intro b' C;simp[bJ]at C;exact .inl ow
theorem zpc:FK 137 F91 where
 fn:=⟨Tryz.f137,kw,kw,kw⟩
 calls:=λw U ρ W n s v f y h b p F j k E m=>by
  unfold F91 at h;split at h
  .rename_i id;split at h
   .rename_i l i;simp only[Tr.val_chk,Tr.val_ok,bj,aR]at h;obtain⟨z,A,rfl⟩:=h;have G:=b.len
    match v,G,b with
    |[M],_,b=>
    have J:=b.rv 0 _ M rfl rfl;cases J with
    |clo _ _ _ O N h D H x=>
    match O,h,N,D,x with
    |[],_,[I],_,x=>
    have L:=x 0 _ I rfl rfl;cases L with
    |ptr _ _ S g=>
    have q:id∈y:=k id (by simp[AV.idsL,AV.ids]);have u:=j.ob id q;rw[i]at u;obtain⟨P,T,c,t,C,d,a,B⟩:=u;rw[g]at t;cases t;have e:=a.len;have o:=a.rv 0 _ (c.toList[0]'(by rw[<-e];simp)) rfl (zZ _);refine⟨Om p ?_ o (m 0 sw) z A,sw⟩;rw[World.cell?,d];simp
   .simp at h
  .simp at h
end Cad
