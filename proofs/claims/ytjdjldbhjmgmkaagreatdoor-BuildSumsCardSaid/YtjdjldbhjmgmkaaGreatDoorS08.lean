/- Words, names, runs of octets. -/
import Derived.Test.YtjdjldbhjmgmkaaGreatDoorS07
import Derived.RegionTactic
import Derived.RegionCalls
import Derived.Deep.RegionWith
import Derived.StillTailTactics
import Derived.RangeFuncBox
import Derived.RangeFuncNested
import Derived.RangeFuncBound
import Derived.RangeFuncCalls
import Derived.RangeFuncLeaves
import Derived.Shelf.Abstract
import Derived.OwnWalkIn
import Derived.TacticsInMore
import Derived.LoopNIn
import Derived.LoopIn
import Derived.Maps.AppendAt
namespace Cad
open Go Go.Proofs
open List renaming length→Io
open IntKind renaming wrap→Γ,i64→Δ
open AV renaming agg→Qd
open Tr renaming val→Q8
open Sh renaming bool→Q7,str→Q6
open Bool renaming false→Q4,true→Q3
open Option renaming none→Q2,some→Q1
open Decidable renaming decide→Q0
open Tr (chk br)
open AV (nils agg tup ptr kb str sl)
noncomputable section
def swT{β:Type}(l:β->zO)(s:zH):List (zH×β)->β->Tr zO
 |[],d=>.ok (l d)
 |(w,b)::r,d=>.br (s==w) (.ok (l b)) (swT l s r d)
def SI{β:Type}(s:zH):List (zH×β)->β->β
 |[],d=>d
 |(w,b)::r,d=>if s==w then b else SI s r d
theorem J8{β:Type}{x:β->zO}{s:zH}{d:β}{Φ:zO->Prop}:∀(l:List (zH×β)),Φ (x (SI s l d))->(swT x s l d).Sat Φ
 |[],h=>h
 | (w,b)::r,h=>by
  refine⟨λa=>?_,λa=>J8 r ?_⟩
  .simp only[SI]at h;rw[ze a]at h;exact h
  .simp only[SI]at h;rw[zg (by rw[a];simp)]at h;exact h
def Fe:List (zH×Bool):=[(VP,Q3),([79,82],Q3),([78,79,84],Q3),([73,83],Q3),(Fs,Q3),(Ii,Q3),(Ih,Q3),(zcg,Q3),(zcs,Q3),(Ce,Q3),(Cf,Q3),(Cd,Q3),([75,69,89],Q3),([85,78,73,81,85,69],Q3),(zpK,Q3),(iv,Q3),(zck,Q3),(zcm,Q3),(zcn,Q3),(zcu,Q3),(zct,Q3),([83,69,84],Q3),(md,Q3),(zci,Q3),(uC,Q3),(zcr,Q3),(zcl,Q3),(Tm,Q3),([87,82,73,84,69],Q3),(Ft,Q3),([84,79],Q3),(zcp,Q3),(zco,Q3),(Tj,Q3),(Tl,Q3),(Tk,Q3),(Fr,Q3),(Fu,Q3)]
def Aq:List (zH×Int):=[(ou,0),(eL,0),(ni,1),(po,1),(iw,2),(uD,2),([61],2),([60],2),([43],2),([45],2)]
def jy(s:zH):Bool:=SI s Fe Q4
def dp(s:zH):Int:=SI s Aq (-1)
def ap(c:Int):Bool:=bif Q0 (c>=48)then Q0 (c<=57)else Q4
def ba(c:Int):Bool:=bif Q0 (c>=97)then
  bif Q0 (c<=122)then Q3 else bif Q0 (c>=65)then Q0 (c<=90)else Q4
 else bif Q0 (c>=65)then Q0 (c<=90)else Q4
def bQ(c:Int):Bool:=bif ba c then Q3 else bif ap c then Q3 else c==95
def tD:cg:=(((zqe.aut 308 Tryz.f308 1).aut 309 Tryz.f309 1).aut 307 Tryz.f307 1).aut 269 Tryz.f269 0
theorem no:zw tD:=by refine iC (iC (iC (iC WA ?_) ?_) ?_) ?_<;>(refine⟨?_,?_,?_,?_⟩<;>kernel_rfl)
theorem zuV(s:zH):run tD 0 (λ_=>{}) Tryz.f174.results.toList 400 (bq Tryz.f174) (aW Tryz.f174.ntmps [.str s] [])=swT (λb=>.ret (.kb b) []) s Fe Q4:=kw
theorem zsl:zM tD.P 174 Tryz.f174 1:=bL kw
theorem zov:FK 174 (tW [.str] [.bool] λx=>Q1 (jy x.1,())):=by
 refine wK zsl λx y a C h=>?_
 cases a;refine dT (n0:=0) no zsl (λid _=>h id) (λ_=>{}) 400 ?_;have e:iY ([Q6].map Q1) x=[.str x.1]:=rfl;rw[e,zuV];exact J8 Fe rfl
theorem zvi(s:zH):run tD 0 (λ_=>{}) Tryz.f272.results.toList 400 (bq Tryz.f272) (aW Tryz.f272.ntmps [.str s] [])=swT (λb=>.ret (.int .i64 b) []) s Aq (-1):=kw
theorem zsJ:zM tD.P 272 Tryz.f272 1:=bL kw
theorem zoU:FK 272 (tW [.str] [zj] λx=>Q1 (dp x.1,())):=by
 refine wK zsJ λx y a C h=>?_
 cases a;refine dT (n0:=0) no zsJ (λid _=>h id) (λ_=>{}) 400 ?_;have e:iY ([Q6].map Q1) x=[.str x.1]:=rfl;rw[e,zvi];exact J8 Aq rfl
def cY(p:Int->Bool):zH->Nat
 |[]=>0
 |c::r=>if p c.toNat then cY p r+1 else 0
def bw(f m:Int->Bool):zH->Nat
 |[]=>0
 |c::r=>if f c.toNat then cY m r+1 else 0
variable {E:cg}{C:eA}{t:List Item}{s:St}{Q:AV->List AO->Prop}
theorem Reach.strLen{fn:FuncId}(j:Nat)(x:zH)(e:s.tmps[j]?=Q1 (.str x))(h:Io x<=aI->Reach E C fn t s Q):Reach E C fn t s Q:=by
 intro b g a w U ρ i k c l;refine h ?_ b g a w U ρ i k c l;have d:j<a.tmps.toList.length:=by rw[<-c.tm.len];exact(dc.1 e).1
 have:=c.tm.rv j _ _ e (z6 d);generalize a.tmps.toList[j]=v at this;cases this with
 |str _ h=>exact h
abbrev Mk:Nat->aP:=λ_=>{slots:=[1,2,5]}
abbrev P3(a b c d:AV)(s:zH)(n:Int):St:={
 tmps:=(tm 31 [(1,str s),(2,ptr 0 0),(5,ai n)]),
 heap:=[AO.box [a,b,c,d]]}
abbrev zmm(a b c d:AV)(p:Int->Bool)(s:zH)(n:Int):Tr zO:=
 chk (cond (Q0 (n<↑(Io s))) (zK n (Io s)) Q3)
  (br (cond (Q0 (n<↑(Io s))) (p ↑(List.getD s n.toNat 0).toNat) Q4)
   (Tr.ok (zO.head 4 (ab Tryz.f270 4) (P3 a b c d s (Γ Δ (n+1)))))
   (Tr.ok (zO.ret (ai n) [])))
theorem zdx:zM tD.P 270 Tryz.f270 2:=bL kw
theorem zju{C:eA}(j:∀id,0<=id->C.ρ0 id=Q2)(a b c d:AV)(p:Int->Bool)(s:zH)
  (e:∀n,run tD 0 Mk Tryz.f270.results.toList 300 (ab Tryz.f270 4) (P3 a b c d s n)=zmm a b c d p s n) (o:Io s<=aI):∀(k i:Nat),Io s-i=k->i<=Io s->
  Reach tD C 270 (ab Tryz.f270 4) (P3 a b c d s i) (λr h=>(r,h)=(.int .i64 ((i+cY p (s.drop i):Nat):Int),[]))
 | k,i,m,q=>by
  subst m;refine dT no zdx j Mk 300 ?_;rw[e];refine⟨?_,λh=>?_,λh=>?_⟩
  .by_cases x:i<Io s
   .have:Q0 ((i:Int)<Io s)=Q3:=by simpa using x
    simp[zK,x]
   .have:Q0 ((i:Int)<Io s)=Q4:=by simpa using x
    simp[x]
  .have x:i<Io s:=by
    by_cases x:i<Io s
    .exact x
    .have:Q0 ((i:Int)<Io s)=Q4:=by simpa using x
     rw[this]at h;cases h
   have g:Q0 ((i:Int)<Io s)=Q3:=by simpa using x
   rw[g,cO s _ x,aw]at h;rw[fR x];simp only[cY];rw[ze h,zu i ow,show i+(cY p (List.drop (i+1) s)+1)=(i+1)+cY p (List.drop (i+1) s) by omega];exact zju j a b c d p s e o (Io s-(i+1)) (i+1) rfl ow
  .have:cY p (s.drop i)=0:=by
    by_cases x:i<Io s
    .have g:Q0 ((i:Int)<Io s)=Q3:=by simpa using x
     rw[g,cO s _ x]at h;rw[fR x];simp only[cY];rw[zg (by intro l;rw[aw]at h;rw[l]at h;cases h)]
    .rw[BV ow];rfl
   rw[this];rfl
 termination_by k=>k
theorem ztg(s:zH)(n:Int):run tD 0 Mk Tryz.f270.results.toList 300 (ab Tryz.f270 4) (P3 (ai 1) (ai 16) (AV.clo (Fn.func 308) [] []) (AV.clo (Fn.func 307) [] []) s n)=zmm (ai 1) (ai 16) (AV.clo (Fn.func 308) [] []) (AV.clo (Fn.func 307) [] []) bQ s n:=kw
theorem zqA(s:zH):run tD 0 Mk Tryz.f270.results.toList 300 (bq Tryz.f270) (aW Tryz.f270.ntmps [.agg [(ai 1),(ai 16),(AV.clo (Fn.func 308) [] []),(AV.clo (Fn.func 307) [] [])],.str s] [])=
 chk (cond (s==[]) Q3 (zK 0 (Io s)))
  (br (cond (s==[]) Q3 (!ba ↑(List.getD s (Int.toNat 0) 0).toNat)) (Tr.ok (zO.ret (ai 0) []))
   (Tr.ok (zO.head 4 (ab Tryz.f270 4) (P3 (ai 1) (ai 16) (AV.clo (Fn.func 308) [] []) (AV.clo (Fn.func 307) [] []) s 1)))):=kw
theorem zjr(a:∀id,0<=id->C.ρ0 id=Q2)(s:zH)(b:Io s<=aI):Reach tD C 270 (bq Tryz.f270) (aW Tryz.f270.ntmps [.agg [(ai 1),(ai 16),(AV.clo (Fn.func 308) [] []),(AV.clo (Fn.func 307) [] [])],.str s] []) (λr h=>(r,h)=(.int .i64 (bw ba bQ s:Nat),[])):=by
 refine dT (n0:=0) no zdx a Mk 300 ?_;rw[zqA];cases s with
 |nil=>exact⟨rfl,λ_=>rfl,λh=>by cases h⟩
 | cons c r=>
  refine⟨by simp[zK],λh=>?_,λh=>?_⟩
  .have x:ba ↑c.toNat=Q4:=by simpa using h
   simp only[bw,x];rfl
  .have x:ba ↑c.toNat=Q3:=by simpa using h
   have:=zju a (ai 1) (ai 16) (AV.clo (Fn.func 308) [] []) (AV.clo (Fn.func 307) [] []) bQ (c::r) (ztg (c::r)) b _ 1 rfl sw;simp only[bw,x,zh];rw[show 1+cY bQ ((c::r).drop 1)=cY bQ r+1 by simp[kf]]at this;exact this
theorem zth(s:zH)(n:Int):run tD 0 Mk Tryz.f270.results.toList 300 (ab Tryz.f270 4) (P3 (ai 2) (ai 19) (AV.clo (Fn.func 309) [] []) (AV.clo (Fn.func 309) [] []) s n)=zmm (ai 2) (ai 19) (AV.clo (Fn.func 309) [] []) (AV.clo (Fn.func 309) [] []) ap s n:=kw
theorem zqB(s:zH):run tD 0 Mk Tryz.f270.results.toList 300 (bq Tryz.f270) (aW Tryz.f270.ntmps [.agg [(ai 2),(ai 19),(AV.clo (Fn.func 309) [] []),(AV.clo (Fn.func 309) [] [])],.str s] [])=
 chk (cond (s==[]) Q3 (zK 0 (Io s)))
  (br (cond (s==[]) Q3 (!ap ↑(List.getD s (Int.toNat 0) 0).toNat)) (Tr.ok (zO.ret (ai 0) []))
   (Tr.ok (zO.head 4 (ab Tryz.f270 4) (P3 (ai 2) (ai 19) (AV.clo (Fn.func 309) [] []) (AV.clo (Fn.func 309) [] []) s 1)))):=kw
theorem zjs(a:∀id,0<=id->C.ρ0 id=Q2)(s:zH)(b:Io s<=aI):Reach tD C 270 (bq Tryz.f270) (aW Tryz.f270.ntmps [.agg [(ai 2),(ai 19),(AV.clo (Fn.func 309) [] []),(AV.clo (Fn.func 309) [] [])],.str s] []) (λr h=>(r,h)=(.int .i64 (bw ap ap s:Nat),[])):=by
 refine dT (n0:=0) no zdx a Mk 300 ?_;rw[zqB];cases s with
 |nil=>exact⟨rfl,λ_=>rfl,λh=>by cases h⟩
 | cons c r=>
  refine⟨by simp[zK],λh=>?_,λh=>?_⟩
  .have x:ap ↑c.toNat=Q4:=by simpa using h
   simp only[bw,x];rfl
  .have x:ap ↑c.toNat=Q3:=by simpa using h
   have:=zju a (ai 2) (ai 19) (AV.clo (Fn.func 309) [] []) (AV.clo (Fn.func 309) [] []) ap (c::r) (zth (c::r)) b _ 1 rfl sw;simp only[bw,x,zh];rw[show 1+cY ap ((c::r).drop 1)=cY ap r+1 by simp[kf]]at this;exact this
def G65:eX [Q2,Q1 .str]:=λx h=>match x,h with
 |(.agg [.int .i64 1,.int .i64 16,.clo (.func 308) [] [],.clo (.func 307) [] []],s,_),[]=>.ok (.int .i64 (bw ba bQ s:Nat),[])
 |(.agg [.int .i64 2,.int .i64 19,.clo (.func 309) [] [],.clo (.func 309) [] []],s,_),[]=>.ok (.int .i64 (bw ap ap s:Nat),[])
 |_,_=>.err
theorem zo3:FK 270 (aS [Q2,Q1 .str] G65):=by
 refine da zdx λx d c h C b=>?_
 unfold G65 at h;split at h
 .simp only[Tr.val_ok,bg]at h;subst h;rename_i _ _ s u;have e:iY [Q2,Q1 Q6] (Qd [(ai 1),(ai 16),(AV.clo (Fn.func 308) [] []),(AV.clo (Fn.func 307) [] [])],s,u)=[Qd [(ai 1),(ai 16),(AV.clo (Fn.func 308) [] []),(AV.clo (Fn.func 307) [] [])],.str s]:=rfl;rw[e];exact Reach.strLen 1 s rfl λa=>zjr b s a
 .simp only[Tr.val_ok,bg]at h;subst h;rename_i _ _ s u;have e:iY [Q2,Q1 Q6] (Qd [(ai 2),(ai 19),(AV.clo (Fn.func 309) [] []),(AV.clo (Fn.func 309) [] [])],s,u)=[Qd [(ai 2),(ai 19),(AV.clo (Fn.func 309) [] []),(AV.clo (Fn.func 309) [] [])],.str s]:=rfl;rw[e];exact Reach.strLen 1 s rfl λa=>zjs b s a
 .simp at h
abbrev kD:Sh:=.pr (.int .i64) .str
abbrev dd:=Sem kD
def zcG:cg:=((tD.add 174 (tW [.str] [.bool] λx=>Q1 (jy x.1,()))).add 272 (tW [.str] [zj] λx=>Q1 (dp x.1,()))).add 270 (aS [Q2,Q1 .str] G65)
theorem LB:zw zcG:=((no.add zov).add zoU).add zo3
def qT(s:zH):Bool:=bif Q0 ((↑(Io s):Int)>=1)then
  bif Q0 ((↑(Io s):Int)<=16)then(↑(bw ba bQ s):Int)==↑(Io s)else Q4
 else Q4
def g49(x:zD ([kD].map Q1)):Option (zD ([Q7].map Q1)):=if x.1.1=1 then Q1 (qT x.1.2,())else Q2
theorem zve(s:zH):(run zcG 0 unr Tryz.f225.results.toList 400 (bq Tryz.f225) (aW Tryz.f225.ntmps [.agg [.int .i64 1,.str s]] [])).val=Q1 (.ret (.bool (qT s)) []):=kw
theorem zsG:zM zcG.P 225 Tryz.f225 1:=bL kw
theorem zoP:FK 225 (tW [kD] [.bool] g49):=by
 refine wK zsG λx y h C b=>?_
 obtain⟨⟨k,s⟩,u⟩:=x;unfold g49 at h;split at h
 next c=>have a:k=1:=c;subst a;cases h;have e:iY ([kD].map Q1) (((1,s),u):zD ([kD].map Q1))=[.agg [.int .i64 1,.str s]]:=rfl;rw[e];exact nR (n0:=0) LB zsG (λid _=>b id) (zve s) rfl
 .cases h
def zqf:cg:=zcG.add 225 (tW [kD] [.bool] g49)
theorem WE:zw zqf:=LB.add zoP
def zqg:cg:=zqf.aut 173 Tryz.f173 1
theorem WF:zw zqg:=iC WE (bL kw)
def TN:cg:=zqg.aut 107 Tryz.f107 1
theorem LJ:zw TN:=iC WF (bL kw)
open Go Go.Proofs Go.RowKit Go.Lib
variable {w b:World}
theorem kF.below(h:Below w.heap.size w b):kF w b:=
 ⟨h.size,h.os,h.output,h.tape,λa x=>yI (h.block a.block x)⟩
variable {v:Value}
theorem fb{U:Nat->Prop}{r:AV}{l:List AO}{a:Nat->Option Value}(e:gK C w U a (λj=>l.getD j .dead))(k:∀id,Io l<=id->a id=Q2)
  (n:∀id v,C.ρ0 id=Q1 v->a id=Q1 v) (d:Wd E.gl C w U) (i:Below w.heap.size w b) (q:Rv b U a r v):Tb E C (λt h=>(t,h)=(r,l)) (.returned v) b:=by
 have m:∀x,x<w.heap.size->b.heap[x]?=w.heap[x]?:=i.block;refine⟨v,r,l,U,a,rfl,rfl,q,⟨λid=>?_,e.inj,e.blk⟩,k,n,⟨d.ext.trans (kF.below i),λx c p=>?_,λx s=>gF (d.ub x s) i.size,d.u1,d.u2,λg=>?_⟩⟩
 .exact(e.ob id).mono i.size (λx c _=>m x c) (λ_ _ h=>h) (λ_ _ h=>h) (λx o=>⟨m x ((e.ob id).inU o).2,((e.ob id).inU o).1⟩)
 .rw[m x (gF c d.ext.sz)];exact d.same x c p
 .exact(d.gl g).mono i.size (λx c _=>m x c) (λ_ _ h=>h) (λ_ _ h=>h)
def zjX:cg:=TN.aut 98 Tryz.f98 1
theorem zsr:zM TN.P 98 Tryz.f98 1:=bL kw
theorem WG:zw zjX:=iC LJ zsr
def DG(c:Int):Bool:=bif Q0 (c<32)then Q3 else Q0 (c>126)
theorem zu1(c:Int):((aS (List.replicate 1 Q2) (eK TN Tryz.f98 (List.replicate 1 Q2))) [.int .i32 c] (λ_=>.dead) 0).val=Q1 {val:=.bool (DG c)}:=kw
theorem zl1(w:World)(U:Nat->Prop)(m:BO TN.gl w U)(n:∀b,U b->b<w.heap.size):PredGrows Tryz.prog 98 #[] (λr=>DG r) w:=by
 intro W x s k;have o:FK 98 (aS (List.replicate 1 Q2) (eK TN Tryz.f98 (List.replicate 1 Q2))):=bS _ LJ zsr;have p:dg W U (λ_=>Q2) [.int .i32 (x:Int)] [.int .i32 (x:Int)]:=by
  refine⟨rfl,λj c v l i=>?_⟩;cases j with
  | zero=>
   simp at l i;subst l;subst i;refine .int _ _ ⟨?_,?_⟩
   .show(-2147483648:Int)<=x;omega
   .show(x:Int)<=2147483647;omega
  |succ j=>simp at l
 have:=(o.calls W U (λ_=>Q2) (λ_=>.dead) 0 [.int .i32 (x:Int)] [.int .i32 (x:Int)] _ [] (zu1 x) p (λb d=>gF (n b d) k.size) (λg=>(m g).mono k.size (λb d _=>k.block b d) (λ_ _ h=>h) (λ_ _ h=>h)) ⟨sw,sw⟩ (by simp[AV.idsL,AV.ids]) sw sw).1;refine this.mono ?_;rintro e t ⟨v,q,u,rfl,a⟩;have i:=a.val;cases i;exact⟨rfl,⟨a.ext.os,a.ext.tape,a.ext.out,a.ext.sz,λb d=>a.same b d sw⟩⟩
def qo(s:zH):Int:=Lib.idxFunc (λr=>DG r) Q3 ⟨s.toArray⟩
def G36:eX [Q1 .str,Q2]:=λx h=>match x,h with
 |(s,.clo (.func 98) [] [],_),[]=>.ok (.int .i64 (qo s),[])
 |_,_=>.err
theorem zuI:Go.Proofs.Enters Tryz.prog 98:=by
  cases h:Tryz.f98.body with
  | none => have:Tryz.f98.body.isNone=false:=by kernel_rfl
            rw[h]at this;cases this
  |some c=>exact Go.Proofs.enters_of (fn:=Tryz.f98) kw kw h
theorem zoB:FK 99 (aS [Q1 .str,Q2] G36):=by
 refine fu (E:=zjX) ⟨Tryz.f99,kw,kw,kw⟩ λx F y c=>?_
 unfold G36 at c;split at c
 .rename_i s u;simp only[Tr.val_ok,bg]at c;subst c;intro C w U ρ v _ a n h j d;have t:=a.len
  match v,t,a with
  | [z,A],_,a=>
   have l:=a.rv 0 (.str s) z rfl rfl;have m:=a.rv 1 (.clo (.func 98) [] []) A rfl rfl;cases l with
   |str _ H=>
   cases m with
   |clo _ _ _ D B q p _ _=>
   have i:D=[]:=AG q.symm;have g:B=[]:=AG p.symm;subst i;subst g;have:=Tryz.strings_IndexFunc_grows 98 #[] zuI (λr=>DG r) ⟨s.toArray⟩ w (zl1 w U d.gl d.ub);refine this.mono ?_;rintro e I ⟨rfl,o⟩;refine fb n h j d o (.int _ _ ?_);have b:=Lib.idxFunc_range (λr=>DG r) Q3 ⟨s.toArray⟩;have k:(⟨s.toArray⟩:ByteArray).size=Io s:=by simp[ByteArray.size]
   have G:aI=9223372036854775807:=rfl;rw[k]at b;change qo s=-1\/(0<=qo s/\qo s<Io s)at b;refine⟨?_,?_⟩
   .show(-9223372036854775808:Int)<=_;omega
   .show _<=(9223372036854775807:Int);omega
 .simp at c
def uR:cg:=zjX.add 99 (aS [Q1 .str,Q2] G36)
theorem kT:zw uR:=WG.add zoB
abbrev TS:=Sem Q6
abbrev LX:=List (Sem Sh.expr)
abbrev LC:=aN
abbrev LS:=List (Sem Q6)
abbrev LV:=zt
abbrev LI:=dA
abbrev LF:=dr
abbrev V:=zp
def bf(x:zp):Sem Q7:=if(x.1==0)=Q3 then if(x.2.1!=0)=Q3 then Q4 else x.2.2==[]else if(x.1==1)=Q3 then x.2.2==[]else if(x.1==2)=Q3 then bif x.2.1==0 then bif Q0 ((↑(Io x.2.2):Int)<=40)then Q0 (qo x.2.2<0)else Q4 else Q4 else if(x.1==3)=Q3 then bif x.2.1==0 then x.2.2==[]else bif x.2.1==1 then x.2.2==[]else Q4 else Q4
theorem zsh:zM uR.P 39 Tryz.f39 1:=bL kw
theorem zuR(x:zp):rn uR 0 (λ_=>{ }) Tryz.f39 [zL zf x] []=br (x.1==0) (br (x.2.1!=0) (Tr.ok (zO.ret (kb Q4) [])) (Tr.ok (zO.ret (AV.bool (x.2.2==[])) []))) (br (x.1==1) (Tr.ok (zO.ret (AV.bool (x.2.2==[])) [])) (br (x.1==2) (Tr.ok (zO.ret (AV.bool (cond (x.2.1==0) (cond (Q0 ((↑(Io x.2.2):Int)<=40)) (Q0 (qo x.2.2<0)) Q4) Q4)) [])) (br (x.1==3) (Tr.ok (zO.ret (AV.bool (cond (x.2.1==0) (x.2.2==[]) (cond (x.2.1==1) (x.2.2==[]) Q4))) [])) (Tr.ok (zO.ret (kb Q4) []))))):=kw
def F21:z8:=aK [zf] [Q7] λx=>(bf x.1,())
theorem zor:FK 39 F21:=by
 refine ak zsh λx C h=>?_
 refine be kT zsh (λid _=>h id) (zuR x.1) ?_;simp only[Q8,bf];repeat' split
 all_goals rfl
def bc(x:zq):zp:=if(x==0)=Q3 then(0,0,[])else(3,Γ Δ (x-1),[])
theorem zsL:zM uR.P 274 Tryz.f274 1:=bL kw
theorem zvk(x:zq):rn uR 0 (λ_=>{ }) Tryz.f274 [zL zj x] []=br (x==0) (Tr.ok (zO.ret (Qd [ai 0,ai 0,str []]) [])) (Tr.ok (zO.ret (Qd [ai 3,ai (Γ Δ (x-1)),str []]) [])):=kw
def F57:z8:=aK [zj] [zf] λx=>(bc x.1,())
theorem zoW:FK 274 F57:=by
 refine ak zsL λx C h=>?_
 refine be kT zsL (λid _=>h id) (zvk x.1) ?_;simp only[Q8,bc];repeat' split
 all_goals rfl
def zmC:z8:=aS (List.replicate 1 Q2) (eK uR Tryz.f182 (List.replicate 1 Q2))
theorem zhn:FK 182 zmC:=bS _ kT (bL kw)
def zmD:z8:=aS (List.replicate 1 Q2) (eK uR Tryz.f183 (List.replicate 1 Q2))
theorem zho:FK 183 zmD:=bS _ kT (bL kw)
def zmE:z8:=aS (List.replicate 1 Q2) (eK uR Tryz.f184 (List.replicate 1 Q2))
theorem zhp:FK 184 zmE:=bS _ kT (bL kw)
def mj:=uR.addL [(39,F21),(274,F57),(182,zmC),(183,zmD),(184,zmE)]
theorem jj:zw mj:=kT.addL<|fc zor<|fc zoW<|fc zhn<|fc zho<|fc zhp iH
def aA(x:zp):zp:=if(!bf x)=Q3 then(0,0,[])else x
theorem zsP:zM mj.P 112 Tryz.f112 1:=bL kw
theorem zvo(x:zp):rn mj 0 (λ_=>{ }) Tryz.f112 [zL zf x] []=br (!bf x) (Tr.ok (zO.ret (Qd [ai 0,ai 0,str []]) [])) (Tr.ok (zO.ret (Qd [ai x.1,ai x.2.1,str x.2.2]) [])):=kw
def F61:z8:=aK [zf] [zf] λx=>(aA x.1,())
theorem zo1:FK 112 F61:=by
 refine ak zsP λx C h=>?_
 refine be jj zsP (λid _=>h id) (zvo x.1) ?_;simp only[Q8,aA];repeat' split
 all_goals rfl
def ep(x:zp):zq:=if(cond (x.1!=3) Q3 (!bf x))=Q3 then 0 else Γ Δ (1+x.2.1)
theorem zsK:zM mj.P 273 Tryz.f273 1:=bL kw
theorem zvj(x:zp):rn mj 0 (λ_=>{ }) Tryz.f273 [zL zf x] []=br (cond (x.1!=3) Q3 (!bf x)) (Tr.ok (zO.ret (ai 0) [])) (Tr.ok (zO.ret (ai (Γ Δ (1+x.2.1))) [])):=kw
def F56:z8:=aK [zf] [zj] λx=>(ep x.1,())
theorem zoV:FK 273 F56:=by
 refine ak zsK λx C h=>?_
 refine be jj zsK (λid _=>h id) (zvj x.1) ?_;simp only[Q8,ep];repeat' split
 all_goals rfl
def dJ(x:Sem Q7):zp:=if x=Q3 then bc 2 else bc 1
theorem zsN:zM mj.P 275 Tryz.f275 1:=bL kw
theorem zvm(x:Sem Q7):rn mj 0 (λ_=>{ }) Tryz.f275 [zL Q7 x] []=br x (Tr.ok (zO.ret (Qd [ai (bc 2).1,ai (bc 2).2.1,str (bc 2).2.2]) [])) (Tr.ok (zO.ret (Qd [ai (bc 1).1,ai (bc 1).2.1,str (bc 1).2.2]) [])):=kw
def F59:z8:=aK [Q7] [zf] λx=>(dJ x.1,())
theorem zoY:FK 275 F59:=by
 refine ak zsN λx C h=>?_
 refine be jj zsN (λid _=>h id) (zvm x.1) ?_;simp only[Q8,dJ];repeat' split
 all_goals rfl
def sB(h x:zq):zq:=if(h !=h)=Q3 then if(x !=x)=Q3 then 0 else -1 else if(x !=x)=Q3 then 1 else if Q0 (h<x)=Q3 then -1 else if Q0 (h>x)=Q3 then 1 else 0
theorem zsS:zM mj.P 114 Tryz.f114 2:=bL kw
theorem zvs(h x:zq):rn mj 0 (λ_=>{ }) Tryz.f114 [zL zj h,zL zj x] []=br (h !=h) (br (x !=x) (Tr.ok (zO.ret (ai 0) [])) (Tr.ok (zO.ret (ai (-1)) []))) (br (x !=x) (Tr.ok (zO.ret (ai 1) [])) (br (Q0 (h<x)) (Tr.ok (zO.ret (ai (-1)) [])) (br (Q0 (h>x)) (Tr.ok (zO.ret (ai 1) [])) (Tr.ok (zO.ret (ai 0) []))))):=kw
def F71:z8:=aK [zj,zj] [zj] λx=>(sB x.1 x.2.1,())
theorem zo9:FK 114 F71:=by
 refine ak zsS λx C h=>?_
 refine be jj zsS (λid _=>h id) (zvs x.1 x.2.1) ?_;simp only[Q8,sB];repeat' split
 all_goals rfl
def jd(h x:zq):zq:=if(h !=h)=Q3 then if(x !=x)=Q3 then 0 else -1 else if(x !=x)=Q3 then 1 else if Q0 (h<x)=Q3 then -1 else if Q0 (h>x)=Q3 then 1 else 0
theorem zsU:zM mj.P 115 Tryz.f115 2:=bL kw
theorem zvt(h x:zq):rn mj 0 (λ_=>{ }) Tryz.f115 [zL zj h,zL zj x] []=br (h !=h) (br (x !=x) (Tr.ok (zO.ret (ai 0) [])) (Tr.ok (zO.ret (ai (-1)) []))) (br (x !=x) (Tr.ok (zO.ret (ai 1) [])) (br (Q0 (h<x)) (Tr.ok (zO.ret (ai (-1)) [])) (br (Q0 (h>x)) (Tr.ok (zO.ret (ai 1) [])) (Tr.ok (zO.ret (ai 0) []))))):=kw
def F72:z8:=aK [zj,zj] [zj] λx=>(jd x.1 x.2.1,())
theorem zpa:FK 115 F72:=by
 refine ak zsU λx C h=>?_
 refine be jj zsU (λid _=>h id) (zvt x.1 x.2.1) ?_;simp only[Q8,jd];repeat' split
 all_goals rfl
def ox(h x:Sem Q6):zq:=if(!h==h)=Q3 then if(!x==x)=Q3 then 0 else -1 else if(!x==x)=Q3 then 1 else if Op.bytesLess h x=Q3 then -1 else if(!(Op.bytesLess h x||h==x))=Q3 then 1 else 0
theorem zsV:zM mj.P 116 Tryz.f116 2:=bL kw
theorem zvu(h x:Sem Q6):rn mj 0 (λ_=>{ }) Tryz.f116 [zL Q6 h,zL Q6 x] []=br (!h==h) (br (!x==x) (Tr.ok (zO.ret (ai 0) [])) (Tr.ok (zO.ret (ai (-1)) []))) (br (!x==x) (Tr.ok (zO.ret (ai 1) [])) (br (Op.bytesLess h x) (Tr.ok (zO.ret (ai (-1)) [])) (br (!(Op.bytesLess h x||h==x)) (Tr.ok (zO.ret (ai 1) [])) (Tr.ok (zO.ret (ai 0) []))))):=kw
def F73:z8:=aK [Q6,Q6] [zj] λx=>(ox x.1 x.2.1,())
theorem zpb:FK 116 F73:=by
 refine ak zsV λx C h=>?_
 refine be jj zsV (λid _=>h id) (zvu x.1 x.2.1) ?_;simp only[Q8,ox];repeat' split
 all_goals rfl
def ky:=mj.addL [(112,F61),(273,F56),(275,F59),(114,F71),(115,F72),(116,F73)]
theorem fx:zw ky:=jj.addL<|fc zo1<|fc zoV<|fc zoY<|fc zo9<|fc zpa<|fc zpb iH
variable {k:FuncId}{keep:Nat->aP}{x:Tr zO}
theorem Ep{f:Func}{n n0:Nat}(b:zw E)(c:zM E.P k f n)(a:∀id,n0<=id->C.ρ0 id=Q2){m:Nat}
     {l:zO} (e:run E n0 keep f.results.toList m t s=x) (h:x.val=Q1 l) (d:ke E C k Q l):Reach E C k t s Q:=
 dT b c a keep m (by rw[e];exact Tr.sat_of_val h d)
def gS{α:Type}(Φ:α->Prop):Option α->Prop
 |some a=>Φ a
 |none=>False
theorem zF{f:Func}{n n0:Nat}(c:zw E)(d:zM E.P k f n)(b:∀id,n0<=id->C.ρ0 id=Q2){m:Nat}
     (e:run E n0 keep f.results.toList m t s=x) (h:gS (ke E C k Q) x.val):Reach E C k t s Q:=by
 cases a:x.val with
 |none=>rw[a]at h;exact h.elim
 |some l=>rw[a]at h;exact Ep c d b e a h
def L1{α β R:Type}(f:β->Nat->α->β⊕R)(h:β->R):List α->Nat->β->R
 |[],_,b=>h b
 | x::r,i,b=>match f b i x with
  |.inl a=>L1 f h r (i+1) a
  |.inr y=>y
def zbN{E:cg}{C:eA}{k:FuncId}{K:List Item}{β R:Type}(s:β->Nat->St)(Q:R->AV->List AO->Prop)(b:β)(i:Nat):β⊕R->Prop
 |.inl h=>∀q,Reach E C k K (s h (i+1)) q->Reach E C k K (s b i) q
 |.inr y=>Reach E C k K (s b i) (Q y)
theorem Er{E:cg}{C:eA}{k:FuncId}{K:List Item}{α β R:Type}(l:List α)(s:β->Nat->St)(f:β->Nat->α->β⊕R)(a:β->R)(Q:R->AV->List AO->Prop)(I:β->Nat->Prop)
  (h:∀b i(n:i<Io l),I b i->zbN (E:=E) (C:=C) (k:=k) (K:=K) s Q b i (f b i l[i])/\∀c,f b i l[i]=.inl c->I c (i+1))
  (x:∀b,I b (Io l)->Reach E C k K (s b (Io l)) (Q (a b))):∀(m i:Nat)(b:β),Io l-i=m->i<=Io l->I b i->Reach E C k K (s b i) (Q (L1 f a (l.drop i) i b))
 | 0,i,b,p,n,g=>by
  have:i=Io l:=by omega
  subst this;rw[jO];exact x b g
 | m+1,i,b,p,n,g=>by
  have d:i<Io l:=by omega
  rw[fR d];obtain⟨e,o⟩:=h b i d g;simp only[L1];cases j:f b i l[i]with
  | inl c=>
   rw[j]at e;exact e _ (Er l s f a Q I h x m (i+1) c ow ow (o c j))
  | inr y=>
   rw[j]at e;exact e
variable {q:Nat}
theorem zI{i:Nat}(h:i<q):Q0 ((i:Int)<(q:Int))=Q3:=by simpa using h
theorem zG(n:Nat):Q0 ((n:Int)<(n:Int))=Q4:=by simp
theorem zx{i:Nat}(h:i<q):zK (i:Int) q=Q3:=by simp[zK,h]
def Hm:List Int->Int
 |[]=>0
 |x::r=>if x !=0 then x else Hm r
abbrev zrP:Nat->aP:=λj=>if j=3 then{slots:=[3,6,7,8]}else{ }
abbrev SD(i:Int)(l:dA)(h x:Int):St:={tmps:=(tm 18 [(3,ai i),(6,sl (Sh.int IntKind.i64) l),(7,ai h),(8,ai x)]),heap:=[]}
theorem YP:zM ky.P 113 Tryz.f113 1:=bL kw
theorem zvr(k:dA):rn ky 0 zrP Tryz.f113 [sl zj k] []=Tr.ok (zO.head 3 (ab Tryz.f113 3) (SD 0 k (↑k.length) 0)):=kw
theorem Pr(h:Int)(l:dA)(x i:Int):rh ky 0 zrP Tryz.f113 3 (SD h l x i)=br (Q0 (i<x)) (chk (zK i (Io l)) (br (l.getD i.toNat (zi (Sh.int IntKind.i64))!=h) (Tr.ok (zO.ret (ai (l.getD i.toNat (zi (Sh.int IntKind.i64)))) [])) (Tr.ok (zO.head 3 (ab Tryz.f113 3) (SD h l x (Γ Δ (i+1))))))) (Tr.ok (zO.ret (ai h) [])):=kw
def f70:Unit->Nat->Int->Unit⊕Int:=λ_ _ x=>if x !=0 then .inr x else .inl ()
theorem W1:∀(l:List Int)(i:Nat),L1 f70 (λ_=>0) l i ()=Hm l
 |[],_=>rfl
 | x::r,i=>by
  simp only[L1,f70,Hm];split
  next h=>split at h<;>simp_all[W1 r (i+1)]
  next h=>split at h<;>simp_all
def F70:z8:=aK [.sl zj] [zj] λx=>(Hm x.1,())
theorem zo8:FK 113 F70:=by
 refine ak YP λx C c=>?_
 obtain⟨l,u⟩:=x;refine Reach.len 0 zj l rfl λe=>?_
 refine Ep fx YP (λid _=>c id) (zvr l) rfl ?_
 have:=Er (E:=ky) (C:=C) (k:=113) (K:=ab Tryz.f113 3) l (λ(_:Unit) i=>SD 0 l (Io l) i) f70 (λ_=>(0:Int)) (λy r h=>aU h [zj] r=Q1 (y,())) (λ_ _=>True)
  (λb i a _=>⟨by
   unfold f70;split
   next h=>refine zF fx YP (λid _=>c id) (Pr _ _ _ _) ?_;simp only[Q8,zI a,zx a,cO l _ a,h,zh];rfl
   next h=>intro q d;refine zF fx YP (λid _=>c id) (Pr _ _ _ _) ?_;simp only[Q8,zI a,zx a,cO l _ a,h,zh,zu i ow];exact d,λ_ _=>trivial⟩)
  (λb _=>by
   refine zF fx YP (λid _=>c id) (Pr _ _ _ _) ?_;simp only[Q8,zG];rfl) _ 0 () rfl ow trivial
 rw[W1]at this;exact this
def eV(x h:zp):Sem Q7:=bif (aA x).1!=0 then(aA x).1==(aA h).1 else Q4
theorem zsM:zM ky.P 222 Tryz.f222 2:=bL kw
theorem zvl(x h:zp):rn ky 0 (λ_=>{ }) Tryz.f222 [zL zf x,zL zf h] []=Tr.ok (zO.ret (AV.bool (cond ((aA x).1!=0) ((aA x).1==(aA h).1) Q4)) []):=kw
def F58:z8:=aK [zf,zf] [Q7] λx=>(eV x.1 x.2.1,())
theorem zoX:FK 222 F58:=by
 refine ak zsM λx C h=>?_
 refine be fx zsM (λid _=>h id) (zvl x.1 x.2.1) ?_;simp only[Q8,eV];repeat' split
 all_goals rfl
def FI(x h:zp):zp:=if(cond (ep x==1) Q3 (ep h==1))=Q3 then bc 1 else if(cond (ep x==2) (ep h==2) Q4)=Q3 then bc 2 else bc 0
theorem zsu:zM ky.P 229 Tryz.f229 2:=bL kw
theorem zu3(x h:zp):rn ky 0 (λ_=>{ }) Tryz.f229 [zL zf x,zL zf h] []=br (cond (ep x==1) Q3 (ep h==1)) (Tr.ok (zO.ret (Qd [ai (bc 1).1,ai (bc 1).2.1,str (bc 1).2.2]) [])) (br (cond (ep x==2) (ep h==2) Q4) (Tr.ok (zO.ret (Qd [ai (bc 2).1,ai (bc 2).2.1,str (bc 2).2.2]) [])) (Tr.ok (zO.ret (Qd [ai (bc 0).1,ai (bc 0).2.1,str (bc 0).2.2]) []))):=kw
def F38:z8:=aK [zf,zf] [zf] λx=>(FI x.1 x.2.1,())
theorem zoD:FK 229 F38:=by
 refine ak zsu λx C h=>?_
 refine be fx zsu (λid _=>h id) (zu3 x.1 x.2.1) ?_;simp only[Q8,FI];repeat' split
 all_goals rfl
def vOr(x h:zp):zp:=if(cond (ep x==2) Q3 (ep h==2))=Q3 then bc 2 else if(cond (ep x==1) (ep h==1) Q4)=Q3 then bc 1 else bc 0
theorem zsv:zM ky.P 230 Tryz.f230 2:=bL kw
theorem zu4(x h:zp):rn ky 0 (λ_=>{ }) Tryz.f230 [zL zf x,zL zf h] []=br (cond (ep x==2) Q3 (ep h==2)) (Tr.ok (zO.ret (Qd [ai (bc 2).1,ai (bc 2).2.1,str (bc 2).2.2]) [])) (br (cond (ep x==1) (ep h==1) Q4) (Tr.ok (zO.ret (Qd [ai (bc 1).1,ai (bc 1).2.1,str (bc 1).2.2]) [])) (Tr.ok (zO.ret (Qd [ai (bc 0).1,ai (bc 0).2.1,str (bc 0).2.2]) []))):=kw
def F39:z8:=aK [zf,zf] [zf] λx=>(vOr x.1 x.2.1,())
theorem zoE:FK 230 F39:=by
 refine ak zsv λx C h=>?_
 refine be fx zsv (λid _=>h id) (zu4 x.1 x.2.1) ?_;simp only[Q8,vOr];repeat' split
 all_goals rfl
def AS(x:zp):zp:=if(ep x==2)=Q3 then bc 1 else if(ep x==1)=Q3 then bc 2 else bc 0
theorem zsx:zM ky.P 232 Tryz.f232 1:=bL kw
theorem zu6(x:zp):rn ky 0 (λ_=>{ }) Tryz.f232 [zL zf x] []=br (ep x==2) (Tr.ok (zO.ret (Qd [ai (bc 1).1,ai (bc 1).2.1,str (bc 1).2.2]) [])) (br (ep x==1) (Tr.ok (zO.ret (Qd [ai (bc 2).1,ai (bc 2).2.1,str (bc 2).2.2]) [])) (Tr.ok (zO.ret (Qd [ai (bc 0).1,ai (bc 0).2.1,str (bc 0).2.2]) []))):=kw
def F41:z8:=aK [zf] [zf] λx=>(AS x.1,())
theorem zoH:FK 232 F41:=by
 refine ak zsx λx C h=>?_
 refine be fx zsx (λid _=>h id) (zu6 x.1) ?_;simp only[Q8,AS];repeat' split
 all_goals rfl
def jK(x:zp):zp:=dJ ((aA x).1==0)
theorem zsE:zM ky.P 237 Tryz.f237 1:=bL kw
theorem zvc(x:zp):rn ky 0 (λ_=>{ }) Tryz.f237 [zL zf x] []=Tr.ok (zO.ret (Qd [ai (dJ ((aA x).1==0)).1,ai (dJ ((aA x).1==0)).2.1,str (dJ ((aA x).1==0)).2.2]) []):=kw
def F47:z8:=aK [zf] [zf] λx=>(jK x.1,())
theorem zoN:FK 237 F47:=by
 refine ak zsE λx C h=>?_
 refine be fx zsE (λid _=>h id) (zvc x.1) ?_;simp only[Q8,jK];repeat' split
 all_goals rfl
def ml:=ky.addL [(113,F70),(222,F58),(229,F38),(230,F39),(232,F41),(237,F47)]
theorem jk:zw ml:=fx.addL<|fc zo8<|fc zoX<|fc zoD<|fc zoE<|fc zoH<|fc zoN iH
def aO(x h:zp):zq:=Hm [sB (aA x).1 (aA h).1,jd (aA x).2.1 (aA h).2.1,ox (aA x).2.2 (aA h).2.2]
theorem zsO:zM ml.P 50 Tryz.f50 2:=bL kw
theorem zvn(x h:zp):rn ml 0 (λ_=>{ }) Tryz.f50 [zL zf x,zL zf h] []=Tr.ok (zO.ret (AV.int IntKind.i64 (Hm [sB (aA x).1 (aA h).1,jd (aA x).2.1 (aA h).2.1,ox (aA x).2.2 (aA h).2.2])) []):=kw
def F60:z8:=aK [zf,zf] [zj] λx=>(aO x.1 x.2.1,())
theorem zo0:FK 50 F60:=by
 refine ak zsO λx C h=>?_
 refine be jk zsO (λid _=>h id) (zvn x.1 x.2.1) ?_;simp only[Q8,aO];repeat' split
 all_goals rfl
def mS(x h:zp):zp:=if(!eV x h)=Q3 then(0,0,[])else dJ (x.1==h.1&&(x.2.1==h.2.1&&(x.2.2==h.2.2&&Q3)))
theorem zsy:zM ml.P 233 Tryz.f233 2:=bL kw
theorem zu7(x h:zp):rn ml 0 (λ_=>{ }) Tryz.f233 [zL zf x,zL zf h] []=br (!eV x h) (Tr.ok (zO.ret (Qd [ai 0,ai 0,str []]) [])) (Tr.ok (zO.ret (Qd [ai (dJ (x.1==h.1&&(x.2.1==h.2.1&&(x.2.2==h.2.2&&Q3)))).1,ai (dJ (x.1==h.1&&(x.2.1==h.2.1&&(x.2.2==h.2.2&&Q3)))).2.1,str (dJ (x.1==h.1&&(x.2.1==h.2.1&&(x.2.2==h.2.2&&Q3)))).2.2]) [])):=kw
def F42:z8:=aK [zf,zf] [zf] λx=>(mS x.1 x.2.1,())
theorem zoI:FK 233 F42:=by
 refine ak zsy λx C h=>?_
 refine be jk zsy (λid _=>h id) (zu7 x.1 x.2.1) ?_;simp only[Q8,mS];repeat' split
 all_goals rfl
def mD(x h:zp):zp:=if(cond (!eV x h) Q3 (x.1!=1))=Q3 then(0,0,[])else if(cond (Q0 (h.2.1>0)) (cond (Q0 (Γ Δ (x.2.1+h.2.1)<x.2.1)) Q3 (cond (Q0 (h.2.1<0)) (Q0 (Γ Δ (x.2.1+h.2.1)>x.2.1)) Q4)) (cond (Q0 (h.2.1<0)) (Q0 (Γ Δ (x.2.1+h.2.1)>x.2.1)) Q4))=Q3 then(0,0,[])else(1,Γ Δ (x.2.1+h.2.1),[])
theorem zsB:zM ml.P 155 Tryz.f155 2:=bL kw
theorem zu9(x h:zp):rn ml 0 (λ_=>{ }) Tryz.f155 [zL zf x,zL zf h] []=br (cond (!eV x h) Q3 (x.1!=1)) (Tr.ok (zO.ret (Qd [ai 0,ai 0,str []]) [])) (br (cond (Q0 (h.2.1>0)) (cond (Q0 (Γ Δ (x.2.1+h.2.1)<x.2.1)) Q3 (cond (Q0 (h.2.1<0)) (Q0 (Γ Δ (x.2.1+h.2.1)>x.2.1)) Q4)) (cond (Q0 (h.2.1<0)) (Q0 (Γ Δ (x.2.1+h.2.1)>x.2.1)) Q4)) (Tr.ok (zO.ret (Qd [ai 0,ai 0,str []]) [])) (Tr.ok (zO.ret (Qd [ai 1,ai (Γ Δ (x.2.1+h.2.1)),str []]) []))):=kw
def F44:z8:=aK [zf,zf] [zf] λx=>(mD x.1 x.2.1,())
theorem zoK:FK 155 F44:=by
 refine ak zsB λx C h=>?_
 refine be jk zsB (λid _=>h id) (zu9 x.1 x.2.1) ?_;simp only[Q8,mD];repeat' split
 all_goals rfl
def mT(x h:zp):zp:=if(cond (!eV x h) Q3 (x.1!=1))=Q3 then(0,0,[])else if(cond (Q0 (h.2.1>0)) (cond (Q0 (Γ Δ (x.2.1-h.2.1)>x.2.1)) Q3 (cond (Q0 (h.2.1<0)) (Q0 (Γ Δ (x.2.1-h.2.1)<x.2.1)) Q4)) (cond (Q0 (h.2.1<0)) (Q0 (Γ Δ (x.2.1-h.2.1)<x.2.1)) Q4))=Q3 then(0,0,[])else(1,Γ Δ (x.2.1-h.2.1),[])
theorem zsC:zM ml.P 235 Tryz.f235 2:=bL kw
theorem zva(x h:zp):rn ml 0 (λ_=>{ }) Tryz.f235 [zL zf x,zL zf h] []=br (cond (!eV x h) Q3 (x.1!=1)) (Tr.ok (zO.ret (Qd [ai 0,ai 0,str []]) [])) (br (cond (Q0 (h.2.1>0)) (cond (Q0 (Γ Δ (x.2.1-h.2.1)>x.2.1)) Q3 (cond (Q0 (h.2.1<0)) (Q0 (Γ Δ (x.2.1-h.2.1)<x.2.1)) Q4)) (cond (Q0 (h.2.1<0)) (Q0 (Γ Δ (x.2.1-h.2.1)<x.2.1)) Q4)) (Tr.ok (zO.ret (Qd [ai 0,ai 0,str []]) [])) (Tr.ok (zO.ret (Qd [ai 1,ai (Γ Δ (x.2.1-h.2.1)),str []]) []))):=kw
def F45:z8:=aK [zf,zf] [zf] λx=>(mT x.1 x.2.1,())
theorem zoL:FK 235 F45:=by
 refine ak zsC λx C h=>?_
 refine be jk zsC (λid _=>h id) (zva x.1 x.2.1) ?_;simp only[Q8,mT];repeat' split
 all_goals rfl
def SR(x _:zp):zp:=AS x
theorem zsw:zM ml.P 231 Tryz.f231 2:=bL kw
theorem zu5(x h:zp):rn ml 0 (λ_=>{ }) Tryz.f231 [zL zf x,zL zf h] []=Tr.ok (zO.ret (Qd [ai (AS x).1,ai (AS x).2.1,str (AS x).2.2]) []):=kw
def F40:z8:=aK [zf,zf] [zf] λx=>(SR x.1 x.2.1,())
theorem zoG:FK 231 F40:=by
 refine ak zsw λx C h=>?_
 refine be jk zsw (λid _=>h id) (zu5 x.1 x.2.1) ?_;simp only[Q8,SR];repeat' split
 all_goals rfl
def Ku(x _:zp):zp:=jK x
theorem zsD:zM ml.P 236 Tryz.f236 2:=bL kw
theorem zvb(x h:zp):rn ml 0 (λ_=>{ }) Tryz.f236 [zL zf x,zL zf h] []=Tr.ok (zO.ret (Qd [ai (jK x).1,ai (jK x).2.1,str (jK x).2.2]) []):=kw
def F46:z8:=aK [zf,zf] [zf] λx=>(Ku x.1 x.2.1,())
theorem zoM:FK 236 F46:=by
 refine ak zsD λx C h=>?_
 refine be jk zsD (λid _=>h id) (zvb x.1 x.2.1) ?_;simp only[Q8,Ku];repeat' split
 all_goals rfl
def sL:=ml.addL [(50,F60),(233,F42),(155,F44),(235,F45),(231,F40),(236,F46)]
theorem kU:zw sL:=jk.addL<|fc zo0<|fc zoI<|fc zoK<|fc zoL<|fc zoG<|fc zoM iH
open Go Go.Proofs Go.Sort
set_option maxHeartbeats 4000000
theorem zr8(W:World)(x:Nat):Calls Tryz.prog 98 #[.int .i32 (x:Int)] W λe w=>e=.returned (.bool (DG x))/\w=W:=
 (Tryz.odd63 x W).mono λe w h=>⟨by rw[h.1];unfold DG;cases Q0 ((x:Int)<32)<;>rfl,h.2⟩
theorem zr6(k n:Int)(s:zH)(W:World):Calls Tryz.prog 39 #[.agg #[.int .i64 k,.int .i64 n,.string ⟨s.toArray⟩]] W λe w=>e=.returned (.bool (bf (k,n,s)))/\RowKit.Below W.heap.size W w/\W.drawn<=w.drawn:=by
 have h:=λb=>Tryz.indexFunc64 (λr=>DG r) ⟨s.toArray⟩ b zr8
 have g:Lib.idxFunc (λr=>DG r) Q3 ⟨s.toArray⟩=qo s:=rfl;rw[g]at h;have a:bf (k,n,s)=bf (k,n,s):=rfl;generalize x:bf (k,n,s)=R at a|-;clear a;unfold bf at x;generalize qo s=I at h x
 go_enter Tryz.func39,Tryz.ntmps39
 go_wp2_with (go_at_call 99;refine(h _).mono ?_;rintro e w ⟨rfl,c,d⟩)
 all_goals
  go_ret
  refine⟨?_,?_,?_⟩
  .rw[<-x];congr 2;simp_all<;>(rw[<-x];first|(rw[z7 ow];rfl)|(rw[beq_false_of_ne ‹¬n=0›];first|rfl|(rw[beq_false_of_ne ‹¬n=1›];rfl)))
  .first
   |exact(RowKit.Below.refl _ _).alloc (ah _) _
   |exact((RowKit.Below.refl _ W).alloc (ah _) _).trans (c.mono sw)
  .first
   |exact ah _
   |exact d
theorem UU(W w:World)(a b c x y z:Value)(h:RowKit.Below ((W.alloc (.cells #[a,b,c] 30)).alloc (.cells #[x,y,z] 30)).heap.size ((W.alloc (.cells #[a,b,c] 30)).alloc (.cells #[x,y,z] 30)) w):
  w.cell? ⟨W.heap.size,0,Q2⟩=Q1 a/\w.cell? ⟨W.heap.size,1,Q2⟩=Q1 b/\w.cell? ⟨W.heap.size,2,Q2⟩=Q1 c/\
  w.cell? ⟨W.heap.size+1,0,Q2⟩=Q1 x/\w.cell? ⟨W.heap.size+1,1,Q2⟩=Q1 y/\w.cell? ⟨W.heap.size+1,2,Q2⟩=Q1 z/\
  w.frozen? ⟨W.heap.size+1,0,Q2⟩=Q4/\w.frozen? ⟨W.heap.size+1,1,Q2⟩=Q4/\w.frozen? ⟨W.heap.size+1,2,Q2⟩=Q4/\w.heap[W.heap.size+1]?=Q1 (.cells #[x,y,z] 30 (0,0)):=by
 have d:=h.block W.heap.size sg;have e:=h.block (W.heap.size+1) sw;have e0:((W.alloc (.cells #[a,b,c] 30)).alloc (.cells #[x,y,z] 30)).heap[W.heap.size]?=Q1 (.cells #[a,b,c] 30 (0,0)):=(bE _ _ _ sw).trans (cC _ _);have g:((W.alloc (.cells #[a,b,c] 30)).alloc (.cells #[x,y,z] 30)).heap[W.heap.size+1]?=Q1 (.cells #[x,y,z] 30 (0,0)):=by
  have:=cC (W.alloc (.cells #[a,b,c] 30)) (.cells #[x,y,z] 30)
  rwa [bt]at this
 rw[e0]at d;rw[g]at e;simp[World.cell?,World.frozen?,d,e]
theorem Mi(k n:Int)(s:zH)(W:World):Calls Tryz.prog 112 #[.agg #[.int .i64 k,.int .i64 n,.string ⟨s.toArray⟩]] W λe w=>e=.returned (.agg #[.int .i64 (aA (k,n,s)).1,.int .i64 (aA (k,n,s)).2.1,.string ⟨(aA (k,n,s)).2.2.toArray⟩])/\RowKit.Below W.heap.size W w/\W.drawn<=w.drawn:=by
 have h:=λa=>zr6 k n s a
 unfold aA;generalize bf (k,n,s)=R at h|-
 go_enter Tryz.func112,Tryz.ntmps112
 go_wp2_with (go_at_call 39;refine(h _).mono ?_;rintro e w ⟨rfl,x,c⟩;obtain⟨i,j,l,m,o,q,t,u,v,b⟩:=UU W w (.int .i64 k) (.int .i64 n) (.string ⟨s.toArray⟩) (.int .i64 0) (.int .i64 0) (.string ⟨#[]⟩) x)
 all_goals
  have d:RowKit.Below W.heap.size W w:=(((RowKit.Below.refl _ W).alloc (ah _) _).alloc sw _).trans (x.mono sg);have g:W.drawn<=w.drawn:=c;refine bodyPost_ret (results_cell_row rfl _ _ (W.heap.size+1) 30 _ (0,0) _ rfl (by simp[World.setCell,pP,b];rfl) Tryz.underlying30 rfl kw) rfl ⟨?_,?_,?_⟩
  .rfl
  .exact((d.setCell (p:=⟨W.heap.size+1,0,Q2⟩) sw _).setCell (p:=⟨W.heap.size+1,1,Q2⟩) sw _).setCell (p:=⟨W.heap.size+1,2,Q2⟩) sw _
  .exact g
set_option maxRecDepth 100000
theorem Yw(x:Int)(W:World):Calls Tryz.prog 182 #[.int .i64 x] W λe w=>e=.returned (.bool Q4)/\w=W:=by
 go_enter Tryz.func182,Tryz.ntmps182
 go_wp2
 go_ret
 exact⟨sw,rfl⟩
theorem Yx(x:Int)(W:World):Calls Tryz.prog 183 #[.int .i64 x] W λe w=>e=.returned (.bool Q4)/\w=W:=by
 go_enter Tryz.func183,Tryz.ntmps183
 go_wp2
 go_ret
 exact⟨sw,rfl⟩
theorem Yy(x:ByteArray)(W:World):Calls Tryz.prog 184 #[.string x] W λe w=>e=.returned (.bool Q4)/\w=W:=by
 go_enter Tryz.func184,Tryz.ntmps184
 go_wp2
 go_ret
 exact⟨sw,rfl⟩
theorem VW(x y:Int):sB x y=(ite (x<y) (-1) (ite (y<x) 1 0):Int):=by unfold sB;simp
theorem Tq(x y:Int):jd x y=(ite (x<y) (-1) (ite (y<x) 1 0):Int):=by unfold jd;simp
theorem zjQ(x y:Int)(W:World):Calls Tryz.prog 114 #[.int .i64 x,.int .i64 y] W λe w=>e=.returned (.int .i64 (sB x y))/\w=W:=by
 have a:=λh=>Yw x h
 have b:=λh=>Yw y h
 rw[VW]
 go_enter Tryz.func114,Tryz.ntmps114
 go_wp2_with (first|(go_at_call 182;refine(a _).mono ?_;rintro e w ⟨rfl,rfl⟩)|(go_at_call 182;refine(b _).mono ?_;rintro e w ⟨rfl,rfl⟩))
 all_goals
  go_ret
  refine⟨?_,rfl⟩;congr 2
theorem zjR(x y:Int)(W:World):Calls Tryz.prog 115 #[.int .i64 x,.int .i64 y] W λe w=>e=.returned (.int .i64 (jd x y))/\w=W:=by
 have a:=λh=>Yx x h
 have b:=λh=>Yx y h
 rw[Tq]
 go_enter Tryz.func115,Tryz.ntmps115
 go_wp2_with (first|(go_at_call 183;refine(a _).mono ?_;rintro e w ⟨rfl,rfl⟩)|(go_at_call 183;refine(b _).mono ?_;rintro e w ⟨rfl,rfl⟩))
 all_goals
  go_ret
  refine⟨?_,rfl⟩;congr 2
theorem zjS(x y:zH)(W:World):Calls Tryz.prog 116 #[.string ⟨x.toArray⟩,.string ⟨y.toArray⟩] W λe w=>e=.returned (.int .i64 (ox x y))/\w=W:=by
 have b:=λh=>Yy ⟨x.toArray⟩ h
 have c:=λh=>Yy ⟨y.toArray⟩ h
 have d:∀h,(binOp .gtr 9 (.string ⟨x.toArray⟩) (.string ⟨y.toArray⟩)).run Tryz.prog h=.ok (.bool (!(Op.bytesLess x y||x==y))) h:=λh=>by simp[binOp,Op.stringOp]
 have a:ox x y=(ite (Op.bytesLess x y=Q3) (-1) (ite ((!(Op.bytesLess x y||x==y))=Q3) 1 0):Int):=by unfold ox;simp
 rw[a];clear a
 go_enter Tryz.func116,Tryz.ntmps116
 go_wp2_with (first|(go_at_call 184;refine(b _).mono ?_;rintro e w ⟨rfl,rfl⟩)|(go_at_call 184;refine(c _).mono ?_;rintro e w ⟨rfl,rfl⟩))
 all_goals
  go_ret
  refine⟨?_,rfl⟩;simp_all
theorem ztp(x y z:Int)(b:Nat)(W:World)(g:W.cell? ⟨b,0,Q2⟩=Q1 (.int .i64 x))(i:W.cell? ⟨b,1,Q2⟩=Q1 (.int .i64 y))(j:W.cell? ⟨b,2,Q2⟩=Q1 (.int .i64 z)):
  Calls Tryz.prog 113 #[.slice (Q1 ⟨b,0,Q2⟩) 3 3] W λe w=>e=.returned (.int .i64 (Hm [x,y,z]))/\w=W:=by
 have d:Hm [x,y,z]=if x=0 then(ite (y=0) z y)else x:=by
  unfold Hm;unfold Hm;unfold Hm;unfold Hm;by_cases h:x=0<;>by_cases a:y=0<;>by_cases c:z=0<;>simp[h,a,c]
 rw[d];clear d
 go_enter Tryz.func113,Tryz.ntmps113
 go_wp2
 by_cases h:x=0
 .subst h;by_cases a:y=0
  .subst a;by_cases c:z=0
   .subst c;refine wp_loop_rounds 4 ?_
    (rw[rounds_succ];go_wp2)
    (rw[rounds_succ];go_wp2)
    (rw[rounds_succ];go_wp2)
    (rw[rounds_succ];go_wp2)
    go_ret
    exact⟨by simp[*],rfl⟩
   .refine wp_loop_rounds 4 ?_
    (rw[rounds_succ];go_wp2)
    (rw[rounds_succ];go_wp2)
    (rw[rounds_succ];go_wp2)
    go_ret
    exact⟨by simp[*],rfl⟩
  .refine wp_loop_rounds 4 ?_
   (rw[rounds_succ];go_wp2)
   (rw[rounds_succ];go_wp2)
   go_ret
   exact⟨by simp[*],rfl⟩
 .refine wp_loop_rounds 4 ?_
  (rw[rounds_succ];go_wp2)
  go_ret
  exact⟨by simp[*],rfl⟩
structure zt2 (p:Prop):Prop where
 out:p
variable {i:Value}
theorem Mh{A:World}{p:Nat}{a x y z:Value}(e0:A.heap[p]?=Q1 (.cells #[v,a,i] 30 (0,0)))(e:A.heap[q]?=Q1 (.cells #[x,y,z] 30 (0,0)))(h:RowKit.Below A.heap.size A b):
  b.heap[p]?=Q1 (.cells #[v,a,i] 30 (0,0))/\b.heap[q]?=Q1 (.cells #[x,y,z] 30 (0,0)):=
 ⟨(h.block p (mc.1 e0).1).trans e0,(h.block q (mc.1 e).1).trans e⟩
theorem pX{p:Nat}{g:Value}(e0:w.heap[p]?=Q1 (.cells #[v,g,i] 30 (0,0))):
  w.cell? ⟨p,0,Q2⟩=Q1 v/\w.cell? ⟨p,1,Q2⟩=Q1 g/\w.cell? ⟨p,2,Q2⟩=Q1 i/\w.frozen? ⟨p,0,Q2⟩=Q4/\w.frozen? ⟨p,1,Q2⟩=Q4/\w.frozen? ⟨p,2,Q2⟩=Q4:=by simp[World.cell?,World.frozen?,e0]
theorem zdG(k n:Int)(s:zH)(i j:Int)(l:zH)(W:World):Calls Tryz.prog 50 #[.agg #[.int .i64 k,.int .i64 n,.string ⟨s.toArray⟩],.agg #[.int .i64 i,.int .i64 j,.string ⟨l.toArray⟩]] W λe T=>e=.returned (.int .i64 (aO (k,n,s) (i,j,l)))/\RowKit.Below W.heap.size W T/\W.drawn<=T.drawn:=by
 have E:=λd=>Mi k n s d
 have g:=λd=>Mi i j l d
 have v:Tryz.prog.follows .mixedOrders=Q3:=by kernel_rfl
 unfold aO;generalize aA (k,n,s)=a at E|-;generalize aA (i,j,l)=b at g|-;obtain⟨w,y,z⟩:=a;obtain⟨B,C,D⟩:=b
 dsimp only at E g|-
 have O:=λd=>zjQ w B d
 have P:=λd=>zjR y C d
 have S:=λd=>zjS z D d
 generalize sB w B=m1 at O|-;generalize jd y C=m2 at P|-;generalize ox z D=m3 at S|-
 go_enter Tryz.func50,Tryz.ntmps50
 go_wp2
 obtain⟨m,h⟩:∃m,(W.alloc (.cells #[.int .i64 k,.int .i64 n,.string ⟨s.toArray⟩] 30)).alloc (.cells #[.int .i64 i,.int .i64 j,.string ⟨l.toArray⟩] 30)=m:=⟨_,rfl⟩;have e0:m.heap[W.heap.size]?=Q1 (.cells #[.int .i64 k,.int .i64 n,.string ⟨s.toArray⟩] 30 (0,0)):=by rw[<-h];exact(bE _ _ _ sw).trans (cC _ _)
 have U:m.heap[W.heap.size+1]?=Q1 (.cells #[.int .i64 i,.int .i64 j,.string ⟨l.toArray⟩] 30 (0,0)):=by
  rw[<-h];have:=cC (W.alloc (.cells #[.int .i64 k,.int .i64 n,.string ⟨s.toArray⟩] 30)) (.cells #[.int .i64 i,.int .i64 j,.string ⟨l.toArray⟩] 30)
  rwa [bt]at this
 have q:RowKit.Below W.heap.size W m:=by rw[<-h];exact((RowKit.Below.refl _ W).alloc (ah _) _).alloc sw _
 have h0:W.drawn<=m.drawn:=by rw[<-h];exact ah _
 rw[h];clear h;obtain⟨c0,c1,c2,c3,c4,c5⟩:=pX e0;obtain⟨d0,d1,d2,d3,d4,d5⟩:=pX U;rename_i K J
 have c:∀x:World,x.heap[W.heap.size]?=Q1 (.cells #[.int .i64 w,.int .i64 y,.string ⟨z.toArray⟩] 30 (0,0))->x.heap[W.heap.size+1]?=Q1 (.cells #[.int .i64 B,.int .i64 C,.string ⟨D.toArray⟩] 30 (0,0))->RowKit.Below W.heap.size W x->W.drawn<=x.drawn->
   K {tmps:=#[.agg #[.int .i64 k,.int .i64 n,.string ⟨s.toArray⟩],.agg #[.int .i64 i,.int .i64 j,.string ⟨l.toArray⟩],.pointer (Q1 ⟨W.heap.size,0,Q2⟩),.pointer (Q1 ⟨W.heap.size+1,0,Q2⟩),.int .i64 0,.agg #[.int .i64 k,.int .i64 n,.string ⟨s.toArray⟩],.agg #[.int .i64 w,.int .i64 y,.string ⟨z.toArray⟩],.agg #[.int .i64 i,.int .i64 j,.string ⟨l.toArray⟩],.agg #[.int .i64 B,.int .i64 C,.string ⟨D.toArray⟩],undef,undef,undef,undef,undef,undef,undef,undef,undef,undef,undef,undef,undef,undef,undef,undef,undef],defers:=[]} x:=by
  intro x w0 F H hd3;apply J;clear J;have h5:W.heap.size+1<x.heap.size:=(mc.1 F).1;obtain⟨x0,x1,x2,x3,x4,x5⟩:=pX w0;obtain⟨y0,y1,y2,y3,y4,y5⟩:=pX F
  go_wp2
  go_still_tail 15,v
  still_call (O _)
  repeat still_step
  still_call (P _)
  repeat still_step
  still_call (S _)
  refine wpStill_nil ?_;change wpList _ _ _ _ _ x.drew;have u:W.drawn<=x.drew.drawn:=aT hd3 (Nat.le_succ _);have t:RowKit.Below W.heap.size W x.drew:=H.drew;generalize x.drew=W4 at u t|-
  go_wp2_with (go_at_call 113;refine(ztp m1 m2 m3 W4.heap.size _ sw sw sw).mono ?_;rintro e T ⟨rfl,rfl⟩)
  go_ret
  exact⟨rfl,t.alloc t.size _,u⟩
 have L:=zt2.mk c;clear J c O P S
 go_region_with (first
  |(go_at_call 112;refine(E _).mono ?_;clear E;rintro e F ⟨rfl,o,hd3⟩;obtain⟨X,Y⟩:=Mh (A:=m.drew) e0 U o;obtain⟨p0,p1,p2,p3,p4,p5⟩:=pX X;obtain⟨q0,q1,q2,q3,q4,q5⟩:=pX Y)
  |(go_at_call 112;refine(g _).mono ?_;clear g;rintro e w2 ⟨rfl,G,u⟩;obtain⟨Z,g1⟩:=Mh X Y G;obtain⟨r0,r1,r2,r3,r4,r5⟩:=pX Z;obtain⟨s0,s1,s2,s3,s4,s5⟩:=pX g1))
 all_goals
  refine L.out _ ?_ ?_ ?_ ?_
  .simp[World.setCell,pP,Z]
  .simp[World.setCell,pP,g1]
  .have M:=o.size;have h3:=G.size;have I:RowKit.Below W.heap.size W w2:=(q.trans ((RowKit.Below.mono ⟨o.os,o.tape,o.output,o.size,o.block⟩ q.size))).trans (G.mono (aT q.size M));exact(((((I.setCell (p:=⟨W.heap.size,0,Q2⟩) sw _).setCell (p:=⟨W.heap.size,1,Q2⟩) sw _).setCell (p:=⟨W.heap.size,2,Q2⟩) sw _).setCell (p:=⟨W.heap.size+1,0,Q2⟩) sw _).setCell (p:=⟨W.heap.size+1,1,Q2⟩) sw _).setCell (p:=⟨W.heap.size+1,2,Q2⟩) sw _
  .have h4:m.drawn+1<=F.drawn:=hd3;have N:W.drawn<=w2.drawn:=by omega
   simpa[World.setCell]using N
end
end Cad
namespace Go.Proofs
open Cad (B2 F1 aM aT ah eJ fQ gF mc pM pn)
open Go.RowKit Go.Shelf
open Bool renaming false→Q4,true→Q3
open Option renaming none→Q2,some→Q1
open Decidable renaming decide→Q0
open List (length)
attribute [local go_sem] Oper.semAt_some
abbrev R12:={l:List Value//l.length=12/\∀v∈l,v.oneCell'=Q3}
theorem run_store_one(v:Value)(h:v.oneCell'=Q3)(w:World)(a:Addr)(hc:(w.cell? a).isSome=Q3)(hf:w.frozen? a=Q4):Sem.run Tryz.prog (store a v) w=.ok () (w.setCell a v):=by obtain⟨u,hu⟩:=Option.isSome_iff_exists.1 hc;unfold store;cases v<;>first|(simp[Value.oneCell']at h;done)|simp[Sem.run,hu,hf]
set_option maxRecDepth 100000 in
set_option maxHeartbeats 2000000 in
theorem Tryz.values1_in(F:Fence)(n:Nat)(h7:F.fn 139)(hro:F.round=Q2)(hn:1<=n)(l Bs n₀ b off cap:Nat)(zs:List R12)(hreach:zs.length<=1000)(hb:b<n₀)(J Jx:List R12->World->Prop)(W:World)(hn₀:n₀<=W.heap.size)(hJ:AbidesFrom W.heap.size J)
  (hY:∀pre x W,J pre W->pre.length<zs.length->YieldAt F (n-1) Tryz.prog l #[.agg x.1.toArray] W λe W'=>
   (e=.returned (.bool Q3)/\J (pre++[x]) W'/\Below n₀ W W')\/(e=.returned (.bool Q4)/\Jx (pre++[x]) W'))
  (hBs:W.cell? ⟨Bs,0,Q2⟩=Q1 (.slice (Q1 ⟨b,off,Q2⟩) zs.length cap)) (hc:∀i(hi:i<zs.length),∀j v,zs[i].1[j]?=Q1 v->W.cell? ⟨b,off+i*12+j,Q2⟩=Q1 v) (h0:J [] W):
  CallsIn F n Tryz.prog 139 #[.func (.yield l) #[] #[],.pointer (Q1 ⟨Bs,0,Q2⟩)] W λe W'=>(∃v,e=.returned v)/\
   ((∃ys,ys=zs/\J ys W')\/(∃pre,(∃k,k<=zs.length/\pre=zs.take k)/\Jx pre W')):=by
 refine callsIn_of_wp Tryz.func139 rfl h7 ?_ hro;simp only[Tryz.ntmps139,List.size_toArray,eJ,pn,Nat.reduceAdd,Nat.reduceSub,Array.replicate_succ,Array.replicate_zero,List.push_toArray,List.append_toArray,F1,List.cons_append]
 gi_wp2
 gi_loopw [7] (λi wr=>∃k:Nat,k<=zs.length/\i=.int .i64 k/\J (zs.take k) wr/\Below n₀ W wr)
  (λi _=>zs.length-(intOf i).toNat)
 case atStart=>exact⟨0,aM _,rfl,h0,Below.refl _ _⟩
 case round=>
  obtain⟨k,hk,rfl,hJs,hnx⟩:=hrel;by_cases hlt:k<zs.length
  .have hcx:∀j v,zs[k].1[j]?=Q1 v->wr.cell? ⟨b,off+k*12+j,Q2⟩=Q1 v:=λj v h=>(hnx.cell (p:=⟨b,off+k*12+j,Q2⟩) hb).trans (hc k hlt j v h)
   have hYx:=λW' h=>hY (zs.take k) zs[k] W' h (by rw[B2];omega)
   have htk:zs.take k++[zs[k]]=zs.take (k+1):=List.take_append_getElem hlt;rw[htk]at hYx;generalize hx:zs[k]=x at hYx hcx;obtain⟨xs,hxl,hx1⟩:=x
   match xs,hxl with
   |[v0,v1,v2,v3,v4,v5,v6,v7,v8,v9,v10,v11],_=>
   have c0:=hcx 0 v0 rfl;have c1:=hcx 1 v1 rfl;have c2:=hcx 2 v2 rfl;have c3:=hcx 3 v3 rfl;have c4:=hcx 4 v4 rfl;have c5:=hcx 5 v5 rfl;have c6:=hcx 6 v6 rfl;have c7:=hcx 7 v7 rfl;have c8:=hcx 8 v8 rfl;have c9:=hcx 9 v9 rfl;have c10:=hcx 10 v10 rfl;have c11:=hcx 11 v11 rfl;rw[pM]at c0;have d0:=run_store_one v0 (hx1 v0 (by simp));have d1:=run_store_one v1 (hx1 v1 (by simp));have d2:=run_store_one v2 (hx1 v2 (by simp));have d3:=run_store_one v3 (hx1 v3 (by simp));have d4:=run_store_one v4 (hx1 v4 (by simp));have d5:=run_store_one v5 (hx1 v5 (by simp));have d6:=run_store_one v6 (hx1 v6 (by simp));have d7:=run_store_one v7 (hx1 v7 (by simp));have d8:=run_store_one v8 (hx1 v8 (by simp));have d9:=run_store_one v9 (hx1 v9 (by simp));have d10:=run_store_one v10 (hx1 v10 (by simp));have d11:=run_store_one v11 (hx1 v11 (by simp));have hJa:J (zs.take k) (wr.alloc (.cells #[v0,v1,v2,v3,v4,v5,v6,v7,v8,v9,v10,v11] 38)):=hJ _ _ _ Q2 hJs (World.grownBy_alloc _ _ _) (λr e=>by cases e);have hba:Below n₀ wr (wr.alloc (.cells #[v0,v1,v2,v3,v4,v5,v6,v7,v8,v9,v10,v11] 38)):=(Below.refl _ _).alloc (by have:=hnx.size;omega) _;obtain⟨fn,tmps,assign,body,hy,hR⟩:=hYx _ hJa
   dsimp only at hy hR
   gi_wp2
   refine hR.mono ?_;rintro e W3 (⟨rfl,hJ3,hk3⟩|⟨rfl,hJx3⟩)
   .gi_wp2
    go_roundw
    case rel=>exact⟨k+1,by omega,by simp,hJ3,(hnx.trans hba).trans hk3⟩
    case measure=>simp[intOf];omega
   .gi_wp2
    refine bodyPost_ret (results_none rfl _ _ _) rfl ?_;exact⟨⟨_,rfl⟩,.inr ⟨_,⟨k+1,by omega,rfl⟩,hJx3⟩⟩
  .obtain rfl:k=zs.length:=by omega
   gi_wp2
   go_end0
   exact⟨⟨_,rfl⟩,.inl ⟨_,rfl,by rwa [fQ]at hJs⟩⟩
theorem Tryz.values_stops(F:Fence)(n:Nat)(h7:F.fn 139)(hro:F.round=Q2)(hn:1<=n)(Bs n₀ b off cap:Nat)(zs:List R12)(hreach:zs.length<=1000)(w:World)(hBs:Bs<w.heap.size)(hn₀:n₀<=w.heap.size)(hb:b<n₀)
  (hs:w.cell? ⟨Bs,0,Q2⟩=Q1 (.slice (Q1 ⟨b,off,Q2⟩) zs.length cap)) (hc:∀i(hi:i<zs.length),∀j v,zs[i].1[j]?=Q1 v->w.cell? ⟨b,off+i*12+j,Q2⟩=Q1 v):
  SeqStopsK F n Tryz.prog 139 #[.pointer (Q1 ⟨Bs,0,Q2⟩)] (λx:R12=>#[.agg x.1.toArray]) (Below n₀) (λys=>ys=zs) (λpre=>pre<+:zs) zs.length w:=λl J Jx W hW hJ _ hY h0=>by
 refine(Tryz.values1_in F n h7 hro hn l Bs n₀ b off cap zs hreach hb J Jx W (aT hn₀ hW.size) hJ hY ((hW.cell (p:=⟨Bs,0,Q2⟩) hBs).trans hs) (λi hi j v h=>(hW.cell (p:=⟨b,off+i*12+j,Q2⟩) (gF hb hn₀)).trans (hc i hi j v h)) h0).mono ?_;rintro e W' ⟨he,⟨ys,hy,hj⟩|⟨pre,⟨k,hk,rfl⟩,hj⟩⟩
 .exact⟨he,.inl ⟨ys,hy,hj⟩⟩
 .exact⟨he,.inr ⟨_,List.take_prefix _ _,hj⟩⟩
theorem Tryz.info38:(Tryz.prog.info? 38).map (λi=>(i.zero,i.size,i.bytes))=Q1 (Q1 (.agg #[.string ⟨#[]⟩,.slice Q2 0 0,.int .i64 0,.slice Q2 0 0,.slice Q2 0 0,.string ⟨#[]⟩,.int .i64 0,.int .i64 0,.string ⟨#[]⟩,.string ⟨#[]⟩,.slice Q2 0 0,.slice Q2 0 0]),12,208):=by kernel_rfl
def flat12(l:List R12):List Value:=l.flatMap λx=>x.1
theorem flat12_snoc(l:List R12)(x:R12):flat12 (l++[x])=flat12 l++x.1:=by simp[flat12]
theorem cell_row_new(w:World)(l:List Value)(t:TypeId):∀j u,l[j]?=Q1 u->(w.alloc (.cells l.toArray t)).cell? ((⟨w.heap.size,0,Q2⟩:Addr).add j)=Q1 u:=by
 intro j u h;unfold Addr.add;split
 next e=>subst e;simp[h]
 .simp[h]
theorem cells_own(B:Nat)(vs:Array Value)(t:TypeId):Own (λ(_:Unit) W=>W.heap[B]?=Q1 (.cells vs t (0,0))):=λs X Y row hs hg hrow=>
 (hg.block B (mc.1 hs).1 (λe'=>by obtain⟨o,ho,hc⟩:=hrow B e'.symm;rw[hs]at ho;cases ho;cases hc)).trans hs
set_option maxRecDepth 100000 in
set_option maxHeartbeats 2000000 in
theorem Tryz.appendSeq_in(F:Fence)(n:Nat)(h3:F.fn 196)(h5:F.fn 139)(hro:F.round=Q2)(hn:3<=n)(Bs b off cap:Nat)(zs:List R12)(hreach:zs.length<=1000)(w:World)(hBs:Bs<w.heap.size)(hb:b<w.heap.size)
  (hs:w.cell? ⟨Bs,0,Q2⟩=Q1 (.slice (Q1 ⟨b,off,Q2⟩) zs.length cap)) (hc:∀i(hi:i<zs.length),∀j v,zs[i].1[j]?=Q1 v->w.cell? ⟨b,off+i*12+j,Q2⟩=Q1 v):
  CallsIn F n Tryz.prog 196 #[.slice Q2 0 0,.func (.func 139) #[] #[.pointer (Q1 ⟨Bs,0,Q2⟩)]] w λe W'=>∃v,e=.returned v/\W'.ownsRow w.heap.size 38 12 v zs.length (flat12 zs)/\Below w.heap.size w W':=by
 have h1:1<=n:=by omega
 obtain⟨i0,hi,hz0,hz1,hz2⟩:=info_parts Tryz.info38;refine callsIn_of_wp_marks Tryz.func196 rfl h3 ?_ hro;simp only[Tryz.ntmps196,List.size_toArray,eJ,pn,Nat.reduceAdd,Nat.reduceSub,Array.replicate_succ,Array.replicate_zero,List.push_toArray,List.append_toArray,F1,List.cons_append]
 gi_wp2
 have bO:=Boxed.new w 42 (.slice Q2 0 0);have hB0:Below w.heap.size w (w.alloc (.cells #[.slice Q2 0 0] 42)):=(Below.refl _ w).alloc (ah _) _
 refine wpIn_rangeFunc_ownH hro h1 (gf:=139) (lb:=#[.pointer (Q1 ⟨Bs,0,Q2⟩)]) rfl h5 (enters_of Tryz.func139 (by kernel_rfl) rfl)
  (Tryz.values_stops F (n-1) h5 hro (by omega) Bs w.heap.size b off cap zs hreach _ (by simp<;>omega) (by simp) hb ((hB0.cell (p:=⟨Bs,0,Q2⟩) hBs).trans hs) (λi hi j v h=>(hB0.cell (p:=⟨b,off+i*12+j,Q2⟩) hb).trans (hc i hi j v h))) belowK_t (belowK_b (by simp<;>omega)) (Below.refl _ _) (λ_=>rfl)
  (λpre W=>(∃v,Boxed W w.heap.size 42 v/\W.ownsRow w.heap.size 38 12 v pre.length (flat12 pre)/\(v=.slice Q2 0 0↔pre=[]))/\Below w.heap.size w W)
  (λ_ _ _=>False)
  (OwnFrom.and (Own.from (holdsRow_own w.heap.size w.heap.size 42 38 12 (λpre=>pre.length) (λpre=>flat12 pre) (λpre v=>v=.slice Q2 0 0↔pre=[])) _) (ownFrom_below (ah _) (by simp<;>omega)))
  (λ_ _ _ _ _ hs _ _=>hs)
  ⟨⟨_,bO,World.ownsRow_nil _ _ _ _,by simp⟩,hB0⟩
  (λx a' W=>∃Bx,w.heap.size<Bx/\W.heap[Bx]?=Q1 (.cells x.1.toArray 38 (0,0))/\a'={tmps:=#[.slice Q2 0 0,.func (.func 139) #[] #[.pointer (Q1 ⟨Bs,0,Q2⟩)],.pointer (Q1 ⟨w.heap.size,0,Q2⟩),undef,.slice Q2 0 0,.pointer (Q1 ⟨Bx,0,Q2⟩),.func (.func 139) #[] #[.pointer (Q1 ⟨Bs,0,Q2⟩)],.agg x.1.toArray,undef,undef,undef,undef,undef],defers:=[]})
  (λx a' _ X Y row hs hg hr=>by obtain⟨Bx,h1,h2,h3⟩:=hs;exact⟨Bx,h1,cells_own Bx x.1.toArray 38 () X Y row h2 hg (λr e=>(hr r e).2),h3⟩)
  ?assign ?body ?done ?stop
 case assign=>
  rintro l pre ⟨xs,hxl,hx1⟩ W K ⟨⟨v,hv,hrow,hnil⟩,hB⟩ hK
  match xs,hxl with
  |[v0,v1,v2,v3,v4,v5,v6,v7,v8,v9,v10,v11],_=>
  have d0:=run_store_one v0 (hx1 v0 (by simp));have d1:=run_store_one v1 (hx1 v1 (by simp));have d2:=run_store_one v2 (hx1 v2 (by simp));have d3:=run_store_one v3 (hx1 v3 (by simp));have d4:=run_store_one v4 (hx1 v4 (by simp));have d5:=run_store_one v5 (hx1 v5 (by simp));have d6:=run_store_one v6 (hx1 v6 (by simp));have d7:=run_store_one v7 (hx1 v7 (by simp));have d8:=run_store_one v8 (hx1 v8 (by simp));have d9:=run_store_one v9 (hx1 v9 (by simp));have d10:=run_store_one v10 (hx1 v10 (by simp));have d11:=run_store_one v11 (hx1 v11 (by simp))
  gi_wp2
  exact hK _ _ ((KeepsOthers.alloc _ _).from _) ((Below.refl _ W).alloc hB.size _) ⟨⟨v,hv.alloc _,hrow.alloc _,hnil⟩,hB.alloc hB.size _⟩ ⟨W.heap.size,hv.lt,World.alloc_heap_new W _,rfl⟩
 case body=>
  rintro l pre ⟨xs,hxl,hx1⟩ a' W hl ⟨r,hr⟩ ⟨⟨v,hv,hrow,hnil⟩,hB⟩ ⟨Bx,hBx,hX,rfl⟩ hlt
  match xs,hxl with
  |[v0,v1,v2,v3,v4,v5,v6,v7,v8,v9,v10,v11],_=>
  have hcv:=hv.cell
  dsimp only at hX
  have c0:W.cell? ⟨Bx,0,Q2⟩=Q1 v0:=by simp[World.cell?,hX]
  have c1:W.cell? ⟨Bx,1,Q2⟩=Q1 v1:=by simp[World.cell?,hX]
  have c2:W.cell? ⟨Bx,2,Q2⟩=Q1 v2:=by simp[World.cell?,hX]
  have c3:W.cell? ⟨Bx,3,Q2⟩=Q1 v3:=by simp[World.cell?,hX]
  have c4:W.cell? ⟨Bx,4,Q2⟩=Q1 v4:=by simp[World.cell?,hX]
  have c5:W.cell? ⟨Bx,5,Q2⟩=Q1 v5:=by simp[World.cell?,hX]
  have c6:W.cell? ⟨Bx,6,Q2⟩=Q1 v6:=by simp[World.cell?,hX]
  have c7:W.cell? ⟨Bx,7,Q2⟩=Q1 v7:=by simp[World.cell?,hX]
  have c8:W.cell? ⟨Bx,8,Q2⟩=Q1 v8:=by simp[World.cell?,hX]
  have c9:W.cell? ⟨Bx,9,Q2⟩=Q1 v9:=by simp[World.cell?,hX]
  have c10:W.cell? ⟨Bx,10,Q2⟩=Q1 v10:=by simp[World.cell?,hX]
  have c11:W.cell? ⟨Bx,11,Q2⟩=Q1 v11:=by simp[World.cell?,hX]
  gi_wp2_with (gi_at_builtin;refine wpListIn_append_own _ rfl _ _ 42 rfl w.heap.size 38 i0 _ 12 208 Tryz.underlying42 hi hz0 hz1 hz2 rfl (by decide) _ _ _ rfl (hrow.alloc _) ⟨W.heap.size,0,Q2⟩ 1 1 [v0,v1,v2,v3,v4,v5,v6,v7,v8,v9,v10,v11] rfl rfl (cell_row_new _ _ _) hx1 (by unfold maxLen;omega) (by omega) (by have:=hB.size;simp;omega) ?_;intro v' w1 hown' hgrow _;obtain⟨g',cap',rfl⟩:=ownsRow_succ hown';obtain⟨hv1,hv2,hr2,hk2,hb2⟩:=hv.appended (by decide) hrow hB.size (ah _) hown' hgrow;have hc1:=hv1.cell;have hf1:=hv1.frozen)
  exact⟨hk2.from _,hb2,⟨_,hv2,by rw[flat12_snoc];simpa using hr2,by simp⟩,hB.trans hb2⟩
 case done=>
  rintro D ys W hD rfl ⟨⟨v,hv,hrow,hnil⟩,hB⟩ hK;have hc:=hv.cell
  gi_wp2
  refine⟨by simp,.inl ⟨_,_,rfl,run_takeDeferred hK,?_⟩⟩;exact⟨_,results_tmp rfl _ _ _,v,rfl,ownsRow_putObj hrow _ hK rfl,hB.trans (belowK_b (w:=w) (ah _) W D _ _ (by simp at hD;omega) hK rfl rfl)⟩
 case stop=>
  rintro D c pre W _ _ h _;exact h.elim
set_option maxHeartbeats 1000000 in
theorem Tryz.collect_in(F:Fence)(n:Nat)(h2:F.fn 137)(h3:F.fn 196)(h5:F.fn 139)(hro:F.round=Q2)(hn:4<=n)(Bs b off cap:Nat)(zs:List R12)(hreach:zs.length<=1000)(w:World)(hBs:Bs<w.heap.size)(hb:b<w.heap.size)
  (hs:w.cell? ⟨Bs,0,Q2⟩=Q1 (.slice (Q1 ⟨b,off,Q2⟩) zs.length cap)) (hc:∀i(hi:i<zs.length),∀j v,zs[i].1[j]?=Q1 v->w.cell? ⟨b,off+i*12+j,Q2⟩=Q1 v):
  CallsIn F n Tryz.prog 137 #[.func (.func 139) #[] #[.pointer (Q1 ⟨Bs,0,Q2⟩)]] w λe W'=>∃v,e=.returned v/\W'.ownsRow w.heap.size 38 12 v zs.length (flat12 zs)/\Below w.heap.size w W':=by
 have h1:1<=n:=by omega
 refine callsIn_of_wp Tryz.func137 rfl h2 ?_ hro;simp only[Tryz.ntmps137,List.size_toArray,eJ,pn,Nat.reduceAdd,Nat.reduceSub,Array.replicate_succ,Array.replicate_zero,List.push_toArray,List.append_toArray,F1,List.cons_append]
 gi_wp2_with (gi_at_call 196;refine(Tryz.appendSeq_in F (n-1) h3 h5 hro (by omega) Bs b off cap zs hreach w hBs hb hs hc).mono ?_;rintro e w' ⟨v,rfl,hv1,hv2⟩)
 go_ret
 exact⟨v,rfl,hv1,hv2⟩
end Go.Proofs
namespace Cad
open Go Go.Proofs
open List renaming length→Io
open IntKind renaming wrap→Γ,i64→Δ
open AV renaming agg→Qd
open Tr renaming val→Q8
open Sh renaming bool→Q7,str→Q6
open Bool renaming false→Q4,true→Q3
open Option renaming none→Q2,some→Q1
open Decidable renaming decide→Q0
set_option maxHeartbeats 4000000
open Tr (chk br)
open AV (nils agg tup ptr kb str sl)
theorem Db:∀(l:List R12)(i j:Nat)(h:i<Io l),j<12->(flat12 l)[i*12+j]?=l[i].1[j]?
 | x::r,0,j,_,hj=>by
  show(x.1++flat12 r)[0*12+j]?=x.1[j]?;rw[kG (by rw[x.2.1];omega),Nat.zero_mul,ew]
 | x::r,i+1,j,h,hj=>by
  show(x.1++flat12 r)[(i+1)*12+j]?=_;rw[jg (by rw[x.2.1];omega),x.2.1,show(i+1)*12+j-12=i*12+j by omega,Db r i j (by simpa using h) hj];rfl
@[match_pattern] abbrev ztq:Sh:=.pr (.pr .str (.pr (.sl (.pr .str (.pr (.int .i64) .bool))) (.pr (.int .i64) (.pr (.sl (.int .i64)) (.pr (.sl (.pr (.int .i64) .str)) .expr))))) (.sl (.sl (.pr (.int .i64) (.pr (.int .i64) .str))))
def F91:z8:=λa h n=>match a with
 | [.clo (.func 139) [] [.ptr id 0]]=>match h id with
  |.box [.sl ztq l]=>.chk (Q0 (0<Io l)) (.chk (Q0 (Io l<=1000)) (.ok {val:=.vec n,nw:=[.vec zk l]}))
  |_=>.err
 |_=>.err
theorem Oi{w:World}{U:Nat->Prop}{a:Nat->Option Value}{hp:Nat->AO}{n q:Nat}{l:zR}{v:Value}(h5:∀b,U b->b<w.heap.size)(J:w.cell? ⟨q,0,Q2⟩=Q1 v)(hr:Rv w U a (.sl zk l) v)(hn:a n=Q2)(h0:0<Io l)(I:Io l<=1000):
  Calls Tryz.prog 137 #[.func (.func 139) #[] #[.pointer (Q1 ⟨q,0,Q2⟩)]] w λe O=>∃m U' ρ',e=.returned m/\Ef n hp {val:=.vec n,nw:=[.vec zk l]} w U a m O U' ρ':=by
 obtain⟨d,P,rfl,h7,hm,h⟩:=J3 hr;rcases h with rfl|⟨b,o,rfl,X⟩
 .simp at h0
 have T:zk.size=12:=rfl;have u:∀i(B:i<Io l) j,j<12->∃c x,(zz zk l[i])[j]?=Q1 c/\w.cell? ⟨b,o+i*12+j,Q2⟩=Q1 x/\Rv w U a c x/\x.oneCell'=Q3:=by
  intro i B j D;have M:(zz zk l[i]).length=12:=ag zk l[i];have t:(zz zk l[i])[j]?=Q1 ((zz zk l[i])[j]'(by rw[M];exact D)):=z6 _;obtain⟨x,I,s⟩:=X i B j _ t;exact⟨_,x,t,I,s,fW zk l[i] j _ x t s⟩
 have H:b<w.heap.size:=by
  obtain⟨c,x,_,s,_⟩:=u 0 h0 0 ow;exact uE s
 let z:List R12:=List.ofFn λi:Fin (Io l)=>⟨(List.range 12).map λj=>(w.cell? ⟨b,o+i.1*12+j,Q2⟩).getD undef,sw,λm F=>by
  obtain⟨j,D,rfl⟩:=bh.1 F;obtain⟨c,x,_,s,_,h4⟩:=u i.1 i.2 j (by simpa using D);rw[s];exact h4⟩
 have y:Io z=Io l:=by simp[z]
 have h6:∀i(B:i<Io z),∀j m,z[i].1[j]?=Q1 m->w.cell? ⟨b,o+i*12+j,Q2⟩=Q1 m:=by
  intro i B j m F;simp only[z,List.getElem_ofFn,du,dt]at F;obtain⟨k,hq,F⟩:=F;obtain⟨W,rfl⟩:=yh hq;obtain⟨c,x,_,s,_,_⟩:=u i (by rw[<-y];exact B) k W;rw[s]at F;rw[s,<-F];rfl
 refine(callsIn_wide.1 (Tryz.collect_in Fence.wide 4 trivial trivial trivial rfl ow q b o P z ow w (uE J) H (by rw[y];exact J) h6)).mono ?_;rintro e O ⟨m,rfl,N,p⟩;rcases N.2 with⟨_,h⟩|⟨g,A,S,rfl,hg,hG,h8,_,Y,Z⟩
 .omega
 have L:g<O.heap.size:=(mc.1 hG).1
 obtain⟨G,u1,u2,u3⟩:∃G:Nat->Prop,(∀b,b<w.heap.size->(G b↔U b))/\G g/\∀b,G b->b<O.heap.size:=
  ⟨λb=>U b\/b=g,λb H=>⟨λh=>h.elim id λe=>zC e ow,.inl⟩,.inr rfl,λb h=>by
   rcases h with h|rfl
   .exact gF (h5 b h) p.size
   .exact L⟩
 have E:∀{c:AV}{x:Value},Rv w U a c x->Rv O G (jJ a n (.slice (Q1 ⟨g,0,Q2⟩) (Io z) A)) c x:=λh=>h.mono p.size (λb' C _=>p.block b' C) (λb H h=>(u1 b H).1 h) (fg hn)
 refine⟨_,G,_,rfl,Ef.newVec sw hn rfl (kF.below p) (λb H _=>p.block b H) u3 u1 ?_ ?_⟩
 .refine⟨_,A,by rw[y];simp[jJ],hm,.inr ⟨g,38,S,rfl,ow,u2,hG,Y,ow,?_⟩⟩;intro i B j c hc;have D:j<12:=by have:=(dc.1 hc).1;rwa [ag]at this
  obtain⟨c',x,I,s,h3,_⟩:=u i B j D;rw[hc]at I;cases I;refine⟨x,?_,E h3⟩;have hz:(flat12 z)[i*12+j]?=Q1 x:=by
   rw[Db z i j (by rw[y];exact B) D];simp only[z,List.getElem_ofFn,du];rw[uu D];simp[s]
  rw[<-Z]at hz;have:=List.getElem?_take.symm.trans hz;split at this
  .rw[T,<-pl];exact this
  .cases this
 .intro b' C;simp[bJ]at C;exact .inl ow
theorem zpp:FK 137 F91 where
 fn:=⟨Tryz.f137,kw,kw,kw⟩
 calls:=λw U ρ W n s v f y h b p F j k E m=>by
  unfold F91 at h;split at h
  .rename_i id;split at h
   .rename_i l i;simp only[Tr.val_chk,Tr.val_ok,bg,aQ]at h;obtain⟨z,A,rfl⟩:=h;have G:=b.len
    match v,G,b with
    |[M],_,b=>
    have J:=b.rv 0 _ M rfl rfl;cases J with
    |clo _ _ _ O N h D H x=>
    match O,h,N,D,x with
    |[],_,[I],_,x=>
    have L:=x 0 _ I rfl rfl;cases L with
    |ptr _ _ S g=>
    have q:id∈y:=k id (by simp[AV.idsL,AV.ids]);have u:=j.ob id q;rw[i]at u;obtain⟨P,T,c,t,C,d,a,B⟩:=u;rw[g]at t;cases t;have e:=a.len;have o:=a.rv 0 _ (c.toList[0]'(by rw[<-e];simp)) rfl (z6 _);refine⟨Oi p ?_ o (m 0 sw) z A,sw⟩;rw[World.cell?,d];simp
   .simp at h
  .simp at h
end Cad
