/- Words, names, runs of octets. -/
import Derived.Test.YtjdjldbhjmgmkaaGreatDoorP07
import Derived.StillTailTactics
import Derived.RangeFuncNested
import Derived.RangeFuncBound
import Derived.OwnWalkIn
import Derived.TacticsInMore
import Derived.LoopNIn
import Derived.LoopIn
import Derived.Maps.AppendAt
namespace Cad
open Go Go.Proofs
open List renaming length->X
open IntKind renaming wrap->Γ,i64->Δ
open AV renaming agg->Qd
open Tr renaming val->Q8
open Sh renaming bool->Q7,str->Q6
open Bool renaming true->O,false->S
open Option renaming none->Q2,some->M
open Decidable renaming decide->T
open Tr (chk br)
open AV (nils agg tup ptr kb str)
open AV renaming str->I,sl->N
open Cad renaming ai->L,ow->W,Sem->J,ze->R
noncomputable section
def swT{β:Type}(l:β->zR)(s:zJ):List (zJ×β)->β->Tr zR
 |[],d=>.ok (l d)
 |(w,b)::r,d=>.br (s==w) (.ok (l b)) (swT l s r d)
def Uz{β:Type}(s:zJ):List (zJ×β)->β->β
 |[],d=>d
 |(w,b)::r,d=>if s==w then b else Uz s r d
theorem Mc{β:Type}{x:β->zR}{s:zJ}{d:β}{Φ:zR->Prop}:∀(l:List (zJ×β)),Φ (x (Uz s l d))->(swT x s l d).Sat Φ
 |[],h=>h
 | (w,b)::r,h=>by
  refine⟨λa=>?_,λa=>Mc r ?_⟩
  .simp only[Uz]at h;rw[zf a]at h;exact h
  grind[Uz]
def G0:List (zJ×Bool):=[(XU,O),([79,82],O),([78,79,84],O),([73,83],O),(He,O),(Kc,O),(Kb,O),(zdQ,O),(zd2,O),(DP,O),(DQ,O),(DO,O),([75,69,89],O),([85,78,73,81,85,69],O),(zrW,O),(je,O),(zdU,O),(zdW,O),(zdX,O),(zd4,O),(zd3,O),([83,69,84],O),(mV,O),(zdS,O),(wz,O),(zd1,O),(zdV,O),(Vl,O),([87,82,73,84,69],O),(Hf,O),([84,79],O),(zdZ,O),(zdY,O),(Vi,O),(Vk,O),(Vj,O),(Hd,O),(Hg,O)]
def BT:List (zJ×Int):=[(pC,0),(fk,0),(oC,1),(qE,1),(jf,2),(wA,2),([61],2),([60],2),([43],2),([45],2)]
def kh(s:zJ):Bool:=Uz s G0 S
def dU(s:zJ):Int:=Uz s BT (-1)
def aC(c:Int):Bool:=bif T (c>=48)then T (c<=57)else S
def bm(c:Int):Bool:=bif T (c>=97)then
  bif T (c<=122)then O else bif T (c>=65)then T (c<=90)else S
 else bif T (c>=65)then T (c<=90)else S
def cw(c:Int):Bool:=bif bm c then O else bif aC c then O else c==95
def vD:cu:=(((zsp.aut 308 Tryz.f308 1).aut 309 Tryz.f309 1).aut 307 Tryz.f307 1).aut 269 Tryz.f269 0
theorem oG:zw vD:=by refine jl (jl (jl (jl YF ?_) ?_) ?_) ?_<;>(refine⟨?_,?_,?_,?_⟩<;>kernel_rfl)
theorem zxl(s:zJ):run vD 0 (λ_=>{}) Tryz.f174.results.toList 400 (bq Tryz.f174) (bg Tryz.f174.ntmps [.str s] [])=swT (λb=>.ret (.kb b) []) s G0 S:=kw
theorem zuG:zY vD.P 174 Tryz.f174 1:=cK kw
theorem zqH:FK 174 (vT [.str] [.bool] λx=>M (kh x.1,())):=by
 refine yF zuG λx y a C h=>?_
 cases a;refine ep (n0:=0) oG zuG (λid _=>h id) (λ_=>{}) 400 ?_;have e:jk ([Q6].map M) x=[.str x.1]:=rfl;rw[e,zxl];exact Mc G0 rfl
theorem zxI(s:zJ):run vD 0 (λ_=>{}) Tryz.f272.results.toList 400 (bq Tryz.f272) (bg Tryz.f272.ntmps [.str s] [])=swT (λb=>.ret (.int .i64 b) []) s BT (-1):=kw
theorem zuY:zY vD.P 272 Tryz.f272 1:=cK kw
theorem zq6:FK 272 (vT [.str] [zk] λx=>M (dU x.1,())):=by
 refine yF zuY λx y a C h=>?_
 cases a;refine ep (n0:=0) oG zuY (λid _=>h id) (λ_=>{}) 400 ?_;have e:jk ([Q6].map M) x=[.str x.1]:=rfl;rw[e,zxI];exact Mc BT rfl
def dR(p:Int->Bool):zJ->Nat
 |[]=>0
 |c::r=>if p c.toNat then dR p r+1 else 0
def bH(f m:Int->Bool):zJ->Nat
 |[]=>0
 |c::r=>if f c.toNat then dR m r+1 else 0
variable {E:cu}{C:eW}{t:List Item}{s:St}{Q:AV->List AO->Prop}
theorem Reach.strLen{fn:FuncId}(j:Nat)(x:zJ)(e:s.tmps[j]?=M (.str x))(h:X x<=aD->Reach E C fn t s Q):Reach E C fn t s Q:=by
 intro b g a w U m i k c l;refine h ?_ b g a w U m i k c l;have d:j<a.tmps.toList.length:=by rw[<-c.tm.len];exact(dF.1 e).1
 have:=c.tm.rv j _ _ e (af d);generalize a.tmps.toList[j]=v at this;cases this with
 |str _ h=>exact h
abbrev Of:Nat->aX:=λ_=>{slots:=[1,2,5]}
abbrev Si(a b c d:AV)(s:zJ)(n:Int):St:={
 tmps:=(tm 31 [(1,I s),(2,ptr 0 0),(5,L n)]),
 heap:=[AO.box [a,b,c,d]]}
abbrev zoq(a b c d:AV)(p:Int->Bool)(s:zJ)(n:Int):Tr zR:=
 chk (cond (T (n<↑(X s))) (zL n (X s)) O)
  (br (cond (T (n<↑(X s))) (p ↑(List.getD s n.toNat 0).toNat) S)
   (Tr.ok (zR.head 4 (am Tryz.f270 4) (Si a b c d s (Γ Δ (n+1)))))
   (Tr.ok (zR.ret (L n) [])))
theorem ze9:zY vD.P 270 Tryz.f270 2:=cK kw
theorem zlC{C:eW}(g:∀id,0<=id->C.ρ0 id=Q2)(a b c d:AV)(p:Int->Bool)(s:zJ)
  (e:∀n,run vD 0 Of Tryz.f270.results.toList 300 (am Tryz.f270 4) (Si a b c d s n)=zoq a b c d p s n) (m:X s<=aD):∀(k i:Nat),X s-i=k->i<=X s->
  Reach vD C 270 (am Tryz.f270 4) (Si a b c d s i) (λr h=>(r,h)=(.int .i64 ((i+dR p (s.drop i):Nat):Int),[]))
 | k,i,l,o=>by
  subst l;refine ep oG ze9 g Of 300 ?_;rw[e];refine⟨?_,λh=>?_,λh=>?_⟩
  .grind[zL]
  .have x:i<X s:=by
    by_cases x:i<X s
    .exact x
    .simp_all
   have j:T ((i:Int)<X s)=O:=by simpa using x
   rw[j,dq s _ x,aI]at h;rw[il x];simp only[dR];rw[zf h,zu i W,show i+(dR p (List.drop (i+1) s)+1)=(i+1)+dR p (List.drop (i+1) s) by omega];exact zlC g a b c d p s e m (X s-(i+1)) (i+1) rfl W
  .have:dR p (s.drop i)=0:=by
    by_cases x:i<X s
    .grind[List.drop_eq_getElem_cons,dR]
    .rw[HP W];rfl
   rw[this];rfl
 termination_by k=>k
theorem zvm(s:zJ)(n:Int):run vD 0 Of Tryz.f270.results.toList 300 (am Tryz.f270 4) (Si (L 1) (L 16) (AV.clo (Fn.func 308) [] []) (AV.clo (Fn.func 307) [] []) s n)=zoq (L 1) (L 16) (AV.clo (Fn.func 308) [] []) (AV.clo (Fn.func 307) [] []) cw s n:=kw
theorem zsG(s:zJ):run vD 0 Of Tryz.f270.results.toList 300 (bq Tryz.f270) (bg Tryz.f270.ntmps [.agg [(L 1),(L 16),(AV.clo (Fn.func 308) [] []),(AV.clo (Fn.func 307) [] [])],.str s] [])=
 chk (cond (s==[]) O (zL 0 (X s)))
  (br (cond (s==[]) O (!bm ↑(List.getD s (Int.toNat 0) 0).toNat)) (Tr.ok (zR.ret (L 0) []))
   (Tr.ok (zR.head 4 (am Tryz.f270 4) (Si (L 1) (L 16) (AV.clo (Fn.func 308) [] []) (AV.clo (Fn.func 307) [] []) s 1)))):=kw
theorem zlz(a:∀id,0<=id->C.ρ0 id=Q2)(s:zJ)(b:X s<=aD):Reach vD C 270 (bq Tryz.f270) (bg Tryz.f270.ntmps [.agg [(L 1),(L 16),(AV.clo (Fn.func 308) [] []),(AV.clo (Fn.func 307) [] [])],.str s] []) (λr h=>(r,h)=(.int .i64 (bH bm cw s:Nat),[])):=by
 refine ep (n0:=0) oG ze9 a Of 300 ?_;rw[zsG];cases s with
 |nil=>exact⟨rfl,λ_=>rfl,λh=>by cases h⟩
 | cons c r=>
  refine⟨by simp[zL],λh=>?_,λh=>?_⟩
  .have x:bm ↑c.toNat=S:=by simpa using h
   simp only[bH,x];rfl
  .have x:bm ↑c.toNat=O:=by simpa using h
   have:=zlC a (L 1) (L 16) (AV.clo (Fn.func 308) [] []) (AV.clo (Fn.func 307) [] []) cw (c::r) (zvm (c::r)) b _ 1 rfl sw;simp only[bH,x,zj];rw[show 1+dR cw ((c::r).drop 1)=dR cw r+1 by simp[kV]]at this;exact this
theorem zvn(s:zJ)(n:Int):run vD 0 Of Tryz.f270.results.toList 300 (am Tryz.f270 4) (Si (L 2) (L 19) (AV.clo (Fn.func 309) [] []) (AV.clo (Fn.func 309) [] []) s n)=zoq (L 2) (L 19) (AV.clo (Fn.func 309) [] []) (AV.clo (Fn.func 309) [] []) aC s n:=kw
theorem zsH(s:zJ):run vD 0 Of Tryz.f270.results.toList 300 (bq Tryz.f270) (bg Tryz.f270.ntmps [.agg [(L 2),(L 19),(AV.clo (Fn.func 309) [] []),(AV.clo (Fn.func 309) [] [])],.str s] [])=
 chk (cond (s==[]) O (zL 0 (X s)))
  (br (cond (s==[]) O (!aC ↑(List.getD s (Int.toNat 0) 0).toNat)) (Tr.ok (zR.ret (L 0) []))
   (Tr.ok (zR.head 4 (am Tryz.f270 4) (Si (L 2) (L 19) (AV.clo (Fn.func 309) [] []) (AV.clo (Fn.func 309) [] []) s 1)))):=kw
theorem zlA(a:∀id,0<=id->C.ρ0 id=Q2)(s:zJ)(b:X s<=aD):Reach vD C 270 (bq Tryz.f270) (bg Tryz.f270.ntmps [.agg [(L 2),(L 19),(AV.clo (Fn.func 309) [] []),(AV.clo (Fn.func 309) [] [])],.str s] []) (λr h=>(r,h)=(.int .i64 (bH aC aC s:Nat),[])):=by
 refine ep (n0:=0) oG ze9 a Of 300 ?_;rw[zsH];cases s with
 |nil=>exact⟨rfl,λ_=>rfl,λh=>by cases h⟩
 | cons c r=>
  refine⟨by simp[zL],λh=>?_,λh=>?_⟩
  .have x:aC ↑c.toNat=S:=by simpa using h
   simp only[bH,x];rfl
  .have x:aC ↑c.toNat=O:=by simpa using h
   have:=zlC a (L 2) (L 19) (AV.clo (Fn.func 309) [] []) (AV.clo (Fn.func 309) [] []) aC (c::r) (zvn (c::r)) b _ 1 rfl sw;simp only[bH,x,zj];rw[show 1+dR aC ((c::r).drop 1)=dR aC r+1 by simp[kV]]at this;exact this
def G65:fD [Q2,M .str]:=λx h=>match x,h with
 |(.agg [.int .i64 1,.int .i64 16,.clo (.func 308) [] [],.clo (.func 307) [] []],s,_),[]=>.ok (.int .i64 (bH bm cw s:Nat),[])
 |(.agg [.int .i64 2,.int .i64 19,.clo (.func 309) [] [],.clo (.func 309) [] []],s,_),[]=>.ok (.int .i64 (bH aC aC s:Nat),[])
 |_,_=>.err
theorem zrf:FK 270 (bf [Q2,M .str] G65):=by
 refine dz ze9 λx d c h C b=>?_
 unfold G65 at h;split at h
 .simp only[Tr.val_ok,bG]at h;subst h;rename_i _ _ s u;have e:jk [Q2,M Q6] (Qd [(L 1),(L 16),(AV.clo (Fn.func 308) [] []),(AV.clo (Fn.func 307) [] [])],s,u)=[Qd [(L 1),(L 16),(AV.clo (Fn.func 308) [] []),(AV.clo (Fn.func 307) [] [])],.str s]:=rfl;rw[e];exact Reach.strLen 1 s rfl λa=>zlz b s a
 .simp only[Tr.val_ok,bG]at h;subst h;rename_i _ _ s u;have e:jk [Q2,M Q6] (Qd [(L 2),(L 19),(AV.clo (Fn.func 309) [] []),(AV.clo (Fn.func 309) [] [])],s,u)=[Qd [(L 2),(L 19),(AV.clo (Fn.func 309) [] []),(AV.clo (Fn.func 309) [] [])],.str s]:=rfl;rw[e];exact Reach.strLen 1 s rfl λa=>zlA b s a
 .simp at h
abbrev lx:Sh:=.pr (.int .i64) .str
abbrev dB:=J lx
def zej:cu:=((vD.add 174 (vT [.str] [.bool] λx=>M (kh x.1,()))).add 272 (vT [.str] [zk] λx=>M (dU x.1,()))).add 270 (bf [Q2,M .str] G65)
theorem NA:zw zej:=((oG.add zqH).add zq6).add zrf
def sF(s:zJ):Bool:=bif T ((X s:Int)>=1)then
  bif T ((X s:Int)<=16)then(bH bm cw s:Int)==↑(X s)else S
 else S
def g49(x:zF ([lx].map M)):Option (zF ([Q7].map M)):=if x.1.1=1 then M (sF x.1.2,())else Q2
theorem zxE(s:zJ):(run zej 0 unr Tryz.f225.results.toList 400 (bq Tryz.f225) (bg Tryz.f225.ntmps [.agg [.int .i64 1,.str s]] [])).val=M (.ret (.bool (sF s)) []):=kw
theorem zuV:zY zej.P 225 Tryz.f225 1:=cK kw
theorem zq0:FK 225 (vT [lx] [.bool] g49):=by
 refine yF zuV λx y h C b=>?_
 have⟨⟨k,s⟩,u⟩:=x;unfold g49 at h;split at h
 next c=>have a:k=1:=c;subst a;cases h;have e:jk ([lx].map M) (((1,s),u):zF ([lx].map M))=[.agg [.int .i64 1,.str s]]:=rfl;rw[e];exact pe (n0:=0) NA zuV (λid _=>b id) (zxE s) rfl
 .cases h
def zsq:cu:=zej.add 225 (vT [lx] [.bool] g49)
theorem YJ:zw zsq:=NA.add zq0
def zsr:cu:=zsq.aut 173 Tryz.f173 1
theorem YK:zw zsr:=jl YJ (cK kw)
def VL:cu:=zsr.aut 107 Tryz.f107 1
theorem NC:zw VL:=jl YK (cK kw)
open Go Go.Proofs Go.RowKit Go.Lib
variable {w b:World}
theorem ly.below(h:Below w.heap.size w b):ly w b:=
 ⟨h.size,h.os,h.output,h.tape,λa x=>Bl (h.block a.block x)⟩
variable {v:Value}
theorem fI{U:Nat->Prop}{r:AV}{l:List AO}{a:Nat->Option Value}(e:fF C w U a (λj=>l.getD j .dead))(k:∀id,X l<=id->a id=Q2)
  (n:∀id v,C.ρ0 id=M v->a id=M v) (d:Wd E.gl C w U) (i:Below w.heap.size w b) (q:Rv b U a r v):U9 E C (λt h=>(t,h)=(r,l)) (.returned v) b:=by
 have m:∀x,x<w.heap.size->b.heap[x]?=w.heap[x]?:=i.block;refine⟨v,r,l,U,a,rfl,rfl,q,⟨λid=>?_,e.inj,e.blk⟩,k,n,⟨d.ext.trans (ly.below i),λx c p=>?_,λx s=>ia (d.ub x s) i.size,d.u1,d.u2,λg=>?_⟩⟩
 .exact(e.ob id).mono i.size (λx c _=>m x c) (λ_ _ h=>h) (λ_ _ h=>h) (λx o=>⟨m x ((e.ob id).inU o).2,((e.ob id).inU o).1⟩)
 .rw[m x (ia c d.ext.sz)];exact d.same x c p
 .exact(d.gl g).mono i.size (λx c _=>m x c) (λ_ _ h=>h) (λ_ _ h=>h)
def zl6:cu:=VL.aut 98 Tryz.f98 1
theorem zuJ:zY VL.P 98 Tryz.f98 1:=cK kw
theorem YL:zw zl6:=jl NC zuJ
def Fr(c:Int):Bool:=bif T (c<32)then O else T (c>126)
theorem zxr(c:Int):((bf (List.replicate 1 Q2) (fj VL Tryz.f98 (List.replicate 1 Q2))) [.int .i32 c] (λ_=>.dead) 0).val=M {val:=.bool (Fr c)}:=kw
theorem zn2(w:World)(U:Nat->Prop)(n:Dt VL.gl w U)(o:∀b,U b->b<w.heap.size):PredGrows Tryz.prog 98 #[] (λr=>Fr r) w:=by
 intro a x t l;have p:FK 98 (bf (List.replicate 1 Q2) (fj VL Tryz.f98 (List.replicate 1 Q2))):=cm _ NC zuJ;have q:dn a U (λ_=>Q2) [.int .i32 (x:Int)] [.int .i32 (x:Int)]:=by
  refine⟨rfl,λj c v m k=>?_⟩;cases j with
  | zero=>
   simp at m k;subst m;subst k;refine .int _ _ ⟨?_,?_⟩
   .show(-2147483648:Int)<=x;omega
   .show(x:Int)<=2147483647;omega
  |succ j=>simp at m
 have:=(p.calls a U (λ_=>Q2) (λ_=>.dead) 0 [.int .i32 (x:Int)] [.int .i32 (x:Int)] _ [] (zxr x) q (λb i=>ia (o b i) l.size) (λg=>(n g).mono l.size (λb i _=>l.block b i) (λ_ _ h=>h) (λ_ _ h=>h)) ⟨sw,sw⟩ (by simp[AV.idsL,AV.ids]) sw sw).1;refine this.mono ?_;rintro e u ⟨v,s,y,rfl,d⟩;have k:=d.val;cases k;exact⟨rfl,⟨d.ext.os,d.ext.tape,d.ext.out,d.ext.sz,λb i=>d.same b i sw⟩⟩
def rQ(s:zJ):Int:=Lib.idxFunc (λr=>Fr r) O ⟨s.toArray⟩
def G36:fD [M .str,Q2]:=λx h=>match x,h with
 |(s,.clo (.func 98) [] [],_),[]=>.ok (.int .i64 (rQ s),[])
 |_,_=>.err
theorem zw7:Go.Proofs.Enters Tryz.prog 98:=by
  cases h:Tryz.f98.body with
  | none => have:Tryz.f98.body.isNone=false:=by kernel_rfl
            rw[h]at this;cases this
  |some c=>exact Go.Proofs.enters_of (fn:=Tryz.f98) kw kw h
theorem zqN:FK 99 (bf [M .str,Q2] G36):=by
 refine fV (E:=zl6) ⟨Tryz.f99,kw,kw,kw⟩ λx F y c=>?_
 unfold G36 at c;split at c
 .rename_i s u;simp only[Tr.val_ok,bG]at c;subst c;intro C w U ρ v _ a n h j d;have t:=a.len
  match v,t,a with
  | [z,A],_,a=>
   have l:=a.rv 0 (.str s) z rfl rfl;have m:=a.rv 1 (.clo (.func 98) [] []) A rfl rfl;cases l with
   |str _ H=>
   cases m with
   |clo _ _ _ D B q p _ _=>
   have i:D=[]:=DB q.symm;have g:B=[]:=DB p.symm;subst i;subst g;have:=Tryz.strings_IndexFunc_grows 98 #[] zw7 (λr=>Fr r) ⟨s.toArray⟩ w (zn2 w U d.gl d.ub);refine this.mono ?_;rintro e P ⟨rfl,o⟩;refine fI n h j d o (.int _ _ ?_);have b:=Lib.idxFunc_range (λr=>Fr r) O ⟨s.toArray⟩;have k:(⟨s.toArray⟩:ByteArray).size=X s:=by simp[ByteArray.size]
   have G:aD=9223372036854775807:=rfl;rw[k]at b;change rQ s=-1\/(0<=rQ s/\rQ s<X s)at b;refine⟨?_,?_⟩
   .show(-9223372036854775808:Int)<=_;omega
   .show _<=(9223372036854775807:Int);omega
 .simp at c
def wN:cu:=zl6.add 99 (bf [M .str,Q2] G36)
theorem lM:zw wN:=YL.add zqN
abbrev TS:=J Q6
abbrev LX:=List (J Sh.expr)
abbrev LC:=aT
abbrev LS:=List (J Q6)
abbrev LV:=zr
abbrev LI:=ee
abbrev LF:=dK
abbrev V:=zq
def be(x:zq):J Q7:=if(x.1==0)=O then if(x.2.1!=0)=O then S else x.2.2==[]else if(x.1==1)=O then x.2.2==[]else if(x.1==2)=O then bif x.2.1==0 then bif T ((X x.2.2:Int)<=40)then T (rQ x.2.2<0)else S else S else if(x.1==3)=O then bif x.2.1==0 then x.2.2==[]else bif x.2.1==1 then x.2.2==[]else S else S
theorem zuC:zY wN.P 39 Tryz.f39 1:=cK kw
theorem zxh(x:zq):rn wN 0 (λ_=>{ }) Tryz.f39 [zW R x] []=br (x.1==0) (br (x.2.1!=0) (Tr.ok (zR.ret (kb S) [])) (Tr.ok (zR.ret (AV.bool (x.2.2==[])) []))) (br (x.1==1) (Tr.ok (zR.ret (AV.bool (x.2.2==[])) [])) (br (x.1==2) (Tr.ok (zR.ret (AV.bool (cond (x.2.1==0) (cond (T ((X x.2.2:Int)<=40)) (T (rQ x.2.2<0)) S) S)) [])) (br (x.1==3) (Tr.ok (zR.ret (AV.bool (cond (x.2.1==0) (x.2.2==[]) (cond (x.2.1==1) (x.2.2==[]) S))) [])) (Tr.ok (zR.ret (kb S) []))))):=kw
def F21:ag:=aU [R] [Q7] λx=>(be x.1,())
theorem zqD:FK 39 F21:=by
 refine aq zuC λx C h=>?_
 refine bw lM zuC (λid _=>h id) (zxh x.1) ?_;simp only[Q8,be];repeat' split
 all_goals rfl
def bu(x:zy):zq:=if(x==0)=O then(0,0,[])else(3,Γ Δ (x-1),[])
theorem zu0:zY wN.P 274 Tryz.f274 1:=cK kw
theorem zxK(x:zy):rn wN 0 (λ_=>{ }) Tryz.f274 [zW zk x] []=br (x==0) (Tr.ok (zR.ret (Qd [L 0,L 0,I []]) [])) (Tr.ok (zR.ret (Qd [L 3,L (Γ Δ (x-1)),I []]) [])):=kw
def F57:ag:=aU [zk] [R] λx=>(bu x.1,())
theorem zq8:FK 274 F57:=by
 refine aq zu0 λx C h=>?_
 refine bw lM zu0 (λid _=>h id) (zxK x.1) ?_;simp only[Q8,bu];repeat' split
 all_goals rfl
def zoJ:ag:=bf (List.replicate 1 Q2) (fj wN Tryz.f182 (List.replicate 1 Q2))
theorem zjr:FK 182 zoJ:=cm _ lM (cK kw)
def zoK:ag:=bf (List.replicate 1 Q2) (fj wN Tryz.f183 (List.replicate 1 Q2))
theorem zjs:FK 183 zoK:=cm _ lM (cK kw)
def zoL:ag:=bf (List.replicate 1 Q2) (fj wN Tryz.f184 (List.replicate 1 Q2))
theorem zjt:FK 184 zoL:=cm _ lM (cK kw)
def nh:=wN.addL [(39,F21),(274,F57),(182,zoJ),(183,zoK),(184,zoL)]
theorem jT:zw nh:=lM.addL<|fc zqD<|fc zq8<|fc zjr<|fc zjs<|fc zjt jg
def aj(x:zq):zq:=if(!be x)=O then(0,0,[])else x
theorem zu4:zY nh.P 112 Tryz.f112 1:=cK kw
theorem zxO(x:zq):rn nh 0 (λ_=>{ }) Tryz.f112 [zW R x] []=br (!be x) (Tr.ok (zR.ret (Qd [L 0,L 0,I []]) [])) (Tr.ok (zR.ret (Qd [L x.1,L x.2.1,I x.2.2]) [])):=kw
def F61:ag:=aU [R] [R] λx=>(aj x.1,())
theorem zrd:FK 112 F61:=by
 refine aq zu4 λx C h=>?_
 refine bw jT zu4 (λid _=>h id) (zxO x.1) ?_;simp only[Q8,aj];repeat' split
 all_goals rfl
def eT(x:zq):zy:=if(cond (x.1!=3) O (!be x))=O then 0 else Γ Δ (1+x.2.1)
theorem zuZ:zY nh.P 273 Tryz.f273 1:=cK kw
theorem zxJ(x:zq):rn nh 0 (λ_=>{ }) Tryz.f273 [zW R x] []=br (cond (x.1!=3) O (!be x)) (Tr.ok (zR.ret (L 0) [])) (Tr.ok (zR.ret (L (Γ Δ (1+x.2.1))) [])):=kw
def F56:ag:=aU [R] [zk] λx=>(eT x.1,())
theorem zq7:FK 273 F56:=by
 refine aq zuZ λx C h=>?_
 refine bw jT zuZ (λid _=>h id) (zxJ x.1) ?_;simp only[Q8,eT];repeat' split
 all_goals rfl
def eh(x:J Q7):zq:=if x=O then bu 2 else bu 1
theorem zu2:zY nh.P 275 Tryz.f275 1:=cK kw
theorem zxM(x:J Q7):rn nh 0 (λ_=>{ }) Tryz.f275 [zW Q7 x] []=br x (Tr.ok (zR.ret (Qd [L (bu 2).1,L (bu 2).2.1,I (bu 2).2.2]) [])) (Tr.ok (zR.ret (Qd [L (bu 1).1,L (bu 1).2.1,I (bu 1).2.2]) [])):=kw
def F59:ag:=aU [Q7] [R] λx=>(eh x.1,())
theorem zra:FK 275 F59:=by
 refine aq zu2 λx C h=>?_
 refine bw jT zu2 (λid _=>h id) (zxM x.1) ?_;simp only[Q8,eh];repeat' split
 all_goals rfl
def ui(h x:zy):zy:=if(h !=h)=O then if(x !=x)=O then 0 else -1 else if(x !=x)=O then 1 else if T (h<x)=O then -1 else if T (h>x)=O then 1 else 0
theorem zu6:zY nh.P 114 Tryz.f114 2:=cK kw
theorem zxS(h x:zy):rn nh 0 (λ_=>{ }) Tryz.f114 [zW zk h,zW zk x] []=br (h !=h) (br (x !=x) (Tr.ok (zR.ret (L 0) [])) (Tr.ok (zR.ret (L (-1)) []))) (br (x !=x) (Tr.ok (zR.ret (L 1) [])) (br (T (h<x)) (Tr.ok (zR.ret (L (-1)) [])) (br (T (h>x)) (Tr.ok (zR.ret (L 1) [])) (Tr.ok (zR.ret (L 0) []))))):=kw
def F71:ag:=aU [zk,zk] [zk] λx=>(ui x.1 x.2.1,())
theorem zrl:FK 114 F71:=by
 refine aq zu6 λx C h=>?_
 refine bw jT zu6 (λid _=>h id) (zxS x.1 x.2.1) ?_;simp only[Q8,ui];repeat' split
 all_goals rfl
def lq(h x:zy):zy:=if(h !=h)=O then if(x !=x)=O then 0 else -1 else if(x !=x)=O then 1 else if T (h<x)=O then -1 else if T (h>x)=O then 1 else 0
theorem zu7:zY nh.P 115 Tryz.f115 2:=cK kw
theorem zxT(h x:zy):rn nh 0 (λ_=>{ }) Tryz.f115 [zW zk h,zW zk x] []=br (h !=h) (br (x !=x) (Tr.ok (zR.ret (L 0) [])) (Tr.ok (zR.ret (L (-1)) []))) (br (x !=x) (Tr.ok (zR.ret (L 1) [])) (br (T (h<x)) (Tr.ok (zR.ret (L (-1)) [])) (br (T (h>x)) (Tr.ok (zR.ret (L 1) [])) (Tr.ok (zR.ret (L 0) []))))):=kw
def F72:ag:=aU [zk,zk] [zk] λx=>(lq x.1 x.2.1,())
theorem zrm:FK 115 F72:=by
 refine aq zu7 λx C h=>?_
 refine bw jT zu7 (λid _=>h id) (zxT x.1 x.2.1) ?_;simp only[Q8,lq];repeat' split
 all_goals rfl
def pE(h x:J Q6):zy:=if(!h==h)=O then if(!x==x)=O then 0 else -1 else if(!x==x)=O then 1 else if Op.bytesLess h x=O then -1 else if(!(Op.bytesLess h x||h==x))=O then 1 else 0
theorem zu8:zY nh.P 116 Tryz.f116 2:=cK kw
theorem zxU(h x:J Q6):rn nh 0 (λ_=>{ }) Tryz.f116 [zW Q6 h,zW Q6 x] []=br (!h==h) (br (!x==x) (Tr.ok (zR.ret (L 0) [])) (Tr.ok (zR.ret (L (-1)) []))) (br (!x==x) (Tr.ok (zR.ret (L 1) [])) (br (Op.bytesLess h x) (Tr.ok (zR.ret (L (-1)) [])) (br (!(Op.bytesLess h x||h==x)) (Tr.ok (zR.ret (L 1) [])) (Tr.ok (zR.ret (L 0) []))))):=kw
def F73:ag:=aU [Q6,Q6] [zk] λx=>(pE x.1 x.2.1,())
theorem zrn:FK 116 F73:=by
 refine aq zu8 λx C h=>?_
 refine bw jT zu8 (λid _=>h id) (zxU x.1 x.2.1) ?_;simp only[Q8,pE];repeat' split
 all_goals rfl
def ls:=nh.addL [(112,F61),(273,F56),(275,F59),(114,F71),(115,F72),(116,F73)]
theorem fX:zw ls:=jT.addL<|fc zrd<|fc zq7<|fc zra<|fc zrl<|fc zrm<|fc zrn jg
variable {k:FuncId}{n:Nat}{keep:Nat->aX}{x:Tr zR}
theorem Gc{f:Func}{n0:Nat}(b:zw E)(c:zY E.P k f n)(a:∀id,n0<=id->C.ρ0 id=Q2){m:Nat}
     {l:zR} (e:run E n0 keep f.results.toList m t s=x) (h:x.val=M l) (d:kT E C k Q l):Reach E C k t s Q:=
 ep b c a keep m (by rw[e];exact Tr.sat_of_val h d)
def iz{α:Type}(Φ:α->Prop):Option α->Prop
 |some a=>Φ a
 |none=>False
theorem zI{f:Func}{n0:Nat}(c:zw E)(d:zY E.P k f n)(b:∀id,n0<=id->C.ρ0 id=Q2){m:Nat}
     (e:run E n0 keep f.results.toList m t s=x) (h:iz (kT E C k Q) x.val):Reach E C k t s Q:=by
 cases a:x.val with
 |none=>rw[a]at h;exact h.elim
 |some l=>rw[a]at h;exact Gc c d b e a h
def NQ{α β R:Type}(f:β->Nat->α->β⊕R)(h:β->R):List α->Nat->β->R
 |[],_,b=>h b
 | x::r,i,b=>match f b i x with
  |.inl a=>NQ f h r (i+1) a
  |.inr y=>y
def zdo{E:cu}{C:eW}{k:FuncId}{K:List Item}{β R:Type}(s:β->Nat->St)(Q:R->AV->List AO->Prop)(b:β)(i:Nat):β⊕R->Prop
 |.inl h=>∀q,Reach E C k K (s h (i+1)) q->Reach E C k K (s b i) q
 |.inr y=>Reach E C k K (s b i) (Q y)
theorem Gd{E:cu}{C:eW}{k:FuncId}{K:List Item}{α β R:Type}(l:List α)(s:β->Nat->St)(f:β->Nat->α->β⊕R)(c:β->R)(Q:R->AV->List AO->Prop)(h:β->Nat->Prop)
  (x:∀b i(o:i<X l),h b i->zdo (E:=E) (C:=C) (k:=k) (K:=K) s Q b i (f b i l[i])/\∀d,f b i l[i]=.inl d->h d (i+1))
  (a:∀b,h b (X l)->Reach E C k K (s b (X l)) (Q (c b))):∀(m i:Nat)(b:β),X l-i=m->i<=X l->h b i->Reach E C k K (s b i) (Q (NQ f c (l.drop i) i b))
 | 0,i,b,q,o,j=>by
  have:i=X l:=by omega
  subst this;rw[kD];exact a b j
 | m+1,i,b,q,o,j=>by
  have e:i<X l:=by omega
  rw[il e];have⟨g,p⟩:=x b i e j;simp only[NQ];cases n:f b i l[i]with
  | inl d=>
   rw[n]at g;exact g _ (Gd l s f c Q h x a m (i+1) d W W (p d n))
  | inr y=>
   rw[n]at g;exact g
theorem zN{i:Nat}(h:i<n):T ((i:Int)<(n:Int))=O:=by simpa using h
theorem zK(n:Nat):T ((n:Int)<(n:Int))=S:=by simp
theorem zx{i:Nat}(h:i<n):zL (i:Int) n=O:=by simp[zL,h]
def Je:List Int->Int
 |[]=>0
 |x::r=>if x !=0 then x else Je r
abbrev zt5:Nat->aX:=λj=>if j=3 then{slots:=[3,6,7,8]}else{ }
abbrev Uv(i:Int)(l:ee)(h x:Int):St:={tmps:=(tm 18 [(3,L i),(6,N (Sh.int IntKind.i64) l),(7,L h),(8,L x)]),heap:=[]}
theorem zaq:zY ls.P 113 Tryz.f113 1:=cK kw
theorem zxR(k:ee):rn ls 0 zt5 Tryz.f113 [N zk k] []=Tr.ok (zR.head 3 (am Tryz.f113 3) (Uv 0 k (↑k.length) 0)):=kw
theorem RC(h:Int)(l:ee)(x i:Int):rh ls 0 zt5 Tryz.f113 3 (Uv h l x i)=br (T (i<x)) (chk (zL i (X l)) (br (l.getD i.toNat (zi (Sh.int IntKind.i64))!=h) (Tr.ok (zR.ret (L (l.getD i.toNat (zi (Sh.int IntKind.i64)))) [])) (Tr.ok (zR.head 3 (am Tryz.f113 3) (Uv h l x (Γ Δ (i+1))))))) (Tr.ok (zR.ret (L h) [])):=kw
def f70:Unit->Nat->Int->Unit⊕Int:=λ_ _ x=>if x !=0 then .inr x else .inl ()
theorem Y6:∀(l:List Int)(i:Nat),NQ f70 (λ_=>0) l i ()=Je l
 |[],_=>rfl
 | x::r,i=>by
  simp only[NQ,f70,Je];split
  next h=>split at h<;>simp_all[Y6 r (i+1)]
  next h=>split at h<;>simp_all
def F70:ag:=aU [.sl zk] [zk] λx=>(Je x.1,())
theorem zrk:FK 113 F70:=by
 refine aq zaq λx C c=>?_
 have⟨l,u⟩:=x;refine Reach.len 0 zk l rfl λe=>?_
 refine Gc fX zaq (λid _=>c id) (zxR l) rfl ?_
 have:=Gd (E:=ls) (C:=C) (k:=113) (K:=am Tryz.f113 3) l (λ(_:Unit) i=>Uv 0 l (X l) i) f70 (λ_=>(0:Int)) (λy r h=>aZ h [zk] r=M (y,())) (λ_ _=>True)
  (λb i a _=>⟨by
   unfold f70;split
   next h=>refine zI fX zaq (λid _=>c id) (RC _ _ _ _) ?_;simp only[Q8,zN a,zx a,dq l _ a,h,zj];rfl
   next h=>intro q d;refine zI fX zaq (λid _=>c id) (RC _ _ _ _) ?_;simp only[Q8,zN a,zx a,dq l _ a,h,zj,zu i W];exact d,λ_ _=>trivial⟩)
  (λb _=>by
   refine zI fX zaq (λid _=>c id) (RC _ _ _ _) ?_;simp only[Q8,zK];rfl) _ 0 () rfl W trivial
 rw[Y6]at this;exact this
def fN(x h:zq):J Q7:=bif (aj x).1!=0 then(aj x).1==(aj h).1 else S
theorem zu1:zY ls.P 222 Tryz.f222 2:=cK kw
theorem zxL(x h:zq):rn ls 0 (λ_=>{ }) Tryz.f222 [zW R x,zW R h] []=Tr.ok (zR.ret (AV.bool (cond ((aj x).1!=0) ((aj x).1==(aj h).1) S)) []):=kw
def F58:ag:=aU [R,R] [Q7] λx=>(fN x.1 x.2.1,())
theorem zq9:FK 222 F58:=by
 refine aq zu1 λx C h=>?_
 refine bw fX zu1 (λid _=>h id) (zxL x.1 x.2.1) ?_;simp only[Q8,fN];repeat' split
 all_goals rfl
def Hz(x h:zq):zq:=if(cond (eT x==1) O (eT h==1))=O then bu 1 else if(cond (eT x==2) (eT h==2) S)=O then bu 2 else bu 0
theorem zuK:zY ls.P 229 Tryz.f229 2:=cK kw
theorem zxt(x h:zq):rn ls 0 (λ_=>{ }) Tryz.f229 [zW R x,zW R h] []=br (cond (eT x==1) O (eT h==1)) (Tr.ok (zR.ret (Qd [L (bu 1).1,L (bu 1).2.1,I (bu 1).2.2]) [])) (br (cond (eT x==2) (eT h==2) S) (Tr.ok (zR.ret (Qd [L (bu 2).1,L (bu 2).2.1,I (bu 2).2.2]) [])) (Tr.ok (zR.ret (Qd [L (bu 0).1,L (bu 0).2.1,I (bu 0).2.2]) []))):=kw
def F38:ag:=aU [R,R] [R] λx=>(Hz x.1 x.2.1,())
theorem zqP:FK 229 F38:=by
 refine aq zuK λx C h=>?_
 refine bw fX zuK (λid _=>h id) (zxt x.1 x.2.1) ?_;simp only[Q8,Hz];repeat' split
 all_goals rfl
def vOr(x h:zq):zq:=if(cond (eT x==2) O (eT h==2))=O then bu 2 else if(cond (eT x==1) (eT h==1) S)=O then bu 1 else bu 0
theorem zuL:zY ls.P 230 Tryz.f230 2:=cK kw
theorem zxu(x h:zq):rn ls 0 (λ_=>{ }) Tryz.f230 [zW R x,zW R h] []=br (cond (eT x==2) O (eT h==2)) (Tr.ok (zR.ret (Qd [L (bu 2).1,L (bu 2).2.1,I (bu 2).2.2]) [])) (br (cond (eT x==1) (eT h==1) S) (Tr.ok (zR.ret (Qd [L (bu 1).1,L (bu 1).2.1,I (bu 1).2.2]) [])) (Tr.ok (zR.ret (Qd [L (bu 0).1,L (bu 0).2.1,I (bu 0).2.2]) []))):=kw
def F39:ag:=aU [R,R] [R] λx=>(vOr x.1 x.2.1,())
theorem zqQ:FK 230 F39:=by
 refine aq zuL λx C h=>?_
 refine bw fX zuL (λid _=>h id) (zxu x.1 x.2.1) ?_;simp only[Q8,vOr];repeat' split
 all_goals rfl
def Cp(x:zq):zq:=if(eT x==2)=O then bu 1 else if(eT x==1)=O then bu 2 else bu 0
theorem zuN:zY ls.P 232 Tryz.f232 1:=cK kw
theorem zxw(x:zq):rn ls 0 (λ_=>{ }) Tryz.f232 [zW R x] []=br (eT x==2) (Tr.ok (zR.ret (Qd [L (bu 1).1,L (bu 1).2.1,I (bu 1).2.2]) [])) (br (eT x==1) (Tr.ok (zR.ret (Qd [L (bu 2).1,L (bu 2).2.1,I (bu 2).2.2]) [])) (Tr.ok (zR.ret (Qd [L (bu 0).1,L (bu 0).2.1,I (bu 0).2.2]) []))):=kw
def F41:ag:=aU [R] [R] λx=>(Cp x.1,())
theorem zqS:FK 232 F41:=by
 refine aq zuN λx C h=>?_
 refine bw fX zuN (λid _=>h id) (zxw x.1) ?_;simp only[Q8,Cp];repeat' split
 all_goals rfl
def ky(x:zq):zq:=eh ((aj x).1==0)
theorem zuT:zY ls.P 237 Tryz.f237 1:=cK kw
theorem zxC(x:zq):rn ls 0 (λ_=>{ }) Tryz.f237 [zW R x] []=Tr.ok (zR.ret (Qd [L (eh ((aj x).1==0)).1,L (eh ((aj x).1==0)).2.1,I (eh ((aj x).1==0)).2.2]) []):=kw
def F47:ag:=aU [R] [R] λx=>(ky x.1,())
theorem zqY:FK 237 F47:=by
 refine aq zuT λx C h=>?_
 refine bw fX zuT (λid _=>h id) (zxC x.1) ?_;simp only[Q8,ky];repeat' split
 all_goals rfl
def ni:=ls.addL [(113,F70),(222,F58),(229,F38),(230,F39),(232,F41),(237,F47)]
theorem jU:zw ni:=fX.addL<|fc zrk<|fc zq9<|fc zqP<|fc zqQ<|fc zqS<|fc zqY jg
def aF(x h:zq):zy:=Je [ui (aj x).1 (aj h).1,lq (aj x).2.1 (aj h).2.1,pE (aj x).2.2 (aj h).2.2]
theorem zu3:zY ni.P 50 Tryz.f50 2:=cK kw
theorem zxN(x h:zq):rn ni 0 (λ_=>{ }) Tryz.f50 [zW R x,zW R h] []=Tr.ok (zR.ret (AV.int IntKind.i64 (Je [ui (aj x).1 (aj h).1,lq (aj x).2.1 (aj h).2.1,pE (aj x).2.2 (aj h).2.2])) []):=kw
def F60:ag:=aU [R,R] [zk] λx=>(aF x.1 x.2.1,())
theorem zrc:FK 50 F60:=by
 refine aq zu3 λx C h=>?_
 refine bw jU zu3 (λid _=>h id) (zxN x.1 x.2.1) ?_;simp only[Q8,aF];repeat' split
 all_goals rfl
def og(x h:zq):zq:=if(!fN x h)=O then(0,0,[])else eh (x.1==h.1&&(x.2.1==h.2.1&&(x.2.2==h.2.2&&O)))
theorem zuO:zY ni.P 233 Tryz.f233 2:=cK kw
theorem zxx(x h:zq):rn ni 0 (λ_=>{ }) Tryz.f233 [zW R x,zW R h] []=br (!fN x h) (Tr.ok (zR.ret (Qd [L 0,L 0,I []]) [])) (Tr.ok (zR.ret (Qd [L (eh (x.1==h.1&&(x.2.1==h.2.1&&(x.2.2==h.2.2&&O)))).1,L (eh (x.1==h.1&&(x.2.1==h.2.1&&(x.2.2==h.2.2&&O)))).2.1,I (eh (x.1==h.1&&(x.2.1==h.2.1&&(x.2.2==h.2.2&&O)))).2.2]) [])):=kw
def F42:ag:=aU [R,R] [R] λx=>(og x.1 x.2.1,())
theorem zqT:FK 233 F42:=by
 refine aq zuO λx C h=>?_
 refine bw jU zuO (λid _=>h id) (zxx x.1 x.2.1) ?_;simp only[Q8,og];repeat' split
 all_goals rfl
def qO(x h:zq):zq:=if(cond (!fN x h) O (x.1!=1))=O then(0,0,[])else if(cond (T (h.2.1>0)) (cond (T (Γ Δ (x.2.1+h.2.1)<x.2.1)) O (cond (T (h.2.1<0)) (T (Γ Δ (x.2.1+h.2.1)>x.2.1)) S)) (cond (T (h.2.1<0)) (T (Γ Δ (x.2.1+h.2.1)>x.2.1)) S))=O then(0,0,[])else(1,Γ Δ (x.2.1+h.2.1),[])
theorem zuQ:zY ni.P 155 Tryz.f155 2:=cK kw
theorem zxz(x h:zq):rn ni 0 (λ_=>{ }) Tryz.f155 [zW R x,zW R h] []=br (cond (!fN x h) O (x.1!=1)) (Tr.ok (zR.ret (Qd [L 0,L 0,I []]) [])) (br (cond (T (h.2.1>0)) (cond (T (Γ Δ (x.2.1+h.2.1)<x.2.1)) O (cond (T (h.2.1<0)) (T (Γ Δ (x.2.1+h.2.1)>x.2.1)) S)) (cond (T (h.2.1<0)) (T (Γ Δ (x.2.1+h.2.1)>x.2.1)) S)) (Tr.ok (zR.ret (Qd [L 0,L 0,I []]) [])) (Tr.ok (zR.ret (Qd [L 1,L (Γ Δ (x.2.1+h.2.1)),I []]) []))):=kw
def F44:ag:=aU [R,R] [R] λx=>(qO x.1 x.2.1,())
theorem zqV:FK 155 F44:=by
 refine aq zuQ λx C h=>?_
 refine bw jU zuQ (λid _=>h id) (zxz x.1 x.2.1) ?_;simp only[Q8,qO];repeat' split
 all_goals rfl
def oh(x h:zq):zq:=if(cond (!fN x h) O (x.1!=1))=O then(0,0,[])else if(cond (T (h.2.1>0)) (cond (T (Γ Δ (x.2.1-h.2.1)>x.2.1)) O (cond (T (h.2.1<0)) (T (Γ Δ (x.2.1-h.2.1)<x.2.1)) S)) (cond (T (h.2.1<0)) (T (Γ Δ (x.2.1-h.2.1)<x.2.1)) S))=O then(0,0,[])else(1,Γ Δ (x.2.1-h.2.1),[])
theorem zuR:zY ni.P 235 Tryz.f235 2:=cK kw
theorem zxA(x h:zq):rn ni 0 (λ_=>{ }) Tryz.f235 [zW R x,zW R h] []=br (cond (!fN x h) O (x.1!=1)) (Tr.ok (zR.ret (Qd [L 0,L 0,I []]) [])) (br (cond (T (h.2.1>0)) (cond (T (Γ Δ (x.2.1-h.2.1)>x.2.1)) O (cond (T (h.2.1<0)) (T (Γ Δ (x.2.1-h.2.1)<x.2.1)) S)) (cond (T (h.2.1<0)) (T (Γ Δ (x.2.1-h.2.1)<x.2.1)) S)) (Tr.ok (zR.ret (Qd [L 0,L 0,I []]) [])) (Tr.ok (zR.ret (Qd [L 1,L (Γ Δ (x.2.1-h.2.1)),I []]) []))):=kw
def F45:ag:=aU [R,R] [R] λx=>(oh x.1 x.2.1,())
theorem zqW:FK 235 F45:=by
 refine aq zuR λx C h=>?_
 refine bw jU zuR (λid _=>h id) (zxA x.1 x.2.1) ?_;simp only[Q8,oh];repeat' split
 all_goals rfl
def UH(x _:zq):zq:=Cp x
theorem zuM:zY ni.P 231 Tryz.f231 2:=cK kw
theorem zxv(x h:zq):rn ni 0 (λ_=>{ }) Tryz.f231 [zW R x,zW R h] []=Tr.ok (zR.ret (Qd [L (Cp x).1,L (Cp x).2.1,I (Cp x).2.2]) []):=kw
def F40:ag:=aU [R,R] [R] λx=>(UH x.1 x.2.1,())
theorem zqR:FK 231 F40:=by
 refine aq zuM λx C h=>?_
 refine bw jU zuM (λid _=>h id) (zxv x.1 x.2.1) ?_;simp only[Q8,UH];repeat' split
 all_goals rfl
def Mw(x _:zq):zq:=ky x
theorem zuS:zY ni.P 236 Tryz.f236 2:=cK kw
theorem zxB(x h:zq):rn ni 0 (λ_=>{ }) Tryz.f236 [zW R x,zW R h] []=Tr.ok (zR.ret (Qd [L (ky x).1,L (ky x).2.1,I (ky x).2.2]) []):=kw
def F46:ag:=aU [R,R] [R] λx=>(Mw x.1 x.2.1,())
theorem zqX:FK 236 F46:=by
 refine aq zuS λx C h=>?_
 refine bw jU zuS (λid _=>h id) (zxB x.1 x.2.1) ?_;simp only[Q8,Mw];repeat' split
 all_goals rfl
def uD:=ni.addL [(50,F60),(233,F42),(155,F44),(235,F45),(231,F40),(236,F46)]
theorem lN:zw uD:=jU.addL<|fc zrc<|fc zqT<|fc zqV<|fc zqW<|fc zqR<|fc zqX jg
open Go Go.Proofs Go.Sort
set_option maxHeartbeats 4000000
theorem zut(a:World)(x:Nat):Calls Tryz.prog 98 #[.int .i32 (x:Int)] a λe w=>e=.returned (.bool (Fr x))/\w=a:=
 (Tryz.odd63 x a).mono λe w h=>⟨by rw[h.1];unfold Fr;cases T ((x:Int)<32)<;>rfl,h.2⟩
theorem zur(k n:Int)(s:zJ)(a:World):Calls Tryz.prog 39 #[.agg #[.int .i64 k,.int .i64 n,.string ⟨s.toArray⟩]] a λe w=>e=.returned (.bool (be (k,n,s)))/\RowKit.Below a.heap.size a w/\a.drawn<=w.drawn:=by
 have h:=λd=>Tryz.indexFunc64 (λr=>Fr r) ⟨s.toArray⟩ d zut
 have j:Lib.idxFunc (λr=>Fr r) O ⟨s.toArray⟩=rQ s:=rfl;rw[j]at h;have c:be (k,n,s)=be (k,n,s):=rfl;generalize b:be (k,n,s)=R at c|-;clear c;unfold be at b;generalize rQ s=x at h b
 go_enter Tryz.func39,Tryz.ntmps39
 go_wp2_with (go_at_call 99;refine(h _).mono ?_;rintro e w ⟨rfl,g,i⟩)
 all_goals
  go_ret
  refine⟨?_,?_,?_⟩
  .rw[<-b];congr 2;simp_all<;>(rw[<-b];first|(rw[aB W];rfl)|(rw[beq_false_of_ne ‹¬n=0›];first|rfl|(rw[beq_false_of_ne ‹¬n=1›];rfl)))
  .first
   |exact(RowKit.Below.refl _ _).alloc (zM _) _
   |exact((RowKit.Below.refl _ a).alloc (zM _) _).trans (g.mono sw)
  .first
   |exact zM _
   |exact i
theorem WW(d w:World)(a b c x y z:Value)(h:RowKit.Below ((d.alloc (.cells #[a,b,c] 30)).alloc (.cells #[x,y,z] 30)).heap.size ((d.alloc (.cells #[a,b,c] 30)).alloc (.cells #[x,y,z] 30)) w):
  w.cell? ⟨d.heap.size,0,Q2⟩=M a/\w.cell? ⟨d.heap.size,1,Q2⟩=M b/\w.cell? ⟨d.heap.size,2,Q2⟩=M c/\
  w.cell? ⟨d.heap.size+1,0,Q2⟩=M x/\w.cell? ⟨d.heap.size+1,1,Q2⟩=M y/\w.cell? ⟨d.heap.size+1,2,Q2⟩=M z/\
  w.frozen? ⟨d.heap.size+1,0,Q2⟩=S/\w.frozen? ⟨d.heap.size+1,1,Q2⟩=S/\w.frozen? ⟨d.heap.size+1,2,Q2⟩=S/\w.heap[d.heap.size+1]?=M (.cells #[x,y,z] 30 (0,0)):=by
 have e:=h.block d.heap.size sg;have g:=h.block (d.heap.size+1) sw;have e0:((d.alloc (.cells #[a,b,c] 30)).alloc (.cells #[x,y,z] 30)).heap[d.heap.size]?=M (.cells #[a,b,c] 30 (0,0)):=(bR _ _ _ sw).trans (cQ _ _);have i:((d.alloc (.cells #[a,b,c] 30)).alloc (.cells #[x,y,z] 30)).heap[d.heap.size+1]?=M (.cells #[x,y,z] 30 (0,0)):=by
  have:=cQ (d.alloc (.cells #[a,b,c] 30)) (.cells #[x,y,z] 30)
  rwa [bD]at this
 rw[e0]at e;rw[i]at g;simp[World.cell?,World.frozen?,e,g]
theorem Od(k n:Int)(s:zJ)(x:World):Calls Tryz.prog 112 #[.agg #[.int .i64 k,.int .i64 n,.string ⟨s.toArray⟩]] x λe w=>e=.returned (.agg #[.int .i64 (aj (k,n,s)).1,.int .i64 (aj (k,n,s)).2.1,.string ⟨(aj (k,n,s)).q.toArray⟩])/\RowKit.Below x.heap.size x w/\x.drawn<=w.drawn:=by
 have h:=λb=>zur k n s b
 unfold aj;generalize be (k,n,s)=R at h|-
 go_enter Tryz.func112,Tryz.ntmps112
 go_wp2_with (go_at_call 39;refine(h _).mono ?_;rintro e w ⟨rfl,a,d⟩;have⟨j,l,m,o,t,u,v,y,z,c⟩:=WW x w (.int .i64 k) (.int .i64 n) (.string ⟨s.toArray⟩) (.int .i64 0) (.int .i64 0) (.string ⟨#[]⟩) a)
 all_goals
  have g:RowKit.Below x.heap.size x w:=(((RowKit.Below.refl _ x).alloc (zM _) _).alloc sw _).trans (a.mono sg);have i:x.drawn<=w.drawn:=d;refine bodyPost_ret (results_cell_row rfl _ _ (x.heap.size+1) 30 _ (0,0) _ rfl (by simp[World.setCell,uz,c];rfl) Tryz.underlying30 rfl kw) rfl ⟨?_,?_,?_⟩
  .rfl
  .exact((g.setCell (p:=⟨x.heap.size+1,0,Q2⟩) sw _).setCell (p:=⟨x.heap.size+1,1,Q2⟩) sw _).setCell (p:=⟨x.heap.size+1,2,Q2⟩) sw _
  .exact i
set_option maxRecDepth 100000
theorem Z7(x:Int)(h:World):Calls Tryz.prog 182 #[.int .i64 x] h λe w=>e=.returned (.bool S)/\w=h:=by
 go_enter Tryz.func182,Tryz.ntmps182
 go_wp2
 go_ret
 exact⟨sw,rfl⟩
theorem Z8(x:Int)(h:World):Calls Tryz.prog 183 #[.int .i64 x] h λe w=>e=.returned (.bool S)/\w=h:=by
 go_enter Tryz.func183,Tryz.ntmps183
 go_wp2
 go_ret
 exact⟨sw,rfl⟩
theorem Z9(x:ByteArray)(h:World):Calls Tryz.prog 184 #[.string x] h λe w=>e=.returned (.bool S)/\w=h:=by
 go_enter Tryz.func184,Tryz.ntmps184
 go_wp2
 go_ret
 exact⟨sw,rfl⟩
theorem X1(x y:Int):ui x y=(ite (x<y) (-1) (ite (y<x) 1 0):Int):=by unfold ui;simp
theorem Vp(x y:Int):lq x y=(ite (x<y) (-1) (ite (y<x) 1 0):Int):=by unfold lq;simp
theorem zlY(x y:Int)(h:World):Calls Tryz.prog 114 #[.int .i64 x,.int .i64 y] h λe w=>e=.returned (.int .i64 (ui x y))/\w=h:=by
 have b:=λa=>Z7 x a
 have c:=λa=>Z7 y a
 rw[X1]
 go_enter Tryz.func114,Tryz.ntmps114
 go_wp2_with (first|(go_at_call 182;refine(b _).mono ?_;rintro e w ⟨rfl,rfl⟩)|(go_at_call 182;refine(c _).mono ?_;rintro e w ⟨rfl,rfl⟩))
 all_goals
  go_ret
  refine⟨?_,rfl⟩;congr 2
theorem zlZ(x y:Int)(h:World):Calls Tryz.prog 115 #[.int .i64 x,.int .i64 y] h λe w=>e=.returned (.int .i64 (lq x y))/\w=h:=by
 have b:=λa=>Z8 x a
 have c:=λa=>Z8 y a
 rw[Vp]
 go_enter Tryz.func115,Tryz.ntmps115
 go_wp2_with (first|(go_at_call 183;refine(b _).mono ?_;rintro e w ⟨rfl,rfl⟩)|(go_at_call 183;refine(c _).mono ?_;rintro e w ⟨rfl,rfl⟩))
 all_goals
  go_ret
  refine⟨?_,rfl⟩;congr 2
theorem zl0(x y:zJ)(h:World):Calls Tryz.prog 116 #[.string ⟨x.toArray⟩,.string ⟨y.toArray⟩] h λe w=>e=.returned (.int .i64 (pE x y))/\w=h:=by
 have c:=λa=>Z9 ⟨x.toArray⟩ a
 have d:=λa=>Z9 ⟨y.toArray⟩ a
 have g:∀a,(binOp .gtr 9 (.string ⟨x.toArray⟩) (.string ⟨y.toArray⟩)).run Tryz.prog a=.ok (.bool (!(Op.bytesLess x y||x==y))) a:=λa=>by simp[binOp,Op.stringOp]
 have b:pE x y=(ite (Op.bytesLess x y=O) (-1) (ite ((!(Op.bytesLess x y||x==y))=O) 1 0):Int):=by unfold pE;simp
 rw[b];clear b
 go_enter Tryz.func116,Tryz.ntmps116
 go_wp2_with (first|(go_at_call 184;refine(c _).mono ?_;rintro e w ⟨rfl,rfl⟩)|(go_at_call 184;refine(d _).mono ?_;rintro e w ⟨rfl,rfl⟩))
 all_goals
  go_ret
  refine⟨?_,rfl⟩;simp_all
theorem zvr(x y z:Int)(b:Nat)(h:World)(i:h.cell? ⟨b,0,Q2⟩=M (.int .i64 x))(j:h.cell? ⟨b,1,Q2⟩=M (.int .i64 y))(k:h.cell? ⟨b,2,Q2⟩=M (.int .i64 z)):
  Calls Tryz.prog 113 #[.slice (M ⟨b,0,Q2⟩) 3 3] h λe w=>e=.returned (.int .i64 (Je [x,y,z]))/\w=h:=by
 have g:Je [x,y,z]=if x=0 then(ite (y=0) z y)else x:=by
  unfold Je;unfold Je;unfold Je;unfold Je;by_cases a:x=0<;>by_cases c:y=0<;>by_cases d:z=0<;>simp[a,c,d]
 rw[g];clear g
 go_enter Tryz.func113,Tryz.ntmps113
 go_wp2
 by_cases a:x=0
 .subst a;by_cases c:y=0
  .subst c;by_cases d:z=0
   .subst d;refine wp_loop_rounds 4 ?_
    (rw[rounds_succ];go_wp2)
    (rw[rounds_succ];go_wp2)
    (rw[rounds_succ];go_wp2)
    (rw[rounds_succ];go_wp2)
    go_ret
    exact⟨by simp[*],rfl⟩
   .refine wp_loop_rounds 4 ?_
    (rw[rounds_succ];go_wp2)
    (rw[rounds_succ];go_wp2)
    (rw[rounds_succ];go_wp2)
    go_ret
    exact⟨by simp[*],rfl⟩
  .refine wp_loop_rounds 4 ?_
   (rw[rounds_succ];go_wp2)
   (rw[rounds_succ];go_wp2)
   go_ret
   exact⟨by simp[*],rfl⟩
 .refine wp_loop_rounds 4 ?_
  (rw[rounds_succ];go_wp2)
  go_ret
  exact⟨by simp[*],rfl⟩
structure zwf (p:Prop):Prop where
 out:p
variable {i:Value}
theorem Oc{A:World}{p q:Nat}{a x y z:Value}(e0:A.heap[p]?=M (.cells #[v,a,i] 30 (0,0)))(e:A.heap[q]?=M (.cells #[x,y,z] 30 (0,0)))(h:RowKit.Below A.heap.size A b):
  b.heap[p]?=M (.cells #[v,a,i] 30 (0,0))/\b.heap[q]?=M (.cells #[x,y,z] 30 (0,0)):=
 ⟨(h.block p (mU.1 e0).1).trans e0,(h.block q (mU.1 e).1).trans e⟩
theorem rr{p:Nat}{g:Value}(e0:w.heap[p]?=M (.cells #[v,g,i] 30 (0,0))):
  w.cell? ⟨p,0,Q2⟩=M v/\w.cell? ⟨p,1,Q2⟩=M g/\w.cell? ⟨p,2,Q2⟩=M i/\w.frozen? ⟨p,0,Q2⟩=S/\w.frozen? ⟨p,1,Q2⟩=S/\w.frozen? ⟨p,2,Q2⟩=S:=by simp[World.cell?,World.frozen?,e0]
theorem zfi(k n:Int)(s:zJ)(j l:Int)(m:zJ)(h:World):Calls Tryz.prog 50 #[.agg #[.int .i64 k,.int .i64 n,.string ⟨s.toArray⟩],.agg #[.int .i64 j,.int .i64 l,.string ⟨m.toArray⟩]] h λe w'=>e=.returned (.int .i64 (aF (k,n,s) (j,l,m)))/\RowKit.Below h.heap.size h w'/\h.drawn<=w'.drawn:=by
 have F:=λg=>Od k n s g
 have i:=λg=>Od j l m g
 have w:Tryz.prog.follows .mixedOrders=O:=by kernel_rfl
 unfold aF;generalize aj (k,n,s)=a at F|-;generalize aj (j,l,m)=b at i|-;have⟨y,z,B⟩:=a;have⟨C,D,E⟩:=b
 dsimp only at F i|-
 have k1:=λg=>zlY y C g
 have k2:=λg=>zlZ z D g
 have k3:=λg=>zl0 B E g
 generalize ui y C=m1 at k1|-;generalize lq z D=m2 at k2|-;generalize pE B E=m3 at k3|-
 go_enter Tryz.func50,Tryz.ntmps50
 go_wp2
 obtain⟨o,x⟩:∃o,(h.alloc (.cells #[.int .i64 k,.int .i64 n,.string ⟨s.toArray⟩] 30)).alloc (.cells #[.int .i64 j,.int .i64 l,.string ⟨m.toArray⟩] 30)=o:=⟨_,rfl⟩;have e0:o.heap[h.heap.size]?=M (.cells #[.int .i64 k,.int .i64 n,.string ⟨s.toArray⟩] 30 (0,0)):=by rw[<-x];exact(bR _ _ _ sw).trans (cQ _ _)
 have e1:o.heap[h.heap.size+1]?=M (.cells #[.int .i64 j,.int .i64 l,.string ⟨m.toArray⟩] 30 (0,0)):=by
  rw[<-x];have:=cQ (h.alloc (.cells #[.int .i64 k,.int .i64 n,.string ⟨s.toArray⟩] 30)) (.cells #[.int .i64 j,.int .i64 l,.string ⟨m.toArray⟩] 30)
  rwa [bD]at this
 have t:RowKit.Below h.heap.size h o:=by rw[<-x];exact((RowKit.Below.refl _ h).alloc (zM _) _).alloc sw _
 have h5:h.drawn<=o.drawn:=by rw[<-x];exact zM _
 rw[x];clear x;have⟨c0,c1,c2,c3,c4,c5⟩:=rr e0;have⟨d0,d1,d2,d3,d4,d5⟩:=rr e1;rename_i K hK
 have d:∀c:World,c.heap[h.heap.size]?=M (.cells #[.int .i64 y,.int .i64 z,.string ⟨B.toArray⟩] 30 (0,0))->c.heap[h.heap.size+1]?=M (.cells #[.int .i64 C,.int .i64 D,.string ⟨E.toArray⟩] 30 (0,0))->RowKit.Below h.heap.size h c->h.drawn<=c.drawn->
   K {tmps:=#[.agg #[.int .i64 k,.int .i64 n,.string ⟨s.toArray⟩],.agg #[.int .i64 j,.int .i64 l,.string ⟨m.toArray⟩],.pointer (M ⟨h.heap.size,0,Q2⟩),.pointer (M ⟨h.heap.size+1,0,Q2⟩),.int .i64 0,.agg #[.int .i64 k,.int .i64 n,.string ⟨s.toArray⟩],.agg #[.int .i64 y,.int .i64 z,.string ⟨B.toArray⟩],.agg #[.int .i64 j,.int .i64 l,.string ⟨m.toArray⟩],.agg #[.int .i64 C,.int .i64 D,.string ⟨E.toArray⟩],undef,undef,undef,undef,undef,undef,undef,undef,undef,undef,undef,undef,undef,undef,undef,undef,undef],defers:=[]} c:=by
  intro c w0 G P hd3;apply hK;clear hK;have h8:h.heap.size+1<c.heap.size:=(mU.1 G).1;have⟨x0,x1,x2,x3,x4,x5⟩:=rr w0;have⟨y0,y1,y2,y3,y4,y5⟩:=rr G
  go_wp2
  go_still_tail 15,w
  still_call (k1 _)
  repeat still_step
  still_call (k2 _)
  repeat still_step
  still_call (k3 _)
  refine wpStill_nil ?_;change wpList _ _ _ _ _ c.drew;have v:h.drawn<=c.drew.drawn:=bc hd3 (Nat.le_succ _);have u:RowKit.Below h.heap.size h c.drew:=P.drew;generalize c.drew=W4 at v u|-
  go_wp2_with (go_at_call 113;refine(zvr m1 m2 m3 W4.heap.size _ sw sw sw).mono ?_;rintro e w' ⟨rfl,rfl⟩)
  go_ret
  exact⟨rfl,u.alloc u.size _,v⟩
 have h0:=zwf.mk d;clear hK d k1 k2 k3
 go_region_with (first
  |(go_at_call 112;refine(F _).mono ?_;clear F;rintro e G ⟨rfl,q,hd3⟩;have⟨f0,f1⟩:=Oc (A:=o.drew) e0 e1 q;have⟨p0,p1,p2,p3,p4,p5⟩:=rr f0;have⟨q0,q1,q2,q3,q4,q5⟩:=rr f1)
  |(go_at_call 112;refine(i _).mono ?_;clear i;rintro e w2 ⟨rfl,H,v⟩;have⟨g0,g1⟩:=Oc f0 f1 H;have⟨r0,r1,r2,r3,r4,r5⟩:=rr g0;have⟨s0,s1,s2,s3,s4,s5⟩:=rr g1))
 all_goals
  refine h0.out _ ?_ ?_ ?_ ?_
  .simp[World.setCell,uz,g0]
  .simp[World.setCell,uz,g1]
  .have h3:=q.size;have h6:=H.size;have U:RowKit.Below h.heap.size h w2:=(t.trans ((RowKit.Below.mono ⟨q.os,q.tape,q.output,q.size,q.block⟩ t.size))).trans (H.mono (bc t.size h3));exact(((((U.setCell (p:=⟨h.heap.size,0,Q2⟩) sw _).setCell (p:=⟨h.heap.size,1,Q2⟩) sw _).setCell (p:=⟨h.heap.size,2,Q2⟩) sw _).setCell (p:=⟨h.heap.size+1,0,Q2⟩) sw _).setCell (p:=⟨h.heap.size+1,1,Q2⟩) sw _).setCell (p:=⟨h.heap.size+1,2,Q2⟩) sw _
  .have h7:o.drawn+1<=G.drawn:=hd3;have h4:h.drawn<=w2.drawn:=by omega
   simpa[World.setCell]using h4
end
end Cad
namespace Go.Proofs
open Cad (HU aG bc fE gE ia mU oy qA ve zM)
open Go.RowKit Go.Shelf
open Bool renaming false->Q4,true->Q3
open Option renaming none->Q2,some->Q1
open Decidable renaming decide->Q0
open List (length)
attribute [local go_sem] Oper.semAt_some
abbrev R12:={l:List Value//l.length=12/\∀v∈l,v.oneCell'=Q3}
theorem run_store_one(v:Value)(h:v.oneCell'=Q3)(w:World)(a:Addr)(hc:(w.cell? a).isSome=Q3)(hf:w.frozen? a=Q4):Sem.run Tryz.prog (store a v) w=.ok () (w.setCell a v):=by obtain⟨u,hu⟩:=Option.isSome_iff_exists.1 hc;unfold store;cases v<;>first|(simp[Value.oneCell']at h;done)|simp[Sem.run,hu,hf]
set_option maxRecDepth 100000 in
set_option maxHeartbeats 2000000 in
theorem Tryz.values1_in(F:Fence)(n:Nat)(h7:F.fn 139)(hro:F.round=Q2)(hn:1<=n)(l Bs n₀ b off cap:Nat)(zs:List R12)(hreach:zs.length<=1000)(hb:b<n₀)(J Jx:List R12->World->Prop)(W:World)(hn₀:n₀<=W.heap.size)(hJ:AbidesFrom W.heap.size J)
  (hY:∀pre x W,J pre W->pre.length<zs.length->YieldAt F (n-1) Tryz.prog l #[.agg x.1.toArray] W λe W'=>
   (e=.returned (.bool Q3)/\J (pre++[x]) W'/\Below n₀ W W')\/(e=.returned (.bool Q4)/\Jx (pre++[x]) W'))
  (hBs:W.cell? ⟨Bs,0,Q2⟩=Q1 (.slice (Q1 ⟨b,off,Q2⟩) zs.length cap)) (hc:∀i(hi:i<zs.length),∀j v,zs[i].1[j]?=Q1 v->W.cell? ⟨b,off+i*12+j,Q2⟩=Q1 v) (h0:J [] W):
  CallsIn F n Tryz.prog 139 #[.func (.yield l) #[] #[],.pointer (Q1 ⟨Bs,0,Q2⟩)] W λe W'=>(∃v,e=.returned v)/\
   ((∃ys,ys=zs/\J ys W')\/(∃pre,(∃k,k<=zs.length/\pre=zs.take k)/\Jx pre W')):=by
 refine callsIn_of_wp Tryz.func139 rfl h7 ?_ hro;simp only[Tryz.ntmps139,List.size_toArray,fE,qA,Nat.reduceAdd,Nat.reduceSub,Array.replicate_succ,Array.replicate_zero,List.push_toArray,List.append_toArray,HU,List.cons_append]
 gi_wp2
 gi_loopw [7] (λi wr=>∃k:Nat,k<=zs.length/\i=.int .i64 k/\J (zs.take k) wr/\Below n₀ W wr)
  (λi _=>zs.length-(intOf i).toNat)
 case atStart=>exact⟨0,aG _,rfl,h0,Below.refl _ _⟩
 case round=>
  obtain⟨k,hk,rfl,hJs,hnx⟩:=hrel;by_cases hlt:k<zs.length
  .have hcx:∀j v,zs[k].1[j]?=Q1 v->wr.cell? ⟨b,off+k*12+j,Q2⟩=Q1 v:=λj v h=>(hnx.cell (p:=⟨b,off+k*12+j,Q2⟩) hb).trans (hc k hlt j v h)
   have hYx:=λW' h=>hY (zs.take k) zs[k] W' h (by rw[oy];omega)
   have htk:zs.take k++[zs[k]]=zs.take (k+1):=List.take_append_getElem hlt;rw[htk]at hYx;generalize hx:zs[k]=x at hYx hcx;obtain⟨xs,hxl,hx1⟩:=x
   match xs,hxl with
   |[v0,v1,v2,v3,v4,v5,v6,v7,v8,v9,v10,v11],_=>
   have c0:=hcx 0 v0 rfl;have c1:=hcx 1 v1 rfl;have c2:=hcx 2 v2 rfl;have c3:=hcx 3 v3 rfl;have c4:=hcx 4 v4 rfl;have c5:=hcx 5 v5 rfl;have c6:=hcx 6 v6 rfl;have c7:=hcx 7 v7 rfl;have c8:=hcx 8 v8 rfl;have c9:=hcx 9 v9 rfl;have c10:=hcx 10 v10 rfl;have c11:=hcx 11 v11 rfl;rw[ve]at c0;have d0:=run_store_one v0 (hx1 v0 (by simp));have d1:=run_store_one v1 (hx1 v1 (by simp));have d2:=run_store_one v2 (hx1 v2 (by simp));have d3:=run_store_one v3 (hx1 v3 (by simp));have d4:=run_store_one v4 (hx1 v4 (by simp));have d5:=run_store_one v5 (hx1 v5 (by simp));have d6:=run_store_one v6 (hx1 v6 (by simp));have d7:=run_store_one v7 (hx1 v7 (by simp));have d8:=run_store_one v8 (hx1 v8 (by simp));have d9:=run_store_one v9 (hx1 v9 (by simp));have d10:=run_store_one v10 (hx1 v10 (by simp));have d11:=run_store_one v11 (hx1 v11 (by simp));have hJa:J (zs.take k) (wr.alloc (.cells #[v0,v1,v2,v3,v4,v5,v6,v7,v8,v9,v10,v11] 38)):=hJ _ _ _ Q2 hJs (World.grownBy_alloc _ _ _) (λr e=>by cases e);have hba:Below n₀ wr (wr.alloc (.cells #[v0,v1,v2,v3,v4,v5,v6,v7,v8,v9,v10,v11] 38)):=(Below.refl _ _).alloc (by have:=hnx.size;omega) _;obtain⟨fn,tmps,assign,body,hy,hR⟩:=hYx _ hJa
   dsimp only at hy hR
   gi_wp2
   refine hR.mono ?_;rintro e W3 (⟨rfl,hJ3,hk3⟩|⟨rfl,hJx3⟩)
   .gi_wp2
    go_roundw
    case rel=>exact⟨k+1,by omega,by simp,hJ3,(hnx.trans hba).trans hk3⟩
    case measure=>simp[intOf];omega
   .gi_wp2
    refine bodyPost_ret (results_none rfl _ _ _) rfl ?_;exact⟨⟨_,rfl⟩,.inr ⟨_,⟨k+1,by omega,rfl⟩,hJx3⟩⟩
  .obtain rfl:k=zs.length:=by omega
   gi_wp2
   go_end0
   exact⟨⟨_,rfl⟩,.inl ⟨_,rfl,by rwa [gE]at hJs⟩⟩
theorem Tryz.values_stops(F:Fence)(n:Nat)(h7:F.fn 139)(hro:F.round=Q2)(hn:1<=n)(Bs n₀ b off cap:Nat)(zs:List R12)(hreach:zs.length<=1000)(w:World)(hBs:Bs<w.heap.size)(hn₀:n₀<=w.heap.size)(hb:b<n₀)
  (hs:w.cell? ⟨Bs,0,Q2⟩=Q1 (.slice (Q1 ⟨b,off,Q2⟩) zs.length cap)) (hc:∀i(hi:i<zs.length),∀j v,zs[i].1[j]?=Q1 v->w.cell? ⟨b,off+i*12+j,Q2⟩=Q1 v):
  SeqStopsK F n Tryz.prog 139 #[.pointer (Q1 ⟨Bs,0,Q2⟩)] (λx:R12=>#[.agg x.1.toArray]) (Below n₀) (λys=>ys=zs) (λpre=>pre<+:zs) zs.length w:=λl J Jx W hW hJ _ hY h0=>by
 refine(Tryz.values1_in F n h7 hro hn l Bs n₀ b off cap zs hreach hb J Jx W (bc hn₀ hW.size) hJ hY ((hW.cell (p:=⟨Bs,0,Q2⟩) hBs).trans hs) (λi hi j v h=>(hW.cell (p:=⟨b,off+i*12+j,Q2⟩) (ia hb hn₀)).trans (hc i hi j v h)) h0).mono ?_;rintro e W' ⟨he,⟨ys,hy,hj⟩|⟨pre,⟨k,hk,rfl⟩,hj⟩⟩
 .exact⟨he,.inl ⟨ys,hy,hj⟩⟩
 .exact⟨he,.inr ⟨_,List.take_prefix _ _,hj⟩⟩
theorem Tryz.info38:(Tryz.prog.info? 38).map (λi=>(i.zero,i.size,i.bytes))=Q1 (Q1 (.agg #[.string ⟨#[]⟩,.slice Q2 0 0,.int .i64 0,.slice Q2 0 0,.slice Q2 0 0,.string ⟨#[]⟩,.int .i64 0,.int .i64 0,.string ⟨#[]⟩,.string ⟨#[]⟩,.slice Q2 0 0,.slice Q2 0 0]),12,208):=by kernel_rfl
def flat12(l:List R12):List Value:=l.flatMap λx=>x.1
theorem flat12_snoc(l:List R12)(x:R12):flat12 (l++[x])=flat12 l++x.1:=by simp[flat12]
theorem cell_row_new(w:World)(l:List Value)(t:TypeId):∀j u,l[j]?=Q1 u->(w.alloc (.cells l.toArray t)).cell? ((⟨w.heap.size,0,Q2⟩:Addr).add j)=Q1 u:=by
 intro j u h;unfold Addr.add;split
 next e=>subst e;simp[h]
 .simp[h]
theorem cells_own(B:Nat)(vs:Array Value)(t:TypeId):Own (λ(_:Unit) W=>W.heap[B]?=Q1 (.cells vs t (0,0))):=λs X Y row hs hg hrow=>
 (hg.block B (mU.1 hs).1 (λe'=>by obtain⟨o,ho,hc⟩:=hrow B e'.symm;rw[hs]at ho;cases ho;cases hc)).trans hs
set_option maxRecDepth 100000 in
set_option maxHeartbeats 2000000 in
theorem Tryz.appendSeq_in(F:Fence)(n:Nat)(h3:F.fn 196)(h5:F.fn 139)(hro:F.round=Q2)(hn:3<=n)(Bs b off cap:Nat)(zs:List R12)(hreach:zs.length<=1000)(w:World)(hBs:Bs<w.heap.size)(hb:b<w.heap.size)
  (hs:w.cell? ⟨Bs,0,Q2⟩=Q1 (.slice (Q1 ⟨b,off,Q2⟩) zs.length cap)) (hc:∀i(hi:i<zs.length),∀j v,zs[i].1[j]?=Q1 v->w.cell? ⟨b,off+i*12+j,Q2⟩=Q1 v):
  CallsIn F n Tryz.prog 196 #[.slice Q2 0 0,.func (.func 139) #[] #[.pointer (Q1 ⟨Bs,0,Q2⟩)]] w λe W'=>∃v,e=.returned v/\W'.ownsRow w.heap.size 38 12 v zs.length (flat12 zs)/\Below w.heap.size w W':=by
 have h1:1<=n:=by omega
 obtain⟨i0,hi,hz0,hz1,hz2⟩:=info_parts Tryz.info38;refine callsIn_of_wp_marks Tryz.func196 rfl h3 ?_ hro;simp only[Tryz.ntmps196,List.size_toArray,fE,qA,Nat.reduceAdd,Nat.reduceSub,Array.replicate_succ,Array.replicate_zero,List.push_toArray,List.append_toArray,HU,List.cons_append]
 gi_wp2
 have bO:=Boxed.new w 42 (.slice Q2 0 0);have hB0:Below w.heap.size w (w.alloc (.cells #[.slice Q2 0 0] 42)):=(Below.refl _ w).alloc (zM _) _
 refine wpIn_rangeFunc_ownH hro h1 (gf:=139) (lb:=#[.pointer (Q1 ⟨Bs,0,Q2⟩)]) rfl h5 (enters_of Tryz.func139 (by kernel_rfl) rfl)
  (Tryz.values_stops F (n-1) h5 hro (by omega) Bs w.heap.size b off cap zs hreach _ (by simp<;>omega) (by simp) hb ((hB0.cell (p:=⟨Bs,0,Q2⟩) hBs).trans hs) (λi hi j v h=>(hB0.cell (p:=⟨b,off+i*12+j,Q2⟩) hb).trans (hc i hi j v h))) belowK_t (belowK_b (by simp<;>omega)) (Below.refl _ _) (λ_=>rfl)
  (λpre W=>(∃v,Boxed W w.heap.size 42 v/\W.ownsRow w.heap.size 38 12 v pre.length (flat12 pre)/\(v=.slice Q2 0 0↔pre=[]))/\Below w.heap.size w W)
  (λ_ _ _=>False)
  (OwnFrom.and (Own.from (holdsRow_own w.heap.size w.heap.size 42 38 12 (λpre=>pre.length) (λpre=>flat12 pre) (λpre v=>v=.slice Q2 0 0↔pre=[])) _) (ownFrom_below (zM _) (by simp<;>omega)))
  (λ_ _ _ _ _ hs _ _=>hs)
  ⟨⟨_,bO,World.ownsRow_nil _ _ _ _,by simp⟩,hB0⟩
  (λx a' W=>∃Bx,w.heap.size<Bx/\W.heap[Bx]?=Q1 (.cells x.1.toArray 38 (0,0))/\a'={tmps:=#[.slice Q2 0 0,.func (.func 139) #[] #[.pointer (Q1 ⟨Bs,0,Q2⟩)],.pointer (Q1 ⟨w.heap.size,0,Q2⟩),undef,.slice Q2 0 0,.pointer (Q1 ⟨Bx,0,Q2⟩),.func (.func 139) #[] #[.pointer (Q1 ⟨Bs,0,Q2⟩)],.agg x.1.toArray,undef,undef,undef,undef,undef],defers:=[]})
  (λx a' _ X Y row hs hg hr=>by obtain⟨Bx,h1,h2,h3⟩:=hs;exact⟨Bx,h1,cells_own Bx x.1.toArray 38 () X Y row h2 hg (λr e=>(hr r e).2),h3⟩)
  ?assign ?body ?done ?stop
 case assign=>
  rintro l pre ⟨xs,hxl,hx1⟩ W K ⟨⟨v,hv,hrow,hnil⟩,hB⟩ hK
  match xs,hxl with
  |[v0,v1,v2,v3,v4,v5,v6,v7,v8,v9,v10,v11],_=>
  have d0:=run_store_one v0 (hx1 v0 (by simp));have d1:=run_store_one v1 (hx1 v1 (by simp));have d2:=run_store_one v2 (hx1 v2 (by simp));have d3:=run_store_one v3 (hx1 v3 (by simp));have d4:=run_store_one v4 (hx1 v4 (by simp));have d5:=run_store_one v5 (hx1 v5 (by simp));have d6:=run_store_one v6 (hx1 v6 (by simp));have d7:=run_store_one v7 (hx1 v7 (by simp));have d8:=run_store_one v8 (hx1 v8 (by simp));have d9:=run_store_one v9 (hx1 v9 (by simp));have d10:=run_store_one v10 (hx1 v10 (by simp));have d11:=run_store_one v11 (hx1 v11 (by simp))
  gi_wp2
  exact hK _ _ ((KeepsOthers.alloc _ _).from _) ((Below.refl _ W).alloc hB.size _) ⟨⟨v,hv.alloc _,hrow.alloc _,hnil⟩,hB.alloc hB.size _⟩ ⟨W.heap.size,hv.lt,World.alloc_heap_new W _,rfl⟩
 case body=>
  rintro l pre ⟨xs,hxl,hx1⟩ a' W hl ⟨r,hr⟩ ⟨⟨v,hv,hrow,hnil⟩,hB⟩ ⟨Bx,hBx,hX,rfl⟩ hlt
  match xs,hxl with
  |[v0,v1,v2,v3,v4,v5,v6,v7,v8,v9,v10,v11],_=>
  have hcv:=hv.cell
  dsimp only at hX
  have c0:W.cell? ⟨Bx,0,Q2⟩=Q1 v0:=by simp[World.cell?,hX]
  have c1:W.cell? ⟨Bx,1,Q2⟩=Q1 v1:=by simp[World.cell?,hX]
  have c2:W.cell? ⟨Bx,2,Q2⟩=Q1 v2:=by simp[World.cell?,hX]
  have c3:W.cell? ⟨Bx,3,Q2⟩=Q1 v3:=by simp[World.cell?,hX]
  have c4:W.cell? ⟨Bx,4,Q2⟩=Q1 v4:=by simp[World.cell?,hX]
  have c5:W.cell? ⟨Bx,5,Q2⟩=Q1 v5:=by simp[World.cell?,hX]
  have c6:W.cell? ⟨Bx,6,Q2⟩=Q1 v6:=by simp[World.cell?,hX]
  have c7:W.cell? ⟨Bx,7,Q2⟩=Q1 v7:=by simp[World.cell?,hX]
  have c8:W.cell? ⟨Bx,8,Q2⟩=Q1 v8:=by simp[World.cell?,hX]
  have c9:W.cell? ⟨Bx,9,Q2⟩=Q1 v9:=by simp[World.cell?,hX]
  have c10:W.cell? ⟨Bx,10,Q2⟩=Q1 v10:=by simp[World.cell?,hX]
  have c11:W.cell? ⟨Bx,11,Q2⟩=Q1 v11:=by simp[World.cell?,hX]
  gi_wp2_with (gi_at_builtin;refine wpListIn_append_own _ rfl _ _ 42 rfl w.heap.size 38 i0 _ 12 208 Tryz.underlying42 hi hz0 hz1 hz2 rfl (by decide) _ _ _ rfl (hrow.alloc _) ⟨W.heap.size,0,Q2⟩ 1 1 [v0,v1,v2,v3,v4,v5,v6,v7,v8,v9,v10,v11] rfl rfl (cell_row_new _ _ _) hx1 (by unfold maxLen;omega) (by omega) (by have:=hB.size;simp;omega) ?_;intro v' w1 hown' hgrow _;obtain⟨g',cap',rfl⟩:=ownsRow_succ hown';obtain⟨hv1,hv2,hr2,hk2,hb2⟩:=hv.appended (by decide) hrow hB.size (zM _) hown' hgrow;have hc1:=hv1.cell;have hf1:=hv1.frozen)
  exact⟨hk2.from _,hb2,⟨_,hv2,by rw[flat12_snoc];simpa using hr2,by simp⟩,hB.trans hb2⟩
 case done=>
  rintro D ys W hD rfl ⟨⟨v,hv,hrow,hnil⟩,hB⟩ hK;have hc:=hv.cell
  gi_wp2
  refine⟨by simp,.inl ⟨_,_,rfl,run_takeDeferred hK,?_⟩⟩;exact⟨_,results_tmp rfl _ _ _,v,rfl,ownsRow_putObj hrow _ hK rfl,hB.trans (belowK_b (w:=w) (zM _) W D _ _ (by simp at hD;omega) hK rfl rfl)⟩
 case stop=>
  rintro D c pre W _ _ h _;exact h.elim
set_option maxHeartbeats 1000000 in
theorem Tryz.collect_in(F:Fence)(n:Nat)(h2:F.fn 137)(h3:F.fn 196)(h5:F.fn 139)(hro:F.round=Q2)(hn:4<=n)(Bs b off cap:Nat)(zs:List R12)(hreach:zs.length<=1000)(w:World)(hBs:Bs<w.heap.size)(hb:b<w.heap.size)
  (hs:w.cell? ⟨Bs,0,Q2⟩=Q1 (.slice (Q1 ⟨b,off,Q2⟩) zs.length cap)) (hc:∀i(hi:i<zs.length),∀j v,zs[i].1[j]?=Q1 v->w.cell? ⟨b,off+i*12+j,Q2⟩=Q1 v):
  CallsIn F n Tryz.prog 137 #[.func (.func 139) #[] #[.pointer (Q1 ⟨Bs,0,Q2⟩)]] w λe W'=>∃v,e=.returned v/\W'.ownsRow w.heap.size 38 12 v zs.length (flat12 zs)/\Below w.heap.size w W':=by
 have h1:1<=n:=by omega
 refine callsIn_of_wp Tryz.func137 rfl h2 ?_ hro;simp only[Tryz.ntmps137,List.size_toArray,fE,qA,Nat.reduceAdd,Nat.reduceSub,Array.replicate_succ,Array.replicate_zero,List.push_toArray,List.append_toArray,HU,List.cons_append]
 gi_wp2_with (gi_at_call 196;refine(Tryz.appendSeq_in F (n-1) h3 h5 hro (by omega) Bs b off cap zs hreach w hBs hb hs hc).mono ?_;rintro e w' ⟨v,rfl,hv1,hv2⟩)
 go_ret
 exact⟨v,rfl,hv1,hv2⟩
end Go.Proofs
namespace Cad
open Go Go.Proofs
open List renaming length->X
open IntKind renaming wrap->Γ,i64->Δ
open AV renaming agg->Qd
open Tr renaming val->Q8
open Sh renaming bool->Q7,str->Q6
open Bool renaming false->Q4,true->O
open Option renaming none->Q2,some->M
open Decidable renaming decide->T
open Cad renaming ow->W
set_option maxHeartbeats 4000000
open Tr (chk br)
open AV (nils agg tup ptr kb str sl)
theorem EN:∀(l:List R12)(i j:Nat)(h:i<X l),j<12->(flat12 l)[i*12+j]?=l[i].1[j]?
 | x::r,0,j,_,hj=>by
  show(x.1++flat12 r)[0*12+j]?=x.1[j]?;rw[rl (by rw[x.2.1];omega),Nat.zero_mul,eI]
 | x::r,i+1,j,h,hj=>by
  show(x.1++flat12 r)[(i+1)*12+j]?=_;rw[pu (by rw[x.2.1];omega),x.2.1,show(i+1)*12+j-12=i*12+j by omega,EN r i j (by simpa using h) hj];rfl
@[match_pattern] abbrev zvs:Sh:=.pr (.pr .str (.pr (.sl (.pr .str (.pr (.int .i64) .bool))) (.pr (.int .i64) (.pr (.sl (.int .i64)) (.pr (.sl (.pr (.int .i64) .str)) .expr))))) (.sl (.sl (.pr (.int .i64) (.pr (.int .i64) .str))))
def F91:ag:=λa h n=>match a with
 | [.clo (.func 139) [] [.ptr id 0]]=>match h id with
  |.box [.sl zvs l]=>.chk (T (0<X l)) (.chk (T (X l<=1000)) (.ok {val:=.vec n,nw:=[.vec zl l]}))
  |_=>.err
 |_=>.err
theorem Qs{w:World}{U:Nat->Prop}{a:Nat->Option Value}{hp:Nat->AO}{n q:Nat}{l:zS}{v:Value}(x6:∀b,U b->b<w.heap.size)(h5:w.cell? ⟨q,0,Q2⟩=M v)(hr:Rv w U a (.sl zl l) v)(hn:a n=Q2)(h0:0<X l)(P:X l<=1000):
  Calls Tryz.prog 137 #[.func (.func 139) #[] #[.pointer (M ⟨q,0,Q2⟩)]] w λe w'=>∃m U' ρ',e=.returned m/\Ef n hp {val:=.vec n,nw:=[.vec zl l]} w U a m w' U' ρ':=by
 obtain⟨d,h9,rfl,x8,hm,h⟩:=L9 hr;rcases h with rfl|⟨b,o,rfl,x3⟩
 .simp at h0
 have x1:zl.size=12:=rfl;have u:∀i(B:i<X l) j,j<12->∃c x,(zC zl l[i])[j]?=M c/\w.cell? ⟨b,o+i*12+j,Q2⟩=M x/\Rv w U a c x/\x.oneCell'=O:=by
  intro i B j D;have h7:(zC zl l[i]).length=12:=ao zl l[i];have t:(zC zl l[i])[j]?=M ((zC zl l[i])[j]'(by rw[h7];exact D)):=af _;obtain⟨x,P,s⟩:=x3 i B j _ t;exact⟨_,x,t,P,s,gI zl l[i] j _ x t s⟩
 have H:b<w.heap.size:=by
  obtain⟨c,x,_,s,_⟩:=u 0 h0 0 W;exact wB s
 let z:List R12:=List.ofFn λi:Fin (X l)=>⟨(List.range 12).map λj=>(w.cell? ⟨b,o+i.1*12+j,Q2⟩).getD undef,sw,λm F=>by
  obtain⟨j,D,rfl⟩:=bn.1 F;obtain⟨c,x,_,s,_,h4⟩:=u i.1 i.2 j (by simpa using D);rw[s];exact h4⟩
 have y:X z=X l:=by simp[z]
 have x7:∀i(B:i<X z),∀j m,z[i].1[j]?=M m->w.cell? ⟨b,o+i*12+j,Q2⟩=M m:=by
  intro i B j m F;simp only[z,List.getElem_ofFn,dN,dW]at F;obtain⟨k,hq,F⟩:=F;obtain⟨x2,rfl⟩:=A1 hq;obtain⟨c,x,_,s,_,_⟩:=u i (by rw[<-y];exact B) k x2;rw[s]at F;rw[s,<-F];rfl
 refine(callsIn_wide.1 (Tryz.collect_in Fence.wide 4 trivial trivial trivial rfl W q b o h9 z W w (wB h5) H (by rw[y];exact h5) x7)).mono ?_;rintro e w' ⟨m,rfl,h8,p⟩;rcases h8.2 with⟨_,h⟩|⟨g,A,x0,rfl,hg,hG,x9,_,x4,x5⟩
 .omega
 have h6:g<w'.heap.size:=(mU.1 hG).1
 obtain⟨G,u1,u2,u3⟩:∃G:Nat->Prop,(∀b,b<w.heap.size->(G b↔U b))/\G g/\∀b,G b->b<w'.heap.size:=
  ⟨λb=>U b\/b=g,λb H=>⟨λh=>h.elim id λe=>zA e W,.inl⟩,.inr rfl,λb h=>by
   rcases h with h|rfl
   .exact ia (x6 b h) p.size
   .exact h6⟩
 have E:∀{c:AV}{x:Value},Rv w U a c x->Rv w' G (kx a n (.slice (M ⟨g,0,Q2⟩) (X z) A)) c x:=λh=>h.mono p.size (λb' C _=>p.block b' C) (λb H h=>(u1 b H).1 h) (fM hn)
 refine⟨_,G,_,rfl,Ef.newVec sw hn rfl (ly.below p) (λb H _=>p.block b H) u3 u1 ?_ ?_⟩
 .refine⟨_,A,by rw[y];simp[kx],hm,.inr ⟨g,38,x0,rfl,W,u2,hG,x4,W,?_⟩⟩;intro i B j c hc;have D:j<12:=by have:=(dF.1 hc).1;rwa [ao]at this
  obtain⟨c',x,P,s,h3,_⟩:=u i B j D;rw[hc]at P;cases P;refine⟨x,?_,E h3⟩;have hz:(flat12 z)[i*12+j]?=M x:=by
   rw[EN z i j (by rw[y];exact B) D];simp only[z,List.getElem_ofFn,dN];rw[Bm D];simp[s]
  rw[<-x5]at hz;have:=List.getElem?_take.symm.trans hz;split at this
  .rw[x1,<-rg];exact this
  .cases this
 .intro b' C;simp[cd]at C;exact .inl W
theorem zrB:FK 137 F91 where
 fn:=⟨Tryz.f137,kw,kw,kw⟩
 calls:=λw U ρ hp n t v f z x c q G k m F o=>by
  unfold F91 at x;split at x
  .rename_i id;split at x
   .rename_i l j;simp only[Tr.val_chk,Tr.val_ok,bG,aY]at x;obtain⟨A,B,rfl⟩:=x;have H:=c.len
    match v,H,c with
    |[va],_,c=>
    have r0:=c.rv 0 _ va rfl rfl;cases r0 with
    |clo _ _ _ vf vc x E P a=>
    match vf,x,vc,E,a with
    |[],_,[pv],_,a=>
    have r1:=a 0 _ pv rfl rfl;cases r1 with
    |ptr _ _ b0 i=>
    have s:id∈z:=m id (by simp[AV.idsL,AV.ids]);have y:=k.ob id s;rw[j]at y;have⟨b',h,d,u,D,e,b,C⟩:=y;rw[i]at u;cases u;have g:=b.len;have p:=b.rv 0 _ (d.toList[0]'(by rw[<-g];simp)) rfl (af _);refine⟨Qs q ?_ p (o 0 sw) A B,sw⟩;rw[World.cell?,e];simp
   .simp at x
  .simp at x
end Cad
