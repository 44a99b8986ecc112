/- Words, names, runs of octets. -/
import Derived.Test.YtgcekmmgphhofaaGreatDoorR11
import Derived.Test.YtgcekmmgphhofaaGreatDoorR01
namespace Cad
open Go Go.Proofs Tryz
open List renaming drop->Qh,length->M
open IntKind renaming wrap->Γ,i64->Δ
open AV renaming agg->Qe
open Tr renaming val->Q9
open Sh renaming bool->Q8,str->Q7
open Bool renaming true->Z,false->J
open Option renaming none->Q2,some->Y
open Decidable renaming decide->L
open Int renaming toNat->T
open Tr (chk br)
open AV (nils agg tup ptr kb str)
open AV renaming str->X,sl->O
open Cad renaming Tr->K,AV->R,ai->I,ow->S,Sem->N
noncomputable section
def swT{β:Type}(l:β->zM)(s:zD):List (zD×β)->β->K zM
 |[],d=>.ok (l d)
 |(w,b)::r,d=>.br (s==w) (.ok (l b)) (swT l s r d)
def X6{β:Type}(s:zD):List (zD×β)->β->β
 |[],d=>d
 |(w,b)::r,d=>if s==w then b else X6 s r d
theorem H0{β:Type}{x:β->zM}{s:zD}{d:β}{Φ:zM->Prop}:∀(l:List (zD×β)),Φ (x (X6 s l d))->(swT x s l d).Sat Φ
 |[],h=>h
 | (w,b)::r,h=>by
  refine⟨λa=>?_,λa=>H0 r ?_⟩
  .simp only[X6]at h;rw[zf a]at h;exact h
  grind[X6]
def Yv:List (zD×Bool):=[([65,78,68],Z),([79,82],Z),([78,79,84],Z),([73,83],Z),(L6,Z),(I3,Z),(I2,Z),([67,82,69,65,84,69],Z),([84,65,66,76,69],Z),(zmD,Z),(zmE,Z),(zmz,Z),([75,69,89],Z),([85,78,73,81,85,69],Z),([82,69,70,69,82,69,78,67,69,83],Z),([67,72,69,67,75],Z),([68,82,79,80],Z),([73,78,83,69,82,84],Z),([73,78,84,79],Z),([86,65,76,85,69,83],Z),([85,80,68,65,84,69],Z),([83,69,84],Z),([87,72,69,82,69],Z),([68,69,76,69,84,69],Z),([70,82,79,77],Z),([83,69,76,69,67,84],Z),([71,82,65,78,84],Z),([82,69,65,68],Z),([87,82,73,84,69],Z),([79,78],Z),([84,79],Z),([82,69,86,79,75,69],Z),([77,73,71,82,65,84,69],Z),([67,79,80,89],Z),([74,79,73,78],Z),(zgC,Z),([66,89],Z),([83,85,77],Z)]
def xG:List (zD×Int):=[(sJ,0),(ic,0),(sK,1),(xY,1),(lq,2),(Dg,2),([61],2),([60],2),([43],2),([45],2)]
def mM(s:zD):Bool:=X6 s Yv J
def dl(s:zD):Int:=X6 s xG (-1)
def aM(c:Int):Bool:=bif L (c>=48)then L (c<=57)else J
def bh(c:Int):Bool:=bif L (c>=97)then
  bif L (c<=122)then Z else bif L (c>=65)then L (c<=90)else J
 else bif L (c>=65)then L (c<=90)else J
def dd(c:Int):Bool:=bif bh c then Z else bif aM c then Z else c==95
def rL:bS:=(((zm6.aut 314 f314 1).aut 315 f315 1).aut 313 f313 1).aut 254 f254 0
theorem mn:zm rL:=by refine ib (ib (ib (ib U6 ?_) ?_) ?_) ?_<;>(refine⟨?_,?_,?_,?_⟩<;>kernel_rfl)
theorem zsw(s:zD):run rL 0 (λ_=>{}) f158.results.toList 400 (aK f158) (aC f158.ntmps [.str s] [])=swT (λb=>.ret (.kb b) []) s Yv J:=kw
theorem zpv:zJ rL.P 158 f158 1:=bG kw
theorem zli:FK 158 (r7 [.str] [.bool] λx=>Y (mM x.1,())):=by
 refine uJ zpv λx y a C h=>?_
 cases a;refine dN (n0:=0) mn zpv (λid _=>h id) (λ_=>{}) 400 ?_;have e:gX ([Q7].map Y) x=[.str x.1]:=rfl;rw[e,zsw];exact H0 Yv rfl
theorem zsT(s:zD):run rL 0 (λ_=>{}) f242.results.toList 400 (aK f242) (aC f242.ntmps [.str s] [])=swT (λb=>.ret (.int .i64 b) []) s xG (-1):=kw
theorem zpT:zJ rL.P 242 f242 1:=bG kw
theorem zlH:FK 242 (r7 [.str] [zi] λx=>Y (dl x.1,())):=by
 refine uJ zpT λx y a C h=>?_
 cases a;refine dN (n0:=0) mn zpT (λid _=>h id) (λ_=>{}) 400 ?_;have e:gX ([Q7].map Y) x=[.str x.1]:=rfl;rw[e,zsT];exact H0 xG rfl
def kS(p:Int->Bool):zD->Nat
 |[]=>0
 |c::r=>if p c.toNat then kS p r+1 else 0
def bn(f m:Int->Bool):zD->Nat
 |[]=>0
 |c::r=>if f c.toNat then kS m r+1 else 0
variable {E:bS}{C:eS}{t:List Item}{s:St}{Q:R->List AO->Prop}
theorem Reach.strLen{fn:FuncId}(j:Nat)(x:zD)(e:s.tmps[j]?=Y (.str x))(h:M x<=af->Reach E C fn t s Q):Reach E C fn t s Q:=by
 intro b g a w U m i k c l;refine h ?_ b g a w U m i k c l;have d:j<a.tmps.toList.length:=by rw[<-c.tm.len];exact(cQ.1 e).1
 have:=c.tm.rv j _ _ e (zQ d);generalize a.tmps.toList[j]=v at this;cases this with
 |str _ h=>exact h
abbrev Ki:Nat->aR:=λ_=>{slots:=[1,2,5]}
abbrev NJ(a b c d:R)(s:zD)(n:Int):St:={
 tmps:=(tm 31 [(1,X s),(2,ptr 0 0),(5,I n)]),
 heap:=[AO.box [a,b,c,d]]}
abbrev ziX(a b c d:R)(p:Int->Bool)(s:zD)(n:Int):K zM:=
 chk (cond (L (n<↑(M s))) (zT n (M s)) Z)
  (br (cond (L (n<↑(M s))) (p ↑(List.getD s n.toNat 0).toNat) J)
   (Tr.ok (zM.head 4 (zZ f255 4) (NJ a b c d s (Γ Δ (n+1)))))
   (Tr.ok (zM.ret (I n) [])))
theorem zaR:zJ rL.P 255 f255 2:=bG kw
theorem zgq{C:eS}(g:∀id,0<=id->C.ρ0 id=Q2)(a b c d:R)(p:Int->Bool)(s:zD)
  (e:∀n,run rL 0 Ki f255.results.toList 300 (zZ f255 4) (NJ a b c d s n)=ziX a b c d p s n) (m:M s<=af):∀(k i:Nat),M s-i=k->i<=M s->
  Reach rL C 255 (zZ f255 4) (NJ a b c d s i) (λr h=>(r,h)=(.int .i64 ((i+kS p (s.drop i):Nat):Int),[]))
 | k,i,l,o=>by
  subst l;refine dN mn zaR g Ki 300 ?_;rw[e];refine⟨?_,λh=>?_,λh=>?_⟩
  .grind[zT]
  .have x:i<M s:=by
    by_cases x:i<M s
    .exact x
    .simp_all
   have j:L ((i:Int)<M s)=Z:=by simpa using x
   rw[j,bt s _ x,bU]at h;rw[mj x];simp only[kS];rw[zf h,zz i S,show i+(kS p (Qh (i+1) s)+1)=(i+1)+kS p (Qh (i+1) s) by omega];exact zgq g a b c d p s e m (M s-(i+1)) (i+1) rfl S
  .have:kS p (s.drop i)=0:=by
    by_cases x:i<M s
    .grind[List.drop_eq_getElem_cons,kS]
    .rw[List.drop_eq_nil_of_le S];rfl
   rw[this];rfl
 termination_by k=>k
theorem zqp(s:zD)(n:Int):run rL 0 Ki f255.results.toList 300 (zZ f255 4) (NJ (I 1) (I 16) (AV.clo (Fn.func 314) [] []) (AV.clo (Fn.func 313) [] []) s n)=ziX (I 1) (I 16) (AV.clo (Fn.func 314) [] []) (AV.clo (Fn.func 313) [] []) dd s n:=kw
theorem znm(s:zD):run rL 0 Ki f255.results.toList 300 (aK f255) (aC f255.ntmps [.agg [(I 1),(I 16),(AV.clo (Fn.func 314) [] []),(AV.clo (Fn.func 313) [] [])],.str s] [])=
 chk (cond (s==[]) Z (zT 0 (M s)))
  (br (cond (s==[]) Z (!bh ↑(List.getD s (T 0) 0).toNat)) (Tr.ok (zM.ret (I 0) []))
   (Tr.ok (zM.head 4 (zZ f255 4) (NJ (I 1) (I 16) (AV.clo (Fn.func 314) [] []) (AV.clo (Fn.func 313) [] []) s 1)))):=kw
theorem zgo(a:∀id,0<=id->C.ρ0 id=Q2)(s:zD)(b:M s<=af):Reach rL C 255 (aK f255) (aC f255.ntmps [.agg [(I 1),(I 16),(AV.clo (Fn.func 314) [] []),(AV.clo (Fn.func 313) [] [])],.str s] []) (λr h=>(r,h)=(.int .i64 (bn bh dd s:Nat),[])):=by
 refine dN (n0:=0) mn zaR a Ki 300 ?_;rw[znm];cases s with
 |nil=>exact⟨rfl,λ_=>rfl,λh=>by cases h⟩
 | cons c r=>
  refine⟨by simp[zT],λh=>?_,λh=>?_⟩
  .have x:bh ↑c.toNat=J:=by simpa using h
   simp only[bn,x];rfl
  .have x:bh ↑c.toNat=Z:=by simpa using h
   have:=zgq a (I 1) (I 16) (AV.clo (Fn.func 314) [] []) (AV.clo (Fn.func 313) [] []) dd (c::r) (zqp (c::r)) b _ 1 rfl sw;simp only[bn,x,zj];rw[show 1+kS dd ((c::r).drop 1)=kS dd r+1 by simp[oV]]at this;exact this
theorem zqq(s:zD)(n:Int):run rL 0 Ki f255.results.toList 300 (zZ f255 4) (NJ (I 2) (I 19) (AV.clo (Fn.func 315) [] []) (AV.clo (Fn.func 315) [] []) s n)=ziX (I 2) (I 19) (AV.clo (Fn.func 315) [] []) (AV.clo (Fn.func 315) [] []) aM s n:=kw
theorem znn(s:zD):run rL 0 Ki f255.results.toList 300 (aK f255) (aC f255.ntmps [.agg [(I 2),(I 19),(AV.clo (Fn.func 315) [] []),(AV.clo (Fn.func 315) [] [])],.str s] [])=
 chk (cond (s==[]) Z (zT 0 (M s)))
  (br (cond (s==[]) Z (!aM ↑(List.getD s (T 0) 0).toNat)) (Tr.ok (zM.ret (I 0) []))
   (Tr.ok (zM.head 4 (zZ f255 4) (NJ (I 2) (I 19) (AV.clo (Fn.func 315) [] []) (AV.clo (Fn.func 315) [] []) s 1)))):=kw
theorem zgp(a:∀id,0<=id->C.ρ0 id=Q2)(s:zD)(b:M s<=af):Reach rL C 255 (aK f255) (aC f255.ntmps [.agg [(I 2),(I 19),(AV.clo (Fn.func 315) [] []),(AV.clo (Fn.func 315) [] [])],.str s] []) (λr h=>(r,h)=(.int .i64 (bn aM aM s:Nat),[])):=by
 refine dN (n0:=0) mn zaR a Ki 300 ?_;rw[znn];cases s with
 |nil=>exact⟨rfl,λ_=>rfl,λh=>by cases h⟩
 | cons c r=>
  refine⟨by simp[zT],λh=>?_,λh=>?_⟩
  .have x:aM ↑c.toNat=J:=by simpa using h
   simp only[bn,x];rfl
  .have x:aM ↑c.toNat=Z:=by simpa using h
   have:=zgq a (I 2) (I 19) (AV.clo (Fn.func 315) [] []) (AV.clo (Fn.func 315) [] []) aM (c::r) (zqq (c::r)) b _ 1 rfl sw;simp only[bn,x,zj];rw[show 1+kS aM ((c::r).drop 1)=kS aM r+1 by simp[oV]]at this;exact this
def G65:ee [Q2,Y .str]:=λx h=>match x,h with
 |(.agg [.int .i64 1,.int .i64 16,.clo (.func 314) [] [],.clo (.func 313) [] []],s,_),[]=>.ok (.int .i64 (bn bh dd s:Nat),[])
 |(.agg [.int .i64 2,.int .i64 19,.clo (.func 315) [] [],.clo (.func 315) [] []],s,_),[]=>.ok (.int .i64 (bn aM aM s:Nat),[])
 |_,_=>.err
theorem zlQ:FK 255 (au [Q2,Y .str] G65):=by
 refine cP zaR λx d c h C b=>?_
 unfold G65 at h;split at h
 .simp only[Tr.val_ok,ax]at h;subst h;rename_i _ _ s u;have e:gX [Q2,Y Q7] (Qe [(I 1),(I 16),(AV.clo (Fn.func 314) [] []),(AV.clo (Fn.func 313) [] [])],s,u)=[Qe [(I 1),(I 16),(AV.clo (Fn.func 314) [] []),(AV.clo (Fn.func 313) [] [])],.str s]:=rfl;rw[e];exact Reach.strLen 1 s rfl λa=>zgo b s a
 .simp only[Tr.val_ok,ax]at h;subst h;rename_i _ _ s u;have e:gX [Q2,Y Q7] (Qe [(I 2),(I 19),(AV.clo (Fn.func 315) [] []),(AV.clo (Fn.func 315) [] [])],s,u)=[Qe [(I 2),(I 19),(AV.clo (Fn.func 315) [] []),(AV.clo (Fn.func 315) [] [])],.str s]:=rfl;rw[e];exact Reach.strLen 1 s rfl λa=>zgp b s a
 .simp at h
abbrev jP:Sh:=.pr (.int .i64) .str
abbrev ew:=N jP
def ZU:bS:=((rL.add 158 (r7 [.str] [.bool] λx=>Y (mM x.1,()))).add 242 (r7 [.str] [zi] λx=>Y (dl x.1,()))).add 255 (au [Q2,Y .str] G65)
theorem JA:zm ZU:=((mn.add zli).add zlH).add zlQ
def me(s:zD):Bool:=bif L ((M s:Int)>=1)then
  bif L ((M s:Int)<=16)then(bn bh dd s:Int)==↑(M s)else J
 else J
def g49(x:zA ([jP].map Y)):Option (zA ([Q8].map Y)):=if x.1.1=1 then Y (me x.1.2,())else Q2
theorem zsP(s:zD):(run ZU 0 unr f193.results.toList 400 (aK f193) (aC f193.ntmps [.agg [.int .i64 1,.str s]] [])).val=Y (.ret (.bool (me s)) []):=kw
theorem zpO:zJ ZU.P 193 f193 1:=bG kw
theorem zlC:FK 193 (r7 [jP] [.bool] g49):=by
 refine uJ zpO λx y h C b=>?_
 have⟨⟨k,s⟩,u⟩:=x;unfold g49 at h;split at h
 next c=>have a:k=1:=c;subst a;cases h;have e:gX ([jP].map Y) (((1,s),u):zA ([jP].map Y))=[.agg [.int .i64 1,.str s]]:=rfl;rw[e];exact mL (n0:=0) JA zpO (λid _=>b id) (zsP s) rfl
 .cases h
def zm7:bS:=ZU.add 193 (r7 [jP] [.bool] g49)
theorem Va:zm zm7:=JA.add zlC
def zm8:bS:=zm7.aut 157 f157 1
theorem Vb:zm zm8:=ib Va (bG kw)
def RP:bS:=zm8.aut 204 f204 1
theorem JB:zm RP:=ib Vb (bG kw)
open Go Go.Proofs Go.RowKit Go.Lib
variable {w i:World}
theorem jt.below(h:Below w.heap.size w i):jt w i:=
 ⟨h.size,h.os,h.output,h.tape⟩
theorem cI{U:Nat->Prop}{r:R}{v:Value}{k:List AO}{t:Nat->Option Value}(c:fE C w U t (λj=>k.getD j .dead))(e:∀id,M k<=id->t id=Q2)
  (m:∀id v,C.ρ0 id=Y v->t id=Y v) (a:Wd E.gl C w U) (d:Below w.heap.size w i) (p:Rv i U t r v):QZ E C (λs h=>(s,h)=(r,k)) (.returned v) i:=by
 have l:∀b,b<w.heap.size->i.heap[b]?=w.heap[b]?:=d.block;refine⟨v,r,k,U,t,rfl,rfl,p,⟨λid=>?_,c.inj,c.blk⟩,e,m,⟨a.ext.trans (jt.below d),λb x o=>?_,λb q=>cM (a.ub b q) d.size,a.u1,a.u2,λg=>?_⟩⟩
 .exact(c.ob id).mono d.size (λb x _=>l b x) (λ_ _ h=>h) (λ_ _ h=>h) (λb n=>⟨l b ((c.ob id).inU n).2,((c.ob id).inU n).1⟩)
 .rw[l b (cM x a.ext.sz)];exact a.same b x o
 .exact(a.gl g).mono d.size (λb x _=>l b x) (λ_ _ h=>h) (λ_ _ h=>h)
def zgO:bS:=RP.aut 135 f135 1
theorem zpy:zJ RP.P 135 f135 1:=bG kw
theorem Vc:zm zgO:=ib JB zpy
def B6(c:Int):Bool:=bif L (c<32)then Z else L (c>126)
theorem zsC(c:Int):((au (List.replicate 1 Q2) (eJ RP f135 (List.replicate 1 Q2))) [.int .i32 c] (λ_=>.dead) 0).val=Y {val:=.bool (B6 c)}:=kw
theorem ziE(w:World)(U:Nat->Prop)(n:lR RP.gl w U)(o:∀b,U b->b<w.heap.size):PredGrows prog 135 #[] (λr=>B6 r) w:=by
 intro a x t l;have p:FK 135 (au (List.replicate 1 Q2) (eJ RP f135 (List.replicate 1 Q2))):=bM _ JB zpy;have q:cu a U (λ_=>Q2) [.int .i32 (x:Int)] [.int .i32 (x:Int)]:=by
  refine⟨rfl,λj c v m k=>?_⟩;cases j with
  | zero=>
   simp at m k;subst m;subst k;refine .int _ _ ⟨?_,?_⟩
   .show(-2147483648:Int)<=x;omega
   .show(x:Int)<=2147483647;omega
  |succ j=>simp at m
 have:=(p.calls a U (λ_=>Q2) (λ_=>.dead) 0 [.int .i32 (x:Int)] [.int .i32 (x:Int)] _ [] (zsC x) q (λb i=>cM (o b i) l.size) (λg=>(n g).mono l.size (λb i _=>l.block b i) (λ_ _ h=>h) (λ_ _ h=>h)) ⟨sw,sw⟩ (by simp[AV.idsL,AV.ids]) sw sw).1;refine this.mono ?_;rintro e u ⟨v,s,y,rfl,d⟩;have k:=d.val;cases k;exact⟨rfl,⟨d.ext.os,d.ext.tape,d.ext.out,d.ext.sz,λb i=>d.same b i sw⟩⟩
def px(s:zD):Int:=Lib.idxFunc (λr=>B6 r) Z ⟨s.toArray⟩
def G36:ee [Y .str,Q2]:=λx h=>match x,h with
 |(s,.clo (.func 135) [] [],_),[]=>.ok (.int .i64 (px s),[])
 |_,_=>.err
theorem zsi:Go.Proofs.Enters prog 135:=by
  cases h:f135.body with
  | none => have:f135.body.isNone=false:=by kernel_rfl
            rw[h]at this;cases this
  |some c=>exact Go.Proofs.enters_of (fn:=f135) kw kw h
theorem zlo:FK 136 (au [Y .str,Q2] G36):=by
 refine cY (E:=zgO) ⟨f136,kw,kw,kw⟩ λx G y c=>?_
 unfold G36 at c;split at c
 .rename_i s u;simp only[Tr.val_ok,ax]at c;subst c;intro C w U ρ v _ a n h j d;have t:=a.len
  match v,t,a with
  | [z,A],_,a=>
   have l:=a.rv 0 (.str s) z rfl rfl;have m:=a.rv 1 (.clo (.func 135) [] []) A rfl rfl;cases l with
   |str _ P=>
   cases m with
   |clo _ _ _ F D q p _ _=>
   have i:F=[]:=Do q.symm;have g:D=[]:=Do p.symm;subst i;subst g;have:=Tryz.strings_IndexFunc_grows 135 #[] zsi (λr=>B6 r) ⟨s.toArray⟩ w (ziE w U d.gl d.ub);refine this.mono ?_;rintro e w' ⟨rfl,o⟩;refine cI n h j d o (.int _ _ ?_);have b:=Lib.idxFunc_range (λr=>B6 r) Z ⟨s.toArray⟩;have k:(⟨s.toArray⟩:ByteArray).size=M s:=by simp[ByteArray.size]
   have H:af=9223372036854775807:=rfl;rw[k]at b;change px s=-1\/(0<=px s/\px s<M s)at b;refine⟨?_,?_⟩
   .show(-9223372036854775808:Int)<=_;omega
   .show _<=(9223372036854775807:Int);omega
 .simp at c
def sZ:bS:=zgO.add 136 (au [Y .str,Q2] G36)
theorem ki:zm sZ:=Vc.add zlo
abbrev TS:=N Q7
abbrev LX:=List (N Sh.expr)
abbrev LC:=aU
abbrev LS:=List (N Q7)
abbrev LV:=zo
abbrev LI:=da
abbrev LF:=eu
abbrev V:=zw
def aP(x:zw):N Q8:=if(x.1==0)=Z then if(x.2.1!=0)=Z then J else x.2.2==[]else if(x.1==1)=Z then x.2.2==[]else if(x.1==2)=Z then bif x.2.1==0 then bif L ((M x.2.2:Int)<=40)then L (px x.2.2<0)else J else J else if(x.1==3)=Z then bif x.2.1==0 then x.2.2==[]else bif x.2.1==1 then x.2.2==[]else J else J
theorem zpl:zJ sZ.P 86 f86 1:=bG kw
theorem zss(x:zw):rn sZ 0 (λ_=>{ }) f86 [zI ze x] []=br (x.1==0) (br (x.2.1!=0) (Tr.ok (zM.ret (kb J) [])) (Tr.ok (zM.ret (AV.bool (x.2.2==[])) []))) (br (x.1==1) (Tr.ok (zM.ret (AV.bool (x.2.2==[])) [])) (br (x.1==2) (Tr.ok (zM.ret (AV.bool (cond (x.2.1==0) (cond (L ((M x.2.2:Int)<=40)) (L (px x.2.2<0)) J) J)) [])) (br (x.1==3) (Tr.ok (zM.ret (AV.bool (cond (x.2.1==0) (x.2.2==[]) (cond (x.2.1==1) (x.2.2==[]) J))) [])) (Tr.ok (zM.ret (kb J) []))))):=kw
def F21:zV:=ay [ze] [Q8] λx=>(aP x.1,())
theorem zcl:FK 86 F21:=by
 refine z7 zpl λx C h=>?_
 refine aZ ki zpl (λid _=>h id) (zss x.1) ?_;simp only[Q9,aP];repeat' split
 all_goals rfl
def bg(x:zy):zw:=if(x==0)=Z then(0,0,[])else(3,Γ Δ (x-1),[])
theorem zpW:zJ sZ.P 370 f370 1:=bG kw
theorem zsV(x:zy):rn sZ 0 (λ_=>{ }) f370 [zI zi x] []=br (x==0) (Tr.ok (zM.ret (Qe [I 0,I 0,X []]) [])) (Tr.ok (zM.ret (Qe [I 3,I (Γ Δ (x-1)),X []]) [])):=kw
def F57:zV:=ay [zi] [ze] λx=>(bg x.1,())
theorem zlJ:FK 370 F57:=by
 refine z7 zpW λx C h=>?_
 refine aZ ki zpW (λid _=>h id) (zsV x.1) ?_;simp only[Q9,bg];repeat' split
 all_goals rfl
def zjg:zV:=au (List.replicate 1 Q2) (eJ sZ f268 (List.replicate 1 Q2))
theorem zef:FK 268 zjg:=bM _ ki (bG kw)
def zjh:zV:=au (List.replicate 1 Q2) (eJ sZ f269 (List.replicate 1 Q2))
theorem zeg:FK 269 zjh:=bM _ ki (bG kw)
def zji:zV:=au (List.replicate 1 Q2) (eJ sZ f270 (List.replicate 1 Q2))
theorem zeh:FK 270 zji:=bM _ ki (bG kw)
def lC:=sZ.addL [(86,F21),(370,F57),(268,zjg),(269,zjh),(270,zji)]
theorem iP:zm lC:=ki.addL<|fc zcl<|fc zlJ<|fc zef<|fc zeg<|fc zeh ip
def bw(x:zw):zw:=if(!aP x)=Z then(0,0,[])else x
theorem zp1:zJ lC.P 209 f209 1:=bG kw
theorem zsZ(x:zw):rn lC 0 (λ_=>{ }) f209 [zI ze x] []=br (!aP x) (Tr.ok (zM.ret (Qe [I 0,I 0,X []]) [])) (Tr.ok (zM.ret (Qe [I x.1,I x.2.1,X x.2.2]) [])):=kw
def F61:zV:=ay [ze] [ze] λx=>(bw x.1,())
theorem zlO:FK 209 F61:=by
 refine z7 zp1 λx C h=>?_
 refine aZ iP zp1 (λid _=>h id) (zsZ x.1) ?_;simp only[Q9,bw];repeat' split
 all_goals rfl
def eV(x:zw):zy:=if(cond (x.1!=3) Z (!aP x))=Z then 0 else Γ Δ (1+x.2.1)
theorem zpV:zJ lC.P 245 f245 1:=bG kw
theorem zsU(x:zw):rn lC 0 (λ_=>{ }) f245 [zI ze x] []=br (cond (x.1!=3) Z (!aP x)) (Tr.ok (zM.ret (I 0) [])) (Tr.ok (zM.ret (I (Γ Δ (1+x.2.1))) [])):=kw
def F56:zV:=ay [ze] [zi] λx=>(eV x.1,())
theorem zlI:FK 245 F56:=by
 refine z7 zpV λx C h=>?_
 refine aZ iP zpV (λid _=>h id) (zsU x.1) ?_;simp only[Q9,eV];repeat' split
 all_goals rfl
def eo(x:N Q8):zw:=if x=Z then bg 2 else bg 1
theorem zpY:zJ lC.P 371 f371 1:=bG kw
theorem zsX(x:N Q8):rn lC 0 (λ_=>{ }) f371 [zI Q8 x] []=br x (Tr.ok (zM.ret (Qe [I (bg 2).1,I (bg 2).2.1,X (bg 2).2.2]) [])) (Tr.ok (zM.ret (Qe [I (bg 1).1,I (bg 1).2.1,X (bg 1).2.2]) [])):=kw
def F59:zV:=ay [Q8] [ze] λx=>(eo x.1,())
theorem zlL:FK 371 F59:=by
 refine z7 zpY λx C h=>?_
 refine aZ iP zpY (λid _=>h id) (zsX x.1) ?_;simp only[Q9,eo];repeat' split
 all_goals rfl
def Dq(h x:zy):zy:=if(h !=h)=Z then if(x !=x)=Z then 0 else -1 else if(x !=x)=Z then 1 else if L (h<x)=Z then -1 else if L (h>x)=Z then 1 else 0
theorem zp9:zJ lC.P 210 f210 2:=bG kw
theorem zs3(h x:zy):rn lC 0 (λ_=>{ }) f210 [zI zi h,zI zi x] []=br (h !=h) (br (x !=x) (Tr.ok (zM.ret (I 0) [])) (Tr.ok (zM.ret (I (-1)) []))) (br (x !=x) (Tr.ok (zM.ret (I 1) [])) (br (L (h<x)) (Tr.ok (zM.ret (I (-1)) [])) (br (L (h>x)) (Tr.ok (zM.ret (I 1) [])) (Tr.ok (zM.ret (I 0) []))))):=kw
def F71:zV:=ay [zi,zi] [zi] λx=>(Dq x.1 x.2.1,())
theorem zlX:FK 210 F71:=by
 refine z7 zp9 λx C h=>?_
 refine aZ iP zp9 (λid _=>h id) (zs3 x.1 x.2.1) ?_;simp only[Q9,Dq];repeat' split
 all_goals rfl
def qY(h x:zy):zy:=if(h !=h)=Z then if(x !=x)=Z then 0 else -1 else if(x !=x)=Z then 1 else if L (h<x)=Z then -1 else if L (h>x)=Z then 1 else 0
theorem zqa:zJ lC.P 211 f211 2:=bG kw
theorem zs4(h x:zy):rn lC 0 (λ_=>{ }) f211 [zI zi h,zI zi x] []=br (h !=h) (br (x !=x) (Tr.ok (zM.ret (I 0) [])) (Tr.ok (zM.ret (I (-1)) []))) (br (x !=x) (Tr.ok (zM.ret (I 1) [])) (br (L (h<x)) (Tr.ok (zM.ret (I (-1)) [])) (br (L (h>x)) (Tr.ok (zM.ret (I 1) [])) (Tr.ok (zM.ret (I 0) []))))):=kw
def F72:zV:=ay [zi,zi] [zi] λx=>(qY x.1 x.2.1,())
theorem zlY:FK 211 F72:=by
 refine z7 zqa λx C h=>?_
 refine aZ iP zqa (λid _=>h id) (zs4 x.1 x.2.1) ?_;simp only[Q9,qY];repeat' split
 all_goals rfl
def uQ(h x:N Q7):zy:=if(!h==h)=Z then if(!x==x)=Z then 0 else -1 else if(!x==x)=Z then 1 else if Op.bytesLess h x=Z then -1 else if(!(Op.bytesLess h x||h==x))=Z then 1 else 0
theorem zqb:zJ lC.P 212 f212 2:=bG kw
theorem zs5(h x:N Q7):rn lC 0 (λ_=>{ }) f212 [zI Q7 h,zI Q7 x] []=br (!h==h) (br (!x==x) (Tr.ok (zM.ret (I 0) [])) (Tr.ok (zM.ret (I (-1)) []))) (br (!x==x) (Tr.ok (zM.ret (I 1) [])) (br (Op.bytesLess h x) (Tr.ok (zM.ret (I (-1)) [])) (br (!(Op.bytesLess h x||h==x)) (Tr.ok (zM.ret (I 1) [])) (Tr.ok (zM.ret (I 0) []))))):=kw
def F73:zV:=ay [Q7,Q7] [zi] λx=>(uQ x.1 x.2.1,())
theorem zlZ:FK 212 F73:=by
 refine z7 zqb λx C h=>?_
 refine aZ iP zqb (λid _=>h id) (zs5 x.1 x.2.1) ?_;simp only[Q9,uQ];repeat' split
 all_goals rfl
def jJ:=lC.addL [(209,F61),(245,F56),(371,F59),(210,F71),(211,F72),(212,F73)]
theorem fi:zm jJ:=iP.addL<|fc zlO<|fc zlI<|fc zlL<|fc zlX<|fc zlY<|fc zlZ ip
variable {k:FuncId}{f:Func}{n:Nat}{keep:Nat->aR}{a:K zM}
theorem Cx{n0:Nat}(c:zm E)(d:zJ E.P k f n)(b:∀id,n0<=id->C.ρ0 id=Q2){l:Nat}
     {x:zM} (g:run E n0 keep f.results.toList l t s=a) (h:a.val=Y x) (e:ju E C k Q x):Reach E C k t s Q:=
 dN c d b keep l (by rw[g];exact Tr.sat_of_val h e)
def gq{α:Type}(Φ:α->Prop):Option α->Prop
 |some a=>Φ a
 |none=>False
theorem zB{n0:Nat}(d:zm E)(e:zJ E.P k f n)(c:∀id,n0<=id->C.ρ0 id=Q2){l:Nat}
     (g:run E n0 keep f.results.toList l t s=a) (h:gq (ju E C k Q) a.val):Reach E C k t s Q:=by
 cases b:a.val with
 |none=>rw[b]at h;exact h.elim
 |some x=>rw[b]at h;exact Cx d e c g b h
def JR{α β R:Type}(f:β->Nat->α->β⊕R)(h:β->R):List α->Nat->β->R
 |[],_,b=>h b
 | x::r,i,b=>match f b i x with
  |.inl a=>JR f h r (i+1) a
  |.inr y=>y
def Zo{E:bS}{C:eS}{k:FuncId}{K:List Item}{β R:Type}(s:β->Nat->St)(Q:R->AV->List AO->Prop)(b:β)(i:Nat):β⊕R->Prop
 |.inl h=>∀q,Reach E C k K (s h (i+1)) q->Reach E C k K (s b i) q
 |.inr y=>Reach E C k K (s b i) (Q y)
theorem Cy{E:bS}{C:eS}{k:FuncId}{K:List Item}{α β R:Type}(l:List α)(s:β->Nat->St)(f:β->Nat->α->β⊕R)(c:β->R)(Q:R->AV->List AO->Prop)(h:β->Nat->Prop)
  (x:∀b i(o:i<M l),h b i->Zo (E:=E) (C:=C) (k:=k) (K:=K) s Q b i (f b i l[i])/\∀d,f b i l[i]=.inl d->h d (i+1))
  (a:∀b,h b (M l)->Reach E C k K (s b (M l)) (Q (c b))):∀(m i:Nat)(b:β),M l-i=m->i<=M l->h b i->Reach E C k K (s b i) (Q (JR f c (l.drop i) i b))
 | 0,i,b,q,o,j=>by
  have:i=M l:=by omega
  subst this;rw[oO];exact a b j
 | m+1,i,b,q,o,j=>by
  have e:i<M l:=by omega
  rw[mj e];have⟨g,p⟩:=x b i e j;simp only[JR];cases n:f b i l[i]with
  | inl d=>
   rw[n]at g;exact g _ (Cy l s f c Q h x a m (i+1) d S S (p d n))
  | inr y=>
   rw[n]at g;exact g
theorem z6{i b:Nat}(h:i<b):L ((i:Int)<(b:Int))=Z:=by simpa using h
theorem aw(n:Nat):L ((n:Int)<(n:Int))=J:=by simp
theorem zx{i b:Nat}(h:i<b):zT (i:Int) b=Z:=by simp[zT,h]
def Nk:List Int->Int
 |[]=>0
 |x::r=>if x !=0 then x else Nk r
abbrev zoS:Nat->aR:=λj=>if j=3 then{slots:=[3,6,7,8]}else{ }
abbrev Qj(i:Int)(l:da)(h x:Int):St:={tmps:=(tm 18 [(3,I i),(6,O (Sh.int IntKind.i64) l),(7,I h),(8,I x)]),heap:=[]}
theorem Xc:zJ jJ.P 159 f159 1:=bG kw
theorem zs2(k:da):rn jJ 0 zoS f159 [O zi k] []=Tr.ok (zM.head 3 (zZ f159 3) (Qj 0 k (↑k.length) 0)):=kw
theorem Nj(h:Int)(l:da)(x i:Int):rh jJ 0 zoS f159 3 (Qj h l x i)=br (L (i<x)) (chk (zT i (M l)) (br (l.getD i.toNat (zk (Sh.int IntKind.i64))!=h) (Tr.ok (zM.ret (I (l.getD i.toNat (zk (Sh.int IntKind.i64)))) [])) (Tr.ok (zM.head 3 (zZ f159 3) (Qj h l x (Γ Δ (i+1))))))) (Tr.ok (zM.ret (I h) [])):=kw
def f70:Unit->Nat->Int->Unit⊕Int:=λ_ _ x=>if x !=0 then .inr x else .inl ()
theorem VH:∀(l:List Int)(i:Nat),JR f70 (λ_=>0) l i ()=Nk l
 |[],_=>rfl
 | x::r,i=>by
  simp only[JR,f70,Nk];split
  next h=>split at h<;>simp_all[VH r (i+1)]
  next h=>split at h<;>simp_all
def F70:zV:=ay [.sl zi] [zi] λx=>(Nk x.1,())
theorem zlW:FK 159 F70:=by
 refine z7 Xc λx C c=>?_
 have⟨l,u⟩:=x;refine Reach.len 0 zi l rfl λe=>?_
 refine Cx fi Xc (λid _=>c id) (zs2 l) rfl ?_
 have:=Cy (E:=jJ) (C:=C) (k:=159) (K:=zZ f159 3) l (λ(_:Unit) i=>Qj 0 l (M l) i) f70 (λ_=>(0:Int)) (λy r h=>bc h [zi] r=Y (y,())) (λ_ _=>True)
  (λb i a _=>⟨by
   unfold f70;split
   next h=>refine zB fi Xc (λid _=>c id) (Nj _ _ _ _) ?_;simp only[Q9,z6 a,zx a,bt l _ a,h,zj];rfl
   next h=>intro q d;refine zB fi Xc (λid _=>c id) (Nj _ _ _ _) ?_;simp only[Q9,z6 a,zx a,bt l _ a,h,zj,zz i S];exact d,λ_ _=>trivial⟩)
  (λb _=>by
   refine zB fi Xc (λid _=>c id) (Nj _ _ _ _) ?_;simp only[Q9,aw];rfl) _ 0 () rfl S trivial
 rw[VH]at this;exact this
def md(x h:zw):N Q8:=bif (bw x).1!=0 then(bw x).1==(bw h).1 else J
theorem zpX:zJ jJ.P 358 f358 2:=bG kw
theorem zsW(x h:zw):rn jJ 0 (λ_=>{ }) f358 [zI ze x,zI ze h] []=Tr.ok (zM.ret (AV.bool (cond ((bw x).1!=0) ((bw x).1==(bw h).1) J)) []):=kw
def F58:zV:=ay [ze,ze] [Q8] λx=>(md x.1 x.2.1,())
theorem zlK:FK 358 F58:=by
 refine z7 zpX λx C h=>?_
 refine aZ fi zpX (λid _=>h id) (zsW x.1 x.2.1) ?_;simp only[Q9,md];repeat' split
 all_goals rfl
def zbz(x h:zw):zw:=if(cond (eV x==1) Z (eV h==1))=Z then bg 1 else if(cond (eV x==2) (eV h==2) J)=Z then bg 2 else bg 0
theorem zpz:zJ jJ.P 320 f320 2:=bG kw
theorem zsE(x h:zw):rn jJ 0 (λ_=>{ }) f320 [zI ze x,zI ze h] []=br (cond (eV x==1) Z (eV h==1)) (Tr.ok (zM.ret (Qe [I (bg 1).1,I (bg 1).2.1,X (bg 1).2.2]) [])) (br (cond (eV x==2) (eV h==2) J) (Tr.ok (zM.ret (Qe [I (bg 2).1,I (bg 2).2.1,X (bg 2).2.2]) [])) (Tr.ok (zM.ret (Qe [I (bg 0).1,I (bg 0).2.1,X (bg 0).2.2]) []))):=kw
def F38:zV:=ay [ze,ze] [ze] λx=>(zbz x.1 x.2.1,())
theorem zlq:FK 320 F38:=by
 refine z7 zpz λx C h=>?_
 refine aZ fi zpz (λid _=>h id) (zsE x.1 x.2.1) ?_;simp only[Q9,zbz];repeat' split
 all_goals rfl
def vOr(x h:zw):zw:=if(cond (eV x==2) Z (eV h==2))=Z then bg 2 else if(cond (eV x==1) (eV h==1) J)=Z then bg 1 else bg 0
theorem zpA:zJ jJ.P 321 f321 2:=bG kw
theorem zsF(x h:zw):rn jJ 0 (λ_=>{ }) f321 [zI ze x,zI ze h] []=br (cond (eV x==2) Z (eV h==2)) (Tr.ok (zM.ret (Qe [I (bg 2).1,I (bg 2).2.1,X (bg 2).2.2]) [])) (br (cond (eV x==1) (eV h==1) J) (Tr.ok (zM.ret (Qe [I (bg 1).1,I (bg 1).2.1,X (bg 1).2.2]) [])) (Tr.ok (zM.ret (Qe [I (bg 0).1,I (bg 0).2.1,X (bg 0).2.2]) []))):=kw
def F39:zV:=ay [ze,ze] [ze] λx=>(vOr x.1 x.2.1,())
theorem zlr:FK 321 F39:=by
 refine z7 zpA λx C h=>?_
 refine aZ fi zpA (λid _=>h id) (zsF x.1 x.2.1) ?_;simp only[Q9,vOr];repeat' split
 all_goals rfl
def Tl(x:zw):zw:=if(eV x==2)=Z then bg 1 else if(eV x==1)=Z then bg 2 else bg 0
theorem zpE:zJ jJ.P 323 f323 1:=bG kw
theorem zsH(x:zw):rn jJ 0 (λ_=>{ }) f323 [zI ze x] []=br (eV x==2) (Tr.ok (zM.ret (Qe [I (bg 1).1,I (bg 1).2.1,X (bg 1).2.2]) [])) (br (eV x==1) (Tr.ok (zM.ret (Qe [I (bg 2).1,I (bg 2).2.1,X (bg 2).2.2]) [])) (Tr.ok (zM.ret (Qe [I (bg 0).1,I (bg 0).2.1,X (bg 0).2.2]) []))):=kw
def F41:zV:=ay [ze] [ze] λx=>(Tl x.1,())
theorem zlu:FK 323 F41:=by
 refine z7 zpE λx C h=>?_
 refine aZ fi zpE (λid _=>h id) (zsH x.1) ?_;simp only[Q9,Tl];repeat' split
 all_goals rfl
def qK(x:zw):zw:=eo ((bw x).1==0)
theorem zpM:zJ jJ.P 328 f328 1:=bG kw
theorem zsN(x:zw):rn jJ 0 (λ_=>{ }) f328 [zI ze x] []=Tr.ok (zM.ret (Qe [I (eo ((bw x).1==0)).1,I (eo ((bw x).1==0)).2.1,X (eo ((bw x).1==0)).2.2]) []):=kw
def F47:zV:=ay [ze] [ze] λx=>(qK x.1,())
theorem zlA:FK 328 F47:=by
 refine z7 zpM λx C h=>?_
 refine aZ fi zpM (λid _=>h id) (zsN x.1) ?_;simp only[Q9,qK];repeat' split
 all_goals rfl
def lD:=jJ.addL [(159,F70),(358,F58),(320,F38),(321,F39),(323,F41),(328,F47)]
theorem iQ:zm lD:=fi.addL<|fc zlW<|fc zlK<|fc zlq<|fc zlr<|fc zlu<|fc zlA ip
def aV(x h:zw):zy:=Nk [Dq (bw x).1 (bw h).1,qY (bw x).2.1 (bw h).2.1,uQ (bw x).2.2 (bw h).2.2]
theorem zpZ:zJ lD.P 155 f155 2:=bG kw
theorem zsY(x h:zw):rn lD 0 (λ_=>{ }) f155 [zI ze x,zI ze h] []=Tr.ok (zM.ret (AV.int IntKind.i64 (Nk [Dq (bw x).1 (bw h).1,qY (bw x).2.1 (bw h).2.1,uQ (bw x).2.2 (bw h).2.2])) []):=kw
def F60:zV:=ay [ze,ze] [zi] λx=>(aV x.1 x.2.1,())
theorem zlN:FK 155 F60:=by
 refine z7 zpZ λx C h=>?_
 refine aZ iQ zpZ (λid _=>h id) (zsY x.1 x.2.1) ?_;simp only[Q9,aV];repeat' split
 all_goals rfl
def Ij(x h:zw):zw:=if(!md x h)=Z then(0,0,[])else eo (x.1==h.1&&(x.2.1==h.2.1&&(x.2.2==h.2.2&&Z)))
theorem zpF:zJ lD.P 324 f324 2:=bG kw
theorem zsI(x h:zw):rn lD 0 (λ_=>{ }) f324 [zI ze x,zI ze h] []=br (!md x h) (Tr.ok (zM.ret (Qe [I 0,I 0,X []]) [])) (Tr.ok (zM.ret (Qe [I (eo (x.1==h.1&&(x.2.1==h.2.1&&(x.2.2==h.2.2&&Z)))).1,I (eo (x.1==h.1&&(x.2.1==h.2.1&&(x.2.2==h.2.2&&Z)))).2.1,X (eo (x.1==h.1&&(x.2.1==h.2.1&&(x.2.2==h.2.2&&Z)))).2.2]) [])):=kw
def F42:zV:=ay [ze,ze] [ze] λx=>(Ij x.1 x.2.1,())
theorem zlv:FK 324 F42:=by
 refine z7 zpF λx C h=>?_
 refine aZ iQ zpF (λid _=>h id) (zsI x.1 x.2.1) ?_;simp only[Q9,Ij];repeat' split
 all_goals rfl
def xS(x h:zw):zw:=if(cond (!md x h) Z (x.1!=1))=Z then(0,0,[])else if(cond (L (h.2.1>0)) (cond (L (Γ Δ (x.2.1+h.2.1)<x.2.1)) Z (cond (L (h.2.1<0)) (L (Γ Δ (x.2.1+h.2.1)>x.2.1)) J)) (cond (L (h.2.1<0)) (L (Γ Δ (x.2.1+h.2.1)>x.2.1)) J))=Z then(0,0,[])else(1,Γ Δ (x.2.1+h.2.1),[])
theorem zpJ:zJ lD.P 300 f300 2:=bG kw
theorem zsK(x h:zw):rn lD 0 (λ_=>{ }) f300 [zI ze x,zI ze h] []=br (cond (!md x h) Z (x.1!=1)) (Tr.ok (zM.ret (Qe [I 0,I 0,X []]) [])) (br (cond (L (h.2.1>0)) (cond (L (Γ Δ (x.2.1+h.2.1)<x.2.1)) Z (cond (L (h.2.1<0)) (L (Γ Δ (x.2.1+h.2.1)>x.2.1)) J)) (cond (L (h.2.1<0)) (L (Γ Δ (x.2.1+h.2.1)>x.2.1)) J)) (Tr.ok (zM.ret (Qe [I 0,I 0,X []]) [])) (Tr.ok (zM.ret (Qe [I 1,I (Γ Δ (x.2.1+h.2.1)),X []]) []))):=kw
def F44:zV:=ay [ze,ze] [ze] λx=>(xS x.1 x.2.1,())
theorem zlx:FK 300 F44:=by
 refine z7 zpJ λx C h=>?_
 refine aZ iQ zpJ (λid _=>h id) (zsK x.1 x.2.1) ?_;simp only[Q9,xS];repeat' split
 all_goals rfl
def Il(x h:zw):zw:=if(cond (!md x h) Z (x.1!=1))=Z then(0,0,[])else if(cond (L (h.2.1>0)) (cond (L (Γ Δ (x.2.1-h.2.1)>x.2.1)) Z (cond (L (h.2.1<0)) (L (Γ Δ (x.2.1-h.2.1)<x.2.1)) J)) (cond (L (h.2.1<0)) (L (Γ Δ (x.2.1-h.2.1)<x.2.1)) J))=Z then(0,0,[])else(1,Γ Δ (x.2.1-h.2.1),[])
theorem zpK:zJ lD.P 326 f326 2:=bG kw
theorem zsL(x h:zw):rn lD 0 (λ_=>{ }) f326 [zI ze x,zI ze h] []=br (cond (!md x h) Z (x.1!=1)) (Tr.ok (zM.ret (Qe [I 0,I 0,X []]) [])) (br (cond (L (h.2.1>0)) (cond (L (Γ Δ (x.2.1-h.2.1)>x.2.1)) Z (cond (L (h.2.1<0)) (L (Γ Δ (x.2.1-h.2.1)<x.2.1)) J)) (cond (L (h.2.1<0)) (L (Γ Δ (x.2.1-h.2.1)<x.2.1)) J)) (Tr.ok (zM.ret (Qe [I 0,I 0,X []]) [])) (Tr.ok (zM.ret (Qe [I 1,I (Γ Δ (x.2.1-h.2.1)),X []]) []))):=kw
def F45:zV:=ay [ze,ze] [ze] λx=>(Il x.1 x.2.1,())
theorem zly:FK 326 F45:=by
 refine z7 zpK λx C h=>?_
 refine aZ iQ zpK (λid _=>h id) (zsL x.1 x.2.1) ?_;simp only[Q9,Il];repeat' split
 all_goals rfl
def Qy(x _:zw):zw:=Tl x
theorem zpC:zJ lD.P 322 f322 2:=bG kw
theorem zsG(x h:zw):rn lD 0 (λ_=>{ }) f322 [zI ze x,zI ze h] []=Tr.ok (zM.ret (Qe [I (Tl x).1,I (Tl x).2.1,X (Tl x).2.2]) []):=kw
def F40:zV:=ay [ze,ze] [ze] λx=>(Qy x.1 x.2.1,())
theorem zlt:FK 322 F40:=by
 refine z7 zpC λx C h=>?_
 refine aZ iQ zpC (λid _=>h id) (zsG x.1 x.2.1) ?_;simp only[Q9,Qy];repeat' split
 all_goals rfl
def Im(x _:zw):zw:=qK x
theorem zpL:zJ lD.P 327 f327 2:=bG kw
theorem zsM(x h:zw):rn lD 0 (λ_=>{ }) f327 [zI ze x,zI ze h] []=Tr.ok (zM.ret (Qe [I (qK x).1,I (qK x).2.1,X (qK x).2.2]) []):=kw
def F46:zV:=ay [ze,ze] [ze] λx=>(Im x.1 x.2.1,())
theorem zlz:FK 327 F46:=by
 refine z7 zpL λx C h=>?_
 refine aZ iQ zpL (λid _=>h id) (zsM x.1 x.2.1) ?_;simp only[Q9,Im];repeat' split
 all_goals rfl
def q8:=lD.addL [(155,F60),(324,F42),(300,F44),(326,F45),(322,F40),(327,F46)]
theorem kj:zm q8:=iQ.addL<|fc zlN<|fc zlv<|fc zlx<|fc zly<|fc zlt<|fc zlz ip
def Qw(x h:zw):zw:=if(!md x h)=Z then(0,0,[])else eo (L (aV x h<0))
theorem zpH:zJ q8.P 325 f325 2:=bG kw
theorem zsJ(x h:zw):rn q8 0 (λ_=>{ }) f325 [zI ze x,zI ze h] []=br (!md x h) (Tr.ok (zM.ret (Qe [I 0,I 0,X []]) [])) (Tr.ok (zM.ret (Qe [I (eo (L (aV x h<0))).1,I (eo (L (aV x h<0))).2.1,X (eo (L (aV x h<0))).2.2]) [])):=kw
def F43:zV:=ay [ze,ze] [ze] λx=>(Qw x.1 x.2.1,())
theorem zlw:FK 325 F43:=by
 refine z7 zpH λx C h=>?_
 refine aZ kj zpH (λid _=>h id) (zsJ x.1 x.2.1) ?_;simp only[Q9,Qw];repeat' split
 all_goals rfl
def DJ(x:zw):zw:=if L ((M x.2.2:Int)>60)=Z then(x.1,x.2.1,List.take (T 60-T 0) (Qh (T 0) x.2.2))else x
def Lr(x:zw):Bool:=bif L ((M x.2.2:Int)>60)then L (0<=0)&&L (0<=60)&&L (60<=(M x.2.2:Int))else Z
theorem zpg:zJ q8.P 105 f105 1:=bG kw
theorem zsp(x:zw):rn q8 0 (λ_=>{ }) f105 [zI ze x] []=br (L ((M x.2.2:Int)>60)) (chk (L (0<=0)&&L (0<=60)&&L (60<=(M x.2.2:Int))) (Tr.ok (zM.ret (Qe [I x.1,I x.2.1,X (List.take (T 60-T 0) (Qh (T 0) x.2.2))]) []))) (Tr.ok (zM.ret (Qe [I x.1,I x.2.1,X x.2.2]) [])):=kw
def F14:zV:=ae [ze] [ze] (λx=>Lr x.1) λx=>(DJ x.1,())
theorem zck:FK 105 F14:=by
 refine aH zpg λx a C h=>?_
 refine aZ kj zpg (λid _=>h id) (zsp x.1) ?_;simp only[Lr,Bool.cond_eq_ite]at a;simp only[Q9,DJ];repeat' split
 all_goals first|rfl|simp_all
def jB(x:N Q7):N Q7:=if L ((M x:Int)>20)=Z then List.take (T 20-T 0) (Qh (T 0) x)else x
def Qk(x:N Q7):Bool:=bif L ((M x:Int)>20)then L (0<=0)&&L (0<=20)&&L (20<=(M x:Int))else Z
theorem zpd:zJ q8.P 102 f102 1:=bG kw
theorem zso(x:N Q7):rn q8 0 (λ_=>{ }) f102 [zI Q7 x] []=br (L ((M x:Int)>20)) (chk (L (0<=0)&&L (0<=20)&&L (20<=(M x:Int))) (Tr.ok (zM.ret (X (List.take (T 20-T 0) (Qh (T 0) x))) []))) (Tr.ok (zM.ret (X x) [])):=kw
def F12:zV:=ae [Q7] [Q7] (λx=>Qk x.1) λx=>(jB x.1,())
theorem zcj:FK 102 F12:=by
 refine aH zpd λx a C h=>?_
 refine aZ kj zpd (λid _=>h id) (zso x.1) ?_;simp only[Qk,Bool.cond_eq_ite]at a;simp only[Q9,jB];repeat' split
 all_goals first|rfl|simp_all
def F79:zV:=au (List.replicate 2 Q2) (eJ q8 f389 (List.replicate 2 Q2))
theorem zl1:FK 389 F79:=bM _ kj (bG kw)
def F18:zV:=au (List.replicate 2 Q2) (eJ q8 f206 (List.replicate 2 Q2))
theorem zle:FK 206 F18:=bM _ kj (bG kw)
def zcC:=q8.addL [(325,F43),(105,F14),(102,F12),(389,F79),(206,F18)]
theorem uZ:zm zcC:=kj.addL<|fc zlw<|fc zck<|fc zcj<|fc zl1<|fc zle ip
open Go
def sf:(k:List Sh)->zA (k.map Y++[Q2])->zA (k.map Y)×R
 |[],x=>((),x.1)
 |_::k,x=>((x.1,(sf k x.2).1),(sf k x.2).2)
theorem Ax:∀(k:List Sh)(x:zA (k.map Y++[Q2])),gX (k.map Y++[Q2]) x=gX (k.map Y) (sf k x).1++[(sf k x).2]
 |[],_=>rfl
 |s::k,x=>congrArg (zI s x.1::·) (Ax k x.2)
def V8(k:Nat):R->Bool
 |.clo (.func j) [] []=>j==k
 |_=>J
theorem V9{v:R}(h:V8 n v=Z):v=.clo (.func n) [] []:=by
 unfold V8 at h;split at h
 .rw[be]at h;rw[h]
 .cases h
abbrev Tt(k o:List Sh):=Nat×(zA (k.map Y)->Bool)×(zA (k.map Y)->zA (o.map Y))
def Zr{a o:List Sh}(v:R):List (Tt a o)->Option ((zA (a.map Y)->Bool)×(zA (a.map Y)->zA (o.map Y)))
 |[]=>Q2
 |(k,h)::r=>if V8 k v then Y h else Zr v r
theorem IW{e o:List Sh}{v:R}{a}:∀{l:List (Tt e o)},Zr v l=Y a->∃k,v=.clo (.func k) [] []/\(k,a)∈l
 |[],h=>by cases h
 | (k,b)::r,h=>by
  unfold Zr at h;split at h
  next d=>cases h;exact⟨k,V9 d,sy ..⟩
  .have⟨j,x,c⟩:=IW h;exact⟨j,x,og _ c⟩
def PT(k o:List Sh)(l:List (Tt k o)):ee (k.map Y++[Q2]):=λx h=>match h with
 | []=>match Zr (sf k x).2 l with
  |some (c,g)=>.chk (c (sf k x).1) (.ok (CB o (g (sf k x).1),[]))
  |none=>.err
 |_=>.err
def Xz(k o:List Sh)(l:List (Tt k o)):zV:=au (k.map Y++[Q2]) (PT k o l)
theorem LL{P:Program}{e:Nat->R}{a o:List Sh}{l:List (Tt a o)}(n:zJ E.P k f (M a+1))
  (h:∀j c g,(j,c,g)∈l->∀x,c x=Z->∀C:eS,(∀id,C.ρ0 id=Q2)->Reach E C k (aK f) (aC f.ntmps (gX (a.map Y) x++[.clo (.func j) [] []]) []) (λr h=>bc h o r=Y (g x))) (t:E.P=P:=by rfl) (s:E.gl=e:=by rfl):ky P e k (Xz a o l):=by
 subst t s;refine cP (by simpa using n) λx v u b C i=>?_
 unfold PT at b;split at b
 .split at b
  .rename_i c g d;have⟨j,q,p⟩:=IW d;simp only[Q9]at b;split at b
   next m=>simp only[ax]at b;subst b;rw[Ax,q];exact Reach.plain (λid=>i id (by simp)) (h j c g p _ m C (λid=>i id (by simp)))
   .simp at b
  .simp at b
 .simp at b
end
end Cad
