/- Words, names, runs of octets. -/
import Derived.Test.YtjdjldbhjmgmkaaGreatDoorN07
import Derived.StillTailTactics
import Derived.RangeFuncNested
import Derived.RangeFuncBound
import Derived.OwnWalkIn
import Derived.TacticsInMore
import Derived.LoopNIn
import Derived.LoopIn
import Derived.Maps.AppendAt
namespace Cad
open Go Go.Proofs Tryz
open List renaming length->N
open IntKind renaming wrap->Γ,i64->Δ
open AV renaming agg->Qd
open Tr renaming val->Q8
open Sh renaming bool->Q7,str->Q6
open Bool renaming true->Z,false->M
open Option renaming none->Q2,some->Y
open Decidable renaming decide->K
open Tr (chk br)
open AV (nils agg tup ptr kb str)
open AV renaming str->X,sl->O
open Cad renaming ai->J,ow->S,Sem->L,ze->R
noncomputable section
def swT{β:Type}(l:β->zU)(s:zN):List (zN×β)->β->Tr zU
 |[],d=>.ok (l d)
 |(w,b)::r,d=>.br (s==w) (.ok (l b)) (swT l s r d)
def U9{β:Type}(s:zN):List (zN×β)->β->β
 |[],d=>d
 |(w,b)::r,d=>if s==w then b else U9 s r d
theorem MK{β:Type}{x:β->zU}{s:zN}{d:β}{Φ:zU->Prop}:∀(l:List (zN×β)),Φ (x (U9 s l d))->(swT x s l d).Sat Φ
 |[],h=>h
 | (w,b)::r,h=>by
  refine⟨λa=>?_,λa=>MK r ?_⟩
  .simp only[U9]at h;rw[zf a]at h;exact h
  grind[U9]
def Hv:List (zN×Bool):=[(Yp,Z),([79,82],Z),([78,79,84],Z),([73,83],Z),(HH,Z),(KL,Z),(KK,Z),(zer,Z),(zeD,Z),(Eg,Z),(Eh,Z),(Ee,Z),([75,69,89],Z),([85,78,73,81,85,69],Z),(zsN,Z),(je,Z),(zev,Z),(zex,Z),(zey,Z),(zeF,Z),(zeE,Z),([83,69,84],Z),(nc,Z),(zet,Z),(wR,Z),(zeC,Z),(zew,Z),(VU,Z),([87,82,73,84,69],Z),(HI,Z),([84,79],Z),(zeA,Z),(zez,Z),(VR,Z),(VT,Z),(VS,Z),(HG,Z),(HJ,Z)]
def Cd:List (zN×Int):=[(pI,0),(fh,0),(oH,1),(qM,1),(jf,2),(wS,2),([61],2),([60],2),([43],2),([45],2)]
def kh(s:zN):Bool:=U9 s Hv M
def dU(s:zN):Int:=U9 s Cd (-1)
def aE(c:Int):Bool:=bif K (c>=48)then K (c<=57)else M
def bq(c:Int):Bool:=bif K (c>=97)then
  bif K (c<=122)then Z else bif K (c>=65)then K (c<=90)else M
 else bif K (c>=65)then K (c<=90)else M
def cB(c:Int):Bool:=bif bq c then Z else bif aE c then Z else c==95
def vR:cy:=(((ztg.aut 308 f308 1).aut 309 f309 1).aut 307 f307 1).aut 269 f269 0
theorem oM:zx vR:=by refine jl (jl (jl (jl Za ?_) ?_) ?_) ?_<;>(refine⟨?_,?_,?_,?_⟩<;>kernel_rfl)
theorem zyr(s:zN):run vR 0 (λ_=>{}) f174.results.toList 400 (bv f174) (bl f174.ntmps [.str s] [])=swT (λb=>.ret (.kb b) []) s Hv M:=kw
theorem zvH:aa vR.P 174 f174 1:=cM kw
theorem zrx:FK 174 (wm [.str] [.bool] λx=>Y (kh x.1,())):=by
 refine yZ zvH λx y a C h=>?_
 cases a;refine ek (n0:=0) oM zvH (λid _=>h id) (λ_=>{}) 400 ?_;have e:jj ([Q6].map Y) x=[.str x.1]:=rfl;rw[e,zyr];exact MK Hv rfl
theorem zyO(s:zN):run vR 0 (λ_=>{}) f272.results.toList 400 (bv f272) (bl f272.ntmps [.str s] [])=swT (λb=>.ret (.int .i64 b) []) s Cd (-1):=kw
theorem zvZ:aa vR.P 272 f272 1:=cM kw
theorem zrV:FK 272 (wm [.str] [zk] λx=>Y (dU x.1,())):=by
 refine yZ zvZ λx y a C h=>?_
 cases a;refine ek (n0:=0) oM zvZ (λid _=>h id) (λ_=>{}) 400 ?_;have e:jj ([Q6].map Y) x=[.str x.1]:=rfl;rw[e,zyO];exact MK Cd rfl
def dR(p:Int->Bool):zN->Nat
 |[]=>0
 |c::r=>if p c.toNat then dR p r+1 else 0
def bJ(f m:Int->Bool):zN->Nat
 |[]=>0
 |c::r=>if f c.toNat then dR m r+1 else 0
variable {E:cy}{C:eU}{t:List Item}{s:St}{Q:AV->List AO->Prop}
theorem Reach.strLen{fn:FuncId}(j:Nat)(x:zN)(e:s.tmps[j]?=Y (.str x))(h:N x<=aF->Reach E C fn t s Q):Reach E C fn t s Q:=by
 intro b g a w U m i k c l;refine h ?_ b g a w U m i k c l;have d:j<a.tmps.toList.length:=by rw[<-c.tm.len];exact(dF.1 e).1
 have:=c.tm.rv j _ _ e (aj d);generalize a.tmps.toList[j]=v at this;cases this with
 |str _ h=>exact h
abbrev OM:Nat->aY:=λ_=>{slots:=[1,2,5]}
abbrev SK(a b c d:AV)(s:zN)(n:Int):St:={
 tmps:=(tm 31 [(1,X s),(2,ptr 0 0),(5,J n)]),
 heap:=[AO.box [a,b,c,d]]}
abbrev zo9(a b c d:AV)(p:Int->Bool)(s:zN)(n:Int):Tr zU:=
 chk (cond (K (n<↑(N s))) (zK n (N s)) Z)
  (br (cond (K (n<↑(N s))) (p ↑(List.getD s n.toNat 0).toNat) M)
   (Tr.ok (zU.head 4 (aq f270 4) (SK a b c d s (Γ Δ (n+1)))))
   (Tr.ok (zU.ret (J n) [])))
theorem zfL:aa vR.P 270 f270 2:=cM kw
theorem zmo{C:eU}(g:∀id,0<=id->C.ρ0 id=Q2)(a b c d:AV)(p:Int->Bool)(s:zN)
  (e:∀n,run vR 0 OM f270.results.toList 300 (aq f270 4) (SK a b c d s n)=zo9 a b c d p s n) (m:N s<=aF):∀(k i:Nat),N s-i=k->i<=N s->
  Reach vR C 270 (aq f270 4) (SK a b c d s i) (λr h=>(r,h)=(.int .i64 ((i+dR p (s.drop i):Nat):Int),[]))
 | k,i,l,o=>by
  subst l;refine ek oM zfL g OM 300 ?_;rw[e];refine⟨?_,λh=>?_,λh=>?_⟩
  .grind[zK]
  .have x:i<N s:=by
    by_cases x:i<N s
    .exact x
    .simp_all
   have j:K ((i:Int)<N s)=Z:=by simpa using x
   rw[j,dq s _ x,aG]at h;rw[gF x];simp only[dR];rw[zf h,zt i S,show i+(dR p (List.drop (i+1) s)+1)=(i+1)+dR p (List.drop (i+1) s) by omega];exact zmo g a b c d p s e m (N s-(i+1)) (i+1) rfl S
  .have:dR p (s.drop i)=0:=by
    by_cases x:i<N s
    .grind[List.drop_eq_getElem_cons,dR]
    .rw[Ij S];rfl
   rw[this];rfl
 termination_by k=>k
theorem zwn(s:zN)(n:Int):run vR 0 OM f270.results.toList 300 (aq f270 4) (SK (J 1) (J 16) (AV.clo (Fn.func 308) [] []) (AV.clo (Fn.func 307) [] []) s n)=zo9 (J 1) (J 16) (AV.clo (Fn.func 308) [] []) (AV.clo (Fn.func 307) [] []) cB s n:=kw
theorem ztx(s:zN):run vR 0 OM f270.results.toList 300 (bv f270) (bl f270.ntmps [.agg [(J 1),(J 16),(AV.clo (Fn.func 308) [] []),(AV.clo (Fn.func 307) [] [])],.str s] [])=
 chk (cond (s==[]) Z (zK 0 (N s)))
  (br (cond (s==[]) Z (!bq ↑(List.getD s (Int.toNat 0) 0).toNat)) (Tr.ok (zU.ret (J 0) []))
   (Tr.ok (zU.head 4 (aq f270 4) (SK (J 1) (J 16) (AV.clo (Fn.func 308) [] []) (AV.clo (Fn.func 307) [] []) s 1)))):=kw
theorem zml(a:∀id,0<=id->C.ρ0 id=Q2)(s:zN)(b:N s<=aF):Reach vR C 270 (bv f270) (bl f270.ntmps [.agg [(J 1),(J 16),(AV.clo (Fn.func 308) [] []),(AV.clo (Fn.func 307) [] [])],.str s] []) (λr h=>(r,h)=(.int .i64 (bJ bq cB s:Nat),[])):=by
 refine ek (n0:=0) oM zfL a OM 300 ?_;rw[ztx];cases s with
 |nil=>exact⟨rfl,λ_=>rfl,λh=>by cases h⟩
 | cons c r=>
  refine⟨by simp[zK],λh=>?_,λh=>?_⟩
  .have x:bq ↑c.toNat=M:=by simpa using h
   simp only[bJ,x];rfl
  .have x:bq ↑c.toNat=Z:=by simpa using h
   have:=zmo a (J 1) (J 16) (AV.clo (Fn.func 308) [] []) (AV.clo (Fn.func 307) [] []) cB (c::r) (zwn (c::r)) b _ 1 rfl sw;simp only[bJ,x,zi];rw[show 1+dR cB ((c::r).drop 1)=dR cB r+1 by simp[kY]]at this;exact this
theorem zwo(s:zN)(n:Int):run vR 0 OM f270.results.toList 300 (aq f270 4) (SK (J 2) (J 19) (AV.clo (Fn.func 309) [] []) (AV.clo (Fn.func 309) [] []) s n)=zo9 (J 2) (J 19) (AV.clo (Fn.func 309) [] []) (AV.clo (Fn.func 309) [] []) aE s n:=kw
theorem zty(s:zN):run vR 0 OM f270.results.toList 300 (bv f270) (bl f270.ntmps [.agg [(J 2),(J 19),(AV.clo (Fn.func 309) [] []),(AV.clo (Fn.func 309) [] [])],.str s] [])=
 chk (cond (s==[]) Z (zK 0 (N s)))
  (br (cond (s==[]) Z (!aE ↑(List.getD s (Int.toNat 0) 0).toNat)) (Tr.ok (zU.ret (J 0) []))
   (Tr.ok (zU.head 4 (aq f270 4) (SK (J 2) (J 19) (AV.clo (Fn.func 309) [] []) (AV.clo (Fn.func 309) [] []) s 1)))):=kw
theorem zmm(a:∀id,0<=id->C.ρ0 id=Q2)(s:zN)(b:N s<=aF):Reach vR C 270 (bv f270) (bl f270.ntmps [.agg [(J 2),(J 19),(AV.clo (Fn.func 309) [] []),(AV.clo (Fn.func 309) [] [])],.str s] []) (λr h=>(r,h)=(.int .i64 (bJ aE aE s:Nat),[])):=by
 refine ek (n0:=0) oM zfL a OM 300 ?_;rw[zty];cases s with
 |nil=>exact⟨rfl,λ_=>rfl,λh=>by cases h⟩
 | cons c r=>
  refine⟨by simp[zK],λh=>?_,λh=>?_⟩
  .have x:aE ↑c.toNat=M:=by simpa using h
   simp only[bJ,x];rfl
  .have x:aE ↑c.toNat=Z:=by simpa using h
   have:=zmo a (J 2) (J 19) (AV.clo (Fn.func 309) [] []) (AV.clo (Fn.func 309) [] []) aE (c::r) (zwo (c::r)) b _ 1 rfl sw;simp only[bJ,x,zi];rw[show 1+dR aE ((c::r).drop 1)=dR aE r+1 by simp[kY]]at this;exact this
def G65:fA [Q2,Y .str]:=λx h=>match x,h with
 |(.agg [.int .i64 1,.int .i64 16,.clo (.func 308) [] [],.clo (.func 307) [] []],s,_),[]=>.ok (.int .i64 (bJ bq cB s:Nat),[])
 |(.agg [.int .i64 2,.int .i64 19,.clo (.func 309) [] [],.clo (.func 309) [] []],s,_),[]=>.ok (.int .i64 (bJ aE aE s:Nat),[])
 |_,_=>.err
theorem zr4:FK 270 (bj [Q2,Y .str] G65):=by
 refine dA zfL λx d c h C b=>?_
 unfold G65 at h;split at h
 .simp only[Tr.val_ok,bH]at h;subst h;rename_i _ _ s u;have e:jj [Q2,Y Q6] (Qd [(J 1),(J 16),(AV.clo (Fn.func 308) [] []),(AV.clo (Fn.func 307) [] [])],s,u)=[Qd [(J 1),(J 16),(AV.clo (Fn.func 308) [] []),(AV.clo (Fn.func 307) [] [])],.str s]:=rfl;rw[e];exact Reach.strLen 1 s rfl λa=>zml b s a
 .simp only[Tr.val_ok,bH]at h;subst h;rename_i _ _ s u;have e:jj [Q2,Y Q6] (Qd [(J 2),(J 19),(AV.clo (Fn.func 309) [] []),(AV.clo (Fn.func 309) [] [])],s,u)=[Qd [(J 2),(J 19),(AV.clo (Fn.func 309) [] []),(AV.clo (Fn.func 309) [] [])],.str s]:=rfl;rw[e];exact Reach.strLen 1 s rfl λa=>zmm b s a
 .simp at h
abbrev ly:Sh:=.pr (.int .i64) .str
abbrev dC:=L ly
def zeU:cy:=((vR.add 174 (wm [.str] [.bool] λx=>Y (kh x.1,()))).add 272 (wm [.str] [zk] λx=>Y (dU x.1,()))).add 270 (bj [Q2,Y .str] G65)
theorem N4:zx zeU:=((oM.add zrx).add zrV).add zr4
def sS(s:zN):Bool:=bif K ((N s:Int)>=1)then
  bif K ((N s:Int)<=16)then(bJ bq cB s:Int)==↑(N s)else M
 else M
def g49(x:zH ([ly].map Y)):Option (zH ([Q7].map Y)):=if x.1.1=1 then Y (sS x.1.2,())else Q2
theorem zyK(s:zN):(run zeU 0 unr f225.results.toList 400 (bv f225) (bl f225.ntmps [.agg [.int .i64 1,.str s]] [])).val=Y (.ret (.bool (sS s)) []):=kw
theorem zvW:aa zeU.P 225 f225 1:=cM kw
theorem zrQ:FK 225 (wm [ly] [.bool] g49):=by
 refine yZ zvW λx y h C b=>?_
 have⟨⟨k,s⟩,u⟩:=x;unfold g49 at h;split at h
 next c=>have a:k=1:=c;subst a;cases h;have e:jj ([ly].map Y) (((1,s),u):zH ([ly].map Y))=[.agg [.int .i64 1,.str s]]:=rfl;rw[e];exact pm (n0:=0) N4 zvW (λid _=>b id) (zyK s) rfl
 .cases h
def zth:cy:=zeU.add 225 (wm [ly] [.bool] g49)
theorem Ze:zx zth:=N4.add zrQ
def zti:cy:=zth.aut 173 f173 1
theorem Zf:zx zti:=jl Ze (cM kw)
def Wm:cy:=zti.aut 107 f107 1
theorem N6:zx Wm:=jl Zf (cM kw)
open Go Go.Proofs Go.RowKit Go.Lib
variable {w b:World}
theorem lz.below(h:Below w.heap.size w b):lz w b:=
 ⟨h.size,h.os,h.output,h.tape,λa x=>BF (h.block a.block x)⟩
variable {v:Value}
theorem fG{U:Nat->Prop}{r:AV}{l:List AO}{a:Nat->Option Value}(e:fC C w U a (λj=>l.getD j .dead))(k:∀id,N l<=id->a id=Q2)
  (n:∀id v,C.ρ0 id=Y v->a id=Y v) (d:Wd E.gl C w U) (i:Below w.heap.size w b) (q:Rv b U a r v):VG E C (λt h=>(t,h)=(r,l)) (.returned v) b:=by
 have m:∀x,x<w.heap.size->b.heap[x]?=w.heap[x]?:=i.block;refine⟨v,r,l,U,a,rfl,rfl,q,⟨λid=>?_,e.inj,e.blk⟩,k,n,⟨d.ext.trans (lz.below i),λx c p=>?_,λx s=>ie (d.ub x s) i.size,d.u1,d.u2,λg=>?_⟩⟩
 .exact(e.ob id).mono i.size (λx c _=>m x c) (λ_ _ h=>h) (λ_ _ h=>h) (λx o=>⟨m x ((e.ob id).inU o).2,((e.ob id).inU o).1⟩)
 .rw[m x (ie c d.ext.sz)];exact d.same x c p
 .exact(d.gl g).mono i.size (λx c _=>m x c) (λ_ _ h=>h) (λ_ _ h=>h)
def zmQ:cy:=Wm.aut 98 f98 1
theorem zvK:aa Wm.P 98 f98 1:=cM kw
theorem Zg:zx zmQ:=jl N6 zvK
def FV(c:Int):Bool:=bif K (c<32)then Z else K (c>126)
theorem zyx(c:Int):((bj (List.replicate 1 Q2) (ff Wm f98 (List.replicate 1 Q2))) [.int .i32 c] (λ_=>.dead) 0).val=Y {val:=.bool (FV c)}:=kw
theorem zoL(w:World)(U:Nat->Prop)(n:DP Wm.gl w U)(o:∀b,U b->b<w.heap.size):PredGrows prog 98 #[] (λr=>FV r) w:=by
 intro a x t l;have p:FK 98 (bj (List.replicate 1 Q2) (ff Wm f98 (List.replicate 1 Q2))):=cr _ N6 zvK;have q:dn a U (λ_=>Q2) [.int .i32 (x:Int)] [.int .i32 (x:Int)]:=by
  refine⟨rfl,λj c v m k=>?_⟩;cases j with
  | zero=>
   simp at m k;subst m;subst k;refine .int _ _ ⟨?_,?_⟩
   .show(-2147483648:Int)<=x;omega
   .show(x:Int)<=2147483647;omega
  |succ j=>simp at m
 have:=(p.calls a U (λ_=>Q2) (λ_=>.dead) 0 [.int .i32 (x:Int)] [.int .i32 (x:Int)] _ [] (zyx x) q (λb i=>ie (o b i) l.size) (λg=>(n g).mono l.size (λb i _=>l.block b i) (λ_ _ h=>h) (λ_ _ h=>h)) ⟨sw,sw⟩ (by simp[AV.idsL,AV.ids]) sw sw).1;refine this.mono ?_;rintro e u ⟨v,s,y,rfl,d⟩;have k:=d.val;cases k;exact⟨rfl,⟨d.ext.os,d.ext.tape,d.ext.out,d.ext.sz,λb i=>d.same b i sw⟩⟩
def r8(s:zN):Int:=Lib.idxFunc (λr=>FV r) Z ⟨s.toArray⟩
def G36:fA [Y .str,Q2]:=λx h=>match x,h with
 |(s,.clo (.func 98) [] [],_),[]=>.ok (.int .i64 (r8 s),[])
 |_,_=>.err
theorem zyd:Go.Proofs.Enters prog 98:=by
  cases h:f98.body with
  | none => have:f98.body.isNone=false:=by kernel_rfl
            rw[h]at this;cases this
  |some c=>exact Go.Proofs.enters_of (fn:=f98) kw kw h
theorem zrD:FK 99 (bj [Y .str,Q2] G36):=by
 refine fU (E:=zmQ) ⟨f99,kw,kw,kw⟩ λx F y c=>?_
 unfold G36 at c;split at c
 .rename_i s u;simp only[Tr.val_ok,bH]at c;subst c;intro C w U ρ v _ a n h j d;have t:=a.len
  match v,t,a with
  | [z,A],_,a=>
   have l:=a.rv 0 (.str s) z rfl rfl;have m:=a.rv 1 (.clo (.func 98) [] []) A rfl rfl;cases l with
   |str _ H=>
   cases m with
   |clo _ _ _ D B q p _ _=>
   have i:D=[]:=DY q.symm;have g:B=[]:=DY p.symm;subst i;subst g;have:=Tryz.strings_IndexFunc_grows 98 #[] zyd (λr=>FV r) ⟨s.toArray⟩ w (zoL w U d.gl d.ub);refine this.mono ?_;rintro e P ⟨rfl,o⟩;refine fG n h j d o (.int _ _ ?_);have b:=Lib.idxFunc_range (λr=>FV r) Z ⟨s.toArray⟩;have k:(⟨s.toArray⟩:ByteArray).size=N s:=by simp[ByteArray.size]
   have G:aF=9223372036854775807:=rfl;rw[k]at b;change r8 s=-1\/(0<=r8 s/\r8 s<N s)at b;refine⟨?_,?_⟩
   .show(-9223372036854775808:Int)<=_;omega
   .show _<=(9223372036854775807:Int);omega
 .simp at c
def xf:cy:=zmQ.add 99 (bj [Y .str,Q2] G36)
theorem lP:zx xf:=Zg.add zrD
abbrev TS:=L Q6
abbrev LX:=List (L Sh.expr)
abbrev LC:=aZ
abbrev LS:=List (L Q6)
abbrev LV:=zr
abbrev LI:=ea
abbrev LF:=dK
abbrev V:=zo
def bg(x:zo):L Q7:=if(x.1==0)=Z then if(x.2.1!=0)=Z then M else x.2.2==[]else if(x.1==1)=Z then x.2.2==[]else if(x.1==2)=Z then bif x.2.1==0 then bif K ((N x.2.2:Int)<=40)then K (r8 x.2.2<0)else M else M else if(x.1==3)=Z then bif x.2.1==0 then x.2.2==[]else bif x.2.1==1 then x.2.2==[]else M else M
theorem zvD:aa xf.P 39 f39 1:=cM kw
theorem zyn(x:zo):rn xf 0 (λ_=>{ }) f39 [zX R x] []=br (x.1==0) (br (x.2.1!=0) (Tr.ok (zU.ret (kb M) [])) (Tr.ok (zU.ret (AV.bool (x.2.2==[])) []))) (br (x.1==1) (Tr.ok (zU.ret (AV.bool (x.2.2==[])) [])) (br (x.1==2) (Tr.ok (zU.ret (AV.bool (cond (x.2.1==0) (cond (K ((N x.2.2:Int)<=40)) (K (r8 x.2.2<0)) M) M)) [])) (br (x.1==3) (Tr.ok (zU.ret (AV.bool (cond (x.2.1==0) (x.2.2==[]) (cond (x.2.1==1) (x.2.2==[]) M))) [])) (Tr.ok (zU.ret (kb M) []))))):=kw
def F21:ak:=ba [R] [Q7] λx=>(bg x.1,())
theorem zrt:FK 39 F21:=by
 refine az zvD λx C h=>?_
 refine bB lP zvD (λid _=>h id) (zyn x.1) ?_;simp only[Q8,bg];repeat' split
 all_goals rfl
def bx(x:zy):zo:=if(x==0)=Z then(0,0,[])else(3,Γ Δ (x-1),[])
theorem zv1:aa xf.P 274 f274 1:=cM kw
theorem zyQ(x:zy):rn xf 0 (λ_=>{ }) f274 [zX zk x] []=br (x==0) (Tr.ok (zU.ret (Qd [J 0,J 0,X []]) [])) (Tr.ok (zU.ret (Qd [J 3,J (Γ Δ (x-1)),X []]) [])):=kw
def F57:ak:=ba [zk] [R] λx=>(bx x.1,())
theorem zrX:FK 274 F57:=by
 refine az zv1 λx C h=>?_
 refine bB lP zv1 (λid _=>h id) (zyQ x.1) ?_;simp only[Q8,bx];repeat' split
 all_goals rfl
def zps:ak:=bj (List.replicate 1 Q2) (ff xf f182 (List.replicate 1 Q2))
theorem zj7:FK 182 zps:=cr _ lP (cM kw)
def zpt:ak:=bj (List.replicate 1 Q2) (ff xf f183 (List.replicate 1 Q2))
theorem zj8:FK 183 zpt:=cr _ lP (cM kw)
def zpu:ak:=bj (List.replicate 1 Q2) (ff xf f184 (List.replicate 1 Q2))
theorem zj9:FK 184 zpu:=cr _ lP (cM kw)
def nv:=xf.addL [(39,F21),(274,F57),(182,zps),(183,zpt),(184,zpu)]
theorem jT:zx nv:=lP.addL<|fc zrt<|fc zrX<|fc zj7<|fc zj8<|fc zj9 iP
def ah(x:zo):zo:=if(!bg x)=Z then(0,0,[])else x
theorem zv5:aa nv.P 112 f112 1:=cM kw
theorem zyU(x:zo):rn nv 0 (λ_=>{ }) f112 [zX R x] []=br (!bg x) (Tr.ok (zU.ret (Qd [J 0,J 0,X []]) [])) (Tr.ok (zU.ret (Qd [J x.1,J x.2.1,X x.2.2]) [])):=kw
def F61:ak:=ba [R] [R] λx=>(ah x.1,())
theorem zr2:FK 112 F61:=by
 refine az zv5 λx C h=>?_
 refine bB jT zv5 (λid _=>h id) (zyU x.1) ?_;simp only[Q8,ah];repeat' split
 all_goals rfl
def eR(x:zo):zy:=if(cond (x.1!=3) Z (!bg x))=Z then 0 else Γ Δ (1+x.2.1)
theorem zv0:aa nv.P 273 f273 1:=cM kw
theorem zyP(x:zo):rn nv 0 (λ_=>{ }) f273 [zX R x] []=br (cond (x.1!=3) Z (!bg x)) (Tr.ok (zU.ret (J 0) [])) (Tr.ok (zU.ret (J (Γ Δ (1+x.2.1))) [])):=kw
def F56:ak:=ba [R] [zk] λx=>(eR x.1,())
theorem zrW:FK 273 F56:=by
 refine az zv0 λx C h=>?_
 refine bB jT zv0 (λid _=>h id) (zyP x.1) ?_;simp only[Q8,eR];repeat' split
 all_goals rfl
def ec(x:L Q7):zo:=if x=Z then bx 2 else bx 1
theorem zv3:aa nv.P 275 f275 1:=cM kw
theorem zyS(x:L Q7):rn nv 0 (λ_=>{ }) f275 [zX Q7 x] []=br x (Tr.ok (zU.ret (Qd [J (bx 2).1,J (bx 2).2.1,X (bx 2).2.2]) [])) (Tr.ok (zU.ret (Qd [J (bx 1).1,J (bx 1).2.1,X (bx 1).2.2]) [])):=kw
def F59:ak:=ba [Q7] [R] λx=>(ec x.1,())
theorem zrZ:FK 275 F59:=by
 refine az zv3 λx C h=>?_
 refine bB jT zv3 (λid _=>h id) (zyS x.1) ?_;simp only[Q8,ec];repeat' split
 all_goals rfl
def rF(h x:zy):zy:=if(h !=h)=Z then if(x !=x)=Z then 0 else -1 else if(x !=x)=Z then 1 else if K (h<x)=Z then -1 else if K (h>x)=Z then 1 else 0
theorem zv7:aa nv.P 114 f114 2:=cM kw
theorem zyY(h x:zy):rn nv 0 (λ_=>{ }) f114 [zX zk h,zX zk x] []=br (h !=h) (br (x !=x) (Tr.ok (zU.ret (J 0) [])) (Tr.ok (zU.ret (J (-1)) []))) (br (x !=x) (Tr.ok (zU.ret (J 1) [])) (br (K (h<x)) (Tr.ok (zU.ret (J (-1)) [])) (br (K (h>x)) (Tr.ok (zU.ret (J 1) [])) (Tr.ok (zU.ret (J 0) []))))):=kw
def F71:ak:=ba [zk,zk] [zk] λx=>(rF x.1 x.2.1,())
theorem zsb:FK 114 F71:=by
 refine az zv7 λx C h=>?_
 refine bB jT zv7 (λid _=>h id) (zyY x.1 x.2.1) ?_;simp only[Q8,rF];repeat' split
 all_goals rfl
def kH(h x:zy):zy:=if(h !=h)=Z then if(x !=x)=Z then 0 else -1 else if(x !=x)=Z then 1 else if K (h<x)=Z then -1 else if K (h>x)=Z then 1 else 0
theorem zv8:aa nv.P 115 f115 2:=cM kw
theorem zyZ(h x:zy):rn nv 0 (λ_=>{ }) f115 [zX zk h,zX zk x] []=br (h !=h) (br (x !=x) (Tr.ok (zU.ret (J 0) [])) (Tr.ok (zU.ret (J (-1)) []))) (br (x !=x) (Tr.ok (zU.ret (J 1) [])) (br (K (h<x)) (Tr.ok (zU.ret (J (-1)) [])) (br (K (h>x)) (Tr.ok (zU.ret (J 1) [])) (Tr.ok (zU.ret (J 0) []))))):=kw
def F72:ak:=ba [zk,zk] [zk] λx=>(kH x.1 x.2.1,())
theorem zsc:FK 115 F72:=by
 refine az zv8 λx C h=>?_
 refine bB jT zv8 (λid _=>h id) (zyZ x.1 x.2.1) ?_;simp only[Q8,kH];repeat' split
 all_goals rfl
def oI(h x:L Q6):zy:=if(!h==h)=Z then if(!x==x)=Z then 0 else -1 else if(!x==x)=Z then 1 else if Op.bytesLess h x=Z then -1 else if(!(Op.bytesLess h x||h==x))=Z then 1 else 0
theorem zv9:aa nv.P 116 f116 2:=cM kw
theorem zy0(h x:L Q6):rn nv 0 (λ_=>{ }) f116 [zX Q6 h,zX Q6 x] []=br (!h==h) (br (!x==x) (Tr.ok (zU.ret (J 0) [])) (Tr.ok (zU.ret (J (-1)) []))) (br (!x==x) (Tr.ok (zU.ret (J 1) [])) (br (Op.bytesLess h x) (Tr.ok (zU.ret (J (-1)) [])) (br (!(Op.bytesLess h x||h==x)) (Tr.ok (zU.ret (J 1) [])) (Tr.ok (zU.ret (J 0) []))))):=kw
def F73:ak:=ba [Q6,Q6] [zk] λx=>(oI x.1 x.2.1,())
theorem zsd:FK 116 F73:=by
 refine az zv9 λx C h=>?_
 refine bB jT zv9 (λid _=>h id) (zy0 x.1 x.2.1) ?_;simp only[Q8,oI];repeat' split
 all_goals rfl
def ls:=nv.addL [(112,F61),(273,F56),(275,F59),(114,F71),(115,F72),(116,F73)]
theorem fW:zx ls:=jT.addL<|fc zr2<|fc zrW<|fc zrZ<|fc zsb<|fc zsc<|fc zsd iP
variable {k:FuncId}{n:Nat}{keep:Nat->aY}{x:Tr zU}
theorem GK{f:Func}{n0:Nat}(b:zx E)(c:aa E.P k f n)(a:∀id,n0<=id->C.ρ0 id=Q2){m:Nat}
     {l:zU} (e:run E n0 keep f.results.toList m t s=x) (h:x.val=Y l) (d:kW E C k Q l):Reach E C k t s Q:=
 ek b c a keep m (by rw[e];exact Tr.sat_of_val h d)
def iy{α:Type}(Φ:α->Prop):Option α->Prop
 |some a=>Φ a
 |none=>False
theorem zL{f:Func}{n0:Nat}(c:zx E)(d:aa E.P k f n)(b:∀id,n0<=id->C.ρ0 id=Q2){m:Nat}
     (e:run E n0 keep f.results.toList m t s=x) (h:iy (kW E C k Q) x.val):Reach E C k t s Q:=by
 cases a:x.val with
 |none=>rw[a]at h;exact h.elim
 |some l=>rw[a]at h;exact GK c d b e a h
def Ok{α β R:Type}(f:β->Nat->α->β⊕R)(h:β->R):List α->Nat->β->R
 |[],_,b=>h b
 | x::r,i,b=>match f b i x with
  |.inl a=>Ok f h r (i+1) a
  |.inr y=>y
def zdZ{E:cy}{C:eU}{k:FuncId}{K:List Item}{β R:Type}(s:β->Nat->St)(Q:R->AV->List AO->Prop)(b:β)(i:Nat):β⊕R->Prop
 |.inl h=>∀q,Reach E C k K (s h (i+1)) q->Reach E C k K (s b i) q
 |.inr y=>Reach E C k K (s b i) (Q y)
theorem GL{E:cy}{C:eU}{k:FuncId}{K:List Item}{α β R:Type}(l:List α)(s:β->Nat->St)(f:β->Nat->α->β⊕R)(c:β->R)(Q:R->AV->List AO->Prop)(h:β->Nat->Prop)
  (x:∀b i(o:i<N l),h b i->zdZ (E:=E) (C:=C) (k:=k) (K:=K) s Q b i (f b i l[i])/\∀d,f b i l[i]=.inl d->h d (i+1))
  (a:∀b,h b (N l)->Reach E C k K (s b (N l)) (Q (c b))):∀(m i:Nat)(b:β),N l-i=m->i<=N l->h b i->Reach E C k K (s b i) (Q (Ok f c (l.drop i) i b))
 | 0,i,b,q,o,j=>by
  have:i=N l:=by omega
  subst this;rw[kE];exact a b j
 | m+1,i,b,q,o,j=>by
  have e:i<N l:=by omega
  rw[gF e];have⟨g,p⟩:=x b i e j;simp only[Ok];cases n:f b i l[i]with
  | inl d=>
   rw[n]at g;exact g _ (GL l s f c Q h x a m (i+1) d S S (p d n))
  | inr y=>
   rw[n]at g;exact g
theorem zM{i:Nat}(h:i<n):K ((i:Int)<(n:Int))=Z:=by simpa using h
theorem zJ(n:Nat):K ((n:Int)<(n:Int))=M:=by simp
theorem zu{i:Nat}(h:i<n):zK (i:Int) n=Z:=by simp[zK,h]
def HW:List Int->Int
 |[]=>0
 |x::r=>if x !=0 then x else HW r
abbrev zu5:Nat->aY:=λj=>if j=3 then{slots:=[3,6,7,8]}else{ }
abbrev UZ(i:Int)(l:ea)(h x:Int):St:={tmps:=(tm 18 [(3,J i),(6,O (Sh.int IntKind.i64) l),(7,J h),(8,J x)]),heap:=[]}
theorem zaX:aa ls.P 113 f113 1:=cM kw
theorem zyX(k:ea):rn ls 0 zu5 f113 [O zk k] []=Tr.ok (zU.head 3 (aq f113 3) (UZ 0 k (↑k.length) 0)):=kw
theorem R5(h:Int)(l:ea)(x i:Int):rh ls 0 zu5 f113 3 (UZ h l x i)=br (K (i<x)) (chk (zK i (N l)) (br (l.getD i.toNat (zj (Sh.int IntKind.i64))!=h) (Tr.ok (zU.ret (J (l.getD i.toNat (zj (Sh.int IntKind.i64)))) [])) (Tr.ok (zU.head 3 (aq f113 3) (UZ h l x (Γ Δ (i+1))))))) (Tr.ok (zU.ret (J h) [])):=kw
def f70:Unit->Nat->Int->Unit⊕Int:=λ_ _ x=>if x !=0 then .inr x else .inl ()
theorem ZC:∀(l:List Int)(i:Nat),Ok f70 (λ_=>0) l i ()=HW l
 |[],_=>rfl
 | x::r,i=>by
  simp only[Ok,f70,HW];split
  next h=>split at h<;>simp_all[ZC r (i+1)]
  next h=>split at h<;>simp_all
def F70:ak:=ba [.sl zk] [zk] λx=>(HW x.1,())
theorem zsa:FK 113 F70:=by
 refine az zaX λx C c=>?_
 have⟨l,u⟩:=x;refine Reach.len 0 zk l rfl λe=>?_
 refine GK fW zaX (λid _=>c id) (zyX l) rfl ?_
 have:=GL (E:=ls) (C:=C) (k:=113) (K:=aq f113 3) l (λ(_:Unit) i=>UZ 0 l (N l) i) f70 (λ_=>(0:Int)) (λy r h=>aX h [zk] r=Y (y,())) (λ_ _=>True)
  (λb i a _=>⟨by
   unfold f70;split
   next h=>refine zL fW zaX (λid _=>c id) (R5 _ _ _ _) ?_;simp only[Q8,zM a,zu a,dq l _ a,h,zi];rfl
   next h=>intro q d;refine zL fW zaX (λid _=>c id) (R5 _ _ _ _) ?_;simp only[Q8,zM a,zu a,dq l _ a,h,zi,zt i S];exact d,λ_ _=>trivial⟩)
  (λb _=>by
   refine zL fW zaX (λid _=>c id) (R5 _ _ _ _) ?_;simp only[Q8,zJ];rfl) _ 0 () rfl S trivial
 rw[ZC]at this;exact this
def fL(x h:zo):L Q7:=bif (ah x).1!=0 then(ah x).1==(ah h).1 else M
theorem zv2:aa ls.P 222 f222 2:=cM kw
theorem zyR(x h:zo):rn ls 0 (λ_=>{ }) f222 [zX R x,zX R h] []=Tr.ok (zU.ret (AV.bool (cond ((ah x).1!=0) ((ah x).1==(ah h).1) M)) []):=kw
def F58:ak:=ba [R,R] [Q7] λx=>(fL x.1 x.2.1,())
theorem zrY:FK 222 F58:=by
 refine az zv2 λx C h=>?_
 refine bB fW zv2 (λid _=>h id) (zyR x.1 x.2.1) ?_;simp only[Q8,fL];repeat' split
 all_goals rfl
def H2(x h:zo):zo:=if(cond (eR x==1) Z (eR h==1))=Z then bx 1 else if(cond (eR x==2) (eR h==2) M)=Z then bx 2 else bx 0
theorem zvL:aa ls.P 229 f229 2:=cM kw
theorem zyz(x h:zo):rn ls 0 (λ_=>{ }) f229 [zX R x,zX R h] []=br (cond (eR x==1) Z (eR h==1)) (Tr.ok (zU.ret (Qd [J (bx 1).1,J (bx 1).2.1,X (bx 1).2.2]) [])) (br (cond (eR x==2) (eR h==2) M) (Tr.ok (zU.ret (Qd [J (bx 2).1,J (bx 2).2.1,X (bx 2).2.2]) [])) (Tr.ok (zU.ret (Qd [J (bx 0).1,J (bx 0).2.1,X (bx 0).2.2]) []))):=kw
def F38:ak:=ba [R,R] [R] λx=>(H2 x.1 x.2.1,())
theorem zrF:FK 229 F38:=by
 refine az zvL λx C h=>?_
 refine bB fW zvL (λid _=>h id) (zyz x.1 x.2.1) ?_;simp only[Q8,H2];repeat' split
 all_goals rfl
def vOr(x h:zo):zo:=if(cond (eR x==2) Z (eR h==2))=Z then bx 2 else if(cond (eR x==1) (eR h==1) M)=Z then bx 1 else bx 0
theorem zvM:aa ls.P 230 f230 2:=cM kw
theorem zyA(x h:zo):rn ls 0 (λ_=>{ }) f230 [zX R x,zX R h] []=br (cond (eR x==2) Z (eR h==2)) (Tr.ok (zU.ret (Qd [J (bx 2).1,J (bx 2).2.1,X (bx 2).2.2]) [])) (br (cond (eR x==1) (eR h==1) M) (Tr.ok (zU.ret (Qd [J (bx 1).1,J (bx 1).2.1,X (bx 1).2.2]) [])) (Tr.ok (zU.ret (Qd [J (bx 0).1,J (bx 0).2.1,X (bx 0).2.2]) []))):=kw
def F39:ak:=ba [R,R] [R] λx=>(vOr x.1 x.2.1,())
theorem zrG:FK 230 F39:=by
 refine az zvM λx C h=>?_
 refine bB fW zvM (λid _=>h id) (zyA x.1 x.2.1) ?_;simp only[Q8,vOr];repeat' split
 all_goals rfl
def CL(x:zo):zo:=if(eR x==2)=Z then bx 1 else if(eR x==1)=Z then bx 2 else bx 0
theorem zvO:aa ls.P 232 f232 1:=cM kw
theorem zyC(x:zo):rn ls 0 (λ_=>{ }) f232 [zX R x] []=br (eR x==2) (Tr.ok (zU.ret (Qd [J (bx 1).1,J (bx 1).2.1,X (bx 1).2.2]) [])) (br (eR x==1) (Tr.ok (zU.ret (Qd [J (bx 2).1,J (bx 2).2.1,X (bx 2).2.2]) [])) (Tr.ok (zU.ret (Qd [J (bx 0).1,J (bx 0).2.1,X (bx 0).2.2]) []))):=kw
def F41:ak:=ba [R] [R] λx=>(CL x.1,())
theorem zrI:FK 232 F41:=by
 refine az zvO λx C h=>?_
 refine bB fW zvO (λid _=>h id) (zyC x.1) ?_;simp only[Q8,CL];repeat' split
 all_goals rfl
def kB(x:zo):zo:=ec ((ah x).1==0)
theorem zvU:aa ls.P 237 f237 1:=cM kw
theorem zyI(x:zo):rn ls 0 (λ_=>{ }) f237 [zX R x] []=Tr.ok (zU.ret (Qd [J (ec ((ah x).1==0)).1,J (ec ((ah x).1==0)).2.1,X (ec ((ah x).1==0)).2.2]) []):=kw
def F47:ak:=ba [R] [R] λx=>(kB x.1,())
theorem zrO:FK 237 F47:=by
 refine az zvU λx C h=>?_
 refine bB fW zvU (λid _=>h id) (zyI x.1) ?_;simp only[Q8,kB];repeat' split
 all_goals rfl
def nz:=ls.addL [(113,F70),(222,F58),(229,F38),(230,F39),(232,F41),(237,F47)]
theorem jU:zx nz:=fW.addL<|fc zsa<|fc zrY<|fc zrF<|fc zrG<|fc zrI<|fc zrO iP
def an(x h:zo):zy:=HW [rF (ah x).1 (ah h).1,kH (ah x).2.1 (ah h).2.1,oI (ah x).2.2 (ah h).2.2]
theorem zv4:aa nz.P 50 f50 2:=cM kw
theorem zyT(x h:zo):rn nz 0 (λ_=>{ }) f50 [zX R x,zX R h] []=Tr.ok (zU.ret (AV.int IntKind.i64 (HW [rF (ah x).1 (ah h).1,kH (ah x).2.1 (ah h).2.1,oI (ah x).2.2 (ah h).2.2])) []):=kw
def F60:ak:=ba [R,R] [zk] λx=>(an x.1 x.2.1,())
theorem zr1:FK 50 F60:=by
 refine az zv4 λx C h=>?_
 refine bB jU zv4 (λid _=>h id) (zyT x.1 x.2.1) ?_;simp only[Q8,an];repeat' split
 all_goals rfl
def oo(x h:zo):zo:=if(!fL x h)=Z then(0,0,[])else ec (x.1==h.1&&(x.2.1==h.2.1&&(x.2.2==h.2.2&&Z)))
theorem zvP:aa nz.P 233 f233 2:=cM kw
theorem zyD(x h:zo):rn nz 0 (λ_=>{ }) f233 [zX R x,zX R h] []=br (!fL x h) (Tr.ok (zU.ret (Qd [J 0,J 0,X []]) [])) (Tr.ok (zU.ret (Qd [J (ec (x.1==h.1&&(x.2.1==h.2.1&&(x.2.2==h.2.2&&Z)))).1,J (ec (x.1==h.1&&(x.2.1==h.2.1&&(x.2.2==h.2.2&&Z)))).2.1,X (ec (x.1==h.1&&(x.2.1==h.2.1&&(x.2.2==h.2.2&&Z)))).2.2]) [])):=kw
def F42:ak:=ba [R,R] [R] λx=>(oo x.1 x.2.1,())
theorem zrJ:FK 233 F42:=by
 refine az zvP λx C h=>?_
 refine bB jU zvP (λid _=>h id) (zyD x.1 x.2.1) ?_;simp only[Q8,oo];repeat' split
 all_goals rfl
def qW(x h:zo):zo:=if(cond (!fL x h) Z (x.1!=1))=Z then(0,0,[])else if(cond (K (h.2.1>0)) (cond (K (Γ Δ (x.2.1+h.2.1)<x.2.1)) Z (cond (K (h.2.1<0)) (K (Γ Δ (x.2.1+h.2.1)>x.2.1)) M)) (cond (K (h.2.1<0)) (K (Γ Δ (x.2.1+h.2.1)>x.2.1)) M))=Z then(0,0,[])else(1,Γ Δ (x.2.1+h.2.1),[])
theorem zvR:aa nz.P 155 f155 2:=cM kw
theorem zyF(x h:zo):rn nz 0 (λ_=>{ }) f155 [zX R x,zX R h] []=br (cond (!fL x h) Z (x.1!=1)) (Tr.ok (zU.ret (Qd [J 0,J 0,X []]) [])) (br (cond (K (h.2.1>0)) (cond (K (Γ Δ (x.2.1+h.2.1)<x.2.1)) Z (cond (K (h.2.1<0)) (K (Γ Δ (x.2.1+h.2.1)>x.2.1)) M)) (cond (K (h.2.1<0)) (K (Γ Δ (x.2.1+h.2.1)>x.2.1)) M)) (Tr.ok (zU.ret (Qd [J 0,J 0,X []]) [])) (Tr.ok (zU.ret (Qd [J 1,J (Γ Δ (x.2.1+h.2.1)),X []]) []))):=kw
def F44:ak:=ba [R,R] [R] λx=>(qW x.1 x.2.1,())
theorem zrL:FK 155 F44:=by
 refine az zvR λx C h=>?_
 refine bB jU zvR (λid _=>h id) (zyF x.1 x.2.1) ?_;simp only[Q8,qW];repeat' split
 all_goals rfl
def oq(x h:zo):zo:=if(cond (!fL x h) Z (x.1!=1))=Z then(0,0,[])else if(cond (K (h.2.1>0)) (cond (K (Γ Δ (x.2.1-h.2.1)>x.2.1)) Z (cond (K (h.2.1<0)) (K (Γ Δ (x.2.1-h.2.1)<x.2.1)) M)) (cond (K (h.2.1<0)) (K (Γ Δ (x.2.1-h.2.1)<x.2.1)) M))=Z then(0,0,[])else(1,Γ Δ (x.2.1-h.2.1),[])
theorem zvS:aa nz.P 235 f235 2:=cM kw
theorem zyG(x h:zo):rn nz 0 (λ_=>{ }) f235 [zX R x,zX R h] []=br (cond (!fL x h) Z (x.1!=1)) (Tr.ok (zU.ret (Qd [J 0,J 0,X []]) [])) (br (cond (K (h.2.1>0)) (cond (K (Γ Δ (x.2.1-h.2.1)>x.2.1)) Z (cond (K (h.2.1<0)) (K (Γ Δ (x.2.1-h.2.1)<x.2.1)) M)) (cond (K (h.2.1<0)) (K (Γ Δ (x.2.1-h.2.1)<x.2.1)) M)) (Tr.ok (zU.ret (Qd [J 0,J 0,X []]) [])) (Tr.ok (zU.ret (Qd [J 1,J (Γ Δ (x.2.1-h.2.1)),X []]) []))):=kw
def F45:ak:=ba [R,R] [R] λx=>(oq x.1 x.2.1,())
theorem zrM:FK 235 F45:=by
 refine az zvS λx C h=>?_
 refine bB jU zvS (λid _=>h id) (zyG x.1 x.2.1) ?_;simp only[Q8,oq];repeat' split
 all_goals rfl
def Vi(x _:zo):zo:=CL x
theorem zvN:aa nz.P 231 f231 2:=cM kw
theorem zyB(x h:zo):rn nz 0 (λ_=>{ }) f231 [zX R x,zX R h] []=Tr.ok (zU.ret (Qd [J (CL x).1,J (CL x).2.1,X (CL x).2.2]) []):=kw
def F40:ak:=ba [R,R] [R] λx=>(Vi x.1 x.2.1,())
theorem zrH:FK 231 F40:=by
 refine az zvN λx C h=>?_
 refine bB jU zvN (λid _=>h id) (zyB x.1 x.2.1) ?_;simp only[Q8,Vi];repeat' split
 all_goals rfl
def M4(x _:zo):zo:=kB x
theorem zvT:aa nz.P 236 f236 2:=cM kw
theorem zyH(x h:zo):rn nz 0 (λ_=>{ }) f236 [zX R x,zX R h] []=Tr.ok (zU.ret (Qd [J (kB x).1,J (kB x).2.1,X (kB x).2.2]) []):=kw
def F46:ak:=ba [R,R] [R] λx=>(M4 x.1 x.2.1,())
theorem zrN:FK 236 F46:=by
 refine az zvT λx C h=>?_
 refine bB jU zvT (λid _=>h id) (zyH x.1 x.2.1) ?_;simp only[Q8,M4];repeat' split
 all_goals rfl
def uR:=nz.addL [(50,F60),(233,F42),(155,F44),(235,F45),(231,F40),(236,F46)]
theorem lQ:zx uR:=jU.addL<|fc zr1<|fc zrJ<|fc zrL<|fc zrM<|fc zrH<|fc zrN iP
open Go Go.Proofs Go.Sort
set_option maxHeartbeats 4000000
theorem zvu(a:World)(x:Nat):Calls prog 98 #[.int .i32 (x:Int)] a λe w=>e=.returned (.bool (FV x))/\w=a:=
 (Tryz.odd63 x a).mono λe w h=>⟨by rw[h.1];unfold FV;cases K ((x:Int)<32)<;>rfl,h.2⟩
theorem zvr(k n:Int)(s:zN)(a:World):Calls prog 39 #[.agg #[.int .i64 k,.int .i64 n,.string ⟨s.toArray⟩]] a λe w=>e=.returned (.bool (bg (k,n,s)))/\RowKit.Below a.heap.size a w/\a.drawn<=w.drawn:=by
 have h:=λd=>Tryz.indexFunc64 (λr=>FV r) ⟨s.toArray⟩ d zvu
 have j:Lib.idxFunc (λr=>FV r) Z ⟨s.toArray⟩=r8 s:=rfl;rw[j]at h;have c:bg (k,n,s)=bg (k,n,s):=rfl;generalize b:bg (k,n,s)=R at c|-;clear c;unfold bg at b;generalize r8 s=x at h b
 go_enter func39,ntmps39
 go_wp2_with (go_at_call 99;refine(h _).mono ?_;rintro e w ⟨rfl,g,i⟩)
 all_goals
  go_ret
  refine⟨?_,?_,?_⟩
  .rw[<-b];congr 2;simp_all<;>(rw[<-b];first|(rw[aC S];rfl)|(rw[beq_false_of_ne ‹¬n=0›];first|rfl|(rw[beq_false_of_ne ‹¬n=1›];rfl)))
  .first
   |exact(RowKit.Below.refl _ _).alloc (zR _) _
   |exact((RowKit.Below.refl _ a).alloc (zR _) _).trans (g.mono sw)
  .first
   |exact zR _
   |exact i
theorem Xw(d w:World)(a b c x y z:Value)(h:RowKit.Below ((d.alloc (.cells #[a,b,c] 30)).alloc (.cells #[x,y,z] 30)).heap.size ((d.alloc (.cells #[a,b,c] 30)).alloc (.cells #[x,y,z] 30)) w):
  w.cell? ⟨d.heap.size,0,Q2⟩=Y a/\w.cell? ⟨d.heap.size,1,Q2⟩=Y b/\w.cell? ⟨d.heap.size,2,Q2⟩=Y c/\
  w.cell? ⟨d.heap.size+1,0,Q2⟩=Y x/\w.cell? ⟨d.heap.size+1,1,Q2⟩=Y y/\w.cell? ⟨d.heap.size+1,2,Q2⟩=Y z/\
  w.frozen? ⟨d.heap.size+1,0,Q2⟩=M/\w.frozen? ⟨d.heap.size+1,1,Q2⟩=M/\w.frozen? ⟨d.heap.size+1,2,Q2⟩=M/\w.heap[d.heap.size+1]?=Y (.cells #[x,y,z] 30 (0,0)):=by
 have e:=h.block d.heap.size sg;have g:=h.block (d.heap.size+1) sw;have e0:((d.alloc (.cells #[a,b,c] 30)).alloc (.cells #[x,y,z] 30)).heap[d.heap.size]?=Y (.cells #[a,b,c] 30 (0,0)):=(bQ _ _ _ sw).trans (cT _ _);have i:((d.alloc (.cells #[a,b,c] 30)).alloc (.cells #[x,y,z] 30)).heap[d.heap.size+1]?=Y (.cells #[x,y,z] 30 (0,0)):=by
  have:=cT (d.alloc (.cells #[a,b,c] 30)) (.cells #[x,y,z] 30)
  rwa [bE]at this
 rw[e0]at e;rw[i]at g;simp[World.cell?,World.frozen?,e,g]
theorem OK(k n:Int)(s:zN)(x:World):Calls prog 112 #[.agg #[.int .i64 k,.int .i64 n,.string ⟨s.toArray⟩]] x λe w=>e=.returned (.agg #[.int .i64 (ah (k,n,s)).1,.int .i64 (ah (k,n,s)).2.1,.string ⟨(ah (k,n,s)).q.toArray⟩])/\RowKit.Below x.heap.size x w/\x.drawn<=w.drawn:=by
 have h:=λb=>zvr k n s b
 unfold ah;generalize bg (k,n,s)=R at h|-
 go_enter func112,ntmps112
 go_wp2_with (go_at_call 39;refine(h _).mono ?_;rintro e w ⟨rfl,a,d⟩;have⟨j,l,m,o,t,u,v,y,z,c⟩:=Xw x w (.int .i64 k) (.int .i64 n) (.string ⟨s.toArray⟩) (.int .i64 0) (.int .i64 0) (.string ⟨#[]⟩) a)
 all_goals
  have g:RowKit.Below x.heap.size x w:=(((RowKit.Below.refl _ x).alloc (zR _) _).alloc sw _).trans (a.mono sg);have i:x.drawn<=w.drawn:=d;refine bodyPost_ret (results_cell_row rfl _ _ (x.heap.size+1) 30 _ (0,0) _ rfl (by simp[World.setCell,uN,c];rfl) underlying30 rfl kw) rfl ⟨?_,?_,?_⟩
  .rfl
  .exact((g.setCell (p:=⟨x.heap.size+1,0,Q2⟩) sw _).setCell (p:=⟨x.heap.size+1,1,Q2⟩) sw _).setCell (p:=⟨x.heap.size+1,2,Q2⟩) sw _
  .exact i
set_option maxRecDepth 100000
theorem zaE(x:Int)(h:World):Calls prog 182 #[.int .i64 x] h λe w=>e=.returned (.bool M)/\w=h:=by
 go_enter func182,ntmps182
 go_wp2
 go_ret
 exact⟨sw,rfl⟩
theorem zaF(x:Int)(h:World):Calls prog 183 #[.int .i64 x] h λe w=>e=.returned (.bool M)/\w=h:=by
 go_enter func183,ntmps183
 go_wp2
 go_ret
 exact⟨sw,rfl⟩
theorem zaG(x:ByteArray)(h:World):Calls prog 184 #[.string x] h λe w=>e=.returned (.bool M)/\w=h:=by
 go_enter func184,ntmps184
 go_wp2
 go_ret
 exact⟨sw,rfl⟩
theorem Yw(x y:Int):rF x y=(ite (x<y) (-1) (ite (y<x) 1 0):Int):=by unfold rF;simp
theorem VY(x y:Int):kH x y=(ite (x<y) (-1) (ite (y<x) 1 0):Int):=by unfold kH;simp
theorem zmI(x y:Int)(h:World):Calls prog 114 #[.int .i64 x,.int .i64 y] h λe w=>e=.returned (.int .i64 (rF x y))/\w=h:=by
 have b:=λa=>zaE x a
 have c:=λa=>zaE y a
 rw[Yw]
 go_enter func114,ntmps114
 go_wp2_with (first|(go_at_call 182;refine(b _).mono ?_;rintro e w ⟨rfl,rfl⟩)|(go_at_call 182;refine(c _).mono ?_;rintro e w ⟨rfl,rfl⟩))
 all_goals
  go_ret
  refine⟨?_,rfl⟩;congr 2
theorem zmJ(x y:Int)(h:World):Calls prog 115 #[.int .i64 x,.int .i64 y] h λe w=>e=.returned (.int .i64 (kH x y))/\w=h:=by
 have b:=λa=>zaF x a
 have c:=λa=>zaF y a
 rw[VY]
 go_enter func115,ntmps115
 go_wp2_with (first|(go_at_call 183;refine(b _).mono ?_;rintro e w ⟨rfl,rfl⟩)|(go_at_call 183;refine(c _).mono ?_;rintro e w ⟨rfl,rfl⟩))
 all_goals
  go_ret
  refine⟨?_,rfl⟩;congr 2
theorem zmK(x y:zN)(h:World):Calls prog 116 #[.string ⟨x.toArray⟩,.string ⟨y.toArray⟩] h λe w=>e=.returned (.int .i64 (oI x y))/\w=h:=by
 have c:=λa=>zaG ⟨x.toArray⟩ a
 have d:=λa=>zaG ⟨y.toArray⟩ a
 have g:∀a,(binOp .gtr 9 (.string ⟨x.toArray⟩) (.string ⟨y.toArray⟩)).run prog a=.ok (.bool (!(Op.bytesLess x y||x==y))) a:=λa=>by simp[binOp,Op.stringOp]
 have b:oI x y=(ite (Op.bytesLess x y=Z) (-1) (ite ((!(Op.bytesLess x y||x==y))=Z) 1 0):Int):=by unfold oI;simp
 rw[b];clear b
 go_enter func116,ntmps116
 go_wp2_with (first|(go_at_call 184;refine(c _).mono ?_;rintro e w ⟨rfl,rfl⟩)|(go_at_call 184;refine(d _).mono ?_;rintro e w ⟨rfl,rfl⟩))
 all_goals
  go_ret
  refine⟨?_,rfl⟩;simp_all
theorem zws(x y z:Int)(b:Nat)(h:World)(i:h.cell? ⟨b,0,Q2⟩=Y (.int .i64 x))(j:h.cell? ⟨b,1,Q2⟩=Y (.int .i64 y))(k:h.cell? ⟨b,2,Q2⟩=Y (.int .i64 z)):
  Calls prog 113 #[.slice (Y ⟨b,0,Q2⟩) 3 3] h λe w=>e=.returned (.int .i64 (HW [x,y,z]))/\w=h:=by
 have g:HW [x,y,z]=if x=0 then(ite (y=0) z y)else x:=by
  unfold HW;unfold HW;unfold HW;unfold HW;by_cases a:x=0<;>by_cases c:y=0<;>by_cases d:z=0<;>simp[a,c,d]
 rw[g];clear g
 go_enter func113,ntmps113
 go_wp2
 by_cases a:x=0
 .subst a;by_cases c:y=0
  .subst c;by_cases d:z=0
   .subst d;refine wp_loop_rounds 4 ?_
    (rw[rounds_succ];go_wp2)
    (rw[rounds_succ];go_wp2)
    (rw[rounds_succ];go_wp2)
    (rw[rounds_succ];go_wp2)
    go_ret
    exact⟨by simp[*],rfl⟩
   .refine wp_loop_rounds 4 ?_
    (rw[rounds_succ];go_wp2)
    (rw[rounds_succ];go_wp2)
    (rw[rounds_succ];go_wp2)
    go_ret
    exact⟨by simp[*],rfl⟩
  .refine wp_loop_rounds 4 ?_
   (rw[rounds_succ];go_wp2)
   (rw[rounds_succ];go_wp2)
   go_ret
   exact⟨by simp[*],rfl⟩
 .refine wp_loop_rounds 4 ?_
  (rw[rounds_succ];go_wp2)
  go_ret
  exact⟨by simp[*],rfl⟩
structure zxg (p:Prop):Prop where
 out:p
variable {i:Value}
theorem OJ{A:World}{p q:Nat}{a x y z:Value}(e0:A.heap[p]?=Y (.cells #[v,a,i] 30 (0,0)))(e:A.heap[q]?=Y (.cells #[x,y,z] 30 (0,0)))(h:RowKit.Below A.heap.size A b):
  b.heap[p]?=Y (.cells #[v,a,i] 30 (0,0))/\b.heap[q]?=Y (.cells #[x,y,z] 30 (0,0)):=
 ⟨(h.block p (mZ.1 e0).1).trans e0,(h.block q (mZ.1 e).1).trans e⟩
theorem rD{p:Nat}{g:Value}(e0:w.heap[p]?=Y (.cells #[v,g,i] 30 (0,0))):
  w.cell? ⟨p,0,Q2⟩=Y v/\w.cell? ⟨p,1,Q2⟩=Y g/\w.cell? ⟨p,2,Q2⟩=Y i/\w.frozen? ⟨p,0,Q2⟩=M/\w.frozen? ⟨p,1,Q2⟩=M/\w.frozen? ⟨p,2,Q2⟩=M:=by simp[World.cell?,World.frozen?,e0]
theorem zfU(k n:Int)(s:zN)(j l:Int)(m:zN)(h:World):Calls prog 50 #[.agg #[.int .i64 k,.int .i64 n,.string ⟨s.toArray⟩],.agg #[.int .i64 j,.int .i64 l,.string ⟨m.toArray⟩]] h λe w'=>e=.returned (.int .i64 (an (k,n,s) (j,l,m)))/\RowKit.Below h.heap.size h w'/\h.drawn<=w'.drawn:=by
 have F:=λg=>OK k n s g
 have i:=λg=>OK j l m g
 have w:prog.follows .mixedOrders=Z:=by kernel_rfl
 unfold an;generalize ah (k,n,s)=a at F|-;generalize ah (j,l,m)=b at i|-;have⟨y,z,B⟩:=a;have⟨C,D,E⟩:=b
 dsimp only at F i|-
 have k1:=λg=>zmI y C g
 have k2:=λg=>zmJ z D g
 have k3:=λg=>zmK B E g
 generalize rF y C=m1 at k1|-;generalize kH z D=m2 at k2|-;generalize oI B E=m3 at k3|-
 go_enter func50,ntmps50
 go_wp2
 obtain⟨o,x⟩:∃o,(h.alloc (.cells #[.int .i64 k,.int .i64 n,.string ⟨s.toArray⟩] 30)).alloc (.cells #[.int .i64 j,.int .i64 l,.string ⟨m.toArray⟩] 30)=o:=⟨_,rfl⟩;have e0:o.heap[h.heap.size]?=Y (.cells #[.int .i64 k,.int .i64 n,.string ⟨s.toArray⟩] 30 (0,0)):=by rw[<-x];exact(bQ _ _ _ sw).trans (cT _ _)
 have e1:o.heap[h.heap.size+1]?=Y (.cells #[.int .i64 j,.int .i64 l,.string ⟨m.toArray⟩] 30 (0,0)):=by
  rw[<-x];have:=cT (h.alloc (.cells #[.int .i64 k,.int .i64 n,.string ⟨s.toArray⟩] 30)) (.cells #[.int .i64 j,.int .i64 l,.string ⟨m.toArray⟩] 30)
  rwa [bE]at this
 have t:RowKit.Below h.heap.size h o:=by rw[<-x];exact((RowKit.Below.refl _ h).alloc (zR _) _).alloc sw _
 have h5:h.drawn<=o.drawn:=by rw[<-x];exact zR _
 rw[x];clear x;have⟨c0,c1,c2,c3,c4,c5⟩:=rD e0;have⟨d0,d1,d2,d3,d4,d5⟩:=rD e1;rename_i K hK
 have d:∀c:World,c.heap[h.heap.size]?=Y (.cells #[.int .i64 y,.int .i64 z,.string ⟨B.toArray⟩] 30 (0,0))->c.heap[h.heap.size+1]?=Y (.cells #[.int .i64 C,.int .i64 D,.string ⟨E.toArray⟩] 30 (0,0))->RowKit.Below h.heap.size h c->h.drawn<=c.drawn->
   K {tmps:=#[.agg #[.int .i64 k,.int .i64 n,.string ⟨s.toArray⟩],.agg #[.int .i64 j,.int .i64 l,.string ⟨m.toArray⟩],.pointer (Y ⟨h.heap.size,0,Q2⟩),.pointer (Y ⟨h.heap.size+1,0,Q2⟩),.int .i64 0,.agg #[.int .i64 k,.int .i64 n,.string ⟨s.toArray⟩],.agg #[.int .i64 y,.int .i64 z,.string ⟨B.toArray⟩],.agg #[.int .i64 j,.int .i64 l,.string ⟨m.toArray⟩],.agg #[.int .i64 C,.int .i64 D,.string ⟨E.toArray⟩],undef,undef,undef,undef,undef,undef,undef,undef,undef,undef,undef,undef,undef,undef,undef,undef,undef],defers:=[]} c:=by
  intro c w0 G P hd3;apply hK;clear hK;have h8:h.heap.size+1<c.heap.size:=(mZ.1 G).1;have⟨x0,x1,x2,x3,x4,x5⟩:=rD w0;have⟨y0,y1,y2,y3,y4,y5⟩:=rD G
  go_wp2
  go_still_tail 15,w
  still_call (k1 _)
  repeat still_step
  still_call (k2 _)
  repeat still_step
  still_call (k3 _)
  refine wpStill_nil ?_;change wpList _ _ _ _ _ c.drew;have v:h.drawn<=c.drew.drawn:=aV hd3 (Nat.le_succ _);have u:RowKit.Below h.heap.size h c.drew:=P.drew;generalize c.drew=W4 at v u|-
  go_wp2_with (go_at_call 113;refine(zws m1 m2 m3 W4.heap.size _ sw sw sw).mono ?_;rintro e w' ⟨rfl,rfl⟩)
  go_ret
  exact⟨rfl,u.alloc u.size _,v⟩
 have h0:=zxg.mk d;clear hK d k1 k2 k3
 go_region_with (first
  |(go_at_call 112;refine(F _).mono ?_;clear F;rintro e G ⟨rfl,q,hd3⟩;have⟨f0,f1⟩:=OJ (A:=o.drew) e0 e1 q;have⟨p0,p1,p2,p3,p4,p5⟩:=rD f0;have⟨q0,q1,q2,q3,q4,q5⟩:=rD f1)
  |(go_at_call 112;refine(i _).mono ?_;clear i;rintro e w2 ⟨rfl,H,v⟩;have⟨g0,g1⟩:=OJ f0 f1 H;have⟨r0,r1,r2,r3,r4,r5⟩:=rD g0;have⟨s0,s1,s2,s3,s4,s5⟩:=rD g1))
 all_goals
  refine h0.out _ ?_ ?_ ?_ ?_
  .simp[World.setCell,uN,g0]
  .simp[World.setCell,uN,g1]
  .have h3:=q.size;have h6:=H.size;have U:RowKit.Below h.heap.size h w2:=(t.trans ((RowKit.Below.mono ⟨q.os,q.tape,q.output,q.size,q.block⟩ t.size))).trans (H.mono (aV t.size h3));exact(((((U.setCell (p:=⟨h.heap.size,0,Q2⟩) sw _).setCell (p:=⟨h.heap.size,1,Q2⟩) sw _).setCell (p:=⟨h.heap.size,2,Q2⟩) sw _).setCell (p:=⟨h.heap.size+1,0,Q2⟩) sw _).setCell (p:=⟨h.heap.size+1,1,Q2⟩) sw _).setCell (p:=⟨h.heap.size+1,2,Q2⟩) sw _
  .have h7:o.drawn+1<=G.drawn:=hd3;have h4:h.drawn<=w2.drawn:=by omega
   simpa[World.setCell]using h4
end
end Cad
namespace Go.Proofs
open Cad (Ip aK aV eF fB ie mZ oC qK vC zR)
open Go.RowKit Go.Shelf
open Bool renaming false->Q4,true->Q3
open Option renaming none->Q2,some->Q1
open Decidable renaming decide->Q0
open List (length)
attribute [local go_sem] Oper.semAt_some
abbrev R12:={l:List Value//l.length=12/\∀v∈l,v.oneCell'=Q3}
theorem run_store_one(v:Value)(h:v.oneCell'=Q3)(w:World)(a:Addr)(hc:(w.cell? a).isSome=Q3)(hf:w.frozen? a=Q4):Sem.run Tryz.prog (store a v) w=.ok () (w.setCell a v):=by obtain⟨u,hu⟩:=Option.isSome_iff_exists.1 hc;unfold store;cases v<;>first|(simp[Value.oneCell']at h;done)|simp[Sem.run,hu,hf]
set_option maxRecDepth 100000 in
set_option maxHeartbeats 2000000 in
theorem Tryz.values1_in(F:Fence)(n:Nat)(h7:F.fn 139)(hro:F.round=Q2)(hn:1<=n)(l Bs n₀ b off cap:Nat)(zs:List R12)(hreach:zs.length<=1000)(hb:b<n₀)(J Jx:List R12->World->Prop)(W:World)(hn₀:n₀<=W.heap.size)(hJ:AbidesFrom W.heap.size J)
  (hY:∀pre x W,J pre W->pre.length<zs.length->YieldAt F (n-1) Tryz.prog l #[.agg x.1.toArray] W λe W'=>
   (e=.returned (.bool Q3)/\J (pre++[x]) W'/\Below n₀ W W')\/(e=.returned (.bool Q4)/\Jx (pre++[x]) W'))
  (hBs:W.cell? ⟨Bs,0,Q2⟩=Q1 (.slice (Q1 ⟨b,off,Q2⟩) zs.length cap)) (hc:∀i(hi:i<zs.length),∀j v,zs[i].1[j]?=Q1 v->W.cell? ⟨b,off+i*12+j,Q2⟩=Q1 v) (h0:J [] W):
  CallsIn F n Tryz.prog 139 #[.func (.yield l) #[] #[],.pointer (Q1 ⟨Bs,0,Q2⟩)] W λe W'=>(∃v,e=.returned v)/\
   ((∃ys,ys=zs/\J ys W')\/(∃pre,(∃k,k<=zs.length/\pre=zs.take k)/\Jx pre W')):=by
 refine callsIn_of_wp Tryz.func139 rfl h7 ?_ hro;simp only[Tryz.ntmps139,List.size_toArray,fB,qK,Nat.reduceAdd,Nat.reduceSub,Array.replicate_succ,Array.replicate_zero,List.push_toArray,List.append_toArray,Ip,List.cons_append]
 gi_wp2
 gi_loopw [7] (λi wr=>∃k:Nat,k<=zs.length/\i=.int .i64 k/\J (zs.take k) wr/\Below n₀ W wr)
  (λi _=>zs.length-(intOf i).toNat)
 case atStart=>exact⟨0,aK _,rfl,h0,Below.refl _ _⟩
 case round=>
  obtain⟨k,hk,rfl,hJs,hnx⟩:=hrel;by_cases hlt:k<zs.length
  .have hcx:∀j v,zs[k].1[j]?=Q1 v->wr.cell? ⟨b,off+k*12+j,Q2⟩=Q1 v:=λj v h=>(hnx.cell (p:=⟨b,off+k*12+j,Q2⟩) hb).trans (hc k hlt j v h)
   have hYx:=λW' h=>hY (zs.take k) zs[k] W' h (by rw[oC];omega)
   have htk:zs.take k++[zs[k]]=zs.take (k+1):=List.take_append_getElem hlt;rw[htk]at hYx;generalize hx:zs[k]=x at hYx hcx;obtain⟨xs,hxl,hx1⟩:=x
   match xs,hxl with
   |[v0,v1,v2,v3,v4,v5,v6,v7,v8,v9,v10,v11],_=>
   have c0:=hcx 0 v0 rfl;have c1:=hcx 1 v1 rfl;have c2:=hcx 2 v2 rfl;have c3:=hcx 3 v3 rfl;have c4:=hcx 4 v4 rfl;have c5:=hcx 5 v5 rfl;have c6:=hcx 6 v6 rfl;have c7:=hcx 7 v7 rfl;have c8:=hcx 8 v8 rfl;have c9:=hcx 9 v9 rfl;have c10:=hcx 10 v10 rfl;have c11:=hcx 11 v11 rfl;rw[vC]at c0;have d0:=run_store_one v0 (hx1 v0 (by simp));have d1:=run_store_one v1 (hx1 v1 (by simp));have d2:=run_store_one v2 (hx1 v2 (by simp));have d3:=run_store_one v3 (hx1 v3 (by simp));have d4:=run_store_one v4 (hx1 v4 (by simp));have d5:=run_store_one v5 (hx1 v5 (by simp));have d6:=run_store_one v6 (hx1 v6 (by simp));have d7:=run_store_one v7 (hx1 v7 (by simp));have d8:=run_store_one v8 (hx1 v8 (by simp));have d9:=run_store_one v9 (hx1 v9 (by simp));have d10:=run_store_one v10 (hx1 v10 (by simp));have d11:=run_store_one v11 (hx1 v11 (by simp));have hJa:J (zs.take k) (wr.alloc (.cells #[v0,v1,v2,v3,v4,v5,v6,v7,v8,v9,v10,v11] 38)):=hJ _ _ _ Q2 hJs (World.grownBy_alloc _ _ _) (λr e=>by cases e);have hba:Below n₀ wr (wr.alloc (.cells #[v0,v1,v2,v3,v4,v5,v6,v7,v8,v9,v10,v11] 38)):=(Below.refl _ _).alloc (by have:=hnx.size;omega) _;obtain⟨fn,tmps,assign,body,hy,hR⟩:=hYx _ hJa
   dsimp only at hy hR
   gi_wp2
   refine hR.mono ?_;rintro e W3 (⟨rfl,hJ3,hk3⟩|⟨rfl,hJx3⟩)
   .gi_wp2
    go_roundw
    case rel=>exact⟨k+1,by omega,by simp,hJ3,(hnx.trans hba).trans hk3⟩
    case measure=>simp[intOf];omega
   .gi_wp2
    refine bodyPost_ret (results_none rfl _ _ _) rfl ?_;exact⟨⟨_,rfl⟩,.inr ⟨_,⟨k+1,by omega,rfl⟩,hJx3⟩⟩
  .obtain rfl:k=zs.length:=by omega
   gi_wp2
   go_end0
   exact⟨⟨_,rfl⟩,.inl ⟨_,rfl,by rwa [eF]at hJs⟩⟩
theorem Tryz.values_stops(F:Fence)(n:Nat)(h7:F.fn 139)(hro:F.round=Q2)(hn:1<=n)(Bs n₀ b off cap:Nat)(zs:List R12)(hreach:zs.length<=1000)(w:World)(hBs:Bs<w.heap.size)(hn₀:n₀<=w.heap.size)(hb:b<n₀)
  (hs:w.cell? ⟨Bs,0,Q2⟩=Q1 (.slice (Q1 ⟨b,off,Q2⟩) zs.length cap)) (hc:∀i(hi:i<zs.length),∀j v,zs[i].1[j]?=Q1 v->w.cell? ⟨b,off+i*12+j,Q2⟩=Q1 v):
  SeqStopsK F n Tryz.prog 139 #[.pointer (Q1 ⟨Bs,0,Q2⟩)] (λx:R12=>#[.agg x.1.toArray]) (Below n₀) (λys=>ys=zs) (λpre=>pre<+:zs) zs.length w:=λl J Jx W hW hJ _ hY h0=>by
 refine(Tryz.values1_in F n h7 hro hn l Bs n₀ b off cap zs hreach hb J Jx W (aV hn₀ hW.size) hJ hY ((hW.cell (p:=⟨Bs,0,Q2⟩) hBs).trans hs) (λi hi j v h=>(hW.cell (p:=⟨b,off+i*12+j,Q2⟩) (ie hb hn₀)).trans (hc i hi j v h)) h0).mono ?_;rintro e W' ⟨he,⟨ys,hy,hj⟩|⟨pre,⟨k,hk,rfl⟩,hj⟩⟩
 .exact⟨he,.inl ⟨ys,hy,hj⟩⟩
 .exact⟨he,.inr ⟨_,List.take_prefix _ _,hj⟩⟩
theorem Tryz.info38:(Tryz.prog.info? 38).map (λi=>(i.zero,i.size,i.bytes))=Q1 (Q1 (.agg #[.string ⟨#[]⟩,.slice Q2 0 0,.int .i64 0,.slice Q2 0 0,.slice Q2 0 0,.string ⟨#[]⟩,.int .i64 0,.int .i64 0,.string ⟨#[]⟩,.string ⟨#[]⟩,.slice Q2 0 0,.slice Q2 0 0]),12,208):=by kernel_rfl
def flat12(l:List R12):List Value:=l.flatMap λx=>x.1
theorem flat12_snoc(l:List R12)(x:R12):flat12 (l++[x])=flat12 l++x.1:=by simp[flat12]
theorem cell_row_new(w:World)(l:List Value)(t:TypeId):∀j u,l[j]?=Q1 u->(w.alloc (.cells l.toArray t)).cell? ((⟨w.heap.size,0,Q2⟩:Addr).add j)=Q1 u:=by
 intro j u h;unfold Addr.add;split
 next e=>subst e;simp[h]
 .simp[h]
theorem cells_own(B:Nat)(vs:Array Value)(t:TypeId):Own (λ(_:Unit) W=>W.heap[B]?=Q1 (.cells vs t (0,0))):=λs X Y row hs hg hrow=>
 (hg.block B (mZ.1 hs).1 (λe'=>by obtain⟨o,ho,hc⟩:=hrow B e'.symm;rw[hs]at ho;cases ho;cases hc)).trans hs
set_option maxRecDepth 100000 in
set_option maxHeartbeats 2000000 in
theorem Tryz.appendSeq_in(F:Fence)(n:Nat)(h3:F.fn 196)(h5:F.fn 139)(hro:F.round=Q2)(hn:3<=n)(Bs b off cap:Nat)(zs:List R12)(hreach:zs.length<=1000)(w:World)(hBs:Bs<w.heap.size)(hb:b<w.heap.size)
  (hs:w.cell? ⟨Bs,0,Q2⟩=Q1 (.slice (Q1 ⟨b,off,Q2⟩) zs.length cap)) (hc:∀i(hi:i<zs.length),∀j v,zs[i].1[j]?=Q1 v->w.cell? ⟨b,off+i*12+j,Q2⟩=Q1 v):
  CallsIn F n Tryz.prog 196 #[.slice Q2 0 0,.func (.func 139) #[] #[.pointer (Q1 ⟨Bs,0,Q2⟩)]] w λe W'=>∃v,e=.returned v/\W'.ownsRow w.heap.size 38 12 v zs.length (flat12 zs)/\Below w.heap.size w W':=by
 have h1:1<=n:=by omega
 obtain⟨i0,hi,hz0,hz1,hz2⟩:=info_parts Tryz.info38;refine callsIn_of_wp_marks Tryz.func196 rfl h3 ?_ hro;simp only[Tryz.ntmps196,List.size_toArray,fB,qK,Nat.reduceAdd,Nat.reduceSub,Array.replicate_succ,Array.replicate_zero,List.push_toArray,List.append_toArray,Ip,List.cons_append]
 gi_wp2
 have bO:=Boxed.new w 42 (.slice Q2 0 0);have hB0:Below w.heap.size w (w.alloc (.cells #[.slice Q2 0 0] 42)):=(Below.refl _ w).alloc (zR _) _
 refine wpIn_rangeFunc_ownH hro h1 (gf:=139) (lb:=#[.pointer (Q1 ⟨Bs,0,Q2⟩)]) rfl h5 (enters_of Tryz.func139 (by kernel_rfl) rfl)
  (Tryz.values_stops F (n-1) h5 hro (by omega) Bs w.heap.size b off cap zs hreach _ (by simp<;>omega) (by simp) hb ((hB0.cell (p:=⟨Bs,0,Q2⟩) hBs).trans hs) (λi hi j v h=>(hB0.cell (p:=⟨b,off+i*12+j,Q2⟩) hb).trans (hc i hi j v h))) belowK_t (belowK_b (by simp<;>omega)) (Below.refl _ _) (λ_=>rfl)
  (λpre W=>(∃v,Boxed W w.heap.size 42 v/\W.ownsRow w.heap.size 38 12 v pre.length (flat12 pre)/\(v=.slice Q2 0 0↔pre=[]))/\Below w.heap.size w W)
  (λ_ _ _=>False)
  (OwnFrom.and (Own.from (holdsRow_own w.heap.size w.heap.size 42 38 12 (λpre=>pre.length) (λpre=>flat12 pre) (λpre v=>v=.slice Q2 0 0↔pre=[])) _) (ownFrom_below (zR _) (by simp<;>omega)))
  (λ_ _ _ _ _ hs _ _=>hs)
  ⟨⟨_,bO,World.ownsRow_nil _ _ _ _,by simp⟩,hB0⟩
  (λx a' W=>∃Bx,w.heap.size<Bx/\W.heap[Bx]?=Q1 (.cells x.1.toArray 38 (0,0))/\a'={tmps:=#[.slice Q2 0 0,.func (.func 139) #[] #[.pointer (Q1 ⟨Bs,0,Q2⟩)],.pointer (Q1 ⟨w.heap.size,0,Q2⟩),undef,.slice Q2 0 0,.pointer (Q1 ⟨Bx,0,Q2⟩),.func (.func 139) #[] #[.pointer (Q1 ⟨Bs,0,Q2⟩)],.agg x.1.toArray,undef,undef,undef,undef,undef],defers:=[]})
  (λx a' _ X Y row hs hg hr=>by obtain⟨Bx,h1,h2,h3⟩:=hs;exact⟨Bx,h1,cells_own Bx x.1.toArray 38 () X Y row h2 hg (λr e=>(hr r e).2),h3⟩)
  ?assign ?body ?done ?stop
 case assign=>
  rintro l pre ⟨xs,hxl,hx1⟩ W K ⟨⟨v,hv,hrow,hnil⟩,hB⟩ hK
  match xs,hxl with
  |[v0,v1,v2,v3,v4,v5,v6,v7,v8,v9,v10,v11],_=>
  have d0:=run_store_one v0 (hx1 v0 (by simp));have d1:=run_store_one v1 (hx1 v1 (by simp));have d2:=run_store_one v2 (hx1 v2 (by simp));have d3:=run_store_one v3 (hx1 v3 (by simp));have d4:=run_store_one v4 (hx1 v4 (by simp));have d5:=run_store_one v5 (hx1 v5 (by simp));have d6:=run_store_one v6 (hx1 v6 (by simp));have d7:=run_store_one v7 (hx1 v7 (by simp));have d8:=run_store_one v8 (hx1 v8 (by simp));have d9:=run_store_one v9 (hx1 v9 (by simp));have d10:=run_store_one v10 (hx1 v10 (by simp));have d11:=run_store_one v11 (hx1 v11 (by simp))
  gi_wp2
  exact hK _ _ ((KeepsOthers.alloc _ _).from _) ((Below.refl _ W).alloc hB.size _) ⟨⟨v,hv.alloc _,hrow.alloc _,hnil⟩,hB.alloc hB.size _⟩ ⟨W.heap.size,hv.lt,World.alloc_heap_new W _,rfl⟩
 case body=>
  rintro l pre ⟨xs,hxl,hx1⟩ a' W hl ⟨r,hr⟩ ⟨⟨v,hv,hrow,hnil⟩,hB⟩ ⟨Bx,hBx,hX,rfl⟩ hlt
  match xs,hxl with
  |[v0,v1,v2,v3,v4,v5,v6,v7,v8,v9,v10,v11],_=>
  have hcv:=hv.cell
  dsimp only at hX
  have c0:W.cell? ⟨Bx,0,Q2⟩=Q1 v0:=by simp[World.cell?,hX]
  have c1:W.cell? ⟨Bx,1,Q2⟩=Q1 v1:=by simp[World.cell?,hX]
  have c2:W.cell? ⟨Bx,2,Q2⟩=Q1 v2:=by simp[World.cell?,hX]
  have c3:W.cell? ⟨Bx,3,Q2⟩=Q1 v3:=by simp[World.cell?,hX]
  have c4:W.cell? ⟨Bx,4,Q2⟩=Q1 v4:=by simp[World.cell?,hX]
  have c5:W.cell? ⟨Bx,5,Q2⟩=Q1 v5:=by simp[World.cell?,hX]
  have c6:W.cell? ⟨Bx,6,Q2⟩=Q1 v6:=by simp[World.cell?,hX]
  have c7:W.cell? ⟨Bx,7,Q2⟩=Q1 v7:=by simp[World.cell?,hX]
  have c8:W.cell? ⟨Bx,8,Q2⟩=Q1 v8:=by simp[World.cell?,hX]
  have c9:W.cell? ⟨Bx,9,Q2⟩=Q1 v9:=by simp[World.cell?,hX]
  have c10:W.cell? ⟨Bx,10,Q2⟩=Q1 v10:=by simp[World.cell?,hX]
  have c11:W.cell? ⟨Bx,11,Q2⟩=Q1 v11:=by simp[World.cell?,hX]
  gi_wp2_with (gi_at_builtin;refine wpListIn_append_own _ rfl _ _ 42 rfl w.heap.size 38 i0 _ 12 208 Tryz.underlying42 hi hz0 hz1 hz2 rfl (by decide) _ _ _ rfl (hrow.alloc _) ⟨W.heap.size,0,Q2⟩ 1 1 [v0,v1,v2,v3,v4,v5,v6,v7,v8,v9,v10,v11] rfl rfl (cell_row_new _ _ _) hx1 (by unfold maxLen;omega) (by omega) (by have:=hB.size;simp;omega) ?_;intro v' w1 hown' hgrow _;obtain⟨g',cap',rfl⟩:=ownsRow_succ hown';obtain⟨hv1,hv2,hr2,hk2,hb2⟩:=hv.appended (by decide) hrow hB.size (zR _) hown' hgrow;have hc1:=hv1.cell;have hf1:=hv1.frozen)
  exact⟨hk2.from _,hb2,⟨_,hv2,by rw[flat12_snoc];simpa using hr2,by simp⟩,hB.trans hb2⟩
 case done=>
  rintro D ys W hD rfl ⟨⟨v,hv,hrow,hnil⟩,hB⟩ hK;have hc:=hv.cell
  gi_wp2
  refine⟨by simp,.inl ⟨_,_,rfl,run_takeDeferred hK,?_⟩⟩;exact⟨_,results_tmp rfl _ _ _,v,rfl,ownsRow_putObj hrow _ hK rfl,hB.trans (belowK_b (w:=w) (zR _) W D _ _ (by simp at hD;omega) hK rfl rfl)⟩
 case stop=>
  rintro D c pre W _ _ h _;exact h.elim
set_option maxHeartbeats 1000000 in
theorem Tryz.collect_in(F:Fence)(n:Nat)(h2:F.fn 137)(h3:F.fn 196)(h5:F.fn 139)(hro:F.round=Q2)(hn:4<=n)(Bs b off cap:Nat)(zs:List R12)(hreach:zs.length<=1000)(w:World)(hBs:Bs<w.heap.size)(hb:b<w.heap.size)
  (hs:w.cell? ⟨Bs,0,Q2⟩=Q1 (.slice (Q1 ⟨b,off,Q2⟩) zs.length cap)) (hc:∀i(hi:i<zs.length),∀j v,zs[i].1[j]?=Q1 v->w.cell? ⟨b,off+i*12+j,Q2⟩=Q1 v):
  CallsIn F n Tryz.prog 137 #[.func (.func 139) #[] #[.pointer (Q1 ⟨Bs,0,Q2⟩)]] w λe W'=>∃v,e=.returned v/\W'.ownsRow w.heap.size 38 12 v zs.length (flat12 zs)/\Below w.heap.size w W':=by
 have h1:1<=n:=by omega
 refine callsIn_of_wp Tryz.func137 rfl h2 ?_ hro;simp only[Tryz.ntmps137,List.size_toArray,fB,qK,Nat.reduceAdd,Nat.reduceSub,Array.replicate_succ,Array.replicate_zero,List.push_toArray,List.append_toArray,Ip,List.cons_append]
 gi_wp2_with (gi_at_call 196;refine(Tryz.appendSeq_in F (n-1) h3 h5 hro (by omega) Bs b off cap zs hreach w hBs hb hs hc).mono ?_;rintro e w' ⟨v,rfl,hv1,hv2⟩)
 go_ret
 exact⟨v,rfl,hv1,hv2⟩
end Go.Proofs
namespace Cad
open Go Go.Proofs Tryz
open List renaming length->N
open IntKind renaming wrap->Γ,i64->Δ
open AV renaming agg->Qd
open Tr renaming val->Q8
open Sh renaming bool->Q7,str->Q6
open Bool renaming false->Q4,true->Z
open Option renaming none->Q2,some->Y
open Decidable renaming decide->K
open Cad renaming ow->S
set_option maxHeartbeats 4000000
open Tr (chk br)
open AV (nils agg tup ptr kb str sl)
theorem Fd:∀(l:List R12)(i j:Nat)(h:i<N l),j<12->(flat12 l)[i*12+j]?=l[i].1[j]?
 | x::r,0,j,_,hj=>by
  show(x.1++flat12 r)[0*12+j]?=x.1[j]?;rw[rz (by rw[x.2.1];omega),Nat.zero_mul,eI]
 | x::r,i+1,j,h,hj=>by
  show(x.1++flat12 r)[(i+1)*12+j]?=_;rw[pE (by rw[x.2.1];omega),x.2.1,show(i+1)*12+j-12=i*12+j by omega,Fd r i j (by simpa using h) hj];rfl
@[match_pattern] abbrev zwt:Sh:=.pr (.pr .str (.pr (.sl (.pr .str (.pr (.int .i64) .bool))) (.pr (.int .i64) (.pr (.sl (.int .i64)) (.pr (.sl (.pr (.int .i64) .str)) .expr))))) (.sl (.sl (.pr (.int .i64) (.pr (.int .i64) .str))))
def F91:ak:=λa h n=>match a with
 | [.clo (.func 139) [] [.ptr id 0]]=>match h id with
  |.box [.sl zwt l]=>.chk (K (0<N l)) (.chk (K (N l<=1000)) (.ok {val:=.vec n,nw:=[.vec zl l]}))
  |_=>.err
 |_=>.err
theorem Rb{w:World}{U:Nat->Prop}{a:Nat->Option Value}{hp:Nat->AO}{n q:Nat}{l:zT}{v:Value}(x6:∀b,U b->b<w.heap.size)(h5:w.cell? ⟨q,0,Q2⟩=Y v)(hr:Rv w U a (.sl zl l) v)(hn:a n=Q2)(h0:0<N l)(P:N l<=1000):
  Calls prog 137 #[.func (.func 139) #[] #[.pointer (Y ⟨q,0,Q2⟩)]] w λe w'=>∃m U' ρ',e=.returned m/\Ef n hp {val:=.vec n,nw:=[.vec zl l]} w U a m w' U' ρ':=by
 obtain⟨d,h9,rfl,x8,hm,h⟩:=MH hr;rcases h with rfl|⟨b,o,rfl,x3⟩
 .simp at h0
 have x1:zl.size=12:=rfl;have u:∀i(B:i<N l) j,j<12->∃c x,(zF zl l[i])[j]?=Y c/\w.cell? ⟨b,o+i*12+j,Q2⟩=Y x/\Rv w U a c x/\x.oneCell'=Z:=by
  intro i B j D;have h7:(zF zl l[i]).length=12:=au zl l[i];have t:(zF zl l[i])[j]?=Y ((zF zl l[i])[j]'(by rw[h7];exact D)):=aj _;obtain⟨x,P,s⟩:=x3 i B j _ t;exact⟨_,x,t,P,s,gJ zl l[i] j _ x t s⟩
 have H:b<w.heap.size:=by
  obtain⟨c,x,_,s,_⟩:=u 0 h0 0 S;exact wT s
 let z:List R12:=List.ofFn λi:Fin (N l)=>⟨(List.range 12).map λj=>(w.cell? ⟨b,o+i.1*12+j,Q2⟩).getD undef,sw,λm F=>by
  obtain⟨j,D,rfl⟩:=bt.1 F;obtain⟨c,x,_,s,_,h4⟩:=u i.1 i.2 j (by simpa using D);rw[s];exact h4⟩
 have y:N z=N l:=by simp[z]
 have x7:∀i(B:i<N z),∀j m,z[i].1[j]?=Y m->w.cell? ⟨b,o+i*12+j,Q2⟩=Y m:=by
  intro i B j m F;simp only[z,List.getElem_ofFn,dN,dV]at F;obtain⟨k,hq,F⟩:=F;obtain⟨x2,rfl⟩:=Bl hq;obtain⟨c,x,_,s,_,_⟩:=u i (by rw[<-y];exact B) k x2;rw[s]at F;rw[s,<-F];rfl
 refine(callsIn_wide.1 (Tryz.collect_in Fence.wide 4 trivial trivial trivial rfl S q b o h9 z S w (wT h5) H (by rw[y];exact h5) x7)).mono ?_;rintro e w' ⟨m,rfl,h8,p⟩;rcases h8.2 with⟨_,h⟩|⟨g,A,x0,rfl,hg,hG,x9,_,x4,x5⟩
 .omega
 have h6:g<w'.heap.size:=(mZ.1 hG).1
 obtain⟨G,u1,u2,u3⟩:∃G:Nat->Prop,(∀b,b<w.heap.size->(G b↔U b))/\G g/\∀b,G b->b<w'.heap.size:=
  ⟨λb=>U b\/b=g,λb H=>⟨λh=>h.elim id λe=>zB e S,.inl⟩,.inr rfl,λb h=>by
   rcases h with h|rfl
   .exact ie (x6 b h) p.size
   .exact h6⟩
 have E:∀{c:AV}{x:Value},Rv w U a c x->Rv w' G (kz a n (.slice (Y ⟨g,0,Q2⟩) (N z) A)) c x:=λh=>h.mono p.size (λb' C _=>p.block b' C) (λb H h=>(u1 b H).1 h) (fK hn)
 refine⟨_,G,_,rfl,Ef.newVec sw hn rfl (lz.below p) (λb H _=>p.block b H) u3 u1 ?_ ?_⟩
 .refine⟨_,A,by rw[y];simp[kz],hm,.inr ⟨g,38,x0,rfl,S,u2,hG,x4,S,?_⟩⟩;intro i B j c hc;have D:j<12:=by have:=(dF.1 hc).1;rwa [au]at this
  obtain⟨c',x,P,s,h3,_⟩:=u i B j D;rw[hc]at P;cases P;refine⟨x,?_,E h3⟩;have hz:(flat12 z)[i*12+j]?=Y x:=by
   rw[Fd z i j (by rw[y];exact B) D];simp only[z,List.getElem_ofFn,dN];rw[BG D];simp[s]
  rw[<-x5]at hz;have:=List.getElem?_take.symm.trans hz;split at this
  .rw[x1,<-ru];exact this
  .cases this
 .intro b' C;simp[cf]at C;exact .inl S
theorem zsr:FK 137 F91 where
 fn:=⟨f137,kw,kw,kw⟩
 calls:=λw U ρ hp n t v f z x c q G k m F o=>by
  unfold F91 at x;split at x
  .rename_i id;split at x
   .rename_i l j;simp only[Tr.val_chk,Tr.val_ok,bH,bc]at x;obtain⟨A,B,rfl⟩:=x;have H:=c.len
    match v,H,c with
    |[va],_,c=>
    have r0:=c.rv 0 _ va rfl rfl;cases r0 with
    |clo _ _ _ vf vc x E P a=>
    match vf,x,vc,E,a with
    |[],_,[pv],_,a=>
    have r1:=a 0 _ pv rfl rfl;cases r1 with
    |ptr _ _ b0 i=>
    have s:id∈z:=m id (by simp[AV.idsL,AV.ids]);have y:=k.ob id s;rw[j]at y;have⟨b',h,d,u,D,e,b,C⟩:=y;rw[i]at u;cases u;have g:=b.len;have p:=b.rv 0 _ (d.toList[0]'(by rw[<-g];simp)) rfl (aj _);refine⟨Rb q ?_ p (o 0 sw) A B,sw⟩;rw[World.cell?,e];simp
   .simp at x
  .simp at x
end Cad
