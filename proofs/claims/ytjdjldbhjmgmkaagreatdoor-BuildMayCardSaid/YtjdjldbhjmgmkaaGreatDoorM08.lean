/- Words, names, runs of octets. -/
import Derived.Test.YtjdjldbhjmgmkaaGreatDoorM07
import Derived.StillTailTactics
import Derived.RangeFuncNested
import Derived.RangeFuncBound
import Derived.OwnWalkIn
import Derived.TacticsInMore
import Derived.LoopNIn
import Derived.LoopIn
import Derived.Maps.AppendAt
namespace Cad
open Go Go.Proofs
open List renaming length->X
open IntKind renaming wrap->Γ,i64->Δ
open AV renaming agg->Qd
open Tr renaming val->Q8
open Sh renaming bool->Q7,str->Q6
open Bool renaming true->O,false->S
open Option renaming none->Q2,some->M
open Decidable renaming decide->N
open Tr (chk br)
open AV (nils agg tup ptr kb str)
open AV renaming str->I,sl->T
open Cad renaming ai->L,ow->W,Sem->J,ze->K
noncomputable section
def swT{β:Type}(l:β->zT)(s:zK):List (zK×β)->β->Tr zT
 |[],d=>.ok (l d)
 |(w,b)::r,d=>.br (s==w) (.ok (l b)) (swT l s r d)
def UC{β:Type}(s:zK):List (zK×β)->β->β
 |[],d=>d
 |(w,b)::r,d=>if s==w then b else UC s r d
theorem Mc{β:Type}{x:β->zT}{s:zK}{d:β}{Φ:zT->Prop}:∀(l:List (zK×β)),Φ (x (UC s l d))->(swT x s l d).Sat Φ
 |[],h=>h
 | (w,b)::r,h=>by
  refine⟨λa=>?_,λa=>Mc r ?_⟩
  .simp only[UC]at h;rw[zf a]at h;exact h
  grind[UC]
def G0:List (zK×Bool):=[(X4,O),([79,82],O),([78,79,84],O),([73,83],O),(Hd,O),(Kd,O),(Kc,O),(zd3,O),(zef,O),(DM,O),(DN,O),(DL,O),([75,69,89],O),([85,78,73,81,85,69],O),(zsq,O),(jh,O),(zd7,O),(zd9,O),(zea,O),(zeh,O),(zeg,O),([83,69,84],O),(mQ,O),(zd5,O),(ww,O),(zee,O),(zd8,O),(Vt,O),([87,82,73,84,69],O),(He,O),([84,79],O),(zec,O),(zeb,O),(Vq,O),(Vs,O),(Vr,O),(Hc,O),(Hf,O)]
def BS:List (zK×Int):=[(pt,0),(fh,0),(ox,1),(qy,1),(ji,2),(wy,2),([61],2),([60],2),([43],2),([45],2)]
def kd(s:zK):Bool:=UC s G0 S
def dT(s:zK):Int:=UC s BS (-1)
def aD(c:Int):Bool:=bif N (c>=48)then N (c<=57)else S
def bt(c:Int):Bool:=bif N (c>=97)then
  bif N (c<=122)then O else bif N (c>=65)then N (c<=90)else S
 else bif N (c>=65)then N (c<=90)else S
def cv(c:Int):Bool:=bif bt c then O else bif aD c then O else c==95
def vC:ct:=(((zsT.aut 308 Tryz.f308 1).aut 309 Tryz.f309 1).aut 307 Tryz.f307 1).aut 269 Tryz.f269 0
theorem oA:zw vC:=by refine jp (jp (jp (jp YP ?_) ?_) ?_) ?_<;>(refine⟨?_,?_,?_,?_⟩<;>kernel_rfl)
theorem zxQ(s:zK):run vC 0 (λ_=>{}) Tryz.f174.results.toList 400 (bu Tryz.f174) (bl Tryz.f174.ntmps [.str s] [])=swT (λb=>.ret (.kb b) []) s G0 S:=kw
theorem zvd:zZ vC.P 174 Tryz.f174 1:=cI kw
theorem zq9:FK 174 (vQ [.str] [.bool] λx=>M (kd x.1,())):=by
 refine yE zvd λx y a C h=>?_
 cases a;refine em (n0:=0) oA zvd (λid _=>h id) (λ_=>{}) 400 ?_;have e:jn ([Q6].map M) x=[.str x.1]:=rfl;rw[e,zxQ];exact Mc G0 rfl
theorem zyd(s:zK):run vC 0 (λ_=>{}) Tryz.f272.results.toList 400 (bu Tryz.f272) (bl Tryz.f272.ntmps [.str s] [])=swT (λb=>.ret (.int .i64 b) []) s BS (-1):=kw
theorem zvv:zZ vC.P 272 Tryz.f272 1:=cI kw
theorem zrx:FK 272 (vQ [.str] [zk] λx=>M (dT x.1,())):=by
 refine yE zvv λx y a C h=>?_
 cases a;refine em (n0:=0) oA zvv (λid _=>h id) (λ_=>{}) 400 ?_;have e:jn ([Q6].map M) x=[.str x.1]:=rfl;rw[e,zyd];exact Mc BS rfl
def dQ(p:Int->Bool):zK->Nat
 |[]=>0
 |c::r=>if p c.toNat then dQ p r+1 else 0
def bH(f m:Int->Bool):zK->Nat
 |[]=>0
 |c::r=>if f c.toNat then dQ m r+1 else 0
variable {E:ct}{C:eW}{t:List Item}{s:St}{Q:AV->List AO->Prop}
theorem Reach.strLen{fn:FuncId}(j:Nat)(x:zK)(e:s.tmps[j]?=M (.str x))(h:X x<=aE->Reach E C fn t s Q):Reach E C fn t s Q:=by
 intro b g a w U m i k c l;refine h ?_ b g a w U m i k c l;have d:j<a.tmps.toList.length:=by rw[<-c.tm.len];exact(dC.1 e).1
 have:=c.tm.rv j _ _ e (af d);generalize a.tmps.toList[j]=v at this;cases this with
 |str _ h=>exact h
abbrev Of:Nat->aY:=λ_=>{slots:=[1,2,5]}
abbrev Sf(a b c d:AV)(s:zK)(n:Int):St:={
 tmps:=(tm 31 [(1,I s),(2,ptr 0 0),(5,L n)]),
 heap:=[AO.box [a,b,c,d]]}
abbrev zoM(a b c d:AV)(p:Int->Bool)(s:zK)(n:Int):Tr zT:=
 chk (cond (N (n<↑(X s))) (zL n (X s)) O)
  (br (cond (N (n<↑(X s))) (p ↑(List.getD s n.toNat 0).toNat) S)
   (Tr.ok (zT.head 4 (ap Tryz.f270 4) (Sf a b c d s (Γ Δ (n+1)))))
   (Tr.ok (zT.ret (L n) [])))
theorem zfn:zZ vC.P 270 Tryz.f270 2:=cI kw
theorem zlY{C:eW}(g:∀id,0<=id->C.ρ0 id=Q2)(a b c d:AV)(p:Int->Bool)(s:zK)
  (e:∀n,run vC 0 Of Tryz.f270.results.toList 300 (ap Tryz.f270 4) (Sf a b c d s n)=zoM a b c d p s n) (m:X s<=aE):∀(k i:Nat),X s-i=k->i<=X s->
  Reach vC C 270 (ap Tryz.f270 4) (Sf a b c d s i) (λr h=>(r,h)=(.int .i64 ((i+dQ p (s.drop i):Nat):Int),[]))
 | k,i,l,o=>by
  subst l;refine em oA zfn g Of 300 ?_;rw[e];refine⟨?_,λh=>?_,λh=>?_⟩
  .grind[zL]
  .have x:i<X s:=by
    by_cases x:i<X s
    .exact x
    .simp_all
   have j:N ((i:Int)<X s)=O:=by simpa using x
   rw[j,dm s _ x,aN]at h;rw[ij x];simp only[dQ];rw[zf h,zu i W,show i+(dQ p (List.drop (i+1) s)+1)=(i+1)+dQ p (List.drop (i+1) s) by omega];exact zlY g a b c d p s e m (X s-(i+1)) (i+1) rfl W
  .have:dQ p (s.drop i)=0:=by
    by_cases x:i<X s
    .grind[List.drop_eq_getElem_cons,dQ]
    .rw[HP W];rfl
   rw[this];rfl
 termination_by k=>k
theorem zvT(s:zK)(n:Int):run vC 0 Of Tryz.f270.results.toList 300 (ap Tryz.f270 4) (Sf (L 1) (L 16) (AV.clo (Fn.func 308) [] []) (AV.clo (Fn.func 307) [] []) s n)=zoM (L 1) (L 16) (AV.clo (Fn.func 308) [] []) (AV.clo (Fn.func 307) [] []) cv s n:=kw
theorem zta(s:zK):run vC 0 Of Tryz.f270.results.toList 300 (bu Tryz.f270) (bl Tryz.f270.ntmps [.agg [(L 1),(L 16),(AV.clo (Fn.func 308) [] []),(AV.clo (Fn.func 307) [] [])],.str s] [])=
 chk (cond (s==[]) O (zL 0 (X s)))
  (br (cond (s==[]) O (!bt ↑(List.getD s (Int.toNat 0) 0).toNat)) (Tr.ok (zT.ret (L 0) []))
   (Tr.ok (zT.head 4 (ap Tryz.f270 4) (Sf (L 1) (L 16) (AV.clo (Fn.func 308) [] []) (AV.clo (Fn.func 307) [] []) s 1)))):=kw
theorem zlV(a:∀id,0<=id->C.ρ0 id=Q2)(s:zK)(b:X s<=aE):Reach vC C 270 (bu Tryz.f270) (bl Tryz.f270.ntmps [.agg [(L 1),(L 16),(AV.clo (Fn.func 308) [] []),(AV.clo (Fn.func 307) [] [])],.str s] []) (λr h=>(r,h)=(.int .i64 (bH bt cv s:Nat),[])):=by
 refine em (n0:=0) oA zfn a Of 300 ?_;rw[zta];cases s with
 |nil=>exact⟨rfl,λ_=>rfl,λh=>by cases h⟩
 | cons c r=>
  refine⟨by simp[zL],λh=>?_,λh=>?_⟩
  .have x:bt ↑c.toNat=S:=by simpa using h
   simp only[bH,x];rfl
  .have x:bt ↑c.toNat=O:=by simpa using h
   have:=zlY a (L 1) (L 16) (AV.clo (Fn.func 308) [] []) (AV.clo (Fn.func 307) [] []) cv (c::r) (zvT (c::r)) b _ 1 rfl sw;simp only[bH,x,zj];rw[show 1+dQ cv ((c::r).drop 1)=dQ cv r+1 by simp[kS]]at this;exact this
theorem zvU(s:zK)(n:Int):run vC 0 Of Tryz.f270.results.toList 300 (ap Tryz.f270 4) (Sf (L 2) (L 19) (AV.clo (Fn.func 309) [] []) (AV.clo (Fn.func 309) [] []) s n)=zoM (L 2) (L 19) (AV.clo (Fn.func 309) [] []) (AV.clo (Fn.func 309) [] []) aD s n:=kw
theorem ztb(s:zK):run vC 0 Of Tryz.f270.results.toList 300 (bu Tryz.f270) (bl Tryz.f270.ntmps [.agg [(L 2),(L 19),(AV.clo (Fn.func 309) [] []),(AV.clo (Fn.func 309) [] [])],.str s] [])=
 chk (cond (s==[]) O (zL 0 (X s)))
  (br (cond (s==[]) O (!aD ↑(List.getD s (Int.toNat 0) 0).toNat)) (Tr.ok (zT.ret (L 0) []))
   (Tr.ok (zT.head 4 (ap Tryz.f270 4) (Sf (L 2) (L 19) (AV.clo (Fn.func 309) [] []) (AV.clo (Fn.func 309) [] []) s 1)))):=kw
theorem zlW(a:∀id,0<=id->C.ρ0 id=Q2)(s:zK)(b:X s<=aE):Reach vC C 270 (bu Tryz.f270) (bl Tryz.f270.ntmps [.agg [(L 2),(L 19),(AV.clo (Fn.func 309) [] []),(AV.clo (Fn.func 309) [] [])],.str s] []) (λr h=>(r,h)=(.int .i64 (bH aD aD s:Nat),[])):=by
 refine em (n0:=0) oA zfn a Of 300 ?_;rw[ztb];cases s with
 |nil=>exact⟨rfl,λ_=>rfl,λh=>by cases h⟩
 | cons c r=>
  refine⟨by simp[zL],λh=>?_,λh=>?_⟩
  .have x:aD ↑c.toNat=S:=by simpa using h
   simp only[bH,x];rfl
  .have x:aD ↑c.toNat=O:=by simpa using h
   have:=zlY a (L 2) (L 19) (AV.clo (Fn.func 309) [] []) (AV.clo (Fn.func 309) [] []) aD (c::r) (zvU (c::r)) b _ 1 rfl sw;simp only[bH,x,zj];rw[show 1+dQ aD ((c::r).drop 1)=dQ aD r+1 by simp[kS]]at this;exact this
def G65:fz [Q2,M .str]:=λx h=>match x,h with
 |(.agg [.int .i64 1,.int .i64 16,.clo (.func 308) [] [],.clo (.func 307) [] []],s,_),[]=>.ok (.int .i64 (bH bt cv s:Nat),[])
 |(.agg [.int .i64 2,.int .i64 19,.clo (.func 309) [] [],.clo (.func 309) [] []],s,_),[]=>.ok (.int .i64 (bH aD aD s:Nat),[])
 |_,_=>.err
theorem zrG:FK 270 (bj [Q2,M .str] G65):=by
 refine dw zfn λx d c h C b=>?_
 unfold G65 at h;split at h
 .simp only[Tr.val_ok,bG]at h;subst h;rename_i _ _ s u;have e:jn [Q2,M Q6] (Qd [(L 1),(L 16),(AV.clo (Fn.func 308) [] []),(AV.clo (Fn.func 307) [] [])],s,u)=[Qd [(L 1),(L 16),(AV.clo (Fn.func 308) [] []),(AV.clo (Fn.func 307) [] [])],.str s]:=rfl;rw[e];exact Reach.strLen 1 s rfl λa=>zlV b s a
 .simp only[Tr.val_ok,bG]at h;subst h;rename_i _ _ s u;have e:jn [Q2,M Q6] (Qd [(L 2),(L 19),(AV.clo (Fn.func 309) [] []),(AV.clo (Fn.func 309) [] [])],s,u)=[Qd [(L 2),(L 19),(AV.clo (Fn.func 309) [] []),(AV.clo (Fn.func 309) [] [])],.str s]:=rfl;rw[e];exact Reach.strLen 1 s rfl λa=>zlW b s a
 .simp at h
abbrev lu:Sh:=.pr (.int .i64) .str
abbrev dA:=J lu
def zev:ct:=((vC.add 174 (vQ [.str] [.bool] λx=>M (kd x.1,()))).add 272 (vQ [.str] [zk] λx=>M (dT x.1,()))).add 270 (bj [Q2,M .str] G65)
theorem NB:zw zev:=((oA.add zq9).add zrx).add zrG
def sB(s:zK):Bool:=bif N ((X s:Int)>=1)then
  bif N ((X s:Int)<=16)then(bH bt cv s:Int)==↑(X s)else S
 else S
def g49(x:zF ([lu].map M)):Option (zF ([Q7].map M)):=if x.1.1=1 then M (sB x.1.2,())else Q2
theorem zx9(s:zK):(run zev 0 unr Tryz.f225.results.toList 400 (bu Tryz.f225) (bl Tryz.f225.ntmps [.agg [.int .i64 1,.str s]] [])).val=M (.ret (.bool (sB s)) []):=kw
theorem zvs:zZ zev.P 225 Tryz.f225 1:=cI kw
theorem zrs:FK 225 (vQ [lu] [.bool] g49):=by
 refine yE zvs λx y h C b=>?_
 have⟨⟨k,s⟩,u⟩:=x;unfold g49 at h;split at h
 next c=>have a:k=1:=c;subst a;cases h;have e:jn ([lu].map M) (((1,s),u):zF ([lu].map M))=[.agg [.int .i64 1,.str s]]:=rfl;rw[e];exact o7 (n0:=0) NB zvs (λid _=>b id) (zx9 s) rfl
 .cases h
def zsU:ct:=zev.add 225 (vQ [lu] [.bool] g49)
theorem YT:zw zsU:=NB.add zrs
def zsV:ct:=zsU.aut 173 Tryz.f173 1
theorem YU:zw zsV:=jp YT (cI kw)
def VU:ct:=zsV.aut 107 Tryz.f107 1
theorem ND:zw VU:=jp YU (cI kw)
open Go Go.Proofs Go.RowKit Go.Lib
variable {w b:World}
theorem lv.below(h:Below w.heap.size w b):lv w b:=
 ⟨h.size,h.os,h.output,h.tape,λa x=>Bk (h.block a.block x)⟩
variable {v:Value}
theorem fE{U:Nat->Prop}{r:AV}{l:List AO}{a:Nat->Option Value}(e:fB C w U a (λj=>l.getD j .dead))(k:∀id,X l<=id->a id=Q2)
  (n:∀id v,C.ρ0 id=M v->a id=M v) (d:Wd E.gl C w U) (i:Below w.heap.size w b) (q:Rv b U a r v):Vg E C (λt h=>(t,h)=(r,l)) (.returned v) b:=by
 have m:∀x,x<w.heap.size->b.heap[x]?=w.heap[x]?:=i.block;refine⟨v,r,l,U,a,rfl,rfl,q,⟨λid=>?_,e.inj,e.blk⟩,k,n,⟨d.ext.trans (lv.below i),λx c p=>?_,λx s=>ia (d.ub x s) i.size,d.u1,d.u2,λg=>?_⟩⟩
 .exact(e.ob id).mono i.size (λx c _=>m x c) (λ_ _ h=>h) (λ_ _ h=>h) (λx o=>⟨m x ((e.ob id).inU o).2,((e.ob id).inU o).1⟩)
 .rw[m x (ia c d.ext.sz)];exact d.same x c p
 .exact(d.gl g).mono i.size (λx c _=>m x c) (λ_ _ h=>h) (λ_ _ h=>h)
def zmr:ct:=VU.aut 98 Tryz.f98 1
theorem zvg:zZ VU.P 98 Tryz.f98 1:=cI kw
theorem YV:zw zmr:=jp ND zvg
def Fq(c:Int):Bool:=bif N (c<32)then O else N (c>126)
theorem zxW(c:Int):((bj (List.replicate 1 Q2) (fg VU Tryz.f98 (List.replicate 1 Q2))) [.int .i32 c] (λ_=>.dead) 0).val=M {val:=.bool (Fq c)}:=kw
theorem zon(w:World)(U:Nat->Prop)(n:Dr VU.gl w U)(o:∀b,U b->b<w.heap.size):PredGrows Tryz.prog 98 #[] (λr=>Fq r) w:=by
 intro a x t l;have p:FK 98 (bj (List.replicate 1 Q2) (fg VU Tryz.f98 (List.replicate 1 Q2))):=cj _ ND zvg;have q:di a U (λ_=>Q2) [.int .i32 (x:Int)] [.int .i32 (x:Int)]:=by
  refine⟨rfl,λj c v m k=>?_⟩;cases j with
  | zero=>
   simp at m k;subst m;subst k;refine .int _ _ ⟨?_,?_⟩
   .show(-2147483648:Int)<=x;omega
   .show(x:Int)<=2147483647;omega
  |succ j=>simp at m
 have:=(p.calls a U (λ_=>Q2) (λ_=>.dead) 0 [.int .i32 (x:Int)] [.int .i32 (x:Int)] _ [] (zxW x) q (λb i=>ia (o b i) l.size) (λg=>(n g).mono l.size (λb i _=>l.block b i) (λ_ _ h=>h) (λ_ _ h=>h)) ⟨sw,sw⟩ (by simp[AV.idsL,AV.ids]) sw sw).1;refine this.mono ?_;rintro e u ⟨v,s,y,rfl,d⟩;have k:=d.val;cases k;exact⟨rfl,⟨d.ext.os,d.ext.tape,d.ext.out,d.ext.sz,λb i=>d.same b i sw⟩⟩
def rM(s:zK):Int:=Lib.idxFunc (λr=>Fq r) O ⟨s.toArray⟩
def G36:fz [M .str,Q2]:=λx h=>match x,h with
 |(s,.clo (.func 98) [] [],_),[]=>.ok (.int .i64 (rM s),[])
 |_,_=>.err
theorem zxC:Go.Proofs.Enters Tryz.prog 98:=by
  cases h:Tryz.f98.body with
  | none => have:Tryz.f98.body.isNone=false:=by kernel_rfl
            rw[h]at this;cases this
  |some c=>exact Go.Proofs.enters_of (fn:=Tryz.f98) kw kw h
theorem zrf:FK 99 (bj [M .str,Q2] G36):=by
 refine fS (E:=zmr) ⟨Tryz.f99,kw,kw,kw⟩ λx F y c=>?_
 unfold G36 at c;split at c
 .rename_i s u;simp only[Tr.val_ok,bG]at c;subst c;intro C w U ρ v _ a n h j d;have t:=a.len
  match v,t,a with
  | [z,A],_,a=>
   have l:=a.rv 0 (.str s) z rfl rfl;have m:=a.rv 1 (.clo (.func 98) [] []) A rfl rfl;cases l with
   |str _ H=>
   cases m with
   |clo _ _ _ D B q p _ _=>
   have i:D=[]:=Dz q.symm;have g:B=[]:=Dz p.symm;subst i;subst g;have:=Tryz.strings_IndexFunc_grows 98 #[] zxC (λr=>Fq r) ⟨s.toArray⟩ w (zon w U d.gl d.ub);refine this.mono ?_;rintro e P ⟨rfl,o⟩;refine fE n h j d o (.int _ _ ?_);have b:=Lib.idxFunc_range (λr=>Fq r) O ⟨s.toArray⟩;have k:(⟨s.toArray⟩:ByteArray).size=X s:=by simp[ByteArray.size]
   have G:aE=9223372036854775807:=rfl;rw[k]at b;change rM s=-1\/(0<=rM s/\rM s<X s)at b;refine⟨?_,?_⟩
   .show(-9223372036854775808:Int)<=_;omega
   .show _<=(9223372036854775807:Int);omega
 .simp at c
def wL:ct:=zmr.add 99 (bj [M .str,Q2] G36)
theorem lI:zw wL:=YV.add zrf
abbrev TS:=J Q6
abbrev LX:=List (J Sh.expr)
abbrev LC:=aV
abbrev LS:=List (J Q6)
abbrev LV:=zr
abbrev LI:=ed
abbrev LF:=dJ
abbrev V:=zp
def bf(x:zp):J Q7:=if(x.1==0)=O then if(x.2.1!=0)=O then S else x.2.2==[]else if(x.1==1)=O then x.2.2==[]else if(x.1==2)=O then bif x.2.1==0 then bif N ((X x.2.2:Int)<=40)then N (rM x.2.2<0)else S else S else if(x.1==3)=O then bif x.2.1==0 then x.2.2==[]else bif x.2.1==1 then x.2.2==[]else S else S
theorem zu9:zZ wL.P 39 Tryz.f39 1:=cI kw
theorem zxM(x:zp):rn wL 0 (λ_=>{ }) Tryz.f39 [zX K x] []=br (x.1==0) (br (x.2.1!=0) (Tr.ok (zT.ret (kb S) [])) (Tr.ok (zT.ret (AV.bool (x.2.2==[])) []))) (br (x.1==1) (Tr.ok (zT.ret (AV.bool (x.2.2==[])) [])) (br (x.1==2) (Tr.ok (zT.ret (AV.bool (cond (x.2.1==0) (cond (N ((X x.2.2:Int)<=40)) (N (rM x.2.2<0)) S) S)) [])) (br (x.1==3) (Tr.ok (zT.ret (AV.bool (cond (x.2.1==0) (x.2.2==[]) (cond (x.2.1==1) (x.2.2==[]) S))) [])) (Tr.ok (zT.ret (kb S) []))))):=kw
def F21:ah:=aX [K] [Q7] λx=>(bf x.1,())
theorem zq5:FK 39 F21:=by
 refine aw zu9 λx C h=>?_
 refine bA lI zu9 (λid _=>h id) (zxM x.1) ?_;simp only[Q8,bf];repeat' split
 all_goals rfl
def bw(x:zy):zp:=if(x==0)=O then(0,0,[])else(3,Γ Δ (x-1),[])
theorem zvx:zZ wL.P 274 Tryz.f274 1:=cI kw
theorem zyf(x:zy):rn wL 0 (λ_=>{ }) Tryz.f274 [zX zk x] []=br (x==0) (Tr.ok (zT.ret (Qd [L 0,L 0,I []]) [])) (Tr.ok (zT.ret (Qd [L 3,L (Γ Δ (x-1)),I []]) [])):=kw
def F57:ah:=aX [zk] [K] λx=>(bw x.1,())
theorem zrz:FK 274 F57:=by
 refine aw zvx λx C h=>?_
 refine bA lI zvx (λid _=>h id) (zyf x.1) ?_;simp only[Q8,bw];repeat' split
 all_goals rfl
def zo6:ah:=bj (List.replicate 1 Q2) (fg wL Tryz.f182 (List.replicate 1 Q2))
theorem zjJ:FK 182 zo6:=cj _ lI (cI kw)
def zo7:ah:=bj (List.replicate 1 Q2) (fg wL Tryz.f183 (List.replicate 1 Q2))
theorem zjK:FK 183 zo7:=cj _ lI (cI kw)
def zo8:ah:=bj (List.replicate 1 Q2) (fg wL Tryz.f184 (List.replicate 1 Q2))
theorem zjL:FK 184 zo8:=cj _ lI (cI kw)
def na:=wL.addL [(39,F21),(274,F57),(182,zo6),(183,zo7),(184,zo8)]
theorem jQ:zw na:=lI.addL<|fc zq5<|fc zrz<|fc zjJ<|fc zjK<|fc zjL jb
def ak(x:zp):zp:=if(!bf x)=O then(0,0,[])else x
theorem zvB:zZ na.P 112 Tryz.f112 1:=cI kw
theorem zyj(x:zp):rn na 0 (λ_=>{ }) Tryz.f112 [zX K x] []=br (!bf x) (Tr.ok (zT.ret (Qd [L 0,L 0,I []]) [])) (Tr.ok (zT.ret (Qd [L x.1,L x.2.1,I x.2.2]) [])):=kw
def F61:ah:=aX [K] [K] λx=>(ak x.1,())
theorem zrE:FK 112 F61:=by
 refine aw zvB λx C h=>?_
 refine bA jQ zvB (λid _=>h id) (zyj x.1) ?_;simp only[Q8,ak];repeat' split
 all_goals rfl
def eT(x:zp):zy:=if(cond (x.1!=3) O (!bf x))=O then 0 else Γ Δ (1+x.2.1)
theorem zvw:zZ na.P 273 Tryz.f273 1:=cI kw
theorem zye(x:zp):rn na 0 (λ_=>{ }) Tryz.f273 [zX K x] []=br (cond (x.1!=3) O (!bf x)) (Tr.ok (zT.ret (L 0) [])) (Tr.ok (zT.ret (L (Γ Δ (1+x.2.1))) [])):=kw
def F56:ah:=aX [K] [zk] λx=>(eT x.1,())
theorem zry:FK 273 F56:=by
 refine aw zvw λx C h=>?_
 refine bA jQ zvw (λid _=>h id) (zye x.1) ?_;simp only[Q8,eT];repeat' split
 all_goals rfl
def ee(x:J Q7):zp:=if x=O then bw 2 else bw 1
theorem zvz:zZ na.P 275 Tryz.f275 1:=cI kw
theorem zyh(x:J Q7):rn na 0 (λ_=>{ }) Tryz.f275 [zX Q7 x] []=br x (Tr.ok (zT.ret (Qd [L (bw 2).1,L (bw 2).2.1,I (bw 2).2.2]) [])) (Tr.ok (zT.ret (Qd [L (bw 1).1,L (bw 1).2.1,I (bw 1).2.2]) [])):=kw
def F59:ah:=aX [Q7] [K] λx=>(ee x.1,())
theorem zrB:FK 275 F59:=by
 refine aw zvz λx C h=>?_
 refine bA jQ zvz (λid _=>h id) (zyh x.1) ?_;simp only[Q8,ee];repeat' split
 all_goals rfl
def ug(h x:zy):zy:=if(h !=h)=O then if(x !=x)=O then 0 else -1 else if(x !=x)=O then 1 else if N (h<x)=O then -1 else if N (h>x)=O then 1 else 0
theorem zvD:zZ na.P 114 Tryz.f114 2:=cI kw
theorem zyn(h x:zy):rn na 0 (λ_=>{ }) Tryz.f114 [zX zk h,zX zk x] []=br (h !=h) (br (x !=x) (Tr.ok (zT.ret (L 0) [])) (Tr.ok (zT.ret (L (-1)) []))) (br (x !=x) (Tr.ok (zT.ret (L 1) [])) (br (N (h<x)) (Tr.ok (zT.ret (L (-1)) [])) (br (N (h>x)) (Tr.ok (zT.ret (L 1) [])) (Tr.ok (zT.ret (L 0) []))))):=kw
def F71:ah:=aX [zk,zk] [zk] λx=>(ug x.1 x.2.1,())
theorem zrM:FK 114 F71:=by
 refine aw zvD λx C h=>?_
 refine bA jQ zvD (λid _=>h id) (zyn x.1 x.2.1) ?_;simp only[Q8,ug];repeat' split
 all_goals rfl
def ln(h x:zy):zy:=if(h !=h)=O then if(x !=x)=O then 0 else -1 else if(x !=x)=O then 1 else if N (h<x)=O then -1 else if N (h>x)=O then 1 else 0
theorem zvE:zZ na.P 115 Tryz.f115 2:=cI kw
theorem zyo(h x:zy):rn na 0 (λ_=>{ }) Tryz.f115 [zX zk h,zX zk x] []=br (h !=h) (br (x !=x) (Tr.ok (zT.ret (L 0) [])) (Tr.ok (zT.ret (L (-1)) []))) (br (x !=x) (Tr.ok (zT.ret (L 1) [])) (br (N (h<x)) (Tr.ok (zT.ret (L (-1)) [])) (br (N (h>x)) (Tr.ok (zT.ret (L 1) [])) (Tr.ok (zT.ret (L 0) []))))):=kw
def F72:ah:=aX [zk,zk] [zk] λx=>(ln x.1 x.2.1,())
theorem zrN:FK 115 F72:=by
 refine aw zvE λx C h=>?_
 refine bA jQ zvE (λid _=>h id) (zyo x.1 x.2.1) ?_;simp only[Q8,ln];repeat' split
 all_goals rfl
def px(h x:J Q6):zy:=if(!h==h)=O then if(!x==x)=O then 0 else -1 else if(!x==x)=O then 1 else if Op.bytesLess h x=O then -1 else if(!(Op.bytesLess h x||h==x))=O then 1 else 0
theorem zvF:zZ na.P 116 Tryz.f116 2:=cI kw
theorem zyp(h x:J Q6):rn na 0 (λ_=>{ }) Tryz.f116 [zX Q6 h,zX Q6 x] []=br (!h==h) (br (!x==x) (Tr.ok (zT.ret (L 0) [])) (Tr.ok (zT.ret (L (-1)) []))) (br (!x==x) (Tr.ok (zT.ret (L 1) [])) (br (Op.bytesLess h x) (Tr.ok (zT.ret (L (-1)) [])) (br (!(Op.bytesLess h x||h==x)) (Tr.ok (zT.ret (L 1) [])) (Tr.ok (zT.ret (L 0) []))))):=kw
def F73:ah:=aX [Q6,Q6] [zk] λx=>(px x.1 x.2.1,())
theorem zrO:FK 116 F73:=by
 refine aw zvF λx C h=>?_
 refine bA jQ zvF (λid _=>h id) (zyp x.1 x.2.1) ?_;simp only[Q8,px];repeat' split
 all_goals rfl
def lq:=na.addL [(112,F61),(273,F56),(275,F59),(114,F71),(115,F72),(116,F73)]
theorem fU:zw lq:=jQ.addL<|fc zrE<|fc zry<|fc zrB<|fc zrM<|fc zrN<|fc zrO jb
variable {k:FuncId}{n:Nat}{keep:Nat->aY}{x:Tr zT}
theorem Gb{f:Func}{n0:Nat}(b:zw E)(c:zZ E.P k f n)(a:∀id,n0<=id->C.ρ0 id=Q2){m:Nat}
     {l:zT} (e:run E n0 keep f.results.toList m t s=x) (h:x.val=M l) (d:kR E C k Q l):Reach E C k t s Q:=
 em b c a keep m (by rw[e];exact Tr.sat_of_val h d)
def iy{α:Type}(Φ:α->Prop):Option α->Prop
 |some a=>Φ a
 |none=>False
theorem zJ{f:Func}{n0:Nat}(c:zw E)(d:zZ E.P k f n)(b:∀id,n0<=id->C.ρ0 id=Q2){m:Nat}
     (e:run E n0 keep f.results.toList m t s=x) (h:iy (kR E C k Q) x.val):Reach E C k t s Q:=by
 cases a:x.val with
 |none=>rw[a]at h;exact h.elim
 |some l=>rw[a]at h;exact Gb c d b e a h
def NQ{α β R:Type}(f:β->Nat->α->β⊕R)(h:β->R):List α->Nat->β->R
 |[],_,b=>h b
 | x::r,i,b=>match f b i x with
  |.inl a=>NQ f h r (i+1) a
  |.inr y=>y
def zdB{E:ct}{C:eW}{k:FuncId}{K:List Item}{β R:Type}(s:β->Nat->St)(Q:R->AV->List AO->Prop)(b:β)(i:Nat):β⊕R->Prop
 |.inl h=>∀q,Reach E C k K (s h (i+1)) q->Reach E C k K (s b i) q
 |.inr y=>Reach E C k K (s b i) (Q y)
theorem Gc{E:ct}{C:eW}{k:FuncId}{K:List Item}{α β R:Type}(l:List α)(s:β->Nat->St)(f:β->Nat->α->β⊕R)(c:β->R)(Q:R->AV->List AO->Prop)(h:β->Nat->Prop)
  (x:∀b i(o:i<X l),h b i->zdB (E:=E) (C:=C) (k:=k) (K:=K) s Q b i (f b i l[i])/\∀d,f b i l[i]=.inl d->h d (i+1))
  (a:∀b,h b (X l)->Reach E C k K (s b (X l)) (Q (c b))):∀(m i:Nat)(b:β),X l-i=m->i<=X l->h b i->Reach E C k K (s b i) (Q (NQ f c (l.drop i) i b))
 | 0,i,b,q,o,j=>by
  have:i=X l:=by omega
  subst this;rw[ky];exact a b j
 | m+1,i,b,q,o,j=>by
  have e:i<X l:=by omega
  rw[ij e];have⟨g,p⟩:=x b i e j;simp only[NQ];cases n:f b i l[i]with
  | inl d=>
   rw[n]at g;exact g _ (Gc l s f c Q h x a m (i+1) d W W (p d n))
  | inr y=>
   rw[n]at g;exact g
theorem zO{i:Nat}(h:i<n):N ((i:Int)<(n:Int))=O:=by simpa using h
theorem zM(n:Nat):N ((n:Int)<(n:Int))=S:=by simp
theorem zx{i:Nat}(h:i<n):zL (i:Int) n=O:=by simp[zL,h]
def Jg:List Int->Int
 |[]=>0
 |x::r=>if x !=0 then x else Jg r
abbrev zuC:Nat->aY:=λj=>if j=3 then{slots:=[3,6,7,8]}else{ }
abbrev Uy(i:Int)(l:ed)(h x:Int):St:={tmps:=(tm 18 [(3,L i),(6,T (Sh.int IntKind.i64) l),(7,L h),(8,L x)]),heap:=[]}
theorem zaz:zZ lq.P 113 Tryz.f113 1:=cI kw
theorem zym(k:ed):rn lq 0 zuC Tryz.f113 [T zk k] []=Tr.ok (zT.head 3 (ap Tryz.f113 3) (Uy 0 k (↑k.length) 0)):=kw
theorem Rz(h:Int)(l:ed)(x i:Int):rh lq 0 zuC Tryz.f113 3 (Uy h l x i)=br (N (i<x)) (chk (zL i (X l)) (br (l.getD i.toNat (zi (Sh.int IntKind.i64))!=h) (Tr.ok (zT.ret (L (l.getD i.toNat (zi (Sh.int IntKind.i64)))) [])) (Tr.ok (zT.head 3 (ap Tryz.f113 3) (Uy h l x (Γ Δ (i+1))))))) (Tr.ok (zT.ret (L h) [])):=kw
def f70:Unit->Nat->Int->Unit⊕Int:=λ_ _ x=>if x !=0 then .inr x else .inl ()
theorem Zh:∀(l:List Int)(i:Nat),NQ f70 (λ_=>0) l i ()=Jg l
 |[],_=>rfl
 | x::r,i=>by
  simp only[NQ,f70,Jg];split
  next h=>split at h<;>simp_all[Zh r (i+1)]
  next h=>split at h<;>simp_all
def F70:ah:=aX [.sl zk] [zk] λx=>(Jg x.1,())
theorem zrL:FK 113 F70:=by
 refine aw zaz λx C c=>?_
 have⟨l,u⟩:=x;refine Reach.len 0 zk l rfl λe=>?_
 refine Gb fU zaz (λid _=>c id) (zym l) rfl ?_
 have:=Gc (E:=lq) (C:=C) (k:=113) (K:=ap Tryz.f113 3) l (λ(_:Unit) i=>Uy 0 l (X l) i) f70 (λ_=>(0:Int)) (λy r h=>bb h [zk] r=M (y,())) (λ_ _=>True)
  (λb i a _=>⟨by
   unfold f70;split
   next h=>refine zJ fU zaz (λid _=>c id) (Rz _ _ _ _) ?_;simp only[Q8,zO a,zx a,dm l _ a,h,zj];rfl
   next h=>intro q d;refine zJ fU zaz (λid _=>c id) (Rz _ _ _ _) ?_;simp only[Q8,zO a,zx a,dm l _ a,h,zj,zu i W];exact d,λ_ _=>trivial⟩)
  (λb _=>by
   refine zJ fU zaz (λid _=>c id) (Rz _ _ _ _) ?_;simp only[Q8,zM];rfl) _ 0 () rfl W trivial
 rw[Zh]at this;exact this
def fJ(x h:zp):J Q7:=bif (ak x).1!=0 then(ak x).1==(ak h).1 else S
theorem zvy:zZ lq.P 222 Tryz.f222 2:=cI kw
theorem zyg(x h:zp):rn lq 0 (λ_=>{ }) Tryz.f222 [zX K x,zX K h] []=Tr.ok (zT.ret (AV.bool (cond ((ak x).1!=0) ((ak x).1==(ak h).1) S)) []):=kw
def F58:ah:=aX [K,K] [Q7] λx=>(fJ x.1 x.2.1,())
theorem zrA:FK 222 F58:=by
 refine aw zvy λx C h=>?_
 refine bA fU zvy (λid _=>h id) (zyg x.1 x.2.1) ?_;simp only[Q8,fJ];repeat' split
 all_goals rfl
def Hz(x h:zp):zp:=if(cond (eT x==1) O (eT h==1))=O then bw 1 else if(cond (eT x==2) (eT h==2) S)=O then bw 2 else bw 0
theorem zvh:zZ lq.P 229 Tryz.f229 2:=cI kw
theorem zxY(x h:zp):rn lq 0 (λ_=>{ }) Tryz.f229 [zX K x,zX K h] []=br (cond (eT x==1) O (eT h==1)) (Tr.ok (zT.ret (Qd [L (bw 1).1,L (bw 1).2.1,I (bw 1).2.2]) [])) (br (cond (eT x==2) (eT h==2) S) (Tr.ok (zT.ret (Qd [L (bw 2).1,L (bw 2).2.1,I (bw 2).2.2]) [])) (Tr.ok (zT.ret (Qd [L (bw 0).1,L (bw 0).2.1,I (bw 0).2.2]) []))):=kw
def F38:ah:=aX [K,K] [K] λx=>(Hz x.1 x.2.1,())
theorem zrh:FK 229 F38:=by
 refine aw zvh λx C h=>?_
 refine bA fU zvh (λid _=>h id) (zxY x.1 x.2.1) ?_;simp only[Q8,Hz];repeat' split
 all_goals rfl
def vOr(x h:zp):zp:=if(cond (eT x==2) O (eT h==2))=O then bw 2 else if(cond (eT x==1) (eT h==1) S)=O then bw 1 else bw 0
theorem zvi:zZ lq.P 230 Tryz.f230 2:=cI kw
theorem zxZ(x h:zp):rn lq 0 (λ_=>{ }) Tryz.f230 [zX K x,zX K h] []=br (cond (eT x==2) O (eT h==2)) (Tr.ok (zT.ret (Qd [L (bw 2).1,L (bw 2).2.1,I (bw 2).2.2]) [])) (br (cond (eT x==1) (eT h==1) S) (Tr.ok (zT.ret (Qd [L (bw 1).1,L (bw 1).2.1,I (bw 1).2.2]) [])) (Tr.ok (zT.ret (Qd [L (bw 0).1,L (bw 0).2.1,I (bw 0).2.2]) []))):=kw
def F39:ah:=aX [K,K] [K] λx=>(vOr x.1 x.2.1,())
theorem zri:FK 230 F39:=by
 refine aw zvi λx C h=>?_
 refine bA fU zvi (λid _=>h id) (zxZ x.1 x.2.1) ?_;simp only[Q8,vOr];repeat' split
 all_goals rfl
def Co(x:zp):zp:=if(eT x==2)=O then bw 1 else if(eT x==1)=O then bw 2 else bw 0
theorem zvk:zZ lq.P 232 Tryz.f232 1:=cI kw
theorem zx1(x:zp):rn lq 0 (λ_=>{ }) Tryz.f232 [zX K x] []=br (eT x==2) (Tr.ok (zT.ret (Qd [L (bw 1).1,L (bw 1).2.1,I (bw 1).2.2]) [])) (br (eT x==1) (Tr.ok (zT.ret (Qd [L (bw 2).1,L (bw 2).2.1,I (bw 2).2.2]) [])) (Tr.ok (zT.ret (Qd [L (bw 0).1,L (bw 0).2.1,I (bw 0).2.2]) []))):=kw
def F41:ah:=aX [K] [K] λx=>(Co x.1,())
theorem zrk:FK 232 F41:=by
 refine aw zvk λx C h=>?_
 refine bA fU zvk (λid _=>h id) (zx1 x.1) ?_;simp only[Q8,Co];repeat' split
 all_goals rfl
def kr(x:zp):zp:=ee ((ak x).1==0)
theorem zvq:zZ lq.P 237 Tryz.f237 1:=cI kw
theorem zx7(x:zp):rn lq 0 (λ_=>{ }) Tryz.f237 [zX K x] []=Tr.ok (zT.ret (Qd [L (ee ((ak x).1==0)).1,L (ee ((ak x).1==0)).2.1,I (ee ((ak x).1==0)).2.2]) []):=kw
def F47:ah:=aX [K] [K] λx=>(kr x.1,())
theorem zrq:FK 237 F47:=by
 refine aw zvq λx C h=>?_
 refine bA fU zvq (λid _=>h id) (zx7 x.1) ?_;simp only[Q8,kr];repeat' split
 all_goals rfl
def nc:=lq.addL [(113,F70),(222,F58),(229,F38),(230,F39),(232,F41),(237,F47)]
theorem jR:zw nc:=fU.addL<|fc zrL<|fc zrA<|fc zrh<|fc zri<|fc zrk<|fc zrq jb
def aG(x h:zp):zy:=Jg [ug (ak x).1 (ak h).1,ln (ak x).2.1 (ak h).2.1,px (ak x).2.2 (ak h).2.2]
theorem zvA:zZ nc.P 50 Tryz.f50 2:=cI kw
theorem zyi(x h:zp):rn nc 0 (λ_=>{ }) Tryz.f50 [zX K x,zX K h] []=Tr.ok (zT.ret (AV.int IntKind.i64 (Jg [ug (ak x).1 (ak h).1,ln (ak x).2.1 (ak h).2.1,px (ak x).2.2 (ak h).2.2])) []):=kw
def F60:ah:=aX [K,K] [zk] λx=>(aG x.1 x.2.1,())
theorem zrD:FK 50 F60:=by
 refine aw zvA λx C h=>?_
 refine bA jR zvA (λid _=>h id) (zyi x.1 x.2.1) ?_;simp only[Q8,aG];repeat' split
 all_goals rfl
def nX(x h:zp):zp:=if(!fJ x h)=O then(0,0,[])else ee (x.1==h.1&&(x.2.1==h.2.1&&(x.2.2==h.2.2&&O)))
theorem zvl:zZ nc.P 233 Tryz.f233 2:=cI kw
theorem zx2(x h:zp):rn nc 0 (λ_=>{ }) Tryz.f233 [zX K x,zX K h] []=br (!fJ x h) (Tr.ok (zT.ret (Qd [L 0,L 0,I []]) [])) (Tr.ok (zT.ret (Qd [L (ee (x.1==h.1&&(x.2.1==h.2.1&&(x.2.2==h.2.2&&O)))).1,L (ee (x.1==h.1&&(x.2.1==h.2.1&&(x.2.2==h.2.2&&O)))).2.1,I (ee (x.1==h.1&&(x.2.1==h.2.1&&(x.2.2==h.2.2&&O)))).2.2]) [])):=kw
def F42:ah:=aX [K,K] [K] λx=>(nX x.1 x.2.1,())
theorem zrl:FK 233 F42:=by
 refine aw zvl λx C h=>?_
 refine bA jR zvl (λid _=>h id) (zx2 x.1 x.2.1) ?_;simp only[Q8,nX];repeat' split
 all_goals rfl
def qI(x h:zp):zp:=if(cond (!fJ x h) O (x.1!=1))=O then(0,0,[])else if(cond (N (h.2.1>0)) (cond (N (Γ Δ (x.2.1+h.2.1)<x.2.1)) O (cond (N (h.2.1<0)) (N (Γ Δ (x.2.1+h.2.1)>x.2.1)) S)) (cond (N (h.2.1<0)) (N (Γ Δ (x.2.1+h.2.1)>x.2.1)) S))=O then(0,0,[])else(1,Γ Δ (x.2.1+h.2.1),[])
theorem zvn:zZ nc.P 155 Tryz.f155 2:=cI kw
theorem zx4(x h:zp):rn nc 0 (λ_=>{ }) Tryz.f155 [zX K x,zX K h] []=br (cond (!fJ x h) O (x.1!=1)) (Tr.ok (zT.ret (Qd [L 0,L 0,I []]) [])) (br (cond (N (h.2.1>0)) (cond (N (Γ Δ (x.2.1+h.2.1)<x.2.1)) O (cond (N (h.2.1<0)) (N (Γ Δ (x.2.1+h.2.1)>x.2.1)) S)) (cond (N (h.2.1<0)) (N (Γ Δ (x.2.1+h.2.1)>x.2.1)) S)) (Tr.ok (zT.ret (Qd [L 0,L 0,I []]) [])) (Tr.ok (zT.ret (Qd [L 1,L (Γ Δ (x.2.1+h.2.1)),I []]) []))):=kw
def F44:ah:=aX [K,K] [K] λx=>(qI x.1 x.2.1,())
theorem zrn:FK 155 F44:=by
 refine aw zvn λx C h=>?_
 refine bA jR zvn (λid _=>h id) (zx4 x.1 x.2.1) ?_;simp only[Q8,qI];repeat' split
 all_goals rfl
def nY(x h:zp):zp:=if(cond (!fJ x h) O (x.1!=1))=O then(0,0,[])else if(cond (N (h.2.1>0)) (cond (N (Γ Δ (x.2.1-h.2.1)>x.2.1)) O (cond (N (h.2.1<0)) (N (Γ Δ (x.2.1-h.2.1)<x.2.1)) S)) (cond (N (h.2.1<0)) (N (Γ Δ (x.2.1-h.2.1)<x.2.1)) S))=O then(0,0,[])else(1,Γ Δ (x.2.1-h.2.1),[])
theorem zvo:zZ nc.P 235 Tryz.f235 2:=cI kw
theorem zx5(x h:zp):rn nc 0 (λ_=>{ }) Tryz.f235 [zX K x,zX K h] []=br (cond (!fJ x h) O (x.1!=1)) (Tr.ok (zT.ret (Qd [L 0,L 0,I []]) [])) (br (cond (N (h.2.1>0)) (cond (N (Γ Δ (x.2.1-h.2.1)>x.2.1)) O (cond (N (h.2.1<0)) (N (Γ Δ (x.2.1-h.2.1)<x.2.1)) S)) (cond (N (h.2.1<0)) (N (Γ Δ (x.2.1-h.2.1)<x.2.1)) S)) (Tr.ok (zT.ret (Qd [L 0,L 0,I []]) [])) (Tr.ok (zT.ret (Qd [L 1,L (Γ Δ (x.2.1-h.2.1)),I []]) []))):=kw
def F45:ah:=aX [K,K] [K] λx=>(nY x.1 x.2.1,())
theorem zro:FK 235 F45:=by
 refine aw zvo λx C h=>?_
 refine bA jR zvo (λid _=>h id) (zx5 x.1 x.2.1) ?_;simp only[Q8,nY];repeat' split
 all_goals rfl
def UN(x _:zp):zp:=Co x
theorem zvj:zZ nc.P 231 Tryz.f231 2:=cI kw
theorem zx0(x h:zp):rn nc 0 (λ_=>{ }) Tryz.f231 [zX K x,zX K h] []=Tr.ok (zT.ret (Qd [L (Co x).1,L (Co x).2.1,I (Co x).2.2]) []):=kw
def F40:ah:=aX [K,K] [K] λx=>(UN x.1 x.2.1,())
theorem zrj:FK 231 F40:=by
 refine aw zvj λx C h=>?_
 refine bA jR zvj (λid _=>h id) (zx0 x.1 x.2.1) ?_;simp only[Q8,UN];repeat' split
 all_goals rfl
def My(x _:zp):zp:=kr x
theorem zvp:zZ nc.P 236 Tryz.f236 2:=cI kw
theorem zx6(x h:zp):rn nc 0 (λ_=>{ }) Tryz.f236 [zX K x,zX K h] []=Tr.ok (zT.ret (Qd [L (kr x).1,L (kr x).2.1,I (kr x).2.2]) []):=kw
def F46:ah:=aX [K,K] [K] λx=>(My x.1 x.2.1,())
theorem zrp:FK 236 F46:=by
 refine aw zvp λx C h=>?_
 refine bA jR zvp (λid _=>h id) (zx6 x.1 x.2.1) ?_;simp only[Q8,My];repeat' split
 all_goals rfl
def uC:=nc.addL [(50,F60),(233,F42),(155,F44),(235,F45),(231,F40),(236,F46)]
theorem lJ:zw uC:=jR.addL<|fc zrD<|fc zrl<|fc zrn<|fc zro<|fc zrj<|fc zrp jb
open Go Go.Proofs Go.Sort
set_option maxHeartbeats 4000000
theorem zu0(a:World)(x:Nat):Calls Tryz.prog 98 #[.int .i32 (x:Int)] a λe w=>e=.returned (.bool (Fq x))/\w=a:=
 (Tryz.odd63 x a).mono λe w h=>⟨by rw[h.1];unfold Fq;cases N ((x:Int)<32)<;>rfl,h.2⟩
theorem zuY(k n:Int)(s:zK)(a:World):Calls Tryz.prog 39 #[.agg #[.int .i64 k,.int .i64 n,.string ⟨s.toArray⟩]] a λe w=>e=.returned (.bool (bf (k,n,s)))/\RowKit.Below a.heap.size a w/\a.drawn<=w.drawn:=by
 have h:=λd=>Tryz.indexFunc64 (λr=>Fq r) ⟨s.toArray⟩ d zu0
 have j:Lib.idxFunc (λr=>Fq r) O ⟨s.toArray⟩=rM s:=rfl;rw[j]at h;have c:bf (k,n,s)=bf (k,n,s):=rfl;generalize b:bf (k,n,s)=R at c|-;clear c;unfold bf at b;generalize rM s=x at h b
 go_enter Tryz.func39,Tryz.ntmps39
 go_wp2_with (go_at_call 99;refine(h _).mono ?_;rintro e w ⟨rfl,g,i⟩)
 all_goals
  go_ret
  refine⟨?_,?_,?_⟩
  .rw[<-b];congr 2;simp_all<;>(rw[<-b];first|(rw[aC W];rfl)|(rw[beq_false_of_ne ‹¬n=0›];first|rfl|(rw[beq_false_of_ne ‹¬n=1›];rfl)))
  .first
   |exact(RowKit.Below.refl _ _).alloc (zQ _) _
   |exact((RowKit.Below.refl _ a).alloc (zQ _) _).trans (g.mono sw)
  .first
   |exact zQ _
   |exact i
theorem Xa(d w:World)(a b c x y z:Value)(h:RowKit.Below ((d.alloc (.cells #[a,b,c] 30)).alloc (.cells #[x,y,z] 30)).heap.size ((d.alloc (.cells #[a,b,c] 30)).alloc (.cells #[x,y,z] 30)) w):
  w.cell? ⟨d.heap.size,0,Q2⟩=M a/\w.cell? ⟨d.heap.size,1,Q2⟩=M b/\w.cell? ⟨d.heap.size,2,Q2⟩=M c/\
  w.cell? ⟨d.heap.size+1,0,Q2⟩=M x/\w.cell? ⟨d.heap.size+1,1,Q2⟩=M y/\w.cell? ⟨d.heap.size+1,2,Q2⟩=M z/\
  w.frozen? ⟨d.heap.size+1,0,Q2⟩=S/\w.frozen? ⟨d.heap.size+1,1,Q2⟩=S/\w.frozen? ⟨d.heap.size+1,2,Q2⟩=S/\w.heap[d.heap.size+1]?=M (.cells #[x,y,z] 30 (0,0)):=by
 have e:=h.block d.heap.size sg;have g:=h.block (d.heap.size+1) sw;have e0:((d.alloc (.cells #[a,b,c] 30)).alloc (.cells #[x,y,z] 30)).heap[d.heap.size]?=M (.cells #[a,b,c] 30 (0,0)):=(bP _ _ _ sw).trans (cP _ _);have i:((d.alloc (.cells #[a,b,c] 30)).alloc (.cells #[x,y,z] 30)).heap[d.heap.size+1]?=M (.cells #[x,y,z] 30 (0,0)):=by
  have:=cP (d.alloc (.cells #[a,b,c] 30)) (.cells #[x,y,z] 30)
  rwa [bC]at this
 rw[e0]at e;rw[i]at g;simp[World.cell?,World.frozen?,e,g]
theorem Od(k n:Int)(s:zK)(x:World):Calls Tryz.prog 112 #[.agg #[.int .i64 k,.int .i64 n,.string ⟨s.toArray⟩]] x λe w=>e=.returned (.agg #[.int .i64 (ak (k,n,s)).1,.int .i64 (ak (k,n,s)).2.1,.string ⟨(ak (k,n,s)).q.toArray⟩])/\RowKit.Below x.heap.size x w/\x.drawn<=w.drawn:=by
 have h:=λb=>zuY k n s b
 unfold ak;generalize bf (k,n,s)=R at h|-
 go_enter Tryz.func112,Tryz.ntmps112
 go_wp2_with (go_at_call 39;refine(h _).mono ?_;rintro e w ⟨rfl,a,d⟩;have⟨j,l,m,o,t,u,v,y,z,c⟩:=Xa x w (.int .i64 k) (.int .i64 n) (.string ⟨s.toArray⟩) (.int .i64 0) (.int .i64 0) (.string ⟨#[]⟩) a)
 all_goals
  have g:RowKit.Below x.heap.size x w:=(((RowKit.Below.refl _ x).alloc (zQ _) _).alloc sw _).trans (a.mono sg);have i:x.drawn<=w.drawn:=d;refine bodyPost_ret (results_cell_row rfl _ _ (x.heap.size+1) 30 _ (0,0) _ rfl (by simp[World.setCell,uy,c];rfl) Tryz.underlying30 rfl kw) rfl ⟨?_,?_,?_⟩
  .rfl
  .exact((g.setCell (p:=⟨x.heap.size+1,0,Q2⟩) sw _).setCell (p:=⟨x.heap.size+1,1,Q2⟩) sw _).setCell (p:=⟨x.heap.size+1,2,Q2⟩) sw _
  .exact i
set_option maxRecDepth 100000
theorem zag(x:Int)(h:World):Calls Tryz.prog 182 #[.int .i64 x] h λe w=>e=.returned (.bool S)/\w=h:=by
 go_enter Tryz.func182,Tryz.ntmps182
 go_wp2
 go_ret
 exact⟨sw,rfl⟩
theorem zah(x:Int)(h:World):Calls Tryz.prog 183 #[.int .i64 x] h λe w=>e=.returned (.bool S)/\w=h:=by
 go_enter Tryz.func183,Tryz.ntmps183
 go_wp2
 go_ret
 exact⟨sw,rfl⟩
theorem zai(x:ByteArray)(h:World):Calls Tryz.prog 184 #[.string x] h λe w=>e=.returned (.bool S)/\w=h:=by
 go_enter Tryz.func184,Tryz.ntmps184
 go_wp2
 go_ret
 exact⟨sw,rfl⟩
theorem Yc(x y:Int):ug x y=(ite (x<y) (-1) (ite (y<x) 1 0):Int):=by unfold ug;simp
theorem Vx(x y:Int):ln x y=(ite (x<y) (-1) (ite (y<x) 1 0):Int):=by unfold ln;simp
theorem zmj(x y:Int)(h:World):Calls Tryz.prog 114 #[.int .i64 x,.int .i64 y] h λe w=>e=.returned (.int .i64 (ug x y))/\w=h:=by
 have b:=λa=>zag x a
 have c:=λa=>zag y a
 rw[Yc]
 go_enter Tryz.func114,Tryz.ntmps114
 go_wp2_with (first|(go_at_call 182;refine(b _).mono ?_;rintro e w ⟨rfl,rfl⟩)|(go_at_call 182;refine(c _).mono ?_;rintro e w ⟨rfl,rfl⟩))
 all_goals
  go_ret
  refine⟨?_,rfl⟩;congr 2
theorem zmk(x y:Int)(h:World):Calls Tryz.prog 115 #[.int .i64 x,.int .i64 y] h λe w=>e=.returned (.int .i64 (ln x y))/\w=h:=by
 have b:=λa=>zah x a
 have c:=λa=>zah y a
 rw[Vx]
 go_enter Tryz.func115,Tryz.ntmps115
 go_wp2_with (first|(go_at_call 183;refine(b _).mono ?_;rintro e w ⟨rfl,rfl⟩)|(go_at_call 183;refine(c _).mono ?_;rintro e w ⟨rfl,rfl⟩))
 all_goals
  go_ret
  refine⟨?_,rfl⟩;congr 2
theorem zml(x y:zK)(h:World):Calls Tryz.prog 116 #[.string ⟨x.toArray⟩,.string ⟨y.toArray⟩] h λe w=>e=.returned (.int .i64 (px x y))/\w=h:=by
 have c:=λa=>zai ⟨x.toArray⟩ a
 have d:=λa=>zai ⟨y.toArray⟩ a
 have g:∀a,(binOp .gtr 9 (.string ⟨x.toArray⟩) (.string ⟨y.toArray⟩)).run Tryz.prog a=.ok (.bool (!(Op.bytesLess x y||x==y))) a:=λa=>by simp[binOp,Op.stringOp]
 have b:px x y=(ite (Op.bytesLess x y=O) (-1) (ite ((!(Op.bytesLess x y||x==y))=O) 1 0):Int):=by unfold px;simp
 rw[b];clear b
 go_enter Tryz.func116,Tryz.ntmps116
 go_wp2_with (first|(go_at_call 184;refine(c _).mono ?_;rintro e w ⟨rfl,rfl⟩)|(go_at_call 184;refine(d _).mono ?_;rintro e w ⟨rfl,rfl⟩))
 all_goals
  go_ret
  refine⟨?_,rfl⟩;simp_all
theorem zvY(x y z:Int)(b:Nat)(h:World)(i:h.cell? ⟨b,0,Q2⟩=M (.int .i64 x))(j:h.cell? ⟨b,1,Q2⟩=M (.int .i64 y))(k:h.cell? ⟨b,2,Q2⟩=M (.int .i64 z)):
  Calls Tryz.prog 113 #[.slice (M ⟨b,0,Q2⟩) 3 3] h λe w=>e=.returned (.int .i64 (Jg [x,y,z]))/\w=h:=by
 have g:Jg [x,y,z]=if x=0 then(ite (y=0) z y)else x:=by
  unfold Jg;unfold Jg;unfold Jg;unfold Jg;by_cases a:x=0<;>by_cases c:y=0<;>by_cases d:z=0<;>simp[a,c,d]
 rw[g];clear g
 go_enter Tryz.func113,Tryz.ntmps113
 go_wp2
 by_cases a:x=0
 .subst a;by_cases c:y=0
  .subst c;by_cases d:z=0
   .subst d;refine wp_loop_rounds 4 ?_
    (rw[rounds_succ];go_wp2)
    (rw[rounds_succ];go_wp2)
    (rw[rounds_succ];go_wp2)
    (rw[rounds_succ];go_wp2)
    go_ret
    exact⟨by simp[*],rfl⟩
   .refine wp_loop_rounds 4 ?_
    (rw[rounds_succ];go_wp2)
    (rw[rounds_succ];go_wp2)
    (rw[rounds_succ];go_wp2)
    go_ret
    exact⟨by simp[*],rfl⟩
  .refine wp_loop_rounds 4 ?_
   (rw[rounds_succ];go_wp2)
   (rw[rounds_succ];go_wp2)
   go_ret
   exact⟨by simp[*],rfl⟩
 .refine wp_loop_rounds 4 ?_
  (rw[rounds_succ];go_wp2)
  go_ret
  exact⟨by simp[*],rfl⟩
structure zwI (p:Prop):Prop where
 out:p
variable {i:Value}
theorem Oc{A:World}{p q:Nat}{a x y z:Value}(e0:A.heap[p]?=M (.cells #[v,a,i] 30 (0,0)))(e:A.heap[q]?=M (.cells #[x,y,z] 30 (0,0)))(h:RowKit.Below A.heap.size A b):
  b.heap[p]?=M (.cells #[v,a,i] 30 (0,0))/\b.heap[q]?=M (.cells #[x,y,z] 30 (0,0)):=
 ⟨(h.block p (mP.1 e0).1).trans e0,(h.block q (mP.1 e).1).trans e⟩
theorem rp{p:Nat}{g:Value}(e0:w.heap[p]?=M (.cells #[v,g,i] 30 (0,0))):
  w.cell? ⟨p,0,Q2⟩=M v/\w.cell? ⟨p,1,Q2⟩=M g/\w.cell? ⟨p,2,Q2⟩=M i/\w.frozen? ⟨p,0,Q2⟩=S/\w.frozen? ⟨p,1,Q2⟩=S/\w.frozen? ⟨p,2,Q2⟩=S:=by simp[World.cell?,World.frozen?,e0]
theorem zfw(k n:Int)(s:zK)(j l:Int)(m:zK)(h:World):Calls Tryz.prog 50 #[.agg #[.int .i64 k,.int .i64 n,.string ⟨s.toArray⟩],.agg #[.int .i64 j,.int .i64 l,.string ⟨m.toArray⟩]] h λe w'=>e=.returned (.int .i64 (aG (k,n,s) (j,l,m)))/\RowKit.Below h.heap.size h w'/\h.drawn<=w'.drawn:=by
 have F:=λg=>Od k n s g
 have i:=λg=>Od j l m g
 have w:Tryz.prog.follows .mixedOrders=O:=by kernel_rfl
 unfold aG;generalize ak (k,n,s)=a at F|-;generalize ak (j,l,m)=b at i|-;have⟨y,z,B⟩:=a;have⟨C,D,E⟩:=b
 dsimp only at F i|-
 have k1:=λg=>zmj y C g
 have k2:=λg=>zmk z D g
 have k3:=λg=>zml B E g
 generalize ug y C=m1 at k1|-;generalize ln z D=m2 at k2|-;generalize px B E=m3 at k3|-
 go_enter Tryz.func50,Tryz.ntmps50
 go_wp2
 obtain⟨o,x⟩:∃o,(h.alloc (.cells #[.int .i64 k,.int .i64 n,.string ⟨s.toArray⟩] 30)).alloc (.cells #[.int .i64 j,.int .i64 l,.string ⟨m.toArray⟩] 30)=o:=⟨_,rfl⟩;have e0:o.heap[h.heap.size]?=M (.cells #[.int .i64 k,.int .i64 n,.string ⟨s.toArray⟩] 30 (0,0)):=by rw[<-x];exact(bP _ _ _ sw).trans (cP _ _)
 have e1:o.heap[h.heap.size+1]?=M (.cells #[.int .i64 j,.int .i64 l,.string ⟨m.toArray⟩] 30 (0,0)):=by
  rw[<-x];have:=cP (h.alloc (.cells #[.int .i64 k,.int .i64 n,.string ⟨s.toArray⟩] 30)) (.cells #[.int .i64 j,.int .i64 l,.string ⟨m.toArray⟩] 30)
  rwa [bC]at this
 have t:RowKit.Below h.heap.size h o:=by rw[<-x];exact((RowKit.Below.refl _ h).alloc (zQ _) _).alloc sw _
 have h5:h.drawn<=o.drawn:=by rw[<-x];exact zQ _
 rw[x];clear x;have⟨c0,c1,c2,c3,c4,c5⟩:=rp e0;have⟨d0,d1,d2,d3,d4,d5⟩:=rp e1;rename_i K hK
 have d:∀c:World,c.heap[h.heap.size]?=M (.cells #[.int .i64 y,.int .i64 z,.string ⟨B.toArray⟩] 30 (0,0))->c.heap[h.heap.size+1]?=M (.cells #[.int .i64 C,.int .i64 D,.string ⟨E.toArray⟩] 30 (0,0))->RowKit.Below h.heap.size h c->h.drawn<=c.drawn->
   K {tmps:=#[.agg #[.int .i64 k,.int .i64 n,.string ⟨s.toArray⟩],.agg #[.int .i64 j,.int .i64 l,.string ⟨m.toArray⟩],.pointer (M ⟨h.heap.size,0,Q2⟩),.pointer (M ⟨h.heap.size+1,0,Q2⟩),.int .i64 0,.agg #[.int .i64 k,.int .i64 n,.string ⟨s.toArray⟩],.agg #[.int .i64 y,.int .i64 z,.string ⟨B.toArray⟩],.agg #[.int .i64 j,.int .i64 l,.string ⟨m.toArray⟩],.agg #[.int .i64 C,.int .i64 D,.string ⟨E.toArray⟩],undef,undef,undef,undef,undef,undef,undef,undef,undef,undef,undef,undef,undef,undef,undef,undef,undef],defers:=[]} c:=by
  intro c w0 G P hd3;apply hK;clear hK;have h8:h.heap.size+1<c.heap.size:=(mP.1 G).1;have⟨x0,x1,x2,x3,x4,x5⟩:=rp w0;have⟨y0,y1,y2,y3,y4,y5⟩:=rp G
  go_wp2
  go_still_tail 15,w
  still_call (k1 _)
  repeat still_step
  still_call (k2 _)
  repeat still_step
  still_call (k3 _)
  refine wpStill_nil ?_;change wpList _ _ _ _ _ c.drew;have v:h.drawn<=c.drew.drawn:=be hd3 (Nat.le_succ _);have u:RowKit.Below h.heap.size h c.drew:=P.drew;generalize c.drew=W4 at v u|-
  go_wp2_with (go_at_call 113;refine(zvY m1 m2 m3 W4.heap.size _ sw sw sw).mono ?_;rintro e w' ⟨rfl,rfl⟩)
  go_ret
  exact⟨rfl,u.alloc u.size _,v⟩
 have h0:=zwI.mk d;clear hK d k1 k2 k3
 go_region_with (first
  |(go_at_call 112;refine(F _).mono ?_;clear F;rintro e G ⟨rfl,q,hd3⟩;have⟨f0,f1⟩:=Oc (A:=o.drew) e0 e1 q;have⟨p0,p1,p2,p3,p4,p5⟩:=rp f0;have⟨q0,q1,q2,q3,q4,q5⟩:=rp f1)
  |(go_at_call 112;refine(i _).mono ?_;clear i;rintro e w2 ⟨rfl,H,v⟩;have⟨g0,g1⟩:=Oc f0 f1 H;have⟨r0,r1,r2,r3,r4,r5⟩:=rp g0;have⟨s0,s1,s2,s3,s4,s5⟩:=rp g1))
 all_goals
  refine h0.out _ ?_ ?_ ?_ ?_
  .simp[World.setCell,uy,g0]
  .simp[World.setCell,uy,g1]
  .have h3:=q.size;have h6:=H.size;have U:RowKit.Below h.heap.size h w2:=(t.trans ((RowKit.Below.mono ⟨q.os,q.tape,q.output,q.size,q.block⟩ t.size))).trans (H.mono (be t.size h3));exact(((((U.setCell (p:=⟨h.heap.size,0,Q2⟩) sw _).setCell (p:=⟨h.heap.size,1,Q2⟩) sw _).setCell (p:=⟨h.heap.size,2,Q2⟩) sw _).setCell (p:=⟨h.heap.size+1,0,Q2⟩) sw _).setCell (p:=⟨h.heap.size+1,1,Q2⟩) sw _).setCell (p:=⟨h.heap.size+1,2,Q2⟩) sw _
  .have h7:o.drawn+1<=G.drawn:=hd3;have h4:h.drawn<=w2.drawn:=by omega
   simpa[World.setCell]using h4
end
end Cad
namespace Go.Proofs
open Cad (HV aK be fA gB ia mP qw rc ve zQ)
open Go.RowKit Go.Shelf
open Bool renaming false->Q4,true->Q3
open Option renaming none->Q2,some->Q1
open Decidable renaming decide->Q0
open List (length)
attribute [local go_sem] Oper.semAt_some
abbrev R12:={l:List Value//l.length=12/\∀v∈l,v.oneCell'=Q3}
theorem run_store_one(v:Value)(h:v.oneCell'=Q3)(w:World)(a:Addr)(hc:(w.cell? a).isSome=Q3)(hf:w.frozen? a=Q4):Sem.run Tryz.prog (store a v) w=.ok () (w.setCell a v):=by obtain⟨u,hu⟩:=Option.isSome_iff_exists.1 hc;unfold store;cases v<;>first|(simp[Value.oneCell']at h;done)|simp[Sem.run,hu,hf]
set_option maxRecDepth 100000 in
set_option maxHeartbeats 2000000 in
theorem Tryz.values1_in(F:Fence)(n:Nat)(h7:F.fn 139)(hro:F.round=Q2)(hn:1<=n)(l Bs n₀ b off cap:Nat)(zs:List R12)(hreach:zs.length<=1000)(hb:b<n₀)(J Jx:List R12->World->Prop)(W:World)(hn₀:n₀<=W.heap.size)(hJ:AbidesFrom W.heap.size J)
  (hY:∀pre x W,J pre W->pre.length<zs.length->YieldAt F (n-1) Tryz.prog l #[.agg x.1.toArray] W λe W'=>
   (e=.returned (.bool Q3)/\J (pre++[x]) W'/\Below n₀ W W')\/(e=.returned (.bool Q4)/\Jx (pre++[x]) W'))
  (hBs:W.cell? ⟨Bs,0,Q2⟩=Q1 (.slice (Q1 ⟨b,off,Q2⟩) zs.length cap)) (hc:∀i(hi:i<zs.length),∀j v,zs[i].1[j]?=Q1 v->W.cell? ⟨b,off+i*12+j,Q2⟩=Q1 v) (h0:J [] W):
  CallsIn F n Tryz.prog 139 #[.func (.yield l) #[] #[],.pointer (Q1 ⟨Bs,0,Q2⟩)] W λe W'=>(∃v,e=.returned v)/\
   ((∃ys,ys=zs/\J ys W')\/(∃pre,(∃k,k<=zs.length/\pre=zs.take k)/\Jx pre W')):=by
 refine callsIn_of_wp Tryz.func139 rfl h7 ?_ hro;simp only[Tryz.ntmps139,List.size_toArray,fA,qw,Nat.reduceAdd,Nat.reduceSub,Array.replicate_succ,Array.replicate_zero,List.push_toArray,List.append_toArray,HV,List.cons_append]
 gi_wp2
 gi_loopw [7] (λi wr=>∃k:Nat,k<=zs.length/\i=.int .i64 k/\J (zs.take k) wr/\Below n₀ W wr)
  (λi _=>zs.length-(intOf i).toNat)
 case atStart=>exact⟨0,aK _,rfl,h0,Below.refl _ _⟩
 case round=>
  obtain⟨k,hk,rfl,hJs,hnx⟩:=hrel;by_cases hlt:k<zs.length
  .have hcx:∀j v,zs[k].1[j]?=Q1 v->wr.cell? ⟨b,off+k*12+j,Q2⟩=Q1 v:=λj v h=>(hnx.cell (p:=⟨b,off+k*12+j,Q2⟩) hb).trans (hc k hlt j v h)
   have hYx:=λW' h=>hY (zs.take k) zs[k] W' h (by rw[rc];omega)
   have htk:zs.take k++[zs[k]]=zs.take (k+1):=List.take_append_getElem hlt;rw[htk]at hYx;generalize hx:zs[k]=x at hYx hcx;obtain⟨xs,hxl,hx1⟩:=x
   match xs,hxl with
   |[v0,v1,v2,v3,v4,v5,v6,v7,v8,v9,v10,v11],_=>
   have c0:=hcx 0 v0 rfl;have c1:=hcx 1 v1 rfl;have c2:=hcx 2 v2 rfl;have c3:=hcx 3 v3 rfl;have c4:=hcx 4 v4 rfl;have c5:=hcx 5 v5 rfl;have c6:=hcx 6 v6 rfl;have c7:=hcx 7 v7 rfl;have c8:=hcx 8 v8 rfl;have c9:=hcx 9 v9 rfl;have c10:=hcx 10 v10 rfl;have c11:=hcx 11 v11 rfl;rw[ve]at c0;have d0:=run_store_one v0 (hx1 v0 (by simp));have d1:=run_store_one v1 (hx1 v1 (by simp));have d2:=run_store_one v2 (hx1 v2 (by simp));have d3:=run_store_one v3 (hx1 v3 (by simp));have d4:=run_store_one v4 (hx1 v4 (by simp));have d5:=run_store_one v5 (hx1 v5 (by simp));have d6:=run_store_one v6 (hx1 v6 (by simp));have d7:=run_store_one v7 (hx1 v7 (by simp));have d8:=run_store_one v8 (hx1 v8 (by simp));have d9:=run_store_one v9 (hx1 v9 (by simp));have d10:=run_store_one v10 (hx1 v10 (by simp));have d11:=run_store_one v11 (hx1 v11 (by simp));have hJa:J (zs.take k) (wr.alloc (.cells #[v0,v1,v2,v3,v4,v5,v6,v7,v8,v9,v10,v11] 38)):=hJ _ _ _ Q2 hJs (World.grownBy_alloc _ _ _) (λr e=>by cases e);have hba:Below n₀ wr (wr.alloc (.cells #[v0,v1,v2,v3,v4,v5,v6,v7,v8,v9,v10,v11] 38)):=(Below.refl _ _).alloc (by have:=hnx.size;omega) _;obtain⟨fn,tmps,assign,body,hy,hR⟩:=hYx _ hJa
   dsimp only at hy hR
   gi_wp2
   refine hR.mono ?_;rintro e W3 (⟨rfl,hJ3,hk3⟩|⟨rfl,hJx3⟩)
   .gi_wp2
    go_roundw
    case rel=>exact⟨k+1,by omega,by simp,hJ3,(hnx.trans hba).trans hk3⟩
    case measure=>simp[intOf];omega
   .gi_wp2
    refine bodyPost_ret (results_none rfl _ _ _) rfl ?_;exact⟨⟨_,rfl⟩,.inr ⟨_,⟨k+1,by omega,rfl⟩,hJx3⟩⟩
  .obtain rfl:k=zs.length:=by omega
   gi_wp2
   go_end0
   exact⟨⟨_,rfl⟩,.inl ⟨_,rfl,by rwa [gB]at hJs⟩⟩
theorem Tryz.values_stops(F:Fence)(n:Nat)(h7:F.fn 139)(hro:F.round=Q2)(hn:1<=n)(Bs n₀ b off cap:Nat)(zs:List R12)(hreach:zs.length<=1000)(w:World)(hBs:Bs<w.heap.size)(hn₀:n₀<=w.heap.size)(hb:b<n₀)
  (hs:w.cell? ⟨Bs,0,Q2⟩=Q1 (.slice (Q1 ⟨b,off,Q2⟩) zs.length cap)) (hc:∀i(hi:i<zs.length),∀j v,zs[i].1[j]?=Q1 v->w.cell? ⟨b,off+i*12+j,Q2⟩=Q1 v):
  SeqStopsK F n Tryz.prog 139 #[.pointer (Q1 ⟨Bs,0,Q2⟩)] (λx:R12=>#[.agg x.1.toArray]) (Below n₀) (λys=>ys=zs) (λpre=>pre<+:zs) zs.length w:=λl J Jx W hW hJ _ hY h0=>by
 refine(Tryz.values1_in F n h7 hro hn l Bs n₀ b off cap zs hreach hb J Jx W (be hn₀ hW.size) hJ hY ((hW.cell (p:=⟨Bs,0,Q2⟩) hBs).trans hs) (λi hi j v h=>(hW.cell (p:=⟨b,off+i*12+j,Q2⟩) (ia hb hn₀)).trans (hc i hi j v h)) h0).mono ?_;rintro e W' ⟨he,⟨ys,hy,hj⟩|⟨pre,⟨k,hk,rfl⟩,hj⟩⟩
 .exact⟨he,.inl ⟨ys,hy,hj⟩⟩
 .exact⟨he,.inr ⟨_,List.take_prefix _ _,hj⟩⟩
theorem Tryz.info38:(Tryz.prog.info? 38).map (λi=>(i.zero,i.size,i.bytes))=Q1 (Q1 (.agg #[.string ⟨#[]⟩,.slice Q2 0 0,.int .i64 0,.slice Q2 0 0,.slice Q2 0 0,.string ⟨#[]⟩,.int .i64 0,.int .i64 0,.string ⟨#[]⟩,.string ⟨#[]⟩,.slice Q2 0 0,.slice Q2 0 0]),12,208):=by kernel_rfl
def flat12(l:List R12):List Value:=l.flatMap λx=>x.1
theorem flat12_snoc(l:List R12)(x:R12):flat12 (l++[x])=flat12 l++x.1:=by simp[flat12]
theorem cell_row_new(w:World)(l:List Value)(t:TypeId):∀j u,l[j]?=Q1 u->(w.alloc (.cells l.toArray t)).cell? ((⟨w.heap.size,0,Q2⟩:Addr).add j)=Q1 u:=by
 intro j u h;unfold Addr.add;split
 next e=>subst e;simp[h]
 .simp[h]
theorem cells_own(B:Nat)(vs:Array Value)(t:TypeId):Own (λ(_:Unit) W=>W.heap[B]?=Q1 (.cells vs t (0,0))):=λs X Y row hs hg hrow=>
 (hg.block B (mP.1 hs).1 (λe'=>by obtain⟨o,ho,hc⟩:=hrow B e'.symm;rw[hs]at ho;cases ho;cases hc)).trans hs
set_option maxRecDepth 100000 in
set_option maxHeartbeats 2000000 in
theorem Tryz.appendSeq_in(F:Fence)(n:Nat)(h3:F.fn 196)(h5:F.fn 139)(hro:F.round=Q2)(hn:3<=n)(Bs b off cap:Nat)(zs:List R12)(hreach:zs.length<=1000)(w:World)(hBs:Bs<w.heap.size)(hb:b<w.heap.size)
  (hs:w.cell? ⟨Bs,0,Q2⟩=Q1 (.slice (Q1 ⟨b,off,Q2⟩) zs.length cap)) (hc:∀i(hi:i<zs.length),∀j v,zs[i].1[j]?=Q1 v->w.cell? ⟨b,off+i*12+j,Q2⟩=Q1 v):
  CallsIn F n Tryz.prog 196 #[.slice Q2 0 0,.func (.func 139) #[] #[.pointer (Q1 ⟨Bs,0,Q2⟩)]] w λe W'=>∃v,e=.returned v/\W'.ownsRow w.heap.size 38 12 v zs.length (flat12 zs)/\Below w.heap.size w W':=by
 have h1:1<=n:=by omega
 obtain⟨i0,hi,hz0,hz1,hz2⟩:=info_parts Tryz.info38;refine callsIn_of_wp_marks Tryz.func196 rfl h3 ?_ hro;simp only[Tryz.ntmps196,List.size_toArray,fA,qw,Nat.reduceAdd,Nat.reduceSub,Array.replicate_succ,Array.replicate_zero,List.push_toArray,List.append_toArray,HV,List.cons_append]
 gi_wp2
 have bO:=Boxed.new w 42 (.slice Q2 0 0);have hB0:Below w.heap.size w (w.alloc (.cells #[.slice Q2 0 0] 42)):=(Below.refl _ w).alloc (zQ _) _
 refine wpIn_rangeFunc_ownH hro h1 (gf:=139) (lb:=#[.pointer (Q1 ⟨Bs,0,Q2⟩)]) rfl h5 (enters_of Tryz.func139 (by kernel_rfl) rfl)
  (Tryz.values_stops F (n-1) h5 hro (by omega) Bs w.heap.size b off cap zs hreach _ (by simp<;>omega) (by simp) hb ((hB0.cell (p:=⟨Bs,0,Q2⟩) hBs).trans hs) (λi hi j v h=>(hB0.cell (p:=⟨b,off+i*12+j,Q2⟩) hb).trans (hc i hi j v h))) belowK_t (belowK_b (by simp<;>omega)) (Below.refl _ _) (λ_=>rfl)
  (λpre W=>(∃v,Boxed W w.heap.size 42 v/\W.ownsRow w.heap.size 38 12 v pre.length (flat12 pre)/\(v=.slice Q2 0 0↔pre=[]))/\Below w.heap.size w W)
  (λ_ _ _=>False)
  (OwnFrom.and (Own.from (holdsRow_own w.heap.size w.heap.size 42 38 12 (λpre=>pre.length) (λpre=>flat12 pre) (λpre v=>v=.slice Q2 0 0↔pre=[])) _) (ownFrom_below (zQ _) (by simp<;>omega)))
  (λ_ _ _ _ _ hs _ _=>hs)
  ⟨⟨_,bO,World.ownsRow_nil _ _ _ _,by simp⟩,hB0⟩
  (λx a' W=>∃Bx,w.heap.size<Bx/\W.heap[Bx]?=Q1 (.cells x.1.toArray 38 (0,0))/\a'={tmps:=#[.slice Q2 0 0,.func (.func 139) #[] #[.pointer (Q1 ⟨Bs,0,Q2⟩)],.pointer (Q1 ⟨w.heap.size,0,Q2⟩),undef,.slice Q2 0 0,.pointer (Q1 ⟨Bx,0,Q2⟩),.func (.func 139) #[] #[.pointer (Q1 ⟨Bs,0,Q2⟩)],.agg x.1.toArray,undef,undef,undef,undef,undef],defers:=[]})
  (λx a' _ X Y row hs hg hr=>by obtain⟨Bx,h1,h2,h3⟩:=hs;exact⟨Bx,h1,cells_own Bx x.1.toArray 38 () X Y row h2 hg (λr e=>(hr r e).2),h3⟩)
  ?assign ?body ?done ?stop
 case assign=>
  rintro l pre ⟨xs,hxl,hx1⟩ W K ⟨⟨v,hv,hrow,hnil⟩,hB⟩ hK
  match xs,hxl with
  |[v0,v1,v2,v3,v4,v5,v6,v7,v8,v9,v10,v11],_=>
  have d0:=run_store_one v0 (hx1 v0 (by simp));have d1:=run_store_one v1 (hx1 v1 (by simp));have d2:=run_store_one v2 (hx1 v2 (by simp));have d3:=run_store_one v3 (hx1 v3 (by simp));have d4:=run_store_one v4 (hx1 v4 (by simp));have d5:=run_store_one v5 (hx1 v5 (by simp));have d6:=run_store_one v6 (hx1 v6 (by simp));have d7:=run_store_one v7 (hx1 v7 (by simp));have d8:=run_store_one v8 (hx1 v8 (by simp));have d9:=run_store_one v9 (hx1 v9 (by simp));have d10:=run_store_one v10 (hx1 v10 (by simp));have d11:=run_store_one v11 (hx1 v11 (by simp))
  gi_wp2
  exact hK _ _ ((KeepsOthers.alloc _ _).from _) ((Below.refl _ W).alloc hB.size _) ⟨⟨v,hv.alloc _,hrow.alloc _,hnil⟩,hB.alloc hB.size _⟩ ⟨W.heap.size,hv.lt,World.alloc_heap_new W _,rfl⟩
 case body=>
  rintro l pre ⟨xs,hxl,hx1⟩ a' W hl ⟨r,hr⟩ ⟨⟨v,hv,hrow,hnil⟩,hB⟩ ⟨Bx,hBx,hX,rfl⟩ hlt
  match xs,hxl with
  |[v0,v1,v2,v3,v4,v5,v6,v7,v8,v9,v10,v11],_=>
  have hcv:=hv.cell
  dsimp only at hX
  have c0:W.cell? ⟨Bx,0,Q2⟩=Q1 v0:=by simp[World.cell?,hX]
  have c1:W.cell? ⟨Bx,1,Q2⟩=Q1 v1:=by simp[World.cell?,hX]
  have c2:W.cell? ⟨Bx,2,Q2⟩=Q1 v2:=by simp[World.cell?,hX]
  have c3:W.cell? ⟨Bx,3,Q2⟩=Q1 v3:=by simp[World.cell?,hX]
  have c4:W.cell? ⟨Bx,4,Q2⟩=Q1 v4:=by simp[World.cell?,hX]
  have c5:W.cell? ⟨Bx,5,Q2⟩=Q1 v5:=by simp[World.cell?,hX]
  have c6:W.cell? ⟨Bx,6,Q2⟩=Q1 v6:=by simp[World.cell?,hX]
  have c7:W.cell? ⟨Bx,7,Q2⟩=Q1 v7:=by simp[World.cell?,hX]
  have c8:W.cell? ⟨Bx,8,Q2⟩=Q1 v8:=by simp[World.cell?,hX]
  have c9:W.cell? ⟨Bx,9,Q2⟩=Q1 v9:=by simp[World.cell?,hX]
  have c10:W.cell? ⟨Bx,10,Q2⟩=Q1 v10:=by simp[World.cell?,hX]
  have c11:W.cell? ⟨Bx,11,Q2⟩=Q1 v11:=by simp[World.cell?,hX]
  gi_wp2_with (gi_at_builtin;refine wpListIn_append_own _ rfl _ _ 42 rfl w.heap.size 38 i0 _ 12 208 Tryz.underlying42 hi hz0 hz1 hz2 rfl (by decide) _ _ _ rfl (hrow.alloc _) ⟨W.heap.size,0,Q2⟩ 1 1 [v0,v1,v2,v3,v4,v5,v6,v7,v8,v9,v10,v11] rfl rfl (cell_row_new _ _ _) hx1 (by unfold maxLen;omega) (by omega) (by have:=hB.size;simp;omega) ?_;intro v' w1 hown' hgrow _;obtain⟨g',cap',rfl⟩:=ownsRow_succ hown';obtain⟨hv1,hv2,hr2,hk2,hb2⟩:=hv.appended (by decide) hrow hB.size (zQ _) hown' hgrow;have hc1:=hv1.cell;have hf1:=hv1.frozen)
  exact⟨hk2.from _,hb2,⟨_,hv2,by rw[flat12_snoc];simpa using hr2,by simp⟩,hB.trans hb2⟩
 case done=>
  rintro D ys W hD rfl ⟨⟨v,hv,hrow,hnil⟩,hB⟩ hK;have hc:=hv.cell
  gi_wp2
  refine⟨by simp,.inl ⟨_,_,rfl,run_takeDeferred hK,?_⟩⟩;exact⟨_,results_tmp rfl _ _ _,v,rfl,ownsRow_putObj hrow _ hK rfl,hB.trans (belowK_b (w:=w) (zQ _) W D _ _ (by simp at hD;omega) hK rfl rfl)⟩
 case stop=>
  rintro D c pre W _ _ h _;exact h.elim
set_option maxHeartbeats 1000000 in
theorem Tryz.collect_in(F:Fence)(n:Nat)(h2:F.fn 137)(h3:F.fn 196)(h5:F.fn 139)(hro:F.round=Q2)(hn:4<=n)(Bs b off cap:Nat)(zs:List R12)(hreach:zs.length<=1000)(w:World)(hBs:Bs<w.heap.size)(hb:b<w.heap.size)
  (hs:w.cell? ⟨Bs,0,Q2⟩=Q1 (.slice (Q1 ⟨b,off,Q2⟩) zs.length cap)) (hc:∀i(hi:i<zs.length),∀j v,zs[i].1[j]?=Q1 v->w.cell? ⟨b,off+i*12+j,Q2⟩=Q1 v):
  CallsIn F n Tryz.prog 137 #[.func (.func 139) #[] #[.pointer (Q1 ⟨Bs,0,Q2⟩)]] w λe W'=>∃v,e=.returned v/\W'.ownsRow w.heap.size 38 12 v zs.length (flat12 zs)/\Below w.heap.size w W':=by
 have h1:1<=n:=by omega
 refine callsIn_of_wp Tryz.func137 rfl h2 ?_ hro;simp only[Tryz.ntmps137,List.size_toArray,fA,qw,Nat.reduceAdd,Nat.reduceSub,Array.replicate_succ,Array.replicate_zero,List.push_toArray,List.append_toArray,HV,List.cons_append]
 gi_wp2_with (gi_at_call 196;refine(Tryz.appendSeq_in F (n-1) h3 h5 hro (by omega) Bs b off cap zs hreach w hBs hb hs hc).mono ?_;rintro e w' ⟨v,rfl,hv1,hv2⟩)
 go_ret
 exact⟨v,rfl,hv1,hv2⟩
end Go.Proofs
namespace Cad
open Go Go.Proofs
open List renaming length->X
open IntKind renaming wrap->Γ,i64->Δ
open AV renaming agg->Qd
open Tr renaming val->Q8
open Sh renaming bool->Q7,str->Q6
open Bool renaming false->Q4,true->O
open Option renaming none->Q2,some->M
open Decidable renaming decide->N
open Cad renaming ow->W
set_option maxHeartbeats 4000000
open Tr (chk br)
open AV (nils agg tup ptr kb str sl)
theorem EM:∀(l:List R12)(i j:Nat)(h:i<X l),j<12->(flat12 l)[i*12+j]?=l[i].1[j]?
 | x::r,0,j,_,hj=>by
  show(x.1++flat12 r)[0*12+j]?=x.1[j]?;rw[qK (by rw[x.2.1];omega),Nat.zero_mul,eV]
 | x::r,i+1,j,h,hj=>by
  show(x.1++flat12 r)[(i+1)*12+j]?=_;rw[pn (by rw[x.2.1];omega),x.2.1,show(i+1)*12+j-12=i*12+j by omega,EM r i j (by simpa using h) hj];rfl
@[match_pattern] abbrev zvZ:Sh:=.pr (.pr .str (.pr (.sl (.pr .str (.pr (.int .i64) .bool))) (.pr (.int .i64) (.pr (.sl (.int .i64)) (.pr (.sl (.pr (.int .i64) .str)) .expr))))) (.sl (.sl (.pr (.int .i64) (.pr (.int .i64) .str))))
def F91:ah:=λa h n=>match a with
 | [.clo (.func 139) [] [.ptr id 0]]=>match h id with
  |.box [.sl zvZ l]=>.chk (N (0<X l)) (.chk (N (X l<=1000)) (.ok {val:=.vec n,nw:=[.vec zl l]}))
  |_=>.err
 |_=>.err
theorem Qs{w:World}{U:Nat->Prop}{a:Nat->Option Value}{hp:Nat->AO}{n q:Nat}{l:zS}{v:Value}(x6:∀b,U b->b<w.heap.size)(h5:w.cell? ⟨q,0,Q2⟩=M v)(hr:Rv w U a (.sl zl l) v)(hn:a n=Q2)(h0:0<X l)(P:X l<=1000):
  Calls Tryz.prog 137 #[.func (.func 139) #[] #[.pointer (M ⟨q,0,Q2⟩)]] w λe w'=>∃m U' ρ',e=.returned m/\Ef n hp {val:=.vec n,nw:=[.vec zl l]} w U a m w' U' ρ':=by
 obtain⟨d,h9,rfl,x8,hm,h⟩:=L9 hr;rcases h with rfl|⟨b,o,rfl,x3⟩
 .simp at h0
 have x1:zl.size=12:=rfl;have u:∀i(B:i<X l) j,j<12->∃c x,(zD zl l[i])[j]?=M c/\w.cell? ⟨b,o+i*12+j,Q2⟩=M x/\Rv w U a c x/\x.oneCell'=O:=by
  intro i B j D;have h7:(zD zl l[i]).length=12:=au zl l[i];have t:(zD zl l[i])[j]?=M ((zD zl l[i])[j]'(by rw[h7];exact D)):=af _;obtain⟨x,P,s⟩:=x3 i B j _ t;exact⟨_,x,t,P,s,gF zl l[i] j _ x t s⟩
 have H:b<w.heap.size:=by
  obtain⟨c,x,_,s,_⟩:=u 0 h0 0 W;exact wz s
 let z:List R12:=List.ofFn λi:Fin (X l)=>⟨(List.range 12).map λj=>(w.cell? ⟨b,o+i.1*12+j,Q2⟩).getD undef,sw,λm F=>by
  obtain⟨j,D,rfl⟩:=aI.1 F;obtain⟨c,x,_,s,_,h4⟩:=u i.1 i.2 j (by simpa using D);rw[s];exact h4⟩
 have y:X z=X l:=by simp[z]
 have x7:∀i(B:i<X z),∀j m,z[i].1[j]?=M m->w.cell? ⟨b,o+i*12+j,Q2⟩=M m:=by
  intro i B j m F;simp only[z,List.getElem_ofFn,dK,dW]at F;obtain⟨k,hq,F⟩:=F;obtain⟨x2,rfl⟩:=A1 hq;obtain⟨c,x,_,s,_,_⟩:=u i (by rw[<-y];exact B) k x2;rw[s]at F;rw[s,<-F];rfl
 refine(callsIn_wide.1 (Tryz.collect_in Fence.wide 4 trivial trivial trivial rfl W q b o h9 z W w (wz h5) H (by rw[y];exact h5) x7)).mono ?_;rintro e w' ⟨m,rfl,h8,p⟩;rcases h8.2 with⟨_,h⟩|⟨g,A,x0,rfl,hg,hG,x9,_,x4,x5⟩
 .omega
 have h6:g<w'.heap.size:=(mP.1 hG).1
 obtain⟨G,u1,u2,u3⟩:∃G:Nat->Prop,(∀b,b<w.heap.size->(G b↔U b))/\G g/\∀b,G b->b<w'.heap.size:=
  ⟨λb=>U b\/b=g,λb H=>⟨λh=>h.elim id λe=>zz e W,.inl⟩,.inr rfl,λb h=>by
   rcases h with h|rfl
   .exact ia (x6 b h) p.size
   .exact h6⟩
 have E:∀{c:AV}{x:Value},Rv w U a c x->Rv w' G (kq a n (.slice (M ⟨g,0,Q2⟩) (X z) A)) c x:=λh=>h.mono p.size (λb' C _=>p.block b' C) (λb H h=>(u1 b H).1 h) (fI hn)
 refine⟨_,G,_,rfl,Ef.newVec sw hn rfl (lv.below p) (λb H _=>p.block b H) u3 u1 ?_ ?_⟩
 .refine⟨_,A,by rw[y];simp[kq],hm,.inr ⟨g,38,x0,rfl,W,u2,hG,x4,W,?_⟩⟩;intro i B j c hc;have D:j<12:=by have:=(dC.1 hc).1;rwa [au]at this
  obtain⟨c',x,P,s,h3,_⟩:=u i B j D;rw[hc]at P;cases P;refine⟨x,?_,E h3⟩;have hz:(flat12 z)[i*12+j]?=M x:=by
   rw[EM z i j (by rw[y];exact B) D];simp only[z,List.getElem_ofFn,dK];rw[Bl D];simp[s]
  rw[<-x5]at hz;have:=List.getElem?_take.symm.trans hz;split at this
  .rw[x1,<-ra];exact this
  .cases this
 .intro b' C;simp[cd]at C;exact .inl W
theorem zr3:FK 137 F91 where
 fn:=⟨Tryz.f137,kw,kw,kw⟩
 calls:=λw U ρ hp n t v f z x c q G k m F o=>by
  unfold F91 at x;split at x
  .rename_i id;split at x
   .rename_i l j;simp only[Tr.val_chk,Tr.val_ok,bG,ba]at x;obtain⟨A,B,rfl⟩:=x;have H:=c.len
    match v,H,c with
    |[va],_,c=>
    have r0:=c.rv 0 _ va rfl rfl;cases r0 with
    |clo _ _ _ vf vc x E P a=>
    match vf,x,vc,E,a with
    |[],_,[pv],_,a=>
    have r1:=a 0 _ pv rfl rfl;cases r1 with
    |ptr _ _ b0 i=>
    have s:id∈z:=m id (by simp[AV.idsL,AV.ids]);have y:=k.ob id s;rw[j]at y;have⟨b',h,d,u,D,e,b,C⟩:=y;rw[i]at u;cases u;have g:=b.len;have p:=b.rv 0 _ (d.toList[0]'(by rw[<-g];simp)) rfl (af _);refine⟨Qs q ?_ p (o 0 sw) A B,sw⟩;rw[World.cell?,e];simp
   .simp at x
  .simp at x
end Cad
