/- Units. -/
import Derived.Test.YtjdjldbhjmgmkaaGreatDoorM17
import Derived.Lib.AppendZerosOnto
namespace Cad
open Go Go.Proofs Go.Sort
open List renaming length->Io,length->X
open IntKind renaming wrap->Γ,i64->Δ
open Tr renaming «to»->Q9,val->Q8,chk->R
open AO renaming box->Qa
open Sh renaming bool->Q7,expr->Q5
open Bool renaming false->S,true->O
open Option renaming some->M
open Decidable renaming decide->N
open Int renaming toNat->Z
open List renaming getD->Y
open Tr (chk br re)
open AV (nils agg tup ptr kb)
open AV renaming sl->T,str->I
open Cad renaming zi->Q,ze->K,ow->W,Sem->J,ai->L
set_option maxHeartbeats 4000000
noncomputable section
variable {n:Nat}{keep:Nat->aY}
theorem Gd{g:Type}{E:ct}{C:eW}{e:FuncId}{f:Func}{Q:AV->List AO->Prop}{n0:Nat}(d:zw E)(k:zZ E.P e f n)(c:∀id,n0<=id->C.ρ0 id=none){j:Nat}{x:g->Nat×St}{K:List Item}{b:St}{i:Tr (g⊕az)}
  (a:run E n0 keep f.results.toList j K b=i.map (lf f x)) {s:g} (m:i.val=M (.inl s)) (h:Reach E C e (ap f (x s).1) (x s).2 Q):Reach E C e K b Q:=
 o7 d k c (l:=lf f x (.inl s)) (by rw[a,Tr.val_map,m];rfl) h
def Mw(a:ao)(x:zS):zr:=(Y x 0 (Q zl)).2.map λh:zr=>Y h (Z (dp a x)) (Q K)
def JK(a:ao)(x:zS):Bool:=lE a x&&(zL 0 (X x)&&(N (X (Y x 0 (Q zl)).2<=1000)&&List.all (Y x 0 (Q zl)).2 λh:zr=>zL (dp a x) (X h)&&bf (Y h (Z (dp a x)) (Q K))))
def ay(x:ao)(h:zS):zr:=rl (Mw x h)
def zpR:=ac [an,zl.sl] [ze.sl] (λx=>JK x.1 x.2.1) λx=>(ay x.1 x.2.1,())
theorem JQ{k:Int×Int×zK}{n:Int}:∀{es:List ((Int×Int×zK)×Int)},(lF es k n).map (·.1)=if k∈es.map (·.1)then es.map (·.1)else es.map (·.1)++[k]
 |[]=>rfl
 | p::r=>by
  show(cond (k==p.1) ((k,n)::r) (p::lF r k n)).map (·.1)=_;by_cases h:k=p.1
  .simp[h]
  .have a:(k==p.1)=S:=by simpa using h
   rw[a,aL,er,JQ (es:=r),er];by_cases x:k∈r.map (·.1)
   .rw[zf x,zf (by simp only[bX];exact .inr x)]
   .rw[zh x,zh (by simp only[bX];exact λe=>e.elim h x)];rfl
theorem zeQ{h:ao}{x:zS}(a:lE h x=O)(b:zL 0 (X x)=O):(zmV h x).val=M (.inl (.h4 (dp h x) (Y x 0 (Q zl)).2 (X (Y x 0 (Q zl)).2:Int) 0 [])):=by unfold zmV;simp only[zo];show(R (lE h x) (R (zL 0 (X x)) _)).val=_;rw[a,b];rfl
theorem zkx:FK 32 zpR:=by
 refine aZ (E:=BC) (f:=Tryz.f32) (cI kw) λx y C B=>?_
 have⟨l,g,u⟩:=x;have hf:zZ BC.P 32 Tryz.f32 2:=cI kw;have F:∀x,run BC 0 zjd Tryz.f32.results.toList 400 (bu Tryz.f32) (bl Tryz.f32.ntmps (jn [M an,M zl.sl] x) [])=(zmV x.1 x.2.1).map (lf Tryz.f32 Qw):=by intro x;kernel_rfl
 have H:∀s,run BC 0 zjd Tryz.f32.results.toList 400 (ap Tryz.f32 (Qw s).1) (Qw s).2=(zwi s).map (lf Tryz.f32 Qw):=by intro s;cases s<;>kernel_rfl
 simp only[JK,aP,ba,ep]at y;have⟨h1,h2,h3,A⟩:=y;generalize q:(Y g 0 (Q zl)).2=c at h3 A;refine Gd Ak hf (λid _=>B id) (F (l,g,u)) (zeQ h1 h2) ?_;rw[q]
 have U:∀(m i:Nat)(j:List ((Int×Int×zK)×Int)),X c-i=m->i<=X c->(j.map (·.1)).Nodup->X j<=i->(∀x,x∈j.map (·.1)↔x∈(c.take i).map λt:zr=>Y t (Z (dp l g)) (Q K))->
   Reach BC C 32 (ap Tryz.f32 (Qw (.h4 (dp l g) c (X c) i j)).1) (Qw (.h4 (dp l g) c (X c) i j)).2 λr h=>bb h [ze.sl] r=M (ay l g,()):=by
  intro m
  induction m with
  | zero=>
   intro i j hm hi z hl d;obtain rfl:i=X c:=by omega
   rw[gB]at d;have o:∀x,x∈(c.map λt:zr=>Y t (Z (dp l g)) (Q K))->bf x=O:=λx y=>by
    obtain⟨t,hr,rfl⟩:=aI.1 y;exact(A t hr).2
   have:=zfL (E:=BC) rfl B j W z (λp hp=>o _ ((d _).1 (aI.2 ⟨p,hp,rfl⟩))) (dp l g) c (X c);have e:ay l g=rl (j.map (·.1)):=by
    unfold ay Mw;rw[q];exact vg o (λx y=>o x ((d x).1 y)) λx _=>(d x).symm
   rw[e];exact this
  | succ m ih=>
   intro i j hm hi z hl d;have v:i<X c:=by omega
   have D:=A c[i] (bp v);have G:=JQ (k:=Y c[i] (Z (dp l g)) (Q K)) (n:=0) (es:=j);refine Gd Ak hf (λid _=>B id) (H (.h4 (dp l g) c (X c) i j)) (s:=.h4 (dp l g) c (X c) ((i+1:Nat):Int) (lF j (Y c[i] (Z (dp l g)) (Q K)) 0)) ?_ (ih (i+1) _ W W ?_ ?_ ?_)
   .have e1:N ((i:Int)<(X c:Int))=O:=by simpa using v
    have e2:zL (i:Int) (X c)=O:=by simp[zL];omega
    have e3:Γ Δ ((i:Int)+1)=((i+1:Nat):Int):=by
     exact zu i um
    have e4:Y c (Z (i:Int)) (Q ze.sl)=c[i]:=zW c _ v;simp only[zwi,e1,e2,e3,e4,D.1,Q8,zj]
   .rw[G];split
    .exact z
    next w=>exact List.nodup_append.2 ⟨z,sw,λa ha b hb e=>w (by rw[ff]at hb;rw[<-hb,<-e];exact ha)⟩
   .have:=congrArg X G;simp only[cW]at this;rw[this];split
    .simp;omega
    .simp;omega
   .intro x;rw[G,List.take_succ_eq_append_getElem v,ib,cZ,<-d x];simp only[er,rk,ff];split
    next w=>exact⟨.inl,λh=>h.elim id λe=>e▸w⟩
    .rw[cZ,ff]
 exact U (X c) 0 [] W W sw sw sw
def zix:=BC.add 32 zpR
theorem sO:zw zix:=Ak.add zkx
open Go Go.Proofs
def ztk(x:ao)(h:J zl.sl):Tr (Empty⊕az):=
 let a:=(x.1,x.2.1,x.q.1,(x.r.1.1,x.r.1.2.1,x.r.1.q.1,x.r.1.r.1,x.r.1.t.1,zt x.r.1.u),x.t)
 R (Fx a h)
 (br (RB a h !=0) (re (tup [nils,L 1]) [])
  (R (JK a h) (re (tup [T K (ay a h),L 0]) [])))
def Mv(x:ao)(h:J zl.sl):=ar [ze.sl,zk] t0 100000000 (ztk x h)
def Ba(x:ao)(h:J zl.sl):=(Mv x h).isSome
def JL(x:ao)(h:J zl.sl):=o2 (Mv x h)
def zpc:=FT [an,zl.sl] [ze.sl,zk] λx=>Mv x.1 x.2.1
theorem zjP:FK 12 zpc:=sO.T1 (f:=Tryz.f12) (keep:=k0) (e:=e0)
def zmT(x:ao)(b:J zl.sl):Tr (Empty⊕az):=
 let a:=(x.1,x.2.1,x.q.1,(x.r.1.1,x.r.1.2.1,x.r.1.q.1,x.r.1.r.1,x.r.1.t.1,zt x.r.1.u),x.t)
 let h:=za8 a b
 R (RH a b)
 (re
  (tup [agg ([I x.1,I x.2.1,I x.q.1,I x.r.1.1,T zn x.r.1.2.1,L x.r.1.q.1,T zk x.r.1.r.1,T zG x.r.1.t.1]++xE x.r.1.u++[T zk x.t.1,L x.u]),T zl h.1,AV.bool h.2])
  [])
def CF(x:ao)(h:J zl.sl):=ar [an,zl.sl,Q7] t0 100000000 (zmT x h)
def KK(x:ao)(h:J zl.sl):=(CF x h).isSome
def Rp(x:ao)(h:J zl.sl):=o3 (CF x h)
def zpK:=FT [an,zl.sl] [an,zl.sl,Q7] λx=>CF x.1 x.2.1
theorem zkp:FK 28 zpK:=sO.T1 (f:=Tryz.f28) (keep:=k0) (e:=e0)
abbrev zt3:=kG [(3,[0,3,4])]
inductive PS where
 |h3 (l0:ed) (i4:Int) (ja0:List UInt8) (ja1:aV) (ja2:Int) (ja5:List UInt8) (ja6:Int) (ja7:Int) (ja8:List UInt8) (ja9:List UInt8)
 |h3b (l0:ed) (i4:Int) (ja0:List UInt8) (ja1:aV) (ja2:Int) (ja5:List UInt8) (ja6:Int) (ja7:Int) (ja8:List UInt8) (ja9:List UInt8) (lh_1:List (J ze.sl))
abbrev zwZ:PS->Nat×St
 |.h3 g i j h x a b c d e=>(3,⟨tm 31 [(0,T zk g),(3,ptr 0 0),(4,L i)],[Qa [I j,T zn h,L x,nils,nils,I a,L b,L c,I d,I e,nils,nils]]⟩)
 |.h3b g i j h x a b c d e l=>(3,⟨tm 31 [(0,T zk g),(3,ptr 0 0),(4,L i)],[Qa [I j,T zn h,L x,nils,nils,I a,L b,L c,I d,I e,nils,AV.vec 1],AO.vec ze.sl l]⟩)
def zyA(x:J zk.sl):Tr (PS⊕az):=
 Q9 (PS.h3 x 0 [118] [([110],1,O),([114],1,S)] 0 [] 0 0 [] [])
def zzf:PS->Tr (PS⊕az)
 | .h3 g i j h x a b c d e=>
  let k:=[[(1,i,[]),(1,g.getD i.toNat (Q zk),[])]]
  br (N (i<(X g:Int)))
  (R (zL i (X g)) (R (N (X k<=1073741824)) (Q9 (PS.h3b g (Γ Δ (i+1)) j h x a b c d e k))))
  (re (T zl [((j,h,x,[],[],zg.mk a (b,c,d) e []),[])]) [])
 | .h3b g i j h x a b c d e l=>
  let k:=[[(1,i,[]),(1,g.getD i.toNat (Q zk),[])]]
  br (N (i<(X g:Int)))
  (R (zL i (X g)) (R (N (X l+X k<=1073741824)) (Q9 (PS.h3b g (Γ Δ (i+1)) j h x a b c d e (l++k)))))
  (re (T zl [((j,h,x,[],[],zg.mk a (b,c,d) e []),l)]) [])
def znL(x:J zk.sl):=ar [zl.sl] zzf 100000000 (zyA x)
def zpN:=FT [zk.sl] [zl.sl] λx=>znL x.1
theorem zks:FK 30 zpN:=sO.T1 (f:=Tryz.f30) (keep:=zt3) (e:=zwZ)
def ziA:=zix.addL [(12,zpc),(28,zpK),(30,zpN)]
theorem IJ:zw ziA:=sO.addL<|fc zjP<|fc zkp<|fc zks<|jb
def i7u(d:J zl.sl)(b:zP):Tr (Empty⊕az):=
 let e:=(b.1,b.2.1,b.q.1,b.r.1,b.t.1,b.u.1,b.v.1,b.w.1,zt b.x.1,b.y.1,b.z.1,zt b.s.1,b.p)
 let a:=Tz e
 let g:=(a.1,a.2.1,a.q.1,a.r.1,a.t.1,a.u.1,a.v.1,a.w.1,zt a.x.1,a.y.1,a.z.1,zt a.s.1,a.p)
 let c:=Ub (E6 d) g
 let i:=(c.1.1,c.1.2.1,c.1.q.1,(c.1.r.1.1,c.1.r.1.2.1,c.1.r.1.q.1,c.1.r.1.r.1,c.1.r.1.t.1,zt c.1.r.1.u),c.1.t)
 let h:=Rp i (E6 d)
 R (KI d)
 (R (KH e)
  (R (K2 (E6 d) g) (br (c.2!=0) (re (tup [zPl,nils,kb S]) []) (R (KK i (E6 d)) (re (tup [agg ([I h.1.1,I h.1.2.1,I h.1.q.1,I h.1.r.1.1,T zn h.1.r.1.2.1,L h.1.r.1.q.1,T zk h.1.r.1.r.1,T zG h.1.r.1.t.1]++xE h.1.r.1.u++[T zk h.1.t.1,L h.1.u]),T zl h.2.1,AV.bool h.q]) [])))))
def lQ(x:J zl.sl)(h:zP):=ar [an,zl.sl,Q7] t0 100000000 (i7u x h)
def AA(x:J zl.sl)(h:zP):=(lQ x h).isSome
def E8(x:J zl.sl)(h:zP):=o3 (lQ x h)
def F7u:=FT [zl.sl,aB] [an,zl.sl,Q7] λx=>lQ x.1 x.2.1
theorem zrU:FK 8 F7u:=IJ.T1 (f:=Tryz.f8) (keep:=k0) (e:=e0)
def Td:=ziA.add 8 F7u
theorem Al:zw Td:=IJ.add zrU
def Ks:ct:={Td with sh:=λt=>if t=2 then M (.int .i64)else Td.sh t}
theorem ml:zw Ks where
 sh:=λt e h=>by
  have x:(ite (t=2) (M (.int .i64)) (Td.sh t))=M e:=h;split at x
  next a=>subst a;cases x;exact Py kw
  .exact Al.sh t e x
 fs:=Al.fs
 mix:=Al.mix
def zqs:ah:=bj (List.replicate 1 none) (fg Ks Tryz.f93 (List.replicate 1 none))
theorem zlc:FK 93 zqs:=cj _ ml (cI kw)
def zqx:ah:=bj (List.replicate 3 none) (fg Ks Tryz.f118 (List.replicate 3 none))
theorem zlh:FK 118 zqx:=cj _ ml (cI kw)
abbrev zuB:=kG [(2,[0,3,7,8])]
inductive U8 where
 |h2 (l0:zr) (i7:Int) (i8:Int) (z0:zq [CP.d K])
abbrev zxn:U8->Nat×St
 |.h2 l i h z=>(2,⟨tm 19 [(0,T K l),(3,ptr 0 0),(7,L i),(8,L h)],[Qa (bF [] [CP.d K] z)]⟩)
def ztJ(x:J ze.sl)(h:zp):Tr (U8⊕az):=
 Q9 (U8.h2 x (X x:Int) 0 (h,()))
def W6:U8->Tr (U8⊕az)
 | .h2 l h i z=>
  let a:=l.getD i.toNat (Q K)
  br (N (i<h))
  (R (zL i (X l)) (br (z.1.1==a.1&&(z.1.2.1==a.2.1&&(z.1.q==a.q&&O))) (re (L i) []) (Q9 (U8.h2 l h (Γ Δ (i+1)) z))))
  (re (L (-1)) [])
def UL(x:J ze.sl)(h:zp):=ar [zk] W6 100000000 (ztJ x h)
def zcb(x:J ze.sl)(h:zp):=(UL x h).isSome
def zoQ(x:J ze.sl)(h:zp):=o1 (UL x h)
def zqz:=FT [ze.sl,K] [zk] λx=>UL x.1 x.2.1
theorem zlj:FK 120 zqz:=ml.T1 (f:=Tryz.f120) (keep:=zuB) (e:=zxn)
abbrev ztW:=kG [(4,[0,1,5])]
inductive UV where
 |h4 (l0:zr) (l1:zr) (i5:Int)
abbrev zwU:UV->Nat×St
 |.h4 l h i=>(4,⟨tm 26 [(0,T K l),(1,T K h),(5,L i)],[]⟩)
def zeO(x h:J ze.sl):Tr (UV⊕az):=
 br ((X x:Int)!=(X h:Int)) (re (kb S) []) (Q9 (UV.h4 x h 0))
def WY:UV->Tr (UV⊕az)
 | .h4 l x i=>
  let a:=l.getD i.toNat (Q K)
  let h:=x.getD i.toNat (Q K)
  br (N (i<(X l:Int)))
  (R (zL i (X l)) (R (zL i (X x)) (br (!(a.1==h.1&&(a.2.1==h.2.1&&(a.q==h.q&&O)))) (re (kb S) []) (Q9 (UV.h4 l x (Γ Δ (i+1)))))))
  (re (kb O) [])
def CR(x h:J ze.sl):=ar [Q7] WY 100000000 (zeO x h)
def La(x h:J ze.sl):=(CR x h).isSome
def RK(x h:J ze.sl):=o1 (CR x h)
def zpA:=FT [ze.sl,ze.sl] [Q7] λx=>CR x.1 x.2.1
theorem zkb:FK 46 zpA:=ml.T1 (f:=Tryz.f46) (keep:=ztW) (e:=zwU)
def Ew:=Ks.addL [(93,zqs),(118,zqx),(120,zqz),(46,zpA)]
theorem pB:zw Ew:=ml.addL<|fc zlc<|fc zlh<|fc zlj<|fc zkb<|jb
abbrev De(c a b:Int)(s:zK)(l:List fx)(i:Int):St:={tmps:=[.sl (Sh.sl K) l,.clo (.func 118) [] [.ptr 0 0,.ptr 1 0],.any,.any,.any,.any,.any,L (X l),L i,.any,.any,.any,.any,.any,.any,.any,.any,.any,.any],heap:=[.box [L c],.box [L a,L b,.str s]]}
theorem Zl(c a b:Int)(s:zK)(l:List fx):run Ew 2 Ch Tryz.f117.results.toList 300 (bu Tryz.f117) (bl Tryz.f117.ntmps [.sl (Sh.sl K) l,.clo (.func 118) [] [.ptr 0 0,.ptr 1 0]] [.box [L c],.box [L a,L b,.str s]])=.ok (.head 2 (ap Tryz.f117 2) (De c a b s l 0)):=kw
theorem zaG(c a b:Int)(s:zK)(l:List fx)(i:Int):run Ew 2 Ch Tryz.f117.results.toList 300 (ap Tryz.f117 2) (De c a b s l i)=pM (K:=ap Tryz.f117 2) (e:=(Sh.sl ze)) l (λx=>bK x c (a,b,s)) (De c a b s l) [.box [L c],.box [L a,L b,.str s]] i:=kw
theorem zay:zZ Ew.P 117 Tryz.f117 2:=by refine⟨?_,?_,?_,?_⟩<;>kernel_rfl
def zsc:fz [M (.sl (Sh.sl K)),none]:=λx h=>match x,h with
 |(l,.clo (.func 118) [] [.ptr 0 0,.ptr 1 0],_),[.box [L c],.box [L a,L b,.str s]]=>.ok (L (aj (λx=>bK x c (a,b,s)) l 0),[.box [L c],.box [L a,L b,.str s]])
 |_,_=>.err
def zqu:ah:=bj [M (.sl (Sh.sl K)),none] zsc
theorem zle:FK 117 zqu:=by
 refine dw zay λx i g h C d=>?_
 unfold zsc at h;split at h
 .rename_i l u c a b s;simp only[Tr.val_ok,bG]at h;subst h;refine Reach.len 0 (Sh.sl K) l rfl λe=>?_
  refine zJ (n0:=2) pB zay d (Zl c a b s l) ?_;exact lT l (λx=>bK x c (a,b,s)) (De c a b s l) pB zay d (zaG c a b s l) e _ 0 rfl (aK _)
 .simp at h
def ztC(x:J ze.sl)(h:zp):Tr (Empty⊕az):=
 R (zcb x h) (re (AV.bool (N (zoQ x h>=0))) [])
def UK(x:J ze.sl)(h:zp):=ar [Q7] t0 100000000 (ztC x h)
def PH(x:J ze.sl)(h:zp):=(UK x h).isSome
def HB(x:J ze.sl)(h:zp):=o1 (UK x h)
def zp2:=FT [ze.sl,K] [Q7] λx=>UK x.1 x.2.1
theorem zkI:FK 52 zp2:=pB.T1 (f:=Tryz.f52) (keep:=k0) (e:=e0)
def Y4:=Ew.addL [(117,zqu),(52,zp2)]
theorem Ex:zw Y4:=pB.addL<|fc zle<|fc zkI<|jb
def ztB(h:ae)(a:zp):Tr (Empty⊕az):=
 br (!dt (h.1.1,h.1.2.1,h.1.q.1,h.1.r.1,h.1.t.1,zt h.1.u))
 (re (L (aj (λx=>bK x (-1) a) h.2 0)) [])
 (re (L (aj (λx=>bK x h.1.q.1 a) h.2 0)) [])
def LK(x:ae)(h:zp):=ar [zk] t0 100000000 (ztB x h)
def LJ(x:ae)(h:zp):=(LK x h).isSome
def Ul(x:ae)(h:zp):=o1 (LK x h)
def zp0:=FT [zl,K] [zk] λx=>LK x.1 x.2.1
theorem zkG:FK 51 zp0:=Ex.T1 (f:=Tryz.f51) (keep:=k0) (e:=e0)
def Y5:=Y4.add 51 zp0
theorem Ey:zw Y5:=Ex.add zkG
def Wc(x:ao)(b:J zl.sl)(h:zp):Tr (Empty⊕az):=
 let d:=(x.1,x.2.1,x.q.1,(x.r.1.1,x.r.1.2.1,x.r.1.q.1,x.r.1.r.1,x.r.1.t.1,zt x.r.1.u),x.t)
 let i:=zL 0 (X b)
 let a:=Y b (Z 0) (Q zl)
 let j:=((a.1.1,a.1.2.1,a.1.q.1,a.1.r.1,a.1.t.1,zt a.1.u),a.2)
 let g:=Ul j h
 let k:=Y a.2 (Z g) (Q ze.sl)
 let l:=JK d b
 let e:=ay d b
 let c:=Y k (Z x.u) (Q K)
 R (Fx d b)
 (br (RB d b !=0) (re (tup [agg [L 0,L 0,I []],L 1]) [])
  (br (x.1==gO) (R i (R (LJ j h) (br (N (g<0)) (re (tup [agg [L 0,L 0,I []],L 6]) []) (R i (R (zL g (X a.2)) (R (zL x.u (X k)) (R l (R (PH e c)
  (br (!HB e c) (re (tup [agg [L 0,L 0,I []],L 6]) []) (re (tup [agg [L c.1,L c.2.1,I c.q],L 0]) [])))))))))) (R l (R (PH e h) (br (!HB e h) (re (tup [agg [L 0,L 0,I []],L 6]) [])
  (re (tup [agg [L h.1,L h.2.1,I h.q],L 0]) []))))))
def UJ(x:ao)(h:J zl.sl)(a:zp):=ar [K,zk] t0 100000000 (Wc x h a)
def zb8(x:ao)(h:J zl.sl)(a:zp):=(UJ x h a).isSome
def zoN(x:ao)(h:J zl.sl)(a:zp):=o2 (UJ x h a)
def zpE:=FT [an,zl.sl,K] [K,zk] λx=>UJ x.1 x.2.1 x.q.1
theorem zkh:FK 24 zpE:=Ey.T1 (f:=Tryz.f24) (keep:=k0) (e:=e0)
def Y6:=Y5.add 24 zpE
theorem Ez:zw Y6:=Ey.add zkh
abbrev ztY:=kG [(4,[0,1,5])]
inductive UW where
 |h4 (l0:List (J ze.sl)) (l1:List (J ze.sl)) (i5:Int)
abbrev zwV:UW->Nat×St
 |.h4 l h i=>(4,⟨tm 27 [(0,T ze.sl l),(1,T ze.sl h),(5,L i)],[]⟩)
def zmR(x h:J ze.sl.sl):Tr (UW⊕az):=
 br ((X x:Int)!=(X h:Int)) (re (kb S) []) (Q9 (UW.h4 x h 0))
def zf8:UW->Tr (UW⊕az)
 | .h4 l h i=>
  let a:=l.getD i.toNat (Q ze.sl)
  let x:=h.getD i.toNat (Q ze.sl)
  br (N (i<(X l:Int)))
  (R (zL i (X l)) (R (zL i (X h)) (R (La a x) (br (!RK a x) (re (kb S) []) (Q9 (UW.h4 l h (Γ Δ (i+1))))))))
  (re (kb O) [])
def C2(x h:J ze.sl.sl):=ar [Q7] zf8 100000000 (zmR x h)
def Lp(x h:J ze.sl.sl):=(C2 x h).isSome
def RU(x h:J ze.sl.sl):=o1 (C2 x h)
def zpC:=FT [ze.sl.sl,ze.sl.sl] [Q7] λx=>C2 x.1 x.2.1
theorem zkf:FK 22 zpC:=Ez.T1 (f:=Tryz.f22) (keep:=ztY) (e:=zwV)
def Y7:=Y6.addL [(22,zpC)]
theorem QM:zw Y7:=Ez.addL<|fc zkf<|jb
inductive zAI where
 |h3 (l1:zS) (i8:Int) (z0:zq [CP.d an]) (z1:zq [CP.d K])
 |h3b (l1:zS) (i8:Int) (z0:zq [CP.d an]) (z1:zq [CP.d K]) (lh_2:List (J ze.sl))
inductive zAH where
 |h3 (l1:zS) (i6:Int) (z0:zq [CP.d an])
 |h9 (l1:zS) (i6:Int) (b9:Bool) (i10:Int) (z0:zq [CP.d an]) (z1:zq [CP.d K])
 |h3b (l1:zS) (i6:Int) (z0:zq [CP.d an]) (lh_1:zr)
 |h9b (l1:zS) (i6:Int) (b9:Bool) (i10:Int) (z0:zq [CP.d an]) (z2:zq [CP.d K]) (lh_1:zr)
 |h9bb (l1:zS) (i6:Int) (i10:Int) (z0:zq [CP.d an]) (z2:zq [CP.d K]) (lh_1:zr) (lh_3:zr)
 |h9bbb (l1:zS) (i6:Int) (b9:Bool) (i10:Int) (z0:zq [CP.d an]) (z2:zq [CP.d K]) (lh_1:zr) (lh_3:zr)
def Y8:=Y7
theorem EA:zw Y8:=QM
abbrev yI:List CP:=[.d ab,.vec (.sl K)]
abbrev uh:List CP:=[.d .str,.nil,.d zk,.nil,.nil,.d .str,.d zk,.d zk,.d .str,.d .str,.nil,.nil]
inductive zAK where
 |h6 (l7:List (J ze.sl)) (i10:Int) (z0:zq [CP.d an]) (z1:zq [CP.d K]) (z2:zq [CP.d K])
 |h14 (l1:zS) (l7:List (J ze.sl)) (i11:Int) (z0:zq [CP.d an]) (z1:zq [CP.d K]) (lh_2:List (J ze.sl))
 |h22 (l1:zS) (l7:List (J ze.sl)) (i11:Int) (l12:zr) (i14:Int) (z0:zq [CP.d an]) (z1:zq [CP.d K]) (lh_2:List (J ze.sl)) (lh_3:zr)
abbrev zt1:Nat->aY:=λj=>if j=3 then{slots:=[1,2,3,4],prom:=[(3,M 11,(.sl K))]}else if j=6 then{slots:=[1,2,3,4,5]}else{ }
inductive MJ where
 |h3 (i4:Int) (z0:zq [CP.d zl]) (z1:zq uh) (z2:zq yI)
 |h6 (i4:Int) (i5:Int) (z0:zq [CP.d zl]) (z1:zq uh) (z2:zq yI)
abbrev zwX:MJ->Nat×St
 |.h3 i h x z=>(3,⟨tm 67 [(1,ptr 0 0),(2,ptr 1 0),(3,ptr 2 0),(4,L i)],[Qa (bF [] [CP.d zl] h),Qa (bF [] uh x),Qa (bF [3] yI z),AO.vec ze.sl z.2.1]⟩)
 |.h6 i a h x z=>(6,⟨tm 67 [(1,ptr 0 0),(2,ptr 1 0),(3,ptr 2 0),(4,L i),(5,L a)],[Qa (bF [] [CP.d zl] h),Qa (bF [] uh x),Qa (bF [3] yI z),AO.vec ze.sl z.2.1]⟩)
def zty(x:ae):Tr (MJ⊕az):=
 Q9 (MJ.h3 0 (x,()) ([],0,[],0,0,[],[],()) (x.1,[],()))
def Cj:MJ->Tr (MJ⊕az)
 | .h3 i h z1 z=>
  let j:=(X h.1.2:Int)
  br (N (i<j)) (Q9 (MJ.h6 i (X z.2.1:Int) h z1 z))
  (re (agg [I z.1.1,T zn z.1.2.1,L z.1.q.1,T zk z.1.r.1,T zG z.1.t.1,I (zg.op z.1.u),L (zg.v z.1.u).1,L (zg.v z.1.u).2.1,I (zg.v z.1.u).q,I (zg.s z.1.u),T Q5 (zg.l z.1.u),AV.vec 0]) [AO.vec ze.sl z.2.1])
 | .h6 i b h z1 z=>
  let j:=N (b>0)
  let k:=Γ Δ (b-1)
  let m:=(h.1.1.1,h.1.1.2.1,h.1.1.q.1,h.1.1.r.1,h.1.1.t.1,zt h.1.1.u)
  let o:=z.2.1.getD k.toNat (Q ze.sl)
  let p:=zL i (X h.1.2)
  let n:=Y h.1.2 i.toNat (Q ze.sl)
  let w:=Js m o
  let y:=Js m n
  let B:=CN w y
  let A:=N (0<=b)
  let a:=(X z.2.1:Int)
  let c:=N (b<=a)
  let x:=List.take (b.toNat-Z 0) (List.drop (Z 0) z.2.1)
  let d:=[n]
  let e:=x++d
  let g:=List.take (a.toNat-b.toNat) (List.drop b.toNat z.2.1)
  R (cond j (zL k (X z.2.1)&&(N (k.toNat<X z.2.1)&&(AT m o&&(p&&(AT m n&&xx w y))))) O)
  (br (cond j (N (B>0)) S) (Q9 (MJ.h6 i k h z1 z)) (R (N (0<=0)&&A&&c) (R (N (X x<=1073741824)) (R p (R (N (X x+X d<=1073741824)) (R (A&&c&&N (a<=a))
  (R (N (X e+X g<=1073741824)) (Q9 (MJ.h3 (Γ Δ (i+1)) h z1 (z.1,e++g,()))))))))))
def C5(x:ae):=ar [zl] Cj 100000000 (zty x)
def Lr(x:ae):=(C5 x).isSome
def RV(x:ae):=o1 (C5 x)
def zpL:=FT [zl] [zl] λx=>C5 x.1
theorem zkq:FK 15 zpL:=EA.T1 (f:=Tryz.f15) (keep:=zt1) (e:=zwX)
def ziu:=Y8.addL [(15,zpL)]
theorem VY:zw ziu:=EA.addL<|fc zkq<|jb
inductive zAJ where
 |h4 (l8:List (J ze.sl)) (i10:Int) (z0:zq [CP.d an]) (lh_1:List (J ze.sl))
def ziv:=ziu
theorem VZ:zw ziv:=VY
inductive H9v where
 |h4 (l1:zS) (l2:zr) (i9:Int) (i10:Int) (z0:zq [CP.d an]) (z1:zq uh) (z2:zq yI)
 |h8 (l1:zS) (l2:zr) (i9:Int) (i10:Int) (i12:Int) (z0:zq [CP.d an]) (z1:zq uh) (z2:zq yI)
 |h8b (l1:zS) (l2:zr) (i9:Int) (i10:Int) (b11:Bool) (i12:Int) (z0:zq [CP.d an]) (z1:zq uh) (z2:zq yI)
def NE:=ziv
theorem lN:zw NE:=VZ
abbrev Pz:Sh:=.pr an (.sl zl)
abbrev eh:=J Pz
abbrev wE:List CP:=[.d Pz]
abbrev znC:Nat->aY:=λj=>if j=3 then{slots:=[1,5,10,11,12],prom:=[(5,none,K)]}else{ }
inductive HK where
 |h3 (l1:zr) (l10:ed) (i11:Int) (i12:Int) (lh_0:zr)
abbrev zsL:HK->Nat×St
 |.h3 a x i h l=>(3,⟨tm 25 [(1,T K a),(5,AV.vec 0),(10,T zk x),(11,L i),(12,L h)],[AO.vec K l]⟩)
def zi2(x:eh)(h:J ze.sl):Tr (HK⊕az):=
 Q9 (HK.h3 h x.1.t.1 (X x.1.t.1:Int) 0 [])
def UE:HK->Tr (HK⊕az)
 | .h3 a h x i l=>
  let b:=h.getD i.toNat (Q zk)
  let c:=[a.getD (Z b) (Q K)]
  br (N (i<x))
  (R (zL i (X h)) (R (zL b (X a)) (R (N (X l+X c<=1073741824)) (Q9 (HK.h3 a h x (Γ Δ (i+1)) (l++c))))))
  (re (AV.vec 0) [AO.vec K l])
def J9(x:eh)(h:J ze.sl):=ar [ze.sl] UE 100000000 (zi2 x h)
def yH(x:eh)(h:J ze.sl):=(J9 x h).isSome
def H3(x:eh)(h:J ze.sl):=o1 (J9 x h)
def zhd:=FT [Pz,ze.sl] [ze.sl] λx=>J9 x.1 x.2.1
theorem zdb:FK 153 zhd:=lN.T1 (f:=Tryz.f153) (keep:=znC) (e:=zsL)
def zeU(x:eh):Tr (Empty⊕az):=
 let a:=Y x.2 (Z 0) (Q zl)
 br (x.1.1==dD) (R (zL 0 (X x.2)) (re (L a.1.q.1) []))
 (br (x.1.1==gO) (re (L x.1.u) [])
  (R (zL 0 (X x.1.t.1)) (re (L (Y x.1.t.1 (Z 0) (Q zk))) [])))
def SY(x:eh):=ar [zk] t0 100000000 (zeU x)
def XX(x:eh):=(SY x).isSome
def zl2(x:eh):=o1 (SY x)
def zpX:=FT [Pz] [zk] λx=>SY x.1
theorem zkD:FK 33 zpX:=lN.T1 (f:=Tryz.f33) (keep:=k0) (e:=e0)
def zim:=NE.addL [(153,zhd),(33,zpX)]
theorem Aj:zw zim:=lN.addL<|fc zdb<|fc zkD<|jb
abbrev zuO:Nat->aY:=λj=>if j=3 then{slots:=[3,7,10,11,12],prom:=[(7,none,(.sl K))]}else{ }
inductive Vd where
 |h3 (l10:List (J ze.sl)) (i11:Int) (i12:Int) (z0:zq wE) (lh_1:List (J ze.sl))
abbrev zxz:Vd->Nat×St
 |.h3 x i h z l=>(3,⟨tm 24 [(3,ptr 0 0),(7,AV.vec 1),(10,T ze.sl x),(11,L i),(12,L h)],[Qa (bF [] wE z),AO.vec ze.sl l]⟩)
def ztO(h:eh)(_:zp)(x:J ze.sl.sl):Tr (Vd⊕az):=
 Q9 (Vd.h3 x (X x:Int) 0 (h,()) [])
def zge:Vd->Tr (Vd⊕az)
 | .h3 h x i z l=>
  let a:=((z.1.1.1,z.1.1.2.1,z.1.1.q.1,(z.1.1.r.1.1,z.1.1.r.1.2.1,z.1.1.r.1.q.1,z.1.1.r.1.r.1,z.1.1.r.1.t.1,zt z.1.1.r.1.u),z.1.1.t),z.1.2)
  let b:=h.getD i.toNat (Q ze.sl)
  let c:=[H3 a b]
  br (N (i<x))
  (R (zL i (X h)) (R (yH a b) (R (N (X l+X c<=1073741824)) (Q9 (Vd.h3 h x (Γ Δ (i+1)) z (l++c))))))
  (re (AV.vec 0) [AO.vec ze.sl l])
def J6(x:eh)(h:zp)(a:J ze.sl.sl):=ar [ze.sl.sl] zge 100000000 (ztO x h a)
def P4(x:eh)(h:zp)(a:J ze.sl.sl):=(J6 x h a).isSome
def XY(x:eh)(h:zp)(a:J ze.sl.sl):=o1 (J6 x h a)
def zqP:=FT [Pz,K,ze.sl.sl] [ze.sl.sl] λx=>J6 x.1 x.2.1 x.q.1
theorem zly:FK 88 zqP:=Aj.T1 (f:=Tryz.f88) (keep:=zuO) (e:=zxz)
abbrev zuQ:=kG [(5,[3,4,7,15,16,17])]
inductive PV where
 |h5 (l15:List (J ze.sl)) (i16:Int) (i17:Int) (z0:zq wE) (z1:zq [CP.d K]) (z2:zq [CP.d K])
abbrev zxB:PV->Nat×St
 |.h5 l i h z x a=>(5,⟨tm 40 [(3,ptr 0 0),(4,ptr 1 0),(7,ptr 2 0),(15,T ze.sl l),(16,L i),(17,L h)],[Qa (bF [] wE z),Qa (bF [] [CP.d K] x),Qa (bF [] [CP.d K] a)]⟩)
def zm8(h:eh)(a:zp)(x:J ze.sl.sl):Tr (PV⊕az):=
 br ((X x:Int)==0) (re nils []) (Q9 (PV.h5 x (X x:Int) 0 (h,()) (a,()) ((1,0,[]),())))
def zgh:PV->Tr (PV⊕az)
 | .h5 l h i z x a=>
  let b:=Y z.1.1.t.1 (Z 1) (Q zk)
  let c:=l.getD i.toNat (Q ze.sl)
  let d:=Y c (Z b) (Q K)
  let e:=Γ Δ (i+1)
  br (N (i<h))
  (R (zL i (X l)) (R (zL 1 (X z.1.1.t.1)) (R (zL b (X c)) (br (d.1!=0) (Q9 (PV.h5 l h e z x (qI a.1 d,()))) (Q9 (PV.h5 l h e z x a))))))
  (re (T ze.sl [[x.1,a.1]]) [])
def Cv(x:eh)(h:zp)(a:J ze.sl.sl):=ar [ze.sl.sl] zgh 100000000 (zm8 x h a)
def J7(x:eh)(h:zp)(a:J ze.sl.sl):=(Cv x h a).isSome
def P5(x:eh)(h:zp)(a:J ze.sl.sl):=o1 (Cv x h a)
def zqS:=FT [Pz,K,ze.sl.sl] [ze.sl.sl] λx=>Cv x.1 x.2.1 x.q.1
theorem zlB:FK 90 zqS:=Aj.T1 (f:=Tryz.f90) (keep:=zuQ) (e:=zxB)
def zin:=zim.addL [(88,zqP),(90,zqS)]
theorem VV:zw zin:=Aj.addL<|fc zly<|fc zlB<|jb
open Go Go.Proofs Go.RowKit Go.Lib
set_option maxRecDepth 100000
theorem zna:(Tryz.prog.info? 30).map (λi=>(i.zero,i.size,i.bytes))=M (M (.agg #[.int .i64 0,.int .i64 0,.string ⟨#[]⟩]),3,32):=by kernel_rfl
theorem zeJ(p:Option Addr)(k:Nat)(n:k<=1000000)(w:World):Calls Tryz.prog 221 #[.slice p 0 0,.int .i64 k] w λe d=>∃q c,e=.returned (.slice q 0 c)/\Below w.heap.size w d/\(c=0\/(0<c/\q=M ⟨w.heap.size,0,none⟩/\∃h,d.heap[w.heap.size]?=M (.cells h 30 (0,0))/\h.size=c*3)):=by
 obtain⟨m,j,b,l,a⟩:=info_parts zna;by_cases g:k=0
 .subst g
  go_enter Tryz.func221,Tryz.ntmps221
  go_wp2
  first|go_ret|go_ret2
  exact⟨_,_,rfl,Below.refl _ _,.inl rfl⟩
 .have x:=λt=>run_append_grow_zeros (P:=Tryz.prog) w 39 3 t 30 m _ .i64 .i64 Tryz.underlying39 Tryz.underlying3 j b p 0 0 [] (by cases p<;>simp[Builtin.firstCells,loadCells,loadCellsFrom]) k (by omega) (by omega) (by omega) (by omega) (by rw[a];omega) (by rw[eV,nextslicecap_zero (by omega),a];omega)
  simp only[eV]at x;have i:=grownCap_ge w k 0 30
  go_enter Tryz.func221,Tryz.ntmps221
  go_wp2_with (at_builtin;refine Lib.wpList_append_run _ rfl _ _ _ _ rfl _ _ rfl rfl _ _ (x _) ?_)
  first|go_ret|go_ret2
  refine⟨_,_,rfl,((Below.refl _ _).alloc (zQ _) _).drew,.inr ⟨by omega,rfl,_,heap_alloc_new _ _,?_⟩⟩;simp[size_zeroCells];omega
abbrev zAE:Sh:=.pr (.int .i64) (.pr (.int .i64) .str)
def zjG:ah:=λa _ n=>match a with
 |[.nils,.int .i64 k]=>.chk (N (0<=k)) (.chk (N (k<=1000000)) (.ok {val:=.vec n,nw:=[.vec K []]}))
 |_=>.err
theorem zeK{w:World}{U:Nat->Prop}{C:Nat->Option Value}{A:Nat->AO}{d:Nat}{p:Option Addr}(j:∀b,U b->b<w.heap.size)(s:C n=none)(z:d<=1000000):
  Calls Tryz.prog 221 #[.slice p 0 0,.int .i64 d] w λe m=>∃v t B,e=.returned v/\Ef n A {val:=.vec n,nw:=[.vec K []]} w U C v m t B:=by
 refine(zeJ p d z w).mono ?_;rintro e m ⟨q,c,rfl,x,rfl|⟨u,rfl,k,o,l⟩⟩
 .exact⟨_,U,_,rfl,Ef.newVec sw s rfl (lv.below x) (λb a _=>x.block b a) (λb a=>ia (j b a) x.size) (λb _=>Iff.rfl) ⟨q,0,by simp[kq],aK _,.inl ⟨rfl,rfl⟩⟩ (λb a=>by cases q<;>simp[cd]at a)⟩
 .have g:w.heap.size<m.heap.size:=(mP.1 o).1;exact⟨_,λb=>U b\/b=w.heap.size,_,rfl,Ef.newVec sw s rfl (lv.below x) (λb a _=>x.block b a) (λb h=>by
     rcases h with h|rfl
     .exact ia (j b h) x.size
     .exact g) (λb a=>⟨λh=>h.elim id λe=>zz e W,.inl⟩) ⟨M ⟨w.heap.size,0,none⟩,c,by simp[kq],aK _,.inr ⟨w.heap.size,30,k,rfl,u,.inr rfl,o,l,aK _,λi y=>zz y sw⟩⟩ (λb a=>by simp[cd]at a;exact .inl W)⟩
theorem zkk:FK 221 zjG where
 fn:=⟨Tryz.f221,kw,kw,kw⟩
 calls:=λw U y u n c v f s h x b i g j e a=>by
  unfold zjG at h;split at h
  .rename_i k;simp only[Tr.val_chk,Tr.val_ok,bG,ba]at h;obtain⟨d,t,rfl⟩:=h;obtain⟨k,rfl⟩:=Int.eq_ofNat_of_zero_le d;have l:=x.len
   match v,l,x with
   |[p,q],_,x=>
   have m:=x.rv 0 _ p rfl rfl;have o:=x.rv 1 _ q rfl rfl;cases m;cases o;exact⟨zeK b (a 0 sw) W,sw⟩
  .simp at h
def YW:=zin.add 221 zjG
theorem Ee:zw YW:=VV.add zkk
abbrev znD:=kG [(3,[0,3,9,10,11]),(11,[6,25,26,27])]
inductive oe where
 |h3 (l0:List (J ze.sl)) (i3:Int) (l9:List (J ze.sl)) (i10:Int) (i11:Int)
 |h11 (l25:List (J ze.sl)) (i26:Int) (i27:Int) (lh_0:zr)
abbrev zsM:oe->Nat×St
 |.h3 d c e i h=>(3,⟨tm 36 [(0,T ze.sl d),(3,L c),(9,T ze.sl e),(10,L i),(11,L h)],[]⟩)
 |.h11 b x a l=>(11,⟨tm 36 [(6,AV.vec 0),(25,T ze.sl b),(26,L x),(27,L a)],[AO.vec K l]⟩)
def zi3(x:J ze.sl.sl):Tr (oe⊕az):=
 Q9 (oe.h3 x 0 x (X x:Int) 0)
def JJ:oe->Tr (oe⊕az)
 | .h3 e d g b i=>
  let a:=Γ Δ (d+(↑(X (g.getD i.toNat (Q ze.sl))):Int))
  br (N (i<b)) (R (zL i (X g)) (br (N (a<0)) Tr.err (Q9 (oe.h3 e a g b (Γ Δ (i+1))))))
  (R (N (0<=d)) (R (N (d<=1000000)) (Q9 (oe.h11 e (X e:Int) 0 []))))
 | .h11 x c h l=>
  let a:=x.getD h.toNat (Q ze.sl)
  br (N (h<c))
  (R (zL h (X x)) (R (N (X l+X a<=1073741824)) (Q9 (oe.h11 x c (Γ Δ (h+1)) (l++a)))))
  (re (AV.vec 0) [AO.vec K l])
def S4(x:J ze.sl.sl):=ar [ze.sl] JJ 100000000 (zi3 x)
def Yf(x:J ze.sl.sl):=(S4 x).isSome
def zmm(x:J ze.sl.sl):=o1 (S4 x)
def zhe:=FT [ze.sl.sl] [ze.sl] λx=>S4 x.1
theorem zdc:FK 154 zhe:=Ee.T1 (f:=Tryz.f154) (keep:=znD) (e:=zsM)
def zio:=YW.add 154 zhe
theorem IB:zw zio:=Ee.add zdc
abbrev zuP:Nat->aY:=λj=>if j=7 then{slots:=[8,9,30,31,32],prom:=[(9,none,(.sl K))]}else{ }
inductive Ve where
 |h7 (l8:zr) (l30:List (J ze.sl)) (i31:Int) (i32:Int) (lh_0:List (J ze.sl))
abbrev zxA:Ve->Nat×St
 |.h7 a x i h l=>(7,⟨tm 45 [(8,T K a),(9,AV.vec 0),(30,T ze.sl x),(31,L i),(32,L h)],[AO.vec ze.sl l]⟩)
def ze5(x:eh)(g:zp)(i:J ze.sl.sl):Tr (Ve⊕az):=
 let b:=zL 1 (X x.2)
 let a:=Y x.2 (Z 1) (Q zl)
 let c:=((a.1.1,a.1.2.1,a.1.q.1,a.1.r.1,a.1.t.1,zt a.1.u),a.2)
 let h:=Ul c g
 let d:=((x.1.1,x.1.2.1,x.1.q.1,(x.1.r.1.1,x.1.r.1.2.1,x.1.r.1.q.1,x.1.r.1.r.1,x.1.r.1.t.1,zt x.1.r.1.u),x.1.t),x.2)
 let e:=Y a.2 (Z h) (Q ze.sl)
 R b
 (R (LJ c g)
  (br (N (h<0)) (re nils []) (R b (R (zL h (X a.2)) (R (yH d e) (Q9 (Ve.h7 (H3 d e) i (X i:Int) 0 [])))))))
def zgf:Ve->Tr (Ve⊕az)
 | .h7 c h x i l=>
  let a:=[h.getD i.toNat (Q ze.sl),c]
  let b:=[zmm a]
  br (N (i<x))
  (R (zL i (X h)) (R (Yf a) (R (N (X l+X b<=1073741824)) (Q9 (Ve.h7 c h x (Γ Δ (i+1)) (l++b))))))
  (re (AV.vec 0) [AO.vec ze.sl l])
def J8(x:eh)(h:zp)(a:J ze.sl.sl):=ar [ze.sl.sl] zgf 100000000 (ze5 x h a)
def P6(x:eh)(h:zp)(a:J ze.sl.sl):=(J8 x h a).isSome
def XZ(x:eh)(h:zp)(a:J ze.sl.sl):=o1 (J8 x h a)
def zqQ:=FT [Pz,K,ze.sl.sl] [ze.sl.sl] λx=>J8 x.1 x.2.1 x.q.1
theorem zlz:FK 89 zqQ:=IB.T1 (f:=Tryz.f89) (keep:=zuP) (e:=zxA)
def ziq:=zio.add 89 zqQ
theorem IC:zw ziq:=IB.add zlz
abbrev zub:Nat->aY:=λj=>if j=5 then{slots:=[3,9,10,23,24,25],prom:=[(9,none,(.sl K))]}else{ }
inductive JV where
 |h5 (i10:Int) (l23:List (J ze.sl)) (i24:Int) (i25:Int) (z0:zq wE) (lh_1:List (J ze.sl))
abbrev zw4:JV->Nat×St
 |.h5 i a h x z l=>(5,⟨tm 44 [(3,ptr 0 0),(9,AV.vec 1),(10,L i),(23,T ze.sl a),(24,L h),(25,L x)],[Qa (bF [] wE z),AO.vec ze.sl l]⟩)
def ZF(x:eh)(h:zp)(b:J ze.sl.sl):Tr (JV⊕az):=
 let a:=((x.1.1,x.1.2.1,x.1.q.1,(x.1.r.1.1,x.1.r.1.2.1,x.1.r.1.q.1,x.1.r.1.r.1,x.1.r.1.t.1,zt x.1.r.1.u),x.1.t),x.2)
 let c:=XY a h b
 let d:=XZ a h b
 let e:=P5 a h b
 R O
 (R O
  (R O (br (x.1.1==dD) (R (P4 a h b) (Q9 (JV.h5 0 c (X c:Int) 0 (x,()) []))) (br (x.1.1==gO) (R (P6 a h b) (Q9 (JV.h5 0 d (X d:Int) 0 (x,()) [])))
  (br (x.1.1==pp) (R (J7 a h b) (Q9 (JV.h5 0 e (X e:Int) 0 (x,()) []))) Tr.err)))))
def zga:JV->Tr (JV⊕az)
 | .h5 x h a i z l=>
  let b:=h.getD i.toNat (Q ze.sl)
  let c:=Γ Δ (i+1)
  let d:=[b]
  br (N (i<a))
  (R (zL i (X h)) (br (cR (z.1.1.r.1.1,z.1.1.r.1.2.1,z.1.1.r.1.q.1,z.1.1.r.1.r.1,z.1.1.r.1.t.1,zt z.1.1.r.1.u) b !=0) (Q9 (JV.h5 (Γ Δ (x+1)) h a c z l)) (R (N (X l+X d<=1073741824)) (Q9 (JV.h5 x h a c z (l++d))))))
  (re (tup [AV.vec 0,L x]) [AO.vec ze.sl l])
def DH(x:eh)(h:zp)(a:J ze.sl.sl):=ar [ze.sl.sl,zk] zga 100000000 (ZF x h a)
def H2(x:eh)(h:zp)(a:J ze.sl.sl):=(DH x h a).isSome
def Vm(x:eh)(h:zp)(a:J ze.sl.sl):=o2 (DH x h a)
def zpZ:=FT [Pz,K,ze.sl.sl] [ze.sl.sl,zk] λx=>DH x.1 x.2.1 x.q.1
theorem zkF:FK 34 zpZ:=IC.T1 (f:=Tryz.f34) (keep:=zub) (e:=zw4)
def zir:=ziq.add 34 zpZ
theorem VW:zw zir:=IC.add zkF
open Go
theorem sF{P:Program}{m:Nat->AV}{g ι:Type}{E:ct}{k:FuncId}{f:Func}{b:List (Option Sh)}{G:fz b}{d n0:Nat}{e:g->Nat×St}{t:g->Tr (g⊕az)}{args:ι->List AV}{heap:ι->List AO}{i:ι->Tr (g⊕az)}
  (z:zw E) (o:zZ E.P k f (X b)) (B:∀x,(heap x).length=n0)
  (j:∀x,run E n0 keep f.results.toList d (bu f) (bl f.ntmps (args x) (heap x))=(i x).map (lf f e))
  (l:∀s,run E n0 keep f.results.toList d (ap f (e s).1) (e s).2=(t s).map (lf f e))
  (A:∀a h c,(G a h).val=M c->∃x,jn b a=args x/\h=heap x/\bT t n (i x)=M c) (H:E.P=P:=by rfl) (F:E.gl=m:=by rfl):nZ P m k (bj b G):=by
 subst H F;refine dw o λx v c D C w=>?_
 have⟨y,p,q,u⟩:=A x v c D;subst q;rw[p];exact ms (n0:=n0) (Q:=λr h=>(r,h)=c) z o (λid h=>w id (by rw[B];exact h)) (n+1) _ _ _ (by rw[jY l (j y)];exact u) rfl
abbrev Bu(l:ed):Tr zT:=run dF 0 MB (Func.results Tryz.f157).toList 300 (bu Tryz.f157) (bl (Func.ntmps Tryz.f157) [.sl zk l] [])
theorem TO:zZ dF.P 157 Tryz.f157 1:=cI kw
theorem ztf(l:ed):Bu l=.ok (.fork l.isEmpty (bR (Bu l)).1 (bR (Bu l)).2.1 (bR (Bu l)).q):=kw
theorem zob(l:ed):run dF 0 MB (Func.results Tryz.f157).toList 300 (bR (Bu l)).1 (bR (Bu l)).q=.ok (.ret .nils []):=kw
theorem zoc(l:ed):run dF 0 MB (Func.results Tryz.f157).toList 300 (bR (Bu l)).2.1 (bR (Bu l)).q=.chk (N (X l<=1073741824)) (.ok (.ret (.vec 0) [.vec zk l])):=kw
def zse:fz [M (.sl zk)]:=λx h=>match h with
 |[]=>.chk (N (X x.1<=1073741824)) (.ok (.vec 0,[.vec zk x.1]))
 |_=>.err
def zqV:ah:=bj [M (.sl zk)] zse
theorem zlF:FK 157 zqV:=by
 refine dw TO λx j i a C b=>?_
 unfold zse at a;split at a
 .simp only[Q8]at a;split at a
  .rename_i d;simp only[bG]at a;subst a;have⟨l,u⟩:=x;refine zJ (n0:=0) bL TO b (ztf l) ?_;refine⟨λc=>?_,?_⟩
   .have e:l=[]:=List.isEmpty_iff.1 c;refine Reach.weaken (Q:=λr h=>(r,h)=(.vec 0,[.vec zk []])) (Reach.promNil zk (λid=>b id sw) (zJ (n0:=0) bL TO b (zob l) rfl)) ?_;intro r h g;cases g;refine⟨_,?_,λ_ _ _ _ h=>h⟩;show(AV.vec 0,[AO.vec zk []])=(AV.vec 0,[AO.vec zk l]);rw[e]
   .exact zJ (n0:=0) bL TO b (zoc l) (fT d rfl)
  .cases a
 .simp at a
abbrev Bv(l:dJ):Tr zT:=run dF 0 MB (Func.results Tryz.f158).toList 300 (bu Tryz.f158) (bl (Func.ntmps Tryz.f158) [.sl zG l] [])
theorem TP:zZ dF.P 158 Tryz.f158 1:=cI kw
theorem ztg(l:dJ):Bv l=.ok (.fork l.isEmpty (bR (Bv l)).1 (bR (Bv l)).2.1 (bR (Bv l)).q):=kw
theorem zod(l:dJ):run dF 0 MB (Func.results Tryz.f158).toList 300 (bR (Bv l)).1 (bR (Bv l)).q=.ok (.ret .nils []):=kw
theorem zoe(l:dJ):run dF 0 MB (Func.results Tryz.f158).toList 300 (bR (Bv l)).2.1 (bR (Bv l)).q=.chk (N (X l<=1073741824)) (.ok (.ret (.vec 0) [.vec zG l])):=kw
def zsf:fz [M (.sl zG)]:=λx h=>match h with
 |[]=>.chk (N (X x.1<=1073741824)) (.ok (.vec 0,[.vec zG x.1]))
 |_=>.err
def zqW:ah:=bj [M (.sl zG)] zsf
theorem zlG:FK 158 zqW:=by
 refine dw TP λx j i a C b=>?_
 unfold zsf at a;split at a
 .simp only[Q8]at a;split at a
  .rename_i d;simp only[bG]at a;subst a;have⟨l,u⟩:=x;refine zJ (n0:=0) bL TP b (ztg l) ?_;refine⟨λc=>?_,?_⟩
   .have e:l=[]:=List.isEmpty_iff.1 c;refine Reach.weaken (Q:=λr h=>(r,h)=(.vec 0,[.vec zG []])) (Reach.promNil zG (λid=>b id sw) (zJ (n0:=0) bL TP b (zod l) rfl)) ?_;intro r h g;cases g;refine⟨_,?_,λ_ _ _ _ h=>h⟩;show(AV.vec 0,[AO.vec zG []])=(AV.vec 0,[AO.vec zG l]);rw[e]
   .exact zJ (n0:=0) bL TP b (zoe l) (fT d rfl)
  .cases a
 .simp at a
abbrev Bw(l:List fx):Tr zT:=run dF 0 MB (Func.results Tryz.f160).toList 300 (bu Tryz.f160) (bl (Func.ntmps Tryz.f160) [.sl (.sl K) l] [])
theorem TR:zZ dF.P 160 Tryz.f160 1:=cI kw
theorem zti(l:List fx):Bw l=.ok (.fork l.isEmpty (bR (Bw l)).1 (bR (Bw l)).2.1 (bR (Bw l)).q):=kw
theorem zof(l:List fx):run dF 0 MB (Func.results Tryz.f160).toList 300 (bR (Bw l)).1 (bR (Bw l)).q=.ok (.ret .nils []):=kw
theorem zog(l:List fx):run dF 0 MB (Func.results Tryz.f160).toList 300 (bR (Bw l)).2.1 (bR (Bw l)).q=.chk (N (X l<=1073741824)) (.ok (.ret (.vec 0) [.vec (.sl K) l])):=kw
def zsg:fz [M (.sl (.sl K))]:=λx h=>match h with
 |[]=>.chk (N (X x.1<=1073741824)) (.ok (.vec 0,[.vec (.sl K) x.1]))
 |_=>.err
def zqY:ah:=bj [M (.sl (.sl K))] zsg
theorem zlI:FK 160 zqY:=by
 refine dw TR λx j i a C b=>?_
 unfold zsg at a;split at a
 .simp only[Q8]at a;split at a
  .rename_i d;simp only[bG]at a;subst a;have⟨l,u⟩:=x;refine zJ (n0:=0) bL TR b (zti l) ?_;refine⟨λc=>?_,?_⟩
   .have e:l=[]:=List.isEmpty_iff.1 c;refine Reach.weaken (Q:=λr h=>(r,h)=(.vec 0,[.vec (.sl K) []])) (Reach.promNil (.sl K) (λid=>b id sw) (zJ (n0:=0) bL TR b (zof l) rfl)) ?_;intro r h g;cases g;refine⟨_,?_,λ_ _ _ _ h=>h⟩;show(AV.vec 0,[AO.vec (Sh.sl K) []])=(AV.vec 0,[AO.vec (Sh.sl K) l]);rw[e]
   .exact zJ (n0:=0) bL TR b (zog l) (fT d rfl)
  .cases a
 .simp at a
abbrev By(l:zr):Tr zT:=run dF 0 MB (Func.results Tryz.f100).toList 300 (bu Tryz.f100) (bl (Func.ntmps Tryz.f100) [.sl K l] [])
theorem TU:zZ dF.P 100 Tryz.f100 1:=cI kw
theorem ztj(l:zr):By l=.ok (.fork l.isEmpty (bR (By l)).1 (bR (By l)).2.1 (bR (By l)).q):=kw
theorem zoh(l:zr):run dF 0 MB (Func.results Tryz.f100).toList 300 (bR (By l)).1 (bR (By l)).q=.ok (.ret .nils []):=kw
theorem zoi(l:zr):run dF 0 MB (Func.results Tryz.f100).toList 300 (bR (By l)).2.1 (bR (By l)).q=.chk (N (X l<=1073741824)) (.ok (.ret (.vec 0) [.vec K l])):=kw
def zsh:fz [M (.sl K)]:=λx h=>match h with
 |[]=>.chk (N (X x.1<=1073741824)) (.ok (.vec 0,[.vec K x.1]))
 |_=>.err
def zjI:ah:=bj [M (.sl K)] zsh
theorem Xy:FK 100 zjI:=by
 refine dw TU λx j i a C b=>?_
 unfold zsh at a;split at a
 .simp only[Q8]at a;split at a
  .rename_i d;simp only[bG]at a;subst a;have⟨l,u⟩:=x;refine zJ (n0:=0) bL TU b (ztj l) ?_;refine⟨λc=>?_,?_⟩
   .have e:l=[]:=List.isEmpty_iff.1 c;refine Reach.weaken (Q:=λr h=>(r,h)=(.vec 0,[.vec K []])) (Reach.promNil K (λid=>b id sw) (zJ (n0:=0) bL TU b (zoh l) rfl)) ?_;intro r h g;cases g;refine⟨_,?_,λ_ _ _ _ h=>h⟩;show(AV.vec 0,[AO.vec K []])=(AV.vec 0,[AO.vec K l]);rw[e]
   .exact zJ (n0:=0) bL TU b (zoi l) (fT d rfl)
  .cases a
 .simp at a
def zew:=dF.addL [(157,zqV),(158,zqW),(160,zqY),(100,zjI)]
theorem NG:zw zew:=bL.addL<|fc zlF<|fc zlG<|fc zlI<|fc Xy jb
def HE(c:zg->Bool):ah:=ac [.expr] [.expr] (λx=>c x.1) λx=>(x.1,())
def H8(c:zg->Bool):ct:=zew.add 159 (HE c)
variable {h:zg->Bool}
theorem yQ(x:FK 159 (HE h)):zw (H8 h):=NG.add x
abbrev zjh:Nat->aY:=λj=>if j=3 then{slots:=[1,2,10,11]}else{ }
abbrev L0(i h:Int)(j:zK)(x a:Int)(b c:zK)(l:List (J Q5)):St:={
 tmps:=
  (tm 26 [(1,ptr 0 0),(2,ptr 1 0),(10,L i),(11,L h)]),
 heap:=
  [Qa [I j,L x,L a,I b,I c,AV.vec 2],
   Qa [I [],L 0,L 0,I [],I [],nils],AO.vec Q5 l]}
theorem TQ(c:zg->Bool):zZ (H8 c).P 159 Tryz.f159 1:=cI kw
theorem zth(c:zg->Bool)(o:zK)(v:V)(s:zK)(l:List zg):rn (H8 c) 0 zjh Tryz.f159 [zX Q5 (zg.mk o v s l)] []=
 R (N (X l<=1073741824)) (Tr.ok (zT.head 3 (ap Tryz.f159 3) (L0 (X l:Int) 0 o v.1 v.2.1 v.2.2 s l))):=kw
theorem T2(c:zg->Bool)(h i:Int)(j:zK)(x a:Int)(b d:zK)(l:List (Sem Sh.expr)):rh (H8 c) 0 zjh Tryz.f159 3 (L0 h i j x a b d l)=
 br (N (i<h))
 (chk (zL i (Io l))
  (chk (decide (i.toNat<Io l))
   (chk (c (zt (l.getD i.toNat (zi Sh.expr))))
    (chk (zL i (Io l))
     (chk (decide (i.toNat<Io l))
      (Tr.ok
       (zT.head 3 (ap Tryz.f159 3)
        (L0 h (Γ Δ (i+1)) j x a b d
         (l.set i.toNat
          (zt (l.getD i.toNat (Q Q5))))))))))))
 (Tr.ok
  (zT.ret (agg [I j,L x,L a,I b,I d,AV.vec 0]) [AO.vec Q5 l])):=kw
theorem zsn(d:FK 159 (HE h)){C:eW}(c:∀id,C.ρ0 id=none)(o:zK)(v:V)(s:zK)(l:List zg)(t:X l<=1073741824)(b:l.all h=O):
  ∀(k i:Nat),X l-i=k->i<=X l->Reach (H8 h) C 159 (ap Tryz.f159 3) (L0 (X l) i o v.1 v.2.1 v.q s l) (λr x=>bb x [.expr] r=M (zg.mk o v s l,())):=by
 intro k
 induction k with
 | zero=>
  intro i p n;obtain rfl:i=X l:=by omega
  refine zJ (n0:=0) (yQ d) (TQ h) (λid _=>c id) (T2 h _ _ _ _ _ _ _ _) ?_;simp only[zM,Tr.val_brF];rfl
 | succ k e=>
  intro i p n;have a:i<X l:=by omega
  refine zJ (n0:=0) (yQ d) (TQ h) (λid _=>c id) (T2 h _ _ _ _ _ _ _ _) ?_;have g:h l[i]=O:=ep.1 b _ (bp a);have j:N ((i:Int).toNat<X l)=O:=by simpa using a
  have m:l.set (i:Int).toNat l[i]=l:=by simp
  simp only[zO a,zx a,dm l _ a,zg.eta,Tr.val_brT,Tr.val_chkT,g,j,m,zu i um];exact e (i+1) W W
theorem zne:zZ zew.P 159 Tryz.f159 1:=cI kw
theorem JS:∀n,FK 159 (HE (mR n))
 |0=>fb ⟨Tryz.f159,zne.1,zne.2.1,zne.q.1⟩ (λ_=>rfl)
 | n+1=>by
  have h:FK 159 (HE (mR (n+1))):=by
   refine aZ (E:=H8 (mR n)) (TQ _) λx a C b=>?_
   have⟨⟨o,v,s,l⟩,u⟩:=x;have a:(N (X l<=1073741824)&&l.all (mR n))=O:=a;simp only[aP,ba]at a;refine zJ (n0:=0) (yQ (JS n)) (TQ _) (λid _=>b id) (zth _ o v s l) ?_;refine fT (by simpa using a.1) ?_;exact zsn (JS n) b o v s l a.1 a.2 _ 0 rfl (aK _)
  exact h
def zqX:ah:=HE (mR 16)
theorem zlH:FK 159 zqX:=JS 16
def Tf:=zew.add 159 zqX
theorem V0:zw Tf:=NG.add zlH
def Y2:=zir.add 100 zjI
theorem Eu:zw Y2:=VW.add Xy
inductive XF where
 |h4 (l1:zS) (l2:zr) (l27:zr) (i28:Int) (i29:Int) (z0:zq [CP.d an]) (z1:zq [CP.d K])
def zeP(x:ao)(h:J zl.sl)(a:J ze.sl):Tr (XF⊕az):=
 let b:=(x.1,x.2.1,x.q.1,(x.r.1.1,x.r.1.2.1,x.r.1.q.1,x.r.1.r.1,x.r.1.t.1,zt x.r.1.u),x.t)
 let c:=RB b h !=0
 let d:=Y h (Z 0) (Q zl)
 R (Fx b h&&bif c then O else zL 0 (X h))
 (br (cond c O ((X a:Int)!=(X d.1.2.1:Int)))
  (re (tup [agg [L 0,L 0,I []],L 1]) [])
  (Q9 (XF.h4 h a a (X a:Int) 0 (x,()) ((0,0,[]),()))))
def WZ:XF->Tr (XF⊕az)
 | .h4 x b l h i z e=>
  let c:=(z.1.1,z.1.2.1,z.1.q.1,(z.1.r.1.1,z.1.r.1.2.1,z.1.r.1.q.1,z.1.r.1.r.1,z.1.r.1.t.1,zt z.1.r.1.u),z.1.t)
  let d:=dp c x
  let a:=b.getD (Z d) (Q K)
  br (N (i<h))
  (R (zL i (X l)) (br (!bf (l.getD i.toNat (Q K))) (re (tup [agg [L 0,L 0,I []],L 1]) []) (Q9 (XF.h4 x b l h (Γ Δ (i+1)) z e))))
  (R (lE c x) (R (zL d (X b)) (br (a.1==0) (re (tup [agg [L 0,L 0,I []],L 6]) []) (re (tup [agg [L a.1,L a.2.1,I a.q],L 0]) []))))
def zwm(x:ao)(h:J zl.sl)(a:J ze.sl):=ar [K,zk] WZ 100000000 (zeP x h a)
abbrev zuk:Nat->aY:=λj=>if j=6 then{slots:=[5,8,9,22,23,24],prom:=[(9,none,(.sl K))]}else{ }
inductive PU where
 |h6 (i8:zy) (l22:List (J ze.sl)) (i23:Int) (i24:Int) (z0:zq [CP.d K]) (lh_1:List (J ze.sl))
abbrev zxc:PU->Nat×St
 |.h6 a x i h z l=>(6,⟨tm 46 [(5,ptr 0 0),(8,L a),(9,AV.vec 1),(22,T ze.sl x),(23,L i),(24,L h)],[Qa (bF [] [CP.d K] z),AO.vec ze.sl l]⟩)
def zm2(x:ao)(h:J zl.sl)(c:zp):Tr (PU⊕az):=
 let a:=(x.1,x.2.1,x.q.1,(x.r.1.1,x.r.1.2.1,x.r.1.q.1,x.r.1.r.1,x.r.1.t.1,zt x.r.1.u),x.t)
 let b:=Y h (Z 0) (Q zl)
 R (Fx a h)
 (br (RB a h !=0) (re (tup [nils,L 1]) [])
  (R (lE a h) (R (zL 0 (X h)) (Q9 (PU.h6 (dp a h) b.2 (X b.2:Int) 0 (c,()) [])))))
def zgc:PU->Tr (PU⊕az)
 | .h6 b h x i z l=>
  let a:=h.getD i.toNat (Q ze.sl)
  let c:=Y a (Z b) (Q K)
  let d:=[a]
  let e:=Γ Δ (i+1)
  br (N (i<x))
  (R (zL i (X h)) (R (zL b (X a)) (br (cond (c.1==z.1.1&&(c.2.1==z.1.2.1&&(c.q==z.1.q&&O))) (z.1.1!=0) S) (R (N (X a<=1073741824)) (R (N (X l+X d<=1073741824)) (Q9 (PU.h6 b h x e z (l++d))))) (Q9 (PU.h6 b h x e z l)))))
  (re (tup [AV.vec 0,L 0]) [AO.vec ze.sl l])
def Mx(x:ao)(h:J zl.sl)(a:zp):=ar [ze.sl.sl,zk] zgc 100000000 (zm2 x h a)
def Sw(x:ao)(h:J zl.sl)(a:zp):=(Mx x h a).isSome
def zb9(x:ao)(h:J zl.sl)(a:zp):=o2 (Mx x h a)
def zqb:=FT [an,zl.sl,K] [ze.sl.sl,zk] λx=>Mx x.1 x.2.1 x.q.1
theorem zkR:FK 43 zqb:=Eu.T1 (f:=Tryz.f43) (keep:=zuk) (e:=zxc)
def Y3:=Y2.addL [(43,zqb)]
theorem Ev:zw Y3:=Eu.addL<|fc zkR<|jb
def ztt(x:ao)(c:J zl.sl)(h:zp):Tr (Empty⊕az):=
 let b:=(x.1,x.2.1,x.q.1,(x.r.1.1,x.r.1.2.1,x.r.1.q.1,x.r.1.r.1,x.r.1.t.1,zt x.r.1.u),x.t)
 let a:=zb9 b c h
 let d:=(b,c)
 let e:=Vm d h a.1
 R (Sw b c h)
 (br (a.2!=0) (re (tup [nils,L 0,L a.2]) [])
  (R (H2 d h a.1) (re (tup [T ze.sl e.1,L e.2,L 0]) [])))
def Ka(x:ao)(h:J zl.sl)(a:zp):=ar [ze.sl.sl,zk,zk] t0 100000000 (ztt x h a)
def P8(x:ao)(h:J zl.sl)(a:zp):=(Ka x h a).isSome
def X1(x:ao)(h:J zl.sl)(a:zp):=o3 (Ka x h a)
def zpF:=FT [an,zl.sl,K] [ze.sl.sl,zk,zk] λx=>Ka x.1 x.2.1 x.q.1
theorem zki:FK 20 zpF:=Ev.T1 (f:=Tryz.f20) (keep:=k0) (e:=e0)
def YX:=Y3.add 20 zpF
theorem ID:zw YX:=Ev.add zki
variable {a b:zp}
theorem vS(h:X a.q<=1000000)(x:X b.q<=1000000):xx a b=O:=by unfold xx;rw[FI h x];rfl
theorem AQ(h:X a.q<=1000000)(x:X b.q<=1000000):CN a b=aG a b:=by unfold CN;rw[FI h x];rfl
theorem zba(a b:zp):K6 a b=O:=by unfold K6;rw[OP];rfl
theorem zfC(a b:zp):Jh a b=Hz a b:=by unfold Jh;rw[OP];rfl
theorem zfE(a b:zp):Ud a b=O:=by unfold Ud;rw[Ue];rfl
theorem zoo(a b:zp):WH a b=vOr a b:=by unfold WH;rw[Ue];rfl
theorem zbc(a:zp):K9 a=O:=by unfold K9;rw[OS];rfl
theorem zfD(a:zp):Jj a=Co a:=by unfold Jj;rw[OS];rfl
theorem FM(g:X a.q<=1000000)(i:X b.q<=1000000):rW a b=M (!fJ a b,()):=by
 unfold rW ar bT;simp only[zi6,Q8,tz g,tz i,xC g,xC i,zj,fJ];generalize ak a=x;generalize ak b=y;have⟨k,n,s⟩:=x;have⟨j,m,o⟩:=y;simp only;by_cases h:k=0
 .subst h;rfl
 .have e:(k==0)=S:=by simpa using h
  have l:(k !=0)=O:=by simpa using h
  rw[e,l];by_cases d:j=0
  .subst d;have c:(k==0)=S:=e;simp[c];rfl
  .have c:(j==0)=S:=by simpa using d
   rw[c];rfl
theorem pZ(h:X a.q<=1000000)(x:X b.q<=1000000):oR a b=O:=by unfold oR;rw[FM h x];rfl
theorem tu(h:X a.q<=1000000)(x:X b.q<=1000000):tt a b=!fJ a b:=by unfold tt;rw[FM h x];rfl
theorem kg(b:Bool):ee b=GV b:=by unfold ee GV;rw[mJ,mK]
theorem FF(h:X a.q<=1000000)(x:X b.q<=1000000):rS a b=M (nX a b,()):=by unfold rS ar bT;simp only[ziY,Q8,pZ h x,tu h x,pY,jc,zj,nX,kg];cases fJ a b<;>rfl
theorem RI(h:X a.q<=1000000)(x:X b.q<=1000000):xu a b=O:=by unfold xu;rw[FF h x];rfl
theorem WE(h:X a.q<=1000000)(x:X b.q<=1000000):tq a b=nX a b:=by unfold tq;rw[FF h x];rfl
theorem M3(h:fJ a b=O):bf a=O/\bf b=O/\a.1=b.1/\a.1≠0/\ak a=a/\ak b=b:=by
 unfold fJ ak at h;unfold ak;cases x:bf a with
 |false=>simp[x]at h
 | true=>
  cases c:bf b with
  | false=>
   simp[x,c]at h
  | true=>
   simp[x,c]at h;exact⟨rfl,rfl,h.2,h.1,sw,sw⟩
theorem Jd(h:bf a=O)(x:a.1≠0):(a.1=1/\a.q=[])\/(a.1=2/\a.2.1=0)\/(a.1=3/\a.q=[]):=by
 have⟨k,n,s⟩:=a;unfold bf at h;simp only at h x|-;have e0:(k==0)=S:=by simpa using x
 rw[e0]at h;by_cases b:k=1
 .subst b;exact .inl ⟨rfl,by simpa using h⟩
 .have g:(k==1)=S:=by simpa using b
  rw[g]at h;by_cases c:k=2
  .subst c;refine .inr (.inl ⟨rfl,?_⟩);simp at h;exact h.1
  .have i:(k==2)=S:=by simpa using c
   rw[i]at h;by_cases d:k=3
   .subst d;refine .inr (.inr ⟨rfl,?_⟩);cases e:(n==0)with
    |true=>simp[e]at h;exact h
    |false=>simp[e]at h;exact h.2
   .have j:(k==3)=S:=by simpa using d
    rw[j]at h;cases h
theorem ze9(k n a:Int)(s x:zK)(e:(s=[]/\x=[])\/(n=0/\a=0)):N (Jg [ug k k,ln n a,px s x]<0)=(cond (N (n<a)) O (Op.bytesLess s x)):=by
 simp only[Jg,ug,ln,px];rcases e with⟨rfl,rfl⟩|⟨rfl,rfl⟩
 .rcases DC n a with h|h|h
  .simp[h]
  .subst h;simp[cA]
  .have c:¬n<a:=by omega
   simp[h,c,cA]
 .by_cases d:Op.bytesLess s x=O
  .simp[d]
  .by_cases b:s=x
   .subst b;simp[cA]
   .have c:(s==x)=S:=dX.2 b;simp[d,c]
theorem Ji(p:X a.q<=1000000)(t:X b.q<=1000000):xv a b=M (uY a b,()):=by
 unfold xv ar bT;simp only[ziZ,Q8,pZ p t,tu p t,pY,jc,zj,uY,kg];cases o:fJ a b with
 |false=>rfl
 | true=>
  have⟨w,y,l,m,z,A⟩:=M3 o;have u:=Jd w m;have v:=Jd y (by rw[<-l];exact m);have⟨k,n,s⟩:=a;have⟨D,x,g⟩:=b;simp only at l m u v;subst l;have B:(s=[]/\g=[])\/(n=0/\x=0):=by
   rcases u with⟨i,c⟩|⟨i,c⟩|⟨i,c⟩<;>rcases v with⟨j,d⟩|⟨j,d⟩|⟨j,d⟩<;>first|exact .inl ⟨c,d⟩|exact .inr ⟨c,d⟩|exact zz (i.symm.trans j) (by decide)
  have C:N (LT.lt (α:=Int) (aG (k,n,s) (k,x,g)) 0)=(cond (N (n<x)) O (Op.bytesLess s g)):=by
   unfold aG;rw[z,A];exact ze9 k n x s g B
  rw[C];by_cases h:n<x
  .have e:N (n<x)=O:=zB h;simp only[e];rfl
  .have e:N (n<x)=S:=aC h;simp only[e];rfl
theorem WF(h:X a.q<=1000000)(x:X b.q<=1000000):CM a b=O:=by unfold CM;rw[Ji h x];rfl
theorem zbb(h:X a.q<=1000000)(x:X b.q<=1000000):AP a b=uY a b:=by unfold AP;rw[Ji h x];rfl
variable {c:Int}
theorem WD{l:Int}(a:-9223372036854775808<=c)(b:c<=9223372036854775807)(d:-9223372036854775808<=l)(g:l<=9223372036854775807):
  (cond (N (l>0)) (cond (N (c>Γ Δ (9223372036854775807-l))) O (cond (N (l<0)) (N (c<Γ Δ (-9223372036854775808-l))) S)) (cond (N (l<0)) (N (c<Γ Δ (-9223372036854775808-l))) S))=
  (cond (N (l>0)) (cond (N (Γ Δ (c+l)<c)) O (cond (N (l<0)) (N (Γ Δ (c+l)>c)) S)) (cond (N (l<0)) (N (Γ Δ (c+l)>c)) S)):=by
 rcases DC l 0 with h|h|h
 .have e:N (l>0)=S:=aC W;have x:N (l<0)=O:=zB h;simp only[e,x,aL,aN];rw[eK,eK];apply ot.2;rw[ba,ba];omega
 .subst h;rfl
 .have e:N (l>0)=O:=zB h;have x:N (l<0)=S:=aC W;simp only[e,x,aL,aN];have:N (c>Γ Δ (9223372036854775807-l))=N (Γ Δ (c+l)<c):=by
   rw[eK,eK];apply ot.2;rw[ba,ba];omega
  rw[this]
theorem Rt{l:Int}(a:-9223372036854775808<=c)(b:c<=9223372036854775807)(d:-9223372036854775808<=l)(g:l<=9223372036854775807):
  (cond (N (l>0)) (cond (N (c<Γ Δ (-9223372036854775808+l))) O (cond (N (l<0)) (N (c>Γ Δ (9223372036854775807+l))) S)) (cond (N (l<0)) (N (c>Γ Δ (9223372036854775807+l))) S))=
  (cond (N (l>0)) (cond (N (Γ Δ (c-l)>c)) O (cond (N (l<0)) (N (Γ Δ (c-l)<c)) S)) (cond (N (l<0)) (N (Γ Δ (c-l)<c)) S)):=by
 rcases DC l 0 with h|h|h
 .have e:N (l>0)=S:=aC W;have x:N (l<0)=O:=zB h;simp only[e,x,aL,aN];rw[eK,eK];apply ot.2;rw[ba,ba];omega
 .subst h;rfl
 .have e:N (l>0)=O:=zB h;have x:N (l<0)=S:=aC W;simp only[e,x,aL,aN];have:N (c<Γ Δ (-9223372036854775808+l))=N (Γ Δ (c-l)>c):=by
   rw[eK,eK];apply ot.2;rw[ba,ba];omega
  rw[this]
theorem Jk(h:mb a)(x:mb b):xz a b=M (qI a b,()):=by
 unfold xz ar bT;simp only[zi0,Q8,pZ h.q x.q,tu h.q x.q,zj,qI];rw[WD h.1 h.2.1 x.1 x.2.1];cases(cond (!fJ a b) O (a.1!=1))
 .cases(cond (N (b.2.1>0)) (cond (N (Γ Δ (a.2.1+b.2.1)<a.2.1)) O (cond (N (b.2.1<0)) (N (Γ Δ (a.2.1+b.2.1)>a.2.1)) S)) (cond (N (b.2.1<0)) (N (Γ Δ (a.2.1+b.2.1)>a.2.1)) S))<;>rfl
 .rfl
theorem WI(h:mb a)(x:mb b):CO a b=O:=by unfold CO;rw[Jk h x];rfl
theorem zbd(h:mb a)(x:mb b):AR a b=qI a b:=by unfold AR;rw[Jk h x];rfl
theorem FG(h:mb a)(x:mb b):rU a b=M (nY a b,()):=by
 unfold rU ar bT;simp only[zi1,Q8,pZ h.q x.q,tu h.q x.q,zj,nY];rw[Rt h.1 h.2.1 x.1 x.2.1];cases(cond (!fJ a b) O (a.1!=1))
 .cases(cond (N (b.2.1>0)) (cond (N (Γ Δ (a.2.1-b.2.1)>a.2.1)) O (cond (N (b.2.1<0)) (N (Γ Δ (a.2.1-b.2.1)<a.2.1)) S)) (cond (N (b.2.1<0)) (N (Γ Δ (a.2.1-b.2.1)<a.2.1)) S))<;>rfl
 .rfl
theorem RJ(h:mb a)(x:mb b):xw a b=O:=by unfold xw;rw[FG h x];rfl
theorem WG(h:mb a)(x:mb b):tr a b=nY a b:=by unfold tr;rw[FG h x];rfl
theorem BV(c:Int):o6 c=M (bt c,()):=by
 unfold o6 ar bT;simp only[ziT,Q8,bt];by_cases h:97<=c
 .have e:N (97<=c)=O:=zB h;have x:N (c<=90)=S:=aC W;have a:N (65<=c)=O:=zB W;simp[e,x,a];rfl
 .have e:N (97<=c)=S:=aC h;simp[e];rfl
theorem sb(c:Int):oZ c=O:=by unfold oZ;rw[BV];rfl
theorem vW(c:Int):sa c=bt c:=by unfold sa;rw[BV];rfl
theorem F2(c:Int):xK c=M (aD c,()):=rfl
theorem ka(c:Int):kL c=O:=by unfold kL;rw[F2];rfl
theorem lS(c:Int):lD c=aD c:=by unfold lD;rw[F2];rfl
theorem Ju(c:Int):xM c=M (cv c,()):=by unfold xM ar bT;simp only[ziU,Q8,ka,lS,sb,vW,cv];cases aD c<;>cases bt c<;>rfl
theorem AW(c:Int):xL c=O:=by unfold xL;rw[Ju];rfl
theorem F4(c:Int):F3 c=cv c:=by unfold F3;rw[Ju];rfl
theorem Om(p:Int->Bool):∀s:zK,dQ p s=X s↔∀c∈s,p c.toNat=O
 |[]=>by simp[dQ]
 | c::r=>by
  have i:=Om p r;rw[dQ];by_cases h:p c.toNat=O
  .rw[zf h];simp only[fA,bX,forall_eq_or_imp];constructor
   .intro x;exact⟨h,i.1 W⟩
   .intro x;rw[i.2 x.2]
  .rw[zh h];simp only[fA,bX,forall_eq_or_imp];exact⟨λx=>zz x W,λx=>zz x.1 h⟩
theorem On(h:bt c=O):cv c=O:=by unfold cv;rw[h];rfl
theorem Xf(s:zK):sB s=O↔(1<=X s/\X s<=16/\bt (Y s 0 0).toNat=O/\∀c∈s,cv c.toNat=O):=by
 unfold sB;cases s with
 |nil=>simp
 | cons c r=>
  have j:N (((c::r).length:Int)>=1)=O:=zB sg;rw[j];by_cases h:(c::r).length<=16
  .have e:N (((c::r).length:Int)<=16)=O:=zB W;rw[e];simp only[aN];have i:=Om cv r;by_cases b:bt c.toNat=O
   .have g:bH bt cv (c::r)=dQ cv r+1:=by rw[bH,zf b]
    rw[g];constructor
    .intro a;have:dQ cv r=X r:=by simp at a;omega
     refine⟨sw,h,b,?_⟩;intro x d;rcases bX.1 d with rfl|d
     .exact On b
     .exact i.1 this x d
    .rintro⟨_,_,_,k⟩;have:=i.2 (λx d=>k x (mX _ d));simp[this]
   .have g:bH bt cv (c::r)=0:=by rw[bH,zh b]
    rw[g];constructor
    .intro a;simp at a;omega
    .rintro⟨_,_,a,_⟩;exact zz a b
  .have e:N (((c::r).length:Int)<=16)=S:=aC W;rw[e];simp only[aN,aL];exact⟨λh=>(by cases h),λa=>zz a.2.1 h⟩
variable {s:zK}
theorem Jt(w:X s<=1000000):C7 s=M (eU s,()):=by
 have u:=nG (t:=yj) (Φ:=λr=>r=(.kb S,[])) 1 (λi=>.h2 s (i:Int)) (λi=>cv (Y s i 0).toNat=O) (X s) (by
  intro i a _;have n:(yj (.h2 s (i:Int))).val=if(!cv (Y s i 0).toNat)=O then M (.inr (.kb S,[]))else M (.inl (.h2 s ((i+1:Nat):Int))):=by
   show(yj (.h2 _ _)).val=_;unfold yj;simp only[Q8,zO a,zx a,aJ,AW,F4,zj];rw[zu i um]
  by_cases h:cv (Y s i 0).toNat=O
  .exact .inl ⟨h,zH.of (by rw[n,zh (by rw[h];simp)])⟩
  .exact .inr ⟨h,_,zU.of (by rw[n,zf (by simpa using h)]),rfl⟩)
 have a:(ziS s).val=M (.inl (.h2 s ((0:Nat):Int))):=rfl;have m:=aT (l:=s) (d:=0) (Q:=λc=>cv c.toNat=O);have o:=Xf s;rcases u with⟨g,j⟩|⟨g,r,j,rfl⟩
 .refine zA a (j.ends (zU.of (r:=(.bool (eU s),[])) ?_)) W rfl;show(yj (.h2 _ _)).val=_;unfold yj;simp only[Q8,zM,sb,vW];have e:eU s=(cond (N (1<=(X s:Int))) (cond (N ((X s:Int)<=16)) (bt (Y s (Z 0) 0).toNat) S) S):=by
   apply ot.2;unfold eU;rw[o];by_cases k:1<=X s
   .have x:N (1<=(X s:Int))=O:=zB W;rw[x];by_cases p:X s<=16
    .have b:N ((X s:Int)<=16)=O:=zB W;rw[b];exact⟨λh=>h.q.1,λh=>⟨k,p,h,m.1 g⟩⟩
    .have b:N ((X s:Int)<=16)=S:=aC W;rw[b];exact⟨λh=>zz h.2.1 p,λh=>(by cases h)⟩
   .have x:N (1<=(X s:Int))=S:=aC W;rw[x];exact⟨λh=>zz h.1 k,λh=>(by cases h)⟩
  rw[e];by_cases k:1<=X s
  .have e0:zL 0 (X s)=O:=zx (i:=0) W;rw[e0];cases N (1<=(X s:Int))<;>cases N ((X s:Int)<=16)<;>rfl
  .have x:N (1<=(X s:Int))=S:=aC W;rw[x];rfl
 .have e:eU s=S:=by
   cases v:eU s with
   |false=>rfl
   |true=>exact zz (m.2 (o.1 v).r) g
  rw[e];exact zA a j W rfl
theorem AU(h:X s<=1000000):xJ s=O:=by unfold xJ;rw[Jt h];rfl
theorem F1(h:X s<=1000000):vV s=eU s:=by unfold vV;rw[Jt h];rfl
def A4:List zK:=match(Zv []).val with
 |some (.inl (.h3 _ l _))=>l
 |_=>[]
theorem zby:X A4=38:=kw
theorem zbz:(A4.all λw=>(G0.map (·.1)).contains w)=O:=kw
theorem zbA:(G0.all λw=>A4.contains w.1)=O:=kw
theorem Sy:(G0.all λw=>w.2)=O:=kw
theorem UD(s:zK):∀l:List (zK×Bool),(l.all λw=>w.2)=O->(UC s l S=O↔s∈l.map (·.1))
 |[],_=>by simp[UC]
 | (w,b)::r,h=>by
  simp only[List.all_cons,aP]at h;obtain⟨rfl,h⟩:=h;rw[UC];by_cases e:(s==w)=O
  .have:s=w:=bQ e;rw[zf e];simp[this]
  .rw[zh e,UD s r h];have:s≠w:=λh=>e (by rw[h];simp)
   simp[this]
theorem Ut(s:zK):kd s=O↔s∈A4:=by
 unfold kd;rw[UD s G0 Sy];constructor
 .intro h;obtain⟨w,x,rfl⟩:=aI.1 h;have:=ep.1 zbA w x;simpa using this
 .intro h;have:=ep.1 zbz s h;simpa using this
theorem Pc(s:zK):LA s=M (kd s,()):=by
 have o:=zby;have n:=nG (t:=GI) (Φ:=λr=>r=(.kb O,[])) 1 (λi=>.h3 s A4 (i:Int)) (λi=>Y A4 i (zi Sh.str)≠s) (X A4) (by
  intro i a _;have k:(GI (.h3 s A4 (i:Int))).val=if(Y A4 i (zi Sh.str)==s)=O then M (.inr (.kb O,[]))else M (.inl (.h3 s A4 ((i+1:Nat):Int))):=by
   show(GI (.h3 _ _ _)).val=_;unfold GI;simp only[Q8,zO a,zx a,aJ,zj];rw[zu i um]
  by_cases h:Y A4 i (zi Sh.str)=s
  .exact .inr ⟨λx=>x h,_,zU.of (by rw[k,zf (by rw[h];simp)]),rfl⟩
  .exact .inl ⟨h,zH.of (by rw[k,zh (λx=>h (bQ x))])⟩)
 have a:(Zv s).val=M (.inl (.h3 s A4 ((0:Nat):Int))):=rfl;have j:=aT (l:=A4) (d:=zi Sh.str) (Q:=λw=>w≠s);rcases n with⟨c,x⟩|⟨c,r,x,rfl⟩
 .have e:kd s=S:=by
   cases b:kd s with
   |false=>rfl
   |true=>exact zz rfl (j.1 c s ((Ut s).1 b))
  rw[e];refine zA a (x.ends (zU.of (r:=(.kb S,[])) ?_)) W rfl;show(GI (.h3 _ _ _)).val=_;unfold GI;simp only[Q8,zM];rfl
 .have e:kd s=O:=by
   cases b:kd s with
   |true=>rfl
   |false=>exact zz (j.2 λw m g=>by rw[g]at m;rw[(Ut s).2 m]at b;cases b) c
  rw[e];exact zA a x W rfl
theorem Pb(s:zK):F6 s=O:=by unfold F6;rw[Pc];rfl
theorem Uj(s:zK):Pa s=kd s:=by unfold Pa;rw[Pc];rfl
theorem Jv(h:X s<=1000000):xO s=M (aA s,()):=by unfold xO ar bT;simp only[ztL,Q8,AU h,F1 h,Pb,Uj,aA];cases eU s<;>rfl
theorem cD(h:X s<=1000000):eE s=O:=by unfold eE;rw[Jv h];rfl
theorem fQ(h:X s<=1000000):cf s=aA s:=by unfold cf;rw[Jv h];rfl
mutual
def vd:zg->Prop
 |.mk _ v s l=>mb v/\X s<=1000000/\lw l
def lw:List zg->Prop
 |[]=>True
 |e::r=>vd e/\lw r
end
theorem lw.mem:∀{l:List zg},lw l->∀e∈l,vd e
 |[],_,e,h=>by simp at h
 | x::r,h,e,a=>by
  rw[lw]at h;rcases bX.1 a with rfl|a
  .exact h.1
  .exact lw.mem h.2 e a
def Hy(o:zK):Bool:=bif o==ji then O else bif o==wy then O else bif o==[61]then O else bif o==[60]then O else bif o==[43]then O else o==[45]
theorem O0(s:zK):RO s=M (Hy s,()):=rfl
theorem zbf(s:zK):Lh s=O:=by unfold Lh;rw[O0];rfl
theorem zfF(s:zK):Ui s=Hy s:=by unfold Ui;rw[O0];rfl
def cX:Nat->zg->Bool
 |0,_=>S
 | d+1,.mk o v s l=>
  if(o==pt)=O then(cond (bf v) (cond (s==[]) ((X l:Int)==0) S) S)else
  if(o==fh)=O then(cond (bD v) (cond (eU s) (cond (!kd s) ((X l:Int)==0) S) S) S)else
  if(cond (o==ox) O (o==qy))=O then(cond (bD v) (cond (s==[]) (match l with|[a]=>cX d a|_=>S) S) S)else
  if Hy o=O then(cond (bD v) (cond (s==[]) (match l with|[a,b]=>bif cX d a then cX d b else S|_=>S) S) S)else S
def nE:Nat->zg->Nat
 |0,_=>0
 |d+1,.mk _ _ _ l=>1+(l.map (nE d)).sum
theorem Xg(d:Nat)(h:d<=1000):Γ Δ (((d+1:Nat):Int)-1)=(d:Int):=gN d um
theorem Jo:∀(g d:Nat)(e:zg),d<=12->d<g->vd e->gW g e (d:Int)=M (cX d e,())
 |0,_,_,_,h,_=>zz h W
 | g+1,0,e,_,_,_=>by
  rw[gW];unfold Lg ar bT;rfl
 | g+1,d+1,.mk o v s l,H,P,B=>by
  rw[vd]at B;have⟨A,z,F⟩:=B;have u:∀a∈l,gW g a (d:Int)=M (cX d a,()):=λa y=>Jo g d a W W (F.mem a y)
  rw[gW];unfold Lg ar bT;have G:(((d+1:Nat):Int)==0)=S:=dX.2 W;simp only[Zw,Q8,zo,zg.op,zg.v,zg.s,zg.l,mz A.q,pW A.q,AU z,F1 z,Pb,Uj,zbf,zfF,Xg d W,zj,G]
  match l,u with
  | [],_=>
   simp only[cX,bD];rcases zV (o==pt)with k|k
   .rcases zV (bf v)with i|i<;>rcases zV (s==[])with j|j<;>(simp only[k,i,j,aN,aL,zj,zm,zC,eY];rfl)
   rcases zV (o==fh)with m|m
   .rcases zV (bD v)with i|i<;>rcases zV (eU s)with j|j<;>rcases zV (kd s)with n|n<;>(simp only[bD]at i;simp only[k,m,i,j,n,aN,aL,zj,zm,zC,eY,ce,dj];rfl)
   rcases zV (cond (o==ox) O (o==qy))with p|p
   .rcases zV (bD v)with i|i<;>rcases zV (s==[])with j|j<;>(simp only[bD]at i;simp only[k,m,p,i,j,aN,aL,zj,zm,zC,eY];rfl)
   rcases zV (Hy o)with t|t
   .rcases zV (bD v)with i|i<;>rcases zV (s==[])with j|j<;>(simp only[bD]at i;simp only[k,m,p,t,i,j,aN,aL,zj,zm,zC,eY];rfl)
   .simp only[k,m,p,t,zm,zC,eY];rfl
  | [a],u=>
   have y:=u a sw;simp only[cX,bD,show Y [a] (Z 0) (Q Q5)=a from rfl,y,show zL 0 [a].length=O from rfl,dv,show∀x,qa (M (x,()))=x from λ_=>rfl];rcases zV (o==pt)with k|k
   .rcases zV (bf v)with i|i<;>rcases zV (s==[])with j|j<;>(simp only[k,i,j,aN,aL,zj,zm,zC,eY];rfl)
   rcases zV (o==fh)with m|m
   .rcases zV (bD v)with i|i<;>rcases zV (eU s)with j|j<;>rcases zV (kd s)with n|n<;>(simp only[bD]at i;simp only[k,m,i,j,n,aN,aL,zj,zm,zC,eY,ce,dj];rfl)
   rcases zV (cond (o==ox) O (o==qy))with p|p
   .rcases zV (bD v)with i|i<;>rcases zV (s==[])with j|j<;>rcases zV (cX d a)with n|n<;>(simp only[bD]at i;simp only[k,m,p,i,j,n,aN,aL,zj,zm,zC,eY];rfl)
   rcases zV (Hy o)with t|t
   .rcases zV (bD v)with i|i<;>rcases zV (s==[])with j|j<;>rcases zV (cX d a)with n|n<;>(simp only[bD]at i;simp only[k,m,p,t,i,j,n,aN,aL,zj,zm,zC,eY];rfl)
   .simp only[k,m,p,t,zm,zC,eY];rfl
  | [a,b],u=>
   have y:=u a sw;have E:=u b sw;simp only[cX,bD,show Y [a,b] (Z 0) (Q Q5)=a from rfl,show Y [a,b] (Z 1) (Q Q5)=b from rfl,y,E,show zL 0 [a,b].length=O from rfl,show zL 1 [a,b].length=O from rfl,dv,show∀x,qa (M (x,()))=x from λ_=>rfl];rcases zV (o==pt)with k|k
   .rcases zV (bf v)with i|i<;>rcases zV (s==[])with j|j<;>(simp only[k,i,j,aN,aL,zj,zm,zC,eY];rfl)
   rcases zV (o==fh)with m|m
   .rcases zV (bD v)with i|i<;>rcases zV (eU s)with j|j<;>rcases zV (kd s)with n|n<;>(simp only[bD]at i;simp only[k,m,i,j,n,aN,aL,zj,zm,zC,eY,ce,dj];rfl)
   rcases zV (cond (o==ox) O (o==qy))with p|p
   .rcases zV (bD v)with i|i<;>rcases zV (s==[])with j|j<;>rcases zV (cX d a)with n|n<;>rcases zV (cX d b)with w|w<;>(simp only[bD]at i;simp only[k,m,p,i,j,n,w,aN,aL,zj,zm,zC,eY];rfl)
   rcases zV (Hy o)with t|t
   .rcases zV (bD v)with i|i<;>rcases zV (s==[])with j|j<;>rcases zV (cX d a)with n|n<;>rcases zV (cX d b)with w|w<;>(simp only[bD]at i;simp only[k,m,p,t,i,j,n,w,aN,aL,zj,zm,zC,eY];rfl)
   .simp only[k,m,p,t,zm,zC,eY];rfl
  | a::b::c::r,_=>
   have e0:((((a::b::c::r).length:Nat):Int)==0)=S:=dX.2 sg;have C:((((a::b::c::r).length:Nat):Int)==1)=S:=dX.2 sg;have D:((((a::b::c::r).length:Nat):Int)==2)=S:=dX.2 sg;simp only[cX,bD,e0,C,D];rcases zV (o==pt)with k|k
   .rcases zV (bf v)with i|i<;>rcases zV (s==[])with j|j<;>(simp only[k,i,j,aN,aL,zj,zm,zC,eY];rfl)
   rcases zV (o==fh)with m|m
   .rcases zV (bD v)with i|i<;>rcases zV (eU s)with j|j<;>rcases zV (kd s)with n|n<;>(simp only[bD]at i;simp only[k,m,i,j,n,aN,aL,zj,zm,zC,eY,ce,dj];rfl)
   rcases zV (cond (o==ox) O (o==qy))with p|p
   .rcases zV (bD v)with i|i<;>rcases zV (s==[])with j|j<;>(simp only[bD]at i;simp only[k,m,p,i,j,aN,aL,zj,zm,zC,eY];rfl)
   rcases zV (Hy o)with t|t
   .rcases zV (bD v)with i|i<;>rcases zV (s==[])with j|j<;>(simp only[bD]at i;simp only[k,m,p,t,i,j,aN,aL,zj,zm,zC,eY];rfl)
   .simp only[k,m,p,t,aL,zm,zC,eY];rfl
theorem Xb(h:Hy s=O):s=ji\/s=wy\/s=[61]\/s=[60]\/s=[43]\/s=[45]:=by
 unfold Hy at h;rcases zV (s==ji)with c|c
 .exact .inl (bQ c)
 rcases zV (s==wy)with x|x
 .exact .inr (.inl (bQ x))
 rcases zV (s==[61])with a|a
 .exact .inr (.inr (.inl (bQ a)))
 rcases zV (s==[60])with b|b
 .exact .inr (.inr (.inr (.inl (bQ b))))
 rcases zV (s==[43])with d|d
 .exact .inr (.inr (.inr (.inr (.inl (bQ d)))))
 rcases zV (s==[45])with e|e
 .exact .inr (.inr (.inr (.inr (.inr (bQ e)))))
 rw[c,x,a,b,d,e]at h;cases h
inductive XE (d:Nat):zg->Prop
 |lit (v:Int×Int×zK) (h:bf v=O):XE d (.mk pt v [] [])
 |col (s:zK) (h:eU s=O) (h2:kd s=S):XE d (.mk fh (0,0,[]) s [])
 |one (op:zK) (a:zg) (h:op=ox\/op=qy) (ha:cX d a=O):XE d (.mk op (0,0,[]) [] [a])
 |two (op:zK) (a b:zg) (h:op=ji\/op=wy\/op=[61]\/op=[60]\/op=[43]\/op=[45]) (ha:cX d a=O) (hb:cX d b=O):XE d (.mk op (0,0,[]) [] [a,b])
theorem EV{k:Int×Int×zK}(h:bD k=O):k=(0,0,[]):=by have⟨a,b,c⟩:=k;unfold bD at h;simp at h;obtain⟨rfl,rfl,rfl⟩:=h;rfl
theorem da{a b:Bool}(h:(cond a b S)=O):a=O/\b=O:=by cases a<;>cases b<;>simp_all
theorem Wx(h:(cond (s==ox) O (s==qy))=O):s=ox\/s=qy:=by
 rcases zV (s==ox)with k|k
 .exact .inl (bQ k)
 .rw[k]at h;exact .inr (bQ h)
theorem gG:∀{e:zg},cX (n+1) e=O->XE n e
 | .mk o v s [],h=>by
  simp only[cX]at h;split at h
  next c=>have⟨g,i⟩:=da h;have⟨j,k⟩:=da i;rw[bQ c,bQ j];exact .lit v g
  split at h
  next c=>have⟨g,i⟩:=da h;have⟨j,k⟩:=da i;have⟨m,t⟩:=da k;rw[bQ c,EV g];exact .col s j (by simpa using m)
  split at h
  .cases x:bD v<;>cases d:(s==[])<;>simp[x,d]at h
  split at h
  .cases x:bD v<;>cases d:(s==[])<;>simp[x,d]at h
  .cases h
 | .mk o v s [a],h=>by
  simp only[cX]at h;split at h
  .cases x:bf v<;>cases d:(s==[])<;>simp[x,d]at h
  split at h
  .cases x:bD v<;>cases d:eU s<;>cases l:kd s<;>simp[x,d,l]at h
  split at h
  next c=>have⟨g,i⟩:=da h;have⟨j,k⟩:=da i;rw[bQ j,EV g];exact .one o a (Wx c) k
  split at h
  .cases x:bD v<;>cases d:(s==[])<;>simp[x,d]at h
  .cases h
 | .mk o v s [a,b],h=>by
  simp only[cX]at h;split at h
  .cases x:bf v<;>cases d:(s==[])<;>simp[x,d]at h
  split at h
  .cases x:bD v<;>cases d:eU s<;>cases l:kd s<;>simp[x,d,l]at h
  split at h
  .cases x:bD v<;>cases d:(s==[])<;>simp[x,d]at h
  split at h
  next c=>have⟨g,i⟩:=da h;have⟨j,k⟩:=da i;have⟨p,q⟩:=da k;rw[bQ j,EV g];exact .two o a b (Xb c) p q
  .cases h
 | .mk o v s (a::b::c::r),h=>by
  have e0:((((a::b::c::r).length:Nat):Int)==0)=S:=dX.2 sg;simp only[cX,e0]at h;split at h
  .cases x:bf v<;>cases d:(s==[])<;>simp[x,d]at h
  split at h
  .cases x:bD v<;>cases d:eU s<;>cases l:kd s<;>simp[x,d,l]at h
  split at h
  .cases x:bD v<;>cases d:(s==[])<;>simp[x,d]at h
  split at h
  .cases x:bD v<;>cases d:(s==[])<;>simp[x,d]at h
  .cases h
theorem uN:∀(d:Nat)(e:zg),cX d e=O->nE d e+1<=2^d
 |0,_,h=>by cases h
 | d+1,e,h=>by
  have c:0<2^d:=Nat.two_pow_pos d;cases gG h with
  |lit v h=>simp[nE,pm];omega
  |col s h c=>simp[nE,pm];omega
  |one o a h x=>have:=uN d a x;simp[nE,pm];omega
  |two o a b h x g=>have:=uN d a x;have:=uN d b g;simp[nE,pm];omega
theorem znR{e:zg}(h:cX n e=O):1<=nE n e:=by
 cases n with
 |zero=>cases h
 | succ n=>
  have⟨o,v,s,l⟩:=e;rw[nE];omega
theorem zcg(h:n<=1000000):Γ Δ (n:Int)=(n:Int):=by rw[eK];omega
theorem qb:∀(x d:Nat)(e:zg),d<=12->d<=x->cX d e=O->de x e=M ((nE d e:Int),())
 |_,0,_,_,_,h=>by cases h
 |0,d+1,_,_,h,_=>zz h W
 | x+1,d+1,e,E,y,h=>by
  have F:2^(d+1)<=2^12:=HS W W;have z:=uN (d+1) e h
  have c:∀(e:zg)(i:Nat)(n k:Nat)(q:i<(zg.l e).length),de x (zg.l e)[i]=M ((k:Int),())->n+k<=1000000->i<=1000->
    (JI (λj=>jA (de x j)) (λj=>(de x j).isSome) (.h3 (n:Int) (i:Int) (e,()))).val=M (.inl (.h3 ((n+k:Nat):Int) ((i+1:Nat):Int) (e,()))):=by
   intro e i n k q A B G;have w:Y (zg.l e) (i:Int).toNat (Q Q5)=(zg.l e)[i]:=zW _ _ q;simp only[JI,Me,GJ,Q8,w,zo,A,zO q,zx q,dv,zj];show M (Sum.inl (wh.h3 (Γ Δ ((n:Int)+(k:Int))) _ _))=_;rw[zu i um,<-wm,zcg B]
  have g:∀(e:zg)(n:Nat),(JI (λj=>jA (de x j)) (λj=>(de x j).isSome) (.h3 (n:Int) ((zg.l e).length:Int) (e,()))).val=M (.inr (L n,[])):=by
   intro e n;simp only[JI,Me,GJ,Q8,zM];rfl
  have m:∀e,(Zx (λj=>jA (de x j)) (λj=>(de x j).isSome) e).val=M (.inl (.h3 ((1:Nat):Int) ((0:Nat):Int) (e,()))):=λ_=>rfl
  rw[de];unfold OZ;cases gG h with
  |lit v h=>exact zA (m _) (zU.of (g _ 1)) W rfl
  |col s h y=>exact zA (m _) (zU.of (g _ 1)) W rfl
  | one o a h p=>
   have t:=qb x d a W W p;have C:=uN d a p;have D:2^d<=2^12:=HS W W;refine zA (m _) ((zH.of (c (.mk o (0,0,[]) [] [a]) 0 1 (nE d a) (by simp[zg.l]) t W W)).ends (zU.of (g (.mk o (0,0,[]) [] [a]) _))) W ?_;simp[nE];rfl
  | two o a b h p u=>
   have t:=qb x d a W W p;have kb:=qb x d b W W u;have C:=uN d a p;have H:=uN d b u;have D:2^d<=2^12:=HS W W;refine zA (m _) ((zH.of (c (.mk o (0,0,[]) [] [a,b]) 0 1 (nE d a) (by simp[zg.l]) t W W)).ends ((zH.of (c (.mk o (0,0,[]) [] [a,b]) 1 (1+nE d a) (nE d b) (by simp[zg.l]) kb W W)).ends (zU.of (g (.mk o (0,0,[]) [] [a,b]) _)))) W ?_;simp[nE,Nat.add_assoc];rfl
theorem th:∀(x k:Nat)(e:zg)(n:Nat),k<=12->k<=x->cX k e=O->n+nE k e<=60->jk x e ((13:Int)-k) n=(O,((n+nE k e:Nat):Int))
 |_,0,_,_,_,_,h,_=>by cases h
 |0,k+1,_,_,_,h,_,_=>zz h W
 | x+1,k+1,e,n,C,m,h,p=>by
  rw[jk];unfold Ci;have B:Γ Δ ((n:Int)+1)=((n+1:Nat):Int):=zu n um;have w:Γ Δ ((13:Int)-((k+1:Nat):Int)+1)=(13:Int)-(k:Int):=by rw[eK];omega
  have t:N ((13:Int)-((k+1:Nat):Int)>12)=S:=aC W;have q:=znR h;have u:N (((n+1:Nat):Int)>60)=S:=aC W;rw[B,t,u];cases gG h with
  |lit v z=>simp[zg.op,zg.l,zg.s,zg.v,dT,BS,UC,z,nE]
  |col s A m=>simp[zg.op,zg.l,zg.s,zg.v,dT,BS,UC,A,m,nE,bD]
  | one o a g c=>
   have d:n+1+nE k a<=60:=by simp[nE]at p;omega
   have j:=th x k a (n+1) W W c d;have i:((n+nE (k+1) (.mk o (0,0,[]) [] [a]):Nat):Int)=((n+1+nE k a:Nat):Int):=by simp[nE];omega
   rw[i]
   push_cast at*
   rcases g with rfl|rfl<;>simp[zg.op,zg.l,zg.s,zg.v,dT,BS,UC,bD,qR,w,j]
  | two o a b g c y=>
   have d:n+1+nE k a+nE k b<=60:=by simp[nE]at p;omega
   have j:=th x k a (n+1) W W c W;have kb:=th x k b (n+1+nE k a) W W y d;have i:((n+nE (k+1) (.mk o (0,0,[]) [] [a,b]):Nat):Int)=((n+1+nE k a+nE k b:Nat):Int):=by simp[nE];omega
   rw[i]
   push_cast at*
   rcases g with rfl|rfl|rfl|rfl|rfl|rfl<;>simp[zg.op,zg.l,zg.s,zg.v,dT,BS,UC,bD,qR,w,j,kb]
end
end Cad
