/- Units. -/
import Derived.Test.YtjdjldbhjmgmkaaGreatDoorP17
import Derived.Lib.AppendZerosOnto
namespace Cad
open Go Go.Proofs Go.Sort
open List renaming length->Io,length->X
open IntKind renaming wrap->Γ,i64->Δ
open Tr renaming «to»->Q9,val->Q8,chk->K
open AO renaming box->Qa
open Sh renaming bool->Q7,expr->Q5
open Bool renaming false->S,true->O
open Option renaming some->M
open Decidable renaming decide->T
open Int renaming toNat->Z
open List renaming getD->Y
open Tr (chk br re)
open AV (nils agg tup ptr kb)
open AV renaming sl->N,str->I
open Cad renaming zi->Q,ze->R,ow->W,Sem->J,ai->L
set_option maxHeartbeats 4000000
noncomputable section
variable {n:Nat}{keep:Nat->aX}
theorem Ge{g:Type}{E:cu}{C:eW}{e:FuncId}{f:Func}{Q:AV->List AO->Prop}{n0:Nat}(d:zw E)(k:zY E.P e f n)(c:∀id,n0<=id->C.ρ0 id=none){j:Nat}{x:g->Nat×St}{K:List Item}{b:St}{i:Tr (g⊕aw)}
  (a:run E n0 keep f.results.toList j K b=i.map (lf f x)) {s:g} (m:i.val=M (.inl s)) (h:Reach E C e (am f (x s).1) (x s).2 Q):Reach E C e K b Q:=
 pe d k c (l:=lf f x (.inl s)) (by rw[a,Tr.val_map,m];rfl) h
def Mv(a:aA)(x:zS):zr:=(Y x 0 (Q zl)).2.map λh:zr=>Y h (Z (dC a x)) (Q R)
def JL(a:aA)(x:zS):Bool:=nJ a x&&(zL 0 (X x)&&(T (X (Y x 0 (Q zl)).2<=1000)&&List.all (Y x 0 (Q zl)).2 λh:zr=>zL (dC a x) (X h)&&be (Y h (Z (dC a x)) (Q R))))
def bQ(x:aA)(h:zS):zr:=ro (Mv x h)
def zps:=ac [ar,zl.sl] [ze.sl] (λx=>JL x.1 x.2.1) λx=>(bQ x.1 x.2.1,())
theorem JR{k:Int×Int×zJ}{n:Int}:∀{es:List ((Int×Int×zJ)×Int)},(lK es k n).map (·.1)=if k∈es.map (·.1)then es.map (·.1)else es.map (·.1)++[k]
 |[]=>rfl
 | p::r=>by
  show(cond (k==p.1) ((k,n)::r) (p::lK r k n)).map (·.1)=_;by_cases h:k=p.1
  .simp[h]
  .have a:(k==p.1)=S:=by simpa using h
   rw[a,aJ,ew,JR (es:=r),ew];by_cases x:k∈r.map (·.1)
   .rw[zf x,zf (by simp only[bZ];exact .inr x)]
   .rw[zh x,zh (by simp only[bZ];exact λe=>e.elim h x)];rfl
theorem zeE{h:aA}{x:zS}(a:nJ h x=O)(b:zL 0 (X x)=O):(zmB h x).val=M (.inl (.h4 (dC h x) (Y x 0 (Q zl)).2 (X (Y x 0 (Q zl)).2:Int) 0 [])):=by unfold zmB;simp only[zo];show(K (nJ h x) (K (zL 0 (X x)) _)).val=_;rw[a,b];rfl
theorem zkd:FK 32 zps:=by
 refine aV (E:=BD) (f:=Tryz.f32) (cK kw) λx y C B=>?_
 have⟨l,g,u⟩:=x;have hf:zY BD.P 32 Tryz.f32 2:=cK kw;have F:∀x,run BD 0 ziV Tryz.f32.results.toList 400 (bq Tryz.f32) (bg Tryz.f32.ntmps (jk [M ar,M zl.sl] x) [])=(zmB x.1 x.2.1).map (lf Tryz.f32 Qw):=by intro x;kernel_rfl
 have H:∀s,run BD 0 ziV Tryz.f32.results.toList 400 (am Tryz.f32 (Qw s).1) (Qw s).2=(zvL s).map (lf Tryz.f32 Qw):=by intro s;cases s<;>kernel_rfl
 simp only[JL,aN,aY,eu]at y;have⟨h1,h2,h3,A⟩:=y;generalize q:(Y g 0 (Q zl)).2=c at h3 A;refine Ge Ak hf (λid _=>B id) (F (l,g,u)) (zeE h1 h2) ?_;rw[q]
 have U:∀(m i:Nat)(j:List ((Int×Int×zJ)×Int)),X c-i=m->i<=X c->(j.map (·.1)).Nodup->X j<=i->(∀x,x∈j.map (·.1)↔x∈(c.take i).map λt:zr=>Y t (Z (dC l g)) (Q R))->
   Reach BD C 32 (am Tryz.f32 (Qw (.h4 (dC l g) c (X c) i j)).1) (Qw (.h4 (dC l g) c (X c) i j)).2 λr h=>aZ h [ze.sl] r=M (bQ l g,()):=by
  intro m
  induction m with
  | zero=>
   intro i j hm hi z hl d;obtain rfl:i=X c:=by omega
   rw[gE]at d;have o:∀x,x∈(c.map λt:zr=>Y t (Z (dC l g)) (Q R))->be x=O:=λx y=>by
    obtain⟨t,hr,rfl⟩:=bn.1 y;exact(A t hr).2
   have:=zfv (E:=BD) rfl B j W z (λp hp=>o _ ((d _).1 (bn.2 ⟨p,hp,rfl⟩))) (dC l g) c (X c);have e:bQ l g=ro (j.map (·.1)):=by
    unfold bQ Mv;rw[q];exact vg o (λx y=>o x ((d x).1 y)) λx _=>(d x).symm
   rw[e];exact this
  | succ m ih=>
   intro i j hm hi z hl d;have v:i<X c:=by omega
   have D:=A c[i] (bC v);have G:=JR (k:=Y c[i] (Z (dC l g)) (Q R)) (n:=0) (es:=j);refine Ge Ak hf (λid _=>B id) (H (.h4 (dC l g) c (X c) i j)) (s:=.h4 (dC l g) c (X c) ((i+1:Nat):Int) (lK j (Y c[i] (Z (dC l g)) (Q R)) 0)) ?_ (ih (i+1) _ W W ?_ ?_ ?_)
   .have e1:T ((i:Int)<(X c:Int))=O:=by simpa using v
    have e2:zL (i:Int) (X c)=O:=by simp[zL];omega
    have e3:Γ Δ ((i:Int)+1)=((i+1:Nat):Int):=by
     exact zu i um
    have e4:Y c (Z (i:Int)) (Q ze.sl)=c[i]:=zX c _ v;simp only[zvL,e1,e2,e3,e4,D.1,Q8,zj]
   .rw[G];split
    .exact z
    next w=>exact List.nodup_append.2 ⟨z,sw,λa ha b hb e=>w (by rw[fh]at hb;rw[<-hb,<-e];exact ha)⟩
   .have:=congrArg X G;simp only[dc]at this;rw[this];split
    .simp;omega
    .simp;omega
   .intro x;rw[G,List.take_succ_eq_append_getElem v,gh,cX,<-d x];simp only[ew,rm,fh];split
    next w=>exact⟨.inl,λh=>h.elim id λe=>e▸w⟩
    .rw[cX,fh]
 exact U (X c) 0 [] W W sw sw sw
def zie:=BD.add 32 zps
theorem sS:zw zie:=Ak.add zkd
open Go Go.Proofs
def zsQ(x:aA)(h:J zl.sl):Tr (Empty⊕aw):=
 let a:=(x.1,x.2.1,x.q.1,(x.r.1.1,x.r.1.2.1,x.r.1.q.1,x.r.1.r.1,x.r.1.t.1,zt x.r.1.u),x.t)
 K (Jg a h)
 (br (Wu a h !=0) (re (tup [nils,L 1]) [])
  (K (JL a h) (re (tup [N R (bQ a h),L 0]) [])))
def Mu(x:aA)(h:J zl.sl):=ap [ze.sl,zk] t0 100000000 (zsQ x h)
def Ba(x:aA)(h:J zl.sl):=(Mu x h).isSome
def JM(x:aA)(h:J zl.sl):=o2 (Mu x h)
def zoP:=FT [ar,zl.sl] [ze.sl,zk] λx=>Mu x.1 x.2.1
theorem zjx:FK 12 zoP:=sS.T1 (f:=Tryz.f12) (keep:=k0) (e:=e0)
def zmz(x:aA)(b:J zl.sl):Tr (Empty⊕aw):=
 let a:=(x.1,x.2.1,x.q.1,(x.r.1.1,x.r.1.2.1,x.r.1.q.1,x.r.1.r.1,x.r.1.t.1,zt x.r.1.u),x.t)
 let h:=zaX a b
 K (RI a b)
 (re
  (tup [agg ([I x.1,I x.2.1,I x.q.1,I x.r.1.1,N zn x.r.1.2.1,L x.r.1.q.1,N zk x.r.1.r.1,N zG x.r.1.t.1]++xE x.r.1.u++[N zk x.t.1,L x.u]),N zl h.1,AV.bool h.2])
  [])
def CG(x:aA)(h:J zl.sl):=ap [ar,zl.sl,Q7] t0 100000000 (zmz x h)
def KJ(x:aA)(h:J zl.sl):=(CG x h).isSome
def Rr(x:aA)(h:J zl.sl):=o3 (CG x h)
def zpl:=FT [ar,zl.sl] [ar,zl.sl,Q7] λx=>CG x.1 x.2.1
theorem zj5:FK 28 zpl:=sS.T1 (f:=Tryz.f28) (keep:=k0) (e:=e0)
abbrev zty:=kS [(3,[0,3,4])]
inductive PU where
 |h3 (l0:ee) (i4:Int) (ja0:List UInt8) (ja1:aT) (ja2:Int) (ja5:List UInt8) (ja6:Int) (ja7:Int) (ja8:List UInt8) (ja9:List UInt8)
 |h3b (l0:ee) (i4:Int) (ja0:List UInt8) (ja1:aT) (ja2:Int) (ja5:List UInt8) (ja6:Int) (ja7:Int) (ja8:List UInt8) (ja9:List UInt8) (lh_1:List (J ze.sl))
abbrev zww:PU->Nat×St
 |.h3 g i j h x a b c d e=>(3,⟨tm 31 [(0,N zk g),(3,ptr 0 0),(4,L i)],[Qa [I j,N zn h,L x,nils,nils,I a,L b,L c,I d,I e,nils,nils]]⟩)
 |.h3b g i j h x a b c d e l=>(3,⟨tm 31 [(0,N zk g),(3,ptr 0 0),(4,L i)],[Qa [I j,N zn h,L x,nils,nils,I a,L b,L c,I d,I e,nils,AV.vec 1],AO.vec ze.sl l]⟩)
def zx5(x:J zk.sl):Tr (PU⊕aw):=
 Q9 (PU.h3 x 0 [118] [([110],1,O),([114],1,S)] 0 [] 0 0 [] [])
def zyK:PU->Tr (PU⊕aw)
 | .h3 g i j h x a b c d e=>
  let k:=[[(1,i,[]),(1,g.getD i.toNat (Q zk),[])]]
  br (T (i<(X g:Int)))
  (K (zL i (X g)) (K (T (X k<=1073741824)) (Q9 (PU.h3b g (Γ Δ (i+1)) j h x a b c d e k))))
  (re (N zl [((j,h,x,[],[],zg.mk a (b,c,d) e []),[])]) [])
 | .h3b g i j h x a b c d e l=>
  let k:=[[(1,i,[]),(1,g.getD i.toNat (Q zk),[])]]
  br (T (i<(X g:Int)))
  (K (zL i (X g)) (K (T (X l+X k<=1073741824)) (Q9 (PU.h3b g (Γ Δ (i+1)) j h x a b c d e (l++k)))))
  (re (N zl [((j,h,x,[],[],zg.mk a (b,c,d) e []),l)]) [])
def znq(x:J zk.sl):=ap [zl.sl] zyK 100000000 (zx5 x)
def zpo:=FT [zk.sl] [zl.sl] λx=>znq x.1
theorem zj8:FK 30 zpo:=sS.T1 (f:=Tryz.f30) (keep:=zty) (e:=zww)
def zih:=zie.addL [(12,zoP),(28,zpl),(30,zpo)]
theorem IG:zw zih:=sS.addL<|fc zjx<|fc zj5<|fc zj8<|jg
def i7u(d:J zl.sl)(b:zO):Tr (Empty⊕aw):=
 let e:=(b.1,b.2.1,b.q.1,b.r.1,b.t.1,b.u.1,b.v.1,b.w.1,zt b.x.1,b.y.1,b.z.1,zt b.s.1,b.p)
 let a:=Tx e
 let g:=(a.1,a.2.1,a.q.1,a.r.1,a.t.1,a.u.1,a.v.1,a.w.1,zt a.x.1,a.y.1,a.z.1,zt a.s.1,a.p)
 let c:=T9 (E7 d) g
 let i:=(c.1.1,c.1.2.1,c.1.q.1,(c.1.r.1.1,c.1.r.1.2.1,c.1.r.1.q.1,c.1.r.1.r.1,c.1.r.1.t.1,zt c.1.r.1.u),c.1.t)
 let h:=Rr i (E7 d)
 K (KI d)
 (K (KH e)
  (K (K1 (E7 d) g) (br (c.2!=0) (re (tup [zPl,nils,kb S]) []) (K (KJ i (E7 d)) (re (tup [agg ([I h.1.1,I h.1.2.1,I h.1.q.1,I h.1.r.1.1,N zn h.1.r.1.2.1,L h.1.r.1.q.1,N zk h.1.r.1.r.1,N zG h.1.r.1.t.1]++xE h.1.r.1.u++[N zk h.1.t.1,L h.1.u]),N zl h.2.1,AV.bool h.q]) [])))))
def oP(x:J zl.sl)(h:zO):=ap [ar,zl.sl,Q7] t0 100000000 (i7u x h)
def AB(x:J zl.sl)(h:zO):=(oP x h).isSome
def E9(x:J zl.sl)(h:zO):=o3 (oP x h)
def F7u:=FT [zl.sl,ay] [ar,zl.sl,Q7] λx=>oP x.1 x.2.1
theorem zrs:FK 8 F7u:=IG.T1 (f:=Tryz.f8) (keep:=k0) (e:=e0)
def Tb:=zih.add 8 F7u
theorem Al:zw Tb:=IG.add zrs
def Ks:cu:={Tb with sh:=λt=>if t=2 then M (.int .i64)else Tb.sh t}
theorem pI:zw Ks where
 sh:=λt e h=>by
  have x:(ite (t=2) (M (.int .i64)) (Tb.sh t))=M e:=h;split at x
  next a=>subst a;cases x;exact PA kw
  .exact Al.sh t e x
 fs:=Al.fs
 mix:=Al.mix
def zp1:ag:=bf (List.replicate 1 none) (fj Ks Tryz.f93 (List.replicate 1 none))
theorem zkQ:FK 93 zp1:=cm _ pI (cK kw)
def zp6:ag:=bf (List.replicate 3 none) (fj Ks Tryz.f118 (List.replicate 3 none))
theorem zkV:FK 118 zp6:=cm _ pI (cK kw)
inductive Xx where
 |h2 (l0:zr) (i7:Int) (i8:Int) (z0:zp [CP.d R])
def zte(x:J ze.sl)(h:zq):Tr (Xx⊕aw):=
 Q9 (Xx.h2 x (X x:Int) 0 (h,()))
def WU:Xx->Tr (Xx⊕aw)
 | .h2 l h i z=>
  let a:=l.getD i.toNat (Q R)
  br (T (i<h))
  (K (zL i (X l)) (br (z.1.1==a.1&&(z.1.2.1==a.2.1&&(z.1.q==a.q&&O))) (re (L i) []) (Q9 (Xx.h2 l h (Γ Δ (i+1)) z))))
  (re (L (-1)) [])
def zbY(x:J ze.sl)(h:zq):=ap [zk] WU 100000000 (zte x h)
def zbX(x:J ze.sl)(h:zq):=(zbY x h).isSome
def zot(x:J ze.sl)(h:zq):=o1 (zbY x h)
abbrev ztr:=kS [(4,[0,1,5])]
inductive UP where
 |h4 (l0:zr) (l1:zr) (i5:Int)
abbrev zwr:UP->Nat×St
 |.h4 l h i=>(4,⟨tm 26 [(0,N R l),(1,N R h),(5,L i)],[]⟩)
def zeC(x h:J ze.sl):Tr (UP⊕aw):=
 br ((X x:Int)!=(X h:Int)) (re (kb S) []) (Q9 (UP.h4 x h 0))
def WR:UP->Tr (UP⊕aw)
 | .h4 l x i=>
  let a:=l.getD i.toNat (Q R)
  let h:=x.getD i.toNat (Q R)
  br (T (i<(X l:Int)))
  (K (zL i (X l)) (K (zL i (X x)) (br (!(a.1==h.1&&(a.2.1==h.2.1&&(a.q==h.q&&O)))) (re (kb S) []) (Q9 (UP.h4 l x (Γ Δ (i+1)))))))
  (re (kb O) [])
def CT(x h:J ze.sl):=ap [Q7] WR 100000000 (zeC x h)
def K9(x h:J ze.sl):=(CT x h).isSome
def RL(x h:J ze.sl):=o1 (CT x h)
def zpd:=FT [ze.sl,ze.sl] [Q7] λx=>CT x.1 x.2.1
theorem zjT:FK 46 zpd:=pI.T1 (f:=Tryz.f46) (keep:=ztr) (e:=zwr)
def Ey:=Ks.addL [(93,zp1),(118,zp6),(46,zpd)]
theorem vE:zw Ey:=pI.addL<|fc zkQ<|fc zkV<|fc zjT<|jg
abbrev Dg(c a b:Int)(s:zJ)(l:List fB)(i:Int):St:={tmps:=[.sl (Sh.sl R) l,.clo (.func 118) [] [.ptr 0 0,.ptr 1 0],.any,.any,.any,.any,.any,L (X l),L i,.any,.any,.any,.any,.any,.any,.any,.any,.any,.any],heap:=[.box [L c],.box [L a,L b,.str s]]}
theorem Za(c a b:Int)(s:zJ)(l:List fB):run Ey 2 Ci Tryz.f117.results.toList 300 (bq Tryz.f117) (bg Tryz.f117.ntmps [.sl (Sh.sl R) l,.clo (.func 118) [] [.ptr 0 0,.ptr 1 0]] [.box [L c],.box [L a,L b,.str s]])=.ok (.head 2 (am Tryz.f117 2) (Dg c a b s l 0)):=kw
theorem zax(c a b:Int)(s:zJ)(l:List fB)(i:Int):run Ey 2 Ci Tryz.f117.results.toList 300 (am Tryz.f117 2) (Dg c a b s l i)=pR (K:=am Tryz.f117 2) (e:=(Sh.sl R)) l (λx=>bK x c (a,b,s)) (Dg c a b s l) [.box [L c],.box [L a,L b,.str s]] i:=kw
theorem zap:zY Ey.P 117 Tryz.f117 2:=by refine⟨?_,?_,?_,?_⟩<;>kernel_rfl
def zrK:fD [M (.sl (Sh.sl R)),none]:=λx h=>match x,h with
 |(l,.clo (.func 118) [] [.ptr 0 0,.ptr 1 0],_),[.box [L c],.box [L a,L b,.str s]]=>.ok (L (ah (λx=>bK x c (a,b,s)) l 0),[.box [L c],.box [L a,L b,.str s]])
 |_,_=>.err
def zp3:ag:=bf [M (.sl (Sh.sl R)),none] zrK
theorem zkS:FK 117 zp3:=by
 refine dz zap λx i g h C d=>?_
 unfold zrK at h;split at h
 .rename_i l u c a b s;simp only[Tr.val_ok,bG]at h;subst h;refine Reach.len 0 (Sh.sl R) l rfl λe=>?_
  refine zI (n0:=2) vE zap d (Za c a b s l) ?_;exact lX l (λx=>bK x c (a,b,s)) (Dg c a b s l) vE zap d (zax c a b s l) e _ 0 rfl (aG _)
 .simp at h
def zs7(x:J ze.sl)(h:zq):Tr (Empty⊕aw):=
 K (zbX x h) (re (AV.bool (T (zot x h>=0))) [])
def zbW(x:J ze.sl)(h:zq):=ap [Q7] t0 100000000 (zs7 x h)
def PJ(x:J ze.sl)(h:zq):=(zbW x h).isSome
def HB(x:J ze.sl)(h:zq):=o1 (zbW x h)
def YU:=Ey.addL [(117,zp3)]
theorem Ez:zw YU:=vE.addL<|fc zkS<|jg
def zs6(h:ae)(a:zq):Tr (Empty⊕aw):=
 br (!dM (h.1.1,h.1.2.1,h.1.q.1,h.1.r.1,h.1.t.1,zt h.1.u))
 (re (L (ah (λx=>bK x (-1) a) h.2 0)) [])
 (re (L (ah (λx=>bK x h.1.q.1 a) h.2 0)) [])
def LK(x:ae)(h:zq):=ap [zk] t0 100000000 (zs6 x h)
def LJ(x:ae)(h:zq):=(LK x h).isSome
def Uj(x:ae)(h:zq):=o1 (LK x h)
def zpB:=FT [zl,R] [zk] λx=>LK x.1 x.2.1
theorem zkm:FK 51 zpB:=Ez.T1 (f:=Tryz.f51) (keep:=k0) (e:=e0)
def YV:=YU.add 51 zpB
theorem QN:zw YV:=Ez.add zkm
def V2(x:aA)(b:J zl.sl)(h:zq):Tr (Empty⊕aw):=
 let d:=(x.1,x.2.1,x.q.1,(x.r.1.1,x.r.1.2.1,x.r.1.q.1,x.r.1.r.1,x.r.1.t.1,zt x.r.1.u),x.t)
 let i:=zL 0 (X b)
 let a:=Y b (Z 0) (Q zl)
 let j:=((a.1.1,a.1.2.1,a.1.q.1,a.1.r.1,a.1.t.1,zt a.1.u),a.2)
 let g:=Uj j h
 let k:=Y a.2 (Z g) (Q ze.sl)
 let l:=JL d b
 let e:=bQ d b
 let c:=Y k (Z x.u) (Q R)
 K (Jg d b)
 (br (Wu d b !=0) (re (tup [agg [L 0,L 0,I []],L 1]) [])
  (br (x.1==ic) (K i (K (LJ j h) (br (T (g<0)) (re (tup [agg [L 0,L 0,I []],L 6]) []) (K i (K (zL g (X a.2)) (K (zL x.u (X k)) (K l (K (PJ e c)
  (br (!HB e c) (re (tup [agg [L 0,L 0,I []],L 6]) []) (re (tup [agg [L c.1,L c.2.1,I c.q],L 0]) [])))))))))) (K l (K (PJ e h) (br (!HB e h) (re (tup [agg [L 0,L 0,I []],L 6]) [])
  (re (tup [agg [L h.1,L h.2.1,I h.q],L 0]) []))))))
def zvP(x:aA)(h:J zl.sl)(a:zq):=ap [R,zk] t0 100000000 (V2 x h a)
def YW:=YV
theorem EA:zw YW:=QN
abbrev ztt:=kS [(4,[0,1,5])]
inductive UQ where
 |h4 (l0:List (J ze.sl)) (l1:List (J ze.sl)) (i5:Int)
abbrev zws:UQ->Nat×St
 |.h4 l h i=>(4,⟨tm 27 [(0,N ze.sl l),(1,N ze.sl h),(5,L i)],[]⟩)
def zmx(x h:J ze.sl.sl):Tr (UQ⊕aw):=
 br ((X x:Int)!=(X h:Int)) (re (kb S) []) (Q9 (UQ.h4 x h 0))
def zfT:UQ->Tr (UQ⊕aw)
 | .h4 l h i=>
  let a:=l.getD i.toNat (Q ze.sl)
  let x:=h.getD i.toNat (Q ze.sl)
  br (T (i<(X l:Int)))
  (K (zL i (X l)) (K (zL i (X h)) (K (K9 a x) (br (!RL a x) (re (kb S) []) (Q9 (UQ.h4 l h (Γ Δ (i+1))))))))
  (re (kb O) [])
def C4(x h:J ze.sl.sl):=ap [Q7] zfT 100000000 (zmx x h)
def Lo(x h:J ze.sl.sl):=(C4 x h).isSome
def RV(x h:J ze.sl.sl):=o1 (C4 x h)
def zpf:=FT [ze.sl.sl,ze.sl.sl] [Q7] λx=>C4 x.1 x.2.1
theorem zjX:FK 22 zpf:=EA.T1 (f:=Tryz.f22) (keep:=ztt) (e:=zws)
def YX:=YW.addL [(22,zpf)]
theorem QO:zw YX:=EA.addL<|fc zjX<|jg
inductive zAd where
 |h3 (l1:zS) (i8:Int) (z0:zp [CP.d ar]) (z1:zp [CP.d R])
 |h3b (l1:zS) (i8:Int) (z0:zp [CP.d ar]) (z1:zp [CP.d R]) (lh_2:List (J ze.sl))
inductive zAc where
 |h3 (l1:zS) (i6:Int) (z0:zp [CP.d ar])
 |h9 (l1:zS) (i6:Int) (b9:Bool) (i10:Int) (z0:zp [CP.d ar]) (z1:zp [CP.d R])
 |h3b (l1:zS) (i6:Int) (z0:zp [CP.d ar]) (lh_1:zr)
 |h9b (l1:zS) (i6:Int) (b9:Bool) (i10:Int) (z0:zp [CP.d ar]) (z2:zp [CP.d R]) (lh_1:zr)
 |h9bb (l1:zS) (i6:Int) (i10:Int) (z0:zp [CP.d ar]) (z2:zp [CP.d R]) (lh_1:zr) (lh_3:zr)
 |h9bbb (l1:zS) (i6:Int) (b9:Bool) (i10:Int) (z0:zp [CP.d ar]) (z2:zp [CP.d R]) (lh_1:zr) (lh_3:zr)
def YY:=YX
theorem EB:zw YY:=QO
abbrev Ke:List CP:=[.d ab,.vec (.sl R)]
abbrev uj:List CP:=[.d .str,.nil,.d zk,.nil,.nil,.d .str,.d zk,.d zk,.d .str,.d .str,.nil,.nil]
inductive zAg where
 |h6 (l7:List (J ze.sl)) (i10:Int) (z0:zp [CP.d ar]) (z1:zp [CP.d R]) (z2:zp [CP.d R])
 |h14 (l1:zS) (l7:List (J ze.sl)) (i11:Int) (z0:zp [CP.d ar]) (z1:zp [CP.d R]) (lh_2:List (J ze.sl))
 |h22 (l1:zS) (l7:List (J ze.sl)) (i11:Int) (l12:zr) (i14:Int) (z0:zp [CP.d ar]) (z1:zp [CP.d R]) (lh_2:List (J ze.sl)) (lh_3:zr)
abbrev ztw:Nat->aX:=λj=>if j=3 then{slots:=[1,2,3,4],prom:=[(3,M 11,(.sl R))]}else if j=6 then{slots:=[1,2,3,4,5]}else{ }
inductive MI where
 |h3 (i4:Int) (z0:zp [CP.d zl]) (z1:zp uj) (z2:zp Ke)
 |h6 (i4:Int) (i5:Int) (z0:zp [CP.d zl]) (z1:zp uj) (z2:zp Ke)
abbrev zwu:MI->Nat×St
 |.h3 i h x z=>(3,⟨tm 67 [(1,ptr 0 0),(2,ptr 1 0),(3,ptr 2 0),(4,L i)],[Qa (bL [] [CP.d zl] h),Qa (bL [] uj x),Qa (bL [3] Ke z),AO.vec ze.sl z.2.1]⟩)
 |.h6 i a h x z=>(6,⟨tm 67 [(1,ptr 0 0),(2,ptr 1 0),(3,ptr 2 0),(4,L i),(5,L a)],[Qa (bL [] [CP.d zl] h),Qa (bL [] uj x),Qa (bL [3] Ke z),AO.vec ze.sl z.2.1]⟩)
def zs3(x:ae):Tr (MI⊕aw):=
 Q9 (MI.h3 0 (x,()) ([],0,[],0,0,[],[],()) (x.1,[],()))
def Ck:MI->Tr (MI⊕aw)
 | .h3 i h z1 z=>
  let j:=(X h.1.2:Int)
  br (T (i<j)) (Q9 (MI.h6 i (X z.2.1:Int) h z1 z))
  (re (agg [I z.1.1,N zn z.1.2.1,L z.1.q.1,N zk z.1.r.1,N zG z.1.t.1,I (zg.op z.1.u),L (zg.v z.1.u).1,L (zg.v z.1.u).2.1,I (zg.v z.1.u).q,I (zg.s z.1.u),N Q5 (zg.l z.1.u),AV.vec 0]) [AO.vec ze.sl z.2.1])
 | .h6 i b h z1 z=>
  let j:=T (b>0)
  let k:=Γ Δ (b-1)
  let m:=(h.1.1.1,h.1.1.2.1,h.1.1.q.1,h.1.1.r.1,h.1.1.t.1,zt h.1.1.u)
  let o:=z.2.1.getD k.toNat (Q ze.sl)
  let p:=zL i (X h.1.2)
  let n:=Y h.1.2 i.toNat (Q ze.sl)
  let w:=Jt m o
  let y:=Jt m n
  let B:=CQ w y
  let A:=T (0<=b)
  let a:=(X z.2.1:Int)
  let c:=T (b<=a)
  let x:=List.take (b.toNat-Z 0) (List.drop (Z 0) z.2.1)
  let d:=[n]
  let e:=x++d
  let g:=List.take (a.toNat-b.toNat) (List.drop b.toNat z.2.1)
  K (cond j (zL k (X z.2.1)&&(T (k.toNat<X z.2.1)&&(AU m o&&(p&&(AU m n&&xw w y))))) O)
  (br (cond j (T (B>0)) S) (Q9 (MI.h6 i k h z1 z)) (K (T (0<=0)&&A&&c) (K (T (X x<=1073741824)) (K p (K (T (X x+X d<=1073741824)) (K (A&&c&&T (a<=a))
  (K (T (X e+X g<=1073741824)) (Q9 (MI.h3 (Γ Δ (i+1)) h z1 (z.1,e++g,()))))))))))
def C7(x:ae):=ap [zl] Ck 100000000 (zs3 x)
def Lq(x:ae):=(C7 x).isSome
def RW(x:ae):=o1 (C7 x)
def zpm:=FT [zl] [zl] λx=>C7 x.1
theorem zj6:FK 15 zpm:=EB.T1 (f:=Tryz.f15) (keep:=ztw) (e:=zwu)
def zib:=YY.addL [(15,zpm)]
theorem VP:zw zib:=EB.addL<|fc zj6<|jg
inductive zAe where
 |h4 (l8:List (J ze.sl)) (i10:Int) (z0:zp [CP.d ar]) (lh_1:List (J ze.sl))
def zic:=zib
theorem VQ:zw zic:=VP
inductive H9v where
 |h4 (l1:zS) (l2:zr) (i9:Int) (i10:Int) (z0:zp [CP.d ar]) (z1:zp uj) (z2:zp Ke)
 |h8 (l1:zS) (l2:zr) (i9:Int) (i10:Int) (i12:Int) (z0:zp [CP.d ar]) (z1:zp uj) (z2:zp Ke)
 |h8b (l1:zS) (l2:zr) (i9:Int) (i10:Int) (b11:Bool) (i12:Int) (z0:zp [CP.d ar]) (z1:zp uj) (z2:zp Ke)
def ND:=zic
theorem lR:zw ND:=VQ
abbrev PB:Sh:=.pr ar (.sl zl)
abbrev ej:=J PB
abbrev wG:List CP:=[.d PB]
abbrev znh:Nat->aX:=λj=>if j=3 then{slots:=[1,5,10,11,12],prom:=[(5,none,R)]}else{ }
inductive HK where
 |h3 (l1:zr) (l10:ee) (i11:Int) (i12:Int) (lh_0:zr)
abbrev zsh:HK->Nat×St
 |.h3 a x i h l=>(3,⟨tm 25 [(1,N R a),(5,AV.vec 0),(10,N zk x),(11,L i),(12,L h)],[AO.vec R l]⟩)
def ziK(x:ej)(h:J ze.sl):Tr (HK⊕aw):=
 Q9 (HK.h3 h x.1.t.1 (X x.1.t.1:Int) 0 [])
def UB:HK->Tr (HK⊕aw)
 | .h3 a h x i l=>
  let b:=h.getD i.toNat (Q zk)
  let c:=[a.getD (Z b) (Q R)]
  br (T (i<x))
  (K (zL i (X h)) (K (zL b (X a)) (K (T (X l+X c<=1073741824)) (Q9 (HK.h3 a h x (Γ Δ (i+1)) (l++c))))))
  (re (AV.vec 0) [AO.vec R l])
def J9(x:ej)(h:J ze.sl):=ap [ze.sl] UB 100000000 (ziK x h)
def yI(x:ej)(h:J ze.sl):=(J9 x h).isSome
def H1(x:ej)(h:J ze.sl):=o1 (J9 x h)
def zgW:=FT [PB,ze.sl] [ze.sl] λx=>J9 x.1 x.2.1
theorem zcY:FK 153 zgW:=lR.T1 (f:=Tryz.f153) (keep:=znh) (e:=zsh)
def zeI(x:ej):Tr (Empty⊕aw):=
 let a:=Y x.2 (Z 0) (Q zl)
 br (x.1.1==dI) (K (zL 0 (X x.2)) (re (L a.1.q.1) []))
 (br (x.1.1==ic) (re (L x.1.u) [])
  (K (zL 0 (X x.1.t.1)) (re (L (Y x.1.t.1 (Z 0) (Q zk))) [])))
def SW(x:ej):=ap [zk] t0 100000000 (zeI x)
def XP(x:ej):=(SW x).isSome
def zlG(x:ej):=o1 (SW x)
def zpy:=FT [PB] [zk] λx=>SW x.1
theorem zkj:FK 33 zpy:=lR.T1 (f:=Tryz.f33) (keep:=k0) (e:=e0)
def zh4:=ND.addL [(153,zgW),(33,zpy)]
theorem Aj:zw zh4:=lR.addL<|fc zcY<|fc zkj<|jg
abbrev zuh:Nat->aX:=λj=>if j=3 then{slots:=[3,7,10,11,12],prom:=[(7,none,(.sl R))]}else{ }
inductive U6 where
 |h3 (l10:List (J ze.sl)) (i11:Int) (i12:Int) (z0:zp wG) (lh_1:List (J ze.sl))
abbrev zw4:U6->Nat×St
 |.h3 x i h z l=>(3,⟨tm 24 [(3,ptr 0 0),(7,AV.vec 1),(10,N ze.sl x),(11,L i),(12,L h)],[Qa (bL [] wG z),AO.vec ze.sl l]⟩)
def ztj(h:ej)(_:zq)(x:J ze.sl.sl):Tr (U6⊕aw):=
 Q9 (U6.h3 x (X x:Int) 0 (h,()) [])
def zfX:U6->Tr (U6⊕aw)
 | .h3 h x i z l=>
  let a:=((z.1.1.1,z.1.1.2.1,z.1.1.q.1,(z.1.1.r.1.1,z.1.1.r.1.2.1,z.1.1.r.1.q.1,z.1.1.r.1.r.1,z.1.1.r.1.t.1,zt z.1.1.r.1.u),z.1.1.t),z.1.2)
  let b:=h.getD i.toNat (Q ze.sl)
  let c:=[H1 a b]
  br (T (i<x))
  (K (zL i (X h)) (K (yI a b) (K (T (X l+X c<=1073741824)) (Q9 (U6.h3 h x (Γ Δ (i+1)) z (l++c))))))
  (re (AV.vec 0) [AO.vec ze.sl l])
def J6(x:ej)(h:zq)(a:J ze.sl.sl):=ap [ze.sl.sl] zfX 100000000 (ztj x h a)
def P4(x:ej)(h:zq)(a:J ze.sl.sl):=(J6 x h a).isSome
def XQ(x:ej)(h:zq)(a:J ze.sl.sl):=o1 (J6 x h a)
def zqn:=FT [PB,R,ze.sl.sl] [ze.sl.sl] λx=>J6 x.1 x.2.1 x.q.1
theorem zlb:FK 88 zqn:=Aj.T1 (f:=Tryz.f88) (keep:=zuh) (e:=zw4)
abbrev zuj:=kS [(5,[3,4,7,15,16,17])]
inductive PW where
 |h5 (l15:List (J ze.sl)) (i16:Int) (i17:Int) (z0:zp wG) (z1:zp [CP.d R]) (z2:zp [CP.d R])
abbrev zw6:PW->Nat×St
 |.h5 l i h z x a=>(5,⟨tm 40 [(3,ptr 0 0),(4,ptr 1 0),(7,ptr 2 0),(15,N ze.sl l),(16,L i),(17,L h)],[Qa (bL [] wG z),Qa (bL [] [CP.d R] x),Qa (bL [] [CP.d R] a)]⟩)
def zmN(h:ej)(a:zq)(x:J ze.sl.sl):Tr (PW⊕aw):=
 br ((X x:Int)==0) (re nils []) (Q9 (PW.h5 x (X x:Int) 0 (h,()) (a,()) ((1,0,[]),())))
def zf0:PW->Tr (PW⊕aw)
 | .h5 l h i z x a=>
  let b:=Y z.1.1.t.1 (Z 1) (Q zk)
  let c:=l.getD i.toNat (Q ze.sl)
  let d:=Y c (Z b) (Q R)
  let e:=Γ Δ (i+1)
  br (T (i<h))
  (K (zL i (X l)) (K (zL 1 (X z.1.1.t.1)) (K (zL b (X c)) (br (d.1!=0) (Q9 (PW.h5 l h e z x (qO a.1 d,()))) (Q9 (PW.h5 l h e z x a))))))
  (re (N ze.sl [[x.1,a.1]]) [])
def Cw(x:ej)(h:zq)(a:J ze.sl.sl):=ap [ze.sl.sl] zf0 100000000 (zmN x h a)
def J7(x:ej)(h:zq)(a:J ze.sl.sl):=(Cw x h a).isSome
def P5(x:ej)(h:zq)(a:J ze.sl.sl):=o1 (Cw x h a)
def zqq:=FT [PB,R,ze.sl.sl] [ze.sl.sl] λx=>Cw x.1 x.2.1 x.q.1
theorem zle:FK 90 zqq:=Aj.T1 (f:=Tryz.f90) (keep:=zuj) (e:=zw6)
def zh5:=zh4.addL [(88,zqn),(90,zqq)]
theorem VM:zw zh5:=Aj.addL<|fc zlb<|fc zle<|jg
open Go Go.Proofs Go.RowKit Go.Lib
set_option maxRecDepth 100000
theorem zmP:(Tryz.prog.info? 30).map (λi=>(i.zero,i.size,i.bytes))=M (M (.agg #[.int .i64 0,.int .i64 0,.string ⟨#[]⟩]),3,32):=by kernel_rfl
theorem zex(p:Option Addr)(k:Nat)(n:k<=1000000)(w:World):Calls Tryz.prog 221 #[.slice p 0 0,.int .i64 k] w λe d=>∃q c,e=.returned (.slice q 0 c)/\Below w.heap.size w d/\(c=0\/(0<c/\q=M ⟨w.heap.size,0,none⟩/\∃h,d.heap[w.heap.size]?=M (.cells h 30 (0,0))/\h.size=c*3)):=by
 obtain⟨m,j,b,l,a⟩:=info_parts zmP;by_cases g:k=0
 .subst g
  go_enter Tryz.func221,Tryz.ntmps221
  go_wp2
  first|go_ret|go_ret2
  exact⟨_,_,rfl,Below.refl _ _,.inl rfl⟩
 .have x:=λt=>run_append_grow_zeros (P:=Tryz.prog) w 39 3 t 30 m _ .i64 .i64 Tryz.underlying39 Tryz.underlying3 j b p 0 0 [] (by cases p<;>simp[Builtin.firstCells,loadCells,loadCellsFrom]) k (by omega) (by omega) (by omega) (by omega) (by rw[a];omega) (by rw[eI,nextslicecap_zero (by omega),a];omega)
  simp only[eI]at x;have i:=grownCap_ge w k 0 30
  go_enter Tryz.func221,Tryz.ntmps221
  go_wp2_with (at_builtin;refine Lib.wpList_append_run _ rfl _ _ _ _ rfl _ _ rfl rfl _ _ (x _) ?_)
  first|go_ret|go_ret2
  refine⟨_,_,rfl,((Below.refl _ _).alloc (zM _) _).drew,.inr ⟨by omega,rfl,_,heap_alloc_new _ _,?_⟩⟩;simp[size_zeroCells];omega
abbrev zz9:Sh:=.pr (.int .i64) (.pr (.int .i64) .str)
def zjo:ag:=λa _ n=>match a with
 |[.nils,.int .i64 k]=>.chk (T (0<=k)) (.chk (T (k<=1000000)) (.ok {val:=.vec n,nw:=[.vec R []]}))
 |_=>.err
theorem zey{w:World}{U:Nat->Prop}{C:Nat->Option Value}{A:Nat->AO}{d:Nat}{p:Option Addr}(j:∀b,U b->b<w.heap.size)(s:C n=none)(z:d<=1000000):
  Calls Tryz.prog 221 #[.slice p 0 0,.int .i64 d] w λe m=>∃v t B,e=.returned v/\Ef n A {val:=.vec n,nw:=[.vec R []]} w U C v m t B:=by
 refine(zex p d z w).mono ?_;rintro e m ⟨q,c,rfl,x,rfl|⟨u,rfl,k,o,l⟩⟩
 .exact⟨_,U,_,rfl,Ef.newVec sw s rfl (ly.below x) (λb a _=>x.block b a) (λb a=>ia (j b a) x.size) (λb _=>Iff.rfl) ⟨q,0,by simp[kx],aG _,.inl ⟨rfl,rfl⟩⟩ (λb a=>by cases q<;>simp[cd]at a)⟩
 .have g:w.heap.size<m.heap.size:=(mU.1 o).1;exact⟨_,λb=>U b\/b=w.heap.size,_,rfl,Ef.newVec sw s rfl (ly.below x) (λb a _=>x.block b a) (λb h=>by
     rcases h with h|rfl
     .exact ia (j b h) x.size
     .exact g) (λb a=>⟨λh=>h.elim id λe=>zA e W,.inl⟩) ⟨M ⟨w.heap.size,0,none⟩,c,by simp[kx],aG _,.inr ⟨w.heap.size,30,k,rfl,u,.inr rfl,o,l,aG _,λi y=>zA y sw⟩⟩ (λb a=>by simp[cd]at a;exact .inl W)⟩
theorem zj0:FK 221 zjo where
 fn:=⟨Tryz.f221,kw,kw,kw⟩
 calls:=λw U y u n c v f s h x b i g j e a=>by
  unfold zjo at h;split at h
  .rename_i k;simp only[Tr.val_chk,Tr.val_ok,bG,aY]at h;obtain⟨d,t,rfl⟩:=h;obtain⟨k,rfl⟩:=Int.eq_ofNat_of_zero_le d;have l:=x.len
   match v,l,x with
   |[p,q],_,x=>
   have m:=x.rv 0 _ p rfl rfl;have o:=x.rv 1 _ q rfl rfl;cases m;cases o;exact⟨zey b (a 0 sw) W,sw⟩
  .simp at h
def YM:=zh5.add 221 zjo
theorem Ej:zw YM:=VM.add zj0
abbrev zni:=kS [(3,[0,3,9,10,11]),(11,[6,25,26,27])]
inductive oo where
 |h3 (l0:List (J ze.sl)) (i3:Int) (l9:List (J ze.sl)) (i10:Int) (i11:Int)
 |h11 (l25:List (J ze.sl)) (i26:Int) (i27:Int) (lh_0:zr)
abbrev zsi:oo->Nat×St
 |.h3 d c e i h=>(3,⟨tm 36 [(0,N ze.sl d),(3,L c),(9,N ze.sl e),(10,L i),(11,L h)],[]⟩)
 |.h11 b x a l=>(11,⟨tm 36 [(6,AV.vec 0),(25,N ze.sl b),(26,L x),(27,L a)],[AO.vec R l]⟩)
def ziL(x:J ze.sl.sl):Tr (oo⊕aw):=
 Q9 (oo.h3 x 0 x (X x:Int) 0)
def JK:oo->Tr (oo⊕aw)
 | .h3 e d g b i=>
  let a:=Γ Δ (d+(↑(X (g.getD i.toNat (Q ze.sl))):Int))
  br (T (i<b)) (K (zL i (X g)) (br (T (a<0)) Tr.err (Q9 (oo.h3 e a g b (Γ Δ (i+1))))))
  (K (T (0<=d)) (K (T (d<=1000000)) (Q9 (oo.h11 e (X e:Int) 0 []))))
 | .h11 x c h l=>
  let a:=x.getD h.toNat (Q ze.sl)
  br (T (h<c))
  (K (zL h (X x)) (K (T (X l+X a<=1073741824)) (Q9 (oo.h11 x c (Γ Δ (h+1)) (l++a)))))
  (re (AV.vec 0) [AO.vec R l])
def S2(x:J ze.sl.sl):=ap [ze.sl] JK 100000000 (ziL x)
def X4(x:J ze.sl.sl):=(S2 x).isSome
def zl1(x:J ze.sl.sl):=o1 (S2 x)
def zgX:=FT [ze.sl.sl] [ze.sl] λx=>S2 x.1
theorem zcZ:FK 154 zgX:=Ej.T1 (f:=Tryz.f154) (keep:=zni) (e:=zsi)
def zh6:=YM.add 154 zgX
theorem Iz:zw zh6:=Ej.add zcZ
abbrev zui:Nat->aX:=λj=>if j=7 then{slots:=[8,9,30,31,32],prom:=[(9,none,(.sl R))]}else{ }
inductive U7 where
 |h7 (l8:zr) (l30:List (J ze.sl)) (i31:Int) (i32:Int) (lh_0:List (J ze.sl))
abbrev zw5:U7->Nat×St
 |.h7 a x i h l=>(7,⟨tm 45 [(8,N R a),(9,AV.vec 0),(30,N ze.sl x),(31,L i),(32,L h)],[AO.vec ze.sl l]⟩)
def zeT(x:ej)(g:zq)(i:J ze.sl.sl):Tr (U7⊕aw):=
 let b:=zL 1 (X x.2)
 let a:=Y x.2 (Z 1) (Q zl)
 let c:=((a.1.1,a.1.2.1,a.1.q.1,a.1.r.1,a.1.t.1,zt a.1.u),a.2)
 let h:=Uj c g
 let d:=((x.1.1,x.1.2.1,x.1.q.1,(x.1.r.1.1,x.1.r.1.2.1,x.1.r.1.q.1,x.1.r.1.r.1,x.1.r.1.t.1,zt x.1.r.1.u),x.1.t),x.2)
 let e:=Y a.2 (Z h) (Q ze.sl)
 K b
 (K (LJ c g)
  (br (T (h<0)) (re nils []) (K b (K (zL h (X a.2)) (K (yI d e) (Q9 (U7.h7 (H1 d e) i (X i:Int) 0 [])))))))
def zfY:U7->Tr (U7⊕aw)
 | .h7 c h x i l=>
  let a:=[h.getD i.toNat (Q ze.sl),c]
  let b:=[zl1 a]
  br (T (i<x))
  (K (zL i (X h)) (K (X4 a) (K (T (X l+X b<=1073741824)) (Q9 (U7.h7 c h x (Γ Δ (i+1)) (l++b))))))
  (re (AV.vec 0) [AO.vec ze.sl l])
def J8(x:ej)(h:zq)(a:J ze.sl.sl):=ap [ze.sl.sl] zfY 100000000 (zeT x h a)
def P6(x:ej)(h:zq)(a:J ze.sl.sl):=(J8 x h a).isSome
def XS(x:ej)(h:zq)(a:J ze.sl.sl):=o1 (J8 x h a)
def zqo:=FT [PB,R,ze.sl.sl] [ze.sl.sl] λx=>J8 x.1 x.2.1 x.q.1
theorem zlc:FK 89 zqo:=Iz.T1 (f:=Tryz.f89) (keep:=zui) (e:=zw5)
def zh7:=zh6.add 89 zqo
theorem IA:zw zh7:=Iz.add zlc
abbrev ztG:Nat->aX:=λj=>if j=5 then{slots:=[3,9,10,23,24,25],prom:=[(9,none,(.sl R))]}else{ }
inductive JW where
 |h5 (i10:Int) (l23:List (J ze.sl)) (i24:Int) (i25:Int) (z0:zp wG) (lh_1:List (J ze.sl))
abbrev zwB:JW->Nat×St
 |.h5 i a h x z l=>(5,⟨tm 44 [(3,ptr 0 0),(9,AV.vec 1),(10,L i),(23,N ze.sl a),(24,L h),(25,L x)],[Qa (bL [] wG z),AO.vec ze.sl l]⟩)
def Zv(x:ej)(h:zq)(b:J ze.sl.sl):Tr (JW⊕aw):=
 let a:=((x.1.1,x.1.2.1,x.1.q.1,(x.1.r.1.1,x.1.r.1.2.1,x.1.r.1.q.1,x.1.r.1.r.1,x.1.r.1.t.1,zt x.1.r.1.u),x.1.t),x.2)
 let c:=XQ a h b
 let d:=XS a h b
 let e:=P5 a h b
 K O
 (K O
  (K O (br (x.1.1==dI) (K (P4 a h b) (Q9 (JW.h5 0 c (X c:Int) 0 (x,()) []))) (br (x.1.1==ic) (K (P6 a h b) (Q9 (JW.h5 0 d (X d:Int) 0 (x,()) [])))
  (br (x.1.1==qD) (K (J7 a h b) (Q9 (JW.h5 0 e (X e:Int) 0 (x,()) []))) Tr.err)))))
def zfV:JW->Tr (JW⊕aw)
 | .h5 x h a i z l=>
  let b:=h.getD i.toNat (Q ze.sl)
  let c:=Γ Δ (i+1)
  let d:=[b]
  br (T (i<a))
  (K (zL i (X h)) (br (dj (z.1.1.r.1.1,z.1.1.r.1.2.1,z.1.1.r.1.q.1,z.1.1.r.1.r.1,z.1.1.r.1.t.1,zt z.1.1.r.1.u) b !=0) (Q9 (JW.h5 (Γ Δ (x+1)) h a c z l)) (K (T (X l+X d<=1073741824)) (Q9 (JW.h5 x h a c z (l++d))))))
  (re (tup [AV.vec 0,L x]) [AO.vec ze.sl l])
def DK(x:ej)(h:zq)(a:J ze.sl.sl):=ap [ze.sl.sl,zk] zfV 100000000 (Zv x h a)
def XR(x:ej)(h:zq)(a:J ze.sl.sl):=(DK x h a).isSome
def zlH(x:ej)(h:zq)(a:J ze.sl.sl):=o2 (DK x h a)
def zpA:=FT [PB,R,ze.sl.sl] [ze.sl.sl,zk] λx=>DK x.1 x.2.1 x.q.1
theorem zkl:FK 34 zpA:=IA.T1 (f:=Tryz.f34) (keep:=ztG) (e:=zwB)
def zh8:=zh7.add 34 zpA
theorem VN:zw zh8:=IA.add zkl
open Go
theorem sJ{P:Program}{m:Nat->AV}{g ι:Type}{E:cu}{k:FuncId}{f:Func}{b:List (Option Sh)}{G:fD b}{d n0:Nat}{e:g->Nat×St}{t:g->Tr (g⊕aw)}{args:ι->List AV}{heap:ι->List AO}{i:ι->Tr (g⊕aw)}
  (z:zw E) (o:zY E.P k f (X b)) (B:∀x,(heap x).length=n0)
  (j:∀x,run E n0 keep f.results.toList d (bq f) (bg f.ntmps (args x) (heap x))=(i x).map (lf f e))
  (l:∀s,run E n0 keep f.results.toList d (am f (e s).1) (e s).2=(t s).map (lf f e))
  (A:∀a h c,(G a h).val=M c->∃x,jk b a=args x/\h=heap x/\bV t n (i x)=M c) (H:E.P=P:=by rfl) (F:E.gl=m:=by rfl):om P m k (bf b G):=by
 subst H F;refine dz o λx v c D C w=>?_
 have⟨y,p,q,u⟩:=A x v c D;subst q;rw[p];exact mz (n0:=n0) (Q:=λr h=>(r,h)=c) z o (λid h=>w id (by rw[B];exact h)) (n+1) _ _ _ (by rw[kc l (j y)];exact u) rfl
abbrev Bv(l:ee):Tr zR:=run dG 0 MA (Func.results Tryz.f157).toList 300 (bq Tryz.f157) (bg (Func.ntmps Tryz.f157) [.sl zk l] [])
theorem TM:zY dG.P 157 Tryz.f157 1:=cK kw
theorem zsL(l:ee):Bv l=.ok (.fork l.isEmpty (bS (Bv l)).1 (bS (Bv l)).2.1 (bS (Bv l)).q):=kw
theorem znQ(l:ee):run dG 0 MA (Func.results Tryz.f157).toList 300 (bS (Bv l)).1 (bS (Bv l)).q=.ok (.ret .nils []):=kw
theorem znR(l:ee):run dG 0 MA (Func.results Tryz.f157).toList 300 (bS (Bv l)).2.1 (bS (Bv l)).q=.chk (T (X l<=1073741824)) (.ok (.ret (.vec 0) [.vec zk l])):=kw
def zrM:fD [M (.sl zk)]:=λx h=>match h with
 |[]=>.chk (T (X x.1<=1073741824)) (.ok (.vec 0,[.vec zk x.1]))
 |_=>.err
def zqt:ag:=bf [M (.sl zk)] zrM
theorem zli:FK 157 zqt:=by
 refine dz TM λx j i a C b=>?_
 unfold zrM at a;split at a
 .simp only[Q8]at a;split at a
  .rename_i d;simp only[bG]at a;subst a;have⟨l,u⟩:=x;refine zI (n0:=0) bM TM b (zsL l) ?_;refine⟨λc=>?_,?_⟩
   .have e:l=[]:=List.isEmpty_iff.1 c;refine Reach.weaken (Q:=λr h=>(r,h)=(.vec 0,[.vec zk []])) (Reach.promNil zk (λid=>b id sw) (zI (n0:=0) bM TM b (znQ l) rfl)) ?_;intro r h g;cases g;refine⟨_,?_,λ_ _ _ _ h=>h⟩;show(AV.vec 0,[AO.vec zk []])=(AV.vec 0,[AO.vec zk l]);rw[e]
   .exact zI (n0:=0) bM TM b (znR l) (fW d rfl)
  .cases a
 .simp at a
abbrev Bw(l:dK):Tr zR:=run dG 0 MA (Func.results Tryz.f158).toList 300 (bq Tryz.f158) (bg (Func.ntmps Tryz.f158) [.sl zG l] [])
theorem TN:zY dG.P 158 Tryz.f158 1:=cK kw
theorem zsM(l:dK):Bw l=.ok (.fork l.isEmpty (bS (Bw l)).1 (bS (Bw l)).2.1 (bS (Bw l)).q):=kw
theorem znS(l:dK):run dG 0 MA (Func.results Tryz.f158).toList 300 (bS (Bw l)).1 (bS (Bw l)).q=.ok (.ret .nils []):=kw
theorem znT(l:dK):run dG 0 MA (Func.results Tryz.f158).toList 300 (bS (Bw l)).2.1 (bS (Bw l)).q=.chk (T (X l<=1073741824)) (.ok (.ret (.vec 0) [.vec zG l])):=kw
def zrN:fD [M (.sl zG)]:=λx h=>match h with
 |[]=>.chk (T (X x.1<=1073741824)) (.ok (.vec 0,[.vec zG x.1]))
 |_=>.err
def zqu:ag:=bf [M (.sl zG)] zrN
theorem zlj:FK 158 zqu:=by
 refine dz TN λx j i a C b=>?_
 unfold zrN at a;split at a
 .simp only[Q8]at a;split at a
  .rename_i d;simp only[bG]at a;subst a;have⟨l,u⟩:=x;refine zI (n0:=0) bM TN b (zsM l) ?_;refine⟨λc=>?_,?_⟩
   .have e:l=[]:=List.isEmpty_iff.1 c;refine Reach.weaken (Q:=λr h=>(r,h)=(.vec 0,[.vec zG []])) (Reach.promNil zG (λid=>b id sw) (zI (n0:=0) bM TN b (znS l) rfl)) ?_;intro r h g;cases g;refine⟨_,?_,λ_ _ _ _ h=>h⟩;show(AV.vec 0,[AO.vec zG []])=(AV.vec 0,[AO.vec zG l]);rw[e]
   .exact zI (n0:=0) bM TN b (znT l) (fW d rfl)
  .cases a
 .simp at a
abbrev By(l:List fB):Tr zR:=run dG 0 MA (Func.results Tryz.f160).toList 300 (bq Tryz.f160) (bg (Func.ntmps Tryz.f160) [.sl (.sl R) l] [])
theorem TP:zY dG.P 160 Tryz.f160 1:=cK kw
theorem zsO(l:List fB):By l=.ok (.fork l.isEmpty (bS (By l)).1 (bS (By l)).2.1 (bS (By l)).q):=kw
theorem znU(l:List fB):run dG 0 MA (Func.results Tryz.f160).toList 300 (bS (By l)).1 (bS (By l)).q=.ok (.ret .nils []):=kw
theorem znV(l:List fB):run dG 0 MA (Func.results Tryz.f160).toList 300 (bS (By l)).2.1 (bS (By l)).q=.chk (T (X l<=1073741824)) (.ok (.ret (.vec 0) [.vec (.sl R) l])):=kw
def zrO:fD [M (.sl (.sl R))]:=λx h=>match h with
 |[]=>.chk (T (X x.1<=1073741824)) (.ok (.vec 0,[.vec (.sl R) x.1]))
 |_=>.err
def zqw:ag:=bf [M (.sl (.sl R))] zrO
theorem zll:FK 160 zqw:=by
 refine dz TP λx j i a C b=>?_
 unfold zrO at a;split at a
 .simp only[Q8]at a;split at a
  .rename_i d;simp only[bG]at a;subst a;have⟨l,u⟩:=x;refine zI (n0:=0) bM TP b (zsO l) ?_;refine⟨λc=>?_,?_⟩
   .have e:l=[]:=List.isEmpty_iff.1 c;refine Reach.weaken (Q:=λr h=>(r,h)=(.vec 0,[.vec (.sl R) []])) (Reach.promNil (.sl R) (λid=>b id sw) (zI (n0:=0) bM TP b (znU l) rfl)) ?_;intro r h g;cases g;refine⟨_,?_,λ_ _ _ _ h=>h⟩;show(AV.vec 0,[AO.vec (Sh.sl R) []])=(AV.vec 0,[AO.vec (Sh.sl R) l]);rw[e]
   .exact zI (n0:=0) bM TP b (znV l) (fW d rfl)
  .cases a
 .simp at a
abbrev Bz(l:zr):Tr zR:=run dG 0 MA (Func.results Tryz.f100).toList 300 (bq Tryz.f100) (bg (Func.ntmps Tryz.f100) [.sl R l] [])
theorem TQ:zY dG.P 100 Tryz.f100 1:=cK kw
theorem zsP(l:zr):Bz l=.ok (.fork l.isEmpty (bS (Bz l)).1 (bS (Bz l)).2.1 (bS (Bz l)).q):=kw
theorem znW(l:zr):run dG 0 MA (Func.results Tryz.f100).toList 300 (bS (Bz l)).1 (bS (Bz l)).q=.ok (.ret .nils []):=kw
theorem znX(l:zr):run dG 0 MA (Func.results Tryz.f100).toList 300 (bS (Bz l)).2.1 (bS (Bz l)).q=.chk (T (X l<=1073741824)) (.ok (.ret (.vec 0) [.vec R l])):=kw
def zrP:fD [M (.sl R)]:=λx h=>match h with
 |[]=>.chk (T (X x.1<=1073741824)) (.ok (.vec 0,[.vec R x.1]))
 |_=>.err
def zjq:ag:=bf [M (.sl R)] zrP
theorem Xp:FK 100 zjq:=by
 refine dz TQ λx j i a C b=>?_
 unfold zrP at a;split at a
 .simp only[Q8]at a;split at a
  .rename_i d;simp only[bG]at a;subst a;have⟨l,u⟩:=x;refine zI (n0:=0) bM TQ b (zsP l) ?_;refine⟨λc=>?_,?_⟩
   .have e:l=[]:=List.isEmpty_iff.1 c;refine Reach.weaken (Q:=λr h=>(r,h)=(.vec 0,[.vec R []])) (Reach.promNil R (λid=>b id sw) (zI (n0:=0) bM TQ b (znW l) rfl)) ?_;intro r h g;cases g;refine⟨_,?_,λ_ _ _ _ h=>h⟩;show(AV.vec 0,[AO.vec R []])=(AV.vec 0,[AO.vec R l]);rw[e]
   .exact zI (n0:=0) bM TQ b (znX l) (fW d rfl)
  .cases a
 .simp at a
def zek:=dG.addL [(157,zqt),(158,zqu),(160,zqw),(100,zjq)]
theorem NF:zw zek:=bM.addL<|fc zli<|fc zlj<|fc zll<|fc Xp jg
def HE(c:zg->Bool):ag:=ac [.expr] [.expr] (λx=>c x.1) λx=>(x.1,())
def H6(c:zg->Bool):cu:=zek.add 159 (HE c)
variable {h:zg->Bool}
theorem yQ(x:FK 159 (HE h)):zw (H6 h):=NF.add x
abbrev ziZ:Nat->aX:=λj=>if j=3 then{slots:=[1,2,10,11]}else{ }
abbrev L0(i h:Int)(j:zJ)(x a:Int)(b c:zJ)(l:List (J Q5)):St:={
 tmps:=
  (tm 26 [(1,ptr 0 0),(2,ptr 1 0),(10,L i),(11,L h)]),
 heap:=
  [Qa [I j,L x,L a,I b,I c,AV.vec 2],
   Qa [I [],L 0,L 0,I [],I [],nils],AO.vec Q5 l]}
theorem TO(c:zg->Bool):zY (H6 c).P 159 Tryz.f159 1:=cK kw
theorem zsN(c:zg->Bool)(o:zJ)(v:V)(s:zJ)(l:List zg):rn (H6 c) 0 ziZ Tryz.f159 [zW Q5 (zg.mk o v s l)] []=
 K (T (X l<=1073741824)) (Tr.ok (zR.head 3 (am Tryz.f159 3) (L0 (X l:Int) 0 o v.1 v.2.1 v.2.2 s l))):=kw
theorem TZ(c:zg->Bool)(h i:Int)(j:zJ)(x a:Int)(b d:zJ)(l:List (Sem Sh.expr)):rh (H6 c) 0 ziZ Tryz.f159 3 (L0 h i j x a b d l)=
 br (T (i<h))
 (chk (zL i (Io l))
  (chk (decide (i.toNat<Io l))
   (chk (c (zt (l.getD i.toNat (zi Sh.expr))))
    (chk (zL i (Io l))
     (chk (decide (i.toNat<Io l))
      (Tr.ok
       (zR.head 3 (am Tryz.f159 3)
        (L0 h (Γ Δ (i+1)) j x a b d
         (l.set i.toNat
          (zt (l.getD i.toNat (Q Q5))))))))))))
 (Tr.ok
  (zR.ret (agg [I j,L x,L a,I b,I d,AV.vec 0]) [AO.vec Q5 l])):=kw
theorem zrT(d:FK 159 (HE h)){C:eW}(c:∀id,C.ρ0 id=none)(o:zJ)(v:V)(s:zJ)(l:List zg)(t:X l<=1073741824)(b:l.all h=O):
  ∀(k i:Nat),X l-i=k->i<=X l->Reach (H6 h) C 159 (am Tryz.f159 3) (L0 (X l) i o v.1 v.2.1 v.q s l) (λr x=>aZ x [.expr] r=M (zg.mk o v s l,())):=by
 intro k
 induction k with
 | zero=>
  intro i p n;obtain rfl:i=X l:=by omega
  refine zI (n0:=0) (yQ d) (TO h) (λid _=>c id) (TZ h _ _ _ _ _ _ _ _) ?_;simp only[zK,Tr.val_brF];rfl
 | succ k e=>
  intro i p n;have a:i<X l:=by omega
  refine zI (n0:=0) (yQ d) (TO h) (λid _=>c id) (TZ h _ _ _ _ _ _ _ _) ?_;have g:h l[i]=O:=eu.1 b _ (bC a);have j:T ((i:Int).toNat<X l)=O:=by simpa using a
  have m:l.set (i:Int).toNat l[i]=l:=by simp
  simp only[zN a,zx a,dq l _ a,zg.eta,Tr.val_brT,Tr.val_chkT,g,j,m,zu i um];exact e (i+1) W W
theorem zmT:zY zek.P 159 Tryz.f159 1:=cK kw
theorem JT:∀n,FK 159 (HE (ol n))
 |0=>ff ⟨Tryz.f159,zmT.1,zmT.2.1,zmT.q.1⟩ (λ_=>rfl)
 | n+1=>by
  have h:FK 159 (HE (ol (n+1))):=by
   refine aV (E:=H6 (ol n)) (TO _) λx a C b=>?_
   have⟨⟨o,v,s,l⟩,u⟩:=x;have a:(T (X l<=1073741824)&&l.all (ol n))=O:=a;simp only[aN,aY]at a;refine zI (n0:=0) (yQ (JT n)) (TO _) (λid _=>b id) (zsN _ o v s l) ?_;refine fW (by simpa using a.1) ?_;exact zrT (JT n) b o v s l a.1 a.2 _ 0 rfl (aG _)
  exact h
def zqv:ag:=HE (ol 16)
theorem zlk:FK 159 zqv:=JT 16
def Td:=zek.add 159 zqv
theorem VR:zw Td:=NF.add zlk
def YS:=zh8.add 100 zjq
theorem QL:zw YS:=VN.add Xp
inductive Xw where
 |h4 (l1:zS) (l2:zr) (l27:zr) (i28:Int) (i29:Int) (z0:zp [CP.d ar]) (z1:zp [CP.d R])
def zeD(x:aA)(h:J zl.sl)(a:J ze.sl):Tr (Xw⊕aw):=
 let b:=(x.1,x.2.1,x.q.1,(x.r.1.1,x.r.1.2.1,x.r.1.q.1,x.r.1.r.1,x.r.1.t.1,zt x.r.1.u),x.t)
 let c:=Wu b h !=0
 let d:=Y h (Z 0) (Q zl)
 K (Jg b h&&bif c then O else zL 0 (X h))
 (br (cond c O ((X a:Int)!=(X d.1.2.1:Int)))
  (re (tup [agg [L 0,L 0,I []],L 1]) [])
  (Q9 (Xw.h4 h a a (X a:Int) 0 (x,()) ((0,0,[]),()))))
def WS:Xw->Tr (Xw⊕aw)
 | .h4 x b l h i z e=>
  let c:=(z.1.1,z.1.2.1,z.1.q.1,(z.1.r.1.1,z.1.r.1.2.1,z.1.r.1.q.1,z.1.r.1.r.1,z.1.r.1.t.1,zt z.1.r.1.u),z.1.t)
  let d:=dC c x
  let a:=b.getD (Z d) (Q R)
  br (T (i<h))
  (K (zL i (X l)) (br (!be (l.getD i.toNat (Q R))) (re (tup [agg [L 0,L 0,I []],L 1]) []) (Q9 (Xw.h4 x b l h (Γ Δ (i+1)) z e))))
  (K (nJ c x) (K (zL d (X b)) (br (a.1==0) (re (tup [agg [L 0,L 0,I []],L 6]) []) (re (tup [agg [L a.1,L a.2.1,I a.q],L 0]) []))))
def zvQ(x:aA)(h:J zl.sl)(a:J ze.sl):=ap [R,zk] WS 100000000 (zeD x h a)
inductive zAf where
 |h6 (i8:zy) (l22:List (J ze.sl)) (i23:Int) (i24:Int) (z0:zp [CP.d R]) (lh_1:List (J ze.sl))
def YT:=YS
theorem QM:zw YT:=QL
def YN:=YT
theorem IB:zw YN:=QM
variable {a b:zq}
theorem vV(h:X a.q<=1000000)(x:X b.q<=1000000):xw a b=O:=by unfold xw;rw[FJ h x];rfl
theorem AR(h:X a.q<=1000000)(x:X b.q<=1000000):CQ a b=aF a b:=by unfold CQ;rw[FJ h x];rfl
theorem zaZ(a b:zq):K5 a b=O:=by unfold K5;rw[OP];rfl
theorem zfm(a b:zq):Ji a b=Hz a b:=by unfold Ji;rw[OP];rfl
theorem zfo(a b:zq):Ub a b=O:=by unfold Ub;rw[Uc];rfl
theorem zn3(a b:zq):WB a b=vOr a b:=by unfold WB;rw[Uc];rfl
theorem za1(a:zq):K8 a=O:=by unfold K8;rw[OS];rfl
theorem zfn(a:zq):Jk a=Cp a:=by unfold Jk;rw[OS];rfl
theorem FN(g:X a.q<=1000000)(i:X b.q<=1000000):rZ a b=M (!fN a b,()):=by
 unfold rZ ap bV;simp only[ziO,Q8,tB g,tB i,xB g,xB i,zj,fN];generalize aj a=x;generalize aj b=y;have⟨k,n,s⟩:=x;have⟨j,m,o⟩:=y;simp only;by_cases h:k=0
 .subst h;rfl
 .have e:(k==0)=S:=by simpa using h
  have l:(k !=0)=O:=by simpa using h
  rw[e,l];by_cases d:j=0
  .subst d;have c:(k==0)=S:=e;simp[c];rfl
  .have c:(j==0)=S:=by simpa using d
   rw[c];rfl
theorem qd(h:X a.q<=1000000)(x:X b.q<=1000000):oW a b=O:=by unfold oW;rw[FN h x];rfl
theorem tw(h:X a.q<=1000000)(x:X b.q<=1000000):tv a b=!fN a b:=by unfold tv;rw[FN h x];rfl
theorem kk(b:Bool):eh b=GV b:=by unfold eh GV;rw[mO,mP]
theorem FG(h:X a.q<=1000000)(x:X b.q<=1000000):rV a b=M (og a b,()):=by unfold rV ap bV;simp only[ziG,Q8,qd h x,tw h x,qc,iZ,zj,og,kk];cases fN a b<;>rfl
theorem RJ(h:X a.q<=1000000)(x:X b.q<=1000000):xt a b=O:=by unfold xt;rw[FG h x];rfl
theorem Wy(h:X a.q<=1000000)(x:X b.q<=1000000):tt a b=og a b:=by unfold tt;rw[FG h x];rfl
theorem M2(h:fN a b=O):be a=O/\be b=O/\a.1=b.1/\a.1≠0/\aj a=a/\aj b=b:=by
 unfold fN aj at h;unfold aj;cases x:be a with
 |false=>simp[x]at h
 | true=>
  cases c:be b with
  | false=>
   simp[x,c]at h
  | true=>
   simp[x,c]at h;exact⟨rfl,rfl,h.2,h.1,sw,sw⟩
theorem Jc(h:be a=O)(x:a.1≠0):(a.1=1/\a.q=[])\/(a.1=2/\a.2.1=0)\/(a.1=3/\a.q=[]):=by
 have⟨k,n,s⟩:=a;unfold be at h;simp only at h x|-;have e0:(k==0)=S:=by simpa using x
 rw[e0]at h;by_cases b:k=1
 .subst b;exact .inl ⟨rfl,by simpa using h⟩
 .have g:(k==1)=S:=by simpa using b
  rw[g]at h;by_cases c:k=2
  .subst c;refine .inr (.inl ⟨rfl,?_⟩);simp at h;exact h.1
  .have i:(k==2)=S:=by simpa using c
   rw[i]at h;by_cases d:k=3
   .subst d;refine .inr (.inr ⟨rfl,?_⟩);cases e:(n==0)with
    |true=>simp[e]at h;exact h
    |false=>simp[e]at h;exact h.2
   .have j:(k==3)=S:=by simpa using d
    rw[j]at h;cases h
theorem zeX(k n a:Int)(s x:zJ)(e:(s=[]/\x=[])\/(n=0/\a=0)):T (Je [ui k k,lq n a,pE s x]<0)=(cond (T (n<a)) O (Op.bytesLess s x)):=by
 simp only[Je,ui,lq,pE];rcases e with⟨rfl,rfl⟩|⟨rfl,rfl⟩
 .rcases DF n a with h|h|h
  .simp[h]
  .subst h;simp[cC]
  .have c:¬n<a:=by omega
   simp[h,c,cC]
 .by_cases d:Op.bytesLess s x=O
  .simp[d]
  .by_cases b:s=x
   .subst b;simp[cC]
   .have c:(s==x)=S:=dX.2 b;simp[d,c]
theorem Jj(p:X a.q<=1000000)(t:X b.q<=1000000):xu a b=M (uY a b,()):=by
 unfold xu ap bV;simp only[ziH,Q8,qd p t,tw p t,qc,iZ,zj,uY,kk];cases o:fN a b with
 |false=>rfl
 | true=>
  have⟨w,y,l,m,z,A⟩:=M2 o;have u:=Jc w m;have v:=Jc y (by rw[<-l];exact m);have⟨k,n,s⟩:=a;have⟨D,x,g⟩:=b;simp only at l m u v;subst l;have B:(s=[]/\g=[])\/(n=0/\x=0):=by
   rcases u with⟨i,c⟩|⟨i,c⟩|⟨i,c⟩<;>rcases v with⟨j,d⟩|⟨j,d⟩|⟨j,d⟩<;>first|exact .inl ⟨c,d⟩|exact .inr ⟨c,d⟩|exact zA (i.symm.trans j) (by decide)
  have C:T (LT.lt (α:=Int) (aF (k,n,s) (k,x,g)) 0)=(cond (T (n<x)) O (Op.bytesLess s g)):=by
   unfold aF;rw[z,A];exact zeX k n x s g B
  rw[C];by_cases h:n<x
  .have e:T (n<x)=O:=zB h;simp only[e];rfl
  .have e:T (n<x)=S:=aB h;simp only[e];rfl
theorem Wz(h:X a.q<=1000000)(x:X b.q<=1000000):CO a b=O:=by unfold CO;rw[Jj h x];rfl
theorem za0(h:X a.q<=1000000)(x:X b.q<=1000000):AQ a b=uY a b:=by unfold AQ;rw[Jj h x];rfl
variable {c:Int}
theorem Wx{l:Int}(a:-9223372036854775808<=c)(b:c<=9223372036854775807)(d:-9223372036854775808<=l)(g:l<=9223372036854775807):
  (cond (T (l>0)) (cond (T (c>Γ Δ (9223372036854775807-l))) O (cond (T (l<0)) (T (c<Γ Δ (-9223372036854775808-l))) S)) (cond (T (l<0)) (T (c<Γ Δ (-9223372036854775808-l))) S))=
  (cond (T (l>0)) (cond (T (Γ Δ (c+l)<c)) O (cond (T (l<0)) (T (Γ Δ (c+l)>c)) S)) (cond (T (l<0)) (T (Γ Δ (c+l)>c)) S)):=by
 rcases DF l 0 with h|h|h
 .have e:T (l>0)=S:=aB W;have x:T (l<0)=O:=zB h;simp only[e,x,aJ,aI];rw[fi,fi];apply oA.2;rw[aY,aY];omega
 .subst h;rfl
 .have e:T (l>0)=O:=zB h;have x:T (l<0)=S:=aB W;simp only[e,x,aJ,aI];have:T (c>Γ Δ (9223372036854775807-l))=T (Γ Δ (c+l)<c):=by
   rw[fi,fi];apply oA.2;rw[aY,aY];omega
  rw[this]
theorem Rw{l:Int}(a:-9223372036854775808<=c)(b:c<=9223372036854775807)(d:-9223372036854775808<=l)(g:l<=9223372036854775807):
  (cond (T (l>0)) (cond (T (c<Γ Δ (-9223372036854775808+l))) O (cond (T (l<0)) (T (c>Γ Δ (9223372036854775807+l))) S)) (cond (T (l<0)) (T (c>Γ Δ (9223372036854775807+l))) S))=
  (cond (T (l>0)) (cond (T (Γ Δ (c-l)>c)) O (cond (T (l<0)) (T (Γ Δ (c-l)<c)) S)) (cond (T (l<0)) (T (Γ Δ (c-l)<c)) S)):=by
 rcases DF l 0 with h|h|h
 .have e:T (l>0)=S:=aB W;have x:T (l<0)=O:=zB h;simp only[e,x,aJ,aI];rw[fi,fi];apply oA.2;rw[aY,aY];omega
 .subst h;rfl
 .have e:T (l>0)=O:=zB h;have x:T (l<0)=S:=aB W;simp only[e,x,aJ,aI];have:T (c<Γ Δ (-9223372036854775808+l))=T (Γ Δ (c-l)>c):=by
   rw[fi,fi];apply oA.2;rw[aY,aY];omega
  rw[this]
theorem Jl(h:mf a)(x:mf b):xy a b=M (qO a b,()):=by
 unfold xy ap bV;simp only[ziI,Q8,qd h.q x.q,tw h.q x.q,zj,qO];rw[Wx h.1 h.2.1 x.1 x.2.1];cases(cond (!fN a b) O (a.1!=1))
 .cases(cond (T (b.2.1>0)) (cond (T (Γ Δ (a.2.1+b.2.1)<a.2.1)) O (cond (T (b.2.1<0)) (T (Γ Δ (a.2.1+b.2.1)>a.2.1)) S)) (cond (T (b.2.1<0)) (T (Γ Δ (a.2.1+b.2.1)>a.2.1)) S))<;>rfl
 .rfl
theorem WC(h:mf a)(x:mf b):CR a b=O:=by unfold CR;rw[Jl h x];rfl
theorem za2(h:mf a)(x:mf b):AS a b=qO a b:=by unfold AS;rw[Jl h x];rfl
theorem FH(h:mf a)(x:mf b):rX a b=M (oh a b,()):=by
 unfold rX ap bV;simp only[ziJ,Q8,qd h.q x.q,tw h.q x.q,zj,oh];rw[Rw h.1 h.2.1 x.1 x.2.1];cases(cond (!fN a b) O (a.1!=1))
 .cases(cond (T (b.2.1>0)) (cond (T (Γ Δ (a.2.1-b.2.1)>a.2.1)) O (cond (T (b.2.1<0)) (T (Γ Δ (a.2.1-b.2.1)<a.2.1)) S)) (cond (T (b.2.1<0)) (T (Γ Δ (a.2.1-b.2.1)<a.2.1)) S))<;>rfl
 .rfl
theorem RK(h:mf a)(x:mf b):xv a b=O:=by unfold xv;rw[FH h x];rfl
theorem WA(h:mf a)(x:mf b):tu a b=oh a b:=by unfold tu;rw[FH h x];rfl
theorem BW(c:Int):pd c=M (bm c,()):=by
 unfold pd ap bV;simp only[ziB,Q8,bm];by_cases h:97<=c
 .have e:T (97<=c)=O:=zB h;have x:T (c<=90)=S:=aB W;have a:T (65<=c)=O:=zB W;simp[e,x,a];rfl
 .have e:T (97<=c)=S:=aB h;simp[e];rfl
theorem si(c:Int):pb c=O:=by unfold pb;rw[BW];rfl
theorem vZ(c:Int):sf c=bm c:=by unfold sf;rw[BW];rfl
theorem F3(c:Int):xJ c=M (aC c,()):=rfl
theorem kf(c:Int):kM c=O:=by unfold kM;rw[F3];rfl
theorem lW(c:Int):lJ c=aC c:=by unfold lJ;rw[F3];rfl
theorem Jv(c:Int):xL c=M (cw c,()):=by unfold xL ap bV;simp only[ziC,Q8,kf,lW,si,vZ,cw];cases aC c<;>cases bm c<;>rfl
theorem AX(c:Int):xK c=O:=by unfold xK;rw[Jv];rfl
theorem F5(c:Int):F4 c=cw c:=by unfold F4;rw[Jv];rfl
theorem Om(p:Int->Bool):∀s:zJ,dR p s=X s↔∀c∈s,p c.toNat=O
 |[]=>by simp[dR]
 | c::r=>by
  have i:=Om p r;rw[dR];by_cases h:p c.toNat=O
  .rw[zf h];simp only[fE,bZ,forall_eq_or_imp];constructor
   .intro x;exact⟨h,i.1 W⟩
   .intro x;rw[i.2 x.2]
  .rw[zh h];simp only[fE,bZ,forall_eq_or_imp];exact⟨λx=>zA x W,λx=>zA x.1 h⟩
theorem On(h:bm c=O):cw c=O:=by unfold cw;rw[h];rfl
theorem W6(s:zJ):sF s=O↔(1<=X s/\X s<=16/\bm (Y s 0 0).toNat=O/\∀c∈s,cw c.toNat=O):=by
 unfold sF;cases s with
 |nil=>simp
 | cons c r=>
  have j:T (((c::r).length:Int)>=1)=O:=zB sg;rw[j];by_cases h:(c::r).length<=16
  .have e:T (((c::r).length:Int)<=16)=O:=zB W;rw[e];simp only[aI];have i:=Om cw r;by_cases b:bm c.toNat=O
   .have g:bH bm cw (c::r)=dR cw r+1:=by rw[bH,zf b]
    rw[g];constructor
    .intro a;have:dR cw r=X r:=by simp at a;omega
     refine⟨sw,h,b,?_⟩;intro x d;rcases bZ.1 d with rfl|d
     .exact On b
     .exact i.1 this x d
    .rintro⟨_,_,_,k⟩;have:=i.2 (λx d=>k x (nc _ d));simp[this]
   .have g:bH bm cw (c::r)=0:=by rw[bH,zh b]
    rw[g];constructor
    .intro a;simp at a;omega
    .rintro⟨_,_,a,_⟩;exact zA a b
  .have e:T (((c::r).length:Int)<=16)=S:=aB W;rw[e];simp only[aI,aJ];exact⟨λh=>(by cases h),λa=>zA a.2.1 h⟩
variable {s:zJ}
theorem Ju(w:X s<=1000000):C9 s=M (eU s,()):=by
 have u:=nL (t:=yi) (Φ:=λr=>r=(.kb S,[])) 1 (λi=>.h2 s (i:Int)) (λi=>cw (Y s i 0).toNat=O) (X s) (by
  intro i a _;have n:(yi (.h2 s (i:Int))).val=if(!cw (Y s i 0).toNat)=O then M (.inr (.kb S,[]))else M (.inl (.h2 s ((i+1:Nat):Int))):=by
   show(yi (.h2 _ _)).val=_;unfold yi;simp only[Q8,zN a,zx a,aH,AX,F5,zj];rw[zu i um]
  by_cases h:cw (Y s i 0).toNat=O
  .exact .inl ⟨h,zH.of (by rw[n,zh (by rw[h];simp)])⟩
  .exact .inr ⟨h,_,zU.of (by rw[n,zf (by simpa using h)]),rfl⟩)
 have a:(ziA s).val=M (.inl (.h2 s ((0:Nat):Int))):=rfl;have m:=aO (l:=s) (d:=0) (Q:=λc=>cw c.toNat=O);have o:=W6 s;rcases u with⟨g,j⟩|⟨g,r,j,rfl⟩
 .refine zz a (j.ends (zU.of (r:=(.bool (eU s),[])) ?_)) W rfl;show(yi (.h2 _ _)).val=_;unfold yi;simp only[Q8,zK,si,vZ];have e:eU s=(cond (T (1<=(X s:Int))) (cond (T ((X s:Int)<=16)) (bm (Y s (Z 0) 0).toNat) S) S):=by
   apply oA.2;unfold eU;rw[o];by_cases k:1<=X s
   .have x:T (1<=(X s:Int))=O:=zB W;rw[x];by_cases p:X s<=16
    .have b:T ((X s:Int)<=16)=O:=zB W;rw[b];exact⟨λh=>h.q.1,λh=>⟨k,p,h,m.1 g⟩⟩
    .have b:T ((X s:Int)<=16)=S:=aB W;rw[b];exact⟨λh=>zA h.2.1 p,λh=>(by cases h)⟩
   .have x:T (1<=(X s:Int))=S:=aB W;rw[x];exact⟨λh=>zA h.1 k,λh=>(by cases h)⟩
  rw[e];by_cases k:1<=X s
  .have e0:zL 0 (X s)=O:=zx (i:=0) W;rw[e0];cases T (1<=(X s:Int))<;>cases T ((X s:Int)<=16)<;>rfl
  .have x:T (1<=(X s:Int))=S:=aB W;rw[x];rfl
 .have e:eU s=S:=by
   cases v:eU s with
   |false=>rfl
   |true=>exact zA (m.2 (o.1 v).r) g
  rw[e];exact zz a j W rfl
theorem AW(h:X s<=1000000):xI s=O:=by unfold xI;rw[Ju h];rfl
theorem F2(h:X s<=1000000):vY s=eU s:=by unfold vY;rw[Ju h];rfl
def A4:List zJ:=match(Zl []).val with
 |some (.inl (.h3 _ l _))=>l
 |_=>[]
theorem zbn:X A4=38:=kw
theorem zbo:(A4.all λw=>(G0.map (·.1)).contains w)=O:=kw
theorem zbp:(G0.all λw=>A4.contains w.1)=O:=kw
theorem Sx:(G0.all λw=>w.2)=O:=kw
theorem UA(s:zJ):∀l:List (zJ×Bool),(l.all λw=>w.2)=O->(Uz s l S=O↔s∈l.map (·.1))
 |[],_=>by simp[Uz]
 | (w,b)::r,h=>by
  simp only[List.all_cons,aN]at h;obtain⟨rfl,h⟩:=h;rw[Uz];by_cases e:(s==w)=O
  .have:s=w:=bX e;rw[zf e];simp[this]
  .rw[zh e,UA s r h];have:s≠w:=λh=>e (by rw[h];simp)
   simp[this]
theorem Ur(s:zJ):kh s=O↔s∈A4:=by
 unfold kh;rw[UA s G0 Sx];constructor
 .intro h;obtain⟨w,x,rfl⟩:=bn.1 h;have:=eu.1 zbp w x;simpa using this
 .intro h;have:=eu.1 zbo s h;simpa using this
theorem Pc(s:zJ):Lz s=M (kh s,()):=by
 have o:=zbn;have n:=nL (t:=GI) (Φ:=λr=>r=(.kb O,[])) 1 (λi=>.h3 s A4 (i:Int)) (λi=>Y A4 i (zi Sh.str)≠s) (X A4) (by
  intro i a _;have k:(GI (.h3 s A4 (i:Int))).val=if(Y A4 i (zi Sh.str)==s)=O then M (.inr (.kb O,[]))else M (.inl (.h3 s A4 ((i+1:Nat):Int))):=by
   show(GI (.h3 _ _ _)).val=_;unfold GI;simp only[Q8,zN a,zx a,aH,zj];rw[zu i um]
  by_cases h:Y A4 i (zi Sh.str)=s
  .exact .inr ⟨λx=>x h,_,zU.of (by rw[k,zf (by rw[h];simp)]),rfl⟩
  .exact .inl ⟨h,zH.of (by rw[k,zh (λx=>h (bX x))])⟩)
 have a:(Zl s).val=M (.inl (.h3 s A4 ((0:Nat):Int))):=rfl;have j:=aO (l:=A4) (d:=zi Sh.str) (Q:=λw=>w≠s);rcases n with⟨c,x⟩|⟨c,r,x,rfl⟩
 .have e:kh s=S:=by
   cases b:kh s with
   |false=>rfl
   |true=>exact zA rfl (j.1 c s ((Ur s).1 b))
  rw[e];refine zz a (x.ends (zU.of (r:=(.kb S,[])) ?_)) W rfl;show(GI (.h3 _ _ _)).val=_;unfold GI;simp only[Q8,zK];rfl
 .have e:kh s=O:=by
   cases b:kh s with
   |true=>rfl
   |false=>exact zA (j.2 λw m g=>by rw[g]at m;rw[(Ur s).2 m]at b;cases b) c
  rw[e];exact zz a x W rfl
theorem Pb(s:zJ):F8 s=O:=by unfold F8;rw[Pc];rfl
theorem Uh(s:zJ):Pa s=kh s:=by unfold Pa;rw[Pc];rfl
theorem Jw(h:X s<=1000000):xN s=M (az s,()):=by unfold xN ap bV;simp only[ztg,Q8,AW h,F2 h,Pb,Uh,az];cases eU s<;>rfl
theorem cF(h:X s<=1000000):eF s=O:=by unfold eF;rw[Jw h];rfl
theorem fT(h:X s<=1000000):cf s=az s:=by unfold cf;rw[Jw h];rfl
mutual
def vd:zg->Prop
 |.mk _ v s l=>mf v/\X s<=1000000/\lC l
def lC:List zg->Prop
 |[]=>True
 |e::r=>vd e/\lC r
end
theorem lC.mem:∀{l:List zg},lC l->∀e∈l,vd e
 |[],_,e,h=>by simp at h
 | x::r,h,e,a=>by
  rw[lC]at h;rcases bZ.1 a with rfl|a
  .exact h.1
  .exact lC.mem h.2 e a
def Hy(o:zJ):Bool:=bif o==jf then O else bif o==wA then O else bif o==[61]then O else bif o==[60]then O else bif o==[43]then O else o==[45]
theorem O0(s:zJ):RP s=M (Hy s,()):=rfl
theorem za4(s:zJ):Lg s=O:=by unfold Lg;rw[O0];rfl
theorem zfp(s:zJ):Ug s=Hy s:=by unfold Ug;rw[O0];rfl
def cY:Nat->zg->Bool
 |0,_=>S
 | d+1,.mk o v s l=>
  if(o==pC)=O then(cond (be v) (cond (s==[]) ((X l:Int)==0) S) S)else
  if(o==fk)=O then(cond (bE v) (cond (eU s) (cond (!kh s) ((X l:Int)==0) S) S) S)else
  if(cond (o==oC) O (o==qE))=O then(cond (bE v) (cond (s==[]) (match l with|[a]=>cY d a|_=>S) S) S)else
  if Hy o=O then(cond (bE v) (cond (s==[]) (match l with|[a,b]=>bif cY d a then cY d b else S|_=>S) S) S)else S
def nE:Nat->zg->Nat
 |0,_=>0
 |d+1,.mk _ _ _ l=>1+(l.map (nE d)).sum
theorem W7(d:Nat)(h:d<=1000):Γ Δ (((d+1:Nat):Int)-1)=(d:Int):=gQ d um
theorem Jp:∀(g d:Nat)(e:zg),d<=12->d<g->vd e->gX g e (d:Int)=M (cY d e,())
 |0,_,_,_,h,_=>zA h W
 | g+1,0,e,_,_,_=>by
  rw[gX];unfold Lf ap bV;rfl
 | g+1,d+1,.mk o v s l,H,P,B=>by
  rw[vd]at B;have⟨A,z,F⟩:=B;have u:∀a∈l,gX g a (d:Int)=M (cY d a,()):=λa y=>Jp g d a W W (F.mem a y)
  rw[gX];unfold Lf ap bV;have G:(((d+1:Nat):Int)==0)=S:=dX.2 W;simp only[Zm,Q8,zo,zg.op,zg.v,zg.s,zg.l,mE A.q,qa A.q,AW z,F2 z,Pb,Uh,za4,zfp,W7 d W,zj,G]
  match l,u with
  | [],_=>
   simp only[cY,bE];rcases zV (o==pC)with k|k
   .rcases zV (be v)with i|i<;>rcases zV (s==[])with j|j<;>(simp only[k,i,j,aI,aJ,zj,zm,zD,eY];rfl)
   rcases zV (o==fk)with m|m
   .rcases zV (bE v)with i|i<;>rcases zV (eU s)with j|j<;>rcases zV (kh s)with n|n<;>(simp only[bE]at i;simp only[k,m,i,j,n,aI,aJ,zj,zm,zD,eY,cj,dp];rfl)
   rcases zV (cond (o==oC) O (o==qE))with p|p
   .rcases zV (bE v)with i|i<;>rcases zV (s==[])with j|j<;>(simp only[bE]at i;simp only[k,m,p,i,j,aI,aJ,zj,zm,zD,eY];rfl)
   rcases zV (Hy o)with t|t
   .rcases zV (bE v)with i|i<;>rcases zV (s==[])with j|j<;>(simp only[bE]at i;simp only[k,m,p,t,i,j,aI,aJ,zj,zm,zD,eY];rfl)
   .simp only[k,m,p,t,zm,zD,eY];rfl
  | [a],u=>
   have y:=u a sw;simp only[cY,bE,show Y [a] (Z 0) (Q Q5)=a from rfl,y,show zL 0 [a].length=O from rfl,dw,show∀x,qf (M (x,()))=x from λ_=>rfl];rcases zV (o==pC)with k|k
   .rcases zV (be v)with i|i<;>rcases zV (s==[])with j|j<;>(simp only[k,i,j,aI,aJ,zj,zm,zD,eY];rfl)
   rcases zV (o==fk)with m|m
   .rcases zV (bE v)with i|i<;>rcases zV (eU s)with j|j<;>rcases zV (kh s)with n|n<;>(simp only[bE]at i;simp only[k,m,i,j,n,aI,aJ,zj,zm,zD,eY,cj,dp];rfl)
   rcases zV (cond (o==oC) O (o==qE))with p|p
   .rcases zV (bE v)with i|i<;>rcases zV (s==[])with j|j<;>rcases zV (cY d a)with n|n<;>(simp only[bE]at i;simp only[k,m,p,i,j,n,aI,aJ,zj,zm,zD,eY];rfl)
   rcases zV (Hy o)with t|t
   .rcases zV (bE v)with i|i<;>rcases zV (s==[])with j|j<;>rcases zV (cY d a)with n|n<;>(simp only[bE]at i;simp only[k,m,p,t,i,j,n,aI,aJ,zj,zm,zD,eY];rfl)
   .simp only[k,m,p,t,zm,zD,eY];rfl
  | [a,b],u=>
   have y:=u a sw;have E:=u b sw;simp only[cY,bE,show Y [a,b] (Z 0) (Q Q5)=a from rfl,show Y [a,b] (Z 1) (Q Q5)=b from rfl,y,E,show zL 0 [a,b].length=O from rfl,show zL 1 [a,b].length=O from rfl,dw,show∀x,qf (M (x,()))=x from λ_=>rfl];rcases zV (o==pC)with k|k
   .rcases zV (be v)with i|i<;>rcases zV (s==[])with j|j<;>(simp only[k,i,j,aI,aJ,zj,zm,zD,eY];rfl)
   rcases zV (o==fk)with m|m
   .rcases zV (bE v)with i|i<;>rcases zV (eU s)with j|j<;>rcases zV (kh s)with n|n<;>(simp only[bE]at i;simp only[k,m,i,j,n,aI,aJ,zj,zm,zD,eY,cj,dp];rfl)
   rcases zV (cond (o==oC) O (o==qE))with p|p
   .rcases zV (bE v)with i|i<;>rcases zV (s==[])with j|j<;>rcases zV (cY d a)with n|n<;>rcases zV (cY d b)with w|w<;>(simp only[bE]at i;simp only[k,m,p,i,j,n,w,aI,aJ,zj,zm,zD,eY];rfl)
   rcases zV (Hy o)with t|t
   .rcases zV (bE v)with i|i<;>rcases zV (s==[])with j|j<;>rcases zV (cY d a)with n|n<;>rcases zV (cY d b)with w|w<;>(simp only[bE]at i;simp only[k,m,p,t,i,j,n,w,aI,aJ,zj,zm,zD,eY];rfl)
   .simp only[k,m,p,t,zm,zD,eY];rfl
  | a::b::c::r,_=>
   have e0:((((a::b::c::r).length:Nat):Int)==0)=S:=dX.2 sg;have C:((((a::b::c::r).length:Nat):Int)==1)=S:=dX.2 sg;have D:((((a::b::c::r).length:Nat):Int)==2)=S:=dX.2 sg;simp only[cY,bE,e0,C,D];rcases zV (o==pC)with k|k
   .rcases zV (be v)with i|i<;>rcases zV (s==[])with j|j<;>(simp only[k,i,j,aI,aJ,zj,zm,zD,eY];rfl)
   rcases zV (o==fk)with m|m
   .rcases zV (bE v)with i|i<;>rcases zV (eU s)with j|j<;>rcases zV (kh s)with n|n<;>(simp only[bE]at i;simp only[k,m,i,j,n,aI,aJ,zj,zm,zD,eY,cj,dp];rfl)
   rcases zV (cond (o==oC) O (o==qE))with p|p
   .rcases zV (bE v)with i|i<;>rcases zV (s==[])with j|j<;>(simp only[bE]at i;simp only[k,m,p,i,j,aI,aJ,zj,zm,zD,eY];rfl)
   rcases zV (Hy o)with t|t
   .rcases zV (bE v)with i|i<;>rcases zV (s==[])with j|j<;>(simp only[bE]at i;simp only[k,m,p,t,i,j,aI,aJ,zj,zm,zD,eY];rfl)
   .simp only[k,m,p,t,aJ,zm,zD,eY];rfl
theorem WX(h:Hy s=O):s=jf\/s=wA\/s=[61]\/s=[60]\/s=[43]\/s=[45]:=by
 unfold Hy at h;rcases zV (s==jf)with c|c
 .exact .inl (bX c)
 rcases zV (s==wA)with x|x
 .exact .inr (.inl (bX x))
 rcases zV (s==[61])with a|a
 .exact .inr (.inr (.inl (bX a)))
 rcases zV (s==[60])with b|b
 .exact .inr (.inr (.inr (.inl (bX b))))
 rcases zV (s==[43])with d|d
 .exact .inr (.inr (.inr (.inr (.inl (bX d)))))
 rcases zV (s==[45])with e|e
 .exact .inr (.inr (.inr (.inr (.inr (bX e)))))
 rw[c,x,a,b,d,e]at h;cases h
inductive Xv (d:Nat):zg->Prop
 |lit (v:Int×Int×zJ) (h:be v=O):Xv d (.mk pC v [] [])
 |col (s:zJ) (h:eU s=O) (h2:kh s=S):Xv d (.mk fk (0,0,[]) s [])
 |one (op:zJ) (a:zg) (h:op=oC\/op=qE) (ha:cY d a=O):Xv d (.mk op (0,0,[]) [] [a])
 |two (op:zJ) (a b:zg) (h:op=jf\/op=wA\/op=[61]\/op=[60]\/op=[43]\/op=[45]) (ha:cY d a=O) (hb:cY d b=O):Xv d (.mk op (0,0,[]) [] [a,b])
theorem EY{k:Int×Int×zJ}(h:bE k=O):k=(0,0,[]):=by have⟨a,b,c⟩:=k;unfold bE at h;simp at h;obtain⟨rfl,rfl,rfl⟩:=h;rfl
theorem dd{a b:Bool}(h:(cond a b S)=O):a=O/\b=O:=by cases a<;>cases b<;>simp_all
theorem Wp(h:(cond (s==oC) O (s==qE))=O):s=oC\/s=qE:=by
 rcases zV (s==oC)with k|k
 .exact .inl (bX k)
 .rw[k]at h;exact .inr (bX h)
theorem gJ:∀{e:zg},cY (n+1) e=O->Xv n e
 | .mk o v s [],h=>by
  simp only[cY]at h;split at h
  next c=>have⟨g,i⟩:=dd h;have⟨j,k⟩:=dd i;rw[bX c,bX j];exact .lit v g
  split at h
  next c=>have⟨g,i⟩:=dd h;have⟨j,k⟩:=dd i;have⟨m,t⟩:=dd k;rw[bX c,EY g];exact .col s j (by simpa using m)
  split at h
  .cases x:bE v<;>cases d:(s==[])<;>simp[x,d]at h
  split at h
  .cases x:bE v<;>cases d:(s==[])<;>simp[x,d]at h
  .cases h
 | .mk o v s [a],h=>by
  simp only[cY]at h;split at h
  .cases x:be v<;>cases d:(s==[])<;>simp[x,d]at h
  split at h
  .cases x:bE v<;>cases d:eU s<;>cases l:kh s<;>simp[x,d,l]at h
  split at h
  next c=>have⟨g,i⟩:=dd h;have⟨j,k⟩:=dd i;rw[bX j,EY g];exact .one o a (Wp c) k
  split at h
  .cases x:bE v<;>cases d:(s==[])<;>simp[x,d]at h
  .cases h
 | .mk o v s [a,b],h=>by
  simp only[cY]at h;split at h
  .cases x:be v<;>cases d:(s==[])<;>simp[x,d]at h
  split at h
  .cases x:bE v<;>cases d:eU s<;>cases l:kh s<;>simp[x,d,l]at h
  split at h
  .cases x:bE v<;>cases d:(s==[])<;>simp[x,d]at h
  split at h
  next c=>have⟨g,i⟩:=dd h;have⟨j,k⟩:=dd i;have⟨p,q⟩:=dd k;rw[bX j,EY g];exact .two o a b (WX c) p q
  .cases h
 | .mk o v s (a::b::c::r),h=>by
  have e0:((((a::b::c::r).length:Nat):Int)==0)=S:=dX.2 sg;simp only[cY,e0]at h;split at h
  .cases x:be v<;>cases d:(s==[])<;>simp[x,d]at h
  split at h
  .cases x:bE v<;>cases d:eU s<;>cases l:kh s<;>simp[x,d,l]at h
  split at h
  .cases x:bE v<;>cases d:(s==[])<;>simp[x,d]at h
  split at h
  .cases x:bE v<;>cases d:(s==[])<;>simp[x,d]at h
  .cases h
theorem uO:∀(d:Nat)(e:zg),cY d e=O->nE d e+1<=2^d
 |0,_,h=>by cases h
 | d+1,e,h=>by
  have c:0<2^d:=Nat.two_pow_pos d;cases gJ h with
  |lit v h=>simp[nE,pt];omega
  |col s h c=>simp[nE,pt];omega
  |one o a h x=>have:=uO d a x;simp[nE,pt];omega
  |two o a b h x g=>have:=uO d a x;have:=uO d b g;simp[nE,pt];omega
theorem znw{e:zg}(h:cY n e=O):1<=nE n e:=by
 cases n with
 |zero=>cases h
 | succ n=>
  have⟨o,v,s,l⟩:=e;rw[nE];omega
theorem zb3(h:n<=1000000):Γ Δ (n:Int)=(n:Int):=by rw[fi];omega
theorem qh:∀(x d:Nat)(e:zg),d<=12->d<=x->cY d e=O->di x e=M ((nE d e:Int),())
 |_,0,_,_,_,h=>by cases h
 |0,d+1,_,_,h,_=>zA h W
 | x+1,d+1,e,E,y,h=>by
  have F:2^(d+1)<=2^12:=HR W W;have z:=uO (d+1) e h
  have c:∀(e:zg)(i:Nat)(n k:Nat)(q:i<(zg.l e).length),di x (zg.l e)[i]=M ((k:Int),())->n+k<=1000000->i<=1000->
    (JJ (λj=>jz (di x j)) (λj=>(di x j).isSome) (.h3 (n:Int) (i:Int) (e,()))).val=M (.inl (.h3 ((n+k:Nat):Int) ((i+1:Nat):Int) (e,()))):=by
   intro e i n k q A B G;have w:Y (zg.l e) (i:Int).toNat (Q Q5)=(zg.l e)[i]:=zX _ _ q;simp only[JJ,Me,GJ,Q8,w,zo,A,zN q,zx q,dw,zj];show M (Sum.inl (wk.h3 (Γ Δ ((n:Int)+(k:Int))) _ _))=_;rw[zu i um,<-wn,zb3 B]
  have g:∀(e:zg)(n:Nat),(JJ (λj=>jz (di x j)) (λj=>(di x j).isSome) (.h3 (n:Int) ((zg.l e).length:Int) (e,()))).val=M (.inr (L n,[])):=by
   intro e n;simp only[JJ,Me,GJ,Q8,zK];rfl
  have m:∀e,(Zn (λj=>jz (di x j)) (λj=>(di x j).isSome) e).val=M (.inl (.h3 ((1:Nat):Int) ((0:Nat):Int) (e,()))):=λ_=>rfl
  rw[di];unfold OZ;cases gJ h with
  |lit v h=>exact zz (m _) (zU.of (g _ 1)) W rfl
  |col s h y=>exact zz (m _) (zU.of (g _ 1)) W rfl
  | one o a h p=>
   have t:=qh x d a W W p;have C:=uO d a p;have D:2^d<=2^12:=HR W W;refine zz (m _) ((zH.of (c (.mk o (0,0,[]) [] [a]) 0 1 (nE d a) (by simp[zg.l]) t W W)).ends (zU.of (g (.mk o (0,0,[]) [] [a]) _))) W ?_;simp[nE];rfl
  | two o a b h p u=>
   have t:=qh x d a W W p;have kb:=qh x d b W W u;have C:=uO d a p;have H:=uO d b u;have D:2^d<=2^12:=HR W W;refine zz (m _) ((zH.of (c (.mk o (0,0,[]) [] [a,b]) 0 1 (nE d a) (by simp[zg.l]) t W W)).ends ((zH.of (c (.mk o (0,0,[]) [] [a,b]) 1 (1+nE d a) (nE d b) (by simp[zg.l]) kb W W)).ends (zU.of (g (.mk o (0,0,[]) [] [a,b]) _)))) W ?_;simp[nE,Nat.add_assoc];rfl
theorem tk:∀(x k:Nat)(e:zg)(n:Nat),k<=12->k<=x->cY k e=O->n+nE k e<=60->jh x e ((13:Int)-k) n=(O,((n+nE k e:Nat):Int))
 |_,0,_,_,_,_,h,_=>by cases h
 |0,k+1,_,_,_,h,_,_=>zA h W
 | x+1,k+1,e,n,C,m,h,p=>by
  rw[jh];unfold Cj;have B:Γ Δ ((n:Int)+1)=((n+1:Nat):Int):=zu n um;have w:Γ Δ ((13:Int)-((k+1:Nat):Int)+1)=(13:Int)-(k:Int):=by rw[fi];omega
  have t:T ((13:Int)-((k+1:Nat):Int)>12)=S:=aB W;have q:=znw h;have u:T (((n+1:Nat):Int)>60)=S:=aB W;rw[B,t,u];cases gJ h with
  |lit v z=>simp[zg.op,zg.l,zg.s,zg.v,dU,BT,Uz,z,nE]
  |col s A m=>simp[zg.op,zg.l,zg.s,zg.v,dU,BT,Uz,A,m,nE,bE]
  | one o a g c=>
   have d:n+1+nE k a<=60:=by simp[nE]at p;omega
   have j:=tk x k a (n+1) W W c d;have i:((n+nE (k+1) (.mk o (0,0,[]) [] [a]):Nat):Int)=((n+1+nE k a:Nat):Int):=by simp[nE];omega
   rw[i]
   push_cast at*
   rcases g with rfl|rfl<;>simp[zg.op,zg.l,zg.s,zg.v,dU,BT,Uz,bE,qU,w,j]
  | two o a b g c y=>
   have d:n+1+nE k a+nE k b<=60:=by simp[nE]at p;omega
   have j:=tk x k a (n+1) W W c W;have kb:=tk x k b (n+1+nE k a) W W y d;have i:((n+nE (k+1) (.mk o (0,0,[]) [] [a,b]):Nat):Int)=((n+1+nE k a+nE k b:Nat):Int):=by simp[nE];omega
   rw[i]
   push_cast at*
   rcases g with rfl|rfl|rfl|rfl|rfl|rfl<;>simp[zg.op,zg.l,zg.s,zg.v,dU,BT,Uz,bE,qU,w,j,kb]
end
end Cad
