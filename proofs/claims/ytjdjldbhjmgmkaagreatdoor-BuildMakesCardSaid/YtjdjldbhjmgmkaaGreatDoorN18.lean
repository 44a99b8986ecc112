/- Units. -/
import Derived.Test.YtjdjldbhjmgmkaaGreatDoorN17
import Derived.Lib.AppendZerosOnto
namespace Cad
open Go Go.Proofs Go.Sort Tryz
open List renaming length->Io,length->N
open IntKind renaming wrap->Γ,i64->Δ
open AV renaming ptr->Qf,nils->Qb
open Tr renaming «to»->Q9,val->Q8,chk->I
open AO renaming box->Qa
open Sh renaming bool->Q7,expr->Q5
open Bool renaming false->M,true->Z,true->Q3
open Option renaming none->Q2,some->Y
open Decidable renaming decide->K
open Int renaming toNat->W
open List renaming getD->T
open Tr (chk br re)
open AV (nils agg tup ptr kb)
open AV renaming sl->O,str->X
open Cad renaming zj->Q,ze->R,ow->S,Sem->L,ai->J
set_option maxHeartbeats 4000000
noncomputable section
variable {x:FuncId}{m:Nat}{keep:Nat->aY}
theorem GM{d:Type}{E:cy}{C:eU}{f:Func}{Q:AV->List AO->Prop}{n0:Nat}(j:zx E)(k:aa E.P x f m)(c:∀id,n0<=id->C.ρ0 id=Q2){g:Nat}{e:d->Nat×St}{K:List Item}{b:St}{i:Tr (d⊕ay)}
  (a:run E n0 keep f.results.toList g K b=i.map (lf f e)) {s:d} (n:i.val=Y (.inl s)) (h:Reach E C x (aq f (e s).1) (e s).2 Q):Reach E C x K b Q:=
 pm j k c (l:=lf f e (.inl s)) (by rw[a,Tr.val_map,n];rfl) h
def nh(a:zY)(x:zT):zr:=(T x 0 (Q zl)).2.map λh:zr=>T h (W (dt a x)) (Q R)
def Kk(a:zY)(x:zT):Bool:=lM a x&&(zK 0 (N x)&&(K (N (T x 0 (Q zl)).2<=1000)&&List.all (T x 0 (Q zl)).2 λh:zr=>zK (dt a x) (N h)&&bg (T h (W (dt a x)) (Q R))))
def cD(x:zY)(h:zT):zr:=jk (nh x h)
def zqg:=af [zZ,zl.sl] [ze.sl] (λx=>Kk x.1 x.2.1) λx=>(cD x.1 x.2.1,())
theorem Kq{k:Int×Int×zN}{n:Int}:∀{es:List ((Int×Int×zN)×Int)},(lN es k n).map (·.1)=if k∈es.map (·.1)then es.map (·.1)else es.map (·.1)++[k]
 |[]=>rfl
 | p::r=>by
  show(cond (k==p.1) ((k,n)::r) (p::lN r k n)).map (·.1)=_;by_cases h:k=p.1
  .simp[h]
  .have a:(k==p.1)=M:=by simpa using h
   rw[a,aJ,er,Kq (es:=r),er];by_cases x:k∈r.map (·.1)
   .rw[zf x,zf (by simp only[ce];exact .inr x)]
   .rw[zh x,zh (by simp only[ce];exact λe=>e.elim h x)];rfl
theorem zfh{h:zY}{x:zT}(a:lM h x=Z)(b:zK 0 (N x)=Z):(znk h x).val=Y (.inl (.h4 (dt h x) (T x 0 (Q zl)).2 (N (T x 0 (Q zl)).2:Int) 0 [])):=by unfold znk;simp only[zn];show(I (lM h x) (I (zK 0 (N x)) _)).val=_;rw[a,b];rfl
theorem zkY:FK 32 zqg:=by
 refine bb (E:=BV) (f:=f32) (cM kw) λx y C B=>?_
 have⟨l,g,u⟩:=x;have hf:aa BV.P 32 f32 2:=cM kw;have F:∀x,run BV 0 zjA f32.results.toList 400 (bv f32) (bl f32.ntmps (jj [Y zZ,Y zl.sl] x) [])=(znk x.1 x.2.1).map (lf f32 Rf):=by intro x;kernel_rfl
 have H:∀s,run BV 0 zjA f32.results.toList 400 (aq f32 (Rf s).1) (Rf s).2=(zwN s).map (lf f32 Rf):=by intro s;cases s<;>kernel_rfl
 simp only[Kk,aO,bc,ep]at y;have⟨h1,h2,h3,A⟩:=y;generalize q:(T g 0 (Q zl)).2=c at h3 A;refine GM AF hf (λid _=>B id) (F (l,g,u)) (zfh h1 h2) ?_;rw[q]
 have U:∀(m i:Nat)(j:List ((Int×Int×zN)×Int)),N c-i=m->i<=N c->(j.map (·.1)).Nodup->N j<=i->(∀x,x∈j.map (·.1)↔x∈(c.take i).map λt:zr=>T t (W (dt l g)) (Q R))->
   Reach BV C 32 (aq f32 (Rf (.h4 (dt l g) c (N c) i j)).1) (Rf (.h4 (dt l g) c (N c) i j)).2 λr h=>aX h [ze.sl] r=Y (cD l g,()):=by
  intro m
  induction m with
  | zero=>
   intro i j hm hi z hl d;obtain rfl:i=N c:=by omega
   rw[eF]at d;have o:∀x,x∈(c.map λt:zr=>T t (W (dt l g)) (Q R))->bg x=Z:=λx y=>by
    obtain⟨t,hr,rfl⟩:=bt.1 y;exact(A t hr).2
   have:=zf7 (E:=BV) rfl B j S z (λp hp=>o _ ((d _).1 (bt.2 ⟨p,hp,rfl⟩))) (dt l g) c (N c);have e:cD l g=jk (j.map (·.1)):=by
    unfold cD nh;rw[q];exact vD o (λx y=>o x ((d x).1 y)) λx _=>(d x).symm
   rw[e];exact this
  | succ m ih=>
   intro i j hm hi z hl d;have v:i<N c:=by omega
   have D:=A c[i] (bh v);have G:=Kq (k:=T c[i] (W (dt l g)) (Q R)) (n:=0) (es:=j);refine GM AF hf (λid _=>B id) (H (.h4 (dt l g) c (N c) i j)) (s:=.h4 (dt l g) c (N c) ((i+1:Nat):Int) (lN j (T c[i] (W (dt l g)) (Q R)) 0)) ?_ (ih (i+1) _ S S ?_ ?_ ?_)
   .have e1:K ((i:Int)<(N c:Int))=Z:=by simpa using v
    have e2:zK (i:Int) (N c)=Z:=by simp[zK];omega
    have e3:Γ Δ ((i:Int)+1)=((i+1:Nat):Int):=by
     exact zt i um
    have e4:T c (W (i:Int)) (Q ze.sl)=c[i]:=zP c _ v;simp only[zwN,e1,e2,e3,e4,D.1,Q8,zi]
   .rw[G];split
    .exact z
    next w=>exact List.nodup_append.2 ⟨z,sw,λa ha b hb e=>w (by rw[fb]at hb;rw[<-hb,<-e];exact ha)⟩
   .have:=congrArg N G;simp only[cY]at this;rw[this];split
    .simp;omega
    .simp;omega
   .intro x;rw[G,List.take_succ_eq_append_getElem v,gm,dl,<-d x];simp only[er,oG,fb];split
    next w=>exact⟨.inl,λh=>h.elim id λe=>e▸w⟩
    .rw[dl,fb]
 exact U (N c) 0 [] S S sw sw sw
def ziT:=BV.add 32 zqg
theorem tj:zx ziT:=AF.add zkY
open Go Go.Proofs
def ztI(x:zY)(h:L zl.sl):Tr (Empty⊕ay):=
 let a:=(x.1,x.2.1,x.q.1,(x.r.1.1,x.r.1.2.1,x.r.1.q.1,x.r.1.r.1,x.r.1.t.1,zw x.r.1.u),x.t)
 I (F2 a h)
 (br (R7 a h !=0) (re (tup [Qb,J 1]) [])
  (I (Kk a h) (re (tup [O R (cD a h),J 0]) [])))
def M2(x:zY)(h:L zl.sl):=am [ze.sl,zk] t0 100000000 (ztI x h)
def SY(x:zY)(h:L zl.sl):=(M2 x h).isSome
def zct(x:zY)(h:L zl.sl):=o2 (M2 x h)
def zpy:=FT [zZ,zl.sl] [ze.sl,zk] λx=>M2 x.1 x.2.1
theorem zkd:FK 12 zpy:=tj.T1 (f:=f12) (keep:=k0) (e:=e0)
def zni(x:zY)(b:L zl.sl):Tr (Empty⊕ay):=
 let a:=(x.1,x.2.1,x.q.1,(x.r.1.1,x.r.1.2.1,x.r.1.q.1,x.r.1.r.1,x.r.1.t.1,zw x.r.1.u),x.t)
 let h:=zbt a b
 I (Sc a b)
 (re
  (tup [agg ([X x.1,X x.2.1,X x.q.1,X x.r.1.1,O zp x.r.1.2.1,J x.r.1.q.1,O zk x.r.1.r.1,O zI x.r.1.t.1]++xE x.r.1.u++[O zk x.t.1,J x.u]),O zl h.1,AV.bool h.2])
  [])
def C3(x:zY)(h:L zl.sl):=am [zZ,zl.sl,Q7] t0 100000000 (zni x h)
def Lh(x:zY)(h:L zl.sl):=(C3 x h).isSome
def RX(x:zY)(h:L zl.sl):=o3 (C3 x h)
def zp9:=FT [zZ,zl.sl] [zZ,zl.sl,Q7] λx=>C3 x.1 x.2.1
theorem zkQ:FK 28 zp9:=tj.T1 (f:=f28) (keep:=k0) (e:=e0)
abbrev zuw:=kr [(3,[0,3,4])]
inductive QC where
 |h3 (l0:ea) (i4:Int) (ja0:List UInt8) (ja1:aZ) (ja2:Int) (ja5:List UInt8) (ja6:Int) (ja7:Int) (ja8:List UInt8) (ja9:List UInt8)
 |h3b (l0:ea) (i4:Int) (ja0:List UInt8) (ja1:aZ) (ja2:Int) (ja5:List UInt8) (ja6:Int) (ja7:Int) (ja8:List UInt8) (ja9:List UInt8) (lh_1:List (L ze.sl))
abbrev zxA:QC->Nat×St
 |.h3 g i j h x a b c d e=>(3,⟨tm 31 [(0,O zk g),(3,Qf 0 0),(4,J i)],[Qa [X j,O zp h,J x,Qb,Qb,X a,J b,J c,X d,X e,Qb,Qb]]⟩)
 |.h3b g i j h x a b c d e l=>(3,⟨tm 31 [(0,O zk g),(3,Qf 0 0),(4,J i)],[Qa [X j,O zp h,J x,Qb,Qb,X a,J b,J c,X d,X e,Qb,AV.vec 1],AO.vec ze.sl l]⟩)
def zzb(x:L zk.sl):Tr (QC⊕ay):=
 Q9 (QC.h3 x 0 [118] [([110],1,Z),([114],1,M)] 0 [] 0 0 [] [])
def zzR:QC->Tr (QC⊕ay)
 | .h3 g i j h x a b c d e=>
  let k:=[[(1,i,[]),(1,g.getD i.toNat (Q zk),[])]]
  br (K (i<(N g:Int)))
  (I (zK i (N g)) (I (K (N k<=1073741824)) (Q9 (QC.h3b g (Γ Δ (i+1)) j h x a b c d e k))))
  (re (O zl [((j,h,x,[],[],zg.mk a (b,c,d) e []),[])]) [])
 | .h3b g i j h x a b c d e l=>
  let k:=[[(1,i,[]),(1,g.getD i.toNat (Q zk),[])]]
  br (K (i<(N g:Int)))
  (I (zK i (N g)) (I (K (N l+N k<=1073741824)) (Q9 (QC.h3b g (Γ Δ (i+1)) j h x a b c d e (l++k)))))
  (re (O zl [((j,h,x,[],[],zg.mk a (b,c,d) e []),l)]) [])
def zoa(x:L zk.sl):=am [zl.sl] zzR 100000000 (zzb x)
def zqc:=FT [zk.sl] [zl.sl] λx=>zoa x.1
theorem zkT:FK 30 zqc:=tj.T1 (f:=f30) (keep:=zuw) (e:=zxA)
def ziW:=ziT.addL [(12,zpy),(28,zp9),(30,zqc)]
theorem Jf:zx ziW:=tj.addL<|fc zkd<|fc zkQ<|fc zkT<|iP
def i7u(d:L zl.sl)(b:zS):Tr (Empty⊕ay):=
 let e:=(b.1,b.2.1,b.q.1,b.r.1,b.t.1,b.u.1,b.v.1,b.w.1,zw b.x.1,b.y.1,b.z.1,zw b.s.1,b.p)
 let a:=T2 e
 let g:=(a.1,a.2.1,a.q.1,a.r.1,a.t.1,a.u.1,a.v.1,a.w.1,zw a.x.1,a.y.1,a.z.1,zw a.s.1,a.p)
 let c:=UD (Fz d) g
 let i:=(c.1.1,c.1.2.1,c.1.q.1,(c.1.r.1.1,c.1.r.1.2.1,c.1.r.1.q.1,c.1.r.1.r.1,c.1.r.1.t.1,zw c.1.r.1.u),c.1.t)
 let h:=RX i (Fz d)
 I (Lg d)
 (I (Lf e)
  (I (LB (Fz d) g) (br (c.2!=0) (re (tup [zPl,Qb,kb M]) []) (I (Lh i (Fz d)) (re (tup [agg ([X h.1.1,X h.1.2.1,X h.1.q.1,X h.1.r.1.1,O zp h.1.r.1.2.1,J h.1.r.1.q.1,O zk h.1.r.1.r.1,O zI h.1.r.1.t.1]++xE h.1.r.1.u++[O zk h.1.t.1,J h.1.u]),O zl h.2.1,AV.bool h.q]) [])))))
def oV(x:L zl.sl)(h:zS):=am [zZ,zl.sl,Q7] t0 100000000 (i7u x h)
def AX(x:L zl.sl)(h:zS):=(oV x h).isSome
def FB(x:L zl.sl)(h:zS):=o3 (oV x h)
def F7u:=FT [zl.sl,aB] [zZ,zl.sl,Q7] λx=>oV x.1 x.2.1
theorem zsi:FK 8 F7u:=Jf.T1 (f:=f8) (keep:=k0) (e:=e0)
def TE:=ziW.add 8 F7u
theorem AG:zx TE:=Jf.add zsi
def KZ:cy:={TE with sh:=λt=>if t=2 then Y (.int .i64)else TE.sh t}
theorem pN:zx KZ where
 sh:=λt e h=>by
  have x:(ite (t=2) (Y (.int .i64)) (TE.sh t))=Y e:=h;split at x
  next a=>subst a;cases x;exact P6 kw
  .exact AG.sh t e x
 fs:=AG.fs
 mix:=AG.mix
def zqR:ak:=bj (List.replicate 1 Q2) (ff KZ f93 (List.replicate 1 Q2))
theorem zlD:FK 93 zqR:=cr _ pN (cM kw)
def zqW:ak:=bj (List.replicate 3 Q2) (ff KZ f118 (List.replicate 3 Q2))
theorem zlI:FK 118 zqW:=cr _ pN (cM kw)
inductive X2 where
 |h2 (l0:zr) (i7:Int) (i8:Int) (z0:zq [CP.d R])
def zt9(x:L ze.sl)(h:zo):Tr (X2⊕ay):=
 Q9 (X2.h2 x (N x:Int) 0 (h,()))
def Xu:X2->Tr (X2⊕ay)
 | .h2 l h i z=>
  let a:=l.getD i.toNat (Q R)
  br (K (i<h))
  (I (zK i (N l)) (br (z.1.1==a.1&&(z.1.2.1==a.2.1&&(z.1.q==a.q&&Z))) (re (J i) []) (Q9 (X2.h2 l h (Γ Δ (i+1)) z))))
  (re (J (-1)) [])
def zcy(x:L ze.sl)(h:zo):=am [zk] Xu 100000000 (zt9 x h)
def zcx(x:L ze.sl)(h:zo):=(zcy x h).isSome
def zpc(x:L ze.sl)(h:zo):=o1 (zcy x h)
abbrev zum:=kr [(4,[0,1,5])]
inductive Vq where
 |h4 (l0:zr) (l1:zr) (i5:Int)
abbrev zxs:Vq->Nat×St
 |.h4 l h i=>(4,⟨tm 26 [(0,O R l),(1,O R h),(5,J i)],[]⟩)
def zfe(x h:L ze.sl):Tr (Vq⊕ay):=
 br ((N x:Int)!=(N h:Int)) (re (kb M) []) (Q9 (Vq.h4 x h 0))
def Xr:Vq->Tr (Vq⊕ay)
 | .h4 l x i=>
  let a:=l.getD i.toNat (Q R)
  let h:=x.getD i.toNat (Q R)
  br (K (i<(N l:Int)))
  (I (zK i (N l)) (I (zK i (N x)) (br (!(a.1==h.1&&(a.2.1==h.2.1&&(a.q==h.q&&Z)))) (re (kb M) []) (Q9 (Vq.h4 l x (Γ Δ (i+1)))))))
  (re (kb Z) [])
def Dd(x h:L ze.sl):=am [Q7] Xr 100000000 (zfe x h)
def LO(x h:L ze.sl):=(Dd x h).isSome
def Si(x h:L ze.sl):=o1 (Dd x h)
def zpW:=FT [ze.sl,ze.sl] [Q7] λx=>Dd x.1 x.2.1
theorem zkz:FK 46 zpW:=pN.T1 (f:=f46) (keep:=zum) (e:=zxs)
def EZ:=KZ.addL [(93,zqR),(118,zqW),(46,zpW)]
theorem vS:zx EZ:=pN.addL<|fc zlD<|fc zlI<|fc zkz<|iP
abbrev DB(c a b:Int)(s:zN)(l:List fy)(i:Int):St:={tmps:=[.sl (Sh.sl R) l,.clo (.func 118) [] [.ptr 0 0,.ptr 1 0],.any,.any,.any,.any,.any,J (N l),J i,.any,.any,.any,.any,.any,.any,.any,.any,.any,.any],heap:=[.box [J c],.box [J a,J b,.str s]]}
theorem ZH(c a b:Int)(s:zN)(l:List fy):run EZ 2 CF f117.results.toList 300 (bv f117) (bl f117.ntmps [.sl (Sh.sl R) l,.clo (.func 118) [] [.ptr 0 0,.ptr 1 0]] [.box [J c],.box [J a,J b,.str s]])=.ok (.head 2 (aq f117 2) (DB c a b s l 0)):=kw
theorem za4(c a b:Int)(s:zN)(l:List fy)(i:Int):run EZ 2 CF f117.results.toList 300 (aq f117 2) (DB c a b s l i)=pY (K:=aq f117 2) (e:=(Sh.sl R)) l (λx=>bG x c (a,b,s)) (DB c a b s l) [.box [J c],.box [J a,J b,.str s]] i:=kw
theorem zaW:aa EZ.P 117 f117 2:=by refine⟨?_,?_,?_,?_⟩<;>kernel_rfl
def zsB:fA [Y (.sl (Sh.sl R)),Q2]:=λx h=>match x,h with
 |(l,.clo (.func 118) [] [.ptr 0 0,.ptr 1 0],_),[.box [J c],.box [J a,J b,.str s]]=>.ok (J (al (λx=>bG x c (a,b,s)) l 0),[.box [J c],.box [J a,J b,.str s]])
 |_,_=>.err
def zqT:ak:=bj [Y (.sl (Sh.sl R)),Q2] zsB
theorem zlF:FK 117 zqT:=by
 refine dA zaW λx i g h C d=>?_
 unfold zsB at h;split at h
 .rename_i l u c a b s;simp only[Tr.val_ok,bH]at h;subst h;refine Reach.len 0 (Sh.sl R) l rfl λe=>?_
  refine zL (n0:=2) vS zaW d (ZH c a b s l) ?_;exact lZ l (λx=>bG x c (a,b,s)) (DB c a b s l) vS zaW d (za4 c a b s l) e _ 0 rfl (aK _)
 .simp at h
def zt2(x:L ze.sl)(h:zo):Tr (Empty⊕ay):=
 I (zcx x h) (re (AV.bool (K (zpc x h>=0))) [])
def zcw(x:L ze.sl)(h:zo):=am [Q7] t0 100000000 (zt2 x h)
def Qq(x:L ze.sl)(h:zo):=(zcw x h).isSome
def H4(x:L ze.sl)(h:zo):=o1 (zcw x h)
def Zp:=EZ.addL [(117,zqT)]
theorem E1:zx Zp:=vS.addL<|fc zlF<|iP
def zt1(h:ag)(a:zo):Tr (Empty⊕ay):=
 br (!dI (h.1.1,h.1.2.1,h.1.q.1,h.1.r.1,h.1.t.1,zw h.1.u))
 (re (J (al (λx=>bG x (-1) a) h.2 0)) [])
 (re (J (al (λx=>bG x h.1.q.1 a) h.2 0)) [])
def Mm(x:ag)(h:zo):=am [zk] t0 100000000 (zt1 x h)
def Ml(x:ag)(h:zo):=(Mm x h).isSome
def UN(x:ag)(h:zo):=o1 (Mm x h)
def zqp:=FT [zl,R] [zk] λx=>Mm x.1 x.2.1
theorem zk7:FK 51 zqp:=E1.T1 (f:=f51) (keep:=k0) (e:=e0)
def Zq:=Zp.add 51 zqp
theorem Ru:zx Zq:=E1.add zk7
def WB(x:zY)(b:L zl.sl)(h:zo):Tr (Empty⊕ay):=
 let d:=(x.1,x.2.1,x.q.1,(x.r.1.1,x.r.1.2.1,x.r.1.q.1,x.r.1.r.1,x.r.1.t.1,zw x.r.1.u),x.t)
 let i:=zK 0 (N b)
 let a:=T b (W 0) (Q zl)
 let j:=((a.1.1,a.1.2.1,a.1.q.1,a.1.r.1,a.1.t.1,zw a.1.u),a.2)
 let g:=UN j h
 let k:=T a.2 (W g) (Q ze.sl)
 let l:=Kk d b
 let e:=cD d b
 let c:=T k (W x.u) (Q R)
 I (F2 d b)
 (br (R7 d b !=0) (re (tup [agg [J 0,J 0,X []],J 1]) [])
  (br (x.1==fD) (I i (I (Ml j h) (br (K (g<0)) (re (tup [agg [J 0,J 0,X []],J 6]) []) (I i (I (zK g (N a.2)) (I (zK x.u (N k)) (I l (I (Qq e c)
  (br (!H4 e c) (re (tup [agg [J 0,J 0,X []],J 6]) []) (re (tup [agg [J c.1,J c.2.1,X c.q],J 0]) [])))))))))) (I l (I (Qq e h) (br (!H4 e h) (re (tup [agg [J 0,J 0,X []],J 6]) [])
  (re (tup [agg [J h.1,J h.2.1,X h.q],J 0]) []))))))
def zwR(x:zY)(h:L zl.sl)(a:zo):=am [R,zk] t0 100000000 (WB x h a)
def Zr:=Zq
theorem vT:zx Zr:=Ru
def zfg(x:zY)(g:L zl.sl)(h:L ze.sl):Tr (Empty⊕ay):=
 let a:=T h (W x.u) (Q R)
 let d:=T x.t.1 (W 0) (Q zk)
 let b:=T h (W d) (Q R)
 let e:=T g (W 0) (Q zl)
 let c:=T h (W e.1.q.1) (Q R)
 br (x.1==fD)
 (I (zK x.u (N h)) (re (agg [J a.1,J a.2.1,X a.q]) []))
 (br (x.1==na)
  (I (zK 0 (N x.t.1)) (I (zK d (N h)) (re (agg [J b.1,J b.2.1,X b.q]) [])))
  (I (zK 0 (N g)) (I (zK e.1.q.1 (N h)) (re (agg [J c.1,J c.2.1,X c.q]) []))))
def wq(x:zY)(h:L zl.sl)(a:L ze.sl):=am [R] t0 100000000 (zfg x h a)
def wo(x:zY)(h:L zl.sl)(a:L ze.sl):=(wq x h a).isSome
def JR(x:zY)(h:L zl.sl)(a:L ze.sl):=o1 (wq x h a)
def zp6:=FT [zZ,zl.sl,ze.sl] [R] λx=>wq x.1 x.2.1 x.q.1
theorem zkM:FK 42 zp6:=vT.T1 (f:=f42) (keep:=k0) (e:=e0)
abbrev zup:=kr [(4,[0,1,5])]
inductive Vr where
 |h4 (l0:List (L ze.sl)) (l1:List (L ze.sl)) (i5:Int)
abbrev zxu:Vr->Nat×St
 |.h4 l h i=>(4,⟨tm 27 [(0,O ze.sl l),(1,O ze.sl h),(5,J i)],[]⟩)
def znf(x h:L ze.sl.sl):Tr (Vr⊕ay):=
 br ((N x:Int)!=(N h:Int)) (re (kb M) []) (Q9 (Vr.h4 x h 0))
def zgv:Vr->Tr (Vr⊕ay)
 | .h4 l h i=>
  let a:=l.getD i.toNat (Q ze.sl)
  let x:=h.getD i.toNat (Q ze.sl)
  br (K (i<(N l:Int)))
  (I (zK i (N l)) (I (zK i (N h)) (I (LO a x) (br (!Si a x) (re (kb M) []) (Q9 (Vr.h4 l h (Γ Δ (i+1))))))))
  (re (kb Z) [])
def Dq(x h:L ze.sl.sl):=am [Q7] zgv 100000000 (znf x h)
def Dp(x h:L ze.sl.sl):=(Dq x h).isSome
def L6(x h:L ze.sl.sl):=o1 (Dq x h)
def zpZ:=FT [ze.sl.sl,ze.sl.sl] [Q7] λx=>Dq x.1 x.2.1
theorem zkE:FK 22 zpZ:=vT.T1 (f:=f22) (keep:=zup) (e:=zxu)
def Zs:=Zr.addL [(42,zp6),(22,zpZ)]
theorem vU:zx Zs:=vT.addL<|fc zkM<|fc zkE<|iP
abbrev zuq:=kr [(3,[1,3,5,7,8])]
inductive Hy where
 |h3 (l1:zT) (i8:Int) (z0:zq [CP.d zZ]) (z1:zq [CP.d R])
 |h3b (l1:zT) (i8:Int) (z0:zq [CP.d zZ]) (z1:zq [CP.d R]) (lh_2:List (L ze.sl))
abbrev zxv:Hy->Nat×St
 |.h3 h i z x=>(3,⟨tm 46 [(1,O zl h),(3,Qf 0 0),(5,Qf 1 0),(7,Qb),(8,J i)],[Qa (bm [] [CP.d zZ] z),Qa (bm [] [CP.d R] x)]⟩)
 |.h3b h i z x l=>(3,⟨tm 46 [(1,O zl h),(3,Qf 0 0),(5,Qf 1 0),(7,AV.vec 2),(8,J i)],[Qa (bm [] [CP.d zZ] z),Qa (bm [] [CP.d R] x),AO.vec ze.sl l]⟩)
def ztS(x:zY)(h:L zl.sl)(a:zo):Tr (Hy⊕ay):=
 Q9 (Hy.h3 h 0 (x,()) (a,()))
def CH:Hy->Tr (Hy⊕ay)
 | .h3 h i z x=>
  let a:=zK 0 (N h)
  let b:=h.getD (W 0) (Q zl)
  let n:=(N b.2:Int)
  let e:=x.1.1!=0
  let g:=zK i (N b.2)
  let j:=(z.1.1,z.1.2.1,z.1.q.1,(z.1.r.1.1,z.1.r.1.2.1,z.1.r.1.q.1,z.1.r.1.r.1,z.1.r.1.t.1,zw z.1.r.1.u),z.1.t)
  let c:=T b.2 i.toNat (Q ze.sl)
  let d:=JR j h c
  let k:=[c]
  let m:=Γ Δ (i+1)
  I a
  (br (K (i<n)) (I (cond e (a&&(g&&wo j h c)) Z) (br (cond e (d.1==x.1.1&&(d.2.1==x.1.2.1&&(d.q==x.1.q&&Z))) M) (I a (I g (I (K (N k<=1073741824)) (Q9 (Hy.h3b h m z x k))))) (Q9 (Hy.h3 h m z x)))) (re Qb []))
 | .h3b h i z x l=>
  let a:=zK 0 (N h)
  let b:=h.getD (W 0) (Q zl)
  let n:=(N b.2:Int)
  let e:=x.1.1!=0
  let g:=zK i (N b.2)
  let j:=(z.1.1,z.1.2.1,z.1.q.1,(z.1.r.1.1,z.1.r.1.2.1,z.1.r.1.q.1,z.1.r.1.r.1,z.1.r.1.t.1,zw z.1.r.1.u),z.1.t)
  let c:=T b.2 i.toNat (Q ze.sl)
  let d:=JR j h c
  let k:=[c]
  let m:=Γ Δ (i+1)
  I a
  (br (K (i<n)) (I (cond e (a&&(g&&wo j h c)) Z) (br (cond e (d.1==x.1.1&&(d.2.1==x.1.2.1&&(d.q==x.1.q&&Z))) M) (I a (I g (I (K (N l+N k<=1073741824)) (Q9 (Hy.h3b h m z x (l++k)))))) (Q9 (Hy.h3b h m z x l)))) (re (AV.vec 0) [AO.vec ze.sl l]))
def xL(x:zY)(h:L zl.sl)(a:zo):=am [ze.sl.sl] CH 100000000 (ztS x h a)
def Ga(x:zY)(h:L zl.sl)(a:zo):=(xL x h a).isSome
def LJ(x:zY)(h:L zl.sl)(a:zo):=o1 (xL x h a)
def zp0:=FT [zZ,zl.sl,R] [ze.sl.sl] λx=>xL x.1 x.2.1 x.q.1
theorem zkF:FK 101 zp0:=vU.T1 (f:=f101) (keep:=zuq) (e:=zxv)
abbrev zuo:=kr [(3,[1,2,5,6]),(9,[1,2,5,6,7,8,9,10])]
inductive gC where
 |h3 (l1:zT) (i6:Int) (z0:zq [CP.d zZ])
 |h9 (l1:zT) (i6:Int) (b9:Bool) (i10:Int) (z0:zq [CP.d zZ]) (z1:zq [CP.d R])
 |h3b (l1:zT) (i6:Int) (z0:zq [CP.d zZ]) (lh_1:zr)
 |h9b (l1:zT) (i6:Int) (b9:Bool) (i10:Int) (z0:zq [CP.d zZ]) (z2:zq [CP.d R]) (lh_1:zr)
 |h9bb (l1:zT) (i6:Int) (i10:Int) (z0:zq [CP.d zZ]) (z2:zq [CP.d R]) (lh_1:zr) (lh_3:zr)
 |h9bbb (l1:zT) (i6:Int) (b9:Bool) (i10:Int) (z0:zq [CP.d zZ]) (z2:zq [CP.d R]) (lh_1:zr) (lh_3:zr)
abbrev zxt:gC->Nat×St
 |.h3 x h z=>(3,⟨tm 73 [(1,O zl x),(2,Qf 0 0),(5,Qb),(6,J h)],[Qa (bm [] [CP.d zZ] z)]⟩)
 |.h9 x h b i z e=>(9,⟨tm 73 [(1,O zl x),(2,Qf 0 0),(5,Qb),(6,J h),(7,Qf 1 0),(8,Qb),(9,AV.bool b),(10,J i)],[Qa (bm [] [CP.d zZ] z),Qa (bm [] [CP.d R] e)]⟩)
 |.h3b x h z l=>(3,⟨tm 73 [(1,O zl x),(2,Qf 0 0),(5,AV.vec 1),(6,J h)],[Qa (bm [] [CP.d zZ] z),AO.vec R l]⟩)
 |.h9b x h b i z c l=>(9,⟨tm 73 [(1,O zl x),(2,Qf 0 0),(5,AV.vec 1),(6,J h),(7,Qf 2 0),(8,Qb),(9,AV.bool b),(10,J i)],[Qa (bm [] [CP.d zZ] z),AO.vec R l,Qa (bm [] [CP.d R] c)]⟩)
 |.h9bb x h i z c l a=>(9,⟨tm 73 [(1,O zl x),(2,Qf 0 0),(5,AV.vec 1),(6,J h),(7,Qf 2 0),(8,AV.vec 3),(9,kb Z),(10,J i)],[Qa (bm [] [CP.d zZ] z),AO.vec R l,Qa (bm [] [CP.d R] c),AO.vec R a]⟩)
 |.h9bbb x h b i z c l a=>(9,⟨tm 73 [(1,O zl x),(2,Qf 0 0),(5,AV.vec 1),(6,J h),(7,Qf 2 0),(8,AV.vec 3),(9,AV.bool b),(10,J i)],[Qa (bm [] [CP.d zZ] z),AO.vec R l,Qa (bm [] [CP.d R] c),AO.vec R a]⟩)
def ztQ(x:zY)(h:L zl.sl):Tr (gC⊕ay):=
 Q9 (gC.h3 h 0 (x,()))
def ia:gC->Tr (gC⊕ay)
 | .h3 x b z=>
  let c:=zK 0 (N x)
  let g:=x.getD (W 0) (Q zl)
  let k:=(N g.2:Int)
  let j:=(z.1.1,z.1.2.1,z.1.q.1,(z.1.r.1.1,z.1.r.1.2.1,z.1.r.1.q.1,z.1.r.1.r.1,z.1.r.1.t.1,zw z.1.r.1.u),z.1.t)
  let d:=T g.2 b.toNat (Q ze.sl)
  let e:=JR j x d
  I c
  (br (K (b<k)) (I c (I (zK b (N g.2)) (I (wo j x d) (Q9 (gC.h9 x b (e.1==0) 0 z ((wq j x d).getD (ct [R]))))))) (re Qb []))
 | .h9 x b n i z w=>
  let c:=Γ Δ (b+1)
  br (K (i<0)) Tr.err (br (!n) (I (K ([w.1].length<=1073741824)) (Q9 (gC.h3b x c z [w.1]))) (Q9 (gC.h3 x c z)))
 | .h3b x b z l=>
  let c:=zK 0 (N x)
  let g:=x.getD (W 0) (Q zl)
  let k:=(N g.2:Int)
  let j:=(z.1.1,z.1.2.1,z.1.q.1,(z.1.r.1.1,z.1.r.1.2.1,z.1.r.1.q.1,z.1.r.1.r.1,z.1.r.1.t.1,zw z.1.r.1.u),z.1.t)
  let d:=T g.2 b.toNat (Q ze.sl)
  let e:=JR j x d
  I c
  (br (K (b<k)) (I c (I (zK b (N g.2)) (I (wo j x d) (Q9 (gC.h9b x b (e.1==0) 0 z ((wq j x d).getD (ct [R])) l))))) (re (AV.vec 0) [AO.vec R l]))
 | .h9b x b n i z a l=>
  let c:=K (i.toNat<N l)
  let g:=l.getD i.toNat (Q R)
  let k:=qj g a.1
  let j:=K (k>0)
  let d:=K ([a.1].length<=1073741824)
  let e:=[g]
  let m:=Γ Δ (i+1)
  let o:=K (N e<=1073741824)
  let s:=Γ Δ (b+1)
  br (K (i<(N l:Int)))
  (I (zK i (N l)) (I c (I (mI g a.1) (br (k==0) (br (cond j (!Q3) M) (I d (I (zK i (N l)) (I c (I (K ([a.1].length+N e<=1073741824)) (Q9 (gC.h9bb x b m z a l ([a.1]++e))))))) (I (zK i (N l)) (I c (I o (Q9 (gC.h9bb x b m z a l e))))))
  (br (cond j (!n) M) (I d (I (zK i (N l)) (I c (I (K ([a.1].length+N e<=1073741824)) (Q9 (gC.h9bb x b m z a l ([a.1]++e))))))) (I (zK i (N l)) (I c (I o (Q9 (gC.h9bbb x b n m z a l e))))))))))
  (br (!n) (I d (Q9 (gC.h3b x s z [a.1]))) (Q9 (gC.h3 x s z)))
 | .h9bb x b i z a l h=>
  let c:=K (i.toNat<N l)
  let g:=l.getD i.toNat (Q R)
  let k:=qj g a.1
  let j:=h++[a.1]
  let d:=[g]
  let e:=Γ Δ (i+1)
  br (K (i<(N l:Int)))
  (I (zK i (N l)) (I c (I (mI g a.1) (br (k==0) (br (cond (K (k>0)) (!Q3) M) (I (K (N h+[a.1].length<=1073741824)) (I (zK i (N l)) (I c (I (K (N j+N d<=1073741824)) (Q9 (gC.h9bb x b e z a l (j++d))))))) (I (zK i (N l))
  (I c (I (K (N h+N d<=1073741824)) (Q9 (gC.h9bb x b e z a l (h++d))))))) (br (cond (K (k>0)) (!Q3) M) (I (K (N h+[a.1].length<=1073741824)) (I (zK i (N l)) (I c (I (K (N j+N d<=1073741824)) (Q9 (gC.h9bb x b e z a l (j++d)))))))
  (I (zK i (N l)) (I c (I (K (N h+N d<=1073741824)) (Q9 (gC.h9bb x b e z a l (h++d)))))))))))
  (Q9 (gC.h3b x (Γ Δ (b+1)) z h))
 | .h9bbb x b n i z a l h=>
  let c:=K (i.toNat<N l)
  let g:=l.getD i.toNat (Q R)
  let k:=qj g a.1
  let j:=K (k>0)
  let d:=K (N h+[a.1].length<=1073741824)
  let e:=h++[a.1]
  let m:=[g]
  let o:=Γ Δ (i+1)
  let s:=K (N h+N m<=1073741824)
  let v:=h++m
  let p:=Γ Δ (b+1)
  br (K (i<(N l:Int)))
  (I (zK i (N l)) (I c (I (mI g a.1) (br (k==0) (br (cond j (!Q3) M) (I d (I (zK i (N l)) (I c (I (K (N e+N m<=1073741824)) (Q9 (gC.h9bb x b o z a l (e++m))))))) (I (zK i (N l)) (I c (I s (Q9 (gC.h9bb x b o z a l v))))))
  (br (cond j (!n) M) (I d (I (zK i (N l)) (I c (I (K (N e+N m<=1073741824)) (Q9 (gC.h9bb x b o z a l (e++m))))))) (I (zK i (N l)) (I c (I s (Q9 (gC.h9bbb x b n o z a l v))))))))))
  (br (!n) (I d (Q9 (gC.h3b x p z e))) (Q9 (gC.h3b x p z h)))
def C9(x:zY)(h:L zl.sl):=am [ze.sl] ia 100000000 (ztQ x h)
def LH(x:zY)(h:L zl.sl):=(C9 x h).isSome
def Sd(x:zY)(h:L zl.sl):=o1 (C9 x h)
def zpY:=FT [zZ,zl.sl] [ze.sl] λx=>C9 x.1 x.2.1
theorem zkB:FK 19 zpY:=vU.T1 (f:=f19) (keep:=zuo) (e:=zxt)
def Zt:=Zs.addL [(101,zp0),(19,zpY)]
theorem vV:zx Zt:=vU.addL<|fc zkF<|fc zkB<|iP
abbrev Ad:List CP:=[.d ae,.vec (.sl R)]
abbrev nV:List CP:=[.d .str,.nil,.d zk,.nil,.nil,.d .str,.d zk,.d zk,.d .str,.d .str,.nil,.nil]
abbrev zuU:Nat->aY:=λj=>if j=6 then{slots:=[3,5,7,8,9,10]}else if j=14 then{slots:=[1,3,5,7,8,11],prom:=[(8,Q2,(.sl R))]}else if j=22 then{slots:=[1,3,5,7,8,11,12,13,14],prom:=[(13,Q2,R)]}else{ }
inductive vy where
 |h6 (l7:List (L ze.sl)) (i10:Int) (z0:zq [CP.d zZ]) (z1:zq [CP.d R]) (z2:zq [CP.d R])
 |h14 (l1:zT) (l7:List (L ze.sl)) (i11:Int) (z0:zq [CP.d zZ]) (z1:zq [CP.d R]) (lh_2:List (L ze.sl))
 |h22 (l1:zT) (l7:List (L ze.sl)) (i11:Int) (l12:zr) (i14:Int) (z0:zq [CP.d zZ]) (z1:zq [CP.d R]) (lh_2:List (L ze.sl)) (lh_3:zr)
abbrev zxQ:vy->Nat×St
 |.h6 h b z a j=>(6,⟨tm 113 [(3,Qf 0 0),(5,Qf 1 0),(7,O ze.sl h),(8,Qb),(9,Qf 2 0),(10,J b)],[Qa (bm [] [CP.d zZ] z),Qa (bm [] [CP.d R] a),Qa (bm [] [CP.d R] j)]⟩)
 |.h14 e h i z a l=>(14,⟨tm 113 [(1,O zl e),(3,Qf 0 0),(5,Qf 1 0),(7,O ze.sl h),(8,AV.vec 2),(11,J i)],[Qa (bm [] [CP.d zZ] z),Qa (bm [] [CP.d R] a),AO.vec ze.sl l]⟩)
 |.h22 e h i g c z a l x=>(22,⟨tm 113 [(1,O zl e),(3,Qf 0 0),(5,Qf 1 0),(7,O ze.sl h),(8,AV.vec 2),(11,J i),(12,O R g),(13,AV.vec 3),(14,J c)],[Qa (bm [] [CP.d zZ] z),Qa (bm [] [CP.d R] a),AO.vec ze.sl l,AO.vec R x]⟩)
def Z2(x:zY)(a:L zl.sl)(h:zo):Tr (vy⊕ay):=
 let b:=(x.1,x.2.1,x.q.1,(x.r.1.1,x.r.1.2.1,x.r.1.q.1,x.r.1.r.1,x.r.1.t.1,zw x.r.1.u),x.t)
 let c:=LJ b a h
 I (Ga b a h)
 (br (x.1==na) (Q9 (vy.h6 c 0 (x,()) (h,()) ((1,0,[]),()))) (Q9 (vy.h14 a c 0 (x,()) (h,()) [])))
def yM:vy->Tr (vy⊕ay)
 | .h6 h b z c o=>
  let e:=zK 1 (N z.1.t.1)
  let g:=T z.1.t.1 (W 1) (Q zk)
  let a:=h.getD b.toNat (Q ze.sl)
  let n:=zK g (N a)
  let m:=T a (W g) (Q R)
  let p:=Γ Δ (b+1)
  let s:=[[c.1,o.1]]
  br (K (b<(N h:Int)))
  (I (zK b (N h)) (I e (I n (br (m.1!=0) (I (zK b (N h)) (I e (I n (I (xS o.1 m) (Q9 (vy.h6 h p z c ((tO o.1 m).getD (ct [R])))))))) (Q9 (vy.h6 h p z c o))))))
  (br (K ((N h:Int)>0)) (I (K (N s<=1073741824)) (re (AV.vec 0) [AO.vec ze.sl s])) (re Qb []))
 | .h14 j h i z c l=>
  let e:=h.getD i.toNat (Q ze.sl)
  let g:=zK 1 (N j)
  let a:=j.getD (W 1) (Q zl)
  let n:=((a.1.1,a.1.2.1,a.1.q.1,a.1.r.1,a.1.t.1,zw a.1.u),a.2)
  let m:=Bd n c.1
  br (K (i<(N h:Int)))
  (I (zK i (N h)) (br (z.1.1==fD) (I (K (N e<=1073741824)) (I g (I g (I (ud n c.1) (I (zK m (N a.2)) (Q9 (vy.h22 j h i (T a.2 (W m) (Q ze.sl)) 0 z c l e))))))) (Q9 (vy.h22 j h i e 0 z c l []))))
  (re (AV.vec 0) [AO.vec ze.sl l])
 | .h22 j h i k d z c l x=>
  let e:=(N z.1.t.1:Int)
  let g:=T z.1.t.1 d.toNat (Q zk)
  let a:=[k.getD (W g) (Q R)]
  br (K (d<e))
  (I (zK d (N z.1.t.1)) (I (zK g (N k)) (I (K (N x+N a<=1073741824)) (Q9 (vy.h22 j h i k (Γ Δ (d+1)) z c l (x++a))))))
  (I (K (N l+[x].length<=1073741824)) (Q9 (vy.h14 j h (Γ Δ (i+1)) z c (l++[x]))))
def Gb(x:zY)(h:L zl.sl)(a:zo):=am [ze.sl.sl] yM 100000000 (Z2 x h a)
def Se(x:zY)(h:L zl.sl)(a:zo):=(Gb x h a).isSome
def zbv(x:zY)(h:L zl.sl)(a:zo):=o1 (Gb x h a)
def zqH:=FT [zZ,zl.sl,R] [ze.sl.sl] λx=>Gb x.1 x.2.1 x.q.1
theorem zls:FK 44 zqH:=vV.T1 (f:=f44) (keep:=zuU) (e:=zxQ)
abbrev zuu:Nat->aY:=λj=>if j=3 then{slots:=[1,2,3,4],prom:=[(3,Y 11,(.sl R))]}else if j=6 then{slots:=[1,2,3,4,5]}else{ }
inductive Ng where
 |h3 (i4:Int) (z0:zq [CP.d zl]) (z1:zq nV) (z2:zq Ad)
 |h6 (i4:Int) (i5:Int) (z0:zq [CP.d zl]) (z1:zq nV) (z2:zq Ad)
abbrev zxy:Ng->Nat×St
 |.h3 i h x z=>(3,⟨tm 67 [(1,Qf 0 0),(2,Qf 1 0),(3,Qf 2 0),(4,J i)],[Qa (bm [] [CP.d zl] h),Qa (bm [] nV x),Qa (bm [3] Ad z),AO.vec ze.sl z.2.1]⟩)
 |.h6 i a h x z=>(6,⟨tm 67 [(1,Qf 0 0),(2,Qf 1 0),(3,Qf 2 0),(4,J i),(5,J a)],[Qa (bm [] [CP.d zl] h),Qa (bm [] nV x),Qa (bm [3] Ad z),AO.vec ze.sl z.2.1]⟩)
def ztY(x:ag):Tr (Ng⊕ay):=
 Q9 (Ng.h3 0 (x,()) ([],0,[],0,0,[],[],()) (x.1,[],()))
def CI:Ng->Tr (Ng⊕ay)
 | .h3 i h z1 z=>
  let j:=(N h.1.2:Int)
  br (K (i<j)) (Q9 (Ng.h6 i (N z.2.1:Int) h z1 z))
  (re (agg [X z.1.1,O zp z.1.2.1,J z.1.q.1,O zk z.1.r.1,O zI z.1.t.1,X (zg.op z.1.u),J (zg.v z.1.u).1,J (zg.v z.1.u).2.1,X (zg.v z.1.u).q,X (zg.s z.1.u),O Q5 (zg.l z.1.u),AV.vec 0]) [AO.vec ze.sl z.2.1])
 | .h6 i b h z1 z=>
  let j:=K (b>0)
  let k:=Γ Δ (b-1)
  let m:=(h.1.1.1,h.1.1.2.1,h.1.1.q.1,h.1.1.r.1,h.1.1.t.1,zw h.1.1.u)
  let o:=z.2.1.getD k.toNat (Q ze.sl)
  let p:=zK i (N h.1.2)
  let n:=T h.1.2 i.toNat (Q ze.sl)
  let w:=J3 m o
  let y:=J3 m n
  let B:=qj w y
  let A:=K (0<=b)
  let a:=(N z.2.1:Int)
  let c:=K (b<=a)
  let x:=List.take (b.toNat-W 0) (List.drop (W 0) z.2.1)
  let d:=[n]
  let e:=x++d
  let g:=List.take (a.toNat-b.toNat) (List.drop b.toNat z.2.1)
  I (cond j (zK k (N z.2.1)&&(K (k.toNat<N z.2.1)&&(Bf m o&&(p&&(Bf m n&&mI w y))))) Z)
  (br (cond j (K (B>0)) M) (Q9 (Ng.h6 i k h z1 z)) (I (K (0<=0)&&A&&c) (I (K (N x<=1073741824)) (I p (I (K (N x+N d<=1073741824)) (I (A&&c&&K (a<=a))
  (I (K (N e+N g<=1073741824)) (Q9 (Ng.h3 (Γ Δ (i+1)) h z1 (z.1,e++g,()))))))))))
def Ds(x:ag):=am [zl] CI 100000000 (ztY x)
def L7(x:ag):=(Ds x).isSome
def Sp(x:ag):=o1 (Ds x)
def zqa:=FT [zl] [zl] λx=>Ds x.1
theorem zkR:FK 15 zqa:=vV.T1 (f:=f15) (keep:=zuu) (e:=zxy)
def ziQ:=Zt.addL [(44,zqH),(15,zqa)]
theorem Jb:zx ziQ:=vV.addL<|fc zls<|fc zkR<|iP
abbrev zut:Nat->aY:=λj=>if j=4 then{slots:=[3,8,9,10],prom:=[(9,Q2,(.sl R))]}else{ }
inductive QB where
 |h4 (l8:List (L ze.sl)) (i10:Int) (z0:zq [CP.d zZ]) (lh_1:List (L ze.sl))
abbrev zxx:QB->Nat×St
 |.h4 h i z l=>(4,⟨tm 42 [(3,Qf 0 0),(8,O ze.sl h),(9,AV.vec 1),(10,J i)],[Qa (bm [] [CP.d zZ] z),AO.vec ze.sl l]⟩)
def znh(x:zY)(h:L zl.sl)(b:zo):Tr (QB⊕ay):=
 let a:=(x.1,x.2.1,x.q.1,(x.r.1.1,x.r.1.2.1,x.r.1.q.1,x.r.1.r.1,x.r.1.t.1,zw x.r.1.u),x.t)
 I (Se a h b) (Q9 (QB.h4 (zbv a h b) 0 (x,()) []))
def zgw:QB->Tr (QB⊕ay)
 | .h4 h i z l=>
  let x:=(z.1.r.1.1,z.1.r.1.2.1,z.1.r.1.q.1,z.1.r.1.r.1,z.1.r.1.t.1,zw z.1.r.1.u)
  let a:=h.getD i.toNat (Q ze.sl)
  let b:=[a]
  let c:=Γ Δ (i+1)
  br (K (i<(N h:Int)))
  (I (zK i (N h)) (I (Dk x a) (br (L0 x a==0) (I (zK i (N h)) (I (K (N l+N b<=1073741824)) (Q9 (QB.h4 h c z (l++b))))) (Q9 (QB.h4 h c z l)))))
  (re (tup [AV.vec 0,J (Γ Δ ((N h:Int)-(N l:Int)))]) [AO.vec ze.sl l])
def xN(x:zY)(h:L zl.sl)(a:zo):=am [ze.sl.sl,zk] zgw 100000000 (znh x h a)
def mG(x:zY)(h:L zl.sl)(a:zo):=(xN x h a).isSome
def qh(x:zY)(h:L zl.sl)(a:zo):=o2 (xN x h a)
def zp8:=FT [zZ,zl.sl,R] [ze.sl.sl,zk] λx=>xN x.1 x.2.1 x.q.1
theorem zkP:FK 21 zp8:=Jb.T1 (f:=f21) (keep:=zut) (e:=zxx)
def ziR:=ziQ.add 21 zp8
theorem Jc:zx ziR:=Jb.add zkP
abbrev zzB:Nat->aY:=λj=>if j=4 then{slots:=[1,2,3,6,8,9,10],prom:=[(8,Y 11,(.sl R))]}else if j=8 then{slots:=[1,2,3,6,8,9,10,11,12]}else{ }
inductive VE where
 |h4 (l1:zT) (l2:zr) (i9:Int) (i10:Int) (z0:zq [CP.d zZ]) (z1:zq nV) (z2:zq Ad)
 |h8 (l1:zT) (l2:zr) (i9:Int) (i10:Int) (i12:Int) (z0:zq [CP.d zZ]) (z1:zq nV) (z2:zq Ad)
 |h8b (l1:zT) (l2:zr) (i9:Int) (i10:Int) (b11:Bool) (i12:Int) (z0:zq [CP.d zZ]) (z1:zq nV) (z2:zq Ad)
abbrev e9v:VE->Nat×St
 |.h4 l a x i b c z=>(4,⟨tm 63 [(1,O zl l),(2,O R a),(3,Qf 0 0),(6,Qf 1 0),(8,Qf 2 0),(9,J x),(10,J i)],[Qa (bm [] [CP.d zZ] b),Qa (bm [] nV c),Qa (bm [3] Ad z),AO.vec ze.sl z.2.1]⟩)
 |.h8 l a x i h b c z=>(8,⟨tm 63 [(1,O zl l),(2,O R a),(3,Qf 0 0),(6,Qf 1 0),(8,Qf 2 0),(9,J x),(10,J i),(11,kb M),(12,J h)],[Qa (bm [] [CP.d zZ] b),Qa (bm [] nV c),Qa (bm [3] Ad z),AO.vec ze.sl z.2.1]⟩)
 |.h8b l a x i e h b c z=>(8,⟨tm 63 [(1,O zl l),(2,O R a),(3,Qf 0 0),(6,Qf 1 0),(8,Qf 2 0),(9,J x),(10,J i),(11,AV.bool e),(12,J h)],[Qa (bm [] [CP.d zZ] b),Qa (bm [] nV c),Qa (bm [3] Ad z),AO.vec ze.sl z.2.1]⟩)
def i9v(x:zY)(h:L zl.sl)(a:L ze.sl):Tr (VE⊕ay):=
 Q9 (VE.h4 h a 0 0 (x,()) ([],0,[],0,0,[],[],()) (x.r.1,[],()))
def Vc:VE->Tr (VE⊕ay)
 | .h4 l1 x c i z z1 z2=>
  let b:=((z2.1.1,z2.1.2.1,z2.1.q.1,z2.1.r.1,z2.1.t.1,zw z2.1.u),z2.2.1)
  let a:=Sp b
  br (K (i<(N x:Int))) (Q9 (VE.h8 l1 x c i 0 z z1 z2))
  (I (L7 b) (re (tup [agg [X a.1.1,O zp a.1.2.1,J a.1.q.1,O zk a.1.r.1,O zI a.1.t.1,X (zg.op a.1.u),J (zg.v a.1.u).1,J (zg.v a.1.u).2.1,X (zg.v a.1.u).q,X (zg.s a.1.u),O Q5 (zg.l a.1.u),
  O ze.sl a.2],J c]) []))
 | .h8 l1 x c i h z z1 z2=>
  let b:=x.getD h.toNat (Q R)
  let a:=x.getD i.toNat (Q R)
  let g:=(z.1.1,z.1.2.1,z.1.q.1,(z.1.r.1.1,z.1.r.1.2.1,z.1.r.1.q.1,z.1.r.1.r.1,z.1.r.1.t.1,zw z.1.r.1.u),z.1.t)
  let e:=qh g l1 a
  br (K (h<i))
  (I (zK h (N x)) (I (zK i (N x)) (Q9 (VE.h8b l1 x c i (b.1==a.1&&(b.2.1==a.2.1&&(b.q==a.q&&Z))) (Γ Δ (h+1)) z z1 z2))))
  (I (zK i (N x)) (I (mG g l1 a) (I (K (N z2.2.1+N e.1<=1073741824)) (Q9 (VE.h4 l1 x (Γ Δ (c+e.2)) (Γ Δ (i+1)) z z1 (z2.1,z2.2.1++e.1,()))))))
 | .h8b l1 x c i d h z z1 z2=>
  let b:=x.getD h.toNat (Q R)
  let a:=x.getD i.toNat (Q R)
  let g:=Γ Δ (i+1)
  let e:=(z.1.1,z.1.2.1,z.1.q.1,(z.1.r.1.1,z.1.r.1.2.1,z.1.r.1.q.1,z.1.r.1.r.1,z.1.r.1.t.1,zw z.1.r.1.u),z.1.t)
  let j:=qh e l1 a
  br (K (h<i))
  (I (cond d Z (zK h (N x)&&zK i (N x))) (Q9 (VE.h8b l1 x c i (cond d Z (b.1==a.1&&(b.2.1==a.2.1&&(b.q==a.q&&Z)))) (Γ Δ (h+1)) z z1 z2)))
  (br d (Q9 (VE.h4 l1 x c g z z1 z2)) (I (zK i (N x)) (I (mG e l1 a) (I (K (N z2.2.1+N j.1<=1073741824)) (Q9 (VE.h4 l1 x (Γ Δ (c+j.2)) g z z1 (z2.1,z2.2.1++j.1,())))))))
def xM(x:zY)(h:L zl.sl)(a:L ze.sl):=am [zl,zk] Vc 100000000 (i9v x h a)
def o7(x:zY)(h:L zl.sl)(a:L ze.sl):=(xM x h a).isSome
def tL(x:zY)(h:L zl.sl)(a:L ze.sl):=o2 (xM x h a)
def F9v:=FT [zZ,zl.sl,ze.sl] [zl,zk] λx=>xM x.1 x.2.1 x.q.1
theorem zsy:FK 18 F9v:=Jc.T1 (f:=f18) (keep:=zzB) (e:=e9v)
def N7:=ziR.add 18 F9v
theorem lV:zx N7:=Jc.add zsy
abbrev P7:Sh:=.pr zZ (.sl zl)
abbrev ee:=L P7
abbrev wZ:List CP:=[.d P7]
abbrev zn1:Nat->aY:=λj=>if j=3 then{slots:=[1,5,10,11,12],prom:=[(5,Q2,R)]}else{ }
inductive Id where
 |h3 (l1:zr) (l10:ea) (i11:Int) (i12:Int) (lh_0:zr)
abbrev zs8:Id->Nat×St
 |.h3 a x i h l=>(3,⟨tm 25 [(1,O R a),(5,AV.vec 0),(10,O zk x),(11,J i),(12,J h)],[AO.vec R l]⟩)
def zjo(x:ee)(h:L ze.sl):Tr (Id⊕ay):=
 Q9 (Id.h3 h x.1.t.1 (N x.1.t.1:Int) 0 [])
def Vb:Id->Tr (Id⊕ay)
 | .h3 a h x i l=>
  let b:=h.getD i.toNat (Q zk)
  let c:=[a.getD (W b) (Q R)]
  br (K (i<x))
  (I (zK i (N h)) (I (zK b (N a)) (I (K (N l+N c<=1073741824)) (Q9 (Id.h3 a h x (Γ Δ (i+1)) (l++c))))))
  (re (AV.vec 0) [AO.vec R l])
def KH(x:ee)(h:L ze.sl):=am [ze.sl] Vb 100000000 (zjo x h)
def Ac(x:ee)(h:L ze.sl):=(KH x h).isSome
def Ix(x:ee)(h:L ze.sl):=o1 (KH x h)
def zhA:=FT [P7,ze.sl] [ze.sl] λx=>KH x.1 x.2.1
theorem zdz:FK 153 zhA:=lV.T1 (f:=f153) (keep:=zn1) (e:=zs8)
def zfk(x:ee):Tr (Empty⊕ay):=
 let a:=T x.2 (W 0) (Q zl)
 br (x.1.1==dp) (I (zK 0 (N x.2)) (re (J a.1.q.1) []))
 (br (x.1.1==fD) (re (J x.1.u) [])
  (I (zK 0 (N x.1.t.1)) (re (J (T x.1.t.1 (W 0) (Q zk))) [])))
def To(x:ee):=am [zk] t0 100000000 (zfk x)
def Yk(x:ee):=(To x).isSome
def zmr(x:ee):=o1 (To x)
def zqm:=FT [P7] [zk] λx=>To x.1
theorem zk4:FK 33 zqm:=lV.T1 (f:=f33) (keep:=k0) (e:=e0)
def ziJ:=N7.addL [(153,zhA),(33,zqm)]
theorem AE:zx ziJ:=lV.addL<|fc zdz<|fc zk4<|iP
abbrev zvh:Nat->aY:=λj=>if j=3 then{slots:=[3,7,10,11,12],prom:=[(7,Q2,(.sl R))]}else{ }
inductive VC where
 |h3 (l10:List (L ze.sl)) (i11:Int) (i12:Int) (z0:zq wZ) (lh_1:List (L ze.sl))
abbrev zya:VC->Nat×St
 |.h3 x i h z l=>(3,⟨tm 24 [(3,Qf 0 0),(7,AV.vec 1),(10,O ze.sl x),(11,J i),(12,J h)],[Qa (bm [] wZ z),AO.vec ze.sl l]⟩)
def zue(h:ee)(_:zo)(x:L ze.sl.sl):Tr (VC⊕ay):=
 Q9 (VC.h3 x (N x:Int) 0 (h,()) [])
def zgB:VC->Tr (VC⊕ay)
 | .h3 h x i z l=>
  let a:=((z.1.1.1,z.1.1.2.1,z.1.1.q.1,(z.1.1.r.1.1,z.1.1.r.1.2.1,z.1.1.r.1.q.1,z.1.1.r.1.r.1,z.1.1.r.1.t.1,zw z.1.1.r.1.u),z.1.1.t),z.1.2)
  let b:=h.getD i.toNat (Q ze.sl)
  let c:=[Ix a b]
  br (K (i<x))
  (I (zK i (N h)) (I (Ac a b) (I (K (N l+N c<=1073741824)) (Q9 (VC.h3 h x (Γ Δ (i+1)) z (l++c))))))
  (re (AV.vec 0) [AO.vec ze.sl l])
def KE(x:ee)(h:zo)(a:L ze.sl.sl):=am [ze.sl.sl] zgB 100000000 (zue x h a)
def QM(x:ee)(h:zo)(a:L ze.sl.sl):=(KE x h a).isSome
def Yl(x:ee)(h:zo)(a:L ze.sl.sl):=o1 (KE x h a)
def zrd:=FT [P7,R,ze.sl.sl] [ze.sl.sl] λx=>KE x.1 x.2.1 x.q.1
theorem zlY:FK 88 zrd:=AE.T1 (f:=f88) (keep:=zvh) (e:=zya)
abbrev zvj:=kr [(5,[3,4,7,15,16,17])]
inductive QF where
 |h5 (l15:List (L ze.sl)) (i16:Int) (i17:Int) (z0:zq wZ) (z1:zq [CP.d R]) (z2:zq [CP.d R])
abbrev zyc:QF->Nat×St
 |.h5 l i h z x a=>(5,⟨tm 40 [(3,Qf 0 0),(4,Qf 1 0),(7,Qf 2 0),(15,O ze.sl l),(16,J i),(17,J h)],[Qa (bm [] wZ z),Qa (bm [] [CP.d R] x),Qa (bm [] [CP.d R] a)]⟩)
def znx(h:ee)(a:zo)(x:L ze.sl.sl):Tr (QF⊕ay):=
 br ((N x:Int)==0) (re Qb []) (Q9 (QF.h5 x (N x:Int) 0 (h,()) (a,()) ((1,0,[]),())))
def zgE:QF->Tr (QF⊕ay)
 | .h5 l h i z x a=>
  let b:=T z.1.1.t.1 (W 1) (Q zk)
  let c:=l.getD i.toNat (Q ze.sl)
  let d:=T c (W b) (Q R)
  let e:=Γ Δ (i+1)
  br (K (i<h))
  (I (zK i (N l)) (I (zK 1 (N z.1.1.t.1)) (I (zK b (N c)) (br (d.1!=0) (Q9 (QF.h5 l h e z x (qW a.1 d,()))) (Q9 (QF.h5 l h e z x a))))))
  (re (O ze.sl [[x.1,a.1]]) [])
def CT(x:ee)(h:zo)(a:L ze.sl.sl):=am [ze.sl.sl] zgE 100000000 (znx x h a)
def KF(x:ee)(h:zo)(a:L ze.sl.sl):=(CT x h a).isSome
def QN(x:ee)(h:zo)(a:L ze.sl.sl):=o1 (CT x h a)
def zrg:=FT [P7,R,ze.sl.sl] [ze.sl.sl] λx=>CT x.1 x.2.1 x.q.1
theorem zl1:FK 90 zrg:=AE.T1 (f:=f90) (keep:=zvj) (e:=zyc)
def ziK:=ziJ.addL [(88,zrd),(90,zrg)]
theorem Wn:zx ziK:=AE.addL<|fc zlY<|fc zl1<|iP
open Go Go.Proofs Go.RowKit Go.Lib
set_option maxRecDepth 100000
theorem znz:(prog.info? 30).map (λi=>(i.zero,i.size,i.bytes))=Y (Y (.agg #[.int .i64 0,.int .i64 0,.string ⟨#[]⟩]),3,32):=by kernel_rfl
theorem ze8(p:Option Addr)(k:Nat)(n:k<=1000000)(w:World):Calls prog 221 #[.slice p 0 0,.int .i64 k] w λe d=>∃q c,e=.returned (.slice q 0 c)/\Below w.heap.size w d/\(c=0\/(0<c/\q=Y ⟨w.heap.size,0,Q2⟩/\∃h,d.heap[w.heap.size]?=Y (.cells h 30 (0,0))/\h.size=c*3)):=by
 obtain⟨m,j,b,l,a⟩:=info_parts znz;by_cases g:k=0
 .subst g
  go_enter func221,ntmps221
  go_wp2
  first|go_ret|go_ret2
  exact⟨_,_,rfl,Below.refl _ _,.inl rfl⟩
 .have x:=λt=>run_append_grow_zeros (P:=prog) w 39 3 t 30 m _ .i64 .i64 underlying39 underlying3 j b p 0 0 [] (by cases p<;>simp[Builtin.firstCells,loadCells,loadCellsFrom]) k (by omega) (by omega) (by omega) (by omega) (by rw[a];omega) (by rw[eI,nextslicecap_zero (by omega),a];omega)
  simp only[eI]at x;have i:=grownCap_ge w k 0 30
  go_enter func221,ntmps221
  go_wp2_with (at_builtin;refine Lib.wpList_append_run _ rfl _ _ _ _ rfl _ _ rfl rfl _ _ (x _) ?_)
  first|go_ret|go_ret2
  refine⟨_,_,rfl,((Below.refl _ _).alloc (zR _) _).drew,.inr ⟨by omega,rfl,_,heap_alloc_new _ _,?_⟩⟩;simp[size_zeroCells];omega
abbrev zBi:Sh:=.pr (.int .i64) (.pr (.int .i64) .str)
def zj4:ak:=λa _ n=>match a with
 |[.nils,.int .i64 k]=>.chk (K (0<=k)) (.chk (K (k<=1000000)) (.ok {val:=.vec n,nw:=[.vec R []]}))
 |_=>.err
theorem ze9{w:World}{U:Nat->Prop}{C:Nat->Option Value}{A:Nat->AO}{h:Nat}{p:Option Addr}(j:∀b,U b->b<w.heap.size)(s:C m=Q2)(z:h<=1000000):
  Calls prog 221 #[.slice p 0 0,.int .i64 h] w λe n=>∃v t B,e=.returned v/\Ef m A {val:=.vec m,nw:=[.vec R []]} w U C v n t B:=by
 refine(ze8 p h z w).mono ?_;rintro e n ⟨q,c,rfl,a,rfl|⟨u,rfl,k,o,l⟩⟩
 .exact⟨_,U,_,rfl,Ef.newVec sw s rfl (lz.below a) (λb d _=>a.block b d) (λb d=>ie (j b d) a.size) (λb _=>Iff.rfl) ⟨q,0,by simp[kz],aK _,.inl ⟨rfl,rfl⟩⟩ (λb d=>by cases q<;>simp[cf]at d)⟩
 .have g:w.heap.size<n.heap.size:=(mZ.1 o).1;exact⟨_,λb=>U b\/b=w.heap.size,_,rfl,Ef.newVec sw s rfl (lz.below a) (λb d _=>a.block b d) (λb x=>by
     rcases x with x|rfl
     .exact ie (j b x) a.size
     .exact g) (λb d=>⟨λx=>x.elim id λe=>zB e S,.inl⟩) ⟨Y ⟨w.heap.size,0,Q2⟩,c,by simp[kz],aK _,.inr ⟨w.heap.size,30,k,rfl,u,.inr rfl,o,l,aK _,λi y=>zB y sw⟩⟩ (λb d=>by simp[cf]at d;exact .inl S)⟩
theorem zkJ:FK 221 zj4 where
 fn:=⟨f221,kw,kw,kw⟩
 calls:=λw U y u n c v f s h x b i g j e a=>by
  unfold zj4 at h;split at h
  .rename_i k;simp only[Tr.val_chk,Tr.val_ok,bH,bc]at h;obtain⟨d,t,rfl⟩:=h;obtain⟨k,rfl⟩:=Int.eq_ofNat_of_zero_le d;have l:=x.len
   match v,l,x with
   |[p,q],_,x=>
   have m:=x.rv 0 _ p rfl rfl;have o:=x.rv 1 _ q rfl rfl;cases m;cases o;exact⟨ze9 b (a 0 sw) S,sw⟩
  .simp at h
def Zh:=ziK.add 221 zj4
theorem EJ:zx Zh:=Wn.add zkJ
abbrev zn2:=kr [(3,[0,3,9,10,11]),(11,[6,25,26,27])]
inductive ov where
 |h3 (l0:List (L ze.sl)) (i3:Int) (l9:List (L ze.sl)) (i10:Int) (i11:Int)
 |h11 (l25:List (L ze.sl)) (i26:Int) (i27:Int) (lh_0:zr)
abbrev zs9:ov->Nat×St
 |.h3 d c e i h=>(3,⟨tm 36 [(0,O ze.sl d),(3,J c),(9,O ze.sl e),(10,J i),(11,J h)],[]⟩)
 |.h11 b x a l=>(11,⟨tm 36 [(6,AV.vec 0),(25,O ze.sl b),(26,J x),(27,J a)],[AO.vec R l]⟩)
def zjp(x:L ze.sl.sl):Tr (ov⊕ay):=
 Q9 (ov.h3 x 0 x (N x:Int) 0)
def Kj:ov->Tr (ov⊕ay)
 | .h3 e d g b i=>
  let a:=Γ Δ (d+(↑(N (g.getD i.toNat (Q ze.sl))):Int))
  br (K (i<b)) (I (zK i (N g)) (br (K (a<0)) Tr.err (Q9 (ov.h3 e a g b (Γ Δ (i+1))))))
  (I (K (0<=d)) (I (K (d<=1000000)) (Q9 (ov.h11 e (N e:Int) 0 []))))
 | .h11 x c h l=>
  let a:=x.getD h.toNat (Q ze.sl)
  br (K (h<c))
  (I (zK h (N x)) (I (K (N l+N a<=1073741824)) (Q9 (ov.h11 x c (Γ Δ (h+1)) (l++a)))))
  (re (AV.vec 0) [AO.vec R l])
def Tv(x:L ze.sl.sl):=am [ze.sl] Kj 100000000 (zjp x)
def Yz(x:L ze.sl.sl):=(Tv x).isSome
def zmL(x:L ze.sl.sl):=o1 (Tv x)
def zhB:=FT [ze.sl.sl] [ze.sl] λx=>Tv x.1
theorem zdA:FK 154 zhB:=EJ.T1 (f:=f154) (keep:=zn2) (e:=zs9)
def ziL:=Zh.add 154 zhB
theorem I6:zx ziL:=EJ.add zdA
abbrev zvi:Nat->aY:=λj=>if j=7 then{slots:=[8,9,30,31,32],prom:=[(9,Q2,(.sl R))]}else{ }
inductive VD where
 |h7 (l8:zr) (l30:List (L ze.sl)) (i31:Int) (i32:Int) (lh_0:List (L ze.sl))
abbrev zyb:VD->Nat×St
 |.h7 a x i h l=>(7,⟨tm 45 [(8,O R a),(9,AV.vec 0),(30,O ze.sl x),(31,J i),(32,J h)],[AO.vec ze.sl l]⟩)
def zfv(x:ee)(g:zo)(i:L ze.sl.sl):Tr (VD⊕ay):=
 let b:=zK 1 (N x.2)
 let a:=T x.2 (W 1) (Q zl)
 let c:=((a.1.1,a.1.2.1,a.1.q.1,a.1.r.1,a.1.t.1,zw a.1.u),a.2)
 let h:=UN c g
 let d:=((x.1.1,x.1.2.1,x.1.q.1,(x.1.r.1.1,x.1.r.1.2.1,x.1.r.1.q.1,x.1.r.1.r.1,x.1.r.1.t.1,zw x.1.r.1.u),x.1.t),x.2)
 let e:=T a.2 (W h) (Q ze.sl)
 I b
 (I (Ml c g)
  (br (K (h<0)) (re Qb []) (I b (I (zK h (N a.2)) (I (Ac d e) (Q9 (VD.h7 (Ix d e) i (N i:Int) 0 [])))))))
def zgC:VD->Tr (VD⊕ay)
 | .h7 c h x i l=>
  let a:=[h.getD i.toNat (Q ze.sl),c]
  let b:=[zmL a]
  br (K (i<x))
  (I (zK i (N h)) (I (Yz a) (I (K (N l+N b<=1073741824)) (Q9 (VD.h7 c h x (Γ Δ (i+1)) (l++b))))))
  (re (AV.vec 0) [AO.vec ze.sl l])
def KG(x:ee)(h:zo)(a:L ze.sl.sl):=am [ze.sl.sl] zgC 100000000 (zfv x h a)
def QO(x:ee)(h:zo)(a:L ze.sl.sl):=(KG x h a).isSome
def Ym(x:ee)(h:zo)(a:L ze.sl.sl):=o1 (KG x h a)
def zre:=FT [P7,R,ze.sl.sl] [ze.sl.sl] λx=>KG x.1 x.2.1 x.q.1
theorem zlZ:FK 89 zre:=I6.T1 (f:=f89) (keep:=zvi) (e:=zyb)
def ziM:=ziL.add 89 zre
theorem I7:zx ziM:=I6.add zlZ
abbrev zuE:Nat->aY:=λj=>if j=5 then{slots:=[3,9,10,23,24,25],prom:=[(9,Q2,(.sl R))]}else{ }
inductive Kv where
 |h5 (i10:Int) (l23:List (L ze.sl)) (i24:Int) (i25:Int) (z0:zq wZ) (lh_1:List (L ze.sl))
abbrev zxF:Kv->Nat×St
 |.h5 i a h x z l=>(5,⟨tm 44 [(3,Qf 0 0),(9,AV.vec 1),(10,J i),(23,O ze.sl a),(24,J h),(25,J x)],[Qa (bm [] wZ z),AO.vec ze.sl l]⟩)
def Z1(x:ee)(h:zo)(b:L ze.sl.sl):Tr (Kv⊕ay):=
 let a:=((x.1.1,x.1.2.1,x.1.q.1,(x.1.r.1.1,x.1.r.1.2.1,x.1.r.1.q.1,x.1.r.1.r.1,x.1.r.1.t.1,zw x.1.r.1.u),x.1.t),x.2)
 let c:=Yl a h b
 let d:=Ym a h b
 let e:=QN a h b
 I Z
 (I Z
  (I Z (br (x.1.1==dp) (I (QM a h b) (Q9 (Kv.h5 0 c (N c:Int) 0 (x,()) []))) (br (x.1.1==fD) (I (QO a h b) (Q9 (Kv.h5 0 d (N d:Int) 0 (x,()) [])))
  (br (x.1.1==na) (I (KF a h b) (Q9 (Kv.h5 0 e (N e:Int) 0 (x,()) []))) Tr.err)))))
def zgy:Kv->Tr (Kv⊕ay)
 | .h5 x h a i z l=>
  let b:=h.getD i.toNat (Q ze.sl)
  let c:=Γ Δ (i+1)
  let d:=[b]
  br (K (i<a))
  (I (zK i (N h)) (br (cm (z.1.1.r.1.1,z.1.1.r.1.2.1,z.1.1.r.1.q.1,z.1.1.r.1.r.1,z.1.1.r.1.t.1,zw z.1.1.r.1.u) b !=0) (Q9 (Kv.h5 (Γ Δ (x+1)) h a c z l)) (I (K (N l+N d<=1073741824)) (Q9 (Kv.h5 x h a c z (l++d))))))
  (re (tup [AV.vec 0,J x]) [AO.vec ze.sl l])
def Ea(x:ee)(h:zo)(a:L ze.sl.sl):=am [ze.sl.sl,zk] zgy 100000000 (Z1 x h a)
def Iw(x:ee)(h:zo)(a:L ze.sl.sl):=(Ea x h a).isSome
def VO(x:ee)(h:zo)(a:L ze.sl.sl):=o2 (Ea x h a)
def zqo:=FT [P7,R,ze.sl.sl] [ze.sl.sl,zk] λx=>Ea x.1 x.2.1 x.q.1
theorem zk6:FK 34 zqo:=I7.T1 (f:=f34) (keep:=zuE) (e:=zxF)
def ziN:=ziM.add 34 zqo
theorem Wo:zx ziN:=I7.add zk6
open Go
theorem sX{P:Program}{l:Nat->AV}{d ι:Type}{E:cy}{f:Func}{k:List (Option Sh)}{G:fA k}{n n0:Nat}{e:d->Nat×St}{t:d->Tr (d⊕ay)}{args:ι->List AV}{heap:ι->List AO}{i:ι->Tr (d⊕ay)}
  (z:zx E) (o:aa E.P x f (N k)) (B:∀b,(heap b).length=n0)
  (g:∀b,run E n0 keep f.results.toList m (bv f) (bl f.ntmps (args b) (heap b))=(i b).map (lf f e))
  (j:∀s,run E n0 keep f.results.toList m (aq f (e s).1) (e s).2=(t s).map (lf f e))
  (A:∀a h c,(G a h).val=Y c->∃b,jj k a=args b/\h=heap b/\bT t n (i b)=Y c) (H:E.P=P:=by rfl) (F:E.gl=l:=by rfl):ou P l x (bj k G):=by
 subst H F;refine dA o λb v c D C w=>?_
 have⟨y,p,q,u⟩:=A b v c D;subst q;rw[p];exact mB (n0:=n0) (Q:=λr h=>(r,h)=c) z o (λid h=>w id (by rw[B];exact h)) (n+1) _ _ _ (by rw[kd j (g y)];exact u) rfl
abbrev BO(l:ea):Tr zU:=run dG 0 M7 (Func.results f157).toList 300 (bv f157) (bl (Func.ntmps f157) [.sl zk l] [])
theorem Uh:aa dG.P 157 f157 1:=cM kw
theorem ztC(l:ea):BO l=.ok (.fork l.isEmpty (bR (BO l)).1 (bR (BO l)).2.1 (bR (BO l)).q):=kw
theorem zoz(l:ea):run dG 0 M7 (Func.results f157).toList 300 (bR (BO l)).1 (bR (BO l)).q=.ok (.ret .nils []):=kw
theorem zoA(l:ea):run dG 0 M7 (Func.results f157).toList 300 (bR (BO l)).2.1 (bR (BO l)).q=.chk (K (N l<=1073741824)) (.ok (.ret (.vec 0) [.vec zk l])):=kw
def zsD:fA [Y (.sl zk)]:=λx h=>match h with
 |[]=>.chk (K (N x.1<=1073741824)) (.ok (.vec 0,[.vec zk x.1]))
 |_=>.err
def zrj:ak:=bj [Y (.sl zk)] zsD
theorem zl5:FK 157 zrj:=by
 refine dA Uh λx j i a C b=>?_
 unfold zsD at a;split at a
 .simp only[Q8]at a;split at a
  .rename_i d;simp only[bH]at a;subst a;have⟨l,u⟩:=x;refine zL (n0:=0) bM Uh b (ztC l) ?_;refine⟨λc=>?_,?_⟩
   .have e:l=[]:=List.isEmpty_iff.1 c;refine Reach.weaken (Q:=λr h=>(r,h)=(.vec 0,[.vec zk []])) (Reach.promNil zk (λid=>b id sw) (zL (n0:=0) bM Uh b (zoz l) rfl)) ?_;intro r h g;cases g;refine⟨_,?_,λ_ _ _ _ h=>h⟩;show(AV.vec 0,[AO.vec zk []])=(AV.vec 0,[AO.vec zk l]);rw[e]
   .exact zL (n0:=0) bM Uh b (zoA l) (fV d rfl)
  .cases a
 .simp at a
abbrev BP(l:dK):Tr zU:=run dG 0 M7 (Func.results f158).toList 300 (bv f158) (bl (Func.ntmps f158) [.sl zI l] [])
theorem Ui:aa dG.P 158 f158 1:=cM kw
theorem ztD(l:dK):BP l=.ok (.fork l.isEmpty (bR (BP l)).1 (bR (BP l)).2.1 (bR (BP l)).q):=kw
theorem zoB(l:dK):run dG 0 M7 (Func.results f158).toList 300 (bR (BP l)).1 (bR (BP l)).q=.ok (.ret .nils []):=kw
theorem zoC(l:dK):run dG 0 M7 (Func.results f158).toList 300 (bR (BP l)).2.1 (bR (BP l)).q=.chk (K (N l<=1073741824)) (.ok (.ret (.vec 0) [.vec zI l])):=kw
def zsE:fA [Y (.sl zI)]:=λx h=>match h with
 |[]=>.chk (K (N x.1<=1073741824)) (.ok (.vec 0,[.vec zI x.1]))
 |_=>.err
def zrk:ak:=bj [Y (.sl zI)] zsE
theorem zl6:FK 158 zrk:=by
 refine dA Ui λx j i a C b=>?_
 unfold zsE at a;split at a
 .simp only[Q8]at a;split at a
  .rename_i d;simp only[bH]at a;subst a;have⟨l,u⟩:=x;refine zL (n0:=0) bM Ui b (ztD l) ?_;refine⟨λc=>?_,?_⟩
   .have e:l=[]:=List.isEmpty_iff.1 c;refine Reach.weaken (Q:=λr h=>(r,h)=(.vec 0,[.vec zI []])) (Reach.promNil zI (λid=>b id sw) (zL (n0:=0) bM Ui b (zoB l) rfl)) ?_;intro r h g;cases g;refine⟨_,?_,λ_ _ _ _ h=>h⟩;show(AV.vec 0,[AO.vec zI []])=(AV.vec 0,[AO.vec zI l]);rw[e]
   .exact zL (n0:=0) bM Ui b (zoC l) (fV d rfl)
  .cases a
 .simp at a
abbrev BQ(l:List fy):Tr zU:=run dG 0 M7 (Func.results f160).toList 300 (bv f160) (bl (Func.ntmps f160) [.sl (.sl R) l] [])
theorem Uk:aa dG.P 160 f160 1:=cM kw
theorem ztF(l:List fy):BQ l=.ok (.fork l.isEmpty (bR (BQ l)).1 (bR (BQ l)).2.1 (bR (BQ l)).q):=kw
theorem zoD(l:List fy):run dG 0 M7 (Func.results f160).toList 300 (bR (BQ l)).1 (bR (BQ l)).q=.ok (.ret .nils []):=kw
theorem zoE(l:List fy):run dG 0 M7 (Func.results f160).toList 300 (bR (BQ l)).2.1 (bR (BQ l)).q=.chk (K (N l<=1073741824)) (.ok (.ret (.vec 0) [.vec (.sl R) l])):=kw
def zsF:fA [Y (.sl (.sl R))]:=λx h=>match h with
 |[]=>.chk (K (N x.1<=1073741824)) (.ok (.vec 0,[.vec (.sl R) x.1]))
 |_=>.err
def zrm:ak:=bj [Y (.sl (.sl R))] zsF
theorem zl8:FK 160 zrm:=by
 refine dA Uk λx j i a C b=>?_
 unfold zsF at a;split at a
 .simp only[Q8]at a;split at a
  .rename_i d;simp only[bH]at a;subst a;have⟨l,u⟩:=x;refine zL (n0:=0) bM Uk b (ztF l) ?_;refine⟨λc=>?_,?_⟩
   .have e:l=[]:=List.isEmpty_iff.1 c;refine Reach.weaken (Q:=λr h=>(r,h)=(.vec 0,[.vec (.sl R) []])) (Reach.promNil (.sl R) (λid=>b id sw) (zL (n0:=0) bM Uk b (zoD l) rfl)) ?_;intro r h g;cases g;refine⟨_,?_,λ_ _ _ _ h=>h⟩;show(AV.vec 0,[AO.vec (Sh.sl R) []])=(AV.vec 0,[AO.vec (Sh.sl R) l]);rw[e]
   .exact zL (n0:=0) bM Uk b (zoE l) (fV d rfl)
  .cases a
 .simp at a
abbrev BR(l:zr):Tr zU:=run dG 0 M7 (Func.results f100).toList 300 (bv f100) (bl (Func.ntmps f100) [.sl R l] [])
theorem Ul:aa dG.P 100 f100 1:=cM kw
theorem ztG(l:zr):BR l=.ok (.fork l.isEmpty (bR (BR l)).1 (bR (BR l)).2.1 (bR (BR l)).q):=kw
theorem zoF(l:zr):run dG 0 M7 (Func.results f100).toList 300 (bR (BR l)).1 (bR (BR l)).q=.ok (.ret .nils []):=kw
theorem zoG(l:zr):run dG 0 M7 (Func.results f100).toList 300 (bR (BR l)).2.1 (bR (BR l)).q=.chk (K (N l<=1073741824)) (.ok (.ret (.vec 0) [.vec R l])):=kw
def zsG:fA [Y (.sl R)]:=λx h=>match h with
 |[]=>.chk (K (N x.1<=1073741824)) (.ok (.vec 0,[.vec R x.1]))
 |_=>.err
def zj6:ak:=bj [Y (.sl R)] zsG
theorem XU:FK 100 zj6:=by
 refine dA Ul λx j i a C b=>?_
 unfold zsG at a;split at a
 .simp only[Q8]at a;split at a
  .rename_i d;simp only[bH]at a;subst a;have⟨l,u⟩:=x;refine zL (n0:=0) bM Ul b (ztG l) ?_;refine⟨λc=>?_,?_⟩
   .have e:l=[]:=List.isEmpty_iff.1 c;refine Reach.weaken (Q:=λr h=>(r,h)=(.vec 0,[.vec R []])) (Reach.promNil R (λid=>b id sw) (zL (n0:=0) bM Ul b (zoF l) rfl)) ?_;intro r h g;cases g;refine⟨_,?_,λ_ _ _ _ h=>h⟩;show(AV.vec 0,[AO.vec R []])=(AV.vec 0,[AO.vec R l]);rw[e]
   .exact zL (n0:=0) bM Ul b (zoG l) (fV d rfl)
  .cases a
 .simp at a
def zeV:=dG.addL [(157,zrj),(158,zrk),(160,zrm),(100,zj6)]
theorem N9:zx zeV:=bM.addL<|fc zl5<|fc zl6<|fc zl8<|fc XU iP
def H7(c:zg->Bool):ak:=af [.expr] [.expr] (λx=>c x.1) λx=>(x.1,())
def IC(c:zg->Bool):cy:=zeV.add 159 (H7 c)
variable {c:zg->Bool}
theorem Al(h:FK 159 (H7 c)):zx (IC c):=N9.add h
abbrev zjE:Nat->aY:=λj=>if j=3 then{slots:=[1,2,10,11]}else{ }
abbrev My(i h:Int)(j:zN)(x a:Int)(b c:zN)(l:List (L Q5)):St:={
 tmps:=
  (tm 26 [(1,Qf 0 0),(2,Qf 1 0),(10,J i),(11,J h)]),
 heap:=
  [Qa [X j,J x,J a,X b,X c,AV.vec 2],
   Qa [X [],J 0,J 0,X [],X [],Qb],AO.vec Q5 l]}
theorem Uj(c:zg->Bool):aa (IC c).P 159 f159 1:=cM kw
theorem ztE(c:zg->Bool)(o:zN)(v:V)(s:zN)(l:List zg):rn (IC c) 0 zjE f159 [zX Q5 (zg.mk o v s l)] []=
 I (K (N l<=1073741824)) (Tr.ok (zU.head 3 (aq f159 3) (My (N l:Int) 0 o v.1 v.2.1 v.2.2 s l))):=kw
theorem Ut(c:zg->Bool)(h i:Int)(j:zN)(x a:Int)(b d:zN)(l:List (Sem Sh.expr)):rh (IC c) 0 zjE f159 3 (My h i j x a b d l)=
 br (K (i<h))
 (chk (zK i (Io l))
  (chk (decide (i.toNat<Io l))
   (chk (c (zw (l.getD i.toNat (zj Sh.expr))))
    (chk (zK i (Io l))
     (chk (decide (i.toNat<Io l))
      (Tr.ok
       (zU.head 3 (aq f159 3)
        (My h (Γ Δ (i+1)) j x a b d
         (l.set i.toNat
          (zw (l.getD i.toNat (Q Q5))))))))))))
 (Tr.ok
  (zU.ret (agg [X j,J x,J a,X b,X d,AV.vec 0]) [AO.vec Q5 l])):=kw
theorem zsK(d:FK 159 (H7 c)){C:eU}(b:∀id,C.ρ0 id=Q2)(o:zN)(v:V)(s:zN)(l:List zg)(t:N l<=1073741824)(a:l.all c=Z):
  ∀(k i:Nat),N l-i=k->i<=N l->Reach (IC c) C 159 (aq f159 3) (My (N l) i o v.1 v.2.1 v.q s l) (λr h=>aX h [.expr] r=Y (zg.mk o v s l,())):=by
 intro k
 induction k with
 | zero=>
  intro i p n;obtain rfl:i=N l:=by omega
  refine zL (n0:=0) (Al d) (Uj c) (λid _=>b id) (Ut c _ _ _ _ _ _ _ _) ?_;simp only[zJ,Tr.val_brF];rfl
 | succ k e=>
  intro i p n;have x:i<N l:=by omega
  refine zL (n0:=0) (Al d) (Uj c) (λid _=>b id) (Ut c _ _ _ _ _ _ _ _) ?_;have g:c l[i]=Z:=ep.1 a _ (bh x);have j:K ((i:Int).toNat<N l)=Z:=by simpa using x
  have m:l.set (i:Int).toNat l[i]=l:=by simp
  simp only[zM x,zu x,dq l _ x,zg.eta,Tr.val_brT,Tr.val_chkT,g,j,m,zt i um];exact e (i+1) S S
theorem znD:aa zeV.P 159 f159 1:=cM kw
theorem Ks:∀n,FK 159 (H7 (ot n))
 |0=>e7 ⟨f159,znD.1,znD.2.1,znD.q.1⟩ (λ_=>rfl)
 | n+1=>by
  have h:FK 159 (H7 (ot (n+1))):=by
   refine bb (E:=IC (ot n)) (Uj _) λx a C b=>?_
   have⟨⟨o,v,s,l⟩,u⟩:=x;have a:(K (N l<=1073741824)&&l.all (ot n))=Z:=a;simp only[aO,bc]at a;refine zL (n0:=0) (Al (Ks n)) (Uj _) (λid _=>b id) (ztE _ o v s l) ?_;refine fV (by simpa using a.1) ?_;exact zsK (Ks n) b o v s l a.1 a.2 _ 0 rfl (aK _)
  exact h
def zrl:ak:=H7 (ot 16)
theorem zl7:FK 159 zrl:=Ks 16
def TG:=zeV.add 159 zrl
theorem Wq:zx TG:=N9.add zl7
def Zn:=ziN.add 100 zj6
theorem EX:zx Zn:=Wo.add XU
inductive X1 where
 |h4 (l1:zT) (l2:zr) (l27:zr) (i28:Int) (i29:Int) (z0:zq [CP.d zZ]) (z1:zq [CP.d R])
def zff(x:zY)(h:L zl.sl)(a:L ze.sl):Tr (X1⊕ay):=
 let b:=(x.1,x.2.1,x.q.1,(x.r.1.1,x.r.1.2.1,x.r.1.q.1,x.r.1.r.1,x.r.1.t.1,zw x.r.1.u),x.t)
 let c:=R7 b h !=0
 let d:=T h (W 0) (Q zl)
 I (F2 b h&&bif c then Z else zK 0 (N h))
 (br (cond c Z ((N a:Int)!=(N d.1.2.1:Int)))
  (re (tup [agg [J 0,J 0,X []],J 1]) [])
  (Q9 (X1.h4 h a a (N a:Int) 0 (x,()) ((0,0,[]),()))))
def Xs:X1->Tr (X1⊕ay)
 | .h4 x b l h i z e=>
  let c:=(z.1.1,z.1.2.1,z.1.q.1,(z.1.r.1.1,z.1.r.1.2.1,z.1.r.1.q.1,z.1.r.1.r.1,z.1.r.1.t.1,zw z.1.r.1.u),z.1.t)
  let d:=dt c x
  let a:=b.getD (W d) (Q R)
  br (K (i<h))
  (I (zK i (N l)) (br (!bg (l.getD i.toNat (Q R))) (re (tup [agg [J 0,J 0,X []],J 1]) []) (Q9 (X1.h4 x b l h (Γ Δ (i+1)) z e))))
  (I (lM c x) (I (zK d (N b)) (br (a.1==0) (re (tup [agg [J 0,J 0,X []],J 6]) []) (re (tup [agg [J a.1,J a.2.1,X a.q],J 0]) []))))
def zwS(x:zY)(h:L zl.sl)(a:L ze.sl):=am [R,zk] Xs 100000000 (zff x h a)
abbrev zuN:Nat->aY:=λj=>if j=6 then{slots:=[5,8,9,22,23,24],prom:=[(9,Q2,(.sl R))]}else{ }
inductive QE where
 |h6 (i8:zy) (l22:List (L ze.sl)) (i23:Int) (i24:Int) (z0:zq [CP.d R]) (lh_1:List (L ze.sl))
abbrev zxN:QE->Nat×St
 |.h6 a x i h z l=>(6,⟨tm 46 [(5,Qf 0 0),(8,J a),(9,AV.vec 1),(22,O ze.sl x),(23,J i),(24,J h)],[Qa (bm [] [CP.d R] z),AO.vec ze.sl l]⟩)
def znr(x:zY)(h:L zl.sl)(c:zo):Tr (QE⊕ay):=
 let a:=(x.1,x.2.1,x.q.1,(x.r.1.1,x.r.1.2.1,x.r.1.q.1,x.r.1.r.1,x.r.1.t.1,zw x.r.1.u),x.t)
 let b:=T h (W 0) (Q zl)
 I (F2 a h)
 (br (R7 a h !=0) (re (tup [Qb,J 1]) [])
  (I (lM a h) (I (zK 0 (N h)) (Q9 (QE.h6 (dt a h) b.2 (N b.2:Int) 0 (c,()) [])))))
def zgA:QE->Tr (QE⊕ay)
 | .h6 b h x i z l=>
  let a:=h.getD i.toNat (Q ze.sl)
  let c:=T a (W b) (Q R)
  let d:=[a]
  let e:=Γ Δ (i+1)
  br (K (i<x))
  (I (zK i (N h)) (I (zK b (N a)) (br (cond (c.1==z.1.1&&(c.2.1==z.1.2.1&&(c.q==z.1.q&&Z))) (z.1.1!=0) M) (I (K (N a<=1073741824)) (I (K (N l+N d<=1073741824)) (Q9 (QE.h6 b h x e z (l++d))))) (Q9 (QE.h6 b h x e z l)))))
  (re (tup [AV.vec 0,J 0]) [AO.vec ze.sl l])
def M3(x:zY)(h:L zl.sl)(a:zo):=am [ze.sl.sl,zk] zgA 100000000 (znr x h a)
def SZ(x:zY)(h:L zl.sl)(a:zo):=(M3 x h a).isSome
def zcu(x:zY)(h:L zl.sl)(a:zo):=o2 (M3 x h a)
def zqz:=FT [zZ,zl.sl,R] [ze.sl.sl,zk] λx=>M3 x.1 x.2.1 x.q.1
theorem zlh:FK 43 zqz:=EX.T1 (f:=f43) (keep:=zuN) (e:=zxN)
def Zo:=Zn.addL [(43,zqz)]
theorem EY:zx Zo:=EX.addL<|fc zlh<|iP
def ztT(x:zY)(c:L zl.sl)(h:zo):Tr (Empty⊕ay):=
 let b:=(x.1,x.2.1,x.q.1,(x.r.1.1,x.r.1.2.1,x.r.1.q.1,x.r.1.r.1,x.r.1.t.1,zw x.r.1.u),x.t)
 let a:=zcu b c h
 let d:=(b,c)
 let e:=VO d h a.1
 I (SZ b c h)
 (br (a.2!=0) (re (tup [Qb,J 0,J a.2]) [])
  (I (Iw d h a.1) (re (tup [O ze.sl e.1,J e.2,J 0]) [])))
def KI(x:zY)(h:L zl.sl)(a:zo):=am [ze.sl.sl,zk,zk] t0 100000000 (ztT x h a)
def QP(x:zY)(h:L zl.sl)(a:zo):=(KI x h a).isSome
def Yn(x:zY)(h:L zl.sl)(a:zo):=o3 (KI x h a)
def zp2:=FT [zZ,zl.sl,R] [ze.sl.sl,zk,zk] λx=>KI x.1 x.2.1 x.q.1
theorem zkH:FK 20 zp2:=EY.T1 (f:=f20) (keep:=k0) (e:=e0)
def Zi:=Zo.add 20 zp2
theorem I8:zx Zi:=EY.add zkH
variable {a b:zo}
theorem mJ(h:N a.q<=1000000)(x:N b.q<=1000000):mI a b=Z:=by unfold mI;rw[Gg h x];rfl
theorem o9(h:N a.q<=1000000)(x:N b.q<=1000000):qj a b=an a b:=by unfold qj;rw[Gg h x];rfl
theorem zbw(a b:zo):LK a b=Z:=by unfold LK;rw[Pk];rfl
theorem zfY(a b:zo):JS a b=H2 a b:=by unfold JS;rw[Pk];rfl
theorem zf0(a b:zo):UF a b=Z:=by unfold UF;rw[UG];rfl
theorem zoM(a b:zo):Xc a b=vOr a b:=by unfold Xc;rw[UG];rfl
theorem zby(a:zo):LN a=Z:=by unfold LN;rw[Po];rfl
theorem zfZ(a:zo):JU a=CL a:=by unfold JU;rw[Po];rfl
theorem Gj(g:N a.q<=1000000)(i:N b.q<=1000000):sq a b=Y (!fL a b,()):=by
 unfold sq am bT;simp only[zjs,Q8,tT g,tT i,xV g,xV i,zi,fL];generalize ah a=x;generalize ah b=y;have⟨k,n,s⟩:=x;have⟨j,m,o⟩:=y;simp only;by_cases h:k=0
 .subst h;rfl
 .have e:(k==0)=M:=by simpa using h
  have l:(k !=0)=Z:=by simpa using h
  rw[e,l];by_cases d:j=0
  .subst d;have c:(k==0)=M:=e;simp[c];rfl
  .have c:(j==0)=M:=by simpa using d
   rw[c];rfl
theorem qm(h:N a.q<=1000000)(x:N b.q<=1000000):pb a b=Z:=by unfold pb;rw[Gj h x];rfl
theorem tQ(h:N a.q<=1000000)(x:N b.q<=1000000):tP a b=!fL a b:=by unfold tP;rw[Gj h x];rfl
theorem kk(b:Bool):ec b=Hr b:=by unfold ec Hr;rw[mT,mU]
theorem Gd(h:N a.q<=1000000)(x:N b.q<=1000000):si a b=Y (oo a b,()):=by unfold si am bT;simp only[zjk,Q8,qm h x,tQ h x,ql,iZ,zi,oo,kk];cases fL a b<;>rfl
theorem Sf(h:N a.q<=1000000)(x:N b.q<=1000000):xO a b=Z:=by unfold xO;rw[Gd h x];rfl
theorem W9(h:N a.q<=1000000)(x:N b.q<=1000000):tM a b=oo a b:=by unfold tM;rw[Gd h x];rfl
theorem Nx(h:fL a b=Z):bg a=Z/\bg b=Z/\a.1=b.1/\a.1≠0/\ah a=a/\ah b=b:=by
 unfold fL ah at h;unfold ah;cases x:bg a with
 |false=>simp[x]at h
 | true=>
  cases c:bg b with
  | false=>
   simp[x,c]at h
  | true=>
   simp[x,c]at h;exact⟨rfl,rfl,h.2,h.1,sw,sw⟩
theorem JL(h:bg a=Z)(x:a.1≠0):(a.1=1/\a.q=[])\/(a.1=2/\a.2.1=0)\/(a.1=3/\a.q=[]):=by
 have⟨k,n,s⟩:=a;unfold bg at h;simp only at h x|-;have e0:(k==0)=M:=by simpa using x
 rw[e0]at h;by_cases b:k=1
 .subst b;exact .inl ⟨rfl,by simpa using h⟩
 .have g:(k==1)=M:=by simpa using b
  rw[g]at h;by_cases c:k=2
  .subst c;refine .inr (.inl ⟨rfl,?_⟩);simp at h;exact h.1
  .have i:(k==2)=M:=by simpa using c
   rw[i]at h;by_cases d:k=3
   .subst d;refine .inr (.inr ⟨rfl,?_⟩);cases e:(n==0)with
    |true=>simp[e]at h;exact h
    |false=>simp[e]at h;exact h.2
   .have j:(k==3)=M:=by simpa using d
    rw[j]at h;cases h
theorem zfz(k n a:Int)(s x:zN)(e:(s=[]/\x=[])\/(n=0/\a=0)):K (HW [rF k k,kH n a,oI s x]<0)=(cond (K (n<a)) Z (Op.bytesLess s x)):=by
 simp only[HW,rF,kH,oI];rcases e with⟨rfl,rfl⟩|⟨rfl,rfl⟩
 .rcases D3 n a with h|h|h
  .simp[h]
  .subst h;simp[cF]
  .have c:¬n<a:=by omega
   simp[h,c,cF]
 .by_cases d:Op.bytesLess s x=Z
  .simp[d]
  .by_cases b:s=x
   .subst b;simp[cF]
   .have c:(s==x)=M:=dM.2 b;simp[d,c]
theorem JT(p:N a.q<=1000000)(t:N b.q<=1000000):xP a b=Y (vw a b,()):=by
 unfold xP am bT;simp only[zjl,Q8,qm p t,tQ p t,ql,iZ,zi,vw,kk];cases o:fL a b with
 |false=>rfl
 | true=>
  have⟨w,y,l,m,z,A⟩:=Nx o;have u:=JL w m;have v:=JL y (by rw[<-l];exact m);have⟨k,n,s⟩:=a;have⟨D,x,g⟩:=b;simp only at l m u v;subst l;have B:(s=[]/\g=[])\/(n=0/\x=0):=by
   rcases u with⟨i,c⟩|⟨i,c⟩|⟨i,c⟩<;>rcases v with⟨j,d⟩|⟨j,d⟩|⟨j,d⟩<;>first|exact .inl ⟨c,d⟩|exact .inr ⟨c,d⟩|exact zB (i.symm.trans j) (by decide)
  have C:K (LT.lt (α:=Int) (an (k,n,s) (k,x,g)) 0)=(cond (K (n<x)) Z (Op.bytesLess s g)):=by
   unfold an;rw[z,A];exact zfz k n x s g B
  rw[C];by_cases h:n<x
  .have e:K (n<x)=Z:=zC h;simp only[e];rfl
  .have e:K (n<x)=M:=aC h;simp only[e];rfl
theorem Xa(h:N a.q<=1000000)(x:N b.q<=1000000):Db a b=Z:=by unfold Db;rw[JT h x];rfl
theorem zbx(h:N a.q<=1000000)(x:N b.q<=1000000):A9 a b=vw a b:=by unfold A9;rw[JT h x];rfl
variable {n:Int}
theorem W8{i:Int}(a:-9223372036854775808<=n)(b:n<=9223372036854775807)(c:-9223372036854775808<=i)(d:i<=9223372036854775807):
  (cond (K (i>0)) (cond (K (n>Γ Δ (9223372036854775807-i))) Z (cond (K (i<0)) (K (n<Γ Δ (-9223372036854775808-i))) M)) (cond (K (i<0)) (K (n<Γ Δ (-9223372036854775808-i))) M))=
  (cond (K (i>0)) (cond (K (Γ Δ (n+i)<n)) Z (cond (K (i<0)) (K (Γ Δ (n+i)>n)) M)) (cond (K (i<0)) (K (Γ Δ (n+i)>n)) M)):=by
 rcases D3 i 0 with h|h|h
 .have e:K (i>0)=M:=aC S;have x:K (i<0)=Z:=zC h;simp only[e,x,aJ,aG];rw[fe,fe];apply oE.2;rw[bc,bc];omega
 .subst h;rfl
 .have e:K (i>0)=Z:=zC h;have x:K (i<0)=M:=aC S;simp only[e,x,aJ,aG];have:K (n>Γ Δ (9223372036854775807-i))=K (Γ Δ (n+i)<n):=by
   rw[fe,fe];apply oE.2;rw[bc,bc];omega
  rw[this]
theorem R0{i:Int}(a:-9223372036854775808<=n)(b:n<=9223372036854775807)(c:-9223372036854775808<=i)(d:i<=9223372036854775807):
  (cond (K (i>0)) (cond (K (n<Γ Δ (-9223372036854775808+i))) Z (cond (K (i<0)) (K (n>Γ Δ (9223372036854775807+i))) M)) (cond (K (i<0)) (K (n>Γ Δ (9223372036854775807+i))) M))=
  (cond (K (i>0)) (cond (K (Γ Δ (n-i)>n)) Z (cond (K (i<0)) (K (Γ Δ (n-i)<n)) M)) (cond (K (i<0)) (K (Γ Δ (n-i)<n)) M)):=by
 rcases D3 i 0 with h|h|h
 .have e:K (i>0)=M:=aC S;have x:K (i<0)=Z:=zC h;simp only[e,x,aJ,aG];rw[fe,fe];apply oE.2;rw[bc,bc];omega
 .subst h;rfl
 .have e:K (i>0)=Z:=zC h;have x:K (i<0)=M:=aC S;simp only[e,x,aJ,aG];have:K (n<Γ Δ (-9223372036854775808+i))=K (Γ Δ (n-i)>n):=by
   rw[fe,fe];apply oE.2;rw[bc,bc];omega
  rw[this]
theorem Bb(h:kX a)(x:kX b):tO a b=Y (qW a b,()):=by
 unfold tO am bT;simp only[zjm,Q8,qm h.q x.q,tQ h.q x.q,zi,qW];rw[W8 h.1 h.2.1 x.1 x.2.1];cases(cond (!fL a b) Z (a.1!=1))
 .cases(cond (K (b.2.1>0)) (cond (K (Γ Δ (a.2.1+b.2.1)<a.2.1)) Z (cond (K (b.2.1<0)) (K (Γ Δ (a.2.1+b.2.1)>a.2.1)) M)) (cond (K (b.2.1<0)) (K (Γ Δ (a.2.1+b.2.1)>a.2.1)) M))<;>rfl
 .rfl
theorem JV(h:kX a)(x:kX b):xS a b=Z:=by unfold xS;rw[Bb h x];rfl
theorem zbz(h:kX a)(x:kX b):Ba a b=qW a b:=by unfold Ba;rw[Bb h x];rfl
theorem Ge(h:kX a)(x:kX b):sk a b=Y (oq a b,()):=by
 unfold sk am bT;simp only[zjn,Q8,qm h.q x.q,tQ h.q x.q,zi,oq];rw[R0 h.1 h.2.1 x.1 x.2.1];cases(cond (!fL a b) Z (a.1!=1))
 .cases(cond (K (b.2.1>0)) (cond (K (Γ Δ (a.2.1-b.2.1)>a.2.1)) Z (cond (K (b.2.1<0)) (K (Γ Δ (a.2.1-b.2.1)<a.2.1)) M)) (cond (K (b.2.1<0)) (K (Γ Δ (a.2.1-b.2.1)<a.2.1)) M))<;>rfl
 .rfl
theorem Sg(h:kX a)(x:kX b):xQ a b=Z:=by unfold xQ;rw[Ge h x];rfl
theorem Xb(h:kX a)(x:kX b):tN a b=oq a b:=by unfold tN;rw[Ge h x];rfl
theorem Ch(c:Int):pl c=Y (bq c,()):=by
 unfold pl am bT;simp only[zjf,Q8,bq];by_cases h:97<=c
 .have e:K (97<=c)=Z:=zC h;have x:K (c<=90)=M:=aC S;have a:K (65<=c)=Z:=zC S;simp[e,x,a];rfl
 .have e:K (97<=c)=M:=aC h;simp[e];rfl
theorem sD(c:Int):pk c=Z:=by unfold pk;rw[Ch];rfl
theorem wv(c:Int):sC c=bq c:=by unfold sC;rw[Ch];rfl
theorem GB(c:Int):yh c=Y (aE c,()):=rfl
theorem kg(c:Int):kP c=Z:=by unfold kP;rw[GB];rfl
theorem lY(c:Int):lK c=aE c:=by unfold lK;rw[GB];rfl
theorem J5(c:Int):yj c=Y (cB c,()):=by unfold yj am bT;simp only[zjg,Q8,kg,lY,sD,wv,cB];cases aE c<;>cases bq c<;>rfl
theorem Bh(c:Int):yi c=Z:=by unfold yi;rw[J5];rfl
theorem GD(c:Int):GC c=cB c:=by unfold GC;rw[J5];rfl
theorem OT(p:Int->Bool):∀s:zN,dR p s=N s↔∀c∈s,p c.toNat=Z
 |[]=>by simp[dR]
 | c::r=>by
  have i:=OT p r;rw[dR];by_cases h:p c.toNat=Z
  .rw[zf h];simp only[fB,ce,forall_eq_or_imp];constructor
   .intro x;exact⟨h,i.1 S⟩
   .intro x;rw[i.2 x.2]
  .rw[zh h];simp only[fB,ce,forall_eq_or_imp];exact⟨λx=>zB x S,λx=>zB x.1 h⟩
theorem OU(h:bq n=Z):cB n=Z:=by unfold cB;rw[h];rfl
theorem XB(s:zN):sS s=Z↔(1<=N s/\N s<=16/\bq (T s 0 0).toNat=Z/\∀c∈s,cB c.toNat=Z):=by
 unfold sS;cases s with
 |nil=>simp
 | cons c r=>
  have j:K (((c::r).length:Int)>=1)=Z:=zC sg;rw[j];by_cases h:(c::r).length<=16
  .have e:K (((c::r).length:Int)<=16)=Z:=zC S;rw[e];simp only[aG];have i:=OT cB r;by_cases b:bq c.toNat=Z
   .have g:bJ bq cB (c::r)=dR cB r+1:=by rw[bJ,zf b]
    rw[g];constructor
    .intro a;have:dR cB r=N r:=by simp at a;omega
     refine⟨sw,h,b,?_⟩;intro x d;rcases ce.1 d with rfl|d
     .exact OU b
     .exact i.1 this x d
    .rintro⟨_,_,_,k⟩;have:=i.2 (λx d=>k x (np _ d));simp[this]
   .have g:bJ bq cB (c::r)=0:=by rw[bJ,zh b]
    rw[g];constructor
    .intro a;simp at a;omega
    .rintro⟨_,_,a,_⟩;exact zB a b
  .have e:K (((c::r).length:Int)<=16)=M:=aC S;rw[e];simp only[aG,aJ];exact⟨λh=>(by cases h),λa=>zB a.2.1 h⟩
variable {s:zN}
theorem J4(w:N s<=1000000):Du s=Y (eS s,()):=by
 have u:=nP (t:=yI) (Φ:=λr=>r=(.kb M,[])) 1 (λi=>.h2 s (i:Int)) (λi=>cB (T s i 0).toNat=Z) (N s) (by
  intro i a _;have n:(yI (.h2 s (i:Int))).val=if(!cB (T s i 0).toNat)=Z then Y (.inr (.kb M,[]))else Y (.inl (.h2 s ((i+1:Nat):Int))):=by
   show(yI (.h2 _ _)).val=_;unfold yI;simp only[Q8,zM a,zu a,aI,Bh,GD,zi];rw[zt i um]
  by_cases h:cB (T s i 0).toNat=Z
  .exact .inl ⟨h,zG.of (by rw[n,zh (by rw[h];simp)])⟩
  .exact .inr ⟨h,_,zV.of (by rw[n,zf (by simpa using h)]),rfl⟩)
 have a:(zje s).val=Y (.inl (.h2 s ((0:Nat):Int))):=rfl;have m:=aT (l:=s) (d:=0) (Q:=λc=>cB c.toNat=Z);have o:=XB s;rcases u with⟨g,j⟩|⟨g,r,j,rfl⟩
 .refine zz a (j.ends (zV.of (r:=(.bool (eS s),[])) ?_)) S rfl;show(yI (.h2 _ _)).val=_;unfold yI;simp only[Q8,zJ,sD,wv];have e:eS s=(cond (K (1<=(N s:Int))) (cond (K ((N s:Int)<=16)) (bq (T s (W 0) 0).toNat) M) M):=by
   apply oE.2;unfold eS;rw[o];by_cases k:1<=N s
   .have x:K (1<=(N s:Int))=Z:=zC S;rw[x];by_cases p:N s<=16
    .have b:K ((N s:Int)<=16)=Z:=zC S;rw[b];exact⟨λh=>h.q.1,λh=>⟨k,p,h,m.1 g⟩⟩
    .have b:K ((N s:Int)<=16)=M:=aC S;rw[b];exact⟨λh=>zB h.2.1 p,λh=>(by cases h)⟩
   .have x:K (1<=(N s:Int))=M:=aC S;rw[x];exact⟨λh=>zB h.1 k,λh=>(by cases h)⟩
  rw[e];by_cases k:1<=N s
  .have e0:zK 0 (N s)=Z:=zu (i:=0) S;rw[e0];cases K (1<=(N s:Int))<;>cases K ((N s:Int)<=16)<;>rfl
  .have x:K (1<=(N s:Int))=M:=aC S;rw[x];rfl
 .have e:eS s=M:=by
   cases v:eS s with
   |false=>rfl
   |true=>exact zB (m.2 (o.1 v).r) g
  rw[e];exact zz a j S rfl
theorem Bg(h:N s<=1000000):yg s=Z:=by unfold yg;rw[J4 h];rfl
theorem GA(h:N s<=1000000):wu s=eS s:=by unfold wu;rw[J4 h];rfl
def Bo:List zN:=match(ZR []).val with
 |some (.inl (.h3 _ l _))=>l
 |_=>[]
theorem zbT:N Bo=38:=kw
theorem zbU:(Bo.all λw=>(Hv.map (·.1)).contains w)=Z:=kw
theorem zbV:(Hv.all λw=>Bo.contains w.1)=Z:=kw
theorem S1:(Hv.all λw=>w.2)=Z:=kw
theorem Va(s:zN):∀l:List (zN×Bool),(l.all λw=>w.2)=Z->(U9 s l M=Z↔s∈l.map (·.1))
 |[],_=>by simp[U9]
 | (w,b)::r,h=>by
  simp only[List.all_cons,aO]at h;obtain⟨rfl,h⟩:=h;rw[U9];by_cases e:(s==w)=Z
  .have:s=w:=bV e;rw[zf e];simp[this]
  .rw[zh e,Va s r h];have:s≠w:=λh=>e (by rw[h];simp)
   simp[this]
theorem UU(s:zN):kh s=Z↔s∈Bo:=by
 unfold kh;rw[Va s Hv S1];constructor
 .intro h;obtain⟨w,x,rfl⟩:=bt.1 h;have:=ep.1 zbV w x;simpa using this
 .intro h;have:=ep.1 zbU s h;simpa using this
theorem PI(s:zN):Mf s=Y (kh s,()):=by
 have o:=zbT;have n:=nP (t:=Hf) (Φ:=λr=>r=(.kb Z,[])) 1 (λi=>.h3 s Bo (i:Int)) (λi=>T Bo i (zj Sh.str)≠s) (N Bo) (by
  intro i a _;have k:(Hf (.h3 s Bo (i:Int))).val=if(T Bo i (zj Sh.str)==s)=Z then Y (.inr (.kb Z,[]))else Y (.inl (.h3 s Bo ((i+1:Nat):Int))):=by
   show(Hf (.h3 _ _ _)).val=_;unfold Hf;simp only[Q8,zM a,zu a,aI,zi];rw[zt i um]
  by_cases h:T Bo i (zj Sh.str)=s
  .exact .inr ⟨λx=>x h,_,zV.of (by rw[k,zf (by rw[h];simp)]),rfl⟩
  .exact .inl ⟨h,zG.of (by rw[k,zh (λx=>h (bV x))])⟩)
 have a:(ZR s).val=Y (.inl (.h3 s Bo ((0:Nat):Int))):=rfl;have j:=aT (l:=Bo) (d:=zj Sh.str) (Q:=λw=>w≠s);rcases n with⟨c,x⟩|⟨c,r,x,rfl⟩
 .have e:kh s=M:=by
   cases b:kh s with
   |false=>rfl
   |true=>exact zB rfl (j.1 c s ((UU s).1 b))
  rw[e];refine zz a (x.ends (zV.of (r:=(.kb M,[])) ?_)) S rfl;show(Hf (.h3 _ _ _)).val=_;unfold Hf;simp only[Q8,zJ];rfl
 .have e:kh s=Z:=by
   cases b:kh s with
   |true=>rfl
   |false=>exact zB (j.2 λw m g=>by rw[g]at m;rw[(UU s).2 m]at b;cases b) c
  rw[e];exact zz a x S rfl
theorem PH(s:zN):GG s=Z:=by unfold GG;rw[PI];rfl
theorem UL(s:zN):PG s=kh s:=by unfold PG;rw[PI];rfl
theorem J6(h:N s<=1000000):yl s=Y (aD s,()):=by unfold yl am bT;simp only[zub,Q8,Bg h,GA h,PH,UL,aD];cases eS s<;>rfl
theorem cI(h:N s<=1000000):eD s=Z:=by unfold eD;rw[J6 h];rfl
theorem fS(h:N s<=1000000):cg s=aD s:=by unfold cg;rw[J6 h];rfl
mutual
def vB:zg->Prop
 |.mk _ v s l=>kX v/\N s<=1000000/\lB l
def lB:List zg->Prop
 |[]=>True
 |e::r=>vB e/\lB r
end
theorem lB.mem:∀{l:List zg},lB l->∀e∈l,vB e
 |[],_,e,h=>by simp at h
 | x::r,h,e,a=>by
  rw[lB]at h;rcases ce.1 a with rfl|a
  .exact h.1
  .exact lB.mem h.2 e a
def H1(o:zN):Bool:=bif o==jf then Z else bif o==wS then Z else bif o==[61]then Z else bif o==[60]then Z else bif o==[43]then Z else o==[45]
theorem Pw(s:zN):Sm s=Y (H1 s,()):=rfl
theorem zbB(s:zN):LZ s=Z:=by unfold LZ;rw[Pw];rfl
theorem zf1(s:zN):UK s=H1 s:=by unfold UK;rw[Pw];rfl
def cZ:Nat->zg->Bool
 |0,_=>M
 | d+1,.mk o v s l=>
  if(o==pI)=Z then(cond (bg v) (cond (s==[]) ((N l:Int)==0) M) M)else
  if(o==fh)=Z then(cond (bF v) (cond (eS s) (cond (!kh s) ((N l:Int)==0) M) M) M)else
  if(cond (o==oH) Z (o==qM))=Z then(cond (bF v) (cond (s==[]) (match l with|[a]=>cZ d a|_=>M) M) M)else
  if H1 o=Z then(cond (bF v) (cond (s==[]) (match l with|[a,b]=>bif cZ d a then cZ d b else M|_=>M) M) M)else M
def nE:Nat->zg->Nat
 |0,_=>0
 |d+1,.mk _ _ _ l=>1+(l.map (nE d)).sum
theorem XC(d:Nat)(h:d<=1000):Γ Δ (((d+1:Nat):Int)-1)=(d:Int):=gS d um
theorem JZ:∀(g d:Nat)(e:zg),d<=12->d<g->vB e->gY g e (d:Int)=Y (cZ d e,())
 |0,_,_,_,h,_=>zB h S
 | g+1,0,e,_,_,_=>by
  rw[gY];unfold LY am bT;rfl
 | g+1,d+1,.mk o v s l,H,P,B=>by
  rw[vB]at B;have⟨A,z,F⟩:=B;have u:∀a∈l,gY g a (d:Int)=Y (cZ d a,()):=λa y=>JZ g d a S S (F.mem a y)
  rw[gY];unfold LY am bT;have G:(((d+1:Nat):Int)==0)=M:=dM.2 S;simp only[ZS,Q8,zn,zg.op,zg.v,zg.s,zg.l,mH A.q,qi A.q,Bg z,GA z,PH,UL,zbB,zf1,XC d S,zi,G]
  match l,u with
  | [],_=>
   simp only[cZ,bF];rcases zW (o==pI)with k|k
   .rcases zW (bg v)with i|i<;>rcases zW (s==[])with j|j<;>(simp only[k,i,j,aG,aJ,zi,zm,zA,eW];rfl)
   rcases zW (o==fh)with m|m
   .rcases zW (bF v)with i|i<;>rcases zW (eS s)with j|j<;>rcases zW (kh s)with n|n<;>(simp only[bF]at i;simp only[k,m,i,j,n,aG,aJ,zi,zm,zA,eW,bW,dd];rfl)
   rcases zW (cond (o==oH) Z (o==qM))with p|p
   .rcases zW (bF v)with i|i<;>rcases zW (s==[])with j|j<;>(simp only[bF]at i;simp only[k,m,p,i,j,aG,aJ,zi,zm,zA,eW];rfl)
   rcases zW (H1 o)with t|t
   .rcases zW (bF v)with i|i<;>rcases zW (s==[])with j|j<;>(simp only[bF]at i;simp only[k,m,p,t,i,j,aG,aJ,zi,zm,zA,eW];rfl)
   .simp only[k,m,p,t,zm,zA,eW];rfl
  | [a],u=>
   have y:=u a sw;simp only[cZ,bF,show T [a] (W 0) (Q Q5)=a from rfl,y,show zK 0 [a].length=Z from rfl,dz,show∀x,qo (Y (x,()))=x from λ_=>rfl];rcases zW (o==pI)with k|k
   .rcases zW (bg v)with i|i<;>rcases zW (s==[])with j|j<;>(simp only[k,i,j,aG,aJ,zi,zm,zA,eW];rfl)
   rcases zW (o==fh)with m|m
   .rcases zW (bF v)with i|i<;>rcases zW (eS s)with j|j<;>rcases zW (kh s)with n|n<;>(simp only[bF]at i;simp only[k,m,i,j,n,aG,aJ,zi,zm,zA,eW,bW,dd];rfl)
   rcases zW (cond (o==oH) Z (o==qM))with p|p
   .rcases zW (bF v)with i|i<;>rcases zW (s==[])with j|j<;>rcases zW (cZ d a)with n|n<;>(simp only[bF]at i;simp only[k,m,p,i,j,n,aG,aJ,zi,zm,zA,eW];rfl)
   rcases zW (H1 o)with t|t
   .rcases zW (bF v)with i|i<;>rcases zW (s==[])with j|j<;>rcases zW (cZ d a)with n|n<;>(simp only[bF]at i;simp only[k,m,p,t,i,j,n,aG,aJ,zi,zm,zA,eW];rfl)
   .simp only[k,m,p,t,zm,zA,eW];rfl
  | [a,b],u=>
   have y:=u a sw;have E:=u b sw;simp only[cZ,bF,show T [a,b] (W 0) (Q Q5)=a from rfl,show T [a,b] (W 1) (Q Q5)=b from rfl,y,E,show zK 0 [a,b].length=Z from rfl,show zK 1 [a,b].length=Z from rfl,dz,show∀x,qo (Y (x,()))=x from λ_=>rfl];rcases zW (o==pI)with k|k
   .rcases zW (bg v)with i|i<;>rcases zW (s==[])with j|j<;>(simp only[k,i,j,aG,aJ,zi,zm,zA,eW];rfl)
   rcases zW (o==fh)with m|m
   .rcases zW (bF v)with i|i<;>rcases zW (eS s)with j|j<;>rcases zW (kh s)with n|n<;>(simp only[bF]at i;simp only[k,m,i,j,n,aG,aJ,zi,zm,zA,eW,bW,dd];rfl)
   rcases zW (cond (o==oH) Z (o==qM))with p|p
   .rcases zW (bF v)with i|i<;>rcases zW (s==[])with j|j<;>rcases zW (cZ d a)with n|n<;>rcases zW (cZ d b)with w|w<;>(simp only[bF]at i;simp only[k,m,p,i,j,n,w,aG,aJ,zi,zm,zA,eW];rfl)
   rcases zW (H1 o)with t|t
   .rcases zW (bF v)with i|i<;>rcases zW (s==[])with j|j<;>rcases zW (cZ d a)with n|n<;>rcases zW (cZ d b)with w|w<;>(simp only[bF]at i;simp only[k,m,p,t,i,j,n,w,aG,aJ,zi,zm,zA,eW];rfl)
   .simp only[k,m,p,t,zm,zA,eW];rfl
  | a::b::c::r,_=>
   have e0:((((a::b::c::r).length:Nat):Int)==0)=M:=dM.2 sg;have C:((((a::b::c::r).length:Nat):Int)==1)=M:=dM.2 sg;have D:((((a::b::c::r).length:Nat):Int)==2)=M:=dM.2 sg;simp only[cZ,bF,e0,C,D];rcases zW (o==pI)with k|k
   .rcases zW (bg v)with i|i<;>rcases zW (s==[])with j|j<;>(simp only[k,i,j,aG,aJ,zi,zm,zA,eW];rfl)
   rcases zW (o==fh)with m|m
   .rcases zW (bF v)with i|i<;>rcases zW (eS s)with j|j<;>rcases zW (kh s)with n|n<;>(simp only[bF]at i;simp only[k,m,i,j,n,aG,aJ,zi,zm,zA,eW,bW,dd];rfl)
   rcases zW (cond (o==oH) Z (o==qM))with p|p
   .rcases zW (bF v)with i|i<;>rcases zW (s==[])with j|j<;>(simp only[bF]at i;simp only[k,m,p,i,j,aG,aJ,zi,zm,zA,eW];rfl)
   rcases zW (H1 o)with t|t
   .rcases zW (bF v)with i|i<;>rcases zW (s==[])with j|j<;>(simp only[bF]at i;simp only[k,m,p,t,i,j,aG,aJ,zi,zm,zA,eW];rfl)
   .simp only[k,m,p,t,aJ,zm,zA,eW];rfl
end
end Cad
