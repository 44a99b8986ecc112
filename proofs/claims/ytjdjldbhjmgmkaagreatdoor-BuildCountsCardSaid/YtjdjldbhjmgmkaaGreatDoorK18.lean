/- Units. -/
import Derived.Test.YtjdjldbhjmgmkaaGreatDoorK17
import Derived.Lib.AppendZeros
import Derived.Lib.AppendZerosOnto
namespace Cad
open Go Go.Proofs Go.Sort
open List renaming length→Io
open IntKind renaming wrap→Γ,i64→Δ
open Tr renaming chk→Qc,«to»→Q9,val→Q8
open AV renaming nils→Qb
open AO renaming box→Qa
open Sh renaming expr→Q5
open Bool renaming false→Q4,true→Q3
open Option renaming none→Q2,some→Q1
open Decidable renaming decide→Q0
open Int (toNat)
open List (getD)
open Tr (chk br re)
open AV (nils agg tup ptr kb str sl)
set_option maxHeartbeats 4000000
set_option maxRecDepth 100000
noncomputable section
theorem Yj:∀l:List Value,Io l=46->∃O P S v3 T U W X Y Z v x a b c d e g i j v20 k m n o p q s t u w y z A B C D E F G H I J L M N,l=[O,P,S,v3,T,U,W,X,Y,Z,v,x,a,b,c,d,e,g,i,j,v20,k,m,n,o,p,q,s,t,u,w,y,z,A,B,C,D,E,F,G,H,I,J,L,M,N]:=by
 intro l h
 match l,h with
 |O::P::S::v3::T::U::W::X::Y::Z::v::x::a::b::c::d::e::g::i::j::v20::k::m::n::o::p::q::s::t::u::w::y::z::A::B::C::D::E::F::G::H::I::J::L::M::N::[],_=>exact⟨O,P,S,v3,T,U,W,X,Y,Z,v,x,a,b,c,d,e,g,i,j,v20,k,m,n,o,p,q,s,t,u,w,y,z,A,B,C,D,E,F,G,H,I,J,L,M,N,rfl⟩
theorem Uf(n:Int)(w:World)(T U W v3 X Y S Z v8 v9 v h x b c d g i j k l m o p q s u y z A B C D E F G H I J L M N O P:Value):
  Dw.wp Tryz.prog (λe a w'=>e=.exit 0/\w'=w/\∃t:List Value,a=⟨t.toArray,[]⟩/\Io t=46/\t[6]?=Q1 S) {tmps:=#[T,U,W,v3,X,Y,S,Z,v8,v9,v,h,x,b,c,d,g,i,j,(Value.int .i64 n),(Value.int .i64 n),k,l,m,o,p,q,s,u,y,z,A,B,C,D,E,F,G,H,I,J,L,M,N,O,P],defers:=[]} w:=by
 simp only[Dw,Tryz.f32]
 go_wp2
theorem zte:Tryz.f32.results=#[.tmp 4]:=kw
variable {w:World}{v:Value}
theorem UG{tmps:Array Value}(h:tmps[4]?=Q1 v):(results Tryz.f32 tmps).run Tryz.prog w=.ok v w:=by
 have x:tmps.getD 4 undef=v:=by rw[pz,h];rfl
 rw[EC,zte];simp[EA,x]
theorem YB:cB (0,0,[])=.agg #[.int .i64 0,.int .i64 0,.string ⟨#[]⟩]:=rfl
variable {U:Nat->Prop}
theorem zc9{base:Nat}(I:∀b,U b->b<base){l:List V3}[Inhabited V3](B:∀x∈l,ez x.1)(F:Io l<=1000){m:List V3}(G:List.Perm m l)(q:w.ownsRow base 30 3 v (Io l) (m.flatMap ki)):
  Rv w U (λ_=>Q2) (.sl zf (m.map (·.1))) v:=by
 have A:Io m=Io l:=G.length_eq;rcases q.2 with⟨rfl,N⟩|⟨g,u,e,rfl,J,o,M,L,y,C⟩
 .have:m=[]:=List.length_eq_zero_iff.1 ow;rw[this];exact .sl0 zf _ _
 .have H:(m.map (·.1)).length=Io l:=by simp[A]
  rw[<-H];refine .sl zf _ g 0 u (λi j=>(e[i*3+j]?).getD undef) ow um (lZ.1 o).1 (λh=>by have:=I g h;omega) (λi j E t=>?_) (λi E j c a=>?_)
  .have t:j<3:=t;have z:i*3+j<e.size:=by rw[y];omega
   simp[World.cell?,o,pA z,show zf.size=3 from rfl]
  .have p:i<Io m:=by simpa using E
   have t:j<3:=by
    have:=(cR.1 a).1
    rwa [ag]at this
   have D:=uZ m (i*3+j) ow;rw[show(i*3+j)/3=i by omega,show(i*3+j)%3=j by omega,<-C,List.getElem?_take_of_lt ow,ph,getElem!_pos m i p]at D;rw[D];simp only[bM];have d:=B m[i] (G.mem_iff.1 (bp p));simp only[List.getElem_map]at a;generalize m[i]=x at a d;obtain⟨⟨k,n,s⟩,O⟩:=x
   match j,t,a with
   |0,_,a=>cases a;exact .int _ _ d.1
   |1,_,a=>cases a;exact .int _ _ d.2.1
   |2,_,a=>cases a;exact .str _ d.2.2
variable {E:cd}{C:ew}
theorem zdG(qp:E.P=Tryz.prog)(hC:∀id,C.ρ0 id=Q2)(es:List ((Int×Int×zH)×Int))(h3:Io es<=1000)(hn:(es.map (·.1)).Nodup) (hm:∀p∈es,bh p.1=Q3) (x5:zq) (i2:List (Sem zf.sl)) (n:Int):
  Reach E C 32 (aa Tryz.f32 4) (Ov (.h4 x5 i2 n n es)).2 (λr h=>aS h [zf.sl] r=Q1 (pT (es.map (·.1)),())):=by
 intro b cs a w U ρ X x2 H D;rw[qp];rw[zke];have t:a.tmps.toList.length=46:=by rw[<-H.tm.len];rfl
 obtain⟨⟨ts⟩,df⟩:=a;have I:df=[]:=H.df;subst I;obtain⟨v0,v1,v2,v3,v4,v5,v6,v7,v8,v9,m7,m8,m9,n1,n2,n3,n4,n5,n6,n7,v20,n8,n9,v23,v24,v25,v26,v27,v28,v29,v30,v31,v32,v33,v34,v35,v36,v37,v38,v39,v40,v41,v42,v43,v44,v45,rfl⟩:=Yj ts t;have r6:=H.tm.rv 6 (.mp 0) v6 rfl rfl;have i3:=H.tm.rv 19 (.int .i64 n) n7 rfl rfl;have i4:=H.tm.rv 20 (.int .i64 n) v20 rfl rfl;have ho:bm w U ρ 0 (.vmap Q3 es):=H.hp.ob 0;have x3:=H.hp.blk 0;clear t;cases i3 with|int _ _ _=>
 cases i4 with|int _ _ _=>
 obtain⟨r,S,d,q1,q2,q3,q4,q5,q6⟩:=ho;cases r6 with|mp _ _ q7 _=>
 rw[q1]at q7;cases q7;have a3:C.B0 r\/C.w0.heap.size<=r:=x3 r ⟨rfl,_,q1,rfl⟩;obtain⟨c,u,Z,G,Y⟩:=zct (P:=Tryz.prog) (mt:=158) (kt:=30) (et:=159) Tryz.underlying158 kw (k:=(0,0,[])) ⟨by unfold cZ;decide,by unfold cZ;decide,sw⟩ q3 q4 q5 q6;rw[YB]at u;have a4:r<w.heap.size:=(lZ.1 q3).1;obtain⟨B,s⟩:∃B:World,({w with heap:=w.heap.setIfInBounds r (.map c d)}:World)=B:=⟨_,rfl⟩;rw[s]at u;have hs1:B.heap.size=w.heap.size:=by rw[<-s];simp
 have h5:B.heap[r]?=Q1 (.map c d):=by rw[<-s];simp[a4]
 have a0:∀j,j≠r->B.heap[j]?=w.heap[j]?:=λj A=>by rw[<-s];simp[Array.getElem?_setIfInBounds_ne (Ne.symm A)]
 have h6:=MN Z;have x4:((wV es (0,0,[])).map (·.1)).Nodup:=hn.sublist ((Lg _ _).map _);have x6:=Lg es (0,0,[]);have hk:∀x∈c.toList,∃k,x.key=cB k/\k∈(wV es (0,0,[])).map (·.1):=λx o=>by
  have:x.key∈c.toList.map (·.key):=aE.2 ⟨x,o,rfl⟩;rw[h6]at this;obtain⟨k,M,k2⟩:=aE.1 this;exact⟨k,k2.symm,M⟩
 have h9:c.size<=1000:=by
  have:=congrArg Io h6;simp only[cz,Array.length_toList]at this;rw[this];exact aX x6.length_le h3
 have hinh:Inhabited V3:=⟨⟨(0,0,[]),kw⟩⟩;have m:∀x:zo,x∈(wV es (0,0,[])).map (·.1)->bh x=Q3/\ez x/\x.1≠0:=λx o=>by
  obtain⟨i0,i1⟩:=(Cm (0,0,[]) hn x).1 o;obtain⟨p,q,rfl⟩:=aE.1 i0;exact⟨hm p q,(q5 p q).2,λh0=>i1 (MC (hm p q) h0)⟩
 obtain⟨e1,a1,wx,⟨rfl,rfl,ts,rfl,a7,a6⟩,W⟩:=Uf n w v0 v1 v2 v3 v4 v5 (.map (Q1 r)) v7 v8 v9 m7 m8 m9 n1 n2 n3 n4 n5 n6 n8 n9 v23 v24 v25 v26 v27 v28 v29 v30 v31 v32 v33 v34 v35 v36 v37 v38 v39 v40 v41 v42 v43 v44 v45 b [.inLoop Dw,.inBlock 0,.code EB] cs;have i5:=W [.code EB] rfl;obtain⟨u0,u1,u2,u3,u4,u5,u6,u7,u8,u9,i6,i7,i8,i9,j0,j1,j2,j3,j4,j5,j6,j7,j8,j9,k3,k4,k5,k6,k7,k8,k9,l0,l1,l2,l3,l4,l5,l6,l7,l8,l9,m1,m2,m3,m4,m6,rfl⟩:=Yj ts a7;have a8:u6=.map (Q1 r):=by simpa using a6
 subst a8
 obtain⟨e2,a2,O,⟨rfl,v,a9,I,hK⟩,F⟩:=zdI (λe a O=>e=.ret/\∃v,a.tmps[4]?=Q1 v/\a.defers=[]/\zbD B c v O) (zbD B c) r c d wx B u h5 G Y (λx o=>(hk x o).imp λ_ h=>h.1) h9
  (λv wr seen E hC h0=>Tn hC h0 (λp q=>by
   obtain⟨s1,s2⟩:=hC.sub p q;obtain⟨k,M,k2⟩:=hk _ s1;rw[s2]at M;exact pZ M▸(m k k2).1) h9) (λv O a hS h4 hd=>⟨rfl,v,h4,hd,hS⟩) u0 u1 u2 u3 u4 u5 u7 u8 u9 i6 i7 i8 i9 j0 j1 j2 j3 j4 j5 j6 j7 j8 j9 k3 k4 k5 k6 k7 k8 k9 l0 l1 l2 l3 l4 l5 l6 l7 l8 l9 m1 m2 m3 m4 m6 b [] cs
 obtain⟨x0,a5⟩:=F;obtain⟨E,l,N,x1,nd,hl,h7,i⟩:=hK;have J:=T8 Z x4 (λp q=>(m _ (aE.2 ⟨p,q,rfl⟩)).1) (λp q=>(m _ (aE.2 ⟨p,q,rfl⟩)).2.2) N x1 nd Y hl;have T:pT ((wV es (0,0,[])).map (·.1))=pT (es.map (·.1)):=tr (λx o=>(m x o).1) (λx o=>by obtain⟨p,q,rfl⟩:=aE.1 o;exact hm p q) λx o=>by
  rw[Cm (0,0,[]) hn x];exact⟨λh=>h.1,λh=>⟨h,λe=>o (by rw[e])⟩⟩
 have x8:∀x∈l,ez x.1:=λx o=>by
  have:x.1∈E.map (·.1):=by rw[<-hl];exact aE.2 ⟨x,o,rfl⟩
  obtain⟨p,q,e⟩:=aE.1 this;obtain⟨s1,s2⟩:=N p q;obtain⟨k,M,k2⟩:=hk _ s1;rw[s2]at M;rw[<-e];exact pZ M▸(m k k2).2.1
 have x9:Io l<=1000:=by
  have h1:Io l=Io E:=by simpa using congrArg Io hl
  have h2:(E.map λp=>p.2.born).length<=(c.toList.map (·.born)).length:=MF nd λx o=>by
   obtain⟨p,q,rfl⟩:=aE.1 o;exact aE.2 ⟨p.2,(N p q).1,rfl⟩
  simp only[cz,Array.length_toList]at h2;omega
 have y:∀j,j<wx.heap.size->j≠r->O.heap[j]?=wx.heap[j]?:=λj A x7=>by rw[i.block j ow,a0 j x7]
 have z:wx.heap.size<=O.heap.size:=by have:=i.size;omega
 have h8:=zc9 (U:=U) (base:=B.heap.size) (λb hb=>by have:=D.ub b hb;omega) x8 x9 (List.mergeSort_perm l _) h7;rw[J,T]at h8;refine⟨.returned v,O,{b.at a2 x0 with mode:=.returning},⟨v,.sl zf (pT (es.map (·.1))),[],U,λ_=>Q2,rfl,?_,h8,⟨λid=>by simp[bm],λ_ _ _ h=>by simp[af]at h,λ_ _ h=>by simp[af]at h⟩,λ_ _=>rfl,λid v h=>(by rw[hC id]at h;cases h),?_⟩,lk i5 a5,X,rfl,I,x2,Tryz.f32,?_,UG a9⟩
 .rfl
 .refine⟨D.ext.trans ⟨z,?_,?_,?_,λx o=>?_⟩,λj A hB=>?_,λj A=>gE (D.ub j A) z,D.u1,D.u2,λg=>(D.gl g).mono z (λj A hu=>y j A λe=>hu (e▸q2)) (λ_ _ h=>h) (λ_ _ h=>h)⟩
  .rw[i.os,<-s]
  .rw[i.output,<-s]
  .rw[i.tape,<-s]
  .by_cases L:x.block=r
   .have h1:O.heap[x.block]?=Q1 (.map c d):=by rw[L,i.block r ow,h5]
    have h2:wx.heap[x.block]?=Q1 (.map S d):=by rw[L,q3]
    simp[World.frozen?,h1,h2]
   .exact yH (y _ o L)
  .rw[y j (gE A D.ext.sz) λe=>a3.elim (λh=>hB (e▸h)) (λh=>by omega)];exact D.same j A hB
 .show Tryz.prog.funcs[b.fn]?=Q1 Tryz.f32;rw[X];kernel_rfl
variable {n gas:Nat}{keep:Nat->aT}
theorem Ev{g:Type}{e:FuncId}{f:Func}{Q:AV->List AO->Prop}{n0:Nat}(d:zu E)(j:zM E.P e f n)(c:∀id,n0<=id->C.ρ0 id=Q2){x:g->Nat×St}{K:List Item}{b:St}{i:Tr (g⊕aw)}
  (a:run E n0 keep f.results.toList gas K b=i.map (lf f x)) {s:g} (k:i.val=Q1 (.inl s)) (h:Reach E C e (aa f (x s).1) (x s).2 Q):Reach E C e K b Q:=
 nP d j c (l:=lf f x (.inl s)) (by rw[a,Tr.val_map,k];rfl) h
def Kx(a:ap)(x:zP):zw:=(getD x 0 (zi zk)).2.map λh:zw=>getD h (toNat (de a x)) (zi zf)
def HT(a:ap)(x:zP):Bool:=mB a x&&(zK 0 (Io x)&&(Q0 (Io (getD x 0 (zi zk)).2<=1000)&&List.all (getD x 0 (zi zk)).2 λh:zw=>zK (de a x) (Io h)&&bh (getD h (toNat (de a x)) (zi zf))))
def cj(x:ap)(h:zP):zw:=pT (Kx x h)
def zm4:=zY [am,zk.sl] [zf.sl] (λx=>HT x.1 x.2.1) λx=>(cj x.1 x.2.1,())
theorem HZ{k:Int×Int×zH}{n:Int}:∀{es:List ((Int×Int×zH)×Int)},(kN es k n).map (·.1)=if k∈es.map (·.1)then es.map (·.1)else es.map (·.1)++[k]
 |[]=>rfl
 | p::r=>by
  show(cond (k==p.1) ((k,n)::r) (p::kN r k n)).map (·.1)=_;by_cases h:k=p.1
  .simp[h]
  .have a:(k==p.1)=Q4:=by simpa using h
   rw[a,aA,dC,HZ (es:=r),dC];by_cases x:k∈r.map (·.1)
   .rw[ze x,ze (by simp only[cf];exact .inr x)]
   .rw[zg x,zg (by simp only[cf];exact λe=>e.elim h x)];rfl
theorem zcS{h:ap}{x:zP}(a:mB h x=Q3)(b:zK 0 (Io x)=Q3):(zko h x).val=Q1 (.inl (.h4 (de h x) (getD x 0 (zi zk)).2 (Io (getD x 0 (zi zk)).2:Int) 0 [])):=by unfold zko;simp only[zm];show(Qc (mB h x) (Qc (zK 0 (Io x)) _)).val=_;rw[a,b];rfl
theorem zhQ:FK 32 zm4:=by
 refine aO (E:=yY) (f:=Tryz.f32) (bL kw) λx y C B=>?_
 obtain⟨l,g,u⟩:=x;have L:zM yY.P 32 Tryz.f32 2:=bL kw;have F:∀x,run yY 0 zgA Tryz.f32.results.toList 400 (bq Tryz.f32) (aY Tryz.f32.ntmps (iV [Q1 am,Q1 zk.sl] x) [])=(zko x.1 x.2.1).map (lf Tryz.f32 Ov):=by intro x;kernel_rfl
 have H:∀s,run yY 0 zgA Tryz.f32.results.toList 400 (aa Tryz.f32 (Ov s).1) (Ov s).2=(ztp s).map (lf Tryz.f32 Ov):=by intro s;cases s<;>kernel_rfl
 simp only[HT,aF,aR,dJ]at y;obtain⟨T,U,W,A⟩:=y;generalize q:(getD g 0 (zi zk)).2=c at W A;refine Ev xw L (λid _=>B id) (F (l,g,u)) (zcS T U) ?_;rw[q]
 have I:∀(m i:Nat)(j:List ((Int×Int×zH)×Int)),Io c-i=m->i<=Io c->(j.map (·.1)).Nodup->Io j<=i->(∀x,x∈j.map (·.1)↔x∈(c.take i).map λt:zw=>getD t (toNat (de l g)) (zi zf))->
   Reach yY C 32 (aa Tryz.f32 (Ov (.h4 (de l g) c (Io c) i j)).1) (Ov (.h4 (de l g) c (Io c) i j)).2 λr h=>aS h [zf.sl] r=Q1 (cj l g,()):=by
  intro m
  induction m with
  | zero=>
   intro i j hm Y z Z d;obtain rfl:i=Io c:=by omega
   rw[gF]at d;have o:∀x,x∈(c.map λt:zw=>getD t (toNat (de l g)) (zi zf))->bh x=Q3:=λx y=>by
    obtain⟨t,hr,rfl⟩:=aE.1 y;exact(A t hr).2
   have:=zdG (E:=yY) rfl B j ow z (λp hp=>o _ ((d _).1 (aE.2 ⟨p,hp,rfl⟩))) (de l g) c (Io c);have e:cj l g=pT (j.map (·.1)):=by
    unfold cj Kx;rw[q];exact tr o (λx y=>o x ((d x).1 y)) λx _=>(d x).symm
   rw[e];exact this
  | succ m ih=>
   intro i j hm Y z Z d;have v:i<Io c:=by omega
   have D:=A c[i] (bp v);have G:=HZ (k:=getD c[i] (toNat (de l g)) (zi zf)) (n:=0) (es:=j);refine Ev xw L (λid _=>B id) (H (.h4 (de l g) c (Io c) i j)) (s:=.h4 (de l g) c (Io c) ((i+1:Nat):Int) (kN j (getD c[i] (toNat (de l g)) (zi zf)) 0)) ?_ (ih (i+1) _ ow ow ?_ ?_ ?_)
   .have M:Q0 ((i:Int)<(Io c:Int))=Q3:=by simpa using v
    have N:zK (i:Int) (Io c)=Q3:=by simp[zK];omega
    have O:Γ Δ ((i:Int)+1)=((i+1:Nat):Int):=by
     exact zt i um
    have S:getD c (toNat (i:Int)) (zi zf.sl)=c[i]:=z7 c _ v;simp only[ztp,M,N,O,S,D.1,Q8,zh]
   .rw[G];split
    .exact z
    next w=>exact List.nodup_append.2 ⟨z,sw,λa X b J e=>w (by rw[dO]at J;rw[<-J,<-e];exact X)⟩
   .have:=congrArg Io G;simp only[cz]at this;rw[this];split
    .simp;omega
    .simp;omega
   .intro x;rw[G,List.take_succ_eq_append_getElem v,eI,bZ,<-d x];simp only[dC,pS,dO];split
    next w=>exact⟨.inl,λh=>h.elim id λe=>e▸w⟩
    .rw[bZ,dO]
 exact I (Io c) 0 [] ow ow sw sw sw
def zf2:=yY.add 32 zm4
theorem ro:zu zf2:=xw.add zhQ
open Go Go.Proofs
def zqy(x:ap)(h:Sem zk.sl):Tr (Empty⊕aw):=
 let a:=(x.1,x.2.1,x.2.2.1,(x.2.2.2.1.1,x.2.2.2.1.2.1,x.2.2.2.1.2.2.1,x.2.2.2.1.2.2.2.1,x.2.2.2.1.t.1,zr x.2.2.2.1.t.2),x.t)
 Qc (Hq a h)
 (br (Us a h !=0) (re (tup [Qb,ai 1]) [])
  (Qc (HT a h) (re (tup [sl zf (cj a h),ai 0]) [])))
def Kw(x:ap)(h:Sem zk.sl):=ao [zf.sl,zj] t0 100000000 (zqy x h)
def yv(x:ap)(h:Sem zk.sl):=(Kw x h).isSome
def HU(x:ap)(h:Sem zk.sl):=o2 (Kw x h)
def zmu:=FT [am,zk.sl] [zf.sl,zj] λx=>Kw x.1 x.2.1
theorem zhd:FK 12 zmu:=ro.T1 (f:=Tryz.f12) (keep:=k0) (e:=e0)
def zkm(x:ap)(b:Sem zk.sl):Tr (Empty⊕aw):=
 let a:=(x.1,x.2.1,x.2.2.1,(x.2.2.2.1.1,x.2.2.2.1.2.1,x.2.2.2.1.2.2.1,x.2.2.2.1.2.2.2.1,x.2.2.2.1.t.1,zr x.2.2.2.1.t.2),x.t)
 let h:=Zl a b
 Qc (Py a b)
 (re
  (tup [agg [str x.1,str x.2.1,str x.2.2.1,str x.2.2.2.1.1,sl zl x.2.2.2.1.2.1,ai x.2.2.2.1.2.2.1,sl zj x.2.2.2.1.2.2.2.1,sl zA x.2.2.2.1.t.1,str (za.op x.2.2.2.1.t.2),ai (za.v x.2.2.2.1.t.2).1,ai (za.v x.2.2.2.1.t.2).2.1,str (za.v x.2.2.2.1.t.2).2.2,
  str (za.s x.2.2.2.1.t.2),sl Q5 (za.l x.2.2.2.1.t.2),sl zj x.t.1,ai x.t.2],sl zk h.1,AV.bool h.2])
  [])
def A7(x:ap)(h:Sem zk.sl):=ao [am,zk.sl,Sh.bool] t0 100000000 (zkm x h)
def IV(x:ap)(h:Sem zk.sl):=(A7 x h).isSome
def Pi(x:ap)(h:Sem zk.sl):=o3 (A7 x h)
def zmY:=FT [am,zk.sl] [am,zk.sl,Sh.bool] λx=>A7 x.1 x.2.1
theorem zhJ:FK 28 zmY:=ro.T1 (f:=Tryz.f28) (keep:=k0) (e:=e0)
abbrev zrb:=kl [(3,[0,3,4])]
inductive N0 where
 |h3 (l0:dI) (i4:Int) (ja0:List UInt8) (ja1:aM) (ja2:Int) (ja5:List UInt8) (ja6:Int) (ja7:Int) (ja8:List UInt8) (ja9:List UInt8)
 |h3b (l0:dI) (i4:Int) (ja0:List UInt8) (ja1:aM) (ja2:Int) (ja5:List UInt8) (ja6:Int) (ja7:Int) (ja8:List UInt8) (ja9:List UInt8) (lh_1:List (Sem zf.sl))
abbrev zt5:N0->Nat×St
 |.h3 g i j h x a b c d e=>(3,⟨tm 31 [(0,sl zj g),(3,ptr 0 0),(4,ai i)],[Qa [str j,sl zl h,ai x,Qb,Qb,str a,ai b,ai c,str d,str e,Qb,Qb]]⟩)
 |.h3b g i j h x a b c d e l=>(3,⟨tm 31 [(0,sl zj g),(3,ptr 0 0),(4,ai i)],[Qa [str j,sl zl h,ai x,Qb,Qb,str a,ai b,ai c,str d,str e,Qb,AV.vec 1],AO.vec zf.sl l]⟩)
def zvv(x:Sem zj.sl):Tr (N0⊕aw):=
 Q9 (N0.h3 x 0 [118] [([110],1,Q3),([114],1,Q4)] 0 [] 0 0 [] [])
def zwa:N0->Tr (N0⊕aw)
 | .h3 g i j h x a b c d e=>
  let k:=[[(1,i,[]),(1,g.getD i.toNat (zi zj),[])]]
  br (Q0 (i<(↑g.length:Int)))
  (Qc (zK i (Io g)) (Qc (Q0 (Io k<=1073741824)) (Q9 (N0.h3b g (Γ Δ (i+1)) j h x a b c d e k))))
  (re (sl zk [((j,h,x,[],[],za.mk a (b,c,d) e []),[])]) [])
 | .h3b g i j h x a b c d e l=>
  let k:=[[(1,i,[]),(1,g.getD i.toNat (zi zj),[])]]
  br (Q0 (i<(↑g.length:Int)))
  (Qc (zK i (Io g)) (Qc (Q0 (Io l+Io k<=1073741824)) (Q9 (N0.h3b g (Γ Δ (i+1)) j h x a b c d e (l++k)))))
  (re (sl zk [((j,h,x,[],[],za.mk a (b,c,d) e []),l)]) [])
def zkY(x:Sem zj.sl):=ao [zk.sl] zwa 100000000 (zvv x)
def zm0:=FT [zj.sl] [zk.sl] λx=>zkY x.1
theorem zhL:FK 30 zm0:=ro.T1 (f:=Tryz.f30) (keep:=zrb) (e:=zt5)
def zf5:=zf2.addL [(12,zmu),(28,zmY),(30,zm0)]
theorem GU:zu zf5:=ro.addL<|fc zhd<|fc zhJ<|fc zhL<|iw
def i7u(c:Sem zk.sl)(x:zJ):Tr (Empty⊕aw):=
 let d:=(x.1,x.2.1,x.2.2.1,x.2.2.2.1,x.t.1,x.t.2.1,x.t.q.1,x.t.q.2.1,zr x.t.t.1,x.t.t.2.1,x.t.t.q.1,zr x.t.t.q.2.1,x.t.t.t)
 let h:=RC d
 let e:=(h.1,h.2.1,h.2.2.1,h.2.2.2.1,h.t.1,h.t.2.1,h.t.q.1,h.t.q.2.1,zr h.t.t.1,h.t.t.2.1,h.t.t.q.1,zr h.t.t.q.2.1,h.t.t.t)
 let b:=Sd (Ds c) e
 let g:=(b.1.1,b.1.2.1,b.1.2.2.1,(b.1.2.2.2.1.1,b.1.2.2.2.1.2.1,b.1.2.2.2.1.2.2.1,b.1.2.2.2.1.2.2.2.1,b.1.2.2.2.1.t.1,zr b.1.2.2.2.1.t.2),b.1.t)
 let a:=Pi g (Ds c)
 Qc (IU c)
 (Qc (IT d)
  (Qc (Jd (Ds c) e) (br (b.2!=0) (re (tup [agg [str [],str [],str [],str [],Qb,ai 0,Qb,Qb,str [],ai 0,ai 0,str [],str [],Qb,Qb,ai 0],Qb,kb Q4]) []) (Qc (IV g (Ds c)) (re (tup [agg
  [str a.1.1,str a.1.2.1,str a.1.2.2.1,str a.1.2.2.2.1.1,sl zl a.1.2.2.2.1.2.1,ai a.1.2.2.2.1.2.2.1,sl zj a.1.2.2.2.1.2.2.2.1,sl zA a.1.2.2.2.1.t.1,str (za.op a.1.2.2.2.1.t.2),ai (za.v a.1.2.2.2.1.t.2).1,ai (za.v a.1.2.2.2.1.t.2).2.1,
  str (za.v a.1.2.2.2.1.t.2).2.2,str (za.s a.1.2.2.2.1.t.2),sl Q5 (za.l a.1.2.2.2.1.t.2),sl zj a.1.t.1,ai a.1.t.2],sl zk a.2.1,AV.bool a.2.2]) [])))))
def nz(x:Sem zk.sl)(h:zJ):=ao [am,zk.sl,Sh.bool] t0 100000000 (i7u x h)
def xN(x:Sem zk.sl)(h:zJ):=(nz x h).isSome
def Du(x:Sem zk.sl)(h:zJ):=o3 (nz x h)
def F7u:=FT [zk.sl,ar] [am,zk.sl,Sh.bool] λx=>nz x.1 x.2.1
theorem zo3:FK 8 F7u:=GU.T1 (f:=Tryz.f8) (keep:=k0) (e:=e0)
def Rb:=zf5.add 8 F7u
theorem xx:zu Rb:=GU.add zo3
def IC:cd:={Rb with sh:=λt=>if t=2 then Q1 (.int .i64)else Rb.sh t}
theorem tN:zu IC where
 sh:=λt e h=>by
  have x:(ite (t=2) (Q1 (.int .i64)) (Rb.sh t))=Q1 e:=h;split at x
  next a=>subst a;cases x;exact NB kw
  .exact xx.sh t e x
 fs:=xx.fs
 mix:=xx.mix
def znC:z8:=aW (List.replicate 1 Q2) (eJ IC Tryz.f93 (List.replicate 1 Q2))
theorem zit:FK 93 znC:=bT _ tN (bL kw)
def znH:z8:=aW (List.replicate 3 Q2) (eJ IC Tryz.f118 (List.replicate 3 Q2))
theorem ziy:FK 118 znH:=bT _ tN (bL kw)
inductive Vp where
 |h2 (l0:zw) (i7:Int) (i8:Int) (z0:zn [CP.d zf])
def zqU(x:Sem zf.sl)(h:zo):Tr (Vp⊕aw):=
 Q9 (Vp.h2 x (↑(Io x):Int) 0 (h,()))
def UQ:Vp->Tr (Vp⊕aw)
 | .h2 l h i z=>
  let a:=l.getD i.toNat (zi zf)
  br (Q0 (i<h))
  (Qc (zK i (Io l)) (br (z.1.1==a.1&&(z.1.2.1==a.2.1&&(z.1.2.2==a.2.2&&Q3))) (re (ai i) []) (Q9 (Vp.h2 l h (Γ Δ (i+1)) z))))
  (re (ai (-1)) [])
def zae(x:Sem zf.sl)(h:zo):=ao [zj] UQ 100000000 (zqU x h)
def zad(x:Sem zf.sl)(h:zo):=(zae x h).isSome
def zl9(x:Sem zf.sl)(h:zo):=o1 (zae x h)
inductive zxE where
 |h4 (l0:zw) (l1:zw) (i5:Int)
def CY:=IC.addL [(93,znC),(118,znH)]
theorem tO:zu CY:=tN.addL<|fc zit<|fc ziy<|iw
abbrev BB(c a b:Int)(s:zH)(l:List eU)(i:Int):St:={tmps:=[.sl (Sh.sl zf) l,.clo (.func 118) [] [.ptr 0 0,.ptr 1 0],.any,.any,.any,.any,.any,.int .i64 (Io l),.int .i64 i,.any,.any,.any,.any,.any,.any,.any,.any,.any,.any],heap:=[.box [.int .i64 c],.box [.int .i64 a,.int .i64 b,.str s]]}
theorem W7(c a b:Int)(s:zH)(l:List eU):run CY 2 AM Tryz.f117.results.toList 300 (bq Tryz.f117) (aY Tryz.f117.ntmps [.sl (Sh.sl zf) l,.clo (.func 118) [] [.ptr 0 0,.ptr 1 0]] [.box [.int .i64 c],.box [.int .i64 a,.int .i64 b,.str s]])=.ok (.head 2 (aa Tryz.f117 2) (BB c a b s l 0)):=kw
theorem YV(c a b:Int)(s:zH)(l:List eU)(i:Int):run CY 2 AM Tryz.f117.results.toList 300 (aa Tryz.f117 2) (BB c a b s l i)=oI (K:=aa Tryz.f117 2) (e:=(Sh.sl zf)) l (λx=>bC x c (a,b,s)) (BB c a b s l) [.box [.int .i64 c],.box [.int .i64 a,.int .i64 b,.str s]] i:=kw
theorem YN:zM CY.P 117 Tryz.f117 2:=by refine⟨?_,?_,?_,?_⟩<;>kernel_rfl
def zpl:eW [Q1 (.sl (Sh.sl zf)),Q2]:=λx h=>match x,h with
 |(l,.clo (.func 118) [] [.ptr 0 0,.ptr 1 0],_),[.box [.int .i64 c],.box [.int .i64 a,.int .i64 b,.str s]]=>.ok (.int .i64 (ab (λx=>bC x c (a,b,s)) l 0),[.box [.int .i64 c],.box [.int .i64 a,.int .i64 b,.str s]])
 |_,_=>.err
def znE:z8:=aW [Q1 (.sl (Sh.sl zf)),Q2] zpl
theorem ziv:FK 117 znE:=by
 refine dc YN λx i g h C d=>?_
 unfold zpl at h;split at h
 .rename_i l u c a b s;simp only[Tr.val_ok,bj]at h;subst h;refine Reach.len 0 (Sh.sl zf) l rfl λe=>?_
  refine zF (n0:=2) tO YN d (W7 c a b s l) ?_;exact kZ l (λx=>bC x c (a,b,s)) (BB c a b s l) tO YN d (YV c a b s l) e _ 0 rfl (aL _)
 .simp at h
def zqN(x:Sem zf.sl)(h:zo):Tr (Empty⊕aw):=
 Qc (zad x h) (re (AV.bool (Q0 (zl9 x h>=0))) [])
def zac(x:Sem zf.sl)(h:zo):=ao [Sh.bool] t0 100000000 (zqN x h)
def NO(x:Sem zf.sl)(h:zo):=(zac x h).isSome
def Ky(x:Sem zf.sl)(h:zo):=o1 (zac x h)
def WO:=CY.addL [(117,znE)]
theorem CZ:zu WO:=tO.addL<|fc ziv<|iw
def zqM(h:ah)(a:zo):Tr (Empty⊕aw):=
 br (!dX (h.1.1,h.1.2.1,h.1.2.2.1,h.1.2.2.2.1,h.1.t.1,zr h.1.t.2))
 (re (ai (ab (λx=>bC x (-1) a) h.2 0)) [])
 (re (ai (ab (λx=>bC x h.1.2.2.1 a) h.2 0)) [])
def JO(x:ah)(h:zo):=ao [zj] t0 100000000 (zqM x h)
def JN(x:ah)(h:zo):=(JO x h).isSome
def Sq(x:ah)(h:zo):=o1 (JO x h)
def znd:=FT [zk,zf] [zj] λx=>JO x.1 x.2.1
theorem zhZ:FK 51 znd:=CZ.T1 (f:=Tryz.f51) (keep:=k0) (e:=e0)
def WP:=WO.add 51 znd
theorem OL:zu WP:=CZ.add zhZ
def T4(x:ap)(b:Sem zk.sl)(h:zo):Tr (Empty⊕aw):=
 let d:=(x.1,x.2.1,x.2.2.1,(x.2.2.2.1.1,x.2.2.2.1.2.1,x.2.2.2.1.2.2.1,x.2.2.2.1.2.2.2.1,x.2.2.2.1.t.1,zr x.2.2.2.1.t.2),x.t)
 let i:=zK 0 (Io b)
 let a:=getD b (toNat 0) (zi zk)
 let j:=((a.1.1,a.1.2.1,a.1.2.2.1,a.1.2.2.2.1,a.1.t.1,zr a.1.t.2),a.2)
 let g:=Sq j h
 let k:=getD a.2 (toNat g) (zi zf.sl)
 let l:=HT d b
 let e:=cj d b
 let c:=getD k (toNat x.t.2) (zi zf)
 Qc (Hq d b)
 (br (Us d b !=0) (re (tup [agg [ai 0,ai 0,str []],ai 1]) [])
  (br (x.1==gj) (Qc i (Qc (JN j h) (br (Q0 (g<0)) (re (tup [agg [ai 0,ai 0,str []],ai 6]) []) (Qc i (Qc (zK g (Io a.2)) (Qc (zK x.t.2 (Io k)) (Qc l (Qc (NO e c)
  (br (!Ky e c) (re (tup [agg [ai 0,ai 0,str []],ai 6]) []) (re (tup [agg [ai c.1,ai c.2.1,str c.2.2],ai 0]) [])))))))))) (Qc l (Qc (NO e h) (br (!Ky e h) (re (tup [agg [ai 0,ai 0,str []],ai 6]) [])
  (re (tup [agg [ai h.1,ai h.2.1,str h.2.2],ai 0]) []))))))
def ztv(x:ap)(h:Sem zk.sl)(a:zo):=ao [zf,zj] t0 100000000 (T4 x h a)
def WQ:=WP
theorem OM:zu WQ:=OL
inductive zxG where
 |h4 (l0:List (Sem zf.sl)) (l1:List (Sem zf.sl)) (i5:Int)
def WR:=WQ
theorem ON:zu WR:=OM
inductive zxH where
 |h3 (l1:zP) (i8:Int) (z0:zn [CP.d am]) (z1:zn [CP.d zf])
 |h3b (l1:zP) (i8:Int) (z0:zn [CP.d am]) (z1:zn [CP.d zf]) (lh_2:List (Sem zf.sl))
inductive zxF where
 |h3 (l1:zP) (i6:Int) (z0:zn [CP.d am])
 |h9 (l1:zP) (i6:Int) (b9:Bool) (i10:Int) (z0:zn [CP.d am]) (z1:zn [CP.d zf])
 |h3b (l1:zP) (i6:Int) (z0:zn [CP.d am]) (lh_1:zw)
 |h9b (l1:zP) (i6:Int) (b9:Bool) (i10:Int) (z0:zn [CP.d am]) (z2:zn [CP.d zf]) (lh_1:zw)
 |h9bb (l1:zP) (i6:Int) (i10:Int) (z0:zn [CP.d am]) (z2:zn [CP.d zf]) (lh_1:zw) (lh_3:zw)
 |h9bbb (l1:zP) (i6:Int) (b9:Bool) (i10:Int) (z0:zn [CP.d am]) (z2:zn [CP.d zf]) (lh_1:zw) (lh_3:zw)
def WS:=WR
theorem OO:zu WS:=ON
abbrev Oo:List CP:=[.d ak,.vec (.sl zf)]
abbrev uO:List CP:=[.d .str,.nil,.d zj,.nil,.nil,.d .str,.d zj,.d zj,.d .str,.d .str,.nil,.nil]
inductive zxL where
 |h6 (l7:List (Sem zf.sl)) (i10:Int) (z0:zn [CP.d am]) (z1:zn [CP.d zf]) (z2:zn [CP.d zf])
 |h14 (l1:zP) (l7:List (Sem zf.sl)) (i11:Int) (z0:zn [CP.d am]) (z1:zn [CP.d zf]) (lh_2:List (Sem zf.sl))
 |h22 (l1:zP) (l7:List (Sem zf.sl)) (i11:Int) (l12:zw) (i14:Int) (z0:zn [CP.d am]) (z1:zn [CP.d zf]) (lh_2:List (Sem zf.sl)) (lh_3:zw)
inductive zxJ where
 |h3 (i4:Int) (z0:zn [CP.d zk]) (z1:zn uO) (z2:zn Oo)
 |h6 (i4:Int) (i5:Int) (z0:zn [CP.d zk]) (z1:zn uO) (z2:zn Oo)
def zfZ:=WS
theorem TP:zu zfZ:=OO
inductive zxI where
 |h4 (l8:List (Sem zf.sl)) (i10:Int) (z0:zn [CP.d am]) (lh_1:List (Sem zf.sl))
def zf0:=zfZ
theorem TQ:zu zf0:=TP
inductive H9v where
 |h4 (l1:zP) (l2:zw) (i9:Int) (i10:Int) (z0:zn [CP.d am]) (z1:zn uO) (z2:zn Oo)
 |h8 (l1:zP) (l2:zw) (i9:Int) (i10:Int) (i12:Int) (z0:zn [CP.d am]) (z1:zn uO) (z2:zn Oo)
 |h8b (l1:zP) (l2:zw) (i9:Int) (i10:Int) (b11:Bool) (i12:Int) (z0:zn [CP.d am]) (z1:zn uO) (z2:zn Oo)
def LP:=zf0
theorem kV:zu LP:=TQ
abbrev NC:Sh:=.pr am (.sl zk)
abbrev dM:=Sem NC
abbrev uM:List CP:=[.d NC]
abbrev zkR:Nat->aT:=λj=>if j=3 then{slots:=[1,5,10,11,12],prom:=[(5,Q2,zf)]}else{ }
inductive FX where
 |h3 (l1:zw) (l10:dI) (i11:Int) (i12:Int) (lh_0:zw)
abbrev zpQ:FX->Nat×St
 |.h3 a x i h l=>(3,⟨tm 25 [(1,sl zf a),(5,AV.vec 0),(10,sl zj x),(11,ai i),(12,ai h)],[AO.vec zf l]⟩)
def zgq(x:dM)(h:Sem zf.sl):Tr (FX⊕aw):=
 Q9 (FX.h3 h x.1.t.1 (↑(Io x.1.t.1):Int) 0 [])
def SF:FX->Tr (FX⊕aw)
 | .h3 a h x i l=>
  let b:=h.getD i.toNat (zi zj)
  let c:=[a.getD (toNat b) (zi zf)]
  br (Q0 (i<x))
  (Qc (zK i (Io h)) (Qc (zK b (Io a)) (Qc (Q0 (Io l+Io c<=1073741824)) (Q9 (FX.h3 a h x (Γ Δ (i+1)) (l++c))))))
  (re (AV.vec 0) [AO.vec zf l])
def Ih(x:dM)(h:Sem zf.sl):=ao [zf.sl] SF 100000000 (zgq x h)
def wQ(x:dM)(h:Sem zf.sl):=(Ih x h).isSome
def Gc(x:dM)(h:Sem zf.sl):=o1 (Ih x h)
def zeV:=FT [NC,zf.sl] [zf.sl] λx=>Ih x.1 x.2.1
theorem zbe:FK 153 zeV:=kV.T1 (f:=Tryz.f153) (keep:=zkR) (e:=zpQ)
def zcU(x:dM):Tr (Empty⊕aw):=
 let a:=getD x.2 (toNat 0) (zi zk)
 br (x.1.1==dj) (Qc (zK 0 (Io x.2)) (re (ai a.1.2.2.1) []))
 (br (x.1.1==gj) (re (ai x.1.t.2) [])
  (Qc (zK 0 (Io x.1.t.1)) (re (ai (getD x.1.t.1 (toNat 0) (zi zj))) [])))
def QL(x:dM):=ao [zj] t0 100000000 (zcU x)
def VI(x:dM):=(QL x).isSome
def zjj(x:dM):=o1 (QL x)
def zna:=FT [NC] [zj] λx=>QL x.1
theorem zhW:FK 33 zna:=kV.T1 (f:=Tryz.f33) (keep:=k0) (e:=e0)
def zfT:=LP.addL [(153,zeV),(33,zna)]
theorem xv:zu zfT:=kV.addL<|fc zbe<|fc zhW<|iw
abbrev zrJ:Nat->aT:=λj=>if j=3 then{slots:=[3,7,10,11,12],prom:=[(7,Q2,(.sl zf))]}else{ }
inductive S4 where
 |h3 (l10:List (Sem zf.sl)) (i11:Int) (i12:Int) (z0:zn uM) (lh_1:List (Sem zf.sl))
abbrev zuu:S4->Nat×St
 |.h3 x i h z l=>(3,⟨tm 24 [(3,ptr 0 0),(7,AV.vec 1),(10,sl zf.sl x),(11,ai i),(12,ai h)],[Qa (bI [] uM z),AO.vec zf.sl l]⟩)
def zqZ(h:dM)(_:zo)(x:Sem zf.sl.sl):Tr (S4⊕aw):=
 Q9 (S4.h3 x (↑(Io x):Int) 0 (h,()) [])
def zdY:S4->Tr (S4⊕aw)
 | .h3 h x i z l=>
  let a:=((z.1.1.1,z.1.1.2.1,z.1.1.2.2.1,(z.1.1.2.2.2.1.1,z.1.1.2.2.2.1.2.1,z.1.1.2.2.2.1.2.2.1,z.1.1.2.2.2.1.2.2.2.1,z.1.1.2.2.2.1.t.1,zr z.1.1.2.2.2.1.t.2),z.1.1.t),z.1.2)
  let b:=h.getD i.toNat (zi zf.sl)
  let c:=[Gc a b]
  br (Q0 (i<x))
  (Qc (zK i (Io h)) (Qc (wQ a b) (Qc (Q0 (Io l+Io c<=1073741824)) (Q9 (S4.h3 h x (Γ Δ (i+1)) z (l++c))))))
  (re (AV.vec 0) [AO.vec zf.sl l])
def Ie(x:dM)(h:zo)(a:Sem zf.sl.sl):=ao [zf.sl.sl] zdY 100000000 (zqZ x h a)
def N8(x:dM)(h:zo)(a:Sem zf.sl.sl):=(Ie x h a).isSome
def VJ(x:dM)(h:zo)(a:Sem zf.sl.sl):=o1 (Ie x h a)
def znY:=FT [NC,zf,zf.sl.sl] [zf.sl.sl] λx=>Ie x.1 x.2.1 x.2.2.1
theorem ziO:FK 88 znY:=xv.T1 (f:=Tryz.f88) (keep:=zrJ) (e:=zuu)
abbrev zrL:=kl [(5,[3,4,7,15,16,17])]
inductive KR where
 |h5 (l15:List (Sem zf.sl)) (i16:Int) (i17:Int) (z0:zn uM) (z1:zn [CP.d zf]) (z2:zn [CP.d zf])
abbrev zuw:KR->Nat×St
 |.h5 l i h z x a=>(5,⟨tm 40 [(3,ptr 0 0),(4,ptr 1 0),(7,ptr 2 0),(15,sl zf.sl l),(16,ai i),(17,ai h)],[Qa (bI [] uM z),Qa (bI [] [CP.d zf] x),Qa (bI [] [CP.d zf] a)]⟩)
def zkw(h:dM)(a:zo)(x:Sem zf.sl.sl):Tr (KR⊕aw):=
 br ((↑(Io x):Int)==0) (re Qb []) (Q9 (KR.h5 x (↑(Io x):Int) 0 (h,()) (a,()) ((1,0,[]),())))
def zd1:KR->Tr (KR⊕aw)
 | .h5 l h i z x a=>
  let b:=getD z.1.1.t.1 (toNat 1) (zi zj)
  let c:=l.getD i.toNat (zi zf.sl)
  let d:=getD c (toNat b) (zi zf)
  let e:=Γ Δ (i+1)
  br (Q0 (i<h))
  (Qc (zK i (Io l)) (Qc (zK 1 (Io z.1.1.t.1)) (Qc (zK b (Io c)) (br (d.1!=0) (Q9 (KR.h5 l h e z x (py a.1 d,()))) (Q9 (KR.h5 l h e z x a))))))
  (re (sl zf.sl [[x.1,a.1]]) [])
def AY(x:dM)(h:zo)(a:Sem zf.sl.sl):=ao [zf.sl.sl] zd1 100000000 (zkw x h a)
def If(x:dM)(h:zo)(a:Sem zf.sl.sl):=(AY x h a).isSome
def N9(x:dM)(h:zo)(a:Sem zf.sl.sl):=o1 (AY x h a)
def zn1:=FT [NC,zf,zf.sl.sl] [zf.sl.sl] λx=>AY x.1 x.2.1 x.2.2.1
theorem ziR:FK 90 zn1:=xv.T1 (f:=Tryz.f90) (keep:=zrL) (e:=zuw)
def zfU:=zfT.addL [(88,znY),(90,zn1)]
theorem TM:zu zfU:=xv.addL<|fc ziO<|fc ziR<|iw
open Go Go.Proofs Go.RowKit Go.Lib
theorem zkz:(Tryz.prog.info? 30).map (λi=>(i.zero,i.size,i.bytes))=Q1 (Q1 (.agg #[.int .i64 0,.int .i64 0,.string ⟨#[]⟩]),3,32):=by kernel_rfl
theorem zcL(p:Option Addr)(k:Nat)(n:k<=1000000)(w:World):Calls Tryz.prog 221 #[.slice p 0 0,.int .i64 k] w λe d=>∃q c,e=.returned (.slice q 0 c)/\Below w.heap.size w d/\(c=0\/(0<c/\q=Q1 ⟨w.heap.size,0,Q2⟩/\∃h,d.heap[w.heap.size]?=Q1 (.cells h 30 (0,0))/\h.size=c*3)):=by
 obtain⟨m,j,b,l,a⟩:=info_parts zkz;by_cases g:k=0
 .subst g
  go_enter Tryz.func221,Tryz.ntmps221
  go_wp2
  first|go_ret|go_ret2
  exact⟨_,_,rfl,Below.refl _ _,.inl rfl⟩
 .have x:=λt=>run_append_grow_zeros (P:=Tryz.prog) w 39 3 t 30 m _ .i64 .i64 Tryz.underlying39 Tryz.underlying3 j b p 0 0 [] (by cases p<;>simp[Builtin.firstCells,loadCells,loadCellsFrom]) k (by omega) (by omega) (by omega) (by omega) (by rw[a];omega) (by rw[er,nextslicecap_zero (by omega),a];omega)
  simp only[er]at x;have i:=grownCap_ge w k 0 30
  go_enter Tryz.func221,Tryz.ntmps221
  go_wp2_with (at_builtin;refine Lib.wpList_append_run _ rfl _ _ _ _ rfl _ _ rfl rfl _ _ (x _) ?_)
  first|go_ret|go_ret2
  refine⟨_,_,rfl,((Below.refl _ _).alloc (aj _) _).drew,.inr ⟨by omega,rfl,_,heap_alloc_new _ _,?_⟩⟩;simp[size_zeroCells];omega
abbrev zxA:Sh:=.pr (.int .i64) (.pr (.int .i64) .str)
def zg4:z8:=λa _ n=>match a with
 |[.nils,.int .i64 k]=>.chk (Q0 (0<=k)) (.chk (Q0 (k<=1000000)) (.ok {val:=.vec n,nw:=[.vec zf []]}))
 |_=>.err
theorem zcM{ρ:Nat->Option Value}{A:Nat->AO}{d:Nat}{p:Option Addr}(j:∀b,U b->b<w.heap.size)(s:ρ n=Q2)(z:d<=1000000):
  Calls Tryz.prog 221 #[.slice p 0 0,.int .i64 d] w λe m=>∃v t B,e=.returned v/\Ef n A {val:=.vec n,nw:=[.vec zf []]} w U ρ v m t B:=by
 refine(zcL p d z w).mono ?_;rintro e m ⟨q,c,rfl,x,rfl|⟨u,rfl,k,o,l⟩⟩
 .exact⟨_,U,_,rfl,Ef.newVec sw s rfl (kA.below x) (λb a _=>x.block b a) (λb a=>gE (j b a) x.size) (λb _=>Iff.rfl) ⟨q,0,by simp[jI],aL _,.inl ⟨rfl,rfl⟩⟩ (λb a=>by cases q<;>simp[bJ]at a)⟩
 .have g:w.heap.size<m.heap.size:=(lZ.1 o).1;exact⟨_,λb=>U b\/b=w.heap.size,_,rfl,Ef.newVec sw s rfl (kA.below x) (λb a _=>x.block b a) (λb h=>by
     rcases h with h|rfl
     .exact gE (j b h) x.size
     .exact g) (λb a=>⟨λh=>h.elim id λe=>zC e ow,.inl⟩) ⟨Q1 ⟨w.heap.size,0,Q2⟩,c,by simp[jI],aL _,.inr ⟨w.heap.size,30,k,rfl,u,.inr rfl,o,l,aL _,λi y=>zC y sw⟩⟩ (λb a=>by simp[bJ]at a;exact .inl ow)⟩
theorem zhE:FK 221 zg4 where
 fn:=⟨Tryz.f221,kw,kw,kw⟩
 calls:=λw U ρ u n c v f s h x b i g j e a=>by
  unfold zg4 at h;split at h
  .rename_i k;simp only[Tr.val_chk,Tr.val_ok,bj,aR]at h;obtain⟨d,t,rfl⟩:=h;obtain⟨k,rfl⟩:=Int.eq_ofNat_of_zero_le d;have l:=x.len
   match v,l,x with
   |[p,q],_,x=>
   have m:=x.rv 0 _ p rfl rfl;have o:=x.rv 1 _ q rfl rfl;cases m;cases o;exact⟨zcM b (a 0 sw) ow,sw⟩
  .simp at h
def WH:=zfU.add 221 zg4
theorem CJ:zu WH:=TM.add zhE
abbrev zkS:=kl [(3,[0,3,9,10,11]),(11,[6,25,26,27])]
inductive mS where
 |h3 (l0:List (Sem zf.sl)) (i3:Int) (l9:List (Sem zf.sl)) (i10:Int) (i11:Int)
 |h11 (l25:List (Sem zf.sl)) (i26:Int) (i27:Int) (lh_0:zw)
abbrev zpR:mS->Nat×St
 |.h3 d c e i h=>(3,⟨tm 36 [(0,sl zf.sl d),(3,ai c),(9,sl zf.sl e),(10,ai i),(11,ai h)],[]⟩)
 |.h11 b x a l=>(11,⟨tm 36 [(6,AV.vec 0),(25,sl zf.sl b),(26,ai x),(27,ai a)],[AO.vec zf l]⟩)
def zgr(x:Sem zf.sl.sl):Tr (mS⊕aw):=
 Q9 (mS.h3 x 0 x (↑(Io x):Int) 0)
def HR:mS->Tr (mS⊕aw)
 | .h3 e d g b i=>
  let a:=Γ Δ (d+(↑(Io (g.getD i.toNat (zi zf.sl))):Int))
  br (Q0 (i<b)) (Qc (zK i (Io g)) (br (Q0 (a<0)) Tr.err (Q9 (mS.h3 e a g b (Γ Δ (i+1))))))
  (Qc (Q0 (0<=d)) (Qc (Q0 (d<=1000000)) (Q9 (mS.h11 e (↑e.length:Int) 0 []))))
 | .h11 x c h l=>
  let a:=x.getD h.toNat (zi zf.sl)
  br (Q0 (h<c))
  (Qc (zK h (Io x)) (Qc (Q0 (Io l+Io a<=1073741824)) (Q9 (mS.h11 x c (Γ Δ (h+1)) (l++a)))))
  (re (AV.vec 0) [AO.vec zf l])
def QR(x:Sem zf.sl.sl):=ao [zf.sl] HR 100000000 (zgr x)
def VY(x:Sem zf.sl.sl):=(QR x).isSome
def zjE(x:Sem zf.sl.sl):=o1 (QR x)
def zeW:=FT [zf.sl.sl] [zf.sl] λx=>QR x.1
theorem zbf:FK 154 zeW:=CJ.T1 (f:=Tryz.f154) (keep:=zkS) (e:=zpR)
def zfV:=WH.add 154 zeW
theorem GN:zu zfV:=CJ.add zbf
abbrev zrK:Nat->aT:=λj=>if j=7 then{slots:=[8,9,30,31,32],prom:=[(9,Q2,(.sl zf))]}else{ }
inductive S5 where
 |h7 (l8:zw) (l30:List (Sem zf.sl)) (i31:Int) (i32:Int) (lh_0:List (Sem zf.sl))
abbrev zuv:S5->Nat×St
 |.h7 a x i h l=>(7,⟨tm 45 [(8,sl zf a),(9,AV.vec 0),(30,sl zf.sl x),(31,ai i),(32,ai h)],[AO.vec zf.sl l]⟩)
def zc7(x:dM)(g:zo)(i:Sem zf.sl.sl):Tr (S5⊕aw):=
 let b:=zK 1 (Io x.2)
 let a:=getD x.2 (toNat 1) (zi zk)
 let c:=((a.1.1,a.1.2.1,a.1.2.2.1,a.1.2.2.2.1,a.1.t.1,zr a.1.t.2),a.2)
 let h:=Sq c g
 let d:=((x.1.1,x.1.2.1,x.1.2.2.1,(x.1.2.2.2.1.1,x.1.2.2.2.1.2.1,x.1.2.2.2.1.2.2.1,x.1.2.2.2.1.2.2.2.1,x.1.2.2.2.1.t.1,zr x.1.2.2.2.1.t.2),x.1.t),x.2)
 let e:=getD a.2 (toNat h) (zi zf.sl)
 Qc b
 (Qc (JN c g)
  (br (Q0 (h<0)) (re Qb []) (Qc b (Qc (zK h (Io a.2)) (Qc (wQ d e) (Q9 (S5.h7 (Gc d e) i (↑(Io i):Int) 0 [])))))))
def zdZ:S5->Tr (S5⊕aw)
 | .h7 c h x i l=>
  let a:=[h.getD i.toNat (zi zf.sl),c]
  let b:=[zjE a]
  br (Q0 (i<x))
  (Qc (zK i (Io h)) (Qc (VY a) (Qc (Q0 (Io l+Io b<=1073741824)) (Q9 (S5.h7 c h x (Γ Δ (i+1)) (l++b))))))
  (re (AV.vec 0) [AO.vec zf.sl l])
def Ig(x:dM)(h:zo)(a:Sem zf.sl.sl):=ao [zf.sl.sl] zdZ 100000000 (zc7 x h a)
def Oa(x:dM)(h:zo)(a:Sem zf.sl.sl):=(Ig x h a).isSome
def VL(x:dM)(h:zo)(a:Sem zf.sl.sl):=o1 (Ig x h a)
def znZ:=FT [NC,zf,zf.sl.sl] [zf.sl.sl] λx=>Ig x.1 x.2.1 x.2.2.1
theorem ziP:FK 89 znZ:=GN.T1 (f:=Tryz.f89) (keep:=zrK) (e:=zuv)
def zfW:=zfV.add 89 znZ
theorem GO:zu zfW:=GN.add ziP
abbrev zrg:Nat->aT:=λj=>if j=5 then{slots:=[3,9,10,23,24,25],prom:=[(9,Q2,(.sl zf))]}else{ }
inductive H4 where
 |h5 (i10:Int) (l23:List (Sem zf.sl)) (i24:Int) (i25:Int) (z0:zn uM) (lh_1:List (Sem zf.sl))
abbrev zt9:H4->Nat×St
 |.h5 i a h x z l=>(5,⟨tm 44 [(3,ptr 0 0),(9,AV.vec 1),(10,ai i),(23,sl zf.sl a),(24,ai h),(25,ai x)],[Qa (bI [] uM z),AO.vec zf.sl l]⟩)
def XA(x:dM)(h:zo)(b:Sem zf.sl.sl):Tr (H4⊕aw):=
 let a:=((x.1.1,x.1.2.1,x.1.2.2.1,(x.1.2.2.2.1.1,x.1.2.2.2.1.2.1,x.1.2.2.2.1.2.2.1,x.1.2.2.2.1.2.2.2.1,x.1.2.2.2.1.t.1,zr x.1.2.2.2.1.t.2),x.1.t),x.2)
 let c:=VJ a h b
 let d:=VL a h b
 let e:=N9 a h b
 Qc Q3
 (Qc Q3
  (Qc Q3 (br (x.1.1==dj) (Qc (N8 a h b) (Q9 (H4.h5 0 c (↑(Io c):Int) 0 (x,()) []))) (br (x.1.1==gj) (Qc (Oa a h b) (Q9 (H4.h5 0 d (↑(Io d):Int) 0 (x,()) [])))
  (br (x.1.1==lm) (Qc (If a h b) (Q9 (H4.h5 0 e (↑(Io e):Int) 0 (x,()) []))) Tr.err)))))
def zdW:H4->Tr (H4⊕aw)
 | .h5 x h a i z l=>
  let b:=h.getD i.toNat (zi zf.sl)
  let c:=Γ Δ (i+1)
  let d:=[b]
  br (Q0 (i<a))
  (Qc (zK i (Io h)) (br (cy (z.1.1.2.2.2.1.1,z.1.1.2.2.2.1.2.1,z.1.1.2.2.2.1.2.2.1,z.1.1.2.2.2.1.2.2.2.1,z.1.1.2.2.2.1.t.1,zr z.1.1.2.2.2.1.t.2) b !=0) (Q9 (H4.h5 (Γ Δ (x+1)) h a c z l)) (Qc (Q0 (Io l+Io d<=1073741824)) (Q9 (H4.h5 x h a c z (l++d))))))
  (re (tup [AV.vec 0,ai x]) [AO.vec zf.sl l])
def B7(x:dM)(h:zo)(a:Sem zf.sl.sl):=ao [zf.sl.sl,zj] zdW 100000000 (XA x h a)
def VK(x:dM)(h:zo)(a:Sem zf.sl.sl):=(B7 x h a).isSome
def zjk(x:dM)(h:zo)(a:Sem zf.sl.sl):=o2 (B7 x h a)
def znc:=FT [NC,zf,zf.sl.sl] [zf.sl.sl,zj] λx=>B7 x.1 x.2.1 x.2.2.1
theorem zhY:FK 34 znc:=GO.T1 (f:=Tryz.f34) (keep:=zrg) (e:=zt9)
def zfX:=zfW.add 34 znc
theorem TN:zu zfX:=GO.add zhY
open Go
theorem qW{P:Program}{l:Nat->AV}{g ι:Type}{k:FuncId}{f:Func}{b:List (Option Sh)}{G:eW b}{n0:Nat}{e:g->Nat×St}{t:g->Tr (g⊕aw)}{args:ι->List AV}{heap:ι->List AO}{i:ι->Tr (g⊕aw)}
  (w:zu E) (m:zM E.P k f (Io b)) (A:∀x,(heap x).length=n0)
  (d:∀x,run E n0 keep f.results.toList gas (bq f) (aY f.ntmps (args x) (heap x))=(i x).map (lf f e))
  (j:∀s,run E n0 keep f.results.toList gas (aa f (e s).1) (e s).2=(t s).map (lf f e))
  (z:∀a h c,(G a h).val=Q1 c->∃x,iV b a=args x/\h=heap x/\bR t n (i x)=Q1 c) (F:E.P=P:=by rfl) (D:E.gl=l:=by rfl):oh P l k (aW b G):=by
 subst F D;refine dc m λx u c B C v=>?_
 obtain⟨y,o,p,q⟩:=z x u c B;subst p;rw[o];exact lC (n0:=n0) (Q:=λr h=>(r,h)=c) w m (λid h=>v id (by rw[A];exact h)) (n+1) _ _ _ (by rw[jq j (d y)];exact q) rfl
abbrev yR(l:dI):Tr zQ:=run di 0 KD (Func.results Tryz.f157).toList 300 (bq Tryz.f157) (aY (Func.ntmps Tryz.f157) [.sl zj l] [])
theorem RR:zM di.P 157 Tryz.f157 1:=bL kw
theorem zqs(l:dI):yR l=.ok (.fork l.isEmpty (bG (yR l)).1 (bG (yR l)).2.1 (bG (yR l)).2.2):=kw
theorem zlB(l:dI):run di 0 KD (Func.results Tryz.f157).toList 300 (bG (yR l)).1 (bG (yR l)).2.2=.ok (.ret .nils []):=kw
theorem zlC(l:dI):run di 0 KD (Func.results Tryz.f157).toList 300 (bG (yR l)).2.1 (bG (yR l)).2.2=.chk (Q0 (Io l<=1073741824)) (.ok (.ret (.vec 0) [.vec zj l])):=kw
def zpn:eW [Q1 (.sl zj)]:=λx h=>match h with
 |[]=>.chk (Q0 (Io x.1<=1073741824)) (.ok (.vec 0,[.vec zj x.1]))
 |_=>.err
def zn4:z8:=aW [Q1 (.sl zj)] zpn
theorem ziV:FK 157 zn4:=by
 refine dc RR λx j i a C b=>?_
 unfold zpn at a;split at a
 .simp only[Q8]at a;split at a
  .rename_i d;simp only[bj]at a;subst a;obtain⟨l,u⟩:=x;refine zF (n0:=0) bz RR b (zqs l) ?_;refine⟨λc=>?_,?_⟩
   .have e:l=[]:=List.isEmpty_iff.1 c;refine Reach.weaken (Q:=λr h=>(r,h)=(.vec 0,[.vec zj []])) (Reach.promNil zj (λid=>b id sw) (zF (n0:=0) bz RR b (zlB l) rfl)) ?_;intro r h g;cases g;refine⟨_,?_,λ_ _ _ _ h=>h⟩;show(AV.vec 0,[AO.vec zj []])=(AV.vec 0,[AO.vec zj l]);rw[e]
   .exact zF (n0:=0) bz RR b (zlC l) (ft d rfl)
  .cases a
 .simp at a
abbrev yS(l:dp):Tr zQ:=run di 0 KD (Func.results Tryz.f158).toList 300 (bq Tryz.f158) (aY (Func.ntmps Tryz.f158) [.sl zA l] [])
theorem RT:zM di.P 158 Tryz.f158 1:=bL kw
theorem zqt(l:dp):yS l=.ok (.fork l.isEmpty (bG (yS l)).1 (bG (yS l)).2.1 (bG (yS l)).2.2):=kw
theorem zlD(l:dp):run di 0 KD (Func.results Tryz.f158).toList 300 (bG (yS l)).1 (bG (yS l)).2.2=.ok (.ret .nils []):=kw
theorem zlE(l:dp):run di 0 KD (Func.results Tryz.f158).toList 300 (bG (yS l)).2.1 (bG (yS l)).2.2=.chk (Q0 (Io l<=1073741824)) (.ok (.ret (.vec 0) [.vec zA l])):=kw
def zpo:eW [Q1 (.sl zA)]:=λx h=>match h with
 |[]=>.chk (Q0 (Io x.1<=1073741824)) (.ok (.vec 0,[.vec zA x.1]))
 |_=>.err
def zn5:z8:=aW [Q1 (.sl zA)] zpo
theorem ziW:FK 158 zn5:=by
 refine dc RT λx j i a C b=>?_
 unfold zpo at a;split at a
 .simp only[Q8]at a;split at a
  .rename_i d;simp only[bj]at a;subst a;obtain⟨l,u⟩:=x;refine zF (n0:=0) bz RT b (zqt l) ?_;refine⟨λc=>?_,?_⟩
   .have e:l=[]:=List.isEmpty_iff.1 c;refine Reach.weaken (Q:=λr h=>(r,h)=(.vec 0,[.vec zA []])) (Reach.promNil zA (λid=>b id sw) (zF (n0:=0) bz RT b (zlD l) rfl)) ?_;intro r h g;cases g;refine⟨_,?_,λ_ _ _ _ h=>h⟩;show(AV.vec 0,[AO.vec zA []])=(AV.vec 0,[AO.vec zA l]);rw[e]
   .exact zF (n0:=0) bz RT b (zlE l) (ft d rfl)
  .cases a
 .simp at a
abbrev yT(l:List eU):Tr zQ:=run di 0 KD (Func.results Tryz.f160).toList 300 (bq Tryz.f160) (aY (Func.ntmps Tryz.f160) [.sl (.sl zf) l] [])
theorem RV:zM di.P 160 Tryz.f160 1:=bL kw
theorem zqv(l:List eU):yT l=.ok (.fork l.isEmpty (bG (yT l)).1 (bG (yT l)).2.1 (bG (yT l)).2.2):=kw
theorem zlF(l:List eU):run di 0 KD (Func.results Tryz.f160).toList 300 (bG (yT l)).1 (bG (yT l)).2.2=.ok (.ret .nils []):=kw
theorem zlG(l:List eU):run di 0 KD (Func.results Tryz.f160).toList 300 (bG (yT l)).2.1 (bG (yT l)).2.2=.chk (Q0 (Io l<=1073741824)) (.ok (.ret (.vec 0) [.vec (.sl zf) l])):=kw
def zpp:eW [Q1 (.sl (.sl zf))]:=λx h=>match h with
 |[]=>.chk (Q0 (Io x.1<=1073741824)) (.ok (.vec 0,[.vec (.sl zf) x.1]))
 |_=>.err
def zn7:z8:=aW [Q1 (.sl (.sl zf))] zpp
theorem ziY:FK 160 zn7:=by
 refine dc RV λx j i a C b=>?_
 unfold zpp at a;split at a
 .simp only[Q8]at a;split at a
  .rename_i d;simp only[bj]at a;subst a;obtain⟨l,u⟩:=x;refine zF (n0:=0) bz RV b (zqv l) ?_;refine⟨λc=>?_,?_⟩
   .have e:l=[]:=List.isEmpty_iff.1 c;refine Reach.weaken (Q:=λr h=>(r,h)=(.vec 0,[.vec (.sl zf) []])) (Reach.promNil (.sl zf) (λid=>b id sw) (zF (n0:=0) bz RV b (zlF l) rfl)) ?_;intro r h g;cases g;refine⟨_,?_,λ_ _ _ _ h=>h⟩;show(AV.vec 0,[AO.vec (Sh.sl zf) []])=(AV.vec 0,[AO.vec (Sh.sl zf) l]);rw[e]
   .exact zF (n0:=0) bz RV b (zlG l) (ft d rfl)
  .cases a
 .simp at a
abbrev yU(l:zw):Tr zQ:=run di 0 KD (Func.results Tryz.f100).toList 300 (bq Tryz.f100) (aY (Func.ntmps Tryz.f100) [.sl zf l] [])
theorem RW:zM di.P 100 Tryz.f100 1:=bL kw
theorem zqw(l:zw):yU l=.ok (.fork l.isEmpty (bG (yU l)).1 (bG (yU l)).2.1 (bG (yU l)).2.2):=kw
theorem zlH(l:zw):run di 0 KD (Func.results Tryz.f100).toList 300 (bG (yU l)).1 (bG (yU l)).2.2=.ok (.ret .nils []):=kw
theorem zlI(l:zw):run di 0 KD (Func.results Tryz.f100).toList 300 (bG (yU l)).2.1 (bG (yU l)).2.2=.chk (Q0 (Io l<=1073741824)) (.ok (.ret (.vec 0) [.vec zf l])):=kw
def zpq:eW [Q1 (.sl zf)]:=λx h=>match h with
 |[]=>.chk (Q0 (Io x.1<=1073741824)) (.ok (.vec 0,[.vec zf x.1]))
 |_=>.err
def zg6:z8:=aW [Q1 (.sl zf)] zpq
theorem Vj:FK 100 zg6:=by
 refine dc RW λx j i a C b=>?_
 unfold zpq at a;split at a
 .simp only[Q8]at a;split at a
  .rename_i d;simp only[bj]at a;subst a;obtain⟨l,u⟩:=x;refine zF (n0:=0) bz RW b (zqw l) ?_;refine⟨λc=>?_,?_⟩
   .have e:l=[]:=List.isEmpty_iff.1 c;refine Reach.weaken (Q:=λr h=>(r,h)=(.vec 0,[.vec zf []])) (Reach.promNil zf (λid=>b id sw) (zF (n0:=0) bz RW b (zlH l) rfl)) ?_;intro r h g;cases g;refine⟨_,?_,λ_ _ _ _ h=>h⟩;show(AV.vec 0,[AO.vec zf []])=(AV.vec 0,[AO.vec zf l]);rw[e]
   .exact zF (n0:=0) bz RW b (zlI l) (ft d rfl)
  .cases a
 .simp at a
def zcy:=di.addL [(157,zn4),(158,zn5),(160,zn7),(100,zg6)]
theorem LR:zu zcy:=bz.addL<|fc ziV<|fc ziW<|fc ziY<|fc Vj iw
def FQ(c:za->Bool):z8:=zY [.expr] [.expr] (λx=>c x.1) λx=>(x.1,())
def Gh(c:za->Bool):cd:=zcy.add 159 (FQ c)
variable {h:za->Bool}
theorem wZ(x:FK 159 (FQ h)):zu (Gh h):=LR.add x
abbrev zgF:Nat->aT:=λj=>if j=3 then{slots:=[1,2,10,11]}else{ }
abbrev JZ(i h:Int)(j:zH)(x a:Int)(b c:zH)(l:List (Sem Q5)):St:={
 tmps:=
  (tm 26 [(1,ptr 0 0),(2,ptr 1 0),(10,ai i),(11,ai h)]),
 heap:=
  [Qa [str j,ai x,ai a,str b,str c,AV.vec 2],
   Qa [str [],ai 0,ai 0,str [],str [],Qb],AO.vec Q5 l]}
theorem RU(c:za->Bool):zM (Gh c).P 159 Tryz.f159 1:=bL kw
theorem zqu(c:za->Bool)(o:zH)(v:V)(s:zH)(l:List za):rn (Gh c) 0 zgF Tryz.f159 [zI Q5 (za.mk o v s l)] []=
 Qc (Q0 (Io l<=1073741824)) (Tr.ok (zQ.head 3 (aa Tryz.f159 3) (JZ (↑l.length:Int) 0 o v.1 v.2.1 v.2.2 s l))):=kw
theorem R3(c:za->Bool)(h i:Int)(j:zH)(x a:Int)(b d:zH)(l:List (Sem Sh.expr)):rh (Gh c) 0 zgF Tryz.f159 3 (JZ h i j x a b d l)=
 br (Q0 (i<h))
 (chk (zK i (Io l))
  (chk (decide (i.toNat<Io l))
   (chk (c (zr (l.getD i.toNat (zi Sh.expr))))
    (chk (zK i (Io l))
     (chk (decide (i.toNat<Io l))
      (Tr.ok
       (zQ.head 3 (aa Tryz.f159 3)
        (JZ h (Γ Δ (i+1)) j x a b d
         (l.set i.toNat
          (zr (l.getD i.toNat (zi Q5))))))))))))
 (Tr.ok
  (zQ.ret (agg [str j,ai x,ai a,str b,str d,AV.vec 0]) [AO.vec Q5 l])):=kw
theorem zpu(d:FK 159 (FQ h))(c:∀id,C.ρ0 id=Q2)(o:zH)(v:V)(s:zH)(l:List za)(p:Io l<=1073741824)(b:l.all h=Q3):
  ∀(k i:Nat),Io l-i=k->i<=Io l->Reach (Gh h) C 159 (aa Tryz.f159 3) (JZ (Io l) i o v.1 v.2.1 v.2.2 s l) (λr x=>aS x [.expr] r=Q1 (za.mk o v s l,())):=by
 intro k
 induction k with
 | zero=>
  intro i n m;obtain rfl:i=Io l:=by omega
  refine zF (n0:=0) (wZ d) (RU h) (λid _=>c id) (R3 h _ _ _ _ _ _ _ _) ?_;simp only[zG,Tr.val_brF];rfl
 | succ k I=>
  intro i n m;have a:i<Io l:=by omega
  refine zF (n0:=0) (wZ d) (RU h) (λid _=>c id) (R3 h _ _ _ _ _ _ _ _) ?_;have e:h l[i]=Q3:=dJ.1 b _ (bp a);have g:Q0 ((i:Int).toNat<Io l)=Q3:=by simpa using a
  have j:l.set (i:Int).toNat l[i]=l:=by simp
  simp only[zL a,zz a,cP l _ a,za.eta,Tr.val_brT,Tr.val_chkT,e,g,j,zt i um];exact I (i+1) ow ow
theorem zkD:zM zcy.P 159 Tryz.f159 1:=bL kw
theorem H1:∀n,FK 159 (FQ (oe n))
 |0=>eH ⟨Tryz.f159,zkD.1,zkD.2.1,zkD.2.2.1⟩ (λ_=>rfl)
 | n+1=>by
  have h:FK 159 (FQ (oe (n+1))):=by
   refine aO (E:=Gh (oe n)) (RU _) λx a C b=>?_
   obtain⟨⟨o,v,s,l⟩,u⟩:=x;have a:(Q0 (Io l<=1073741824)&&l.all (oe n))=Q3:=a;simp only[aF,aR]at a;refine zF (n0:=0) (wZ (H1 n)) (RU _) (λid _=>b id) (zqu _ o v s l) ?_;refine ft (by simpa using a.1) ?_;exact zpu (H1 n) b o v s l a.1 a.2 _ 0 rfl (aL _)
  exact h
def zn6:z8:=FQ (oe 16)
theorem ziX:FK 159 zn6:=H1 16
def Re:=zcy.add 159 zn6
theorem TR:zu Re:=LR.add ziX
def WM:=zfX.add 100 zg6
theorem CX:zu WM:=TN.add Vj
abbrev zq7:=kl [(4,[1,2,3,6,27,28,29])]
inductive ST where
 |h4 (l1:zP) (l2:zw) (l27:zw) (i28:Int) (i29:Int) (z0:zn [CP.d am]) (z1:zn [CP.d zf])
abbrev zt2:ST->Nat×St
 |.h4 x a l i h z b=>(4,⟨tm 49 [(1,sl zk x),(2,sl zf a),(3,ptr 0 0),(6,ptr 1 0),(27,sl zf l),(28,ai i),(29,ai h)],[Qa (bI [] [CP.d am] z),Qa (bI [] [CP.d zf] b)]⟩)
def zcR(x:ap)(h:Sem zk.sl)(a:Sem zf.sl):Tr (ST⊕aw):=
 let b:=(x.1,x.2.1,x.2.2.1,(x.2.2.2.1.1,x.2.2.2.1.2.1,x.2.2.2.1.2.2.1,x.2.2.2.1.2.2.2.1,x.2.2.2.1.t.1,zr x.2.2.2.1.t.2),x.t)
 let c:=Us b h !=0
 let d:=getD h (toNat 0) (zi zk)
 Qc (Hq b h&&bif c then Q3 else zK 0 (Io h))
 (br (cond c Q3 ((↑(Io a):Int)!=(↑(Io d.1.2.1):Int)))
  (re (tup [agg [ai 0,ai 0,str []],ai 1]) [])
  (Q9 (ST.h4 h a a (↑(Io a):Int) 0 (x,()) ((0,0,[]),()))))
def UN:ST->Tr (ST⊕aw)
 | .h4 x b l h i z e=>
  let c:=(z.1.1,z.1.2.1,z.1.2.2.1,(z.1.2.2.2.1.1,z.1.2.2.2.1.2.1,z.1.2.2.2.1.2.2.1,z.1.2.2.2.1.2.2.2.1,z.1.2.2.2.1.t.1,zr z.1.2.2.2.1.t.2),z.1.t)
  let d:=de c x
  let a:=b.getD (toNat d) (zi zf)
  br (Q0 (i<h))
  (Qc (zK i (Io l)) (br (!bh (l.getD i.toNat (zi zf))) (re (tup [agg [ai 0,ai 0,str []],ai 1]) []) (Q9 (ST.h4 x b l h (Γ Δ (i+1)) z e))))
  (Qc (mB c x) (Qc (zK d (Io b)) (br (a.1==0) (re (tup [agg [ai 0,ai 0,str []],ai 6]) []) (re (tup [agg [ai a.1,ai a.2.1,str a.2.2],ai 0]) []))))
def zab(x:ap)(h:Sem zk.sl)(a:Sem zf.sl):=ao [zf,zj] UN 100000000 (zcR x h a)
def zl7(x:ap)(h:Sem zk.sl)(a:Sem zf.sl):=(zab x h a).isSome
def uOf(x:ap)(h:Sem zk.sl)(a:Sem zf.sl):=o2 (zab x h a)
def zmS:=FT [am,zk.sl,zf.sl] [zf,zj] λx=>zab x.1 x.2.1 x.2.2.1
theorem zhz:FK 16 zmS:=CX.T1 (f:=Tryz.f16) (keep:=zq7) (e:=zt2)
inductive zxK where
 |h6 (i8:zq) (l22:List (Sem zf.sl)) (i23:Int) (i24:Int) (z0:zn [CP.d zf]) (lh_1:List (Sem zf.sl))
def WN:=WM.addL [(16,zmS)]
theorem OK:zu WN:=CX.addL<|fc zhz<|iw
def WI:=WN
theorem GP:zu WI:=OK
variable {a b:zo}
theorem PB(h:Io a.2.2<=1000000)(x:Io b.2.2<=1000000):DZ a b=Q3:=by unfold DZ;rw[D0 h x];rfl
theorem Uy(h:Io a.2.2<=1000000)(x:Io b.2.2<=1000000):Jk a b=aV a b:=by unfold Jk;rw[D0 h x];rfl
theorem Zn(a b:zo):Jg a b=Q3:=by unfold Jg;rw[MT];rfl
theorem zdy(a b:zo):Hs a b=FL a b:=by unfold Hs;rw[MT];rfl
theorem zdA(a b:zo):Sf a b=Q3:=by unfold Sf;rw[Sg];rfl
theorem zlO(a b:zo):Ux a b=vOr a b:=by unfold Ux;rw[Sg];rfl
theorem Zp(a:zo):Jj a=Q3:=by unfold Jj;rw[MW];rfl
theorem zdz(a:zo):Hu a=AQ a:=by unfold Hu;rw[MW];rfl
theorem D3(g:Io a.2.2<=1000000)(i:Io b.2.2<=1000000):qz a b=Q1 (!fg a b,()):=by
 unfold qz ao bR;simp only[zgs,Q8,rR g,rR i,vN g,vN i,zh,fg];generalize aC a=x;generalize aC b=y;obtain⟨k,n,s⟩:=x;obtain⟨j,m,o⟩:=y;simp only;by_cases h:k=0
 .subst h;rfl
 .have e:(k==0)=Q4:=by simpa using h
  have l:(k !=0)=Q3:=by simpa using h
  rw[e,l];by_cases d:j=0
  .subst d;have c:(k==0)=Q4:=e;simp[c];rfl
  .have c:(j==0)=Q4:=by simpa using d
   rw[c];rfl
theorem oS(h:Io a.2.2<=1000000)(x:Io b.2.2<=1000000):nH a b=Q3:=by unfold nH;rw[D3 h x];rfl
theorem rO(h:Io a.2.2<=1000000)(x:Io b.2.2<=1000000):rM a b=!fg a b:=by unfold rM;rw[D3 h x];rfl
theorem jA(b:Bool):dL b=yq b:=by unfold dL yq;rw[lS,lT]
theorem DW(h:Io a.2.2<=1000000)(x:Io b.2.2<=1000000):qv a b=Q1 (mQ a b,()):=by unfold qv ao bR;simp only[zgm,Q8,oS h x,rO h x,oR,il,zh,mQ,jA];cases fg a b<;>rfl
theorem Pz(h:Io a.2.2<=1000000)(x:Io b.2.2<=1000000):vG a b=Q3:=by unfold vG;rw[DW h x];rfl
theorem Uu(h:Io a.2.2<=1000000)(x:Io b.2.2<=1000000):rK a b=mQ a b:=by unfold rK;rw[DW h x];rfl
theorem K2(h:fg a b=Q3):bh a=Q3/\bh b=Q3/\a.1=b.1/\a.1≠0/\aC a=a/\aC b=b:=by
 unfold fg aC at h;unfold aC;cases x:bh a with
 |false=>simp[x]at h
 | true=>
  cases c:bh b with
  | false=>
   simp[x,c]at h
  | true=>
   simp[x,c]at h;exact⟨rfl,rfl,h.2,h.1,sw,sw⟩
theorem Hn(h:bh a=Q3)(x:a.1≠0):(a.1=1/\a.2.2=[])\/(a.1=2/\a.2.1=0)\/(a.1=3/\a.2.2=[]):=by
 obtain⟨k,n,s⟩:=a;unfold bh at h;simp only at h x|-;have e0:(k==0)=Q4:=by simpa using x
 rw[e0]at h;by_cases b:k=1
 .subst b;exact .inl ⟨rfl,by simpa using h⟩
 .have g:(k==1)=Q4:=by simpa using b
  rw[g]at h;by_cases c:k=2
  .subst c;refine .inr (.inl ⟨rfl,?_⟩);simp at h;exact h.1
  .have i:(k==2)=Q4:=by simpa using c
   rw[i]at h;by_cases d:k=3
   .subst d;refine .inr (.inr ⟨rfl,?_⟩);cases e:(n==0)with
    |true=>simp[e]at h;exact h
    |false=>simp[e]at h;exact h.2
   .have j:(k==3)=Q4:=by simpa using d
    rw[j]at h;cases h
theorem zda(k n a:Int)(s x:zH)(e:(s=[]/\x=[])\/(n=0/\a=0)):Q0 (I6 [tz k k,lq n a,pC s x]<0)=(cond (Q0 (n<a)) Q3 (Op.bytesLess s x)):=by
 simp only[I6,tz,lq,pC];rcases e with⟨rfl,rfl⟩|⟨rfl,rfl⟩
 .rcases BY n a with h|h|h
  .simp[h]
  .subst h;simp[cm]
  .have c:¬n<a:=by omega
   simp[h,c,cm]
 .by_cases d:Op.bytesLess s x=Q3
  .simp[d]
  .by_cases b:s=x
   .subst b;simp[cm]
   .have c:(s==x)=Q4:=dB.2 b;simp[d,c]
theorem Ht(p:Io a.2.2<=1000000)(q:Io b.2.2<=1000000):vH a b=Q1 (ti a b,()):=by
 unfold vH ao bR;simp only[zgn,Q8,oS p q,rO p q,oR,il,zh,ti,jA];cases o:fg a b with
 |false=>rfl
 | true=>
  obtain⟨v,w,l,m,y,z⟩:=K2 o;have t:=Hn v m;have u:=Hn w (by rw[<-l];exact m);obtain⟨k,n,s⟩:=a;obtain⟨C,x,g⟩:=b;simp only at l m t u;subst l;have A:(s=[]/\g=[])\/(n=0/\x=0):=by
   rcases t with⟨i,c⟩|⟨i,c⟩|⟨i,c⟩<;>rcases u with⟨j,d⟩|⟨j,d⟩|⟨j,d⟩<;>first|exact .inl ⟨c,d⟩|exact .inr ⟨c,d⟩|exact zC (i.symm.trans j) (by decide)
  have B:Q0 (LT.lt (α:=Int) (aV (k,n,s) (k,x,g)) 0)=(cond (Q0 (n<x)) Q3 (Op.bytesLess s g)):=by
   unfold aV;rw[y,z];exact zda k n x s g A
  rw[B];by_cases h:n<x
  .have e:Q0 (n<x)=Q3:=zy h;simp only[e];rfl
  .have e:Q0 (n<x)=Q4:=ae h;simp only[e];rfl
theorem Uv(h:Io a.2.2<=1000000)(x:Io b.2.2<=1000000):Bf a b=Q3:=by unfold Bf;rw[Ht h x];rfl
theorem Zo(h:Io a.2.2<=1000000)(x:Io b.2.2<=1000000):xX a b=ti a b:=by unfold xX;rw[Ht h x];rfl
variable {c:Int}
theorem Ut{l:Int}(a:-9223372036854775808<=c)(b:c<=9223372036854775807)(d:-9223372036854775808<=l)(g:l<=9223372036854775807):
  (cond (Q0 (l>0)) (cond (Q0 (c>Γ Δ (9223372036854775807-l))) Q3 (cond (Q0 (l<0)) (Q0 (c<Γ Δ (-9223372036854775808-l))) Q4)) (cond (Q0 (l<0)) (Q0 (c<Γ Δ (-9223372036854775808-l))) Q4))=
  (cond (Q0 (l>0)) (cond (Q0 (Γ Δ (c+l)<c)) Q3 (cond (Q0 (l<0)) (Q0 (Γ Δ (c+l)>c)) Q4)) (cond (Q0 (l<0)) (Q0 (Γ Δ (c+l)>c)) Q4)):=by
 rcases BY l 0 with h|h|h
 .have e:Q0 (l>0)=Q4:=ae ow;have x:Q0 (l<0)=Q3:=zy h;simp only[e,x,aA,ax];rw[ee,ee];apply gU.2;rw[aR,aR];omega
 .subst h;rfl
 .have e:Q0 (l>0)=Q3:=zy h;have x:Q0 (l<0)=Q4:=ae ow;simp only[e,x,aA,ax];have:Q0 (c>Γ Δ (9223372036854775807-l))=Q0 (Γ Δ (c+l)<c):=by
   rw[ee,ee];apply gU.2;rw[aR,aR];omega
  rw[this]
theorem Pk{l:Int}(a:-9223372036854775808<=c)(b:c<=9223372036854775807)(d:-9223372036854775808<=l)(g:l<=9223372036854775807):
  (cond (Q0 (l>0)) (cond (Q0 (c<Γ Δ (-9223372036854775808+l))) Q3 (cond (Q0 (l<0)) (Q0 (c>Γ Δ (9223372036854775807+l))) Q4)) (cond (Q0 (l<0)) (Q0 (c>Γ Δ (9223372036854775807+l))) Q4))=
  (cond (Q0 (l>0)) (cond (Q0 (Γ Δ (c-l)>c)) Q3 (cond (Q0 (l<0)) (Q0 (Γ Δ (c-l)<c)) Q4)) (cond (Q0 (l<0)) (Q0 (Γ Δ (c-l)<c)) Q4)):=by
 rcases BY l 0 with h|h|h
 .have e:Q0 (l>0)=Q4:=ae ow;have x:Q0 (l<0)=Q3:=zy h;simp only[e,x,aA,ax];rw[ee,ee];apply gU.2;rw[aR,aR];omega
 .subst h;rfl
 .have e:Q0 (l>0)=Q3:=zy h;have x:Q0 (l<0)=Q4:=ae ow;simp only[e,x,aA,ax];have:Q0 (c<Γ Δ (-9223372036854775808+l))=Q0 (Γ Δ (c-l)>c):=by
   rw[ee,ee];apply gU.2;rw[aR,aR];omega
  rw[this]
theorem Hv(h:lj a)(x:lj b):vK a b=Q1 (py a b,()):=by
 unfold vK ao bR;simp only[zgo,Q8,oS h.2.2 x.2.2,rO h.2.2 x.2.2,zh,py];rw[Ut h.1 h.2.1 x.1 x.2.1];cases(cond (!fg a b) Q3 (a.1!=1))
 .cases(cond (Q0 (b.2.1>0)) (cond (Q0 (Γ Δ (a.2.1+b.2.1)<a.2.1)) Q3 (cond (Q0 (b.2.1<0)) (Q0 (Γ Δ (a.2.1+b.2.1)>a.2.1)) Q4)) (cond (Q0 (b.2.1<0)) (Q0 (Γ Δ (a.2.1+b.2.1)>a.2.1)) Q4))<;>rfl
 .rfl
theorem Uz(h:lj a)(x:lj b):Bg a b=Q3:=by unfold Bg;rw[Hv h x];rfl
theorem Zq(h:lj a)(x:lj b):xY a b=py a b:=by unfold xY;rw[Hv h x];rfl
theorem DX(h:lj a)(x:lj b):qx a b=Q1 (mR a b,()):=by
 unfold qx ao bR;simp only[zgp,Q8,oS h.2.2 x.2.2,rO h.2.2 x.2.2,zh,mR];rw[Pk h.1 h.2.1 x.1 x.2.1];cases(cond (!fg a b) Q3 (a.1!=1))
 .cases(cond (Q0 (b.2.1>0)) (cond (Q0 (Γ Δ (a.2.1-b.2.1)>a.2.1)) Q3 (cond (Q0 (b.2.1<0)) (Q0 (Γ Δ (a.2.1-b.2.1)<a.2.1)) Q4)) (cond (Q0 (b.2.1<0)) (Q0 (Γ Δ (a.2.1-b.2.1)<a.2.1)) Q4))<;>rfl
 .rfl
theorem PA(h:lj a)(x:lj b):vI a b=Q3:=by unfold vI;rw[DX h x];rfl
theorem Uw(h:lj a)(x:lj b):rL a b=mR a b:=by unfold rL;rw[DX h x];rfl
theorem At(c:Int):nO c=Q1 (bc c,()):=by
 unfold nO ao bR;simp only[zgh,Q8,bc];by_cases h:97<=c
 .have e:Q0 (97<=c)=Q3:=zy h;have x:Q0 (c<=90)=Q4:=ae ow;have a:Q0 (65<=c)=Q3:=zy ow;simp[e,x,a];rfl
 .have e:Q0 (97<=c)=Q4:=ae h;simp[e];rfl
theorem qH(c:Int):nN c=Q3:=by unfold nN;rw[At];rfl
theorem ui(c:Int):qG c=bc c:=by unfold qG;rw[At];rfl
theorem Ej(c:Int):vU c=Q1 (au c,()):=rfl
theorem ju(c:Int):jV c=Q3:=by unfold jV;rw[Ej];rfl
theorem kY(c:Int):kL c=au c:=by unfold kL;rw[Ej];rfl
theorem HE(c:Int):vW c=Q1 (bS c,()):=by unfold vW ao bR;simp only[zgi,Q8,ju,kY,qH,ui,bS];cases au c<;>cases bc c<;>rfl
theorem yf(c:Int):vV c=Q3:=by unfold vV;rw[HE];rfl
theorem El(c:Int):Ek c=bS c:=by unfold Ek;rw[HE];rfl
theorem Mw(p:Int->Bool):∀s:zH,cY p s=Io s↔∀c∈s,p c.toNat=Q3
 |[]=>by simp[cY]
 | c::r=>by
  have i:=Mw p r;rw[cY];by_cases h:p c.toNat=Q3
  .rw[ze h];simp only[eA,cf,forall_eq_or_imp];constructor
   .intro x;exact⟨h,i.1 ow⟩
   .intro x;rw[i.2 x.2]
  .rw[zg h];simp only[eA,cf,forall_eq_or_imp];exact⟨λx=>zC x ow,λx=>zC x.1 h⟩
theorem Mx(h:bc c=Q3):bS c=Q3:=by unfold bS;rw[h];rfl
theorem UX(s:zH):qS s=Q3↔(1<=Io s/\Io s<=16/\bc (getD s 0 0).toNat=Q3/\∀c∈s,bS c.toNat=Q3):=by
 unfold qS;cases s with
 |nil=>simp
 | cons c r=>
  have j:Q0 (((c::r).length:Int)>=1)=Q3:=zy sg;rw[j];by_cases h:(c::r).length<=16
  .have e:Q0 (((c::r).length:Int)<=16)=Q3:=zy ow;rw[e];simp only[ax];have i:=Mw bS r;by_cases b:bc c.toNat=Q3
   .have g:bv bc bS (c::r)=cY bS r+1:=by rw[bv,ze b]
    rw[g];constructor
    .intro a;have:cY bS r=Io r:=by simp at a;omega
     refine⟨sw,h,b,?_⟩;intro x d;rcases cf.1 d with rfl|d
     .exact Mx b
     .exact i.1 this x d
    .rintro⟨_,_,_,k⟩;have:=i.2 (λx d=>k x (mX _ d));simp[this]
   .have g:bv bc bS (c::r)=0:=by rw[bv,zg b]
    rw[g];constructor
    .intro a;simp at a;omega
    .rintro⟨_,_,a,_⟩;exact zC a b
  .have e:Q0 (((c::r).length:Int)<=16)=Q4:=ae ow;rw[e];simp only[ax,aA];exact⟨λh=>(by cases h),λa=>zC a.2.1 h⟩
variable {s:zH}
theorem HD(v:Io s<=1000000):Bt s=Q1 (eo s,()):=by
 have q:=mD (t:=wt) (Φ:=λr=>r=(.kb Q4,[])) 1 (λi=>.h2 s (i:Int)) (λi=>bS (getD s i 0).toNat=Q3) (Io s) (by
  intro i a _;have n:(wt (.h2 s (i:Int))).val=if(!bS (getD s i 0).toNat)=Q3 then Q1 (.inr (.kb Q4,[]))else Q1 (.inl (.h2 s ((i+1:Nat):Int))):=by
   show(wt (.h2 _ _)).val=_;unfold wt;simp only[Q8,zL a,zz a,aK,yf,El,zh];rw[zt i um]
  by_cases h:bS (getD s i 0).toNat=Q3
  .exact .inl ⟨h,zN.of (by rw[n,zg (by rw[h];simp)])⟩
  .exact .inr ⟨h,_,z6.of (by rw[n,ze (by simpa using h)]),rfl⟩)
 have a:(zgg s).val=Q1 (.inl (.h2 s ((0:Nat):Int))):=rfl;have m:=aD (l:=s) (d:=0) (Q:=λc=>bS c.toNat=Q3);have o:=UX s;rcases q with⟨g,j⟩|⟨g,r,j,rfl⟩
 .refine zB a (j.ends (z6.of (r:=(.bool (eo s),[])) ?_)) ow rfl;show(wt (.h2 _ _)).val=_;unfold wt;simp only[Q8,zG,qH,ui];have e:eo s=(cond (Q0 (1<=(Io s:Int))) (cond (Q0 ((Io s:Int)<=16)) (bc (getD s (toNat 0) 0).toNat) Q4) Q4):=by
   apply gU.2;unfold eo;rw[o];by_cases k:1<=Io s
   .have x:Q0 (1<=(Io s:Int))=Q3:=zy ow;rw[x];by_cases p:Io s<=16
    .have b:Q0 ((Io s:Int)<=16)=Q3:=zy ow;rw[b];exact⟨λh=>h.2.2.1,λh=>⟨k,p,h,m.1 g⟩⟩
    .have b:Q0 ((Io s:Int)<=16)=Q4:=ae ow;rw[b];exact⟨λh=>zC h.2.1 p,λh=>(by cases h)⟩
   .have x:Q0 (1<=(Io s:Int))=Q4:=ae ow;rw[x];exact⟨λh=>zC h.1 k,λh=>(by cases h)⟩
  rw[e];by_cases k:1<=Io s
  .have e0:zK 0 (Io s)=Q3:=zz (i:=0) ow;rw[e0];cases Q0 (1<=(Io s:Int))<;>cases Q0 ((Io s:Int)<=16)<;>rfl
  .have x:Q0 (1<=(Io s:Int))=Q4:=ae ow;rw[x];rfl
 .have e:eo s=Q4:=by
   cases u:eo s with
   |false=>rfl
   |true=>exact zC (m.2 (o.1 u).2.2.2) g
  rw[e];exact zB a j ow rfl
theorem ye(h:Io s<=1000000):vT s=Q3:=by unfold vT;rw[HD h];rfl
theorem Ei(h:Io s<=1000000):uh s=eo s:=by unfold uh;rw[HD h];rfl
def yl:List zH:=match(Xo []).val with
 |some (.inl (.h3 _ l _))=>l
 |_=>[]
theorem ZJ:Io yl=38:=kw
theorem ZK:(yl.all λw=>(Ff.map (·.1)).contains w)=Q3:=kw
theorem ZL:(Ff.all λw=>yl.contains w.1)=Q3:=kw
theorem Qn:(Ff.all λw=>w.2)=Q3:=kw
theorem SE(s:zH):∀l:List (zH×Bool),(l.all λw=>w.2)=Q3->(SD s l Q4=Q3↔s∈l.map (·.1))
 |[],_=>by simp[SD]
 | (w,b)::r,h=>by
  simp only[List.all_cons,aF]at h;obtain⟨rfl,h⟩:=h;rw[SD];by_cases e:(s==w)=Q3
  .have:s=w:=bF e;rw[ze e];simp[this]
  .rw[zg e,SE s r h];have:s≠w:=λh=>e (by rw[h];simp)
   simp[this]
theorem Sy(s:zH):jw s=Q3↔s∈yl:=by
 unfold jw;rw[SE s Ff Qn];constructor
 .intro h;obtain⟨w,x,rfl⟩:=aE.1 h;have:=dJ.1 ZL w x;simpa using this
 .intro h;have:=dJ.1 ZK s h;simpa using this
theorem Nf(s:zH):JH s=Q1 (jw s,()):=by
 have o:=ZJ;have n:=mD (t:=EU) (Φ:=λr=>r=(.kb Q3,[])) 1 (λi=>.h3 s yl (i:Int)) (λi=>getD yl i (zi Sh.str)≠s) (Io yl) (by
  intro i a _;have k:(EU (.h3 s yl (i:Int))).val=if(getD yl i (zi Sh.str)==s)=Q3 then Q1 (.inr (.kb Q3,[]))else Q1 (.inl (.h3 s yl ((i+1:Nat):Int))):=by
   show(EU (.h3 _ _ _)).val=_;unfold EU;simp only[Q8,zL a,zz a,aK,zh];rw[zt i um]
  by_cases h:getD yl i (zi Sh.str)=s
  .exact .inr ⟨λx=>x h,_,z6.of (by rw[k,ze (by rw[h];simp)]),rfl⟩
  .exact .inl ⟨h,zN.of (by rw[k,zg (λx=>h (bF x))])⟩)
 have a:(Xo s).val=Q1 (.inl (.h3 s yl ((0:Nat):Int))):=rfl;have j:=aD (l:=yl) (d:=zi Sh.str) (Q:=λw=>w≠s);rcases n with⟨c,x⟩|⟨c,r,x,rfl⟩
 .have e:jw s=Q4:=by
   cases b:jw s with
   |false=>rfl
   |true=>exact zC rfl (j.1 c s ((Sy s).1 b))
  rw[e];refine zB a (x.ends (z6.of (r:=(.kb Q4,[])) ?_)) ow rfl;show(EU (.h3 _ _ _)).val=_;unfold EU;simp only[Q8,zG];rfl
 .have e:jw s=Q3:=by
   cases b:jw s with
   |true=>rfl
   |false=>exact zC (j.2 λw m g=>by rw[g]at m;rw[(Sy s).2 m]at b;cases b) c
  rw[e];exact zB a x ow rfl
theorem Nd(s:zH):En s=Q3:=by unfold En;rw[Nf];rfl
theorem So(s:zH):Nc s=jw s:=by unfold Nc;rw[Nf];rfl
theorem HF(h:Io s<=1000000):vY s=Q1 (zU s,()):=by unfold vY ao bR;simp only[zqW,Q8,ye h,Ei h,Nd,So,zU];cases eo s<;>rfl
theorem cr(h:Io s<=1000000):ea s=Q3:=by unfold ea;rw[HF h];rfl
theorem fk(h:Io s<=1000000):bN s=zU s:=by unfold bN;rw[HF h];rfl
mutual
def tp:za->Prop
 |.mk _ v s l=>lj v/\Io s<=1000000/\kB l
def kB:List za->Prop
 |[]=>True
 |e::r=>tp e/\kB r
end
theorem kB.mem:∀{l:List za},kB l->∀e∈l,tp e
 |[],_,e,h=>by simp at h
 | x::r,h,e,a=>by
  rw[kB]at h;rcases cf.1 a with rfl|a
  .exact h.1
  .exact kB.mem h.2 e a
def FI(o:zH):Bool:=bif o==ir then Q3 else bif o==uG then Q3 else bif o==[61]then Q3 else bif o==[60]then Q3 else bif o==[43]then Q3 else o==[45]
theorem M4(s:zH):PF s=Q1 (FI s,()):=rfl
theorem Zs(s:zH):Jr s=Q3:=by unfold Jr;rw[M4];rfl
theorem zdB(s:zH):Sl s=FI s:=by unfold Sl;rw[M4];rfl
def cG:Nat->za->Bool
 |0,_=>Q4
 | d+1,.mk o v s l=>
  if(o==ot)=Q3 then(cond (bh v) (cond (s==[]) ((Io l:Int)==0) Q4) Q4)else
  if(o==eK)=Q3 then(cond (bu v) (cond (eo s) (cond (!jw s) ((Io l:Int)==0) Q4) Q4) Q4)else
  if(cond (o==ng) Q3 (o==pk))=Q3 then(cond (bu v) (cond (s==[]) (match l with|[a]=>cG d a|_=>Q4) Q4) Q4)else
  if FI o=Q3 then(cond (bu v) (cond (s==[]) (match l with|[a,b]=>bif cG d a then cG d b else Q4|_=>Q4) Q4) Q4)else Q4
def nE:Nat->za->Nat
 |0,_=>0
 |d+1,.mk _ _ _ l=>1+(l.map (nE d)).sum
theorem UY(d:Nat)(h:d<=1000):Γ Δ (((d+1:Nat):Int)-1)=(d:Int):=lY d um
theorem Hz:∀(N d:Nat)(e:za),d<=12->d<N->tp e->gv N e (d:Int)=Q1 (cG d e,())
 |0,_,_,_,h,_=>zC h ow
 | N+1,0,e,_,_,_=>by
  rw[gv];unfold Jq ao bR;rfl
 | N+1,d+1,.mk o v s l,F,G,z=>by
  rw[tp]at z;obtain⟨y,w,D⟩:=z;have q:∀a∈l,gv N a (d:Int)=Q1 (cG d a,()):=λa u=>Hz N d a ow ow (D.mem a u)
  rw[gv];unfold Jq ao bR;have E:(((d+1:Nat):Int)==0)=Q4:=dB.2 ow;simp only[Rt,Q8,zm,za.op,za.v,za.s,za.l,lH y.2.2,oP y.2.2,ye w,Ei w,Nd,So,Zs,zdB,UY d ow,zh,E]
  match l,q with
  | [],_=>
   simp only[cG,bu];rcases zR (o==ot)with j|j
   .rcases zR (bh v)with g|g<;>rcases zR (s==[])with i|i<;>(simp only[j,g,i,ax,aA,zh,zp,zE,eB];rfl)
   rcases zR (o==eK)with k|k
   .rcases zR (bu v)with g|g<;>rcases zR (eo s)with i|i<;>rcases zR (jw s)with m|m<;>(simp only[bu]at g;simp only[j,k,g,i,m,ax,aA,zh,zp,zE,eB,ci,da];rfl)
   rcases zR (cond (o==ng) Q3 (o==pk))with n|n
   .rcases zR (bu v)with g|g<;>rcases zR (s==[])with i|i<;>(simp only[bu]at g;simp only[j,k,n,g,i,ax,aA,zh,zp,zE,eB];rfl)
   rcases zR (FI o)with p|p
   .rcases zR (bu v)with g|g<;>rcases zR (s==[])with i|i<;>(simp only[bu]at g;simp only[j,k,n,p,g,i,ax,aA,zh,zp,zE,eB];rfl)
   .simp only[j,k,n,p,zp,zE,eB];rfl
  | [a],q=>
   have u:=q a sw;simp only[cG,bu,show getD [a] (toNat 0) (zi Q5)=a from rfl,u,show zK 0 [a].length=Q3 from rfl,fE,show∀x,oU (Q1 (x,()))=x from λ_=>rfl];rcases zR (o==ot)with j|j
   .rcases zR (bh v)with g|g<;>rcases zR (s==[])with i|i<;>(simp only[j,g,i,ax,aA,zh,zp,zE,eB];rfl)
   rcases zR (o==eK)with k|k
   .rcases zR (bu v)with g|g<;>rcases zR (eo s)with i|i<;>rcases zR (jw s)with m|m<;>(simp only[bu]at g;simp only[j,k,g,i,m,ax,aA,zh,zp,zE,eB,ci,da];rfl)
   rcases zR (cond (o==ng) Q3 (o==pk))with n|n
   .rcases zR (bu v)with g|g<;>rcases zR (s==[])with i|i<;>rcases zR (cG d a)with m|m<;>(simp only[bu]at g;simp only[j,k,n,g,i,m,ax,aA,zh,zp,zE,eB];rfl)
   rcases zR (FI o)with p|p
   .rcases zR (bu v)with g|g<;>rcases zR (s==[])with i|i<;>rcases zR (cG d a)with m|m<;>(simp only[bu]at g;simp only[j,k,n,p,g,i,m,ax,aA,zh,zp,zE,eB];rfl)
   .simp only[j,k,n,p,zp,zE,eB];rfl
  | [a,b],q=>
   have u:=q a sw;have C:=q b sw;simp only[cG,bu,show getD [a,b] (toNat 0) (zi Q5)=a from rfl,show getD [a,b] (toNat 1) (zi Q5)=b from rfl,u,C,show zK 0 [a,b].length=Q3 from rfl,show zK 1 [a,b].length=Q3 from rfl,fE,show∀x,oU (Q1 (x,()))=x from λ_=>rfl];rcases zR (o==ot)with j|j
   .rcases zR (bh v)with g|g<;>rcases zR (s==[])with i|i<;>(simp only[j,g,i,ax,aA,zh,zp,zE,eB];rfl)
   rcases zR (o==eK)with k|k
   .rcases zR (bu v)with g|g<;>rcases zR (eo s)with i|i<;>rcases zR (jw s)with m|m<;>(simp only[bu]at g;simp only[j,k,g,i,m,ax,aA,zh,zp,zE,eB,ci,da];rfl)
   rcases zR (cond (o==ng) Q3 (o==pk))with n|n
   .rcases zR (bu v)with g|g<;>rcases zR (s==[])with i|i<;>rcases zR (cG d a)with m|m<;>rcases zR (cG d b)with t|t<;>(simp only[bu]at g;simp only[j,k,n,g,i,m,t,ax,aA,zh,zp,zE,eB];rfl)
   rcases zR (FI o)with p|p
   .rcases zR (bu v)with g|g<;>rcases zR (s==[])with i|i<;>rcases zR (cG d a)with m|m<;>rcases zR (cG d b)with t|t<;>(simp only[bu]at g;simp only[j,k,n,p,g,i,m,t,ax,aA,zh,zp,zE,eB];rfl)
   .simp only[j,k,n,p,zp,zE,eB];rfl
  | a::b::c::r,_=>
   have e0:((((a::b::c::r).length:Nat):Int)==0)=Q4:=dB.2 sg;have A:((((a::b::c::r).length:Nat):Int)==1)=Q4:=dB.2 sg;have B:((((a::b::c::r).length:Nat):Int)==2)=Q4:=dB.2 sg;simp only[cG,bu,e0,A,B];rcases zR (o==ot)with j|j
   .rcases zR (bh v)with g|g<;>rcases zR (s==[])with i|i<;>(simp only[j,g,i,ax,aA,zh,zp,zE,eB];rfl)
   rcases zR (o==eK)with k|k
   .rcases zR (bu v)with g|g<;>rcases zR (eo s)with i|i<;>rcases zR (jw s)with m|m<;>(simp only[bu]at g;simp only[j,k,g,i,m,ax,aA,zh,zp,zE,eB,ci,da];rfl)
   rcases zR (cond (o==ng) Q3 (o==pk))with n|n
   .rcases zR (bu v)with g|g<;>rcases zR (s==[])with i|i<;>(simp only[bu]at g;simp only[j,k,n,g,i,ax,aA,zh,zp,zE,eB];rfl)
   rcases zR (FI o)with p|p
   .rcases zR (bu v)with g|g<;>rcases zR (s==[])with i|i<;>(simp only[bu]at g;simp only[j,k,n,p,g,i,ax,aA,zh,zp,zE,eB];rfl)
   .simp only[j,k,n,p,aA,zp,zE,eB];rfl
theorem UT(h:FI s=Q3):s=ir\/s=uG\/s=[61]\/s=[60]\/s=[43]\/s=[45]:=by
 unfold FI at h;rcases zR (s==ir)with c|c
 .exact .inl (bF c)
 rcases zR (s==uG)with x|x
 .exact .inr (.inl (bF x))
 rcases zR (s==[61])with a|a
 .exact .inr (.inr (.inl (bF a)))
 rcases zR (s==[60])with b|b
 .exact .inr (.inr (.inr (.inl (bF b))))
 rcases zR (s==[43])with d|d
 .exact .inr (.inr (.inr (.inr (.inl (bF d)))))
 rcases zR (s==[45])with e|e
 .exact .inr (.inr (.inr (.inr (.inr (bF e)))))
 rw[c,x,a,b,d,e]at h;cases h
inductive Vo (d:Nat):za->Prop
 |lit (v:Int×Int×zH) (h:bh v=Q3):Vo d (.mk ot v [] [])
 |col (s:zH) (h:eo s=Q3) (h2:jw s=Q4):Vo d (.mk eK (0,0,[]) s [])
 |one (op:zH) (a:za) (h:op=ng\/op=pk) (ha:cG d a=Q3):Vo d (.mk op (0,0,[]) [] [a])
 |two (op:zH) (a b:za) (h:op=ir\/op=uG\/op=[61]\/op=[60]\/op=[43]\/op=[45]) (ha:cG d a=Q3) (hb:cG d b=Q3):Vo d (.mk op (0,0,[]) [] [a,b])
theorem Dm{k:Int×Int×zH}(h:bu k=Q3):k=(0,0,[]):=by obtain⟨a,b,c⟩:=k;unfold bu at h;simp at h;obtain⟨rfl,rfl,rfl⟩:=h;rfl
theorem cJ{a b:Bool}(h:(cond a b Q4)=Q3):a=Q3/\b=Q3:=by cases a<;>cases b<;>simp_all
theorem Um(h:(cond (s==ng) Q3 (s==pk))=Q3):s=ng\/s=pk:=by
 rcases zR (s==ng)with k|k
 .exact .inl (bF k)
 .rw[k]at h;exact .inr (bF h)
theorem fU:∀{e:za},cG (n+1) e=Q3->Vo n e
 | .mk o v s [],h=>by
  simp only[cG]at h;split at h
  next c=>obtain⟨g,i⟩:=cJ h;obtain⟨j,k⟩:=cJ i;rw[bF c,bF j];exact .lit v g
  split at h
  next c=>obtain⟨g,i⟩:=cJ h;obtain⟨j,k⟩:=cJ i;obtain⟨m,t⟩:=cJ k;rw[bF c,Dm g];exact .col s j (by simpa using m)
  split at h
  .cases x:bu v<;>cases d:(s==[])<;>simp[x,d]at h
  split at h
  .cases x:bu v<;>cases d:(s==[])<;>simp[x,d]at h
  .cases h
 | .mk o v s [a],h=>by
  simp only[cG]at h;split at h
  .cases x:bh v<;>cases d:(s==[])<;>simp[x,d]at h
  split at h
  .cases x:bu v<;>cases d:eo s<;>cases l:jw s<;>simp[x,d,l]at h
  split at h
  next c=>obtain⟨g,i⟩:=cJ h;obtain⟨j,k⟩:=cJ i;rw[bF j,Dm g];exact .one o a (Um c) k
  split at h
  .cases x:bu v<;>cases d:(s==[])<;>simp[x,d]at h
  .cases h
 | .mk o v s [a,b],h=>by
  simp only[cG]at h;split at h
  .cases x:bh v<;>cases d:(s==[])<;>simp[x,d]at h
  split at h
  .cases x:bu v<;>cases d:eo s<;>cases l:jw s<;>simp[x,d,l]at h
  split at h
  .cases x:bu v<;>cases d:(s==[])<;>simp[x,d]at h
  split at h
  next c=>obtain⟨g,i⟩:=cJ h;obtain⟨j,k⟩:=cJ i;obtain⟨p,q⟩:=cJ k;rw[bF j,Dm g];exact .two o a b (UT c) p q
  .cases h
 | .mk o v s (a::b::c::r),h=>by
  have e0:((((a::b::c::r).length:Nat):Int)==0)=Q4:=dB.2 sg;simp only[cG,e0]at h;split at h
  .cases x:bh v<;>cases d:(s==[])<;>simp[x,d]at h
  split at h
  .cases x:bu v<;>cases d:eo s<;>cases l:jw s<;>simp[x,d,l]at h
  split at h
  .cases x:bu v<;>cases d:(s==[])<;>simp[x,d]at h
  split at h
  .cases x:bu v<;>cases d:(s==[])<;>simp[x,d]at h
  .cases h
theorem sY:∀(d:Nat)(e:za),cG d e=Q3->nE d e+1<=2^d
 |0,_,h=>by cases h
 | d+1,e,h=>by
  have c:0<2^d:=Nat.two_pow_pos d;cases fU h with
  |lit v h=>simp[nE,pM];omega
  |col s h c=>simp[nE,pM];omega
  |one o a h x=>have:=sY d a x;simp[nE,pM];omega
  |two o a b h x g=>have:=sY d a x;have:=sY d b g;simp[nE,pM];omega
theorem zk3{e:za}(h:cG n e=Q3):1<=nE n e:=by
 cases n with
 |zero=>cases h
 | succ n=>
  obtain⟨o,v,s,l⟩:=e;rw[nE];omega
theorem zak(h:n<=1000000):Γ Δ (n:Int)=(n:Int):=by rw[ee];omega
theorem oV:∀(N d:Nat)(e:za),d<=12->d<=N->cG d e=Q3->cN N e=Q1 ((nE d e:Int),())
 |_,0,_,_,_,h=>by cases h
 |0,d+1,_,_,h,_=>zC h ow
 | N+1,d+1,e,D,w,h=>by
  have E:2^(d+1)<=2^12:=F3 ow ow;have y:=sY (d+1) e h
  have x:∀(e:za)(i:Nat)(n k:Nat)(p:i<(za.l e).length),cN N (za.l e)[i]=Q1 ((k:Int),())->n+k<=1000000->i<=1000->
    (EV (λg=>iO (cN N g)) (λg=>(cN N g).isSome) (.h3 (n:Int) (i:Int) (e,()))).val=Q1 (.inl (.h3 ((n+k:Nat):Int) ((i+1:Nat):Int) (e,()))):=by
   intro e i n k p z A F;have u:getD (za.l e) (i:Int).toNat (zi Q5)=(za.l e)[i]:=z7 _ _ p;simp only[EV,Ke,EW,Q8,u,zm,z,zL p,zz p,fE,zh];show Q1 (Sum.inl (uw.h3 (Γ Δ ((n:Int)+(k:Int))) _ _))=_;rw[zt i um,<-sK,zak A]
  have c:∀(e:za)(n:Nat),(EV (λg=>iO (cN N g)) (λg=>(cN N g).isSome) (.h3 (n:Int) ((za.l e).length:Int) (e,()))).val=Q1 (.inr (.int .i64 n,[])):=by
   intro e n;simp only[EV,Ke,EW,Q8,zG];rfl
  have j:∀e,(Ru (λg=>iO (cN N g)) (λg=>(cN N g).isSome) e).val=Q1 (.inl (.h3 ((1:Nat):Int) ((0:Nat):Int) (e,()))):=λ_=>rfl
  rw[cN];unfold M3;cases fU h with
  |lit v h=>exact zB (j _) (z6.of (c _ 1)) ow rfl
  |col s h w=>exact zB (j _) (z6.of (c _ 1)) ow rfl
  | one o a h m=>
   have q:=oV N d a ow ow m;have B:=sY d a m;have C:2^d<=2^12:=F3 ow ow;refine zB (j _) ((zN.of (x (.mk o (0,0,[]) [] [a]) 0 1 (nE d a) (by simp[za.l]) q ow ow)).ends (z6.of (c (.mk o (0,0,[]) [] [a]) _))) ow ?_;simp[nE];rfl
  | two o a b h m t=>
   have q:=oV N d a ow ow m;have kb:=oV N d b ow ow t;have B:=sY d a m;have G:=sY d b t;have C:2^d<=2^12:=F3 ow ow;refine zB (j _) ((zN.of (x (.mk o (0,0,[]) [] [a,b]) 0 1 (nE d a) (by simp[za.l]) q ow ow)).ends ((zN.of (x (.mk o (0,0,[]) [] [a,b]) 1 (1+nE d a) (nE d b) (by simp[za.l]) kb ow ow)).ends (z6.of (c (.mk o (0,0,[]) [] [a,b]) _)))) ow ?_;simp[nE,Nat.add_assoc];rfl
theorem rD:∀(N k:Nat)(e:za)(n:Nat),k<=12->k<=N->cG k e=Q3->n+nE k e<=60->iu N e ((13:Int)-k) n=(Q3,((n+nE k e:Nat):Int))
 |_,0,_,_,_,_,h,_=>by cases h
 |0,k+1,_,_,_,h,_,_=>zC h ow
 | N+1,k+1,e,n,B,j,h,m=>by
  rw[iu];unfold AN;have A:Γ Δ ((n:Int)+1)=((n+1:Nat):Int):=zt n um;have w:Γ Δ ((13:Int)-((k+1:Nat):Int)+1)=(13:Int)-(k:Int):=by rw[ee];omega
  have q:Q0 ((13:Int)-((k+1:Nat):Int)>12)=Q4:=ae ow;have p:=zk3 h;have t:Q0 (((n+1:Nat):Int)>60)=Q4:=ae ow;rw[A,q,t];cases fU h with
  |lit v y=>simp[za.op,za.l,za.s,za.v,dm,Aq,SD,y,nE]
  |col s z j=>simp[za.op,za.l,za.s,za.v,dm,Aq,SD,z,j,nE,bu]
  | one o a d x=>
   have c:n+1+nE k a<=60:=by simp[nE]at m;omega
   have i:=rD N k a (n+1) ow ow x c;have g:((n+nE (k+1) (.mk o (0,0,[]) [] [a]):Nat):Int)=((n+1+nE k a:Nat):Int):=by simp[nE];omega
   rw[g]
   push_cast at*
   rcases d with rfl|rfl<;>simp[za.op,za.l,za.s,za.v,dm,Aq,SD,bu,pF,w,i]
  | two o a b d x u=>
   have c:n+1+nE k a+nE k b<=60:=by simp[nE]at m;omega
   have i:=rD N k a (n+1) ow ow x ow;have kb:=rD N k b (n+1+nE k a) ow ow u c;have g:((n+nE (k+1) (.mk o (0,0,[]) [] [a,b]):Nat):Int)=((n+1+nE k a+nE k b:Nat):Int):=by simp[nE];omega
   rw[g]
   push_cast at*
   rcases d with rfl|rfl|rfl|rfl|rfl|rfl<;>simp[za.op,za.l,za.s,za.v,dm,Aq,SD,bu,pF,w,i,kb]
end
end Cad
