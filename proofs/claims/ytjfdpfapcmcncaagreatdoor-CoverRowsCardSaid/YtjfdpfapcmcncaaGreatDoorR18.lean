/- Units. -/
import Derived.Test.YtjfdpfapcmcncaaGreatDoorR17
namespace Cad
open Go Go.Proofs Go.Sort
open List renaming length→Io
open IntKind renaming wrap→Γ,i64→Δ
open AV renaming ptr→Qf,nils→Qb
open Tr renaming chk→Qc,«to»→Q9,val→Q8
open AO renaming box→Qa
open Sh renaming bool→Q7,str→Q6,expr→Q5
open Bool renaming false→Q4,true→Q3
open Option renaming none→Q2,some→Q1
open Decidable renaming decide→Q0
open Int (toNat)
open List (getD)
open Tr (chk br re)
open AV (nils agg tup ptr kb str sl)
set_option maxHeartbeats 4000000
set_option maxRecDepth 100000
theorem Wx:∀l:List Value,Io l=46->∃v0 v1 v2 v3 v4 v5 v6 v7 v8 v9 o u z B C D E F G H v20 I J L M O S T W X Y Z h0 h1 h2 h3 h4 h5 h6 h7 h8 h9 x0 x1 x2 x3,l=[v0,v1,v2,v3,v4,v5,v6,v7,v8,v9,o,u,z,B,C,D,E,F,G,H,v20,I,J,L,M,O,S,T,W,X,Y,Z,h0,h1,h2,h3,h4,h5,h6,h7,h8,h9,x0,x1,x2,x3]:=by
 intro l h
 match l,h with
 |v0::v1::v2::v3::v4::v5::v6::v7::v8::v9::o::u::z::B::C::D::E::F::G::H::v20::I::J::L::M::O::S::T::W::X::Y::Z::h0::h1::h2::h3::h4::h5::h6::h7::h8::h9::x0::x1::x2::x3::[],_=>exact⟨v0,v1,v2,v3,v4,v5,v6,v7,v8,v9,o,u,z,B,C,D,E,F,G,H,v20,I,J,L,M,O,S,T,W,X,Y,Z,h0,h1,h2,h3,h4,h5,h6,h7,h8,h9,x0,x1,x2,x3,rfl⟩
theorem SN(n:Int)(w:World)(v0 v1 v2 v3 v4 v5 v6 v7 v8 v9 o u z B C D E F G H I J L M O S T W X Y Z h0 h1 h2 h3 h4 h5 h6 h7 h8 h9 x0 x1 x2:Value):
  DC.wp Tryz.prog (λe a w'=>e=.exit 0/\w'=w/\∃h:List Value,a=⟨h.toArray,[]⟩/\Io h=46/\h[6]?=Q1 v6) {tmps:=#[v0,v1,v2,v3,v4,v5,v6,v7,v8,v9,o,u,z,B,C,D,E,F,G,(Value.int .i64 n),(Value.int .i64 n),H,I,J,L,M,O,S,T,W,X,Y,Z,h0,h1,h2,h3,h4,h5,h6,h7,h8,h9,x0,x1,x2],defers:=[]} w:=by
 simp only[DC,Tryz.f77]
 go_wp2
theorem zpI:Tryz.f77.results=#[.tmp 4]:=kw
theorem Te{tmps:Array Value}{w:World}{v:Value}(h:tmps[4]?=Q1 v):(results Tryz.f77 tmps).run Tryz.prog w=.ok v w:=by
 have o:tmps.getD 4 undef=v:=by rw[pp,h];rfl
 rw[uy,zpI];simp[yK,o]
theorem WP:dT (0,0,[])=.agg #[.int .i64 0,.int .i64 0,.string ⟨#[]⟩]:=rfl
theorem zaW{T:World}{U:Nat->Prop}{v:Value}{base:Nat}(X:∀b,U b->b<base){l:List V3}[Inhabited V3](J:∀x∈l,iX x.1)(S:Io l<=1000){m:List V3}(hp:List.Perm m l)(D:T.ownsRow base 27 3 v (Io l) (m.flatMap ki)):
  Rv T U (λ_=>Q2) (.sl ze (m.map (·.1))) v:=by
 have I:Io m=Io l:=hp.length_eq;rcases D.2 with⟨rfl,h0⟩|⟨g,F,z,rfl,Y,B,h1,Z,G,L⟩
 ·have:m=[]:=List.length_eq_zero_iff.1 ow;rw[this];exact .sl0 ze _ _
 ·have W:(m.map (·.1)).length=Io l:=by simp[I]
  rw[<-W];refine .sl ze _ g 0 F (λi j=>(z[i*3+j]?).getD undef) ow um (ea.1 B).1 (λh=>by have:=X g h;omega) (λi j O E=>?_) (λi O j c o=>?_)
  ·have E:j<3:=E;have H:i*3+j<z.size:=by rw[G];omega
   simp[World.cell?,B,tB H,show ze.size=3 from rfl]
  ·have C:i<Io m:=by simpa using O
   have E:j<3:=by
    have:=(dn.1 o).1
    rwa [ac]at this
   have M:=vo m (i*3+j) ow;rw[show(i*3+j)/3=i by omega,show(i*3+j)%3=j by omega,<-L,List.getElem?_take_of_lt ow,sS,getElem!_pos m i C]at M;rw[M];simp only[dv];have u:=J m[i] (hp.mem_iff.1 (aK C));simp only[List.getElem_map]at o;generalize m[i]=x at o u;obtain⟨⟨k,n,s⟩,hx⟩:=x
   match j,E,o with
   |0,_,o=>cases o;exact .int _ _ u.1
   |1,_,o=>cases o;exact .int _ _ u.2.1
   |2,_,o=>cases o;exact .str _ u.2.2
theorem zbt{E:bZ}(qp:E.P=Tryz.prog){C:ff}(hC:∀id,C.ρ0 id=Q2)(es:List ((Int×Int×zD)×Int))(x1:Io es<=1000)(hn:(es.map (·.1)).Nodup) (hm:∀p∈es,aU p.1=Q3) (x5:Sem zg) (i9:List (Sem ze.sl)) (n:Int):
  Reach E C 77 (aj Tryz.f77 4) (NC (.h4 x5 i9 n n es)).2 (λr h=>aI h [ze.sl] r=Q1 (ir (es.map (·.1)),())):=by
 intro b cs a w U ρ h8 a0 T M;rw[qp];rw[zhn];have G:a.tmps.toList.length=46:=by rw[<-T.tm.len];rfl
 obtain⟨⟨ts⟩,df⟩:=a;have W:df=[]:=T.df;subst W;obtain⟨v0,v1,v2,v3,v4,v5,v6,v7,v8,v9,n5,n6,n7,n8,n9,v15,v16,v17,v18,v19,v20,v21,v22,v23,v24,v25,v26,v27,v28,v29,v30,v31,v32,v33,v34,v35,v36,v37,v38,v39,v40,v41,v42,v43,v44,v45,rfl⟩:=Wx ts G;have r6:=T.tm.rv 6 (.mp 0) v6 rfl rfl;have j0:=T.tm.rv 19 (.int .i64 n) v19 rfl rfl;have j1:=T.tm.rv 20 (.int .i64 n) v20 rfl rfl;have ho:bF w U ρ 0 (.vmap Q3 es):=T.hp.ob 0;have a3:=T.hp.blk 0;clear G;cases j0 with|int _ _ _=>
 cases j1 with|int _ _ _=>
 obtain⟨r,h5,u,q1,q2,q3,q4,q5,q6⟩:=ho;cases r6 with|mp _ _ q7 _=>
 rw[q1]at q7;cases q7;have i0:C.B0 r\/C.w0.heap.size<=r:=a3 r ⟨rfl,_,q1,rfl⟩;obtain⟨o,H,x0,S,h9⟩:=zar (P:=Tryz.prog) (mt:=181) (kt:=27) (et:=182) Tryz.underlying181 kw (k:=(0,0,[])) ⟨by unfold cy;decide,by unfold cy;decide,sw⟩ q3 q4 q5 q6;rw[WP]at H;have i1:r<w.heap.size:=(ea.1 q3).1;obtain⟨w1,F⟩:∃w1:World,({w with heap:=w.heap.setIfInBounds r (.map o u)}:World)=w1:=⟨_,rfl⟩;rw[F]at H;have hs1:w1.heap.size=w.heap.size:=by rw[<-F];simp
 have x2:w1.heap[r]?=Q1 (.map o u):=by rw[<-F];simp[i1]
 have a9:∀j,j≠r->w1.heap[j]?=w.heap[j]?:=λj L=>by rw[<-F];simp[Array.getElem?_setIfInBounds_ne (Ne.symm L)]
 have x3:=Ma x0;have a4:((xt es (0,0,[])).map (·.1)).Nodup:=hn.sublist ((KR _ _).map _);have a5:=KR es (0,0,[]);have hk:∀x∈o.toList,∃k,x.key=dT k/\k∈(xt es (0,0,[])).map (·.1):=λx D=>by
  have:x.key∈o.toList.map (·.key):=bd.2 ⟨x,D,rfl⟩;rw[x3]at this;obtain⟨k,Z,k2⟩:=bd.1 this;exact⟨k,k2.symm,Z⟩
 have x7:o.size<=1000:=by
  have:=congrArg Io x3;simp only[cz,Array.length_toList]at this;rw[this];exact bt a5.length_le x1
 have hinh:Inhabited V3:=⟨⟨(0,0,[]),kw⟩⟩;have B:∀x:Sem ze,x∈(xt es (0,0,[])).map (·.1)->aU x=Q3/\iX x/\x.1≠0:=λx D=>by
  obtain⟨i7,i8⟩:=(CL (0,0,[]) hn x).1 D;obtain⟨p,hp,rfl⟩:=bd.1 i7;exact⟨hm p hp,(q5 p hp).2,λh0=>i8 (WE (hm p hp) h0)⟩
 obtain⟨e1,a1,wx,⟨rfl,rfl,ts,rfl,i4,i3⟩,h7⟩:=SN n w v0 v1 v2 v3 v4 v5 (.map (Q1 r)) v7 v8 v9 n5 n6 n7 n8 n9 v15 v16 v17 v18 v21 v22 v23 v24 v25 v26 v27 v28 v29 v30 v31 v32 v33 v34 v35 v36 v37 v38 v39 v40 v41 v42 v43 v44 v45 b [.inLoop DC,.inBlock 0,.code EG] cs;have j2:=h7 [.code EG] rfl;obtain⟨u0,u1,u2,u3,u4,u5,u6,u7,u8,u9,j3,j4,j5,j6,j7,j8,j9,k3,k4,k5,k6,k7,k8,k9,l0,l1,l2,l3,l4,l5,l6,l7,l8,l9,m1,m2,m3,m4,m6,m7,m8,m9,n1,n2,n3,n4,rfl⟩:=Wx ts i4;have i5:u6=.map (Q1 r):=by simpa using i3
 subst i5
 obtain⟨e2,a2,w',⟨rfl,v,i6,W,hK⟩,O⟩:=zbw (λe a w'=>e=.ret/\∃v,a.tmps[4]?=Q1 v/\a.defers=[]/\ZI w1 o v w') (ZI w1 o) r o u wx w1 H x2 S h9 (λx D=>(hk x D).imp λ_ h=>h.1) x7
  (λv wr seen E hC h0=>R5 hC h0 (λp hp=>by
   obtain⟨s1,s2⟩:=hC.sub p hp;obtain⟨k,Z,k2⟩:=hk _ s1;rw[s2]at Z;exact pV Z▸(B k k2).1) x7) (λv w' a hS h4 hd=>⟨rfl,v,h4,hd,hS⟩) u0 u1 u2 u3 u4 u5 u7 u8 u9 j3 j4 j5 j6 j7 j8 j9 k3 k4 k5 k6 k7 k8 k9 l0 l1 l2 l3 l4 l5 l6 l7 l8 l9 m1 m2 m3 m4 m6 m7 m8 m9 n1 n2 n3 n4 b [] cs
 obtain⟨x8,i2⟩:=O;obtain⟨E,l,h3,x9,nd,hl,x4,z⟩:=hK;have X:=SH x0 a4 (λp hp=>(B _ (bd.2 ⟨p,hp,rfl⟩)).1) (λp hp=>(B _ (bd.2 ⟨p,hp,rfl⟩)).2.2) h3 x9 nd h9 hl;have h6:ir ((xt es (0,0,[])).map (·.1))=ir (es.map (·.1)):=tD (λx D=>(B x D).1) (λx D=>by obtain⟨p,hp,rfl⟩:=bd.1 D;exact hm p hp) λx D=>by
  rw[CL (0,0,[]) hn x];exact⟨λh=>h.1,λh=>⟨h,λe=>D (by rw[e])⟩⟩
 have a7:∀x∈l,iX x.1:=λx D=>by
  have:x.1∈E.map (·.1):=by rw[<-hl];exact bd.2 ⟨x,D,rfl⟩
  obtain⟨p,hp,e⟩:=bd.1 this;obtain⟨s1,s2⟩:=h3 p hp;obtain⟨k,Z,k2⟩:=hk _ s1;rw[s2]at Z;rw[<-e];exact pV Z▸(B k k2).2.1
 have a8:Io l<=1000:=by
  have h1:Io l=Io E:=by simpa using congrArg Io hl
  have h2:(E.map λp=>p.2.born).length<=(o.toList.map (·.born)).length:=L4 nd λx D=>by
   obtain⟨p,hp,rfl⟩:=bd.1 D;exact bd.2 ⟨p.2,(h3 p hp).1,rfl⟩
  simp only[cz,Array.length_toList]at h2;omega
 have I:∀j,j<wx.heap.size->j≠r->w'.heap[j]?=wx.heap[j]?:=λj L a6=>by rw[z.block j ow,a9 j a6]
 have J:wx.heap.size<=w'.heap.size:=by have:=z.size;omega
 have x6:=zaW (U:=U) (base:=w1.heap.size) (λb hb=>by have:=M.ub b hb;omega) a7 a8 (List.mergeSort_perm l _) x4;rw[X,h6]at x6;refine⟨.returned v,w',{b.at a2 x8 with mode:=.returning},⟨v,.sl ze (ir (es.map (·.1))),[],U,λ_=>Q2,rfl,?_,x6,⟨λid=>by simp[bF],λ_ _ _ h=>by simp[ar]at h,λ_ _ h=>by simp[ar]at h⟩,λ_ _=>rfl,λid v h=>(by rw[hC id]at h;cases h),?_⟩,mQ j2 i2,h8,rfl,W,a0,Tryz.f77,?_,Te i6⟩
 ·rfl
 ·refine⟨M.ext.trans ⟨J,?_,?_,?_,λx D=>?_⟩,λj L hB=>?_,λj L=>g7 (M.ub j L) J,M.u1,M.u2,λg=>(M.gl g).mono J (λj L hu=>I j L λe=>hu (e▸q2)) (λ_ _ h=>h) (λ_ _ h=>h)⟩
  ·rw[z.os,<-F]
  ·rw[z.output,<-F]
  ·rw[z.tape,<-F]
  ·by_cases Y:x.block=r
   ·have h1:w'.heap[x.block]?=Q1 (.map o u):=by rw[Y,z.block r ow,x2]
    have h2:wx.heap[x.block]?=Q1 (.map h5 u):=by rw[Y,q3]
    simp[World.frozen?,h1,h2]
   ·exact Ci (I _ D Y)
  ·rw[I j (g7 L M.ext.sz) λe=>i0.elim (λh=>hB (e▸h)) (λh=>by omega)];exact M.same j L hB
 ·show Tryz.prog.funcs[b.fn]?=Q1 Tryz.f77;rw[h8];kernel_rfl
theorem MJ{σ:Type}{E:bZ}{C:ff}{k:FuncId}{f:Func}{Q:AV->List AO->Prop}{m n0:Nat}(z:zw E)(B:zO E.P k f m)(u:∀id,n0<=id->C.ρ0 id=Q2){keep:Nat->aN}{gas:Nat}{e:σ->Nat×St}{K:List Item}{st:St}{i:Tr (σ⊕aw)}
  (o:run E n0 keep f.results.toList gas K st=i.map (lf f e)) {s:σ} (D:i.val=Q1 (.inl s)) (h:Reach E C k (aj f (e s).1) (e s).2 Q):Reach E C k K st Q:=
 nF z B u (l:=lf f e (.inl s)) (by rw[o,Tr.val_map,D];rfl) h
noncomputable def lW(u:Sem zq)(o:List (Sem zh)):List (Sem ze):=(getD o 0 (zi zh)).2.map λh:List (Sem ze)=>getD h (toNat (fy u o)) (zi ze)
noncomputable def HR(u:Sem zq)(h:List (Sem zh)):Bool:=sx u h&&(zJ 0 (Io h)&&(Q0 (Io (getD h 0 (zi zh)).2<=1000)&&List.all (getD h 0 (zi zh)).2 λo:List (Sem ze)=>zJ (fy u h) (Io o)&&aU (getD o (toNat (fy u h)) (zi ze))))
noncomputable def cv(h:Sem zq)(o:List (Sem zh)):List (Sem ze):=ir (lW h o)
noncomputable def zjO:=zT [zq,zh.sl] [ze.sl] (λx=>HR x.1 x.2.1) λx=>(cv x.1 x.2.1,())
theorem HV{k:Int×Int×zD}{n:Int}:∀{es:List ((Int×Int×zD)×Int)},(kG es k n).map (·.1)=if k∈es.map (·.1)then es.map (·.1)else es.map (·.1)++[k]
 |[]=>rfl
 | p::r=>by
  show(cond (k==p.1) ((k,n)::r) (p::kG r k n)).map (·.1)=_;by_cases h:k=p.1
  ·simp[h]
  ·have u:(k==p.1)=Q4:=by simpa using h
   rw[u,ao,iZ,HV (es:=r),iZ];by_cases o:k∈r.map (·.1)
   ·rw[if_pos o,if_pos (by simp only[bL];exact .inr o)]
   ·rw[if_neg o,if_neg (by simp only[bL];exact λe=>e.elim h o)];rfl
theorem zaJ{o:Sem zq}{h:List (Sem zh)}(u:sx o h=Q3)(z:zJ 0 (Io h)=Q3):(zhw o h).val=Q1 (.inl (.h4 (fy o h) (getD h 0 (zi zh)).2 (Io (getD h 0 (zi zh)).2:Int) 0 [])):=by
 unfold zhw;simp only[zk];show(Qc (sx o h) (Qc (zJ 0 (Io h)) _)).val=_;rw[u,z];rfl
theorem zfo:FK 77 zjO:=by
 refine aM (E:=Aj) (f:=Tryz.f77) (bU kw) λx L C S=>?_
 obtain⟨D,B,u⟩:=x;have hf:zO Aj.P 77 Tryz.f77 2:=bU kw;have W:∀x,run Aj 0 zd5 Tryz.f77.results.toList 400 (bC Tryz.f77) (bl Tryz.f77.ntmps (jB [Q1 zq,Q1 zh.sl] x) [])=(zhw x.1 x.2.1).map (lf Tryz.f77 NC):=by intro x;kernel_rfl
 have Y:∀s,run Aj 0 zd5 Tryz.f77.results.toList 400 (aj Tryz.f77 (NC s).1) (NC s).2=(zpT s).map (lf Tryz.f77 NC):=by intro s;cases s<;>kernel_rfl
 simp only[HR,aE,aQ,ep]at L;obtain⟨h1,h2,h3,O⟩:=L;generalize G:(getD B 0 (zi zh)).2=o at h3 O;refine MJ xQ hf (λid _=>S id) (W (D,B,u)) (zaJ h1 h2) ?_;rw[G]
 have Z:∀(m i:Nat)(es:List ((Int×Int×zD)×Int)),Io o-i=m->i<=Io o->(es.map (·.1)).Nodup->Io es<=i->(∀x,x∈es.map (·.1)↔x∈(o.take i).map λH:List (Sem ze)=>getD H (toNat (fy D B)) (zi ze))->
   Reach Aj C 77 (aj Tryz.f77 (NC (.h4 (fy D B) o (Io o) i es)).1) (NC (.h4 (fy D B) o (Io o) i es)).2 λr h=>aI h [ze.sl] r=Q1 (cv D B,()):=by
  intro m
  induction m with
  | zero=>
   intro i es hm hi M hl z;obtain rfl:i=Io o:=by omega
   rw[fI]at z;have F:∀x,x∈(o.map λH:List (Sem ze)=>getD H (toNat (fy D B)) (zi ze))->aU x=Q3:=λx L=>by
    obtain⟨H,hr,rfl⟩:=bd.1 L;exact(O H hr).2
   have:=zbt (E:=Aj) rfl S es ow M (λp hp=>F _ ((z _).1 (bd.2 ⟨p,hp,rfl⟩))) (fy D B) o (Io o);have e:cv D B=ir (es.map (·.1)):=by
    unfold cv lW;rw[G];exact tD F (λx L=>F x ((z x).1 L)) λx _=>(z x).symm
   rw[e];exact this
  | succ m ih=>
   intro i es hm hi M hl z;have I:i<Io o:=by omega
   have T:=O o[i] (aK I);have X:=HV (k:=getD o[i] (toNat (fy D B)) (zi ze)) (n:=0) (es:=es);refine MJ xQ hf (λid _=>S id) (Y (.h4 (fy D B) o (Io o) i es)) (s:=.h4 (fy D B) o (Io o) ((i+1:Nat):Int) (kG es (getD o[i] (toNat (fy D B)) (zi ze)) 0)) ?_ (ih (i+1) _ ow ow ?_ ?_ ?_)
   ·have e1:Q0 ((i:Int)<(Io o:Int))=Q3:=by simpa using I
    have e2:zJ (i:Int) (Io o)=Q3:=by simp[zJ];omega
    have e3:Γ Δ ((i:Int)+1)=((i+1:Nat):Int):=by
     exact zr i um
    have e4:getD o (toNat (i:Int)) (zi ze.sl)=o[i]:=zH o _ I;simp only[zpT,e1,e2,e3,e4,T.1,Q8,if_true]
   ·rw[X];split
    ·exact M
    ·rename_i J;exact List.nodup_append.2 ⟨M,sw,λa ha b hb e=>J (by rw[eD]at hb;rw[<-hb,<-e];exact ha)⟩
   ·have:=congrArg Io X;simp only[cz]at this;rw[this];split
    ·simp;omega
    ·simp;omega
   ·intro x;rw[X,List.take_succ_eq_append_getElem I,gD,cJ,<-z x];simp only[iZ,Co,eD];split
    ·rename_i J;exact⟨.inl,λh=>h.elim id λe=>e▸J⟩
    ·rw[cJ,eD]
 exact Z (Io o) 0 [] ow ow sw sw sw
noncomputable def zdy:=Aj.add 77 zjO
theorem rl:zw zdy:=xQ.add zfo
open Go Go.Proofs
noncomputable section
def zmZ(h:Sem zq)(u:Sem zh.sl):Tr (Empty⊕aw):=
 let o:=(h.1,h.2.1,h.2.2.1,(h.2.2.2.1.1,h.2.2.2.1.2.1,h.2.2.2.1.2.2.1,h.2.2.2.1.2.2.2.1,h.2.2.2.1.t.1,zm h.2.2.2.1.t.2),h.t)
 Qc (L7 o u)
 (br (Xn o u !=0) (re (tup [Qb,ai 1]) [])
  (Qc (HR o u) (re (tup [sl ze (cv o u),ai 0]) [])))
def Kd(h:Sem zq)(o:Sem zh.sl):=al [ze.sl,zg] t0 100000000 (zmZ h o)
def Pd(h:Sem zq)(o:Sem zh.sl):=(Kd h o).isSome
def Yp(h:Sem zq)(o:Sem zh.sl):=o2 (Kd h o)
def zi7:=FT [zq,zh.sl] [ze.sl,zg] λx=>Kd x.1 x.2.1
theorem zeE:FK 33 zi7:=rl.T1 (f:=Tryz.f33) (keep:=k0) (e:=e0)
def zhu(h:Sem zq)(z:Sem zh.sl):Tr (Empty⊕aw):=
 let o:=(h.1,h.2.1,h.2.2.1,(h.2.2.2.1.1,h.2.2.2.1.2.1,h.2.2.2.1.2.2.1,h.2.2.2.1.2.2.2.1,h.2.2.2.1.t.1,zm h.2.2.2.1.t.2),h.t)
 let u:=XE o z
 Qc (OC o z)
 (re
  (tup [agg [str h.1,str h.2.1,str h.2.2.1,str h.2.2.2.1.1,sl zj h.2.2.2.1.2.1,ai h.2.2.2.1.2.2.1,sl zg h.2.2.2.1.2.2.2.1,sl zp h.2.2.2.1.t.1,str (zf.op h.2.2.2.1.t.2),ai (zf.v h.2.2.2.1.t.2).1,ai (zf.v h.2.2.2.1.t.2).2.1,str (zf.v h.2.2.2.1.t.2).2.2,
  str (zf.s h.2.2.2.1.t.2),sl Q5 (zf.l h.2.2.2.1.t.2),sl zg h.t.1,ai h.t.2],sl zh u.1,AV.bool u.2])
  [])
def Bn(h:Sem zq)(o:Sem zh.sl):=al [zq,zh.sl,Q7] t0 100000000 (zhu h o)
def IG(h:Sem zq)(o:Sem zh.sl):=(Bn h o).isSome
def Ol(h:Sem zq)(o:Sem zh.sl):=o3 (Bn h o)
def zjH:=FT [zq,zh.sl] [zq,zh.sl,Q7] λx=>Bn x.1 x.2.1
theorem zfg:FK 20 zjH:=rl.T1 (f:=Tryz.f20) (keep:=k0) (e:=e0)
abbrev znJ:=kR [(3,[0,3,4])]
inductive Ni where
 |h3 (l0:List (Sem zg)) (i4:Int) (ja0:List UInt8) (ja1:List (Sem zj)) (ja2:Int) (ja5:List UInt8) (ja6:Int) (ja7:Int) (ja8:List UInt8) (ja9:List UInt8)
 |h3b (l0:List (Sem zg)) (i4:Int) (ja0:List UInt8) (ja1:List (Sem zj)) (ja2:Int) (ja5:List UInt8) (ja6:Int) (ja7:Int) (ja8:List UInt8) (ja9:List UInt8) (lh_1:List (Sem ze.sl))
abbrev zqC:Ni->Nat×St
 |.h3 H G h o u z B C D E=>(3,⟨tm 31 [(0,sl zg H),(3,Qf 0 0),(4,ai G)],[Qa [str h,sl zj o,ai u,Qb,Qb,str z,ai B,ai C,str D,str E,Qb,Qb]]⟩)
 |.h3b H G h o u z B C D E F=>(3,⟨tm 31 [(0,sl zg H),(3,Qf 0 0),(4,ai G)],[Qa [str h,sl zj o,ai u,Qb,Qb,str z,ai B,ai C,str D,str E,Qb,AV.vec 1],AO.vec ze.sl F]⟩)
def zr3(h:Sem zg.sl):Tr (Ni⊕aw):=
 Q9 (Ni.h3 h 0 [118] [([110],1,Q3),([114],1,Q4)] 0 [] 0 0 [] [])
def zsJ:Ni->Tr (Ni⊕aw)
 | .h3 H h o u z B C D E F=>
  let I:=[[(1,h,[]),(1,H.getD h.toNat (zi zg),[])]]
  br (Q0 (h<(↑H.length:Int)))
  (Qc (zJ h (Io H)) (Qc (Q0 (Io I<=1073741824)) (Q9 (Ni.h3b H (Γ Δ (h+1)) o u z B C D E F I))))
  (re (sl zh [((o,u,z,[],[],zf.mk B (C,D,E) F []),[])]) [])
 | .h3b H h o u z B C D E F G=>
  let I:=[[(1,h,[]),(1,H.getD h.toNat (zi zg),[])]]
  br (Q0 (h<(↑H.length:Int)))
  (Qc (zJ h (Io H)) (Qc (Q0 (Io G+Io I<=1073741824)) (Q9 (Ni.h3b H (Γ Δ (h+1)) o u z B C D E F (G++I)))))
  (re (sl zh [((o,u,z,[],[],zf.mk B (C,D,E) F []),G)]) [])
def zh0(h:Sem zg.sl):=al [zh.sl] zsJ 100000000 (zr3 h)
def zjK:=FT [zg.sl] [zh.sl] λx=>zh0 x.1
theorem zfj:FK 22 zjK:=rl.T1 (f:=Tryz.f22) (keep:=znJ) (e:=zqC)
def zdB:=zdy.addL [(33,zi7),(20,zjH),(22,zjK)]
theorem GS:zw zdB:=rl.addL<|fc zeE<|fc zfg<|fc zfj<|iz
end
noncomputable def i7u(B:Sem zh.sl)(u:Sem zn):Tr (Empty⊕aw):=
 let C:=(u.1,u.2.1,u.2.2.1,u.2.2.2.1,u.t.1,u.t.2.1,u.t.q.1,u.t.q.2.1,zm u.t.t.1,u.t.t.2.1,u.t.t.q.1,zm u.t.t.q.2.1,u.t.t.t)
 let o:=Wp C
 let D:=(o.1,o.2.1,o.2.2.1,o.2.2.2.1,o.t.1,o.t.2.1,o.t.q.1,o.t.q.2.1,zm o.t.t.1,o.t.t.2.1,o.t.t.q.1,zm o.t.t.q.2.1,o.t.t.t)
 let z:=XC (Hc B) D
 let E:=(z.1.1,z.1.2.1,z.1.2.2.1,(z.1.2.2.2.1.1,z.1.2.2.2.1.2.1,z.1.2.2.2.1.2.2.1,z.1.2.2.2.1.2.2.2.1,z.1.2.2.2.1.t.1,zm z.1.2.2.2.1.t.2),z.1.t)
 let h:=Ol E (Hc B)
 Qc (Ok B)
 (Qc (Oh C)
  (Qc (OB (Hc B) D) (br (z.2!=0) (re (tup [agg [str [],str [],str [],str [],Qb,ai 0,Qb,Qb,str [],ai 0,ai 0,str [],str [],Qb,Qb,ai 0],Qb,kb Q4]) []) (Qc (IG E (Hc B)) (re (tup [agg
  [str h.1.1,str h.1.2.1,str h.1.2.2.1,str h.1.2.2.2.1.1,sl zj h.1.2.2.2.1.2.1,ai h.1.2.2.2.1.2.2.1,sl zg h.1.2.2.2.1.2.2.2.1,sl zp h.1.2.2.2.1.t.1,str (zf.op h.1.2.2.2.1.t.2),ai (zf.v h.1.2.2.2.1.t.2).1,ai (zf.v h.1.2.2.2.1.t.2).2.1,
  str (zf.v h.1.2.2.2.1.t.2).2.2,str (zf.s h.1.2.2.2.1.t.2),sl Q5 (zf.l h.1.2.2.2.1.t.2),sl zg h.1.t.1,ai h.1.t.2],sl zh h.2.1,AV.bool h.2.2]) [])))))
noncomputable def rz(h:Sem zh.sl)(o:Sem zn):=al [zq,zh.sl,Q7] t0 100000000 (i7u h o)
noncomputable def yg(h:Sem zh.sl)(o:Sem zn):=(rz h o).isSome
noncomputable def DB(h:Sem zh.sl)(o:Sem zn):=o3 (rz h o)
noncomputable def F7u:=FT [zh.sl,zn] [zq,zh.sl,Q7] λx=>rz x.1 x.2.1
theorem zlF:FK 6 F7u:=GS.T1 (f:=Tryz.f6) (keep:=k0) (e:=e0)
noncomputable def PO:=zdB.add 6 F7u
theorem xR:zw PO:=GS.add zlF
noncomputable def Iq:bZ:={PO with sh:=λt=>if t=2 then Q1 (.int .i64)else PO.sh t}
theorem lq:zw Iq where
 sh:=λt e h=>by
  have o:(ite (t=2) (Q1 (.int .i64)) (PO.sh t))=Q1 e:=h;split at o
  ·rename_i u;subst u;cases o;exact MV kw
  ·exact xR.sh t e o
 fs:=xR.fs
 mix:=xR.mix
noncomputable section
def zkl:zZ:=bp (List.replicate 1 Q2) (fA Iq Tryz.f123 (List.replicate 1 Q2))
theorem zfZ:FK 123 zkl:=ch _ lq (bU kw)
def zkp:zZ:=bp (List.replicate 3 Q2) (fA Iq Tryz.f125 (List.replicate 3 Q2))
theorem zf3:FK 125 zkp:=ch _ lq (bU kw)
abbrev zn7:=kR [(2,[0,3,7,8])]
inductive RB where
 |h2 (l0:List (Sem ze)) (i7:Int) (i8:Int) (z0:zl [CP.d ze])
abbrev zqS:RB->Nat×St
 |.h2 u h o z=>(2,⟨tm 19 [(0,sl ze u),(3,Qf 0 0),(7,ai h),(8,ai o)],[Qa (bb [] [CP.d ze] z)]⟩)
def znn(h:Sem ze.sl)(o:Sem ze):Tr (RB⊕aw):=
 Q9 (RB.h2 h (↑(Io h):Int) 0 (o,()))
def Tl:RB->Tr (RB⊕aw)
 | .h2 u B h z=>
  let o:=u.getD h.toNat (zi ze)
  br (Q0 (h<B))
  (Qc (zJ h (Io u)) (br (z.1.1==o.1&&(z.1.2.1==o.2.1&&(z.1.2.2==o.2.2&&Q3))) (re (ai h) []) (Q9 (RB.h2 u B (Γ Δ (h+1)) z))))
  (re (ai (-1)) [])
def Rj(h:Sem ze.sl)(o:Sem ze):=al [zg] Tl 100000000 (znn h o)
def Ys(h:Sem ze.sl)(o:Sem ze):=(Rj h o).isSome
def ziK(h:Sem ze.sl)(o:Sem ze):=o1 (Rj h o)
def zkr:=FT [ze.sl,ze] [zg] λx=>Rj x.1 x.2.1
theorem zf5:FK 127 zkr:=lq.T1 (f:=Tryz.f127) (keep:=zn7) (e:=zqS)
abbrev znz:=kR [(4,[0,1,5])]
inductive Rt where
 |h4 (l0:List (Sem ze)) (l1:List (Sem ze)) (i5:Int)
abbrev zqu:Rt->Nat×St
 |.h4 o u h=>(4,⟨tm 26 [(0,sl ze o),(1,sl ze u),(5,ai h)],[]⟩)
def zaH(h:Sem ze.sl)(o:Sem ze.sl):Tr (Rt⊕aw):=
 br ((↑(Io h):Int)!=(↑(Io o):Int)) (re (kb Q4) []) (Q9 (Rt.h4 h o 0))
def Tj:Rt->Tr (Rt⊕aw)
 | .h4 o B h=>
  let u:=o.getD h.toNat (zi ze)
  let z:=B.getD h.toNat (zi ze)
  br (Q0 (h<(↑o.length:Int)))
  (Qc (zJ h (Io o)) (Qc (zJ h (Io B)) (br (!(u.1==z.1&&(u.2.1==z.2.1&&(u.2.2==z.2.2&&Q3)))) (re (kb Q4) []) (Q9 (Rt.h4 o B (Γ Δ (h+1)))))))
  (re (kb Q3) [])
def BC(h:Sem ze.sl)(o:Sem ze.sl):=al [Q7] Tj 100000000 (zaH h o)
def BB(h:Sem ze.sl)(o:Sem ze.sl):=(BC h o).isSome
def Jb(h:Sem ze.sl)(o:Sem ze.sl):=o1 (BC h o)
def zju:=FT [ze.sl,ze.sl] [Q7] λx=>BC x.1 x.2.1
theorem ze0:FK 16 zju:=lq.T1 (f:=Tryz.f16) (keep:=znz) (e:=zqu)
def C7:=Iq.addL [(123,zkl),(125,zkp),(127,zkr),(16,zju)]
theorem oe:zw C7:=lq.addL<|fc zfZ<|fc zf3<|fc zf5<|fc ze0<|iz
end
abbrev BV(c a b:Int)(s:zD)(l:List (Sem (Sh.sl ze)))(i:Int):St:={tmps:=[.sl (Sh.sl ze) l,.clo (.func 125) [] [.ptr 0 0,.ptr 1 0],.any,.any,.any,.any,.any,.int .i64 (Io l),.int .i64 i,.any,.any,.any,.any,.any,.any,.any,.any,.any,.any],heap:=[.box [.int .i64 c],.box [.int .i64 a,.int .i64 b,.str s]]}
theorem Vu(c a b:Int)(s:zD)(l:List (Sem (Sh.sl ze))):run C7 2 AY Tryz.f124.results.toList 300 (bC Tryz.f124) (bl Tryz.f124.ntmps [.sl (Sh.sl ze) l,.clo (.func 125) [] [.ptr 0 0,.ptr 1 0]] [.box [.int .i64 c],.box [.int .i64 a,.int .i64 b,.str s]])=.ok (.head 2 (aj Tryz.f124 2) (BV c a b s l 0)):=kw
theorem Xe(c a b:Int)(s:zD)(l:List (Sem (Sh.sl ze)))(i:Int):run C7 2 AY Tryz.f124.results.toList 300 (aj Tryz.f124 2) (BV c a b s l i)=ox (K:=aj Tryz.f124 2) (e:=(Sh.sl ze)) l (λx=>bf x c (a,b,s)) (BV c a b s l) [.box [.int .i64 c],.box [.int .i64 a,.int .i64 b,.str s]] i:=kw
theorem W5:zO C7.P 124 Tryz.f124 2:=by refine⟨?_,?_,?_,?_⟩<;>kernel_rfl
def zlZ:iU [Q1 (.sl (Sh.sl ze)),Q2]:=λx h=>match x,h with
 |(l,.clo (.func 125) [] [.ptr 0 0,.ptr 1 0],_),[.box [.int .i64 c],.box [.int .i64 a,.int .i64 b,.str s]]=>.ok (.int .i64 (zW (λx=>bf x c (a,b,s)) l 0),[.box [.int .i64 c],.box [.int .i64 a,.int .i64 b,.str s]])
 |_,_=>.err
def zkn:zZ:=bp [Q1 (.sl (Sh.sl ze)),Q2] zlZ
theorem zf1:FK 124 zkn:=by
 refine dX W5 λx D B h C o=>?_
 unfold zlZ at h;split at h
 ·rename_i l u c a b s;simp only[Tr.val_ok,bH]at h;subst h;refine Reach.len 0 (Sh.sl ze) l rfl λz=>?_
  refine zK (n0:=2) oe W5 o (Vu c a b s l) ?_;exact kV l (λx=>bf x c (a,b,s)) (BV c a b s l) oe W5 o (Xe c a b s l) z _ 0 rfl (aO _)
 ·simp at h
noncomputable def zng(h:Sem ze.sl)(o:Sem ze):Tr (Empty⊕aw):=
 Qc (Ys h o) (re (AV.bool (Q0 (ziK h o>=0))) [])
noncomputable def Ri(h:Sem ze.sl)(o:Sem ze):=al [Q7] t0 100000000 (zng h o)
noncomputable def M4(h:Sem ze.sl)(o:Sem ze):=(Ri h o).isSome
noncomputable def FN(h:Sem ze.sl)(o:Sem ze):=o1 (Ri h o)
noncomputable def zjX:=FT [ze.sl,ze] [Q7] λx=>Ri x.1 x.2.1
theorem zfx:FK 79 zjX:=oe.T1 (f:=Tryz.f79) (keep:=k0) (e:=e0)
noncomputable def Ve:=C7.addL [(124,zkn),(79,zjX)]
theorem C8:zw Ve:=oe.addL<|fc zf1<|fc zfx<|iz
noncomputable def znf(h:Sem zh)(o:Sem ze):Tr (Empty⊕aw):=
 br (!dp (h.1.1,h.1.2.1,h.1.2.2.1,h.1.2.2.2.1,h.1.t.1,zm h.1.t.2))
 (re (ai (zW (λx=>bf x (-1) o) h.2 0)) [])
 (re (ai (zW (λx=>bf x h.1.2.2.1 o) h.2 0)) [])
noncomputable def JC(h:Sem zh)(o:Sem ze):=al [zg] t0 100000000 (znf h o)
noncomputable def OU(h:Sem zh)(o:Sem ze):=(JC h o).isSome
noncomputable def XV(h:Sem zh)(o:Sem ze):=o1 (JC h o)
noncomputable def zjV:=FT [zh,ze] [zg] λx=>JC x.1 x.2.1
theorem zfv:FK 78 zjV:=C8.T1 (f:=Tryz.f78) (keep:=k0) (e:=e0)
noncomputable def Vf:=Ve.add 78 zjV
theorem C9:zw Vf:=C8.add zfv
noncomputable def SB(h:Sem zq)(z:Sem zh.sl)(u:Sem ze):Tr (Empty⊕aw):=
 let C:=(h.1,h.2.1,h.2.2.1,(h.2.2.2.1.1,h.2.2.2.1.2.1,h.2.2.2.1.2.2.1,h.2.2.2.1.2.2.2.1,h.2.2.2.1.t.1,zm h.2.2.2.1.t.2),h.t)
 let F:=zJ 0 (Io z)
 let o:=getD z (toNat 0) (zi zh)
 let G:=((o.1.1,o.1.2.1,o.1.2.2.1,o.1.2.2.2.1,o.1.t.1,zm o.1.t.2),o.2)
 let E:=XV G u
 let H:=getD o.2 (toNat E) (zi ze.sl)
 let I:=HR C z
 let D:=cv C z
 let B:=getD H (toNat h.t.2) (zi ze)
 Qc (L7 C z)
 (br (Xn C z !=0) (re (tup [agg [ai 0,ai 0,str []],ai 1]) [])
  (br (h.1==eX) (Qc F (Qc (OU G u) (br (Q0 (E<0)) (re (tup [agg [ai 0,ai 0,str []],ai 6]) []) (Qc F (Qc (zJ E (Io o.2)) (Qc (zJ h.t.2 (Io H)) (Qc I (Qc (M4 D B)
  (br (!FN D B) (re (tup [agg [ai 0,ai 0,str []],ai 6]) []) (re (tup [agg [ai B.1,ai B.2.1,str B.2.2],ai 0]) [])))))))))) (Qc I (Qc (M4 D u) (br (!FN D u) (re (tup [agg [ai 0,ai 0,str []],ai 6]) [])
  (re (tup [agg [ai u.1,ai u.2.1,str u.2.2],ai 0]) []))))))
noncomputable def Rh(h:Sem zq)(o:Sem zh.sl)(u:Sem ze):=al [ze,zg] t0 100000000 (SB h o u)
noncomputable def Yq(h:Sem zq)(o:Sem zh.sl)(u:Sem ze):=(Rh h o u).isSome
noncomputable def ziJ(h:Sem zq)(o:Sem zh.sl)(u:Sem ze):=o2 (Rh h o u)
noncomputable def zjA:=FT [zq,zh.sl,ze] [ze,zg] λx=>Rh x.1 x.2.1 x.2.2.1
theorem ze8:FK 34 zjA:=C9.T1 (f:=Tryz.f34) (keep:=k0) (e:=e0)
noncomputable def Vg:=Vf.add 34 zjA
theorem tT:zw Vg:=C9.add ze8
noncomputable section
def IC(u:Sem Q5)(B:Sem Q6):Tr (Empty⊕aw):=
 let h:=(zf.l u).getD (toNat 0) (zi Q5)
 let z:=!zf.op h==cX
 let o:=(zf.l u).getD (toNat 1) (zi Q5)
 br (cond (!zf.op u==[61]) Q3 ((↑(zf.l u).length:Int)!=2))
 (re (tup [agg [ai 0,ai 0,str []],kb Q4]) [])
 (Qc (zJ 0 (zf.l u).length)
  (Qc (zJ 1 (zf.l u).length) (br z (br (cond (!zf.op o==cX) Q3 (cond (!zf.s o==B) Q3 (cond (!zf.op h==kH) Q3 ((zf.v h).1==0)))) (re (tup [agg [ai 0,ai 0,str []],kb Q4]) [])
  (re (tup [agg [ai (zf.v h).1,ai (zf.v h).2.1,str (zf.v h).2.2],kb Q3]) [])) (br (cond z Q3 (cond (!zf.s h==B) Q3 (cond (!zf.op o==kH) Q3 ((zf.v o).1==0)))) (re (tup [agg [ai 0,ai 0,str []],kb Q4]) [])
  (re (tup [agg [ai (zf.v o).1,ai (zf.v o).2.1,str (zf.v o).2.2],kb Q3]) [])))))
def tH(h:Sem Q5)(o:Sem Q6):=al [ze,Q7] t0 100000000 (IC h o)
def H9(h:Sem Q5)(o:Sem Q6):=(tH h o).isSome
def cj(h:Sem Q5)(o:Sem Q6):=o2 (tH h o)
def YJ:=FT [Q5,Q6] [ze,Q7] λx=>tH x.1 x.2.1
theorem TQ:FK 37 YJ:=tT.T1 (f:=Tryz.f37) (keep:=k0) (e:=e0)
def zr2(u:Sem Q6):Tr (Empty⊕aw):=
 let o:=zl8++u
 let h:=zsw o
 Qc (Q0 (Io zl8+Io u<=1099511627776))
 (Qc (zoj o)
  (re (agg [str (zf.op h.t.t.q.2.1),ai (zf.v h.t.t.q.2.1).1,ai (zf.v h.t.t.q.2.1).2.1,str (zf.v h.t.t.q.2.1).2.2,str (zf.s h.t.t.q.2.1),sl Q5 (zf.l h.t.t.q.2.1)]) []))
def zaX(h:Sem Q6):=al [Q5] t0 100000000 (zr2 h)
def zjF:=FT [Q6] [Q5] λx=>zaX x.1
theorem zfe:FK 24 zjF:=tT.T1 (f:=Tryz.f24) (keep:=k0) (e:=e0)
def PN:=Vg.addL [(37,YJ),(24,zjF)]
theorem Su:zw PN:=tT.addL<|fc TQ<|fc zfe<|iz
end
open Go Go.Proofs Go.RowKit
attribute [local go_sem] Oper.semAt_some
variable {w:World} {U:Nat->Prop} {ρ:Nat->Option Value} (n:Nat) (p0 p1 p2 p3 p6 p7 p8 p9 p10 p11 p12 p13 p14 p15:Value) {cl cc:Nat} {e:zf} {a:Option Addr} {c:Nat}
theorem VB{e:zf}{o:zD}(h:H9 e o=Q3):(YJ [zC .expr e,.str o] (λ_=>.dead) 0).val=Q1 {val:=.tup [zC ze (cj e o).1,.bool (cj e o).2]}:=by
 have u:(YJ [zC .expr e,.str o] (λ_=>.dead) 0).val=(Qc (H9 (zm e) o) (Tr.ok ({val:=.tup [zC ze (cj (zm e) o).1,.bool (cj (zm e) o).2]}:fT))).val:=by kernel_rfl
 rw[u,zk,h];rfl
theorem Un(e:zf)(o:zD):H9 e o=Q3:=by
 unfold H9 tH;have u:∃r,(IC e o).val=Q1 (.inr r)/\(aI [] [ze,Q7] r.1).isSome=Q3/\r.2=[]:=by
  by_cases h:(cond (!zf.op e==[61]) Q3 (((zf.l e).length:Int)!=2))=Q3
  ·exact⟨(tup [agg [ai 0,ai 0,str []],kb Q4],[]),by simp only[IC,Q8,h,if_true],rfl,rfl⟩
  ·have z:(zf.l e).length=2:=by
    cases B:(!zf.op e==[61])
    ·rw[B]at h;simp at h;omega
    ·rw[B]at h;simp at h
   have F:zJ 0 (zf.l e).length=Q3:=by rw[z];rfl
   have G:zJ 1 (zf.l e).length=Q3:=by rw[z];rfl
   simp only[IC,Q8,h,F,G,if_true,if_false,zA];split<;>split<;>exact⟨_,rfl,rfl,rfl⟩
 obtain⟨⟨v,H⟩,C,D,rfl⟩:=u;obtain⟨y,E⟩:=Option.isSome_iff_exists.1 D;rw[zM C E];rfl
theorem N7(H:∀b,U b->b<w.heap.size)(F:tr Dq w U)(T:nP w U ρ e a c){o:zD}(G:Io o<=aG){W:World}(B:Below w.heap.size w W):
  CallsIn Fence.wide n Tryz.prog 37 #[.agg (bx e a c).toArray,.string ⟨o.toArray⟩] W λL J=>L=.returned (.tuple #[.agg (sO (cj e o).1).toArray,.bool (cj e o).2])/\Below W.heap.size W J/\iX (cj e o).1:=by
 refine(callsIn_wide.2 (Az TQ (args:=[zC .expr e,.str o]) (vals:=[.agg (bx e a c).toArray,.string ⟨o.toArray⟩]) (U:=U) (ρ:=ρ) (VB (Un e o)) ⟨rfl,λj cc v C z=>?_⟩ (λb h=>g7 (H b h) B.size) (λg=>(F g).mono B.size (λb E _=>B.block b E) (λ_ _ h=>h) (λ_ _ h=>h)) rfl)).mono ?_
 ·match j,C,z with
  |0,C,z=>cases C;cases z;exact(T.mono B).agg
  |1,C,z=>cases C;cases z;exact .str _ G
 ·rintro L J ⟨v,rfl,B,U',ρ',z⟩;cases z with
  |tup _ vs S D=>
  match vs,S,D with
  |[v1,v2],_,D=>
  have M:=D 0 _ v1 rfl rfl;have O:=D 1 _ v2 rfl rfl;cases O;cases M with
  |agg _ us I _ u=>
  match us,I,u with
  |[u0,u1,u2],_,u=>
  have k0:=u 0 _ u0 rfl rfl;have k1:=u 1 _ u1 rfl rfl;have k2:=u 2 _ u2 rfl rfl;cases k0 with
  |int _ _ X=>
  cases k1 with
  |int _ _ Y=>
  cases k2 with
  |str _ Z=>
  exact⟨rfl,B,X,Y,Z⟩
def Pq(h:zD)(pre:List (TD w U ρ)):Prop:=∀x∈pre,(cj x.1.1 h).2=Q4
def zqf(h:zD)(pre:List (TD w U ρ))(W:World):Prop:=∃q x,pre=q++[x]/\Pq h q/\(cj x.1.1 h).2=Q3/\iX (cj x.1.1 h).1/\Below w.heap.size w W/\W.heap[w.heap.size+1+1]?=Q1 (.cells (sO (cj x.1.1 h).1).toArray 27 (0,0))/\W.heap[w.heap.size+1+1+1]?=Q1 (.cells #[.bool Q3] 4 (0,0))
theorem qc{o:zD}:∀{xs:List (TD w U ρ)}{l:List zf},Pq o xs->xs.map (·.1.1)=l->dY cj o l=((0,0,[]),Q4)
 |[],_,_,rfl=>rfl
 | x::r,_,h,rfl=>by
  show(cond ((cj x.1.1 o).2) ((cj x.1.1 o).1,Q3) (dY cj o (r.map (·.1.1))))=_;rw[h x sw,ao];exact qc (λy u=>h y (mO _ u)) rfl
theorem tZ{o:zD}{x:TD w U ρ}(u:(cj x.1.1 o).2=Q3):∀{q:List (TD w U ρ)}{l:List zf},Pq o q->(q++[x]).map (·.1.1)<+:l->dY cj o l=((cj x.1.1 o).1,Q3)
 | [],_,_,⟨r,rfl⟩=>by
  show(cond ((cj x.1.1 o).2) ((cj x.1.1 o).1,Q3) _)=_;rw[u,af]
 | y::q,_,h,⟨r,rfl⟩=>by
  show(cond ((cj y.1.1 o).2) ((cj y.1.1 o).1,Q3) (dY cj o ((q++[x]).map (·.1.1)++r)))=_;rw[h y sw,ao];exact tZ u (λz B=>h z (mO _ B)) ⟨r,rfl⟩
theorem RP(x7:∀b,U b->b<w.heap.size)(x6:tr Dq w U)(M:nP w U ρ e a c){k L o0:Nat}(a7:k<cl){u:zD}(hb:L<w.heap.size)(h0:w.cell? ⟨L,o0+k*3,Q2⟩=Q1 (.string ⟨u.toArray⟩))(a4:Io u<=aG)
  (hm:cG e=Q3) {l:List zf} (hl:Cd e l):
  CallsIn Fence.wide n Tryz.prog 14 #[.agg (DY p0 p1 p2 p3 p6 p7 p8 p9 p10 p11 p12 p13 p14 p15 (Q1 ⟨L,o0,Q2⟩) cl cc (k:Int)).toArray,.agg (bx e a c).toArray] w
   λe' z=>e'=.returned (.tuple #[.agg (sO (dY cj u l).1).toArray,.bool (dY cj u l).2])/\Below w.heap.size w z/\iX (dY cj u l).1:=by
 obtain⟨x0,x1,x2,x3⟩:=PB w (DY p0 p1 p2 p3 p6 p7 p8 p9 p10 p11 p12 p13 p14 p15 (Q1 ⟨L,o0,Q2⟩) cl cc (k:Int)) (bx e a c);have S:=CC w (DY p0 p1 p2 p3 p6 p7 p8 p9 p10 p11 p12 p13 p14 p15 (Q1 ⟨L,o0,Q2⟩) cl cc (k:Int)) (bx e a c);have a5:=R0 w (DY p0 p1 p2 p3 p6 p7 p8 p9 p10 p11 p12 p13 p14 p15 (Q1 ⟨L,o0,Q2⟩) cl cc (k:Int)) (bx e a c);refine callsIn_of_wp_marks Tryz.func14 rfl trivial ?_ rfl;simp only[Tryz.ntmps14,List.size_toArray,dU,iq,Nat.reduceAdd,Nat.reduceSub,Array.replicate_succ,Array.replicate_zero,List.push_toArray,List.append_toArray,pK,List.cons_append];have g1:Q0 ((k:Int)<0)=Q4:=by simp
 have g2:Q0 ((cl:Int)<=(k:Int))=Q4:=by simp;omega
 gi_wp2
 refine⟨trivial,λh=>(by cases h),(Hm _ x7 x6 M S).mono ?_⟩;rintro e' z ⟨rfl,H⟩;rw[hm];have c0:=(H.block _ (ea.1 x0).1).trans x0;have c1:=(H.block _ (ea.1 x1).1).trans x1;have c2:=(H.block _ (ea.1 x2).1).trans x2;have c3:=(H.block _ (ea.1 x3).1).trans x3;have T:Below w.heap.size w z:=S.trans (H.mono S.size);have a8:w.heap.size+4<=z.heap.size:=by rw[<-a5];exact H.size
 have x8:(z.alloc (.cells #[.string ⟨u.toArray⟩] 9)).heap[w.heap.size+1]?=Q1 (.cells (bx e a c).toArray 30 (0,0)):=(Below.heap_alloc z _ _ ow).trans c1;obtain⟨d0,d1,d2,d3,d4,d5⟩:=pQ x8;have q4:z.cell? ⟨w.heap.size,4,Q2⟩=Q1 (.slice (Q1 ⟨L,o0,Q2⟩) cl cc):=by simp[World.cell?,c0]
 have q5:z.cell? ⟨w.heap.size,5,Q2⟩=Q1 (.int .i64 k):=by simp[World.cell?,c0]
 have qn:=(T.cell (p:=⟨L,o0+k*3,Q2⟩) hb).trans h0
 gi_wp2
 refine⟨trivial,λh=>(by cases h),(IZ (F:=Fence.wide) trivial rfl (n-1) e a c _).mono ?_⟩;rintro e' a9 ⟨rfl,rfl⟩
 gi_wp2
 have I:Below w.heap.size w ((z.alloc (.cells #[.string ⟨u.toArray⟩] 9)).alloc (.cells (bx e a c).toArray 30)):=T.trans (((Below.refl _ z).alloc T.size _).alloc sg _);have x9:((z.alloc (.cells #[.string ⟨u.toArray⟩] 9)).alloc (.cells (bx e a c).toArray 30)).heap[z.heap.size+1]?=Q1 (.cells (bx e a c).toArray 30 (0,0)):=by
  have:=World.alloc_heap_new (z.alloc (.cells #[.string ⟨u.toArray⟩] 9)) (.cells (bx e a c).toArray 30)
  rwa [World.size_alloc]at this
 have a0:((z.alloc (.cells #[.string ⟨u.toArray⟩] 9)).alloc (.cells (bx e a c).toArray 30)).heap[z.heap.size]?=Q1 (.cells #[.string ⟨u.toArray⟩] 9 (0,0)):=
  (Below.heap_alloc _ _ _ sw).trans (World.alloc_heap_new z _)
 have b2:=λb h=>(Below.heap_alloc (z.alloc (.cells #[.string ⟨u.toArray⟩] 9)) (.cells (bx e a c).toArray 30) b (by simp;omega:b<(z.alloc (.cells #[.string ⟨u.toArray⟩] 9)).heap.size)).trans (Below.heap_alloc z (.cells #[.string ⟨u.toArray⟩] 9) b h)
 have r2:=(b2 (w.heap.size+1+1) ow).trans c2;have r3:=(b2 (w.heap.size+1+1+1) ow).trans c3;have h7:((z.alloc (.cells #[.string ⟨u.toArray⟩] 9)).alloc (.cells (bx e a c).toArray 30)).heap.size=z.heap.size+2:=by simp
 refine wpIn_rangeB (F:=Fence.wide) rfl rfl (gf:=81) (lb:=#[.pointer (Q1 ⟨z.heap.size+1,0,Q2⟩)]) rfl trivial (enters_of Tryz.func81 kw rfl)
  (S0 (F:=Fence.wide) (w0:=w) (U:=U) (ρ:=ρ) rfl trivial trivial rfl hl a c M _ _ I x9) (Below.refl _ _) I.size (λ_=>rfl)
  (λpre W=>Pq u pre/\Below w.heap.size w W/\KeepsAll w.heap.size ((z.alloc (.cells #[.string ⟨u.toArray⟩] 9)).alloc (.cells (bx e a c).toArray 30)) W)
  (λpre W=>zqf u pre W)
  (OwnFrom.and (ownFrom_pure _ _) (OwnFrom.and (ownFrom_below (ae _) I.size) (ownFrom_keepsAll (ae _))))
  (by
   rintro s X Y h9 ⟨q,x,J,C,G,hq,h4,h5,h6⟩ hg hr;exact⟨q,x,J,C,G,hq,ownFrom_below (ae _) I.size () X Y h9 h4 hg hr,cells_own _ _ 27 () X Y h9 h5 hg (λr e=>(hr r e).2),cells_own _ _ 4 () X Y h9 h6 hg (λr e=>(hr r e).2)⟩)
  ⟨λ_ h=>(by cases h),I,KeepsAll.refl _ _⟩ 7 (λx=>(bx x.1.1 x.1.2.1 x.1.2.2).toArray) 30 ?assign ?body ?done ?stop
 case assign=>
  rintro l m ys ⟨⟨O,a1,c1⟩,h8⟩ W1 K a3 ⟨J,C,G⟩ hK
  gi_wp2
  have hK:=hK W1.heap.size _ (KeepsAll.alloc _ _ _) ((Below.refl _ W1).alloc C.size _) ⟨J,C.alloc C.size _,G.trans (KeepsAll.alloc _ _ _)⟩ (World.alloc_heap_new W1 _);simpa using hK
 case body=>
  rintro l m ys ⟨⟨O,a1,c1⟩,h8⟩ Bx W1 a3 ⟨J,C,G⟩ hB;obtain⟨s0,s1,s2,s3,s4,s5⟩:=pQ hB;have sn:W1.cell? ⟨z.heap.size,0,Q2⟩=Q1 (.string ⟨u.toArray⟩):=by simp[World.cell?,G.same _ _ ow a0]
  gi_wp2
  refine⟨trivial,λh=>(by cases h),(CallsIn.inRound l (N7 (m-1) x7 x6 h8 a4 C)).mono ?_⟩;rintro e' W2 ⟨rfl,E,hq⟩;have t2:=(E.block _ (ea.1 (G.same _ _ ow r2)).1).trans (G.same _ _ ow r2);have t3:=(E.block _ (ea.1 (G.same _ _ ow r3)).1).trans (G.same _ _ ow r3);have Z:∀B,KeepsAll B W1 W2:=λB=>⟨E.size,λk o _ h=>(E.block _ (ea.1 h).1).trans h⟩
  by_cases hh:(cj O u).2=Q3
  ·rw[hh];have z2:=(Below.heap_alloc W2 (.cells (sO (cj O u).1).toArray 27) _ (ea.1 t2).1).trans t2;have z3:=(Below.heap_alloc W2 (.cells (sO (cj O u).1).toArray 27) _ (ea.1 t3).1).trans t3;obtain⟨d0,d1,d2,d3,d4,d5⟩:=ziL z2;obtain⟨d6,d7⟩:=zir z3
   gi_wp2
   have a2:=C.trans (((E.mono C.size).trans ((Below.refl _ W2).alloc (bt C.size E.size) (.cells (sO (cj O u).1).toArray 27))));refine⟨((Z _).trans (KeepsAll.alloc _ _ _)).trans ((((KeepsAll.setCell _ _ 0 _ ow).trans (KeepsAll.setCell _ _ 1 _ ow)).trans (KeepsAll.setCell _ _ 2 _ ow)).trans (KeepsAll.setCell _ _ 0 _ ow)),ys,⟨(O,a1,c1),h8⟩,rfl,J,hh,hq,?_,?_,?_⟩
   ·exact(a2.trans (un _ ow)).setCell (p:=⟨w.heap.size+1+1+1,0,Q2⟩) sg _
   ·exact jq (I2 z2 _) 0 _ ow
   ·exact heap_set (vP z3 _ ow) 0 _
  ·rw[Bool.eq_false_iff.2 hh]
   gi_wp2
   have x5:=(E.mono C.size).trans ((Below.refl _ W2).alloc (bt C.size E.size) (.cells (sO (cj O u).1).toArray 27));refine⟨(Z _).trans (KeepsAll.alloc _ _ _),x5,λx M=>?_,C.trans x5,G.trans ((Z _).trans (KeepsAll.alloc _ _ _))⟩;rcases cJ.1 M with M|M
   ·exact J x M
   ·rw[eD.1 M];exact Bool.eq_false_iff.2 hh
 case done=>
  rintro D xs W1 rfl hS ⟨J,C,G⟩ a6 hD;rw[h7]at hD;have t2:=G.same _ _ ow r2;have t3:=G.same _ _ ow r3;obtain⟨d0,d1,d2,d3,d4,d5⟩:=ziL t2;obtain⟨d6,d7⟩:=zir t3
  gi_wp2
  have x4:=jq (vP hD (0,0,[]) (by omega:z.heap.size+2≠w.heap.size+1+1)) 0 (.bool Q4) (by omega:z.heap.size+2≠w.heap.size+1+1+1);refine⟨sw,.inl ⟨_,_,rfl,run_takeDeferred x4,?_⟩⟩;refine⟨_,nG rfl rfl ((World.putObj_heap_other ow).trans (jq (I2 t2 (0,0,[])) 0 _ ow)) ((World.putObj_heap_other ow).trans (heap_set (vP t3 (0,0,[]) ow) 0 _)),by rw[qc J hS],?_,by rw[qc J hS];exact⟨by unfold cy;decide,by unfold cy;decide,sw⟩⟩;exact((C.trans (un (0,0,[]) ow)).setCell (p:=⟨w.heap.size+1+1+1,0,Q2⟩) sg _).trans (belowK_b (w:=w) (ae _) _ _ _ _ ow x4 rfl rfl)
 case stop=>
  rintro D xs W1 rfl hS ⟨q,x,rfl,C,G,hq,h4,h5,h6⟩ hD;rw[h7]at hD
  gi_wp2
  rw[h7];refine⟨sw,.inl ⟨_,_,rfl,run_takeDeferred hD,?_⟩⟩;exact⟨_,nG rfl rfl ((World.putObj_heap_other ow).trans h5) ((World.putObj_heap_other ow).trans h6),by rw[tZ G C hS],h4.trans (belowK_b (w:=w) (ae _) _ _ _ _ ow hD rfl rfl),by rw[tZ G C hS];exact hq⟩
def qu:Nat->zf->Bool
 |0,e=>!(e.op==em)
 |n+1,e=>if e.op=em then(match e.l with|[a,b]=>qu n a&&qu n b|_=>Q4)else Q3
def gY:Nat->zf->List zf
 |0,e=>[e]
 |n+1,e=>if e.op=em then(match e.l with|[a,b]=>gY n a++gY n b|_=>[e])else[e]
theorem DV:∀(n:Nat)(e:zf),qu n e=Q3->Cd e (gY n e)
 |0,e,h=>.leaf (by simpa[qu]using h)
 | n+1,e,h=>by
  unfold qu at h;unfold gY;split at h
  ·rename_i o;rw[if_pos o];split at h
   ·rename_i a b u;simp only[aE]at h;exact .both o u (DV n a h.1) (DV n b h.2)
   ·cases h
  ·rename_i o;rw[if_neg o];exact .leaf o
def Gd(p:Sem zq)(e:zf):Bool:=bif Q0 (p.2.2.2.1.2.2.1<0)then Q3 else bif Q0 (p.2.2.2.1.2.2.1>=(Io p.2.2.2.1.2.1:Int))then Q3 else !cG e
def Ad(p:Sem zq)(e:zf):Bool:=bif Gd p e then Q3 else qu 20 e
noncomputable def dI(p:Sem zq)(e:zf):Sem ze×Bool:=bif Gd p e then((0,0,[]),Q4)else dY cj (getD p.2.2.2.1.2.1 p.2.2.2.1.2.2.1.toNat (zi zj)).1 (gY 20 e)
theorem xk{p:Sem zq}{e:zf}:Gd p e=Q3↔(LT.lt (α:=Int) p.2.2.2.1.2.2.1 0\/(Io p.2.2.2.1.2.1:Int)<=p.2.2.2.1.2.2.1\/cG e=Q4):=by
 unfold Gd;cases h:Q0 (LT.lt (α:=Int) p.2.2.2.1.2.2.1 0)<;>cases o:Q0 (GE.ge (α:=Int) p.2.2.2.1.2.2.1 (Io p.2.2.2.1.2.1:Int))<;>cases u:cG e<;>simp_all
theorem zaz{w:World}{U:Nat->Prop}{ρ:Nat->Option Value}{e:zf}{v:Value}(h:Rv w U ρ (zC .expr e) v):∃a c,v=.agg (bx e a c).toArray/\nP w U ρ e a c:=by
 cases h with
 |agg _ M u _ o=>
 match M,u,o with
 |[F,G,H,I,J,L],_,o=>
 have k0:=o 0 _ F rfl rfl;have z:=o 1 _ G rfl rfl;have B:=o 2 _ H rfl rfl;have C:=o 3 _ I rfl rfl;have D:=o 4 _ J rfl rfl;have E:=o 5 (.sl .expr e.l) L rfl rfl;obtain⟨a,c,rfl,_⟩:=oU E;cases k0;cases z;cases B;cases C;cases D;exact⟨a,c,rfl,rfl,o⟩
theorem zeY:FK 14 (zT [zq,.expr] [ze,.bool] (λx=>Ad x.1 x.2.1) λx=>((dI x.1 x.2.1).1,(dI x.1 x.2.1).2,())):=by
 refine fg (E:=PN) ⟨Tryz.f14,kw,kw,kw⟩ λx h0 x4 D=>?_
 unfold eQ at D;split at D
 ·simp only[Q8]at D;split at D
  ·rename_i o;simp only[bH]at D;subst D;obtain⟨p,e,u⟩:=x;intro C w U ρ h5 _ T hH S h9 L;have hl:=T.len
   match h5,hl,T with
   |[vp,ve],_,T=>
   have h1:=T.rv 0 (zC zq p) vp rfl rfl;have h2:=T.rv 1 (zC .expr e) ve rfl rfl;obtain⟨a,c,rfl,D⟩:=zaz h2;cases h1 with
   |agg _ qs h8 _ F=>
   match qs,h8,F with
   |[q0,q1,q2,q3,q4,q5,q6,q7,q8,q9,W,X,Y,Z,h3,h4],_,F=>
   have r4:=F 4 (.sl zj p.2.2.2.1.2.1) q4 rfl rfl;have r5:=F 5 (.int .i64 p.2.2.2.1.2.2.1) q5 rfl rfl;obtain⟨ca,cc,rfl,x3,hm,x2⟩:=oU r4;cases r5;have J:∀(v:Sem ze×Bool),iX v.1->∀G,Below w.heap.size w G->v=dI p e->RH PN C (λr' h=>(r',h)=(wA [ze,Q7] ((dI p e).1,(dI p e).2,()),[])) (.returned (.tuple #[.agg (sO v.1).toArray,.bool v.2])) G:=λv H G M he=>by
    subst he;refine en hH S h9 L M ?_;refine .tup _ [.agg (sO (dI p e).1).toArray,.bool (dI p e).2] rfl λj cc v o z=>?_
    match j,o,z with
    | 0,o,z=>
     cases o;cases z;refine .agg _ _ rfl (by simp[Value.oneCell']) λj cc v o z=>?_
     match j,o,z with
     |0,o,z=>cases o;cases z;exact .int _ _ H.1
     |1,o,z=>cases o;cases z;exact .int _ _ H.2.1
     |2,o,z=>cases o;cases z;exact .str _ H.2.2
    |1,o,z=>cases o;cases z;exact .bool _
   by_cases I:Gd p e=Q3
   ·refine(callsIn_wide.1 (RQ 4 q0 q1 q2 q3 q6 q7 q8 q9 W X Y Z h3 h4 ca (Io p.2.2.2.1.2.1) cc p.2.2.2.1.2.2.1 L.ub L.gl D (xk.1 I))).mono ?_;rintro e' G ⟨rfl,M⟩;exact J ((0,0,[]),Q4) ⟨by unfold cy;decide,by unfold cy;decide,sw⟩ G M (by unfold dI;rw[I];rfl)
   ·have O:=Bool.eq_false_iff.2 I;rw[xk]at I;simp only[not_or,Bool.not_eq_false]at I;obtain⟨n1,n2,n3⟩:=I;have h6:qu 20 e=Q3:=by
     have o:Ad p e=Q3:=o;unfold Ad at o
     rwa [O,ao]at o
    obtain⟨k,H⟩:∃k:Nat,p.2.2.2.1.2.2.1=(k:Int):=⟨_,(Int.toNat_of_nonneg ow).symm⟩;rw[H]at n2⊢;have B:k<Io p.2.2.2.1.2.1:=by omega
    rcases x2 with h0|⟨b0,o0,rfl,x1⟩
    ·rw[h0]at B;cases B
    obtain⟨x0,c0,k0⟩:=x1 k B 0 (.str (p.2.2.2.1.2.1[k]).1) rfl;cases k0 with
    |str _ h7=>
    refine(callsIn_wide.1 (RP 4 q0 q1 q2 q3 q6 q7 q8 q9 W X Y Z h3 h4 L.ub L.gl D B (nV c0) c0 h7 n3 (DV 20 e h6))).mono ?_;rintro e' G ⟨rfl,M,hq⟩;refine J _ hq G M ?_;unfold dI;rw[O,ao,H,zH _ _ B]
  ·simp at D
 ·simp at D
noncomputable def zp8:zZ:=zT [zq,.expr] [ze,.bool] (λx=>Ad x.1 x.2.1) λx=>((dI x.1 x.2.1).1,(dI x.1 x.2.1).2,())
noncomputable def zds:=PN.add 14 zp8
theorem GM:zw zds:=Su.add zeY
noncomputable def zaG(h:Sem zq)(u:Sem zh.sl)(D:Sem Q5):Tr (Empty⊕aw):=
 let o:=(h.1,h.2.1,h.2.2.1,(h.2.2.2.1.1,h.2.2.2.1.2.1,h.2.2.2.1.2.2.1,h.2.2.2.1.2.2.2.1,h.2.2.2.1.t.1,zm h.2.2.2.1.t.2),h.t)
 let z:=dI o (zm D)
 let B:=Yp o u
 let C:=ziJ o u z.1
 Qc (L7 o u)
 (br (Xn o u !=0) (re (tup [Qb,ai 1]) [])
  (Qc (Ad o (zm D)) (br (!z.2) (Qc (Pd o u) (re (tup [sl ze B.1,ai B.2]) [])) (Qc (Yq o u z.1) (br (C.2!=0) (re (tup [Qb,ai 0]) []) (re (tup [sl ze [C.1],ai 0]) []))))))
noncomputable def Be(h:Sem zq)(o:Sem zh.sl)(u:Sem Q5):=al [ze.sl,zg] t0 100000000 (zaG h o u)
noncomputable def Ib(h:Sem zq)(o:Sem zh.sl)(u:Sem Q5):=(Be h o u).isSome
noncomputable def Nx(h:Sem zq)(o:Sem zh.sl)(u:Sem Q5):=o2 (Be h o u)
noncomputable def zjk:=FT [zq,zh.sl,Q5] [ze.sl,zg] λx=>Be x.1 x.2.1 x.2.2.1
theorem zeR:FK 12 zjk:=GM.T1 (f:=Tryz.f12) (keep:=k0) (e:=e0)
noncomputable def zdt:=zds.add 12 zjk
theorem GN:zw zdt:=GM.add zeR
noncomputable def i8v:Tr (Empty⊕aw):=
 Qc Q3
 (Qc Q3
  (Qc Q3 (br Q4 (re (kb Q4) []) (Qc Q3 (Qc Q3 (Qc Q3 (Qc Q3 (Qc Q3 (Qc Q3 (Qc Q3 (re (AV.bool Q3) [])))))))))))
noncomputable def Bd:=al [Q7] t0 100000000 (i8v)
noncomputable def Bc:=(Bd).isSome
noncomputable def CD:=o1 (Bd)
noncomputable def F8v:=FT [] [Q7] λ_=>Bd
theorem zlO:FK 8 F8v:=GN.T1 (f:=Tryz.f8) (keep:=k0) (e:=e0)
noncomputable def zdu:=zdt.add 8 F8v
theorem xP:zw zdu:=GN.add zlO
noncomputable section
def zaI(h:Sem zq)(E:Sem zh.sl)(o:Sem ze.sl):Tr (Empty⊕aw):=
 let u:=getD o (toNat h.t.2) (zi ze)
 let C:=getD h.t.1 (toNat 0) (zi zg)
 let z:=getD o (toNat C) (zi ze)
 let D:=getD E (toNat 0) (zi zh)
 let B:=getD o (toNat D.1.2.2.1) (zi ze)
 br (h.1==eX)
 (Qc (zJ h.t.2 (Io o)) (re (agg [ai u.1,ai u.2.1,str u.2.2]) []))
 (br (h.1==kq)
  (Qc (zJ 0 (Io h.t.1)) (Qc (zJ C (Io o)) (re (agg [ai z.1,ai z.2.1,str z.2.2]) [])))
  (Qc (zJ 0 (Io E)) (Qc (zJ D.1.2.2.1 (Io o)) (re (agg [ai B.1,ai B.2.1,str B.2.2]) []))))
def ur(h:Sem zq)(o:Sem zh.sl)(u:Sem ze.sl):=al [ze] t0 100000000 (zaI h o u)
def up(h:Sem zq)(o:Sem zh.sl)(u:Sem ze.sl):=(ur h o u).isSome
def Hr(h:Sem zq)(o:Sem zh.sl)(u:Sem ze.sl):=o1 (ur h o u)
def zjD:=FT [zq,zh.sl,ze.sl] [ze] λx=>ur x.1 x.2.1 x.2.2.1
theorem zfb:FK 27 zjD:=xP.T1 (f:=Tryz.f27) (keep:=k0) (e:=e0)
abbrev znC:=kR [(4,[0,1,5])]
inductive Ru where
 |h4 (l0:List (Sem ze.sl)) (l1:List (Sem ze.sl)) (i5:Int)
abbrev zqw:Ru->Nat×St
 |.h4 o u h=>(4,⟨tm 27 [(0,sl ze.sl o),(1,sl ze.sl u),(5,ai h)],[]⟩)
def zr1(h:Sem ze.sl.sl)(o:Sem ze.sl.sl):Tr (Ru⊕aw):=
 br ((↑(Io h):Int)!=(↑(Io o):Int)) (re (kb Q4) []) (Q9 (Ru.h4 h o 0))
def zsI:Ru->Tr (Ru⊕aw)
 | .h4 o u h=>
  let z:=o.getD h.toNat (zi ze.sl)
  let B:=u.getD h.toNat (zi ze.sl)
  br (Q0 (h<(↑o.length:Int)))
  (Qc (zJ h (Io o)) (Qc (zJ h (Io u)) (Qc (BB z B) (br (!Jb z B) (re (kb Q4) []) (Q9 (Ru.h4 o u (Γ Δ (h+1))))))))
  (re (kb Q3) [])
def zbp(h:Sem ze.sl.sl)(o:Sem ze.sl.sl):=al [Q7] zsI 100000000 (zr1 h o)
def zjx:=FT [ze.sl.sl,ze.sl.sl] [Q7] λx=>zbp x.1 x.2.1
theorem ze5:FK 13 zjx:=xP.T1 (f:=Tryz.f13) (keep:=znC) (e:=zqw)
def Vh:=zdu.addL [(27,zjD),(13,zjx)]
theorem tU:zw Vh:=xP.addL<|fc zfb<|fc ze5<|iz
end
noncomputable section
abbrev znD:=kR [(3,[1,3,5,7,8])]
inductive Fk where
 |h3 (l1:List (Sem zh)) (i8:Int) (z0:zl [CP.d zq]) (z1:zl [CP.d ze])
 |h3b (l1:List (Sem zh)) (i8:Int) (z0:zl [CP.d zq]) (z1:zl [CP.d ze]) (lh_2:List (Sem ze.sl))
abbrev zqx:Fk->Nat×St
 |.h3 u o z B=>(3,⟨tm 46 [(1,sl zh u),(3,Qf 0 0),(5,Qf 1 0),(7,Qb),(8,ai o)],[Qa (bb [] [CP.d zq] z),Qa (bb [] [CP.d ze] B)]⟩)
 |.h3b u o z B h=>(3,⟨tm 46 [(1,sl zh u),(3,Qf 0 0),(5,Qf 1 0),(7,AV.vec 2),(8,ai o)],[Qa (bb [] [CP.d zq] z),Qa (bb [] [CP.d ze] B),AO.vec ze.sl h]⟩)
def zm7(h:Sem zq)(o:Sem zh.sl)(u:Sem ze):Tr (Fk⊕aw):=
 Q9 (Fk.h3 o 0 (h,()) (u,()))
def A0:Fk->Tr (Fk⊕aw)
 | .h3 o B z u=>
  let C:=zJ 0 (Io o)
  let D:=o.getD (toNat 0) (zi zh)
  let M:=(↑(Io D.2):Int)
  let G:=u.1.1!=0
  let H:=zJ B (Io D.2)
  let I:=(z.1.1,z.1.2.1,z.1.2.2.1,(z.1.2.2.2.1.1,z.1.2.2.2.1.2.1,z.1.2.2.2.1.2.2.1,z.1.2.2.2.1.2.2.2.1,z.1.2.2.2.1.t.1,zm z.1.2.2.2.1.t.2),z.1.t)
  let E:=getD D.2 B.toNat (zi ze.sl)
  let F:=Hr I o E
  let J:=[E]
  let L:=Γ Δ (B+1)
  Qc C
  (br (Q0 (B<M)) (Qc (cond G (C&&(H&&up I o E)) Q3) (br (cond G (F.1==u.1.1&&(F.2.1==u.1.2.1&&(F.2.2==u.1.2.2&&Q3))) Q4) (Qc C (Qc H (Qc (Q0 (Io J<=1073741824)) (Q9 (Fk.h3b o L z u J))))) (Q9 (Fk.h3 o L z u)))) (re Qb []))
 | .h3b o B z u h=>
  let C:=zJ 0 (Io o)
  let D:=o.getD (toNat 0) (zi zh)
  let M:=(↑(Io D.2):Int)
  let G:=u.1.1!=0
  let H:=zJ B (Io D.2)
  let I:=(z.1.1,z.1.2.1,z.1.2.2.1,(z.1.2.2.2.1.1,z.1.2.2.2.1.2.1,z.1.2.2.2.1.2.2.1,z.1.2.2.2.1.2.2.2.1,z.1.2.2.2.1.t.1,zm z.1.2.2.2.1.t.2),z.1.t)
  let E:=getD D.2 B.toNat (zi ze.sl)
  let F:=Hr I o E
  let J:=[E]
  let L:=Γ Δ (B+1)
  Qc C
  (br (Q0 (B<M)) (Qc (cond G (C&&(H&&up I o E)) Q3) (br (cond G (F.1==u.1.1&&(F.2.1==u.1.2.1&&(F.2.2==u.1.2.2&&Q3))) Q4) (Qc C (Qc H (Qc (Q0 (Io h+Io J<=1073741824)) (Q9 (Fk.h3b o L z u (h++J)))))) (Q9 (Fk.h3b o L z u h)))) (re (AV.vec 0) [AO.vec ze.sl h]))
def vR(h:Sem zq)(o:Sem zh.sl)(u:Sem ze):=al [ze.sl.sl] A0 100000000 (zm7 h o u)
def D2(h:Sem zq)(o:Sem zh.sl)(u:Sem ze):=(vR h o u).isSome
def I6(h:Sem zq)(o:Sem zh.sl)(u:Sem ze):=o1 (vR h o u)
def zjy:=FT [zq,zh.sl,ze] [ze.sl.sl] λx=>vR x.1 x.2.1 x.2.2.1
theorem ze6:FK 102 zjy:=tU.T1 (f:=Tryz.f102) (keep:=znD) (e:=zqx)
abbrev znB:=kR [(3,[1,2,5,6]),(9,[1,2,5,6,7,8,9,10])]
inductive fG where
 |h3 (l1:List (Sem zh)) (i6:Int) (z0:zl [CP.d zq])
 |h9 (l1:List (Sem zh)) (i6:Int) (b9:Bool) (i10:Int) (z0:zl [CP.d zq]) (z1:zl [CP.d ze])
 |h3b (l1:List (Sem zh)) (i6:Int) (z0:zl [CP.d zq]) (lh_1:List (Sem ze))
 |h9b (l1:List (Sem zh)) (i6:Int) (b9:Bool) (i10:Int) (z0:zl [CP.d zq]) (z2:zl [CP.d ze]) (lh_1:List (Sem ze))
 |h9bb (l1:List (Sem zh)) (i6:Int) (i10:Int) (z0:zl [CP.d zq]) (z2:zl [CP.d ze]) (lh_1:List (Sem ze)) (lh_3:List (Sem ze))
 |h9bbb (l1:List (Sem zh)) (i6:Int) (b9:Bool) (i10:Int) (z0:zl [CP.d zq]) (z2:zl [CP.d ze]) (lh_1:List (Sem ze)) (lh_3:List (Sem ze))
abbrev zqv:fG->Nat×St
 |.h3 z u C=>(3,⟨tm 73 [(1,sl zh z),(2,Qf 0 0),(5,Qb),(6,ai u)],[Qa (bb [] [CP.d zq] C)]⟩)
 |.h9 z u D o C F=>(9,⟨tm 73 [(1,sl zh z),(2,Qf 0 0),(5,Qb),(6,ai u),(7,Qf 1 0),(8,Qb),(9,AV.bool D),(10,ai o)],[Qa (bb [] [CP.d zq] C),Qa (bb [] [CP.d ze] F)]⟩)
 |.h3b z u C h=>(3,⟨tm 73 [(1,sl zh z),(2,Qf 0 0),(5,AV.vec 1),(6,ai u)],[Qa (bb [] [CP.d zq] C),AO.vec ze h]⟩)
 |.h9b z u D o C E h=>(9,⟨tm 73 [(1,sl zh z),(2,Qf 0 0),(5,AV.vec 1),(6,ai u),(7,Qf 2 0),(8,Qb),(9,AV.bool D),(10,ai o)],[Qa (bb [] [CP.d zq] C),AO.vec ze h,Qa (bb [] [CP.d ze] E)]⟩)
 |.h9bb z u o C E h B=>(9,⟨tm 73 [(1,sl zh z),(2,Qf 0 0),(5,AV.vec 1),(6,ai u),(7,Qf 2 0),(8,AV.vec 3),(9,kb Q3),(10,ai o)],[Qa (bb [] [CP.d zq] C),AO.vec ze h,Qa (bb [] [CP.d ze] E),AO.vec ze B]⟩)
 |.h9bbb z u D o C E h B=>(9,⟨tm 73 [(1,sl zh z),(2,Qf 0 0),(5,AV.vec 1),(6,ai u),(7,Qf 2 0),(8,AV.vec 3),(9,AV.bool D),(10,ai o)],[Qa (bb [] [CP.d zq] C),AO.vec ze h,Qa (bb [] [CP.d ze] E),AO.vec ze B]⟩)
def zm5(h:Sem zq)(o:Sem zh.sl):Tr (fG⊕aw):=
 Q9 (fG.h3 o 0 (h,()))
def gj:fG->Tr (fG⊕aw)
 | .h3 B D z=>
  let E:=zJ 0 (Io B)
  let H:=B.getD (toNat 0) (zi zh)
  let J:=(↑(Io H.2):Int)
  let I:=(z.1.1,z.1.2.1,z.1.2.2.1,(z.1.2.2.2.1.1,z.1.2.2.2.1.2.1,z.1.2.2.2.1.2.2.1,z.1.2.2.2.1.2.2.2.1,z.1.2.2.2.1.t.1,zm z.1.2.2.2.1.t.2),z.1.t)
  let F:=getD H.2 D.toNat (zi ze.sl)
  let G:=Hr I B F
  Qc E
  (br (Q0 (D<J)) (Qc E (Qc (zJ D (Io H.2)) (Qc (up I B F) (Q9 (fG.h9 B D (G.1==0) 0 z ((ur I B F).getD (bQ [ze]))))))) (re Qb []))
 | .h9 B D M o z X=>
  let E:=Γ Δ (D+1)
  br (Q0 (o<0)) Tr.err (br (!M) (Qc (Q0 ([X.1].length<=1073741824)) (Q9 (fG.h3b B E z [X.1]))) (Q9 (fG.h3 B E z)))
 | .h3b B D z h=>
  let E:=zJ 0 (Io B)
  let H:=B.getD (toNat 0) (zi zh)
  let J:=(↑(Io H.2):Int)
  let I:=(z.1.1,z.1.2.1,z.1.2.2.1,(z.1.2.2.2.1.1,z.1.2.2.2.1.2.1,z.1.2.2.2.1.2.2.1,z.1.2.2.2.1.2.2.2.1,z.1.2.2.2.1.t.1,zm z.1.2.2.2.1.t.2),z.1.t)
  let F:=getD H.2 D.toNat (zi ze.sl)
  let G:=Hr I B F
  Qc E
  (br (Q0 (D<J)) (Qc E (Qc (zJ D (Io H.2)) (Qc (up I B F) (Q9 (fG.h9b B D (G.1==0) 0 z ((ur I B F).getD (bQ [ze])) h))))) (re (AV.vec 0) [AO.vec ze h]))
 | .h9b B D M o z C h=>
  let E:=Q0 (o.toNat<Io h)
  let H:=h.getD o.toNat (zi ze)
  let J:=oF H C.1
  let I:=Q0 (J>0)
  let F:=Q0 ([C.1].length<=1073741824)
  let G:=[H]
  let L:=Γ Δ (o+1)
  let O:=Q0 (Io G<=1073741824)
  let T:=Γ Δ (D+1)
  br (Q0 (o<(↑h.length:Int)))
  (Qc (zJ o (Io h)) (Qc E (Qc (lE H C.1) (br (J==0) (br (cond I (!Q3) Q4) (Qc F (Qc (zJ o (Io h)) (Qc E (Qc (Q0 ([C.1].length+Io G<=1073741824)) (Q9 (fG.h9bb B D L z C h ([C.1]++G))))))) (Qc (zJ o (Io h)) (Qc E (Qc O (Q9 (fG.h9bb B D L z C h G))))))
  (br (cond I (!M) Q4) (Qc F (Qc (zJ o (Io h)) (Qc E (Qc (Q0 ([C.1].length+Io G<=1073741824)) (Q9 (fG.h9bb B D L z C h ([C.1]++G))))))) (Qc (zJ o (Io h)) (Qc E (Qc O (Q9 (fG.h9bbb B D M L z C h G))))))))))
  (br (!M) (Qc F (Q9 (fG.h3b B T z [C.1]))) (Q9 (fG.h3 B T z)))
 | .h9bb B D o z C h u=>
  let E:=Q0 (o.toNat<Io h)
  let H:=h.getD o.toNat (zi ze)
  let J:=oF H C.1
  let I:=u++[C.1]
  let F:=[H]
  let G:=Γ Δ (o+1)
  br (Q0 (o<(↑h.length:Int)))
  (Qc (zJ o (Io h)) (Qc E (Qc (lE H C.1) (br (J==0) (br (cond (Q0 (J>0)) (!Q3) Q4) (Qc (Q0 (Io u+[C.1].length<=1073741824)) (Qc (zJ o (Io h)) (Qc E (Qc (Q0 (Io I+Io F<=1073741824)) (Q9 (fG.h9bb B D G z C h (I++F))))))) (Qc (zJ o (Io h))
  (Qc E (Qc (Q0 (Io u+Io F<=1073741824)) (Q9 (fG.h9bb B D G z C h (u++F))))))) (br (cond (Q0 (J>0)) (!Q3) Q4) (Qc (Q0 (Io u+[C.1].length<=1073741824)) (Qc (zJ o (Io h)) (Qc E (Qc (Q0 (Io I+Io F<=1073741824)) (Q9 (fG.h9bb B D G z C h (I++F)))))))
  (Qc (zJ o (Io h)) (Qc E (Qc (Q0 (Io u+Io F<=1073741824)) (Q9 (fG.h9bb B D G z C h (u++F)))))))))))
  (Q9 (fG.h3b B (Γ Δ (D+1)) z u))
 | .h9bbb B D M o z C h u=>
  let E:=Q0 (o.toNat<Io h)
  let H:=h.getD o.toNat (zi ze)
  let J:=oF H C.1
  let I:=Q0 (J>0)
  let F:=Q0 (Io u+[C.1].length<=1073741824)
  let G:=u++[C.1]
  let L:=[H]
  let O:=Γ Δ (o+1)
  let T:=Q0 (Io u+Io L<=1073741824)
  let W:=u++L
  let S:=Γ Δ (D+1)
  br (Q0 (o<(↑h.length:Int)))
  (Qc (zJ o (Io h)) (Qc E (Qc (lE H C.1) (br (J==0) (br (cond I (!Q3) Q4) (Qc F (Qc (zJ o (Io h)) (Qc E (Qc (Q0 (Io G+Io L<=1073741824)) (Q9 (fG.h9bb B D O z C h (G++L))))))) (Qc (zJ o (Io h)) (Qc E (Qc T (Q9 (fG.h9bb B D O z C h W))))))
  (br (cond I (!M) Q4) (Qc F (Qc (zJ o (Io h)) (Qc E (Qc (Q0 (Io G+Io L<=1073741824)) (Q9 (fG.h9bb B D O z C h (G++L))))))) (Qc (zJ o (Io h)) (Qc E (Qc T (Q9 (fG.h9bbb B D M O z C h W))))))))))
  (br (!M) (Qc F (Q9 (fG.h3b B S z G))) (Q9 (fG.h3b B S z u)))
def Bu(h:Sem zq)(o:Sem zh.sl):=al [ze.sl] gj 100000000 (zm5 h o)
def I5(h:Sem zq)(o:Sem zh.sl):=(Bu h o).isSome
def OD(h:Sem zq)(o:Sem zh.sl):=o1 (Bu h o)
def zjw:=FT [zq,zh.sl] [ze.sl] λx=>Bu x.1 x.2.1
theorem ze2:FK 10 zjw:=tU.T1 (f:=Tryz.f10) (keep:=znB) (e:=zqv)
def Vi:=Vh.addL [(102,zjy),(10,zjw)]
theorem og:zw Vi:=tU.addL<|fc ze6<|fc ze2<|iz
end
noncomputable section
abbrev CH:List CP:=[.d zo,.vec (.sl ze)]
abbrev xn:List CP:=[.d .str,.nil,.d zg,.nil,.nil,.d .str,.d zg,.d zg,.d .str,.d .str,.nil,.nil]
abbrev znY:Nat->aN:=λj=>if j=6 then{slots:=[3,5,7,8,9,10]}else if j=14 then{slots:=[1,3,5,7,8,11],prom:=[(8,Q2,(.sl ze))]}else if j=22 then{slots:=[1,3,5,7,8,11,12,13,14],prom:=[(13,Q2,ze)]}else{ }
inductive tt where
 |h6 (l7:List (Sem ze.sl)) (i10:Int) (z0:zl [CP.d zq]) (z1:zl [CP.d ze]) (z2:zl [CP.d ze])
 |h14 (l1:List (Sem zh)) (l7:List (Sem ze.sl)) (i11:Int) (z0:zl [CP.d zq]) (z1:zl [CP.d ze]) (lh_2:List (Sem ze.sl))
 |h22 (l1:List (Sem zh)) (l7:List (Sem ze.sl)) (i11:Int) (l12:List (Sem ze)) (i14:Int) (z0:zl [CP.d zq]) (z1:zl [CP.d ze]) (lh_2:List (Sem ze.sl)) (lh_3:List (Sem ze))
abbrev zqL:tt->Nat×St
 |.h6 u D B C H=>(6,⟨tm 113 [(3,Qf 0 0),(5,Qf 1 0),(7,sl ze.sl u),(8,Qb),(9,Qf 2 0),(10,ai D)],[Qa (bb [] [CP.d zq] B),Qa (bb [] [CP.d ze] C),Qa (bb [] [CP.d ze] H)]⟩)
 |.h14 F u o B C h=>(14,⟨tm 113 [(1,sl zh F),(3,Qf 0 0),(5,Qf 1 0),(7,sl ze.sl u),(8,AV.vec 2),(11,ai o)],[Qa (bb [] [CP.d zq] B),Qa (bb [] [CP.d ze] C),AO.vec ze.sl h]⟩)
 |.h22 F u o G E B C h z=>(22,⟨tm 113 [(1,sl zh F),(3,Qf 0 0),(5,Qf 1 0),(7,sl ze.sl u),(8,AV.vec 2),(11,ai o),(12,sl ze G),(13,AV.vec 3),(14,ai E)],[Qa (bb [] [CP.d zq] B),Qa (bb [] [CP.d ze] C),AO.vec ze.sl h,AO.vec ze z]⟩)
def VT(h:Sem zq)(u:Sem zh.sl)(o:Sem ze):Tr (tt⊕aw):=
 let z:=(h.1,h.2.1,h.2.2.1,(h.2.2.2.1.1,h.2.2.2.1.2.1,h.2.2.2.1.2.2.1,h.2.2.2.1.2.2.2.1,h.2.2.2.1.t.1,zm h.2.2.2.1.t.2),h.t)
 let B:=I6 z u o
 Qc (D2 z u o)
 (br (h.1==kq) (Q9 (tt.h6 B 0 (h,()) (o,()) ((1,0,[]),()))) (Q9 (tt.h14 u B 0 (h,()) (o,()) [])))
def wQ:tt->Tr (tt⊕aw)
 | .h6 u D C E O=>
  let G:=zJ 1 (Io C.1.t.1)
  let H:=getD C.1.t.1 (toNat 1) (zi zg)
  let z:=u.getD D.toNat (zi ze.sl)
  let M:=zJ H (Io z)
  let L:=getD z (toNat H) (zi ze)
  let S:=Γ Δ (D+1)
  let T:=[[E.1,O.1]]
  br (Q0 (D<(↑u.length:Int)))
  (Qc (zJ D (Io u)) (Qc G (Qc M (br (L.1!=0) (Qc (zJ D (Io u)) (Qc G (Qc M (Qc (wa O.1 L) (Q9 (tt.h6 u S C E ((rK O.1 L).getD (bQ [ze])))))))) (Q9 (tt.h6 u S C E O))))))
  (br (Q0 ((↑u.length:Int)>0)) (Qc (Q0 (Io T<=1073741824)) (re (AV.vec 0) [AO.vec ze.sl T])) (re Qb []))
 | .h14 I u o C E h=>
  let G:=u.getD o.toNat (zi ze.sl)
  let H:=zJ 1 (Io I)
  let z:=I.getD (toNat 1) (zi zh)
  let M:=((z.1.1,z.1.2.1,z.1.2.2.1,z.1.2.2.2.1,z.1.t.1,zm z.1.t.2),z.2)
  let L:=oO M E.1
  br (Q0 (o<(↑u.length:Int)))
  (Qc (zJ o (Io u)) (br (C.1.1==eX) (Qc (Q0 (Io G<=1073741824)) (Qc H (Qc H (Qc (kD M E.1) (Qc (zJ L (Io z.2)) (Q9 (tt.h22 I u o (getD z.2 (toNat L) (zi ze.sl)) 0 C E h G))))))) (Q9 (tt.h22 I u o G 0 C E h []))))
  (re (AV.vec 0) [AO.vec ze.sl h])
 | .h22 I u o J F C E h B=>
  let G:=(↑(Io C.1.t.1):Int)
  let H:=getD C.1.t.1 F.toNat (zi zg)
  let z:=[J.getD (toNat H) (zi ze)]
  br (Q0 (F<G))
  (Qc (zJ F (Io C.1.t.1)) (Qc (zJ H (Io J)) (Qc (Q0 (Io B+Io z<=1073741824)) (Q9 (tt.h22 I u o J (Γ Δ (F+1)) C E h (B++z))))))
  (Qc (Q0 (Io h+[B].length<=1073741824)) (Q9 (tt.h14 I u (Γ Δ (o+1)) C E (h++[B]))))
def D3(h:Sem zq)(o:Sem zh.sl)(u:Sem ze):=al [ze.sl.sl] wQ 100000000 (VT h o u)
def OE(h:Sem zq)(o:Sem zh.sl)(u:Sem ze):=(D3 h o u).isSome
def XG(h:Sem zq)(o:Sem zh.sl)(u:Sem ze):=o1 (D3 h o u)
def zkb:=FT [zq,zh.sl,ze] [ze.sl.sl] λx=>D3 x.1 x.2.1 x.2.2.1
theorem zfO:FK 53 zkb:=og.T1 (f:=Tryz.f53) (keep:=znY) (e:=zqL)
abbrev znH:Nat->aN:=λj=>if j=3 then{slots:=[1,2,3,4],prom:=[(3,Q1 11,(.sl ze))]}else if j=6 then{slots:=[1,2,3,4,5]}else{ }
inductive Kn where
 |h3 (i4:Int) (z0:zl [CP.d zh]) (z1:zl xn) (z2:zl CH)
 |h6 (i4:Int) (i5:Int) (z0:zl [CP.d zh]) (z1:zl xn) (z2:zl CH)
abbrev zqA:Kn->Nat×St
 |.h3 h o u z=>(3,⟨tm 67 [(1,Qf 0 0),(2,Qf 1 0),(3,Qf 2 0),(4,ai h)],[Qa (bb [] [CP.d zh] o),Qa (bb [] xn u),Qa (bb [3] CH z),AO.vec ze.sl z.2.1]⟩)
 |.h6 h B o u z=>(6,⟨tm 67 [(1,Qf 0 0),(2,Qf 1 0),(3,Qf 2 0),(4,ai h),(5,ai B)],[Qa (bb [] [CP.d zh] o),Qa (bb [] xn u),Qa (bb [3] CH z),AO.vec ze.sl z.2.1]⟩)
def znc(h:Sem zh):Tr (Kn⊕aw):=
 Q9 (Kn.h3 0 (h,()) ([],0,[],0,0,[],[],()) (h.1,[],()))
def A1:Kn->Tr (Kn⊕aw)
 | .h3 B h z1 z=>
  let H:=(↑(Io h.1.2):Int)
  br (Q0 (B<H)) (Q9 (Kn.h6 B (↑z.2.1.length:Int) h z1 z))
  (re (agg [str z.1.1,sl zj z.1.2.1,ai z.1.2.2.1,sl zg z.1.2.2.2.1,sl zp z.1.t.1,str (zf.op z.1.t.2),ai (zf.v z.1.t.2).1,ai (zf.v z.1.t.2).2.1,str (zf.v z.1.t.2).2.2,str (zf.s z.1.t.2),sl Q5 (zf.l z.1.t.2),AV.vec 0]) [AO.vec ze.sl z.2.1])
 | .h6 B C h z1 z=>
  let H:=Q0 (C>0)
  let I:=Γ Δ (C-1)
  let J:=(h.1.1.1,h.1.1.2.1,h.1.1.2.2.1,h.1.1.2.2.2.1,h.1.1.t.1,zm h.1.1.t.2)
  let M:=z.2.1.getD I.toNat (zi ze.sl)
  let O:=zJ B (Io h.1.2)
  let L:=getD h.1.2 B.toNat (zi ze.sl)
  let S:=HD J M
  let T:=HD J L
  let X:=oF S T
  let W:=Q0 (0<=C)
  let o:=(↑z.2.1.length:Int)
  let D:=Q0 (C<=o)
  let u:=List.take (C.toNat-toNat 0) (List.drop (toNat 0) z.2.1)
  let E:=[L]
  let F:=u++E
  let G:=List.take (o.toNat-C.toNat) (List.drop C.toNat z.2.1)
  Qc (cond H (zJ I (Io z.2.1)&&(Q0 (I.toNat<Io z.2.1)&&(yB J M&&(O&&(yB J L&&lE S T))))) Q3)
  (br (cond H (Q0 (X>0)) Q4) (Q9 (Kn.h6 B I h z1 z)) (Qc (Q0 (0<=0)&&W&&D) (Qc (Q0 (Io u<=1073741824)) (Qc O (Qc (Q0 (Io u+Io E<=1073741824)) (Qc (W&&D&&Q0 (o<=o))
  (Qc (Q0 (Io F+Io G<=1073741824)) (Q9 (Kn.h3 (Γ Δ (B+1)) h z1 (z.1,F++G,()))))))))))
def BM(h:Sem zh):=al [zh] A1 100000000 (znc h)
def Jn(h:Sem zh):=(BM h).isSome
def OM(h:Sem zh):=o1 (BM h)
def zjI:=FT [zh] [zh] λx=>BM x.1
theorem zfh:FK 26 zjI:=og.T1 (f:=Tryz.f26) (keep:=znH) (e:=zqA)
abbrev znv:Nat->aN:=λj=>if j=6 then{slots:=[2,3,7,8],prom:=[(7,Q2,(.sl ze))]}else{ }
inductive Nf where
 |h6 (i8:Int) (z0:zl [CP.d zh]) (z1:zl [CP.d Q5]) (lh_2:List (Sem ze.sl))
abbrev zqr:Nf->Nat×St
 |.h6 o z u h=>(6,⟨tm 51 [(2,Qf 0 0),(3,Qf 1 0),(7,AV.vec 2),(8,ai o)],[Qa (bb [] [CP.d zh] z),Qa (bb [] [CP.d Q5] u),AO.vec ze.sl h]⟩)
def zrZ(h:Sem zh)(o:Sem Q5):Tr (Nf⊕aw):=
 let u:=uu (zm o) h.1.2.1
 Qc (oN (zm o) h.1.2.1) (br (u !=0) (re (tup [Qb,ai u]) []) (Q9 (Nf.h6 0 (h,()) (o,()) [])))
def zsH:Nf->Tr (Nf⊕aw)
 | .h6 B z o h=>
  let H:=(↑(Io z.1.2):Int)
  let C:=zf.op o.1==[]
  let D:=zJ B (Io z.1.2)
  let u:=getD z.1.2 B.toNat (zi ze.sl)
  let E:=Ec (zm o.1) z.1.1.2.1 u
  let F:=[u]
  let G:=Γ Δ (B+1)
  br (Q0 (B<H))
  (Qc (cond C Q3 (D&&(wg (zm o.1) z.1.1.2.1 u&&mn E Q3))) (br (cond C Q3 (pA E Q3)) (Qc D (Qc (Q0 (Io u<=1073741824)) (Qc (Q0 (Io h+Io F<=1073741824)) (Q9 (Nf.h6 G z o (h++F)))))) (Q9 (Nf.h6 G z o h))))
  (re (tup [AV.vec 0,ai 0]) [AO.vec ze.sl h])
def ziz(h:Sem zh)(o:Sem Q5):=al [ze.sl.sl,zg] zsH 100000000 (zrZ h o)
def zjd:=FT [zh,Q5] [ze.sl.sl,zg] λx=>ziz x.1 x.2.1
theorem zeK:FK 11 zjd:=og.T1 (f:=Tryz.f11) (keep:=znv) (e:=zqr)
def zdv:=Vi.addL [(53,zkb),(26,zjI),(11,zjd)]
theorem GO:zw zdv:=og.addL<|fc zfO<|fc zfh<|fc zeK<|iz
end
noncomputable section
abbrev znG:Nat->aN:=λj=>if j=4 then{slots:=[3,8,9,10],prom:=[(9,Q2,(.sl ze))]}else{ }
inductive Nh where
 |h4 (l8:List (Sem ze.sl)) (i10:Int) (z0:zl [CP.d zq]) (lh_1:List (Sem ze.sl))
abbrev zqz:Nh->Nat×St
 |.h4 u o z h=>(4,⟨tm 42 [(3,Qf 0 0),(8,sl ze.sl u),(9,AV.vec 1),(10,ai o)],[Qa (bb [] [CP.d zq] z),AO.vec ze.sl h]⟩)
def zht(h:Sem zq)(u:Sem zh.sl)(z:Sem ze):Tr (Nh⊕aw):=
 let o:=(h.1,h.2.1,h.2.2.1,(h.2.2.2.1.1,h.2.2.2.1.2.1,h.2.2.2.1.2.2.1,h.2.2.2.1.2.2.2.1,h.2.2.2.1.t.1,zm h.2.2.2.1.t.2),h.t)
 Qc (OE o u z) (Q9 (Nh.h4 (XG o u z) 0 (h,()) []))
def zbI:Nh->Tr (Nh⊕aw)
 | .h4 u o z h=>
  let C:=(z.1.2.2.2.1.1,z.1.2.2.2.1.2.1,z.1.2.2.2.1.2.2.1,z.1.2.2.2.1.2.2.2.1,z.1.2.2.2.1.t.1,zm z.1.2.2.2.1.t.2)
  let B:=u.getD o.toNat (zi ze.sl)
  let D:=[B]
  let E:=Γ Δ (o+1)
  br (Q0 (o<(↑u.length:Int)))
  (Qc (zJ o (Io u)) (Qc (BI C B) (br (Ji C B==0) (Qc (zJ o (Io u)) (Qc (Q0 (Io h+Io D<=1073741824)) (Q9 (Nh.h4 u E z (h++D))))) (Q9 (Nh.h4 u E z h)))))
  (re (tup [AV.vec 0,ai (Γ Δ ((↑u.length:Int)-(↑h.length:Int)))]) [AO.vec ze.sl h])
def vV(h:Sem zq)(o:Sem zh.sl)(u:Sem ze):=al [ze.sl.sl,zg] zbI 100000000 (zht h o u)
def vU(h:Sem zq)(o:Sem zh.sl)(u:Sem ze):=(vV h o u).isSome
def Bw(h:Sem zq)(o:Sem zh.sl)(u:Sem ze):=o2 (vV h o u)
def zjG:=FT [zq,zh.sl,ze] [ze.sl.sl,zg] λx=>vV x.1 x.2.1 x.2.2.1
theorem zff:FK 25 zjG:=GO.T1 (f:=Tryz.f25) (keep:=znG) (e:=zqz)
def zdw:=zdv.add 25 zjG
theorem GP:zw zdw:=GO.add zff
end
noncomputable section
abbrev zsu:Nat->aN:=λj=>if j=4 then{slots:=[1,2,3,6,8,9,10],prom:=[(8,Q1 11,(.sl ze))]}else if j=8 then{slots:=[1,2,3,6,8,9,10,11,12]}else{ }
inductive RG where
 |h4 (l1:List (Sem zh)) (l2:List (Sem ze)) (i9:Int) (i10:Int) (z0:zl [CP.d zq]) (z1:zl xn) (z2:zl CH)
 |h8 (l1:List (Sem zh)) (l2:List (Sem ze)) (i9:Int) (i10:Int) (i12:Int) (z0:zl [CP.d zq]) (z1:zl xn) (z2:zl CH)
 |h8b (l1:List (Sem zh)) (l2:List (Sem ze)) (i9:Int) (i10:Int) (b11:Bool) (i12:Int) (z0:zl [CP.d zq]) (z1:zl xn) (z2:zl CH)
abbrev e9v:RG->Nat×St
 |.h4 B C u h D E z=>(4,⟨tm 63 [(1,sl zh B),(2,sl ze C),(3,Qf 0 0),(6,Qf 1 0),(8,Qf 2 0),(9,ai u),(10,ai h)],[Qa (bb [] [CP.d zq] D),Qa (bb [] xn E),Qa (bb [3] CH z),AO.vec ze.sl z.2.1]⟩)
 |.h8 B C u h o D E z=>(8,⟨tm 63 [(1,sl zh B),(2,sl ze C),(3,Qf 0 0),(6,Qf 1 0),(8,Qf 2 0),(9,ai u),(10,ai h),(11,kb Q4),(12,ai o)],[Qa (bb [] [CP.d zq] D),Qa (bb [] xn E),Qa (bb [3] CH z),AO.vec ze.sl z.2.1]⟩)
 |.h8b B C u h F o D E z=>(8,⟨tm 63 [(1,sl zh B),(2,sl ze C),(3,Qf 0 0),(6,Qf 1 0),(8,Qf 2 0),(9,ai u),(10,ai h),(11,AV.bool F),(12,ai o)],[Qa (bb [] [CP.d zq] D),Qa (bb [] xn E),Qa (bb [3] CH z),AO.vec ze.sl z.2.1]⟩)
def i9v(h:Sem zq)(o:Sem zh.sl)(u:Sem ze.sl):Tr (RG⊕aw):=
 Q9 (RG.h4 o u 0 0 (h,()) ([],0,[],0,0,[],[],()) (h.2.2.2.1,[],()))
def TG:RG->Tr (RG⊕aw)
 | .h4 l1 B D h z z1 z2=>
  let C:=((z2.1.1,z2.1.2.1,z2.1.2.2.1,z2.1.2.2.2.1,z2.1.t.1,zm z2.1.t.2),z2.2.1)
  let o:=OM C
  br (Q0 (h<(↑B.length:Int))) (Q9 (RG.h8 l1 B D h 0 z z1 z2))
  (Qc (Jn C) (re (tup [agg [str o.1.1,sl zj o.1.2.1,ai o.1.2.2.1,sl zg o.1.2.2.2.1,sl zp o.1.t.1,str (zf.op o.1.t.2),ai (zf.v o.1.t.2).1,ai (zf.v o.1.t.2).2.1,str (zf.v o.1.t.2).2.2,str (zf.s o.1.t.2),sl Q5 (zf.l o.1.t.2),
  sl ze.sl o.2],ai D]) []))
 | .h8 l1 B D h u z z1 z2=>
  let C:=B.getD u.toNat (zi ze)
  let o:=B.getD h.toNat (zi ze)
  let G:=(z.1.1,z.1.2.1,z.1.2.2.1,(z.1.2.2.2.1.1,z.1.2.2.2.1.2.1,z.1.2.2.2.1.2.2.1,z.1.2.2.2.1.2.2.2.1,z.1.2.2.2.1.t.1,zm z.1.2.2.2.1.t.2),z.1.t)
  let F:=Bw G l1 o
  br (Q0 (u<h))
  (Qc (zJ u (Io B)) (Qc (zJ h (Io B)) (Q9 (RG.h8b l1 B D h (C.1==o.1&&(C.2.1==o.2.1&&(C.2.2==o.2.2&&Q3))) (Γ Δ (u+1)) z z1 z2))))
  (Qc (zJ h (Io B)) (Qc (vU G l1 o) (Qc (Q0 (Io z2.2.1+Io F.1<=1073741824)) (Q9 (RG.h4 l1 B (Γ Δ (D+F.2)) (Γ Δ (h+1)) z z1 (z2.1,z2.2.1++F.1,()))))))
 | .h8b l1 B D h E u z z1 z2=>
  let C:=B.getD u.toNat (zi ze)
  let o:=B.getD h.toNat (zi ze)
  let G:=Γ Δ (h+1)
  let F:=(z.1.1,z.1.2.1,z.1.2.2.1,(z.1.2.2.2.1.1,z.1.2.2.2.1.2.1,z.1.2.2.2.1.2.2.1,z.1.2.2.2.1.2.2.2.1,z.1.2.2.2.1.t.1,zm z.1.2.2.2.1.t.2),z.1.t)
  let H:=Bw F l1 o
  br (Q0 (u<h))
  (Qc (cond E Q3 (zJ u (Io B)&&zJ h (Io B))) (Q9 (RG.h8b l1 B D h (cond E Q3 (C.1==o.1&&(C.2.1==o.2.1&&(C.2.2==o.2.2&&Q3)))) (Γ Δ (u+1)) z z1 z2)))
  (br E (Q9 (RG.h4 l1 B D G z z1 z2)) (Qc (zJ h (Io B)) (Qc (vU F l1 o) (Qc (Q0 (Io z2.2.1+Io H.1<=1073741824)) (Q9 (RG.h4 l1 B (Γ Δ (D+H.2)) G z z1 (z2.1,z2.2.1++H.1,())))))))
def vT(h:Sem zq)(o:Sem zh.sl)(u:Sem ze.sl):=al [zh,zg] TG 100000000 (i9v h o u)
def vS(h:Sem zq)(o:Sem zh.sl)(u:Sem ze.sl):=(vT h o u).isSome
def Bv(h:Sem zq)(o:Sem zh.sl)(u:Sem ze.sl):=o2 (vT h o u)
def F9v:=FT [zq,zh.sl,ze.sl] [zh,zg] λx=>vT x.1 x.2.1 x.2.2.1
theorem zlW:FK 9 F9v:=GP.T1 (f:=Tryz.f9) (keep:=zsu) (e:=e9v)
def zmx:=zdw.add 9 F9v
theorem Sv:zw zmx:=GP.add zlW
end
theorem lF{a b:Sem ze}(h:Io a.2.2<=1000000)(o:Io b.2.2<=1000000):lE a b=Q3:=by unfold lE;rw[D8 h o];rfl
theorem np{a b:Sem ze}(h:Io a.2.2<=1000000)(o:Io b.2.2<=1000000):oF a b=aX a b:=by unfold oF;rw[D8 h o];rfl
theorem XH(a b:Sem ze):I7 a b=Q3:=by unfold I7;rw[Mh];rfl
theorem zbl(a b:Sem ze):Hs a b=A3 a b:=by unfold Hs;rw[Mh];rfl
theorem zbn(a b:Sem ze):QH a b=Q3:=by unfold QH;rw[QI];rfl
theorem ziy(a b:Sem ze):S5 a b=YF a b:=by unfold S5;rw[QI];rfl
theorem XJ(a:Sem ze):Ja a=Q3:=by unfold Ja;rw[Mk];rfl
theorem zbm(a:Sem ze):Hu a=A4 a:=by unfold Hu;rw[Mk];rfl
theorem Eb{a b:Sem ze}(z:Io a.2.2<=1000000)(B:Io b.2.2<=1000000):qC a b=Q1 (!eW a b,()):=by
 unfold qC al dd;simp only[zdW,Q8,rQ z,rQ B,we z,we B,if_true,eW];generalize an a=x;generalize an b=y;obtain⟨k,n,s⟩:=x;obtain⟨C,E,F⟩:=y;simp only;by_cases h:k=0
 ·subst h;rfl
 ·have e:(k==0)=Q4:=by simpa using h
  have D:(k !=0)=Q3:=by simpa using h
  rw[e,D];by_cases u:C=0
  ·subst u;have o:(k==0)=Q4:=e;simp[o];rfl
  ·have o:(C==0)=Q4:=by simpa using u
   rw[o];rfl
theorem oI{a b:Sem ze}(h:Io a.2.2<=1000000)(o:Io b.2.2<=1000000):nr a b=Q3:=by unfold nr;rw[Eb h o];rfl
theorem rM{a b:Sem ze}(h:Io a.2.2<=1000000)(o:Io b.2.2<=1000000):rL a b=!eW a b:=by unfold rL;rw[Eb h o];rfl
theorem jA(b:Bool):dm b=yO b:=by
 unfold dm yO;rw[iS,lQ]
theorem D5{a b:Sem ze}(h:Io a.2.2<=1000000)(o:Io b.2.2<=1000000):qz a b=Q1 (km a b,()):=by
 unfold qz al dd;simp only[zdS,Q8,oI h o,rM h o,oH,ic,if_true,km,jA];cases eW a b<;>rfl
theorem OF{a b:Sem ze}(h:Io a.2.2<=1000000)(o:Io b.2.2<=1000000):vW a b=Q3:=by unfold vW;rw[D5 h o];rfl
theorem S2{a b:Sem ze}(h:Io a.2.2<=1000000)(o:Io b.2.2<=1000000):rI a b=km a b:=by unfold rI;rw[D5 h o];rfl
theorem KE{a b:Sem ze}(h:eW a b=Q3):aU a=Q3/\aU b=Q3/\a.1=b.1/\a.1≠0/\an a=a/\an b=b:=by
 unfold eW an at h;unfold an;cases o:aU a with
 |false=>simp[o]at h
 | true=>
  cases u:aU b with
  | false=>
   simp[o,u]at h
  | true=>
   simp[o,u]at h;exact⟨rfl,rfl,h.2,h.1,sw,sw⟩
theorem Hn{v:Sem ze}(h:aU v=Q3)(o:v.1≠0):(v.1=1/\v.2.2=[])\/(v.1=2/\v.2.1=0)\/(v.1=3/\v.2.2=[]):=by
 obtain⟨k,n,s⟩:=v;unfold aU at h;simp only at h o⊢;have e0:(k==0)=Q4:=by simpa using o
 rw[e0]at h;by_cases u:k=1
 ·subst u;exact .inl ⟨rfl,by simpa using h⟩
 ·have D:(k==1)=Q4:=by simpa using u
  rw[D]at h;by_cases z:k=2
  ·subst z;refine .inr (.inl ⟨rfl,?_⟩);simp at h;exact h.1
  ·have E:(k==2)=Q4:=by simpa using z
   rw[E]at h;by_cases B:k=3
   ·subst B;refine .inr (.inr ⟨rfl,?_⟩);cases C:(n==0)with
    |true=>simp[C]at h;exact h
    |false=>simp[C]at h;exact h.2
   ·have F:(k==3)=Q4:=by simpa using B
    rw[F]at h;cases h
theorem zaZ(k n u:Int)(s o:zD)(D:(s=[]/\o=[])\/(n=0/\u=0)):Q0 (FG [pR k k,jM n u,mU s o]<0)=(cond (Q0 (n<u)) Q3 (Op.bytesLess s o)):=by
 simp only[FG,pR,jM,mU];rcases D with⟨rfl,rfl⟩|⟨rfl,rfl⟩
 ·rcases Ck n u with h|h|h
  ·simp[h]
  ·subst h;simp[bR]
  ·have z:¬n<u:=by omega
   simp[h,z,bR]
 ·by_cases C:Op.bytesLess s o=Q3
  ·simp[C]
  ·by_cases B:s=o
   ·subst B;simp[bR]
   ·have z:(s==o)=Q4:=cd.2 B;simp[C,z]
theorem Ht{a b:Sem ze}(H:Io a.2.2<=1000000)(I:Io b.2.2<=1000000):vX a b=Q1 (tq a b,()):=by
 unfold vX al dd;simp only[zdT,Q8,oI H I,rM H I,oH,ic,if_true,tq,jA];cases G:eW a b with
 |false=>rfl
 | true=>
  obtain⟨M,O,E,F,S,T⟩:=KE G;have J:=Hn M F;have L:=Hn O (by rw[<-E];exact F);obtain⟨k,n,s⟩:=a;obtain⟨Y,o,B⟩:=b;simp only at E F J L;subst E;have W:(s=[]/\B=[])\/(n=0/\o=0):=by
   rcases J with⟨C,u⟩|⟨C,u⟩|⟨C,u⟩<;>rcases L with⟨D,z⟩|⟨D,z⟩|⟨D,z⟩<;>first|exact .inl ⟨u,z⟩|exact .inr ⟨u,z⟩|exact absurd (C.symm.trans D) (by decide)
  have X:Q0 (LT.lt (α:=Int) (aX (k,n,s) (k,o,B)) 0)=(cond (Q0 (n<o)) Q3 (Op.bytesLess s B)):=by
   unfold aX;rw[S,T];exact zaZ k n o s B W
  rw[X];by_cases h:n<o
  ·have e:Q0 (n<o)=Q3:=zx h;simp only[e];rfl
  ·have e:Q0 (n<o)=Q4:=aq h;simp only[e];rfl
theorem S3{a b:Sem ze}(h:Io a.2.2<=1000000)(o:Io b.2.2<=1000000):Bz a b=Q3:=by unfold Bz;rw[Ht h o];rfl
theorem XI{a b:Sem ze}(h:Io a.2.2<=1000000)(o:Io b.2.2<=1000000):yv a b=tq a b:=by unfold yv;rw[Ht h o];rfl
theorem S1{a b:Int}(z:-9223372036854775808<=a)(B:a<=9223372036854775807)(C:-9223372036854775808<=b)(D:b<=9223372036854775807):
  (cond (Q0 (b>0)) (cond (Q0 (a>Γ Δ (9223372036854775807-b))) Q3 (cond (Q0 (b<0)) (Q0 (a<Γ Δ (-9223372036854775808-b))) Q4)) (cond (Q0 (b<0)) (Q0 (a<Γ Δ (-9223372036854775808-b))) Q4))=
  (cond (Q0 (b>0)) (cond (Q0 (Γ Δ (a+b)<a)) Q3 (cond (Q0 (b<0)) (Q0 (Γ Δ (a+b)>a)) Q4)) (cond (Q0 (b<0)) (Q0 (Γ Δ (a+b)>a)) Q4)):=by
 rcases Ck b 0 with h|h|h
 ·have o:Q0 (b>0)=Q4:=aq ow;have u:Q0 (b<0)=Q3:=zx h;simp only[o,u,ao,af];rw[gr,gr];apply iY.2;rw[aQ,aQ];omega
 ·subst h;rfl
 ·have o:Q0 (b>0)=Q3:=zx h;have u:Q0 (b<0)=Q4:=aq ow;simp only[o,u,ao,af];have:Q0 (a>Γ Δ (9223372036854775807-b))=Q0 (Γ Δ (a+b)<a):=by
   rw[gr,gr];apply iY.2;rw[aQ,aQ];omega
  rw[this]
theorem On{a b:Int}(z:-9223372036854775808<=a)(B:a<=9223372036854775807)(C:-9223372036854775808<=b)(D:b<=9223372036854775807):
  (cond (Q0 (b>0)) (cond (Q0 (a<Γ Δ (-9223372036854775808+b))) Q3 (cond (Q0 (b<0)) (Q0 (a>Γ Δ (9223372036854775807+b))) Q4)) (cond (Q0 (b<0)) (Q0 (a>Γ Δ (9223372036854775807+b))) Q4))=
  (cond (Q0 (b>0)) (cond (Q0 (Γ Δ (a-b)>a)) Q3 (cond (Q0 (b<0)) (Q0 (Γ Δ (a-b)<a)) Q4)) (cond (Q0 (b<0)) (Q0 (Γ Δ (a-b)<a)) Q4)):=by
 rcases Ck b 0 with h|h|h
 ·have o:Q0 (b>0)=Q4:=aq ow;have u:Q0 (b<0)=Q3:=zx h;simp only[o,u,ao,af];rw[gr,gr];apply iY.2;rw[aQ,aQ];omega
 ·subst h;rfl
 ·have o:Q0 (b>0)=Q3:=zx h;have u:Q0 (b<0)=Q4:=aq ow;simp only[o,u,ao,af];have:Q0 (a<Γ Δ (-9223372036854775808+b))=Q0 (Γ Δ (a-b)>a):=by
   rw[gr,gr];apply iY.2;rw[aQ,aQ];omega
  rw[this]
theorem yz{a b:Sem ze}(h:kd a)(o:kd b):rK a b=Q1 (qS a b,()):=by
 unfold rK al dd;simp only[zdU,Q8,oI h.2.2 o.2.2,rM h.2.2 o.2.2,if_true,qS];rw[S1 h.1 h.2.1 o.1 o.2.1];cases(cond (!eW a b) Q3 (a.1!=1))
 ·cases(cond (Q0 (b.2.1>0)) (cond (Q0 (Γ Δ (a.2.1+b.2.1)<a.2.1)) Q3 (cond (Q0 (b.2.1<0)) (Q0 (Γ Δ (a.2.1+b.2.1)>a.2.1)) Q4)) (cond (Q0 (b.2.1<0)) (Q0 (Γ Δ (a.2.1+b.2.1)>a.2.1)) Q4))<;>rfl
 ·rfl
theorem Hv{a b:Sem ze}(h:kd a)(o:kd b):wa a b=Q3:=by unfold wa;rw[yz h o];rfl
theorem XK{a b:Sem ze}(h:kd a)(o:kd b):yx a b=qS a b:=by unfold yx;rw[yz h o];rfl
theorem D6{a b:Sem ze}(h:kd a)(o:kd b):qA a b=Q1 (mG a b,()):=by
 unfold qA al dd;simp only[zdV,Q8,oI h.2.2 o.2.2,rM h.2.2 o.2.2,if_true,mG];rw[On h.1 h.2.1 o.1 o.2.1];cases(cond (!eW a b) Q3 (a.1!=1))
 ·cases(cond (Q0 (b.2.1>0)) (cond (Q0 (Γ Δ (a.2.1-b.2.1)>a.2.1)) Q3 (cond (Q0 (b.2.1<0)) (Q0 (Γ Δ (a.2.1-b.2.1)<a.2.1)) Q4)) (cond (Q0 (b.2.1<0)) (Q0 (Γ Δ (a.2.1-b.2.1)<a.2.1)) Q4))<;>rfl
 ·rfl
theorem OG{a b:Sem ze}(h:kd a)(o:kd b):vY a b=Q3:=by unfold vY;rw[D6 h o];rfl
theorem S4{a b:Sem ze}(h:kd a)(o:kd b):rJ a b=mG a b:=by unfold rJ;rw[D6 h o];rfl
theorem AC(c:Int):nD c=Q1 (aL c,()):=by
 unfold nD al dd;simp only[zdN,Q8,aL];by_cases o:97<=c
 ·have h:Q0 (97<=c)=Q3:=zx o;have u:Q0 (c<=90)=Q4:=aq ow;have z:Q0 (65<=c)=Q3:=zx ow;simp[h,u,z];rfl
 ·have h:Q0 (97<=c)=Q4:=aq o;simp[h];rfl
theorem mq(c:Int):kU c=Q3:=by unfold kU;rw[AC];rfl
theorem oQ(c:Int):nC c=aL c:=by unfold nC;rw[AC];rfl
theorem Eu(c:Int):wn c=Q1 (zY c,()):=rfl
theorem eS(c:Int):fP c=Q3:=by unfold fP;rw[Eu];rfl
theorem fZ(c:Int):gQ c=zY c:=by unfold gQ;rw[Eu];rfl
theorem HF(c:Int):wo c=Q1 (bz c,()):=by
 unfold wo al dd;simp only[zdO,Q8,eS,fZ,mq,oQ,bz];cases zY c<;>cases aL c<;>rfl
theorem sa(c:Int):r9 c=Q3:=by unfold r9;rw[HF];rfl
theorem wq(c:Int):yD c=bz c:=by unfold yD;rw[HF];rfl
theorem LU(p:Int->Bool):∀s:zD,cR p s=Io s↔∀c∈s,p c.toNat=Q3
 |[]=>by simp[cR]
 | c::r=>by
  have u:=LU p r;rw[cR];by_cases h:p c.toNat=Q3
  ·rw[if_pos h];simp only[dU,bL,forall_eq_or_imp];constructor
   ·intro o;exact⟨h,u.1 ow⟩
   ·intro o;rw[u.2 o.2]
  ·rw[if_neg h];simp only[dU,bL,forall_eq_or_imp];exact⟨λo=>absurd o ow,λo=>absurd o.1 h⟩
theorem LW{c:Int}(h:aL c=Q3):bz c=Q3:=by
 unfold bz;rw[h];rfl
theorem Tv(s:zD):qU s=Q3↔(1<=Io s/\Io s<=16/\aL (getD s 0 0).toNat=Q3/\∀c∈s,bz c.toNat=Q3):=by
 unfold qU;cases s with
 |nil=>simp
 | cons c r=>
  have E:Q0 (((c::r).length:Int)>=1)=Q3:=zx sg;rw[E];by_cases h:(c::r).length<=16
  ·have B:Q0 (((c::r).length:Int)<=16)=Q3:=zx ow;rw[B];simp only[af];have D:=LU bz r;by_cases u:aL c.toNat=Q3
   ·have C:aP aL bz (c::r)=cR bz r+1:=by rw[aP,if_pos u]
    rw[C];constructor
    ·intro o;have:cR bz r=Io r:=by simp at o;omega
     refine⟨sw,h,u,?_⟩;intro x z;rcases bL.1 z with rfl|z
     ·exact LW u
     ·exact D.1 this x z
    ·rintro⟨_,_,_,F⟩;have:=D.2 (λx z=>F x (mO _ z));simp[this]
   ·have C:aP aL bz (c::r)=0:=by rw[aP,if_neg u]
    rw[C];constructor
    ·intro o;simp at o;omega
    ·rintro⟨_,_,o,_⟩;exact absurd o u
  ·have B:Q0 (((c::r).length:Int)<=16)=Q4:=aq ow;rw[B];simp only[af,ao];exact⟨λh=>(by cases h),λo=>absurd o.2.1 h⟩
theorem HE{s:zD}(L:Io s<=1000000):BO s=Q1 (ei s,()):=by
 have I:=mI (t:=wN) (Φ:=λr=>r=(.kb Q4,[])) 1 (λi=>.h2 s (i:Int)) (λi=>bz (getD s i 0).toNat=Q3) (Io s) (by
  intro i u _;have F:(wN (.h2 s (i:Int))).val=if(!bz (getD s i 0).toNat)=Q3 then Q1 (.inr (.kb Q4,[]))else Q1 (.inl (.h2 s ((i+1:Nat):Int))):=by
   show(wN (.h2 _ _)).val=_;unfold wN;simp only[Q8,zF u,zt u,aD,sa,wq,if_true];rw[zr i um]
  by_cases h:bz (getD s i 0).toNat=Q3
  ·exact .inl ⟨h,zL.of (by rw[F,if_neg (by rw[h];simp)])⟩
  ·exact .inr ⟨h,_,zV.of (by rw[F,if_pos (by simpa using h)]),rfl⟩)
 have u:(zdM s).val=Q1 (.inl (.h2 s ((0:Nat):Int))):=rfl;have E:=az (l:=s) (d:=0) (Q:=λc=>bz c.toNat=Q3);have G:=Tv s;rcases I with⟨B,C⟩|⟨B,r,C,rfl⟩
 ·refine zy u (C.ends (zV.of (r:=(.bool (ei s),[])) ?_)) ow rfl;show(wN (.h2 _ _)).val=_;unfold wN;simp only[Q8,zB,mq,oQ];have e:ei s=(cond (Q0 (1<=(Io s:Int))) (cond (Q0 ((Io s:Int)<=16)) (aL (getD s (toNat 0) 0).toNat) Q4) Q4):=by
   apply iY.2;unfold ei;rw[G];by_cases D:1<=Io s
   ·have o:Q0 (1<=(Io s:Int))=Q3:=zx ow;rw[o];by_cases H:Io s<=16
    ·have z:Q0 ((Io s:Int)<=16)=Q3:=zx ow;rw[z];exact⟨λh=>h.2.2.1,λh=>⟨D,H,h,E.1 B⟩⟩
    ·have z:Q0 ((Io s:Int)<=16)=Q4:=aq ow;rw[z];exact⟨λh=>absurd h.2.1 H,λh=>(by cases h)⟩
   ·have o:Q0 (1<=(Io s:Int))=Q4:=aq ow;rw[o];exact⟨λh=>absurd h.1 D,λh=>(by cases h)⟩
  rw[e];by_cases D:1<=Io s
  ·have e0:zJ 0 (Io s)=Q3:=zt (i:=0) ow;rw[e0];cases Q0 (1<=(Io s:Int))<;>cases Q0 ((Io s:Int)<=16)<;>rfl
  ·have o:Q0 (1<=(Io s:Int))=Q4:=aq ow;rw[o];rfl
 ·have e:ei s=Q4:=by
   cases J:ei s with
   |false=>rfl
   |true=>exact absurd (E.2 (G.1 J).2.2.2) B
  rw[e];exact zy u C ow rfl
theorem yC{s:zD}(h:Io s<=1000000):wm s=Q3:=by unfold wm;rw[HE h];rfl
theorem Et{s:zD}(h:Io s<=1000000):uw s=ei s:=by unfold uw;rw[HE h];rfl
noncomputable def yJ:List zD:=match(VJ []).val with
 |some (.inl (.h3 _ l _))=>l
 |_=>[]
theorem X2:Io yJ=38:=kw
theorem X3:(yJ.all λw=>(Ff.map (·.1)).contains w)=Q3:=kw
theorem X4:(Ff.all λw=>yJ.contains w.1)=Q3:=kw
theorem Pe:(Ff.all λw=>w.2)=Q3:=kw
theorem Rc(s:zD):∀l:List (zD×Bool),(l.all λw=>w.2)=Q3->(Rb s l Q4=Q3↔s∈l.map (·.1))
 |[],_=>by simp[Rb]
 | (w,b)::r,h=>by
  simp only[List.all_cons,aE]at h;obtain⟨rfl,h⟩:=h;rw[Rb];by_cases e:(s==w)=Q3
  ·have:s=w:=bG e;rw[if_pos e];simp[this]
  ·rw[if_neg e,Rc s r h];have:s≠w:=λh=>e (by rw[h];simp)
   simp[this]
theorem QV(s:zD):jw s=Q3↔s∈yJ:=by
 unfold jw;rw[Rc s Ff Pe];constructor
 ·intro h;obtain⟨w,o,rfl⟩:=bd.1 h;have:=ep.1 X4 w o;simpa using this
 ·intro h;have:=ep.1 X3 s h;simpa using this
theorem MC(s:zD):Jv s=Q1 (jw s,()):=by
 have H:=X2;have G:=mI (t:=EW) (Φ:=λr=>r=(.kb Q3,[])) 1 (λi=>.h3 s yJ (i:Int)) (λi=>getD yJ i (zi Q6)≠s) (Io yJ) (by
  intro i u _;have E:(EW (.h3 s yJ (i:Int))).val=if(getD yJ i (zi Q6)==s)=Q3 then Q1 (.inr (.kb Q3,[]))else Q1 (.inl (.h3 s yJ ((i+1:Nat):Int))):=by
   show(EW (.h3 _ _ _)).val=_;unfold EW;simp only[Q8,zF u,zt u,aD,if_true];rw[zr i um]
  by_cases h:getD yJ i (zi Q6)=s
  ·exact .inr ⟨λo=>o h,_,zV.of (by rw[E,if_pos (by rw[h];simp)]),rfl⟩
  ·exact .inl ⟨h,zL.of (by rw[E,if_neg (λo=>h (bG o))])⟩)
 have u:(VJ s).val=Q1 (.inl (.h3 s yJ ((0:Nat):Int))):=rfl;have D:=az (l:=yJ) (d:=zi Q6) (Q:=λw=>w≠s);rcases G with⟨B,o⟩|⟨B,r,o,rfl⟩
 ·have e:jw s=Q4:=by
   cases z:jw s with
   |false=>rfl
   |true=>exact absurd rfl (D.1 B s ((QV s).1 z))
  rw[e];refine zy u (o.ends (zV.of (r:=(.kb Q4,[])) ?_)) ow rfl;show(EW (.h3 _ _ _)).val=_;unfold EW;simp only[Q8,zB];rfl
 ·have e:jw s=Q3:=by
   cases z:jw s with
   |true=>rfl
   |false=>exact absurd (D.2 λw F C=>by rw[C]at F;rw[(QV s).2 F]at z;cases z) B
  rw[e];exact zy u o ow rfl
theorem MB(s:zD):Ew s=Q3:=by unfold Ew;rw[MC];rfl
theorem QN(s:zD):MA s=jw s:=by unfold MA;rw[MC];rfl
theorem HG{s:zD}(h:Io s<=1000000):wt s=Q1 (zQ s,()):=by
 unfold wt al dd;simp only[znp,Q8,yC h,Et h,MB,QN,zQ];cases ei s<;>rfl
theorem bB{s:zD}(h:Io s<=1000000):dQ s=Q3:=by unfold dQ;rw[HG h];rfl
theorem fb{s:zD}(h:Io s<=1000000):bv s=zQ s:=by unfold bv;rw[HG h];rfl
end Cad
