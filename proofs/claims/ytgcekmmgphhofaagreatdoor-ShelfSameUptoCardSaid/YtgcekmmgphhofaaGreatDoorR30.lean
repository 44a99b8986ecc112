/- Units. -/
import Derived.Test.YtgcekmmgphhofaaGreatDoorR29
namespace Cad
open Go Go.Proofs Go.Sort Tryz
open List renaming length->M
open IntKind renaming wrap->Γ,i64->Δ
open Tr renaming val->Q9
open Bool renaming true->Z
open Option renaming some->Y
open Decidable renaming decide->L
open Int renaming toNat->T
open List renaming getD->W
open Tr (chk br re)
open AV (nils agg tup ptr kb)
open AV renaming sl->O,str->X
open Cad renaming ze->Q,ow->S,Sem->N,ai->I,AV->R,Tr->K
set_option maxHeartbeats 4000000
set_option maxRecDepth 100000
noncomputable section
theorem Wy:∀l:List Value,M l=46->∃v0 v1 v2 v3 v4 v5 v6 v7 v8 v9 v x a b c d e g j m v20 n o q s u w y z A C D E F G H P U h0 h1 h2 h3 h4 h5 h6 h7,l=[v0,v1,v2,v3,v4,v5,v6,v7,v8,v9,v,x,a,b,c,d,e,g,j,m,v20,n,o,q,s,u,w,y,z,A,C,D,E,F,G,H,P,U,h0,h1,h2,h3,h4,h5,h6,h7]:=by
 intro l h
 match l,h with
 |v0::v1::v2::v3::v4::v5::v6::v7::v8::v9::v::x::a::b::c::d::e::g::j::m::v20::n::o::q::s::u::w::y::z::A::C::D::E::F::G::H::P::U::h0::h1::h2::h3::h4::h5::h6::h7::[],_=>exact⟨v0,v1,v2,v3,v4,v5,v6,v7,v8,v9,v,x,a,b,c,d,e,g,j,m,v20,n,o,q,s,u,w,y,z,A,C,D,E,F,G,H,P,U,h0,h1,h2,h3,h4,h5,h6,h7,rfl⟩
theorem Sx(n:Int)(w:World)(v0 v1 v2 v3 v4 v5 v6 v7 v8 v9 v x b c d g j l m o q s u y z A C D E F G H P U h0 h1 h2 h3 h4 h5 h6 h7 h8 h9:Value):
  BQ.wp prog (λe a w'=>e=.exit 0/\w'=w/\∃h:List Value,a=⟨h.toArray,[]⟩/\M h=46/\h[6]?=Y v6) {tmps:=#[v0,v1,v2,v3,v4,v5,v6,v7,v8,v9,v,x,b,c,d,g,j,l,m,(Value.int .i64 n),(Value.int .i64 n),o,q,s,u,y,z,A,C,D,E,F,G,H,P,U,h0,h1,h2,h3,h4,h5,h6,h7,h8,h9],defers:=[]} w:=by
 simp only[BQ,f124]
 go_wp2
theorem zqA:f124.results=#[.tmp 4]:=kw
variable {w:World}{h:Value}
theorem SV{tmps:Array Value}(x:tmps[4]?=Y h):(results f124 tmps).run prog w=.ok h w:=by
 have a:tmps.getD 4 undef=h:=by rw[oD,x];rfl
 rw[CE,zqA];simp[CC,a]
theorem WT:cd (0,0,[])=.agg #[.int .i64 0,.int .i64 0,.string ⟨#[]⟩]:=rfl
theorem zaD{U:Nat->Prop}{base:Nat}(hU:∀b,U b->b<base){l:List V3}[Inhabited V3](F:∀x∈l,ez x.1)(h1:M l<=1000){m:List V3}(hp:List.Perm m l)(y:w.ownsRow base 42 3 h (M l) (m.flatMap jx)):
  Rv w U (λ_=>none) (.sl Q (m.map (·.1))) h:=by
 have E:M m=M l:=hp.length_eq;rcases y.2 with⟨rfl,h0⟩|⟨g,A,o,rfl,h2,u,h4,h3,C,G⟩
 .have:m=[]:=List.length_eq_zero_iff.1 S;rw[this];exact .sl0 Q _ _
 .have hL:(m.map (·.1)).length=M l:=by simp[E]
  rw[<-hL];refine .sl Q _ g 0 A (λi j=>(o[i*3+j]?).getD undef) S um (dq.1 u).1 (λa=>by have:=hU g a;omega) (λi j P z=>?_) (λi P j c d=>?_)
  .have z:j<3:=z;have D:i*3+j<o.size:=by rw[C];omega
   simp[World.cell?,u,oP D,show ze.size=3 from rfl]
  .have v:i<M m:=by simpa using P
   have z:j<3:=by
    have:=(cQ.1 d).1
    rwa [zS]at this
   have H:=tq m (i*3+j) S;rw[show(i*3+j)/3=i by omega,show(i*3+j)%3=j by omega,<-G,List.getElem?_take_of_lt S,lx,getElem!_pos m i v]at H;rw[H];simp only[cD];have e:=F m[i] (hp.mem_iff.1 (bN v));simp only[List.getElem_map]at d;generalize m[i]=x at d e;have⟨⟨k,n,s⟩,hx⟩:=x
   match j,z,d with
   |0,_,d=>cases d;exact .int _ _ e.1
   |1,_,d=>cases d;exact .int _ _ e.2.1
   |2,_,d=>cases d;exact .str _ e.q
theorem za7{E:bS}(qp:E.P=prog){C:eS}(hC:∀id,C.ρ0 id=none)(es:List ((Int×Int×zD)×Int))(x6:M es<=1000)(hn:(es.map (·.1)).Nodup) (hm:∀p∈es,aP p.1=Z) (x5:zy) (j3:List (N ze.sl)) (n:Int):
  Reach E C 124 (zZ f124 4) (Mi (.h4 x5 j3 n n es)).2 (λr h=>bc h [ze.sl] r=Y (qR (es.map (·.1)),())):=by
 intro b cs a w U ρ x2 a5 hc H;rw[qp];rw[zhe];have z:a.tmps.toList.length=46:=by rw[<-hc.tm.len];rfl
 have⟨⟨ts⟩,df⟩:=a;have h7:df=[]:=hc.df;subst h7;obtain⟨v0,v1,v2,v3,v4,v5,v6,v7,v8,v9,v10,v11,v12,v13,v14,v15,v16,v17,v18,v19,v20,v21,v22,v23,v24,v25,v26,v27,v28,v29,v30,v31,v32,v33,v34,v35,v36,v37,v38,v39,v40,v41,v42,v43,v44,v45,rfl⟩:=Wy ts z;have r6:=hc.tm.rv 6 (.mp 0) v6 rfl rfl;have j4:=hc.tm.rv 19 (I n) v19 rfl rfl;have j5:=hc.tm.rv 20 (I n) v20 rfl rfl;have ho:aW w U ρ 0 (.vmap Z es):=hc.hp.ob 0;have a6:=hc.hp.blk 0;clear z;cases j4 with|int _ _ _=>
 cases j5 with|int _ _ _=>
 have⟨r,ents,o,q1,q2,q3,q4,q5,q6⟩:=ho;cases r6 with|mp _ _ q7 _=>
 rw[q1]at q7;cases q7;have i4:C.B0 r\/C.w0.heap.size<=r:=a6 r ⟨rfl,_,q1,rfl⟩;have⟨c,A,x4,h6,x3⟩:=ZQ (P:=prog) (mt:=246) (kt:=42) (et:=247) underlying246 kw (k:=(0,0,[])) ⟨by unfold bq;decide,by unfold bq;decide,zU _⟩ q3 q4 q5 q6;rw[WT]at A;have i5:r<w.heap.size:=(dq.1 q3).1;obtain⟨G,u⟩:∃G:World,({w with heap:=w.heap.setIfInBounds r (.map c o)}:World)=G:=⟨_,rfl⟩;rw[u]at A;have hs1:G.heap.size=w.heap.size:=by rw[<-u];simp
 have i2:G.heap[r]?=Y (.map c o):=by rw[<-u];simp[i5]
 have i3:∀j,j≠r->G.heap[j]?=w.heap[j]?:=λj F=>by rw[<-u];simp[Array.getElem?_setIfInBounds_ne (Ne.symm F)]
 have x7:=KI x4;have a7:((uS es (0,0,[])).map (·.1)).Nodup:=hn.sublist ((Jg _ _).map _);have a8:=Jg es (0,0,[]);have hk:∀x∈c.toList,∃k,x.key=cd k/\k∈(uS es (0,0,[])).map (·.1):=λx y=>by
  have:x.key∈c.toList.map (·.key):=aN.2 ⟨x,y,rfl⟩;rw[x7]at this;have⟨k,k1,k2⟩:=aN.1 this;exact⟨k,k2.symm,k1⟩
 have a0:c.size<=1000:=by
  have:=congrArg M x7;simp only[bR,Array.length_toList]at this;rw[this];exact aB a8.length_le x6
 have hinh:Inhabited V3:=⟨⟨(0,0,[]),kw⟩⟩;have m:∀x:zw,x∈(uS es (0,0,[])).map (·.1)->aP x=Z/\ez x/\x.1≠0:=λx y=>by
  have⟨j1,j2⟩:=(AK (0,0,[]) hn x).1 y;obtain⟨p,s,rfl⟩:=aN.1 j1;exact⟨hm p s,(q5 p s).2,λh0=>j2 (Kt (hm p s) h0)⟩
 obtain⟨e1,a1,wx,⟨rfl,rfl,ts,rfl,i8,i7⟩,x1⟩:=Sx n w v0 v1 v2 v3 v4 v5 (.map (Y r)) v7 v8 v9 v10 v11 v12 v13 v14 v15 v16 v17 v18 v21 v22 v23 v24 v25 v26 v27 v28 v29 v30 v31 v32 v33 v34 v35 v36 v37 v38 v39 v40 v41 v42 v43 v44 v45 b [.inLoop BQ,.inBlock 0,.code CD] cs;have j6:=x1 [.code CD] rfl;obtain⟨u0,u1,u2,u3,u4,u5,u6,u7,u8,u9,j7,j8,j9,k3,k4,k5,k6,k7,k8,k9,l0,l1,l2,l3,l4,l5,l6,l7,l8,l9,m3,m4,m6,m7,m8,m9,n1,n2,n3,n4,n5,n6,n7,n8,n9,u45,rfl⟩:=Wy ts i8;have i9:u6=.map (Y r):=by simpa using i7
 subst i9
 obtain⟨e2,a2,w',⟨rfl,v,j0,h7,hK⟩,h5⟩:=za9 (λe a w'=>e=.ret/\∃v,a.tmps[4]?=Y v/\a.defers=[]/\Zk G c v w') (Zk G c) r c o wx G A i2 h6 x3 (λx y=>(hk x y).imp λ_ h=>h.1) a0
  (λv wr seen E hC h0=>Rm hC h0 (λp s=>by
   have⟨s1,s2⟩:=hC.sub p s;have⟨k,k1,k2⟩:=hk _ s1;rw[s2]at k1;exact o9 k1▸(m k k2).1) a0) (λv w' a hS h4 hd=>⟨rfl,v,h4,hd,hS⟩) u0 u1 u2 u3 u4 u5 u7 u8 u9 j7 j8 j9 k3 k4 k5 k6 k7 k8 k9 l0 l1 l2 l3 l4 l5 l6 l7 l8 l9 m3 m4 m6 m7 m8 m9 n1 n2 n3 n4 n5 n6 n7 n8 n9 u45 b [] cs
 have⟨a3,i6⟩:=h5;have⟨E,l,h9,a4,nd,hl,x8,d⟩:=hK;have h8:=Sq x4 a7 (λp s=>(m _ (aN.2 ⟨p,s,rfl⟩)).1) (λp s=>(m _ (aN.2 ⟨p,s,rfl⟩)).q) h9 a4 nd x3 hl;have x0:qR ((uS es (0,0,[])).map (·.1))=qR (es.map (·.1)):=rz (λx y=>(m x y).1) (λx y=>by obtain⟨p,s,rfl⟩:=aN.1 y;exact hm p s) λx y=>by
  rw[AK (0,0,[]) hn x];exact⟨λh=>h.1,λh=>⟨h,λe=>y (by rw[e])⟩⟩
 have i0:∀x∈l,ez x.1:=λx y=>by
  have:x.1∈E.map (·.1):=by rw[<-hl];exact aN.2 ⟨x,y,rfl⟩
  have⟨p,s,e⟩:=aN.1 this;have⟨s1,s2⟩:=h9 p s;have⟨k,k1,k2⟩:=hk _ s1;rw[s2]at k1;rw[<-e];exact o9 k1▸(m k k2).2.1
 have i1:M l<=1000:=by
  have h1:M l=M E:=by simpa using congrArg M hl
  have h2:(E.map λp=>p.2.born).length<=(c.toList.map (·.born)).length:=Ky nd λx y=>by
   obtain⟨p,s,rfl⟩:=aN.1 y;exact aN.2 ⟨p.2,(h9 p s).1,rfl⟩
  simp only[bR,Array.length_toList]at h2;omega
 have h3:∀j,j<wx.heap.size->j≠r->w'.heap[j]?=wx.heap[j]?:=λj F a9=>by rw[d.block j S,i3 j a9]
 have D:wx.heap.size<=w'.heap.size:=by have:=d.size;omega
 have x9:=zaD (U:=U) (base:=G.heap.size) (λb hb=>by have:=H.ub b hb;omega) i0 i1 (List.mergeSort_perm l _) x8;rw[h8,x0]at x9;refine⟨.returned v,w',{b.at a2 a3 with mode:=.returning},⟨v,.sl Q (qR (es.map (·.1))),[],U,λ_=>none,rfl,?_,x9,⟨λid=>by simp[aW],λ_ _ _ h=>by simp[zY]at h,λ_ _ h=>by simp[zY]at h⟩,λ_ _=>rfl,λid v h=>(by rw[hC id]at h;cases h),?_⟩,kH j6 i6,x2,rfl,h7,a5,f124,?_,SV j0⟩
 .rfl
 .refine⟨H.ext.trans ⟨D,?_,?_,?_⟩,λj F hB=>?_,λj F=>cM (H.ub j F) D,H.u1,H.u2,λg=>(H.gl g).mono D (λj F hu=>h3 j F λe=>hu (e▸q2)) (λ_ _ h=>h) (λ_ _ h=>h)⟩
  .rw[d.os,<-u]
  .rw[d.output,<-u]
  .rw[d.tape,<-u]
  .rw[h3 j (cM F H.ext.sz) λe=>i4.elim (λh=>hB (e▸h)) (λh=>by omega)];exact H.same j F hB
 .show prog.funcs[b.fn]?=Y f124;rw[x2];kernel_rfl
theorem Cz{j:Type}{E:bS}{C:eS}{k:FuncId}{f:Func}{Q:R->List AO->Prop}{m n0:Nat}(c:zm E)(d:zJ E.P k f m)(b:∀id,n0<=id->C.ρ0 id=none){keep:Nat->aR}{gas:Nat}{e:j->Nat×St}{K:List Item}{a:St}{i:Tr (j⊕ac)}
  (x:run E n0 keep f.results.toList gas K a=i.map (lf f e)) {s:j} (g:i.val=Y (.inl s)) (h:Reach E C k (zZ f (e s).1) (e s).2 Q):Reach E C k K a Q:=
 mL c d b (l:=lf f e (.inl s)) (by rw[x,Tr.val_map,g];rfl) h
def Ii(a:an)(x:zH):zo:=(W x 0 (zk zl)).2.map λh:zo=>W h (T (fu a x)) (zk Q)
def FL(a:an)(x:zH):Bool:=qJ a x&&(zT 0 (M x)&&(L (M (W x 0 (zk zl)).2<=1000)&&List.all (W x 0 (zk zl)).2 λh:zo=>zT (fu a x) (M h)&&aP (W h (T (fu a x)) (zk Q))))
def fC(x:an)(h:zH):zo:=qR (Ii x h)
def zj0:=ae [ao,zl.sl] [ze.sl] (λx=>FL x.1 x.2.1) λx=>(fC x.1 x.2.1,())
theorem FR{k:Int×Int×zD}{n:Int}:∀{es:List ((Int×Int×zD)×Int)},(kg es k n).map (·.1)=if k∈es.map (·.1)then es.map (·.1)else es.map (·.1)++[k]
 |[]=>rfl
 | p::r=>by
  show(cond (k==p.1) ((k,n)::r) (p::kg r k n)).map (·.1)=_;by_cases h:k=p.1
  .simp[h]
  .have a:(k==p.1)=false:=by simpa using h
   rw[a,bT,dc,FR (es:=r),dc];by_cases x:k∈r.map (·.1)
   .rw[zf x,zf (by simp only[bD];exact .inr x)]
   .rw[zh x,zh (by simp only[bD];exact λe=>e.elim h x)];rfl
theorem zak{x:an}{d:zH}(h:qJ x d=Z)(a:zT 0 (M d)=Z):(zhk x d).val=Y (.inl (.h4 (fu x d) (W d 0 (zk zl)).2 (M (W d 0 (zk zl)).2:Int) 0 [])):=by unfold zhk;simp only[zt];show(chk (qJ x d) (chk (zT 0 (M d)) _)).val=_;rw[h,a];rfl
theorem ze2:FK 124 zj0:=by
 refine aH (E:=xn) (f:=f124) (bG kw) λx y C D=>?_
 have⟨j,d,u⟩:=x;have hf:zJ xn.P 124 f124 2:=bG kw;have G:∀x,run xn 0 zdJ f124.results.toList 400 (aK f124) (aC f124.ntmps (gX [Y ao,Y zl.sl] x) [])=(zhk x.1 x.2.1).map (lf f124 Mi):=by intro x;kernel_rfl
 have U:∀s,run xn 0 zdJ f124.results.toList 400 (zZ f124 (Mi s).1) (Mi s).2=(zqO s).map (lf f124 Mi):=by intro s;cases s<;>kernel_rfl
 simp only[FL,ar,aT,dg]at y;have⟨h1,h2,h3,A⟩:=y;generalize o:(W d 0 (zk zl)).2=rows at h3 A;refine Cz vP hf (λid _=>D id) (G (j,d,u)) (zak h1 h2) ?_;rw[o]
 have h0:∀(m i:Nat)(g:List ((Int×Int×zD)×Int)),M rows-i=m->i<=M rows->(g.map (·.1)).Nodup->M g<=i->(∀x,x∈g.map (·.1)↔x∈(rows.take i).map λq:zo=>W q (T (fu j d)) (zk Q))->
   Reach xn C 124 (zZ f124 (Mi (.h4 (fu j d) rows (M rows) i g)).1) (Mi (.h4 (fu j d) rows (M rows) i g)).2 λr h=>bc h [ze.sl] r=Y (fC j d,()):=by
  intro m
  induction m with
  | zero=>
   intro i g hm hi z hl c;obtain rfl:i=M rows:=by omega
   rw[jg]at c;have l:∀x,x∈(rows.map λq:zo=>W q (T (fu j d)) (zk Q))->aP x=Z:=λx y=>by
    obtain⟨q,hr,rfl⟩:=aN.1 y;exact(A q hr).2
   have:=za7 (E:=xn) rfl D g S z (λp hp=>l _ ((c _).1 (aN.2 ⟨p,hp,rfl⟩))) (fu j d) rows (M rows);have e:fC j d=qR (g.map (·.1)):=by
    unfold fC Ii;rw[o];exact rz l (λx y=>l x ((c x).1 y)) λx _=>(c x).symm
   rw[e];exact this
  | succ m ih=>
   intro i g hm hi z hl c;have v:i<M rows:=by omega
   have F:=A rows[i] (bN v);have H:=FR (k:=W rows[i] (T (fu j d)) (zk Q)) (n:=0) (es:=g);refine Cz vP hf (λid _=>D id) (U (.h4 (fu j d) rows (M rows) i g)) (s:=.h4 (fu j d) rows (M rows) ((i+1:Nat):Int) (kg g (W rows[i] (T (fu j d)) (zk Q)) 0)) ?_ (ih (i+1) _ S S ?_ ?_ ?_)
   .have e1:L ((i:Int)<(M rows:Int))=Z:=by simpa using v
    have e2:zT (i:Int) (M rows)=Z:=by simp[zT];omega
    have e3:Γ Δ ((i:Int)+1)=((i+1:Nat):Int):=by
     exact zz i um
    have e4:W rows (T (i:Int)) (zk ze.sl)=rows[i]:=aa rows _ v;simp only[zqO,e1,e2,e3,e4,F.1,Q9,zj]
   .rw[H];split
    .exact z
    next w=>exact List.nodup_append.2 ⟨z,sw,λa ha b hb e=>w (by rw[eh]at hb;rw[<-hb,<-e];exact ha)⟩
   .have:=congrArg M H;simp only[bR]at this;rw[this];split
    .simp;omega
    .simp;omega
   .intro x;rw[H,List.take_succ_eq_append_getElem v,fx,bX,<-c x];simp only[dc,oU,eh];split
    next w=>exact⟨.inl,λh=>h.elim id λe=>e▸w⟩
    .rw[bX,eh]
 exact h0 (M rows) 0 [] S S sw sw sw
def zdn:=xn.add 124 zj0
theorem EV:zm zdn:=vP.add ze2
open Go Go.Proofs
def znx(x:an)(h:N zl.sl):K (Empty⊕ac):=
 let a:=(x.1,x.2.1,x.q.1,(x.r.1.1,x.r.1.2.1,x.r.1.q.1,x.r.1.r.1,x.r.1.t.1,zP x.r.1.u),x.t)
 chk (xF a h)
 (br (KE a h !=0) (re (tup [nils,I 1]) [])
  (chk (FL a h) (re (tup [O Q (fC a h),I 0]) [])))
def Ih(x:an)(h:N zl.sl):=aA [ze.sl,zi] t0 100000000 (znx x h)
def N0(x:an)(h:N zl.sl):=(Ih x h).isSome
def Ym(x:an)(h:N zl.sl):=o2 (Ih x h)
def zjl:=FT [ao,zl.sl] [ze.sl,zi] λx=>Ih x.1 x.2.1
theorem zek:FK 76 zjl:=EV.T1 (f:=f76) (keep:=k0) (e:=e0)
inductive zvU where
 |h3 (l0:da) (i4:Int) (ja0:List UInt8) (ja1:aU) (ja2:Int) (ja5:List UInt8) (ja6:Int) (ja7:Int) (ja8:List UInt8) (ja9:List UInt8)
 |h3b (l0:da) (i4:Int) (ja0:List UInt8) (ja1:aU) (ja2:Int) (ja5:List UInt8) (ja6:Int) (ja7:Int) (ja8:List UInt8) (ja9:List UInt8) (lh_1:List (N ze.sl))
def zdq:=zdn.addL [(76,zjl)]
theorem R5:zm zdq:=EV.addL<|fc zek<|ip
def O0:=zdq
theorem vQ:zm O0:=R5
def Gy:bS:={O0 with sh:=λt=>if t=2 then Y (.int .i64)else O0.sh t}
theorem nu:zm Gy where
 sh:=λt e h=>by
  have x:(ite (t=2) (Y (.int .i64)) (O0.sh t))=Y e:=h;split at x
  next a=>subst a;cases x;exact pL kw
  .exact vQ.sh t e x
 fs:=vQ.fs
 mix:=vQ.mix
def zkF:zV:=au (List.replicate 1 none) (eJ Gy f181 (List.replicate 1 none))
theorem zfL:FK 181 zkF:=bM _ nu (bG kw)
def zkL:zV:=au (List.replicate 3 none) (eJ Gy f356 (List.replicate 3 none))
theorem zfR:FK 356 zkL:=bM _ nu (bG kw)
inductive TN where
 |h2 (l0:zo) (i7:Int) (i8:Int) (z0:zn [CP.d Q])
def znO(x:N ze.sl)(h:zw):K (TN⊕ac):=
 Tr.to (TN.h2 x (M x:Int) 0 (h,()))
def S9:TN->K (TN⊕ac)
 | .h2 l x h z=>
  let a:=l.getD h.toNat (zk Q)
  br (L (h<x))
  (chk (zT h (M l)) (br (z.1.1==a.1&&(z.1.2.1==a.2.1&&(z.1.q==a.q&&Z))) (re (I h) []) (Tr.to (TN.h2 l x (Γ Δ (h+1)) z))))
  (re (I (-1)) [])
def Yq(x:N ze.sl)(h:zw):=aA [zi] S9 100000000 (znO x h)
def Yp(x:N ze.sl)(h:zw):=(Yq x h).isSome
def ziY(x:N ze.sl)(h:zw):=o1 (Yq x h)
abbrev znZ:=fZ [(4,[0,1,5])]
inductive QG where
 |h4 (l0:zo) (l1:zo) (i5:Int)
abbrev zrE:QG->Nat×St
 |.h4 l x h=>(4,⟨tm 26 [(0,O Q l),(1,O Q x),(5,I h)],[]⟩)
def zah(x h:N ze.sl):K (QG⊕ac):=
 br ((M x:Int)!=(M h:Int)) (re (kb false) []) (Tr.to (QG.h4 x h 0))
def S6:QG->K (QG⊕ac)
 | .h4 l b h=>
  let a:=l.getD h.toNat (zk Q)
  let x:=b.getD h.toNat (zk Q)
  br (L (h<(M l:Int)))
  (chk (zT h (M l)) (chk (zT h (M b)) (br (!(a.1==x.1&&(a.2.1==x.2.1&&(a.q==x.q&&Z)))) (re (kb false) []) (Tr.to (QG.h4 l b (Γ Δ (h+1)))))))
  (re (kb Z) [])
def yN(x h:N ze.sl):=aA [Sh.bool] S6 100000000 (zah x h)
def Hk(x h:N ze.sl):=(yN x h).isSome
def Hj(x h:N ze.sl):=o1 (yN x h)
def zjJ:=FT [ze.sl,ze.sl] [Sh.bool] λx=>yN x.1 x.2.1
theorem zeG:FK 140 zjJ:=nu.T1 (f:=f140) (keep:=znZ) (e:=zrE)
def Be:=Gy.addL [(181,zkF),(356,zkL),(140,zjJ)]
theorem rN:zm Be:=nu.addL<|fc zfL<|fc zfR<|fc zeG<|ip
abbrev yW(c a b:Int)(s:zD)(l:List fM)(i:Int):St:={tmps:=[.sl (Sh.sl Q) l,.clo (.func 356) [] [.ptr 0 0,.ptr 1 0],.any,.any,.any,.any,.any,I (M l),I i,.any,.any,.any,.any,.any,.any,.any,.any,.any,.any],heap:=[.box [I c],.box [I a,I b,.str s]]}
theorem VO(c a b:Int)(s:zD)(l:List fM):run Be 2 yi f271.results.toList 300 (aK f271) (aC f271.ntmps [.sl (Sh.sl Q) l,.clo (.func 356) [] [.ptr 0 0,.ptr 1 0]] [.box [I c],.box [I a,I b,.str s]])=.ok (.head 2 (zZ f271 2) (yW c a b s l 0)):=kw
theorem Xj(c a b:Int)(s:zD)(l:List fM)(i:Int):run Be 2 yi f271.results.toList 300 (zZ f271 2) (yW c a b s l i)=nI (K:=zZ f271 2) (e:=(Sh.sl Q)) l (λx=>cy x c (a,b,s)) (yW c a b s l) [.box [I c],.box [I a,I b,.str s]] i:=kw
theorem Xb:zJ Be.P 271 f271 2:=by refine⟨?_,?_,?_,?_⟩<;>kernel_rfl
def zml:ee [Y (.sl (Sh.sl Q)),none]:=λx h=>match x,h with
 |(l,.clo (.func 356) [] [.ptr 0 0,.ptr 1 0],_),[.box [I c],.box [I a,I b,.str s]]=>.ok (I (aj (λx=>cy x c (a,b,s)) l 0),[.box [I c],.box [I a,I b,.str s]])
 |_,_=>.err
def zkI:zV:=au [Y (.sl (Sh.sl Q)),none] zml
theorem zfO:FK 271 zkI:=by
 refine cP Xb λx j g h C d=>?_
 unfold zml at h;split at h
 .rename_i l u c a b s;simp only[Tr.val_ok,ax]at h;subst h;refine Reach.len 0 (Sh.sl Q) l rfl λe=>?_
  refine zB (n0:=2) rN Xb d (VO c a b s l) ?_;exact kr l (λx=>cy x c (a,b,s)) (yW c a b s l) rN Xb d (Xj c a b s l) e _ 0 rfl (zU _)
 .simp at h
def znK(x:N ze.sl)(h:zw):K (Empty⊕ac):=
 chk (Yp x h) (re (AV.bool (L (ziY x h>=0))) [])
def Yo(x:N ze.sl)(h:zw):=aA [Sh.bool] t0 100000000 (znK x h)
def Ls(x:N ze.sl)(h:zw):=(Yo x h).isSome
def Ik(x:N ze.sl)(h:zw):=o1 (Yo x h)
def Vt:=Be.addL [(271,zkI)]
theorem Bf:zm Vt:=rN.addL<|fc zfO<|ip
def znJ(h:zX)(a:zw):K (Empty⊕ac):=
 br (!gO (h.1.1,h.1.2.1,h.1.q.1,h.1.r.1,h.1.t.1,zP h.1.u))
 (re (I (aj (λx=>cy x (-1) a) h.2 0)) [])
 (re (I (aj (λx=>cy x h.1.q.1 a) h.2 0)) [])
def HE(x:zX)(h:zw):=aA [zi] t0 100000000 (znJ x h)
def HD(x:zX)(h:zw):=(HE x h).isSome
def P6(x:zX)(h:zw):=o1 (HE x h)
def zkc:=FT [zl,Q] [zi] λx=>HE x.1 x.2.1
theorem zfe:FK 298 zkc:=Bf.T1 (f:=f298) (keep:=k0) (e:=e0)
def Vu:=Vt.add 298 zkc
theorem MF:zm Vu:=Bf.add zfe
def Sj(x:an)(b:N zl.sl)(h:zw):K (Empty⊕ac):=
 let d:=(x.1,x.2.1,x.q.1,(x.r.1.1,x.r.1.2.1,x.r.1.q.1,x.r.1.r.1,x.r.1.t.1,zP x.r.1.u),x.t)
 let j:=zT 0 (M b)
 let a:=W b (T 0) (zk zl)
 let l:=((a.1.1,a.1.2.1,a.1.q.1,a.1.r.1,a.1.t.1,zP a.1.u),a.2)
 let g:=P6 l h
 let m:=W a.2 (T g) (zk ze.sl)
 let n:=FL d b
 let e:=fC d b
 let c:=W m (T x.u) (zk Q)
 chk (xF d b)
 (br (KE d b !=0) (re (tup [agg [I 0,I 0,X []],I 1]) [])
  (br (x.1==iK) (chk j (chk (HD l h) (br (L (g<0)) (re (tup [agg [I 0,I 0,X []],I 6]) []) (chk j (chk (zT g (M a.2)) (chk (zT x.u (M m)) (chk n (chk (Ls e c)
  (br (!Ik e c) (re (tup [agg [I 0,I 0,X []],I 6]) []) (re (tup [agg [I c.1,I c.2.1,X c.q],I 0]) [])))))))))) (chk n (chk (Ls e h) (br (!Ik e h) (re (tup [agg [I 0,I 0,X []],I 6]) [])
  (re (tup [agg [I h.1,I h.2.1,X h.q],I 0]) []))))))
def zq0(x:an)(h:N zl.sl)(a:zw):=aA [Q,zi] t0 100000000 (Sj x h a)
def Vv:=Vu
theorem Bg:zm Vv:=MF
abbrev zn1:=fZ [(4,[0,1,5])]
inductive QH where
 |h4 (l0:List (N ze.sl)) (l1:List (N ze.sl)) (i5:Int)
abbrev zrF:QH->Nat×St
 |.h4 l x h=>(4,⟨tm 27 [(0,O ze.sl l),(1,O ze.sl x),(5,I h)],[]⟩)
def zai(x h:N ze.sl.sl):K (QH⊕ac):=
 br ((M x:Int)!=(M h:Int)) (re (kb false) []) (Tr.to (QH.h4 x h 0))
def X7:QH->K (QH⊕ac)
 | .h4 l x h=>
  let a:=l.getD h.toNat (zk ze.sl)
  let b:=x.getD h.toNat (zk ze.sl)
  br (L (h<(M l:Int)))
  (chk (zT h (M l)) (chk (zT h (M x)) (chk (Hk a b) (br (!Hj a b) (re (kb false) []) (Tr.to (QH.h4 l x (Γ Δ (h+1))))))))
  (re (kb Z) [])
def Hp(x h:N ze.sl.sl):=aA [Sh.bool] X7 100000000 (zai x h)
def P1(x h:N ze.sl.sl):=(Hp x h).isSome
def Ho(x h:N ze.sl.sl):=o1 (Hp x h)
def zjL:=FT [ze.sl.sl,ze.sl.sl] [Sh.bool] λx=>Hp x.1 x.2.1
theorem zeI:FK 91 zjL:=Bg.T1 (f:=f91) (keep:=zn1) (e:=zrF)
def Vw:=Vv.addL [(91,zjL)]
theorem MG:zm Vw:=Bg.addL<|fc zeI<|ip
inductive zvQ where
 |h3 (l1:zH) (i8:Int) (z0:zn [CP.d ao]) (z1:zn [CP.d Q])
 |h3b (l1:zH) (i8:Int) (z0:zn [CP.d ao]) (z1:zn [CP.d Q]) (lh_2:List (N ze.sl))
inductive zvP where
 |h3 (l1:zH) (i6:Int) (z0:zn [CP.d ao])
 |h9 (l1:zH) (i6:Int) (b9:Bool) (i10:Int) (z0:zn [CP.d ao]) (z1:zn [CP.d Q])
 |h3b (l1:zH) (i6:Int) (z0:zn [CP.d ao]) (lh_1:zo)
 |h9b (l1:zH) (i6:Int) (b9:Bool) (i10:Int) (z0:zn [CP.d ao]) (z2:zn [CP.d Q]) (lh_1:zo)
 |h9bb (l1:zH) (i6:Int) (i10:Int) (z0:zn [CP.d ao]) (z2:zn [CP.d Q]) (lh_1:zo) (lh_3:zo)
 |h9bbb (l1:zH) (i6:Int) (b9:Bool) (i10:Int) (z0:zn [CP.d ao]) (z2:zn [CP.d Q]) (lh_1:zo) (lh_3:zo)
def Vx:=Vw
theorem MH:zm Vx:=MG
abbrev Mc:List CP:=[.d zN,.vec (.sl Q)]
abbrev sS:List CP:=[.d .str,.nil,.d zi,.nil,.nil,.d .str,.d zi,.d zi,.d .str,.d .str,.nil,.nil]
inductive zv1 where
 |h6 (l7:List (N ze.sl)) (i10:Int) (z0:zn [CP.d ao]) (z1:zn [CP.d Q]) (z2:zn [CP.d Q])
 |h14 (l1:zH) (l7:List (N ze.sl)) (i11:Int) (z0:zn [CP.d ao]) (z1:zn [CP.d Q]) (lh_2:List (N ze.sl))
 |h22 (l1:zH) (l7:List (N ze.sl)) (i11:Int) (l12:zo) (i14:Int) (z0:zn [CP.d ao]) (z1:zn [CP.d Q]) (lh_2:List (N ze.sl)) (lh_3:zo)
inductive zvS where
 |h3 (i4:Int) (z0:zn [CP.d zl]) (z1:zn sS) (z2:zn Mc)
 |h6 (i4:Int) (i5:Int) (z0:zn [CP.d zl]) (z1:zn sS) (z2:zn Mc)
def zdb:=Vx
theorem RW:zm zdb:=MH
inductive zvR where
 |h4 (l8:List (N ze.sl)) (i10:Int) (z0:zn [CP.d ao]) (lh_1:List (N ze.sl))
def zdc:=zdb
theorem RX:zm zdc:=RW
inductive H9v where
 |h4 (l1:zH) (l2:zo) (i9:Int) (i10:Int) (z0:zn [CP.d ao]) (z1:zn sS) (z2:zn Mc)
 |h8 (l1:zH) (l2:zo) (i9:Int) (i10:Int) (i12:Int) (z0:zn [CP.d ao]) (z1:zn sS) (z2:zn Mc)
 |h8b (l1:zH) (l2:zo) (i9:Int) (i10:Int) (b11:Bool) (i12:Int) (z0:zn [CP.d ao]) (z1:zn sS) (z2:zn Mc)
def JC:=zdc
theorem kl:zm JC:=RX
section
variable {db:List (N zl)} {p:N ao}
theorem bj.pc(h:bj db p):qJ p (ak db p)=Z/\fu p (ak db p)=eD p (ak db p):=
 ⟨by unfold qJ;rw[h.plc];rfl,by unfold fu;rw[h.plc];rfl⟩
theorem bj.at_mem(h:bj db p){l:zo}(a:l∈(fj db p).2):W l (T (eD p (ak db p))) (zk Q)∈l:=by have x:=(h.inn l a).1;simp only[zT,ar,aT]at x;exact J0 _ _ S
theorem bj.may(h:bj db p){x:zw}(c:x∈Ii p (ak db p)):aP x=Z:=by obtain⟨a,b,rfl⟩:=aN.1 c;rw[h.pc.2];exact(dB (h.rel.fits a b)).2.1 _ (h.at_mem b)
theorem bj.all(h:bj db p):FL p (ak db p)=Z:=by unfold FL;simp only[ar,aT,dg];refine⟨h.pc.1,zx (i:=0) (qI h.go.two).1,aB h.rel.few S,λx a=>⟨?_,h.may (aN.2 ⟨x,a,rfl⟩)⟩⟩;rw[h.pc.2];exact(h.inn x a).1
theorem bj.len(h:bj db p){l:zo}(x:l∈(fj db p).2):M l<=8:=by rw[(h.inn l x).2];exact(gS h.rel.may).r.1
theorem bj.few(_:bj db p):(fC p (ak db p)).length<=(fj db p).2.length:=by have:=TZ (Ii p (ak db p));have e:(Ii p (ak db p)).length=(fj db p).2.length:=bR _;rw[e]at this;exact this
theorem bj.keys(h:bj db p)(c:p.1=eR):(Ii p (ak db p)).Nodup/\∀x∈Ii p (ak db p),x.1≠0:=by
 have g:fu p (ak db p)=(fj db p).1.q.1:=by
  rw[h.pc.2];unfold eD;rw[zf c];rfl
 have e:Ii p (ak db p)=(fj db p).2.map (az (fj db p).1.q.1):=by
  unfold Ii;rw[g];rfl
 rw[e];refine⟨Pt h.rel.pw,λx l=>?_⟩;obtain⟨a,b,rfl⟩:=aN.1 l;have j:=(jr _).1 h.rel.may;have d:=h.rel.keys a b;simp only[zT,ar,aT]at d;exact(dB (h.rel.fits a b)).q _ S j.nn
theorem bj.is(h:bj db p)(v:zw):v∈fC p (ak db p)↔(fj db p).2.filter (Pr (eD p (ak db p)) v)≠[]:=by
 unfold fC;rw[(sE λx l=>h.may l).2];show _↔¬(fj db p).2.filter (Pr (eD p (ak db p)) v)=[];rw[List.filter_eq_nil_iff];constructor
 .rintro⟨l,c⟩ g;have⟨a,b,e⟩:=aN.1 l;rw[h.pc.2]at e;exact g a b (lH.2 ⟨e,c⟩)
 .intro g;have:∃a∈(fj db p).2,Pr (eD p (ak db p)) v a=Z:=by
   refine sB λj=>g λa b d=>j ⟨a,b,d⟩
  have⟨a,b,d⟩:=this;have⟨e,c⟩:=lH.1 d;refine⟨aN.2 ⟨a,b,?_⟩,c⟩;show W a (T (fu p (ak db p))) (zk Q)=v;rw[h.pc.2];exact e
end
def Zn(v:zw):Prop:=LE.le (α:=Int) (-9223372036854775808) v.2.1/\LE.le (α:=Int) v.2.1 9223372036854775807
mutual
def DY:zg->Prop
 |.mk _ v _ l=>Zn v/\xV l
def xV:List zg->Prop
 |[]=>True
 |e::r=>DY e/\xV r
end
theorem xV.mem:∀{l:List zg},xV l->∀e∈l,DY e
 |[],_,e,h=>by simp at h
 | x::r,h,e,a=>by
  rw[xV]at h;rcases bD.1 a with rfl|a
  .exact h.1
  .exact xV.mem h.2 e a
theorem g8.app:∀{a b:List zg},g8 a->g8 b->g8 (a++b)
 |[],_,_,h=>h
 | x::r,b,h,hb=>by
  rw[g8]at h;rw[List.cons_append,g8];exact⟨h.1,h.2.app hb⟩
theorem Ln(k:Nat)(s:zD)(h:k<=1000):(List.take (T (k:Int)-T 0) (List.drop (T 0) s)).length<=1000000:=by simp;omega
theorem WR{m k:Nat}(h:¬L ((m:Int)>(k:Int))=Z)(x:k<=1000):m<=1000000:=by
 have:¬(m:Int)>(k:Int):=by simpa using h
 omega
theorem g8.of:∀{l:List zg},(∀x∈l,mh x)->g8 l
 |[],_=>by rw[g8];trivial
 |x::r,h=>by rw[g8];exact⟨h x sw,g8.of λy a=>h y (by simp[a])⟩
theorem ZS{e:zg}(h:DY e):mh (oG e):=by
 have⟨r,m,d,g⟩:=MQ (P:=λ_ e r=>DY e->mh r) (λa e o t s l j _ w u b=>by
  have⟨A,v,C,z⟩:=e;rw[DY]at b;rw[mh];exact⟨⟨b.1.1,b.1.2,by show M t<=_;omega⟩,S,g8.of λy q=>by
   have⟨x,n,c⟩:=j y q;exact c (b.2.mem x n)⟩) 16 e 14 80 S S S
 unfold oG;rw[zg.eta,show tp 16 e 14 80=(r,m) by unfold tp;rw[d];rfl];exact g h
theorem CK(s:zD):(jB s).length<=1000000:=by
 unfold jB;split
 .exact Ln 20 s S
 .exact WR (k:=20) (by assumption) S
theorem Wt(l:aU):(mA l).length<=9/\∀c∈mA l,M c.1<=1000000:=by refine⟨by show((List.take 9 l).map _).length<=9;rw[bR,kG];omega,λc h=>?_⟩;obtain⟨x,_,rfl⟩:=aN.1 h;exact CK x.1
theorem zbq{t:am}(h:DY t.u):WfT (C0 t):=by
 have x:=Wt t.2.1;refine⟨CK _,x.2,aB x.1 S,?_,?_,λf a=>?_,ZS h⟩
 .show(List.take 10 _).length<=_;rw[kG];omega
 .show((List.take 10 _).map _).length<=_;rw[bR,kG];omega
 .obtain⟨g,_,rfl⟩:=aN.1 a;exact CK _
theorem zbA{v:zw}(h:Zn v):Ap (DJ v):=by
 unfold DJ;split
 .exact⟨h.1,h.2,Ln 60 v.q S⟩
 .exact⟨h.1,h.2,WR (k:=60) (by assumption) S⟩
variable {l:zo}
theorem Wu(h:∀v∈l,Zn v):∀v∈xD l,Ap v:=λv a=>by
 obtain⟨x,b,rfl⟩:=aN.1 a;exact zbA (h x (List.mem_of_mem_take b))
structure RgR (x:zX):Prop where
 chk:DY x.1.u
 vals:∀r∈x.2,∀v∈(r:zo),Zn v
variable {x:zX}
theorem Wp(h:RgR x):wV (xC x):=by
 have⟨rows,b,c⟩:=Kk x;have d:xC x=(C0 x.1,rows):=by unfold xC;rw[c];rfl
 rw[d];refine⟨zbq h.chk,by show M rows<=1000;have:=b.1;omega,λr e v g=>?_⟩;obtain⟨j,a,rfl⟩:=b.2 r e;exact Wu (h.vals j a) v g
structure RgS (s:aG):Prop where
 chk:DY s.x.1
 whr:DY s.s.1
 row:∀v∈s.y.1,Zn v
 sets:∀x∈s.z.1,DY (x:N pM).2
theorem bj.uall{db:zH}{p:an}(h:bj db p):Ih p (ak db p)=Y (fC p (ak db p),0,()):=by have⟨c,x⟩:=G7 h.go;refine zG (r:=(tup [O Q (fC p (ak db p)),I 0],[])) ?_ rfl;simp only[znx,zt,aJ,Q9,c,x,h.all,kF,zO,zj,zr]
theorem zbC(v:zw)(q:M l<=1000000):Yq l v=Y (aj (wE v) l 0,()):=by
 have g:(znO l v).val=Y (.inl (.h2 l (M l:Int) ((0:Nat):Int) (v,()))):=rfl
 have a:∀k,k<=M l->(∀x∈l.take k,wE v x=false)->z8 S9 (k*1) (.h2 l (M l:Int) ((0:Nat):Int) (v,())) (.h2 l (M l:Int) (k:Int) (v,())):=λk d m=>
  z8.all (t:=S9) 1 (λi=>.h2 l (M l:Int) (i:Int) (v,())) k λi o=>z8.of (by
   have h:i<M l:=by omega
   have b:wE v l[i]=false:=m _ (List.mem_take_iff_getElem.2 ⟨i,S,rfl⟩);unfold wE at b;simp only[S9,Q9,z6 h,zx h,zj,aa _ _ h,b,zO,zr];rw[zz i um])
 rcases eU (wE v) l 0 with⟨e,c⟩|⟨k,d,e,c,j⟩
 .rw[e];refine zF g ((a (M l) (zK _) (λx n=>c x (List.mem_of_mem_take n))).ends (aF.of (r:=(.int .i64 (-1),[])) ?_)) S rfl;simp only[S9,Q9,aw,zO,zr]
 .rw[e];refine zF g ((a k S j).ends (aF.of (r:=(.int .i64 (k:Int),[])) ?_)) S (by rw[dz];rfl);unfold wE at c;simp only[S9,Q9,z6 d,zx d,zj,aa _ _ d,c]
theorem zbB(v:zw)(b:M l<=1000000):Ls l v=Z/\Ik l v=l.any (wE v):=by
 have h:=zbC v b;have c:Yp l v=Z:=by unfold Yp;rw[h];rfl
 have x:ziY l v=aj (wE v) l 0:=by unfold ziY;rw[h];rfl
 have a:L (GE.ge (α:=Int) (aj (wE v) l 0) 0)=l.any (wE v):=by rw[Ar,So,List.any_eq_true]
 have:Yo l v=Y (l.any (wE v),()):=by
  refine zG (r:=(.bool (l.any (wE v)),[])) ?_ rfl;simp only[znK,Q9,c,x,zj];rw[a]
 exact⟨by unfold Ls;rw[this];rfl,by unfold Ik;rw[this];rfl⟩
theorem KX(v:zw)(h:gO x.1=Z):HD x v=Z/\P6 x v=aj (λr=>cy r x.1.2.2.1 v) x.2 0:=by
 have:HE x v=Y (aj (λr=>cy r x.1.2.2.1 v) x.2 0,()):=by
  refine zG (r:=(.int .i64 (aj (λr=>cy r x.1.2.2.1 v) x.2 0),[])) ?_ rfl;simp only[znJ,zt,aJ,Q9,h,gv,zO,zr]
 exact⟨by unfold HD;rw[this];rfl,by unfold P6;rw[this];rfl⟩
theorem Fc{n:Int}{v:zw}(h:zT n (M l)=Z):cy l n v=Z↔az n l=v:=by simp only[zT,ar,aT]at h;unfold cy;rw[zL (show GE.ge (α:=Int) n 0 from h.1),zL (show LT.lt (α:=Int) n (M l:Int)from h.2),bU,bU];exact gI
theorem eI.find(h:eI x)(g:l∈x.2):
  ∃(k:Nat)(b:k<M x.2),aj (λr=>cy r x.1.2.2.1 (az x.1.2.2.1 l)) x.2 0=(k:Int)/\x.2[k]=l:=by
 rcases eU (λr=>cy r x.1.2.2.1 (az x.1.2.2.1 l)) x.2 0 with⟨_,d⟩|⟨k,b,o,d,_⟩
 .have:=d l g;rw[(Fc (h.keys l g)).2 rfl]at this;cases this
 .refine⟨k,b,by rw[o,dz],?_⟩;have e:=(Fc (h.keys _ (bN b))).1 d;obtain⟨j,m,rfl⟩:=jf g;by_cases c:k=j
  .subst c;rfl
  .have n:=List.pairwise_iff_getElem.1 (List.pairwise_map.1 (Pt h.pw));rcases Nat.lt_or_gt_of_ne c with a|a
   .exact zp e (n k j b m a)
   .exact zp e.symm (n j k m b a)
section
variable {db:List (N zl)} {p:N ao}
theorem bj.has(h:bj db p){l:zo}(b:l∈(fj db p).2)(x:(az (eD p (ak db p)) l).1≠0):az (eD p (ak db p)) l∈fC p (ak db p):=by
 refine(h.is _).2 λa=>?_
 have:=List.filter_eq_nil_iff.1 a l b;exact this (lH.2 ⟨rfl,x⟩)
theorem bj.hasC(h:bj db p)(v:zw):Ls (fC p (ak db p)) v=Z/\(Ik (fC p (ak db p)) v=Z↔v∈fC p (ak db p)):=by
 have g:=h.few;have j:=h.rel.few;obtain⟨a,b⟩:=zbB (l:=fC p (ak db p)) v S;refine⟨a,?_⟩;rw[b,List.any_eq_true];constructor
 .rintro⟨x,d,e⟩;rw[gI.1 e];exact d
 .intro c;exact⟨v,c,gI.2 rfl⟩
def Sp(db:zH)(p:an)(v:zw):zw×Int:=
 if p.1=iK then
  let a:=aj (λr=>cy r (fj db p).1.2.2.1 v) (fj db p).2 0
  if LT.lt (α:=Int) a 0 then((0,0,[]),6)else
   let u:=az p.t.2 (W (fj db p).2 a.toNat (zk ze.sl))
   if Ik (fC p (ak db p)) u=Z then(u,0)else((0,0,[]),6)
 else if Ik (fC p (ak db p)) v=Z then(v,0)else((0,0,[]),6)
theorem bj.key(h:bj db p)(v:zw):zq0 p (ak db p) v=Y ((Sp db p v).1,(Sp db p v).2,()):=by
 obtain⟨n,o⟩:=G7 h.go;have b:zT 0 (ak db p).length=Z:=zx (i:=0) (qI h.go.two).1;have d:W (ak db p) (T 0) (zk zl)=fj db p:=rfl;obtain⟨w,u⟩:=KX (x:=fj db p) v h.rel.may;by_cases m:p.1=iK
 .have l:(p.1==iK)=Z:=by simpa using m
  have y:eD p (ak db p)=p.t.2:=by
   unfold eD;rw[zh (by rw[m];decide),zf m]
  unfold Sp;rw[zf m];by_cases s:LT.lt (α:=Int) (aj (λr=>cy r (fj db p).1.2.2.1 v) (fj db p).2 0) 0
  .simp only[zf s];refine zG (r:=(tup [agg [I 0,I 0,X []],I 6],[])) ?_ rfl;simp only[Sj,zt,aJ,Q9,n,o,l,b,d,w,u,kF,zO,zj,zr];rw[zf (zL s)]
  .simp only[zh s];rcases ir (λr=>cy r (fj db p).1.2.2.1 v) (fj db p).2 0 with e|⟨A,C⟩
   .rw[e]at s;omega
   .obtain⟨k,E⟩:∃k:Nat,aj (λr=>cy r (fj db p).1.2.2.1 v) (fj db p).2 0=(k:Int):=⟨_,(Int.toNat_of_nonneg A).symm⟩;rw[E]at s C u|-;have a:k<(fj db p).2.length:=by omega
    have g:=(h.inn _ (bN a)).1;rw[y]at g;obtain⟨q,D⟩:=h.hasC (az p.t.2 (fj db p).2[k]);have z:L ((k:Int)<0)=false:=by simp
    rw[aa _ _ a];by_cases c:Ik (fC p (ak db p)) (az p.t.2 (fj db p).2[k])=Z
    .rw[zf c];refine zG (r:=(tup [agg [I (az p.t.2 (fj db p).2[k]).1,I (az p.t.2 (fj db p).2[k]).2.1,X (az p.t.2 (fj db p).2[k]).2.2],I 0],[])) ?_ rfl;simp only[Sj,zt,aJ,Q9,n,o,l,b,d,w,u,z,zx a,aa _ _ a,g,h.all,q,c,kF,gv,zO,zj,zr]
    .rw[zh c];have j:=Bool.eq_false_iff.2 c;refine zG (r:=(tup [agg [I 0,I 0,X []],I 6],[])) ?_ rfl;simp only[Sj,zt,aJ,Q9,n,o,l,b,d,w,u,z,zx a,aa _ _ a,g,h.all,q,j,kF,oR,zO,zj,zr]
 .have l:(p.1==iK)=false:=by simpa using m
  unfold Sp;rw[zh m];obtain⟨q,D⟩:=h.hasC v;by_cases c:Ik (fC p (ak db p)) v=Z
  .rw[zf c];refine zG (r:=(tup [agg [I v.1,I v.2.1,X v.2.2],I 0],[])) ?_ rfl;simp only[Sj,zt,aJ,Q9,n,o,l,h.all,q,c,kF,gv,zO,zj,zr]
  .rw[zh c];have j:=Bool.eq_false_iff.2 c;refine zG (r:=(tup [agg [I 0,I 0,X []],I 6],[])) ?_ rfl;simp only[Sj,zt,aJ,Q9,n,o,l,h.all,q,j,kF,oR,zO,zj,zr]
theorem bj.mine(h:bj db p)(n:p.1≠yu){l:zo}(c:l∈(fj db p).2)(j:(az (eD p (ak db p)) l).1≠0):
  Sp db p (az (fj db p).1.2.2.1 l)=(az (eD p (ak db p)) l,0):=by
 have b:=h.has c j;unfold Sp;by_cases a:p.1=iK
 .have x:eD p (ak db p)=p.t.2:=by
   unfold eD;rw[zh (by rw[a];decide),zf a]
  rw[zf a];obtain⟨k,o,d,g⟩:=h.rel.find c;simp only[d];rw[zh S,aa _ _ o,g,<-x,zf ((h.hasC _).2.2 b)]
 .rw[zh a];have m:p.1=eR:=by
   rcases h.mig with e|e|e
   .exact e
   .exact zp e a
   .exact zp e n
  have x:eD p (ak db p)=(fj db p).1.2.2.1:=by
   unfold eD;rw[zf m];rfl
  rw[x]at b|-;rw[zf ((h.hasC _).2.2 b)]
end
section
variable {α:Type} (k:α->N Q)
variable {k}
end
def zmt(k:Int)(r:zo):Prop:=zT k (M r)=Z/\Ap (az k r)/\aP (az k r)=Z
section
variable {t:N zN} {rows acc:List (List (N Q))} {i:Nat} {z1:zn sS}
end
end
end Cad
