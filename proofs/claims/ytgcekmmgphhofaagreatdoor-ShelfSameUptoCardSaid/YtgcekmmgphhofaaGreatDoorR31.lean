/- Cover. -/
import Derived.Test.YtgcekmmgphhofaaGreatDoorR30
namespace Cad
open Go Go.Proofs Tryz
open List renaming length->M
open IntKind renaming wrap->Γ,i64->Δ
open Tr renaming val->Q9
open Bool renaming true->Q4,true->Z,false->J
open List renaming getD->W
open Tr (chk br re)
open AV (nils agg tup ptr kb str)
open AV renaming sl->O
open Cad renaming ow->S,Sem->N,ai->I,ze->Q,Tr->K
set_option maxHeartbeats 4000000
structure su (db:zH) (p:an):Prop where
 wf:WfT p.r.1
 fr:wV (fj db p)
 few:M p.t.1<=1000
 copy:p.1=eR->(∀c∈p.t.1,zT c (fj db p).1.2.1.length=Z)/\∃(k:Nat)(h:k<M p.t.1),p.r.1.q.1=(k:Int)/\p.t.1[k]=(fj db p).1.q.1
 join:p.1=iK->p.r.1.q.1=(fj db p).1.q.1/\∃y:zX,ak db p=[fj db p,y]/\eI y/\wV y/\(∀c∈p.t.1,zT c (M y.1.2.1)=Z)/\∀row∈(fj db p).2,(az p.u row).1≠0->mK y y.1.q.1 (az p.u row)=Z
 group:p.1=yu->p.r.1.q.1=0/\∃a b,p.t.1=[a,b]/\zT a (fj db p).1.2.1.length=Z/\zT b (fj db p).1.2.1.length=Z
theorem wV.cut{x:zX}{q:zD->Bool}(h:wV x):wV (lS q x):=
 ⟨⟨h.t.name,h.t.cols,h.t.ncols,h.t.nuq,aB (List.length_filter_le _ _) h.t.nrf,λf a=>h.t.refs f (List.mem_filter.1 a).1,h.t.chk⟩,h.rows,h.vals⟩
variable {n:zD}
theorem Ci{t:am}(h:¬LT.lt (α:=Int) (ah t n) 0):zT (ah t n) (M t.2.1)=Z:=tB ⟨S,(gN h).2⟩
theorem OI{t:am}(h:WfT t)(n:List zD):∀c∈fy t n,M (c:ci).1<=1000000:=by
 intro c a;obtain⟨s,_,rfl⟩:=aN.1 a;by_cases x:Int.toNat (ah t s)<M t.2.1
 .rw[bf,zQ x];exact h.cols _ (bN x)
 .rw[bf,eA S];exact zU _
variable {m j:Nat}
theorem Xo{k:Int}(h:j∈Cb k m):j<m:=by unfold Cb at h;simpa using(List.mem_filter.1 h).1
variable {d:zH}{s:aG}
theorem zhW(E:∀x∈d,wV x)(hp:(bb d s).1=0)(z:WfS s):su d (bb d s).2:=by
 have⟨hm,h0,hb,P,x0,w⟩:=yL hp;have hB:=(iN λx A=>(E x A).short).1 hb;have n:=gW h0;have v:(cm d s).1=0:=by rw[<-w];exact hp
 have⟨G,f2,f3⟩:=Aw v;rw[w];have U:LE.le (α:=Int) 0 (ab d s.q.1):=P _ (by unfold bK;split<;>simp);have A:fj d (cm d s).2=lS (bJ (bK s.q.1 (ct s))) (relAt d s.q.1):=by
  unfold fj ak;rw[f2,f3];have:∃r,bK s.q.1 (ct s)=s.q.1::r:=by unfold bK;split<;>exact⟨_,rfl⟩
  have⟨r,e⟩:=this;rw[e];rfl
 have hF:=E _ (eY U).1;have C:wV (fj d (cm d s).2):=by rw[A];exact hF.cut
 have D:WfT (aO d s.q.1):=hF.t;rcases hm with l|l|l
 .have e:cm d s=nB (sT (aO d s.q.1) s.r.1) (s.1,s.q.1,s.p,(s.2.1,fy (aO d s.q.1) s.r.1,jM (xz (aO d s.q.1) s.r.1) (aO d s.q.1).q.1,[],[],s.x.1),xz (aO d s.q.1) s.r.1,0):=by
   unfold cm;rw[zf (by simp[l])]
  have e0:=v;rw[e]at e0;have⟨g,m⟩:=im e0;unfold sT at g;split at g;rotate_left
  next h=>exact zp g h
  rename_i F;split at g
  .cases g
  rename_i hk;have k:=pE F;refine⟨?_,C,(by rw[e,m];show(xz _ _).length<=_;unfold xz;rw[bR];have:=z.sh.names.1;omega),?_,(by rw[G,l];intro h;cases h),(by rw[G,l];intro h;cases h)⟩
  .rw[e,m];exact⟨aB z.sh.table S,OI D _,by show(fy _ _).length<=_;unfold fy;rw[bR];have:=z.sh.names.1;omega,zU _,zU _,λf H=>(by cases H),z.chk⟩
  .intro _;rw[A,e,m];refine⟨λc i=>?_,?_⟩
   .obtain⟨a,ha,rfl⟩:=aN.1 i;exact Ci (k a ha)
   .rcases Wg (xz (aO d s.q.1) s.r.1) (aO d s.q.1).q.1 with⟨j,y,q1,q2,_⟩|⟨q1,_⟩
    .exact⟨j,y,q1,q2⟩
    .exact zp (by rw[q1];decide) hk
 .have e:cm d s=nB (fY (aO d s.q.1) (eQ d s.p) s.u.1 s.p)
     (s.1,s.q.1,s.p,(s.2.1,(aO d s.q.1).2.1++nM (eQ d s.p) (M (eQ d s.p).2.1),(aO d s.q.1).q.1,[],[],s.x.1),
      tU (eQ d s.p).q.1 (M (eQ d s.p).2.1),ah (aO d s.q.1) s.u.1):=by
   unfold cm;rw[zh (by simp[l]),zf (by simp[l])]
  have e0:=v;rw[e]at e0;have⟨g,m⟩:=im e0;have hr:=Fg n l;have h1:bK s.q.1 (ct s)=[s.q.1,ct s]:=by unfold bK;rw[zh (by simpa using hr)]
  have h3:LE.le (α:=Int) 0 (ab d (ct s)):=P _ (by rw[h1];simp);have h8:eQ d s.p=(relAt d (ct s)).1:=by
   unfold eQ;rw[zh hr];rfl
  have hU:=E _ (eY h3).1;rw[h8]at e g m;refine⟨?_,C,(by rw[e,m];show(tU _ _).length<=_;unfold tU;rw[bR];exact aB (pz _ _) hU.t.ncols),(by rw[G,l];intro h;cases h),?_,(by rw[G,l];intro h;cases h)⟩
  .rw[e,m];refine⟨aB z.sh.table S,λc i=>?_,?_,zU _,zU _,λf H=>(by cases H),z.chk⟩
   .rcases bX.1 i with i|i
    .exact D.cols c i
    .obtain⟨j,y,rfl⟩:=aN.1 i;have y:=Xo y;rw[bf,zQ y];exact hU.t.cols _ (bN y)
   .show(_++nM _ _).length<=1000;unfold fY at g;split at g
    .cases g
    split at g;rotate_left
    .cases g
    split at g
    .cases g
    rename_i h9;have:=pz (relAt d (ct s)).1.q.1 (relAt d (ct s)).1.2.1.length;unfold nM;rw[cL,bR];omega
  .intro _;have hs:ak d (cm d s).2=[fj d (cm d s).2,lS (bJ (bK s.q.1 (ct s))) (relAt d (ct s))]:=by
    rw[A];unfold ak;rw[f2,f3,h1];rfl
   refine⟨?_,lS (bJ (bK s.q.1 (ct s))) (relAt d (ct s)),hs,(hB.rels _ (eY h3).1).cut,hU.cut,?_,?_⟩
   .rw[A,e,m];rfl
   .rw[e,m];intro c i;obtain⟨j,y,rfl⟩:=aN.1 i;exact zx (Xo y)
   .have h7:((cm d s).2).u=ah (aO d s.q.1) s.u.1:=by rw[e,m]
    have h5:kP (aO d s.q.1).t.1 (ah (aO d s.q.1) s.u.1,ct s)=Z:=by
     unfold fY at g;split at g
     .cases g
     split at g
     .assumption
     .cases g
    rw[A,h7];exact(hB.bound _ (eY U).1 _ ((rT _ _).1 h5)).2
 .have e:cm d s=nB (qT (aO d s.q.1) s.r.1) (s.1,s.q.1,s.p,(s.2.1,yh (aO d s.q.1) s.r.1,0,[],[],s.x.1),xz (aO d s.q.1) s.r.1,0):=by
   unfold cm;rw[zh (by simp[l]),zh (by simp[l]),zf (by simp[l])]
  have e0:=v;rw[e]at e0;have⟨g,m⟩:=im e0;have F:pD (aO d s.q.1) s.r.1=0:=by
   unfold qT at g;split at g
   .assumption
   .exact g
  have k:=pE F;have h2:=jl n l;refine⟨?_,C,(by rw[e,m];show(xz _ _).length<=_;unfold xz;rw[bR];omega),(by rw[G,l];intro h;cases h),(by rw[G,l];intro h;cases h),?_⟩
  .rw[e,m];refine⟨aB z.sh.table S,λc i=>?_,(by show(2:Nat)<=1000;omega),zU _,zU _,λf H=>(by cases H),z.chk⟩;have o:=OI D s.r.1;have hl:(fy (aO d s.q.1) s.r.1).length=2:=by unfold fy;rw[bR];exact h2
   generalize h4:fy (aO d s.q.1) s.r.1=cs at o hl
   match cs,hl with
   | [a,b],_=>
    have i:c∈yh (aO d s.q.1) s.r.1:=i;unfold yh at i;rw[h4]at i;rcases bD.1 i with rfl|i
    .exact o a sw
    .rw[eh]at i;subst i;exact o b sw
  .intro _;rw[A,e,m]
   match h6:s.r.1,h2 with
   | [a,b],_=>
    rw[h6]at k;exact⟨rfl,ah (aO d s.q.1) a,ah (aO d s.q.1) b,rfl,Ci (k a sw),Ci (k b sw)⟩
open Go Go.Lib
theorem Qm:∀(p q x y:List UInt8),(∀c∈p,c≠58)->(∀c∈q,c≠58)->p++58::x=q++58::y->p=q/\x=y
 |[],[],x,y,_,_,h=>by simpa using h
 |[],b::q,x,y,_,hq,h=>by simp at h;exact zp h.1.symm (hq b (by simp))
 |a::p,[],x,y,hp,_,h=>by simp at h;exact zp h.1 (hp a (by simp))
 | a::p,b::q,x,y,hp,hq,h=>by
  simp at h;have:=Qm p q x y (λc d=>hp c (by simp[d])) (λc d=>hq c (by simp[d])) h.2;exact⟨by rw[h.1,this.1],this.2⟩
theorem AI(u:Nat):∀c∈decDigits u,48<=c.toNat/\c.toNat<=57:=by
 induction u using Nat.strongRecOn with
 | _ u i=>
  intro c x;rw[decDigits]at x;split at x
  next h=>simp at x;subst x;simp;omega
  .rename_i h;rcases bX.1 x with x|x
   .exact i (u/10) (by omega) c x
   .simp at x;subst x;simp;omega
def Mh(l:List UInt8):Nat:=l.foldl (λa c=>a*10+(c.toNat-48)) 0
theorem ON(u:Nat):Mh (decDigits u)=u:=by
 induction u using Nat.strongRecOn with
 | _ u i=>
  rw[decDigits];split
  next h=>simp[Mh];omega
  next h=>have:=i (u/10) (by omega);unfold Mh at this|-;rw[List.foldl_append,this];simp;omega
theorem Ff(n:Int):∀c∈itoa n,c≠58:=by
 intro c h;unfold itoa at h;split at h
 .rcases bD.1 h with rfl|h
  .decide
  .have:=AI _ c h;rintro rfl;simp at this
 .have:=AI _ c h;rintro rfl;simp at this
def Wf:List UInt8->Int
 |45::r=>-(Mh r:Int)
 |r=>Mh r
theorem vZ(n:Int):Wf (itoa n)=n:=by
 unfold itoa;split
 .show -(Mh (decDigits n.natAbs):Int)=n;rw[ON];omega
 .have h:Wf (decDigits n.toNat)=(Mh (decDigits n.toNat):Int):=by
   unfold Wf;split
   next r e=>have:=AI n.toNat 45 (by rw[e];simp);simp at this
   .rfl
  rw[h,ON];omega
theorem Kb{k n:Int}(h:itoa k=itoa n):k=n:=by
 have:=congrArg Wf h
 rwa [vZ,vZ]at this
def dZ(s:List UInt8):List UInt8:=itoa (M s)++58::s
def ft(n:Int):List UInt8:=dZ (itoa n)
variable {α:Type}
def dQ(P:α->Prop)(f:α->List UInt8):Prop:=∀a b x y,P a->P b->f a++x=f b++y->a=b/\x=y
theorem dr:dQ (λ_=>True) dZ:=by intro a b x y _ _ h;unfold dZ at h;simp only[iI,List.cons_append]at h;obtain⟨c,d⟩:=Qm _ _ _ _ (Ff _) (Ff _) h;have e:=Kb c;exact List.append_inj d (by omega)
variable {β:Type}
theorem dQ.of{P:α->Prop}{Q:β->Prop}{f:α->List UInt8}(i:dQ P f)(g:β->α)(e:∀b,Q b->P (g b))(j:∀a b,Q a->Q b->g a=g b->a=b):dQ Q (λb=>f (g b)):=by intro a b x y c d h;have:=i _ _ x y (e a c) (e b d) h;exact⟨j a b c d this.1,this.2⟩
theorem gU:dQ (λ_=>True) ft:=dr.of itoa (λ_ _=>trivial) (λ_ _ _ _ h=>Kb h)
theorem dQ.pair{P:α->Prop}{Q:β->Prop}{f:α->List UInt8}{g:β->List UInt8}(n:dQ P f)(o:dQ Q g):dQ (λp:α×β=>P p.1/\Q p.2) (λp=>f p.1++g p.2):=by rintro⟨a,c⟩ ⟨b,d⟩ x y e i h;simp only[iI]at h;obtain⟨j,k⟩:=n a b _ _ e.1 i.1 h;obtain⟨l,m⟩:=o c d _ _ e.2 i.2 k;exact⟨by rw[j,l],m⟩
theorem dQ.many{α:Type}{P:α->Prop}{f:α->List UInt8}(d:dQ P f):∀(a b:List α)(x y:List UInt8),(∀z∈a,P z)->(∀z∈b,P z)->M a=M b->a.flatMap f++x=b.flatMap f++y->a=b/\x=y
 |[],[],x,y,_,_,_,h=>by simpa using h
 |[],_::_,_,_,_,_,h,_=>by simp at h
 |_::_,[],_,_,_,_,h,_=>by simp at h
 | a::l,b::m,x,y,ha,hb,hl,h=>by
  simp only[List.flatMap_cons,iI]at h;obtain⟨e,g⟩:=d a b _ _ (ha a (by simp)) (hb b (by simp)) h;obtain⟨i,j⟩:=many d l m x y (λz c=>ha z (by simp[c])) (λz c=>hb z (by simp[c])) (by simpa using hl) g;exact⟨by rw[e,i],j⟩
def er(f:α->List UInt8)(l:List α):List UInt8:=ft (M l)++l.flatMap f
theorem dQ.list{P:α->Prop}{f:α->List UInt8}(g:dQ P f):dQ (λl=>∀z∈l,P z) (er f):=by intro a b x y d e h;unfold er at h;simp only[iI]at h;obtain⟨i,c⟩:=gU _ _ _ _ trivial trivial h;exact g.many a b x y d e (by omega) c
theorem dQ.mono{P Q:α->Prop}{f:α->List UInt8}(g:dQ P f)(h:∀a,Q a->P a):dQ Q f:=λa b x y c d e=>g a b x y (h a c) (h b d) e
open Go Go.Proofs Go.Lib
def TU(p:zD):Prop:=∀c∈p,c≠32/\c≠39/\c≠40/\c≠41
def Sep(x:zD):Prop:=∀c r,x=c::r->c=32\/c=41
theorem wD:∀(p q x y:zD),TU p->TU q->Sep x->Sep y->p++x=q++y->p=q/\x=y
 |[],[],x,y,_,_,_,_,h=>⟨rfl,h⟩
 | [],b::q,x,y,_,hq,hx,_,h=>by
  have:=hx b _ h;have:=hq b sw;grind
 | a::p,[],x,y,hp,_,_,hy,h=>by
  have:=hy a _ h.symm;have:=hp a sw;grind
 | a::p,b::q,x,y,hp,hq,hx,hy,h=>by
  simp at h;have:=wD p q x y (λc d=>hp c (by simp[d])) (λc d=>hq c (by simp[d])) hx hy h.2;exact⟨by rw[h.1,this.1],this.2⟩
theorem uU:∀(a b x y:zD),(∀r,x≠39::r)->(∀r,y≠39::r)->fP a++39::x=fP b++39::y->a=b/\x=y
 |[],[],x,y,_,_,h=>by simpa[fP]using h
 | [],c::b,x,y,hx,_,h=>by
  rw[fP,fP]at h;split at h
  .simp at h;exact zp h (hx _)
  next k=>simp at h;exact zp h.1.symm k
 | c::a,[],x,y,_,hy,h=>by
  rw[fP,fP]at h;split at h
  .simp at h;exact zp h.symm (hy _)
  next k=>simp at h;exact zp h.1 k
 | c::a,d::b,x,y,hx,hy,h=>by
  rw[fP,fP]at h;split at h<;>split at h
  next e g=>simp at h;have:=uU a b x y hx hy h;exact⟨by rw[e,g,this.1],this.2⟩
  next e g=>simp at h;exact zp h.1.symm g
  next e g=>simp at h;exact zp h.1 e
  .simp at h;have:=uU a b x y hx hy h.2;exact⟨by rw[h.1,this.1],this.2⟩
def Sv(v:Int×Int×zD):zg:=.mk sJ v [] []
def Yn(s:zD):zg:=
 if s=L6 then Sv (0,0,[])else if s=I3 then Sv (3,1,[])else if s=I2 then Sv (3,0,[])
 else if bh (W s 0 0).toNat=Z then .mk ic (0,0,[]) s []else Sv (1,Wf s,[])
def opw(o:zD):zD:=if o=lq then[65,78,68]else if o=Dg then[79,82]else o
inductive Dn (M d:Nat):zg->zD->Prop
 |tok (e:zg) (p:zD) (h:TU p) (h0:p≠[]) (hn:p≠[78,79,84]) (hu:Yn p=e):Dn M d e p
 |txt (s:zD):Dn M d (Sv (2,0,s)) (39::(fP s++[39]))
 |no (a:zg) (ha:cA d a=Z) (hw:mh a):Dn M d (.mk sK (0,0,[]) [] [a]) (40::78::79::84::32::(aq M a++[41]))
 |null (a:zg) (ha:cA d a=Z) (hw:mh a):Dn M d (.mk xY (0,0,[]) [] [a]) (40::(aq M a++xX))
 | two (op:zD) (a b:zg) (h:op=lq∨op=Dg∨op=[61]∨op=[60]∨op=[43]∨op=[45]) (ha:cA d a=Q4) (hb:cA d b=Q4) (hw:mh a) (hv:mh b):
   Dn M d (.mk op (0,0,[]) [] [a,b]) (40::(aq M a++32::(opw op++32::(aq M b++[41]))))
theorem We(n:Int):TU (itoa n)/\itoa n≠[]/\bh (W (itoa n) 0 0).toNat=J:=by
 have a:∀u,decDigits u≠[]:=λu e=>by
  have h:=decDigits_length u;have:=nDigits_pos u;rw[e]at h;simp at h;omega
 have b:∀u,TU (decDigits u):=λu c x=>by
  have:=AI u c x;refine⟨?_,?_,?_,?_⟩<;>rintro rfl<;>simp at this
 unfold itoa;split
 .refine⟨λc x=>?_,sw,rfl⟩;rcases bD.1 x with rfl|x
  .decide
  .exact b _ c x
 .refine⟨b _,a _,?_⟩;cases e:decDigits n.toNat with
  |nil=>exact zp e (a _)
  | cons c r=>
   have:=AI n.toNat c (by rw[e];simp);show bh c.toNat=J;grind[bh]
theorem Xu(h:∀c∈n,dd c.toNat=Z):TU n:=by intro c x;have:=h c x;refine⟨?_,?_,?_,?_⟩<;>rintro rfl<;>exact zp this (by decide)
theorem Wz{v:Int×Int×zD}(h:aP v=Z)(o:Ap v):Dn m j (Sv v) (fN v):=by
 have⟨k,i,s⟩:=v;unfold aP at h;simp only at h;split at h
 .rename_i k0;split at h
  .cases h
  .rename_i u;have a:=aY k0;have x:=aY h;have p:i=0:=by simpa using u
   subst a;subst x;subst p;exact .tok _ L6 (by unfold TU;decide) sw sw rfl
 split at h
 .rename_i w;have a:=aY w;have x:=aY h;subst a;subst x;have e:fN (1,i,[])=itoa i:=(BH i ⟨o.1,o.2.1⟩).symm;rw[e];have⟨b,l,d⟩:=We i;have n:∀(c:UInt8)(r:zD),bh c.toNat=Z->itoa i≠c::r:=λc r q e=>by
   rw[e]at d;exact zp (d.symm.trans q) sw
  refine .tok _ _ b l (n 78 _ (by decide)) ?_;unfold Yn;rw[zh (n 78 _ (by decide)),zh (n 84 _ (by decide)),zh (n 70 _ (by decide)),zh (by rw[d];simp),vZ]
 split at h
 .rename_i y;have a:=aY y;have⟨b,l⟩:=ap h;have x:=aY b;subst a;subst x;have e:fN (2,0,s)=39::(fP s++[39]):=by
   have t:aP (2,0,s)=Z:=h;unfold fN;rw[t,t8];rfl
  rw[e];exact .txt s
 split at h
 .rename_i z;have a:=aY z;subst a;by_cases g:i=0
  .subst g;have x:=aY (by simpa using h:(s==[])=Z);subst x;exact .tok _ I2 (by unfold TU;decide) sw sw rfl
  .by_cases b:i=1
   .subst b;have x:s=[]:=by simpa using h
    subst x;exact .tok _ I3 (by unfold TU;decide) sw sw rfl
   .simp[g,b]at h
 .cases h
variable {e:zg}
theorem Yu{M:Nat}(h:cA (j+1) e=Z)(x:mh e):Dn M j e (aq (M+1) e):=by
 cases gL h with
 | lit v m=>
  rw[mh]at x;exact Wz m x.1
 | col s l i=>
  have c:=(FU s).1 l;refine .tok _ s (Xu c.r) (by rintro rfl;simp at c) (by rintro rfl;exact zp i (by rw[show mM _=Z by kernel_rfl];simp)) ?_;unfold Yn;rw[zh (by rintro rfl;exact zp i (by rw[show mM _=Z by kernel_rfl];simp)),zh (by rintro rfl;exact zp i (by rw[show mM _=Z by kernel_rfl];simp)),zh (by rintro rfl;exact zp i (by rw[show mM _=Z by kernel_rfl];simp)),zf c.q.1]
 | one o a d g=>
  rw[mh,g8]at x;rcases d with rfl|rfl
  .exact .no a g x.q.1
  .exact .null a g x.q.1
 | two o a b d g k=>
  rw[mh,g8,g8]at x;have e:aq (M+1) (.mk o (0,0,[]) [] [a,b])=40::(aq M a++32::(opw o++32::(aq M b++[41]))):=by
   have n:aq (M+1) (.mk o (0,0,[]) [] [a,b])=[40]++aq M a++[32]++Lib.toUpperA o++[32]++aq M b++[41]:=by
    rcases d with rfl|rfl|rfl|rfl|rfl|rfl<;>rfl
   have p:Lib.toUpperA o=opw o:=by rcases d with rfl|rfl|rfl|rfl|rfl|rfl<;>rfl
   rw[n,p];simp
  rw[e];exact .two o a b d g k x.q.1 x.r.1
theorem dm{c:UInt8}{r:zD}(h:c=32\/c=41):Sep (c::r):=λ_ _ e=>by cases e;exact h
theorem Ql(h:Sep n):∀r,n≠39::r:=λr e=>by have:=h 39 r e;simp at this
theorem G0(h:Dn m j e n){z r:zD}(c:Sep r):78::79::84::32::z≠n++r:=by
 intro x;cases h with
 | tok _ _ h d a g=>
  have:=wD [78,79,84] n (32::z) r (by unfold TU;decide) h (dm (.inl rfl)) c x;exact a this.1.symm
 |txt s=>simp at x
 |no e=>simp at x
 |null e=>simp at x
 |two o e b=>simp at x
theorem C4:∀(d M:Nat)(a b:zg)(x y:zD),d<=M->cA d a=Z->cA d b=Z->mh a->mh b->Sep x->Sep y->aq M a++x=aq M b++y->a=b/\x=y
 |0,_,_,_,_,_,_,h,_,_,_,_,_,_=>by cases h
 |d+1,0,_,_,_,_,h,_,_,_,_,_,_,_=>zp h S
 | d + 1,M+1,a,b,x,y,hd,ha,hb,h2,h3,hx,hy,h=>by
  have G:=C4 d M;have va:=Yu (M:=M) ha h2;have D:=Yu (M:=M) hb h3;revert h va D;generalize aq (M+1) a=p;generalize aq (M+1) b=q;intro h va D;have z:∀{p:zD}{c:UInt8}{r:zD},TU p->p≠[]->(c=39\/c=40)->p++x≠c::r/\p++y≠c::r:=by
   intro p c r hp h0 hc;cases p with
   |nil=>exact zp rfl h0
   | cons f p=>
    have:=hp f sw;constructor<;>intro e<;>simp at e<;>grind
  have H:d<=M:=by omega
  have h4:∀{e:zg},cA d e=Z->mh e->∃k,d=k+1:=λ{e} h _=>by
   cases d with
   |zero=>cases h
   |succ k=>exact⟨k,rfl⟩
  have vw:∀{e:zg},cA d e=Z->mh e->∃g k,Dn g k e (aq M e):=λ{e} h w=>by
   obtain⟨k,rfl⟩:=h4 h w;obtain⟨g,rfl⟩:∃g,M=g+1:=⟨M-1,S⟩;exact⟨g,k,Yu h w⟩
  cases va with
  | tok _ _ p1 p2 p3 p4=>cases D with
   | tok _ _ m o q3 q4=>
    have:=wD p q x y p1 m hx hy h;exact⟨by rw[<-p4,<-q4,this.1],this.2⟩
   |txt s=>exact zp h (z p1 p2 (.inl rfl)).1
   |no _ _ _=>exact zp h (z p1 p2 (.inr rfl)).1
   |null _ _ _=>exact zp h (z p1 p2 (.inr rfl)).1
   |two _ _ _ _ _ _ _ _=>exact zp h (z p1 p2 (.inr rfl)).1
  | txt s=>cases D with
   |tok _ _ m o q3 q4=>exact zp h.symm (z m o (.inl rfl)).2
   | txt t=>
    simp at h;have:=uU s t x y (Ql hx) (Ql hy) h;exact⟨by rw[this.1],this.2⟩
   |no _ _ _=>simp at h
   |null _ _ _=>simp at h
   |two _ _ _ _ _ _ _ _=>simp at h
  | no u U wu=>cases D with
   |tok _ _ m o q3 q4=>exact zp h.symm (z m o (.inr rfl)).2
   |txt t=>simp at h
   | no v l n=>
    simp at h;have:=G u v (41::x) (41::y) H U l wu n (dm (.inr rfl)) (dm (.inr rfl)) h;exact⟨by rw[this.1],by simpa using this.2⟩
   | null v l n=>
    have⟨g,k,w⟩:=vw l n;simp at h;exact zp h (G0 w (dm (.inl rfl)))
   | two op v1 v2 P i C j F=>
    have⟨g,k,w⟩:=vw i j;simp at h;exact zp h (G0 w (dm (.inl rfl)))
  | null u U wu=>cases D with
   |tok _ _ m o q3 q4=>exact zp h.symm (z m o (.inr rfl)).2
   |txt t=>simp at h
   | no v l n=>
    have⟨g,k,w⟩:=vw U wu;simp at h;exact zp h.symm (G0 w (dm (.inl rfl)))
   | null v l n=>
    simp at h;have:=G u v _ _ H U l wu n (dm (.inl rfl)) (dm (.inl rfl)) h;exact⟨by rw[this.1],by simpa using this.2⟩
   | two op v1 v2 P i C j F=>
    simp at h;have:=(G u v1 _ _ H U i wu j (dm (.inl rfl)) (dm (.inl rfl)) h).2;rcases P with rfl|rfl|rfl|rfl|rfl|rfl<;>simp[opw]at this
  | two op u1 u2 P A h1 E h5=>cases D with
   |tok _ _ m o q3 q4=>exact zp h.symm (z m o (.inr rfl)).2
   |txt t=>simp at h
   | no v l n=>
    have⟨g,k,w⟩:=vw A E;simp at h;exact zp h.symm (G0 w (dm (.inl rfl)))
   | null v l n=>
    simp at h;have:=(G u1 v _ _ H A l E n (dm (.inl rfl)) (dm (.inl rfl)) h).2;rcases P with rfl|rfl|rfl|rfl|rfl|rfl<;>simp[opw]at this
   | two oq v1 v2 hq i C j F=>
    simp at h;have⟨e1,e2⟩:=G u1 v1 _ _ H A i E j (dm (.inl rfl)) (dm (.inl rfl)) h;have e3:op=oq/\aq M u2++41::x=aq M v2++41::y:=by
     rcases P with rfl|rfl|rfl|rfl|rfl|rfl<;>rcases hq with rfl|rfl|rfl|rfl|rfl|rfl<;>simp[opw]at e2<;>exact⟨rfl,e2⟩
    have:=G u2 v2 _ _ H h1 C h5 F (dm (.inr rfl)) (dm (.inr rfl)) e3.2;exact⟨by rw[e1,e3.1,this.1],by simpa using this.2⟩
def YA(n:Nat):zD:=[UInt8.ofNat (n/72057594037927936),UInt8.ofNat (n/281474976710656),UInt8.ofNat (n/1099511627776),UInt8.ofNat (n/4294967296),UInt8.ofNat (n/16777216),UInt8.ofNat (n/65536),UInt8.ofNat (n/256),UInt8.ofNat n]
theorem ZA(o:m<18446744073709551616)(p:j<18446744073709551616)(h:YA m=YA j):m=j:=by
 have f:∀a b:Nat,UInt8.ofNat a=UInt8.ofNat b->a%256=b%256:=λa b e=>by
  have:=congrArg UInt8.toNat e;simpa using this
 unfold YA at h;simp only[oQ]at h;have⟨x,c,d,g,i,k,l,n,_⟩:=h;have:=f _ _ x;have:=f _ _ c;have:=f _ _ d;have:=f _ _ g
 have:=f _ _ i;have:=f _ _ k;have:=f _ _ l;have:=f _ _ n
 omega
theorem zgF(i j:Int)(x y:zD)(b:-9223372036854775808<=i)(c:i<=9223372036854775807)(d:-9223372036854775808<=j)(e:j<=9223372036854775807)
  (h:YA (i+9223372036854775808).toNat++x=YA (j+9223372036854775808).toNat++y):i=j/\x=y:=by have a:=List.append_inj h rfl;have:=ZA S S a.1;exact⟨S,a.2⟩
def Uo(v:zw):zD:=if v.1=(1:Int)then YA (v.2.1+9223372036854775808).toNat else if v.1=(2:Int)then v.q++[0]else if v.1=(3:Int)then[UInt8.ofNat v.2.1.toNat]else[]
def cV(v:zw):zD:=if aP v=Z then UInt8.ofNat v.1.toNat::Uo v else[0]
variable {v:zw}
theorem iX(h:aP v=Z):v=(0,0,[])\/(∃i,v=(1,i,[]))\/(∃s,v=(2,0,s)/\∀b∈s,b≠0)\/v=(3,0,[])\/v=(3,1,[]):=by
 have⟨k,i,s⟩:=v;unfold aP at h;simp only at h;split at h
 .rename_i k0;have a:=aY k0;split at h
  .cases h
  .rename_i n;have x:=aY h;have g:i=0:=by simpa using n
   subst a;subst x;subst g;exact .inl rfl
 split at h
 next o=>have a:=aY o;have x:=aY h;subst a;subst x;exact .inr (.inl ⟨i,rfl⟩)
 split at h
 next p=>have a:=aY p;have⟨c,j⟩:=ap h;have⟨_,l⟩:=ap j;have x:=aY c;subst a;subst x;refine .inr (.inr (.inl ⟨s,rfl,λb m e=>?_⟩));have:=(Fr s).1 (eB l) b m;subst e;simp at this
 split at h
 .rename_i q;have a:=aY q;subst a;by_cases d:i=0
  .subst d;have x:=aY (by simpa using h:(s==[])=Z);subst x;exact .inr (.inr (.inr (.inl rfl)))
  .by_cases c:i=1
   .subst c;have x:s=[]:=by simpa using h
    subst x;exact .inr (.inr (.inr (.inr rfl)))
   .simp[d,c]at h
 .cases h
theorem X4:∀(p q x y:zD),(∀c∈p,c≠0)->(∀c∈q,c≠0)->p++0::x=q++0::y->p=q/\x=y
 |[],[],x,y,_,_,h=>by simpa using h
 |[],b::q,x,y,_,hq,h=>by simp at h;exact zp h.1.symm (hq b sw)
 |a::p,[],x,y,hp,_,h=>by simp at h;exact zp h.1 (hp a sw)
 | a::p,b::q,x,y,hp,hq,h=>by
  simp at h;have:=X4 p q x y (λc d=>hp c (by simp[d])) (λc d=>hq c (by simp[d])) h.2;exact⟨by rw[h.1,this.1],this.2⟩
theorem xe(h:aP v=Z):cV v=UInt8.ofNat v.1.toNat::Uo v:=zf h
theorem I6:dQ (λv=>aP v=Z/\Ap v) cV:=by
  rintro a b x y ⟨d,w⟩ ⟨e,g⟩ h;rw[xe d,xe e]at h;rcases iX d with rfl|⟨i,rfl⟩|⟨s,rfl,k⟩|rfl|rfl<;>rcases iX e with rfl|⟨j,rfl⟩|⟨t,rfl,l⟩|rfl|rfl
  all_goals first
    |exact⟨rfl,(List.cons.inj h).2⟩
    |exact⟨rfl,(List.cons.inj (List.cons.inj h).2).2⟩
    | (have c:(s++[0])++x=(t++[0])++y:=(List.cons.inj h).2
       simp only[iI,List.singleton_append]at c;have:=X4 s t x y k l c;exact⟨by rw[this.1],this.2⟩)
    |exact zp (List.cons.inj (List.cons.inj h).2).1 (show¬((0:UInt8)=1) by decide)
    |exact zp (List.cons.inj (List.cons.inj h).2).1 (show¬((1:UInt8)=0) by decide)
    | (have c:=zgF i j x y w.1 w.2.1 g.1 g.2.1 (List.cons.inj h).2
       exact⟨by rw[c.1],c.2⟩)
    |exact zp (List.cons.inj h).1 (show¬((0:UInt8)=1) by decide)
    |exact zp (List.cons.inj h).1 (show¬((0:UInt8)=2) by decide)
    |exact zp (List.cons.inj h).1 (show¬((0:UInt8)=3) by decide)
    |exact zp (List.cons.inj h).1 (show¬((1:UInt8)=0) by decide)
    |exact zp (List.cons.inj h).1 (show¬((1:UInt8)=2) by decide)
    |exact zp (List.cons.inj h).1 (show¬((1:UInt8)=3) by decide)
    |exact zp (List.cons.inj h).1 (show¬((2:UInt8)=0) by decide)
    |exact zp (List.cons.inj h).1 (show¬((2:UInt8)=1) by decide)
    |exact zp (List.cons.inj h).1 (show¬((2:UInt8)=3) by decide)
    |exact zp (List.cons.inj h).1 (show¬((3:UInt8)=0) by decide)
    |exact zp (List.cons.inj h).1 (show¬((3:UInt8)=1) by decide)
    |exact zp (List.cons.inj h).1 (show¬((3:UInt8)=2) by decide)
theorem zmI(v:zw):cV v≠[]:=by unfold cV;split<;>simp
theorem dQ.flat{α:Type}{P:α->Prop}{f:α->List UInt8}(d:dQ P f)(x:∀a,f a≠[]):∀a b:List α,(∀z∈a,P z)->(∀z∈b,P z)->a.flatMap f=b.flatMap f->a=b
 |[],[],_,_,_=>rfl
 |[],b::m,_,_,h=>by simp at h;exact zp h.1 (x b)
 |a::l,[],_,_,h=>by simp at h;exact zp h.1 (x a)
 | a::l,b::m,ha,hb,h=>by
  simp only[List.flatMap_cons]at h;have⟨e,g⟩:=d a b _ _ (ha a sw) (hb b sw) h;rw[e,flat d x l m (λz c=>ha z (by simp[c])) (λz c=>hb z (by simp[c])) g]
def gK(r:zo):zD:=dZ (r.flatMap cV)
theorem Gr:dQ (λr:zo=>∀v∈r,aP v=Z/\Ap v) gK:=
 dr.of (λr:zo=>r.flatMap cV) (λ_ _=>trivial) λa b x c h=>I6.flat zmI a b x c h
theorem Lw(h:me n=Z):M n<=16:=by unfold me at h;have⟨_,h⟩:=ap h;have⟨h,_⟩:=ap h;have:=eB h;omega
theorem eO(h:du n=Z):M n<=16:=Lw (ap h).1
theorem PC(h:aP v=Z):M v.2.2<=40:=by
 rcases iX h with rfl|⟨i,rfl⟩|⟨s,rfl,_⟩|rfl|rfl
 .simp
 .simp
 .unfold aP at h;simp only at h;rw[zh (by decide),zh (by decide),zf (by decide)]at h;obtain⟨_,h⟩:=ap h;obtain⟨h,_⟩:=ap h;have:=eB h;show M s<=40;omega
 .simp
 .simp
theorem tr:∀(x d:Nat)(e:zg),d<=x->cA d e=Z->oI x e=Z
 |_,0,_,_,h=>by simp[cA]at h
 |0,_+1,_,g,_=>zp g S
 | x+1,d+1,e,g,h=>by
  cases gL h with
  |lit v _=>rfl
  |col s _ _=>rfl
  |one o a _ c=>simp[oI,tr x d a S c]
  |two o a b _ c i=>simp[oI,tr x d a S c,tr x d b S i]
theorem yB:∀(d:Nat)(e:zg),cA d e=Z->DY e->mh e
 |0,_,h,_=>by simp[cA]at h
 | d+1,e,h,x=>by
  cases gL h with
  | lit v j=>
   rw[DY]at x;rw[mh];exact⟨⟨x.1.1,x.1.2,aB (PC j) S⟩,zU _,trivial⟩
  | col s i _=>
   rw[mh];exact⟨⟨by decide,by decide,zU _⟩,by have:=Lw i;omega,trivial⟩
  | one o a _ c=>
   rw[DY,xV]at x;rw[mh,g8,g8];exact⟨⟨by decide,by decide,zU _⟩,zU _,yB d a c x.2.1,trivial⟩
  | two o a b _ c g=>
   rw[DY,xV,xV]at x;rw[mh,g8,g8,g8];exact⟨⟨by decide,by decide,zU _⟩,zU _,yB d a c x.2.1,yB d b g x.q.1,trivial⟩
theorem BW(h:iO e=Z):e=B2\/cA 12 e=Z:=by
 unfold iO at h;rcases fU (jI e)with k|k
 .exact .inl (uV.1 k)
 .rw[k]at h;exact .inr (rI h)
theorem WI(h:iO e=Z):oI 16 e=Z:=by
 rcases BW h with rfl|h
 .exact Nf
 .exact tr 16 12 e S h
theorem WJ(h:iO e=Z)(x:DY e):mh e:=by
 rcases BW h with rfl|h
 .unfold B2;rw[mh];exact⟨⟨by decide,by decide,zU _⟩,zU _,trivial⟩
 .exact yB 12 e h x
theorem nQ(h:M s.2.1<=2000000)(x:M s.2.2.1<=2000000)(a:M s.2.2.2.2.2.1<=2000000)(b:M s.2.2.2.2.2.2.2.2.2.2.2.2<=2000000):eZ s=Z:=by
 unfold eZ;refine gi (dS ?_) (gi (dS ?_) (gi (dS ?_) rfl))
 all_goals first|omega|(simp;omega)
structure TP (s:aG):Prop where
 op:jL s.1
 cols:s.t.1=[]
 uq:s.v.1=[]
 rf:s.w.1=[]
 row:s.y.1=[]
 sets:s.z.1=[]
 names:s.1=iK->s.r.1=[]
 other:M s.q.1<=2000000
 key:M s.u.1<=2000000
 role:M s.p<=2000000
theorem HN(q:TP s):qE s=Z:=by
 have u:=q.other;have v:=q.key;have w:=q.role;rcases q.op with o|o|o
 .obtain⟨a,c,d,e,i,j,k,l,m,n,p⟩:=zix o;obtain⟨x,_⟩:=dw (s:=s) (g:=_) (b:=_) (by simp only[tz,Q9,a,c,d,e,i,j,k,l,m,n,p,zj,zr,zO,zt];exact rfl);rw[x];exact ml (nQ (by simp) (by first|exact u|simp) (by first|exact v|simp) (by first|exact w|simp))
 .obtain⟨a,c,d,e,i,j,k,l,m,n,p,h⟩:=ziy o;obtain⟨x,_⟩:=dw (s:=s) (g:=_) (b:=_) (by simp only[tz,Q9,a,c,d,e,i,j,k,l,m,n,p,h,zj,zr,zO,zt];exact rfl);rw[x];exact ml (nQ (by simp) (by first|exact u|simp) (by first|exact v|simp) (by first|exact w|simp))
 .obtain⟨a,c,d,e,i,j,k,l,m,n,p,h,t⟩:=zaZ o;obtain⟨x,_⟩:=dw (s:=s) (g:=_) (b:=_) (by simp only[tz,Q9,a,c,d,e,i,j,k,l,m,n,p,h,t,zj,zr,zO,zt];exact rfl);rw[x];exact ml (nQ (by simp) (by first|exact u|simp) (by first|exact v|simp) (by first|exact w|simp))
theorem D9{g b:Bool}(h:(cond g J b)=Z):g=J/\b=Z:=by cases g<;>cases b<;>simp_all
theorem At{g c b:Bool}(h:(g&&(cond c b J))=Z):c=Z/\b=Z:=by cases g<;>cases c<;>simp_all
theorem Kv{l:List zD}(h:(!decide (aj (λx=>!du x) l 0>=0))=Z):∀x∈l,M x<=1000:=λx a=>by
 have:=pp (λx=>!du x) l 0 h x a;have:=eO (n:=x) (by simpa using this);omega
theorem pC(H:TP s)(p:iW s=Z):kB s/\iO s.x.1=Z:=by
 have⟨o,C,D,E,q,t,A,_,_,_⟩:=H;have⟨o',c,d,m,s5,n,s7,s8,z,h0,h1,l,a⟩:=s;simp only at o C D E q t A;subst C D E q t;rcases o with rfl|rfl|rfl
 .have⟨_,h⟩:=dw (s:=(eR,c,d,m,[],n,[],[],z,[],[],l,a)) (g:=_) (b:=_) rfl;rw[h]at p;have⟨k,k0⟩:=At p;have⟨u,k⟩:=ap k;have⟨v,k⟩:=ap k;have⟨w,k⟩:=D9 k;have⟨y,i⟩:=ap k;have⟨_,_,j,e,_⟩:=(kZ sw sw sw sw sw sw).1 k0;have j:n=[]:=j;have e:a=[]:=e;subst j e;rw[zt]at i;have F:M c<=16:=eO u;have G:M d<=16:=eO v;have U:M m<=8:=by simp at w;omega
  exact⟨⟨sw,by show M c<=1000;omega,by show M d<=1000;omega,⟨by show M m<=20;omega,Kv y⟩,⟨sw,sw⟩,sw,⟨sw,sw⟩,⟨sw,sw⟩,zU _,⟨sw,sw⟩,zU _⟩,i⟩
 .obtain rfl:m=[]:=A rfl;have⟨_,h⟩:=dw (s:=(iK,c,d,[],[],n,[],[],z,[],[],l,a)) (g:=_) (b:=_) rfl;rw[h]at p;have⟨k,k0⟩:=At p;have⟨u,k⟩:=ap k;have⟨v,k⟩:=ap k;have⟨w,k⟩:=ap k;have⟨y,i⟩:=ap k;rw[zt]at i;have F:M c<=16:=eO u;have G:M d<=16:=eO v;have l6:M n<=16:=eO w;have P:M a<=16:=eO y;exact⟨⟨sw,by show M c<=1000;omega,by show M d<=1000;omega,⟨sw,sw⟩,⟨sw,sw⟩,by show M n<=1000;omega,⟨sw,sw⟩,⟨sw,sw⟩,sw,⟨sw,sw⟩,by show M a<=1000;omega⟩,i⟩
 .have⟨_,h⟩:=dw (s:=(yu,c,d,m,[],n,[],[],z,[],[],l,a)) (g:=_) (b:=_) rfl;rw[h]at p;have⟨k,k0⟩:=At p;have⟨u,k⟩:=ap k;have⟨v,k⟩:=ap k;have⟨w,k⟩:=D9 k;have⟨y,i⟩:=ap k;have⟨_,_,j,e,_⟩:=(kZ sw sw sw sw sw sw).1 k0;have j:n=[]:=j;have e:a=[]:=e;subst j e;rw[zt]at i;have F:M c<=16:=eO u;have G:M d<=16:=eO v;have U:M m<=8:=by simp at w;omega
  exact⟨⟨sw,by show M c<=1000;omega,by show M d<=1000;omega,⟨by show M m<=20;omega,Kv y⟩,⟨sw,sw⟩,sw,⟨sw,sw⟩,⟨sw,sw⟩,zU _,⟨sw,sw⟩,zU _⟩,i⟩
theorem NK(x:TP s):lh s=Z:=by
 by_cases a:iW s=Z
 .exact xN (pC x a).1 x.op
 .unfold lh qF;refine gi (gi (HN x) ?_) rfl;split
  .rfl
  next h=>exact zp (by simpa using h) a
theorem za3{x0:N zl.sl}{x1:aG}(b:∀x∈x0,gh x)(m:M x0<=13)(o:jL x1.1->TP x1):PlS x0 x1/\((bb x0 x1).1=0->QD x1):=by
 by_cases c:jL x1.1;rotate_left
 .have d:bb x0 x1=(1,mI):=by unfold bb;rw[zh λh=>c h.1]
  refine⟨?_,λh=>by rw[d]at h;cases h⟩;have o1:(x1.1==eR)=J:=by simpa using λk=>c (.inl k)
  have o2:(x1.1==iK)=J:=by simpa using λk=>c (.inr (.inl k))
  have o3:(x1.1==yu)=J:=by simpa using λk=>c (.inr (.inr k))
  refine ziB (e:=1) ?_ d;unfold G8 aA b6;rw[GJ];simp only[Fd,Q9,o1,o2,o3];rfl
 have i:=o c;by_cases a:gA x1=Z
 .have⟨j,l⟩:=pC i (gW a);have g:QD x1:=⟨j,WI l⟩;exact⟨Xt b m g,λ_=>g⟩
 .have n:gA x1=J:=by simpa using a
  have d:bb x0 x1=(1,mI):=by unfold bb;rw[zh λh=>a h.2.1]
  exact⟨PR (NK i) (ng b) (by rw[n];rfl),λh=>by rw[d]at h;cases h⟩
theorem qb(P:Nat->Bool):∀n:Nat,(∀i,i<n->P i=Z)\/∃i,i<n/\P i=J/\∀j,j<i->P j=Z
 |0=>.inl λ_ h=>zp h S
 | n + 1=>by
  rcases qb P n with h|⟨i,c,a,b⟩
  .rcases fU (P n)with k|k
   .refine .inl λi d=>?_
    rcases Nat.lt_or_ge i n with x|x
    .exact h i x
    .obtain rfl:i=n:=by omega
     exact k
   .exact .inr ⟨n,S,k,h⟩
  .exact .inr ⟨i,S,a,b⟩
structure DW (p:an):Prop where
 frm:M p.2.1<=2000000
 wth:M p.q.1<=2000000
 cols:M p.r.1.2.1<=2000000
 uq:M p.r.1.r.1<=2000000
 rf:M p.r.1.t.1<=2000000
 ix:M p.t.1<=2000000
theorem VM{f:α->zD}{B:Nat}{l:List α}{d:α}(h:∀x∈l,(f x).length<=B)(b:(f d).length<=B):(f (l.getD j d)).length<=B:=by
 rw[bf];rcases Nat.lt_or_ge j (M l)with a|a
 .rw[zQ a];exact h _ (bN a)
 .rw[eA a];exact b
variable {p:an}
theorem FE(j:∀x∈d,wV x)(e:DW p)(i:jL (dp p d).1):TP (dp p d):=by
 refine⟨i,rfl,rfl,rfl,rfl,rfl,λh=>?_,e.frm,?_,e.wth⟩
 .exact zf h
 .show M (ite (p.1=iK) (ite _ _ _) [])<=_;have g:∀c∈(d.getD 0 (zk zl)).1.2.1,M c.1<=1000000:=λc a=>by
   rcases Nat.lt_or_ge 0 (M d)with b|b
   .rw[bf,zQ b]at a;exact(j _ (bN b)).t.cols c a
   .rw[bf,eA b]at a;cases a
  split
  .split
   .exact aB (VM (f:=λc:ci=>c.1) (B:=1000000) g (zU _)) S
   .exact zU _
  .exact zU _
theorem Xq(hs:∀x∈d,wV x)(m:DW p):∃e:Int,KF p d=some (e,())/\(e=0->It p d):=by
 by_cases g:M d=(bK p.2.1 p.q.1).length;rotate_left
 .refine⟨1,zG (r:=(I 1,[])) ?_ rfl,λh=>by cases h⟩;show(br ((M d:Int)!=((bK p.2.1 p.q.1).length:Int)) _ _).val=_;have e:((M d:Int)!=((bK p.2.1 p.q.1).length:Int))=Z:=by simp;omega
  rw[e];rfl
 have h3:0<M d/\M d<=2:=by rw[g];unfold bK;split<;>simp
 have⟨l0,l2⟩:=h3;have c:two d=Z:=by
  match d,l0,l2 with
  |[_],_,_=>rfl
  |[_,_],_,_=>rfl
 have u:(zhi p d).val=some (.inl (.h6 d (bK p.2.1 p.q.1) d (M d:Int) ((0:Nat):Int) (p,()))):=by
  have e:((M d:Int)!=((bK p.2.1 p.q.1).length:Int))=J:=by rw[g];simp
  show(br ((M d:Int)!=((bK p.2.1 p.q.1).length:Int)) _ _).val=_;rw[e];rfl
 have w:∀i,i<M d->((W d i (zk zl)).1.1==(bK p.2.1 p.q.1).getD i (zk Sh.str))=Z->z8 yk 1 (.h6 d (bK p.2.1 p.q.1) d (M d:Int) (i:Int) (p,())) (.h6 d (bK p.2.1 p.q.1) d (M d:Int) ((i+1:Nat):Int) (p,())):=λi C D=>z8.of (by
  have D:(!((W d i (zk zl)).1.1:zD)==(bK p.2.1 p.q.1).getD i (zk Sh.str))=J:=by rw[D];rfl
  simp only[yk,Q9,z6 C,zx C,zx (show i<(bK p.2.1 p.q.1).length by omega),zj,bB,D,zO,zr];rw[zz i um])
 rcases qb (λi=>(W d i (zk zl)).1.1==(bK p.2.1 p.q.1).getD i (zk Sh.str)) (M d)with v|⟨i,C,hb,hj⟩;rotate_left
 .have A:=z8.all (t:=yk) 1 (λi=>.h6 d (bK p.2.1 p.q.1) d (M d:Int) (i:Int) (p,())) i λj o=>w j S (hj j o)
  refine⟨1,zF u (A.ends (k:=1) (r:=(I 1,[])) (aF.of ?_)) S rfl,λh=>by cases h⟩;have D:(!((W d i (zk zl)).1.1:zD)==(bK p.2.1 p.q.1).getD i (zk Sh.str))=Z:=by rw[hb];rfl
  simp only[yk,Q9,z6 C,zx C,zx (show i<(bK p.2.1 p.q.1).length by omega),zj,bB,D]
 have s:d.map (λx:zX=>x.1.1)=bK p.2.1 p.q.1:=by
  refine List.ext_getElem (by simpa using g) λi h1 h2=>?_
  have y:i<M d:=by simpa using h1
  have:=aY (v i y);rw[bf,bf,zQ y,zQ h2]at this;simpa using this
 have G:∀x∈bI d,gh x:=λx hx=>(hs x (fQ.1 hx)).short
 have A:=z8.all (t:=yk) 1 (λi=>.h6 d (bK p.2.1 p.q.1) d (M d:Int) (i:Int) (p,())) (M d) λj o=>w j o (v j o)
 have⟨z,hF⟩:=za3 (x0:=bI d) (x1:=dp p d) G (by rw[ql];omega) (FE hs m);have F:=KH (p:=p) l0 m.cols;have c1:Cg p d=Z:=by unfold Cg;rw[F];rfl
 have c2:KG p d=dp p d:=by unfold KG;rw[F];rfl
 have c3:Xs (bI d) (dp p d)=Z:=by unfold Xs;rw[z];rfl
 have c4:pOf (bI d) (dp p d)=((bb (bI d) (dp p d)).2,(bb (bI d) (dp p d)).1):=by unfold pOf;rw[z];rfl
 have b1:decide (M d<=1000)=Z:=zL S;have U:decide (0<M d)=Z:=zL l0;have b2:∀n:Nat,decide (LT.lt (α:=Int) (n:Int) (n:Int))=J:=λn=>aQ S
 by_cases H:(bb (bI d) (dp p d)).1=0
 .have P:=hF H;have⟨m1,m2⟩:=Cf (a:=p) (b:=(bb (bI d) (dp p d)).2) m.cols m.uq m.rf P.cp m.ix;have hq:=Ck (bI d) P;have e0:((bb (bI d) (dp p d)).1!=0)=J:=by simp[H]
  by_cases l:Ce p (bb (bI d) (dp p d)).2=Z
  .have E:=m2.1 l;have⟨n1,n2⟩:=Cf (a:=p) (b:=p) m.cols m.uq m.rf P.cp m.ix;refine⟨0,zF u (A.ends (k:=1) (r:=(I 0,[])) (aF.of ?_)) S rfl,λ_=>⟨s,c,Prod.ext H E.symm,P,G,aB (Nat.le_of_eq (congrArg (λq:an=>M q.r.1.2.1) E)) hq.1,n1,n2.2 rfl⟩⟩;simp only[yk,Q9,b2,b1,U,zt,aJ,c1,c2,c3,c4,e0,m1,l,c,zj,zO,zr,bT,gv]
  .refine⟨1,zF u (A.ends (k:=1) (r:=(I 1,[])) (aF.of ?_)) S rfl,λh=>by cases h⟩;have l:Ce p (bb (bI d) (dp p d)).2=J:=by simpa using l
   simp only[yk,Q9,b2,b1,U,zt,aJ,c1,c2,c3,c4,e0,m1,l,c,zj,zO,zr,bT,oR]
 .refine⟨1,zF u (A.ends (k:=1) (r:=(I 1,[])) (aF.of ?_)) S rfl,λh=>by cases h⟩;have e0:((bb (bI d) (dp p d)).1!=0)=Z:=by simpa using H
  simp only[yk,Q9,b2,b1,U,zt,aJ,c1,c2,c3,c4,e0,c,zj,zO,zr,bU]
theorem Yk(k:two d=Z)(l:dO (bI d)){x:zX}(h:x∈d):relAt (bI d) x.1.1=x:=by
 obtain⟨j,g⟩:=eY (GI (fQ.2 h));have c:=fQ.1 j;generalize relAt (bI d) x.1.1=y at g c
 match d,k with
 |[a],_=>rw[eh.1 h,eh.1 c]
 | [a,b],_=>
  have i:(a.1.1:zD)≠b.1.1:=λe=>by
   have:=l.names 0 (by rw[ql];simp);rw[mS,zh (by rw[e,pX];simp)]at this;have this:Op.bytesLess a.1.1 b.1.1=Z:=this;rw[e,pX]at this;cases this
  simp only[bD,List.not_mem_nil,or_false]at h c;rcases h with rfl|rfl<;>rcases c with rfl|rfl
  .rfl
  .exact zp g.symm i
  .exact zp g i
  .rfl
structure TR (p:an) (src:zH):Prop where
 ok:bj (bI src) p
 mok:su (bI src) p
 sself:ak (bI src) p=src
 may:iO p.2.2.2.1.t.2=Z
 wfe:mh p.2.2.2.1.t.2
 base:dO (bI src)
 names:src.map (λx:zX=>x.1.1)=bK p.2.1 p.2.2.1
theorem Se(w:∀x∈d,wV x)(H:DW p)(h:It p d)(P:DY p.2.2.2.1.t.2):TR p d:=by
 have b:(bb (bI d) (dp p d)).1=0:=by rw[h.plan]
 have o:(bb (bI d) (dp p d)).2=p:=by rw[h.plan]
 obtain⟨G,e,E,_,_,_⟩:=yL b;have l:=(iN h.short).1 E;have g:iO p.2.2.2.1.t.2=Z:=(pC (FE w H G) (gW e)).2;have i:=WJ g P;have D:WfS (dp p d):=⟨h.few.sh,i,by
  show mh B2;unfold B2;rw[mh];exact⟨⟨by decide,by decide,zU _⟩,zU _,trivial⟩,h.few.cp,Nf,λv c=>(by have c:v∈([]:zo):=c;simp at c),λv c=>(by have c:v∈([]:List (N pM)):=c;simp at c)⟩
 have s:=XA h.short b h.few;have u:=zhW (λx j=>w x (fQ.1 j)) b D;rw[o]at s u;refine⟨s,u,?_,g,i,l,h.names⟩;unfold ak;rw[<-h.names,hZ]
 conv=>rhs;rw[<-List.map_id d]
 refine List.map_congr_left λx j=>?_
 show lS _ (relAt (bI d) x.1.1)=x;rw[Yk h.two l j];obtain⟨⟨n,q,k,z,y,ck⟩,a⟩:=x;show((n,q,k,z,y.filter _,ck),a)=((n,q,k,z,y,ck),a);rw[List.filter_eq_self.2 λf F=>?_];obtain⟨m,_⟩:=l.bound _ (fQ.2 j) f F;obtain⟨A,C⟩:=eY m;refine(nF _ _).2 (aN.2 ⟨_,fQ.1 A,C⟩)
noncomputable section
abbrev Le:Sh:=.pr ao (.sl zl)
abbrev dK:=N Le
abbrev sP:List CP:=[.d Le]
abbrev zhP:Nat->aR:=λj=>if j=3 then{slots:=[1,5,10,11,12],prom:=[(5,none,Q)]}else{ }
inductive DT where
 |h3 (l1:zo) (l10:da) (i11:Int) (i12:Int) (lh_0:zo)
abbrev zm0:DT->Nat×St
 |.h3 a x i h l=>(3,⟨tm 25 [(1,O Q a),(5,AV.vec 0),(10,O zi x),(11,I i),(12,I h)],[AO.vec Q l]⟩)
def zdA(x:dK)(h:N ze.sl):K (DT⊕ac):=
 Tr.to (DT.h3 h x.1.t.1 (M x.1.t.1:Int) 0 [])
def Qn:DT->K (DT⊕ac)
 | .h3 a h x i l=>
  let b:=h.getD i.toNat (zk zi)
  let c:=[a.getD (Int.toNat b) (zk Q)]
  br (decide (i<x))
  (chk (zT i (M h)) (chk (zT b (M a)) (chk (decide (M l+M c<=1073741824)) (Tr.to (DT.h3 a h x (Γ Δ (i+1)) (l++c))))))
  (re (AV.vec 0) [AO.vec Q l])
def Gb(x:dK)(h:N ze.sl):=aA [ze.sl] Qn 100000000 (zdA x h)
def uN(x:dK)(h:N ze.sl):=(Gb x h).isSome
def D7(x:dK)(h:N ze.sl):=o1 (Gb x h)
def zbZ:=FT [Le,ze.sl] [ze.sl] λx=>Gb x.1 x.2.1
theorem YZ:FK 297 zbZ:=kl.T1 (f:=f297) (keep:=zhP) (e:=zm0)
def zar(x:dK):K (Empty⊕ac):=
 let a:=W x.2 (Int.toNat 0) (zk zl)
 br (x.1.1==eR) (chk (zT 0 (M x.2)) (re (I a.1.q.1) []))
 (br (x.1.1==iK) (re (I x.1.u) [])
  (chk (zT 0 (M x.1.t.1)) (re (I (W x.1.t.1 (Int.toNat 0) (zk zi))) [])))
def OC(x:dK):=aA [zi] t0 100000000 (zar x)
def T7(x:dK):=(OC x).isSome
def zgt(x:dK):=o1 (OC x)
def zj9:=FT [Le] [zi] λx=>OC x.1
theorem zfb:FK 174 zj9:=kl.T1 (f:=f174) (keep:=k0) (e:=e0)
def zc4:=JC.addL [(297,zbZ),(174,zj9)]
theorem vG:zm zc4:=kl.addL<|fc YZ<|fc zfb<|ip
end
end Cad
