/- slices. -/
import Derived.Test.YtgcekmmgphhofaaGreatDoorR26
import Derived.Test.YtgcekmmgphhofaaGreatDoorR27
namespace Cad
open Go Go.Proofs Go.Sort Tryz
open List renaming length->Io,length->M
open IntKind renaming wrap->Γ,i64->Δ
open AV renaming nils->Qc
open Tr renaming val->Q9
open Sh renaming str->Q7,expr->Q6
open Bool renaming true->Z,false->J
open Decidable renaming decide->L
open Int renaming toNat->T
open List renaming getD->W
open Tr (chk br re)
open AV (nils agg tup ptr kb)
open AV renaming sl->O,str->X
open Cad renaming ow->S,Sem->N,Tr->K,ai->I,ze->Q
noncomputable section
set_option maxHeartbeats 4000000
set_option maxRecDepth 100000
theorem pY:∀a b:zD,(Lib.compareBytes a b<0)↔Op.bytesLess a b=Z
 |[],[]=>by simp[Lib.compareBytes,Op.bytesLess]
 |[],_::_=>by simp[Lib.compareBytes,Op.bytesLess]
 |_::_,[]=>by simp[Lib.compareBytes,Op.bytesLess]
 | a::r,b::s=>by
  unfold Lib.compareBytes Op.bytesLess;by_cases x:a<b
  .simp[x]
  .by_cases h:b<a
   .have:a≠b:=λe=>by rw[e]at h;exact zp h (UInt8.lt_irrefl b)
    simp[x,h,this]
   .have:a=b:=UInt8.le_antisymm (UInt8.not_lt.1 h) (UInt8.not_lt.1 x);subst this;simp[pY r s]
theorem pX:∀s:zD,Op.bytesLess s s=J
 |[]=>rfl
 |a::r=>by simp[Op.bytesLess,pX r]
theorem AC:∀{a b c:zD},Op.bytesLess a b=Z->Op.bytesLess b c=Z->Op.bytesLess a c=Z
 |_,[],_,h,_=>by cases‹zD›<;>simp[Op.bytesLess]at h
 |_,_::_,[],_,h=>by simp[Op.bytesLess]at h
 |[],_::_,_::_,_,_=>rfl
 | a::x,b::y,c::z,h,g=>by
  simp only[Op.bytesLess,iJ,ar,aT,be]at h g|-;rcases h with h|⟨rfl,h⟩
  .rcases g with g|⟨rfl,g⟩
   .exact .inl (UInt8.lt_trans h g)
   .exact .inl h
  .rcases g with g|⟨rfl,g⟩
   .exact .inl g
   .exact .inr ⟨rfl,AC h g⟩
theorem I4:∀{a b:zD},Op.bytesLess a b=J->a≠b->Op.bytesLess b a=Z
 |[],[],_,h=>zp rfl h
 |[],_::_,h,_=>by simp[Op.bytesLess]at h
 |_::_,[],_,_=>rfl
 | a::x,b::y,h,hne=>by
  simp only[Op.bytesLess,Bool.or_eq_false_iff,ef,Bool.and_eq_false_iff]at h;simp only[Op.bytesLess,iJ,ar,aT,be];by_cases e:b=a
  .subst e;refine .inr ⟨rfl,I4 (h.2.resolve_left sw) λe=>hne (by rw[e])⟩
  .exact .inl (Nat.lt_of_le_of_ne (UInt8.not_lt.1 h.1) λc=>e (UInt8.toNat_inj.1 c))
def bI:zH->zH
 |[a,b]=>if Op.bytesLess b.1.1 a.1.1=Z then[b,a]else[a,b]
 |l=>l
theorem mS(a b:zX):bI [a,b]=if Op.bytesLess b.1.1 a.1.1=Z then[b,a]else[a,b]:=rfl
def two(l:zH):Bool:=match l with
 |[_]=>Z
 |[_,_]=>Z
 |_=>J
theorem za4{P:Type}[Inhabited P](f:P->zX)(d:Array P)(k:Nat)(h:two (d.toList.map f)=Z):(pdq (ltOf λp q:P=>Lib.compareBytes (f p).1.1 (f q).1.1) d 0 d.size k Z Z).toList.map f=bI (d.toList.map f):=by
 have⟨l⟩:=d
 match l,h with
 | [a],_=>
  unfold pdq;rw[zf sw];unfold insertionSort insOuter;rw[zh sw];rfl
 | [a,b],_=>
  unfold pdq;rw[zf sw];unfold insertionSort insOuter;rw[zf sw];unfold insOuter;rw[zh sw];show(ite _ _ _:Array P).toList.map f=bI [f a,f b];rw[mS];by_cases x:Op.bytesLess (f b).1.1 (f a).1.1=Z
  .rw[zf x,zf (by simpa[ltOf,pY]using x)];rfl
  .rw[zh x,zh (by simpa[ltOf,pY]using x)];rfl
def zed:zV:=λargs h _=>match args with
 | [.vec id,.clo (.func 116) [] [.ptr nb 0]]=>match h id,h nb with
  |.vec zqw l,.box [.clo (.func 112) [] []]=>.chk (two l) (.ok {val:=.tup [],wr:=[(id,.vec zl (bI l))]})
  |_,_=>.err
 |_=>.err
theorem zsj:Go.Proofs.Enters prog 116:=by
  cases h:f116.body with
  | none => have:f116.body.isNone=false:=by kernel_rfl
            rw[h]at this;cases this
  |some c=>exact Go.Proofs.enters_of (fn:=f116) kw kw h
theorem zga:FK 161 zed where
 fn:=⟨f161,kw,kw,kw⟩
 calls:=λw U ρ hp n args x6 f fp b hr x3 j5 t h9 j2 j6=>by
  unfold zed at b;split at b
  .rename_i id nb;split at b
   .rename_i l c i;simp only[Tr.val_chk,Tr.val_ok,ax]at b;obtain⟨H,rfl⟩:=b;have hl:=hr.len
    match x6,hl,hr with
    |[va,vc],_,hr=>
    have r0:=hr.rv 0 _ va rfl rfl;have r1:=hr.rv 1 _ vc rfl rfl;cases r0 with
    |vec _ _ i5 _=>
    cases r1 with
    |clo _ _ _ vf i8 b hc j8 A=>
    match vf,b,i8,hc,A with
    |[],_,[pv],_,A=>
    have r2:=A 0 _ pv rfl rfl;cases r2 with
    |ptr _ _ j h0=>
    have D:id∈fp:=h9 id (by simp[AV.idsL,AV.ids]);have x4:nb∈fp:=h9 nb (by simp[AV.idsL,AV.ids]);have ob:=t.ob nb x4;have x5:=t.ob id D;rw[i]at ob;rw[c]at x5;obtain⟨b',a,k,e1,i1,i0,x2,j1⟩:=ob;rw[h0]at e1;cases e1;have o:=x2.len;have h8:=x2.rv 0 _ (k.toList[0]'(by rw[<-o];simp)) rfl (zQ _);have s:w.cell? ⟨j,0,none⟩=some (.func (.func 112) #[] #[]):=by
     generalize hx:k.toList[0]'(by rw[<-o];simp)=x at h8;cases h8 with
     |clo _ _ _ vf vc b hc _ _=>
     match vf,b,vc,hc with
     |[],_,[],_=>
     rw[World.cell?,i0];have:k[0]?=some (Value.func (.func 112) #[] #[]):=by
      rw[<-lx,zQ (by rw[<-o];simp),hx]
     simpa using this
    have h5:=x3 j i1;have x0:l≠[]:=λe=>by rw[e]at H;cases H
    have i9:M l<=2:=by
     match l,H with
     |[_],_=>simp
     |[_,_],_=>simp
    refine⟨(Ys (n:=n) (e:=zl) (G:=λ_=>True) (λx y:zX=>Lib.compareBytes x.1.1 y.1.1) (λl'=>l'=bI l) (by decide) x3 c x5 i5 x0 (λ_ _=>trivial) ?_).mono ?_,by simp;exact D⟩
    .intro j0 B x9 d j4 h6 hH P x1;have i2:j≠B:=λe=>by
      have:=t.inj id D nb x4 B (by rw[c];exact x1) (by rw[i];exact⟨rfl,_,h0,by simp[bz,e]⟩);subst this;rw[c]at i;cases i
     have hO:SWO (ltOf λp q:Pl w U ρ zl (λ_=>True)=>Lib.compareBytes p.1.2.1.1 q.1.2.1.1):=by
      refine⟨λx=>?_,λx y z h g=>?_,λx y z h g=>?_⟩
      .have:=pX x.1.2.1.1;simp only[ltOf,ef,pY,this];simp
      .simp only[ltOf,aT,pY]at*;exact AC h g
      .simp only[ltOf,ef,pY]at*;intro C;by_cases e:(x.1.2.1.1:zD)=y.1.2.1.1
       .rw[e]at C;exact g C
       .exact g (AC (I4 (by simpa using h) e) C)
     refine(AnyQ.slices_SortFunc_eq Tryz.sortRel 12 isAgg90 sizeOf90 (λp:Pl w U ρ zl (λ_=>True)=>p.1.1) (λp=>p.2.1) (λp=>p.2.2.1) (λp q=>Lib.compareBytes p.1.2.1.1 q.1.2.1.1) hO 116 #[.pointer (some ⟨j,0,none⟩)] B 0 x9 d w zsj ?_ hH P S).mono ?_
     .intro m os dk j3 x y;have nm:∀p:Pl w U ρ zl (λ_=>True),∃v1 v2 v3 v4 v5 v6 v7 v8 v9 E F,p.1.1=[.string ⟨(p.1.2.1.1:zD).toArray⟩,v1,v2,v3,v4,v5,v6,v7,v8,v9,E,F]:=by
       rintro⟨⟨cs,q⟩,h1,H,h3,h4⟩;obtain⟨v,i3,i4⟩:=h3 0 (.str q.1.1) rfl;have h1:M cs=12:=h1
       match cs,h1 with
       |[a0,a1,a2,a3,a4,a5,a6,a7,a8,a9,x7,x8],_=>
       have:a0=v:=by simpa using i3
       subst this;cases i4;exact⟨a1,a2,a3,a4,a5,a6,a7,a8,a9,x7,x8,rfl⟩
      obtain⟨v1,v2,v3,v4,v5,v6,v7,v8,v9,E,F,ex⟩:=nm x;obtain⟨u1,u2,u3,u4,u5,u6,u7,u8,u9,i6,i7,ey⟩:=nm y;have u:(sortWorldK (λp:Pl w U ρ zl (λ_=>True)=>p.1.1) 12 w B 0 m dk os).heap[j]?=w.heap[j]?:=gM dk h5 i2
      have:=Tryz.cmp56 ⟨(x.1.2.1.1:zD).toArray⟩ ⟨(y.1.2.1.1:zD).toArray⟩ v1 v2 v3 v4 v5 v6 v7 v8 v9 E F u1 u2 u3 u4 u5 u6 u7 u8 u9 i6 i7 j (sortWorldK (λp:Pl w U ρ zl (λ_=>True)=>p.1.1) 12 w B 0 m dk os)
       (by rw[World.cell?_of_block u];exact s) (cM h5 (by unfold sortWorldK grow putRowK;simp[Sort.ahead]))
      show Calls prog 116 (#[Value.agg x.1.1.toArray,Value.agg y.1.1.toArray]++#[Value.pointer (some ⟨j,0,none⟩)]) _ _;rw[ex,ey];exact this
     .rintro e' w' ⟨rfl,m,os,rfl⟩;have h:=pdq_sorts _ hO d 0 d.size (Lib.bitLen d.size) Z Z (zU _) (zK _) (.inl rfl);exact⟨rfl,_,m,os,h.1,h.2,rfl,by rw[za4 (λp:Pl w U ρ zl (λ_=>True)=>p.1.2) d _ (by rw[h6];exact H),h6]⟩
    .rintro e' w' ⟨l',j7,j9,hq,v',U',ρ',rfl,h7⟩;rw[hq]at h7;exact⟨v',U',ρ',rfl,h7⟩
   .simp at b
  .simp at b
open Go Go.Proofs
def ak(db:zH)(p:an):zH:=(bK p.2.1 p.q.1).map λn=>lS (bJ (bK p.2.1 p.q.1)) (relAt db n)
variable {l:zH}
theorem fQ{x:zX}:x∈bI l↔x∈l:=by
 match l with
 |[]=>rfl
 |[_]=>rfl
 | [a,b]=>
  rw[mS];split
  .simp[or_comm]
  .exact Iff.rfl
 |_::_::_::_=>rfl
theorem ql(l:zH):(bI l).length=M l:=by
 match l with
 |[]=>rfl
 |[_]=>rfl
 |[a,b]=>rw[mS];split<;>rfl
 |_::_::_::_=>rfl
variable {s:aG}
theorem Aw(x:(cm l s).1=0):(cm l s).2.1=s.1/\(cm l s).q.1=s.q.1/\(cm l s).r.1=ct s:=by
 unfold cm at x|-;split at x
 next h=>rw[zf h,(im x).2];exact⟨rfl,rfl,rfl⟩
 .rename_i h;split at x
  next a=>rw[zh h,zf a,(im x).2];exact⟨rfl,rfl,rfl⟩
  .rename_i a;split at x
   next b=>rw[zh h,zh a,zf b,(im x).2];exact⟨rfl,rfl,rfl⟩
   .cases x
theorem Fg(h:iW s=Z)(a:s.1=iK):ct s≠[]:=by have⟨o,j,k,t,u,l,v,w,y,d,e,i,x⟩:=s;have a:o=iK:=a;subst a;have⟨_,q⟩:=dw (s:=(iK,j,k,t,u,l,v,w,y,d,e,i,x)) (g:=_) (b:=_) rfl;rw[q]at h;intro c;have c:x=[]:=c;subst c;rw[show du []=J from rfl]at h;cases m:du j<;>cases n:du k<;>cases p:du l<;>simp[m,n,p]at h
theorem yL(a:(bb l s).1=0):jL s.1/\gA s=Z/\fI l=(0:Int)/\(∀n∈bK s.q.1 (ct s),LE.le (α:=Int) 0 (ab l n))/\s.q.1≠ct s/\bb l s=cm l s:=by
 unfold bb at a;split at a
 case isFalse=>cases a
 rename_i b;split at a
 case isFalse h=>exact zp a h
 rename_i x;refine⟨b.1,b.2.1,b.q,?_,?_,by unfold bb;rw[zf b,zf x]⟩
 .unfold wz at x;split at x
  .assumption
  .cases x
 .unfold wz at x;split at x
  case isFalse=>cases x
  split at x
  case isTrue=>cases x
  rename_i c;intro e;apply c;have e:s.q.1=s.p:=e;rw[<-e];simp
theorem S4(A:∀x∈l,gh x)(hp:(bb l s).1=0)(sh:kB s):
  bb (bI (ak l (bb l s).2)) (dp (bb l s).2 (ak l (bb l s).2))=(0,(bb l s).2)/\(ak l (bb l s).2).map (λx:zX=>x.1.1)=bK (bb l s).q.1 (bb l s).r.1/\(bI (ak l (bb l s).2)).Pairwise (λx y:zX=>Op.bytesLess x.1.1 y.1.1=Z)/\dp (bb l s).2 (ak l (bb l s).2)=s/\(∀x∈bI (ak l (bb l s).2),gh x)/\two (ak l (bb l s).2)=Z:=by
 have⟨hm,E,hb,D,h6,u⟩:=yL hp;have hB:=(iN A).1 hb;have j:=gW E;have F:(cm l s).1=0:=by rw[<-u];exact hp
 have⟨f1,f2,f3⟩:=Aw F;have G:bb l s=(0,(bb l s).2):=by rw[<-hp]
 rw[u]at G|-;generalize w:bK (cm l s).q.1 (cm l s).r.1=a;have b:bK s.q.1 (ct s)=a:=by rw[<-w,f2,f3]
 rw[b]at D;have U:ak l (cm l s).2=a.map λn=>lS (bJ a) (relAt l n):=by unfold ak;rw[w]
 rw[U];have d:∀n∈a,(relAt l n).1.1=n:=λn c=>(eY (D n c)).2
 have g:∀x∈bI (a.map λn=>lS (bJ a) (relAt l n)),∃n∈a,x=lS (bJ a) (relAt l n):=λx hx=>by
  obtain⟨n,c,rfl⟩:=aN.1 (fQ.1 hx);exact⟨n,c,rfl⟩
 have k:∀n∈a,lS (bJ a) (relAt l n)∈bI (a.map λn=>lS (bJ a) (relAt l n)):=λn c=>fQ.2 (aN.2 ⟨n,c,rfl⟩)
 have h7:M a<=2:=by rw[<-w];unfold bK;split<;>simp
 have z:(bI (a.map λn=>lS (bJ a) (relAt l n))).Pairwise λx y:zX=>Op.bytesLess x.1.1 y.1.1=Z:=by
  by_cases H:(ct s==[])=Z
  .have e:a=[s.q.1]:=by rw[<-b];unfold bK;rw[zf H]
   rw[e];simp[bI]
  .have e:a=[s.q.1,ct s]:=by rw[<-b];unfold bK;rw[zh H]
   have n1:=d s.q.1 (by rw[e];simp);have n2:=d (ct s) (by rw[e];simp);rw[e];show(bI [lS _ (relAt l s.q.1),lS _ (relAt l (ct s))]).Pairwise _;rw[mS];split
   next h=>simp only[List.pairwise_cons,eh,forall_eq,List.not_mem_nil,false_implies,implies_true,List.Pairwise.nil,and_true];exact h
   next h=>simp only[List.pairwise_cons,eh,forall_eq,List.not_mem_nil,false_implies,implies_true,List.Pairwise.nil,and_true];refine jv (by simpa using h) ?_;show(relAt l (ct s)).1.1≠(relAt l s.q.1).1.1;rw[n1,n2];exact λe=>h6 e.symm
 generalize C:bI (a.map λn=>lS (bJ a) (relAt l n))=o at g k z;have i:∀n∈a,LE.le (α:=Int) 0 (ab o n):=λn c=>by
  have:=GI (k n c)
  rwa [show(lS (bJ a) (relAt l n)).1.1=n from d n c]at this
 have h4:dO o:=hB.src (p:=bJ a) (by rw[<-C,ql,bR];omega) z (λy hy=>by
  obtain⟨n,c,rfl⟩:=g y hy;exact⟨_,(eY (D n c)).1,rfl⟩) (λn c=>i n ((nF _ _).1 c))
 have P:∀x∈o,gh x:=λx hx=>by
  obtain⟨n,c,rfl⟩:=g x hx;have:=A _ (eY (D n c)).1;exact⟨this.uq,aB (List.length_filter_le _ _) this.rf,this.rw⟩
 have h0:∀n∈a,aO o n=Me (bJ a) (aO l n):=λn c=>by
  have⟨h1,h2⟩:=eY (i n c);have⟨m,hm,e⟩:=g _ h1;have:m=n:=by
   rw[e]at h2;rw[<-d m hm];exact h2
  subst this;show(relAt o m).1=_;rw[e];rfl
 have v:dp (cm l s).2 (a.map λn=>lS (bJ a) (relAt l n))=s:=by
  refine S5 F hm j sh ?_;have:∃r,a=s.q.1::r:=by rw[<-b];unfold bK;split<;>exact⟨_,rfl⟩
  have⟨r,e⟩:=this;rw[e];rfl
 have h3:two (a.map λn=>lS (bJ a) (relAt l n))=Z:=by
  by_cases H:(ct s==[])=Z
  .have e:a=[s.q.1]:=by rw[<-b];unfold bK;rw[zf H]
   rw[e];rfl
  .have e:a=[s.q.1,ct s]:=by rw[<-b];unfold bK;rw[zh H]
   rw[e];rfl
 refine⟨?_,?_,z,v,P,h3⟩
 .rw[v];refine(XB hp ((iN P).2 h4) (λn c=>?_) (λx hx=>?_) (λho=>Fg j ho)).1.trans (by rw[u];exact G)
  .rw[b]at c|-;refine⟨i n c,?_⟩;rw[h0 n c];refine⟨rfl,rfl,λf h5=>?_⟩;show f∈(aO l n).t.1.filter (λf:bV=>bJ a f.2)↔_;rw[List.mem_filter,(nF _ _).2 h5];simp
  .rw[b];obtain⟨n,c,rfl⟩:=g x hx;have⟨h1,h2⟩:=eY (D n c);exact⟨by show(relAt l n).1.1∈a;rw[h2];exact c,_,h1,rfl⟩
 .rw[hZ]
  conv=>rhs;rw[<-List.map_id a]
  exact List.map_congr_left λn c=>d n c
def zao(x:an)(h:N zl.sl):K (Empty⊕ac):=
 let a:=W h (T 0) (zk zl)
 br (x.1==eR) (chk (zT 0 (M h)) (re (I a.1.q.1) []))
 (br (x.1==iK) (re (I x.u) [])
  (chk (zT 0 (M x.t.1)) (re (I (W x.t.1 (T 0) (zk zi))) [])))
def uB(x:an)(h:N zl.sl):=aA [zi] t0 100000000 (zao x h)
def qJ(x:an)(h:N zl.sl):=(uB x h).isSome
def fu(x:an)(h:N zl.sl):=o1 (uB x h)
def zj6:=FT [ao,zl.sl] [zi] λx=>uB x.1 x.2.1
theorem ze8:FK 171 zj6:=qa.T1 (f:=f171) (keep:=k0) (e:=e0)
abbrev zoH:=fZ [(7,[4,5,52,53,54])]
inductive IG where
 |h7 (l52:aU) (i53:Int) (i54:Int) (ja0:List UInt8) (ja1:List UInt8) (ja2:List UInt8) (ja5:List UInt8) (ja8:List UInt8) (ja9:Int) (ja10:Int) (ja11:List UInt8) (ja12:List UInt8) (ja16:List UInt8) (ja17:Int) (ja18:Int) (ja19:List UInt8) (ja20:List UInt8) (ja22:List UInt8) (jb0:N Q7) (jb1:N Q7) (jb2:N Q7) (jb5:List UInt8) (jb8:zD) (jb9:Int) (jb10:Int) (jb11:zD) (jb12:zD) (jb13:List (N Q6)) (jb16:List UInt8) (jb17:Int) (jb18:Int) (jb19:List UInt8) (jb20:List UInt8) (jb22:N Q7)
 |h7b (l52:aU) (i53:Int) (i54:Int) (ja0:List UInt8) (ja1:List UInt8) (ja2:List UInt8) (ja5:List UInt8) (ja8:List UInt8) (ja9:Int) (ja10:Int) (ja11:List UInt8) (ja12:List UInt8) (ja16:List UInt8) (ja17:Int) (ja18:Int) (ja19:List UInt8) (ja20:List UInt8) (ja22:List UInt8) (jb0:N Q7) (jb1:N Q7) (jb2:N Q7) (jb5:List UInt8) (jb8:zD) (jb9:Int) (jb10:Int) (jb11:zD) (jb12:zD) (jb13:List (N Q6)) (jb16:List UInt8) (jb17:Int) (jb18:Int) (jb19:List UInt8) (jb20:List UInt8) (jb22:N Q7) (lh_2:List (N Q7))
abbrev zr4:IG->Nat×St
 |.h7 h0 u v w y z A C D j h x a b c d e g E F G H P U i k l m n o p q s t=>(7,⟨tm 67 [(4,ptr 0 0),(5,ptr 1 0),(52,O zu h0),(53,I u),(54,I v)],[AO.box [X w,X y,X z,Qc,Qc,X A,Qc,Qc,X C,I D,I j,X h,X x,Qc,Qc,Qc,X a,I b,I c,X d,X e,Qc,X g],AO.box [X E,X F,X G,Qc,Qc,X H,Qc,Qc,X P,I U,I i,X k,X l,O Q6 m,Qc,Qc,X n,I o,I p,X q,X s,Qc,X t]]⟩)
 |.h7b h0 u v w y z A C D j h x a b c d e g E F G H P U i k l m n o p q s t h1=>(7,⟨tm 67 [(4,ptr 0 0),(5,ptr 1 0),(52,O zu h0),(53,I u),(54,I v)],[AO.box [X w,X y,X z,Qc,Qc,X A,Qc,Qc,X C,I D,I j,X h,X x,Qc,Qc,Qc,X a,I b,I c,X d,X e,Qc,X g],AO.box [X E,X F,X G,AV.vec 2,Qc,X H,Qc,Qc,X P,I U,I i,X k,X l,O Q6 m,Qc,Qc,X n,I o,I p,X q,X s,Qc,X t],AO.vec Q7 h1]⟩)
def zaw(x:an)(c:N zl.sl):K (IG⊕ac):=
 let h:=L (x.u>=0)
 let b:=zT 0 (M c)
 let a:=W c (T 0) (zk zl)
 let d:=(M a.1.2.1:Int)
 let e:=W a.1.2.1 (T x.u) (zk zu)
 br (x.1==iK)
 (chk (cond h b Z)
  (br (cond h (L (x.u<d)) J) (chk b (chk (zT x.u (M a.1.2.1)) (re (aS x.1 x.r.1.1 x.2.1 Qc Qc e.1 Qc Qc (xE x.r.1.u) Qc Qc zE x.q.1) []))) (re (aS x.1 x.r.1.1 x.2.1 Qc Qc [] Qc Qc (xE x.r.1.u) Qc Qc zE x.q.1) [])))
 (Tr.to
  (IG.h7 x.r.1.2.1 (M x.r.1.2.1:Int) 0 [] [] [] [] [] 0 0 [] [] [] 0 0 [] [] [] x.1 x.r.1.1 x.2.1 [] (zg.op x.r.1.u) (zg.v x.r.1.u).1 (zg.v x.r.1.u).2.1 (zg.v x.r.1.u).q (zg.s x.r.1.u) (zg.l x.r.1.u) [] 0 0 [] [] x.q.1))
def yl:IG->K (IG⊕ac)
 | .h7 l m i G H P U h0 h1 n o p q s t u v w y z A C D E j h x a b c d e g k=>
  let a0:=l.getD i.toNat (zk zu)
  let a1:=[a0.1]
  br (L (i<m))
  (chk (zT i (M l)) (chk (L (M a1<=1073741824)) (Tr.to (IG.h7b l m (Γ Δ (i+1)) G H P U h0 h1 n o p q s t u v w y z A C D E j h x a b c d e g k a1))))
  (re (aS y z A Qc Qc C Qc Qc [X D,I E,I j,X h,X x,O Q6 a] Qc Qc [X b,I c,I d,X e,X g,Qc] k) [])
 | .h7b l m i G H P U h0 h1 n o p q s t u v w y z A C D E j h x a b c d e g k F=>
  let a0:=l.getD i.toNat (zk zu)
  let a1:=[a0.1]
  br (L (i<m))
  (chk (zT i (M l)) (chk (L (M F+M a1<=1073741824)) (Tr.to (IG.h7b l m (Γ Δ (i+1)) G H P U h0 h1 n o p q s t u v w y z A C D E j h x a b c d e g k (F++a1)))))
  (re (aS y z A (AV.vec 0) Qc C Qc Qc [X D,I E,I j,X h,X x,O Q6 a] Qc Qc [X b,I c,I d,X e,X g,Qc] k) [AO.vec Q7 F])
def Hb(x:an)(h:N zl.sl):=aA [bQ] yl 100000000 (zaw x h)
def Cg(x:an)(h:N zl.sl):=(Hb x h).isSome
def KG(x:an)(h:N zl.sl):=o1 (Hb x h)
def zkB:=FT [ao,zl.sl] [bQ] λx=>Hb x.1 x.2.1
theorem zfG:FK 119 zkB:=qa.T1 (f:=f119) (keep:=zoH) (e:=zr4)
def Vq:=zdm.addL [(171,zj6),(119,zkB)]
theorem MC:zm Vq:=qa.addL<|fc ze8<|fc zfG<|ip
def ztA(x:zX):K (Empty⊕ac):=
 re (X x.1.1) []
def XN(x:zX):=aA [Q7] t0 100000000 (ztA x)
def zrh:=FT [zl] [Q7] λx=>XN x.1
theorem zfy:FK 112 zrh:=qa.T1 (f:=f112) (keep:=k0) (e:=e0)
theorem zfA:FK 112 (ay [zl] [.str] λx=>(x.1.1.1,())):=gQ zfy λ_=>rfl
def zdo:=((((Vq.add 112 (ay [zl] [.str] λx=>(x.1.1.1,()))).add 161 zed).aut 114 f114 2).aut 115 f115 1)
theorem EW:zm zdo:=ib (ib ((MC.add zfA).add zga) (bG kw)) (bG kw)
abbrev zod:=fZ [(6,[1,2,5,6,19,20,21])]
inductive QK where
 |h6 (l1:zH) (l6:List (N Q7)) (l19:zH) (i20:Int) (i21:Int) (z0:zn [CP.d ao])
abbrev zrL:QK->Nat×St
 |.h6 x a l i h z=>(6,⟨tm 55 [(1,O zl x),(2,ptr 0 0),(5,ptr 1 0),(6,O Q7 a),(19,O zl l),(20,I i),(21,I h)],[AO.box (fD [] [CP.d ao] z),AO.box [AV.clo (Fn.func 112) [] []]]⟩)
def zhi(x:an)(h:N zl.sl):K (QK⊕ac):=
 let a:=kT (x.1,x.2.1,x.q.1,(x.r.1.1,x.r.1.2.1,x.r.1.q.1,x.r.1.r.1,x.r.1.t.1,zP x.r.1.u),x.t)
 br ((M h:Int)!=(M a:Int)) (re (I 1) []) (Tr.to (QK.h6 h a h (M h:Int) 0 (x,())))
def yk:QK->K (QK⊕ac)
 | .h6 l g c d i b=>
  let n:=c.getD i.toNat (zk zl)
  let e:=(b.1.1,b.1.2.1,b.1.q.1,(b.1.r.1.1,b.1.r.1.2.1,b.1.r.1.q.1,b.1.r.1.r.1,b.1.r.1.t.1,zP b.1.r.1.u),b.1.t)
  let a:=KG e l
  let j:=(a.1,a.2.1,a.q.1,a.r.1,a.t.1,a.u.1,a.v.1,a.w.1,zP a.x.1,a.y.1,a.z.1,zP a.s.1,a.p)
  let h:=pOf (bI l) j
  let k:=h.2!=0
  let m:=(h.1.1,h.1.2.1,h.1.q.1,(h.1.r.1.1,h.1.r.1.2.1,h.1.r.1.q.1,h.1.r.1.r.1,h.1.r.1.t.1,zP h.1.r.1.u),h.1.t)
  br (L (i<d))
  (chk (zT i (M c)) (chk (zT i (M g)) (br (!n.1.1==g.getD i.toNat (zk Q7)) (re (I 1) []) (Tr.to (QK.h6 l g c d (Γ Δ (i+1)) b)))))
  (chk (L (0<M l)) (chk (L (M l<=1000)) (chk (two l) (chk (Cg e l) (chk (Xs (bI l) j) (chk (cond k Z (G9 e m)) (br (cond k Z (!Ce e m)) (re (I 1) []) (re (I 0) []))))))))
def KF(x:an)(h:N zl.sl):=aA [zi] yk 100000000 (zhi x h)
def xF(x:an)(h:N zl.sl):=(KF x h).isSome
def KE(x:an)(h:N zl.sl):=o1 (KF x h)
def zjZ:=FT [ao,zl.sl] [zi] λx=>KF x.1 x.2.1
theorem ze0:FK 74 zjZ:=EW.T1 (f:=f74) (keep:=zod) (e:=zrL)
def zdp:=zdo.add 74 zjZ
theorem R4:zm zdp:=EW.add ze0
inductive zv0 where
 |h4 (l1:zH) (l6:List (N Q7)) (i8:Int)
 |h12 (l1:zH) (l6:List (N Q7)) (i8:Int) (i12:Int) (z0:zn [CP.d zl])
 |h12b (l1:zH) (l6:List (N Q7)) (i8:Int) (i12:Int) (z0:zn [CP.d zl]) (lh_1:eu)
 |h4b (l1:zH) (l6:List (N Q7)) (i8:Int) (lh_0:zH)
 |h12bb (l1:zH) (l6:List (N Q7)) (i8:Int) (i12:Int) (z1:zn [CP.d zl]) (lh_0:zH)
 |h12bbb (l1:zH) (l6:List (N Q7)) (i8:Int) (i12:Int) (z1:zn [CP.d zl]) (lh_0:zH) (lh_2:eu)
def xn:=zdp
theorem vP:zm xn:=R4
def eD(p:an)(s:zH):Int:=if p.1=eR then(W s 0 (zk zl)).1.q.1 else if p.1=iK then p.u else W p.t.1 0 (zk zi)
variable {p:an}
theorem Tk(b:0<M l)(c:p.1≠eR->p.1≠iK->0<M p.t.1):uB p l=some (eD p l,()):=by
 have d:zT 0 (M l)=Z:=zx (i:=0) b;unfold eD;by_cases h:p.1=eR
 .rw[zf h];have e:(p.1==eR)=Z:=by simp[h]
  refine zG (r:=(I (W l 0 (zk zl)).1.q.1,[])) ?_ rfl;simp only[zao,Q9,e,d,zj];rfl
 .rw[zh h];have e:(p.1==eR)=J:=by simpa using h
  by_cases x:p.1=iK
  .rw[zf x];have a:(p.1==iK)=Z:=by simp[x]
   refine zG (r:=(I p.u,[])) ?_ rfl;simp only[zao,Q9,e,a,zj,zO,zr]
  .rw[zh x];have a:(p.1==iK)=J:=by simpa using x
   have g:zT 0 (M p.t.1)=Z:=zx (i:=0) (c h x);refine zG (r:=(I (W p.t.1 0 (zk zi)),[])) ?_ rfl;simp only[zao,Q9,e,a,g,zj,zO,zr];rfl
def s59(p:an)(n i:Int):List zD->IG
 |[]=>.h7 p.r.1.2.1 n i [] [] [] [] [] 0 0 [] [] [] 0 0 [] [] [] p.1 p.r.1.1 p.2.1 [] (zg.op p.r.1.u) (zg.v p.r.1.u).1 (zg.v p.r.1.u).2.1 (zg.v p.r.1.u).q (zg.s p.r.1.u) (zg.l p.r.1.u) [] 0 0 [] [] p.q.1
 |a::r=>.h7b p.r.1.2.1 n i [] [] [] [] [] 0 0 [] [] [] 0 0 [] [] [] p.1 p.r.1.1 p.2.1 [] (zg.op p.r.1.u) (zg.v p.r.1.u).1 (zg.v p.r.1.u).2.1 (zg.v p.r.1.u).q (zg.s p.r.1.u) (zg.l p.r.1.u) [] 0 0 [] [] p.q.1 (a::r)
theorem zbc{i:Nat}(h:List zD)(x:i<M p.r.1.2.1)(b:M h<=2000000)(c:i<=2000000):(yl (s59 p (M p.r.1.2.1:Int) (i:Int) h)).val=some (.inl (s59 p (M p.r.1.2.1:Int) ((i+1:Nat):Int) (h++[(W p.r.1.2.1 i (zk zu)).1]))):=by
 cases h with
 | nil=>
  show(yl (.h7 _ _ _ _ _ _ _ _ _ _ _ _ _ _ _ _ _ _ _ _ _ _ _ _ _ _ _ _ _ _ _ _ _ _)).val=_;simp only[yl,Q9,z6 x,zx x,zj,bB];rw[zf sw,zz i um];rfl
 | cons a r=>
  show(yl (.h7b _ _ _ _ _ _ _ _ _ _ _ _ _ _ _ _ _ _ _ _ _ _ _ _ _ _ _ _ _ _ _ _ _ _ _)).val=_;simp only[yl,Q9,z6 x,zx x,zj,bB];rw[zf (by simp at b|-;omega),zz i um];rfl
theorem KH(D:0<M l)(H:M p.r.1.2.1<=2000000):Hb p l=some (dp p l,()):=by
 have b:zT 0 (M l)=Z:=zx (i:=0) D;by_cases x:p.1=iK
 .have e:(p.1==iK)=Z:=by simp[x]
  unfold dp;rw[zf x,zf x];by_cases h:LE.le (α:=Int) 0 p.u/\LT.lt (α:=Int) p.u (M (W l 0 (zk zl)).1.2.1)
  .rw[zf h];have w:L (GE.ge (α:=Int) p.u 0)=Z:=zL h.1;have y:L (LT.lt (α:=Int) p.u (M (W l 0 (zk zl)).1.2.1))=Z:=zL h.2;have z:zT p.u (M (W l 0 (zk zl)).1.2.1)=Z:=by
    unfold zT;rw[ar];exact⟨zL h.1,zL (by have:=h.1;have:=h.2;omega)⟩
   have s:(zaw p l).val=some (.inr (aS p.1 p.r.1.1 p.2.1 Qc Qc ((W (W l 0 (zk zl)).1.2.1 (T p.u) (zk zu)).1) Qc Qc (xE p.r.1.u) Qc Qc zE p.q.1,[])):=by
    show(br _ (chk _ (br _ (chk _ (chk _ (re _ _))) (re _ _))) (Tr.to _)).val=_;have j:L (p.u>=0)=Z:=w;simp only[Q9,e,j,b,bU,zj];have k:L (p.u<(↑(M (W l (T 0) (zk zl)).1.2.1):Int))=Z:=y;have m:zT p.u (M (W l (T 0) (zk zl)).1.2.1)=Z:=z;rw[zf k,zf m];rfl
   refine zG s ?_;rw[<-zt p.r.1.u];rfl
  .rw[zh h];have s:(zaw p l).val=some (.inr (aS p.1 p.r.1.1 p.2.1 Qc Qc [] Qc Qc (xE p.r.1.u) Qc Qc zE p.q.1,[])):=by
    have A:(cond (L (p.u>=0)) (L (p.u<(↑(M (W l (T 0) (zk zl)).1.2.1):Int))) J)=J:=by
     by_cases g:LE.le (α:=Int) 0 p.u
     .have v:¬LT.lt (α:=Int) p.u (M (W l 0 (zk zl)).1.2.1):=λc=>h ⟨g,c⟩
      rw[show L (p.u>=0)=Z from zL g,bU];exact aQ v
     .rw[show L (p.u>=0)=J from aQ g,bT]
    have C:(cond (L (p.u>=0)) (zT 0 (M l)) Z)=Z:=by rw[b];cases L (p.u>=0)<;>rfl
    show(br _ (chk _ (br _ (chk _ (chk _ (re _ _))) (re _ _))) (Tr.to _)).val=_;simp only[Q9,e,zj];rw[zf C];simp only[A,zO,zr]
   refine zG s ?_;rw[<-zt p.r.1.u];rfl
 .have e:(p.1==iK)=J:=by simpa using x
  have E:(zaw p l).val=some (.inl (s59 p (M p.r.1.2.1:Int) ((0:Nat):Int) [])):=by
   show(br _ (chk _ (br _ (chk _ (chk _ (re _ _))) (re _ _))) (Tr.to _)).val=_;simp only[Q9,e,zO,zr];rfl
  have o:=z8.all (t:=yl) 1 (λi=>s59 p (M p.r.1.2.1:Int) (i:Int) ((p.r.1.2.1.take i).map λc:ci=>c.1)) (M p.r.1.2.1) λi b=>z8.of (by
   rw[zbc _ b sg S];congr 3;rw[ch b,fx,bf,zQ b];rfl)
  simp only[List.take_zero,oU,jg]at o;unfold dp;rw[zh x,zh x];generalize P:(p.r.1.2.1.map λc:ci=>c.1)=n at o;have d:∃r,aF yl 1 (s59 p (M p.r.1.2.1:Int) (M p.r.1.2.1:Int) n) r/\bc r.2 [bQ] r.1=some ((p.1,p.r.1.1,p.2.1,n,[],[],[],[],p.r.1.u,[],[],B2,p.q.1),()):=by
   cases n with
   | nil=>
    refine⟨_,aF.of (by
     show(yl (.h7 _ _ _ _ _ _ _ _ _ _ _ _ _ _ _ _ _ _ _ _ _ _ _ _ _ _ _ _ _ _ _ _ _ _)).val=_;simp only[yl,Q9,aw,zO,zr];rfl),?_⟩
    rw[<-zt p.r.1.u];rfl
   | cons a r=>
    refine⟨_,aF.of (by
     show(yl (.h7b _ _ _ _ _ _ _ _ _ _ _ _ _ _ _ _ _ _ _ _ _ _ _ _ _ _ _ _ _ _ _ _ _ _ _)).val=_;simp only[yl,Q9,aw,zO,zr];rfl),?_⟩
    rw[<-zt p.r.1.u];rfl
  have⟨r,F,G⟩:=d;exact zF E (o.ends F) S G
structure It (p:an) (src:zH):Prop where
 names:src.map (λx:zX=>x.1.1)=bK p.2.1 p.q.1
 two:two src=Z
 plan:bb (bI src) (dp p src)=(0,p)
 few:QD (dp p src)
 short:∀x∈bI src,gh x
 cols:M p.r.1.2.1<=1000
 same:G9 p p=Z/\Ce p p=Z
theorem qI(h:two l=Z):0<M l/\M l<=2:=by
 match l,h with
 |[_],_=>simp
 |[_,_],_=>simp
theorem za2(h:It p l):KF p l=some (0,()):=by
 have⟨d,v⟩:=qI h.two;have x:(bK p.2.1 p.q.1).length=M l:=by rw[<-h.names,bR]
 have u:(zhi p l).val=some (.inl (.h6 l (bK p.2.1 p.q.1) l (M l:Int) ((0:Nat):Int) (p,()))):=by
  have e:((M l:Int)!=((bK p.2.1 p.q.1).length:Int))=J:=by rw[x];simp
  show(br ((M l:Int)!=((bK p.2.1 p.q.1).length:Int)) _ _).val=_;rw[e];rfl
 have o:=z8.all (t:=yk) 1 (λi=>.h6 l (bK p.2.1 p.q.1) l (M l:Int) (i:Int) (p,())) (M l) λi b=>z8.of (by
  have s:(!((W l i (zk zl)).1.1:zD)==(bK p.2.1 p.q.1).getD i (zk Q7))=J:=by
   rw[<-h.names,bf,bf,b8,zQ b];simp
  simp only[yk,Q9,z6 b,zx b,zx (show i<(bK p.2.1 p.q.1).length by omega),zj,bB,s,zO,zr];rw[zz i um])
 have a:=KH (p:=p) d (aB h.cols S);have g:Cg p l=Z:=by unfold Cg;rw[a];rfl
 have j:KG p l=dp p l:=by unfold KG;rw[a];rfl
 have c:G8 (bI l) (dp p l)=some ((bb (bI l) (dp p l)).2,(bb (bI l) (dp p l)).1,()):=Xt h.short (by rw[ql];omega) h.few;rw[h.plan]at c;have m:Xs (bI l) (dp p l)=Z:=by unfold Xs;rw[c];rfl
 have n:pOf (bI l) (dp p l)=(p,0):=by unfold pOf;rw[c];rfl
 refine zF u (o.ends (k:=1) (r:=(I 0,[])) (aF.of ?_)) S rfl;simp only[yk,Q9,aw,zt,aJ,g,j,m,n,h.two,h.same.1,h.same.2,zO,zr];simp[d,show M l<=1000 by omega]
theorem G7(h:It p l):xF p l=Z/\KE p l=0:=by have:=za2 h;exact⟨by unfold xF;rw[this];rfl,by unfold KE;rw[this];rfl⟩
def wE(a b:zw):Bool:=a.1==b.1&&(a.2.1==b.2.1&&(a.q==b.q&&Z))
variable {a:zw}
theorem gI{b:zw}:wE a b=Z↔a=b:=by have⟨h,x,c⟩:=a;have⟨d,e,g⟩:=b;unfold wE;simp
def Pr(a:Int)(v:zw)(h:zo):Bool:=bif wE (W h a.toNat (zk Q)) v then v.1!=0 else J
theorem lH{e:Int}{h:zo}:Pr e a h=Z↔W h e.toNat (zk Q)=a/\a.1≠0:=by unfold Pr;rw[<-gI];cases wE (W h e.toNat (zk Q)) a<;>simp
def rX(u:zw):zo->zo
 |[]=>[u]
 |o::r=>if LT.lt (α:=Int) (aV o u) 0 then o::rX u r else if(o==u)=Z then o::r else u::o::r
def qR(l:zo):zo:=l.foldl (λa u=>if((u:zw).1==0)=Z then a else rX u a) []
theorem mW{b:zw}(j:aP a=Z)(l:aP b=Z)(h:¬Aj a b):a=b\/Aj b a:=by
 have p:bw a=a:=by unfold bw;rw[j];rfl
 have kb:bw b=b:=by unfold bw;rw[l];rfl
 rw[uC,p,kb]at h|-;have⟨k,n,s⟩:=a;have⟨o,q,c⟩:=b;unfold Lx at h|-;simp only at h|-;have d:¬k<o:=λe=>h (.inl e)
 rcases Int.lt_or_eq_of_le (Int.not_lt.1 d)with e|e
 .exact .inr (.inl e)
 have i:¬n<q:=λg=>h (.inr ⟨e.symm,.inl g⟩)
 rcases Int.lt_or_eq_of_le (Int.not_lt.1 i)with g|g
 .exact .inr (.inr ⟨e,.inl g⟩)
 by_cases x:s=c
 .exact .inl (by rw[e,g,x])
 .refine .inr (.inr ⟨e,.inr ⟨g,jv ?_ x⟩⟩);cases m:Op.bytesLess s c
  .rfl
  .exact zp (.inr ⟨e.symm,.inr ⟨g.symm,m⟩⟩) h
theorem tP{a:zw}:∀{l:zo}{x:zw},x∈rX a l↔x=a\/x∈l
 |[],x=>by simp[rX]
 | o::r,x=>by
  unfold rX;split
  .rw[bD,tP,bD];exact⟨λh=>by rcases h with h|h|h<;>simp[h],λh=>by rcases h with h|h|h<;>simp[h]⟩
  .split
   next h=>have h:=aY h;subst h;simp
   .simp
theorem Fz{a:zw}(j:aP a=Z):∀{l:zo},(∀x∈l,aP x=Z)->l.Pairwise Aj->(rX a l).Pairwise Aj
 |[],_,_=>by simp[rX]
 | o :: r,hl,h=>by
  have⟨g,k⟩:=List.pairwise_cons.1 h;unfold rX;split
  .rename_i c;refine List.pairwise_cons.2 ⟨λx b=>?_,Fz j (λx b=>hl x (by simp[b])) k⟩;rcases tP.1 b with rfl|b
   .exact c
   .exact g x b
  .rename_i m;split
   .exact h
   .rename_i d;have i:Aj a o:=by
     rcases mW (hl o sw) j m with e|e
     .exact zp (by rw[e];simp) d
     .exact e
    refine List.pairwise_cons.2 ⟨λx b=>?_,h⟩;rcases bD.1 b with rfl|b
    .exact i
    .exact fT i (g x b)
theorem vS:∀(l a:zo),(∀x∈l,aP x=Z)->(∀x∈a,aP x=Z)->a.Pairwise Aj->
  (l.foldl (λa u=>if((u:zw).1==0)=Z then a else rX u a) a).Pairwise Aj/\∀x,x∈l.foldl (λa u=>if((u:zw).1==0)=Z then a else rX u a) a↔x∈a\/(x∈l/\x.1≠0)
 |[],a,_,_,h=>⟨h,λx=>by simp⟩
 | u::r,a,hl,ha,h=>by
  rw[List.foldl_cons];by_cases c:(u.1==0)=Z
  .rw[zf c];have⟨g,i⟩:=vS r a (λx b=>hl x (by simp[b])) ha h;refine⟨g,λx=>(i x).trans ⟨λh=>h.imp id λh=>⟨by simp[h.1],h.2⟩,λh=>h.imp id λh=>⟨?_,h.2⟩⟩⟩;rcases bD.1 h.1 with rfl|d
   .exact zp (aY c) h.2
   .exact d
  .rw[zh c];have j:=hl u sw;have⟨g,i⟩:=vS r (rX u a) (λx b=>hl x (by simp[b])) (λx b=>by
    rcases tP.1 b with rfl|b
    .exact j
    .exact ha x b) (Fz j ha h)
   refine⟨g,λx=>(i x).trans ?_⟩;rw[tP,bD];refine⟨λh=>?_,λh=>?_⟩
   .rcases h with(rfl|h)|h
    .exact .inr ⟨.inl rfl,λe=>c (by rw[e];rfl)⟩
    .exact .inl h
    .exact .inr ⟨.inr h.1,h.2⟩
   .rcases h with h|⟨rfl|h,d⟩
    .exact .inl (.inr h)
    .exact .inl (.inl rfl)
    .exact .inr ⟨h,d⟩
theorem sE{h:zo}(a:∀x∈h,aP x=Z):(qR h).Pairwise Aj/\∀x,x∈qR h↔x∈h/\x.1≠0:=by have⟨b,c⟩:=vS h [] a sw sw;exact⟨b,λx=>(c x).trans sw⟩
theorem HI:∀{l m:zo},l.Pairwise Aj->m.Pairwise Aj->(∀x,x∈l↔x∈m)->l=m
 |[],[],_,_,_=>rfl
 |[],b::m,_,_,h=>by have:=(h b).2 sw;simp at this
 |a::l,[],_,_,h=>by have:=(h a).1 sw;simp at this
 | a::l,b::m,h1,h2,h=>by
  have⟨i,k⟩:=List.pairwise_cons.1 h1;have⟨j,n⟩:=List.pairwise_cons.1 h2;have e:a=b:=by
   rcases bD.1 ((h a).1 sw)with e|e
   .exact e
   .rcases bD.1 ((h b).2 sw)with g|g
    .exact g.symm
    .exact zp (fT (i _ g) (j _ e)) gP
  subst e;rw[HI k n λx=>⟨λd=>?_,λd=>?_⟩]
  .rcases bD.1 ((h x).1 (by simp[d]))with rfl|c
   .exact zp (i _ d) gP
   .exact c
  .rcases bD.1 ((h x).2 (by simp[d]))with rfl|c
   .exact zp (j _ d) gP
   .exact c
theorem J8(u:zw):∀l:zo,(rX u l).length<=M l+1
 |[]=>by simp[rX]
 | o::r=>by
  unfold rX;split
  .have:=J8 u r;simp only[bx];omega
  .split<;>simp
theorem JS:∀(l a:zo),(l.foldl (λa u=>if((u:zw).1==0)=Z then a else rX u a) a).length<=M a+M l
 |[],a=>by simp
 | u::r,a=>by
  rw[List.foldl_cons];refine aB (JS r _) ?_;split
  .simp
  .have:=J8 u a;simp only[bx];omega
theorem TZ(l:zo):(qR l).length<=M l:=by have:=JS l [];simpa[qR]using this
def F0(p:an):Prop:=M p.r.1.2.1<=1000/\M p.r.1.r.1<=1000000/\M p.r.1.t.1<=1000000/\oI 16 p.r.1.u=Z/\M p.t.1<=1000000
theorem mQ:F0 mI:=⟨zU _,zU _,zU _,rfl,zU _⟩
theorem rQ{e:Int}(h:e=0->F0 p):F0 (nB e p).2:=by
 unfold nB;split
 .split
  .exact h (by assumption)
  .exact mQ
 .exact mQ
theorem Ck(d:zH)(x:QD s):F0 (bb d s).2:=by
 have b:=x.sh.names.1;unfold bb;split;rotate_left
 .exact mQ
 split;rotate_left
 .exact mQ
 unfold cm;split
 .refine rQ λ_=>⟨?_,zU _,zU _,x.cp,?_⟩
  .show(fy _ _).length<=_;unfold fy;rw[bR];omega
  .show(xz _ _).length<=_;unfold xz;rw[bR];omega
 split
 .refine rQ λh=>?_
  have a:(aO d s.q.1).2.1.length+(eQ d s.p).2.1.length<=9:=by
   unfold fY at h;split at h
   .cases h
   split at h;rotate_left
   .cases h
   split at h
   .cases h
   .omega
  have c:=pz (eQ d s.p).q.1 (M (eQ d s.p).2.1);refine⟨?_,zU _,zU _,x.cp,?_⟩
  .show(_++nM _ _).length<=_;unfold nM;rw[cL,bR];omega
  .show(tU _ _).length<=_;unfold tU;rw[bR];omega
 split
 .refine rQ λ_=>⟨?_,zU _,zU _,x.cp,?_⟩
  .show(yh _ _).length<=_;unfold yh;simp
  .show(xz _ _).length<=_;unfold xz;rw[bR];omega
 .exact mQ
def fj(db:zH)(p:an):zX:=W (ak db p) 0 (zk zl)
structure bj (db:zH) (p:an):Prop where
 go:It p (ak db p)
 rel:eI (fj db p)
 plc:uB p (ak db p)=some (eD p (ak db p),())
 inn:∀row∈(fj db p).2,zT (eD p (ak db p)) (M row)=Z/\M row=M (fj db p).1.2.1
 fnd:∀n∈bK p.2.1 p.q.1,LE.le (α:=Int) 0 (ab db n)
 mig:jL p.1
 col:LE.le (α:=Int) 0 (eD p (ak db p))/\LT.lt (α:=Int) (eD p (ak db p)) (M (fj db p).1.2.1)
theorem XA(z:∀x∈l,gh x)(hp:(bb l s).1=0)(U:QD s):bj l (bb l s).2:=by
  have⟨hm,D,hb,A,h8,m⟩:=yL hp;have⟨c1,c2,_,c4,c5,H⟩:=S4 z hp U.sh;have hB:=(iN z).1 hb;have⟨b1,b2,b3,b4,b5⟩:=Ck l U;have k:=gW D;have w:(cm l s).1=0:=by rw[<-m];exact hp
  have⟨f1,f2,f3⟩:=Aw w;rw[m]at c1 c2 c4 c5 H b1 b2 b3 b4 b5|-;have C:∀n∈bK (cm l s).q.1 (cm l s).r.1,LE.le (α:=Int) 0 (ab l n):=by rw[f2,f3];exact A
  have h0:LE.le (α:=Int) 0 (ab l s.q.1):=A _ (by unfold bK;split<;>simp);have hx:fj l (cm l s).2=lS (bJ (bK s.q.1 (ct s))) (relAt l s.q.1):=by
    unfold fj ak;rw[f2,f3];have:∃r,bK s.q.1 (ct s)=s.q.1::r:=by unfold bK;split<;>exact⟨_,rfl⟩
    have⟨r,e⟩:=this;rw[e];rfl
  have y:eI (fj l (cm l s).2):=by rw[hx];exact(hB.rels _ (eY h0).1).cut
  have j:(fj l (cm l s).2).1.2.1=(aO l s.q.1).2.1:=by rw[hx];rfl
  have⟨m1,m2⟩:=Cf (b:=(cm l s).2) S S S b4 S;have o:∀g∈(fj l (cm l s).2).2,M g=M (fj l (cm l s).2).1.2.1:=λg G=>(dB (y.fits g G)).1
  have c : (LE.le (α:=Int) 0 (eD (cm l s).2 (ak l (cm l s).2))∧LT.lt (α:=Int) (eD (cm l s).2 (ak l (cm l s).2)) (Io (fj l (cm l s).2).1.2.1))∧((cm l s).2.1≠eR→(cm l s).2.1≠iK→0 < Io (cm l s).u.1):=by
    unfold eD;rw[f1];rcases hm with i|i|i
    · rw[zf i]
      refine⟨?_,λh=>zp i h⟩;have⟨k1,_⟩:=gS y.may;exact k1
    · have E:s.1≠eR:=by rw[i];decide
      rw[zh E,zf i];refine⟨?_,λ_ h=>zp i h⟩
      have e:(cm l s)=nB (fY (aO l s.q.1) (eQ l s.p) s.u.1 s.p)
          (s.1,s.q.1,s.p,(s.2.1,(aO l s.q.1).2.1++nM (eQ l s.p) (M (eQ l s.p).2.1),(aO l s.q.1).q.1,[],[],s.x.1),
            tU (eQ l s.p).q.1 (M (eQ l s.p).2.1),ah (aO l s.q.1) s.u.1):=by
        unfold cm;rw[zh (by simpa using E),zf (by simp[i])]
      have e0:=w;rw[e]at e0;have⟨t,P⟩:=im e0;have d:¬LT.lt (α:=Int) (ah (aO l s.q.1) s.u.1) 0:=by
        intro h4;unfold fY at t;rw[zf h4]at t;cases t
      have h6:(cm l s).v=ah (aO l s.q.1) s.u.1:=by rw[e,P]
      show LE.le (α:=Int) 0 (cm l s).v/\LT.lt (α:=Int) (cm l s).v _;rw[h6,j];exact⟨S,(gN d).2⟩
    · have E:s.1≠eR:=by rw[i];decide
      have n2:s.1≠iK:=by rw[i];decide
      rw[zh E,zh n2];have e:(cm l s)=nB (qT (aO l s.q.1) s.r.1) (s.1,s.q.1,s.p,(s.2.1,yh (aO l s.q.1) s.r.1,0,[],[],s.x.1),xz (aO l s.q.1) s.r.1,0):=by
        unfold cm;rw[zh (by simpa using E),zh (by simpa using n2),zf (by simp[i])]
      have e0:=w;rw[e]at e0;have⟨t,P⟩:=im e0;have h7:pD (aO l s.q.1) s.r.1=0:=by
        unfold qT at t;split at t
        · assumption
        · exact t
      have d:=pE h7;have h3:(cm l s).u.1=xz (aO l s.q.1) s.r.1:=by rw[e,P]
      have h2:=jl k i;rw[h3,j]
      match h5:s.r.1,h2 with
      | [a,b],_=>
        rw[h5]at d;have ha:=d a sw
        exact ⟨⟨by have:¬ LT.lt (α:=Int) (ah (aO l s.q.1) a) 0:=ha
                   show LE.le (α:=Int) 0 (ah (aO l s.q.1) a);omega,(gN ha).2⟩,λ_ _=>by simp[xz]⟩
  have F:=qI H;refine⟨⟨c2,H,by rw[c1],by rw[c4];exact U,c5,b1,m1,m2.2 rfl⟩,y,Tk F.1 c.2,λg G=>⟨?_,o g G⟩,C,by rw[f1];exact hm,c.1⟩;rw[o g G];unfold zT;rw[ar];have h1:=c.1.1;have h2:=c.1.2;exact⟨zL h1,zL S⟩
end
end Cad
