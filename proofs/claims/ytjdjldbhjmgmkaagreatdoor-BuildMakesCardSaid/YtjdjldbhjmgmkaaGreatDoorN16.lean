/- slices. -/
import Derived.Test.YtjdjldbhjmgmkaaGreatDoorN14
import Derived.Test.YtjdjldbhjmgmkaaGreatDoorN15
namespace Cad
open Go Go.Proofs Go.Sort Tryz
open List renaming length->Io,length->N
open IntKind renaming wrap->Γ,i64->Δ
open Tr renaming val->Q8
open Bool renaming false->Q4,true->Q3,true->Z,false->M
open Option renaming some->Q1,some->Y
open Decidable renaming decide->K,decide->Q0
open Int renaming toNat->W
open List renaming getD->T
open Tr (chk br re)
open AV (nils agg tup ptr kb str sl)
open Cad renaming ow->S,zj->Q,Sem->L,ze->R,ai->J
set_option maxHeartbeats 4000000
theorem wY:∀a b:zN,(Lib.compareBytes a b<0)↔Op.bytesLess a b=Z
 |[],[]=>by simp[Lib.compareBytes,Op.bytesLess]
 |[],_::_=>by simp[Lib.compareBytes,Op.bytesLess]
 |_::_,[]=>by simp[Lib.compareBytes,Op.bytesLess]
 | a::r,b::s=>by
  unfold Lib.compareBytes Op.bytesLess;by_cases x:a<b
  .simp[x]
  .by_cases h:b<a
   .have:a≠b:=λe=>by rw[e]at h;exact zB h (UInt8.lt_irrefl b)
    simp[x,h,this]
   .have:a=b:=UInt8.le_antisymm (UInt8.not_lt.1 h) (UInt8.not_lt.1 x);subst this;simp[wY r s]
theorem Iy:∀s:zN,Op.bytesLess s s=M
 |[]=>rfl
 |a::r=>by simp[Op.bytesLess,Iy r]
theorem Ej:∀{a b c:zN},Op.bytesLess a b=Z->Op.bytesLess b c=Z->Op.bytesLess a c=Z
 |_,[],_,h,_=>by cases‹zN›<;>simp[Op.bytesLess]at h
 |_,_::_,[],_,h=>by simp[Op.bytesLess]at h
 |[],_::_,_::_,_,_=>rfl
 | a::x,b::y,c::z,h,g=>by
  simp only[Op.bytesLess,oF,aO,bc,bX]at h g|-;rcases h with h|⟨rfl,h⟩
  .rcases g with g|⟨rfl,g⟩
   .exact .inl (UInt8.lt_trans h g)
   .exact .inl h
  .rcases g with g|⟨rfl,g⟩
   .exact .inl g
   .exact .inr ⟨rfl,Ej h g⟩
theorem Ei:∀{a b:zN},Op.bytesLess a b=M->a≠b->Op.bytesLess b a=Z
 |[],[],_,h=>zB rfl h
 |[],_::_,h,_=>by simp[Op.bytesLess]at h
 |_::_,[],_,_=>rfl
 | a::x,b::y,h,hne=>by
  simp only[Op.bytesLess,Bool.or_eq_false_iff,ed,Bool.and_eq_false_iff]at h;simp only[Op.bytesLess,oF,aO,bc,bX];by_cases e:b=a
  .subst e;refine .inr ⟨rfl,Ei (h.2.resolve_left sw) λe=>hne (by rw[e])⟩
  .exact .inl (Nat.lt_of_le_of_ne (UInt8.not_lt.1 h.1) λc=>e (UInt8.toNat_inj.1 c))
def gQ:zT->zT
 |[a,b]=>if Op.bytesLess b.1.1 a.1.1=Z then[b,a]else[a,b]
 |l=>l
theorem ut(a b:ag):gQ [a,b]=if Op.bytesLess b.1.1 a.1.1=Z then[b,a]else[a,b]:=rfl
def two(l:zT):Bool:=match l with
 |[_]=>Z
 |[a,b]=>!((a.1.1:zN)==b.1.1)
 |_=>M
theorem zcb{l g:zT}(h:two l=Z)(c:List.Perm g l)(d:g.Pairwise λx y:ag=>¬Lib.compareBytes y.1.1 x.1.1<0):g=gQ l:=by
 match l,h with
 |[a],_=>exact List.perm_singleton.1 c
 | [a,b],h=>
  have k:=c.length_eq;have i:(a.1.1:zN)≠b.1.1:=by simpa[two]using h
  match g,k,c,d with
  |[x,y],_,c,d=>
  have d:¬Lib.compareBytes y.1.1 x.1.1<0:=by simpa using d
  rw[wY]at d;have m:x=a/\y=b\/x=b/\y=a:=by
   have e:x∈[a,b]:=c.mem_iff.1 sw;rcases ce.1 e with rfl|e
   .have:=(List.perm_cons x).1 c;exact .inl ⟨rfl,by simpa using this⟩
   .have j:x=b:=by simpa using e
    subst j;have:=(List.perm_cons x).1 (c.trans (List.Perm.swap x a []));exact .inr ⟨rfl,by simpa using this⟩
  rw[ut];rcases m with⟨rfl,rfl⟩|⟨rfl,rfl⟩
  .rw[zh d]
  .rw[zf (Ei (by simpa using d) i)]
def zj5:ak:=λa h _=>match a with
 | [.vec id,.clo (.func 82) [] [.ptr nb 0]]=>match h id,h nb with
  |.vec zwt l,.box [.clo (.func 78) [] []]=>.chk (two l) (.ok {val:=.tup [],wr:=[(id,.vec zl (gQ l))]})
  |_,_=>.err
 |_=>.err
theorem zye:Go.Proofs.Enters prog 82:=by
  cases h:f82.body with
  | none => have:f82.body.isNone=false:=by kernel_rfl
            rw[h]at this;cases this
  |some c=>exact Go.Proofs.enters_of (fn:=f82) kw kw h
theorem zl3:FK 138 zj5 where
 fn:=⟨f138,kw,kw,kw⟩
 calls:=λw U ρ hp n j0 x5 f fp b hr x2 j7 t h8 j4 j8=>by
  unfold zj5 at b;split at b
  .rename_i id nb;split at b
   .rename_i l c i;simp only[Tr.val_chk,Tr.val_ok,bH]at b;obtain⟨H,rfl⟩:=b;have hl:=hr.len
    match x5,hl,hr with
    |[va,vc],_,hr=>
    have r0:=hr.rv 0 _ va rfl rfl;have r1:=hr.rv 1 _ vc rfl rfl;cases r0 with
    |vec _ _ i6 _=>
    cases r1 with
    |clo _ _ _ vf i9 b hc j9 A=>
    match vf,b,i9,hc,A with
    |[],_,[pv],_,A=>
    have r2:=A 0 _ pv rfl rfl;cases r2 with
    |ptr _ _ j h0=>
    have D:id∈fp:=h8 id (by simp[AV.idsL,AV.ids]);have x3:nb∈fp:=h8 nb (by simp[AV.idsL,AV.ids]);have ob:=t.ob nb x3;have x4:=t.ob id D;rw[i]at ob;rw[c]at x4;obtain⟨b',a,k,e1,i0,x9,x1,j3⟩:=ob;rw[h0]at e1;cases e1;have o:=x1.len;have h7:=x1.rv 0 _ (k.toList[0]'(by rw[<-o];simp)) rfl (aj _);have s:w.cell? ⟨j,0,none⟩=Y (.func (.func 78) #[] #[]):=by
     generalize hx:k.toList[0]'(by rw[<-o];simp)=x at h7;cases h7 with
     |clo _ _ _ vf vc b hc _ _=>
     match vf,b,vc,hc with
     |[],_,[],_=>
     rw[World.cell?,x9];have:k[0]?=Y (Value.func (.func 78) #[] #[]):=by
      rw[<-ru,aj (by rw[<-o];simp),hx]
     simpa using this
    have h5:=x2 j i0;have h9:l≠[]:=λe=>by rw[e]at H;cases H
    have j1:N l<=2:=by
     match l,H with
     |[_],_=>simp
     |[_,_],_=>simp
    refine⟨(zcA (n:=n) (e:=zl) (G:=λ_=>True) (λx y:ag=>Lib.compareBytes x.1.1 y.1.1) (by decide) x2 c x4 i6 h9 (λ_ _=>trivial) ?_).mono ?_,by simp;exact D⟩
    .intro j2 B x8 d j6 hH P x0;have i1:j≠B:=λe=>by
      have:=t.inj id D nb x3 B (by rw[c];exact x0) (by rw[i];exact⟨rfl,_,h0,by simp[cf,e]⟩);subst this;rw[c]at i;cases i
     refine AnyQ.slices_SortFunc Tryz.sortRel 12 isAgg38 sizeOf38 (λp:Pl w U ρ zl (λ_=>True)=>p.1.1) (λp=>p.2.1) (λp=>p.2.2.1) (λp q=>Lib.compareBytes p.1.2.1.1 q.1.2.1.1) ?_ 82 #[.pointer (Y ⟨j,0,none⟩)] B 0 x8 d w zye ?_ hH P S
     .refine⟨λx=>?_,λx y z h g=>?_,λx y z h g=>?_⟩
      .have:=Iy x.1.2.1.1;simp only[ltOf,ed,wY,this];simp
      .simp only[ltOf,bc,wY]at*;exact Ej h g
      .simp only[ltOf,ed,wY]at*;intro C;by_cases e:(x.1.2.1.1:zN)=y.1.2.1.1
       .rw[e]at C;exact g C
       .exact g (Ej (Ei (by simpa using h) e) C)
     .intro m os dk j5 x y;have nm:∀p:Pl w U ρ zl (λ_=>True),∃v1 v2 v3 v4 v5 v6 v7 v8 v9 E F,p.1.1=[.string ⟨(p.1.2.1.1:zN).toArray⟩,v1,v2,v3,v4,v5,v6,v7,v8,v9,E,F]:=by
       rintro⟨⟨cs,q⟩,h1,H,h3,h4⟩;obtain⟨v,i4,i5⟩:=h3 0 (.str q.1.1) rfl;have h1:N cs=12:=h1
       match cs,h1 with
       |[a0,a1,a2,a3,a4,a5,a6,a7,a8,a9,x6,x7],_=>
       have:a0=v:=by simpa using i4
       subst this;cases i5;exact⟨a1,a2,a3,a4,a5,a6,a7,a8,a9,x6,x7,rfl⟩
      obtain⟨v1,v2,v3,v4,v5,v6,v7,v8,v9,E,F,ex⟩:=nm x;obtain⟨u1,u2,u3,u4,u5,u6,u7,u8,u9,i7,i8,ey⟩:=nm y;have u:(sortWorldK (λp:Pl w U ρ zl (λ_=>True)=>p.1.1) 12 w B 0 m dk os).heap[j]?=w.heap[j]?:=iQ dk h5 i1
      have:=Tryz.cmp56 ⟨(x.1.2.1.1:zN).toArray⟩ ⟨(y.1.2.1.1:zN).toArray⟩ v1 v2 v3 v4 v5 v6 v7 v8 v9 E F u1 u2 u3 u4 u5 u6 u7 u8 u9 i7 i8 j (sortWorldK (λp:Pl w U ρ zl (λ_=>True)=>p.1.1) 12 w B 0 m dk os)
       (by rw[World.cell?_of_block u];exact s) (ie h5 (by unfold sortWorldK grow putRowK;simp[Sort.ahead]))
      show Calls prog 82 (#[Value.agg x.1.1.toArray,Value.agg y.1.1.toArray]++#[Value.pointer (Y ⟨j,0,none⟩)]) _ _;rw[ex,ey];exact this
    .rintro e' w' ⟨l',i2,i3,v',U',ρ',rfl,h6⟩;rw[zcb H i2 i3]at h6;exact⟨v',U',ρ',rfl,h6⟩
   .simp at b
  .simp at b
open Go
variable {b:Nat}
theorem NM{n b1 b2 m:Nat}(h:b<128):Lib.decodeN n b b1 b2 m=(b,1):=by unfold Lib.decodeN;rw[zf h]
theorem KN{n b1 b2 b3:Nat}(h:¬b<128):128<=(Lib.decodeN n b b1 b2 b3).1:=by
 unfold Lib.decodeN;rw[zh h];repeat' split
 all_goals(simp only;omega)
theorem O4{p:Nat->Bool}(j:∀c:Nat,p c=Z↔(c<32\/c>126))(s:List UInt8):∀(f x:Nat),N s<=x+f->(Lib.idxFuncFrom p Z ⟨s.toArray⟩ f x<0↔∀(i:Nat)(h:i<N s),x<=i->32<=s[i].toNat/\s[i].toNat<=126)
 | 0,x,h=>by
  simp only[Lib.idxFuncFrom];exact⟨λ_ i b d=>zB b (by omega),λ_=>by decide⟩
 | f + 1,x,h=>by
  have k:(⟨s.toArray⟩:ByteArray).size=N s:=by simp[ByteArray.size]
  rw[Lib.idxFuncFrom,k];by_cases a:x<N s
  .have m:((⟨s.toArray⟩:ByteArray).get! x)=s[x]:=by
    simp[ByteArray.get!,a]
   rw[zf a,Lib.decode_at,m];by_cases l:s[x].toNat<128
   .rw[NM l];simp only;by_cases g:p s[x].toNat=Z
    .rw[zf g];have:=(j _).1 g;exact⟨λh=>zB h (by omega),λh=>by have:=h x a (zR _);omega⟩
    .rw[zh g,O4 j s f (x+1) (by omega)];have q:¬(s[x].toNat<32\/s[x].toNat>126):=λh=>g ((j _).2 h)
     refine⟨λh i b d=>?_,λh i b d=>h i b (by omega)⟩;by_cases e:i=x
     .subst e;omega
     .exact h i b (by omega)
   .have o:=KN (n:=(⟨s.toArray⟩:ByteArray).size-x) (b1:=((⟨s.toArray⟩:ByteArray).get! (x+1)).toNat) (b2:=((⟨s.toArray⟩:ByteArray).get! (x+2)).toNat) (b3:=((⟨s.toArray⟩:ByteArray).get! (x+3)).toNat) l;rw[zf ((j _).2 (by omega))];exact⟨λh=>zB h (by omega),λh=>by have:=h x a (zR _);omega⟩
  .rw[zh a];exact⟨λ_ i b d=>zB b (by omega),λ_=>by decide⟩
theorem zaL{p:Nat->Bool}(d:∀c:Nat,p c=Z↔(c<32\/c>126))(s:List UInt8):Lib.idxFunc p Z ⟨s.toArray⟩<0↔∀b∈s,32<=b.toNat/\b.toNat<=126:=by
 have e:(⟨s.toArray⟩:ByteArray).size=N s:=by simp[ByteArray.size]
 unfold Lib.idxFunc;rw[O4 d s _ 0 (by omega)];constructor
 .intro h b a;obtain⟨i,x,rfl⟩:=fN a;exact h i x (aK _)
 .intro h i x _;exact h _ (bh x)
open Go Go.Proofs
variable {g:Bool}
theorem gi{h:Bool}(x:g=Z)(a:h=Z):(ite (g=Z) h M)=Z:=by rw[zf x];exact a
variable {i:Nat}
theorem fi(h:i<=b):K (i<=b)=Z:=zC h
variable {v:zo}
theorem Kl(h:bg v=Z)(b:(v.1==2)=Z):N v.2.2<=40:=by
 have e:v.1=2:=by simpa using b
 unfold bg at h;rw[e]at h;simp only[show((2:Int)==0)=M from rfl,show((2:Int)==1)=M from rfl,show((2:Int)==2)=Z from rfl,zA,zm,zi]at h;cases x:v.2.1==0
 .rw[x]at h;simp at h
 .rw[x]at h;cases a:K ((N v.2.2:Int)<=40)
  .rw[a]at h;simp at h
  .have:=lq a;omega
theorem Qr(v:zo):Bv v=Z:=by
 unfold Bv;split
 .rfl
 .rename_i h;have h:bg v=Z:=by simpa using h
  split
  .rfl
  .split
   .rename_i x;have c:=Kl h x;have a:=mP v.2.2 [39] pH;have b:(Lib.replaceAll v.2.2 [39] pH).length<=200:=by
     simp only[fB,qK]at a;omega
    refine gi ?_ (gi (fi ?_) (gi (fi ?_) rfl))
    .unfold yp;simp;omega
    .simp;omega
    .simp;omega
   .rfl
theorem Bw(v:zo):(jd v).length<=300:=by
 unfold jd;split
 .simp
 .rename_i h;have h:bg v=Z:=by simpa using h
  split
  .have:=Jz v.2.1;omega
  .split
   next x=>have b:=Kl h x;have a:=mP v.2.2 [39] pH;simp only[fB,qK]at a;simp;omega
   .split
    .split<;>simp
    .simp
variable {x:zN}
theorem Kr(h:eS x=Z):N x<=16:=by
 have h:sS x=Z:=h;unfold sS at h;by_cases b:(N x:Int)<=16
 .omega
 .exfalso;rw[aC b]at h;cases a:K ((N x:Int)>=1)<;>rw[a]at h<;>simp at h
variable {c:Int}
theorem zaB{g:zg->Int->Int->Bool×Int}{e:zg}{n:Int}(h:(CG g e c n).1=Z)(b:e.op=fh):N e.s<=16:=by
 unfold CG at h;split at h
 .cases h
 .split at h
  next x=>rw[b]at x;simp at x
  .split at h
   .cases x:bF e.v
    .rw[x]at h;simp at h
    .rw[x]at h;cases a:eS e.s
     .rw[a]at h;simp at h
     .exact Kr a
   next x=>rw[b]at x;simp at x
theorem M0(s:zN):(Lib.toUpperA s).length=N s:=by simp[Lib.toUpperA]
theorem Eu:∀(a:Nat)(e:zg)(d n:Int),a<=16->(jg a e d n).1=Z->iG a e=Z/\(bn a e).length<=400*2^a-100
 |0,_,_,_,_,h=>by cases h
 | a + 1,e,d,n,hN,h=>by
  rw[jg]at h;obtain⟨t,q⟩:=A2 h;have hp:2^a<=2^15:=Il S S;have B:1<=2^a:=Nat.one_le_two_pow;have C:2^(a+1)=2*2^a:=by rw[pD];omega
  have g:∀x∈e.l,iG a x=Z/\(bn a x).length<=400*2^a-100:=by
   intro x w;rcases q with q|q
   .exfalso;have:dU e.op=0:=by
     rcases q with q|q<;>rw[q]<;>decide
    rw[this]at t;have:e.l=[]:=DY S;rw[this]at w;simp at w
   .obtain⟨m,z⟩:=xC e.l _ q x w;exact Eu a x _ _ S z
  have o:∀i,i<e.l.length->e.l.getD i (Q Sh.expr)∈e.l:=by
   intro i y;rw[bD,aj y];exact bh y
  rw[iG,bn];unfold CX vM;rcases nH e.op with⟨k,c|c⟩|⟨k,c|c⟩|⟨k,c⟩|k
  .rw[c];simp only[beq_self_eq_true,zi];refine⟨gi (Qr _) rfl,?_⟩;have:=Bw e.v;omega
  .have hs:=zaB h c;rw[c];refine⟨rfl,?_⟩;show N e.s<=_;omega
  .rw[k]at t;have j:e.l.length=1:=by omega
   obtain⟨u,p⟩:=g _ (o 0 S);rw[c];refine⟨gi ?_ (gi u (gi (fi ?_) (gi (fi ?_) rfl))),?_⟩
   .simp[zK,j]
   .simp at p|-;omega
   .simp at p|-;omega
   .show(wQ++bn a (e.l.getD 0 (Q Sh.expr))++[41]).length<=_;simp at p|-;omega
  .rw[k]at t;have j:e.l.length=1:=by omega
   obtain⟨u,p⟩:=g _ (o 0 S);rw[c];refine⟨gi ?_ (gi u (gi (fi ?_) (gi (fi ?_) rfl))),?_⟩
   .simp[zK,j]
   .simp at p|-;omega
   .simp at p|-;omega
   .show([40]++bn a (e.l.getD 0 (Q Sh.expr))++Ed).length<=_;simp at p|-;omega
  .rw[k]at t;have j:e.l.length=2:=by omega
   obtain⟨u,p⟩:=g _ (o 0 S);obtain⟨F,G⟩:=g _ (o 1 S);have D:(K (e.op.length<=140737488355328)&&e.op.all λb=>K (b.toNat<128))=Z:=by
    rcases c with c|c|c|c|c|c<;>rw[c]<;>decide
   have A:e.op.length<=3:=by
    rcases c with c|c|c|c|c|c<;>rw[c]<;>simp
   have E:=M0 e.op;have H:(e.op==pI)=M:=by rcases c with c|c|c|c|c|c<;>rw[c]<;>rfl
   have P:(e.op==fh)=M:=by rcases c with c|c|c|c|c|c<;>rw[c]<;>rfl
   have U:(e.op==oH)=M:=by rcases c with c|c|c|c|c|c<;>rw[c]<;>rfl
   have n4:(e.op==qM)=M:=by rcases c with c|c|c|c|c|c<;>rw[c]<;>rfl
   simp only[H,P,U,n4,zA,zm];refine⟨gi ?_ (gi u (gi (fi ?_) (gi (fi ?_) (gi D (gi (fi ?_) (gi (fi ?_) (gi ?_ (gi F (gi (fi ?_) (gi (fi ?_) rfl)))))))))),?_⟩
   .simp[zK,j]
   all_goals first
    |(simp[zK,j];done)
    |(simp at p G|-;omega)
  .rw[k]at t;omega
theorem K8(e:zg):tk e=Z:=by
 unfold tk;split
 .rfl
 next h=>exact gi (Eu 16 e 1 0 S (by simpa[dW]using h)).1 rfl
theorem RE(e:zg):(pQ e).1.length<=30000000:=by
 unfold pQ;split
 .simp
 next h=>have:=(Eu 16 e 1 0 S (by simpa[dW]using h)).2;show(bn 16 e).length<=_;omega
theorem C4(p:Int->Bool):∀s:zN,dR p s<=N s
 |[]=>by simp[dR]
 | c::r=>by
  have:=C4 p r;rw[dR];split<;>simp<;>omega
theorem uj(f m:Int->Bool)(s:zN):bJ f m s<=N s:=by
 cases s with
 |nil=>simp[bJ]
 | cons c r=>
  have:=C4 m r;rw[bJ];split<;>simp<;>omega
theorem zcC(i:Nat)(h:i<=4000000000):Γ Δ (i:Int)=(i:Int):=by
 have:=zt (i-1) um;cases i with
 |zero=>rfl
 |succ i=>simpa using this
theorem sV(i:Nat)(h:i<=4000000000):Γ Δ ((i:Int)+1)=((i+1:Nat):Int):=zt i um
theorem qv:∀(n:Nat)(s:zN)(i:Nat)(a:Int)(b:zN),1<=i->i<=N s->N s+2<=n+i->N s<=1000000000->kf n s (i:Int) a b=Z
 |0,s,i,a,b,e,g,j,c=>by omega
 | n + 1,s,i,a,b,e,g,j,c=>by
  rw[kf];split
  .rename_i h;have h:i<N s:=by have:=lq h;omega
   refine gi (zu h) ?_;rw[sV i S];split
   .exact qv n s (i+1) a b S S S c
   .refine gi ?_ ?_
    .cases x:K (((i+1:Nat):Int)<(N s:Int))
     .rfl
     .exact zu (by have:=lq x;omega)
    .split
     .rename_i d;have k:i+1<N s:=by
       cases x:K (((i+1:Nat):Int)<(N s:Int))
       .rw[x]at d;simp at d
       .have:=lq x;omega
      rw[sV (i+1) S];exact qv n s (i+1+1) a b S S S c
     .refine gi ?_ (gi ?_ rfl)
      .simp;omega
      .unfold yp;simp;omega
  .rfl
theorem wt:∀(n:Nat)(s:zN)(i:Nat)(a:Int)(b:zN),1<=i->i<=N s->N s+2<=n+i->N s<=1000000000->
  (fQ n s (i:Int) a b=((0,[]),0))\/∃k:Nat,(fQ n s (i:Int) a b).2=(k:Int)/\1<=k/\k<=N s
 |0,s,i,a,b,e,g,j,x=>by omega
 | n + 1,s,i,a,b,e,g,j,x=>by
  rw[fQ];split
  .rename_i h;have h:i<N s:=by have:=lq h;omega
   rw[sV i S];split
   .exact wt n s (i+1) a b S S S x
   .split
    .rename_i d;have l:i+1<N s:=by
      cases c:K (((i+1:Nat):Int)<(N s:Int))
      .rw[c]at d;simp at d
      .have:=lq c;omega
     rw[sV (i+1) S];exact wt n s (i+1+1) a b S S S x
    .exact .inr ⟨i+1,rfl,S,S⟩
  .exact .inl rfl
theorem M1(t:dC):uu t=Z:=by
 unfold uu;split
 .rfl
 .split
  .refine gi ?_ rfl;cases h:((N t.2:Int)==1)
   .rfl
   .have:(N t.2:Int)=1:=by simpa using h
    simp only[aG,bX];omega
  .simp
theorem Hq(s:zN)(c:s≠[])(e:N s<=1000000000):mb s=Z:=by
 have x:1<=N s:=by cases s with|nil=>exact zB rfl c|cons _ _=>simp
 have j:=uj bq cB s;have k:=uj aE aE s;have i:qu s=Z:=qv (N s+1) s 1 _ _ S x S e;have g:zK 0 (N s)=Z:=zu x;have d:(K ((0:Int)<=0)&&K (0<=(bJ bq cB s:Int))&&K ((bJ bq cB s:Int)<=(N s:Int)))=Z:=by simp;omega
 have a:(K ((0:Int)<=0)&&K (0<=(bJ aE aE s:Int))&&K ((bJ aE aE s:Int)<=(N s:Int)))=Z:=by simp;omega
 have b:(K ((0:Int)<=0)&&K ((0:Int)<=1)&&K (1<=(N s:Int)))=Z:=by simp;omega
 unfold mb;simp only[i,g,zi,zA,zm];repeat' split
 all_goals first
  |rfl
  |(rename_i h;exfalso;apply h;simp;omega)
theorem yR(s:zN)(g:s≠[])(i:N s<=1000000000)(x:dJ (cj s).1=Z):∃k:Nat,(cj s).2=(k:Int)/\1<=k/\k<=N s:=by
 have m:1<=N s:=by cases s with|nil=>exact zB rfl g|cons _ _=>simp
 have n:=uj bq cB s;have o:=uj aE aE s;have d:=wt (N s+1) s 1 0 [] S m S i;unfold cj at x|-;simp only[zi,zA,zm]at x|-;split
 next h=>have:=lq h;exact⟨_,rfl,S,S⟩
 .rename_i h;rw[zh h]at x;split
  next a=>have:=lq a;exact⟨_,rfl,S,S⟩
  .rename_i a;rw[zh a]at x;split
   .rename_i j;rw[zf j]at x;rcases d with d|⟨k,l,b,c⟩
    .exfalso;have e:iT s=((0,[]),0):=d;rw[e]at x;revert x;decide
    .exact⟨k,l,b,c⟩
   .exact⟨1,rfl,S,S⟩
theorem Ae:∀(n:Nat)(s:zN)(i:Nat)(l:dK),i<=Io s->Io s+1<=n+i->Io s<=1000000000->Io l<=400->vJ n s (i:Int) l=true
 |0,s,i,l,o,p,d,g=>by omega
 | n + 1,s,i,l,o,p,d,g=>by
  rw[vJ];split
  .rename_i x;have x:i<N s:=by have:=lq x;omega
   have m:List.take ((N s:Int).toNat-(i:Int).toNat) (List.drop (i:Int).toNat s)=s.drop i:=by
    simp only[aI];exact DZ sw
   rw[m];refine gi ?_ ?_
   .rw[zu x];cases(((s.getD (i:Int).toNat 0).toNat:Int)==32)<;>rfl
   .split
    .rw[sV i S];exact Ae n s (i+1) l S S d g
    .have b:s.drop i≠[]:=by
      intro h;have:=congrArg N h;simp at this;omega
     have a:(s.drop i).length<=1000000000:=by simp;omega
     refine gi ?_ (gi (Hq _ b a) (gi (M1 _) ?_))
     .simp;omega
     .split
      .rfl
      .rename_i c;have j:dJ (cj (s.drop i)).1=Z:=by
        cases y:dJ (cj (s.drop i)).1
        .rw[y]at c;simp at c
        .rfl
       have w:N l≠400:=by
        intro q;rw[j,q]at c;simp at c
       have⟨k,t,u,e⟩:=yR _ b a j;have v:k<=N s-i:=by simpa using e
       refine gi (fi ?_) ?_
       .simp;omega
       .rw[t,show((i:Int)+(k:Int))=((i+k:Nat):Int) by omega,zcC (i+k) S];exact Ae n s (i+k) _ S S d sg
  .rfl
theorem YF(s:zN)(h:N s<=1000000000):YE s=Z:=Ae (N s+1) s 0 [] S S h sw
structure nR (s:zS):Prop where
 op:N s.1<=1000
 table:N s.2.1<=1000
 other:N s.q.1<=1000
 names:N s.r.1<=20/\∀x∈s.r.1,N x<=1000
 cols:N s.t.1<=20/\∀x∈s.t.1,N x.1<=1000
 key:N s.u.1<=1000
 uniques:N s.v.1<=20/\∀x∈s.v.1,N x<=1000
 refs:N s.w.1<=20/\∀x∈s.w.1,N x.1<=1000/\N x.2<=1000
 row:N s.y.1<=20
 sets:N s.z.1<=20/\∀x∈s.z.1,N x.1<=1000
 role:N s.p<=1000
theorem xy(s:zN)(B:Nat):∀l:List zN,(∀x∈l,N x<=B)->(Lib.join l s).length<=N l*(B+N s)
 |[],_=>by simp[Lib.join,List.intercalate]
 | [x],h=>by
  rw[Lib.join_one];have:=h x sw;simp;omega
 | x::y::r,h=>by
  have i:=xy s B (y::r) (λz a=>h z (np _ a));have b:=h x sw;have e:Lib.join (x::y::r) s=x++s++Lib.join (y::r) s:=by simp[Lib.join,List.intercalate,List.intersperse]
  rw[e];simp only[jK,fB]at i|-;rw[jP];omega
theorem rY{α:Type}(p:α->Bool):∀(l:List α)(i:Nat),(!Q0 (al p l i>=0))=Z->∀x∈l,p x=M
 |[],_,_,x,a=>by simp at a
 | y::r,i,h,x,a=>by
  rw[al]at h;cases b:p y
  .rw[b]at h;rcases ce.1 a with rfl|a
   .exact b
   .exact rY p r (i+1) (by simpa using h) x a
  .exfalso;rw[b]at h;simp at h
   try omega
theorem H5(e:zg):sW e=Z:=gi (K8 e) rfl
theorem Ct(e:zg):(jF e).length<=30000000:=RE e
theorem pJ(s:zN)(h:N s<=10)(e:zg):wV s e=Z:=by
 unfold wV;have:=Ct e;split
 .rfl
 .refine gi (fi ?_) (gi (H5 e) (gi (fi ?_) (gi (fi ?_) rfl)))
  all_goals(simp;omega)
theorem vH(s:zN)(h:N s<=10)(e:zg):(ml s e).length<=30000030:=by
 unfold ml;have:=Ct e;split
 .simp
 .simp;omega
theorem sJ:∀(l:List (L Sh.str))(i:Int)(a:List zN),ez l i a=Lib.join (a++l.map nL) fO
 |[],i,a=>by simp[ez]
 |x::r,i,a=>by rw[ez,sJ r];simp
theorem MI(B:Nat)(l:List (L Sh.str))(h:∀x∈l,(nL x).length<=B):(iD l).length<=N l*(B+3):=by
 unfold iD;rw[sJ];have:=xy fO B ([]++l.map nL) (λy a=>by
  simp only[Ip,bt]at a;obtain⟨x,b,rfl⟩:=a;exact h x b)
 simpa using this
theorem yG(B:Nat)(g:B<=100000000):∀(l:List (L Sh.str))(i:Int)(a:List zN),(∀x∈l,(nL x).length<=B)->(∀x∈a,N x<=B)->N a+N l<=40->eP l i a=Z
 | [],i,a,_,d,c=>by
  rw[eP];refine gi ?_ rfl;have e:=xy fO B a d;have k:N a*(B+3)<=40*100000003:=Is (by simpa using c) S
  replace e:(Lib.join a fO).length<=N a*(B+3):=e
  simp only[aO,bc];simp at c;exact⟨S,S⟩
 | x::r,i,a,h,d,c=>by
  rw[eP];have j:=h x sw;simp at c;refine gi (fi ?_) ?_
  .simp;omega
  .refine yG B g r (i+1) _ (λy b=>h y (np _ b)) (λy b=>?_) sg;rcases dl.1 b with b|b
   .exact d y b
   .simp at b;subst b;exact j
variable {s:zS}
theorem fw{b:Bool}(h:(xu s).val=if g=Z then Y (.inr (.bool b,[]))else none):yB s=g/\iu s=(g&&b):=by unfold yB iu DE am bT;rw[h];cases g<;>cases b<;>exact⟨rfl,rfl⟩
theorem zfR(o:x=dp):(x==QW)=M/\(x==bl1)=M/\(x==bl3)=M/\(x==ND)=M/\(x==bl0)=M/\(x==KJ)=M/\(x==bl9)=M/\(x==QS)=M/\(x==QQ)=M/\(x==QR)=M/\(x==dp)=Z:=by rw[o];exact⟨rfl,rfl,rfl,rfl,rfl,rfl,rfl,rfl,rfl,rfl,rfl⟩
theorem zfS(o:x=fD):(x==QW)=M/\(x==bl1)=M/\(x==bl3)=M/\(x==ND)=M/\(x==bl0)=M/\(x==KJ)=M/\(x==bl9)=M/\(x==QS)=M/\(x==QQ)=M/\(x==QR)=M/\(x==dp)=M/\(x==fD)=Z:=by rw[o];exact⟨rfl,rfl,rfl,rfl,rfl,rfl,rfl,rfl,rfl,rfl,rfl,rfl⟩
theorem za8(o:x=na):(x==QW)=M/\(x==bl1)=M/\(x==bl3)=M/\(x==ND)=M/\(x==bl0)=M/\(x==KJ)=M/\(x==bl9)=M/\(x==QS)=M/\(x==QQ)=M/\(x==QR)=M/\(x==dp)=M/\(x==fD)=M/\(x==na)=Z:=by rw[o];exact⟨rfl,rfl,rfl,rfl,rfl,rfl,rfl,rfl,rfl,rfl,rfl,rfl,rfl⟩
abbrev lu(o:zN):Prop:=o=dp\/o=fD\/o=na
theorem g9(h:N s.2.1<=1000)(x:N s.2.2.1<=1000)(a:N s.2.2.2.2.2.1<=1000)(b:N s.2.2.2.2.2.2.2.2.2.2.2.2<=1000):gw s=Z:=by
 unfold gw;refine gi (fi ?_) (gi (fi ?_) (gi (fi ?_) rfl))
 all_goals first|omega|(simp;omega)
theorem Ec{c:Bool}(h:g=Z):(cond c g Z)=Z:=by cases c<;>simp[h]
def tC(s:zS):zN:=Ys++VR++[32]++s.2.1++mj++s.q.1++Cy++iD s.r.1++jm++ml [32] s.x.1
def tJ(s:zS):zN:=Ys++VT++[32]++s.2.1++mj++s.q.1++fO++s.p++Cz++s.u.1++ml [32] s.x.1
def tG(s:zS):zN:=Ys++VS++[32]++s.2.1++mj++s.q.1++VP++s.r.1.getD 0 []++VQ++s.r.1.getD 1 []++ml [32] s.x.1
theorem zjW(h:nR s)(o:s.1=dp):(B4 s).val=Y (.inr (.str (tC s),[]))/\(tC s).length<=1000000000:=by
 have⟨j,k,l,m,n,q,t,u,v,w,p⟩:=zfR o;have e:Lib.toUpperA s.1=VR:=by rw[o];rfl
 have g:(K (N s.1<=140737488355328)&&List.all s.1 λb=>K (b.toNat<128))=Z:=by rw[o];decide
 have B:=h.table;have z:=h.other;have A:=h.role;have y:=h.key;have c:=pJ [32] sw s.x.1;have i:=vH [32] sw s.x.1;have d:pt s.r.1=Z:=yG 1000 S s.r.1 0 [] h.names.2 sw (by have:=h.names.1;simp;omega);have a:=MI 1000 s.r.1 h.names.2;have a:(iD s.r.1).length<=20*1003:=aV a (Is h.names.1 S);refine⟨?_,by unfold tC;simp only[jK,fB,qK];omega⟩;unfold tC;simp only[B4,Q8,zn,g,e,j,k,l,m,n,q,t,u,v,w,p,d,c,zi,zA,zm]
 iterate 9 rw[zf (zC (by simp<;>omega))]
theorem zjY(h:nR s)(o:s.1=fD):(B4 s).val=Y (.inr (.str (tJ s),[]))/\(tJ s).length<=1000000000:=by
 have⟨i,j,k,l,m,n,q,t,u,v,p,c⟩:=zfS o;have d:Lib.toUpperA s.1=VT:=by rw[o];rfl
 have e:(K (N s.1<=140737488355328)&&List.all s.1 λb=>K (b.toNat<128))=Z:=by rw[o];decide
 have A:=h.table;have y:=h.other;have z:=h.role;have w:=h.key;have a:=pJ [32] sw s.x.1;have g:=vH [32] sw s.x.1;refine⟨?_,by unfold tJ;simp only[jK,fB,qK];omega⟩;unfold tJ;simp only[B4,Q8,zn,e,d,i,j,k,l,m,n,q,t,u,v,p,c,a,zi,zA,zm]
 iterate 10 rw[zf (zC (by simp<;>omega))]
theorem zjX(h:nR s)(o:s.1=na)(d:N s.r.1=2):(B4 s).val=Y (.inr (.str (tG s),[]))/\(tG s).length<=1000000000:=by
 have⟨q,t,u,v,w,y,z,A,B,C,p,c,_⟩:=za8 o;have i:Lib.toUpperA s.1=VS:=by rw[o];rfl
 have j:(K (N s.1<=140737488355328)&&List.all s.1 λb=>K (b.toNat<128))=Z:=by rw[o];decide
 have P:=h.table;have G:=h.other;have H:=h.role;have F:=h.key;have a:=pJ [32] sw s.x.1;have k:=vH [32] sw s.x.1;have n0:(s.r.1.getD 0 []).length<=1000:=by
  rw[bD,aj S,bK];exact h.names.2 _ (bh _)
 have n:(s.r.1.getD 1 []).length<=1000:=by
  rw[bD,aj S,bK];exact h.names.2 _ (bh _)
 have l:zK 0 (N s.r.1)=Z:=by rw[d];rfl
 have m:zK 1 (N s.r.1)=Z:=by rw[d];rfl
 have g:T s.r.1 (W 0) (Q Sh.str)=s.r.1.getD 0 []:=rfl;have e:T s.r.1 (W 1) (Q Sh.str)=s.r.1.getD 1 []:=rfl;refine⟨?_,by unfold tG;simp only[jK,fB,qK];omega⟩;unfold tG;simp only[B4,Q8,zn,j,i,q,t,u,v,w,y,z,A,B,C,p,c,g,e,l,m,a,zi,zA,zm];generalize s.r.1.getD 0 []=D at n0;generalize s.r.1.getD 1 []=E at n
 iterate 10 rw[zf (zC (by simp<;>omega))]
theorem jC(h:(B4 s).val=Y (.inr (.str x,[]))/\N x<=1000000000):G4 s=Z/\nM s=x:=by unfold G4 nM MA am bT;rw[h.1];exact⟨rfl,rfl⟩
theorem Mz(q:nR s)(y:lu s.1):yB s=Z:=by
 have u:=q.other;have v:=q.key;have w:=q.role;rcases y with o|o|o
 .obtain⟨a,c,d,e,i,j,k,l,m,n,p⟩:=zfR o;obtain⟨x,_⟩:=fw (s:=s) (g:=_) (b:=_) (by simp only[xu,Q8,a,c,d,e,i,j,k,l,m,n,p,zi,zm,zA,zn];exact rfl);rw[x];exact Ec (g9 (by simp) (by first|exact u|simp) (by first|exact v|simp) (by first|exact w|simp))
 .obtain⟨a,c,d,e,i,j,k,l,m,n,p,h⟩:=zfS o;obtain⟨x,_⟩:=fw (s:=s) (g:=_) (b:=_) (by simp only[xu,Q8,a,c,d,e,i,j,k,l,m,n,p,h,zi,zm,zA,zn];exact rfl);rw[x];exact Ec (g9 (by simp) (by first|exact u|simp) (by first|exact v|simp) (by first|exact w|simp))
 .obtain⟨a,c,d,e,i,j,k,l,m,n,p,h,t⟩:=za8 o;obtain⟨x,_⟩:=fw (s:=s) (g:=_) (b:=_) (by simp only[xu,Q8,a,c,d,e,i,j,k,l,m,n,p,h,t,zi,zm,zA,zn];exact rfl);rw[x];exact Ec (g9 (by simp) (by first|exact u|simp) (by first|exact v|simp) (by first|exact w|simp))
theorem kJ(h:iu s=Z)(o:s.1=na):N s.r.1=2:=by
 obtain⟨k,l,m,n,t,u,v,w,y,z,p,a,c⟩:=za8 o;obtain⟨_,j⟩:=fw (s:=s) (g:=_) (b:=_) (by simp only[xu,Q8,k,l,m,n,t,u,v,w,y,z,p,a,c,zi,zm,zA,zn];exact rfl);rw[j]at h;by_cases d:N s.r.1=2
 .exact d
 .exfalso;have i:(cond (K ((N s.r.1:Int)<2)) Z (K ((N s.r.1:Int)>2)))=Z:=by
   rcases Nat.lt_or_gt_of_ne d with x|x
   .have:K ((N s.r.1:Int)<2)=Z:=zC S;rw[this];rfl
   .have:K ((N s.r.1:Int)>2)=Z:=zC S;rw[this];cases K ((N s.r.1:Int)<2)<;>rfl
  rw[i]at h;cases e:dH s.2.1<;>cases x:dH s.q.1<;>rw[e,x]at h<;>simp at h
theorem Qk(x:nR s)(a:lu s.1):qB s=Z:=by
 unfold qB;refine gi ?_ rfl;unfold yF;refine gi (Mz x a) ?_;split
 .rfl
 .rename_i h;have b:iu s=Z:=by simpa using h
  have:G4 s=Z/\(nM s).length<=1000000000:=by
   rcases a with o|o|o
   .have:=zjW x o;exact⟨(jC this).1,(jC this).2▸this.2⟩
   .have:=zjY x o;exact⟨(jC this).1,(jC this).2▸this.2⟩
   .have:=zjX x o (kJ b o);exact⟨(jC this).1,(jC this).2▸this.2⟩
  exact gi this.1 (gi (YF _ this.2) rfl)
theorem Hu:∀(e:List ((Int×Int×zN)×Int))(n:Nat)(x:Int),(lp e n x).length=N e
 |[],_,_=>rfl
 |_::_,0,_=>rfl
 |_::r,n+1,x=>by simp[lp,Hu r n x]
theorem zcB(e:List ((Int×Int×zN)×Int))(k:Int×Int×zN):(kV e k).length<=N e+1:=by unfold kV;cases qF e k<;>simp
theorem Ko:∀(e:List ((Int×Int×zN)×Int))(k:Int×Int×zN),(qF e k=Z->mX e k<N e)/\mX e k<=N e
 |[],k=>⟨λh=>by simp[qF]at h,zR _⟩
 | p::r,k=>by
  have⟨x,b⟩:=Ko r k;constructor
  .intro h;rw[mX];cases a:(k==p.1)with
   |true=>simp
   | false=>
    have:qF r k=Z:=by simpa[qF,a]using h
    have:=x this;simp;omega
  .rw[mX];cases(k==p.1)<;>simp<;>omega
theorem zgO(e:List ((Int×Int×zN)×Int))(k:Int×Int×zN):mX e k<(kV e k).length:=by
 have⟨x,a⟩:=Ko e k;unfold kV;cases h:qF e k with
 |true=>exact x h
 |false=>simp;omega
def Jv(c:Int)(n:Nat):Prop:=0<=c/\c<n
theorem pW(h:Jv c i):zK c i=Z:=by simp[zK,h.1,h.2]
theorem rU(x:Int)(n:Nat):AP x n=Z↔Jv x n:=by
 unfold Jv AP;by_cases h:x>=0
 .rw[zC h];simp;omega
 .rw[aC h];simp;omega
variable {α:Type}
theorem Bk{l:List α}{d:α}{p:α->Bool}:((List.range (N l)).all λi=>p (l.getD i d))=Z↔∀x∈l,p x=Z:=by
 rw[ep];constructor
 .intro h x b;obtain⟨i,a,rfl⟩:=fN b;have:=h i (ry.2 a)
  rwa [bD,aj a]at this
 .intro h i a;have a:=ry.1 a;rw[bD,aj a];exact h _ (bh a)
variable {t:ap}
theorem PQ:(List.range (N t.t.1)).all (zf8 t)=Z↔∀f∈t.t.1,Jv f.1 (N t.2.1)/\aD f.2=Z:=by have h:=Bk (l:=t.t.1) (d:=Q zI) (p:=λf:cC=>AP f.1 (N t.2.1)&&aD f.2);simp only[aO,rU]at h;exact h
theorem fX(h:dI t=Z):Jv t.q.1 (N t.2.1)/\(∀f∈t.t.1,Jv f.1 (N t.2.1))/\(∀u∈t.r.1,Jv u (N t.2.1))/\N t.2.1<=8/\1<=N t.2.1:=by
 have g:=Ua h;unfold dI at h;simp only[aO,rU]at h;have⟨x,_,a,b,e,_⟩:=h;have b:=PQ.1 b;have a:=(Bk (l:=t.r.1) (d:=Q zk) (p:=λu=>AP u (N t.2.1))).1 a;simp only[rU]at a;refine⟨e,λf i=>(b f i).1,a,g,?_⟩;cases c:aD t.1
 .rw[c]at x;simp at x
 .rw[c]at x;simp at x;omega
theorem Fc{row:zr}(h:(cm t row !=0)≠Z):N row=N t.2.1:=by
 simp at h;unfold cm at h;split at h
 .cases h
 .rename_i x;cases a:dI t with
  |false=>rw[a]at x;simp at x
  | true=>
   rw[a]at x;simp at x;omega
abbrev zO(c:Int)(r:zr):zo:=T r (W c) (Q R)
def uC(rows:List zr)(c:Int):Prop:=rows.Pairwise λa b=>(zO c a).1≠0->zO c a≠zO c b
theorem sR:∀(a:List ((Int×Int×zN)×Int))(k:Int×Int×zN)(x:Int),lp (kV a k) (mX a k) x=lN a k x
 |[],k,x=>by simp[kV,qF,mX,lp,lN]
 | p::r,k,x=>by
  have h:=sR r k x;cases b:(k==p.1)with
  | true=>
   have e:k=p.1:=bV b;simp[kV,qF,mX,lp,lN,e]
  | false=>
   have e:kV (p::r) k=p::kV r k:=by
    simp only[kV,qF,List.any_cons,b,Bool.false_or];cases(r.any λp=>k==p.1)<;>rfl
   rw[e,mX,lN,b];show p::lp (kV r k) (mX r k) x=p::lN r k x;rw[h]
theorem Kn(c:List ((Int×Int×zN)×Int))(k a:Int×Int×zN)(x:Int):iw (lN c k x) a=if a=k then x else iw c a:=by
 induction c with
 | nil=>
  by_cases h:a=k
  .subst h;simp[lN,iw]
  .simp[lN,iw,h]
 | cons p r i=>
  rw[lN];cases d:(k==p.1)with
  | true=>
   have e:k=p.1:=bV d;by_cases h:a=k
   .simp[iw,h]
   .have g:(a==p.1)=M:=by rw[<-e];simpa using h
    have j:(a==k)=M:=by simpa using h
    simp only[aG,iw,List.find?_cons,g,j,zh h]
  | false=>
   show iw (p::lN r k x) a=_;cases b:(a==p.1)with
   | true=>
    have e:a=p.1:=bV b;have h:a≠k:=by intro h;rw[<-h,b]at d;cases d
    simp only[iw,List.find?_cons,b,zh h]
   | false=>
    simp only[iw,List.find?_cons,b]at i|-;exact i
def xF:zr->List ((Int×Int×zN)×Int)
 |[]=>[]
 |v::r=>lN (xF r) v (Γ Δ (iw (xF r) v+1))
theorem O1:∀l:zr,(xF l).length<=N l
 |[]=>zR _
 | v::r=>by
  rw[xF,<-sR,Hu];have:=zcB (xF r) v;have:=O1 r;simp;omega
theorem FO:∀(l:zr)(v:zo),N l<=1000000->iw (xF l) v=(l.count v:Int)
 |[],v,_=>by simp[xF,iw]
 | u::r,v,h=>by
  simp only[fB]at h;have a:=FO r u S;have b:=FO r v S;have c:r.count u<=N r:=List.count_le_length;rw[xF,Kn,a,b,zt _ um];by_cases e:v=u
  .subst e;simp
  .have x:¬(u==v)=Z:=by intro h;exact e (bV h).symm
   rw[zh e,List.count_cons,zh x];rfl
theorem PO{x:ag}(B:∀r∈x.2,zK c (Io r)=Q3)(hl:Io x.2<=1000000):∃b,Dz x c=Q1 (b,())/\(b=Q4↔uC x.2 c):=by
  let k:Nat->zo:=λi=>zO c (T x.2 i (Q ze.sl))
  let m:Nat->List ((Int×Int×zN)×Int):=λi=>xF (((x.2.take i).map (zO c)).reverse)
  have y:∀i,i<N x.2->m (i+1)=lN (m i) (k i) (Γ Δ (iw (m i) (k i)+1)):=by
    intro i a;show xF (((x.2.take (i+1)).map (zO c)).reverse)=_;rw[List.take_succ_eq_append_getElem a,gm,List.reverse_append];show xF (zO c x.2[i]::_)=_;rw[xF];have:k i=zO c x.2[i]:=by
      show zO c (T x.2 i _)=_;rw[bD,aj a,bK]
    rw[this];rfl
  have q:∀i,i<=N x.2->(m i).length<=i:=by
    intro i a;have:=O1 (((x.2.take i).map (zO c)).reverse);simp at this;have d:(m i).length=(xF (((x.2.take i).map (zO c)).reverse)).length:=rfl;simp at d;omega
  have o:∀i v,i<=N x.2->iw (m i) v=((((x.2.take i).map (zO c)).count v:Nat):Int):=by
    intro i v a;show iw (xF _) v=_;rw[FO _ _ sg,List.count_reverse]
  have C:=nP (t:=Co) (Φ:=λr=>aX r.2 [Sh.bool] r.1=some (true,())) 1 (λi=>.h3 c x.2 (Io x.2:Int) (i:Int) (m i)) (λi=>(k i).1≠0->((x.2.take i).map (zO c)).count (k i)=0) (Io x.2) (by
    intro i a _;have k0:T x.2 (i:Int).toNat (Q ze.sl)=T x.2 i (Q ze.sl):=by rw[aI]
    have A:T x.2 i (Q ze.sl)=x.2[i]:=by rw[bD,aj a,bK]
    have G:zK c (N x.2[i])=Z:=B _ (bh a);have n:k i=zO c x.2[i]:=by show zO c (T x.2 i _)=_;rw[A]
    have H:zK ((mX (m i) (k i):Nat):Int) (kV (m i) (k i)).length=Z:=zu (zgO _ _);have P:K ((m i).length<=1073741824)=Z:=zC (by have:=q i S;omega);have U:lp (kV (m i) (k i)) ((mX (m i) (k i):Nat):Int).toNat (Γ Δ (iw (m i) (k i)+1))=m (i+1):=by rw[aI,sR,y i a]
    have k7:iw (m (i+1)) (k i)=((((x.2.take i).map (zO c)).count (k i)+1:Nat):Int):=by
      have u:((x.2.take i).map (zO c)).count (k i)<=((x.2.take i).map (zO c)).length:=List.count_le_length;simp only[cY,oC]at u;rw[y i a,Kn,zf rfl,o i _ S,zt _ um]
    have w:(Co (.h3 c x.2 (N x.2:Int) (i:Int) (m i))).val=if(cond ((k i).1!=0) (K (((((x.2.take i).map (zO c)).count (k i)+1:Nat):Int)>1)) M)=Z then Y (.inr (.kb Z,[]))else Y (.inl (.h3 c x.2 (N x.2:Int) ((i+1:Nat):Int) (m (i+1)))):=by
      show(Co (.h3 c x.2 _ _ _)).val=_;unfold Co;simp only[k0,A];rw[show T x.2[i] (W c) (Q R)=k i from n.symm];simp only[Q8,zM a,zu a,G,H,P,zi,U,k7];rw[zt i um]
    by_cases l:(k i).1=0
    · refine .inl ⟨λh=>zB l h,zG.of ?_⟩
      rw[w,zh (by simp[l])]
    · by_cases d:((x.2.take i).map (zO c)).count (k i)=0
      · refine .inl ⟨λ_=>d,zG.of ?_⟩
        rw[w,zh (by rw[d];simp)]
      · refine .inr ⟨λh=>d (h l),(.kb true,[]),zV.of ?_,rfl⟩
        rw [w,zf (by have:((k i).1 != 0)=true:=by simpa using l
                     rw[this];simp only[aG,bc];omega)])
  have z:(∀i,i<N x.2->(k i).1≠0->((x.2.take i).map (zO c)).count (k i)=0)↔uC x.2 c:=by
    unfold uC;rw[List.pairwise_iff_getElem];constructor
    · intro h j i D a E g e
      have n:k i=zO c x.2[i]:=by show zO c (T x.2 i _)=_;rw[bD,aj a,bK]
      have:=h i a (by rw[n,<-e];exact g);rw[List.count_eq_zero,n,<-e]at this;exact this (bt.2 ⟨_,List.mem_take_iff_getElem.2 ⟨j,S,rfl⟩,rfl⟩)
    · intro h i a g
      have n:k i=zO c x.2[i]:=by show zO c (T x.2 i _)=_;rw[bD,aj a,bK]
      rw[List.count_eq_zero];intro s;have⟨r,F,e⟩:=bt.1 s;obtain⟨j,D,rfl⟩:=List.mem_take_iff_getElem.1 F;rw[n]at e g;exact h j i S a S (by rw[e];exact g) e
  have p:(zjd x c).val=Y (.inl (.h3 c x.2 (N x.2:Int) ((0:Nat):Int) (m 0))):=rfl;rcases C with⟨l,d⟩|⟨l,r,d,u⟩
  · refine⟨Q4,?_,λ_=>z.1 l,λ_=>rfl⟩
    refine zz p (d.ends (zV.of (r:=(.kb M,[])) ?_)) S rfl;show(Co (.h3 c x.2 _ _ _)).val=_;simp only[Co,Q8,zJ];rfl
  · refine⟨Q3,zz p d ow u,⟨λh=>?_,λh=>zB (z.2 h) l⟩⟩
    cases h
structure il (x:ag):Prop where
 uq:N x.1.r.1<=1000
 rf:N x.1.t.1<=1000
 rw:N x.2<=1000
theorem BN(l:zT)(s:zN):ao l s=(-1:Int)\/((0:Int)<=ao l s/\LT.lt (α:=Int) (ao l s) (N l)):=by have:=gT (λx:ag=>x.1.1==s) l 0;simp at this;exact this
theorem eu{l:zT}(h:(0:Int)<=ao l x):zK (ao l x) (N l)=Z:=by
 rcases BN l x with a|⟨a,b⟩
 .rw[a]at h;omega
 .simp only[zK,aO,bc];exact⟨a,b⟩
theorem aT{l:List α}{d:α}{Q:α->Prop}:(∀i,i<N l->Q (l.getD i d))↔∀x∈l,Q x:=by
 constructor
 .intro h x b;obtain⟨i,a,rfl⟩:=fN b;have:=h i a
  rwa [bD,aj a,bK]at this
 .intro h i a;rw[bD,aj a,bK];exact h _ (bh a)
theorem cG{l:List α}{d:α}(h:i<N l):l.getD i d∈l:=by rw[bD,aj h,bK];exact bh h
theorem gS(i:Nat)(h:i<aF):Γ Δ (((i+1:Nat):Int)-1)=(i:Int):=by have:aF=9223372036854775807:=rfl;rw[fe];omega
def qE(a b:zo):Prop:=LT.lt (α:=Int) (an a b) 0
theorem Vh{e:zo}:K (GE.ge (α:=Int) (an v e) 0)=Z↔¬qE v e:=by unfold qE;rw[bc];omega
structure eb (x:ag):Prop where
 may:dI x.1=Z
 few:N x.2<=200
 fits:∀r∈x.2,cm x.1 r=(0:Int)
 key:uC x.2 x.1.q.1
 uniq:∀u∈x.1.r.1,uC x.2 u
 rise:∀i,i<N x.2-1->qE (zO x.1.q.1 (T x.2 i (Q ze.sl))) (zO x.1.q.1 (T x.2 (i+1) (Q ze.sl)))
def Err(r:ay):Prop:=∃e:Int,r=(J e,[])/\e≠0
theorem PM{d:ag}(hs:il d):∃e:Int,qy d=Y (e,())/\(e=0↔eb d):=by
 have h9:=hs.rw;have h8:=hs.uq;have a:∀{k:Nat}{r:ay},zV jh k (.h6 d.2 (N d.2:Int) ((0:Nat):Int) (d,())) r->k<=100000000->(WD d).val=Y (.inl (.h6 d.2 (N d.2:Int) ((0:Nat):Int) (d,())))->∀e:Int,r=(J e,[])->qy d=Y (e,()):=by
  intro k r h hk x e y;subst y;exact zz x h hk rfl
 by_cases D:dI d.1=Z
 case neg=>
  refine⟨1,?_,λh=>(by cases h),λh=>zB h.may D⟩;unfold qy am bT;simp only[WD,zn,Q8];rw[zf (by simpa using D)];rfl
 by_cases hw:N d.2<=200
 case neg=>
  refine⟨13,?_,λh=>(by cases h),λh=>zB h.few hw⟩;unfold qy am bT;simp only[WD,zn,Q8];rw[zh (by simpa using D),zf sg];rfl
 have x:(WD d).val=Y (.inl (.h6 d.2 (N d.2:Int) ((0:Nat):Int) (d,()))):=by
  simp only[WD,zn,Q8];rw[zh (by simpa using D),zh sg];rfl
 have⟨z,h7,h5,_,_⟩:=fX D;have C:=nP (t:=jh) (Φ:=Err) 1 (λi=>.h6 d.2 (N d.2:Int) (i:Int) (d,())) (λi=>cm d.1 (T d.2 i (zj ze.sl))=(0:Int)) (N d.2) (by
  intro i x _;have s:(jh (.h6 d.2 (N d.2:Int) (i:Int) (d,()))).val=if(cm d.1 (T d.2 i (zj ze.sl))!=0)=Z then Y (.inr (J (cm d.1 (T d.2 i (zj ze.sl))),[]))else Y (.inl (.h6 d.2 (N d.2:Int) ((i+1:Nat):Int) (d,()))):=by
   show(jh (.h6 d.2 _ _ _)).val=_;unfold jh;simp only[zn,Q8,zM x,zu x,zi,aI];rw[zt i um]
  by_cases h:cm d.1 (T d.2 i (zj ze.sl))=(0:Int)
  .refine .inl ⟨h,zG.of ?_⟩;rw[s,zh (by rw[h];simp)]
  .refine .inr ⟨h,_,zV.of (by rw[s,zf (by simpa using h)]),_,rfl,h⟩)
 rcases C with⟨hf,C⟩|⟨hf,r,C,e,y,n⟩
 case inr=>
  exact⟨e,a C S x e y,λh=>zB h n,λh=>zB ((aT (Q:=λr=>cm d.1 r=(0:Int))).2 h.fits) hf⟩
 have m:=(aT (Q:=λr=>cm d.1 r=(0:Int))).1 hf;have U:∀r∈d.2,N r=N d.1.2.1:=λr A=>Fc (by simpa using m r A)
 have p:∀c,Jv c (N d.1.2.1)->∀r∈d.2,zK c (N r)=Z:=λc hc r A=>by
  rw[U r A];exact pW hc
 have⟨b,H,l⟩:=PO (x:=d) (c:=d.1.q.1) (p _ z) S;have v:ui d d.1.q.1=Z:=by unfold ui;rw[H];rfl
 have w:Bj d d.1.q.1=b:=by unfold Bj;rw[H];rfl
 have h4:(jh (.h6 d.2 (N d.2:Int) (N d.2:Int) (d,()))).val=if b=Z then Y (.inr (J 7,[]))else Y (.inl (.h15 d.1.r.1 (N d.1.r.1:Int) ((0:Nat):Int) (d,()))):=by
  show(jh (.h6 d.2 _ _ _)).val=_;unfold jh;simp only[zn,Q8,zJ,v,w,zi];rfl
 by_cases o:b=Z
 .refine⟨7,a (C.ends (zV.of (by rw[h4,zf o]))) S x 7 rfl,λh=>(by cases h),λh=>?_⟩;have:=l.2 h.key;rw[o]at this;cases this
 have P:uC d.2 d.1.q.1:=l.1 (by simpa using o);have E:zG jh _ (.h6 d.2 (N d.2:Int) ((0:Nat):Int) (d,())) _:=C.trans (zG.of (by rw[h4,zh o]));have g:=nP (t:=jh) (Φ:=Err) 1 (λi=>.h15 d.1.r.1 (N d.1.r.1:Int) (i:Int) (d,())) (λi=>uC d.2 (T d.1.r.1 i (zj zk))) (N d.1.r.1) (by
  intro i x _;have⟨b,H,l⟩:=PO (x:=d) (c:=T d.1.r.1 i (zj zk)) (p _ (h5 _ (cG x))) S;have v:ui d (T d.1.r.1 i (zj zk))=Z:=by unfold ui;rw[H];rfl
  have w:Bj d (T d.1.r.1 i (zj zk))=b:=by unfold Bj;rw[H];rfl
  have s:(jh (.h15 d.1.r.1 (N d.1.r.1:Int) (i:Int) (d,()))).val=if b=Z then Y (.inr (J 7,[]))else Y (.inl (.h15 d.1.r.1 (N d.1.r.1:Int) ((i+1:Nat):Int) (d,()))):=by
   show(jh (.h15 _ _ _ _)).val=_;unfold jh;simp only[zn,Q8,zM x,zu x,zi,aI,v,w];rw[zt i um]
  by_cases h:b=Z
  .refine .inr ⟨λhu=>?_,_,zV.of (by rw[s,zf h]),7,rfl,by decide⟩;have:=l.2 hu;rw[h]at this;cases this
  .exact .inl ⟨l.1 (by simpa using h),zG.of (by rw[s,zh h])⟩)
 rcases g with⟨hq,g⟩|⟨hq,r,g,e,y,n⟩
 case inr=>
  exact⟨e,a (E.ends g) S x e y,λh=>zB h n,λh=>zB ((aT (Q:=λu=>uC d.2 u)).2 h.uniq) hq⟩
 have B:=(aT (Q:=λu=>uC d.2 u)).1 hq;have h0:(jh (.h15 d.1.r.1 (N d.1.r.1:Int) (N d.1.r.1:Int) (d,()))).val=Y (.inl (.h21 ((0+1:Nat):Int) (d,()))):=by
  show(jh (.h15 _ _ _ _)).val=_;unfold jh;simp only[Q8,zJ];rfl
 have F:=(E.trans g).trans (zG.of h0);have j:=nP (t:=jh) (Φ:=Err) 1 (λi=>.h21 ((i+1:Nat):Int) (d,())) (λi=>qE (zO d.1.q.1 (T d.2 i (zj ze.sl))) (zO d.1.q.1 (T d.2 (i+1) (zj ze.sl)))) (N d.2-1) (by
  intro i x _;have h1:i<N d.2:=by omega
  have G:i+1<N d.2:=by omega
  have s:(jh (.h21 ((i+1:Nat):Int) (d,()))).val=if K (GE.ge (α:=Int) (an (zO d.1.q.1 (T d.2 i (zj ze.sl))) (zO d.1.q.1 (T d.2 (i+1) (zj ze.sl)))) 0)=Z then Y (.inr (J 15,[]))else Y (.inl (.h21 ((i+1+1:Nat):Int) (d,()))):=by
   show(jh (.h21 _ _)).val=_;unfold jh;simp only[gS i um];simp only[Q8,zM G,zu G,zu h1,aI,p _ z _ (cG h1),p _ z _ (cG G),zi];rw[zt (i+1) um]
  by_cases h:qE (zO d.1.q.1 (T d.2 i (zj ze.sl))) (zO d.1.q.1 (T d.2 (i+1) (zj ze.sl)))
  .exact .inl ⟨h,zG.of (by rw[s,zh (λG=>Vh.1 G h)])⟩
  .exact .inr ⟨h,_,zV.of (by rw[s,zf (Vh.2 h)]),15,rfl,by decide⟩)
 rcases j with⟨A,j⟩|⟨A,r,j,e,y,n⟩
 case inr=>
  exact⟨e,a (F.ends j) S x e y,λh=>zB h n,λh=>zB h.rise A⟩
 have h3:(jh (.h21 ((N d.2-1+1:Nat):Int) (d,()))).val=Y (.inr (J 0,[])):=by
  show(jh (.h21 _ _)).val=_;unfold jh;simp only[Q8];rw[zh sg]
 exact⟨0,a (F.ends (j.ends (zV.of h3))) S x 0 rfl,λ_=>⟨D,hw,m,P,B,A⟩,λ_=>rfl⟩
def kX(v:zo):Prop:=LE.le (α:=Int) (-9223372036854775808) v.2.1/\LE.le (α:=Int) v.2.1 9223372036854775807/\N v.q<=1000000
theorem cF:∀s:zN,Op.bytesLess s s=M
 |[]=>rfl
 |a::r=>by simp[Op.bytesLess,cF r]
theorem WZ(s:zN):(r8 s<0)↔∀b∈s,32<=b.toNat/\b.toNat<=126:=by
 refine zaL (p:=λr=>FV r) (λc=>?_) s;unfold FV;cases h:K ((c:Int)<32)with
 |true=>simp at h|-;omega
 |false=>simp at h|-;omega
theorem zfE(b h x a c d e l:Bool):∃r,(ite (b=Z) (Y (.inr (.bool (cond c e M),[]))) (ite (h=Z) (Y (.inr (.bool e,[]))) (ite (x=Z) (Y (.inr (.bool (cond c l M),[]))) (ite (a=Z) (Y (.inr (.bool (cond c e (cond d e M)),[]))) (Y (.inr (.kb M,[])))))):Option (DQ⊕ay))=Y (.inr r)/\
  aX r.2 [Sh.bool] r.1=Y ((ite (b=Z) (ite ((!c)=Z) M e) (ite (h=Z) e (ite (x=Z) (cond c (cond l Z M) M) (ite (a=Z) (cond c e (cond d e M)) M))):Bool),()):=by cases b<;>cases h<;>cases x<;>cases a<;>cases c<;>cases d<;>cases e<;>cases l<;>exact⟨_,rfl,rfl⟩
theorem zfD(b h x a c d l:Bool):(ite (b=Z) (ite ((!c)=Z) M M) (ite (h=Z) M (ite (x=Z) (cond c (cond l M M) M) (ite (a=Z) (cond c M (cond d M M)) M))))=M:=by cases b<;>cases h<;>cases x<;>cases a<;>cases c<;>cases d<;>cases l<;>rfl
theorem Pn(p:N v.q<=1000000):LM v=Y (bg v,()):=by
 have⟨k,n,s⟩:=v;have p:N s<=1000000:=p;have y:=nP (t:=vq) (Φ:=λr=>r=(.kb M,[])) 1 (λi=>.h2 (i:Int) ((k,n,s),())) (λi=>32<=(T s i 0).toNat/\(T s i 0).toNat<=126) (N s) (by
  intro i x _;have e:(vq (.h2 (i:Int) ((k,n,s),()))).val=if(cond (K (((T s i 0).toNat:Int)<32)) Z (K (((T s i 0).toNat:Int)>126)))=Z then Y (.inr (.kb M,[]))else Y (.inl (.h2 ((i+1:Nat):Int) ((k,n,s),()))):=by
   show(vq (.h2 _ _)).val=_;unfold vq;simp only[Q8,zM x,zu x,aI,zi];rw[zf (by cases K (((T s i 0).toNat:Int)<32)<;>rfl)];rw[zt i um]
  by_cases c:(T s i 0).toNat<32
  .refine .inr ⟨λh=>by omega,_,zV.of (by rw[e,zf (by rw[zC S];rfl)]),rfl⟩
  .by_cases g:126<(T s i 0).toNat
   .refine .inr ⟨λh=>by omega,_,zV.of (by rw[e,zf (by rw[aC S,zC S];rfl)]),rfl⟩
   .refine .inl ⟨S,zG.of (by rw[e,zh (by rw[aC S,aC S];simp)])⟩)
 have x:(zi5 (k,n,s)).val=Y (.inl (.h2 ((0:Nat):Int) ((k,n,s),()))):=rfl;have u:=WZ s;have w:=aT (l:=s) (d:=0) (Q:=λb=>32<=b.toNat/\b.toNat<=126);rcases y with⟨c,g⟩|⟨c,r,g,rfl⟩
 .have a:K (r8 s<0)=Z:=zC (u.2 (w.1 c));have e:(vq (.h2 (N s:Int) ((k,n,s),()))).val=(ite ((k==0)=Z) (Y (.inr (.bool (cond (n==0) (s==[]) M),[]))) (ite ((k==1)=Z) (Y (.inr (.bool (s==[]),[]))) (ite ((k==2)=Z) (Y (.inr (.bool (cond (n==0) (K ((N s:Int)<=40)) M),[]))) (ite ((k==3)=Z) (Y (.inr (.bool (cond (n==0) (s==[]) (cond (n==1) (s==[]) M)),[]))) (Y (.inr (.kb M,[]))))))):=by
   show(vq (.h2 _ _)).val=_;unfold vq;simp only[Q8,zJ];rw[zh sw]
  have⟨r,m,o⟩:=zfE (k==0) (k==1) (k==2) (k==3) (n==0) (n==1) (s==[]) (K ((N s:Int)<=40));have j:bg (k,n,s)=(ite ((k==0)=Z) (ite ((!(n==0))=Z) M (s==[])) (ite ((k==1)=Z) (s==[]) (ite ((k==2)=Z) (cond (n==0) (cond (K ((N s:Int)<=40)) Z M) M) (ite ((k==3)=Z) (cond (n==0) (s==[]) (cond (n==1) (s==[]) M)) M)))):=by
   simp only[bg,a];rfl
  rw[j];exact zz x (g.ends (zV.of (e.trans m))) S o
 .have a:K (r8 s<0)=M:=aC (λh=>c (w.2 (u.1 h)));have z:(s==[])=M:=by
   cases s with
   |nil=>exact zB (λi x=>zB x sw) c
   |cons _ _=>rfl
  have j:bg (k,n,s)=M:=by
   simp only[bg,a,z];exact zfD (k==0) (k==1) (k==2) (k==3) (n==0) (n==1) (K ((N s:Int)<=40))
  rw[j];exact zz x g S rfl
theorem mH(h:N v.q<=1000000):nZ v=Z:=by unfold nZ;rw[Pn h];rfl
theorem qi(h:N v.q<=1000000):vn v=bg v:=by unfold vn;rw[Pn h];rfl
theorem JY(h:N v.q<=1000000):xU v=Y (ah v,()):=by unfold xU am bT;simp only[zi7,Q8,mH h,qi h,zi,ah];cases bg v<;>rfl
theorem tT(h:N v.q<=1000000):tS v=Z:=by unfold tS;rw[JY h];rfl
theorem xV(h:N v.q<=1000000):f7 v=ah v:=by unfold f7;rw[JY h];rfl
def Hr(b:Bool):zo:=if b then(3,1,[])else(3,0,[])
theorem Gi(b:Bool):xT b=Y (Hr b,()):=by cases b<;>rfl
theorem ql(b:Bool):mK b=Z:=by unfold mK;rw[Gi];rfl
theorem iZ(b:Bool):bC b=Hr b:=by unfold bC;rw[Gi];rfl
def M6(v:zo)(n:Int):Bool:=v.1==3&&(v.2.1==n&&(v.q==[]&&Z))
theorem UE(v:zo)(b:Bool):Pm v b=Y (M6 v (cond b 1 0),()):=by unfold Pm am bT;simp only[zi6,Q8,ql,iZ,zi];cases b<;>rfl
theorem Da(v:zo)(b:Bool):o8 v b=Z:=by unfold o8;rw[UE];rfl
theorem LL(v:zo)(b:Bool):sj v b=M6 v (cond b 1 0):=by unfold sj;rw[UE];rfl
theorem py:bx 0=(0,0,[]):=by decide
theorem mT:bx 1=(3,0,[]):=by decide
theorem mU:bx 2=(3,1,[]):=by decide
theorem kx(v:zo):(eR v==1)=M6 v 0/\(eR v==2)=M6 v 1:=by
 have⟨k,n,s⟩:=v;unfold eR M6;simp only[bg];by_cases h:k=3
 .subst h;by_cases x:n=0
  .subst x;cases d:(s==[])<;>simp[fe]
  .by_cases a:n=1
   .subst a;cases d:(s==[])<;>simp[fe]
   .have e0:(n==0)=M:=by simpa using x
    have c:(n==1)=M:=by simpa using a
    simp[e0,c]
 .have e:(k==3)=M:=by simpa using h
  have b:(k !=3)=Z:=by simpa using h
  simp[e,b]
theorem Pk(a b:zo):Gc a b=Y (H2 a b,()):=by unfold Gc am bT;simp only[zji,Q8,Da,LL,iZ,H2,(kx a).1,(kx a).2,(kx b).1,(kx b).2,py,mT,mU,aJ,aG];cases M6 a 0<;>cases M6 b 0<;>cases M6 a 1<;>cases M6 b 1<;>rfl
theorem UG(a b:zo):Pp a b=Y (vOr a b,()):=by unfold Pp am bT;simp only[zjj,Q8,Da,LL,iZ,vOr,(kx a).1,(kx a).2,(kx b).1,(kx b).2,py,mT,mU,aJ,aG];cases M6 a 0<;>cases M6 b 0<;>cases M6 a 1<;>cases M6 b 1<;>rfl
theorem Po(a:zo):Gf a=Y (CL a,()):=by unfold Gf am bT;simp only[zjh,Q8,Da,LL,iZ,CL,(kx a).1,(kx a).2,py,mT,mU,aJ,aG];cases M6 a 0<;>cases M6 a 1<;>rfl
theorem Lk(k x n a:Int)(s b:zN):(ite ((k==x&&(n==a&&(s==b&&Z)))=Z) (0:Int) (ite ((cond (K (k<x)) Z (cond (k==x) (cond (K (n<a)) Z (cond (n==a) (Op.bytesLess s b) M)) M))=Z) (-1) 1))=HW [rF k x,kH n a,oI s b]:=by
 simp only[HW,rF,kH,oI];rcases D3 k x with h|h|h
 .have c:(k==x)=M:=dM.2 S;simp[c,h]
 .subst h;rcases D3 n a with h|h|h
  .have c:(n==a)=M:=dM.2 S;simp[c,h]
  .subst h;by_cases g:s=b
   .subst g;simp[cF]
   .have c:(s==b)=M:=dM.2 g;by_cases e:Op.bytesLess s b=Z
    .simp[c,e]
    .simp[c,e]
  .have c:(n==a)=M:=dM.2 S;have d:¬n<a:=by omega
   simp[c,d,h]
 .have c:(k==x)=M:=dM.2 S;have d:¬k<x:=by omega
  simp[c,d,h]
theorem Gg{e:zo}(h:N v.q<=1000000)(x:N e.q<=1000000):sm v e=Y (an v e,()):=by unfold sm am bT;simp only[zt6,Q8,tT h,tT x,xV h,xV x,zi,an];rw[<-Lk];generalize((ah v).1==(ah e).1&&((ah v).2.1==(ah e).2.1&&((ah v).q==(ah e).q&&Z)))=b;generalize(cond (K ((ah v).1<(ah e).1)) Z (cond ((ah v).1==(ah e).1) (cond (K ((ah v).2.1<(ah e).2.1)) Z (cond ((ah v).2.1==(ah e).2.1) (Op.bytesLess (ah v).q (ah e).q) M)) M))=a;cases b<;>cases a<;>rfl
theorem zP(l:List α)(d:α)(h:i<N l):l.getD ((i:Int).toNat) d=l[i]:=by rw[aI,bD,aj h,bK]
theorem Fj(l:List α)(d:α)(h:i<N l):l.getD i d∈l:=by rw[bD,aj h,bK];exact bh h
def bY(f w:zN):List zN:=if(w==[])=Z then[f]else[f,w]
def eM(db:zT)(ns:List zN):Bool:=db.any λx=>!aP ns x.1.1&&K (GE.ge (α:=Int) (al (λf:cC=>aP ns f.2) x.1.t.1 0) 0)
def rk(db:zT)(f w t:zN):Int:=
 if∀n∈bY f w,LE.le (α:=Int) 0 (ao db n)then(if(K (GE.ge (α:=Int) (ao db t) 0)||f==w)=Z then 7 else if eM db (bY f w)=Z then 10 else 0)else 6
def zib(y h:zq cd):Prop:=
 (0:Int)<=ao y.1 y.u.1/\(y.v.1=[]\/(0:Int)<=ao y.1 y.v.1)/\LT.lt (α:=Int) (ao y.1 y.2.1.2.1) 0/\y.u.1≠y.v.1/\
 h.q.1=(T y.1 (W (ao y.1 y.u.1)) (Q zl)).1/\
 h.r.1=(ite (y.v.1=[]) y.r.1 ((T y.1 (W (ao y.1 y.v.1)) (Q zl)).1))
def zd0(y:zq cd)(r:ay):Prop:=∃(e:Int)(h:zq cd),r=(J e,bd cd h)/\h.1=y.1/\h.2.1=y.2.1/\h.t=y.t/\e=rk y.1 y.u.1 y.v.1 y.2.1.2.1/\(e=0->zib y h)
theorem zwF(y:zq cd)(a:List zN)(H:N y.1<=1000000)(q:(0:Int)<=ao y.1 y.u.1)(s:y.v.1=[]\/(0:Int)<=ao y.1 y.v.1)(A:LT.lt (α:=Int) (ao y.1 y.2.1.2.1) 0)(B:y.u.1≠y.v.1)(e:rk y.1 y.u.1 y.v.1 y.2.1.2.1=if eM y.1 a=Z then 10 else 0)(n:Nat)(C:1+N y.1<=n):
  ∃r,eh HZ n (.h11 y.1 (N y.1:Int) 0 y a)=Y r/\zd0 y r:=by
 refine dP (t:=HZ) (β:=Unit) (N y.1) (λ_ i=>.h11 y.1 (N y.1:Int) (i:Int) y a) (λ_ i=>∀j(g:j<N y.1),j<i->(!aP a y.1[j].1.1&&K (GE.ge (α:=Int) (al (λf:cC=>aP a f.2) y.1[j].1.t.1 0) 0))=M) (zd0 y) 1 ?_ ?_ (N y.1) 0 () n rfl (aK _) (λj _ h=>by omega) C
 .intro b i o w;simp only[HZ,MP,Hj,Q8,zM o,zu o,zi,zP y.1 _ o];rw[zt i um];have d:(!aP a y.1[i].1.1&&K (GE.ge (α:=Int) (al (λf:cC=>aP a f.2) y.1[i].1.t.1 0) 0))=M->∀j(g:j<N y.1),j<i+1->(!aP a y.1[j].1.1&&K (GE.ge (α:=Int) (al (λf:cC=>aP a f.2) y.1[j].1.t.1 0) 0))=M:=by
   intro h j g F;by_cases l:j=i
   .subst l;exact h
   .exact w j g S
  by_cases c:(!aP a y.1[i].1.1)=Z
  .simp only[c,zi];split
   .rename_i p;refine Or.inr ⟨_,rfl,10,y,rfl,rfl,rfl,rfl,?_,λh=>by cases h⟩;have z:eM y.1 a=Z:=by
     unfold eM;exact List.any_eq_true.2 ⟨y.1[i],bh o,by rw[c];simpa using p⟩
    rw[e,zf z]
   next p=>exact Or.inl ⟨(),d (by rw[c];simpa using p),rfl⟩
  .simp only[c];exact Or.inl ⟨(),d (by simp only[iW]at c;rw[c];rfl),rfl⟩
 .intro b n w C;have z:eM y.1 a=M:=by
   unfold eM;rw[List.any_eq_false];intro x G;obtain⟨j,g,rfl⟩:=fN G;rw[w j g g];simp
  rw[z]at e
  replace e:=e.symm
  simp only[zA,zm]at e;obtain⟨n,rfl⟩:∃k,n=k+1:=⟨n-1,S⟩;rw[dg];simp only[HZ,MP,Hj,Q8,zJ,eu q,zi];by_cases c:(!y.v.1==[])=Z
  .have m:y.v.1≠[]:=by simpa using c
   have D:(0:Int)<=ao y.1 y.v.1:=s.resolve_left m;simp only[c,zi,eu D];refine⟨_,rfl,0,_,rfl,rfl,rfl,rfl,e,λ_=>⟨q,s,A,B,rfl,?_⟩⟩;simp[m]
  .have E:y.v.1=[]:=by simpa using c
   simp only[c];refine⟨_,rfl,0,_,rfl,rfl,rfl,rfl,e,λ_=>⟨q,s,A,B,rfl,?_⟩⟩;simp[E]
theorem zzN(y:zq cd)(a:List zN)(d:a=bY y.u.1 y.v.1)(E:N y.1<=1000000)(n:Nat)(s:2+N y.1+N a<=n):
  ∃r,eh HZ n (.h3 a (N a:Int) 0 y a)=Y r/\zd0 y r:=by
 have F:N a<=2:=by rw[d];unfold bY;split<;>simp
 refine dP (t:=HZ) (β:=Unit) (N a) (λ_ i=>.h3 a (N a:Int) (i:Int) y a) (λ_ i=>∀j(e:j<N a),j<i->(0:Int)<=ao y.1 a[j]) (zd0 y) (2+N y.1) ?_ ?_ (N a) 0 () n rfl (aK _) (λj _ h=>by omega) s
 .intro b i l o;simp only[HZ,SP,MQ,Q8,zM l,zu l,zi,zP a _ l];rw[zt i um];by_cases c:(0:Int)<=ao y.1 a[i]
  .have:K (LT.lt (α:=Int) (ao y.1 a[i]) 0)=M:=by simpa using c
   simp only[this];refine Or.inl ⟨(),λj e D=>?_,rfl⟩;by_cases g:j=i
   .subst g;exact c
   .exact o j e S
  .have:K (LT.lt (α:=Int) (ao y.1 a[i]) 0)=Z:=by simpa using c
   simp only[this,zi];refine Or.inr ⟨_,rfl,6,y,rfl,rfl,rfl,rfl,?_,λh=>by cases h⟩;unfold rk;rw[zh];intro h;exact c (h _ (by rw[<-d];exact bh l))
 .intro b n o s;obtain⟨n,rfl⟩:∃k,n=k+1:=⟨n-1,S⟩;have m:∀n∈bY y.u.1 y.v.1,LE.le (α:=Int) 0 (ao y.1 n):=by
   intro x z;rw[<-d]at z;obtain⟨j,e,rfl⟩:=fN z;exact o j e e
  have q:rk y.1 y.u.1 y.v.1 y.2.1.2.1=if(K (GE.ge (α:=Int) (ao y.1 y.2.1.2.1) 0)||y.u.1==y.v.1)=Z then 7 else if eM y.1 a=Z then 10 else 0:=by
   unfold rk;rw[zf m,<-d]
  have A:(0:Int)<=ao y.1 y.u.1:=m _ (by unfold bY;split<;>simp);have B:y.v.1=[]\/(0:Int)<=ao y.1 y.v.1:=by
   by_cases w:(y.v.1==[])=Z
   .left;simpa using w
   .right;exact m _ (by unfold bY;rw[zh w];simp)
  rw[dg];simp only[HZ,SP,MQ,Q8,zJ];by_cases c:(bif K (GE.ge (α:=Int) (ao y.1 y.2.1.2.1) 0)then Z else y.u.1==y.v.1)=Z
  .simp only[c,zi];refine⟨_,rfl,7,y,rfl,rfl,rfl,rfl,?_,λh=>by cases h⟩;rw[q,zf (by revert c;cases K (GE.ge (α:=Int) (ao y.1 y.2.1.2.1) 0)<;>exact id)]
  .simp only[c];have p:K (GE.ge (α:=Int) (ao y.1 y.2.1.2.1) 0)=M:=by
    cases C:K (GE.ge (α:=Int) (ao y.1 y.2.1.2.1) 0)with
    |false=>rfl
    |true=>rw[C]at c;simp at c
   rw[p]at c;refine zwF y a E A B (by simpa using p) (by simpa using c) ?_ n S;rw[q,p,zh (by simpa using c)]
theorem OV(y:zq cd)(g:N y.1<=1000000):∃(e:Int)(h:zq cd),tA y=Y ((e,()),h)/\h.1=y.1/\h.2.1=y.2.1/\h.t=y.t/\e=rk y.1 y.u.1 y.v.1 y.2.1.2.1/\(e=0->zib y h):=by
 have b:mE (y.t.1,y.u.1,y.v.1,(y.w.1,[],y.x.1,[],[],zw y.y.1),[],y.z.1)=bY y.u.1 y.v.1:=rfl;obtain⟨r,c,e,h,rfl,d⟩:=zzN y _ b g 100000000 (by
  have:N (mE (y.t.1,y.u.1,y.v.1,(y.w.1,[],y.x.1,[],[],zw y.y.1),[],y.z.1))<=2:=by rw[b];unfold bY;split<;>simp
  omega)
 refine⟨e,h,?_,d⟩;unfold tA kM bT;simp only[znm,Q8];rw[c];exact dO (outs:=[zk]) (r:=J e) (a:=(e,())) h rfl
theorem Bt(h:i<b):K ((i:Int).toNat<b)=Z:=by simpa using h
def yQ(t:ap):Int:=
 if∃i,i<N t.2.1/\ab t (T t.2.1 i (Q zp)).1≠(i:Int)then 7 else if(t.u.op==[])=Z then 0
 else if(cond ((cz t.u t.2.1).2==0) (cond ((cz t.u t.2.1).1!=3) ((cz t.u t.2.1).1!=0) M) M)=Z then 5 else(cz t.u t.2.1).2
abbrev Vf(y:zq aH):ap:=(y.w.1,y.x.1,y.y.1,[],[],y.z.1)
theorem wj(y:zq aH)(l:N y.x.1<=1000000):xA y=Y ((yQ (Vf y),()),y):=by
 have h:=dP (t:=SQ) (β:=Unit) (N y.x.1) (λ_ i=>.h2 (N y.x.1:Int) (i:Int) y) (λ_ i=>∀j,j<i->j<N y.x.1->ab (Vf y) (T y.x.1 j (Q zp)).1=(j:Int)) (λr=>r=(J (yQ (Vf y)),bd aH y)) 1 (by
   intro b i d g;simp only[SQ,SR,MR,Q8,zM d,zu d,zC d,zi,zn,aI];rw[zt i um];by_cases c:(ab (Vf y) (T y.x.1 i (Q zp)).1!=(i:Int))=Z
   .simp only[c,zi];refine Or.inr ⟨_,rfl,?_⟩;unfold yQ;rw[zf ⟨i,d,by simpa using c⟩]
   .simp only[c];refine Or.inl ⟨(),λj q l=>?_,rfl⟩;by_cases h:j=i
    .subst h;simpa using c
    .exact g j S l) (by
   intro b n g s;obtain⟨n,rfl⟩:∃k,n=k+1:=⟨n-1,S⟩;have m:¬∃i,i<N (Vf y).2.1/\ab (Vf y) (T (Vf y).2.1 i (Q zp)).1≠(i:Int):=by
    rintro⟨i,d,h⟩;exact h (g i d d)
   have p:(SQ (.h2 (N y.x.1:Int) (N y.x.1:Int) y)).val=Y (.inr (J (yQ (Vf y)),bd aH y)):=by
    simp only[SQ,SR,MR,Q8,zJ,zn];unfold yQ;rw[zh m];split
    .simp_all
    .split
     .rfl
     .split<;>rfl
   rw[dg,p];exact⟨_,rfl,rfl⟩)
  y.x.1.length 0 () 100000000 rfl (aK _) (λj h=>by omega) S
 obtain⟨r,o,rfl⟩:=h;unfold xA kM bT;simp only[zno,Q8];have e:eh SQ 100000000 (.h2 (N y.x.1:Int) 0 y)=Y (J (yQ (Vf y)),bd aH y):=o;rw[e];exact dO (outs:=[zk]) (r:=J (yQ (Vf y))) (a:=(yQ (Vf y),())) y rfl
theorem yN(t:ap)(s:zN):ab t s=(-1:Int)\/((0:Int)<=ab t s/\LT.lt (α:=Int) (ab t s) (N t.2.1)):=by have:=gT (λc:cK=>c.1==s) t.2.1 0;unfold ab;simpa using this
theorem tu(h:¬LT.lt (α:=Int) (ab t x) 0):zK (ab t x) (N t.2.1)=Z:=by
 rcases yN t x with a|⟨a,b⟩
 .rw[a]at h;simp at h
 .simp only[zK,aO,bc];exact⟨a,b⟩
theorem B8(x:Int):∀(l:List Int)(i:Nat),GE.ge (α:=Int) (fF x l (i:Int)) 0↔x∈l
 | [],i=>by
  rw[fF];exact⟨λh=>zB h (by decide),λh=>by cases h⟩
 | a::r,i=>by
  rw[fF];split
  .rename_i h;have:x=a:=by simpa using h
   subst this;exact⟨λ_=>uO,λ_=>Int.natCast_nonneg i⟩
  next h=>have:=B8 x r (i+1);rw[wK]at this;rw[ce];refine⟨λb=>.inr (this.1 b),λb=>this.2 (b.resolve_left ?_)⟩;rintro rfl;simp at h
theorem we(l:List Int)(x:Int):wc l x=Z↔x∈l:=by unfold wc;rw[decide_eq_true_iff];exact B8 x l 0
def gV(t:ap)(n:List zN):Int:=if∀s∈n,¬LT.lt (α:=Int) (ab t s) 0 then(ite ((n.map (ab t)).Nodup) 0 7)else 4
theorem FS{l:List Int}:(l++[c]).Nodup↔l.Nodup/\c∉l:=by rw[List.nodup_append];simp;intro _;exact⟨λh x=>h c x rfl,λh y a e=>h (e▸a)⟩
theorem aQ{l:List α}(h:i<N l):l.take (i+1)=l.take i++[l[i]]:=by rw[List.take_add_one,aj h];rfl
def QH(y:zq cd)(z:zq eG):Prop:=z.1=y.1/\z.2.1=y.2.1/\z.q.1=y.q.1/\z.r.1=y.r.1/\z.t.1=y.t.1/\z.u.1=y.u.1/\z.v.1=y.v.1/\z.w.1=y.w.1/\
 z.y.1=y.x.1/\z.z.1=y.y.1/\z.p=y.z
abbrev ip(z:zq eG):aZ:=z.x.1
abbrev f5(z:zq eG):ea:=z.s.1
def NmI(y:zq cd)(l:List zN)(z:zq eG):Prop:=QH y z/\f5 z=l.map (λs=>ab y.q.1 s)/\ip z=l.map (λs=>T y.q.1.2.1 (W (ab y.q.1 s)) (Q zp))/\∀s∈l,¬LT.lt (α:=Int) (ab y.q.1 s) 0
def NmR(y:zq cd)(r:ay):Prop:=∃(e:Int)(z:zq eG),r=(J e,bd aH z)/\QH y z/\e=gV y.q.1 y.2.1.r.1/\(e=0->NmI y y.2.1.r.1 z)/\(ip z).length<=1000000
theorem zvt(y:zq cd)(z:zq eG)(d:NmI y y.2.1.r.1 z)(l:gV y.q.1 y.2.1.r.1=if(f5 z).Nodup then 0 else 7)(v:(f5 z).length<=1000000)(m:Nat):∀(i n:Nat),(f5 z).length-i=m->i<=(f5 z).length->((f5 z).take i).Nodup->1+m<=n->∃r,eh uJ n (.h12b ((f5 z).length:Int) (i:Int) z)=Y r/\NmR y r:=by
 intro i n w x g o;have a:(ip z).length<=1000000:=by
  have:=v;rw[d.2.1,cY]at this;rw[d.q.1,cY];exact this
 refine dP (t:=uJ) (β:=Unit) (f5 z).length (λ_ i=>.h12b ((f5 z).length:Int) (i:Int) z) (λ_ i=>((f5 z).take i).Nodup) (NmR y) 1 ?_ ?_ m i () n w x g o
 .intro b i x e;have u:(K (0<=0)&&K ((0:Int)<=(i:Int))&&K ((i:Int)<=((f5 z).length:Int)))=Z:=by simp;omega
  simp only[uJ,Hl,Bq,Q8,zM x,zu x,zi,u];rw[zt i um];rw[show List.take (W (i:Int)-W 0) (List.drop (W 0) z.s.1)=(f5 z).take i by simp,show z.s.1.getD (W (i:Int)) (Q zk)=(f5 z)[i]from zP (f5 z) _ x];split
  next c=>refine Or.inr ⟨_,rfl,7,z,rfl,d.1,?_,λh=>(by cases h),a⟩;rw[l,zh];intro p;have j:((f5 z).take (i+1)).Nodup:=p.sublist (List.take_sublist _ _);rw[aQ x,FS]at j;exact j.2 ((we _ _).1 c)
  next c=>refine Or.inl ⟨(),?_,rfl⟩;show((f5 z).take (i+1)).Nodup;rw[aQ x,FS];exact⟨e,λh=>c ((we _ _).2 h)⟩
 .intro b n e o;rw[eF]at e;obtain⟨n,rfl⟩:∃k,n=k+1:=⟨n-1,S⟩;rw[dg];simp only[uJ,Hl,Bq,Q8,zJ];exact⟨_,rfl,0,z,rfl,d.1,by rw[l,zf e],λ_=>d,a⟩
theorem zzE(y:zq cd)(z:zq eG)(x:NmI y y.2.1.r.1 z)(g:gV y.q.1 y.2.1.r.1=if(f5 z).Nodup then 0 else 7)(i:(f5 z).length<=1000000)(n:Nat)(m:2+(f5 z).length<=n):∃r,eh uJ n (.h12 ((f5 z).length:Int) 0 z)=Y r/\NmR y r:=by
 have d:(ip z).length<=1000000:=by
  have:=i;rw[x.2.1,cY]at this;rw[x.q.1,cY];exact this
 obtain⟨n,rfl⟩:∃k,n=k+1:=⟨n-1,S⟩;rw[dg];by_cases h:0<(f5 z).length
 .have l:(K (0<=0)&&K ((0:Int)<=((0:Nat):Int))&&K (((0:Nat):Int)<=((f5 z).length:Int)))=Z:=by simp
  have a:(∃r,(uJ (.h12 ((f5 z).length:Int) ((0:Nat):Int) z)).val=Y (.inr r)/\NmR y r)\/(uJ (.h12 ((f5 z).length:Int) ((0:Nat):Int) z)).val=Y (.inl (.h12b ((f5 z).length:Int) ((1:Nat):Int) z)):=by
   simp only[uJ,MT,Hm,Q8,zM h,zu h,Bt h,zi,l];rw[zt 0 um];split
   next c=>exact zB ((we _ _).1 c) sw
   .exact Or.inr rfl
  rw[Int.ofNat_zero]at a;rcases a with⟨r,b,j⟩|b
  .rw[b];exact⟨r,rfl,j⟩
  .rw[b];exact zvt y z x g i _ 1 n rfl S (by rw[aQ h];simp) S
 .have e:(f5 z).length=0:=by omega
  have a:(uJ (.h12 ((f5 z).length:Int) 0 z)).val=Y (.inr (J 0,bd aH z)):=by
   rw[e];simp[uJ,MT,Hm,Q8]
  rw[a];exact⟨_,rfl,0,z,rfl,x.1,by rw[g,zf (by rw[DY e];exact List.nodup_nil)],λ_=>x,d⟩
theorem nm3(y:zq cd)(z:zq eG)(D:NmI y [] z)(E:N y.2.1.r.1<=1000000)(n:Nat)(A:3+N y.2.1.r.1+N y.2.1.r.1<=n):∃r,eh uJ n (.h3 y.2.1.r.1 (N y.2.1.r.1:Int) 0 z)=Y r/\NmR y r:=by
 refine dP (t:=uJ) (β:=zq eG) (N y.2.1.r.1) (λz i=>.h3 y.2.1.r.1 (N y.2.1.r.1:Int) (i:Int) z) (λz i=>NmI y (y.2.1.r.1.take i) z) (NmR y) (3+N y.2.1.r.1) ?_ ?_ (N y.2.1.r.1) 0 z n rfl (aK _) (by simpa using D) A
 .intro z i b a;have⟨l,B,o,C⟩:=a;have c:(f5 z).length<=1000000:=by rw[B,cY,oC];omega
  have g:(ip z).length<=1000000:=by rw[o,cY,oC];omega
  have j:z.q.1=y.q.1:=l.q.1;simp only[uJ,ST,MU,Q8,zM b,zu b,zi,zP _ _ b,zn,aN];rw[zt i um];by_cases e:LT.lt (α:=Int) (ab z.q.1 y.2.1.r.1[i]) 0
  .simp only[zC e,zi];refine Or.inr ⟨_,rfl,4,z,rfl,l,?_,λh=>(by cases h),g⟩;unfold gV;rw[zh];intro h;exact h _ (bh b) (by rw[<-j];exact e)
  .simp only[aC e,tu e];refine Or.inl ⟨(z.1,z.2.1,z.q.1,z.r.1,z.t.1,z.u.1,z.v.1,z.w.1,z.x.1++[T z.q.1.2.1 (W (ab z.q.1 y.2.1.r.1[i])) (Q zp)],z.y.1,z.z.1,z.s.1++[ab z.q.1 y.2.1.r.1[i]],z.p),⟨l,?_,?_,?_⟩,?_⟩;rotate_left 3
   .rw[zh sw,zf (by have:N z.s.1<=1000000:=c;simp;omega),zf trivial,zf (by have:N z.x.1<=1000000:=g;simp;omega)]
   .show f5 z++[ab z.q.1 y.2.1.r.1[i]]=_;rw[B,j,aQ b,gm];rfl
   .show ip z++[T z.q.1.2.1 (W (ab z.q.1 y.2.1.r.1[i])) (Q zp)]=_;rw[o,j,aQ b,gm];rfl
   .intro s d;rw[aQ b,dl]at d;rcases d with d|d
    .exact C s d
    .rw[fb]at d;rw[d,<-j];exact e
 .intro z n a A;obtain⟨n,rfl⟩:∃k,n=k+1:=⟨n-1,S⟩;rw[eF]at a;have c:(f5 z).length=N y.2.1.r.1:=by rw[a.2.1,cY]
  rw[dg];simp only[uJ,ST,MU,Q8,zJ];have m:2+(f5 z).length<=n:=by rw[c];omega
  refine zzE y z a ?_ S n m;unfold gV;rw[zf a.r,a.2.1]
theorem JI(y:zq cd)(c:N y.2.1.r.1<=1000000):∃(e:Int)(z:zq eG),C7 y=Y ((e,()),z)/\QH y z/\e=gV y.q.1 y.2.1.r.1/\(e=0->NmI y y.2.1.r.1 z)/\(ip z).length<=1000000:=by
 obtain⟨r,h,e,z,rfl,b⟩:=nm3 y (y.1,y.2.1,y.q.1,y.r.1,y.t.1,y.u.1,y.v.1,y.w.1,[],y.x.1,y.y.1,[],y.z)
  ⟨⟨rfl,rfl,rfl,rfl,rfl,rfl,rfl,rfl,rfl,rfl,rfl⟩,rfl,rfl,sw⟩ c 100000000 S
 refine⟨e,z,?_,b⟩;unfold C7 kM bT;simp only[znv,Q8];rw[h];exact dO (outs:=[zk]) (r:=J e) (a:=(e,())) (ps:=aH) z rfl
theorem zi3(y:zq cd):Zv y=y:=by grind[zn]
def pB(y:zq cd)(z:zq aH):Prop:=z.1=y.1/\z.2.1=y.2.1/\z.q.1=y.q.1/\z.r.1=y.r.1/\z.t.1=y.t.1/\z.u.1=y.u.1/\z.v.1=y.v.1/\z.w.1=y.w.1
structure qG (z:zq aH) (cols:aZ) (key:Int) (ix:List Int) (on:Int):Prop where
 cols:z.x.1=cols
 key:z.y.1=key
 ix:z.s.1=ix
 on:z.p.1=on
def eX(t:ap)(n:List zN):aZ:=n.map λs=>T t.2.1 (W (ab t s)) (Q zp)
def ke(t:ap)(n:List zN):List Int:=n.map (ab t)
def vI(t:ap)(n:List zN):Int:=if gV t n=0 then(if LT.lt (α:=Int) (iA (ke t n) t.q.1) 0 then 1 else 0)else gV t n
def rS(t:ap)(n:List zN):Int:=if gV t n=0 then(ite (((eX t n).getD 1 (Q zp)).2.1=(1:Int)) 0 5)else gV t n
def AM(t:ap)(n:List zN):aZ:=
 [(((eX t n).getD 0 (Q zp)).1,((eX t n).getD 0 (Q zp)).2.1,Z),(((eX t n).getD 1 (Q zp)).1,((eX t n).getD 1 (Q zp)).2.1,M)]
def gL(t u:ap)(k w:zN):Int:=
 if LT.lt (α:=Int) (ab t k) 0 then 4 else if kc t.t.1 (ab t k,w)=Z then(if LT.lt (α:=Int) 9 ((N t.2.1:Int)+(N u.2.1:Int))then 13 else 0)else 10
def FZ(k:Int)(n:Nat):List Nat:=(List.range n).filter λj=>(j:Int)!=k
def nX(k:Int)(n:Nat):List Int:=(FZ k n).map λ(j:Nat)=>(j:Int)
def ju(u:ap)(n:Nat):aZ:=(FZ u.q.1 n).map λj=>T u.2.1 j (Q zp)
theorem znj(y:zq cd):zfi y=ZZ y y (lm y) (iA (lm y).p.1 (lm y).r.1.q.1):=by unfold zfi;rw[zi3]
theorem zaw(y:zq cd)(A:N y.2.1.r.1<=1000):∃z:zq aH,Ln y=Y ((vI y.q.1 y.2.1.r.1,()),z)/\pB y z/\z.z.1=y.y.1/\
  (ip z).length<=1000000/\(vI y.q.1 y.2.1.r.1=0->qG z (eX y.q.1 y.2.1.r.1) (iA (ke y.q.1 y.2.1.r.1) y.q.1.q.1) (ke y.q.1 y.2.1.r.1) y.z.1):=by
 have⟨e,z,m,x,l,n,b⟩:=JI y S;have s:lm y=(e,z):=by unfold lm;rw[m];rfl
 have p:qa y=Z:=by unfold qa;rw[m];rfl
 have d:pB y z:=⟨x.1,x.2.1,x.q.1,x.r.1,x.t.1,x.u.1,x.v.1,x.w.1⟩;have c:z.z.1=y.y.1:=x.y.1;unfold Ln kM bT;rw[znj];simp only[ZZ,Q8,s,p,zi];by_cases g:e=0
 .have j:=n g;have i:vI y.q.1 y.2.1.r.1=if LT.lt (α:=Int) (iA (f5 z) z.q.1.q.1) 0 then 1 else 0:=by
   unfold vI;rw[zf (l▸g),j.2.1,x.q.1];rfl
  simp only[g,gj,zA,zm];by_cases k:LT.lt (α:=Int) (iA (f5 z) z.q.1.q.1) 0
  .rw[zf k]at i;simp only[zC k,zi,i];exact⟨_,dO (outs:=[zk]) (r:=J 1) (a:=(1,())) (ps:=aH) _ rfl,d,c,b,λh=>by cases h⟩
  .rw[zh k]at i;simp only[aC k,i];refine⟨_,dO (outs:=[zk]) (r:=J 0) (a:=(0,())) (ps:=aH) _ rfl,d,c,b,λ_=>⟨j.q.1,?_,j.2.1,by rw[x.z]⟩⟩;show iA (f5 z) z.q.1.q.1=_;rw[j.2.1,x.q.1];rfl
 .have o:(e !=0)=Z:=by simpa using g
  have i:vI y.q.1 y.2.1.r.1=e:=by
   unfold vI;rw[zh (l▸g),l]
  simp only[o,zi,i];exact⟨_,dO (outs:=[zk]) (r:=J e) (a:=(e,())) (ps:=aH) z rfl,d,c,b,λh=>zB h g⟩
theorem znl(y:zq cd):zfj y=(let a:=lm y
  let b:=a.y.1.getD (W 1) (Q zp)
  let h:=a.y.1.getD (W 0) (Q zp)
  let x:=a.y.1.set (W 0) (h.1,h.2.1,Z)
  let c:=x.getD (W 1) (Q zp)
  Z0 y y a b h x c):=by unfold zfj;rw[zi3]
theorem WS(y:zq cd)(hl:N y.2.1.r.1=2):∃z:zq aH,C6 y=Y ((rS y.q.1 y.2.1.r.1,()),z)/\pB y z/\z.z.1=y.y.1/\
  (ip z).length<=1000000/\(rS y.q.1 y.2.1.r.1=0->qG z (AM y.q.1 y.2.1.r.1) y.x.1 (ke y.q.1 y.2.1.r.1) y.z.1):=by
 have⟨e,z,h1,g,he,h2,n⟩:=JI y S;have hn:lm y=(e,z):=by unfold lm;rw[h1];rfl
 have hc:qa y=Z:=by unfold qa;rw[h1];rfl
 have m:pB y z:=⟨g.1,g.2.1,g.q.1,g.r.1,g.t.1,g.u.1,g.v.1,g.w.1⟩;have l:z.z.1=y.y.1:=g.y.1;have s:z.y.1=y.x.1:=g.x.1;have h4:z.p.1=y.z.1:=by rw[g.z]
 unfold C6 kM bT;rw[znl];simp only[Z0,hn];by_cases o:e=0
 .have hI:=h2 o;have A:(ip z).length=2:=by rw[hI.q.1,cY];exact hl
  have d:ip z=eX y.q.1 y.2.1.r.1:=hI.q.1;have h3:f5 z=ke y.q.1 y.2.1.r.1:=hI.2.1;have k:rS y.q.1 y.2.1.r.1=if((eX y.q.1 y.2.1.r.1).getD 1 (Q zp)).2.1=(1:Int)then 0 else 5:=by
   unfold rS;rw[zf (he▸o)]
  have⟨B,C,D,E,F,G,H,P,j,U⟩:=z;obtain⟨c,b,rfl⟩:∃c b,j=[c,b]:=by
   match j,A with
   |[c,b],_=>exact⟨c,b,rfl⟩
  have d:[c,b]=eX y.q.1 y.2.1.r.1:=d;unfold AM;rw[<-d]at k|-;simp only[Q8,hc,zi,o,gj,zA,zm];have e1:zK 1 (N [c,b])=Z:=rfl;have e0:zK 0 (N [c,b])=Z:=rfl;by_cases i:b.2.1=(1:Int)
  .rw[zf (show([c,b].getD 1 (Q zp)).2.1=(1:Int)from i)]at k;rw[k];refine⟨(B,C,D,E,F,G,H,P,[(c.1,c.2.1,Z),(b.1,b.2.1,M)],U),?_,m,l,S,λ_=>⟨rfl,s,h3,h4⟩⟩;simp[i,T,zK];exact dO (outs:=[zk]) (r:=J 0) (a:=(0,())) (ps:=aH) (B,C,D,E,F,G,H,P,[(c.1,c.2.1,Z),(b.1,1,M)],U) rfl
  .rw[zh (show¬([c,b].getD 1 (Q zp)).2.1=(1:Int)from i)]at k;rw[k];refine⟨(B,C,D,E,F,G,H,P,[c,b],U),?_,m,l,by show N [c,b]<=_;simp,λh=>by cases h⟩;simp[i,T];exact dO (outs:=[zk]) (r:=J 5) (a:=(5,())) (ps:=aH) (B,C,D,E,F,G,H,P,[c,b],U) rfl
 .have hb:(e !=0)=Z:=by simpa using o
  have k:rS y.q.1 y.2.1.r.1=e:=by
   unfold rS;rw[zh (he▸o),he]
  simp only[Q8,hc,hb,zi,k];exact⟨z,dO (outs:=[zk]) (r:=J e) (a:=(e,())) (ps:=aH) z rfl,m,l,n,λh=>zB h o⟩
def JnI(y:zq cd)(i:Nat)(z:zq eG):Prop:=pB y z/\z.z.1=y.y.1/\qG z (y.q.1.2.1++ju y.r.1 i) y.q.1.q.1 (nX y.r.1.q.1 i) (ab y.q.1 y.2.1.u.1)
theorem mD(k:Int)(n:Nat):(FZ k n).length<=n:=by grind[FZ]
theorem JP(k:Int)(n:Nat):FZ k (n+1)=if((n:Int)!=k)=Z then FZ k n++[n]else FZ k n:=by grind[FZ,List.range_succ]
theorem zzj(y:zq cd)(z:zq eG)(C:JnI y 0 z)(D:N y.q.1.2.1<=100)(E:N y.r.1.2.1<=100)(n:Nat)(l:1+N y.r.1.2.1<=n):
  ∃r,eh SO n (.h11 y.r.1.2.1 (N y.r.1.2.1:Int) 0 z)=Y r/\∃o:zq eG,r=(J 0,bd aH o)/\JnI y (N y.r.1.2.1) o:=by
 refine dP (t:=SO) (β:=zq eG) (N y.r.1.2.1) (λz i=>.h11 y.r.1.2.1 (N y.r.1.2.1:Int) (i:Int) z) (λz i=>JnI y i z) _ 1 ?_ ?_ (N y.r.1.2.1) 0 z n rfl (aK _) C l
 .intro z i d j;have⟨e,c,a⟩:=j;have m:=mD y.r.1.q.1 i;have A:(ip z).length<=2000:=by
   rw[show ip z=_ from a.cols,jK,ju,cY];omega
  have B:(f5 z).length<=2000:=by
   rw[show f5 z=_ from a.ix,nX,cY];omega
  have g:z.r.1.q.1=y.r.1.q.1:=by rw[e.r.1]
  simp only[SO,MO,Hi,Q8,zM d,zu d,zi,zP _ _ d];rw[zt i um];refine Or.inl ?_;have h:=JP y.r.1.q.1 i;split
  .rename_i b;rw[g]at b;rw[zf b]at h;refine⟨(z.1,z.2.1,z.q.1,z.r.1,z.t.1,z.u.1,z.v.1,z.w.1,z.x.1++[y.r.1.2.1[i]],z.y.1,z.z.1,z.s.1++[(i:Int)],z.p),⟨e,c,⟨?_,a.key,?_,a.on⟩⟩,?_⟩
   .grind[qG.cols,ju]
   .grind[qG.ix,nX]
   grind
  .rename_i b;rw[g]at b;rw[zh b]at h;refine⟨z,⟨e,c,⟨?_,a.key,?_,a.on⟩⟩,rfl⟩
   .rw[a.cols,ju,ju,h]
   .rw[a.ix,nX,nX,h]
 .intro z n j l;obtain⟨n,rfl⟩:∃k,n=k+1:=⟨n-1,S⟩;grind[dg,SO,MO,Hi,Q8]
theorem zax(y:zq cd)(D:N y.q.1.2.1<=100)(E:N y.r.1.2.1<=100):∃z:zq aH,FH y=Y ((gL y.q.1 y.r.1 y.2.1.u.1 y.v.1,()),z)/\pB y z/\z.z.1=y.y.1/\
  (ip z).length<=1000000/\(gL y.q.1 y.r.1 y.2.1.u.1 y.v.1=0->qG z (y.q.1.2.1++ju y.r.1 (N y.r.1.2.1)) y.q.1.q.1 (nX y.r.1.q.1 (N y.r.1.2.1)) (ab y.q.1 y.2.1.u.1)):=by
 have p:∀(a:aZ)(b:Int)(c:zg)(d:List Int)(e:Int),pB y (y.1,y.2.1,y.q.1,y.r.1,y.t.1,y.u.1,y.v.1,y.w.1,a,b,c,d,e,()):=λ_ _ _ _ _=>⟨rfl,rfl,rfl,rfl,rfl,rfl,rfl,rfl⟩
 have A:Γ Δ (Γ Δ ((N y.q.1.2.1:Int)+(N y.r.1.2.1:Int))-1)=(N y.q.1.2.1:Int)+(N y.r.1.2.1:Int)-1:=by
  rw[mY ((N y.q.1.2.1:Int)+(N y.r.1.2.1:Int)) S S,mY _ S S]
 have o:∀e:Int,e≠0->(OC y).val=Y (.inr (J e,bd aH (y.1,y.2.1,y.q.1,y.r.1,y.t.1,y.u.1,y.v.1,y.w.1,[],y.x.1,y.y.1,[],ab y.q.1 y.2.1.u.1,())))->gL y.q.1 y.r.1 y.2.1.u.1 y.v.1=e->∃z:zq aH,FH y=Y ((gL y.q.1 y.r.1 y.2.1.u.1 y.v.1,()),z)/\pB y z/\z.z.1=y.y.1/\
  (ip z).length<=1000000/\(gL y.q.1 y.r.1 y.2.1.u.1 y.v.1=0->qG z (y.q.1.2.1++ju y.r.1 (N y.r.1.2.1)) y.q.1.q.1 (nX y.r.1.q.1 (N y.r.1.2.1)) (ab y.q.1 y.2.1.u.1)):=by
  intro e C l k;rw[k];refine⟨_,zbb l (dO (outs:=[zk]) (r:=J e) (a:=(e,())) (ps:=aH) _ rfl),p _ _ _ _ _,rfl,by show([]:aZ).length<=_;simp,λh=>zB h C⟩
 by_cases g:LT.lt (α:=Int) (ab y.q.1 y.2.1.u.1) 0
 .refine o 4 (by decide) ?_ (by unfold gL;rw[zf g]);grind[OC,OD,Q8,zn]
 by_cases i:kc y.q.1.t.1 (ab y.q.1 y.2.1.u.1,y.v.1)=Z
 .by_cases n:LT.lt (α:=Int) 9 ((N y.q.1.2.1:Int)+(N y.r.1.2.1:Int))
  .refine o 13 (by decide) ?_ (by unfold gL;rw[zh g,zf i,zf n]);simp only[OC,OD,Q8,zn,aC g,i,A];grind
  .have k:gL y.q.1 y.r.1 y.2.1.u.1 y.v.1=0:=by unfold gL;rw[zh g,zf i,zh n]
   have l:(OC y).val=Y (.inl (.h11 y.r.1.2.1 (N y.r.1.2.1:Int) 0 (y.1,y.2.1,y.q.1,y.r.1,y.t.1,y.u.1,y.v.1,y.w.1,y.q.1.2.1,y.q.1.q.1,y.y.1,[],ab y.q.1 y.2.1.u.1,()))):=by
    simp only[OC,OD,Q8,zn,aC g,i,A];rw[zh sw,zh sw,zh sg,zf sg]
   obtain⟨r,B,m,rfl,j⟩:=zzj y (y.1,y.2.1,y.q.1,y.r.1,y.t.1,y.u.1,y.v.1,y.w.1,y.q.1.2.1,y.q.1.q.1,y.y.1,[],ab y.q.1 y.2.1.u.1,()) ⟨p _ _ _ _ _,rfl,⟨by simp[ju,FZ],rfl,rfl,rfl⟩⟩ D E 100000000 S;rw[k];refine⟨m,?_,j.1,j.2.1,?_,λ_=>j.q⟩
   .unfold FH kM bT;rw[l];show(eh SO 100000000 _).bind _=_;rw[B];exact dO (outs:=[zk]) (r:=J 0) (a:=(0,())) (ps:=aH) m rfl
   .have s:=mD y.r.1.q.1 (N y.r.1.2.1);rw[show ip m=_ from j.q.cols,jK,ju,cY];omega
 .refine o 10 (by decide) ?_ (by unfold gL;rw[zh g,zh i]);grind[OC,OD,Q8,zn]
end Cad
