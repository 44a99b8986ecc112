/- The document's writer. -/
import Derived.Test.YtgcekmmgphhofaaGreatDoorR18
namespace Cad
open Go Go.Proofs
open List renaming length->Io,length->M
open IntKind renaming wrap->Γ,i64->Δ
open Tr renaming val->Q9
open Sh renaming str->Q7
open Bool renaming false->Q5,true->Q4,true->Z,false->J
open Option renaming some->Q1,some->Y
open Decidable renaming decide->L
open List renaming getD->W
open Tr (chk br re)
open AV (nils agg tup ptr kb str sl)
open Cad renaming Sem->N,ze->Q,ow->S,ai->I
noncomputable section
set_option maxHeartbeats 4000000
inductive zvy where
 |h4 (b4:Bool) (s5:zD) (i6:Int) (z0:zn [CP.d bQ])
 |h15 (b4:Bool) (s5:zD) (i8:Int) (z0:zn [CP.d bQ])
 |h20 (b4:Bool) (s5:zD) (i9:Int) (z0:zn [CP.d bQ])
inductive zvW where
 |h2 (l0:zH) (l1:List (N Q7)) (i5:Int)
 |h5 (l0:zH) (l1:List (N Q7)) (i5:Int) (i6:Int)
inductive zvX where
 |h3 (l0:aU) (l1:List (N Q7)) (i7:Int)
 |h3b (l0:aU) (l1:List (N Q7)) (i7:Int) (lh_0:da)
 |h10 (i9:Int)
 |h10b (i9:Int) (lh_0:da)
 |h13 (i9:Int) (i10:Int)
 |h13b (i9:Int) (i10:Int) (lh_0:da)
def UR:=zcY
theorem Mt:zm UR:=RL
abbrev zrA:List CP:=[.d .str,.d .str,.d .str,.nil,.nil,.d .str,.nil,.nil,.d .str,.d zi,.d zi,.d .str,.d .str,.nil,.d (.sl Q),.nil,.d .str,.d zi,.d zi,.d .str,.d .str,.nil,.d .str]
abbrev zrB:List CP:=[.d .str,.d .str,.d .str,.nil,.nil,.d .str,.nil,.nil,.d .str,.d zi,.d zi,.d .str,.d .str,.nil,.nil,.d (.sl pM),.d .expr,.d .str]
inductive zv7 where
 |h15 (s12:List UInt8) (i13:Int) (z0:zn LD) (z1:zn Jd) (z2:zn zrA)
 |h27 (s8:TS) (b9:N Sh.bool) (s14:List UInt8) (i15:Int) (z0:zn LD) (z1:zn Jd) (z2:zn zrB)
def zcZ:=UR
theorem RM:zm zcZ:=Mt
def zc0:=zcZ
theorem RN:zm zc0:=RM
abbrev zmQ:List CP:=[.d .str,.d .str,.d .str,.vec .str,.nil,.d .str,.nil,.nil,.d .str,.d zi,.d zi,.d .str,.d .str,.nil,.nil,.nil,.d .str,.d zi,.d zi,.d .str,.d .str,.nil,.d .str]
inductive zvx where
 |h14 (z0:zn ZN) (z1:zn zmQ)
 |h14b (b4:N Sh.bool) (z0:zn ZN) (z1:zn zmQ)
def zc1:=zc0
theorem RO:zm zc1:=RN
inductive zv6 where
 |h17 (l4:LF) (z0:zn Jd) (z1:zn ZN) (z2:zn Jd)
 |h25 (l4:LF) (z0:zn Jd) (z1:zn ZN) (z2:zn Jd)
def zc2:=zc1
theorem RQ:zm zc2:=RO
def zc3:=zc2
theorem RR:zm zc3:=RQ
def UL:=zc3
theorem Mo:zm UL:=RR
open Go
variable {n b:Nat}
theorem Jf{b1 b2 j:Nat}(h:b<128):Lib.decodeN n b b1 b2 j=(b,1):=by unfold Lib.decodeN;rw[zf h]
theorem Gj{b1 b2 b3:Nat}(h:¬b<128):128<=(Lib.decodeN n b b1 b2 b3).1:=by
 unfold Lib.decodeN;rw[zh h];repeat' split
 all_goals(simp only;omega)
theorem KA{p:Nat->Bool}(j:∀c:Nat,p c=Z↔(c<32\/c>126))(s:List UInt8):∀(f x:Nat),M s<=x+f->(Lib.idxFuncFrom p Z ⟨s.toArray⟩ f x<0↔∀(i:Nat)(h:i<M s),x<=i->32<=s[i].toNat/\s[i].toNat<=126)
 | 0,x,h=>by
  simp only[Lib.idxFuncFrom];exact⟨λ_ i b d=>zp b (by omega),λ_=>by decide⟩
 | f + 1,x,h=>by
  have k:(⟨s.toArray⟩:ByteArray).size=M s:=by simp[ByteArray.size]
  rw[Lib.idxFuncFrom,k];by_cases a:x<M s
  .have m:((⟨s.toArray⟩:ByteArray).get! x)=s[x]:=by
    simp[ByteArray.get!,a]
   rw[zf a,Lib.decode_at,m];by_cases l:s[x].toNat<128
   .rw[Jf l];simp only;by_cases g:p s[x].toNat=Z
    .rw[zf g];have:=(j _).1 g;exact⟨λh=>zp h (by omega),λh=>by have:=h x a (zK _);omega⟩
    .rw[zh g,KA j s f (x+1) (by omega)];have q:¬(s[x].toNat<32\/s[x].toNat>126):=λh=>g ((j _).2 h)
     refine⟨λh i b d=>?_,λh i b d=>h i b (by omega)⟩;by_cases e:i=x
     .subst e;omega
     .exact h i b (by omega)
   .have o:=Gj (n:=(⟨s.toArray⟩:ByteArray).size-x) (b1:=((⟨s.toArray⟩:ByteArray).get! (x+1)).toNat) (b2:=((⟨s.toArray⟩:ByteArray).get! (x+2)).toNat) (b3:=((⟨s.toArray⟩:ByteArray).get! (x+3)).toNat) l;rw[zf ((j _).2 (by omega))];exact⟨λh=>zp h (by omega),λh=>by have:=h x a (zK _);omega⟩
  .rw[zh a];exact⟨λ_ i b d=>zp b (by omega),λ_=>by decide⟩
theorem WU{p:Nat->Bool}(d:∀c:Nat,p c=Z↔(c<32\/c>126))(s:List UInt8):Lib.idxFunc p Z ⟨s.toArray⟩<0↔∀b∈s,32<=b.toNat/\b.toNat<=126:=by
 have e:(⟨s.toArray⟩:ByteArray).size=M s:=by simp[ByteArray.size]
 unfold Lib.idxFunc;rw[KA d s _ 0 (by omega)];constructor
 .intro h b a;obtain⟨i,x,rfl⟩:=jf a;exact h i x (zU _)
 .intro h i x _;exact h _ (bN x)
variable {g:Bool}
theorem gi{c:Bool}(h:c=Z)(x:g=Z):(ite (c=Z) g J)=Z:=by rw[zf h];exact x
theorem dS(h:n<=b):L (n<=b)=Z:=zL h
theorem FM{v:zw}(h:aP v=Z)(b:(v.1==2)=Z):M v.2.2<=40:=by
 have e:v.1=2:=by simpa using b
 unfold aP at h;rw[e]at h;simp only[show((2:Int)==0)=J from rfl,show((2:Int)==1)=J from rfl,show((2:Int)==2)=Z from rfl,zO,zr,zj]at h;cases x:v.2.1==0
 .rw[x]at h;simp at h
 .rw[x]at h;cases a:L ((M v.2.2:Int)<=40)
  .rw[a]at h;simp at h
  .have:=eB a;omega
theorem Lt(v:zw):wJ v=Z:=by
 unfold wJ;split
 .rfl
 .rename_i h;have h:aP v=Z:=by simpa using h
  split
  .rfl
  .split
   .rename_i x;have c:=FM h x;have a:=kX v.2.2 [39] oY;have b:(Lib.replaceAll v.2.2 [39] oY).length<=200:=by
     simp only[bx,cE]at a;omega
    refine gi ?_ (gi (dS ?_) (gi (dS ?_) rfl))
    .unfold t7;simp;omega
    .simp;omega
    .simp;omega
   .rfl
theorem FN(v:zw):(fN v).length<=300:=by
 unfold fN;split
 .simp
 .rename_i h;have h:aP v=Z:=by simpa using h
  split
  .have:=vY v.2.1;omega
  .split
   next x=>have b:=FM h x;have a:=kX v.2.2 [39] oY;simp only[bx,cE]at a;simp;omega
   .split
    .split<;>simp
    .simp
variable {x:zD}
theorem FS(h:fg x=Z):M x<=16:=by
 have h:me x=Z:=h;unfold me at h;by_cases b:(M x:Int)<=16
 .omega
 .exfalso;rw[aQ b]at h;cases a:L ((M x:Int)>=1)<;>rw[a]at h<;>simp at h
theorem WG{g:zg->Int->Int->Bool×Int}{e:zg}{d n:Int}(h:(yj g e d n).1=Z)(b:e.op=ic):M e.s<=16:=by
 unfold yj at h;split at h
 .cases h
 .split at h
  next x=>rw[b]at x;simp at x
  .split at h
   .cases x:ec e.v
    .rw[x]at h;simp at h
    .rw[x]at h;cases a:fg e.s
     .rw[a]at h;simp at h
     .exact FS a
   next x=>rw[b]at x;simp at x
theorem Ie(s:zD):(Lib.toUpperA s).length=M s:=by simp[Lib.toUpperA]
theorem AN:∀(a:Nat)(e:zg)(d n:Int),a<=16->(gZ a e d n).1=Z->gF a e=Z/\(aq a e).length<=400*2^a-100
 |0,_,_,_,_,h=>by cases h
 | a + 1,e,d,n,hN,h=>by
  rw[gZ]at h;obtain⟨t,q⟩:=wh h;have hp:2^a<=2^15:=Ov S S;have C:1<=2^a:=Nat.one_le_two_pow;have D:2^(a+1)=2*2^a:=by rw[sD];omega
  have g:∀x∈e.l,gF a x=Z/\(aq a x).length<=400*2^a-100:=by
   intro x w;rcases q with q|q
   .exfalso;have:dl e.op=0:=by
     rcases q with q|q<;>rw[q]<;>decide
    rw[this]at t;have:e.l=[]:=Do S;rw[this]at w;simp at w
   .obtain⟨m,z⟩:=tO e.l _ q x w;exact AN a x _ _ S z
  have o:∀i,i<e.l.length->e.l.getD i (zk Sh.expr)∈e.l:=by
   intro i y;rw[bf,zQ y];exact bN y
  rw[gF,aq];unfold yx rJ;rcases lM e.op with⟨k,c|c⟩|⟨k,c|c⟩|⟨k,c⟩|k
  .rw[c];simp only[beq_self_eq_true,zj];refine⟨gi (Lt _) rfl,?_⟩;have:=FN e.v;omega
  .have hs:=WG h c;rw[c];refine⟨rfl,?_⟩;show M e.s<=_;omega
  .rw[k]at t;have j:e.l.length=1:=by omega
   obtain⟨u,p⟩:=g _ (o 0 S);rw[c];refine⟨gi ?_ (gi u (gi (dS ?_) (gi (dS ?_) rfl))),?_⟩
   .simp[zT,j]
   .simp at p|-;omega
   .simp at p|-;omega
   .show(sI++aq a (e.l.getD 0 (zk Sh.expr))++[41]).length<=_;simp at p|-;omega
  .rw[k]at t;have j:e.l.length=1:=by omega
   obtain⟨u,p⟩:=g _ (o 0 S);rw[c];refine⟨gi ?_ (gi u (gi (dS ?_) (gi (dS ?_) rfl))),?_⟩
   .simp[zT,j]
   .simp at p|-;omega
   .simp at p|-;omega
   .show([40]++aq a (e.l.getD 0 (zk Sh.expr))++xX).length<=_;simp at p|-;omega
  .rw[k]at t;have j:e.l.length=2:=by omega
   obtain⟨u,p⟩:=g _ (o 0 S);obtain⟨G,H⟩:=g _ (o 1 S);have E:(L (e.op.length<=140737488355328)&&e.op.all λb=>L (b.toNat<128))=Z:=by
    rcases c with c|c|c|c|c|c<;>rw[c]<;>decide
   have A:e.op.length<=3:=by
    rcases c with c|c|c|c|c|c<;>rw[c]<;>simp
   have F:=Ie e.op;have P:(e.op==sJ)=J:=by rcases c with c|c|c|c|c|c<;>rw[c]<;>rfl
   have U:(e.op==ic)=J:=by rcases c with c|c|c|c|c|c<;>rw[c]<;>rfl
   have n3:(e.op==sK)=J:=by rcases c with c|c|c|c|c|c<;>rw[c]<;>rfl
   have n4:(e.op==xY)=J:=by rcases c with c|c|c|c|c|c<;>rw[c]<;>rfl
   simp only[P,U,n3,n4,zO,zr];refine⟨gi ?_ (gi u (gi (dS ?_) (gi (dS ?_) (gi E (gi (dS ?_) (gi (dS ?_) (gi ?_ (gi G (gi (dS ?_) (gi (dS ?_) rfl)))))))))),?_⟩
   .simp[zT,j]
   all_goals first
    |(simp[zT,j];done)
    |(simp at p H|-;omega)
  .rw[k]at t;omega
theorem tk(e:zg):jU e=Z:=by
 unfold jU;split
 .rfl
 next h=>exact gi (AN 16 e 1 0 S (by simpa[gY]using h)).1 rfl
theorem MO(e:zg):(iU e).1.length<=30000000:=by
 unfold iU;split
 .simp
 next h=>have:=(AN 16 e 1 0 S (by simpa[gY]using h)).2;show(aq 16 e).length<=_;omega
theorem yG(p:Int->Bool):∀s:zD,kS p s<=M s
 |[]=>by simp[kS]
 | c::r=>by
  have:=yG p r;rw[kS];split<;>simp<;>omega
theorem qz(f m:Int->Bool)(s:zD):bn f m s<=M s:=by
 cases s with
 |nil=>simp[bn]
 | cons c r=>
  have:=yG m r;rw[bn];split<;>simp<;>omega
theorem oC(i:Nat)(h:i<=4000000000):Γ Δ (i:Int)=(i:Int):=by
 have:=zz (i-1) um;cases i with
 |zero=>rfl
 |succ i=>simpa using this
theorem Dd(i:Nat)(h:i<=4000000000):Γ Δ ((i:Int)+1)=((i+1:Nat):Int):=zz i um
theorem nO:∀(n:Nat)(s:zD)(i:Nat)(a:Int)(b:zD),1<=i->i<=M s->M s+2<=n+i->M s<=1000000000->iV n s (i:Int) a b=Z
 |0,s,i,a,b,e,g,j,c=>by omega
 | n + 1,s,i,a,b,e,g,j,c=>by
  rw[iV];split
  .rename_i h;have h:i<M s:=by have:=eB h;omega
   refine gi (zx h) ?_;rw[Dd i S];split
   .exact nO n s (i+1) a b S S S c
   .refine gi ?_ ?_
    .cases x:L (((i+1:Nat):Int)<(M s:Int))
     .rfl
     .exact zx (by have:=eB x;omega)
    .split
     .rename_i d;have k:i+1<M s:=by
       cases x:L (((i+1:Nat):Int)<(M s:Int))
       .rw[x]at d;simp at d
       .have:=eB x;omega
      rw[Dd (i+1) S];exact nO n s (i+1+1) a b S S S c
     .refine gi ?_ (gi ?_ rfl)
      .simp;omega
      .unfold t7;simp;omega
  .rfl
theorem r9:∀(n:Nat)(s:zD)(i:Nat)(a:Int)(b:zD),1<=i->i<=M s->M s+2<=n+i->M s<=1000000000->
  (gy n s (i:Int) a b=((0,[]),0))\/∃k:Nat,(gy n s (i:Int) a b).2=(k:Int)/\1<=k/\k<=M s
 |0,s,i,a,b,e,g,j,x=>by omega
 | n + 1,s,i,a,b,e,g,j,x=>by
  rw[gy];split
  .rename_i h;have h:i<M s:=by have:=eB h;omega
   rw[Dd i S];split
   .exact r9 n s (i+1) a b S S S x
   .split
    .rename_i d;have l:i+1<M s:=by
      cases c:L (((i+1:Nat):Int)<(M s:Int))
      .rw[c]at d;simp at d
      .have:=eB c;omega
     rw[Dd (i+1) S];exact r9 n s (i+1+1) a b S S S x
    .exact .inr ⟨i+1,rfl,S,S⟩
  .exact .inl rfl
theorem Ig(t:ew):qH t=Z:=by
 unfold qH;split
 .rfl
 .split
  .refine gi ?_ rfl;cases h:((M t.2:Int)==1)
   .rfl
   .have:(M t.2:Int)=1:=by simpa using h
    simp only[bU,be];omega
  .simp
theorem C6(s:zD)(c:s≠[])(e:M s<=1000000000):ku s=Z:=by
 have x:1<=M s:=by cases s with|nil=>exact zp rfl c|cons _ _=>simp
 have j:=qz bh dd s;have k:=qz aM aM s;have i:nN s=Z:=nO (M s+1) s 1 _ _ S x S e;have g:zT 0 (M s)=Z:=zx x;have d:(L ((0:Int)<=0)&&L (0<=(bn bh dd s:Int))&&L ((bn bh dd s:Int)<=(M s:Int)))=Z:=by simp;omega
 have a:(L ((0:Int)<=0)&&L (0<=(bn aM aM s:Int))&&L ((bn aM aM s:Int)<=(M s:Int)))=Z:=by simp;omega
 have b:(L ((0:Int)<=0)&&L ((0:Int)<=1)&&L (1<=(M s:Int)))=Z:=by simp;omega
 unfold ku;simp only[i,g,zj,zO,zr];repeat' split
 all_goals first
  |rfl
  |(rename_i h;exfalso;apply h;simp;omega)
theorem If(s:zD)(g:s≠[])(i:M s<=1000000000)(x:e9 (bY s).1=Z):∃k:Nat,(bY s).2=(k:Int)/\1<=k/\k<=M s:=by
 have m:1<=M s:=by cases s with|nil=>exact zp rfl g|cons _ _=>simp
 have n:=qz bh dd s;have o:=qz aM aM s;have d:=r9 (M s+1) s 1 0 [] S m S i;unfold bY at x|-;simp only[zj,zO,zr]at x|-;split
 next h=>have:=eB h;exact⟨_,rfl,S,S⟩
 .rename_i h;rw[zh h]at x;split
  next a=>have:=eB a;exact⟨_,rfl,S,S⟩
  .rename_i a;rw[zh a]at x;split
   .rename_i j;rw[zf j]at x;rcases d with d|⟨k,l,b,c⟩
    .exfalso;have e:iA s=((0,[]),0):=d;rw[e]at x;revert x;decide
    .exact⟨k,l,b,c⟩
   .exact⟨1,rfl,S,S⟩
theorem uR:∀(n:Nat)(s:zD)(i:Nat)(l:eu),i<=Io s->Io s+1<=n+i->Io s<=1000000000->Io l<=400->rF n s (i:Int) l=true
 |0,s,i,l,o,p,d,g=>by omega
 | n + 1,s,i,l,o,p,d,g=>by
  rw[rF];split
  .rename_i x;have x:i<M s:=by have:=eB x;omega
   have m:List.take ((M s:Int).toNat-(i:Int).toNat) (List.drop (i:Int).toNat s)=s.drop i:=by
    simp only[bB];exact List.take_of_length_le sw
   rw[m];refine gi ?_ ?_
   .rw[zx x];cases(((s.getD (i:Int).toNat 0).toNat:Int)==32)<;>rfl
   .split
    .rw[Dd i S];exact uR n s (i+1) l S S d g
    .have b:s.drop i≠[]:=by
      intro h;have:=congrArg M h;simp at this;omega
     have a:(s.drop i).length<=1000000000:=by simp;omega
     refine gi ?_ (gi (C6 _ b a) (gi (Ig _) ?_))
     .simp;omega
     .split
      .rfl
      .rename_i c;have j:e9 (bY (s.drop i)).1=Z:=by
        cases y:e9 (bY (s.drop i)).1
        .rw[y]at c;simp at c
        .rfl
       have w:M l≠400:=by
        intro q;rw[j,q]at c;simp at c
       have⟨k,t,u,e⟩:=If _ b a j;have v:k<=M s-i:=by simpa using e
       refine gi (dS ?_) ?_
       .simp;omega
       .rw[t,show((i:Int)+(k:Int))=((i+k:Nat):Int) by omega,oC (i+k) S];exact uR n s (i+k) _ S S d sg
  .rfl
theorem Ux(s:zD)(h:M s<=1000000000):Uw s=Z:=uR (M s+1) s 0 [] S S h sw
structure kB (s:aG):Prop where
 op:M s.1<=1000
 table:M s.2.1<=1000
 other:M s.q.1<=1000
 names:M s.r.1<=20/\∀x∈s.r.1,M x<=1000
 cols:M s.t.1<=20/\∀x∈s.t.1,M x.1<=1000
 key:M s.u.1<=1000
 uniques:M s.v.1<=20/\∀x∈s.v.1,M x<=1000
 refs:M s.w.1<=20/\∀x∈s.w.1,M x.1<=1000/\M x.2<=1000
 row:M s.y.1<=20
 sets:M s.z.1<=20/\∀x∈s.z.1,M x.1<=1000
 role:M s.p<=1000
theorem BK(s:zD)(B:Nat):∀l:List zD,(∀x∈l,M x<=B)->(Lib.join l s).length<=M l*(B+M s)
 |[],_=>by simp[Lib.join,List.intercalate]
 | [x],h=>by
  rw[Lib.join_one];have:=h x sw;simp;omega
 | x::y::r,h=>by
  have i:=BK s B (y::r) (λz a=>h z (og _ a));have b:=h x sw;have e:Lib.join (x::y::r) s=x++s++Lib.join (y::r) s:=by simp[Lib.join,List.intercalate,List.intersperse]
  rw[e];simp only[cL,bx]at i|-;rw[jG];omega
theorem pp{α:Type}(p:α->Bool):∀(l:List α)(i:Nat),(!L (aj p l i>=0))=Z->∀x∈l,p x=J
 |[],_,_,x,a=>by simp at a
 | y::r,i,h,x,a=>by
  rw[aj]at h;cases b:p y
  .rw[b]at h;rcases bD.1 a with rfl|a
   .exact b
   .exact pp p r (i+1) (by simpa using h) x a
  .exfalso;rw[b]at h;simp at h
   try omega
theorem DK(e:zg):pT e=Z:=gi (tk e) rfl
theorem xT(e:zg):(jd e).length<=30000000:=MO e
theorem ni(s:zD)(h:M s<=10)(e:zg):sM s e=Z:=by
 unfold sM;have:=xT e;split
 .rfl
 .refine gi (dS ?_) (gi (DK e) (gi (dS ?_) (gi (dS ?_) rfl)))
  all_goals(simp;omega)
theorem rE(s:zD)(h:M s<=10)(e:zg):(nh s e).length<=30000030:=by
 unfold nh;have:=xT e;split
 .simp
 .simp;omega
theorem xO:∀(l:List (N Q7))(i:Int)(a:List zD),dU l i a=Lib.join (a++l.map oy) AB
 |[],i,a=>by simp[dU]
 |x::r,i,a=>by rw[dU,xO r];simp
theorem HY(B:Nat)(l:List (N Q7))(h:∀x∈l,(oy x).length<=B):(jq l).length<=M l*(B+3):=by
 unfold jq;rw[xO];have:=BK AB B ([]++l.map oy) (λy a=>by
  simp only[dR,aN]at a;obtain⟨x,b,rfl⟩:=a;exact h x b)
 simpa using this
theorem un(B:Nat)(g:B<=100000000):∀(l:List (N Q7))(i:Int)(a:List zD),(∀x∈l,(oy x).length<=B)->(∀x∈a,M x<=B)->M a+M l<=40->en l i a=Z
 | [],i,a,_,d,c=>by
  rw[en];refine gi ?_ rfl;have e:=BK AB B a d;have k:M a*(B+3)<=40*100000003:=D4 (by simpa using c) S
  replace e:(Lib.join a AB).length<=M a*(B+3):=e
  simp only[ar,aT];simp at c;exact⟨S,S⟩
 | x::r,i,a,h,d,c=>by
  rw[en];have j:=h x sw;simp at c;refine gi (dS ?_) ?_
  .simp;omega
  .refine un B g r (i+1) _ (λy b=>h y (og _ b)) (λy b=>?_) sg;rcases bX.1 b with b|b
   .exact d y b
   .simp at b;subst b;exact j
variable {s:aG}
theorem dw{b:Bool}(h:(tz s).val=if g=Z then Y (.inr (.bool b,[]))else none):qE s=g/\iW s=(g&&b):=by unfold qE iW yZ aA b6;rw[h];cases g<;>cases b<;>exact⟨rfl,rfl⟩
theorem zix(o:x=eR):(x==Uk)=J/\(x==bl1)=J/\(x==bl3)=J/\(x==Uh)=J/\(x==bl0)=J/\(x==Ue)=J/\(x==bl9)=J/\(x==Ui)=J/\(x==Uf)=J/\(x==Ug)=J/\(x==eR)=Z:=by rw[o];exact⟨rfl,rfl,rfl,rfl,rfl,rfl,rfl,rfl,rfl,rfl,rfl⟩
theorem ziy(o:x=iK):(x==Uk)=J/\(x==bl1)=J/\(x==bl3)=J/\(x==Uh)=J/\(x==bl0)=J/\(x==Ue)=J/\(x==bl9)=J/\(x==Ui)=J/\(x==Uf)=J/\(x==Ug)=J/\(x==eR)=J/\(x==iK)=Z:=by rw[o];exact⟨rfl,rfl,rfl,rfl,rfl,rfl,rfl,rfl,rfl,rfl,rfl,rfl⟩
theorem zaZ(o:x=yu):(x==Uk)=J/\(x==bl1)=J/\(x==bl3)=J/\(x==Uh)=J/\(x==bl0)=J/\(x==Ue)=J/\(x==bl9)=J/\(x==Ui)=J/\(x==Uf)=J/\(x==Ug)=J/\(x==eR)=J/\(x==iK)=J/\(x==yu)=Z:=by rw[o];exact⟨rfl,rfl,rfl,rfl,rfl,rfl,rfl,rfl,rfl,rfl,rfl,rfl,rfl⟩
abbrev jL(o:zD):Prop:=o=eR\/o=iK\/o=yu
theorem nR(h:M s.2.1<=1000)(x:M s.2.2.1<=1000)(a:M s.2.2.2.2.2.1<=1000)(b:M s.2.2.2.2.2.2.2.2.2.2.2.2<=1000):eZ s=Z:=by
 unfold eZ;refine gi (dS ?_) (gi (dS ?_) (gi (dS ?_) rfl))
 all_goals first|omega|(simp;omega)
theorem ml{c:Bool}(h:g=Z):(cond c g Z)=Z:=by cases c<;>simp[h]
def tC(s:aG):zD:=Uj++[67,79,80,89]++[32]++s.2.1++I0++s.q.1++[32,40,32]++jq s.r.1++[32,41]++nh [32] s.x.1
def tJ(s:aG):zD:=Uj++[74,79,73,78]++[32]++s.2.1++I0++s.q.1++AB++s.p++Gc++s.u.1++nh [32] s.x.1
def tG(s:aG):zD:=Uj++zgC++[32]++s.2.1++I0++s.q.1++[32,66,89,32]++s.r.1.getD 0 []++zgz++s.r.1.getD 1 []++nh [32] s.x.1
theorem zqW(h:kB s)(o:s.1=eR):(xt s).val=Y (.inr (.str (tC s),[]))/\(tC s).length<=1000000000:=by
 have⟨j,k,l,m,n,q,t,u,v,w,p⟩:=zix o;have e:Lib.toUpperA s.1=[67,79,80,89]:=by rw[o];rfl
 have g:(L (M s.1<=140737488355328)&&List.all s.1 λb=>L (b.toNat<128))=Z:=by rw[o];decide
 have C:=h.table;have z:=h.other;have A:=h.role;have y:=h.key;have c:=ni [32] sw s.x.1;have i:=rE [32] sw s.x.1;have d:mT s.r.1=Z:=un 1000 S s.r.1 0 [] h.names.2 sw (by have:=h.names.1;simp;omega);have a:=HY 1000 s.r.1 h.names.2;have a:(jq s.r.1).length<=20*1003:=aB a (D4 h.names.1 S);refine⟨?_,by unfold tC;simp only[cL,bx,cE];omega⟩;unfold tC;simp only[xt,Q9,zt,g,e,j,k,l,m,n,q,t,u,v,w,p,d,c,zj,zO,zr]
 iterate 9 rw[zf (zL (by simp<;>omega))]
theorem zqY(h:kB s)(o:s.1=iK):(xt s).val=Y (.inr (.str (tJ s),[]))/\(tJ s).length<=1000000000:=by
 have⟨i,j,k,l,m,n,q,t,u,v,p,c⟩:=ziy o;have d:Lib.toUpperA s.1=[74,79,73,78]:=by rw[o];rfl
 have e:(L (M s.1<=140737488355328)&&List.all s.1 λb=>L (b.toNat<128))=Z:=by rw[o];decide
 have A:=h.table;have y:=h.other;have z:=h.role;have w:=h.key;have a:=ni [32] sw s.x.1;have g:=rE [32] sw s.x.1;refine⟨?_,by unfold tJ;simp only[cL,bx,cE];omega⟩;unfold tJ;simp only[xt,Q9,zt,e,d,i,j,k,l,m,n,q,t,u,v,p,c,a,zj,zO,zr]
 iterate 10 rw[zf (zL (by simp<;>omega))]
theorem zqX(h:kB s)(o:s.1=yu)(d:M s.r.1=2):(xt s).val=Y (.inr (.str (tG s),[]))/\(tG s).length<=1000000000:=by
 have⟨q,t,u,v,w,y,z,A,C,D,p,c,_⟩:=zaZ o;have i:Lib.toUpperA s.1=zgC:=by rw[o];rfl
 have j:(L (M s.1<=140737488355328)&&List.all s.1 λb=>L (b.toNat<128))=Z:=by rw[o];decide
 have U:=h.table;have H:=h.other;have P:=h.role;have G:=h.key;have a:=ni [32] sw s.x.1;have k:=rE [32] sw s.x.1;have n0:(s.r.1.getD 0 []).length<=1000:=by
  rw[bf,zQ S,cD];exact h.names.2 _ (bN _)
 have n:(s.r.1.getD 1 []).length<=1000:=by
  rw[bf,zQ S,cD];exact h.names.2 _ (bN _)
 have l:zT 0 (M s.r.1)=Z:=by rw[d];rfl
 have m:zT 1 (M s.r.1)=Z:=by rw[d];rfl
 have g:W s.r.1 (Int.toNat 0) (zk Q7)=s.r.1.getD 0 []:=rfl;have e:W s.r.1 (Int.toNat 1) (zk Q7)=s.r.1.getD 1 []:=rfl;refine⟨?_,by unfold tG;simp only[cL,bx,cE];omega⟩;unfold tG;simp only[xt,Q9,zt,j,i,q,t,u,v,w,y,z,A,C,D,p,c,g,e,l,m,a,zj,zO,zr];generalize s.r.1.getD 0 []=E at n0;generalize s.r.1.getD 1 []=F at n
 iterate 10 rw[zf (zL (by simp<;>omega))]
theorem mP(h:(xt s).val=Y (.inr (.str x,[]))/\M x<=1000000000):CL s=Z/\uh s=x:=by unfold CL uh HP aA b6;rw[h.1];exact⟨rfl,rfl⟩
theorem HO(q:kB s)(y:jL s.1):qE s=Z:=by
 have u:=q.other;have v:=q.key;have w:=q.role;rcases y with o|o|o
 .obtain⟨a,c,d,e,i,j,k,l,m,n,p⟩:=zix o;obtain⟨x,_⟩:=dw (s:=s) (g:=_) (b:=_) (by simp only[tz,Q9,a,c,d,e,i,j,k,l,m,n,p,zj,zr,zO,zt];exact rfl);rw[x];exact ml (nR (by simp) (by first|exact u|simp) (by first|exact v|simp) (by first|exact w|simp))
 .obtain⟨a,c,d,e,i,j,k,l,m,n,p,h⟩:=ziy o;obtain⟨x,_⟩:=dw (s:=s) (g:=_) (b:=_) (by simp only[tz,Q9,a,c,d,e,i,j,k,l,m,n,p,h,zj,zr,zO,zt];exact rfl);rw[x];exact ml (nR (by simp) (by first|exact u|simp) (by first|exact v|simp) (by first|exact w|simp))
 .obtain⟨a,c,d,e,i,j,k,l,m,n,p,h,t⟩:=zaZ o;obtain⟨x,_⟩:=dw (s:=s) (g:=_) (b:=_) (by simp only[tz,Q9,a,c,d,e,i,j,k,l,m,n,p,h,t,zj,zr,zO,zt];exact rfl);rw[x];exact ml (nR (by simp) (by first|exact u|simp) (by first|exact v|simp) (by first|exact w|simp))
theorem jl(h:iW s=Z)(o:s.1=yu):M s.r.1=2:=by
 obtain⟨k,l,m,n,t,u,v,w,y,z,p,a,c⟩:=zaZ o;obtain⟨_,j⟩:=dw (s:=s) (g:=_) (b:=_) (by simp only[tz,Q9,k,l,m,n,t,u,v,w,y,z,p,a,c,zj,zr,zO,zt];exact rfl);rw[j]at h;by_cases d:M s.r.1=2
 .exact d
 .exfalso;have i:(cond (L ((M s.r.1:Int)<2)) Z (L ((M s.r.1:Int)>2)))=Z:=by
   rcases Nat.lt_or_gt_of_ne d with x|x
   .have:L ((M s.r.1:Int)<2)=Z:=zL S;rw[this];rfl
   .have:L ((M s.r.1:Int)>2)=Z:=zL S;rw[this];cases L ((M s.r.1:Int)<2)<;>rfl
  rw[i]at h;cases e:du s.2.1<;>cases x:du s.q.1<;>rw[e,x]at h<;>simp at h
theorem xN(x:kB s)(a:jL s.1):lh s=Z:=by
 unfold lh;refine gi ?_ rfl;unfold qF;refine gi (HO x a) ?_;split
 .rfl
 .rename_i h;have b:iW s=Z:=by simpa using h
  have:CL s=Z/\(uh s).length<=1000000000:=by
   rcases a with o|o|o
   .have:=zqW x o;exact⟨(mP this).1,(mP this).2▸this.2⟩
   .have:=zqY x o;exact⟨(mP this).1,(mP this).2▸this.2⟩
   .have:=zqX x o (jl b o);exact⟨(mP this).1,(mP this).2▸this.2⟩
  exact gi this.1 (gi (Ux _ this.2) rfl)
theorem Da:∀(e:List ((Int×Int×zD)×Int))(n:Nat)(x:Int),(jE e n x).length=M e
 |[],_,_=>rfl
 |_::_,0,_=>rfl
 |_::r,n+1,x=>by simp[jE,Da r n x]
theorem Yt(e:List ((Int×Int×zD)×Int))(k:Int×Int×zD):(js e k).length<=M e+1:=by unfold js;cases nV e k<;>simp
theorem FQ:∀(e:List ((Int×Int×zD)×Int))(k:Int×Int×zD),(nV e k=Z->ln e k<M e)/\ln e k<=M e
 |[],k=>⟨λh=>by simp[nV]at h,zK _⟩
 | p::r,k=>by
  have⟨x,b⟩:=FQ r k;constructor
  .intro h;rw[ln];cases a:(k==p.1)with
   |true=>simp
   | false=>
    have:nV r k=Z:=by simpa[nV,a]using h
    have:=x this;simp;omega
  .rw[ln];cases(k==p.1)<;>simp<;>omega
theorem zbD(e:List ((Int×Int×zD)×Int))(k:Int×Int×zD):ln e k<(js e k).length:=by
 have⟨x,a⟩:=FQ e k;unfold js;cases h:nV e k with
 |true=>exact x h
 |false=>simp;omega
def Sm(c:Int)(n:Nat):Prop:=0<=c/\c<n
theorem tB{c:Int}(h:Sm c n):zT c n=Z:=by simp[zT,h.1,h.2]
theorem pn(x:Int)(n:Nat):vU x n=Z↔Sm x n:=by
 unfold Sm vU;by_cases h:x>=0
 .rw[zL h];simp;omega
 .rw[aQ h];simp;omega
variable {α:Type}
theorem ws{l:List α}{d:α}{p:α->Bool}:((List.range (M l)).all λi=>p (l.getD i d))=Z↔∀x∈l,p x=Z:=by
 rw[dg];constructor
 .intro h x b;obtain⟨i,a,rfl⟩:=jf b;have:=h i (jF.2 a)
  rwa [bf,zQ a]at this
 .intro h i a;have a:=jF.1 a;rw[bf,zQ a];exact h _ (bN a)
variable {t:am}
theorem K0:(List.range (M t.t.1)).all (za8 t)=Z↔∀f∈t.t.1,Sm f.1 (M t.2.1)/\dI f.2=Z:=by have h:=ws (l:=t.t.1) (d:=zk zW) (p:=λf:bV=>vU f.1 (M t.2.1)&&dI f.2);simp only[ar,pn]at h;exact h
theorem gS(h:gO t=Z):Sm t.q.1 (M t.2.1)/\(∀f∈t.t.1,Sm f.1 (M t.2.1))/\(∀u∈t.r.1,Sm u (M t.2.1))/\M t.2.1<=8/\1<=M t.2.1:=by
 have g:=PB h;unfold gO at h;simp only[ar,pn]at h;have⟨x,_,a,b,e,_⟩:=h;have b:=K0.1 b;have a:=(ws (l:=t.r.1) (d:=zk zi) (p:=λu=>vU u (M t.2.1))).1 a;simp only[pn]at a;refine⟨e,λf i=>(b f i).1,a,g,?_⟩;cases c:dI t.1
 .rw[c]at x;simp at x
 .rw[c]at x;simp at x;omega
theorem Bt{row:zo}(h:(dM t row !=0)≠Z):M row=M t.2.1:=by
 simp at h;unfold dM at h;split at h
 .cases h
 .rename_i x;cases a:gO t with
  |false=>rw[a]at x;simp at x
  | true=>
   rw[a]at x;simp at x;omega
abbrev az(c:Int)(r:zo):zw:=W r (Int.toNat c) (zk Q)
def F1(h:List zo)(c:Int):Prop:=h.Pairwise λa b=>(az c a).1≠0->az c a≠az c b
theorem pR:∀(a:List ((Int×Int×zD)×Int))(k:Int×Int×zD)(x:Int),jE (js a k) (ln a k) x=kg a k x
 |[],k,x=>by simp[js,nV,ln,jE,kg]
 | p::r,k,x=>by
  have h:=pR r k x;cases b:(k==p.1)with
  | true=>
   have e:k=p.1:=aY b;simp[js,nV,ln,jE,kg,e]
  | false=>
   have e:js (p::r) k=p::js r k:=by
    simp only[js,nV,List.any_cons,b,Bool.false_or];cases(r.any λp=>k==p.1)<;>rfl
   rw[e,ln,kg,b];show p::jE (js r k) (ln r k) x=p::kg r k x;rw[h]
theorem FP(c:List ((Int×Int×zD)×Int))(k a:Int×Int×zD)(x:Int):gp (kg c k x) a=if a=k then x else gp c a:=by
 induction c with
 | nil=>
  by_cases h:a=k
  .subst h;simp[kg,gp]
  .simp[kg,gp,h]
 | cons p r i=>
  rw[kg];cases d:(k==p.1)with
  | true=>
   have e:k=p.1:=aY d;by_cases h:a=k
   .simp[gp,h]
   .have g:(a==p.1)=J:=by rw[<-e];simpa using h
    have j:(a==k)=J:=by simpa using h
    simp only[bU,gp,List.find?_cons,g,j,zh h]
  | false=>
   show gp (p::kg r k x) a=_;cases b:(a==p.1)with
   | true=>
    have e:a=p.1:=aY b;have h:a≠k:=by intro h;rw[<-h,b]at d;cases d
    simp only[gp,List.find?_cons,b,zh h]
   | false=>
    simp only[gp,List.find?_cons,b]at i|-;exact i
def tQ:zo->List ((Int×Int×zD)×Int)
 |[]=>[]
 |v::r=>kg (tQ r) v (Γ Δ (gp (tQ r) v+1))
theorem Ku:∀l:zo,(tQ l).length<=M l
 |[]=>zK _
 | v::r=>by
  rw[tQ,<-pR,Da];have:=Yt (tQ r) v;have:=Ku r;simp;omega
theorem BY:∀(l:zo)(v:zw),M l<=1000000->gp (tQ l) v=(l.count v:Int)
 |[],v,_=>by simp[tQ,gp]
 | u::r,v,h=>by
  simp only[bx]at h;have a:=BY r u S;have b:=BY r v S;have c:r.count u<=M r:=List.count_le_length;rw[tQ,FP,a,b,zz _ um];by_cases e:v=u
  .subst e;simp
  .have x:¬(u==v)=Z:=by intro h;exact e (aY h).symm
   rw[zh e,List.count_cons,zh x];rfl
theorem KZ{x:zX}{c:Int}(C:∀r∈x.2,zT c (Io r)=Q4)(hl:Io x.2<=1000000):∃b,yU x c=Q1 (b,())/\(b=Q5↔F1 x.2 c):=by
  let k:Nat->zw:=λi=>az c (W x.2 i (zk ze.sl))
  let m:Nat->List ((Int×Int×zD)×Int):=λi=>tQ (((x.2.take i).map (az c)).reverse)
  have y:∀i,i<M x.2->m (i+1)=kg (m i) (k i) (Γ Δ (gp (m i) (k i)+1)):=by
    intro i a;show tQ (((x.2.take (i+1)).map (az c)).reverse)=_;rw[List.take_succ_eq_append_getElem a,fx,List.reverse_append];show tQ (az c x.2[i]::_)=_;rw[tQ];have:k i=az c x.2[i]:=by
      show az c (W x.2 i _)=_;rw[bf,zQ a,cD]
    rw[this];rfl
  have q:∀i,i<=M x.2->(m i).length<=i:=by
    intro i a;have:=Ku (((x.2.take i).map (az c)).reverse);simp at this;have d:(m i).length=(tQ (((x.2.take i).map (az c)).reverse)).length:=rfl;simp at d;omega
  have o:∀i v,i<=M x.2->gp (m i) v=((((x.2.take i).map (az c)).count v:Nat):Int):=by
    intro i v a;show gp (tQ _) v=_;rw[BY _ _ sg,List.count_reverse]
  have D:=LN (t:=xP) (Φ:=λr=>bc r.2 [Sh.bool] r.1=some (true,())) 1 (λi=>.h3 c x.2 (Io x.2:Int) (i:Int) (m i)) (λi=>(k i).1≠0->((x.2.take i).map (az c)).count (k i)=0) (Io x.2) (by
    intro i a _;have k0:W x.2 (i:Int).toNat (zk ze.sl)=W x.2 i (zk ze.sl):=by rw[bB]
    have A:W x.2 i (zk ze.sl)=x.2[i]:=by rw[bf,zQ a,cD]
    have H:zT c (M x.2[i])=Z:=C _ (bN a);have n:k i=az c x.2[i]:=by show az c (W x.2 i _)=_;rw[A]
    have P:zT ((ln (m i) (k i):Nat):Int) (js (m i) (k i)).length=Z:=zx (zbD _ _);have U:L ((m i).length<=1073741824)=Z:=zL (by have:=q i S;omega);have k6:jE (js (m i) (k i)) ((ln (m i) (k i):Nat):Int).toNat (Γ Δ (gp (m i) (k i)+1))=m (i+1):=by rw[bB,pR,y i a]
    have k7:gp (m (i+1)) (k i)=((((x.2.take i).map (az c)).count (k i)+1:Nat):Int):=by
      have u:((x.2.take i).map (az c)).count (k i)<=((x.2.take i).map (az c)).length:=List.count_le_length;simp only[bR,kG]at u;rw[y i a,FP,zf rfl,o i _ S,zz _ um]
    have w:(xP (.h3 c x.2 (M x.2:Int) (i:Int) (m i))).val=if(cond ((k i).1!=0) (L (((((x.2.take i).map (az c)).count (k i)+1:Nat):Int)>1)) J)=Z then Y (.inr (.kb Z,[]))else Y (.inl (.h3 c x.2 (M x.2:Int) ((i+1:Nat):Int) (m (i+1)))):=by
      show(xP (.h3 c x.2 _ _ _)).val=_;unfold xP;simp only[k0,A];rw[show W x.2[i] (Int.toNat c) (zk Q)=k i from n.symm];simp only[Q9,z6 a,zx a,H,P,U,zj,k6,k7];rw[zz i um]
    by_cases l:(k i).1=0
    · refine .inl ⟨λh=>zp l h,z8.of ?_⟩
      rw[w,zh (by simp[l])]
    · by_cases d:((x.2.take i).map (az c)).count (k i)=0
      · refine .inl ⟨λ_=>d,z8.of ?_⟩
        rw[w,zh (by rw[d];simp)]
      · refine .inr ⟨λh=>d (h l),(.kb true,[]),aF.of ?_,rfl⟩
        rw [w,zf (by have:((k i).1 != 0)=true:=by simpa using l
                     rw[this];simp only[bU,aT];omega)])
  have z:(∀i,i<M x.2->(k i).1≠0->((x.2.take i).map (az c)).count (k i)=0)↔F1 x.2 c:=by
    unfold F1;rw[List.pairwise_iff_getElem];constructor
    · intro h j i E a F g e
      have n:k i=az c x.2[i]:=by show az c (W x.2 i _)=_;rw[bf,zQ a,cD]
      have:=h i a (by rw[n,<-e];exact g);rw[List.count_eq_zero,n,<-e]at this;exact this (aN.2 ⟨_,List.mem_take_iff_getElem.2 ⟨j,S,rfl⟩,rfl⟩)
    · intro h i a g
      have n:k i=az c x.2[i]:=by show az c (W x.2 i _)=_;rw[bf,zQ a,cD]
      rw[List.count_eq_zero];intro s;have⟨r,G,e⟩:=aN.1 s;obtain⟨j,E,rfl⟩:=List.mem_take_iff_getElem.1 G;rw[n]at e g;exact h j i S a S (by rw[e];exact g) e
  have p:(zdw x c).val=Y (.inl (.h3 c x.2 (M x.2:Int) ((0:Nat):Int) (m 0))):=rfl;rcases D with⟨l,d⟩|⟨l,r,d,u⟩
  · refine⟨Q5,?_,λ_=>z.1 l,λ_=>rfl⟩
    refine zF p (d.ends (aF.of (r:=(.kb J,[])) ?_)) S rfl;show(xP (.h3 c x.2 _ _ _)).val=_;simp only[xP,Q9,aw];rfl
  · refine⟨Q4,zF p d ow u,⟨λh=>?_,λh=>zp (z.2 h) l⟩⟩
    cases h
structure gh (x:zX):Prop where
 uq:M x.1.r.1<=1000
 rf:M x.1.t.1<=1000
 rw:M x.2<=1000
theorem IY(l:zH)(s:zD):ab l s=(-1:Int)\/((0:Int)<=ab l s/\LT.lt (α:=Int) (ab l s) (M l)):=by have:=ir (λx:zX=>x.1.1==s) l 0;simp at this;exact this
theorem my{l:zH}(h:(0:Int)<=ab l x):zT (ab l x) (M l)=Z:=by
 rcases IY l x with a|⟨a,b⟩
 .rw[a]at h;omega
 .simp only[zT,ar,aT];exact⟨a,b⟩
theorem cO{l:List α}{d:α}{Q:α->Prop}:(∀i,i<M l->Q (l.getD i d))↔∀x∈l,Q x:=by
 constructor
 .intro h x b;obtain⟨i,a,rfl⟩:=jf b;have:=h i a
  rwa [bf,zQ a,cD]at this
 .intro h i a;rw[bf,zQ a,cD];exact h _ (bN a)
theorem nD{l:List α}{d:α}{i:Nat}(h:i<M l):l.getD i d∈l:=by rw[bf,zQ h,cD];exact bN h
theorem uG(i:Nat)(h:i<af):Γ Δ (((i+1:Nat):Int)-1)=(i:Int):=by have:af=9223372036854775807:=rfl;rw[lz];omega
def Aj(a b:zw):Prop:=LT.lt (α:=Int) (aV a b) 0
theorem Qx{v b:zw}:L (GE.ge (α:=Int) (aV v b) 0)=Z↔¬Aj v b:=by unfold Aj;rw[aT];omega
structure eI (x:zX):Prop where
 may:gO x.1=Z
 few:M x.2<=200
 fits:∀r∈x.2,dM x.1 r=(0:Int)
 key:F1 x.2 x.1.q.1
 uniq:∀u∈x.1.r.1,F1 x.2 u
 rise:∀i,i<M x.2-1->Aj (az x.1.q.1 (W x.2 i (zk ze.sl))) (az x.1.q.1 (W x.2 (i+1) (zk ze.sl)))
def Err(r:ac):Prop:=∃e:Int,r=(I e,[])/\e≠0
theorem KW{a:zX}(hs:gh a):∃e:Int,nP a=Y (e,())/\(e=0↔eI a):=by
 have x0:=hs.rw;have h9:=hs.uq;have d:∀{k:Nat}{r:ac},aF g6 k (.h6 a.2 (M a.2:Int) ((0:Nat):Int) (a,())) r->k<=100000000->(Sk a).val=Y (.inl (.h6 a.2 (M a.2:Int) ((0:Nat):Int) (a,())))->∀e:Int,r=(I e,[])->nP a=Y (e,()):=by
  intro k r h hk x e y;subst y;exact zF x h hk rfl
 by_cases E:gO a.1=Z
 case neg=>
  refine⟨1,?_,λh=>(by cases h),λh=>zp h.may E⟩;unfold nP aA b6;simp only[Sk,zt,Q9];rw[zf (by simpa using E)];rfl
 by_cases hw:M a.2<=200
 case neg=>
  refine⟨13,?_,λh=>(by cases h),λh=>zp h.few hw⟩;unfold nP aA b6;simp only[Sk,zt,Q9];rw[zh (by simpa using E),zf sg];rfl
 have x:(Sk a).val=Y (.inl (.h6 a.2 (M a.2:Int) ((0:Nat):Int) (a,()))):=by
  simp only[Sk,zt,Q9];rw[zh (by simpa using E),zh sg];rfl
 have⟨z,h8,h7,_,_⟩:=gS E;have D:=LN (t:=g6) (Φ:=Err) 1 (λi=>.h6 a.2 (M a.2:Int) (i:Int) (a,())) (λi=>dM a.1 (W a.2 i (zk ze.sl))=(0:Int)) (M a.2) (by
  intro i x _;have s:(g6 (.h6 a.2 (M a.2:Int) (i:Int) (a,()))).val=if(dM a.1 (W a.2 i (zk ze.sl))!=0)=Z then Y (.inr (I (dM a.1 (W a.2 i (zk ze.sl))),[]))else Y (.inl (.h6 a.2 (M a.2:Int) ((i+1:Nat):Int) (a,()))):=by
   show(g6 (.h6 a.2 _ _ _)).val=_;unfold g6;simp only[zt,Q9,z6 x,zx x,zj,bB];rw[zz i um]
  by_cases h:dM a.1 (W a.2 i (zk ze.sl))=(0:Int)
  .refine .inl ⟨h,z8.of ?_⟩;rw[s,zh (by rw[h];simp)]
  .refine .inr ⟨h,_,aF.of (by rw[s,zf (by simpa using h)]),_,rfl,h⟩)
 rcases D with⟨hf,D⟩|⟨hf,r,D,e,y,n⟩
 case inr=>
  exact⟨e,d D S x e y,λh=>zp h n,λh=>zp ((cO (Q:=λr=>dM a.1 r=(0:Int))).2 h.fits) hf⟩
 have m:=(cO (Q:=λr=>dM a.1 r=(0:Int))).1 hf;have h0:∀r∈a.2,M r=M a.1.2.1:=λr A=>Bt (by simpa using m r A)
 have p:∀c,Sm c (M a.1.2.1)->∀r∈a.2,zT c (M r)=Z:=λc hc r A=>by
  rw[h0 r A];exact tB hc
 have⟨b,P,l⟩:=KZ (x:=a) (c:=a.1.q.1) (p _ z) S;have v:qx a a.1.q.1=Z:=by unfold qx;rw[P];rfl
 have w:wq a a.1.q.1=b:=by unfold wq;rw[P];rfl
 have h5:(g6 (.h6 a.2 (M a.2:Int) (M a.2:Int) (a,()))).val=if b=Z then Y (.inr (I 7,[]))else Y (.inl (.h15 a.1.r.1 (M a.1.r.1:Int) ((0:Nat):Int) (a,()))):=by
  show(g6 (.h6 a.2 _ _ _)).val=_;unfold g6;simp only[zt,Q9,aw,v,w,zj];rfl
 by_cases o:b=Z
 .refine⟨7,d (D.ends (aF.of (by rw[h5,zf o]))) S x 7 rfl,λh=>(by cases h),λh=>?_⟩;have:=l.2 h.key;rw[o]at this;cases this
 have U:F1 a.2 a.1.q.1:=l.1 (by simpa using o);have F:z8 g6 _ (.h6 a.2 (M a.2:Int) ((0:Nat):Int) (a,())) _:=D.trans (z8.of (by rw[h5,zh o]));have g:=LN (t:=g6) (Φ:=Err) 1 (λi=>.h15 a.1.r.1 (M a.1.r.1:Int) (i:Int) (a,())) (λi=>F1 a.2 (W a.1.r.1 i (zk zi))) (M a.1.r.1) (by
  intro i x _;have⟨b,P,l⟩:=KZ (x:=a) (c:=W a.1.r.1 i (zk zi)) (p _ (h7 _ (nD x))) S;have v:qx a (W a.1.r.1 i (zk zi))=Z:=by unfold qx;rw[P];rfl
  have w:wq a (W a.1.r.1 i (zk zi))=b:=by unfold wq;rw[P];rfl
  have s:(g6 (.h15 a.1.r.1 (M a.1.r.1:Int) (i:Int) (a,()))).val=if b=Z then Y (.inr (I 7,[]))else Y (.inl (.h15 a.1.r.1 (M a.1.r.1:Int) ((i+1:Nat):Int) (a,()))):=by
   show(g6 (.h15 _ _ _ _)).val=_;unfold g6;simp only[zt,Q9,z6 x,zx x,zj,bB,v,w];rw[zz i um]
  by_cases h:b=Z
  .refine .inr ⟨λhu=>?_,_,aF.of (by rw[s,zf h]),7,rfl,by decide⟩;have:=l.2 hu;rw[h]at this;cases this
  .exact .inl ⟨l.1 (by simpa using h),z8.of (by rw[s,zh h])⟩)
 rcases g with⟨hq,g⟩|⟨hq,r,g,e,y,n⟩
 case inr=>
  exact⟨e,d (F.ends g) S x e y,λh=>zp h n,λh=>zp ((cO (Q:=λu=>F1 a.2 u)).2 h.uniq) hq⟩
 have C:=(cO (Q:=λu=>F1 a.2 u)).1 hq;have h3:(g6 (.h15 a.1.r.1 (M a.1.r.1:Int) (M a.1.r.1:Int) (a,()))).val=Y (.inl (.h21 ((0+1:Nat):Int) (a,()))):=by
  show(g6 (.h15 _ _ _ _)).val=_;unfold g6;simp only[Q9,aw];rfl
 have G:=(F.trans g).trans (z8.of h3);have j:=LN (t:=g6) (Φ:=Err) 1 (λi=>.h21 ((i+1:Nat):Int) (a,())) (λi=>Aj (az a.1.q.1 (W a.2 i (zk ze.sl))) (az a.1.q.1 (W a.2 (i+1) (zk ze.sl)))) (M a.2-1) (by
  intro i x _;have h1:i<M a.2:=by omega
  have H:i+1<M a.2:=by omega
  have s:(g6 (.h21 ((i+1:Nat):Int) (a,()))).val=if L (GE.ge (α:=Int) (aV (az a.1.q.1 (W a.2 i (zk ze.sl))) (az a.1.q.1 (W a.2 (i+1) (zk ze.sl)))) 0)=Z then Y (.inr (I 15,[]))else Y (.inl (.h21 ((i+1+1:Nat):Int) (a,()))):=by
   show(g6 (.h21 _ _)).val=_;unfold g6;simp only[uG i um];simp only[Q9,z6 H,zx H,zx h1,bB,p _ z _ (nD h1),p _ z _ (nD H),zj];rw[zz (i+1) um]
  by_cases h:Aj (az a.1.q.1 (W a.2 i (zk ze.sl))) (az a.1.q.1 (W a.2 (i+1) (zk ze.sl)))
  .exact .inl ⟨h,z8.of (by rw[s,zh (λH=>Qx.1 H h)])⟩
  .exact .inr ⟨h,_,aF.of (by rw[s,zf (Qx.2 h)]),15,rfl,by decide⟩)
 rcases j with⟨A,j⟩|⟨A,r,j,e,y,n⟩
 case inr=>
  exact⟨e,d (G.ends j) S x e y,λh=>zp h n,λh=>zp h.rise A⟩
 have h4:(g6 (.h21 ((M a.2-1+1:Nat):Int) (a,()))).val=Y (.inr (I 0,[])):=by
  show(g6 (.h21 _ _)).val=_;unfold g6;simp only[Q9];rw[zh sg]
 exact⟨0,d (G.ends (j.ends (aF.of h4))) S x 0 rfl,λ_=>⟨E,hw,m,U,C,A⟩,λ_=>rfl⟩
end
end Cad
