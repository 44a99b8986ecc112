/- slices. -/
import Derived.Test.YtjdjldbhjmgmkaaGreatDoorM14
import Derived.Test.YtjdjldbhjmgmkaaGreatDoorM15
namespace Cad
open Go Go.Proofs Go.Sort
open List renaming length->Io,length->X
open IntKind renaming wrap->Γ,i64->Δ
open Tr renaming val->Q8
open Bool renaming false->Q4,true->Q3,true->O,false->S
open Option renaming some->Q1,some->M
open Decidable renaming decide->N,decide->Q0
open Int renaming toNat->Z
open List renaming getD->Y
open Tr (chk br re)
open AV (nils agg tup ptr kb str sl)
open Cad renaming ow->W,zi->Q,Sem->J,ze->K,ai->L
set_option maxHeartbeats 4000000
theorem wD:∀a b:zK,(Lib.compareBytes a b<0)↔Op.bytesLess a b=O
 |[],[]=>by simp[Lib.compareBytes,Op.bytesLess]
 |[],_::_=>by simp[Lib.compareBytes,Op.bytesLess]
 |_::_,[]=>by simp[Lib.compareBytes,Op.bytesLess]
 | a::r,b::s=>by
  unfold Lib.compareBytes Op.bytesLess;by_cases x:a<b
  .simp[x]
  .by_cases h:b<a
   .have:a≠b:=λe=>by rw[e]at h;exact zz h (UInt8.lt_irrefl b)
    simp[x,h,this]
   .have:a=b:=UInt8.le_antisymm (UInt8.not_lt.1 h) (UInt8.not_lt.1 x);subst this;simp[wD r s]
theorem H4:∀s:zK,Op.bytesLess s s=S
 |[]=>rfl
 |a::r=>by simp[Op.bytesLess,H4 r]
theorem DP:∀{a b c:zK},Op.bytesLess a b=O->Op.bytesLess b c=O->Op.bytesLess a c=O
 |_,[],_,h,_=>by cases‹zK›<;>simp[Op.bytesLess]at h
 |_,_::_,[],_,h=>by simp[Op.bytesLess]at h
 |[],_::_,_::_,_,_=>rfl
 | a::x,b::y,c::z,h,g=>by
  simp only[Op.bytesLess,ou,aP,ba,bW]at h g|-;rcases h with h|⟨rfl,h⟩
  .rcases g with g|⟨rfl,g⟩
   .exact .inl (UInt8.lt_trans h g)
   .exact .inl h
  .rcases g with g|⟨rfl,g⟩
   .exact .inl g
   .exact .inr ⟨rfl,DP h g⟩
theorem DO:∀{a b:zK},Op.bytesLess a b=S->a≠b->Op.bytesLess b a=O
 |[],[],_,h=>zz rfl h
 |[],_::_,h,_=>by simp[Op.bytesLess]at h
 |_::_,[],_,_=>rfl
 | a::x,b::y,h,hne=>by
  simp only[Op.bytesLess,Bool.or_eq_false_iff,ef,Bool.and_eq_false_iff]at h;simp only[Op.bytesLess,ou,aP,ba,bW];by_cases e:b=a
  .subst e;refine .inr ⟨rfl,DO (h.2.resolve_left sw) λe=>hne (by rw[e])⟩
  .exact .inl (Nat.lt_of_le_of_ne (UInt8.not_lt.1 h.1) λc=>e (UInt8.toNat_inj.1 c))
def gL:zS->zS
 |[a,b]=>if Op.bytesLess b.1.1 a.1.1=O then[b,a]else[a,b]
 |l=>l
theorem tX(a b:ae):gL [a,b]=if Op.bytesLess b.1.1 a.1.1=O then[b,a]else[a,b]:=rfl
def two(l:zS):Bool:=match l with
 |[_]=>O
 |[a,b]=>!((a.1.1:zK)==b.1.1)
 |_=>S
theorem zbP{l g:zS}(h:two l=O)(c:List.Perm g l)(d:g.Pairwise λx y:ae=>¬Lib.compareBytes y.1.1 x.1.1<0):g=gL l:=by
 match l,h with
 |[a],_=>exact List.perm_singleton.1 c
 | [a,b],h=>
  have k:=c.length_eq;have i:(a.1.1:zK)≠b.1.1:=by simpa[two]using h
  match g,k,c,d with
  |[x,y],_,c,d=>
  have d:¬Lib.compareBytes y.1.1 x.1.1<0:=by simpa using d
  rw[wD]at d;have m:x=a/\y=b\/x=b/\y=a:=by
   have e:x∈[a,b]:=c.mem_iff.1 sw;rcases bX.1 e with rfl|e
   .have:=(List.perm_cons x).1 c;exact .inl ⟨rfl,by simpa using this⟩
   .have j:x=b:=by simpa using e
    subst j;have:=(List.perm_cons x).1 (c.trans (List.Perm.swap x a []));exact .inr ⟨rfl,by simpa using this⟩
  rw[tX];rcases m with⟨rfl,rfl⟩|⟨rfl,rfl⟩
  .rw[zh d]
  .rw[zf (DO (by simpa using d) i)]
def zjH:ah:=λa h _=>match a with
 | [.vec id,.clo (.func 82) [] [.ptr nb 0]]=>match h id,h nb with
  |.vec zvZ l,.box [.clo (.func 78) [] []]=>.chk (two l) (.ok {val:=.tup [],wr:=[(id,.vec zl (gL l))]})
  |_,_=>.err
 |_=>.err
theorem zxD:Go.Proofs.Enters Tryz.prog 82:=by
  cases h:Tryz.f82.body with
  | none => have:Tryz.f82.body.isNone=false:=by kernel_rfl
            rw[h]at this;cases this
  |some c=>exact Go.Proofs.enters_of (fn:=Tryz.f82) kw kw h
theorem zlD:FK 138 zjH where
 fn:=⟨Tryz.f138,kw,kw,kw⟩
 calls:=λw U ρ hp n j0 x5 f fp b hr x2 j7 t h8 j4 j8=>by
  unfold zjH at b;split at b
  .rename_i id nb;split at b
   .rename_i l c i;simp only[Tr.val_chk,Tr.val_ok,bG]at b;obtain⟨H,rfl⟩:=b;have hl:=hr.len
    match x5,hl,hr with
    |[va,vc],_,hr=>
    have r0:=hr.rv 0 _ va rfl rfl;have r1:=hr.rv 1 _ vc rfl rfl;cases r0 with
    |vec _ _ i6 _=>
    cases r1 with
    |clo _ _ _ vf i9 b hc j9 A=>
    match vf,b,i9,hc,A with
    |[],_,[pv],_,A=>
    have r2:=A 0 _ pv rfl rfl;cases r2 with
    |ptr _ _ j h0=>
    have D:id∈fp:=h8 id (by simp[AV.idsL,AV.ids]);have x3:nb∈fp:=h8 nb (by simp[AV.idsL,AV.ids]);have ob:=t.ob nb x3;have x4:=t.ob id D;rw[i]at ob;rw[c]at x4;obtain⟨b',a,k,e1,i0,x9,x1,j3⟩:=ob;rw[h0]at e1;cases e1;have o:=x1.len;have h7:=x1.rv 0 _ (k.toList[0]'(by rw[<-o];simp)) rfl (af _);have s:w.cell? ⟨j,0,none⟩=M (.func (.func 78) #[] #[]):=by
     generalize hx:k.toList[0]'(by rw[<-o];simp)=x at h7;cases h7 with
     |clo _ _ _ vf vc b hc _ _=>
     match vf,b,vc,hc with
     |[],_,[],_=>
     rw[World.cell?,x9];have:k[0]?=M (Value.func (.func 78) #[] #[]):=by
      rw[<-ra,af (by rw[<-o];simp),hx]
     simpa using this
    have h5:=x2 j i0;have h9:l≠[]:=λe=>by rw[e]at H;cases H
    have j1:X l<=2:=by
     match l,H with
     |[_],_=>simp
     |[_,_],_=>simp
    refine⟨(zcd (n:=n) (e:=zl) (G:=λ_=>True) (λx y:ae=>Lib.compareBytes x.1.1 y.1.1) (by decide) x2 c x4 i6 h9 (λ_ _=>trivial) ?_).mono ?_,by simp;exact D⟩
    .intro j2 B x8 d j6 hH P x0;have i1:j≠B:=λe=>by
      have:=t.inj id D nb x3 B (by rw[c];exact x0) (by rw[i];exact⟨rfl,_,h0,by simp[cd,e]⟩);subst this;rw[c]at i;cases i
     refine AnyQ.slices_SortFunc Tryz.sortRel 12 Tryz.isAgg38 Tryz.sizeOf38 (λp:Pl w U ρ zl (λ_=>True)=>p.1.1) (λp=>p.2.1) (λp=>p.2.2.1) (λp q=>Lib.compareBytes p.1.2.1.1 q.1.2.1.1) ?_ 82 #[.pointer (M ⟨j,0,none⟩)] B 0 x8 d w zxD ?_ hH P W
     .refine⟨λx=>?_,λx y z h g=>?_,λx y z h g=>?_⟩
      .have:=H4 x.1.2.1.1;simp only[ltOf,ef,wD,this];simp
      .simp only[ltOf,ba,wD]at*;exact DP h g
      .simp only[ltOf,ef,wD]at*;intro C;by_cases e:(x.1.2.1.1:zK)=y.1.2.1.1
       .rw[e]at C;exact g C
       .exact g (DP (DO (by simpa using h) e) C)
     .intro m os dk j5 x y;have nm:∀p:Pl w U ρ zl (λ_=>True),∃v1 v2 v3 v4 v5 v6 v7 v8 v9 E F,p.1.1=[.string ⟨(p.1.2.1.1:zK).toArray⟩,v1,v2,v3,v4,v5,v6,v7,v8,v9,E,F]:=by
       rintro⟨⟨cs,q⟩,h1,H,h3,h4⟩;obtain⟨v,i4,i5⟩:=h3 0 (.str q.1.1) rfl;have h1:X cs=12:=h1
       match cs,h1 with
       |[a0,a1,a2,a3,a4,a5,a6,a7,a8,a9,x6,x7],_=>
       have:a0=v:=by simpa using i4
       subst this;cases i5;exact⟨a1,a2,a3,a4,a5,a6,a7,a8,a9,x6,x7,rfl⟩
      obtain⟨v1,v2,v3,v4,v5,v6,v7,v8,v9,E,F,ex⟩:=nm x;obtain⟨u1,u2,u3,u4,u5,u6,u7,u8,u9,i7,i8,ey⟩:=nm y;have u:(sortWorldK (λp:Pl w U ρ zl (λ_=>True)=>p.1.1) 12 w B 0 m dk os).heap[j]?=w.heap[j]?:=iR dk h5 i1
      have:=Tryz.cmp56 ⟨(x.1.2.1.1:zK).toArray⟩ ⟨(y.1.2.1.1:zK).toArray⟩ v1 v2 v3 v4 v5 v6 v7 v8 v9 E F u1 u2 u3 u4 u5 u6 u7 u8 u9 i7 i8 j (sortWorldK (λp:Pl w U ρ zl (λ_=>True)=>p.1.1) 12 w B 0 m dk os)
       (by rw[World.cell?_of_block u];exact s) (ia h5 (by unfold sortWorldK grow putRowK;simp[Sort.ahead]))
      show Calls Tryz.prog 82 (#[Value.agg x.1.1.toArray,Value.agg y.1.1.toArray]++#[Value.pointer (M ⟨j,0,none⟩)]) _ _;rw[ex,ey];exact this
    .rintro e' w' ⟨l',i2,i3,v',U',ρ',rfl,h6⟩;rw[zbP H i2 i3]at h6;exact⟨v',U',ρ',rfl,h6⟩
   .simp at b
  .simp at b
open Go
variable {b:Nat}
theorem Nj{n b1 b2 m:Nat}(h:b<128):Lib.decodeN n b b1 b2 m=(b,1):=by unfold Lib.decodeN;rw[zf h]
theorem Kf{n b1 b2 b3:Nat}(h:¬b<128):128<=(Lib.decodeN n b b1 b2 b3).1:=by
 unfold Lib.decodeN;rw[zh h];repeat' split
 all_goals(simp only;omega)
theorem OA{p:Nat->Bool}(j:∀c:Nat,p c=O↔(c<32\/c>126))(s:List UInt8):∀(f x:Nat),X s<=x+f->(Lib.idxFuncFrom p O ⟨s.toArray⟩ f x<0↔∀(i:Nat)(h:i<X s),x<=i->32<=s[i].toNat/\s[i].toNat<=126)
 | 0,x,h=>by
  simp only[Lib.idxFuncFrom];exact⟨λ_ i b d=>zz b (by omega),λ_=>by decide⟩
 | f + 1,x,h=>by
  have k:(⟨s.toArray⟩:ByteArray).size=X s:=by simp[ByteArray.size]
  rw[Lib.idxFuncFrom,k];by_cases a:x<X s
  .have m:((⟨s.toArray⟩:ByteArray).get! x)=s[x]:=by
    simp[ByteArray.get!,a]
   rw[zf a,Lib.decode_at,m];by_cases l:s[x].toNat<128
   .rw[Nj l];simp only;by_cases g:p s[x].toNat=O
    .rw[zf g];have:=(j _).1 g;exact⟨λh=>zz h (by omega),λh=>by have:=h x a (zQ _);omega⟩
    .rw[zh g,OA j s f (x+1) (by omega)];have q:¬(s[x].toNat<32\/s[x].toNat>126):=λh=>g ((j _).2 h)
     refine⟨λh i b d=>?_,λh i b d=>h i b (by omega)⟩;by_cases e:i=x
     .subst e;omega
     .exact h i b (by omega)
   .have o:=Kf (n:=(⟨s.toArray⟩:ByteArray).size-x) (b1:=((⟨s.toArray⟩:ByteArray).get! (x+1)).toNat) (b2:=((⟨s.toArray⟩:ByteArray).get! (x+2)).toNat) (b3:=((⟨s.toArray⟩:ByteArray).get! (x+3)).toNat) l;rw[zf ((j _).2 (by omega))];exact⟨λh=>zz h (by omega),λh=>by have:=h x a (zQ _);omega⟩
  .rw[zh a];exact⟨λ_ i b d=>zz b (by omega),λ_=>by decide⟩
theorem zan{p:Nat->Bool}(d:∀c:Nat,p c=O↔(c<32\/c>126))(s:List UInt8):Lib.idxFunc p O ⟨s.toArray⟩<0↔∀b∈s,32<=b.toNat/\b.toNat<=126:=by
 have e:(⟨s.toArray⟩:ByteArray).size=X s:=by simp[ByteArray.size]
 unfold Lib.idxFunc;rw[OA d s _ 0 (by omega)];constructor
 .intro h b a;obtain⟨i,x,rfl⟩:=fK a;exact h i x (aK _)
 .intro h i x _;exact h _ (bp x)
open Go Go.Proofs
variable {g:Bool}
theorem gi{h:Bool}(x:g=O)(a:h=O):(ite (g=O) h S)=O:=by rw[zf x];exact a
variable {i:Nat}
theorem fi(h:i<=b):N (i<=b)=O:=zB h
variable {v:zp}
theorem JM(h:bf v=O)(b:(v.1==2)=O):X v.2.2<=40:=by
 have e:v.1=2:=by simpa using b
 unfold bf at h;rw[e]at h;simp only[show((2:Int)==0)=S from rfl,show((2:Int)==1)=S from rfl,show((2:Int)==2)=O from rfl,zC,zm,zj]at h;cases x:v.2.1==0
 .rw[x]at h;simp at h
 .rw[x]at h;cases a:N ((X v.2.2:Int)<=40)
  .rw[a]at h;simp at h
  .have:=lm a;omega
theorem PI(v:zp):Bb v=O:=by
 unfold Bb;split
 .rfl
 .rename_i h;have h:bf v=O:=by simpa using h
  split
  .rfl
  .split
   .rename_i x;have c:=JM h x;have a:=mF v.2.2 [39] pq;have b:(Lib.replaceAll v.2.2 [39] pq).length<=200:=by
     simp only[fA,qw]at a;omega
    refine gi ?_ (gi (fi ?_) (gi (fi ?_) rfl))
    .unfold xR;simp;omega
    .simp;omega
    .simp;omega
   .rfl
theorem Bc(v:zp):(jg v).length<=300:=by
 unfold jg;split
 .simp
 .rename_i h;have h:bf v=O:=by simpa using h
  split
  .have:=I2 v.2.1;omega
  .split
   next x=>have b:=JM h x;have a:=mF v.2.2 [39] pq;simp only[fA,qw]at a;simp;omega
   .split
    .split<;>simp
    .simp
variable {x:zK}
theorem JR(h:eU x=O):X x<=16:=by
 have h:sB x=O:=h;unfold sB at h;by_cases b:(X x:Int)<=16
 .omega
 .exfalso;rw[aC b]at h;cases a:N ((X x:Int)>=1)<;>rw[a]at h<;>simp at h
variable {c:Int}
theorem zae{g:zg->Int->Int->Bool×Int}{e:zg}{n:Int}(h:(Ci g e c n).1=O)(b:e.op=fh):X e.s<=16:=by
 unfold Ci at h;split at h
 .cases h
 .split at h
  next x=>rw[b]at x;simp at x
  .split at h
   .cases x:bD e.v
    .rw[x]at h;simp at h
    .rw[x]at h;cases a:eU e.s
     .rw[a]at h;simp at h
     .exact JR a
   next x=>rw[b]at x;simp at x
theorem Mt(s:zK):(Lib.toUpperA s).length=X s:=by simp[Lib.toUpperA]
theorem DZ:∀(a:Nat)(e:zg)(d n:Int),a<=16->(jk a e d n).1=O->iJ a e=O/\(bn a e).length<=400*2^a-100
 |0,_,_,_,_,h=>by cases h
 | a + 1,e,d,n,hN,h=>by
  rw[jk]at h;obtain⟨t,q⟩:=AF h;have hp:2^a<=2^15:=HS W W;have B:1<=2^a:=Nat.one_le_two_pow;have C:2^(a+1)=2*2^a:=by rw[pm];omega
  have g:∀x∈e.l,iJ a x=O/\(bn a x).length<=400*2^a-100:=by
   intro x w;rcases q with q|q
   .exfalso;have:dT e.op=0:=by
     rcases q with q|q<;>rw[q]<;>decide
    rw[this]at t;have:e.l=[]:=Dz W;rw[this]at w;simp at w
   .obtain⟨m,z⟩:=xg e.l _ q x w;exact DZ a x _ _ W z
  have o:∀i,i<e.l.length->e.l.getD i (Q Sh.expr)∈e.l:=by
   intro i y;rw[bx,af y];exact bp y
  rw[iJ,bn];unfold Cz vu;rcases nr e.op with⟨k,c|c⟩|⟨k,c|c⟩|⟨k,c⟩|k
  .rw[c];simp only[beq_self_eq_true,zj];refine⟨gi (PI _) rfl,?_⟩;have:=Bc e.v;omega
  .have hs:=zae h c;rw[c];refine⟨rfl,?_⟩;show X e.s<=_;omega
  .rw[k]at t;have j:e.l.length=1:=by omega
   obtain⟨u,p⟩:=g _ (o 0 W);rw[c];refine⟨gi ?_ (gi u (gi (fi ?_) (gi (fi ?_) rfl))),?_⟩
   .simp[zL,j]
   .simp at p|-;omega
   .simp at p|-;omega
   .show(wv++bn a (e.l.getD 0 (Q Sh.expr))++[41]).length<=_;simp at p|-;omega
  .rw[k]at t;have j:e.l.length=1:=by omega
   obtain⟨u,p⟩:=g _ (o 0 W);rw[c];refine⟨gi ?_ (gi u (gi (fi ?_) (gi (fi ?_) rfl))),?_⟩
   .simp[zL,j]
   .simp at p|-;omega
   .simp at p|-;omega
   .show([40]++bn a (e.l.getD 0 (Q Sh.expr))++DK).length<=_;simp at p|-;omega
  .rw[k]at t;have j:e.l.length=2:=by omega
   obtain⟨u,p⟩:=g _ (o 0 W);obtain⟨F,G⟩:=g _ (o 1 W);have D:(N (e.op.length<=140737488355328)&&e.op.all λb=>N (b.toNat<128))=O:=by
    rcases c with c|c|c|c|c|c<;>rw[c]<;>decide
   have A:e.op.length<=3:=by
    rcases c with c|c|c|c|c|c<;>rw[c]<;>simp
   have E:=Mt e.op;have H:(e.op==pt)=S:=by rcases c with c|c|c|c|c|c<;>rw[c]<;>rfl
   have P:(e.op==fh)=S:=by rcases c with c|c|c|c|c|c<;>rw[c]<;>rfl
   have U:(e.op==ox)=S:=by rcases c with c|c|c|c|c|c<;>rw[c]<;>rfl
   have n4:(e.op==qy)=S:=by rcases c with c|c|c|c|c|c<;>rw[c]<;>rfl
   simp only[H,P,U,n4,zC,zm];refine⟨gi ?_ (gi u (gi (fi ?_) (gi (fi ?_) (gi D (gi (fi ?_) (gi (fi ?_) (gi ?_ (gi F (gi (fi ?_) (gi (fi ?_) rfl)))))))))),?_⟩
   .simp[zL,j]
   all_goals first
    |(simp[zL,j];done)
    |(simp at p G|-;omega)
  .rw[k]at t;omega
theorem KA(e:zg):sP e=O:=by
 unfold sP;split
 .rfl
 next h=>exact gi (DZ 16 e 1 0 W (by simpa[dU]using h)).1 rfl
theorem QV(e:zg):(pE e).1.length<=30000000:=by
 unfold pE;split
 .simp
 next h=>have:=(DZ 16 e 1 0 W (by simpa[dU]using h)).2;show(bn 16 e).length<=_;omega
theorem CG(p:Int->Bool):∀s:zK,dQ p s<=X s
 |[]=>by simp[dQ]
 | c::r=>by
  have:=CG p r;rw[dQ];split<;>simp<;>omega
theorem tR(f m:Int->Bool)(s:zK):bH f m s<=X s:=by
 cases s with
 |nil=>simp[bH]
 | cons c r=>
  have:=CG m r;rw[bH];split<;>simp<;>omega
theorem zcf(i:Nat)(h:i<=4000000000):Γ Δ (i:Int)=(i:Int):=by
 have:=zu (i-1) um;cases i with
 |zero=>rfl
 |succ i=>simpa using this
theorem sD(i:Nat)(h:i<=4000000000):Γ Δ ((i:Int)+1)=((i+1:Nat):Int):=zu i um
theorem qf:∀(n:Nat)(s:zK)(i:Nat)(a:Int)(b:zK),1<=i->i<=X s->X s+2<=n+i->X s<=1000000000->jZ n s (i:Int) a b=O
 |0,s,i,a,b,e,g,j,c=>by omega
 | n + 1,s,i,a,b,e,g,j,c=>by
  rw[jZ];split
  .rename_i h;have h:i<X s:=by have:=lm h;omega
   refine gi (zx h) ?_;rw[sD i W];split
   .exact qf n s (i+1) a b W W W c
   .refine gi ?_ ?_
    .cases x:N (((i+1:Nat):Int)<(X s:Int))
     .rfl
     .exact zx (by have:=lm x;omega)
    .split
     .rename_i d;have k:i+1<X s:=by
       cases x:N (((i+1:Nat):Int)<(X s:Int))
       .rw[x]at d;simp at d
       .have:=lm x;omega
      rw[sD (i+1) W];exact qf n s (i+1+1) a b W W W c
     .refine gi ?_ (gi ?_ rfl)
      .simp;omega
      .unfold xR;simp;omega
  .rfl
theorem vU:∀(n:Nat)(s:zK)(i:Nat)(a:Int)(b:zK),1<=i->i<=X s->X s+2<=n+i->X s<=1000000000->
  (fO n s (i:Int) a b=((0,[]),0))\/∃k:Nat,(fO n s (i:Int) a b).2=(k:Int)/\1<=k/\k<=X s
 |0,s,i,a,b,e,g,j,x=>by omega
 | n + 1,s,i,a,b,e,g,j,x=>by
  rw[fO];split
  .rename_i h;have h:i<X s:=by have:=lm h;omega
   rw[sD i W];split
   .exact vU n s (i+1) a b W W W x
   .split
    .rename_i d;have l:i+1<X s:=by
      cases c:N (((i+1:Nat):Int)<(X s:Int))
      .rw[c]at d;simp at d
      .have:=lm c;omega
     rw[sD (i+1) W];exact vU n s (i+1+1) a b W W W x
    .exact .inr ⟨i+1,rfl,W,W⟩
  .exact .inl rfl
theorem Mu(t:dA):tY t=O:=by
 unfold tY;split
 .rfl
 .split
  .refine gi ?_ rfl;cases h:((X t.2:Int)==1)
   .rfl
   .have:(X t.2:Int)=1:=by simpa using h
    simp only[aN,bW];omega
  .simp
theorem GU(s:zK)(c:s≠[])(e:X s<=1000000000):lW s=O:=by
 have x:1<=X s:=by cases s with|nil=>exact zz rfl c|cons _ _=>simp
 have j:=tR bt cv s;have k:=tR aD aD s;have i:qe s=O:=qf (X s+1) s 1 _ _ W x W e;have g:zL 0 (X s)=O:=zx x;have d:(N ((0:Int)<=0)&&N (0<=(bH bt cv s:Int))&&N ((bH bt cv s:Int)<=(X s:Int)))=O:=by simp;omega
 have a:(N ((0:Int)<=0)&&N (0<=(bH aD aD s:Int))&&N ((bH aD aD s:Int)<=(X s:Int)))=O:=by simp;omega
 have b:(N ((0:Int)<=0)&&N ((0:Int)<=1)&&N (1<=(X s:Int)))=O:=by simp;omega
 unfold lW;simp only[i,g,zj,zC,zm];repeat' split
 all_goals first
  |rfl
  |(rename_i h;exfalso;apply h;simp;omega)
theorem yu(s:zK)(g:s≠[])(i:X s<=1000000000)(x:dI (ch s).1=O):∃k:Nat,(ch s).2=(k:Int)/\1<=k/\k<=X s:=by
 have m:1<=X s:=by cases s with|nil=>exact zz rfl g|cons _ _=>simp
 have n:=tR bt cv s;have o:=tR aD aD s;have d:=vU (X s+1) s 1 0 [] W m W i;unfold ch at x|-;simp only[zj,zC,zm]at x|-;split
 next h=>have:=lm h;exact⟨_,rfl,W,W⟩
 .rename_i h;rw[zh h]at x;split
  next a=>have:=lm a;exact⟨_,rfl,W,W⟩
  .rename_i a;rw[zh a]at x;split
   .rename_i j;rw[zf j]at x;rcases d with d|⟨k,l,b,c⟩
    .exfalso;have e:iU s=((0,[]),0):=d;rw[e]at x;revert x;decide
    .exact⟨k,l,b,c⟩
   .exact⟨1,rfl,W,W⟩
theorem yJ:∀(n:Nat)(s:zK)(i:Nat)(l:dJ),i<=Io s->Io s+1<=n+i->Io s<=1000000000->Io l<=400->vp n s (i:Int) l=true
 |0,s,i,l,o,p,d,g=>by omega
 | n + 1,s,i,l,o,p,d,g=>by
  rw[vp];split
  .rename_i x;have x:i<X s:=by have:=lm x;omega
   have m:List.take ((X s:Int).toNat-(i:Int).toNat) (List.drop (i:Int).toNat s)=s.drop i:=by
    simp only[aJ];exact HQ sw
   rw[m];refine gi ?_ ?_
   .rw[zx x];cases(((s.getD (i:Int).toNat 0).toNat:Int)==32)<;>rfl
   .split
    .rw[sD i W];exact yJ n s (i+1) l W W d g
    .have b:s.drop i≠[]:=by
      intro h;have:=congrArg X h;simp at this;omega
     have a:(s.drop i).length<=1000000000:=by simp;omega
     refine gi ?_ (gi (GU _ b a) (gi (Mu _) ?_))
     .simp;omega
     .split
      .rfl
      .rename_i c;have j:dI (ch (s.drop i)).1=O:=by
        cases y:dI (ch (s.drop i)).1
        .rw[y]at c;simp at c
        .rfl
       have w:X l≠400:=by
        intro q;rw[j,q]at c;simp at c
       have⟨k,t,u,e⟩:=yu _ b a j;have v:k<=X s-i:=by simpa using e
       refine gi (fi ?_) ?_
       .simp;omega
       .rw[t,show((i:Int)+(k:Int))=((i+k:Nat):Int) by omega,zcf (i+k) W];exact yJ n s (i+k) _ W W d sg
  .rfl
theorem Yl(s:zK)(h:X s<=1000000000):Yk s=O:=yJ (X s+1) s 0 [] W W h sw
structure nI (s:zP):Prop where
 op:X s.1<=1000
 table:X s.2.1<=1000
 other:X s.q.1<=1000
 names:X s.r.1<=20/\∀x∈s.r.1,X x<=1000
 cols:X s.t.1<=20/\∀x∈s.t.1,X x.1<=1000
 key:X s.u.1<=1000
 uniques:X s.v.1<=20/\∀x∈s.v.1,X x<=1000
 refs:X s.w.1<=20/\∀x∈s.w.1,X x.1<=1000/\X x.2<=1000
 row:X s.y.1<=20
 sets:X s.z.1<=20/\∀x∈s.z.1,X x.1<=1000
 role:X s.p<=1000
theorem w9(s:zK)(B:Nat):∀l:List zK,(∀x∈l,X x<=B)->(Lib.join l s).length<=X l*(B+X s)
 |[],_=>by simp[Lib.join,List.intercalate]
 | [x],h=>by
  rw[Lib.join_one];have:=h x sw;simp;omega
 | x::y::r,h=>by
  have i:=w9 s B (y::r) (λz a=>h z (mX _ a));have b:=h x sw;have e:Lib.join (x::y::r) s=x++s++Lib.join (y::r) s:=by simp[Lib.join,List.intercalate,List.intersperse]
  rw[e];simp only[g9,fA]at i|-;rw[jN];omega
theorem rJ{α:Type}(p:α->Bool):∀(l:List α)(i:Nat),(!Q0 (aj p l i>=0))=O->∀x∈l,p x=S
 |[],_,_,x,a=>by simp at a
 | y::r,i,h,x,a=>by
  rw[aj]at h;cases b:p y
  .rw[b]at h;rcases bX.1 a with rfl|a
   .exact b
   .exact rJ p r (i+1) (by simpa using h) x a
  .exfalso;rw[b]at h;simp at h
   try omega
theorem HC(e:zg):sE e=O:=gi (KA e) rfl
theorem B6(e:zg):(jG e).length<=30000000:=QV e
theorem pu(s:zK)(h:X s<=10)(e:zg):wA s e=O:=by
 unfold wA;have:=B6 e;split
 .rfl
 .refine gi (fi ?_) (gi (HC e) (gi (fi ?_) (gi (fi ?_) rfl)))
  all_goals(simp;omega)
theorem vo(s:zK)(h:X s<=10)(e:zg):(me s e).length<=30000030:=by
 unfold me;have:=B6 e;split
 .simp
 .simp;omega
theorem sm:∀(l:List (J Sh.str))(i:Int)(a:List zK),ez l i a=Lib.join (a++l.map nz) fM
 |[],i,a=>by simp[ez]
 |x::r,i,a=>by rw[ez,sm r];simp
theorem Ma(B:Nat)(l:List (J Sh.str))(h:∀x∈l,(nz x).length<=B):(iF l).length<=X l*(B+3):=by
 unfold iF;rw[sm];have:=w9 fM B ([]++l.map nz) (λy a=>by
  simp only[HV,aI]at a;obtain⟨x,b,rfl⟩:=a;exact h x b)
 simpa using this
theorem yh(B:Nat)(g:B<=100000000):∀(l:List (J Sh.str))(i:Int)(a:List zK),(∀x∈l,(nz x).length<=B)->(∀x∈a,X x<=B)->X a+X l<=40->eR l i a=O
 | [],i,a,_,d,c=>by
  rw[eR];refine gi ?_ rfl;have e:=w9 fM B a d;have k:X a*(B+3)<=40*100000003:=HY (by simpa using c) W
  replace e:(Lib.join a fM).length<=X a*(B+3):=e
  simp only[aP,ba];simp at c;exact⟨W,W⟩
 | x::r,i,a,h,d,c=>by
  rw[eR];have j:=h x sw;simp at c;refine gi (fi ?_) ?_
  .simp;omega
  .refine yh B g r (i+1) _ (λy b=>h y (mX _ b)) (λy b=>?_) sg;rcases cZ.1 b with b|b
   .exact d y b
   .simp at b;subst b;exact j
variable {s:zP}
theorem fw{b:Bool}(h:(wZ s).val=if g=O then M (.inr (.bool b,[]))else none):xY s=g/\iu s=(g&&b):=by unfold xY iu Dh ar bT;rw[h];cases g<;>cases b<;>exact⟨rfl,rfl⟩
theorem zft(o:x=dD):(x==Qo)=S/\(x==bl1)=S/\(x==bl3)=S/\(x==M9)=S/\(x==bl0)=S/\(x==Kb)=S/\(x==bl9)=S/\(x==Qk)=S/\(x==P9)=S/\(x==Qj)=S/\(x==dD)=O:=by rw[o];exact⟨rfl,rfl,rfl,rfl,rfl,rfl,rfl,rfl,rfl,rfl,rfl⟩
theorem zfu(o:x=gO):(x==Qo)=S/\(x==bl1)=S/\(x==bl3)=S/\(x==M9)=S/\(x==bl0)=S/\(x==Kb)=S/\(x==bl9)=S/\(x==Qk)=S/\(x==P9)=S/\(x==Qj)=S/\(x==dD)=S/\(x==gO)=O:=by rw[o];exact⟨rfl,rfl,rfl,rfl,rfl,rfl,rfl,rfl,rfl,rfl,rfl,rfl⟩
theorem zaL(o:x=pp):(x==Qo)=S/\(x==bl1)=S/\(x==bl3)=S/\(x==M9)=S/\(x==bl0)=S/\(x==Kb)=S/\(x==bl9)=S/\(x==Qk)=S/\(x==P9)=S/\(x==Qj)=S/\(x==dD)=S/\(x==gO)=S/\(x==pp)=O:=by rw[o];exact⟨rfl,rfl,rfl,rfl,rfl,rfl,rfl,rfl,rfl,rfl,rfl,rfl,rfl⟩
abbrev kF(o:zK):Prop:=o=dD\/o=gO\/o=pp
theorem g6(h:X s.2.1<=1000)(x:X s.2.2.1<=1000)(a:X s.2.2.2.2.2.1<=1000)(b:X s.2.2.2.2.2.2.2.2.2.2.2.2<=1000):gu s=O:=by
 unfold gu;refine gi (fi ?_) (gi (fi ?_) (gi (fi ?_) rfl))
 all_goals first|omega|(simp;omega)
theorem DJ{c:Bool}(h:g=O):(cond c g O)=O:=by cases c<;>simp[h]
def tC(s:zP):zK:=X7++Vq++[32]++s.2.1++md++s.q.1++Ca++iF s.r.1++jq++me [32] s.x.1
def tJ(s:zP):zK:=X7++Vs++[32]++s.2.1++md++s.q.1++fM++s.p++Cb++s.u.1++me [32] s.x.1
def tG(s:zP):zK:=X7++Vr++[32]++s.2.1++md++s.q.1++Vo++s.r.1.getD 0 []++Vp++s.r.1.getD 1 []++me [32] s.x.1
theorem zjy(h:nI s)(o:s.1=dD):(BJ s).val=M (.inr (.str (tC s),[]))/\(tC s).length<=1000000000:=by
 have⟨j,k,l,m,n,q,t,u,v,w,p⟩:=zft o;have e:Lib.toUpperA s.1=Vq:=by rw[o];rfl
 have g:(N (X s.1<=140737488355328)&&List.all s.1 λb=>N (b.toNat<128))=O:=by rw[o];decide
 have B:=h.table;have z:=h.other;have A:=h.role;have y:=h.key;have c:=pu [32] sw s.x.1;have i:=vo [32] sw s.x.1;have d:pe s.r.1=O:=yh 1000 W s.r.1 0 [] h.names.2 sw (by have:=h.names.1;simp;omega);have a:=Ma 1000 s.r.1 h.names.2;have a:(iF s.r.1).length<=20*1003:=be a (HY h.names.1 W);refine⟨?_,by unfold tC;simp only[g9,fA,qw];omega⟩;unfold tC;simp only[BJ,Q8,zo,g,e,j,k,l,m,n,q,t,u,v,w,p,d,c,zj,zC,zm]
 iterate 9 rw[zf (zB (by simp<;>omega))]
theorem zjA(h:nI s)(o:s.1=gO):(BJ s).val=M (.inr (.str (tJ s),[]))/\(tJ s).length<=1000000000:=by
 have⟨i,j,k,l,m,n,q,t,u,v,p,c⟩:=zfu o;have d:Lib.toUpperA s.1=Vs:=by rw[o];rfl
 have e:(N (X s.1<=140737488355328)&&List.all s.1 λb=>N (b.toNat<128))=O:=by rw[o];decide
 have A:=h.table;have y:=h.other;have z:=h.role;have w:=h.key;have a:=pu [32] sw s.x.1;have g:=vo [32] sw s.x.1;refine⟨?_,by unfold tJ;simp only[g9,fA,qw];omega⟩;unfold tJ;simp only[BJ,Q8,zo,e,d,i,j,k,l,m,n,q,t,u,v,p,c,a,zj,zC,zm]
 iterate 10 rw[zf (zB (by simp<;>omega))]
theorem zjz(h:nI s)(o:s.1=pp)(d:X s.r.1=2):(BJ s).val=M (.inr (.str (tG s),[]))/\(tG s).length<=1000000000:=by
 have⟨q,t,u,v,w,y,z,A,B,C,p,c,_⟩:=zaL o;have i:Lib.toUpperA s.1=Vr:=by rw[o];rfl
 have j:(N (X s.1<=140737488355328)&&List.all s.1 λb=>N (b.toNat<128))=O:=by rw[o];decide
 have P:=h.table;have G:=h.other;have H:=h.role;have F:=h.key;have a:=pu [32] sw s.x.1;have k:=vo [32] sw s.x.1;have n0:(s.r.1.getD 0 []).length<=1000:=by
  rw[bx,af W,bI];exact h.names.2 _ (bp _)
 have n:(s.r.1.getD 1 []).length<=1000:=by
  rw[bx,af W,bI];exact h.names.2 _ (bp _)
 have l:zL 0 (X s.r.1)=O:=by rw[d];rfl
 have m:zL 1 (X s.r.1)=O:=by rw[d];rfl
 have g:Y s.r.1 (Z 0) (Q Sh.str)=s.r.1.getD 0 []:=rfl;have e:Y s.r.1 (Z 1) (Q Sh.str)=s.r.1.getD 1 []:=rfl;refine⟨?_,by unfold tG;simp only[g9,fA,qw];omega⟩;unfold tG;simp only[BJ,Q8,zo,j,i,q,t,u,v,w,y,z,A,B,C,p,c,g,e,l,m,a,zj,zC,zm];generalize s.r.1.getD 0 []=D at n0;generalize s.r.1.getD 1 []=E at n
 iterate 10 rw[zf (zB (by simp<;>omega))]
theorem jE(h:(BJ s).val=M (.inr (.str x,[]))/\X x<=1000000000):Gv s=O/\nA s=x:=by unfold Gv nA L2 ar bT;rw[h.1];exact⟨rfl,rfl⟩
theorem L1(q:nI s)(y:kF s.1):xY s=O:=by
 have u:=q.other;have v:=q.key;have w:=q.role;rcases y with o|o|o
 .obtain⟨a,c,d,e,i,j,k,l,m,n,p⟩:=zft o;obtain⟨x,_⟩:=fw (s:=s) (g:=_) (b:=_) (by simp only[wZ,Q8,a,c,d,e,i,j,k,l,m,n,p,zj,zm,zC,zo];exact rfl);rw[x];exact DJ (g6 (by simp) (by first|exact u|simp) (by first|exact v|simp) (by first|exact w|simp))
 .obtain⟨a,c,d,e,i,j,k,l,m,n,p,h⟩:=zfu o;obtain⟨x,_⟩:=fw (s:=s) (g:=_) (b:=_) (by simp only[wZ,Q8,a,c,d,e,i,j,k,l,m,n,p,h,zj,zm,zC,zo];exact rfl);rw[x];exact DJ (g6 (by simp) (by first|exact u|simp) (by first|exact v|simp) (by first|exact w|simp))
 .obtain⟨a,c,d,e,i,j,k,l,m,n,p,h,t⟩:=zaL o;obtain⟨x,_⟩:=fw (s:=s) (g:=_) (b:=_) (by simp only[wZ,Q8,a,c,d,e,i,j,k,l,m,n,p,h,t,zj,zm,zC,zo];exact rfl);rw[x];exact DJ (g6 (by simp) (by first|exact u|simp) (by first|exact v|simp) (by first|exact w|simp))
theorem kD(h:iu s=O)(o:s.1=pp):X s.r.1=2:=by
 obtain⟨k,l,m,n,t,u,v,w,y,z,p,a,c⟩:=zaL o;obtain⟨_,j⟩:=fw (s:=s) (g:=_) (b:=_) (by simp only[wZ,Q8,k,l,m,n,t,u,v,w,y,z,p,a,c,zj,zm,zC,zo];exact rfl);rw[j]at h;by_cases d:X s.r.1=2
 .exact d
 .exfalso;have i:(cond (N ((X s.r.1:Int)<2)) O (N ((X s.r.1:Int)>2)))=O:=by
   rcases Nat.lt_or_gt_of_ne d with x|x
   .have:N ((X s.r.1:Int)<2)=O:=zB W;rw[this];rfl
   .have:N ((X s.r.1:Int)>2)=O:=zB W;rw[this];cases N ((X s.r.1:Int)<2)<;>rfl
  rw[i]at h;cases e:dG s.2.1<;>cases x:dG s.q.1<;>rw[e,x]at h<;>simp at h
theorem PC(x:nI s)(a:kF s.1):ql s=O:=by
 unfold ql;refine gi ?_ rfl;unfold yg;refine gi (L1 x a) ?_;split
 .rfl
 .rename_i h;have b:iu s=O:=by simpa using h
  have:Gv s=O/\(nA s).length<=1000000000:=by
   rcases a with o|o|o
   .have:=zjy x o;exact⟨(jE this).1,(jE this).2▸this.2⟩
   .have:=zjA x o;exact⟨(jE this).1,(jE this).2▸this.2⟩
   .have:=zjz x o (kD b o);exact⟨(jE this).1,(jE this).2▸this.2⟩
  exact gi this.1 (gi (Yl _ this.2) rfl)
theorem GY:∀(e:List ((Int×Int×zK)×Int))(n:Nat)(x:Int),(ll e n x).length=X e
 |[],_,_=>rfl
 |_::_,0,_=>rfl
 |_::r,n+1,x=>by simp[ll,GY r n x]
theorem zce(e:List ((Int×Int×zK)×Int))(k:Int×Int×zK):(kQ e k).length<=X e+1:=by unfold kQ;cases qo e k<;>simp
theorem JP:∀(e:List ((Int×Int×zK)×Int))(k:Int×Int×zK),(qo e k=O->mN e k<X e)/\mN e k<=X e
 |[],k=>⟨λh=>by simp[qo]at h,zQ _⟩
 | p::r,k=>by
  have⟨x,b⟩:=JP r k;constructor
  .intro h;rw[mN];cases a:(k==p.1)with
   |true=>simp
   | false=>
    have:qo r k=O:=by simpa[qo,a]using h
    have:=x this;simp;omega
  .rw[mN];cases(k==p.1)<;>simp<;>omega
theorem zgs(e:List ((Int×Int×zK)×Int))(k:Int×Int×zK):mN e k<(kQ e k).length:=by
 have⟨x,a⟩:=JP e k;unfold kQ;cases h:qo e k with
 |true=>exact x h
 |false=>simp;omega
def Hq(c:Int)(n:Nat):Prop:=0<=c/\c<n
theorem sX(h:Hq c i):zL c i=O:=by simp[zL,h.1,h.2]
theorem rG(x:Int)(n:Nat):At x n=O↔Hq x n:=by
 unfold Hq At;by_cases h:x>=0
 .rw[zB h];simp;omega
 .rw[aC h];simp;omega
variable {α:Type}
theorem A0{l:List α}{d:α}{p:α->Bool}:((List.range (X l)).all λi=>p (l.getD i d))=O↔∀x∈l,p x=O:=by
 rw[ep];constructor
 .intro h x b;obtain⟨i,a,rfl⟩:=fK b;have:=h i (rg.2 a)
  rwa [bx,af a]at this
 .intro h i a;have a:=rg.1 a;rw[bx,af a];exact h _ (bp a)
variable {t:am}
theorem Pj:(List.range (X t.t.1)).all (zfM t)=O↔∀f∈t.t.1,Hq f.1 (X t.2.1)/\aA f.2=O:=by have h:=A0 (l:=t.t.1) (d:=Q zG) (p:=λf:cw=>At f.1 (X t.2.1)&&aA f.2);simp only[aP,rG]at h;exact h
theorem gR(h:dt t=O):Hq t.q.1 (X t.2.1)/\(∀f∈t.t.1,Hq f.1 (X t.2.1))/\(∀u∈t.r.1,Hq u (X t.2.1))/\X t.2.1<=8/\1<=X t.2.1:=by
 have g:=TH h;unfold dt at h;simp only[aP,rG]at h;have⟨x,_,a,b,e,_⟩:=h;have b:=Pj.1 b;have a:=(A0 (l:=t.r.1) (d:=Q zk) (p:=λu=>At u (X t.2.1))).1 a;simp only[rG]at a;refine⟨e,λf i=>(b f i).1,a,g,?_⟩;cases c:aA t.1
 .rw[c]at x;simp at x
 .rw[c]at x;simp at x;omega
theorem EL{row:zr}(h:(cR t row !=0)≠O):X row=X t.2.1:=by
 simp at h;unfold cR at h;split at h
 .cases h
 .rename_i x;cases a:dt t with
  |false=>rw[a]at x;simp at x
  | true=>
   rw[a]at x;simp at x;omega
abbrev zN(c:Int)(r:zr):zp:=Y r (Z c) (Q K)
def qY(rows:List zr)(c:Int):Prop:=rows.Pairwise λa b=>(zN c a).1≠0->zN c a≠zN c b
theorem sA:∀(a:List ((Int×Int×zK)×Int))(k:Int×Int×zK)(x:Int),ll (kQ a k) (mN a k) x=lF a k x
 |[],k,x=>by simp[kQ,qo,mN,ll,lF]
 | p::r,k,x=>by
  have h:=sA r k x;cases b:(k==p.1)with
  | true=>
   have e:k=p.1:=bQ b;simp[kQ,qo,mN,ll,lF,e]
  | false=>
   have e:kQ (p::r) k=p::kQ r k:=by
    simp only[kQ,qo,List.any_cons,b,Bool.false_or];cases(r.any λp=>k==p.1)<;>rfl
   rw[e,mN,lF,b];show p::ll (kQ r k) (mN r k) x=p::lF r k x;rw[h]
theorem JO(c:List ((Int×Int×zK)×Int))(k a:Int×Int×zK)(x:Int):iw (lF c k x) a=if a=k then x else iw c a:=by
 induction c with
 | nil=>
  by_cases h:a=k
  .subst h;simp[lF,iw]
  .simp[lF,iw,h]
 | cons p r i=>
  rw[lF];cases d:(k==p.1)with
  | true=>
   have e:k=p.1:=bQ d;by_cases h:a=k
   .simp[iw,h]
   .have g:(a==p.1)=S:=by rw[<-e];simpa using h
    have j:(a==k)=S:=by simpa using h
    simp only[aN,iw,List.find?_cons,g,j,zh h]
  | false=>
   show iw (p::lF r k x) a=_;cases b:(a==p.1)with
   | true=>
    have e:a=p.1:=bQ b;have h:a≠k:=by intro h;rw[<-h,b]at d;cases d
    simp only[iw,List.find?_cons,b,zh h]
   | false=>
    simp only[iw,List.find?_cons,b]at i|-;exact i
def xi:zr->List ((Int×Int×zK)×Int)
 |[]=>[]
 |v::r=>lF (xi r) v (Γ Δ (iw (xi r) v+1))
theorem Ox:∀l:zr,(xi l).length<=X l
 |[]=>zQ _
 | v::r=>by
  rw[xi,<-sA,GY];have:=zce (xi r) v;have:=Ox r;simp;omega
theorem Fk:∀(l:zr)(v:zp),X l<=1000000->iw (xi l) v=(l.count v:Int)
 |[],v,_=>by simp[xi,iw]
 | u::r,v,h=>by
  simp only[fA]at h;have a:=Fk r u W;have b:=Fk r v W;have c:r.count u<=X r:=List.count_le_length;rw[xi,JO,a,b,zu _ um];by_cases e:v=u
  .subst e;simp
  .have x:¬(u==v)=O:=by intro h;exact e (bQ h).symm
   rw[zh e,List.count_cons,zh x];rfl
theorem Ph{x:ae}(B:∀r∈x.2,zL c (Io r)=Q3)(hl:Io x.2<=1000000):∃b,Dc x c=Q1 (b,())/\(b=Q4↔qY x.2 c):=by
  let k:Nat->zp:=λi=>zN c (Y x.2 i (Q ze.sl))
  let m:Nat->List ((Int×Int×zK)×Int):=λi=>xi (((x.2.take i).map (zN c)).reverse)
  have y:∀i,i<X x.2->m (i+1)=lF (m i) (k i) (Γ Δ (iw (m i) (k i)+1)):=by
    intro i a;show xi (((x.2.take (i+1)).map (zN c)).reverse)=_;rw[List.take_succ_eq_append_getElem a,ib,List.reverse_append];show xi (zN c x.2[i]::_)=_;rw[xi];have:k i=zN c x.2[i]:=by
      show zN c (Y x.2 i _)=_;rw[bx,af a,bI]
    rw[this];rfl
  have q:∀i,i<=X x.2->(m i).length<=i:=by
    intro i a;have:=Ox (((x.2.take i).map (zN c)).reverse);simp at this;have d:(m i).length=(xi (((x.2.take i).map (zN c)).reverse)).length:=rfl;simp at d;omega
  have o:∀i v,i<=X x.2->iw (m i) v=((((x.2.take i).map (zN c)).count v:Nat):Int):=by
    intro i v a;show iw (xi _) v=_;rw[Fk _ _ sg,List.count_reverse]
  have C:=nG (t:=B4) (Φ:=λr=>bb r.2 [Sh.bool] r.1=some (true,())) 1 (λi=>.h3 c x.2 (Io x.2:Int) (i:Int) (m i)) (λi=>(k i).1≠0->((x.2.take i).map (zN c)).count (k i)=0) (Io x.2) (by
    intro i a _;have k0:Y x.2 (i:Int).toNat (Q ze.sl)=Y x.2 i (Q ze.sl):=by rw[aJ]
    have A:Y x.2 i (Q ze.sl)=x.2[i]:=by rw[bx,af a,bI]
    have G:zL c (X x.2[i])=O:=B _ (bp a);have n:k i=zN c x.2[i]:=by show zN c (Y x.2 i _)=_;rw[A]
    have H:zL ((mN (m i) (k i):Nat):Int) (kQ (m i) (k i)).length=O:=zx (zgs _ _);have P:N ((m i).length<=1073741824)=O:=zB (by have:=q i W;omega);have U:ll (kQ (m i) (k i)) ((mN (m i) (k i):Nat):Int).toNat (Γ Δ (iw (m i) (k i)+1))=m (i+1):=by rw[aJ,sA,y i a]
    have k7:iw (m (i+1)) (k i)=((((x.2.take i).map (zN c)).count (k i)+1:Nat):Int):=by
      have u:((x.2.take i).map (zN c)).count (k i)<=((x.2.take i).map (zN c)).length:=List.count_le_length;simp only[cW,rc]at u;rw[y i a,JO,zf rfl,o i _ W,zu _ um]
    have w:(B4 (.h3 c x.2 (X x.2:Int) (i:Int) (m i))).val=if(cond ((k i).1!=0) (N (((((x.2.take i).map (zN c)).count (k i)+1:Nat):Int)>1)) S)=O then M (.inr (.kb O,[]))else M (.inl (.h3 c x.2 (X x.2:Int) ((i+1:Nat):Int) (m (i+1)))):=by
      show(B4 (.h3 c x.2 _ _ _)).val=_;unfold B4;simp only[k0,A];rw[show Y x.2[i] (Z c) (Q K)=k i from n.symm];simp only[Q8,zO a,zx a,G,H,P,zj,U,k7];rw[zu i um]
    by_cases l:(k i).1=0
    · refine .inl ⟨λh=>zz l h,zH.of ?_⟩
      rw[w,zh (by simp[l])]
    · by_cases d:((x.2.take i).map (zN c)).count (k i)=0
      · refine .inl ⟨λ_=>d,zH.of ?_⟩
        rw[w,zh (by rw[d];simp)]
      · refine .inr ⟨λh=>d (h l),(.kb true,[]),zU.of ?_,rfl⟩
        rw [w,zf (by have:((k i).1 != 0)=true:=by simpa using l
                     rw[this];simp only[aN,ba];omega)])
  have z:(∀i,i<X x.2->(k i).1≠0->((x.2.take i).map (zN c)).count (k i)=0)↔qY x.2 c:=by
    unfold qY;rw[List.pairwise_iff_getElem];constructor
    · intro h j i D a E g e
      have n:k i=zN c x.2[i]:=by show zN c (Y x.2 i _)=_;rw[bx,af a,bI]
      have:=h i a (by rw[n,<-e];exact g);rw[List.count_eq_zero,n,<-e]at this;exact this (aI.2 ⟨_,List.mem_take_iff_getElem.2 ⟨j,W,rfl⟩,rfl⟩)
    · intro h i a g
      have n:k i=zN c x.2[i]:=by show zN c (Y x.2 i _)=_;rw[bx,af a,bI]
      rw[List.count_eq_zero];intro s;have⟨r,F,e⟩:=aI.1 s;obtain⟨j,D,rfl⟩:=List.mem_take_iff_getElem.1 F;rw[n]at e g;exact h j i W a W (by rw[e];exact g) e
  have p:(ziR x c).val=M (.inl (.h3 c x.2 (X x.2:Int) ((0:Nat):Int) (m 0))):=rfl;rcases C with⟨l,d⟩|⟨l,r,d,u⟩
  · refine⟨Q4,?_,λ_=>z.1 l,λ_=>rfl⟩
    refine zA p (d.ends (zU.of (r:=(.kb S,[])) ?_)) W rfl;show(B4 (.h3 c x.2 _ _ _)).val=_;simp only[B4,Q8,zM];rfl
  · refine⟨Q3,zA p d ow u,⟨λh=>?_,λh=>zz (z.2 h) l⟩⟩
    cases h
structure ii (x:ae):Prop where
 uq:X x.1.r.1<=1000
 rf:X x.1.t.1<=1000
 rw:X x.2<=1000
theorem Bt(l:zS)(s:zK):al l s=(-1:Int)\/((0:Int)<=al l s/\LT.lt (α:=Int) (al l s) (X l)):=by have:=gP (λx:ae=>x.1.1==s) l 0;simp at this;exact this
theorem eu{l:zS}(h:(0:Int)<=al l x):zL (al l x) (X l)=O:=by
 rcases Bt l x with a|⟨a,b⟩
 .rw[a]at h;omega
 .simp only[zL,aP,ba];exact⟨a,b⟩
theorem aT{l:List α}{d:α}{Q:α->Prop}:(∀i,i<X l->Q (l.getD i d))↔∀x∈l,Q x:=by
 constructor
 .intro h x b;obtain⟨i,a,rfl⟩:=fK b;have:=h i a
  rwa [bx,af a,bI]at this
 .intro h i a;rw[bx,af a,bI];exact h _ (bp a)
theorem cB{l:List α}{d:α}(h:i<X l):l.getD i d∈l:=by rw[bx,af h,bI];exact bp h
theorem gN(i:Nat)(h:i<aE):Γ Δ (((i+1:Nat):Int)-1)=(i:Int):=by have:aE=9223372036854775807:=rfl;rw[eK];omega
def ph(a b:zp):Prop:=LT.lt (α:=Int) (aG a b) 0
theorem UM{e:zp}:N (GE.ge (α:=Int) (aG v e) 0)=O↔¬ph v e:=by unfold ph;rw[ba];omega
structure dV (x:ae):Prop where
 may:dt x.1=O
 few:X x.2<=200
 fits:∀r∈x.2,cR x.1 r=(0:Int)
 key:qY x.2 x.1.q.1
 uniq:∀u∈x.1.r.1,qY x.2 u
 rise:∀i,i<X x.2-1->ph (zN x.1.q.1 (Y x.2 i (Q ze.sl))) (zN x.1.q.1 (Y x.2 (i+1) (Q ze.sl)))
def Err(r:az):Prop:=∃e:Int,r=(L e,[])/\e≠0
theorem BX{x:ae}(hs:ii x):∃e:Int,qj x=M (e,())/\(e=0↔dV x):=by
 have h9:=hs.rw;have h8:=hs.uq;have d:∀{k:Nat}{r:az},zU jl k (.h6 x.2 (X x.2:Int) ((0:Nat):Int) (x,())) r->k<=100000000->(We x).val=M (.inl (.h6 x.2 (X x.2:Int) ((0:Nat):Int) (x,())))->∀e:Int,r=(L e,[])->qj x=M (e,()):=by
  intro k r h hk a e y;subst y;exact zA a h hk rfl
 by_cases D:dt x.1=O
 case neg=>
  refine⟨1,?_,λh=>(by cases h),λh=>zz h.may D⟩;unfold qj ar bT;simp only[We,zo,Q8];rw[zf (by simpa using D)];rfl
 by_cases hw:X x.2<=200
 case neg=>
  refine⟨13,?_,λh=>(by cases h),λh=>zz h.few hw⟩;unfold qj ar bT;simp only[We,zo,Q8];rw[zh (by simpa using D),zf sg];rfl
 have a:(We x).val=M (.inl (.h6 x.2 (X x.2:Int) ((0:Nat):Int) (x,()))):=by
  simp only[We,zo,Q8];rw[zh (by simpa using D),zh sg];rfl
 have⟨z,h7,h5,_,_⟩:=gR D;have C:=nG (t:=jl) (Φ:=Err) 1 (λi=>.h6 x.2 (X x.2:Int) (i:Int) (x,())) (λi=>cR x.1 (Y x.2 i (zi ze.sl))=(0:Int)) (X x.2) (by
  intro i a _;have s:(jl (.h6 x.2 (X x.2:Int) (i:Int) (x,()))).val=if(cR x.1 (Y x.2 i (zi ze.sl))!=0)=O then M (.inr (L (cR x.1 (Y x.2 i (zi ze.sl))),[]))else M (.inl (.h6 x.2 (X x.2:Int) ((i+1:Nat):Int) (x,()))):=by
   show(jl (.h6 x.2 _ _ _)).val=_;unfold jl;simp only[zo,Q8,zO a,zx a,zj,aJ];rw[zu i um]
  by_cases h:cR x.1 (Y x.2 i (zi ze.sl))=(0:Int)
  .refine .inl ⟨h,zH.of ?_⟩;rw[s,zh (by rw[h];simp)]
  .refine .inr ⟨h,_,zU.of (by rw[s,zf (by simpa using h)]),_,rfl,h⟩)
 rcases C with⟨hf,C⟩|⟨hf,r,C,e,y,n⟩
 case inr=>
  exact⟨e,d C W a e y,λh=>zz h n,λh=>zz ((aT (Q:=λr=>cR x.1 r=(0:Int))).2 h.fits) hf⟩
 have m:=(aT (Q:=λr=>cR x.1 r=(0:Int))).1 hf;have U:∀r∈x.2,X r=X x.1.2.1:=λr A=>EL (by simpa using m r A)
 have p:∀c,Hq c (X x.1.2.1)->∀r∈x.2,zL c (X r)=O:=λc hc r A=>by
  rw[U r A];exact sX hc
 have⟨b,H,l⟩:=Ph (x:=x) (c:=x.1.q.1) (p _ z) W;have v:tQ x x.1.q.1=O:=by unfold tQ;rw[H];rfl
 have w:AZ x x.1.q.1=b:=by unfold AZ;rw[H];rfl
 have h4:(jl (.h6 x.2 (X x.2:Int) (X x.2:Int) (x,()))).val=if b=O then M (.inr (L 7,[]))else M (.inl (.h15 x.1.r.1 (X x.1.r.1:Int) ((0:Nat):Int) (x,()))):=by
  show(jl (.h6 x.2 _ _ _)).val=_;unfold jl;simp only[zo,Q8,zM,v,w,zj];rfl
 by_cases o:b=O
 .refine⟨7,d (C.ends (zU.of (by rw[h4,zf o]))) W a 7 rfl,λh=>(by cases h),λh=>?_⟩;have:=l.2 h.key;rw[o]at this;cases this
 have P:qY x.2 x.1.q.1:=l.1 (by simpa using o);have E:zH jl _ (.h6 x.2 (X x.2:Int) ((0:Nat):Int) (x,())) _:=C.trans (zH.of (by rw[h4,zh o]));have g:=nG (t:=jl) (Φ:=Err) 1 (λi=>.h15 x.1.r.1 (X x.1.r.1:Int) (i:Int) (x,())) (λi=>qY x.2 (Y x.1.r.1 i (zi zk))) (X x.1.r.1) (by
  intro i a _;have⟨b,H,l⟩:=Ph (x:=x) (c:=Y x.1.r.1 i (zi zk)) (p _ (h5 _ (cB a))) W;have v:tQ x (Y x.1.r.1 i (zi zk))=O:=by unfold tQ;rw[H];rfl
  have w:AZ x (Y x.1.r.1 i (zi zk))=b:=by unfold AZ;rw[H];rfl
  have s:(jl (.h15 x.1.r.1 (X x.1.r.1:Int) (i:Int) (x,()))).val=if b=O then M (.inr (L 7,[]))else M (.inl (.h15 x.1.r.1 (X x.1.r.1:Int) ((i+1:Nat):Int) (x,()))):=by
   show(jl (.h15 _ _ _ _)).val=_;unfold jl;simp only[zo,Q8,zO a,zx a,zj,aJ,v,w];rw[zu i um]
  by_cases h:b=O
  .refine .inr ⟨λhu=>?_,_,zU.of (by rw[s,zf h]),7,rfl,by decide⟩;have:=l.2 hu;rw[h]at this;cases this
  .exact .inl ⟨l.1 (by simpa using h),zH.of (by rw[s,zh h])⟩)
 rcases g with⟨hq,g⟩|⟨hq,r,g,e,y,n⟩
 case inr=>
  exact⟨e,d (E.ends g) W a e y,λh=>zz h n,λh=>zz ((aT (Q:=λu=>qY x.2 u)).2 h.uniq) hq⟩
 have B:=(aT (Q:=λu=>qY x.2 u)).1 hq;have h0:(jl (.h15 x.1.r.1 (X x.1.r.1:Int) (X x.1.r.1:Int) (x,()))).val=M (.inl (.h21 ((0+1:Nat):Int) (x,()))):=by
  show(jl (.h15 _ _ _ _)).val=_;unfold jl;simp only[Q8,zM];rfl
 have F:=(E.trans g).trans (zH.of h0);have j:=nG (t:=jl) (Φ:=Err) 1 (λi=>.h21 ((i+1:Nat):Int) (x,())) (λi=>ph (zN x.1.q.1 (Y x.2 i (zi ze.sl))) (zN x.1.q.1 (Y x.2 (i+1) (zi ze.sl)))) (X x.2-1) (by
  intro i a _;have h1:i<X x.2:=by omega
  have G:i+1<X x.2:=by omega
  have s:(jl (.h21 ((i+1:Nat):Int) (x,()))).val=if N (GE.ge (α:=Int) (aG (zN x.1.q.1 (Y x.2 i (zi ze.sl))) (zN x.1.q.1 (Y x.2 (i+1) (zi ze.sl)))) 0)=O then M (.inr (L 15,[]))else M (.inl (.h21 ((i+1+1:Nat):Int) (x,()))):=by
   show(jl (.h21 _ _)).val=_;unfold jl;simp only[gN i um];simp only[Q8,zO G,zx G,zx h1,aJ,p _ z _ (cB h1),p _ z _ (cB G),zj];rw[zu (i+1) um]
  by_cases h:ph (zN x.1.q.1 (Y x.2 i (zi ze.sl))) (zN x.1.q.1 (Y x.2 (i+1) (zi ze.sl)))
  .exact .inl ⟨h,zH.of (by rw[s,zh (λG=>UM.1 G h)])⟩
  .exact .inr ⟨h,_,zU.of (by rw[s,zf (UM.2 h)]),15,rfl,by decide⟩)
 rcases j with⟨A,j⟩|⟨A,r,j,e,y,n⟩
 case inr=>
  exact⟨e,d (F.ends j) W a e y,λh=>zz h n,λh=>zz h.rise A⟩
 have h3:(jl (.h21 ((X x.2-1+1:Nat):Int) (x,()))).val=M (.inr (L 0,[])):=by
  show(jl (.h21 _ _)).val=_;unfold jl;simp only[Q8];rw[zh sg]
 exact⟨0,d (F.ends (j.ends (zU.of h3))) W a 0 rfl,λ_=>⟨D,hw,m,P,B,A⟩,λ_=>rfl⟩
def mb(v:zp):Prop:=LE.le (α:=Int) (-9223372036854775808) v.2.1/\LE.le (α:=Int) v.2.1 9223372036854775807/\X v.q<=1000000
theorem cA:∀s:zK,Op.bytesLess s s=S
 |[]=>rfl
 |a::r=>by simp[Op.bytesLess,cA r]
theorem Wy(s:zK):(rM s<0)↔∀b∈s,32<=b.toNat/\b.toNat<=126:=by
 refine zan (p:=λr=>Fq r) (λc=>?_) s;unfold Fq;cases h:N ((c:Int)<32)with
 |true=>simp at h|-;omega
 |false=>simp at h|-;omega
theorem zff(b h x a c d e l:Bool):∃r,(ite (b=O) (M (.inr (.bool (cond c e S),[]))) (ite (h=O) (M (.inr (.bool e,[]))) (ite (x=O) (M (.inr (.bool (cond c l S),[]))) (ite (a=O) (M (.inr (.bool (cond c e (cond d e S)),[]))) (M (.inr (.kb S,[])))))):Option (Ds⊕az))=M (.inr r)/\
  bb r.2 [Sh.bool] r.1=M ((ite (b=O) (ite ((!c)=O) S e) (ite (h=O) e (ite (x=O) (cond c (cond l O S) S) (ite (a=O) (cond c e (cond d e S)) S))):Bool),()):=by cases b<;>cases h<;>cases x<;>cases a<;>cases c<;>cases d<;>cases e<;>cases l<;>exact⟨_,rfl,rfl⟩
theorem zfe(b h x a c d l:Bool):(ite (b=O) (ite ((!c)=O) S S) (ite (h=O) S (ite (x=O) (cond c (cond l S S) S) (ite (a=O) (cond c S (cond d S S)) S))))=S:=by cases b<;>cases h<;>cases x<;>cases a<;>cases c<;>cases d<;>cases l<;>rfl
theorem OR(p:X v.q<=1000000):K8 v=M (bf v,()):=by
 have⟨k,n,s⟩:=v;have p:X s<=1000000:=p;have y:=nG (t:=uU) (Φ:=λr=>r=(.kb S,[])) 1 (λi=>.h2 (i:Int) ((k,n,s),())) (λi=>32<=(Y s i 0).toNat/\(Y s i 0).toNat<=126) (X s) (by
  intro i x _;have e:(uU (.h2 (i:Int) ((k,n,s),()))).val=if(cond (N (((Y s i 0).toNat:Int)<32)) O (N (((Y s i 0).toNat:Int)>126)))=O then M (.inr (.kb S,[]))else M (.inl (.h2 ((i+1:Nat):Int) ((k,n,s),()))):=by
   show(uU (.h2 _ _)).val=_;unfold uU;simp only[Q8,zO x,zx x,aJ,zj];rw[zf (by cases N (((Y s i 0).toNat:Int)<32)<;>rfl)];rw[zu i um]
  by_cases c:(Y s i 0).toNat<32
  .refine .inr ⟨λh=>by omega,_,zU.of (by rw[e,zf (by rw[zB W];rfl)]),rfl⟩
  .by_cases g:126<(Y s i 0).toNat
   .refine .inr ⟨λh=>by omega,_,zU.of (by rw[e,zf (by rw[aC W,zB W];rfl)]),rfl⟩
   .refine .inl ⟨W,zH.of (by rw[e,zh (by rw[aC W,aC W];simp)])⟩)
 have x:(ziJ (k,n,s)).val=M (.inl (.h2 ((0:Nat):Int) ((k,n,s),()))):=rfl;have u:=Wy s;have w:=aT (l:=s) (d:=0) (Q:=λb=>32<=b.toNat/\b.toNat<=126);rcases y with⟨c,g⟩|⟨c,r,g,rfl⟩
 .have a:N (rM s<0)=O:=zB (u.2 (w.1 c));have e:(uU (.h2 (X s:Int) ((k,n,s),()))).val=(ite ((k==0)=O) (M (.inr (.bool (cond (n==0) (s==[]) S),[]))) (ite ((k==1)=O) (M (.inr (.bool (s==[]),[]))) (ite ((k==2)=O) (M (.inr (.bool (cond (n==0) (N ((X s:Int)<=40)) S),[]))) (ite ((k==3)=O) (M (.inr (.bool (cond (n==0) (s==[]) (cond (n==1) (s==[]) S)),[]))) (M (.inr (.kb S,[]))))))):=by
   show(uU (.h2 _ _)).val=_;unfold uU;simp only[Q8,zM];rw[zh sw]
  have⟨r,m,o⟩:=zff (k==0) (k==1) (k==2) (k==3) (n==0) (n==1) (s==[]) (N ((X s:Int)<=40));have j:bf (k,n,s)=(ite ((k==0)=O) (ite ((!(n==0))=O) S (s==[])) (ite ((k==1)=O) (s==[]) (ite ((k==2)=O) (cond (n==0) (cond (N ((X s:Int)<=40)) O S) S) (ite ((k==3)=O) (cond (n==0) (s==[]) (cond (n==1) (s==[]) S)) S)))):=by
   simp only[bf,a];rfl
  rw[j];exact zA x (g.ends (zU.of (e.trans m))) W o
 .have a:N (rM s<0)=S:=aC (λh=>c (w.2 (u.1 h)));have z:(s==[])=S:=by
   cases s with
   |nil=>exact zz (λi x=>zz x sw) c
   |cons _ _=>rfl
  have j:bf (k,n,s)=S:=by
   simp only[bf,a,z];exact zfe (k==0) (k==1) (k==2) (k==3) (n==0) (n==1) (N ((X s:Int)<=40))
  rw[j];exact zA x g W rfl
theorem mz(h:X v.q<=1000000):nP v=O:=by unfold nP;rw[OR h];rfl
theorem pW(h:X v.q<=1000000):uR v=bf v:=by unfold uR;rw[OR h];rfl
theorem Jn(h:X v.q<=1000000):xB v=M (ak v,()):=by unfold xB ar bT;simp only[ziL,Q8,mz h,pW h,zj,ak];cases bf v<;>rfl
theorem tz(h:X v.q<=1000000):tw v=O:=by unfold tw;rw[Jn h];rfl
theorem xC(h:X v.q<=1000000):fX v=ak v:=by unfold fX;rw[Jn h];rfl
def GV(b:Bool):zp:=if b then(3,1,[])else(3,0,[])
theorem FL(b:Bool):xA b=M (GV b,()):=by cases b<;>rfl
theorem pY(b:Bool):mA b=O:=by unfold mA;rw[FL];rfl
theorem jc(b:Bool):bB b=GV b:=by unfold bB;rw[FL];rfl
def MA(v:zp)(n:Int):Bool:=v.1==3&&(v.2.1==n&&(v.q==[]&&O))
theorem Uc(v:zp)(b:Bool):OQ v b=M (MA v (cond b 1 0),()):=by unfold OQ ar bT;simp only[ziK,Q8,pY,jc,zj];cases b<;>rfl
theorem CL(v:zp)(b:Bool):oQ v b=O:=by unfold oQ;rw[Uc];rfl
theorem K7(v:zp)(b:Bool):rT v b=MA v (cond b 1 0):=by unfold rT;rw[Uc];rfl
theorem pi:bw 0=(0,0,[]):=by decide
theorem mJ:bw 1=(3,0,[]):=by decide
theorem mK:bw 2=(3,1,[]):=by decide
theorem kl(v:zp):(eT v==1)=MA v 0/\(eT v==2)=MA v 1:=by
 have⟨k,n,s⟩:=v;unfold eT MA;simp only[bf];by_cases h:k=3
 .subst h;by_cases x:n=0
  .subst x;cases d:(s==[])<;>simp[eK]
  .by_cases a:n=1
   .subst a;cases d:(s==[])<;>simp[eK]
   .have e0:(n==0)=S:=by simpa using x
    have c:(n==1)=S:=by simpa using a
    simp[e0,c]
 .have e:(k==3)=S:=by simpa using h
  have b:(k !=3)=O:=by simpa using h
  simp[e,b]
theorem OP(a b:zp):FE a b=M (Hz a b,()):=by unfold FE ar bT;simp only[ziW,Q8,CL,K7,jc,Hz,(kl a).1,(kl a).2,(kl b).1,(kl b).2,pi,mJ,mK,aL,aN];cases MA a 0<;>cases MA b 0<;>cases MA a 1<;>cases MA b 1<;>rfl
theorem Ue(a b:zp):OT a b=M (vOr a b,()):=by unfold OT ar bT;simp only[ziX,Q8,CL,K7,jc,vOr,(kl a).1,(kl a).2,(kl b).1,(kl b).2,pi,mJ,mK,aL,aN];cases MA a 0<;>cases MA b 0<;>cases MA a 1<;>cases MA b 1<;>rfl
theorem OS(a:zp):FH a=M (Co a,()):=by unfold FH ar bT;simp only[ziV,Q8,CL,K7,jc,Co,(kl a).1,(kl a).2,pi,mJ,mK,aL,aN];cases MA a 0<;>cases MA a 1<;>rfl
theorem Rq(k x n a:Int)(s b:zK):(ite ((k==x&&(n==a&&(s==b&&O)))=O) (0:Int) (ite ((cond (N (k<x)) O (cond (k==x) (cond (N (n<a)) O (cond (n==a) (Op.bytesLess s b) S)) S))=O) (-1) 1))=Jg [ug k x,ln n a,px s b]:=by
 simp only[Jg,ug,ln,px];rcases DC k x with h|h|h
 .have c:(k==x)=S:=dX.2 W;simp[c,h]
 .subst h;rcases DC n a with h|h|h
  .have c:(n==a)=S:=dX.2 W;simp[c,h]
  .subst h;by_cases g:s=b
   .subst g;simp[cA]
   .have c:(s==b)=S:=dX.2 g;by_cases e:Op.bytesLess s b=O
    .simp[c,e]
    .simp[c,e]
  .have c:(n==a)=S:=dX.2 W;have d:¬n<a:=by omega
   simp[c,d,h]
 .have c:(k==x)=S:=dX.2 W;have d:¬k<x:=by omega
  simp[c,d,h]
theorem FI{e:zp}(h:X v.q<=1000000)(x:X e.q<=1000000):rV v e=M (aG v e,()):=by unfold rV ar bT;simp only[ztG,Q8,tz h,tz x,xC h,xC x,zj,aG];rw[<-Rq];generalize((ak v).1==(ak e).1&&((ak v).2.1==(ak e).2.1&&((ak v).q==(ak e).q&&O)))=b;generalize(cond (N ((ak v).1<(ak e).1)) O (cond ((ak v).1==(ak e).1) (cond (N ((ak v).2.1<(ak e).2.1)) O (cond ((ak v).2.1==(ak e).2.1) (Op.bytesLess (ak v).q (ak e).q) S)) S))=a;cases b<;>cases a<;>rfl
theorem zW(l:List α)(d:α)(h:i<X l):l.getD ((i:Int).toNat) d=l[i]:=by rw[aJ,bx,af h,bI]
theorem oG(l:List α)(d:α)(h:i<X l):l.getD i d∈l:=by rw[bx,af h,bI];exact bp h
def bY(f w:zK):List zK:=if(w==[])=O then[f]else[f,w]
def eP(db:zS)(ns:List zK):Bool:=db.any λx=>!aQ ns x.1.1&&N (GE.ge (α:=Int) (aj (λf:cw=>aQ ns f.2) x.1.t.1 0) 0)
def nW(db:zS)(f w t:zK):Int:=
 if∀n∈bY f w,LE.le (α:=Int) 0 (al db n)then(if(N (GE.ge (α:=Int) (al db t) 0)||f==w)=O then 7 else if eP db (bY f w)=O then 10 else 0)else 6
def zhP(y h:zq bZ):Prop:=
 (0:Int)<=al y.1 y.u.1/\(y.v.1=[]\/(0:Int)<=al y.1 y.v.1)/\LT.lt (α:=Int) (al y.1 y.2.1.2.1) 0/\y.u.1≠y.v.1/\
 h.q.1=(Y y.1 (Z (al y.1 y.u.1)) (Q zl)).1/\
 h.r.1=(ite (y.v.1=[]) y.r.1 ((Y y.1 (Z (al y.1 y.v.1)) (Q zl)).1))
def zdC(y:zq bZ)(r:az):Prop:=∃(e:Int)(h:zq bZ),r=(L e,bc bZ h)/\h.1=y.1/\h.2.1=y.2.1/\h.t=y.t/\e=nW y.1 y.u.1 y.v.1 y.2.1.2.1/\(e=0->zhP y h)
theorem zwa(y:zq bZ)(a:List zK)(H:X y.1<=1000000)(q:(0:Int)<=al y.1 y.u.1)(s:y.v.1=[]\/(0:Int)<=al y.1 y.v.1)(A:LT.lt (α:=Int) (al y.1 y.2.1.2.1) 0)(B:y.u.1≠y.v.1)(e:nW y.1 y.u.1 y.v.1 y.2.1.2.1=if eP y.1 a=O then 10 else 0)(n:Nat)(C:1+X y.1<=n):
  ∃r,ej Hw n (.h11 y.1 (X y.1:Int) 0 y a)=M r/\zdC y r:=by
 refine dO (t:=Hw) (β:=Unit) (X y.1) (λ_ i=>.h11 y.1 (X y.1:Int) (i:Int) y a) (λ_ i=>∀j(g:j<X y.1),j<i->(!aQ a y.1[j].1.1&&N (GE.ge (α:=Int) (aj (λf:cw=>aQ a f.2) y.1[j].1.t.1 0) 0))=S) (zdC y) 1 ?_ ?_ (X y.1) 0 () n rfl (aK _) (λj _ h=>by omega) C
 .intro b i o w;simp only[Hw,Mh,GM,Q8,zO o,zx o,zj,zW y.1 _ o];rw[zu i um];have d:(!aQ a y.1[i].1.1&&N (GE.ge (α:=Int) (aj (λf:cw=>aQ a f.2) y.1[i].1.t.1 0) 0))=S->∀j(g:j<X y.1),j<i+1->(!aQ a y.1[j].1.1&&N (GE.ge (α:=Int) (aj (λf:cw=>aQ a f.2) y.1[j].1.t.1 0) 0))=S:=by
   intro h j g F;by_cases l:j=i
   .subst l;exact h
   .exact w j g W
  by_cases c:(!aQ a y.1[i].1.1)=O
  .simp only[c,zj];split
   .rename_i p;refine Or.inr ⟨_,rfl,10,y,rfl,rfl,rfl,rfl,?_,λh=>by cases h⟩;have z:eP y.1 a=O:=by
     unfold eP;exact List.any_eq_true.2 ⟨y.1[i],bp o,by rw[c];simpa using p⟩
    rw[e,zf z]
   next p=>exact Or.inl ⟨(),d (by rw[c];simpa using p),rfl⟩
  .simp only[c];exact Or.inl ⟨(),d (by simp only[iY]at c;rw[c];rfl),rfl⟩
 .intro b n w C;have z:eP y.1 a=S:=by
   unfold eP;rw[List.any_eq_false];intro x G;obtain⟨j,g,rfl⟩:=fK G;rw[w j g g];simp
  rw[z]at e
  replace e:=e.symm
  simp only[zC,zm]at e;obtain⟨n,rfl⟩:∃k,n=k+1:=⟨n-1,W⟩;rw[dc];simp only[Hw,Mh,GM,Q8,zM,eu q,zj];by_cases c:(!y.v.1==[])=O
  .have m:y.v.1≠[]:=by simpa using c
   have D:(0:Int)<=al y.1 y.v.1:=s.resolve_left m;simp only[c,zj,eu D];refine⟨_,rfl,0,_,rfl,rfl,rfl,rfl,e,λ_=>⟨q,s,A,B,rfl,?_⟩⟩;simp[m]
  .have E:y.v.1=[]:=by simpa using c
   simp only[c];refine⟨_,rfl,0,_,rfl,rfl,rfl,rfl,e,λ_=>⟨q,s,A,B,rfl,?_⟩⟩;simp[E]
theorem zzb(y:zq bZ)(a:List zK)(d:a=bY y.u.1 y.v.1)(E:X y.1<=1000000)(n:Nat)(s:2+X y.1+X a<=n):
  ∃r,ej Hw n (.h3 a (X a:Int) 0 y a)=M r/\zdC y r:=by
 have F:X a<=2:=by rw[d];unfold bY;split<;>simp
 refine dO (t:=Hw) (β:=Unit) (X a) (λ_ i=>.h3 a (X a:Int) (i:Int) y a) (λ_ i=>∀j(e:j<X a),j<i->(0:Int)<=al y.1 a[j]) (zdC y) (2+X y.1) ?_ ?_ (X a) 0 () n rfl (aK _) (λj _ h=>by omega) s
 .intro b i l o;simp only[Hw,Sk,Mi,Q8,zO l,zx l,zj,zW a _ l];rw[zu i um];by_cases c:(0:Int)<=al y.1 a[i]
  .have:N (LT.lt (α:=Int) (al y.1 a[i]) 0)=S:=by simpa using c
   simp only[this];refine Or.inl ⟨(),λj e D=>?_,rfl⟩;by_cases g:j=i
   .subst g;exact c
   .exact o j e W
  .have:N (LT.lt (α:=Int) (al y.1 a[i]) 0)=O:=by simpa using c
   simp only[this,zj];refine Or.inr ⟨_,rfl,6,y,rfl,rfl,rfl,rfl,?_,λh=>by cases h⟩;unfold nW;rw[zh];intro h;exact c (h _ (by rw[<-d];exact bp l))
 .intro b n o s;obtain⟨n,rfl⟩:∃k,n=k+1:=⟨n-1,W⟩;have m:∀n∈bY y.u.1 y.v.1,LE.le (α:=Int) 0 (al y.1 n):=by
   intro x z;rw[<-d]at z;obtain⟨j,e,rfl⟩:=fK z;exact o j e e
  have q:nW y.1 y.u.1 y.v.1 y.2.1.2.1=if(N (GE.ge (α:=Int) (al y.1 y.2.1.2.1) 0)||y.u.1==y.v.1)=O then 7 else if eP y.1 a=O then 10 else 0:=by
   unfold nW;rw[zf m,<-d]
  have A:(0:Int)<=al y.1 y.u.1:=m _ (by unfold bY;split<;>simp);have B:y.v.1=[]\/(0:Int)<=al y.1 y.v.1:=by
   by_cases w:(y.v.1==[])=O
   .left;simpa using w
   .right;exact m _ (by unfold bY;rw[zh w];simp)
  rw[dc];simp only[Hw,Sk,Mi,Q8,zM];by_cases c:(bif N (GE.ge (α:=Int) (al y.1 y.2.1.2.1) 0)then O else y.u.1==y.v.1)=O
  .simp only[c,zj];refine⟨_,rfl,7,y,rfl,rfl,rfl,rfl,?_,λh=>by cases h⟩;rw[q,zf (by revert c;cases N (GE.ge (α:=Int) (al y.1 y.2.1.2.1) 0)<;>exact id)]
  .simp only[c];have p:N (GE.ge (α:=Int) (al y.1 y.2.1.2.1) 0)=S:=by
    cases C:N (GE.ge (α:=Int) (al y.1 y.2.1.2.1) 0)with
    |false=>rfl
    |true=>rw[C]at c;simp at c
   rw[p]at c;refine zwa y a E A B (by simpa using p) (by simpa using c) ?_ n W;rw[q,p,zh (by simpa using c)]
theorem Oo(y:zq bZ)(g:X y.1<=1000000):∃(e:Int)(h:zq bZ),te y=M ((e,()),h)/\h.1=y.1/\h.2.1=y.2.1/\h.t=y.t/\e=nW y.1 y.u.1 y.v.1 y.2.1.2.1/\(e=0->zhP y h):=by
 have b:mw (y.t.1,y.u.1,y.v.1,(y.w.1,[],y.x.1,[],[],zt y.y.1),[],y.z.1)=bY y.u.1 y.v.1:=rfl;obtain⟨r,c,e,h,rfl,d⟩:=zzb y _ b g 100000000 (by
  have:X (mw (y.t.1,y.u.1,y.v.1,(y.w.1,[],y.x.1,[],[],zt y.y.1),[],y.z.1))<=2:=by rw[b];unfold bY;split<;>simp
  omega)
 refine⟨e,h,?_,d⟩;unfold te kI bT;simp only[zmX,Q8];rw[c];exact dM (outs:=[zk]) (r:=L e) (a:=(e,())) h rfl
theorem A8(h:i<b):N ((i:Int).toNat<b)=O:=by simpa using h
def qn(t:am):Int:=
 if∃i,i<X t.2.1/\zY t (Y t.2.1 i (Q zn)).1≠(i:Int)then 7 else if(t.u.op==[])=O then 0
 else if(cond ((cu t.u t.2.1).2==0) (cond ((cu t.u t.2.1).1!=3) ((cu t.u t.2.1).1!=0) S) S)=O then 5 else(cu t.u t.2.1).2
abbrev UH(y:zq aF):am:=(y.w.1,y.x.1,y.y.1,[],[],y.z.1)
theorem vO(y:zq aF)(l:X y.x.1<=1000000):xe y=M ((qn (UH y),()),y):=by
 have h:=dO (t:=Sl) (β:=Unit) (X y.x.1) (λ_ i=>.h2 (X y.x.1:Int) (i:Int) y) (λ_ i=>∀j,j<i->j<X y.x.1->zY (UH y) (Y y.x.1 j (Q zn)).1=(j:Int)) (λr=>r=(L (qn (UH y)),bc aF y)) 1 (by
   intro b i d g;simp only[Sl,Sm,Mj,Q8,zO d,zx d,zB d,zj,zo,aJ];rw[zu i um];by_cases c:(zY (UH y) (Y y.x.1 i (Q zn)).1!=(i:Int))=O
   .simp only[c,zj];refine Or.inr ⟨_,rfl,?_⟩;unfold qn;rw[zf ⟨i,d,by simpa using c⟩]
   .simp only[c];refine Or.inl ⟨(),λj q l=>?_,rfl⟩;by_cases h:j=i
    .subst h;simpa using c
    .exact g j W l) (by
   intro b n g s;obtain⟨n,rfl⟩:∃k,n=k+1:=⟨n-1,W⟩;have m:¬∃i,i<X (UH y).2.1/\zY (UH y) (Y (UH y).2.1 i (Q zn)).1≠(i:Int):=by
    rintro⟨i,d,h⟩;exact h (g i d d)
   have p:(Sl (.h2 (X y.x.1:Int) (X y.x.1:Int) y)).val=M (.inr (L (qn (UH y)),bc aF y)):=by
    simp only[Sl,Sm,Mj,Q8,zM,zo];unfold qn;rw[zh m];split
    .simp_all
    .split
     .rfl
     .split<;>rfl
   rw[dc,p];exact⟨_,rfl,rfl⟩)
  y.x.1.length 0 () 100000000 rfl (aK _) (λj h=>by omega) W
 obtain⟨r,o,rfl⟩:=h;unfold xe kI bT;simp only[zmZ,Q8];have e:ej Sl 100000000 (.h2 (X y.x.1:Int) 0 y)=M (L (qn (UH y)),bc aF y):=o;rw[e];exact dM (outs:=[zk]) (r:=L (qn (UH y))) (a:=(qn (UH y),())) y rfl
theorem yn(t:am)(s:zK):zY t s=(-1:Int)\/((0:Int)<=zY t s/\LT.lt (α:=Int) (zY t s) (X t.2.1)):=by have:=gP (λc:cF=>c.1==s) t.2.1 0;unfold zY;simpa using this
theorem sW(h:¬LT.lt (α:=Int) (zY t x) 0):zL (zY t x) (X t.2.1)=O:=by
 rcases yn t x with a|⟨a,b⟩
 .rw[a]at h;simp at h
 .simp only[zL,aP,ba];exact⟨a,b⟩
theorem BN(x:Int):∀(l:List Int)(i:Nat),GE.ge (α:=Int) (fD x l (i:Int)) 0↔x∈l
 | [],i=>by
  rw[fD];exact⟨λh=>zz h (by decide),λh=>by cases h⟩
 | a::r,i=>by
  rw[fD];split
  .rename_i h;have:x=a:=by simpa using h
   subst this;exact⟨λ_=>uz,λ_=>Int.natCast_nonneg i⟩
  next h=>have:=BN x r (i+1);rw[wm]at this;rw[bX];refine⟨λb=>.inr (this.1 b),λb=>this.2 (b.resolve_left ?_)⟩;rintro rfl;simp at h
theorem vJ(l:List Int)(x:Int):vI l x=O↔x∈l:=by unfold vI;rw[decide_eq_true_iff];exact BN x l 0
def gS(t:am)(n:List zK):Int:=if∀s∈n,¬LT.lt (α:=Int) (zY t s) 0 then(ite ((n.map (zY t)).Nodup) 0 7)else 4
theorem Fo{l:List Int}:(l++[c]).Nodup↔l.Nodup/\c∉l:=by rw[List.nodup_append];simp;intro _;exact⟨λh x=>h c x rfl,λh y a e=>h (e▸a)⟩
theorem bE{l:List α}(h:i<X l):l.take (i+1)=l.take i++[l[i]]:=by rw[List.take_add_one,af h];rfl
def PX(y:zq bZ)(z:zq eG):Prop:=z.1=y.1/\z.2.1=y.2.1/\z.q.1=y.q.1/\z.r.1=y.r.1/\z.t.1=y.t.1/\z.u.1=y.u.1/\z.v.1=y.v.1/\z.w.1=y.w.1/\
 z.y.1=y.x.1/\z.z.1=y.y.1/\z.p=y.z
abbrev io(z:zq eG):aV:=z.x.1
abbrev fW(z:zq eG):ed:=z.s.1
def NmI(y:zq bZ)(l:List zK)(z:zq eG):Prop:=PX y z/\fW z=l.map (λs=>zY y.q.1 s)/\io z=l.map (λs=>Y y.q.1.2.1 (Z (zY y.q.1 s)) (Q zn))/\∀s∈l,¬LT.lt (α:=Int) (zY y.q.1 s) 0
def NmR(y:zq bZ)(r:az):Prop:=∃(e:Int)(z:zq eG),r=(L e,bc aF z)/\PX y z/\e=gS y.q.1 y.2.1.r.1/\(e=0->NmI y y.2.1.r.1 z)/\(io z).length<=1000000
theorem zuZ(y:zq bZ)(z:zq eG)(d:NmI y y.2.1.r.1 z)(l:gS y.q.1 y.2.1.r.1=if(fW z).Nodup then 0 else 7)(v:(fW z).length<=1000000)(m:Nat):∀(i n:Nat),(fW z).length-i=m->i<=(fW z).length->((fW z).take i).Nodup->1+m<=n->∃r,ej uu n (.h12b ((fW z).length:Int) (i:Int) z)=M r/\NmR y r:=by
 intro i n w x g o;have a:(io z).length<=1000000:=by
  have:=v;rw[d.2.1,cW]at this;rw[d.q.1,cW];exact this
 refine dO (t:=uu) (β:=Unit) (fW z).length (λ_ i=>.h12b ((fW z).length:Int) (i:Int) z) (λ_ i=>((fW z).take i).Nodup) (NmR y) 1 ?_ ?_ m i () n w x g o
 .intro b i x e;have u:(N (0<=0)&&N ((0:Int)<=(i:Int))&&N ((i:Int)<=((fW z).length:Int)))=O:=by simp;omega
  simp only[uu,GO,A6,Q8,zO x,zx x,zj,u];rw[zu i um];rw[show List.take (Z (i:Int)-Z 0) (List.drop (Z 0) z.s.1)=(fW z).take i by simp,show z.s.1.getD (Z (i:Int)) (Q zk)=(fW z)[i]from zW (fW z) _ x];split
  next c=>refine Or.inr ⟨_,rfl,7,z,rfl,d.1,?_,λh=>(by cases h),a⟩;rw[l,zh];intro p;have j:((fW z).take (i+1)).Nodup:=p.sublist (List.take_sublist _ _);rw[bE x,Fo]at j;exact j.2 ((vJ _ _).1 c)
  next c=>refine Or.inl ⟨(),?_,rfl⟩;show((fW z).take (i+1)).Nodup;rw[bE x,Fo];exact⟨e,λh=>c ((vJ _ _).2 h)⟩
 .intro b n e o;rw[gB]at e;obtain⟨n,rfl⟩:∃k,n=k+1:=⟨n-1,W⟩;rw[dc];simp only[uu,GO,A6,Q8,zM];exact⟨_,rfl,0,z,rfl,d.1,by rw[l,zf e],λ_=>d,a⟩
theorem zy3(y:zq bZ)(z:zq eG)(x:NmI y y.2.1.r.1 z)(g:gS y.q.1 y.2.1.r.1=if(fW z).Nodup then 0 else 7)(i:(fW z).length<=1000000)(n:Nat)(m:2+(fW z).length<=n):∃r,ej uu n (.h12 ((fW z).length:Int) 0 z)=M r/\NmR y r:=by
 have d:(io z).length<=1000000:=by
  have:=i;rw[x.2.1,cW]at this;rw[x.q.1,cW];exact this
 obtain⟨n,rfl⟩:∃k,n=k+1:=⟨n-1,W⟩;rw[dc];by_cases h:0<(fW z).length
 .have l:(N (0<=0)&&N ((0:Int)<=((0:Nat):Int))&&N (((0:Nat):Int)<=((fW z).length:Int)))=O:=by simp
  have a:(∃r,(uu (.h12 ((fW z).length:Int) ((0:Nat):Int) z)).val=M (.inr r)/\NmR y r)\/(uu (.h12 ((fW z).length:Int) ((0:Nat):Int) z)).val=M (.inl (.h12b ((fW z).length:Int) ((1:Nat):Int) z)):=by
   simp only[uu,Ml,GP,Q8,zO h,zx h,A8 h,zj,l];rw[zu 0 um];split
   next c=>exact zz ((vJ _ _).1 c) sw
   .exact Or.inr rfl
  rw[Int.ofNat_zero]at a;rcases a with⟨r,b,j⟩|b
  .rw[b];exact⟨r,rfl,j⟩
  .rw[b];exact zuZ y z x g i _ 1 n rfl W (by rw[bE h];simp) W
 .have e:(fW z).length=0:=by omega
  have a:(uu (.h12 ((fW z).length:Int) 0 z)).val=M (.inr (L 0,bc aF z)):=by
   rw[e];simp[uu,Ml,GP,Q8]
  rw[a];exact⟨_,rfl,0,z,rfl,x.1,by rw[g,zf (by rw[Dz e];exact List.nodup_nil)],λ_=>x,d⟩
theorem nm3(y:zq bZ)(z:zq eG)(D:NmI y [] z)(E:X y.2.1.r.1<=1000000)(n:Nat)(A:3+X y.2.1.r.1+X y.2.1.r.1<=n):∃r,ej uu n (.h3 y.2.1.r.1 (X y.2.1.r.1:Int) 0 z)=M r/\NmR y r:=by
 refine dO (t:=uu) (β:=zq eG) (X y.2.1.r.1) (λz i=>.h3 y.2.1.r.1 (X y.2.1.r.1:Int) (i:Int) z) (λz i=>NmI y (y.2.1.r.1.take i) z) (NmR y) (3+X y.2.1.r.1) ?_ ?_ (X y.2.1.r.1) 0 z n rfl (aK _) (by simpa using D) A
 .intro z i b a;have⟨l,B,o,C⟩:=a;have c:(fW z).length<=1000000:=by rw[B,cW,rc];omega
  have g:(io z).length<=1000000:=by rw[o,cW,rc];omega
  have j:z.q.1=y.q.1:=l.q.1;simp only[uu,So,Mm,Q8,zO b,zx b,zj,zW _ _ b,zo,bh];rw[zu i um];by_cases e:LT.lt (α:=Int) (zY z.q.1 y.2.1.r.1[i]) 0
  .simp only[zB e,zj];refine Or.inr ⟨_,rfl,4,z,rfl,l,?_,λh=>(by cases h),g⟩;unfold gS;rw[zh];intro h;exact h _ (bp b) (by rw[<-j];exact e)
  .simp only[aC e,sW e];refine Or.inl ⟨(z.1,z.2.1,z.q.1,z.r.1,z.t.1,z.u.1,z.v.1,z.w.1,z.x.1++[Y z.q.1.2.1 (Z (zY z.q.1 y.2.1.r.1[i])) (Q zn)],z.y.1,z.z.1,z.s.1++[zY z.q.1 y.2.1.r.1[i]],z.p),⟨l,?_,?_,?_⟩,?_⟩;rotate_left 3
   .rw[zh sw,zf (by have:X z.s.1<=1000000:=c;simp;omega),zf trivial,zf (by have:X z.x.1<=1000000:=g;simp;omega)]
   .show fW z++[zY z.q.1 y.2.1.r.1[i]]=_;rw[B,j,bE b,ib];rfl
   .show io z++[Y z.q.1.2.1 (Z (zY z.q.1 y.2.1.r.1[i])) (Q zn)]=_;rw[o,j,bE b,ib];rfl
   .intro s d;rw[bE b,cZ]at d;rcases d with d|d
    .exact C s d
    .rw[ff]at d;rw[d,<-j];exact e
 .intro z n a A;obtain⟨n,rfl⟩:∃k,n=k+1:=⟨n-1,W⟩;rw[gB]at a;have c:(fW z).length=X y.2.1.r.1:=by rw[a.2.1,cW]
  rw[dc];simp only[uu,So,Mm,Q8,zM];have m:2+(fW z).length<=n:=by rw[c];omega
  refine zy3 y z a ?_ W n m;unfold gS;rw[zf a.r,a.2.1]
theorem Jb(y:zq bZ)(c:X y.2.1.r.1<=1000000):∃(e:Int)(z:zq eG),CJ y=M ((e,()),z)/\PX y z/\e=gS y.q.1 y.2.1.r.1/\(e=0->NmI y y.2.1.r.1 z)/\(io z).length<=1000000:=by
 obtain⟨r,h,e,z,rfl,b⟩:=nm3 y (y.1,y.2.1,y.q.1,y.r.1,y.t.1,y.u.1,y.v.1,y.w.1,[],y.x.1,y.y.1,[],y.z)
  ⟨⟨rfl,rfl,rfl,rfl,rfl,rfl,rfl,rfl,rfl,rfl,rfl⟩,rfl,rfl,sw⟩ c 100000000 W
 refine⟨e,z,?_,b⟩;unfold CJ kI bT;simp only[zm6,Q8];rw[h];exact dM (outs:=[zk]) (r:=L e) (a:=(e,())) (ps:=aF) z rfl
theorem ziH(y:zq bZ):Za y=y:=by grind[zo]
def pk(y:zq bZ)(z:zq aF):Prop:=z.1=y.1/\z.2.1=y.2.1/\z.q.1=y.q.1/\z.r.1=y.r.1/\z.t.1=y.t.1/\z.u.1=y.u.1/\z.v.1=y.v.1/\z.w.1=y.w.1
structure qq (z:zq aF) (cols:aV) (key:Int) (ix:List Int) (on:Int):Prop where
 cols:z.x.1=cols
 key:z.y.1=key
 ix:z.s.1=ix
 on:z.p.1=on
def dN(t:am)(n:List zK):aV:=n.map λs=>Y t.2.1 (Z (zY t s)) (Q zn)
def js(t:am)(n:List zK):List Int:=n.map (zY t)
def ui(t:am)(n:List zK):Int:=if gS t n=0 then(if LT.lt (α:=Int) (iC (js t n) t.q.1) 0 then 1 else 0)else gS t n
def qP(t:am)(n:List zK):Int:=if gS t n=0 then(ite (((dN t n).getD 1 (Q zn)).2.1=(1:Int)) 0 5)else gS t n
def uk(t:am)(n:List zK):aV:=
 [(((dN t n).getD 0 (Q zn)).1,((dN t n).getD 0 (Q zn)).2.1,O),(((dN t n).getD 1 (Q zn)).1,((dN t n).getD 1 (Q zn)).2.1,S)]
def gj(t u:am)(k w:zK):Int:=
 if LT.lt (α:=Int) (zY t k) 0 then 4 else if jX t.t.1 (zY t k,w)=O then(if LT.lt (α:=Int) 9 ((X t.2.1:Int)+(X u.2.1:Int))then 13 else 0)else 10
def xm(k:Int)(n:Nat):List Nat:=(List.range n).filter λj=>(j:Int)!=k
def nN(k:Int)(n:Nat):List Int:=(xm k n).map λ(j:Nat)=>(j:Int)
def iS(u:am)(n:Nat):aV:=(xm u.q.1 n).map λj=>Y u.2.1 j (Q zn)
theorem zmU(y:zq bZ):zeR y=ZD y y (lh y) (iC (lh y).p.1 (lh y).r.1.q.1):=by unfold zeR;rw[ziH]
theorem Z9(y:zq bZ)(A:X y.2.1.r.1<=1000):∃z:zq aF,KP y=M ((ui y.q.1 y.2.1.r.1,()),z)/\pk y z/\z.z.1=y.y.1/\
  (io z).length<=1000000/\(ui y.q.1 y.2.1.r.1=0->qq z (dN y.q.1 y.2.1.r.1) (iC (js y.q.1 y.2.1.r.1) y.q.1.q.1) (js y.q.1 y.2.1.r.1) y.z.1):=by
 have⟨e,z,m,x,l,n,b⟩:=Jb y W;have s:lh y=(e,z):=by unfold lh;rw[m];rfl
 have p:pP y=O:=by unfold pP;rw[m];rfl
 have d:pk y z:=⟨x.1,x.2.1,x.q.1,x.r.1,x.t.1,x.u.1,x.v.1,x.w.1⟩;have c:z.z.1=y.y.1:=x.y.1;unfold KP kI bT;rw[zmU];simp only[ZD,Q8,s,p,zj];by_cases g:e=0
 .have j:=n g;have i:ui y.q.1 y.2.1.r.1=if LT.lt (α:=Int) (iC (fW z) z.q.1.q.1) 0 then 1 else 0:=by
   unfold ui;rw[zf (l▸g),j.2.1,x.q.1];rfl
  simp only[g,fL,zC,zm];by_cases k:LT.lt (α:=Int) (iC (fW z) z.q.1.q.1) 0
  .rw[zf k]at i;simp only[zB k,zj,i];exact⟨_,dM (outs:=[zk]) (r:=L 1) (a:=(1,())) (ps:=aF) _ rfl,d,c,b,λh=>by cases h⟩
  .rw[zh k]at i;simp only[aC k,i];refine⟨_,dM (outs:=[zk]) (r:=L 0) (a:=(0,())) (ps:=aF) _ rfl,d,c,b,λ_=>⟨j.q.1,?_,j.2.1,by rw[x.z]⟩⟩;show iC (fW z) z.q.1.q.1=_;rw[j.2.1,x.q.1];rfl
 .have o:(e !=0)=O:=by simpa using g
  have i:ui y.q.1 y.2.1.r.1=e:=by
   unfold ui;rw[zh (l▸g),l]
  simp only[o,zj,i];exact⟨_,dM (outs:=[zk]) (r:=L e) (a:=(e,())) (ps:=aF) z rfl,d,c,b,λh=>zz h g⟩
theorem zmW(y:zq bZ):zeT y=(let a:=lh y
  let b:=a.y.1.getD (Z 1) (Q zn)
  let h:=a.y.1.getD (Z 0) (Q zn)
  let x:=a.y.1.set (Z 0) (h.1,h.2.1,O)
  let c:=x.getD (Z 1) (Q zn)
  ZE y y a b h x c):=by unfold zeT;rw[ziH]
theorem Ws(y:zq bZ)(hl:X y.2.1.r.1=2):∃z:zq aF,CI y=M ((qP y.q.1 y.2.1.r.1,()),z)/\pk y z/\z.z.1=y.y.1/\
  (io z).length<=1000000/\(qP y.q.1 y.2.1.r.1=0->qq z (uk y.q.1 y.2.1.r.1) y.x.1 (js y.q.1 y.2.1.r.1) y.z.1):=by
 have⟨e,z,h1,g,he,h2,n⟩:=Jb y W;have hn:lh y=(e,z):=by unfold lh;rw[h1];rfl
 have hc:pP y=O:=by unfold pP;rw[h1];rfl
 have m:pk y z:=⟨g.1,g.2.1,g.q.1,g.r.1,g.t.1,g.u.1,g.v.1,g.w.1⟩;have l:z.z.1=y.y.1:=g.y.1;have s:z.y.1=y.x.1:=g.x.1;have h4:z.p.1=y.z.1:=by rw[g.z]
 unfold CI kI bT;rw[zmW];simp only[ZE,hn];by_cases o:e=0
 .have hI:=h2 o;have A:(io z).length=2:=by rw[hI.q.1,cW];exact hl
  have d:io z=dN y.q.1 y.2.1.r.1:=hI.q.1;have h3:fW z=js y.q.1 y.2.1.r.1:=hI.2.1;have k:qP y.q.1 y.2.1.r.1=if((dN y.q.1 y.2.1.r.1).getD 1 (Q zn)).2.1=(1:Int)then 0 else 5:=by
   unfold qP;rw[zf (he▸o)]
  have⟨B,C,D,E,F,G,H,P,j,U⟩:=z;obtain⟨c,b,rfl⟩:∃c b,j=[c,b]:=by
   match j,A with
   |[c,b],_=>exact⟨c,b,rfl⟩
  have d:[c,b]=dN y.q.1 y.2.1.r.1:=d;unfold uk;rw[<-d]at k|-;simp only[Q8,hc,zj,o,fL,zC,zm];have e1:zL 1 (X [c,b])=O:=rfl;have e0:zL 0 (X [c,b])=O:=rfl;by_cases i:b.2.1=(1:Int)
  .rw[zf (show([c,b].getD 1 (Q zn)).2.1=(1:Int)from i)]at k;rw[k];refine⟨(B,C,D,E,F,G,H,P,[(c.1,c.2.1,O),(b.1,b.2.1,S)],U),?_,m,l,W,λ_=>⟨rfl,s,h3,h4⟩⟩;simp[i,Y,zL];exact dM (outs:=[zk]) (r:=L 0) (a:=(0,())) (ps:=aF) (B,C,D,E,F,G,H,P,[(c.1,c.2.1,O),(b.1,1,S)],U) rfl
  .rw[zh (show¬([c,b].getD 1 (Q zn)).2.1=(1:Int)from i)]at k;rw[k];refine⟨(B,C,D,E,F,G,H,P,[c,b],U),?_,m,l,by show X [c,b]<=_;simp,λh=>by cases h⟩;simp[i,Y];exact dM (outs:=[zk]) (r:=L 5) (a:=(5,())) (ps:=aF) (B,C,D,E,F,G,H,P,[c,b],U) rfl
 .have hb:(e !=0)=O:=by simpa using o
  have k:qP y.q.1 y.2.1.r.1=e:=by
   unfold qP;rw[zh (he▸o),he]
  simp only[Q8,hc,hb,zj,k];exact⟨z,dM (outs:=[zk]) (r:=L e) (a:=(e,())) (ps:=aF) z rfl,m,l,n,λh=>zz h o⟩
def JnI(y:zq bZ)(i:Nat)(z:zq eG):Prop:=pk y z/\z.z.1=y.y.1/\qq z (y.q.1.2.1++iS y.r.1 i) y.q.1.q.1 (nN y.r.1.q.1 i) (zY y.q.1 y.2.1.u.1)
theorem mv(k:Int)(n:Nat):(xm k n).length<=n:=by grind[xm]
theorem AK(k:Int)(n:Nat):xm k (n+1)=if((n:Int)!=k)=O then xm k n++[n]else xm k n:=by grind[xm,List.range_succ]
theorem zyI(y:zq bZ)(z:zq eG)(C:JnI y 0 z)(D:X y.q.1.2.1<=100)(E:X y.r.1.2.1<=100)(n:Nat)(l:1+X y.r.1.2.1<=n):
  ∃r,ej Sj n (.h11 y.r.1.2.1 (X y.r.1.2.1:Int) 0 z)=M r/\∃o:zq eG,r=(L 0,bc aF o)/\JnI y (X y.r.1.2.1) o:=by
 refine dO (t:=Sj) (β:=zq eG) (X y.r.1.2.1) (λz i=>.h11 y.r.1.2.1 (X y.r.1.2.1:Int) (i:Int) z) (λz i=>JnI y i z) _ 1 ?_ ?_ (X y.r.1.2.1) 0 z n rfl (aK _) C l
 .intro z i d j;have⟨e,c,a⟩:=j;have m:=mv y.r.1.q.1 i;have A:(io z).length<=2000:=by
   rw[show io z=_ from a.cols,g9,iS,cW];omega
  have B:(fW z).length<=2000:=by
   rw[show fW z=_ from a.ix,nN,cW];omega
  have g:z.r.1.q.1=y.r.1.q.1:=by rw[e.r.1]
  simp only[Sj,Mg,GL,Q8,zO d,zx d,zj,zW _ _ d];rw[zu i um];refine Or.inl ?_;have h:=AK y.r.1.q.1 i;split
  .rename_i b;rw[g]at b;rw[zf b]at h;refine⟨(z.1,z.2.1,z.q.1,z.r.1,z.t.1,z.u.1,z.v.1,z.w.1,z.x.1++[y.r.1.2.1[i]],z.y.1,z.z.1,z.s.1++[(i:Int)],z.p),⟨e,c,⟨?_,a.key,?_,a.on⟩⟩,?_⟩
   .grind[qq.cols,iS]
   .grind[qq.ix,nN]
   grind
  .rename_i b;rw[g]at b;rw[zh b]at h;refine⟨z,⟨e,c,⟨?_,a.key,?_,a.on⟩⟩,rfl⟩
   .rw[a.cols,iS,iS,h]
   .rw[a.ix,nN,nN,h]
 .intro z n j l;obtain⟨n,rfl⟩:∃k,n=k+1:=⟨n-1,W⟩;grind[dc,Sj,Mg,GL,Q8]
theorem zaa(y:zq bZ)(D:X y.q.1.2.1<=100)(E:X y.r.1.2.1<=100):∃z:zq aF,Fe y=M ((gj y.q.1 y.r.1 y.2.1.u.1 y.v.1,()),z)/\pk y z/\z.z.1=y.y.1/\
  (io z).length<=1000000/\(gj y.q.1 y.r.1 y.2.1.u.1 y.v.1=0->qq z (y.q.1.2.1++iS y.r.1 (X y.r.1.2.1)) y.q.1.q.1 (nN y.r.1.q.1 (X y.r.1.2.1)) (zY y.q.1 y.2.1.u.1)):=by
 have p:∀(a:aV)(b:Int)(c:zg)(d:List Int)(e:Int),pk y (y.1,y.2.1,y.q.1,y.r.1,y.t.1,y.u.1,y.v.1,y.w.1,a,b,c,d,e,()):=λ_ _ _ _ _=>⟨rfl,rfl,rfl,rfl,rfl,rfl,rfl,rfl⟩
 have A:Γ Δ (Γ Δ ((X y.q.1.2.1:Int)+(X y.r.1.2.1:Int))-1)=(X y.q.1.2.1:Int)+(X y.r.1.2.1:Int)-1:=by
  rw[mO ((X y.q.1.2.1:Int)+(X y.r.1.2.1:Int)) W W,mO _ W W]
 have o:∀e:Int,e≠0->(N6 y).val=M (.inr (L e,bc aF (y.1,y.2.1,y.q.1,y.r.1,y.t.1,y.u.1,y.v.1,y.w.1,[],y.x.1,y.y.1,[],zY y.q.1 y.2.1.u.1,())))->gj y.q.1 y.r.1 y.2.1.u.1 y.v.1=e->∃z:zq aF,Fe y=M ((gj y.q.1 y.r.1 y.2.1.u.1 y.v.1,()),z)/\pk y z/\z.z.1=y.y.1/\
  (io z).length<=1000000/\(gj y.q.1 y.r.1 y.2.1.u.1 y.v.1=0->qq z (y.q.1.2.1++iS y.r.1 (X y.r.1.2.1)) y.q.1.q.1 (nN y.r.1.q.1 (X y.r.1.2.1)) (zY y.q.1 y.2.1.u.1)):=by
  intro e C l k;rw[k];refine⟨_,zaO l (dM (outs:=[zk]) (r:=L e) (a:=(e,())) (ps:=aF) _ rfl),p _ _ _ _ _,rfl,by show([]:aV).length<=_;simp,λh=>zz h C⟩
 by_cases g:LT.lt (α:=Int) (zY y.q.1 y.2.1.u.1) 0
 .refine o 4 (by decide) ?_ (by unfold gj;rw[zf g]);grind[N6,N7,Q8,zo]
 by_cases i:jX y.q.1.t.1 (zY y.q.1 y.2.1.u.1,y.v.1)=O
 .by_cases n:LT.lt (α:=Int) 9 ((X y.q.1.2.1:Int)+(X y.r.1.2.1:Int))
  .refine o 13 (by decide) ?_ (by unfold gj;rw[zh g,zf i,zf n]);simp only[N6,N7,Q8,zo,aC g,i,A];grind
  .have k:gj y.q.1 y.r.1 y.2.1.u.1 y.v.1=0:=by unfold gj;rw[zh g,zf i,zh n]
   have l:(N6 y).val=M (.inl (.h11 y.r.1.2.1 (X y.r.1.2.1:Int) 0 (y.1,y.2.1,y.q.1,y.r.1,y.t.1,y.u.1,y.v.1,y.w.1,y.q.1.2.1,y.q.1.q.1,y.y.1,[],zY y.q.1 y.2.1.u.1,()))):=by
    simp only[N6,N7,Q8,zo,aC g,i,A];rw[zh sw,zh sw,zh sg,zf sg]
   obtain⟨r,B,m,rfl,j⟩:=zyI y (y.1,y.2.1,y.q.1,y.r.1,y.t.1,y.u.1,y.v.1,y.w.1,y.q.1.2.1,y.q.1.q.1,y.y.1,[],zY y.q.1 y.2.1.u.1,()) ⟨p _ _ _ _ _,rfl,⟨by simp[iS,xm],rfl,rfl,rfl⟩⟩ D E 100000000 W;rw[k];refine⟨m,?_,j.1,j.2.1,?_,λ_=>j.q⟩
   .unfold Fe kI bT;rw[l];show(ej Sj 100000000 _).bind _=_;rw[B];exact dM (outs:=[zk]) (r:=L 0) (a:=(0,())) (ps:=aF) m rfl
   .have s:=mv y.r.1.q.1 (X y.r.1.2.1);rw[show io m=_ from j.q.cols,g9,iS,cW];omega
 .refine o 10 (by decide) ?_ (by unfold gj;rw[zh g,zh i]);grind[N6,N7,Q8,zo]
end Cad
