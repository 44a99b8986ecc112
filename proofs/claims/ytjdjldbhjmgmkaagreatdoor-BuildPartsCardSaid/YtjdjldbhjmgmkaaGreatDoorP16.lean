/- slices. -/
import Derived.Test.YtjdjldbhjmgmkaaGreatDoorP14
import Derived.Test.YtjdjldbhjmgmkaaGreatDoorP15
namespace Cad
open Go Go.Proofs Go.Sort
open List renaming length->Io,length->X
open IntKind renaming wrap->Γ,i64->Δ
open Tr renaming val->Q8
open Bool renaming false->Q4,true->Q3,true->O,false->S
open Option renaming some->Q1,some->M
open Decidable renaming decide->T,decide->Q0
open Int renaming toNat->Z
open List renaming getD->Y
open Tr (chk br re)
open AV (nils agg tup ptr kb str sl)
open Cad renaming ow->W,zi->Q,Sem->J,ze->R,ai->L
set_option maxHeartbeats 4000000
theorem wF:∀a b:zJ,(Lib.compareBytes a b<0)↔Op.bytesLess a b=O
 |[],[]=>by simp[Lib.compareBytes,Op.bytesLess]
 |[],_::_=>by simp[Lib.compareBytes,Op.bytesLess]
 |_::_,[]=>by simp[Lib.compareBytes,Op.bytesLess]
 | a::r,b::s=>by
  unfold Lib.compareBytes Op.bytesLess;by_cases x:a<b
  .simp[x]
  .by_cases h:b<a
   .have:a≠b:=λe=>by rw[e]at h;exact zA h (UInt8.lt_irrefl b)
    simp[x,h,this]
   .have:a=b:=UInt8.le_antisymm (UInt8.not_lt.1 h) (UInt8.not_lt.1 x);subst this;simp[wF r s]
theorem H2:∀s:zJ,Op.bytesLess s s=S
 |[]=>rfl
 |a::r=>by simp[Op.bytesLess,H2 r]
theorem DS:∀{a b c:zJ},Op.bytesLess a b=O->Op.bytesLess b c=O->Op.bytesLess a c=O
 |_,[],_,h,_=>by cases‹zJ›<;>simp[Op.bytesLess]at h
 |_,_::_,[],_,h=>by simp[Op.bytesLess]at h
 |[],_::_,_::_,_,_=>rfl
 | a::x,b::y,c::z,h,g=>by
  simp only[Op.bytesLess,oB,aN,aY,bW]at h g|-;rcases h with h|⟨rfl,h⟩
  .rcases g with g|⟨rfl,g⟩
   .exact .inl (UInt8.lt_trans h g)
   .exact .inl h
  .rcases g with g|⟨rfl,g⟩
   .exact .inl g
   .exact .inr ⟨rfl,DS h g⟩
theorem DR:∀{a b:zJ},Op.bytesLess a b=S->a≠b->Op.bytesLess b a=O
 |[],[],_,h=>zA rfl h
 |[],_::_,h,_=>by simp[Op.bytesLess]at h
 |_::_,[],_,_=>rfl
 | a::x,b::y,h,hne=>by
  simp only[Op.bytesLess,Bool.or_eq_false_iff,ei,Bool.and_eq_false_iff]at h;simp only[Op.bytesLess,oB,aN,aY,bW];by_cases e:b=a
  .subst e;refine .inr ⟨rfl,DR (h.2.resolve_left sw) λe=>hne (by rw[e])⟩
  .exact .inl (Nat.lt_of_le_of_ne (UInt8.not_lt.1 h.1) λc=>e (UInt8.toNat_inj.1 c))
def gO:zS->zS
 |[a,b]=>if Op.bytesLess b.1.1 a.1.1=O then[b,a]else[a,b]
 |l=>l
theorem tY(a b:ae):gO [a,b]=if Op.bytesLess b.1.1 a.1.1=O then[b,a]else[a,b]:=rfl
def two(l:zS):Bool:=match l with
 |[_]=>O
 |[a,b]=>!((a.1.1:zJ)==b.1.1)
 |_=>S
theorem zbE{l g:zS}(h:two l=O)(c:List.Perm g l)(d:g.Pairwise λx y:ae=>¬Lib.compareBytes y.1.1 x.1.1<0):g=gO l:=by
 match l,h with
 |[a],_=>exact List.perm_singleton.1 c
 | [a,b],h=>
  have k:=c.length_eq;have i:(a.1.1:zJ)≠b.1.1:=by simpa[two]using h
  match g,k,c,d with
  |[x,y],_,c,d=>
  have d:¬Lib.compareBytes y.1.1 x.1.1<0:=by simpa using d
  rw[wF]at d;have m:x=a/\y=b\/x=b/\y=a:=by
   have e:x∈[a,b]:=c.mem_iff.1 sw;rcases bZ.1 e with rfl|e
   .have:=(List.perm_cons x).1 c;exact .inl ⟨rfl,by simpa using this⟩
   .have j:x=b:=by simpa using e
    subst j;have:=(List.perm_cons x).1 (c.trans (List.Perm.swap x a []));exact .inr ⟨rfl,by simpa using this⟩
  rw[tY];rcases m with⟨rfl,rfl⟩|⟨rfl,rfl⟩
  .rw[zh d]
  .rw[zf (DR (by simpa using d) i)]
def zjp:ag:=λa h _=>match a with
 | [.vec id,.clo (.func 82) [] [.ptr nb 0]]=>match h id,h nb with
  |.vec zvs l,.box [.clo (.func 78) [] []]=>.chk (two l) (.ok {val:=.tup [],wr:=[(id,.vec zl (gO l))]})
  |_,_=>.err
 |_=>.err
theorem zw8:Go.Proofs.Enters Tryz.prog 82:=by
  cases h:Tryz.f82.body with
  | none => have:Tryz.f82.body.isNone=false:=by kernel_rfl
            rw[h]at this;cases this
  |some c=>exact Go.Proofs.enters_of (fn:=Tryz.f82) kw kw h
theorem zlg:FK 138 zjp where
 fn:=⟨Tryz.f138,kw,kw,kw⟩
 calls:=λw U ρ hp n j0 x5 f fp b hr x2 j7 t h8 j4 j8=>by
  unfold zjp at b;split at b
  .rename_i id nb;split at b
   .rename_i l c i;simp only[Tr.val_chk,Tr.val_ok,bG]at b;obtain⟨H,rfl⟩:=b;have hl:=hr.len
    match x5,hl,hr with
    |[va,vc],_,hr=>
    have r0:=hr.rv 0 _ va rfl rfl;have r1:=hr.rv 1 _ vc rfl rfl;cases r0 with
    |vec _ _ i6 _=>
    cases r1 with
    |clo _ _ _ vf i9 b hc j9 A=>
    match vf,b,i9,hc,A with
    |[],_,[pv],_,A=>
    have r2:=A 0 _ pv rfl rfl;cases r2 with
    |ptr _ _ j h0=>
    have D:id∈fp:=h8 id (by simp[AV.idsL,AV.ids]);have x3:nb∈fp:=h8 nb (by simp[AV.idsL,AV.ids]);have ob:=t.ob nb x3;have x4:=t.ob id D;rw[i]at ob;rw[c]at x4;obtain⟨b',a,k,e1,i0,x9,x1,j3⟩:=ob;rw[h0]at e1;cases e1;have o:=x1.len;have h7:=x1.rv 0 _ (k.toList[0]'(by rw[<-o];simp)) rfl (af _);have s:w.cell? ⟨j,0,none⟩=M (.func (.func 78) #[] #[]):=by
     generalize hx:k.toList[0]'(by rw[<-o];simp)=x at h7;cases h7 with
     |clo _ _ _ vf vc b hc _ _=>
     match vf,b,vc,hc with
     |[],_,[],_=>
     rw[World.cell?,x9];have:k[0]?=M (Value.func (.func 78) #[] #[]):=by
      rw[<-rg,af (by rw[<-o];simp),hx]
     simpa using this
    have h5:=x2 j i0;have h9:l≠[]:=λe=>by rw[e]at H;cases H
    have j1:X l<=2:=by
     match l,H with
     |[_],_=>simp
     |[_,_],_=>simp
    refine⟨(zb0 (n:=n) (e:=zl) (G:=λ_=>True) (λx y:ae=>Lib.compareBytes x.1.1 y.1.1) (by decide) x2 c x4 i6 h9 (λ_ _=>trivial) ?_).mono ?_,by simp;exact D⟩
    .intro j2 B x8 d j6 hH P x0;have i1:j≠B:=λe=>by
      have:=t.inj id D nb x3 B (by rw[c];exact x0) (by rw[i];exact⟨rfl,_,h0,by simp[cd,e]⟩);subst this;rw[c]at i;cases i
     refine AnyQ.slices_SortFunc Tryz.sortRel 12 Tryz.isAgg38 Tryz.sizeOf38 (λp:Pl w U ρ zl (λ_=>True)=>p.1.1) (λp=>p.2.1) (λp=>p.2.2.1) (λp q=>Lib.compareBytes p.1.2.1.1 q.1.2.1.1) ?_ 82 #[.pointer (M ⟨j,0,none⟩)] B 0 x8 d w zw8 ?_ hH P W
     .refine⟨λx=>?_,λx y z h g=>?_,λx y z h g=>?_⟩
      .have:=H2 x.1.2.1.1;simp only[ltOf,ei,wF,this];simp
      .simp only[ltOf,aY,wF]at*;exact DS h g
      .simp only[ltOf,ei,wF]at*;intro C;by_cases e:(x.1.2.1.1:zJ)=y.1.2.1.1
       .rw[e]at C;exact g C
       .exact g (DS (DR (by simpa using h) e) C)
     .intro m os dk j5 x y;have nm:∀p:Pl w U ρ zl (λ_=>True),∃v1 v2 v3 v4 v5 v6 v7 v8 v9 E F,p.1.1=[.string ⟨(p.1.2.1.1:zJ).toArray⟩,v1,v2,v3,v4,v5,v6,v7,v8,v9,E,F]:=by
       rintro⟨⟨cs,q⟩,h1,H,h3,h4⟩;obtain⟨v,i4,i5⟩:=h3 0 (.str q.1.1) rfl;have h1:X cs=12:=h1
       match cs,h1 with
       |[a0,a1,a2,a3,a4,a5,a6,a7,a8,a9,x6,x7],_=>
       have:a0=v:=by simpa using i4
       subst this;cases i5;exact⟨a1,a2,a3,a4,a5,a6,a7,a8,a9,x6,x7,rfl⟩
      obtain⟨v1,v2,v3,v4,v5,v6,v7,v8,v9,E,F,ex⟩:=nm x;obtain⟨u1,u2,u3,u4,u5,u6,u7,u8,u9,i7,i8,ey⟩:=nm y;have u:(sortWorldK (λp:Pl w U ρ zl (λ_=>True)=>p.1.1) 12 w B 0 m dk os).heap[j]?=w.heap[j]?:=iR dk h5 i1
      have:=Tryz.cmp56 ⟨(x.1.2.1.1:zJ).toArray⟩ ⟨(y.1.2.1.1:zJ).toArray⟩ v1 v2 v3 v4 v5 v6 v7 v8 v9 E F u1 u2 u3 u4 u5 u6 u7 u8 u9 i7 i8 j (sortWorldK (λp:Pl w U ρ zl (λ_=>True)=>p.1.1) 12 w B 0 m dk os)
       (by rw[World.cell?_of_block u];exact s) (ia h5 (by unfold sortWorldK grow putRowK;simp[Sort.ahead]))
      show Calls Tryz.prog 82 (#[Value.agg x.1.1.toArray,Value.agg y.1.1.toArray]++#[Value.pointer (M ⟨j,0,none⟩)]) _ _;rw[ex,ey];exact this
    .rintro e' w' ⟨l',i2,i3,v',U',ρ',rfl,h6⟩;rw[zbE H i2 i3]at h6;exact⟨v',U',ρ',rfl,h6⟩
   .simp at b
  .simp at b
open Go
variable {b:Nat}
theorem Ni{n b1 b2 m:Nat}(h:b<128):Lib.decodeN n b b1 b2 m=(b,1):=by unfold Lib.decodeN;rw[zf h]
theorem Kf{n b1 b2 b3:Nat}(h:¬b<128):128<=(Lib.decodeN n b b1 b2 b3).1:=by
 unfold Lib.decodeN;rw[zh h];repeat' split
 all_goals(simp only;omega)
theorem OA{p:Nat->Bool}(j:∀c:Nat,p c=O↔(c<32\/c>126))(s:List UInt8):∀(f x:Nat),X s<=x+f->(Lib.idxFuncFrom p O ⟨s.toArray⟩ f x<0↔∀(i:Nat)(h:i<X s),x<=i->32<=s[i].toNat/\s[i].toNat<=126)
 | 0,x,h=>by
  simp only[Lib.idxFuncFrom];exact⟨λ_ i b d=>zA b (by omega),λ_=>by decide⟩
 | f + 1,x,h=>by
  have k:(⟨s.toArray⟩:ByteArray).size=X s:=by simp[ByteArray.size]
  rw[Lib.idxFuncFrom,k];by_cases a:x<X s
  .have m:((⟨s.toArray⟩:ByteArray).get! x)=s[x]:=by
    simp[ByteArray.get!,a]
   rw[zf a,Lib.decode_at,m];by_cases l:s[x].toNat<128
   .rw[Ni l];simp only;by_cases g:p s[x].toNat=O
    .rw[zf g];have:=(j _).1 g;exact⟨λh=>zA h (by omega),λh=>by have:=h x a (zM _);omega⟩
    .rw[zh g,OA j s f (x+1) (by omega)];have q:¬(s[x].toNat<32\/s[x].toNat>126):=λh=>g ((j _).2 h)
     refine⟨λh i b d=>?_,λh i b d=>h i b (by omega)⟩;by_cases e:i=x
     .subst e;omega
     .exact h i b (by omega)
   .have o:=Kf (n:=(⟨s.toArray⟩:ByteArray).size-x) (b1:=((⟨s.toArray⟩:ByteArray).get! (x+1)).toNat) (b2:=((⟨s.toArray⟩:ByteArray).get! (x+2)).toNat) (b3:=((⟨s.toArray⟩:ByteArray).get! (x+3)).toNat) l;rw[zf ((j _).2 (by omega))];exact⟨λh=>zA h (by omega),λh=>by have:=h x a (zM _);omega⟩
  .rw[zh a];exact⟨λ_ i b d=>zA b (by omega),λ_=>by decide⟩
theorem zae{p:Nat->Bool}(d:∀c:Nat,p c=O↔(c<32\/c>126))(s:List UInt8):Lib.idxFunc p O ⟨s.toArray⟩<0↔∀b∈s,32<=b.toNat/\b.toNat<=126:=by
 have e:(⟨s.toArray⟩:ByteArray).size=X s:=by simp[ByteArray.size]
 unfold Lib.idxFunc;rw[OA d s _ 0 (by omega)];constructor
 .intro h b a;obtain⟨i,x,rfl⟩:=fO a;exact h i x (aG _)
 .intro h i x _;exact h _ (bC x)
open Go Go.Proofs
variable {g:Bool}
theorem gi{h:Bool}(x:g=O)(a:h=O):(ite (g=O) h S)=O:=by rw[zf x];exact a
variable {i:Nat}
theorem fm(h:i<=b):T (i<=b)=O:=zB h
variable {v:zq}
theorem JN(h:be v=O)(b:(v.1==2)=O):X v.2.2<=40:=by
 have e:v.1=2:=by simpa using b
 unfold be at h;rw[e]at h;simp only[show((2:Int)==0)=S from rfl,show((2:Int)==1)=S from rfl,show((2:Int)==2)=O from rfl,zD,zm,zj]at h;cases x:v.2.1==0
 .rw[x]at h;simp at h
 .rw[x]at h;cases a:T ((X v.2.2:Int)<=40)
  .rw[a]at h;simp at h
  .have:=lp a;omega
theorem PK(v:zq):Bb v=O:=by
 unfold Bb;split
 .rfl
 .rename_i h;have h:be v=O:=by simpa using h
  split
  .rfl
  .split
   .rename_i x;have c:=JN h x;have a:=mK v.2.2 [39] pz;have b:(Lib.replaceAll v.2.2 [39] pz).length<=200:=by
     simp only[fE,qA]at a;omega
    refine gi ?_ (gi (fm ?_) (gi (fm ?_) rfl))
    .unfold xQ;simp;omega
    .simp;omega
    .simp;omega
   .rfl
theorem Bc(v:zq):(jd v).length<=300:=by
 unfold jd;split
 .simp
 .rename_i h;have h:be v=O:=by simpa using h
  split
  .have:=I1 v.2.1;omega
  .split
   next x=>have b:=JN h x;have a:=mK v.2.2 [39] pz;simp only[fE,qA]at a;simp;omega
   .split
    .split<;>simp
    .simp
variable {x:zJ}
theorem JS(h:eU x=O):X x<=16:=by
 have h:sF x=O:=h;unfold sF at h;by_cases b:(X x:Int)<=16
 .omega
 .exfalso;rw[aB b]at h;cases a:T ((X x:Int)>=1)<;>rw[a]at h<;>simp at h
variable {c:Int}
theorem Z5{g:zg->Int->Int->Bool×Int}{e:zg}{n:Int}(h:(Cj g e c n).1=O)(b:e.op=fk):X e.s<=16:=by
 unfold Cj at h;split at h
 .cases h
 .split at h
  next x=>rw[b]at x;simp at x
  .split at h
   .cases x:bE e.v
    .rw[x]at h;simp at h
    .rw[x]at h;cases a:eU e.s
     .rw[a]at h;simp at h
     .exact JS a
   next x=>rw[b]at x;simp at x
theorem Ms(s:zJ):(Lib.toUpperA s).length=X s:=by simp[Lib.toUpperA]
theorem D3:∀(a:Nat)(e:zg)(d n:Int),a<=16->(jh a e d n).1=O->iH a e=O/\(bj a e).length<=400*2^a-100
 |0,_,_,_,_,h=>by cases h
 | a + 1,e,d,n,hN,h=>by
  rw[jh]at h;obtain⟨t,q⟩:=AG h;have hp:2^a<=2^15:=HR W W;have B:1<=2^a:=Nat.one_le_two_pow;have C:2^(a+1)=2*2^a:=by rw[pt];omega
  have g:∀x∈e.l,iH a x=O/\(bj a x).length<=400*2^a-100:=by
   intro x w;rcases q with q|q
   .exfalso;have:dU e.op=0:=by
     rcases q with q|q<;>rw[q]<;>decide
    rw[this]at t;have:e.l=[]:=DB W;rw[this]at w;simp at w
   .obtain⟨m,z⟩:=xi e.l _ q x w;exact D3 a x _ _ W z
  have o:∀i,i<e.l.length->e.l.getD i (Q Sh.expr)∈e.l:=by
   intro i y;rw[bz,af y];exact bC y
  rw[iH,bj];unfold CA vw;rcases nz e.op with⟨k,c|c⟩|⟨k,c|c⟩|⟨k,c⟩|k
  .rw[c];simp only[beq_self_eq_true,zj];refine⟨gi (PK _) rfl,?_⟩;have:=Bc e.v;omega
  .have hs:=Z5 h c;rw[c];refine⟨rfl,?_⟩;show X e.s<=_;omega
  .rw[k]at t;have j:e.l.length=1:=by omega
   obtain⟨u,p⟩:=g _ (o 0 W);rw[c];refine⟨gi ?_ (gi u (gi (fm ?_) (gi (fm ?_) rfl))),?_⟩
   .simp[zL,j]
   .simp at p|-;omega
   .simp at p|-;omega
   .show(wy++bj a (e.l.getD 0 (Q Sh.expr))++[41]).length<=_;simp at p|-;omega
  .rw[k]at t;have j:e.l.length=1:=by omega
   obtain⟨u,p⟩:=g _ (o 0 W);rw[c];refine⟨gi ?_ (gi u (gi (fm ?_) (gi (fm ?_) rfl))),?_⟩
   .simp[zL,j]
   .simp at p|-;omega
   .simp at p|-;omega
   .show([40]++bj a (e.l.getD 0 (Q Sh.expr))++DN).length<=_;simp at p|-;omega
  .rw[k]at t;have j:e.l.length=2:=by omega
   obtain⟨u,p⟩:=g _ (o 0 W);obtain⟨F,G⟩:=g _ (o 1 W);have D:(T (e.op.length<=140737488355328)&&e.op.all λb=>T (b.toNat<128))=O:=by
    rcases c with c|c|c|c|c|c<;>rw[c]<;>decide
   have A:e.op.length<=3:=by
    rcases c with c|c|c|c|c|c<;>rw[c]<;>simp
   have E:=Ms e.op;have H:(e.op==pC)=S:=by rcases c with c|c|c|c|c|c<;>rw[c]<;>rfl
   have P:(e.op==fk)=S:=by rcases c with c|c|c|c|c|c<;>rw[c]<;>rfl
   have U:(e.op==oC)=S:=by rcases c with c|c|c|c|c|c<;>rw[c]<;>rfl
   have n4:(e.op==qE)=S:=by rcases c with c|c|c|c|c|c<;>rw[c]<;>rfl
   simp only[H,P,U,n4,zD,zm];refine⟨gi ?_ (gi u (gi (fm ?_) (gi (fm ?_) (gi D (gi (fm ?_) (gi (fm ?_) (gi ?_ (gi F (gi (fm ?_) (gi (fm ?_) rfl)))))))))),?_⟩
   .simp[zL,j]
   all_goals first
    |(simp[zL,j];done)
    |(simp at p G|-;omega)
  .rw[k]at t;omega
theorem KA(e:zg):sT e=O:=by
 unfold sT;split
 .rfl
 next h=>exact gi (D3 16 e 1 0 W (by simpa[ea]using h)).1 rfl
theorem QX(e:zg):(pL e).1.length<=30000000:=by
 unfold pL;split
 .simp
 next h=>have:=(D3 16 e 1 0 W (by simpa[ea]using h)).2;show(bj 16 e).length<=_;omega
theorem CH(p:Int->Bool):∀s:zJ,dR p s<=X s
 |[]=>by simp[dR]
 | c::r=>by
  have:=CH p r;rw[dR];split<;>simp<;>omega
theorem tS(f m:Int->Bool)(s:zJ):bH f m s<=X s:=by
 cases s with
 |nil=>simp[bH]
 | cons c r=>
  have:=CH m r;rw[bH];split<;>simp<;>omega
theorem zb2(i:Nat)(h:i<=4000000000):Γ Δ (i:Int)=(i:Int):=by
 have:=zu (i-1) um;cases i with
 |zero=>rfl
 |succ i=>simpa using this
theorem sH(i:Nat)(h:i<=4000000000):Γ Δ ((i:Int)+1)=((i+1:Nat):Int):=zu i um
theorem ql:∀(n:Nat)(s:zJ)(i:Nat)(a:Int)(b:zJ),1<=i->i<=X s->X s+2<=n+i->X s<=1000000000->ke n s (i:Int) a b=O
 |0,s,i,a,b,e,g,j,c=>by omega
 | n + 1,s,i,a,b,e,g,j,c=>by
  rw[ke];split
  .rename_i h;have h:i<X s:=by have:=lp h;omega
   refine gi (zx h) ?_;rw[sH i W];split
   .exact ql n s (i+1) a b W W W c
   .refine gi ?_ ?_
    .cases x:T (((i+1:Nat):Int)<(X s:Int))
     .rfl
     .exact zx (by have:=lp x;omega)
    .split
     .rename_i d;have k:i+1<X s:=by
       cases x:T (((i+1:Nat):Int)<(X s:Int))
       .rw[x]at d;simp at d
       .have:=lp x;omega
      rw[sH (i+1) W];exact ql n s (i+1+1) a b W W W c
     .refine gi ?_ (gi ?_ rfl)
      .simp;omega
      .unfold xQ;simp;omega
  .rfl
theorem vX:∀(n:Nat)(s:zJ)(i:Nat)(a:Int)(b:zJ),1<=i->i<=X s->X s+2<=n+i->X s<=1000000000->
  (fR n s (i:Int) a b=((0,[]),0))\/∃k:Nat,(fR n s (i:Int) a b).2=(k:Int)/\1<=k/\k<=X s
 |0,s,i,a,b,e,g,j,x=>by omega
 | n + 1,s,i,a,b,e,g,j,x=>by
  rw[fR];split
  .rename_i h;have h:i<X s:=by have:=lp h;omega
   rw[sH i W];split
   .exact vX n s (i+1) a b W W W x
   .split
    .rename_i d;have l:i+1<X s:=by
      cases c:T (((i+1:Nat):Int)<(X s:Int))
      .rw[c]at d;simp at d
      .have:=lp c;omega
     rw[sH (i+1) W];exact vX n s (i+1+1) a b W W W x
    .exact .inr ⟨i+1,rfl,W,W⟩
  .exact .inl rfl
theorem Mt(t:dB):tZ t=O:=by
 unfold tZ;split
 .rfl
 .split
  .refine gi ?_ rfl;cases h:((X t.2:Int)==1)
   .rfl
   .have:(X t.2:Int)=1:=by simpa using h
    simp only[aI,bW];omega
  .simp
theorem GU(s:zJ)(c:s≠[])(e:X s<=1000000000):lZ s=O:=by
 have x:1<=X s:=by cases s with|nil=>exact zA rfl c|cons _ _=>simp
 have j:=tS bm cw s;have k:=tS aC aC s;have i:qk s=O:=ql (X s+1) s 1 _ _ W x W e;have g:zL 0 (X s)=O:=zx x;have d:(T ((0:Int)<=0)&&T (0<=(bH bm cw s:Int))&&T ((bH bm cw s:Int)<=(X s:Int)))=O:=by simp;omega
 have a:(T ((0:Int)<=0)&&T (0<=(bH aC aC s:Int))&&T ((bH aC aC s:Int)<=(X s:Int)))=O:=by simp;omega
 have b:(T ((0:Int)<=0)&&T ((0:Int)<=1)&&T (1<=(X s:Int)))=O:=by simp;omega
 unfold lZ;simp only[i,g,zj,zD,zm];repeat' split
 all_goals first
  |rfl
  |(rename_i h;exfalso;apply h;simp;omega)
theorem yu(s:zJ)(g:s≠[])(i:X s<=1000000000)(x:dJ (ch s).1=O):∃k:Nat,(ch s).2=(k:Int)/\1<=k/\k<=X s:=by
 have m:1<=X s:=by cases s with|nil=>exact zA rfl g|cons _ _=>simp
 have n:=tS bm cw s;have o:=tS aC aC s;have d:=vX (X s+1) s 1 0 [] W m W i;unfold ch at x|-;simp only[zj,zD,zm]at x|-;split
 next h=>have:=lp h;exact⟨_,rfl,W,W⟩
 .rename_i h;rw[zh h]at x;split
  next a=>have:=lp a;exact⟨_,rfl,W,W⟩
  .rename_i a;rw[zh a]at x;split
   .rename_i j;rw[zf j]at x;rcases d with d|⟨k,l,b,c⟩
    .exfalso;have e:iT s=((0,[]),0):=d;rw[e]at x;revert x;decide
    .exact⟨k,l,b,c⟩
   .exact⟨1,rfl,W,W⟩
theorem yJ:∀(n:Nat)(s:zJ)(i:Nat)(l:dK),i<=Io s->Io s+1<=n+i->Io s<=1000000000->Io l<=400->vq n s (i:Int) l=true
 |0,s,i,l,o,p,d,g=>by omega
 | n + 1,s,i,l,o,p,d,g=>by
  rw[vq];split
  .rename_i x;have x:i<X s:=by have:=lp x;omega
   have m:List.take ((X s:Int).toNat-(i:Int).toNat) (List.drop (i:Int).toNat s)=s.drop i:=by
    simp only[aH];exact MY sw
   rw[m];refine gi ?_ ?_
   .rw[zx x];cases(((s.getD (i:Int).toNat 0).toNat:Int)==32)<;>rfl
   .split
    .rw[sH i W];exact yJ n s (i+1) l W W d g
    .have b:s.drop i≠[]:=by
      intro h;have:=congrArg X h;simp at this;omega
     have a:(s.drop i).length<=1000000000:=by simp;omega
     refine gi ?_ (gi (GU _ b a) (gi (Mt _) ?_))
     .simp;omega
     .split
      .rfl
      .rename_i c;have j:dJ (ch (s.drop i)).1=O:=by
        cases y:dJ (ch (s.drop i)).1
        .rw[y]at c;simp at c
        .rfl
       have w:X l≠400:=by
        intro q;rw[j,q]at c;simp at c
       have⟨k,t,u,e⟩:=yu _ b a j;have v:k<=X s-i:=by simpa using e
       refine gi (fm ?_) ?_
       .simp;omega
       .rw[t,show((i:Int)+(k:Int))=((i+k:Nat):Int) by omega,zb2 (i+k) W];exact yJ n s (i+k) _ W W d sg
  .rfl
theorem Ya(s:zJ)(h:X s<=1000000000):X9 s=O:=yJ (X s+1) s 0 [] W W h sw
structure nN (s:zO):Prop where
 op:X s.1<=1000
 table:X s.2.1<=1000
 other:X s.q.1<=1000
 names:X s.r.1<=20/\∀x∈s.r.1,X x<=1000
 cols:X s.t.1<=20/\∀x∈s.t.1,X x.1<=1000
 key:X s.u.1<=1000
 uniques:X s.v.1<=20/\∀x∈s.v.1,X x<=1000
 refs:X s.w.1<=20/\∀x∈s.w.1,X x.1<=1000/\X x.2<=1000
 row:X s.y.1<=20
 sets:X s.z.1<=20/\∀x∈s.z.1,X x.1<=1000
 role:X s.p<=1000
theorem xe(s:zJ)(B:Nat):∀l:List zJ,(∀x∈l,X x<=B)->(Lib.join l s).length<=X l*(B+X s)
 |[],_=>by simp[Lib.join,List.intercalate]
 | [x],h=>by
  rw[Lib.join_one];have:=h x sw;simp;omega
 | x::y::r,h=>by
  have i:=xe s B (y::r) (λz a=>h z (nc _ a));have b:=h x sw;have e:Lib.join (x::y::r) s=x++s++Lib.join (y::r) s:=by simp[Lib.join,List.intercalate,List.intersperse]
  rw[e];simp only[jK,fE]at i|-;rw[jP];omega
theorem rM{α:Type}(p:α->Bool):∀(l:List α)(i:Nat),(!Q0 (ah p l i>=0))=O->∀x∈l,p x=S
 |[],_,_,x,a=>by simp at a
 | y::r,i,h,x,a=>by
  rw[ah]at h;cases b:p y
  .rw[b]at h;rcases bZ.1 a with rfl|a
   .exact b
   .exact rM p r (i+1) (by simpa using h) x a
  .exfalso;rw[b]at h;simp at h
   try omega
theorem HC(e:zg):sI e=O:=gi (KA e) rfl
theorem B7(e:zg):(jG e).length<=30000000:=QX e
theorem pD(s:zJ)(h:X s<=10)(e:zg):wC s e=O:=by
 unfold wC;have:=B7 e;split
 .rfl
 .refine gi (fm ?_) (gi (HC e) (gi (fm ?_) (gi (fm ?_) rfl)))
  all_goals(simp;omega)
theorem vo(s:zJ)(h:X s<=10)(e:zg):(mj s e).length<=30000030:=by
 unfold mj;have:=B7 e;split
 .simp
 .simp;omega
theorem su:∀(l:List (J Sh.str))(i:Int)(a:List zJ),eB l i a=Lib.join (a++l.map nG) fP
 |[],i,a=>by simp[eB]
 |x::r,i,a=>by rw[eB,su r];simp
theorem Ma(B:Nat)(l:List (J Sh.str))(h:∀x∈l,(nG x).length<=B):(iE l).length<=X l*(B+3):=by
 unfold iE;rw[su];have:=xe fP B ([]++l.map nG) (λy a=>by
  simp only[HU,bn]at a;obtain⟨x,b,rfl⟩:=a;exact h x b)
 simpa using this
theorem yg(B:Nat)(g:B<=100000000):∀(l:List (J Sh.str))(i:Int)(a:List zJ),(∀x∈l,(nG x).length<=B)->(∀x∈a,X x<=B)->X a+X l<=40->eR l i a=O
 | [],i,a,_,d,c=>by
  rw[eR];refine gi ?_ rfl;have e:=xe fP B a d;have k:X a*(B+3)<=40*100000003:=HX (by simpa using c) W
  replace e:(Lib.join a fP).length<=X a*(B+3):=e
  simp only[aN,aY];simp at c;exact⟨W,W⟩
 | x::r,i,a,h,d,c=>by
  rw[eR];have j:=h x sw;simp at c;refine gi (fm ?_) ?_
  .simp;omega
  .refine yg B g r (i+1) _ (λy b=>h y (nc _ b)) (λy b=>?_) sg;rcases cX.1 b with b|b
   .exact d y b
   .simp at b;subst b;exact j
variable {s:zO}
theorem fz{b:Bool}(h:(w6 s).val=if g=O then M (.inr (.bool b,[]))else none):xX s=g/\iv s=(g&&b):=by unfold xX iv Dj ap bV;rw[h];cases g<;>cases b<;>exact⟨rfl,rfl⟩
theorem zff(o:x=dI):(x==Qm)=S/\(x==bl1)=S/\(x==bl3)=S/\(x==M8)=S/\(x==bl0)=S/\(x==Ka)=S/\(x==bl9)=S/\(x==P9)=S/\(x==P7)=S/\(x==P8)=S/\(x==dI)=O:=by rw[o];exact⟨rfl,rfl,rfl,rfl,rfl,rfl,rfl,rfl,rfl,rfl,rfl⟩
theorem zfg(o:x=ic):(x==Qm)=S/\(x==bl1)=S/\(x==bl3)=S/\(x==M8)=S/\(x==bl0)=S/\(x==Ka)=S/\(x==bl9)=S/\(x==P9)=S/\(x==P7)=S/\(x==P8)=S/\(x==dI)=S/\(x==ic)=O:=by rw[o];exact⟨rfl,rfl,rfl,rfl,rfl,rfl,rfl,rfl,rfl,rfl,rfl,rfl⟩
theorem zaC(o:x=qD):(x==Qm)=S/\(x==bl1)=S/\(x==bl3)=S/\(x==M8)=S/\(x==bl0)=S/\(x==Ka)=S/\(x==bl9)=S/\(x==P9)=S/\(x==P7)=S/\(x==P8)=S/\(x==dI)=S/\(x==ic)=S/\(x==qD)=O:=by rw[o];exact⟨rfl,rfl,rfl,rfl,rfl,rfl,rfl,rfl,rfl,rfl,rfl,rfl,rfl⟩
abbrev lu(o:zJ):Prop:=o=dI\/o=ic\/o=qD
theorem g7(h:X s.2.1<=1000)(x:X s.2.2.1<=1000)(a:X s.2.2.2.2.2.1<=1000)(b:X s.2.2.2.2.2.2.2.2.2.2.2.2<=1000):gu s=O:=by
 unfold gu;refine gi (fm ?_) (gi (fm ?_) (gi (fm ?_) rfl))
 all_goals first|omega|(simp;omega)
theorem DM{c:Bool}(h:g=O):(cond c g O)=O:=by cases c<;>simp[h]
def tC(s:zO):zJ:=XX++Vi++[32]++s.2.1++mi++s.q.1++Cb++iE s.r.1++jm++mj [32] s.x.1
def tJ(s:zO):zJ:=XX++Vk++[32]++s.2.1++mi++s.q.1++fP++s.p++Cc++s.u.1++mj [32] s.x.1
def tG(s:zO):zJ:=XX++Vj++[32]++s.2.1++mi++s.q.1++Vg++s.r.1.getD 0 []++Vh++s.r.1.getD 1 []++mj [32] s.x.1
theorem zjg(h:nN s)(o:s.1=dI):(BK s).val=M (.inr (.str (tC s),[]))/\(tC s).length<=1000000000:=by
 have⟨j,k,l,m,n,q,t,u,v,w,p⟩:=zff o;have e:Lib.toUpperA s.1=Vi:=by rw[o];rfl
 have g:(T (X s.1<=140737488355328)&&List.all s.1 λb=>T (b.toNat<128))=O:=by rw[o];decide
 have B:=h.table;have z:=h.other;have A:=h.role;have y:=h.key;have c:=pD [32] sw s.x.1;have i:=vo [32] sw s.x.1;have d:pj s.r.1=O:=yg 1000 W s.r.1 0 [] h.names.2 sw (by have:=h.names.1;simp;omega);have a:=Ma 1000 s.r.1 h.names.2;have a:(iE s.r.1).length<=20*1003:=bc a (HX h.names.1 W);refine⟨?_,by unfold tC;simp only[jK,fE,qA];omega⟩;unfold tC;simp only[BK,Q8,zo,g,e,j,k,l,m,n,q,t,u,v,w,p,d,c,zj,zD,zm]
 iterate 9 rw[zf (zB (by simp<;>omega))]
theorem zji(h:nN s)(o:s.1=ic):(BK s).val=M (.inr (.str (tJ s),[]))/\(tJ s).length<=1000000000:=by
 have⟨i,j,k,l,m,n,q,t,u,v,p,c⟩:=zfg o;have d:Lib.toUpperA s.1=Vk:=by rw[o];rfl
 have e:(T (X s.1<=140737488355328)&&List.all s.1 λb=>T (b.toNat<128))=O:=by rw[o];decide
 have A:=h.table;have y:=h.other;have z:=h.role;have w:=h.key;have a:=pD [32] sw s.x.1;have g:=vo [32] sw s.x.1;refine⟨?_,by unfold tJ;simp only[jK,fE,qA];omega⟩;unfold tJ;simp only[BK,Q8,zo,e,d,i,j,k,l,m,n,q,t,u,v,p,c,a,zj,zD,zm]
 iterate 10 rw[zf (zB (by simp<;>omega))]
theorem zjh(h:nN s)(o:s.1=qD)(d:X s.r.1=2):(BK s).val=M (.inr (.str (tG s),[]))/\(tG s).length<=1000000000:=by
 have⟨q,t,u,v,w,y,z,A,B,C,p,c,_⟩:=zaC o;have i:Lib.toUpperA s.1=Vj:=by rw[o];rfl
 have j:(T (X s.1<=140737488355328)&&List.all s.1 λb=>T (b.toNat<128))=O:=by rw[o];decide
 have P:=h.table;have G:=h.other;have H:=h.role;have F:=h.key;have a:=pD [32] sw s.x.1;have k:=vo [32] sw s.x.1;have n0:(s.r.1.getD 0 []).length<=1000:=by
  rw[bz,af W,bI];exact h.names.2 _ (bC _)
 have n:(s.r.1.getD 1 []).length<=1000:=by
  rw[bz,af W,bI];exact h.names.2 _ (bC _)
 have l:zL 0 (X s.r.1)=O:=by rw[d];rfl
 have m:zL 1 (X s.r.1)=O:=by rw[d];rfl
 have g:Y s.r.1 (Z 0) (Q Sh.str)=s.r.1.getD 0 []:=rfl;have e:Y s.r.1 (Z 1) (Q Sh.str)=s.r.1.getD 1 []:=rfl;refine⟨?_,by unfold tG;simp only[jK,fE,qA];omega⟩;unfold tG;simp only[BK,Q8,zo,j,i,q,t,u,v,w,y,z,A,B,C,p,c,g,e,l,m,a,zj,zD,zm];generalize s.r.1.getD 0 []=D at n0;generalize s.r.1.getD 1 []=E at n
 iterate 10 rw[zf (zB (by simp<;>omega))]
theorem jD(h:(BK s).val=M (.inr (.str x,[]))/\X x<=1000000000):Gw s=O/\nH s=x:=by unfold Gw nH L2 ap bV;rw[h.1];exact⟨rfl,rfl⟩
theorem L1(q:nN s)(y:lu s.1):xX s=O:=by
 have u:=q.other;have v:=q.key;have w:=q.role;rcases y with o|o|o
 .obtain⟨a,c,d,e,i,j,k,l,m,n,p⟩:=zff o;obtain⟨x,_⟩:=fz (s:=s) (g:=_) (b:=_) (by simp only[w6,Q8,a,c,d,e,i,j,k,l,m,n,p,zj,zm,zD,zo];exact rfl);rw[x];exact DM (g7 (by simp) (by first|exact u|simp) (by first|exact v|simp) (by first|exact w|simp))
 .obtain⟨a,c,d,e,i,j,k,l,m,n,p,h⟩:=zfg o;obtain⟨x,_⟩:=fz (s:=s) (g:=_) (b:=_) (by simp only[w6,Q8,a,c,d,e,i,j,k,l,m,n,p,h,zj,zm,zD,zo];exact rfl);rw[x];exact DM (g7 (by simp) (by first|exact u|simp) (by first|exact v|simp) (by first|exact w|simp))
 .obtain⟨a,c,d,e,i,j,k,l,m,n,p,h,t⟩:=zaC o;obtain⟨x,_⟩:=fz (s:=s) (g:=_) (b:=_) (by simp only[w6,Q8,a,c,d,e,i,j,k,l,m,n,p,h,t,zj,zm,zD,zo];exact rfl);rw[x];exact DM (g7 (by simp) (by first|exact u|simp) (by first|exact v|simp) (by first|exact w|simp))
theorem kG(h:iv s=O)(o:s.1=qD):X s.r.1=2:=by
 obtain⟨k,l,m,n,t,u,v,w,y,z,p,a,c⟩:=zaC o;obtain⟨_,j⟩:=fz (s:=s) (g:=_) (b:=_) (by simp only[w6,Q8,k,l,m,n,t,u,v,w,y,z,p,a,c,zj,zm,zD,zo];exact rfl);rw[j]at h;by_cases d:X s.r.1=2
 .exact d
 .exfalso;have i:(cond (T ((X s.r.1:Int)<2)) O (T ((X s.r.1:Int)>2)))=O:=by
   rcases Nat.lt_or_gt_of_ne d with x|x
   .have:T ((X s.r.1:Int)<2)=O:=zB W;rw[this];rfl
   .have:T ((X s.r.1:Int)>2)=O:=zB W;rw[this];cases T ((X s.r.1:Int)<2)<;>rfl
  rw[i]at h;cases e:dH s.2.1<;>cases x:dH s.q.1<;>rw[e,x]at h<;>simp at h
theorem PE(x:nN s)(a:lu s.1):qr s=O:=by
 unfold qr;refine gi ?_ rfl;unfold yf;refine gi (L1 x a) ?_;split
 .rfl
 .rename_i h;have b:iv s=O:=by simpa using h
  have:Gw s=O/\(nH s).length<=1000000000:=by
   rcases a with o|o|o
   .have:=zjg x o;exact⟨(jD this).1,(jD this).2▸this.2⟩
   .have:=zji x o;exact⟨(jD this).1,(jD this).2▸this.2⟩
   .have:=zjh x o (kG b o);exact⟨(jD this).1,(jD this).2▸this.2⟩
  exact gi this.1 (gi (Ya _ this.2) rfl)
theorem GY:∀(e:List ((Int×Int×zJ)×Int))(n:Nat)(x:Int),(ln e n x).length=X e
 |[],_,_=>rfl
 |_::_,0,_=>rfl
 |_::r,n+1,x=>by simp[ln,GY r n x]
theorem zb1(e:List ((Int×Int×zJ)×Int))(k:Int×Int×zJ):(kR e k).length<=X e+1:=by unfold kR;cases qv e k<;>simp
theorem JQ:∀(e:List ((Int×Int×zJ)×Int))(k:Int×Int×zJ),(qv e k=O->mS e k<X e)/\mS e k<=X e
 |[],k=>⟨λh=>by simp[qv]at h,zM _⟩
 | p::r,k=>by
  have⟨x,b⟩:=JQ r k;constructor
  .intro h;rw[mS];cases a:(k==p.1)with
   |true=>simp
   | false=>
    have:qv r k=O:=by simpa[qv,a]using h
    have:=x this;simp;omega
  .rw[mS];cases(k==p.1)<;>simp<;>omega
theorem zga(e:List ((Int×Int×zJ)×Int))(k:Int×Int×zJ):mS e k<(kR e k).length:=by
 have⟨x,a⟩:=JQ e k;unfold kR;cases h:qv e k with
 |true=>exact x h
 |false=>simp;omega
def IY(c:Int)(n:Nat):Prop:=0<=c/\c<n
theorem td(h:IY c i):zL c i=O:=by simp[zL,h.1,h.2]
theorem rJ(x:Int)(n:Nat):At x n=O↔IY x n:=by
 unfold IY At;by_cases h:x>=0
 .rw[zB h];simp;omega
 .rw[aB h];simp;omega
variable {α:Type}
theorem A0{l:List α}{d:α}{p:α->Bool}:((List.range (X l)).all λi=>p (l.getD i d))=O↔∀x∈l,p x=O:=by
 rw[eu];constructor
 .intro h x b;obtain⟨i,a,rfl⟩:=fO b;have:=h i (rk.2 a)
  rwa [bz,af a]at this
 .intro h i a;have a:=rk.1 a;rw[bz,af a];exact h _ (bC a)
variable {t:al}
theorem Pk:(List.range (X t.t.1)).all (zfw t)=O↔∀f∈t.t.1,IY f.1 (X t.2.1)/\az f.2=O:=by have h:=A0 (l:=t.t.1) (d:=Q zG) (p:=λf:cy=>At f.1 (X t.2.1)&&az f.2);simp only[aN,rJ]at h;exact h
theorem gS(h:dM t=O):IY t.q.1 (X t.2.1)/\(∀f∈t.t.1,IY f.1 (X t.2.1))/\(∀u∈t.r.1,IY u (X t.2.1))/\X t.2.1<=8/\1<=X t.2.1:=by
 have g:=TF h;unfold dM at h;simp only[aN,rJ]at h;have⟨x,_,a,b,e,_⟩:=h;have b:=Pk.1 b;have a:=(A0 (l:=t.r.1) (d:=Q zk) (p:=λu=>At u (X t.2.1))).1 a;simp only[rJ]at a;refine⟨e,λf i=>(b f i).1,a,g,?_⟩;cases c:az t.1
 .rw[c]at x;simp at x
 .rw[c]at x;simp at x;omega
theorem EM{row:zr}(h:(dj t row !=0)≠O):X row=X t.2.1:=by
 simp at h;unfold dj at h;split at h
 .cases h
 .rename_i x;cases a:dM t with
  |false=>rw[a]at x;simp at x
  | true=>
   rw[a]at x;simp at x;omega
abbrev zP(c:Int)(r:zr):zq:=Y r (Z c) (Q R)
def ug(rows:List zr)(c:Int):Prop:=rows.Pairwise λa b=>(zP c a).1≠0->zP c a≠zP c b
theorem sE:∀(a:List ((Int×Int×zJ)×Int))(k:Int×Int×zJ)(x:Int),ln (kR a k) (mS a k) x=lK a k x
 |[],k,x=>by simp[kR,qv,mS,ln,lK]
 | p::r,k,x=>by
  have h:=sE r k x;cases b:(k==p.1)with
  | true=>
   have e:k=p.1:=bX b;simp[kR,qv,mS,ln,lK,e]
  | false=>
   have e:kR (p::r) k=p::kR r k:=by
    simp only[kR,qv,List.any_cons,b,Bool.false_or];cases(r.any λp=>k==p.1)<;>rfl
   rw[e,mS,lK,b];show p::ln (kR r k) (mS r k) x=p::lK r k x;rw[h]
theorem JP(c:List ((Int×Int×zJ)×Int))(k a:Int×Int×zJ)(x:Int):iy (lK c k x) a=if a=k then x else iy c a:=by
 induction c with
 | nil=>
  by_cases h:a=k
  .subst h;simp[lK,iy]
  .simp[lK,iy,h]
 | cons p r i=>
  rw[lK];cases d:(k==p.1)with
  | true=>
   have e:k=p.1:=bX d;by_cases h:a=k
   .simp[iy,h]
   .have g:(a==p.1)=S:=by rw[<-e];simpa using h
    have j:(a==k)=S:=by simpa using h
    simp only[aI,iy,List.find?_cons,g,j,zh h]
  | false=>
   show iy (p::lK r k x) a=_;cases b:(a==p.1)with
   | true=>
    have e:a=p.1:=bX b;have h:a≠k:=by intro h;rw[<-h,b]at d;cases d
    simp only[iy,List.find?_cons,b,zh h]
   | false=>
    simp only[iy,List.find?_cons,b]at i|-;exact i
def xk:zr->List ((Int×Int×zJ)×Int)
 |[]=>[]
 |v::r=>lK (xk r) v (Γ Δ (iy (xk r) v+1))
theorem Ox:∀l:zr,(xk l).length<=X l
 |[]=>zM _
 | v::r=>by
  rw[xk,<-sE,GY];have:=zb1 (xk r) v;have:=Ox r;simp;omega
theorem Fl:∀(l:zr)(v:zq),X l<=1000000->iy (xk l) v=(l.count v:Int)
 |[],v,_=>by simp[xk,iy]
 | u::r,v,h=>by
  simp only[fE]at h;have a:=Fl r u W;have b:=Fl r v W;have c:r.count u<=X r:=List.count_le_length;rw[xk,JP,a,b,zu _ um];by_cases e:v=u
  .subst e;simp
  .have x:¬(u==v)=O:=by intro h;exact e (bX h).symm
   rw[zh e,List.count_cons,zh x];rfl
theorem Pi{x:ae}(B:∀r∈x.2,zL c (Io r)=Q3)(hl:Io x.2<=1000000):∃b,De x c=Q1 (b,())/\(b=Q4↔ug x.2 c):=by
  let k:Nat->zq:=λi=>zP c (Y x.2 i (Q ze.sl))
  let m:Nat->List ((Int×Int×zJ)×Int):=λi=>xk (((x.2.take i).map (zP c)).reverse)
  have y:∀i,i<X x.2->m (i+1)=lK (m i) (k i) (Γ Δ (iy (m i) (k i)+1)):=by
    intro i a;show xk (((x.2.take (i+1)).map (zP c)).reverse)=_;rw[List.take_succ_eq_append_getElem a,gh,List.reverse_append];show xk (zP c x.2[i]::_)=_;rw[xk];have:k i=zP c x.2[i]:=by
      show zP c (Y x.2 i _)=_;rw[bz,af a,bI]
    rw[this];rfl
  have q:∀i,i<=X x.2->(m i).length<=i:=by
    intro i a;have:=Ox (((x.2.take i).map (zP c)).reverse);simp at this;have d:(m i).length=(xk (((x.2.take i).map (zP c)).reverse)).length:=rfl;simp at d;omega
  have o:∀i v,i<=X x.2->iy (m i) v=((((x.2.take i).map (zP c)).count v:Nat):Int):=by
    intro i v a;show iy (xk _) v=_;rw[Fl _ _ sg,List.count_reverse]
  have C:=nL (t:=B4) (Φ:=λr=>aZ r.2 [Sh.bool] r.1=some (true,())) 1 (λi=>.h3 c x.2 (Io x.2:Int) (i:Int) (m i)) (λi=>(k i).1≠0->((x.2.take i).map (zP c)).count (k i)=0) (Io x.2) (by
    intro i a _;have k0:Y x.2 (i:Int).toNat (Q ze.sl)=Y x.2 i (Q ze.sl):=by rw[aH]
    have A:Y x.2 i (Q ze.sl)=x.2[i]:=by rw[bz,af a,bI]
    have G:zL c (X x.2[i])=O:=B _ (bC a);have n:k i=zP c x.2[i]:=by show zP c (Y x.2 i _)=_;rw[A]
    have H:zL ((mS (m i) (k i):Nat):Int) (kR (m i) (k i)).length=O:=zx (zga _ _);have P:T ((m i).length<=1073741824)=O:=zB (by have:=q i W;omega);have U:ln (kR (m i) (k i)) ((mS (m i) (k i):Nat):Int).toNat (Γ Δ (iy (m i) (k i)+1))=m (i+1):=by rw[aH,sE,y i a]
    have k7:iy (m (i+1)) (k i)=((((x.2.take i).map (zP c)).count (k i)+1:Nat):Int):=by
      have u:((x.2.take i).map (zP c)).count (k i)<=((x.2.take i).map (zP c)).length:=List.count_le_length;simp only[dc,oy]at u;rw[y i a,JP,zf rfl,o i _ W,zu _ um]
    have w:(B4 (.h3 c x.2 (X x.2:Int) (i:Int) (m i))).val=if(cond ((k i).1!=0) (T (((((x.2.take i).map (zP c)).count (k i)+1:Nat):Int)>1)) S)=O then M (.inr (.kb O,[]))else M (.inl (.h3 c x.2 (X x.2:Int) ((i+1:Nat):Int) (m (i+1)))):=by
      show(B4 (.h3 c x.2 _ _ _)).val=_;unfold B4;simp only[k0,A];rw[show Y x.2[i] (Z c) (Q R)=k i from n.symm];simp only[Q8,zN a,zx a,G,H,P,zj,U,k7];rw[zu i um]
    by_cases l:(k i).1=0
    · refine .inl ⟨λh=>zA l h,zH.of ?_⟩
      rw[w,zh (by simp[l])]
    · by_cases d:((x.2.take i).map (zP c)).count (k i)=0
      · refine .inl ⟨λ_=>d,zH.of ?_⟩
        rw[w,zh (by rw[d];simp)]
      · refine .inr ⟨λh=>d (h l),(.kb true,[]),zU.of ?_,rfl⟩
        rw [w,zf (by have:((k i).1 != 0)=true:=by simpa using l
                     rw[this];simp only[aI,aY];omega)])
  have z:(∀i,i<X x.2->(k i).1≠0->((x.2.take i).map (zP c)).count (k i)=0)↔ug x.2 c:=by
    unfold ug;rw[List.pairwise_iff_getElem];constructor
    · intro h j i D a E g e
      have n:k i=zP c x.2[i]:=by show zP c (Y x.2 i _)=_;rw[bz,af a,bI]
      have:=h i a (by rw[n,<-e];exact g);rw[List.count_eq_zero,n,<-e]at this;exact this (bn.2 ⟨_,List.mem_take_iff_getElem.2 ⟨j,W,rfl⟩,rfl⟩)
    · intro h i a g
      have n:k i=zP c x.2[i]:=by show zP c (Y x.2 i _)=_;rw[bz,af a,bI]
      rw[List.count_eq_zero];intro s;have⟨r,F,e⟩:=bn.1 s;obtain⟨j,D,rfl⟩:=List.mem_take_iff_getElem.1 F;rw[n]at e g;exact h j i W a W (by rw[e];exact g) e
  have p:(ziz x c).val=M (.inl (.h3 c x.2 (X x.2:Int) ((0:Nat):Int) (m 0))):=rfl;rcases C with⟨l,d⟩|⟨l,r,d,u⟩
  · refine⟨Q4,?_,λ_=>z.1 l,λ_=>rfl⟩
    refine zz p (d.ends (zU.of (r:=(.kb S,[])) ?_)) W rfl;show(B4 (.h3 c x.2 _ _ _)).val=_;simp only[B4,Q8,zK];rfl
  · refine⟨Q3,zz p d ow u,⟨λh=>?_,λh=>zA (z.2 h) l⟩⟩
    cases h
structure ij (x:ae):Prop where
 uq:X x.1.r.1<=1000
 rf:X x.1.t.1<=1000
 rw:X x.2<=1000
theorem Bu(l:zS)(s:zJ):ak l s=(-1:Int)\/((0:Int)<=ak l s/\LT.lt (α:=Int) (ak l s) (X l)):=by have:=gR (λx:ae=>x.1.1==s) l 0;simp at this;exact this
theorem ez{l:zS}(h:(0:Int)<=ak l x):zL (ak l x) (X l)=O:=by
 rcases Bu l x with a|⟨a,b⟩
 .rw[a]at h;omega
 .simp only[zL,aN,aY];exact⟨a,b⟩
theorem aO{l:List α}{d:α}{Q:α->Prop}:(∀i,i<X l->Q (l.getD i d))↔∀x∈l,Q x:=by
 constructor
 .intro h x b;obtain⟨i,a,rfl⟩:=fO b;have:=h i a
  rwa [bz,af a,bI]at this
 .intro h i a;rw[bz,af a,bI];exact h _ (bC a)
theorem cD{l:List α}{d:α}(h:i<X l):l.getD i d∈l:=by rw[bz,af h,bI];exact bC h
theorem gQ(i:Nat)(h:i<aD):Γ Δ (((i+1:Nat):Int)-1)=(i:Int):=by have:aD=9223372036854775807:=rfl;rw[fi];omega
def po(a b:zq):Prop:=LT.lt (α:=Int) (aF a b) 0
theorem UG{e:zq}:T (GE.ge (α:=Int) (aF v e) 0)=O↔¬po v e:=by unfold po;rw[aY];omega
structure ef (x:ae):Prop where
 may:dM x.1=O
 few:X x.2<=200
 fits:∀r∈x.2,dj x.1 r=(0:Int)
 key:ug x.2 x.1.q.1
 uniq:∀u∈x.1.r.1,ug x.2 u
 rise:∀i,i<X x.2-1->po (zP x.1.q.1 (Y x.2 i (Q ze.sl))) (zP x.1.q.1 (Y x.2 (i+1) (Q ze.sl)))
def Err(r:aw):Prop:=∃e:Int,r=(L e,[])/\e≠0
theorem Pg{d:ae}(hs:ij d):∃e:Int,qo d=M (e,())/\(e=0↔ef d):=by
 have h9:=hs.rw;have h8:=hs.uq;have a:∀{k:Nat}{r:aw},zU ji k (.h6 d.2 (X d.2:Int) ((0:Nat):Int) (d,())) r->k<=100000000->(V4 d).val=M (.inl (.h6 d.2 (X d.2:Int) ((0:Nat):Int) (d,())))->∀e:Int,r=(L e,[])->qo d=M (e,()):=by
  intro k r h hk x e y;subst y;exact zz x h hk rfl
 by_cases D:dM d.1=O
 case neg=>
  refine⟨1,?_,λh=>(by cases h),λh=>zA h.may D⟩;unfold qo ap bV;simp only[V4,zo,Q8];rw[zf (by simpa using D)];rfl
 by_cases hw:X d.2<=200
 case neg=>
  refine⟨13,?_,λh=>(by cases h),λh=>zA h.few hw⟩;unfold qo ap bV;simp only[V4,zo,Q8];rw[zh (by simpa using D),zf sg];rfl
 have x:(V4 d).val=M (.inl (.h6 d.2 (X d.2:Int) ((0:Nat):Int) (d,()))):=by
  simp only[V4,zo,Q8];rw[zh (by simpa using D),zh sg];rfl
 have⟨z,h7,h5,_,_⟩:=gS D;have C:=nL (t:=ji) (Φ:=Err) 1 (λi=>.h6 d.2 (X d.2:Int) (i:Int) (d,())) (λi=>dj d.1 (Y d.2 i (zi ze.sl))=(0:Int)) (X d.2) (by
  intro i x _;have s:(ji (.h6 d.2 (X d.2:Int) (i:Int) (d,()))).val=if(dj d.1 (Y d.2 i (zi ze.sl))!=0)=O then M (.inr (L (dj d.1 (Y d.2 i (zi ze.sl))),[]))else M (.inl (.h6 d.2 (X d.2:Int) ((i+1:Nat):Int) (d,()))):=by
   show(ji (.h6 d.2 _ _ _)).val=_;unfold ji;simp only[zo,Q8,zN x,zx x,zj,aH];rw[zu i um]
  by_cases h:dj d.1 (Y d.2 i (zi ze.sl))=(0:Int)
  .refine .inl ⟨h,zH.of ?_⟩;rw[s,zh (by rw[h];simp)]
  .refine .inr ⟨h,_,zU.of (by rw[s,zf (by simpa using h)]),_,rfl,h⟩)
 rcases C with⟨hf,C⟩|⟨hf,r,C,e,y,n⟩
 case inr=>
  exact⟨e,a C W x e y,λh=>zA h n,λh=>zA ((aO (Q:=λr=>dj d.1 r=(0:Int))).2 h.fits) hf⟩
 have m:=(aO (Q:=λr=>dj d.1 r=(0:Int))).1 hf;have U:∀r∈d.2,X r=X d.1.2.1:=λr A=>EM (by simpa using m r A)
 have p:∀c,IY c (X d.1.2.1)->∀r∈d.2,zL c (X r)=O:=λc hc r A=>by
  rw[U r A];exact td hc
 have⟨b,H,l⟩:=Pi (x:=d) (c:=d.1.q.1) (p _ z) W;have v:tR d d.1.q.1=O:=by unfold tR;rw[H];rfl
 have w:AZ d d.1.q.1=b:=by unfold AZ;rw[H];rfl
 have h4:(ji (.h6 d.2 (X d.2:Int) (X d.2:Int) (d,()))).val=if b=O then M (.inr (L 7,[]))else M (.inl (.h15 d.1.r.1 (X d.1.r.1:Int) ((0:Nat):Int) (d,()))):=by
  show(ji (.h6 d.2 _ _ _)).val=_;unfold ji;simp only[zo,Q8,zK,v,w,zj];rfl
 by_cases o:b=O
 .refine⟨7,a (C.ends (zU.of (by rw[h4,zf o]))) W x 7 rfl,λh=>(by cases h),λh=>?_⟩;have:=l.2 h.key;rw[o]at this;cases this
 have P:ug d.2 d.1.q.1:=l.1 (by simpa using o);have E:zH ji _ (.h6 d.2 (X d.2:Int) ((0:Nat):Int) (d,())) _:=C.trans (zH.of (by rw[h4,zh o]));have g:=nL (t:=ji) (Φ:=Err) 1 (λi=>.h15 d.1.r.1 (X d.1.r.1:Int) (i:Int) (d,())) (λi=>ug d.2 (Y d.1.r.1 i (zi zk))) (X d.1.r.1) (by
  intro i x _;have⟨b,H,l⟩:=Pi (x:=d) (c:=Y d.1.r.1 i (zi zk)) (p _ (h5 _ (cD x))) W;have v:tR d (Y d.1.r.1 i (zi zk))=O:=by unfold tR;rw[H];rfl
  have w:AZ d (Y d.1.r.1 i (zi zk))=b:=by unfold AZ;rw[H];rfl
  have s:(ji (.h15 d.1.r.1 (X d.1.r.1:Int) (i:Int) (d,()))).val=if b=O then M (.inr (L 7,[]))else M (.inl (.h15 d.1.r.1 (X d.1.r.1:Int) ((i+1:Nat):Int) (d,()))):=by
   show(ji (.h15 _ _ _ _)).val=_;unfold ji;simp only[zo,Q8,zN x,zx x,zj,aH,v,w];rw[zu i um]
  by_cases h:b=O
  .refine .inr ⟨λhu=>?_,_,zU.of (by rw[s,zf h]),7,rfl,by decide⟩;have:=l.2 hu;rw[h]at this;cases this
  .exact .inl ⟨l.1 (by simpa using h),zH.of (by rw[s,zh h])⟩)
 rcases g with⟨hq,g⟩|⟨hq,r,g,e,y,n⟩
 case inr=>
  exact⟨e,a (E.ends g) W x e y,λh=>zA h n,λh=>zA ((aO (Q:=λu=>ug d.2 u)).2 h.uniq) hq⟩
 have B:=(aO (Q:=λu=>ug d.2 u)).1 hq;have h0:(ji (.h15 d.1.r.1 (X d.1.r.1:Int) (X d.1.r.1:Int) (d,()))).val=M (.inl (.h21 ((0+1:Nat):Int) (d,()))):=by
  show(ji (.h15 _ _ _ _)).val=_;unfold ji;simp only[Q8,zK];rfl
 have F:=(E.trans g).trans (zH.of h0);have j:=nL (t:=ji) (Φ:=Err) 1 (λi=>.h21 ((i+1:Nat):Int) (d,())) (λi=>po (zP d.1.q.1 (Y d.2 i (zi ze.sl))) (zP d.1.q.1 (Y d.2 (i+1) (zi ze.sl)))) (X d.2-1) (by
  intro i x _;have h1:i<X d.2:=by omega
  have G:i+1<X d.2:=by omega
  have s:(ji (.h21 ((i+1:Nat):Int) (d,()))).val=if T (GE.ge (α:=Int) (aF (zP d.1.q.1 (Y d.2 i (zi ze.sl))) (zP d.1.q.1 (Y d.2 (i+1) (zi ze.sl)))) 0)=O then M (.inr (L 15,[]))else M (.inl (.h21 ((i+1+1:Nat):Int) (d,()))):=by
   show(ji (.h21 _ _)).val=_;unfold ji;simp only[gQ i um];simp only[Q8,zN G,zx G,zx h1,aH,p _ z _ (cD h1),p _ z _ (cD G),zj];rw[zu (i+1) um]
  by_cases h:po (zP d.1.q.1 (Y d.2 i (zi ze.sl))) (zP d.1.q.1 (Y d.2 (i+1) (zi ze.sl)))
  .exact .inl ⟨h,zH.of (by rw[s,zh (λG=>UG.1 G h)])⟩
  .exact .inr ⟨h,_,zU.of (by rw[s,zf (UG.2 h)]),15,rfl,by decide⟩)
 rcases j with⟨A,j⟩|⟨A,r,j,e,y,n⟩
 case inr=>
  exact⟨e,a (F.ends j) W x e y,λh=>zA h n,λh=>zA h.rise A⟩
 have h3:(ji (.h21 ((X d.2-1+1:Nat):Int) (d,()))).val=M (.inr (L 0,[])):=by
  show(ji (.h21 _ _)).val=_;unfold ji;simp only[Q8];rw[zh sg]
 exact⟨0,a (F.ends (j.ends (zU.of h3))) W x 0 rfl,λ_=>⟨D,hw,m,P,B,A⟩,λ_=>rfl⟩
def mf(v:zq):Prop:=LE.le (α:=Int) (-9223372036854775808) v.2.1/\LE.le (α:=Int) v.2.1 9223372036854775807/\X v.q<=1000000
theorem cC:∀s:zJ,Op.bytesLess s s=S
 |[]=>rfl
 |a::r=>by simp[Op.bytesLess,cC r]
theorem Wq(s:zJ):(rQ s<0)↔∀b∈s,32<=b.toNat/\b.toNat<=126:=by
 refine zae (p:=λr=>Fr r) (λc=>?_) s;unfold Fr;cases h:T ((c:Int)<32)with
 |true=>simp at h|-;omega
 |false=>simp at h|-;omega
theorem ze2(b h x a c d e l:Bool):∃r,(ite (b=O) (M (.inr (.bool (cond c e S),[]))) (ite (h=O) (M (.inr (.bool e,[]))) (ite (x=O) (M (.inr (.bool (cond c l S),[]))) (ite (a=O) (M (.inr (.bool (cond c e (cond d e S)),[]))) (M (.inr (.kb S,[])))))):Option (Du⊕aw))=M (.inr r)/\
  aZ r.2 [Sh.bool] r.1=M ((ite (b=O) (ite ((!c)=O) S e) (ite (h=O) e (ite (x=O) (cond c (cond l O S) S) (ite (a=O) (cond c e (cond d e S)) S))):Bool),()):=by cases b<;>cases h<;>cases x<;>cases a<;>cases c<;>cases d<;>cases e<;>cases l<;>exact⟨_,rfl,rfl⟩
theorem ze1(b h x a c d l:Bool):(ite (b=O) (ite ((!c)=O) S S) (ite (h=O) S (ite (x=O) (cond c (cond l S S) S) (ite (a=O) (cond c S (cond d S S)) S))))=S:=by cases b<;>cases h<;>cases x<;>cases a<;>cases c<;>cases d<;>cases l<;>rfl
theorem OR(p:X v.q<=1000000):K7 v=M (be v,()):=by
 have⟨k,n,s⟩:=v;have p:X s<=1000000:=p;have y:=nL (t:=uV) (Φ:=λr=>r=(.kb S,[])) 1 (λi=>.h2 (i:Int) ((k,n,s),())) (λi=>32<=(Y s i 0).toNat/\(Y s i 0).toNat<=126) (X s) (by
  intro i x _;have e:(uV (.h2 (i:Int) ((k,n,s),()))).val=if(cond (T (((Y s i 0).toNat:Int)<32)) O (T (((Y s i 0).toNat:Int)>126)))=O then M (.inr (.kb S,[]))else M (.inl (.h2 ((i+1:Nat):Int) ((k,n,s),()))):=by
   show(uV (.h2 _ _)).val=_;unfold uV;simp only[Q8,zN x,zx x,aH,zj];rw[zf (by cases T (((Y s i 0).toNat:Int)<32)<;>rfl)];rw[zu i um]
  by_cases c:(Y s i 0).toNat<32
  .refine .inr ⟨λh=>by omega,_,zU.of (by rw[e,zf (by rw[zB W];rfl)]),rfl⟩
  .by_cases g:126<(Y s i 0).toNat
   .refine .inr ⟨λh=>by omega,_,zU.of (by rw[e,zf (by rw[aB W,zB W];rfl)]),rfl⟩
   .refine .inl ⟨W,zH.of (by rw[e,zh (by rw[aB W,aB W];simp)])⟩)
 have x:(zir (k,n,s)).val=M (.inl (.h2 ((0:Nat):Int) ((k,n,s),()))):=rfl;have u:=Wq s;have w:=aO (l:=s) (d:=0) (Q:=λb=>32<=b.toNat/\b.toNat<=126);rcases y with⟨c,g⟩|⟨c,r,g,rfl⟩
 .have a:T (rQ s<0)=O:=zB (u.2 (w.1 c));have e:(uV (.h2 (X s:Int) ((k,n,s),()))).val=(ite ((k==0)=O) (M (.inr (.bool (cond (n==0) (s==[]) S),[]))) (ite ((k==1)=O) (M (.inr (.bool (s==[]),[]))) (ite ((k==2)=O) (M (.inr (.bool (cond (n==0) (T ((X s:Int)<=40)) S),[]))) (ite ((k==3)=O) (M (.inr (.bool (cond (n==0) (s==[]) (cond (n==1) (s==[]) S)),[]))) (M (.inr (.kb S,[]))))))):=by
   show(uV (.h2 _ _)).val=_;unfold uV;simp only[Q8,zK];rw[zh sw]
  have⟨r,m,o⟩:=ze2 (k==0) (k==1) (k==2) (k==3) (n==0) (n==1) (s==[]) (T ((X s:Int)<=40));have j:be (k,n,s)=(ite ((k==0)=O) (ite ((!(n==0))=O) S (s==[])) (ite ((k==1)=O) (s==[]) (ite ((k==2)=O) (cond (n==0) (cond (T ((X s:Int)<=40)) O S) S) (ite ((k==3)=O) (cond (n==0) (s==[]) (cond (n==1) (s==[]) S)) S)))):=by
   simp only[be,a];rfl
  rw[j];exact zz x (g.ends (zU.of (e.trans m))) W o
 .have a:T (rQ s<0)=S:=aB (λh=>c (w.2 (u.1 h)));have z:(s==[])=S:=by
   cases s with
   |nil=>exact zA (λi x=>zA x sw) c
   |cons _ _=>rfl
  have j:be (k,n,s)=S:=by
   simp only[be,a,z];exact ze1 (k==0) (k==1) (k==2) (k==3) (n==0) (n==1) (T ((X s:Int)<=40))
  rw[j];exact zz x g W rfl
theorem mE(h:X v.q<=1000000):nV v=O:=by unfold nV;rw[OR h];rfl
theorem qa(h:X v.q<=1000000):uS v=be v:=by unfold uS;rw[OR h];rfl
theorem Jo(h:X v.q<=1000000):xA v=M (aj v,()):=by unfold xA ap bV;simp only[zit,Q8,mE h,qa h,zj,aj];cases be v<;>rfl
theorem tB(h:X v.q<=1000000):tA v=O:=by unfold tA;rw[Jo h];rfl
theorem xB(h:X v.q<=1000000):f5 v=aj v:=by unfold f5;rw[Jo h];rfl
def GV(b:Bool):zq:=if b then(3,1,[])else(3,0,[])
theorem FM(b:Bool):xz b=M (GV b,()):=by cases b<;>rfl
theorem qc(b:Bool):mF b=O:=by unfold mF;rw[FM];rfl
theorem iZ(b:Bool):bx b=GV b:=by unfold bx;rw[FM];rfl
def Mz(v:zq)(n:Int):Bool:=v.1==3&&(v.2.1==n&&(v.q==[]&&O))
theorem Ua(v:zq)(b:Bool):OQ v b=M (Mz v (cond b 1 0),()):=by unfold OQ ap bV;simp only[zis,Q8,qc,iZ,zj];cases b<;>rfl
theorem CN(v:zq)(b:Bool):oV v b=O:=by unfold oV;rw[Ua];rfl
theorem K6(v:zq)(b:Bool):rW v b=Mz v (cond b 1 0):=by unfold rW;rw[Ua];rfl
theorem pm:bu 0=(0,0,[]):=by decide
theorem mO:bu 1=(3,0,[]):=by decide
theorem mP:bu 2=(3,1,[]):=by decide
theorem ku(v:zq):(eT v==1)=Mz v 0/\(eT v==2)=Mz v 1:=by
 have⟨k,n,s⟩:=v;unfold eT Mz;simp only[be];by_cases h:k=3
 .subst h;by_cases x:n=0
  .subst x;cases d:(s==[])<;>simp[fi]
  .by_cases a:n=1
   .subst a;cases d:(s==[])<;>simp[fi]
   .have e0:(n==0)=S:=by simpa using x
    have c:(n==1)=S:=by simpa using a
    simp[e0,c]
 .have e:(k==3)=S:=by simpa using h
  have b:(k !=3)=O:=by simpa using h
  simp[e,b]
theorem OP(a b:zq):FF a b=M (Hz a b,()):=by unfold FF ap bV;simp only[ziE,Q8,CN,K6,iZ,Hz,(ku a).1,(ku a).2,(ku b).1,(ku b).2,pm,mO,mP,aJ,aI];cases Mz a 0<;>cases Mz b 0<;>cases Mz a 1<;>cases Mz b 1<;>rfl
theorem Uc(a b:zq):OT a b=M (vOr a b,()):=by unfold OT ap bV;simp only[ziF,Q8,CN,K6,iZ,vOr,(ku a).1,(ku a).2,(ku b).1,(ku b).2,pm,mO,mP,aJ,aI];cases Mz a 0<;>cases Mz b 0<;>cases Mz a 1<;>cases Mz b 1<;>rfl
theorem OS(a:zq):FI a=M (Cp a,()):=by unfold FI ap bV;simp only[ziD,Q8,CN,K6,iZ,Cp,(ku a).1,(ku a).2,pm,mO,mP,aJ,aI];cases Mz a 0<;>cases Mz a 1<;>rfl
theorem Rs(k x n a:Int)(s b:zJ):(ite ((k==x&&(n==a&&(s==b&&O)))=O) (0:Int) (ite ((cond (T (k<x)) O (cond (k==x) (cond (T (n<a)) O (cond (n==a) (Op.bytesLess s b) S)) S))=O) (-1) 1))=Je [ui k x,lq n a,pE s b]:=by
 simp only[Je,ui,lq,pE];rcases DF k x with h|h|h
 .have c:(k==x)=S:=dX.2 W;simp[c,h]
 .subst h;rcases DF n a with h|h|h
  .have c:(n==a)=S:=dX.2 W;simp[c,h]
  .subst h;by_cases g:s=b
   .subst g;simp[cC]
   .have c:(s==b)=S:=dX.2 g;by_cases e:Op.bytesLess s b=O
    .simp[c,e]
    .simp[c,e]
  .have c:(n==a)=S:=dX.2 W;have d:¬n<a:=by omega
   simp[c,d,h]
 .have c:(k==x)=S:=dX.2 W;have d:¬k<x:=by omega
  simp[c,d,h]
theorem FJ{e:zq}(h:X v.q<=1000000)(x:X e.q<=1000000):rY v e=M (aF v e,()):=by unfold rY ap bV;simp only[ztb,Q8,tB h,tB x,xB h,xB x,zj,aF];rw[<-Rs];generalize((aj v).1==(aj e).1&&((aj v).2.1==(aj e).2.1&&((aj v).q==(aj e).q&&O)))=b;generalize(cond (T ((aj v).1<(aj e).1)) O (cond ((aj v).1==(aj e).1) (cond (T ((aj v).2.1<(aj e).2.1)) O (cond ((aj v).2.1==(aj e).2.1) (Op.bytesLess (aj v).q (aj e).q) S)) S))=a;cases b<;>cases a<;>rfl
theorem zX(l:List α)(d:α)(h:i<X l):l.getD ((i:Int).toNat) d=l[i]:=by rw[aH,bz,af h,bI]
theorem ET(l:List α)(d:α)(h:i<X l):l.getD i d∈l:=by rw[bz,af h,bI];exact bC h
def ce(f w:zJ):List zJ:=if(w==[])=O then[f]else[f,w]
def eP(db:zS)(ns:List zJ):Bool:=db.any λx=>!aL ns x.1.1&&T (GE.ge (α:=Int) (ah (λf:cy=>aL ns f.2) x.1.t.1 0) 0)
def qV(db:zS)(f w t:zJ):Int:=
 if∀n∈ce f w,LE.le (α:=Int) 0 (ak db n)then(if(T (GE.ge (α:=Int) (ak db t) 0)||f==w)=O then 7 else if eP db (ce f w)=O then 10 else 0)else 6
def zhx(y h:zp bY):Prop:=
 (0:Int)<=ak y.1 y.u.1/\(y.v.1=[]\/(0:Int)<=ak y.1 y.v.1)/\LT.lt (α:=Int) (ak y.1 y.2.1.2.1) 0/\y.u.1≠y.v.1/\
 h.q.1=(Y y.1 (Z (ak y.1 y.u.1)) (Q zl)).1/\
 h.r.1=(ite (y.v.1=[]) y.r.1 ((Y y.1 (Z (ak y.1 y.v.1)) (Q zl)).1))
def zdp(y:zp bY)(r:aw):Prop:=∃(e:Int)(h:zp bY),r=(L e,ba bY h)/\h.1=y.1/\h.2.1=y.2.1/\h.t=y.t/\e=qV y.1 y.u.1 y.v.1 y.2.1.2.1/\(e=0->zhx y h)
theorem zvD(y:zp bY)(a:List zJ)(H:X y.1<=1000000)(q:(0:Int)<=ak y.1 y.u.1)(s:y.v.1=[]\/(0:Int)<=ak y.1 y.v.1)(A:LT.lt (α:=Int) (ak y.1 y.2.1.2.1) 0)(B:y.u.1≠y.v.1)(e:qV y.1 y.u.1 y.v.1 y.2.1.2.1=if eP y.1 a=O then 10 else 0)(n:Nat)(C:1+X y.1<=n):
  ∃r,em Hw n (.h11 y.1 (X y.1:Int) 0 y a)=M r/\zdp y r:=by
 refine dP (t:=Hw) (β:=Unit) (X y.1) (λ_ i=>.h11 y.1 (X y.1:Int) (i:Int) y a) (λ_ i=>∀j(g:j<X y.1),j<i->(!aL a y.1[j].1.1&&T (GE.ge (α:=Int) (ah (λf:cy=>aL a f.2) y.1[j].1.t.1 0) 0))=S) (zdp y) 1 ?_ ?_ (X y.1) 0 () n rfl (aG _) (λj _ h=>by omega) C
 .intro b i o w;simp only[Hw,Mh,GM,Q8,zN o,zx o,zj,zX y.1 _ o];rw[zu i um];have d:(!aL a y.1[i].1.1&&T (GE.ge (α:=Int) (ah (λf:cy=>aL a f.2) y.1[i].1.t.1 0) 0))=S->∀j(g:j<X y.1),j<i+1->(!aL a y.1[j].1.1&&T (GE.ge (α:=Int) (ah (λf:cy=>aL a f.2) y.1[j].1.t.1 0) 0))=S:=by
   intro h j g F;by_cases l:j=i
   .subst l;exact h
   .exact w j g W
  by_cases c:(!aL a y.1[i].1.1)=O
  .simp only[c,zj];split
   .rename_i p;refine Or.inr ⟨_,rfl,10,y,rfl,rfl,rfl,rfl,?_,λh=>by cases h⟩;have z:eP y.1 a=O:=by
     unfold eP;exact List.any_eq_true.2 ⟨y.1[i],bC o,by rw[c];simpa using p⟩
    rw[e,zf z]
   next p=>exact Or.inl ⟨(),d (by rw[c];simpa using p),rfl⟩
  .simp only[c];exact Or.inl ⟨(),d (by simp only[iW]at c;rw[c];rfl),rfl⟩
 .intro b n w C;have z:eP y.1 a=S:=by
   unfold eP;rw[List.any_eq_false];intro x G;obtain⟨j,g,rfl⟩:=fO G;rw[w j g g];simp
  rw[z]at e
  replace e:=e.symm
  simp only[zD,zm]at e;obtain⟨n,rfl⟩:∃k,n=k+1:=⟨n-1,W⟩;rw[dg];simp only[Hw,Mh,GM,Q8,zK,ez q,zj];by_cases c:(!y.v.1==[])=O
  .have m:y.v.1≠[]:=by simpa using c
   have D:(0:Int)<=ak y.1 y.v.1:=s.resolve_left m;simp only[c,zj,ez D];refine⟨_,rfl,0,_,rfl,rfl,rfl,rfl,e,λ_=>⟨q,s,A,B,rfl,?_⟩⟩;simp[m]
  .have E:y.v.1=[]:=by simpa using c
   simp only[c];refine⟨_,rfl,0,_,rfl,rfl,rfl,rfl,e,λ_=>⟨q,s,A,B,rfl,?_⟩⟩;simp[E]
theorem zyG(y:zp bY)(a:List zJ)(d:a=ce y.u.1 y.v.1)(E:X y.1<=1000000)(n:Nat)(s:2+X y.1+X a<=n):
  ∃r,em Hw n (.h3 a (X a:Int) 0 y a)=M r/\zdp y r:=by
 have F:X a<=2:=by rw[d];unfold ce;split<;>simp
 refine dP (t:=Hw) (β:=Unit) (X a) (λ_ i=>.h3 a (X a:Int) (i:Int) y a) (λ_ i=>∀j(e:j<X a),j<i->(0:Int)<=ak y.1 a[j]) (zdp y) (2+X y.1) ?_ ?_ (X a) 0 () n rfl (aG _) (λj _ h=>by omega) s
 .intro b i l o;simp only[Hw,Sm,Mi,Q8,zN l,zx l,zj,zX a _ l];rw[zu i um];by_cases c:(0:Int)<=ak y.1 a[i]
  .have:T (LT.lt (α:=Int) (ak y.1 a[i]) 0)=S:=by simpa using c
   simp only[this];refine Or.inl ⟨(),λj e D=>?_,rfl⟩;by_cases g:j=i
   .subst g;exact c
   .exact o j e W
  .have:T (LT.lt (α:=Int) (ak y.1 a[i]) 0)=O:=by simpa using c
   simp only[this,zj];refine Or.inr ⟨_,rfl,6,y,rfl,rfl,rfl,rfl,?_,λh=>by cases h⟩;unfold qV;rw[zh];intro h;exact c (h _ (by rw[<-d];exact bC l))
 .intro b n o s;obtain⟨n,rfl⟩:∃k,n=k+1:=⟨n-1,W⟩;have m:∀n∈ce y.u.1 y.v.1,LE.le (α:=Int) 0 (ak y.1 n):=by
   intro x z;rw[<-d]at z;obtain⟨j,e,rfl⟩:=fO z;exact o j e e
  have q:qV y.1 y.u.1 y.v.1 y.2.1.2.1=if(T (GE.ge (α:=Int) (ak y.1 y.2.1.2.1) 0)||y.u.1==y.v.1)=O then 7 else if eP y.1 a=O then 10 else 0:=by
   unfold qV;rw[zf m,<-d]
  have A:(0:Int)<=ak y.1 y.u.1:=m _ (by unfold ce;split<;>simp);have B:y.v.1=[]\/(0:Int)<=ak y.1 y.v.1:=by
   by_cases w:(y.v.1==[])=O
   .left;simpa using w
   .right;exact m _ (by unfold ce;rw[zh w];simp)
  rw[dg];simp only[Hw,Sm,Mi,Q8,zK];by_cases c:(bif T (GE.ge (α:=Int) (ak y.1 y.2.1.2.1) 0)then O else y.u.1==y.v.1)=O
  .simp only[c,zj];refine⟨_,rfl,7,y,rfl,rfl,rfl,rfl,?_,λh=>by cases h⟩;rw[q,zf (by revert c;cases T (GE.ge (α:=Int) (ak y.1 y.2.1.2.1) 0)<;>exact id)]
  .simp only[c];have p:T (GE.ge (α:=Int) (ak y.1 y.2.1.2.1) 0)=S:=by
    cases C:T (GE.ge (α:=Int) (ak y.1 y.2.1.2.1) 0)with
    |false=>rfl
    |true=>rw[C]at c;simp at c
   rw[p]at c;refine zvD y a E A B (by simpa using p) (by simpa using c) ?_ n W;rw[q,p,zh (by simpa using c)]
theorem Oo(y:zp bY)(g:X y.1<=1000000):∃(e:Int)(h:zp bY),th y=M ((e,()),h)/\h.1=y.1/\h.2.1=y.2.1/\h.t=y.t/\e=qV y.1 y.u.1 y.v.1 y.2.1.2.1/\(e=0->zhx y h):=by
 have b:mC (y.t.1,y.u.1,y.v.1,(y.w.1,[],y.x.1,[],[],zt y.y.1),[],y.z.1)=ce y.u.1 y.v.1:=rfl;obtain⟨r,c,e,h,rfl,d⟩:=zyG y _ b g 100000000 (by
  have:X (mC (y.t.1,y.u.1,y.v.1,(y.w.1,[],y.x.1,[],[],zt y.y.1),[],y.z.1))<=2:=by rw[b];unfold ce;split<;>simp
  omega)
 refine⟨e,h,?_,d⟩;unfold th kJ bV;simp only[zmD,Q8];rw[c];exact dO (outs:=[zk]) (r:=L e) (a:=(e,())) h rfl
theorem A8(h:i<b):T ((i:Int).toNat<b)=O:=by simpa using h
def yq(t:al):Int:=
 if∃i,i<X t.2.1/\zZ t (Y t.2.1 i (Q zn)).1≠(i:Int)then 7 else if(t.u.op==[])=O then 0
 else if(cond ((cv t.u t.2.1).2==0) (cond ((cv t.u t.2.1).1!=3) ((cv t.u t.2.1).1!=0) S) S)=O then 5 else(cv t.u t.2.1).2
abbrev UE(y:zp aE):al:=(y.w.1,y.x.1,y.y.1,[],[],y.z.1)
theorem vR(y:zp aE)(l:X y.x.1<=1000000):xg y=M ((yq (UE y),()),y):=by
 have h:=dP (t:=Sn) (β:=Unit) (X y.x.1) (λ_ i=>.h2 (X y.x.1:Int) (i:Int) y) (λ_ i=>∀j,j<i->j<X y.x.1->zZ (UE y) (Y y.x.1 j (Q zn)).1=(j:Int)) (λr=>r=(L (yq (UE y)),ba aE y)) 1 (by
   intro b i d g;simp only[Sn,So,Mj,Q8,zN d,zx d,zB d,zj,zo,aH];rw[zu i um];by_cases c:(zZ (UE y) (Y y.x.1 i (Q zn)).1!=(i:Int))=O
   .simp only[c,zj];refine Or.inr ⟨_,rfl,?_⟩;unfold yq;rw[zf ⟨i,d,by simpa using c⟩]
   .simp only[c];refine Or.inl ⟨(),λj q l=>?_,rfl⟩;by_cases h:j=i
    .subst h;simpa using c
    .exact g j W l) (by
   intro b n g s;obtain⟨n,rfl⟩:∃k,n=k+1:=⟨n-1,W⟩;have m:¬∃i,i<X (UE y).2.1/\zZ (UE y) (Y (UE y).2.1 i (Q zn)).1≠(i:Int):=by
    rintro⟨i,d,h⟩;exact h (g i d d)
   have p:(Sn (.h2 (X y.x.1:Int) (X y.x.1:Int) y)).val=M (.inr (L (yq (UE y)),ba aE y)):=by
    simp only[Sn,So,Mj,Q8,zK,zo];unfold yq;rw[zh m];split
    .simp_all
    .split
     .rfl
     .split<;>rfl
   rw[dg,p];exact⟨_,rfl,rfl⟩)
  y.x.1.length 0 () 100000000 rfl (aG _) (λj h=>by omega) W
 obtain⟨r,o,rfl⟩:=h;unfold xg kJ bV;simp only[zmF,Q8];have e:em Sn 100000000 (.h2 (X y.x.1:Int) 0 y)=M (L (yq (UE y)),ba aE y):=o;rw[e];exact dO (outs:=[zk]) (r:=L (yq (UE y))) (a:=(yq (UE y),())) y rfl
theorem ym(t:al)(s:zJ):zZ t s=(-1:Int)\/((0:Int)<=zZ t s/\LT.lt (α:=Int) (zZ t s) (X t.2.1)):=by have:=gR (λc:cH=>c.1==s) t.2.1 0;unfold zZ;simpa using this
theorem ta(h:¬LT.lt (α:=Int) (zZ t x) 0):zL (zZ t x) (X t.2.1)=O:=by
 rcases ym t x with a|⟨a,b⟩
 .rw[a]at h;simp at h
 .simp only[zL,aN,aY];exact⟨a,b⟩
theorem BO(x:Int):∀(l:List Int)(i:Nat),GE.ge (α:=Int) (fH x l (i:Int)) 0↔x∈l
 | [],i=>by
  rw[fH];exact⟨λh=>zA h (by decide),λh=>by cases h⟩
 | a::r,i=>by
  rw[fH];split
  .rename_i h;have:x=a:=by simpa using h
   subst this;exact⟨λ_=>uA,λ_=>Int.natCast_nonneg i⟩
  next h=>have:=BO x r (i+1);rw[wn]at this;rw[bZ];refine⟨λb=>.inr (this.1 b),λb=>this.2 (b.resolve_left ?_)⟩;rintro rfl;simp at h
theorem vM(l:List Int)(x:Int):vL l x=O↔x∈l:=by unfold vL;rw[decide_eq_true_iff];exact BO x l 0
def gT(t:al)(n:List zJ):Int:=if∀s∈n,¬LT.lt (α:=Int) (zZ t s) 0 then(ite ((n.map (zZ t)).Nodup) 0 7)else 4
theorem Fp{l:List Int}:(l++[c]).Nodup↔l.Nodup/\c∉l:=by rw[List.nodup_append];simp;intro _;exact⟨λh x=>h c x rfl,λh y a e=>h (e▸a)⟩
theorem bF{l:List α}(h:i<X l):l.take (i+1)=l.take i++[l[i]]:=by rw[List.take_add_one,af h];rfl
def PY(y:zp bY)(z:zp eH):Prop:=z.1=y.1/\z.2.1=y.2.1/\z.q.1=y.q.1/\z.r.1=y.r.1/\z.t.1=y.t.1/\z.u.1=y.u.1/\z.v.1=y.v.1/\z.w.1=y.w.1/\
 z.y.1=y.x.1/\z.z.1=y.y.1/\z.p=y.z
abbrev ip(z:zp eH):aT:=z.x.1
abbrev fZ(z:zp eH):ee:=z.s.1
def NmI(y:zp bY)(l:List zJ)(z:zp eH):Prop:=PY y z/\fZ z=l.map (λs=>zZ y.q.1 s)/\ip z=l.map (λs=>Y y.q.1.2.1 (Z (zZ y.q.1 s)) (Q zn))/\∀s∈l,¬LT.lt (α:=Int) (zZ y.q.1 s) 0
def NmR(y:zp bY)(r:aw):Prop:=∃(e:Int)(z:zp eH),r=(L e,ba aE z)/\PY y z/\e=gT y.q.1 y.2.1.r.1/\(e=0->NmI y y.2.1.r.1 z)/\(ip z).length<=1000000
theorem zus(y:zp bY)(z:zp eH)(d:NmI y y.2.1.r.1 z)(l:gT y.q.1 y.2.1.r.1=if(fZ z).Nodup then 0 else 7)(v:(fZ z).length<=1000000)(m:Nat):∀(i n:Nat),(fZ z).length-i=m->i<=(fZ z).length->((fZ z).take i).Nodup->1+m<=n->∃r,em uu n (.h12b ((fZ z).length:Int) (i:Int) z)=M r/\NmR y r:=by
 intro i n w x g o;have a:(ip z).length<=1000000:=by
  have:=v;rw[d.2.1,dc]at this;rw[d.q.1,dc];exact this
 refine dP (t:=uu) (β:=Unit) (fZ z).length (λ_ i=>.h12b ((fZ z).length:Int) (i:Int) z) (λ_ i=>((fZ z).take i).Nodup) (NmR y) 1 ?_ ?_ m i () n w x g o
 .intro b i x e;have u:(T (0<=0)&&T ((0:Int)<=(i:Int))&&T ((i:Int)<=((fZ z).length:Int)))=O:=by simp;omega
  simp only[uu,GO,A6,Q8,zN x,zx x,zj,u];rw[zu i um];rw[show List.take (Z (i:Int)-Z 0) (List.drop (Z 0) z.s.1)=(fZ z).take i by simp,show z.s.1.getD (Z (i:Int)) (Q zk)=(fZ z)[i]from zX (fZ z) _ x];split
  next c=>refine Or.inr ⟨_,rfl,7,z,rfl,d.1,?_,λh=>(by cases h),a⟩;rw[l,zh];intro p;have j:((fZ z).take (i+1)).Nodup:=p.sublist (List.take_sublist _ _);rw[bF x,Fp]at j;exact j.2 ((vM _ _).1 c)
  next c=>refine Or.inl ⟨(),?_,rfl⟩;show((fZ z).take (i+1)).Nodup;rw[bF x,Fp];exact⟨e,λh=>c ((vM _ _).2 h)⟩
 .intro b n e o;rw[gE]at e;obtain⟨n,rfl⟩:∃k,n=k+1:=⟨n-1,W⟩;rw[dg];simp only[uu,GO,A6,Q8,zK];exact⟨_,rfl,0,z,rfl,d.1,by rw[l,zf e],λ_=>d,a⟩
theorem zyy(y:zp bY)(z:zp eH)(x:NmI y y.2.1.r.1 z)(g:gT y.q.1 y.2.1.r.1=if(fZ z).Nodup then 0 else 7)(i:(fZ z).length<=1000000)(n:Nat)(m:2+(fZ z).length<=n):∃r,em uu n (.h12 ((fZ z).length:Int) 0 z)=M r/\NmR y r:=by
 have d:(ip z).length<=1000000:=by
  have:=i;rw[x.2.1,dc]at this;rw[x.q.1,dc];exact this
 obtain⟨n,rfl⟩:∃k,n=k+1:=⟨n-1,W⟩;rw[dg];by_cases h:0<(fZ z).length
 .have l:(T (0<=0)&&T ((0:Int)<=((0:Nat):Int))&&T (((0:Nat):Int)<=((fZ z).length:Int)))=O:=by simp
  have a:(∃r,(uu (.h12 ((fZ z).length:Int) ((0:Nat):Int) z)).val=M (.inr r)/\NmR y r)\/(uu (.h12 ((fZ z).length:Int) ((0:Nat):Int) z)).val=M (.inl (.h12b ((fZ z).length:Int) ((1:Nat):Int) z)):=by
   simp only[uu,Ml,GP,Q8,zN h,zx h,A8 h,zj,l];rw[zu 0 um];split
   next c=>exact zA ((vM _ _).1 c) sw
   .exact Or.inr rfl
  rw[Int.ofNat_zero]at a;rcases a with⟨r,b,j⟩|b
  .rw[b];exact⟨r,rfl,j⟩
  .rw[b];exact zus y z x g i _ 1 n rfl W (by rw[bF h];simp) W
 .have e:(fZ z).length=0:=by omega
  have a:(uu (.h12 ((fZ z).length:Int) 0 z)).val=M (.inr (L 0,ba aE z)):=by
   rw[e];simp[uu,Ml,GP,Q8]
  rw[a];exact⟨_,rfl,0,z,rfl,x.1,by rw[g,zf (by rw[DB e];exact List.nodup_nil)],λ_=>x,d⟩
theorem nm3(y:zp bY)(z:zp eH)(D:NmI y [] z)(E:X y.2.1.r.1<=1000000)(n:Nat)(A:3+X y.2.1.r.1+X y.2.1.r.1<=n):∃r,em uu n (.h3 y.2.1.r.1 (X y.2.1.r.1:Int) 0 z)=M r/\NmR y r:=by
 refine dP (t:=uu) (β:=zp eH) (X y.2.1.r.1) (λz i=>.h3 y.2.1.r.1 (X y.2.1.r.1:Int) (i:Int) z) (λz i=>NmI y (y.2.1.r.1.take i) z) (NmR y) (3+X y.2.1.r.1) ?_ ?_ (X y.2.1.r.1) 0 z n rfl (aG _) (by simpa using D) A
 .intro z i b a;have⟨l,B,o,C⟩:=a;have c:(fZ z).length<=1000000:=by rw[B,dc,oy];omega
  have g:(ip z).length<=1000000:=by rw[o,dc,oy];omega
  have j:z.q.1=y.q.1:=l.q.1;simp only[uu,Sq,Mm,Q8,zN b,zx b,zj,zX _ _ b,zo,bh];rw[zu i um];by_cases e:LT.lt (α:=Int) (zZ z.q.1 y.2.1.r.1[i]) 0
  .simp only[zB e,zj];refine Or.inr ⟨_,rfl,4,z,rfl,l,?_,λh=>(by cases h),g⟩;unfold gT;rw[zh];intro h;exact h _ (bC b) (by rw[<-j];exact e)
  .simp only[aB e,ta e];refine Or.inl ⟨(z.1,z.2.1,z.q.1,z.r.1,z.t.1,z.u.1,z.v.1,z.w.1,z.x.1++[Y z.q.1.2.1 (Z (zZ z.q.1 y.2.1.r.1[i])) (Q zn)],z.y.1,z.z.1,z.s.1++[zZ z.q.1 y.2.1.r.1[i]],z.p),⟨l,?_,?_,?_⟩,?_⟩;rotate_left 3
   .rw[zh sw,zf (by have:X z.s.1<=1000000:=c;simp;omega),zf trivial,zf (by have:X z.x.1<=1000000:=g;simp;omega)]
   .show fZ z++[zZ z.q.1 y.2.1.r.1[i]]=_;rw[B,j,bF b,gh];rfl
   .show ip z++[Y z.q.1.2.1 (Z (zZ z.q.1 y.2.1.r.1[i])) (Q zn)]=_;rw[o,j,bF b,gh];rfl
   .intro s d;rw[bF b,cX]at d;rcases d with d|d
    .exact C s d
    .rw[fh]at d;rw[d,<-j];exact e
 .intro z n a A;obtain⟨n,rfl⟩:∃k,n=k+1:=⟨n-1,W⟩;rw[gE]at a;have c:(fZ z).length=X y.2.1.r.1:=by rw[a.2.1,dc]
  rw[dg];simp only[uu,Sq,Mm,Q8,zK];have m:2+(fZ z).length<=n:=by rw[c];omega
  refine zyy y z a ?_ W n m;unfold gT;rw[zf a.r,a.2.1]
theorem Ja(y:zp bY)(c:X y.2.1.r.1<=1000000):∃(e:Int)(z:zp eH),CK y=M ((e,()),z)/\PY y z/\e=gT y.q.1 y.2.1.r.1/\(e=0->NmI y y.2.1.r.1 z)/\(ip z).length<=1000000:=by
 obtain⟨r,h,e,z,rfl,b⟩:=nm3 y (y.1,y.2.1,y.q.1,y.r.1,y.t.1,y.u.1,y.v.1,y.w.1,[],y.x.1,y.y.1,[],y.z)
  ⟨⟨rfl,rfl,rfl,rfl,rfl,rfl,rfl,rfl,rfl,rfl,rfl⟩,rfl,rfl,sw⟩ c 100000000 W
 refine⟨e,z,?_,b⟩;unfold CK kJ bV;simp only[zmL,Q8];rw[h];exact dO (outs:=[zk]) (r:=L e) (a:=(e,())) (ps:=aE) z rfl
theorem zio(y:zp bY):Y0 y=y:=by grind[zo]
def pp(y:zp bY)(z:zp aE):Prop:=z.1=y.1/\z.2.1=y.2.1/\z.q.1=y.q.1/\z.r.1=y.r.1/\z.t.1=y.t.1/\z.u.1=y.u.1/\z.v.1=y.v.1/\z.w.1=y.w.1
structure qw (z:zp aE) (cols:aT) (key:Int) (ix:List Int) (on:Int):Prop where
 cols:z.x.1=cols
 key:z.y.1=key
 ix:z.s.1=ix
 on:z.p.1=on
def e7(t:al)(n:List zJ):aT:=n.map λs=>Y t.2.1 (Z (zZ t s)) (Q zn)
def kd(t:al)(n:List zJ):List Int:=n.map (zZ t)
def vp(t:al)(n:List zJ):Int:=if gT t n=0 then(if LT.lt (α:=Int) (iB (kd t n) t.q.1) 0 then 1 else 0)else gT t n
def rH(t:al)(n:List zJ):Int:=if gT t n=0 then(ite (((e7 t n).getD 1 (Q zn)).2.1=(1:Int)) 0 5)else gT t n
def Ar(t:al)(n:List zJ):aT:=
 [(((e7 t n).getD 0 (Q zn)).1,((e7 t n).getD 0 (Q zn)).2.1,O),(((e7 t n).getD 1 (Q zn)).1,((e7 t n).getD 1 (Q zn)).2.1,S)]
def gK(t u:al)(k w:zJ):Int:=
 if LT.lt (α:=Int) (zZ t k) 0 then 4 else if ka t.t.1 (zZ t k,w)=O then(if LT.lt (α:=Int) 9 ((X t.2.1:Int)+(X u.2.1:Int))then 13 else 0)else 10
def Fv(k:Int)(n:Nat):List Nat:=(List.range n).filter λj=>(j:Int)!=k
def nR(k:Int)(n:Nat):List Int:=(Fv k n).map λ(j:Nat)=>(j:Int)
def jv(u:al)(n:Nat):aT:=(Fv u.q.1 n).map λj=>Y u.2.1 j (Q zn)
theorem zmA(y:zp bY):zeF y=Zt y y (ll y) (iB (ll y).p.1 (ll y).r.1.q.1):=by unfold zeF;rw[zio]
theorem Z0(y:zp bY)(A:X y.2.1.r.1<=1000):∃z:zp aE,KO y=M ((vp y.q.1 y.2.1.r.1,()),z)/\pp y z/\z.z.1=y.y.1/\
  (ip z).length<=1000000/\(vp y.q.1 y.2.1.r.1=0->qw z (e7 y.q.1 y.2.1.r.1) (iB (kd y.q.1 y.2.1.r.1) y.q.1.q.1) (kd y.q.1 y.2.1.r.1) y.z.1):=by
 have⟨e,z,m,x,l,n,b⟩:=Ja y W;have s:ll y=(e,z):=by unfold ll;rw[m];rfl
 have p:pV y=O:=by unfold pV;rw[m];rfl
 have d:pp y z:=⟨x.1,x.2.1,x.q.1,x.r.1,x.t.1,x.u.1,x.v.1,x.w.1⟩;have c:z.z.1=y.y.1:=x.y.1;unfold KO kJ bV;rw[zmA];simp only[Zt,Q8,s,p,zj];by_cases g:e=0
 .have j:=n g;have i:vp y.q.1 y.2.1.r.1=if LT.lt (α:=Int) (iB (fZ z) z.q.1.q.1) 0 then 1 else 0:=by
   unfold vp;rw[zf (l▸g),j.2.1,x.q.1];rfl
  simp only[g,ib,zD,zm];by_cases k:LT.lt (α:=Int) (iB (fZ z) z.q.1.q.1) 0
  .rw[zf k]at i;simp only[zB k,zj,i];exact⟨_,dO (outs:=[zk]) (r:=L 1) (a:=(1,())) (ps:=aE) _ rfl,d,c,b,λh=>by cases h⟩
  .rw[zh k]at i;simp only[aB k,i];refine⟨_,dO (outs:=[zk]) (r:=L 0) (a:=(0,())) (ps:=aE) _ rfl,d,c,b,λ_=>⟨j.q.1,?_,j.2.1,by rw[x.z]⟩⟩;show iB (fZ z) z.q.1.q.1=_;rw[j.2.1,x.q.1];rfl
 .have o:(e !=0)=O:=by simpa using g
  have i:vp y.q.1 y.2.1.r.1=e:=by
   unfold vp;rw[zh (l▸g),l]
  simp only[o,zj,i];exact⟨_,dO (outs:=[zk]) (r:=L e) (a:=(e,())) (ps:=aE) z rfl,d,c,b,λh=>zA h g⟩
theorem zmC(y:zp bY):zeH y=(let a:=ll y
  let b:=a.y.1.getD (Z 1) (Q zn)
  let h:=a.y.1.getD (Z 0) (Q zn)
  let x:=a.y.1.set (Z 0) (h.1,h.2.1,O)
  let c:=x.getD (Z 1) (Q zn)
  Zu y y a b h x c):=by unfold zeH;rw[zio]
theorem Wj(y:zp bY)(hl:X y.2.1.r.1=2):∃z:zp aE,CJ y=M ((rH y.q.1 y.2.1.r.1,()),z)/\pp y z/\z.z.1=y.y.1/\
  (ip z).length<=1000000/\(rH y.q.1 y.2.1.r.1=0->qw z (Ar y.q.1 y.2.1.r.1) y.x.1 (kd y.q.1 y.2.1.r.1) y.z.1):=by
 have⟨e,z,h1,g,he,h2,n⟩:=Ja y W;have hn:ll y=(e,z):=by unfold ll;rw[h1];rfl
 have hc:pV y=O:=by unfold pV;rw[h1];rfl
 have m:pp y z:=⟨g.1,g.2.1,g.q.1,g.r.1,g.t.1,g.u.1,g.v.1,g.w.1⟩;have l:z.z.1=y.y.1:=g.y.1;have s:z.y.1=y.x.1:=g.x.1;have h4:z.p.1=y.z.1:=by rw[g.z]
 unfold CJ kJ bV;rw[zmC];simp only[Zu,hn];by_cases o:e=0
 .have hI:=h2 o;have A:(ip z).length=2:=by rw[hI.q.1,dc];exact hl
  have d:ip z=e7 y.q.1 y.2.1.r.1:=hI.q.1;have h3:fZ z=kd y.q.1 y.2.1.r.1:=hI.2.1;have k:rH y.q.1 y.2.1.r.1=if((e7 y.q.1 y.2.1.r.1).getD 1 (Q zn)).2.1=(1:Int)then 0 else 5:=by
   unfold rH;rw[zf (he▸o)]
  have⟨B,C,D,E,F,G,H,P,j,U⟩:=z;obtain⟨c,b,rfl⟩:∃c b,j=[c,b]:=by
   match j,A with
   |[c,b],_=>exact⟨c,b,rfl⟩
  have d:[c,b]=e7 y.q.1 y.2.1.r.1:=d;unfold Ar;rw[<-d]at k|-;simp only[Q8,hc,zj,o,ib,zD,zm];have e1:zL 1 (X [c,b])=O:=rfl;have e0:zL 0 (X [c,b])=O:=rfl;by_cases i:b.2.1=(1:Int)
  .rw[zf (show([c,b].getD 1 (Q zn)).2.1=(1:Int)from i)]at k;rw[k];refine⟨(B,C,D,E,F,G,H,P,[(c.1,c.2.1,O),(b.1,b.2.1,S)],U),?_,m,l,W,λ_=>⟨rfl,s,h3,h4⟩⟩;simp[i,Y,zL];exact dO (outs:=[zk]) (r:=L 0) (a:=(0,())) (ps:=aE) (B,C,D,E,F,G,H,P,[(c.1,c.2.1,O),(b.1,1,S)],U) rfl
  .rw[zh (show¬([c,b].getD 1 (Q zn)).2.1=(1:Int)from i)]at k;rw[k];refine⟨(B,C,D,E,F,G,H,P,[c,b],U),?_,m,l,by show X [c,b]<=_;simp,λh=>by cases h⟩;simp[i,Y];exact dO (outs:=[zk]) (r:=L 5) (a:=(5,())) (ps:=aE) (B,C,D,E,F,G,H,P,[c,b],U) rfl
 .have hb:(e !=0)=O:=by simpa using o
  have k:rH y.q.1 y.2.1.r.1=e:=by
   unfold rH;rw[zh (he▸o),he]
  simp only[Q8,hc,hb,zj,k];exact⟨z,dO (outs:=[zk]) (r:=L e) (a:=(e,())) (ps:=aE) z rfl,m,l,n,λh=>zA h o⟩
def JnI(y:zp bY)(i:Nat)(z:zp eH):Prop:=pp y z/\z.z.1=y.y.1/\qw z (y.q.1.2.1++jv y.r.1 i) y.q.1.q.1 (nR y.r.1.q.1 i) (zZ y.q.1 y.2.1.u.1)
theorem mB(k:Int)(n:Nat):(Fv k n).length<=n:=by grind[Fv]
theorem Jf(k:Int)(n:Nat):Fv k (n+1)=if((n:Int)!=k)=O then Fv k n++[n]else Fv k n:=by grind[Fv,List.range_succ]
theorem zyd(y:zp bY)(z:zp eH)(C:JnI y 0 z)(D:X y.q.1.2.1<=100)(E:X y.r.1.2.1<=100)(n:Nat)(l:1+X y.r.1.2.1<=n):
  ∃r,em Sl n (.h11 y.r.1.2.1 (X y.r.1.2.1:Int) 0 z)=M r/\∃o:zp eH,r=(L 0,ba aE o)/\JnI y (X y.r.1.2.1) o:=by
 refine dP (t:=Sl) (β:=zp eH) (X y.r.1.2.1) (λz i=>.h11 y.r.1.2.1 (X y.r.1.2.1:Int) (i:Int) z) (λz i=>JnI y i z) _ 1 ?_ ?_ (X y.r.1.2.1) 0 z n rfl (aG _) C l
 .intro z i d j;have⟨e,c,a⟩:=j;have m:=mB y.r.1.q.1 i;have A:(ip z).length<=2000:=by
   rw[show ip z=_ from a.cols,jK,jv,dc];omega
  have B:(fZ z).length<=2000:=by
   rw[show fZ z=_ from a.ix,nR,dc];omega
  have g:z.r.1.q.1=y.r.1.q.1:=by rw[e.r.1]
  simp only[Sl,Mg,GL,Q8,zN d,zx d,zj,zX _ _ d];rw[zu i um];refine Or.inl ?_;have h:=Jf y.r.1.q.1 i;split
  .rename_i b;rw[g]at b;rw[zf b]at h;refine⟨(z.1,z.2.1,z.q.1,z.r.1,z.t.1,z.u.1,z.v.1,z.w.1,z.x.1++[y.r.1.2.1[i]],z.y.1,z.z.1,z.s.1++[(i:Int)],z.p),⟨e,c,⟨?_,a.key,?_,a.on⟩⟩,?_⟩
   .grind[qw.cols,jv]
   .grind[qw.ix,nR]
   grind
  .rename_i b;rw[g]at b;rw[zh b]at h;refine⟨z,⟨e,c,⟨?_,a.key,?_,a.on⟩⟩,rfl⟩
   .rw[a.cols,jv,jv,h]
   .rw[a.ix,nR,nR,h]
 .intro z n j l;obtain⟨n,rfl⟩:∃k,n=k+1:=⟨n-1,W⟩;grind[dg,Sl,Mg,GL,Q8]
theorem Z1(y:zp bY)(D:X y.q.1.2.1<=100)(E:X y.r.1.2.1<=100):∃z:zp aE,Ff y=M ((gK y.q.1 y.r.1 y.2.1.u.1 y.v.1,()),z)/\pp y z/\z.z.1=y.y.1/\
  (ip z).length<=1000000/\(gK y.q.1 y.r.1 y.2.1.u.1 y.v.1=0->qw z (y.q.1.2.1++jv y.r.1 (X y.r.1.2.1)) y.q.1.q.1 (nR y.r.1.q.1 (X y.r.1.2.1)) (zZ y.q.1 y.2.1.u.1)):=by
 have p:∀(a:aT)(b:Int)(c:zg)(d:List Int)(e:Int),pp y (y.1,y.2.1,y.q.1,y.r.1,y.t.1,y.u.1,y.v.1,y.w.1,a,b,c,d,e,()):=λ_ _ _ _ _=>⟨rfl,rfl,rfl,rfl,rfl,rfl,rfl,rfl⟩
 have A:Γ Δ (Γ Δ ((X y.q.1.2.1:Int)+(X y.r.1.2.1:Int))-1)=(X y.q.1.2.1:Int)+(X y.r.1.2.1:Int)-1:=by
  rw[mT ((X y.q.1.2.1:Int)+(X y.r.1.2.1:Int)) W W,mT _ W W]
 have o:∀e:Int,e≠0->(N5 y).val=M (.inr (L e,ba aE (y.1,y.2.1,y.q.1,y.r.1,y.t.1,y.u.1,y.v.1,y.w.1,[],y.x.1,y.y.1,[],zZ y.q.1 y.2.1.u.1,())))->gK y.q.1 y.r.1 y.2.1.u.1 y.v.1=e->∃z:zp aE,Ff y=M ((gK y.q.1 y.r.1 y.2.1.u.1 y.v.1,()),z)/\pp y z/\z.z.1=y.y.1/\
  (ip z).length<=1000000/\(gK y.q.1 y.r.1 y.2.1.u.1 y.v.1=0->qw z (y.q.1.2.1++jv y.r.1 (X y.r.1.2.1)) y.q.1.q.1 (nR y.r.1.q.1 (X y.r.1.2.1)) (zZ y.q.1 y.2.1.u.1)):=by
  intro e C l k;rw[k];refine⟨_,zaF l (dO (outs:=[zk]) (r:=L e) (a:=(e,())) (ps:=aE) _ rfl),p _ _ _ _ _,rfl,by show([]:aT).length<=_;simp,λh=>zA h C⟩
 by_cases g:LT.lt (α:=Int) (zZ y.q.1 y.2.1.u.1) 0
 .refine o 4 (by decide) ?_ (by unfold gK;rw[zf g]);grind[N5,N6,Q8,zo]
 by_cases i:ka y.q.1.t.1 (zZ y.q.1 y.2.1.u.1,y.v.1)=O
 .by_cases n:LT.lt (α:=Int) 9 ((X y.q.1.2.1:Int)+(X y.r.1.2.1:Int))
  .refine o 13 (by decide) ?_ (by unfold gK;rw[zh g,zf i,zf n]);simp only[N5,N6,Q8,zo,aB g,i,A];grind
  .have k:gK y.q.1 y.r.1 y.2.1.u.1 y.v.1=0:=by unfold gK;rw[zh g,zf i,zh n]
   have l:(N5 y).val=M (.inl (.h11 y.r.1.2.1 (X y.r.1.2.1:Int) 0 (y.1,y.2.1,y.q.1,y.r.1,y.t.1,y.u.1,y.v.1,y.w.1,y.q.1.2.1,y.q.1.q.1,y.y.1,[],zZ y.q.1 y.2.1.u.1,()))):=by
    simp only[N5,N6,Q8,zo,aB g,i,A];rw[zh sw,zh sw,zh sg,zf sg]
   obtain⟨r,B,m,rfl,j⟩:=zyd y (y.1,y.2.1,y.q.1,y.r.1,y.t.1,y.u.1,y.v.1,y.w.1,y.q.1.2.1,y.q.1.q.1,y.y.1,[],zZ y.q.1 y.2.1.u.1,()) ⟨p _ _ _ _ _,rfl,⟨by simp[jv,Fv],rfl,rfl,rfl⟩⟩ D E 100000000 W;rw[k];refine⟨m,?_,j.1,j.2.1,?_,λ_=>j.q⟩
   .unfold Ff kJ bV;rw[l];show(em Sl 100000000 _).bind _=_;rw[B];exact dO (outs:=[zk]) (r:=L 0) (a:=(0,())) (ps:=aE) m rfl
   .have s:=mB y.r.1.q.1 (X y.r.1.2.1);rw[show ip m=_ from j.q.cols,jK,jv,dc];omega
 .refine o 10 (by decide) ?_ (by unfold gK;rw[zh g,zh i]);grind[N5,N6,Q8,zo]
end Cad
