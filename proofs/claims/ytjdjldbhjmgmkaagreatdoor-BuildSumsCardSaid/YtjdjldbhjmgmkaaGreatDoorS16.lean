/- slices. -/
import Derived.Test.YtjdjldbhjmgmkaaGreatDoorS14
import Derived.Test.YtjdjldbhjmgmkaaGreatDoorS15
import Derived.Lib.DecodeN
namespace Cad
open Go Go.Proofs Go.Sort
open List renaming length→Io
open IntKind renaming wrap→Γ,i64→Δ
open Tr renaming val→Q8
open Bool renaming false→Q4,true→Q3
open Option renaming some→Q1
open Decidable renaming decide→Q0
open Int (toNat)
open List (getD)
open Tr (chk br re)
open AV (nils agg tup ptr kb str sl)
set_option maxHeartbeats 4000000
theorem uI:∀a b:zH,(Lib.compareBytes a b<0)↔Op.bytesLess a b=Q3
 |[],[]=>by simp[Lib.compareBytes,Op.bytesLess]
 |[],_::_=>by simp[Lib.compareBytes,Op.bytesLess]
 |_::_,[]=>by simp[Lib.compareBytes,Op.bytesLess]
 | a::r,b::s=>by
  unfold Lib.compareBytes Op.bytesLess;by_cases x:a<b
  .simp[x]
  .by_cases h:b<a
   .have:a≠b:=λe=>by rw[e]at h;exact zC h (UInt8.lt_irrefl b)
    simp[x,h,this]
   .have:a=b:=UInt8.le_antisymm (UInt8.not_lt.1 h) (UInt8.not_lt.1 x);subst this;simp[uI r s]
theorem F8:∀s:zH,Op.bytesLess s s=Q4
 |[]=>rfl
 |a::r=>by simp[Op.bytesLess,F8 r]
theorem Ch:∀{a b c:zH},Op.bytesLess a b=Q3->Op.bytesLess b c=Q3->Op.bytesLess a c=Q3
 |_,[],_,h,_=>by cases‹zH›<;>simp[Op.bytesLess]at h
 |_,_::_,[],_,h=>by simp[Op.bytesLess]at h
 |[],_::_,_::_,_,_=>rfl
 | a::x,b::y,c::z,h,g=>by
  simp only[Op.bytesLess,ng,aE,aQ,bd]at h g|-;rcases h with h|⟨rfl,h⟩
  .rcases g with g|⟨rfl,g⟩
   .exact .inl (UInt8.lt_trans h g)
   .exact .inl h
  .rcases g with g|⟨rfl,g⟩
   .exact .inl g
   .exact .inr ⟨rfl,Ch h g⟩
theorem Cg:∀{a b:zH},Op.bytesLess a b=Q4->a≠b->Op.bytesLess b a=Q3
 |[],[],_,h=>zC rfl h
 |[],_::_,h,_=>by simp[Op.bytesLess]at h
 |_::_,[],_,_=>rfl
 | a::x,b::y,h,hne=>by
  simp only[Op.bytesLess,Bool.or_eq_false_iff,dZ,Bool.and_eq_false_iff]at h;simp only[Op.bytesLess,ng,aE,aQ,bd];by_cases e:b=a
  .subst e;refine .inr ⟨rfl,Cg (h.2.resolve_left sw) λe=>hne (by rw[e])⟩
  .exact .inl (Nat.lt_of_le_of_ne (UInt8.not_lt.1 h.1) λc=>e (UInt8.toNat_inj.1 c))
def f7:zR->zR
 |[a,b]=>if Op.bytesLess b.1.1 a.1.1=Q3 then[b,a]else[a,b]
 |l=>l
theorem si(a b:am):f7 [a,b]=if Op.bytesLess b.1.1 a.1.1=Q3 then[b,a]else[a,b]:=rfl
def two(l:zR):Bool:=match l with
 |[_]=>Q3
 |[a,b]=>!((a.1.1:zH)==b.1.1)
 |_=>Q4
theorem ZZ{l g:zR}(h:two l=Q3)(c:List.Perm g l)(d:g.Pairwise λx y:am=>¬Lib.compareBytes y.1.1 x.1.1<0):g=f7 l:=by
 match l,h with
 |[a],_=>exact List.perm_singleton.1 c
 | [a,b],h=>
  have k:=c.length_eq;have i:(a.1.1:zH)≠b.1.1:=by simpa[two]using h
  match g,k,c,d with
  |[x,y],_,c,d=>
  have d:¬Lib.compareBytes y.1.1 x.1.1<0:=by simpa using d
  rw[uI]at d;have m:x=a/\y=b\/x=b/\y=a:=by
   have e:x∈[a,b]:=c.mem_iff.1 sw;rcases b8.1 e with rfl|e
   .have:=(List.perm_cons x).1 c;exact .inl ⟨rfl,by simpa using this⟩
   .have j:x=b:=by simpa using e
    subst j;have:=(List.perm_cons x).1 (c.trans (List.Perm.swap x a []));exact .inr ⟨rfl,by simpa using this⟩
  rw[si];rcases m with⟨rfl,rfl⟩|⟨rfl,rfl⟩
  .rw[zg d]
  .rw[ze (Cg (by simpa using d) i)]
def zhl:z8:=λa h _=>match a with
 | [.vec id,.clo (.func 82) [] [.ptr nb 0]]=>match h id,h nb with
  |.vec ztq l,.box [.clo (.func 78) [] []]=>.chk (two l) (.ok {val:=.tup [],wr:=[(id,.vec zk (f7 l))]})
  |_,_=>.err
 |_=>.err
theorem zuJ:Go.Proofs.Enters Tryz.prog 82:=by
  cases h:Tryz.f82.body with
  | none => have:Tryz.f82.body.isNone=false:=by kernel_rfl
            rw[h]at this;cases this
  |some c=>exact Go.Proofs.enters_of (fn:=Tryz.f82) kw kw h
theorem zi8:FK 138 zhl where
 fn:=⟨Tryz.f138,kw,kw,kw⟩
 calls:=λw U ρ hp n x9 h0 f fp a S X i6 s N i3 i7=>by
  unfold zhl at a;split at a
  .rename_i id nb;split at a
   .rename_i l b c;simp only[Tr.val_chk,Tr.val_ok,bg]at a;obtain⟨F,rfl⟩:=a;have hl:=S.len
    match h0,hl,S with
    |[va,vc],_,S=>
    have r0:=S.rv 0 _ va rfl rfl;have r1:=S.rv 1 _ vc rfl rfl;cases r0 with
    |vec _ _ x5 _=>
    cases r1 with
    |clo _ _ _ vf x8 a hc i8 u=>
    match vf,a,x8,hc,u with
    |[],_,[pv],_,u=>
    have r2:=u 0 _ pv rfl rfl;cases r2 with
    |ptr _ _ i I=>
    have C:id∈fp:=N id (by simp[AV.idsL,AV.ids]);have Y:nb∈fp:=N nb (by simp[AV.idsL,AV.ids]);have ob:=s.ob nb Y;have Z:=s.ob id C;rw[c]at ob;rw[b]at Z;obtain⟨b',T,j,e1,h9,h8,W,i2⟩:=ob;rw[I]at e1;cases e1;have k:=W.len;have M:=W.rv 0 _ (j.toList[0]'(by rw[<-k];simp)) rfl (z6 _);have o:w.cell? ⟨i,0,none⟩=Q1 (.func (.func 78) #[] #[]):=by
     generalize hx:j.toList[0]'(by rw[<-k];simp)=x at M;cases M with
     |clo _ _ _ vf vc a hc _ _=>
     match vf,a,vc,hc with
     |[],_,[],_=>
     rw[World.cell?,h8];have:j[0]?=Q1 (Value.func (.func 78) #[] #[]):=by
      rw[<-pl,z6 (by rw[<-k];simp),hx]
     simpa using this
    have J:=X i h9;have O:l≠[]:=λe=>by rw[e]at F;cases F
    have i0:Io l<=2:=by
     match l,F with
     |[_],_=>simp
     |[_,_],_=>simp
    refine⟨(zao (n:=n) (e:=zk) (G:=λ_=>True) (λx y:am=>Lib.compareBytes x.1.1 y.1.1) (by decide) X b Z x5 O (λ_ _=>trivial) ?_).mono ?_,by simp;exact C⟩
    .intro i1 B h7 d i5 hH H P;have x0:i≠B:=λe=>by
      have:=s.inj id C nb Y B (by rw[b];exact P) (by rw[c];exact⟨rfl,_,I,by simp[bJ,e]⟩);subst this;rw[b]at c;cases c
     refine AnyQ.slices_SortFunc Tryz.sortRel 12 Tryz.isAgg38 Tryz.sizeOf38 (λp:Pl w U ρ zk (λ_=>True)=>p.1.1) (λp=>p.2.1) (λp=>p.2.2.1) (λp q=>Lib.compareBytes p.1.2.1.1 q.1.2.1.1) ?_ 82 #[.pointer (Q1 ⟨i,0,none⟩)] B 0 h7 d w zuJ ?_ hH H ow
     .refine⟨λx=>?_,λx y z h g=>?_,λx y z h g=>?_⟩
      .have:=F8 x.1.2.1.1;simp only[ltOf,dZ,uI,this];simp
      .simp only[ltOf,aQ,uI]at*;exact Ch h g
      .simp only[ltOf,dZ,uI]at*;intro A;by_cases e:(x.1.2.1.1:zH)=y.1.2.1.1
       .rw[e]at A;exact g A
       .exact g (Ch (Cg (by simpa using h) e) A)
     .intro m os dk i4 x y;have nm:∀p:Pl w U ρ zk (λ_=>True),∃v1 v2 v3 v4 v5 v6 v7 v8 v9 D E,p.1.1=[.string ⟨(p.1.2.1.1:zH).toArray⟩,v1,v2,v3,v4,v5,v6,v7,v8,v9,D,E]:=by
       rintro⟨⟨cs,q⟩,h1,F,h3,h4⟩;obtain⟨v,x3,x4⟩:=h3 0 (.str q.1.1) rfl;have h1:Io cs=12:=h1
       match cs,h1 with
       |[a0,a1,a2,a3,a4,a5,a6,a7,a8,a9,h5,h6],_=>
       have:a0=v:=by simpa using x3
       subst this;cases x4;exact⟨a1,a2,a3,a4,a5,a6,a7,a8,a9,h5,h6,rfl⟩
      obtain⟨v1,v2,v3,v4,v5,v6,v7,v8,v9,D,E,ex⟩:=nm x;obtain⟨u1,u2,u3,u4,u5,u6,u7,u8,u9,x6,x7,ey⟩:=nm y;have t:(sortWorldK (λp:Pl w U ρ zk (λ_=>True)=>p.1.1) 12 w B 0 m dk os).heap[i]?=w.heap[i]?:=ic dk J x0
      have:=Tryz.cmp56 ⟨(x.1.2.1.1:zH).toArray⟩ ⟨(y.1.2.1.1:zH).toArray⟩ v1 v2 v3 v4 v5 v6 v7 v8 v9 D E u1 u2 u3 u4 u5 u6 u7 u8 u9 x6 x7 i (sortWorldK (λp:Pl w U ρ zk (λ_=>True)=>p.1.1) 12 w B 0 m dk os)
       (by rw[World.cell?_of_block t];exact o) (gF J (by unfold sortWorldK grow putRowK;simp[Sort.ahead]))
      show Calls Tryz.prog 82 (#[Value.agg x.1.1.toArray,Value.agg y.1.1.toArray]++#[Value.pointer (Q1 ⟨i,0,none⟩)]) _ _;rw[ex,ey];exact this
    .rintro e' w' ⟨l',x1,x2,v',U',ρ',rfl,L⟩;rw[ZZ F x1 x2]at L;exact⟨v',U',ρ',rfl,L⟩
   .simp at a
  .simp at a
open Go
variable {b:Nat}
theorem La{n b1 b2 m:Nat}(h:b<128):Lib.decodeN n b b1 b2 m=(b,1):=by unfold Lib.decodeN;rw[ze h]
theorem Ik{n b1 b2 b3:Nat}(h:¬b<128):128<=(Lib.decodeN n b b1 b2 b3).1:=by
 unfold Lib.decodeN;rw[zg h];repeat' split
 all_goals(simp only;omega)
theorem My{p:Nat->Bool}(j:∀c:Nat,p c=Q3↔(c<32\/c>126))(s:List UInt8):∀(f x:Nat),Io s<=x+f->(Lib.idxFuncFrom p Q3 ⟨s.toArray⟩ f x<0↔∀(i:Nat)(h:i<Io s),x<=i->32<=s[i].toNat/\s[i].toNat<=126)
 | 0,x,h=>by
  simp only[Lib.idxFuncFrom];exact⟨λ_ i b d=>zC b (by omega),λ_=>by decide⟩
 | f + 1,x,h=>by
  have k:(⟨s.toArray⟩:ByteArray).size=Io s:=by simp[ByteArray.size]
  rw[Lib.idxFuncFrom,k];by_cases a:x<Io s
  .have m:((⟨s.toArray⟩:ByteArray).get! x)=s[x]:=by
    simp[ByteArray.get!,a]
   rw[ze a,Lib.decode_at,m];by_cases l:s[x].toNat<128
   .rw[La l];simp only;by_cases g:p s[x].toNat=Q3
    .rw[ze g];have:=(j _).1 g;exact⟨λh=>zC h (by omega),λh=>by have:=h x a (ah _);omega⟩
    .rw[zg g,My j s f (x+1) (by omega)];have q:¬(s[x].toNat<32\/s[x].toNat>126):=λh=>g ((j _).2 h)
     refine⟨λh i b d=>?_,λh i b d=>h i b (by omega)⟩;by_cases e:i=x
     .subst e;omega
     .exact h i b (by omega)
   .have o:=Ik (n:=(⟨s.toArray⟩:ByteArray).size-x) (b1:=((⟨s.toArray⟩:ByteArray).get! (x+1)).toNat) (b2:=((⟨s.toArray⟩:ByteArray).get! (x+2)).toNat) (b3:=((⟨s.toArray⟩:ByteArray).get! (x+3)).toNat) l;rw[ze ((j _).2 (by omega))];exact⟨λh=>zC h (by omega),λh=>by have:=h x a (ah _);omega⟩
  .rw[zg a];exact⟨λ_ i b d=>zC b (by omega),λ_=>by decide⟩
theorem YD{p:Nat->Bool}(d:∀c:Nat,p c=Q3↔(c<32\/c>126))(s:List UInt8):Lib.idxFunc p Q3 ⟨s.toArray⟩<0↔∀b∈s,32<=b.toNat/\b.toNat<=126:=by
 have e:(⟨s.toArray⟩:ByteArray).size=Io s:=by simp[ByteArray.size]
 unfold Lib.idxFunc;rw[My d s _ 0 (by omega)];constructor
 .intro h b a;obtain⟨i,x,rfl⟩:=fP a;exact h i x (aM _)
 .intro h i x _;exact h _ (bp x)
open Go Go.Proofs
variable {g:Bool}
theorem gi{h:Bool}(x:g=Q3)(a:h=Q3):(ite (g=Q3) h Q4)=Q3:=by rw[ze x];exact a
variable {i:Nat}
theorem eM(h:i<=b):Q0 (i<=b)=Q3:=zy h
variable {v:zp}
theorem HT(h:bf v=Q3)(b:(v.1==2)=Q3):Io v.2.2<=40:=by
 have e:v.1=2:=by simpa using b
 unfold bf at h;rw[e]at h;simp only[show((2:Int)==0)=Q4 from rfl,show((2:Int)==1)=Q4 from rfl,show((2:Int)==2)=Q3 from rfl,zE,zm,zh]at h;cases x:v.2.1==0
 .rw[x]at h;simp at h
 .rw[x]at h;cases a:Q0 ((Io v.2.2:Int)<=40)
  .rw[a]at h;simp at h
  .have:=mi a;omega
theorem NN(v:zp):yB v=Q3:=by
 unfold yB;split
 .rfl
 .rename_i h;have h:bf v=Q3:=by simpa using h
  split
  .rfl
  .split
   .rename_i x;have c:=HT h x;have a:=lO v.2.2 [39] ot;have b:(Lib.replaceAll v.2.2 [39] ot).length<=200:=by
     simp only[eJ,pn]at a;omega
    refine gi ?_ (gi (eM ?_) (gi (eM ?_) rfl))
    .unfold wa;simp;omega
    .simp;omega
    .simp;omega
   .rfl
theorem yC(v:zp):(iu v).length<=300:=by
 unfold iu;split
 .simp
 .rename_i h;have h:bf v=Q3:=by simpa using h
  split
  .have:=G8 v.2.1;omega
  .split
   next x=>have b:=HT h x;have a:=lO v.2.2 [39] ot;simp only[eJ,pn]at a;simp;omega
   .split
    .split<;>simp
    .simp
variable {x:zH}
theorem HY(h:er x=Q3):Io x<=16:=by
 have h:qT x=Q3:=h;unfold qT at h;by_cases b:(Io x:Int)<=16
 .omega
 .exfalso;rw[z7 b]at h;cases a:Q0 ((Io x:Int)>=1)<;>rw[a]at h<;>simp at h
variable {c:Int}
theorem Yu{g:za->Int->Int->Bool×Int}{e:za}{n:Int}(h:(AQ g e c n).1=Q3)(b:e.op=eL):e.s.length<=16:=by
 unfold AQ at h;split at h
 .cases h
 .split at h
  next x=>rw[b]at x;simp at x
  .split at h
   .cases x:bu e.v
    .rw[x]at h;simp at h
    .rw[x]at h;cases a:er e.s
     .rw[a]at h;simp at h
     .exact HY a
   next x=>rw[b]at x;simp at x
theorem Ko(s:zH):(Lib.toUpperA s).length=Io s:=by simp[Lib.toUpperA]
theorem Cs:∀(N:Nat)(e:za)(d n:Int),N<=16->(iy N e d n).1=Q3->g6 N e=Q3/\(aZ N e).length<=400*2^N-100
 |0,_,_,_,_,h=>by cases h
 | N + 1,e,d,n,L,h=>by
  rw[iy]at h;obtain⟨q,p⟩:=xO h;have M:2^N<=2^15:=F0 ow ow;have A:1<=2^N:=Nat.one_le_two_pow;have B:2^(N+1)=2*2^N:=by rw[pN];omega
  have c:∀x∈e.l,g6 N x=Q3/\(aZ N x).length<=400*2^N-100:=by
   intro x u;rcases p with p|p
   .exfalso;have:dp e.op=0:=by
     rcases p with p|p<;>rw[p]<;>decide
    rw[this]at q;have:e.l=[]:=AG ow;rw[this]at u;simp at u
   .obtain⟨m,y⟩:=vu e.l _ p x u;exact Cs N x _ _ ow y
  have k:∀i,i<Io e.l->e.l.getD i (zi Sh.expr)∈e.l:=by
   intro i w;rw[aY,z6 w];exact bp w
  rw[g6,aZ];unfold A2 tv;rcases mv e.op with⟨j,a|a⟩|⟨j,a|a⟩|⟨j,a⟩|j
  .rw[a];simp only[beq_self_eq_true,zh];refine⟨gi (NN _) rfl,?_⟩;have:=yC e.v;omega
  .have O:=Yu h a;rw[a];refine⟨rfl,?_⟩;show e.s.length<=_;omega
  .rw[j]at q;have g:Io e.l=1:=by omega
   obtain⟨t,o⟩:=c _ (k 0 ow);rw[a];refine⟨gi ?_ (gi t (gi (eM ?_) (gi (eM ?_) rfl))),?_⟩
   .simp[zK,g]
   .simp at o|-;omega
   .simp at o|-;omega
   .show(uB++aZ N (e.l.getD 0 (zi Sh.expr))++[41]).length<=_;simp at o|-;omega
  .rw[j]at q;have g:Io e.l=1:=by omega
   obtain⟨t,o⟩:=c _ (k 0 ow);rw[a];refine⟨gi ?_ (gi t (gi (eM ?_) (gi (eM ?_) rfl))),?_⟩
   .simp[zK,g]
   .simp at o|-;omega
   .simp at o|-;omega
   .show([40]++aZ N (e.l.getD 0 (zi Sh.expr))++Cc).length<=_;simp at o|-;omega
  .rw[j]at q;have g:Io e.l=2:=by omega
   obtain⟨t,o⟩:=c _ (k 0 ow);obtain⟨E,F⟩:=c _ (k 1 ow);have C:(Q0 (e.op.length<=140737488355328)&&e.op.all λb=>Q0 (b.toNat<128))=Q3:=by
    rcases a with a|a|a|a|a|a<;>rw[a]<;>decide
   have z:e.op.length<=3:=by
    rcases a with a|a|a|a|a|a<;>rw[a]<;>simp
   have D:=Ko e.op;have G:(e.op==ou)=Q4:=by rcases a with a|a|a|a|a|a<;>rw[a]<;>rfl
   have H:(e.op==eL)=Q4:=by rcases a with a|a|a|a|a|a<;>rw[a]<;>rfl
   have I:(e.op==ni)=Q4:=by rcases a with a|a|a|a|a|a<;>rw[a]<;>rfl
   have J:(e.op==po)=Q4:=by rcases a with a|a|a|a|a|a<;>rw[a]<;>rfl
   simp only[G,H,I,J,zE,zm];refine⟨gi ?_ (gi t (gi (eM ?_) (gi (eM ?_) (gi C (gi (eM ?_) (gi (eM ?_) (gi ?_ (gi E (gi (eM ?_) (gi (eM ?_) rfl)))))))))),?_⟩
   .simp[zK,g]
   all_goals first
    |(simp[zK,g];done)
    |(simp at o F|-;omega)
  .rw[j]at q;omega
theorem II(e:za):rp e=Q3:=by
 unfold rp;split
 .rfl
 next h=>exact gi (Cs 16 e 1 0 ow (by simpa[dD]using h)).1 rfl
theorem OT(e:za):(oE e).1.length<=30000000:=by
 unfold oE;split
 .simp
 next h=>have:=(Cs 16 e 1 0 ow (by simpa[dD]using h)).2;show(aZ 16 e).length<=_;omega
theorem A9(p:Int->Bool):∀s:zH,cY p s<=Io s
 |[]=>by simp[cY]
 | c::r=>by
  have:=A9 p r;rw[cY];split<;>simp<;>omega
theorem sb(f m:Int->Bool)(s:zH):bw f m s<=Io s:=by
 cases s with
 |nil=>simp[bw]
 | cons c r=>
  have:=A9 m r;rw[bw];split<;>simp<;>omega
theorem zaq(i:Nat)(h:i<=4000000000):Γ Δ (i:Int)=(i:Int):=by
 have:=zu (i-1) um;cases i with
 |zero=>rfl
 |succ i=>simpa using this
theorem qV(i:Nat)(h:i<=4000000000):Γ Δ ((i:Int)+1)=((i+1:Nat):Int):=zu i um
theorem o8:∀(n:Nat)(s:zH)(i:Nat)(a:Int)(b:zH),1<=i->i<=Io s->Io s+2<=n+i->Io s<=1000000000->jv n s (i:Int) a b=Q3
 |0,s,i,a,b,e,g,j,c=>by omega
 | n + 1,s,i,a,b,e,g,j,c=>by
  rw[jv];split
  .rename_i h;have h:i<Io s:=by have:=mi h;omega
   refine gi (zx h) ?_;rw[qV i ow];split
   .exact o8 n s (i+1) a b ow ow ow c
   .refine gi ?_ ?_
    .cases x:Q0 (((i+1:Nat):Int)<(Io s:Int))
     .rfl
     .exact zx (by have:=mi x;omega)
    .split
     .rename_i d;have k:i+1<Io s:=by
       cases x:Q0 (((i+1:Nat):Int)<(Io s:Int))
       .rw[x]at d;simp at d
       .have:=mi x;omega
      rw[qV (i+1) ow];exact o8 n s (i+1+1) a b ow ow ow c
     .refine gi ?_ (gi ?_ rfl)
      .simp;omega
      .unfold wa;simp;omega
  .rfl
theorem tZ:∀(n:Nat)(s:zH)(i:Nat)(a:Int)(b:zH),1<=i->i<=Io s->Io s+2<=n+i->Io s<=1000000000->
  (fk n s (i:Int) a b=((0,[]),0))\/∃k:Nat,(fk n s (i:Int) a b).2=(k:Int)/\1<=k/\k<=Io s
 |0,s,i,a,b,e,g,j,x=>by omega
 | n + 1,s,i,a,b,e,g,j,x=>by
  rw[fk];split
  .rename_i h;have h:i<Io s:=by have:=mi h;omega
   rw[qV i ow];split
   .exact tZ n s (i+1) a b ow ow ow x
   .split
    .rename_i d;have l:i+1<Io s:=by
      cases c:Q0 (((i+1:Nat):Int)<(Io s:Int))
      .rw[c]at d;simp at d
      .have:=mi c;omega
     rw[qV (i+1) ow];exact tZ n s (i+1+1) a b ow ow ow x
    .exact .inr ⟨i+1,rfl,ow,ow⟩
  .exact .inl rfl
theorem Kq(t:dd):sk t=Q3:=by
 unfold sk;split
 .rfl
 .split
  .refine gi ?_ rfl;cases h:((Io t.2:Int)==1)
   .rfl
   .have:(Io t.2:Int)=1:=by simpa using h
    simp only[aw,bd];omega
  .simp
theorem E9(s:zH)(c:s≠[])(e:Io s<=1000000000):lh s=Q3:=by
 have x:1<=Io s:=by cases s with|nil=>exact zC rfl c|cons _ _=>simp
 have j:=sb ba bQ s;have k:=sb ap ap s;have i:o7 s=Q3:=o8 (Io s+1) s 1 _ _ ow x ow e;have g:zK 0 (Io s)=Q3:=zx x;have d:(Q0 ((0:Int)<=0)&&Q0 (0<=(↑(bw ba bQ s):Int))&&Q0 ((↑(bw ba bQ s):Int)<=(↑(Io s):Int)))=Q3:=by simp;omega
 have a:(Q0 ((0:Int)<=0)&&Q0 (0<=(↑(bw ap ap s):Int))&&Q0 ((↑(bw ap ap s):Int)<=(↑(Io s):Int)))=Q3:=by simp;omega
 have b:(Q0 ((0:Int)<=0)&&Q0 ((0:Int)<=1)&&Q0 (1<=(↑(Io s):Int)))=Q3:=by simp;omega
 unfold lh;simp only[i,g,zh,zE,zm];repeat' split
 all_goals first
  |rfl
  |(rename_i h;exfalso;apply h;simp;omega)
theorem wB(s:zH)(g:s≠[])(i:Io s<=1000000000)(x:cU (bP s).1=Q3):∃k:Nat,(bP s).2=(k:Int)/\1<=k/\k<=Io s:=by
 have m:1<=Io s:=by cases s with|nil=>exact zC rfl g|cons _ _=>simp
 have n:=sb ba bQ s;have o:=sb ap ap s;have d:=tZ (Io s+1) s 1 0 [] ow m ow i;unfold bP at x|-;simp only[zh,zE,zm]at x|-;split
 next h=>have:=mi h;exact⟨_,rfl,ow,ow⟩
 .rename_i h;rw[zg h]at x;split
  next a=>have:=mi a;exact⟨_,rfl,ow,ow⟩
  .rename_i a;rw[zg a]at x;split
   .rename_i j;rw[ze j]at x;rcases d with d|⟨k,l,b,c⟩
    .exfalso;have e:ig s=((0,[]),0):=d;rw[e]at x;revert x;decide
    .exact⟨k,l,b,c⟩
   .exact⟨1,rfl,ow,ow⟩
theorem wQ:∀(n:Nat)(s:zH)(i:Nat)(l:dr),i<=Io s->Io s+1<=n+i->Io s<=1000000000->Io l<=400->tr n s (i:Int) l=true
 |0,s,i,l,o,p,d,g=>by omega
 | n + 1,s,i,l,o,p,d,g=>by
  rw[tr];split
  .rename_i x;have x:i<Io s:=by have:=mi x;omega
   have m:List.take ((Io s:Int).toNat-(i:Int).toNat) (List.drop (i:Int).toNat s)=s.drop i:=by
    simp only[aJ];exact QG sw
   rw[m];refine gi ?_ ?_
   .rw[zx x];cases(((s.getD (i:Int).toNat 0).toNat:Int)==32)<;>rfl
   .split
    .rw[qV i ow];exact wQ n s (i+1) l ow ow d g
    .have b:s.drop i≠[]:=by
      intro h;have:=congrArg Io h;simp at this;omega
     have a:(s.drop i).length<=1000000000:=by simp;omega
     refine gi ?_ (gi (E9 _ b a) (gi (Kq _) ?_))
     .simp;omega
     .split
      .rfl
      .rename_i c;have j:cU (bP (s.drop i)).1=Q3:=by
        cases y:cU (bP (s.drop i)).1
        .rw[y]at c;simp at c
        .rfl
       have w:Io l≠400:=by
        intro q;rw[j,q]at c;simp at c
       obtain⟨k,t,u,e⟩:=wB _ b a j;have v:k<=Io s-i:=by simpa using e
       refine gi (eM ?_) ?_
       .simp;omega
       .rw[t,show((i:Int)+(k:Int))=((i+k:Nat):Int) by omega,zaq (i+k) ow];exact wQ n s (i+k) _ ow ow d sg
  .rfl
theorem V4(s:zH)(h:Io s<=1000000000):V2 s=Q3:=wQ (Io s+1) s 0 [] ow ow h sw
structure mH (s:zN):Prop where
 op:Io s.1<=1000
 table:Io s.2.1<=1000
 other:Io s.2.2.1<=1000
 names:Io s.2.2.2.1<=20/\∀x∈s.2.2.2.1,Io x<=1000
 cols:Io s.t.1<=20/\∀x∈s.t.1,Io x.1<=1000
 key:Io s.t.2.1<=1000
 uniques:Io s.t.q.1<=20/\∀x∈s.t.q.1,Io x<=1000
 refs:Io s.t.q.2.1<=20/\∀x∈s.t.q.2.1,Io x.1<=1000/\Io x.2<=1000
 row:Io s.t.t.2.1<=20
 sets:Io s.t.t.q.1<=20/\∀x∈s.t.t.q.1,Io x.1<=1000
 role:Io s.t.t.t<=1000
theorem vo(s:zH)(B:Nat):∀l:List zH,(∀x∈l,Io x<=B)->(Lib.join l s).length<=Io l*(B+Io s)
 |[],_=>by simp[Lib.join,List.intercalate]
 | [x],h=>by
  rw[Lib.join_one];have:=h x sw;simp;omega
 | x::y::r,h=>by
  have i:=vo s B (y::r) (λz a=>h z (jN _ a));have b:=h x sw;have e:Lib.join (x::y::r) s=x++s++Lib.join (y::r) s:=by simp[Lib.join,List.intercalate,List.intersperse]
  rw[e];simp only[ik,eJ]at i|-;rw[hV];omega
theorem qm{α:Type}(p:α->Bool):∀(l:List α)(i:Nat),(!Q0 (ac p l i>=0))=Q3->∀x∈l,p x=Q4
 |[],_,_,x,a=>by simp at a
 | y::r,i,h,x,a=>by
  rw[ac]at h;cases b:p y
  .rw[b]at h;rcases b8.1 a with rfl|a
   .exact b
   .exact qm p r (i+1) (by simpa using h) x a
  .exfalso;rw[b]at h;simp at h
   try omega
theorem FJ(e:za):qW e=Q3:=gi (II e) rfl
theorem AC(e:za):(iX e).length<=30000000:=OT e
theorem ov(s:zH)(h:Io s<=10)(e:za):uF s e=Q3:=by
 unfold uF;have:=AC e;split
 .rfl
 .refine gi (eM ?_) (gi (FJ e) (gi (eM ?_) (gi (eM ?_) rfl)))
  all_goals(simp;omega)
theorem tp(s:zH)(h:Io s<=10)(e:za):(lr s e).length<=30000030:=by
 unfold lr;have:=AC e;split
 .simp
 .simp;omega
theorem qL:∀(l:List (Sem Sh.str))(i:Int)(a:List zH),dX l i a=Lib.join (a++l.map mA) fi
 |[],i,a=>by simp[dX]
 |x::r,i,a=>by rw[dX,qL r];simp
theorem J6(B:Nat)(l:List (Sem Sh.str))(h:∀x∈l,(mA x).length<=B):(gY l).length<=Io l*(B+3):=by
 unfold gY;rw[qL];have:=vo fi B ([]++l.map mA) (λy a=>by
  simp only[F1,bh]at a;obtain⟨x,b,rfl⟩:=a;exact h x b)
 simpa using this
theorem wo(B:Nat)(g:B<=100000000):∀(l:List (Sem Sh.str))(i:Int)(a:List zH),(∀x∈l,(mA x).length<=B)->(∀x∈a,Io x<=B)->Io a+Io l<=40->eo l i a=Q3
 | [],i,a,_,d,c=>by
  rw[eo];refine gi ?_ rfl;have e:=vo fi B a d;have k:Io a*(B+3)<=40*100000003:=F3 (by simpa using c) ow
  replace e:(Lib.join a fi).length<=Io a*(B+3):=e
  simp only[aE,aQ];simp at c;exact⟨ow,ow⟩
 | x::r,i,a,h,d,c=>by
  rw[eo];have j:=h x sw;simp at c;refine gi (eM ?_) ?_
  .simp;omega
  .refine wo B g r (i+1) _ (λy b=>h y (jN _ b)) (λy b=>?_) sg;rcases cz.1 b with b|b
   .exact d y b
   .simp at b;subst b;exact j
variable {s:zN}
theorem eT{b:Bool}(h:(vi s).val=if g=Q3 then Q1 (.inr (.bool b,[]))else none):wj s=g/\fE s=(g&&b):=by unfold wj fE BF an bY;rw[h];cases g<;>cases b<;>exact⟨rfl,rfl⟩
theorem zdD(o:x=dm):(x==Oe)=Q4/\(x==bl1)=Q4/\(x==bl3)=Q4/\(x==K2)=Q4/\(x==bl0)=Q4/\(x==Ig)=Q4/\(x==bl9)=Q4/\(x==Oa)=Q4/\(x==N8)=Q4/\(x==N9)=Q4/\(x==dm)=Q3:=by rw[o];exact⟨rfl,rfl,rfl,rfl,rfl,rfl,rfl,rfl,rfl,rfl,rfl⟩
theorem zdE(o:x=gm):(x==Oe)=Q4/\(x==bl1)=Q4/\(x==bl3)=Q4/\(x==K2)=Q4/\(x==bl0)=Q4/\(x==Ig)=Q4/\(x==bl9)=Q4/\(x==Oa)=Q4/\(x==N8)=Q4/\(x==N9)=Q4/\(x==dm)=Q4/\(x==gm)=Q3:=by rw[o];exact⟨rfl,rfl,rfl,rfl,rfl,rfl,rfl,rfl,rfl,rfl,rfl,rfl⟩
theorem Y1(o:x=mU):(x==Oe)=Q4/\(x==bl1)=Q4/\(x==bl3)=Q4/\(x==K2)=Q4/\(x==bl0)=Q4/\(x==Ig)=Q4/\(x==bl9)=Q4/\(x==Oa)=Q4/\(x==N8)=Q4/\(x==N9)=Q4/\(x==dm)=Q4/\(x==gm)=Q4/\(x==mU)=Q3:=by rw[o];exact⟨rfl,rfl,rfl,rfl,rfl,rfl,rfl,rfl,rfl,rfl,rfl,rfl,rfl⟩
abbrev jS(o:zH):Prop:=o=dm\/o=gm\/o=mU
theorem gA(h:Io s.2.1<=1000)(x:Io s.2.2.1<=1000)(a:Io s.2.2.2.2.2.1<=1000)(b:Io s.2.2.2.2.2.2.2.2.2.2.2.2<=1000):eH s=Q3:=by
 unfold eH;refine gi (eM ?_) (gi (eM ?_) (gi (eM ?_) rfl))
 all_goals first|omega|(simp;omega)
theorem Cb{c:Bool}(h:g=Q3):(cond c g Q3)=Q3:=by cases c<;>simp[h]
def tC(s:zN):zH:=VS++Tj++[32]++s.2.1++lq++s.2.2.1++AH++gY s.2.2.2.1++iE++lr [32] s.t.t.1
def tJ(s:zN):zH:=VS++Tl++[32]++s.2.1++lq++s.2.2.1++fi++s.t.t.t++AI++s.t.2.1++lr [32] s.t.t.1
def tG(s:zN):zH:=VS++Tk++[32]++s.2.1++lq++s.2.2.1++Th++s.2.2.2.1.getD 0 []++Ti++s.2.2.2.1.getD 1 []++lr [32] s.t.t.1
theorem zhc(h:mH s)(o:s.1=dm):(Ah s).val=Q1 (.inr (.str (tC s),[]))/\(tC s).length<=1000000000:=by
 obtain⟨i,j,k,l,m,n,q,u,v,w,p⟩:=zdD o;have d:Lib.toUpperA s.1=Tj:=by rw[o];rfl
 have e:(Q0 (Io s.1<=140737488355328)&&List.all s.1 λb=>Q0 (b.toNat<128))=Q3:=by rw[o];decide
 have B:=h.table;have z:=h.other;have A:=h.role;have y:=h.key;have a:=ov [32] sw s.t.t.1;have g:=tp [32] sw s.t.t.1;have c:nW s.2.2.2.1=Q3:=wo 1000 ow s.2.2.2.1 0 [] h.names.2 sw (by have:=h.names.1;simp;omega);have x:=J6 1000 s.2.2.2.1 h.names.2;have x:(gY s.2.2.2.1).length<=20*1003:=aT x (F3 h.names.1 ow);refine⟨?_,by unfold tC;simp only[ik,eJ,pn];omega⟩;unfold tC;simp only[Ah,Q8,zn,e,d,i,j,k,l,m,n,q,u,v,w,p,c,a,zh,zE,zm]
 iterate 9 rw[ze (zy (by simp<;>omega))]
theorem zhe(h:mH s)(o:s.1=gm):(Ah s).val=Q1 (.inr (.str (tJ s),[]))/\(tJ s).length<=1000000000:=by
 obtain⟨g,i,j,k,l,m,n,q,u,v,p,a⟩:=zdE o;have c:Lib.toUpperA s.1=Tl:=by rw[o];rfl
 have d:(Q0 (Io s.1<=140737488355328)&&List.all s.1 λb=>Q0 (b.toNat<128))=Q3:=by rw[o];decide
 have A:=h.table;have y:=h.other;have z:=h.role;have w:=h.key;have x:=ov [32] sw s.t.t.1;have e:=tp [32] sw s.t.t.1;refine⟨?_,by unfold tJ;simp only[ik,eJ,pn];omega⟩;unfold tJ;simp only[Ah,Q8,zn,d,c,g,i,j,k,l,m,n,q,u,v,p,a,x,zh,zE,zm]
 iterate 10 rw[ze (zy (by simp<;>omega))]
theorem zhd(h:mH s)(o:s.1=mU)(c:Io s.2.2.2.1=2):(Ah s).val=Q1 (.inr (.str (tG s),[]))/\(tG s).length<=1000000000:=by
 obtain⟨m,q,u,v,w,y,z,A,B,C,p,a,_⟩:=Y1 o;have e:Lib.toUpperA s.1=Tk:=by rw[o];rfl
 have i:(Q0 (Io s.1<=140737488355328)&&List.all s.1 λb=>Q0 (b.toNat<128))=Q3:=by rw[o];decide
 have I:=h.table;have G:=h.other;have H:=h.role;have F:=h.key;have x:=ov [32] sw s.t.t.1;have j:=tp [32] sw s.t.t.1;have n0:(s.2.2.2.1.getD 0 []).length<=1000:=by
  rw[aY,z6 ow,bT];exact h.names.2 _ (bp _)
 have n:(s.2.2.2.1.getD 1 []).length<=1000:=by
  rw[aY,z6 ow,bT];exact h.names.2 _ (bp _)
 have k:zK 0 (Io s.2.2.2.1)=Q3:=by rw[c];rfl
 have l:zK 1 (Io s.2.2.2.1)=Q3:=by rw[c];rfl
 have g:getD s.2.2.2.1 (toNat 0) (zi Sh.str)=s.2.2.2.1.getD 0 []:=rfl;have d:getD s.2.2.2.1 (toNat 1) (zi Sh.str)=s.2.2.2.1.getD 1 []:=rfl;refine⟨?_,by unfold tG;simp only[ik,eJ,pn];omega⟩;unfold tG;simp only[Ah,Q8,zn,i,e,m,q,u,v,w,y,z,A,B,C,p,a,g,d,k,l,x,zh,zE,zm];generalize s.2.2.2.1.getD 0 []=D at n0;generalize s.2.2.2.1.getD 1 []=E at n
 iterate 10 rw[ze (zy (by simp<;>omega))]
theorem iW(h:(Ah s).val=Q1 (.inr (.str x,[]))/\Io x<=1000000000):EI s=Q3/\iV s=x:=by unfold EI iV JW an bY;rw[h.1];exact⟨rfl,rfl⟩
theorem JV(q:mH s)(y:jS s.1):wj s=Q3:=by
 have u:=q.other;have v:=q.key;have w:=q.role;rcases y with o|o|o
 .obtain⟨a,c,d,e,i,j,k,l,m,n,p⟩:=zdD o;obtain⟨x,_⟩:=eT (s:=s) (g:=_) (b:=_) (by simp only[vi,Q8,a,c,d,e,i,j,k,l,m,n,p,zh,zm,zE,zn];exact rfl);rw[x];exact Cb (gA (by simp) (by first|exact u|simp) (by first|exact v|simp) (by first|exact w|simp))
 .obtain⟨a,c,d,e,i,j,k,l,m,n,p,h⟩:=zdE o;obtain⟨x,_⟩:=eT (s:=s) (g:=_) (b:=_) (by simp only[vi,Q8,a,c,d,e,i,j,k,l,m,n,p,h,zh,zm,zE,zn];exact rfl);rw[x];exact Cb (gA (by simp) (by first|exact u|simp) (by first|exact v|simp) (by first|exact w|simp))
 .obtain⟨a,c,d,e,i,j,k,l,m,n,p,h,t⟩:=Y1 o;obtain⟨x,_⟩:=eT (s:=s) (g:=_) (b:=_) (by simp only[vi,Q8,a,c,d,e,i,j,k,l,m,n,p,h,t,zh,zm,zE,zn];exact rfl);rw[x];exact Cb (gA (by simp) (by first|exact u|simp) (by first|exact v|simp) (by first|exact w|simp))
theorem jR(h:fE s=Q3)(o:s.1=mU):Io s.2.2.2.1=2:=by
 obtain⟨k,l,m,n,q,t,u,v,w,y,p,a,c⟩:=Y1 o;obtain⟨_,j⟩:=eT (s:=s) (g:=_) (b:=_) (by simp only[vi,Q8,k,l,m,n,q,t,u,v,w,y,p,a,c,zh,zm,zE,zn];exact rfl);rw[j]at h;by_cases d:Io s.2.2.2.1=2
 .exact d
 .exfalso;have i:(cond (Q0 ((Io s.2.2.2.1:Int)<2)) Q3 (Q0 ((Io s.2.2.2.1:Int)>2)))=Q3:=by
   rcases Nat.lt_or_gt_of_ne d with x|x
   .have:Q0 ((Io s.2.2.2.1:Int)<2)=Q3:=zy ow;rw[this];rfl
   .have:Q0 ((Io s.2.2.2.1:Int)>2)=Q3:=zy ow;rw[this];cases Q0 ((Io s.2.2.2.1:Int)<2)<;>rfl
  rw[i]at h;cases e:cv s.2.1<;>cases x:cv s.2.2.1<;>rw[e,x]at h<;>simp at h
theorem Nz(x:mH s)(a:jS s.1):pg s=Q3:=by
 unfold pg;refine gi ?_ rfl;unfold wn;refine gi (JV x a) ?_;split
 .rfl
 .rename_i h;have b:fE s=Q3:=by simpa using h
  have:EI s=Q3/\(iV s).length<=1000000000:=by
   rcases a with o|o|o
   .have:=zhc x o;exact⟨(iW this).1,(iW this).2▸this.2⟩
   .have:=zhe x o;exact⟨(iW this).1,(iW this).2▸this.2⟩
   .have:=zhd x o (jR b o);exact⟨(iW this).1,(iW this).2▸this.2⟩
  exact gi this.1 (gi (V4 _ this.2) rfl)
theorem Fc:∀(e:List ((Int×Int×zH)×Int))(n:Nat)(x:Int),(kv e n x).length=Io e
 |[],_,_=>rfl
 |_::_,0,_=>rfl
 |_::r,n+1,x=>by simp[kv,Fc r n x]
theorem zap(e:List ((Int×Int×zH)×Int))(k:Int×Int×zH):(kc e k).length<=Io e+1:=by unfold kc;cases oe e k<;>simp
theorem HW:∀(e:List ((Int×Int×zH)×Int))(k:Int×Int×zH),(oe e k=Q3->lY e k<Io e)/\lY e k<=Io e
 |[],k=>⟨λh=>by simp[oe]at h,ah _⟩
 | p::r,k=>by
  obtain⟨x,b⟩:=HW r k;constructor
  .intro h;rw[lY];cases a:(k==p.1)with
   |true=>simp
   | false=>
    have:oe r k=Q3:=by simpa[oe,a]using h
    have:=x this;simp;omega
  .rw[lY];cases(k==p.1)<;>simp<;>omega
theorem zep(e:List ((Int×Int×zH)×Int))(k:Int×Int×zH):lY e k<(kc e k).length:=by
 obtain⟨x,a⟩:=HW e k;unfold kc;cases h:oe e k with
 |true=>exact x h
 |false=>simp;omega
def Fi(c:Int)(n:Nat):Prop:=0<=c/\c<n
theorem oJ(h:Fi c i):zK c i=Q3:=by simp[zK,h.1,h.2]
theorem qk(x:Int)(n:Nat):xF x n=Q3↔Fi x n:=by
 unfold Fi xF;by_cases h:x>=0
 .rw[zy h];simp;omega
 .rw[z7 h];simp;omega
variable {α:Type}
theorem yg{l:List α}{d:α}{p:α->Bool}:((List.range (Io l)).all λi=>p (l.getD i d))=Q3↔∀x∈l,p x=Q3:=by
 rw[dQ];constructor
 .intro h x b;obtain⟨i,a,rfl⟩:=fP b;have:=h i (pS.2 a)
  rwa [aY,z6 a]at this
 .intro h i a;have a:=pS.1 a;rw[aY,z6 a];exact h _ (bp a)
variable {t:ao}
theorem Ng:(List.range (Io t.t.1)).all (zdT t)=Q3↔∀f∈t.t.1,Fi f.1 (Io t.2.1)/\zU f.2=Q3:=by have h:=yg (l:=t.t.1) (d:=zi zB) (p:=λf:bW=>xF f.1 (Io t.2.1)&&zU f.2);simp only[aE,qk]at h;exact h
theorem gq(h:dM t=Q3):Fi t.2.2.1 (Io t.2.1)/\(∀f∈t.t.1,Fi f.1 (Io t.2.1))/\(∀u∈t.2.2.2.1,Fi u (Io t.2.1))/\Io t.2.1<=8/\1<=Io t.2.1:=by
 have g:=RN h;unfold dM at h;simp only[aE,qk]at h;obtain⟨x,_,a,b,e,_⟩:=h;have b:=Ng.1 b;have a:=(yg (l:=t.2.2.2.1) (d:=zi zj) (p:=λu=>xF u (Io t.2.1))).1 a;simp only[qk]at a;refine⟨e,λf i=>(b f i).1,a,g,?_⟩;cases c:zU t.1
 .rw[c]at x;simp at x
 .rw[c]at x;simp at x;omega
theorem Da{row:zt}(h:(cf t row !=0)≠Q3):Io row=Io t.2.1:=by
 simp at h;unfold cf at h;split at h
 .cases h
 .rename_i x;cases a:dM t with
  |false=>rw[a]at x;simp at x
  | true=>
   rw[a]at x;simp at x;omega
abbrev zS(c:Int)(r:zt):zp:=getD r (toNat c) (zi zf)
def sy(rows:List zt)(c:Int):Prop:=rows.Pairwise λa b=>(zS c a).1≠0->zS c a≠zS c b
theorem qS:∀(a:List ((Int×Int×zH)×Int))(k:Int×Int×zH)(x:Int),kv (kc a k) (lY a k) x=kQ a k x
 |[],k,x=>by simp[kc,oe,lY,kv,kQ]
 | p::r,k,x=>by
  have h:=qS r k x;cases b:(k==p.1)with
  | true=>
   have e:k=p.1:=bF b;simp[kc,oe,lY,kv,kQ,e]
  | false=>
   have e:kc (p::r) k=p::kc r k:=by
    simp only[kc,oe,List.any_cons,b,yN];cases(r.any λp=>k==p.1)<;>rfl
   rw[e,lY,kQ,b];show p::kv (kc r k) (lY r k) x=p::kQ r k x;rw[h]
theorem HV(c:List ((Int×Int×zH)×Int))(k a:Int×Int×zH)(x:Int):gR (kQ c k x) a=if a=k then x else gR c a:=by
 induction c with
 | nil=>
  by_cases h:a=k
  .subst h;simp[kQ,gR]
  .simp[kQ,gR,h]
 | cons p r i=>
  rw[kQ];cases d:(k==p.1)with
  | true=>
   have e:k=p.1:=bF d;by_cases h:a=k
   .simp[gR,h]
   .have g:(a==p.1)=Q4:=by rw[<-e];simpa using h
    have j:(a==k)=Q4:=by simpa using h
    simp only[aw,gR,List.find?_cons,g,j,zg h]
  | false=>
   show gR (p::kQ r k x) a=_;cases b:(a==p.1)with
   | true=>
    have e:a=p.1:=bF b;have h:a≠k:=by intro h;rw[<-h,b]at d;cases d
    simp only[gR,List.find?_cons,b,zg h]
   | false=>
    simp only[gR,List.find?_cons,b]at i|-;exact i
def vy:zt->List ((Int×Int×zH)×Int)
 |[]=>[]
 |v::r=>kQ (vy r) v (Γ Δ (gR (vy r) v+1))
theorem Mv:∀l:zt,(vy l).length<=Io l
 |[]=>ah _
 | v::r=>by
  rw[vy,<-qS,Fc];have:=zap (vy r) v;have:=Mv r;simp;omega
theorem DC:∀(l:zt)(v:zp),Io l<=1000000->gR (vy l) v=(l.count v:Int)
 |[],v,_=>by simp[vy,gR]
 | u::r,v,h=>by
  simp only[eJ]at h;have a:=DC r u ow;have b:=DC r v ow;have c:r.count u<=Io r:=List.count_le_length;rw[vy,HV,a,b,zu _ um];by_cases e:v=u
  .subst e;simp
  .have x:¬(u==v)=Q3:=by intro h;exact e (bF h).symm
   rw[zg e,List.count_cons,zg x];rfl
theorem Nd{x:am}(B:∀r∈x.2,zK c (Io r)=Q3)(M:Io x.2<=1000000):∃b,BA x c=Q1 (b,())/\(b=Q4↔sy x.2 c):=by
  let k:Nat->zp:=λi=>zS c (getD x.2 i (zi zf.sl))
  let m:Nat->List ((Int×Int×zH)×Int):=λi=>vy (((x.2.take i).map (zS c)).reverse)
  have y:∀i,i<Io x.2->m (i+1)=kQ (m i) (k i) (Γ Δ (gR (m i) (k i)+1)):=by
    intro i a;show vy (((x.2.take (i+1)).map (zS c)).reverse)=_;rw[List.take_succ_eq_append_getElem a,eC,List.reverse_append];show vy (zS c x.2[i]::_)=_;rw[vy];have:k i=zS c x.2[i]:=by
      show zS c (getD x.2 i _)=_;rw[aY,z6 a,bT]
    rw[this];rfl
  have q:∀i,i<=Io x.2->(m i).length<=i:=by
    intro i a;have:=Mv (((x.2.take i).map (zS c)).reverse);simp at this;have d:(m i).length=(vy (((x.2.take i).map (zS c)).reverse)).length:=rfl;simp at d;omega
  have o:∀i v,i<=Io x.2->gR (m i) v=((((x.2.take i).map (zS c)).count v:Nat):Int):=by
    intro i v a;show gR (vy _) v=_;rw[DC _ _ sg,List.count_reverse]
  have C:=mF (t:=AA) (Φ:=λr=>aU r.2 [Sh.bool] r.1=some (true,())) 1 (λi=>.h3 c x.2 (Io x.2:Int) (i:Int) (m i)) (λi=>(k i).1≠0->((x.2.take i).map (zS c)).count (k i)=0) (Io x.2) (by
    intro i a _;have k0:getD x.2 (i:Int).toNat (zi zf.sl)=getD x.2 i (zi zf.sl):=by rw[aJ]
    have A:getD x.2 i (zi zf.sl)=x.2[i]:=by rw[aY,z6 a,bT]
    have G:zK c (Io x.2[i])=Q3:=B _ (bp a);have n:k i=zS c x.2[i]:=by show zS c (getD x.2 i _)=_;rw[A]
    have H:zK ((lY (m i) (k i):Nat):Int) (kc (m i) (k i)).length=Q3:=zx (zep _ _);have I:Q0 ((m i).length<=1073741824)=Q3:=zy (by have:=q i ow;omega);have J:kv (kc (m i) (k i)) ((lY (m i) (k i):Nat):Int).toNat (Γ Δ (gR (m i) (k i)+1))=m (i+1):=by rw[aJ,qS,y i a]
    have L:gR (m (i+1)) (k i)=((((x.2.take i).map (zS c)).count (k i)+1:Nat):Int):=by
      have u:((x.2.take i).map (zS c)).count (k i)<=((x.2.take i).map (zS c)).length:=List.count_le_length;simp only[cQ,B2]at u;rw[y i a,HV,ze rfl,o i _ ow,zu _ um]
    have w:(AA (.h3 c x.2 (Io x.2:Int) (i:Int) (m i))).val=if(cond ((k i).1!=0) (Q0 (((((x.2.take i).map (zS c)).count (k i)+1:Nat):Int)>1)) Q4)=Q3 then Q1 (.inr (.kb Q3,[]))else Q1 (.inl (.h3 c x.2 (Io x.2:Int) ((i+1:Nat):Int) (m (i+1)))):=by
      show(AA (.h3 c x.2 _ _ _)).val=_;unfold AA;simp only[k0,A];rw[show getD x.2[i] (toNat c) (zi zf)=k i from n.symm];simp only[Q8,zI a,zx a,G,H,I,zh,J,L];rw[zu i um]
    by_cases l:(k i).1=0
    · refine .inl ⟨λh=>zC l h,zJ.of ?_⟩
      rw[w,zg (by simp[l])]
    · by_cases d:((x.2.take i).map (zS c)).count (k i)=0
      · refine .inl ⟨λ_=>d,zJ.of ?_⟩
        rw[w,zg (by rw[d];simp)]
      · refine .inr ⟨λh=>d (h l),(.kb true,[]),zY.of ?_,rfl⟩
        rw [w,ze (by have:((k i).1 != 0)=true:=by simpa using l
                     rw[this];simp only[aw,aQ];omega)])
  have z:(∀i,i<Io x.2->(k i).1≠0->((x.2.take i).map (zS c)).count (k i)=0)↔sy x.2 c:=by
    unfold sy;rw[List.pairwise_iff_getElem];constructor
    · intro h j i D a E g e
      have n:k i=zS c x.2[i]:=by show zS c (getD x.2 i _)=_;rw[aY,z6 a,bT]
      have:=h i a (by rw[n,<-e];exact g);rw[List.count_eq_zero,n,<-e]at this;exact this (bh.2 ⟨_,List.mem_take_iff_getElem.2 ⟨j,ow,rfl⟩,rfl⟩)
    · intro h i a g
      have n:k i=zS c x.2[i]:=by show zS c (getD x.2 i _)=_;rw[aY,z6 a,bT]
      rw[List.count_eq_zero];intro s;obtain⟨r,F,e⟩:=bh.1 s;obtain⟨j,D,rfl⟩:=List.mem_take_iff_getElem.1 F;rw[n]at e g;exact h j i ow a ow (by rw[e];exact g) e
  have p:(zgv x c).val=Q1 (.inl (.h3 c x.2 (Io x.2:Int) ((0:Nat):Int) (m 0))):=rfl;rcases C with⟨l,d⟩|⟨l,r,d,u⟩
  · refine⟨Q4,?_,λ_=>z.1 l,λ_=>rfl⟩
    refine zA p (d.ends (zY.of (r:=(.kb Q4,[])) ?_)) ow rfl;show(AA (.h3 c x.2 _ _ _)).val=_;simp only[AA,Q8,zG];rfl
  · refine⟨Q3,zA p d ow u,⟨λh=>?_,λh=>zC (z.2 h) l⟩⟩
    cases h
structure gL (x:am):Prop where
 uq:Io x.1.2.2.2.1<=1000
 rf:Io x.1.t.1<=1000
 rw:Io x.2<=1000
theorem yR(l:zR)(s:zH):ae l s=(-1:Int)\/((0:Int)<=ae l s/\LT.lt (α:=Int) (ae l s) (Io l)):=by have:=gp (λx:am=>x.1.1==s) l 0;simp at this;exact this
theorem dV{l:zR}(h:(0:Int)<=ae l x):zK (ae l x) (Io l)=Q3:=by
 rcases yR l x with a|⟨a,b⟩
 .rw[a]at h;omega
 .simp only[zK,aE,aQ];exact⟨a,b⟩
theorem aD{l:List α}{d:α}{Q:α->Prop}:(∀i,i<Io l->Q (l.getD i d))↔∀x∈l,Q x:=by
 constructor
 .intro h x b;obtain⟨i,a,rfl⟩:=fP b;have:=h i a
  rwa [aY,z6 a,bT]at this
 .intro h i a;rw[aY,z6 a,bT];exact h _ (bp a)
theorem ch{l:List α}{d:α}(h:i<Io l):l.getD i d∈l:=by rw[aY,z6 h,bT];exact bp h
theorem ma(i:Nat)(h:i<aI):Γ Δ (((i+1:Nat):Int)-1)=(i:Int):=by have:aI=9223372036854775807:=rfl;rw[dP];omega
def uk(a b:zp):Prop:=LT.lt (α:=Int) (aO a b) 0
theorem SQ{e:zp}:Q0 (GE.ge (α:=Int) (aO v e) 0)=Q3↔¬uk v e:=by unfold uk;rw[aQ];omega
structure ed (x:am):Prop where
 may:dM x.1=Q3
 few:Io x.2<=200
 fits:∀r∈x.2,cf x.1 r=(0:Int)
 key:sy x.2 x.1.2.2.1
 uniq:∀u∈x.1.2.2.2.1,sy x.2 u
 rise:∀i,i<Io x.2-1->uk (zS x.1.2.2.1 (getD x.2 i (zi zf.sl))) (zS x.1.2.2.1 (getD x.2 (i+1) (zi zf.sl)))
def Err(r:au):Prop:=∃e:Int,r=(.int .i64 e,[])/\e≠0
theorem Nb{d:am}(T:gL d):∃e:Int,pd d=Q1 (e,())/\(e=0↔ed d):=by
 have h0:=T.rw;have Z:=T.uq;have a:∀{k:Nat}{r:au},zY iz k (.h6 d.2 (Io d.2:Int) ((0:Nat):Int) (d,())) r->k<=100000000->(T7 d).val=Q1 (.inl (.h6 d.2 (Io d.2:Int) ((0:Nat):Int) (d,())))->∀e:Int,r=(.int .i64 e,[])->pd d=Q1 (e,()):=by
  intro k r h X x e w;subst w;exact zA x h X rfl
 by_cases C:dM d.1=Q3
 case neg=>
  refine⟨1,?_,λh=>(by cases h),λh=>zC h.may C⟩;unfold pd an bY;simp only[T7,zn,Q8];rw[ze (by simpa using C)];rfl
 by_cases U:Io d.2<=200
 case neg=>
  refine⟨13,?_,λh=>(by cases h),λh=>zC h.few U⟩;unfold pd an bY;simp only[T7,zn,Q8];rw[zg (by simpa using C),ze sg];rfl
 have x:(T7 d).val=Q1 (.inl (.h6 d.2 (Io d.2:Int) ((0:Nat):Int) (d,()))):=by
  simp only[T7,zn,Q8];rw[zg (by simpa using C),zg sg];rfl
 obtain⟨y,Y,P,_,_⟩:=gq C;have B:=mF (t:=iz) (Φ:=Err) 1 (λi=>.h6 d.2 (Io d.2:Int) (i:Int) (d,())) (λi=>cf d.1 (getD d.2 i (zi zf.sl))=(0:Int)) (Io d.2) (by
  intro i x _;have q:(iz (.h6 d.2 (Io d.2:Int) (i:Int) (d,()))).val=if(cf d.1 (getD d.2 i (zi zf.sl))!=0)=Q3 then Q1 (.inr (.int .i64 (cf d.1 (getD d.2 i (zi zf.sl))),[]))else Q1 (.inl (.h6 d.2 (Io d.2:Int) ((i+1:Nat):Int) (d,()))):=by
   show(iz (.h6 d.2 _ _ _)).val=_;unfold iz;simp only[zn,Q8,zI x,zx x,zh,aJ];rw[zu i um]
  by_cases h:cf d.1 (getD d.2 i (zi zf.sl))=(0:Int)
  .refine .inl ⟨h,zJ.of ?_⟩;rw[q,zg (by rw[h];simp)]
  .refine .inr ⟨h,_,zY.of (by rw[q,ze (by simpa using h)]),_,rfl,h⟩)
 rcases B with⟨N,B⟩|⟨N,r,B,e,w,n⟩
 case inr=>
  exact⟨e,a B ow x e w,λh=>zC h n,λh=>zC ((aD (Q:=λr=>cf d.1 r=(0:Int))).2 h.fits) N⟩
 have m:=(aD (Q:=λr=>cf d.1 r=(0:Int))).1 N;have I:∀r∈d.2,Io r=Io d.1.2.1:=λr z=>Da (by simpa using m r z)
 have p:∀c,Fi c (Io d.1.2.1)->∀r∈d.2,zK c (Io r)=Q3:=λc W r z=>by
  rw[I r z];exact oJ W
 obtain⟨b,G,l⟩:=Nd (x:=d) (c:=d.1.2.2.1) (p _ y) ow;have s:sa d d.1.2.2.1=Q3:=by unfold sa;rw[G];rfl
 have v:yf d d.1.2.2.1=b:=by unfold yf;rw[G];rfl
 have M:(iz (.h6 d.2 (Io d.2:Int) (Io d.2:Int) (d,()))).val=if b=Q3 then Q1 (.inr (.int .i64 7,[]))else Q1 (.inl (.h15 d.1.2.2.2.1 (Io d.1.2.2.2.1:Int) ((0:Nat):Int) (d,()))):=by
  show(iz (.h6 d.2 _ _ _)).val=_;unfold iz;simp only[zn,Q8,zG,s,v,zh];rfl
 by_cases o:b=Q3
 .refine⟨7,a (B.ends (zY.of (by rw[M,ze o]))) ow x 7 rfl,λh=>(by cases h),λh=>?_⟩;have:=l.2 h.key;rw[o]at this;cases this
 have H:sy d.2 d.1.2.2.1:=l.1 (by simpa using o);have D:zJ iz _ (.h6 d.2 (Io d.2:Int) ((0:Nat):Int) (d,())) _:=B.trans (zJ.of (by rw[M,zg o]));have g:=mF (t:=iz) (Φ:=Err) 1 (λi=>.h15 d.1.2.2.2.1 (Io d.1.2.2.2.1:Int) (i:Int) (d,())) (λi=>sy d.2 (getD d.1.2.2.2.1 i (zi zj))) (Io d.1.2.2.2.1) (by
  intro i x _;obtain⟨b,G,l⟩:=Nd (x:=d) (c:=getD d.1.2.2.2.1 i (zi zj)) (p _ (P _ (ch x))) ow;have s:sa d (getD d.1.2.2.2.1 i (zi zj))=Q3:=by unfold sa;rw[G];rfl
  have v:yf d (getD d.1.2.2.2.1 i (zi zj))=b:=by unfold yf;rw[G];rfl
  have q:(iz (.h15 d.1.2.2.2.1 (Io d.1.2.2.2.1:Int) (i:Int) (d,()))).val=if b=Q3 then Q1 (.inr (.int .i64 7,[]))else Q1 (.inl (.h15 d.1.2.2.2.1 (Io d.1.2.2.2.1:Int) ((i+1:Nat):Int) (d,()))):=by
   show(iz (.h15 _ _ _ _)).val=_;unfold iz;simp only[zn,Q8,zI x,zx x,zh,aJ,s,v];rw[zu i um]
  by_cases h:b=Q3
  .refine .inr ⟨λhu=>?_,_,zY.of (by rw[q,ze h]),7,rfl,by decide⟩;have:=l.2 hu;rw[h]at this;cases this
  .exact .inl ⟨l.1 (by simpa using h),zJ.of (by rw[q,zg h])⟩)
 rcases g with⟨O,g⟩|⟨O,r,g,e,w,n⟩
 case inr=>
  exact⟨e,a (D.ends g) ow x e w,λh=>zC h n,λh=>zC ((aD (Q:=λu=>sy d.2 u)).2 h.uniq) O⟩
 have A:=(aD (Q:=λu=>sy d.2 u)).1 O;have J:(iz (.h15 d.1.2.2.2.1 (Io d.1.2.2.2.1:Int) (Io d.1.2.2.2.1:Int) (d,()))).val=Q1 (.inl (.h21 ((0+1:Nat):Int) (d,()))):=by
  show(iz (.h15 _ _ _ _)).val=_;unfold iz;simp only[Q8,zG];rfl
 have E:=(D.trans g).trans (zJ.of J);have j:=mF (t:=iz) (Φ:=Err) 1 (λi=>.h21 ((i+1:Nat):Int) (d,())) (λi=>uk (zS d.1.2.2.1 (getD d.2 i (zi zf.sl))) (zS d.1.2.2.1 (getD d.2 (i+1) (zi zf.sl)))) (Io d.2-1) (by
  intro i x _;have S:i<Io d.2:=by omega
  have F:i+1<Io d.2:=by omega
  have q:(iz (.h21 ((i+1:Nat):Int) (d,()))).val=if Q0 (GE.ge (α:=Int) (aO (zS d.1.2.2.1 (getD d.2 i (zi zf.sl))) (zS d.1.2.2.1 (getD d.2 (i+1) (zi zf.sl)))) 0)=Q3 then Q1 (.inr (.int .i64 15,[]))else Q1 (.inl (.h21 ((i+1+1:Nat):Int) (d,()))):=by
   show(iz (.h21 _ _)).val=_;unfold iz;simp only[ma i um];simp only[Q8,zI F,zx F,zx S,aJ,p _ y _ (ch S),p _ y _ (ch F),zh];rw[zu (i+1) um]
  by_cases h:uk (zS d.1.2.2.1 (getD d.2 i (zi zf.sl))) (zS d.1.2.2.1 (getD d.2 (i+1) (zi zf.sl)))
  .exact .inl ⟨h,zJ.of (by rw[q,zg (λF=>SQ.1 F h)])⟩
  .exact .inr ⟨h,_,zY.of (by rw[q,ze (SQ.2 h)]),15,rfl,by decide⟩)
 rcases j with⟨z,j⟩|⟨z,r,j,e,w,n⟩
 case inr=>
  exact⟨e,a (E.ends j) ow x e w,λh=>zC h n,λh=>zC h.rise z⟩
 have L:(iz (.h21 ((Io d.2-1+1:Nat):Int) (d,()))).val=Q1 (.inr (.int .i64 0,[])):=by
  show(iz (.h21 _ _)).val=_;unfold iz;simp only[Q8];rw[zg sg]
 exact⟨0,a (E.ends (j.ends (zY.of L))) ow x 0 rfl,λ_=>⟨C,U,m,H,A,z⟩,λ_=>rfl⟩
def mb(v:zp):Prop:=LE.le (α:=Int) (-9223372036854775808) v.2.1/\LE.le (α:=Int) v.2.1 9223372036854775807/\Io v.2.2<=1000000
theorem cq:∀s:zH,Op.bytesLess s s=Q4
 |[]=>rfl
 |a::r=>by simp[Op.bytesLess,cq r]
theorem Uo(s:zH):(qo s<0)↔∀b∈s,32<=b.toNat/\b.toNat<=126:=by
 refine YD (p:=λr=>DG r) (λc=>?_) s;unfold DG;cases h:Q0 ((c:Int)<32)with
 |true=>simp at h|-;omega
 |false=>simp at h|-;omega
theorem zdq(b h x a c d e l:Bool):∃r,(ite (b=Q3) (Q1 (.inr (.bool (cond c e Q4),[]))) (ite (h=Q3) (Q1 (.inr (.bool e,[]))) (ite (x=Q3) (Q1 (.inr (.bool (cond c l Q4),[]))) (ite (a=Q3) (Q1 (.inr (.bool (cond c e (cond d e Q4)),[]))) (Q1 (.inr (.kb Q4,[])))))):Option (BP⊕au))=Q1 (.inr r)/\
  aU r.2 [Sh.bool] r.1=Q1 ((ite (b=Q3) (ite ((!c)=Q3) Q4 e) (ite (h=Q3) e (ite (x=Q3) (cond c (cond l Q3 Q4) Q4) (ite (a=Q3) (cond c e (cond d e Q4)) Q4))):Bool),()):=by cases b<;>cases h<;>cases x<;>cases a<;>cases c<;>cases d<;>cases e<;>cases l<;>exact⟨_,rfl,rfl⟩
theorem zdp(b h x a c d l:Bool):(ite (b=Q3) (ite ((!c)=Q3) Q4 Q4) (ite (h=Q3) Q4 (ite (x=Q3) (cond c (cond l Q4 Q4) Q4) (ite (a=Q3) (cond c Q4 (cond d Q4 Q4)) Q4))))=Q4:=by cases b<;>cases h<;>cases x<;>cases a<;>cases c<;>cases d<;>cases l<;>rfl
theorem MO(p:Io v.2.2<=1000000):Jd v=Q1 (bf v,()):=by
 obtain⟨k,n,s⟩:=v;have p:Io s<=1000000:=p;have w:=mF (t:=ta) (Φ:=λr=>r=(.kb Q4,[])) 1 (λi=>.h2 (i:Int) ((k,n,s),())) (λi=>32<=(getD s i 0).toNat/\(getD s i 0).toNat<=126) (Io s) (by
  intro i x _;have e:(ta (.h2 (i:Int) ((k,n,s),()))).val=if(cond (Q0 (((getD s i 0).toNat:Int)<32)) Q3 (Q0 (((getD s i 0).toNat:Int)>126)))=Q3 then Q1 (.inr (.kb Q4,[]))else Q1 (.inl (.h2 ((i+1:Nat):Int) ((k,n,s),()))):=by
   show(ta (.h2 _ _)).val=_;unfold ta;simp only[Q8,zI x,zx x,aJ,zh];rw[ze (by cases Q0 (((getD s i 0).toNat:Int)<32)<;>rfl)];rw[zu i um]
  by_cases c:(getD s i 0).toNat<32
  .refine .inr ⟨λh=>by omega,_,zY.of (by rw[e,ze (by rw[zy ow];rfl)]),rfl⟩
  .by_cases g:126<(getD s i 0).toNat
   .refine .inr ⟨λh=>by omega,_,zY.of (by rw[e,ze (by rw[z7 ow,zy ow];rfl)]),rfl⟩
   .refine .inl ⟨ow,zJ.of (by rw[e,zg (by rw[z7 ow,z7 ow];simp)])⟩)
 have x:(zgs (k,n,s)).val=Q1 (.inl (.h2 ((0:Nat):Int) ((k,n,s),()))):=rfl;have q:=Uo s;have u:=aD (l:=s) (d:=0) (Q:=λb=>32<=b.toNat/\b.toNat<=126);rcases w with⟨c,g⟩|⟨c,r,g,rfl⟩
 .have a:Q0 (qo s<0)=Q3:=zy (q.2 (u.1 c));have e:(ta (.h2 (Io s:Int) ((k,n,s),()))).val=(ite ((k==0)=Q3) (Q1 (.inr (.bool (cond (n==0) (s==[]) Q4),[]))) (ite ((k==1)=Q3) (Q1 (.inr (.bool (s==[]),[]))) (ite ((k==2)=Q3) (Q1 (.inr (.bool (cond (n==0) (Q0 ((Io s:Int)<=40)) Q4),[]))) (ite ((k==3)=Q3) (Q1 (.inr (.bool (cond (n==0) (s==[]) (cond (n==1) (s==[]) Q4)),[]))) (Q1 (.inr (.kb Q4,[]))))))):=by
   show(ta (.h2 _ _)).val=_;unfold ta;simp only[Q8,zG];rw[zg sw]
  obtain⟨r,m,o⟩:=zdq (k==0) (k==1) (k==2) (k==3) (n==0) (n==1) (s==[]) (Q0 ((Io s:Int)<=40));have j:bf (k,n,s)=(ite ((k==0)=Q3) (ite ((!(n==0))=Q3) Q4 (s==[])) (ite ((k==1)=Q3) (s==[]) (ite ((k==2)=Q3) (cond (n==0) (cond (Q0 ((Io s:Int)<=40)) Q3 Q4) Q4) (ite ((k==3)=Q3) (cond (n==0) (s==[]) (cond (n==1) (s==[]) Q4)) Q4)))):=by
   simp only[bf,a];rfl
  rw[j];exact zA x (g.ends (zY.of (e.trans m))) ow o
 .have a:Q0 (qo s<0)=Q4:=z7 (λh=>c (u.2 (q.1 h)));have y:(s==[])=Q4:=by
   cases s with
   |nil=>exact zC (λi x=>zC x sw) c
   |cons _ _=>rfl
  have j:bf (k,n,s)=Q4:=by
   simp only[bf,a,y];exact zdp (k==0) (k==1) (k==2) (k==3) (n==0) (n==1) (Q0 ((Io s:Int)<=40))
  rw[j];exact zA x g ow rfl
theorem lI(h:Io v.2.2<=1000000):mK v=Q3:=by unfold mK;rw[MO h];rfl
theorem oS(h:Io v.2.2<=1000000):sY v=bf v:=by unfold sY;rw[MO h];rfl
theorem Hw(h:Io v.2.2<=1000000):vL v=Q1 (aA v,()):=by unfold vL an bY;simp only[zgu,Q8,lI h,oS h,zh,aA];cases bf v<;>rfl
theorem rQ(h:Io v.2.2<=1000000):rP v=Q3:=by unfold rP;rw[Hw h];rfl
theorem vM(h:Io v.2.2<=1000000):fA v=aA v:=by unfold fA;rw[Hw h];rfl
def yv(b:Bool):zp:=if b then(3,1,[])else(3,0,[])
theorem DZ(b:Bool):vK b=Q1 (yv b,()):=by cases b<;>rfl
theorem oU(b:Bool):lJ b=Q3:=by unfold lJ;rw[DZ];rfl
theorem iq(b:Bool):bn b=yv b:=by unfold bn;rw[DZ];rfl
def Kw(v:zp)(n:Int):Bool:=v.1==3&&(v.2.1==n&&(v.2.2==[]&&Q3))
theorem Sg(v:zp)(b:Bool):MN v b=Q1 (Kw v (cond b 1 0),()):=by unfold MN an bY;simp only[zgt,Q8,oU,iq,zh];cases b<;>rfl
theorem Bf(v:zp)(b:Bool):nI v b=Q3:=by unfold nI;rw[Sg];rfl
theorem Jc(v:zp)(b:Bool):qx v b=Kw v (cond b 1 0):=by unfold qx;rw[Sg];rfl
theorem nZ:bc 0=(0,0,[]):=by decide
theorem lU:bc 1=(3,0,[]):=by decide
theorem lV:bc 2=(3,1,[]):=by decide
theorem jH(v:zp):(ep v==1)=Kw v 0/\(ep v==2)=Kw v 1:=by
 obtain⟨k,n,s⟩:=v;unfold ep Kw;simp only[bf];by_cases h:k=3
 .subst h;by_cases x:n=0
  .subst x;cases d:(s==[])<;>simp[dP]
  .by_cases a:n=1
   .subst a;cases d:(s==[])<;>simp[dP]
   .have e0:(n==0)=Q4:=by simpa using x
    have c:(n==1)=Q4:=by simpa using a
    simp[e0,c]
 .have e:(k==3)=Q4:=by simpa using h
  have b:(k !=3)=Q3:=by simpa using h
  simp[e,b]
theorem MM(a b:zp):DS a b=Q1 (FI a b,()):=by unfold DS an bY;simp only[zgA,Q8,Bf,Jc,iq,FI,(jH a).1,(jH a).2,(jH b).1,(jH b).2,nZ,lU,lV,ax,aw];cases Kw a 0<;>cases Kw b 0<;>cases Kw a 1<;>cases Kw b 1<;>rfl
theorem Sj(a b:zp):MQ a b=Q1 (vOr a b,()):=by unfold MQ an bY;simp only[zgB,Q8,Bf,Jc,iq,vOr,(jH a).1,(jH a).2,(jH b).1,(jH b).2,nZ,lU,lV,ax,aw];cases Kw a 0<;>cases Kw b 0<;>cases Kw a 1<;>cases Kw b 1<;>rfl
theorem MP(a:zp):DV a=Q1 (AS a,()):=by unfold DV an bY;simp only[zgz,Q8,Bf,Jc,iq,AS,(jH a).1,(jH a).2,nZ,lU,lV,ax,aw];cases Kw a 0<;>cases Kw a 1<;>rfl
theorem Ym(k x n a:Int)(s b:zH):(ite ((k==x&&(n==a&&(s==b&&Q3)))=Q3) (0:Int) (ite ((cond (Q0 (k<x)) Q3 (cond (k==x) (cond (Q0 (n<a)) Q3 (cond (n==a) (Op.bytesLess s b) Q4)) Q4))=Q3) (-1) 1))=Hm [sB k x,jd n a,ox s b]:=by
 simp only[Hm,sB,jd,ox];rcases BZ k x with h|h|h
 .have c:(k==x)=Q4:=dB.2 ow;simp[c,h]
 .subst h;rcases BZ n a with h|h|h
  .have c:(n==a)=Q4:=dB.2 ow;simp[c,h]
  .subst h;by_cases g:s=b
   .subst g;simp[cq]
   .have c:(s==b)=Q4:=dB.2 g;by_cases e:Op.bytesLess s b=Q3
    .simp[c,e]
    .simp[c,e]
  .have c:(n==a)=Q4:=dB.2 ow;have d:¬n<a:=by omega
   simp[c,d,h]
 .have c:(k==x)=Q4:=dB.2 ow;have d:¬k<x:=by omega
  simp[c,d,h]
theorem DX{e:zp}(h:Io v.2.2<=1000000)(x:Io e.2.2<=1000000):qz v e=Q1 (aO v e,()):=by unfold qz an bY;simp only[zq8,Q8,rQ h,rQ x,vM h,vM x,zh,aO];rw[<-Ym];generalize((aA v).1==(aA e).1&&((aA v).2.1==(aA e).2.1&&((aA v).2.2==(aA e).2.2&&Q3)))=b;generalize(cond (Q0 ((aA v).1<(aA e).1)) Q3 (cond ((aA v).1==(aA e).1) (cond (Q0 ((aA v).2.1<(aA e).2.1)) Q3 (cond ((aA v).2.1==(aA e).2.1) (Op.bytesLess (aA v).2.2 (aA e).2.2) Q4)) Q4))=a;cases b<;>cases a<;>rfl
theorem zX(l:List α)(d:α)(h:i<Io l):l.getD ((i:Int).toNat) d=l[i]:=by rw[aJ,aY,z6 h,bT]
theorem Dh(l:List α)(d:α)(h:i<Io l):l.getD i d∈l:=by rw[aY,z6 h,bT];exact bp h
def bK(f w:zH):List zH:=if(w==[])=Q3 then[f]else[f,w]
def ek(db:zR)(ns:List zH):Bool:=db.any λx=>!aG ns x.1.1&&Q0 (GE.ge (α:=Int) (ac (λf:bW=>aG ns f.2) x.1.t.1 0) 0)
def pf(db:zR)(f w t:zH):Int:=
 if∀n∈bK f w,LE.le (α:=Int) 0 (ae db n)then(if(Q0 (GE.ge (α:=Int) (ae db t) 0)||f==w)=Q3 then 7 else if ek db (bK f w)=Q3 then 10 else 0)else 6
def zfM(y h:zo bB):Prop:=
 (0:Int)<=ae y.1 y.t.2.1/\(y.t.q.1=[]\/(0:Int)<=ae y.1 y.t.q.1)/\LT.lt (α:=Int) (ae y.1 y.2.1.2.1) 0/\y.t.2.1≠y.t.q.1/\
 h.2.2.1=(getD y.1 (toNat (ae y.1 y.t.2.1)) (zi zk)).1/\
 h.2.2.2.1=(ite (y.t.q.1=[]) y.2.2.2.1 ((getD y.1 (toNat (ae y.1 y.t.q.1)) (zi zk)).1))
def zbO(y:zo bB)(r:au):Prop:=∃(e:Int)(h:zo bB),r=(.int .i64 e,aB bB h)/\h.1=y.1/\h.2.1=y.2.1/\h.t=y.t/\e=pf y.1 y.t.2.1 y.t.q.1 y.2.1.2.1/\(e=0->zfM y h)
theorem zty(y:zo bB)(a:List zH)(G:Io y.1<=1000000)(s:(0:Int)<=ae y.1 y.t.2.1)(u:y.t.q.1=[]\/(0:Int)<=ae y.1 y.t.q.1)(z:LT.lt (α:=Int) (ae y.1 y.2.1.2.1) 0)(A:y.t.2.1≠y.t.q.1)(e:pf y.1 y.t.2.1 y.t.q.1 y.2.1.2.1=if ek y.1 a=Q3 then 10 else 0)(n:Nat)(B:1+Io y.1<=n):
  ∃r,eh E2 n (.h11 y.1 (Io y.1:Int) 0 y a)=Q1 r/\zbO y r:=by
 refine eP (t:=E2) (β:=Unit) (Io y.1) (λ_ i=>.h11 y.1 (Io y.1:Int) (i:Int) y a) (λ_ i=>∀j(g:j<Io y.1),j<i->(!aG a y.1[j].1.1&&Q0 (GE.ge (α:=Int) (ac (λf:bW=>aG a f.2) y.1[j].1.t.1 0) 0))=Q4) (zbO y) 1 ?_ ?_ (Io y.1) 0 () n rfl (aM _) (λj _ h=>by omega) B
 .intro b i o v;simp only[E2,Kc,E3,Q8,zI o,zx o,zh,zX y.1 _ o];rw[zu i um];have d:(!aG a y.1[i].1.1&&Q0 (GE.ge (α:=Int) (ac (λf:bW=>aG a f.2) y.1[i].1.t.1 0) 0))=Q4->∀j(g:j<Io y.1),j<i+1->(!aG a y.1[j].1.1&&Q0 (GE.ge (α:=Int) (ac (λf:bW=>aG a f.2) y.1[j].1.t.1 0) 0))=Q4:=by
   intro h j g E;by_cases l:j=i
   .subst l;exact h
   .exact v j g ow
  by_cases c:(!aG a y.1[i].1.1)=Q3
  .simp only[c,zh];split
   .rename_i p;refine Or.inr ⟨_,rfl,10,y,rfl,rfl,rfl,rfl,?_,λh=>by cases h⟩;have w:ek y.1 a=Q3:=by
     unfold ek;exact List.any_eq_true.2 ⟨y.1[i],bp o,by rw[c];simpa using p⟩
    rw[e,ze w]
   next p=>exact Or.inl ⟨(),d (by rw[c];simpa using p),rfl⟩
  .simp only[c];exact Or.inl ⟨(),d (by simp only[gT]at c;rw[c];rfl),rfl⟩
 .intro b n v B;have w:ek y.1 a=Q4:=by
   unfold ek;rw[List.any_eq_false];intro x F;obtain⟨j,g,rfl⟩:=fP F;rw[v j g g];simp
  rw[w]at e
  replace e:=e.symm
  simp only[zE,zm]at e;obtain⟨n,rfl⟩:∃k,n=k+1:=⟨n-1,ow⟩;rw[dR];simp only[E2,Kc,E3,Q8,zG,dV s,zh];by_cases c:(!y.t.q.1==[])=Q3
  .have m:y.t.q.1≠[]:=by simpa using c
   have C:(0:Int)<=ae y.1 y.t.q.1:=u.resolve_left m;simp only[c,zh,dV C];refine⟨_,rfl,0,_,rfl,rfl,rfl,rfl,e,λ_=>⟨s,u,z,A,rfl,?_⟩⟩;simp[m]
  .have D:y.t.q.1=[]:=by simpa using c
   simp only[c];refine⟨_,rfl,0,_,rfl,rfl,rfl,rfl,e,λ_=>⟨s,u,z,A,rfl,?_⟩⟩;simp[D]
theorem zwh(y:zo bB)(a:List zH)(d:a=bK y.t.2.1 y.t.q.1)(D:Io y.1<=1000000)(n:Nat)(u:2+Io y.1+Io a<=n):
  ∃r,eh E2 n (.h3 a (Io a:Int) 0 y a)=Q1 r/\zbO y r:=by
 have E:Io a<=2:=by rw[d];unfold bK;split<;>simp
 refine eP (t:=E2) (β:=Unit) (Io a) (λ_ i=>.h3 a (Io a:Int) (i:Int) y a) (λ_ i=>∀j(e:j<Io a),j<i->(0:Int)<=ae y.1 a[j]) (zbO y) (2+Io y.1) ?_ ?_ (Io a) 0 () n rfl (aM _) (λj _ h=>by omega) u
 .intro b i l o;simp only[E2,P8,Kd,Q8,zI l,zx l,zh,zX a _ l];rw[zu i um];by_cases c:(0:Int)<=ae y.1 a[i]
  .have:Q0 (LT.lt (α:=Int) (ae y.1 a[i]) 0)=Q4:=by simpa using c
   simp only[this];refine Or.inl ⟨(),λj e C=>?_,rfl⟩;by_cases g:j=i
   .subst g;exact c
   .exact o j e ow
  .have:Q0 (LT.lt (α:=Int) (ae y.1 a[i]) 0)=Q3:=by simpa using c
   simp only[this,zh];refine Or.inr ⟨_,rfl,6,y,rfl,rfl,rfl,rfl,?_,λh=>by cases h⟩;unfold pf;rw[zg];intro h;exact c (h _ (by rw[<-d];exact bp l))
 .intro b n o u;obtain⟨n,rfl⟩:∃k,n=k+1:=⟨n-1,ow⟩;have m:∀n∈bK y.t.2.1 y.t.q.1,LE.le (α:=Int) 0 (ae y.1 n):=by
   intro x w;rw[<-d]at w;obtain⟨j,e,rfl⟩:=fP w;exact o j e e
  have s:pf y.1 y.t.2.1 y.t.q.1 y.2.1.2.1=if(Q0 (GE.ge (α:=Int) (ae y.1 y.2.1.2.1) 0)||y.t.2.1==y.t.q.1)=Q3 then 7 else if ek y.1 a=Q3 then 10 else 0:=by
   unfold pf;rw[ze m,<-d]
  have z:(0:Int)<=ae y.1 y.t.2.1:=m _ (by unfold bK;split<;>simp);have A:y.t.q.1=[]\/(0:Int)<=ae y.1 y.t.q.1:=by
   by_cases v:(y.t.q.1==[])=Q3
   .left;simpa using v
   .right;exact m _ (by unfold bK;rw[zg v];simp)
  rw[dR];simp only[E2,P8,Kd,Q8,zG];by_cases c:(bif Q0 (GE.ge (α:=Int) (ae y.1 y.2.1.2.1) 0)then Q3 else y.t.2.1==y.t.q.1)=Q3
  .simp only[c,zh];refine⟨_,rfl,7,y,rfl,rfl,rfl,rfl,?_,λh=>by cases h⟩;rw[s,ze (by revert c;cases Q0 (GE.ge (α:=Int) (ae y.1 y.2.1.2.1) 0)<;>exact id)]
  .simp only[c];have p:Q0 (GE.ge (α:=Int) (ae y.1 y.2.1.2.1) 0)=Q4:=by
    cases B:Q0 (GE.ge (α:=Int) (ae y.1 y.2.1.2.1) 0)with
    |false=>rfl
    |true=>rw[B]at c;simp at c
   rw[p]at c;refine zty y a D z A (by simpa using p) (by simpa using c) ?_ n ow;rw[s,p,zg (by simpa using c)]
theorem Mq(y:zo bB)(d:Io y.1<=1000000):∃(e:Int)(h:zo bB),rB y=Q1 ((e,()),h)/\h.1=y.1/\h.2.1=y.2.1/\h.t=y.t/\e=pf y.1 y.t.2.1 y.t.q.1 y.2.1.2.1/\(e=0->zfM y h):=by
 have x:lG (y.t.1,y.t.2.1,y.t.q.1,(y.t.q.2.1,[],y.t.t.1,[],[],zr y.t.t.2.1),[],y.t.t.q.1)=bK y.t.2.1 y.t.q.1:=rfl;obtain⟨r,b,e,h,rfl,c⟩:=zwh y _ x d 100000000 (by
  have:Io (lG (y.t.1,y.t.2.1,y.t.q.1,(y.t.q.2.1,[],y.t.t.1,[],[],zr y.t.t.2.1),[],y.t.t.q.1))<=2:=by rw[x];unfold bK;split<;>simp
  omega)
 refine⟨e,h,?_,c⟩;unfold rB kM bY;simp only[zc6,Q8];rw[b];exact dw (outs:=[zj]) (r:=.int .i64 e) (a:=(e,())) h rfl
theorem yu(h:i<b):Q0 ((i:Int).toNat<b)=Q3:=by simpa using h
def wA(t:ao):Int:=
 if∃i,i<Io t.2.1/\zV t (getD t.2.1 i (zi zl)).1≠(i:Int)then 7 else if(t.t.2.op==[])=Q3 then 0
 else if(cond ((ce t.t.2 t.2.1).2==0) (cond ((ce t.t.2 t.2.1).1!=3) ((ce t.t.2 t.2.1).1!=0) Q4) Q4)=Q3 then 5 else(ce t.t.2 t.2.1).2
abbrev SO(y:zo az):ao:=(y.t.q.2.1,y.t.t.1,y.t.t.2.1,[],[],y.t.t.q.1)
theorem tT(y:zo az)(g:Io y.t.t.1<=1000000):vr y=Q1 ((wA (SO y),()),y):=by
 have h:=eP (t:=NH) (β:=Unit) (Io y.t.t.1) (λ_ i=>.h2 (Io y.t.t.1:Int) (i:Int) y) (λ_ i=>∀j,j<i->j<Io y.t.t.1->zV (SO y) (getD y.t.t.1 j (zi zl)).1=(j:Int)) (λr=>r=(.int .i64 (wA (SO y)),aB az y)) 1 (by
   intro b i x e;simp only[NH,P9,Ke,Q8,zI x,zx x,zy x,zh,zn,aJ];rw[zu i um];by_cases c:(zV (SO y) (getD y.t.t.1 i (zi zl)).1!=(i:Int))=Q3
   .simp only[c,zh];refine Or.inr ⟨_,rfl,?_⟩;unfold wA;rw[ze ⟨i,x,by simpa using c⟩]
   .simp only[c];refine Or.inl ⟨(),λj p g=>?_,rfl⟩;by_cases h:j=i
    .subst h;simpa using c
    .exact e j ow g) (by
   intro b n e q;obtain⟨n,rfl⟩:∃k,n=k+1:=⟨n-1,ow⟩;have l:¬∃i,i<Io (SO y).2.1/\zV (SO y) (getD (SO y).2.1 i (zi zl)).1≠(i:Int):=by
    rintro⟨i,x,h⟩;exact h (e i x x)
   have o:(NH (.h2 (Io y.t.t.1:Int) (Io y.t.t.1:Int) y)).val=Q1 (.inr (.int .i64 (wA (SO y)),aB az y)):=by
    simp only[NH,P9,Ke,Q8,zG,zn];unfold wA;rw[zg l];split
    .simp_all
    .split
     .rfl
     .split<;>rfl
   rw[dR,o];exact⟨_,rfl,rfl⟩)
  y.t.t.1.length 0 () 100000000 rfl (aM _) (λj h=>by omega) ow
 obtain⟨r,m,rfl⟩:=h;unfold vr kM bY;simp only[zc7,Q8];have d:eh NH 100000000 (.h2 (Io y.t.t.1:Int) 0 y)=Q1 (.int .i64 (wA (SO y)),aB az y):=m;rw[d];exact dw (outs:=[zj]) (r:=.int .i64 (wA (SO y))) (a:=(wA (SO y),())) y rfl
theorem ww(t:ao)(s:zH):zV t s=(-1:Int)\/((0:Int)<=zV t s/\LT.lt (α:=Int) (zV t s) (Io t.2.1)):=by have:=gp (λc:bR=>c.1==s) t.2.1 0;unfold zV;simpa using this
theorem rx(h:¬LT.lt (α:=Int) (zV t x) 0):zK (zV t x) (Io t.2.1)=Q3:=by
 rcases ww t x with a|⟨a,b⟩
 .rw[a]at h;simp at h
 .simp only[zK,aE,aQ];exact⟨a,b⟩
theorem An(x:Int):∀(l:List Int)(i:Nat),GE.ge (α:=Int) (fa x l (i:Int)) 0↔x∈l
 | [],i=>by
  rw[fa];exact⟨λh=>zC h (by decide),λh=>by cases h⟩
 | a::r,i=>by
  rw[fa];split
  .rename_i h;have:x=a:=by simpa using h
   subst this;exact⟨λ_=>ln,λ_=>Int.natCast_nonneg i⟩
  next h=>have:=An x r (i+1);rw[pQ]at this;rw[b8];refine⟨λb=>.inr (this.1 b),λb=>this.2 (b.resolve_left ?_)⟩;rintro rfl;simp at h
theorem tO(l:List Int)(x:Int):tN l x=Q3↔x∈l:=by unfold tN;rw[decide_eq_true_iff];exact An x l 0
def gv(t:ao)(n:List zH):Int:=if∀s∈n,¬LT.lt (α:=Int) (zV t s) 0 then(ite ((n.map (zV t)).Nodup) 0 7)else 4
theorem DF{l:List Int}:(l++[c]).Nodup↔l.Nodup/\c∉l:=by rw[List.nodup_append];simp;intro _;exact⟨λh x=>h c x rfl,λh y a e=>h (e▸a)⟩
theorem bv{l:List α}(h:i<Io l):l.take (i+1)=l.take i++[l[i]]:=by rw[List.take_add_one,z6 h];rfl
def NY(y:zo bB)(z:zo ef):Prop:=z.1=y.1/\z.2.1=y.2.1/\z.2.2.1=y.2.2.1/\z.2.2.2.1=y.2.2.2.1/\z.t.1=y.t.1/\z.t.2.1=y.t.2.1/\z.t.q.1=y.t.q.1/\z.t.q.2.1=y.t.q.2.1/\
 z.t.t.2.1=y.t.t.1/\z.t.t.q.1=y.t.t.2.1/\z.t.t.t=y.t.t.q
abbrev gP(z:zo ef):aN:=z.t.t.1
abbrev fz(z:zo ef):dA:=z.t.t.q.2.1
def NmI(y:zo bB)(l:List zH)(z:zo ef):Prop:=NY y z/\fz z=l.map (λs=>zV y.2.2.1 s)/\gP z=l.map (λs=>getD y.2.2.1.2.1 (toNat (zV y.2.2.1 s)) (zi zl))/\∀s∈l,¬LT.lt (α:=Int) (zV y.2.2.1 s) 0
def NmR(y:zo bB)(r:au):Prop:=∃(e:Int)(z:zo ef),r=(.int .i64 e,aB az z)/\NY y z/\e=gv y.2.2.1 y.2.1.2.2.2.1/\(e=0->NmI y y.2.1.2.2.2.1 z)/\(gP z).length<=1000000
theorem zr7(y:zo bB)(z:zo ef)(d:NmI y y.2.1.2.2.2.1 z)(l:gv y.2.2.1 y.2.1.2.2.2.1=if(fz z).Nodup then 0 else 7)(u:(fz z).length<=1000000)(m:Nat):∀(i n:Nat),(fz z).length-i=m->i<=(fz z).length->((fz z).take i).Nodup->1+m<=n->∃r,eh qO n (.h12b ((fz z).length:Int) (i:Int) z)=Q1 r/\NmR y r:=by
 intro i n v x g o;have a:(gP z).length<=1000000:=by
  have:=u;rw[d.2.1,cQ]at this;rw[d.2.2.1,cQ];exact this
 refine eP (t:=qO) (β:=Unit) (fz z).length (λ_ i=>.h12b ((fz z).length:Int) (i:Int) z) (λ_ i=>((fz z).take i).Nodup) (NmR y) 1 ?_ ?_ m i () n v x g o
 .intro b i x e;have s:(Q0 (0<=0)&&Q0 ((0:Int)<=(i:Int))&&Q0 ((i:Int)<=((fz z).length:Int)))=Q3:=by simp;omega
  simp only[qO,E5,yq,Q8,zI x,zx x,zh,s];rw[zu i um];rw[show List.take (toNat (i:Int)-toNat 0) (List.drop (toNat 0) z.t.t.q.2.1)=(fz z).take i by simp,show z.t.t.q.2.1.getD (toNat (i:Int)) (zi zj)=(fz z)[i]from zX (fz z) _ x];split
  next c=>refine Or.inr ⟨_,rfl,7,z,rfl,d.1,?_,λh=>(by cases h),a⟩;rw[l,zg];intro p;have j:((fz z).take (i+1)).Nodup:=p.sublist (List.take_sublist _ _);rw[bv x,DF]at j;exact j.2 ((tO _ _).1 c)
  next c=>refine Or.inl ⟨(),?_,rfl⟩;show((fz z).take (i+1)).Nodup;rw[bv x,DF];exact⟨e,λh=>c ((tO _ _).2 h)⟩
 .intro b n e o;rw[fQ]at e;obtain⟨n,rfl⟩:∃k,n=k+1:=⟨n-1,ow⟩;rw[dR];simp only[qO,E5,yq,Q8,zG];exact⟨_,rfl,0,z,rfl,d.1,by rw[l,ze e],λ_=>d,a⟩
theorem zv9(y:zo bB)(z:zo ef)(x:NmI y y.2.1.2.2.2.1 z)(g:gv y.2.2.1 y.2.1.2.2.2.1=if(fz z).Nodup then 0 else 7)(i:(fz z).length<=1000000)(n:Nat)(m:2+(fz z).length<=n):∃r,eh qO n (.h12 ((fz z).length:Int) 0 z)=Q1 r/\NmR y r:=by
 have d:(gP z).length<=1000000:=by
  have:=i;rw[x.2.1,cQ]at this;rw[x.2.2.1,cQ];exact this
 obtain⟨n,rfl⟩:∃k,n=k+1:=⟨n-1,ow⟩;rw[dR];by_cases h:0<(fz z).length
 .have l:(Q0 (0<=0)&&Q0 ((0:Int)<=((0:Nat):Int))&&Q0 (((0:Nat):Int)<=((fz z).length:Int)))=Q3:=by simp
  have a:(∃r,(qO (.h12 ((fz z).length:Int) ((0:Nat):Int) z)).val=Q1 (.inr r)/\NmR y r)\/(qO (.h12 ((fz z).length:Int) ((0:Nat):Int) z)).val=Q1 (.inl (.h12b ((fz z).length:Int) ((1:Nat):Int) z)):=by
   simp only[qO,Kg,E6,Q8,zI h,zx h,yu h,zh,l];rw[zu 0 um];split
   next c=>exact zC ((tO _ _).1 c) sw
   .exact Or.inr rfl
  rw[Int.ofNat_zero]at a;rcases a with⟨r,b,j⟩|b
  .rw[b];exact⟨r,rfl,j⟩
  .rw[b];exact zr7 y z x g i _ 1 n rfl ow (by rw[bv h];simp) ow
 .have e:(fz z).length=0:=by omega
  have a:(qO (.h12 ((fz z).length:Int) 0 z)).val=Q1 (.inr (.int .i64 0,aB az z)):=by
   rw[e];simp[qO,Kg,E6,Q8]
  rw[a];exact⟨_,rfl,0,z,rfl,x.1,by rw[g,ze (by rw[AG e];exact List.nodup_nil)],λ_=>x,d⟩
theorem nm3(y:zo bB)(z:zo ef)(v:NmI y [] z)(w:Io y.2.1.2.2.2.1<=1000000)(n:Nat)(o:3+Io y.2.1.2.2.2.1+Io y.2.1.2.2.2.1<=n):∃r,eh qO n (.h3 y.2.1.2.2.2.1 (Io y.2.1.2.2.2.1:Int) 0 z)=Q1 r/\NmR y r:=by
 refine eP (t:=qO) (β:=zo ef) (Io y.2.1.2.2.2.1) (λz i=>.h3 y.2.1.2.2.2.1 (Io y.2.1.2.2.2.1:Int) (i:Int) z) (λz i=>NmI y (y.2.1.2.2.2.1.take i) z) (NmR y) (3+Io y.2.1.2.2.2.1) ?_ ?_ (Io y.2.1.2.2.2.1) 0 z n rfl (aM _) (by simpa using v) o
 .intro z i a x;obtain⟨j,p,m,u⟩:=x;have b:(fz z).length<=1000000:=by rw[p,cQ,B2];omega
  have e:(gP z).length<=1000000:=by rw[m,cQ,B2];omega
  have g:z.2.2.1=y.2.2.1:=j.2.2.1;simp only[qO,Ql,Kh,Q8,zI a,zx a,zh,zX _ _ a,zn,aX];rw[zu i um];by_cases d:LT.lt (α:=Int) (zV z.2.2.1 y.2.1.2.2.2.1[i]) 0
  .simp only[zy d,zh];refine Or.inr ⟨_,rfl,4,z,rfl,j,?_,λh=>(by cases h),e⟩;unfold gv;rw[zg];intro h;exact h _ (bp a) (by rw[<-g];exact d)
  .simp only[z7 d,rx d];refine Or.inl ⟨(z.1,z.2.1,z.2.2.1,z.2.2.2.1,z.t.1,z.t.2.1,z.t.q.1,z.t.q.2.1,z.t.t.1++[getD z.2.2.1.2.1 (toNat (zV z.2.2.1 y.2.1.2.2.2.1[i])) (zi zl)],z.t.t.2.1,z.t.t.q.1,z.t.t.q.2.1++[zV z.2.2.1 y.2.1.2.2.2.1[i]],z.t.t.t),⟨j,?_,?_,?_⟩,?_⟩;rotate_left 3
   .rw[zg sw,ze (by have:Io z.t.t.q.2.1<=1000000:=b;simp;omega),ze trivial,ze (by have:Io z.t.t.1<=1000000:=e;simp;omega)]
   .show fz z++[zV z.2.2.1 y.2.1.2.2.2.1[i]]=_;rw[p,g,bv a,eC];rfl
   .show gP z++[getD z.2.2.1.2.1 (toNat (zV z.2.2.1 y.2.1.2.2.2.1[i])) (zi zl)]=_;rw[m,g,bv a,eC];rfl
   .intro s c;rw[bv a,cz]at c;rcases c with c|c
    .exact u s c
    .rw[dU]at c;rw[c,<-g];exact d
 .intro z n x o;obtain⟨n,rfl⟩:∃k,n=k+1:=⟨n-1,ow⟩;rw[fQ]at x;have b:(fz z).length=Io y.2.1.2.2.2.1:=by rw[x.2.1,cQ]
  rw[dR];simp only[qO,Ql,Kh,Q8,zG];have l:2+(fz z).length<=n:=by rw[b];omega
  refine zv9 y z x ?_ ow n l;unfold gv;rw[ze x.2.2.2,x.2.1]
theorem Hi(y:zo bB)(b:Io y.2.1.2.2.2.1<=1000000):∃(e:Int)(z:zo ef),Bc y=Q1 ((e,()),z)/\NY y z/\e=gv y.2.2.1 y.2.1.2.2.2.1/\(e=0->NmI y y.2.1.2.2.2.1 z)/\(gP z).length<=1000000:=by
 obtain⟨r,h,e,z,rfl,x⟩:=nm3 y (y.1,y.2.1,y.2.2.1,y.2.2.2.1,y.t.1,y.t.2.1,y.t.q.1,y.t.q.2.1,[],y.t.t.1,y.t.t.2.1,[],y.t.t.q)
  ⟨⟨rfl,rfl,rfl,rfl,rfl,rfl,rfl,rfl,rfl,rfl,rfl⟩,rfl,rfl,sw⟩ b 100000000 ow
 refine⟨e,z,?_,x⟩;unfold Bc kM bY;simp only[zdd,Q8];rw[h];exact dw (outs:=[zj]) (r:=.int .i64 e) (a:=(e,())) (ps:=az) z rfl
theorem zgq(y:zo bB):TW y=y:=by unfold TW;rw[zn,zn,zn,zn,zn]
def oh(y:zo bB)(z:zo az):Prop:=z.1=y.1/\z.2.1=y.2.1/\z.2.2.1=y.2.2.1/\z.2.2.2.1=y.2.2.2.1/\z.t.1=y.t.1/\z.t.2.1=y.t.2.1/\z.t.q.1=y.t.q.1/\z.t.q.2.1=y.t.q.2.1
structure FL (z:zo az) (cols:aN) (key:Int) (ix:List Int) (on:Int):Prop where
 cols:z.t.t.1=cols
 key:z.t.t.2.1=key
 ix:z.t.t.q.2.1=ix
 on:z.t.t.t.1=on
def eD(t:ao)(n:List zH):aN:=n.map λs=>getD t.2.1 (toNat (zV t s)) (zi zl)
def js(t:ao)(n:List zH):List Int:=n.map (zV t)
def tq(t:ao)(n:List zH):Int:=if gv t n=0 then(if LT.lt (α:=Int) (gV (js t n) t.2.2.1) 0 then 1 else 0)else gv t n
def qi(t:ao)(n:List zH):Int:=if gv t n=0 then(ite (((eD t n).getD 1 (zi zl)).2.1=(1:Int)) 0 5)else gv t n
def xE(t:ao)(n:List zH):aN:=
 [(((eD t n).getD 0 (zi zl)).1,((eD t n).getD 0 (zi zl)).2.1,Q3),(((eD t n).getD 1 (zi zl)).1,((eD t n).getD 1 (zi zl)).2.1,Q4)]
def fY(t u:ao)(k w:zH):Int:=
 if LT.lt (α:=Int) (zV t k) 0 then 4 else if jq t.t.1 (zV t k,w)=Q3 then(if LT.lt (α:=Int) 9 ((Io t.2.1:Int)+(Io u.2.1:Int))then 13 else 0)else 10
def DJ(k:Int)(n:Nat):List Nat:=(List.range n).filter λj=>(j:Int)!=k
def ju(k:Int)(n:Nat):List Int:=(DJ k n).map λ(j:Nat)=>(j:Int)
def fZ(u:ao)(n:Nat):aN:=(DJ u.2.2.1 n).map λj=>getD u.2.1 j (zi zl)
theorem zkA(y:zo bB):Xx y=Xy y y (ku y) (gV (ku y).t.t.t.1 (ku y).2.2.2.1.2.2.1):=by unfold Xx;rw[zgq]
theorem Yp(y:zo bB)(u:Io y.2.1.2.2.2.1<=1000):∃z:zo az,IX y=Q1 ((tq y.2.2.1 y.2.1.2.2.2.1,()),z)/\oh y z/\z.t.t.q.1=y.t.t.2.1/\
  (gP z).length<=1000000/\(tq y.2.2.1 y.2.1.2.2.2.1=0->FL z (eD y.2.2.1 y.2.1.2.2.2.1) (gV (js y.2.2.1 y.2.1.2.2.2.1) y.2.2.1.2.2.1) (js y.2.2.1 y.2.1.2.2.2.1) y.t.t.q.1):=by
 obtain⟨e,z,m,x,l,n,b⟩:=Hi y ow;have s:ku y=(e,z):=by unfold ku;rw[m];rfl
 have p:oN y=Q3:=by unfold oN;rw[m];rfl
 have d:oh y z:=⟨x.1,x.2.1,x.2.2.1,x.2.2.2.1,x.t.1,x.t.2.1,x.t.q.1,x.t.q.2.1⟩;have c:z.t.t.q.1=y.t.t.2.1:=x.t.t.2.1;unfold IX kM bY;rw[zkA];simp only[Xy,Q8,s,p,zh];by_cases g:e=0
 .have j:=n g;have i:tq y.2.2.1 y.2.1.2.2.2.1=if LT.lt (α:=Int) (gV (fz z) z.2.2.1.2.2.1) 0 then 1 else 0:=by
   unfold tq;rw[ze (l▸g),j.2.1,x.2.2.1];rfl
  simp only[g,jc,zE,zm];by_cases k:LT.lt (α:=Int) (gV (fz z) z.2.2.1.2.2.1) 0
  .rw[ze k]at i;simp only[zy k,zh,i];exact⟨_,dw (outs:=[zj]) (r:=.int .i64 1) (a:=(1,())) (ps:=az) _ rfl,d,c,b,λh=>by cases h⟩
  .rw[zg k]at i;simp only[z7 k,i];refine⟨_,dw (outs:=[zj]) (r:=.int .i64 0) (a:=(0,())) (ps:=az) _ rfl,d,c,b,λ_=>⟨j.2.2.1,?_,j.2.1,by rw[x.t.t.q]⟩⟩;show gV (fz z) z.2.2.1.2.2.1=_;rw[j.2.1,x.2.2.1];rfl
 .have o:(e !=0)=Q3:=by simpa using g
  have i:tq y.2.2.1 y.2.1.2.2.2.1=e:=by
   unfold tq;rw[zg (l▸g),l]
  simp only[o,zh,i];exact⟨_,dw (outs:=[zj]) (r:=.int .i64 e) (a:=(e,())) (ps:=az) z rfl,d,c,b,λh=>zC h g⟩
theorem zkC(y:zo bB):Xz y=(let a:=ku y
  let b:=a.t.t.2.1.getD (toNat 1) (zi zl)
  let h:=a.t.t.2.1.getD (toNat 0) (zi zl)
  let x:=a.t.t.2.1.set (toNat 0) (h.1,h.2.1,Q3)
  let c:=x.getD (toNat 1) (zi zl)
  XA y y a b h x c):=by unfold Xz;rw[zgq]
theorem Uj(y:zo bB)(P:Io y.2.1.2.2.2.1=2):∃z:zo az,Bb y=Q1 ((qi y.2.2.1 y.2.1.2.2.2.1,()),z)/\oh y z/\z.t.t.q.1=y.t.t.2.1/\
  (gP z).length<=1000000/\(qi y.2.2.1 y.2.1.2.2.2.1=0->FL z (xE y.2.2.1 y.2.1.2.2.2.1) y.t.t.1 (js y.2.2.1 y.2.1.2.2.2.1) y.t.t.q.1):=by
 obtain⟨e,z,L,d,G,N,m⟩:=Hi y ow;have S:ku y=(e,z):=by unfold ku;rw[L];rfl
 have M:oN y=Q3:=by unfold oN;rw[L];rfl
 have l:oh y z:=⟨d.1,d.2.1,d.2.2.1,d.2.2.2.1,d.t.1,d.t.2.1,d.t.q.1,d.t.q.2.1⟩;have k:z.t.t.q.1=y.t.t.2.1:=d.t.t.2.1;have o:z.t.t.2.1=y.t.t.1:=d.t.t.1;have I:z.t.t.t.1=y.t.t.q.1:=by rw[d.t.t.q]
 unfold Bb kM bY;rw[zkC];simp only[XA,S];by_cases n:e=0
 .have F:=N n;have p:(gP z).length=2:=by rw[F.2.2.1,cQ];exact P
  have b:gP z=eD y.2.2.1 y.2.1.2.2.2.1:=F.2.2.1;have H:fz z=js y.2.2.1 y.2.1.2.2.2.1:=F.2.1;have j:qi y.2.2.1 y.2.1.2.2.2.1=if((eD y.2.2.1 y.2.1.2.2.2.1).getD 1 (zi zl)).2.1=(1:Int)then 0 else 5:=by
   unfold qi;rw[ze (G▸n)]
  obtain⟨s,u,v,w,A,B,C,D,i,E⟩:=z;obtain⟨c,x,rfl⟩:∃c x,i=[c,x]:=by
   match i,p with
   |[c,x],_=>exact⟨c,x,rfl⟩
  have b:[c,x]=eD y.2.2.1 y.2.1.2.2.2.1:=b;unfold xE;rw[<-b]at j|-;simp only[Q8,M,zh,n,jc,zE,zm];have J:zK 1 (Io [c,x])=Q3:=rfl;have e0:zK 0 (Io [c,x])=Q3:=rfl;by_cases g:x.2.1=(1:Int)
  .rw[ze (show([c,x].getD 1 (zi zl)).2.1=(1:Int)from g)]at j;rw[j];refine⟨(s,u,v,w,A,B,C,D,[(c.1,c.2.1,Q3),(x.1,x.2.1,Q4)],E),?_,l,k,by show Io [(c.1,c.2.1,Q3),(x.1,x.2.1,Q4)]<=_;simp,λ_=>⟨rfl,o,H,I⟩⟩;simp[g,getD,zK];exact dw (outs:=[zj]) (r:=.int .i64 0) (a:=(0,())) (ps:=az) (s,u,v,w,A,B,C,D,[(c.1,c.2.1,Q3),(x.1,1,Q4)],E) rfl
  .rw[zg (show¬([c,x].getD 1 (zi zl)).2.1=(1:Int)from g)]at j;rw[j];refine⟨(s,u,v,w,A,B,C,D,[c,x],E),?_,l,k,by show Io [c,x]<=_;simp,λh=>by cases h⟩;simp[g,getD];exact dw (outs:=[zj]) (r:=.int .i64 5) (a:=(5,())) (ps:=az) (s,u,v,w,A,B,C,D,[c,x],E) rfl
 .have O:(e !=0)=Q3:=by simpa using n
  have j:qi y.2.2.1 y.2.1.2.2.2.1=e:=by
   unfold qi;rw[zg (G▸n),G]
  simp only[Q8,M,O,zh,j];exact⟨z,dw (outs:=[zj]) (r:=.int .i64 e) (a:=(e,())) (ps:=az) z rfl,l,k,m,λh=>zC h n⟩
def JnI(y:zo bB)(i:Nat)(z:zo ef):Prop:=oh y z/\z.t.t.q.1=y.t.t.2.1/\FL z (y.2.2.1.2.1++fZ y.2.2.2.1 i) y.2.2.1.2.2.1 (ju y.2.2.2.1.2.2.1 i) (zV y.2.2.1 y.2.1.t.2.1)
theorem lF(k:Int)(n:Nat):(DJ k n).length<=n:=by unfold DJ;exact aT (List.length_filter_le _ _) sw
theorem Hn(k:Int)(n:Nat):DJ k (n+1)=if((n:Int)!=k)=Q3 then DJ k n++[n]else DJ k n:=by
 unfold DJ;rw[List.range_succ,List.filter_append];split
 next h=>rw[List.filter_cons_of_pos (by exact h),List.filter_nil]
 next h=>rw[List.filter_cons_of_neg (by exact h),List.filter_nil,pR]
theorem zvO(y:zo bB)(z:zo ef)(s:JnI y 0 z)(u:Io y.2.2.1.2.1<=100)(v:Io y.2.2.2.1.2.1<=100)(n:Nat)(m:1+Io y.2.2.2.1.2.1<=n):
  ∃r,eh NG n (.h11 y.2.2.2.1.2.1 (Io y.2.2.2.1.2.1:Int) 0 z)=Q1 r/\∃p:zo ef,r=(.int .i64 0,aB az p)/\JnI y (Io y.2.2.2.1.2.1) p:=by
 refine eP (t:=NG) (β:=zo ef) (Io y.2.2.2.1.2.1) (λz i=>.h11 y.2.2.2.1.2.1 (Io y.2.2.2.1.2.1:Int) (i:Int) z) (λz i=>JnI y i z) _ 1 ?_ ?_ (Io y.2.2.2.1.2.1) 0 z n rfl (aM _) s m
 .intro z i c d;obtain⟨g,b,x⟩:=d;have o:=lF y.2.2.2.1.2.2.1 i;have e:(gP z).length<=2000:=by
   rw[show gP z=_ from x.cols,ik,fZ,cQ];omega
  have j:(fz z).length<=2000:=by
   rw[show fz z=_ from x.ix,ju,cQ];omega
  have l:z.2.2.2.1.2.2.1=y.2.2.2.1.2.2.1:=by rw[g.2.2.2.1]
  simp only[NG,Kb,E1,Q8,zI c,zx c,zh,zX _ _ c];rw[zu i um];refine Or.inl ?_;have h:=Hn y.2.2.2.1.2.2.1 i;split
  .rename_i a;rw[l]at a;rw[ze a]at h;refine⟨(z.1,z.2.1,z.2.2.1,z.2.2.2.1,z.t.1,z.t.2.1,z.t.q.1,z.t.q.2.1,z.t.t.1++[y.2.2.2.1.2.1[i]],z.t.t.2.1,z.t.t.q.1,z.t.t.q.2.1++[(i:Int)],z.t.t.t),⟨g,b,⟨?_,x.key,?_,x.on⟩⟩,?_⟩
   .show z.t.t.1++[y.2.2.2.1.2.1[i]]=_;rw[x.cols,B1,fZ,fZ,h,eC];simp[z6 c]
   .show z.t.t.q.2.1++[(i:Int)]=_;rw[x.ix,ju,ju,h,eC];rfl
   .rw[ze (by have:Io z.t.t.q.2.1<=2000:=j;simp;omega),ze (by have:Io z.t.t.1<=2000:=e;simp;omega)]
  .rename_i a;rw[l]at a;rw[zg a]at h;refine⟨z,⟨g,b,⟨?_,x.key,?_,x.on⟩⟩,rfl⟩
   .rw[x.cols,fZ,fZ,h]
   .rw[x.ix,ju,ju,h]
 .intro z n d m;obtain⟨n,rfl⟩:∃k,n=k+1:=⟨n-1,ow⟩;rw[dR];simp only[NG,Kb,E1,Q8,zG];exact⟨_,rfl,z,rfl,d⟩
theorem Yq(y:zo bB)(w:Io y.2.2.1.2.1<=100)(A:Io y.2.2.2.1.2.1<=100):∃z:zo az,Dv y=Q1 ((fY y.2.2.1 y.2.2.2.1 y.2.1.t.2.1 y.t.q.1,()),z)/\oh y z/\z.t.t.q.1=y.t.t.2.1/\
  (gP z).length<=1000000/\(fY y.2.2.1 y.2.2.2.1 y.2.1.t.2.1 y.t.q.1=0->FL z (y.2.2.1.2.1++fZ y.2.2.2.1 (Io y.2.2.2.1.2.1)) y.2.2.1.2.2.1 (ju y.2.2.2.1.2.2.1 (Io y.2.2.2.1.2.1)) (zV y.2.2.1 y.2.1.t.2.1)):=by
 have n:∀(a:aN)(b:Int)(c:za)(d:List Int)(e:Int),oh y (y.1,y.2.1,y.2.2.1,y.2.2.2.1,y.t.1,y.t.2.1,y.t.q.1,y.t.q.2.1,a,b,c,d,e,()):=λ_ _ _ _ _=>⟨rfl,rfl,rfl,rfl,rfl,rfl,rfl,rfl⟩
 have s:Γ Δ (Γ Δ ((↑(Io y.2.2.1.2.1):Int)+(↑(Io y.2.2.2.1.2.1):Int))-1)=(↑(Io y.2.2.1.2.1):Int)+(↑(Io y.2.2.2.1.2.1):Int)-1:=by
  rw[lZ ((↑(Io y.2.2.1.2.1):Int)+(↑(Io y.2.2.2.1.2.1):Int)) ow ow,lZ _ ow ow]
 have o:∀e:Int,e≠0->(IK y).val=Q1 (.inr (.int .i64 e,aB az (y.1,y.2.1,y.2.2.1,y.2.2.2.1,y.t.1,y.t.2.1,y.t.q.1,y.t.q.2.1,[],y.t.t.1,y.t.t.2.1,[],zV y.2.2.1 y.2.1.t.2.1,())))->fY y.2.2.1 y.2.2.2.1 y.2.1.t.2.1 y.t.q.1=e->∃z:zo az,Dv y=Q1 ((fY y.2.2.1 y.2.2.2.1 y.2.1.t.2.1 y.t.q.1,()),z)/\oh y z/\z.t.t.q.1=y.t.t.2.1/\
  (gP z).length<=1000000/\(fY y.2.2.1 y.2.2.2.1 y.2.1.t.2.1 y.t.q.1=0->FL z (y.2.2.1.2.1++fZ y.2.2.2.1 (Io y.2.2.2.1.2.1)) y.2.2.1.2.2.1 (ju y.2.2.2.1.2.2.1 (Io y.2.2.2.1.2.1)) (zV y.2.2.1 y.2.1.t.2.1)):=by
  intro e v k j;rw[j];refine⟨_,Y4 k (dw (outs:=[zj]) (r:=.int .i64 e) (a:=(e,())) (ps:=az) _ rfl),n _ _ _ _ _,rfl,by show([]:aN).length<=_;simp,λh=>zC h v⟩
 by_cases x:LT.lt (α:=Int) (zV y.2.2.1 y.2.1.t.2.1) 0
 .refine o 4 (by decide) ?_ (by unfold fY;rw[ze x]);simp only[IK,Mc,Q8,zn,zy x,zh]
 by_cases g:jq y.2.2.1.t.1 (zV y.2.2.1 y.2.1.t.2.1,y.t.q.1)=Q3
 .by_cases m:LT.lt (α:=Int) 9 ((Io y.2.2.1.2.1:Int)+(Io y.2.2.2.1.2.1:Int))
  .refine o 13 (by decide) ?_ (by unfold fY;rw[zg x,ze g,ze m]);simp only[IK,Mc,Q8,zn,z7 x,g,s];rw[zg sw,zg sw,ze sg]
  .have j:fY y.2.2.1 y.2.2.2.1 y.2.1.t.2.1 y.t.q.1=0:=by unfold fY;rw[zg x,ze g,zg m]
   have k:(IK y).val=Q1 (.inl (.h11 y.2.2.2.1.2.1 (Io y.2.2.2.1.2.1:Int) 0 (y.1,y.2.1,y.2.2.1,y.2.2.2.1,y.t.1,y.t.2.1,y.t.q.1,y.t.q.2.1,y.2.2.1.2.1,y.2.2.1.2.2.1,y.t.t.2.1,[],zV y.2.2.1 y.2.1.t.2.1,()))):=by
    simp only[IK,Mc,Q8,zn,z7 x,g,s];rw[zg sw,zg sw,zg sg,ze sg]
   obtain⟨r,u,l,rfl,i⟩:=zvO y (y.1,y.2.1,y.2.2.1,y.2.2.2.1,y.t.1,y.t.2.1,y.t.q.1,y.t.q.2.1,y.2.2.1.2.1,y.2.2.1.2.2.1,y.t.t.2.1,[],zV y.2.2.1 y.2.1.t.2.1,()) ⟨n _ _ _ _ _,rfl,⟨by simp[fZ,DJ],rfl,rfl,rfl⟩⟩ w A 100000000 ow;rw[j];refine⟨l,?_,i.1,i.2.1,?_,λ_=>i.2.2⟩
   .unfold Dv kM bY;rw[k];show(eh NG 100000000 _).bind _=_;rw[u];exact dw (outs:=[zj]) (r:=.int .i64 0) (a:=(0,())) (ps:=az) l rfl
   .have p:=lF y.2.2.2.1.2.2.1 (Io y.2.2.2.1.2.1);rw[show gP l=_ from i.2.2.cols,ik,fZ,cQ];omega
 .refine o 10 (by decide) ?_ (by unfold fY;rw[zg x,zg g]);simp only[IK,Mc,Q8,zn,z7 x];rw[zg sw,ze (by simpa using g)]
structure zbK (s:zN):Prop where
 sh:mH s
 cp:pZ 16 s.t.t.1=Q3
structure zxA (s0 s:zN):Prop where
 chk:s.t.t.1=oz s0.t.t.1
 row:s.t.t.2.1=Dr s0.t.t.2.1
 whr:s.t.t.q.2.1=oz s0.t.t.q.2.1
 sets:∀x∈s.t.t.q.1,∃y∈s0.t.t.q.1,(x:Sem jY).2=oz (y:Sem jY).2
end Cad
