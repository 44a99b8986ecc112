/- slices. -/
import Derived.Test.YtjdjldbhjmgmkaaGreatDoorK14
import Derived.Test.YtjdjldbhjmgmkaaGreatDoorK15
import Derived.Lib.DecodeN
namespace Cad
open Go Go.Proofs Go.Sort
open List renaming length→Io
open IntKind renaming wrap→Γ,i64→Δ
open Tr renaming val→Q8
open Bool renaming false→Q4,true→Q3
open Option renaming some→Q1
open Decidable renaming decide→Q0
open Int (toNat)
open List (getD)
open Tr (chk br re)
open AV (nils agg tup ptr kb str sl)
set_option maxHeartbeats 4000000
theorem uL:∀a b:zH,(Lib.compareBytes a b<0)↔Op.bytesLess a b=Q3
 |[],[]=>by simp[Lib.compareBytes,Op.bytesLess]
 |[],_::_=>by simp[Lib.compareBytes,Op.bytesLess]
 |_::_,[]=>by simp[Lib.compareBytes,Op.bytesLess]
 | a::r,b::s=>by
  unfold Lib.compareBytes Op.bytesLess;by_cases x:a<b
  .simp[x]
  .by_cases h:b<a
   .have:a≠b:=λe=>by rw[e]at h;exact zC h (UInt8.lt_irrefl b)
    simp[x,h,this]
   .have:a=b:=UInt8.le_antisymm (UInt8.not_lt.1 h) (UInt8.not_lt.1 x);subst this;simp[uL r s]
theorem Gd:∀s:zH,Op.bytesLess s s=Q4
 |[]=>rfl
 |a::r=>by simp[Op.bytesLess,Gd r]
theorem Cf:∀{a b c:zH},Op.bytesLess a b=Q3->Op.bytesLess b c=Q3->Op.bytesLess a c=Q3
 |_,[],_,h,_=>by cases‹zH›<;>simp[Op.bytesLess]at h
 |_,_::_,[],_,h=>by simp[Op.bytesLess]at h
 |[],_::_,_::_,_,_=>rfl
 | a::x,b::y,c::z,h,g=>by
  simp only[Op.bytesLess,nc,aF,aR,bd]at h g|-;rcases h with h|⟨rfl,h⟩
  .rcases g with g|⟨rfl,g⟩
   .exact .inl (UInt8.lt_trans h g)
   .exact .inl h
  .rcases g with g|⟨rfl,g⟩
   .exact .inl g
   .exact .inr ⟨rfl,Cf h g⟩
theorem Ce:∀{a b:zH},Op.bytesLess a b=Q4->a≠b->Op.bytesLess b a=Q3
 |[],[],_,h=>zC rfl h
 |[],_::_,h,_=>by simp[Op.bytesLess]at h
 |_::_,[],_,_=>rfl
 | a::x,b::y,h,hne=>by
  simp only[Op.bytesLess,Bool.or_eq_false_iff,dY,Bool.and_eq_false_iff]at h;simp only[Op.bytesLess,nc,aF,aR,bd];by_cases e:b=a
  .subst e;refine .inr ⟨rfl,Ce (h.2.resolve_left sw) λe=>hne (by rw[e])⟩
  .exact .inl (Nat.lt_of_le_of_ne (UInt8.not_lt.1 h.1) λc=>e (UInt8.toNat_inj.1 c))
def fZ:zP->zP
 |[a,b]=>if Op.bytesLess b.1.1 a.1.1=Q3 then[b,a]else[a,b]
 |l=>l
theorem sk(a b:ah):fZ [a,b]=if Op.bytesLess b.1.1 a.1.1=Q3 then[b,a]else[a,b]:=rfl
def two(l:zP):Bool:=match l with
 |[_]=>Q3
 |[a,b]=>!((a.1.1:zH)==b.1.1)
 |_=>Q4
theorem ZW{l g:zP}(h:two l=Q3)(c:List.Perm g l)(d:g.Pairwise λx y:ah=>¬Lib.compareBytes y.1.1 x.1.1<0):g=fZ l:=by
 match l,h with
 |[a],_=>exact List.perm_singleton.1 c
 | [a,b],h=>
  have k:=c.length_eq;have i:(a.1.1:zH)≠b.1.1:=by simpa[two]using h
  match g,k,c,d with
  |[x,y],_,c,d=>
  have d:¬Lib.compareBytes y.1.1 x.1.1<0:=by simpa using d
  rw[uL]at d;have m:x=a/\y=b\/x=b/\y=a:=by
   have e:x∈[a,b]:=c.mem_iff.1 sw;rcases cf.1 e with rfl|e
   .have:=(List.perm_cons x).1 c;exact .inl ⟨rfl,by simpa using this⟩
   .have j:x=b:=by simpa using e
    subst j;have:=(List.perm_cons x).1 (c.trans (List.Perm.swap x a []));exact .inr ⟨rfl,by simpa using this⟩
  rw[sk];rcases m with⟨rfl,rfl⟩|⟨rfl,rfl⟩
  .rw[zg d]
  .rw[ze (Ce (by simpa using d) i)]
def zg5:z8:=λa h _=>match a with
 | [.vec id,.clo (.func 82) [] [.ptr nb 0]]=>match h id,h nb with
  |.vec ztb l,.box [.clo (.func 78) [] []]=>.chk (two l) (.ok {val:=.tup [],wr:=[(id,.vec zk (fZ l))]})
  |_,_=>.err
 |_=>.err
theorem zuy:Go.Proofs.Enters Tryz.prog 82:=by
  cases h:Tryz.f82.body with
  | none => have:Tryz.f82.body.isNone=false:=by kernel_rfl
            rw[h]at this;cases this
  |some c=>exact Go.Proofs.enters_of (fn:=Tryz.f82) kw kw h
theorem ziT:FK 138 zg5 where
 fn:=⟨Tryz.f138,kw,kw,kw⟩
 calls:=λw U ρ hp n x9 h0 f fp a S X i6 s N i3 i7=>by
  unfold zg5 at a;split at a
  .rename_i id nb;split at a
   .rename_i l b c;simp only[Tr.val_chk,Tr.val_ok,bj]at a;obtain⟨F,rfl⟩:=a;have hl:=S.len
    match h0,hl,S with
    |[va,vc],_,S=>
    have r0:=S.rv 0 _ va rfl rfl;have r1:=S.rv 1 _ vc rfl rfl;cases r0 with
    |vec _ _ x5 _=>
    cases r1 with
    |clo _ _ _ vf x8 a hc i8 u=>
    match vf,a,x8,hc,u with
    |[],_,[pv],_,u=>
    have r2:=u 0 _ pv rfl rfl;cases r2 with
    |ptr _ _ i I=>
    have C:id∈fp:=N id (by simp[AV.idsL,AV.ids]);have Y:nb∈fp:=N nb (by simp[AV.idsL,AV.ids]);have ob:=s.ob nb Y;have Z:=s.ob id C;rw[c]at ob;rw[b]at Z;obtain⟨b',T,j,e1,h9,h8,W,i2⟩:=ob;rw[I]at e1;cases e1;have k:=W.len;have M:=W.rv 0 _ (j.toList[0]'(by rw[<-k];simp)) rfl (zZ _);have o:w.cell? ⟨i,0,none⟩=Q1 (.func (.func 78) #[] #[]):=by
     generalize hx:j.toList[0]'(by rw[<-k];simp)=x at M;cases M with
     |clo _ _ _ vf vc a hc _ _=>
     match vf,a,vc,hc with
     |[],_,[],_=>
     rw[World.cell?,h8];have:j[0]?=Q1 (Value.func (.func 78) #[] #[]):=by
      rw[<-ph,zZ (by rw[<-k];simp),hx]
     simpa using this
    have J:=X i h9;have O:l≠[]:=λe=>by rw[e]at F;cases F
    have i0:Io l<=2:=by
     match l,F with
     |[_],_=>simp
     |[_,_],_=>simp
    refine⟨(zag (n:=n) (e:=zk) (G:=λ_=>True) (λx y:ah=>Lib.compareBytes x.1.1 y.1.1) (by decide) X b Z x5 O (λ_ _=>trivial) ?_).mono ?_,by simp;exact C⟩
    .intro i1 B h7 d i5 hH H P;have x0:i≠B:=λe=>by
      have:=s.inj id C nb Y B (by rw[b];exact P) (by rw[c];exact⟨rfl,_,I,by simp[bJ,e]⟩);subst this;rw[b]at c;cases c
     refine AnyQ.slices_SortFunc Tryz.sortRel 12 Tryz.isAgg38 Tryz.sizeOf38 (λp:Pl w U ρ zk (λ_=>True)=>p.1.1) (λp=>p.2.1) (λp=>p.2.2.1) (λp q=>Lib.compareBytes p.1.2.1.1 q.1.2.1.1) ?_ 82 #[.pointer (Q1 ⟨i,0,none⟩)] B 0 h7 d w zuy ?_ hH H ow
     .refine⟨λx=>?_,λx y z h g=>?_,λx y z h g=>?_⟩
      .have:=Gd x.1.2.1.1;simp only[ltOf,dY,uL,this];simp
      .simp only[ltOf,aR,uL]at*;exact Cf h g
      .simp only[ltOf,dY,uL]at*;intro A;by_cases e:(x.1.2.1.1:zH)=y.1.2.1.1
       .rw[e]at A;exact g A
       .exact g (Cf (Ce (by simpa using h) e) A)
     .intro m os dk i4 x y;have nm:∀p:Pl w U ρ zk (λ_=>True),∃v1 v2 v3 v4 v5 v6 v7 v8 v9 D E,p.1.1=[.string ⟨(p.1.2.1.1:zH).toArray⟩,v1,v2,v3,v4,v5,v6,v7,v8,v9,D,E]:=by
       rintro⟨⟨cs,q⟩,h1,F,h3,h4⟩;obtain⟨v,x3,x4⟩:=h3 0 (.str q.1.1) rfl;have h1:Io cs=12:=h1
       match cs,h1 with
       |[a0,a1,a2,a3,a4,a5,a6,a7,a8,a9,h5,h6],_=>
       have:a0=v:=by simpa using x3
       subst this;cases x4;exact⟨a1,a2,a3,a4,a5,a6,a7,a8,a9,h5,h6,rfl⟩
      obtain⟨v1,v2,v3,v4,v5,v6,v7,v8,v9,D,E,ex⟩:=nm x;obtain⟨u1,u2,u3,u4,u5,u6,u7,u8,u9,x6,x7,ey⟩:=nm y;have t:(sortWorldK (λp:Pl w U ρ zk (λ_=>True)=>p.1.1) 12 w B 0 m dk os).heap[i]?=w.heap[i]?:=ic dk J x0
      have:=Tryz.cmp56 ⟨(x.1.2.1.1:zH).toArray⟩ ⟨(y.1.2.1.1:zH).toArray⟩ v1 v2 v3 v4 v5 v6 v7 v8 v9 D E u1 u2 u3 u4 u5 u6 u7 u8 u9 x6 x7 i (sortWorldK (λp:Pl w U ρ zk (λ_=>True)=>p.1.1) 12 w B 0 m dk os)
       (by rw[World.cell?_of_block t];exact o) (gE J (by unfold sortWorldK grow putRowK;simp[Sort.ahead]))
      show Calls Tryz.prog 82 (#[Value.agg x.1.1.toArray,Value.agg y.1.1.toArray]++#[Value.pointer (Q1 ⟨i,0,none⟩)]) _ _;rw[ex,ey];exact this
    .rintro e' w' ⟨l',x1,x2,v',U',ρ',rfl,L⟩;rw[ZW F x1 x2]at L;exact⟨v',U',ρ',rfl,L⟩
   .simp at a
  .simp at a
open Go
variable {b:Nat}
theorem Lf{n b1 b2 m:Nat}(h:b<128):Lib.decodeN n b b1 b2 m=(b,1):=by unfold Lib.decodeN;rw[ze h]
theorem Im{n b1 b2 b3:Nat}(h:¬b<128):128<=(Lib.decodeN n b b1 b2 b3).1:=by
 unfold Lib.decodeN;rw[zg h];repeat' split
 all_goals(simp only;omega)
theorem MG{p:Nat->Bool}(j:∀c:Nat,p c=Q3↔(c<32\/c>126))(s:List UInt8):∀(f x:Nat),Io s<=x+f->(Lib.idxFuncFrom p Q3 ⟨s.toArray⟩ f x<0↔∀(i:Nat)(h:i<Io s),x<=i->32<=s[i].toNat/\s[i].toNat<=126)
 | 0,x,h=>by
  simp only[Lib.idxFuncFrom];exact⟨λ_ i b d=>zC b (by omega),λ_=>by decide⟩
 | f + 1,x,h=>by
  have k:(⟨s.toArray⟩:ByteArray).size=Io s:=by simp[ByteArray.size]
  rw[Lib.idxFuncFrom,k];by_cases a:x<Io s
  .have m:((⟨s.toArray⟩:ByteArray).get! x)=s[x]:=by
    simp[ByteArray.get!,a]
   rw[ze a,Lib.decode_at,m];by_cases l:s[x].toNat<128
   .rw[Lf l];simp only;by_cases g:p s[x].toNat=Q3
    .rw[ze g];have:=(j _).1 g;exact⟨λh=>zC h (by omega),λh=>by have:=h x a (aj _);omega⟩
    .rw[zg g,MG j s f (x+1) (by omega)];have q:¬(s[x].toNat<32\/s[x].toNat>126):=λh=>g ((j _).2 h)
     refine⟨λh i b d=>?_,λh i b d=>h i b (by omega)⟩;by_cases e:i=x
     .subst e;omega
     .exact h i b (by omega)
   .have o:=Im (n:=(⟨s.toArray⟩:ByteArray).size-x) (b1:=((⟨s.toArray⟩:ByteArray).get! (x+1)).toNat) (b2:=((⟨s.toArray⟩:ByteArray).get! (x+2)).toNat) (b3:=((⟨s.toArray⟩:ByteArray).get! (x+3)).toNat) l;rw[ze ((j _).2 (by omega))];exact⟨λh=>zC h (by omega),λh=>by have:=h x a (aj _);omega⟩
  .rw[zg a];exact⟨λ_ i b d=>zC b (by omega),λ_=>by decide⟩
theorem YC{p:Nat->Bool}(d:∀c:Nat,p c=Q3↔(c<32\/c>126))(s:List UInt8):Lib.idxFunc p Q3 ⟨s.toArray⟩<0↔∀b∈s,32<=b.toNat/\b.toNat<=126:=by
 have e:(⟨s.toArray⟩:ByteArray).size=Io s:=by simp[ByteArray.size]
 unfold Lib.idxFunc;rw[MG d s _ 0 (by omega)];constructor
 .intro h b a;obtain⟨i,x,rfl⟩:=gD a;exact h i x (aL _)
 .intro h i x _;exact h _ (bp x)
open Go Go.Proofs
variable {g:Bool}
theorem gi{h:Bool}(x:g=Q3)(a:h=Q3):(ite (g=Q3) h Q4)=Q3:=by rw[ze x];exact a
variable {i:Nat}
theorem eL(h:i<=b):Q0 (i<=b)=Q3:=zy h
variable {v:zo}
theorem HV(h:bh v=Q3)(b:(v.1==2)=Q3):Io v.2.2<=40:=by
 have e:v.1=2:=by simpa using b
 unfold bh at h;rw[e]at h;simp only[show((2:Int)==0)=Q4 from rfl,show((2:Int)==1)=Q4 from rfl,show((2:Int)==2)=Q3 from rfl,zE,zp,zh]at h;cases x:v.2.1==0
 .rw[x]at h;simp at h
 .rw[x]at h;cases a:Q0 ((Io v.2.2:Int)<=40)
  .rw[a]at h;simp at h
  .have:=mf a;omega
theorem NP(v:zo):yA v=Q3:=by
 unfold yA;split
 .rfl
 .rename_i h;have h:bh v=Q3:=by simpa using h
  split
  .rfl
  .split
   .rename_i x;have c:=HV h x;have a:=lN v.2.2 [39] oq;have b:(Lib.replaceAll v.2.2 [39] oq).length<=200:=by
     simp only[eA,pj]at a;omega
    refine gi ?_ (gi (eL ?_) (gi (eL ?_) rfl))
    .unfold wb;simp;omega
    .simp;omega
    .simp;omega
   .rfl
theorem yB(v:zo):(ip v).length<=300:=by
 unfold ip;split
 .simp
 .rename_i h;have h:bh v=Q3:=by simpa using h
  split
  .have:=Hd v.2.1;omega
  .split
   next x=>have b:=HV h x;have a:=lN v.2.2 [39] oq;simp only[eA,pj]at a;simp;omega
   .split
    .split<;>simp
    .simp
variable {x:zH}
theorem H0(h:eo x=Q3):Io x<=16:=by
 have h:qS x=Q3:=h;unfold qS at h;by_cases b:(Io x:Int)<=16
 .omega
 .exfalso;rw[ae b]at h;cases a:Q0 ((Io x:Int)>=1)<;>rw[a]at h<;>simp at h
variable {c:Int}
theorem Yq{g:za->Int->Int->Bool×Int}{e:za}{n:Int}(h:(AN g e c n).1=Q3)(b:e.op=eK):e.s.length<=16:=by
 unfold AN at h;split at h
 .cases h
 .split at h
  next x=>rw[b]at x;simp at x
  .split at h
   .cases x:bu e.v
    .rw[x]at h;simp at h
    .rw[x]at h;cases a:eo e.s
     .rw[a]at h;simp at h
     .exact H0 a
   next x=>rw[b]at x;simp at x
theorem Ku(s:zH):(Lib.toUpperA s).length=Io s:=by simp[Lib.toUpperA]
theorem Cq:∀(N:Nat)(e:za)(d n:Int),N<=16->(iu N e d n).1=Q3->g6 N e=Q3/\(bb N e).length<=400*2^N-100
 |0,_,_,_,_,h=>by cases h
 | N + 1,e,d,n,L,h=>by
  rw[iu]at h;obtain⟨q,p⟩:=xP h;have M:2^N<=2^15:=F3 ow ow;have A:1<=2^N:=Nat.one_le_two_pow;have B:2^(N+1)=2*2^N:=by rw[pM];omega
  have c:∀x∈e.l,g6 N x=Q3/\(bb N x).length<=400*2^N-100:=by
   intro x u;rcases p with p|p
   .exfalso;have:dm e.op=0:=by
     rcases p with p|p<;>rw[p]<;>decide
    rw[this]at q;have:e.l=[]:=AF ow;rw[this]at u;simp at u
   .obtain⟨m,y⟩:=vw e.l _ p x u;exact Cq N x _ _ ow y
  have k:∀i,i<Io e.l->e.l.getD i (zi Sh.expr)∈e.l:=by
   intro i w;rw[aZ,zZ w];exact bp w
  rw[g6,bb];unfold A2 tF;rcases ms e.op with⟨j,a|a⟩|⟨j,a|a⟩|⟨j,a⟩|j
  .rw[a];simp only[beq_self_eq_true,zh];refine⟨gi (NP _) rfl,?_⟩;have:=yB e.v;omega
  .have O:=Yq h a;rw[a];refine⟨rfl,?_⟩;show e.s.length<=_;omega
  .rw[j]at q;have g:Io e.l=1:=by omega
   obtain⟨t,o⟩:=c _ (k 0 ow);rw[a];refine⟨gi ?_ (gi t (gi (eL ?_) (gi (eL ?_) rfl))),?_⟩
   .simp[zK,g]
   .simp at o|-;omega
   .simp at o|-;omega
   .show(uE++bb N (e.l.getD 0 (zi Sh.expr))++[41]).length<=_;simp at o|-;omega
  .rw[j]at q;have g:Io e.l=1:=by omega
   obtain⟨t,o⟩:=c _ (k 0 ow);rw[a];refine⟨gi ?_ (gi t (gi (eL ?_) (gi (eL ?_) rfl))),?_⟩
   .simp[zK,g]
   .simp at o|-;omega
   .simp at o|-;omega
   .show([40]++bb N (e.l.getD 0 (zi Sh.expr))++Ca).length<=_;simp at o|-;omega
  .rw[j]at q;have g:Io e.l=2:=by omega
   obtain⟨t,o⟩:=c _ (k 0 ow);obtain⟨E,F⟩:=c _ (k 1 ow);have C:(Q0 (e.op.length<=140737488355328)&&e.op.all λb=>Q0 (b.toNat<128))=Q3:=by
    rcases a with a|a|a|a|a|a<;>rw[a]<;>decide
   have z:e.op.length<=3:=by
    rcases a with a|a|a|a|a|a<;>rw[a]<;>simp
   have D:=Ku e.op;have G:(e.op==ot)=Q4:=by rcases a with a|a|a|a|a|a<;>rw[a]<;>rfl
   have H:(e.op==eK)=Q4:=by rcases a with a|a|a|a|a|a<;>rw[a]<;>rfl
   have I:(e.op==ng)=Q4:=by rcases a with a|a|a|a|a|a<;>rw[a]<;>rfl
   have J:(e.op==pk)=Q4:=by rcases a with a|a|a|a|a|a<;>rw[a]<;>rfl
   simp only[G,H,I,J,zE,zp];refine⟨gi ?_ (gi t (gi (eL ?_) (gi (eL ?_) (gi C (gi (eL ?_) (gi (eL ?_) (gi ?_ (gi E (gi (eL ?_) (gi (eL ?_) rfl)))))))))),?_⟩
   .simp[zK,g]
   all_goals first
    |(simp[zK,g];done)
    |(simp at o F|-;omega)
  .rw[j]at q;omega
theorem IL(e:za):rp e=Q3:=by
 unfold rp;split
 .rfl
 next h=>exact gi (Cq 16 e 1 0 ow (by simpa[dD]using h)).1 rfl
theorem OX(e:za):(oB e).1.length<=30000000:=by
 unfold oB;split
 .simp
 next h=>have:=(Cq 16 e 1 0 ow (by simpa[dD]using h)).2;show(bb 16 e).length<=_;omega
theorem A8(p:Int->Bool):∀s:zH,cY p s<=Io s
 |[]=>by simp[cY]
 | c::r=>by
  have:=A8 p r;rw[cY];split<;>simp<;>omega
theorem sc(f m:Int->Bool)(s:zH):bv f m s<=Io s:=by
 cases s with
 |nil=>simp[bv]
 | cons c r=>
  have:=A8 m r;rw[bv];split<;>simp<;>omega
theorem zaj(i:Nat)(h:i<=4000000000):Γ Δ (i:Int)=(i:Int):=by
 have:=zt (i-1) um;cases i with
 |zero=>rfl
 |succ i=>simpa using this
theorem qU(i:Nat)(h:i<=4000000000):Γ Δ ((i:Int)+1)=((i+1:Nat):Int):=zt i um
theorem oZ:∀(n:Nat)(s:zH)(i:Nat)(a:Int)(b:zH),1<=i->i<=Io s->Io s+2<=n+i->Io s<=1000000000->jt n s (i:Int) a b=Q3
 |0,s,i,a,b,e,g,j,c=>by omega
 | n + 1,s,i,a,b,e,g,j,c=>by
  rw[jt];split
  .rename_i h;have h:i<Io s:=by have:=mf h;omega
   refine gi (zz h) ?_;rw[qU i ow];split
   .exact oZ n s (i+1) a b ow ow ow c
   .refine gi ?_ ?_
    .cases x:Q0 (((i+1:Nat):Int)<(Io s:Int))
     .rfl
     .exact zz (by have:=mf x;omega)
    .split
     .rename_i d;have k:i+1<Io s:=by
       cases x:Q0 (((i+1:Nat):Int)<(Io s:Int))
       .rw[x]at d;simp at d
       .have:=mf x;omega
      rw[qU (i+1) ow];exact oZ n s (i+1+1) a b ow ow ow c
     .refine gi ?_ (gi ?_ rfl)
      .simp;omega
      .unfold wb;simp;omega
  .rfl
theorem ug:∀(n:Nat)(s:zH)(i:Nat)(a:Int)(b:zH),1<=i->i<=Io s->Io s+2<=n+i->Io s<=1000000000->
  (fi n s (i:Int) a b=((0,[]),0))\/∃k:Nat,(fi n s (i:Int) a b).2=(k:Int)/\1<=k/\k<=Io s
 |0,s,i,a,b,e,g,j,x=>by omega
 | n + 1,s,i,a,b,e,g,j,x=>by
  rw[fi];split
  .rename_i h;have h:i<Io s:=by have:=mf h;omega
   rw[qU i ow];split
   .exact ug n s (i+1) a b ow ow ow x
   .split
    .rename_i d;have l:i+1<Io s:=by
      cases c:Q0 (((i+1:Nat):Int)<(Io s:Int))
      .rw[c]at d;simp at d
      .have:=mf c;omega
     rw[qU (i+1) ow];exact ug n s (i+1+1) a b ow ow ow x
    .exact .inr ⟨i+1,rfl,ow,ow⟩
  .exact .inl rfl
theorem Kv(t:dd):sq t=Q3:=by
 unfold sq;split
 .rfl
 .split
  .refine gi ?_ rfl;cases h:((Io t.2:Int)==1)
   .rfl
   .have:(Io t.2:Int)=1:=by simpa using h
    simp only[ax,bd];omega
  .simp
theorem E9(s:zH)(c:s≠[])(e:Io s<=1000000000):lc s=Q3:=by
 have x:1<=Io s:=by cases s with|nil=>exact zC rfl c|cons _ _=>simp
 have j:=sc bc bS s;have k:=sc au au s;have i:oY s=Q3:=oZ (Io s+1) s 1 _ _ ow x ow e;have g:zK 0 (Io s)=Q3:=zz x;have d:(Q0 ((0:Int)<=0)&&Q0 (0<=(↑(bv bc bS s):Int))&&Q0 ((↑(bv bc bS s):Int)<=(↑(Io s):Int)))=Q3:=by simp;omega
 have a:(Q0 ((0:Int)<=0)&&Q0 (0<=(↑(bv au au s):Int))&&Q0 ((↑(bv au au s):Int)<=(↑(Io s):Int)))=Q3:=by simp;omega
 have b:(Q0 ((0:Int)<=0)&&Q0 ((0:Int)<=1)&&Q0 (1<=(↑(Io s):Int)))=Q3:=by simp;omega
 unfold lc;simp only[i,g,zh,zE,zp];repeat' split
 all_goals first
  |rfl
  |(rename_i h;exfalso;apply h;simp;omega)
theorem wC(s:zH)(g:s≠[])(i:Io s<=1000000000)(x:cV (bQ s).1=Q3):∃k:Nat,(bQ s).2=(k:Int)/\1<=k/\k<=Io s:=by
 have m:1<=Io s:=by cases s with|nil=>exact zC rfl g|cons _ _=>simp
 have n:=sc bc bS s;have o:=sc au au s;have d:=ug (Io s+1) s 1 0 [] ow m ow i;unfold bQ at x|-;simp only[zh,zE,zp]at x|-;split
 next h=>have:=mf h;exact⟨_,rfl,ow,ow⟩
 .rename_i h;rw[zg h]at x;split
  next a=>have:=mf a;exact⟨_,rfl,ow,ow⟩
  .rename_i a;rw[zg a]at x;split
   .rename_i j;rw[ze j]at x;rcases d with d|⟨k,l,b,c⟩
    .exfalso;have e:ig s=((0,[]),0):=d;rw[e]at x;revert x;decide
    .exact⟨k,l,b,c⟩
   .exact⟨1,rfl,ow,ow⟩
theorem wR:∀(n:Nat)(s:zH)(i:Nat)(l:dp),i<=Io s->Io s+1<=n+i->Io s<=1000000000->Io l<=400->tB n s (i:Int) l=true
 |0,s,i,l,o,p,d,g=>by omega
 | n + 1,s,i,l,o,p,d,g=>by
  rw[tB];split
  .rename_i x;have x:i<Io s:=by have:=mf x;omega
   have m:List.take ((Io s:Int).toNat-(i:Int).toNat) (List.drop (i:Int).toNat s)=s.drop i:=by
    simp only[aK];exact QC sw
   rw[m];refine gi ?_ ?_
   .rw[zz x];cases(((s.getD (i:Int).toNat 0).toNat:Int)==32)<;>rfl
   .split
    .rw[qU i ow];exact wR n s (i+1) l ow ow d g
    .have b:s.drop i≠[]:=by
      intro h;have:=congrArg Io h;simp at this;omega
     have a:(s.drop i).length<=1000000000:=by simp;omega
     refine gi ?_ (gi (E9 _ b a) (gi (Kv _) ?_))
     .simp;omega
     .split
      .rfl
      .rename_i c;have j:cV (bQ (s.drop i)).1=Q3:=by
        cases y:cV (bQ (s.drop i)).1
        .rw[y]at c;simp at c
        .rfl
       have w:Io l≠400:=by
        intro q;rw[j,q]at c;simp at c
       obtain⟨k,t,u,e⟩:=wC _ b a j;have v:k<=Io s-i:=by simpa using e
       refine gi (eL ?_) ?_
       .simp;omega
       .rw[t,show((i:Int)+(k:Int))=((i+k:Nat):Int) by omega,zaj (i+k) ow];exact wR n s (i+k) _ ow ow d sg
  .rfl
theorem V4(s:zH)(h:Io s<=1000000000):V2 s=Q3:=wR (Io s+1) s 0 [] ow ow h sw
structure mF (s:zJ):Prop where
 op:Io s.1<=1000
 table:Io s.2.1<=1000
 other:Io s.2.2.1<=1000
 names:Io s.2.2.2.1<=20/\∀x∈s.2.2.2.1,Io x<=1000
 cols:Io s.t.1<=20/\∀x∈s.t.1,Io x.1<=1000
 key:Io s.t.2.1<=1000
 uniques:Io s.t.q.1<=20/\∀x∈s.t.q.1,Io x<=1000
 refs:Io s.t.q.2.1<=20/\∀x∈s.t.q.2.1,Io x.1<=1000/\Io x.2<=1000
 row:Io s.t.t.2.1<=20
 sets:Io s.t.t.q.1<=20/\∀x∈s.t.t.q.1,Io x.1<=1000
 role:Io s.t.t.t<=1000
theorem vr(s:zH)(B:Nat):∀l:List zH,(∀x∈l,Io x<=B)->(Lib.join l s).length<=Io l*(B+Io s)
 |[],_=>by simp[Lib.join,List.intercalate]
 | [x],h=>by
  rw[Lib.join_one];have:=h x sw;simp;omega
 | x::y::r,h=>by
  have i:=vr s B (y::r) (λz a=>h z (mX _ a));have b:=h x sw;have e:Lib.join (x::y::r) s=x++s++Lib.join (y::r) s:=by simp[Lib.join,List.intercalate,List.intersperse]
  rw[e];simp only[gS,eA]at i|-;rw[hI];omega
theorem qk{α:Type}(p:α->Bool):∀(l:List α)(i:Nat),(!Q0 (ab p l i>=0))=Q3->∀x∈l,p x=Q4
 |[],_,_,x,a=>by simp at a
 | y::r,i,h,x,a=>by
  rw[ab]at h;cases b:p y
  .rw[b]at h;rcases cf.1 a with rfl|a
   .exact b
   .exact qk p r (i+1) (by simpa using h) x a
  .exfalso;rw[b]at h;simp at h
   try omega
theorem FN(e:za):qV e=Q3:=gi (IL e) rfl
theorem AC(e:za):(iU e).length<=30000000:=OX e
theorem ou(s:zH)(h:Io s<=10)(e:za):uI s e=Q3:=by
 unfold uI;have:=AC e;split
 .rfl
 .refine gi (eL ?_) (gi (FN e) (gi (eL ?_) (gi (eL ?_) rfl)))
  all_goals(simp;omega)
theorem tw(s:zH)(h:Io s<=10)(e:za):(lp s e).length<=30000030:=by
 unfold lp;have:=AC e;split
 .simp
 .simp;omega
theorem qK:∀(l:List (Sem Sh.str))(i:Int)(a:List zH),dV l i a=Lib.join (a++l.map my) fh
 |[],i,a=>by simp[dV]
 |x::r,i,a=>by rw[dV,qK r];simp
theorem Kb(B:Nat)(l:List (Sem Sh.str))(h:∀x∈l,(my x).length<=B):(gY l).length<=Io l*(B+3):=by
 unfold gY;rw[qK];have:=vr fh B ([]++l.map my) (λy a=>by
  simp only[F5,aE]at a;obtain⟨x,b,rfl⟩:=a;exact h x b)
 simpa using this
theorem wq(B:Nat)(g:B<=100000000):∀(l:List (Sem Sh.str))(i:Int)(a:List zH),(∀x∈l,(my x).length<=B)->(∀x∈a,Io x<=B)->Io a+Io l<=40->em l i a=Q3
 | [],i,a,_,d,c=>by
  rw[em];refine gi ?_ rfl;have e:=vr fh B a d;have k:Io a*(B+3)<=40*100000003:=F9 (by simpa using c) ow
  replace e:(Lib.join a fh).length<=Io a*(B+3):=e
  simp only[aF,aR];simp at c;exact⟨ow,ow⟩
 | x::r,i,a,h,d,c=>by
  rw[em];have j:=h x sw;simp at c;refine gi (eL ?_) ?_
  .simp;omega
  .refine wq B g r (i+1) _ (λy b=>h y (mX _ b)) (λy b=>?_) sg;rcases bZ.1 b with b|b
   .exact d y b
   .simp at b;subst b;exact j
variable {s:zJ}
theorem eS{b:Bool}(h:(vn s).val=if g=Q3 then Q1 (.inr (.bool b,[]))else none):wk s=g/\fC s=(g&&b):=by unfold wk fC BE ao bR;rw[h];cases g<;>cases b<;>exact⟨rfl,rfl⟩
theorem zdr(o:x=dj):(x==Oi)=Q4/\(x==bl1)=Q4/\(x==bl3)=Q4/\(x==K8)=Q4/\(x==bl0)=Q4/\(x==Ii)=Q4/\(x==bl9)=Q4/\(x==Oe)=Q4/\(x==Oc)=Q4/\(x==Od)=Q4/\(x==dj)=Q3:=by rw[o];exact⟨rfl,rfl,rfl,rfl,rfl,rfl,rfl,rfl,rfl,rfl,rfl⟩
theorem zds(o:x=gj):(x==Oi)=Q4/\(x==bl1)=Q4/\(x==bl3)=Q4/\(x==K8)=Q4/\(x==bl0)=Q4/\(x==Ii)=Q4/\(x==bl9)=Q4/\(x==Oe)=Q4/\(x==Oc)=Q4/\(x==Od)=Q4/\(x==dj)=Q4/\(x==gj)=Q3:=by rw[o];exact⟨rfl,rfl,rfl,rfl,rfl,rfl,rfl,rfl,rfl,rfl,rfl,rfl⟩
theorem Y0(o:x=lm):(x==Oi)=Q4/\(x==bl1)=Q4/\(x==bl3)=Q4/\(x==K8)=Q4/\(x==bl0)=Q4/\(x==Ii)=Q4/\(x==bl9)=Q4/\(x==Oe)=Q4/\(x==Oc)=Q4/\(x==Od)=Q4/\(x==dj)=Q4/\(x==gj)=Q4/\(x==lm)=Q3:=by rw[o];exact⟨rfl,rfl,rfl,rfl,rfl,rfl,rfl,rfl,rfl,rfl,rfl,rfl,rfl⟩
abbrev jQ(o:zH):Prop:=o=dj\/o=gj\/o=lm
theorem gy(h:Io s.2.1<=1000)(x:Io s.2.2.1<=1000)(a:Io s.2.2.2.2.2.1<=1000)(b:Io s.2.2.2.2.2.2.2.2.2.2.2.2<=1000):eG s=Q3:=by
 unfold eG;refine gi (eL ?_) (gi (eL ?_) (gi (eL ?_) rfl))
 all_goals first|omega|(simp;omega)
theorem B9{c:Bool}(h:g=Q3):(cond c g Q3)=Q3:=by cases c<;>simp[h]
def tC(s:zJ):zH:=VQ++Tf++[32]++s.2.1++ln++s.2.2.1++AG++gY s.2.2.2.1++iB++lp [32] s.t.t.1
def tJ(s:zJ):zH:=VQ++Th++[32]++s.2.1++ln++s.2.2.1++fh++s.t.t.t++AH++s.t.2.1++lp [32] s.t.t.1
def tG(s:zJ):zH:=VQ++Tg++[32]++s.2.1++ln++s.2.2.1++Td++s.2.2.2.1.getD 0 []++Te++s.2.2.2.1.getD 1 []++lp [32] s.t.t.1
theorem zgW(h:mF s)(o:s.1=dj):(Ag s).val=Q1 (.inr (.str (tC s),[]))/\(tC s).length<=1000000000:=by
 obtain⟨i,j,k,l,m,n,q,u,v,w,p⟩:=zdr o;have d:Lib.toUpperA s.1=Tf:=by rw[o];rfl
 have e:(Q0 (Io s.1<=140737488355328)&&List.all s.1 λb=>Q0 (b.toNat<128))=Q3:=by rw[o];decide
 have B:=h.table;have z:=h.other;have A:=h.role;have y:=h.key;have a:=ou [32] sw s.t.t.1;have g:=tw [32] sw s.t.t.1;have c:nU s.2.2.2.1=Q3:=wq 1000 ow s.2.2.2.1 0 [] h.names.2 sw (by have:=h.names.1;simp;omega);have x:=Kb 1000 s.2.2.2.1 h.names.2;have x:(gY s.2.2.2.1).length<=20*1003:=aX x (F9 h.names.1 ow);refine⟨?_,by unfold tC;simp only[gS,eA,pj];omega⟩;unfold tC;simp only[Ag,Q8,zm,e,d,i,j,k,l,m,n,q,u,v,w,p,c,a,zh,zE,zp]
 iterate 9 rw[ze (zy (by simp<;>omega))]
theorem zgY(h:mF s)(o:s.1=gj):(Ag s).val=Q1 (.inr (.str (tJ s),[]))/\(tJ s).length<=1000000000:=by
 obtain⟨g,i,j,k,l,m,n,q,u,v,p,a⟩:=zds o;have c:Lib.toUpperA s.1=Th:=by rw[o];rfl
 have d:(Q0 (Io s.1<=140737488355328)&&List.all s.1 λb=>Q0 (b.toNat<128))=Q3:=by rw[o];decide
 have A:=h.table;have y:=h.other;have z:=h.role;have w:=h.key;have x:=ou [32] sw s.t.t.1;have e:=tw [32] sw s.t.t.1;refine⟨?_,by unfold tJ;simp only[gS,eA,pj];omega⟩;unfold tJ;simp only[Ag,Q8,zm,d,c,g,i,j,k,l,m,n,q,u,v,p,a,x,zh,zE,zp]
 iterate 10 rw[ze (zy (by simp<;>omega))]
theorem zgX(h:mF s)(o:s.1=lm)(c:Io s.2.2.2.1=2):(Ag s).val=Q1 (.inr (.str (tG s),[]))/\(tG s).length<=1000000000:=by
 obtain⟨m,q,u,v,w,y,z,A,B,C,p,a,_⟩:=Y0 o;have e:Lib.toUpperA s.1=Tg:=by rw[o];rfl
 have i:(Q0 (Io s.1<=140737488355328)&&List.all s.1 λb=>Q0 (b.toNat<128))=Q3:=by rw[o];decide
 have I:=h.table;have G:=h.other;have H:=h.role;have F:=h.key;have x:=ou [32] sw s.t.t.1;have j:=tw [32] sw s.t.t.1;have n0:(s.2.2.2.1.getD 0 []).length<=1000:=by
  rw[aZ,zZ ow,bM];exact h.names.2 _ (bp _)
 have n:(s.2.2.2.1.getD 1 []).length<=1000:=by
  rw[aZ,zZ ow,bM];exact h.names.2 _ (bp _)
 have k:zK 0 (Io s.2.2.2.1)=Q3:=by rw[c];rfl
 have l:zK 1 (Io s.2.2.2.1)=Q3:=by rw[c];rfl
 have g:getD s.2.2.2.1 (toNat 0) (zi Sh.str)=s.2.2.2.1.getD 0 []:=rfl;have d:getD s.2.2.2.1 (toNat 1) (zi Sh.str)=s.2.2.2.1.getD 1 []:=rfl;refine⟨?_,by unfold tG;simp only[gS,eA,pj];omega⟩;unfold tG;simp only[Ag,Q8,zm,i,e,m,q,u,v,w,y,z,A,B,C,p,a,g,d,k,l,x,zh,zE,zp];generalize s.2.2.2.1.getD 0 []=D at n0;generalize s.2.2.2.1.getD 1 []=E at n
 iterate 10 rw[ze (zy (by simp<;>omega))]
theorem iT(h:(Ag s).val=Q1 (.inr (.str x,[]))/\Io x<=1000000000):EL s=Q3/\iS s=x:=by unfold EL iS J2 ao bR;rw[h.1];exact⟨rfl,rfl⟩
theorem J1(q:mF s)(y:jQ s.1):wk s=Q3:=by
 have u:=q.other;have v:=q.key;have w:=q.role;rcases y with o|o|o
 .obtain⟨a,c,d,e,i,j,k,l,m,n,p⟩:=zdr o;obtain⟨x,_⟩:=eS (s:=s) (g:=_) (b:=_) (by simp only[vn,Q8,a,c,d,e,i,j,k,l,m,n,p,zh,zp,zE,zm];exact rfl);rw[x];exact B9 (gy (by simp) (by first|exact u|simp) (by first|exact v|simp) (by first|exact w|simp))
 .obtain⟨a,c,d,e,i,j,k,l,m,n,p,h⟩:=zds o;obtain⟨x,_⟩:=eS (s:=s) (g:=_) (b:=_) (by simp only[vn,Q8,a,c,d,e,i,j,k,l,m,n,p,h,zh,zp,zE,zm];exact rfl);rw[x];exact B9 (gy (by simp) (by first|exact u|simp) (by first|exact v|simp) (by first|exact w|simp))
 .obtain⟨a,c,d,e,i,j,k,l,m,n,p,h,t⟩:=Y0 o;obtain⟨x,_⟩:=eS (s:=s) (g:=_) (b:=_) (by simp only[vn,Q8,a,c,d,e,i,j,k,l,m,n,p,h,t,zh,zp,zE,zm];exact rfl);rw[x];exact B9 (gy (by simp) (by first|exact u|simp) (by first|exact v|simp) (by first|exact w|simp))
theorem jP(h:fC s=Q3)(o:s.1=lm):Io s.2.2.2.1=2:=by
 obtain⟨k,l,m,n,q,t,u,v,w,y,p,a,c⟩:=Y0 o;obtain⟨_,j⟩:=eS (s:=s) (g:=_) (b:=_) (by simp only[vn,Q8,k,l,m,n,q,t,u,v,w,y,p,a,c,zh,zp,zE,zm];exact rfl);rw[j]at h;by_cases d:Io s.2.2.2.1=2
 .exact d
 .exfalso;have i:(cond (Q0 ((Io s.2.2.2.1:Int)<2)) Q3 (Q0 ((Io s.2.2.2.1:Int)>2)))=Q3:=by
   rcases Nat.lt_or_gt_of_ne d with x|x
   .have:Q0 ((Io s.2.2.2.1:Int)<2)=Q3:=zy ow;rw[this];rfl
   .have:Q0 ((Io s.2.2.2.1:Int)>2)=Q3:=zy ow;rw[this];cases Q0 ((Io s.2.2.2.1:Int)<2)<;>rfl
  rw[i]at h;cases e:cu s.2.1<;>cases x:cu s.2.2.1<;>rw[e,x]at h<;>simp at h
theorem NF(x:mF s)(a:jQ s.1):pd s=Q3:=by
 unfold pd;refine gi ?_ rfl;unfold wo;refine gi (J1 x a) ?_;split
 .rfl
 .rename_i h;have b:fC s=Q3:=by simpa using h
  have:EL s=Q3/\(iS s).length<=1000000000:=by
   rcases a with o|o|o
   .have:=zgW x o;exact⟨(iT this).1,(iT this).2▸this.2⟩
   .have:=zgY x o;exact⟨(iT this).1,(iT this).2▸this.2⟩
   .have:=zgX x o (jP b o);exact⟨(iT this).1,(iT this).2▸this.2⟩
  exact gi this.1 (gi (V4 _ this.2) rfl)
theorem Fc:∀(e:List ((Int×Int×zH)×Int))(n:Nat)(x:Int),(kq e n x).length=Io e
 |[],_,_=>rfl
 |_::_,0,_=>rfl
 |_::r,n+1,x=>by simp[kq,Fc r n x]
theorem zah(e:List ((Int×Int×zH)×Int))(k:Int×Int×zH):(jZ e k).length<=Io e+1:=by unfold jZ;cases nY e k<;>simp
theorem HY:∀(e:List ((Int×Int×zH)×Int))(k:Int×Int×zH),(nY e k=Q3->lW e k<Io e)/\lW e k<=Io e
 |[],k=>⟨λh=>by simp[nY]at h,aj _⟩
 | p::r,k=>by
  obtain⟨x,b⟩:=HY r k;constructor
  .intro h;rw[lW];cases a:(k==p.1)with
   |true=>simp
   | false=>
    have:nY r k=Q3:=by simpa[nY,a]using h
    have:=x this;simp;omega
  .rw[lW];cases(k==p.1)<;>simp<;>omega
theorem zd9(e:List ((Int×Int×zH)×Int))(k:Int×Int×zH):lW e k<(jZ e k).length:=by
 obtain⟨x,a⟩:=HY e k;unfold jZ;cases h:nY e k with
 |true=>exact x h
 |false=>simp;omega
def Fi(c:Int)(n:Nat):Prop:=0<=c/\c<n
theorem oG(h:Fi c i):zK c i=Q3:=by simp[zK,h.1,h.2]
theorem qi(x:Int)(n:Nat):xF x n=Q3↔Fi x n:=by
 unfold Fi xF;by_cases h:x>=0
 .rw[zy h];simp;omega
 .rw[ae h];simp;omega
variable {α:Type}
theorem yh{l:List α}{d:α}{p:α->Bool}:((List.range (Io l)).all λi=>p (l.getD i d))=Q3↔∀x∈l,p x=Q3:=by
 rw[dJ];constructor
 .intro h x b;obtain⟨i,a,rfl⟩:=gD b;have:=h i (pR.2 a)
  rwa [aZ,zZ a]at this
 .intro h i a;have a:=pR.1 a;rw[aZ,zZ a];exact h _ (bp a)
variable {t:aq}
theorem Nn:(List.range (Io t.t.1)).all (zdH t)=Q3↔∀f∈t.t.1,Fi f.1 (Io t.2.1)/\zU f.2=Q3:=by have h:=yh (l:=t.t.1) (d:=zi zA) (p:=λf:bV=>xF f.1 (Io t.2.1)&&zU f.2);simp only[aF,qi]at h;exact h
theorem gn(h:dX t=Q3):Fi t.2.2.1 (Io t.2.1)/\(∀f∈t.t.1,Fi f.1 (Io t.2.1))/\(∀u∈t.2.2.2.1,Fi u (Io t.2.1))/\Io t.2.1<=8/\1<=Io t.2.1:=by
 have g:=RK h;unfold dX at h;simp only[aF,qi]at h;obtain⟨x,_,a,b,e,_⟩:=h;have b:=Nn.1 b;have a:=(yh (l:=t.2.2.2.1) (d:=zi zj) (p:=λu=>xF u (Io t.2.1))).1 a;simp only[qi]at a;refine⟨e,λf i=>(b f i).1,a,g,?_⟩;cases c:zU t.1
 .rw[c]at x;simp at x
 .rw[c]at x;simp at x;omega
theorem C9{row:zw}(h:(cy t row !=0)≠Q3):Io row=Io t.2.1:=by
 simp at h;unfold cy at h;split at h
 .cases h
 .rename_i x;cases a:dX t with
  |false=>rw[a]at x;simp at x
  | true=>
   rw[a]at x;simp at x;omega
abbrev zX(c:Int)(r:zw):zo:=getD r (toNat c) (zi zf)
def sB(rows:List zw)(c:Int):Prop:=rows.Pairwise λa b=>(zX c a).1≠0->zX c a≠zX c b
theorem qR:∀(a:List ((Int×Int×zH)×Int))(k:Int×Int×zH)(x:Int),kq (jZ a k) (lW a k) x=kN a k x
 |[],k,x=>by simp[jZ,nY,lW,kq,kN]
 | p::r,k,x=>by
  have h:=qR r k x;cases b:(k==p.1)with
  | true=>
   have e:k=p.1:=bF b;simp[jZ,nY,lW,kq,kN,e]
  | false=>
   have e:jZ (p::r) k=p::jZ r k:=by
    simp only[jZ,nY,List.any_cons,b,Bool.false_or];cases(r.any λp=>k==p.1)<;>rfl
   rw[e,lW,kN,b];show p::kq (jZ r k) (lW r k) x=p::kN r k x;rw[h]
theorem HX(c:List ((Int×Int×zH)×Int))(k a:Int×Int×zH)(x:Int):gQ (kN c k x) a=if a=k then x else gQ c a:=by
 induction c with
 | nil=>
  by_cases h:a=k
  .subst h;simp[kN,gQ]
  .simp[kN,gQ,h]
 | cons p r i=>
  rw[kN];cases d:(k==p.1)with
  | true=>
   have e:k=p.1:=bF d;by_cases h:a=k
   .simp[gQ,h]
   .have g:(a==p.1)=Q4:=by rw[<-e];simpa using h
    have j:(a==k)=Q4:=by simpa using h
    simp only[ax,gQ,List.find?_cons,g,j,zg h]
  | false=>
   show gQ (p::kN r k x) a=_;cases b:(a==p.1)with
   | true=>
    have e:a=p.1:=bF b;have h:a≠k:=by intro h;rw[<-h,b]at d;cases d
    simp only[gQ,List.find?_cons,b,zg h]
   | false=>
    simp only[gQ,List.find?_cons,b]at i|-;exact i
def vz:zw->List ((Int×Int×zH)×Int)
 |[]=>[]
 |v::r=>kN (vz r) v (Γ Δ (gQ (vz r) v+1))
theorem MD:∀l:zw,(vz l).length<=Io l
 |[]=>aj _
 | v::r=>by
  rw[vz,<-qR,Fc];have:=zah (vz r) v;have:=MD r;simp;omega
theorem DE:∀(l:zw)(v:zo),Io l<=1000000->gQ (vz l) v=(l.count v:Int)
 |[],v,_=>by simp[vz,gQ]
 | u::r,v,h=>by
  simp only[eA]at h;have a:=DE r u ow;have b:=DE r v ow;have c:r.count u<=Io r:=List.count_le_length;rw[vz,HX,a,b,zt _ um];by_cases e:v=u
  .subst e;simp
  .have x:¬(u==v)=Q3:=by intro h;exact e (bF h).symm
   rw[zg e,List.count_cons,zg x];rfl
theorem Nl{x:ah}(B:∀r∈x.2,zK c (Io r)=Q3)(M:Io x.2<=1000000):∃b,Bz x c=Q1 (b,())/\(b=Q4↔sB x.2 c):=by
  let k:Nat->zo:=λi=>zX c (getD x.2 i (zi zf.sl))
  let m:Nat->List ((Int×Int×zH)×Int):=λi=>vz (((x.2.take i).map (zX c)).reverse)
  have y:∀i,i<Io x.2->m (i+1)=kN (m i) (k i) (Γ Δ (gQ (m i) (k i)+1)):=by
    intro i a;show vz (((x.2.take (i+1)).map (zX c)).reverse)=_;rw[List.take_succ_eq_append_getElem a,eI,List.reverse_append];show vz (zX c x.2[i]::_)=_;rw[vz];have:k i=zX c x.2[i]:=by
      show zX c (getD x.2 i _)=_;rw[aZ,zZ a,bM]
    rw[this];rfl
  have q:∀i,i<=Io x.2->(m i).length<=i:=by
    intro i a;have:=MD (((x.2.take i).map (zX c)).reverse);simp at this;have d:(m i).length=(vz (((x.2.take i).map (zX c)).reverse)).length:=rfl;simp at d;omega
  have o:∀i v,i<=Io x.2->gQ (m i) v=((((x.2.take i).map (zX c)).count v:Nat):Int):=by
    intro i v a;show gQ (vz _) v=_;rw[DE _ _ sg,List.count_reverse]
  have C:=mD (t:=AA) (Φ:=λr=>aS r.2 [Sh.bool] r.1=some (true,())) 1 (λi=>.h3 c x.2 (Io x.2:Int) (i:Int) (m i)) (λi=>(k i).1≠0->((x.2.take i).map (zX c)).count (k i)=0) (Io x.2) (by
    intro i a _;have k0:getD x.2 (i:Int).toNat (zi zf.sl)=getD x.2 i (zi zf.sl):=by rw[aK]
    have A:getD x.2 i (zi zf.sl)=x.2[i]:=by rw[aZ,zZ a,bM]
    have G:zK c (Io x.2[i])=Q3:=B _ (bp a);have n:k i=zX c x.2[i]:=by show zX c (getD x.2 i _)=_;rw[A]
    have H:zK ((lW (m i) (k i):Nat):Int) (jZ (m i) (k i)).length=Q3:=zz (zd9 _ _);have I:Q0 ((m i).length<=1073741824)=Q3:=zy (by have:=q i ow;omega);have J:kq (jZ (m i) (k i)) ((lW (m i) (k i):Nat):Int).toNat (Γ Δ (gQ (m i) (k i)+1))=m (i+1):=by rw[aK,qR,y i a]
    have L:gQ (m (i+1)) (k i)=((((x.2.take i).map (zX c)).count (k i)+1:Nat):Int):=by
      have u:((x.2.take i).map (zX c)).count (k i)<=((x.2.take i).map (zX c)).length:=List.count_le_length;simp only[cz,pQ]at u;rw[y i a,HX,ze rfl,o i _ ow,zt _ um]
    have w:(AA (.h3 c x.2 (Io x.2:Int) (i:Int) (m i))).val=if(cond ((k i).1!=0) (Q0 (((((x.2.take i).map (zX c)).count (k i)+1:Nat):Int)>1)) Q4)=Q3 then Q1 (.inr (.kb Q3,[]))else Q1 (.inl (.h3 c x.2 (Io x.2:Int) ((i+1:Nat):Int) (m (i+1)))):=by
      show(AA (.h3 c x.2 _ _ _)).val=_;unfold AA;simp only[k0,A];rw[show getD x.2[i] (toNat c) (zi zf)=k i from n.symm];simp only[Q8,zL a,zz a,G,H,I,zh,J,L];rw[zt i um]
    by_cases l:(k i).1=0
    · refine .inl ⟨λh=>zC l h,zN.of ?_⟩
      rw[w,zg (by simp[l])]
    · by_cases d:((x.2.take i).map (zX c)).count (k i)=0
      · refine .inl ⟨λ_=>d,zN.of ?_⟩
        rw[w,zg (by rw[d];simp)]
      · refine .inr ⟨λh=>d (h l),(.kb true,[]),z6.of ?_,rfl⟩
        rw [w,ze (by have:((k i).1 != 0)=true:=by simpa using l
                     rw[this];simp only[ax,aR];omega)])
  have z:(∀i,i<Io x.2->(k i).1≠0->((x.2.take i).map (zX c)).count (k i)=0)↔sB x.2 c:=by
    unfold sB;rw[List.pairwise_iff_getElem];constructor
    · intro h j i D a E g e
      have n:k i=zX c x.2[i]:=by show zX c (getD x.2 i _)=_;rw[aZ,zZ a,bM]
      have:=h i a (by rw[n,<-e];exact g);rw[List.count_eq_zero,n,<-e]at this;exact this (aE.2 ⟨_,List.mem_take_iff_getElem.2 ⟨j,ow,rfl⟩,rfl⟩)
    · intro h i a g
      have n:k i=zX c x.2[i]:=by show zX c (getD x.2 i _)=_;rw[aZ,zZ a,bM]
      rw[List.count_eq_zero];intro s;obtain⟨r,F,e⟩:=aE.1 s;obtain⟨j,D,rfl⟩:=List.mem_take_iff_getElem.1 F;rw[n]at e g;exact h j i ow a ow (by rw[e];exact g) e
  have p:(zgf x c).val=Q1 (.inl (.h3 c x.2 (Io x.2:Int) ((0:Nat):Int) (m 0))):=rfl;rcases C with⟨l,d⟩|⟨l,r,d,u⟩
  · refine⟨Q4,?_,λ_=>z.1 l,λ_=>rfl⟩
    refine zB p (d.ends (z6.of (r:=(.kb Q4,[])) ?_)) ow rfl;show(AA (.h3 c x.2 _ _ _)).val=_;simp only[AA,Q8,zG];rfl
  · refine⟨Q3,zB p d ow u,⟨λh=>?_,λh=>zC (z.2 h) l⟩⟩
    cases h
structure gL (x:ah):Prop where
 uq:Io x.1.2.2.2.1<=1000
 rf:Io x.1.t.1<=1000
 rw:Io x.2<=1000
theorem yQ(l:zP)(s:zH):ac l s=(-1:Int)\/((0:Int)<=ac l s/\LT.lt (α:=Int) (ac l s) (Io l)):=by have:=gm (λx:ah=>x.1.1==s) l 0;simp at this;exact this
theorem dT{l:zP}(h:(0:Int)<=ac l x):zK (ac l x) (Io l)=Q3:=by
 rcases yQ l x with a|⟨a,b⟩
 .rw[a]at h;omega
 .simp only[zK,aF,aR];exact⟨a,b⟩
theorem aD{l:List α}{d:α}{Q:α->Prop}:(∀i,i<Io l->Q (l.getD i d))↔∀x∈l,Q x:=by
 constructor
 .intro h x b;obtain⟨i,a,rfl⟩:=gD b;have:=h i a
  rwa [aZ,zZ a,bM]at this
 .intro h i a;rw[aZ,zZ a,bM];exact h _ (bp a)
theorem ce{l:List α}{d:α}(h:i<Io l):l.getD i d∈l:=by rw[aZ,zZ h,bM];exact bp h
theorem lY(i:Nat)(h:i<aJ):Γ Δ (((i+1:Nat):Int)-1)=(i:Int):=by have:aJ=9223372036854775807:=rfl;rw[ee];omega
def yz(a b:zo):Prop:=LT.lt (α:=Int) (aV a b) 0
theorem SK{e:zo}:Q0 (GE.ge (α:=Int) (aV v e) 0)=Q3↔¬yz v e:=by unfold yz;rw[aR];omega
structure ed (x:ah):Prop where
 may:dX x.1=Q3
 few:Io x.2<=200
 fits:∀r∈x.2,cy x.1 r=(0:Int)
 key:sB x.2 x.1.2.2.1
 uniq:∀u∈x.1.2.2.2.1,sB x.2 u
 rise:∀i,i<Io x.2-1->yz (zX x.1.2.2.1 (getD x.2 i (zi zf.sl))) (zX x.1.2.2.1 (getD x.2 (i+1) (zi zf.sl)))
def Err(r:aw):Prop:=∃e:Int,r=(.int .i64 e,[])/\e≠0
theorem Nj{d:ah}(T:gL d):∃e:Int,o8 d=Q1 (e,())/\(e=0↔ed d):=by
 have h0:=T.rw;have Z:=T.uq;have a:∀{k:Nat}{r:aw},z6 iv k (.h6 d.2 (Io d.2:Int) ((0:Nat):Int) (d,())) r->k<=100000000->(T5 d).val=Q1 (.inl (.h6 d.2 (Io d.2:Int) ((0:Nat):Int) (d,())))->∀e:Int,r=(.int .i64 e,[])->o8 d=Q1 (e,()):=by
  intro k r h X x e w;subst w;exact zB x h X rfl
 by_cases C:dX d.1=Q3
 case neg=>
  refine⟨1,?_,λh=>(by cases h),λh=>zC h.may C⟩;unfold o8 ao bR;simp only[T5,zm,Q8];rw[ze (by simpa using C)];rfl
 by_cases U:Io d.2<=200
 case neg=>
  refine⟨13,?_,λh=>(by cases h),λh=>zC h.few U⟩;unfold o8 ao bR;simp only[T5,zm,Q8];rw[zg (by simpa using C),ze sg];rfl
 have x:(T5 d).val=Q1 (.inl (.h6 d.2 (Io d.2:Int) ((0:Nat):Int) (d,()))):=by
  simp only[T5,zm,Q8];rw[zg (by simpa using C),zg sg];rfl
 obtain⟨y,Y,P,_,_⟩:=gn C;have B:=mD (t:=iv) (Φ:=Err) 1 (λi=>.h6 d.2 (Io d.2:Int) (i:Int) (d,())) (λi=>cy d.1 (getD d.2 i (zi zf.sl))=(0:Int)) (Io d.2) (by
  intro i x _;have q:(iv (.h6 d.2 (Io d.2:Int) (i:Int) (d,()))).val=if(cy d.1 (getD d.2 i (zi zf.sl))!=0)=Q3 then Q1 (.inr (.int .i64 (cy d.1 (getD d.2 i (zi zf.sl))),[]))else Q1 (.inl (.h6 d.2 (Io d.2:Int) ((i+1:Nat):Int) (d,()))):=by
   show(iv (.h6 d.2 _ _ _)).val=_;unfold iv;simp only[zm,Q8,zL x,zz x,zh,aK];rw[zt i um]
  by_cases h:cy d.1 (getD d.2 i (zi zf.sl))=(0:Int)
  .refine .inl ⟨h,zN.of ?_⟩;rw[q,zg (by rw[h];simp)]
  .refine .inr ⟨h,_,z6.of (by rw[q,ze (by simpa using h)]),_,rfl,h⟩)
 rcases B with⟨N,B⟩|⟨N,r,B,e,w,n⟩
 case inr=>
  exact⟨e,a B ow x e w,λh=>zC h n,λh=>zC ((aD (Q:=λr=>cy d.1 r=(0:Int))).2 h.fits) N⟩
 have m:=(aD (Q:=λr=>cy d.1 r=(0:Int))).1 N;have I:∀r∈d.2,Io r=Io d.1.2.1:=λr z=>C9 (by simpa using m r z)
 have p:∀c,Fi c (Io d.1.2.1)->∀r∈d.2,zK c (Io r)=Q3:=λc W r z=>by
  rw[I r z];exact oG W
 obtain⟨b,G,l⟩:=Nl (x:=d) (c:=d.1.2.2.1) (p _ y) ow;have s:sb d d.1.2.2.1=Q3:=by unfold sb;rw[G];rfl
 have v:yg d d.1.2.2.1=b:=by unfold yg;rw[G];rfl
 have M:(iv (.h6 d.2 (Io d.2:Int) (Io d.2:Int) (d,()))).val=if b=Q3 then Q1 (.inr (.int .i64 7,[]))else Q1 (.inl (.h15 d.1.2.2.2.1 (Io d.1.2.2.2.1:Int) ((0:Nat):Int) (d,()))):=by
  show(iv (.h6 d.2 _ _ _)).val=_;unfold iv;simp only[zm,Q8,zG,s,v,zh];rfl
 by_cases o:b=Q3
 .refine⟨7,a (B.ends (z6.of (by rw[M,ze o]))) ow x 7 rfl,λh=>(by cases h),λh=>?_⟩;have:=l.2 h.key;rw[o]at this;cases this
 have H:sB d.2 d.1.2.2.1:=l.1 (by simpa using o);have D:zN iv _ (.h6 d.2 (Io d.2:Int) ((0:Nat):Int) (d,())) _:=B.trans (zN.of (by rw[M,zg o]));have g:=mD (t:=iv) (Φ:=Err) 1 (λi=>.h15 d.1.2.2.2.1 (Io d.1.2.2.2.1:Int) (i:Int) (d,())) (λi=>sB d.2 (getD d.1.2.2.2.1 i (zi zj))) (Io d.1.2.2.2.1) (by
  intro i x _;obtain⟨b,G,l⟩:=Nl (x:=d) (c:=getD d.1.2.2.2.1 i (zi zj)) (p _ (P _ (ce x))) ow;have s:sb d (getD d.1.2.2.2.1 i (zi zj))=Q3:=by unfold sb;rw[G];rfl
  have v:yg d (getD d.1.2.2.2.1 i (zi zj))=b:=by unfold yg;rw[G];rfl
  have q:(iv (.h15 d.1.2.2.2.1 (Io d.1.2.2.2.1:Int) (i:Int) (d,()))).val=if b=Q3 then Q1 (.inr (.int .i64 7,[]))else Q1 (.inl (.h15 d.1.2.2.2.1 (Io d.1.2.2.2.1:Int) ((i+1:Nat):Int) (d,()))):=by
   show(iv (.h15 _ _ _ _)).val=_;unfold iv;simp only[zm,Q8,zL x,zz x,zh,aK,s,v];rw[zt i um]
  by_cases h:b=Q3
  .refine .inr ⟨λhu=>?_,_,z6.of (by rw[q,ze h]),7,rfl,by decide⟩;have:=l.2 hu;rw[h]at this;cases this
  .exact .inl ⟨l.1 (by simpa using h),zN.of (by rw[q,zg h])⟩)
 rcases g with⟨O,g⟩|⟨O,r,g,e,w,n⟩
 case inr=>
  exact⟨e,a (D.ends g) ow x e w,λh=>zC h n,λh=>zC ((aD (Q:=λu=>sB d.2 u)).2 h.uniq) O⟩
 have A:=(aD (Q:=λu=>sB d.2 u)).1 O;have J:(iv (.h15 d.1.2.2.2.1 (Io d.1.2.2.2.1:Int) (Io d.1.2.2.2.1:Int) (d,()))).val=Q1 (.inl (.h21 ((0+1:Nat):Int) (d,()))):=by
  show(iv (.h15 _ _ _ _)).val=_;unfold iv;simp only[Q8,zG];rfl
 have E:=(D.trans g).trans (zN.of J);have j:=mD (t:=iv) (Φ:=Err) 1 (λi=>.h21 ((i+1:Nat):Int) (d,())) (λi=>yz (zX d.1.2.2.1 (getD d.2 i (zi zf.sl))) (zX d.1.2.2.1 (getD d.2 (i+1) (zi zf.sl)))) (Io d.2-1) (by
  intro i x _;have S:i<Io d.2:=by omega
  have F:i+1<Io d.2:=by omega
  have q:(iv (.h21 ((i+1:Nat):Int) (d,()))).val=if Q0 (GE.ge (α:=Int) (aV (zX d.1.2.2.1 (getD d.2 i (zi zf.sl))) (zX d.1.2.2.1 (getD d.2 (i+1) (zi zf.sl)))) 0)=Q3 then Q1 (.inr (.int .i64 15,[]))else Q1 (.inl (.h21 ((i+1+1:Nat):Int) (d,()))):=by
   show(iv (.h21 _ _)).val=_;unfold iv;simp only[lY i um];simp only[Q8,zL F,zz F,zz S,aK,p _ y _ (ce S),p _ y _ (ce F),zh];rw[zt (i+1) um]
  by_cases h:yz (zX d.1.2.2.1 (getD d.2 i (zi zf.sl))) (zX d.1.2.2.1 (getD d.2 (i+1) (zi zf.sl)))
  .exact .inl ⟨h,zN.of (by rw[q,zg (λF=>SK.1 F h)])⟩
  .exact .inr ⟨h,_,z6.of (by rw[q,ze (SK.2 h)]),15,rfl,by decide⟩)
 rcases j with⟨z,j⟩|⟨z,r,j,e,w,n⟩
 case inr=>
  exact⟨e,a (E.ends j) ow x e w,λh=>zC h n,λh=>zC h.rise z⟩
 have L:(iv (.h21 ((Io d.2-1+1:Nat):Int) (d,()))).val=Q1 (.inr (.int .i64 0,[])):=by
  show(iv (.h21 _ _)).val=_;unfold iv;simp only[Q8];rw[zg sg]
 exact⟨0,a (E.ends (j.ends (z6.of L))) ow x 0 rfl,λ_=>⟨C,U,m,H,A,z⟩,λ_=>rfl⟩
def lj(v:zo):Prop:=LE.le (α:=Int) (-9223372036854775808) v.2.1/\LE.le (α:=Int) v.2.1 9223372036854775807/\Io v.2.2<=1000000
theorem cm:∀s:zH,Op.bytesLess s s=Q4
 |[]=>rfl
 |a::r=>by simp[Op.bytesLess,cm r]
theorem Un(s:zH):(qn s<0)↔∀b∈s,32<=b.toNat/\b.toNat<=126:=by
 refine YC (p:=λr=>DI r) (λc=>?_) s;unfold DI;cases h:Q0 ((c:Int)<32)with
 |true=>simp at h|-;omega
 |false=>simp at h|-;omega
theorem zdf(b h x a c d e l:Bool):∃r,(ite (b=Q3) (Q1 (.inr (.bool (cond c e Q4),[]))) (ite (h=Q3) (Q1 (.inr (.bool e,[]))) (ite (x=Q3) (Q1 (.inr (.bool (cond c l Q4),[]))) (ite (a=Q3) (Q1 (.inr (.bool (cond c e (cond d e Q4)),[]))) (Q1 (.inr (.kb Q4,[])))))):Option (BO⊕aw))=Q1 (.inr r)/\
  aS r.2 [Sh.bool] r.1=Q1 ((ite (b=Q3) (ite ((!c)=Q3) Q4 e) (ite (h=Q3) e (ite (x=Q3) (cond c (cond l Q3 Q4) Q4) (ite (a=Q3) (cond c e (cond d e Q4)) Q4))):Bool),()):=by cases b<;>cases h<;>cases x<;>cases a<;>cases c<;>cases d<;>cases e<;>cases l<;>exact⟨_,rfl,rfl⟩
theorem zde(b h x a c d l:Bool):(ite (b=Q3) (ite ((!c)=Q3) Q4 Q4) (ite (h=Q3) Q4 (ite (x=Q3) (cond c (cond l Q4 Q4) Q4) (ite (a=Q3) (cond c Q4 (cond d Q4 Q4)) Q4))))=Q4:=by cases b<;>cases h<;>cases x<;>cases a<;>cases c<;>cases d<;>cases l<;>rfl
theorem MV(p:Io v.2.2<=1000000):Ji v=Q1 (bh v,()):=by
 obtain⟨k,n,s⟩:=v;have p:Io s<=1000000:=p;have w:=mD (t:=te) (Φ:=λr=>r=(.kb Q4,[])) 1 (λi=>.h2 (i:Int) ((k,n,s),())) (λi=>32<=(getD s i 0).toNat/\(getD s i 0).toNat<=126) (Io s) (by
  intro i x _;have e:(te (.h2 (i:Int) ((k,n,s),()))).val=if(cond (Q0 (((getD s i 0).toNat:Int)<32)) Q3 (Q0 (((getD s i 0).toNat:Int)>126)))=Q3 then Q1 (.inr (.kb Q4,[]))else Q1 (.inl (.h2 ((i+1:Nat):Int) ((k,n,s),()))):=by
   show(te (.h2 _ _)).val=_;unfold te;simp only[Q8,zL x,zz x,aK,zh];rw[ze (by cases Q0 (((getD s i 0).toNat:Int)<32)<;>rfl)];rw[zt i um]
  by_cases c:(getD s i 0).toNat<32
  .refine .inr ⟨λh=>by omega,_,z6.of (by rw[e,ze (by rw[zy ow];rfl)]),rfl⟩
  .by_cases g:126<(getD s i 0).toNat
   .refine .inr ⟨λh=>by omega,_,z6.of (by rw[e,ze (by rw[ae ow,zy ow];rfl)]),rfl⟩
   .refine .inl ⟨ow,zN.of (by rw[e,zg (by rw[ae ow,ae ow];simp)])⟩)
 have x:(zgc (k,n,s)).val=Q1 (.inl (.h2 ((0:Nat):Int) ((k,n,s),()))):=rfl;have q:=Un s;have u:=aD (l:=s) (d:=0) (Q:=λb=>32<=b.toNat/\b.toNat<=126);rcases w with⟨c,g⟩|⟨c,r,g,rfl⟩
 .have a:Q0 (qn s<0)=Q3:=zy (q.2 (u.1 c));have e:(te (.h2 (Io s:Int) ((k,n,s),()))).val=(ite ((k==0)=Q3) (Q1 (.inr (.bool (cond (n==0) (s==[]) Q4),[]))) (ite ((k==1)=Q3) (Q1 (.inr (.bool (s==[]),[]))) (ite ((k==2)=Q3) (Q1 (.inr (.bool (cond (n==0) (Q0 ((Io s:Int)<=40)) Q4),[]))) (ite ((k==3)=Q3) (Q1 (.inr (.bool (cond (n==0) (s==[]) (cond (n==1) (s==[]) Q4)),[]))) (Q1 (.inr (.kb Q4,[]))))))):=by
   show(te (.h2 _ _)).val=_;unfold te;simp only[Q8,zG];rw[zg sw]
  obtain⟨r,m,o⟩:=zdf (k==0) (k==1) (k==2) (k==3) (n==0) (n==1) (s==[]) (Q0 ((Io s:Int)<=40));have j:bh (k,n,s)=(ite ((k==0)=Q3) (ite ((!(n==0))=Q3) Q4 (s==[])) (ite ((k==1)=Q3) (s==[]) (ite ((k==2)=Q3) (cond (n==0) (cond (Q0 ((Io s:Int)<=40)) Q3 Q4) Q4) (ite ((k==3)=Q3) (cond (n==0) (s==[]) (cond (n==1) (s==[]) Q4)) Q4)))):=by
   simp only[bh,a];rfl
  rw[j];exact zB x (g.ends (z6.of (e.trans m))) ow o
 .have a:Q0 (qn s<0)=Q4:=ae (λh=>c (u.2 (q.1 h)));have y:(s==[])=Q4:=by
   cases s with
   |nil=>exact zC (λi x=>zC x sw) c
   |cons _ _=>rfl
  have j:bh (k,n,s)=Q4:=by
   simp only[bh,a,y];exact zde (k==0) (k==1) (k==2) (k==3) (n==0) (n==1) (Q0 ((Io s:Int)<=40))
  rw[j];exact zB x g ow rfl
theorem lH(h:Io v.2.2<=1000000):mI v=Q3:=by unfold mI;rw[MV h];rfl
theorem oP(h:Io v.2.2<=1000000):tc v=bh v:=by unfold tc;rw[MV h];rfl
theorem Hy(h:Io v.2.2<=1000000):vM v=Q1 (aC v,()):=by unfold vM ao bR;simp only[zge,Q8,lH h,oP h,zh,aC];cases bh v<;>rfl
theorem rR(h:Io v.2.2<=1000000):rQ v=Q3:=by unfold rQ;rw[Hy h];rfl
theorem vN(h:Io v.2.2<=1000000):fy v=aC v:=by unfold fy;rw[Hy h];rfl
def yq(b:Bool):zo:=if b then(3,1,[])else(3,0,[])
theorem D2(b:Bool):vL b=Q1 (yq b,()):=by cases b<;>rfl
theorem oR(b:Bool):lI b=Q3:=by unfold lI;rw[D2];rfl
theorem il(b:Bool):bn b=yq b:=by unfold bn;rw[D2];rfl
def KC(v:zo)(n:Int):Bool:=v.1==3&&(v.2.1==n&&(v.2.2==[]&&Q3))
theorem Se(v:zo)(b:Bool):MU v b=Q1 (KC v (cond b 1 0),()):=by unfold MU ao bR;simp only[zgd,Q8,oR,il,zh];cases b<;>rfl
theorem Be(v:zo)(b:Bool):nG v b=Q3:=by unfold nG;rw[Se];rfl
theorem Jh(v:zo)(b:Bool):qw v b=KC v (cond b 1 0):=by unfold qw;rw[Se];rfl
theorem nX:bf 0=(0,0,[]):=by decide
theorem lS:bf 1=(3,0,[]):=by decide
theorem lT:bf 2=(3,1,[]):=by decide
theorem jG(v:zo):(en v==1)=KC v 0/\(en v==2)=KC v 1:=by
 obtain⟨k,n,s⟩:=v;unfold en KC;simp only[bh];by_cases h:k=3
 .subst h;by_cases x:n=0
  .subst x;cases d:(s==[])<;>simp[ee]
  .by_cases a:n=1
   .subst a;cases d:(s==[])<;>simp[ee]
   .have e0:(n==0)=Q4:=by simpa using x
    have c:(n==1)=Q4:=by simpa using a
    simp[e0,c]
 .have e:(k==3)=Q4:=by simpa using h
  have b:(k !=3)=Q3:=by simpa using h
  simp[e,b]
theorem MT(a b:zo):DV a b=Q1 (FL a b,()):=by unfold DV ao bR;simp only[zgk,Q8,Be,Jh,il,FL,(jG a).1,(jG a).2,(jG b).1,(jG b).2,nX,lS,lT,aA,ax];cases KC a 0<;>cases KC b 0<;>cases KC a 1<;>cases KC b 1<;>rfl
theorem Sg(a b:zo):MX a b=Q1 (vOr a b,()):=by unfold MX ao bR;simp only[zgl,Q8,Be,Jh,il,vOr,(jG a).1,(jG a).2,(jG b).1,(jG b).2,nX,lS,lT,aA,ax];cases KC a 0<;>cases KC b 0<;>cases KC a 1<;>cases KC b 1<;>rfl
theorem MW(a:zo):DY a=Q1 (AQ a,()):=by unfold DY ao bR;simp only[zgj,Q8,Be,Jh,il,AQ,(jG a).1,(jG a).2,nX,lS,lT,aA,ax];cases KC a 0<;>cases KC a 1<;>rfl
theorem Yi(k x n a:Int)(s b:zH):(ite ((k==x&&(n==a&&(s==b&&Q3)))=Q3) (0:Int) (ite ((cond (Q0 (k<x)) Q3 (cond (k==x) (cond (Q0 (n<a)) Q3 (cond (n==a) (Op.bytesLess s b) Q4)) Q4))=Q3) (-1) 1))=I6 [tz k x,lq n a,pC s b]:=by
 simp only[I6,tz,lq,pC];rcases BY k x with h|h|h
 .have c:(k==x)=Q4:=dB.2 ow;simp[c,h]
 .subst h;rcases BY n a with h|h|h
  .have c:(n==a)=Q4:=dB.2 ow;simp[c,h]
  .subst h;by_cases g:s=b
   .subst g;simp[cm]
   .have c:(s==b)=Q4:=dB.2 g;by_cases e:Op.bytesLess s b=Q3
    .simp[c,e]
    .simp[c,e]
  .have c:(n==a)=Q4:=dB.2 ow;have d:¬n<a:=by omega
   simp[c,d,h]
 .have c:(k==x)=Q4:=dB.2 ow;have d:¬k<x:=by omega
  simp[c,d,h]
theorem D0{e:zo}(h:Io v.2.2<=1000000)(x:Io e.2.2<=1000000):qy v e=Q1 (aV v e,()):=by unfold qy ao bR;simp only[zqR,Q8,rR h,rR x,vN h,vN x,zh,aV];rw[<-Yi];generalize((aC v).1==(aC e).1&&((aC v).2.1==(aC e).2.1&&((aC v).2.2==(aC e).2.2&&Q3)))=b;generalize(cond (Q0 ((aC v).1<(aC e).1)) Q3 (cond ((aC v).1==(aC e).1) (cond (Q0 ((aC v).2.1<(aC e).2.1)) Q3 (cond ((aC v).2.1==(aC e).2.1) (Op.bytesLess (aC v).2.2 (aC e).2.2) Q4)) Q4))=a;cases b<;>cases a<;>rfl
theorem z7(l:List α)(d:α)(h:i<Io l):l.getD ((i:Int).toNat) d=l[i]:=by rw[aK,aZ,zZ h,bM]
theorem ve(l:List α)(d:α)(h:i<Io l):l.getD i d∈l:=by rw[aZ,zZ h,bM];exact bp h
def bK(f w:zH):List zH:=if(w==[])=Q3 then[f]else[f,w]
def ei(db:zP)(ns:List zH):Bool:=db.any λx=>!aH ns x.1.1&&Q0 (GE.ge (α:=Int) (ab (λf:bV=>aH ns f.2) x.1.t.1 0) 0)
def pb(db:zP)(f w t:zH):Int:=
 if∀n∈bK f w,LE.le (α:=Int) 0 (ac db n)then(if(Q0 (GE.ge (α:=Int) (ac db t) 0)||f==w)=Q3 then 7 else if ei db (bK f w)=Q3 then 10 else 0)else 6
def zfw(y h:zn bB):Prop:=
 (0:Int)<=ac y.1 y.t.2.1/\(y.t.q.1=[]\/(0:Int)<=ac y.1 y.t.q.1)/\LT.lt (α:=Int) (ac y.1 y.2.1.2.1) 0/\y.t.2.1≠y.t.q.1/\
 h.2.2.1=(getD y.1 (toNat (ac y.1 y.t.2.1)) (zi zk)).1/\
 h.2.2.2.1=(ite (y.t.q.1=[]) y.2.2.2.1 ((getD y.1 (toNat (ac y.1 y.t.q.1)) (zi zk)).1))
def zbF(y:zn bB)(r:aw):Prop:=∃(e:Int)(h:zn bB),r=(.int .i64 e,aB bB h)/\h.1=y.1/\h.2.1=y.2.1/\h.t=y.t/\e=pb y.1 y.t.2.1 y.t.q.1 y.2.1.2.1/\(e=0->zfw y h)
theorem ztj(y:zn bB)(a:List zH)(G:Io y.1<=1000000)(s:(0:Int)<=ac y.1 y.t.2.1)(u:y.t.q.1=[]\/(0:Int)<=ac y.1 y.t.q.1)(z:LT.lt (α:=Int) (ac y.1 y.2.1.2.1) 0)(A:y.t.2.1≠y.t.q.1)(e:pb y.1 y.t.2.1 y.t.q.1 y.2.1.2.1=if ei y.1 a=Q3 then 10 else 0)(n:Nat)(B:1+Io y.1<=n):
  ∃r,dv E1 n (.h11 y.1 (Io y.1:Int) 0 y a)=Q1 r/\zbF y r:=by
 refine dw (t:=E1) (β:=Unit) (Io y.1) (λ_ i=>.h11 y.1 (Io y.1:Int) (i:Int) y a) (λ_ i=>∀j(g:j<Io y.1),j<i->(!aH a y.1[j].1.1&&Q0 (GE.ge (α:=Int) (ab (λf:bV=>aH a f.2) y.1[j].1.t.1 0) 0))=Q4) (zbF y) 1 ?_ ?_ (Io y.1) 0 () n rfl (aL _) (λj _ h=>by omega) B
 .intro b i o v;simp only[E1,Kh,E2,Q8,zL o,zz o,zh,z7 y.1 _ o];rw[zt i um];have d:(!aH a y.1[i].1.1&&Q0 (GE.ge (α:=Int) (ab (λf:bV=>aH a f.2) y.1[i].1.t.1 0) 0))=Q4->∀j(g:j<Io y.1),j<i+1->(!aH a y.1[j].1.1&&Q0 (GE.ge (α:=Int) (ab (λf:bV=>aH a f.2) y.1[j].1.t.1 0) 0))=Q4:=by
   intro h j g E;by_cases l:j=i
   .subst l;exact h
   .exact v j g ow
  by_cases c:(!aH a y.1[i].1.1)=Q3
  .simp only[c,zh];split
   .rename_i p;refine Or.inr ⟨_,rfl,10,y,rfl,rfl,rfl,rfl,?_,λh=>by cases h⟩;have w:ei y.1 a=Q3:=by
     unfold ei;exact List.any_eq_true.2 ⟨y.1[i],bp o,by rw[c];simpa using p⟩
    rw[e,ze w]
   next p=>exact Or.inl ⟨(),d (by rw[c];simpa using p),rfl⟩
  .simp only[c];exact Or.inl ⟨(),d (by simp only[gT]at c;rw[c];rfl),rfl⟩
 .intro b n v B;have w:ei y.1 a=Q4:=by
   unfold ei;rw[List.any_eq_false];intro x F;obtain⟨j,g,rfl⟩:=gD F;rw[v j g g];simp
  rw[w]at e
  replace e:=e.symm
  simp only[zE,zp]at e;obtain⟨n,rfl⟩:∃k,n=k+1:=⟨n-1,ow⟩;rw[cK];simp only[E1,Kh,E2,Q8,zG,dT s,zh];by_cases c:(!y.t.q.1==[])=Q3
  .have m:y.t.q.1≠[]:=by simpa using c
   have C:(0:Int)<=ac y.1 y.t.q.1:=u.resolve_left m;simp only[c,zh,dT C];refine⟨_,rfl,0,_,rfl,rfl,rfl,rfl,e,λ_=>⟨s,u,z,A,rfl,?_⟩⟩;simp[m]
  .have D:y.t.q.1=[]:=by simpa using c
   simp only[c];refine⟨_,rfl,0,_,rfl,rfl,rfl,rfl,e,λ_=>⟨s,u,z,A,rfl,?_⟩⟩;simp[D]
theorem zv6(y:zn bB)(a:List zH)(d:a=bK y.t.2.1 y.t.q.1)(D:Io y.1<=1000000)(n:Nat)(u:2+Io y.1+Io a<=n):
  ∃r,dv E1 n (.h3 a (Io a:Int) 0 y a)=Q1 r/\zbF y r:=by
 have E:Io a<=2:=by rw[d];unfold bK;split<;>simp
 refine dw (t:=E1) (β:=Unit) (Io a) (λ_ i=>.h3 a (Io a:Int) (i:Int) y a) (λ_ i=>∀j(e:j<Io a),j<i->(0:Int)<=ac y.1 a[j]) (zbF y) (2+Io y.1) ?_ ?_ (Io a) 0 () n rfl (aL _) (λj _ h=>by omega) u
 .intro b i l o;simp only[E1,P5,Ki,Q8,zL l,zz l,zh,z7 a _ l];rw[zt i um];by_cases c:(0:Int)<=ac y.1 a[i]
  .have:Q0 (LT.lt (α:=Int) (ac y.1 a[i]) 0)=Q4:=by simpa using c
   simp only[this];refine Or.inl ⟨(),λj e C=>?_,rfl⟩;by_cases g:j=i
   .subst g;exact c
   .exact o j e ow
  .have:Q0 (LT.lt (α:=Int) (ac y.1 a[i]) 0)=Q3:=by simpa using c
   simp only[this,zh];refine Or.inr ⟨_,rfl,6,y,rfl,rfl,rfl,rfl,?_,λh=>by cases h⟩;unfold pb;rw[zg];intro h;exact c (h _ (by rw[<-d];exact bp l))
 .intro b n o u;obtain⟨n,rfl⟩:∃k,n=k+1:=⟨n-1,ow⟩;have m:∀n∈bK y.t.2.1 y.t.q.1,LE.le (α:=Int) 0 (ac y.1 n):=by
   intro x w;rw[<-d]at w;obtain⟨j,e,rfl⟩:=gD w;exact o j e e
  have s:pb y.1 y.t.2.1 y.t.q.1 y.2.1.2.1=if(Q0 (GE.ge (α:=Int) (ac y.1 y.2.1.2.1) 0)||y.t.2.1==y.t.q.1)=Q3 then 7 else if ei y.1 a=Q3 then 10 else 0:=by
   unfold pb;rw[ze m,<-d]
  have z:(0:Int)<=ac y.1 y.t.2.1:=m _ (by unfold bK;split<;>simp);have A:y.t.q.1=[]\/(0:Int)<=ac y.1 y.t.q.1:=by
   by_cases v:(y.t.q.1==[])=Q3
   .left;simpa using v
   .right;exact m _ (by unfold bK;rw[zg v];simp)
  rw[cK];simp only[E1,P5,Ki,Q8,zG];by_cases c:(bif Q0 (GE.ge (α:=Int) (ac y.1 y.2.1.2.1) 0)then Q3 else y.t.2.1==y.t.q.1)=Q3
  .simp only[c,zh];refine⟨_,rfl,7,y,rfl,rfl,rfl,rfl,?_,λh=>by cases h⟩;rw[s,ze (by revert c;cases Q0 (GE.ge (α:=Int) (ac y.1 y.2.1.2.1) 0)<;>exact id)]
  .simp only[c];have p:Q0 (GE.ge (α:=Int) (ac y.1 y.2.1.2.1) 0)=Q4:=by
    cases B:Q0 (GE.ge (α:=Int) (ac y.1 y.2.1.2.1) 0)with
    |false=>rfl
    |true=>rw[B]at c;simp at c
   rw[p]at c;refine ztj y a D z A (by simpa using p) (by simpa using c) ?_ n ow;rw[s,p,zg (by simpa using c)]
theorem My(y:zn bB)(d:Io y.1<=1000000):∃(e:Int)(h:zn bB),rB y=Q1 ((e,()),h)/\h.1=y.1/\h.2.1=y.2.1/\h.t=y.t/\e=pb y.1 y.t.2.1 y.t.q.1 y.2.1.2.1/\(e=0->zfw y h):=by
 have x:lF (y.t.1,y.t.2.1,y.t.q.1,(y.t.q.2.1,[],y.t.t.1,[],[],zr y.t.t.2.1),[],y.t.t.q.1)=bK y.t.2.1 y.t.q.1:=rfl;obtain⟨r,b,e,h,rfl,c⟩:=zv6 y _ x d 100000000 (by
  have:Io (lF (y.t.1,y.t.2.1,y.t.q.1,(y.t.q.2.1,[],y.t.t.1,[],[],zr y.t.t.2.1),[],y.t.t.q.1))<=2:=by rw[x];unfold bK;split<;>simp
  omega)
 refine⟨e,h,?_,c⟩;unfold rB kJ bR;simp only[zcW,Q8];rw[b];exact du (outs:=[zj]) (r:=.int .i64 e) (a:=(e,())) h rfl
theorem yp(h:i<b):Q0 ((i:Int).toNat<b)=Q3:=by simpa using h
def wB(t:aq):Int:=
 if∃i,i<Io t.2.1/\zV t (getD t.2.1 i (zi zl)).1≠(i:Int)then 7 else if(t.t.2.op==[])=Q3 then 0
 else if(cond ((b8 t.t.2 t.2.1).2==0) (cond ((b8 t.t.2 t.2.1).1!=3) ((b8 t.t.2 t.2.1).1!=0) Q4) Q4)=Q3 then 5 else(b8 t.t.2 t.2.1).2
abbrev SI(y:zn az):aq:=(y.t.q.2.1,y.t.t.1,y.t.t.2.1,[],[],y.t.t.q.1)
theorem t7(y:zn az)(g:Io y.t.t.1<=1000000):vt y=Q1 ((wB (SI y),()),y):=by
 have h:=dw (t:=NK) (β:=Unit) (Io y.t.t.1) (λ_ i=>.h2 (Io y.t.t.1:Int) (i:Int) y) (λ_ i=>∀j,j<i->j<Io y.t.t.1->zV (SI y) (getD y.t.t.1 j (zi zl)).1=(j:Int)) (λr=>r=(.int .i64 (wB (SI y)),aB az y)) 1 (by
   intro b i x e;simp only[NK,P6,Kj,Q8,zL x,zz x,zy x,zh,zm,aK];rw[zt i um];by_cases c:(zV (SI y) (getD y.t.t.1 i (zi zl)).1!=(i:Int))=Q3
   .simp only[c,zh];refine Or.inr ⟨_,rfl,?_⟩;unfold wB;rw[ze ⟨i,x,by simpa using c⟩]
   .simp only[c];refine Or.inl ⟨(),λj p g=>?_,rfl⟩;by_cases h:j=i
    .subst h;simpa using c
    .exact e j ow g) (by
   intro b n e q;obtain⟨n,rfl⟩:∃k,n=k+1:=⟨n-1,ow⟩;have l:¬∃i,i<Io (SI y).2.1/\zV (SI y) (getD (SI y).2.1 i (zi zl)).1≠(i:Int):=by
    rintro⟨i,x,h⟩;exact h (e i x x)
   have o:(NK (.h2 (Io y.t.t.1:Int) (Io y.t.t.1:Int) y)).val=Q1 (.inr (.int .i64 (wB (SI y)),aB az y)):=by
    simp only[NK,P6,Kj,Q8,zG,zm];unfold wB;rw[zg l];split
    .simp_all
    .split
     .rfl
     .split<;>rfl
   rw[cK,o];exact⟨_,rfl,rfl⟩)
  y.t.t.1.length 0 () 100000000 rfl (aL _) (λj h=>by omega) ow
 obtain⟨r,m,rfl⟩:=h;unfold vt kJ bR;simp only[zcX,Q8];have d:dv NK 100000000 (.h2 (Io y.t.t.1:Int) 0 y)=Q1 (.int .i64 (wB (SI y)),aB az y):=m;rw[d];exact du (outs:=[zj]) (r:=.int .i64 (wB (SI y))) (a:=(wB (SI y),())) y rfl
theorem wy(t:aq)(s:zH):zV t s=(-1:Int)\/((0:Int)<=zV t s/\LT.lt (α:=Int) (zV t s) (Io t.2.1)):=by have:=gm (λc:bX=>c.1==s) t.2.1 0;unfold zV;simpa using this
theorem rx(h:¬LT.lt (α:=Int) (zV t x) 0):zK (zV t x) (Io t.2.1)=Q3:=by
 rcases wy t x with a|⟨a,b⟩
 .rw[a]at h;simp at h
 .simp only[zK,aF,aR];exact⟨a,b⟩
theorem Al(x:Int):∀(l:List Int)(i:Nat),GE.ge (α:=Int) (e7 x l (i:Int)) 0↔x∈l
 | [],i=>by
  rw[e7];exact⟨λh=>zC h (by decide),λh=>by cases h⟩
 | a::r,i=>by
  rw[e7];split
  .rename_i h;have:x=a:=by simpa using h
   subst this;exact⟨λ_=>pP,λ_=>Int.natCast_nonneg i⟩
  next h=>have:=Al x r (i+1);rw[sK]at this;rw[cf];refine⟨λb=>.inr (this.1 b),λb=>this.2 (b.resolve_left ?_)⟩;rintro rfl;simp at h
theorem tV(l:List Int)(x:Int):tU l x=Q3↔x∈l:=by unfold tU;rw[decide_eq_true_iff];exact Al x l 0
def gq(t:aq)(n:List zH):Int:=if∀s∈n,¬LT.lt (α:=Int) (zV t s) 0 then(ite ((n.map (zV t)).Nodup) 0 7)else 4
theorem DH{l:List Int}:(l++[c]).Nodup↔l.Nodup/\c∉l:=by rw[List.nodup_append];simp;intro _;exact⟨λh x=>h c x rfl,λh y a e=>h (e▸a)⟩
theorem bx{l:List α}(h:i<Io l):l.take (i+1)=l.take i++[l[i]]:=by rw[List.take_add_one,zZ h];rfl
def N3(y:zn bB)(z:zn ec):Prop:=z.1=y.1/\z.2.1=y.2.1/\z.2.2.1=y.2.2.1/\z.2.2.2.1=y.2.2.2.1/\z.t.1=y.t.1/\z.t.2.1=y.t.2.1/\z.t.q.1=y.t.q.1/\z.t.q.2.1=y.t.q.2.1/\
 z.t.t.2.1=y.t.t.1/\z.t.t.q.1=y.t.t.2.1/\z.t.t.t=y.t.t.q
abbrev gO(z:zn ec):aM:=z.t.t.1
abbrev fx(z:zn ec):dI:=z.t.t.q.2.1
def NmI(y:zn bB)(l:List zH)(z:zn ec):Prop:=N3 y z/\fx z=l.map (λs=>zV y.2.2.1 s)/\gO z=l.map (λs=>getD y.2.2.1.2.1 (toNat (zV y.2.2.1 s)) (zi zl))/\∀s∈l,¬LT.lt (α:=Int) (zV y.2.2.1 s) 0
def NmR(y:zn bB)(r:aw):Prop:=∃(e:Int)(z:zn ec),r=(.int .i64 e,aB az z)/\N3 y z/\e=gq y.2.2.1 y.2.1.2.2.2.1/\(e=0->NmI y y.2.1.2.2.2.1 z)/\(gO z).length<=1000000
theorem zrS(y:zn bB)(z:zn ec)(d:NmI y y.2.1.2.2.2.1 z)(l:gq y.2.2.1 y.2.1.2.2.2.1=if(fx z).Nodup then 0 else 7)(u:(fx z).length<=1000000)(m:Nat):∀(i n:Nat),(fx z).length-i=m->i<=(fx z).length->((fx z).take i).Nodup->1+m<=n->∃r,dv qN n (.h12b ((fx z).length:Int) (i:Int) z)=Q1 r/\NmR y r:=by
 intro i n v x g o;have a:(gO z).length<=1000000:=by
  have:=u;rw[d.2.1,cz]at this;rw[d.2.2.1,cz];exact this
 refine dw (t:=qN) (β:=Unit) (fx z).length (λ_ i=>.h12b ((fx z).length:Int) (i:Int) z) (λ_ i=>((fx z).take i).Nodup) (NmR y) 1 ?_ ?_ m i () n v x g o
 .intro b i x e;have s:(Q0 (0<=0)&&Q0 ((0:Int)<=(i:Int))&&Q0 ((i:Int)<=((fx z).length:Int)))=Q3:=by simp;omega
  simp only[qN,E4,yo,Q8,zL x,zz x,zh,s];rw[zt i um];rw[show List.take (toNat (i:Int)-toNat 0) (List.drop (toNat 0) z.t.t.q.2.1)=(fx z).take i by simp,show z.t.t.q.2.1.getD (toNat (i:Int)) (zi zj)=(fx z)[i]from z7 (fx z) _ x];split
  next c=>refine Or.inr ⟨_,rfl,7,z,rfl,d.1,?_,λh=>(by cases h),a⟩;rw[l,zg];intro p;have j:((fx z).take (i+1)).Nodup:=p.sublist (List.take_sublist _ _);rw[bx x,DH]at j;exact j.2 ((tV _ _).1 c)
  next c=>refine Or.inl ⟨(),?_,rfl⟩;show((fx z).take (i+1)).Nodup;rw[bx x,DH];exact⟨e,λh=>c ((tV _ _).2 h)⟩
 .intro b n e o;rw[gF]at e;obtain⟨n,rfl⟩:∃k,n=k+1:=⟨n-1,ow⟩;rw[cK];simp only[qN,E4,yo,Q8,zG];exact⟨_,rfl,0,z,rfl,d.1,by rw[l,ze e],λ_=>d,a⟩
theorem zvY(y:zn bB)(z:zn ec)(x:NmI y y.2.1.2.2.2.1 z)(g:gq y.2.2.1 y.2.1.2.2.2.1=if(fx z).Nodup then 0 else 7)(i:(fx z).length<=1000000)(n:Nat)(m:2+(fx z).length<=n):∃r,dv qN n (.h12 ((fx z).length:Int) 0 z)=Q1 r/\NmR y r:=by
 have d:(gO z).length<=1000000:=by
  have:=i;rw[x.2.1,cz]at this;rw[x.2.2.1,cz];exact this
 obtain⟨n,rfl⟩:∃k,n=k+1:=⟨n-1,ow⟩;rw[cK];by_cases h:0<(fx z).length
 .have l:(Q0 (0<=0)&&Q0 ((0:Int)<=((0:Nat):Int))&&Q0 (((0:Nat):Int)<=((fx z).length:Int)))=Q3:=by simp
  have a:(∃r,(qN (.h12 ((fx z).length:Int) ((0:Nat):Int) z)).val=Q1 (.inr r)/\NmR y r)\/(qN (.h12 ((fx z).length:Int) ((0:Nat):Int) z)).val=Q1 (.inl (.h12b ((fx z).length:Int) ((1:Nat):Int) z)):=by
   simp only[qN,Kl,E5,Q8,zL h,zz h,yp h,zh,l];rw[zt 0 um];split
   next c=>exact zC ((tV _ _).1 c) sw
   .exact Or.inr rfl
  rw[Int.ofNat_zero]at a;rcases a with⟨r,b,j⟩|b
  .rw[b];exact⟨r,rfl,j⟩
  .rw[b];exact zrS y z x g i _ 1 n rfl ow (by rw[bx h];simp) ow
 .have e:(fx z).length=0:=by omega
  have a:(qN (.h12 ((fx z).length:Int) 0 z)).val=Q1 (.inr (.int .i64 0,aB az z)):=by
   rw[e];simp[qN,Kl,E5,Q8]
  rw[a];exact⟨_,rfl,0,z,rfl,x.1,by rw[g,ze (by rw[AF e];exact List.nodup_nil)],λ_=>x,d⟩
theorem nm3(y:zn bB)(z:zn ec)(v:NmI y [] z)(w:Io y.2.1.2.2.2.1<=1000000)(n:Nat)(o:3+Io y.2.1.2.2.2.1+Io y.2.1.2.2.2.1<=n):∃r,dv qN n (.h3 y.2.1.2.2.2.1 (Io y.2.1.2.2.2.1:Int) 0 z)=Q1 r/\NmR y r:=by
 refine dw (t:=qN) (β:=zn ec) (Io y.2.1.2.2.2.1) (λz i=>.h3 y.2.1.2.2.2.1 (Io y.2.1.2.2.2.1:Int) (i:Int) z) (λz i=>NmI y (y.2.1.2.2.2.1.take i) z) (NmR y) (3+Io y.2.1.2.2.2.1) ?_ ?_ (Io y.2.1.2.2.2.1) 0 z n rfl (aL _) (by simpa using v) o
 .intro z i a x;obtain⟨j,p,m,u⟩:=x;have b:(fx z).length<=1000000:=by rw[p,cz,pQ];omega
  have e:(gO z).length<=1000000:=by rw[m,cz,pQ];omega
  have g:z.2.2.1=y.2.2.1:=j.2.2.1;simp only[qN,P9,Km,Q8,zL a,zz a,zh,z7 _ _ a,zm,aQ];rw[zt i um];by_cases d:LT.lt (α:=Int) (zV z.2.2.1 y.2.1.2.2.2.1[i]) 0
  .simp only[zy d,zh];refine Or.inr ⟨_,rfl,4,z,rfl,j,?_,λh=>(by cases h),e⟩;unfold gq;rw[zg];intro h;exact h _ (bp a) (by rw[<-g];exact d)
  .simp only[ae d,rx d];refine Or.inl ⟨(z.1,z.2.1,z.2.2.1,z.2.2.2.1,z.t.1,z.t.2.1,z.t.q.1,z.t.q.2.1,z.t.t.1++[getD z.2.2.1.2.1 (toNat (zV z.2.2.1 y.2.1.2.2.2.1[i])) (zi zl)],z.t.t.2.1,z.t.t.q.1,z.t.t.q.2.1++[zV z.2.2.1 y.2.1.2.2.2.1[i]],z.t.t.t),⟨j,?_,?_,?_⟩,?_⟩;rotate_left 3
   .rw[zg sw,ze (by have:Io z.t.t.q.2.1<=1000000:=b;simp;omega),ze trivial,ze (by have:Io z.t.t.1<=1000000:=e;simp;omega)]
   .show fx z++[zV z.2.2.1 y.2.1.2.2.2.1[i]]=_;rw[p,g,bx a,eI];rfl
   .show gO z++[getD z.2.2.1.2.1 (toNat (zV z.2.2.1 y.2.1.2.2.2.1[i])) (zi zl)]=_;rw[m,g,bx a,eI];rfl
   .intro s c;rw[bx a,bZ]at c;rcases c with c|c
    .exact u s c
    .rw[dO]at c;rw[c,<-g];exact d
 .intro z n x o;obtain⟨n,rfl⟩:∃k,n=k+1:=⟨n-1,ow⟩;rw[gF]at x;have b:(fx z).length=Io y.2.1.2.2.2.1:=by rw[x.2.1,cz]
  rw[cK];simp only[qN,P9,Km,Q8,zG];have l:2+(fx z).length<=n:=by rw[b];omega
  refine zvY y z x ?_ ow n l;unfold gq;rw[ze x.2.2.2,x.2.1]
theorem Hl(y:zn bB)(b:Io y.2.1.2.2.2.1<=1000000):∃(e:Int)(z:zn ec),Bb y=Q1 ((e,()),z)/\N3 y z/\e=gq y.2.2.1 y.2.1.2.2.2.1/\(e=0->NmI y y.2.1.2.2.2.1 z)/\(gO z).length<=1000000:=by
 obtain⟨r,h,e,z,rfl,x⟩:=nm3 y (y.1,y.2.1,y.2.2.1,y.2.2.2.1,y.t.1,y.t.2.1,y.t.q.1,y.t.q.2.1,[],y.t.t.1,y.t.t.2.1,[],y.t.t.q)
  ⟨⟨rfl,rfl,rfl,rfl,rfl,rfl,rfl,rfl,rfl,rfl,rfl⟩,rfl,rfl,sw⟩ b 100000000 ow
 refine⟨e,z,?_,x⟩;unfold Bb kJ bR;simp only[zc3,Q8];rw[h];exact du (outs:=[zj]) (r:=.int .i64 e) (a:=(e,())) (ps:=az) z rfl
theorem zga(y:zn bB):TU y=y:=by unfold TU;rw[zm,zm,zm,zm,zm]
def og(y:zn bB)(z:zn az):Prop:=z.1=y.1/\z.2.1=y.2.1/\z.2.2.1=y.2.2.1/\z.2.2.2.1=y.2.2.2.1/\z.t.1=y.t.1/\z.t.2.1=y.t.2.1/\z.t.q.1=y.t.q.1/\z.t.q.2.1=y.t.q.2.1
structure FO (z:zn az) (cols:aM) (key:Int) (ix:List Int) (on:Int):Prop where
 cols:z.t.t.1=cols
 key:z.t.t.2.1=key
 ix:z.t.t.q.2.1=ix
 on:z.t.t.t.1=on
def eC(t:aq)(n:List zH):aM:=n.map λs=>getD t.2.1 (toNat (zV t s)) (zi zl)
def jr(t:aq)(n:List zH):List Int:=n.map (zV t)
def tA(t:aq)(n:List zH):Int:=if gq t n=0 then(if LT.lt (α:=Int) (gV (jr t n) t.2.2.1) 0 then 1 else 0)else gq t n
def qf(t:aq)(n:List zH):Int:=if gq t n=0 then(ite (((eC t n).getD 1 (zi zl)).2.1=(1:Int)) 0 5)else gq t n
def xE(t:aq)(n:List zH):aM:=
 [(((eC t n).getD 0 (zi zl)).1,((eC t n).getD 0 (zi zl)).2.1,Q3),(((eC t n).getD 1 (zi zl)).1,((eC t n).getD 1 (zi zl)).2.1,Q4)]
def fV(t u:aq)(k w:zH):Int:=
 if LT.lt (α:=Int) (zV t k) 0 then 4 else if jp t.t.1 (zV t k,w)=Q3 then(if LT.lt (α:=Int) 9 ((Io t.2.1:Int)+(Io u.2.1:Int))then 13 else 0)else 10
def DL(k:Int)(n:Nat):List Nat:=(List.range n).filter λj=>(j:Int)!=k
def js(k:Int)(n:Nat):List Int:=(DL k n).map λ(j:Nat)=>(j:Int)
def fX(u:aq)(n:Nat):aM:=(DL u.2.2.1 n).map λj=>getD u.2.1 j (zi zl)
theorem zkn(y:zn bB):Xw y=Xx y y (km y) (gV (km y).t.t.t.1 (km y).2.2.2.1.2.2.1):=by unfold Xw;rw[zga]
theorem Yl(y:zn bB)(u:Io y.2.1.2.2.2.1<=1000):∃z:zn az,I0 y=Q1 ((tA y.2.2.1 y.2.1.2.2.2.1,()),z)/\og y z/\z.t.t.q.1=y.t.t.2.1/\
  (gO z).length<=1000000/\(tA y.2.2.1 y.2.1.2.2.2.1=0->FO z (eC y.2.2.1 y.2.1.2.2.2.1) (gV (jr y.2.2.1 y.2.1.2.2.2.1) y.2.2.1.2.2.1) (jr y.2.2.1 y.2.1.2.2.2.1) y.t.t.q.1):=by
 obtain⟨e,z,m,x,l,n,b⟩:=Hl y ow;have s:km y=(e,z):=by unfold km;rw[m];rfl
 have p:oK y=Q3:=by unfold oK;rw[m];rfl
 have d:og y z:=⟨x.1,x.2.1,x.2.2.1,x.2.2.2.1,x.t.1,x.t.2.1,x.t.q.1,x.t.q.2.1⟩;have c:z.t.t.q.1=y.t.t.2.1:=x.t.t.2.1;unfold I0 kJ bR;rw[zkn];simp only[Xx,Q8,s,p,zh];by_cases g:e=0
 .have j:=n g;have i:tA y.2.2.1 y.2.1.2.2.2.1=if LT.lt (α:=Int) (gV (fx z) z.2.2.1.2.2.1) 0 then 1 else 0:=by
   unfold tA;rw[ze (l▸g),j.2.1,x.2.2.1];rfl
  simp only[g,iz,zE,zp];by_cases k:LT.lt (α:=Int) (gV (fx z) z.2.2.1.2.2.1) 0
  .rw[ze k]at i;simp only[zy k,zh,i];exact⟨_,du (outs:=[zj]) (r:=.int .i64 1) (a:=(1,())) (ps:=az) _ rfl,d,c,b,λh=>by cases h⟩
  .rw[zg k]at i;simp only[ae k,i];refine⟨_,du (outs:=[zj]) (r:=.int .i64 0) (a:=(0,())) (ps:=az) _ rfl,d,c,b,λ_=>⟨j.2.2.1,?_,j.2.1,by rw[x.t.t.q]⟩⟩;show gV (fx z) z.2.2.1.2.2.1=_;rw[j.2.1,x.2.2.1];rfl
 .have o:(e !=0)=Q3:=by simpa using g
  have i:tA y.2.2.1 y.2.1.2.2.2.1=e:=by
   unfold tA;rw[zg (l▸g),l]
  simp only[o,zh,i];exact⟨_,du (outs:=[zj]) (r:=.int .i64 e) (a:=(e,())) (ps:=az) z rfl,d,c,b,λh=>zC h g⟩
theorem zkp(y:zn bB):Xy y=(let a:=km y
  let b:=a.t.t.2.1.getD (toNat 1) (zi zl)
  let h:=a.t.t.2.1.getD (toNat 0) (zi zl)
  let x:=a.t.t.2.1.set (toNat 0) (h.1,h.2.1,Q3)
  let c:=x.getD (toNat 1) (zi zl)
  Xz y y a b h x c):=by unfold Xy;rw[zga]
theorem Ui(y:zn bB)(P:Io y.2.1.2.2.2.1=2):∃z:zn az,Ba y=Q1 ((qf y.2.2.1 y.2.1.2.2.2.1,()),z)/\og y z/\z.t.t.q.1=y.t.t.2.1/\
  (gO z).length<=1000000/\(qf y.2.2.1 y.2.1.2.2.2.1=0->FO z (xE y.2.2.1 y.2.1.2.2.2.1) y.t.t.1 (jr y.2.2.1 y.2.1.2.2.2.1) y.t.t.q.1):=by
 obtain⟨e,z,L,d,G,N,m⟩:=Hl y ow;have S:km y=(e,z):=by unfold km;rw[L];rfl
 have M:oK y=Q3:=by unfold oK;rw[L];rfl
 have l:og y z:=⟨d.1,d.2.1,d.2.2.1,d.2.2.2.1,d.t.1,d.t.2.1,d.t.q.1,d.t.q.2.1⟩;have k:z.t.t.q.1=y.t.t.2.1:=d.t.t.2.1;have o:z.t.t.2.1=y.t.t.1:=d.t.t.1;have I:z.t.t.t.1=y.t.t.q.1:=by rw[d.t.t.q]
 unfold Ba kJ bR;rw[zkp];simp only[Xz,S];by_cases n:e=0
 .have F:=N n;have p:(gO z).length=2:=by rw[F.2.2.1,cz];exact P
  have b:gO z=eC y.2.2.1 y.2.1.2.2.2.1:=F.2.2.1;have H:fx z=jr y.2.2.1 y.2.1.2.2.2.1:=F.2.1;have j:qf y.2.2.1 y.2.1.2.2.2.1=if((eC y.2.2.1 y.2.1.2.2.2.1).getD 1 (zi zl)).2.1=(1:Int)then 0 else 5:=by
   unfold qf;rw[ze (G▸n)]
  obtain⟨s,u,v,w,A,B,C,D,i,E⟩:=z;obtain⟨c,x,rfl⟩:∃c x,i=[c,x]:=by
   match i,p with
   |[c,x],_=>exact⟨c,x,rfl⟩
  have b:[c,x]=eC y.2.2.1 y.2.1.2.2.2.1:=b;unfold xE;rw[<-b]at j|-;simp only[Q8,M,zh,n,iz,zE,zp];have J:zK 1 (Io [c,x])=Q3:=rfl;have e0:zK 0 (Io [c,x])=Q3:=rfl;by_cases g:x.2.1=(1:Int)
  .rw[ze (show([c,x].getD 1 (zi zl)).2.1=(1:Int)from g)]at j;rw[j];refine⟨(s,u,v,w,A,B,C,D,[(c.1,c.2.1,Q3),(x.1,x.2.1,Q4)],E),?_,l,k,by show Io [(c.1,c.2.1,Q3),(x.1,x.2.1,Q4)]<=_;simp,λ_=>⟨rfl,o,H,I⟩⟩;simp[g,getD,zK];exact du (outs:=[zj]) (r:=.int .i64 0) (a:=(0,())) (ps:=az) (s,u,v,w,A,B,C,D,[(c.1,c.2.1,Q3),(x.1,1,Q4)],E) rfl
  .rw[zg (show¬([c,x].getD 1 (zi zl)).2.1=(1:Int)from g)]at j;rw[j];refine⟨(s,u,v,w,A,B,C,D,[c,x],E),?_,l,k,by show Io [c,x]<=_;simp,λh=>by cases h⟩;simp[g,getD];exact du (outs:=[zj]) (r:=.int .i64 5) (a:=(5,())) (ps:=az) (s,u,v,w,A,B,C,D,[c,x],E) rfl
 .have O:(e !=0)=Q3:=by simpa using n
  have j:qf y.2.2.1 y.2.1.2.2.2.1=e:=by
   unfold qf;rw[zg (G▸n),G]
  simp only[Q8,M,O,zh,j];exact⟨z,du (outs:=[zj]) (r:=.int .i64 e) (a:=(e,())) (ps:=az) z rfl,l,k,m,λh=>zC h n⟩
def JnI(y:zn bB)(i:Nat)(z:zn ec):Prop:=og y z/\z.t.t.q.1=y.t.t.2.1/\FO z (y.2.2.1.2.1++fX y.2.2.2.1 i) y.2.2.1.2.2.1 (js y.2.2.2.1.2.2.1 i) (zV y.2.2.1 y.2.1.t.2.1)
theorem lE(k:Int)(n:Nat):(DL k n).length<=n:=by unfold DL;exact aX (List.length_filter_le _ _) sw
theorem Hp(k:Int)(n:Nat):DL k (n+1)=if((n:Int)!=k)=Q3 then DL k n++[n]else DL k n:=by
 unfold DL;rw[List.range_succ,List.filter_append];split
 next h=>rw[List.filter_cons_of_pos (by exact h),List.filter_nil]
 next h=>rw[List.filter_cons_of_neg (by exact h),List.filter_nil,sL]
theorem zvD(y:zn bB)(z:zn ec)(s:JnI y 0 z)(u:Io y.2.2.1.2.1<=100)(v:Io y.2.2.2.1.2.1<=100)(n:Nat)(m:1+Io y.2.2.2.1.2.1<=n):
  ∃r,dv NJ n (.h11 y.2.2.2.1.2.1 (Io y.2.2.2.1.2.1:Int) 0 z)=Q1 r/\∃p:zn ec,r=(.int .i64 0,aB az p)/\JnI y (Io y.2.2.2.1.2.1) p:=by
 refine dw (t:=NJ) (β:=zn ec) (Io y.2.2.2.1.2.1) (λz i=>.h11 y.2.2.2.1.2.1 (Io y.2.2.2.1.2.1:Int) (i:Int) z) (λz i=>JnI y i z) _ 1 ?_ ?_ (Io y.2.2.2.1.2.1) 0 z n rfl (aL _) s m
 .intro z i c d;obtain⟨g,b,x⟩:=d;have o:=lE y.2.2.2.1.2.2.1 i;have e:(gO z).length<=2000:=by
   rw[show gO z=_ from x.cols,gS,fX,cz];omega
  have j:(fx z).length<=2000:=by
   rw[show fx z=_ from x.ix,js,cz];omega
  have l:z.2.2.2.1.2.2.1=y.2.2.2.1.2.2.1:=by rw[g.2.2.2.1]
  simp only[NJ,Kg,EZ,Q8,zL c,zz c,zh,z7 _ _ c];rw[zt i um];refine Or.inl ?_;have h:=Hp y.2.2.2.1.2.2.1 i;split
  .rename_i a;rw[l]at a;rw[ze a]at h;refine⟨(z.1,z.2.1,z.2.2.1,z.2.2.2.1,z.t.1,z.t.2.1,z.t.q.1,z.t.q.2.1,z.t.t.1++[y.2.2.2.1.2.1[i]],z.t.t.2.1,z.t.t.q.1,z.t.t.q.2.1++[(i:Int)],z.t.t.t),⟨g,b,⟨?_,x.key,?_,x.on⟩⟩,?_⟩
   .show z.t.t.1++[y.2.2.2.1.2.1[i]]=_;rw[x.cols,BZ,fX,fX,h,eI];simp[zZ c]
   .show z.t.t.q.2.1++[(i:Int)]=_;rw[x.ix,js,js,h,eI];rfl
   .rw[ze (by have:Io z.t.t.q.2.1<=2000:=j;simp;omega),ze (by have:Io z.t.t.1<=2000:=e;simp;omega)]
  .rename_i a;rw[l]at a;rw[zg a]at h;refine⟨z,⟨g,b,⟨?_,x.key,?_,x.on⟩⟩,rfl⟩
   .rw[x.cols,fX,fX,h]
   .rw[x.ix,js,js,h]
 .intro z n d m;obtain⟨n,rfl⟩:∃k,n=k+1:=⟨n-1,ow⟩;rw[cK];simp only[NJ,Kg,EZ,Q8,zG];exact⟨_,rfl,z,rfl,d⟩
theorem Ym(y:zn bB)(w:Io y.2.2.1.2.1<=100)(A:Io y.2.2.2.1.2.1<=100):∃z:zn az,Dx y=Q1 ((fV y.2.2.1 y.2.2.2.1 y.2.1.t.2.1 y.t.q.1,()),z)/\og y z/\z.t.t.q.1=y.t.t.2.1/\
  (gO z).length<=1000000/\(fV y.2.2.1 y.2.2.2.1 y.2.1.t.2.1 y.t.q.1=0->FO z (y.2.2.1.2.1++fX y.2.2.2.1 (Io y.2.2.2.1.2.1)) y.2.2.1.2.2.1 (js y.2.2.2.1.2.2.1 (Io y.2.2.2.1.2.1)) (zV y.2.2.1 y.2.1.t.2.1)):=by
 have n:∀(a:aM)(b:Int)(c:za)(d:List Int)(e:Int),og y (y.1,y.2.1,y.2.2.1,y.2.2.2.1,y.t.1,y.t.2.1,y.t.q.1,y.t.q.2.1,a,b,c,d,e,()):=λ_ _ _ _ _=>⟨rfl,rfl,rfl,rfl,rfl,rfl,rfl,rfl⟩
 have s:Γ Δ (Γ Δ ((↑(Io y.2.2.1.2.1):Int)+(↑(Io y.2.2.2.1.2.1):Int))-1)=(↑(Io y.2.2.1.2.1):Int)+(↑(Io y.2.2.2.1.2.1):Int)-1:=by
  rw[lX ((↑(Io y.2.2.1.2.1):Int)+(↑(Io y.2.2.2.1.2.1):Int)) ow ow,lX _ ow ow]
 have o:∀e:Int,e≠0->(IP y).val=Q1 (.inr (.int .i64 e,aB az (y.1,y.2.1,y.2.2.1,y.2.2.2.1,y.t.1,y.t.2.1,y.t.q.1,y.t.q.2.1,[],y.t.t.1,y.t.t.2.1,[],zV y.2.2.1 y.2.1.t.2.1,())))->fV y.2.2.1 y.2.2.2.1 y.2.1.t.2.1 y.t.q.1=e->∃z:zn az,Dx y=Q1 ((fV y.2.2.1 y.2.2.2.1 y.2.1.t.2.1 y.t.q.1,()),z)/\og y z/\z.t.t.q.1=y.t.t.2.1/\
  (gO z).length<=1000000/\(fV y.2.2.1 y.2.2.2.1 y.2.1.t.2.1 y.t.q.1=0->FO z (y.2.2.1.2.1++fX y.2.2.2.1 (Io y.2.2.2.1.2.1)) y.2.2.1.2.2.1 (js y.2.2.2.1.2.2.1 (Io y.2.2.2.1.2.1)) (zV y.2.2.1 y.2.1.t.2.1)):=by
  intro e v k j;rw[j];refine⟨_,Y3 k (du (outs:=[zj]) (r:=.int .i64 e) (a:=(e,())) (ps:=az) _ rfl),n _ _ _ _ _,rfl,by show([]:aM).length<=_;simp,λh=>zC h v⟩
 by_cases x:LT.lt (α:=Int) (zV y.2.2.1 y.2.1.t.2.1) 0
 .refine o 4 (by decide) ?_ (by unfold fV;rw[ze x]);simp only[IP,Mg,Q8,zm,zy x,zh]
 by_cases g:jp y.2.2.1.t.1 (zV y.2.2.1 y.2.1.t.2.1,y.t.q.1)=Q3
 .by_cases m:LT.lt (α:=Int) 9 ((Io y.2.2.1.2.1:Int)+(Io y.2.2.2.1.2.1:Int))
  .refine o 13 (by decide) ?_ (by unfold fV;rw[zg x,ze g,ze m]);simp only[IP,Mg,Q8,zm,ae x,g,s];rw[zg sw,zg sw,ze sg]
  .have j:fV y.2.2.1 y.2.2.2.1 y.2.1.t.2.1 y.t.q.1=0:=by unfold fV;rw[zg x,ze g,zg m]
   have k:(IP y).val=Q1 (.inl (.h11 y.2.2.2.1.2.1 (Io y.2.2.2.1.2.1:Int) 0 (y.1,y.2.1,y.2.2.1,y.2.2.2.1,y.t.1,y.t.2.1,y.t.q.1,y.t.q.2.1,y.2.2.1.2.1,y.2.2.1.2.2.1,y.t.t.2.1,[],zV y.2.2.1 y.2.1.t.2.1,()))):=by
    simp only[IP,Mg,Q8,zm,ae x,g,s];rw[zg sw,zg sw,zg sg,ze sg]
   obtain⟨r,u,l,rfl,i⟩:=zvD y (y.1,y.2.1,y.2.2.1,y.2.2.2.1,y.t.1,y.t.2.1,y.t.q.1,y.t.q.2.1,y.2.2.1.2.1,y.2.2.1.2.2.1,y.t.t.2.1,[],zV y.2.2.1 y.2.1.t.2.1,()) ⟨n _ _ _ _ _,rfl,⟨by simp[fX,DL],rfl,rfl,rfl⟩⟩ w A 100000000 ow;rw[j];refine⟨l,?_,i.1,i.2.1,?_,λ_=>i.2.2⟩
   .unfold Dx kJ bR;rw[k];show(dv NJ 100000000 _).bind _=_;rw[u];exact du (outs:=[zj]) (r:=.int .i64 0) (a:=(0,())) (ps:=az) l rfl
   .have p:=lE y.2.2.2.1.2.2.1 (Io y.2.2.2.1.2.1);rw[show gO l=_ from i.2.2.cols,gS,fX,cz];omega
 .refine o 10 (by decide) ?_ (by unfold fV;rw[zg x,zg g]);simp only[IP,Mg,Q8,zm,ae x];rw[zg sw,ze (by simpa using g)]
end Cad
