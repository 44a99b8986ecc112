/- slices. -/
import Derived.Test.YtjfdpfapcmcncaaGreatDoorR14
import Derived.Test.YtjfdpfapcmcncaaGreatDoorR15
import Derived.Lib.DecodeN
namespace Cad
open Go Go.Proofs Go.Sort
open List renaming length→Io
open IntKind renaming wrap→Γ,i64→Δ
open Tr renaming val→Q8
open Bool renaming false→Q4,true→Q3
open Option renaming some→Q1
open Decidable renaming decide→Q0
open Int (toNat)
open List (getD)
open Tr (chk br re)
open AV (nils agg tup ptr kb str sl)
set_option maxHeartbeats 4000000
theorem uU:∀a b:zD,(Lib.compareBytes a b<0)↔Op.bytesLess a b=Q3
 |[],[]=>by simp[Lib.compareBytes,Op.bytesLess]
 |[],_::_=>by simp[Lib.compareBytes,Op.bytesLess]
 |_::_,[]=>by simp[Lib.compareBytes,Op.bytesLess]
 | a::r,b::s=>by
  unfold Lib.compareBytes Op.bytesLess;by_cases o:a<b
  ·simp[o]
  ·by_cases h:b<a
   ·have:a≠b:=λe=>by rw[e]at h;exact absurd h (UInt8.lt_irrefl b)
    simp[o,h,this]
   ·have:a=b:=UInt8.le_antisymm (UInt8.not_lt.1 h) (UInt8.not_lt.1 o);subst this;simp[uU r s]
theorem Ge:∀s:zD,Op.bytesLess s s=Q4
 |[]=>rfl
 |a::r=>by simp[Op.bytesLess,Ge r]
theorem CB:∀{a b c:zD},Op.bytesLess a b=Q3->Op.bytesLess b c=Q3->Op.bytesLess a c=Q3
 |_,[],_,h,_=>by cases‹zD›<;>simp[Op.bytesLess]at h
 |_,_::_,[],_,h=>by simp[Op.bytesLess]at h
 |[],_::_,_::_,_,_=>rfl
 | a::x,b::y,c::z,h,g=>by
  simp only[Op.bytesLess,mP,aE,aQ,bh]at h g⊢;rcases h with h|⟨rfl,h⟩
  ·rcases g with g|⟨rfl,g⟩
   ·exact .inl (UInt8.lt_trans h g)
   ·exact .inl h
  ·rcases g with g|⟨rfl,g⟩
   ·exact .inl g
   ·exact .inr ⟨rfl,CB h g⟩
theorem CA:∀{a b:zD},Op.bytesLess a b=Q4->a≠b->Op.bytesLess b a=Q3
 |[],[],_,h=>absurd rfl h
 |[],_::_,h,_=>by simp[Op.bytesLess]at h
 |_::_,[],_,_=>rfl
 | a::x,b::y,h,hne=>by
  simp only[Op.bytesLess,Bool.or_eq_false_iff,decide_eq_false_iff_not,Bool.and_eq_false_iff]at h;simp only[Op.bytesLess,mP,aE,aQ,bh];by_cases e:b=a
  ·subst e;refine .inr ⟨rfl,CA (h.2.resolve_left sw) λe=>hne (by rw[e])⟩
  ·exact .inl (Nat.lt_of_le_of_ne (UInt8.not_lt.1 h.1) λo=>e (UInt8.toNat_inj.1 o))
def fQ:List (Sem zh)->List (Sem zh)
 |[a,b]=>if Op.bytesLess b.1.1 a.1.1=Q3 then[b,a]else[a,b]
 |l=>l
theorem sq(a b:Sem zh):fQ [a,b]=if Op.bytesLess b.1.1 a.1.1=Q3 then[b,a]else[a,b]:=rfl
def two(l:List (Sem zh)):Bool:=match l with
 |[_]=>Q3
 |[a,b]=>!((a.1.1:zD)==b.1.1)
 |_=>Q4
theorem Yb{l z:List (Sem zh)}(h:two l=Q3)(hp:List.Perm z l)(o:z.Pairwise λx y:Sem zh=>¬Lib.compareBytes y.1.1 x.1.1<0):z=fQ l:=by
 match l,h with
 |[a],_=>exact List.perm_singleton.1 hp
 | [a,b],h=>
  have D:=hp.length_eq;have B:(a.1.1:zD)≠b.1.1:=by simpa[two]using h
  match z,D,hp,o with
  |[x,y],_,hp,o=>
  have o:¬Lib.compareBytes y.1.1 x.1.1<0:=by simpa using o
  rw[uU]at o;have E:x=a/\y=b\/x=b/\y=a:=by
   have u:x∈[a,b]:=hp.mem_iff.1 sw;rcases bL.1 u with rfl|u
   ·have:=(List.perm_cons x).1 hp;exact .inl ⟨rfl,by simpa using this⟩
   ·have C:x=b:=by simpa using u
    subst C;have:=(List.perm_cons x).1 (hp.trans (List.Perm.swap x a []));exact .inr ⟨rfl,by simpa using this⟩
  rw[sq];rcases E with⟨rfl,rfl⟩|⟨rfl,rfl⟩
  ·rw[if_neg o]
  ·rw[if_pos (CA (by simpa using o) B)]
def zey:zZ:=λargs hp _=>match args with
 | [.vec id,.clo (.func 72) [] [.ptr nb 0]]=>match hp id,hp nb with
  |.vec zpF l,.box [.clo (.func 68) [] []]=>.chk (two l) (.ok {val:=.tup [],wr:=[(id,.vec zh (fQ l))]})
  |_,_=>.err
 |_=>.err
theorem zq3:Go.Proofs.Enters Tryz.prog 72:=by
  cases h:Tryz.f72.body with
  | none => have:Tryz.f72.body.isNone=false:=by kernel_rfl
            rw[h]at this;cases this
  |some c=>exact Go.Proofs.enters_of (fn:=Tryz.f72) kw kw h
theorem zgm:FK 107 zey where
 fn:=⟨Tryz.f107,kw,kw,kw⟩
 calls:=λw U ρ hp n args x3 f fp o hr x0 j4 H h6 j1 j5=>by
  unfold zey at o;split at o
  ·rename_i id nb;split at o
   ·rename_i l u C;simp only[Tr.val_chk,Tr.val_ok,bH]at o;obtain⟨W,rfl⟩:=o;have hl:=hr.len
    match x3,hl,hr with
    |[va,vc],_,hr=>
    have r0:=hr.rv 0 _ va rfl rfl;have r1:=hr.rv 1 _ vc rfl rfl;cases r0 with
    |vec _ _ i4 _=>
    cases r1 with
    |clo _ _ _ vf i7 o hc j6 J=>
    match vf,o,i7,hc,J with
    |[],_,[pv],_,J=>
    have r2:=J 0 _ pv rfl rfl;cases r2 with
    |ptr _ _ D Y=>
    have M:id∈fp:=h6 id (by simp[AV.idsL,AV.ids]);have x1:nb∈fp:=h6 nb (by simp[AV.idsL,AV.ids]);have ob:=H.ob nb x1;have x2:=H.ob id M;rw[C]at ob;rw[u]at x2;obtain⟨b',T,arr,e1,x8,x7,h9,j0⟩:=ob;rw[Y]at e1;cases e1;have E:=h9.len;have h5:=h9.rv 0 _ (arr.toList[0]'(by rw[<-E];simp)) rfl (zU _);have F:w.cell? ⟨D,0,none⟩=Q1 (.func (.func 68) #[] #[]):=by
     generalize hx:arr.toList[0]'(by rw[<-E];simp)=x at h5;cases h5 with
     |clo _ _ _ vf vc o hc _ _=>
     match vf,o,vc,hc with
     |[],_,[],_=>
     rw[World.cell?,x7];have:arr[0]?=Q1 (Value.func (.func 68) #[] #[]):=by
      rw[<-sS,zU (by rw[<-E];simp),hx]
     simpa using this
    have Z:=x0 D x8;have h7:l≠[]:=λe=>by rw[e]at W;cases W
    have i8:Io l<=2:=by
     match l,W with
     |[_],_=>simp
     |[_,_],_=>simp
    refine⟨(Yu (n:=n) (e:=zh) (G:=λ_=>True) (λx y:Sem zh=>Lib.compareBytes x.1.1 y.1.1) (by decide) x0 u x2 i4 h7 (λ_ _=>trivial) ?_).mono ?_,by simp;exact M⟩
    ·intro i9 B x6 d j3 hH X h8;have x9:D≠B:=λe=>by
      have:=H.inj id M nb x1 B (by rw[u];exact h8) (by rw[C];exact⟨rfl,_,Y,by simp[e7,e]⟩);subst this;rw[u]at C;cases C
     refine AnyQ.slices_SortFunc Tryz.sortRel 12 Tryz.isAgg47 Tryz.sizeOf47 (λp:Pl w U ρ zh (λ_=>True)=>p.1.1) (λp=>p.2.1) (λp=>p.2.2.1) (λp q=>Lib.compareBytes p.1.2.1.1 q.1.2.1.1) ?_ 72 #[.pointer (Q1 ⟨D,0,none⟩)] B 0 x6 d w zq3 ?_ hH X ow
     ·refine⟨λx=>?_,λx y z h g=>?_,λx y z h g=>?_⟩
      ·have:=Ge x.1.2.1.1;simp only[ltOf,decide_eq_false_iff_not,uU,this];simp
      ·simp only[ltOf,aQ,uU]at*;exact CB h g
      ·simp only[ltOf,decide_eq_false_iff_not,uU]at*;intro L;by_cases e:(x.1.2.1.1:zD)=y.1.2.1.1
       ·rw[e]at L;exact g L
       ·exact g (CB (CA (by simpa using h) e) L)
     ·intro m os dk j2 x y;have nm:∀p:Pl w U ρ zh (λ_=>True),∃v1 v2 v3 v4 v5 v6 v7 v8 v9 O S,p.1.1=[.string ⟨(p.1.2.1.1:zD).toArray⟩,v1,v2,v3,v4,v5,v6,v7,v8,v9,O,S]:=by
       rintro⟨⟨cs,q⟩,h1,W,h3,h4⟩;obtain⟨v,i2,i3⟩:=h3 0 (.str q.1.1) rfl;have h1:Io cs=12:=h1
       match cs,h1 with
       |[a0,a1,a2,a3,a4,a5,a6,a7,a8,a9,x4,x5],_=>
       have:a0=v:=by simpa using i2
       subst this;cases i3;exact⟨a1,a2,a3,a4,a5,a6,a7,a8,a9,x4,x5,rfl⟩
      obtain⟨v1,v2,v3,v4,v5,v6,v7,v8,v9,O,S,ex⟩:=nm x;obtain⟨u1,u2,u3,u4,u5,u6,u7,u8,u9,i5,i6,ey⟩:=nm y;have I:(sortWorldK (λp:Pl w U ρ zh (λ_=>True)=>p.1.1) 12 w B 0 m dk os).heap[D]?=w.heap[D]?:=gW dk Z x9
      have:=Tryz.cmp56 ⟨(x.1.2.1.1:zD).toArray⟩ ⟨(y.1.2.1.1:zD).toArray⟩ v1 v2 v3 v4 v5 v6 v7 v8 v9 O S u1 u2 u3 u4 u5 u6 u7 u8 u9 i5 i6 D (sortWorldK (λp:Pl w U ρ zh (λ_=>True)=>p.1.1) 12 w B 0 m dk os)
       (by rw[World.cell?_of_block I];exact F) (g7 Z (by unfold sortWorldK grow putRowK;simp[Sort.ahead]))
      show Calls Tryz.prog 72 (#[Value.agg x.1.1.toArray,Value.agg y.1.1.toArray]++#[Value.pointer (Q1 ⟨D,0,none⟩)]) _ _;rw[ex,ey];exact this
    ·rintro e' w' ⟨l',i0,i1,v',U',ρ',rfl,h0⟩;rw[Yb W i0 i1]at h0;exact⟨v',U',ρ',rfl,h0⟩
   ·simp at o
  ·simp at o
open Go
theorem KQ{n o b1 b2 u:Nat}(h:o<128):Lib.decodeN n o b1 b2 u=(o,1):=by
 unfold Lib.decodeN;rw[if_pos h]
theorem Ic{n o b1 b2 b3:Nat}(h:¬o<128):128<=(Lib.decodeN n o b1 b2 b3).1:=by
 unfold Lib.decodeN;rw[if_neg h];repeat' split
 all_goals(simp only;omega)
theorem L5{p:Nat->Bool}(hp:∀c:Nat,p c=Q3↔(c<32\/c>126))(s:List UInt8):∀(f o:Nat),Io s<=o+f->(Lib.idxFuncFrom p Q3 ⟨s.toArray⟩ f o<0↔∀(i:Nat)(h:i<Io s),o<=i->32<=s[i].toNat/\s[i].toNat<=126)
 | 0,o,h=>by
  simp only[Lib.idxFuncFrom];exact⟨λ_ i z B=>absurd z (by omega),λ_=>by decide⟩
 | f + 1,o,h=>by
  have D:(⟨s.toArray⟩:ByteArray).size=Io s:=by simp[ByteArray.size]
  rw[Lib.idxFuncFrom,D];by_cases u:o<Io s
  ·have F:((⟨s.toArray⟩:ByteArray).get! o)=s[o]:=by
    simp[ByteArray.get!,u]
   rw[if_pos u,Lib.decode_at,F];by_cases E:s[o].toNat<128
   ·rw[KQ E];simp only;by_cases C:p s[o].toNat=Q3
    ·rw[if_pos C];have:=(hp _).1 C;exact⟨λh=>absurd h (by omega),λh=>by have:=h o u (ae _);omega⟩
    ·rw[if_neg C,L5 hp s f (o+1) (by omega)];have H:¬(s[o].toNat<32\/s[o].toNat>126):=λh=>C ((hp _).2 h)
     refine⟨λh i z B=>?_,λh i z B=>h i z (by omega)⟩;by_cases e:i=o
     ·subst e;omega
     ·exact h i z (by omega)
   ·have G:=Ic (n:=(⟨s.toArray⟩:ByteArray).size-o) (b1:=((⟨s.toArray⟩:ByteArray).get! (o+1)).toNat) (b2:=((⟨s.toArray⟩:ByteArray).get! (o+2)).toNat) (b3:=((⟨s.toArray⟩:ByteArray).get! (o+3)).toNat) E;rw[if_pos ((hp _).2 (by omega))];exact⟨λh=>absurd h (by omega),λh=>by have:=h o u (ae _);omega⟩
  ·rw[if_neg u];exact⟨λ_ i z B=>absurd z (by omega),λ_=>by decide⟩
theorem WQ{p:Nat->Bool}(hp:∀c:Nat,p c=Q3↔(c<32\/c>126))(s:List UInt8):Lib.idxFunc p Q3 ⟨s.toArray⟩<0↔∀b∈s,32<=b.toNat/\b.toNat<=126:=by
 have z:(⟨s.toArray⟩:ByteArray).size=Io s:=by simp[ByteArray.size]
 unfold Lib.idxFunc;rw[L5 hp s _ 0 (by omega)];constructor
 ·intro h b u;obtain⟨i,o,rfl⟩:=fz u;exact h i o (aO _)
 ·intro h i o _;exact h _ (aK o)
open Go Go.Proofs
theorem gi{c g:Bool}(h:c=Q3)(o:g=Q3):(ite (c=Q3) g Q4)=Q3:=by rw[if_pos h];exact o
theorem eF{a b:Nat}(h:a<=b):Q0 (a<=b)=Q3:=zx h
theorem HS{v:Sem ze}(h:aU v=Q3)(z:(v.1==2)=Q3):Io v.2.2<=40:=by
 have e:v.1=2:=by simpa using z
 unfold aU at h;rw[e]at h;simp only[show((2:Int)==0)=Q4 from rfl,show((2:Int)==1)=Q4 from rfl,show((2:Int)==2)=Q3 from rfl,zA,if_false,if_true]at h;cases o:v.2.1==0
 ·rw[o]at h;simp at h
 ·rw[o]at h;cases u:Q0 ((Io v.2.2:Int)<=40)
  ·rw[u]at h;simp at h
  ·have:=lZ u;omega
theorem M5(v:Sem ze):yQ v=Q3:=by
 unfold yQ;split
 ·rfl
 ·rename_i h;have h:aU v=Q3:=by simpa using h
  split
  ·rfl
  ·split
   ·rename_i o;have B:=HS h o;have u:=lL v.2.2 [39] nU;have z:(Lib.replaceAll v.2.2 [39] nU).length<=200:=by
     simp only[dU,iq]at u;omega
    refine gi ?_ (gi (eF ?_) (gi (eF ?_) rfl))
    ·unfold wy;simp;omega
    ·simp;omega
    ·simp;omega
   ·rfl
theorem yR(v:Sem ze):(ii v).length<=300:=by
 unfold ii;split
 ·simp
 ·rename_i h;have h:aU v=Q3:=by simpa using h
  split
  ·have:=G9 v.2.1;omega
  ·split
   ·rename_i o;have z:=HS h o;have u:=lL v.2.2 [39] nU;simp only[dU,iq]at u;simp;omega
   ·split
    ·split<;>simp
    ·simp
theorem HW{s:zD}(h:ei s=Q3):Io s<=16:=by
 have h:qU s=Q3:=h;unfold qU at h;by_cases u:(Io s:Int)<=16
 ·omega
 ·exfalso;rw[aq u]at h;cases o:Q0 ((Io s:Int)>=1)<;>rw[o]at h<;>simp at h
theorem WD{g:zf->Int->Int->Bool×Int}{e:zf}{d n:Int}(h:(AZ g e d n).1=Q3)(z:e.op=cX):e.s.length<=16:=by
 unfold AZ at h;split at h
 ·cases h
 ·split at h
  ·rename_i o;rw[z]at o;simp at o
  ·split at h
   ·cases o:aT e.v
    ·rw[o]at h;simp at h
    ·rw[o]at h;cases u:ei e.s
     ·rw[u]at h;simp at h
     ·exact HW u
   ·rename_i o;rw[z]at o;simp at o
theorem Kb(s:zD):(Lib.toUpperA s).length=Io s:=by simp[Lib.toUpperA]
theorem CO:∀(N:Nat)(e:zf)(d n:Int),N<=16->(il N e d n).1=Q3->gL N e=Q3/\(aR N e).length<=400*2^N-100
 |0,_,_,_,_,h=>by cases h
 | N + 1,e,d,n,hN,h=>by
  rw[il]at h;obtain⟨F,E⟩:=yj h;have hp:2^N<=2^15:=F3 ow ow;have M:1<=2^N:=Nat.one_le_two_pow;have O:2^(N+1)=2*2^N:=by rw[tA];omega
  have u:∀x∈e.l,gL N x=Q3/\(aR N x).length<=400*2^N-100:=by
   intro x H;rcases E with E|E
   ·exfalso;have:cY e.op=0:=by
     rcases E with E|E<;>rw[E]<;>decide
    rw[this]at F;have:e.l=[]:=AQ ow;rw[this]at H;simp at H
   ·obtain⟨m,J⟩:=vH e.l _ E x H;exact CO N x _ _ ow J
  have C:∀i,i<e.l.length->e.l.getD i (zi Sh.expr)∈e.l:=by
   intro i I;rw[aS,zU I];exact aK I
  rw[gL,aR];unfold Bh tO;rcases mj e.op with⟨B,o|o⟩|⟨B,o|o⟩|⟨B,o⟩|B
  ·rw[o];simp only[beq_self_eq_true,if_true];refine⟨gi (M5 _) rfl,?_⟩;have:=yR e.v;omega
  ·have hs:=WD h o;rw[o];refine⟨rfl,?_⟩;show e.s.length<=_;omega
  ·rw[B]at F;have z:e.l.length=1:=by omega
   obtain⟨G,D⟩:=u _ (C 0 ow);rw[o];refine⟨gi ?_ (gi G (gi (eF ?_) (gi (eF ?_) rfl))),?_⟩
   ·simp[zJ,z]
   ·simp at D⊢;omega
   ·simp at D⊢;omega
   ·show(uO++aR N (e.l.getD 0 (zi Sh.expr))++[41]).length<=_;simp at D⊢;omega
  ·rw[B]at F;have z:e.l.length=1:=by omega
   obtain⟨G,D⟩:=u _ (C 0 ow);rw[o];refine⟨gi ?_ (gi G (gi (eF ?_) (gi (eF ?_) rfl))),?_⟩
   ·simp[zJ,z]
   ·simp at D⊢;omega
   ·simp at D⊢;omega
   ·show([40]++aR N (e.l.getD 0 (zi Sh.expr))++Cw).length<=_;simp at D⊢;omega
  ·rw[B]at F;have z:e.l.length=2:=by omega
   obtain⟨G,D⟩:=u _ (C 0 ow);obtain⟨U,W⟩:=u _ (C 1 ow);have S:(Q0 (e.op.length<=140737488355328)&&e.op.all λb=>Q0 (b.toNat<128))=Q3:=by
    rcases o with o|o|o|o|o|o<;>rw[o]<;>decide
   have L:e.op.length<=3:=by
    rcases o with o|o|o|o|o|o<;>rw[o]<;>simp
   have T:=Kb e.op;have X:(e.op==kH)=Q4:=by rcases o with o|o|o|o|o|o<;>rw[o]<;>rfl
   have Y:(e.op==cX)=Q4:=by rcases o with o|o|o|o|o|o<;>rw[o]<;>rfl
   have Z:(e.op==mS)=Q4:=by rcases o with o|o|o|o|o|o<;>rw[o]<;>rfl
   have n4:(e.op==pb)=Q4:=by rcases o with o|o|o|o|o|o<;>rw[o]<;>rfl
   simp only[X,Y,Z,n4,zA,if_false];refine⟨gi ?_ (gi G (gi (eF ?_) (gi (eF ?_) (gi S (gi (eF ?_) (gi (eF ?_) (gi ?_ (gi U (gi (eF ?_) (gi (eF ?_) rfl)))))))))),?_⟩
   ·simp[zJ,z]
   all_goals first
    |(simp[zJ,z];done)
    |(simp at D W⊢;omega)
  ·rw[B]at F;omega
theorem Iz(e:zf):rm e=Q3:=by
 unfold rm;split
 ·rfl
 ·rename_i h;exact gi (CO 16 e 1 0 ow (by simpa[cG]using h)).1 rfl
theorem NY(e:zf):(om e).1.length<=30000000:=by
 unfold om;split
 ·simp
 ·rename_i h;have:=(CO 16 e 1 0 ow (by simpa[cG]using h)).2;show(aR 16 e).length<=_;omega
theorem Bo(p:Int->Bool):∀s:zD,cR p s<=Io s
 |[]=>by simp[cR]
 | c::r=>by
  have:=Bo p r;rw[cR];split<;>simp<;>omega
theorem se(f m:Int->Bool)(s:zD):aP f m s<=Io s:=by
 cases s with
 |nil=>simp[aP]
 | cons c r=>
  have:=Bo m r;rw[aP];split<;>simp<;>omega
theorem Yx(i:Nat)(h:i<=4000000000):Γ Δ (i:Int)=(i:Int):=by
 have:=zr (i-1) um;cases i with
 |zero=>rfl
 |succ i=>simpa using this
theorem qV(i:Nat)(h:i<=4000000000):Γ Δ ((i:Int)+1)=((i+1:Nat):Int):=zr i um
theorem oP:∀(n:Nat)(s:zD)(i:Nat)(a:Int)(b:zD),1<=i->i<=Io s->Io s+2<=n+i->Io s<=1000000000->jv n s (i:Int) a b=Q3
 |0,s,i,a,b,B,C,D,u=>by omega
 | n + 1,s,i,a,b,B,C,D,u=>by
  rw[jv];split
  ·rename_i h;have h:i<Io s:=by have:=lZ h;omega
   refine gi (zt h) ?_;rw[qV i ow];split
   ·exact oP n s (i+1) a b ow ow ow u
   ·refine gi ?_ ?_
    ·cases o:Q0 (((i+1:Nat):Int)<(Io s:Int))
     ·rfl
     ·exact zt (by have:=lZ o;omega)
    ·split
     ·rename_i z;have E:i+1<Io s:=by
       cases o:Q0 (((i+1:Nat):Int)<(Io s:Int))
       ·rw[o]at z;simp at z
       ·have:=lZ o;omega
      rw[qV (i+1) ow];exact oP n s (i+1+1) a b ow ow ow u
     ·refine gi ?_ (gi ?_ rfl)
      ·simp;omega
      ·unfold wy;simp;omega
  ·rfl
theorem uv:∀(n:Nat)(s:zD)(i:Nat)(a:Int)(b:zD),1<=i->i<=Io s->Io s+2<=n+i->Io s<=1000000000->
  (e8 n s (i:Int) a b=((0,[]),0))\/∃k:Nat,(e8 n s (i:Int) a b).2=(k:Int)/\1<=k/\k<=Io s
 |0,s,i,a,b,B,C,D,o=>by omega
 | n + 1,s,i,a,b,B,C,D,o=>by
  rw[e8];split
  ·rename_i h;have h:i<Io s:=by have:=lZ h;omega
   rw[qV i ow];split
   ·exact uv n s (i+1) a b ow ow ow o
   ·split
    ·rename_i z;have E:i+1<Io s:=by
      cases u:Q0 (((i+1:Nat):Int)<(Io s:Int))
      ·rw[u]at z;simp at z
      ·have:=lZ u;omega
     rw[qV (i+1) ow];exact uv n s (i+1+1) a b ow ow ow o
    ·exact .inr ⟨i+1,rfl,ow,ow⟩
  ·exact .inl rfl
theorem Kc(t:Sem cg):su t=Q3:=by
 unfold su;split
 ·rfl
 ·split
  ·refine gi ?_ rfl;cases h:((Io t.2:Int)==1)
   ·rfl
   ·have:(Io t.2:Int)=1:=by simpa using h
    simp only[af,bh];omega
  ·simp
theorem Fa(s:zD)(C:s≠[])(D:Io s<=1000000000):kW s=Q3:=by
 have o:1<=Io s:=by cases s with|nil=>exact absurd rfl C|cons _ _=>simp
 have G:=se aL bz s;have H:=se zY zY s;have F:kE s=Q3:=oP (Io s+1) s 1 _ _ ow o ow D;have E:zJ 0 (Io s)=Q3:=zt o;have u:(Q0 ((0:Int)<=0)&&Q0 (0<=(↑(aP aL bz s):Int))&&Q0 ((↑(aP aL bz s):Int)<=(↑(Io s):Int)))=Q3:=by simp;omega
 have z:(Q0 ((0:Int)<=0)&&Q0 (0<=(↑(aP zY zY s):Int))&&Q0 ((↑(aP zY zY s):Int)<=(↑(Io s):Int)))=Q3:=by simp;omega
 have B:(Q0 ((0:Int)<=0)&&Q0 ((0:Int)<=1)&&Q0 (1<=(↑(Io s):Int)))=Q3:=by simp;omega
 unfold kW;simp only[F,E,if_true,zA,if_false];repeat' split
 all_goals first
  |rfl
  |(rename_i h;exfalso;apply h;simp;omega)
theorem wV(s:zD)(E:s≠[])(F:Io s<=1000000000)(o:cq (bJ s).1=Q3):∃k:Nat,(bJ s).2=(k:Int)/\1<=k/\k<=Io s:=by
 have I:1<=Io s:=by cases s with|nil=>exact absurd rfl E|cons _ _=>simp
 have J:=se aL bz s;have L:=se zY zY s;have C:=uv (Io s+1) s 1 0 [] ow I ow F;unfold bJ at o⊢;simp only[if_true,zA,if_false]at o⊢;split
 ·rename_i h;have:=lZ h;exact⟨_,rfl,ow,ow⟩
 ·rename_i h;rw[if_neg h]at o;split
  ·rename_i u;have:=lZ u;exact⟨_,rfl,ow,ow⟩
  ·rename_i u;rw[if_neg u]at o;split
   ·rename_i G;rw[if_pos G]at o;rcases C with C|⟨k,H,z,B⟩
    ·exfalso;have D:eo s=((0,[]),0):=C;rw[D]at o;revert o;decide
    ·exact⟨k,H,z,B⟩
   ·exact⟨1,rfl,ow,ow⟩
theorem xp:∀(n:Nat)(s:zD)(i:Nat)(l:List (Sem zp)),i<=Io s->Io s+1<=n+i->Io s<=1000000000->Io l<=400->tL n s (i:Int) l=true
 |0,s,i,l,H,I,C,E=>by omega
 | n + 1,s,i,l,H,I,C,E=>by
  rw[tL];split
  ·rename_i o;have o:i<Io s:=by have:=lZ o;omega
   have G:List.take ((Io s:Int).toNat-(i:Int).toNat) (List.drop (i:Int).toNat s)=s.drop i:=by
    simp only[aD];exact Ch sw
   rw[G];refine gi ?_ ?_
   ·rw[zt o];cases(((s.getD (i:Int).toNat 0).toNat:Int)==32)<;>rfl
   ·split
    ·rw[qV i ow];exact xp n s (i+1) l ow ow C E
    ·have z:s.drop i≠[]:=by
      intro h;have:=congrArg Io h;simp at this;omega
     have u:(s.drop i).length<=1000000000:=by simp;omega
     refine gi ?_ (gi (Fa _ z u) (gi (Kc _) ?_))
     ·simp;omega
     ·split
      ·rfl
      ·rename_i B;have F:cq (bJ (s.drop i)).1=Q3:=by
        cases T:cq (bJ (s.drop i)).1
        ·rw[T]at B;simp at B
        ·rfl
       have S:Io l≠400:=by
        intro J;rw[F,J]at B;simp at B
       obtain⟨k,L,M,D⟩:=wV _ z u F;have O:k<=Io s-i:=by simpa using D
       refine gi (eF ?_) ?_
       ·simp;omega
       ·rw[L,show((i:Int)+(k:Int))=((i+k:Nat):Int) by omega,Yx (i+k) ow];exact xp n s (i+k) _ ow ow C sg
  ·rfl
theorem Ux(s:zD)(h:Io s<=1000000000):Uw s=Q3:=xp (Io s+1) s 0 [] ow ow h sw
structure my (s:Sem zn):Prop where
 op:Io s.1<=1000
 table:Io s.2.1<=1000
 other:Io s.2.2.1<=1000
 names:Io s.2.2.2.1<=20/\∀x∈s.2.2.2.1,Io x<=1000
 cols:Io s.t.1<=20/\∀x∈s.t.1,Io x.1<=1000
 key:Io s.t.2.1<=1000
 uniques:Io s.t.q.1<=20/\∀x∈s.t.q.1,Io x<=1000
 refs:Io s.t.q.2.1<=20/\∀x∈s.t.q.2.1,Io x.1<=1000/\Io x.2<=1000
 row:Io s.t.t.2.1<=20
 sets:Io s.t.t.q.1<=20/\∀x∈s.t.t.q.1,Io x.1<=1000
 role:Io s.t.t.t<=1000
theorem vD(o:zD)(B:Nat):∀l:List zD,(∀x∈l,Io x<=B)->(Lib.join l o).length<=Io l*(B+Io o)
 |[],_=>by simp[Lib.join,List.intercalate]
 | [x],h=>by
  rw[Lib.join_one];have:=h x sw;simp;omega
 | x::y::r,h=>by
  have C:=vD o B (y::r) (λz u=>h z (mO _ u));have D:=h x sw;have e:Lib.join (x::y::r) o=x++o++Lib.join (y::r) o:=by simp[Lib.join,List.intercalate,List.intersperse]
  rw[e];simp only[ip,dU]at C⊢;rw[gT];omega
theorem qm{α:Type}(p:α->Bool):∀(l:List α)(i:Nat),(!Q0 (zW p l i>=0))=Q3->∀x∈l,p x=Q4
 |[],_,_,x,o=>by simp at o
 | y::r,i,h,x,o=>by
  rw[zW]at h;cases u:p y
  ·rw[u]at h;rcases bL.1 o with rfl|o
   ·exact u
   ·exact qm p r (i+1) (by simpa using h) x o
  ·exfalso;rw[u]at h;simp at h
   try omega
theorem FO(e:zf):qW e=Q3:=gi (Iz e) rfl
theorem AL(e:zf):(iT e).length<=30000000:=NY e
theorem nW(s:zD)(h:Io s<=10)(e:zf):uR s e=Q3:=by
 unfold uR;have:=AL e;split
 ·rfl
 ·refine gi (eF ?_) (gi (FO e) (gi (eF ?_) (gi (eF ?_) rfl)))
  all_goals(simp;omega)
theorem tI(s:zD)(h:Io s<=10)(e:zf):(lh s e).length<=30000030:=by
 unfold lh;have:=AL e;split
 ·simp
 ·simp;omega
theorem qK:∀(l:List (Sem Sh.str))(i:Int)(acc:List zD),dO l i acc=Lib.join (acc++l.map ms) eZ
 |[],i,acc=>by simp[dO]
 |x::r,i,acc=>by rw[dO,qK r];simp
theorem JU(B:Nat)(l:List (Sem Sh.str))(h:∀x∈l,(ms x).length<=B):(gI l).length<=Io l*(B+3):=by
 unfold gI;rw[qK];have:=vD eZ B ([]++l.map ms) (λy o=>by
  simp only[pK,bd]at o;obtain⟨x,u,rfl⟩:=o;exact h x u)
 simpa using this
theorem wL(B:Nat)(D:B<=100000000):∀(l:List (Sem Sh.str))(i:Int)(acc:List zD),(∀x∈l,(ms x).length<=B)->(∀x∈acc,Io x<=B)->Io acc+Io l<=40->ef l i acc=Q3
 | [],i,acc,_,z,u=>by
  rw[ef];refine gi ?_ rfl;have C:=vD eZ B acc z;have F:Io acc*(B+3)<=40*100000003:=Ga (by simpa using u) ow
  replace C:(Lib.join acc eZ).length<=Io acc*(B+3):=C
  simp only[aE,aQ];simp at u;exact⟨ow,ow⟩
 | x::r,i,acc,h,z,u=>by
  rw[ef];have E:=h x sw;simp at u;refine gi (eF ?_) ?_
  ·simp;omega
  ·refine wL B D r (i+1) _ (λy o=>h y (mO _ o)) (λy o=>?_) sg;rcases cJ.1 o with o|o
   ·exact z y o
   ·simp at o;subst o;exact E
theorem eK{s:Sem zn}{g b:Bool}(h:(vw s).val=if g=Q3 then Q1 (.inr (.bool b,[]))else none):wG s=g/\fx s=(g&&b):=by
 unfold wG fx BZ al dd;rw[h];cases g<;>cases b<;>exact⟨rfl,rfl⟩
theorem zbf{x:zD}(o:x=cT):(x==mT)=Q4/\(x==Ft)=Q4/\(x==H6)=Q4/\(x==pt)=Q4/\(x==Kh)=Q4/\(x==pO)=Q4/\(x==PA)=Q4/\(x==xm)=Q4/\(x==AR)=Q4/\(x==Cv)=Q4/\(x==cT)=Q3:=by rw[o];exact⟨rfl,rfl,rfl,rfl,rfl,rfl,rfl,rfl,rfl,rfl,rfl⟩
theorem zbg{x:zD}(o:x=eX):(x==mT)=Q4/\(x==Ft)=Q4/\(x==H6)=Q4/\(x==pt)=Q4/\(x==Kh)=Q4/\(x==pO)=Q4/\(x==PA)=Q4/\(x==xm)=Q4/\(x==AR)=Q4/\(x==Cv)=Q4/\(x==cT)=Q4/\(x==eX)=Q3:=by rw[o];exact⟨rfl,rfl,rfl,rfl,rfl,rfl,rfl,rfl,rfl,rfl,rfl,rfl⟩
theorem Xi{x:zD}(o:x=kq):(x==mT)=Q4/\(x==Ft)=Q4/\(x==H6)=Q4/\(x==pt)=Q4/\(x==Kh)=Q4/\(x==pO)=Q4/\(x==PA)=Q4/\(x==xm)=Q4/\(x==AR)=Q4/\(x==Cv)=Q4/\(x==cT)=Q4/\(x==eX)=Q4/\(x==kq)=Q3:=by rw[o];exact⟨rfl,rfl,rfl,rfl,rfl,rfl,rfl,rfl,rfl,rfl,rfl,rfl,rfl⟩
abbrev jO(o:zD):Prop:=o=cT\/o=eX\/o=kq
theorem gh{x:Sem zn}(h:Io x.2.1<=1000)(o:Io x.2.2.1<=1000)(u:Io x.2.2.2.2.2.1<=1000)(z:Io x.2.2.2.2.2.2.2.2.2.2.2.2<=1000):ez x=Q3:=by
 unfold ez;refine gi (eF ?_) (gi (eF ?_) (gi (eF ?_) rfl))
 all_goals first|omega|(simp;omega)
theorem Cu{c g:Bool}(h:g=Q3):(cond c g Q3)=Q3:=by cases c<;>simp[h]
def tC(s:Sem zn):zD:=Uk++RV++[32]++s.2.1++lg++s.2.2.1++AS++gI s.2.2.2.1++iv++lh [32] s.t.t.1
def tJ(s:Sem zn):zD:=Uk++RX++[32]++s.2.1++lg++s.2.2.1++eZ++s.t.t.t++AT++s.t.2.1++lh [32] s.t.t.1
def tG(s:Sem zn):zD:=Uk++RW++[32]++s.2.1++lg++s.2.2.1++RT++s.2.2.2.1.getD 0 []++RU++s.2.2.2.1.getD 1 []++lh [32] s.t.t.1
theorem zeq{s:Sem zn}(h:my s)(o:s.1=cT):(Ap s).val=Q1 (.inr (.str (tC s),[]))/\(tC s).length<=1000000000:=by
 obtain⟨G,H,I,J,L,M,O,S,T,U,C⟩:=zbf o;have D:Lib.toUpperA s.1=RV:=by rw[o];rfl
 have E:(Q0 (Io s.1<=140737488355328)&&List.all s.1 λb=>Q0 (b.toNat<128))=Q3:=by rw[o];decide
 have Z:=h.table;have X:=h.other;have Y:=h.role;have W:=h.key;have z:=nW [32] sw s.t.t.1;have F:=tI [32] sw s.t.t.1;have B:nK s.2.2.2.1=Q3:=wL 1000 ow s.2.2.2.1 0 [] h.names.2 sw (by have:=h.names.1;simp;omega);have u:=JU 1000 s.2.2.2.1 h.names.2;have u:(gI s.2.2.2.1).length<=20*1003:=bt u (Ga h.names.1 ow);refine⟨?_,by unfold tC;simp only[ip,dU,iq];omega⟩;unfold tC;simp only[Ap,Q8,zk,E,D,G,H,I,J,L,M,O,S,T,U,C,B,z,if_true,zA,if_false]
 iterate 9 rw[if_pos (zx (by simp<;>omega))]
theorem zes{s:Sem zn}(h:my s)(o:s.1=eX):(Ap s).val=Q1 (.inr (.str (tJ s),[]))/\(tJ s).length<=1000000000:=by
 obtain⟨F,G,H,I,J,L,M,O,S,T,z,B⟩:=zbg o;have C:Lib.toUpperA s.1=RX:=by rw[o];rfl
 have D:(Q0 (Io s.1<=140737488355328)&&List.all s.1 λb=>Q0 (b.toNat<128))=Q3:=by rw[o];decide
 have Y:=h.table;have W:=h.other;have X:=h.role;have U:=h.key;have u:=nW [32] sw s.t.t.1;have E:=tI [32] sw s.t.t.1;refine⟨?_,by unfold tJ;simp only[ip,dU,iq];omega⟩;unfold tJ;simp only[Ap,Q8,zk,D,C,F,G,H,I,J,L,M,O,S,T,z,B,u,if_true,zA,if_false]
 iterate 10 rw[if_pos (zx (by simp<;>omega))]
theorem zer{s:Sem zn}(h:my s)(o:s.1=kq)(C:Io s.2.2.2.1=2):(Ap s).val=Q1 (.inr (.str (tG s),[]))/\(tG s).length<=1000000000:=by
 obtain⟨M,O,S,T,U,W,X,Y,Z,p9,z,B,_⟩:=Xi o;have F:Lib.toUpperA s.1=RW:=by rw[o];rfl
 have G:(Q0 (Io s.1<=140737488355328)&&List.all s.1 λb=>Q0 (b.toNat<128))=Q3:=by rw[o];decide
 have ht:=h.table;have ho:=h.other;have hr:=h.role;have hk:=h.key;have u:=nW [32] sw s.t.t.1;have H:=tI [32] sw s.t.t.1;have n0:(s.2.2.2.1.getD 0 []).length<=1000:=by
  rw[aS,zU ow,dv];exact h.names.2 _ (aK _)
 have L:(s.2.2.2.1.getD 1 []).length<=1000:=by
  rw[aS,zU ow,dv];exact h.names.2 _ (aK _)
 have I:zJ 0 (Io s.2.2.2.1)=Q3:=by rw[C];rfl
 have J:zJ 1 (Io s.2.2.2.1)=Q3:=by rw[C];rfl
 have D:getD s.2.2.2.1 (toNat 0) (zi Sh.str)=s.2.2.2.1.getD 0 []:=rfl;have E:getD s.2.2.2.1 (toNat 1) (zi Sh.str)=s.2.2.2.1.getD 1 []:=rfl;refine⟨?_,by unfold tG;simp only[ip,dU,iq];omega⟩;unfold tG;simp only[Ap,Q8,zk,G,F,M,O,S,T,U,W,X,Y,Z,p9,z,B,D,E,I,J,u,if_true,zA,if_false];generalize s.2.2.2.1.getD 0 []=a0 at n0;generalize s.2.2.2.1.getD 1 []=a1 at L
 iterate 10 rw[if_pos (zx (by simp<;>omega))]
theorem iQ{s:Sem zn}{t:zD}(h:(Ap s).val=Q1 (.inr (.str t,[]))/\Io t<=1000000000):EP s=Q3/\iP s=t:=by
 unfold EP iP JN al dd;rw[h.1];exact⟨rfl,rfl⟩
theorem JM{s:Sem zn}(M:my s)(W:jO s.1):wG s=Q3:=by
 have S:=M.other;have T:=M.key;have U:=M.role;rcases W with o|o|o
 ·obtain⟨B,C,D,E,F,G,H,I,J,L,h⟩:=zbf o;obtain⟨z,_⟩:=eK (s:=s) (g:=_) (b:=_) (by simp only[vw,Q8,B,C,D,E,F,G,H,I,J,L,h,if_true,if_false,zA,zk];exact rfl);rw[z];exact Cu (gh (by simp) (by first|exact S|simp) (by first|exact T|simp) (by first|exact U|simp))
 ·obtain⟨B,C,D,E,F,G,H,I,J,L,h,u⟩:=zbg o;obtain⟨z,_⟩:=eK (s:=s) (g:=_) (b:=_) (by simp only[vw,Q8,B,C,D,E,F,G,H,I,J,L,h,u,if_true,if_false,zA,zk];exact rfl);rw[z];exact Cu (gh (by simp) (by first|exact S|simp) (by first|exact T|simp) (by first|exact U|simp))
 ·obtain⟨B,C,D,E,F,G,H,I,J,L,h,u,O⟩:=Xi o;obtain⟨z,_⟩:=eK (s:=s) (g:=_) (b:=_) (by simp only[vw,Q8,B,C,D,E,F,G,H,I,J,L,h,u,O,if_true,if_false,zA,zk];exact rfl);rw[z];exact Cu (gh (by simp) (by first|exact S|simp) (by first|exact T|simp) (by first|exact U|simp))
theorem jN{s:Sem zn}(h:fx s=Q3)(o:s.1=kq):Io s.2.2.2.1=2:=by
 obtain⟨G,H,I,J,L,M,O,S,T,U,z,B,C⟩:=Xi o;obtain⟨_,hp⟩:=eK (s:=s) (g:=_) (b:=_) (by simp only[vw,Q8,G,H,I,J,L,M,O,S,T,U,z,B,C,if_true,if_false,zA,zk];exact rfl);rw[hp]at h;by_cases D:Io s.2.2.2.1=2
 ·exact D
 ·exfalso;have F:(cond (Q0 ((Io s.2.2.2.1:Int)<2)) Q3 (Q0 ((Io s.2.2.2.1:Int)>2)))=Q3:=by
   rcases Nat.lt_or_gt_of_ne D with u|u
   ·have:Q0 ((Io s.2.2.2.1:Int)<2)=Q3:=zx ow;rw[this];rfl
   ·have:Q0 ((Io s.2.2.2.1:Int)>2)=Q3:=zx ow;rw[this];cases Q0 ((Io s.2.2.2.1:Int)<2)<;>rfl
  rw[F]at h;cases E:bV s.2.1<;>cases u:bV s.2.2.1<;>rw[E,u]at h<;>simp at h
theorem MX{s:Sem zn}(u:my s)(z:jO s.1):oW s=Q3:=by
 unfold oW;refine gi ?_ rfl;unfold wK;refine gi (JM u z) ?_;split
 ·rfl
 ·rename_i h;have hp:fx s=Q3:=by simpa using h
  have:EP s=Q3/\(iP s).length<=1000000000:=by
   rcases z with o|o|o
   ·have:=zeq u o;exact⟨(iQ this).1,(iQ this).2▸this.2⟩
   ·have:=zes u o;exact⟨(iQ this).1,(iQ this).2▸this.2⟩
   ·have:=zer u o (jN hp o);exact⟨(iQ this).1,(iQ this).2▸this.2⟩
  exact gi this.1 (gi (Ux _ this.2) rfl)
theorem Fe:∀(es:List ((Int×Int×zD)×Int))(n:Nat)(x:Int),(ko es n x).length=Io es
 |[],_,_=>rfl
 |_::_,0,_=>rfl
 |_::r,n+1,x=>by simp[ko,Fe r n x]
theorem Yv(es:List ((Int×Int×zD)×Int))(k:Int×Int×zD):(jZ es k).length<=Io es+1:=by
 unfold jZ;cases nM es k<;>simp
theorem HU:∀(es:List ((Int×Int×zD)×Int))(k:Int×Int×zD),(nM es k=Q3->lT es k<Io es)/\lT es k<=Io es
 |[],k=>⟨λh=>by simp[nM]at h,ae _⟩
 | p::r,k=>by
  obtain⟨o,z⟩:=HU r k;constructor
  ·intro h;rw[lT];cases u:(k==p.1)with
   |true=>simp
   | false=>
    have:nM r k=Q3:=by simpa[nM,u]using h
    have:=o this;simp;omega
  ·rw[lT];cases(k==p.1)<;>simp<;>omega
theorem zbV(es:List ((Int×Int×zD)×Int))(k:Int×Int×zD):lT es k<(jZ es k).length:=by
 obtain⟨o,u⟩:=HU es k;unfold jZ;cases h:nM es k with
 |true=>exact o h
 |false=>simp;omega
def Fi(c:Int)(n:Nat):Prop:=0<=c/\c<n
theorem mg{c:Int}{n:Nat}(h:Fi c n):zJ c n=Q3:=by
 simp[zJ,h.1,h.2]
theorem qj(x:Int)(n:Nat):xX x n=Q3↔Fi x n:=by
 unfold Fi xX;by_cases h:x>=0
 ·rw[zx h];simp;omega
 ·rw[aq h];simp;omega
theorem yF{α:Type}{l:List α}{d:α}{p:α->Bool}:((List.range (Io l)).all λi=>p (l.getD i d))=Q3↔∀x∈l,p x=Q3:=by
 rw[ep];constructor
 ·intro h x u;obtain⟨i,o,rfl⟩:=fz u;have:=h i (pL.2 o)
  rwa [aS,zU o]at this
 ·intro h i o;have o:=pL.1 o;rw[aS,zU o];exact h _ (aK o)
theorem MK{t:Sem zo}:(List.range (Io t.t.1)).all (zbv t)=Q3↔∀f∈t.t.1,Fi f.1 (Io t.2.1)/\zQ f.2=Q3:=by
 have h:=yF (l:=t.t.1) (d:=zi zp) (p:=λf:Sem zp=>xX f.1 (Io t.2.1)&&zQ f.2);simp only[aE,qj]at h;exact h
theorem fi{t:Sem zo}(h:dp t=Q3):Fi t.2.2.1 (Io t.2.1)/\(∀f∈t.t.1,Fi f.1 (Io t.2.1))/\(∀u∈t.2.2.2.1,Fi u (Io t.2.1))/\Io t.2.1<=8/\1<=Io t.2.1:=by
 have E:=Qj h;unfold dp at h;simp only[aE,qj]at h;obtain⟨o,_,z,B,D,_⟩:=h;have B:=MK.1 B;have z:=(yF (l:=t.2.2.2.1) (d:=zi zg) (p:=λu=>xX u (Io t.2.1))).1 z;simp only[qj]at z;refine⟨D,λf F=>(B f F).1,z,E,?_⟩;cases C:zQ t.1
 ·rw[C]at o;simp at o
 ·rw[C]at o;simp at o;omega
theorem Dj{t:Sem zo}{row:List (Sem ze)}(h:(dc t row !=0)≠Q3):Io row=Io t.2.1:=by
 simp at h;unfold dc at h;split at h
 ·cases h
 ·rename_i o;cases u:dp t with
  |false=>rw[u]at o;simp at o
  | true=>
   rw[u]at o;simp at o;omega
abbrev zE(c:Int)(r:List (Sem ze)):Sem ze:=getD r (toNat c) (zi ze)
def sD(rows:List (List (Sem ze)))(c:Int):Prop:=rows.Pairwise λa b=>(zE c a).1≠0->zE c a≠zE c b
theorem qT:∀(es:List ((Int×Int×zD)×Int))(k:Int×Int×zD)(x:Int),ko (jZ es k) (lT es k) x=kG es k x
 |[],k,x=>by simp[jZ,nM,lT,ko,kG]
 | p::r,k,x=>by
  have h:=qT r k x;cases o:(k==p.1)with
  | true=>
   have e:k=p.1:=bG o;simp[jZ,nM,lT,ko,kG,e]
  | false=>
   have e:jZ (p::r) k=p::jZ r k:=by
    simp only[jZ,nM,List.any_cons,o,Bool.false_or];cases(r.any λp=>k==p.1)<;>rfl
   rw[e,lT,kG,o];show p::ko (jZ r k) (lT r k) x=p::kG r k x;rw[h]
theorem HT(es:List ((Int×Int×zD)×Int))(k o:Int×Int×zD)(x:Int):gB (kG es k x) o=if o=k then x else gB es o:=by
 induction es with
 | nil=>
  by_cases h:o=k
  ·subst h;simp[kG,gB]
  ·simp[kG,gB,h]
 | cons p r z=>
  rw[kG];cases u:(k==p.1)with
  | true=>
   have e:k=p.1:=bG u;by_cases h:o=k
   ·simp[gB,h]
   ·have B:(o==p.1)=Q4:=by rw[<-e];simpa using h
    have C:(o==k)=Q4:=by simpa using h
    simp only[af,gB,List.find?_cons,B,C,if_neg h]
  | false=>
   show gB (p::kG r k x) o=_;cases hp:(o==p.1)with
   | true=>
    have e:o=p.1:=bG hp;have h:o≠k:=by intro h;rw[<-h,hp]at u;cases u
    simp only[gB,List.find?_cons,hp,if_neg h]
   | false=>
    simp only[gB,List.find?_cons,hp]at z⊢;exact z
def vJ:List (Sem ze)->List ((Int×Int×zD)×Int)
 |[]=>[]
 |v::r=>kG (vJ r) v (Γ Δ (gB (vJ r) v+1))
theorem L3:∀l:List (Sem ze),(vJ l).length<=Io l
 |[]=>ae _
 | v::r=>by
  rw[vJ,<-qT,Fe];have:=Yv (vJ r) v;have:=L3 r;simp;omega
theorem DJ:∀(l:List (Sem ze))(v:Sem ze),Io l<=1000000->gB (vJ l) v=(l.count v:Int)
 |[],v,_=>by simp[vJ,gB]
 | u::r,v,h=>by
  simp only[dU]at h;have z:=DJ r u ow;have B:=DJ r v ow;have C:r.count u<=Io r:=List.count_le_length;rw[vJ,HT,z,B,zr _ um];by_cases e:v=u
  ·subst e;simp
  ·have o:¬(u==v)=Q3:=by intro h;exact e (bG h).symm
   rw[if_neg e,List.count_cons,if_neg o];rfl
theorem MH{x:Sem zh}{c:Int}(S:∀r∈x.2,zJ c (Io r)=Q3)(hl:Io x.2<=1000000):∃b,BT x c=Q1 (b,())/\(b=Q4↔sD x.2 c):=by
  let o:Nat->Sem ze:=λi=>zE c (getD x.2 i (zi ze.sl))
  let mm:Nat->List ((Int×Int×zD)×Int):=λi=>vJ (((x.2.take i).map (zE c)).reverse)
  have L:∀i,i<Io x.2->mm (i+1)=kG (mm i) (o i) (Γ Δ (gB (mm i) (o i)+1)):=by
    intro i u;show vJ (((x.2.take (i+1)).map (zE c)).reverse)=_;rw[List.take_succ_eq_append_getElem u,gD,List.reverse_append];show vJ (zE c x.2[i]::_)=_;rw[vJ];have:o i=zE c x.2[i]:=by
      show zE c (getD x.2 i _)=_;rw[aS,zU u,dv]
    rw[this];rfl
  have G:∀i,i<=Io x.2->(mm i).length<=i:=by
    intro i u;have:=L3 (((x.2.take i).map (zE c)).reverse);simp at this;have z:(mm i).length=(vJ (((x.2.take i).map (zE c)).reverse)).length:=rfl;simp at z;omega
  have E:∀i v,i<=Io x.2->gB (mm i) v=((((x.2.take i).map (zE c)).count v:Nat):Int):=by
    intro i v u;show gB (vJ _) v=_;rw[DJ _ _ sg,List.count_reverse]
  have T:=mI (t:=AH) (Φ:=λr=>aI r.2 [Sh.bool] r.1=some (true,())) 1 (λi=>.h3 c x.2 (Io x.2:Int) (i:Int) (mm i)) (λi=>(o i).1≠0->((x.2.take i).map (zE c)).count (o i)=0) (Io x.2) (by
    intro i u _;have k0:getD x.2 (i:Int).toNat (zi ze.sl)=getD x.2 i (zi ze.sl):=by rw[aD]
    have O:getD x.2 i (zi ze.sl)=x.2[i]:=by rw[aS,zU u,dv]
    have Y:zJ c (Io x.2[i])=Q3:=S _ (aK u);have D:o i=zE c x.2[i]:=by show zE c (getD x.2 i _)=_;rw[O]
    have Z:zJ ((lT (mm i) (o i):Nat):Int) (jZ (mm i) (o i)).length=Q3:=zt (zbV _ _);have k5:Q0 ((mm i).length<=1073741824)=Q3:=zx (by have:=G i ow;omega);have k6:ko (jZ (mm i) (o i)) ((lT (mm i) (o i):Nat):Int).toNat (Γ Δ (gB (mm i) (o i)+1))=mm (i+1):=by rw[aD,qT,L i u]
    have k7:gB (mm (i+1)) (o i)=((((x.2.take i).map (zE c)).count (o i)+1:Nat):Int):=by
      have I:((x.2.take i).map (zE c)).count (o i)<=((x.2.take i).map (zE c)).length:=List.count_le_length;simp only[cz,o7]at I;rw[L i u,HT,if_pos rfl,E i _ ow,zr _ um]
    have J:(AH (.h3 c x.2 (Io x.2:Int) (i:Int) (mm i))).val=if(cond ((o i).1!=0) (Q0 (((((x.2.take i).map (zE c)).count (o i)+1:Nat):Int)>1)) Q4)=Q3 then Q1 (.inr (.kb Q3,[]))else Q1 (.inl (.h3 c x.2 (Io x.2:Int) ((i+1:Nat):Int) (mm (i+1)))):=by
      show(AH (.h3 c x.2 _ _ _)).val=_;unfold AH;simp only[k0,O];rw[show getD x.2[i] (toNat c) (zi ze)=o i from D.symm];simp only[Q8,zF u,zt u,Y,Z,k5,if_true,k6,k7];rw[zr i um]
    by_cases C:(o i).1=0
    · refine .inl ⟨λh=>absurd C h,zL.of ?_⟩
      rw[J,if_neg (by simp[C])]
    · by_cases z:((x.2.take i).map (zE c)).count (o i)=0
      · refine .inl ⟨λ_=>z,zL.of ?_⟩
        rw[J,if_neg (by rw[z];simp)]
      · refine .inr ⟨fun h => z (h C),(.kb true,[]),zV.of ?_,rfl⟩
        rw [J, if_pos (by have:((o i).1 != 0)=true:=by simpa using C
                          rw[this];simp only[af,aQ];omega)])
  have M:(∀i,i<Io x.2->(o i).1≠0->((x.2.take i).map (zE c)).count (o i)=0)↔sD x.2 c:=by
    unfold sD;rw[List.pairwise_iff_getElem];constructor
    · intro h j i U u W B e
      have D:o i=zE c x.2[i]:=by show zE c (getD x.2 i _)=_;rw[aS,zU u,dv]
      have:=h i u (by rw[D,<-e];exact B);rw[List.count_eq_zero,D,<-e]at this;exact this (bd.2 ⟨_,List.mem_take_iff_getElem.2 ⟨j,ow,rfl⟩,rfl⟩)
    · intro h i u B
      have D:o i=zE c x.2[i]:=by show zE c (getD x.2 i _)=_;rw[aS,zU u,dv]
      rw[List.count_eq_zero];intro H;obtain⟨r,X,e⟩:=bd.1 H;obtain⟨j,U,rfl⟩:=List.mem_take_iff_getElem.1 X;rw[D]at e B;exact h j i ow u ow (by rw[e];exact B) e
  have F:(zdL x c).val=Q1 (.inl (.h3 c x.2 (Io x.2:Int) ((0:Nat):Int) (mm 0))):=rfl;rcases T with⟨C,z⟩|⟨C,r,z,I⟩
  · refine⟨Q4,?_,λ_=>M.1 C,λ_=>rfl⟩
    refine zy F (z.ends (zV.of (r:=(.kb Q4,[])) ?_)) ow rfl;show(AH (.h3 c x.2 _ _ _)).val=_;simp only[AH,Q8,zB];rfl
  · refine⟨Q3,zy F z ow I,⟨λh=>?_,λh=>absurd (M.2 h) C⟩⟩
    cases h
structure gS (x:Sem zh):Prop where
 uq:Io x.1.2.2.2.1<=1000
 rf:Io x.1.t.1<=1000
 rw:Io x.2<=1000
theorem Af(l:List (Sem zh))(s:zD):zX l s=(-1:Int)\/((0:Int)<=zX l s/\LT.lt (α:=Int) (zX l s) (Io l)):=by
 have:=fU (λx:Sem zh=>x.1.1==s) l 0;simp at this;exact this
theorem dK{l:List (Sem zh)}{s:zD}(h:(0:Int)<=zX l s):zJ (zX l s) (Io l)=Q3:=by
 rcases Af l s with o|⟨o,u⟩
 ·rw[o]at h;omega
 ·simp only[zJ,aE,aQ];exact⟨o,u⟩
theorem az{α:Type}{l:List α}{d:α}{Q:α->Prop}:(∀i,i<Io l->Q (l.getD i d))↔∀x∈l,Q x:=by
 constructor
 ·intro h x u;obtain⟨i,o,rfl⟩:=fz u;have:=h i o
  rwa [aS,zU o,dv]at this
 ·intro h i o;rw[aS,zU o,dv];exact h _ (aK o)
theorem bN{α:Type}{l:List α}{d:α}{i:Nat}(h:i<Io l):l.getD i d∈l:=by
 rw[aS,zU h,dv];exact aK h
theorem lV(i:Nat)(h:i<aG):Γ Δ (((i+1:Nat):Int)-1)=(i:Int):=by
 have:aG=9223372036854775807:=rfl;rw[gr];omega
def xf(a b:Sem ze):Prop:=LT.lt (α:=Int) (aX a b) 0
theorem Rk{a b:Sem ze}:Q0 (GE.ge (α:=Int) (aX a b) 0)=Q3↔¬xf a b:=by
 unfold xf;rw[aQ];omega
structure dH (x:Sem zh):Prop where
 may:dp x.1=Q3
 few:Io x.2<=200
 fits:∀r∈x.2,dc x.1 r=(0:Int)
 key:sD x.2 x.1.2.2.1
 uniq:∀u∈x.1.2.2.2.1,sD x.2 u
 rise:∀i,i<Io x.2-1->xf (zE x.1.2.2.1 (getD x.2 i (zi ze.sl))) (zE x.1.2.2.1 (getD x.2 (i+1) (zi ze.sl)))
def YA(r:aw):Prop:=∃e:Int,r=(.int .i64 e,[])/\e≠0
theorem MG{x:Sem zh}(hs:gS x):∃e:Int,oS x=Q1 (e,())/\(e=0↔dH x):=by
 have x1:=hs.rw;have x0:=hs.uq;have z:∀{k:Nat}{r:aw},zV im k (.h6 x.2 (Io x.2:Int) ((0:Nat):Int) (x,())) r->k<=100000000->(SD x).val=Q1 (.inl (.h6 x.2 (Io x.2:Int) ((0:Nat):Int) (x,())))->∀e:Int,r=(.int .i64 e,[])->oS x=Q1 (e,()):=by
  intro k r h hk o e M;subst M;exact zy o h hk rfl
 by_cases W:dp x.1=Q3
 case neg=>
  refine⟨1,?_,λh=>(by cases h),λh=>absurd h.may W⟩;unfold oS al dd;simp only[SD,zk,Q8];rw[if_pos (by simpa using W)];rfl
 by_cases hw:Io x.2<=200
 case neg=>
  refine⟨13,?_,λh=>(by cases h),λh=>absurd h.few hw⟩;unfold oS al dd;simp only[SD,zk,Q8];rw[if_neg (by simpa using W),if_pos sg];rfl
 have o:(SD x).val=Q1 (.inl (.h6 x.2 (Io x.2:Int) ((0:Nat):Int) (x,()))):=by
  simp only[SD,zk,Q8];rw[if_neg (by simpa using W),if_neg sg];rfl
 obtain⟨O,h9,h8,_,_⟩:=fi W;have U:=mI (t:=im) (Φ:=YA) 1 (λi=>.h6 x.2 (Io x.2:Int) (i:Int) (x,())) (λi=>dc x.1 (getD x.2 i (zi ze.sl))=(0:Int)) (Io x.2) (by
  intro i o _;have I:(im (.h6 x.2 (Io x.2:Int) (i:Int) (x,()))).val=if(dc x.1 (getD x.2 i (zi ze.sl))!=0)=Q3 then Q1 (.inr (.int .i64 (dc x.1 (getD x.2 i (zi ze.sl))),[]))else Q1 (.inl (.h6 x.2 (Io x.2:Int) ((i+1:Nat):Int) (x,()))):=by
   show(im (.h6 x.2 _ _ _)).val=_;unfold im;simp only[zk,Q8,zF o,zt o,if_true,aD];rw[zr i um]
  by_cases h:dc x.1 (getD x.2 i (zi ze.sl))=(0:Int)
  ·refine .inl ⟨h,zL.of ?_⟩;rw[I,if_neg (by rw[h];simp)]
  ·refine .inr ⟨h,_,zV.of (by rw[I,if_pos (by simpa using h)]),_,rfl,h⟩)
 rcases U with⟨hf,U⟩|⟨hf,r,U,e,M,F⟩
 case inr=>
  exact⟨e,z U ow o e M,λh=>absurd h F,λh=>absurd ((az (Q:=λr=>dc x.1 r=(0:Int))).2 h.fits) hf⟩
 have E:=(az (Q:=λr=>dc x.1 r=(0:Int))).1 hf;have h3:∀r∈x.2,Io r=Io x.1.2.1:=λr S=>Dj (by simpa using E r S)
 have H:∀c,Fi c (Io x.1.2.1)->∀r∈x.2,zJ c (Io r)=Q3:=λc hc r S=>by
  rw[h3 r S];exact mg hc
 obtain⟨b,hb,D⟩:=MH (x:=x) (c:=x.1.2.2.1) (H _ O) ow;have J:sd x x.1.2.2.1=Q3:=by unfold sd;rw[hb];rfl
 have L:yE x x.1.2.2.1=b:=by unfold yE;rw[hb];rfl
 have h7:(im (.h6 x.2 (Io x.2:Int) (Io x.2:Int) (x,()))).val=if b=Q3 then Q1 (.inr (.int .i64 7,[]))else Q1 (.inl (.h15 x.1.2.2.2.1 (Io x.1.2.2.2.1:Int) ((0:Nat):Int) (x,()))):=by
  show(im (.h6 x.2 _ _ _)).val=_;unfold im;simp only[zk,Q8,zB,J,L,if_true];rfl
 by_cases G:b=Q3
 ·refine⟨7,z (U.ends (zV.of (by rw[h7,if_pos G]))) ow o 7 rfl,λh=>(by cases h),λh=>?_⟩;have:=D.2 h.key;rw[G]at this;cases this
 have h0:sD x.2 x.1.2.2.1:=D.1 (by simpa using G);have X:zL im _ (.h6 x.2 (Io x.2:Int) ((0:Nat):Int) (x,())) _:=U.trans (zL.of (by rw[h7,if_neg G]));have B:=mI (t:=im) (Φ:=YA) 1 (λi=>.h15 x.1.2.2.2.1 (Io x.1.2.2.2.1:Int) (i:Int) (x,())) (λi=>sD x.2 (getD x.1.2.2.2.1 i (zi zg))) (Io x.1.2.2.2.1) (by
  intro i o _;obtain⟨b,hb,D⟩:=MH (x:=x) (c:=getD x.1.2.2.2.1 i (zi zg)) (H _ (h8 _ (bN o))) ow;have J:sd x (getD x.1.2.2.2.1 i (zi zg))=Q3:=by unfold sd;rw[hb];rfl
  have L:yE x (getD x.1.2.2.2.1 i (zi zg))=b:=by unfold yE;rw[hb];rfl
  have I:(im (.h15 x.1.2.2.2.1 (Io x.1.2.2.2.1:Int) (i:Int) (x,()))).val=if b=Q3 then Q1 (.inr (.int .i64 7,[]))else Q1 (.inl (.h15 x.1.2.2.2.1 (Io x.1.2.2.2.1:Int) ((i+1:Nat):Int) (x,()))):=by
   show(im (.h15 _ _ _ _)).val=_;unfold im;simp only[zk,Q8,zF o,zt o,if_true,aD,J,L];rw[zr i um]
  by_cases h:b=Q3
  ·refine .inr ⟨λhu=>?_,_,zV.of (by rw[I,if_pos h]),7,rfl,by decide⟩;have:=D.2 hu;rw[h]at this;cases this
  ·exact .inl ⟨D.1 (by simpa using h),zL.of (by rw[I,if_neg h])⟩)
 rcases B with⟨hq,B⟩|⟨hq,r,B,e,M,F⟩
 case inr=>
  exact⟨e,z (X.ends B) ow o e M,λh=>absurd h F,λh=>absurd ((az (Q:=λu=>sD x.2 u)).2 h.uniq) hq⟩
 have T:=(az (Q:=λu=>sD x.2 u)).1 hq;have h4:(im (.h15 x.1.2.2.2.1 (Io x.1.2.2.2.1:Int) (Io x.1.2.2.2.1:Int) (x,()))).val=Q1 (.inl (.h21 ((0+1:Nat):Int) (x,()))):=by
  show(im (.h15 _ _ _ _)).val=_;unfold im;simp only[Q8,zB];rfl
 have Y:=(X.trans B).trans (zL.of h4);have C:=mI (t:=im) (Φ:=YA) 1 (λi=>.h21 ((i+1:Nat):Int) (x,())) (λi=>xf (zE x.1.2.2.1 (getD x.2 i (zi ze.sl))) (zE x.1.2.2.1 (getD x.2 (i+1) (zi ze.sl)))) (Io x.2-1) (by
  intro i o _;have h1:i<Io x.2:=by omega
  have Z:i+1<Io x.2:=by omega
  have I:(im (.h21 ((i+1:Nat):Int) (x,()))).val=if Q0 (GE.ge (α:=Int) (aX (zE x.1.2.2.1 (getD x.2 i (zi ze.sl))) (zE x.1.2.2.1 (getD x.2 (i+1) (zi ze.sl)))) 0)=Q3 then Q1 (.inr (.int .i64 15,[]))else Q1 (.inl (.h21 ((i+1+1:Nat):Int) (x,()))):=by
   show(im (.h21 _ _)).val=_;unfold im;simp only[lV i um];simp only[Q8,zF Z,zt Z,zt h1,aD,H _ O _ (bN h1),H _ O _ (bN Z),if_true];rw[zr (i+1) um]
  by_cases h:xf (zE x.1.2.2.1 (getD x.2 i (zi ze.sl))) (zE x.1.2.2.1 (getD x.2 (i+1) (zi ze.sl)))
  ·exact .inl ⟨h,zL.of (by rw[I,if_neg (λZ=>Rk.1 Z h)])⟩
  ·exact .inr ⟨h,_,zV.of (by rw[I,if_pos (Rk.2 h)]),15,rfl,by decide⟩)
 rcases C with⟨S,C⟩|⟨S,r,C,e,M,F⟩
 case inr=>
  exact⟨e,z (Y.ends C) ow o e M,λh=>absurd h F,λh=>absurd h.rise S⟩
 have h5:(im (.h21 ((Io x.2-1+1:Nat):Int) (x,()))).val=Q1 (.inr (.int .i64 0,[])):=by
  show(im (.h21 _ _)).val=_;unfold im;simp only[Q8];rw[if_neg sg]
 exact⟨0,z (Y.ends (C.ends (zV.of h5))) ow o 0 rfl,λ_=>⟨W,hw,E,h0,T,S⟩,λ_=>rfl⟩
def kd(v:Sem ze):Prop:=LE.le (α:=Int) (-9223372036854775808) v.2.1/\LE.le (α:=Int) v.2.1 9223372036854775807/\Io v.2.2<=1000000
theorem bR:∀s:zD,Op.bytesLess s s=Q4
 |[]=>rfl
 |a::r=>by simp[Op.bytesLess,bR r]
theorem SV(s:zD):(qr s<0)↔∀b∈s,32<=b.toNat/\b.toNat<=126:=by
 refine WQ (p:=λr=>DN r) (λc=>?_) s;unfold DN;cases h:Q0 ((c:Int)<32)with
 |true=>simp at h⊢;omega
 |false=>simp at h⊢;omega
theorem za3(o u z B h C e l:Bool):∃r,(ite (o=Q3) (Q1 (.inr (.bool (cond h e Q4),[]))) (ite (u=Q3) (Q1 (.inr (.bool e,[]))) (ite (z=Q3) (Q1 (.inr (.bool (cond h l Q4),[]))) (ite (B=Q3) (Q1 (.inr (.bool (cond h e (cond C e Q4)),[]))) (Q1 (.inr (.kb Q4,[])))))):Option (B9⊕aw))=Q1 (.inr r)/\
  aI r.2 [Sh.bool] r.1=Q1 ((ite (o=Q3) (ite ((!h)=Q3) Q4 e) (ite (u=Q3) e (ite (z=Q3) (cond h (cond l Q3 Q4) Q4) (ite (B=Q3) (cond h e (cond C e Q4)) Q4))):Bool),()):=by
 cases o<;>cases u<;>cases z<;>cases B<;>cases h<;>cases C<;>cases e<;>cases l<;>exact⟨_,rfl,rfl⟩
theorem za2(o u z B h C l:Bool):(ite (o=Q3) (ite ((!h)=Q3) Q4 Q4) (ite (u=Q3) Q4 (ite (z=Q3) (cond h (cond l Q4 Q4) Q4) (ite (B=Q3) (cond h Q4 (cond C Q4 Q4)) Q4))))=Q4:=by
 cases o<;>cases u<;>cases z<;>cases B<;>cases h<;>cases C<;>cases l<;>rfl
theorem Mj{v:Sem ze}(G:Io v.2.2<=1000000):I9 v=Q1 (aU v,()):=by
 obtain⟨k,n,s⟩:=v;have G:Io s<=1000000:=G;have J:=mI (t:=tn) (Φ:=λr=>r=(.kb Q4,[])) 1 (λi=>.h2 (i:Int) ((k,n,s),())) (λi=>32<=(getD s i 0).toNat/\(getD s i 0).toNat<=126) (Io s) (by
  intro i o _;have B:(tn (.h2 (i:Int) ((k,n,s),()))).val=if(cond (Q0 (((getD s i 0).toNat:Int)<32)) Q3 (Q0 (((getD s i 0).toNat:Int)>126)))=Q3 then Q1 (.inr (.kb Q4,[]))else Q1 (.inl (.h2 ((i+1:Nat):Int) ((k,n,s),()))):=by
   show(tn (.h2 _ _)).val=_;unfold tn;simp only[Q8,zF o,zt o,aD,if_true];rw[if_pos (by cases Q0 (((getD s i 0).toNat:Int)<32)<;>rfl)];rw[zr i um]
  by_cases z:(getD s i 0).toNat<32
  ·refine .inr ⟨λh=>by omega,_,zV.of (by rw[B,if_pos (by rw[zx ow];rfl)]),rfl⟩
  ·by_cases C:126<(getD s i 0).toNat
   ·refine .inr ⟨λh=>by omega,_,zV.of (by rw[B,if_pos (by rw[aq ow,zx ow];rfl)]),rfl⟩
   ·refine .inl ⟨ow,zL.of (by rw[B,if_neg (by rw[aq ow,aq ow];simp)])⟩)
 have o:(zdI (k,n,s)).val=Q1 (.inl (.h2 ((0:Nat):Int) ((k,n,s),()))):=rfl;have H:=SV s;have I:=az (l:=s) (d:=0) (Q:=λb=>32<=b.toNat/\b.toNat<=126);rcases J with⟨z,C⟩|⟨z,r,C,rfl⟩
 ·have u:Q0 (qr s<0)=Q3:=zx (H.2 (I.1 z));have B:(tn (.h2 (Io s:Int) ((k,n,s),()))).val=(ite ((k==0)=Q3) (Q1 (.inr (.bool (cond (n==0) (s==[]) Q4),[]))) (ite ((k==1)=Q3) (Q1 (.inr (.bool (s==[]),[]))) (ite ((k==2)=Q3) (Q1 (.inr (.bool (cond (n==0) (Q0 ((Io s:Int)<=40)) Q4),[]))) (ite ((k==3)=Q3) (Q1 (.inr (.bool (cond (n==0) (s==[]) (cond (n==1) (s==[]) Q4)),[]))) (Q1 (.inr (.kb Q4,[]))))))):=by
   show(tn (.h2 _ _)).val=_;unfold tn;simp only[Q8,zB];rw[if_neg sw]
  obtain⟨r,E,F⟩:=za3 (k==0) (k==1) (k==2) (k==3) (n==0) (n==1) (s==[]) (Q0 ((Io s:Int)<=40));have D:aU (k,n,s)=(ite ((k==0)=Q3) (ite ((!(n==0))=Q3) Q4 (s==[])) (ite ((k==1)=Q3) (s==[]) (ite ((k==2)=Q3) (cond (n==0) (cond (Q0 ((Io s:Int)<=40)) Q3 Q4) Q4) (ite ((k==3)=Q3) (cond (n==0) (s==[]) (cond (n==1) (s==[]) Q4)) Q4)))):=by
   simp only[aU,u];rfl
  rw[D];exact zy o (C.ends (zV.of (B.trans E))) ow F
 ·have u:Q0 (qr s<0)=Q4:=aq (λh=>z (I.2 (H.1 h)));have L:(s==[])=Q4:=by
   cases s with
   |nil=>exact absurd (λi o=>absurd o sw) z
   |cons _ _=>rfl
  have D:aU (k,n,s)=Q4:=by
   simp only[aU,u,L];exact za2 (k==0) (k==1) (k==2) (k==3) (n==0) (n==1) (Q0 ((Io s:Int)<=40))
  rw[D];exact zy o C ow rfl
theorem lD{v:Sem ze}(h:Io v.2.2<=1000000):mC v=Q3:=by unfold mC;rw[Mj h];rfl
theorem oE{v:Sem ze}(h:Io v.2.2<=1000000):tj v=aU v:=by unfold tj;rw[Mj h];rfl
theorem Hy{v:Sem ze}(h:Io v.2.2<=1000000):wc v=Q1 (an v,()):=by
 unfold wc al dd;simp only[zdK,Q8,lD h,oE h,if_true,an];cases aU v<;>rfl
theorem rQ{v:Sem ze}(h:Io v.2.2<=1000000):rP v=Q3:=by unfold rP;rw[Hy h];rfl
theorem we{v:Sem ze}(h:Io v.2.2<=1000000):fq v=an v:=by unfold fq;rw[Hy h];rfl
def yO(b:Bool):Sem ze:=if b then(3,1,[])else(3,0,[])
theorem Ea(b:Bool):wb b=Q1 (yO b,()):=by cases b<;>rfl
theorem oH(b:Bool):lG b=Q3:=by unfold lG;rw[Ea];rfl
theorem ic(b:Bool):bc b=yO b:=by unfold bc;rw[Ea];rfl
def Dx(v:Sem ze)(n:Int):Bool:=v.1==3&&(v.2.1==n&&(v.2.2==[]&&Q3))
theorem QG(v:Sem ze)(b:Bool):Mi v b=Q1 (Dx v (cond b 1 0),()):=by
 unfold Mi al dd;simp only[zdJ,Q8,oH,ic,if_true];cases b<;>rfl
theorem By(v:Sem ze)(b:Bool):mn v b=Q3:=by unfold mn;rw[QG];rfl
theorem I8(v:Sem ze)(b:Bool):pA v b=Dx v (cond b 1 0):=by unfold pA;rw[QG];rfl
theorem lP:aY 0=(0,0,[]):=by decide
theorem iS:aY 1=(3,0,[]):=by decide
theorem lQ:aY 2=(3,1,[]):=by decide
theorem gR(v:Sem ze):(eh v==1)=Dx v 0/\(eh v==2)=Dx v 1:=by
 obtain⟨k,n,s⟩:=v;unfold eh Dx;simp only[aU];by_cases h:k=3
 ·subst h;by_cases o:n=0
  ·subst o;cases C:(s==[])<;>simp[gr]
  ·by_cases u:n=1
   ·subst u;cases C:(s==[])<;>simp[gr]
   ·have e0:(n==0)=Q4:=by simpa using o
    have B:(n==1)=Q4:=by simpa using u
    simp[e0,B]
 ·have e:(k==3)=Q4:=by simpa using h
  have z:(k !=3)=Q3:=by simpa using h
  simp[e,z]
theorem Mh(a b:Sem ze):D4 a b=Q1 (A3 a b,()):=by
 unfold D4 al dd;simp only[zdQ,Q8,By,I8,ic,A3,(gR a).1,(gR a).2,(gR b).1,(gR b).2,lP,iS,lQ,ao,af];cases Dx a 0<;>cases Dx b 0<;>cases Dx a 1<;>cases Dx b 1<;>rfl
theorem QI(a b:Sem ze):Ml a b=Q1 (YF a b,()):=by
 unfold Ml al dd;simp only[zdR,Q8,By,I8,ic,YF,(gR a).1,(gR a).2,(gR b).1,(gR b).2,lP,iS,lQ,ao,af];cases Dx a 0<;>cases Dx b 0<;>cases Dx a 1<;>cases Dx b 1<;>rfl
theorem Mk(a:Sem ze):D7 a=Q1 (A4 a,()):=by
 unfold D7 al dd;simp only[zdP,Q8,By,I8,ic,A4,(gR a).1,(gR a).2,lP,iS,lQ,ao,af];cases Dx a 0<;>cases Dx a 1<;>rfl
theorem IK(k u n z:Int)(s B:zD):(ite ((k==u&&(n==z&&(s==B&&Q3)))=Q3) (0:Int) (ite ((cond (Q0 (k<u)) Q3 (cond (k==u) (cond (Q0 (n<z)) Q3 (cond (n==z) (Op.bytesLess s B) Q4)) Q4))=Q3) (-1) 1))=FG [pR k u,jM n z,mU s B]:=by
 simp only[FG,pR,jM,mU];rcases Ck k u with h|h|h
 ·have o:(k==u)=Q4:=cd.2 ow;simp[o,h]
 ·subst h;rcases Ck n z with h|h|h
  ·have o:(n==z)=Q4:=cd.2 ow;simp[o,h]
  ·subst h;by_cases E:s=B
   ·subst E;simp[bR]
   ·have o:(s==B)=Q4:=cd.2 E;by_cases D:Op.bytesLess s B=Q3
    ·simp[o,D]
    ·simp[o,D]
  ·have o:(n==z)=Q4:=cd.2 ow;have C:¬n<z:=by omega
   simp[o,C,h]
 ·have o:(k==u)=Q4:=cd.2 ow;have C:¬k<u:=by omega
  simp[o,C,h]
theorem D8{a b:Sem ze}(h:Io a.2.2<=1000000)(o:Io b.2.2<=1000000):qB a b=Q1 (aX a b,()):=by
 unfold qB al dd;simp only[znk,Q8,rQ h,rQ o,we h,we o,if_true,aX];rw[<-IK];generalize((an a).1==(an b).1&&((an a).2.1==(an b).2.1&&((an a).2.2==(an b).2.2&&Q3)))=u;generalize(cond (Q0 ((an a).1<(an b).1)) Q3 (cond ((an a).1==(an b).1) (cond (Q0 ((an a).2.1<(an b).2.1)) Q3 (cond ((an a).2.1==(an b).2.1) (Op.bytesLess (an a).2.2 (an b).2.2) Q4)) Q4))=z;cases u<;>cases z<;>rfl
theorem zH{α:Type}(l:List α)(d:α){i:Nat}(h:i<Io l):l.getD ((i:Int).toNat) d=l[i]:=by
 rw[aD,aS,zU h,dv]
theorem vr{α:Type}(l:List α)(d:α){i:Nat}(h:i<Io l):l.getD i d∈l:=by
 rw[aS,zU h,dv];exact aK h
def bw(f w:zD):List zD:=if(w==[])=Q3 then[f]else[f,w]
def ec(db:List (Sem zh))(ns:List zD):Bool:=db.any λx=>!aB ns x.1.1&&Q0 (GE.ge (α:=Int) (zW (λf:Sem zp=>aB ns f.2) x.1.t.1 0) 0)
def oV(db:List (Sem zh))(f w t:zD):Int:=
 if∀n∈bw f w,LE.le (α:=Int) 0 (zX db n)then(if(Q0 (GE.ge (α:=Int) (zX db t) 0)||f==w)=Q3 then 7 else if ec db (bw f w)=Q3 then 10 else 0)else 6
def zc5(y:zl bm)(h:zl bm):Prop:=
 (0:Int)<=zX y.1 y.t.2.1/\(y.t.q.1=[]\/(0:Int)<=zX y.1 y.t.q.1)/\LT.lt (α:=Int) (zX y.1 y.2.1.2.1) 0/\y.t.2.1≠y.t.q.1/\
 h.2.2.1=(getD y.1 (toNat (zX y.1 y.t.2.1)) (zi zh)).1/\
 h.2.2.2.1=(ite (y.t.q.1=[]) y.2.2.2.1 ((getD y.1 (toNat (zX y.1 y.t.q.1)) (zi zh)).1))
def ZK(y:zl bm)(r:aw):Prop:=∃(e:Int)(h:zl bm),r=(.int .i64 e,ay bm h)/\h.1=y.1/\h.2.1=y.2.1/\h.t=y.t/\e=oV y.1 y.t.2.1 y.t.q.1 y.2.1.2.1/\(e=0->zc5 y h)
theorem zpN(y:zl bm)(o:List zD)(Y:Io y.1<=1000000)(H:(0:Int)<=zX y.1 y.t.2.1)(I:y.t.q.1=[]\/(0:Int)<=zX y.1 y.t.q.1)(M:LT.lt (α:=Int) (zX y.1 y.2.1.2.1) 0)(O:y.t.2.1≠y.t.q.1)(B:oV y.1 y.t.2.1 y.t.q.1 y.2.1.2.1=if ec y.1 o=Q3 then 10 else 0)(n:Nat)(S:1+Io y.1<=n):
  ∃r,dh E2 n (.h11 y.1 (Io y.1:Int) 0 y o)=Q1 r/\ZK y r:=by
 refine dz (t:=E2) (β:=Unit) (Io y.1) (λ_ i=>.h11 y.1 (Io y.1:Int) (i:Int) y o) (λ_ i=>∀j(C:j<Io y.1),j<i->(!aB o y.1[j].1.1&&Q0 (GE.ge (α:=Int) (zW (λf:Sem zp=>aB o f.2) y.1[j].1.t.1 0) 0))=Q4) (ZK y) 1 ?_ ?_ (Io y.1) 0 () n rfl (aO _) (λj _ h=>by omega) S
 ·intro b i F J;simp only[E2,JZ,E3,Q8,zF F,zt F,if_true,zH y.1 _ F];rw[zr i um];have z:(!aB o y.1[i].1.1&&Q0 (GE.ge (α:=Int) (zW (λf:Sem zp=>aB o f.2) y.1[i].1.t.1 0) 0))=Q4->∀j(C:j<Io y.1),j<i+1->(!aB o y.1[j].1.1&&Q0 (GE.ge (α:=Int) (zW (λf:Sem zp=>aB o f.2) y.1[j].1.t.1 0) 0))=Q4:=by
   intro h j C W;by_cases D:j=i
   ·subst D;exact h
   ·exact J j C ow
  by_cases u:(!aB o y.1[i].1.1)=Q3
  ·simp only[u,if_true];split
   ·rename_i G;refine Or.inr ⟨_,rfl,10,y,rfl,rfl,rfl,rfl,?_,λh=>by cases h⟩;have L:ec y.1 o=Q3:=by
     unfold ec;exact List.any_eq_true.2 ⟨y.1[i],aK F,by rw[u];simpa using G⟩
    rw[B,if_pos L]
   ·rename_i G;exact Or.inl ⟨(),z (by rw[u];simpa using G),rfl⟩
  ·simp only[u];exact Or.inl ⟨(),z (by simp only[g8]at u;rw[u];rfl),rfl⟩
 ·intro b n J S;have L:ec y.1 o=Q4:=by
   unfold ec;rw[List.any_eq_false];intro x X;obtain⟨j,C,rfl⟩:=fz X;rw[J j C C];simp
  rw[L]at B
  replace B:=B.symm
  simp only[zA,if_false]at B;obtain⟨n,rfl⟩:∃k,n=k+1:=⟨n-1,ow⟩;rw[cP];simp only[E2,JZ,E3,Q8,zB,dK H,if_true];by_cases u:(!y.t.q.1==[])=Q3
  ·have E:y.t.q.1≠[]:=by simpa using u
   have T:(0:Int)<=zX y.1 y.t.q.1:=I.resolve_left E;simp only[u,if_true,dK T];refine⟨_,rfl,0,_,rfl,rfl,rfl,rfl,B,λ_=>⟨H,I,M,O,rfl,?_⟩⟩;simp[E]
  ·have U:y.t.q.1=[]:=by simpa using u
   simp only[u];refine⟨_,rfl,0,_,rfl,rfl,rfl,rfl,B,λ_=>⟨H,I,M,O,rfl,?_⟩⟩;simp[U]
theorem zsG(y:zl bm)(o:List zD)(z:o=bw y.t.2.1 y.t.q.1)(U:Io y.1<=1000000)(n:Nat)(I:2+Io y.1+Io o<=n):
  ∃r,dh E2 n (.h3 o (Io o:Int) 0 y o)=Q1 r/\ZK y r:=by
 have W:Io o<=2:=by rw[z];unfold bw;split<;>simp
 refine dz (t:=E2) (β:=Unit) (Io o) (λ_ i=>.h3 o (Io o:Int) (i:Int) y o) (λ_ i=>∀j(B:j<Io o),j<i->(0:Int)<=zX y.1 o[j]) (ZK y) (2+Io y.1) ?_ ?_ (Io o) 0 () n rfl (aO _) (λj _ h=>by omega) I
 ·intro b i D F;simp only[E2,O5,J0,Q8,zF D,zt D,if_true,zH o _ D];rw[zr i um];by_cases u:(0:Int)<=zX y.1 o[i]
  ·have:Q0 (LT.lt (α:=Int) (zX y.1 o[i]) 0)=Q4:=by simpa using u
   simp only[this];refine Or.inl ⟨(),λj B T=>?_,rfl⟩;by_cases C:j=i
   ·subst C;exact u
   ·exact F j B ow
  ·have:Q0 (LT.lt (α:=Int) (zX y.1 o[i]) 0)=Q3:=by simpa using u
   simp only[this,if_true];refine Or.inr ⟨_,rfl,6,y,rfl,rfl,rfl,rfl,?_,λh=>by cases h⟩;unfold oV;rw[if_neg];intro h;exact u (h _ (by rw[<-z];exact aK D))
 ·intro b n F I;obtain⟨n,rfl⟩:∃k,n=k+1:=⟨n-1,ow⟩;have E:∀n∈bw y.t.2.1 y.t.q.1,LE.le (α:=Int) 0 (zX y.1 n):=by
   intro x L;rw[<-z]at L;obtain⟨j,B,rfl⟩:=fz L;exact F j B B
  have H:oV y.1 y.t.2.1 y.t.q.1 y.2.1.2.1=if(Q0 (GE.ge (α:=Int) (zX y.1 y.2.1.2.1) 0)||y.t.2.1==y.t.q.1)=Q3 then 7 else if ec y.1 o=Q3 then 10 else 0:=by
   unfold oV;rw[if_pos E,<-z]
  have M:(0:Int)<=zX y.1 y.t.2.1:=E _ (by unfold bw;split<;>simp);have O:y.t.q.1=[]\/(0:Int)<=zX y.1 y.t.q.1:=by
   by_cases J:(y.t.q.1==[])=Q3
   ·left;simpa using J
   ·right;exact E _ (by unfold bw;rw[if_neg J];simp)
  rw[cP];simp only[E2,O5,J0,Q8,zB];by_cases u:(bif Q0 (GE.ge (α:=Int) (zX y.1 y.2.1.2.1) 0)then Q3 else y.t.2.1==y.t.q.1)=Q3
  ·simp only[u,if_true];refine⟨_,rfl,7,y,rfl,rfl,rfl,rfl,?_,λh=>by cases h⟩;rw[H,if_pos (by revert u;cases Q0 (GE.ge (α:=Int) (zX y.1 y.2.1.2.1) 0)<;>exact id)]
  ·simp only[u];have G:Q0 (GE.ge (α:=Int) (zX y.1 y.2.1.2.1) 0)=Q4:=by
    cases S:Q0 (GE.ge (α:=Int) (zX y.1 y.2.1.2.1) 0)with
    |false=>rfl
    |true=>rw[S]at u;simp at u
   rw[G]at u;refine zpN y o U M O (by simpa using G) (by simpa using u) ?_ n ow;rw[H,G,if_neg (by simpa using u)]
theorem LY(y:zl bm)(B:Io y.1<=1000000):∃(e:Int)(h:zl bm),rA y=Q1 ((e,()),h)/\h.1=y.1/\h.2.1=y.2.1/\h.t=y.t/\e=oV y.1 y.t.2.1 y.t.q.1 y.2.1.2.1/\(e=0->zc5 y h):=by
 have o:lB (y.t.1,y.t.2.1,y.t.q.1,(y.t.q.2.1,[],y.t.t.1,[],[],zm y.t.t.2.1),[],y.t.t.q.1)=bw y.t.2.1 y.t.q.1:=rfl;obtain⟨r,u,e,h,rfl,z⟩:=zsG y _ o B 100000000 (by
  have:Io (lB (y.t.1,y.t.2.1,y.t.q.1,(y.t.q.2.1,[],y.t.t.1,[],[],zm y.t.t.2.1),[],y.t.t.q.1))<=2:=by rw[o];unfold bw;split<;>simp
  omega)
 refine⟨e,h,?_,z⟩;unfold rA kB dd;simp only[zaL,Q8];rw[u];exact dg (outs:=[zg]) (r:=.int .i64 e) (a:=(e,())) h rfl
theorem yN{i n:Nat}(h:i<n):Q0 ((i:Int).toNat<n)=Q3:=by simpa using h
def wU(t:Sem zo):Int:=
 if∃i,i<Io t.2.1/\zR t (getD t.2.1 i (zi zj)).1≠(i:Int)then 7 else if(t.t.2.op==[])=Q3 then 0
 else if(cond ((bM t.t.2 t.2.1).2==0) (cond ((bM t.t.2 t.2.1).1!=3) ((bM t.t.2 t.2.1).1!=0) Q4) Q4)=Q3 then 5 else(bM t.t.2 t.2.1).2
abbrev Rf(y:zl au):Sem zo:=(y.t.q.2.1,y.t.t.1,y.t.t.2.1,[],[],y.t.t.q.1)
theorem ui(y:zl au)(B:Io y.t.t.1<=1000000):vF y=Q1 ((wU (Rf y),()),y):=by
 have h:=dz (t:=M0) (β:=Unit) (Io y.t.t.1) (λ_ i=>.h2 (Io y.t.t.1:Int) (i:Int) y) (λ_ i=>∀j,j<i->j<Io y.t.t.1->zR (Rf y) (getD y.t.t.1 j (zi zj)).1=(j:Int)) (λr=>r=(.int .i64 (wU (Rf y)),ay au y)) 1 (by
   intro b i o z;simp only[M0,O6,J1,Q8,zF o,zt o,zx o,if_true,zk,aD];rw[zr i um];by_cases c:(zR (Rf y) (getD y.t.t.1 i (zi zj)).1!=(i:Int))=Q3
   ·simp only[c,if_true];refine Or.inr ⟨_,rfl,?_⟩;unfold wU;rw[if_pos ⟨i,o,by simpa using c⟩]
   ·simp only[c];refine Or.inl ⟨(),λj F B=>?_,rfl⟩;by_cases h:j=i
    ·subst h;simpa using c
    ·exact z j ow B) (by
   intro b n z G;obtain⟨n,rfl⟩:∃k,n=k+1:=⟨n-1,ow⟩;have C:¬∃i,i<Io (Rf y).2.1/\zR (Rf y) (getD (Rf y).2.1 i (zi zj)).1≠(i:Int):=by
    rintro⟨i,o,h⟩;exact h (z i o o)
   have E:(M0 (.h2 (Io y.t.t.1:Int) (Io y.t.t.1:Int) y)).val=Q1 (.inr (.int .i64 (wU (Rf y)),ay au y)):=by
    simp only[M0,O6,J1,Q8,zB,zk];unfold wU;rw[if_neg C];split
    ·simp_all
    ·split
     ·rfl
     ·split<;>rfl
   rw[cP,E];exact⟨_,rfl,rfl⟩)
  y.t.t.1.length 0 () 100000000 rfl (aO _) (λj h=>by omega) ow
 obtain⟨r,D,rfl⟩:=h;unfold vF kB dd;simp only[zaM,Q8];have u:dh M0 100000000 (.h2 (Io y.t.t.1:Int) 0 y)=Q1 (.int .i64 (wU (Rf y)),ay au y):=D;rw[u];exact dg (outs:=[zg]) (r:=.int .i64 (wU (Rf y))) (a:=(wU (Rf y),())) y rfl
theorem wS(t:Sem zo)(s:zD):zR t s=(-1:Int)\/((0:Int)<=zR t s/\LT.lt (α:=Int) (zR t s) (Io t.2.1)):=by
 have:=fU (λc:Sem zj=>c.1==s) t.2.1 0;unfold zR;simpa using this
theorem rt{t:Sem zo}{s:zD}(h:¬LT.lt (α:=Int) (zR t s) 0):zJ (zR t s) (Io t.2.1)=Q3:=by
 rcases wS t s with o|⟨o,u⟩
 ·rw[o]at h;simp at h
 ·simp only[zJ,aE,aQ];exact⟨o,u⟩
theorem At(x:Int):∀(l:List Int)(i:Nat),GE.ge (α:=Int) (eO x l (i:Int)) 0↔x∈l
 | [],i=>by
  rw[eO];exact⟨λh=>absurd h (by decide),λh=>by cases h⟩
 | a::r,i=>by
  rw[eO];split
  ·rename_i h;have:x=a:=by simpa using h
   subst this;exact⟨λ_=>uG,λ_=>Int.natCast_nonneg i⟩
  ·rename_i h;have:=At x r (i+1);rw[uK]at this;rw[bL];refine⟨λo=>.inr (this.1 o),λo=>this.2 (o.resolve_left ?_)⟩;rintro rfl;simp at h
theorem ue(l:List Int)(x:Int):ud l x=Q3↔x∈l:=by
 unfold ud;rw[KD];exact At x l 0
def fW(t:Sem zo)(h:List zD):Int:=if∀s∈h,¬LT.lt (α:=Int) (zR t s) 0 then(ite ((h.map (zR t)).Nodup) 0 7)else 4
theorem DM{l:List Int}{x:Int}:(l++[x]).Nodup↔l.Nodup/\x∉l:=by
 rw[List.nodup_append];simp;intro _;exact⟨λh o=>h x o rfl,λh y u e=>h (e▸u)⟩
theorem bg{α:Type}{l:List α}{i:Nat}(h:i<Io l):l.take (i+1)=l.take i++[l[i]]:=by
 rw[List.take_add_one,zU h];rfl
def Nl(y:zl bm)(z:zl dW):Prop:=z.1=y.1/\z.2.1=y.2.1/\z.2.2.1=y.2.2.1/\z.2.2.2.1=y.2.2.2.1/\z.t.1=y.t.1/\z.t.2.1=y.t.2.1/\z.t.q.1=y.t.q.1/\z.t.q.2.1=y.t.q.2.1/\
 z.t.t.2.1=y.t.t.1/\z.t.t.q.1=y.t.t.2.1/\z.t.t.t=y.t.t.q
abbrev gz(z:zl dW):List (Sem zj):=z.t.t.1
abbrev fm(z:zl dW):List (Sem zg):=z.t.t.q.2.1
def NmI(y:zl bm)(l:List zD)(z:zl dW):Prop:=Nl y z/\fm z=l.map (λs=>zR y.2.2.1 s)/\gz z=l.map (λs=>getD y.2.2.1.2.1 (toNat (zR y.2.2.1 s)) (zi zj))/\∀s∈l,¬LT.lt (α:=Int) (zR y.2.2.1 s) 0
def NmR(y:zl bm)(r:aw):Prop:=∃(e:Int)(z:zl dW),r=(.int .i64 e,ay au z)/\Nl y z/\e=fW y.2.2.1 y.2.1.2.2.2.1/\(e=0->NmI y y.2.1.2.2.2.1 z)/\(gz z).length<=1000000
theorem zoo(y:zl bm)(z:zl dW)(B:NmI y y.2.1.2.2.2.1 z)(F:fW y.2.2.1 y.2.1.2.2.2.1=if(fm z).Nodup then 0 else 7)(J:(fm z).length<=1000000)(m:Nat):∀(i n:Nat),(fm z).length-i=m->i<=(fm z).length->((fm z).take i).Nodup->1+m<=n->∃r,dh qN n (.h12b ((fm z).length:Int) (i:Int) z)=Q1 r/\NmR y r:=by
 intro i n L o D G;have u:(gz z).length<=1000000:=by
  have:=J;rw[B.2.1,cz]at this;rw[B.2.2.1,cz];exact this
 refine dz (t:=qN) (β:=Unit) (fm z).length (λ_ i=>.h12b ((fm z).length:Int) (i:Int) z) (λ_ i=>((fm z).take i).Nodup) (NmR y) 1 ?_ ?_ m i () n L o D G
 ·intro b i o C;have I:(Q0 (0<=0)&&Q0 ((0:Int)<=(i:Int))&&Q0 ((i:Int)<=((fm z).length:Int)))=Q3:=by simp;omega
  simp only[qN,E5,yM,Q8,zF o,zt o,if_true,I];rw[zr i um];rw[show List.take (toNat (i:Int)-toNat 0) (List.drop (toNat 0) z.t.t.q.2.1)=(fm z).take i by simp,show z.t.t.q.2.1.getD (toNat (i:Int)) (zi zg)=(fm z)[i]from zH (fm z) _ o];split
  ·rename_i c;refine Or.inr ⟨_,rfl,7,z,rfl,B.1,?_,λh=>(by cases h),u⟩;rw[F,if_neg];intro H;have E:((fm z).take (i+1)).Nodup:=H.sublist (List.take_sublist _ _);rw[bg o,DM]at E;exact E.2 ((ue _ _).1 c)
  ·rename_i c;refine Or.inl ⟨(),?_,rfl⟩;show((fm z).take (i+1)).Nodup;rw[bg o,DM];exact⟨C,λh=>c ((ue _ _).2 h)⟩
 ·intro b n C G;rw[fI]at C;obtain⟨n,rfl⟩:∃k,n=k+1:=⟨n-1,ow⟩;rw[cP];simp only[qN,E5,yM,Q8,zB];exact⟨_,rfl,0,z,rfl,B.1,by rw[F,if_pos C],λ_=>B,u⟩
theorem zsy(y:zl bm)(z:zl dW)(o:NmI y y.2.1.2.2.2.1 z)(E:fW y.2.2.1 y.2.1.2.2.2.1=if(fm z).Nodup then 0 else 7)(F:(fm z).length<=1000000)(n:Nat)(I:2+(fm z).length<=n):∃r,dh qN n (.h12 ((fm z).length:Int) 0 z)=Q1 r/\NmR y r:=by
 have C:(gz z).length<=1000000:=by
  have:=F;rw[o.2.1,cz]at this;rw[o.2.2.1,cz];exact this
 obtain⟨n,rfl⟩:∃k,n=k+1:=⟨n-1,ow⟩;rw[cP];by_cases h:0<(fm z).length
 ·have H:(Q0 (0<=0)&&Q0 ((0:Int)<=((0:Nat):Int))&&Q0 (((0:Nat):Int)<=((fm z).length:Int)))=Q3:=by simp
  have u:(∃r,(qN (.h12 ((fm z).length:Int) ((0:Nat):Int) z)).val=Q1 (.inr r)/\NmR y r)\/(qN (.h12 ((fm z).length:Int) ((0:Nat):Int) z)).val=Q1 (.inl (.h12b ((fm z).length:Int) ((1:Nat):Int) z)):=by
   simp only[qN,J3,E6,Q8,zF h,zt h,yN h,if_true,H];rw[zr 0 um];split
   ·rename_i c;exact absurd ((ue _ _).1 c) sw
   ·exact Or.inr rfl
  rw[Int.ofNat_zero]at u;rcases u with⟨r,B,G⟩|B
  ·rw[B];exact⟨r,rfl,G⟩
  ·rw[B];exact zoo y z o E F _ 1 n rfl ow (by rw[bg h];simp) ow
 ·have D:(fm z).length=0:=by omega
  have u:(qN (.h12 ((fm z).length:Int) 0 z)).val=Q1 (.inr (.int .i64 0,ay au z)):=by
   rw[D];simp[qN,J3,E6,Q8]
  rw[u];exact⟨_,rfl,0,z,rfl,o.1,by rw[E,if_pos (by rw[AQ D];exact List.nodup_nil)],λ_=>o,C⟩
theorem nm3(y:zl bm)(z:zl dW)(M:NmI y [] z)(O:Io y.2.1.2.2.2.1<=1000000)(n:Nat)(J:3+Io y.2.1.2.2.2.1+Io y.2.1.2.2.2.1<=n):∃r,dh qN n (.h3 y.2.1.2.2.2.1 (Io y.2.1.2.2.2.1:Int) 0 z)=Q1 r/\NmR y r:=by
 refine dz (t:=qN) (β:=zl dW) (Io y.2.1.2.2.2.1) (λz i=>.h3 y.2.1.2.2.2.1 (Io y.2.1.2.2.2.1:Int) (i:Int) z) (λz i=>NmI y (y.2.1.2.2.2.1.take i) z) (NmR y) (3+Io y.2.1.2.2.2.1) ?_ ?_ (Io y.2.1.2.2.2.1) 0 z n rfl (aO _) (by simpa using M) J
 ·intro z i u o;obtain⟨G,L,I,hp⟩:=o;have B:(fm z).length<=1000000:=by rw[L,cz,o7];omega
  have E:(gz z).length<=1000000:=by rw[I,cz,o7];omega
  have F:z.2.2.1=y.2.2.1:=G.2.2.1;simp only[qN,O9,J4,Q8,zF u,zt u,if_true,zH _ _ u,zk,Prod.eta];rw[zr i um];by_cases D:LT.lt (α:=Int) (zR z.2.2.1 y.2.1.2.2.2.1[i]) 0
  ·simp only[zx D,if_true];refine Or.inr ⟨_,rfl,4,z,rfl,G,?_,λh=>(by cases h),E⟩;unfold fW;rw[if_neg];intro h;exact h _ (aK u) (by rw[<-F];exact D)
  ·simp only[aq D,rt D];refine Or.inl ⟨(z.1,z.2.1,z.2.2.1,z.2.2.2.1,z.t.1,z.t.2.1,z.t.q.1,z.t.q.2.1,z.t.t.1++[getD z.2.2.1.2.1 (toNat (zR z.2.2.1 y.2.1.2.2.2.1[i])) (zi zj)],z.t.t.2.1,z.t.t.q.1,z.t.t.q.2.1++[zR z.2.2.1 y.2.1.2.2.2.1[i]],z.t.t.t),⟨G,?_,?_,?_⟩,?_⟩;rotate_left 3
   ·rw[if_neg sw,if_pos (by have:Io z.t.t.q.2.1<=1000000:=B;simp;omega),if_pos trivial,if_pos (by have:Io z.t.t.1<=1000000:=E;simp;omega)]
   ·show fm z++[zR z.2.2.1 y.2.1.2.2.2.1[i]]=_;rw[L,F,bg u,gD];rfl
   ·show gz z++[getD z.2.2.1.2.1 (toNat (zR z.2.2.1 y.2.1.2.2.2.1[i])) (zi zj)]=_;rw[I,F,bg u,gD];rfl
   ·intro s C;rw[bg u,cJ]at C;rcases C with C|C
    ·exact hp s C
    ·rw[eD]at C;rw[C,<-F];exact D
 ·intro z n o J;obtain⟨n,rfl⟩:∃k,n=k+1:=⟨n-1,ow⟩;rw[fI]at o;have B:(fm z).length=Io y.2.1.2.2.2.1:=by rw[o.2.1,cz]
  rw[cP];simp only[qN,O9,J4,Q8,zB];have H:2+(fm z).length<=n:=by rw[B];omega
  refine zsy y z o ?_ ow n H;unfold fW;rw[if_pos o.2.2.2,o.2.1]
theorem Hk(y:zl bm)(u:Io y.2.1.2.2.2.1<=1000000):∃(e:Int)(z:zl dW),Br y=Q1 ((e,()),z)/\Nl y z/\e=fW y.2.2.1 y.2.1.2.2.2.1/\(e=0->NmI y y.2.1.2.2.2.1 z)/\(gz z).length<=1000000:=by
 obtain⟨r,h,e,z,rfl,o⟩:=nm3 y (y.1,y.2.1,y.2.2.1,y.2.2.2.1,y.t.1,y.t.2.1,y.t.q.1,y.t.q.2.1,[],y.t.t.1,y.t.t.2.1,[],y.t.t.q)
  ⟨⟨rfl,rfl,rfl,rfl,rfl,rfl,rfl,rfl,rfl,rfl,rfl⟩,rfl,rfl,sw⟩ u 100000000 ow
 refine⟨e,z,?_,o⟩;unfold Br kB dd;simp only[zaR,Q8];rw[h];exact dg (outs:=[zg]) (r:=.int .i64 e) (a:=(e,())) (ps:=au) z rfl
theorem zdG(y:zl bm):Sx y=y:=by
 unfold Sx;rw[zk,zk,zk,zk,zk]
def nO(y:zl bm)(z:zl au):Prop:=z.1=y.1/\z.2.1=y.2.1/\z.2.2.1=y.2.2.1/\z.2.2.2.1=y.2.2.2.1/\z.t.1=y.t.1/\z.t.2.1=y.t.2.1/\z.t.q.1=y.t.q.1/\z.t.q.2.1=y.t.q.2.1
structure FP (z:zl au) (cols:List (Sem zj)) (key:Int) (ix:List Int) (on:Int):Prop where
 cols:z.t.t.1=cols
 key:z.t.t.2.1=key
 ix:z.t.t.q.2.1=ix
 on:z.t.t.t.1=on
def er(t:Sem zo)(h:List zD):List (Sem zj):=h.map λs=>getD t.2.1 (toNat (zR t s)) (zi zj)
def js(t:Sem zo)(h:List zD):List Int:=h.map (zR t)
def tK(t:Sem zo)(h:List zD):Int:=if fW t h=0 then(if LT.lt (α:=Int) (gF (js t h) t.2.2.1) 0 then 1 else 0)else fW t h
def qh(t:Sem zo)(h:List zD):Int:=if fW t h=0 then(ite (((er t h).getD 1 (zi zj)).2.1=(1:Int)) 0 5)else fW t h
def xW(t:Sem zo)(h:List zD):List (Sem zj):=
 [(((er t h).getD 0 (zi zj)).1,((er t h).getD 0 (zi zj)).2.1,Q3),(((er t h).getD 1 (zi zj)).1,((er t h).getD 1 (zi zj)).2.1,Q4)]
def fM(t u:Sem zo)(k w:zD):Int:=
 if LT.lt (α:=Int) (zR t k) 0 then 4 else if jp t.t.1 (zR t k,w)=Q3 then(if LT.lt (α:=Int) 9 ((Io t.2.1:Int)+(Io u.2.1:Int))then 13 else 0)else 10
def DR(k:Int)(n:Nat):List Nat:=(List.range n).filter λj=>(j:Int)!=k
def jt(k:Int)(n:Nat):List Int:=(DR k n).map λ(j:Nat)=>(j:Int)
def fO(u:Sem zo)(n:Nat):List (Sem zj):=(DR u.2.2.1 n).map λj=>getD u.2.1 j (zi zj)
theorem zhv(y:zl bm):VP y=VQ y y (kl y) (gF (kl y).t.t.t.1 (kl y).2.2.2.1.2.2.1):=by
 unfold VP;rw[zdG]
theorem Wz(y:zl bm)(S:Io y.2.1.2.2.2.1<=1000):∃z:zl au,IN y=Q1 ((tK y.2.2.1 y.2.1.2.2.2.1,()),z)/\nO y z/\z.t.t.q.1=y.t.t.2.1/\
  (gz z).length<=1000000/\(tK y.2.2.1 y.2.1.2.2.2.1=0->FP z (er y.2.2.1 y.2.1.2.2.2.1) (gF (js y.2.2.1 y.2.1.2.2.2.1) y.2.2.1.2.2.1) (js y.2.2.1 y.2.1.2.2.2.1) y.t.t.q.1):=by
 obtain⟨e,z,I,o,H,J,u⟩:=Hk y ow;have O:kl y=(e,z):=by unfold kl;rw[I];rfl
 have M:oz y=Q3:=by unfold oz;rw[I];rfl
 have C:nO y z:=⟨o.1,o.2.1,o.2.2.1,o.2.2.2.1,o.t.1,o.t.2.1,o.t.q.1,o.t.q.2.1⟩;have B:z.t.t.q.1=y.t.t.2.1:=o.t.t.2.1;unfold IN kB dd;rw[zhv];simp only[VQ,Q8,O,M,if_true];by_cases D:e=0
 ·have F:=J D;have E:tK y.2.2.1 y.2.1.2.2.2.1=if LT.lt (α:=Int) (gF (fm z) z.2.2.1.2.2.1) 0 then 1 else 0:=by
   unfold tK;rw[if_pos (H▸D),F.2.1,o.2.2.1];rfl
  simp only[D,jJ,zA,if_false];by_cases G:LT.lt (α:=Int) (gF (fm z) z.2.2.1.2.2.1) 0
  ·rw[if_pos G]at E;simp only[zx G,if_true,E];exact⟨_,dg (outs:=[zg]) (r:=.int .i64 1) (a:=(1,())) (ps:=au) _ rfl,C,B,u,λh=>by cases h⟩
  ·rw[if_neg G]at E;simp only[aq G,E];refine⟨_,dg (outs:=[zg]) (r:=.int .i64 0) (a:=(0,())) (ps:=au) _ rfl,C,B,u,λ_=>⟨F.2.2.1,?_,F.2.1,by rw[o.t.t.q]⟩⟩;show gF (fm z) z.2.2.1.2.2.1=_;rw[F.2.1,o.2.2.1];rfl
 ·have L:(e !=0)=Q3:=by simpa using D
  have E:tK y.2.2.1 y.2.1.2.2.2.1=e:=by
   unfold tK;rw[if_neg (H▸D),H]
  simp only[L,if_true,E];exact⟨_,dg (outs:=[zg]) (r:=.int .i64 e) (a:=(e,())) (ps:=au) z rfl,C,B,u,λh=>absurd h D⟩
theorem zhx(y:zl bm):VR y=(let h:=kl y
  let z:=h.t.t.2.1.getD (toNat 1) (zi zj)
  let o:=h.t.t.2.1.getD (toNat 0) (zi zj)
  let u:=h.t.t.2.1.set (toNat 0) (o.1,o.2.1,Q3)
  let B:=u.getD (toNat 1) (zi zj)
  VS y y h z o u B):=by
 unfold VR;rw[zdG]
theorem SQ(y:zl bm)(hl:Io y.2.1.2.2.2.1=2):∃z:zl au,Bq y=Q1 ((qh y.2.2.1 y.2.1.2.2.2.1,()),z)/\nO y z/\z.t.t.q.1=y.t.t.2.1/\
  (gz z).length<=1000000/\(qh y.2.2.1 y.2.1.2.2.2.1=0->FP z (xW y.2.2.1 y.2.1.2.2.2.1) y.t.t.1 (js y.2.2.1 y.2.1.2.2.2.1) y.t.t.q.1):=by
 obtain⟨e,z,h1,C,he,h2,I⟩:=Hk y ow;have hn:kl y=(e,z):=by unfold kl;rw[h1];rfl
 have hc:oz y=Q3:=by unfold oz;rw[h1];rfl
 have H:nO y z:=⟨C.1,C.2.1,C.2.2.1,C.2.2.2.1,C.t.1,C.t.2.1,C.t.q.1,C.t.q.2.1⟩;have G:z.t.t.q.1=y.t.t.2.1:=C.t.t.2.1;have L:z.t.t.2.1=y.t.t.1:=C.t.t.1;have h4:z.t.t.t.1=y.t.t.q.1:=by rw[C.t.t.q]
 unfold Bq kB dd;rw[zhx];simp only[VS,hn];by_cases J:e=0
 ·have hI:=h2 J;have M:(gz z).length=2:=by rw[hI.2.2.1,cz];exact hl
  have B:gz z=er y.2.2.1 y.2.1.2.2.2.1:=hI.2.2.1;have h3:fm z=js y.2.2.1 y.2.1.2.2.2.1:=hI.2.1;have F:qh y.2.2.1 y.2.1.2.2.2.1=if((er y.2.2.1 y.2.1.2.2.2.1).getD 1 (zi zj)).2.1=(1:Int)then 0 else 5:=by
   unfold qh;rw[if_pos (he▸J)]
  obtain⟨O,S,T,U,W,X,Y,Z,E,z9⟩:=z;obtain⟨o,u,rfl⟩:∃o u,E=[o,u]:=by
   match E,M with
   |[o,u],_=>exact⟨o,u,rfl⟩
  have B:[o,u]=er y.2.2.1 y.2.1.2.2.2.1:=B;unfold xW;rw[<-B]at F⊢;simp only[Q8,hc,if_true,J,jJ,zA,if_false];have e1:zJ 1 (Io [o,u])=Q3:=rfl;have e0:zJ 0 (Io [o,u])=Q3:=rfl;by_cases D:u.2.1=(1:Int)
  ·rw[if_pos (show([o,u].getD 1 (zi zj)).2.1=(1:Int)from D)]at F;rw[F];refine⟨(O,S,T,U,W,X,Y,Z,[(o.1,o.2.1,Q3),(u.1,u.2.1,Q4)],z9),?_,H,G,by show Io [(o.1,o.2.1,Q3),(u.1,u.2.1,Q4)]<=_;simp,λ_=>⟨rfl,L,h3,h4⟩⟩;simp[D,getD,zJ];exact dg (outs:=[zg]) (r:=.int .i64 0) (a:=(0,())) (ps:=au) (O,S,T,U,W,X,Y,Z,[(o.1,o.2.1,Q3),(u.1,1,Q4)],z9) rfl
  ·rw[if_neg (show¬([o,u].getD 1 (zi zj)).2.1=(1:Int)from D)]at F;rw[F];refine⟨(O,S,T,U,W,X,Y,Z,[o,u],z9),?_,H,G,by show Io [o,u]<=_;simp,λh=>by cases h⟩;simp[D,getD];exact dg (outs:=[zg]) (r:=.int .i64 5) (a:=(5,())) (ps:=au) (O,S,T,U,W,X,Y,Z,[o,u],z9) rfl
 ·have hb:(e !=0)=Q3:=by simpa using J
  have F:qh y.2.2.1 y.2.1.2.2.2.1=e:=by
   unfold qh;rw[if_neg (he▸J),he]
  simp only[Q8,hc,hb,if_true,F];exact⟨z,dg (outs:=[zg]) (r:=.int .i64 e) (a:=(e,())) (ps:=au) z rfl,H,G,I,λh=>absurd h J⟩
def JnI(y:zl bm)(i:Nat)(z:zl dW):Prop:=nO y z/\z.t.t.q.1=y.t.t.2.1/\FP z (y.2.2.1.2.1++fO y.2.2.2.1 i) y.2.2.1.2.2.1 (jt y.2.2.2.1.2.2.1 i) (zR y.2.2.1 y.2.1.t.2.1)
theorem lA(k:Int)(n:Nat):(DR k n).length<=n:=by
 unfold DR;exact bt (List.length_filter_le _ _) sw
theorem Hp(k:Int)(n:Nat):DR k (n+1)=if((n:Int)!=k)=Q3 then DR k n++[n]else DR k n:=by
 unfold DR;rw[List.range_succ,List.filter_append];split
 ·rename_i h;rw[List.filter_cons_of_pos (by exact h),List.filter_nil]
 ·rename_i h;rw[List.filter_cons_of_neg (by exact h),List.filter_nil,o8]
theorem zsb(y:zl bm)(z:zl dW)(M:JnI y 0 z)(O:Io y.2.2.1.2.1<=100)(S:Io y.2.2.2.1.2.1<=100)(n:Nat)(I:1+Io y.2.2.2.1.2.1<=n):
  ∃r,dh MZ n (.h11 y.2.2.2.1.2.1 (Io y.2.2.2.1.2.1:Int) 0 z)=Q1 r/\∃L:zl dW,r=(.int .i64 0,ay au L)/\JnI y (Io y.2.2.2.1.2.1) L:=by
 refine dz (t:=MZ) (β:=zl dW) (Io y.2.2.2.1.2.1) (λz i=>.h11 y.2.2.2.1.2.1 (Io y.2.2.2.1.2.1:Int) (i:Int) z) (λz i=>JnI y i z) _ 1 ?_ ?_ (Io y.2.2.2.1.2.1) 0 z n rfl (aO _) M I
 ·intro z i C D;obtain⟨F,B,o⟩:=D;have J:=lA y.2.2.2.1.2.2.1 i;have E:(gz z).length<=2000:=by
   rw[show gz z=_ from o.cols,ip,fO,cz];omega
  have G:(fm z).length<=2000:=by
   rw[show fm z=_ from o.ix,jt,cz];omega
  have H:z.2.2.2.1.2.2.1=y.2.2.2.1.2.2.1:=by rw[F.2.2.2.1]
  simp only[MZ,JY,E1,Q8,zF C,zt C,if_true,zH _ _ C];rw[zr i um];refine Or.inl ?_;have h:=Hp y.2.2.2.1.2.2.1 i;split
  ·rename_i u;rw[H]at u;rw[if_pos u]at h;refine⟨(z.1,z.2.1,z.2.2.1,z.2.2.2.1,z.t.1,z.t.2.1,z.t.q.1,z.t.q.2.1,z.t.t.1++[y.2.2.2.1.2.1[i]],z.t.t.2.1,z.t.t.q.1,z.t.t.q.2.1++[(i:Int)],z.t.t.t),⟨F,B,⟨?_,o.key,?_,o.on⟩⟩,?_⟩
   ·show z.t.t.1++[y.2.2.2.1.2.1[i]]=_;rw[o.cols,uI,fO,fO,h,gD];simp[zU C]
   ·show z.t.t.q.2.1++[(i:Int)]=_;rw[o.ix,jt,jt,h,gD];rfl
   ·rw[if_pos (by have:Io z.t.t.q.2.1<=2000:=G;simp;omega),if_pos (by have:Io z.t.t.1<=2000:=E;simp;omega)]
  ·rename_i u;rw[H]at u;rw[if_neg u]at h;refine⟨z,⟨F,B,⟨?_,o.key,?_,o.on⟩⟩,rfl⟩
   ·rw[o.cols,fO,fO,h]
   ·rw[o.ix,jt,jt,h]
 ·intro z n D I;obtain⟨n,rfl⟩:∃k,n=k+1:=⟨n-1,ow⟩;rw[cP];simp only[MZ,JY,E1,Q8,zB];exact⟨_,rfl,z,rfl,D⟩
theorem WA(y:zl bm)(O:Io y.2.2.1.2.1<=100)(S:Io y.2.2.2.1.2.1<=100):∃z:zl au,DD y=Q1 ((fM y.2.2.1 y.2.2.2.1 y.2.1.t.2.1 y.t.q.1,()),z)/\nO y z/\z.t.t.q.1=y.t.t.2.1/\
  (gz z).length<=1000000/\(fM y.2.2.1 y.2.2.2.1 y.2.1.t.2.1 y.t.q.1=0->FP z (y.2.2.1.2.1++fO y.2.2.2.1 (Io y.2.2.2.1.2.1)) y.2.2.1.2.2.1 (jt y.2.2.2.1.2.2.1 (Io y.2.2.2.1.2.1)) (zR y.2.2.1 y.2.1.t.2.1)):=by
 have H:∀(a:List (Sem zj))(b:Int)(c:zf)(d:List Int)(e:Int),nO y (y.1,y.2.1,y.2.2.1,y.2.2.2.1,y.t.1,y.t.2.1,y.t.q.1,y.t.q.2.1,a,b,c,d,e,()):=λ_ _ _ _ _=>⟨rfl,rfl,rfl,rfl,rfl,rfl,rfl,rfl⟩
 have J:Γ Δ (Γ Δ ((↑(Io y.2.2.1.2.1):Int)+(↑(Io y.2.2.2.1.2.1):Int))-1)=(↑(Io y.2.2.1.2.1):Int)+(↑(Io y.2.2.2.1.2.1):Int)-1:=by
  rw[lU ((↑(Io y.2.2.1.2.1):Int)+(↑(Io y.2.2.2.1.2.1):Int)) ow ow,lU _ ow ow]
 have u:∀e:Int,e≠0->(IB y).val=Q1 (.inr (.int .i64 e,ay au (y.1,y.2.1,y.2.2.1,y.2.2.2.1,y.t.1,y.t.2.1,y.t.q.1,y.t.q.2.1,[],y.t.t.1,y.t.t.2.1,[],zR y.2.2.1 y.2.1.t.2.1,())))->fM y.2.2.1 y.2.2.2.1 y.2.1.t.2.1 y.t.q.1=e->∃z:zl au,DD y=Q1 ((fM y.2.2.1 y.2.2.2.1 y.2.1.t.2.1 y.t.q.1,()),z)/\nO y z/\z.t.t.q.1=y.t.t.2.1/\
  (gz z).length<=1000000/\(fM y.2.2.1 y.2.2.2.1 y.2.1.t.2.1 y.t.q.1=0->FP z (y.2.2.1.2.1++fO y.2.2.2.1 (Io y.2.2.2.1.2.1)) y.2.2.1.2.2.1 (jt y.2.2.2.1.2.2.1 (Io y.2.2.2.1.2.1)) (zR y.2.2.1 y.2.1.t.2.1)):=by
  intro e M E D;rw[D];refine⟨_,Xl E (dg (outs:=[zg]) (r:=.int .i64 e) (a:=(e,())) (ps:=au) _ rfl),H _ _ _ _ _,rfl,by show([]:List (Sem zj)).length<=_;simp,λh=>absurd h M⟩
 by_cases o:LT.lt (α:=Int) (zR y.2.2.1 y.2.1.t.2.1) 0
 ·refine u 4 (by decide) ?_ (by unfold fM;rw[if_pos o]);simp only[IB,Lz,Q8,zk,zx o,if_true]
 by_cases B:jp y.2.2.1.t.1 (zR y.2.2.1 y.2.1.t.2.1,y.t.q.1)=Q3
 ·by_cases G:LT.lt (α:=Int) 9 ((Io y.2.2.1.2.1:Int)+(Io y.2.2.2.1.2.1:Int))
  ·refine u 13 (by decide) ?_ (by unfold fM;rw[if_neg o,if_pos B,if_pos G]);simp only[IB,Lz,Q8,zk,aq o,B,J];rw[if_neg sw,if_neg sw,if_pos sg]
  ·have D:fM y.2.2.1 y.2.2.2.1 y.2.1.t.2.1 y.t.q.1=0:=by unfold fM;rw[if_neg o,if_pos B,if_neg G]
   have E:(IB y).val=Q1 (.inl (.h11 y.2.2.2.1.2.1 (Io y.2.2.2.1.2.1:Int) 0 (y.1,y.2.1,y.2.2.1,y.2.2.2.1,y.t.1,y.t.2.1,y.t.q.1,y.t.q.2.1,y.2.2.1.2.1,y.2.2.1.2.2.1,y.t.t.2.1,[],zR y.2.2.1 y.2.1.t.2.1,()))):=by
    simp only[IB,Lz,Q8,zk,aq o,B,J];rw[if_neg sw,if_neg sw,if_neg sg,if_pos sg]
   obtain⟨r,L,F,rfl,C⟩:=zsb y (y.1,y.2.1,y.2.2.1,y.2.2.2.1,y.t.1,y.t.2.1,y.t.q.1,y.t.q.2.1,y.2.2.1.2.1,y.2.2.1.2.2.1,y.t.t.2.1,[],zR y.2.2.1 y.2.1.t.2.1,()) ⟨H _ _ _ _ _,rfl,⟨by simp[fO,DR],rfl,rfl,rfl⟩⟩ O S 100000000 ow;rw[D];refine⟨F,?_,C.1,C.2.1,?_,λ_=>C.2.2⟩
   ·unfold DD kB dd;rw[E];show(dh MZ 100000000 _).bind _=_;rw[L];exact dg (outs:=[zg]) (r:=.int .i64 0) (a:=(0,())) (ps:=au) F rfl
   ·have I:=lA y.2.2.2.1.2.2.1 (Io y.2.2.2.1.2.1);rw[show gz F=_ from C.2.2.cols,ip,fO,cz];omega
 ·refine u 10 (by decide) ?_ (by unfold fM;rw[if_neg o,if_neg B]);simp only[IB,Lz,Q8,zk,aq o];rw[if_neg sw,if_pos (by simpa using B)]
end Cad
