/- slices.SortFunc over tables with rows, by their names: the contract. A text of plain signs. Texts of values and expressions, and tokens: nothing panics. -/
import Derived.Test.YtjfdpfapcmcncaaGreatDoorL14
import Derived.Test.YtjfdpfapcmcncaaGreatDoorL15
import Derived.Shelf.GgClosure.StringsIndexFunc
import Derived.Lib.DecodeN
import Derived.Test.YtjfdpfapcmcncaaGreatDoorL11
import Derived.Test.YtjfdpfapcmcncaaGreatDoorL12
import Derived.Test.YtjfdpfapcmcncaaGreatDoorL08
import Derived.Test.YtjfdpfapcmcncaaGreatDoorL09
namespace Cad
open Go Go.Proofs Go.Sort
open Tr renaming val→Q8
open Bool renaming false→Q4,true→Q3
open Option renaming some→Q1
open Decidable renaming decide→Q0
open Int (toNat)
open List (getD length)
open Tr (chk br re)
open AV (nils agg tup ptr kb str sl)
set_option maxHeartbeats 4000000
theorem uB:∀a b:zB,(Lib.compareBytes a b<0)↔Op.bytesLess a b=Q3
 |[],[]=>by simp[Lib.compareBytes,Op.bytesLess]
 |[],_::_=>by simp[Lib.compareBytes,Op.bytesLess]
 |_::_,[]=>by simp[Lib.compareBytes,Op.bytesLess]
 | a::r,b::s=>by
  unfold Lib.compareBytes Op.bytesLess;by_cases h1:a<b
  ·simp[h1]
  ·by_cases h2:b<a
   ·have:a≠b:=λe=>by rw[e]at h2;exact absurd h2 (UInt8.lt_irrefl b)
    simp[h1,h2,this]
   ·have:a=b:=UInt8.le_antisymm (UInt8.not_lt.1 h2) (UInt8.not_lt.1 h1);subst this;simp[uB r s]
theorem Fi:∀s:zB,Op.bytesLess s s=Q4
 |[]=>rfl
 |a::r=>by simp[Op.bytesLess,Fi r]
theorem BT:∀{a b c:zB},Op.bytesLess a b=Q3->Op.bytesLess b c=Q3->Op.bytesLess a c=Q3
 |_,[],_,h,_=>by cases‹zB›<;>simp[Op.bytesLess]at h
 |_,_::_,[],_,h=>by simp[Op.bytesLess]at h
 |[],_::_,_::_,_,_=>rfl
 | a::x,b::y,c::z,h,g=>by
  simp only[Op.bytesLess,mE,aE,aO,aZ]at h g⊢;rcases h with h|⟨rfl,h⟩
  ·rcases g with g|⟨rfl,g⟩
   ·exact .inl (UInt8.lt_trans h g)
   ·exact .inl h
  ·rcases g with g|⟨rfl,g⟩
   ·exact .inl g
   ·exact .inr ⟨rfl,BT h g⟩
theorem BS:∀{a b:zB},Op.bytesLess a b=Q4->a≠b->Op.bytesLess b a=Q3
 |[],[],_,h=>absurd rfl h
 |[],_::_,h,_=>by simp[Op.bytesLess]at h
 |_::_,[],_,_=>rfl
 | a::x,b::y,h,hne=>by
  simp only[Op.bytesLess,Bool.or_eq_false_iff,decide_eq_false_iff_not,Bool.and_eq_false_iff]at h;simp only[Op.bytesLess,mE,aE,aO,aZ];by_cases e:b=a
  ·subst e;refine .inr ⟨rfl,BS (h.2.resolve_left sw) λe=>hne (by rw[e])⟩
  ·exact .inl (Nat.lt_of_le_of_ne (UInt8.not_lt.1 h.1) λe'=>e (UInt8.toNat_inj.1 e'))
def fQ:List (Sem zh)->List (Sem zh)
 |[a,b]=>if Op.bytesLess b.1.1 a.1.1=Q3 then[b,a]else[a,b]
 |l=>l
theorem rW(a b:Sem zh):fQ [a,b]=if Op.bytesLess b.1.1 a.1.1=Q3 then[b,a]else[a,b]:=rfl
def two(l:List (Sem zh)):Bool:=match l with
 |[_]=>Q3
 |[a,b]=>!((a.1.1:zB)==b.1.1)
 |_=>Q4
theorem WH{l l':List (Sem zh)}(h:two l=Q3)(hp:List.Perm l' l)(hs:l'.Pairwise λx y:Sem zh=>¬Lib.compareBytes y.1.1 x.1.1<0):l'=fQ l:=by
 match l,h with
 |[a],_=>exact List.perm_singleton.1 hp
 | [a,b],h=>
  have hl:=hp.length_eq;have hne:(a.1.1:zB)≠b.1.1:=by simpa[two]using h
  match l',hl,hp,hs with
  |[x,y],_,hp,hs=>
  have hs:¬Lib.compareBytes y.1.1 x.1.1<0:=by simpa using hs
  rw[uB]at hs;have hx:x=a/\y=b\/x=b/\y=a:=by
   have hxm:x∈[a,b]:=hp.mem_iff.1 sw;rcases cr.1 hxm with rfl|hxm
   ·have:=(List.perm_cons x).1 hp;exact .inl ⟨rfl,by simpa using this⟩
   ·have hxb:x=b:=by simpa using hxm
    subst hxb;have:=(List.perm_cons x).1 (hp.trans (List.Perm.swap x a []));exact .inr ⟨rfl,by simpa using this⟩
  rw[rW];rcases hx with⟨rfl,rfl⟩|⟨rfl,rfl⟩
  ·rw[if_neg hs]
  ·rw[if_pos (BS (by simpa using hs) hne)]
def zcW:zV:=λargs hp _=>match args with
 | [.vec id,.clo (.func 72) [] [.ptr nb 0]]=>match hp id,hp nb with
  |.vec znv l,.box [.clo (.func 68) [] []]=>.chk (two l) (.ok {val:=.tup [],wr:=[(id,.vec zh (fQ l))]})
  |_,_=>.err
 |_=>.err
theorem zoH:Go.Proofs.Enters Tryz.prog 72:=by
  cases hb:Tryz.f72.body with
  | none => have:Tryz.f72.body.isNone=false:=by kernel_rfl
            rw[hb]at this;cases this
  |some c=>exact Go.Proofs.enters_of (fn:=Tryz.f72) kw kw hb
theorem zeC:FK 107 zcW where
 fn:=⟨Tryz.f107,kw,kw,kw⟩
 calls:=λw U ρ hp n args vals f fp hf hr hub hgl hfp hin hcl hnw=>by
  unfold zcW at hf;split at hf
  ·rename_i id nb;split at hf
   ·rename_i l hid hnb;simp only[Tr.val_chk,Tr.val_ok,bB]at hf;obtain⟨h2,rfl⟩:=hf;have hl:=hr.len
    match vals,hl,hr with
    |[va,vc],_,hr=>
    have r0:=hr.rv 0 _ va rfl rfl;have r1:=hr.rv 1 _ vc rfl rfl;cases r0 with
    |vec _ _ hva _=>
    cases r1 with
    |clo _ _ _ vf vcs hf hc hrf hrc=>
    match vf,hf,vcs,hc,hrc with
    |[],_,[pv],_,hrc=>
    have r2:=hrc 0 _ pv rfl rfl;cases r2 with
    |ptr _ _ b0 hb0=>
    have iid:id∈fp:=hin id (by simp[AV.idsL,AV.ids]);have inb:nb∈fp:=hin nb (by simp[AV.idsL,AV.ids]);have ob:=hfp.ob nb inb;have oid:=hfp.ob id iid;rw[hnb]at ob;rw[hid]at oid;obtain⟨b',T,arr,e1,hUB,hBB,hrl,h1c⟩:=ob;rw[hb0]at e1;cases e1;have hal:=hrl.len;have hfv:=hrl.rv 0 _ (arr.toList[0]'(by rw[<-hal];simp)) rfl (zQ _);have hcell:w.cell? ⟨b0,0,none⟩=Q1 (.func (.func 68) #[] #[]):=by
     generalize hx:arr.toList[0]'(by rw[<-hal];simp)=x at hfv;cases hfv with
     |clo _ _ _ vf vc hf hc _ _=>
     match vf,hf,vc,hc with
     |[],_,[],_=>
     rw[World.cell?,hBB];have:arr[0]?=Q1 (Value.func (.func 68) #[] #[]):=by
      rw[<-sA,zQ (by rw[<-hal];simp),hx]
     simpa using this
    have hbl:=hub b0 hUB;have hlne:l≠[]:=λe=>by rw[e]at h2;cases h2
    have hlen:l.length<=2:=by
     match l,h2 with
     |[_],_=>simp
     |[_,_],_=>simp
    refine⟨(W0 (n:=n) (e:=zh) (G:=λ_=>True) (λx y:Sem zh=>Lib.compareBytes x.1.1 y.1.1) (by decide) hub hid oid hva hlne (λ_ _=>trivial) ?_).mono ?_,by simp;exact iid⟩
    ·intro inst B cap d hds hH hBlt hown;have hne:b0≠B:=λe=>by
      have:=hfp.inj id iid nb inb B (by rw[hid];exact hown) (by rw[hnb];exact⟨rfl,_,hb0,by simp[fa,e]⟩);subst this;rw[hid]at hnb;cases hnb
     refine AnyQ.slices_SortFunc Tryz.sortRel 12 Tryz.isAgg47 Tryz.sizeOf47 (λp:Pl w U ρ zh (λ_=>True)=>p.1.1) (λp=>p.2.1) (λp=>p.2.2.1) (λp q=>Lib.compareBytes p.1.2.1.1 q.1.2.1.1) ?_ 72 #[.pointer (Q1 ⟨b0,0,none⟩)] B 0 cap d w zoH ?_ hH hBlt ow
     ·refine⟨λx=>?_,λx y z h g=>?_,λx y z h g=>?_⟩
      ·have:=Fi x.1.2.1.1;simp only[ltOf,decide_eq_false_iff_not,uB,this];simp
      ·simp only[ltOf,aO,uB]at*;exact BT h g
      ·simp only[ltOf,decide_eq_false_iff_not,uB]at*;intro hxz;by_cases e:(x.1.2.1.1:zB)=y.1.2.1.1
       ·rw[e]at hxz;exact g hxz
       ·exact g (BT (BS (by simpa using h) e) hxz)
     ·intro m os dk hdk x y;have nm:∀p:Pl w U ρ zh (λ_=>True),∃v1 v2 v3 v4 v5 v6 v7 v8 v9 v10 v11,p.1.1=[.string ⟨(p.1.2.1.1:zB).toArray⟩,v1,v2,v3,v4,v5,v6,v7,v8,v9,v10,v11]:=by
       rintro⟨⟨cs,q⟩,h1,h2,h3,h4⟩;obtain⟨v,hv1,hv2⟩:=h3 0 (.str q.1.1) rfl;have h1:cs.length=12:=h1
       match cs,h1 with
       |[a0,a1,a2,a3,a4,a5,a6,a7,a8,a9,a10,a11],_=>
       have:a0=v:=by simpa using hv1
       subst this;cases hv2;exact⟨a1,a2,a3,a4,a5,a6,a7,a8,a9,a10,a11,rfl⟩
      obtain⟨v1,v2,v3,v4,v5,v6,v7,v8,v9,v10,v11,ex⟩:=nm x;obtain⟨u1,u2,u3,u4,u5,u6,u7,u8,u9,u10,u11,ey⟩:=nm y;have hkept:(sortWorldK (λp:Pl w U ρ zh (λ_=>True)=>p.1.1) 12 w B 0 m dk os).heap[b0]?=w.heap[b0]?:=gX dk hbl hne
      have:=Tryz.cmp56 ⟨(x.1.2.1.1:zB).toArray⟩ ⟨(y.1.2.1.1:zB).toArray⟩ v1 v2 v3 v4 v5 v6 v7 v8 v9 v10 v11 u1 u2 u3 u4 u5 u6 u7 u8 u9 u10 u11 b0 (sortWorldK (λp:Pl w U ρ zh (λ_=>True)=>p.1.1) 12 w B 0 m dk os)
       (by rw[World.cell?_of_block hkept];exact hcell) (ia hbl (by unfold sortWorldK grow putRowK;simp[Sort.ahead]))
      show Calls Tryz.prog 72 (#[Value.agg x.1.1.toArray,Value.agg y.1.1.toArray]++#[Value.pointer (Q1 ⟨b0,0,none⟩)]) _ _;rw[ex,ey];exact this
    ·rintro e' w' ⟨l',hp',hs',v',U',ρ',rfl,hef⟩;rw[WH h2 hp' hs']at hef;exact⟨v',U',ρ',rfl,hef⟩
   ·simp at hf
  ·simp at hf
open Go
theorem JQ{n b0 b1 b2 b3:Nat}(h:b0<128):Lib.decodeN n b0 b1 b2 b3=(b0,1):=by
 unfold Lib.decodeN;rw[if_pos h]
theorem He{n b0 b1 b2 b3:Nat}(h:¬b0<128):128<=(Lib.decodeN n b0 b1 b2 b3).1:=by
 unfold Lib.decodeN;rw[if_neg h];repeat' split
 all_goals(simp only;omega)
theorem KR{p:Nat->Bool}(hp:∀c:Nat,p c=Q3↔(c<32\/c>126))(s:List UInt8):∀(f pos:Nat),s.length<=pos+f->(Lib.idxFuncFrom p Q3 ⟨s.toArray⟩ f pos<0↔∀(i:Nat)(h:i<s.length),pos<=i->32<=s[i].toNat/\s[i].toNat<=126)
 | 0,pos,h=>by
  simp only[Lib.idxFuncFrom];exact⟨λ_ i hi hpi=>absurd hi (by omega),λ_=>by decide⟩
 | f + 1,pos,h=>by
  have hsz:(⟨s.toArray⟩:ByteArray).size=s.length:=by simp[ByteArray.size]
  rw[Lib.idxFuncFrom,hsz];by_cases hlt:pos<s.length
  ·have hb:((⟨s.toArray⟩:ByteArray).get! pos)=s[pos]:=by
    simp[ByteArray.get!,hlt]
   rw[if_pos hlt,Lib.decode_at,hb];by_cases h8:s[pos].toNat<128
   ·rw[JQ h8];simp only;by_cases ho:p s[pos].toNat=Q3
    ·rw[if_pos ho];have:=(hp _).1 ho;exact⟨λh=>absurd h (by omega),λh=>by have:=h pos hlt (ae _);omega⟩
    ·rw[if_neg ho,KR hp s f (pos+1) (by omega)];have hn:¬(s[pos].toNat<32\/s[pos].toNat>126):=λh=>ho ((hp _).2 h)
     refine⟨λh i hi hpi=>?_,λh i hi hpi=>h i hi (by omega)⟩;by_cases e:i=pos
     ·subst e;omega
     ·exact h i hi (by omega)
   ·have hh:=He (n:=(⟨s.toArray⟩:ByteArray).size-pos) (b1:=((⟨s.toArray⟩:ByteArray).get! (pos+1)).toNat) (b2:=((⟨s.toArray⟩:ByteArray).get! (pos+2)).toNat) (b3:=((⟨s.toArray⟩:ByteArray).get! (pos+3)).toNat) h8;rw[if_pos ((hp _).2 (by omega))];exact⟨λh=>absurd h (by omega),λh=>by have:=h pos hlt (ae _);omega⟩
  ·rw[if_neg hlt];exact⟨λ_ i hi hpi=>absurd hi (by omega),λ_=>by decide⟩
theorem Vq{p:Nat->Bool}(hp:∀c:Nat,p c=Q3↔(c<32\/c>126))(s:List UInt8):Lib.idxFunc p Q3 ⟨s.toArray⟩<0↔∀b∈s,32<=b.toNat/\b.toNat<=126:=by
 have hsz:(⟨s.toArray⟩:ByteArray).size=s.length:=by simp[ByteArray.size]
 unfold Lib.idxFunc;rw[KR hp s _ 0 (by omega)];constructor
 ·intro h b hb;obtain⟨i,hi,rfl⟩:=g8 hb;exact h i hi (aY _)
 ·intro h i hi _;exact h _ (bG hi)
open Go Go.Proofs
theorem gi{c g:Bool}(h1:c=Q3)(h2:g=Q3):(if c=Q3 then g else Q4)=Q3:=by rw[if_pos h1];exact h2
theorem eG{a b:Nat}(h:a<=b):Q0 (a<=b)=Q3:=zu h
theorem GS{v:Sem zf}(h:bg v=Q3)(h2:(v.1==2)=Q3):v.2.2.length<=40:=by
 have e:v.1=2:=by simpa using h2
 unfold bg at h;rw[e]at h;simp only[show((2:Int)==0)=Q4 from rfl,show((2:Int)==1)=Q4 from rfl,show((2:Int)==2)=Q3 from rfl,zF,if_false,if_true]at h;cases h1:v.2.1==0
 ·rw[h1]at h;simp at h
 ·rw[h1]at h;cases h3:Q0 ((v.2.2.length:Int)<=40)
  ·rw[h3]at h;simp at h
  ·have:=lM h3;omega
theorem L1(v:Sem zf):yg v=Q3:=by
 unfold yg;split
 ·rfl
 ·rename_i hm;have hm:bg v=Q3:=by simpa using hm
  split
  ·rfl
  ·split
   ·rename_i h2;have hl:=GS hm h2;have hr:=lz v.2.2 [39] nI;have hr2:(Lib.replaceAll v.2.2 [39] nI).length<=200:=by
     simp only[eE,jI]at hr;omega
    refine gi ?_ (gi (eG ?_) (gi (eG ?_) rfl))
    ·unfold vV;simp;omega
    ·simp;omega
    ·simp;omega
   ·rfl
theorem yh(v:Sem zf):(iu v).length<=300:=by
 unfold iu;split
 ·simp
 ·rename_i hm;have hm:bg v=Q3:=by simpa using hm
  split
  ·have:=Gc v.2.1;omega
  ·split
   ·rename_i h2;have hl:=GS hm h2;have hr:=lz v.2.2 [39] nI;simp only[eE,jI]at hr;simp;omega
   ·split
    ·split<;>simp
    ·simp
theorem GX{s:zB}(h:eb s=Q3):s.length<=16:=by
 have h:qC s=Q3:=h;unfold qC at h;by_cases h2:(s.length:Int)<=16
 ·omega
 ·exfalso;rw[ao h2]at h;cases h1:Q0 ((s.length:Int)>=1)<;>rw[h1]at h<;>simp at h
theorem Vf{g:ze->Int->Int->Bool×Int}{e:ze}{d n:Int}(h:(Aq g e d n).1=Q3)(hc:e.op=ee):e.s.length<=16:=by
 unfold Aq at h;split at h
 ·cases h
 ·split at h
  ·rename_i h1;rw[hc]at h1;simp at h1
  ·split at h
   ·cases h1:aQ e.v
    ·rw[h1]at h;simp at h
    ·rw[h1]at h;cases h2:eb e.s
     ·rw[h2]at h;simp at h
     ·exact GX h2
   ·rename_i h1;rw[hc]at h1;simp at h1
theorem Ja(s:zB):(Lib.toUpperA s).length=s.length:=by simp[Lib.toUpperA]
theorem B5:∀(N:Nat)(e:ze)(d n:Int),N<=16->(iw N e d n).1=Q3->gM N e=Q3/\(aP N e).length<=400*2^N-100
 |0,_,_,_,_,h=>by cases h
 | N + 1,e,d,n,hN,h=>by
  rw[iw]at h;obtain⟨hl,h2⟩:=xC h;have hp:2^N<=2^15:=E8 ow ow;have hp1:1<=2^N:=Nat.one_le_two_pow;have hpp:2^(N+1)=2*2^N:=by rw[BI];omega
  have hparts:∀x∈e.l,gM N x=Q3/\(aP N x).length<=400*2^N-100:=by
   intro x hx;rcases h2 with h2|h2
   ·exfalso;have:cR e.op=0:=by
     rcases h2 with h2|h2<;>rw[h2]<;>decide
    rw[this]at hl;have:e.l=[]:=Ah ow;rw[this]at hx;simp at hx
   ·obtain⟨m,hm⟩:=vd e.l _ h2 x hx;exact B5 N x _ _ ow hm
  have hget:∀i,i<e.l.length->e.l.getD i (zj Sh.expr)∈e.l:=by
   intro i hi;rw[ba,zQ hi];exact bG hi
  rw[gM,aP];unfold AJ tt;rcases l5 e.op with⟨hp0,hop|hop⟩|⟨hp0,hop|hop⟩|⟨hp0,hop⟩|hp0
  ·rw[hop];simp only[beq_self_eq_true,if_true];refine⟨gi (L1 _) rfl,?_⟩;have:=yh e.v;omega
  ·have hs:=Vf h hop;rw[hop];refine⟨rfl,?_⟩;show e.s.length<=_;omega
  ·rw[hp0]at hl;have hlen:e.l.length=1:=by omega
   obtain⟨k1,k2⟩:=hparts _ (hget 0 ow);rw[hop];refine⟨gi ?_ (gi k1 (gi (eG ?_) (gi (eG ?_) rfl))),?_⟩
   ·simp[zO,hlen]
   ·simp at k2⊢;omega
   ·simp at k2⊢;omega
   ·show(uu++aP N (e.l.getD 0 (zj Sh.expr))++[41]).length<=_;simp at k2⊢;omega
  ·rw[hp0]at hl;have hlen:e.l.length=1:=by omega
   obtain⟨k1,k2⟩:=hparts _ (hget 0 ow);rw[hop];refine⟨gi ?_ (gi k1 (gi (eG ?_) (gi (eG ?_) rfl))),?_⟩
   ·simp[zO,hlen]
   ·simp at k2⊢;omega
   ·simp at k2⊢;omega
   ·show([40]++aP N (e.l.getD 0 (zj Sh.expr))++BO).length<=_;simp at k2⊢;omega
  ·rw[hp0]at hl;have hlen:e.l.length=2:=by omega
   obtain⟨k1,k2⟩:=hparts _ (hget 0 ow);obtain⟨k3,k4⟩:=hparts _ (hget 1 ow);have hu:(Q0 (e.op.length<=140737488355328)&&e.op.all λb=>Q0 (b.toNat<128))=Q3:=by
    rcases hop with hop|hop|hop|hop|hop|hop<;>rw[hop]<;>decide
   have hol:e.op.length<=3:=by
    rcases hop with hop|hop|hop|hop|hop|hop<;>rw[hop]<;>simp
   have hul:=Ja e.op;have n1:(e.op==mH)=Q4:=by rcases hop with hop|hop|hop|hop|hop|hop<;>rw[hop]<;>rfl
   have n2:(e.op==ee)=Q4:=by rcases hop with hop|hop|hop|hop|hop|hop<;>rw[hop]<;>rfl
   have n3:(e.op==mI)=Q4:=by rcases hop with hop|hop|hop|hop|hop|hop<;>rw[hop]<;>rfl
   have n4:(e.op==oP)=Q4:=by rcases hop with hop|hop|hop|hop|hop|hop<;>rw[hop]<;>rfl
   simp only[n1,n2,n3,n4,zF,if_false];refine⟨gi ?_ (gi k1 (gi (eG ?_) (gi (eG ?_) (gi hu (gi (eG ?_) (gi (eG ?_) (gi ?_ (gi k3 (gi (eG ?_) (gi (eG ?_) rfl)))))))))),?_⟩
   ·simp[zO,hlen]
   all_goals first
    |(simp[zO,hlen];done)
    |(simp at k2 k4⊢;omega)
  ·rw[hp0]at hl;omega
theorem Hz(e:ze):qQ e=Q3:=by
 unfold qQ;split
 ·rfl
 ·rename_i h;exact gi (B5 16 e 1 0 ow (by simpa[cA]using h)).1 rfl
theorem MN(e:ze):(nR e).1.length<=30000000:=by
 unfold nR;split
 ·simp
 ·rename_i h;have:=(B5 16 e 1 0 ow (by simpa[cA]using h)).2;show(aP 16 e).length<=_;omega
theorem AP(p:Int->Bool):∀s:zB,cN p s<=s.length
 |[]=>by simp[cN]
 | c::r=>by
  have:=AP p r;rw[cN];split<;>simp<;>omega
theorem rQ(f m:Int->Bool)(s:zB):aL f m s<=s.length:=by
 cases s with
 |nil=>simp[aL]
 | cons c r=>
  have:=AP m r;rw[aL];split<;>simp<;>omega
theorem W7(i:Nat)(h:i<=4000000000):IntKind.i64.wrap (i:Int)=(i:Int):=by
 have:=zr (i-1) um;cases i with
 |zero=>rfl
 |succ i=>simpa using this
theorem qD(i:Nat)(h:i<=4000000000):IntKind.i64.wrap ((i:Int)+1)=((i+1:Nat):Int):=zr i um
theorem oz:∀(n:Nat)(s:zB)(i:Nat)(a:Int)(b:zB),1<=i->i<=s.length->s.length+2<=n+i->s.length<=1000000000->jq n s (i:Int) a b=Q3
 |0,s,i,a,b,h1,h2,h3,h4=>by omega
 | n + 1,s,i,a,b,h1,h2,h3,h4=>by
  rw[jq];split
  ·rename_i hlt;have hlt:i<s.length:=by have:=lM hlt;omega
   refine gi (zw hlt) ?_;rw[qD i ow];split
   ·exact oz n s (i+1) a b ow ow ow h4
   ·refine gi ?_ ?_
    ·cases hd:Q0 (((i+1:Nat):Int)<(s.length:Int))
     ·rfl
     ·exact zw (by have:=lM hd;omega)
    ·split
     ·rename_i hh;have h5:i+1<s.length:=by
       cases hd:Q0 (((i+1:Nat):Int)<(s.length:Int))
       ·rw[hd]at hh;simp at hh
       ·have:=lM hd;omega
      rw[qD (i+1) ow];exact oz n s (i+1+1) a b ow ow ow h4
     ·refine gi ?_ (gi ?_ rfl)
      ·simp;omega
      ·unfold vV;simp;omega
  ·rfl
theorem tY:∀(n:Nat)(s:zB)(i:Nat)(a:Int)(b:zB),1<=i->i<=s.length->s.length+2<=n+i->s.length<=1000000000->
  (fb n s (i:Int) a b=((0,[]),0))\/∃k:Nat,(fb n s (i:Int) a b).2=(k:Int)/\1<=k/\k<=s.length
 |0,s,i,a,b,h1,h2,h3,h4=>by omega
 | n + 1,s,i,a,b,h1,h2,h3,h4=>by
  rw[fb];split
  ·rename_i hlt;have hlt:i<s.length:=by have:=lM hlt;omega
   rw[qD i ow];split
   ·exact tY n s (i+1) a b ow ow ow h4
   ·split
    ·rename_i hh;have h5:i+1<s.length:=by
      cases hd:Q0 (((i+1:Nat):Int)<(s.length:Int))
      ·rw[hd]at hh;simp at hh
      ·have:=lM hd;omega
     rw[qD (i+1) ow];exact tY n s (i+1+1) a b ow ow ow h4
    ·exact .inr ⟨i+1,rfl,ow,ow⟩
  ·exact .inl rfl
theorem Jb(t:Sem bZ):rY t=Q3:=by
 unfold rY;split
 ·rfl
 ·split
  ·refine gi ?_ rfl;cases h:((t.2.length:Int)==1)
   ·rfl
   ·have:(t.2.length:Int)=1:=by simpa using h
    simp only[zZ,aZ];omega
  ·simp
theorem Ek(s:zB)(h0:s≠[])(h1:s.length<=1000000000):kJ s=Q3:=by
 have hl:1<=s.length:=by cases s with|nil=>exact absurd rfl h0|cons _ _=>simp
 have r1:=rQ aI bt s;have r2:=rQ zU zU s;have hq:kq s=Q3:=oz (s.length+1) s 1 _ _ ow hl ow h1;have hb:zO 0 s.length=Q3:=zw hl;have d1:(Q0 ((0:Int)<=0)&&Q0 (0<=(↑(aL aI bt s):Int))&&Q0 ((↑(aL aI bt s):Int)<=(↑(length s):Int)))=Q3:=by simp;omega
 have d2:(Q0 ((0:Int)<=0)&&Q0 (0<=(↑(aL zU zU s):Int))&&Q0 ((↑(aL zU zU s):Int)<=(↑(length s):Int)))=Q3:=by simp;omega
 have d3:(Q0 ((0:Int)<=0)&&Q0 ((0:Int)<=1)&&Q0 (1<=(↑(length s):Int)))=Q3:=by simp;omega
 unfold kJ;simp only[hq,hb,if_true,zF,if_false];repeat' split
 all_goals first
  |rfl
  |(rename_i h;exfalso;apply h;simp;omega)
theorem wv(s:zB)(h0:s≠[])(h1:s.length<=1000000000)(hm:cg (bD s).1=Q3):∃k:Nat,(bD s).2=(k:Int)/\1<=k/\k<=s.length:=by
 have hl:1<=s.length:=by cases s with|nil=>exact absurd rfl h0|cons _ _=>simp
 have r1:=rQ aI bt s;have r2:=rQ zU zU s;have hq:=tY (s.length+1) s 1 0 [] ow hl ow h1;unfold bD at hm⊢;simp only[if_true,zF,if_false]at hm⊢;split
 ·rename_i h;have:=lM h;exact⟨_,rfl,ow,ow⟩
 ·rename_i h;rw[if_neg h]at hm;split
  ·rename_i h2;have:=lM h2;exact⟨_,rfl,ow,ow⟩
  ·rename_i h2;rw[if_neg h2]at hm;split
   ·rename_i h3;rw[if_pos h3]at hm;rcases hq with hq|⟨k,hk,hk1,hk2⟩
    ·exfalso;have hqq:eh s=((0,[]),0):=hq;rw[hqq]at hm;revert hm;decide
    ·exact⟨k,hk,hk1,hk2⟩
   ·exact⟨1,rfl,ow,ow⟩
theorem wL:∀(n:Nat)(s:zB)(i:Nat)(l:List (Sem zo)),i<=s.length->s.length+1<=n+i->s.length<=1000000000->l.length<=400->tp n s (i:Int) l=true
 |0,s,i,l,h1,h2,h3,h4=>by omega
 | n + 1,s,i,l,h1,h2,h3,h4=>by
  rw[tp];split
  ·rename_i hlt;have hlt:i<s.length:=by have:=lM hlt;omega
   have e1:List.take ((s.length:Int).toNat-(i:Int).toNat) (List.drop (i:Int).toNat s)=s.drop i:=by
    simp only[aK];exact Of sw
   rw[e1];refine gi ?_ ?_
   ·rw[zw hlt];cases(((s.getD (i:Int).toNat 0).toNat:Int)==32)<;>rfl
   ·split
    ·rw[qD i ow];exact wL n s (i+1) l ow ow h3 h4
    ·have hne:s.drop i≠[]:=by
      intro h;have:=congrArg length h;simp at this;omega
     have hdl:(s.drop i).length<=1000000000:=by simp;omega
     refine gi ?_ (gi (Ek _ hne hdl) (gi (Jb _) ?_))
     ·simp;omega
     ·split
      ·rfl
      ·rename_i hh;have hm:cg (bD (s.drop i)).1=Q3:=by
        cases hq:cg (bD (s.drop i)).1
        ·rw[hq]at hh;simp at hh
        ·rfl
       have hl4:l.length≠400:=by
        intro h5;rw[hm,h5]at hh;simp at hh
       obtain⟨k,hk,hk1,hk2⟩:=wv _ hne hdl hm;have hk3:k<=s.length-i:=by simpa using hk2
       refine gi (eG ?_) ?_
       ·simp;omega
       ·rw[hk,show((i:Int)+(k:Int))=((i+k:Nat):Int) by omega,W7 (i+k) ow];exact wL n s (i+k) _ ow ow h3 sg
  ·rfl
theorem Ta(s:zB)(h:s.length<=1000000000):S9 s=Q3:=wL (s.length+1) s 0 [] ow ow h sw
structure mi (s:Sem zl):Prop where
 op:s.1.length<=1000
 table:s.2.1.length<=1000
 other:s.2.2.1.length<=1000
 names:s.2.2.2.1.length<=20/\∀x∈s.2.2.2.1,length x<=1000
 cols:s.t.1.length<=20/\∀x∈s.t.1,length x.1<=1000
 key:s.t.2.1.length<=1000
 uniques:s.t.q.1.length<=20/\∀x∈s.t.q.1,length x<=1000
 refs:s.t.q.2.1.length<=20/\∀x∈s.t.q.2.1,length x.1<=1000/\length x.2<=1000
 row:s.t.t.2.1.length<=20
 sets:s.t.t.q.1.length<=20/\∀x∈s.t.t.q.1,length x.1<=1000
 role:s.t.t.t.length<=1000
theorem uX(sep:zB)(B:Nat):∀l:List zB,(∀x∈l,x.length<=B)->(Lib.join l sep).length<=l.length*(B+sep.length)
 |[],_=>by simp[Lib.join,List.intercalate]
 | [x],h=>by
  rw[Lib.join_one];have:=h x sw;simp;omega
 | x::y::r,h=>by
  have ih:=uX sep B (y::r) (λz hz=>h z (sB _ hz));have hx:=h x sw;have e:Lib.join (x::y::r) sep=x++sep++Lib.join (y::r) sep:=by simp[Lib.join,List.intercalate,List.intersperse]
  rw[e];simp only[j9,eE]at ih⊢;rw[kN];omega
theorem pS{α:Type}(p:α->Bool):∀(l:List α)(i:Nat),(!Q0 (zR p l i>=0))=Q3->∀x∈l,p x=Q4
 |[],_,_,x,hx=>by simp at hx
 | y::r,i,h,x,hx=>by
  rw[zR]at h;cases hy:p y
  ·rw[hy]at h;rcases cr.1 hx with rfl|hx
   ·exact hy
   ·exact pS p r (i+1) (by simpa using h) x hx
  ·exfalso;rw[hy]at h;simp at h
   try omega
theorem EV(e:ze):qF e=Q3:=gi (Hz e) rfl
theorem Ae(e:ze):(iU e).length<=30000000:=MN e
theorem nK(s:zB)(h:s.length<=10)(e:ze):uy s e=Q3:=by
 unfold uy;have:=Ae e;split
 ·rfl
 ·refine gi (eG ?_) (gi (EV e) (gi (eG ?_) (gi (eG ?_) rfl)))
  all_goals(simp;omega)
theorem tk(s:zB)(h:s.length<=10)(e:ze):(kQ s e).length<=30000030:=by
 unfold kQ;have:=Ae e;split
 ·simp
 ·simp;omega
theorem qq:∀(l:List (Sem Sh.str))(i:Int)(acc:List zB),dJ l i acc=Lib.join (acc++l.map md) eZ
 |[],i,acc=>by simp[dJ]
 |x::r,i,acc=>by rw[dJ,qq r];simp
theorem IT(B:Nat)(l:List (Sem Sh.str))(h:∀x∈l,(md x).length<=B):(gI l).length<=l.length*(B+3):=by
 unfold gI;rw[qq];have:=uX eZ B ([]++l.map md) (λy hy=>by
  simp only[po,bn]at hy;obtain⟨x,hx,rfl⟩:=hy;exact h x hx)
 simpa using this
theorem wk(B:Nat)(hB:B<=100000000):∀(l:List (Sem Sh.str))(i:Int)(acc:List zB),(∀x∈l,(md x).length<=B)->(∀x∈acc,x.length<=B)->acc.length+l.length<=40->dZ l i acc=Q3
 | [],i,acc,_,ha,hl=>by
  rw[dZ];refine gi ?_ rfl;have h1:=uX eZ B acc ha;have h2:acc.length*(B+3)<=40*100000003:=Ff (by simpa using hl) ow
  replace h1:(Lib.join acc eZ).length<=acc.length*(B+3):=h1
  simp only[aE,aO];simp at hl;exact⟨ow,ow⟩
 | x::r,i,acc,h,ha,hl=>by
  rw[dZ];have hx:=h x sw;simp at hl;refine gi (eG ?_) ?_
  ·simp;omega
  ·refine wk B hB r (i+1) _ (λy hy=>h y (sB _ hy)) (λy hy=>?_) sg;rcases cQ.1 hy with hy|hy
   ·exact ha y hy
   ·simp at hy;subst hy;exact hx
theorem eL{s:Sem zl}{g b:Bool}(hv:(uR s).val=if g=Q3 then Q1 (.inr (.bool b,[]))else none):we s=g/\fw s=(g&&b):=by
 unfold we fw Bj ah de;rw[hv];cases g<;>cases b<;>exact⟨rfl,rfl⟩
theorem ZR{x:zB}(o:x=dv):(x==mJ)=Q4/\(x==EB)=Q4/\(x==G7)=Q4/\(x==o6)=Q4/\(x==Jh)=Q4/\(x==py)=Q4/\(x==On)=Q4/\(x==wJ)=Q4/\(x==Ai)=Q4/\(x==BN)=Q4/\(x==dv)=Q3:=by rw[o];exact⟨rfl,rfl,rfl,rfl,rfl,rfl,rfl,rfl,rfl,rfl,rfl⟩
theorem ZS{x:zB}(o:x=gK):(x==mJ)=Q4/\(x==EB)=Q4/\(x==G7)=Q4/\(x==o6)=Q4/\(x==Jh)=Q4/\(x==py)=Q4/\(x==On)=Q4/\(x==wJ)=Q4/\(x==Ai)=Q4/\(x==BN)=Q4/\(x==dv)=Q4/\(x==gK)=Q3:=by rw[o];exact⟨rfl,rfl,rfl,rfl,rfl,rfl,rfl,rfl,rfl,rfl,rfl,rfl⟩
theorem VO{x:zB}(o:x=nA):(x==mJ)=Q4/\(x==EB)=Q4/\(x==G7)=Q4/\(x==o6)=Q4/\(x==Jh)=Q4/\(x==py)=Q4/\(x==On)=Q4/\(x==wJ)=Q4/\(x==Ai)=Q4/\(x==BN)=Q4/\(x==dv)=Q4/\(x==gK)=Q4/\(x==nA)=Q3:=by rw[o];exact⟨rfl,rfl,rfl,rfl,rfl,rfl,rfl,rfl,rfl,rfl,rfl,rfl,rfl⟩
abbrev jM(op:zB):Prop:=op=dv\/op=gK\/op=nA
theorem fZ{x:Sem zl}(h1:x.2.1.length<=1000)(h2:x.2.2.1.length<=1000)(h3:x.2.2.2.2.2.1.length<=1000)(h4:x.2.2.2.2.2.2.2.2.2.2.2.2.length<=1000):eA x=Q3:=by
 unfold eA;refine gi (eG ?_) (gi (eG ?_) (gi (eG ?_) rfl))
 all_goals first|omega|(simp;omega)
theorem BM{c g:Bool}(h:g=Q3):(bif c then g else Q3)=Q3:=by cases c<;>simp[h]
def tC(s:Sem zl):zB:=SX++Qu++[32]++s.2.1++kP++s.2.2.1++Aj++gI s.2.2.2.1++iC++kQ [32] s.t.t.1
def tJ(s:Sem zl):zB:=SX++Qw++[32]++s.2.1++kP++s.2.2.1++eZ++s.t.t.t++Ak++s.t.2.1++kQ [32] s.t.t.1
def tG(s:Sem zl):zB:=SX++Qv++[32]++s.2.1++kP++s.2.2.1++Qs++s.2.2.2.1.getD 0 []++Qt++s.2.2.2.1.getD 1 []++kQ [32] s.t.t.1
theorem zcO{s:Sem zl}(h:mi s)(o:s.1=dv):(yL s).val=Q1 (.inr (.str (tC s),[]))/\(tC s).length<=1000000000:=by
 obtain⟨p0,p1,p2,p3,p4,p5,p6,p7,p8,p9,p10⟩:=ZR o;have hU:Lib.toUpperA s.1=Qu:=by rw[o];rfl
 have ha:(Q0 (length s.1<=140737488355328)&&List.all s.1 λb=>Q0 (b.toNat<128))=Q3:=by rw[o];decide
 have ht:=h.table;have ho:=h.other;have hr:=h.role;have hk:=h.key;have hcC:=nK [32] sw s.t.t.1;have hcl:=tk [32] sw s.t.t.1;have hsC:np s.2.2.2.1=Q3:=wk 1000 ow s.2.2.2.1 0 [] h.names.2 sw (by have:=h.names.1;simp;omega);have hsl:=IT 1000 s.2.2.2.1 h.names.2;have hsl:(gI s.2.2.2.1).length<=20*1003:=cC hsl (Ff h.names.1 ow);refine⟨?_,by unfold tC;simp only[j9,eE,jI];omega⟩;unfold tC;simp only[yL,Q8,zk,ha,hU,p0,p1,p2,p3,p4,p5,p6,p7,p8,p9,p10,hsC,hcC,if_true,zF,if_false]
 iterate 9 rw[if_pos (zu (by simp<;>omega))]
theorem zcQ{s:Sem zl}(h:mi s)(o:s.1=gK):(yL s).val=Q1 (.inr (.str (tJ s),[]))/\(tJ s).length<=1000000000:=by
 obtain⟨p0,p1,p2,p3,p4,p5,p6,p7,p8,p9,p10,p11⟩:=ZS o;have hU:Lib.toUpperA s.1=Qw:=by rw[o];rfl
 have ha:(Q0 (length s.1<=140737488355328)&&List.all s.1 λb=>Q0 (b.toNat<128))=Q3:=by rw[o];decide
 have ht:=h.table;have ho:=h.other;have hr:=h.role;have hk:=h.key;have hcC:=nK [32] sw s.t.t.1;have hcl:=tk [32] sw s.t.t.1;refine⟨?_,by unfold tJ;simp only[j9,eE,jI];omega⟩;unfold tJ;simp only[yL,Q8,zk,ha,hU,p0,p1,p2,p3,p4,p5,p6,p7,p8,p9,p10,p11,hcC,if_true,zF,if_false]
 iterate 10 rw[if_pos (zu (by simp<;>omega))]
theorem zcP{s:Sem zl}(h:mi s)(o:s.1=nA)(hl:s.2.2.2.1.length=2):(yL s).val=Q1 (.inr (.str (tG s),[]))/\(tG s).length<=1000000000:=by
 obtain⟨p0,p1,p2,p3,p4,p5,p6,p7,p8,p9,p10,p11,_⟩:=VO o;have hU:Lib.toUpperA s.1=Qv:=by rw[o];rfl
 have ha:(Q0 (length s.1<=140737488355328)&&List.all s.1 λb=>Q0 (b.toNat<128))=Q3:=by rw[o];decide
 have ht:=h.table;have ho:=h.other;have hr:=h.role;have hk:=h.key;have hcC:=nK [32] sw s.t.t.1;have hcl:=tk [32] sw s.t.t.1;have n0:(s.2.2.2.1.getD 0 []).length<=1000:=by
  rw[ba,zQ ow,dp];exact h.names.2 _ (bG _)
 have n1:(s.2.2.2.1.getD 1 []).length<=1000:=by
  rw[ba,zQ ow,dp];exact h.names.2 _ (bG _)
 have i0:zO 0 (length s.2.2.2.1)=Q3:=by rw[hl];rfl
 have i1:zO 1 (length s.2.2.2.1)=Q3:=by rw[hl];rfl
 have g0:getD s.2.2.2.1 (toNat 0) (zj Sh.str)=s.2.2.2.1.getD 0 []:=rfl;have g1:getD s.2.2.2.1 (toNat 1) (zj Sh.str)=s.2.2.2.1.getD 1 []:=rfl;refine⟨?_,by unfold tG;simp only[j9,eE,jI];omega⟩;unfold tG;simp only[yL,Q8,zk,ha,hU,p0,p1,p2,p3,p4,p5,p6,p7,p8,p9,p10,p11,g0,g1,i0,i1,hcC,if_true,zF,if_false];generalize s.2.2.2.1.getD 0 []=a0 at n0;generalize s.2.2.2.1.getD 1 []=a1 at n1
 iterate 10 rw[if_pos (zu (by simp<;>omega))]
theorem iT{s:Sem zl}{t:zB}(h:(yL s).val=Q1 (.inr (.str t,[]))/\t.length<=1000000000):DZ s=Q3/\iS s=t:=by
 unfold DZ iS IL ah de;rw[h.1];exact⟨rfl,rfl⟩
theorem IK{s:Sem zl}(hs:mi s)(hm:jM s.1):we s=Q3:=by
 have t2:=hs.other;have t3:=hs.key;have t4:=hs.role;rcases hm with o|o|o
 ·obtain⟨p0,p1,p2,p3,p4,p5,p6,p7,p8,p9,p10⟩:=ZR o;obtain⟨hc,_⟩:=eL (s:=s) (g:=_) (b:=_) (by simp only[uR,Q8,p0,p1,p2,p3,p4,p5,p6,p7,p8,p9,p10,if_true,if_false,zF,zk];exact rfl);rw[hc];exact BM (fZ (by simp) (by first|exact t2|simp) (by first|exact t3|simp) (by first|exact t4|simp))
 ·obtain⟨p0,p1,p2,p3,p4,p5,p6,p7,p8,p9,p10,p11⟩:=ZS o;obtain⟨hc,_⟩:=eL (s:=s) (g:=_) (b:=_) (by simp only[uR,Q8,p0,p1,p2,p3,p4,p5,p6,p7,p8,p9,p10,p11,if_true,if_false,zF,zk];exact rfl);rw[hc];exact BM (fZ (by simp) (by first|exact t2|simp) (by first|exact t3|simp) (by first|exact t4|simp))
 ·obtain⟨p0,p1,p2,p3,p4,p5,p6,p7,p8,p9,p10,p11,p12⟩:=VO o;obtain⟨hc,_⟩:=eL (s:=s) (g:=_) (b:=_) (by simp only[uR,Q8,p0,p1,p2,p3,p4,p5,p6,p7,p8,p9,p10,p11,p12,if_true,if_false,zF,zk];exact rfl);rw[hc];exact BM (fZ (by simp) (by first|exact t2|simp) (by first|exact t3|simp) (by first|exact t4|simp))
theorem lU{s:Sem zl}(h:fw s=Q3)(o:s.1=nA):s.2.2.2.1.length=2:=by
 obtain⟨p0,p1,p2,p3,p4,p5,p6,p7,p8,p9,p10,p11,p12⟩:=VO o;obtain⟨_,hp⟩:=eL (s:=s) (g:=_) (b:=_) (by simp only[uR,Q8,p0,p1,p2,p3,p4,p5,p6,p7,p8,p9,p10,p11,p12,if_true,if_false,zF,zk];exact rfl);rw[hp]at h;by_cases hl:s.2.2.2.1.length=2
 ·exact hl
 ·exfalso;have hd:(bif Q0 ((s.2.2.2.1.length:Int)<2)then Q3 else Q0 ((s.2.2.2.1.length:Int)>2))=Q3:=by
   rcases Nat.lt_or_gt_of_ne hl with h2|h2
   ·have:Q0 ((s.2.2.2.1.length:Int)<2)=Q3:=zu ow;rw[this];rfl
   ·have:Q0 ((s.2.2.2.1.length:Int)>2)=Q3:=zu ow;rw[this];cases Q0 ((s.2.2.2.1.length:Int)<2)<;>rfl
  rw[hd]at h;cases h1:bT s.2.1<;>cases h2:bT s.2.2.1<;>rw[h1,h2]at h<;>simp at h
theorem LN{s:Sem zl}(hs:mi s)(hm:jM s.1):oI s=Q3:=by
 unfold oI;refine gi ?_ rfl;unfold wj;refine gi (IK hs hm) ?_;split
 ·rfl
 ·rename_i h;have hp:fw s=Q3:=by simpa using h
  have:DZ s=Q3/\(iS s).length<=1000000000:=by
   rcases hm with o|o|o
   ·have:=zcO hs o;exact⟨(iT this).1,(iT this).2▸this.2⟩
   ·have:=zcQ hs o;exact⟨(iT this).1,(iT this).2▸this.2⟩
   ·have:=zcP hs o (lU hp o);exact⟨(iT this).1,(iT this).2▸this.2⟩
  exact gi this.1 (gi (Ta _ this.2) rfl)
theorem En:∀(es:List ((Int×Int×zB)×Int))(n:Nat)(x:Int),(j8 es n x).length=es.length
 |[],_,_=>rfl
 |_::_,0,_=>rfl
 |_::r,n+1,x=>by simp[j8,En r n x]
theorem W5(es:List ((Int×Int×zB)×Int))(k:Int×Int×zB):(jV es k).length<=es.length+1:=by
 unfold jV;cases nv es k<;>simp
theorem GV:∀(es:List ((Int×Int×zB)×Int))(k:Int×Int×zB),(nv es k=Q3->lI es k<es.length)/\lI es k<=es.length
 |[],k=>⟨λh=>by simp[nv]at h,ae _⟩
 | p::r,k=>by
  obtain⟨h1,h2⟩:=GV r k;constructor
  ·intro h;rw[lI];cases hk:(k==p.1)with
   |true=>simp
   | false=>
    have:nv r k=Q3:=by simpa[nv,hk]using h
    have:=h1 this;simp;omega
  ·rw[lI];cases(k==p.1)<;>simp<;>omega
theorem zaq(es:List ((Int×Int×zB)×Int))(k:Int×Int×zB):lI es k<(jV es k).length:=by
 obtain⟨h1,h2⟩:=GV es k;unfold jV;cases h:nv es k with
 |true=>exact h1 h
 |false=>simp;omega
def Es(c:Int)(n:Nat):Prop:=0<=c/\c<n
theorem uT{c:Int}{n:Nat}(h:Es c n):zO c n=Q3:=by
 simp[zO,h.1,h.2]
theorem pP(x:Int)(n:Nat):xu x n=Q3↔Es x n:=by
 unfold Es xu;by_cases h:x>=0
 ·rw[zu h];simp;omega
 ·rw[ao h];simp;omega
theorem xR{α:Type}{l:List α}{d:α}{p:α->Bool}:((List.range l.length).all λi=>p (l.getD i d))=Q3↔∀x∈l,p x=Q3:=by
 rw[ei];constructor
 ·intro h x hx;obtain⟨i,hi,rfl⟩:=g8 hx;have:=h i (pp.2 hi)
  rwa [ba,zQ hi]at this
 ·intro h i hi;have hi:=pp.1 hi;rw[ba,zQ hi];exact h _ (bG hi)
theorem Lv{t:Sem zp}:(List.range (length t.t.1)).all (Z7 t)=Q3↔∀f∈t.t.1,Es f.1 (length t.2.1)/\zL f.2=Q3:=by
 have h:=xR (l:=t.t.1) (d:=zj zo) (p:=λf:Sem zo=>xu f.1 (length t.2.1)&&zL f.2);simp only[aE,pP]at h;exact h
theorem im{t:Sem zp}(h:eM t=Q3):Es t.2.2.1 t.2.1.length/\(∀f∈t.t.1,Es f.1 t.2.1.length)/\(∀u∈t.2.2.2.1,Es u t.2.1.length)/\t.2.1.length<=8/\1<=t.2.1.length:=by
 have h8:=OY h;unfold eM at h;simp only[aE,pP]at h;obtain⟨h0,_,h2,h3,h4,_⟩:=h;have h3:=Lv.1 h3;have h2:=(xR (l:=t.2.2.2.1) (d:=zj zg) (p:=λu=>xu u (length t.2.1))).1 h2;simp only[pP]at h2;refine⟨h4,λf hf=>(h3 f hf).1,h2,h8,?_⟩;cases hn:zL t.1
 ·rw[hn]at h0;simp at h0
 ·rw[hn]at h0;simp at h0;omega
theorem CB{t:Sem zp}{row:List (Sem zf)}(h:(eu t row !=0)≠Q3):row.length=t.2.1.length:=by
 simp at h;unfold eu at h;split at h
 ·cases h
 ·rename_i h1;cases hm:eM t with
  |false=>rw[hm]at h1;simp at h1
  | true=>
   rw[hm]at h1;simp at h1;omega
abbrev al(c:Int)(r:List (Sem zf)):Sem zf:=getD r (toNat c) (zj zf)
def sb(rows:List (List (Sem zf)))(c:Int):Prop:=rows.Pairwise λa b=>(al c a).1≠0->al c a≠al c b
theorem qB:∀(es:List ((Int×Int×zB)×Int))(k:Int×Int×zB)(x:Int),j8 (jV es k) (lI es k) x=kr es k x
 |[],k,x=>by simp[jV,nv,lI,j8,kr]
 | p::r,k,x=>by
  have h:=qB r k x;cases hk:(k==p.1)with
  | true=>
   have e:k=p.1:=bI hk;simp[jV,nv,lI,j8,kr,e]
  | false=>
   have e:jV (p::r) k=p::jV r k:=by
    simp only[jV,nv,List.any_cons,hk,Bool.false_or];cases(r.any λp=>k==p.1)<;>rfl
   rw[e,lI,kr,hk];show p::j8 (jV r k) (lI r k) x=p::kr r k x;rw[h]
theorem GU(es:List ((Int×Int×zB)×Int))(k k':Int×Int×zB)(x:Int):gB (kr es k x) k'=if k'=k then x else gB es k':=by
 induction es with
 | nil=>
  by_cases h:k'=k
  ·subst h;simp[kr,gB]
  ·simp[kr,gB,h]
 | cons p r ih=>
  rw[kr];cases hk:(k==p.1)with
  | true=>
   have e:k=p.1:=bI hk;by_cases h:k'=k
   ·simp[gB,h]
   ·have h2:(k'==p.1)=Q4:=by rw[<-e];simpa using h
    have h3:(k'==k)=Q4:=by simpa using h
    simp only[zZ,gB,List.find?_cons,h2,h3,if_neg h]
  | false=>
   show gB (p::kr r k x) k'=_;cases hp:(k'==p.1)with
   | true=>
    have e:k'=p.1:=bI hp;have h:k'≠k:=by intro h;rw[<-h,hp]at hk;cases hk
    simp only[gB,List.find?_cons,hp,if_neg h]
   | false=>
    simp only[gB,List.find?_cons,hp]at ih⊢;exact ih
def vj:List (Sem zf)->List ((Int×Int×zB)×Int)
 |[]=>[]
 |v::r=>kr (vj r) v (IntKind.i64.wrap (gB (vj r) v+1))
theorem KP:∀l:List (Sem zf),(vj l).length<=l.length
 |[]=>ae _
 | v::r=>by
  rw[vj,<-qB,En];have:=W5 (vj r) v;have:=KP r;simp;omega
theorem CZ:∀(l:List (Sem zf))(v:Sem zf),l.length<=1000000->gB (vj l) v=(l.count v:Int)
 |[],v,_=>by simp[vj,gB]
 | u::r,v,h=>by
  simp only[eE]at h;have h1:=CZ r u ow;have h2:=CZ r v ow;have h3:r.count u<=r.length:=List.count_le_length;rw[vj,GU,h1,h2,zr _ um];by_cases e:v=u
  ·subst e;simp
  ·have e':¬(u==v)=Q3:=by intro h;exact e (bI h).symm
   rw[if_neg e,List.count_cons,if_neg e'];rfl
theorem Ls{x:Sem zh}{c:Int}(hc:∀r∈x.2,zO c (length r)=Q3)(hl:x.2.length<=1000000):∃b,Be x c=Q1 (b,())/\(b=Q4↔sb x.2 c):=by
  let key:Nat->Sem zf:=λi=>al c (getD x.2 i (zj zf.sl))
  let mm:Nat->List ((Int×Int×zB)×Int):=λi=>vj (((x.2.take i).map (al c)).reverse)
  have hm:∀i,i<x.2.length->mm (i+1)=kr (mm i) (key i) (IntKind.i64.wrap (gB (mm i) (key i)+1)):=by
    intro i hi;show vj (((x.2.take (i+1)).map (al c)).reverse)=_;rw[List.take_succ_eq_append_getElem hi,iA,List.reverse_append];show vj (al c x.2[i]::_)=_;rw[vj];have:key i=al c x.2[i]:=by
      show al c (getD x.2 i _)=_;rw[ba,zQ hi,dp]
    rw[this];rfl
  have hlen:∀i,i<=x.2.length->(mm i).length<=i:=by
    intro i hi;have:=KP (((x.2.take i).map (al c)).reverse);simp at this;have h2:(mm i).length=(vj (((x.2.take i).map (al c)).reverse)).length:=rfl;simp at h2;omega
  have hget:∀i v,i<=x.2.length->gB (mm i) v=((((x.2.take i).map (al c)).count v:Nat):Int):=by
    intro i v hi;show gB (vj _) v=_;rw[CZ _ _ sg,List.count_reverse]
  have hf:=my (t:=Ac) (Φ:=λr=>aM r.2 [Sh.bool] r.1=some (true,())) 1 (λi=>.h3 c x.2 (x.2.length:Int) (i:Int) (mm i)) (λi=>(key i).1≠0->((x.2.take i).map (al c)).count (key i)=0) x.2.length (by
    intro i hi _;have k0:getD x.2 (i:Int).toNat (zj zf.sl)=getD x.2 i (zj zf.sl):=by rw[aK]
    have k1:getD x.2 i (zj zf.sl)=x.2[i]:=by rw[ba,zQ hi,dp]
    have k2:zO c (length x.2[i])=Q3:=hc _ (bG hi);have k3:key i=al c x.2[i]:=by show al c (getD x.2 i _)=_;rw[k1]
    have k4:zO ((lI (mm i) (key i):Nat):Int) (jV (mm i) (key i)).length=Q3:=zw (zaq _ _);have k5:Q0 ((mm i).length<=1073741824)=Q3:=zu (by have:=hlen i ow;omega);have k6:j8 (jV (mm i) (key i)) ((lI (mm i) (key i):Nat):Int).toNat (IntKind.i64.wrap (gB (mm i) (key i)+1))=mm (i+1):=by rw[aK,qB,hm i hi]
    have k7:gB (mm (i+1)) (key i)=((((x.2.take i).map (al c)).count (key i)+1:Nat):Int):=by
      have h3:((x.2.take i).map (al c)).count (key i)<=((x.2.take i).map (al c)).length:=List.count_le_length;simp only[di,pn]at h3;rw[hm i hi,GU,if_pos rfl,hget i _ ow,zr _ um]
    have hv:(Ac (.h3 c x.2 (x.2.length:Int) (i:Int) (mm i))).val=if(bif (key i).1!=0 then Q0 (((((x.2.take i).map (al c)).count (key i)+1:Nat):Int)>1)else Q4)=Q3 then Q1 (.inr (.kb Q3,[]))else Q1 (.inl (.h3 c x.2 (x.2.length:Int) ((i+1:Nat):Int) (mm (i+1)))):=by
      show(Ac (.h3 c x.2 _ _ _)).val=_;unfold Ac;simp only[k0,k1];rw[show getD x.2[i] (toNat c) (zj zf)=key i from k3.symm];simp only[Q8,zJ hi,zw hi,k2,k4,k5,if_true,k6,k7];rw[zr i um]
    by_cases h1:(key i).1=0
    · refine .inl ⟨λh=>absurd h1 h,zT.of ?_⟩
      rw[hv,if_neg (by simp[h1])]
    · by_cases h2:((x.2.take i).map (al c)).count (key i)=0
      · refine .inl ⟨λ_=>h2,zT.of ?_⟩
        rw[hv,if_neg (by rw[h2];simp)]
      · refine .inr ⟨fun h => h2 (h h1),(.kb true,[]),zX.of ?_,rfl⟩
        rw [hv, if_pos (by have:((key i).1 != 0)=true:=by simpa using h1
                           rw[this];simp only[zZ,aO];omega)])
  have hu:(∀i,i<x.2.length->(key i).1≠0->((x.2.take i).map (al c)).count (key i)=0)↔sb x.2 c:=by
    unfold sb;rw[List.pairwise_iff_getElem];constructor
    · intro h j i hj hi hji hne e
      have k3:key i=al c x.2[i]:=by show al c (getD x.2 i _)=_;rw[ba,zQ hi,dp]
      have:=h i hi (by rw[k3,<-e];exact hne);rw[List.count_eq_zero,k3,<-e]at this;exact this (bn.2 ⟨_,List.mem_take_iff_getElem.2 ⟨j,ow,rfl⟩,rfl⟩)
    · intro h i hi hne
      have k3:key i=al c x.2[i]:=by show al c (getD x.2 i _)=_;rw[ba,zQ hi,dp]
      rw[List.count_eq_zero];intro hmem;obtain⟨r,hr,e⟩:=bn.1 hmem;obtain⟨j,hj,rfl⟩:=List.mem_take_iff_getElem.1 hr;rw[k3]at e hne;exact h j i ow hi ow (by rw[e];exact hne) e
  have hgo:(zcb x c).val=Q1 (.inl (.h3 c x.2 (x.2.length:Int) ((0:Nat):Int) (mm 0))):=rfl;rcases hf with⟨h1,h2⟩|⟨h1,r,h2,h3⟩
  · refine⟨Q4,?_,λ_=>hu.1 h1,λ_=>rfl⟩
    refine zy hgo (h2.ends (zX.of (r:=(.kb Q4,[])) ?_)) ow rfl;show(Ac (.h3 c x.2 _ _ _)).val=_;simp only[Ac,Q8,zC];rfl
  · refine⟨Q3,zy hgo h2 ow h3,⟨λh=>?_,λh=>absurd (hu.2 h) h1⟩⟩
    cases h
structure gS (x:Sem zh):Prop where
 uq:x.1.2.2.2.1.length<=1000
 rf:x.1.t.1.length<=1000
 rw:x.2.length<=1000
theorem yB(l:List (Sem zh))(s:zB):zS l s=(-1:Int)\/((0:Int)<=zS l s/\LT.lt (α:=Int) (zS l s) l.length):=by
 have:=fU (λx:Sem zh=>x.1.1==s) l 0;simp at this;exact this
theorem dF{l:List (Sem zh)}{s:zB}(h:(0:Int)<=zS l s):zO (zS l s) (length l)=Q3:=by
 rcases yB l s with h1|⟨h1,h2⟩
 ·rw[h1]at h;omega
 ·simp only[zO,aE,aO];exact⟨h1,h2⟩
theorem aw{α:Type}{l:List α}{d:α}{Q:α->Prop}:(∀i,i<l.length->Q (l.getD i d))↔∀x∈l,Q x:=by
 constructor
 ·intro h x hx;obtain⟨i,hi,rfl⟩:=g8 hx;have:=h i hi
  rwa [ba,zQ hi,dp]at this
 ·intro h i hi;rw[ba,zQ hi,dp];exact h _ (bG hi)
theorem bK{α:Type}{l:List α}{d:α}{i:Nat}(hi:i<l.length):l.getD i d∈l:=by
 rw[ba,zQ hi,dp];exact bG hi
theorem qE(i:Nat)(h:i<aF):IntKind.i64.wrap (((i+1:Nat):Int)-1)=(i:Int):=by
 have:aF=9223372036854775807:=rfl;rw[gp];omega
def As(a b:Sem zf):Prop:=LT.lt (α:=Int) (cW a b) 0
theorem PS{a b:Sem zf}:Q0 (GE.ge (α:=Int) (cW a b) 0)=Q3↔¬As a b:=by
 unfold As;rw[aO];omega
structure eC (x:Sem zh):Prop where
 may:eM x.1=Q3
 few:x.2.length<=200
 fits:∀r∈x.2,eu x.1 r=(0:Int)
 key:sb x.2 x.1.2.2.1
 uniq:∀u∈x.1.2.2.2.1,sb x.2 u
 rise:∀i,i<x.2.length-1->As (al x.1.2.2.1 (getD x.2 i (zj zf.sl))) (al x.1.2.2.1 (getD x.2 (i+1) (zj zf.sl)))
def Xa(r:az):Prop:=∃e:Int,r=(.int .i64 e,[])/\e≠0
theorem Lr{x:Sem zh}(hs:gS x):∃e:Int,oC x=Q1 (e,())/\(e=0↔eC x):=by
 have hsw:=hs.rw;have hsu:=hs.uq;have fin:∀{k:Nat}{r:az},zX iy k (.h6 x.2 (x.2.length:Int) ((0:Nat):Int) (x,())) r->k<=100000000->(Rh x).val=Q1 (.inl (.h6 x.2 (x.2.length:Int) ((0:Nat):Int) (x,())))->∀e:Int,r=(.int .i64 e,[])->oC x=Q1 (e,()):=by
  intro k r h hk hi e he;subst he;exact zy hi h hk rfl
 by_cases hm:eM x.1=Q3
 case neg=>
  refine⟨1,?_,λh=>(by cases h),λh=>absurd h.may hm⟩;unfold oC ah de;simp only[Rh,zk,Q8];rw[if_pos (by simpa using hm)];rfl
 by_cases hw:x.2.length<=200
 case neg=>
  refine⟨13,?_,λh=>(by cases h),λh=>absurd h.few hw⟩;unfold oC ah de;simp only[Rh,zk,Q8];rw[if_neg (by simpa using hm),if_pos sg];rfl
 have hi:(Rh x).val=Q1 (.inl (.h6 x.2 (x.2.length:Int) ((0:Nat):Int) (x,()))):=by
  simp only[Rh,zk,Q8];rw[if_neg (by simpa using hm),if_neg sg];rfl
 obtain⟨hkc,hrc,huc,_,_⟩:=im hm;have h6:=my (t:=iy) (Φ:=Xa) 1 (λi=>.h6 x.2 (x.2.length:Int) (i:Int) (x,())) (λi=>eu x.1 (getD x.2 i (zj zf.sl))=(0:Int)) x.2.length (by
  intro i hi _;have hv:(iy (.h6 x.2 (x.2.length:Int) (i:Int) (x,()))).val=if(eu x.1 (getD x.2 i (zj zf.sl))!=0)=Q3 then Q1 (.inr (.int .i64 (eu x.1 (getD x.2 i (zj zf.sl))),[]))else Q1 (.inl (.h6 x.2 (x.2.length:Int) ((i+1:Nat):Int) (x,()))):=by
   show(iy (.h6 x.2 _ _ _)).val=_;unfold iy;simp only[zk,Q8,zJ hi,zw hi,if_true,aK];rw[zr i um]
  by_cases h:eu x.1 (getD x.2 i (zj zf.sl))=(0:Int)
  ·refine .inl ⟨h,zT.of ?_⟩;rw[hv,if_neg (by rw[h];simp)]
  ·refine .inr ⟨h,_,zX.of (by rw[hv,if_pos (by simpa using h)]),_,rfl,h⟩)
 rcases h6 with⟨hf,h6⟩|⟨hf,r,h6,e,he,hne⟩
 case inr=>
  exact⟨e,fin h6 ow hi e he,λh=>absurd h hne,λh=>absurd ((aw (Q:=λr=>eu x.1 r=(0:Int))).2 h.fits) hf⟩
 have hfits:=(aw (Q:=λr=>eu x.1 r=(0:Int))).1 hf;have hlen:∀r∈x.2,length r=x.1.2.1.length:=λr hr=>CB (by simpa using hfits r hr)
 have hin:∀c,Es c x.1.2.1.length->∀r∈x.2,zO c (length r)=Q3:=λc hc r hr=>by
  rw[hlen r hr];exact uT hc
 obtain⟨b,hb,hbu⟩:=Ls (x:=x) (c:=x.1.2.2.1) (hin _ hkc) ow;have hbc:rP x x.1.2.2.1=Q3:=by unfold rP;rw[hb];rfl
 have hbv:xQ x x.1.2.2.1=b:=by unfold xQ;rw[hb];rfl
 have hv6:(iy (.h6 x.2 (x.2.length:Int) (x.2.length:Int) (x,()))).val=if b=Q3 then Q1 (.inr (.int .i64 7,[]))else Q1 (.inl (.h15 x.1.2.2.2.1 (x.1.2.2.2.1.length:Int) ((0:Nat):Int) (x,()))):=by
  show(iy (.h6 x.2 _ _ _)).val=_;unfold iy;simp only[zk,Q8,zC,hbc,hbv,if_true];rfl
 by_cases hb1:b=Q3
 ·refine⟨7,fin (h6.ends (zX.of (by rw[hv6,if_pos hb1]))) ow hi 7 rfl,λh=>(by cases h),λh=>?_⟩;have:=hbu.2 h.key;rw[hb1]at this;cases this
 have hkey:sb x.2 x.1.2.2.1:=hbu.1 (by simpa using hb1);have g15:zT iy _ (.h6 x.2 (x.2.length:Int) ((0:Nat):Int) (x,())) _:=h6.trans (zT.of (by rw[hv6,if_neg hb1]));have h15:=my (t:=iy) (Φ:=Xa) 1 (λi=>.h15 x.1.2.2.2.1 (x.1.2.2.2.1.length:Int) (i:Int) (x,())) (λi=>sb x.2 (getD x.1.2.2.2.1 i (zj zg))) x.1.2.2.2.1.length (by
  intro i hi _;obtain⟨b,hb,hbu⟩:=Ls (x:=x) (c:=getD x.1.2.2.2.1 i (zj zg)) (hin _ (huc _ (bK hi))) ow;have hbc:rP x (getD x.1.2.2.2.1 i (zj zg))=Q3:=by unfold rP;rw[hb];rfl
  have hbv:xQ x (getD x.1.2.2.2.1 i (zj zg))=b:=by unfold xQ;rw[hb];rfl
  have hv:(iy (.h15 x.1.2.2.2.1 (x.1.2.2.2.1.length:Int) (i:Int) (x,()))).val=if b=Q3 then Q1 (.inr (.int .i64 7,[]))else Q1 (.inl (.h15 x.1.2.2.2.1 (x.1.2.2.2.1.length:Int) ((i+1:Nat):Int) (x,()))):=by
   show(iy (.h15 _ _ _ _)).val=_;unfold iy;simp only[zk,Q8,zJ hi,zw hi,if_true,aK,hbc,hbv];rw[zr i um]
  by_cases h:b=Q3
  ·refine .inr ⟨λhu=>?_,_,zX.of (by rw[hv,if_pos h]),7,rfl,by decide⟩;have:=hbu.2 hu;rw[h]at this;cases this
  ·exact .inl ⟨hbu.1 (by simpa using h),zT.of (by rw[hv,if_neg h])⟩)
 rcases h15 with⟨hq,h15⟩|⟨hq,r,h15,e,he,hne⟩
 case inr=>
  exact⟨e,fin (g15.ends h15) ow hi e he,λh=>absurd h hne,λh=>absurd ((aw (Q:=λu=>sb x.2 u)).2 h.uniq) hq⟩
 have huniq:=(aw (Q:=λu=>sb x.2 u)).1 hq;have hv15:(iy (.h15 x.1.2.2.2.1 (x.1.2.2.2.1.length:Int) (x.1.2.2.2.1.length:Int) (x,()))).val=Q1 (.inl (.h21 ((0+1:Nat):Int) (x,()))):=by
  show(iy (.h15 _ _ _ _)).val=_;unfold iy;simp only[Q8,zC];rfl
 have g21:=(g15.trans h15).trans (zT.of hv15);have h21:=my (t:=iy) (Φ:=Xa) 1 (λi=>.h21 ((i+1:Nat):Int) (x,())) (λi=>As (al x.1.2.2.1 (getD x.2 i (zj zf.sl))) (al x.1.2.2.1 (getD x.2 (i+1) (zj zf.sl)))) (x.2.length-1) (by
  intro i hi _;have h1:i<x.2.length:=by omega
  have h2:i+1<x.2.length:=by omega
  have hv:(iy (.h21 ((i+1:Nat):Int) (x,()))).val=if Q0 (GE.ge (α:=Int) (cW (al x.1.2.2.1 (getD x.2 i (zj zf.sl))) (al x.1.2.2.1 (getD x.2 (i+1) (zj zf.sl)))) 0)=Q3 then Q1 (.inr (.int .i64 15,[]))else Q1 (.inl (.h21 ((i+1+1:Nat):Int) (x,()))):=by
   show(iy (.h21 _ _)).val=_;unfold iy;simp only[qE i um];simp only[Q8,zJ h2,zw h2,zw h1,aK,hin _ hkc _ (bK h1),hin _ hkc _ (bK h2),if_true];rw[zr (i+1) um]
  by_cases h:As (al x.1.2.2.1 (getD x.2 i (zj zf.sl))) (al x.1.2.2.1 (getD x.2 (i+1) (zj zf.sl)))
  ·exact .inl ⟨h,zT.of (by rw[hv,if_neg (λh2=>PS.1 h2 h)])⟩
  ·exact .inr ⟨h,_,zX.of (by rw[hv,if_pos (PS.2 h)]),15,rfl,by decide⟩)
 rcases h21 with⟨hr,h21⟩|⟨hr,r,h21,e,he,hne⟩
 case inr=>
  exact⟨e,fin (g21.ends h21) ow hi e he,λh=>absurd h hne,λh=>absurd h.rise hr⟩
 have hv21:(iy (.h21 ((x.2.length-1+1:Nat):Int) (x,()))).val=Q1 (.inr (.int .i64 0,[])):=by
  show(iy (.h21 _ _)).val=_;unfold iy;simp only[Q8];rw[if_neg sg]
 exact⟨0,fin (g21.ends (h21.ends (zX.of hv21))) ow hi 0 rfl,λ_=>⟨hm,hw,hfits,hkey,huniq,hr⟩,λ_=>rfl⟩
def mj(v:Sem zf):Prop:=LE.le (α:=Int) (-9223372036854775808) v.2.1/\LE.le (α:=Int) v.2.1 9223372036854775807/\v.2.2.length<=1000000
theorem bN:∀s:zB,Op.bytesLess s s=Q4
 |[]=>rfl
 |a::r=>by simp[Op.bytesLess,bN r]
theorem Rz(s:zB):(pU s<0)↔∀b∈s,32<=b.toNat/\b.toNat<=126:=by
 refine Vq (p:=λr=>C3 r) (λc=>?_) s;unfold C3;cases h:Q0 ((c:Int)<32)with
 |true=>simp at h⊢;omega
 |false=>simp at h⊢;omega
theorem ZF(b0 b1 b2 b3 c0 c1 e l:Bool):∃r,(if b0=Q3 then Q1 (.inr (.bool (bif c0 then e else Q4),[]))else if b1=Q3 then Q1 (.inr (.bool e,[]))else if b2=Q3 then Q1 (.inr (.bool (bif c0 then l else Q4),[]))else if b3=Q3 then Q1 (.inr (.bool (bif c0 then e else bif c1 then e else Q4),[]))else Q1 (.inr (.kb Q4,[])):Option (Bv⊕az))=Q1 (.inr r)/\
  aM r.2 [Sh.bool] r.1=Q1 ((if b0=Q3 then if(!c0)=Q3 then Q4 else e else if b1=Q3 then e else if b2=Q3 then bif c0 then bif l then Q3 else Q4 else Q4 else if b3=Q3 then bif c0 then e else bif c1 then e else Q4 else Q4:Bool),()):=by
 cases b0<;>cases b1<;>cases b2<;>cases b3<;>cases c0<;>cases c1<;>cases e<;>cases l<;>exact⟨_,rfl,rfl⟩
theorem ZE(b0 b1 b2 b3 c0 c1 l:Bool):(if b0=Q3 then if(!c0)=Q3 then Q4 else Q4 else if b1=Q3 then Q4 else if b2=Q3 then bif c0 then bif l then Q4 else Q4 else Q4 else if b3=Q3 then bif c0 then Q4 else bif c1 then Q4 else Q4 else Q4)=Q4:=by
 cases b0<;>cases b1<;>cases b2<;>cases b3<;>cases c0<;>cases c1<;>cases l<;>rfl
theorem K4{v:Sem zf}(hl:v.2.2.length<=1000000):H4 v=Q1 (bg v,()):=by
 obtain⟨k,n,s⟩:=v;have hl:s.length<=1000000:=hl;have hf:=my (t:=sT) (Φ:=λr=>r=(.kb Q4,[])) 1 (λi=>.h2 (i:Int) ((k,n,s),())) (λi=>32<=(getD s i 0).toNat/\(getD s i 0).toNat<=126) s.length (by
  intro i hi _;have hv:(sT (.h2 (i:Int) ((k,n,s),()))).val=if(bif Q0 (((getD s i 0).toNat:Int)<32)then Q3 else Q0 (((getD s i 0).toNat:Int)>126))=Q3 then Q1 (.inr (.kb Q4,[]))else Q1 (.inl (.h2 ((i+1:Nat):Int) ((k,n,s),()))):=by
   show(sT (.h2 _ _)).val=_;unfold sT;simp only[Q8,zJ hi,zw hi,aK,if_true];rw[if_pos (by cases Q0 (((getD s i 0).toNat:Int)<32)<;>rfl)];rw[zr i um]
  by_cases h1:(getD s i 0).toNat<32
  ·refine .inr ⟨λh=>by omega,_,zX.of (by rw[hv,if_pos (by rw[zu ow];rfl)]),rfl⟩
  ·by_cases h2:126<(getD s i 0).toNat
   ·refine .inr ⟨λh=>by omega,_,zX.of (by rw[hv,if_pos (by rw[ao ow,zu ow];rfl)]),rfl⟩
   ·refine .inl ⟨ow,zT.of (by rw[hv,if_neg (by rw[ao ow,ao ow];simp)])⟩)
 have hi:(zb8 (k,n,s)).val=Q1 (.inl (.h2 ((0:Nat):Int) ((k,n,s),()))):=rfl;have ho:=Rz s;have hq:=aw (l:=s) (d:=0) (Q:=λb=>32<=b.toNat/\b.toNat<=126);rcases hf with⟨h1,h2⟩|⟨h1,r,h2,rfl⟩
 ·have ho2:Q0 (pU s<0)=Q3:=zu (ho.2 (hq.1 h1));have hv:(sT (.h2 (s.length:Int) ((k,n,s),()))).val=(if(k==0)=Q3 then Q1 (.inr (.bool (bif (n==0)then(s==[])else Q4),[]))else if(k==1)=Q3 then Q1 (.inr (.bool (s==[]),[]))else if(k==2)=Q3 then Q1 (.inr (.bool (bif (n==0)then Q0 ((length s:Int)<=40)else Q4),[]))else if(k==3)=Q3 then Q1 (.inr (.bool (bif (n==0)then(s==[])else bif (n==1)then(s==[])else Q4),[]))else Q1 (.inr (.kb Q4,[]))):=by
   show(sT (.h2 _ _)).val=_;unfold sT;simp only[Q8,zC];rw[if_neg sw]
  obtain⟨r,hr1,hr2⟩:=ZF (k==0) (k==1) (k==2) (k==3) (n==0) (n==1) (s==[]) (Q0 ((length s:Int)<=40));have hm:bg (k,n,s)=(if(k==0)=Q3 then if(!(n==0))=Q3 then Q4 else(s==[])else if(k==1)=Q3 then(s==[])else if(k==2)=Q3 then bif (n==0)then bif Q0 ((length s:Int)<=40)then Q3 else Q4 else Q4 else if(k==3)=Q3 then bif (n==0)then(s==[])else bif (n==1)then(s==[])else Q4 else Q4):=by
   simp only[bg,ho2];rfl
  rw[hm];exact zy hi (h2.ends (zX.of (hv.trans hr1))) ow hr2
 ·have ho2:Q0 (pU s<0)=Q4:=ao (λh=>h1 (hq.2 (ho.1 h)));have hs:(s==[])=Q4:=by
   cases s with
   |nil=>exact absurd (λi hi=>absurd hi sw) h1
   |cons _ _=>rfl
  have hm:bg (k,n,s)=Q4:=by
   simp only[bg,ho2,hs];exact ZE (k==0) (k==1) (k==2) (k==3) (n==0) (n==1) (Q0 ((length s:Int)<=40))
  rw[hm];exact zy hi h2 ow rfl
theorem lq{v:Sem zf}(hl:v.2.2.length<=1000000):mq v=Q3:=by unfold mq;rw[K4 hl];rfl
theorem oo{v:Sem zf}(hl:v.2.2.length<=1000000):sQ v=bg v:=by unfold sQ;rw[K4 hl];rfl
theorem Gy{v:Sem zf}(hl:v.2.2.length<=1000000):vF v=Q1 (au v,()):=by
 unfold vF ah de;simp only[zca,Q8,lq hl,oo hl,if_true,au];cases bg v<;>rfl
theorem ru{v:Sem zf}(hl:v.2.2.length<=1000000):rt v=Q3:=by unfold rt;rw[Gy hl];rfl
theorem vG{v:Sem zf}(hl:v.2.2.length<=1000000):fm v=au v:=by unfold fm;rw[Gy hl];rfl
def ye(b:Bool):Sem zf:=if b then(3,1,[])else(3,0,[])
theorem Dn(b:Bool):vE b=Q1 (ye b,()):=by cases b<;>rfl
theorem ot(b:Bool):lr b=Q3:=by unfold lr;rw[Dn];rfl
theorem io(b:Bool):aW b=ye b:=by unfold aW;rw[Dn];rfl
def Ji(v:Sem zf)(n:Int):Bool:=v.1==3&&(v.2.1==n&&(v.2.2==[]&&Q3))
theorem Pk(v:Sem zf)(b:Bool):K3 v b=Q1 (Ji v (bif b then 1 else 0),()):=by
 unfold K3 ah de;simp only[zb9,Q8,ot,io,if_true];cases b<;>rfl
theorem AU(v:Sem zf)(b:Bool):mX v b=Q3:=by unfold mX;rw[Pk];rfl
theorem H3(v:Sem zf)(b:Bool):qc v b=Ji v (bif b then 1 else 0):=by unfold qc;rw[Pk];rfl
theorem nu:aS 0=(0,0,[]):=by decide
theorem lE:aS 1=(3,0,[]):=by decide
theorem lF:aS 2=(3,1,[]):=by decide
theorem jC(v:Sem zf):(ea v==1)=Ji v 0/\(ea v==2)=Ji v 1:=by
 obtain⟨k,n,s⟩:=v;unfold ea Ji;simp only[bg];by_cases hk:k=3
 ·subst hk;by_cases h0:n=0
  ·subst h0;cases hs:(s==[])<;>simp[gp]
  ·by_cases h1:n=1
   ·subst h1;cases hs:(s==[])<;>simp[gp]
   ·have e0:(n==0)=Q4:=by simpa using h0
    have e1:(n==1)=Q4:=by simpa using h1
    simp[e0,e1]
 ·have e:(k==3)=Q4:=by simpa using hk
  have e':(k !=3)=Q3:=by simpa using hk
  simp[e,e']
theorem K2(a b:Sem zf):Dg a b=Q1 (ET a b,()):=by
 unfold Dg ah de;simp only[zcg,Q8,AU,H3,io,ET,(jC a).1,(jC a).2,(jC b).1,(jC b).2,nu,lE,lF,aq,zZ];cases Ji a 0<;>cases Ji b 0<;>cases Ji a 1<;>cases Ji b 1<;>rfl
theorem Pn(a b:Sem zf):K6 a b=Q1 (Xf a b,()):=by
 unfold K6 ah de;simp only[zch,Q8,AU,H3,io,Xf,(jC a).1,(jC a).2,(jC b).1,(jC b).2,nu,lE,lF,aq,zZ];cases Ji a 0<;>cases Ji b 0<;>cases Ji a 1<;>cases Ji b 1<;>rfl
theorem K5(a:Sem zf):Dj a=Q1 (At a,()):=by
 unfold Dj ah de;simp only[zcf,Q8,AU,H3,io,At,(jC a).1,(jC a).2,nu,lE,lF,aq,zZ];cases Ji a 0<;>cases Ji a 1<;>rfl
theorem U8(k k' n n':Int)(s s':zB):(if(k==k'&&(n==n'&&(s==s'&&Q3)))=Q3 then(0:Int)else if(bif Q0 (k<k')then Q3 else bif k==k' then bif Q0 (n<n')then Q3 else bif n==n' then Op.bytesLess s s' else Q4 else Q4)=Q3 then -1 else 1)=HQ [tn k k',kR n n',o7 s s']:=by
 simp only[HQ,tn,kR,o7];rcases BF k k' with h|h|h
 ·have c1:(k==k')=Q4:=bX.2 ow;simp[c1,h]
 ·subst h;rcases BF n n' with h|h|h
  ·have c1:(n==n')=Q4:=bX.2 ow;simp[c1,h]
  ·subst h;by_cases hs:s=s'
   ·subst hs;simp[bN]
   ·have c1:(s==s')=Q4:=bX.2 hs;by_cases hl:Op.bytesLess s s'=Q3
    ·simp[c1,hl]
    ·simp[c1,hl]
  ·have c1:(n==n')=Q4:=bX.2 ow;have c2:¬n<n':=by omega
   simp[c1,c2,h]
 ·have c1:(k==k')=Q4:=bX.2 ow;have c2:¬k<k':=by omega
  simp[c1,c2,h]
theorem Dl{a b:Sem zf}(ha:a.2.2.length<=1000000)(hb:b.2.2.length<=1000000):qe a b=Q1 (cW a b,()):=by
 unfold qe ah de;simp only[zlh,Q8,ru ha,ru hb,vG ha,vG hb,if_true,cW];rw[<-U8];generalize((au a).1==(au b).1&&((au a).2.1==(au b).2.1&&((au a).2.2==(au b).2.2&&Q3)))=b1;generalize(bif Q0 ((au a).1<(au b).1)then Q3 else bif (au a).1==(au b).1 then bif Q0 ((au a).2.1<(au b).2.1)then Q3 else bif (au a).2.1==(au b).2.1 then Op.bytesLess (au a).2.2 (au b).2.2 else Q4 else Q4)=b2;cases b1<;>cases b2<;>rfl
theorem af{α:Type}(l:List α)(d:α){i:Nat}(h:i<l.length):l.getD ((i:Int).toNat) d=l[i]:=by
 rw[aK,ba,zQ h,dp]
theorem uO{α:Type}(l:List α)(d:α){i:Nat}(h:i<l.length):l.getD i d∈l:=by
 rw[ba,zQ h,dp];exact bG h
def bM(f w:zB):List zB:=if(w==[])=Q3 then[f]else[f,w]
def dW(db:List (Sem zh))(ns:List zB):Bool:=db.any λx=>!aC ns x.1.1&&Q0 (GE.ge (α:=Int) (zR (λf:Sem zo=>aC ns f.2) x.1.t.1 0) 0)
def oH(db:List (Sem zh))(f w t:zB):Int:=
 if∀n∈bM f w,LE.le (α:=Int) 0 (zS db n)then(if(Q0 (GE.ge (α:=Int) (zS db t) 0)||f==w)=Q3 then 7 else if dW db (bM f w)=Q3 then 10 else 0)else 6
def zbz(y:zn be)(y':zn be):Prop:=
 (0:Int)<=zS y.1 y.t.2.1/\(y.t.q.1=[]\/(0:Int)<=zS y.1 y.t.q.1)/\LT.lt (α:=Int) (zS y.1 y.2.1.2.1) 0/\y.t.2.1≠y.t.q.1/\
 y'.2.2.1=(getD y.1 (toNat (zS y.1 y.t.2.1)) (zj zh)).1/\
 y'.2.2.2.1=(if y.t.q.1=[]then y.2.2.2.1 else(getD y.1 (toNat (zS y.1 y.t.q.1)) (zj zh)).1)
def Yk(y:zn be)(r:az):Prop:=∃(e:Int)(y':zn be),r=(.int .i64 e,ar be y')/\y'.1=y.1/\y'.2.1=y.2.1/\y'.t=y.t/\e=oH y.1 y.t.2.1 y.t.q.1 y.2.1.2.1/\(e=0->zbz y y')
theorem znB(y:zn be)(ns:List zB)(hl:length y.1<=1000000)(h1:(0:Int)<=zS y.1 y.t.2.1)(h2:y.t.q.1=[]\/(0:Int)<=zS y.1 y.t.q.1)(h3:LT.lt (α:=Int) (zS y.1 y.2.1.2.1) 0)(h4:y.t.2.1≠y.t.q.1)(hE:oH y.1 y.t.2.1 y.t.q.1 y.2.1.2.1=if dW y.1 ns=Q3 then 10 else 0)(n:Nat)(hn:1+length y.1<=n):
  ∃r,da Eb n (.h11 y.1 (length y.1:Int) 0 y ns)=Q1 r/\Yk y r:=by
 refine dr (t:=Eb) (β:=Unit) (length y.1) (λ_ i=>.h11 y.1 (length y.1:Int) (i:Int) y ns) (λ_ i=>∀j(hj:j<length y.1),j<i->(!aC ns y.1[j].1.1&&Q0 (GE.ge (α:=Int) (zR (λf:Sem zo=>aC ns f.2) y.1[j].1.t.1 0) 0))=Q4) (Yk y) 1 ?_ ?_ (length y.1) 0 () n rfl (aY _) (λj _ h=>by omega) hn
 ·intro b i hi hI;simp only[Eb,IY,Ec,Q8,zJ hi,zw hi,if_true,af y.1 _ hi];rw[zr i um];have hnext:(!aC ns y.1[i].1.1&&Q0 (GE.ge (α:=Int) (zR (λf:Sem zo=>aC ns f.2) y.1[i].1.t.1 0) 0))=Q4->∀j(hj:j<length y.1),j<i+1->(!aC ns y.1[j].1.1&&Q0 (GE.ge (α:=Int) (zR (λf:Sem zo=>aC ns f.2) y.1[j].1.t.1 0) 0))=Q4:=by
   intro h j hj hji;by_cases hji2:j=i
   ·subst hji2;exact h
   ·exact hI j hj ow
  by_cases c1:(!aC ns y.1[i].1.1)=Q3
  ·simp only[c1,if_true];split
   ·rename_i c2;refine Or.inr ⟨_,rfl,10,y,rfl,rfl,rfl,rfl,?_,λh=>by cases h⟩;have hr:dW y.1 ns=Q3:=by
     unfold dW;exact List.any_eq_true.2 ⟨y.1[i],bG hi,by rw[c1];simpa using c2⟩
    rw[hE,if_pos hr]
   ·rename_i c2;exact Or.inl ⟨(),hnext (by rw[c1];simpa using c2),rfl⟩
  ·simp only[c1];exact Or.inl ⟨(),hnext (by simp only[ib]at c1;rw[c1];rfl),rfl⟩
 ·intro b n hI hn;have hr:dW y.1 ns=Q4:=by
   unfold dW;rw[List.any_eq_false];intro x hx;obtain⟨j,hj,rfl⟩:=g8 hx;rw[hI j hj hj];simp
  rw[hr]at hE
  replace hE:=hE.symm
  simp only[zF,if_false]at hE;obtain⟨n,rfl⟩:∃k,n=k+1:=⟨n-1,ow⟩;rw[cL];simp only[Eb,IY,Ec,Q8,zC,dF h1,if_true];by_cases c1:(!y.t.q.1==[])=Q3
  ·have hne:y.t.q.1≠[]:=by simpa using c1
   have hb:(0:Int)<=zS y.1 y.t.q.1:=h2.resolve_left hne;simp only[c1,if_true,dF hb];refine⟨_,rfl,0,_,rfl,rfl,rfl,rfl,hE,λ_=>⟨h1,h2,h3,h4,rfl,?_⟩⟩;simp[hne]
  ·have he:y.t.q.1=[]:=by simpa using c1
   simp only[c1];refine⟨_,rfl,0,_,rfl,rfl,rfl,rfl,hE,λ_=>⟨h1,h2,h3,h4,rfl,?_⟩⟩;simp[he]
theorem zqh(y:zn be)(ns:List zB)(hns:ns=bM y.t.2.1 y.t.q.1)(hl:length y.1<=1000000)(n:Nat)(hn:2+length y.1+ns.length<=n):
  ∃r,da Eb n (.h3 ns (length ns:Int) 0 y ns)=Q1 r/\Yk y r:=by
 have hnl:ns.length<=2:=by rw[hns];unfold bM;split<;>simp
 refine dr (t:=Eb) (β:=Unit) ns.length (λ_ i=>.h3 ns (length ns:Int) (i:Int) y ns) (λ_ i=>∀j(hj:j<ns.length),j<i->(0:Int)<=zS y.1 ns[j]) (Yk y) (2+length y.1) ?_ ?_ ns.length 0 () n rfl (aY _) (λj _ h=>by omega) hn
 ·intro b i hi hI;simp only[Eb,NT,IZ,Q8,zJ hi,zw hi,if_true,af ns _ hi];rw[zr i um];by_cases c1:(0:Int)<=zS y.1 ns[i]
  ·have:Q0 (LT.lt (α:=Int) (zS y.1 ns[i]) 0)=Q4:=by simpa using c1
   simp only[this];refine Or.inl ⟨(),λj hj hji=>?_,rfl⟩;by_cases hji2:j=i
   ·subst hji2;exact c1
   ·exact hI j hj ow
  ·have:Q0 (LT.lt (α:=Int) (zS y.1 ns[i]) 0)=Q3:=by simpa using c1
   simp only[this,if_true];refine Or.inr ⟨_,rfl,6,y,rfl,rfl,rfl,rfl,?_,λh=>by cases h⟩;unfold oH;rw[if_neg];intro h;exact c1 (h _ (by rw[<-hns];exact bG hi))
 ·intro b n hI hn;obtain⟨n,rfl⟩:∃k,n=k+1:=⟨n-1,ow⟩;have hA:∀n∈bM y.t.2.1 y.t.q.1,LE.le (α:=Int) 0 (zS y.1 n):=by
   intro x hx;rw[<-hns]at hx;obtain⟨j,hj,rfl⟩:=g8 hx;exact hI j hj hj
  have hE:oH y.1 y.t.2.1 y.t.q.1 y.2.1.2.1=if(Q0 (GE.ge (α:=Int) (zS y.1 y.2.1.2.1) 0)||y.t.2.1==y.t.q.1)=Q3 then 7 else if dW y.1 ns=Q3 then 10 else 0:=by
   unfold oH;rw[if_pos hA,<-hns]
  have h1:(0:Int)<=zS y.1 y.t.2.1:=hA _ (by unfold bM;split<;>simp);have h2:y.t.q.1=[]\/(0:Int)<=zS y.1 y.t.q.1:=by
   by_cases hw:(y.t.q.1==[])=Q3
   ·left;simpa using hw
   ·right;exact hA _ (by unfold bM;rw[if_neg hw];simp)
  rw[cL];simp only[Eb,NT,IZ,Q8,zC];by_cases c1:(bif Q0 (GE.ge (α:=Int) (zS y.1 y.2.1.2.1) 0)then Q3 else y.t.2.1==y.t.q.1)=Q3
  ·simp only[c1,if_true];refine⟨_,rfl,7,y,rfl,rfl,rfl,rfl,?_,λh=>by cases h⟩;rw[hE,if_pos (by revert c1;cases Q0 (GE.ge (α:=Int) (zS y.1 y.2.1.2.1) 0)<;>exact id)]
  ·simp only[c1];have hd:Q0 (GE.ge (α:=Int) (zS y.1 y.2.1.2.1) 0)=Q4:=by
    cases hh:Q0 (GE.ge (α:=Int) (zS y.1 y.2.1.2.1) 0)with
    |false=>rfl
    |true=>rw[hh]at c1;simp at c1
   rw[hd]at c1;refine znB y ns hl h1 h2 (by simpa using hd) (by simpa using c1) ?_ n ow;rw[hE,hd,if_neg (by simpa using c1)]
theorem KL(y:zn be)(hl:length y.1<=1000000):∃(e:Int)(y':zn be),qY y=Q1 ((e,()),y')/\y'.1=y.1/\y'.2.1=y.2.1/\y'.t=y.t/\e=oH y.1 y.t.2.1 y.t.q.1 y.2.1.2.1/\(e=0->zbz y y'):=by
 have hps:lm (y.t.1,y.t.2.1,y.t.q.1,(y.t.q.2.1,[],y.t.t.1,[],[],zm y.t.t.2.1),[],y.t.t.q.1)=bM y.t.2.1 y.t.q.1:=rfl;obtain⟨r,h1,e,y',rfl,h2⟩:=zqh y _ hps hl 100000000 (by
  have:length (lm (y.t.1,y.t.2.1,y.t.q.1,(y.t.q.2.1,[],y.t.t.1,[],[],zm y.t.t.2.1),[],y.t.t.q.1))<=2:=by rw[hps];unfold bM;split<;>simp
  omega)
 refine⟨e,y',?_,h2⟩;unfold qY km de;simp only[Zk,Q8];rw[h1];exact cZ (outs:=[zg]) (r:=.int .i64 e) (a:=(e,())) y' rfl
theorem xZ{i n:Nat}(h:i<n):Q0 ((i:Int).toNat<n)=Q3:=by simpa using h
def wu(t:Sem zp):Int:=
 if∃i,i<length t.2.1/\zP t (getD t.2.1 i (zj zi)).1≠(i:Int)then 7 else if(t.t.2.op==[])=Q3 then 0
 else if(bif (bJ t.t.2 t.2.1).2==0 then bif (bJ t.t.2 t.2.1).1!=3 then(bJ t.t.2 t.2.1).1!=0 else Q4 else Q4)=Q3 then 5 else(bJ t.t.2 t.2.1).2
abbrev PM(y:zn ap):Sem zp:=(y.t.q.2.1,y.t.t.1,y.t.t.2.1,[],[],y.t.t.q.1)
theorem tS(y:zn ap)(hl:y.t.t.1.length<=1000000):uY y=Q1 ((wu (PM y),()),y):=by
 have h:=dr (t:=LQ) (β:=Unit) y.t.t.1.length (λ_ i=>.h2 (y.t.t.1.length:Int) (i:Int) y) (λ_ i=>∀j,j<i->j<length y.t.t.1->zP (PM y) (getD y.t.t.1 j (zj zi)).1=(j:Int)) (λr=>r=(.int .i64 (wu (PM y)),ar ap y)) 1 (by
   intro b i hi hI;simp only[LQ,NU,I0,Q8,zJ hi,zw hi,zu hi,if_true,zk,aK];rw[zr i um];by_cases c:(zP (PM y) (getD y.t.t.1 i (zj zi)).1!=(i:Int))=Q3
   ·simp only[c,if_true];refine Or.inr ⟨_,rfl,?_⟩;unfold wu;rw[if_pos ⟨i,hi,by simpa using c⟩]
   ·simp only[c];refine Or.inl ⟨(),λj hj hl=>?_,rfl⟩;by_cases h:j=i
    ·subst h;simpa using c
    ·exact hI j ow hl) (by
   intro b n hI hn;obtain⟨n,rfl⟩:∃k,n=k+1:=⟨n-1,ow⟩;have h0:¬∃i,i<length (PM y).2.1/\zP (PM y) (getD (PM y).2.1 i (zj zi)).1≠(i:Int):=by
    rintro⟨i,hi,h⟩;exact h (hI i hi hi)
   have hv:(LQ (.h2 (y.t.t.1.length:Int) (y.t.t.1.length:Int) y)).val=Q1 (.inr (.int .i64 (wu (PM y)),ar ap y)):=by
    simp only[LQ,NU,I0,Q8,zC,zk];unfold wu;rw[if_neg h0];split
    ·simp_all
    ·split
     ·rfl
     ·split<;>rfl
   rw[cL,hv];exact⟨_,rfl,rfl⟩)
  y.t.t.1.length 0 () 100000000 rfl (aY _) (λj h=>by omega) ow
 obtain⟨r,h1,rfl⟩:=h;unfold uY km de;simp only[Zl,Q8];have h1':da LQ 100000000 (.h2 (y.t.t.1.length:Int) 0 y)=Q1 (.int .i64 (wu (PM y)),ar ap y):=h1;rw[h1'];exact cZ (outs:=[zg]) (r:=.int .i64 (wu (PM y))) (a:=(wu (PM y),())) y rfl
theorem ws(t:Sem zp)(s:zB):zP t s=(-1:Int)\/((0:Int)<=zP t s/\LT.lt (α:=Int) (zP t s) (length t.2.1)):=by
 have:=fU (λc:Sem zi=>c.1==s) t.2.1 0;unfold zP;simpa using this
theorem qV{t:Sem zp}{s:zB}(h:¬LT.lt (α:=Int) (zP t s) 0):zO (zP t s) (length t.2.1)=Q3:=by
 rcases ws t s with h1|⟨h1,h2⟩
 ·rw[h1]at h;simp at h
 ·simp only[zO,aE,aO];exact⟨h1,h2⟩
theorem yP(x:Int):∀(l:List Int)(i:Nat),GE.ge (α:=Int) (eP x l (i:Int)) 0↔x∈l
 | [],i=>by
  rw[eP];exact⟨λh=>absurd h (by decide),λh=>by cases h⟩
 | a::r,i=>by
  rw[eP];split
  ·rename_i h;have:x=a:=by simpa using h
   subst this;exact⟨λ_=>yn,λ_=>Int.natCast_nonneg i⟩
  ·rename_i h;have:=yP x r (i+1);rw[ul]at this;rw[cr];refine⟨λh2=>.inr (this.1 h2),λh2=>this.2 (h2.resolve_left ?_)⟩;rintro rfl;simp at h
theorem tN(l:List Int)(x:Int):tM l x=Q3↔x∈l:=by
 unfold tM;rw[decide_eq_true_iff];exact yP x l 0
def gz(t:Sem zp)(names:List zB):Int:=if∀s∈names,¬LT.lt (α:=Int) (zP t s) 0 then(if(names.map (zP t)).Nodup then 0 else 7)else 4
theorem C2{l:List Int}{x:Int}:(l++[x]).Nodup↔l.Nodup/\x∉l:=by
 rw[List.nodup_append];simp;intro _;exact⟨λh h2=>h x h2 rfl,λh y hy e=>h (e▸hy)⟩
theorem cU{α:Type}{l:List α}{i:Nat}(h:i<l.length):l.take (i+1)=l.take i++[l[i]]:=by
 rw[List.take_add_one,zQ h];rfl
def Mf(y:zn be)(z:zn dP):Prop:=z.1=y.1/\z.2.1=y.2.1/\z.2.2.1=y.2.2.1/\z.2.2.2.1=y.2.2.2.1/\z.t.1=y.t.1/\z.t.2.1=y.t.2.1/\z.t.q.1=y.t.q.1/\z.t.q.2.1=y.t.q.2.1/\
 z.t.t.2.1=y.t.t.1/\z.t.t.q.1=y.t.t.2.1/\z.t.t.t=y.t.t.q
abbrev gy(z:zn dP):List (Sem zi):=z.t.t.1
abbrev fk(z:zn dP):List (Sem zg):=z.t.t.q.2.1
def NmI(y:zn be)(l:List zB)(z:zn dP):Prop:=Mf y z/\fk z=l.map (λs=>zP y.2.2.1 s)/\gy z=l.map (λs=>getD y.2.2.1.2.1 (toNat (zP y.2.2.1 s)) (zj zi))/\∀s∈l,¬LT.lt (α:=Int) (zP y.2.2.1 s) 0
def NmR(y:zn be)(r:az):Prop:=∃(e:Int)(z:zn dP),r=(.int .i64 e,ar ap z)/\Mf y z/\e=gz y.2.2.1 y.2.1.2.2.2.1/\(e=0->NmI y y.2.1.2.2.2.1 z)/\(gy z).length<=1000000
theorem zme(y:zn be)(z:zn dP)(hz:NmI y y.2.1.2.2.2.1 z)(hE:gz y.2.2.1 y.2.1.2.2.2.1=if(fk z).Nodup then 0 else 7)(hl:(fk z).length<=1000000)(m:Nat):∀(i n:Nat),(fk z).length-i=m->i<=(fk z).length->((fk z).take i).Nodup->1+m<=n->∃r,da qu n (.h12b ((fk z).length:Int) (i:Int) z)=Q1 r/\NmR y r:=by
 intro i n hm hi hnd hn;have hcl:(gy z).length<=1000000:=by
  have:=hl;rw[hz.2.1,di]at this;rw[hz.2.2.1,di];exact this
 refine dr (t:=qu) (β:=Unit) (fk z).length (λ_ i=>.h12b ((fk z).length:Int) (i:Int) z) (λ_ i=>((fk z).take i).Nodup) (NmR y) 1 ?_ ?_ m i () n hm hi hnd hn
 ·intro b i hi hI;have hd:(Q0 (0<=0)&&Q0 ((0:Int)<=(i:Int))&&Q0 ((i:Int)<=((fk z).length:Int)))=Q3:=by simp;omega
  simp only[qu,Ee,xY,Q8,zJ hi,zw hi,if_true,hd];rw[zr i um];rw[show List.take (toNat (i:Int)-toNat 0) (List.drop (toNat 0) z.t.t.q.2.1)=(fk z).take i by simp,show z.t.t.q.2.1.getD (toNat (i:Int)) (zj zg)=(fk z)[i]from af (fk z) _ hi];split
  ·rename_i c;refine Or.inr ⟨_,rfl,7,z,rfl,hz.1,?_,λh=>(by cases h),hcl⟩;rw[hE,if_neg];intro hN;have h2:((fk z).take (i+1)).Nodup:=hN.sublist (List.take_sublist _ _);rw[cU hi,C2]at h2;exact h2.2 ((tN _ _).1 c)
  ·rename_i c;refine Or.inl ⟨(),?_,rfl⟩;show((fk z).take (i+1)).Nodup;rw[cU hi,C2];exact⟨hI,λh=>c ((tN _ _).2 h)⟩
 ·intro b n hI hn;rw[lN]at hI;obtain⟨n,rfl⟩:∃k,n=k+1:=⟨n-1,ow⟩;rw[cL];simp only[qu,Ee,xY,Q8,zC];exact⟨_,rfl,0,z,rfl,hz.1,by rw[hE,if_pos hI],λ_=>hz,hcl⟩
theorem zp9(y:zn be)(z:zn dP)(hz:NmI y y.2.1.2.2.2.1 z)(hE:gz y.2.2.1 y.2.1.2.2.2.1=if(fk z).Nodup then 0 else 7)(hl:(fk z).length<=1000000)(n:Nat)(hn:2+(fk z).length<=n):∃r,da qu n (.h12 ((fk z).length:Int) 0 z)=Q1 r/\NmR y r:=by
 have hcl:(gy z).length<=1000000:=by
  have:=hl;rw[hz.2.1,di]at this;rw[hz.2.2.1,di];exact this
 obtain⟨n,rfl⟩:∃k,n=k+1:=⟨n-1,ow⟩;rw[cL];by_cases h:0<(fk z).length
 ·have hd:(Q0 (0<=0)&&Q0 ((0:Int)<=((0:Nat):Int))&&Q0 (((0:Nat):Int)<=((fk z).length:Int)))=Q3:=by simp
  have hv:(∃r,(qu (.h12 ((fk z).length:Int) ((0:Nat):Int) z)).val=Q1 (.inr r)/\NmR y r)\/(qu (.h12 ((fk z).length:Int) ((0:Nat):Int) z)).val=Q1 (.inl (.h12b ((fk z).length:Int) ((1:Nat):Int) z)):=by
   simp only[qu,I2,Eg,Q8,zJ h,zw h,xZ h,if_true,hd];rw[zr 0 um];split
   ·rename_i c;exact absurd ((tN _ _).1 c) sw
   ·exact Or.inr rfl
  rw[Int.ofNat_zero]at hv;rcases hv with⟨r,h1,h2⟩|h1
  ·rw[h1];exact⟨r,rfl,h2⟩
  ·rw[h1];exact zme y z hz hE hl _ 1 n rfl ow (by rw[cU h];simp) ow
 ·have h0:(fk z).length=0:=by omega
  have hv:(qu (.h12 ((fk z).length:Int) 0 z)).val=Q1 (.inr (.int .i64 0,ar ap z)):=by
   rw[h0];simp[qu,I2,Eg,Q8]
  rw[hv];exact⟨_,rfl,0,z,rfl,hz.1,by rw[hE,if_pos (by rw[Ah h0];exact List.nodup_nil)],λ_=>hz,hcl⟩
theorem nm3(y:zn be)(z:zn dP)(hz:NmI y [] z)(hl:y.2.1.2.2.2.1.length<=1000000)(n:Nat)(hn:3+y.2.1.2.2.2.1.length+y.2.1.2.2.2.1.length<=n):∃r,da qu n (.h3 y.2.1.2.2.2.1 (y.2.1.2.2.2.1.length:Int) 0 z)=Q1 r/\NmR y r:=by
 refine dr (t:=qu) (β:=zn dP) y.2.1.2.2.2.1.length (λz i=>.h3 y.2.1.2.2.2.1 (y.2.1.2.2.2.1.length:Int) (i:Int) z) (λz i=>NmI y (y.2.1.2.2.2.1.take i) z) (NmR y) (3+y.2.1.2.2.2.1.length) ?_ ?_ y.2.1.2.2.2.1.length 0 z n rfl (aY _) (by simpa using hz) hn
 ·intro z i hi hI;obtain⟨hk,hx,hc,hp⟩:=hI;have hkl:(fk z).length<=1000000:=by rw[hx,di,pn];omega
  have hcl:(gy z).length<=1000000:=by rw[hc,di,pn];omega
  have e3:z.2.2.1=y.2.2.1:=hk.2.2.1;simp only[qu,NX,I3,Q8,zJ hi,zw hi,if_true,af _ _ hi,zk,Prod.eta];rw[zr i um];by_cases c1:LT.lt (α:=Int) (zP z.2.2.1 y.2.1.2.2.2.1[i]) 0
  ·simp only[zu c1,if_true];refine Or.inr ⟨_,rfl,4,z,rfl,hk,?_,λh=>(by cases h),hcl⟩;unfold gz;rw[if_neg];intro h;exact h _ (bG hi) (by rw[<-e3];exact c1)
  ·simp only[ao c1,qV c1];refine Or.inl ⟨(z.1,z.2.1,z.2.2.1,z.2.2.2.1,z.t.1,z.t.2.1,z.t.q.1,z.t.q.2.1,z.t.t.1++[getD z.2.2.1.2.1 (toNat (zP z.2.2.1 y.2.1.2.2.2.1[i])) (zj zi)],z.t.t.2.1,z.t.t.q.1,z.t.t.q.2.1++[zP z.2.2.1 y.2.1.2.2.2.1[i]],z.t.t.t),⟨hk,?_,?_,?_⟩,?_⟩;rotate_left 3
   ·rw[if_neg sw,if_pos (by have:z.t.t.q.2.1.length<=1000000:=hkl;simp;omega),if_pos trivial,if_pos (by have:z.t.t.1.length<=1000000:=hcl;simp;omega)]
   ·show fk z++[zP z.2.2.1 y.2.1.2.2.2.1[i]]=_;rw[hx,e3,cU hi,iA];rfl
   ·show gy z++[getD z.2.2.1.2.1 (toNat (zP z.2.2.1 y.2.1.2.2.2.1[i])) (zj zi)]=_;rw[hc,e3,cU hi,iA];rfl
   ·intro s hs;rw[cU hi,cQ]at hs;rcases hs with hs|hs
    ·exact hp s hs
    ·rw[gn]at hs;rw[hs,<-e3];exact c1
 ·intro z n hI hn;obtain⟨n,rfl⟩:∃k,n=k+1:=⟨n-1,ow⟩;rw[lN]at hI;have hkl:(fk z).length=y.2.1.2.2.2.1.length:=by rw[hI.2.1,di]
  rw[cL];simp only[qu,NX,I3,Q8,zC];have hn2:2+(fk z).length<=n:=by rw[hkl];omega
  refine zp9 y z hI ?_ ow n hn2;unfold gz;rw[if_pos hI.2.2.2,hI.2.1]
theorem Gj(y:zn be)(hl:y.2.1.2.2.2.1.length<=1000000):∃(e:Int)(z:zn dP),AS y=Q1 ((e,()),z)/\Mf y z/\e=gz y.2.2.1 y.2.1.2.2.2.1/\(e=0->NmI y y.2.1.2.2.2.1 z)/\(gy z).length<=1000000:=by
 obtain⟨r,h1,e,z,rfl,h2⟩:=nm3 y (y.1,y.2.1,y.2.2.1,y.2.2.2.1,y.t.1,y.t.2.1,y.t.q.1,y.t.q.2.1,[],y.t.t.1,y.t.t.2.1,[],y.t.t.q)
  ⟨⟨rfl,rfl,rfl,rfl,rfl,rfl,rfl,rfl,rfl,rfl,rfl⟩,rfl,rfl,sw⟩ hl 100000000 ow
 refine⟨e,z,?_,h2⟩;unfold AS km de;simp only[Zr,Q8];rw[h1];exact cZ (outs:=[zg]) (r:=.int .i64 e) (a:=(e,())) (ps:=ap) z rfl
theorem zb6(y:zn be):Rc y=y:=by
 unfold Rc;rw[zk,zk,zk,zk,zk]
def nB(y:zn be)(z:zn ap):Prop:=z.1=y.1/\z.2.1=y.2.1/\z.2.2.1=y.2.2.1/\z.2.2.2.1=y.2.2.2.1/\z.t.1=y.t.1/\z.t.2.1=y.t.2.1/\z.t.q.1=y.t.q.1/\z.t.q.2.1=y.t.q.2.1
structure EW (z:zn ap) (cols:List (Sem zi)) (key:Int) (ix:List Int) (on:Int):Prop where
 cols:z.t.t.1=cols
 key:z.t.t.2.1=key
 ix:z.t.t.q.2.1=ix
 on:z.t.t.t.1=on
def gE(t:Sem zp)(names:List zB):List (Sem zi):=names.map λs=>getD t.2.1 (toNat (zP t s)) (zj zi)
def lh(t:Sem zp)(names:List zB):List Int:=names.map (zP t)
def wK(t:Sem zp)(names:List zB):Int:=if gz t names=0 then(if LT.lt (α:=Int) (ij (lh t names) t.2.2.1) 0 then 1 else 0)else gz t names
def tK(t:Sem zp)(names:List zB):Int:=if gz t names=0 then(if((gE t names).getD 1 (zj zi)).2.1=(1:Int)then 0 else 5)else gz t names
def EM(t:Sem zp)(names:List zB):List (Sem zi):=
 [(((gE t names).getD 0 (zj zi)).1,((gE t names).getD 0 (zj zi)).2.1,Q3),(((gE t names).getD 1 (zj zi)).1,((gE t names).getD 1 (zj zi)).2.1,Q4)]
def il(t u:Sem zp)(k w:zB):Int:=
 if LT.lt (α:=Int) (zP t k) 0 then 4 else if j4 t.t.1 (zP t k,w)=Q3 then(if LT.lt (α:=Int) 9 ((length t.2.1:Int)+(length u.2.1:Int))then 13 else 0)else 10
def HR(k:Int)(n:Nat):List Nat:=(List.range n).filter λj=>(j:Int)!=k
def kl(k:Int)(n:Nat):List Int:=(HR k n).map λ(j:Nat)=>(j:Int)
def gG(u:Sem zp)(n:Nat):List (Sem zi):=(HR u.2.2.1 n).map λj=>getD u.2.1 j (zj zi)
theorem zfJ(y:zn be):Uq y=Ur y y (j7 y) (ij (j7 y).t.t.t.1 (j7 y).2.2.2.1.2.2.1):=by
 unfold Uq;rw[zb6]
theorem Vb(y:zn be)(hl:y.2.1.2.2.2.1.length<=1000):∃z:zn ap,HM y=Q1 ((wK y.2.2.1 y.2.1.2.2.2.1,()),z)/\nB y z/\z.t.t.q.1=y.t.t.2.1/\
  (gy z).length<=1000000/\(wK y.2.2.1 y.2.1.2.2.2.1=0->EW z (gE y.2.2.1 y.2.1.2.2.2.1) (ij (lh y.2.2.1 y.2.1.2.2.2.1) y.2.2.1.2.2.1) (lh y.2.2.1 y.2.1.2.2.2.1) y.t.t.q.1):=by
 obtain⟨e,z,h1,hk,he,h2,hlen⟩:=Gj y ow;have hn:j7 y=(e,z):=by unfold j7;rw[h1];rfl
 have hc:nZ y=Q3:=by unfold nZ;rw[h1];rfl
 have hkk:nB y z:=⟨hk.1,hk.2.1,hk.2.2.1,hk.2.2.2.1,hk.t.1,hk.t.2.1,hk.t.q.1,hk.t.q.2.1⟩;have hch:z.t.t.q.1=y.t.t.2.1:=hk.t.t.2.1;unfold HM km de;rw[zfJ];simp only[Ur,Q8,hn,hc,if_true];by_cases h0:e=0
 ·have hI:=h2 h0;have hE:wK y.2.2.1 y.2.1.2.2.2.1=if LT.lt (α:=Int) (ij (fk z) z.2.2.1.2.2.1) 0 then 1 else 0:=by
   unfold wK;rw[if_pos (he▸h0),hI.2.1,hk.2.2.1];rfl
  simp only[h0,jG,zF,if_false];by_cases hx:LT.lt (α:=Int) (ij (fk z) z.2.2.1.2.2.1) 0
  ·rw[if_pos hx]at hE;simp only[zu hx,if_true,hE];exact⟨_,cZ (outs:=[zg]) (r:=.int .i64 1) (a:=(1,())) (ps:=ap) _ rfl,hkk,hch,hlen,λh=>by cases h⟩
  ·rw[if_neg hx]at hE;simp only[ao hx,hE];refine⟨_,cZ (outs:=[zg]) (r:=.int .i64 0) (a:=(0,())) (ps:=ap) _ rfl,hkk,hch,hlen,λ_=>⟨hI.2.2.1,?_,hI.2.1,by rw[hk.t.t.q]⟩⟩;show ij (fk z) z.2.2.1.2.2.1=_;rw[hI.2.1,hk.2.2.1];rfl
 ·have hb:(e !=0)=Q3:=by simpa using h0
  have hE:wK y.2.2.1 y.2.1.2.2.2.1=e:=by
   unfold wK;rw[if_neg (he▸h0),he]
  simp only[hb,if_true,hE];exact⟨_,cZ (outs:=[zg]) (r:=.int .i64 e) (a:=(e,())) (ps:=ap) z rfl,hkk,hch,hlen,λh=>absurd h h0⟩
theorem zfL(y:zn be):Us y=(let a1:=j7 y
  let a2:=a1.t.t.2.1.getD (toNat 1) (zj zi)
  let a3:=a1.t.t.2.1.getD (toNat 0) (zj zi)
  let a4:=a1.t.t.2.1.set (toNat 0) (a3.1,a3.2.1,Q3)
  let a5:=a4.getD (toNat 1) (zj zi)
  Ut y y a1 a2 a3 a4 a5):=by
 unfold Us;rw[zb6]
theorem Rt(y:zn be)(hl:y.2.1.2.2.2.1.length=2):∃z:zn ap,AR y=Q1 ((tK y.2.2.1 y.2.1.2.2.2.1,()),z)/\nB y z/\z.t.t.q.1=y.t.t.2.1/\
  (gy z).length<=1000000/\(tK y.2.2.1 y.2.1.2.2.2.1=0->EW z (EM y.2.2.1 y.2.1.2.2.2.1) y.t.t.1 (lh y.2.2.1 y.2.1.2.2.2.1) y.t.t.q.1):=by
 obtain⟨e,z,h1,hk,he,h2,hlen0⟩:=Gj y ow;have hn:j7 y=(e,z):=by unfold j7;rw[h1];rfl
 have hc:nZ y=Q3:=by unfold nZ;rw[h1];rfl
 have hkk:nB y z:=⟨hk.1,hk.2.1,hk.2.2.1,hk.2.2.2.1,hk.t.1,hk.t.2.1,hk.t.q.1,hk.t.q.2.1⟩;have hch:z.t.t.q.1=y.t.t.2.1:=hk.t.t.2.1;have hkey:z.t.t.2.1=y.t.t.1:=hk.t.t.1;have hon:z.t.t.t.1=y.t.t.q.1:=by rw[hk.t.t.q]
 unfold AR km de;rw[zfL];simp only[Ut,hn];by_cases h0:e=0
 ·have hI:=h2 h0;have hlen:(gy z).length=2:=by rw[hI.2.2.1,di];exact hl
  have hcols:gy z=gE y.2.2.1 y.2.1.2.2.2.1:=hI.2.2.1;have hix:fk z=lh y.2.2.1 y.2.1.2.2.2.1:=hI.2.1;have hE:tK y.2.2.1 y.2.1.2.2.2.1=if((gE y.2.2.1 y.2.1.2.2.2.1).getD 1 (zj zi)).2.1=(1:Int)then 0 else 5:=by
   unfold tK;rw[if_pos (he▸h0)]
  obtain⟨z0,z1,z2,z3,z4,z5,z6,z7,cols,z9⟩:=z;obtain⟨c0,c1,rfl⟩:∃c0 c1,cols=[c0,c1]:=by
   match cols,hlen with
   |[c0,c1],_=>exact⟨c0,c1,rfl⟩
  have hcols:[c0,c1]=gE y.2.2.1 y.2.1.2.2.2.1:=hcols;unfold EM;rw[<-hcols]at hE⊢;simp only[Q8,hc,if_true,h0,jG,zF,if_false];have e1:zO 1 (length [c0,c1])=Q3:=rfl;have e0:zO 0 (length [c0,c1])=Q3:=rfl;by_cases hty:c1.2.1=(1:Int)
  ·rw[if_pos (show([c0,c1].getD 1 (zj zi)).2.1=(1:Int)from hty)]at hE;rw[hE];refine⟨(z0,z1,z2,z3,z4,z5,z6,z7,[(c0.1,c0.2.1,Q3),(c1.1,c1.2.1,Q4)],z9),?_,hkk,hch,by show length [(c0.1,c0.2.1,Q3),(c1.1,c1.2.1,Q4)]<=_;simp,λ_=>⟨rfl,hkey,hix,hon⟩⟩;simp[hty,getD,zO];exact cZ (outs:=[zg]) (r:=.int .i64 0) (a:=(0,())) (ps:=ap) (z0,z1,z2,z3,z4,z5,z6,z7,[(c0.1,c0.2.1,Q3),(c1.1,1,Q4)],z9) rfl
  ·rw[if_neg (show¬([c0,c1].getD 1 (zj zi)).2.1=(1:Int)from hty)]at hE;rw[hE];refine⟨(z0,z1,z2,z3,z4,z5,z6,z7,[c0,c1],z9),?_,hkk,hch,by show length [c0,c1]<=_;simp,λh=>by cases h⟩;simp[hty,getD];exact cZ (outs:=[zg]) (r:=.int .i64 5) (a:=(5,())) (ps:=ap) (z0,z1,z2,z3,z4,z5,z6,z7,[c0,c1],z9) rfl
 ·have hb:(e !=0)=Q3:=by simpa using h0
  have hE:tK y.2.2.1 y.2.1.2.2.2.1=e:=by
   unfold tK;rw[if_neg (he▸h0),he]
  simp only[Q8,hc,hb,if_true,hE];exact⟨z,cZ (outs:=[zg]) (r:=.int .i64 e) (a:=(e,())) (ps:=ap) z rfl,hkk,hch,hlen0,λh=>absurd h h0⟩
def JnI(y:zn be)(i:Nat)(z:zn dP):Prop:=nB y z/\z.t.t.q.1=y.t.t.2.1/\EW z (y.2.2.1.2.1++gG y.2.2.2.1 i) y.2.2.1.2.2.1 (kl y.2.2.2.1.2.2.1 i) (zP y.2.2.1 y.2.1.t.2.1)
theorem pV(k:Int)(n:Nat):(HR k n).length<=n:=by
 unfold HR;exact cC (List.length_filter_le _ _) sw
theorem Gp(k:Int)(n:Nat):HR k (n+1)=if((n:Int)!=k)=Q3 then HR k n++[n]else HR k n:=by
 unfold HR;rw[List.range_succ,List.filter_append];split
 ·rename_i h;rw[List.filter_cons_of_pos (by exact h),List.filter_nil]
 ·rename_i h;rw[List.filter_cons_of_neg (by exact h),List.filter_nil,yr]
theorem zpO(y:zn be)(z:zn dP)(hz:JnI y 0 z)(hf:length y.2.2.1.2.1<=100)(hl:length y.2.2.2.1.2.1<=100)(n:Nat)(hn:1+length y.2.2.2.1.2.1<=n):
  ∃r,da LP n (.h11 y.2.2.2.1.2.1 (length y.2.2.2.1.2.1:Int) 0 z)=Q1 r/\∃z':zn dP,r=(.int .i64 0,ar ap z')/\JnI y (length y.2.2.2.1.2.1) z':=by
 refine dr (t:=LP) (β:=zn dP) (length y.2.2.2.1.2.1) (λz i=>.h11 y.2.2.2.1.2.1 (length y.2.2.2.1.2.1:Int) (i:Int) z) (λz i=>JnI y i z) _ 1 ?_ ?_ (length y.2.2.2.1.2.1) 0 z n rfl (aY _) hz hn
 ·intro z i hi hI;obtain⟨hk,hch,hA⟩:=hI;have hoth:=pV y.2.2.2.1.2.2.1 i;have hcl:(gy z).length<=2000:=by
   rw[show gy z=_ from hA.cols,j9,gG,di];omega
  have hxl:(fk z).length<=2000:=by
   rw[show fk z=_ from hA.ix,kl,di];omega
  have ek:z.2.2.2.1.2.2.1=y.2.2.2.1.2.2.1:=by rw[hk.2.2.2.1]
  simp only[LP,IX,Ea,Q8,zJ hi,zw hi,if_true,af _ _ hi];rw[zr i um];refine Or.inl ?_;have hsucc:=Gp y.2.2.2.1.2.2.1 i;split
  ·rename_i hc;rw[ek]at hc;rw[if_pos hc]at hsucc;refine⟨(z.1,z.2.1,z.2.2.1,z.2.2.2.1,z.t.1,z.t.2.1,z.t.q.1,z.t.q.2.1,z.t.t.1++[y.2.2.2.1.2.1[i]],z.t.t.2.1,z.t.t.q.1,z.t.t.q.2.1++[(i:Int)],z.t.t.t),⟨hk,hch,⟨?_,hA.key,?_,hA.on⟩⟩,?_⟩
   ·show z.t.t.1++[y.2.2.2.1.2.1[i]]=_;rw[hA.cols,BG,gG,gG,hsucc,iA];simp[zQ hi]
   ·show z.t.t.q.2.1++[(i:Int)]=_;rw[hA.ix,kl,kl,hsucc,iA];rfl
   ·rw[if_pos (by have:z.t.t.q.2.1.length<=2000:=hxl;simp;omega),if_pos (by have:z.t.t.1.length<=2000:=hcl;simp;omega)]
  ·rename_i hc;rw[ek]at hc;rw[if_neg hc]at hsucc;refine⟨z,⟨hk,hch,⟨?_,hA.key,?_,hA.on⟩⟩,rfl⟩
   ·rw[hA.cols,gG,gG,hsucc]
   ·rw[hA.ix,kl,kl,hsucc]
 ·intro z n hI hn;obtain⟨n,rfl⟩:∃k,n=k+1:=⟨n-1,ow⟩;rw[cL];simp only[LP,IX,Ea,Q8,zC];exact⟨_,rfl,z,rfl,hI⟩
theorem Vc(y:zn be)(hf:length y.2.2.1.2.1<=100)(hl:length y.2.2.2.1.2.1<=100):∃z:zn ap,CT y=Q1 ((il y.2.2.1 y.2.2.2.1 y.2.1.t.2.1 y.t.q.1,()),z)/\nB y z/\z.t.t.q.1=y.t.t.2.1/\
  (gy z).length<=1000000/\(il y.2.2.1 y.2.2.2.1 y.2.1.t.2.1 y.t.q.1=0->EW z (y.2.2.1.2.1++gG y.2.2.2.1 (length y.2.2.2.1.2.1)) y.2.2.1.2.2.1 (kl y.2.2.2.1.2.2.1 (length y.2.2.2.1.2.1)) (zP y.2.2.1 y.2.1.t.2.1)):=by
 have hk:∀(a:List (Sem zi))(b:Int)(c:ze)(d:List Int)(e:Int),nB y (y.1,y.2.1,y.2.2.1,y.2.2.2.1,y.t.1,y.t.2.1,y.t.q.1,y.t.q.2.1,a,b,c,d,e,()):=λ_ _ _ _ _=>⟨rfl,rfl,rfl,rfl,rfl,rfl,rfl,rfl⟩
 have hw:IntKind.i64.wrap (IntKind.i64.wrap ((↑(length y.2.2.1.2.1):Int)+(↑(length y.2.2.2.1.2.1):Int))-1)=(↑(length y.2.2.1.2.1):Int)+(↑(length y.2.2.2.1.2.1):Int)-1:=by
  rw[lJ ((↑(length y.2.2.1.2.1):Int)+(↑(length y.2.2.2.1.2.1):Int)) ow ow,lJ _ ow ow]
 have out:∀e:Int,e≠0->(HB y).val=Q1 (.inr (.int .i64 e,ar ap (y.1,y.2.1,y.2.2.1,y.2.2.2.1,y.t.1,y.t.2.1,y.t.q.1,y.t.q.2.1,[],y.t.t.1,y.t.t.2.1,[],zP y.2.2.1 y.2.1.t.2.1,())))->il y.2.2.1 y.2.2.2.1 y.2.1.t.2.1 y.t.q.1=e->∃z:zn ap,CT y=Q1 ((il y.2.2.1 y.2.2.2.1 y.2.1.t.2.1 y.t.q.1,()),z)/\nB y z/\z.t.t.q.1=y.t.t.2.1/\
  (gy z).length<=1000000/\(il y.2.2.1 y.2.2.2.1 y.2.1.t.2.1 y.t.q.1=0->EW z (y.2.2.1.2.1++gG y.2.2.2.1 (length y.2.2.2.1.2.1)) y.2.2.1.2.2.1 (kl y.2.2.2.1.2.2.1 (length y.2.2.2.1.2.1)) (zP y.2.2.1 y.2.1.t.2.1)):=by
  intro e he hv hE;rw[hE];refine⟨_,VQ hv (cZ (outs:=[zg]) (r:=.int .i64 e) (a:=(e,())) (ps:=ap) _ rfl),hk _ _ _ _ _,rfl,by show([]:List (Sem zi)).length<=_;simp,λh=>absurd h he⟩
 by_cases c1:LT.lt (α:=Int) (zP y.2.2.1 y.2.1.t.2.1) 0
 ·refine out 4 (by decide) ?_ (by unfold il;rw[if_pos c1]);simp only[HB,Kv,Q8,zk,zu c1,if_true]
 by_cases c2:j4 y.2.2.1.t.1 (zP y.2.2.1 y.2.1.t.2.1,y.t.q.1)=Q3
 ·by_cases c3:LT.lt (α:=Int) 9 ((length y.2.2.1.2.1:Int)+(length y.2.2.2.1.2.1:Int))
  ·refine out 13 (by decide) ?_ (by unfold il;rw[if_neg c1,if_pos c2,if_pos c3]);simp only[HB,Kv,Q8,zk,ao c1,c2,hw];rw[if_neg sw,if_neg sw,if_pos sg]
  ·have hE:il y.2.2.1 y.2.2.2.1 y.2.1.t.2.1 y.t.q.1=0:=by unfold il;rw[if_neg c1,if_pos c2,if_neg c3]
   have hv:(HB y).val=Q1 (.inl (.h11 y.2.2.2.1.2.1 (length y.2.2.2.1.2.1:Int) 0 (y.1,y.2.1,y.2.2.1,y.2.2.2.1,y.t.1,y.t.2.1,y.t.q.1,y.t.q.2.1,y.2.2.1.2.1,y.2.2.1.2.2.1,y.t.t.2.1,[],zP y.2.2.1 y.2.1.t.2.1,()))):=by
    simp only[HB,Kv,Q8,zk,ao c1,c2,hw];rw[if_neg sw,if_neg sw,if_neg sg,if_pos sg]
   obtain⟨r,h1,z',rfl,hJ⟩:=zpO y (y.1,y.2.1,y.2.2.1,y.2.2.2.1,y.t.1,y.t.2.1,y.t.q.1,y.t.q.2.1,y.2.2.1.2.1,y.2.2.1.2.2.1,y.t.t.2.1,[],zP y.2.2.1 y.2.1.t.2.1,()) ⟨hk _ _ _ _ _,rfl,⟨by simp[gG,HR],rfl,rfl,rfl⟩⟩ hf hl 100000000 ow;rw[hE];refine⟨z',?_,hJ.1,hJ.2.1,?_,λ_=>hJ.2.2⟩
   ·unfold CT km de;rw[hv];show(da LP 100000000 _).bind _=_;rw[h1];exact cZ (outs:=[zg]) (r:=.int .i64 0) (a:=(0,())) (ps:=ap) z' rfl
   ·have hoth:=pV y.2.2.2.1.2.2.1 (length y.2.2.2.1.2.1);rw[show gy z'=_ from hJ.2.2.cols,j9,gG,di];omega
 ·refine out 10 (by decide) ?_ (by unfold il;rw[if_neg c1,if_neg c2]);simp only[HB,Kv,Q8,zk,ao c1];rw[if_neg sw,if_pos (by simpa using c2)]
end Cad
